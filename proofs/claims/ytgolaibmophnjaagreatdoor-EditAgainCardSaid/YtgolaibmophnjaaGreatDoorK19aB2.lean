/- Lemmas for the claim K19a: how the program's functions run, and what they answer; no condition but those that each theorem names. -/
import Derived.Test.YtgolaibmophnjaaGreatDoorProg
import Derived.Test.YtgolaibmophnjaaGreatDoorK19aB1
set_option linter.unusedVariables false
set_option linter.unusedSimpArgs false
set_option linter.defProp false
set_option maxHeartbeats 16000000
open Go.Hal.SE hiding Cs Dr Lb vB
open Go Go.RowKit Go.Proofs Go.Shelf Go.Hal Go.Proofs.Tryz
variable {p:LP} {d:Int} {L:Κ} {l:Η} {cs:LV} {M:Ο} {m:vu} {a i ss lo n r:Nat} {Q S:Nat->Prop} {ahd yc ye Ó nds s stk ws:Sl} {R:Sl->Wp} {t:LN} {w w':Qd}
namespace Go.Hal
structure Xcr where
 Y:PU
 v:sq
 d:Sl
 e:Sl
 o:Sl
instance:Inhabited Xcr:=⟨⟨⟨#[]⟩,⟨0,0,0⟩,Sl.nil,Sl.nil,Sl.nil⟩⟩
def Uc{x y:Int}{R:À}(hs:IT Ci w S s [x,y])(hR:R (AM x y) w):EK s w R:=
 Ue hs (by
  have: [x,y].foldr AM 0=AM x y:=by
   show AM x (AM y 0)=_;have:AM y 0=y:=by unfold AM;split<;>simp_all
   rw[this]
  rwa [this])
def P4:Bz prog 22 59 7 112:=CM (z:=.agg #[.string ⟨#[]⟩,vi 0,vi 0,vi 0,.slice none 0 0,.slice none 0 0,.slice none 0 0]) kR kR rfl dC
def IT.cut{α:Type}{E:xh α}{l:List α}(h:IT E w S s l){b:Nat}(a0:a<=b)(hb:b<=l.length):IT E w S (Sl.cut s a b E.n) ((l.take b).drop a):=by
 obtain⟨h1,h2,h3,h4,h5⟩:=h;have hl:((l.take b).drop a).length=b - a:=by rw[gq,fk];omega
 refine⟨by rw[hl];rfl,by rw[hl];show b - a<=s.cap - a;omega,by show s.cap - a<=_;omega,?_,?_⟩
 .rw[hl];exact fl (je _ oM) h4
 .by_cases h0:b - a=0
  .exact .inl (fq oM)
  .rcases h5 with h5|⟨ad,ha,hS,hr⟩
   .subst h5;simp at hb;omega
   .refine .inr ⟨ad.add (a*E.n),?_,by rwa [CY],λi x hx=>?_⟩
    .show(if s.cap=a then s.a else _)=_;rw[fb oM,ha];rfl
    .rw[mo]at hx;rw[mn]at hx;split at hx
     .obtain⟨cs,k1,k2⟩:=hr (a+i) x hx;exact⟨cs,k1,by rwa [Dl,<-lj]⟩
     .cases hx
def IV{l:Κ}(h:IT wq w S s l)(hn:n<l.length):
  ∃ad d e o,s.a=some ad/\S ad.block/\Ac l[n].Y/\IT rq w S d l[n].sj/\IT rq w S e l[n].sw/\IT rq w S o l[n].ut/\∀w',AI w w'->se w' (ad.add (n*7)) [.string l[n].Y,.int .i64 l[n].v.ma,.int .i64 l[n].v.mi,.int .i64 l[n].v.pa,d.v,e.v,o.v]:=by
 obtain⟨ad,cs,h1,h2,⟨h0,d,e,o,rfl,a,b,c⟩,h4⟩:=h.el hn;exact⟨ad,d,e,o,h1,h2,h0,a,b,c,h4⟩
structure Đ(w:Qd)(S:Nat->Prop)(q:LP)(L:Κ):Prop where
 at_:∃s,AT w q [Sl.v s]/\IT wq w S s L
 free: ¬S q.block
 tf:Old S w
 Ú:vl L
def Đ.U{q:LP}(h:Đ w S q L)(hx:AI w w'):Đ w' S q L:=by obtain⟨s,a,b⟩:=h.at_;exact⟨⟨s,a.U hx,b.U hx⟩,h.free,h.tf.U hx.size,h.Ú⟩
def Đ.stay{q:LP}(h:Đ w S q L)(a0:w.heap.size<=w'.heap.size)(hk:∀b,b<w.heap.size->(S b\/b=q.block)->w'.heap[b]?=w.heap[b]?):Đ w' S q L:=by obtain⟨s,a,b⟩:=h.at_;exact⟨⟨s,a.ry (S:=λb=>b=q.block) rfl λb hb hl=>hk b hl (.inr hb),b.ry λb hb hl=>hk b hl (.inl hb)⟩,h.free,h.tf.U a0,h.Ú⟩
def Ss{α:Type}{p:α->Bool}{l:List α}(hn:n<l.length)(h0:(l.take n).find? p=none):(l.take (n+1)).find? p=if p l[n]then some l[n]else none:=by rw[dz hn,List.find?_append,h0];simp only[Option.none_or,List.find?_cons,List.find?_nil];cases p l[n]<;>rfl
def Qz{α:Type}{p:α->Bool}{l:List α}(hn:n<l.length)(h0:(l.take n).find? p=none)(h:p l[n]=true):l.find? p=some l[n]:=by
 have e:l.find? p=(l.take (n+1)++l.drop (n+1)).find? p:=by rw[gk]
 rw[e,List.find?_append,Ss hn h0,fo h];rfl
def Zi5{n:PU}{v:sq}{q:LP}{R:PU->Int->Int->Int->Sl->Sl->Sl->Á}(hC:Đ w S q L)
  (hR:∀d e o w',AI w w'->Ac (getD L n v).Y->IT rq w' S d (getD L n v).sj->IT rq w' S e (getD L n v).sw->IT rq w' S o (getD L n v).ut->
   R (getD L n v).Y (getD L n v).v.ma (getD L n v).v.mi (getD L n v).v.pa d e o (AJ L n v).isSome w'):KG (some q) n v.ma v.mi v.pa w R:=by
 unfold KG;obtain⟨s,hb,hs⟩:=hC.at_;have hl:=hs.len;refine An.intro λa w1 x1 ha _ _=>An.intro λa1 w2 x2 b2 b6 _=>?_;have b4:=x1.Z x2;have b9:=b4.size;refine rn.up hs.max (λi w'=>AI w2 w'/\(L.take i).find? (CH n v)=none) ⟨AI.refl _,rfl⟩ λi w3 b8 hi ⟨x3,hI⟩ hn=>?_;have b0:=b4.Z x3;refine⟨q,rfl,s,hb.at0 (r:=[]) b0 rfl,λa8=>sh.drew λw4 x4=>?_,λb7=>?_⟩
 .have a4:i<L.length:=oM;have a0:=b0.Z x4;obtain⟨ad,d,e,o,a9,_,hN,hd,he,ho,hc⟩:=IV hs a4;refine⟨q,rfl,s,hb.at0 (r:=[]) a0 rfl,ad,⟨a9,oM,a8⟩,_,(hc _ a0).pre rfl,py ⟨q,λ_=>rfl,s,λ_=>hb.at0 (r:=[]) a0 rfl,ad,λ_=>⟨a9,oM,a8⟩,_,_,_,λ_=>(hc _ a0).G rfl,_,_,_,λ_=>ha.at0 (r:=[]) (x2.Z (x3.Z x4)) rfl,?_⟩⟩;rw[FO];have ek:(Ag L[i].Y n&&decide (L[i].v=v))=CH n v L[i]:=by unfold CH;rw[ij,ep,AA,fp,fp]
  rw[ek];refine⟨λh=>?_,λh=>hn a4 _ ⟨x3.Z x4,by rw[Ss a4 hI,h];rfl⟩⟩;refine⟨q,rfl,s,hb.at0 (r:=[]) a0 rfl,ad,⟨a9,oM,a8⟩,_,_,_,_,_,_,_,(hc _ a0).pre (r:=[]) rfl,tj.intro (b2.U (x3.Z x4)) sI λw5 b5 _ a6=>⟨_,_,_,_,_,_,_,a6.se.pre rfl,?_⟩⟩;have hg:AJ L n v=some L[i]:=Qz a4 hI h;have x5:AI w w5:=b5.U a0 (by have:=x1.size;omega);have a5:=hR d e o w5 x5;have a7:getD L n v=L[i]:=by unfold getD;rw[hg];rfl
  rw[a7,hg]at a5;exact a5 hN (hd.U x5) (he.U x5) (ho.U x5)
 .have:i=L.length:=oM;rw[this,fe]at hI;refine tj.intro (b2.U x3) sI λw5 b5 _ a6=>⟨_,_,_,_,_,_,_,a6.se.pre rfl,?_⟩;have hg:AJ L n v=none:=hI;have x5:AI w w5:=b5.U b0 (by have:=x1.size;omega);have a5:=hR Sl.nil Sl.nil Sl.nil w5 x5;have a7:getD L n v=SK:=by unfold getD;rw[hg];rfl
  rw[a7,hg]at a5;exact a5 (by unfold Ac;exact im _) (IT.nil trivial) (IT.nil trivial) (IT.nil trivial)
def Zi7{a b:sf}{d1 e1 o1 d2 e2 o2:Sl}{R:Á}(hN:Ac a.Y)(hR:∀w',AI w w'->R (Cp a b) w'):KI a.Y a.v.ma a.v.mi a.v.pa d1 e1 o1 b.Y b.v.ma b.v.mi b.v.pa d2 e2 o2 w R:=by
 refine An.intro λ_ w1 x1 hb _ _=>An.intro λ_ w2 x2 a0 _ _=>?_;refine⟨_,hb.at0 x2 rfl,_,a0.at0 xR rfl,λa4=>⟨_,hb.at0 x2 rfl,_,a0.at0 xR rfl,KB.V (Ŝ hN λw3 x3=>⟨_,rfl,?_⟩)⟩,λhe=>⟨_,_,_,hb.at1 x2 rfl,_,_,_,a0.at1 xR rfl,K8.V (Ziz (a:=a.v) (b:=b.v) λw3 x3=>⟨_,rfl,?_⟩)⟩⟩
 .have e:Cp a b=Ak a.Y b.Y:=by
   unfold Cp cP;rw[ij,fp,Rf,F4];constructor
   .rintro(h|⟨h,_⟩)
    .exact h
    .exact fu (EJ.1 h) a4
   .exact .inl
  rw[<-e];exact hR _ (x1.Z (x2.Z x3))
 .have he:=jt.1 he;have e:Cp a b=decide (0<a.v.cmp b.v):=by unfold Cp cP;rw[ke,Rf,he,EJ.2 rfl];have:=sq.Ç.flip b.v a.v;omega
  rw[<-e];exact hR _ (x1.Z (x2.Z x3))
def Zmf{α:Type}{p:α->Bool}{l:List α}(hi:i<=l.length)(h:∀x∈l.take i,p x=true)(h2:∀x,l[i]?=some x->p x=false):l.takeWhile p=l.take i/\l.dropWhile p=l.drop i:=by
 induction l generalizing i with
 |nil=>simp
 |cons a r ih=>
  cases i with
  |zero=>have:=h2 a rfl;simp[List.takeWhile_cons,qd,this]
  |succ i=>have ha:=h a sI;obtain⟨k1,k2⟩:=ih (i:=i) (by simpa using hi) (λx hx=>h x (by simp[hx])) (λx hx=>h2 x (by simpa using hx));simp[List.takeWhile_cons,qd,ha,k1,k2]
def Zi6{x:sf}{d e o:Sl}{S2:Nat->Prop}{q:LP}{R:À}(hC:Đ w S q L)(hN:Ac x.Y)(c5:Old S2 w)(hq: ¬S2 q.block)
  (hd:IT rq w S2 d x.sj) (he:IT rq w S2 e x.sw) (ho:IT rq w S2 o x.ut)
  (hR:∀w',ur q.block w w'->Đ w' (λb=>(S b\/S2 b)\/(w.heap.size<=b/\b<w'.heap.size)) q (BF L x).2->R (BF L x).1 w'):KH (some q) x.Y x.v.ma x.v.mi x.v.pa d e o w R:=by
 unfold KH;obtain⟨s,hb,hs⟩:=hC.at_;have h8:=hb.lt;have hl:=hs.len;have g9:=hC.Ú.le;have same:∀w',AI w w'->Đ w' (λb=>(S b\/S2 b)\/(w.heap.size<=b/\b<w'.heap.size)) q L:=λw' hx=>
  ⟨⟨s,hb.U hx,(hs.U hx).O λb hb=>.inl (.inl hb)⟩,λh=>by
   rcases h with(h|h)|h
   .exact hC.free h
   .exact hq h
   .omega,λb hb=>by
   have:=hx.size;rcases hb with(h|h)|h
   .have:=hC.tf b h;omega
   .have:=c5 b h;omega
   .exact h.2,hC.Ú⟩
 refine An.intro λa w1 x1 ha h6 _=>⟨_,_,_,_,_,_,_,ha.se.pre rfl,KC.V (Zi1 (p:=x) hN (hd.U x1) (he.U x1) (ho.U x1) λw2 x2=>⟨_,rfl,λh=>?_,λh=>?_⟩)⟩
 .have e1:AH x=false:=by simpa using h
  have hp:BF L x=(24,L):=by unfold BF;rw[fo e1]
  rw[hp]at hR;exact hR w2 ((x1.Z x2).J _) (same _ (x1.Z x2))
 have b4:AH x=true:=by simpa using h
 have f2:=x1.Z x2;refine⟨_,ha.at0 x2 rfl,_,_,_,ha.at1 x2 rfl,KG.V (Zi5 (n:=x.Y) (v:=x.v) (hC.U f2) λd0 e0 o0 w3 x3 _ _ _ _=>⟨_,_,_,_,_,_,_,_,rfl,An.intro λa7 w4 x4 f7 h0 _=>tj.intro f7 sI λw5 b5 _ _=>⟨λh=>?_,λh=>?_⟩⟩)⟩
 all_goals
  have s1:=x1.size;have s2:=x2.size;have s3:=x3.size;have s4:=x4.size;have a9:AI w w5:=b5.U (f2.Z (x3.Z x4)) oM
 .have hp:BF L x=(11,L):=by unfold BF;rw[fb (by rw[b4];simp),fo h]
  rw[hp]at hR;exact hR w5 (a9.J _) (same _ a9)
 have b6:(AJ L x.Y x.v).isSome=false:=h;refine⟨q,rfl,s,hb.at0 (r:=[]) a9 rfl,λh=>?_,λh=>?_⟩
 .have hp:BF L x=(26,L):=by unfold BF;rw[fb (by rw[b4];simp),fb (by rw[b6];simp),fo oM]
  rw[hp]at hR;exact hR w5 (a9.J _) (same _ a9)
 have h7:L.length<128:=oM;have hp:BF L x=(0,Ex x L):=by unfold BF;rw[fb (by rw[b4];simp),fb (by rw[b6];simp),fb oM]
 have b2:=R6 hC.Ú x;rw[hp]at hR b2;have g8:AI w1 w5:=b5.U (x2.Z (x3.Z x4)) oM;have c4:wq.bytes=112:=rfl;refine rn.up hs.max (λi w'=>AI w5 w'/\∀y∈L.take i,Cp y x=true) ⟨AI.refl _,by simp⟩ λi w6 h9 hi ⟨x6,hI⟩ hn=>sh.drew λw7 x7=>?_;have d4:=x6.Z x7;have c7:=a9.Z d4;have f3:=g8.Z d4;obtain⟨ad,y,dy,ey,oy,b0⟩:∃(ad:LP) (y:sf) (dy ey oy:Sl),decide ((i:Int)<(s.len:Int))=true->s.a=some ad/\L[i]?=some y/\Ac y.Y/\∀w',AI w w'->se w' (ad.add (i*7)) [.string y.Y,vi y.v.ma,vi y.v.mi,vi y.v.pa,dy.v,ey.v,oy.v]:=by
  by_cases c9:i<L.length
  .obtain⟨ad,d',e',o',g2,_,f6,_,_,_,hc⟩:=IV hs c9;exact⟨ad,L[i],d',e',o',λ_=>⟨g2,dw c9,f6,hc⟩⟩
  .exact⟨q,SK,Sl.nil,Sl.nil,Sl.nil,λh=>by simp at h;omega⟩
 refine⟨q,rfl,s,hb.at0 (r:=[]) c7 rfl,py ⟨q,λ_=>rfl,s,λ_=>hb.at0 (r:=[]) c7 rfl,ad,λh=>⟨(b0 h).1,oM,by simpa using h⟩,y.Y,y.v.ma,y.v.mi,y.v.pa,dy,ey,oy,λh=>(b0 h).2.2.2 w7 c7,x.Y,x.v.ma,x.v.mi,x.v.pa,d,e,o,λ_=>ha.at0 (r:=[]) f3 rfl,No.named λJ hJ=>?_⟩⟩;have key:∀t w8,AI w7 w8->(decide ((i:Int)<(s.len:Int))=true->t=Cp y x)->J t w8:=λt w8 x8 ht=>by
  subst hJ;have a5:=c7.Z x8;refine⟨λh=>?_,λh=>?_⟩
  .simp only[ep]at h;obtain⟨k1,k2,_,_⟩:=b0 h.1;have c6:i<L.length:=by have:=h.1;simp at this;omega
   refine hn c6 _ ⟨d4.Z x8,λz hz=>?_⟩;rw[dz c6]at hz;obtain hz|hz:=fj.1 hz
   .exact hI z hz
   .simp at hz;subst hz;rw[dw c6,ff]at k2;rw[k2,<-ht h.1];exact h.2
  .have f8:∀z,L[i]?=some z->Cp z x=false:=λz hz=>by have c6:=(ec.1 hz).1;have d2:decide ((i:Int)<(s.len:Int))=true:=(by simp;omega);obtain⟨_,k2,_,_⟩:=b0 d2;rw[hz,ff]at k2;rw[k2,<-ht d2];rw[d2]at h;simpa using h
   obtain⟨g3,g4⟩:=Zmf (p:=(Cp · x)) (l:=L) (i:=i) hi hI f8;have e6:Ex x L=L.take i++x::L.drop i:=by unfold Ex;rw[g3,g4]
   have e8:=hs.U a5;have h1:=hs.2.1;have c1:=e8.cut (a:=0) (b:=i) (im _) hi;have c2:=e8.cut (a:=i) (b:=L.length) hi nR;rw[lf]at c1;rw[fe]at c2;have b7:(L.take i).length=i:=(by rw[fk];omega);have e9:(L.drop i).length=L.length - i:=gq;have e5:Old S w8:=hC.tf.U a5.size;refine⟨q,rfl,s,hb.at0 (r:=[]) a5 rfl,⟨oM,oM⟩,?_⟩;refine(rl.zero (E:=wq) (T:=59) w8).zj P4 nR c1 e5 (λad h=>by cases h) (by rw[c4,b7];unfold Ab;simp;omega) (by rw[b7,Al];simp;omega) λr1 w9 b8 d6 _ h3=>?_;rw[iz]at b8;have x9:AI w8 w9:=d6;refine⟨_,_,_,_,_,_,_,ha.at0 (r:=[]) (f3.Z (x8.Z x9)) rfl,An.intro λh4 g5 d3 e4 h5 _=>?_⟩;have c3:=x9.Z d3;have s9:=x9.size;have i3:=d3.size;have a8:=a5.Z c3;have i2:=a5.size;have d9:Old S2 g5:=c5.U a8.size;have f9:∀ad,r1.a=some ad->w8.heap.size<=ad.block:=λad h=>(b8.block h).1;refine(b8.U d3).push (x:=x) (S':=S2) P4 c3.size ⟨hN,d,e,o,rfl,hd.U a8,he.U a8,ho.U a8⟩ e4.se d9 (λad a4 hb=>by have:=f9 ad a4;have:=c5 _ hb;omega) (by rw[c4,b7];unfold Ab;omega) (by rw[b7,Al];omega) λr2 g6 d1 d7 _ _=>?_;have a0:AI w8 g6:=c3.A d7;have f1:=a5.Z a0;refine⟨q,rfl,s,hb.at0 (r:=[]) f1 rfl,⟨oM,oM⟩,?_⟩;have g0:∀ad,r2.a=some ad->w8.heap.size<=ad.block:=λad h=>(d1.block h).1;have l2:(L.take i++[x]).length=i+1:=(by rw[dx,b7];rfl);rw[hl];refine d1.zj P4 a0.size (c2.U a0) (e5.U a0.size) (λad a4 hb=>by have:=g0 ad a4;have:=hC.tf _ hb;omega) (by rw[c4,l2,e9];unfold Ab;omega) (by rw[l2,e9,Al];omega) λr3 g7 a6 d8 _ _=>?_;have f4:AI w8 g7:=a0.A d8;have b9:=a5.Z f4;have e3:(L.take i++[x])++L.drop i=Ex x L:=(by rw[e6];simp);rw[e3]at a6;have c8:(Ex x L).length=L.length+1:=(by rw[(Rq x L).length_eq];simp);refine⟨q,rfl,tj.intro (hb.U b9) sI λf0 d5 h2 e2=>?_⟩;have e7:∀b,(((rz b\/S b)\/S2 b)\/S b)\/(∃ad,r3.a=some ad/\b=ad.block)->(S b\/S2 b)\/(w.heap.size<=b/\b<f0.heap.size):=λb hb=>by
    rcases hb with(((hb|hb)|hb)|hb)|⟨ad,a4,rfl⟩
    .exact hb.F
    .exact .inl (.inl hb)
    .exact .inl (.inr hb)
    .exact .inl (.inl hb)
    .have:=a6.block a4;exact .inr ⟨oM,oM⟩
   have g1:=a6.I (by rw[c4,c8];unfold Ab;omega) (by rw[c8,Al];omega);refine hR f0 ((b9.J _).Z d5) ⟨⟨r3,e2,(g1.J d5 λhb=>?_).O e7⟩,λhb=>?_,λb hb=>?_,b2⟩
   .rcases hb with(((hb|hb)|hb)|hb)|⟨ad,a4,hb⟩
    .exact hb.F
    .exact hC.free hb
    .exact hq hb
    .exact hC.free hb
    .have:=a6.block a4;omega
   .rcases hb with(hb|hb)|hb
    .exact hC.free hb
    .exact hq hb
    .omega
   .have:=b9.size;rcases hb with(hb|hb)|hb
    .have:=hC.tf b hb;omega
    .have:=c5 b hb;omega
    .exact hb.2
 refine⟨λhg=>KI.V (Zi7 (a:=y) (b:=x) (b0 hg).2.2.1 λw8 x8=>⟨_,rfl,key _ _ x8 λ_=>rfl⟩),λhg=>key _ _ xR λh=>by rw[hg]at h;cases h⟩
def cW(a b:uu):Int:=A7 a.Y b.Y
def DZ(ss:Int)(ru:Ι)(d:uf):uu:=⟨d.Y,ss,Ew ru d.Y d.range⟩
def XX{l:Ο}(h:IT Pa w S s l)(hn:n<l.length):
  ∃ad t,s.a=some ad/\S ad.block/\Ac l[n].Y/\IT ui w S t l[n].range/\∀w',AI w w'->se w' (ad.add (n*3)) [.string l[n].Y,.int .i64 l[n].ss,t.v]:=by
 obtain⟨ad,cs,h1,h2,⟨h0,t,rfl,h5⟩,h4⟩:=h.el hn;exact⟨ad,t,h1,h2,h0,h5,h4⟩
def YO:Bz prog 125 134 3 48:=CM (z:=.agg #[.string ⟨#[]⟩,vi 0,.slice none 0 0]) kR kR rfl dC
def Sm{α:Type}{c:α->α->Int}(l:List α):(Bw c l).length=l.length:=(FK l).length_eq
def Ea(ru a b:Ι):Ο:=Bw cW (a.map (DZ 1 ru)++b.map (DZ 2 ru))
def Dy(m:vu)(uo:Bool):Ι:=if uo then m.sj++m.uo else m.sj
def SF{mD dR:Sl}{dN:PU}{ru:Ι}{dr:Λ}(hS:Old S w)(hO:IT rq w S Ó ru)(hd:IT ui w S dR dr)
  (hR:∀t w',AI w w'->zn ui w' (λb=>w.heap.size<=b/\b<w'.heap.size) t (Ew ru dN dr)->R t w'):HL mD yc ye Ó dN dR w R:=by
 refine An.intro λa w1 x1 ha _ _=>An.intro λa1 w2 x2 a8 _ _=>?_;have b0:=x1.Z x2;have hl:=hO.len;refine⟨Ó,ha.at1 x2 rfl,rn.up hO.max (λi w'=>AI w2 w'/\∀k<i,∀e:uf,ru[k]?=some e-> ¬e.Y=dN) ⟨AI.refl _,λk hk=>by omega⟩ λi w3 c4 hi ⟨x3,hI⟩ hn=>⟨λb4=>?_,λb9=>?_⟩⟩
 .have a4:i<ru.length:=oM;have a0:=b0.Z x3;obtain⟨ad,t,b7,_,c3,hr,hc⟩:=BH hO a4;refine⟨ad,⟨b7,oM,b4⟩,_,t,hc _ a0,An.intro λa5 w4 x4 b2 b8 _=>tj.intro b2 sI λw5 b5 _ a9=>⟨_,a9.se.pre rfl,dN,(a8.U x3).at0 (b5.U x4 oM) rfl,λhe=>?_,λb6=>?_⟩⟩
  .have a7:AI w3 w5:=b5.U x4 oM;have a6:=a0.Z a7;refine⟨t,a9.at1 (k:=1) xR rfl,H8.V (PR (hS.U a6.size) (hr.U a6) λu w6 x6 hu=>⟨_,rfl,?_⟩)⟩;refine hR _ _ (a6.Z x6) ?_;rw[Zhq (dw a4) he hI];have:=a6.size;exact hu.O λb hb=>⟨oM,hb.2⟩
  .have a7:AI w3 w5:=b5.U x4 oM;refine hn a4 _ ⟨x3.Z a7,λk hk e he=>?_⟩;obtain h|rfl:=iy.1 hk
   .exact hI k h e he
   .rw[dw a4,ff]at he;subst he;exact b6
 .have a0:=b0.Z x3;refine⟨dR,(a8.U x3).at1 (k:=1) xR rfl,H8.V (PR (hS.U a0.size) (hd.U a0) λu w6 x6 hu=>⟨_,rfl,?_⟩)⟩;refine hR _ _ (a0.Z x6) ?_;rw[Zhr λk e he=>hI k (by have:=(ec.1 he).1;omega) e he];have:=a0.size;exact hu.O λb hb=>⟨oM,hb.2⟩
def zn.Xaz{α:Type}{E:xh α}{l:List α}{k:Nat}(h:zn E w S s l):zn E w S (Sl.mk (if(s.len:Int).toNat=0 then s.a else s.a.map (·.add (0*k))) ((s.len:Int).toNat - 0) ((s.len:Int).toNat - 0)) l:=by
 have ea:(if(s.len:Int).toNat=0 then s.a else s.a.map (·.add (0*k)))=s.a:=by
  split
  .rfl
  .rw[mw];cases s.a<;>rfl
 rw[ea];obtain⟨⟨h1,h2,h3,h4,h5⟩,h6⟩:=h;exact⟨⟨by simp[h1],by simp[h1],by simp[h1];omega,h4,h5⟩,h6⟩
def Ua(h:s.len<=s.cap):(0:Int)<=0/\0<=(s.len:Int)/\(s.len:Int)<=(s.len:Int)/\(s.len:Int)<=(s.cap:Int):=⟨oM,oM,oM,oM⟩
def Ħ{pN:PU}{v1 v2 v3:Int}{pD pP pO mD:Sl}{ru sw:Ι}(hS:Old S w)(hO:IT rq w S Ó ru)(hp:IT rq w S pP sw)
  (hR:∀t w',AI w w'->zn zx w' (λb=>w.heap.size<=b/\b<w'.heap.size) t (BL ru sw)->R t w'):MY pN v1 v2 v3 pD pP pO mD yc ye Ó w R:=by
 refine An.intro λa w1 x1 ha _ _=>An.intro λa1 w2 x2 c4 _ _=>?_;have b0:=x1.Z x2;have hl:=hp.len;have h4:=hp.2.2.2.1;have b4:rq.bytes=40:=rfl;have b6:zx.bytes=40:=rfl;refine⟨pP,ha.at1 x2 rfl,uc.up hp.max (λrv i w'=>AI w2 w'/\∃Q,rl zx 187 w' w2.heap.size Q rv (BL ru (sw.take i))/\∀b,Q b->w2.heap.size<=b) ⟨AI.refl _,_,rl.zero _,λ_ h=>h.F⟩ λrv i w3 d5 hi ⟨x3,Q,ux,hQ⟩ hn=>⟨λc7=>?_,λd4=>?_⟩⟩
 .have a0:i<sw.length:=oM;have c3:=b0.Z x3;obtain⟨ad,t,c9,_,c8,hr,hc⟩:=BH hp a0;refine⟨ad,⟨c9,oM,c7⟩,_,t,hc _ c3,An.intro λa5 w4 x4 c5 d2 _=>tj.intro c5 sI λw5 b5 _ b7=>sh.drew λw6 x6=>?_⟩;have d1:AI w3 w5:=b5.U x4 oM;have a6:=d1.Z x6;have a4:=c3.Z a6;refine⟨_,b7.at0 x6 rfl,mD,yc,ye,Ó,(c4.U x3).at0 (r:=[]) a6 rfl,_,t,b7.at0 (r:=[]) x6 rfl,tc.intro (HL.V (SF (hS.U a4.size) (hO.U a4) (hr.U a4) λu w7 x7 hu=>⟨x7,_,rfl,An.intro λa7 w8 x8 c6 d3 _=>?_⟩))⟩;have b2:=a6.Z (x7.Z x8);have s6:=a4.size;have d6:=a6.size;have s3:=x3.size;have s8:=x8.size;have s7:=x7.size;have d0:=(hu.U x8).O (S':=λb=>w6.heap.size<=b/\b<w8.heap.size) λb hb=>⟨hb.1,oM⟩;have a8:(BL ru (sw.take i)).length=i:=by simp[BL];omega
  refine(ux.U b2).push JD (x3.Z b2).size (x:=⟨sw[i].Y,Ew ru sw[i].Y sw[i].range⟩) (S':=λb=>w6.heap.size<=b/\b<w8.heap.size) ⟨c8,u,rfl,d0⟩ c6.se (λb hb=>hb.2) (λad ha hb=>?_) (by rw[a8];rw[b4]at h4;rw[b6];omega) (by rw[a8];have:=hp.max;omega) λr w9 b9 vd _ _=>hn a0 _ _ ⟨(x3.Z b2).A vd,λb=>Q b\/(w6.heap.size<=b/\b<w8.heap.size),?_,λb hb=>?_⟩
  .have:=(ux.block ha).2.1;omega
  .have e:BL ru (sw.take (i+1))=BL ru (sw.take i)++[⟨sw[i].Y,Ew ru sw[i].Y sw[i].range⟩]:=(by unfold BL;rw[dz a0,gd];rfl);rwa [e]
  .obtain hb|hb:=hb
   .exact hQ b hb
   .omega
 .have:i=sw.length:=oM;rw[this,fe]at ux;have b8:(BL ru sw).length=sw.length:=by simp[BL]
  have a9:=ux.Xbf (by rw[b8,b6];rw[b4]at h4;exact h4) (by rw[b8];exact hp.max);refine RQ.V ⟨Ua (by have:=a9.1.1;have:=a9.1.2.1;omega),_,rfl,hR _ _ (b0.Z x3) (a9.Xaz.O λb hb=>?_)⟩;have:=b0.size;rcases hb with hb|⟨ad,ha,rfl⟩
  .have:=hQ b hb;have:=ux.lt b hb;exact⟨oM,oM⟩
  .have:=ux.block ha;exact⟨oM,this.2.1⟩
structure xu where
 Y:PU
 ss:Int
 range:Sl
namespace StW
def cells(x:xu):LV:=[.string x.Y,vi x.ss,x.range.v]
def Q0:StG.Sh xu:=⟨_,_,_,Fq,xu.Y,xu.ss,xu.range,λ_ _ _=>rfl⟩
def G0:StG.Gos Q0:=⟨386,387,409,421,361,λ_ _ _ _ _ _ h=>RT.V h,λ_ _ _ _ _ _ _ h=>Sb.V h,λ_ _ _ _ _ _ _ h=>RV.V h,λ_ _ _ _ _ _ _ h=>RZ.V h,λ_ _ _ _ _ h=>RX.V h⟩
def Ë(cmp:HT)(c:xu->xu->Int)(g:Nat)(w0:Qd):Prop:=
 ∀(x y:xu)(w:Qd)(k:Ã),ur g w0 w->(∀w',AI w w'->k (vi (c x y)) w')->ug prog cmp [.agg (cells x).toArray,.agg (cells y).toArray] w k
def xi{cmp:HT}{c:xu->xu->Int}{g:Nat}(hO:vv c){data:Sl}{tail:LV}{R:Wp}{l:List xu}(hd:data.a=some ⟨g,0,none⟩)(a0:data.len<2305843009213693952)(hc:Ë cmp c g w)(a4:data.len=l.length)(hB:tm cells w g l tail)
  (hR:∀w',ur g w w'->tm cells w' g (Bw c l) tail->R w'):Jm data cmp w R:=StG.xi (Q0:=Q0) G0 hO hd a0 hc a4 hB hR
def wu{cmp:HT}{data:Sl}{R:Wp}(h0:data.len=0)(hR:R w):Jm data cmp w R:=StG.wu (Q0:=Q0) G0 h0 hR
end StW
end Go.Hal
namespace Go.Hal
def QW{x:sf}(h:AH x=true):Ad x.Y=true/\x.v.vt=true/\Ax x.sj=true/\Ax x.sw=true/\Ax x.ut=true:=by unfold AH Cj at h;simp only[ep]at h;exact⟨h.1.1.1.1.1,h.1.1.1.1.2,h.1.1.1.2,h.1.1.2,h.1.2⟩
def Zh8(ru l:Ι):(BL ru l).map (·.Y)=l.map (·.Y):=by unfold BL;rw[jj];rfl
def Uk(hg:vl L){ru:Ι}{env:Η}{p:sy}{rv:Η}(h:ë (AJ L) ru env p i rv):rv.length<=2048:=by
 have h1:=EU (m:=L.flatMap λx=>x.sw.map (·.Y)) h.yn λn hn=>by
  obtain⟨r,hr,rfl⟩:=gv.1 hn;have key:∀r,Reach (AJ L) ru env p r->r.Y∈L.flatMap λx=>x.sw.map (·.Y):=λr hr=>by
   have ask:∀q r,HO (AJ L) ru env q r->r.Y∈L.flatMap λx=>x.sw.map (·.Y):=λq r ⟨x,d,hx,hd,hn,_⟩=>(by refine List.mem_flatMap.2 ⟨x,(Gd hx).1,?_⟩;rw[<-Zh8 ru,hn];exact ix hd);cases hr with
   |one ha=>exact ask _ _ ha
   |more _ ha=>exact ask _ _ ha
  exact key r (h.reach r hr)
 have h2:∀L:Κ,(∀x∈L,AH x=true)->(L.flatMap λx=>x.sw.map (·.Y)).length<=16*L.length:=λL=>by
  induction L with
  |nil=>intro _;simp
  |cons x r ih=>intro h;have:=ih λy hy=>h y (.tail _ hy);have:=(BE (QW (h x (.head _))).2.2.2.1).1;simp only[List.flatMap_cons,dx,eh,gb];omega
 have h3:=h2 L hg.vt;have:=hg.le;rw[eh]at h1;omega
def AY(p:sy):LV:=[.string p.Y,vi p.v.ma,vi p.v.mi,vi p.v.pa]
def yd(s t:Sl):Prop:=∀ad ad',s.a=some ad->t.a=some ad'->ad.block≠ad'.block
def rl.Xb5{α β:Type}{E:xh α}{F:xh β}{P:LD}{e e2:LN}{s2:Sl}{l:List α}{l2:List β}{x:α}{a:LP}{k:Sl->Wp}(h:rl E e w lo rz s l)(h2:rl F e2 w lo rz s2 l2)(hA:yd s s2)(a7:lo<=w.heap.size)(hT:Bz P t e E.n E.bytes)
  (hx:E.rep w rz x cs) (hc:se w a cs) (hb:(l.length+1)*E.bytes<=Ab) (hm:l.length+1<=maxLen) (hk:∀r w',rl E e w' lo rz r (l++[x])->rl F e2 w' lo rz s2 l2->yd r s2->Below lo w w'->(∀b,b<w.heap.size->(∀ad,s.a=some ad->b≠ad.block)->w'.heap[b]?=w.heap[b]?)->(∀ad,r.a=some ad->(s.a=some ad\/w.heap.size<=ad.block))->k r w'):ue P t t s (Sl.v ⟨some a,1,1⟩) w k:=by
 refine h.push hT a7 hx hc (λ_ h=>h.F) (λ_ _ h=>h.F) hb hm λr w' ux vd yf a4=>hk r w' (ux.O (λ_ h=>h.F id id) (λ_ h=>h.F) (λ_ _ h=>h.F)) (h2.ry vd.size λb a6 a0=>?_) (λad a5 h3 h4=>?_) vd yf a4
 .rcases a0 with a0|⟨ad,ha,rfl⟩
  .exact a0.F
  .exact yf _ a6 λa5 h'=>Ne.H (hA _ _ h' ha)
 .obtain h5|h5:=a4 ad h3
  .exact hA _ _ h5 h4
  .have:=(h2.block h4).2.1;omega
def yd.swap{t:Sl}(h:yd s t):yd t s:=λa b h1 h2=>Ne.H (h b a h2 h1)
def An.ux{α:Type}{E:xh α}{x:α}{k:Ä}(hx:E.rep w rz x cs)(h:∀a w',AI w w'->rl E t w' w.heap.size rz ⟨some a,1,1⟩ [x]->a.block=w.heap.size->k a w'):An w cs t k:=λa w' ha hw=>by
 subst ha hw;have hl:=E.len hx;refine h _ _ (AI.alloc _ _) ⟨⟨[cs],⟨by simp[hl],.inr ⟨w.heap.size,1,cs.toArray,rfl,ga _,heap_alloc_new w _,ga _,by rw[Al];omega,by simp[hl],?_⟩⟩,rfl,λi y hy=>?_⟩,rfl,λ_ h=>h.F,λ_ _ h=>h.F⟩ rfl
 .simp[hl,ia (Nat.le_of_eq hl)]
 .cases i with
  |zero=>simp only[jr,ff]at hy;subst hy;exact⟨cs,rfl,E.ry hx ((AI.alloc w _).ry _)⟩
  |succ i=>simp at hy
def JE:Bz prog 53 150 4 40:=CM (z:=.agg #[.string ⟨#[]⟩,vi 0,vi 0,vi 0]) kR kR rfl dC
def ZO{q:sy}{n:PU}{c0:LP}{R:Á}(hc:AT w c0 [.string n])(hR:∀w',AI w w'->R (As n q) w'):MU q.Y q.v.ma q.v.mi q.v.pa c0 w R:=by
 refine An.intro λa w1 x1 hb _ _=>⟨_,hb.at0 xR rfl,n,hc.at0 (r:=[]) x1 rfl,?_⟩;have e:Ag q.Y n=As n q:=by unfold As;rw[ij,AA,fp]
 rw[e];exact hR _ x1
def Zb9:Bi prog 200:=enters_of func200 kR rfl
def ŧ{n:PU}{R:Ã}(hR:∀f w',AI w w'->(∀l:Η,Fw f (λx=>.agg #[.string x.Y,vi x.v.ma,vi x.v.mi,vi x.v.pa]) (As n) l w')->R f w'):Jw n w R:=by refine An.intro λa w1 x1 hb _ _=>hR _ w1 x1 λl x _ w' k hx hk=>⟨_,_,rfl,Zb9,MU.V (ZO (q:=x) (n:=n) (hb.U hx) hk)⟩
def ZP{a b:sy}{R:À}(hR:∀w',Gr w w'->R (A7 a.Y b.Y) w'):MV a.Y a.v.ma a.v.mi a.v.pa b.Y b.v.ma b.v.mi b.v.pa w R:=by refine An.gr λ_ w1 x1 hb=>An.gr λ_ w2 x2 a0=>⟨_,Gr.at0 hb x2 rfl,_,Gr.at0 a0 (Gr.refl _) rfl,Fg ⟨_,rfl,hR _ (x1.Z x2)⟩⟩
def Zbr:Bi prog 202:=enters_of func202 kR rfl
def QH:∀w,(isAgg 150).run prog w= .ok true w:=λw=>by kernel_rfl
def RN:∀w,(Go.sizeOf 150).run prog w= .ok 4 w:=λw=>by kernel_rfl
def Zlc{K:Ã}(h:tk AY 40 w lo s l)(a4:lo<=w.heap.size)(hn:(l.map (·.Y)).Nodup)
  (hK:∀w',Below lo w w'->tk AY 40 w' lo s (AD l)->K (.tuple #[]) w'):
  si prog 120 [s.v,.func (.func 202) #[] #[]] w K:=by
 obtain⟨h1,h2,h3,h4,h5⟩:=h;obtain⟨a,n,c⟩:=s;simp only at h1 h2 h3 h5;subst h1;rcases h5 with rfl|⟨g,tail,ha,hg,hr⟩
 .refine(AnyF.slices_SortFunc_none Tryz.ī a c _ w).O λe w' ⟨he,hw⟩=>⟨_,he,?_⟩;subst hw;exact hK _ (Below.refl _ _) ⟨rfl,h2,h3,h4,.inl rfl⟩
 .subst ha;have hO:=DN (α:=sy) (·.Y);refine FJ Tryz.ī (k:=4) QH RN (f:=AY) (λ_=>rfl) (λx v hv=>by simp[AY]at hv;rcases hv with rfl|rfl|rfl|rfl<;>rfl) (λa b=>A7 a.Y b.Y) (Fh hO.flip hO.Z) 202 #[] Zbr (λw0 x y hb _=>?_) hr (by unfold Ab at h4;omega) rfl λl' w' hp hs b a5=>?_
  .have h:=MV.V (k:=λv w'=>v= .int .i64 (A7 x.Y y.Y)/\Gr w0 w') (ZP (a:=x) (b:=y) (w:=w0) λw' h=>⟨rfl,h⟩);exact Calls.O h λe w' ⟨v,he,hv,hg⟩=>⟨by rw[he,hv],hg⟩
  .have e:l'=AD l:=by refine yy.one ?_ (M6 hn) (hp.Z (DG l).H);have a0:(l'.map (·.Y)).Nodup:=(hp.map _).nodup_iff.2 hn;rw[ii,iv]at a0;exact(hs.and a0).imp λ{a b} h=>JF (by have:=hO.flip b a;have:=hO.flip a b;omega) h.2
   subst e;have hl:=(DG l).length_eq;exact hK w' (b.below a4 hg) ⟨hl.H,by rwa [hl],h3,by rwa [hl],.inr ⟨g,tail,rfl,hg,a5⟩⟩
def Dw(h:IT uy w S s l)(hn:n<l.length):
  ∃ad,s.a=some ad/\S ad.block/\Ac l[n].Y/\∀w',AI w w'->se w' (ad.add (n*4)) (AY l[n]):=by
 obtain⟨ad,cs,h1,h2,⟨rfl,h3⟩,h4⟩:=h.el hn;exact⟨ad,h1,h2,h3,h4⟩
def rl.el{α:Type}{E:xh α}{T:LN}{l:List α}(h:rl E T w lo S s l){x:α}(hx:l[i]?=some x):∃ad cs,s.a=some ad/\E.rep w S x cs/\∀w',AI w w'->se w' (ad.add (i*E.n)) cs:=by
 obtain⟨css,ho,hl,hr⟩:=h.row;obtain⟨cs,h1,h2⟩:=hr i x hx;rcases ho.2 with⟨hv,hn⟩|⟨g,cap,a7,hv,hg,hh,hc,a8,a4,ht⟩
 .have:=(ec.1 hx).1;have:=h.len;omega
 .simp[Sl.v]at hv;refine⟨⟨g,0,none⟩,cs,hv.1,h2,λw' a5=>?_⟩;have a0:∀cs∈css,cs.length=E.n:=by intro cs a4;obtain⟨k,hk,he⟩:=gh.1 a4;obtain⟨a6,h3,h4⟩:=hr k _ (dw oM);rw[dw hk,he,ff]at h3;rw[h3];exact E.len h4
  have:se w ((⟨g,0,none⟩:LP).add (i*E.n)) cs:=λj v hj=>by rw[Dl];exact ho.cells (g:=g) (by simp[Value.ownBlock,Sl.v,hv.1]) _ _ (NS a0 h1 hj)
  exact this.U a5
def Zmj{env:Η}{n:PU}:(AX (As n) env<0/\un env n=none)\/∃k,∃hk:k<env.length,AX (As n) env=(k:Int)/\un env n=some env[k].v/\env[k].Y=n:=by
 unfold AX un;cases hf:env.findIdx? (As n)with
 |none=>left;refine⟨by decide,?_⟩;rw[Option.map_eq_none_iff,kq];intro x hx;have:=nf.1 hf x hx;simp[this]
 |some k=>
  right;obtain⟨hk,hp,hb⟩:=jw.1 hf;refine⟨k,hk,rfl,?_,by simpa[As]using hp⟩;have h0:(env.take k).find? (As n)=none:=by rw[kq];intro x hx;obtain⟨j,hj,rfl⟩:=gh.1 hx;rw[fk]at hj;rw[kf];exact hb j oM
  have h1:(env.take (k+1)).find? (As n)=some env[k]:=by rw[dz hk,List.find?_append,h0];simp[List.find?_cons,hp]
  have h2:env.find? (As n)=some env[k]:=by have e:env.find? (As n)=(env.take (k+1)++env.drop (k+1)).find? (As n):=(by rw[gk]);rw[e,List.find?_append,h1];rfl
  rw[h2];rfl
def Cf(L:Κ)(ru:Ι)(env:Η)(p:sy):Option (Η):=uk (AJ L) ru env p
def Kp(lo c d:Nat)(w w':Qd):Prop:=Below lo w w'/\∀b,c<=b->b<d->w'.heap[b]?=w.heap[b]?
def Kp.refl(lo c d:Nat)(w:Qd):Kp lo c d w w:=⟨Below.refl _ _,λ_ _ _=>rfl⟩
def Kp.Z{c d:Nat}{u v:Qd}(h:Kp lo c d u v)(k:Kp lo c d v w):Kp lo c d u w:=⟨Below.Z h.1 k.1,λb h1 h2=>(k.2 b h1 h2).Z (h.2 b h1 h2)⟩
def Kp.U{c d:Nat}{u v:Qd}(h:Kp lo c d u v)(hx:AI v w)(h1:lo<=v.heap.size)(h2:d<=v.heap.size):Kp lo c d u w:=h.Z ⟨Below.O hx h1,λb _ h3=>hx.block oM⟩
def Zny{S2:Nat->Prop}{mD envS:Sl}{ru:Ι}{env:Η}{pn:sy}{S3:Nat->Prop}{R:Sl->Á}
  (hC:yz w S p r L) (o6:Old S2 w) (v9:Old S3 w) (hO:IT rq w S2 Ó ru) (hE:IT uy w S3 envS env) (j7:Ac pn.Y)
  (g7:∀a t w',Cf L ru env pn=some a->AI w w'->tk AY 40 w' w.heap.size t a->(∀q∈a,Ac q.Y)->R t true w') (c5:∀w',Cf L ru env pn=none->AI w w'->R Sl.nil false w'):
  MT (some p) mD yc ye Ó envS pn.Y pn.v.ma pn.v.mi pn.v.pa w R:=by
 unfold MT;have d5:=hC.Ú;refine An.intro λa w1 x1 ha _ _=>An.intro λa1 w2 x2 p0 _ _=>⟨nO,λ_=>?_⟩;have m0:=x1.Z x2;have f4:uy.bytes=40:=rfl;have v8:=hE.len;have s0:=m0.size;have a0:∀w',Below w2.heap.size w2 w'->AI w w':=λw' hb=>m0.A (Below.O hb s0);have h8:=ha.U x2;refine⟨_,_,_,_,p0.se.pre (r:=[]) rfl,An.ux (E:=uy) (x:=pn) ⟨rfl,j7⟩ λa3 w4 x4 k7 v3=>?_⟩;refine Ï.Î (λn all d9 i w'=>∃(rv:Η) (k:Nat),i=(k:Int)/\n=env.length+2 - k/\ë (AJ L) ru env pn k rv/\C2 (AJ L) ru env pn (env.length+2 - k) k rv=C2 (AJ L) ru env pn (env.length+2) 0 []/\(∀q∈pn::rv,Ac q.Y)/\
   Below w2.heap.size w2 w'/\rl uy 150 w' w2.heap.size rz all (pn::rv)/\rl uy 150 w' w2.heap.size rz d9 rv/\yd d9 all) (env.length+2)
  ⟨[],0,rfl,rfl,ë.zero,rfl,by simpa using j7,x4,k7,(rl.nil _ _).O (λ_ h=>h) (λ_ h=>h.F) (λ_ h=>by cases h),λ_ _ h=>by cases h⟩ λn all d9 i w5 y5 hJ hn=>?_
 obtain⟨rv,k,rfl,rfl,hI,c4,d0,b5,oA,oC,n9⟩:=hJ;have n8:=oA.len;have v7:=oC.len;have y0:=hI.le;have u1:=hI.len;have w3:=Uk d5 hI;have s5:=b5.size;refine⟨λy1=>join.named λJ hJ=>?_,λx3=>?_⟩
 .have hk:k<(pn::rv).length:=oM;have x5:k<rv.length+1:=hk;have d6:(pn::rv)[k]?=some (pn::rv)[k]:=dw hk;have y4:Ac (pn::rv)[k].Y:=d0 _ (fm hk);generalize hq:(pn::rv)[k]=q at*;have hf:env.length+2 - k=(env.length+1 - k)+1:=oM;have kJ:∀a6 w6 d e o,AI w5 w6->AT w6 a6 [.string (getD L q.Y q.v).Y,.int .i64 (getD L q.Y q.v).v.ma,.int .i64 (getD L q.Y q.v).v.mi,.int .i64 (getD L q.Y q.v).v.pa,Sl.v d,Sl.v e,Sl.v o]->
    IT rq w6 (λb=>b<w6.heap.size) e (getD L q.Y q.v).sw->J a6 (AJ L q.Y q.v).isSome w6:=λa6 w6 d e o x6 i4 he=>by
   subst hJ;have b6:Below w2.heap.size w2 w6:=Below.Z b5 (Below.O x6 s5);have s6:=b6.size;have y6:=x6.size;refine⟨λh=>?_,λh=>?_⟩
   .refine c5 w6 ?_ (a0 _ b6);have hg:AJ L q.Y q.v=none:=by
     cases hg:AJ L q.Y q.v with
     |none=>rfl
     |some y=>rw[hg]at h;simp at h
    rw[hf,ZU d6 hg]at c4;unfold Cf uk;rw[<-c4];rfl
   .obtain⟨y,hg⟩:∃y,AJ L q.Y q.v=some y:=by
     cases hg:AJ L q.Y q.v with
     |none=>rw[hg]at h;simp at h
     |some y=>exact⟨y,rfl⟩
    have hD:getD L q.Y q.v=y:=(by unfold getD;rw[hg];rfl);rw[hD]at i4 he;have r5:=(Gd hg).1;have p6:=BE (QW (d5.vt y r5)).2.2.2.1;refine⟨_,_,_,_,_,_,_,i4.se.pre (r:=[]) rfl,mD,yc,ye,Ó,(h8.below b6 h8.lt).se.pre (r:=[]) rfl,?_⟩;have f9:Old (λb=>b<w6.heap.size) w6:=λb hb=>hb;have o5:IT rq w6 (λb=>b<w6.heap.size) Ó ru:=(hO.U (a0 _ b6)).O λb hb=>ju (o6 b hb) (a0 _ b6).size;refine MY.V (Ħ f9 o5 he λt w7 x7 ht=>⟨_,rfl,?_⟩);have b7:Below w2.heap.size w2 w7:=Below.Z b6 (Below.O x7 s6);have s7:=x7.size;have hT:=ht.dep;have w0:=hT.len;have y3:(BL ru y.sw).length<=16:=(by unfold BL;rw[eh];exact p6.1);have g4:∀c7,B5 env (BL ru y.sw) rv=some c7->ë (AJ L) ru env pn (k+1) c7/\C2 (AJ L) ru env pn (env.length+2 - (k+1)) (k+1) c7=C2 (AJ L) ru env pn (env.length+2) 0 []:=λc7 hs=>by refine⟨hI.next d6 hg hs,?_⟩;rw[<-c4,hf,ZT d6 hg hs,show env.length+2 - (k+1)=env.length+1 - k by omega]
    have d4:B5 env (BL ru y.sw) rv=none->Cf L ru env pn=none:=λhs=>(by rw[hf,ZS d6 hg hs]at c4;unfold Cf uk;rw[<-c4];rfl);generalize hP:BL ru y.sw=P at*;have r8:=oA.U (x6.Z x7);have r9:=oC.U (x6.Z x7);refine Ï.Î (λn2 c6 a9 j w'=>∃(o2:Η) (m:Nat),j=(m:Int)/\n2=P.length - m/\m<=P.length/\B5 env (P.drop m) o2=B5 env P rv/\o2.length<=rv.length+m/\(∀q∈pn::o2,Ac q.Y)/\
     Kp w2.heap.size w6.heap.size w7.heap.size w7 w'/\rl uy 150 w' w2.heap.size rz c6 (pn::o2)/\rl uy 150 w' w2.heap.size rz a9 o2/\yd a9 c6/\
     (∀ad,c6.a=some ad->ad.block<w6.heap.size\/w7.heap.size<=ad.block)/\∀ad,a9.a=some ad->ad.block<w6.heap.size\/w7.heap.size<=ad.block) P.length
     ⟨rv,0,rfl,rfl,im _,rfl,oM,d0,Kp.refl _ _ _ _,r8,r9,n9,λad h=>.inl (by have:=(oA.block h).2.1;omega),λad h=>.inl (by have:=(oC.block h).2.1;omega)⟩ λn2 c6 a9 j w8 k0 e0 p8=>?_
    obtain⟨o2,m,rfl,rfl,hm,a4,y2,a7,k8,g9,e3,c9,g5,g6⟩:=e0;have b8:Below w2.heap.size w2 w8:=Below.Z b7 k8.1;have s8:=k8.1.size;have o9:IT rq w8 (λb=>w6.heap.size<=b/\b<w7.heap.size) t P:=hT.ry λb hb _=>k8.2 b hb.1 hb.2;refine⟨λj3=>join.named λJ2 e0=>?_,λt9=>?_⟩
    .have e2:m<P.length:=oM;obtain⟨ad,tr,r3,_,p9,r0,p5⟩:=BH o9 e2;have g1:P.drop m=P[m]::P.drop (m+1):=gp e2;generalize x0:P[m]=d1 at*;rw[g1]at a4;have j9:∀a8 b0 o3 w9,B5 env (P.drop (m+1)) o3=B5 env P rv->o3.length<=rv.length+(m+1)->(∀q∈pn::o3,Ac q.Y)->Kp w2.heap.size w6.heap.size w7.heap.size w7 w9->rl uy 150 w9 w2.heap.size rz a8 (pn::o3)->rl uy 150 w9 w2.heap.size rz b0 o3->yd b0 a8->
       (∀ad,a8.a=some ad->ad.block<w6.heap.size\/w7.heap.size<=ad.block)->(∀ad,b0.a=some ad->ad.block<w6.heap.size\/w7.heap.size<=ad.block)->J2 a8 b0 w9:=λa8 b0 o3 w9 q1 q2 q3 q4 q5 q6 q7 q8 q9=>by
      subst e0;show k0 _ _ _ _;rw[Ai oM oM];exact p8 _ _ _ _ _ oM ⟨o3,m+1,oM,rfl,oM,q1,q2,q3,q4,q5,q6,q7,q8,q9⟩
     clear e0;refine⟨ad,⟨r3,oM,j3⟩,_,tr,p5 _ xR,An.intro λu7 w9 x9 p4 v6 _=>tj.intro p4 sI λs2 n1 _ e6=>⟨_,e6.se.pre rfl,?_⟩⟩;have m8:AI w8 s2:=n1.U x9 oM;refine Jw.V (ŧ λf y8 m1 o7=>⟨_,rfl,?_⟩);have e9:=m8.Z m1;have o0:=hE.U (a0 _ b8);refine HC.V (Ā (p:=As d1.Y) (o0.U e9) (o7 env) λy9 m2=>⟨_,rfl,sh.drew λk9 m3=>py ?_⟩);have d7:=e9.Z (m2.Z m3);have h7:Below w2.heap.size w2 k9:=Below.Z b8 (Below.O d7 oM);have e7:=e6.U (m1.Z (m2.Z m3));rcases Zmj (env:=env) (n:=d1.Y)with⟨j4,r4⟩|⟨kk,p7,j0,g8,j1⟩
     .have d3:decide (AX (As d1.Y) env<0)=true:=(by simpa using j4);rw[d3];refine⟨Sl.nil,nO,⟨0,0,none⟩,nO,0,0,0,nO,nO,λ_=>⟨λ_=>?_,nO⟩⟩;refine c5 k9 (d4 ?_) (a0 _ h7);rw[<-a4];exact ZY r4
     .rw[j0];have d3:decide ((kk:Int)<0)=false:=by simp
      rw[d3];obtain⟨ae,g2,t8,_,g3⟩:=Dw hE p7;refine⟨tr,λ_=>e7.at1 (k:=1) xR rfl,ae,λ_=>⟨g2,oM,oM⟩,_,_,_,λ_=>(g3 _ (a0 _ h7)).G (k:=1) (r:=[]) rfl,No.named λJ3 o4=>⟨λ_=>?_,nO⟩⟩;refine HD.V (Se (v:=env[kk].v) (r0.U d7) λs3 m4=>⟨_,rfl,?_⟩);have f0:=d7.Z m4;subst o4;refine⟨λh=>?_,λh=>?_⟩
      .have e1:B2 d1.range env[kk].v=false:=(by simpa using h);rw[ZX g8 e1]at a4;exact c5 s3 (d4 a4.H) (a0 _ (Below.Z b8 (Below.O f0 oM)))
      .have e1:B2 d1.range env[kk].v=true:=(by simpa using h);have j6:(⟨d1.Y,env[kk].v⟩:sy)=env[kk]:=(by rw[<-j1]);have b9:Ac env[kk].Y:=(by rwa [j1]);refine⟨_,e7.at0 (r:=[tr.v]) m4 rfl,Jw.V (ŧ λf2 s4 t3 o8=>⟨_,rfl,?_⟩)⟩;have d8:=f0.Z t3;have k4:=e3.U d8;have q0:IT uy s4 (λb=>True) a9 o2:=((k4.I (by rw[f4];unfold Ab;omega) (by rw[Al];omega))).O λ_ _=>trivial;refine H9.V (PT (p:=As d1.Y) q0 (o8 o2) λl0 m5=>⟨_,rfl,λh2=>?_,λh2=>?_⟩)
       .have d2:o2.any (As d1.Y)=false:=(by simpa using h2);rw[ZW g8 e1 d2,j6]at a4;have a5:=d8.Z m5;have n4:Below w2.heap.size w2 l0:=Below.Z b8 (Below.O a5 oM);refine⟨ae,⟨g2,oM,oM⟩,_,_,_,_,g3 _ (a0 _ n4),An.intro λu9 s9 t4 i2 _ _=>?_⟩;have b2:=a5.Z t4;have u2:=b2.size;refine rl.Xb5 (x:=env[kk]) (e3.U b2) (g9.U b2) c9 oM JE ⟨rfl,b9⟩ i2.se (by rw[f4];unfold Ab;omega) (by rw[Al];omega) λr1 l5 k5 k2 f6 b4 h0 h4=>?_;have u3:=b4.size;have n5:Below w2.heap.size w2 l5:=Below.Z (Below.Z b8 (Below.O b2 oM)) b4;refine⟨ae,⟨g2,oM,oM⟩,_,_,_,_,g3 _ (a0 _ n5),An.intro λv0 t0 e4 i3 _ _=>?_⟩;have u4:=e4.size;refine rl.Xb5 (x:=env[kk]) (k2.U e4) (k5.U e4) f6.swap oM JE ⟨rfl,b9⟩ i3.se (by rw[f4,gb];unfold Ab;omega) (by rw[Al,gb];omega) λr2 l6 k3 k6 f7 f3 h3 h5=>?_;have g0:∀q∈pn::(o2++[env[kk]]),Ac q.Y:=λq hq=>by
         obtain rfl|hq:=gj.1 hq
         .exact a7 _ (.head _)
         .obtain hq|hq:=fj.1 hq
          .exact a7 _ (.tail _ hq)
          .simp at hq;subst hq;exact b9
        have r6:Kp w2.heap.size w6.heap.size w7.heap.size s9 l5:=⟨b4,λb h1 h2=>h0 b oM λad c3=>by rintro rfl;rcases g6 ad c3 with h|h<;>omega⟩;have r7:Kp w2.heap.size w6.heap.size w7.heap.size t0 l6:=⟨f3,λb h1 h2=>h3 b oM λad c3=>by rintro rfl;rcases g5 ad c3 with h|h<;>omega⟩;refine j9 r2 r1 (o2++[env[kk]]) l6 a4 (by simp;omega) g0 ((((k8.U b2 oM oM).Z r6).U e4 oM oM).Z r7) k3 k6 f7.swap (λad c3=>?_) (λad c3=>?_)
        .obtain h|h:=h5 ad c3
         .exact g5 ad h
         .right;omega
        .obtain h|h:=h4 ad c3
         .exact g6 ad h
         .right;omega
       .have d2:o2.any (As d1.Y)=true:=(by simpa using h2);rw[ZZ g8 e1 d2]at a4;have a5:=d8.Z m5;exact j9 _ _ o2 l0 a4 oM a7 (k8.U a5 oM oM) (g9.U a5) (e3.U a5) c9 g5 g6
    .have e2:m=P.length:=oM;subst e2;rw[mq,B5]at a4;obtain⟨c1,c2⟩:=g4 o2 a4.H;rw[Ai oM oM];exact hn _ _ _ _ _ oM ⟨o2,k+1,oM,rfl,c1,c2,a7,b8,g9,e3,c9⟩
  clear hJ;refine sh.drew λl7 c8=>?_;obtain⟨aq,v2,h9,⟨i9,_⟩,j2⟩:=oA.el d6;subst i9;have e5:yz l7 S p r L:=(hC.U (a0 _ b5)).U c8;have y7:=c8.size;refine⟨aq,⟨h9,oM,oM⟩,_,(j2 _ c8).pre rfl,aq,⟨h9,oM,oM⟩,_,_,_,(j2 _ c8).G (k:=1) (r:=[]) rfl,?_,?_⟩
  .refine F1.V (JN (n:=q.Y) (v:=q.v) e5 λd e o t1 t5 _ _ he _=>⟨_,_,_,_,_,_,_,_,rfl,An.intro λm9 z0 t6 i5 v4 _=>tj.intro i5 sI λl8 n7 _ i6=>?_⟩);have h6:AI t1 l8:=n7.U t6 oM;have u5:=h6.size;exact kJ m9 l8 d e o (c8.Z (t5.Z h6)) i6 ((he.dep.U h6).O λb hb=>by omega)
  .refine An.intro λn0 z1 m6 e8 v5 _=>F1.V (JN (n:=q.Y) (v:=q.v) (e5.U m6) λd e o z2 m7 _ _ he _=>⟨_,_,_,_,_,_,_,_,rfl,tj.intro (e8.U m7) sI λl9 f1 _ i7=>?_⟩);have t7:AI l7 l9:=f1.U (m6.Z m7) oM;have u6:=f1.1;have u0:=e8.lt;exact kJ n0 l9 d e o (c8.Z t7) i7 ((he.dep.J f1 (λhb=>by omega)).O λb hb=>by omega)
 .have x8:k=rv.length+1:=by simp at n8;omega
  have j8:Cf L ru env pn=some (AD rv):=by have hf:env.length+2 - k=(env.length+1 - k)+1:=oM;have j5:(pn::rv)[k]?=none:=nc.2 (by simp;omega);rw[hf,ZR j5]at c4;unfold Cf uk;rw[<-c4];rfl
  have hF:tk AY 40 w5 w2.heap.size d9 rv:=tk.of (E:=uy) (f:=AY) (bytes:=40) (λx cs h=>h.1) oC (by unfold Ab;omega);refine Zlc hF s5 hI.yn λw6 b6 f8=>⟨rfl,?_⟩;refine RR.V ⟨Ua (by have:=f8.1;have:=f8.2.1;omega),_,rfl,g7 (AD rv) _ w6 j8 (a0 _ (Below.Z b5 b6)) ?_ λq hq=>d0 q (.tail _ ((DG rv).mem_iff.1 hq))⟩;obtain⟨a,b,c,d,e⟩:=f8.Xaz (k:=4);exact⟨a,b,c,d,e.imp id λ⟨g,tail,a,b,c⟩=>⟨g,tail,a,oM,c⟩⟩
def Dn(l:Κ):Κ:=l.foldl (λL x=>(BF L x).2) []
def Z2(l:Κ)(x:sf):Dn (l++[x])=(BF (Dn l) x).2:=by unfold Dn;rw[List.foldl_append];rfl
def Z1(l:Κ):vl (Dn l):=by
 have key:∀(l L:Κ),vl L->vl (l.foldl (λL x=>(BF L x).2) L):=λl=>by
  induction l with
  |nil=>exact λL h=>h
  |cons x r ih=>exact λL h=>ih _ (R6 h x)
 exact key l [] vl.nil
def yz.stay(h:yz w S p r L)(a0:w.heap.size<=w'.heap.size)(hk:∀b,b<w.heap.size->(S b\/b=p.block\/b=r)->w'.heap[b]?=w.heap[b]?):yz w' S p r L:=by obtain⟨ps,a,b,c⟩:=h;exact⟨ps,a.stay a0 hk,b,c⟩
def yz.lt(h:yz w S p r L):r<w.heap.size/\p.block<w.heap.size/\(∀b,S b->b<w.heap.size)/\ ¬S r/\ ¬S p.block/\p.block≠r:=by obtain⟨ps,a,_⟩:=h;obtain⟨m,hm,_⟩:=a.map;exact⟨hm.lt,a.box.lt,a.tf,a.free.1,a.free.2,a.ne⟩
structure Xar(w:Qd)(lo:Nat)(SA:Nat->Prop)(p:LP)(r:Nat)(q:LP)(L:Κ):Prop where
 cat:∃S,yz w S p r L/\(∀b,S b->lo<=b)/\ ¬S q.block
 ref:∃S,Đ w S q L/\(∀b,S b->SA b\/lo<=b)/\ ¬S r
 le:lo<=r/\lo<=p.block/\lo<=q.block
 ne:q.block≠p.block/\q.block≠r
def Xar.U{SA:Nat->Prop}{q:LP}(h:Xar w lo SA p r q L)(hx:AI w w'):Xar w' lo SA p r q L:=by obtain⟨⟨S,a,b,c⟩,⟨T,d,e,f⟩,g,k⟩:=h;exact⟨⟨S,a.U hx,b,c⟩,⟨T,d.U hx,e,f⟩,g,k⟩
def JM{α:Type}{E:xh α}{a:LP}{x:α}(hb:AT w a cs)(hx:E.rep w S x cs)(hB:E.bytes<=Ab):IT E w (λb=>S b\/b=a.block) ⟨some a,1,1⟩ [x]:=
 ⟨rfl,ga _,by show 1<=maxLen;rw[Al];omega,by simpa using hB,.inr ⟨a,rfl,.inr rfl,λi y hy=>by
  cases i with
  |zero=>simp only[jr,ff]at hy;subst hy;exact⟨cs,E.O hx λ_ h=>.inl h,by rw[mw];exact hb.se⟩
  |succ i=>simp at hy⟩⟩
def tk.OF(h:tk AY 40 w lo s l)(hs:∀q∈l,Ac q.Y):IT uy w (λb=>lo<=b/\b<w.heap.size) s l:=
 tk.I (E:=uy) h (λ_=>rfl) λ_ _ x hx=>⟨rfl,hs x hx⟩
def Zls{α β:Type}{c:β->β->Int}{d:α->α->Int}(f:α->β){x:α}{l:List α}(h:∀y∈l,c (f x) (f y)=d x y):(Co d x l).map f=Co c (f x) (l.map f):=by
 induction l with
 |nil=>rfl
 |cons y r ih=>
  rw[gu,Co,Co,h y (.head _)];by_cases h1:d x y<=0
  .rw[fo h1,fo h1];rfl
  .rw[fb h1,fb h1,gu,ih λz hz=>h z (.tail _ hz)]
def Xj{α β:Type}{c:β->β->Int}{d:α->α->Int}(f:α->β){l:List α}(h:∀x∈l,∀y∈l,c (f x) (f y)=d x y):(Bw d l).map f=Bw c (l.map f):=by
 induction l with
 |nil=>rfl
 |cons x r ih=>rw[gu,Bw,Bw,<-ih λa ha b hb=>h a (.tail _ ha) b (.tail _ hb)];exact Zls f λy hy=>h x (.head _) y (.tail _ ((FK r).mem_iff.1 hy))
def ŋ:xh (uu×(Nat->Prop)) where
 n:=3
 bytes:=48
 rep:=λw S x cs=>Į.rep w x.2 x.1 cs/\∀b,x.2 b->S b
 len:=λh=>Į.len h.1
 one:=λh v hv=>Į.one h.1 v hv
 O:=λh hs=>⟨h.1,λb hb=>hs b (h.2 b hb)⟩
 ry:=λh hk=>⟨Į.ry h.1 λb hb hl=>hk b (h.2 b hb) hl,h.2⟩
def SU(p q:uu×(Nat->Prop)):Prop:=∀b,p.2 b-> ¬q.2 b
def ź(w:Qd)(S:Nat->Prop)(s:Sl)(L:Ο):Prop:=
 s.len=L.length/\s.cap=L.length/\(L=[]\/∃(g:Nat) (tail:LV) (z:List (xu×(uu×(Nat->Prop)))),s.a=some ⟨g,0,none⟩/\S g/\tm StW.cells w g (z.map Prod.fst) tail/\(z.map λq=>q.2.1)=L/\
  (∀q∈z,q.1.Y=q.2.1.Y/\q.1.ss=q.2.1.ss/\Į.rep w q.2.2 q.2.1 (StW.cells q.1)/\∀b,q.2.2 b->S b/\b≠g)/\z.Pairwise λp q=>∀b,p.2.2 b-> ¬q.2.2 b)
def ü(w:Qd)(lo:Nat)(rv:Sl)(M:Ο):Prop:=
 ∃(vis:List (uu×(Nat->Prop))) (Q:Nat->Prop),rl ŋ 134 w lo Q rv vis/\vis.map Prod.fst=M/\(∀b,Q b->lo<=b)/\vis.Pairwise SU/\∀q∈vis,∀b,q.2 b->Q b
def ü.U{rv:Sl}(h:ü w lo rv M)(hx:AI w w'):ü w' lo rv M:=by obtain⟨a0,Q,a,b,c,d,e⟩:=h;exact⟨a0,Q,a.U hx,b,c,d,e⟩
def ü.zero(w:Qd):ü w w.heap.size Sl.nil []:=⟨[],rz,rl.nil _ _,rfl,λ_ h=>h.F,.nil,λ_ h=>by cases h⟩
def ü.push{w0:Qd}{rv u:Sl}{x:uu}{a:LP}{K:Sl->Wp}(h:ü w0 lo rv M)(hx:AI w0 w)(a6:lo<=w0.heap.size)(hN:Ac x.Y)(hu:zn ui w (λb=>w0.heap.size<=b/\b<w.heap.size) u x.range)(hb:AT w a [.string x.Y,vi x.ss,u.v])(hm:(M.length+1)*48<=Ab)
  (hK:∀r w',Below lo w w'->ü w' lo r (M++[x])->K r w'):ue prog 125 125 rv (Sl.v ⟨some a,1,1⟩) w K:=by
 obtain⟨a7,Q,ux,rfl,hQ,a5,a0⟩:=h;have s:=hx.size;have eb:ŋ.bytes=48:=rfl;rw[eh]at hm;have a8:a7.length+1<=9000000000000:=by unfold Ab at hm;omega
 refine(ux.U hx).push YO (fl a6 s) (x:=(x,λb=>w0.heap.size<=b/\b<w.heap.size)) (S':=λb=>w0.heap.size<=b/\b<w.heap.size) ⟨⟨hN,u,rfl,hu⟩,λ_ h=>h⟩ (hb.se.pre (r:=[]) rfl) (λb hb=>hb.2) (λad ha hb=>by have:=(ux.block ha).2.1;omega) (by rwa [eb]) (by rw[Al];omega) λr w' a4 vd _ _=>hK r w' vd ⟨_,_,a4,by rw[gd];rfl,λb hb=>?_,?_,λq hq b hb=>?_⟩
 .obtain hb|hb:=hb
  .exact hQ b hb
  .omega
 .refine ji.2 ⟨a5,lw _ _,λq hq y hy b hb hc=>?_⟩;rw[eu]at hy;subst hy;have h1:=ux.lt b (a0 q hq b hb);have h2:w0.heap.size<=b/\b<w.heap.size:=hc;omega
 .obtain hq|hq:=fj.1 hq
  .exact .inl (a0 q hq b hb)
  .rw[eu]at hq;subst hq;exact .inr hb
def ĩ:xh (Ι) where
 n:=1
 bytes:=24
 rep:=λw S l cs=>∃t:Sl,cs= [t.v]/\IT rq w S t l
 len:=λ⟨_,h,_⟩=>by rw[h];rfl
 one:=λ⟨_,h,_⟩ v hv=>by rw[h]at hv;simp[Sl.v]at hv;subst hv;rfl
 O:=λ⟨t,h,hr⟩ hs=>⟨t,h,hr.O hs⟩
 ry:=λ⟨t,h,hr⟩ hk=>⟨t,h,hr.ry hk⟩
def Zb6:Bi prog 329:=enters_of func329 kR rfl
def F0(a b:xu):Int:=A7 a.Y b.Y
def Zn:vv F0:=DN xu.Y
def YG(g:Nat)(w:Qd):StW.Ë (.func (.func 329) #[] #[]) F0 g w:=by intro x y w1 k _ hk;refine⟨_,_,rfl,Zb6,Pb.V ?_⟩;unfold Pb;exact An.intro λa w2 x2 ha _ _=>An.intro λa1 w3 x3 a0 _ _=>⟨x.Y,AT.at0 ha x3 rfl,y.Y,AT.at0 a0 xR rfl,Fg ⟨_,rfl,hk _ (x2.Z x3)⟩⟩
def YH{w1:Qd}{rv:Sl}(hI:ü w1 w.heap.size rv M)(hx:AI w w1)(hb:M.length*48<=Ab)
  (hR:∀t w',AI w w'->ź w' (λb=>w.heap.size<=b/\b<w'.heap.size) t (Bw cW M)->R t w'):
  si prog 328 [rv.v,Value.func (.func 329) #[] #[]] w1 λd0 c3=>d0=(Value.tuple #[])/\si prog 330 [rv.v] c3 λd1 c4=>∃(b9:Sl),d1=b9.v/\R b9 c4:=by
 obtain⟨a9,Q,ux,rfl,hQ,c7,d5⟩:=hI;rw[eh]at hb;have a5:=ux.len;have c5:a9.length<=9000000000000:=by unfold Ab at hb;omega
 have hf:∀(x:uu×(Nat->Prop)) cs,ŋ.rep w1 Q x cs->∃y:xu,cs=StW.cells y/\(y.Y=x.1.Y/\y.ss=x.1.ss/\ŋ.rep w1 Q x (StW.cells y)):=λx cs h=>by obtain⟨⟨hN,s,rfl,a⟩,c6⟩:=h;exact⟨⟨x.1.Y,x.1.ss,s⟩,rfl,rfl,rfl,⟨hN,s,rfl,a⟩,c6⟩
 rcases rl.Xbs StW.cells (λ(y:xu) (x:uu×(Nat->Prop))=>y.Y=x.1.Y/\y.ss=x.1.ss/\ŋ.rep w1 Q x (StW.cells y)) hf ux with⟨ho,hv⟩|⟨g,zz,tail,ha,b5,a8,a4,b8,d2,d3⟩
 .subst ho hv;refine Jm.V (StW.wu rfl ⟨rfl,OJ.V ⟨⟨by decide,by decide,by decide,by decide⟩,_,rfl,hR _ _ hx ?_⟩⟩);exact⟨rfl,rfl,.inl rfl⟩
 .have c9:zz.length=a9.length:=by rw[<-a8,eh]
  have b6:rv.len=(zz.map Prod.fst).length:=by rwa [eh,c9]
  refine Jm.V (StW.xi Zn ha (by rw[a5];omega) (YG g w1) b6 b8 λw2 b2 a7=>⟨rfl,?_⟩);have b4:(Bw (λp q:xu×(uu×(Nat->Prop))=>F0 p.1 q.1) zz).map Prod.fst=Bw F0 (zz.map Prod.fst):=Xj (c:=F0) Prod.fst λ_ _ _ _=>rfl;have a6:(Bw (λp q:xu×(uu×(Nat->Prop))=>F0 p.1 q.1) zz).map (λq:xu×(uu×(Nat->Prop))=>q.2.1)=Bw cW (zz.map λq=>q.2.1):=Xj (c:=cW) (λq:xu×(uu×(Nat->Prop))=>q.2.1) λx hx y hy=>by unfold cW F0;rw[(a4 x hx).1,(a4 y hy).1]
  have hM:(zz.map λq=>q.2.1)=a9.map Prod.fst:=by rw[<-a8,jj];rfl
  rw[hM]at a6;rw[<-b4]at a7;have a0:=FK (c:=λp q:xu×(uu×(Nat->Prop))=>F0 p.1 q.1) zz;generalize Bw (λp q:xu×(uu×(Nat->Prop))=>F0 p.1 q.1) zz=zs at*;have d4:zs.length=zz.length:=a0.length_eq;have b0: ¬Q g:=ux.apart _ ha;have x2:AI w w2:=hx.A (b2.below hx.size b5);have b7:g<w2.heap.size:=a7.lt;have s2:=b2.1;refine OJ.V ⟨⟨oM,oM,oM,oM⟩,_,rfl,hR _ _ x2 ?_⟩;have c8:zs.Pairwise λp q=>∀b,p.2.2 b-> ¬q.2.2 b:=by have h1:(zz.map Prod.snd).Pairwise SU:=(by rwa [a8]);rw[iv]at h1;exact(a0.pairwise_iff λ{x y} h b hb hc=>h b hc hb).2 h1
  refine⟨?_,?_,.inr ⟨g,tail,zs,?_,⟨b5,b7⟩,a7,a6,λq hq=>?_,c8⟩⟩
  .show(rv.len:Int).toNat - 0=_;rw[Sm,eh,a5];simp
  .show(rv.len:Int).toNat - 0=_;rw[Sm,eh,a5];simp
  .show(if _ then _ else _)=_;split
   .exact ha
   .rw[ha,mw];rfl
  .obtain⟨k1,k2,k3,k4⟩:=a4 q (a0.mem_iff.1 hq);refine⟨k1,k2,Į.ry k3 (b2.ry λh=>b0 (k4 g h)),λb hb=>⟨⟨hQ b (k4 b hb),?_⟩,λe=>b0 (e▸k4 b hb)⟩⟩;have:=ux.lt b (k4 b hb);omega
def XZ{mD must vt:Sl}{ms:List (Ι)}{ml ru:Ι}(hS:Old S w)(hV:IT rq w S Ó ru)(hM:IT ĩ w S must ms)(hY:IT rq w S vt ml)(hb:(ms.flatten.length+ml.length)*48<=Ab)
  (hR:∀t w',AI w w'->ź w' (λb=>w.heap.size<=b/\b<w'.heap.size) t (Ea ru ms.flatten ml)->R t w'):Jy mD yc ye Ó must vt w R:=by
 unfold Jy;have d8:=hM.len;have d9:=hY.len;refine An.intro λa w1 x1 ha _ _=>?_;have s1:=x1.size;refine uc.up hM.max (λrv i w'=>AI w1 w'/\ü w' w1.heap.size rv ((ms.take i).flatten.map (DZ 1 ru))) ⟨AI.refl _,ü.zero _⟩ λrv i w2 e8 hi ⟨x2,b8⟩ hn=>⟨λd4=>?_,λe0=>?_⟩
 .have b0:i<ms.length:=oM;obtain⟨ad,cs,d5,_,⟨t,rfl,ht⟩,hc⟩:=hM.el b0;have e7:=ht.len;have b6:(ms.take (i+1)).flatten=(ms.take i).flatten++ms[i]:=by rw[dz b0,kw,js,List.flatten_nil,gz]
  have d7:(ms.take i).flatten.length+ms[i].length<=ms.flatten.length:=by
   rw[<-dx,<-b6];have:ms.flatten=(ms.take (i+1)).flatten++(ms.drop (i+1)).flatten:=by rw[<-kw,gk]
   rw[this,dx];omega
  refine⟨ad,⟨d5,oM,d4⟩,t,(hc _ (x1.Z x2)).pre (r:=[]) rfl,?_⟩;refine uc.up ht.max (λrv k w'=>AI w1 w'/\ü w' w1.heap.size rv (((ms.take i).flatten++ms[i].take k).map (DZ 1 ru))) ⟨x2,by rwa [List.take_zero,gz]⟩ λd1 k w3 d0 hk ⟨x3,a4⟩ c6=>⟨λa9=>?_,λc9=>?_⟩
  .have a5:k<ms[i].length:=oM;have b2:=x1.Z x3;obtain⟨b7,u,c7,_,hN,hr,c5⟩:=BH ht a5;refine⟨b7,⟨c7,oM,a9⟩,_,u,c5 _ b2,An.intro λa8 w4 x4 c3 d3 _=>tj.intro c3 sI λw5 b5 _ a7=>sh.drew λw6 x6=>?_⟩;have c8:AI w3 w5:=b5.U x4 oM;have a0:=c8.Z x6;have a6:=b2.Z a0;refine⟨_,a7.at0 x6 rfl,mD,yc,ye,Ó,ha.at0 (r:=[]) (x3.Z a0) rfl,_,u,a7.at0 (r:=[]) x6 rfl,tc.intro (HL.V (SF (hS.U a6.size) (hV.U a6) (hr.U a6) λr7 w7 x7 hu=>⟨x7,_,rfl,An.intro λd2 w8 x8 c4 _ _=>?_⟩))⟩;have b4:=x7.Z x8;have d6:=a0.size;have s8:=x8.size;have s3:=x3.size;refine(a4.U a0).push (x:=DZ 1 ru ms[i][k]) b4 oM hN ((hu.U x8).O λb hb=>⟨hb.1,oM⟩) c4 ?_ λr9 w9 vd b9=>c6 a5 _ _ ⟨(x3.Z (a0.Z b4)).A vd,?_⟩
   .rw[eh,dx,fk];have:((ms.take i).flatten.length+min k ms[i].length+1)*48<=(ms.flatten.length+ml.length)*48:=je _ oM;omega
   .rwa [dz a5,<-fh,gd]
  .have:k=ms[i].length:=oM;rw[this,fe,<-b6]at a4;exact hn b0 _ _ ⟨x3,a4⟩
 .have:i=ms.length:=oM;rw[this,fe]at b8;refine uc.up hY.max (λrv k w'=>AI w1 w'/\ü w' w1.heap.size rv (ms.flatten.map (DZ 1 ru)++(ml.take k).map (DZ 2 ru))) ⟨x2,by rwa [List.take_zero,ot,gz]⟩ λd1 k w3 d0 hk ⟨x3,a4⟩ c6=>⟨λa9=>?_,λc9=>?_⟩
  .have a5:k<ml.length:=oM;have b2:=x1.Z x3;obtain⟨b7,u,c7,_,hN,hr,c5⟩:=BH hY a5;refine⟨b7,⟨c7,oM,a9⟩,_,u,c5 _ b2,An.intro λa8 w4 x4 c3 d3 _=>tj.intro c3 sI λw5 b5 _ a7=>sh.drew λw6 x6=>?_⟩;have c8:AI w3 w5:=b5.U x4 oM;have a0:=c8.Z x6;have a6:=b2.Z a0;refine⟨_,a7.at0 x6 rfl,mD,yc,ye,Ó,ha.at0 (r:=[]) (x3.Z a0) rfl,_,u,a7.at0 (r:=[]) x6 rfl,tc.intro (HL.V (SF (hS.U a6.size) (hV.U a6) (hr.U a6) λr7 w7 x7 hu=>⟨x7,_,rfl,An.intro λd2 w8 x8 c4 _ _=>?_⟩))⟩;have b4:=x7.Z x8;have d6:=a0.size;have s8:=x8.size;have s3:=x3.size;refine(a4.U a0).push (x:=DZ 2 ru ml[k]) b4 oM hN ((hu.U x8).O λb hb=>⟨hb.1,oM⟩) c4 ?_ λr9 w9 vd b9=>c6 a5 _ _ ⟨(x3.Z (a0.Z b4)).A vd,?_⟩
   .rw[dx,eh,eh,fk];have:(ms.flatten.length+min k ml.length+1)*48<=(ms.flatten.length+ml.length)*48:=je _ oM;omega
   .rwa [dz a5,gd,<-fh]
  .have:k=ml.length:=oM;rw[this,fe]at a4;refine YH a4 x3 (by rwa [dx,eh,eh]) λt w' hx hs=>hR _ _ (x1.Z hx) ?_;obtain⟨k1,k0,k2⟩:=hs;refine⟨k1,k0,k2.imp id λ⟨g,tail,z,e1,e2,e3,e4,e5,e6⟩=>⟨g,tail,z,e1,⟨oM,e2.2⟩,e3,e4,λq hq=>?_,e6⟩⟩;obtain⟨f1,f2,f3,f4⟩:=e5 q hq;exact⟨f1,f2,f3,λb hb=>⟨⟨by have:=(f4 b hb).1.1;omega,(f4 b hb).1.2⟩,(f4 b hb).2⟩⟩
def An.Xde{α:Type}{E:xh α}{x:α}{k:Ä}(hS:Old S w)(hx:E.rep w S x cs)(h:∀a w',AI w w'->rl E t w' w.heap.size S ⟨some a,1,1⟩ [x]->a.block=w.heap.size->k a w'):An w cs t k:=λa w' ha hw=>by
 subst ha hw;have hl:=E.len hx;refine h _ _ (AI.alloc _ _) ⟨⟨[cs],⟨by simp[hl],.inr ⟨w.heap.size,1,cs.toArray,rfl,ga _,heap_alloc_new w _,ga _,by rw[Al];omega,by simp[hl],?_⟩⟩,rfl,λi y hy=>?_⟩,rfl,λb hb=>by have:=hS b hb;simp;omega,λad ha hb=>?_⟩ rfl
 .simp[hl,ia (Nat.le_of_eq hl)]
 .cases i with
  |zero=>simp only[jr,ff]at hy;subst hy;exact⟨cs,rfl,E.ry hx ((AI.alloc w _).ry _)⟩
  |succ i=>simp at hy
 .simp only[ff]at ha;subst ha;have:=hS _ hb;simp at this
def YL:Bz prog 228 32 1 24:=CM (z:=.slice none 0 0) kR kR rfl dC
def Zn0{p:sf}{pD pP pO mD:Sl}{ru:Ι}(hS:Old S w)(hD:IT rq w S pD p.sj)(hO:IT rq w S pO p.ut)(hV:IT rq w S Ó ru)(hb:(p.sj.length+p.ut.length)*48<=Ab)
  (hR:∀t w',AI w w'->ź w' (λb=>w.heap.size<=b/\b<w'.heap.size) t (Ea ru p.sj p.ut)->R t w'):MW p.Y p.v.ma p.v.mi p.v.pa pD pP pO mD yc ye Ó w R:=by
 refine An.intro λa w1 x1 ha _ _=>An.intro λa1 w2 x2 a7 _ _=>?_;have a9:=x1.Z x2;refine⟨mD,yc,ye,Ó,AT.at0 a7 xR rfl,pD,AT.at1 ha x2 rfl,An.intro λa4 w3 x3 a5 b0 _=>⟨pO,AT.at1 ha (x2.Z x3) rfl,?_⟩⟩;have a0:=a9.Z x3;have s3:=a0.size;have a6:IT ĩ w3 (λb=>S b\/b=a4.block) ⟨some a4,1,1⟩ [p.sj]:=JM (E:=ĩ) a5 ⟨pD,rfl,hD.U a0⟩ dC;have a8:=a5.lt;refine Jy.V (XZ (S:=λb=>S b\/b=a4.block) (ms:=[p.sj]) (ru:=ru) (ml:=p.ut) (λb hb=>?_) ((hV.U a0).O λ_ h=>.inl h) a6 ((hO.U a0).O λ_ h=>.inl h) (by simpa using hb) λt w4 x4 h4=>⟨_,rfl,hR _ _ (a0.Z x4) ?_⟩)
 .obtain hb|rfl:=hb
  .have:=hS b hb;omega
  .exact a8
 .rw[js,List.flatten_nil,gz]at h4;obtain⟨k1,k0,k2⟩:=h4;refine⟨k1,k0,k2.imp id λ⟨g,tail,z,e1,e2,e3,e4,e5,e6⟩=>⟨g,tail,z,e1,⟨oM,e2.2⟩,e3,e4,λq hq=>?_,e6⟩⟩;obtain⟨f1,f2,f3,f4⟩:=e5 q hq;exact⟨f1,f2,f3,λb hb=>⟨⟨by have:=(f4 b hb).1.1;omega,(f4 b hb).1.2⟩,(f4 b hb).2⟩⟩
def Znz{mD:Sl}{uo:Bool}(hS:Old S w)(hD:IT rq w S mD m.sj)(hE:IT rq w S yc m.uo)(hO:IT rq w S ye m.ut)(hV:IT rq w S Ó m.ru)(hb:(m.sj.length+m.uo.length+m.ut.length)*48<=Ab)
  (hR:∀t w',AI w w'->ź w' (λb=>w.heap.size<=b/\b<w'.heap.size) t (Ea m.ru (Dy m uo) m.ut)->R t w'):MX mD yc ye Ó uo w R:=by
 refine An.intro λa w1 x1 ha _ _=>⟨mD,AT.at0 ha xR rfl,?_⟩;refine An.Xde (E:=ĩ) (x:=m.sj) (S:=S) (hS.U x1.size) ⟨mD,rfl,hD.U x1⟩ λa1 w2 x2 ux b7=>?_;have a9:=x1.Z x2;have s1:=x1.size;have s2:=x2.size;have eb:ĩ.bytes=24:=rfl;refine join.named λJ hJ=>?_;have key:∀a0 w3 (ms:List (Ι)),AI w1 w3->IT ĩ w3 (λb=>S b\/(w.heap.size<=b/\b<w3.heap.size)) a0 ms->ms.flatten=Dy m uo->J a0 w3:=by
  subst hJ;intro a0 w3 ms x3 b2 a7;have a4:=x1.Z x3;have s3:=a4.size;have b6:(Dy m uo).length<=m.sj.length+m.uo.length:=by
   unfold Dy;split
   .rw[dx];exact ga _
   .omega
  refine⟨mD,yc,ye,Ó,AT.at0 ha x3 rfl,ye,AT.at1 ha x3 rfl,Jy.V (XZ (S:=λb=>S b\/(w.heap.size<=b/\b<w3.heap.size)) (ru:=m.ru) (ml:=m.ut) (λb hb=>?_) ((hV.U a4).O λ_ h=>.inl h) b2 ((hO.U a4).O λ_ h=>.inl h) (by rw[a7];have:((Dy m uo).length+m.ut.length)*48<=(m.sj.length+m.uo.length+m.ut.length)*48:=je _ oM;omega) λt w4 x4 h4=>⟨_,rfl,hR _ _ (a4.Z x4) ?_⟩)⟩
  .obtain hb|hb:=hb
   .have:=hS b hb;omega
   .exact hb.2
  .rw[a7]at h4;obtain⟨k1,k0,k2⟩:=h4;refine⟨k1,k0,k2.imp id λ⟨g,tail,z,e1,e2,e3,e4,e5,e6⟩=>⟨g,tail,z,e1,⟨oM,e2.2⟩,e3,e4,λq hq=>?_,e6⟩⟩;obtain⟨f1,f2,f3,f4⟩:=e5 q hq;exact⟨f1,f2,f3,λb hb=>⟨⟨by have:=(f4 b hb).1.1;omega,(f4 b hb).1.2⟩,(f4 b hb).2⟩⟩
 refine⟨λh=>?_,λh=>?_⟩
 .subst h;refine⟨yc,AT.at1 ha x2 rfl,An.intro λa8 w3 x3 b0 b5 _=>?_⟩;refine(ux.U x3).push YL (x2.Z x3).size (x:=m.uo) (S':=S) ⟨yc,rfl,hE.U (a9.Z x3)⟩ (b0.se.pre (r:=[]) rfl) (hS.U (a9.Z x3).size) (λad ha hb=>(ux.apart ad ha hb)) (by rw[eb];unfold Ab;simp) (by rw[Al];simp) λr w4 a5 vd _ _=>?_;have b4:AI w1 w4:=(x2.Z x3).A vd;refine key _ _ [m.sj,m.uo] b4 ((a5.I (by rw[eb];unfold Ab;simp) (by rw[Al];simp)).O λb hb=>?_) (by simp[Dy]);rcases hb with(hb|hb)|⟨ad,a6,rfl⟩
  .exact .inl hb
  .exact .inl hb
  .have:=a5.block a6;exact .inr ⟨oM,this.2.1⟩
 .subst h;refine key _ _ [m.sj] x2 ((ux.I (by rw[eb];unfold Ab;simp) (by rw[Al];simp)).O λb hb=>?_) (by simp[Dy]);rcases hb with hb|⟨ad,a6,rfl⟩
  .exact .inl hb
  .have:=ux.block a6;exact .inr ⟨oM,this.2.1⟩
def ź.I{L:Ο}(h:ź w S s L)(hb:L.length*48<=Ab):IT Pa w S s L:=by
 obtain⟨h1,h0,h2⟩:=h;have hm:L.length<=maxLen:=by rw[Al];unfold Ab at hb;omega
 refine⟨h1,by rw[h0];exact ga _,by rwa [h0],hb,?_⟩;rcases h2 with rfl|⟨g,tail,z,e1,e2,e3,e4,e5,e6⟩
 .exact .inl rfl
 .refine .inr ⟨_,e1,e2,λi x hx=>?_⟩;rw[<-e4,gc]at hx;cases hz:z[i]? with
  |none=>rw[hz]at hx;cases hx
  |some q=>rw[hz]at hx;simp only[ir,ff]at hx;subst hx;obtain⟨f1,f2,⟨f3,u,f5,f6⟩,f4⟩:=e5 q (fx hz);refine⟨StW.cells q.1,⟨f3,u,f5,f6.1.O λb hb=>(f4 b hb).1⟩,e3.Ě (f:=StW.cells) (k:=3) (λ_=>rfl) (by rw[gc,hz];rfl)⟩
structure Edge where
 Y:PU
 to:Int
 deriving DecidableEq
abbrev LQ:=List Edge
structure BY where
 Y:PU
 v:sq
 uk:Η
 sd:LQ
 deriving DecidableEq
abbrev Ζ:=List BY
abbrev CW:=PU×sq×Η
def BY.key(n:BY):CW:=(n.Y,n.v,n.uk)
structure IS where
 L:Κ
 m:vu
 uo:Bool
 OF:Η
 D:Nat
 N:Nat
def ta:BY:=⟨⟨#[]⟩,⟨0,0,0⟩,[],[]⟩
def MS(q:IS)(k:Nat)(n:Option CW):Ο:=
 if k=0 then Ea q.m.ru (Dy q.m q.uo) q.m.ut else
  match n with
  |none=>[]
  |some n=>match AJ q.L n.1 n.2.1 with
   |none=>[]
   |some p=>Ea q.m.ru p.sj p.ut
def zo(ns:Ζ)(k:Nat):Option CW:=(ns.map BY.key)[k]?
def th(ns:Ζ)(k:Nat):Η:=match zo ns k with
 |some x=>x.2.2
 |none=>[]
def IS.sx(q:IS)(ns:Ζ)(k:Nat):Ο:=MS q k (zo ns k)
def IS.xk(q:IS)(c:Η)(w:uu):List sq×Bool:=match un c w.Y with
 |some v=>(if B2 w.range v then [v]else [],false)
 |none=>(BG q.L w.Y w.range q.OF,decide (w.ss=2))
def CE(x:List sq×Bool):List (Option sq):=x.1.map some++(if x.2 then [none]else [])
def B0(e:Η)(n:PU)(o:Option sq):Η:=match o with
 |none=>e
 |some v=>if e.any (As n)then e else e++[⟨n,v⟩]
def AU(q:IS)(env:Η):Η->Option (Ζ)
 | []=>some []
 |p::r=>match Cf q.L q.m.ru env p with
  |none=>none
  |some c=>(AU q env r).map λxs=>⟨p.Y,p.v,c,[]⟩::xs
def AO(N:Nat):List CW->Ζ->Option (Ζ×LQ)
 |_,[]=>some ([],[])
 |ks,x::xs=>match ks.findIdx? λy=>decide (y=x.key)with
  |some i=>(AO N ks xs).map λr=>(r.1,⟨x.Y,(i:Int)⟩::r.2)
  |none=>if ks.length=N then none else(AO N (ks++[x.key]) xs).map λr=>(x::r.1,⟨x.Y,(ks.length:Int)⟩::r.2)
def Cn(ns:Ζ)(k:Nat)(es:LQ):Ζ:=ns.modify k λn=>{n with sd:=es}
inductive Bnd where
 |wy
 |many
 |ok (ns:Ζ)
def IS.bind(q:IS)(ns:Ζ)(k:Nat)(e:Η):Bnd:=match AU q (AD e) (AD e)with
 |none=>.wy
 |some xs=>match AO q.N (ns.map BY.key) xs with
  |none=>.many
  |some r=>.ok (Cn ns k r.2++r.1)
inductive Out where
 |fail (t:Nat)
 |done (ns:Ζ) (t:Nat)
 |err (e:Int)
 |rv
def AZ(D:Nat)(k:Option sq->Nat->Out):List (Option sq)->Nat->Out
 | [],t=>.fail t
 |o::os,t=>if t=D then .err 31 else match k o (t+1)with
  | .fail t'=>AZ D k os t'
  |r=>r
def IS.V(q:IS):Nat->Ζ->Nat->Ο->Η->Nat->Out
 |0,_,_,_,_,_=> .rv
 |f+1,ns,k,[],e,t=>match q.bind ns k e with
  | .wy=>.fail t
  | .many=>.err 32
  | .ok ns'=>if k+1=ns'.length then .done ns' t else q.V f ns' (k+1) (q.sx ns' (k+1)) (th ns' (k+1)) t
 |f+1,ns,k,w::l,e,t=>AZ q.D (λo t=>q.V f ns k l (B0 e w.Y o) t) (CE (q.xk (th ns k) w)) t
structure Ch where
 rk:Nat
 Y:PU
 vs:List sq
 none:Bool
 i:Nat
abbrev Ρ:=List Ch
def Ch.many(c:Ch):Nat:=if c.none then c.vs.length+1 else c.vs.length
structure St where
 stack:Ρ
 ns:Ζ
 AS:Α
 ws:Ο
 first:Nat
 dec:Nat
inductive Lb where
 |next
 |Ñ
 |back
inductive Ĩ where
 |V (l:Lb) (s:St)
 |done (ns:Ζ) (t:Nat)
 |err (e:Int)
def IS.ch(q:IS)(k:Nat)(c:Η)(w:uu):Ch:=⟨k,w.Y,(q.xk c w).1,(q.xk c w).2,0⟩
def BX(e:Η)(c:Ch):Η:=B0 e c.Y c.vs[c.i]?
def St.env(s:St):Η:=(s.stack.drop s.first).foldl BX (th s.ns s.AS.length)
def Bc(l:Ρ):Ρ:=l.modify (l.length - 1) λc=>{c with i:=c.i+1}
def IS.step(q:IS):Lb->St->Ĩ
 | .next,s=>match s.ws[s.stack.length - s.first]? with
  |some w=>.V .Ñ {s with stack:=s.stack++[q.ch s.AS.length (th s.ns s.AS.length) w]}
  |none=>match q.bind s.ns s.AS.length s.env with
   | .wy=>.V .back s
   | .many=>.err 32
   | .ok ns'=>if s.AS.length+1=ns'.length then .done ns' s.dec else
     .V .next {s with ns:=ns',AS:=s.AS++[s.ns.length],ws:=q.sx ns' (s.AS.length+1),first:=s.stack.length}
 | .Ñ,s=>match s.stack.getLast? with
  |none=>.err (-1)
  |some c=>if c.i<c.many then(if s.dec=q.D then .err 31 else .V .next {s with dec:=s.dec+1})else .V .back {s with stack:=s.stack.dropLast}
 | .back,s=>match s.stack.getLast? with
  |none=>.err 30
  |some c=>.V .Ñ {s with
    stack:=Bc s.stack
    ns:=(match s.AS[c.rk]? with|some a=>s.ns.take a|none=>s.ns)
    AS:=s.AS.take c.rk
    ws:=q.sx (match s.AS[c.rk]? with|some a=>s.ns.take a|none=>s.ns) c.rk
    first:=(Bc s.stack).findIdx λx=>decide (x.rk=c.rk)}
inductive IS.To (q:IS):Lb->St->Lb->St->Prop
 |refl (l:Lb) (s:St):IS.To q l s l s
 |step {l l1 l2:Lb} {s s1 s2:St} (h:q.step l s= .V l1 s1) (k:IS.To q l1 s1 l2 s2):IS.To q l s l2 s2
inductive IS.End (q:IS):Lb->St->Ĩ->Prop
 |done {l:Lb} {s:St} {ns:Ζ} {t:Nat} (h:q.step l s= .done ns t):IS.End q l s (.done ns t)
 |err {l:Lb} {s:St} {e:Int} (h:q.step l s= .err e):IS.End q l s (.err e)
 |step {l l1:Lb} {s s1:St} {r:Ĩ} (h:q.step l s= .V l1 s1) (k:IS.End q l1 s1 r):IS.End q l s r
def IS.To.Z{q:IS}{a b c:Lb}{x y z:St}(h:q.To a x b y)(k:q.To b y c z):q.To a x c z:=by
 induction h with
 |refl=>exact k
 |step h _ ih=>exact .step h (ih k)
def IS.To.ends{q:IS}{a b:Lb}{x y:St}{r:Ĩ}(h:q.To a x b y)(k:q.End b y r):q.End a x r:=by
 induction h with
 |refl=>exact k
 |step h _ ih=>exact .step h (ih k)
def é(k:Nat)(a b:Ζ):Prop:=a.map BY.key=b.map BY.key/\∀i,i<k->a[i]?=b[i]?
def é.refl(k:Nat)(a:Ζ):é k a a:=⟨rfl,λ_ _=>rfl⟩
def é.len{k:Nat}{a b:Ζ}(h:é k a b):a.length=b.length:=by have:=kd List.length h.1;simpa using this
def é.Z{k:Nat}{a b c:Ζ}(h:é k a b)(g:é k b c):é k a c:=⟨h.1.Z g.1,λi hi=>(h.2 i hi).Z (g.2 i hi)⟩
def é.O{k j:Nat}{a b:Ζ}(h:é k a b)(hj:j<=k):é j a b:=⟨h.1,λi hi=>h.2 i oM⟩
def é.take{k:Nat}{a b:Ζ}(h:é k a b)(n:Nat):é k (a.take n) (b.take n):=⟨by rw[List.map_take,List.map_take,h.1],λi hi=>by rw[mn,mn,h.2 i hi]⟩
def é.zo{k:Nat}{a b:Ζ}(h:é k a b)(i:Nat):Hal.zo a i=Hal.zo b i:=by unfold Hal.zo;rw[h.1]
def é.th{k:Nat}{a b:Ζ}(h:é k a b)(i:Nat):Hal.th a i=Hal.th b i:=by unfold Hal.th;rw[h.zo]
def é.sx{q:IS}{k:Nat}{a b:Ζ}(h:é k a b)(i:Nat):q.sx a i=q.sx b i:=by unfold IS.sx;rw[h.zo]
def H5(ns:Ζ)(k:Nat)(es:LQ):(Cn ns k es).map BY.key=ns.map BY.key:=by
 unfold Cn;apply qm;intro i;rw[gc,gc,nq];cases ns[i]? with
 |none=>rfl
 |some n=>by_cases h:k=i<;>simp[h,BY.key]
def EZ(ns:Ζ)(k:Nat)(es:LQ):(Cn ns k es).length=ns.length:=by unfold Cn;rw[List.length_modify]
def OC{ns:Ζ}{k:Nat}{es:LQ}(h:i≠k):(Cn ns k es)[i]?=ns[i]? :=by
 unfold Cn;rw[nq];cases ns[i]? with
 |none=>rfl
 |some n=>simp[Ne.H h]
def é.bind{q:IS}{k:Nat}{a b:Ζ}{e:Η}(h:é k a b)(hk:k<a.length):
  (q.bind a k e= .wy/\q.bind b k e= .wy)\/(q.bind a k e= .many/\q.bind b k e= .many)\/∃a' b',q.bind a k e= .ok a'/\q.bind b k e= .ok b'/\é (k+1) a' b'/\é k (a'.take a.length) a/\a.length<=a'.length:=by
 unfold IS.bind;cases AU q (AD e) (AD e)with
 |none=>exact .inl ⟨rfl,rfl⟩
 |some xs=>
  rw[h.1];dsimp only;cases AO q.N (b.map BY.key) xs with
  |none=>exact .inr (.inl ⟨rfl,rfl⟩)
  |some r=>
   refine .inr (.inr ⟨_,_,rfl,rfl,⟨?_,λi hi=>?_⟩,⟨?_,λi hi=>?_⟩,?_⟩)
   .rw[gd,gd,H5,H5,h.1]
   .have hl:=h.len;rw[fy (by rw[EZ];omega),fy (by rw[EZ];omega)];by_cases a4:i=k
    .subst a4;unfold Cn;rw[nq,nq];have a0:=kd (·[i]?) h.1;simp only[gc]at a0;rw[dw hk,dw oM]at a0 ⊢;simp only[ir,ff,BY.key,Prod.mk.injEq]at a0;simp[a0.1,a0.2.1,a0.2.2]
    .rw[OC a4,OC a4];exact h.2 i oM
   .rw[nz (EZ _ _ _),H5]
   .rw[nz (EZ _ _ _),OC oM]
   .rw[dx,EZ];omega
structure Rs(k:Nat)(s s':St):Prop where
 AS:s'.AS.take k=s.AS
 nsl:s.ns.length<=s'.ns.length
 ns:é k (s'.ns.take s.ns.length) s.ns
 at_:∀a,s'.AS[k]?=some a->a=s.ns.length
 eq:s'.AS[k]?=none->s'.ns.length=s.ns.length
def Rs.refl{k:Nat}{s:St}(h:s.AS.length=k):Rs k s s:=
 ⟨ia oM,ga _,by rw[fe];exact .refl _ _,λa ha=>(by rw[jf oM]at ha;cases ha),λ_=>rfl⟩
structure Cor(q:IS)(s:St)(ns:Ζ)(k:Nat)(σ cs:Ρ)(l:Ο)(e:Η)(t:Nat):Prop where
 hk:s.AS.length=k
 lt:k<s.ns.length
 alk:é k s.ns ns
 ws:s.ws=q.sx ns k
 stack:s.stack=σ++cs
 first:s.first=σ.length
 left:l=(q.sx ns k).drop cs.length
 rk:∀c∈cs,c.rk=k
 low:∀c∈σ,c.rk<k
 env:e=cs.foldl BX (th ns k)
 dec:s.dec=t
def Holds(q:IS)(k:Nat)(lb:Lb)(s:St)(st:Ρ):Out->Prop
 | .rv=>True
 | .fail t'=>∃s',q.To lb s .back s'/\s'.stack=st/\Rs k s s'/\s'.dec=t'
 | .done ns' t'=>q.End lb s (.done ns' t')
 | .err e=>q.End lb s (.err e)
def UM{p:Ch->Bool}{a b:Ρ}{c:Ch}(ha:∀x∈a,p x=false)(hc:p c=true):(a++c::b).findIdx p=a.length:=by
 induction a with
 |nil=>simp[List.findIdx_cons,hc]
 |cons x r ih=>rw[io,List.findIdx_cons,ha x (.head _),ih λy hy=>ha y (.tail _ hy)];rfl
def GR(a:Ρ)(c:Ch):Bc (a++[c])=a++[{c with i:=c.i+1}]:=by unfold Bc;rw[dx,il,Nat.add_sub_cancel,List.modify_eq_take_drop];simp
def Wc(x:List sq×Bool)(i:Nat):(CE x)[i]?=if i<(if x.2 then x.1.length+1 else x.1.length)then some x.1[i]? else none:=by
 unfold CE;rw[nr,eh];by_cases h:i<x.1.length
 .rw[fo h,gc,dw h,fo (by split<;>omega)];rfl
 .rw[fb h];cases hx:x.2 with
  |false=>simp[h]
  |true=>
   by_cases h2:i=x.1.length
   .subst h2;simp
   .have:i - x.1.length≠0:=oM;rw[fo rfl,fo rfl,fb oM];rw[jf (by simp;omega)]
def Rs.ş{k:Nat}{s s1 s':St}(h1:s1.AS=s.AS)(h2:é k s1.ns s.ns)(h:Rs k s1 s'):Rs k s s':=by have hl:=h2.len;exact⟨h.AS.Z h1,by rw[<-hl];exact h.nsl,by rw[<-hl];exact h.ns.Z h2,λa ha=>by rw[<-hl];exact h.at_ a ha,λha=>by rw[<-hl];exact h.eq ha⟩
section
variable {q:IS}
def Xo(s:St):q.step .next s=(match s.ws[s.stack.length - s.first]? with
  |some w=>.V .Ñ {s with stack:=s.stack++[q.ch s.AS.length (th s.ns s.AS.length) w]}
  |none=>match q.bind s.ns s.AS.length s.env with
   | .wy=>.V .back s
   | .many=>.err 32
   | .ok ns'=>if s.AS.length+1=ns'.length then .done ns' s.dec else
     .V .next {s with ns:=ns',AS:=s.AS++[s.ns.length],ws:=q.sx ns' (s.AS.length+1),first:=s.stack.length}):=rfl
def Zl4{s:St}(h:s.stack=[]):q.step .back s= .err 30:=by
 show(match s.stack.getLast? with
  |none=>Ĩ.err 30
  |some c=>_)=_
 rw[h];rfl
def Sp{s:St}{a:Ρ}{c:Ch}(h:s.stack=a++[c]):q.step .Ñ s=if c.i<c.many then(if s.dec=q.D then .err 31 else .V .next {s with dec:=s.dec+1})else .V .back {s with stack:=a}:=by
 show(match s.stack.getLast? with
  |none=>Ĩ.err (-1)
  |some c=>if c.i<c.many then(if s.dec=q.D then .err 31 else .V .next {s with dec:=s.dec+1})else .V .back {s with stack:=s.stack.dropLast})=_
 rw[h,List.getLast?_append,nt];rfl
def Zl3{s:St}{a:Ρ}{c:Ch}(h:s.stack=a++[c]):q.step .back s= .V .Ñ {s with
    stack:=a++[{c with i:=c.i+1}]
    ns:=(match s.AS[c.rk]? with|some a=>s.ns.take a|none=>s.ns)
    AS:=s.AS.take c.rk
    ws:=q.sx (match s.AS[c.rk]? with|some a=>s.ns.take a|none=>s.ns) c.rk
    first:=(a++[{c with i:=c.i+1}]).findIdx λx:Ch=>decide (x.rk=c.rk)}:=by
 show(match s.stack.getLast? with
  |none=>Ĩ.err 30
  |some c=>.V .Ñ {s with
    stack:=Bc s.stack
    ns:=(match s.AS[c.rk]? with|some a=>s.ns.take a|none=>s.ns)
    AS:=s.AS.take c.rk
    ws:=q.sx (match s.AS[c.rk]? with|some a=>s.ns.take a|none=>s.ns) c.rk
    first:=(Bc s.stack).findIdx λx:Ch=>decide (x.rk=c.rk)})=_
 rw[h,List.getLast?_append,GR];rfl
def WS{f:Nat}{ns:Ζ}{k:Nat}{σ cs:Ρ}{w:uu}{l:Ο}{e:Η}
  (ih:∀(s:St)(cs:Ρ)(e:Η)(t:Nat),Cor q s ns k σ cs l e t->Holds q k .next s s.stack (q.V f ns k l e t))
  (hl:w::l=(q.sx ns k).drop cs.length) (hn:∀c∈cs,c.rk=k) (a5:∀c∈σ,c.rk<k) (he:e=cs.foldl BX (th ns k)):
  ∀(os:List (Option sq)) (i t:Nat) (s:St),(CE (q.xk (th ns k) w)).drop i=os->s.AS.length=k->k<s.ns.length->é k s.ns ns->s.ws=q.sx ns k->s.stack=σ++cs++[{q.ch k (th ns k) w with i:=i}]->s.first=σ.length->s.dec=t->
   Holds q k .Ñ s (σ++cs) (AZ q.D (λo t=>q.V f ns k l (B0 e w.Y o) t) os t)
 | [],i,t,s,ho,hk,hlt,ha,hws,hst,hf,hd=>by
  refine⟨{s with stack:=s.stack.dropLast},.step (s1:={s with stack:=s.stack.dropLast}) ?_ (.refl _ _),by rw[hst];simp,⟨ia (by simp;omega),ga _,by rw[fe];exact .refl _ _,λa h=>(by rw[jf (by simp;omega)]at h;cases h),λ_=>rfl⟩,hd⟩;have h1:=Wc (q.xk (th ns k) w) i;have h2:(CE (q.xk (th ns k) w))[i]?=none:=by have:=kd (·[0]?) ho;simpa using this
  rw[h2]at h1;have h3: ¬i<Ch.many {q.ch k (th ns k) w with i:=i}:=λh=>by rw[fo (show i<(if(q.xk (th ns k) w).2 then(q.xk (th ns k) w).1.length+1 else(q.xk (th ns k) w).1.length)from h)]at h1;cases h1
  rw[Sp hst,fb h3,hst,nt]
 |o::os,i,t,s,ho,hk,hlt,ha,hws,hst,hf,hd=>by
  have h1:=Wc (q.xk (th ns k) w) i;have h2:(CE (q.xk (th ns k) w))[i]?=some o:=by have:=kd (·[0]?) ho;simpa using this
  have b9:(CE (q.xk (th ns k) w)).drop (i+1)=os:=by have:=kd List.tail ho;simpa using this
  rw[h2]at h1;have h3:i<Ch.many {q.ch k (th ns k) w with i:=i}:=by
   by_cases h:i<(if(q.xk (th ns k) w).2 then(q.xk (th ns k) w).1.length+1 else(q.xk (th ns k) w).1.length)
   .exact h
   .rw[fb h]at h1;cases h1
  rw[fo (show i<(if(q.xk (th ns k) w).2 then(q.xk (th ns k) w).1.length+1 else(q.xk (th ns k) w).1.length)from h3)]at h1;have b8:o=(q.xk (th ns k) w).1[i]? :=by simpa using h1
  rw[AZ];by_cases hD:t=q.D
  .rw[fo hD];exact .err (by rw[Sp hst,fo h3,fo (hd.Z hD)])
  .rw[fb hD];have a4:q.step .Ñ s= .V .next {s with dec:=s.dec+1}:=by rw[Sp hst,fo h3,fb (by rwa [hd])]
   have b4:Cor q {s with dec:=s.dec+1} ns k σ (cs++[{q.ch k (th ns k) w with i:=i}]) l (B0 e w.Y o) (t+1):=by
    refine⟨hk,hlt,ha,hws,by rwa [<-fh],hf,?_,λc hc=>?_,a5,?_,by simp[hd]⟩
    .have:=kd List.tail hl;simpa using this
    .obtain hc|hc:=fj.1 hc
     .exact hn c hc
     .rw[eu]at hc;subst hc;rfl
    .rw[List.foldl_append,<-he,b8];rfl
   have b7:=ih _ _ _ _ b4;revert b7;cases q.V f ns k l (B0 e w.Y o) (t+1)with
   |rv=>exact λ_=>trivial
   |done ns' t'=>exact λh=>.step a4 h
   |err e'=>exact λh=>.step a4 h
   |fail t'=>
    rintro⟨s3,c4,c3,a6,b5⟩;show Holds q k .Ñ s (σ++cs) (AZ q.D _ os t');have b0:s3.stack=σ++cs++[{q.ch k (th ns k) w with i:=i}]:=c3.Z hst;have a0:é k (match s3.AS[k]? with|some a=>s3.ns.take a|none=>s3.ns) s.ns:=by
     cases h:s3.AS[k]? with
     |none=>have h4:=a6.ns;rw[<-a6.eq h,fe]at h4;exact h4
     |some a=>have h4:=a6.at_ a h;subst h4;exact a6.ns
    generalize hN:(match s3.AS[k]? with|some a=>s3.ns.take a|none=>s3.ns)=N at a0;have b2:q.step .back s3= .V .Ñ {s3 with stack:=σ++cs++[{q.ch k (th ns k) w with i:=i+1}],ns:=N,AS:=s.AS,ws:=q.sx ns k,first:=σ.length}:=by
     rw[Zl3 b0];have a7:(q.ch k (th ns k) w).rk=k:=rfl;dsimp only;rw[a7,hN,(a0.Z ha).sx,a6.AS];have b6:∀c:Ch,c.rk=k->(σ++cs++[c]).findIdx (λx:Ch=>decide (x.rk=k))=σ.length:=λc hc=>by
      rw[fh];have hp:∀x∈σ,(λx:Ch=>decide (x.rk=k)) x=false:=λx hx=>by have:=a5 x hx;simp;omega
      cases cs with
      |nil=>exact UM hp (by simp[hc])
      |cons c r=>exact UM hp (by simpa using hn c (.head _))
     rw[b6 _ rfl]
    have a9:=WS ih hl hn a5 he os (i+1) t' {s3 with stack:=σ++cs++[{q.ch k (th ns k) w with i:=i+1}],ns:=N,AS:=s.AS,ws:=q.sx ns k,first:=σ.length} b9 hk (by rwa [show({s3 with stack:=_,ns:=N,AS:=s.AS,ws:=q.sx ns k,first:=σ.length}:St).ns=N from rfl,a0.len]) (a0.Z ha) rfl rfl rfl b5;have a8:q.To .Ñ s .Ñ {s3 with stack:=σ++cs++[{q.ch k (th ns k) w with i:=i+1}],ns:=N,AS:=s.AS,ws:=q.sx ns k,first:=σ.length}:=.step a4 (c4.Z (.step b2 (.refl _ _)));revert a9;cases AZ q.D (λo t=>q.V f ns k l (B0 e w.Y o) t) os t' with
    |rv=>exact λ_=>trivial
    |done ns' t'=>exact λh=>a8.ends h
    |err e'=>exact λh=>a8.ends h
    |fail t'=>rintro⟨s5,h5,h6,h7,h8⟩;exact⟨s5,a8.Z h5,h6,Rs.ş (s1:={s3 with stack:=σ++cs++[{q.ch k (th ns k) w with i:=i+1}],ns:=N,AS:=s.AS,ws:=q.sx ns k,first:=σ.length}) rfl a0 h7,h8⟩
def YF{k:Nat}{a b:Ζ}(h:é k a b)(hl:a.length<=k):a=b:=by
 apply qm;intro i;obtain hi|hi:=pp i k
 .exact h.2 i hi
 .rw[jf oM,jf (by have:=h.len;omega)]
def RM:∀(f:Nat)(s:St)(ns:Ζ)(k:Nat)(σ cs:Ρ)(l:Ο)(e:Η)(t:Nat),Cor q s ns k σ cs l e t->Holds q k .next s s.stack (q.V f ns k l e t)
 |0,_,_,_,_,_,_,_,_,_=>by rw[IS.V];trivial
 |f+1,s,ns,k,σ,cs,[],e,t,h=>by
  have a5:s.stack.length - s.first=cs.length:=by rw[h.stack,h.first,dx];omega
  have hw:s.ws[s.stack.length - s.first]?=none:=by rw[a5,h.ws];have:=kd (·[0]?) h.left;simpa using this.H
  have a6:s.env=e:=by unfold St.env;rw[h.stack,h.first,List.drop_left' rfl,h.hk,h.alk.th,<-h.env]
  have a0:=Xo (q:=q) s;rw[hw,a6,h.hk]at a0;dsimp only at a0;rw[IS.V];rcases h.alk.bind (e:=e) h.lt with⟨b1,b2⟩|⟨b1,b2⟩|⟨a',b',b1,b2,a4,b4,b0⟩
  .rw[b2];rw[b1]at a0;exact⟨s,.step a0 (.refl _ _),rfl,Rs.refl h.hk,h.dec⟩
  .rw[b2];rw[b1]at a0;exact .err a0
  .rw[b2];rw[b1]at a0;dsimp only at a0 ⊢;have a7:=a4.len;have b5:=h.lt;rw[<-a7];by_cases hd:k+1=a'.length
   .rw[fo hd]at a0 ⊢;obtain rfl:=YF a4 oM;rw[h.dec]at a0;exact .done a0
   .rw[fb hd]at a0 ⊢;have a8:Cor q {s with ns:=a',AS:=s.AS++[s.ns.length],ws:=q.sx a' (k+1),first:=s.stack.length} b' (k+1) s.stack [] (q.sx b' (k+1)) (th b' (k+1)) t:=by
     refine⟨by simp[h.hk],by show k+1<a'.length;omega,a4,(by show q.sx a' (k+1)=_;exact a4.sx _),by simp,rfl,by simp,λc hc=>(by cases hc),λc hc=>?_,rfl,h.dec⟩;rw[h.stack]at hc;obtain hc|hc:=fj.1 hc
     .have:=h.low c hc;omega
     .rw[h.rk c hc];omega
    have a9:=RM f _ _ _ _ _ _ _ _ a8;revert a9;cases q.V f b' (k+1) (q.sx b' (k+1)) (th b' (k+1)) t with
    |rv=>exact λ_=>trivial
    |done ns' t'=>exact λg=>.step a0 g
    |err e'=>exact λg=>.step a0 g
    |fail t'=>
     rintro⟨s',g1,g2,g3,g4⟩;have hk:=h.hk;refine⟨s',.step a0 g1,g2,?_,g4⟩;have h5:s'.AS.take (k+1)=s.AS++[s.ns.length]:=g3.AS;have h6:s'.AS[k]?=some s.ns.length:=by have:=kd (·[k]?) h5;simp only[mn]at this;rw[fo oM,ic oM]at this;simpa[hk]using this
     have h7:a'.length<=s'.ns.length:=g3.nsl;have h8:é (k+1) (s'.ns.take a'.length) a':=g3.ns;refine⟨?_,oM,?_,λa ha=>?_,λha=>?_⟩
     .have:=kd (List.take k) h5;rw[List.take_take,ky oM,nz hk]at this;exact this
     .have h9:=(h8.take s.ns.length).O (j:=k) oM;rw[List.take_take,ky b0]at h9;exact h9.Z b4
     .rw[h6]at ha;simpa using ha.H
     .rw[h6]at ha;cases ha
 |f+1,s,ns,k,σ,cs,w::l,e,t,h=>by
  have a5:s.stack.length - s.first=cs.length:=by rw[h.stack,h.first,dx];omega
  have hw:s.ws[s.stack.length - s.first]?=some w:=by rw[a5,h.ws];have:=kd (·[0]?) h.left;simpa using this.H
  have a0:q.step .next s= .V .Ñ {s with stack:=s.stack++[q.ch k (th ns k) w]}:=by rw[Xo,hw,h.hk,h.alk.th]
  rw[IS.V];have hr:=WS (q:=q) (f:=f) (ns:=ns) (k:=k) (σ:=σ) (cs:=cs) (w:=w) (l:=l) (e:=e) (λs cs e t hc=>RM f s ns k σ cs l e t hc) h.left h.rk h.low h.env (CE (q.xk (th ns k) w)) 0 t {s with stack:=s.stack++[q.ch k (th ns k) w]} rfl h.hk h.lt h.alk h.ws (by show s.stack++_=_;rw[h.stack];rfl) h.first h.dec;revert hr;cases AZ q.D (λo t=>q.V f ns k l (B0 e w.Y o) t) (CE (q.xk (th ns k) w)) t with
  |rv=>exact λ_=>trivial
  |done ns' t'=>exact λg=>.step a0 g
  |err e'=>exact λg=>.step a0 g
  |fail t'=>rintro⟨s',g1,g2,g3,g4⟩;exact⟨s',.step a0 g1,g2.Z h.stack.H,⟨g3.AS,g3.nsl,g3.ns,g3.at_,g3.eq⟩,g4⟩
def IS.start(q:IS):St:=⟨[],[ta],[],q.sx [ta] 0,0,0⟩
def IS.xy(q:IS):Nat:=q.D+q.N+2
def IS.run(q:IS):Out:=q.V q.xy [ta] 0 (q.sx [ta] 0) [] 0
def Zkk:match q.run with
  | .rv=>True
  | .fail _=>q.End .next q.start (.err 30)
  | .done ns t=>q.End .next q.start (.done ns t)
  | .err e=>q.End .next q.start (.err e):=by
 have h:=RM q.xy q.start [ta] 0 [] [] (q.sx [ta] 0) [] 0 ⟨rfl,Nat.one_pos,.refl _ _,rfl,rfl,rfl,rfl,λc h=>(by cases h),λc h=>(by cases h),rfl,rfl⟩;unfold IS.run;revert h;cases q.V q.xy [ta] 0 (q.sx [ta] 0) [] 0 with
 |rv=>exact λ_=>trivial
 |done ns t=>exact λh=>h
 |err e=>exact λh=>h
 |fail t=>rintro⟨s',h1,h2,_,_⟩;exact h1.ends (.err (Zl4 h2))
end
end Go.Hal
namespace Go.Hal
def Rt{N:Nat}:∀{xs:Ζ} {ks:List CW} {r:Ζ×LQ},AO N ks xs=some r->ks.length<=N->ks.length+r.1.length<=N
 | [],ks,r,h,hl=>by rw[AO]at h;cases h;simpa using hl
 |x::xs,ks,r,h,hl=>by
  rw[AO]at h;cases hf:ks.findIdx? λy=>decide (y=x.key)with
  |some i=>rw[hf]at h;obtain⟨r',h1,h2⟩:=jc.1 h;subst h2;have:=Rt h1 hl;exact this
  |none=>
   rw[hf]at h;dsimp only at h;by_cases hN:ks.length=N
   .rw[fo hN]at h;cases h
   .rw[fb hN]at h;obtain⟨r',h1,h2⟩:=jc.1 h;subst h2;have:=Rt h1 (by simp;omega);simp at this ⊢;omega
def Nw{q:IS}{ns ns':Ζ}{k:Nat}{e:Η}(h:q.bind ns k e= .ok ns')(hl:ns.length<=q.N):ns.length<=ns'.length/\ns'.length<=q.N:=by
 unfold IS.bind at h;cases h1:AU q (AD e) (AD e)with
 |none=>rw[h1]at h;cases h
 |some xs=>
  rw[h1]at h;dsimp only at h;cases h2:AO q.N (ns.map BY.key) xs with
  |none=>rw[h2]at h;cases h
  |some r=>rw[h2]at h;cases h;have:=Rt h2 (by simpa using hl);rw[dx,EZ];simp at this;omega
def Ł(q:IS)(t:Nat):Out->Prop
 | .rv=>False
 | .fail t'=>t<=t'/\t'<=q.D
 | .done ns' t'=>t<=t'/\t'<=q.D/\ns'.length<=q.N
 | .err e=>e=31\/e=32
def Ł.O{q:IS}{t t2:Nat}{o:Out}(h:Ł q t2 o)(ht:t<=t2):Ł q t o:=by
 cases o with
 |rv=>exact h
 |fail t'=>exact⟨fl ht h.1,h.2⟩
 |done ns' t'=>exact⟨fl ht h.1,h.2⟩
 |err e=>exact h
def XJ{q:IS}{k:Option sq->Nat->Out}{m:Nat}(hk:∀o t,m<t->t<=q.D->Ł q t (k o t)):∀(os:List (Option sq)) (t:Nat),m<=t->t<=q.D->Ł q t (AZ q.D k os t)
 | [],t,_,ht=>⟨ga _,ht⟩
 |o::os,t,hm,ht=>by
  rw[AZ];by_cases hD:t=q.D
  .rw[fo hD];exact .inl rfl
  .rw[fb hD];have h:=hk o (t+1) oM oM;revert h;cases k o (t+1)with
   |rv=>exact λh=>h.F
   |done ns' t'=>exact λh=>Ł.O (o:=.done ns' t') h (Nat.le_succ _)
   |err e=>exact λh=>h
   |fail t'=>exact λh=>(XJ hk os t' (by have:=h.1;omega) h.2).O (by have:=h.1;omega)
def QC{q:IS}:∀(f:Nat)(ns:Ζ)(k:Nat)(l:Ο)(e:Η)(t:Nat),t<=q.D->k<ns.length->ns.length<=q.N->(q.D - t)+(q.N - k)+1<=f->Ł q t (q.V f ns k l e t)
 |0,_,_,_,_,_,_,_,_,hf=>by omega
 |f+1,ns,k,[],e,t,ht,hk,hN,hf=>by
  rw[IS.V];cases h:q.bind ns k e with
  |wy=>exact⟨ga _,ht⟩
  |many=>exact .inr rfl
  |ok ns'=>
   obtain⟨h1,h2⟩:=Nw h hN;dsimp only;split
   .exact⟨ga _,ht,h2⟩
   .exact QC f ns' (k+1) _ _ t ht oM h2 oM
 |f+1,ns,k,w::l,e,t,ht,hk,hN,hf=>by rw[IS.V];exact XJ (m:=t) (λo t2 h1 h2=>QC f ns k l _ t2 h2 hk hN oM) _ t nR ht
def Me{q:IS}(hN:1<=q.N):Ł q 0 q.run:=QC _ _ _ _ _ _ (im _) Nat.one_pos hN (by unfold IS.xy;omega)
def IS.Ņ(q:IS):Ĩ:=match q.run with
 | .rv=>.err 0
 | .fail _=> .err 30
 | .done ns t=>.done ns t
 | .err e=>.err e
def Zkl{q:IS}(hN:1<=q.N):q.End .next q.start q.Ņ:=by
 have h1:=Me hN;have h2:=Zkk (q:=q);unfold IS.Ņ;revert h1 h2;cases q.run with
 |rv=>exact λh=>h.F
 |fail t=>exact λ_ h=>h
 |done ns t=>exact λ_ h=>h
 |err e=>exact λ_ h=>h
def wo:xh Edge:=DS 2 24 (λx=>[.string x.Y,vi x.to]) (λx=>Ac x.Y) (λ_=>rfl) (λ_ v hv=>by simp at hv;rcases hv with rfl|rfl<;>rfl)
def ud:xh BY where
 n:=6
 bytes:=88
 rep:=λw S x cs=>Ac x.Y/\∃c e:Sl,cs= [.string x.Y,vi x.v.ma,vi x.v.mi,vi x.v.pa,c.v,e.v]/\IT uy w S c x.uk/\IT wo w S e x.sd
 len:=λ⟨_,_,_,h,_⟩=>by rw[h];rfl
 one:=λ⟨_,_,_,h,_⟩ v hv=>by rw[h]at hv;simp[Sl.v]at hv;rcases hv with rfl|rfl|rfl|rfl|rfl|rfl<;>rfl
 O:=λ⟨h0,c,e,h,a,b⟩ hs=>⟨h0,c,e,h,a.O hs,b.O hs⟩
 ry:=λ⟨h0,c,e,h,a,b⟩ hk=>⟨h0,c,e,h,a.ry hk,b.ry hk⟩
def Œ:xh Ch where
 n:=5
 bytes:=64
 rep:=λw S x cs=>Ac x.Y/\∃v:Sl,cs= [vi x.rk,.string x.Y,v.v,.bool x.none,vi x.i]/\IT ú w S v x.vs
 len:=λ⟨_,_,h,_⟩=>by rw[h];rfl
 one:=λ⟨_,_,h,_⟩ v hv=>by rw[h]at hv;simp[Sl.v]at hv;rcases hv with rfl|rfl|rfl|rfl|rfl<;>rfl
 O:=λ⟨h0,c,h,a⟩ hs=>⟨h0,c,h,a.O hs⟩
 ry:=λ⟨h0,c,h,a⟩ hk=>⟨h0,c,h,a.ry hk⟩
def Tx:Bz prog 124 130 5 64:=CM (z:=.agg #[vi 0,.string ⟨#[]⟩,.slice none 0 0,.bool false,vi 0]) kR kR rfl dC
def P3:Bz prog 35 56 6 88:=CM (z:=.agg #[.string ⟨#[]⟩,vi 0,vi 0,vi 0,.slice none 0 0,.slice none 0 0]) kR kR rfl dC
def Nq:Bz prog 54 153 2 24:=CM (z:=.agg #[.string ⟨#[]⟩,vi 0]) kR kR rfl dC
def P2:Bz prog 66 3 1 8:=CM (z:=.int .i64 0) kR kR rfl dC
structure K7 where
 cp:LP
 mD:Sl
 yc:Sl
 ye:Sl
 Ó:Sl
 uo:Bool
 pS:Sl
def CT(K:K7)(stk nds ahd ws:Sl)(first:Nat):LV:=[.pointer (some K.cp),K.mD.v,K.yc.v,K.ye.v,K.Ó.v,.bool K.uo,K.pS.v,stk.v,nds.v,ahd.v,ws.v,vi first]
structure Cs(w:Qd)(lo:Nat)(q:IS)(K:K7):Prop where
 cat:∃S r,yz w S K.cp r q.L/\(∀b,S b->b<lo)/\r<lo/\K.cp.block<lo
 sj:IT rq w (· <lo) K.mD q.m.sj
 dv:IT rq w (· <lo) K.yc q.m.uo
 ut:IT rq w (· <lo) K.ye q.m.ut
 ru:IT rq w (· <lo) K.Ó q.m.ru
 OF:IT uy w (· <lo) K.pS q.OF
 uo:K.uo=q.uo
 le:lo<=w.heap.size
 small:q.m.sj.length+q.m.uo.length+q.m.ut.length<=48
def Cs.below{q:IS}{K:K7}(h:Cs w lo q K)(hb:Below lo w w'):Cs w' lo q K:=by
 obtain⟨S,r,a,b,c,d⟩:=h.cat;have s:=hb.size;have a0:∀x,(S x\/x=K.cp.block\/x=r)->x<lo:=λx hh=>by
  obtain hh|rfl|rfl:=hh
  .exact b x hh
  .exact d
  .exact c
 exact⟨⟨S,r,a.stay s λx hx hh=>hb.block x (a0 x hh),b,c,d⟩,h.sj.below hb λ_ h=>h,h.dv.below hb λ_ h=>h,h.ut.below hb λ_ h=>h,h.ru.below hb λ_ h=>h,h.OF.below hb λ_ h=>h,h.uo,fl h.le s,h.small⟩
def Cs.tf{q:IS}{K:K7}(h:Cs w lo q K):Old (· <lo) w:=λb hb=>ju hb h.le
def J9(s:Sl)(g:Nat):Prop:=∀ad,s.a=some ad->ad.block≠g
structure yg(w:Qd)(lo:Nat)(g:Nat)(stk nds ahd ws:Sl)(Q:Nat->Prop)(s:St):Prop where
 stack:rl Œ 130 w lo Q stk s.stack
 tn:rl ud 56 w lo Q nds s.ns
 AS:rl Ci 3 w lo Q ahd (s.AS.map Int.ofNat)
 sx:IT Pa w Q ws s.ws
 q:∀b,Q b->lo<=b/\b≠g
 a1:yd stk nds
 a2:yd stk ahd
 a3:yd nds ahd
 o1:J9 stk g
 o2:J9 nds g
 o3:J9 ahd g
section
variable {w w':Qd} {lo g:Nat} {stk nds ahd ws:Sl} {Q:Nat->Prop} {s:St}
def yg.J(h:yg w lo g stk nds ahd ws Q s)(hb:ur g w w'):yg w' lo g stk nds ahd ws Q s:=by have hg: ¬Q g:=λh0=>(h.q g h0).2 rfl;exact⟨h.stack.J hb hg λad ha=>(h.o1 ad ha).H,h.tn.J hb hg λad ha=>(h.o2 ad ha).H,h.AS.J hb hg λad ha=>(h.o3 ad ha).H,h.sx.J hb hg,h.q,h.a1,h.a2,h.a3,h.o1,h.o2,h.o3⟩
def yg.U(h:yg w lo g stk nds ahd ws Q s)(hx:AI w w'):yg w' lo g stk nds ahd ws Q s:=
 ⟨h.stack.U hx,h.tn.U hx,h.AS.U hx,h.sx.U hx,h.q,h.a1,h.a2,h.a3,h.o1,h.o2,h.o3⟩
def yg.grow(h:yg w lo g stk nds ahd ws Q s)(hx:AI w w')(a0:lo<=w.heap.size)(hg:g<w.heap.size):yg w' lo g stk nds ahd ws (λb=>Q b\/(w.heap.size<=b/\b<w'.heap.size)) s:=by
 have hs:=hx.size;have key:∀{α:Type} {E:xh α} {T:LN} {x:Sl} {l:List α},rl E T w lo Q x l->rl E T w' lo (λb=>Q b\/(w.heap.size<=b/\b<w'.heap.size)) x l:=λo=>(o.U hx).O (λ_ h=>.inl h) (λb hb=>by
   obtain hb|hb:=hb
   .have:=o.lt b hb;omega
   .exact hb.2) (λad ha hb=>by
   obtain hb|hb:=hb
   .exact o.apart ad ha hb
   .have:=(o.block ha).2.1;omega)
 exact⟨key h.stack,key h.tn,key h.AS,(h.sx.U hx).O λ_ h=>.inl h,λb hb=>by
  obtain hb|hb:=hb
  .exact h.q b hb
  .exact⟨oM,oM⟩,h.a1,h.a2,h.a3,h.o1,h.o2,h.o3⟩
end
def CX(w:Qd)(lo:Nat)(sp:LP)(K:K7)(s:St):Prop:=∃stk nds ahd ws Q,AT w sp (CT K stk nds ahd ws s.first)/\lo<=sp.block/\yg w lo sp.block stk nds ahd ws Q s
def _root_.Go.Hal.AI.uj(h:AI w w')(lo:Nat)(hl:lo<=w.heap.size):Below lo w w':=Below.O h hl
def IH{a:LP}(h:AT w a cs):a.block<w.heap.size:=h.lt
def Yb(ru a b:Ι):(Ea ru a b).length=a.length+b.length:=by unfold Ea;rw[Sm,dx,eh,eh]
def Zka(m:vu)(uo:Bool):(Dy m uo).length<=m.sj.length+m.uo.length:=by
 unfold Dy;split
 .rw[dx];exact ga _
 .omega
def Zdi{l:List sq}(h:tk sq.c 24 w lo s l):IT ú w (λb=>lo<=b/\b<w.heap.size) s l:=tk.I (E:=ú) h (λ_=>rfl) λ_ _ x _=>⟨rfl,trivial⟩
def ZA{c:Ch}{v:Sl}{R:À}(hv:IT ú w S v c.vs)(hl:c.vs.length<=1000)(hR:∀w',AI w w'->R (c.many:Int) w'):LX c.rk c.Y v c.none c.i w R:=by
 unfold LX;have a0:=hv.len;refine An.intro λa w1 x1 ha _ _=>⟨c.none,AT.at1 ha (k:=3) xR rfl,λh=>?_,λh=>?_⟩
 .refine⟨v,AT.at1 ha (k:=2) xR rfl,?_⟩;have e:Aa ((v.len:Int)+1)=(c.many:Int):=by rw[Ai oM oM];unfold Ch.many;rw[fo h];omega
  rw[e];exact hR _ x1
 .refine⟨v,AT.at1 ha (k:=2) xR rfl,?_⟩;have e:(v.len:Int)=(c.many:Int):=by unfold Ch.many;rw[fb (by rw[h];decide)];omega
  rw[e];exact hR _ x1
def RF{n:PU}{R:Int->Int->Int->Á}(hs:IT uy w S s l)
  (a6:∀v w',un l n=some v->AI w w'->R v.ma v.mi v.pa true w') (a5:∀w',un l n=none->AI w w'->R 0 0 0 false w'):H4 s n w R:=by
 unfold H4;have hl:=hs.len;refine An.intro λa w1 x1 ha b9 _=>?_;refine rn.up hs.max (λi w'=>AI w1 w'/\(l.take i).find? (As n)=none) ⟨AI.refl _,rfl⟩ λi w2 c4 hi ⟨x2,hI⟩ hn=>⟨λb0=>?_,λc3=>?_⟩
 .have a0:i<l.length:=oM;have b6:=x1.Z x2;obtain⟨ad,b2,_,hN,hc⟩:=Dw hs a0;refine⟨ad,⟨b2,oM,b0⟩,_,_,_,_,hc _ b6,An.intro λa3 w3 x3 a4 b8 _=>tj.intro a4 sI λw4 b4 _ a8=>?_⟩;have b7:AI w2 w4:=b4.U x3 oM;have a7:=x2.Z b7;refine⟨_,a8.at0 xR rfl,λhe=>?_,λhe=>?_⟩
  .refine⟨_,_,_,AT.at1 a8 (k:=1) xR rfl,tj.intro (ha.U a7) sI λw5 b5 _ a9=>⟨_,_,_,a9.at0 (r:=[]) xR rfl,?_⟩⟩;have hf:=Qz (p:=As n) a0 hI (by simp[As,he]);exact a6 l[i].v w5 (by unfold un;rw[hf];rfl) (b5.U (x1.Z a7) oM)
  .refine hn a0 _ ⟨a7,?_⟩;rw[Ss a0 hI,fb (by simp[As,he])]
 .have:i=l.length:=oM;rw[this,fe]at hI;refine tj.intro (ha.U x2) sI λw3 b3 _ a4=>⟨_,_,_,a4.at0 (r:=[]) xR rfl,a5 w3 (by unfold un;rw[hI];rfl) (b3.U (x1.Z x2) oM)⟩
end Go.Hal
namespace Go.Hal
structure ñ(q:IS)(e:Nat)(s:St):Prop where
 a:s.AS.length<s.ns.length
 n:s.ns.length<=q.N
 b:∀i a:Nat,s.AS[i]?=some a->i<a/\a<=s.ns.length
 m:∀i j a b:Nat,i<=j->s.AS[i]?=some a->s.AS[j]?=some b->a<=b
 st:(s.stack.map (·.rk)).Pairwise (λa b:Nat=>a<=b)
 Ļ:∀n∈s.stack.map (·.rk),n<=s.AS.length
 f:s.first+e<=s.stack.length
 c:∀x∈s.ns,(x.uk.map (·.Y)).Nodup/\x.uk.length<=2048
 v:∀v∈s.stack.map (·.vs),v.length<=1000
 d:s.dec<=q.D
 k:s.stack.length<=s.dec+e
 i0:∀c∈s.stack.dropLast,c.i<=1000
 i1:∀c∈s.stack,c.i<=1000+e
def zr(q:IS):Lb->St->Prop
 | .next,s=>ñ q 0 s
 | .Ñ,s=>ñ q 1 s
 | .back,s=>ñ q 0 s
def ZV(hg:vl L){ru:Ι}{env:Η}{p:sy}{c:Η}(h:Cf L ru env p=some c):(c.map (·.Y)).Nodup/\c.length<=2048:=by refine⟨(PY h).1.nodup,?_⟩;unfold Cf uk at h;obtain⟨o,h1,rfl⟩:=jc.1 h;rw[(DG o).length_eq];exact Uk hg (PX _ _ _ _ ë.zero h1)
def X6{q:IS}{env:Η}:∀{ps:Η} {xs:Ζ},AU q env ps=some xs->∀x∈xs,∃p∈ps,x.Y=p.Y/\x.v=p.v/\Cf q.L q.m.ru env p=some x.uk/\x.sd=[]
 | [],xs,h,x,hx=>by rw[AU]at h;cases h;cases hx
 |p::r,xs,h,x,hx=>by
  rw[AU]at h;cases h1:Cf q.L q.m.ru env p with
  |none=>rw[h1]at h;cases h
  |some c=>
   rw[h1]at h;obtain⟨ys,h2,rfl⟩:=jc.1 h;obtain rfl|hx:=gj.1 hx
   .exact⟨p,.head _,rfl,rfl,h1,rfl⟩
   .obtain⟨p',hp,k⟩:=X6 h2 x hx;exact⟨p',.tail _ hp,k⟩
def Ru{N:Nat}:∀{xs:Ζ} {ks:List CW} {r:Ζ×LQ},AO N ks xs=some r->∀x∈r.1,x∈xs
 | [],ks,r,h,x,hx=>by rw[AO]at h;cases h;cases hx
 |y::ys,ks,r,h,x,hx=>by
  rw[AO]at h;cases hf:ks.findIdx? λz=>decide (z=y.key)with
  |some i=>rw[hf]at h;obtain⟨r',h1,rfl⟩:=jc.1 h;exact .tail _ (Ru h1 x hx)
  |none=>
   rw[hf]at h;dsimp only at h;by_cases hN:ks.length=N
   .rw[fo hN]at h;cases h
   .rw[fb hN]at h;obtain⟨r',h1,rfl⟩:=jc.1 h;obtain rfl|hx:=gj.1 hx
    .exact .head _
    .exact .tail _ (Ru h1 x hx)
def Zkv{ns:Ζ}{k:Nat}{es:LQ}{x:BY}(hx:x∈Cn ns k es):∃y∈ns,y.uk=x.uk:=by have h:x.key∈(Cn ns k es).map BY.key:=ix hx;rw[H5]at h;obtain⟨y,hy,e⟩:=gv.1 h;exact⟨y,hy,kd (·.2.2) e⟩
def TL{β:Type}(f:Ch->β)(hf:∀c i,f {c with i:=i}=f c)(l:Ρ):(Bc l).map f=l.map f:=by
 unfold Bc;apply qm;intro i;rw[gc,gc,nq];cases l[i]? with
 |none=>rfl
 |some c=>by_cases h:l.length - 1=i<;>simp[h,hf]
def TK(l:Ρ):(Bc l).length=l.length:=by unfold Bc;rw[List.length_modify]
def Zu{q:IS}{c:Η}{w:uu}(hC:∀n r p,(BG q.L n r p).length<=1000):(q.xk c w).1.length<=1000:=by
 unfold IS.xk;split
 .dsimp only;split<;>simp
 .exact hC _ _ _
def C9(ns:Ζ)(AS:Α)(k:Nat):Ζ:=match AS[k]? with
 |some a=>ns.take a
 |none=>ns
def FX(q:IS)(s:St)(k:Nat):St:={s with stack:=Bc s.stack,ns:=C9 s.ns s.AS k,AS:=s.AS.take k,ws:=q.sx (C9 s.ns s.AS k) k,first:=(Bc s.stack).findIdx λx=>decide (x.rk=k)}
def ME(q:IS)(s:St):q.step .back s=match s.stack.getLast? with
  |none=>.err 30
  |some c=>.V .Ñ (FX q s c.rk):=rfl
def zr.step{q:IS}(hG:vl q.L)(hC:∀n r p,(BG q.L n r p).length<=1000){l l':Lb}{s s':St}(h:zr q l s)(hs:q.step l s= .V l' s'):zr q l' s':=by
 cases l with
 |next=>
  have h:ñ q 0 s:=h;rw[IS.step]at hs;cases hw:s.ws[s.stack.length - s.first]? with
  |some w=>
   rw[hw]at hs;cases hs;have hk:=h.k;exact⟨h.a,h.n,h.b,h.m,by
    rw[gd,ji];exact⟨h.st,lw _ _,λx hx y hy=>by simp only[gu,ot,eu]at hy;subst hy;exact h.Ļ x hx⟩,λn hn=>by
    rw[gd,fj]at hn;obtain hn|hn:=hn
    .exact h.Ļ n hn
    .simp only[gu,ot,eu]at hn;subst hn;exact ga _,by
    show s.first+1<=(s.stack++_).length;have:=h.f;rw[dx,il];omega,h.c,λv hv=>by
    rw[gd,fj]at hv;obtain hv|hv:=hv
    .exact h.v v hv
    .simp only[gu,ot,eu]at hv;subst hv;exact Zu hC,h.d,by
    show(s.stack++_).length<=s.dec+1;have c3:s.stack.length<=s.dec+0:=h.k;rw[dx,il];omega,λc hc=>by
    replace hc:c∈(s.stack++[_]).dropLast:=hc;rw[nt]at hc;exact h.i1 c hc,λc hc=>by
    obtain hc|hc:=fj.1 hc
    .exact Nat.le_succ_of_le (h.i1 c hc)
    .simp only[eu]at hc;subst hc;exact im _⟩
  |none=>
   rw[hw]at hs;dsimp only at hs;cases hb:q.bind s.ns s.AS.length s.env with
   |wy=>rw[hb]at hs;cases hs;exact h
   |many=>rw[hb]at hs;cases hs
   |ok ns'=>
    rw[hb]at hs;dsimp only at hs;split at hs
    .cases hs
    .rename_i b6;cases hs;obtain⟨h1,h2⟩:=Nw hb h.n;have ha:=h.a;have b0:∀x∈ns',(x.uk.map (·.Y)).Nodup/\x.uk.length<=2048:=by
      unfold IS.bind at hb;cases ht:AU q (AD s.env) (AD s.env)with
      |none=>rw[ht]at hb;cases hb
      |some xs=>
       rw[ht]at hb;dsimp only at hb;cases hp:AO q.N (s.ns.map BY.key) xs with
       |none=>rw[hp]at hb;cases hb
       |some r=>
        rw[hp]at hb;cases hb;intro x hx;obtain hx|hx:=fj.1 hx
        .obtain⟨y,hy,e⟩:=Zkv hx;rw[<-e];exact h.c y hy
        .obtain⟨p,_,_,_,hc,_⟩:=X6 ht x (Ru hp x hx);exact ZV hG hc
     refine⟨by show(s.AS++[s.ns.length]).length<ns'.length;rw[dx,il];omega,h2,λi a hi=>?_,λi j a b a6 hi hj=>?_,h.st,λn hn=>?_,ga _,b0,h.v,h.d,h.k,h.i0,h.i1⟩
     .show i<a/\a<=ns'.length;replace hi:(s.AS++[s.ns.length])[i]?=some a:=hi;rw[nr]at hi;split at hi
      .have:=h.b i a hi;exact⟨this.1,oM⟩
      .rw[List.getElem?_singleton]at hi;split at hi
       .cases hi;exact⟨oM,h1⟩
       .cases hi
     .replace hi:(s.AS++[s.ns.length])[i]?=some a:=hi;replace hj:(s.AS++[s.ns.length])[j]?=some b:=hj;rw[nr]at hi hj;split at hj
      .rw[fo oM]at hi;exact h.m i j a b a6 hi hj
      .rw[List.getElem?_singleton]at hj;split at hj
       .cases hj;split at hi
        .exact(h.b i a hi).2
        .rw[List.getElem?_singleton]at hi;split at hi
         .cases hi;exact ga _
         .cases hi
       .cases hj
     .have:=h.Ļ n hn;show n<=(s.AS++[s.ns.length]).length;rw[dx];omega
 |Ñ=>
  have h:ñ q 1 s:=h;rw[IS.step]at hs;cases hl:s.stack.getLast? with
  |none=>rw[hl]at hs;cases hs
  |some c=>
   rw[hl]at hs;dsimp only at hs;have hk:=h.k;have hd:=h.d;split at hs
   .rename_i a7;split at hs
    .cases hs
    .rename_i b6;cases hs;exact⟨h.a,h.n,h.b,h.m,h.st,h.Ļ,by have:=h.f;show s.first+0<=s.stack.length;omega,h.c,h.v,by show s.dec+1<=q.D;omega,by show s.stack.length<=s.dec+1+0;omega,h.i0,λx hx=>by
      obtain⟨pre,a0⟩:=pw.1 hl;have h0:=h.i0;rw[a0,nt]at h0;replace hx:x∈s.stack:=hx;rw[a0]at hx;obtain hx|hx:=fj.1 hx
      .exact h0 x hx
      .simp only[eu]at hx;subst hx;have h2:=h.v x.vs (ix (by rw[a0];simp));unfold Ch.many at*;split at a7<;>omega⟩
   .cases hs;have a5:List.Sublist s.stack.dropLast s.stack:=List.dropLast_sublist _;have b7:s.stack.dropLast.length=s.stack.length - 1:=List.length_dropLast;refine⟨h.a,h.n,h.b,h.m,h.st.sublist (a5.map _),λn hn=>h.Ļ n ((a5.map _).subset hn),?_,h.c,λv hv=>h.v v ((a5.map _).subset hv),hd,?_,λc hc=>h.i0 c (List.dropLast_subset _ hc),h.i0⟩
    .have:=h.f;show s.first+0<=s.stack.dropLast.length;omega
    .have:=h.f;show s.stack.dropLast.length<=s.dec+0;omega
 |back=>
  have h:ñ q 0 s:=h;rw[ME]at hs;cases hl:s.stack.getLast? with
  |none=>rw[hl]at hs;cases hs
  |some c=>
   rw[hl]at hs;dsimp only at hs;cases hs;obtain⟨pre,a0⟩:∃pre,s.stack=pre++[c]:=pw.1 hl;have b9:c.rk<=s.AS.length:=h.Ļ _ (by rw[a0];simp);have a8:∀n∈s.stack.map (·.rk),n<=c.rk:=λn hn=>by
    have b2:=h.st;rw[a0,gd,ji]at b2;rw[a0,gd,fj]at hn;obtain hn|hn:=hn
    .exact b2.2.2 n hn _ sI
    .simp at hn;omega
   have b4:(s.AS.take c.rk).length=c.rk:=(by rw[fk];omega);have ha:=h.a;have hn:=h.n;have key:∀a4,C9 s.ns s.AS c.rk=a4->c.rk<a4.length/\a4.length<=s.ns.length/\(∀i a,i<c.rk->s.AS[i]?=some a->a<=a4.length)/\∀x∈a4,x∈s.ns:=λa4 e=>by
    unfold C9 at e;cases hx:s.AS[c.rk]? with
    |some a=>rw[hx]at e;dsimp only at e;have h1:=h.b _ a hx;subst e;refine⟨by rw[fk];omega,by rw[fk];omega,λi b hi hb=>?_,λx hx=>lz hx⟩;have:=h.m i c.rk b a oM hb hx;rw[fk];omega
    |none=>rw[hx]at e;dsimp only at e;subst e;have:=nc.1 hx;exact⟨oM,ga _,λi b _ hb=>(h.b i b hb).2,λx hx=>hx⟩
   obtain⟨k1,k2,k3,k4⟩:=key _ rfl;have a9:(Bc s.stack).map (·.rk)=s.stack.map (·.rk):=TL _ (λ_ _=>rfl) _;have b5:(Bc s.stack).map (·.vs)=s.stack.map (·.vs):=TL _ (λ_ _=>rfl) _;have b8:=TK s.stack;have hk:=h.k;refine⟨by show(s.AS.take c.rk).length<(C9 s.ns s.AS c.rk).length;omega,by show(C9 s.ns s.AS c.rk).length<=q.N;omega,λi a hi=>?_,λi j a b a6 hi hj=>?_,by show((Bc s.stack).map (·.rk)).Pairwise _;rw[a9];exact h.st,λn hn=>?_,?_,λx hx=>h.c x (k4 x hx),λv hv=>h.v v (by rwa [<-b5]),h.d,by show(Bc s.stack).length<=s.dec+1;omega,λx hx=>by
    replace hx:x∈(Bc s.stack).dropLast:=hx;rw[a0,GR,nt]at hx;exact h.i1 x (by rw[a0];simp[hx]),λx hx=>by
    replace hx:x∈Bc s.stack:=hx;rw[a0,GR]at hx;obtain hx|hx:=fj.1 hx
    .exact Nat.le_succ_of_le (h.i1 x (by rw[a0];simp[hx]))
    .simp only[eu]at hx;subst hx;exact Nat.succ_le_succ (h.i1 c (by rw[a0];simp))⟩
   .replace hi:(s.AS.take c.rk)[i]?=some a:=hi;rw[mn]at hi;split at hi
    .rename_i a7;exact⟨(h.b i a hi).1,k3 i a a7 hi⟩
    .cases hi
   .replace hi:(s.AS.take c.rk)[i]?=some a:=hi;replace hj:(s.AS.take c.rk)[j]?=some b:=hj;rw[mn]at hi hj;split at hj
    .rw[fo oM]at hi;exact h.m i j a b a6 hi hj
    .cases hj
   .show n<=(s.AS.take c.rk).length;rw[b4];exact a8 n (by rwa [<-a9])
   .show(Bc s.stack).findIdx _+1<=(Bc s.stack).length;rw[a0,GR];have:(pre++[{c with i:=c.i+1}]).findIdx (λx:Ch=>decide (x.rk=c.rk))<(pre++[{c with i:=c.i+1}]).length:=List.findIdx_lt_length_of_exists ⟨{c with i:=c.i+1},by simp,by simp⟩;omega
def zr.start{q:IS}(hN:1<=q.N):zr q .next q.start:=
 ⟨Nat.one_pos,hN,λi a h=>(by simp[IS.start]at h),λi j a b _ h=>(by simp[IS.start]at h),List.Pairwise.nil,(λ_ h=>by cases h),im _,λx hx=>(by have e:x=ta:=eu.1 hx;subst e;exact⟨List.nodup_nil,im _⟩),(λ_ h=>by cases h),im _,im _,(λ_ h=>by cases h),(λ_ h=>by cases h)⟩
def ň:LU:=[100,101,118]
def Ŋ:LU:=[112,105,110,115]
def Ü:LU:=[112,114,111,106,101,99,116,10]
def Ep(m:vu):LU:=(((Ü++B1 ym m.sj)++B1 ň m.uo)++B1 yw m.ut)++B1 Ŋ m.ru
def Gj(m:vu):Bool:=Ax m.sj&&Ax m.uo&&Ax m.ut&&Ax m.ru
def Oo(m:vu):Bool:=BC m.sj m.uo&&BC m.sj m.ut&&BC m.uo m.ut
def AV(m:vu):Bool:=Gj m&&(Oo m&&decide ((Ep m).length<=4096))
def C5:Ι->Bool
 | []=>true
 | [_]=>true
 |x::y::r=>!decide (A7 y.Y x.Y<0)&&C5 (y::r)
def Du(d:uf):Bool:=Ad d.Y&&AP d.range&& !d.range.isEmpty
def wk(l:Ι):Bool:=decide (l.length<=16)&&C5 l&&l.all Du
def BK(a b c:Ι):Bool:=Ax a&&Ax b&&Ax c&&decide ((a++b++c).map (·.Y)).Nodup
def Ur:∀{l:Ι} {p:Option PU},Be p l=true->C5 l=true/\l.all Du=true
 | [],_,_=>⟨rfl,rfl⟩
 | [x],p,h=>by rw[Be]at h;simp only[ep]at h;exact⟨rfl,by simp[Du,h.1.1.1.1,h.1.1.1.2,h.1.1.2]⟩
 |x::y::r,p,h=>by
  rw[Be]at h;simp only[ep]at h;obtain⟨h1,h2⟩:=Ur h.2;rw[Be]at h;simp only[ep,FV]at h;refine⟨?_,?_⟩
  .rw[C5,h1];have h3:Ak x.Y y.Y=true:=h.2.1.2;have h4: ¬A7 y.Y x.Y<0:=λhc=>by rw[F4,Nt h3]at hc;cases hc
   simp[h4]
  .rw[oe,h2];simp[Du,h.1.1.1.1,h.1.1.1.2,h.1.1.2]
def Qh{l:Ι}(h:Ax l=true):wk l=true:=by unfold Ax at h;simp only[ep]at h;obtain⟨h1,h2⟩:=Ur h.1;unfold wk;rw[h1,h2,h.2];rfl
def Yg:∀{l:Ι} {p:Option PU},C5 l=true->l.all Du=true->(l.map (·.Y)).Nodup->(∀x,l.head? =some x->FV p x.Y=true)->Be p l=true
 | [],_,_,_,_,_=>rfl
 | [x],p,_,h2,_,h4=>by rw[Be,Be,h4 x rfl];simp[Du]at h2;simp[h2]
 |x::y::r,p,h1,h2,h3,h4=>by
  rw[C5]at h1;rw[oe]at h2;rw[ep]at h1 h2;rw[gu,nu]at h3;rw[Be,h4 x rfl,Yg h1.2 h2.2 h3.2 λz hz=>?_]
  .have:=h2.1;unfold Du at this;rw[this];rfl
  .simp only[List.head?_cons,ff]at hz;subst hz;show Ak x.Y y.Y=true;have h5: ¬A7 y.Y x.Y<0:=by simpa using h1.1
   have hO:=DN (α:=PU) id;have:=hO.flip y.Y x.Y;have:=hO.flip x.Y y.Y;simp only[id]at*;refine JF oM λe=>h3.1 ?_;rw[e];simp
def SH{l:Ι}(h:wk l=true)(hn:(l.map (·.Y)).Nodup):Ax l=true:=by unfold wk at h;simp only[ep]at h;unfold Ax;rw[Yg h.1.2 h.2 hn λ_ _=>rfl,h.1.1];rfl
def Zn5{a b c:Ι}(ha:wk a=true)(hb:wk b=true)(hc:wk c=true):BK a b c=decide ((a++b++c).map (·.Y)).Nodup:=by
 unfold BK;cases h:decide ((a++b++c).map (·.Y)).Nodup
 .rw[Bool.and_false]
 .have hn:=mh h;rw[gd,gd,ja,ja]at hn;rw[SH ha hn.1.1,SH hb hn.1.2.1,SH hc hn.2.1];rfl
def QV{a b c:Ι}(h:wk a=false\/wk b=false\/wk c=false):BK a b c=false:=by
 cases hm:BK a b c
 .rfl
 .unfold BK at hm;simp only[ep]at hm;obtain h|h|h:=h
  .rw[Qh hm.1.1.1]at h;cases h
  .rw[Qh hm.1.1.2]at h;cases h
  .rw[Qh hm.1.2]at h;cases h
def QU(a b c:Ι):BK a b c=(Ax a&&Ax b&&Ax c&&(BC a b&&BC a c&&BC b c)):=by
 unfold BK;cases h:(Ax a&&Ax b&&Ax c)
 .simp
 .simp only[ep]at h;rw[iu,iu,ij,fp,ep,ep,Ee,Ee,Ee];have h1:=um h.1.1;have h2:=um h.1.2;have h3:=um h.2;rw[gd,gd,ja,ja];constructor
  .rintro⟨⟨_,_,h4⟩,_,h5⟩;exact⟨⟨h4,λx hx y hy=>h5 x (ib _ hx) y hy⟩,λx hx y hy=>h5 x (jy _ hx) y hy⟩
  .rintro⟨⟨h4,h5⟩,h6⟩;exact⟨⟨h1,h2,h4⟩,h3,λx hx y hy=>(fj.1 hx).F (λhx=>h5 x hx y hy) λhx=>h6 x hx y hy⟩
def VJ(l:Ι):BK l [] []=Ax l:=by
 rw[QU];have:BC l []=true:=by rw[Ee];intro x _ y hy;simp at hy
 have h2:BC ([]:Ι) []=true:=rfl;have h3:Ax []=true:=rfl;rw[this,h2,h3];simp
def Zgf(m:vu):AV m=((BK m.sj m.uo m.ut&&BK m.ru [] [])&&decide ((Ep m).length<=4096)):=by rw[VJ,QU];unfold AV Gj Oo;cases Ax m.sj<;>cases Ax m.uo<;>cases Ax m.ut<;>cases Ax m.ru<;>simp
def QT(h:AV m=true):Ax m.sj=true/\Ax m.uo=true/\Ax m.ut=true/\Ax m.ru=true/\Oo m=true:=by unfold AV Gj at h;simp only[ep]at h;exact⟨h.1.1.1.1,h.1.1.1.2,h.1.1.2,h.1.2,h.2.1⟩
def Zgi(h:AV m=true):m.sj.length+m.uo.length+m.ut.length<=48:=by obtain⟨h1,h2,h3,_⟩:=QT h;have:=(BE h1).1;have:=(BE h2).1;have:=(BE h3).1;omega
def vp{α:Type}(f:α->PU)(l:List α):Prop:=l.Pairwise λa b=>Ak (f a) (f b)=true
def Zj0{α:Type}{f:α->PU}{l:List α}{a x:α}(h:vp f (l++[a]))(hx:Ak (f a) (f x)=true):vp f (l++[a]++[x]):=by
 unfold vp at*;rw[ji];refine⟨h,by simp,λb hb c hc=>?_⟩;simp only[eu]at hc;subst hc;obtain hb|hb:=fj.1 hb
 .exact GP ((ji.1 h).2.2 b hb a sI) hx
 .simp only[eu]at hb;subst hb;exact hx
def vp.nodup{α:Type}{f:α->PU}{l:List α}(h:vp f l):(l.map f).Nodup:=by rw[ii,iv];exact h.imp λh=>EG h
def vp.inj{α:Type}{f:α->PU}{l:List α}(h:vp f l){a b:α}(ha:a∈l)(hb:b∈l)(he:f a=f b):a=b:=by
 obtain⟨i,hi,rfl⟩:=gh.1 ha;obtain⟨j,hj,rfl⟩:=gh.1 hb;have hp:=gn.1 h;obtain a0|rfl|a0:=qk i j
 .exact fu he (EG (hp i j hi hj a0))
 .rfl
 .exact fu he.H (EG (hp j i hj hi a0))
def Ar(g:Ζ)(k:Nat):LQ:=match g[k]? with
 |some x=>x.sd
 |none=>[]
def CU(n:Nat)(rv:Α)(e:Edge):Α:=if 0<=e.to/\e.to<(n:Int)/\e.to.toNat∉rv then rv++[e.to.toNat]else rv
def JJ(g:Ζ):Nat->Nat->Α->Α
 |0,_,rv=>rv
 |f+1,i,rv=>match rv[i]? with
  |none=>rv
  |some k=>JJ g f (i+1) ((Ar g k).foldl (CU g.length) rv)
def DL(g:Ζ):Α:=if g=[]then []else JJ g (g.length+1) 0 [0]
def Ft(g:Ζ)(k j:Nat):Prop:=∃e∈Ar g k,e.to=(j:Int)
structure ğ(g:Ζ)(i:Nat)(rv:Α):Prop where
 nodup:rv.Nodup
 lt:∀k∈rv,k<g.length
 root:rv[0]?=some 0
 from_:∀k∈rv,k=0\/∃p∈rv,Ft g p k
 done:∀(a k:Nat),a<i->rv[a]?=some k->∀j,j<g.length->Ft g k j->j∈rv
def Q6{g:Ζ}{p:Nat}:∀(es:LQ)(rv:Α),(∀e∈es,e∈Ar g p)->p∈rv->rv.Nodup->(∀k∈rv,k<g.length)->(∀k∈rv,k=0\/∃p∈rv,Ft g p k)->
  (es.foldl (CU g.length) rv).Nodup/\(∀k∈es.foldl (CU g.length) rv,k<g.length)/\(∀k∈es.foldl (CU g.length) rv,k=0\/∃p∈es.foldl (CU g.length) rv,Ft g p k)/\(∃t,es.foldl (CU g.length) rv=rv++t)/\∀e∈es,∀j:Nat,j<g.length->e.to=(j:Int)->j∈es.foldl (CU g.length) rv
 | [],rv,_,_,h1,h2,h3=>⟨h1,h2,h3,⟨[],by simp⟩,λe h=>by cases h⟩
 |e::es,rv,hes,hp,h1,h2,h3=>by
  rw[List.foldl_cons];have he:=hes e (.head _);have key:(CU g.length rv e).Nodup/\(∀k∈CU g.length rv e,k<g.length)/\(∀k∈CU g.length rv e,k=0\/∃p∈CU g.length rv e,Ft g p k)/\(∃t,CU g.length rv e=rv++t)/\∀j:Nat,j<g.length->e.to=(j:Int)->j∈CU g.length rv e:=by
   unfold CU;split
   .rename_i h;obtain⟨q1,q2,q3⟩:=h;refine⟨?_,λk hk=>?_,λk hk=>?_,⟨_,rfl⟩,λj hj a0=>?_⟩
    .rw[ja];refine⟨h1,by simp,λa ha b hb=>?_⟩;simp only[eu]at hb;subst hb;rintro rfl;exact q3 ha
    .obtain hk|hk:=fj.1 hk
     .exact h2 k hk
     .simp only[eu]at hk;subst hk;omega
    .obtain hk|hk:=fj.1 hk
     .rcases h3 k hk with h|⟨p',a6,hl⟩
      .exact .inl h
      .exact .inr ⟨p',ib _ a6,hl⟩
     .simp only[eu]at hk;subst hk;exact .inr ⟨p,ib _ hp,e,he,oM⟩
    .rw[a0];simp
   .rename_i h;refine⟨h1,h2,h3,⟨[],by simp⟩,λj hj a0=>?_⟩;apply jg;intro a5;exact h ⟨oM,oM,by rw[a0];simpa using a5⟩
  obtain⟨k1,k2,k3,⟨t,k4⟩,k5⟩:=key;obtain⟨r1,r2,r3,⟨t',r4⟩,r5⟩:=Q6 es (CU g.length rv e) (λe' h=>hes e' (.tail _ h)) (by rw[k4];exact ib _ hp) k1 k2 k3;refine⟨r1,r2,r3,⟨t++t',by rw[r4,k4,fh]⟩,λe' a4 j hj a0=>?_⟩;obtain rfl|a4:=gj.1 a4
  .rw[r4];exact ib _ (k5 j hj a0)
  .exact r5 e' a4 j hj a0
def ğ.next{g:Ζ}{k:Nat}{rv:Α}(h:ğ g i rv)(hk:rv[i]?=some k):ğ g (i+1) ((Ar g k).foldl (CU g.length) rv):=by
 obtain⟨r1,r2,r3,⟨t,r4⟩,r5⟩:=Q6 (g:=g) (p:=k) (Ar g k) rv (λ_ h=>h) (fx hk) h.nodup h.lt h.from_;have a5:=(ec.1 hk).1;refine⟨r1,r2,?_,r3,λa k' ha a0 j hj hl=>?_⟩
 .rw[r4,fy (by have:=(ec.1 h.root).1;omega)];exact h.root
 .rw[r4,fy oM]at a0;obtain ha|rfl:=iy.1 ha
  .rw[r4];exact ib _ (h.done a k' ha a0 j hj hl)
  .rw[hk]at a0;cases a0;obtain⟨e,he,a4⟩:=hl;exact r5 e he j hj a4
def ğ.len{g:Ζ}{rv:Α}(h:ğ g i rv):rv.length<=g.length:=by have:=EU (m:=List.range g.length) h.nodup λk hk=>ly.2 (h.lt k hk);simpa using this
def TC{g:Ζ}:∀(f i:Nat)(rv:Α),ğ g i rv->i<=rv.length->g.length<f+i->∃n,(JJ g f i rv).length<=n/\ğ g n (JJ g f i rv)
 |0,i,rv,h,hi,hf=>by have:=h.len;omega
 |f+1,i,rv,h,hi,hf=>by
  unfold JJ;cases hk:rv[i]? with
  |none=>exact⟨i,nc.1 hk,h⟩
  |some k=>obtain⟨_,_,_,⟨t,r4⟩,_⟩:=Q6 (g:=g) (p:=k) (Ar g k) rv (λ_ h=>h) (fx hk) h.nodup h.lt h.from_;have a0:=(ec.1 hk).1;exact TC f (i+1) _ (h.next hk) (by rw[r4,dx];omega) oM
def ğ.start{g:Ζ}(hg:g≠[]):ğ g 0 [0]:=by have:0<g.length:=nv.2 hg;exact⟨by simp,λk hk=>by simp at hk;omega,rfl,λk hk=>.inl (by simpa using hk),λa k ha=>by omega⟩
def TD{g:Ζ}(hg:g≠[]):(DL g).Nodup/\(∀k∈DL g,k<g.length)/\0∈DL g/\(∀k∈DL g,k=0\/∃p∈DL g,Ft g p k)/\∀k∈DL g,∀j,j<g.length->Ft g k j->j∈DL g:=by unfold DL;rw[fb hg];obtain⟨n,hn,h⟩:=TC (g.length+1) 0 [0] (ğ.start hg) sI oM;refine⟨h.nodup,h.lt,fx h.root,h.from_,λk hk j hj hl=>?_⟩;obtain⟨a,ha,he⟩:=gh.1 hk;exact h.done a k oM (by rw[dw ha,he]) j hj hl
def Zc{g:Ζ}(hg:g≠[])(a0:∀j,j<g.length->j∈DL g):(DL g).length=g.length:=by obtain⟨h1,h2,_⟩:=TD hg;have a:=EU (m:=List.range g.length) h1 λk hk=>ly.2 (h2 k hk);have b:=EU (l:=List.range g.length) (m:=DL g) List.nodup_range λk hk=>a0 k (ly.1 hk);simp only[List.length_range]at a b;omega
def Vp(g:Ζ)(k:CW):Γ:=g.findIdx? λy=>decide (y.key=k)
structure Xcc(g:Ζ)(i:Nat)(x:BY):Prop where
 uk:yy x.uk
 find:i≠0->Vp g x.key=some i
 ĸ:vp Edge.Y x.sd
 to:∀e∈x.sd,∃(j:Nat) (y:BY),e.to=(j:Int)/\1<=j/\g[j]?=some y/\y.Y=e.Y
structure Xca(g:Ζ):Prop where
 len:1<=g.length/\g.length<=128
 root:∃x,g[0]?=some x/\x.key=ta.key
 tn:∀i x,g[i]?=some x->Xcc g i x
 reach:(DL g).length=g.length
def Cr(g:Ζ)(x:BY)(n:PU):Option BY:=(x.sd.find? λe=>decide (e.Y=n)).bind λe=>g[e.to.toNat]?
def Iv(g:Ζ)(x:BY):Η:=x.sd.filterMap λe=>(g[e.to.toNat]?).map λy=>⟨e.Y,y.v⟩
def Hd:Η->Η->Option (Η)
 |rv,[]=>some rv
 |rv,x::r=>match rv.find? (As x.Y)with
  |none=>Hd (rv++[x]) r
  |some y=>if y=x then Hd rv r else none
def NI(g:Ζ)(x:BY):Option (Η):=(Hd x.uk (Iv g x)).map AD
structure Ţ(L:Κ)(ru:Ι)(g:Ζ)(ws:Ο)(x:BY):Prop where
 ux:∀w∈ws,(Cr g x w.Y=none->w.ss≠1)/\∀y,Cr g x w.Y=some y->B2 w.range y.v=true
 uk:∀p∈x.uk,∃y,Cr g x p.Y=some y/\y.v=p.v
 env:∃env,NI g x=some env/\∀e∈x.sd,(e.Y∈ws.map uu.Y\/e.Y∈x.uk.map sy.Y)/\∃y,g[e.to.toNat]?=some y/\Cf L ru env ⟨y.Y,y.v⟩=some y.uk
structure Sol(q:IS)(g:Ζ):Prop where
 formed:Xca g
 there:∀i x,g[i]?=some x->i≠0->(AJ q.L x.Y x.v).isSome=true
 tn:∀i x,g[i]?=some x->Ţ q.L q.m.ru g (q.sx g i) x
def Qs:∀(r rv:Η),(∀x∈r,∀y∈rv,y.Y=x.Y->y=x)->(r.map (·.Y)).Nodup->∃t,Hd rv r=some (rv++t)/\(∀x∈t,x∈r)/\(∀x∈r,x∈rv++t)/\((rv.map (·.Y)).Nodup->((rv++t).map (·.Y)).Nodup)
 | [],rv,_,_=>⟨[],by simp[Hd],(λx h=>by cases h),(λx h=>by cases h),by simp⟩
 |x::r,rv,h,hn=>by
  simp only[gu,nu]at hn;unfold Hd;cases hf:rv.find? (As x.Y)with
  |none=>
   have a6:∀y∈rv,y.Y≠x.Y:=λy hy=>(by simpa[As]using kq.1 hf y hy);obtain⟨t,h1,h2,h3,h4⟩:=Qs r (rv++[x]) (λx' a0 y hy he=>by
    obtain hy|hy:=fj.1 hy
    .exact h x' (.tail _ a0) y hy he
    .simp only[eu]at hy;subst hy;exact fu (ix (f:=(·.Y)) a0) (by rw[<-he];exact hn.1)) hn.2
   refine⟨x::t,by dsimp only;rw[h1];simp,λy hy=>?_,λy hy=>?_,λa5=>?_⟩
   .obtain rfl|hy:=gj.1 hy
    .exact .head _
    .exact .tail _ (h2 y hy)
   .obtain rfl|hy:=gj.1 hy
    .simp
    .have:=h3 y hy;simpa using this
   .have:=h4 (by rw[gd,ja];refine⟨a5,by simp,λa ha b hb=>?_⟩;obtain⟨y,hy,rfl⟩:=gv.1 ha;simp at hb;subst hb;exact a6 y hy);simpa using this
  |some y=>
   have h1:=ob hf;simp only[As,fp]at h1;have hy:=kj hf;have a4:=h x (.head _) y hy h1;dsimp only;rw[fo a4];obtain⟨t,q1,q2,q3,q4⟩:=Qs r rv (λx' a0=>h x' (.tail _ a0)) hn.2;refine⟨t,q1,λz hz=>.tail _ (q2 z hz),λz hz=>?_,q4⟩;obtain rfl|hz:=gj.1 hz
   .rw[<-a4];exact ib _ hy
   .exact q3 z hz
def Kc{g:Ζ}{x y:BY}{n:PU}(h:Cr g x n=some y):∃e∈x.sd,e.Y=n/\g[e.to.toNat]?=some y:=by unfold Cr at h;obtain⟨e,h1,h2⟩:=Option.bind_eq_some_iff.1 h;exact⟨e,kj h1,by simpa using ob h1,h2⟩
def Za6{g:Ζ}{x y:BY}(hr:vp Edge.Y x.sd){e:Edge}(he:e∈x.sd)(hy:g[e.to.toNat]?=some y):Cr g x e.Y=some y:=by
 unfold Cr;cases hf:x.sd.find? λe'=>decide (e'.Y=e.Y)with
 |none=>simpa using kq.1 hf e he
 |some e'=>have h1:=ob hf;simp only[fp]at h1;have:=hr.inj (kj hf) he h1;subst this;exact hy
abbrev Ap:=List PU
structure Dr where
 Of:Ap
 rk:Nat
abbrev Ν:=List Dr
structure Ż where
 tz:Nat
 label:PU
 dst:Nat
 deriving DecidableEq
structure vq where
 By:Ν
 done:List Ż
def Az(ds:Ν)(p:Ap):Γ:=ds.findIdx? λd=>decide (d.Of=p)
def AG(ds:Ν)(p:Ap)(x:PU):Nat->Γ
 |0=>Az ds (p.take 0++[x])
 |k+1=>match Az ds (p.take (k+1)++[x])with
  |some i=>some i
  |none=>AG ds p x k
def Ae(ds:Ν)(i:Nat):Ap:=match ds[i]? with
 |some d=>d.Of
 |none=>[]
structure zf(s:vq)(p:Ap)(x:PU)(n:Nat):Prop where
 le:n<=p.length
 clear:∀k,n<=k->k<=p.length->Az s.By (p.take k++[x])=none
 ry:∀t∈s.done,t.label=x->p.take n<+:Ae s.By t.tz->n<(Ae s.By t.dst).length
structure ċ(s:vq)(p:Ap)(x:PU)(ww:Nat->Bool)(n:Nat):Prop where
 spot:zf s p x n
 Xc7:∀m,zf s p x m->ww m=true->ww n=true
 Xce:∀m,zf s p x m->ww m=ww n->n<=m
def ċ.one{s:vq}{p:Ap}{x:PU}{ww:Nat->Bool}{m:Nat}(h:ċ s p x ww n)(k:ċ s p x ww m):n=m:=by
 have he:ww m=ww n:=by
  cases h1:ww m with
  |true=>exact(h.Xc7 m k.spot h1).H
  |false=>
   cases h2:ww n with
   |false=>rfl
   |true=>have:=k.Xc7 n h.spot h2;rw[h1]at this;cases this
 exact Nat.le_antisymm (h.Xce m k.spot he) (k.Xce n h.spot he.H)
structure Ľ where
 g:Ζ
 ww:Ap->Nat->Bool
 ĺ:Ap->Nat
 Ķ:Int
 ĝ:Int
def BS(g:Ζ)(i:Nat):Η:=match g[i]? with
 |some x=>x.uk
 |none=>[]
def A9(g:Ζ)(at_:Nat)(e:Edge):Nat:=if(BS g at_).any (As e.Y)then 1 else if(BS g e.to.toNat).length=0 then 2 else 3
def tq(ds:Ν)(i:Nat):Nat:=match ds[i]? with
 |some d=>d.rk
 |none=>0
def Ff(s:vq)(tz:Nat)(x:PU):Γ:=(s.done.find? λt=>decide (t.tz=tz/\t.label=x)).map Ż.dst
def GI(I:Ľ)(s:vq)(tz to:Nat):Prop:=∀q∈BS I.g (tq s.By to),∃d,Ff s tz q.Y=some d/\AG s.By (Ae s.By to) q.Y (Ae s.By to).length=some d
def yj(I:Ľ)(s:vq)(tz:Nat)(e:Edge)(ss to:Nat):Prop:=AG s.By (Ae s.By tz) e.Y (Ae s.By tz).length=some to/\(tq s.By to:Int)=e.to/\(ss=3->GI I s tz to)
inductive vh (I:Ľ) (s:vq) (tz:Nat) (e:Edge) (ss:Nat):Int->vq->Prop
 |found (to:Nat):yj I s tz e ss to->vh I s tz e ss 0 ⟨s.By,s.done++[⟨tz,e.Y,to⟩]⟩
 |lost:(∀to,¬yj I s tz e ss to)->ss=1->vh I s tz e ss 33 s
 |put (n:Nat):(∀to,¬yj I s tz e ss to)->ss≠1->(ss=2->ċ s (Ae s.By tz) e.Y (λn=>I.ww ((Ae s.By tz).take n++[e.Y]) e.to.toNat) n)->(ss=3->n=(Ae s.By tz).length)->
   (I.ĺ ((Ae s.By tz).take n++[e.Y]):Int)<=I.Ķ->(s.By.length:Int)<=I.ĝ->
   vh I s tz e ss 0 ⟨s.By++[⟨(Ae s.By tz).take n++[e.Y],e.to.toNat⟩],s.done++[⟨tz,e.Y,s.By.length⟩]⟩
 |long (n:Nat):(∀to,¬yj I s tz e ss to)->ss≠1->(ss=2->ċ s (Ae s.By tz) e.Y (λn=>I.ww ((Ae s.By tz).take n++[e.Y]) e.to.toNat) n)->(ss=3->n=(Ae s.By tz).length)->
   I.Ķ<(I.ĺ ((Ae s.By tz).take n++[e.Y]):Int)->vh I s tz e ss 40 s
 |deep (n:Nat):(∀to,¬yj I s tz e ss to)->ss≠1->(ss=2->ċ s (Ae s.By tz) e.Y (λn=>I.ww ((Ae s.By tz).take n++[e.Y]) e.to.toNat) n)->(ss=3->n=(Ae s.By tz).length)->
   (I.ĺ ((Ae s.By tz).take n++[e.Y]):Int)<=I.Ķ->I.ĝ<(s.By.length:Int)->vh I s tz e ss 41 s
def yj.one{I:Ľ}{s:vq}{tz b:Nat}{e:Edge}(h:yj I s tz e ss a)(k:yj I s tz e ss b):a=b:=by have:=h.1.H.Z k.1;exact jz this
def LM{s:vq}{p:Ap}{x:PU}{ww:Nat->Bool}{m:Nat}(h1:ss≠1)(hk:ss=1\/ss=2\/ss=3)(a:ss=2->ċ s p x ww n)(b:ss=3->n=p.length)(a':ss=2->ċ s p x ww m)(b':ss=3->m=p.length):n=m:=by
 obtain h|h|h:=hk
 .exact fu h h1
 .exact(a h).one (a' h)
 .rw[b h,b' h]
def vh.one{I:Ľ}{s:vq}{tz:Nat}{e:Edge}{c:Int}{t u:vq}(hk:ss=1\/ss=2\/ss=3)(h:vh I s tz e ss c t)(k:vh I s tz e ss d u):c=d/\t=u:=by
 cases h with
 |found to h=>
  cases k with
  |found a5 h'=>rw[h.one h'];exact⟨rfl,rfl⟩
  |lost h' _=>exact fu h (h' to)
  |put _ h'=>exact fu h (h' to)
  |long _ h'=>exact fu h (h' to)
  |deep _ h'=>exact fu h (h' to)
 |lost h h1=>
  cases k with
  |found to h'=>exact fu h' (h to)
  |lost=>exact⟨rfl,rfl⟩
  |put _ _ h'=>exact fu h1 h'
  |long _ _ h'=>exact fu h1 h'
  |deep _ _ h'=>exact fu h1 h'
 |put n h h1 a b hP hD=>
  cases k with
  |found to h'=>exact fu h' (h to)
  |lost _ h'=>exact fu h' h1
  |put m _ _ a' b'=>have:=LM h1 hk a b a' b';subst this;exact⟨rfl,rfl⟩
  |long m _ _ a' b' a0=>have:=LM h1 hk a b a' b';subst this;omega
  |deep m _ _ a' b' _ a4=>omega
 |long n h h1 a b hP=>
  cases k with
  |found to h'=>exact fu h' (h to)
  |lost _ h'=>exact fu h' h1
  |put m _ _ a' b' a0=>have:=LM h1 hk a b a' b';subst this;omega
  |long=>exact⟨rfl,rfl⟩
  |deep m _ _ a' b' a0=>have:=LM h1 hk a b a' b';subst this;omega
 |deep n h h1 a b hP hD=>
  cases k with
  |found to h'=>exact fu h' (h to)
  |lost _ h'=>exact fu h' h1
  |put m _ _ a' b' a0 a4=>omega
  |long m _ _ a' b' a0=>have:=LM h1 hk a b a' b';subst this;omega
  |deep=>exact⟨rfl,rfl⟩
def CN{ds:Ν}{p:Ap}(h:Az ds p=some i):∃d,ds[i]?=some d/\d.Of=p:=by unfold Az at h;obtain⟨hl,h1,_⟩:=jw.1 h;exact⟨ds[i],dw hl,by simpa using h1⟩
def NP{ds:Ν}{p:Ap}:Az ds p=none↔∀d∈ds,d.Of≠p:=by unfold Az;rw[nf];simp
def Kv{ds t:Ν}{p:Ap}(h:Az ds p=some i):Az (ds++t) p=some i:=by unfold Az at*;rw[List.findIdx?_append,h];rfl
def Kw{ds:Ν}{p:Ap}(h:∃d∈ds,d.Of=p):∃i,Az ds p=some i:=by
 cases hf:Az ds p with
 |some i=>exact⟨i,rfl⟩
 |none=>obtain⟨d,h1,h2⟩:=h;exact fu h2 (NP.1 hf d h1)
def Cb{ds:Ν}{d:Dr}(h:ds[i]?=some d):Ae ds i=d.Of:=by unfold Ae;rw[h]
def ET{ds:Ν}{d:Dr}(h:ds[i]?=some d):tq ds i=d.rk:=by unfold tq;rw[h]
def Wo{ds t:Ν}(h:i<ds.length):Ae (ds++t) i=Ae ds i:=by unfold Ae;rw[fy h]
def Hs{ds t:Ν}(h:i<ds.length):tq (ds++t) i=tq ds i:=by unfold tq;rw[fy h]
def Le{ds:Ν}{p:Ap}{x:PU}:∀{k i:Nat},AG ds p x k=some i->∃n,n<=k/\Az ds (p.take n++[x])=some i/\∀m,n<m->m<=k->Az ds (p.take m++[x])=none
 |0,i,h=>⟨0,ga _,h,λm h1 h2=>by omega⟩
 |k+1,i,h=>by
  unfold AG at h;cases hf:Az ds (p.take (k+1)++[x])with
  |some j=>rw[hf]at h;cases h;exact⟨k+1,ga _,hf,λm h1 h2=>by omega⟩
  |none=>
   rw[hf]at h;obtain⟨n,h1,h2,h3⟩:=Le h;refine⟨n,oM,h2,λm h4 h5=>?_⟩;by_cases hm:m=k+1
   .subst hm;exact hf
   .exact h3 m h4 oM
structure wz(g:Ζ)(s:vq)(a:Nat):Prop where
 root:s.By[0]?=some ⟨[],0⟩
 one:∀(i j:Nat)(d e:Dr),s.By[i]?=some d->s.By[j]?=some e->d.Of=e.Of->i=j
 up:∀(i:Nat)(d:Dr)(p:Ap)(x:PU),s.By[i]?=some d->d.Of=p++[x]->∃h,h<i/\Az s.By p=some h
 tz:∀t∈s.done,t.tz<=a/\t.tz<s.By.length/\t.dst<s.By.length
 Xcq:∀t∈s.done,∀u∈s.done,t.tz=u.tz->t.label=u.label->t=u
 fresh:∀(i:Nat)(d:Dr)(p:Ap)(x:PU),s.By[i]?=some d->d.Of=p++[x]->∀h,Az s.By p=some h->a<=h->h=a/\∃t∈s.done,t.tz=a/\t.label=x
 rk:∀d∈s.By,d.rk<g.length
def wz.find{g:Ζ}{s:vq}{d:Dr}(h:wz g s a)(hd:s.By[i]?=some d):Az s.By d.Of=some i:=by obtain⟨j,hj⟩:=Kw ⟨d,fx hd,rfl⟩;obtain⟨e,h1,h2⟩:=CN hj;rw[hj,h.one i j d e hd h1 h2.H]
def wz.Xaw{g:Ζ}{s:vq}(h:wz g s a):∀(n i:Nat)(d:Dr),s.By[i]?=some d->d.Of.length=n->∀k,k<=n->∃j,j<=i/\Az s.By (d.Of.take k)=some j:=λn=>by
 induction n with
 |zero=>intro i d hd hn k hk;have:k=d.Of.length:=oM;subst this;rw[fe];exact⟨i,ga _,h.find hd⟩
 |succ n ih=>
  intro i d hd hn k hk;by_cases a4:k=n+1
  .subst a4;rw[<-hn,fe];exact⟨i,ga _,h.find hd⟩
  .have a0:d.Of≠[]:=λe=>(by rw[e]at hn;simp at hn);have hp:d.Of=d.Of.dropLast++[d.Of.getLast a0]:=(List.dropLast_concat_getLast a0).H;obtain⟨j,h1,h2⟩:=h.up i d _ _ hd hp;obtain⟨e,h3,h4⟩:=CN h2;have h5:e.Of.length=n:=(by rw[h4,List.length_dropLast];omega);obtain⟨m,h6,h7⟩:=ih j e h3 h5 k oM;refine⟨m,oM,?_⟩;rw[h4]at h7;have:d.Of.take k=d.Of.dropLast.take k:=(by rw[List.dropLast_eq_take,List.take_take];congr 1;omega);rwa [this]
def wz.pre{g:Ζ}{s:vq}{j:Nat}{d e:Dr}(h:wz g s a)(hd:s.By[i]?=some d)(he:s.By[j]?=some e)(hp:e.Of<+:d.Of):j<=i:=by obtain⟨m,h1,h2⟩:=h.Xaw _ i d hd rfl e.Of.length hp.length_le;rw[<-List.prefix_iff_eq_take.1 hp,h.find he]at h2;cases h2;exact h1
def DJ(s:vq)(a:Nat)(x:PU):Prop:=∀t∈s.done,t.tz=a->t.label≠x
def wz.spot{g:Ζ}{s:vq}{d:Dr}{x:PU}(h:wz g s a)(hd:s.By[a]?=some d)(hx:DJ s a x):zf s d.Of x d.Of.length:=by
 refine⟨ga _,λk h1 h2=>?_,λt ht hl hp=>?_⟩
 .have hk:k=d.Of.length:=oM;subst hk;rw[fe];cases hf:Az s.By (d.Of++[x])with
  |none=>rfl
  |some i=>obtain⟨e,h3,h4⟩:=CN hf;obtain⟨_,t,h5,h6,h7⟩:=h.fresh i e d.Of x h3 h4 a (h.find hd) nR;exact fu h7 (hx t h5 h6)
 .obtain⟨h1,h2,_⟩:=h.tz t ht;rw[fe]at hp;have h3:s.By[t.tz]?=some s.By[t.tz]:=dw h2;rw[Cb h3]at hp;have:=h.pre h3 hd hp;exact fu hl (hx t ht oM)
def wz.found{g:Ζ}{s:vq}{to:Nat}{x:PU}(h:wz g s a)(ha:a<s.By.length)(hx:DJ s a x)(a4:to<s.By.length):wz g ⟨s.By,s.done++[⟨a,x,to⟩]⟩ a:=by
 refine⟨h.root,h.one,h.up,λt ht=>?_,λt ht u hu h1 h2=>?_,λi d p y hd hp j hj a0=>?_,h.rk⟩
 .obtain ht|ht:=fj.1 ht
  .exact h.tz t ht
  .rw[eu]at ht;subst ht;exact⟨ga _,ha,a4⟩
 .rcases fj.1 ht with ht|ht<;>obtain hu|hu:=fj.1 hu
  .exact h.Xcq t ht u hu h1 h2
  .rw[eu]at hu;subst hu;exact fu h2 (hx t ht h1)
  .rw[eu]at ht;subst ht;exact fu h2.H (hx u hu h1.H)
  .rw[eu]at ht hu;rw[ht,hu]
 .obtain⟨h1,t,h2,h3,h4⟩:=h.fresh i d p y hd hp j hj a0;exact⟨h1,t,ib _ h2,h3,h4⟩
def wz.put{g:Ζ}{s:vq}{k:Nat}{d:Dr}{x:PU}(h:wz g s a)(hd:s.By[a]?=some d)(hx:DJ s a x)(hs:zf s d.Of x n)(hk:k<g.length):
  wz g ⟨s.By++[⟨d.Of.take n++[x],k⟩],s.done++[⟨a,x,s.By.length⟩]⟩ a:=by
 have ha:=(ec.1 hd).1;have a5:∀e∈s.By,e.Of≠d.Of.take n++[x]:=NP.1 (hs.clear n nR hs.le);have at_:∀{i:Nat} {e:Dr},(s.By++[⟨d.Of.take n++[x],k⟩])[i]?=some e->(s.By[i]?=some e/\i<s.By.length)\/(i=s.By.length/\e=⟨d.Of.take n++[x],k⟩):=λ{i e} hi=>by
  obtain hl|hl:=pp i s.By.length
  .rw[fy hl]at hi;exact .inl ⟨hi,hl⟩
  .rw[ic hl]at hi;have:i - s.By.length=0:=by have:=(ec.1 hi).1;simp at this;omega
   rw[this]at hi;simp at hi;exact .inr ⟨oM,hi.H⟩
 obtain⟨m,a7,a4⟩:=h.Xaw _ a d hd rfl n hs.le;refine⟨(fy (oq (im a) ha)).Z h.root,λi j e f hi hj hp=>?_,λi e p y hi hp=>?_,λt ht=>?_,λt ht u hu h1 h2=>?_,λi e p y hi hp j hj a6=>?_,λe he=>?_⟩
 .rcases at_ hi with⟨hi,_⟩|⟨rfl,rfl⟩<;>rcases at_ hj with⟨hj,_⟩|⟨rfl,rfl⟩
  .exact h.one i j e f hi hj hp
  .exact fu hp (a5 e (fx hi))
  .exact fu hp.H (a5 f (fx hj))
  .rfl
 .rcases at_ hi with⟨hi,_⟩|⟨rfl,rfl⟩
  .obtain⟨j,h1,h2⟩:=h.up i e p y hi hp;exact⟨j,h1,Kv h2⟩
  .obtain⟨h1,_⟩:=List.append_inj' hp rfl;exact⟨m,oM,by rw[<-h1];exact Kv a4⟩
 .simp only[dx,il];obtain ht|ht:=fj.1 ht
  .obtain⟨h1,h2,h3⟩:=h.tz t ht;exact⟨h1,oM,oM⟩
  .rw[eu]at ht;subst ht;exact⟨ga _,Nat.lt_succ_of_lt ha,by simp⟩
 .rcases fj.1 ht with ht|ht<;>obtain hu|hu:=fj.1 hu
  .exact h.Xcq t ht u hu h1 h2
  .rw[eu]at hu;subst hu;exact fu h2 (hx t ht h1)
  .rw[eu]at ht;subst ht;exact fu h2.H (hx u hu h1.H)
  .rw[eu]at ht hu;rw[ht,hu]
 .rcases at_ hi with⟨hi,_⟩|⟨rfl,rfl⟩
  .obtain⟨j',h1,h2⟩:=h.up i e p y hi hp;have a0:=(Kv h2).H.Z hj;cases a0;obtain⟨h3,t,h4,h5,h6⟩:=h.fresh i e p y hi hp _ h2 a6;exact⟨h3,t,ib _ h4,h5,h6⟩
  .obtain⟨h1,h2⟩:=List.append_inj' hp rfl;rw[<-h1]at hj;have a0:=(Kv a4).H.Z hj;cases a0;refine⟨oM,_,jy _ (eu.2 rfl),rfl,?_⟩;simpa using h2
 .obtain he|he:=fj.1 he
  .exact h.rk e he
  .rw[eu]at he;subst he;exact hk
def wz.next{g:Ζ}{s:vq}(h:wz g s a):wz g s (a+1):=
 ⟨h.root,h.one,h.up,λt ht=>by obtain⟨h1,h2,h3⟩:=h.tz t ht;exact⟨oM,h2,h3⟩,h.Xcq,λi d p y hd hp j hj a0=>by have:=(h.fresh i d p y hd hp j hj oM).1;omega,h.rk⟩
def wz.start{g:Ζ}(hg:0<g.length):wz g ⟨[⟨[],0⟩],[]⟩ 0:=by
 refine⟨rfl,λi j d e hi hj _=>?_,λi d p x hi hp=>?_,(λt ht=>by cases ht),(λt ht=>by cases ht),λi d p x hi hp=>?_,λd hd=>?_⟩
 .have h1:=(ec.1 hi).1;have h2:=(ec.1 hj).1;simp at h1 h2;omega
 .have h1:=(ec.1 hi).1;simp at h1;subst h1;simp at hi;subst hi;simp at hp
 .have h1:=(ec.1 hi).1;simp at h1;subst h1;simp at hi;subst hi;simp at hp
 .rw[eu]at hd;subst hd;exact hg
def Cu(g:Ζ)(k:Nat):LQ:=
 let es:=Ar g k
 es.filter (λe=>A9 g k e==1)++(es.filter (λe=>A9 g k e==2)++es.filter λe=>A9 g k e==3)
def Eo(g:Ζ)(k:Nat)(e:Edge):A9 g k e=1\/A9 g k e=2\/A9 g k e=3:=by
 unfold A9;split
 .exact .inl rfl
 .split
  .exact .inr (.inl rfl)
  .exact .inr (.inr rfl)
inductive vj (I:Ľ) (a k:Nat):vq->LQ->Int->vq->Prop
 |nil (s:vq):vj I a k s [] 0 s
 |cons {s t u:vq} {e:Edge} {es:LQ} {c:Int}:vh I s a e (A9 I.g k e) 0 t->vj I a k t es c u->vj I a k s (e::es) c u
 |stop {s t:vq} {e:Edge} {es:LQ} {c:Int}:vh I s a e (A9 I.g k e) c t->c≠0->vj I a k s (e::es) c t
inductive vg (I:Ľ):Nat->vq->Int->vq->Prop
 |fin {a:Nat} {s:vq}:s.By.length<=a->vg I a s 0 s
 |next {a:Nat} {s t u:vq} {c:Int}:a<s.By.length->vj I a (tq s.By a) s (Cu I.g (tq s.By a)) 0 t->vg I (a+1) t c u->vg I a s c u
 |stop {a:Nat} {s t:vq} {c:Int}:a<s.By.length->vj I a (tq s.By a) s (Cu I.g (tq s.By a)) c t->c≠0->vg I a s c t
def vj.one{I:Ľ}{k:Nat}{s t u:vq}{es:LQ}{c:Int}(h:vj I a k s es c t):vj I a k s es d u->c=d/\t=u:=by
 induction h generalizing d u with
 |nil s=>intro h';cases h';exact⟨rfl,rfl⟩
 |cons h1 h2 ih=>
  intro h';cases h' with
  |cons k1 k2=>obtain⟨_,rfl⟩:=h1.one (Eo _ _ _) k1;exact ih k2
  |stop k1 k2=>exact fu (h1.one (Eo _ _ _) k1).1.H k2
 |stop h1 h2=>
  intro h';cases h' with
  |cons k1 k2=>exact fu (h1.one (Eo _ _ _) k1).1 h2
  |stop k1 k2=>exact h1.one (Eo _ _ _) k1
def vg.one{I:Ľ}{s t u:vq}{c:Int}(h:vg I a s c t):vg I a s d u->c=d/\t=u:=by
 induction h generalizing d u with
 |fin h1=>
  intro h';cases h' with
  |fin=>exact⟨rfl,rfl⟩
  |next k1=>omega
  |stop k1=>omega
 |next h1 h2 h3 ih=>
  intro h';cases h' with
  |fin k1=>omega
  |next k1 k2 k3=>obtain⟨_,rfl⟩:=h2.one k2;exact ih k3
  |stop k1 k2 k3=>exact fu (h2.one k2).1.H k3
 |stop h1 h2 h3=>
  intro h';cases h' with
  |fin k1=>omega
  |next k1 k2 k3=>exact fu (h2.one k2).1 h3
  |stop k1 k2 k3=>exact h2.one k2
structure Xcb(s t:vq)(a:Nat)(x:PU):Prop where
 By:∃l,t.By=s.By++l
 new:∀y,y≠x->DJ s a y->DJ t a y
def VR{ds:Ν}{s:vq}{k:Nat}{x y:PU}(hy:y≠x)(h:DJ s a y):DJ ⟨ds,s.done++[⟨a,x,k⟩]⟩ a y:=λt ht hs=>by
 obtain ht|ht:=fj.1 ht
 .exact h t ht hs
 .rw[eu]at ht;subst ht;exact λe=>hy e.H
def Ld{ds:Ν}{p:Ap}{x:PU}{k:Nat}(h:AG ds p x k=some i):i<ds.length:=by obtain⟨n,_,h2,_⟩:=Le h;obtain⟨d,h3,_⟩:=CN h2;exact(ec.1 h3).1
def vh.inv{I:Ľ}{s t:vq}{e:Edge}{c:Int}(hk:ss=1\/ss=2\/ss=3)(h:vh I s a e ss c t)(hI:wz I.g s a)(ha:a<s.By.length)(hx:DJ s a e.Y)(a0:0<=e.to/\e.to<I.g.length):
  wz I.g t a/\Xcb s t a e.Y:=by
 have hd:s.By[a]?=some s.By[a]:=dw ha;cases h with
 |found to hr=>exact⟨hI.found ha hx (Ld hr.1),⟨[],by simp⟩,λy hy h=>VR hy h⟩
 |lost=>exact⟨hI,⟨[],by simp⟩,λy _ h=>h⟩
 |put n h1 h2 h3 h4=>
  have hs:zf s (Ae s.By a) e.Y n:=by
   obtain hk|hk|hk:=hk
   .exact fu hk h2
   .exact(h3 hk).spot
   .rw[h4 hk,Cb hd];exact hI.spot hd hx
  rw[Cb hd]at hs ⊢;exact⟨hI.put hd hx hs oM,⟨_,rfl⟩,λy hy h=>VR hy h⟩
 |long=>exact⟨hI,⟨[],by simp⟩,λy _ h=>h⟩
 |deep=>exact⟨hI,⟨[],by simp⟩,λy _ h=>h⟩
def Et(x:BY):sy:=⟨x.Y,x.v⟩
def GU(a b:sy):Int:=AM (A7 a.Y b.Y) (a.v.cmp b.v)
def Ø:vv GU:=(DN sy.Y).or (sq.Ç.Ę sy.v)
def TM{a b:sy}:GU a b=0↔a=b:=by
 obtain⟨n,v⟩:=a;obtain⟨m,u⟩:=b;show AM (A7 n m) (v.cmp u)=0↔_;unfold AM;by_cases h:A7 n m=0
 .rw[fo h,sq.cmp_eq];have:=EJ.1 h;subst this;exact⟨λh=>by rw[h],λh=>(sy.mk.inj h).2⟩
 .rw[fb h];exact⟨λh'=>fu h' h,λh'=>fu (EJ.2 (sy.mk.inj h').1) h⟩
def xp{α:Type}(c:α->α->Int)(l:List α):Prop:=l.Pairwise λa b=>c a b<0
def xp.nodup{α:Type}{c:α->α->Int}(hc:vv c){l:List α}(h:xp c l):l.Nodup:=by rw[ii];refine h.imp λ{a b} h e=>?_;subst e;have:=(hc.flip a a).1 h;omega
def xp.one{α:Type}{c:α->α->Int}(hc:vv c){l m:List α}(h1:xp c l)(h2:xp c m)(hm:∀x,x∈l↔x∈m):l=m:=
 Jn (λx y h k=>by have:=(hc.flip x y).1 h;omega) h1 h2 ((List.perm_ext_iff_of_nodup (h1.nodup hc) (h2.nodup hc)).2 hm)
def xp.of{α:Type}{c:α->α->Int}(hc:vv c)(h0:∀{a b},c a b=0->a=b){l:List α}(hn:l.Nodup)(hs:l.Pairwise λx y=>¬c y x<0):xp c l:=by rw[ii]at hn;refine(hn.and hs).imp λ{a b} ⟨h1,h2⟩=>?_;have h3:c a b≠0:=λh=>h1 (h0 h);have h4:=hc.flip b a;omega
def uz(g:Ζ)(l:Η):Prop:=xp GU l/\∀y,y∈l↔y∈(g.drop 1).map Et
def uz.one{g:Ζ}{m:Η}(h:uz g l)(k:uz g m):l=m:=h.1.one Ø k.1 λx=>(h.2 x).Z (k.2 x).H
def Ð:LU:=[47,109,111,100,117,108,101,115,47]
def Cc(p:Ap):LU:=p.flatMap λx=>Ð++x.toList
def Bd(p:Ap):Bool:=p.all Ad
def A0(p:Ap):LU:=if p=[]then [47]else if Bd p then Cc p else []
def Zg1{b:UInt8}(h:BT b=true):b≠47:=by rintro rfl;revert h;decide
def Zg3:∀{l:LU},CR l=true->(47:UInt8)∉l
 | [],_=>by simp
 |a::l,h=>by
  intro hm;simp only[CR,ep,jh]at h;obtain rfl|hm:=gj.1 hm
  .have:=h.1;revert this;decide
  .exact Zg1 (h.2 _ hm) rfl
def VN{x:PU}(h:Ad x=true):(47:UInt8)∉x.toList:=by unfold Ad at h;simp only[ep]at h;exact Zg3 h.1
def Rl:∀{p:Ap},p≠[]->∃r,Cc p=47::r
 | [],h=>fu rfl h
 |x::p,_=>⟨_,rfl⟩
def X0{a r:LU}(ha:(47:UInt8)∉a)(hr:r=[]\/∃t,r=47::t):(a++r).takeWhile (λb=>b != 47)=a:=by
 rw[qx (λb hb=>by simp;rintro rfl;exact ha hb)];rcases hr with rfl|⟨t,rfl⟩
 .simp
 .simp
def Wr:∀{p q:Ap},Bd p=true->Bd q=true->Cc p=Cc q->p=q
 | [],[],_,_,_=>rfl
 | [],y::q,_,_,h=>by obtain⟨r,hr⟩:=Rl (p:=y::q) sI;rw[hr]at h;cases h
 |x::p,[],_,_,h=>by obtain⟨r,hr⟩:=Rl (p:=x::p) sI;rw[hr]at h;cases h
 |x::p,y::q,hp,hq,h=>by
  unfold Bd at hp hq;rw[oe,ep]at hp hq;have h':Ð++(x.toList++Cc p)=Ð++(y.toList++Cc q):=by simpa only[Cc,List.flatMap_cons,fh]using h
  have h1:=List.append_cancel_left h';have en:∀l:Ap,Cc l=[]\/∃t,Cc l=47::t:=λl=>by
   by_cases hl:l=[]
   .subst hl;exact .inl rfl
   .exact .inr (Rl hl)
  have h2:=kd (List.takeWhile λb=>b != 47) h1;rw[X0 (VN hp.1) (en p),X0 (VN hq.1) (en q)]at h2;rw[h2]at h1;have h3:=Wr (p:=p) (q:=q) hp.2 hq.2 (List.append_cancel_left h1);rw[toList_data,toList_data]at h2;rw[GQ h2,h3]
def Rn{p:Ap}(h:p≠[]):9<=(Cc p).length:=by
 cases p with
 |nil=>exact fu rfl h
 |cons x p=>simp[Cc,Ð]
def Zh7{p q:Ap}(hp:Bd p=true)(hq:Bd q=true)(h:A0 p=A0 q):p=q:=by
 unfold A0 at h;by_cases h1:p=[]<;>by_cases h2:q=[]
 .rw[h1,h2]
 .rw[fo h1,fb h2,fo hq]at h;have:=Rn h2;rw[<-h]at this;simp at this
 .rw[fb h1,fo h2,fo hp]at h;have:=Rn h1;rw[h]at this;simp at this
 .rw[fb h1,fb h2,fo hp,fo hq]at h;exact Wr hp hq h
def HH(d:Dr):PU:=B (A0 d.Of)
def GS(a b:Dr):Int:=A7 (HH a) (HH b)
def à:vv GS:=DN HH
def Zms{a b:Dr}(ha:Bd a.Of=true)(hb:Bd b.Of=true)(h:HH a=HH b):a.Of=b.Of:=by unfold HH at h;have:=kd ByteArray.toList h;rw[E9,E9]at this;exact Zh7 ha hb this
def ze(ds rv:Ν):Prop:=rv.Perm ds/\rv.Pairwise λa b=>¬GS b a<0
structure ì(ds:Ν):Prop where
 yn:∀d∈ds,Bd d.Of=true
 one:∀(i j:Nat)(d e:Dr),ds[i]?=some d->ds[j]?=some e->d.Of=e.Of->i=j
def ì.eq{ds:Ν}(h:ì ds){a b:Dr}(ha:a∈ds)(hb:b∈ds)(he:GS a b=0):a=b:=by have hp:=Zms (h.yn a ha) (h.yn b hb) (EJ.1 he);obtain⟨i,hi⟩:=iw ha;obtain⟨j,hj⟩:=iw hb;have:=h.one i j a b hi hj hp;subst this;rw[hi]at hj;exact jz hj
def ì.nodup{ds:Ν}(h:ì ds):ds.Nodup:=by rw[ii,gn];intro i j hi hj a0 he;have:=h.one i j _ _ (dw hi) (dw hj) (by rw[he]);omega
def ze.strict{ds rv:Ν}(h:ì ds)(k:ze ds rv):xp GS rv:=by obtain⟨hp,hs⟩:=k;have hn:rv.Nodup:=hp.nodup_iff.2 h.nodup;rw[ii]at hn;unfold xp;have:=(hn.and hs);refine List.Pairwise.imp_of_mem ?_ this;intro a b ha hb ⟨h1,h2⟩;have h3:GS a b≠0:=λe=>h1 (h.eq (hp.mem_iff.1 ha) (hp.mem_iff.1 hb) e);have h4:=à.flip b a;omega
def ze.one{ds a b:Ν}(h:ì ds)(ha:ze ds a)(hb:ze ds b):a=b:=
 (ha.strict h).one à (hb.strict h) λx=>ha.1.mem_iff.Z hb.1.mem_iff.H
structure tx where
 Of:Ap
 td:sf
 rk:Int
 deriving DecidableEq
abbrev Θ:=List tx
def Ay:sf:=⟨⟨#[]⟩,⟨0,0,0⟩,[],[],[]⟩
def AF(d:tx):Dr:=⟨d.Of,d.rk.toNat⟩
structure ó(T:Θ)(i:Nat)(d:tx):Prop where
 Of:d.Of≠[]
 yn:Bd d.Of=true
 len:(A0 d.Of).length<=1024
 rk:1<=d.rk
 first:Az (T.map AF) d.Of=some i
 up:∃h,h<i/\Az (T.map AF) d.Of.dropLast=some h
 vt:AH d.td=true
 Y:d.Of.getLast? =some d.td.Y
structure vr(T:Θ):Prop where
 len:1<=T.length/\T.length<=257
 root:T[0]?=some ⟨[],Ay,0⟩
 su:∀i d,T[i]?=some d->i≠0->ó T i d
def CD(T:Θ)(i:Nat)(x:PU):Γ:=if Ad x then AG (T.map AF) (Ae (T.map AF) i) x (Ae (T.map AF) i).length else none
structure zk where
 m:Β
 su:Α
def Ds(T:Θ)(g:Ζ)(i:Nat)(s:zk)(e:Edge):Option zk:=
 match CD T i e.Y with
 |none=>none
 |some to=>match T[to]?,g[e.to.toNat]? with
  |some d,some x=>if d.td.Y=x.Y/\d.td.v=x.v then
    if s.m[to]?=some (-1)then some ⟨s.m.set to e.to,s.su++[to]⟩else if s.m[to]?=some e.to then some s else none
   else none
  |_,_=>none
def DU(T:Θ)(g:Ζ)(i:Nat):zk->LQ->Option zk
 |s,[]=>some s
 |s,e::es=>(Ds T g i s e).bind λt=>DU T g i t es
def DV(T:Θ)(g:Ζ):Nat->Nat->zk->Option (Β)
 |0,_,_=>none
 |f+1,n,s=>match s.su[n]? with
  |none=>some s.m
  |some i=>match s.m[i]? with
   |none=>none
   |some k=>(DU T g i s (Ar g k.toNat)).bind λt=>DV T g f (n+1) t
def C0(g:Ζ):Prop:=0<g.length/\∀x∈g,∀e∈x.sd,1<=e.to/\e.to<(g.length:Int)
def Ĝ(T:Θ)(g:Ζ):Option (Β):=DV T g (T.length+1) 0 ⟨(List.replicate T.length (-1)).set 0 0,[0]⟩
structure zw(T:Θ)(g:Ζ)(s:zk):Prop where
 len:s.m.length=T.length
 low:∀(i:Nat)(k:Int),s.m[i]?=some k-> -1<=k/\k<(g.length:Int)
 nodup:s.su.Nodup
 told:∀i,i∈s.su↔∃k:Int,s.m[i]?=some k/\k≠ -1
def zw.start{T:Θ}{g:Ζ}(hT:0<T.length)(hg:0<g.length):zw T g ⟨(List.replicate T.length (-1)).set 0 0,[0]⟩:=by
 refine⟨by simp,λi k h=>?_,by simp,λi=>?_⟩
 .by_cases hi:i=0
  .subst hi;rw[mz (by simpa using hT)]at h;cases h;omega
  .rw[nn (λe=>hi e.H)]at h;have:=fx h;rw[List.mem_replicate]at this;omega
 .constructor
  .intro h;rw[eu]at h;subst h;exact⟨0,mz (by simpa using hT),by decide⟩
  .rintro⟨k,h,hk⟩;by_cases hi:i=0
   .subst hi;simp
   .rw[nn (λe=>hi e.H)]at h;have:=fx h;rw[List.mem_replicate]at this;exact fu this.2 hk
def zw.yv{T:Θ}{g:Ζ}{s t:zk}{e:Edge}(h:zw T g s)(a5:1<=e.to/\e.to<(g.length:Int))(he:Ds T g i s e=some t):zw T g t/\∃l,t.su=s.su++l:=by
 unfold Ds at he;split at he
 .cases he
 .rename_i to _;split at he
  .split at he
   .split at he
    .rename_i hm;cases he;have hl:=(ec.1 hm).1;have a4:to∉s.su:=λhc=>by obtain⟨k,h1,h2⟩:=(h.told to).1 hc;rw[hm]at h1;cases h1;exact h2 rfl
     refine⟨⟨by simp[h.len],λj k hj=>?_,?_,λj=>?_⟩,⟨_,rfl⟩⟩
     .by_cases a0:to=j
      .subst a0;rw[mz hl]at hj;cases hj;omega
      .rw[nn a0]at hj;exact h.low j k hj
     .rw[ja];refine⟨h.nodup,by simp,λa ha b hb=>?_⟩;rw[eu]at hb;subst hb;rintro rfl;exact a4 ha
     .rw[fj,eu];by_cases a0:to=j
      .subst a0;exact⟨λ_=>⟨e.to,mz hl,oM⟩,λ_=> .inr rfl⟩
      .show(j∈s.su\/j=to)↔∃k:Int,(s.m.set to e.to)[j]?=some k/\k≠ -1;rw[nn a0,<-h.told j];exact⟨λhh=>by obtain hh|hh:=hh;exact hh;exact fu hh.H a0,λhh=>.inl hh⟩
    .split at he
     .cases he;exact⟨h,[],by simp⟩
     .cases he
   .cases he
  .cases he
def zw.ķ{T:Θ}{g:Ζ}{s:zk}(h:zw T g s):s.su.length<=T.length:=by
 have:=EU (m:=List.range T.length) h.nodup λi hi=>by obtain⟨k,h1,_⟩:=(h.told i).1 hi;have:=(ec.1 h1).1;rw[h.len]at this;exact ly.2 this
 simpa using this
def zw.sd{T:Θ}{g:Ζ}{i:Nat}:∀{es:LQ} {s t:zk},zw T g s->(∀e∈es,1<=e.to/\e.to<(g.length:Int))->DU T g i s es=some t->zw T g t/\∃l,t.su=s.su++l
 | [],s,t,h,_,he=>by cases he;exact⟨h,[],by simp⟩
 |e::es,s,t,h,hto,he=>by
  unfold DU at he;cases hm:Ds T g i s e with
  |none=>rw[hm]at he;cases he
  |some u=>rw[hm]at he;obtain⟨h1,l,hl⟩:=h.yv (hto e (.head _)) hm;obtain⟨h2,l',a0⟩:=zw.sd h1 (λe' h'=>hto e' (.tail _ h')) he;exact⟨h2,l++l',by rw[a0,hl,fh]⟩
structure è where
 m:vu
 g:Ζ
 T:Θ
 IN:Bool
def vm:xh tx where
 n:=9
 bytes:=144
 rep:=λw S x cs=>Ac x.td.Y/\∃ps d e o:Sl,cs= [ps.v,.string x.td.Y,vi x.td.v.ma,vi x.td.v.mi,vi x.td.v.pa,d.v,e.v,o.v,vi x.rk]/\IT vx w S ps x.Of/\IT rq w S d x.td.sj/\IT rq w S e x.td.sw/\IT rq w S o x.td.ut
 len:=λ⟨_,ps,d,e,o,h,_⟩=>by rw[h];rfl
 one:=λ⟨_,ps,d,e,o,h,_⟩ v hv=>by rw[h]at hv;simp[Sl.v]at hv;rcases hv with rfl|rfl|rfl|rfl|rfl|rfl|rfl|rfl|rfl<;>rfl
 O:=λ⟨h0,ps,d,e,o,h,a,b,c,k⟩ hs=>⟨h0,ps,d,e,o,h,a.O hs,b.O hs,c.O hs,k.O hs⟩
 ry:=λ⟨h0,ps,d,e,o,h,a,b,c,k⟩ hk=>⟨h0,ps,d,e,o,h,a.ry hk,b.ry hk,c.ry hk,k.ry hk⟩
def xt{l:Θ}(h:IT vm w S s l)(hn:n<l.length):
  ∃ad ps d e o,s.a=some ad/\S ad.block/\Ac l[n].td.Y/\IT vx w S ps l[n].Of/\IT rq w S d l[n].td.sj/\IT rq w S e l[n].td.sw/\IT rq w S o l[n].td.ut/\
   ∀w',AI w w'->se w' (ad.add (n*9)) [ps.v,.string l[n].td.Y,.int .i64 l[n].td.v.ma,.int .i64 l[n].td.v.mi,.int .i64 l[n].td.v.pa,d.v,e.v,o.v,.int .i64 l[n].rk]:=by
 obtain⟨ad,cs,h1,h2,⟨h0,ps,d,e,o,rfl,a,b,c,k⟩,h4⟩:=h.el hn;exact⟨ad,ps,d,e,o,h1,h2,h0,a,b,c,k,h4⟩
def Ty:Bz prog 38 61 9 144:=CM (z:=.agg #[.slice none 0 0,.string ⟨#[]⟩,vi 0,vi 0,vi 0,.slice none 0 0,.slice none 0 0,.slice none 0 0,vi 0]) kR kR rfl dC
def RE:vm.rep w S ⟨[],Ay,0⟩ [.slice none 0 0,.string ⟨#[]⟩,vi 0,vi 0,vi 0,.slice none 0 0,.slice none 0 0,.slice none 0 0,vi 0]:=
 ⟨by unfold Ac Ay;rw[Al];decide,Sl.nil,Sl.nil,Sl.nil,Sl.nil,rfl,IT.nil trivial,IT.nil trivial,IT.nil trivial,IT.nil trivial⟩
section
variable {w:Qd} {lo:Nat} {sp:LP} {K:K7} {q:IS} {s:St}
def yg.Xb7{t:Sl}{l:Ο}{k:Wp}(hb:AT w sp (CT K stk nds ahd ws s.first))(a4:lo<=sp.block)(h0:yg w lo sp.block stk nds ahd ws Q s)(ht:IT Pa w Q t l)
  (hk:∀w',ur sp.block w w'->AT w' sp (CT K stk nds ahd t s.first)->yg w' lo sp.block stk nds ahd t Q {s with ws:=l}->k w'):rp w (sp.add 10) [t.v] k:=
 rp.intro (o:=10) hb (by show 11<=12;omega) λw' b _ a0=>hk w' b a0
  (have h:=h0.J b
  ⟨h.stack,h.tn,h.AS,ht.J b λh1=>(h0.q _ h1).2 rfl,h.q,h.a1,h.a2,h.a3,h.o1,h.o2,h.o3⟩)
def yg.ņ{k:Wp}(hb:AT w sp (CT K stk nds ahd ws s.first))(a4:lo<=sp.block)(h0:yg w lo sp.block stk nds ahd ws Q s)
  (hk:∀w',ur sp.block w w'->CX w' lo sp K {s with first:=n}->k w'):rp w (sp.add 11) [vi n] k:=
 rp.intro (o:=11) hb (by show 12<=12;omega) λw' b _ a0=>hk w' b ⟨stk,nds,ahd,ws,Q,a0,a4,
  have h:=h0.J b
  ⟨h.stack,h.tn,h.AS,h.sx,h.q,h.a1,h.a2,h.a3,h.o1,h.o2,h.o3⟩⟩
def Zdp(hG:vl L)(n:PU)(v:sq):(getD L n v).sj.length<=16/\(getD L n v).sw.length<=16/\(getD L n v).ut.length<=16:=by
 unfold getD;cases h:AJ L n v with
 |none=>exact⟨im _,im _,im _⟩
 |some p=>obtain⟨_,_,h1,h2,h3⟩:=QW (hG.vt p (Gd h).1);exact⟨(BE h1).1,(BE h2).1,(BE h3).1⟩
def Zn1{ns:Ζ}{k:Nat}{x:BY}(hk:k≠0)(hx:ns[k]?=some x):q.sx ns k=Ea q.m.ru (getD q.L x.Y x.v).sj (getD q.L x.Y x.v).ut:=by
 unfold IS.sx MS zo;rw[fb hk,gc,hx];show(match AJ q.L x.Y x.v with|none=>[]|some p=>Ea q.m.ru p.sj p.ut)=_;unfold getD;cases AJ q.L x.Y x.v with
 |none=>rfl
 |some p=>rfl
def XY{k:Nat}{R:Wp}(hC:Cs w lo q K)(hb:AT w sp (CT K stk nds ahd ws s.first))(c3:lo<=sp.block)(h0:yg w lo sp.block stk nds ahd ws Q s)(hk:k<s.ns.length)
  (hR:∀w' c4 Q',ur sp.block w w'->AT w' sp (CT K stk nds ahd c4 s.first)->yg w' lo sp.block stk nds ahd c4 Q' {s with ws:=q.sx s.ns k}->R w'):H3 (some sp) (k:Int) w R:=by
 unfold H3;have d4:=hC.small;refine⟨λc9=>sh.drew λw1 x1=>⟨sp,rfl,K.mD,K.yc,K.ye,K.Ó,AT.at1 hb (k:=1) x1 rfl,sp,rfl,K.uo,AT.at1 hb (k:=5) x1 rfl,?_⟩,λc9=>?_⟩
 .have a5:k=0:=oM;subst a5;have a0:=hC.below (x1.uj lo hC.le);refine MX.V (Znz (m:=q.m) a0.tf a0.sj a0.dv a0.ut a0.ru (by unfold Ab;omega) λt w2 x2 a7=>⟨_,rfl,sp,rfl,?_⟩);have b7:=x1.Z x2;have hg:=IH hb;have a8:=a7.I (by rw[Yb];have:=Zka q.m K.uo;unfold Ab;omega);have h2:=h0.grow b7 hC.le hg;have s1:=x1.size;refine yg.Xb7 (l:=q.sx s.ns 0) (hb.U b7) c3 h2 ?_ λw3 b3 b2 h3=>hR w3 _ _ ((b7.J _).Z b3) b2 h3;rw[hC.uo]at a8;exact a8.O λb hb=>.inr ⟨oM,hb.2⟩
 .have a5:k≠0:=oM;have hx:s.ns[k]?=some s.ns[k]:=dw hk;obtain⟨ad,cs,a6,⟨hN,c,e,rfl,_,_⟩,hc⟩:=h0.tn.el hx;have d3:=h0.tn.len;obtain⟨S,r,a4,hS,hr,d2⟩:=hC.cat;have hG:=a4.Ú;obtain⟨g1,g2,g3⟩:=Zdp hG s.ns[k].Y s.ns[k].v;have hg:=IH hb;refine join.named λJ hJ=>sh.drew λw1 x1=>?_;refine⟨sp,rfl,_,AT.at0 hb x1 rfl,sp,rfl,nds,AT.at1 hb (k:=8) x1 rfl,ad,⟨a6,oM,oM⟩,s.ns[k].Y,(hc _ x1).pre rfl,sp,rfl,nds,AT.at1 hb (k:=8) x1 rfl,ad,⟨a6,oM,oM⟩,s.ns[k].v.ma,s.ns[k].v.mi,s.ns[k].v.pa,(hc _ x1).G (k:=1) rfl,?_⟩;have key:∀(a:LP)(d e o:Sl)(wm w3:Qd),AI w wm->AI wm w3->AT w3 a [.string (getD q.L s.ns[k].Y s.ns[k].v).Y,.int .i64 (getD q.L s.ns[k].Y s.ns[k].v).v.ma,.int .i64 (getD q.L s.ns[k].Y s.ns[k].v).v.mi,.int .i64 (getD q.L s.ns[k].Y s.ns[k].v).v.pa,d.v,e.v,o.v]->
    IT rq w3 (λb=>b<w3.heap.size) d (getD q.L s.ns[k].Y s.ns[k].v).sj->IT rq w3 (λb=>b<w3.heap.size) o (getD q.L s.ns[k].Y s.ns[k].v).ut->J a w3:=by
   subst hJ;intro a d e o wm w3 xm x3 c8 hd ho;have d0:=xm.Z x3;refine sh.drew λw4 x4=>?_;have a9:=d0.Z x4;have b9:=hC.below (a9.uj lo hC.le);refine⟨_,_,_,_,d,e,o,c8.at0 (r:=[]) x4 rfl,sp,rfl,K.mD,K.yc,K.ye,K.Ó,AT.at1 hb (k:=1) a9 rfl,?_⟩;have s4:=x4.size;refine MW.V (Zn0 (p:=getD q.L s.ns[k].Y s.ns[k].v) (S:=λb=>b<w4.heap.size) (λb h=>h) ((hd.U x4).O λb h=>by omega) ((ho.U x4).O λb h=>by omega) (b9.ru.O λb h=>by have:=b9.le;omega) (by unfold Ab;omega) λt w5 x5 a7=>⟨_,rfl,sp,rfl,?_⟩);have b8:=a9.Z x5;have a8:=a7.I (by rw[Yb];unfold Ab;omega);have h5:=h0.grow b8 hC.le hg;have d5:=a9.size;refine yg.Xb7 (l:=q.sx s.ns k) (hb.U b8) c3 h5 ?_ λw6 b6 c7 h6=>hR w6 _ _ ((b8.J _).Z b6) c7 h6;rw[Zn1 a5 hx];exact a8.O λb hb=>.inr ⟨oM,hb.2⟩
  refine⟨F1.V (JN (n:=s.ns[k].Y) (v:=s.ns[k].v) (a4.U x1) λd e o w3 x3 _ hd he ho=>⟨_,_,_,_,_,_,_,_,rfl,An.intro λa w4 x4 c6 c5 _=>tj.intro c6 sI λw5 b5 _ b4=>?_⟩),An.intro λa w3 x3 b2 c5 _=>F1.V (JN (n:=s.ns[k].Y) (v:=s.ns[k].v) ((a4.U x1).U x3) λd e o w4 x4 _ hd he ho=>⟨_,_,_,_,_,_,_,_,rfl,tj.intro (b2.U x4) sI λw5 b5 _ b4=>?_⟩)⟩
  .have b0:AI w3 w5:=b5.U x4 oM;have s5:=b0.size;exact key a d e o w3 w5 (x1.Z x3) b0 b4 ((hd.dep.U b0).O λb h=>by omega) ((ho.dep.U b0).O λb h=>by omega)
  .have d1:AI w1 w5:=b5.U (x3.Z x4) oM;have a6:∀b,(w3.heap.size<=b/\b<w4.heap.size)->b≠a.block:=λb h=>(by omega);have s5:=b5.1;exact key a d e o w1 w5 x1 d1 b4 ((hd.dep.J b5 λh=>a6 _ h rfl).O λb h=>by omega) ((ho.dep.J b5 λh=>a6 _ h rfl).O λb h=>by omega)
def Znw{k:Nat}{R:Wp}(hC:Cs w lo q K)(h:CX w lo sp K s)(hk:k<s.ns.length)(hR:∀w',Below lo w w'->CX w' lo sp K {s with ws:=q.sx s.ns k}->R w'):H3 (some sp) (k:Int) w R:=by obtain⟨stk,nds,ahd,ws,Q,hb,a0,h0⟩:=h;exact XY hC hb a0 h0 hk λw' a5 Q' b a4 h'=>hR w' (b.below hC.le a0) ⟨stk,nds,ahd,a5,Q',a4,a0,h'⟩
def PG{R:Wp}(hC:Cs w lo q K)(h:CX w lo sp K s)(hk:s.AS.length<s.ns.length)(hR:∀w',Below lo w w'->CX w' lo sp K {s with first:=s.stack.length,ws:=q.sx s.ns s.AS.length}->R w'):H2 (some sp) w R:=by unfold H2;obtain⟨stk,nds,ahd,ws,Q,hb,a5,h0⟩:=h;have a6:=h0.stack.len;have a4:=h0.AS.len;rw[eh]at a4;refine⟨sp,rfl,ahd,AT.at1 hb (k:=9) xR rfl,sp,rfl,stk,AT.at1 hb (k:=7) xR rfl,sp,rfl,?_⟩;rw[a6,a4];refine yg.ņ (n:=s.stack.length) hb a5 h0 λw1 b1 h1=>?_;have vd:=b1.below hC.le a5;exact H3.V (Znw (hC.below vd) h1 hk λw2 a0 h2=>⟨rfl,hR w2 (vd.Z a0) h2⟩)
end
section
variable {w:Qd} {lo:Nat} {sp:LP} {K:K7} {q:IS} {s:St}
def Ui{ns:Ζ}{k:Nat}{x:BY}(h:ns[k]?=some x):th ns k=x.uk:=by unfold th zo;rw[gc,h];rfl
def TY{wt:uu}{rs:Sl}{SR:Nat->Prop}{R:Int->PU->Sl->Bool->À}(hC:Cs w lo q K)(h:CX w lo sp K s)(hk:s.AS.length<s.ns.length)(hN:Ac wt.Y)(g6:Old SR w)(hr:IT ui w SR rs wt.range)
  (hR:∀v w',AI w w'->IT ú w' (λb=>w.heap.size<=b/\b<w'.heap.size) v (q.ch s.AS.length (th s.ns s.AS.length) wt).vs->R (s.AS.length:Int) wt.Y v (q.ch s.AS.length (th s.ns s.AS.length) wt).none 0 w'):Jb (some sp) wt.Y wt.ss rs w R:=by
 unfold Jb;obtain⟨stk,nds,ahd,ws,Q,hb,j3,h0⟩:=h;have f0:=h0.AS.len;rw[eh]at f0;have j5:=h0.tn.len;have hx:s.ns[s.AS.length]?=some s.ns[s.AS.length]:=dw hk;obtain⟨ad,cs,h5,⟨i5,c,e,rfl,f4,_⟩,h4⟩:=h0.tn.el hx;have g8:=Ui hx;obtain⟨S,r,f3,hS,j6,i9⟩:=hC.cat;have h3:q.ch s.AS.length (th s.ns s.AS.length) wt=⟨s.AS.length,wt.Y,(q.xk (th s.ns s.AS.length) wt).1,(q.xk (th s.ns s.AS.length) wt).2,0⟩:=rfl;rw[h3]at hR;dsimp only at hR;rw[g8]at hR;refine An.intro λa w1 x1 ha i7 _=>An.intro λa1 w2 x2 e1 i3 _=>?_;have e6:=x1.Z x2;have s1:=x1.size;have s2:=x2.size;refine⟨sp,rfl,ahd,AT.at1 hb (k:=9) e6 rfl,wt.Y,AT.at0 ha x2 rfl,An.intro λa4 w3 x3 g7 i4 _=>tj.intro g7 sI λw4 b4 _ e3=>?_⟩;have s3:=x3.size;have d4:AI w2 w4:=b4.U x3 oM;have h9:=e6.Z d4;have j8:=x2.Z d4;rw[f0]at e3 ⊢;have j1:a4.block<w4.heap.size:=e3.lt;have j0:a1.block<w4.heap.size:=by have:=e1.lt;omega
 have j4:a1.block≠a4.block:=by have:=e1.lt;omega
 have fin:∀(w8:Qd)(v:Sl)(nb:Bool)(l:List sq),AI w2 w8->w4.heap.size<=w8.heap.size->AT w8 a4 [vi (s.AS.length:Int),.string wt.Y,v.v,.bool nb,vi 0]->IT ú w8 (λb=>w4.heap.size<=b/\b<w8.heap.size) v l->q.xk s.ns[s.AS.length].uk wt=(l,nb)->
   ∃(b2:Int) (b0:PU) (a0:Sl) (b5:Bool) (c7:Int),(se w8 a4 [vi b2,(.string b0),a0.v,(.bool b5),vi c7])/\rp w8 a1 [vi b2,(.string b0),a0.v,(.bool b5),vi c7] λd9=>
    ∃(c5:Int) (c4:PU) (a5:Sl) (c6:Bool) (d8:Int),se d9 a1 [vi c5,(.string c4),a5.v,(.bool c6),vi d8]/\R c5 c4 a5 c6 d8 d9:=λw8 v nb l g3 j7 b6 hv g9=>by
  refine⟨_,_,v,_,_,b6.se.pre (r:=[]) rfl,tj.intro (e1.U g3) sI λw9 b9 _ d1=>⟨_,_,v,_,_,d1.at0 (r:=[]) xR rfl,?_⟩⟩;have h2:=hR v w9 (b9.U (e6.Z g3) oM);rw[g9]at h2;have s9:=b9.1;exact h2 ((hv.J b9 λh=>by omega).O λb h=>⟨oM,oM⟩)
 refine join.named λJ hJ=>sh.drew λw5 x5=>?_;have d3:=h9.Z x5;have i2:=d4.Z x5;have s5:=x5.size;have key:∀(a6:LP)(v:sq)(is:Bool)(w7:Qd),AI w5 w7->AT w7 a6 [vi v.ma,vi v.mi,vi v.pa]->(is=true->un s.ns[s.AS.length].uk wt.Y=some v)->(is=false->un s.ns[s.AS.length].uk wt.Y=none)->J a6 is w7:=by
  subst hJ;intro a6 v is w7 e7 f1 h6 h7;have f9:=d3.Z e7;have g4:=x5.Z e7;have d5:=d4.Z g4;have g0:=x2.Z d5;have a8:=e3.U g4;have s7:=e7.size;refine⟨λe5=>?_,λe5=>?_⟩
  .have b7:q.xk s.ns[s.AS.length].uk wt=(if B2 wt.range v then [v]else [],false):=(by unfold IS.xk;rw[h6 e5]);refine join.named λJ2 e9=>⟨rs,AT.at1 ha (k:=2) g0 rfl,v.ma,v.mi,v.pa,f1.at0 (r:=[]) xR rfl,HD.V (Se (hr.U f9) λw8 x8=>⟨_,rfl,λe4=>?_,λe4=>?_⟩)⟩
   .refine⟨v.ma,v.mi,v.pa,f1.at0 (r:=[]) x8 rfl,An.intro λa9 w9 x9 d1 i6 _=>?_⟩;have g5:=x8.Z x9;refine rp.intro (o:=2) (a8.U g5) sI λd2 c3 _ d0=>?_;have s8:=x8.size;have s9:=x9.size;have c8:AI w2 d2:=c3.U (d5.Z g5) oM;subst e9;have f6:a9.block≠a4.block:=oM;have h1:=(JM (E:=ú) (S:=λ_=>False) d1 ⟨rfl,trivial⟩ dC).J c3 (λh=>by
     obtain h|h:=h
     .exact h
     .exact f6 h.H)
    have j2:=d1.lt;have h8:=c3.1;refine fin d2 ⟨some a9,1,1⟩ false [v] c8 oM d0 (h1.O λb hb=>?_) (by rw[b7,fo e4]);obtain hb|rfl:=hb
    .exact hb.F
    .exact⟨oM,oM⟩
   .subst e9;exact fin w8 Sl.nil false [] (d5.Z x8) (by have:=x8.size;omega) (a8.U x8) (IT.nil trivial) (by rw[b7,fb (by rw[e4];decide)])
  .have b7:q.xk s.ns[s.AS.length].uk wt=(BG q.L wt.Y wt.range q.OF,decide (wt.ss=2)):=(by unfold IS.xk;rw[h7 e5]);refine sh.drew λw8 x8=>?_;have j9:=x8;have c9:=f9.Z x8;have g1:=g0.Z x8;have e8:=hC.below (c9.uj lo hC.le);refine⟨sp,rfl,_,AT.at0 hb c9 rfl,wt.Y,AT.at0 ha g1 rfl,rs,AT.at1 ha (k:=2) g1 rfl,sp,rfl,K.pS,AT.at1 hb (k:=6) c9 rfl,?_⟩;refine JO.V (Zz (f3.U c9) (g6.U c9.size) e8.tf (hr.U c9) e8.OF λt w9 x9 hF=>⟨_,rfl,?_⟩);have k0:=x9;have s8:=x8.size;have s9:=x9.size;refine rp.intro (o:=2) ((a8.U x8).U x9) sI λd2 c3 _ d0=>?_;have c8:AI w2 d2:=c3.U ((d5.Z x8).Z x9) oM;refine⟨wt.ss,AT.at1 ha (k:=1) (x2.Z c8) rfl,rp.intro (o:=3) d0 sI λf8 e0 _ d7=>?_⟩;have g2:AI w2 f8:=e0.U c8 oM;have e2:(wt.ss==2)=decide (wt.ss=2):=(by rw[ij];simp);rw[e2]at d7;have h8:=c3.1;have s11:=e0.1;have hv:=(((Zdi hF).J c3 (λh=>by omega)).J e0 (λh=>by omega));exact fin f8 t (decide (wt.ss=2)) _ g2 oM d7 (hv.O λb h=>⟨oM,oM⟩) b7
 have f2:IT uy w5 (λb=>Q b) c s.ns[s.AS.length].uk:=f4.U d3;have f7:se w5 (sp.add 8) [nds.v]:=AT.at1 hb (k:=8) d3 rfl;refine⟨sp,rfl,nds,f7,ad,⟨h5,oM,oM⟩,c,(h4 _ d3).G (k:=4) rfl,wt.Y,AT.at0 ha (x2.Z i2) rfl,?_⟩;refine⟨H4.V (RF f2 (λv w6 ht x6=>⟨_,_,_,_,rfl,An.intro λa7 w7 x7 a8 d6 _=>tj.intro a8 sI λw8 b8 _ b6=>?_⟩) λw6 ht x6=>⟨_,_,_,_,rfl,An.intro λa7 w7 x7 a8 d6 _=>tj.intro a8 sI λw8 b8 _ b6=>?_⟩),
  An.intro λa7 w7 x7 a8 d6 _=>H4.V (RF (f2.U x7) (λv w6 ht x6=>⟨_,_,_,_,rfl,tj.intro (a8.U x6) sI λw8 b8 _ b6=>?_⟩) λw6 ht x6=>⟨_,_,_,_,rfl,tj.intro (a8.U x6) sI λw8 b8 _ b6=>?_⟩)⟩
 .exact key a7 v true w8 (x6.Z (b8.U x7 oM)) b6 (λ_=>ht) nO
 .exact key a7 ⟨0,0,0⟩ false w8 (x6.Z (b8.U x7 oM)) b6 nO λ_=>ht
 .exact key a7 v true w8 (b8.U (x7.Z x6) oM) b6 (λ_=>ht) nO
 .exact key a7 ⟨0,0,0⟩ false w8 (b8.U (x7.Z x6) oM) b6 nO λ_=>ht
end
section
variable {α:Type} {E:xh α} {T:LN} {w:Qd} {lo:Nat} {Q:Nat->Prop} {s:Sl} {l:List α}
def NR{css:List (List HT)}(h:∀cs∈css,cs.length=n):css.flatten.length=css.length*n:=by
 induction css with
 |nil=>simp
 |cons c r ih=>rw[js,dx,h c (.head _),ih λx hx=>h x (.tail _ hx),gb,lj];omega
def rl.Ų(h:rl E T w lo Q s l){css:List (List HT)}(hl:css.length=l.length)(hr:∀(i:Nat)(x:α),l[i]?=some x->∃cs,css[i]?=some cs/\E.rep w Q x cs):∀cs∈css,cs.length=E.n:=λcs a0=>by obtain⟨k,hk,rfl⟩:=gh.1 a0;obtain⟨a4,h1,h2⟩:=hr k _ (dw oM);rw[dw hk,ff]at h1;rw[h1];exact E.len h2
def rl.take(h:rl E T w lo Q s l)(hn:n<=l.length):rl E T w lo Q (Sl.cut s 0 n E.n) (l.take n):=by
 obtain⟨css,ho,hl,hr⟩:=h.row;have a4:=h.Ų hl hr;have a7:=h.len;have ha:(Sl.cut s 0 n E.n).a=s.a:=by
  unfold Sl.cut;dsimp only;split
  .rfl
  .rw[mw];cases s.a<;>rfl
 have hv:(Sl.cut s 0 n E.n).v= .slice s.a n s.cap:=by unfold Sl.v;rw[ha];unfold Sl.cut;simp
 refine⟨⟨css.take n,?_,by rw[fk,fk,hl],λi x hx=>?_⟩,by show n - 0=_;rw[fk];omega,h.lt,λad a6=>h.apart ad (ha▸a6)⟩
 .rw[hv];show w.ownsRow lo T E.n _ (n - 0) _;have a0:=NR (css:=css.take n) (n:=E.n) λc hc=>a4 c (lz hc);rw[fk,hl,ky hn]at a0;refine⟨by simpa using a0,?_⟩;rcases ho.2 with⟨h1,h2⟩|⟨g,cap,a5,h1,h2,h3,h4,h5,h6,h7⟩
  .left;simp[Sl.v]at h1;have:n=0:=oM;rw[h1.1,h1.2.2,this];exact⟨rfl,rfl⟩
  .right;simp[Sl.v]at h1;refine⟨g,cap,a5,by rw[h1.1,h1.2];simp,h2,h3,oM,h5,h6,?_⟩;have h8:=kd (List.take (n*E.n)) h7;rw[List.take_take,ky (je _ oM)]at h8;rw[rj,h8];have e:css.flatten=(css.take n).flatten++(css.drop n).flatten:=by rw[<-kw,gk]
   rw[e,nz a0]
 .rw[mn]at hx;split at hx
  .obtain⟨cs,k1,k2⟩:=hr i x hx;rename_i hi;exact⟨cs,by rwa [mn,fo hi],k2⟩
  .cases hx
def rl.ų(h:rl E T w lo Q s l)(hi:i<l.length){ad:LP}(ha:s.a=some ad){x:α}{o:Nat}{new:LV}(hx:∀cs,E.rep w Q l[i] cs->E.rep w Q x (cs.take o++new++cs.drop (o+new.length)))(ho:o+new.length<=E.n){K:Wp}
  (hK:∀w',ur ad.block w w'->w'.heap.size=w.heap.size->rl E T w' lo Q s (l.set i x)->K w'):rp w ((ad.add (i*E.n)).add o) new K:=by
 obtain⟨css,b7,hl,hr⟩:=h.row;have a4:=h.Ų hl hr;have b2:=h.len;rcases b7.2 with⟨hv,_⟩|⟨g,cap,a0,hv,hg,hh,hc,c3,c4,ht⟩
 .simp[Sl.v]at hv;rw[hv.1]at ha;cases ha
 .have b8:ad=⟨g,0,none⟩:=by simp[Sl.v]at hv;rw[hv.1]at ha;exact(jz ha).H
  subst b8;have a6:i<css.length:=oM;have b6:(i+1)*E.n<=l.length*E.n:=je _ hi;have b0:s.len*E.n<=cap*E.n:=je _ hc;rw[lj]at b6;rw[b2]at b0;have b5:i*E.n+o+new.length<=a0.size:=oM;rw[Dl,GL];have a7:=a4 css[i] (fm a6);have hA:=NR (css:=css.take i) (n:=E.n) λc hc=>a4 c (lz hc);rw[fk,ky oM]at hA;have e1:css.flatten=(css.take i).flatten++(css[i]++(css.drop (i+1)).flatten):=by
   conv=>lhs;rw[<-gk i css,kw,gp a6,js]
  have e2:(css.set i (css[i].take o++new++css[i].drop (o+new.length))).flatten=(css.take i).flatten++((css[i].take o++new++css[i].drop (o+new.length))++(css.drop (i+1)).flatten):=by rw[List.set_eq_take_append_cons_drop,fo a6,kw,js]
  have a5:a0.toList=css.flatten++a0.toList.drop (s.len*E.n):=by rw[<-ht,gk]
  have a8:(D0 a0 (i*E.n+o) new).toList=(css.set i (css[i].take o++new++css[i].drop (o+new.length))).flatten++a0.toList.drop (s.len*E.n):=by
   have key:∀(A B C D N:LV),A.length=i*E.n->B.length=E.n->N.length=new.length->(A++(B++C)++D).take (i*E.n+o)++N++(A++(B++C)++D).drop (i*E.n+o+N.length)=A++(B.take o++N++B.drop (o+N.length)++C)++D:=by
    intro A B C D N hA hB hN;rw[fh A,<-hA,List.take_length_add_append];have t1:((B++C)++D).take o=B.take o:=by rw[fh,nj oM]
    have t2:(A++((B++C)++D)).drop (A.length+o+N.length)=B.drop (o+N.length)++(C++D):=(by rw[qr,List.drop_length_add_append,fh,mj oM]);rw[t1,t2];simp[fh]
   unfold D0;generalize a0.toList.drop (s.len*E.n)=D at a5 ⊢;rw[rb,a5,e1,e2];exact key (css.take i).flatten css[i] (css.drop (i+1)).flatten D new hA a7 rfl
  refine⟨a0,T,hh,rfl,by simpa using b5,?_⟩;have hb:ur g w (w.setRow g (D0 a0 (i*E.n+o) new)):=⟨by simp[World.setRow],rfl,rfl,rfl,λc hc c5=>setRow_other w g c _ c5⟩;have b4: ¬Q g:=h.apart _ ha;refine hK _ hb (by simp[World.setRow]) ⟨⟨css.set i (css[i].take o++new++css[i].drop (o+new.length)),⟨?_,.inr ⟨g,cap,_,hv,hg,setRow_heap w g a0 _ T _ hh,hc,c3,?_,?_⟩⟩,by rw[jp,jp,hl],λj y hy=>?_⟩,by rw[jp];exact h.len,λb b9=>ju (h.lt b b9) hb.1,h.apart⟩
  .rw[NR (n:=E.n),jp,hl,b2];intro c hc;obtain hc|rfl:=List.mem_or_eq_of_mem_set hc
   .exact a4 c hc
   .simp only[dx,fk,gq,a7];omega
  .have h8:=kd List.length a8;have h9:=kd List.length a5;rw[dx]at h9 h8;have e3:(css.set i (css[i].take o++new++css[i].drop (o+new.length))).flatten.length=css.flatten.length:=(by rw[e1,e2];simp only[dx,fk,gq,a7];omega);rw[e3,<-h9]at h8;rwa [<-kx (xs:=D0 a0 (i*E.n+o) new),h8,kx]
  .rw[a8];refine nz ?_;rw[e2];have:=NR a4;rw[e1]at this;simp only[dx,fk,gq,a7]at this ⊢;rw[hl]at this;rw[b2];omega
  .rw[List.getElem?_set]at hy;split at hy
   .rename_i a9;subst a9;simp only[ff]at hy;subst hy;obtain⟨cs,k1,k2⟩:=hr i _ (dw hi);rw[dw a6,ff]at k1;subst k1;exact⟨_,by rw[mz a6],E.ry (hx _ k2) (hb.ry b4)⟩
   .rename_i a9;obtain⟨cs,k1,k2⟩:=hr j y hy;exact⟨cs,by rwa [nn a9],E.ry k2 (hb.ry b4)⟩
end
def v1:sq:=⟨1,0,0⟩
def Zw(L:Κ)(n:PU)(l:Λ)(OF:Η):(BG L n l OF).length=((D1 n L).filter (B2 l)).length:=by rw[<-N3];exact(FK _).length_eq
def Zno(n:PU):(D1 n L).length<=L.length:=by unfold D1;rw[eh];exact jo _ _
def TO(h:vl L)(n:PU)(l:Λ)(OF:Η):(BG L n l OF).length<=128:=by rw[Zw];have h1:=jo (B2 l) (D1 n L);have h2:=Zno (L:=L) n;have h3:=h.le;omega
end Go.Hal
