/- Lemmas for the claim K19u: how the program's functions run, and what they answer; no condition but those that each theorem names. -/
import Derived.Test.YtgolaibmophnjaaGreatDoorProg
import Derived.Test.YtgolaibmophnjaaGreatDoorK19uB1
set_option linter.unusedVariables false
set_option linter.unusedSimpArgs false
set_option linter.defProp false
set_option maxHeartbeats 16000000
open Go.Hal.SE hiding Cs Dr Lb vB
open Go Go.RowKit Go.Proofs Go.Shelf Go.Hal Go.Proofs.Tryz
variable {p:LP} {d:Int} {L:Ι} {l:Η} {cs:LV} {M:Ρ} {m:vz} {a i tc lo n r:Nat} {Q S:Nat->Prop} {ahd yj yn ã nds sw s stk ws:Sl} {R:Sl->Wp} {t:LN} {w w':PU}
namespace Go.Hal
def No.cut{α:Type}{E:xn α}{l:List α}(h:No E w S s l){b:Nat}(a0:a<=b)(hb:b<=l.length):No E w S (Sl.cut s a b E.n) ((l.take b).drop a):=by
 obtain⟨h1,h2,h3,h4,h5⟩:=h;have hl:((l.take b).drop a).length=b - a:=by rw[gh,fg];omega
 refine⟨by rw[hl];rfl,by rw[hl];show b - a<=s.cap - a;omega,by show s.cap - a<=_;omega,?_,?_⟩
 .rw[hl];exact fj (iu _ oM) h4
 .by_cases h0:b - a=0
  .exact .inl (fo oM)
  .rcases h5 with h5|⟨ad,ha,hS,hr⟩
   .subst h5;simp at hb;omega
   .refine .inr ⟨ad.add (a*E.n),?_,by rwa [CW],λi x hx=>?_⟩
    .show(if s.cap=a then s.a else _)=_;rw[fa oM,ha];rfl
    .rw[mj]at hx;rw[mh]at hx;split at hx
     .obtain⟨cs,k1,k2⟩:=hr (a+i) x hx;exact⟨cs,k1,by rwa [Dg,<-ku]⟩
     .cases hx
def Jg{l:Ι}(h:No wu w S s l)(hn:n<l.length):
  ∃ad d e o,s.a=some ad/\S ad.block/\Ad l[n].Y/\No ru w S d l[n].ss/\No ru w S e l[n].ta/\No ru w S o l[n].uq/\∀w',AI w w'->sh w' (ad.add (n*7)) [.string l[n].Y,.int .i64 l[n].v.ma,.int .i64 l[n].v.mi,.int .i64 l[n].v.pa,d.v,e.v,o.v]:=by
 obtain⟨ad,cs,h1,h2,⟨h0,d,e,o,rfl,a,b,c⟩,h4⟩:=h.el hn;exact⟨ad,d,e,o,h1,h2,h0,a,b,c,h4⟩
structure ę(w:PU)(S:Nat->Prop)(q:LP)(L:Ι):Prop where
 at_:∃s,AT w q [Sl.v s]/\No wu w S s L
 free: ¬S q.block
 tm:Old S w
 Ģ:zf L
def ę.U{q:LP}(h:ę w S q L)(hx:AI w w'):ę w' S q L:=by obtain⟨s,a,b⟩:=h.at_;exact⟨⟨s,a.U hx,b.U hx⟩,h.free,h.tm.U hx.size,h.Ģ⟩
def ę.stay{q:LP}(h:ę w S q L)(a0:w.heap.size<=w'.heap.size)(hk:∀b,b<w.heap.size->(S b\/b=q.block)->w'.heap[b]?=w.heap[b]?):ę w' S q L:=by obtain⟨s,a,b⟩:=h.at_;exact⟨⟨s,a.sj (S:=λb=>b=q.block) rfl λb hb hl=>hk b hl (.inr hb),b.sj λb hb hl=>hk b hl (.inl hb)⟩,h.free,h.tm.U a0,h.Ģ⟩
def S4{α:Type}{p:α->Bool}{l:List α}(hn:n<l.length)(h0:(l.take n).find? p=none):(l.take (n+1)).find? p=if p l[n]then some l[n]else none:=by rw[dw hn,List.find?_append,h0];simp only[Option.none_or,List.find?_cons,List.find?_nil];cases p l[n]<;>rfl
def QK{α:Type}{p:α->Bool}{l:List α}(hn:n<l.length)(h0:(l.take n).find? p=none)(h:p l[n]=true):l.find? p=some l[n]:=by
 have e:l.find? p=(l.take (n+1)++l.drop (n+1)).find? p:=by rw[ga]
 rw[e,List.find?_append,S4 hn h0,fl h];rfl
def Zh7{n:Pr}{v:tj}{q:LP}{R:Pr->Int->Int->Int->Sl->Sl->Sl->É}(hC:ę w S q L)
  (hR:∀d e o w',AI w w'->Ad (getD L n v).Y->No ru w' S d (getD L n v).ss->No ru w' S e (getD L n v).ta->No ru w' S o (getD L n v).uq->
   R (getD L n v).Y (getD L n v).v.ma (getD L n v).v.mi (getD L n v).v.pa d e o (AR L n v).isSome w'):KX (some q) n v.ma v.mi v.pa w R:=by
 unfold KX;obtain⟨s,hb,hs⟩:=hC.at_;have hl:=hs.len;refine An.intro λa w1 x1 ha _ _=>An.intro λa1 w2 x2 b2 b6 _=>?_;have b4:=x1.Z x2;have b9:=b4.size;refine Of.up hs.max (λi w'=>AI w2 w'/\(L.take i).find? (CH n v)=none) ⟨AI.refl _,rfl⟩ λi w3 b8 hi ⟨x3,hI⟩ hn=>?_;have b0:=b4.Z x3;refine⟨q,rfl,s,hb.at0 (r:=[]) b0 rfl,λa8=>sf.drew λw4 x4=>?_,λb7=>?_⟩
 .have a4:i<L.length:=oM;have a0:=b0.Z x4;obtain⟨ad,d,e,o,a9,_,hN,hd,he,ho,hc⟩:=Jg hs a4;refine⟨q,rfl,s,hb.at0 (r:=[]) a0 rfl,ad,⟨a9,oM,a8⟩,_,(hc _ a0).pre rfl,IN ⟨q,λ_=>rfl,s,λ_=>hb.at0 (r:=[]) a0 rfl,ad,λ_=>⟨a9,oM,a8⟩,_,_,_,λ_=>(hc _ a0).I rfl,_,_,_,λ_=>ha.at0 (r:=[]) (x2.Z (x3.Z x4)) rfl,?_⟩⟩;rw[FN];have ek:(Ag L[i].Y n&&decide (L[i].v=v))=CH n v L[i]:=by unfold CH;rw[gp,dz,AG,fk,fk]
  rw[ek];refine⟨λh=>?_,λh=>hn a4 _ ⟨x3.Z x4,by rw[S4 a4 hI,h];rfl⟩⟩;refine⟨q,rfl,s,hb.at0 (r:=[]) a0 rfl,ad,⟨a9,oM,a8⟩,_,_,_,_,_,_,_,(hc _ a0).pre (r:=[]) rfl,tk.intro (b2.U (x3.Z x4)) sI λw5 b5 _ a6=>⟨_,_,_,_,_,_,_,a6.sh.pre rfl,?_⟩⟩;have hg:AR L n v=some L[i]:=QK a4 hI h;have x5:AI w w5:=b5.U a0 (by have:=x1.size;omega);have a5:=hR d e o w5 x5;have a7:getD L n v=L[i]:=by unfold getD;rw[hg];rfl
  rw[a7,hg]at a5;exact a5 hN (hd.U x5) (he.U x5) (ho.U x5)
 .have:i=L.length:=oM;rw[this,eh]at hI;refine tk.intro (b2.U x3) sI λw5 b5 _ a6=>⟨_,_,_,_,_,_,_,a6.sh.pre rfl,?_⟩;have hg:AR L n v=none:=hI;have x5:AI w w5:=b5.U b0 (by have:=x1.size;omega);have a5:=hR Sl.nil Sl.nil Sl.nil w5 x5;have a7:getD L n v=SN:=by unfold getD;rw[hg];rfl
  rw[a7,hg]at a5;exact a5 (by unfold Ad;exact ib _) (No.nil trivial) (No.nil trivial) (No.nil trivial)
def Zh9{a b:su}{d1 e1 o1 d2 e2 o2:Sl}{R:É}(hN:Ad a.Y)(hR:∀w',AI w w'->R (Cl a b) w'):KZ a.Y a.v.ma a.v.mi a.v.pa d1 e1 o1 b.Y b.v.ma b.v.mi b.v.pa d2 e2 o2 w R:=by
 refine An.intro λ_ w1 x1 hb _ _=>An.intro λ_ w2 x2 a0 _ _=>?_;refine⟨_,hb.at0 x2 rfl,_,a0.at0 xR rfl,λa4=>⟨_,hb.at0 x2 rfl,_,a0.at0 xR rfl,Hi.V (û hN λw3 x3=>⟨_,rfl,?_⟩)⟩,λhe=>⟨_,_,_,hb.at1 x2 rfl,_,_,_,a0.at1 xR rfl,KM.V (Zhx (a:=a.v) (b:=b.v) λw3 x3=>⟨_,rfl,?_⟩)⟩⟩
 .have e:Cl a b=Ak a.Y b.Y:=by
   unfold Cl cP;rw[gp,fk,Ru,Ir];constructor
   .rintro(h|⟨h,_⟩)
    .exact h
    .exact fm (EA.1 h) a4
   .exact .inl
  rw[<-e];exact hR _ (x1.Z (x2.Z x3))
 .have he:=jx.1 he;have e:Cl a b=decide (0<a.v.cmp b.v):=by unfold Cl cP;rw[js,Ru,he,EA.2 rfl];have:=tj.Ø.flip b.v a.v;omega
  rw[<-e];exact hR _ (x1.Z (x2.Z x3))
def Zlp{α:Type}{p:α->Bool}{l:List α}(hi:i<=l.length)(h:∀x∈l.take i,p x=true)(h2:∀x,l[i]?=some x->p x=false):l.takeWhile p=l.take i/\l.dropWhile p=l.drop i:=by
 induction l generalizing i with
 |nil=>simp
 |cons a r ih=>
  cases i with
  |zero=>have:=h2 a rfl;simp[qb,nj,this]
  |succ i=>have ha:=h a sI;obtain⟨k1,k2⟩:=ih (i:=i) (by simpa using hi) (λx hx=>h x (by simp[hx])) (λx hx=>h2 x (by simpa using hx));simp[qb,nj,ha,k1,k2]
def Zh8{x:su}{d e o:Sl}{S2:Nat->Prop}{q:LP}{R:È}(hC:ę w S q L)(hN:Ad x.Y)(c5:Old S2 w)(hq: ¬S2 q.block)
  (hd:No ru w S2 d x.ss) (he:No ru w S2 e x.ta) (ho:No ru w S2 o x.uq)
  (hR:∀w',uv q.block w w'->ę w' (λb=>(S b\/S2 b)\/(w.heap.size<=b/\b<w'.heap.size)) q (BJ L x).2->R (BJ L x).1 w'):KY (some q) x.Y x.v.ma x.v.mi x.v.pa d e o w R:=by
 unfold KY;obtain⟨s,hb,hs⟩:=hC.at_;have h8:=hb.lt;have hl:=hs.len;have g9:=hC.Ģ.le;have same:∀w',AI w w'->ę w' (λb=>(S b\/S2 b)\/(w.heap.size<=b/\b<w'.heap.size)) q L:=λw' hx=>
  ⟨⟨s,hb.U hx,(hs.U hx).O λb hb=>.inl (.inl hb)⟩,λh=>by
   rcases h with(h|h)|h
   .exact hC.free h
   .exact hq h
   .omega,λb hb=>by
   have:=hx.size;rcases hb with(h|h)|h
   .have:=hC.tm b h;omega
   .have:=c5 b h;omega
   .exact h.2,hC.Ģ⟩
 refine An.intro λa w1 x1 ha h6 _=>⟨_,_,_,_,_,_,_,ha.sh.pre rfl,Hj.V (R9 (p:=x) hN (hd.U x1) (he.U x1) (ho.U x1) λw2 x2=>⟨_,rfl,λh=>?_,λh=>?_⟩)⟩
 .have e1:AJ x=false:=by simpa using h
  have hp:BJ L x=(24,L):=by unfold BJ;rw[fl e1]
  rw[hp]at hR;exact hR w2 ((x1.Z x2).tz _) (same _ (x1.Z x2))
 have b4:AJ x=true:=by simpa using h
 have f2:=x1.Z x2;refine⟨_,ha.at0 x2 rfl,_,_,_,ha.at1 x2 rfl,KX.V (Zh7 (n:=x.Y) (v:=x.v) (hC.U f2) λd0 e0 o0 w3 x3 _ _ _ _=>⟨_,_,_,_,_,_,_,_,rfl,An.intro λa7 w4 x4 f7 h0 _=>tk.intro f7 sI λw5 b5 _ _=>⟨λh=>?_,λh=>?_⟩⟩)⟩
 all_goals
  have s1:=x1.size;have s2:=x2.size;have s3:=x3.size;have s4:=x4.size;have a9:AI w w5:=b5.U (f2.Z (x3.Z x4)) oM
 .have hp:BJ L x=(11,L):=by unfold BJ;rw[fa (by rw[b4];simp),fl h]
  rw[hp]at hR;exact hR w5 (a9.tz _) (same _ a9)
 have b6:(AR L x.Y x.v).isSome=false:=h;refine⟨q,rfl,s,hb.at0 (r:=[]) a9 rfl,λh=>?_,λh=>?_⟩
 .have hp:BJ L x=(26,L):=by unfold BJ;rw[fa (by rw[b4];simp),fa (by rw[b6];simp),fl oM]
  rw[hp]at hR;exact hR w5 (a9.tz _) (same _ a9)
 have h7:L.length<128:=oM;have hp:BJ L x=(0,Er x L):=by unfold BJ;rw[fa (by rw[b4];simp),fa (by rw[b6];simp),fa oM]
 have b2:=WH hC.Ģ x;rw[hp]at hR b2;have g8:AI w1 w5:=b5.U (x2.Z (x3.Z x4)) oM;have c4:wu.bytes=112:=rfl;refine Of.up hs.max (λi w'=>AI w5 w'/\∀y∈L.take i,Cl y x=true) ⟨AI.refl _,by simp⟩ λi w6 h9 hi ⟨x6,hI⟩ hn=>sf.drew λw7 x7=>?_;have d4:=x6.Z x7;have c7:=a9.Z d4;have f3:=g8.Z d4;obtain⟨ad,y,dy,ey,oy,b0⟩:∃(ad:LP) (y:su) (dy ey oy:Sl),decide ((i:Int)<(s.len:Int))=true->s.a=some ad/\L[i]?=some y/\Ad y.Y/\∀w',AI w w'->sh w' (ad.add (i*7)) [.string y.Y,vi y.v.ma,vi y.v.mi,vi y.v.pa,dy.v,ey.v,oy.v]:=by
  by_cases c9:i<L.length
  .obtain⟨ad,d',e',o',g2,_,f6,_,_,_,hc⟩:=Jg hs c9;exact⟨ad,L[i],d',e',o',λ_=>⟨g2,dt c9,f6,hc⟩⟩
  .exact⟨q,SN,Sl.nil,Sl.nil,Sl.nil,λh=>by simp at h;omega⟩
 refine⟨q,rfl,s,hb.at0 (r:=[]) c7 rfl,IN ⟨q,λ_=>rfl,s,λ_=>hb.at0 (r:=[]) c7 rfl,ad,λh=>⟨(b0 h).1,oM,by simpa using h⟩,y.Y,y.v.ma,y.v.mi,y.v.pa,dy,ey,oy,λh=>(b0 h).2.2.2 w7 c7,x.Y,x.v.ma,x.v.mi,x.v.pa,d,e,o,λ_=>ha.at0 (r:=[]) f3 rfl,IS.named λJ hJ=>?_⟩⟩;have key:∀t w8,AI w7 w8->(decide ((i:Int)<(s.len:Int))=true->t=Cl y x)->J t w8:=λt w8 x8 ht=>by
  subst hJ;have a5:=c7.Z x8;refine⟨λh=>?_,λh=>?_⟩
  .simp only[dz]at h;obtain⟨k1,k2,_,_⟩:=b0 h.1;have c6:i<L.length:=by have:=h.1;simp at this;omega
   refine hn c6 _ ⟨d4.Z x8,λz hz=>?_⟩;rw[dw c6]at hz;obtain hz|hz:=fp.1 hz
   .exact hI z hz
   .simp at hz;subst hz;rw[dt c6,eu]at k2;rw[k2,<-ht h.1];exact h.2
  .have f8:∀z,L[i]?=some z->Cl z x=false:=λz hz=>by have c6:=(fh.1 hz).1;have d2:decide ((i:Int)<(s.len:Int))=true:=(by simp;omega);obtain⟨_,k2,_,_⟩:=b0 d2;rw[hz,eu]at k2;rw[k2,<-ht d2];rw[d2]at h;simpa using h
   obtain⟨g3,g4⟩:=Zlp (p:=(Cl · x)) (l:=L) (i:=i) hi hI f8;have e6:Er x L=L.take i++x::L.drop i:=by unfold Er;rw[g3,g4]
   have e8:=hs.U a5;have h1:=hs.2.1;have c1:=e8.cut (a:=0) (b:=i) (ib _) hi;have c2:=e8.cut (a:=i) (b:=L.length) hi nR;rw[ju]at c1;rw[eh]at c2;have b7:(L.take i).length=i:=(by rw[fg];omega);have e9:(L.drop i).length=L.length - i:=gh;have e5:Old S w8:=hC.tm.U a5.size;refine⟨q,rfl,s,hb.at0 (r:=[]) a5 rfl,⟨oM,oM⟩,?_⟩;refine(OF.zero (E:=wu) (T:=59) w8).yx PP nR c1 e5 (λad h=>by cases h) (by rw[c4,b7];unfold Ab;simp;omega) (by rw[b7,Ao];simp;omega) λr1 w9 b8 d6 _ h3=>?_;rw[ip]at b8;have x9:AI w8 w9:=d6;refine⟨_,_,_,_,_,_,_,ha.at0 (r:=[]) (f3.Z (x8.Z x9)) rfl,An.intro λh4 g5 d3 e4 h5 _=>?_⟩;have c3:=x9.Z d3;have s9:=x9.size;have i3:=d3.size;have a8:=a5.Z c3;have i2:=a5.size;have d9:Old S2 g5:=c5.U a8.size;have f9:∀ad,r1.a=some ad->w8.heap.size<=ad.block:=λad h=>(b8.block h).1;refine(b8.U d3).push (x:=x) (S':=S2) PP c3.size ⟨hN,d,e,o,rfl,hd.U a8,he.U a8,ho.U a8⟩ e4.sh d9 (λad a4 hb=>by have:=f9 ad a4;have:=c5 _ hb;omega) (by rw[c4,b7];unfold Ab;omega) (by rw[b7,Ao];omega) λr2 g6 d1 d7 _ _=>?_;have a0:AI w8 g6:=c3.W d7;have f1:=a5.Z a0;refine⟨q,rfl,s,hb.at0 (r:=[]) f1 rfl,⟨oM,oM⟩,?_⟩;have g0:∀ad,r2.a=some ad->w8.heap.size<=ad.block:=λad h=>(d1.block h).1;have l2:(L.take i++[x]).length=i+1:=(by rw[du,b7];rfl);rw[hl];refine d1.yx PP a0.size (c2.U a0) (e5.U a0.size) (λad a4 hb=>by have:=g0 ad a4;have:=hC.tm _ hb;omega) (by rw[c4,l2,e9];unfold Ab;omega) (by rw[l2,e9,Ao];omega) λr3 g7 a6 d8 _ _=>?_;have f5:AI w8 g7:=a0.W d8;have b9:=a5.Z f5;have e3:(L.take i++[x])++L.drop i=Er x L:=(by rw[e6];simp);rw[e3]at a6;have c8:(Er x L).length=L.length+1:=(by rw[(R4 x L).length_eq];simp);refine⟨q,rfl,tk.intro (hb.U b9) sI λf0 d5 h2 e2=>?_⟩;have e7:∀b,(((se b\/S b)\/S2 b)\/S b)\/(∃ad,r3.a=some ad/\b=ad.block)->(S b\/S2 b)\/(w.heap.size<=b/\b<f0.heap.size):=λb hb=>by
    rcases hb with(((hb|hb)|hb)|hb)|⟨ad,a4,rfl⟩
    .exact hb.F
    .exact .inl (.inl hb)
    .exact .inl (.inr hb)
    .exact .inl (.inl hb)
    .have:=a6.block a4;exact .inr ⟨oM,oM⟩
   have g1:=a6.A (by rw[c4,c8];unfold Ab;omega) (by rw[c8,Ao];omega);refine hR f0 ((b9.tz _).Z d5) ⟨⟨r3,e2,(g1.tz d5 λhb=>?_).O e7⟩,λhb=>?_,λb hb=>?_,b2⟩
   .rcases hb with(((hb|hb)|hb)|hb)|⟨ad,a4,hb⟩
    .exact hb.F
    .exact hC.free hb
    .exact hq hb
    .exact hC.free hb
    .have:=a6.block a4;omega
   .rcases hb with(hb|hb)|hb
    .exact hC.free hb
    .exact hq hb
    .omega
   .have:=b9.size;rcases hb with(hb|hb)|hb
    .have:=hC.tm b hb;omega
    .have:=c5 b hb;omega
    .exact hb.2
 refine⟨λhg=>KZ.V (Zh9 (a:=y) (b:=x) (b0 hg).2.2.1 λw8 x8=>⟨_,rfl,key _ _ x8 λ_=>rfl⟩),λhg=>key _ _ xR λh=>by rw[hg]at h;cases h⟩
def cW(a b:xr):Int:=A8 a.Y b.Y
def GA(tc:Int)(sd:Θ)(d:um):xr:=⟨d.Y,tc,Ep sd d.Y d.range⟩
def Yc{l:Ρ}(h:No Pw w S s l)(hn:n<l.length):
  ∃ad t,s.a=some ad/\S ad.block/\Ad l[n].Y/\No uo w S t l[n].range/\∀w',AI w w'->sh w' (ad.add (n*3)) [.string l[n].Y,.int .i64 l[n].tc,t.v]:=by
 obtain⟨ad,cs,h1,h2,⟨h0,t,rfl,h5⟩,h4⟩:=h.el hn;exact⟨ad,t,h1,h2,h0,h5,h4⟩
def YQ:Bk prog 125 134 3 48:=CL (z:=.agg #[.string ⟨#[]⟩,vi 0,.slice none 0 0]) kR kR rfl dC
def Su{α:Type}{c:α->α->Int}(l:List α):(Bw c l).length=l.length:=(G7 l).length_eq
def FP(sd a b:Θ):Ρ:=Bw cW (a.map (GA 1 sd)++b.map (GA 2 sd))
def EV(m:vz)(uw:Bool):Θ:=if uw then m.ss++m.uw else m.ss
def SJ{mD dR:Sl}{dN:Pr}{sd:Θ}{dr:Κ}(hS:Old S w)(hO:No ru w S ã sd)(hd:No uo w S dR dr)
  (hR:∀t w',AI w w'->zu uo w' (λb=>w.heap.size<=b/\b<w'.heap.size) t (Ep sd dN dr)->R t w'):HL mD yj yn ã dN dR w R:=by
 refine An.intro λa w1 x1 ha _ _=>An.intro λa1 w2 x2 a8 _ _=>?_;have b0:=x1.Z x2;have hl:=hO.len;refine⟨ã,ha.at1 x2 rfl,Of.up hO.max (λi w'=>AI w2 w'/\∀k<i,∀e:um,sd[k]?=some e-> ¬e.Y=dN) ⟨AI.refl _,λk hk=>by omega⟩ λi w3 c4 hi ⟨x3,hI⟩ hn=>⟨λb4=>?_,λb9=>?_⟩⟩
 .have a4:i<sd.length:=oM;have a0:=b0.Z x3;obtain⟨ad,t,b7,_,c3,hr,hc⟩:=BF hO a4;refine⟨ad,⟨b7,oM,b4⟩,_,t,hc _ a0,An.intro λa5 w4 x4 b2 b8 _=>tk.intro b2 sI λw5 b5 _ a9=>⟨_,a9.sh.pre rfl,dN,(a8.U x3).at0 (b5.U x4 oM) rfl,λhe=>?_,λb6=>?_⟩⟩
  .have a7:AI w3 w5:=b5.U x4 oM;have a6:=a0.Z a7;refine⟨t,a9.at1 (k:=1) xR rfl,H9.V (Qk (hS.U a6.size) (hr.U a6) λu w6 x6 hu=>⟨_,rfl,?_⟩)⟩;refine hR _ _ (a6.Z x6) ?_;rw[Zgr (dt a4) he hI];have:=a6.size;exact hu.O λb hb=>⟨oM,hb.2⟩
  .have a7:AI w3 w5:=b5.U x4 oM;refine hn a4 _ ⟨x3.Z a7,λk hk e he=>?_⟩;obtain h|rfl:=im.1 hk
   .exact hI k h e he
   .rw[dt a4,eu]at he;subst he;exact b6
 .have a0:=b0.Z x3;refine⟨dR,(a8.U x3).at1 (k:=1) xR rfl,H9.V (Qk (hS.U a0.size) (hd.U a0) λu w6 x6 hu=>⟨_,rfl,?_⟩)⟩;refine hR _ _ (a0.Z x6) ?_;rw[Zgs λk e he=>hI k (by have:=(fh.1 he).1;omega) e he];have:=a0.size;exact hu.O λb hb=>⟨oM,hb.2⟩
def zu.Xa1{α:Type}{E:xn α}{l:List α}{k:Nat}(h:zu E w S s l):zu E w S (Sl.mk (if(s.len:Int).toNat=0 then s.a else s.a.map (·.add (0*k))) ((s.len:Int).toNat - 0) ((s.len:Int).toNat - 0)) l:=by
 have ea:(if(s.len:Int).toNat=0 then s.a else s.a.map (·.add (0*k)))=s.a:=by
  split
  .rfl
  .rw[mq];cases s.a<;>rfl
 rw[ea];obtain⟨⟨h1,h2,h3,h4,h5⟩,h6⟩:=h;exact⟨⟨by simp[h1],by simp[h1],by simp[h1];omega,h4,h5⟩,h6⟩
def TW(h:s.len<=s.cap):(0:Int)<=0/\0<=(s.len:Int)/\(s.len:Int)<=(s.len:Int)/\(s.len:Int)<=(s.cap:Int):=⟨oM,oM,oM,oM⟩
def Į{pN:Pr}{v1 v2 v3:Int}{pD pP pO mD:Sl}{sd ta:Θ}(hS:Old S w)(hO:No ru w S ã sd)(hp:No ru w S pP ta)
  (hR:∀t w',AI w w'->zu Ô w' (λb=>w.heap.size<=b/\b<w'.heap.size) t (BI sd ta)->R t w'):Nw pN v1 v2 v3 pD pP pO mD yj yn ã w R:=by
 refine An.intro λa w1 x1 ha _ _=>An.intro λa1 w2 x2 c4 _ _=>?_;have b0:=x1.Z x2;have hl:=hp.len;have h4:=hp.2.2.2.1;have b4:ru.bytes=40:=rfl;have b6:Ô.bytes=40:=rfl;refine⟨pP,ha.at1 x2 rfl,th.up hp.max (λsw i w'=>AI w2 w'/\∃Q,OF Ô 187 w' w2.heap.size Q sw (BI sd (ta.take i))/\∀b,Q b->w2.heap.size<=b) ⟨AI.refl _,_,OF.zero _,λ_ h=>h.F⟩ λsw i w3 d5 hi ⟨x3,Q,uy,hQ⟩ hn=>⟨λc7=>?_,λd4=>?_⟩⟩
 .have a0:i<ta.length:=oM;have c3:=b0.Z x3;obtain⟨ad,t,c9,_,c8,hr,hc⟩:=BF hp a0;refine⟨ad,⟨c9,oM,c7⟩,_,t,hc _ c3,An.intro λa5 w4 x4 c5 d2 _=>tk.intro c5 sI λw5 b5 _ b7=>sf.drew λw6 x6=>?_⟩;have d1:AI w3 w5:=b5.U x4 oM;have a6:=d1.Z x6;have a4:=c3.Z a6;refine⟨_,b7.at0 x6 rfl,mD,yj,yn,ã,(c4.U x3).at0 (r:=[]) a6 rfl,_,t,b7.at0 (r:=[]) x6 rfl,tf.intro (HL.V (SJ (hS.U a4.size) (hO.U a4) (hr.U a4) λu w7 x7 hu=>⟨x7,_,rfl,An.intro λa7 w8 x8 c6 d3 _=>?_⟩))⟩;have b2:=a6.Z (x7.Z x8);have s6:=a4.size;have d6:=a6.size;have s3:=x3.size;have s8:=x8.size;have s7:=x7.size;have d0:=(hu.U x8).O (S':=λb=>w6.heap.size<=b/\b<w8.heap.size) λb hb=>⟨hb.1,oM⟩;have a8:(BI sd (ta.take i)).length=i:=by simp[BI];omega
  refine(uy.U b2).push JU (x3.Z b2).size (x:=⟨ta[i].Y,Ep sd ta[i].Y ta[i].range⟩) (S':=λb=>w6.heap.size<=b/\b<w8.heap.size) ⟨c8,u,rfl,d0⟩ c6.sh (λb hb=>hb.2) (λad ha hb=>?_) (by rw[a8];rw[b4]at h4;rw[b6];omega) (by rw[a8];have:=hp.max;omega) λr w9 b9 vh _ _=>hn a0 _ _ ⟨(x3.Z b2).W vh,λb=>Q b\/(w6.heap.size<=b/\b<w8.heap.size),?_,λb hb=>?_⟩
  .have:=(uy.block ha).2.1;omega
  .have e:BI sd (ta.take (i+1))=BI sd (ta.take i)++[⟨ta[i].Y,Ep sd ta[i].Y ta[i].range⟩]:=(by unfold BI;rw[dw a0,gb];rfl);rwa [e]
  .obtain hb|hb:=hb
   .exact hQ b hb
   .omega
 .have:i=ta.length:=oM;rw[this,eh]at uy;have b8:(BI sd ta).length=ta.length:=by simp[BI]
  have a9:=uy.Xbg (by rw[b8,b6];rw[b4]at h4;exact h4) (by rw[b8];exact hp.max);refine RW.V ⟨TW (by have:=a9.1.1;have:=a9.1.2.1;omega),_,rfl,hR _ _ (b0.Z x3) (a9.Xa1.O λb hb=>?_)⟩;have:=b0.size;rcases hb with hb|⟨ad,ha,rfl⟩
  .have:=hQ b hb;have:=uy.lt b hb;exact⟨oM,oM⟩
  .have:=uy.block ha;exact⟨oM,this.2.1⟩
structure yb where
 Y:Pr
 tc:Int
 range:Sl
namespace StW
def cells(x:yb):LV:=[.string x.Y,vi x.tc,x.range.v]
def Q0:StG.Sh yb:=⟨_,_,_,Fl,yb.Y,yb.tc,yb.range,λ_ _ _=>rfl⟩
def G0:StG.Gos Q0:=⟨386,387,409,421,361,λ_ _ _ _ _ _ h=>RZ.V h,λ_ _ _ _ _ _ _ h=>Si.V h,λ_ _ _ _ _ _ _ h=>Sb.V h,λ_ _ _ _ _ _ _ h=>Sf.V h,λ_ _ _ _ _ h=>Sd.V h⟩
def Ý(cmp:HT)(c:yb->yb->Int)(g:Nat)(w0:PU):Prop:=
 ∀(x y:yb)(w:PU)(k:Ë),uv g w0 w->(∀w',AI w w'->k (vi (c x y)) w')->un prog cmp [.agg (cells x).toArray,.agg (cells y).toArray] w k
def xo{cmp:HT}{c:yb->yb->Int}{g:Nat}(hO:wg c){data:Sl}{tail:LV}{R:Wp}{l:List yb}(hd:data.a=some ⟨g,0,none⟩)(a0:data.len<2305843009213693952)(hc:Ý cmp c g w)(a4:data.len=l.length)(hB:tv cells w g l tail)
  (hR:∀w',uv g w w'->tv cells w' g (Bw c l) tail->R w'):J9 data cmp w R:=StG.xo (Q0:=Q0) G0 hO hd a0 hc a4 hB hR
def wy{cmp:HT}{data:Sl}{R:Wp}(h0:data.len=0)(hR:R w):J9 data cmp w R:=StG.wy (Q0:=Q0) G0 h0 hR
end StW
end Go.Hal
namespace Go.Hal
def Rm{x:su}(h:AJ x=true):Ae x.Y=true/\x.v.vt=true/\Au x.ss=true/\Au x.ta=true/\Au x.uq=true:=by unfold AJ CA at h;simp only[dz]at h;exact⟨h.1.1.1.1.1,h.1.1.1.1.2,h.1.1.1.2,h.1.1.2,h.1.2⟩
def Zg8(sd l:Θ):(BI sd l).map (·.Y)=l.map (·.Y):=by unfold BI;rw[jh];rfl
def Uf(hg:zf L){sd:Θ}{env:Η}{p:tn}{sw:Η}(h:ö (AR L) sd env p i sw):sw.length<=2048:=by
 have h1:=LJ (m:=L.flatMap λx=>x.ta.map (·.Y)) h.zq λn hn=>by
  obtain⟨r,hr,rfl⟩:=ij.1 hn;have key:∀r,Reach (AR L) sd env p r->r.Y∈L.flatMap λx=>x.ta.map (·.Y):=λr hr=>by
   have ask:∀q r,HP (AR L) sd env q r->r.Y∈L.flatMap λx=>x.ta.map (·.Y):=λq r ⟨x,d,hx,hd,hn,_⟩=>(by refine List.mem_flatMap.2 ⟨x,(KF hx).1,?_⟩;rw[<-Zg8 sd,hn];exact ja hd);cases hr with
   |one ha=>exact ask _ _ ha
   |more _ ha=>exact ask _ _ ha
  exact key r (h.reach r hr)
 have h2:∀L:Ι,(∀x∈L,AJ x=true)->(L.flatMap λx=>x.ta.map (·.Y)).length<=16*L.length:=λL=>by
  induction L with
  |nil=>intro _;simp
  |cons x r ih=>intro h;have:=ih λy hy=>h y (.tail _ hy);have:=(B5 (Rm (h x (.head _))).2.2.2.1).1;simp only[List.flatMap_cons,du,ec,fu];omega
 have h3:=h2 L hg.vt;have:=hg.le;rw[ec]at h1;omega
def AW(p:tn):LV:=[.string p.Y,vi p.v.ma,vi p.v.mi,vi p.v.pa]
def yl(s t:Sl):Prop:=∀ad ad',s.a=some ad->t.a=some ad'->ad.block≠ad'.block
def OF.Xb8{α β:Type}{E:xn α}{F:xn β}{P:LD}{e e2:LN}{s2:Sl}{l:List α}{l2:List β}{x:α}{a:LP}{k:Sl->Wp}(h:OF E e w lo se s l)(h2:OF F e2 w lo se s2 l2)(hA:yl s s2)(a7:lo<=w.heap.size)(hT:Bk P t e E.n E.bytes)
  (hx:E.rep w se x cs) (hc:sh w a cs) (hb:(l.length+1)*E.bytes<=Ab) (hm:l.length+1<=maxLen) (hk:∀r w',OF E e w' lo se r (l++[x])->OF F e2 w' lo se s2 l2->yl r s2->Below lo w w'->(∀b,b<w.heap.size->(∀ad,s.a=some ad->b≠ad.block)->w'.heap[b]?=w.heap[b]?)->(∀ad,r.a=some ad->(s.a=some ad\/w.heap.size<=ad.block))->k r w'):uc P t t s (Sl.v ⟨some a,1,1⟩) w k:=by
 refine h.push hT a7 hx hc (λ_ h=>h.F) (λ_ _ h=>h.F) hb hm λr w' uy vh yo a4=>hk r w' (uy.O (λ_ h=>h.F id id) (λ_ h=>h.F) (λ_ _ h=>h.F)) (h2.sj vh.size λb a6 a0=>?_) (λad a5 h3 h4=>?_) vh yo a4
 .rcases a0 with a0|⟨ad,ha,rfl⟩
  .exact a0.F
  .exact yo _ a6 λa5 h'=>Ne.H (hA _ _ h' ha)
 .obtain h5|h5:=a4 ad h3
  .exact hA _ _ h5 h4
  .have:=(h2.block h4).2.1;omega
def yl.swap{t:Sl}(h:yl s t):yl t s:=λa b h1 h2=>Ne.H (h b a h2 h1)
def An.uy{α:Type}{E:xn α}{x:α}{k:Ì}(hx:E.rep w se x cs)(h:∀a w',AI w w'->OF E t w' w.heap.size se ⟨some a,1,1⟩ [x]->a.block=w.heap.size->k a w'):An w cs t k:=λa w' ha hw=>by
 subst ha hw;have hl:=E.len hx;refine h _ _ (AI.alloc _ _) ⟨⟨[cs],⟨by simp[hl],.inr ⟨w.heap.size,1,cs.toArray,rfl,fx _,heap_alloc_new w _,fx _,by rw[Ao];omega,by simp[hl],?_⟩⟩,rfl,λi y hy=>?_⟩,rfl,λ_ h=>h.F,λ_ _ h=>h.F⟩ rfl
 .simp[hl,ia (Nat.le_of_eq hl)]
 .cases i with
  |zero=>simp only[jk,eu]at hy;subst hy;exact⟨cs,rfl,E.sj hx ((AI.alloc w _).sj _)⟩
  |succ i=>simp at hy
def JV:Bk prog 53 150 4 40:=CL (z:=.agg #[.string ⟨#[]⟩,vi 0,vi 0,vi 0]) kR kR rfl dC
def ZL{q:tn}{n:Pr}{c0:LP}{R:É}(hc:AT w c0 [.string n])(hR:∀w',AI w w'->R (Az n q) w'):Ns q.Y q.v.ma q.v.mi q.v.pa c0 w R:=by
 refine An.intro λa w1 x1 hb _ _=>⟨_,hb.at0 xR rfl,n,hc.at0 (r:=[]) x1 rfl,?_⟩;have e:Ag q.Y n=Az n q:=by unfold Az;rw[gp,AG,fk]
 rw[e];exact hR _ x1
def Zb2:Bm prog 200:=enters_of func200 kR rfl
def ű{n:Pr}{R:Ë}(hR:∀f w',AI w w'->(∀l:Η,Fs f (λx=>.agg #[.string x.Y,vi x.v.ma,vi x.v.mi,vi x.v.pa]) (Az n) l w')->R f w'):JJ n w R:=by refine An.intro λa w1 x1 hb _ _=>hR _ w1 x1 λl x _ w' k hx hk=>⟨_,_,rfl,Zb2,Ns.V (ZL (q:=x) (n:=n) (hb.U hx) hk)⟩
def ZM{a b:tn}{R:È}(hR:∀w',Gr w w'->R (A8 a.Y b.Y) w'):Nt a.Y a.v.ma a.v.mi a.v.pa b.Y b.v.ma b.v.mi b.v.pa w R:=by refine An.gr λ_ w1 x1 hb=>An.gr λ_ w2 x2 a0=>⟨_,Gr.at0 hb x2 rfl,_,Gr.at0 a0 (Gr.refl _) rfl,Fd ⟨_,rfl,hR _ (x1.Z x2)⟩⟩
def Zbl:Bm prog 202:=enters_of func202 kR rfl
def QT:∀w,(isAgg 150).run prog w= .ok true w:=λw=>by kernel_rfl
def RT:∀w,(Go.sizeOf 150).run prog w= .ok 4 w:=λw=>by kernel_rfl
def Zko{K:Ë}(h:tq AW 40 w lo s l)(a4:lo<=w.heap.size)(hn:(l.map (·.Y)).Nodup)
  (hK:∀w',Below lo w w'->tq AW 40 w' lo s (B9 l)->K (.tuple #[]) w'):
  sx prog 120 [s.v,.func (.func 202) #[] #[]] w K:=by
 obtain⟨h1,h2,h3,h4,h5⟩:=h;obtain⟨a,n,c⟩:=s;simp only at h1 h2 h3 h5;subst h1;rcases h5 with rfl|⟨g,tail,ha,hg,hr⟩
 .refine(AnyF.slices_SortFunc_none Tryz.Ķ a c _ w).O λe w' ⟨he,hw⟩=>⟨_,he,?_⟩;subst hw;exact hK _ (Below.refl _ _) ⟨rfl,h2,h3,h4,.inl rfl⟩
 .subst ha;have hO:=DJ (α:=tn) (·.Y);refine FH Tryz.Ķ (k:=4) QT RT (f:=AW) (λ_=>rfl) (λx v hv=>by simp[AW]at hv;rcases hv with rfl|rfl|rfl|rfl<;>rfl) (λa b=>A8 a.Y b.Y) (Fe hO.flip hO.Z) 202 #[] Zbl (λw0 x y hb _=>?_) hr (by unfold Ab at h4;omega) rfl λl' w' hp hs b a5=>?_
  .have h:=Nt.V (k:=λv w'=>v= .int .i64 (A8 x.Y y.Y)/\Gr w0 w') (ZM (a:=x) (b:=y) (w:=w0) λw' h=>⟨rfl,h⟩);exact Calls.O h λe w' ⟨v,he,hv,hg⟩=>⟨by rw[he,hv],hg⟩
  .have e:l'=B9 l:=by refine þ.one ?_ (Sm hn) (hp.Z (Fa l).H);have a0:(l'.map (·.Y)).Nodup:=(hp.map _).nodup_iff.2 hn;rw[il,jb]at a0;exact(hs.and a0).imp λ{a b} h=>JW (by have:=hO.flip b a;have:=hO.flip a b;omega) h.2
   subst e;have hl:=(Fa l).length_eq;exact hK w' (b.below a4 hg) ⟨hl.H,by rwa [hl],h3,by rwa [hl],.inr ⟨g,tail,rfl,hg,a5⟩⟩
def CE(h:No vb w S s l)(hn:n<l.length):
  ∃ad,s.a=some ad/\S ad.block/\Ad l[n].Y/\∀w',AI w w'->sh w' (ad.add (n*4)) (AW l[n]):=by
 obtain⟨ad,cs,h1,h2,⟨rfl,h3⟩,h4⟩:=h.el hn;exact⟨ad,h1,h2,h3,h4⟩
def OF.el{α:Type}{E:xn α}{T:LN}{l:List α}(h:OF E T w lo S s l){x:α}(hx:l[i]?=some x):∃ad cs,s.a=some ad/\E.rep w S x cs/\∀w',AI w w'->sh w' (ad.add (i*E.n)) cs:=by
 obtain⟨css,ho,hl,hr⟩:=h.row;obtain⟨cs,h1,h2⟩:=hr i x hx;rcases ho.2 with⟨hv,hn⟩|⟨g,cap,a7,hv,hg,hh,hc,a8,a4,ht⟩
 .have:=(fh.1 hx).1;have:=h.len;omega
 .simp[Sl.v]at hv;refine⟨⟨g,0,none⟩,cs,hv.1,h2,λw' a5=>?_⟩;have a0:∀cs∈css,cs.length=E.n:=by intro cs a4;obtain⟨k,hk,he⟩:=gc.1 a4;obtain⟨a6,h3,h4⟩:=hr k _ (dt oM);rw[dt hk,he,eu]at h3;rw[h3];exact E.len h4
  have:sh w ((⟨g,0,none⟩:LP).add (i*E.n)) cs:=λj v hj=>by rw[Dg];exact ho.cells (g:=g) (by simp[Value.ownBlock,Sl.v,hv.1]) _ _ (On a0 h1 hj)
  exact this.U a5
def Zlt{env:Η}{n:Pr}:(AV (Az n) env<0/\vc env n=none)\/∃k,∃hk:k<env.length,AV (Az n) env=(k:Int)/\vc env n=some env[k].v/\env[k].Y=n:=by
 unfold AV vc;cases hf:env.findIdx? (Az n)with
 |none=>left;refine⟨by decide,?_⟩;rw[Option.map_eq_none_iff,lx];intro x hx;have:=nv.1 hf x hx;simp[this]
 |some k=>
  right;obtain⟨hk,hp,hb⟩:=mo.1 hf;refine⟨k,hk,rfl,?_,by simpa[Az]using hp⟩;have h0:(env.take k).find? (Az n)=none:=by rw[lx];intro x hx;obtain⟨j,hj,rfl⟩:=gc.1 hx;rw[fg]at hj;rw[jw];exact hb j oM
  have h1:(env.take (k+1)).find? (Az n)=some env[k]:=by rw[dw hk,List.find?_append,h0];simp[List.find?_cons,hp]
  have h2:env.find? (Az n)=some env[k]:=by have e:env.find? (Az n)=(env.take (k+1)++env.drop (k+1)).find? (Az n):=(by rw[ga]);rw[e,List.find?_append,h1];rfl
  rw[h2];rfl
def Dj(L:Ι)(sd:Θ)(env:Η)(p:tn):Option (Η):=vd (AR L) sd env p
def Kp(lo c d:Nat)(w w':PU):Prop:=Below lo w w'/\∀b,c<=b->b<d->w'.heap[b]?=w.heap[b]?
def Kp.refl(lo c d:Nat)(w:PU):Kp lo c d w w:=⟨Below.refl _ _,λ_ _ _=>rfl⟩
def Kp.Z{c d:Nat}{u v:PU}(h:Kp lo c d u v)(k:Kp lo c d v w):Kp lo c d u w:=⟨Below.Z h.1 k.1,λb h1 h2=>(k.2 b h1 h2).Z (h.2 b h1 h2)⟩
def Kp.U{c d:Nat}{u v:PU}(h:Kp lo c d u v)(hx:AI v w)(h1:lo<=v.heap.size)(h2:d<=v.heap.size):Kp lo c d u w:=h.Z ⟨Below.O hx h1,λb _ h3=>hx.block oM⟩
def Zm8{S2:Nat->Prop}{mD envS:Sl}{sd:Θ}{env:Η}{pn:tn}{S3:Nat->Prop}{R:Sl->É}
  (hC:zk w S p r L) (o5:Old S2 w) (v8:Old S3 w) (hO:No ru w S2 ã sd) (hE:No vb w S3 envS env) (j7:Ad pn.Y)
  (g7:∀a t w',Dj L sd env pn=some a->AI w w'->tq AW 40 w' w.heap.size t a->(∀q∈a,Ad q.Y)->R t true w') (c5:∀w',Dj L sd env pn=none->AI w w'->R Sl.nil false w'):
  Nr (some p) mD yj yn ã envS pn.Y pn.v.ma pn.v.mi pn.v.pa w R:=by
 unfold Nr;have d5:=hC.Ģ;refine An.intro λa w1 x1 ha _ _=>An.intro λa1 w2 x2 o9 _ _=>⟨nO,λ_=>?_⟩;have l9:=x1.Z x2;have f5:vb.bytes=40:=rfl;have v7:=hE.len;have r9:=l9.size;have a0:∀w',Below w2.heap.size w2 w'->AI w w':=λw' hb=>l9.W (Below.O hb r9);have h8:=ha.U x2;refine⟨_,_,_,_,o9.sh.pre (r:=[]) rfl,An.uy (E:=vb) (x:=pn) ⟨rfl,j7⟩ λa3 w4 x4 k6 v2=>?_⟩;refine ß.zj (λn all d9 i w'=>∃(sw:Η) (k:Nat),i=(k:Int)/\n=env.length+2 - k/\ö (AR L) sd env pn k sw/\Cy (AR L) sd env pn (env.length+2 - k) k sw=Cy (AR L) sd env pn (env.length+2) 0 []/\(∀q∈pn::sw,Ad q.Y)/\
   Below w2.heap.size w2 w'/\OF vb 150 w' w2.heap.size se all (pn::sw)/\OF vb 150 w' w2.heap.size se d9 sw/\yl d9 all) (env.length+2)
  ⟨[],0,rfl,rfl,ö.zero,rfl,by simpa using j7,x4,k6,(OF.nil _ _).O (λ_ h=>h) (λ_ h=>h.F) (λ_ h=>by cases h),λ_ _ h=>by cases h⟩ λn all d9 i w5 y5 hJ hn=>?_
 obtain⟨sw,k,rfl,rfl,hI,c4,d0,b5,oA,oC,n8⟩:=hJ;have n7:=oA.len;have v6:=oC.len;have y0:=hI.le;have u0:=hI.len;have w0:=Uf d5 hI;have s5:=b5.size;refine⟨λy1=>join.named λJ hJ=>?_,λx3=>?_⟩
 .have hk:k<(pn::sw).length:=oM;have x5:k<sw.length+1:=hk;have d6:(pn::sw)[k]?=some (pn::sw)[k]:=dt hk;have y4:Ad (pn::sw)[k].Y:=d0 _ (fe hk);generalize hq:(pn::sw)[k]=q at*;have hf:env.length+2 - k=(env.length+1 - k)+1:=oM;have kJ:∀a6 w6 d e o,AI w5 w6->AT w6 a6 [.string (getD L q.Y q.v).Y,.int .i64 (getD L q.Y q.v).v.ma,.int .i64 (getD L q.Y q.v).v.mi,.int .i64 (getD L q.Y q.v).v.pa,Sl.v d,Sl.v e,Sl.v o]->
    No ru w6 (λb=>b<w6.heap.size) e (getD L q.Y q.v).ta->J a6 (AR L q.Y q.v).isSome w6:=λa6 w6 d e o x6 i4 he=>by
   subst hJ;have b6:Below w2.heap.size w2 w6:=Below.Z b5 (Below.O x6 s5);have s6:=b6.size;have y6:=x6.size;refine⟨λh=>?_,λh=>?_⟩
   .refine c5 w6 ?_ (a0 _ b6);have hg:AR L q.Y q.v=none:=by
     cases hg:AR L q.Y q.v with
     |none=>rfl
     |some y=>rw[hg]at h;simp at h
    rw[hf,ZR d6 hg]at c4;unfold Dj vd;rw[<-c4];rfl
   .obtain⟨y,hg⟩:∃y,AR L q.Y q.v=some y:=by
     cases hg:AR L q.Y q.v with
     |none=>rw[hg]at h;simp at h
     |some y=>exact⟨y,rfl⟩
    have hD:getD L q.Y q.v=y:=(by unfold getD;rw[hg];rfl);rw[hD]at i4 he;have r4:=(KF hg).1;have p5:=B5 (Rm (d5.vt y r4)).2.2.2.1;refine⟨_,_,_,_,_,_,_,i4.sh.pre (r:=[]) rfl,mD,yj,yn,ã,(h8.below b6 h8.lt).sh.pre (r:=[]) rfl,?_⟩;have f9:Old (λb=>b<w6.heap.size) w6:=λb hb=>hb;have o4:No ru w6 (λb=>b<w6.heap.size) ã sd:=(hO.U (a0 _ b6)).O λb hb=>jo (o5 b hb) (a0 _ b6).size;refine Nw.V (Į f9 o4 he λt w7 x7 ht=>⟨_,rfl,?_⟩);have b7:Below w2.heap.size w2 w7:=Below.Z b6 (Below.O x7 s6);have s7:=x7.size;have hT:=ht.dep;have v9:=hT.len;have y3:(BI sd y.ta).length<=16:=(by unfold BI;rw[ec];exact p5.1);have g4:∀c7,B4 env (BI sd y.ta) sw=some c7->ö (AR L) sd env pn (k+1) c7/\Cy (AR L) sd env pn (env.length+2 - (k+1)) (k+1) c7=Cy (AR L) sd env pn (env.length+2) 0 []:=λc7 hs=>by refine⟨hI.next d6 hg hs,?_⟩;rw[<-c4,hf,ZQ d6 hg hs,show env.length+2 - (k+1)=env.length+1 - k by omega]
    have d4:B4 env (BI sd y.ta) sw=none->Dj L sd env pn=none:=λhs=>(by rw[hf,ZP d6 hg hs]at c4;unfold Dj vd;rw[<-c4];rfl);generalize hP:BI sd y.ta=P at*;have r7:=oA.U (x6.Z x7);have r8:=oC.U (x6.Z x7);refine ß.zj (λn2 c6 a9 j w'=>∃(o2:Η) (m:Nat),j=(m:Int)/\n2=P.length - m/\m<=P.length/\B4 env (P.drop m) o2=B4 env P sw/\o2.length<=sw.length+m/\(∀q∈pn::o2,Ad q.Y)/\
     Kp w2.heap.size w6.heap.size w7.heap.size w7 w'/\OF vb 150 w' w2.heap.size se c6 (pn::o2)/\OF vb 150 w' w2.heap.size se a9 o2/\yl a9 c6/\
     (∀ad,c6.a=some ad->ad.block<w6.heap.size\/w7.heap.size<=ad.block)/\∀ad,a9.a=some ad->ad.block<w6.heap.size\/w7.heap.size<=ad.block) P.length
     ⟨sw,0,rfl,rfl,ib _,rfl,oM,d0,Kp.refl _ _ _ _,r7,r8,n8,λad h=>.inl (by have:=(oA.block h).2.1;omega),λad h=>.inl (by have:=(oC.block h).2.1;omega)⟩ λn2 c6 a9 j w8 k0 e0 p7=>?_
    obtain⟨o2,m,rfl,rfl,hm,a4,y2,a7,k8,g9,e3,c9,g5,g6⟩:=e0;have b8:Below w2.heap.size w2 w8:=Below.Z b7 k8.1;have s8:=k8.1.size;have o8:No ru w8 (λb=>w6.heap.size<=b/\b<w7.heap.size) t P:=hT.sj λb hb _=>k8.2 b hb.1 hb.2;refine⟨λj3=>join.named λJ2 e0=>?_,λt8=>?_⟩
    .have e2:m<P.length:=oM;obtain⟨ad,tr,r0,_,p8,q0,p4⟩:=BF o8 e2;have g1:P.drop m=P[m]::P.drop (m+1):=gj e2;generalize x0:P[m]=d1 at*;rw[g1]at a4;have j9:∀a8 b0 o3 w9,B4 env (P.drop (m+1)) o3=B4 env P sw->o3.length<=sw.length+(m+1)->(∀q∈pn::o3,Ad q.Y)->Kp w2.heap.size w6.heap.size w7.heap.size w7 w9->OF vb 150 w9 w2.heap.size se a8 (pn::o3)->OF vb 150 w9 w2.heap.size se b0 o3->yl b0 a8->
       (∀ad,a8.a=some ad->ad.block<w6.heap.size\/w7.heap.size<=ad.block)->(∀ad,b0.a=some ad->ad.block<w6.heap.size\/w7.heap.size<=ad.block)->J2 a8 b0 w9:=λa8 b0 o3 w9 q1 q2 q3 q4 q5 q6 q7 q8 q9=>by
      subst e0;show k0 _ _ _ _;rw[Ai oM oM];exact p7 _ _ _ _ _ oM ⟨o3,m+1,oM,rfl,oM,q1,q2,q3,q4,q5,q6,q7,q8,q9⟩
     clear e0;refine⟨ad,⟨r0,oM,j3⟩,_,tr,p4 _ xR,An.intro λu6 w9 x9 p0 v5 _=>tk.intro p0 sI λs0 n0 _ e6=>⟨_,e6.sh.pre rfl,?_⟩⟩;have m7:AI w8 s0:=n0.U x9 oM;refine JJ.V (ű λf y8 m0 o6=>⟨_,rfl,?_⟩);have e9:=m7.Z m0;have n9:=hE.U (a0 _ b8);refine HD.V (Ċ (p:=Az d1.Y) (n9.U e9) (o6 env) λy9 m1=>⟨_,rfl,sf.drew λk7 m2=>IN ?_⟩);have d7:=e9.Z (m1.Z m2);have h7:Below w2.heap.size w2 k7:=Below.Z b8 (Below.O d7 oM);have e7:=e6.U (m0.Z (m1.Z m2));rcases Zlt (env:=env) (n:=d1.Y)with⟨j4,r3⟩|⟨kk,p6,j0,g8,j1⟩
     .have d3:decide (AV (Az d1.Y) env<0)=true:=(by simpa using j4);rw[d3];refine⟨Sl.nil,nO,⟨0,0,none⟩,nO,0,0,0,nO,nO,λ_=>⟨λ_=>?_,nO⟩⟩;refine c5 k7 (d4 ?_) (a0 _ h7);rw[<-a4];exact ZV r3
     .rw[j0];have d3:decide ((kk:Int)<0)=false:=by simp
      rw[d3];obtain⟨ae,g2,t7,_,g3⟩:=CE hE p6;refine⟨tr,λ_=>e7.at1 (k:=1) xR rfl,ae,λ_=>⟨g2,oM,oM⟩,_,_,_,λ_=>(g3 _ (a0 _ h7)).I (k:=1) (r:=[]) rfl,IS.named λJ3 o0=>⟨λ_=>?_,nO⟩⟩;refine HE.V (Sn (v:=env[kk].v) (q0.U d7) λs2 m3=>⟨_,rfl,?_⟩);have f0:=d7.Z m3;subst o0;refine⟨λh=>?_,λh=>?_⟩
      .have e1:BT d1.range env[kk].v=false:=(by simpa using h);rw[ZU g8 e1]at a4;exact c5 s2 (d4 a4.H) (a0 _ (Below.Z b8 (Below.O f0 oM)))
      .have e1:BT d1.range env[kk].v=true:=(by simpa using h);have j6:(⟨d1.Y,env[kk].v⟩:tn)=env[kk]:=(by rw[<-j1]);have b9:Ad env[kk].Y:=(by rwa [j1]);refine⟨_,e7.at0 (r:=[tr.v]) m3 rfl,JJ.V (ű λf2 s3 t1 o7=>⟨_,rfl,?_⟩)⟩;have d8:=f0.Z t1;have k3:=e3.U d8;have p9:No vb s3 (λb=>True) a9 o2:=((k3.A (by rw[f5];unfold Ab;omega) (by rw[Ao];omega))).O λ_ _=>trivial;refine HB.V (Qm (p:=Az d1.Y) p9 (o7 o2) λk9 m4=>⟨_,rfl,λh2=>?_,λh2=>?_⟩)
       .have d2:o2.any (Az d1.Y)=false:=(by simpa using h2);rw[ZT g8 e1 d2,j6]at a4;have a5:=d8.Z m4;have n1:Below w2.heap.size w2 k9:=Below.Z b8 (Below.O a5 oM);refine⟨ae,⟨g2,oM,oM⟩,_,_,_,_,g3 _ (a0 _ n1),An.intro λu7 s4 t3 i2 _ _=>?_⟩;have b2:=a5.Z t3;have u1:=b2.size;refine OF.Xb8 (x:=env[kk]) (e3.U b2) (g9.U b2) c9 oM JV ⟨rfl,b9⟩ i2.sh (by rw[f5];unfold Ab;omega) (by rw[Ao];omega) λr1 l0 k4 k1 f6 b4 h0 h4=>?_;have u2:=b4.size;have n4:Below w2.heap.size w2 l0:=Below.Z (Below.Z b8 (Below.O b2 oM)) b4;refine⟨ae,⟨g2,oM,oM⟩,_,_,_,_,g3 _ (a0 _ n4),An.intro λu9 s9 e4 i3 _ _=>?_⟩;have u3:=e4.size;refine OF.Xb8 (x:=env[kk]) (k1.U e4) (k4.U e4) f6.swap oM JV ⟨rfl,b9⟩ i3.sh (by rw[f5,fu];unfold Ab;omega) (by rw[Ao,fu];omega) λr2 l5 k2 k5 f7 f3 h3 h5=>?_;have g0:∀q∈pn::(o2++[env[kk]]),Ad q.Y:=λq hq=>by
         obtain rfl|hq:=gn.1 hq
         .exact a7 _ (.head _)
         .obtain hq|hq:=fp.1 hq
          .exact a7 _ (.tail _ hq)
          .simp at hq;subst hq;exact b9
        have r5:Kp w2.heap.size w6.heap.size w7.heap.size s4 l0:=⟨b4,λb h1 h2=>h0 b oM λad c3=>by rintro rfl;rcases g6 ad c3 with h|h<;>omega⟩;have r6:Kp w2.heap.size w6.heap.size w7.heap.size s9 l5:=⟨f3,λb h1 h2=>h3 b oM λad c3=>by rintro rfl;rcases g5 ad c3 with h|h<;>omega⟩;refine j9 r2 r1 (o2++[env[kk]]) l5 a4 (by simp;omega) g0 ((((k8.U b2 oM oM).Z r5).U e4 oM oM).Z r6) k2 k5 f7.swap (λad c3=>?_) (λad c3=>?_)
        .obtain h|h:=h5 ad c3
         .exact g5 ad h
         .right;omega
        .obtain h|h:=h4 ad c3
         .exact g6 ad h
         .right;omega
       .have d2:o2.any (Az d1.Y)=true:=(by simpa using h2);rw[ZW g8 e1 d2]at a4;have a5:=d8.Z m4;exact j9 _ _ o2 k9 a4 oM a7 (k8.U a5 oM oM) (g9.U a5) (e3.U a5) c9 g5 g6
    .have e2:m=P.length:=oM;subst e2;rw[lh,B4]at a4;obtain⟨c1,c2⟩:=g4 o2 a4.H;rw[Ai oM oM];exact hn _ _ _ _ _ oM ⟨o2,k+1,oM,rfl,c1,c2,a7,b8,g9,e3,c9⟩
  clear hJ;refine sf.drew λl6 c8=>?_;obtain⟨aq,v0,h9,⟨i9,_⟩,j2⟩:=oA.el d6;subst i9;have e5:zk l6 S p r L:=(hC.U (a0 _ b5)).U c8;have y7:=c8.size;refine⟨aq,⟨h9,oM,oM⟩,_,(j2 _ c8).pre rfl,aq,⟨h9,oM,oM⟩,_,_,_,(j2 _ c8).I (k:=1) (r:=[]) rfl,?_,?_⟩
  .refine Fz.V (Kc (n:=q.Y) (v:=q.v) e5 λd e o t0 t4 _ _ he _=>⟨_,_,_,_,_,_,_,_,rfl,An.intro λm8 z0 t5 i5 v3 _=>tk.intro i5 sI λl7 n5 _ i6=>?_⟩);have h6:AI t0 l7:=n5.U t5 oM;have u4:=h6.size;exact kJ m8 l7 d e o (c8.Z (t4.Z h6)) i6 ((he.dep.U h6).O λb hb=>by omega)
  .refine An.intro λm9 z1 m5 e8 v4 _=>Fz.V (Kc (n:=q.Y) (v:=q.v) (e5.U m5) λd e o z2 m6 _ _ he _=>⟨_,_,_,_,_,_,_,_,rfl,tk.intro (e8.U m6) sI λl8 f1 _ i7=>?_⟩);have t6:AI l6 l8:=f1.U (m5.Z m6) oM;have u5:=f1.1;have t9:=e8.lt;exact kJ m9 l8 d e o (c8.Z t6) i7 ((he.dep.tz f1 (λhb=>by omega)).O λb hb=>by omega)
 .have x8:k=sw.length+1:=by simp at n7;omega
  have j8:Dj L sd env pn=some (B9 sw):=by have hf:env.length+2 - k=(env.length+1 - k)+1:=oM;have j5:(pn::sw)[k]?=none:=pq.2 (by simp;omega);rw[hf,ZO j5]at c4;unfold Dj vd;rw[<-c4];rfl
  have hF:tq AW 40 w5 w2.heap.size d9 sw:=tq.of (E:=vb) (f:=AW) (bytes:=40) (λx cs h=>h.1) oC (by unfold Ab;omega);refine Zko hF s5 hI.zq λw6 b6 f8=>⟨rfl,?_⟩;refine RX.V ⟨TW (by have:=f8.1;have:=f8.2.1;omega),_,rfl,g7 (B9 sw) _ w6 j8 (a0 _ (Below.Z b5 b6)) ?_ λq hq=>d0 q (.tail _ ((Fa sw).mem_iff.1 hq))⟩;obtain⟨a,b,c,d,e⟩:=f8.Xa1 (k:=4);exact⟨a,b,c,d,e.imp id λ⟨g,tail,a,b,c⟩=>⟨g,tail,a,oM,c⟩⟩
def DX(l:Ι):Ι:=l.foldl (λL x=>(BJ L x).2) []
def Z0(l:Ι)(x:su):DX (l++[x])=(BJ (DX l) x).2:=by unfold DX;rw[List.foldl_append];rfl
def zk.stay(h:zk w S p r L)(a0:w.heap.size<=w'.heap.size)(hk:∀b,b<w.heap.size->(S b\/b=p.block\/b=r)->w'.heap[b]?=w.heap[b]?):zk w' S p r L:=by obtain⟨ps,a,b,c⟩:=h;exact⟨ps,a.stay a0 hk,b,c⟩
def zk.lt(h:zk w S p r L):r<w.heap.size/\p.block<w.heap.size/\(∀b,S b->b<w.heap.size)/\ ¬S r/\ ¬S p.block/\p.block≠r:=by obtain⟨ps,a,_⟩:=h;obtain⟨m,hm,_⟩:=a.map;exact⟨hm.lt,a.box.lt,a.tm,a.free.1,a.free.2,a.ne⟩
structure Xau(w:PU)(lo:Nat)(SA:Nat->Prop)(p:LP)(r:Nat)(q:LP)(L:Ι):Prop where
 cat:∃S,zk w S p r L/\(∀b,S b->lo<=b)/\ ¬S q.block
 ref:∃S,ę w S q L/\(∀b,S b->SA b\/lo<=b)/\ ¬S r
 le:lo<=r/\lo<=p.block/\lo<=q.block
 ne:q.block≠p.block/\q.block≠r
def Xau.U{SA:Nat->Prop}{q:LP}(h:Xau w lo SA p r q L)(hx:AI w w'):Xau w' lo SA p r q L:=by obtain⟨⟨S,a,b,c⟩,⟨T,d,e,f⟩,g,k⟩:=h;exact⟨⟨S,a.U hx,b,c⟩,⟨T,d.U hx,e,f⟩,g,k⟩
def Kb{α:Type}{E:xn α}{a:LP}{x:α}(hb:AT w a cs)(hx:E.rep w S x cs)(hB:E.bytes<=Ab):No E w (λb=>S b\/b=a.block) ⟨some a,1,1⟩ [x]:=
 ⟨rfl,fx _,by show 1<=maxLen;rw[Ao];omega,by simpa using hB,.inr ⟨a,rfl,.inr rfl,λi y hy=>by
  cases i with
  |zero=>simp only[jk,eu]at hy;subst hy;exact⟨cs,E.O hx λ_ h=>.inl h,by rw[mq];exact hb.sh⟩
  |succ i=>simp at hy⟩⟩
def tq.rv(h:tq AW 40 w lo s l)(hs:∀q∈l,Ad q.Y):No vb w (λb=>lo<=b/\b<w.heap.size) s l:=
 tq.A (E:=vb) h (λ_=>rfl) λ_ _ x hx=>⟨rfl,hs x hx⟩
def Zk4{α β:Type}{c:β->β->Int}{d:α->α->Int}(f:α->β){x:α}{l:List α}(h:∀y∈l,c (f x) (f y)=d x y):(Ci d x l).map f=Ci c (f x) (l.map f):=by
 induction l with
 |nil=>rfl
 |cons y r ih=>
  rw[io,Ci,Ci,h y (.head _)];by_cases h1:d x y<=0
  .rw[fl h1,fl h1];rfl
  .rw[fa h1,fa h1,io,ih λz hz=>h z (.tail _ hz)]
def Xw{α β:Type}{c:β->β->Int}{d:α->α->Int}(f:α->β){l:List α}(h:∀x∈l,∀y∈l,c (f x) (f y)=d x y):(Bw d l).map f=Bw c (l.map f):=by
 induction l with
 |nil=>rfl
 |cons x r ih=>rw[io,Bw,Bw,<-ih λa ha b hb=>h a (.tail _ ha) b (.tail _ hb)];exact Zk4 f λy hy=>h x (.head _) y (.tail _ ((G7 r).mem_iff.1 hy))
def ś:xn (xr×(Nat->Prop)) where
 n:=3
 bytes:=48
 rep:=λw S x cs=>Ĺ.rep w x.2 x.1 cs/\∀b,x.2 b->S b
 len:=λh=>Ĺ.len h.1
 one:=λh v hv=>Ĺ.one h.1 v hv
 O:=λh hs=>⟨h.1,λb hb=>hs b (h.2 b hb)⟩
 sj:=λh hk=>⟨Ĺ.sj h.1 λb hb hl=>hk b (h.2 b hb) hl,h.2⟩
def SW(p q:xr×(Nat->Prop)):Prop:=∀b,p.2 b-> ¬q.2 b
def Xaa(w:PU)(S:Nat->Prop)(s:Sl)(L:Ρ):Prop:=
 s.len=L.length/\s.cap=L.length/\(L=[]\/∃(g:Nat) (tail:LV) (z:List (yb×(xr×(Nat->Prop)))),s.a=some ⟨g,0,none⟩/\S g/\tv StW.cells w g (z.map Prod.fst) tail/\(z.map λq=>q.2.1)=L/\
  (∀q∈z,q.1.Y=q.2.1.Y/\q.1.tc=q.2.1.tc/\Ĺ.rep w q.2.2 q.2.1 (StW.cells q.1)/\∀b,q.2.2 b->S b/\b≠g)/\z.Pairwise λp q=>∀b,p.2.2 b-> ¬q.2.2 b)
def ą(w:PU)(lo:Nat)(sw:Sl)(M:Ρ):Prop:=
 ∃(vis:List (xr×(Nat->Prop))) (Q:Nat->Prop),OF ś 134 w lo Q sw vis/\vis.map Prod.fst=M/\(∀b,Q b->lo<=b)/\vis.Pairwise SW/\∀q∈vis,∀b,q.2 b->Q b
def ą.U(h:ą w lo sw M)(hx:AI w w'):ą w' lo sw M:=by obtain⟨a0,Q,a,b,c,d,e⟩:=h;exact⟨a0,Q,a.U hx,b,c,d,e⟩
def ą.zero(w:PU):ą w w.heap.size Sl.nil []:=⟨[],se,OF.nil _ _,rfl,λ_ h=>h.F,.nil,λ_ h=>by cases h⟩
def ą.push{w0:PU}{u:Sl}{x:xr}{a:LP}{K:Sl->Wp}(h:ą w0 lo sw M)(hx:AI w0 w)(a6:lo<=w0.heap.size)(hN:Ad x.Y)(hu:zu uo w (λb=>w0.heap.size<=b/\b<w.heap.size) u x.range)(hb:AT w a [.string x.Y,vi x.tc,u.v])(hm:(M.length+1)*48<=Ab)
  (hK:∀r w',Below lo w w'->ą w' lo r (M++[x])->K r w'):uc prog 125 125 sw (Sl.v ⟨some a,1,1⟩) w K:=by
 obtain⟨a7,Q,uy,rfl,hQ,a5,a0⟩:=h;have s:=hx.size;have eb:ś.bytes=48:=rfl;rw[ec]at hm;have a8:a7.length+1<=9000000000000:=by unfold Ab at hm;omega
 refine(uy.U hx).push YQ (fj a6 s) (x:=(x,λb=>w0.heap.size<=b/\b<w.heap.size)) (S':=λb=>w0.heap.size<=b/\b<w.heap.size) ⟨⟨hN,u,rfl,hu⟩,λ_ h=>h⟩ (hb.sh.pre (r:=[]) rfl) (λb hb=>hb.2) (λad ha hb=>by have:=(uy.block ha).2.1;omega) (by rwa [eb]) (by rw[Ao];omega) λr w' a4 vh _ _=>hK r w' vh ⟨_,_,a4,by rw[gb];rfl,λb hb=>?_,?_,λq hq b hb=>?_⟩
 .obtain hb|hb:=hb
  .exact hQ b hb
  .omega
 .refine jc.2 ⟨a5,lq _ _,λq hq y hy b hb hc=>?_⟩;rw[ep]at hy;subst hy;have h1:=uy.lt b (a0 q hq b hb);have h2:w0.heap.size<=b/\b<w.heap.size:=hc;omega
 .obtain hq|hq:=fp.1 hq
  .exact .inl (a0 q hq b hb)
  .rw[ep]at hq;subst hq;exact .inr hb
def Ĵ:xn (Θ) where
 n:=1
 bytes:=24
 rep:=λw S l cs=>∃t:Sl,cs= [t.v]/\No ru w S t l
 len:=λ⟨_,h,_⟩=>by rw[h];rfl
 one:=λ⟨_,h,_⟩ v hv=>by rw[h]at hv;simp[Sl.v]at hv;subst hv;rfl
 O:=λ⟨t,h,hr⟩ hs=>⟨t,h,hr.O hs⟩
 sj:=λ⟨t,h,hr⟩ hk=>⟨t,h,hr.sj hk⟩
def Zbz:Bm prog 329:=enters_of func329 kR rfl
def Fy(a b:yb):Int:=A8 a.Y b.Y
def Zn:wg Fy:=DJ yb.Y
def YI(g:Nat)(w:PU):StW.Ý (.func (.func 329) #[] #[]) Fy g w:=by intro x y w1 k _ hk;refine⟨_,_,rfl,Zbz,Px.V ?_⟩;unfold Px;exact An.intro λa w2 x2 ha _ _=>An.intro λa1 w3 x3 a0 _ _=>⟨x.Y,AT.at0 ha x3 rfl,y.Y,AT.at0 a0 xR rfl,Fd ⟨_,rfl,hk _ (x2.Z x3)⟩⟩
def YJ{w1:PU}(hI:ą w1 w.heap.size sw M)(hx:AI w w1)(hb:M.length*48<=Ab)
  (hR:∀t w',AI w w'->Xaa w' (λb=>w.heap.size<=b/\b<w'.heap.size) t (Bw cW M)->R t w'):
  sx prog 328 [sw.v,Value.func (.func 329) #[] #[]] w1 λd0 c3=>d0=(Value.tuple #[])/\sx prog 330 [sw.v] c3 λd1 c4=>∃(b9:Sl),d1=b9.v/\R b9 c4:=by
 obtain⟨a9,Q,uy,rfl,hQ,c7,d5⟩:=hI;rw[ec]at hb;have a5:=uy.len;have c5:a9.length<=9000000000000:=by unfold Ab at hb;omega
 have hf:∀(x:xr×(Nat->Prop)) cs,ś.rep w1 Q x cs->∃y:yb,cs=StW.cells y/\(y.Y=x.1.Y/\y.tc=x.1.tc/\ś.rep w1 Q x (StW.cells y)):=λx cs h=>by obtain⟨⟨hN,s,rfl,a⟩,c6⟩:=h;exact⟨⟨x.1.Y,x.1.tc,s⟩,rfl,rfl,rfl,⟨hN,s,rfl,a⟩,c6⟩
 rcases OF.Xbv StW.cells (λ(y:yb) (x:xr×(Nat->Prop))=>y.Y=x.1.Y/\y.tc=x.1.tc/\ś.rep w1 Q x (StW.cells y)) hf uy with⟨ho,hv⟩|⟨g,zz,tail,ha,b5,a8,a4,b8,d2,d3⟩
 .subst ho hv;refine J9.V (StW.wy rfl ⟨rfl,Ph.V ⟨⟨by decide,by decide,by decide,by decide⟩,_,rfl,hR _ _ hx ?_⟩⟩);exact⟨rfl,rfl,.inl rfl⟩
 .have c9:zz.length=a9.length:=by rw[<-a8,ec]
  have b6:sw.len=(zz.map Prod.fst).length:=by rwa [ec,c9]
  refine J9.V (StW.xo Zn ha (by rw[a5];omega) (YI g w1) b6 b8 λw2 b2 a7=>⟨rfl,?_⟩);have b4:(Bw (λp q:yb×(xr×(Nat->Prop))=>Fy p.1 q.1) zz).map Prod.fst=Bw Fy (zz.map Prod.fst):=Xw (c:=Fy) Prod.fst λ_ _ _ _=>rfl;have a6:(Bw (λp q:yb×(xr×(Nat->Prop))=>Fy p.1 q.1) zz).map (λq:yb×(xr×(Nat->Prop))=>q.2.1)=Bw cW (zz.map λq=>q.2.1):=Xw (c:=cW) (λq:yb×(xr×(Nat->Prop))=>q.2.1) λx hx y hy=>by unfold cW Fy;rw[(a4 x hx).1,(a4 y hy).1]
  have hM:(zz.map λq=>q.2.1)=a9.map Prod.fst:=by rw[<-a8,jh];rfl
  rw[hM]at a6;rw[<-b4]at a7;have a0:=G7 (c:=λp q:yb×(xr×(Nat->Prop))=>Fy p.1 q.1) zz;generalize Bw (λp q:yb×(xr×(Nat->Prop))=>Fy p.1 q.1) zz=zs at*;have d4:zs.length=zz.length:=a0.length_eq;have b0: ¬Q g:=uy.apart _ ha;have x2:AI w w2:=hx.W (b2.below hx.size b5);have b7:g<w2.heap.size:=a7.lt;have s2:=b2.1;refine Ph.V ⟨⟨oM,oM,oM,oM⟩,_,rfl,hR _ _ x2 ?_⟩;have c8:zs.Pairwise λp q=>∀b,p.2.2 b-> ¬q.2.2 b:=by have h1:(zz.map Prod.snd).Pairwise SW:=(by rwa [a8]);rw[jb]at h1;exact(a0.pairwise_iff λ{x y} h b hb hc=>h b hc hb).2 h1
  refine⟨?_,?_,.inr ⟨g,tail,zs,?_,⟨b5,b7⟩,a7,a6,λq hq=>?_,c8⟩⟩
  .show(sw.len:Int).toNat - 0=_;rw[Su,ec,a5];simp
  .show(sw.len:Int).toNat - 0=_;rw[Su,ec,a5];simp
  .show(if _ then _ else _)=_;split
   .exact ha
   .rw[ha,mq];rfl
  .obtain⟨k1,k2,k3,k4⟩:=a4 q (a0.mem_iff.1 hq);refine⟨k1,k2,Ĺ.sj k3 (b2.sj λh=>b0 (k4 g h)),λb hb=>⟨⟨hQ b (k4 b hb),?_⟩,λe=>b0 (e▸k4 b hb)⟩⟩;have:=uy.lt b (k4 b hb);omega
def Ye{mD must vt:Sl}{ms:List (Θ)}{ml sd:Θ}(hS:Old S w)(hV:No ru w S ã sd)(hM:No Ĵ w S must ms)(hY:No ru w S vt ml)(hb:(ms.flatten.length+ml.length)*48<=Ab)
  (hR:∀t w',AI w w'->Xaa w' (λb=>w.heap.size<=b/\b<w'.heap.size) t (FP sd ms.flatten ml)->R t w'):JK mD yj yn ã must vt w R:=by
 unfold JK;have d8:=hM.len;have d9:=hY.len;refine An.intro λa w1 x1 ha _ _=>?_;have s1:=x1.size;refine th.up hM.max (λsw i w'=>AI w1 w'/\ą w' w1.heap.size sw ((ms.take i).flatten.map (GA 1 sd))) ⟨AI.refl _,ą.zero _⟩ λsw i w2 e8 hi ⟨x2,b8⟩ hn=>⟨λd4=>?_,λe0=>?_⟩
 .have b0:i<ms.length:=oM;obtain⟨ad,cs,d5,_,⟨t,rfl,ht⟩,hc⟩:=hM.el b0;have e7:=ht.len;have b6:(ms.take (i+1)).flatten=(ms.take i).flatten++ms[i]:=by rw[dw b0,kl,jm,List.flatten_nil,gv]
  have d7:(ms.take i).flatten.length+ms[i].length<=ms.flatten.length:=by
   rw[<-du,<-b6];have:ms.flatten=(ms.take (i+1)).flatten++(ms.drop (i+1)).flatten:=by rw[<-kl,ga]
   rw[this,du];omega
  refine⟨ad,⟨d5,oM,d4⟩,t,(hc _ (x1.Z x2)).pre (r:=[]) rfl,?_⟩;refine th.up ht.max (λsw k w'=>AI w1 w'/\ą w' w1.heap.size sw (((ms.take i).flatten++ms[i].take k).map (GA 1 sd))) ⟨x2,by rwa [qo,gv]⟩ λd1 k w3 d0 hk ⟨x3,a4⟩ c6=>⟨λa9=>?_,λc9=>?_⟩
  .have a5:k<ms[i].length:=oM;have b2:=x1.Z x3;obtain⟨b7,u,c7,_,hN,hr,c5⟩:=BF ht a5;refine⟨b7,⟨c7,oM,a9⟩,_,u,c5 _ b2,An.intro λa8 w4 x4 c3 d3 _=>tk.intro c3 sI λw5 b5 _ a7=>sf.drew λw6 x6=>?_⟩;have c8:AI w3 w5:=b5.U x4 oM;have a0:=c8.Z x6;have a6:=b2.Z a0;refine⟨_,a7.at0 x6 rfl,mD,yj,yn,ã,ha.at0 (r:=[]) (x3.Z a0) rfl,_,u,a7.at0 (r:=[]) x6 rfl,tf.intro (HL.V (SJ (hS.U a6.size) (hV.U a6) (hr.U a6) λr7 w7 x7 hu=>⟨x7,_,rfl,An.intro λd2 w8 x8 c4 _ _=>?_⟩))⟩;have b4:=x7.Z x8;have d6:=a0.size;have s8:=x8.size;have s3:=x3.size;refine(a4.U a0).push (x:=GA 1 sd ms[i][k]) b4 oM hN ((hu.U x8).O λb hb=>⟨hb.1,oM⟩) c4 ?_ λr9 w9 vh b9=>c6 a5 _ _ ⟨(x3.Z (a0.Z b4)).W vh,?_⟩
   .rw[ec,du,fg];have:((ms.take i).flatten.length+min k ms[i].length+1)*48<=(ms.flatten.length+ml.length)*48:=iu _ oM;omega
   .rwa [dw a5,<-ff,gb]
  .have:k=ms[i].length:=oM;rw[this,eh,<-b6]at a4;exact hn b0 _ _ ⟨x3,a4⟩
 .have:i=ms.length:=oM;rw[this,eh]at b8;refine th.up hY.max (λsw k w'=>AI w1 w'/\ą w' w1.heap.size sw (ms.flatten.map (GA 1 sd)++(ml.take k).map (GA 2 sd))) ⟨x2,by rwa [qo,ph,gv]⟩ λd1 k w3 d0 hk ⟨x3,a4⟩ c6=>⟨λa9=>?_,λc9=>?_⟩
  .have a5:k<ml.length:=oM;have b2:=x1.Z x3;obtain⟨b7,u,c7,_,hN,hr,c5⟩:=BF hY a5;refine⟨b7,⟨c7,oM,a9⟩,_,u,c5 _ b2,An.intro λa8 w4 x4 c3 d3 _=>tk.intro c3 sI λw5 b5 _ a7=>sf.drew λw6 x6=>?_⟩;have c8:AI w3 w5:=b5.U x4 oM;have a0:=c8.Z x6;have a6:=b2.Z a0;refine⟨_,a7.at0 x6 rfl,mD,yj,yn,ã,ha.at0 (r:=[]) (x3.Z a0) rfl,_,u,a7.at0 (r:=[]) x6 rfl,tf.intro (HL.V (SJ (hS.U a6.size) (hV.U a6) (hr.U a6) λr7 w7 x7 hu=>⟨x7,_,rfl,An.intro λd2 w8 x8 c4 _ _=>?_⟩))⟩;have b4:=x7.Z x8;have d6:=a0.size;have s8:=x8.size;have s3:=x3.size;refine(a4.U a0).push (x:=GA 2 sd ml[k]) b4 oM hN ((hu.U x8).O λb hb=>⟨hb.1,oM⟩) c4 ?_ λr9 w9 vh b9=>c6 a5 _ _ ⟨(x3.Z (a0.Z b4)).W vh,?_⟩
   .rw[du,ec,ec,fg];have:(ms.flatten.length+min k ml.length+1)*48<=(ms.flatten.length+ml.length)*48:=iu _ oM;omega
   .rwa [dw a5,gb,<-ff]
  .have:k=ml.length:=oM;rw[this,eh]at a4;refine YJ a4 x3 (by rwa [du,ec,ec]) λt w' hx hs=>hR _ _ (x1.Z hx) ?_;obtain⟨k1,k0,k2⟩:=hs;refine⟨k1,k0,k2.imp id λ⟨g,tail,z,e1,e2,e3,e4,e5,e6⟩=>⟨g,tail,z,e1,⟨oM,e2.2⟩,e3,e4,λq hq=>?_,e6⟩⟩;obtain⟨f1,f2,f3,f4⟩:=e5 q hq;exact⟨f1,f2,f3,λb hb=>⟨⟨by have:=(f4 b hb).1.1;omega,(f4 b hb).1.2⟩,(f4 b hb).2⟩⟩
def An.Xdd{α:Type}{E:xn α}{x:α}{k:Ì}(hS:Old S w)(hx:E.rep w S x cs)(h:∀a w',AI w w'->OF E t w' w.heap.size S ⟨some a,1,1⟩ [x]->a.block=w.heap.size->k a w'):An w cs t k:=λa w' ha hw=>by
 subst ha hw;have hl:=E.len hx;refine h _ _ (AI.alloc _ _) ⟨⟨[cs],⟨by simp[hl],.inr ⟨w.heap.size,1,cs.toArray,rfl,fx _,heap_alloc_new w _,fx _,by rw[Ao];omega,by simp[hl],?_⟩⟩,rfl,λi y hy=>?_⟩,rfl,λb hb=>by have:=hS b hb;simp;omega,λad ha hb=>?_⟩ rfl
 .simp[hl,ia (Nat.le_of_eq hl)]
 .cases i with
  |zero=>simp only[jk,eu]at hy;subst hy;exact⟨cs,rfl,E.sj hx ((AI.alloc w _).sj _)⟩
  |succ i=>simp at hy
 .simp only[eu]at ha;subst ha;have:=hS _ hb;simp at this
def YN:Bk prog 228 32 1 24:=CL (z:=.slice none 0 0) kR kR rfl dC
def Zna{p:su}{pD pP pO mD:Sl}{sd:Θ}(hS:Old S w)(hD:No ru w S pD p.ss)(hO:No ru w S pO p.uq)(hV:No ru w S ã sd)(hb:(p.ss.length+p.uq.length)*48<=Ab)
  (hR:∀t w',AI w w'->Xaa w' (λb=>w.heap.size<=b/\b<w'.heap.size) t (FP sd p.ss p.uq)->R t w'):Nu p.Y p.v.ma p.v.mi p.v.pa pD pP pO mD yj yn ã w R:=by
 refine An.intro λa w1 x1 ha _ _=>An.intro λa1 w2 x2 a7 _ _=>?_;have a9:=x1.Z x2;refine⟨mD,yj,yn,ã,AT.at0 a7 xR rfl,pD,AT.at1 ha x2 rfl,An.intro λa4 w3 x3 a5 b0 _=>⟨pO,AT.at1 ha (x2.Z x3) rfl,?_⟩⟩;have a0:=a9.Z x3;have s3:=a0.size;have a6:No Ĵ w3 (λb=>S b\/b=a4.block) ⟨some a4,1,1⟩ [p.ss]:=Kb (E:=Ĵ) a5 ⟨pD,rfl,hD.U a0⟩ dC;have a8:=a5.lt;refine JK.V (Ye (S:=λb=>S b\/b=a4.block) (ms:=[p.ss]) (sd:=sd) (ml:=p.uq) (λb hb=>?_) ((hV.U a0).O λ_ h=>.inl h) a6 ((hO.U a0).O λ_ h=>.inl h) (by simpa using hb) λt w4 x4 h4=>⟨_,rfl,hR _ _ (a0.Z x4) ?_⟩)
 .obtain hb|rfl:=hb
  .have:=hS b hb;omega
  .exact a8
 .rw[jm,List.flatten_nil,gv]at h4;obtain⟨k1,k0,k2⟩:=h4;refine⟨k1,k0,k2.imp id λ⟨g,tail,z,e1,e2,e3,e4,e5,e6⟩=>⟨g,tail,z,e1,⟨oM,e2.2⟩,e3,e4,λq hq=>?_,e6⟩⟩;obtain⟨f1,f2,f3,f4⟩:=e5 q hq;exact⟨f1,f2,f3,λb hb=>⟨⟨by have:=(f4 b hb).1.1;omega,(f4 b hb).1.2⟩,(f4 b hb).2⟩⟩
def Zm9{mD:Sl}{uw:Bool}(hS:Old S w)(hD:No ru w S mD m.ss)(hE:No ru w S yj m.uw)(hO:No ru w S yn m.uq)(hV:No ru w S ã m.sd)(hb:(m.ss.length+m.uw.length+m.uq.length)*48<=Ab)
  (hR:∀t w',AI w w'->Xaa w' (λb=>w.heap.size<=b/\b<w'.heap.size) t (FP m.sd (EV m uw) m.uq)->R t w'):Nv mD yj yn ã uw w R:=by
 refine An.intro λa w1 x1 ha _ _=>⟨mD,AT.at0 ha xR rfl,?_⟩;refine An.Xdd (E:=Ĵ) (x:=m.ss) (S:=S) (hS.U x1.size) ⟨mD,rfl,hD.U x1⟩ λa1 w2 x2 uy b7=>?_;have a9:=x1.Z x2;have s1:=x1.size;have s2:=x2.size;have eb:Ĵ.bytes=24:=rfl;refine join.named λJ hJ=>?_;have key:∀a0 w3 (ms:List (Θ)),AI w1 w3->No Ĵ w3 (λb=>S b\/(w.heap.size<=b/\b<w3.heap.size)) a0 ms->ms.flatten=EV m uw->J a0 w3:=by
  subst hJ;intro a0 w3 ms x3 b2 a7;have a4:=x1.Z x3;have s3:=a4.size;have b6:(EV m uw).length<=m.ss.length+m.uw.length:=by
   unfold EV;split
   .rw[du];exact fx _
   .omega
  refine⟨mD,yj,yn,ã,AT.at0 ha x3 rfl,yn,AT.at1 ha x3 rfl,JK.V (Ye (S:=λb=>S b\/(w.heap.size<=b/\b<w3.heap.size)) (sd:=m.sd) (ml:=m.uq) (λb hb=>?_) ((hV.U a4).O λ_ h=>.inl h) b2 ((hO.U a4).O λ_ h=>.inl h) (by rw[a7];have:((EV m uw).length+m.uq.length)*48<=(m.ss.length+m.uw.length+m.uq.length)*48:=iu _ oM;omega) λt w4 x4 h4=>⟨_,rfl,hR _ _ (a4.Z x4) ?_⟩)⟩
  .obtain hb|hb:=hb
   .have:=hS b hb;omega
   .exact hb.2
  .rw[a7]at h4;obtain⟨k1,k0,k2⟩:=h4;refine⟨k1,k0,k2.imp id λ⟨g,tail,z,e1,e2,e3,e4,e5,e6⟩=>⟨g,tail,z,e1,⟨oM,e2.2⟩,e3,e4,λq hq=>?_,e6⟩⟩;obtain⟨f1,f2,f3,f4⟩:=e5 q hq;exact⟨f1,f2,f3,λb hb=>⟨⟨by have:=(f4 b hb).1.1;omega,(f4 b hb).1.2⟩,(f4 b hb).2⟩⟩
 refine⟨λh=>?_,λh=>?_⟩
 .subst h;refine⟨yj,AT.at1 ha x2 rfl,An.intro λa8 w3 x3 b0 b5 _=>?_⟩;refine(uy.U x3).push YN (x2.Z x3).size (x:=m.uw) (S':=S) ⟨yj,rfl,hE.U (a9.Z x3)⟩ (b0.sh.pre (r:=[]) rfl) (hS.U (a9.Z x3).size) (λad ha hb=>(uy.apart ad ha hb)) (by rw[eb];unfold Ab;simp) (by rw[Ao];simp) λr w4 a5 vh _ _=>?_;have b4:AI w1 w4:=(x2.Z x3).W vh;refine key _ _ [m.ss,m.uw] b4 ((a5.A (by rw[eb];unfold Ab;simp) (by rw[Ao];simp)).O λb hb=>?_) (by simp[EV]);rcases hb with(hb|hb)|⟨ad,a6,rfl⟩
  .exact .inl hb
  .exact .inl hb
  .have:=a5.block a6;exact .inr ⟨oM,this.2.1⟩
 .subst h;refine key _ _ [m.ss] x2 ((uy.A (by rw[eb];unfold Ab;simp) (by rw[Ao];simp)).O λb hb=>?_) (by simp[EV]);rcases hb with hb|⟨ad,a6,rfl⟩
  .exact .inl hb
  .have:=uy.block a6;exact .inr ⟨oM,this.2.1⟩
def Xaa.A{L:Ρ}(h:Xaa w S s L)(hb:L.length*48<=Ab):No Pw w S s L:=by
 obtain⟨h1,h0,h2⟩:=h;have hm:L.length<=maxLen:=by rw[Ao];unfold Ab at hb;omega
 refine⟨h1,by rw[h0];exact fx _,by rwa [h0],hb,?_⟩;rcases h2 with rfl|⟨g,tail,z,e1,e2,e3,e4,e5,e6⟩
 .exact .inl rfl
 .refine .inr ⟨_,e1,e2,λi x hx=>?_⟩;rw[<-e4,gu]at hx;cases hz:z[i]? with
  |none=>rw[hz]at hx;cases hx
  |some q=>rw[hz]at hx;simp only[jp,eu]at hx;subst hx;obtain⟨f1,f2,⟨f3,u,f5,f6⟩,f4⟩:=e5 q (ik hz);refine⟨StW.cells q.1,⟨f3,u,f5,f6.1.O λb hb=>(f4 b hb).1⟩,e3.Ĥ (f:=StW.cells) (k:=3) (λ_=>rfl) (by rw[gu,hz];rfl)⟩
structure Edge where
 Y:Pr
 to:Int
 deriving DecidableEq
abbrev LQ:=List Edge
structure rz where
 Y:Pr
 v:tj
 vd:Η
 sq:LQ
 deriving DecidableEq
abbrev Ζ:=List rz
abbrev Fp:=Pr×tj×Η
def rz.key(n:rz):Fp:=(n.Y,n.v,n.vd)
structure si where
 L:Ι
 m:vz
 uw:Bool
 rv:Η
 D:Nat
 N:Nat
def ui:rz:=⟨⟨#[]⟩,⟨0,0,0⟩,[],[]⟩
def Yf(q:si)(k:Nat)(n:Option Fp):Ρ:=
 if k=0 then FP q.m.sd (EV q.m q.uw) q.m.uq else
  match n with
  |none=>[]
  |some n=>match AR q.L n.1 n.2.1 with
   |none=>[]
   |some p=>FP q.m.sd p.ss p.uq
def ó(ns:Ζ)(k:Nat):Option Fp:=(ns.map rz.key)[k]?
def ug(ns:Ζ)(k:Nat):Η:=match ó ns k with
 |some x=>x.2.2
 |none=>[]
def si.ue(q:si)(ns:Ζ)(k:Nat):Ρ:=Yf q k (ó ns k)
def si.ym(q:si)(c:Η)(w:xr):List tj×Bool:=match vc c w.Y with
 |some v=>(if BT w.range v then [v]else [],false)
 |none=>(DI q.L w.Y w.range q.rv,decide (w.tc=2))
def FA(x:List tj×Bool):List (Option tj):=x.1.map some++(if x.2 then [none]else [])
def E7(e:Η)(n:Pr)(o:Option tj):Η:=match o with
 |none=>e
 |some v=>if e.any (Az n)then e else e++[⟨n,v⟩]
def Cj(q:si)(env:Η):Η->Option (Ζ)
 | []=>some []
 |p::r=>match Dj q.L q.m.sd env p with
  |none=>none
  |some c=>(Cj q env r).map λxs=>⟨p.Y,p.v,c,[]⟩::xs
def Bv(N:Nat):List Fp->Ζ->Option (Ζ×LQ)
 |_,[]=>some ([],[])
 |ks,x::xs=>match ks.findIdx? λy=>decide (y=x.key)with
  |some i=>(Bv N ks xs).map λr=>(r.1,⟨x.Y,(i:Int)⟩::r.2)
  |none=>if ks.length=N then none else(Bv N (ks++[x.key]) xs).map λr=>(x::r.1,⟨x.Y,(ks.length:Int)⟩::r.2)
def CQ(ns:Ζ)(k:Nat)(es:LQ):Ζ:=ns.modify k λn=>{n with sq:=es}
inductive Bnd where
 |yw
 |many
 |ok (ns:Ζ)
def si.bind(q:si)(ns:Ζ)(k:Nat)(e:Η):Bnd:=match Cj q (B9 e) (B9 e)with
 |none=>.yw
 |some xs=>match Bv q.N (ns.map rz.key) xs with
  |none=>.many
  |some r=>.ok (CQ ns k r.2++r.1)
inductive Out where
 |fail (t:Nat)
 |done (ns:Ζ) (t:Nat)
 |err (e:Int)
 |sw
def FK(D:Nat)(k:Option tj->Nat->Out):List (Option tj)->Nat->Out
 | [],t=>.fail t
 |o::os,t=>if t=D then .err 31 else match k o (t+1)with
  | .fail t'=>FK D k os t'
  |r=>r
def si.V(q:si):Nat->Ζ->Nat->Ρ->Η->Nat->Out
 |0,_,_,_,_,_=> .sw
 |f+1,ns,k,[],e,t=>match q.bind ns k e with
  | .yw=>.fail t
  | .many=>.err 32
  | .ok ns'=>if k+1=ns'.length then .done ns' t else q.V f ns' (k+1) (q.ue ns' (k+1)) (ug ns' (k+1)) t
 |f+1,ns,k,w::l,e,t=>FK q.D (λo t=>q.V f ns k l (E7 e w.Y o) t) (FA (q.ym (ug ns k) w)) t
structure Ch where
 py:Nat
 Y:Pr
 vs:List tj
 none:Bool
 i:Nat
abbrev Ο:=List Ch
def Ch.many(c:Ch):Nat:=if c.none then c.vs.length+1 else c.vs.length
structure St where
 stack:Ο
 ns:Ζ
 AS:Wd
 ws:Ρ
 first:Nat
 dec:Nat
inductive Lb where
 |next
 |à
 |back
inductive ı where
 |V (l:Lb) (s:St)
 |done (ns:Ζ) (t:Nat)
 |err (e:Int)
def si.ch(q:si)(k:Nat)(c:Η)(w:xr):Ch:=⟨k,w.Y,(q.ym c w).1,(q.ym c w).2,0⟩
def BW(e:Η)(c:Ch):Η:=E7 e c.Y c.vs[c.i]?
def St.env(s:St):Η:=(s.stack.drop s.first).foldl BW (ug s.ns s.AS.length)
def Ba(l:Ο):Ο:=l.modify (l.length - 1) λc=>{c with i:=c.i+1}
def si.step(q:si):Lb->St->ı
 | .next,s=>match s.ws[s.stack.length - s.first]? with
  |some w=>.V .à {s with stack:=s.stack++[q.ch s.AS.length (ug s.ns s.AS.length) w]}
  |none=>match q.bind s.ns s.AS.length s.env with
   | .yw=>.V .back s
   | .many=>.err 32
   | .ok ns'=>if s.AS.length+1=ns'.length then .done ns' s.dec else
     .V .next {s with ns:=ns',AS:=s.AS++[s.ns.length],ws:=q.ue ns' (s.AS.length+1),first:=s.stack.length}
 | .à,s=>match s.stack.getLast? with
  |none=>.err (-1)
  |some c=>if c.i<c.many then(if s.dec=q.D then .err 31 else .V .next {s with dec:=s.dec+1})else .V .back {s with stack:=s.stack.dropLast}
 | .back,s=>match s.stack.getLast? with
  |none=>.err 30
  |some c=>.V .à {s with
    stack:=Ba s.stack
    ns:=(match s.AS[c.py]? with|some a=>s.ns.take a|none=>s.ns)
    AS:=s.AS.take c.py
    ws:=q.ue (match s.AS[c.py]? with|some a=>s.ns.take a|none=>s.ns) c.py
    first:=(Ba s.stack).findIdx λx=>decide (x.py=c.py)}
inductive si.To (q:si):Lb->St->Lb->St->Prop
 |refl (l:Lb) (s:St):si.To q l s l s
 |step {l l1 l2:Lb} {s s1 s2:St} (h:q.step l s= .V l1 s1) (k:si.To q l1 s1 l2 s2):si.To q l s l2 s2
inductive si.End (q:si):Lb->St->ı->Prop
 |done {l:Lb} {s:St} {ns:Ζ} {t:Nat} (h:q.step l s= .done ns t):si.End q l s (.done ns t)
 |err {l:Lb} {s:St} {e:Int} (h:q.step l s= .err e):si.End q l s (.err e)
 |step {l l1:Lb} {s s1:St} {r:ı} (h:q.step l s= .V l1 s1) (k:si.End q l1 s1 r):si.End q l s r
def si.To.Z{q:si}{a b c:Lb}{x y z:St}(h:q.To a x b y)(k:q.To b y c z):q.To a x c z:=by
 induction h with
 |refl=>exact k
 |step h _ ih=>exact .step h (ih k)
def si.To.ends{q:si}{a b:Lb}{x y:St}{r:ı}(h:q.To a x b y)(k:q.End b y r):q.End a x r:=by
 induction h with
 |refl=>exact k
 |step h _ ih=>exact .step h (ih k)
def ô(k:Nat)(a b:Ζ):Prop:=a.map rz.key=b.map rz.key/\∀i,i<k->a[i]?=b[i]?
def ô.refl(k:Nat)(a:Ζ):ô k a a:=⟨rfl,λ_ _=>rfl⟩
def ô.len{k:Nat}{a b:Ζ}(h:ô k a b):a.length=b.length:=by have:=jt List.length h.1;simpa using this
def ô.Z{k:Nat}{a b c:Ζ}(h:ô k a b)(g:ô k b c):ô k a c:=⟨h.1.Z g.1,λi hi=>(h.2 i hi).Z (g.2 i hi)⟩
def ô.O{k j:Nat}{a b:Ζ}(h:ô k a b)(hj:j<=k):ô j a b:=⟨h.1,λi hi=>h.2 i oM⟩
def ô.take{k:Nat}{a b:Ζ}(h:ô k a b)(n:Nat):ô k (a.take n) (b.take n):=⟨by rw[List.map_take,List.map_take,h.1],λi hi=>by rw[mh,mh,h.2 i hi]⟩
def ô.ó{k:Nat}{a b:Ζ}(h:ô k a b)(i:Nat):Hal.ó a i=Hal.ó b i:=by unfold Hal.ó;rw[h.1]
def ô.ug{k:Nat}{a b:Ζ}(h:ô k a b)(i:Nat):Hal.ug a i=Hal.ug b i:=by unfold Hal.ug;rw[h.ó]
def ô.ue{q:si}{k:Nat}{a b:Ζ}(h:ô k a b)(i:Nat):q.ue a i=q.ue b i:=by unfold si.ue;rw[h.ó]
def Pb(ns:Ζ)(k:Nat)(es:LQ):(CQ ns k es).map rz.key=ns.map rz.key:=by
 unfold CQ;apply qv;intro i;rw[gu,gu,nw];cases ns[i]? with
 |none=>rfl
 |some n=>by_cases h:k=i<;>simp[h,rz.key]
def Jv(ns:Ζ)(k:Nat)(es:LQ):(CQ ns k es).length=ns.length:=by unfold CQ;rw[List.length_modify]
def RN{ns:Ζ}{k:Nat}{es:LQ}(h:i≠k):(CQ ns k es)[i]?=ns[i]? :=by
 unfold CQ;rw[nw];cases ns[i]? with
 |none=>rfl
 |some n=>simp[Ne.H h]
def ô.bind{q:si}{k:Nat}{a b:Ζ}{e:Η}(h:ô k a b)(hk:k<a.length):
  (q.bind a k e= .yw/\q.bind b k e= .yw)\/(q.bind a k e= .many/\q.bind b k e= .many)\/∃a' b',q.bind a k e= .ok a'/\q.bind b k e= .ok b'/\ô (k+1) a' b'/\ô k (a'.take a.length) a/\a.length<=a'.length:=by
 unfold si.bind;cases Cj q (B9 e) (B9 e)with
 |none=>exact .inl ⟨rfl,rfl⟩
 |some xs=>
  rw[h.1];dsimp only;cases Bv q.N (b.map rz.key) xs with
  |none=>exact .inr (.inl ⟨rfl,rfl⟩)
  |some r=>
   refine .inr (.inr ⟨_,_,rfl,rfl,⟨?_,λi hi=>?_⟩,⟨?_,λi hi=>?_⟩,?_⟩)
   .rw[gb,gb,Pb,Pb,h.1]
   .have hl:=h.len;rw[gl (by rw[Jv];omega),gl (by rw[Jv];omega)];by_cases a4:i=k
    .subst a4;unfold CQ;rw[nw,nw];have a0:=jt (·[i]?) h.1;simp only[gu]at a0;rw[dt hk,dt oM]at a0 ⊢;simp only[jp,eu,rz.key,Prod.mk.injEq]at a0;simp[a0.1,a0.2.1,a0.2.2]
    .rw[RN a4,RN a4];exact h.2 i oM
   .rw[qf (Jv _ _ _),Pb]
   .rw[qf (Jv _ _ _),RN oM]
   .rw[du,Jv];omega
structure Rs(k:Nat)(s s':St):Prop where
 AS:s'.AS.take k=s.AS
 nsl:s.ns.length<=s'.ns.length
 ns:ô k (s'.ns.take s.ns.length) s.ns
 at_:∀a,s'.AS[k]?=some a->a=s.ns.length
 eq:s'.AS[k]?=none->s'.ns.length=s.ns.length
def Rs.refl{k:Nat}{s:St}(h:s.AS.length=k):Rs k s s:=
 ⟨ia oM,fx _,by rw[eh];exact .refl _ _,λa ha=>(by rw[iw oM]at ha;cases ha),λ_=>rfl⟩
structure Cor(q:si)(s:St)(ns:Ζ)(k:Nat)(σ cs:Ο)(l:Ρ)(e:Η)(t:Nat):Prop where
 hk:s.AS.length=k
 lt:k<s.ns.length
 alk:ô k s.ns ns
 ws:s.ws=q.ue ns k
 stack:s.stack=σ++cs
 first:s.first=σ.length
 left:l=(q.ue ns k).drop cs.length
 py:∀c∈cs,c.py=k
 low:∀c∈σ,c.py<k
 env:e=cs.foldl BW (ug ns k)
 dec:s.dec=t
def Holds(q:si)(k:Nat)(lb:Lb)(s:St)(st:Ο):Out->Prop
 | .sw=>True
 | .fail t'=>∃s',q.To lb s .back s'/\s'.stack=st/\Rs k s s'/\s'.dec=t'
 | .done ns' t'=>q.End lb s (.done ns' t')
 | .err e=>q.End lb s (.err e)
def UI{p:Ch->Bool}{a b:Ο}{c:Ch}(ha:∀x∈a,p x=false)(hc:p c=true):(a++c::b).findIdx p=a.length:=by
 induction a with
 |nil=>simp[List.findIdx_cons,hc]
 |cons x r ih=>rw[ig,List.findIdx_cons,ha x (.head _),ih λy hy=>ha y (.tail _ hy)];rfl
def GW(a:Ο)(c:Ch):Ba (a++[c])=a++[{c with i:=c.i+1}]:=by unfold Ba;rw[du,gq,Nat.add_sub_cancel,List.modify_eq_take_drop];simp
def Wi(x:List tj×Bool)(i:Nat):(FA x)[i]?=if i<(if x.2 then x.1.length+1 else x.1.length)then some x.1[i]? else none:=by
 unfold FA;rw[ni,ec];by_cases h:i<x.1.length
 .rw[fl h,gu,dt h,fl (by split<;>omega)];rfl
 .rw[fa h];cases hx:x.2 with
  |false=>simp[h]
  |true=>
   by_cases h2:i=x.1.length
   .subst h2;simp
   .have:i - x.1.length≠0:=oM;rw[fl rfl,fl rfl,fa oM];rw[iw (by simp;omega)]
def Rs.Ŭ{k:Nat}{s s1 s':St}(h1:s1.AS=s.AS)(h2:ô k s1.ns s.ns)(h:Rs k s1 s'):Rs k s s':=by have hl:=h2.len;exact⟨h.AS.Z h1,by rw[<-hl];exact h.nsl,by rw[<-hl];exact h.ns.Z h2,λa ha=>by rw[<-hl];exact h.at_ a ha,λha=>by rw[<-hl];exact h.eq ha⟩
section
variable {q:si}
def X5(s:St):q.step .next s=(match s.ws[s.stack.length - s.first]? with
  |some w=>.V .à {s with stack:=s.stack++[q.ch s.AS.length (ug s.ns s.AS.length) w]}
  |none=>match q.bind s.ns s.AS.length s.env with
   | .yw=>.V .back s
   | .many=>.err 32
   | .ok a0=>if s.AS.length+1=a0.length then .done a0 s.dec else
     .V .next {s with ns:=a0,AS:=s.AS++[s.ns.length],ws:=q.ue a0 (s.AS.length+1),first:=s.stack.length}):=rfl
def Zle{s:St}(h:s.stack=[]):q.step .back s= .err 30:=by
 show(match s.stack.getLast? with
  |none=>ı.err 30
  |some c=>_)=_
 rw[h];rfl
def Sv{s:St}{a:Ο}{c:Ch}(h:s.stack=a++[c]):q.step .à s=if c.i<c.many then(if s.dec=q.D then .err 31 else .V .next {s with dec:=s.dec+1})else .V .back {s with stack:=a}:=by
 show(match s.stack.getLast? with
  |none=>ı.err (-1)
  |some c=>if c.i<c.many then(if s.dec=q.D then .err 31 else .V .next {s with dec:=s.dec+1})else .V .back {s with stack:=s.stack.dropLast})=_
 rw[h,List.getLast?_append,nx];rfl
def Zld{s:St}{a:Ο}{c:Ch}(h:s.stack=a++[c]):q.step .back s= .V .à {s with
    stack:=a++[{c with i:=c.i+1}]
    ns:=(match s.AS[c.py]? with|some a=>s.ns.take a|none=>s.ns)
    AS:=s.AS.take c.py
    ws:=q.ue (match s.AS[c.py]? with|some a=>s.ns.take a|none=>s.ns) c.py
    first:=(a++[{c with i:=c.i+1}]).findIdx λx:Ch=>decide (x.py=c.py)}:=by
 show(match s.stack.getLast? with
  |none=>ı.err 30
  |some c=>.V .à {s with
    stack:=Ba s.stack
    ns:=(match s.AS[c.py]? with|some a=>s.ns.take a|none=>s.ns)
    AS:=s.AS.take c.py
    ws:=q.ue (match s.AS[c.py]? with|some a=>s.ns.take a|none=>s.ns) c.py
    first:=(Ba s.stack).findIdx λx:Ch=>decide (x.py=c.py)})=_
 rw[h,List.getLast?_append,GW];rfl
def Xe{f:Nat}{ns:Ζ}{k:Nat}{σ cs:Ο}{w:xr}{l:Ρ}{e:Η}
  (ih:∀(s:St)(cs:Ο)(e:Η)(t:Nat),Cor q s ns k σ cs l e t->Holds q k .next s s.stack (q.V f ns k l e t))
  (hl:w::l=(q.ue ns k).drop cs.length) (hn:∀c∈cs,c.py=k) (a5:∀c∈σ,c.py<k) (he:e=cs.foldl BW (ug ns k)):
  ∀(os:List (Option tj)) (i t:Nat) (s:St),(FA (q.ym (ug ns k) w)).drop i=os->s.AS.length=k->k<s.ns.length->ô k s.ns ns->s.ws=q.ue ns k->s.stack=σ++cs++[{q.ch k (ug ns k) w with i:=i}]->s.first=σ.length->s.dec=t->
   Holds q k .à s (σ++cs) (FK q.D (λo t=>q.V f ns k l (E7 e w.Y o) t) os t)
 | [],i,t,s,ho,hk,hlt,ha,hws,hst,hf,hd=>by
  refine⟨{s with stack:=s.stack.dropLast},.step (s1:={s with stack:=s.stack.dropLast}) ?_ (.refl _ _),by rw[hst];simp,⟨ia (by simp;omega),fx _,by rw[eh];exact .refl _ _,λa h=>(by rw[iw (by simp;omega)]at h;cases h),λ_=>rfl⟩,hd⟩;have h1:=Wi (q.ym (ug ns k) w) i;have h2:(FA (q.ym (ug ns k) w))[i]?=none:=by have:=jt (·[0]?) ho;simpa using this
  rw[h2]at h1;have h3: ¬i<Ch.many {q.ch k (ug ns k) w with i:=i}:=λh=>by rw[fl (show i<(if(q.ym (ug ns k) w).2 then(q.ym (ug ns k) w).1.length+1 else(q.ym (ug ns k) w).1.length)from h)]at h1;cases h1
  rw[Sv hst,fa h3,hst,nx]
 |o::os,i,t,s,ho,hk,hlt,ha,hws,hst,hf,hd=>by
  have h1:=Wi (q.ym (ug ns k) w) i;have h2:(FA (q.ym (ug ns k) w))[i]?=some o:=by have:=jt (·[0]?) ho;simpa using this
  have b9:(FA (q.ym (ug ns k) w)).drop (i+1)=os:=by have:=jt List.tail ho;simpa using this
  rw[h2]at h1;have h3:i<Ch.many {q.ch k (ug ns k) w with i:=i}:=by
   by_cases h:i<(if(q.ym (ug ns k) w).2 then(q.ym (ug ns k) w).1.length+1 else(q.ym (ug ns k) w).1.length)
   .exact h
   .rw[fa h]at h1;cases h1
  rw[fl (show i<(if(q.ym (ug ns k) w).2 then(q.ym (ug ns k) w).1.length+1 else(q.ym (ug ns k) w).1.length)from h3)]at h1;have b8:o=(q.ym (ug ns k) w).1[i]? :=by simpa using h1
  rw[FK];by_cases hD:t=q.D
  .rw[fl hD];exact .err (by rw[Sv hst,fl h3,fl (hd.Z hD)])
  .rw[fa hD];have a4:q.step .à s= .V .next {s with dec:=s.dec+1}:=by rw[Sv hst,fl h3,fa (by rwa [hd])]
   have b4:Cor q {s with dec:=s.dec+1} ns k σ (cs++[{q.ch k (ug ns k) w with i:=i}]) l (E7 e w.Y o) (t+1):=by
    refine⟨hk,hlt,ha,hws,by rwa [<-ff],hf,?_,λc hc=>?_,a5,?_,by simp[hd]⟩
    .have:=jt List.tail hl;simpa using this
    .obtain hc|hc:=fp.1 hc
     .exact hn c hc
     .rw[ep]at hc;subst hc;rfl
    .rw[List.foldl_append,<-he,b8];rfl
   have b7:=ih _ _ _ _ b4;revert b7;cases q.V f ns k l (E7 e w.Y o) (t+1)with
   |sw=>exact λ_=>trivial
   |done c5 t'=>exact λh=>.step a4 h
   |err e'=>exact λh=>.step a4 h
   |fail t'=>
    rintro⟨s3,c4,c3,a6,b5⟩;show Holds q k .à s (σ++cs) (FK q.D _ os t');have b0:s3.stack=σ++cs++[{q.ch k (ug ns k) w with i:=i}]:=c3.Z hst;have a0:ô k (match s3.AS[k]? with|some a=>s3.ns.take a|none=>s3.ns) s.ns:=by
     cases h:s3.AS[k]? with
     |none=>have h4:=a6.ns;rw[<-a6.eq h,eh]at h4;exact h4
     |some a=>have h4:=a6.at_ a h;subst h4;exact a6.ns
    generalize hN:(match s3.AS[k]? with|some a=>s3.ns.take a|none=>s3.ns)=N at a0;have b2:q.step .back s3= .V .à {s3 with stack:=σ++cs++[{q.ch k (ug ns k) w with i:=i+1}],ns:=N,AS:=s.AS,ws:=q.ue ns k,first:=σ.length}:=by
     rw[Zld b0];have a7:(q.ch k (ug ns k) w).py=k:=rfl;dsimp only;rw[a7,hN,(a0.Z ha).ue,a6.AS];have b6:∀c:Ch,c.py=k->(σ++cs++[c]).findIdx (λx:Ch=>decide (x.py=k))=σ.length:=λc hc=>by
      rw[ff];have hp:∀x∈σ,(λx:Ch=>decide (x.py=k)) x=false:=λx hx=>by have:=a5 x hx;simp;omega
      cases cs with
      |nil=>exact UI hp (by simp[hc])
      |cons c r=>exact UI hp (by simpa using hn c (.head _))
     rw[b6 _ rfl]
    have a9:=Xe ih hl hn a5 he os (i+1) t' {s3 with stack:=σ++cs++[{q.ch k (ug ns k) w with i:=i+1}],ns:=N,AS:=s.AS,ws:=q.ue ns k,first:=σ.length} b9 hk (by rwa [show({s3 with stack:=_,ns:=N,AS:=s.AS,ws:=q.ue ns k,first:=σ.length}:St).ns=N from rfl,a0.len]) (a0.Z ha) rfl rfl rfl b5;have a8:q.To .à s .à {s3 with stack:=σ++cs++[{q.ch k (ug ns k) w with i:=i+1}],ns:=N,AS:=s.AS,ws:=q.ue ns k,first:=σ.length}:=.step a4 (c4.Z (.step b2 (.refl _ _)));revert a9;cases FK q.D (λo t=>q.V f ns k l (E7 e w.Y o) t) os t' with
    |sw=>exact λ_=>trivial
    |done c5 t'=>exact λh=>a8.ends h
    |err e'=>exact λh=>a8.ends h
    |fail t'=>rintro⟨s5,h5,h6,h7,h8⟩;exact⟨s5,a8.Z h5,h6,Rs.Ŭ (s1:={s3 with stack:=σ++cs++[{q.ch k (ug ns k) w with i:=i+1}],ns:=N,AS:=s.AS,ws:=q.ue ns k,first:=σ.length}) rfl a0 h7,h8⟩
def YH{k:Nat}{a b:Ζ}(h:ô k a b)(hl:a.length<=k):a=b:=by
 apply qv;intro i;obtain hi|hi:=rt i k
 .exact h.2 i hi
 .rw[iw oM,iw (by have:=h.len;omega)]
def RS:∀(f:Nat)(s:St)(ns:Ζ)(k:Nat)(σ cs:Ο)(l:Ρ)(e:Η)(t:Nat),Cor q s ns k σ cs l e t->Holds q k .next s s.stack (q.V f ns k l e t)
 |0,_,_,_,_,_,_,_,_,_=>by rw[si.V];trivial
 |f+1,s,ns,k,σ,cs,[],e,t,h=>by
  have a5:s.stack.length - s.first=cs.length:=by rw[h.stack,h.first,du];omega
  have hw:s.ws[s.stack.length - s.first]?=none:=by rw[a5,h.ws];have:=jt (·[0]?) h.left;simpa using this.H
  have a6:s.env=e:=by unfold St.env;rw[h.stack,h.first,List.drop_left' rfl,h.hk,h.alk.ug,<-h.env]
  have a0:=X5 (q:=q) s;rw[hw,a6,h.hk]at a0;dsimp only at a0;rw[si.V];rcases h.alk.bind (e:=e) h.lt with⟨b1,b2⟩|⟨b1,b2⟩|⟨a',b',b1,b2,a4,b4,b0⟩
  .rw[b2];rw[b1]at a0;exact⟨s,.step a0 (.refl _ _),rfl,Rs.refl h.hk,h.dec⟩
  .rw[b2];rw[b1]at a0;exact .err a0
  .rw[b2];rw[b1]at a0;dsimp only at a0 ⊢;have a7:=a4.len;have b6:=h.lt;rw[<-a7];by_cases hd:k+1=a'.length
   .rw[fl hd]at a0 ⊢;obtain rfl:=YH a4 oM;rw[h.dec]at a0;exact .done a0
   .rw[fa hd]at a0 ⊢;have a8:Cor q {s with ns:=a',AS:=s.AS++[s.ns.length],ws:=q.ue a' (k+1),first:=s.stack.length} b' (k+1) s.stack [] (q.ue b' (k+1)) (ug b' (k+1)) t:=by
     refine⟨by simp[h.hk],by show k+1<a'.length;omega,a4,(by show q.ue a' (k+1)=_;exact a4.ue _),by simp,rfl,by simp,λc hc=>(by cases hc),λc hc=>?_,rfl,h.dec⟩;rw[h.stack]at hc;obtain hc|hc:=fp.1 hc
     .have:=h.low c hc;omega
     .rw[h.py c hc];omega
    have a9:=RS f _ _ _ _ _ _ _ _ a8;revert a9;cases q.V f b' (k+1) (q.ue b' (k+1)) (ug b' (k+1)) t with
    |sw=>exact λ_=>trivial
    |done b5 t'=>exact λg=>.step a0 g
    |err e'=>exact λg=>.step a0 g
    |fail t'=>
     rintro⟨s',g1,g2,g3,g4⟩;have hk:=h.hk;refine⟨s',.step a0 g1,g2,?_,g4⟩;have h5:s'.AS.take (k+1)=s.AS++[s.ns.length]:=g3.AS;have h6:s'.AS[k]?=some s.ns.length:=by have:=jt (·[k]?) h5;simp only[mh]at this;rw[fl oM,ii oM]at this;simpa[hk]using this
     have h7:a'.length<=s'.ns.length:=g3.nsl;have h8:ô (k+1) (s'.ns.take a'.length) a':=g3.ns;refine⟨?_,oM,?_,λa ha=>?_,λha=>?_⟩
     .have:=jt (List.take k) h5;rw[List.take_take,kq oM,qf hk]at this;exact this
     .have h9:=(h8.take s.ns.length).O (j:=k) oM;rw[List.take_take,kq b0]at h9;exact h9.Z b4
     .rw[h6]at ha;simpa using ha.H
     .rw[h6]at ha;cases ha
 |f+1,s,ns,k,σ,cs,w::l,e,t,h=>by
  have a5:s.stack.length - s.first=cs.length:=by rw[h.stack,h.first,du];omega
  have hw:s.ws[s.stack.length - s.first]?=some w:=by rw[a5,h.ws];have:=jt (·[0]?) h.left;simpa using this.H
  have a0:q.step .next s= .V .à {s with stack:=s.stack++[q.ch k (ug ns k) w]}:=by rw[X5,hw,h.hk,h.alk.ug]
  rw[si.V];have hr:=Xe (q:=q) (f:=f) (ns:=ns) (k:=k) (σ:=σ) (cs:=cs) (w:=w) (l:=l) (e:=e) (λs cs e t hc=>RS f s ns k σ cs l e t hc) h.left h.py h.low h.env (FA (q.ym (ug ns k) w)) 0 t {s with stack:=s.stack++[q.ch k (ug ns k) w]} rfl h.hk h.lt h.alk h.ws (by show s.stack++_=_;rw[h.stack];rfl) h.first h.dec;revert hr;cases FK q.D (λo t=>q.V f ns k l (E7 e w.Y o) t) (FA (q.ym (ug ns k) w)) t with
  |sw=>exact λ_=>trivial
  |done b5 t'=>exact λg=>.step a0 g
  |err e'=>exact λg=>.step a0 g
  |fail t'=>rintro⟨s',g1,g2,g3,g4⟩;exact⟨s',.step a0 g1,g2.Z h.stack.H,⟨g3.AS,g3.nsl,g3.ns,g3.at_,g3.eq⟩,g4⟩
def si.start(q:si):St:=⟨[],[ui],[],q.ue [ui] 0,0,0⟩
def si.yf(q:si):Nat:=q.D+q.N+2
def si.run(q:si):Out:=q.V q.yf [ui] 0 (q.ue [ui] 0) [] 0
def Zjv:match q.run with
  | .sw=>True
  | .fail _=>q.End .next q.start (.err 30)
  | .done ns t=>q.End .next q.start (.done ns t)
  | .err e=>q.End .next q.start (.err e):=by
 have h:=RS q.yf q.start [ui] 0 [] [] (q.ue [ui] 0) [] 0 ⟨rfl,Nat.one_pos,.refl _ _,rfl,rfl,rfl,rfl,λc h=>(by cases h),λc h=>(by cases h),rfl,rfl⟩;unfold si.run;revert h;cases q.V q.yf [ui] 0 (q.ue [ui] 0) [] 0 with
 |sw=>exact λ_=>trivial
 |done ns t=>exact λh=>h
 |err e=>exact λh=>h
 |fail t=>rintro⟨s',h1,h2,_,_⟩;exact h1.ends (.err (Zle h2))
end
end Go.Hal
namespace Go.Hal
def R5{N:Nat}:∀{xs:Ζ} {ks:List Fp} {r:Ζ×LQ},Bv N ks xs=some r->ks.length<=N->ks.length+r.1.length<=N
 | [],ks,r,h,hl=>by rw[Bv]at h;cases h;simpa using hl
 |x::xs,ks,r,h,hl=>by
  rw[Bv]at h;cases hf:ks.findIdx? λy=>decide (y=x.key)with
  |some i=>rw[hf]at h;obtain⟨r',h1,h2⟩:=kx.1 h;subst h2;have:=R5 h1 hl;exact this
  |none=>
   rw[hf]at h;dsimp only at h;by_cases hN:ks.length=N
   .rw[fl hN]at h;cases h
   .rw[fa hN]at h;obtain⟨r',h1,h2⟩:=kx.1 h;subst h2;have:=R5 h1 (by simp;omega);simp at this ⊢;omega
def NI{q:si}{ns ns':Ζ}{k:Nat}{e:Η}(h:q.bind ns k e= .ok ns')(hl:ns.length<=q.N):ns.length<=ns'.length/\ns'.length<=q.N:=by
 unfold si.bind at h;cases h1:Cj q (B9 e) (B9 e)with
 |none=>rw[h1]at h;cases h
 |some xs=>
  rw[h1]at h;dsimp only at h;cases h2:Bv q.N (ns.map rz.key) xs with
  |none=>rw[h2]at h;cases h
  |some r=>rw[h2]at h;cases h;have:=R5 h2 (by simpa using hl);rw[du,Jv];simp at this;omega
def Ŕ(q:si)(t:Nat):Out->Prop
 | .sw=>False
 | .fail t'=>t<=t'/\t'<=q.D
 | .done ns' t'=>t<=t'/\t'<=q.D/\ns'.length<=q.N
 | .err e=>e=31\/e=32
def Ŕ.O{q:si}{t t2:Nat}{o:Out}(h:Ŕ q t2 o)(ht:t<=t2):Ŕ q t o:=by
 cases o with
 |sw=>exact h
 |fail t'=>exact⟨fj ht h.1,h.2⟩
 |done a0 t'=>exact⟨fj ht h.1,h.2⟩
 |err e=>exact h
def XP{q:si}{k:Option tj->Nat->Out}{m:Nat}(hk:∀o t,m<t->t<=q.D->Ŕ q t (k o t)):∀(os:List (Option tj)) (t:Nat),m<=t->t<=q.D->Ŕ q t (FK q.D k os t)
 | [],t,_,ht=>⟨fx _,ht⟩
 |o::os,t,hm,ht=>by
  rw[FK];by_cases hD:t=q.D
  .rw[fl hD];exact .inl rfl
  .rw[fa hD];have h:=hk o (t+1) oM oM;revert h;cases k o (t+1)with
   |sw=>exact λh=>h.F
   |done a0 t'=>exact λh=>Ŕ.O (o:=.done a0 t') h (Nat.le_succ _)
   |err e=>exact λh=>h
   |fail t'=>exact λh=>(XP hk os t' (by have:=h.1;omega) h.2).O (by have:=h.1;omega)
def QP{q:si}:∀(f:Nat)(ns:Ζ)(k:Nat)(l:Ρ)(e:Η)(t:Nat),t<=q.D->k<ns.length->ns.length<=q.N->(q.D - t)+(q.N - k)+1<=f->Ŕ q t (q.V f ns k l e t)
 |0,_,_,_,_,_,_,_,_,hf=>by omega
 |f+1,ns,k,[],e,t,ht,hk,hN,hf=>by
  rw[si.V];cases h:q.bind ns k e with
  |yw=>exact⟨fx _,ht⟩
  |many=>exact .inr rfl
  |ok a0=>
   obtain⟨h1,h2⟩:=NI h hN;dsimp only;split
   .exact⟨fx _,ht,h2⟩
   .exact QP f a0 (k+1) _ _ t ht oM h2 oM
 |f+1,ns,k,w::l,e,t,ht,hk,hN,hf=>by rw[si.V];exact XP (m:=t) (λo t2 h1 h2=>QP f ns k l _ t2 h2 hk hN oM) _ t nR ht
def WY{q:si}(hN:1<=q.N):Ŕ q 0 q.run:=QP _ _ _ _ _ _ (ib _) Nat.one_pos hN (by unfold si.yf;omega)
def si.res(q:si):ı:=match q.run with
 | .sw=>.err 0
 | .fail _=> .err 30
 | .done ns t=>.done ns t
 | .err e=>.err e
def Zjw{q:si}(hN:1<=q.N):q.End .next q.start q.res:=by
 have h1:=WY hN;have h2:=Zjv (q:=q);unfold si.res;revert h1 h2;cases q.run with
 |sw=>exact λh=>h.F
 |fail t=>exact λ_ h=>h
 |done ns t=>exact λ_ h=>h
 |err e=>exact λ_ h=>h
def xu:xn Edge:=DL 2 24 (λx=>[.string x.Y,vi x.to]) (λx=>Ad x.Y) (λ_=>rfl) (λ_ v hv=>by simp at hv;rcases hv with rfl|rfl<;>rfl)
def uh:xn rz where
 n:=6
 bytes:=88
 rep:=λw S x cs=>Ad x.Y/\∃c e:Sl,cs= [.string x.Y,vi x.v.ma,vi x.v.mi,vi x.v.pa,c.v,e.v]/\No vb w S c x.vd/\No xu w S e x.sq
 len:=λ⟨_,_,_,h,_⟩=>by rw[h];rfl
 one:=λ⟨_,_,_,h,_⟩ v hv=>by rw[h]at hv;simp[Sl.v]at hv;rcases hv with rfl|rfl|rfl|rfl|rfl|rfl<;>rfl
 O:=λ⟨h0,c,e,h,a,b⟩ hs=>⟨h0,c,e,h,a.O hs,b.O hs⟩
 sj:=λ⟨h0,c,e,h,a,b⟩ hk=>⟨h0,c,e,h,a.sj hk,b.sj hk⟩
def Ş:xn Ch where
 n:=5
 bytes:=64
 rep:=λw S x cs=>Ad x.Y/\∃v:Sl,cs= [vi x.py,.string x.Y,v.v,.bool x.none,vi x.i]/\No ă w S v x.vs
 len:=λ⟨_,_,h,_⟩=>by rw[h];rfl
 one:=λ⟨_,_,h,_⟩ v hv=>by rw[h]at hv;simp[Sl.v]at hv;rcases hv with rfl|rfl|rfl|rfl|rfl<;>rfl
 O:=λ⟨h0,c,h,a⟩ hs=>⟨h0,c,h,a.O hs⟩
 sj:=λ⟨h0,c,h,a⟩ hk=>⟨h0,c,h,a.sj hk⟩
def Ty:Bk prog 124 130 5 64:=CL (z:=.agg #[vi 0,.string ⟨#[]⟩,.slice none 0 0,.bool false,vi 0]) kR kR rfl dC
def PO:Bk prog 35 56 6 88:=CL (z:=.agg #[.string ⟨#[]⟩,vi 0,vi 0,vi 0,.slice none 0 0,.slice none 0 0]) kR kR rfl dC
def NE:Bk prog 54 153 2 24:=CL (z:=.agg #[.string ⟨#[]⟩,vi 0]) kR kR rfl dC
def GP:Bk prog 66 3 1 8:=CL (z:=.int .i64 0) kR kR rfl dC
structure K7 where
 cp:LP
 mD:Sl
 yj:Sl
 yn:Sl
 ã:Sl
 uw:Bool
 pS:Sl
def CS(K:K7)(stk nds ahd ws:Sl)(first:Nat):LV:=[.pointer (some K.cp),K.mD.v,K.yj.v,K.yn.v,K.ã.v,.bool K.uw,K.pS.v,stk.v,nds.v,ahd.v,ws.v,vi first]
structure Cs(w:PU)(lo:Nat)(q:si)(K:K7):Prop where
 cat:∃S r,zk w S K.cp r q.L/\(∀b,S b->b<lo)/\r<lo/\K.cp.block<lo
 ss:No ru w (· <lo) K.mD q.m.ss
 dv:No ru w (· <lo) K.yj q.m.uw
 uq:No ru w (· <lo) K.yn q.m.uq
 sd:No ru w (· <lo) K.ã q.m.sd
 rv:No vb w (· <lo) K.pS q.rv
 uw:K.uw=q.uw
 le:lo<=w.heap.size
 small:q.m.ss.length+q.m.uw.length+q.m.uq.length<=48
def Cs.below{q:si}{K:K7}(h:Cs w lo q K)(hb:Below lo w w'):Cs w' lo q K:=by
 obtain⟨S,r,a,b,c,d⟩:=h.cat;have s:=hb.size;have a0:∀x,(S x\/x=K.cp.block\/x=r)->x<lo:=λx hh=>by
  obtain hh|rfl|rfl:=hh
  .exact b x hh
  .exact d
  .exact c
 exact⟨⟨S,r,a.stay s λx hx hh=>hb.block x (a0 x hh),b,c,d⟩,h.ss.below hb λ_ h=>h,h.dv.below hb λ_ h=>h,h.uq.below hb λ_ h=>h,h.sd.below hb λ_ h=>h,h.rv.below hb λ_ h=>h,h.uw,fj h.le s,h.small⟩
def Cs.tm{q:si}{K:K7}(h:Cs w lo q K):Old (· <lo) w:=λb hb=>jo hb h.le
def JP(s:Sl)(g:Nat):Prop:=∀ad,s.a=some ad->ad.block≠g
structure yp(w:PU)(lo:Nat)(g:Nat)(stk nds ahd ws:Sl)(Q:Nat->Prop)(s:St):Prop where
 stack:OF Ş 130 w lo Q stk s.stack
 uk:OF uh 56 w lo Q nds s.ns
 AS:OF yu 3 w lo Q ahd (s.AS.map Int.ofNat)
 ue:No Pw w Q ws s.ws
 q:∀b,Q b->lo<=b/\b≠g
 a1:yl stk nds
 a2:yl stk ahd
 a3:yl nds ahd
 o1:JP stk g
 o2:JP nds g
 o3:JP ahd g
section
variable {w w':PU} {lo g:Nat} {stk nds ahd ws:Sl} {Q:Nat->Prop} {s:St}
def yp.tz(h:yp w lo g stk nds ahd ws Q s)(hb:uv g w w'):yp w' lo g stk nds ahd ws Q s:=by have hg: ¬Q g:=λh0=>(h.q g h0).2 rfl;exact⟨h.stack.tz hb hg λad ha=>(h.o1 ad ha).H,h.uk.tz hb hg λad ha=>(h.o2 ad ha).H,h.AS.tz hb hg λad ha=>(h.o3 ad ha).H,h.ue.tz hb hg,h.q,h.a1,h.a2,h.a3,h.o1,h.o2,h.o3⟩
def yp.U(h:yp w lo g stk nds ahd ws Q s)(hx:AI w w'):yp w' lo g stk nds ahd ws Q s:=
 ⟨h.stack.U hx,h.uk.U hx,h.AS.U hx,h.ue.U hx,h.q,h.a1,h.a2,h.a3,h.o1,h.o2,h.o3⟩
def yp.grow(h:yp w lo g stk nds ahd ws Q s)(hx:AI w w')(a0:lo<=w.heap.size)(hg:g<w.heap.size):yp w' lo g stk nds ahd ws (λb=>Q b\/(w.heap.size<=b/\b<w'.heap.size)) s:=by
 have hs:=hx.size;have key:∀{α:Type} {E:xn α} {T:LN} {x:Sl} {l:List α},OF E T w lo Q x l->OF E T w' lo (λb=>Q b\/(w.heap.size<=b/\b<w'.heap.size)) x l:=λo=>(o.U hx).O (λ_ h=>.inl h) (λb hb=>by
   obtain hb|hb:=hb
   .have:=o.lt b hb;omega
   .exact hb.2) (λad ha hb=>by
   obtain hb|hb:=hb
   .exact o.apart ad ha hb
   .have:=(o.block ha).2.1;omega)
 exact⟨key h.stack,key h.uk,key h.AS,(h.ue.U hx).O λ_ h=>.inl h,λb hb=>by
  obtain hb|hb:=hb
  .exact h.q b hb
  .exact⟨oM,oM⟩,h.a1,h.a2,h.a3,h.o1,h.o2,h.o3⟩
end
def CV(w:PU)(lo:Nat)(sp:LP)(K:K7)(s:St):Prop:=∃stk nds ahd ws Q,AT w sp (CS K stk nds ahd ws s.first)/\lo<=sp.block/\yp w lo sp.block stk nds ahd ws Q s
def _root_.Go.Hal.AI.ut(h:AI w w')(lo:Nat)(hl:lo<=w.heap.size):Below lo w w':=Below.O h hl
def IX{a:LP}(h:AT w a cs):a.block<w.heap.size:=h.lt
def Yg(sd a b:Θ):(FP sd a b).length=a.length+b.length:=by unfold FP;rw[Su,du,ec,ec]
def Zjk(m:vz)(uw:Bool):(EV m uw).length<=m.ss.length+m.uw.length:=by
 unfold EV;split
 .rw[du];exact fx _
 .omega
def Zda{l:List tj}(h:tq tj.c 24 w lo s l):No ă w (λb=>lo<=b/\b<w.heap.size) s l:=tq.A (E:=ă) h (λ_=>rfl) λ_ _ x _=>⟨rfl,trivial⟩
def Z8{c:Ch}{v:Sl}{R:È}(hv:No ă w S v c.vs)(hl:c.vs.length<=1000)(hR:∀w',AI w w'->R (c.many:Int) w'):Mw c.py c.Y v c.none c.i w R:=by
 unfold Mw;have a0:=hv.len;refine An.intro λa w1 x1 ha _ _=>⟨c.none,AT.at1 ha (k:=3) xR rfl,λh=>?_,λh=>?_⟩
 .refine⟨v,AT.at1 ha (k:=2) xR rfl,?_⟩;have e:Aa ((v.len:Int)+1)=(c.many:Int):=by rw[Ai oM oM];unfold Ch.many;rw[fl h];omega
  rw[e];exact hR _ x1
 .refine⟨v,AT.at1 ha (k:=2) xR rfl,?_⟩;have e:(v.len:Int)=(c.many:Int):=by unfold Ch.many;rw[fa (by rw[h];decide)];omega
  rw[e];exact hR _ x1
def RK{n:Pr}{R:Int->Int->Int->É}(hs:No vb w S s l)
  (a6:∀v w',vc l n=some v->AI w w'->R v.ma v.mi v.pa true w') (a5:∀w',vc l n=none->AI w w'->R 0 0 0 false w'):H6 s n w R:=by
 unfold H6;have hl:=hs.len;refine An.intro λa w1 x1 ha b9 _=>?_;refine Of.up hs.max (λi w'=>AI w1 w'/\(l.take i).find? (Az n)=none) ⟨AI.refl _,rfl⟩ λi w2 c4 hi ⟨x2,hI⟩ hn=>⟨λb0=>?_,λc3=>?_⟩
 .have a0:i<l.length:=oM;have b6:=x1.Z x2;obtain⟨ad,b2,_,hN,hc⟩:=CE hs a0;refine⟨ad,⟨b2,oM,b0⟩,_,_,_,_,hc _ b6,An.intro λa3 w3 x3 a4 b8 _=>tk.intro a4 sI λw4 b4 _ a8=>?_⟩;have b7:AI w2 w4:=b4.U x3 oM;have a7:=x2.Z b7;refine⟨_,a8.at0 xR rfl,λhe=>?_,λhe=>?_⟩
  .refine⟨_,_,_,AT.at1 a8 (k:=1) xR rfl,tk.intro (ha.U a7) sI λw5 b5 _ a9=>⟨_,_,_,a9.at0 (r:=[]) xR rfl,?_⟩⟩;have hf:=QK (p:=Az n) a0 hI (by simp[Az,he]);exact a6 l[i].v w5 (by unfold vc;rw[hf];rfl) (b5.U (x1.Z a7) oM)
  .refine hn a0 _ ⟨a7,?_⟩;rw[S4 a0 hI,fa (by simp[Az,he])]
 .have:i=l.length:=oM;rw[this,eh]at hI;refine tk.intro (ha.U x2) sI λw3 b3 _ a4=>⟨_,_,_,a4.at0 (r:=[]) xR rfl,a5 w3 (by unfold vc;rw[hI];rfl) (b3.U (x1.Z x2) oM)⟩
end Go.Hal
namespace Go.Hal
structure ý(q:si)(e:Nat)(s:St):Prop where
 a:s.AS.length<s.ns.length
 n:s.ns.length<=q.N
 b:∀i a:Nat,s.AS[i]?=some a->i<a/\a<=s.ns.length
 m:∀i j a b:Nat,i<=j->s.AS[i]?=some a->s.AS[j]?=some b->a<=b
 st:(s.stack.map (·.py)).Pairwise (λa b:Nat=>a<=b)
 ŏ:∀n∈s.stack.map (·.py),n<=s.AS.length
 f:s.first+e<=s.stack.length
 c:∀x∈s.ns,(x.vd.map (·.Y)).Nodup/\x.vd.length<=2048
 v:∀v∈s.stack.map (·.vs),v.length<=1000
 d:s.dec<=q.D
 k:s.stack.length<=s.dec+e
 i0:∀c∈s.stack.dropLast,c.i<=1000
 i1:∀c∈s.stack,c.i<=1000+e
def Î(q:si):Lb->St->Prop
 | .next,s=>ý q 0 s
 | .à,s=>ý q 1 s
 | .back,s=>ý q 0 s
def ZS(hg:zf L){sd:Θ}{env:Η}{p:tn}{c:Η}(h:Dj L sd env p=some c):(c.map (·.Y)).Nodup/\c.length<=2048:=by refine⟨(ZX h).1.nodup,?_⟩;unfold Dj vd at h;obtain⟨o,h1,rfl⟩:=kx.1 h;rw[(Fa o).length_eq];exact Uf hg (Qp _ _ _ _ ö.zero h1)
def XJ{q:si}{env:Η}:∀{ps:Η} {xs:Ζ},Cj q env ps=some xs->∀x∈xs,∃p∈ps,x.Y=p.Y/\x.v=p.v/\Dj q.L q.m.sd env p=some x.vd/\x.sq=[]
 | [],xs,h,x,hx=>by rw[Cj]at h;cases h;cases hx
 |p::r,xs,h,x,hx=>by
  rw[Cj]at h;cases h1:Dj q.L q.m.sd env p with
  |none=>rw[h1]at h;cases h
  |some c=>
   rw[h1]at h;obtain⟨ys,h2,rfl⟩:=kx.1 h;obtain rfl|hx:=gn.1 hx
   .exact⟨p,.head _,rfl,rfl,h1,rfl⟩
   .obtain⟨p',hp,k⟩:=XJ h2 x hx;exact⟨p',.tail _ hp,k⟩
def R6{N:Nat}:∀{xs:Ζ} {ks:List Fp} {r:Ζ×LQ},Bv N ks xs=some r->∀x∈r.1,x∈xs
 | [],ks,r,h,x,hx=>by rw[Bv]at h;cases h;cases hx
 |y::ys,ks,r,h,x,hx=>by
  rw[Bv]at h;cases hf:ks.findIdx? λz=>decide (z=y.key)with
  |some i=>rw[hf]at h;obtain⟨r',h1,rfl⟩:=kx.1 h;exact .tail _ (R6 h1 x hx)
  |none=>
   rw[hf]at h;dsimp only at h;by_cases hN:ks.length=N
   .rw[fl hN]at h;cases h
   .rw[fa hN]at h;obtain⟨r',h1,rfl⟩:=kx.1 h;obtain rfl|hx:=gn.1 hx
    .exact .head _
    .exact .tail _ (R6 h1 x hx)
def Zj7{ns:Ζ}{k:Nat}{es:LQ}{x:rz}(hx:x∈CQ ns k es):∃y∈ns,y.vd=x.vd:=by have h:x.key∈(CQ ns k es).map rz.key:=ja hx;rw[Pb]at h;obtain⟨y,hy,e⟩:=ij.1 h;exact⟨y,hy,jt (·.2.2) e⟩
def TJ{β:Type}(f:Ch->β)(hf:∀c i,f {c with i:=i}=f c)(l:Ο):(Ba l).map f=l.map f:=by
 unfold Ba;apply qv;intro i;rw[gu,gu,nw];cases l[i]? with
 |none=>rfl
 |some c=>by_cases h:l.length - 1=i<;>simp[h,hf]
def TI(l:Ο):(Ba l).length=l.length:=by unfold Ba;rw[List.length_modify]
def Zu{q:si}{c:Η}{w:xr}(hC:∀n r p,(DI q.L n r p).length<=1000):(q.ym c w).1.length<=1000:=by
 unfold si.ym;split
 .dsimp only;split<;>simp
 .exact hC _ _ _
def C7(ns:Ζ)(AS:Wd)(k:Nat):Ζ:=match AS[k]? with
 |some a=>ns.take a
 |none=>ns
def FZ(q:si)(s:St)(k:Nat):St:={s with stack:=Ba s.stack,ns:=C7 s.ns s.AS k,AS:=s.AS.take k,ws:=q.ue (C7 s.ns s.AS k) k,first:=(Ba s.stack).findIdx λx=>decide (x.py=k)}
def Na(q:si)(s:St):q.step .back s=match s.stack.getLast? with
  |none=>.err 30
  |some c=>.V .à (FZ q s c.py):=rfl
def Î.step{q:si}(hG:zf q.L)(hC:∀n r p,(DI q.L n r p).length<=1000){l l':Lb}{s s':St}(h:Î q l s)(hs:q.step l s= .V l' s'):Î q l' s':=by
 cases l with
 |next=>
  have h:ý q 0 s:=h;rw[si.step]at hs;cases hw:s.ws[s.stack.length - s.first]? with
  |some w=>
   rw[hw]at hs;cases hs;have hk:=h.k;exact⟨h.a,h.n,h.b,h.m,by
    rw[gb,jc];exact⟨h.st,lq _ _,λx hx y hy=>by simp only[io,ph,ep]at hy;subst hy;exact h.ŏ x hx⟩,λn hn=>by
    rw[gb,fp]at hn;obtain hn|hn:=hn
    .exact h.ŏ n hn
    .simp only[io,ph,ep]at hn;subst hn;exact fx _,by
    show s.first+1<=(s.stack++_).length;have:=h.f;rw[du,gq];omega,h.c,λv hv=>by
    rw[gb,fp]at hv;obtain hv|hv:=hv
    .exact h.v v hv
    .simp only[io,ph,ep]at hv;subst hv;exact Zu hC,h.d,by
    show(s.stack++_).length<=s.dec+1;have c4:s.stack.length<=s.dec+0:=h.k;rw[du,gq];omega,λc hc=>by
    replace hc:c∈(s.stack++[_]).dropLast:=hc;rw[nx]at hc;exact h.i1 c hc,λc hc=>by
    obtain hc|hc:=fp.1 hc
    .exact Nat.le_succ_of_le (h.i1 c hc)
    .simp only[ep]at hc;subst hc;exact ib _⟩
  |none=>
   rw[hw]at hs;dsimp only at hs;cases hb:q.bind s.ns s.AS.length s.env with
   |yw=>rw[hb]at hs;cases hs;exact h
   |many=>rw[hb]at hs;cases hs
   |ok a8=>
    rw[hb]at hs;dsimp only at hs;split at hs
    .cases hs
    .rename_i b7;cases hs;obtain⟨h1,h2⟩:=NI hb h.n;have ha:=h.a;have b2:∀x∈a8,(x.vd.map (·.Y)).Nodup/\x.vd.length<=2048:=by
      unfold si.bind at hb;cases ht:Cj q (B9 s.env) (B9 s.env)with
      |none=>rw[ht]at hb;cases hb
      |some xs=>
       rw[ht]at hb;dsimp only at hb;cases hp:Bv q.N (s.ns.map rz.key) xs with
       |none=>rw[hp]at hb;cases hb
       |some r=>
        rw[hp]at hb;cases hb;intro x hx;obtain hx|hx:=fp.1 hx
        .obtain⟨y,hy,e⟩:=Zj7 hx;rw[<-e];exact h.c y hy
        .obtain⟨p,_,_,_,hc,_⟩:=XJ ht x (R6 hp x hx);exact ZS hG hc
     refine⟨by show(s.AS++[s.ns.length]).length<a8.length;rw[du,gq];omega,h2,λi a hi=>?_,λi j a b a6 hi hj=>?_,h.st,λn hn=>?_,fx _,b2,h.v,h.d,h.k,h.i0,h.i1⟩
     .show i<a/\a<=a8.length;replace hi:(s.AS++[s.ns.length])[i]?=some a:=hi;rw[ni]at hi;split at hi
      .have:=h.b i a hi;exact⟨this.1,oM⟩
      .rw[List.getElem?_singleton]at hi;split at hi
       .cases hi;exact⟨oM,h1⟩
       .cases hi
     .replace hi:(s.AS++[s.ns.length])[i]?=some a:=hi;replace hj:(s.AS++[s.ns.length])[j]?=some b:=hj;rw[ni]at hi hj;split at hj
      .rw[fl oM]at hi;exact h.m i j a b a6 hi hj
      .rw[List.getElem?_singleton]at hj;split at hj
       .cases hj;split at hi
        .exact(h.b i a hi).2
        .rw[List.getElem?_singleton]at hi;split at hi
         .cases hi;exact fx _
         .cases hi
       .cases hj
     .have:=h.ŏ n hn;show n<=(s.AS++[s.ns.length]).length;rw[du];omega
 |à=>
  have h:ý q 1 s:=h;rw[si.step]at hs;cases hl:s.stack.getLast? with
  |none=>rw[hl]at hs;cases hs
  |some c=>
   rw[hl]at hs;dsimp only at hs;have hk:=h.k;have hd:=h.d;split at hs
   .rename_i a7;split at hs
    .cases hs
    .rename_i b7;cases hs;exact⟨h.a,h.n,h.b,h.m,h.st,h.ŏ,by have:=h.f;show s.first+0<=s.stack.length;omega,h.c,h.v,by show s.dec+1<=q.D;omega,by show s.stack.length<=s.dec+1+0;omega,h.i0,λx hx=>by
      obtain⟨pre,a0⟩:=pp.1 hl;have h0:=h.i0;rw[a0,nx]at h0;replace hx:x∈s.stack:=hx;rw[a0]at hx;obtain hx|hx:=fp.1 hx
      .exact h0 x hx
      .simp only[ep]at hx;subst hx;have h2:=h.v x.vs (ja (by rw[a0];simp));unfold Ch.many at*;split at a7<;>omega⟩
   .cases hs;have a5:List.Sublist s.stack.dropLast s.stack:=List.dropLast_sublist _;have b8:s.stack.dropLast.length=s.stack.length - 1:=List.length_dropLast;refine⟨h.a,h.n,h.b,h.m,h.st.sublist (a5.map _),λn hn=>h.ŏ n ((a5.map _).subset hn),?_,h.c,λv hv=>h.v v ((a5.map _).subset hv),hd,?_,λc hc=>h.i0 c (List.dropLast_subset _ hc),h.i0⟩
    .have:=h.f;show s.first+0<=s.stack.dropLast.length;omega
    .have:=h.f;show s.stack.dropLast.length<=s.dec+0;omega
 |back=>
  have h:ý q 0 s:=h;rw[Na]at hs;cases hl:s.stack.getLast? with
  |none=>rw[hl]at hs;cases hs
  |some c=>
   rw[hl]at hs;dsimp only at hs;cases hs;obtain⟨pre,a0⟩:∃pre,s.stack=pre++[c]:=pp.1 hl;have c3:c.py<=s.AS.length:=h.ŏ _ (by rw[a0];simp);have a9:∀n∈s.stack.map (·.py),n<=c.py:=λn hn=>by
    have b4:=h.st;rw[a0,gb,jc]at b4;rw[a0,gb,fp]at hn;obtain hn|hn:=hn
    .exact b4.2.2 n hn _ sI
    .simp at hn;omega
   have b5:(s.AS.take c.py).length=c.py:=(by rw[fg];omega);have ha:=h.a;have hn:=h.n;have key:∀a4,C7 s.ns s.AS c.py=a4->c.py<a4.length/\a4.length<=s.ns.length/\(∀i a,i<c.py->s.AS[i]?=some a->a<=a4.length)/\∀x∈a4,x∈s.ns:=λa4 e=>by
    unfold C7 at e;cases hx:s.AS[c.py]? with
    |some a=>rw[hx]at e;dsimp only at e;have h1:=h.b _ a hx;subst e;refine⟨by rw[fg];omega,by rw[fg];omega,λi b hi hb=>?_,λx hx=>kw hx⟩;have:=h.m i c.py b a oM hb hx;rw[fg];omega
    |none=>rw[hx]at e;dsimp only at e;subst e;have:=pq.1 hx;exact⟨oM,fx _,λi b _ hb=>(h.b i b hb).2,λx hx=>hx⟩
   obtain⟨k1,k2,k3,k4⟩:=key _ rfl;have b0:(Ba s.stack).map (·.py)=s.stack.map (·.py):=TJ _ (λ_ _=>rfl) _;have b6:(Ba s.stack).map (·.vs)=s.stack.map (·.vs):=TJ _ (λ_ _=>rfl) _;have b9:=TI s.stack;have hk:=h.k;refine⟨by show(s.AS.take c.py).length<(C7 s.ns s.AS c.py).length;omega,by show(C7 s.ns s.AS c.py).length<=q.N;omega,λi a hi=>?_,λi j a b a6 hi hj=>?_,by show((Ba s.stack).map (·.py)).Pairwise _;rw[b0];exact h.st,λn hn=>?_,?_,λx hx=>h.c x (k4 x hx),λv hv=>h.v v (by rwa [<-b6]),h.d,by show(Ba s.stack).length<=s.dec+1;omega,λx hx=>by
    replace hx:x∈(Ba s.stack).dropLast:=hx;rw[a0,GW,nx]at hx;exact h.i1 x (by rw[a0];simp[hx]),λx hx=>by
    replace hx:x∈Ba s.stack:=hx;rw[a0,GW]at hx;obtain hx|hx:=fp.1 hx
    .exact Nat.le_succ_of_le (h.i1 x (by rw[a0];simp[hx]))
    .simp only[ep]at hx;subst hx;exact Nat.succ_le_succ (h.i1 c (by rw[a0];simp))⟩
   .replace hi:(s.AS.take c.py)[i]?=some a:=hi;rw[mh]at hi;split at hi
    .rename_i a7;exact⟨(h.b i a hi).1,k3 i a a7 hi⟩
    .cases hi
   .replace hi:(s.AS.take c.py)[i]?=some a:=hi;replace hj:(s.AS.take c.py)[j]?=some b:=hj;rw[mh]at hi hj;split at hj
    .rw[fl oM]at hi;exact h.m i j a b a6 hi hj
    .cases hj
   .show n<=(s.AS.take c.py).length;rw[b5];exact a9 n (by rwa [<-b0])
   .show(Ba s.stack).findIdx _+1<=(Ba s.stack).length;rw[a0,GW];have:(pre++[{c with i:=c.i+1}]).findIdx (λx:Ch=>decide (x.py=c.py))<(pre++[{c with i:=c.i+1}]).length:=List.findIdx_lt_length_of_exists ⟨{c with i:=c.i+1},by simp,by simp⟩;omega
def Î.start{q:si}(hN:1<=q.N):Î q .next q.start:=
 ⟨Nat.one_pos,hN,λi a h=>(by simp[si.start]at h),λi j a b _ h=>(by simp[si.start]at h),List.Pairwise.nil,(λ_ h=>by cases h),ib _,λx hx=>(by have e:x=ui:=ep.1 hx;subst e;exact⟨List.nodup_nil,ib _⟩),(λ_ h=>by cases h),ib _,ib _,(λ_ h=>by cases h),(λ_ h=>by cases h)⟩
def ĭ:LU:=[100,101,118]
def ħ:LU:=[112,105,110,115]
def Û:LU:=[112,114,111,106,101,99,116,10]
def CZ(m:vz):LU:=(((Û++B1 yd m.ss)++B1 ĭ m.uw)++B1 yv m.uq)++B1 ħ m.sd
def Dm(m:vz):Bool:=Au m.ss&&Au m.uw&&Au m.uq&&Au m.sd
def Hq(m:vz):Bool:=Br m.ss m.uw&&Br m.ss m.uq&&Br m.uw m.uq
def AF(m:vz):Bool:=Dm m&&(Hq m&&decide ((CZ m).length<=4096))
def C2:Θ->Bool
 | []=>true
 | [_]=>true
 |x::y::r=>!decide (A8 y.Y x.Y<0)&&C2 (y::r)
def Dp(d:um):Bool:=Ae d.Y&&AN d.range&& !d.range.isEmpty
def wk(l:Θ):Bool:=decide (l.length<=16)&&C2 l&&l.all Dp
def BH(a b c:Θ):Bool:=Au a&&Au b&&Au c&&decide ((a++b++c).map (·.Y)).Nodup
def Um:∀{l:Θ} {p:Option Pr},Bb p l=true->C2 l=true/\l.all Dp=true
 | [],_,_=>⟨rfl,rfl⟩
 | [x],p,h=>by rw[Bb]at h;simp only[dz]at h;exact⟨rfl,by simp[Dp,h.1.1.1.1,h.1.1.1.2,h.1.1.2]⟩
 |x::y::r,p,h=>by
  rw[Bb]at h;simp only[dz]at h;obtain⟨h1,h2⟩:=Um h.2;rw[Bb]at h;simp only[dz,FX]at h;refine⟨?_,?_⟩
  .rw[C2,h1];have h3:Ak x.Y y.Y=true:=h.2.1.2;have h4: ¬A8 y.Y x.Y<0:=λhc=>by rw[Ir,NG h3]at hc;cases hc
   simp[h4]
  .rw[ob,h2];simp[Dp,h.1.1.1.1,h.1.1.1.2,h.1.1.2]
def Qy{l:Θ}(h:Au l=true):wk l=true:=by unfold Au at h;simp only[dz]at h;obtain⟨h1,h2⟩:=Um h.1;unfold wk;rw[h1,h2,h.2];rfl
def Yk:∀{l:Θ} {p:Option Pr},C2 l=true->l.all Dp=true->(l.map (·.Y)).Nodup->(∀x,l.head? =some x->FX p x.Y=true)->Bb p l=true
 | [],_,_,_,_,_=>rfl
 | [x],p,_,h2,_,h4=>by rw[Bb,Bb,h4 x rfl];simp[Dp]at h2;simp[h2]
 |x::y::r,p,h1,h2,h3,h4=>by
  rw[C2]at h1;rw[ob]at h2;rw[dz]at h1 h2;rw[io,qg]at h3;rw[Bb,h4 x rfl,Yk h1.2 h2.2 h3.2 λz hz=>?_]
  .have:=h2.1;unfold Dp at this;rw[this];rfl
  .simp only[List.head?_cons,eu]at hz;subst hz;show Ak x.Y y.Y=true;have h5: ¬A8 y.Y x.Y<0:=by simpa using h1.1
   have hO:=DJ (α:=Pr) id;have:=hO.flip y.Y x.Y;have:=hO.flip x.Y y.Y;simp only[id]at*;refine JW oM λe=>h3.1 ?_;rw[e];simp
def SK{l:Θ}(h:wk l=true)(hn:(l.map (·.Y)).Nodup):Au l=true:=by unfold wk at h;simp only[dz]at h;unfold Au;rw[Yk h.1.2 h.2 hn λ_ _=>rfl,h.1.1];rfl
def Znf{a b c:Θ}(ha:wk a=true)(hb:wk b=true)(hc:wk c=true):BH a b c=decide ((a++b++c).map (·.Y)).Nodup:=by
 unfold BH;cases h:decide ((a++b++c).map (·.Y)).Nodup
 .rw[Bool.and_false]
 .have hn:=jg h;rw[gb,gb,jl,jl]at hn;rw[SK ha hn.1.1,SK hb hn.1.2.1,SK hc hn.2.1];rfl
def Rl{a b c:Θ}(h:wk a=false\/wk b=false\/wk c=false):BH a b c=false:=by
 cases hm:BH a b c
 .rfl
 .unfold BH at hm;simp only[dz]at hm;obtain h|h|h:=h
  .rw[Qy hm.1.1.1]at h;cases h
  .rw[Qy hm.1.1.2]at h;cases h
  .rw[Qy hm.1.2]at h;cases h
def Rj(a b c:Θ):BH a b c=(Au a&&Au b&&Au c&&(Br a b&&Br a c&&Br b c)):=by
 unfold BH;cases h:(Au a&&Au b&&Au c)
 .simp
 .simp only[dz]at h;rw[ic,ic,gp,fk,dz,dz,GR,GR,GR];have h1:=Iy h.1.1;have h2:=Iy h.1.2;have h3:=Iy h.2;rw[gb,gb,jl,jl];constructor
  .rintro⟨⟨_,_,h4⟩,_,h5⟩;exact⟨⟨h4,λx hx y hy=>h5 x (jd _ hx) y hy⟩,λx hx y hy=>h5 x (li _ hx) y hy⟩
  .rintro⟨⟨h4,h5⟩,h6⟩;exact⟨⟨h1,h2,h4⟩,h3,λx hx y hy=>(fp.1 hx).F (λhx=>h5 x hx y hy) λhx=>h6 x hx y hy⟩
def VN(l:Θ):BH l [] []=Au l:=by
 rw[Rj];have:Br l []=true:=by rw[GR];intro x _ y hy;simp at hy
 have h2:Br ([]:Θ) []=true:=rfl;have h3:Au []=true:=rfl;rw[this,h2,h3];simp
def Zft(m:vz):AF m=((BH m.ss m.uw m.uq&&BH m.sd [] [])&&decide ((CZ m).length<=4096)):=by rw[VN,Rj];unfold AF Dm Hq;cases Au m.ss<;>cases Au m.uw<;>cases Au m.uq<;>cases Au m.sd<;>simp
def V9(h:AF m=true):Au m.ss=true/\Au m.uw=true/\Au m.uq=true/\Au m.sd=true/\Hq m=true:=by unfold AF Dm at h;simp only[dz]at h;exact⟨h.1.1.1.1,h.1.1.1.2,h.1.1.2,h.1.2,h.2.1⟩
def Zfv(h:AF m=true):m.ss.length+m.uw.length+m.uq.length<=48:=by obtain⟨h1,h2,h3,_⟩:=V9 h;have:=(B5 h1).1;have:=(B5 h2).1;have:=(B5 h3).1;omega
def vq{α:Type}(f:α->Pr)(l:List α):Prop:=l.Pairwise λa b=>Ak (f a) (f b)=true
def Zjb{α:Type}{f:α->Pr}{l:List α}{a x:α}(h:vq f (l++[a]))(hx:Ak (f a) (f x)=true):vq f (l++[a]++[x]):=by
 unfold vq at*;rw[jc];refine⟨h,by simp,λb hb c hc=>?_⟩;simp only[ep]at hc;subst hc;obtain hb|hb:=fp.1 hb
 .exact GU ((jc.1 h).2.2 b hb a sI) hx
 .simp only[ep]at hb;subst hb;exact hx
def vq.nodup{α:Type}{f:α->Pr}{l:List α}(h:vq f l):(l.map f).Nodup:=by rw[il,jb];exact h.imp λh=>Fw h
def vq.inj{α:Type}{f:α->Pr}{l:List α}(h:vq f l){a b:α}(ha:a∈l)(hb:b∈l)(he:f a=f b):a=b:=by
 obtain⟨i,hi,rfl⟩:=gc.1 ha;obtain⟨j,hj,rfl⟩:=gc.1 hb;have hp:=gz.1 h;obtain a0|rfl|a0:=Nat.lt_trichotomy i j
 .exact fm he (Fw (hp i j hi hj a0))
 .rfl
 .exact fm he.H (Fw (hp j i hj hi a0))
def A2(g:Ζ)(k:Nat):LQ:=match g[k]? with
 |some x=>x.sq
 |none=>[]
def Iz(g:Ζ)(x:rz)(n:Pr):Option rz:=(x.sq.find? λe=>decide (e.Y=n)).bind λe=>g[e.to.toNat]?
def Za0{g:Ζ}{x y:rz}{n:Pr}(h:Iz g x n=some y):∃e∈x.sq,e.Y=n/\g[e.to.toNat]?=some y:=by unfold Iz at h;obtain⟨e,h1,h2⟩:=Option.bind_eq_some_iff.1 h;exact⟨e,na h1,by simpa using qk h1,h2⟩
abbrev As:=List Pr
structure Dr where
 BY:As
 py:Nat
abbrev Μ:=List Dr
structure Stl where
 uj:Nat
 label:Pr
 dst:Nat
 deriving DecidableEq
structure wv where
 By:Μ
 done:List Stl
def A0(ds:Μ)(p:As):Β:=ds.findIdx? λd=>decide (d.BY=p)
def AK(ds:Μ)(p:As)(x:Pr):Nat->Β
 |0=>A0 ds (p.take 0++[x])
 |k+1=>match A0 ds (p.take (k+1)++[x])with
  |some i=>some i
  |none=>AK ds p x k
def Af(ds:Μ)(i:Nat):As:=match ds[i]? with
 |some d=>d.BY
 |none=>[]
structure zm(s:wv)(p:As)(x:Pr)(n:Nat):Prop where
 le:n<=p.length
 clear:∀k,n<=k->k<=p.length->A0 s.By (p.take k++[x])=none
 sj:∀t∈s.done,t.label=x->p.take n<+:Af s.By t.uj->n<(Af s.By t.dst).length
structure Ĕ(s:wv)(p:As)(x:Pr)(xy:Nat->Bool)(n:Nat):Prop where
 spot:zm s p x n
 Xc7:∀m,zm s p x m->xy m=true->xy n=true
 Xc5:∀m,zm s p x m->xy m=xy n->n<=m
def Ĕ.one{s:wv}{p:As}{x:Pr}{xy:Nat->Bool}{m:Nat}(h:Ĕ s p x xy n)(k:Ĕ s p x xy m):n=m:=by
 have he:xy m=xy n:=by
  cases h1:xy m with
  |true=>exact(h.Xc7 m k.spot h1).H
  |false=>
   cases h2:xy n with
   |false=>rfl
   |true=>have:=k.Xc7 n h.spot h2;rw[h1]at this;cases this
 exact Nat.le_antisymm (h.Xc5 m k.spot he) (k.Xc5 n h.spot he.H)
structure Œ where
 g:Ζ
 xy:As->Nat->Bool
 Xbn:As->Nat
 Xbc:Int
 ţ:Int
def BP(g:Ζ)(i:Nat):Η:=match g[i]? with
 |some x=>x.vd
 |none=>[]
def AB(g:Ζ)(at_:Nat)(e:Edge):Nat:=if(BP g at_).any (Az e.Y)then 1 else if(BP g e.to.toNat).length=0 then 2 else 3
def ud(ds:Μ)(i:Nat):Nat:=match ds[i]? with
 |some d=>d.py
 |none=>0
def Fc(s:wv)(uj:Nat)(x:Pr):Β:=(s.done.find? λt=>decide (t.uj=uj/\t.label=x)).map Stl.dst
def HU(I:Œ)(s:wv)(uj to:Nat):Prop:=∀q∈BP I.g (ud s.By to),∃d,Fc s uj q.Y=some d/\AK s.By (Af s.By to) q.Y (Af s.By to).length=some d
def zh(I:Œ)(s:wv)(uj:Nat)(e:Edge)(tc to:Nat):Prop:=AK s.By (Af s.By uj) e.Y (Af s.By uj).length=some to/\(ud s.By to:Int)=e.to/\(tc=3->HU I s uj to)
inductive xh (I:Œ) (s:wv) (uj:Nat) (e:Edge) (tc:Nat):Int->wv->Prop
 |found (to:Nat):zh I s uj e tc to->xh I s uj e tc 0 ⟨s.By,s.done++[⟨uj,e.Y,to⟩]⟩
 |lost:(∀to,¬zh I s uj e tc to)->tc=1->xh I s uj e tc 33 s
 |put (n:Nat):(∀to,¬zh I s uj e tc to)->tc≠1->(tc=2->Ĕ s (Af s.By uj) e.Y (λn=>I.xy ((Af s.By uj).take n++[e.Y]) e.to.toNat) n)->(tc=3->n=(Af s.By uj).length)->
   (I.Xbn ((Af s.By uj).take n++[e.Y]):Int)<=I.Xbc->(s.By.length:Int)<=I.ţ->
   xh I s uj e tc 0 ⟨s.By++[⟨(Af s.By uj).take n++[e.Y],e.to.toNat⟩],s.done++[⟨uj,e.Y,s.By.length⟩]⟩
 |long (n:Nat):(∀to,¬zh I s uj e tc to)->tc≠1->(tc=2->Ĕ s (Af s.By uj) e.Y (λn=>I.xy ((Af s.By uj).take n++[e.Y]) e.to.toNat) n)->(tc=3->n=(Af s.By uj).length)->
   I.Xbc<(I.Xbn ((Af s.By uj).take n++[e.Y]):Int)->xh I s uj e tc 40 s
 |deep (n:Nat):(∀to,¬zh I s uj e tc to)->tc≠1->(tc=2->Ĕ s (Af s.By uj) e.Y (λn=>I.xy ((Af s.By uj).take n++[e.Y]) e.to.toNat) n)->(tc=3->n=(Af s.By uj).length)->
   (I.Xbn ((Af s.By uj).take n++[e.Y]):Int)<=I.Xbc->I.ţ<(s.By.length:Int)->xh I s uj e tc 41 s
def zh.one{I:Œ}{s:wv}{uj b:Nat}{e:Edge}(h:zh I s uj e tc a)(k:zh I s uj e tc b):a=b:=by have:=h.1.H.Z k.1;exact jv this
def Ms{s:wv}{p:As}{x:Pr}{xy:Nat->Bool}{m:Nat}(h1:tc≠1)(hk:tc=1\/tc=2\/tc=3)(a:tc=2->Ĕ s p x xy n)(b:tc=3->n=p.length)(a':tc=2->Ĕ s p x xy m)(b':tc=3->m=p.length):n=m:=by
 obtain h|h|h:=hk
 .exact fm h h1
 .exact(a h).one (a' h)
 .rw[b h,b' h]
def xh.one{I:Œ}{s:wv}{uj:Nat}{e:Edge}{c:Int}{t u:wv}(hk:tc=1\/tc=2\/tc=3)(h:xh I s uj e tc c t)(k:xh I s uj e tc d u):c=d/\t=u:=by
 cases h with
 |found to h=>
  cases k with
  |found a5 h'=>rw[h.one h'];exact⟨rfl,rfl⟩
  |lost h' _=>exact fm h (h' to)
  |put _ h'=>exact fm h (h' to)
  |long _ h'=>exact fm h (h' to)
  |deep _ h'=>exact fm h (h' to)
 |lost h h1=>
  cases k with
  |found to h'=>exact fm h' (h to)
  |lost=>exact⟨rfl,rfl⟩
  |put _ _ h'=>exact fm h1 h'
  |long _ _ h'=>exact fm h1 h'
  |deep _ _ h'=>exact fm h1 h'
 |put n h h1 a b hP hD=>
  cases k with
  |found to h'=>exact fm h' (h to)
  |lost _ h'=>exact fm h' h1
  |put m _ _ a' b'=>have:=Ms h1 hk a b a' b';subst this;exact⟨rfl,rfl⟩
  |long m _ _ a' b' a0=>have:=Ms h1 hk a b a' b';subst this;omega
  |deep m _ _ a' b' _ a4=>omega
 |long n h h1 a b hP=>
  cases k with
  |found to h'=>exact fm h' (h to)
  |lost _ h'=>exact fm h' h1
  |put m _ _ a' b' a0=>have:=Ms h1 hk a b a' b';subst this;omega
  |long=>exact⟨rfl,rfl⟩
  |deep m _ _ a' b' a0=>have:=Ms h1 hk a b a' b';subst this;omega
 |deep n h h1 a b hP hD=>
  cases k with
  |found to h'=>exact fm h' (h to)
  |lost _ h'=>exact fm h' h1
  |put m _ _ a' b' a0 a4=>omega
  |long m _ _ a' b' a0=>have:=Ms h1 hk a b a' b';subst this;omega
  |deep=>exact⟨rfl,rfl⟩
def EF{ds:Μ}{p:As}(h:A0 ds p=some i):∃d,ds[i]?=some d/\d.BY=p:=by unfold A0 at h;obtain⟨hl,h1,_⟩:=mo.1 h;exact⟨ds[i],dt hl,by simpa using h1⟩
def UH{ds:Μ}{p:As}:A0 ds p=none↔∀d∈ds,d.BY≠p:=by unfold A0;rw[nv];simp
def KA{ds t:Μ}{p:As}(h:A0 ds p=some i):A0 (ds++t) p=some i:=by unfold A0 at*;rw[List.findIdx?_append,h];rfl
def Zc4{ds:Μ}{p:As}(h:∃d∈ds,d.BY=p):∃i,A0 ds p=some i:=by
 cases hf:A0 ds p with
 |some i=>exact⟨i,rfl⟩
 |none=>obtain⟨d,h1,h2⟩:=h;exact fm h2 (UH.1 hf d h1)
def Cp{ds:Μ}{d:Dr}(h:ds[i]?=some d):Af ds i=d.BY:=by unfold Af;rw[h]
def Hs{ds:Μ}{d:Dr}(h:ds[i]?=some d):ud ds i=d.py:=by unfold ud;rw[h]
def Wt{ds t:Μ}(h:i<ds.length):Af (ds++t) i=Af ds i:=by unfold Af;rw[gl h]
def Hr{ds t:Μ}(h:i<ds.length):ud (ds++t) i=ud ds i:=by unfold ud;rw[gl h]
def OA{ds:Μ}{p:As}{x:Pr}:∀{k i:Nat},AK ds p x k=some i->∃n,n<=k/\A0 ds (p.take n++[x])=some i/\∀m,n<m->m<=k->A0 ds (p.take m++[x])=none
 |0,i,h=>⟨0,fx _,h,λm h1 h2=>by omega⟩
 |k+1,i,h=>by
  unfold AK at h;cases hf:A0 ds (p.take (k+1)++[x])with
  |some j=>rw[hf]at h;cases h;exact⟨k+1,fx _,hf,λm h1 h2=>by omega⟩
  |none=>
   rw[hf]at h;obtain⟨n,h1,h2,h3⟩:=OA h;refine⟨n,oM,h2,λm h4 h5=>?_⟩;by_cases hm:m=k+1
   .subst hm;exact hf
   .exact h3 m h4 oM
structure xi(g:Ζ)(s:wv)(a:Nat):Prop where
 root:s.By[0]?=some ⟨[],0⟩
 one:∀(i j:Nat)(d e:Dr),s.By[i]?=some d->s.By[j]?=some e->d.BY=e.BY->i=j
 up:∀(i:Nat)(d:Dr)(p:As)(x:Pr),s.By[i]?=some d->d.BY=p++[x]->∃h,h<i/\A0 s.By p=some h
 uj:∀t∈s.done,t.uj<=a/\t.uj<s.By.length/\t.dst<s.By.length
 Xcr:∀t∈s.done,∀u∈s.done,t.uj=u.uj->t.label=u.label->t=u
 fresh:∀(i:Nat)(d:Dr)(p:As)(x:Pr),s.By[i]?=some d->d.BY=p++[x]->∀h,A0 s.By p=some h->a<=h->h=a/\∃t∈s.done,t.uj=a/\t.label=x
 py:∀d∈s.By,d.py<g.length
def xi.find{g:Ζ}{s:wv}{d:Dr}(h:xi g s a)(hd:s.By[i]?=some d):A0 s.By d.BY=some i:=by obtain⟨j,hj⟩:=Zc4 ⟨d,ik hd,rfl⟩;obtain⟨e,h1,h2⟩:=EF hj;rw[hj,h.one i j d e hd h1 h2.H]
def xi.Xay{g:Ζ}{s:wv}(h:xi g s a):∀(n i:Nat)(d:Dr),s.By[i]?=some d->d.BY.length=n->∀k,k<=n->∃j,j<=i/\A0 s.By (d.BY.take k)=some j:=λn=>by
 induction n with
 |zero=>intro i d hd hn k hk;have:k=d.BY.length:=oM;subst this;rw[eh];exact⟨i,fx _,h.find hd⟩
 |succ n ih=>
  intro i d hd hn k hk;by_cases a4:k=n+1
  .subst a4;rw[<-hn,eh];exact⟨i,fx _,h.find hd⟩
  .have a0:d.BY≠[]:=λe=>(by rw[e]at hn;simp at hn);have hp:d.BY=d.BY.dropLast++[d.BY.getLast a0]:=(List.dropLast_concat_getLast a0).H;obtain⟨j,h1,h2⟩:=h.up i d _ _ hd hp;obtain⟨e,h3,h4⟩:=EF h2;have h5:e.BY.length=n:=(by rw[h4,List.length_dropLast];omega);obtain⟨m,h6,h7⟩:=ih j e h3 h5 k oM;refine⟨m,oM,?_⟩;rw[h4]at h7;have:d.BY.take k=d.BY.dropLast.take k:=(by rw[List.dropLast_eq_take,List.take_take];congr 1;omega);rwa [this]
def xi.pre{g:Ζ}{s:wv}{j:Nat}{d e:Dr}(h:xi g s a)(hd:s.By[i]?=some d)(he:s.By[j]?=some e)(hp:e.BY<+:d.BY):j<=i:=by obtain⟨m,h1,h2⟩:=h.Xay _ i d hd rfl e.BY.length hp.length_le;rw[<-List.prefix_iff_eq_take.1 hp,h.find he]at h2;cases h2;exact h1
def DF(s:wv)(a:Nat)(x:Pr):Prop:=∀t∈s.done,t.uj=a->t.label≠x
def xi.spot{g:Ζ}{s:wv}{d:Dr}{x:Pr}(h:xi g s a)(hd:s.By[a]?=some d)(hx:DF s a x):zm s d.BY x d.BY.length:=by
 refine⟨fx _,λk h1 h2=>?_,λt ht hl hp=>?_⟩
 .have hk:k=d.BY.length:=oM;subst hk;rw[eh];cases hf:A0 s.By (d.BY++[x])with
  |none=>rfl
  |some i=>obtain⟨e,h3,h4⟩:=EF hf;obtain⟨_,t,h5,h6,h7⟩:=h.fresh i e d.BY x h3 h4 a (h.find hd) nR;exact fm h7 (hx t h5 h6)
 .obtain⟨h1,h2,_⟩:=h.uj t ht;rw[eh]at hp;have h3:s.By[t.uj]?=some s.By[t.uj]:=dt h2;rw[Cp h3]at hp;have:=h.pre h3 hd hp;exact fm hl (hx t ht oM)
def xi.found{g:Ζ}{s:wv}{to:Nat}{x:Pr}(h:xi g s a)(ha:a<s.By.length)(hx:DF s a x)(a4:to<s.By.length):xi g ⟨s.By,s.done++[⟨a,x,to⟩]⟩ a:=by
 refine⟨h.root,h.one,h.up,λt ht=>?_,λt ht u hu h1 h2=>?_,λi d p y hd hp j hj a0=>?_,h.py⟩
 .obtain ht|ht:=fp.1 ht
  .exact h.uj t ht
  .rw[ep]at ht;subst ht;exact⟨fx _,ha,a4⟩
 .rcases fp.1 ht with ht|ht<;>obtain hu|hu:=fp.1 hu
  .exact h.Xcr t ht u hu h1 h2
  .rw[ep]at hu;subst hu;exact fm h2 (hx t ht h1)
  .rw[ep]at ht;subst ht;exact fm h2.H (hx u hu h1.H)
  .rw[ep]at ht hu;rw[ht,hu]
 .obtain⟨h1,t,h2,h3,h4⟩:=h.fresh i d p y hd hp j hj a0;exact⟨h1,t,jd _ h2,h3,h4⟩
def xi.put{g:Ζ}{s:wv}{k:Nat}{d:Dr}{x:Pr}(h:xi g s a)(hd:s.By[a]?=some d)(hx:DF s a x)(hs:zm s d.BY x n)(hk:k<g.length):
  xi g ⟨s.By++[⟨d.BY.take n++[x],k⟩],s.done++[⟨a,x,s.By.length⟩]⟩ a:=by
 have ha:=(fh.1 hd).1;have a5:∀e∈s.By,e.BY≠d.BY.take n++[x]:=UH.1 (hs.clear n nR hs.le);have at_:∀{i:Nat} {e:Dr},(s.By++[⟨d.BY.take n++[x],k⟩])[i]?=some e->(s.By[i]?=some e/\i<s.By.length)\/(i=s.By.length/\e=⟨d.BY.take n++[x],k⟩):=λ{i e} hi=>by
  obtain hl|hl:=rt i s.By.length
  .rw[gl hl]at hi;exact .inl ⟨hi,hl⟩
  .rw[ii hl]at hi;have:i - s.By.length=0:=by have:=(fh.1 hi).1;simp at this;omega
   rw[this]at hi;simp at hi;exact .inr ⟨oM,hi.H⟩
 obtain⟨m,a7,a4⟩:=h.Xay _ a d hd rfl n hs.le;refine⟨(gl (nn (ib a) ha)).Z h.root,λi j e f hi hj hp=>?_,λi e p y hi hp=>?_,λt ht=>?_,λt ht u hu h1 h2=>?_,λi e p y hi hp j hj a6=>?_,λe he=>?_⟩
 .rcases at_ hi with⟨hi,_⟩|⟨rfl,rfl⟩<;>rcases at_ hj with⟨hj,_⟩|⟨rfl,rfl⟩
  .exact h.one i j e f hi hj hp
  .exact fm hp (a5 e (ik hi))
  .exact fm hp.H (a5 f (ik hj))
  .rfl
 .rcases at_ hi with⟨hi,_⟩|⟨rfl,rfl⟩
  .obtain⟨j,h1,h2⟩:=h.up i e p y hi hp;exact⟨j,h1,KA h2⟩
  .obtain⟨h1,_⟩:=List.append_inj' hp rfl;exact⟨m,oM,by rw[<-h1];exact KA a4⟩
 .simp only[du,gq];obtain ht|ht:=fp.1 ht
  .obtain⟨h1,h2,h3⟩:=h.uj t ht;exact⟨h1,oM,oM⟩
  .rw[ep]at ht;subst ht;exact⟨fx _,Nat.lt_succ_of_lt ha,by simp⟩
 .rcases fp.1 ht with ht|ht<;>obtain hu|hu:=fp.1 hu
  .exact h.Xcr t ht u hu h1 h2
  .rw[ep]at hu;subst hu;exact fm h2 (hx t ht h1)
  .rw[ep]at ht;subst ht;exact fm h2.H (hx u hu h1.H)
  .rw[ep]at ht hu;rw[ht,hu]
 .rcases at_ hi with⟨hi,_⟩|⟨rfl,rfl⟩
  .obtain⟨j',h1,h2⟩:=h.up i e p y hi hp;have a0:=(KA h2).H.Z hj;cases a0;obtain⟨h3,t,h4,h5,h6⟩:=h.fresh i e p y hi hp _ h2 a6;exact⟨h3,t,jd _ h4,h5,h6⟩
  .obtain⟨h1,h2⟩:=List.append_inj' hp rfl;rw[<-h1]at hj;have a0:=(KA a4).H.Z hj;cases a0;refine⟨oM,_,li _ (ep.2 rfl),rfl,?_⟩;simpa using h2
 .obtain he|he:=fp.1 he
  .exact h.py e he
  .rw[ep]at he;subst he;exact hk
def xi.next{g:Ζ}{s:wv}(h:xi g s a):xi g s (a+1):=
 ⟨h.root,h.one,h.up,λt ht=>by obtain⟨h1,h2,h3⟩:=h.uj t ht;exact⟨oM,h2,h3⟩,h.Xcr,λi d p y hd hp j hj a0=>by have:=(h.fresh i d p y hd hp j hj oM).1;omega,h.py⟩
def xi.start{g:Ζ}(hg:0<g.length):xi g ⟨[⟨[],0⟩],[]⟩ 0:=by
 refine⟨rfl,λi j d e hi hj _=>?_,λi d p x hi hp=>?_,(λt ht=>by cases ht),(λt ht=>by cases ht),λi d p x hi hp=>?_,λd hd=>?_⟩
 .have h1:=(fh.1 hi).1;have h2:=(fh.1 hj).1;simp at h1 h2;omega
 .have h1:=(fh.1 hi).1;simp at h1;subst h1;simp at hi;subst hi;simp at hp
 .have h1:=(fh.1 hi).1;simp at h1;subst h1;simp at hi;subst hi;simp at hp
 .rw[ep]at hd;subst hd;exact hg
def Co(g:Ζ)(k:Nat):LQ:=
 let es:=A2 g k
 es.filter (λe=>AB g k e==1)++(es.filter (λe=>AB g k e==2)++es.filter λe=>AB g k e==3)
def Ei(g:Ζ)(k:Nat)(e:Edge):AB g k e=1\/AB g k e=2\/AB g k e=3:=by
 unfold AB;split
 .exact .inl rfl
 .split
  .exact .inr (.inl rfl)
  .exact .inr (.inr rfl)
inductive xq (I:Œ) (a k:Nat):wv->LQ->Int->wv->Prop
 |nil (s:wv):xq I a k s [] 0 s
 |cons {s t u:wv} {e:Edge} {es:LQ} {c:Int}:xh I s a e (AB I.g k e) 0 t->xq I a k t es c u->xq I a k s (e::es) c u
 |stop {s t:wv} {e:Edge} {es:LQ} {c:Int}:xh I s a e (AB I.g k e) c t->c≠0->xq I a k s (e::es) c t
inductive ya (I:Œ):Nat->wv->Int->wv->Prop
 |fin {a:Nat} {s:wv}:s.By.length<=a->ya I a s 0 s
 |next {a:Nat} {s t u:wv} {c:Int}:a<s.By.length->xq I a (ud s.By a) s (Co I.g (ud s.By a)) 0 t->ya I (a+1) t c u->ya I a s c u
 |stop {a:Nat} {s t:wv} {c:Int}:a<s.By.length->xq I a (ud s.By a) s (Co I.g (ud s.By a)) c t->c≠0->ya I a s c t
def xq.one{I:Œ}{k:Nat}{s t u:wv}{es:LQ}{c:Int}(h:xq I a k s es c t):xq I a k s es d u->c=d/\t=u:=by
 induction h generalizing d u with
 |nil s=>intro h';cases h';exact⟨rfl,rfl⟩
 |cons h1 h2 ih=>
  intro h';cases h' with
  |cons k1 k2=>obtain⟨_,rfl⟩:=h1.one (Ei _ _ _) k1;exact ih k2
  |stop k1 k2=>exact fm (h1.one (Ei _ _ _) k1).1.H k2
 |stop h1 h2=>
  intro h';cases h' with
  |cons k1 k2=>exact fm (h1.one (Ei _ _ _) k1).1 h2
  |stop k1 k2=>exact h1.one (Ei _ _ _) k1
def ya.one{I:Œ}{s t u:wv}{c:Int}(h:ya I a s c t):ya I a s d u->c=d/\t=u:=by
 induction h generalizing d u with
 |fin h1=>
  intro h';cases h' with
  |fin=>exact⟨rfl,rfl⟩
  |next k1=>omega
  |stop k1=>omega
 |next h1 h2 h3 ih=>
  intro h';cases h' with
  |fin k1=>omega
  |next k1 k2 k3=>obtain⟨_,rfl⟩:=h2.one k2;exact ih k3
  |stop k1 k2 k3=>exact fm (h2.one k2).1.H k3
 |stop h1 h2 h3=>
  intro h';cases h' with
  |fin k1=>omega
  |next k1 k2 k3=>exact fm (h2.one k2).1 h3
  |stop k1 k2 k3=>exact h2.one k2
structure Xcd(s t:wv)(a:Nat)(x:Pr):Prop where
 By:∃l,t.By=s.By++l
 new:∀y,y≠x->DF s a y->DF t a y
def VW{ds:Μ}{s:wv}{k:Nat}{x y:Pr}(hy:y≠x)(h:DF s a y):DF ⟨ds,s.done++[⟨a,x,k⟩]⟩ a y:=λt ht hs=>by
 obtain ht|ht:=fp.1 ht
 .exact h t ht hs
 .rw[ep]at ht;subst ht;exact λe=>hy e.H
def O9{ds:Μ}{p:As}{x:Pr}{k:Nat}(h:AK ds p x k=some i):i<ds.length:=by obtain⟨n,_,h2,_⟩:=OA h;obtain⟨d,h3,_⟩:=EF h2;exact(fh.1 h3).1
def xh.inv{I:Œ}{s t:wv}{e:Edge}{c:Int}(hk:tc=1\/tc=2\/tc=3)(h:xh I s a e tc c t)(hI:xi I.g s a)(ha:a<s.By.length)(hx:DF s a e.Y)(a0:0<=e.to/\e.to<I.g.length):
  xi I.g t a/\Xcd s t a e.Y:=by
 have hd:s.By[a]?=some s.By[a]:=dt ha;cases h with
 |found to hr=>exact⟨hI.found ha hx (O9 hr.1),⟨[],by simp⟩,λy hy h=>VW hy h⟩
 |lost=>exact⟨hI,⟨[],by simp⟩,λy _ h=>h⟩
 |put n h1 h2 h3 h4=>
  have hs:zm s (Af s.By a) e.Y n:=by
   obtain hk|hk|hk:=hk
   .exact fm hk h2
   .exact(h3 hk).spot
   .rw[h4 hk,Cp hd];exact hI.spot hd hx
  rw[Cp hd]at hs ⊢;exact⟨hI.put hd hx hs oM,⟨_,rfl⟩,λy hy h=>VW hy h⟩
 |long=>exact⟨hI,⟨[],by simp⟩,λy _ h=>h⟩
 |deep=>exact⟨hI,⟨[],by simp⟩,λy _ h=>h⟩
def Em(x:rz):tn:=⟨x.Y,x.v⟩
def GX(a b:tn):Int:=AM (A8 a.Y b.Y) (a.v.cmp b.v)
def æ:wg GX:=(DJ tn.Y).or (tj.Ø.Ġ tn.v)
def TK{a b:tn}:GX a b=0↔a=b:=by
 obtain⟨n,v⟩:=a;obtain⟨m,u⟩:=b;show AM (A8 n m) (v.cmp u)=0↔_;unfold AM;by_cases h:A8 n m=0
 .rw[fl h,tj.cmp_eq];have:=EA.1 h;subst this;exact⟨λh=>by rw[h],λh=>(tn.mk.inj h).2⟩
 .rw[fa h];exact⟨λh'=>fm h' h,λh'=>fm (EA.2 (tn.mk.inj h').1) h⟩
def yg{α:Type}(c:α->α->Int)(l:List α):Prop:=l.Pairwise λa b=>c a b<0
def yg.nodup{α:Type}{c:α->α->Int}(hc:wg c){l:List α}(h:yg c l):l.Nodup:=by rw[il];refine h.imp λ{a b} h e=>?_;subst e;have:=(hc.flip a a).1 h;omega
def yg.one{α:Type}{c:α->α->Int}(hc:wg c){l m:List α}(h1:yg c l)(h2:yg c m)(hm:∀x,x∈l↔x∈m):l=m:=
 JA (λx y h k=>by have:=(hc.flip x y).1 h;omega) h1 h2 ((List.perm_ext_iff_of_nodup (h1.nodup hc) (h2.nodup hc)).2 hm)
def yg.of{α:Type}{c:α->α->Int}(hc:wg c)(h0:∀{a b},c a b=0->a=b){l:List α}(hn:l.Nodup)(hs:l.Pairwise λx y=>¬c y x<0):yg c l:=by rw[il]at hn;refine(hn.and hs).imp λ{a b} ⟨h1,h2⟩=>?_;have h3:c a b≠0:=λh=>h1 (h0 h);have h4:=hc.flip b a;omega
def vm(g:Ζ)(l:Η):Prop:=yg GX l/\∀y,y∈l↔y∈(g.drop 1).map Em
def vm.one{g:Ζ}{m:Η}(h:vm g l)(k:vm g m):l=m:=h.1.one æ k.1 λx=>(h.2 x).Z (k.2 x).H
def è:LU:=[47,109,111,100,117,108,101,115,47]
def Cf(p:As):LU:=p.flatMap λx=>è++x.toList
def Bj(p:As):Bool:=p.all Ae
def Ar(p:As):LU:=if p=[]then [47]else if Bj p then Cf p else []
def Zf5{b:UInt8}(h:BQ b=true):b≠47:=by rintro rfl;revert h;decide
def Zf7:∀{l:LU},CP l=true->(47:UInt8)∉l
 | [],_=>by simp
 |a::l,h=>by
  intro hm;simp only[CP,dz,ix]at h;obtain rfl|hm:=gn.1 hm
  .have:=h.1;revert this;decide
  .exact Zf5 (h.2 _ hm) rfl
def VR{x:Pr}(h:Ae x=true):(47:UInt8)∉x.toList:=by unfold Ae at h;simp only[dz]at h;exact Zf7 h.1
def Ry:∀{p:As},p≠[]->∃r,Cf p=47::r
 | [],h=>fm rfl h
 |x::p,_=>⟨_,rfl⟩
def XH{a r:LU}(ha:(47:UInt8)∉a)(hr:r=[]\/∃t,r=47::t):(a++r).takeWhile (λb=>b != 47)=a:=by
 rw[ri (λb hb=>by simp;rintro rfl;exact ha hb)];rcases hr with rfl|⟨t,rfl⟩
 .simp
 .simp
def Wv:∀{p q:As},Bj p=true->Bj q=true->Cf p=Cf q->p=q
 | [],[],_,_,_=>rfl
 | [],y::q,_,_,h=>by obtain⟨r,hr⟩:=Ry (p:=y::q) sI;rw[hr]at h;cases h
 |x::p,[],_,_,h=>by obtain⟨r,hr⟩:=Ry (p:=x::p) sI;rw[hr]at h;cases h
 |x::p,y::q,hp,hq,h=>by
  unfold Bj at hp hq;rw[ob,dz]at hp hq;have h':è++(x.toList++Cf p)=è++(y.toList++Cf q):=by simpa only[Cf,List.flatMap_cons,ff]using h
  have h1:=List.append_cancel_left h';have en:∀l:As,Cf l=[]\/∃t,Cf l=47::t:=λl=>by
   by_cases hl:l=[]
   .subst hl;exact .inl rfl
   .exact .inr (Ry hl)
  have h2:=jt (List.takeWhile λb=>b != 47) h1;rw[XH (VR hp.1) (en p),XH (VR hq.1) (en q)]at h2;rw[h2]at h1;have h3:=Wv (p:=p) (q:=q) hp.2 hq.2 (List.append_cancel_left h1);rw[toList_data,toList_data]at h2;rw[GV h2,h3]
def R0{p:As}(h:p≠[]):9<=(Cf p).length:=by
 cases p with
 |nil=>exact fm rfl h
 |cons x p=>simp[Cf,è]
def Zg7{p q:As}(hp:Bj p=true)(hq:Bj q=true)(h:Ar p=Ar q):p=q:=by
 unfold Ar at h;by_cases h1:p=[]<;>by_cases h2:q=[]
 .rw[h1,h2]
 .rw[fl h1,fa h2,fl hq]at h;have:=R0 h2;rw[<-h]at this;simp at this
 .rw[fa h1,fl h2,fl hp]at h;have:=R0 h1;rw[h]at this;simp at this
 .rw[fa h1,fa h2,fl hp,fl hq]at h;exact Wv hp hq h
def JH(d:Dr):Pr:=B (Ar d.BY)
def Ii(a b:Dr):Int:=A8 (JH a) (JH b)
def ń:wg Ii:=DJ JH
def Zl2{a b:Dr}(ha:Bj a.BY=true)(hb:Bj b.BY=true)(h:JH a=JH b):a.BY=b.BY:=by unfold JH at h;have:=jt ByteArray.toList h;rw[HQ,HQ]at this;exact Zg7 ha hb this
def zw(ds sw:Μ):Prop:=sw.Perm ds/\sw.Pairwise λa b=>¬Ii b a<0
structure ø(ds:Μ):Prop where
 zq:∀d∈ds,Bj d.BY=true
 one:∀(i j:Nat)(d e:Dr),ds[i]?=some d->ds[j]?=some e->d.BY=e.BY->i=j
def ø.eq{ds:Μ}(h:ø ds){a b:Dr}(ha:a∈ds)(hb:b∈ds)(he:Ii a b=0):a=b:=by have hp:=Zl2 (h.zq a ha) (h.zq b hb) (EA.1 he);obtain⟨i,hi⟩:=ke ha;obtain⟨j,hj⟩:=ke hb;have:=h.one i j a b hi hj hp;subst this;rw[hi]at hj;exact jv hj
def ø.nodup{ds:Μ}(h:ø ds):ds.Nodup:=by rw[il,gz];intro i j hi hj a0 he;have:=h.one i j _ _ (dt hi) (dt hj) (by rw[he]);omega
def zw.strict{ds sw:Μ}(h:ø ds)(k:zw ds sw):yg Ii sw:=by obtain⟨hp,hs⟩:=k;have hn:sw.Nodup:=hp.nodup_iff.2 h.nodup;rw[il]at hn;unfold yg;have:=(hn.and hs);refine List.Pairwise.imp_of_mem ?_ this;intro a b ha hb ⟨h1,h2⟩;have h3:Ii a b≠0:=λe=>h1 (h.eq (hp.mem_iff.1 ha) (hp.mem_iff.1 hb) e);have h4:=ń.flip b a;omega
def zw.one{ds a b:Μ}(h:ø ds)(ha:zw ds a)(hb:zw ds b):a=b:=
 (ha.strict h).one ń (hb.strict h) λx=>ha.1.mem_iff.Z hb.1.mem_iff.H
structure uf where
 BY:As
 td:su
 py:Int
 deriving DecidableEq
abbrev Ε:=List uf
def Ay:su:=⟨⟨#[]⟩,⟨0,0,0⟩,[],[],[]⟩
def AH(d:uf):Dr:=⟨d.BY,d.py.toNat⟩
structure Ö(T:Ε)(i:Nat)(d:uf):Prop where
 BY:d.BY≠[]
 zq:Bj d.BY=true
 len:(Ar d.BY).length<=1024
 py:1<=d.py
 first:A0 (T.map AH) d.BY=some i
 up:∃h,h<i/\A0 (T.map AH) d.BY.dropLast=some h
 vt:AJ d.td=true
 Y:d.BY.getLast? =some d.td.Y
structure vj(T:Ε):Prop where
 len:1<=T.length/\T.length<=257
 root:T[0]?=some ⟨[],Ay,0⟩
 sy:∀i d,T[i]?=some d->i≠0->Ö T i d
def Ej(T:Ε)(i:Nat)(x:Pr):Β:=if Ae x then AK (T.map AH) (Af (T.map AH) i) x (Af (T.map AH) i).length else none
structure Ò where
 m:Α
 sy:Wd
def D4(T:Ε)(g:Ζ)(i:Nat)(s:Ò)(e:Edge):Option Ò:=
 match Ej T i e.Y with
 |none=>none
 |some to=>match T[to]?,g[e.to.toNat]? with
  |some d,some x=>if d.td.Y=x.Y/\d.td.v=x.v then
    if s.m[to]?=some (-1)then some ⟨s.m.set to e.to,s.sy++[to]⟩else if s.m[to]?=some e.to then some s else none
   else none
  |_,_=>none
def DO(T:Ε)(g:Ζ)(i:Nat):Ò->LQ->Option Ò
 |s,[]=>some s
 |s,e::es=>(D4 T g i s e).bind λt=>DO T g i t es
def Ek(T:Ε)(g:Ζ):Nat->Nat->Ò->Option (Α)
 |0,_,_=>none
 |f+1,n,s=>match s.sy[n]? with
  |none=>some s.m
  |some i=>match s.m[i]? with
   |none=>none
   |some k=>(DO T g i s (A2 g k.toNat)).bind λt=>Ek T g f (n+1) t
def C6(g:Ζ):Prop:=0<g.length/\∀x∈g,∀e∈x.sq,1<=e.to/\e.to<(g.length:Int)
def ā(T:Ε)(g:Ζ):Option (Α):=Ek T g (T.length+1) 0 ⟨(List.replicate T.length (-1)).set 0 0,[0]⟩
structure Ï(T:Ε)(g:Ζ)(s:Ò):Prop where
 len:s.m.length=T.length
 low:∀(i:Nat)(k:Int),s.m[i]?=some k-> -1<=k/\k<(g.length:Int)
 nodup:s.sy.Nodup
 told:∀i,i∈s.sy↔∃k:Int,s.m[i]?=some k/\k≠ -1
def Ï.start{T:Ε}{g:Ζ}(hT:0<T.length)(hg:0<g.length):Ï T g ⟨(List.replicate T.length (-1)).set 0 0,[0]⟩:=by
 refine⟨by simp,λi k h=>?_,by simp,λi=>?_⟩
 .by_cases hi:i=0
  .subst hi;rw[om (by simpa using hT)]at h;cases h;omega
  .rw[pd (λe=>hi e.H)]at h;have:=ik h;rw[List.mem_replicate]at this;omega
 .constructor
  .intro h;rw[ep]at h;subst h;exact⟨0,om (by simpa using hT),by decide⟩
  .rintro⟨k,h,hk⟩;by_cases hi:i=0
   .subst hi;simp
   .rw[pd (λe=>hi e.H)]at h;have:=ik h;rw[List.mem_replicate]at this;exact fm this.2 hk
def Ï.yz{T:Ε}{g:Ζ}{s t:Ò}{e:Edge}(h:Ï T g s)(a5:1<=e.to/\e.to<(g.length:Int))(he:D4 T g i s e=some t):Ï T g t/\∃l,t.sy=s.sy++l:=by
 unfold D4 at he;split at he
 .cases he
 .rename_i to _;split at he
  .split at he
   .split at he
    .rename_i hm;cases he;have hl:=(fh.1 hm).1;have a4:to∉s.sy:=λhc=>by obtain⟨k,h1,h2⟩:=(h.told to).1 hc;rw[hm]at h1;cases h1;exact h2 rfl
     refine⟨⟨by simp[h.len],λj k hj=>?_,?_,λj=>?_⟩,⟨_,rfl⟩⟩
     .by_cases a0:to=j
      .subst a0;rw[om hl]at hj;cases hj;omega
      .rw[pd a0]at hj;exact h.low j k hj
     .rw[jl];refine⟨h.nodup,by simp,λa ha b hb=>?_⟩;rw[ep]at hb;subst hb;rintro rfl;exact a4 ha
     .rw[fp,ep];by_cases a0:to=j
      .subst a0;exact⟨λ_=>⟨e.to,om hl,oM⟩,λ_=> .inr rfl⟩
      .show(j∈s.sy\/j=to)↔∃k:Int,(s.m.set to e.to)[j]?=some k/\k≠ -1;rw[pd a0,<-h.told j];exact⟨λhh=>by obtain hh|hh:=hh;exact hh;exact fm hh.H a0,λhh=>.inl hh⟩
    .split at he
     .cases he;exact⟨h,[],by simp⟩
     .cases he
   .cases he
  .cases he
def Ï.Ĝ{T:Ε}{g:Ζ}{s:Ò}(h:Ï T g s):s.sy.length<=T.length:=by
 have:=LJ (m:=List.range T.length) h.nodup λi hi=>by obtain⟨k,h1,_⟩:=(h.told i).1 hi;have:=(fh.1 h1).1;rw[h.len]at this;exact nq.2 this
 simpa using this
def Ï.sq{T:Ε}{g:Ζ}{i:Nat}:∀{es:LQ} {s t:Ò},Ï T g s->(∀e∈es,1<=e.to/\e.to<(g.length:Int))->DO T g i s es=some t->Ï T g t/\∃l,t.sy=s.sy++l
 | [],s,t,h,_,he=>by cases he;exact⟨h,[],by simp⟩
 |e::es,s,t,h,hto,he=>by
  unfold DO at he;cases hm:D4 T g i s e with
  |none=>rw[hm]at he;cases he
  |some u=>rw[hm]at he;obtain⟨h1,l,hl⟩:=h.yz (hto e (.head _)) hm;obtain⟨h2,l',a0⟩:=Ï.sq h1 (λe' h'=>hto e' (.tail _ h')) he;exact⟨h2,l++l',by rw[a0,hl,ff]⟩
structure á where
 m:vz
 g:Ζ
 T:Ε
 IT:Bool
def ve:xn uf where
 n:=9
 bytes:=144
 rep:=λw S x cs=>Ad x.td.Y/\∃ps d e o:Sl,cs= [ps.v,.string x.td.Y,vi x.td.v.ma,vi x.td.v.mi,vi x.td.v.pa,d.v,e.v,o.v,vi x.py]/\No vr w S ps x.BY/\No ru w S d x.td.ss/\No ru w S e x.td.ta/\No ru w S o x.td.uq
 len:=λ⟨_,ps,d,e,o,h,_⟩=>by rw[h];rfl
 one:=λ⟨_,ps,d,e,o,h,_⟩ v hv=>by rw[h]at hv;simp[Sl.v]at hv;rcases hv with rfl|rfl|rfl|rfl|rfl|rfl|rfl|rfl|rfl<;>rfl
 O:=λ⟨h0,ps,d,e,o,h,a,b,c,k⟩ hs=>⟨h0,ps,d,e,o,h,a.O hs,b.O hs,c.O hs,k.O hs⟩
 sj:=λ⟨h0,ps,d,e,o,h,a,b,c,k⟩ hk=>⟨h0,ps,d,e,o,h,a.sj hk,b.sj hk,c.sj hk,k.sj hk⟩
def vg{l:Ε}(h:No ve w S s l)(hn:n<l.length):
  ∃ad ps d e o,s.a=some ad/\S ad.block/\Ad l[n].td.Y/\No vr w S ps l[n].BY/\No ru w S d l[n].td.ss/\No ru w S e l[n].td.ta/\No ru w S o l[n].td.uq/\
   ∀w',AI w w'->sh w' (ad.add (n*9)) [ps.v,.string l[n].td.Y,.int .i64 l[n].td.v.ma,.int .i64 l[n].td.v.mi,.int .i64 l[n].td.v.pa,d.v,e.v,o.v,.int .i64 l[n].py]:=by
 obtain⟨ad,cs,h1,h2,⟨h0,ps,d,e,o,rfl,a,b,c,k⟩,h4⟩:=h.el hn;exact⟨ad,ps,d,e,o,h1,h2,h0,a,b,c,k,h4⟩
def Tz:Bk prog 38 61 9 144:=CL (z:=.agg #[.slice none 0 0,.string ⟨#[]⟩,vi 0,vi 0,vi 0,.slice none 0 0,.slice none 0 0,.slice none 0 0,vi 0]) kR kR rfl dC
def RJ:ve.rep w S ⟨[],Ay,0⟩ [.slice none 0 0,.string ⟨#[]⟩,vi 0,vi 0,vi 0,.slice none 0 0,.slice none 0 0,.slice none 0 0,vi 0]:=
 ⟨by unfold Ad Ay;rw[Ao];decide,Sl.nil,Sl.nil,Sl.nil,Sl.nil,rfl,No.nil trivial,No.nil trivial,No.nil trivial,No.nil trivial⟩
section
variable {w:PU} {lo:Nat} {sp:LP} {K:K7} {q:si} {s:St}
def yp.Xca{t:Sl}{l:Ρ}{k:Wp}(hb:AT w sp (CS K stk nds ahd ws s.first))(a4:lo<=sp.block)(h0:yp w lo sp.block stk nds ahd ws Q s)(ht:No Pw w Q t l)
  (hk:∀w',uv sp.block w w'->AT w' sp (CS K stk nds ahd t s.first)->yp w' lo sp.block stk nds ahd t Q {s with ws:=l}->k w'):ry w (sp.add 10) [t.v] k:=
 ry.intro (o:=10) hb (by show 11<=12;omega) λw' b _ a0=>hk w' b a0
  (have h:=h0.tz b
  ⟨h.stack,h.uk,h.AS,ht.tz b λh1=>(h0.q _ h1).2 rfl,h.q,h.a1,h.a2,h.a3,h.o1,h.o2,h.o3⟩)
def yp.ř{k:Wp}(hb:AT w sp (CS K stk nds ahd ws s.first))(a4:lo<=sp.block)(h0:yp w lo sp.block stk nds ahd ws Q s)
  (hk:∀w',uv sp.block w w'->CV w' lo sp K {s with first:=n}->k w'):ry w (sp.add 11) [vi n] k:=
 ry.intro (o:=11) hb (by show 12<=12;omega) λw' b _ a0=>hk w' b ⟨stk,nds,ahd,ws,Q,a0,a4,
  have h:=h0.tz b
  ⟨h.stack,h.uk,h.AS,h.ue,h.q,h.a1,h.a2,h.a3,h.o1,h.o2,h.o3⟩⟩
def Zdg(hG:zf L)(n:Pr)(v:tj):(getD L n v).ss.length<=16/\(getD L n v).ta.length<=16/\(getD L n v).uq.length<=16:=by
 unfold getD;cases h:AR L n v with
 |none=>exact⟨ib _,ib _,ib _⟩
 |some p=>obtain⟨_,_,h1,h2,h3⟩:=Rm (hG.vt p (KF h).1);exact⟨(B5 h1).1,(B5 h2).1,(B5 h3).1⟩
def Znb{ns:Ζ}{k:Nat}{x:rz}(hk:k≠0)(hx:ns[k]?=some x):q.ue ns k=FP q.m.sd (getD q.L x.Y x.v).ss (getD q.L x.Y x.v).uq:=by
 unfold si.ue Yf ó;rw[fa hk,gu,hx];show(match AR q.L x.Y x.v with|none=>[]|some p=>FP q.m.sd p.ss p.uq)=_;unfold getD;cases AR q.L x.Y x.v with
 |none=>rfl
 |some p=>rfl
def Yd{k:Nat}{R:Wp}(hC:Cs w lo q K)(hb:AT w sp (CS K stk nds ahd ws s.first))(c3:lo<=sp.block)(h0:yp w lo sp.block stk nds ahd ws Q s)(hk:k<s.ns.length)
  (hR:∀w' c4 Q',uv sp.block w w'->AT w' sp (CS K stk nds ahd c4 s.first)->yp w' lo sp.block stk nds ahd c4 Q' {s with ws:=q.ue s.ns k}->R w'):H5 (some sp) (k:Int) w R:=by
 unfold H5;have d4:=hC.small;refine⟨λc9=>sf.drew λw1 x1=>⟨sp,rfl,K.mD,K.yj,K.yn,K.ã,AT.at1 hb (k:=1) x1 rfl,sp,rfl,K.uw,AT.at1 hb (k:=5) x1 rfl,?_⟩,λc9=>?_⟩
 .have a5:k=0:=oM;subst a5;have a0:=hC.below (x1.ut lo hC.le);refine Nv.V (Zm9 (m:=q.m) a0.tm a0.ss a0.dv a0.uq a0.sd (by unfold Ab;omega) λt w2 x2 a7=>⟨_,rfl,sp,rfl,?_⟩);have b7:=x1.Z x2;have hg:=IX hb;have a8:=a7.A (by rw[Yg];have:=Zjk q.m K.uw;unfold Ab;omega);have h2:=h0.grow b7 hC.le hg;have s1:=x1.size;refine yp.Xca (l:=q.ue s.ns 0) (hb.U b7) c3 h2 ?_ λw3 b3 b2 h3=>hR w3 _ _ ((b7.tz _).Z b3) b2 h3;rw[hC.uw]at a8;exact a8.O λb hb=>.inr ⟨oM,hb.2⟩
 .have a5:k≠0:=oM;have hx:s.ns[k]?=some s.ns[k]:=dt hk;obtain⟨ad,cs,a6,⟨hN,c,e,rfl,_,_⟩,hc⟩:=h0.uk.el hx;have d3:=h0.uk.len;obtain⟨S,r,a4,hS,hr,d2⟩:=hC.cat;have hG:=a4.Ģ;obtain⟨g1,g2,g3⟩:=Zdg hG s.ns[k].Y s.ns[k].v;have hg:=IX hb;refine join.named λJ hJ=>sf.drew λw1 x1=>?_;refine⟨sp,rfl,_,AT.at0 hb x1 rfl,sp,rfl,nds,AT.at1 hb (k:=8) x1 rfl,ad,⟨a6,oM,oM⟩,s.ns[k].Y,(hc _ x1).pre rfl,sp,rfl,nds,AT.at1 hb (k:=8) x1 rfl,ad,⟨a6,oM,oM⟩,s.ns[k].v.ma,s.ns[k].v.mi,s.ns[k].v.pa,(hc _ x1).I (k:=1) rfl,?_⟩;have key:∀(a:LP)(d e o:Sl)(wm w3:PU),AI w wm->AI wm w3->AT w3 a [.string (getD q.L s.ns[k].Y s.ns[k].v).Y,.int .i64 (getD q.L s.ns[k].Y s.ns[k].v).v.ma,.int .i64 (getD q.L s.ns[k].Y s.ns[k].v).v.mi,.int .i64 (getD q.L s.ns[k].Y s.ns[k].v).v.pa,d.v,e.v,o.v]->
    No ru w3 (λb=>b<w3.heap.size) d (getD q.L s.ns[k].Y s.ns[k].v).ss->No ru w3 (λb=>b<w3.heap.size) o (getD q.L s.ns[k].Y s.ns[k].v).uq->J a w3:=by
   subst hJ;intro a d e o wm w3 xm x3 c8 hd ho;have d0:=xm.Z x3;refine sf.drew λw4 x4=>?_;have a9:=d0.Z x4;have b9:=hC.below (a9.ut lo hC.le);refine⟨_,_,_,_,d,e,o,c8.at0 (r:=[]) x4 rfl,sp,rfl,K.mD,K.yj,K.yn,K.ã,AT.at1 hb (k:=1) a9 rfl,?_⟩;have s4:=x4.size;refine Nu.V (Zna (p:=getD q.L s.ns[k].Y s.ns[k].v) (S:=λb=>b<w4.heap.size) (λb h=>h) ((hd.U x4).O λb h=>by omega) ((ho.U x4).O λb h=>by omega) (b9.sd.O λb h=>by have:=b9.le;omega) (by unfold Ab;omega) λt w5 x5 a7=>⟨_,rfl,sp,rfl,?_⟩);have b8:=a9.Z x5;have a8:=a7.A (by rw[Yg];unfold Ab;omega);have h5:=h0.grow b8 hC.le hg;have d5:=a9.size;refine yp.Xca (l:=q.ue s.ns k) (hb.U b8) c3 h5 ?_ λw6 b6 c7 h6=>hR w6 _ _ ((b8.tz _).Z b6) c7 h6;rw[Znb a5 hx];exact a8.O λb hb=>.inr ⟨oM,hb.2⟩
  refine⟨Fz.V (Kc (n:=s.ns[k].Y) (v:=s.ns[k].v) (a4.U x1) λd e o w3 x3 _ hd he ho=>⟨_,_,_,_,_,_,_,_,rfl,An.intro λa w4 x4 c6 c5 _=>tk.intro c6 sI λw5 b5 _ b4=>?_⟩),An.intro λa w3 x3 b2 c5 _=>Fz.V (Kc (n:=s.ns[k].Y) (v:=s.ns[k].v) ((a4.U x1).U x3) λd e o w4 x4 _ hd he ho=>⟨_,_,_,_,_,_,_,_,rfl,tk.intro (b2.U x4) sI λw5 b5 _ b4=>?_⟩)⟩
  .have b0:AI w3 w5:=b5.U x4 oM;have s5:=b0.size;exact key a d e o w3 w5 (x1.Z x3) b0 b4 ((hd.dep.U b0).O λb h=>by omega) ((ho.dep.U b0).O λb h=>by omega)
  .have d1:AI w1 w5:=b5.U (x3.Z x4) oM;have a6:∀b,(w3.heap.size<=b/\b<w4.heap.size)->b≠a.block:=λb h=>(by omega);have s5:=b5.1;exact key a d e o w1 w5 x1 d1 b4 ((hd.dep.tz b5 λh=>a6 _ h rfl).O λb h=>by omega) ((ho.dep.tz b5 λh=>a6 _ h rfl).O λb h=>by omega)
def Zm6{k:Nat}{R:Wp}(hC:Cs w lo q K)(h:CV w lo sp K s)(hk:k<s.ns.length)(hR:∀w',Below lo w w'->CV w' lo sp K {s with ws:=q.ue s.ns k}->R w'):H5 (some sp) (k:Int) w R:=by obtain⟨stk,nds,ahd,ws,Q,hb,a0,h0⟩:=h;exact Yd hC hb a0 h0 hk λw' a5 Q' b a4 h'=>hR w' (b.below hC.le a0) ⟨stk,nds,ahd,a5,Q',a4,a0,h'⟩
def Qa{R:Wp}(hC:Cs w lo q K)(h:CV w lo sp K s)(hk:s.AS.length<s.ns.length)(hR:∀w',Below lo w w'->CV w' lo sp K {s with first:=s.stack.length,ws:=q.ue s.ns s.AS.length}->R w'):H4 (some sp) w R:=by unfold H4;obtain⟨stk,nds,ahd,ws,Q,hb,a5,h0⟩:=h;have a6:=h0.stack.len;have a4:=h0.AS.len;rw[ec]at a4;refine⟨sp,rfl,ahd,AT.at1 hb (k:=9) xR rfl,sp,rfl,stk,AT.at1 hb (k:=7) xR rfl,sp,rfl,?_⟩;rw[a6,a4];refine yp.ř (n:=s.stack.length) hb a5 h0 λw1 b1 h1=>?_;have vh:=b1.below hC.le a5;exact H5.V (Zm6 (hC.below vh) h1 hk λw2 a0 h2=>⟨rfl,hR w2 (vh.Z a0) h2⟩)
end
section
variable {w:PU} {lo:Nat} {sp:LP} {K:K7} {q:si} {s:St}
def Ud{ns:Ζ}{k:Nat}{x:rz}(h:ns[k]?=some x):ug ns k=x.vd:=by unfold ug ó;rw[gu,h];rfl
def TU{wt:xr}{rs:Sl}{SR:Nat->Prop}{R:Int->Pr->Sl->Bool->È}(hC:Cs w lo q K)(h:CV w lo sp K s)(hk:s.AS.length<s.ns.length)(hN:Ad wt.Y)(g6:Old SR w)(hr:No uo w SR rs wt.range)
  (hR:∀v w',AI w w'->No ă w' (λb=>w.heap.size<=b/\b<w'.heap.size) v (q.ch s.AS.length (ug s.ns s.AS.length) wt).vs->R (s.AS.length:Int) wt.Y v (q.ch s.AS.length (ug s.ns s.AS.length) wt).none 0 w'):Jq (some sp) wt.Y wt.tc rs w R:=by
 unfold Jq;obtain⟨stk,nds,ahd,ws,Q,hb,j3,h0⟩:=h;have f0:=h0.AS.len;rw[ec]at f0;have j5:=h0.uk.len;have hx:s.ns[s.AS.length]?=some s.ns[s.AS.length]:=dt hk;obtain⟨ad,cs,h5,⟨i5,c,e,rfl,f5,_⟩,h4⟩:=h0.uk.el hx;have g8:=Ud hx;obtain⟨S,r,f3,hS,j6,i9⟩:=hC.cat;have h3:q.ch s.AS.length (ug s.ns s.AS.length) wt=⟨s.AS.length,wt.Y,(q.ym (ug s.ns s.AS.length) wt).1,(q.ym (ug s.ns s.AS.length) wt).2,0⟩:=rfl;rw[h3]at hR;dsimp only at hR;rw[g8]at hR;refine An.intro λa w1 x1 ha i7 _=>An.intro λa1 w2 x2 e1 i3 _=>?_;have e6:=x1.Z x2;have s1:=x1.size;have s2:=x2.size;refine⟨sp,rfl,ahd,AT.at1 hb (k:=9) e6 rfl,wt.Y,AT.at0 ha x2 rfl,An.intro λa4 w3 x3 g7 i4 _=>tk.intro g7 sI λw4 b4 _ e3=>?_⟩;have s3:=x3.size;have d4:AI w2 w4:=b4.U x3 oM;have h9:=e6.Z d4;have j8:=x2.Z d4;rw[f0]at e3 ⊢;have j1:a4.block<w4.heap.size:=e3.lt;have j0:a1.block<w4.heap.size:=by have:=e1.lt;omega
 have j4:a1.block≠a4.block:=by have:=e1.lt;omega
 have fin:∀(w8:PU)(v:Sl)(nb:Bool)(l:List tj),AI w2 w8->w4.heap.size<=w8.heap.size->AT w8 a4 [vi (s.AS.length:Int),.string wt.Y,v.v,.bool nb,vi 0]->No ă w8 (λb=>w4.heap.size<=b/\b<w8.heap.size) v l->q.ym s.ns[s.AS.length].vd wt=(l,nb)->
   ∃(b2:Int) (b0:Pr) (a0:Sl) (b5:Bool) (c7:Int),(sh w8 a4 [vi b2,(.string b0),a0.v,(.bool b5),vi c7])/\ry w8 a1 [vi b2,(.string b0),a0.v,(.bool b5),vi c7] λd9=>
    ∃(c5:Int) (c4:Pr) (a5:Sl) (c6:Bool) (d8:Int),sh d9 a1 [vi c5,(.string c4),a5.v,(.bool c6),vi d8]/\R c5 c4 a5 c6 d8 d9:=λw8 v nb l g3 j7 b6 hv g9=>by
  refine⟨_,_,v,_,_,b6.sh.pre (r:=[]) rfl,tk.intro (e1.U g3) sI λw9 b9 _ d1=>⟨_,_,v,_,_,d1.at0 (r:=[]) xR rfl,?_⟩⟩;have h2:=hR v w9 (b9.U (e6.Z g3) oM);rw[g9]at h2;have s9:=b9.1;exact h2 ((hv.tz b9 λh=>by omega).O λb h=>⟨oM,oM⟩)
 refine join.named λJ hJ=>sf.drew λw5 x5=>?_;have d3:=h9.Z x5;have i2:=d4.Z x5;have s5:=x5.size;have key:∀(a6:LP)(v:tj)(is:Bool)(w7:PU),AI w5 w7->AT w7 a6 [vi v.ma,vi v.mi,vi v.pa]->(is=true->vc s.ns[s.AS.length].vd wt.Y=some v)->(is=false->vc s.ns[s.AS.length].vd wt.Y=none)->J a6 is w7:=by
  subst hJ;intro a6 v is w7 e7 f1 h6 h7;have f9:=d3.Z e7;have g4:=x5.Z e7;have d5:=d4.Z g4;have g0:=x2.Z d5;have a8:=e3.U g4;have s7:=e7.size;refine⟨λe5=>?_,λe5=>?_⟩
  .have b7:q.ym s.ns[s.AS.length].vd wt=(if BT wt.range v then [v]else [],false):=(by unfold si.ym;rw[h6 e5]);refine join.named λJ2 e9=>⟨rs,AT.at1 ha (k:=2) g0 rfl,v.ma,v.mi,v.pa,f1.at0 (r:=[]) xR rfl,HE.V (Sn (hr.U f9) λw8 x8=>⟨_,rfl,λe4=>?_,λe4=>?_⟩)⟩
   .refine⟨v.ma,v.mi,v.pa,f1.at0 (r:=[]) x8 rfl,An.intro λa9 w9 x9 d1 i6 _=>?_⟩;have g5:=x8.Z x9;refine ry.intro (o:=2) (a8.U g5) sI λd2 c3 _ d0=>?_;have s8:=x8.size;have s9:=x9.size;have c8:AI w2 d2:=c3.U (d5.Z g5) oM;subst e9;have f6:a9.block≠a4.block:=oM;have h1:=(Kb (E:=ă) (S:=λ_=>False) d1 ⟨rfl,trivial⟩ dC).tz c3 (λh=>by
     obtain h|h:=h
     .exact h
     .exact f6 h.H)
    have j2:=d1.lt;have h8:=c3.1;refine fin d2 ⟨some a9,1,1⟩ false [v] c8 oM d0 (h1.O λb hb=>?_) (by rw[b7,fl e4]);obtain hb|rfl:=hb
    .exact hb.F
    .exact⟨oM,oM⟩
   .subst e9;exact fin w8 Sl.nil false [] (d5.Z x8) (by have:=x8.size;omega) (a8.U x8) (No.nil trivial) (by rw[b7,fa (by rw[e4];decide)])
  .have b7:q.ym s.ns[s.AS.length].vd wt=(DI q.L wt.Y wt.range q.rv,decide (wt.tc=2)):=(by unfold si.ym;rw[h7 e5]);refine sf.drew λw8 x8=>?_;have j9:=x8;have c9:=f9.Z x8;have g1:=g0.Z x8;have e8:=hC.below (c9.ut lo hC.le);refine⟨sp,rfl,_,AT.at0 hb c9 rfl,wt.Y,AT.at0 ha g1 rfl,rs,AT.at1 ha (k:=2) g1 rfl,sp,rfl,K.pS,AT.at1 hb (k:=6) c9 rfl,?_⟩;refine Ke.V (Zy (f3.U c9) (g6.U c9.size) e8.tm (hr.U c9) e8.rv λt w9 x9 hF=>⟨_,rfl,?_⟩);have k0:=x9;have s8:=x8.size;have s9:=x9.size;refine ry.intro (o:=2) ((a8.U x8).U x9) sI λd2 c3 _ d0=>?_;have c8:AI w2 d2:=c3.U ((d5.Z x8).Z x9) oM;refine⟨wt.tc,AT.at1 ha (k:=1) (x2.Z c8) rfl,ry.intro (o:=3) d0 sI λf8 e0 _ d7=>?_⟩;have g2:AI w2 f8:=e0.U c8 oM;have e2:(wt.tc==2)=decide (wt.tc=2):=(by rw[gp];simp);rw[e2]at d7;have h8:=c3.1;have s11:=e0.1;have hv:=(((Zda hF).tz c3 (λh=>by omega)).tz e0 (λh=>by omega));exact fin f8 t (decide (wt.tc=2)) _ g2 oM d7 (hv.O λb h=>⟨oM,oM⟩) b7
 have f2:No vb w5 (λb=>Q b) c s.ns[s.AS.length].vd:=f5.U d3;have f7:sh w5 (sp.add 8) [nds.v]:=AT.at1 hb (k:=8) d3 rfl;refine⟨sp,rfl,nds,f7,ad,⟨h5,oM,oM⟩,c,(h4 _ d3).I (k:=4) rfl,wt.Y,AT.at0 ha (x2.Z i2) rfl,?_⟩;refine⟨H6.V (RK f2 (λv w6 ht x6=>⟨_,_,_,_,rfl,An.intro λa7 w7 x7 a8 d6 _=>tk.intro a8 sI λw8 b8 _ b6=>?_⟩) λw6 ht x6=>⟨_,_,_,_,rfl,An.intro λa7 w7 x7 a8 d6 _=>tk.intro a8 sI λw8 b8 _ b6=>?_⟩),
  An.intro λa7 w7 x7 a8 d6 _=>H6.V (RK (f2.U x7) (λv w6 ht x6=>⟨_,_,_,_,rfl,tk.intro (a8.U x6) sI λw8 b8 _ b6=>?_⟩) λw6 ht x6=>⟨_,_,_,_,rfl,tk.intro (a8.U x6) sI λw8 b8 _ b6=>?_⟩)⟩
 .exact key a7 v true w8 (x6.Z (b8.U x7 oM)) b6 (λ_=>ht) nO
 .exact key a7 ⟨0,0,0⟩ false w8 (x6.Z (b8.U x7 oM)) b6 nO λ_=>ht
 .exact key a7 v true w8 (b8.U (x7.Z x6) oM) b6 (λ_=>ht) nO
 .exact key a7 ⟨0,0,0⟩ false w8 (b8.U (x7.Z x6) oM) b6 nO λ_=>ht
end
section
variable {α:Type} {E:xn α} {T:LN} {w:PU} {lo:Nat} {Q:Nat->Prop} {s:Sl} {l:List α}
def Om{css:List (List HT)}(h:∀cs∈css,cs.length=n):css.flatten.length=css.length*n:=by
 induction css with
 |nil=>simp
 |cons c r ih=>rw[jm,du,h c (.head _),ih λx hx=>h x (.tail _ hx),fu,ku];omega
def OF.Ÿ(h:OF E T w lo Q s l){css:List (List HT)}(hl:css.length=l.length)(hr:∀(i:Nat)(x:α),l[i]?=some x->∃cs,css[i]?=some cs/\E.rep w Q x cs):∀cs∈css,cs.length=E.n:=λcs a0=>by obtain⟨k,hk,rfl⟩:=gc.1 a0;obtain⟨a4,h1,h2⟩:=hr k _ (dt oM);rw[dt hk,eu]at h1;rw[h1];exact E.len h2
def OF.take(h:OF E T w lo Q s l)(hn:n<=l.length):OF E T w lo Q (Sl.cut s 0 n E.n) (l.take n):=by
 obtain⟨css,ho,hl,hr⟩:=h.row;have a4:=h.Ÿ hl hr;have a7:=h.len;have ha:(Sl.cut s 0 n E.n).a=s.a:=by
  unfold Sl.cut;dsimp only;split
  .rfl
  .rw[mq];cases s.a<;>rfl
 have hv:(Sl.cut s 0 n E.n).v= .slice s.a n s.cap:=by unfold Sl.v;rw[ha];unfold Sl.cut;simp
 refine⟨⟨css.take n,?_,by rw[fg,fg,hl],λi x hx=>?_⟩,by show n - 0=_;rw[fg];omega,h.lt,λad a6=>h.apart ad (ha▸a6)⟩
 .rw[hv];show w.ownsRow lo T E.n _ (n - 0) _;have a0:=Om (css:=css.take n) (n:=E.n) λc hc=>a4 c (kw hc);rw[fg,hl,kq hn]at a0;refine⟨by simpa using a0,?_⟩;rcases ho.2 with⟨h1,h2⟩|⟨g,cap,a5,h1,h2,h3,h4,h5,h6,h7⟩
  .left;simp[Sl.v]at h1;have:n=0:=oM;rw[h1.1,h1.2.2,this];exact⟨rfl,rfl⟩
  .right;simp[Sl.v]at h1;refine⟨g,cap,a5,by rw[h1.1,h1.2];simp,h2,h3,oM,h5,h6,?_⟩;have h8:=jt (List.take (n*E.n)) h7;rw[List.take_take,kq (iu _ oM)]at h8;rw[rq,h8];have e:css.flatten=(css.take n).flatten++(css.drop n).flatten:=by rw[<-kl,ga]
   rw[e,qf a0]
 .rw[mh]at hx;split at hx
  .obtain⟨cs,k1,k2⟩:=hr i x hx;rename_i hi;exact⟨cs,by rwa [mh,fl hi],k2⟩
  .cases hx
def OF.Ź(h:OF E T w lo Q s l)(hi:i<l.length){ad:LP}(ha:s.a=some ad){x:α}{o:Nat}{new:LV}(hx:∀cs,E.rep w Q l[i] cs->E.rep w Q x (cs.take o++new++cs.drop (o+new.length)))(ho:o+new.length<=E.n){K:Wp}
  (hK:∀w',uv ad.block w w'->w'.heap.size=w.heap.size->OF E T w' lo Q s (l.set i x)->K w'):ry w ((ad.add (i*E.n)).add o) new K:=by
 obtain⟨css,b7,hl,hr⟩:=h.row;have a4:=h.Ÿ hl hr;have b2:=h.len;rcases b7.2 with⟨hv,_⟩|⟨g,cap,a0,hv,hg,hh,hc,c3,c4,ht⟩
 .simp[Sl.v]at hv;rw[hv.1]at ha;cases ha
 .have b8:ad=⟨g,0,none⟩:=by simp[Sl.v]at hv;rw[hv.1]at ha;exact(jv ha).H
  subst b8;have a6:i<css.length:=oM;have b6:(i+1)*E.n<=l.length*E.n:=iu _ hi;have b0:s.len*E.n<=cap*E.n:=iu _ hc;rw[ku]at b6;rw[b2]at b0;have b5:i*E.n+o+new.length<=a0.size:=oM;rw[Dg,GN];have a7:=a4 css[i] (fe a6);have hA:=Om (css:=css.take i) (n:=E.n) λc hc=>a4 c (kw hc);rw[fg,kq oM]at hA;have e1:css.flatten=(css.take i).flatten++(css[i]++(css.drop (i+1)).flatten):=by
   conv=>lhs;rw[<-ga i css,kl,gj a6,jm]
  have e2:(css.set i (css[i].take o++new++css[i].drop (o+new.length))).flatten=(css.take i).flatten++((css[i].take o++new++css[i].drop (o+new.length))++(css.drop (i+1)).flatten):=by rw[List.set_eq_take_append_cons_drop,fl a6,kl,jm]
  have a5:a0.toList=css.flatten++a0.toList.drop (s.len*E.n):=by rw[<-ht,ga]
  have a8:(Du a0 (i*E.n+o) new).toList=(css.set i (css[i].take o++new++css[i].drop (o+new.length))).flatten++a0.toList.drop (s.len*E.n):=by
   have key:∀(A B C D N:LV),A.length=i*E.n->B.length=E.n->N.length=new.length->(A++(B++C)++D).take (i*E.n+o)++N++(A++(B++C)++D).drop (i*E.n+o+N.length)=A++(B.take o++N++B.drop (o+N.length)++C)++D:=by
    intro A B C D N hA hB hN;rw[ff A,<-hA,List.take_length_add_append];have t1:((B++C)++D).take o=B.take o:=by rw[ff,oh oM]
    have t2:(A++((B++C)++D)).drop (A.length+o+N.length)=B.drop (o+N.length)++(C++D):=(by rw[rc,List.drop_length_add_append,ff,me oM]);rw[t1,t2];simp[ff]
   unfold Du;generalize a0.toList.drop (s.len*E.n)=D at a5 ⊢;rw[rk,a5,e1,e2];exact key (css.take i).flatten css[i] (css.drop (i+1)).flatten D new hA a7 rfl
  refine⟨a0,T,hh,rfl,by simpa using b5,?_⟩;have hb:uv g w (w.setRow g (Du a0 (i*E.n+o) new)):=⟨by simp[World.setRow],rfl,rfl,rfl,λc hc c5=>setRow_other w g c _ c5⟩;have b4: ¬Q g:=h.apart _ ha;refine hK _ hb (by simp[World.setRow]) ⟨⟨css.set i (css[i].take o++new++css[i].drop (o+new.length)),⟨?_,.inr ⟨g,cap,_,hv,hg,setRow_heap w g a0 _ T _ hh,hc,c3,?_,?_⟩⟩,by rw[ji,ji,hl],λj y hy=>?_⟩,by rw[ji];exact h.len,λb b9=>jo (h.lt b b9) hb.1,h.apart⟩
  .rw[Om (n:=E.n),ji,hl,b2];intro c hc;obtain hc|rfl:=List.mem_or_eq_of_mem_set hc
   .exact a4 c hc
   .simp only[du,fg,gh,a7];omega
  .have h8:=jt List.length a8;have h9:=jt List.length a5;rw[du]at h9 h8;have e3:(css.set i (css[i].take o++new++css[i].drop (o+new.length))).flatten.length=css.flatten.length:=(by rw[e1,e2];simp only[du,fg,gh,a7];omega);rw[e3,<-h9]at h8;rwa [<-ko (xs:=Du a0 (i*E.n+o) new),h8,ko]
  .rw[a8];refine qf ?_;rw[e2];have:=Om a4;rw[e1]at this;simp only[du,fg,gh,a7]at this ⊢;rw[hl]at this;rw[b2];omega
  .rw[List.getElem?_set]at hy;split at hy
   .rename_i a9;subst a9;simp only[eu]at hy;subst hy;obtain⟨cs,k1,k2⟩:=hr i _ (dt hi);rw[dt a6,eu]at k1;subst k1;exact⟨_,by rw[om a6],E.sj (hx _ k2) (hb.sj b4)⟩
   .rename_i a9;obtain⟨cs,k1,k2⟩:=hr j y hy;exact⟨cs,by rwa [pd a9],E.sj k2 (hb.sj b4)⟩
end
def v1:tj:=⟨1,0,0⟩
def Zv(L:Ι)(n:Pr)(l:Κ)(rv:Η):(DI L n l rv).length=((DB n L).filter (BT l)).length:=by rw[<-NP];exact(G7 _).length_eq
def Zmy(n:Pr):(DB n L).length<=L.length:=by unfold DB;rw[ec];exact jf _ _
def TM(h:zf L)(n:Pr)(l:Κ)(rv:Η):(DI L n l rv).length<=128:=by rw[Zv];have h1:=jf (BT l) (DB n L);have h2:=Zmy (L:=L) n;have h3:=h.le;omega
def Zd{x:Ch}{v:Sl}{n:Int}{c0:LP}{R:É}(hc:AT w c0 [.pointer (some p)])(hp:sh w p [vi n])(hR:∀w',AI w w'->R (decide ((x.py:Int)=n)) w'):Mx (x.py:Int) x.Y v x.none (x.i:Int) c0 w R:=by
 refine An.intro λa w1 x1 hb _ _=>sf.drew λw2 x2=>⟨_,hb.at0 x2 rfl,_,hc.at0 (r:=[]) (x1.Z x2) rfl,p,rfl,n,hp.sj (S:=λ_=>True) trivial ((x1.Z x2).sj _),?_⟩;have e:((x.py:Int)==n)=decide ((x.py:Int)=n):=by rw[gp];simp
 rw[e];exact hR _ (x1.Z x2)
def Zbh:Bm prog 126:=enters_of func126 kR rfl
def Zdv{l:Ο}{f:HT}{p:Ch->Bool}{R:È}(hs:No Ş w S s l)
  (hf:∀x∈l,∀v w' (k:Ë),AI w w'->(∀a4,AI w' a4->k (.bool (p x)) a4)->un prog f [.agg #[vi (x.py:Int),.string x.Y,Sl.v v,.bool x.none,vi (x.i:Int)]] w' k)
  (hR:∀w',AI w w'->R (AV p l) w'):MP s f w R:=by
 unfold MP;have hl:=hs.len;refine Of.up hs.max (λi w'=>AI w w'/\(l.take i).any p=false) ⟨AI.refl _,rfl⟩ λi w1 a7 hi ⟨x1,hI⟩ hn=>⟨λa5=>?_,λa6=>?_⟩
 .have a0:i<l.length:=oM;obtain⟨ad,cs,ha,_,⟨_,v,rfl,_⟩,hc⟩:=hs.el a0;refine⟨ad,⟨ha,oM,a5⟩,_,_,v,_,_,hc _ xT,hf _ (fe a0) _ _ _ x1 λw2 x2=>⟨_,rfl,λh=>?_,λh=>?_⟩⟩
  .rw[<-F5 a0 hI h];exact hR _ xT
  .exact hn a0 _ ⟨xT,by rwa [FJ a0 hI]⟩
 .have:i=l.length:=oM;rw[this,eh]at hI;rw[<-EL hI];exact hR _ xT
def Zdy{α:Type}{p:α->Bool}{l:List α}(h:∃x∈l,p x=true):AV p l=((l.findIdx p:Nat):Int):=by unfold AV;rw[List.findIdx?_eq_some_of_exists h]
section
variable {w:PU} {lo:Nat} {sp:LP} {K:K7} {q:si} {s:St}
def yp.Xdc{gg:Nat}(h:yp w lo gg stk nds ahd ws Q s){ad:LP}(ha:stk.a=some ad)(hb:uv ad.block w w'){l:Ο}(ho:OF Ş 130 w' lo Q stk l):yp w' lo gg stk nds ahd ws Q {s with stack:=l}:=by have hQ: ¬Q ad.block:=h.stack.apart ad ha;exact⟨ho,h.uk.tz hb hQ λb hb=>h.a1 ad b ha hb,h.AS.tz hb hQ λb hb=>h.a2 ad b ha hb,h.ue.tz hb hQ,h.q,h.a1,h.a2,h.a3,h.o1,h.o2,h.o3⟩
def yp.Xbw{nds' ahd':Sl}{l1:Ζ}{l2:Wd}(h:yp w lo sp.block stk nds ahd ws Q s)(e1:nds'.a=nds.a)(e2:ahd'.a=ahd.a)(h1:OF uh 56 w lo Q nds' l1)(h2:OF yu 3 w lo Q ahd' (l2.map Int.ofNat)):yp w lo sp.block stk nds' ahd' ws Q {s with ns:=l1,AS:=l2}:=
 ⟨h.stack,h1,h2,h.ue,h.q,λa b ha hb=>h.a1 a b ha (e1▸hb),λa b ha hb=>h.a2 a b ha (e2▸hb),λa b ha hb=>h.a3 a b (e1▸ha) (e2▸hb),h.o1,λa ha=>h.o2 a (e1▸ha),λa ha=>h.o3 a (e2▸ha)⟩
def Qr{row:Sl}{sz:Nat}:(Sl.cut row 0 n sz).a=row.a:=by
 unfold Sl.cut;dsimp only;split
 .rfl
 .rw[mq];cases row.a<;>rfl
def TC{c:Ch}{R:Wp}(hC:Cs w lo q K)(h:CV w lo sp K s)(hI:ý q 0 s)(hl:s.stack.getLast? =some c)(hN:q.N<=128)(hD:q.D<=4096)
  (hR:∀w',Below lo w w'->CV w' lo sp K (FZ q s c.py)->R w'):Jo (some sp) w R:=by
 unfold Jo;obtain⟨stk,nds,ahd,ws,Q,hb,b2,h0⟩:=h;obtain⟨pre,a0⟩:∃pre,s.stack=pre++[c]:=pp.1 hl;have i4:=h0.stack.len;have g1:=h0.AS.len;have k0:=h0.uk.len;rw[ec]at g1;have i2:s.stack.length=pre.length+1:=by rw[a0,du,gq]
 have j6:c.py<=s.AS.length:=hI.ŏ _ (by rw[a0];simp);have j8:c.i<=1000:=hI.i1 c (by rw[a0];simp);have j9:=Ao;have hx:s.stack[pre.length]?=some c:=by rw[a0];simp
 have e9:pre.length<s.stack.length:=oM;have g7:s.stack[pre.length]=c:=by rw[dt e9,eu]at hx;exact hx
 obtain⟨ad,cs,a6,⟨j3,v,rfl,hv⟩,g5⟩:=h0.stack.el hx;have hg:=IX hb;have k4:s.stack.length<=4096:=by have:=hI.k;have:=hI.d;omega
 have d9:Aa ((stk.len:Int) - 1)=(pre.length:Int):=by rw[i4,i2,Ai oM oM];omega
 refine sf.drew λw1 x1=>⟨sp,rfl,stk,AT.at1 hb (k:=7) x1 rfl,sp,rfl,stk,AT.at1 hb (k:=7) x1 rfl,ad,⟨a6,by rw[d9];omega,by rw[d9];omega⟩,An.intro λa w2 x2 ha j4 _=>tk.intro ha sI λw3 b3 k5 d3=>?_⟩;have s1:=x1.size;have s2:=x2.size;have i7:AI w1 w3:=b3.U x2 oM;have d1:=x1.Z i7;have s3:=d1.size;simp only[gq,List.drop_one,List.tail_cons,gv]at d3;have eN:(Aa ((stk.len:Int) - 1)).toNat*5=pre.length*Ş.n:=by rw[d9];rfl
 rw[eN]at d3;refine⟨_,d3.at0 (r:=[]) xR rfl,_,rfl,(c.i:Int),(g5 _ d1).I (k:=4) (r:=[]) rfl,_,rfl,?_⟩;have h3:=h0.U d1;have e1:Aa ((c.i:Int)+1)=((c.i+1:Nat):Int):=by rw[Ai oM oM];omega
 rw[e1];refine h3.stack.Ź (i:=pre.length) (x:={c with i:=c.i+1}) (o:=4) (new:=[.int .i64 ((c.i+1:Nat):Int)]) e9 a6 (λcs e5=>?_) (by show 4+1<=5;omega) λw4 b4 k6 d0=>?_
 .rw[g7]at e5;obtain⟨k1,v',rfl,k2⟩:=e5;exact⟨k1,v',rfl,k2⟩
 have f0:s.stack.set pre.length {c with i:=c.i+1}=Ba s.stack:=by rw[a0,GW];simp
 rw[f0]at d0;have i9:ad.block<w.heap.size:=(h0.stack.block a6).2.1;have h4:yp w4 lo sp.block stk nds ahd ws Q {s with stack:=Ba s.stack}:=yp.Xdc h3 a6 b4 d0;have j5:=TI s.stack;have h6:a.block≠ad.block:=oM;have e3:=b4.box d3 h6;have c6:AT w4 sp (CS K stk nds ahd ws s.first):=b4.box (hb.U d1) (λe=>h0.o1 ad a6 e.H);have b6:Below lo w w4:=(d1.ut lo hC.le).Z (b4.below (by have:=hC.le;omega) (h0.stack.block a6).1);have a7:∀w',AI w4 w'->sh w' (ad.add (pre.length*Ş.n)) [vi (c.py:Int)]:=λw' hx=>by
  have hy:(Ba s.stack)[pre.length]?=some {c with i:=c.i+1}:=by rw[a0,GW];simp
  obtain⟨j1,j2,d5,⟨_,v',rfl,_⟩,e7⟩:=d0.el hy;rw[a6,eu]at d5;subst d5;exact(e7 _ hx).pre rfl
 have f8:ý q 1 (FZ q s c.py):=Î.step (l:=.back) (l':=.à) hC.cat.choose_spec.choose_spec.1.Ģ (λn r p=>fj (TM hC.cat.choose_spec.choose_spec.1.Ģ n r p) oM) hI (by rw[Na,hl]);have g8:c.py<(C7 s.ns s.AS c.py).length:=by
  have h1:=f8.a;have h2:(FZ q s c.py).AS.length=c.py:=by show(s.AS.take c.py).length=_;rw[fg];omega
  rw[h2]at h1;exact h1
 refine join.named λJ hJ=>sf.drew λw5 x5=>?_;have l5:=x5.size;have key:∀(w7:PU)(a5 a4:Sl),uv sp.block w5 w7->a5.a=nds.a->a4.a=ahd.a->AT w7 sp (CS K stk a5 a4 ws s.first)->OF uh 56 w7 lo Q a5 (C7 s.ns s.AS c.py)->OF yu 3 w7 lo Q a4 ((s.AS.take c.py).map Int.ofNat)->J w7:=by
  subst hJ;intro w7 a5 a4 b7 en ea c7 h5 f9;have c3:Below lo w w7:=(b6.Z (x5.ut lo (fj hC.le b6.size))).Z (b7.below (by have:=hC.le;have:=b6.size;omega) b2);have s7:=b7.1;have h7:yp w7 lo sp.block stk a5 a4 ws Q {s with stack:=Ba s.stack,ns:=C7 s.ns s.AS c.py,AS:=s.AS.take c.py}:=yp.Xbw (sp:=sp) ((h4.U x5).tz b7) en ea h5 f9;have k3:CV w7 lo sp K {s with stack:=Ba s.stack,ns:=C7 s.ns s.AS c.py,AS:=s.AS.take c.py}:=⟨stk,a5,a4,ws,Q,c7,b2,h7⟩;have a9:a.block≠sp.block:=oM;have d4:=b7.box (e3.U x5) a9;have b0:ad.block≠sp.block:=h0.o1 ad a6;have c9:sh w7 (ad.add (pre.length*Ş.n)) [vi (c.py:Int)]:=(a7 _ x5).sj (S:=λb=>b≠sp.block) (by rwa [CW]) λb hb b5=>b7.2.2.2.2 b b5 hb;refine⟨_,d4.at0 (r:=[]) xR rfl,_,rfl,(c.py:Int),c9,?_⟩;refine H5.V (Yd (s:={s with stack:=Ba s.stack,ns:=C7 s.ns s.AS c.py,AS:=s.AS.take c.py}) (k:=c.py) (hC.below c3) c7 b2 h7 g8 λw8 l0 Q8 b8 e4 h8=>⟨rfl,?_⟩);have c4:Below lo w w8:=c3.Z (b8.below (by have:=hC.le;have:=c3.size;omega) b2);have d7:=b8.box d4 a9;have a8:sh w8 (ad.add (pre.length*Ş.n)) [vi (c.py:Int)]:=c9.sj (S:=λb=>b≠sp.block) (by rwa [CW]) λb hb b5=>b8.2.2.2.2 b b5 hb;have i3:=h8.stack.A (by show(Ba s.stack).length*64<=Ab;unfold Ab;omega) (by show(Ba s.stack).length<=maxLen;omega);have g9:stk.len=(Ba s.stack).length:=h8.stack.len;refine⟨sp,rfl,stk,AT.at1 e4 (k:=7) xR rfl,MP.V (Zdv (p:=λx=>decide (x.py=c.py)) i3 (λx _ v w' k hx hk=>⟨_,_,rfl,Zbh,?_⟩) λw9 x9=>⟨_,rfl,sp,rfl,?_⟩)⟩
  .refine Mx.V (Zd (x:=x) (v:=v) (n:=(c.py:Int)) (p:=ad.add (pre.length*Ş.n)) (d7.U hx) (a8.sj (S:=λ_=>True) trivial (hx.sj _)) λk9 f1=>?_);have e:decide ((x.py:Int)=(c.py:Int))=decide (x.py=c.py):=(by rw[gp];simp;omega);rw[e];exact hk _ f1
  .have g6:∃x∈Ba s.stack,decide (x.py=c.py)=true:=⟨{c with i:=c.i+1},by rw[a0,GW];simp,by simp⟩;rw[Zdy g6];refine yp.ř (s:={s with stack:=Ba s.stack,ns:=C7 s.ns s.AS c.py,AS:=s.AS.take c.py,ws:=q.ue (C7 s.ns s.AS c.py) c.py}) (n:=(Ba s.stack).findIdx λx:Ch=>decide (x.py=c.py)) (e4.U x9) b2 (h8.U x9) λi6 f3 f7=>hR i6 ((c4.Z (x9.ut lo (fj hC.le c4.size))).Z (f3.below (by have:=hC.le;have:=c4.size;have:=x9.size;omega) b2)) f7
 have i5:=h4.uk.A (by show s.ns.length*88<=Ab;have:=hI.n;unfold Ab;omega) (by show s.ns.length<=maxLen;have:=hI.n;omega);have f2:=h4.AS.A (by show(s.AS.map Int.ofNat).length*8<=Ab;rw[ec];have:=hI.n;have:=hI.a;unfold Ab;omega) (by show(s.AS.map Int.ofNat).length<=maxLen;rw[ec];have:=hI.n;have:=hI.a;omega);have j0:s.ns.length<=nds.cap:=i5.2.1;have e0:(s.AS.map Int.ofNat).length<=ahd.cap:=f2.2.1;rw[ec]at e0;have d6:=e3.U x5;refine⟨_,d6.at0 (r:=[]) xR rfl,_,rfl,(c.py:Int),a7 _ x5,sp,rfl,ahd,AT.at1 c6 (k:=9) x5 rfl,λb5=>?_,λj7=>?_⟩
 .have c8:c.py<s.AS.length:=oM;have g2:(s.AS.map Int.ofNat)[c.py]?=some (Int.ofNat s.AS[c.py]):=by rw[gu,dt c8];rfl
  obtain⟨aa,f5,g0,e6,e8⟩:=h4.AS.el g2;have g3:=hI.b c.py _ (dt c8);have d8:f5= [vi (Int.ofNat s.AS[c.py])]:=e6.1;subst d8;have c5:C7 s.ns s.AS c.py=s.ns.take s.AS[c.py]:=by unfold C7;rw[dt c8]
  generalize s.AS[c.py]=m at*;refine sf.drew λw6 x6=>⟨sp,rfl,nds,AT.at1 c6 (k:=8) (x5.Z x6) rfl,sp,rfl,ahd,AT.at1 c6 (k:=9) (x5.Z x6) rfl,_,d6.at0 (r:=[]) x6 rfl,_,rfl,(c.py:Int),a7 _ (x5.Z x6),aa,⟨g0,oM,oM⟩,(m:Int),e8 _ (x5.Z x6),⟨oM,oM⟩,sp,rfl,?_⟩;have l6:=x6.size;have em:((m:Int)).toNat=m:=dx m;rw[em];refine ry.intro (o:=8) ((c6.U x5).U x6) (by show 9<=12;omega) λw7 b7 k7 c7=>sf.drew λw8 x8=>?_;have l7:=x8.size;have a9:a.block≠sp.block:=oM;have b0:ad.block≠sp.block:=h0.o1 ad a6;have d2:uv sp.block w5 w8:=((x6.tz _).Z b7).Z (x8.tz _);have d7:=d2.box d6 a9;have a8:sh w8 (ad.add (pre.length*Ş.n)) [vi (c.py:Int)]:=(a7 _ x5).sj (S:=λb=>b≠sp.block) (by rwa [CW]) λb hb b5=>d2.2.2.2.2 b b5 hb;have h8:=(h4.U x5).tz d2;refine⟨sp,rfl,ahd,AT.at1 c7 (k:=9) x8 rfl,_,d7.at0 (r:=[]) xR rfl,_,rfl,(c.py:Int),a8,⟨oM,oM⟩,sp,rfl,?_⟩;have en:((c.py:Int)).toNat=c.py:=dx _;rw[en];refine ry.intro (o:=9) (c7.U x8) (by show 10<=12;omega) λw9 b9 k8 g4=>?_;have e2:uv sp.block w5 w9:=d2.Z b9;have h9:=(h4.U x5).tz e2;refine key w9 (Sl.cut nds 0 m 6) (Sl.cut ahd 0 c.py 1) e2 Qr Qr g4 ?_ ?_
  .rw[c5];exact OF.take (E:=uh) h9.uk g3.2
  .rw[List.map_take];exact OF.take (E:=yu) h9.AS (by rw[ec];omega)
 .have c5:C7 s.ns s.AS c.py=s.ns:=by unfold C7;rw[iw oM]
  have f6:s.AS.take c.py=s.AS:=ia oM;exact key w5 nds ahd ((AI.refl w5).tz _) rfl rfl (c6.U x5) (by rw[c5];exact(h4.U x5).uk) (by rw[f6];exact(h4.U x5).AS)
end
end Go.Hal
