/- Lemmas for the claim K19u: how the program's functions run, and what they answer; no condition but those that each theorem names. -/
import Derived.Test.YtgolaibmophnjaaGreatDoorProg
import Derived.Test.YtgolaibmophnjaaGreatDoorK19uB5
set_option linter.unusedVariables false
set_option linter.unusedSimpArgs false
set_option linter.defProp false
set_option maxHeartbeats 16000000
open Go.Hal.SE hiding Cs Dr Lb vB
open Go Go.RowKit Go.Proofs Go.Shelf Go.Hal Go.Proofs.Tryz
variable {a a3:LP} {pr:Bool} {R:É} {E:xn Stl} {l:Θ} {la lb:LQ} {G:List Hal.rz} {P:Ι} {dn:List Stl} {cs:LV} {m:vz} {i j n uj:Nat} {S Γ:Nat->Prop} {A Α d d' e' o o' p r s t u v':Sl} {w w':PU}
namespace Go.Hal
def NW(h:Au l=true):ye l/\l.length<=999:=by unfold Au at h;simp only[dz,fk]at h;exact⟨(Ul h.1).1,oM⟩
def Zfu(h:AF m=true):JO m/\N7 m:=by obtain⟨h1,h2,h3,h4,_⟩:=V9 h;have k1:=NW h1;have k2:=NW h2;have k3:=NW h3;have k4:=NW h4;exact⟨⟨k1.2,k2.2,k3.2,k4.2⟩,k1.1,k2.1,k3.1,k4.1⟩
structure xx(w:PU)(S:Nat->Prop)(d e o v g t:Sl)(s:á):Prop where
 m:zl w S d e o v s.m
 g:No uh w S g s.g
 t:No ve w S t s.T
def xx.U{e v g:Sl}{s:á}(h:xx w S d e o v g t s)(hx:AI w w'):xx w' S d e o v g t s:=⟨h.m.U hx,h.g.U hx,h.t.U hx⟩
def xx.O{S':Nat->Prop}{e v g:Sl}{s:á}(h:xx w S d e o v g t s)(hs:∀b,S b->S' b):xx w S' d e o v g t s:=⟨h.m.O hs,h.g.O hs,h.t.O hs⟩
def xx.tz{b:Nat}{e v g:Sl}{s:á}(h:xx w S d e o v g t s)(hb:uv b w w')(hn: ¬S b):xx w' S d e o v g t s:=⟨h.m.tz hb hn,h.g.tz hb hn,h.t.tz hb hn⟩
def Zi3(L:Ι)(m:vz)(uw:Bool)(rv:Η)(D N:Int):(AQ L m uw rv D N).ns.length<=1000000000:=by
 cases h:AQ L m uw rv D N with
 |done ns t=>obtain⟨⟨_,_,_,h1,h2⟩,hr⟩:=Zi4 h;have hf:=WY (q:=si.mk L m uw rv D.toNat N.toNat) (by show 1<=N.toNat;omega);rw[hr]at hf;have h3:ns.length<=N.toNat:=hf.2.2;show ns.length<=_;omega
 |_=>exact ib _
def Zhz{p:su}{e:Sl}{R:Pr->È}(hN:Ad p.Y)(hd:No ru w S d p.ss)(he:No ru w S e p.ta)(ho:No ru w S o p.uq)
  (h0:∀w',AI w w'->AJ p=true->R (B (C0 p)) 0 w') (h1:∀w',AI w w'->AJ p=false->R ⟨#[]⟩ 24 w'):KP p.Y p.v.ma p.v.mi p.v.pa d e o w R:=by
 refine An.intro λa w1 x1 a4 _ _=>⟨_,_,_,_,d,e,o,a4.sh.pre (r:=[]) rfl,?_⟩;refine Hj.V (R9 (p:=p) hN (hd.U x1) (he.U x1) (ho.U x1) λw2 x2=>⟨_,rfl,λh=>h1 w2 (x1.Z x2) (by simpa using h),λh=>?_⟩);have h:AJ p=true:=by simpa using h
 have a0:=x1.Z x2;refine⟨_,_,_,_,d,e,o,(a4.U x2).sh.pre (r:=[]) rfl,?_⟩;exact ID.V (W7 (p:=p) (LY h).1 (hd.U a0) (he.U a0) (ho.U a0) λw3 x3=>⟨_,rfl,h0 w3 (a0.Z x3) h⟩)
def OF.down{α:Type}{E:xn α}{T:LN}{lo lo':Nat}{l:List α}(h:OF E T w lo S s l)(hl:lo'<=lo):OF E T w lo' S s l:=by obtain⟨css,ho,k1,k2⟩:=h.row;refine⟨⟨css,⟨ho.1,ho.2.imp id λ⟨g,cap,a0,hv,hg,r⟩=>⟨g,cap,a0,hv,fj hl hg,r⟩⟩,k1,k2⟩,h.len,h.lt,h.apart⟩
section
variable {α:Type} {E:xn α} {P:LD} {t T:LN} {w:PU} {S:Nat->Prop} {s:Sl} {l:List α} {k:Nat} {K:Sl->Wp}
def UX(hf:∀{w S S' x cs},E.rep w S x cs->E.rep w S' x cs)(hT:Bk P t T E.n E.bytes)(hS:Old S w)(hs:No E w S s l)(hk:k<=l.length)(hK:∀r w',AI w w'->OF E T w' w.heap.size se r (l.take k)->K r w'):uc P t t Sl.nil (Sl.v (Sl.cut s 0 k E.n)) w K:=by have hc:=hs.cut (a:=0) (b:=k) (ib _) hk;rw[ju]at hc;refine(OF.zero w).yx hT nR hc hS (λ_ h=>by cases h) (by rw[ie,kj];exact hc.2.2.2.1) (by rw[ie,kj];exact hc.max) λr w1 o1 vh _ _=>?_;exact hK r w1 (AI.refl w |>.W vh) (OF.flat hf o1)
def UY{w2:PU}{m:List α}(hf:∀{w S S' x cs},E.rep w S x cs->E.rep w S' x cs)(hT:Bk P t T E.n E.bytes)(hS:Old S w)(hs:No E w S s l)(hk:k<=l.length)(x2:AI w w2)(o:OF E T w2 w.heap.size se r m)(hb:(m.length+(l.length - k))*E.bytes<=Ab)(h1:1<=E.bytes)(hK:∀r w',AI w w'->OF E T w' w.heap.size se r (m++l.drop k)->K r w'):uc P t t r (Sl.v (Sl.cut s k s.len E.n)) w2 K:=by have hl:=hs.len;have hc:=(hs.U x2).cut (a:=k) (b:=l.length) hk nR;rw[eh,<-hl]at hc;have a0:(l.drop k).length=l.length - k:=gh;refine o.yx hT x2.size hc (hS.U x2.size) (λad ha hb=>by have:=(o.block ha).1;have:=hS _ hb;omega) (by rwa [a0]) (by rw[a0,Ao];have:(m.length+(l.length - k))*1<=(m.length+(l.length - k))*E.bytes:=pz _ h1;unfold Ab at hb;omega) λr w1 o1 vh _ _=>hK r w1 (x2.W vh) (OF.flat hf o1)
end
def Zic{T:Ε}{at':Nat}{R:Sl->Wp}(hS:Old S w)(hs:No ve w S s T)(hi:at'<T.length)(hT:T.length<=1000000)
  (hR:∀t w',AI w w'->t.len=(BX T T[at'].BY T.length).length->R t w'):Ld s (at':Int) w R:=by
 unfold Ld;have h1:=hs.len;obtain⟨ad,hm,dd,ee,oo,ha,_,_,hp,_,_,_,hc⟩:=vg hs hi;have f1:=hp.len;have f2:T[at'].BY.length*16<=Ab:=hp.2.2.2.1;unfold Ab at f2;have h0:T[at'].BY.length<=hm.cap:=hp.2.1;generalize T[at'].BY=a0 at*;refine An.intro λa w1 x1 a8 g0 _=>IN ⟨s,λ_=>a8.sh.pre (r:=[]) rfl,?_⟩;have e:(decide ((at':Int)<0)||decide ((s.len:Int)<=(at':Int)))=false:=by rw[fq oM,fq oM];rfl
 rw[e];refine⟨nO,λ_=>⟨s,a8.sh.pre (r:=[]) rfl,ad,⟨ha,oM,oM⟩,hm,by rw[dx];exact(hc _ x1).pre rfl,?_⟩⟩;have e8:yu.bytes=8:=rfl;refine th.up hs.max (λsw i w'=>AI w1 w'/\∃L:Wd,OF yu 3 w' w1.heap.size se sw (AL L)/\L.length=(BX T a0 i).length/\∀k∈L,∃h:k<T.length,T[k].BY.length=a0.length+1) ⟨AI.refl _,[],OF.zero _,rfl,λ_ h=>by cases h⟩ λsw i w4 h3 g8 ⟨x4,L,o4,b9,b4⟩ hn=>⟨s,a8.at0 (r:=[]) x4 rfl,λe5=>join.named λJ hJ=>?_,λg7=>?_⟩
 .have a9:i<T.length:=oM;obtain⟨d6,ps,_,_,_,d9,_,_,b6,_,_,_,e0⟩:=vg hs a9;have g3:=b6.len;have g2:T[i].BY.length<=ps.cap:=b6.2.1;have c4:=x1.Z x4;have g1:=QS T a0 i;have b0:∀a4 w',AI w1 w'->(∃L:Wd,OF yu 3 w' w1.heap.size se a4 (AL L)/\L.length=(BX T a0 (i+1)).length/\∀k∈L,∃h:k<T.length,T[k].BY.length=a0.length+1)->J a4 w':=λa4 w' hx ho=>by rw[hJ];exact hn a9 a4 w' ⟨hx,ho⟩
  rw[Vb,QR a9]at b0;have d1:∀w',AI w4 w'->(decide (T[i].BY.length=a0.length+1)&&decide (T[i].BY.take a0.length=a0))=false->J sw w':=λw' hx h=>by rw[h,fa dC]at b0;exact b0 sw w' (x4.Z hx) ⟨L,o4.U hx,b9,b4⟩
  refine⟨s,a8.at0 (r:=[]) x4 rfl,d6,⟨d9,oM,e5⟩,ps,by rw[dx];exact(e0 _ c4).pre rfl,?_⟩;rw[Ai oM oM];refine⟨λh=>d1 w4 xR (by rw[fq oM];rfl),λh=>sf.drew λw5 x5=>⟨⟨oM,oM⟩,s,a8.at0 (r:=[]) (x4.Z x5) rfl,ad,⟨ha,oM,oM⟩,hm,by rw[dx];exact(hc _ (c4.Z x5)).pre rfl,?_⟩⟩;have c3:T[i].BY.length=a0.length+1:=oM;have c5:=c4.Z x5;have b7:=(b6.U c5).cut (a:=0) (b:=a0.length) (ib _) oM;rw[ju]at b7;rw[dx,f1];refine IH.V (RB b7 (hp.U c5) λw6 x6=>⟨_,rfl,λhq=>d1 w6 (x5.Z x6) (by rw[fy c3,ic];simpa using hq),λhq=>?_⟩);have hq:T[i].BY.take a0.length=a0:=by simpa using hq
  rw[fy c3,fy hq,ic,fl rfl]at b0;have d5:=x5.Z x6;have f9:=x4.Z d5;have o6:=o4.U d5;have f0:=o6.len;rw[BS]at f0;have d2:=o6.ê dC (by rw[BS,e8];unfold Ab;omega);have e6:L.length<=maxLen:=by rw[Ao];omega
  refine Of.up (N:=L.length) e6 (λ_ w'=>AI w6 w') xR λk w7 g5 hk x7 e7=>sf.drew λw8 x8=>IN ?_;have b2:=x7.Z x8;have c6:=(c5.Z x6).Z b2;have c7:=f9.Z b2;have hb:∃(m:Nat) (a5:LP) (a6:LP) (pm:Sl) (a7:LP) (nm:Pr),(decide ((k:Int)<(sw.len:Int))=true->sw.a=some a5/\sh w8 (a5.add (k*1)) [vi (m:Int)]/\m<T.length/\s.a=some a6/\sh w8 (a6.add (m*9)) [pm.v]/\pm.a=some a7/\a0.length<pm.len/\sh w8 (a7.add (a0.length*1)) [.string nm]):=by
   by_cases b5:k<L.length
   .obtain⟨a5,ek,e2⟩:=Zd9 d2 (n:=k) (by rwa [BS]);obtain⟨d0,g9⟩:=b4 _ (fe b5);obtain⟨a6,pm,_,_,_,d8,_,_,b8,_,_,_,e3⟩:=vg hs d0;have g4:=b8.len;obtain⟨a7,en,_,e4⟩:=FI b8 (n:=a0.length) oM;exact⟨L[k],a5,a6,pm,a7,_,λ_=>⟨ek,by have:=e2 _ b2;unfold AL at this;rw[ng]at this;exact this,d0,d8,(e3 _ c6).pre rfl,en,oM,e4 _ c6⟩⟩
   .exact⟨0,ad,ad,hm,ad,⟨#[]⟩,λh=>fm (jg h) oM⟩
  obtain⟨m,a5,a6,pm,a7,nm,hb⟩:=hb;obtain⟨d7,ei,_,e1⟩:=FI b6 (n:=a0.length) oM;refine⟨s,λ_=>a8.at0 (r:=[]) c7 rfl,a5,λh=>⟨(hb h).1,oM,jg h⟩,(m:Int),λh=>by rw[dx];exact(hb h).2.1,a6,λh=>⟨(hb h).2.2.2.1,oM,by have:=(hb h).2.2.1;omega⟩,pm,λh=>by rw[dx];exact(hb h).2.2.2.2.1,a7,λh=>⟨(hb h).2.2.2.2.2.1,oM,by have:=(hb h).2.2.2.2.2.2.1;omega⟩,nm,λh=>(hb h).2.2.2.2.2.2.2,d7,λ_=>⟨ei,oM,oM⟩,T[i].BY[a0.length]'oM,λ_=>e1 _ c6,λhq=>?_,λhq=>?_⟩
  .have b5:k<L.length:=(by simp only[dz,fk]at hq;omega);exact e7 b5 w8 b2
  .have e9:sw.len<=sw.cap:=(by have:=d2.2.1;rw[BS]at this;omega);refine⟨⟨oM,oM⟩,?_⟩;rw[dx];have c8:Old (λb=>w1.heap.size<=b/\b<w8.heap.size) w8:=λb hb=>hb.2;have d3:=((o6.U b2).ê dC (by rw[BS,e8];unfold Ab;omega)).IN (λh=>h) dC;refine UX (E:=yu) (λh=>h) GP c8 d3 (by rw[BS];omega) λr1 w9 x9 o9=>An.intro λg6 h4 d4 c9 _ _=>?_;have h2:((AL L).take k).length<=1000000:=(by rw[fg,BS];omega);refine(o9.U d4).é (x9.Z d4) GP (x:=(i:Int)) ⟨rfl,trivial⟩ (c9.sh.pre (r:=[]) rfl) dC (by rw[e8];unfold Ab;omega) λr2 h5 f3 f7=>⟨⟨oM,oM⟩,?_⟩;refine UY (E:=yu) (λh=>h) GP c8 d3 (by rw[BS];omega) f7 f3 (by rw[BS,du,gq,e8];unfold Ab;omega) dC λr3 f6 f8 f5=>b0 r3 f6 (c7.Z f8) ⟨L.take k++i::L.drop k,?_,?_,λq hq=>?_⟩
   .have:AL (L.take k++i::L.drop k)=((AL L).take k++[(i:Int)])++(AL L).drop k:=(by unfold AL;rw[gb,io,List.map_take,List.map_drop,ff];rfl);rw[this];exact OF.down f5 c7.size
   .rw[du,du,fu,fg,gh,gq];omega
   .obtain hq|hq:=fp.1 hq
    .exact b4 q (kw hq)
    .obtain rfl|hq:=gn.1 hq
     .exact⟨a9,c3⟩
     .exact b4 q (rh hq)
 .have a9:i=T.length:=oM;rw[a9]at b9;exact hR sw w4 (x1.Z x4) (by rw[<-b9,o4.len,BS])
def CG(l:Ξ)(f:va):Ξ:=l.takeWhile (λx=>Ak x.BY f.BY)++f::l.dropWhile λx=>Ak x.BY f.BY
def FC(l:Ξ)(f:va):(CG l f).length=l.length+1:=by unfold CG;rw[du,fu];have:=jt List.length (mz (p:=λx:va=>Ak x.BY f.BY) (l:=l));rw[du]at this;omega
def XQ{α:Type}{p:α->Bool}:∀{l:List α} {k:Nat},(∀i (h:i<l.length),i<k->p l[i]=true)->(∀h:k<l.length,p l[k]=false)->k<=l.length->l.takeWhile p=l.take k/\l.dropWhile p=l.drop k
 | [],k,_,_,h=>by simp at h;subst h;exact⟨rfl,rfl⟩
 |x::l,0,_,h,_=>by have:=h sI;simp only[qr]at this;rw[qb,nj,this];exact⟨rfl,rfl⟩
 |x::l,k+1,h1,h2,h3=>by have h0:=h1 0 sI oM;simp only[qr]at h0;obtain⟨a,b⟩:=XQ (p:=p) (l:=l) (k:=k) (λi hi hk=>h1 (i+1) (by simpa using hi) oM) (λh=>h2 (by simpa using h)) (by simpa using h3);rw[qb,nj,h0,fl rfl,fl rfl,a,b];exact⟨rfl,rfl⟩
def Zij{l:Ξ}{f:va}{R:Sl->Wp}(hS:Old S w)(hs:No wq w S s l)(hl:l.length<=100000)(hf:Ad f.BY/\Ad f.data)(hR:∀r w',AI w w'->OF wq 115 w' w.heap.size se r (CG l f)->R r w'):Ln s f.BY f.dir f.data w R:=by
 unfold Ln;have b6:=hs.len;have b5:l.length<=s.cap:=hs.2.1;have a9:wq.bytes=40:=rfl;refine An.intro λa w1 x1 b0 _ _=>?_;refine Of.up hs.max (λk w'=>AI w1 w'/\∀i (h:i<l.length),i<k->Ak l[i].BY f.BY=true) ⟨AI.refl _,λ_ _ h=>by omega⟩ λk w2 b7 hk ⟨x2,hI⟩ hn=>sf.drew λw3 x3=>IN ?_;have a6:=x2.Z x3;have a0:=x1.Z a6;obtain⟨ad,q,hq⟩:∃(ad:LP) (q:va),decide ((k:Int)<(s.len:Int))=true->s.a=some ad/\sh w3 (ad.add (k*3)) [.string q.BY]/\∃h:k<l.length,q=l[k]:=by
  by_cases a4:k<l.length
  .obtain⟨ad,cs,h1,_,⟨rfl,_⟩,h3⟩:=hs.el a4;exact⟨ad,l[k],λ_=>⟨h1,(h3 _ a0).pre rfl,a4,rfl⟩⟩
  .exact⟨a,f,λh=>fm (jg h) oM⟩
 refine⟨ad,λh=>⟨(hq h).1,oM,jg h⟩,q.BY,λh=>by rw[dx];exact(hq h).2.1,f.BY,λ_=>b0.at0 a6 rfl,λhc=>?_,λhc=>?_⟩
 .simp only[dz]at hc;obtain⟨_,_,a4,a7⟩:=hq hc.1;refine hn a4 w3 ⟨a6,λi hi b4=>?_⟩;obtain h|h:=im.1 b4
  .exact hI i hi h
  .subst h;rw[<-a7];exact hc.2
 .have a8:∀h:k<l.length,Ak l[k].BY f.BY=false:=λh=>by have hd:decide ((k:Int)<(s.len:Int))=true:=fy oM;rw[hd,ic]at hc;obtain⟨_,_,_,a7⟩:=hq hd;rw[<-a7];simpa using hc
  obtain⟨e1,e2⟩:=XQ (p:=λx:va=>Ak x.BY f.BY) hI a8 hk;refine⟨⟨oM,oM⟩,?_⟩;rw[dx];refine UX (E:=wq) (λh=>h) HZ (hS.U a0.size) (hs.U a0) hk λr1 w4 x4 o4=>⟨f.BY,f.dir,f.data,b0.at0 (r:=[]) (a6.Z x4) rfl,An.intro λa5 w5 x5 b2 _ _=>?_⟩;refine(o4.U x5).é (x4.Z x5) HZ (x:=f) ⟨rfl,hf⟩ (b2.sh.pre (r:=[]) rfl) dC (by rw[a9,fg];unfold Ab;omega) λr2 w6 o6 x6=>⟨⟨oM,oM⟩,?_⟩;refine UY (E:=wq) (λh=>h) HZ (hS.U a0.size) (hs.U a0) hk x6 o6 (by rw[du,fg,gq,a9];unfold Ab;omega) dC λr3 w7 x7 o7=>hR r3 w7 (a0.Z x7) ?_;unfold CG;rw[e1,e2];rw[ff]at o7;exact OF.down o7 a0.size
def Zh2{k:vz}{e v:Sl}(hd:No ru w S d m.ss)(he:No ru w S e m.uw)(ho:No ru w S o m.uq)(hv:No ru w S v m.sd)(a8:No ru w Γ d' k.ss)(a9:No ru w Γ e' k.uw)(b0:No ru w Γ o' k.uq)(b8:No ru w Γ v' k.sd)
  (hR:∀w',AI w w'->R (decide (m=k)) w'):KS d e o v d' e' o' v' w R:=by
 unfold KS;have up:∀{q:Nat->Prop} {t:Sl} {l:Θ} {w':PU},No ru w q t l->AI w w'->No ru w' (λ_=>True) t l:=λh hx=>(h.U hx).O λ_ _=>trivial;refine An.intro λa w1 x1 hb _ _=>An.intro λa1 w2 x2 a0 _ _=>⟨d,hb.at0 x2 rfl,d',a0.at0 xR rfl,Ef.V (H0 (up hd (x1.Z x2)) (up a8 (x1.Z x2)) λw3 x3=>⟨_,rfl,e,λ_=>hb.at1 (k:=1) (x2.Z x3) rfl,e',λ_=>a0.at1 (k:=1) x3 rfl,?_⟩)⟩;have a5:=(x1.Z x2).Z x3;refine IS.intro (decide (m.uw=k.uw)) (λ_ q hq=>Ef.V (H0 (up he a5) (up a9 a5) λw' hx=>⟨_,rfl,hq _ hx⟩)) λt2 w4 x4 b5=>IN ⟨o,λ_=>hb.at1 (k:=2) (x2.Z (x3.Z x4)) rfl,o',λ_=>a0.at1 (k:=2) (x3.Z x4) rfl,?_⟩;have a6:=a5.Z x4;refine IS.intro (decide (m.uq=k.uq)) (λ_ q hq=>Ef.V (H0 (up ho a6) (up b0 a6) λw' hx=>⟨_,rfl,hq _ hx⟩)) λt3 w5 x5 b6=>IN ⟨v,λ_=>hb.at1 (k:=3) (r:=[]) (x2.Z (x3.Z (x4.Z x5))) rfl,v',λ_=>a0.at1 (k:=3) (r:=[]) (x3.Z (x4.Z x5)) rfl,?_⟩;have a7:=a6.Z x5;refine IS.intro (decide (m.sd=k.sd)) (λ_ q hq=>Ef.V (H0 (up hv a7) (up b8 a7) λw' hx=>⟨_,rfl,hq _ hx⟩)) λt4 w6 x6 b7=>?_;have e2:∀{a b c:Bool},(a=true->b=c)->(a&&b)=(a&&c):=λ{a b c} h=>by cases a;rfl;rw[h rfl]
 have hr:=hR w6 (a7.Z x6);have:(((decide (m.ss=k.ss)&&t2)&&t3)&&t4)=decide (m=k):=by rw[e2 b7,e2 b6,e2 b5];obtain⟨a1,a2,a3,a4⟩:=m;obtain⟨b1,b2,b3,b4⟩:=k;rw[gp];simp only[dz,fk,vz.mk.injEq,and_assoc]
 rwa [this]
def th.at_{α:Type}{a:α}{body:α->Int->PU->(α->È)->Prop}{N s0:Nat}(hN:N<=maxLen)(a5:s0<=N)(I:α->Ê)(h0:I a s0 w)
  (hs:∀(a:α) (n:Nat) w' (a4:α->È),s0<=n->n<=N->I a n w'->(n<N->∀a' a0,I a' (n+1) a0->a4 a' (Aa ((n:Int)+1)) a0)->body a n w' a4):th a (s0:Int) w body:=
 ⟨λa i w'=>∃n:Nat,i=n/\s0<=n/\n<=N/\I a n w',λ_ i _=>N - i.toNat,⟨s0,rfl,fx _,a5,h0⟩,λa i w' ⟨n,hi,a6,hn,hI⟩=>by subst hi;refine hs a n w' _ a6 hn hI λa7 a' a0 h=>?_;rw[HO (n:=N) oM oM hN];exact⟨⟨n+1,oM,oM,oM,h⟩,by show N - ((n:Int)+1).toNat<N - (n:Int).toNat;omega⟩⟩
def Jm(T:Ε)(d:uf)(l:Ξ):Ξ:=
 let l2:=CG (CG l ⟨B (Ar d.BY),true,⟨#[]⟩⟩) ⟨B (Ar d.BY++47::vx),false,B (C0 d.td)⟩
 if 0<(BX T d.BY T.length).length then CG l2 ⟨B (Ar d.BY++47::wz),true,⟨#[]⟩⟩else l2
def Jl(T:Ε):Ε->Ξ->Ξ
 | [],l=>l
 |d::r,l=>Jl T r (Jm T d l)
noncomputable def FE (s:á):Ξ:=
 let l0:=CG (CG [] ⟨⟨#[47,109,97,110,105,102,101,115,116]⟩,false,D2 s.m⟩) ⟨⟨#[47,108,111,99,107]⟩,false,EN s.g⟩;let l1:=if s.IT then CG l0 ⟨⟨#[47,112,114,117,110,101,100]⟩,false,⟨#[]⟩⟩else l0
 if 1<s.T.length then CG l1 ⟨⟨#[47,109,111,100,117,108,101,115]⟩,true,⟨#[]⟩⟩else l1
noncomputable def OT (s:á):Ξ:=if ĉ s then []else Jl s.T (s.T.drop 1) (FE s)
def Zil(s:á):(FE s).length<=4:=by unfold FE;dsimp only;split<;>split<;>simp only[FC,ie]<;>omega
def Zim(T:Ε)(d:uf)(l:Ξ):(Jm T d l).length<=l.length+3:=by unfold Jm;dsimp only;split<;>(try simp only[FC])<;>omega
def WB{st:á}{e v:Sl}{R:Sl->È}(hS:Old S w)(hm:xx w S d e o v u s st)(hb:∀d∈st.T,d.BY.length<=4000000000000)
  (h0:∀t w',AI w w'->zi st->No wq w' (λb=>w.heap.size<=b/\b<w'.heap.size) t (OT st)->R t 0 w') (h1:∀w',AI w w'-> ¬zi st->R Sl.nil 43 w'):II d e o v u s st.IT w R:=by
 unfold II;have i6:=hm.t.len;have h8:=hm.g.len;refine An.intro λa w1 x1 a0 h6 _=>⟨d,e,o,v,u,s,st.IT,a0.at0 (r:=[]) xR rfl,?_⟩;have m1:=hm.U x1;refine Ll.V (Zii (pr:=st.IT) m1.m.d m1.m.e m1.m.o m1.m.v (hS.U x1.size) m1.t m1.g hb λb w2 x2 d0=>⟨b,rfl,λh=>h1 w2 (x1.Z x2) λhF=>?_,λh=>?_⟩)
 .rw[d0.2 hF]at h;cases h
 have b0:zi st:=d0.1 (by simpa using h);clear d0 h h1;have g8:=x1.Z x2;have hT:vj st.T:=b0.ď.Ħ;have f3:=hT.len;have m2:=hm.U g8;refine⟨d,e,o,v,a0.at0 x2 rfl,KS.V (Zh2 (m:=st.m) (k:=⟨[],[],[],[]⟩) (Γ:=se) m2.m.d m2.m.e m2.m.o m2.m.v (No.nil trivial) (No.nil trivial) (No.nil trivial) (No.nil trivial) λw3 x3=>⟨_,rfl,u,λ_=>a0.at1 (k:=4) (x2.Z x3) rfl,IN ⟨s,λ_=>a0.at1 (k:=5) (x2.Z x3) rfl,IN ⟨st.IT,λ_=>a0.at1 (k:=6) (r:=[]) (x2.Z x3) rfl,?_⟩⟩⟩)⟩;have b4:=x2.Z x3;have e6:=x1.Z b4;have e1:((u.len:Int)==1)=decide (st.g.length=1):=by rw[gp,jq,iv];omega
 have e2:((s.len:Int)==1)=decide (st.T.length=1):=by rw[gp,jq,iv];omega
 have e3:(((decide (st.m=⟨[],[],[],[]⟩)&&decide (st.g.length=1))&&decide (st.T.length=1))&& !st.IT)=ĉ st:=by unfold ĉ;rw[og,og]
 rw[e1,e2,e3];refine⟨λd1=>h0 Sl.nil w3 e6 b0 (by unfold OT;rw[fl d1];exact No.nil trivial),λd1=>?_⟩;have f2:OT st=Jl st.T (st.T.drop 1) (FE st):=by unfold OT;rw[fa (by rw[d1];decide)]
 rw[f2]at h0;have m3:=hm.U e6;have c3:=b0.Xbs;have i3:(CZ st.m).length<=4096:=by unfold AF at c3;simp only[dz,fk]at c3;exact c3.2.2
 have d2:(Gk st.g).length<=1400000:=by have:=O6 b0.lock st.g.length;rwa [eh]at this
 have sM:Ad (D2 st.m):=by unfold D2;rw[fl c3];exact ñ oM
 have sL:Ad (EN st.g):=by rw[O8 b0.lock];exact ñ oM
 refine⟨d,e,o,v,a0.at0 b4 rfl,IE.V (W8 m3.m.d m3.m.e m3.m.o m3.m.v λw4 x4=>⟨_,_,rfl,u,a0.at1 (k:=4) (b4.Z x4) rfl,IG.V (WA (m3.g.U x4) λw5 x5=>⟨_,_,rfl,?_⟩)⟩)⟩;have e9:=b4.Z (x4.Z x5);have e7:=x1.Z e9;have put:∀{w':PU} {t:Sl} {l:Ξ} {f:va} {K:Ë},AI w w'->No wq w' (λb=>w.heap.size<=b/\b<w'.heap.size) t l->l.length<=2000->Ad f.BY/\Ad f.data->(∀r b2,AI w' b2->No wq b2 (λb=>w.heap.size<=b/\b<b2.heap.size) r (CG l f)->K (Sl.v r) b2)->sx prog 141 [t.v,.agg #[.string f.BY,.bool f.dir,.string f.data]] w' K:=λ{w' t l f K} hx ht hl hf hK=>
  Ln.V (Zij (f:=f) (λb hb=>hb.2) ht oM hf λr b2 g7 o=>hK r b2 g7 (((o.ê dC (by rw[FC];show _*40<=Ab;unfold Ab;omega)).IN (λh=>h) dC).O λb hb=>⟨by have:=hx.size;omega,hb.2⟩))
 have s0:Ad ⟨#[]⟩:=Ō;refine put (l:=[]) (f:=⟨⟨#[47,109,97,110,105,102,101,115,116]⟩,false,D2 st.m⟩) e7 (No.nil trivial) sI ⟨ō dC,sM⟩ λt6 w6 x6 r6=>⟨t6,rfl,?_⟩;refine put (f:=⟨⟨#[47,108,111,99,107]⟩,false,EN st.g⟩) (e7.Z x6) r6 (by rw[FC];simp) ⟨ō dC,sL⟩ λt7 w7 x7 r7=>⟨t7,rfl,?_⟩;have c5:=e9.Z (x6.Z x7);generalize d6:CG (CG [] ⟨⟨#[47,109,97,110,105,102,101,115,116]⟩,false,D2 st.m⟩) ⟨⟨#[47,108,111,99,107]⟩,false,EN st.g⟩=l0 at*;have h3:l0.length=2:=by rw[<-d6];simp[FC]
 refine join.named λJ hJ=>?_;have c8:∀(t:Sl)(w':PU),AI w1 w'->No wq w' (λb=>w.heap.size<=b/\b<w'.heap.size) t (if st.IT then CG l0 ⟨⟨#[47,112,114,117,110,101,100]⟩,false,⟨#[]⟩⟩else l0)->J t w':=by
  subst hJ;intro t8 w8 c6 r8;generalize d7:(if st.IT then CG l0 ⟨⟨#[47,112,114,117,110,101,100]⟩,false,⟨#[]⟩⟩else l0)=l1 at*;have h5:l1.length<=3:=by rw[<-d7];split<;>(try simp only[FC])<;>omega
  refine join.named λJ2 d4=>?_;have b7:∀(t:Sl)(w':PU),AI w1 w'->No wq w' (λb=>w.heap.size<=b/\b<w'.heap.size) t (FE st)->J2 t w':=by
   subst d4;intro t9 w9 h2 r9;show th t9 ((1:Nat):Int) w9 _;refine th.at_ (N:=st.T.length) hm.t.max f3.1 (λsw i w'=>∃l:Ξ,AI w1 w'/\No wq w' (λb=>w.heap.size<=b/\b<w'.heap.size) sw l/\l.length<=4+3*i/\Jl st.T (st.T.drop i) l=Jl st.T (st.T.drop 1) (FE st)) ⟨_,h2,r9,by have:=Zil st;omega,rfl⟩ λsw i g3 i7 h9 hi ⟨l,a5,d9,i2,b5⟩ hn=>⟨s,a0.at1 (k:=5) a5 rfl,λd2=>join.named λK hK=>?_,λh7=>?_⟩
   .have a8:i<st.T.length:=oM;have a4:=x1.Z a5;obtain⟨ad,ps,dd,ee,oo,ha,_,f8,hp,f5,f6,f7,hc⟩:=vg hm.t a8;have i4:=hT.BY a8;have c7:=(hT.sy i _ (dt a8) oM).vt;have i5:=(LY c7).2;have d5:∀t w',AI w1 w'->No wq w' (λb=>w.heap.size<=b/\b<w'.heap.size) t (Jm st.T st.T[i] l)->K t w':=λt w' hx hr=>by rw[hK];refine hn a8 t w' ⟨_,hx,hr,by have:=Zim st.T st.T[i] l;omega,?_⟩;rw[<-b5,gj a8];rfl
    refine⟨s,a0.at1 (k:=5) a5 rfl,ad,⟨ha,oM,d2⟩,ps,by rw[dx];exact(hc _ a4).pre rfl,Gf.V (OS (hp.U a4) λi9 c4=>⟨_,rfl,s,a0.at1 (k:=5) (a5.Z c4) rfl,ad,⟨ha,oM,d2⟩,st.T[i].td.Y,st.T[i].td.v.ma,st.T[i].td.v.mi,st.T[i].td.v.pa,dd,ee,oo,by rw[dx];exact(hc _ (a4.Z c4)).I (k:=1) rfl,?_⟩)⟩;have b8:=a4.Z c4;refine KP.V (Zhz (p:=st.T[i].td) f8 (f5.U b8) (f6.U b8) (f7.U b8) (λg4 e8 _=>⟨_,_,rfl,?_⟩) λg4 e8 d8=>by rw[c7]at d8;cases d8);have a6:=c4.Z e8;refine put (f:=⟨B (Ar st.T[i].BY),true,⟨#[]⟩⟩) (a4.Z a6) ((d9.U a6).O λb hb=>⟨hb.1,by have:=a6.size;omega⟩) oM ⟨ñ oM,s0⟩ λg1 j0 b4 f9=>⟨g1,rfl,?_,?_⟩
    .rw[Ac,A6,Al];simp;omega
    have q3:vx.length=7:=rfl;have q4:wz.length=7:=rfl;have f0:B (Ar st.T[i].BY)++À=B (Ar st.T[i].BY++47::vx):=(by have:À=B (47::vx):=rfl;rw[this,A9]);have f1:B (Ar st.T[i].BY)++ϻ=B (Ar st.T[i].BY++47::wz):=(by have:ϻ=B (47::wz):=rfl;rw[this,A9]);rw[f0];have a7:=a6.Z b4;refine put (f:=⟨B (Ar st.T[i].BY++47::vx),false,B (C0 st.T[i].td)⟩) (a4.Z a7) f9 (by rw[FC];omega) ⟨ñ (by simp;omega),ñ oM⟩ λe4 j1 d3 e0=>⟨e4,rfl,s,a0.at1 (k:=5) (a5.Z (a7.Z d3)) rfl,?_⟩;have c9:=a4.Z (a7.Z d3);refine Ld.V (Zic (hS.U c9.size) (hm.t.U c9) a8 oM λg2 g5 a9 h4=>⟨g2,rfl,λhc=>?_,λhc=>?_⟩)
    all_goals have b9:=a5.Z (a7.Z (d3.Z a9))
    .refine⟨by rw[Ac,A6,Al];simp;omega,?_⟩;rw[f1];refine put (f:=⟨B (Ar st.T[i].BY++47::wz),true,⟨#[]⟩⟩) (x1.Z b9) ((e0.U a9).O λb hb=>⟨hb.1,by have:=a9.size;omega⟩) (by rw[FC,FC];omega) ⟨ñ (by simp;omega),s0⟩ λe5 g6 g9 g0=>⟨e5,rfl,d5 e5 g6 (b9.Z g9) ?_⟩;unfold Jm;rwa [fl oM]
    .refine d5 e4 g5 b9 ?_;unfold Jm;rw[fa oM];exact(e0.U a9).O λb hb=>⟨hb.1,by have:=a9.size;omega⟩
   .have a8:i=st.T.length:=oM;subst a8;rw[lh]at b5;have b5:l=Jl st.T (st.T.drop 1) (FE st):=b5;rw[<-b5]at h0;exact h0 sw g3 (x1.Z a5) b0 d9
  clear d4;have b6:FE st=if 1<st.T.length then CG l1 ⟨⟨#[47,109,111,100,117,108,101,115]⟩,true,⟨#[]⟩⟩else l1:=by unfold FE;rw[d6];dsimp only;rw[d7]
  refine⟨s,a0.at1 (k:=5) c6 rfl,λhc=>?_,λhc=>?_⟩
  .refine put (f:=⟨⟨#[47,109,111,100,117,108,101,115]⟩,true,⟨#[]⟩⟩) (x1.Z c6) r8 oM ⟨ō dC,s0⟩ λt9 w9 x9 r9=>⟨t9,rfl,b7 t9 w9 (c6.Z x9) ?_⟩;rwa [b6,fl oM]
  .refine b7 t8 w8 c6 ?_;rwa [b6,fa oM]
 clear hJ;refine⟨st.IT,a0.at1 (k:=6) (r:=[]) c5 rfl,λhc=>?_,λhc=>?_⟩
 .refine put (f:=⟨⟨#[47,112,114,117,110,101,100]⟩,false,⟨#[]⟩⟩) (x1.Z c5) r7 oM ⟨ō dC,s0⟩ λt8 w8 x8 r8=>⟨t8,rfl,c8 t8 w8 (c5.Z x8) ?_⟩;rwa [fl hc]
 .refine c8 t7 w7 c5 ?_;rwa [fa (by rw[hc];decide)]
def UG{l:Ξ}(h:No wq w S s l)(hn:n<l.length):∃ad,s.a=some ad/\∀w',AI w w'->sh w' (ad.add (n*3)) [.string l[n].BY,.bool l[n].dir,.string l[n].data]:=by obtain⟨ad,cs,h1,_,⟨rfl,_⟩,h3⟩:=h.el hn;exact⟨ad,h1,h3⟩
def Zc(x:Pr):Ag x x=true:=AG.2 rfl
def ũ{l:Ξ}(hs:No wq w S s l)(ht:No wq w Γ t l)(hR:∀w',AI w w'->R true w'):Lm s t w R:=by unfold Lm;have h1:=hs.len;have h2:=ht.len;refine⟨λh=>fm oM h,λ_=>?_⟩;refine Of.up hs.max (λ_ w'=>AI w w') xR λi w1 a8 hi x1 hn=>⟨λa7=>sf.drew λw2 x2=>?_,λ_=>hR w1 x1⟩;have a0:i<l.length:=oM;obtain⟨ad,ha,hc⟩:=UG hs a0;obtain⟨a4,a5,a6⟩:=UG ht a0;refine⟨ad,⟨ha,oM,a7⟩,_,_,_,by rw[dx];exact hc _ (x1.Z x2),a4,⟨a5,oM,oM⟩,_,_,_,by rw[dx];exact a6 _ (x1.Z x2),λhq=>?_,λ_=>hn a0 w2 (x1.Z x2)⟩;simp[Zc]at hq
def Zik{st:á}{e v s' u':Sl}(hS:Old S w)(hU:Old Γ w)(hm:xx w S d e o v u s st)(hk:xx w Γ d' e' o' v' u' s' st)(hb:∀d∈st.T,d.BY.length<=4000000000000)
  (hR:∀w',AI w w'->R true w'):Lo d e o v u s st.IT d' e' o' v' u' s' st.IT w R:=by
 refine An.intro λa w1 x1 ha _ _=>An.intro λa1 w2 x2 a5 _ _=>⟨d,e,o,v,u,s,st.IT,ha.at0 (r:=[]) x2 rfl,?_⟩;have a4:=x1.Z x2;have V:∀{w3 w4:PU} {t1 t2:Sl} {c:Int} {l:Ξ} {U1 U2:Nat->Prop},AI w w4->No wq w4 U1 t1 l->No wq w4 U2 t2 l->sx prog 70 [t1.v,t2.v] w4 λv9 w8=>∃a8:Bool,v9= .bool a8/\sf (c==c) λb=>R (b&&a8) w8:=λhx h1 h2=>
  Lm.V (ũ h1 h2 λw5 x5=>⟨true,rfl,IN (by rw[beq_self_eq_true];exact hR w5 (hx.Z x5))⟩)
 refine II.V (WB (hS.U a4.size) (hm.U a4) hb (λt1 w3 x3 b0 h1=>⟨t1,0,rfl,d',e',o',v',u',s',st.IT,a5.at0 (r:=[]) x3 rfl,?_⟩) λw3 x3 a9=>⟨Sl.nil,43,rfl,d',e',o',v',u',s',st.IT,a5.at0 (r:=[]) x3 rfl,?_⟩)
 all_goals
  have a0:=a4.Z x3;refine II.V (WB (hU.U a0.size) (hk.U a0) hb (λt2 w4 x4 a7 h2=>⟨t2,0,rfl,?_⟩) λw4 x4 a6=>⟨Sl.nil,43,rfl,?_⟩)
 .exact V (w3:=w3) (a0.Z x4) (h1.U x4) h2
 .exact fm b0 a6
 .exact fm a7 a9
 .exact V (w3:=w3) (l:=[]) (U1:=se) (U2:=se) (a0.Z x4) (No.nil trivial) (No.nil trivial)
def Zia{T:Ε}(hs:No ve w S s T)(ht:No ve w Γ t T)(hR:∀w',AI w w'->R true w'):La s t w R:=by unfold La;have h1:=hs.len;have h2:=ht.len;refine An.intro λa w1 x1 ha _ _=>An.intro λa1 w2 x2 a4 _ _=>⟨s,ha.at0 (r:=[]) x2 rfl,t,a4.at0 (r:=[]) xR rfl,λh=>fm oM h,λ_=>?_⟩;have a5:=x1.Z x2;refine Of.up hs.max (λ_ w'=>AI w2 w') xR λi w3 d1 hi x3 hn=>⟨s,ha.at0 (r:=[]) (x2.Z x3) rfl,λc5=>sf.drew λw4 x4=>?_,λ_=>hR w3 (a5.Z x3)⟩;have b2:i<T.length:=oM;have a7:=x3.Z x4;have a6:=a5.Z a7;obtain⟨ad,ps,dd,ee,oo,b9,_,d0,hp,hd,he,ho,hc⟩:=vg hs b2;obtain⟨a0,c9,b7,b8,c8,b5,_,_,c7,c3,c4,c6,b0⟩:=vg ht b2;have i1:s.a=some ad/\(0:Int)<=(i:Int)/\(i:Int)<(s.len:Int):=⟨b9,oM,c5⟩;have i2:t.a=some a0/\(0:Int)<=(i:Int)/\(i:Int)<(t.len:Int):=⟨b5,oM,oM⟩;refine⟨s,ha.at0 (r:=[]) (x2.Z a7) rfl,ad,i1,ps,by rw[dx];exact(hc _ a6).pre rfl,t,a4.at0 (r:=[]) a7 rfl,a0,i2,c9,by rw[dx];exact(b0 _ a6).pre rfl,?_⟩;refine IH.V (RB (hp.U a6) (c7.U a6) λw5 x5=>⟨_,rfl,sf.drew λw6 x6=>?_⟩);have a8:=a7.Z (x5.Z x6);have b4:=a5.Z a8;refine⟨s,ha.at0 (r:=[]) (x2.Z a8) rfl,ad,i1,T[i].td.Y,T[i].td.v.ma,T[i].td.v.mi,T[i].td.v.pa,dd,ee,oo,by rw[dx];exact(hc _ b4).I (k:=1) rfl,t,a4.at0 (r:=[]) a8 rfl,a0,i2,T[i].td.Y,T[i].td.v.ma,T[i].td.v.mi,T[i].td.v.pa,b7,b8,c8,by rw[dx];exact(b0 _ b4).I (k:=1) rfl,?_⟩;have up:∀{q:Nat->Prop} {tt:Sl} {l:Θ},No ru w q tt l->No ru w6 (λ_=>True) tt l:=λh=>(h.U b4).O λ_ _=>trivial;refine I9.V (W6 (p:=T[i].td) (q:=T[i].td) (up hd) (up he) (up ho) (up c3) (up c4) (up c6) λw7 x7=>⟨_,rfl,sf.drew λw8 x8=>IN (IN ?_)⟩);have a9:=a8.Z (x7.Z x8);have b6:=a5.Z a9;rw[fy rfl,fy rfl];refine⟨s,λ_=>ha.at0 (r:=[]) (x2.Z a9) rfl,ad,λ_=>i1,T[i].py,λ_=>by rw[dx];exact(hc _ b6).I (k:=8) (r:=[]) rfl,t,λ_=>a4.at0 (r:=[]) a9 rfl,a0,λ_=>i2,T[i].py,λ_=>by rw[dx];exact(b0 _ b6).I (k:=8) (r:=[]) rfl,λhq=>?_,λ_=>hn b2 w8 a9⟩;simp at hq
def Zj0{st:á}{e v s' u':Sl}(hS:Old S w)(hU:Old Γ w)(hm:xx w S d e o v u s st)(hk:xx w Γ d' e' o' v' u' s' st)(hb:∀d∈st.T,d.BY.length<=4000000000000)
  (hR:∀w',AI w w'->R true w'):KL d e o v u s st.IT d' e' o' v' u' s' st.IT w R:=by
 refine An.intro λa w1 x1 ha _ _=>An.intro λa1 w2 x2 a4 _ _=>⟨d,e,o,v,u,s,st.IT,ha.at0 (r:=[]) x2 rfl,d',e',o',v',u',s',st.IT,a4.at0 (r:=[]) xR rfl,?_⟩;have a0:=x1.Z x2;refine Lo.V (Zik (hS.U a0.size) (hU.U a0.size) (hm.U a0) (hk.U a0) hb λw3 x3=>⟨true,rfl,s,ha.at1 (k:=5) (x2.Z x3) rfl,s',a4.at1 (k:=5) x3 rfl,?_⟩);have a5:=a0.Z x3;refine La.V (Zia (hm.t.U a5) (hk.t.U a5) λw4 x4=>⟨true,rfl,IN ⟨st.IT,λ_=>ha.at1 (k:=6) (r:=[]) (x2.Z (x3.Z x4)) rfl,st.IT,λ_=>a4.at1 (k:=6) (r:=[]) (x3.Z x4) rfl,?_⟩⟩);rw[beq_self_eq_true];exact hR w4 (a5.Z x4)
end Go.Hal
namespace Go.Hal
open Go.Sort
def He{n:Pr}{R:Sl->Wp}(hS:Old S w)(hs:No ru w S s l)(hl:l.length<=1000000)(hR:∀t w',AI w w'->Ĉ w' w.heap.size S t (BB l n)->R t w'):Eb s n w R:=by
 refine An.intro λa w1 x1 a0 a8 _=>MA.V (ZC (hS.U x1.size) (hs.U x1) hl λt w2 x2 hd=>⟨t,rfl,?_⟩);obtain⟨z,hf,rfl,hz⟩:=hd;refine MF.V (Zaf (d:=λx=>Ag x.1 n) hf x2.size (by rw[ec]at hl ⊢;unfold Ab;omega) (λx hx w' k hb _ _ hk=>⟨_,_,rfl,enters_of func177 kR rfl,Od.V ?_⟩) λt3 w3 b3 _ _ _ a5=>⟨t3,rfl,?_⟩)
 .unfold Od;have a7:=x2.W hb;exact An.intro λa2 w4 x4 a4 _ _=>⟨_,a4.at0 xR rfl,_,a0.at0 (a7.Z x4) rfl,hk w4 x4⟩
 .have a6:∀p∈z,E6 w3 S p:=Ĉ.below hz b3 λb hb=>jo (hS b hb) x1.size;refine hR t3 w3 ((x1.Z x2).W (b3.O x1.size)) ⟨z.filter λp=>!Ag p.1.1 n,?_,?_,λp hp=>a6 p (iz.1 hp).1⟩
  .rw[VK Prod.fst (λx:Bl=>!Ag x.1 n)];exact a5.low x1.size
  .unfold BB;rw[<-VK Prod.snd (λd:um=>!Hl n d)];congr 1;refine List.filter_congr λp hp=>?_;rw[(hz p hp).1];unfold Hl;congr 1;rw[gp,AG,iv]
def Oe{n:Pr}(hs:No ru w S s l)(hR:∀w',AI w w'->R (C8 l n) w'):Ge s n w R:=by
 unfold Ge;obtain⟨z,hz,rfl,hr⟩:=hs.raw;refine An.intro λa w1 x1 a0 _ _=>MD.V (ZJ (p:=λx=>Ag x.1 n) (hz.U x1) (λx hx w' k a5 hk=>⟨_,_,rfl,enters_of func181 kR rfl,Oc.V ?_⟩) λw2 x2=>⟨_,rfl,?_⟩)
 .unfold Oc;exact An.intro λa2 w4 x4 a4 _ _=>⟨_,a4.at0 xR rfl,_,a0.at0 (a5.Z x4) rfl,hk w4 x4⟩
 .have e:(z.map Prod.fst).any (λx=>Ag x.1 n)=C8 (z.map Prod.snd) n:=by
   unfold C8;rw[List.any_map,List.any_map,gp,ka,ka];have e2:∀p∈z,(Ag p.1.1 n=true↔Hl n p.2=true):=λp hp=>by rw[(hr p hp).1,AG];unfold Hl;rw[iv]
   exact⟨λ⟨p,hp,h⟩=>⟨p,hp,(e2 p hp).1 h⟩,λ⟨p,hp,h⟩=>⟨p,hp,(e2 p hp).2 h⟩⟩
  rw[e];exact hR w2 (x1.Z x2)
def Zcf{a b:Bl}{R:È}(hR:∀w',Gr w w'->R (A8 a.1 b.1) w'):K4 a.1 a.2 b.1 b.2 w R:=by refine An.gr λ_ w1 x1 hb=>An.gr λ_ w2 x2 a0=>⟨_,Gr.at0 hb x2 rfl,_,Gr.at0 a0 (Gr.refl _) rfl,Fd ⟨_,rfl,hR _ (x1.Z x2)⟩⟩
def Zbn:Bm prog 179:=enters_of func179 kR rfl
def Zki{lo:Nat}{z:List (Bl×um)}{K:Ë}(h:tq yi 40 w lo s (z.map Prod.fst))(a4:lo<=w.heap.size)
  (hK:∀(z':List (Bl×um)) w',z'.Perm z->z'.Pairwise (λx y=>¬A8 y.1.1 x.1.1<0)->Below lo w w'->tq yi 40 w' lo s (z'.map Prod.fst)->K (.tuple #[]) w'):
  sx prog 178 [s.v,.func (.func 179) #[] #[]] w K:=by
 obtain⟨h1,h2,h3,h4,h5⟩:=h;rw[ec]at h1 h2 h4;obtain⟨a,n,c⟩:=s;simp only at h1 h2 h3 h5;subst h1;rcases h5 with h5|⟨g,tail,ha,hg,hr⟩
 .rw[List.map_eq_nil_iff]at h5;subst h5;refine(AnyF.slices_SortFunc_none Tryz.Xbz a c _ w).O λe w' ⟨he,hw⟩=>⟨_,he,?_⟩;subst hw;exact hK [] _ (jr _) .nil (Below.refl _ _) ⟨rfl,h2,h3,h4,.inl rfl⟩
 .subst ha;have hO:=DJ (α:=Bl×um) (·.1.1);have a5:tv (λp:Bl×um=>yi p.1) w g z tail:=by unfold tv at*;rw[jh]at hr;exact hr
  haveI:Inhabited (Bl×um):=⟨((⟨#[]⟩,Sl.nil),⟨⟨#[]⟩,[]⟩)⟩
  refine FH Tryz.Xbz (k:=2) Zec Zkc (f:=λp:Bl×um=>yi p.1) (λ_=>rfl) (λx v hv=>by simp[yi,Sl.v]at hv;rcases hv with rfl|rfl<;>rfl) (λa b=>A8 a.1.1 b.1.1) (Fe hO.flip hO.Z) 179 #[] Zbn (λw0 x y hb _=>?_) a5 (by unfold Ab at h4;omega) rfl λl' w' hp hs b a6=>?_
  .have h:=K4.V (k:=λv w'=>v= .int .i64 (A8 x.1.1 y.1.1)/\Gr w0 w') (Zcf (a:=x.1) (b:=y.1) (w:=w0) λw' h=>⟨rfl,h⟩);exact Calls.O h λe w' ⟨v,he,hv,hg⟩=>⟨by rw[he,hv],hg⟩
  .have a0:=hp.length_eq;refine hK l' w' hp hs (b.below a4 hg) ⟨by rw[ec];exact a0.H,by rwa [ec,a0],h3,by rwa [ec,a0],.inr ⟨g,tail,rfl,hg,?_⟩⟩;unfold tv at*;rwa [jh]
def UB{dr:Sl}{d:um}{R:Sl->Wp}(hS:Old S w)(hs:No ru w S s l)(hl:l.length<=1000)(d0:ye l)(hn:Ad d.Y)(hd:No uo w S dr d.range)
  (hR:∀t w',AI w w'->No ru w' (λb=>S b\/(w.heap.size<=b/\b<w'.heap.size)) t (xv l d)->R t w'):I4 s d.Y dr w R:=by
 refine An.intro λa w1 x1 b0 d4 _=>join.named λJ hJ=>sf.drew λw3 x3=>⟨_,b0.at0 x3 rfl,_,_,b0.at0 x3 rfl,?_⟩;have a0:=x1.Z x3;have push:∀{t:Sl} {w4:PU} {a8:LP} {w5:PU},AI w w4->Ĉ w4 w.heap.size S t (BB l d.Y)->AI w4 w5->AT w5 a8 [.string d.Y,dr.v]->uc prog 32 32 t (Sl.v (Sl.mk (some a8) 1 1)) w5 λd2 b9=>J d2 b9:=by
  intro t w4 a8 w5 x4 ⟨z,hf,hz,hr⟩ x5 hb;have c3:=x4.Z x5;have d5:z.length<=1000:=by have h1:(BB l d.Y).length<=l.length:=jf _ _;rw[<-hz,ec]at h1;omega
  refine((hf.U x5).uy).push JU c3.size (x:=(d.Y,dr)) (S':=se) (cs:=[.string d.Y,dr.v]) ⟨rfl,trivial⟩ (hb.sh.pre (r:=[]) rfl) (λ_ h=>h.F) (λ_ _ h=>h.F) ?_ ?_ λr w6 b8 vh _ _=>?_
  .show _*40<=Ab;rw[ec];unfold Ab;omega
  .rw[ec,Ao];omega
  .have a4:Below w.heap.size w w6:=Below.Z c3 vh;have d1:∀p∈z++[((d.Y,dr),d)],E6 w6 S p:=λp hp=>by
    obtain h|h:=fp.1 hp
    .obtain⟨e1,e2,e3⟩:=hr p h;exact⟨e1,e2,(e3.U x5).below vh hS⟩
    .rw[ep]at h;subst h;exact⟨rfl,hn,hd.below a4 hS⟩
   have a6:=b8.Xde;have he:z.map Prod.fst++[(d.Y,dr)]=(z++[((d.Y,dr),d)]).map Prod.fst:=(by rw[gb];rfl);rw[he]at a6;subst hJ;refine Zki (a6.flat (bytes:=40) (by rw[ec,du,gq];unfold Ab;omega)) a4.size λz' w7 hp c9 b7 c8=>⟨rfl,?_⟩;have a7:∀p∈z',E6 w7 S p:=λp hm=>(by obtain⟨e1,e2,e3⟩:=d1 p (hp.mem_iff.1 hm);exact⟨e1,e2,e3.below b7 hS⟩);have a9:AI w w7:=Below.Z a4 b7;have b5:=UM c8 a7;have b4:z'.map Prod.snd=xv l d:=by
    refine Znd d0 ?_ ?_
    .have:=hp.map Prod.snd;rw[gb,hz]at this;exact this
    .rw[jb];refine(List.pairwise_iff_forall_sublist.2 λ{x y} a5=>?_);have b6:=List.pairwise_iff_forall_sublist.1 c9 a5;have hx:=a5.subset (by simp:x∈ [x,y]);have hy:=a5.subset (by simp:y∈ [x,y]);rw[(a7 x hx).1,(a7 y hy).1]at b6;rwa [Ir]at b6
   rw[b4]at b5;exact hR r w7 a9 b5
 have b2:l.length<=1000000:=oM;refine⟨tf.intro (Eb.V (He (hS.U a0.size) (hs.U a0) b2 λt w4 x4 c6=>⟨x4,_,rfl,An.intro λa8 w5 x5 c5 _ _=>push (a0.Z x4) (c6.low a0.size) x5 c5⟩)),
  An.intro λd3 w4 x4 c4 _ _=>tf.intro (Eb.V (He (hS.U (a0.Z x4).size) (hs.U (a0.Z x4)) b2 λt w5 x5 c7=>⟨x5,_,rfl,push ((a0.Z x4).Z x5) (c7.low (a0.Z x4).size) xR (c4.U x5)⟩))⟩
def Ux{op tc n:Int}{Y range td:Pr}{R:Pr->Sl->È}(hg:Gl w)
  (h0:∀w',yt range none->AI w w'->R Ϥ Sl.nil 21 w') (h1:∀l t w',yt range (some l)->AI w w'->No uo w' (λb=>w.heap.size<=b/\b<w'.heap.size) t l->R Y t 0 w'):I1 op Y range tc td n w R:=by
 refine An.intro λa w1 x1 a9 b5 _=>An.intro λa1 w2 x2 a7 b6 _=>⟨_,a9.at1 x2 rfl,?_⟩;have a6:=x1.Z x2;have bad:∀{w3:PU},AI w2 w3->yt range none->ry w3 a1 [.string Ϥ,Sl.nil.v] λb0=>∃(a5:Pr) (a0:Sl),sh b0 a1 [.string a5,a0.v]/\R a5 a0 21 b0:=λx3 hr=>
  tk.intro (a7.U x3) sI λw4 b4 _ a8=>⟨_,_,a8.at0 xR rfl,h0 w4 hr (b4.U (a6.Z x3) (by have:=x1.size;omega))⟩
 refine Zkz (hg.U a6) (λw3 hn x3=>⟨_,_,rfl,IN ⟨λ_=>bad x3 (.bad hn),λh=>by simp at h⟩⟩) (λl w3 hr hl x3=>⟨_,_,rfl,IN ⟨λ_=>bad x3 (.full hr hl),λh=>by simp at h⟩⟩)
  λl s w3 hr hl x3 hs=>⟨_,_,rfl,IN ⟨λh=>?_,λh=>?_⟩⟩
 .have a4:=hs.len;have:l=[]:=by simp at h;unfold BU at a4;rw[h,ec]at a4;exact fo a4.H
  subst this;exact bad x3 (.empty hr)
 .have a4:=hs.len;have b2:l≠[]:=by rintro rfl;unfold BU at a4;simp at a4;rw[a4]at h;simp at h
  refine⟨_,(a9.U x2).at1 x3 rfl,tk.intro (a7.U x3) sI λw4 b4 _ a8=>⟨_,_,a8.at0 xR rfl,h1 _ s w4 (.ok hr b2 hl) (b4.U (a6.Z x3) (by have:=x1.size;omega)) ?_⟩⟩;have b7:=a7.lt;refine(hs.tz b4 λhb=>?_).O λb hb=>⟨by have:=a6.size;omega,by have:=b4.1;omega⟩;have:=hb.1;omega
def X8{α:Type}{c:α->α->Int}(hc:wg c)(h0:∀{a b},c a b=0->a=b):∀l:List α,∃z,yg c z/\∀y,y∈z↔y∈l
 | []=>⟨[],.nil,λ_=>Iff.rfl⟩
 |x::l=>by
  obtain⟨z,h1,h2⟩:=X8 hc h0 l
  classical
  by_cases hx:x∈z
  .exact⟨z,h1,λy=>by rw[gn,<-h2];exact⟨.inr,λh=>h.F (λe=>e▸hx) id⟩⟩
  .refine⟨z.filter (λa=>decide (c a x<0))++x::z.filter λa=>decide (c x a<0),?_,λy=>?_⟩
   .unfold yg;rw[jc,iq];have lt:∀a∈z.filter (λa=>decide (c a x<0)),c a x<0:=λa ha=>by simpa using(iz.1 ha).2
    have gt:∀a∈z.filter (λa=>decide (c x a<0)),c x a<0:=λa ha=>(by simpa using(iz.1 ha).2);refine⟨h1.filter _,⟨gt,h1.filter _⟩,λa ha b hb=>?_⟩;obtain rfl|hb:=gn.1 hb
    .exact lt a ha
    .exact hc.ĥ (lt a ha) (by have:=gt b hb;omega)
   .rw[fp,gn,gn,iz,iz,<-h2,fk,fk];constructor
    .rintro(⟨h,_⟩|h|⟨h,_⟩)
     .exact .inr h
     .exact .inl h
     .exact .inr h
    .rintro(h|h)
     .exact .inr (.inl h)
     .by_cases e:c y x=0
      .exact .inr (.inl (h0 e))
      .by_cases e1:c y x<0
       .exact .inl ⟨h,e1⟩
       .have:=hc.flip x y;exact .inr (.inr ⟨h,oM⟩)
def vm.ex(g:Ζ):∃l,vm g l:=by obtain⟨z,h1,h2⟩:=X8 æ (λh=>TK.1 h) ((g.drop 1).map Em);exact⟨z,h1,h2⟩
def BZ(d e o v p:Sl)(k pr:Bool):LV:=[d.v,e.v,o.v,v.v,p.v,.bool k,.bool pr]
abbrev JR:Type:=Sl->Sl->Sl->Sl->Sl->Bool->Bool->È
def î(w:PU)(a3:LP)(c:Int)(R:JR):Prop:=∃(d e o v p:Sl) (k pr:Bool),sh w a3 [d.v,e.v,o.v,v.v,p.v,.bool k,.bool pr]/\R d e o v p k pr c w
def ī(w:PU)(a a3:LP)(c:Int)(R:JR):Prop:=
 ∃(d e o v p:Sl) (k pr:Bool),sh w a [d.v,e.v,o.v,v.v,p.v,.bool k,.bool pr]/\ry w a3 [d.v,e.v,o.v,v.v,p.v,.bool k,.bool pr] λw'=>î w' a3 c R
def î.mk{c:Int}{R:JR}{e v:Sl}{k:Bool}(h3:AT w a3 cs)(hl:cs.length=7)(hR:∀w',uv a3.block w w'->R d e o v p k pr c w'):ry w a3 [d.v,e.v,o.v,v.v,p.v,.bool k,.bool pr] λw'=>î w' a3 c R:=
 tk.intro h3 (by rw[hl];exact fx _) λw' b _ hb=>⟨d,e,o,v,p,k,pr,hb.at0 xR rfl,hR w' b⟩
def ī.mk{c:Int}{R:JR}{e v:Sl}{k:Bool}(ha:AT w a (BZ d e o v p k pr))(h3:AT w a3 cs)(hl:cs.length=7)
  (hR:∀w',uv a3.block w w'->R d e o v p k pr c w'):ī w a a3 c R:=⟨d,e,o,v,p,k,pr,ha.at0 (r:=[]) xR rfl,î.mk h3 hl hR⟩
def Fm(s:á)(x:wx)(S:Nat->Prop)(w:PU)(R:JR):Prop:=∀(c:Int)(j:zd)(d e o v pt:Sl)(k pr:Bool)(w':PU),AI w w'->(∃rv r,vm s.g rv/\yt x.range r/\uu s.m rv s.IT x r c j)->
 (c=0->zl w' (λb=>S b\/(w.heap.size<=b/\b<w'.heap.size)) d e o v j.m/\No vb w' (λb=>S b\/(w.heap.size<=b/\b<w'.heap.size)) pt j.rv/\k=j.sj/\pr=j.IT)->R d e o v pt k pr c w'
section
variable {s:á} {x:wx} {d e o v gS tS:Sl} {S:Nat->Prop} {w:PU}
def Zbb{R:Sl->Sl->Sl->Sl->Sl->Bool->É}(hG:No uh w S gS s.g)(a4:s.g≠[])
  (hR:∀pt rv w',AI w w'->vm s.g rv->tq AW 40 w' w.heap.size pt rv->(∀q∈rv,Ad q.Y)->(∀ad,pt.a=some ad->ad.block<w'.heap.size/\w.heap.size<=ad.block)->R d e o v pt true s.IT w'):Ky d e o v gS tS s.IT w R:=by
 refine An.intro λa w1 x1 ha a9 _=>An.intro λa1 w2 x2 h1 a8 _=>sf.drew λw3 x3=>⟨d,e,o,v,ha.at0 (x2.Z x3) rfl,gS,ha.at1 (k:=4) (x2.Z x3) rfl,s.IT,ha.at1 (k:=6) (r:=[]) (x2.Z x3) rfl,?_⟩;have a0:=x1.Z (x2.Z x3);have a6:=a0.size;have s2:=x2.size;have s3:=x3.size;have a7:=h1.lt;have s1:=x1.size;refine tf.intro (KH.V (Zde (hG.U a0) λt l w6 x6 a5 _ hf hq hb=>⟨x6,_,rfl,tk.intro (h1.U (x3.Z x6)) sI λw7 b7 _ h7=>⟨d,e,o,v,t,true,s.IT,h7.at0 (r:=[]) xR rfl,?_⟩⟩));have z7:=b7.1;exact hR t l w7 (b7.U (a0.Z x6) oM) (a5 a4) ((hf.low a6).tz b7 λad h=>by have:=hb ad h;omega) hq λad h=>by have:=hb ad h;omega
def IV{K:Ì}(hG:No uh w S gS s.g)(a0:s.g≠[])
  (hK:∀pt rv a6 w8,AI w w8->vm s.g rv->tq AW 40 w8 w.heap.size pt rv->(∀q∈rv,Ad q.Y)->(∀ad,pt.a=some ad->ad.block<w8.heap.size/\w.heap.size<=ad.block/\ad.block<a6.block)->w.heap.size<=a6.block->AT w8 a6 (BZ d e o v pt true s.IT)->K a6 w8):
  sx prog 108 [.agg #[d.v,e.v,o.v,v.v,gS.v,tS.v,.bool s.IT]] w λr w5=>∃(d e o v p:Sl) (k pr:Bool),r= .agg #[d.v,e.v,o.v,v.v,p.v,.bool k,.bool pr]/\
   An w5 [Sl.nil.v,Sl.nil.v,Sl.nil.v,Sl.nil.v,Sl.nil.v,.bool false,.bool false] 85 λa6 w7=>ry w7 a6 [d.v,e.v,o.v,v.v,p.v,.bool k,.bool pr] λw8=>K a6 w8:=
 Ky.V (Zbb (s:=s) hG a0 λpt rv w5 x5 hp hf hq hb=>⟨d,e,o,v,pt,true,s.IT,rfl,An.set rfl λa6 w7 x7 h7 a4=>hK pt rv a6 w7 (x5.Z x7) hp (hf.U x7) hq (λad h=>by have:=hb ad h;have:=x7.size;omega) (by have:=x5.size;omega) h7⟩)
def Zba{R:JR}(hm:zl w S d e o v s.m)(hS:Old S w)(a4:x.op=2)(hR:Fm s x S w R):Kx d e o v gS tS s.IT x.op x.Y x.range x.tc x.td x.n w R:=by refine An.intro λa w1 x1 ha a8 _=>An.intro λa1 w2 x2 h1 a6 _=>An.intro λa3 w4 x4 h4 a7 _=>⟨d,e,o,v,ha.at0 (x2.Z x4) rfl,î.mk h4 rfl λw5 b5=>?_⟩;have a0:=x1.Z (x2.Z x4);have a9:=a0.size;have s1:=x1.size;have s2:=x2.size;obtain⟨r0,a5⟩:=yt.ex x.range;obtain⟨rv,hp⟩:=vm.ex s.g;exact hR 0 ⟨s.m,[],false,false⟩ _ _ _ _ _ _ _ w5 (b5.U a0 oM) ⟨rv,r0,hp,a5,.ņ a4⟩ λ_=>⟨((hm.U a0).tz b5 λh=>by have:=hS _ h;omega).O λb hb=>.inl hb,No.nil trivial,rfl,rfl⟩
def Vl{R:JR}{w8 w9:PU}{a6:LP}{pt:Sl}{rv:Η}{k:Bool}{j:zd}(hm:zl w S d e o v s.m)(hS:Old S w)(h8:w.heap.size<=a6.block)(h3:w.heap.size<=a3.block)(x8:AI w w8)(b9:uv a6.block w8 w9)(hf:tq AW 40 w8 w.heap.size pt rv)(hq:∀q∈rv,Ad q.Y)(hb:∀ad,pt.a=some ad->ad.block≠a6.block/\ad.block≠a3.block)
  (h9:AT w9 a6 (BZ d e o v pt k pr)) (a5:AT w9 a3 cs) (hl:cs.length=7) (hp:vm s.g rv) {r0:Option (Κ)} (a7:yt x.range r0) (a4:uu s.m rv s.IT x r0 0 j) (hj:j.m=s.m/\j.rv=rv/\k=j.sj/\pr=j.IT) (hR:Fm s x S w R):ī w9 a6 a3 0 R:=by
 refine ī.mk h9 a5 hl λa8 a0=>?_;have nS:∀{b:Nat},w.heap.size<=b-> ¬S b:=λh hb=>by have:=hS _ hb;omega
 have z9:=b9.1;have a9:=a0.1;obtain⟨j1,j2,j3,j4⟩:=hj;refine hR 0 j _ _ _ _ _ _ _ a8 (a0.U (b9.U x8 h8) h3) ⟨rv,r0,hp,a7,a4⟩ λ_=>⟨?_,?_,j3,j4⟩
 .rw[j1];exact(((hm.U x8).tz b9 (nS h8)).tz a0 (nS h3)).O λb hb=>.inl hb
 .rw[j2];exact(((hf.tz b9 λad h=>(hb ad h).1).tz a0 λad h=>(hb ad h).2).rv hq).O λb hb=>.inr hb
def Zay{R:JR}(hm:zl w S d e o v s.m)(hS:Old S w)(hG:No uh w S gS s.g)(a4:s.g≠[])(a5:x.op=6)(hR:Fm s x S w R):Kw d e o v gS tS s.IT x.op x.Y x.range x.tc x.td x.n w R:=by refine An.intro λa w1 x1 ha b2 _=>An.intro λa1 w2 x2 h1 a9 _=>An.intro λa3 w4 x4 h4 b0 _=>⟨d,e,o,v,gS,tS,s.IT,ha.at0 (r:=[]) (x2.Z x4) rfl,?_⟩;have a0:=x1.Z (x2.Z x4);have a8:=a0.size;have s1:=x1.size;have s2:=x2.size;have l3:=h4.lt;obtain⟨r0,a7⟩:=yt.ex x.range;refine IV (hG.U a0) a4 λpt rv a6 w8 x8 hp hf hq hb h6 h8=>ry.intro h8 (o:=5) (by simp[BZ]) λw9 b9 _ h9=>?_;exact Vl (rv:=rv) (k:=false) (pr:=s.IT) (j:=⟨s.m,rv,false,s.IT⟩) hm hS oM oM (a0.Z x8) b9 (hf.low a8) hq (λad h=>by have:=hb ad h;omega) h9 (b9.box (h4.U x8) oM) rfl hp a7 (.Š a5) ⟨rfl,rfl,rfl,rfl⟩ hR
def Zb6{R:JR}(hm:zl w S d e o v s.m)(hS:Old S w)(hG:No uh w S gS s.g)(a4:s.g≠[])(a5:x.op=7)(hR:Fm s x S w R):K1 d e o v gS tS s.IT x.op x.Y x.range x.tc x.td x.n w R:=by refine An.intro λa w1 x1 ha b2 _=>An.intro λa1 w2 x2 h1 a9 _=>An.intro λa3 w4 x4 h4 b0 _=>⟨d,e,o,v,gS,tS,s.IT,ha.at0 (r:=[]) (x2.Z x4) rfl,?_⟩;have a0:=x1.Z (x2.Z x4);have a8:=a0.size;have s1:=x1.size;have s2:=x2.size;have l3:=h4.lt;obtain⟨r0,a7⟩:=yt.ex x.range;refine IV (hG.U a0) a4 λpt rv a6 w8 x8 hp hf hq hb h6 h8=>ry.intro h8 (o:=6) (by simp[BZ]) λw9 b9 _ h9=>?_;exact Vl (rv:=rv) (k:=true) (pr:=true) (j:=⟨s.m,rv,true,true⟩) hm hS oM oM (a0.Z x8) b9 (hf.low a8) hq (λad h=>by have:=hb ad h;omega) h9 (b9.box (h4.U x8) oM) rfl hp a7 (.prune a5) ⟨rfl,rfl,rfl,rfl⟩ hR
end
def Zdp{a b c t u:Bool}(h1:(!a)=true->t=b)(h2:((!a)&&(!t))=true->u=c):(((!a)&&(!t))&&(!u))= !(a||(b||c)):=by
 cases a
 .have:=h1 rfl;subst this;cases t
  .have:=h2 rfl;subst this;cases u<;>rfl
  .rfl
 .rfl
section
variable {s:á} {x:wx} {d e o v gS tS:Sl} {S:Nat->Prop} {w:PU}
def Zcc{R:JR}(hn:Ad x.Y)(hm:zl w S d e o v s.m)(hS:Old S w)(hl:JO s.m)(hG:No uh w S gS s.g)(e8:s.g≠[])(d0:x.op=4)(hR:Fm s x S w R):K2 d e o v gS tS s.IT x.op x.Y x.range x.tc x.td x.n w R:=by
 refine An.intro λa w1 x1 ha f8 _=>An.intro λa1 w2 x2 h1 f6 _=>An.intro λa3 w4 x4 h4 f7 _=>⟨d,e,o,v,gS,tS,s.IT,ha.at0 (r:=[]) (x2.Z x4) rfl,?_⟩;have c6:=x1.Z (x2.Z x4);have e9:=c6.size;have s1:=x1.size;have s2:=x2.size;have l3:=h4.lt;have l1:=h1.lt;obtain⟨r0,d1⟩:=yt.ex x.range;refine IV (hG.U c6) e8 λpt rv a6 w8 x8 hp hf hq hb h6 h8=>⟨x.Y,h1.at1 (k:=1) (x4.Z x8) rfl,CI.V (ux hn λw9 x9=>⟨_,rfl,λh=>?_,λh=>sf.drew λg6 c7=>?_⟩)⟩
 .exact î.mk (h4.U (x8.Z x9)) rfl λw' b=>hR 23 B7 _ _ _ _ _ _ _ w' (b.U (c6.Z (x8.Z x9)) oM) ⟨rv,r0,hp,d1,.Ŋ d0 (by simpa using h)⟩ nO
 have d6:Ae x.Y=true:=by simpa using h
 have a5:=x8.Z (x9.Z c7);have a4:=c6.Z a5;have b2:=h8.U (x9.Z c7);have b0:=h1.U (x4.Z a5);refine⟨d,b2.at0 xR rfl,x.Y,b0.at1 (k:=1) xR rfl,Ge.V (Oe (hm.d.U a4) λg7 a8=>⟨_,rfl,IN ⟨e,λ_=>b2.at1 (k:=1) a8 rfl,x.Y,λ_=>b0.at1 (k:=1) a8 rfl,?_⟩⟩)⟩;refine IS.intro (C8 s.m.uw x.Y) (λ_ r hr=>Ge.V (Oe (hm.e.U (a4.Z a8)) λd8 b5=>⟨_,rfl,hr d8 b5⟩)) λg4 d8 b5 e6=>IN ⟨o,λ_=>b2.at1 (k:=2) (a8.Z b5) rfl,x.Y,λ_=>b0.at1 (k:=1) (a8.Z b5) rfl,?_⟩;refine IS.intro (C8 s.m.uq x.Y) (λ_ r hr=>Ge.V (Oe (hm.o.U (a4.Z (a8.Z b5))) λd9 d4=>⟨_,rfl,hr d9 d4⟩)) λg5 d9 d4 e7=>?_;rw[Zdp e6 e7];have a7:=a8.Z (b5.Z d4);refine⟨λhc=>?_,λhc=>sf.drew λf1 f3=>?_⟩
 .exact î.mk (h4.U (a5.Z a7)) rfl λw' b=>hR 50 B7 _ _ _ _ _ _ _ w' (b.U (a4.Z a7) oM) ⟨rv,r0,hp,d1,.ŋ d0 d6 (by simpa using hc)⟩ nO
 have a0:=a7.Z f3;have b7:=a4.Z a0;have b4:=b2.U a0;have b6:=b0.U a0;have d7:=b7.size;refine⟨d,b4.at0 xR rfl,x.Y,b6.at1 (k:=1) xR rfl,e,b4.at1 (k:=1) xR rfl,x.Y,b6.at1 (k:=1) xR rfl,o,b4.at1 (k:=2) xR rfl,x.Y,b6.at1 (k:=1) xR rfl,?_⟩;obtain⟨l1,l2,f9,_⟩:=hl;refine tf.intro (Eb.V (He (n:=x.Y) (hS.U d7) (hm.d.U b7) oM λt1 g8 c8 r1=>⟨c8,_,rfl,?_⟩));have b8:=b7.Z c8;refine tf.intro (Eb.V (He (n:=x.Y) (hS.U b8.size) (hm.e.U b8) oM λt2 g9 c3 r2=>⟨c3,_,rfl,?_⟩));have b9:=b8.Z c3;refine Eb.V (He (n:=x.Y) (hS.U b9.size) (hm.o.U b9) oM λt3 d2 c4 r3=>⟨_,rfl,?_⟩);have c9:=b9.Z c4;have a9:=c8.Z (c3.Z c4);have g1:=c8.size;have g2:=c3.size;have g3:=c4.size;have s8:=x8.size;have f0:=a0.size;have f5:=a5.size;have l6:=h8.lt;have s9:=x9.size;have g0:=c7.size;refine tk.intro (b4.U a9) (by simp[BZ]) λh0 e0 _ e3=>ry.intro e3 (o:=1) (by simp[BZ]) λh2 e1 _ e4=>ry.intro e4 (o:=2) (by simp[BZ]) λf2 e2 _ e5=>?_;have b1:uv a6.block d2 f2:=e0.Z (e1.Z e2);have d5:a3.block≠a6.block:=oM;refine ī.mk (p:=pt) (k:=true) (pr:=s.IT) e5 (b1.box (h4.U (a5.Z (a0.Z a9))) d5) rfl λd3 c5=>?_;have z1:=b1.1;have h3:=c5.1;have nS:∀{b:Nat},w.heap.size<=b-> ¬S b:=λh hb=>by have:=hS _ hb;omega
 have dn:∀{t:Sl} {L:Θ},No ru d2 (λb=>S b\/(f1.heap.size<=b/\b<d2.heap.size)) t L->No ru d3 (λb=>S b\/(w.heap.size<=b/\b<d3.heap.size)) t L:=λh=>
  ((h.tz b1 λh=>h.F (nS oM) λh=>by omega).tz c5 λh=>h.F (nS oM) λh=>by omega).O λb hb=>hb.imp id λh=>by omega
 refine hR 0 ⟨JY s.m x.Y,rv,true,s.IT⟩ _ _ _ _ _ _ _ d3 (c5.U (b1.U c9 oM) oM) ⟨rv,r0,hp,d1,.rem d0 d6 (by rw[nr]at hc;exact hc)⟩ λ_=>⟨⟨?_,?_,?_,?_⟩,?_,rfl,rfl⟩
 .exact dn (((r1.A (fj (JL _ _) oM)).U (c3.Z c4)).O λb hb=>hb.imp id λh=>by omega)
 .exact dn (((r2.A (fj (JL _ _) oM)).U c4).O λb hb=>hb.imp id λh=>by omega)
 .exact dn ((r3.A (fj (JL _ _) oM)).O λb hb=>hb.imp id λh=>by omega)
 .exact dn ((hm.v.U c9).O λb hb=>.inl hb)
 .exact((((hf.low e9).U ((x9.Z c7).Z (a0.Z a9))).tz b1 λad h=>by have:=hb ad h;omega).tz c5 λad h=>by have:=hb ad h;omega).rv hq |>.O λb hb=>.inr hb
def U4:Bm prog 112:=enters_of func112 kR rfl
def Zcd{R:JR}(hn:Ad x.Y)(hm:zl w S d e o v s.m)(hS:Old S w)(hG:No uh w S gS s.g)(c4:s.g≠[])(b0:x.op=5)(hR:Fm s x S w R):K3 d e o v gS tS s.IT x.op x.Y x.range x.tc x.td x.n w R:=by
 refine An.intro λa w1 x1 ha e7 _=>An.intro λa1 w2 x2 h1 e5 _=>An.intro λa3 w4 x4 h4 e6 _=>⟨d,e,o,v,gS,tS,s.IT,ha.at0 (r:=[]) (x2.Z x4) rfl,?_⟩;have a0:=x1.Z (x2.Z x4);have d8:=a0.size;have s1:=x1.size;have s2:=x2.size;have l3:=h4.lt;have l1:=h1.lt;obtain⟨r0,b4⟩:=yt.ex x.range;have nS:∀{b:Nat},w.heap.size<=b-> ¬S b:=λh hb=>by have:=hS _ hb;omega
 refine IV (hG.U a0) c4 λpt rv a6 w8 x8 hp hf hq hb h6 h8=>⟨x.Y,h1.at1 (k:=1) (x4.Z x8) rfl,λh0=>?_,λh0=>⟨x.Y,h1.at1 (k:=1) (x4.Z x8) rfl,CI.V (ux hn λw9 x9=>⟨_,rfl,λh=>?_,λh=>?_⟩)⟩⟩
 .refine ry.intro h8 (o:=4) (by simp[BZ]) λw9 b9 _ h9=>ī.mk (p:=Sl.nil) (k:=true) (pr:=s.IT) h9 (b9.box (h4.U x8) oM) rfl λc5 c7=>?_;exact hR 0 ⟨s.m,[],true,s.IT⟩ _ _ _ _ _ _ _ c5 (c7.U (b9.U (a0.Z x8) oM) oM) ⟨rv,r0,hp,b4,.ŭ b0 h0⟩ λ_=>⟨(((hm.U (a0.Z x8)).tz b9 (nS oM)).tz c7 (nS oM)).O λb hb=>.inl hb,No.nil trivial,rfl,rfl⟩
 .exact î.mk (h4.U (x8.Z x9)) rfl λw' b=>hR 23 B7 _ _ _ _ _ _ _ w' (b.U (a0.Z (x8.Z x9)) oM) ⟨rv,r0,hp,b4,.Ő b0 h0 (by simpa using h)⟩ nO
 have d6:Ae x.Y=true:=by simpa using h
 have b5:=x8.Z x9;have d1:=h8.U x9;have c9:=h1.U (x4.Z b5);have d4:=hf.U x9;have e2:No vb w9 (λb=>w4.heap.size<=b/\b<w9.heap.size) pt rv:=d4.rv hq;have d2:∀q:tn,Ag q.Y x.Y=Az x.Y q:=λq=>TA q x.Y;refine⟨pt,d1.at1 (k:=4) xR rfl,HB.V (Qm (p:=Az x.Y) e2 (λq _ w' k x' hk=>⟨_,_,rfl,U4,I3.V ?_⟩) λc5 a4=>⟨_,rfl,λhc=>?_,λhc=>?_⟩)⟩
 .unfold I3;refine An.intro λa2 w6 x6 c3 _ _=>⟨_,c3.at0 xR rfl,x.Y,c9.at1 (k:=1) (x'.Z x6) rfl,?_⟩;rw[d2];exact hk w6 x6
 .exact î.mk (h4.U (b5.Z a4)) rfl λw' b=>hR 50 B7 _ _ _ _ _ _ _ w' (b.U (a0.Z (b5.Z a4)) oM) ⟨rv,r0,hp,b4,.ő b0 h0 d6 (by simpa using hc)⟩ nO
 have d3:rv.any (Az x.Y)=true:=by simpa using hc
 have e9:=a4.size;have s9:=x9.size;have s8:=x8.size;have l6:=h8.lt;have b8:=b5.Z a4;have a7:∀{ad:LP},pt.a=some ad->ad.block<w8.heap.size/\w4.heap.size<=ad.block/\ad.block<a6.block:=λh=>hb _ h;have b7:=d1.U a4;have b6:=c9.U a4;have d0:=h4.U b8;refine⟨pt,b7.at1 (k:=4) xR rfl,MG.V (Zag (d:=Az x.Y) (d4.U a4) oM hq (λq e8 w' k e4 c1 c2 hk=>⟨_,_,rfl,U4,I3.V ?_⟩) λt c6 c8 b1 b2 bt d7=>⟨t,rfl,?_⟩)⟩
 .have e1:AT w' a1 [vi x.op,.string x.Y,.string x.range,vi x.tc,.string x.td,vi x.n]:=by
   cases hpq:pt.a with
   |none=>exact b6.U (c2 hpq)
   |some g=>exact(c1 g hpq).box b6 (by have:=a7 hpq;omega)
  refine An.intro λa2 w6 x6 c3 _ _=>⟨_,c3.at0 xR rfl,x.Y,e1.at1 (k:=1) x6 rfl,?_⟩;rw[d2];exact hk w6 x6
 have a8:=a0.Z b8;have d9:AI w c6:=a8.W (c8.O d8);have box:∀{ad:LP} {cs:LV},AT c5 ad cs->(∀g,pt.a=some g->ad.block≠g.block)->AT c6 ad cs:=λ{ad cs} hb c4=>by
  cases hpq:pt.a with
  |none=>exact hb.U (b2 hpq)
  |some g=>exact(b1 g hpq).box hb (c4 g hpq)
 have d5:zl c6 S d e o v s.m:=by
  cases hpq:pt.a with
  |none=>exact(hm.U a8).U (b2 hpq)
  |some g=>exact(hm.U a8).tz (b1 g hpq) (nS (by have:=a7 hpq;omega))
 have s11:=c8.size;have tb:∀ad,t.a=some ad->ad.block≠a6.block/\ad.block≠a3.block:=λad h=>by obtain⟨g,hg,e⟩:=bt ad h;have:=a7 hg;omega
 refine ry.intro (box b7 λg h=>by have:=a7 h;omega) (o:=4) (by simp[BZ]) λf0 a5 _ e0=>ī.mk (p:=t) (k:=true) (pr:=s.IT) e0 (a5.box (box d0 λg h=>by have:=a7 h;omega) oM) rfl λe3 a9=>?_;have f1:=a5.1;have f2:=a9.1;refine hR 0 ⟨s.m,rv.filter (λq=>!Az x.Y q),true,s.IT⟩ _ _ _ _ _ _ _ e3 (a9.U (a5.U d9 oM) oM) ⟨rv,r0,hp,b4,.upd b0 h0 d6 d3⟩ λ_=>⟨((d5.tz a5 (nS oM)).tz a9 (nS oM)).O λb hb=>.inl hb,?_,rfl,rfl⟩;exact(((d7.low d8).tz a5 λad h=>(tb ad h).1).tz a9 λad h=>(tb ad h).2).rv (λq h=>hq q (iz.1 h).1)|>.O λb hb=>.inr hb
def Zb5{R:JR}(hg:Gl w)(hn:Ad x.Y)(hm:zl w S d e o v s.m)(hS:Old S w)(hl:JO s.m)(e4:N7 s.m)(hG:No uh w S gS s.g)(e3:s.g≠[])(b4:x.op=8)(hR:Fm s x S w R):K0 d e o v gS tS s.IT x.op x.Y x.range x.tc x.td x.n w R:=by
 refine An.intro λa w1 x1 ha f1 _=>An.intro λa1 w2 x2 h1 e9 _=>An.intro λa3 w4 x4 h4 f0 _=>⟨d,e,o,v,gS,tS,s.IT,ha.at0 (r:=[]) (x2.Z x4) rfl,?_⟩;have c9:=x1.Z (x2.Z x4);have e6:=c9.size;have s1:=x1.size;have s2:=x2.size;have l3:=h4.lt;have l1:=h1.lt;obtain⟨r0,d2⟩:=yt.ex x.range;have nS:∀{b:Nat},w.heap.size<=b-> ¬S b:=λh hb=>by have:=hS _ hb;omega
 have l4:=hl.2.2.2;refine IV (hG.U c9) e3 λpt rv a6 w8 x8 hp hf hq hb h6 h8=>⟨x.Y,h1.at1 (k:=1) (x4.Z x8) rfl,CI.V (ux hn λw9 x9=>⟨_,rfl,λh=>?_,λh=>?_⟩)⟩
 .exact î.mk (h4.U (x8.Z x9)) rfl λw' b=>hR 23 B7 _ _ _ _ _ _ _ w' (b.U (c9.Z (x8.Z x9)) oM) ⟨rv,r0,hp,d2,.ť b4 (by simpa using h)⟩ nO
 have c3:Ae x.Y=true:=by simpa using h
 have b5:=x8.Z x9;have a8:=c9.Z b5;have b7:=h8.U x9;have c8:=h1.U (x4.Z b5);have s8:=x8.size;have s9:=x9.size;have l6:=h8.lt;have sw:∀{w11 w12:PU} {t:Sl} {L:Θ} {r:Option (Κ)},AI w9 w11->uv a6.block w11 w12->AT w12 a6 (BZ d e o t pt true s.IT)->No ru w11 (λb=>S b\/(w9.heap.size<=b/\b<w11.heap.size)) t L->yt x.range r->uu s.m rv s.IT x r 0 ⟨⟨s.m.ss,s.m.uw,s.m.uq,L⟩,rv,true,s.IT⟩->∀{w13:PU},AI w12 w13->ī w13 a6 a3 0 R:=λ{w11 w12 t L r} a5 b6 e2 ht hr d8 {w13} a7=>by
  have f2:=a5.size;have f7:=b6.1;have f3:=a7.size;refine ī.mk (p:=pt) (k:=true) (pr:=s.IT) (e2.U a7) ((b6.box (h4.U (b5.Z a5)) oM).U a7) rfl λb0 a4=>?_;have e8:=a4.1;have dn:∀{t:Sl} {L:Θ},No ru w11 (λb=>S b\/(w9.heap.size<=b/\b<w11.heap.size)) t L->No ru b0 (λb=>S b\/(w.heap.size<=b/\b<b0.heap.size)) t L:=λh=>
   (((h.tz b6 λh=>h.F (nS oM) λh=>by omega).U a7).tz a4 λh=>h.F (nS oM) λh=>by omega).O λb hb=>hb.imp id λh=>by omega
  have b8:=(hm.U (a8.Z a5)).O (S':=λb=>S b\/(w9.heap.size<=b/\b<w11.heap.size)) λb hb=>.inl hb;refine hR 0 ⟨⟨s.m.ss,s.m.uw,s.m.uq,L⟩,rv,true,s.IT⟩ _ _ _ _ _ _ _ b0 (a4.U ((b6.U (a8.Z a5) oM).Z a7) oM) ⟨rv,r,hp,hr,d8⟩ λ_=>⟨⟨dn b8.d,dn b8.e,dn b8.o,dn ht⟩,?_,rfl,rfl⟩;exact(((((hf.low e6).U (x9.Z a5)).tz b6 λad h=>by have:=hb ad h;omega).U a7).tz a4 λad h=>by have:=hb ad h;omega).rv hq |>.O λb hb=>.inr hb
 refine⟨x.range,c8.at1 (k:=2) xR rfl,λh0=>sf.drew λe0 a9=>?_,λh0=>?_⟩
 .refine⟨v,b7.at1 (k:=3) a9 rfl,x.Y,c8.at1 (k:=1) a9 rfl,Ge.V (Oe (hm.v.U (a8.Z a9)) λw11 a5=>⟨_,rfl,λh=>?_,λh=>sf.drew λw12 c6=>?_⟩)⟩
  .exact î.mk (h4.U (b5.Z (a9.Z a5))) rfl λw' b=>hR 50 B7 _ _ _ _ _ _ _ w' (b.U (a8.Z (a9.Z a5)) oM) ⟨rv,r0,hp,d2,.ŧ b4 c3 h0 (by simpa using h)⟩ nO
  have a0:=a9.Z (a5.Z c6);have d9:=a0.size;refine⟨v,b7.at1 (k:=3) a0 rfl,x.Y,c8.at1 (k:=1) a0 rfl,Eb.V (He (n:=x.Y) (hS.U (a8.Z a0).size) (hm.v.U (a8.Z a0)) oM λt w13 a7 ht=>⟨_,rfl,ry.intro (b7.U (a0.Z a7)) (o:=3) (by simp[BZ]) λb0 a4 _ c7=>?_⟩)⟩;exact sw (a0.Z a7) a4 c7 ((ht.A (fj (JL _ _) oM)).O λb hb=>hb.imp id λh=>by omega) d2 (.Ŧ b4 c3 h0 (by simpa using h)) xR
 .refine⟨_,_,_,_,_,_,c8.at0 (r:=[]) xR rfl,I1.V (Ux (hg.U a8) (λe0 hr a9=>⟨_,_,_,rfl,An.set rfl λe1 w11 a5 d5 d6=>⟨λ_=>?_,λh=>fm dC h⟩⟩) λl tr e0 hr a9 e5=>⟨_,_,_,rfl,An.set rfl λe1 w11 a5 d5 d6=>⟨λh=>fm rfl h,λ_=>sf.drew λw12 c6=>?_⟩⟩)⟩
  .exact î.mk (h4.U (b5.Z (a9.Z a5))) rfl λw' b=>hR 21 B7 _ _ _ _ _ _ _ w' (b.U (a8.Z (a9.Z a5)) oM) ⟨rv,none,hp,hr,.ň b4 c3 h0 rfl⟩ nO
  have a0:=a9.Z (a5.Z c6);have c5:=a5.Z c6;have d9:=a0.size;have e7:=c5.size;have d1:=a8.Z a0;have hO:Old (λb=>S b\/(w9.heap.size<=b/\b<w12.heap.size)) w12:=λb hb=>hb.F (λh=>by have:=hS b h;have:=d1.size;omega) λh=>h.2;have d3:No uo w12 (λb=>S b\/(w9.heap.size<=b/\b<w12.heap.size)) tr l:=(e5.U c5).O λb hb=>.inr ⟨hb.1,by have:=hb.2;omega⟩;refine⟨v,b7.at1 (k:=3) a0 rfl,x.Y,tr,d5.at0 (r:=[]) c6 rfl,I4.V (UB (d:=⟨x.Y,l⟩) hO ((hm.v.U d1).O λb hb=>.inl hb) oM e4.2.2.2 hn d3 λt w13 a7 ht=>⟨_,rfl,ry.intro (b7.U (a0.Z a7)) (o:=3) (by simp[BZ]) λb0 a4 _ c7=>?_⟩)⟩;have b2:=a0.Z a7;have f5:=a7.size;have e8:=a4.1;have d0:No ru w13 (λb=>S b\/(w9.heap.size<=b/\b<w13.heap.size)) t (xv s.m.sd ⟨x.Y,l⟩):=ht.O λb hb=>hb.F (λh=>h.imp id λh=>by omega) λh=>.inr ⟨oM,h.2⟩;have c4:AI w b0:=a4.U (a8.Z b2) oM;have nb:∀{W:PU},¬(S a6.block\/(w9.heap.size<=a6.block/\a6.block<W.heap.size)):=λh=>h.F (nS oM) λh=>by omega
  have b9:=(hm.U (a8.Z b2)).O (S':=λb=>S b\/(w9.heap.size<=b/\b<w13.heap.size)) λb hb=>.inl hb;have d7:Old (λb=>S b\/(w9.heap.size<=b/\b<w13.heap.size)) b0:=λb hb=>hb.F (λh=>by have:=hS b h;have:=c4.size;omega) λh=>by omega
  refine⟨d,e,o,t,c7.at0 xR rfl,Gm.V (OD (m:=⟨s.m.ss,s.m.uw,s.m.uq,xv s.m.sd ⟨x.Y,l⟩⟩) (hg.U c4).Ñ d7 (b9.d.tz a4 nb) (b9.e.tz a4 nb) (b9.o.tz a4 nb) (d0.tz a4 nb) λf6 d4=>⟨_,rfl,λh=>?_,λh=>?_⟩)⟩
  .exact î.mk ((a4.box (h4.U (b5.Z b2)) oM).U d4) rfl λw' b=>hR 26 B7 _ _ _ _ _ _ _ w' (b.U (c4.Z d4) oM) ⟨rv,_,hp,hr,.Ť b4 c3 h0 rfl (by simpa using h)⟩ nO
  .exact sw b2 a4 c7 d0 hr (.ov b4 c3 h0 rfl (by simpa using h)) d4
end
def Vh{t:Nat->Sl}{v:Sl}{k:Bool}(h:AT w a (BZ (t 0) (t 1) (t 2) v p k pr))(hn:n<3)(hx:AI w w'):sh w' (a.add n) [Sl.v (t n)]:=by
 have:n=0\/n=1\/n=2:=oM;obtain rfl|rfl|rfl:=this
 .exact h.at1 (k:=0) hx rfl
 .exact h.at1 (k:=1) hx rfl
 .exact h.at1 (k:=2) hx rfl
def Vi{t:Nat->Sl}{v y:Sl}{k:Bool}{K:Wp}(h:AT w a (BZ (t 0) (t 1) (t 2) v p k pr))(hn:n<3)
  (hk:∀(u:Nat->Sl) w',u n=y->(∀i,i≠n->u i=t i)->uv a.block w w'->AT w' a (BZ (u 0) (u 1) (u 2) v p k pr)->K w'):ry w (a.add n) [y.v] K:=by
 refine ry.intro h (o:=n) (by simp[BZ];omega) λw' b _ hb=>hk (λi=>if i=n then y else t i) w' (fl rfl) (λi hi=>fa hi) b ?_;have:n=0\/n=1\/n=2:=oM;rcases this with rfl|rfl|rfl<;>exact hb
section
variable {s:á} {x:wx} {d e o v gS tS:Sl} {S:Nat->Prop} {w:PU}
def Zav{R:JR}(hg:Gl w)(hn:Ad x.Y)(hm:zl w S d e o v s.m)(hS:Old S w)(hl:JO s.m)(g2:N7 s.m)(hG:No uh w S gS s.g)(g0:s.g≠[])(d3:x.op=3)(hR:Fm s x S w R):Ku d e o v gS tS s.IT x.op x.Y x.range x.tc x.td x.n w R:=by
 refine An.intro λa w1 x1 ha m8 _=>An.intro λa1 w2 x2 h1 m6 _=>An.intro λa3 w4 x4 h4 m7 _=>?_;have e6:=x1.Z (x2.Z x4);have n2:=e6.size;have s1:=x1.size;have s2:=x2.size;have s4:=x4.size;have l3:=h4.lt;have l1:=h1.lt;obtain⟨r0,k3⟩:=yt.ex x.range;obtain⟨b4,g1⟩:=vm.ex s.g;have nS:∀{b:Nat},w.heap.size<=b-> ¬S b:=λh hb=>by have:=hS _ hb;omega
 have bad:∀{w':PU} {c:Int},c≠0->AI w4 w'->(∃rv r,vm s.g rv/\yt x.range r/\uu s.m rv s.IT x r c B7)->ry w' a3 [Sl.nil.v,Sl.nil.v,Sl.nil.v,Sl.nil.v,Sl.nil.v,.bool false,.bool false] λw'=>î w' a3 c R:=λ{w' c} hc hx hq=>
  î.mk (h4.U hx) rfl λw'' b=>hR c B7 _ _ _ _ _ _ _ w'' (b.U (e6.Z hx) oM) hq λh=>fm h hc
 refine⟨x.Y,h1.at1 (k:=1) x4 rfl,CI.V (ux hn λw5 x5=>⟨_,rfl,λh=>bad dC x5 ⟨b4,r0,g1,k3,.Ń d3 (by simpa using h)⟩,λh=>?_⟩)⟩;have e3:Ae x.Y=true:=by simpa using h
 have l9:=e6.Z x5;refine⟨_,_,_,_,_,_,(h1.U (x4.Z x5)).at0 (r:=[]) xR rfl,I1.V (Ux (hg.U l9) (λe4 hr e7=>⟨_,_,_,rfl,An.set rfl λj3 i9 d8 f3 g8=>⟨λ_=>bad dC (x5.Z (e7.Z d8)) ⟨b4,none,g1,hr,.addRange d3 e3 rfl⟩,λh=>fm dC h⟩⟩) λl tr e4 hr e7 k4=>⟨_,_,_,rfl,An.set rfl λj3 i9 d8 f3 g8=>⟨λh=>fm rfl h,λ_=>?_⟩⟩)⟩;have a7:=x5.Z (e7.Z d8);have d7:=e6.Z a7;have c9:=h1.U (x4.Z a7);have m4:=a7.size;have s11:=d8.size;have n0:=f3.lt;have s5:=x5.size;have n4:=e7.size;refine⟨x.tc,c9.at1 (k:=3) xR rfl,IN ⟨x.tc,λ_=>c9.at1 (k:=3) xR rfl,λhc=>bad dC a7 ⟨b4,_,g1,hr,.ł d3 e3 rfl (by simpa using hc)⟩,λhc=>?_⟩⟩;have hk:0<=x.tc/\x.tc<=2:=by rw[gd,gk,gk]at hc;omega
 refine⟨d,e,o,v,gS,tS,s.IT,(ha.U ((x2.Z x4).Z a7)).at0 (r:=[]) xR rfl,?_⟩;refine IV (hG.U d7) g0 λpt rv a6 w8 x8 hp hf hq hb h6 h8=>sf.drew λn9 j2=>An.intro λf1 d5 m1 j4 m3 _=>?_;have c3:=j2.Z m1;have a5:=x8.Z c3;have b9:=d7.Z a5;have h0:=h8.U c3;have d0:=c9.U a5;have g9:=h4.U (a7.Z a5);have f5:=f3.U a5;have s8:=x8.size;have m5:=c3.size;have l6:=h8.lt;have n5:=j2.size;have g3:=k4.U (d8.Z a5);let Lf:Nat->Θ:=λi=>if i=0 then s.m.ss else if i=1 then s.m.uw else s.m.uq
 let F:Nat->Θ:=λi=>if(i:Int)=x.tc then xv (BB (Lf i) x.Y) ⟨x.Y,l⟩else BB (Lf i) x.Y
 have f7:∀i,(Lf i).length<=999:=λi=>by
  show(if i=0 then s.m.ss else if i=1 then s.m.uw else s.m.uq).length<=999;split
  .exact hl.1
  .split
   .exact hl.2.1
   .exact hl.2.2.1
 have j7:∀i,ye (Lf i):=λi=>by
  show ye (if i=0 then s.m.ss else if i=1 then s.m.uw else s.m.uq);split
  .exact g2.1
  .split
   .exact g2.2.1
   .exact g2.2.2.1
 let Q:PU->Nat->Prop:=λw' b=>S b\/(e4.heap.size<=b/\b<w'.heap.size/\b≠a6.block)\/(w5.heap.size<=b/\b<e4.heap.size);have f8:∀w',¬Q w' a6.block:=λw' h=>h.F (nS oM) λh=>h.F (λh=>h.2.2 rfl) λh=>by omega
 have d2:∀{w'},AI w w'->e4.heap.size<=w'.heap.size->Old (Q w') w':=λ{w'} hx k5 b hb=>hb.F (λh=>by have:=hS b h;have:=hx.size;omega) λh=>h.F (λh=>h.2.1) λh=>by omega
 have b5:∀{w' w''},w'.heap.size<=w''.heap.size->∀b,Q w' b->Q w'' b:=λk5 b hb=>hb.imp id λh=>h.imp (λh=>⟨h.1,oM,h.2.2⟩) id;have b7:=hm.U b9;refine Of.up (N:=3) (by rw[Ao];omega) (λn w'=>∃t:Nat->Sl,uv a6.block d5 w'/\AT w' a6 (BZ (t 0) (t 1) (t 2) v pt true s.IT)/\∀i,i<3->No ru w' (Q w') (t i) (if i<n then F i else Lf i))
  ⟨λi=>if i=0 then d else if i=1 then e else o,xR.tz _,h0,λi hi=>?_⟩ λn w' n1 m9 ⟨t,b',e1,ht⟩ i2=>⟨λh7=>join.named λJ hJ=>?_,λj8=>join.named λJ hJ=>?_⟩
 .rw[fa oM];have:i=0\/i=1\/i=2:=oM;obtain rfl|rfl|rfl:=this
  .exact b7.d.O λb hb=>.inl hb
  .exact b7.e.O λb hb=>.inl hb
  .exact b7.o.O λb hb=>.inl hb
 .have a4:n<3:=by have:((n:Int))<3:=h7;omega
  have h3:∀(t':Nat->Sl)(w'':PU),uv a6.block d5 w''->AT w'' a6 (BZ (t' 0) (t' 1) (t' 2) v pt true s.IT)->(∀i,i<3->No ru w'' (Q w'') (t' i) (if i<n+1 then F i else Lf i))->J w'':=λt' w'' q1 q2 q3=>by rw[hJ];exact i2 a4 w'' ⟨t',q1,q2,q3⟩
  clear hJ i2;have bx:∀{w'':PU} {ad:LP} {cs:LV},uv a6.block d5 w''->AT d5 ad cs->ad.block≠a6.block->AT w'' ad cs:=λb h g0=>b.box h g0;have zb:=b'.1;have d4:AT w' f1 [.pointer (some (a6.add 0)),.pointer (some (a6.add 1)),.pointer (some (a6.add 2))]:=bx b' j4 oM;have i3:sh w' (f1.add ((n:Int).toNat*1)) [.pointer (some (a6.add n))]:=by
   rw[dx,rf];have:n=0\/n=1\/n=2:=oM;obtain rfl|rfl|rfl:=this
   .exact d4.at1 (k:=0) xR rfl
   .exact d4.at1 (k:=1) xR rfl
   .exact d4.at1 (k:=2) (r:=[]) xR rfl
  have i4:=ht n a4;rw[fa (Nat.lt_irrefl n)]at i4;have g6:AI w w':=b'.U b9 oM;refine⟨f1,⟨rfl,oM,h7⟩,some (a6.add n),i3,sf.drew λo0 c8=>⟨a6.add n,rfl,t n,Vh e1 a4 c8,x.Y,((bx b' d0 oM).U c8).at1 (k:=1) xR rfl,?_⟩⟩;have k9:=c8.size;refine Eb.V (He (n:=x.Y) ((d2 g6 oM).U k9) (i4.U c8) (by have:=f7 n;omega) λg5 b0 g7 j5=>⟨_,rfl,a6.add n,rfl,Vi (e1.U (c8.Z g7)) a4 λu j0 hu i5 c5 d1=>?_⟩);have d9:=c8.Z g7;have c4:uv a6.block d5 j0:=b'.Z ((d9.tz _).Z c5);have ū:=g7.size;have o4:=c5.1;have a0:∀{w'':PU} {tt:Sl} {L:Θ},uv a6.block b0 w''->No ru b0 (Q b0) tt L->No ru w'' (Q w'') tt L:=λb h=>(h.tz b (f8 _)).O (b5 b.1);have i7:No ru b0 (Q b0) g5 (BB (Lf n) x.Y):=(j5.A (fj (JL _ _) (by have:=f7 n;omega))).O λb hb=>hb.F (b5 oM b) λh=>.inr (.inl ⟨oM,h.2,oM⟩);have f0:∀i,i<3->No ru b0 (Q b0) (t i) (if i<n then F i else Lf i):=λi hi=>((ht i hi).U d9).O (b5 oM);refine⟨x.tc,(bx c4 d0 oM).at1 (k:=3) xR rfl,λf9=>sf.drew λe5 a8=>?_,λf9=>?_⟩
  .have k7:sh e5 (a6.add n) [g5.v]:=(by rw[<-hu];exact Vh d1 a4 a8);have m0:AI w e5:=(c4.U b9 oM).Z a8;have l0:=a8.size;have g4:No uo e5 (Q e5) tr l:=((g3.tz c4 λh=>by omega).U a8).O λb hb=>.inr (.inr ⟨oM,oM⟩);refine⟨a6.add n,rfl,g5,k7,x.Y,tr,((bx c4 f5 oM).U a8).at0 (r:=[]) xR rfl,I4.V (UB (d:=⟨x.Y,l⟩) (d2 m0 oM) (((a0 c5 i7).U a8).O (b5 l0)) (by have:=JL (Lf n) x.Y;have:=f7 n;omega) ((j7 n).zn _) hn g4 λn8 l7 e8 j6=>⟨_,rfl,a6.add n,rfl,Vi (d1.U (a8.Z e8)) a4 λu2 j1 k6 i6 e0 h2=>?_⟩)⟩;have l5:=e8.size;have m2:=e0.1;have f2:uv a6.block b0 j1:=c5.Z (((a8.Z e8).tz _).Z e0);refine h3 u2 j1 (c4.Z (((a8.Z e8).tz _).Z e0)) h2 λi hi=>?_;by_cases c7:i=n
   .subst c7;rw[fl (nk _),k6];have hF:F i=xv (BB (Lf i) x.Y) ⟨x.Y,l⟩:=fl f9;rw[hF];exact((j6.O (S':=Q l7) λb hb=>hb.F (b5 l5 b) λh=>.inr (.inl ⟨oM,h.2,oM⟩)).tz e0 (f8 _)).O (b5 m2)
   .rw[i6 i c7,i5 i c7];have:=a0 f2 (f0 i hi);by_cases a9:i<n
    .rw[fl a9]at this;rwa [fl oM]
    .rw[fa a9]at this;rwa [fa oM]
  .refine h3 u j0 c4 d1 λi hi=>?_;by_cases c7:i=n
   .subst c7;rw[fl (nk _),hu];have hF:F i=BB (Lf i) x.Y:=fa f9;rw[hF];exact a0 c5 i7
   .rw[i5 i c7];have:=a0 c5 (f0 i hi);by_cases a9:i<n
    .rw[fl a9]at this;rwa [fl oM]
    .rw[fa a9]at this;rwa [fa oM]
 .have a4:n=3:=by have: ¬((n:Int))<3:=j8;omega
  subst a4;have zb:=b'.1;have t0:=ht 0 oM;have t1:=ht 1 oM;have t2:=ht 2 oM;rw[fl oM]at t0 t1 t2;have h9:(⟨F 0,F 1,F 2,s.m.sd⟩:vz)=Ft s.m x.tc ⟨x.Y,l⟩:=by have:x.tc=0\/x.tc=1\/x.tc=2:=oM;show(⟨if((0:Nat):Int)=x.tc then _ else _,if((1:Nat):Int)=x.tc then _ else _,if((2:Nat):Int)=x.tc then _ else _,s.m.sd⟩:vz)=_;unfold Ft JY;rcases this with h|h|h<;>rw[h]<;>rfl
  have k8:No ru w' (Q w') v s.m.sd:=(b7.v.tz b' (nS oM)).O λb hb=>.inl hb;have g6:AI w w':=b'.U b9 oM;have fin:∀{w'':PU} {pr:Bool},uv a6.block w' w''->AT w'' a6 (BZ (t 0) (t 1) (t 2) v pt true pr)->pr=(s.IT&& !decide (x.tc=1))->J w'':=by
   subst hJ;intro w'' pr b2 e2 j9;have z2:=b2.1;have a0:∀{tt:Sl} {L:Θ},No ru w' (Q w') tt L->No ru w'' (Q w'') tt L:=λh=>(h.tz b2 (f8 _)).O (b5 z2);have b8:AI w w'':=b2.U g6 oM;have k0:=a0 t0;have k1:=a0 t1;have k2:=a0 t2;have kv:=a0 k8;refine⟨t 0,t 1,t 2,v,e2.at0 xR rfl,Gm.V (OD (m:=⟨F 0,F 1,F 2,s.m.sd⟩) (hg.U b8).Ñ (d2 b8 oM) k0 k1 k2 kv λl8 b6=>⟨_,rfl,λh=>?_,λh=>?_⟩)⟩
   all_goals
    rw[h9]at h;have e9:AT l8 a3 _:=(b2.box (b'.box g9 oM) oM).U b6;have n7:=b6.size
   .exact î.mk e9 rfl λd6 c6=>hR 26 B7 _ _ _ _ _ _ _ d6 (c6.U (b8.Z b6) oM) ⟨rv,_,hp,hr,.Ł d3 e3 rfl hk.1 hk.2 (by simpa using h)⟩ nO
   .refine ī.mk (e2.U b6) e9 rfl λd6 c6=>?_;have o5:=c6.1;have dn:∀{tt:Sl} {L:Θ},No ru w'' (Q w'') tt L->No ru d6 (λb=>S b\/(w.heap.size<=b/\b<d6.heap.size)) tt L:=λh=>((h.U b6).tz c6 λh=>h.F (nS oM) λh=>h.F (λh=>by omega) λh=>by omega).O λb hb=>hb.imp id λh=>h.F (λh=>by omega) λh=>(by omega);refine hR 0 ⟨Ft s.m x.tc ⟨x.Y,l⟩,rv,true,s.IT&& !decide (x.tc=1)⟩ _ _ _ _ _ _ _ d6 (c6.U (b8.Z b6) oM) ⟨rv,_,hp,hr,.add d3 e3 rfl hk.1 hk.2 (by simpa using h)⟩ λ_=>⟨?_,?_,rfl,j9⟩
    .rw[<-h9];exact⟨dn k0,dn k1,dn k2,dn kv⟩
    .have h5:=(hf.U c3).tz (b'.Z b2) λad h=>(by have:=hb ad h;omega);exact(((h5.U b6).low (show w.heap.size<=i9.heap.size from d7.size)).tz c6 λad h=>by have:=hb ad h;omega).rv hq |>.O λb hb=>.inr hb
  clear hJ;refine⟨x.tc,(b'.box d0 oM).at1 (k:=3) xR rfl,λf6=>?_,λf6=>?_⟩
  .refine ry.intro e1 (o:=6) (by simp[BZ]) λw'' b2 _ e2=>fin b2 e2 (by rw[fy f6,Bool.not_true,Bool.and_false])
  .exact fin (xR.tz _) e1 (by rw[fq f6,Bool.not_false,Bool.and_true])
end
def Ht{R:Sl->Wp}(hS:Old S w)(hs:No ru w S s l)(hR:∀t w',AI w w'->zu Ô w' (λb=>w.heap.size<=b/\b<w'.heap.size) t l->R t w'):EQ s w R:=NQ hS hs hR
def Wn{p:su}{e:Sl}{R:Pr->Int->Int->Int->Sl->Sl->Sl->Wp}(hS:Old S w)(hd:No ru w S d p.ss)(he:No ru w S e p.ta)(ho:No ru w S o p.uq)
  (hR:∀d' e' o' w',AI w w'->zu Ô w' (λb=>w.heap.size<=b/\b<w'.heap.size) d' p.ss->zu Ô w' (λb=>w.heap.size<=b/\b<w'.heap.size) e' p.ta->zu Ô w' (λb=>w.heap.size<=b/\b<w'.heap.size) o' p.uq->R p.Y p.v.ma p.v.mi p.v.pa d' e' o' w'):
  Jf p.Y p.v.ma p.v.mi p.v.pa d e o w R:=by
 refine An.intro λa w1 x1 hb ha _=>An.intro λa1 w2 x2 a6 c6 c7=>sf.drew λw3 x3=>?_;have a0:AI w w3:=x1.Z (x2.Z x3);have s1:=x1.size;have s2:=x2.size;have s3:=x3.size;refine⟨d,hb.at1 (x2.Z x3) rfl,e,hb.at1 (x2.Z x3) rfl,o,hb.at1 (x2.Z x3) rfl,?_⟩;refine tf.intro (EQ.V (Ht (hS.U a0.size) (hd.U a0) λd' w4 x4 b6=>⟨x4,_,rfl,?_⟩));refine tf.intro (EQ.V (Ht (hS.U (a0.Z x4).size) (he.U (a0.Z x4)) λe' w5 x5 c3=>⟨x5,_,rfl,?_⟩));refine EQ.V (Ht (hS.U (a0.Z (x4.Z x5)).size) (ho.U (a0.Z (x4.Z x5))) λo' w6 x6 c4=>⟨_,rfl,?_⟩);have s4:=x4.size;have s5:=x5.size;have s6:=x6.size;have c5:AI w w6:=a0.Z (x4.Z (x5.Z x6));have k1:a.block<w3.heap.size:=by have:=hb.lt;omega
 have k2:a1.block<w3.heap.size:=by have:=a6.lt;omega
 have hD:=(b6.U (x5.Z x6)).O (S':=λb=>w3.heap.size<=b/\b<w6.heap.size) λb hb=>⟨hb.1,oM⟩;have hE:=(c3.U x6).O (S':=λb=>w3.heap.size<=b/\b<w6.heap.size) λb hb=>⟨oM,oM⟩;have hO:=c4.O (S':=λb=>w3.heap.size<=b/\b<w6.heap.size) λb hb=>⟨oM,oM⟩;have b0:AT w6 a _:=hb.U (x2.Z (x3.Z (x4.Z (x5.Z x6))));have a8:AT w6 a1 _:=a6.U (x3.Z (x4.Z (x5.Z x6)));refine ry.intro b0 sI λw7 b7 _ b2=>ry.intro b2 sI λw8 b8 _ b4=>ry.intro b4 sI λw9 b9 _ b5=>⟨_,_,_,_,_,_,_,b5.sh.pre rfl,?_⟩;have a5:a1.block≠a.block:=by have:=hb.lt;omega
 refine tk.intro (b9.box (b8.box (b7.box a8 a5) a5) a5) sI λa9 a4 _ a7=>⟨_,_,_,_,_,_,_,a7.sh.pre rfl,?_⟩;have n1: ¬(w3.heap.size<=a.block/\a.block<w6.heap.size):=oM;have n2: ¬(w3.heap.size<=a1.block/\a1.block<w6.heap.size):=oM;have z7:=b7.size;have z8:=b8.size;have z9:=b9.size;have c8:=a4.size;have up:∀b,(w3.heap.size<=b/\b<w6.heap.size)->(w.heap.size<=b/\b<a9.heap.size):=λb hb=>⟨oM,oM⟩;refine hR d' e' o' a9 ?_ (((((hD.tz b7 n1).tz b8 n1).tz b9 n1).tz a4 n2).O up) (((((hE.tz b7 n1).tz b8 n1).tz b9 n1).tz a4 n2).O up) (((((hO.tz b7 n1).tz b8 n1).tz b9 n1).tz a4 n2).O up);exact a4.U (b9.U (b8.U (b7.U c5 oM) oM) oM) oM
def ZD{l:LQ}{R:Sl->Wp}(hS:Old S w)(hs:No xu w S s l)(hR:∀t w',AI w w'->OF xu 153 w' w.heap.size se t l->R t w'):MB s w R:=by
 unfold MB;refine⟨λh=>?_,λh=>?_⟩
 .have:l=[]:=by
   rcases hs.2.2.2.2 with h0|⟨ad,h1,_⟩
   .exact h0
   .rw[h]at h1;cases h1
  subst this;exact hR _ _ xR (OF.nil _ _)
 .intro a w1 ha hw;subst ha;have x1:AI w w1:=hw▸AI.alloc _ _;have uy:OF xu 153 w1 w.heap.size se ⟨some ⟨w.heap.size,0,none⟩,0,0⟩ []:=hw▸OF.empty w;refine uy.yx NE x1.size (hs.U x1) (hS.U x1.size) (λad ha hb=>?_) (by simpa using hs.2.2.2.1) (by simpa using hs.max) λr w2 a0 vh _ _=>?_
  .simp only[eu]at ha;subst ha;have:=hS _ hb;simp at this
  .exact hR r w2 (x1.W vh) (OF.flat (λh=>h) a0)
def Zgt{g:Ζ}{R:Sl->Wp}(hS:Old S w)(hs:No uh w S s g)(hR:∀t w',AI w w'->No uh w' (λb=>w.heap.size<=b/\b<w'.heap.size) t g->R t w'):LR s w R:=by
 unfold LR;have hl:=hs.len;have b9:=hs.2.2.2.1;have b4:uh.bytes=88:=rfl;have e1:=hs.max;refine An.intro λa w1 x1 ha _ _=>An.intro λa1 w2 x2 h1 _ _=>An.intro λa3 w4 x4 h3 f1 _=>⟨s,ha.at0 (r:=[]) (x2.Z x4) rfl,?_⟩;have e7:=x1.Z (x2.Z x4);have s1:=x1.size;have s2:=x2.size;have s4:=x4.size;have l1:=h1.lt;have l3:=h3.lt;refine Of.up hs.max (λi w'=>∃so Q,AI w w'/\w4.heap.size<=w'.heap.size/\AT w' a1 [Sl.nil.v]/\AT w' a3 [Sl.v so]/\OF uh 56 w' w4.heap.size Q so (g.take i)/\∀b,Q b->w4.heap.size<=b) ⟨Sl.nil,se,e7,fx _,h1.U x4,h3,OF.zero _,λ_ h=>h.F⟩ λi w5 f5 hi ⟨so,Q,b5,z5,c5,c6,o5,hQ⟩ hn=>⟨λc9=>?_,λf3=>?_⟩
 .have a9:i<g.length:=oM;obtain⟨ad,cs,es,d9,e3,c7,c8,e0⟩:=BR (hs.U b5) a9;refine⟨ad,⟨d9,oM,c9⟩,_,_,_,_,cs,es,by rw[dx];exact e0 _ xR,An.set rfl λa7 w6 x6 h7 f2=>sf.drew λw7 x7=>⟨cs,h7.at1 (k:=4) x7 rfl,es,h7.at1 (k:=5) (r:=[]) x7 rfl,?_⟩⟩;have b7:=x6.Z x7;have d1:=b5.Z b7;have f8:=b7.size;have l7:=h7.lt;have s7:=x7.size;refine tf.intro (J5.V (TX (hS.U d1.size) (c7.U b7) λt8 w8 x8 o8=>⟨x8,_,rfl,?_⟩));refine MB.V (ZD (hS.U (d1.Z x8).size) (c8.U (b7.Z x8)) λt9 w9 x9 o9=>⟨_,rfl,?_⟩);have d2:=x7.Z (x8.Z x9);have s8:=x8.size;have s9:=x9.size;refine ry.intro (h7.U d2) (o:=4) sI λf9 d3 _ d5=>ry.intro d5 (o:=5) sI λd0 d4 _ d6=>?_;have a6:uv a7.block w9 d0:=d3.Z d4;have e9:=a6.1;have a0:AI w5 d0:=a6.U (x6.Z d2) oM;have b8:=c6.U a0;refine⟨so,b8.at0 (r:=[]) xR rfl,_,_,_,_,t8,t9,d6.at0 (r:=[]) xR rfl,An.intro λf0 a4 a5 d7 _ _=>?_⟩;have f6:=a5.size;have b0:(g.take i).length=i:=by rw[fg];omega
  have r8:No vb a4 (λb=>w5.heap.size<=b/\b<a4.heap.size/\b≠a7.block) t8 g[i].vd:=(((((o8.ê dC c7.2.2.2.1).IN (λh=>h) dC).U x9).tz a6 λh=>by omega).U a5).O λb hb=>by omega
  have r9:No xu a4 (λb=>w5.heap.size<=b/\b<a4.heap.size/\b≠a7.block) t9 g[i].sq:=((((o9.ê dC c8.2.2.2.1).IN (λh=>h) dC).tz a6 λh=>by omega).U a5).O λb hb=>by omega
  refine(o5.U (a0.Z a5)).push PO (by have:=a0.size;omega) (x:=g[i]) (S':=λb=>w5.heap.size<=b/\b<a4.heap.size/\b≠a7.block) ⟨e3,t8,t9,rfl,r8,r9⟩ (d7.sh.pre (r:=[]) rfl) (λb hb=>hb.2.1) (λad ha hb=>by have:=(o5.block ha).2.1;have:=hb.1;omega) (by rw[b0,b4];rw[b4]at b9;omega) (by rw[b0];omega) λr e5 e4 a8 c3 c4=>?_;have f7:=Below.size a8;have e8:=a0.size;have e2:∀ad,so.a=some ad->a3.block≠ad.block:=λad h=>by have:=(o5.block h).1;omega
  have kb:∀{ad:LP} {cs:LV},AT a4 ad cs->ad.block<w4.heap.size->AT e5 ad cs:=λh c9=>h.sj (S:=λb=>∀ad,so.a=some ad->b≠ad.block) (λad h=>by have:=(o5.block h).1;omega) λb hb hl=>c3 b hl hb;refine tk.intro (kb (b8.U a5) oM) sI λe6 b2 _ d8=>hn a9 e6 ⟨r,λb=>Q b\/(w5.heap.size<=b/\b<a4.heap.size/\b≠a7.block),?_,?_,b2.box (kb (c5.U (a0.Z a5)) oM) oM,d8,?_,λb hb=>hb.F (hQ b) λh=>by omega⟩
  .exact b2.U ((b5.Z (a0.Z a5)).W (a8.O oM)) oM
  .have:=b2.1;omega
  .rw[dw a9];refine e4.tz b2 (λhb=>?_) λad ha=>?_
   .obtain hb|hb:=hb
    .have:=hQ _ hb;omega
    .omega
   .obtain q|q:=c4 ad ha
    .exact e2 ad q
    .omega
 .have a9:i=g.length:=oM;subst a9;rw[eh]at o5;have rd:=(o5.A (by rw[b4];rw[b4]at b9;omega) e1).O (S':=λb=>w4.heap.size<=b/\b<w5.heap.size) λb hb=>by
   rcases hb with hb|⟨ad,ha,rfl⟩
   .exact⟨hQ b hb,o5.lt b hb⟩
   .have:=o5.block ha;exact⟨this.1,this.2.1⟩
  refine⟨so,c6.at0 (r:=[]) xR rfl,tk.intro c5 sI λw6 b6 _ h6=>⟨so,h6.at0 (r:=[]) xR rfl,?_⟩⟩;have z6:=b6.1;exact hR so w6 (b6.U b5 oM) ((rd.tz b6 λh=>by omega).O λb hb=>by omega)
def Zgv{g:Ε}{R:Sl->Wp}(hS:Old S w)(hs:No ve w S s g)(hR:∀t w',AI w w'->No ve w' (λb=>w.heap.size<=b/\b<w'.heap.size) t g->R t w'):LX s w R:=by
 unfold LX;have hl:=hs.len;have b8:=hs.2.2.2.1;have b0:ve.bytes=144:=rfl;have d5:=hs.max;refine An.intro λa w1 x1 ha _ _=>An.intro λa1 w2 x2 h1 _ _=>An.intro λa3 w4 x4 h3 e5 _=>⟨s,ha.at0 (r:=[]) (x2.Z x4) rfl,?_⟩;have e2:=x1.Z (x2.Z x4);have s1:=x1.size;have s2:=x2.size;have s4:=x4.size;have l1:=h1.lt;have l3:=h3.lt;refine Of.up hs.max (λi w'=>∃so Q,AI w w'/\w4.heap.size<=w'.heap.size/\AT w' a1 [Sl.nil.v]/\AT w' a3 [Sl.v so]/\OF ve 61 w' w4.heap.size Q so (g.take i)/\∀b,Q b->w4.heap.size<=b) ⟨Sl.nil,se,e2,fx _,h1.U x4,h3,OF.zero _,λ_ h=>h.F⟩ λi w5 e8 hi ⟨so,Q,b2,z5,c5,b9,o5,hQ⟩ hn=>⟨λc6=>?_,λe7=>?_⟩
 .have a6:i<g.length:=oM;obtain⟨ad,ps,d,e,o,d1,_,d8,c7,hd,he,ho,d4⟩:=vg (hs.U b2) a6;refine⟨ad,⟨d1,oM,c6⟩,ps,g[i].td.Y,g[i].td.v.ma,g[i].td.v.mi,g[i].td.v.pa,d,e,o,g[i].py,by rw[dx];exact d4 _ xR,An.set rfl λa7 w6 x6 h7 e6=>sf.drew λw7 x7=>⟨so,b9.at0 (r:=[]) (x6.Z x7) rfl,ps,h7.at0 x7 rfl,g[i].td.Y,g[i].td.v.ma,g[i].td.v.mi,g[i].td.v.pa,d,e,o,h7.at1 (k:=1) x7 rfl,g[i].py,h7.at1 (k:=8) (r:=[]) x7 rfl,?_⟩⟩;have b5:=x6.Z x7;have c8:=b2.Z b5;have f1:=b5.size;have s7:=x7.size;refine tf.intro (G3.V (NT (hS.U c8.size) (c7.U b5) λt8 w8 x8 o8=>⟨x8,_,rfl,?_⟩));have b7:=b5.Z x8;refine tf.intro (Jf.V (Wn (p:=g[i].td) (hS.U (c8.Z x8).size) (hd.U b7) (he.U b7) (ho.U b7) λd' e' o' w9 x9 d2 d3 d7=>⟨x9,_,_,_,_,d',e',o',rfl,An.intro λe4 a4 b4 c9 _ _=>?_⟩));have s8:=x8.size;have s9:=x9.size;have e9:=b4.size;have a0:=b7.Z (x9.Z b4);have e3:=a0.size;have a8:(g.take i).length=i:=by rw[fg];omega
  have r8:No vr a4 (λb=>w5.heap.size<=b/\b<a4.heap.size) t8 g[i].BY:=(((o8.ê dC c7.2.2.2.1).IN (λh=>h) dC).U (x9.Z b4)).O λb hb=>by omega
  have up:∀{tt:Sl} {L:Θ},zu Ô w9 (λb=>w8.heap.size<=b/\b<w9.heap.size) tt L->No ru a4 (λb=>w5.heap.size<=b/\b<a4.heap.size) tt L:=λh=>(h.dep.U b4).O λb hb=>by omega
  refine(o5.U a0).push Tz oM (x:=g[i]) (S':=λb=>w5.heap.size<=b/\b<a4.heap.size) ⟨d8,t8,d',e',o',rfl,r8,up d2,up d3,up d7⟩ (c9.sh.pre (r:=[]) rfl) (λb hb=>hb.2) (λad ha hb=>by have:=(o5.block ha).2.1;have:=hb.1;omega) (by rw[a8,b0];rw[b0]at b8;omega) (by rw[a8];omega) λr e0 d9 a5 c3 c4=>?_;have f0:=Below.size a5;have d6:∀ad,so.a=some ad->a3.block≠ad.block:=λad h=>by have:=(o5.block h).1;omega
  have kb:∀{ad:LP} {cs:LV},AT a4 ad cs->ad.block<w4.heap.size->AT e0 ad cs:=λh c6=>h.sj (S:=λb=>∀ad,so.a=some ad->b≠ad.block) (λad h=>by have:=(o5.block h).1;omega) λb hb hl=>c3 b hl hb;refine tk.intro (kb (b9.U a0) oM) sI λe1 a9 _ d0=>hn a6 e1 ⟨r,λb=>Q b\/(w5.heap.size<=b/\b<a4.heap.size),?_,?_,a9.box (kb (c5.U a0) oM) oM,d0,?_,λb hb=>hb.F (hQ b) λh=>by omega⟩
  .exact a9.U ((b2.Z a0).W (a5.O oM)) oM
  .have:=a9.1;omega
  .rw[dw a6];refine d9.tz a9 (λhb=>?_) λad ha=>?_
   .obtain hb|hb:=hb
    .have:=hQ _ hb;omega
    .omega
   .obtain q|q:=c4 ad ha
    .exact d6 ad q
    .omega
 .have a6:i=g.length:=oM;subst a6;rw[eh]at o5;have rd:=(o5.A (by rw[b0];rw[b0]at b8;omega) d5).O (S':=λb=>w4.heap.size<=b/\b<w5.heap.size) λb hb=>by
   rcases hb with hb|⟨ad,ha,rfl⟩
   .exact⟨hQ b hb,o5.lt b hb⟩
   .have:=o5.block ha;exact⟨this.1,this.2.1⟩
  refine⟨so,b9.at0 (r:=[]) xR rfl,tk.intro c5 sI λw6 b6 _ h6=>⟨so,h6.at0 (r:=[]) xR rfl,?_⟩⟩;have z6:=b6.1;exact hR so w6 (b6.U b2 oM) ((rd.tz b6 λh=>by omega).O λb hb=>by omega)
def Ď{e v:Sl}{R:Sl->Sl->Sl->Sl->Wp}(hS:Old S w)(hm:zl w S d e o v m)(hR:∀d' e' o' v' w',AI w w'->zl w' (λb=>w.heap.size<=b/\b<w'.heap.size) d' e' o' v' m->R d' e' o' v' w'):Hu d e o v w R:=by
 refine An.intro λa w1 x1 ha _ _=>An.intro λa1 w2 x2 h1 a7 _=>sf.drew λw3 x3=>⟨d,ha.at0 (x2.Z x3) rfl,e,ha.at1 (k:=1) (x2.Z x3) rfl,o,ha.at1 (k:=2) (x2.Z x3) rfl,v,ha.at1 (k:=3) (r:=[]) (x2.Z x3) rfl,?_⟩;have a0:=x1.Z (x2.Z x3);refine tf.intro (EQ.V (Ht (hS.U a0.size) (hm.d.U a0) λt1 w4 x4 r1=>⟨x4,_,rfl,?_⟩));have a4:=a0.Z x4;refine tf.intro (EQ.V (Ht (hS.U a4.size) (hm.e.U a4) λt2 w5 x5 r2=>⟨x5,_,rfl,?_⟩));have a5:=a4.Z x5;refine tf.intro (EQ.V (Ht (hS.U a5.size) (hm.o.U a5) λt3 w6 x6 r3=>⟨x6,_,rfl,?_⟩));have a6:=a5.Z x6;refine EQ.V (Ht (hS.U a6.size) (hm.v.U a6) λt4 w7 x7 r4=>⟨_,rfl,tk.intro (h1.U (x3.Z (x4.Z (x5.Z (x6.Z x7))))) sI λw8 b8 _ h8=>⟨t1,t2,t3,t4,h8.at0 (r:=[]) xR rfl,?_⟩⟩);have s1:=x1.size;have s2:=x2.size;have s3:=x3.size;have s4:=x4.size;have s5:=x5.size;have s6:=x6.size;have s7:=x7.size;have z8:=b8.1;have l1:=h1.lt;have up:∀{tt:Sl} {L:Θ} {wa wb:PU},zu Ô wb (λb=>wa.heap.size<=b/\b<wb.heap.size) tt L->AI wb w7->w3.heap.size<=wa.heap.size->No ru w8 (λb=>w.heap.size<=b/\b<w8.heap.size) tt L:=λh hx a8=>by have:=hx.size;exact((h.dep.U hx).tz b8 λh=>by omega).O λb hb=>by omega
 exact hR t1 t2 t3 t4 w8 (b8.U (a6.Z x7) oM) ⟨up r1 (x5.Z (x6.Z x7)) nR,up r2 (x6.Z x7) oM,up r3 x7 oM,up r4 xR oM⟩
def Zgu{e v g:Sl}{s:á}{R:Sl->Sl->Sl->Sl->Sl->Sl->É}(hS:Old S w)(hs:xx w S d e o v g t s)(hR:∀d' e' o' v' g' t' w',AI w w'->xx w' (λb=>w.heap.size<=b/\b<w'.heap.size) d' e' o' v' g' t' s->R d' e' o' v' g' t' s.IT w'):LW d e o v g t s.IT w R:=by refine An.intro λa w1 x1 ha _ _=>An.intro λa1 w2 x2 h1 a6 _=>sf.drew λw3 x3=>⟨d,e,o,v,ha.at0 (x2.Z x3) rfl,g,ha.at1 (k:=4) (x2.Z x3) rfl,t,ha.at1 (k:=5) (x2.Z x3) rfl,_,ha.at1 (k:=6) (r:=[]) (x2.Z x3) rfl,?_⟩;have a0:=x1.Z (x2.Z x3);refine tf.intro (Hu.V (Ď (hS.U a0.size) (hs.m.U a0) λd' e' o' v' w4 x4 hm=>⟨x4,d',e',o',v',rfl,?_⟩));have a4:=a0.Z x4;refine tf.intro (LR.V (Zgt (hS.U a4.size) (hs.g.U a4) λg' w5 x5 hg=>⟨x5,g',rfl,?_⟩));have a5:=a4.Z x5;refine tf.intro (LX.V (Zgv (hS.U a5.size) (hs.t.U a5) λt' w6 x6 ht=>⟨x6,t',rfl,?_⟩));refine tk.intro (h1.U (x3.Z (x4.Z (x5.Z x6)))) sI λw8 b8 _ h8=>⟨d',e',o',v',g',t',_,h8.at0 (r:=[]) xR rfl,?_⟩;have s1:=x1.size;have s2:=x2.size;have s3:=x3.size;have s4:=x4.size;have s5:=x5.size;have s6:=x6.size;have z8:=b8.1;have l1:=h1.lt;refine hR d' e' o' v' g' t' w8 (b8.U (a5.Z x6) oM) ⟨((hm.U (x5.Z x6)).tz b8 λh=>by omega).O λb hb=>by omega,((hg.U x6).tz b8 λh=>by omega).O λb hb=>by omega,(ht.tz b8 λh=>by omega).O λb hb=>by omega⟩
def X6(t:Stl):LV:=[vi (t.uj:Int),.string t.label,vi (t.dst:Int)]
def BM:xn Stl:=DL 3 32 X6 (λt=>Ad t.label) (λ_=>rfl) (λ_ v hv=>by simp[X6]at hv;rcases hv with rfl|rfl|rfl<;>rfl)
def X7{l:List Stl}(h:No BM w S s l)(hn:n<l.length):∃ad,s.a=some ad/\Ad l[n].label/\∀w',AI w w'->sh w' (ad.add (n*3)) [vi (l[n].uj:Int),.string l[n].label,vi (l[n].dst:Int)]:=by obtain⟨ad,cs,h1,h2,⟨rfl,h3⟩,h4⟩:=h.el hn;exact⟨ad,h1,h3,h4⟩
section
variable {w:PU} {p:LP} {S:Nat->Prop} {c:PC} {G:Ζ} {P:Ι} {tm:Option (Ε)} {s:wv}
def Zhp{x:Pr}{R:È}(h:İ BM w p S c G P tm s)(hR:∀w',AI w w'->R (Ce (Fc s uj x)) w'):Mi (some p) (uj:Int) x w R:=by
 unfold Mi;have a5:=h.st;have hl:=a5.len;refine⟨p,rfl,c.st,h.ld xR 8 (r:=[]) rfl,?_⟩;refine Of.up a5.max (λi w'=>AI w w'/\∀j (hj:j<s.done.length),j<i-> ¬(s.done[j].uj=uj/\s.done[j].label=x)) ⟨AI.refl _,λ_ _ h=>by omega⟩ λi w1 b0 hi ⟨x1,hI⟩ hn=>⟨λa8=>?_,λa9=>?_⟩
 .have a4:i<s.done.length:=oM;obtain⟨ad,ha,_,a7⟩:=X7 a5 a4;refine⟨ad,⟨ha,oM,a8⟩,(s.done[i].uj:Int),s.done[i].label,(s.done[i].dst:Int),by rw[dx];exact a7 _ x1,An.set rfl λa w2 x2 a0 _=>⟨_,a0.at0 xR rfl,IN ⟨_,λ_=>a0.at1 (k:=1) xR rfl,λhc=>⟨_,a0.at1 (k:=2) (r:=[]) xR rfl,?_⟩,λhc=>?_⟩⟩⟩
  .simp only[dz,jq,AG]at hc;have e:Fc s uj x=some s.done[i].dst:=by unfold Fc;rw[List.find?_eq_some_iff_getElem.2 ⟨by simp only[fk];exact⟨oM,hc.2⟩,i,a4,rfl,λj hj=>by rw[mg,gk];exact hI j oM hj⟩];rfl
   have:=hR w2 (x1.Z x2);rw[e]at this;exact this
  .refine hn a4 w2 ⟨x1.Z x2,λj hj a6=>?_⟩;obtain h'|h':=im.1 a6
   .exact hI j hj h'
   .subst h';rintro⟨h1,h2⟩;rw[h1,h2,AG.2 rfl]at hc;simp at hc
 .have e:Fc s uj x=none:=by
   unfold Fc;rw[lx.2 λt ht=>?_]
   .rfl
   .obtain⟨j,hj,rfl⟩:=gc.1 ht;rw[fk];exact hI j hj oM
  have:=hR w1 x1;rw[e]at this;exact this
def Zhw(h:İ E w p S c G P tm s)(hi:i<s.By.length)(hj:j<s.By.length)(hR:∀w',AI w w'->R (decide (Af s.By j<+:Af s.By i)) w'):Mo (some p) (i:Int) (j:Int) w R:=by
 unfold Mo;have b4:=F3 h;obtain⟨ad,qi,_,_,_,ha,_,_,a4,_,_,_,a8⟩:=h.vg hi;obtain⟨a6,qj,_,_,_,a7,_,_,a5,_,_,_,a9⟩:=h.vg hj;have e1:Af s.By i=s.By[i].BY:=Cp (dt hi);have e2:Af s.By j=s.By[j].BY:=Cp (dt hj);rw[e1,e2]at hR;generalize s.By[i].BY=pi at*;generalize s.By[j].BY=pj at*;have b5:=a4.len;have b0:=a5.len;have b2:pi.length<=qi.cap:=a4.2.1;refine sf.drew λw1 x1=>⟨p,rfl,c.dr,h.ld x1 7 rfl,ad,⟨ha,oM,oM⟩,qi,by rw[dx];exact(a8 _ x1).pre rfl,p,rfl,c.dr,h.ld x1 7 rfl,a6,⟨a7,oM,oM⟩,qj,by rw[dx];exact(a9 _ x1).pre rfl,IN ⟨λhg=>?_,IS.intro (decide (pi.take pj.length=pj)) (λhg q hq=>?_) λt w2 x2 ht=>?_⟩⟩
 .have:=jg hg;exact⟨oM,oM⟩
 .have:=jg hg;have a0:=(a4.U x1).cut (a:=0) (b:=pj.length) (ib _) oM;rw[ju]at a0;rw[dx,b0];exact HC.V (Oh a0 (a5.U x1) λw2 x2=>⟨_,rfl,hq w2 x2⟩)
 .have:=hR w2 (x1.Z x2);have e:(decide ((qj.len:Int)<=(qi.len:Int))&&t)=decide (pj<+:pi):=by
   rw[gp,dz,iv,iv];constructor
   .rintro⟨h1,h2⟩;rw[ht (fy h1),iv]at h2;rw[<-h2];exact List.take_prefix _ _
   .intro h1;have h2:=h1.length_le;have h3:(qj.len:Int)<=(qi.len:Int):=oM;refine⟨h3,?_⟩;rw[ht (fy h3),iv];exact(List.prefix_iff_eq_take.1 h1).H
  rwa [e]
def N8(s:wv)(j:Nat)(x:Pr):Prop:=∃t∈s.done,t.label=x/\Af s.By j<+:Af s.By t.uj/\(Af s.By t.dst).length<=(Af s.By j).length
def Zhv{x:Pr}(h:İ BM w p S c G P tm s)(hd:P7 s)(hj:j<s.By.length)(hR:∀(b:Bool) w',AI w w'->(b=true↔N8 s j x)->R b w'):Mn (some p) (j:Int) x w R:=by
 unfold Mn;have d1:=F3 h;obtain⟨b0,qj,_,_,_,b4,_,_,c6,_,_,_,b6⟩:=h.vg hj;have e2:Af s.By j=s.By[j].BY:=Cp (dt hj);have a6:=h.st;have hl:=a6.len;have b8:=c6.len;rw[<-e2]at b8;refine⟨p,rfl,c.dr,h.ld xR 7 rfl,b0,⟨b4,oM,oM⟩,qj,by rw[dx];exact(b6 _ xR).pre rfl,p,rfl,c.st,h.ld xR 8 (r:=[]) rfl,?_⟩;refine Of.up a6.max (λi w'=>AI w w'/\∀k (hk:k<s.done.length),k<i-> ¬(s.done[k].label=x/\Af s.By j<+:Af s.By s.done[k].uj/\(Af s.By s.done[k].dst).length<=(Af s.By j).length)) ⟨AI.refl _,λ_ _ h=>by omega⟩ λi w1 d0 hi ⟨x1,hI⟩ hn=>⟨λc4=>?_,λd2=>?_⟩
 .have a4:i<s.done.length:=oM;obtain⟨ad,ha,_,c3⟩:=X7 a6 a4;obtain⟨c8,a8⟩:=hd _ (fe a4);obtain⟨b2,qt,_,_,_,b5,_,_,c7,_,_,_,b7⟩:=h.vg a8;have e3:Af s.By s.done[i].dst=s.By[s.done[i].dst].BY:=Cp (dt a8);have c9:=c7.len;rw[<-e3]at c9;have a9:(s.done[i].label=x/\Af s.By j<+:Af s.By s.done[i].uj/\(Af s.By s.done[i].dst).length<=(Af s.By j).length)->N8 s j x:=λh=>⟨_,fe a4,h⟩;have a7: ¬(s.done[i].label=x/\Af s.By j<+:Af s.By s.done[i].uj/\(Af s.By s.done[i].dst).length<=(Af s.By j).length)->∀w',AI w w'->d0 (Aa ((i:Int)+1)) w':=λc5 w' hx=>hn a4 w' ⟨hx,λk hk b9=>by
   obtain h'|h':=im.1 b9
   .exact hI k hk h'
   .subst h';exact c5⟩
  generalize s.done[i]=d at*;refine⟨ad,⟨ha,oM,c4⟩,(d.uj:Int),d.label,(d.dst:Int),by rw[dx];exact c3 _ x1,An.set rfl λa w2 x2 a5 _=>sf.drew λw3 x3=>⟨_,a5.at1 (k:=1) x3 rfl,IN ⟨(d.uj:Int),λ_=>a5.at0 x3 rfl,?_⟩⟩⟩;have a0:=x1.Z (x2.Z x3);refine IS.intro (decide (Af s.By j<+:Af s.By d.uj)) (λ_ q hq=>Mo.V (Zhw (h.U a0) c8 hj λw4 x4=>⟨_,rfl,hq w4 x4⟩)) λt w4 x4 ht=>IN ⟨p,λ_=>rfl,c.dr,λ_=>h.ld (a0.Z x4) 7 rfl,(d.dst:Int),λ_=>a5.at1 (k:=2) (r:=[]) (x3.Z x4) rfl,b2,λ_=>⟨b5,oM,oM⟩,qt,λ_=>by rw[dx];exact(b7 _ (a0.Z x4)).pre rfl,λhc=>?_,λhc=>?_⟩
  .simp only[dz,fk]at hc;obtain⟨⟨h1,h2⟩,h3⟩:=hc;rw[ht h1,iv]at h2;exact hR true w4 (a0.Z x4) ⟨λ_=>a9 ⟨AG.1 h1,h2,oM⟩,λ_=>rfl⟩
  .refine a7 (λ⟨h1,h2,h3⟩=>?_) w4 (a0.Z x4);have h1:=AG.2 h1;rw[ht h1,h1,fy h2,fy (show(qt.len:Int)<=(qj.len:Int) by omega)]at hc;cases hc
 .refine hR false w1 x1 ⟨nO,λ⟨t,ht,hq⟩=>?_⟩;obtain⟨k,hk,rfl⟩:=gc.1 ht;exact fm hq (hI k hk oM)
end
def yq(Q:Nat->Prop):Β->Prop
 |none=>∀n,¬Q n
 |some n=>Q n/\∀m,Q m->n<=m
def yq.iff{Q Q':Nat->Prop}{o:Β}(h:yq Q o)(e:∀n,Q n↔Q' n):yq Q' o:=by
 cases o with
 |none=>exact λn hn=>h n ((e n).2 hn)
 |some n=>exact⟨(e n).1 h.1,λm hm=>h.2 m ((e m).2 hm)⟩
def Ze{s:wv}{q:As}{x:Pr}{xy:Nat->Bool}{bo lo:Β}(hb:yq (zm s q x) bo)(hl:yq (λn=>zm s q x n/\xy n=true) lo)(a0:∃n,zm s q x n):∃n,Ĕ s q x xy n/\(match lo with|some m=>m=n|none=>bo=some n):=by
 cases lo with
 |some m=>exact⟨m,⟨hl.1.1,λ_ _ _=>hl.1.2,λk hk e=>hl.2 k ⟨hk,e.Z hl.1.2⟩⟩,rfl⟩
 |none=>
  cases bo with
  |none=>obtain⟨n,hn⟩:=a0;exact fm hn (hb n)
  |some n=>
   have a4:∀k,zm s q x k->xy k=false:=λk hk=>by
    cases hlk:xy k with
    |false=>rfl
    |true=>exact fm ⟨hk,hlk⟩ (hl k)
   exact⟨n,⟨hb.1,(λm hm h=>by rw[a4 m hm]at h;cases h),λm hm _=>hb.2 m hm⟩,rfl⟩
section
variable {w:PU} {p:LP} {S:Nat->Prop} {c:PC} {G:Ζ} {P:Ι} {tm:Option (Ε)} {s:wv}
def D0(s:wv)(q:As)(o:Β):Int:=Ce (o.bind λn=>A0 s.By (q.take n))
def Zhu{k:Nat}{R:È}(h:İ BM w p S c G P tm s)(hd:P7 s)(d8:uj<s.By.length)(h8:k<G.length)(f1:k<P.length)(hx:Ad G[k].Y)(hb:(Af s.By uj).length<=4000000)
  (b8:∀n,n<=(Af s.By uj).length->∃h,A0 s.By ((Af s.By uj).take n)=some h) (e9:∃n,zm s (Af s.By uj) G[k].Y n)
  (hR:∀n j w',AI w w'->Ĕ s (Af s.By uj) G[k].Y (λn=>L5 tm P ((Af s.By uj).take n++[G[k].Y]) k) n->A0 s.By ((Af s.By uj).take n)=some j->R (j:Int) w'):Mm (some p) (uj:Int) (k:Int) w R:=by
 unfold Mm;have j7:=F3 h;have j9:=h.g.len;have k1:=h.pk.len;obtain⟨f9,_,_,g3,_,_,_,f2⟩:=BR h.g h8;obtain⟨ad,t,_,_,_,ha,_,_,ht,_,_,_,hc⟩:=h.vg d8;have e1:Af s.By uj=s.By[uj].BY:=Cp (dt d8);rw[e1]at hb b8 e9 hR;generalize s.By[uj].BY=q at*;generalize G[k].Y=x at*;have k2:=ht.len;have j4:q.length<=t.cap:=ht.2.1;refine⟨p,rfl,c.u,h.ld0 xR,f9,⟨g3,oM,oM⟩,x,by rw[dx];exact(f2 _ xR).pre rfl,p,rfl,c.dr,h.ld xR 7 rfl,ad,⟨ha,oM,oM⟩,t,by rw[dx];exact(hc _ xR).pre rfl,join.named λJ hJ=>?_⟩;let xy:=λn=>L5 tm P (q.take n++[x]) k;have d4:∀bo lo w',AI w w'->yq (zm s q x) bo->yq (λn=>zm s q x n/\xy n=true) lo->J (D0 s q bo) (D0 s q lo) w':=λbo lo w' hx b6 a6=>by
  rw[hJ];obtain⟨n,b5,hm⟩:=Ze b6 a6 e9;obtain⟨j,hj⟩:=b8 n b5.spot.le;have hr:=hR n j w' hx b5 hj;cases lo with
  |some m=>
   obtain rfl:m=n:=hm;have e:D0 s q (some m)=(j:Int):=by unfold D0;rw[oe,hj];rfl
   rw[e];exact⟨λ_=>hr,λh=>by omega⟩
  |none=>have hm:bo=some n:=hm;subst hm;have e:D0 s q (some n)=(j:Int):=(by unfold D0;rw[oe,hj];rfl);rw[e];exact⟨nO,λ_=>hr⟩
 clear hJ;refine ß.zj (λi d2 c5 vk w'=>∃bo lo:Β,vk=(i:Int) - 1/\i<=q.length+1/\AI w w'/\d2=D0 s q bo/\c5=D0 s q lo/\(∀m,i<=m->m<=q.length->A0 s.By (q.take m++[x])=none)/\yq (λn=>i<=n/\zm s q x n) bo/\yq (λn=>i<=n/\zm s q x n/\xy n=true) lo) (q.length+1)
  ⟨none,none,oM,fx _,AI.refl _,rfl,rfl,λm h1 h2=>by omega,λn hn=>by have:=hn.2.le;omega,λn hn=>by have:=hn.2.1.le;omega⟩ λi d2 c5 vk w1 k4 ⟨bo,lo,k3,hi,x1,g5,h9,d3,b6,a6⟩ i4=>?_
 subst g5 h9;refine⟨λj8=>join.named λJ2 e5=>sf.drew λw2 x2=>?_,λi2=>?_⟩
 rotate_left
 .obtain rfl:i=0:=oM;exact d4 bo lo w1 x1 (b6.iff λn=>⟨λh=>h.2,λh=>⟨ib _,h⟩⟩) (a6.iff λn=>⟨λh=>h.2,λh=>⟨ib _,h⟩⟩)
 obtain⟨m,rfl⟩:∃m,i=m+1:=⟨i - 1,oM⟩;have j0:vk=(m:Int):=oM;subst j0;have c8:m<=q.length:=oM;have b4:∀c6 c9 w',AI w w'->A0 s.By (q.take m++[x])=none->yq (λn=>m<=n/\zm s q x n) c6->yq (λn=>m<=n/\zm s q x n/\xy n=true) c9->J2 (D0 s q c6) (D0 s q c9) w':=λc6 c9 w' hx hm h1 h2=>by
  rw[e5];refine i4 m _ _ _ w' oM ⟨c6,c9,?_,oM,hx,rfl,rfl,λn h3 h4=>?_,h1,h2⟩
  .rw[Ai oM oM]
  .by_cases hn:n=m
   .rwa [hn]
   .exact d3 n oM h4
 clear e5;have d0:=x1.Z x2;obtain⟨j,hj⟩:=b8 m c8;obtain⟨dj,e8,i9⟩:=EF hj;have h7:j<s.By.length:=(fh.1 e8).1;have d9:Af s.By j=q.take m:=by rwa [Cp e8]
 have d6:(q.take m).length=m:=by rw[fg];omega
 have b7:=(ht.U d0).cut (a:=0) (b:=m) (ib _) c8;rw[ju]at b7;refine⟨p,rfl,c.dr,h.ld d0 7 rfl,⟨oM,oM⟩,?_⟩;rw[dx];refine Fh.V (JE (h.dr.U d0) b7 λw3 x3=>⟨_,rfl,⟨oM,oM⟩,?_⟩);rw[KB,OE,hj];have f7:=d0.Z x3;refine G3.V (NT (h.lt.U f7.size) (b7.U x3) λt4 w4 x4 o4=>⟨_,rfl,An.intro λa w5 x5 g4 _ _=>?_⟩);refine(o4.U x5).é (x4.Z x5) GQ (x:=x) ⟨rfl,hx⟩ (g4.sh.pre (r:=[]) rfl) dC (by show _*16<=Ab;unfold Ab;omega) λt6 w6 o6 x6=>?_;have e3:=f7.Z x6;have f0:No vr w6 (λb=>w3.heap.size<=b) t6 (q.take m++[x]):=o6.strs (by rw[du,d6,gq];omega);refine⟨p,rfl,c.dr,h.ld e3 7 rfl,Fh.V (JE (h.dr.U e3) f0 λw7 x7=>⟨_,rfl,λhc=>?_,λhc=>?_⟩)⟩
 all_goals
  rw[KB,OE]at hc;have d1:=e3.Z x7
 .have e2:A0 s.By (q.take m++[x])≠none:=λe=>by rw[e]at hc;exact fm hc dC
  have d5:∀n,zm s q x n->m+1<=n:=λn hn=>iy λi2=>e2 (hn.clear m oM c8);exact d4 bo lo w7 d1 (b6.iff λn=>⟨λh=>h.2,λh=>⟨d5 n h,h⟩⟩) (a6.iff λn=>⟨λh=>h.2,λh=>⟨d5 n h.1,h⟩⟩)
 have a5:A0 s.By (q.take m++[x])=none:=by
  cases hf:A0 s.By (q.take m++[x])with
  |none=>rfl
  |some i=>rw[hf]at hc;exact fm (LM.2 ⟨i,rfl⟩) hc
 have c4:N8 s j x↔ ¬zm s q x m:=by
  unfold N8;rw[d9,d6];constructor
  .rintro⟨u,h1,h2,h3,h4⟩ c3;have:=c3.sj u h1 h2 h3;omega
  .intro a7;refine iy λi3=>a7 ⟨c8,λn h1 h2=>?_,λu h1 h2 h3=>iy λh4=>i3 ⟨u,h1,h2,h3,oM⟩⟩;by_cases hn:n=m
   .rwa [hn]
   .exact d3 n oM h2
 have up:∀{Q:Nat->Prop} {o:Β},yq (λn=>m+1<=n/\Q n) o-> ¬Q m->yq (λn=>m<=n/\Q n) o:=λho hq=>ho.iff λn=>⟨λh=>⟨oM,h.2⟩,λh=>⟨by
  obtain e|e:=Nat.eq_or_lt_of_le h.1
  .rw[e]at hq;exact fm h.2 hq
  .omega,h.2⟩⟩
 have new:∀{Q:Nat->Prop},Q m->yq (λn=>m<=n/\Q n) (some m):=λhq=>⟨⟨fx _,hq⟩,λn h=>h.1⟩;refine Mn.V (Zhv (h.U d1) hd h7 λb w8 x8 e7=>⟨b,rfl,λc7=>?_,λc7=>?_⟩)
 .have a7: ¬zm s q x m:=c4.1 (e7.1 c7);exact b4 bo lo w8 (d1.Z x8) a5 (up b6 a7) (up a6 λh=>a7 h.1)
 have c3:zm s q x m:=iy λa7=>by rw[e7.2 (c4.2 a7)]at c7;cases c7
 have a9:=d1.Z x8;have b2:D0 s q (some m)=(j:Int):=by unfold D0;rw[oe,hj];rfl
 have k0:Ce (some j)=(j:Int):=rfl;have no:∀w',AI w w'->xy m=false->J2 (j:Int) (D0 s q lo) w':=λw' hx hl=>by rw[<-b2];exact b4 (some m) lo w' hx a5 (new c3) (up a6 λh=>by rw[hl]at h;cases h.2)
 refine⟨p,rfl,c.ol,h.ld a9 6 rfl,λh0=>?_,λh0=>?_⟩
 .have i7:tm=none:=by have:=h.tm;rw[h0]at this;exact this.none_
  exact no w8 a9 (by show L5 tm P _ k=false;rw[i7];rfl)
 obtain⟨ao,T,e6,i6,j6,f6,d7,b9⟩:=h.tm.some_ h0;refine⟨p,rfl,c.ol,h.ld a9 6 rfl,ao,e6,f6,d7.U a9,Fh.V (JE (b9.U a9) (f0.U (x7.Z x8)) λw9 x9=>⟨_,rfl,sf.drew λj2 j3=>IN ?_⟩)⟩;have a0:=a9.Z (x9.Z j3);rw[KB];have a4:xy m=match A0 (T.map AH) (q.take m++[x])with
  |none=>false
  |some i=>decide (T[i]?.map uf.td=P[k]?):=by show L5 tm P _ k=_;rw[i6];rfl
 have j5:=b9.len;cases hf:A0 (T.map AH) (q.take m++[x])with
 |none=>rw[hf]at a4;refine⟨p,nO,none,nO,p,nO,t,nO,ad,nO,⟨#[]⟩,0,0,0,t,t,t,nO,p,nO,t,nO,ad,nO,⟨#[]⟩,0,0,0,t,t,t,nO,?_⟩;exact IS.intro true nO λj1 a8 b0 _=>⟨λh=>(by cases h),λ_=>no a8 (a0.Z b0) a4⟩
 |some v=>
  rw[hf]at a4;have f5:v<T.length:=by obtain⟨d,h1,_⟩:=EF hf;have:=(fh.1 h1).1;rwa [ec]at this
  have a4:xy m=decide (T[v].td=P[k]):=by rw[a4];show decide (T[v]?.map uf.td=P[k]?)=_;rw[dt f5,dt f1,jp];simp only[eu]
  obtain⟨e4,qT,dT,eT,oT,g2,_,_,_,g9,h6,f3,g7⟩:=vg b9 f5;obtain⟨f8,dP,eP,oP,g1,_,_,g8,h5,i5,g6⟩:=Jg h.pk f1;have e0:decide (0<=Ce (some v))=true:=fy (by show(0:Int)<=(v:Int);omega);rw[e0];refine⟨p,λ_=>rfl,c.ol,λ_=>h.ld a0 6 rfl,ao,λ_=>e6,f6,λ_=>d7.U a0,e4,λ_=>⟨g2,by show(0:Int)<=(v:Int);omega,by show(v:Int)<_;omega⟩,T[v].td.Y,T[v].td.v.ma,T[v].td.v.mi,T[v].td.v.pa,dT,eT,oT,λ_=>?_,p,λ_=>rfl,c.ps,λ_=>h.ld a0 1 rfl,f8,λ_=>⟨g1,oM,oM⟩,P[k].Y,P[k].v.ma,P[k].v.mi,P[k].v.pa,dP,eP,oP,λ_=>by rw[dx];exact g6 _ a0,?_⟩
  .show sh j2 ((e4.add (v*9)).add 1) _;exact(g7 _ a0).I (k:=1) rfl
  refine IS.intro (decide (T[v].td=P[k])) (λ_ r hr=>FB.V (LZ (p:=T[v].td) (q:=P[k]) (g9.U a0) (h6.U a0) (f3.U a0) (g8.U a0) (h5.U a0) (i5.U a0) λa8 b0=>⟨_,rfl,hr a8 b0⟩)) λj1 a8 b0 g0=>?_;rw[g0 rfl,<-a4];refine⟨λhl=>?_,λhl=>no a8 (a0.Z b0) (by simpa using hl)⟩;have hl:xy m=true:=by simpa using hl
  have:=b4 (some m) (some m) a8 (a0.Z b0) a5 (new c3) (new ⟨c3,hl⟩);rw[b2]at this;exact this
end
end Go.Hal
namespace Go.Hal
def IS.yes{τ:Sort _}{k:τ}{A B:τ->Prop}(h:A k):IS true k A B:=⟨λ_=>h,nO⟩
def IS.no{τ:Sort _}{k:τ}{A B:τ->Prop}(h:B k):IS false k A B:=⟨nO,λ_=>h⟩
def Fq{α:Type}(nm:α->Pr)(l:List α)(i:Nat):Prop:=vq nm (l.take i)/\∀q∈l.take i,Ae (nm q)=true
def VY{α:Type}{nm:α->Pr}{l:List α}:Fq nm l 0:=⟨.nil,λ_ h=>nomatch h⟩
def VX{α:Type}{nm:α->Pr}{l:List α}(hi:i<l.length){t:Pr}(ht:0<i->t=nm (l[i - 1]'oM)):
  ((!Ae (nm l[i])||(decide (0<(i:Int))&& !Ak t (nm l[i])))=false->Fq nm l i->Fq nm l (i+1))/\((!Ae (nm l[i])||(decide (0<(i:Int))&& !Ak t (nm l[i])))=true-> ¬Fq nm l l.length):=by
 constructor
 .intro hc ⟨h1,h2⟩;simp only[gd,nr,nu,gk]at hc;refine⟨?_,λq hq=>?_⟩
  .by_cases h0:i=0
   .subst h0;exact Js
   .refine Jt oM hi h1 ?_;obtain h3|h3:=hc.2
    .omega
    .rw[ht oM]at h3;exact h3
  .rw[dw hi]at hq;obtain hq|hq:=fp.1 hq
   .exact h2 q hq
   .rw[ep.1 hq];exact hc.1
 .intro hc ⟨h1,h2⟩;rw[eh]at h1 h2;simp only[ot,mg,dz,fk]at hc;rcases hc with h3|⟨h3,h4⟩
  .rw[h2 _ (fe hi)]at h3;cases h3
  .rw[ht oM]at h4;exact Jr oM hi h4 h1
structure ů(G:Ζ)(P:Ι)(i:Nat)(x:rz):Prop where
 root:i=0->x.key=ui.key/\P[0]?=some Ay
 pl:Xav G P i x
 cn:∀q∈x.vd,Ae q.Y=true
 en:∀e∈x.sq,Ae e.Y=true
def ur.Ų(h:ur G P){x:rz}(hx:G[i]?=some x):∀q∈x.vd,Ae q.Y=true:=λq hq=>by obtain⟨y,hy,_⟩:=(h.py i x hx).full q hq;obtain⟨ed,h1,h2,_⟩:=Za0 hy;rw[<-h2];exact h.Y hx h1
def ur.Xc6(h:ur G P){x:rz}(hx:G[i]?=some x):ů G P i x:=
 ⟨λh0=>by subst h0;obtain⟨y,h1,h2⟩:=h.root;rw[hx]at h1;cases h1;exact⟨h2,h.zero⟩,h.py i x hx,h.Ų hx,λe he=>h.Y hx he⟩
def ZN(h:ur G P)(k:Nat):∀q∈BP G k,Ae q.Y=true:=λq hq=>by
 unfold BP at hq;split at hq
 .rename_i x hx;exact h.Ų hx q hq
 .cases hq
def ur.Xa6(h:ur G P){k:Nat}{e:Edge}(he:e∈A2 G k):Ae e.Y=true/\∀y,G[e.to.toNat]?=some y->y.Y=e.Y:=by
 unfold A2 at he;split at he
 .rename_i x hx;refine⟨h.Y hx he,λy hy=>?_⟩;obtain⟨j,z,h1,_,h3,h4⟩:=(h.py k x hx).yz e he;rw[h1,dx,h3]at hy;cases hy;exact h4
 .cases he
def ur.Xch(h:ur G P){k:Nat}{e:Edge}(he:e∈A2 G k):∀y,P[e.to.toNat]?=some y->y.Y=e.Y:=λy hy=>by
 unfold A2 at he;split at he
 .rename_i x hx;obtain⟨j,z,h1,h2,h3,h4⟩:=(h.py k x hx).yz e he;obtain⟨q,q1,_,q3,_⟩:=(h.py j z h3).td oM;rw[h1,dx,q1]at hy;cases hy;rw[q3,h4]
 .cases he
def Wu{s:wv}(hb:∀d∈s.By,d.BY.length<=n)(hi:i<s.By.length):(Af s.By i).length<=n:=by rw[Cp (dt hi)];exact hb _ (fe hi)
def YO:Bk prog 139 284 3 32:=CL (z:=.agg #[vi 0,.string ⟨#[]⟩,vi 0]) kR kR rfl dC
section
variable {w:PU} {lo:Nat} {p:LP} {S:Nat->Prop} {c:PC} {G:Ζ} {P:Ι} {tm:Option (Ε)} {s:wv}
def İ.at_(h:İ E w p S c G P tm s)(hi:i<s.By.length):
  ∃ad q,c.dr.a=some ad/\((0:Int)<=(i:Int)/\(i:Int)<(c.dr.len:Int))/\No vr w S q (Af s.By i)/\(∀w',AI w w'->sh w' (ad.add (i*9)) [q.v])/\∀w',AI w w'->sh w' ((ad.add (i*9)).add 8) [vi (ud s.By i:Int)]:=by
 obtain⟨ad,q,d,e,o,h1,_,_,h2,_,_,_,h3⟩:=h.vg hi;rw[Cp (dt hi),Hs (dt hi)];have:=F3 h;exact⟨ad,q,h1,⟨oM,oM⟩,h2,λw' hx=>(h3 w' hx).pre rfl,λw' hx=>(h3 w' hx).I (k:=8) (r:=[]) rfl⟩
def Rc{x:Pr}(hi:i<s.By.length)(hx:Ae x=true):F7 (s.By.map (Bh P)) i x=Ce (AK s.By (Af s.By i) x (Af s.By i).length):=by
 have hl:i<(s.By.map (Bh P)).length:=by simpa using hi
 rw[Re hl,hx,fl rfl,OE];have:((s.By.map (Bh P))[i]).BY=Af s.By i:=by rw[ng,Cp (dt hi)];rfl
 rw[this]
def R1(hb:∀d∈s.By,d.BY.length<=4000000):∀d∈s.By.map (Bh P),d.BY.length<=4000000000000:=λd hd=>by obtain⟨y,hy,rfl⟩:=ij.1 hd;have:=hb y hy;show y.BY.length<=_;omega
def Zfl{o:Β}{d:Nat}:(Ce o==Ce (some d))=decide (o=some d):=by
 rw[gp,jq,iv];constructor
 .intro h;cases o with
  |none=>have h:(-1:Int)=(d:Int):=h;omega
  |some m=>have h:(m:Int)=(d:Int):=h;congr 1;omega
 .intro h;rw[h]
def Zhm{I:Œ}(hG:I.g=G){to:Nat}(hv:İ BM w p S c G P tm s)(a6:to<s.By.length)(d0:∀d∈s.By,d.py<G.length)(hb:∀d∈s.By,d.BY.length<=4000000)(a8:∀k,∀q∈BP G k,Ae q.Y=true)
  (hR:∀(b:Bool) w',AI w w'->(b=true↔HU I s uj to)->R b w'):Mf (some p) (to:Int) (uj:Int) w R:=by
 unfold Mf;have d6:=F3 hv;have d8:=hv.g.len;obtain⟨ad,qs,ha,hl,_,_,c7⟩:=hv.at_ a6;have hn:ud s.By to<G.length:=by rw[Hs (dt a6)];exact d0 _ (fe a6)
 have a0:∀w',AI w w'-> ¬HU I s uj to->R false w':=λw' hx h=>hR false w' hx ⟨nO,λhf=>fm hf h⟩;have a8:=a8 (ud s.By to);unfold HU at a0 hR;rw[hG]at a0 hR;obtain⟨b9,cg,eg,c5,_,b0,_,b5⟩:=BR hv.g hn;have d5:=b0.len;have c4:BP G (ud s.By to)=G[ud s.By to].vd:=by unfold BP;rw[dt hn]
 rw[c4]at a0 hR a8;generalize d9:ud s.By to=nd at*;refine sf.drew λw1 x1=>⟨p,rfl,c.u,hv.ld0 x1,p,rfl,c.dr,hv.ld x1 7 rfl,ad,⟨ha,hl⟩,(nd:Int),by rw[dx];exact c7 _ x1,b9,⟨c5,oM,oM⟩,cg,by rw[dx];exact(b5 _ x1).I (k:=4) rfl,?_⟩;generalize G[nd].vd=cx at*;refine Of.up b0.max (λk w'=>AI w1 w'/\∀q∈cx.take k,∃d,Fc s uj q.Y=some d/\AK s.By (Af s.By to) q.Y (Af s.By to).length=some d) ⟨AI.refl _,(λ_ h=>by cases h)⟩ λk w3 d4 hk ⟨x3,hI⟩ c9=>⟨λc8=>?_,λd7=>?_⟩
 .have a4:k<cx.length:=oM;obtain⟨c3,c6,_,d2,b6⟩:=CE b0 a4;have a9:=fe a4;have d3:cx.take (k+1)=cx.take k++[cx[k]]:=dw a4;have b7:=x1.Z x3;have hq:=a8 _ a9;have b4:∀w',AI w1 w'->(∃d,Fc s uj cx[k].Y=some d/\AK s.By (Af s.By to) cx[k].Y (Af s.By to).length=some d)->d4 (Aa ((k:Int)+1)) w':=λw' x' hd=>c9 a4 w' ⟨x',λq hq=>by
   rw[d3]at hq;obtain hq|hq:=fp.1 hq
   .exact hI q hq
   .rwa [ep.1 hq]⟩
  have a5:∀w',AI w w'-> ¬(∃d,Fc s uj cx[k].Y=some d/\AK s.By (Af s.By to) cx[k].Y (Af s.By to).length=some d)->R false w':=λw' hx d1=>a0 w' hx λhF=>d1 (hF _ a9);generalize cx[k]=q at*;refine⟨c3,⟨c6,oM,c8⟩,q.Y,q.v.ma,q.v.mi,q.v.pa,by rw[dx];exact b6 _ b7,An.set rfl λa w4 x4 b2 _=>⟨q.Y,b2.at0 xR rfl,Mi.V (Zhp (hv.U (b7.Z x4)) λw5 x5=>⟨_,rfl,sf.drew λw6 x6=>IN ?_⟩)⟩⟩;have b8:=x3.Z (x4.Z (x5.Z x6));have a7:=x1.Z b8;cases hst:Fc s uj q.Y with
  |none=>exact⟨p,nO,Sl.nil,nO,q.Y,nO,IS.no ⟨λ_=>a5 w6 a7 (λ⟨d,h1,_⟩=>by rw[hst]at h1;cases h1),nO⟩⟩
  |some d=>have e0:decide (Ce (some d)<0)=false:=fq (by show ¬(d:Int)<0;omega);rw[e0];refine⟨p,λ_=>rfl,c.dr,λ_=>hv.ld a7 7 rfl,q.Y,λ_=>b2.at0 (x5.Z x6) rfl,IS.yes (G9.V (OB (hv.lt.U a7.size) (hv.dr.U a7) (by simpa using a6) d2 (R1 hb) λw7 x7=>⟨_,rfl,?_⟩))⟩;rw[Rc a6 hq];dsimp only;rw[Zfl,qe];refine⟨λhc=>a5 w7 (a7.Z x7) λ⟨d',h1,h2⟩=>?_,λhc=>b4 w7 (b8.Z x7) ⟨d,hst,by simpa using hc⟩⟩;rw[hst]at h1;cases h1;rw[fy h2]at hc;cases hc
 .have a4:k=cx.length:=oM;rw[a4,eh]at hI;exact hR true w3 (x1.Z x3) ⟨λ_=>hI,λ_=>rfl⟩
def W5{to:Nat}{x:Pr}{R:Wp}(h:ò BM 284 w lo p S c G P tm s)(a4:Ad x)(hs:s.done.length<=1000000)
  (hR:∀r w',ò BM 284 w' lo p S {c with st:=r} G P tm ⟨s.By,s.done++[⟨uj,x,to⟩]⟩->Mv lo p c w {c with st:=r} w'->(∀b,b<w.heap.size->b≠p.block->(∀ad,c.st.a=some ad->b≠ad.block)->w'.heap[b]?=w.heap[b]?)->R w'):Ji (some p) (uj:Int) x (to:Int) w R:=by
 unfold Ji;refine⟨p,rfl,c.st,h.box.at1 (k:=8) (r:=[]) xR rfl,An.intro λa w1 x1 a0 _ _=>?_⟩;exact(h.U x1).Xck YO (x:=⟨uj,x,to⟩) (λw=>⟨rfl,a4⟩) (λh=>h) (a0.sh.pre (r:=[]) rfl) ⟨by show _*32<=Ab;unfold Ab;omega,by rw[Ao];omega⟩ λr w2 h2 m2 o2=>hR r w2 h2 ((Mv.of x1 h.lo_le).Z m2) λb hb h1 h3=>(o2 b (by have:=x1.size;omega) h1 h3).Z (x1.block hb)
def Zhs{hm k:Nat}{x:Pr}{R:Int->È}(hv:ò BM 284 w lo p S c G P tm s)(hd:s.By.length<=1000)(hs:s.done.length<=1000000)(hb:∀d∈s.By,d.BY.length<=1000)(hh:hm<s.By.length)(hP:k<P.length)(hn:P[k].Y=x)
  (h1:∀w',AI w w'->c.l4<((Ar (Af s.By hm++[x])).length:Int)->R 0 40 w')
  (h2:∀w',AI w w'->((Ar (Af s.By hm++[x])).length:Int)<=c.l4->c.l3<(s.By.length:Int)->R 0 41 w')
  (h3:∀r w',((Ar (Af s.By hm++[x])).length:Int)<=c.l4->(s.By.length:Int)<=c.l3->ò BM 284 w' lo p S {c with dr:=r} G P tm ⟨s.By++[⟨Af s.By hm++[x],k⟩],s.done⟩->Mv lo p c w {c with dr:=r} w'->R (s.By.length:Int) 0 w'):
  Ml (some p) (hm:Int) (k:Int) w R:=by
 unfold Ml;have a5:=hv.A hd ⟨by show _*32<=Ab;unfold Ab;omega,by rw[Ao];omega⟩;have f6:=Wu hb hh;have f2:=F3 a5;have f1:=hv.pk.len;have e3:=hv.lo_le;obtain⟨c8,qh,d0,e2,b9,d5,_⟩:=a5.at_ hh;obtain⟨c7,dP,eP,oP,c9,_,b5,d7,e0,e5,d4⟩:=Jg hv.pk hP;have e1:P.getD k Ay=P[k]:=by rw[lw,dt hP];rfl
 have c4:Ad x:=by rwa [<-hn]
 refine⟨p,rfl,c.ps,a5.ld xR 1 rfl,c7,⟨c9,oM,oM⟩,_,_,_,_,dP,eP,oP,by rw[dx];exact d4 _ xR,An.set rfl λa w1 x1 b6 _=>?_⟩;generalize hq:Af s.By hm=q at*;refine join.named λJ hJ=>?_;have key:∀(np:Sl)(w2:PU),AI w1 w2->No vr w2 (λb=>w.heap.size<=b/\b<w2.heap.size) np (q++[x])->J np w2:=by
  subst hJ;intro np w2 e8 b7;have f7:(q++[x]).length<=1001:=by rw[du,gq];omega
  refine sf.drew λw3 x3=>?_;have c5:=e8.Z x3;have b2:=x1.Z c5;refine⟨p,rfl,c.l4,by rw[Dg];exact hv.box.at1 (k:=5) b2 rfl,tf.intro (Ew.V (HH (b7.U x3) oM λw4 x4=>⟨x4,_,rfl,λa6=>?_,λe6=>sf.drew λw5 x5=>?_⟩))⟩
  .rw[Ac]at a6;exact h1 w4 (b2.Z x4) a6
  rw[Ac]at e6;have a9:=b2.Z (x4.Z x5);have ew:Aa ((c.dr.len:Int) - 1)=(s.By.length:Int) - 1:=by rw[Ai oM oM];omega
  refine⟨p,rfl,c.dr,a5.ld a9 7 rfl,p,rfl,c.l3,by rw[Dg];exact hv.box.at1 (k:=4) a9 rfl,?_⟩;rw[ew];refine⟨λd8=>h2 w5 a9 oM oM,λe7=>sf.drew λw6 x6=>?_⟩;have a0:=a9.Z x6;have f0:=c5.Z (x4.Z (x5.Z x6));refine⟨p,rfl,c.dr,a5.ld a0 7 rfl,_,_,_,_,dP,eP,oP,b6.at0 (r:=[]) f0 rfl,tf.intro (Jf.V (Wn (p:=P[k]) (hv.lt.U a0.size) (d7.U a0) (e0.U a0) (e5.U a0) λd' e' o' w7 x7 d6 d9 e4=>⟨x7,_,_,_,_,d',e',o',rfl,An.intro λa8 w8 x8 d3 _ _=>?_⟩))⟩;have b4:=a0.Z (x7.Z x8);have c6:=x3.Z (x4.Z (x5.Z (x6.Z (x7.Z x8))));have f9:=a0.size;have g0:=b4.size;have g1:=c6.size;have s8:=x8.size;have c3:ve.rep w8 (λb=>w.heap.size<=b/\b<w8.heap.size) (Bh P ⟨q++[x],k⟩) [np.v,.string P[k].Y,.int .i64 P[k].v.ma,.int .i64 P[k].v.mi,.int .i64 P[k].v.pa,d'.v,e'.v,o'.v,vi (k:Int)]:=by have b8:(Bh P ⟨q++[x],k⟩)=⟨q++[x],P[k],(k:Int)⟩:=(by unfold Bh;rw[e1]);rw[b8];exact⟨b5,np,d',e',o',rfl,(b7.U c6).O λb hb=>⟨hb.1,oM⟩,(d6.dep.U x8).O λb hb=>⟨oM,oM⟩,(d9.dep.U x8).O λb hb=>⟨oM,oM⟩,(e4.dep.U x8).O λb hb=>⟨oM,oM⟩⟩
  refine(hv.U b4).Xc8 (x:=⟨q++[x],k⟩) c3 (d3.sh.pre (r:=[]) rfl) (λb hb=>?_) hd λr w9 h9 m9=>?_
  .have f5:=hv.box.lt;refine⟨hb.2,oM,λad ha e=>?_,λad ha e=>?_,.inr oM⟩
   .obtain⟨D,o,_⟩:=hv.dr;have:=(o.block ha).2.1;omega
   .have:=(hv.st.block ha).2.1;omega
  .have f3:r.len=s.By.length+1:=(by obtain⟨D,o,_⟩:=h9.dr;have:r.len=((s.By++[(⟨q++[x],k⟩:Dr)]).map (Bh P)).length:=o.len;simpa using this);refine⟨p,rfl,r,h9.box.at1 (k:=7) xR rfl,?_⟩;have e9:Aa ((r.len:Int) - 1)=(s.By.length:Int):=(by rw[Ai oM oM];omega);rw[e9];exact h3 r w9 oM oM h9 ((Mv.of b4 e3).Z m9)
 clear hJ;refine sf.drew λw2 x2=>?_;have a7:=x1.Z x2;have f8:=a7.size;have b0:Old (λb=>b<w.heap.size) w2:=λb hb=>by have:b<w.heap.size:=hb;omega
 refine⟨p,rfl,c.dr,a5.ld a7 7 rfl,c8,⟨d0,e2⟩,qh,by rw[dx];exact d5 _ a7,x,by rw[<-hn];exact b6.at0 x2 rfl,?_,?_⟩
 .refine tf.intro (G3.V (NT b0 (b9.U a7) λt w3 x3 o3=>⟨x3,_,rfl,An.intro λa4 w4 x4 d2 _ _=>?_⟩));exact(o3.U x4).é (x3.Z x4) GQ (x:=x) ⟨rfl,c4⟩ (d2.sh.pre (r:=[]) rfl) dC (by show _*16<=Ab;unfold Ab;omega) λr w5 o5 x5=>key r w5 (x2.Z x5) ((o5.Xcb (by rw[du,gq];omega)).O λb hb=>⟨oM,hb.2⟩)
 .refine An.intro λa3 w3 x3 d1 _ _=>tf.intro (G3.V (NT (b0.U x3.size) (b9.U (a7.Z x3)) λt w4 x4 o4=>⟨x4,_,rfl,?_⟩));have s3:=x3.size;exact o4.é x4 GQ (x:=x) ⟨rfl,c4⟩ ((d1.U x4).sh.pre (r:=[]) rfl) dC (by show _*16<=Ab;unfold Ab;omega) λr w5 o5 x5=>key r w5 (x2.Z (x3.Z x5)) ((o5.Xcb (by rw[du,gq];omega)).O λb hb=>⟨oM,hb.2⟩)
end
section
variable {w:PU} {lo:Nat} {p:LP} {S:Nat->Prop} {c:PC} {G:Ζ} {P:Ι} {tm:Option (Ε)} {s:wv}
def Zhr{k:Nat}{e:Edge}{D M:Int}{R:È}(h:ò BM 284 w lo p S c G P tm s)(hI:xi G s uj)(ha:uj<s.By.length)(hx:DF s uj e.Y)(e5:Ad e.Y)(k7:0<=e.to/\e.to<(G.length:Int))(hP:P.length=G.length)
  (j0:Ae e.Y=true) (i9:∀k,∀q∈BP G k,Ae q.Y=true) (j1:∀y,G[e.to.toNat]?=some y->y.Y=e.Y) (j3:∀y,P[e.to.toNat]?=some y->y.Y=e.Y)
  (hk:k=2/\(BP G e.to.toNat).length=0\/k=3/\(BP G e.to.toNat).length≠0) (hd:s.By.length<=1000) (hs:s.done.length<=1000000) (i2:c.l3=D) (i3:c.l4=M)
  (hR:∀c' w' code s',xh (ER G P tm D M) s uj e k code s'->ò BM 284 w' lo p S c' G P tm s'->Mv lo p c w c' w'->R code w'):Mk (some p) (uj:Int) e.Y e.to w R:=by
 unfold Mk;subst i2 i3;have a5:=h.A hd ⟨by show _*32<=Ab;unfold Ab;omega,by rw[Ao];omega⟩;have d5:P7 s:=λt ht=>(hI.uj t ht).2;have a9:∀d∈s.By,d.BY.length<=1000:=λd hm=>by obtain⟨i,hi⟩:=ke hm;have:=hI.Xbu i d hi;have:=(fh.1 hi).1;omega
 have d1:∀d∈s.By,d.BY.length<=4000000:=λd hm=>fj (a9 d hm) dC;have k2:=F3 a5;have k5:=h.pk.len;have k3:=h.g.len;have i6:=h.lo_le;have k4:=h.box.lt;obtain⟨en,d8⟩:∃en:Nat,e.to=(en:Int):=⟨e.to.toNat,oM⟩;have b0:en<G.length:=oM;have b7:en<P.length:=oM;have a6:e.to.toNat=en:=oM;have c3:G[en].Y=e.Y:=j1 _ (by rw[a6];exact dt b0);have f9:P[en].Y=e.Y:=j3 _ (by rw[a6];exact dt b7);obtain⟨g6,ct,et,g9,_,h5,_,f7⟩:=BR h.g b0;have k0:=h5.len;have g7:BP G e.to.toNat=G[en].vd:=by rw[a6];unfold BP;rw[dt b0]
 rw[g7]at hk;have e4:s.By[uj]?=some s.By[uj]:=dt ha;have f8:Af s.By uj=s.By[uj].BY:=Cp e4;have j5:zm s (Af s.By uj) e.Y (Af s.By uj).length:=by rw[f8];exact hI.spot e4 hx
 have c5:∀n,n<=(Af s.By uj).length->∃h,A0 s.By ((Af s.By uj).take n)=some h:=λn hn=>by rw[f8]at hn ⊢;obtain⟨j,_,hj⟩:=hI.Xay _ uj _ e4 rfl n hn;exact⟨j,hj⟩
 have k6:(Af s.By uj).length<=1000:=Wu a9 ha;generalize hq:Af s.By uj=q at*;generalize b5:ER G P tm c.l3 c.l4=I at*;have g8:I.g=G:=by rw[<-b5];rfl
 have a8:I.Xbc=c.l4:=by rw[<-b5];rfl
 have b9:I.ţ=c.l3:=by rw[<-b5];rfl
 have e6:∀q',I.Xbn q'=(Ar q').length:=λq'=>by rw[<-b5];rfl
 have d9:k≠1:=oM;have a4:∀to,zh I s uj e k to↔AK s.By q e.Y q.length=some to/\(ud s.By to:Int)=e.to/\(k=3->HU I s uj to):=λto=>by unfold zh;rw[hq]
 have c7:∀w',AI w w'->Mv lo p c w c w':=λw' x=>Mv.of x i6;refine An.intro λa w1 x1 b2 k1 _=>sf.drew λw2 x2=>?_;have e7:=x1.Z x2;refine⟨p,rfl,c.u,a5.ld0 e7,e.to,b2.at1 (k:=1) (r:=[]) x2 rfl,g6,⟨g9,oM,oM⟩,ct,by rw[d8,dx];exact(f7 _ e7).I (k:=4) rfl,sf.drew λw3 x3=>?_⟩;have e8:=e7.Z x3;have g4:=x2.Z x3;refine⟨p,rfl,c.dr,a5.ld e8 7 rfl,e.Y,b2.at0 g4 rfl,G9.V (OB (a5.lt.U e8.size) (a5.dr.U e8) (by simpa using ha) e5 (R1 d1) λw4 x4=>⟨_,rfl,join.named λJ hJ=>sf.drew λw5 x5=>IN ?_⟩)⟩;rw[Rc ha j0,hq];have j8:=g4.Z x4;have e9:=j8.Z x5;have c8:=x1.Z e9;have fin:∀(to:Nat)(c9:PC)(s9:wv)(w9:PU),ò BM 284 w9 lo p S c9 G P tm s9->Mv lo p c w c9 w9->AT w9 a [.string e.Y,vi e.to]->s9.done=s.done->xh I s uj e k 0 ⟨s9.By,s.done++[⟨uj,e.Y,to⟩]⟩->J (to:Int) w9:=by subst hJ;intro to c9 s9 w9 h9 m9 h0 f5 hE;refine⟨e.Y,h0.at0 xR rfl,Ji.V (W5 h9 e5 (by rwa [f5]) λr j7 f0 j6 _=>⟨rfl,?_⟩)⟩;rw[f5]at f0;exact hR _ j7 0 _ hE f0 (m9.Z j6)
 clear hJ;generalize i5:AK s.By q e.Y q.length=lk at*;obtain⟨i,hi,g0⟩:∃i,i<s.By.length/\∀j,lk=some j->j=i:=by
  cases hl:lk with
  |none=>exact⟨uj,ha,(λ_ h=>by cases h)⟩
  |some j=>exact⟨j,O9 (i5.Z hl),λk hk=>by cases hk;rfl⟩
 obtain⟨g5,_,f2,i4,_,_,h4⟩:=a5.at_ hi;have c6:decide (Ce lk<0)=false->lk=some i/\Ce lk=(i:Int):=λhg=>by obtain⟨j,hj⟩:=LM.1 (Int.not_lt.1 (of_decide_eq_false hg));have:=g0 j hj;subst this;exact⟨hj,by rw[hj];rfl⟩
 have f6:∀{b:Bool},(!b)=true->b=false:=λ{b} h=>by simpa using h
 refine⟨p,λ_=>rfl,c.dr,λ_=>a5.ld c8 7 rfl,g5,λhg=>⟨f2,by rwa [(c6 (f6 hg)).2]⟩,(ud s.By i:Int),λhg=>by rw[(c6 (f6 hg)).2,dx];exact h4 _ c8,e.to,λ_=>b2.at1 (k:=1) (r:=[]) e9 rfl,IN (IN ?_)⟩;have h7:(!((ct.len:Int)==0))=decide (k=3):=by rw[gp,mg,px,iv];omega
 rw[h7];refine IS.holds (λt=>t=true↔HU I s uj i) (λhg q' j4=>?_) λt w6 x6 ht=>?_
 .simp only[dz,mg,gd]at hg;rw[(c6 hg.1.1).2];exact Mf.V (Zhm (I:=I) g8 (a5.U c8) hi hI.py d1 i9 λb w7 x7 hb=>⟨b,rfl,j4 b w7 x7 hb⟩)
 have c4:=c8.Z x6;have d0:=e9.Z x6;have hf:((decide (Ce lk<0)|| !((ud s.By i:Int)==e.to))||(decide (k=3)&& !t))=false↔∃to,zh I s uj e k to:=by
  constructor
  .intro hg;rw[gd]at hg;obtain⟨g1,g3⟩:=hg;have d3:=g1;rw[gd]at d3;refine⟨i,(a4 i).2 ⟨(c6 d3.1).1,by simpa using d3.2,λh3=>?_⟩⟩;rw[fy h3]at g3;exact(ht (by rw[g1,fy h3];rfl)).1 (by simpa using g3)
  .rintro⟨to,hr⟩;obtain⟨g1,g2,g3⟩:=(a4 to).1 hr;have:=g0 to g1;subst this;have h1:(decide (Ce lk<0)|| !((ud s.By to:Int)==e.to))=false:=by rw[gd,gk,g1];refine⟨by show ¬(to:Int)<0;omega,by rw[g2];simp⟩
   rw[h1,qe];by_cases h3:k=3
   .rw[h1,fy h3]at ht;rw[(ht rfl).2 (g3 h3),fy h3];rfl
   .rw[fq h3];rfl
 refine⟨λhc=>join.named λJ2 f1=>?_,λhc=>?_⟩
 rotate_left
 .obtain⟨to,hr⟩:=hf.1 hc;have g1:=((a4 to).1 hr).1;have e3:Ce lk=(to:Int):=by rw[g1];rfl
  rw[e3];exact fin to c s w6 (h.U c4) (c7 w6 c4) (b2.U d0) rfl (.found to hr)
 have e0:∀to,¬zh I s uj e k to:=λto hr=>by rw[hf.2 ⟨to,hr⟩]at hc;cases hc
 have d2:∀(hm n:Nat) w7,AI w w7->AI w1 w7->hm<s.By.length->Af s.By hm=q.take n->(k=2->Ĕ s q e.Y (λn=>I.xy (q.take n++[e.Y]) e.to.toNat) n)->(k=3->n=q.length)->J2 (hm:Int) w7:=by
  subst f1;intro hm n w7 b4 j9 i7 e1 a0 h3;have d6:k=2->Ĕ s (Af s.By uj) e.Y (λn=>I.xy ((Af s.By uj).take n++[e.Y]) e.to.toNat) n:=by rwa [hq]
  have d4:k=3->n=(Af s.By uj).length:=by rwa [hq]
  have b6:AT w7 a [.string e.Y,vi e.to]:=b2.U j9;refine⟨e.to,b6.at1 (k:=1) (r:=[]) xR rfl,?_⟩;rw[d8];refine Ml.V (Zhs (x:=e.Y) (h.U b4) hd hs a9 i7 b7 f9 (λw8 x8 b8=>⟨_,_,rfl,λ_=>?_,λh=>fm dC h⟩) (λw8 x8 a7 d7=>⟨_,_,rfl,λ_=>?_,λh=>fm dC h⟩) λr w8 a7 e2 h8 m8=>⟨_,_,rfl,λh=>fm rfl h,λ_=>?_⟩)
  .rw[e1]at b8;exact hR c w8 40 s (.long n e0 d9 d6 d4 (by rwa [hq,a8,e6])) (h.U (b4.Z x8)) (c7 _ (b4.Z x8))
  .rw[e1]at a7;exact hR c w8 41 s (.deep n e0 d9 d6 d4 (by rwa [hq,a8,e6]) (by rwa [b9])) (h.U (b4.Z x8)) (c7 _ (b4.Z x8))
  .rw[e1]at a7 h8;refine fin s.By.length _ ⟨s.By++[⟨q.take n++[e.Y],en⟩],s.done⟩ w8 h8 ((c7 w7 b4).Z m8) (m8.box b6 oM (λad ha e=>?_) λad ha e=>?_) rfl ?_
   .obtain⟨D,o,_⟩:=h.dr;have:=(o.block ha).2.1;omega
   .have:=(h.st.block ha).2.1;omega
   .have:=xh.put (I:=I) n e0 d9 d6 d4 (by rwa [hq,a8,e6]) (by rwa [b9]);rw[hq,a6]at this;exact this
 clear f1;refine⟨λh6=>⟨e.to,b2.at1 (k:=1) (r:=[]) d0 rfl,?_⟩,λh6=>?_⟩
 .rw[d8];refine Mm.V (Zhu (a5.U c4) d5 ha b0 b7 (by rwa [c3]) (by rw[hq];omega) (by rwa [hq]) (by rw[hq,c3];exact⟨_,j5⟩) λn j w7 x7 a0 hj=>⟨_,rfl,?_⟩);rw[hq,c3]at a0;rw[hq]at hj;obtain⟨dj,f3,j2⟩:=EF hj;refine d2 j n w7 (c4.Z x7) (d0.Z x7) (fh.1 f3).1 (by rwa [Cp f3]) (λ_=>?_) (λh3=>by omega);rwa [a6,<-b5]
 .exact d2 uj q.length w6 c4 d0 ha (by rwa [eh]) (λh2=>by omega) λ_=>rfl
end
section
variable {w w':PU} {lo:Nat} {p:LP} {S:Nat->Prop} {c:PC} {G:Ζ} {P:Ι} {tm:Option (Ε)} {s:wv}
def ò.re{T:LN}(h:ò E T w lo p S c G P tm s)(vh:Below lo w w')(yo:∀b,b<w.heap.size->b≠p.block->(∀ad,c.st.a=some ad->b≠ad.block)->w'.heap[b]?=w.heap[b]?)
  (box:AT w' p (PC.c {c with st:=r})) (st:OF E T w' lo se r dn) (hr:∀ad,r.a=some ad->c.st.a=some ad\/w.heap.size<=ad.block):ò E T w' lo p S {c with st:=r} G P tm ⟨s.By,dn⟩/\Mv lo p c w {c with st:=r} w':=by
 obtain⟨D,o,a0,a4,a5⟩:=h.dr;have a6:=Below.size vh;have a7:=h.box.lt;have mv:Mv lo p c w {c with st:=r} w':=⟨vh,λb hb h1 _ h3=>yo b hb h1 h3,λ_ h=>.inl h,hr,rfl⟩;have hk:=h.mv mv;refine⟨⟨box,h.plo,h.g.sj hk,h.pk.sj hk,h.tm.sj hk,λb hb=>by have:=h.lt b hb;omega,h.nS,⟨D,o.sj a6 λb hb hq=>?_,a0,λad ha hb=>?_,a5⟩,st,h.drP,λad ha=>?_,λu v hu hv=>?_⟩,mv⟩
 .rcases hq with hq|⟨ad,ha,rfl⟩
  .exact yo b hb (λe=>a0 (e▸hq)) λd hd e=>a4 d hd (e▸hq)
  .exact yo _ hb (h.drP ad ha).1 λd hd e=>h.apart ad d ha hd e
 .obtain q|q:=hr ad ha
  .exact a4 ad q hb
  .have:=o.lt _ hb;omega
 .obtain q|q:=hr ad ha
  .exact h.stP ad q
  .exact⟨oM,λhS=>by have:=h.lt _ hS;omega⟩
 .obtain q|q:=hr v hv
  .exact h.apart u v hu q
  .have:=(o.block hu).2.1;omega
structure ė(w:PU)(lo:Nat)(p:LP)(c:PC)(w':PU)(r A Α:Sl)(dn:List Stl)(la lb:LQ):Prop where
 vh:Below lo w w'
 yo:∀b,b<w.heap.size->b≠p.block->(∀ad,c.st.a=some ad->b≠ad.block)->w'.heap[b]?=w.heap[b]?
 box:AT w' p (PC.c {c with st:=r})
 st:OF BM 284 w' lo se r dn
 hr:∀ad,r.a=some ad->c.st.a=some ad\/w.heap.size<=ad.block
 a:OF xu 153 w' w.heap.size se A la
 o:OF xu 153 w' w.heap.size se Α lb
 ao:∀x y,A.a=some x->Α.a=some y->x.block≠y.block
 ra:∀x y,A.a=some x->r.a=some y->x.block≠y.block
 ro:∀x y,Α.a=some x->r.a=some y->x.block≠y.block
def ė.U{w'':PU}(h:ė w lo p c w' r A Α dn la lb)(hl:lo<=w.heap.size)(hx:AI w' w''):ė w lo p c w'' r A Α dn la lb:=by have:=Below.size h.vh;exact⟨Below.Z h.vh (Below.O hx oM),λb hb h1 h2=>(hx.block oM).Z (h.yo b hb h1 h2),h.box.U hx,h.st.U hx,h.hr,h.a.U hx,h.o.U hx,h.ao,h.ra,h.ro⟩
def ė.swap(h:ė w lo p c w' r A Α dn la lb):ė w lo p c w' r Α A dn lb la:=⟨h.vh,h.yo,h.box,h.st,h.hr,h.o,h.a,λx y hx hy=>Ne.H (h.ao y x hy hx),h.ro,h.ra⟩
def ė.push{e:Edge}{K:Sl->Wp}(h:ė w lo p c w' r A Α dn la lb)(hp:p.block<w.heap.size)(hl:lo<=w.heap.size)(hn:la.length<1000)(a8:Ad e.Y)(hc:sh w' a [.string e.Y,vi e.to])
  (hk:∀t a7,ė w lo p c a7 r t Α dn (la++[e]) lb->K t a7):uc prog 54 54 A (Sl.v ⟨some a,1,1⟩) w' K:=by
 have hs:=Below.size h.vh;refine h.a.push NE hs (x:=e) (S':=se) ⟨rfl,a8⟩ hc (λ_ h=>h.F) (λ_ _ h=>h.F) (by show(la.length+1)*24<=Ab;unfold Ab;omega) (by rw[Ao];omega) λt w2 o2 a4 a0 a5=>hk t w2 ?_;have a6:=Below.size a4;have hA:∀ad,A.a=some ad->w.heap.size<=ad.block:=λad ha=>(h.a.block ha).1;refine⟨Below.Z h.vh (Below.O a4 hl),λb hb h1 h2=>(a0 b oM λad ha=>by have:=hA ad ha;omega).Z (h.yo b hb h1 h2),h.box.sj (S:=λb=>b<w.heap.size) hp λb hb hl=>a0 b hl λad ha=>by have:=hA ad ha;omega,h.st.sj a6 λb hb hq=>?_,h.hr,OF.flat (λh=>h) o2,h.o.sj a6 λb hb hq=>?_,λx y hx hy=>?_,λx y hx hy=>?_,h.ro⟩
 .rcases hq with hq|⟨ad,ha,rfl⟩
  .exact hq.F
  .exact a0 _ hb λx hx e=>h.ra x ad hx ha e.H
 .rcases hq with hq|⟨ad,ha,rfl⟩
  .exact hq.F
  .exact a0 _ hb λx hx e=>h.ao x ad hx ha e.H
 .obtain q|q:=a5 x hx
  .exact h.ao x y q hy
  .have:=(h.o.block hy).2.1;omega
 .obtain q|q:=a5 x hx
  .exact h.ra x y q hy
  .have:=(h.st.block hy).2.1;omega
end
def Zbm:Bm prog 130:=enters_of func130 kR rfl
def UF{g:Ζ}{nd k:Nat}{es:LQ}(hj:j<es.length):(es.take (j+1)).filter (λe=>AB g nd e==k)=(es.take j).filter (λe=>AB g nd e==k)++if AB g nd es[j]=k then [es[j]]else []:=by
 rw[dw hj,lf];congr 1;by_cases h:AB g nd es[j]=k
 .rw[fl h,List.filter_cons_of_pos (by rw[h];exact beq_self_eq_true _),List.filter_nil]
 .rw[fa h,List.filter_cons_of_neg (by simpa using h),List.filter_nil]
section
variable {w:PU} {lo:Nat} {p:LP} {S:Nat->Prop} {c:PC} {G:Ζ} {P:Ι} {tm:Option (Ε)} {s:wv}
def Zhn{nd:Nat}{D M:Int}{I:Œ}{R:È}(d7:ER G P tm D M=I)(h:ò BM 284 w lo p S c G P tm s)(b9:ur G P)(hI:xi G s uj)(ha:uj<s.By.length)(k7:ud s.By uj=nd)(f0:nd<G.length)(hD:D<=256)(hs:s.done.length<=100000)(q6:c.l3=D)(q7:c.l4=M)(l6:DV I s)(l7:∀u∈s.done,u.uj<uj)
  (j4:∀c' w' s',å I uj nd s [] s'->ò BM 284 w' lo p S c' G P tm s'->Mv lo p c w c' w'->R 0 w')
  (g9:∀c' w' code t,code≠0->xq I uj nd s (Co I.g nd) code t->Mv lo p c w c' w'->R code w'):Mg (some p) (uj:Int) w R:=by
 unfold Mg;have hg:=b9.Xa8;have b5:I.g=G:=by rw[<-d7];rfl
 have t9:I.ţ=D:=by rw[<-d7];rfl
 have g3:Ę I.g:=by rwa [b5]
 have v2:s.By.length<=257:=by have:=l6.2;omega
 have d8:=h.A oM ⟨by show _*32<=Ab;unfold Ab;omega,by rw[Ao];omega⟩;have u5:=F3 d8;have u6:=h.g.len;have r2:=h.lo_le;have u9:=h.box.lt;have t8:=b9.len;have m2:G[nd]?=some G[nd]:=dt f0;have c8:A2 G nd=G[nd].sq:=Za1 m2;have p8:G[nd].sq.length<=128:=by have:=b9.Ŗ nd;rw[c8]at this;omega
 have u7:(Co I.g nd).length<=128:=by rwa [Wj,b5,c8]
 obtain⟨ad,_,o7,q9,_,_,i6⟩:=d8.at_ ha;rw[k7]at i6;obtain⟨n1,cg,eg,o8,_,p5,j1,k1⟩:=BR h.g f0;have s8:=j1.len;have n5:BP G nd=G[nd].vd:=by unfold BP;rw[m2]
 refine sf.drew λw1 x1=>⟨p,rfl,c.u,d8.ld0 x1,p,rfl,c.dr,d8.ld x1 7 rfl,ad,⟨o7,q9⟩,(nd:Int),by rw[dx];exact i6 _ x1,n1,⟨o8,oM,oM⟩,_,_,_,_,cg,eg,by rw[dx];exact k1 _ x1,An.set rfl λa w2 x2 f6 u1=>⟨eg,f6.at1 (k:=5) (r:=[]) xR rfl,?_⟩⟩;have e0:=x1.Z x2;have s1:=x1.size;have s2:=x2.size;have f1:Mv lo p c w c w2:=Mv.of e0 r2;have h2:=h.U e0;have g7:p.block<w2.heap.size:=oM;have b2:=h2.lo_le;have u0:a.block<w2.heap.size:=f6.lt;have l8:∀b,c.st.a=some b->b.block<w.heap.size:=λb hb=>(h.st.block hb).2.1;have i7:=p5.U e0;have e7:=j1.U e0;generalize t0:G[nd].sq=es at*;generalize s6:G[nd].vd=cx at*;have h8:∀{w' r A Α dn la lb},ė w2 lo p c w' r A Α dn la lb->AT w' a [.string G[nd].Y,.int .i64 G[nd].v.ma,.int .i64 G[nd].v.mi,.int .i64 G[nd].v.pa,cg.v,eg.v]/\No vb w' S cg cx/\No xu w' S eg es:=λ{w' r A Α dn la lb} hG=>by have hk:ï S w2 w':=λb hb hl=>hG.yo b hl (λe=>h.nS (e▸hb)) λad ha e=>(h.stP ad ha).2 (e▸hb);exact⟨f6.sj (S:=λb=>b=a.block) rfl λb hb hl=>hG.yo b hl oM λad ha=>by have:=l8 ad ha;omega,i7.sj hk,e7.sj hk⟩
 have j8:∀e,AB G nd e=if cx.any (Az e.Y)then 1 else if(BP G e.to.toNat).length=0 then 2 else 3:=λe=>by unfold AB;rw[n5]
 have stop:∀{c' w' s' code t e r},Mv lo p c w2 c' w'->å I uj nd s (e::r) s'->xh I s' uj e (AB I.g nd e) code t->code≠0->R code w':=λ{c' w' s' code t e r} m ht hE hc=>g9 c' w' code t hc (ht.stop hE hc) (f1.Z m);have e9:∀e∈es,e∈A2 G nd:=λe he=>by rwa [c8]
 refine ß.up e7.max (λA Α j w'=>∃(r:Sl) (s4:wv),ė w2 lo p c w' r A Α s4.done ((es.take j).filter (λe=>AB G nd e==2)) ((es.take j).filter (λe=>AB G nd e==3))/\s4.By=s.By/\å I uj nd s (D9 G nd 1 j) s4)
  ⟨c.st,s,⟨Below.refl _ _,λ_ _ _ _=>rfl,h2.box,h2.st,λ_ h=>.inl h,OF.zero _,OF.zero _,(λ_ _ h=>by cases h),(λ_ _ h=>by cases h),λ_ _ h=>by cases h⟩,rfl,by have:=å.start (nd:=nd) g3 (by rwa [b5]) l6 l7;rw[b5]at this;exact this⟩ λA Α j w3 v3 hj ⟨r,s4,a0,b8,b4⟩ l0=>⟨λr3=>join.named λJ hJ=>?_,λg4=>?_⟩
 .have a8:j<es.length:=oM;have k4:es[j]∈es:=fe a8;have a9:=e9 _ k4;have g4:=hg.yz a9;have d1:=b9.Xa6 a9;obtain⟨p4,i9,j2⟩:=h8 a0;obtain⟨f2,d2,b7,d3⟩:=Cz j2 a8;have f9:=UF (g:=G) (nd:=nd) (k:=2) a8;have g0:=UF (g:=G) (nd:=nd) (k:=3) a8;have j6:j<(A2 G nd).length:=by rwa [c8]
  have q4:(A2 G nd)[j]=es[j]:=by simp only[c8]
  have d4:=Zi7 (g:=G) (nd:=nd) (k:=1) j6;have e8:=Zi5 (g:=G) (nd:=nd) (k:=1) j6;rw[q4]at d4 e8;have f5:∀(A' O':Sl)(w5:PU)(r5:Sl)(s5:wv),ė w2 lo p c w5 r5 A' O' s5.done ((es.take (j+1)).filter (λe=>AB G nd e==2)) ((es.take (j+1)).filter (λe=>AB G nd e==3))->s5.By=s.By->å I uj nd s (D9 G nd 1 (j+1)) s5->J A' O' w5:=λA' O' w5 r5 s5 q1 q2 q3=>by rw[hJ];exact l0 a8 _ _ w5 ⟨r5,s5,q1,q2,q3⟩
  clear hJ l0;have j9:((es.take j).filter (λe=>AB G nd e==2)).length<1000:=nn (jf _ _) (by rw[fg];omega);have k0:((es.take j).filter (λe=>AB G nd e==3)).length<1000:=nn (jf _ _) (by rw[fg];omega);have u2:=b4.cnt;have u4:s4.done.length<=200000:=oM;have c9:uj<s4.By.length:=by rwa [b8]
  have t4:ud s4.By uj=nd:=by rwa [b8]
  have n8:xi G s4 uj:=by have:=b4.inv;rw[b5]at this;exact this
  have a5:=j8 es[j];generalize es[j]=e at*;obtain⟨h3,m3⟩:=h2.re a0.vh a0.yo a0.box a0.st a0.hr;have h3:ò BM 284 w3 lo p S {c with st:=r} G P tm s4:=by rw[<-b8]at h3;exact h3
  refine⟨f2,⟨d2,oM,r3⟩,e.Y,e.to,by rw[dx];exact d3 _ xR,An.set rfl λa4 w4 x4 c6 _=>⟨cg,p4.at1 (k:=4) x4 rfl,?_⟩⟩;refine HB.V (Qm (p:=Az e.Y) (i9.U x4) (λq _ w5 k5 x5 j7=>⟨_,_,rfl,Zbm,OJ.V ?_⟩) λw5 x5=>⟨_,rfl,λg5=>sf.drew λw6 x6=>?_,λg5=>sf.drew λw6 x6=>?_⟩)
  .unfold OJ;refine An.intro λa6 w6 x6 f7 _ _=>⟨_,f7.at0 xR rfl,e.Y,c6.at0 (x5.Z x6) rfl,?_⟩;rw[TA];exact j7 w6 x6
  .
   rw[fl g5]at a5;have c4:=x5.Z x6;have d6:=x4.Z c4;rw[e8 a5]at b4;have h6:=h3.U d6;have c3:=h6.A (by rw[b8];omega) ⟨by show _*32<=Ab;unfold Ab;omega,by rw[Ao];omega⟩;have i5:∀d∈s4.By,d.BY.length<=4000000:=λd hm=>by obtain⟨i,hi⟩:=ke hm;have:=n8.Xbu i d hi;have:=(fh.1 hi).1;rw[b8]at this;omega
   refine⟨p,rfl,c.dr,c3.ld xR 7 rfl,e.Y,c6.at0 c4 rfl,G9.V (OB c3.lt c3.dr (by simpa using c9) b7 (R1 i5) λw7 x7=>⟨_,rfl,sf.drew λw8 x8=>IN ?_⟩)⟩;rw[Rc c9 d1.1];have e2:=x7.Z x8;have n0:=c4.Z e2;have e1:=d6.Z e2;have d0:∀to,zh I s4 uj e 1 to↔AK s4.By (Af s4.By uj) e.Y (Af s4.By uj).length=some to/\(ud s4.By to:Int)=e.to:=λto=>(by unfold zh;simp);generalize r1:AK s4.By (Af s4.By uj) e.Y (Af s4.By uj).length=lk at*;obtain⟨i,hi,m1⟩:∃i,i<s4.By.length/\∀j,lk=some j->j=i:=by
    cases hl:lk with
    |none=>exact⟨uj,c9,(λ_ h=>by cases h)⟩
    |some j=>exact⟨j,O9 (r1.Z hl),λk hk=>by cases hk;rfl⟩
   obtain⟨n2,_,i4,r0,_,_,p6⟩:=c3.at_ hi;have g6:decide (Ce lk<0)=false->lk=some i/\Ce lk=(i:Int):=λhg=>by obtain⟨j,hj⟩:=LM.1 (Int.not_lt.1 (of_decide_eq_false hg));have:=m1 j hj;subst this;exact⟨hj,by rw[hj];rfl⟩
   have j5:∀{b:Bool},(!b)=true->b=false:=λ{b} h=>(by simpa using h);refine⟨p,λ_=>rfl,c.dr,λ_=>c3.ld e2 7 rfl,n2,λhg=>⟨i4,by rwa [(g6 (j5 hg)).2]⟩,(ud s4.By i:Int),λhg=>by rw[(g6 (j5 hg)).2,dx];exact p6 _ e2,e.to,λ_=>c6.at1 (k:=1) (r:=[]) n0 rfl,λhc=>?_,λhc=>?_⟩
   .have hl:∀to,¬zh I s4 uj e 1 to:=λto hr=>by obtain⟨g1,g2⟩:=(d0 to).1 hr;have:=m1 to g1;subst this;rw[g1,g2]at hc;rw[fq (show ¬Ce (some to)<0 by show ¬(to:Int)<0;omega)]at hc;simp at hc
    exact stop (m3.Z (Mv.of e1 h3.lo_le)) b4 (by rw[b5,a5];exact .lost hl rfl) dC
   .rw[gd]at hc;obtain⟨g1,g2⟩:=g6 hc.1;have o6:zh I s4 uj e 1 i:=(d0 i).2 ⟨g1,by simpa using hc.2⟩;rw[g2];refine⟨e.Y,c6.at0 n0 rfl,Ji.V (W5 (h3.U e1) b7 oM λr9 w9 h9 m9 o9=>⟨rfl,?_⟩)⟩;have b0:=a0.U b2 e1;have v4:=e1.size;have s9:=m9.size;have t6:=Below.size a0.vh;have i2:∀{B:Sl} {l:LQ},OF xu 153 w8 w2.heap.size se B l->(∀x y,B.a=some x->r.a=some y->x.block≠y.block)->OF xu 153 w9 w2.heap.size se B l/\∀x y,B.a=some x->r9.a=some y->x.block≠y.block:=λ{B l} hB k8=>by
     refine⟨hB.sj s9 λb hb hq=>?_,λx y hx hy=>?_⟩
     .rcases hq with hq|⟨ad,ha,rfl⟩
      .exact hq.F
      .exact o9 _ hb (by have:=(hB.block ha).1;omega) λd hd=>k8 ad d ha hd
     .obtain q|q:=m9.st y hy
      .exact k8 x y hx q
      .have:=(hB.block hx).2.1;omega
    obtain⟨qA,r6⟩:=i2 b0.a b0.ra;obtain⟨qO,r7⟩:=i2 b0.o b0.ro;have hE:xh I s4 uj e 1 0 ⟨s4.By,s4.done++[⟨uj,e.Y,i⟩]⟩:=.found i o6;refine f5 A Α w9 r9 ⟨s4.By,s4.done++[⟨uj,e.Y,i⟩]⟩ ⟨Below.Z b0.vh m9.vh,λb hb h1 h2=>?_,h9.box,h9.st,λad ha=>?_,?_,?_,b0.ao,r6,r7⟩ b8 (b4.step g3 c9 (by rwa [b5,a5]))
    .refine(o9 b oM h1 λad ha=>?_).Z (b0.yo b hb h1 h2);obtain q|q:=a0.hr ad ha
     .exact h2 ad q
     .omega
    .obtain q|q:=m9.st ad ha
     .exact a0.hr ad q
     .right;omega
    .rwa [f9,fa oM,gv]
    .rwa [g0,fa oM,gv]
  .
   rw[fa (by rw[g5];decide)]at a5;have k9:AB G nd e≠1:=by rw[a5];split<;>decide
   rw[d4 k9]at b4;have c4:=x5.Z x6;have d6:=x4.Z c4;have h6:=h3.U d6;obtain⟨en,p9⟩:∃en:Nat,e.to=(en:Int):=⟨e.to.toNat,oM⟩;have e6:en<G.length:=oM;have j0:e.to.toNat=en:=oM;obtain⟨n4,ct,et,p0,_,p7,_,k2⟩:=BR h6.g e6;have s3:=p7.len;have t3:=h6.g.len;have n7:BP G e.to.toNat=G[en].vd:=by rw[j0];unfold BP;rw[dt e6]
   rw[n7]at a5;have i3:=a0.U b2 d6;refine⟨p,rfl,c.u,h6.box.at0 xR rfl,e.to,c6.at1 (k:=1) (r:=[]) c4 rfl,n4,⟨p0,oM,oM⟩,ct,by rw[p9,dx];exact(k2 _ xR).I (k:=4) rfl,λh0=>?_,λh0=>?_⟩
   .rw[fl oM]at a5;refine⟨e.Y,e.to,c6.at0 (r:=[]) c4 rfl,An.intro λa7 w7 x7 f8 _ _=>?_⟩;refine(i3.U b2 x7).push g7 b2 j9 b7 (f8.sh.pre (r:=[]) rfl) λt w8 b0=>f5 t Α w8 r s4 ?_ b8 b4;rwa [f9,g0,fl a5,fa oM,gv]
   .rw[fa oM]at a5;refine⟨e.Y,e.to,c6.at0 (r:=[]) c4 rfl,An.intro λa7 w7 x7 f8 _ _=>?_⟩;refine(i3.U b2 x7).swap.push g7 b2 k0 b7 (f8.sh.pre (r:=[]) rfl) λt w8 b0=>f5 A t w8 r s4 ?_ b8 b4;rw[f9,g0,fl a5,fa oM,gv];exact b0.swap
 .have a8:j=es.length:=oM;subst a8;rw[eh]at a0;rw[Zi6 (by rw[c8];exact fx _) (.inl rfl)]at b4;obtain⟨L,hL⟩:∃L,L=es.filter (λe=>AB G nd e==2)++es.filter (λe=>AB G nd e==3):=⟨_,rfl⟩;have g8:D9 G nd 2 0=L:=by unfold D9;rw[c8,hL];rfl
  rw[g8]at b4;have o0:L.length<=256:=by rw[hL,du];have:=jf (λe=>AB G nd e==2) es;have:=jf (λe=>AB G nd e==3) es;omega
  have o5:∀e∈L,e∈es/\(AB G nd e=2\/AB G nd e=3):=λe he=>by
   rw[hL]at he;obtain he|he:=fp.1 he
   .rw[iz]at he;exact⟨he.1,.inl (by simpa using he.2)⟩
   .rw[iz]at he;exact⟨he.1,.inr (by simpa using he.2)⟩
  have q8:=o0;rw[hL,du]at q8;have f3:xu.bytes=24:=rfl;have m0:=Below.size a0.vh;have r4:=(a0.o.A (by rw[f3];unfold Ab;omega) (by rw[Ao];omega)).O (S':=λb=>∃ad,Α.a=some ad/\b=ad.block) λb hb=>hb.F (λh=>h.F) id;refine a0.a.yx NE m0 r4 (λb ⟨ad,ha,e⟩=>e▸(a0.o.block ha).2.1) (λad ha ⟨x,hx,e⟩=>a0.ao ad x ha hx e) (by rw[f3];unfold Ab;omega) (by rw[Ao];omega) λt w4 o4 e3 d5 m8=>?_;rw[<-hL]at o4;have o4:=OF.flat (λh=>h) o4;have s0:=Below.size e3;have hA:∀ad,A.a=some ad->w2.heap.size<=ad.block:=λad ha=>(a0.a.block ha).1;have l9:OF BM 284 w4 lo se r s4.done:=a0.st.sj s0 λb hb hq=>by
   rcases hq with hq|⟨ad,ha,rfl⟩
   .exact hq.F
   .exact d5 _ hb λx hx e=>a0.ra x ad hx ha e.H
  obtain⟨h4,m4⟩:=h2.re (Below.Z a0.vh (Below.O e3 b2)) (λb hb h1 h3=>(d5 b oM λad ha=>by have:=hA ad ha;omega).Z (a0.yo b hb h1 h3)) (a0.box.sj (S:=λb=>b<w2.heap.size) g7 λb hb hl=>d5 b hl λad ha=>by have:=hA ad ha;omega) l9 a0.hr;have h4:ò BM 284 w4 lo p S {c with st:=r} G P tm s4:=by rw[<-b8]at h4;exact h4
  have r8:=(o4.A (by rw[f3];unfold Ab;omega) (by rw[Ao];omega)).O (S':=λb=>∃ad,t.a=some ad/\b=ad.block) λb hb=>hb.F (λh=>h.F) id;refine Of.up (N:=L.length) (by rw[Ao];omega) (λj w'=>∃(c5:PC) (s5:wv),ò BM 284 w' lo p S c5 G P tm s5/\Mv lo p c w2 c5 w'/\No xu w' (λb=>∃ad,t.a=some ad/\b=ad.block) t L/\(∀ad,t.a=some ad->ad.block<w'.heap.size/\ad.block≠p.block/\(∀x,c5.dr.a=some x->ad.block≠x.block)/\∀x,c5.st.a=some x->ad.block≠x.block)/\å I uj nd s (L.drop j) s5) ⟨_,s4,h4,m4,r8,λad ha=>⟨(o4.block ha).2.1,by have:=(o4.block ha).1;omega,λx hx e=>?_,λx hx e=>?_⟩,by rwa [ju]⟩ λj w5 t7 hj ⟨c5,s5,h5,m5,d9,e4,b6⟩ k6=>⟨λk3=>?_,λt1=>?_⟩
  .obtain⟨D',o',_⟩:=h.dr;have:=(o'.block hx).2.1;have:=(o4.block ha).1;omega
  .obtain q|q:=m8 ad ha
   .exact a0.ra ad x q hx e
   .have:=(a0.st.block hx).2.1;omega
  .have a8:j<L.length:=(by have:=d9.len;omega);obtain⟨f2,d2,b7,d3⟩:=Cz d9 a8;obtain⟨j3,j7⟩:=o5 _ (fe a8);rw[gj a8]at b6;have l5:=k6 a8;clear k6;generalize L[j]=e at*;have a9:=e9 e j3;have g4:=hg.yz a9;have d1:=b9.Xa6 a9;have u3:=b6.cnt;obtain⟨e5,t5⟩:=b6.py ha;have n9:xi G s5 uj:=(by have:=b6.inv;rw[b5]at this;exact this);have v0:=b6.small.2;have q5:AB G nd e=2/\(BP G e.to.toNat).length=0\/AB G nd e=3/\(BP G e.to.toNat).length≠0:=by
    have:=j8 e;by_cases h1:cx.any (Az e.Y)=true
    .rw[fl h1]at this;omega
    .rw[fa h1]at this;by_cases h2:(BP G e.to.toNat).length=0
     .rw[fl h2]at this;exact .inl ⟨this,h2⟩
     .rw[fa h2]at this;exact .inr ⟨this,h2⟩
   refine⟨f2,⟨d2,oM,k3⟩,e.Y,e.to,by rw[dx];exact d3 _ xR,An.set rfl λa6 w6 x6 f7 _=>⟨e.Y,e.to,f7.at0 (r:=[]) xR rfl,?_⟩⟩;have m6:=m5.Z (Mv.of x6 h5.lo_le);refine Mk.V (Zhr (k:=AB G nd e) (D:=D) (M:=M) (h5.U x6) n9 e5 (b6.new e (.head _)) b7 g4 b9.Xb7 d1.1 (ZN b9) d1.2 (b9.Xch a9) q5 oM oM (by rwa [m5.same]) (by rwa [m5.same]) λc7 w7 code s7 hE h7 m7=>⟨code,rfl,λhc=>?_,λhc=>?_⟩)
   .rw[d7]at hE;exact stop (m6.Z m7) b6 (by rwa [b5]) hc
   .rw[d7]at hE;have hc:=jx.1 hc;subst hc;have z6:=x6.size;have z7:=m7.size;refine l5 w7 ⟨c7,s7,h7,m6.Z m7,(d9.U x6).sj λb ⟨ad,ha,e⟩ hl=>?_,λad ha=>?_,b6.step g3 e5 (by rwa [b5])⟩
    .subst e;obtain⟨_,q1,q2,q3⟩:=e4 ad ha;exact m7.yo _ hl q1 q2 q3
    .obtain⟨q0,q1,q2,q3⟩:=e4 ad ha;refine⟨oM,q1,λx hx=>?_,λx hx=>?_⟩
     .obtain q|q:=m7.dr x hx
      .exact q2 x q
      .omega
     .obtain q|q:=m7.st x hx
      .exact q3 x q
      .omega
  .have a8:j=L.length:=(by have:=d9.len;omega);rw[a8,lh]at b6;exact j4 c5 w5 s5 b6 h5 (f1.Z m5)
end
def WN{nm:Bool}{d:Bool}{t u t' u':Pr}(h:(nm&&d)=true->t=t'/\u=u'):((!nm)||(d&& !Ak t u))=((!nm)||(d&& !Ak t' u')):=by
 cases nm<;>cases d<;>try rfl
 obtain⟨rfl,rfl⟩:=h rfl;rfl
def Zjc{l:Sl}{cx:Η}{f:HT}(hs:No vb w S l cx)(hf:∀(q:tn)(w':PU)(k:Ë),(∀b2,AI w' b2->k (.string q.Y) b2)->un prog f [.agg #[.string q.Y,vi q.v.ma,vi q.v.mi,vi q.v.pa]] w' k)
  (hR:∀(b:Bool) w',AI w w'->(b=true↔Fq tn.Y cx cx.length)->R b w'):Mq l f w R:=by
 unfold Mq;have hl:=hs.len;have hm:=hs.max;rw[Ao]at hm;refine Of.up hs.max (λk w'=>AI w w'/\Fq tn.Y cx k) ⟨AI.refl _,VY⟩ λk w2 b7 hk ⟨x2,hI⟩ hn=>⟨λb0=>sf.drew λw3 x3=>?_,λb6=>?_⟩
 .have a4:k<cx.length:=oM;obtain⟨ad,ha,_,a6,a9⟩:=CE hs a4;have b4:=x2.Z x3;refine⟨ad,⟨ha,oM,b0⟩,_,_,_,_,by rw[dx];exact a9 _ b4,hf _ _ _ λw4 x4=>⟨_,rfl,CI.V (ux a6 λw5 x5=>⟨_,rfl,IN (IN ?_)⟩)⟩⟩;have a8:=b4.Z (x4.Z x5);obtain⟨q,a0,a7,hq,a5⟩:∃(q:tn) (a0:LP),(decide (0<(k:Int))=true->l.a=some a0/\(0:Int)<=Aa ((k:Int) - 1)/\Aa ((k:Int) - 1)<(l.len:Int))/\(∀h:0<k,q=cx[k - 1]'oM)/\(decide (0<(k:Int))=true->sh w5 (a0.add ((Aa ((k:Int) - 1)).toNat*4)) [.string q.Y,vi q.v.ma,vi q.v.mi,vi q.v.pa]):=by
   by_cases h0:k=0
   .subst h0;exact⟨cx[0],ad,λh=>fm h dC,λh=>fm h dC,λh=>fm h dC⟩
   .obtain⟨a0,a7,_,_,a5⟩:=CE hs (show k - 1<cx.length by omega);have e:Aa ((k:Int) - 1)=((k - 1:Nat):Int):=by rw[Ai oM oM];omega
    rw[e];exact⟨_,a0,λ_=>⟨a7,oM,oM⟩,λ_=>rfl,λ_=>by rw[dx];exact a5 _ a8⟩
  have hg:∀{b c:Bool},((!b)&&c)=true->c=true:=λ{b c} h=>by cases b<;>simp at h;exact h
  have a6:=VX (nm:=tn.Y) a4 (t:=q.Y) λh=>by rw[hq h]
  refine⟨a0,λh=>a7 (hg h),q.Y,q.v.ma,q.v.mi,q.v.pa,λh=>a5 (hg h),ad,λ_=>⟨ha,oM,b0⟩,cx[k].Y,cx[k].v.ma,cx[k].v.mi,cx[k].v.pa,λ_=>by rw[dx];exact a9 _ a8,?_⟩;refine IS.intro q.Y (λ_ r hr=>hf q _ _ λw6 x6=>⟨x6,_,rfl,hr w6 x6⟩) λt6 w6 x6 h6=>IS.intro cx[k].Y (λ_ r hr=>hf _ _ _ λw7 x7=>⟨_,rfl,hr w7 x7⟩) λt7 w7 x7 h7=>?_;rw[Bool.not_not]at h6 h7;rw[WN (t':=q.Y) (u':=cx[k].Y) λh=>⟨h6 h,h7 h⟩];have b5:=a8.Z (x6.Z x7);exact⟨λhq=>hR false w7 b5 ⟨nO,λhF=>fm hF (a6.2 hq)⟩,λhq=>hn a4 w7 ⟨b5,a6.1 hq hI⟩⟩
 .have a4:k=cx.length:=oM;rw[a4]at hI;exact hR true w2 x2 ⟨λ_=>hI,λ_=>rfl⟩
def Zja{l:Sl}{cx:LQ}{f:HT}(hs:No xu w S l cx)(hf:∀(q:Edge)(w':PU)(k:Ë),(∀b2,AI w' b2->k (.string q.Y) b2)->un prog f [.agg #[.string q.Y,vi q.to]] w' k)
  (hR:∀(b:Bool) w',AI w w'->(b=true↔Fq Edge.Y cx cx.length)->R b w'):Mp l f w R:=by
 unfold Mp;have hl:=hs.len;have hm:=hs.max;rw[Ao]at hm;refine Of.up hs.max (λk w'=>AI w w'/\Fq Edge.Y cx k) ⟨AI.refl _,VY⟩ λk w2 b7 hk ⟨x2,hI⟩ hn=>⟨λb0=>sf.drew λw3 x3=>?_,λb6=>?_⟩
 .have a4:k<cx.length:=oM;obtain⟨ad,ha,a6,a9⟩:=Cz hs a4;have b4:=x2.Z x3;refine⟨ad,⟨ha,oM,b0⟩,_,_,by rw[dx];exact a9 _ b4,hf _ _ _ λw4 x4=>⟨_,rfl,CI.V (ux a6 λw5 x5=>⟨_,rfl,IN (IN ?_)⟩)⟩⟩;have a8:=b4.Z (x4.Z x5);obtain⟨q,a0,a7,hq,a5⟩:∃(q:Edge) (a0:LP),(decide (0<(k:Int))=true->l.a=some a0/\(0:Int)<=Aa ((k:Int) - 1)/\Aa ((k:Int) - 1)<(l.len:Int))/\(∀h:0<k,q=cx[k - 1]'oM)/\(decide (0<(k:Int))=true->sh w5 (a0.add ((Aa ((k:Int) - 1)).toNat*2)) [.string q.Y,vi q.to]):=by
   by_cases h0:k=0
   .subst h0;exact⟨cx[0],ad,λh=>fm h dC,λh=>fm h dC,λh=>fm h dC⟩
   .obtain⟨a0,a7,_,a5⟩:=Cz hs (show k - 1<cx.length by omega);have e:Aa ((k:Int) - 1)=((k - 1:Nat):Int):=by rw[Ai oM oM];omega
    rw[e];exact⟨_,a0,λ_=>⟨a7,oM,oM⟩,λ_=>rfl,λ_=>by rw[dx];exact a5 _ a8⟩
  have hg:∀{b c:Bool},((!b)&&c)=true->c=true:=λ{b c} h=>by cases b<;>simp at h;exact h
  have a6:=VX (nm:=Edge.Y) a4 (t:=q.Y) λh=>by rw[hq h]
  refine⟨a0,λh=>a7 (hg h),q.Y,q.to,λh=>a5 (hg h),ad,λ_=>⟨ha,oM,b0⟩,cx[k].Y,cx[k].to,λ_=>by rw[dx];exact a9 _ a8,?_⟩;refine IS.intro q.Y (λ_ r hr=>hf q _ _ λw6 x6=>⟨x6,_,rfl,hr w6 x6⟩) λt6 w6 x6 h6=>IS.intro cx[k].Y (λ_ r hr=>hf _ _ _ λw7 x7=>⟨_,rfl,hr w7 x7⟩) λt7 w7 x7 h7=>?_;rw[Bool.not_not]at h6 h7;rw[WN (t':=q.Y) (u':=cx[k].Y) λh=>⟨h6 h,h7 h⟩];have b5:=a8.Z (x6.Z x7);exact⟨λhq=>hR false w7 b5 ⟨nO,λhF=>fm hF (a6.2 hq)⟩,λhq=>hn a4 w7 ⟨b5,a6.1 hq hI⟩⟩
 .have a4:k=cx.length:=oM;rw[a4]at hI;exact hR true w2 x2 ⟨λ_=>hI,λ_=>rfl⟩
def Zbp:Bm prog 207:=enters_of func207 kR rfl
def Zbq:Bm prog 209:=enters_of func209 kR rfl
def Zbr:Bm prog 211:=enters_of func211 kR rfl
section
variable {w:PU} {p:LP} {S:Nat->Prop} {c:PC} {G:Ζ} {P:Ι} {tm:Option (Ε)} {s:wv}
def Zho(ht:Þ w)(h:İ BM w p S c G P tm s)(hi:i<G.length)(hP:P.length=G.length)(hR:∀(b:Bool) w',AI w w'->(b=true↔ů G P i G[i])->R b w'):Mh (some p) (i:Int) w R:=by
 unfold Mh;have m5:=h.g.len;have m7:=h.pk.len;have f1:i<P.length:=oM;have j8:0<G.length:=oM;have b4:∀w',AI w w'-> ¬ů G P i G[i]->R false w':=λw' hx h=>hR false w' hx ⟨nO,λhf=>fm hf h⟩;obtain⟨ad,cs,es,k4,m8,e5,d1,l0⟩:=BR h.g hi;obtain⟨b7,dP,eP,oP,k0,_,j9,h7,h8,j2,k9⟩:=Jg h.pk f1;have f7:P[i]?=some P[i]:=dt f1;have g8:i=0->P[0]?=some P[i]:=λh=>by subst h;exact f7
 generalize G[i]=x at*;generalize P[i]=pk at*;have h4:=e5.len;have m4:=d1.len;refine join.named λJ hJ=>sf.drew λw1 x1=>?_;have key:∀(n q:LP) w2,AI w w2->AT w2 n [.string x.Y,vi x.v.ma,vi x.v.mi,vi x.v.pa,cs.v,es.v]->AT w2 q [.string pk.Y,vi pk.v.ma,vi pk.v.mi,vi pk.v.pa,dP.v,eP.v,oP.v]->J n q w2:=by
  subst hJ;intro n q w2 e7 a5 b0;have g6:((x.v.ma==0)&&((x.v.mi==0)&&((x.v.pa==0)&&true)))=decide (x.v=⟨0,0,0⟩):=Nk;have g7:((pk.v.ma==x.v.ma)&&((pk.v.mi==x.v.mi)&&((pk.v.pa==x.v.pa)&&true)))=decide (pk.v=x.v):=Nk;have ek:x.key=ui.key↔x.Y=⟨#[]⟩/\x.v=⟨0,0,0⟩/\x.vd=[]:=by unfold rz.key ui;simp only[Prod.mk.injEq]
  have d7: ¬0<(cs.len:Int)↔x.vd=[]:=⟨λh=>fo oM,λh=>by rw[h]at h4;simp at h4;omega⟩;refine IN ⟨x.Y,λ_=>a5.at0 xR rfl,IN ⟨x.v.ma,x.v.mi,x.v.pa,λ_=>a5.at1 (k:=1) xR rfl,IN ⟨cs,λ_=>a5.at1 (k:=4) xR rfl,IN ⟨pk.Y,pk.v.ma,pk.v.mi,pk.v.pa,dP,eP,oP,λ_=>b0.at0 (r:=[]) xR rfl,?_⟩⟩⟩⟩;refine IS.intro (decide (pk=Ay)) (λ_ r hr=>FB.V (LZ (p:=pk) (q:=Ay) (T:=se) (h7.U e7) (h8.U e7) (j2.U e7) (No.nil trivial) (No.nil trivial) (No.nil trivial) λw3 x3=>⟨_,rfl,hr w3 x3⟩)) λl7 w3 x3 d4=>?_;have d3:=e7.Z x3;have a5:=a5.U x3;have b0:=b0.U x3;rw[g6]at d4 ⊢;have b8:(((i:Int)==0)&&(((!Ag x.Y Ϥ|| !decide (x.v=⟨0,0,0⟩))||decide (0<(cs.len:Int)))|| !l7))=false↔(i=0->x.key=ui.key/\pk=Ay):=by
   rw[ek,<-d7];by_cases h0:i=0
   .subst h0;have e0:(((0:Nat):Int)==0)=true:=rfl;rw[e0]at d4 ⊢;by_cases hb:((!Ag x.Y Ϥ|| !decide (x.v=⟨0,0,0⟩))||decide (0<(cs.len:Int)))=true
    .rw[hb];simp only[ot,mg,fk,gk]at hb;refine⟨nO,λhF=>?_⟩;obtain⟨⟨q1,q2,q3⟩,_⟩:=hF rfl;rcases hb with(hb|hb)|hb
     .rw[AG.2 q1]at hb;cases hb
     .exact fm q2 hb
     .exact fm hb q3
    .rw[Bool.not_eq_true]at hb;rw[hb]at d4 ⊢;rw[d4 rfl];simp only[gd,nr,fk,gk,AG]at hb;simp[hb];intro _;omega
   .have e9:((i:Int)==0)=false:=(by rw[px];omega);rw[e9];simp[h0]
  refine⟨λhq=>b4 w3 d3 λhF=>?_,λhq=>IN ⟨pk.Y,pk.v.ma,pk.v.mi,pk.v.pa,dP,eP,oP,λ_=>b0.at0 (r:=[]) xR rfl,?_⟩⟩
  .rw[b8.2 λh0=>⟨(hF.root h0).1,by have:=(hF.root h0).2;rw[g8 h0]at this;exact jv this⟩]at hq;cases hq
  have d9:=b8.1 hq;clear b8 hq g6 ek d7 d4;refine IS.intro (AJ pk) (λ_ r hr=>Gy.V (OH (ht.U d3) j9 (h7.U d3) (h8.U d3) (j2.U d3) λw4 x4=>⟨_,rfl,hr w4 x4⟩)) λl8 w4 x4 f5=>IN ?_;have g4:=d3.Z x4;have a5:=a5.U x4;have b0:=b0.U x4;refine⟨pk.Y,λ_=>b0.at0 xR rfl,x.Y,λ_=>a5.at0 xR rfl,IN ⟨pk.v.ma,pk.v.mi,pk.v.pa,λ_=>b0.at1 (k:=1) xR rfl,x.v.ma,x.v.mi,x.v.pa,λ_=>a5.at1 (k:=1) xR rfl,?_⟩⟩;rw[g7];have b9:(decide (0<(i:Int))&&(((!l8)|| !Ag pk.Y x.Y)|| !decide (pk.v=x.v)))=false↔(i≠0->AJ pk=true/\pk.Y=x.Y/\pk.v=x.v):=by
   by_cases h0:i=0
   .subst h0;simp
   .rw[fy (show(0:Int)<(i:Int) by omega)]at f5 ⊢;rw[f5 rfl];simp[h0,AG,and_assoc]
  refine⟨λhq=>b4 w4 g4 λhF=>?_,λhq=>?_⟩
  .rw[b9.2 λh0=>by obtain⟨y,q1,q2,q3,q4⟩:=hF.pl.td h0;rw[f7]at q1;cases q1;exact⟨q2,q3,q4⟩]at hq;cases hq
  have f9:=b9.1 hq;clear b9 hq g7 f5;refine⟨cs,a5.at1 (k:=4) xR rfl,Mq.V (Zjc (e5.U g4) (λq w' k hk=>⟨_,_,rfl,Zbp,OL.V ?_⟩) λb5 w5 x5 d6=>⟨_,rfl,IN ?_⟩)⟩
  .unfold OL;exact An.intro λa w1 x1 f8 _ _=>⟨_,f8.at0 xR rfl,hk w1 x1⟩
  have j4:=g4.Z x5;refine⟨es,λ_=>a5.at1 (k:=5) (r:=[]) x5 rfl,IS.holds (λt=>t=true↔Fq Edge.Y x.sq x.sq.length) (λ_ r hr=>Mp.V (Zja (d1.U j4) (λq w' k hk=>⟨_,_,rfl,Zbq,OM.V ?_⟩) λb6 w6 x6 c9=>⟨_,rfl,hr b6 w6 x6 c9⟩)) λl9 w6 x6 f6=>?_⟩
  .unfold OM;exact An.intro λa w1 x1 f8 _ _=>⟨_,f8.at0 xR rfl,hk w1 x1⟩
  have g5:=j4.Z x6;have c9:=a5.U (x5.Z x6);refine⟨λhq=>b4 w6 g5 λhF=>?_,λhq=>?_⟩
  .have d6:=d6.2 ⟨by rw[eh];exact hF.pl.vd,by rw[eh];exact hF.cn⟩;subst d6;rw[(f6 rfl).2 ⟨by rw[eh];exact hF.pl.sq,by rw[eh];exact hF.en⟩]at hq;cases hq
  rw[gd]at hq;have h3:b5=true:=by simpa using hq.1
  have j3:l9=true:=by simpa using hq.2
  subst h3 j3;obtain⟨h6,h5⟩:=d6.1 rfl;obtain⟨i3,i2⟩:=(f6 rfl).1 rfl;rw[eh]at h6 h5 i3 i2;clear hq d6 f6;refine⟨es,c9.at1 (k:=5) (r:=[]) xR rfl,?_⟩;refine Of.up d1.max (λj w'=>AI w6 w'/\∀e∈x.sq.take j,∃(m:Nat) (y:rz),e.to=(m:Int)/\1<=m/\G[m]?=some y/\y.Y=e.Y) ⟨AI.refl _,(λ_ h=>by cases h)⟩ λj w7 m2 hj ⟨x7,hJ⟩ l5=>⟨λi7=>?_,λm0=>?_⟩
  .have a6:j<x.sq.length:=oM;obtain⟨j6,g9,_,i4⟩:=Cz d1 a6;have c8:=fe a6;have g0:x.sq.take (j+1)=x.sq.take j++[x.sq[j]]:=dw a6;have e3:=g5.Z x7;generalize x.sq[j]=e at*;refine⟨j6,⟨g9,oM,i7⟩,e.Y,e.to,by rw[dx];exact i4 _ e3,An.set rfl λa8 w8 x8 k8 _=>sf.drew λw9 x9=>?_⟩;have c7:=e3.Z (x8.Z x9);have c4:=k8.U x9;obtain⟨m,hm,j0⟩:∃m,m<G.length/\(0<=e.to/\e.to<(G.length:Int)->e.to=(m:Int)):=by
    by_cases hq:0<=e.to/\e.to<(G.length:Int)
    .exact⟨e.to.toNat,oM,λ_=>by omega⟩
    .exact⟨0,j8,λh=>fm h hq⟩
   obtain⟨f2,_,_,d5,_,_,_,d8⟩:=BR h.g hm;have e6:((!(decide (e.to<1)||decide ((c.u.len:Int)<=e.to)))=true)->e.to=(m:Int)/\1<=m:=λhg=>by simp only[mg,gd,gk]at hg;have:=j0 ⟨oM,oM⟩;exact⟨this,oM⟩
   refine⟨e.to,c4.at1 (k:=1) (r:=[]) xR rfl,IN ⟨e.to,λ_=>c4.at1 (k:=1) (r:=[]) xR rfl,p,λ_=>rfl,c.u,λ_=>h.ld0 c7,IN ⟨p,λ_=>rfl,c.u,λ_=>h.ld0 c7,e.to,λ_=>c4.at1 (k:=1) (r:=[]) xR rfl,f2,λhg=>⟨d5,by have:=(e6 hg).1;omega,by have:=(e6 hg).1;omega⟩,G[m].Y,λhg=>by rw[(e6 hg).1,dx];exact(d8 _ c7).pre rfl,e.Y,λ_=>c4.at0 xR rfl,λhq=>?_,λhq=>?_⟩⟩⟩
   .refine b4 w9 c7 λhF=>?_;obtain⟨m',y,q1,q2,q3,q4⟩:=hF.pl.yz e c8;have m6:=(fh.1 q3).1;have:m=m':=(by have:=j0 ⟨oM,oM⟩;omega);subst this;rw[dt hm]at q3;cases q3;rw[fq oM,fq oM,AG.2 q4]at hq;cases hq
   .rw[gd]at hq;obtain⟨g1,g2⟩:=e6 (by rw[hq.1];rfl);refine l5 a6 w9 ⟨x7.Z (x8.Z x9),λe' d0=>?_⟩;rw[g0]at d0;obtain d0|d0:=fp.1 d0
    .exact hJ e' d0
    .rw[ep.1 d0];exact⟨m,G[m],g1,g2,dt hm,AG.1 (by simpa using hq.2)⟩
  .have a6:j=x.sq.length:=oM;rw[a6,eh]at hJ;have e3:=g5.Z x7;refine⟨cs,c9.at1 (k:=4) x7 rfl,?_⟩;refine Of.up e5.max (λj w'=>AI w7 w'/\∀q∈x.vd.take j,∃y,Iz G x q.Y=some y/\y.v=q.v) ⟨AI.refl _,(λ_ h=>by cases h)⟩ λj w8 m3 hj ⟨x8,hK⟩ l6=>⟨λi9=>?_,λm1=>?_⟩
   .have a6:j<x.vd.length:=oM;obtain⟨f3,h2,_,_,i6⟩:=CE e5 a6;have c8:=fe a6;have g0:x.vd.take (j+1)=x.vd.take j++[x.vd[j]]:=dw a6;have j5:=e3.Z x8;generalize x.vd[j]=q at*;refine⟨f3,⟨h2,oM,i9⟩,q.Y,q.v.ma,q.v.mi,q.v.pa,by rw[dx];exact i6 _ j5,An.set rfl λa9 w9 x9 c4 _=>⟨es,c9.at1 (k:=5) (r:=[]) (x7.Z (x8.Z x9)) rfl,?_⟩⟩;have c7:=j5.Z x9;refine ML.V (Zdx (q:=λe=>decide (e.Y=q.Y)) (d1.U c7) (λe he w' k x' hk=>⟨_,_,rfl,Zbr,ON.V ?_⟩) λm9 e8=>⟨_,rfl,sf.drew λg3 f0=>IN ?_⟩)
    .unfold ON;refine An.intro λa4 w4 x4 k7 _ _=>⟨_,k7.at0 xR rfl,q.Y,c4.at0 (x'.Z x4) rfl,?_⟩;have:Ag e.Y q.Y=decide (e.Y=q.Y):=by rw[gp,AG,iv]
     rw[this];exact hk w4 x4
    have c3:=c7.Z (e8.Z f0);rcases Zd2 (λe:Edge=>decide (e.Y=q.Y)) x.sq with⟨e1,e2⟩|⟨k,hk,e1,e2⟩
    .rw[e1];refine⟨p,nO,c.u,nO,es,nO,f3,nO,0,nO,f3,nO,0,0,0,nO,0,0,0,nO,λ_=>b4 g3 c3 λhF=>?_,λhq=>?_⟩
     .obtain⟨y,q1,_⟩:=hF.pl.full q c8;rw[Uy,e2]at q1;cases q1
     .exact fm hq sI
    .rw[e1];obtain⟨j7,h1,_,i5⟩:=Cz d1 hk;obtain⟨m,y,q1,q2,q3,q4⟩:=hJ _ (fe hk);have hm:=(fh.1 q3).1;obtain⟨f2,_,_,d5,_,_,_,d8⟩:=BR h.g hm;rw[dt hm]at q3;cases q3;have h9:Iz G x q.Y=some G[m]:=by rw[Uy,e2,oe,q1,dx];exact dt hm
     refine⟨p,λ_=>rfl,c.u,λ_=>h.ld0 c3,es,λ_=>c9.at1 (k:=5) (r:=[]) (x7.Z (x8.Z (x9.Z (e8.Z f0)))) rfl,j7,λ_=>⟨h1,oM,oM⟩,x.sq[k].to,λ_=>by rw[dx];exact(i5 _ c3).I (k:=1) (r:=[]) rfl,f2,λ_=>⟨d5,oM,oM⟩,G[m].v.ma,G[m].v.mi,G[m].v.pa,λ_=>by rw[q1,dx];exact(d8 _ c3).I (k:=1) rfl,q.v.ma,q.v.mi,q.v.pa,λ_=>c4.at1 (k:=1) (r:=[]) (e8.Z f0) rfl,?_⟩;have ev:((G[m].v.ma==q.v.ma)&&((G[m].v.mi==q.v.mi)&&((G[m].v.pa==q.v.pa)&&true)))=decide (G[m].v=q.v):=Nk;rw[ev,fq (show ¬((k:Int)<0) by omega)];refine⟨λhq=>b4 g3 c3 λhF=>?_,λhq=>l6 a6 g3 ⟨x8.Z (x9.Z (e8.Z f0)),λq' d2=>?_⟩⟩
     .obtain⟨y,r1,r2⟩:=hF.pl.full q c8;rw[h9]at r1;cases r1;rw[fy r2]at hq;cases hq
     .rw[g0]at d2;obtain d2|d2:=fp.1 d2
      .exact hK q' d2
      .rw[ep.1 d2];exact⟨_,h9,jg (by simpa using hq)⟩
   .have a6:j=x.vd.length:=oM;rw[a6,eh]at hK;exact hR true w8 (e3.Z x8) ⟨λ_=>⟨λh0=>⟨(d9 h0).1,by rw[g8 h0,(d9 h0).2]⟩,⟨λh0=>⟨pk,f7,f9 h0⟩,h6,i3,hJ,hK⟩,h5,i2⟩,λ_=>rfl⟩
 clear hJ;have c6:∀{w'},AI w1 w'->sh w' (p.add 1) [c.ps.v]:=λx=>h.ld (x1.Z x) 1 rfl;have a0:∀{w'},AI w1 w'->sh w' (b7.add ((i:Int).toNat*7)) [.string pk.Y,vi pk.v.ma,vi pk.v.mi,vi pk.v.pa,dP.v,eP.v,oP.v]:=λx=>by rw[dx];exact k9 _ (x1.Z x)
 have c5:c.ps.a=some b7/\(0:Int)<=(i:Int)/\(i:Int)<(c.ps.len:Int):=⟨k0,oM,oM⟩;have F:∀{n q:LP} {w':PU},AI w1 w'->n.block≠q.block->w1.heap.size<=n.block->w1.heap.size<=q.block->∀{z1 z2 z3 z4 z5 z6 y1 y2 y3 y4 y5 y6 y7:HT},AT w' n [z1,z2,z3,z4,z5,z6]->AT w' q [y1,y2,y3,y4,y5,y6,y7]->∀K:Wp,(∀w2,AI w1 w2->ry w2 q [.string pk.Y,vi pk.v.ma,vi pk.v.mi,vi pk.v.pa,dP.v,eP.v,oP.v] (J n q)->K w2)->ry w' n [.string x.Y,vi x.v.ma,vi x.v.mi,vi x.v.pa,cs.v,es.v] K:=λ{n q w'} x' j1 hn hq {_ _ _ _ _ _ _ _ _ _ _ _ _} a5 b0 K hK=>by have s1:=x'.size;refine tk.intro a5 sI λw2 b2 z2 k5=>hK w2 (b2.U x' hn) (tk.intro (b2.box b0 (Ne.H j1)) sI λw3 b3 z3 k6=>key n q w3 (x1.Z (b3.U (b2.U x' hn) hq)) (b3.box k5 j1) k6)
 refine⟨p,rfl,c.u,h.ld0 x1,ad,⟨k4,oM,oM⟩,_,_,_,_,cs,es,by rw[dx];exact l0 _ x1,p,rfl,?_⟩;have N2:∀{w':PU} {zs ys:LV} {t u:LN} {K:LP->Ì},AI w1 w'->(∀a b w2,AI w1 w2->w1.heap.size<=a.block->w1.heap.size<=b.block->a.block≠b.block->AT w2 a zs->AT w2 b ys->K a b w2)->An w' zs t λa w2=>An w2 ys u λb w3=>K a b w3:=λ{w' zs ys t u K} x' hK=>An.intro λa w2 x2 ha e4 _=>An.intro λb w3 x3 hb a7 _=>by have:=x'.size;have:=ha.lt;exact hK a b w3 (x'.Z (x2.Z x3)) oM oM oM (ha.U x3) hb
 have x0:AI w1 w1:=AI.refl _;refine⟨⟨c.ps,c6 x0,b7,c5,⟨_,_,_,_,dP,eP,oP,a0 x0,N2 x0 λa b w2 x2 k1 k2 k3 ha hb=>F x2 k3 k1 k2 ha hb _ λ_ _ h=>h,N2 x0 λa b w2 x2 k1 k2 k3 ha hb=>F x2 (Ne.H k3) k2 k1 hb ha _ λ_ _ h=>h⟩,?_,?_⟩,?_,?_⟩
 .refine An.intro λa w2 x2 ha e4 _=>⟨⟨_,_,_,_,dP,eP,oP,a0 x2,An.intro λb w3 x3 hb a7 _=>?_⟩,An.intro λb w3 x3 hb a7 _=>⟨⟨_,_,_,_,dP,eP,oP,a0 (x2.Z x3),?_⟩,?_⟩⟩
  all_goals have:=x2.size
  all_goals have:=ha.lt
  .exact F (x2.Z x3) oM oM oM (ha.U x3) hb _ λ_ _ h=>h
  .exact F (x2.Z x3) oM oM oM (ha.U x3) hb _ λ_ _ h=>h
  .exact F (x2.Z x3) oM oM oM (ha.U x3) hb _ λ_ x h=>⟨_,_,_,_,dP,eP,oP,a0 x,h⟩
 .refine An.intro λa w2 x2 ha e4 _=>⟨⟨_,_,_,_,dP,eP,oP,a0 x2,An.intro λb w3 x3 hb a7 _=>?_⟩,An.intro λb w3 x3 hb a7 _=>⟨⟨_,_,_,_,dP,eP,oP,a0 (x2.Z x3),?_⟩,?_⟩⟩
  all_goals have:=x2.size
  all_goals have:=ha.lt
  .exact F (x2.Z x3) oM oM oM hb (ha.U x3) _ λ_ _ h=>h
  .exact F (x2.Z x3) oM oM oM hb (ha.U x3) _ λ_ _ h=>h
  .exact F (x2.Z x3) oM oM oM hb (ha.U x3) _ λ_ x h=>⟨_,_,_,_,dP,eP,oP,a0 x,h⟩
 .refine An.intro λa w2 x2 ha e4 _=>⟨⟨c.ps,c6 x2,b7,c5,⟨_,_,_,_,dP,eP,oP,a0 x2,An.intro λb w3 x3 hb a7 _=>?_⟩,An.intro λb w3 x3 hb a7 _=>⟨⟨_,_,_,_,dP,eP,oP,a0 (x2.Z x3),?_⟩,?_⟩⟩,An.intro λb w3 x3 hb a7 _=>⟨⟨c.ps,c6 (x2.Z x3),b7,c5,⟨_,_,_,_,dP,eP,oP,a0 (x2.Z x3),?_⟩,?_⟩,?_⟩⟩
  all_goals have:=x2.size
  all_goals have:=ha.lt
  .exact F (x2.Z x3) oM oM oM (ha.U x3) hb _ λ_ _ h=>h
  .exact F (x2.Z x3) oM oM oM (ha.U x3) hb _ λ_ _ h=>h
  .exact F (x2.Z x3) oM oM oM (ha.U x3) hb _ λ_ x h=>⟨_,_,_,_,dP,eP,oP,a0 x,h⟩
  .exact F (x2.Z x3) oM oM oM (ha.U x3) hb _ λ_ _ h=>h
  .exact F (x2.Z x3) oM oM oM (ha.U x3) hb _ λ_ x h=>⟨_,_,_,_,dP,eP,oP,a0 x,h⟩
  .exact F (x2.Z x3) oM oM oM (ha.U x3) hb _ λ_ x h=>⟨c.ps,c6 x,b7,c5,_,_,_,_,dP,eP,oP,a0 x,h⟩
 .refine An.intro λa w2 x2 ha e4 _=>⟨⟨c.ps,c6 x2,b7,c5,⟨_,_,_,_,dP,eP,oP,a0 x2,An.intro λb w3 x3 hb a7 _=>?_⟩,An.intro λb w3 x3 hb a7 _=>⟨⟨_,_,_,_,dP,eP,oP,a0 (x2.Z x3),?_⟩,?_⟩⟩,An.intro λb w3 x3 hb a7 _=>⟨⟨c.ps,c6 (x2.Z x3),b7,c5,⟨_,_,_,_,dP,eP,oP,a0 (x2.Z x3),?_⟩,?_⟩,?_⟩⟩
  all_goals have:=x2.size
  all_goals have:=ha.lt
  .exact F (x2.Z x3) oM oM oM hb (ha.U x3) _ λ_ _ h=>h
  .exact F (x2.Z x3) oM oM oM hb (ha.U x3) _ λ_ _ h=>h
  .exact F (x2.Z x3) oM oM oM hb (ha.U x3) _ λ_ x h=>⟨_,_,_,_,dP,eP,oP,a0 x,h⟩
  .exact F (x2.Z x3) oM oM oM hb (ha.U x3) _ λ_ _ h=>h
  .exact F (x2.Z x3) oM oM oM hb (ha.U x3) _ λ_ x h=>⟨_,_,_,_,dP,eP,oP,a0 x,h⟩
  .exact F (x2.Z x3) oM oM oM hb (ha.U x3) _ λ_ x h=>⟨c.ps,c6 x,b7,c5,_,_,_,_,dP,eP,oP,a0 x,h⟩
def Zhq(ht:Þ w)(h:İ BM w p S c G P tm s)(hR:∀(b:Bool) w',AI w w'->(b=true↔ur G P)->R b w'):Mj (some p) w R:=by
 unfold Mj;have a8:=h.g.len;have b0:=h.pk.len;have a5:∀w',AI w w'-> ¬ur G P->R false w':=λw' hx h=>hR false w' hx ⟨nO,λhf=>fm hf h⟩;refine⟨p,rfl,c.u,h.ld0 xR,IN (IN ⟨p,λ_=>rfl,c.ps,λ_=>h.ld xR 1 rfl,λhc=>a5 w xR λhF=>?_,λhc=>?_⟩)⟩
 .have h1:=hF.len;have h2:=hF.Xb7;rw[fq oM,fq oM,show((c.ps.len:Int)==(c.u.len:Int))=true by rw[jq];omega]at hc;cases hc
 simp only[gd,gk,nr,jq]at hc;have a0:0<G.length:=oM;have hP:P.length=G.length:=oM;refine Of.up h.g.max (λi w'=>AI w w'/\∀j (hj:j<G.length),j<i->ů G P j G[j]) ⟨AI.refl _,λj _ h=>by omega⟩ λi w1 b2 hi ⟨x1,hI⟩ hn=>⟨λa9=>?_,λa7=>?_⟩
 .have a4:i<G.length:=oM;refine Mh.V (Zho (ht.U x1) (h.U x1) a4 hP λb w2 x2 hb=>⟨b,rfl,λhq=>a5 w2 (x1.Z x2) λhF=>?_,λhq=>hn a4 w2 ⟨x1.Z x2,λj hj a6=>?_⟩⟩)
  .rw[hb.2 (hF.Xc6 (dt a4))]at hq;cases hq
  .obtain h'|h':=im.1 a6
   .exact hI j hj h'
   .subst h';exact hb.1 (by simpa using hq)
 .have a4:i=G.length:=oM;subst a4;refine hR true w1 x1 ⟨λ_=>⟨oM,hP,⟨G[0],dt a0,((hI 0 a0 a0).root rfl).1⟩,((hI 0 a0 a0).root rfl).2,λj y hy=>?_⟩,λ_=>rfl⟩;obtain⟨hj,rfl⟩:=fh.1 hy;exact(hI j hj hj).pl
end
end Go.Hal
