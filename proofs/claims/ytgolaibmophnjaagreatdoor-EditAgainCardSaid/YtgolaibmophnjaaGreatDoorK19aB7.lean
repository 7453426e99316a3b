/- Lemmas for the claim K19a: how the program's functions run, and what they answer; no condition but those that each theorem names. -/
import Derived.Test.YtgolaibmophnjaaGreatDoorK19aB6
set_option linter.unusedVariables false
set_option linter.unusedSimpArgs false
set_option linter.defProp false
set_option maxHeartbeats 16000000
open Go.Hal.SE hiding Cs Dr Lb vB
open Go Go.RowKit Go.Proofs Go.Shelf Go.Hal Go.Proofs.Tryz
variable {a:LP} {A:ō} {R:Á} {D Di M N:Int} {G:List Hal.BY} {L P:Κ} {i n:Nat} {S:Nat->Prop} {r:Option (Λ)} {d g o t:Sl} {s:è} {w:Qd}
namespace Go.Hal
def WD{nm:Bool}{d:Bool}{t u t' u':PU}(h:(nm&&d)=true->t=t'/\u=u'):((!nm)||(d&& !Ak t u))=((!nm)||(d&& !Ak t' u')):=by
 cases nm<;>cases d<;>try rfl
 obtain⟨rfl,rfl⟩:=h rfl;rfl
def Zj1{l:Sl}{cx:Η}{f:HT}(hs:IT uy w S l cx)(hf:∀(q:sy)(w':Qd)(k:Ã),(∀b2,AI w' b2->k (.string q.Y) b2)->ug prog f [.agg #[.string q.Y,vi q.v.ma,vi q.v.mi,vi q.v.pa]] w' k)
  (hR:∀(b:Bool) w',AI w w'->(b=true↔Fv sy.Y cx cx.length)->R b w'):LK l f w R:=by
 unfold LK;have hl:=hs.len;have hm:=hs.max;rw[Al]at hm;refine rn.up hs.max (λk w'=>AI w w'/\Fv sy.Y cx k) ⟨AI.refl _,VT⟩ λk w2 b7 hk ⟨x2,hI⟩ hn=>⟨λb0=>sh.drew λw3 x3=>?_,λb6=>?_⟩
 .have a4:k<cx.length:=oM;obtain⟨ad,ha,_,a6,a9⟩:=Dw hs a4;have b4:=x2.Z x3;refine⟨ad,⟨ha,oM,b0⟩,_,_,_,_,by rw[fa];exact a9 _ b4,hf _ _ _ λw4 x4=>⟨_,rfl,CI.V (uq a6 λw5 x5=>⟨_,rfl,py (py ?_)⟩)⟩⟩;have a8:=b4.Z (x4.Z x5);obtain⟨q,a0,a7,hq,a5⟩:∃(q:sy) (a0:LP),(decide (0<(k:Int))=true->l.a=some a0/\(0:Int)<=Aa ((k:Int) - 1)/\Aa ((k:Int) - 1)<(l.len:Int))/\(∀h:0<k,q=cx[k - 1]'oM)/\(decide (0<(k:Int))=true->se w5 (a0.add ((Aa ((k:Int) - 1)).toNat*4)) [.string q.Y,vi q.v.ma,vi q.v.mi,vi q.v.pa]):=by
   by_cases h0:k=0
   .subst h0;exact⟨cx[0],ad,λh=>fu h dC,λh=>fu h dC,λh=>fu h dC⟩
   .obtain⟨a0,a7,_,_,a5⟩:=Dw hs (show k - 1<cx.length by omega);have e:Aa ((k:Int) - 1)=((k - 1:Nat):Int):=by rw[Ai oM oM];omega
    rw[e];exact⟨_,a0,λ_=>⟨a7,oM,oM⟩,λ_=>rfl,λ_=>by rw[fa];exact a5 _ a8⟩
  have hg:∀{b c:Bool},((!b)&&c)=true->c=true:=λ{b c} h=>by cases b<;>simp at h;exact h
  have a6:=VS (nm:=sy.Y) a4 (t:=q.Y) λh=>by rw[hq h]
  refine⟨a0,λh=>a7 (hg h),q.Y,q.v.ma,q.v.mi,q.v.pa,λh=>a5 (hg h),ad,λ_=>⟨ha,oM,b0⟩,cx[k].Y,cx[k].v.ma,cx[k].v.mi,cx[k].v.pa,λ_=>by rw[fa];exact a9 _ a8,?_⟩;refine No.intro q.Y (λ_ r hr=>hf q _ _ λw6 x6=>⟨x6,_,rfl,hr w6 x6⟩) λt6 w6 x6 h6=>No.intro cx[k].Y (λ_ r hr=>hf _ _ _ λw7 x7=>⟨_,rfl,hr w7 x7⟩) λt7 w7 x7 h7=>?_;rw[Bool.not_not]at h6 h7;rw[WD (t':=q.Y) (u':=cx[k].Y) λh=>⟨h6 h,h7 h⟩];have b5:=a8.Z (x6.Z x7);exact⟨λhq=>hR false w7 b5 ⟨nO,λhF=>fu hF (a6.2 hq)⟩,λhq=>hn a4 w7 ⟨b5,a6.1 hq hI⟩⟩
 .have a4:k=cx.length:=oM;rw[a4]at hI;exact hR true w2 x2 ⟨λ_=>hI,λ_=>rfl⟩
def Zjz{l:Sl}{cx:LQ}{f:HT}(hs:IT wo w S l cx)(hf:∀(q:Edge)(w':Qd)(k:Ã),(∀b2,AI w' b2->k (.string q.Y) b2)->ug prog f [.agg #[.string q.Y,vi q.to]] w' k)
  (hR:∀(b:Bool) w',AI w w'->(b=true↔Fv Edge.Y cx cx.length)->R b w'):LJ l f w R:=by
 unfold LJ;have hl:=hs.len;have hm:=hs.max;rw[Al]at hm;refine rn.up hs.max (λk w'=>AI w w'/\Fv Edge.Y cx k) ⟨AI.refl _,VT⟩ λk w2 b7 hk ⟨x2,hI⟩ hn=>⟨λb0=>sh.drew λw3 x3=>?_,λb6=>?_⟩
 .have a4:k<cx.length:=oM;obtain⟨ad,ha,a6,a9⟩:=D4 hs a4;have b4:=x2.Z x3;refine⟨ad,⟨ha,oM,b0⟩,_,_,by rw[fa];exact a9 _ b4,hf _ _ _ λw4 x4=>⟨_,rfl,CI.V (uq a6 λw5 x5=>⟨_,rfl,py (py ?_)⟩)⟩⟩;have a8:=b4.Z (x4.Z x5);obtain⟨q,a0,a7,hq,a5⟩:∃(q:Edge) (a0:LP),(decide (0<(k:Int))=true->l.a=some a0/\(0:Int)<=Aa ((k:Int) - 1)/\Aa ((k:Int) - 1)<(l.len:Int))/\(∀h:0<k,q=cx[k - 1]'oM)/\(decide (0<(k:Int))=true->se w5 (a0.add ((Aa ((k:Int) - 1)).toNat*2)) [.string q.Y,vi q.to]):=by
   by_cases h0:k=0
   .subst h0;exact⟨cx[0],ad,λh=>fu h dC,λh=>fu h dC,λh=>fu h dC⟩
   .obtain⟨a0,a7,_,a5⟩:=D4 hs (show k - 1<cx.length by omega);have e:Aa ((k:Int) - 1)=((k - 1:Nat):Int):=by rw[Ai oM oM];omega
    rw[e];exact⟨_,a0,λ_=>⟨a7,oM,oM⟩,λ_=>rfl,λ_=>by rw[fa];exact a5 _ a8⟩
  have hg:∀{b c:Bool},((!b)&&c)=true->c=true:=λ{b c} h=>by cases b<;>simp at h;exact h
  have a6:=VS (nm:=Edge.Y) a4 (t:=q.Y) λh=>by rw[hq h]
  refine⟨a0,λh=>a7 (hg h),q.Y,q.to,λh=>a5 (hg h),ad,λ_=>⟨ha,oM,b0⟩,cx[k].Y,cx[k].to,λ_=>by rw[fa];exact a9 _ a8,?_⟩;refine No.intro q.Y (λ_ r hr=>hf q _ _ λw6 x6=>⟨x6,_,rfl,hr w6 x6⟩) λt6 w6 x6 h6=>No.intro cx[k].Y (λ_ r hr=>hf _ _ _ λw7 x7=>⟨_,rfl,hr w7 x7⟩) λt7 w7 x7 h7=>?_;rw[Bool.not_not]at h6 h7;rw[WD (t':=q.Y) (u':=cx[k].Y) λh=>⟨h6 h,h7 h⟩];have b5:=a8.Z (x6.Z x7);exact⟨λhq=>hR false w7 b5 ⟨nO,λhF=>fu hF (a6.2 hq)⟩,λhq=>hn a4 w7 ⟨b5,a6.1 hq hI⟩⟩
 .have a4:k=cx.length:=oM;rw[a4]at hI;exact hR true w2 x2 ⟨λ_=>hI,λ_=>rfl⟩
def Zbv:Bi prog 207:=enters_of func207 kR rfl
def Zbw:Bi prog 209:=enters_of func209 kR rfl
def Zbx:Bi prog 211:=enters_of func211 kR rfl
section
variable {w:Qd} {p:LP} {S:Nat->Prop} {c:PC} {G:Ζ} {P:Κ} {tf:Option (Θ)} {s:vq}
def Ziq(ht:Í w)(h:ħ BO w p S c G P tf s)(hi:i<G.length)(hP:P.length=G.length)(hR:∀(b:Bool) w',AI w w'->(b=true↔š G P i G[i])->R b w'):L8 (some p) (i:Int) w R:=by
 unfold L8;have m5:=h.g.len;have m7:=h.pk.len;have f1:i<P.length:=oM;have j8:0<G.length:=oM;have b4:∀w',AI w w'-> ¬š G P i G[i]->R false w':=λw' hx h=>hR false w' hx ⟨nO,λhf=>fu hf h⟩;obtain⟨ad,cs,es,k4,m8,e5,d1,l0⟩:=Ct h.g hi;obtain⟨b7,dP,eP,oP,k0,_,j9,h7,h8,j2,k9⟩:=IV h.pk f1;have f7:P[i]?=some P[i]:=dw f1;have g8:i=0->P[0]?=some P[i]:=λh=>by subst h;exact f7
 generalize G[i]=x at*;generalize P[i]=pk at*;have h4:=e5.len;have m4:=d1.len;refine join.named λJ hJ=>sh.drew λw1 x1=>?_;have key:∀(n q:LP) w2,AI w w2->AT w2 n [.string x.Y,vi x.v.ma,vi x.v.mi,vi x.v.pa,cs.v,es.v]->AT w2 q [.string pk.Y,vi pk.v.ma,vi pk.v.mi,vi pk.v.pa,dP.v,eP.v,oP.v]->J n q w2:=by
  subst hJ;intro n q w2 e7 a5 b0;have g6:((x.v.ma==0)&&((x.v.mi==0)&&((x.v.pa==0)&&true)))=decide (x.v=⟨0,0,0⟩):=Jv;have g7:((pk.v.ma==x.v.ma)&&((pk.v.mi==x.v.mi)&&((pk.v.pa==x.v.pa)&&true)))=decide (pk.v=x.v):=Jv;have ek:x.key=ta.key↔x.Y=⟨#[]⟩/\x.v=⟨0,0,0⟩/\x.uk=[]:=by unfold BY.key ta;simp only[Prod.mk.injEq]
  have d7: ¬0<(cs.len:Int)↔x.uk=[]:=⟨λh=>fq oM,λh=>by rw[h]at h4;simp at h4;omega⟩;refine py ⟨x.Y,λ_=>a5.at0 xR rfl,py ⟨x.v.ma,x.v.mi,x.v.pa,λ_=>a5.at1 (k:=1) xR rfl,py ⟨cs,λ_=>a5.at1 (k:=4) xR rfl,py ⟨pk.Y,pk.v.ma,pk.v.mi,pk.v.pa,dP,eP,oP,λ_=>b0.at0 (r:=[]) xR rfl,?_⟩⟩⟩⟩;refine No.intro (decide (pk=Ay)) (λ_ r hr=>FE.V (Lz (p:=pk) (q:=Ay) (T:=rz) (h7.U e7) (h8.U e7) (j2.U e7) (IT.nil trivial) (IT.nil trivial) (IT.nil trivial) λw3 x3=>⟨_,rfl,hr w3 x3⟩)) λl7 w3 x3 d4=>?_;have d3:=e7.Z x3;have a5:=a5.U x3;have b0:=b0.U x3;rw[g6]at d4 ⊢;have b8:(((i:Int)==0)&&(((!Ag x.Y Ϣ|| !decide (x.v=⟨0,0,0⟩))||decide (0<(cs.len:Int)))|| !l7))=false↔(i=0->x.key=ta.key/\pk=Ay):=by
   rw[ek,<-d7];by_cases h0:i=0
   .subst h0;have e0:(((0:Nat):Int)==0)=true:=rfl;rw[e0]at d4 ⊢;by_cases hb:((!Ag x.Y Ϣ|| !decide (x.v=⟨0,0,0⟩))||decide (0<(cs.len:Int)))=true
    .rw[hb];simp only[oz,na,fp,ig]at hb;refine⟨nO,λhF=>?_⟩;obtain⟨⟨q1,q2,q3⟩,_⟩:=hF rfl;rcases hb with(hb|hb)|hb
     .rw[AA.2 q1]at hb;cases hb
     .exact fu q2 hb
     .exact fu hb q3
    .rw[Bool.not_eq_true]at hb;rw[hb]at d4 ⊢;rw[d4 rfl];simp only[ik,qf,fp,ig,AA]at hb;simp[hb];intro _;omega
   .have e9:((i:Int)==0)=false:=(by rw[pz];omega);rw[e9];simp[h0]
  refine⟨λhq=>b4 w3 d3 λhF=>?_,λhq=>py ⟨pk.Y,pk.v.ma,pk.v.mi,pk.v.pa,dP,eP,oP,λ_=>b0.at0 (r:=[]) xR rfl,?_⟩⟩
  .rw[b8.2 λh0=>⟨(hF.root h0).1,by have:=(hF.root h0).2;rw[g8 h0]at this;exact jz this⟩]at hq;cases hq
  have d9:=b8.1 hq;clear b8 hq g6 ek d7 d4;refine No.intro (AH pk) (λ_ r hr=>Gv.V (Ov (ht.U d3) j9 (h7.U d3) (h8.U d3) (j2.U d3) λw4 x4=>⟨_,rfl,hr w4 x4⟩)) λl8 w4 x4 f4=>py ?_;have g4:=d3.Z x4;have a5:=a5.U x4;have b0:=b0.U x4;refine⟨pk.Y,λ_=>b0.at0 xR rfl,x.Y,λ_=>a5.at0 xR rfl,py ⟨pk.v.ma,pk.v.mi,pk.v.pa,λ_=>b0.at1 (k:=1) xR rfl,x.v.ma,x.v.mi,x.v.pa,λ_=>a5.at1 (k:=1) xR rfl,?_⟩⟩;rw[g7];have b9:(decide (0<(i:Int))&&(((!l8)|| !Ag pk.Y x.Y)|| !decide (pk.v=x.v)))=false↔(i≠0->AH pk=true/\pk.Y=x.Y/\pk.v=x.v):=by
   by_cases h0:i=0
   .subst h0;simp
   .rw[ie (show(0:Int)<(i:Int) by omega)]at f4 ⊢;rw[f4 rfl];simp[h0,AA,and_assoc]
  refine⟨λhq=>b4 w4 g4 λhF=>?_,λhq=>?_⟩
  .rw[b9.2 λh0=>by obtain⟨y,q1,q2,q3,q4⟩:=hF.pl.td h0;rw[f7]at q1;cases q1;exact⟨q2,q3,q4⟩]at hq;cases hq
  have f9:=b9.1 hq;clear b9 hq g7 f4;refine⟨cs,a5.at1 (k:=4) xR rfl,LK.V (Zj1 (e5.U g4) (λq w' k hk=>⟨_,_,rfl,Zbv,Oy.V ?_⟩) λb5 w5 x5 d6=>⟨_,rfl,py ?_⟩)⟩
  .unfold Oy;exact An.intro λa w1 x1 f8 _ _=>⟨_,f8.at0 xR rfl,hk w1 x1⟩
  have j4:=g4.Z x5;refine⟨es,λ_=>a5.at1 (k:=5) (r:=[]) x5 rfl,No.holds (λt=>t=true↔Fv Edge.Y x.sd x.sd.length) (λ_ r hr=>LJ.V (Zjz (d1.U j4) (λq w' k hk=>⟨_,_,rfl,Zbw,Oz.V ?_⟩) λb6 w6 x6 c9=>⟨_,rfl,hr b6 w6 x6 c9⟩)) λl9 w6 x6 f6=>?_⟩
  .unfold Oz;exact An.intro λa w1 x1 f8 _ _=>⟨_,f8.at0 xR rfl,hk w1 x1⟩
  have g5:=j4.Z x6;have c9:=a5.U (x5.Z x6);refine⟨λhq=>b4 w6 g5 λhF=>?_,λhq=>?_⟩
  .have d6:=d6.2 ⟨by rw[fe];exact hF.pl.uk,by rw[fe];exact hF.cn⟩;subst d6;rw[(f6 rfl).2 ⟨by rw[fe];exact hF.pl.sd,by rw[fe];exact hF.en⟩]at hq;cases hq
  rw[ik]at hq;have h3:b5=true:=by simpa using hq.1
  have j3:l9=true:=by simpa using hq.2
  subst h3 j3;obtain⟨h6,h5⟩:=d6.1 rfl;obtain⟨i3,i2⟩:=(f6 rfl).1 rfl;rw[fe]at h6 h5 i3 i2;clear hq d6 f6;refine⟨es,c9.at1 (k:=5) (r:=[]) xR rfl,?_⟩;refine rn.up d1.max (λj w'=>AI w6 w'/\∀e∈x.sd.take j,∃(m:Nat) (y:BY),e.to=(m:Int)/\1<=m/\G[m]?=some y/\y.Y=e.Y) ⟨AI.refl _,(λ_ h=>by cases h)⟩ λj w7 m2 hj ⟨x7,hJ⟩ l5=>⟨λi7=>?_,λm0=>?_⟩
  .have a6:j<x.sd.length:=oM;obtain⟨j6,g9,_,i4⟩:=D4 d1 a6;have c8:=fm a6;have g0:x.sd.take (j+1)=x.sd.take j++[x.sd[j]]:=dz a6;have e3:=g5.Z x7;generalize x.sd[j]=e at*;refine⟨j6,⟨g9,oM,i7⟩,e.Y,e.to,by rw[fa];exact i4 _ e3,An.set rfl λa8 w8 x8 k8 _=>sh.drew λw9 x9=>?_⟩;have c7:=e3.Z (x8.Z x9);have c4:=k8.U x9;obtain⟨m,hm,j0⟩:∃m,m<G.length/\(0<=e.to/\e.to<(G.length:Int)->e.to=(m:Int)):=by
    by_cases hq:0<=e.to/\e.to<(G.length:Int)
    .exact⟨e.to.toNat,oM,λ_=>by omega⟩
    .exact⟨0,j8,λh=>fu h hq⟩
   obtain⟨f2,_,_,d5,_,_,_,d8⟩:=Ct h.g hm;have e6:((!(decide (e.to<1)||decide ((c.u.len:Int)<=e.to)))=true)->e.to=(m:Int)/\1<=m:=λhg=>by simp only[na,ik,ig]at hg;have:=j0 ⟨oM,oM⟩;exact⟨this,oM⟩
   refine⟨e.to,c4.at1 (k:=1) (r:=[]) xR rfl,py ⟨e.to,λ_=>c4.at1 (k:=1) (r:=[]) xR rfl,p,λ_=>rfl,c.u,λ_=>h.ld0 c7,py ⟨p,λ_=>rfl,c.u,λ_=>h.ld0 c7,e.to,λ_=>c4.at1 (k:=1) (r:=[]) xR rfl,f2,λhg=>⟨d5,by have:=(e6 hg).1;omega,by have:=(e6 hg).1;omega⟩,G[m].Y,λhg=>by rw[(e6 hg).1,fa];exact(d8 _ c7).pre rfl,e.Y,λ_=>c4.at0 xR rfl,λhq=>?_,λhq=>?_⟩⟩⟩
   .refine b4 w9 c7 λhF=>?_;obtain⟨m',y,q1,q2,q3,q4⟩:=hF.pl.yv e c8;have m6:=(ec.1 q3).1;have:m=m':=(by have:=j0 ⟨oM,oM⟩;omega);subst this;rw[dw hm]at q3;cases q3;rw[gl oM,gl oM,AA.2 q4]at hq;cases hq
   .rw[ik]at hq;obtain⟨g1,g2⟩:=e6 (by rw[hq.1];rfl);refine l5 a6 w9 ⟨x7.Z (x8.Z x9),λe' d0=>?_⟩;rw[g0]at d0;obtain d0|d0:=fj.1 d0
    .exact hJ e' d0
    .rw[eu.1 d0];exact⟨m,G[m],g1,g2,dw hm,AA.1 (by simpa using hq.2)⟩
  .have a6:j=x.sd.length:=oM;rw[a6,fe]at hJ;have e3:=g5.Z x7;refine⟨cs,c9.at1 (k:=4) x7 rfl,?_⟩;refine rn.up e5.max (λj w'=>AI w7 w'/\∀q∈x.uk.take j,∃y,Cr G x q.Y=some y/\y.v=q.v) ⟨AI.refl _,(λ_ h=>by cases h)⟩ λj w8 m3 hj ⟨x8,hK⟩ l6=>⟨λi9=>?_,λm1=>?_⟩
   .have a6:j<x.uk.length:=oM;obtain⟨f3,h2,_,_,i6⟩:=Dw e5 a6;have c8:=fm a6;have g0:x.uk.take (j+1)=x.uk.take j++[x.uk[j]]:=dz a6;have j5:=e3.Z x8;generalize x.uk[j]=q at*;refine⟨f3,⟨h2,oM,i9⟩,q.Y,q.v.ma,q.v.mi,q.v.pa,by rw[fa];exact i6 _ j5,An.set rfl λa9 w9 x9 c4 _=>⟨es,c9.at1 (k:=5) (r:=[]) (x7.Z (x8.Z x9)) rfl,?_⟩⟩;have c7:=j5.Z x9;refine Mu.V (Zd9 (q:=λe=>decide (e.Y=q.Y)) (d1.U c7) (λe he w' k x' hk=>⟨_,_,rfl,Zbx,O0.V ?_⟩) λm9 e8=>⟨_,rfl,sh.drew λg3 f0=>py ?_⟩)
    .unfold O0;refine An.intro λa4 w4 x4 k7 _ _=>⟨_,k7.at0 xR rfl,q.Y,c4.at0 (x'.Z x4) rfl,?_⟩;have:Ag e.Y q.Y=decide (e.Y=q.Y):=by rw[ij,AA,jl]
     rw[this];exact hk w4 x4
    have c3:=c7.Z (e8.Z f0);rcases Zee (λe:Edge=>decide (e.Y=q.Y)) x.sd with⟨e1,e2⟩|⟨k,hk,e1,e2⟩
    .rw[e1];refine⟨p,nO,c.u,nO,es,nO,f3,nO,0,nO,f3,nO,0,0,0,nO,0,0,0,nO,λ_=>b4 g3 c3 λhF=>?_,λhq=>?_⟩
     .obtain⟨y,q1,_⟩:=hF.pl.full q c8;rw[U4,e2]at q1;cases q1
     .exact fu hq sI
    .rw[e1];obtain⟨j7,h1,_,i5⟩:=D4 d1 hk;obtain⟨m,y,q1,q2,q3,q4⟩:=hJ _ (fm hk);have hm:=(ec.1 q3).1;obtain⟨f2,_,_,d5,_,_,_,d8⟩:=Ct h.g hm;rw[dw hm]at q3;cases q3;have h9:Cr G x q.Y=some G[m]:=by rw[U4,e2,nw,q1,fa];exact dw hm
     refine⟨p,λ_=>rfl,c.u,λ_=>h.ld0 c3,es,λ_=>c9.at1 (k:=5) (r:=[]) (x7.Z (x8.Z (x9.Z (e8.Z f0)))) rfl,j7,λ_=>⟨h1,oM,oM⟩,x.sd[k].to,λ_=>by rw[fa];exact(i5 _ c3).G (k:=1) (r:=[]) rfl,f2,λ_=>⟨d5,oM,oM⟩,G[m].v.ma,G[m].v.mi,G[m].v.pa,λ_=>by rw[q1,fa];exact(d8 _ c3).G (k:=1) rfl,q.v.ma,q.v.mi,q.v.pa,λ_=>c4.at1 (k:=1) (r:=[]) (e8.Z f0) rfl,?_⟩;have ev:((G[m].v.ma==q.v.ma)&&((G[m].v.mi==q.v.mi)&&((G[m].v.pa==q.v.pa)&&true)))=decide (G[m].v=q.v):=Jv;rw[ev,gl (show ¬((k:Int)<0) by omega)];refine⟨λhq=>b4 g3 c3 λhF=>?_,λhq=>l6 a6 g3 ⟨x8.Z (x9.Z (e8.Z f0)),λq' d2=>?_⟩⟩
     .obtain⟨y,r1,r2⟩:=hF.pl.full q c8;rw[h9]at r1;cases r1;rw[ie r2]at hq;cases hq
     .rw[g0]at d2;obtain d2|d2:=fj.1 d2
      .exact hK q' d2
      .rw[eu.1 d2];exact⟨_,h9,mh (by simpa using hq)⟩
   .have a6:j=x.uk.length:=oM;rw[a6,fe]at hK;exact hR true w8 (e3.Z x8) ⟨λ_=>⟨λh0=>⟨(d9 h0).1,by rw[g8 h0,(d9 h0).2]⟩,⟨λh0=>⟨pk,f7,f9 h0⟩,h6,i3,hJ,hK⟩,h5,i2⟩,λ_=>rfl⟩
 clear hJ;have c6:∀{w'},AI w1 w'->se w' (p.add 1) [c.ps.v]:=λx=>h.ld (x1.Z x) 1 rfl;have a0:∀{w'},AI w1 w'->se w' (b7.add ((i:Int).toNat*7)) [.string pk.Y,vi pk.v.ma,vi pk.v.mi,vi pk.v.pa,dP.v,eP.v,oP.v]:=λx=>by rw[fa];exact k9 _ (x1.Z x)
 have c5:c.ps.a=some b7/\(0:Int)<=(i:Int)/\(i:Int)<(c.ps.len:Int):=⟨k0,oM,oM⟩;have F:∀{n q:LP} {w':Qd},AI w1 w'->n.block≠q.block->w1.heap.size<=n.block->w1.heap.size<=q.block->∀{z1 z2 z3 z4 z5 z6 y1 y2 y3 y4 y5 y6 y7:HT},AT w' n [z1,z2,z3,z4,z5,z6]->AT w' q [y1,y2,y3,y4,y5,y6,y7]->∀K:Wp,(∀w2,AI w1 w2->rp w2 q [.string pk.Y,vi pk.v.ma,vi pk.v.mi,vi pk.v.pa,dP.v,eP.v,oP.v] (J n q)->K w2)->rp w' n [.string x.Y,vi x.v.ma,vi x.v.mi,vi x.v.pa,cs.v,es.v] K:=λ{n q w'} x' j1 hn hq {_ _ _ _ _ _ _ _ _ _ _ _ _} a5 b0 K hK=>by have s1:=x'.size;refine tj.intro a5 sI λw2 b2 z2 k5=>hK w2 (b2.U x' hn) (tj.intro (b2.box b0 (Ne.H j1)) sI λw3 b3 z3 k6=>key n q w3 (x1.Z (b3.U (b2.U x' hn) hq)) (b3.box k5 j1) k6)
 refine⟨p,rfl,c.u,h.ld0 x1,ad,⟨k4,oM,oM⟩,_,_,_,_,cs,es,by rw[fa];exact l0 _ x1,p,rfl,?_⟩;have N2:∀{w':Qd} {zs ys:LV} {t u:LN} {K:LP->Ä},AI w1 w'->(∀a b w2,AI w1 w2->w1.heap.size<=a.block->w1.heap.size<=b.block->a.block≠b.block->AT w2 a zs->AT w2 b ys->K a b w2)->An w' zs t λa w2=>An w2 ys u λb w3=>K a b w3:=λ{w' zs ys t u K} x' hK=>An.intro λa w2 x2 ha e4 _=>An.intro λb w3 x3 hb a7 _=>by have:=x'.size;have:=ha.lt;exact hK a b w3 (x'.Z (x2.Z x3)) oM oM oM (ha.U x3) hb
 have x0:AI w1 w1:=AI.refl _;refine⟨⟨c.ps,c6 x0,b7,c5,⟨_,_,_,_,dP,eP,oP,a0 x0,N2 x0 λa b w2 x2 k1 k2 k3 ha hb=>F x2 k3 k1 k2 ha hb _ λ_ _ h=>h,N2 x0 λa b w2 x2 k1 k2 k3 ha hb=>F x2 (Ne.H k3) k2 k1 hb ha _ λ_ _ h=>h⟩,?_,?_⟩,?_,?_⟩
 .refine An.intro λa w2 x2 ha e4 _=>⟨⟨_,_,_,_,dP,eP,oP,a0 x2,An.intro λb w3 x3 hb a7 _=>?_⟩,An.intro λb w3 x3 hb a7 _=>⟨⟨_,_,_,_,dP,eP,oP,a0 (x2.Z x3),?_⟩,?_⟩⟩
  all_goals have:=x2.size
  all_goals have:=ha.lt
  .exact F (x2.Z x3) oM oM oM (ha.U x3) hb _ λ_ _ h=>h
  .exact F (x2.Z x3) oM oM oM (ha.U x3) hb _ λ_ _ h=>h
  .exact F (x2.Z x3) oM oM oM (ha.U x3) hb _ λ_ x h=>⟨_,_,_,_,dP,eP,oP,a0 x,h⟩
 .refine An.intro λa w2 x2 ha e4 _=>⟨⟨_,_,_,_,dP,eP,oP,a0 x2,An.intro λb w3 x3 hb a7 _=>?_⟩,An.intro λb w3 x3 hb a7 _=>⟨⟨_,_,_,_,dP,eP,oP,a0 (x2.Z x3),?_⟩,?_⟩⟩
  all_goals have:=x2.size
  all_goals have:=ha.lt
  .exact F (x2.Z x3) oM oM oM hb (ha.U x3) _ λ_ _ h=>h
  .exact F (x2.Z x3) oM oM oM hb (ha.U x3) _ λ_ _ h=>h
  .exact F (x2.Z x3) oM oM oM hb (ha.U x3) _ λ_ x h=>⟨_,_,_,_,dP,eP,oP,a0 x,h⟩
 .refine An.intro λa w2 x2 ha e4 _=>⟨⟨c.ps,c6 x2,b7,c5,⟨_,_,_,_,dP,eP,oP,a0 x2,An.intro λb w3 x3 hb a7 _=>?_⟩,An.intro λb w3 x3 hb a7 _=>⟨⟨_,_,_,_,dP,eP,oP,a0 (x2.Z x3),?_⟩,?_⟩⟩,An.intro λb w3 x3 hb a7 _=>⟨⟨c.ps,c6 (x2.Z x3),b7,c5,⟨_,_,_,_,dP,eP,oP,a0 (x2.Z x3),?_⟩,?_⟩,?_⟩⟩
  all_goals have:=x2.size
  all_goals have:=ha.lt
  .exact F (x2.Z x3) oM oM oM (ha.U x3) hb _ λ_ _ h=>h
  .exact F (x2.Z x3) oM oM oM (ha.U x3) hb _ λ_ _ h=>h
  .exact F (x2.Z x3) oM oM oM (ha.U x3) hb _ λ_ x h=>⟨_,_,_,_,dP,eP,oP,a0 x,h⟩
  .exact F (x2.Z x3) oM oM oM (ha.U x3) hb _ λ_ _ h=>h
  .exact F (x2.Z x3) oM oM oM (ha.U x3) hb _ λ_ x h=>⟨_,_,_,_,dP,eP,oP,a0 x,h⟩
  .exact F (x2.Z x3) oM oM oM (ha.U x3) hb _ λ_ x h=>⟨c.ps,c6 x,b7,c5,_,_,_,_,dP,eP,oP,a0 x,h⟩
 .refine An.intro λa w2 x2 ha e4 _=>⟨⟨c.ps,c6 x2,b7,c5,⟨_,_,_,_,dP,eP,oP,a0 x2,An.intro λb w3 x3 hb a7 _=>?_⟩,An.intro λb w3 x3 hb a7 _=>⟨⟨_,_,_,_,dP,eP,oP,a0 (x2.Z x3),?_⟩,?_⟩⟩,An.intro λb w3 x3 hb a7 _=>⟨⟨c.ps,c6 (x2.Z x3),b7,c5,⟨_,_,_,_,dP,eP,oP,a0 (x2.Z x3),?_⟩,?_⟩,?_⟩⟩
  all_goals have:=x2.size
  all_goals have:=ha.lt
  .exact F (x2.Z x3) oM oM oM hb (ha.U x3) _ λ_ _ h=>h
  .exact F (x2.Z x3) oM oM oM hb (ha.U x3) _ λ_ _ h=>h
  .exact F (x2.Z x3) oM oM oM hb (ha.U x3) _ λ_ x h=>⟨_,_,_,_,dP,eP,oP,a0 x,h⟩
  .exact F (x2.Z x3) oM oM oM hb (ha.U x3) _ λ_ _ h=>h
  .exact F (x2.Z x3) oM oM oM hb (ha.U x3) _ λ_ x h=>⟨_,_,_,_,dP,eP,oP,a0 x,h⟩
  .exact F (x2.Z x3) oM oM oM hb (ha.U x3) _ λ_ x h=>⟨c.ps,c6 x,b7,c5,_,_,_,_,dP,eP,oP,a0 x,h⟩
def Zis(ht:Í w)(h:ħ BO w p S c G P tf s)(hR:∀(b:Bool) w',AI w w'->(b=true↔uh G P)->R b w'):LA (some p) w R:=by
 unfold LA;have a8:=h.g.len;have b0:=h.pk.len;have a5:∀w',AI w w'-> ¬uh G P->R false w':=λw' hx h=>hR false w' hx ⟨nO,λhf=>fu hf h⟩;refine⟨p,rfl,c.u,h.ld0 xR,py (py ⟨p,λ_=>rfl,c.ps,λ_=>h.ld xR 1 rfl,λhc=>a5 w xR λhF=>?_,λhc=>?_⟩)⟩
 .have h1:=hF.len;have h2:=hF.Xbb;rw[gl oM,gl oM,show((c.ps.len:Int)==(c.u.len:Int))=true by rw[ko];omega]at hc;cases hc
 simp only[ik,ig,qf,ko]at hc;have a0:0<G.length:=oM;have hP:P.length=G.length:=oM;refine rn.up h.g.max (λi w'=>AI w w'/\∀j (hj:j<G.length),j<i->š G P j G[j]) ⟨AI.refl _,λj _ h=>by omega⟩ λi w1 b2 hi ⟨x1,hI⟩ hn=>⟨λa9=>?_,λa7=>?_⟩
 .have a4:i<G.length:=oM;refine L8.V (Ziq (ht.U x1) (h.U x1) a4 hP λb w2 x2 hb=>⟨b,rfl,λhq=>a5 w2 (x1.Z x2) λhF=>?_,λhq=>hn a4 w2 ⟨x1.Z x2,λj hj a6=>?_⟩⟩)
  .rw[hb.2 (hF.Xc6 (dw a4))]at hq;cases hq
  .obtain h'|h':=iy.1 a6
   .exact hI j hj h'
   .subst h';exact hb.1 (by simpa using hq)
 .have a4:i=G.length:=oM;subst a4;refine hR true w1 x1 ⟨λ_=>⟨oM,hP,⟨G[0],dw a0,((hI 0 a0 a0).root rfl).1⟩,((hI 0 a0 a0).root rfl).2,λj y hy=>?_⟩,λ_=>rfl⟩;obtain⟨hj,rfl⟩:=ec.1 hy;exact(hI j hj hj).pl
end
def Zb3:Bi prog 65:=enters_of func65 kR rfl
def Zkh{x y:ŷ×tx}(hx:ð w S x)(hy:ð w S y):Calls prog 65 #[.agg (EL x.1).toArray,.agg (EL y.1).toArray] w λe w'=>e= .returned (vi (Ia x.2 y.2))/\AI w w':=by have h1:=hx.Of;have h2:=hy.Of;obtain⟨⟨ps,nm,ma,mi,pa,d,e,o,nd⟩,x⟩:=x;obtain⟨⟨a0,a8,a5,a6,a9,d',e',o',a7⟩,y⟩:=y;have h:si prog 65 [.agg #[ps.v,.string nm,vi ma,vi mi,vi pa,d.v,e.v,o.v,vi nd],.agg #[a0.v,.string a8,vi a5,vi a6,vi a9,d'.v,e'.v,o'.v,vi a7]] w (λv w'=>v= .int .i64 (Ia x y)/\AI w w'):=Ow.V (by refine An.intro λa w1 x1 hb _ _=>An.intro λa1 w2 x2 a4 _ _=>sh.drew λw3 x3=>⟨ps,hb.at0 (x2.Z x3) rfl,a0,a4.at0 x3 rfl,tc.intro (E5.V (HG (h1.U (x1.Z (x2.Z x3))) hx.2 λw4 x4=>⟨x4,_,rfl,E5.V (HG (h2.U (x1.Z (x2.Z (x3.Z x4)))) hy.2 λw5 x5=>⟨_,rfl,Fg ⟨_,rfl,rfl,x1.Z (x2.Z (x3.Z (x4.Z x5)))⟩⟩)⟩))⟩);exact Calls.O h λe w' ⟨v,he,hv,hg⟩=>⟨by rw[he,hv],hg⟩
def Ziv{S0:Nat->Prop}{u pks:Sl}{ol:Wd}{tf:Option (Θ)}{l1 l2:Int}{R:Sl->À}(ht:Í w)(hS:Old S0 w)(hg:IT ud w S0 u G)(i5:IT wq w S0 pks P)(f6:yu w S0 tf ol)(hz:0<P.length->P[0]?=some Ay)
  (hb:∀T,tf=some T->∀d∈T,d.Of.length<=4000000000000)
  (hR:∀c T t w',AI w w'->uw G P tf D M c T->IT vm w' (λb=>b<w'.heap.size) t T->R t c w'):Gw u pks l1 l2 D M ol w R:=by
 refine An.intro λa w1 x1 ha k4 _=>An.intro λa1 w2 x2 b2 j5 _=>An.intro λa3 w3 x3 b5 j6 _=>⟨D,b2.at1 (k:=2) x3 rfl,py ⟨D,λ_=>b2.at1 (k:=2) x3 rfl,py ⟨M,λ_=>b2.at1 (k:=3) (r:=[]) x3 rfl,py ⟨M,λ_=>b2.at1 (k:=3) (r:=[]) x3 rfl,λhc=>?_,λhc=>py ?_⟩⟩⟩⟩
 .have a6:=x1.Z (x2.Z x3);have d9: ¬Fu D M:=λ⟨h1,h2,h3,h4⟩=>by rw[gl oM,gl oM,gl oM,gl oM]at hc;cases hc
  exact tj.intro b5 sI λw4 b4 _ d6=>⟨Sl.nil,d6.se.pre (r:=[]) rfl,hR 1 [] Sl.nil w4 (b4.U a6 (by have:=x1.size;have:=x2.size;omega)) (.arg d9) (IT.nil trivial)⟩
 have b9:Fu D M:=by simp only[ik,ig]at hc;obtain⟨⟨⟨h2,h3⟩,h4⟩,h5⟩:=hc;exact⟨oM,oM,oM,oM⟩
 clear hc;have a6:=x1.Z (x2.Z x3);have s1:=x1.size;have s2:=x2.size;have s3:=x3.size;obtain⟨p0,t0,T0,i4,i9,g5,a5⟩:∃(p0:LP) (t0:Sl) (T0:Θ),((!Option.isNone ol)=true->ol=some p0)/\((!Option.isNone ol)=true->se w3 p0 [t0.v])/\((!Option.isNone ol)=true->IT vm w3 S0 t0 T0)/\(((!Option.isNone ol)=true/\tf=some T0)\/((!Option.isNone ol)=false/\tf=none)):=by
  rcases f6.ok with⟨rfl,h⟩|⟨ao,T,so,rfl,h2,h3,h4⟩
  .exact⟨⟨0,0,none⟩,Sl.nil,[],nO,nO,nO,.inr ⟨rfl,h⟩⟩
  .exact⟨ao,so,T,λ_=>rfl,λ_=>h3.U a6,λ_=>h4.U a6,.inl ⟨rfl,h2⟩⟩
 refine⟨p0,i4,t0,i9,No.named λJ hJ=>?_⟩;have c9:∀(e1:Int)(c7:Qd),AI w3 c7->((!Option.isNone ol)=true->e1=GX T0)->J e1 c7:=by
  subst hJ;intro e1 c7 b0 d1;have x0:=a6.Z b0;refine⟨λhc=>?_,λhc=>?_⟩
  .have d9: ¬HR tf:=λhO=>by
    rcases a5 with⟨h1,h2⟩|⟨h1,h2⟩
    .rw[h1,d1 h1,PO (hO T0 h2)]at hc;cases hc
    .rw[h1]at hc;cases hc
   exact tj.intro (b5.U b0) sI λw4 b4 _ d6=>⟨Sl.nil,d6.se.pre (r:=[]) rfl,hR 42 [] Sl.nil w4 (b4.U x0 oM) (.ï b9 d9) (IT.nil trivial)⟩
  have hO:HR tf:=λT hT=>by
   rcases a5 with⟨h1,h2⟩|⟨h1,h2⟩
   .rw[h1,d1 h1]at hc;rw[h2]at hT;cases hT;exact PP.1 (by simpa using hc)
   .rw[h2]at hT;cases hT
  clear hc d1;refine⟨u,ha.at0 (r:=[]) (x2.Z (x3.Z b0)) rfl,l1,l2,D,M,b2.at0 (r:=[]) (x3.Z b0) rfl,?_⟩;refine An.Xcf (E:=vm) (f:=λ_=> [Sl.nil.v,.string ⟨#[]⟩,vi 0,vi 0,vi 0,Sl.nil.v,Sl.nil.v,Sl.nil.v,vi 0]) (l:=[⟨[],Ay,0⟩]) (λx hx w S=>by rw[eu.1 hx];exact RE) rfl sI λc5 w4 x4 o4 g6=>An.intro λa4 w5 x5 f1 g7 j8=>?_;have e3:=b0.Z (x4.Z x5);have a7:=a6.Z e3;have m2:=b0.size;have s4:=x4.size;have s5:=x5.size;have l3:=b5.lt;have l8:=ha.lt;have m0:=f1.lt;have l9:c5.block<w4.heap.size:=(o4.block rfl).2.1;have eD:Ĭ.By.map (AB P)= [⟨[],Ay,0⟩]:=Zau hz;have g4:∀b,S0 b->b<w5.heap.size:=λb hb=>by have:=hS b hb;have:=a7.size;omega
  have oD:rl vm 61 w5 w.heap.size rz ⟨some c5,1,1⟩ (Ĭ.By.map (AB P)):=by rw[eD];exact rl.low (lo:=c7.heap.size) (o4.U x5) (by have:=x0.size;omega)
  have h0:ç BO 284 w5 w.heap.size a4 S0 ⟨u,pks,l1,l2,D,M,ol,⟨some c5,1,1⟩,Sl.nil⟩ G P tf Ĭ:=by have e8:∀b,S0 b->b<w.heap.size:=hS;refine⟨f1,oM,hg.U a7,i5.U a7,f6.U a7,g4,λh=>by have:=e8 _ h;omega,⟨rz,oD,(λh=>h),(λ_ h=>by cases h),(λ_ h=>h.F)⟩,rl.nil _ _,λad d4=>?_,(λad d4=>by cases d4),(λ_ _ _ h=>by cases h)⟩;cases d4;exact⟨oM,λh=>by have:=e8 _ h;omega⟩
  have f7:=h0.I (by show 1<=1000;decide) ⟨by show 0*32<=Ab;omega,by show 0<=maxLen;omega⟩;generalize c6:(⟨u,pks,l1,l2,D,M,ol,⟨some c5,1,1⟩,Sl.nil⟩:PC)=c0 at*;have k6:c0.l3=D:=by rw[<-c6]
  have k7:c0.l4=M:=by rw[<-c6]
  have c8:∀ad,c0.dr.a=some ad->a3.block<ad.block/\ad.block≠a4.block:=λad h=>by rw[<-c6]at h;cases h;exact⟨oM,oM⟩
  have g0:∀ad,c0.st.a=some ad->False:=λad h=>by rw[<-c6]at h;cases h
  refine LA.V (Zis (ht.U a7) f7 λb w7 x7 f2=>⟨b,rfl,λhq=>?_,λhq=>?_⟩)
  .have e2:=a7.Z x7;exact tj.intro (b5.U (e3.Z x7)) sI λw8 b8 _ g8=>⟨Sl.nil,g8.se.pre (r:=[]) rfl,hR 33 [] Sl.nil w8 (b8.U e2 oM) (.wy b9 hO λhp=>by rw[f2.2 hp]at hq;cases hq) (IT.nil trivial)⟩
  have a8:uh G P:=f2.1 (by simpa using hq);have h7:=a8.Ř;have s7:=x7.size;have h1:=h0.U x7;have e2:=a7.Z x7;have f0:=b5.U (e3.Z x7);generalize hI:Dc G P tf D M=I;have e5:I.g=G:=by rw[<-hI];rfl
  have k3:I.ĝ=D:=by rw[<-hI];rfl
  obtain⟨e4,d2,e6,e7⟩:=b9;have ry:∀{c w'},Mv w.heap.size a4 c0 w7 c w'->AI w w'/\AT w' a3 [Sl.nil.v]/\c.l3=D/\c.l4=M:=λ{c w'} m=>by refine⟨e2.A m.vd,m.box f0 oM (λad h=>by have:=c8 ad h;omega) (λad h=>(g0 ad h).F),?_,?_⟩<;>rw[m.same]<;>assumption
  have fin:∀{c w' c4 code T t},Mv w.heap.size a4 c0 w7 c w'->AI w' c4->uw G P tf D M code T->IT vm c4 (λb=>b<c4.heap.size/\b≠a3.block) t T->rp c4 a3 [t.v] λd0=>∃r:Sl,se d0 a3 [r.v]/\R r code d0:=λ{c w' c4 code T t} m x hP ht=>by obtain⟨k1,k2,_⟩:=ry m;exact tj.intro (k2.U x) sI λw3 b3 j0 d5=>⟨t,d5.se.pre (r:=[]) rfl,hR code T t w3 (b3.U (k1.Z x) oM) hP ((ht.J b3 λh=>h.2 rfl).O λb hb=>by have:=hb.1;have:=b3.1;omega)⟩
  refine rn.Î (λn g2 w1=>∃(a0:Nat) (c:PC) (s:vq),g2=(a0:Int)/\n=400 - a0/\ç BO 284 w1 w.heap.size a4 S0 c G P tf s/\Mv w.heap.size a4 c0 w7 c w1/\wz G s a0/\(∀u∈s.done,u.tz<a0)/\Ed I s/\s.done.length<=a0*128/\a0<=s.By.length/\∀code t,vg I a0 s code t->vg I 0 Ĭ code t) 400
   ⟨0,c0,Ĭ,rfl,rfl,h1,Mv.of xR h1.lo_le,wz.start h7.pos,(λu hu=>by cases hu),Sc oM,ga _,im _,λ_ _ h=>h⟩ λn g2 w8 m1 ⟨a0,c,s,hv,hn,h8,m8,d3,f9,f8,j7,k5,d8⟩ i2=>?_
  subst hv;have l6:s.By.length<=257:=by have:=f8.2;omega
  have k8:c.dr.len=s.By.length:=F6 (h8.I oM ⟨by show _*32<=Ab;unfold Ab;omega,by rw[Al];omega⟩);obtain⟨j4,j1,j2,j3⟩:=ry m8;refine⟨c.dr,h8.box.at1 (k:=7) xR rfl,λl0=>?_,λk9=>?_⟩
  .have a9:a0<s.By.length:=oM;have f4:tq s.By a0<G.length:=(by rw[ET (dw a9)];exact d3.rk _ (fm a9));have l5:(Cu I.g (tq s.By a0)).length<=128:=(by rw[We,e5];have:=a8.ö (tq s.By a0);have:=a8.len;omega);refine L7.V (Zip hI h8 a8 d3 a9 rfl f4 d2 oM j2 j3 f8 f9 (λc' w' s' c3 h' m'=>⟨0,rfl,λh=>fu rfl h,λ_=>?_⟩) λc' w' code t hc he m'=>⟨code,rfl,λ_=>fin (m8.Z m') xR (.stop ⟨e4,d2,e6,e7⟩ hO a8 (by rw[hI];exact d8 code t (.stop a9 he hc)) hc) (IT.nil trivial),λh=>fu hc h⟩);obtain⟨e9,_⟩:=c3.rk a9;have g9:=c3.cnt;have h6:=c3.done;have b7:=c3.inv;rw[e5]at b7;simp only[ip,lq]at g9;refine i2 (400 - (a0+1)) _ w' oM ⟨a0+1,c',s',?_,rfl,h',m8.Z m',b7.next,λu hu=>by have:=(b7.tz u hu).1;omega,c3.small,oM,e9,λcode t ht=>d8 code t (.next a9 h6 ht)⟩;rw[Ai oM oM];omega
  .have d7:vg I 0 Ĭ 0 s:=d8 0 s (.fin oM);obtain⟨DD,o,j9,k0,g3⟩:=h8.dr;have e0:∀d∈s.By,d.Of.length<=257:=λd hm=>(by obtain⟨i,hi⟩:=iw hm;have:=d3.Xbr i d hi;have:=(ec.1 hi).1;omega);refine⟨c.dr,h8.box.at1 (k:=7) xR rfl,?_⟩;refine Zk8 o h8.lo_le (by rw[eh];omega) (λd hd=>?_) Zb3 (λw' S' x y hx hy=>Zkh hx hy) λl' w2 hp hs vd yf i6=>⟨rfl,c.dr,?_,?_⟩
   .obtain⟨b,hb,rfl⟩:=gv.1 hd;have:=e0 b hb;show b.Of.length<=_;omega
   .have:AT w2 a4 c.c:=h8.box.ry (S:=λb=>∀ad,c.dr.a=some ad->b≠ad.block) (λad ha e=>(h8.drP ad ha).1 e.H) λb hb hl=>yf b hl hb;exact this.at1 (k:=7) xR rfl
   .have f3:∀ad,c.dr.a=some ad->a3.block≠ad.block:=λad ha=>by
     obtain q|q:=m8.dr ad ha
     .have:=(c8 ad q).1;omega
     .omega
    have g1:AT w2 a3 [Sl.nil.v]:=j1.ry (S:=λb=>∀ad,c.dr.a=some ad->b≠ad.block) f3 λb hb hl=>yf b hl hb;have i7:ze s.By (l'.map AF):=by
     refine⟨?_,?_⟩
     .have:=hp.map AF;rwa [Hr]at this
     .rwa [iv]
    have h9:(l'.map AF).map (AB P)=l':=by
     rw[jj]
     conv=>rhs;rw[<-List.map_id l']
     refine oh λx hx=>?_;obtain⟨b,_,rfl⟩:=gv.1 (hp.mem_iff.1 hx);show AB P (AF (AB P b))=_;rw[Uv];rfl
    have i3:uw G P tf D M 0 l':=by have:=uw.ok (tf:=tf) (D:=D) (M:=M) ⟨e4,d2,e6,e7⟩ hO a8 (by rwa [hI]) i7;rwa [h9]at this
    have l7:=Below.size vd;refine tj.intro g1 sI λw3 b3 j0 d5=>⟨c.dr,d5.se.pre (r:=[]) rfl,hR 0 l' c.dr w3 (b3.U (j4.A vd) oM) i3 ?_⟩;refine(i6.J b3 λhb=>?_).O λb hb=>?_
    .rcases hb with hb|⟨ad,ha,e⟩
     .obtain q|q:=g3 _ hb
      .have:=hS _ q;omega
      .omega
     .exact f3 ad ha e
    .have:=b3.1;rcases hb with hb|⟨ad,ha,rfl⟩
     .have:=o.lt b hb;omega
     .have:=(o.block ha).2.1;omega
 refine⟨λb6=>?_,λb6=>c9 0 w3 xR λh=>by rw[b6]at h;cases h⟩;refine Js.V (XE (ht.U a6) (g5 b6) (λd hd=>?_) λw4 x4=>⟨_,rfl,c9 _ w4 x4 λ_=>rfl⟩);rcases a5 with⟨_,h2⟩|⟨h1,_⟩
 .exact hb T0 h2 d hd
 .rw[h1]at b6;cases b6
def P0{a b c:Bool}(h:a=true->b=c):(a&&b)=(a&&c):=by
 cases a
 .rfl
 .rw[h rfl]
def È{n m:Int}(hR:R (decide (1<=n)&&decide (n<=m)) w):Hc n m w R:=py hR
def Xbp{P:Int}(hR:∀b w',AI w w'->(b=true↔Eb D N Di P)->R b w'):Kj D N Di P w R:=by refine An.intro λa w1 x1 ha _ _=>⟨D,ha.at0 xR rfl,Hc.V (È ⟨_,rfl,N,λ_=>ha.at1 (k:=1) xR rfl,?_⟩)⟩;refine No.intro (decide (1<=N)&&decide (N<=128)) (λ_ q hq=>Hc.V (È ⟨_,rfl,hq _ xR⟩)) λa6 w2 x2 a0=>py ⟨Di,λ_=>ha.at1 (k:=2) x2 rfl,?_⟩;refine No.intro (decide (1<=Di)&&decide (Di<=256)) (λ_ q hq=>Hc.V (È ⟨_,rfl,hq _ xR⟩)) λa7 w3 x3 a4=>py ⟨P,λ_=>ha.at1 (k:=3) (r:=[]) (x2.Z x3) rfl,?_⟩;refine No.intro (decide (1<=P)&&decide (P<=1024)) (λ_ q hq=>Hc.V (È ⟨_,rfl,hq _ xR⟩)) λa8 w4 x4 a5=>hR _ w4 (x1.Z (x2.Z (x3.Z x4))) ?_;rw[P0 a5,P0 a4,P0 a0];unfold Eb Fu;simp only[ep,fp,and_assoc]
structure PkC where
 nm:PU
 v:sq
 d:Sl
 e:Sl
 o:Sl
def CG(x:PkC):LV:=[.string x.nm,vi x.v.ma,vi x.v.mi,vi x.v.pa,x.d.v,x.e.v,x.o.v]
def Dx:PkC:=⟨⟨#[]⟩,⟨0,0,0⟩,Sl.nil,Sl.nil,Sl.nil⟩
def Zgb(n:Nat):(madeCells (Value.agg (CG Dx).toArray).cells (n*7))=(((List.replicate n Dx).map CG).flatten).toArray:=by
 have hf:∀x:PkC,(CG x).length=7:=λ_=>rfl;unfold madeCells;have hc:(Value.agg (CG Dx).toArray).cells=(CG Dx).toArray:=rfl;rw[hc];apply Array.U
 .simp[CO CG hf,hf]
 .intro i h1 h2;have hi:i<n*7:=by simpa using h1
  have hq:i/7<n:=oM;have hm:i%7<7:=Nat.mod_lt _ dC;simp only[Array.getElem_map,Array.getElem_range,List.getElem_toArray];have e:∀(n i:Nat),i<n*7->(((List.replicate n Dx).map CG).flatten)[i]?=(CG Dx)[i%7]? :=λn=>by
   induction n with
   |zero=>intro i h;omega
   |succ n ih=>
    intro i h;rw[rc,gu,js];by_cases hl:i<7
    .rw[fy (by rwa [hf]),Nat.mod_eq_of_lt hl]
    .rw[ic (by rw[hf];omega),hf,ih (i - 7) oM];congr 1;omega
  have e1:=e n i hi;have h7:(CG Dx).toArray.size=7:=rfl;rw[h7];rw[dw (by simpa using h2),dw (by rwa [hf]),ff]at e1;rw[e1,getElem!_pos _ _ (by rwa [h7])];rfl
def Zeh:(prog.info? 59).map (λi=>(i.zero,i.size,i.bytes))=some (some (.agg (CG Dx).toArray),7,112):=kR
def Zgd{R:Sl->Wp}(hn:n<=1000000000)(hR:∀g w',AI w w'->g=w.heap.size->tm CG w' g (List.replicate n Dx) []->R ⟨some ⟨g,0,none⟩,n,n⟩ w'):
  wx prog (Instr.makeSlice 22 (vi (n:Int)) (vi (n:Int))) w λv w'=>∃t:Sl,v=t.v/\R t w':=by
 obtain⟨i,h2,hi⟩:=jc.1 Zeh;simp only[Prod.mk.injEq]at hi;obtain⟨h3,h5,h6⟩:=hi;refine⟨_,_,run_make w 22 59 i (.agg (CG Dx).toArray) underlying22 h2 h3 .i64 .i64 n n oM (od _) (by rw[h6];omega) oM,⟨some ⟨w.heap.size,0,none⟩,n,n⟩,by simp[Sl.v],?_⟩;refine An.intro (cs:=((List.replicate n Dx).map CG).flatten++[]) (t:=59) (k:=λa w'=>R ⟨some a,n,n⟩ w') (λa w' hx hb ha hs=>?_) _ _ rfl ?_
 .have a4:=hb;obtain⟨t,h0,a0,_⟩:=a4;obtain⟨b,o,s⟩:=a;simp only at h0 a0 ha;subst h0 a0;exact hR b w' hx ha hb
 .rw[gz,<-Zgb,fa,h5]
def Zjc{α:Type}{c:Nat->α}{y:α}:((List.range n).map c).set i y=(List.range n).map λj=>if j=i then y else c j:=by
 apply pq sI;intro j h1 h2;rw[List.getElem_set,nx,nx,List.getElem_range];by_cases h:i=j
 .rw[fo h,fo h.H]
 .rw[fb h,fb λe=>h e.H]
def UA{SC S0:Nat->Prop}{cp:LP}{r:Nat}{u:Sl}{R:Sl->Wp}(b7:yz w SC cp r L)(hg:IT ud w S0 u G)(hG:G.length<=1000000000)
  (hR:∀t w',AI w w'->IT wq w' (λb=>w.heap.size<=b/\b<w'.heap.size) t (Cl L G)->R t w'):Ir u (some cp) w R:=by
 unfold Ir;have c6:=hg.len;refine An.intro λa w1 x1 ha _ _=>⟨u,ha.at0 (r:=[]) xR rfl,?_⟩;rw[c6];refine Zgd hG λg w2 x2 d4 a7=>⟨u,ha.at0 (r:=[]) x2 rfl,?_⟩;have d2:=x1.Z x2;have s1:=x1.size;have s2:=x2.size;have lg:=a7.lt;generalize b4:Cl L G=P at*;have c4:P.length=G.length:=by rw[<-b4,Wn]
 have b5:∀i (hi:i<G.length),P[i]?=some (if i=0 then Ay else getD L G[i].Y G[i].v):=λi hi=>by rw[<-b4];exact Wm hi
 let Q:Qd->Nat->Prop:=λw' b=>w.heap.size<=b/\b<w'.heap.size/\b≠g;refine rn.up hg.max (λi w'=>∃c:Nat->PkC,AI w w'/\w2.heap.size<=w'.heap.size/\tm CG w' g ((List.range G.length).map c) []/\∀j,j<G.length->wq.rep w' (Q w') (if j<i then P.getD j Ay else Ay) (CG (c j)))
  ⟨λ_=>Dx,d2,ga _,?_,λj _=>?_⟩ λi w3 d7 hi ⟨c,a4,d8,b0,a9⟩ hn=>⟨λc9=>join.named λJ hJ=>?_,λd5=>?_⟩
 .have:(List.range G.length).map (λ_=>Dx)=List.replicate G.length Dx:=by apply pq sI;intro j h1 h2;simp
  rwa [this]
 .rw[fb (Nat.not_lt_zero _)];exact Zof
 .have a0:i<G.length:=oM;obtain⟨ad,cs,es,c5,d6,_,_,c8⟩:=Ct (hg.U a4) a0;refine⟨ad,⟨c5,oM,c9⟩,_,_,_,_,cs,es,by rw[fa];exact c8 _ xR,An.set rfl λa6 w4 x4 h6 d3=>⟨λh0=>?_,λh0=>?_⟩⟩
  all_goals have s4:=x4.size
  .have a8: ¬i=0:=oM;refine⟨_,h6.at0 xR rfl,_,_,_,h6.at1 (k:=1) xR rfl,?_⟩;refine F1.V (JN (n:=G[i].Y) (v:=G[i].v) (b7.U (a4.Z x4)) λd e o w5 x5 hN hd he ho=>⟨_,_,_,_,d,e,o,_,rfl,⟨g,0,none⟩,⟨rfl,oM,by show(i:Int)<(G.length:Int);omega⟩,?_⟩);have s5:=x5.size;have b2:=x4.Z x5;have d0:=b0.U b2;rw[fa];refine d0.st (k:=7) (x:=⟨(getD L G[i].Y G[i].v).Y,(getD L G[i].Y G[i].v).v,d,e,o⟩) (λ_=>rfl) (by simpa using a0) λw6 b6 b9=>?_;rw[Zjc]at b9;rw[hJ];have z6:=b6.1;refine hn a0 w6 ⟨_,b6.U (a4.Z b2) oM,oM,b9,λj hj=>?_⟩;have c3:∀{p:sf} {cs:LV},wq.rep w5 (Q w5) p cs->wq.rep w6 (Q w6) p cs:=λh=>wq.O (wq.ry h (b6.ry λh=>h.2.2 rfl)) λb hb=>⟨hb.1,by have:=hb.2.1;omega,hb.2.2⟩;by_cases b8:j=i
   .subst b8;rw[fo rfl,fo (om _)];have:P.getD j Ay=getD L G[j].Y G[j].v:=by rw[jk,b5 j hj,fb a8];rfl
    rw[this];have up:∀{tt:Sl} {l:Ι},zn zx w5 (λb=>w4.heap.size<=b/\b<w5.heap.size) tt l->IT rq w5 (Q w5) tt l:=λh=>h.dep.O λb hb=>⟨oM,hb.2,oM⟩;exact c3 ⟨hN,d,e,o,rfl,up hd,up he,up ho⟩
   .rw[fb b8];have h1:wq.rep w5 (Q w5) _ (CG (c j)):=wq.O (wq.ry (a9 j hj) (b2.ry _)) λb hb=>⟨hb.1,by have:=hb.2.1;omega,hb.2.2⟩;have:=c3 h1;by_cases a5:j<i
    .rw[fo a5]at this;rwa [fo oM]
    .rw[fb a5]at this;rwa [fb oM]
  .have a8:i=0:=oM;rw[hJ];refine hn a0 w4 ⟨c,a4.Z x4,oM,b0.U x4,λj hj=>?_⟩;have h1:wq.rep w4 (Q w4) _ (CG (c j)):=wq.O (wq.ry (a9 j hj) (x4.ry _)) λb hb=>⟨hb.1,by have:=hb.2.1;omega,hb.2.2⟩;by_cases c7:j=0
   .subst c7 a8;rw[fb (Nat.lt_irrefl 0)]at h1;rw[fo (om _)];have:P.getD 0 Ay=Ay:=by rw[jk,b5 0 hj,fo rfl];rfl
    rwa [this]
   .rw[fb oM]at h1;rwa [fb oM]
 .have a0:i=G.length:=oM;subst a0;have hz:((List.range G.length).map λj=>(c j,P.getD j Ay)).map Prod.fst=(List.range G.length).map c:=by rw[jj];rfl
  have d1:((List.range G.length).map λj=>(c j,P.getD j Ay)).map Prod.snd=P:=by rw[jj];apply pq (by simp[c4]);intro j h1 h2;simp[dw h2]
  have:=tm.I (E:=wq) (S:=Q w3) (cap:=G.length) (z:=(List.range G.length).map λj=>(c j,P.getD j Ay)) (by rwa [hz]) (λ_=>rfl) (λp hp=>by obtain⟨j,hj,rfl⟩:=gv.1 hp;have hj:=ly.1 hj;have:=a9 j hj;rw[fo hj]at this;exact this) sI (by rw[Al];omega) (by simp;show _*112<=Ab;unfold Ab;omega);rw[d1]at this;simp only[eh,List.length_range]at this;refine hR _ w3 a4 (this.O λb hb=>?_);obtain hb|rfl:=hb
  .exact⟨hb.1,hb.2.1⟩
  .exact⟨oM,oM⟩
end Go.Hal
namespace Go.Hal
open Go.MapKept
def É:İ prog 82 I8 .nilFunc where
 und:=⟨3,80,underlying82,(λw=>kR),λk ⟨x,h⟩ e w=>by subst h;exact run_checkKey (d:=.int .i64) (k:=.int .i64 x) underlying3 rfl e 9999,λk ⟨x,h⟩ l hl w=>by
  subst h;rcases findNow_spec (d:=.int .i64) (k:=.int .i64 x) rfl l 0 (λy hy=>by obtain⟨t,ht⟩:=hl y hy;rw[ht];rfl)with⟨h1,h2⟩|⟨j,e,h1,h2,h3⟩
  .exact .inl ⟨h2,run_findKey underlying3 h1⟩
  .exact .inr ⟨j,e,h2,h3,run_findKey underlying3 (by rw[lu]at h1;exact h1)⟩⟩
 stay:=λk ⟨x,h⟩=>by subst h;exact sameBits_self (d:=.int .i64) (k:=.int .i64 x) rfl _
def fV(n:Pr):HT:=.func (.func n) #[] #[]
def Eh:List (HT×HT):=[(.int .i64 2,fV 48),(.int .i64 3,fV 49),(.int .i64 4,fV 50),(.int .i64 5,fV 51),(.int .i64 6,fV 52),(.int .i64 7,fV 53),(.int .i64 8,fV 54)]
def Xa2{R:Γ->Wp}(hR:∀r w',AI w w'->xv I8 w' r Eh->R (some r) w'):Kf w R:=by
 refine On (K:=I8) λr w1 x1 a0 h1=>⟨some r,rfl,?_⟩;have ne:∀{m:List (HT×HT)} {k:Int},(∀p∈m,∃i:Int,p.1= .int .i64 i/\i≠k)->∀p∈m,p.1≠Value.int .i64 k:=λh p hp e=>by obtain⟨i,h1,h2⟩:=h p hp;rw[h1]at e;cases e;exact h2 rfl
 have k0:∀i:Int,I8 (vi i):=λi=>⟨i,rfl⟩;refine Fl É h1 (k0 2) (ne sI) λw2 b2 _ h2=>Fl É h2 (k0 3) (ne sI) λw3 b3 _ h3=>Fl É h3 (k0 4) (ne sI) λw4 b4 _ h4=>Fl É h4 (k0 5) (ne sI) λw5 b5 _ h5=>Fl É h5 (k0 6) (ne sI) λw6 b6 _ h6=>Fl É h6 (k0 7) (ne sI) λw7 b7 _ h7=>Fl É h7 (k0 8) (ne sI) λw8 b8 _ h8=>?_;have b:ur r w1 w8:=b2.Z (b3.Z (b4.Z (b5.Z (b6.Z (b7.Z b8)))));exact hR r w8 (b.U x1 oM) h8
section
variable {s:è} {x:wg} {d e o v gS tS:Sl} {S:Nat->Prop} {w:Qd}
def Za2{r:Nat}{w0:Qd}{K:Ã}{J:HT->Bool->Prop}(hM:xv I8 w0 r Eh)(a9:AI w0 w)(hg:Gl w)(hn:Ac x.Y)(hm:za w S d e o v s.m)(hS:Old S w)(hl:J8 s.m)(a6:Ni s.m)(hG:IT ud w S gS s.g)(a5:s.g≠[])
  (a7:∀f,(x.op<2\/8<x.op)->C6 prog (Instr.lookup 82 (.map (some r)) (vi x.op) true) w0 (.tuple #[f,.bool false])->J f false)
  (a0:∀f,C6 prog (Instr.lookup 82 (.map (some r)) (vi x.op) true) w0 (.tuple #[f,.bool true])->(Fs s x S w (λd e o v p k pr c w'=>K (.tuple #[.agg #[d.v,e.v,o.v,v.v,p.v,.bool k,.bool pr],vi c]) w')->ug prog f [.agg #[d.v,e.v,o.v,v.v,gS.v,tS.v,.bool s.IN],.agg #[vi x.op,.string x.Y,.string x.range,vi x.ss,.string x.td,vi x.n]] w K)->J f true):
  ∃f ok,J f ok:=by
 have hk:I8 (vi x.op):=⟨_,rfl⟩;have a4:∀{g:Pr},(.int .i64 x.op,fV g)∈Eh->C6 prog (Instr.lookup 82 (.map (some r)) (vi x.op) true) w0 (.tuple #[fV g,.bool true]):=λh=>QR É hM hk h;by_cases a8:x.op<2\/8<x.op
 .refine⟨_,_,a7 .nilFunc a8 (ă É hM hk λp hp he=>?_)⟩;have:∃i:Int,p.1= .int .i64 i/\2<=i/\i<=8:=by unfold Eh at hp;simp only[gj,List.not_mem_nil,or_false]at hp;rcases hp with rfl|rfl|rfl|rfl|rfl|rfl|rfl<;>exact⟨_,rfl,by decide,by decide⟩
  obtain⟨i,h1,h2,h3⟩:=this;rw[h1]at he;injection he with _ he;omega
 .have h7:x.op=2\/x.op=3\/x.op=4\/x.op=5\/x.op=6\/x.op=7\/x.op=8:=oM;obtain h|h|h|h|h|h|h:=h7
  .exact⟨_,_,a0 (fV 48) (a4 (by rw[h];unfold Eh;simp)) λhK=>⟨_,_,rfl,enters_of func48 kR rfl,Kh.V (Zbg hm hS h hK)⟩⟩
  .exact⟨_,_,a0 (fV 49) (a4 (by rw[h];unfold Eh;simp)) λhK=>⟨_,_,rfl,enters_of func49 kR rfl,Ke.V (Za0 hg hn hm hS hl a6 hG a5 h hK)⟩⟩
  .exact⟨_,_,a0 (fV 50) (a4 (by rw[h];unfold Eh;simp)) λhK=>⟨_,_,rfl,enters_of func50 kR rfl,Km.V (Zcj hn hm hS hl hG a5 h hK)⟩⟩
  .exact⟨_,_,a0 (fV 51) (a4 (by rw[h];unfold Eh;simp)) λhK=>⟨_,_,rfl,enters_of func51 kR rfl,Kn.V (Zck hn hm hS hG a5 h hK)⟩⟩
  .exact⟨_,_,a0 (fV 52) (a4 (by rw[h];unfold Eh;simp)) λhK=>⟨_,_,rfl,enters_of func52 kR rfl,Kg.V (Za3 hm hS hG a5 h hK)⟩⟩
  .exact⟨_,_,a0 (fV 53) (a4 (by rw[h];unfold Eh;simp)) λhK=>⟨_,_,rfl,enters_of func53 kR rfl,Kl.V (Zcd hm hS hG a5 h hK)⟩⟩
  .exact⟨_,_,a0 (fV 54) (a4 (by rw[h];unfold Eh;simp)) λhK=>⟨_,_,rfl,enters_of func54 kR rfl,Kk.V (Zcc hg hn hm hS hl a6 hG a5 h hK)⟩⟩
end
abbrev DR:Type:=Sl->Sl->Sl->Sl->Sl->Sl->Bool->Int->Int->Int->À
def Yt(w:Qd)(a5 a7:LP)(R:DR):Prop:=∃(d e o v g t:Sl) (pr:Bool),se w a5 [d.v,e.v,o.v,v.v,g.v,t.v,.bool pr]/\∃(c n q r:Int),se w a7 [vi c,vi n,vi q,vi r]/\R d e o v g t pr c n q r w
def Ys(w:Qd)(a a5 a7:LP)(c:Int)(R:DR):Prop:=si prog 16 [vi c,.pointer (some a)] w λx w'=>∃(d e o v g t:Sl) (pr:Bool) (c1 n q r:Int),x= .tuple #[.agg #[d.v,e.v,o.v,v.v,g.v,t.v,.bool pr],.agg #[vi c1,vi n,vi q,vi r]]/\
 rp w' a5 [d.v,e.v,o.v,v.v,g.v,t.v,.bool pr] λw1=>rp w1 a7 [vi c1,vi n,vi q,vi r] λw2=>Yt w2 a5 a7 R
section
variable {s:è} {x:wg} {d e o v gS tS:Sl} {S:Nat->Prop} {w:Qd}
def UE{c:Int}{R:DR}(hS:Old S w)(hs:xx w S d e o v gS tS s)(ha:AT w a [d.v,e.v,o.v,v.v,gS.v,tS.v,.bool s.IN])
  (hR:∀d' e' o' v' g' t' w',AI w w'->xx w' (λb=>w.heap.size<=b/\b<w'.heap.size) d' e' o' v' g' t' s->R d' e' o' v' g' t' s.IN c 0 0 0 w'):Ip c a w R:=by
 refine An.intro λa1 w1 x1 h1 a4 _=>An.intro λa2 w2 x2 h2 a5 _=>⟨d,e,o,v,gS,tS,s.IN,ha.at0 (r:=[]) (x1.Z x2) rfl,?_⟩;have a0:=x1.Z x2;refine Lx.V (Zht (s:=s) (hS.U a0.size) (hs.U a0) λd' e' o' v' g' t' w3 x3 h3=>⟨d',e',o',v',g',t',s.IN,rfl,tj.intro (h1.U (x2.Z x3)) sI λw4 b4 _ h4=>tj.intro (b4.box (h2.U x3) (by have:=h1.lt;omega)) sI λw5 b5 _ h5=>?_⟩);have s1:=x1.size;have s2:=x2.size;have s3:=x3.size;have z4:=b4.1;have z5:=b5.1;have l1:=h1.lt;have l2:=h2.lt;refine⟨d',e',o',v',g',t',s.IN,(b5.box h4 oM).at0 (r:=[]) xR rfl,_,_,_,_,h5.at0 (r:=[]) xR rfl,hR d' e' o' v' g' t' w5 (b5.U (b4.U (a0.Z x3) oM) oM) ?_⟩;exact((h3.J b4 λh=>by omega).J b5 λh=>by omega).O λb hb=>by omega
def NG{SC:Nat->Prop}{cp:LP}{r:Nat}{P:Int}{R:DR}
  (hg:Gl w) (hn:Ac x.Y) (hS:Old S w) (hs:xx w S d e o v gS tS s) (e1:yz w SC cp r L) (hb:∀d∈s.T,d.Of.length<=4000000000000)
  (hR:∀(A:ō) (t:è) d' e' o' v' g' u' w',AI w w'->(∃rr,yo x.range rr/\đ L s x rr D N Di P A t)->xx w' (λb=>b<w'.heap.size) d' e' o' v' g' u' t->R d' e' o' v' g' u' t.IN A.code A.dec A.tn A.By w'):
  Ej d e o v gS tS s.IN (some cp) x.op x.Y x.range x.ss x.td x.n D N Di P w R:=by
 classical
 refine An.intro λa w1 x1 ha u2 _=>An.intro λa1 w2 x2 h1 t8 _=>An.intro λa3 w4 x4 h3 t9 _=>An.intro λa5 w6 x6 h5 u0 _=>An.intro λa7 w8 x8 h7 u1 _=>?_;have k6:=x4.Z (x6.Z x8);have f4:=x2.Z k6;have b0:=x1.Z f4;have s1:=x1.size;have s2:=x2.size;have s4:=x4.size;have s6:=x6.size;have s8:=x8.size;have ab:=ha.lt;have t1:=h1.lt;have t4:=h3.lt;have t5:=h5.lt;have t6:=h7.lt;obtain⟨r0,j6⟩:=yo.ex x.range;have nS:∀{b:Nat},w.heap.size<=b-> ¬S b:=λh hb=>by have:=hS _ hb;omega
 have refuse:∀{w':Qd} {c:Int},AI w8 w'->(∃rr,yo x.range rr/\đ L s x rr D N Di P ⟨c,0,0,0⟩ s)->Ys w' a a5 a7 c R:=λ{w' c} hx hd=>by have q:=hx.size;refine Ip.V (UE (hS.U (b0.Z hx).size) (hs.U (b0.Z hx)) (ha.U (f4.Z hx)) λd' e' o' v' g' t' w9 x9 h9=>⟨d',e',o',v',g',t',s.IN,c,0,0,0,rfl,?_⟩);have q9:=x9.size;refine tj.intro (h5.U (x8.Z (hx.Z x9))) sI λn4 g1 _ o7=>tj.intro (g1.box (h7.U (hx.Z x9)) oM) sI λn5 g2 _ o8=>?_;have v9:=g1.1;have w0:=g2.1;refine⟨d',e',o',v',g',t',s.IN,(g2.box o7 oM).at0 (r:=[]) xR rfl,c,0,0,0,o8.at0 (r:=[]) xR rfl,?_⟩;exact hR ⟨c,0,0,0⟩ s d' e' o' v' g' t' n5 (g2.U (g1.U ((b0.Z hx).Z x9) oM) oM) hd (((h9.J g1 λh=>by omega).J g2 λh=>by omega).O λb hb=>by omega)
 refine py ⟨D,N,Di,P,λ_=>(h3.U (x6.Z x8)).at0 (r:=[]) xR rfl,No.intro (decide (Eb D N Di P)) (λ_ k hk=>Kj.V (Xbp λb w' hx p5=>⟨b,rfl,?_⟩)) λv8 w9 x9 ht=>⟨λhc=>?_,λhc=>?_⟩⟩
 .have:b=decide (Eb D N Di P):=by rw[ij,p5,jl]
  rw[this];exact hk w' hx
 .have ht:=ht rfl;subst ht;exact refuse x9 ⟨r0,j6,.arg λhh=>by simp[hh.1]at hc⟩
 have ht:=ht rfl;subst ht;have c3:Eb D N Di P:=by simpa using hc
 clear hc;have h2:=b0.Z x9;have d6:=hs.U h2;refine⟨d,e,o,v,gS,tS,s.IN,(ha.U (f4.Z x9)).at0 (r:=[]) xR rfl,KL.V (Zc9 (m:=s.m) (T:=s.T) (g:=s.g) (pr:=s.IN) (hg.U h2).zu (hS.U h2.size) d6.m.d d6.m.e d6.m.o d6.m.v (hS.U h2.size) d6.t d6.g hb (λt l n4 k5 b8 _ _ _=>⟨_,_,rfl,λh=>fu rfl h,λ_=>sh.drew λn5 r6=>?_⟩) λn4 k5 p9=>⟨_,_,rfl,λ_=>refuse (x9.Z k5) ⟨r0,j6,.arg λh=>p9 h.2⟩,λh=>fu dC h⟩)⟩;have b8:Ì s:=b8;obtain⟨j5,m3⟩:=Zgg b8.Xc5;have p8:s.g≠[]:=λhh=>by have:=b8.lock.len.1;rw[hh]at this;simp at this
 obtain⟨q6,q3⟩:=uz.ex s.g;have f7:=x9.Z (k5.Z r6);have s9:=b0.Z f7;refine⟨x.op,(h1.U (k6.Z f7)).at0 xR rfl,tc.intro (Kf.V (Xa2 λrm n7 o5 hM=>⟨o5,some rm,rfl,?_⟩))⟩;have b7:=f7.Z o5;have f2:=b0.Z b7;have i4:=hs.U f2;have s3:=b7.size;refine Za2 (s:=s) (x:=x) (w:=n7) (S:=S) (J:=λf ok=>_) hM xR (hg.U f2) hn i4.m (hS.U f2.size) j5 m3 i4.g p8 (λf q1 j7=>⟨j7,λ_=>refuse b7 ⟨r0,j6,.ask (j:=B8) c3 b8 q3 (.op q1) dC⟩,nO⟩) λf j7 j4=>⟨j7,λh=>(by cases h),λ_=>⟨d,e,o,v,gS,tS,s.IN,(ha.U (f4.Z b7)).at0 (r:=[]) xR rfl,_,_,_,_,_,_,(h1.U (k6.Z b7)).at0 (r:=[]) xR rfl,j4 λc j d' e' o' v' pt k pr r2 o6 b6 m2=>⟨d',e',o',v',pt,k,pr,c,rfl,An.set rfl λt3 j8 h4 g3 r8=>⟨λhc=>?_,λhc=>?_⟩⟩⟩⟩
 all_goals
  obtain⟨OF,rr,g7,g8,b6⟩:=b6;have c7:=(b7.Z o6).Z h4
 .exact refuse c7 ⟨rr,g8,.ask c3 b8 g7 b6 hc⟩
 have g6:c=0:=jg hc;subst g6;obtain⟨k1,k2,k3,k4⟩:=m2 rfl;subst k3 k4;have u6:=o6.size;have u9:=h4.size;have s5:=c7.size;have i6:=b0.Z c7;let S2:=λb=>S b\/(n7.heap.size<=b/\b<r2.heap.size);have hO:Old S2 j8:=λb hb=>hb.F (λh=>by have:=hS b h;omega) λh=>by omega
 have e7:=k1.U h4;refine⟨d',e',o',v',g3.at0 xR rfl,j.IN,g3.at1 (k:=6) (r:=[]) xR rfl,pt,g3.at1 (k:=4) xR rfl,D,N,Di,P,(h3.U (x6.Z (x8.Z c7))).at0 (r:=[]) xR rfl,IY.V (Zkg (hg.U i6).zu hO (e1.U i6) e7.d e7.e e7.o e7.v (k2.U h4) λa0 n8 k7 m0=>⟨a0,_,_,rfl,An.set rfl λg0 f0 h6 g4 r9=>⟨λhc=>?_,λhc=>?_⟩⟩)⟩
 all_goals
  have c8:=(c7.Z k7).Z h6
 .exact refuse c8 ⟨rr,g8,.find c3 b8 g7 b6 hc⟩
 have g6:(A4 L j.m (!j.IN) j.OF D N).code=0:=jg hc;have v3:=h6.size;have v0:=k7.size;have s7:=c8.size;have o4:=b0.Z c8;have d3:AI j8 f0:=k7.Z h6;have e0:=g3.U d3;generalize a8:A4 L j.m (!j.IN) j.OF D N=rs at*;have m1:rs.ns.length<=1000000000:=by rw[<-a8];exact Zjs _ _ _ _ _ _
 have e4:IT ud f0 (λb=>j8.heap.size<=b/\b<n8.heap.size) a0 rs.ns:=m0.U h6;generalize e5:(if j.ry then some s.T else none)=d4;have p6:∀T,d4=some T->∀d∈T,d.Of.length<=4000000000000:=λT h=>by
  rw[<-e5]at h;split at h
  .cases h;exact hb
  .cases h
 refine join.named λJ hJ=>?_;have key:∀(tf:Wd),yu f0 (λb=>b<n8.heap.size) d4 tf->J tf f0:=by
  subst hJ;intro tf q0;refine join.named λJ2 l6=>sh.drew λf1 c5=>?_;have f8:=c8.Z c5;have f3:=b0.Z f8;have v4:=c5.size;have d9:se f1 g0 [a0.v]:=(g4.U c5).at0 (r:=[]) xR rfl;have e6:∀(c:Int)(T:Θ)(t:Sl)(d5:LP)(w':Qd),AI f1 w'->f1.heap.size<=d5.block->uw rs.ns (Cl L rs.ns) d4 Di P c T->IT vm w' (λb=>b<w'.heap.size) t T->AT w' d5 [t.v]->J2 c d5 w':=by
   subst l6;intro c T t d5 r3 k8 u3 c4 j3 l9;have i7:=f8.Z k8;refine⟨λhc=>refuse i7 ⟨rr,g8,.place c3 b8 g7 b6 (by rwa [a8]) (by rwa [a8,e5]) hc⟩,λhc=>?_⟩;have p7:c=0:=jg hc;subst p7;refine join.named λJ3 l7=>sh.drew λh0 d8=>?_;have i9:=i7.Z d8;have t0:=b0.Z i9;have b2:=c5.Z (k8.Z d8);have v5:=k8.size;have v6:=d8.size;have i3:Old S2 h0:=hO.U (d3.Z b2).size;have m6:=e7.U (d3.Z b2);have i5:∀(rv:LP)(d2 e2 o2 v2:Sl)(w':Qd),AI h0 w'->h0.heap.size<=rv.block->za w' (λb=>h0.heap.size<=b/\b<w'.heap.size/\b≠rv.block) d2 e2 o2 v2 j.m->AT w' rv [d2.v,e2.v,o2.v,v2.v,a0.v,t.v,.bool j.IN]->J3 rv w':=by
    subst l7;intro rv d2 e2 o2 v2 n9 b4 s0 e3 l8;refine join.named λJ4 p0=>sh.drew λb5 h8=>?_;have b9:=b4.Z h8;have f9:=i9.Z b9;have f6:=b2.Z b9;have m7:=b4.size;have v7:=h8.size;have q5:=h5.U (x8.Z f9);have q7:=h7.U f9;have u5:ľ b5 a5.block:=HJ q5 (by simp[Sl.v]) (.inr (by simp[Sl.v]));have u7:ľ b5 a7.block:=HJ q7 sI (.inl sI);have r1:=ML u7 (ML u5 (j3.U (d8.Z b9)));have q4:=e4.U f6;have nl:=e4.len;have tl:=j3.len;have hA:(⟨0,rs.dec,(a0.len:Int),Aa ((t.len:Int) - 1)⟩:ō)=⟨0,rs.dec,(rs.ns.length:Int),(T.length:Int) - 1⟩:=by have hm:=j3.max;rw[Al]at hm;rw[nl,tl,Ai oM oM]
    have fin:∀{wb wc:Qd},ur a5.block b5 wb->AT wb a5 [d2.v,e2.v,o2.v,v2.v,a0.v,t.v,.bool j.IN]->ur a7.block wb wc->AT wc a7 [vi 0,vi rs.dec,vi (a0.len:Int),.int .i64 (Aa ((t.len:Int) - 1))]->J4 wc:=by
     subst p0;intro wb wc bb kb bc kc;have zb:=bb.1;have zc:=bc.1;refine⟨_,_,_,_,_,_,_,(bc.box kb oM).at0 (r:=[]) xR rfl,_,_,_,_,kc.at0 (r:=[]) xR rfl,?_⟩;have hd:đ L s x rr D N Di P ⟨0,rs.dec,(a0.len:Int),Aa ((t.len:Int) - 1)⟩ ⟨j.m,rs.ns,T,j.IN⟩:=by rw[hA];have:=đ.ok (L:=L) (s:=s) c3 b8 g7 b6 (by rwa [a8]) (by rwa [a8,e5]);rw[a8]at this;exact this
     refine hR _ ⟨j.m,rs.ns,T,j.IN⟩ _ _ _ _ _ _ wc (bc.U (bb.U (b0.Z f9) oM) oM) ⟨rr,g8,hd⟩ ⟨?_,?_,?_⟩
     .exact(((e3.U h8).J bb λh=>by omega).J bc λh=>by omega).O λb hb=>by omega
     .exact((q4.J bb λh=>by omega).J bc λh=>by omega).O λb hb=>by omega
     .exact((r1.J bb λh=>h.1.2 rfl).J bc λh=>h.2 rfl).O λb hb=>by have h1:b<r3.heap.size:=hb.1.1;omega
    have m4:=g4.U f6;have m5:=l9.U (d8.Z b9);have t7:g0.block<f0.heap.size:=g4.lt;have n1:∀{wb:Qd},ur a5.block b5 wb->se wb g0 [a0.v]:=λb=>(b.box m4 oM).at0 (r:=[]) xR rfl;have n2:∀{wb:Qd},ur a5.block b5 wb->se wb d5 [t.v]:=λb=>(b.box m5 oM).at0 (r:=[]) xR rfl;have e8:∀{K:Wp},(∀wb,ur a5.block b5 wb->AT wb a5 [d2.v,e2.v,o2.v,v2.v,a0.v,t.v,.bool j.IN]->K wb)->rp b5 a5 [d2.v,e2.v,o2.v,v2.v,a0.v,t.v,.bool j.IN] K:=λhK=>tj.intro q5 sI λwb b _ hb=>hK wb b hb;have e9:∀{wb:Qd},ur a5.block b5 wb->AT wb a5 [d2.v,e2.v,o2.v,v2.v,a0.v,t.v,.bool j.IN]->rp wb a7 [vi 0,vi rs.dec,vi (a0.len:Int),.int .i64 (Aa ((t.len:Int) - 1))] λwc=>J4 wc:=λb hb=>tj.intro (b.box q7 oM) sI λwc bc _ hc=>fin b hb bc hc;have d9:se b5 g0 [a0.v]:=m4.at0 (r:=[]) xR rfl;have k9:se b5 d5 [t.v]:=m5.at0 (r:=[]) xR rfl;refine⟨d2,e2,o2,v2,a0,t,j.IN,(l8.U h8).at0 (r:=[]) xR rfl,?_⟩;refine⟨⟨a0,d9,⟨t,k9,e8 λwb b hb=>e9 b hb⟩,e8 λwb b hb=>⟨t,n2 b,e9 b hb⟩⟩,⟨t,k9,⟨a0,d9,e8 λwb b hb=>e9 b hb⟩,e8 λwb b hb=>⟨a0,n1 b,e9 b hb⟩⟩,e8 λwb b hb=>?_⟩;exact⟨a0,n1 b,t,n2 b,e9 b hb⟩
   clear l7;have l0:=e0.U b2;refine⟨d',e',o',v',l0.at0 xR rfl,a0,(g4.U b2).at0 (r:=[]) xR rfl,t,(l9.U d8).at0 (r:=[]) xR rfl,j.IN,l0.at1 (k:=6) (r:=[]) xR rfl,?_,?_⟩
   .refine tc.intro (Hv.V (Ą i3 m6 λd2 e2 o2 v2 n9 b4 e3=>⟨b4,d2,e2,o2,v2,rfl,An.set rfl λj0 o0 c6 g5 l5=>?_⟩));have q8:=c6.size;have m7:=b4.size;exact i5 j0 d2 e2 o2 v2 o0 (b4.Z c6) oM ((e3.U c6).O λb hb=>by omega) g5
   .refine An.intro λj0 o0 c6 g5 l5 _=>tc.intro (Hv.V (Ą (i3.U c6.size) (m6.U c6) λd2 e2 o2 v2 n9 b4 e3=>⟨b4,d2,e2,o2,v2,rfl,tj.intro (g5.U b4) sI λr4 j1 _ o9=>?_⟩));have q8:=c6.size;have m7:=b4.size;have w3:=j1.1;have u4:=g5.lt;exact i5 j0 d2 e2 o2 v2 r4 (j1.U (c6.Z b4) oM) oM ((e3.J j1 λh=>by omega).O λb hb=>by omega) o9
  clear l6;have pl:∀{w':Qd} {tp:Sl} {K:Sl->À},AI f1 w'->IT wq w' (λb=>f1.heap.size<=b/\b<w'.heap.size) tp (Cl L rs.ns)->(∀c T t g9,AI w' g9->uw rs.ns (Cl L rs.ns) d4 Di P c T->IT vm g9 (λb=>b<g9.heap.size) t T->K t c g9)->Gw a0 tp D N Di P tf w' K:=λ{w' tp K} hx hp hK=>by have q:=hx.size;refine Ziv (S0:=λb=>b<w'.heap.size) (hg.U (f3.Z hx)).zu (λb hb=>hb) ((e4.U (c5.Z hx)).O λb hb=>by omega) (hp.O λb hb=>hb.2) (yu.O (yu.U q0 (c5.Z hx)) λb hb=>by omega) (λh=>?_) p6 hK;rw[Wn]at h;rw[Wm h,fo rfl]
  refine⟨a0,d9,a0,d9,D,N,Di,P,(h3.U (x6.Z (x8.Z f8))).at0 (r:=[]) xR rfl,?_,?_⟩
  .refine tc.intro (Ir.V (UA (e1.U f3) (e4.U c5) m1 λtp r5 a6 hp=>⟨a6,tp,rfl,?_,?_⟩))
   .refine Gw.V (pl a6 hp λc T t d7 a9 c4 hT=>⟨t,c,rfl,An.set rfl λc9 j9 a4 d1 i2=>?_⟩);have m8:=a6.size;have m9:=a9.size;have n0:=a4.size;exact e6 c T t c9 j9 (a6.Z (a9.Z a4)) oM c4 ((hT.U a4).O λb hb=>by omega) d1
   .refine An.intro λc9 j9 a4 d1 i2 _=>Gw.V (pl (a6.Z a4) ((hp.U a4).O λb hb=>by have:=a4.size;omega) λc T t d7 a9 c4 hT=>⟨t,c,rfl,?_⟩);have m8:=a6.size;have m9:=a9.size;have n0:=a4.size;have u:ľ d7 c9.block:=HJ (d1.U a9) (by simp[Sl.v]) (.inl sI);refine tj.intro (d1.U a9) sI λk0 d0 _ j2=>?_;have r7:=d0.1;exact e6 c T t c9 k0 (d0.U (a6.Z (a4.Z a9)) oM) oM c4 (((ML u hT).J d0 λh=>h.2 rfl).O λb hb=>by have h1:b<d7.heap.size:=hb.1;omega) j2
  .refine An.intro λc9 j9 a4 d1 i2 _=>tc.intro (Ir.V (UA (e1.U (f3.Z a4)) (e4.U (c5.Z a4)) m1 λtp r5 a6 hp=>⟨a6,tp,rfl,?_⟩));refine Gw.V (pl (a4.Z a6) (hp.O λb hb=>by have:=a4.size;omega) λc T t d7 a9 c4 hT=>⟨t,c,rfl,?_⟩);have m8:=a6.size;have m9:=a9.size;have n0:=a4.size;have u:ľ d7 c9.block:=HJ (d1.U (a6.Z a9)) (by simp[Sl.v]) (.inl sI);refine tj.intro (d1.U (a6.Z a9)) sI λk0 d0 _ j2=>?_;have r7:=d0.1;exact e6 c T t c9 k0 (d0.U (a4.Z (a6.Z a9)) oM) oM c4 (((ML u hT).J d0 λh=>h.2 rfl).O λb hb=>by have h1:b<d7.heap.size:=hb.1;omega) j2
 clear hJ;have p4:=(ha.U (f4.Z c8));refine⟨j.ry,e0.at1 (k:=5) xR rfl,λhk=>key _ ?_,λhk=>key none ?_⟩
 .rw[<-e5,fo hk];exact⟨by show(a.add 5).block<_;rw[CY];omega,tS,p4.at1 (k:=5) xR rfl,((hs.U o4).t).O λb hb=>by have:=hS b hb;omega⟩
 .rw[<-e5,hk];trivial
end
def Tv:JC [42]= [[42]]:=by decide
def SJ:G8 [42]= [[42]]:=by decide
def Zjd:yi [42] [(0,999999999)]:=by
 refine⟨⟨by decide,λa ha=>?_⟩,?_,λn=>?_⟩
 .rw[Tv,eu]at ha;subst ha;refine⟨by rw[SJ];simp,λt ht=>?_⟩;rw[SJ,eu]at ht;subst ht;exact⟨_,.all⟩
 .simp[E3]
 .rw[Tv];constructor
  .intro h;have h:0<=n/\n<=999999999:=by simpa[Bf]using h
   refine⟨[42],eu.2 rfl,h.1,h.2,λt ht a ha=>?_⟩;rw[SJ,eu]at ht;subst ht;rwa [<-wj.one .all ha]
  .rintro⟨a,ha,h1,h2,_⟩;simp[Bf];omega
def Xap:yo ϫ (some (BU [(0,999999999)])):=.ok (l:=[(0,999999999)]) Zjd sI dC
def JV:tx:=⟨[],Ay,0⟩
def Ş:è:=⟨⟨[],[],[],[]⟩,[ta],[JV],false⟩
def Ė:wg:=⟨3,n11,⟨#[42]⟩,0,⟨#[]⟩,0⟩
def e21:Edge:=⟨n11,1⟩
def Hf:Ζ:=[⟨⟨#[]⟩,⟨0,0,0⟩,[],[e21]⟩,⟨n11,OU,[],[]⟩]
set_option maxRecDepth 100000 in
def VW:xz.ns=Hf:=by decide+kernel
def VY{α:Type}{x y:α}(h: [x][i]?=some y)(h0:i≠0):False:=by have:=(ec.1 h).1;simp at this;omega
def Xbm:vr [JV]:=⟨by decide,rfl,λi d h h0=>(VY h h0).F⟩
def Zhg:Ì Ş:=by
 refine⟨by decide+kernel,⟨by decide,⟨ta,rfl,rfl⟩,λi x hx h0=>(VY hx h0).F,λx hx=>?_⟩,⟨Xbm,⟨by decide,λx hx e he=>?_⟩,by decide+kernel,lw _ _⟩⟩
 .obtain rfl:=eu.1 hx;exact⟨List.Pairwise.nil,(λp hp=>nomatch hp),by decide,List.Pairwise.nil,(λe he=>nomatch he),by decide⟩
 .obtain rfl:=eu.1 hx;exact nomatch he
def Zid:uz Ş.g []:=⟨List.Pairwise.nil,λy=>by simp[Ş]⟩
def Zie:uh Hf [Ay,û]:=by
 refine⟨by decide,rfl,⟨_,rfl,rfl⟩,rfl,λi x hx=>?_⟩
 match i,hx with
 |0,hx=>cases hx;refine⟨λh=>fu rfl h,List.Pairwise.nil,lw _ _,λe he=>?_,(λq hq=>nomatch hq)⟩;obtain rfl:=eu.1 he;exact⟨1,_,rfl,by decide,rfl,rfl⟩
 |1,hx=>cases hx;exact⟨λ_=>⟨û,rfl,by decide+kernel,rfl,rfl⟩,List.Pairwise.nil,List.Pairwise.nil,(λe he=>nomatch he),(λq hq=>nomatch hq)⟩
 |i+2,hx=>exact fu (ec.1 hx).1 (by simp[Hf])
def i21:Ľ:=Dc Hf [Ay,û] (some [JV]) 9 99
def f21:vq:=⟨[⟨[],0⟩,⟨[n11],1⟩],[⟨0,n11,1⟩]⟩
def Za4:vh i21 Ĭ 0 e21 (A9 i21.g 0 e21) 0 f21:=by
 have hk:A9 i21.g 0 e21=2:=by decide+kernel
 rw[hk];have a0:Az Ĭ.By [n11]=none:=by decide+kernel
 exact .put 0 (λto h=>by
  have h1:=h.1;have h2:AG Ĭ.By (Ae Ĭ.By 0) e21.Y (Ae Ĭ.By 0).length=none:=by decide+kernel
  rw[h2]at h1;cases h1) dC (λ_=>⟨⟨im _,λk _ hk=>by
   have h0:k=0:=(by have:(Ae Ĭ.By 0).length=0:=rfl;omega);subst h0;exact a0,(λt ht=>nomatch ht)⟩,λm hm hl=>by
   have h0:m=0:=(by have:=hm.le;have:(Ae Ĭ.By 0).length=0:=rfl;omega);subst h0;exact hl,λm _ _=>im m⟩) nO (by decide+kernel) dC
def Zav:vg i21 0 Ĭ 0 f21:=by
 have o0:Cu i21.g (tq Ĭ.By 0)= [e21]:=by decide+kernel
 have o1:Cu i21.g (tq f21.By 1)=[]:=by decide+kernel
 refine .next (t:=f21) dC ?_ (.next (t:=f21) dC ?_ (.fin dC))
 .rw[o0];exact .cons Za4 (.nil _)
 .rw[o1];exact .nil _
def Zlh:ze f21.By f21.By:=⟨.refl _,by decide+kernel⟩
def Xa1:đ [û] Ş Ė (some (BU [(0,999999999)])) 9 9 9 99 ⟨0,1,2,1⟩ ⟨m11,Hf,f21.By.map (AB [Ay,û]),false⟩:=by
 have hm:Fx Ş.m Ė.ss ⟨Ė.Y,BU [(0,999999999)]⟩=m11:=by decide+kernel
 have hk:A4 [û] m11 true [] 9 9=xz:=rfl;obtain⟨k1,k2,k3,_,_⟩:=Zfe;have ha:wv Ş.m [] Ş.IN Ė (some (BU [(0,999999999)])) 0 ⟨m11,[],true,false⟩:=by have:=wv.add (m:=Ş.m) (OF:=[]) (IN:=false) (x:=Ė) (r:=some (BU [(0,999999999)])) rfl (by decide+kernel) rfl dC dC (by rw[hm];decide+kernel);rw[hm]at this;exact this
 have hp:Cl [û] Hf= [Ay,û]:=by decide+kernel
 have h:=đ.ok (L:=[û]) (D:=9) (N:=9) (Di:=9) (P:=99) (T:=f21.By.map (AB [Ay,û])) ⟨by decide,by decide,by decide,by decide,by decide,by decide,by decide,by decide⟩ Zhg Zid ha (by
  show(A4 [û] m11 true [] 9 9).code=0;rwa [hk]) (by
  show uw (A4 [û] m11 true [] 9 9).ns (Cl [û] (A4 [û] m11 true [] 9 9).ns) (some [JV]) 9 99 0 _;rw[hk,VW,hp];exact .ok ⟨by decide,by decide,by decide,by decide⟩ (λT hT=>by cases hT;exact Xbm) Zie Zav Zlh)
 have h:đ [û] Ş Ė (some (BU [(0,999999999)])) 9 9 9 99 ⟨0,(A4 [û] m11 true [] 9 9).dec,((A4 [û] m11 true [] 9 9).ns.length:Int),((f21.By.map (AB [Ay,û])).length:Int) - 1⟩ ⟨m11,(A4 [û] m11 true [] 9 9).ns,f21.By.map (AB [Ay,û]),false⟩:=h;rw[hk,k2,k3,VW]at h;exact h
def Emp(w:Qd)(g t:Sl):Prop:=xx w (λb=>b<w.heap.size) Sl.nil Sl.nil Sl.nil Sl.nil g t Ş
def Emp.U{w':Qd}(h:Emp w g t)(hx:AI w w'):Emp w' g t:=(xx.U h hx).O λb hb=>ju hb hx.size
def TR{SA:Nat->Prop}{sP sS:Sl}{P:Int}{lp:Κ}{R:Wd->Wd->Á}(ht:Í w)(hA:Old SA w)(hP:IT wq w SA sP lp)
  (hR:∀p r q w',AI w w'->Xar w' w.heap.size SA p r q (Dn lp)->R (some p) (some q) true w'):I0 sP D N Di P sS w R:=by
 unfold I0;have hl:=hP.len;refine An.intro λa w1 x1 ha _ _=>Ie.V (Xay λp r w2 x2 hC h1 h2=>⟨_,rfl,An.intro λq w3 x3 hq e8 _=>⟨nO,λ_=>?_⟩⟩);have e0:=x1.Z (x2.Z x3);have s1:=x1.size;have s2:=x2.size;have s3:=x3.size;have e6:=hC.lt;refine rn.up hP.max (λi w'=>AI w w'/\AT w' a [sP.v,vi D,vi N,vi Di,vi P,sS.v]/\a.block<w2.heap.size/\Xar w' w1.heap.size SA p r q (Dn (lp.take i)))
  ⟨e0,ha.U (x2.Z x3),by have:=ha.lt;omega,⟨rz,hC.U x3,λ_ h=>h.F,λh=>h⟩,⟨rz,⟨⟨Sl.nil,hq,IT.nil trivial⟩,λh=>h,λ_ h=>h.F,vl.nil⟩,λ_ h=>h.F,λh=>h⟩,⟨h1,h2,oM⟩,oM,oM⟩ λi w4 d9 hi ⟨x4,c9,d5,hB⟩ hn=>⟨sP,c9.se.pre (r:=[_,_,_,_,_]) rfl,λe4=>sh.drew λd4 xd=>?_,λe7=>?_⟩
 .have c4:i<lp.length:=oM;have a9:(i:Int)<(sP.len:Int):=oM;obtain⟨ad,d,e,o,c5,_,hN,hd,he,ho,hc⟩:=IV hP c4;have a0:=x4.Z xd;have a8:=c9.U xd;obtain⟨⟨S,b2,a6,c3⟩,⟨T,b4,a7,b7⟩,⟨d2,d0,d1⟩,b9,b0⟩:=hB.U xd;have e3:=b2.lt;have e5:q.block<d4.heap.size:=by obtain⟨s,hb,_⟩:=b4.at_;exact hb.lt
  have e9:=xd.size;have tail:∀(k:Ã),(∀w5 (_:AI w w5),AT w5 a [sP.v,vi D,vi N,vi Di,vi P,sS.v]->(∀k2:Ã,(∀w6,d9 (Aa ((i:Int)+1)) w6->k2 (.int .i64 (BF (Dn (lp.take i)) lp[i]).1) w6)->si prog 15 [.pointer (some q),.agg #[.string lp[i].Y,.int .i64 lp[i].v.ma,.int .i64 lp[i].v.mi,.int .i64 lp[i].v.pa,d.v,e.v,o.v]] w5 k2)->k (.int .i64 (BF (Dn (lp.take i)) lp[i]).1) w5)->
    si prog 14 [.pointer (some p),.agg #[.string lp[i].Y,.int .i64 lp[i].v.ma,.int .i64 lp[i].v.mi,.int .i64 lp[i].v.pa,d.v,e.v,o.v]] d4 k:=λk hk=>by
   refine Ic.V (Z3 (x:=lp[i]) (S2:=SA) (ht.U a0) b2 hN (hA.U a0.size) (hd.U a0) (he.U a0) (ho.U a0) λS' w5 b5 c6 hs d3=>?_);have x5:AI w w5:=b5.U a0 oM;have s5:=b5.1;have a5:=b5.box a8 oM;have c7:Đ w5 T q (Dn (lp.take i)):=b4.stay b5.1 λb hb a4=>b5.2.2.2.2 b hb (by
    obtain a4|rfl:=a4
    .rintro rfl;exact b7 a4
    .exact b0)
   have b8: ¬S' q.block:=λh=>by
    obtain h|h:=d3 _ h
    .exact c3 h
    .omega
   have e2:=c6.lt;have d8: ¬SA q.block:=λh=>(by have:=hA _ h;omega);refine hk w5 x5 a5 λk2 d6=>?_;refine KH.V (Zi6 (x:=lp[i]) (S2:=SA) c7 hN (hA.U x5.size) d8 (hd.U x5) (he.U x5) (ho.U x5) λw6 b6 c8=>d6 w6 (hn c4 w6 ?_));have x6:AI w w6:=b6.U x5 oM;have e1:Dn (lp.take (i+1))=(BF (Dn (lp.take i)) lp[i]).2:=(by rw[dz c4,Z2]);rw[e1];have s6:=b6.1;refine⟨x6,b6.box a5 oM,d5,⟨S',c6.stay b6.1 λb hb a4=>b6.2.2.2.2 b hb (by
    obtain a4|rfl|rfl:=a4
    .rintro rfl;exact b8 a4
    .exact Ne.H b9
    .exact Ne.H b0),λb hb=>?_,b8⟩,⟨_,c8,λb hb=>?_,λhb=>?_⟩,⟨d2,d0,d1⟩,b9,b0⟩
   .obtain h|h:=d3 b hb
    .exact a6 b h
    .omega
   .rcases hb with(hb|hb)|hb
    .exact a7 b hb
    .exact .inl hb
    .right;omega
   .rcases hb with(hb|hb)|hb
    .exact b7 hb
    .have:=hA _ hb;omega
    .omega
  clear hn;refine⟨sP,a8.se.pre rfl,ad,⟨c5,oM,a9⟩,_,_,_,_,_,_,_,(hc _ a0).pre rfl,?_,sP,a8.se.pre rfl,ad,⟨c5,oM,a9⟩,?_,_,_,_,_,_,_,_,(hc _ a0).pre rfl,?_⟩
  .refine tail _ λw5 x5 a5 hk=>⟨_,rfl,sP,a5.se.pre rfl,ad,⟨c5,oM,a9⟩,_,_,_,_,_,_,_,(hc _ x5).pre rfl,hk _ λw6 h6=>⟨_,rfl,λh=>fu rfl h,λ_=>h6⟩⟩
  .refine tail _ λw5 x5 a5 hk=>⟨_,rfl,_,_,_,_,_,_,_,(hc _ x5).pre rfl,hk _ λw6 h6=>⟨_,rfl,λh=>fu rfl h,λ_=>h6⟩⟩
  .refine tail _ λw5 x5 a5 hk=>⟨_,rfl,hk _ λw6 h6=>⟨_,rfl,λh=>fu rfl h,λ_=>h6⟩⟩
 .have:i=lp.length:=oM;rw[this,fe]at hB;refine hR p r q w4 x4 ?_;obtain⟨⟨S,b2,a6,c3⟩,⟨T,b4,a7,b7⟩,⟨d2,d0,d1⟩,d7⟩:=hB;exact⟨⟨S,b2,λb hb=>by have:=a6 b hb;omega,c3⟩,⟨T,b4,λb hb=>(a7 b hb).imp id λh=>by omega,b7⟩,⟨oM,oM,oM⟩,d7⟩
def ć{R:Sl->Sl->Sl->Sl->Sl->Sl->Á}(hR:∀g t w',AI w w'->Emp w' g t->R Sl.nil Sl.nil Sl.nil Sl.nil g t false w'):I6 w R:=by
 refine An.intro λa w1 x1 h1 a0 _=>An.intro λa2 w2 x2 h2 a4 _=>An.intro λa3 w3 x3 h3 a5 _=>?_;have s1:=x1.size;have s2:=x2.size;have s3:=x3.size;refine tj.intro (h1.U (x2.Z x3)) sI λw4 b4 a6 h4=>⟨_,_,_,_,_,_,_,h4.at0 (r:=[]) xR rfl,?_⟩;have l1:=h1.lt;have k2:=b4.box (h2.U x3) oM;have k3:=b4.box h3 oM;have l2:=k2.lt;have l3:=k3.lt;have hg:=JM (E:=ud) (S:=rz) (x:=ta) k2 ⟨by unfold Ac ta;rw[Al];decide,Sl.nil,Sl.nil,rfl,IT.nil trivial,IT.nil trivial⟩ dC;have ht:=JM (E:=vm) (S:=rz) (x:=JV) k3 RE dC;refine hR _ _ w4 (b4.U (x1.Z (x2.Z x3)) oM) ⟨⟨IT.nil trivial,IT.nil trivial,IT.nil trivial,IT.nil trivial⟩,hg.O λb hb=>?_,ht.O λb hb=>?_⟩
 .obtain hb|rfl:=hb
  .exact hb.F
  .exact l2
 .obtain hb|rfl:=hb
  .exact hb.F
  .exact l3
def Zbe{x:wg}{e v gS tS:Sl}{P:Int}{R:DR}(hS:Old S w)(hs:xx w S d e o v gS tS s)
  (hR:∀d' e' o' v' g' u' w',AI w w'->R d' e' o' v' g' u' s.IN 1 0 0 0 w'):Ej d e o v gS tS s.IN none x.op x.Y x.range x.ss x.td x.n D N Di P w R:=by
 refine An.intro λa w1 x1 ha c3 _=>An.intro λa1 w2 x2 h1 b6 _=>An.intro λa3 w4 x4 h3 b7 _=>An.intro λa5 w6 x6 h5 b8 _=>An.intro λa7 w8 x8 h7 b9 _=>?_;have a8:=x2.Z (x4.Z (x6.Z x8));have a6:=x1.Z a8;have s1:=x1.size;have s2:=x2.size;have s4:=x4.size;have s6:=x6.size;have s8:=x8.size;have b4:=h5.lt;have b5:=h7.lt;refine py ⟨D,N,Di,P,nO,No.no ⟨λ_=>?_,nO⟩⟩;refine Ip.V (UE (hS.U a6.size) (hs.U a6) (ha.U a8) λd' e' o' v' g' t' w9 x9 h9=>⟨d',e',o',v',g',t',s.IN,1,0,0,0,rfl,?_⟩);have q9:=x9.size;refine tj.intro (h5.U (x8.Z x9)) sI λc4 a0 _ a9=>tj.intro (a0.box (h7.U x9) oM) sI λb2 a4 _ b0=>?_;have c5:=a0.1;have c6:=a4.1;exact⟨d',e',o',v',g',t',s.IN,(a4.box a9 oM).at0 (r:=[]) xR rfl,1,0,0,0,b0.at0 (r:=[]) xR rfl,hR d' e' o' v' g' t' b2 (a4.U (a0.U (a6.Z x9) oM) oM)⟩
def Xbk:Ac n11:=by unfold Ac n11;rw[Al];decide
def t21:è:=⟨m11,Hf,f21.By.map (AB [Ay,û]),false⟩
def BW{w':Qd}{e v:Sl}(h:xx w (λb=>b<w.heap.size) d e o v g t s)(hx:AI w w'):xx w' (λb=>b<w'.heap.size) d e o v g t s:=(h.U hx).O λb hb=>ju hb hx.size
def xx.off{q:Nat}{e v:Sl}(hq:ľ w q)(h:xx w S d e o v g t s):xx w (EC S q) d e o v g t s:=⟨⟨HI hq h.m.d,HI hq h.m.e,HI hq h.m.o,HI hq h.m.v⟩,Zmw hq h.g,ML hq h.t⟩
def Cw{wB:Qd}{b:LP}{e v d0 e0 o0 v0 g0 t0:Sl}{p0:Bool}{st:è}{c1 c2 c3 c4 z1 z2 z3 z4:Int}{J:Wp}(x:AI wB w)(ha:AT w a [d0.v,e0.v,o0.v,v0.v,g0.v,t0.v,.bool p0])(hb:AT w b [vi z1,vi z2,vi z3,vi z4])
  (h1:wB.heap.size<=a.block) (h2:wB.heap.size<=b.block) (a0:a.block≠b.block) (hs:xx w (λb=>b<w.heap.size) d e o v g t st)
  (k:∀w',AI wB w'->AT w' a [d.v,e.v,o.v,v.v,g.v,t.v,.bool st.IN]->AT w' b [vi c1,vi c2,vi c3,vi c4]->xx w' (λb=>b<w'.heap.size) d e o v g t st->J w'):
  rp w a [d.v,e.v,o.v,v.v,g.v,t.v,.bool st.IN] λw1=>rp w1 b [vi c1,vi c2,vi c3,vi c4] J:=by
 have ua:ľ w a.block:=HJ ha (by simp[Sl.v]) (.inr (by simp[Sl.v]));have ub:ľ w b.block:=HJ hb sI (.inl sI);have h3:=(hs.off ua).off ub;refine tj.intro ha sI λw1 b1 a4 k1=>?_;have y1:=b1.U x h1;refine tj.intro (b1.box hb (λe=>a0 e.H)) sI λw2 b2 a5 k2=>?_;have q1:=b1.1;have q2:=b2.1;refine k w2 (b2.U y1 h2) (b2.box k1 a0) k2 (((h3.J b1 λh=>h.1.2 rfl).J b2 λh=>h.2 rfl).O λb hb=>?_);have:=hb.1.1;omega
def Vw(hg:Gl w)(hR:∀w',AI w w'->R true w'):I1 w R:=by
 refine An.intro λa w1 x1 ha l7 _=>An.intro λa1 w2 x2 g2 j2 _=>tj.intro g2 sI λw3 b3 l8 h3=>?_;have l1:=ha.lt;have l2:=g2.lt;have s1:=x1.size;have s2:=x2.size;have q3:=b3.1;have g5:AI w1 w3:=b3.U x2 oM;have k7:=x1.Z g5;have hp:=(JM (E:=wq) (S:=rz) (x:=û) ha ⟨Xbk,Sl.nil,Sl.nil,Sl.nil,rfl,IT.nil trivial,IT.nil trivial,IT.nil trivial⟩ dC).U g5;refine⟨_,_,_,_,_,_,h3.at0 (r:=[]) xR rfl,?_⟩;refine I0.V (TR (lp:=[û]) (hg.U k7).zu (λb hb=>?_) hp λp r q w4 x4 hB=>⟨_,_,_,rfl,nO,λ_=>An.intro λa5 w6 x6 h5 l6 _=>tj.intro h5 sI λw7 b7 l9 h7=>?_⟩)
 .obtain hb|rfl:=hb
  .exact hb.F
  .omega
 have e6:Dn [û]= [û]:=by have:=Zfb;exact this
 rw[e6]at hB;obtain⟨⟨SC,f1,_,_⟩,_⟩:=hB;have s4:=x4.size;have s6:=x6.size;have g6:AI w4 w7:=b7.U x6 oM;have g3:=(k7.Z x4).Z g6;have j4:=hg.U g3;have j3:=f1.U g6;have h7:AT w7 a5 [vi 9,vi 9,vi 9,vi 99]:=h7;clear ha l7 hp l1 l2 f1 h5 l6 g6 s1 s2 q3 s4 s6 x1 x2 x4 x6 b7 l9 e6 hg g2 j2 b3 l8 h3 g5;have b6:∀{wX:Qd} {K:Ã},(∀g t w',AI wX w'->Emp w' g t->wX.heap.size<=w'.heap.size->K (.agg #[Sl.nil.v,Sl.nil.v,Sl.nil.v,Sl.nil.v,Sl.v g,Sl.v t,.bool false]) w')->tc prog 7 [] wX K:=λhK=>tc.intro (I6.V (ć λg t w' x h=>⟨x,hK g t w' x h x.size⟩));obtain⟨T,eT,eD,a0⟩:∃T:è,T.T.length=2/\T.m.sj.length=1/\∀{wX:Qd} {g t:Sl} {K:Ã},AI w7 wX->Emp wX g t->(∀d e o v g' u w',AI wX w'->xx w' (λb=>b<w'.heap.size) d e o v g' u T->wX.heap.size<=w'.heap.size->K (.tuple #[.agg #[Sl.v d,Sl.v e,Sl.v o,Sl.v v,Sl.v g',Sl.v u,.bool T.IN],.agg #[vi 0,vi 1,vi 2,vi 1]]) w')->
   si prog 8 [.agg #[Sl.nil.v,Sl.nil.v,Sl.nil.v,Sl.nil.v,g.v,t.v,.bool false],.pointer (some p),.agg #[vi 3,.string (bm #[97]),.string ϫ,vi 0,.string Ϣ,vi 0],.agg #[vi 9,vi 9,vi 9,vi 99]] wX K:=by
  refine⟨t21,rfl,rfl,λ{wX g t K} x hE hK=>Ej.V (NG (s:=Ş) (x:=Ė) (S:=λb=>b<wX.heap.size) (j4.U x) Xbk (λb hb=>hb) hE (j3.U x) (λd hd=>by obtain rfl:=eu.1 hd;decide) λA t' d e o v g' u w' x' ⟨rr,hr,hd⟩ hs=>?_)⟩;obtain rfl:=Xap.one hr;obtain⟨rfl,rfl⟩:=Xa1.one hd;exact hK d e o v g' u w' x' hs x'.size
 clear j4 j3;refine join.named λJ1 j1=>?_;have k1:∀(vs a8:LP)(w9:Qd),AI w7 w9->(∃(d e o v g t:Sl),AT w9 vs [d.v,e.v,o.v,v.v,g.v,t.v,.bool T.IN]/\xx w9 (λb=>b<w9.heap.size) d e o v g t T)->AT w9 a8 [vi 0,vi 1,vi 2,vi 1]->J1 vs a8 w9:=by subst j1;intro vs a8 w9 x9 ⟨d,e,o,v,g,t,hv,hs⟩ h8;refine⟨_,_,_,_,_,_,_,hv.at0 (r:=[]) xR rfl,_,_,_,_,(h7.U x9).at0 (r:=[]) xR rfl,?_⟩;refine Ej.V (Zbe (s:=T) (x:=⟨0,bm #[],bm #[],0,bm #[],0⟩) (λb hb=>hb) hs λd' e' o' v' g' u' dp k8=>⟨_,_,_,_,_,_,_,_,_,_,_,rfl,?_⟩);refine An.intro λdi dq k9 g1 v3 _=>An.intro λdj dt g4 l5 v4 _=>tj.intro (g1.U g4) sI λdu g7 _ dk=>tj.intro (g7.box l5 (by have:=g1.lt;omega)) sI λk6 l0 _ m0=>?_;have dl:=g1.lt;have dm:=k8.size;have s11:=k9.size;have dn:=g4.size;have c7:AI w9 k6:=l0.U (g7.U (k8.Z (k9.Z g4)) oM) oM;refine⟨0,1,2,1,(h8.U c7).at0 (r:=[]) xR rfl,py ⟨t,λ_=>(hv.U c7).at1 (k:=5) xR rfl,py ⟨d,λ_=>(hv.U c7).at0 xR rfl,py ⟨1,λ_=>m0.at0 xR rfl,?_⟩⟩⟩⟩;have e1:t.len=2:=hs.t.len.Z eT;have e2:d.len=1:=hs.m.d.len.Z eD;have hr:=hR k6 (g3.Z (x9.Z c7));rwa [e1,e2]
 clear j1 hR;refine sh.drew λw8 x7=>⟨9,9,9,99,(h7.U x7).at0 (r:=[]) xR rfl,?_⟩;have s7:=x7.size;clear h7 g3;exact⟨(b6 λu6 z6 bc a4 b5 y0=>⟨_,_,_,_,_,_,_,rfl,⟨(a0 (x7.Z (a4)) (b5.U xR) λq7 r8 v5 an t5 ab bd f3 f2 y1=>⟨_,_,_,_,_,_,_,_,_,_,_,rfl,⟨(An.intro λm1 be f4 g8 o4 co=>(An.intro λm2 bf d0 g9 o5 cq=>(Cw (x7.Z (a4.Z (f3.Z (f4.Z (d0))))) (g8.U (d0)) (g9.U xR) oM oM oM (BW f2 (f4.Z (d0))) λw x ha hb hs=>k1 _ _ w x ⟨_,_,_,_,_,_,ha,hs⟩ hb))),(An.intro λm3 bg f6 h0 o6 cr=>(An.intro λm4 bh d1 h1 o7 ct=>(Cw (x7.Z (a4.Z (f3.Z (f6.Z (d1))))) (h1.U xR) (h0.U (d1)) oM oM oM (BW f2 (f6.Z (d1))) λw x ha hb hs=>k1 _ _ w x ⟨_,_,_,_,_,_,ha,hs⟩ hb)))⟩⟩),(An.intro λm5 bi a6 e7 o8 cu=>⟨(a0 (x7.Z (a4.Z (a6))) (b5.U (a6)) λq8 r9 v6 aq t6 ac bj f7 j5 y2=>⟨_,_,_,_,_,_,_,_,_,_,_,rfl,(An.intro λm6 bk d2 h2 o9 cv=>(Cw (x7.Z (a4.Z (a6.Z (f7.Z (d2))))) (e7.U (f7.Z (d2))) (h2.U xR) oM oM oM (BW j5 (d2)) λw x ha hb hs=>k1 _ _ w x ⟨_,_,_,_,_,_,ha,hs⟩ hb))⟩),(An.intro λm7 bl b8 h4 p0 cw=>(a0 (x7.Z (a4.Z (a6.Z (b8)))) (b5.U (a6.Z (b8))) λq9 s0 v7 ar t7 ae bm d3 j6 y3=>⟨_,_,_,_,_,_,_,_,_,_,_,rfl,(Cw (x7.Z (a4.Z (a6.Z (b8.Z (d3))))) (e7.U (b8.Z (d3))) (h4.U (d3)) oM oM oM (BW j6 xR) λw x ha hb hs=>k1 _ _ w x ⟨_,_,_,_,_,_,ha,hs⟩ hb)⟩))⟩),(An.intro λm8 bn a7 e8 p4 cx=>⟨(a0 (x7.Z (a4.Z (a7))) (b5.U (a7)) λr0 s3 v8 au t8 af bo f8 j7 y4=>⟨_,_,_,_,_,_,_,_,_,_,_,rfl,(An.intro λm9 bp d4 h6 p5 cy=>(Cw (x7.Z (a4.Z (a7.Z (f8.Z (d4))))) (h6.U xR) (e8.U (f8.Z (d4))) oM oM oM (BW j7 (d4)) λw x ha hb hs=>k1 _ _ w x ⟨_,_,_,_,_,_,ha,hs⟩ hb))⟩),(An.intro λn0 bq b9 h9 p6 cz=>(a0 (x7.Z (a4.Z (a7.Z (b9)))) (b5.U (a7.Z (b9))) λr1 s5 v9 av t9 ag br d5 j8 y5=>⟨_,_,_,_,_,_,_,_,_,_,_,rfl,(Cw (x7.Z (a4.Z (a7.Z (b9.Z (d5))))) (h9.U (d5)) (e8.U (b9.Z (d5))) oM oM oM (BW j8 xR) λw x ha hb hs=>k1 _ _ w x ⟨_,_,_,_,_,_,ha,hs⟩ hb)⟩))⟩)⟩⟩),(An.intro λn1 bs a9 c8 p7 da=>⟨(b6 λu7 z7 bu b0 e9 y6=>⟨_,_,_,_,_,_,_,rfl,⟨(a0 (x7.Z (a9.Z (b0))) (e9.U xR) λr2 s8 w0 aw u0 ah bv f9 j9 y7=>⟨_,_,_,_,_,_,_,_,_,_,_,rfl,(An.intro λn2 bw d6 i2 p8 db=>(Cw (x7.Z (a9.Z (b0.Z (f9.Z (d6))))) (c8.U (b0.Z (f9.Z (d6)))) (i2.U xR) oM oM oM (BW j9 (d6)) λw x ha hb hs=>k1 _ _ w x ⟨_,_,_,_,_,_,ha,hs⟩ hb))⟩),(An.intro λn4 bx c3 i3 p9 dc=>(a0 (x7.Z (a9.Z (b0.Z (c3)))) (e9.U (c3)) λr3 s9 w5 ax u1 ai bz d7 k0 y8=>⟨_,_,_,_,_,_,_,_,_,_,_,rfl,(Cw (x7.Z (a9.Z (b0.Z (c3.Z (d7))))) (c8.U (b0.Z (c3.Z (d7)))) (i3.U (d7)) oM oM oM (BW k0 xR) λw x ha hb hs=>k1 _ _ w x ⟨_,_,_,_,_,_,ha,hs⟩ hb)⟩))⟩⟩),(An.intro λn5 ca d8 i4 q0 dd=>(b6 λu9 z8 cb c4 i5 y9=>⟨_,_,_,_,_,_,_,rfl,(a0 (x7.Z (a9.Z (d8.Z (c4)))) (i5.U xR) λr4 t0 x0 ay u2 aj cc d9 k2 z0=>⟨_,_,_,_,_,_,_,_,_,_,_,rfl,(Cw (x7.Z (a9.Z (d8.Z (c4.Z (d9))))) (c8.U (d8.Z (c4.Z (d9)))) (i4.U (c4.Z (d9))) oM oM oM (BW k2 xR) λw x ha hb hs=>k1 _ _ w x ⟨_,_,_,_,_,_,ha,hs⟩ hb)⟩)⟩))⟩),(An.intro λn7 cd b2 c9 q1 de=>⟨(b6 λv0 z9 ce b4 f0 z1=>⟨_,_,_,_,_,_,_,rfl,⟨(a0 (x7.Z (b2.Z (b4))) (f0.U xR) λr5 t1 x3 az u3 ak cf g0 k3 z2=>⟨_,_,_,_,_,_,_,_,_,_,_,rfl,(An.intro λn8 cg e0 i6 q4 df=>(Cw (x7.Z (b2.Z (b4.Z (g0.Z (e0))))) (i6.U xR) (c9.U (b4.Z (g0.Z (e0)))) oM oM oM (BW k3 (e0)) λw x ha hb hs=>k1 _ _ w x ⟨_,_,_,_,_,_,ha,hs⟩ hb))⟩),(An.intro λn9 ci c5 i7 q5 dg=>(a0 (x7.Z (b2.Z (b4.Z (c5)))) (f0.U (c5)) λr6 t3 x5 ba u4 al cj e3 k4 z3=>⟨_,_,_,_,_,_,_,_,_,_,_,rfl,(Cw (x7.Z (b2.Z (b4.Z (c5.Z (e3))))) (i7.U (e3)) (c9.U (b4.Z (c5.Z (e3)))) oM oM oM (BW k4 xR) λw x ha hb hs=>k1 _ _ w x ⟨_,_,_,_,_,_,ha,hs⟩ hb)⟩))⟩⟩),(An.intro λo0 ck e4 i9 q6 dh=>(b6 λv2 aa cl c6 j0 z4=>⟨_,_,_,_,_,_,_,rfl,(a0 (x7.Z (b2.Z (e4.Z (c6)))) (j0.U xR) λr7 t4 x8 bb u5 am cm e5 k5 z5=>⟨_,_,_,_,_,_,_,_,_,_,_,rfl,(Cw (x7.Z (b2.Z (e4.Z (c6.Z (e5))))) (i9.U (c6.Z (e5))) (c9.U (e4.Z (c6.Z (e5)))) oM oM oM (BW k5 xR) λw x ha hb hs=>k1 _ _ w x ⟨_,_,_,_,_,_,ha,hs⟩ hb)⟩)⟩))⟩)⟩
end Go.Hal
namespace Go.Hal
def uw.short{tf:Option (Θ)}{c:Int}{T:Θ}(h:uw G P tf D M c T):∀d∈T,d.Of.length<=4000000000000:=by
 cases h with
 | @ok s es h1 h2 h3 h4 h5=>have hs:=vg.small h4 (Sc (I:=Dc G P tf D M) (by have:=h1.1;show(0:Int)<=D;omega));intro d hd;obtain⟨e,he,rfl⟩:=gv.1 hd;obtain⟨n,hI,_⟩:=vg.inv (Α:=Dc G P tf D M) h3.Ř h4 (wz.start h3.Ř.pos) å.start (λu hu=>by cases hu) (λi hi=>by omega) rfl;obtain⟨i,hi⟩:=iw (h5.1.mem_iff.1 he);have a1:=hI.Xbr i e hi;have a2:=(ec.1 hi).1;have a3:(s.By.length:Int)<=D+1:=hs.2;have a4:=h1.2.1;show e.Of.length<=_;omega
 |_=>intro d hd;cases hd
def đ.short{t:è}{x:wg}{P:Int}(h:đ L s x r D N Di P A t)(hb:∀d∈s.T,d.Of.length<=4000000000000):∀d∈t.T,d.Of.length<=4000000000000:=by
 cases h with
 |ok h1 h2 h3 h4 h5 h6=>exact h6.short
 |_=>exact hb
def Sn(x:wg):LV:=[vi x.op,.string x.Y,.string x.range,vi x.ss,.string x.td,vi x.n]
def MF:xh wg:=DS 6 72 Sn (λx=>Ac x.Y/\Ac x.range/\Ac x.td) (λ_=>rfl) (λ_ v hv=>by simp[Sn]at hv;rcases hv with rfl|rfl|rfl|rfl|rfl|rfl<;>rfl)
def Zl0{s:Sl}{l:List wg}(h:IT MF w S s l)(hn:n<l.length):∃ad,s.a=some ad/\(Ac l[n].Y/\Ac l[n].range/\Ac l[n].td)/\∀w',AI w w'->se w' (ad.add (n*6)) (Sn l[n]):=by obtain⟨ad,cs,h1,_,⟨rfl,hs⟩,h3⟩:=h.el hn;exact⟨ad,h1,hs,h3⟩
def Zkx:∀d∈Ş.T,d.Of.length<=4000000000000:=λd hd=>by obtain rfl:=eu.1 hd;decide
def Zmz{e v:Sl}{p:Bool}(h:AT w a [d.v,e.v,o.v,v.v,g.v,t.v,.bool p]):ľ w a.block:=HJ h (by simp[Sl.v]) (.inr (by simp[Sl.v]))
def Xm{e v d' e' o' v' g' t':Sl}{p:Bool}{st:è}{J:Wp}(ha:AT w a [d.v,e.v,o.v,v.v,g.v,t.v,.bool p])(hs:xx w (λb=>b<w.heap.size) d' e' o' v' g' t' st)
  (k:∀w',ur a.block w w'->AT w' a [d'.v,e'.v,o'.v,v'.v,g'.v,t'.v,.bool st.IN]->xx w' (λb=>b<w'.heap.size) d' e' o' v' g' t' st->J w'):rp w a [d'.v,e'.v,o'.v,v'.v,g'.v,t'.v,.bool st.IN] J:=by
 refine tj.intro ha sI λw1 b1 a0 k1=>k w1 b1 k1 (((hs.off (Zmz ha)).J b1 λh=>h.2 rfl).O λb hb=>?_);have:=hb.1;have:=b1.1;omega
def Zk5{m:vu}{uo:Bool}{OF:Η}{ns:Ζ}{t:Nat}(hG:vl L)(h:A4 L m uo OF D N= .done ns t):
  Sol ⟨L,m,uo,OF,D.toNat,N.toNat⟩ ns/\(ns.length:Int)<=N/\(t:Int)<=D/\∀j,j≠0->j<ns.length->∃i,i<j/\Ft ns i j:=by
 obtain⟨a4,hr⟩:=LW h;generalize hq:IS.mk L m uo OF D.toNat N.toNat=q at hr;have a0:q.L=L:=by rw[<-hq]
 have a5:q.m=m:=by rw[<-hq]
 have a6:q.D=D.toNat:=by rw[<-hq]
 have a7:q.N=N.toNat:=by rw[<-hq]
 have hw:=λns k=>Yc (q:=q) (by rwa [a0]) (by rw[a5];exact a4.1) ns k;have hf:=Me (q:=q) oM;rw[hr]at hf;obtain⟨_,f1,f2⟩:=hf;have hH:=Zd4 (q:=q) (by rwa [a0]) (λns k=>(hw ns k).1) oM hr;exact⟨hH.sol oM,oM,oM,λj h0 hj=>by obtain⟨i,_,h1,h2⟩:=hH.led j h0 hj;exact⟨i,h1,h2⟩⟩
def uw.Ý{tf:Option (Θ)}{T:Θ}(a0:C0 G)(h:uw G P tf D M 0 T):zd T G:=by
 generalize h0:(0:Int)=c at h;cases h with
 |arg=>cases h0
 |ï=>cases h0
 |wy=>cases h0
 |stop _ _ _ _ h=>exact fu h0.H h
 | @ok s es h1 h2 h3 h4 h5=>
  have hp:=vg.Ý (Α:=Dc G P tf D M) h3.Ř h4;have hs:=vg.small h4 (Sc (I:=Dc G P tf D M) (by have:=h1.1;show(0:Int)<=D;omega));have a4:=hp.ŕ h3;have a5:=h5.strict a4;have hD:(s.By.length:Int)<=D+1:=hs.2;have a6:=h1.2.1;have hM:=h1.2.2.2;obtain⟨hr,hT⟩:=hp.ï h3 h5 oM λd hd=>(hs.1 d hd).imp_right λh=>by have h:((A0 d.Of).length:Int)<=M:=h;omega
  refine⟨hT,a0,Zgu (hp.plT h3 h5.1 hr) a0,?_⟩;unfold vp;rw[iv];exact a5.imp λ{a b} h=>F4.1 h
def đ.Xda{t:è}{x:wg}{P:Int}(hG:vl L)(h:đ L s x r D N Di P A t)(h0:A.code=0):Ì s/\Ì t/\
  ∃(OF:Η) (j:yr) (tt:Nat),Eb D N Di P/\uz s.g OF/\wv s.m OF s.IN x r 0 j/\A4 L j.m (!j.IN) j.OF D N= .done t.g tt/\uw t.g (Cl L t.g) (if j.ry then some s.T else none) Di P 0 t.T/\t.m=j.m/\t.IN=j.IN/\A=⟨0,(tt:Int),(t.g.length:Int),(t.T.length:Int) - 1⟩:=by
 cases h with
 |arg=>cases h0
 |ask _ _ _ _ h=>exact fu h0 h
 |find _ _ _ _ h=>exact fu h0 h
 |place _ _ _ _ _ _ h=>exact fu h0 h
 | @ok OF j T h1 h2 h3 h4 h5 h6=>obtain⟨ns,tt,hr⟩:=Zax h5;rw[hr]at h6 ⊢;have h6:uw ns (Cl L ns) (if j.ry then some s.T else none) Di P 0 T:=h6;obtain⟨hS,_,_⟩:=Zk5 hG hr;exact⟨h2,⟨(LW hr).1.1,hS.lock hG hS.ö,h6.Ý hS.Xdi⟩,OF,j,tt,h1,h3,h4,hr,h6,rfl,rfl,rfl⟩
section
variable {Z:PU} {L L2:Κ}
variable {q:IS}
def XL{D:Nat}{k k':Option sq->Nat->Out}(h:∀o t,k' o t=k o t):∀(os:List (Option sq)) (t:Nat),AZ D k' os t=AZ D k os t
 | [],_=>rfl
 |o::os,t=>by
  rw[AZ,AZ,h];split
  .rfl
  .cases k o (t+1)with
   |fail t'=>exact XL h os t'
   |_=>rfl
end
end Go.Hal
namespace Go.Hal
def X3{L:Κ}{m:vu}{OF env:Η}{D N:Nat}:∀(l:Η),AU ⟨L,m,false,OF,D,N⟩ env l=AU ⟨L,m,true,OF,D,N⟩ env l
 | []=>rfl
 |p::r=>by unfold AU;rw[X3 r]
def Q9{L:Κ}{m:vu}{OF:Η}{D N:Nat}(hd:m.uo=[]):∀(f:Nat)(ns:Ζ)(k:Nat)(l:Ο)(e:Η)(t:Nat),IS.V ⟨L,m,false,OF,D,N⟩ f ns k l e t=IS.V ⟨L,m,true,OF,D,N⟩ f ns k l e t
 |0,_,_,_,_,_=>rfl
 |f+1,ns,k,[],e,t=>by
  have hb:IS.bind ⟨L,m,false,OF,D,N⟩ ns k e=IS.bind ⟨L,m,true,OF,D,N⟩ ns k e:=by unfold IS.bind;rw[X3]
  have hw:∀ns k,IS.sx ⟨L,m,false,OF,D,N⟩ ns k=IS.sx ⟨L,m,true,OF,D,N⟩ ns k:=λns k=>by unfold IS.sx MS Dy;simp[hd]
  rw[IS.V,IS.V,hb];cases IS.bind ⟨L,m,true,OF,D,N⟩ ns k e with
  |wy=>rfl
  |many=>rfl
  |ok ns'=>dsimp only;rw[hw,Q9 hd f]
 |f+1,ns,k,w::l,e,t=>by rw[IS.V,IS.V];exact XL (λo t=>Q9 hd f ns k l (B0 e w.Y o) t) _ t
def Zjt{m:vu}{OF:Η}(hd:m.uo=[]){ns:Ζ}{t:Nat}(h:A4 L m true OF D N= .done ns t):A4 L m false OF D N= .done ns t:=by
 obtain⟨a0,hr⟩:=LW h;rw[R9 a0];refine WA ?_;rw[<-hr];unfold IS.run;rw[Q9 hd];have:IS.sx ⟨L,m,false,OF,D.toNat,N.toNat⟩ [ta] 0=IS.sx ⟨L,m,true,OF,D.toNat,N.toNat⟩ [ta] 0:=by unfold IS.sx MS Dy;simp[hd]
 rw[this];rfl
def uw.again{T:Θ}(h:uw G P none D M 0 T)(hT:vr T):uw G P (some T) D M 0 T:=by
 generalize h0:(0:Int)=c at h;cases h with
 |arg=>cases h0
 |ï=>cases h0
 |wy=>cases h0
 |stop _ _ _ _ h=>exact fu h0.H h
 | @ok s es h1 h2 h3 h4 h5=>
  have hp:=vg.Ý (Α:=Dc G P none D M) h3.Ř h4;refine .ok h1 (λT' h=>by cases h;exact hT) h3 (vg.again (Α:=Dc G P none D M) (Γ:=Dc G P (some (es.map (AB P))) D M) ⟨rfl,rfl,rfl,rfl⟩ (λ_ _=>rfl) h4 rfl λd hd=>?_) h5;show Hq (some (es.map (AB P))) P d.Of d.rk=true;unfold Hq;dsimp only;rw[Hr];obtain⟨j,hj⟩:=Kw (ds:=es) ⟨d,h5.1.mem_iff.2 hd,rfl⟩;obtain⟨b,h6,h7⟩:=CN hj;have hb:=Ou hp.one hd (h5.1.mem_iff.1 (fx h6)) h7.H;subst hb;rw[hj];dsimp only;rw[gc,h6];have hn:d.rk<P.length:=by rw[h3.Xbb];exact hp.rk d hd
  simp[AB,jk,dw hn]
def Zem{t u:è}{x y:wg}{q:Option (Λ)}{P:Int}{B:ō}(hG:vl L)(hx:x.op=2)(h:đ L s x r D N Di P A t)(h0:A.code=0)
  (hy:y.op=2\/y.op=6\/(y.op=5/\y.Y=⟨#[]⟩)\/(y.op=7/\t.m.uo=[])) (k:đ L t y q D N Di P B u):B.code=0/\u.g=t.g/\u.T=t.T:=by
 obtain⟨_,a9,OF,j,tt,a8,_,a7,a0,a4,hm,a5,_⟩:=h.Xda hG h0;have hj:j=⟨s.m,[],false,false⟩:=((wv.ē (m:=s.m) (OF:=OF) (IN:=s.IN) (x:=x) (r:=r) hx).one a7).2 rfl |>.H;subst hj;dsimp only at a0 a4 hm a5;rw[<-hm]at a0;have a0:A4 L t.m true [] D N= .done t.g tt:=a0;have a4:uw t.g (Cl L t.g) none Di P 0 t.T:=a4;obtain⟨ps,b0⟩:=uz.ex t.g;obtain⟨t',hk,_⟩:=Zfc (P:=ps) hG (λy hy=>(b0.2 _).2 (gv.2 ⟨y,hy,rfl⟩)) a0;have a6:=a4.again a9.Ý.ï;have fin:∀{j:yr} {tt:Nat},wv t.m ps t.IN y q 0 j->A4 L j.m (!j.IN) j.OF D N= .done t.g tt->uw t.g (Cl L t.g) (if j.ry then some t.T else none) Di P 0 t.T->B.code=0/\u.g=t.g/\u.T=t.T:=λ{j tt} ha hr hp=>by have:=đ.ok (L:=L) (s:=t) (x:=y) (r:=q) (D:=D) (N:=N) (Di:=Di) (P:=P) (T:=t.T) a8 a9 b0 ha (by rw[hr];rfl) (by rwa [hr]);rw[hr]at this;obtain⟨e1,e2⟩:=k.one this;subst e1 e2;exact⟨rfl,rfl,rfl⟩
 rcases hy with hy|hy|⟨hy,hn⟩|⟨hy,hn⟩
 .exact fin (.ē hy) a0 a4
 .refine fin (tt:=t') (.Ŕ hy) ?_ a4;rwa [a5]
 .refine fin (tt:=tt) (.Š hy hn) ?_ a6;rwa [a5]
 .refine fin (tt:=t') (.prune hy) ?_ a6;exact Zjt hn hk
def Zhl(h:AT w a [vi 2,vi 6,vi 5,vi 7])(hi:i<4):∃op:Int,(op=2\/op=6\/op=5\/op=7)/\∀w',AI w w'->se w' (a.add (i*1)) [vi op]:=by
 match i,hi with
 |0,_=>exact⟨2,.inl rfl,λw' hx=>h.at1 (k:=0) hx rfl⟩
 |1,_=>exact⟨6,.inr (.inl rfl),λw' hx=>h.at1 (k:=1) hx rfl⟩
 |2,_=>exact⟨5,.inr (.inr (.inl rfl)),λw' hx=>h.at1 (k:=2) hx rfl⟩
 |3,_=>exact⟨7,.inr (.inr (.inr rfl)),λw' hx=>h.at1 (k:=3) hx rfl⟩
def Zbc{SA:Nat->Prop}{sP sS:Sl}{P:Int}{lp:Κ}{ls:List wg}(hg:Gl w)(hA:Old SA w)(hP:IT wq w SA sP lp)(hS:IT MF w SA sS ls)
  (hR:∀w',AI w w'->R true w'):K6 sP D N Di P sS w R:=by
 refine An.intro λa w1 x1 ha z6 _=>⟨_,_,_,_,_,_,ha.at0 (r:=[]) xR rfl,?_⟩;refine I0.V (TR (hg.U x1).zu (hA.U x1.size) (hP.U x1) λp r q w3 x3 hB=>⟨_,_,_,rfl,nO,λ_=>?_⟩);obtain⟨⟨SC,b2,_,_⟩,_⟩:=hB;have f9:=x1.Z x3;have al:=ha.lt;have q1:=x1.size;have q3:=x3.size;have s3:=hS.len;have k7:=Z1 lp;refine I6.V (ć λg0 t0 w4 x4 hE=>⟨_,_,_,_,_,_,_,rfl,An.intro λa5 w6 x6 h5 z5 _=>?_⟩);have q4:=x4.size;have q6:=x6.size;have l5:=h5.lt;refine Xm (st:=Ş) h5 (BW hE x6) λw7 b7 h8 i6=>?_;have m5:AI w3 w7:=b7.U (x4.Z x6) oM;refine rn.up hS.max (λ_ w'=>∃(s:è) (d e o v g t:Sl),AI w3 w'/\AT w' a5 [d.v,e.v,o.v,v.v,g.v,t.v,.bool s.IN]/\xx w' (λb=>b<w'.heap.size) d e o v g t s/\∀d∈s.T,d.Of.length<=4000000000000)
  ⟨Ş,_,_,_,_,_,_,m5,h8,i6,Zkx⟩ λi w8 m1 hi ⟨s,d,e,o,v,g,t,x8,h5,hs,d8⟩ hn=>⟨sS,ha.at1 (k:=5) (r:=[]) (x3.Z x8) rfl,λb8=>sh.drew λj8 a6=>?_,λ_=>?_⟩
 .have c4:i<ls.length:=oM;obtain⟨ad,k9,⟨sn,sr,sp⟩,hc⟩:=Zl0 hS c4;have a8:=x8.Z a6;have e8:=f9.Z a8;refine⟨_,_,_,_,_,_,_,(h5.U a6).at0 (r:=[]) xR rfl,sS,ha.at1 (k:=5) (r:=[]) (x3.Z a8) rfl,ad,⟨k9,oM,b8⟩,_,_,_,_,_,_,by rw[fa];exact hc _ e8,D,N,Di,P,ha.at1 (k:=1) (x3.Z a8) rfl,?_⟩;refine Ej.V (NG (s:=s) (x:=ls[i]) (S:=λb=>b<j8.heap.size) (hg.U e8) sn (λb hb=>hb) (BW hs a6) (b2.U a8) d8 λA t' d1 e1 o1 v1 g1 u1 ac j9 ⟨rr,z7,c3⟩ f7=>⟨_,_,_,_,_,_,_,_,_,_,_,rfl,?_⟩);exact Xm (h5.U (a6.Z j9)) f7 λm2 k2 k3 i4=>hn c4 m2 ⟨t',_,_,_,_,_,_,k2.U (a8.Z j9) oM,k3,i4,c3.short d8⟩
 have m4:=f9.Z x8;have q8:=x8.size;have l8:=h5.lt;refine⟨_,_,_,_,_,_,_,h5.at0 (r:=[]) xR rfl,D,N,Di,P,ha.at1 (k:=1) (x3.Z x8) rfl,?_⟩;refine Ej.V (NG (s:=s) (x:=⟨2,bm #[],bm #[],0,bm #[],0⟩) (S:=λb=>b<w8.heap.size) (hg.U m4) G5 (λb hb=>hb) hs (b2.U x8) d8 λA s' d1 e1 o1 v1 g1 u1 ae g4 ⟨rr,_,c3⟩ f7=>⟨_,_,_,_,_,_,_,_,_,_,_,rfl,An.intro λz4 af e3 k4 s0 _=>?_⟩);have z8:=g4.size;have z9:=e3.size;refine Cw (wB:=w3) (x8.Z (g4.Z e3)) (h5.U (g4.Z e3)) k4 oM oM oM (BW f7 e3) λag g5 k5 i9 a7=>?_;have c6:=f9.Z g5;refine⟨A.code,i9.at0 xR rfl,λ_=>?_,λhc=>?_⟩
 .exact I1.V (Vw (hg.U c6) λw9 x9=>⟨true,rfl,hR w9 (c6.Z x9)⟩)
 have l0:A.code=0:=jg hc;have i7:=c3.short d8;refine An.intro λg6 m3 k0 h6 s2 _=>?_;have c7:=c6.Z k0;refine rn.up (N:=4) (by rw[Al];omega) (λ_ w'=>AI m3 w') xR λi d9 m1 hi a9 hn=>⟨λb8=>?_,λ_=>I1.V (Vw (hg.U (c7.Z a9)) λw9 x9=>⟨true,rfl,hR w9 ((c7.Z a9).Z x9)⟩)⟩;have c4:i<4:=by have:(i:Int)<((4:Nat):Int):=b8;omega
 obtain⟨op,l7,f6⟩:=Zhl h6 c4;have a4:=k0.Z a9;have e9:=c7.Z a9;refine join.named λJ0 h9=>?_;have c5:∀w',AI d9 w'->J0 w':=by subst h9;intro w' hx;exact hn c4 w' (a9.Z hx)
 clear h9 hn hR;refine⟨g6,⟨rfl,oM,b8⟩,op,by rw[fa];exact f6 _ a9,py ⟨e1,λ_=>(k5.U a4).at1 (k:=1) xR rfl,λ_=>c5 d9 xR,λhb=>?_⟩⟩;have i3:op=7->s'.m.uo=[]:=λh7=>by have hl:=a7.m.e.len;rw[h7]at hb;simp at hb;exact fq oM
 have hy:(⟨op,bm #[],bm #[],0,bm #[],0⟩:wg).op=2\/(⟨op,bm #[],bm #[],0,bm #[],0⟩:wg).op=6\/((⟨op,bm #[],bm #[],0,bm #[],0⟩:wg).op=5/\(⟨op,bm #[],bm #[],0,bm #[],0⟩:wg).Y=⟨#[]⟩)\/((⟨op,bm #[],bm #[],0,bm #[],0⟩:wg).op=7/\s'.m.uo=[]):=by
  obtain h|h|h|h:=l7
  .exact .inl h
  .exact .inr (.inl h)
  .exact .inr (.inr (.inl ⟨h,rfl⟩))
  .exact .inr (.inr (.inr ⟨h,i3 h⟩))
 generalize m0:(⟨op,bm #[],bm #[],0,bm #[],0⟩:wg)=y at hy;refine join.named λJ1 i2=>?_;have k1:∀(B:ō)(u:è)(vs va:LP)(w9:Qd),AI d9 w9->(∃q,đ (Dn lp) s' y q D N Di P B u)->(∃d e o v g t,AT w9 vs [Sl.v d,Sl.v e,Sl.v o,Sl.v v,Sl.v g,Sl.v t,.bool u.IN]/\xx w9 (λb=>b<w9.heap.size) d e o v g t u)->AT w9 va [vi B.code,vi B.dec,vi B.tn,vi B.By]->J1 vs va w9:=by
  subst i2;intro B u vs va w9 x9 ⟨q,l6⟩ ⟨d2,e2,o2,v2,g2,u2,hv,i5⟩ l9;obtain⟨b0,bg,bT⟩:=Zem k7 rfl c3 l0 hy l6;have b6:=a4.Z x9;have k8:IT vm w9 (λb=>b<w9.heap.size) u2 s'.T:=by rw[<-bT];exact i5.t
  have k6:IT ud w9 (λb=>b<w9.heap.size) g2 s'.g:=by rw[<-bg];exact i5.g
  refine⟨u1,(k5.U b6).at1 (k:=5) xR rfl,u2,hv.at1 (k:=5) xR rfl,?_⟩;refine KJ.V (Zi8 (a7.t.U b6) k8 λj8 a6=>⟨true,rfl,B.code,(l9.U a6).at0 xR rfl,py (py ?_)⟩);have e0:((!(B.code==0))|| !true)=false:=by rw[b0];rfl
  rw[e0];refine⟨g1,λ_=>(k5.U (b6.Z a6)).at1 (k:=4) xR rfl,g2,λ_=>(hv.U a6).at1 (k:=4) xR rfl,?_⟩;refine No.intro true (λ_ k hk=>K4.V (Zdo (a7.g.U (b6.Z a6)) (k6.U a6) λf8 g3=>⟨_,rfl,by rw[ie rfl];exact hk f8 g3⟩)) λt f8 g3 ht=>⟨λhc=>?_,λ_=>c5 f8 (x9.Z (a6.Z g3))⟩;rw[ht rfl]at hc;cases hc
 clear i2 c5;have b9:∀{wX:Qd} {K:Ã},AI d9 wX->(∀B u d e o v g t w',AI wX w'->(∃q,đ (Dn lp) s' y q D N Di P B u)->xx w' (λb=>b<w'.heap.size) d e o v g t u->wX.heap.size<=w'.heap.size->K (.tuple #[.agg #[Sl.v d,Sl.v e,Sl.v o,Sl.v v,Sl.v g,Sl.v t,.bool u.IN],.agg #[vi B.code,vi B.dec,vi B.tn,vi B.By]]) w')->
   si prog 8 [.agg #[d1.v,e1.v,o1.v,v1.v,g1.v,u1.v,.bool s'.IN],.pointer (some p),.agg #[vi op,.string Ϣ,.string Ϣ,vi 0,.string Ϣ,vi 0],.agg #[vi D,vi N,vi Di,vi P]] wX K:=λ{wX K} x hK=>by
  subst m0;exact Ej.V (NG (s:=s') (x:=⟨op,bm #[],bm #[],0,bm #[],0⟩) (S:=λb=>b<wX.heap.size) (hg.U (e9.Z x)) G5 (λb hb=>hb) (BW a7 (a4.Z x)) (b2.U (g5.Z (a4.Z x))) i7 λB u d e o v g t w' x' ⟨q,_,hd⟩ hs=>hK B u d e o v g t w' x' ⟨q,hd⟩ hs x'.size)
 have aa:=e9.size;refine sh.drew λah a0=>⟨_,_,_,_,_,_,_,(k5.U (a4.Z a0)).at0 (r:=[]) xR rfl,g6,⟨rfl,oM,b8⟩,op,by rw[fa];exact f6 _ (a9.Z a0),D,N,Di,P,ha.at1 (k:=1) (x3.Z (g5.Z (a4.Z a0))) rfl,?_⟩;have ab:=a0.size;clear c3 a7 k5 i9 b8 f6 h6 ha h5 hs hE h8 i6 b2 hP hS hg hA;exact⟨(b9 (a0) λm6 t6 p9 r0 s4 u9 r5 u3 v6 f0 e7 e6 s9=>⟨_,_,_,_,_,_,_,_,_,_,_,rfl,⟨(An.intro λn1 v7 f1 g7 o6 y4=>(An.intro λn2 v8 c8 g8 o7 y5=>(Cw (a0.Z (f0.Z (f1.Z (c8)))) (g7.U (c8)) (g8.U xR) oM oM oM (BW e6 (f1.Z (c8))) λw x ha hb hs=>k1 _ _ _ _ w x e7 ⟨_,_,_,_,_,_,ha,hs⟩ hb))),(An.intro λn4 v9 f2 g9 o8 y6=>(An.intro λn5 w0 c9 h0 o9 y7=>(Cw (a0.Z (f0.Z (f2.Z (c9)))) (h0.U xR) (g9.U (c9)) oM oM oM (BW e6 (f2.Z (c9))) λw x ha hb hs=>k1 _ _ _ _ w x e7 ⟨_,_,_,_,_,_,ha,hs⟩ hb)))⟩⟩),(An.intro λn7 w2 b4 e4 p0 y8=>⟨(b9 (a0.Z (b4)) λm7 t7 q0 r1 s5 v0 r6 u4 w5 f3 j4 j0 t1=>⟨_,_,_,_,_,_,_,_,_,_,_,rfl,(An.intro λn8 x0 d0 h1 p4 y9=>(Cw (a0.Z (b4.Z (f3.Z (d0)))) (e4.U (f3.Z (d0))) (h1.U xR) oM oM oM (BW j0 (d0)) λw x ha hb hs=>k1 _ _ _ _ w x j4 ⟨_,_,_,_,_,_,ha,hs⟩ hb))⟩),(An.intro λn9 x2 d3 h2 p5 z0=>(b9 (a0.Z (b4.Z (d3))) λm8 t8 q5 r2 s6 v3 r7 u5 x5 d4 j5 j1 t3=>⟨_,_,_,_,_,_,_,_,_,_,_,rfl,(Cw (a0.Z (b4.Z (d3.Z (d4)))) (e4.U (d3.Z (d4))) (h2.U (d4)) oM oM oM (BW j1 xR) λw x ha hb hs=>k1 _ _ _ _ w x j5 ⟨_,_,_,_,_,_,ha,hs⟩ hb)⟩))⟩),(An.intro λo0 x7 b5 e5 p6 z1=>⟨(b9 (a0.Z (b5)) λm9 t9 q7 r3 s7 v4 r8 u6 y0 f4 j6 j2 t4=>⟨_,_,_,_,_,_,_,_,_,_,_,rfl,(An.intro λo4 y1 d5 h3 p7 z2=>(Cw (a0.Z (b5.Z (f4.Z (d5)))) (h3.U xR) (e5.U (f4.Z (d5))) oM oM oM (BW j2 (d5)) λw x ha hb hs=>k1 _ _ _ _ w x j6 ⟨_,_,_,_,_,_,ha,hs⟩ hb))⟩),(An.intro λo5 y2 d6 h4 p8 z3=>(b9 (a0.Z (b5.Z (d6))) λn0 u0 q9 r4 s8 v5 r9 u7 y3 d7 j7 j3 t5=>⟨_,_,_,_,_,_,_,_,_,_,_,rfl,(Cw (a0.Z (b5.Z (d6.Z (d7)))) (h4.U (d7)) (e5.U (d6.Z (d7))) oM oM oM (BW j3 xR) λw x ha hb hs=>k1 _ _ _ _ w x j7 ⟨_,_,_,_,_,_,ha,hs⟩ hb)⟩))⟩)⟩
open Go.ChangeShapes Go.WideShapes Go.ChangeAt Go.Proofs.YtgolaibmophnjaaGreatDoor
section
variable {H:Type} {W:Qd} {enc:LN×HT->H}
def Zjf{cs:LV}{x:DataW H×List MemPlace}(h1:Tr enc prog W n 24 cs x)(w1:small (x.1.weights prog 24)):
  ∃a b c d:Int,cs= [vi a,vi b,vi c,vi d]:=by
 have hl:=H1 underlying24 h1;have hc:prog.cellsOf 24=4:=kR;rw[hc]at hl;obtain⟨z0,k0,g0,v0⟩:=B9 underlying24 h1 w1 0 3 0 1 ⟨_,rfl,rfl,rfl⟩ kR;obtain⟨z1,k1,g1,v1⟩:=B9 underlying24 h1 w1 1 3 1 1 ⟨_,rfl,rfl,rfl⟩ kR;obtain⟨z2,k2,g2,v2⟩:=B9 underlying24 h1 w1 2 3 2 1 ⟨_,rfl,rfl,rfl⟩ kR;obtain⟨z3,k3,g3,v3⟩:=B9 underlying24 h1 w1 3 3 3 1 ⟨_,rfl,rfl,rfl⟩ kR;obtain⟨a,f0⟩:=EX g0;obtain⟨b,f1⟩:=EX g1;obtain⟨c,f2⟩:=EX g2;obtain⟨d,f3⟩:=EX g3
 match cs,hl with
 | [c1,c2,c3,c4],_=>simp at f0 f1 f2 f3;exact⟨a,b,c,d,by rw[f0,f1,f2,f3]⟩
end
def Zen{P:LD}{g:Nat}{t:LN}{k:IntKind}{zero:Δ}(h:w.ShapedOpen P)(hg:g<P.globals.size)
  (h0:((begin P (λ_ _=>0) default).world.heap[g]?).bind Obj.row? =some (zero,t)) (hz:zero.size=1)
  (hb:P.buildable t=true) (hc:P.cellTypes P.depth t=some [t]) (hu:P.underlying t=some (.int k)):∃n,w.cell? ⟨g,0,none⟩=some (.int k n):=by
 obtain⟨cs,hh,hs,hr⟩:=h.1 g zero t hg h0;obtain⟨ts,a6,_,a5⟩:=hr hb;rw[hc]at a6;cases a6;have h1:0<cs.size:=oM;obtain⟨u,a7,a0⟩:=a5 0 cs[0] (by simp[h1]);have:u=t:=by simpa using a7.H
 subst this;have a4:w.cell? ⟨g,0,none⟩=some cs[0]:=by simp[World.cell?,hh,h1]
 rw[a4];unfold Cell.ok at a0;rw[hu]at a0;cases hv:cs[0]<;>rw[hv]at a0<;>first|(obtain⟨rfl,_⟩:=a0;exact⟨_,rfl⟩)|simp at a0
def gMx:prog.globals.size>0/\((begin prog (λ_ _=>0) default).world.heap[0]?).bind Obj.row? =some (#[vi 0],3)/\prog.buildable 3=true/\prog.cellTypes prog.depth 3=some [3]/\prog.underlying 3=some (.int .i64):=
 ⟨mh kR,kR,kR,kR,kR⟩
def UF{P:LD}{n nm:String}{text:LU}{r:List (String×DataW Unit)}{W:Qd}{g:Nat}
  (h:laidMet P ((n,.iface nm (.ptr (.agg [.lit (.string text)])))::r) W) (hg:P.globalNamed n=some g) {ti tp te ts:LN} {ms:Array (String×LN)} {f:Field}
  (ht:(P.globals[g]?).map (·.type)=some ti) (hi:P.underlying ti=some (.interface ms)) (a0:∀u,P.typeName? 3 u=some nm->u=tp)
  (hp:P.underlying tp=some (.pointer te)) (he:P.underlying te=some (.struct #[f])) (a6:f.type=ts) (a5:f.offset=0) (hs:P.underlying ts=some .string) (hc:P.cellsOf te=1) (a4:P.cellsOf ts=1):
  ∃ev,W.cell? ⟨g,0,none⟩=some ev/\(ev= .nilIface\/∃te pe,ev= .iface te pe):=by
 obtain⟨a,s,hv,_⟩:=laid_sentinel h hg ht hi a0 hp he a6 a5 hs hc a4;exact⟨_,World.var?_cell hg hv 0,.inr ⟨_,_,rfl⟩⟩
def Xl: "*" ++ "errors.errorString" = "*errors.errorString" :=by decide
def WI(u:LN)(h:prog.typeName? 3 u=some "*errors.errorString"):u=451:=
 typeName_ptr_named (nm:= "errors.errorString") (by rw[Xl]; kernel_rfl) kR dC u (by rwa [Xl])
def Zdu{W:Qd}(h:laidMetH prog KT W)(a0:W.ShapedOpen prog):Gl W:=by
 refine⟨Xcp h,?_,?_,?_⟩
 .obtain⟨h1,h2,h3,h4,h5⟩:=gMx;exact Zen a0 h1 h2 rfl h3 h4 h5
 .rw[MakeChecks.laidMetH_plain _ _ _ kR]at h;exact UF (g:=6) (laidMet.tail (laidMet.tail (laidMet.tail (laidMet.tail (laidMet.tail h))))) kR (ti:=171) kR underlying171 WI underlying451 underlying453 rfl rfl underlying9 kR kR
 .rw[MakeChecks.laidMetH_plain _ _ _ kR]at h;exact UF (g:=7) (laidMet.tail (laidMet.tail (laidMet.tail (laidMet.tail h)))) kR (ti:=171) kR underlying171 WI underlying451 underlying453 rfl rfl underlying9 kR kR
section
variable {H:Type} {W:Qd} {enc:LN×HT->H}
def TV:prog.cellsOf 50=6:=kR
def Z8:prog.cellsOf 25=1:=kR
def Zjk:Rd H prog W MF 50:=by
 intro enc n cs x h hw;have hl:=H1 underlying50 h;rw[TV]at hl;obtain⟨y0,m0,h0,w0⟩:=B9 underlying50 h hw 0 3 0 1 ⟨_,rfl,rfl,rfl⟩ kR;obtain⟨y1,m1,h1,w1⟩:=B9 underlying50 h hw 1 9 1 1 ⟨_,rfl,rfl,rfl⟩ JT;obtain⟨y2,m2,h2,w2⟩:=B9 underlying50 h hw 2 9 2 1 ⟨_,rfl,rfl,rfl⟩ JT;obtain⟨y3,m3,h3,w3⟩:=B9 underlying50 h hw 3 3 3 1 ⟨_,rfl,rfl,rfl⟩ kR;obtain⟨y4,m4,h4,w4⟩:=B9 underlying50 h hw 4 9 4 1 ⟨_,rfl,rfl,rfl⟩ JT;obtain⟨y5,m5,h5,w5⟩:=B9 underlying50 h hw 5 3 5 1 ⟨_,rfl,rfl,rfl⟩ kR;obtain⟨a,e0⟩:=EX h0;obtain⟨b,e1,hb⟩:=LO h1;obtain⟨c,e2,hc⟩:=LO h2;obtain⟨d,e3⟩:=EX h3;obtain⟨e,e4,he⟩:=LO h4;obtain⟨f,e5⟩:=EX h5
 match cs,hl with
 | [c0,c1,c2,c3,c4,c5],_=>simp at e0 e1 e2 e3 e4 e5;exact⟨⟨a,b,c,d,e,f⟩,by rw[e0,e1,e2,e3,e4,e5];rfl,hb,hc,he⟩
def Zjl:JA H prog W MF 25:=O6 underlying25 TV kR dC Zjk
def Zjm{cs:LV}{x:DataW H×List MemPlace}(h:Tr enc prog W n 27 cs x)(hw:small (x.1.weights prog 27)):
  ∃(sP sS:Sl) (D N Di P:Int) (lp:Κ) (ls:List wg),cs= [sP.v,vi D,vi N,vi Di,vi P,sS.v]/\IT wq W (į W) sP lp/\IT MF W (į W) sS ls:=by
 have hl:=H1 underlying27 h;have hc:prog.cellsOf 27=6:=kR;rw[hc]at hl;obtain⟨y0,m0,h0,w0⟩:=B9 underlying27 h hw 0 22 0 1 ⟨_,rfl,rfl,rfl⟩ Z6;obtain⟨y1,m1,h1,w1⟩:=B9 underlying27 h hw 1 24 1 4 ⟨_,rfl,rfl,rfl⟩ kR;obtain⟨y2,m2,h2,w2⟩:=B9 underlying27 h hw 2 25 5 1 ⟨_,rfl,rfl,rfl⟩ Z8;obtain⟨a,lp,e0,hp,_⟩:=Zjh enc m0 _ _ h0 w0;obtain⟨D,N,d3,d4,e1⟩:=Zjf h1 w1;obtain⟨b,ls,e2,hs,_⟩:=Zjl enc m2 _ _ h2 w2
 match cs,hl with
 | [c0,c1,c2,c3,c4,c5],_=>simp at e0 e1 e2;exact⟨a,b,D,N,d3,d4,lp,ls,by rw[e0,e1.1,e1.2.1,e1.2.2.1,e1.2.2.2,e2],hp,hs⟩
end
end Go.Hal
