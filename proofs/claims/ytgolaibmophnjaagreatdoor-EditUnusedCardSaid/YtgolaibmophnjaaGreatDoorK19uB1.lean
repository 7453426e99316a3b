/- Lemmas for the claim K19u: how the program's functions run, and what they answer; no condition but those that each theorem names. -/
import Derived.MapKept
import Derived.Test.YtgolaibmophnjaaGreatDoorProg
import Derived.WideKeyRuns
import Derived.Shelf.SlSortCmp.NoneTotal
import Derived.Ground.SlsfProg
import Derived.Laws.CopyRow
import Derived.Test.YtgolaibmophnjaaGreatDoorK19uB0
set_option linter.unusedVariables false
set_option linter.unusedSimpArgs false
set_option linter.defProp false
open Go.Hal.SE hiding Cs Dr Lb vB
abbrev Go.RoundIn.O:=@Go.RoundIn.mono
abbrev Array.U:=@Array.ext
abbrev Prod.U:=@Prod.ext
abbrev Option.F:=@Option.elim
abbrev Go.Aside.sw:=@Go.Aside.out
set_option maxHeartbeats 16000000
open Go Go.RowKit Go.Proofs Go.Shelf Go.Hal Go.Proofs.Tryz
variable {a p:LP} {R:É} {n:Pr} {left:List (HT×HT)} {l:Θ} {L ps:Ι} {cs:LV} {b g i it lo r:Nat} {S S2:Nat->Prop} {P:LD} {d data o s:Sl} {E:Type} {et kt:LN} {f:HT} {K:Ë} {w w' w0:PU}
namespace Go.Hal
def û{a b:Pr}(ha:Ad a)(hR:∀w',AI w w'->R (Ak a b) w'):Hi a b w R:=by unfold Hi;exact IC.V (Ŷ _ _ _ _ ha λw' hx=>⟨_,rfl,hR _ hx⟩)
def W4{n:Nat}(h0:0<i)(hi:i<=n)(hn:n<=maxLen):Aa ((i:Int) - 1)=((i - 1:Nat):Int):=by rw[Ai oM (by rw[Ao]at hn;omega)];omega
def H2(hs:No ru w S s l)(hR:∀w',AI w w'->R (Au l) w'):Eh s w R:=by
 unfold Eh;have hl:=hs.len;refine Of.up hs.max (λi w'=>AI w w'/\Bb none (l.take i)=true) ⟨AI.refl _,rfl⟩ λi w1 c3 hi ⟨x1,hI⟩ hn=>⟨λb5=>sf.drew λw2 x2=>?_,λb9=>?_⟩
 .have a5:i<l.length:=oM;obtain⟨ad,t,ha,_,b7,hr,hc⟩:=BF hs a5;have b8:=Uo a5 hI;have a6:s.a=some ad/\(0:Int)<=(i:Int)/\(i:Int)<(s.len:Int):=⟨ha,oM,b5⟩;refine⟨ad,a6,_,(hc _ xT).pre rfl,Ee.V (yk b7 λw3 x3=>⟨_,rfl,IN ?_⟩)⟩;refine⟨ad,λ_=>a6,t,λ_=>(hc _ xT).I rfl,IS.intro (AN l[i].range) (λ_ q hq=>I8.V (ĸ (hr.U xT) λw' hx=>⟨_,rfl,hq _ hx⟩)) λt2 w4 x4 a8=>IN ?_⟩;refine⟨ad,λ_=>a6,t,λ_=>(hc _ xT).I rfl,IN (IN ?_)⟩;have a7:∀h0:0<i,DM none (l.take i)=some (l[i - 1]'oM).Y:=λh0=>by have:=Vq (l:=l) (n:=i - 1) oM;rw[<-this];congr 2;omega
  have hd:∃(a4:LP) (u:Pr),(decide ((0:Int)<(i:Int))=true->(s.a=some a4/\(0:Int)<=Aa ((i:Int) - 1)/\Aa ((i:Int) - 1)<(s.len:Int))/\sh w4 (a4.add ((Aa ((i:Int) - 1)).toNat*2)) [.string u]/\DM none (l.take i)=some u/\Ad u):=by
   by_cases h0:0<i
   .have ew:=W4 h0 hi hs.max;obtain⟨a9,t',b0,_,b6,_,b2⟩:=BF hs (n:=i - 1) oM;exact⟨a9,_,λ_=>⟨by rw[ew];exact⟨b0,oM,oM⟩,by rw[ew];exact(b2 _ xT).pre rfl,a7 h0,b6⟩⟩
   .exact⟨ad,⟨#[]⟩,λh=>by simp at h;omega⟩
  obtain⟨a4,u,hu⟩:=hd;have hg:∀{b:Bool},(!b&&decide ((0:Int)<(i:Int)))=true->decide ((0:Int)<(i:Int))=true:=λh=>by simp only[dz]at h;exact h.2
  refine⟨a4,λhb=>(hu (hg hb)).1,u,λhb=>(hu (hg hb)).2.1,ad,λ_=>a6,_,λ_=>(hc _ xT).pre rfl,?_⟩;refine IS.intro (Ak u l[i].Y) (λhb q hq=>IC.V (Ŷ _ _ _ _ (hu (hg hb)).2.2.2 λw' hx=>⟨_,rfl,hq _ hx⟩)) λt3 w5 x5 a0=>?_;have e:((((!Ae l[i].Y)||(!t2))||((t.len:Int)==0))||(decide ((0:Int)<(i:Int))&&(!t3)))= !Bb none (l.take (i+1)):=by
   rw[b8,Kq];have e0:((t.len:Int)==0)=l[i].range.isEmpty:=by rw[hr.len];cases l[i].range<;>simp;omega
   rw[e0]at a0 ⊢;cases h1:Ae l[i].Y
   .simp
   .rw[h1]at a8 a0;rw[a8 rfl]at a0 ⊢;cases h2:AN l[i].range
    .simp
    .rw[h2]at a0;cases h3:l[i].range.isEmpty
     .rw[h3]at a0;by_cases h0:0<i
      .have hb:decide ((0:Int)<(i:Int))=true:=(by simpa using h0);rw[hb]at a0 ⊢;rw[a0 rfl,(hu hb).2.2.1];simp[FX]
      .have hb:decide ((0:Int)<(i:Int))=false:=(by simp;omega);have b4:i=0:=oM;subst b4;simp[DM,FX]
     .simp
  rw[e];refine⟨λh=>?_,λh=>hn a5 _ ⟨xT,by simpa using h⟩⟩;rw[<-Un (i:=i+1) (by simpa using h)];exact hR _ xT
 .have:i=l.length:=oM;rw[this,eh]at hI;have e:decide ((s.len:Int)<=16)=Au l:=by unfold Au;rw[hI,ic,js];omega
  rw[e];exact hR _ xT
def Tx{α:Type}{p:α->Bool}{l:List α}{n:Nat}(hn:n<l.length):(l.take (n+1)).any p=((l.take n).any p||p l[n]):=by rw[dw hn,List.any_append];simp
def Jk{t:Sl}{a b:Θ}(hs:No ru w S s a)(ht:No ru w S t b)(hR:∀w',AI w w'->R (Br a b) w'):EJ s t w R:=by
 unfold EJ;have hl:=hs.len;have b6:=ht.len;refine Of.up hs.max (λi w'=>AI w w'/\(a.take i).any (λx=>b.any λy=>decide (x.Y=y.Y))=false) ⟨AI.refl _,rfl⟩ λi w1 b7 hi ⟨x1,hI⟩ hn=>⟨λa9=>?_,λb5=>?_⟩
 .have a4:i<a.length:=oM;obtain⟨ad,_,ha,_,_,_,hc⟩:=BF hs a4;refine Of.up ht.max (λk w'=>AI w w'/\(b.take k).any (λy=>decide (a[i].Y=y.Y))=false) ⟨x1,rfl⟩ λk w2 b4 hk ⟨x2,hJ⟩ b0=>⟨λa5=>sf.drew λw3 x3=>?_,λb2=>?_⟩
  .have a0:k<b.length:=oM;obtain⟨a6,_,a7,_,_,_,a8⟩:=BF ht a0;refine⟨ad,⟨ha,oM,a9⟩,_,(hc _ xT).pre rfl,a6,⟨a7,oM,a5⟩,_,(a8 _ xT).pre rfl,λh=>?_,λh=>b0 a0 _ ⟨xT,?_⟩⟩
   .have:Br a b=false:=by unfold Br;have:(a.any λx=>b.any λy=>decide (x.Y=y.Y))=true:=ka.2 ⟨_,fe a4,ka.2 ⟨_,fe a0,by simpa using h⟩⟩;rw[this];rfl
    rw[<-this];exact hR _ xT
   .rw[Tx a0,hJ];simpa using h
  .have:k=b.length:=oM;rw[this,eh]at hJ;exact hn a4 _ ⟨x2,by rw[Tx a4,hI,hJ];rfl⟩
 .have:i=a.length:=oM;rw[this,eh]at hI;have e:Br a b=true:=by unfold Br;rw[hI];rfl
  rw[<-e];exact hR _ xT
def H1{wd:LU}{R:Í}(hw:wd.length<=8)(hm:Au l=true)(hs:No ru w S s l)(hR:∀w',AI w w'->R (B (B1 wd l)) w'):Eg (B wd) s w R:=by
 unfold Eg;have hl:=hs.len;obtain⟨a7,a5⟩:=B5 hm;refine th.up hs.max (λsw i w'=>AI w w'/\sw=B (B1 wd (l.take i))) ⟨AI.refl _,rfl⟩ λsw i w1 b2 hi ⟨x1,hI⟩ hn=>⟨λa6=>sf.drew λw2 x2=>?_,λa8=>?_⟩
 .have a0:i<l.length:=oM;obtain⟨ad,t,ha,_,a9,hr,hc⟩:=BF hs a0;have a4:s.a=some ad/\(0:Int)<=(i:Int)/\(i:Int)<(s.len:Int):=⟨ha,oM,a6⟩;have hd:=a5 _ (fe a0);have h1:=CM hw (l:=l.take i) λd hd=>(a5 d (kw hd)).1;rw[fg,kq oM]at h1;have h2:=Cn hd.1;have h3:=OU l[i].range;subst hI;have b0:(l[i].Y).size=(l[i].Y).toList.length:=(JD _).H;rw[A9,AZ];refine⟨by rw[Ac,Ac,Al];omega,by rw[Ac,A6,Al];simp;omega,ad,a4,_,(hc _ xT).pre rfl,?_⟩;rw[Dx l[i].Y,A9,AZ];refine⟨by rw[Ac,Ac,Al];simp;omega,by rw[Ac,A6,Al];simp;omega,ad,a4,t,(hc _ xT).I rfl,tf.intro (KO.V (Zhy (hr.U xT) λw3 x3=>⟨x3,_,rfl,?_⟩))⟩;rw[A9,AZ];refine⟨by rw[Ac,Ac,Al];simp;omega,by rw[Ac,A6,Al];simp;omega,hn a0 _ _ ⟨xT,?_⟩⟩;rw[dw a0,Qx,Hb];congr 1;simp
 .have:i=l.length:=oM;rw[this,eh]at hI;rw[hI];exact hR _ xT
def Zds(h:Ae n=true)(v:tj):(IK n v).length<=40:=by have:=Cn h;have:=Dd v;simp only[IK,du,fu,ie];omega
def W7{p:su}{e:Sl}{R:Í}(hm:CA p=true)(hd:No ru w S d p.ss)(he:No ru w S e p.ta)(ho:No ru w S o p.uq)
  (hR:∀w',AI w w'->R (B (C0 p)) w'):ID p.Y p.v.ma p.v.mi p.v.pa d e o w R:=by
 unfold ID;unfold CA at hm;simp only[dz]at hm;obtain⟨⟨⟨⟨hn,hv⟩,h1⟩,h2⟩,h3⟩:=hm;have n1:=B5 h1;have n2:=B5 h2;have n3:=B5 h3;have l1:=CM (vv:=yd) dC λd hd=>(n1.2 d hd).1;have l2:=CM (vv:=Nm) dC λd hd=>(n2.2 d hd).1;have l3:=CM (vv:=yv) dC λd hd=>(n3.2 d hd).1;have a0:=Cn hn;have a4:=Dd p.v;refine An.intro λ_ w1 x1 hb _ _=>sf.drew λw2 x2=>?_;refine⟨_,lD,?_⟩;rw[Dx p.Y];simp only[CB,AZ];refine⟨by rw[A6,Ac,Al];simp;omega,by rw[Ac,A6,Al];simp;omega,?_⟩;refine⟨_,_,_,lD,?_⟩;refine⟨d,hb.at1 xT rfl,e,hb.at1 xT rfl,o,hb.at1 xT rfl,tf.intro (EH.V (Jj (v:=p.v) λw3 x3=>⟨x3,_,rfl,?_⟩))⟩;simp only[A9,AZ];refine⟨by rw[Ac,Ac,Al];simp;omega,by rw[Ac,A6,Al];simp;omega,tf.intro (Eg.V (vv:=B yd) (H1 dC h1 (hd.U xT) λw4 x4=>⟨x4,_,rfl,?_⟩))⟩;simp only[A9];refine⟨by rw[Ac,Ac,Al];simp;omega,tf.intro (Eg.V (vv:=B Nm) (H1 dC h2 (he.U xT) λw5 x5=>⟨x5,_,rfl,?_⟩))⟩;simp only[A9];refine⟨by rw[Ac,Ac,Al];simp;omega,tf.intro (Eg.V (vv:=B yv) (H1 dC h3 (ho.U xT) λw6 x6=>⟨x6,_,rfl,?_⟩))⟩;simp only[A9];refine⟨by rw[Ac,Ac,Al];simp;omega,?_⟩;have:=hR w6 xT;have e:C0 p=_:=rfl;unfold C0 IK at e;simpa[C0,IK]using this
def R9{p:su}{e:Sl}(hN:Ad p.Y)(hd:No ru w S d p.ss)(he:No ru w S e p.ta)(ho:No ru w S o p.uq)
  (hR:∀w',AI w w'->R (AJ p) w'):Hj p.Y p.v.ma p.v.mi p.v.pa d e o w R:=by
 refine An.intro λ_ w1 x1 hb _ _=>?_;refine⟨_,lD,?_⟩;refine Ee.V (yk hN λw2 x2=>⟨_,rfl,IN ?_⟩);refine⟨p.v.ma,p.v.mi,p.v.pa,λ_=>hb.at1 xT rfl,IS.intro p.v.vt (λ_ q hq=>Ed.V (y' λw' hx=>⟨_,rfl,hq _ hx⟩)) λt1 w3 x3 a7=>IN ?_⟩;refine⟨d,λ_=>hb.at1 xT rfl,IS.intro (Au p.ss) (λ_ q hq=>Eh.V (H2 (hd.U xT) λw' hx=>⟨_,rfl,hq _ hx⟩)) λt2 w4 x4 a5=>IN ?_⟩;refine⟨e,λ_=>hb.at1 xT rfl,IS.intro (Au p.ta) (λ_ q hq=>Eh.V (H2 (he.U xT) λw' hx=>⟨_,rfl,hq _ hx⟩)) λt3 w5 x5 a4=>IN ?_⟩;refine⟨o,λ_=>hb.at1 xT rfl,IS.intro (Au p.uq) (λ_ q hq=>Eh.V (H2 (ho.U xT) λw' hx=>⟨_,rfl,hq _ hx⟩)) λt4 w6 x6 a0=>?_⟩;have e1:(((((!Ae p.Y)||(!t1))||(!t2))||(!t3))||(!t4))= !CA p:=by
  unfold CA;cases h1:Ae p.Y
  .simp
  rw[h1]at a7 a5 a4 a0;rw[a7 rfl]at a5 a4 a0 ⊢;cases h2:p.v.vt
  .simp
  rw[h2]at a5 a4 a0;rw[a5 rfl]at a4 a0 ⊢;cases h3:Au p.ss
  .simp
  rw[h3]at a4 a0;rw[a4 rfl]at a0 ⊢;cases h4:Au p.ta
  .simp
  rw[h4]at a0;rw[a0 rfl];simp
 rw[e1];refine⟨λh=>?_,λh=>?_⟩
 .have:AJ p=false:=by
   unfold AJ;have:CA p=false:=by simpa using h
   rw[this];rfl
  rw[<-this];exact hR _ xT
 have hm:CA p=true:=by simpa using h
 refine⟨d,hb.at1 xT rfl,e,hb.at1 xT rfl,EJ.V (Jk (hd.U xT) (he.U xT) λw7 x7=>⟨_,rfl,?_⟩)⟩;refine⟨d,λ_=>hb.at1 xT rfl,o,λ_=>hb.at1 xT rfl,IS.intro (Br p.ss p.uq) (λ_ q hq=>EJ.V (Jk (hd.U xT) (ho.U xT) λw' hx=>⟨_,rfl,hq _ hx⟩)) λt5 w8 x8 a8=>IN ?_⟩;refine⟨e,λ_=>hb.at1 xT rfl,o,λ_=>hb.at1 xT rfl,IS.intro (Br p.ta p.uq) (λ_ q hq=>EJ.V (Jk (he.U xT) (ho.U xT) λw' hx=>⟨_,rfl,hq _ hx⟩)) λt6 w9 x9 a6=>IN ?_⟩;have e2:((Br p.ss p.ta&&t5)&&t6)=Fv p:=by
  unfold Fv;cases h1:Br p.ss p.ta
  .rfl
  rw[h1]at a8 a6;rw[a8 rfl]at a6 ⊢;cases h2:Br p.ss p.uq
  .rfl
  rw[h2]at a6;rw[a6 rfl]
 rw[e2];refine⟨p.Y,p.v.ma,p.v.mi,p.v.pa,d,e,o,λ_=>hb.at0 xT rfl,IS.intro (B (C0 p)) (λ_ q hq=>ID.V (W7 hm (hd.U xT) (he.U xT) (ho.U xT) λw' hx=>⟨_,rfl,hq _ hx⟩)) λt7 b0 b2 a9=>?_⟩;have e3:(Fv p&&decide ((t7.size:Int)<=4096))=AJ p:=by
  unfold AJ;rw[hm,ic];cases h1:Fv p
  .rfl
  rw[a9 h1,Ac,ic,ic,js];omega
 rw[e3];exact hR _ xT
def Xh(x y:tx):(((x.lo.ma==y.lo.ma)&&((x.lo.mi==y.lo.mi)&&((x.lo.pa==y.lo.pa)&&true)))&&(((x.hi.ma==y.hi.ma)&&((x.hi.mi==y.hi.mi)&&((x.hi.pa==y.hi.pa)&&true)))&&true))=decide (x=y):=by rw[FN,FN];obtain⟨a,b⟩:=x;obtain⟨c,d⟩:=y;rw[gp];simp
def Sz{α:Type}{a b:List α}{n:Nat}(ha:n<a.length)(hb:n<b.length)(h:a.take n=b.take n):a.take (n+1)=b.take (n+1)↔a[n]=b[n]:=by rw[dw ha,dw hb,h];simp only[List.append_cancel_left_eq,List.cons.injEq,and_true]
def Rn{α:Type}{a b:List α}{n:Nat}(ha:n<a.length)(hb:n<b.length)(h:a[n]≠b[n]):a≠b:=λe=>h (by subst e;rfl)
def Zh0{t:Sl}{a b:Κ}(hs:No uo w S s a)(ht:No uo w S t b)(hR:∀w',AI w w'->R (decide (a=b)) w'):KQ s t w R:=by
 unfold KQ;have hl:=hs.len;have a8:=ht.len;refine⟨λh=>?_,λh=>?_⟩
 .have:decide (a=b)=false:=fq λe=>h (by rw[hl,a8,e]);rw[<-this];exact hR _ xR
 have a0:a.length=b.length:=by have:=jx.1 h;omega
 refine Of.up hs.max (λi w'=>AI w w'/\a.take i=b.take i) ⟨AI.refl _,rfl⟩ λi w1 b2 hi ⟨x1,hI⟩ hn=>⟨λa9=>sf.drew λw2 x2=>?_,λb0=>?_⟩
 .have h1:i<a.length:=oM;have h2:i<b.length:=oM;obtain⟨ad,ha,_,hc⟩:=Fb hs h1;obtain⟨a4,a5,_,a6⟩:=Fb ht h2;refine⟨ad,⟨ha,oM,a9⟩,_,_,_,_,_,_,hc _ xT,a4,⟨a5,oM,oM⟩,_,_,_,_,_,_,a6 _ xT,?_⟩;rw[Xh];refine⟨λh=>?_,λh=>hn h1 _ ⟨xT,(Sz h1 h2 hI).2 (by simpa using h)⟩⟩;have:decide (a=b)=false:=fq (Rn h1 h2 (by simpa using h));rw[<-this];exact hR _ xT
 .have a7:i=a.length:=oM;rw[a7,eh,a0,eh]at hI;have:decide (a=b)=true:=fy hI;rw[<-this];exact hR _ xT
def H0{t:Sl}{a b:Θ}(hs:No ru w S s a)(ht:No ru w S t b)(hR:∀w',AI w w'->R (decide (a=b)) w'):Ef s t w R:=by
 unfold Ef;have hl:=hs.len;have b2:=ht.len;refine⟨λh=>?_,λh=>?_⟩
 .have:decide (a=b)=false:=fq λe=>h (by rw[hl,b2,e]);rw[<-this];exact hR _ xR
 have a7:a.length=b.length:=by have:=jx.1 h;omega
 refine Of.up hs.max (λi w'=>AI w w'/\a.take i=b.take i) ⟨AI.refl _,rfl⟩ λi w1 b7 hi ⟨x1,hI⟩ hn=>⟨λb4=>sf.drew λw2 x2=>?_,λb6=>?_⟩
 .have h1:i<a.length:=oM;have h2:i<b.length:=oM;obtain⟨ad,u,ha,_,_,hr,hc⟩:=BF hs h1;obtain⟨a4,u2,a9,_,_,b5,a6⟩:=BF ht h2;have a5:s.a=some ad/\(0:Int)<=(i:Int)/\(i:Int)<(s.len:Int):=⟨ha,oM,b4⟩;have a0:t.a=some a4/\(0:Int)<=(i:Int)/\(i:Int)<(t.len:Int):=⟨a9,oM,oM⟩;refine⟨ad,a5,_,(hc _ xT).pre rfl,a4,a0,_,(a6 _ xT).pre rfl,IN ⟨ad,λ_=>a5,u,λ_=>(hc _ xT).I rfl,a4,λ_=>a0,u2,λ_=>(a6 _ xT).I rfl,?_⟩⟩;refine IS.intro (decide (a[i].range=b[i].range)) (λ_ q hq=>KQ.V (Zh0 (hr.U xT) (b5.U xT) λw' hx=>⟨_,rfl,hq _ hx⟩)) λt3 w3 x3 a8=>?_;have e:((!Ag a[i].Y b[i].Y)||(!t3))= !decide (a[i]=b[i]):=by
   cases h1:Ag a[i].Y b[i].Y
   .have: ¬a[i]=b[i]:=λe=>(by rw[e,AG.2 rfl]at h1;cases h1);simp[this]
   .rw[h1]at a8;rw[a8 rfl];have hn:=AG.1 h1;have:(a[i].range=b[i].range)↔a[i]=b[i]:=by
     constructor
     .intro h2;generalize a[i]=x at*;generalize b[i]=y at*;obtain⟨x1,x2⟩:=x;obtain⟨y1,y2⟩:=y;simp only at hn h2;rw[hn,h2]
     .intro h;rw[h]
    simp only[this];rfl
  rw[e];refine⟨λh=>?_,λh=>hn h1 _ ⟨xT,(Sz h1 h2 hI).2 (by simpa using h)⟩⟩;have:decide (a=b)=false:=fq (Rn h1 h2 (by simpa using h));rw[<-this];exact hR _ xT
 .have b0:i=a.length:=oM;rw[b0,eh,a7,eh]at hI;have:decide (a=b)=true:=fy hI;rw[<-this];exact hR _ xT
def W6{p q:su}{e d' e' o':Sl}(hd:No ru w S d p.ss)(he:No ru w S e p.ta)(ho:No ru w S o p.uq)
  (a9:No ru w S d' q.ss) (b0:No ru w S e' q.ta) (b6:No ru w S o' q.uq) (hR:∀w',AI w w'->R (decide (p=q)) w'):I9 p.Y p.v.ma p.v.mi p.v.pa d e o q.Y q.v.ma q.v.mi q.v.pa d' e' o' w R:=by
 refine An.intro λ_ w1 x1 hb _ _=>An.intro λ_ w2 x2 a6 _ _=>?_;refine⟨_,hb.at0 xT rfl,_,a6.at0 xT rfl,IN ⟨p.v.ma,p.v.mi,p.v.pa,λ_=>hb.at1 xT rfl,q.v.ma,q.v.mi,q.v.pa,λ_=>a6.at1 xT rfl,IN ?_⟩⟩;rw[FN];refine⟨d,λ_=>hb.at1 xT rfl,d',λ_=>a6.at1 xT rfl,IS.intro (decide (p.ss=q.ss)) (λ_ q hq=>Ef.V (H0 (hd.U xT) (a9.U xT) λw' hx=>⟨_,rfl,hq _ hx⟩)) λt1 w3 x3 a8=>IN ?_⟩;refine⟨e,λ_=>hb.at1 xT rfl,e',λ_=>a6.at1 xT rfl,IS.intro (decide (p.ta=q.ta)) (λ_ q hq=>Ef.V (H0 (he.U xT) (b0.U xT) λw' hx=>⟨_,rfl,hq _ hx⟩)) λt2 w4 x4 a7=>IN ?_⟩;refine⟨o,λ_=>hb.at1 xT rfl,o',λ_=>a6.at1 xT rfl,IS.intro (decide (p.uq=q.uq)) (λ_ q hq=>Ef.V (H0 (ho.U xT) (b6.U xT) λw' hx=>⟨_,rfl,hq _ hx⟩)) λt3 w5 x5 a0=>?_⟩;have e:((((Ag p.Y q.Y&&decide (p.v=q.v))&&t1)&&t2)&&t3)=decide (p=q):=by
  have key:decide (p=q)=((((Ag p.Y q.Y&&decide (p.v=q.v))&&decide (p.ss=q.ss))&&decide (p.ta=q.ta))&&decide (p.uq=q.uq)):=by obtain⟨a1,a2,a3,a4,a5⟩:=p;obtain⟨b1,b2,b3,b4,b5⟩:=q;rw[gp];simp only[fk,dz,AG,su.mk.injEq,and_assoc]
  rw[key];cases h1:(Ag p.Y q.Y&&decide (p.v=q.v))
  .rfl
  rw[h1]at a8 a7 a0;rw[a8 rfl]at a7 a0 ⊢;cases h2:decide (p.ss=q.ss)
  .rfl
  rw[h2]at a7 a0;rw[a7 rfl]at a0 ⊢;cases h3:decide (p.ta=q.ta)
  .rfl
  rw[h3]at a0;rw[a0 rfl]
 rw[e];exact hR _ xT
open Go.MapKept
structure ļ(P:LD)(mt:LN)(K:HT->Prop)(zero:HT):Prop where
 und:∃kt et,P.underlying mt=some (.map kt et)/\(∀w,(zeroValue et).run P w= .ok zero w)/\
  (∀k,K k->∀e w,(Instr.checkKey e 10000 kt k).run P w= .ok () w)/\
  (∀k,K k->∀l:List MapEntry,(∀x∈l,K x.key)->∀w,((∀x∈l,x.key≠k)/\(Instr.findKey kt k l).run P w= .ok none w)\/∃(j:Nat) (e:MapEntry),l[j]?=some e/\e.key=k/\(Instr.findKey kt k l).run P w= .ok (some (j,e.val)) w)
 stay:∀k,K k->Instr.sameBits 10000 k k=true
def yc(K:HT->Prop)(w:PU)(r:Nat)(m:List (HT×HT)):Prop:=
 ∃es clock,w.heap[r]?=some (.map es clock)/\Stamped es clock/\es.toList.map (λe=>(e.key,e.val))=m/\∀x∈es.toList,K x.key
section
variable {P:LD} {mt:LN} {K:HT->Prop} {zero:HT} {w w':PU} {r:Nat} {m:List (HT×HT)}
def yc.lt(h:yc K w r m):r<w.heap.size:=by obtain⟨es,a0,hb,_⟩:=h;exact(fb.1 hb).1
def yc.of(h:yc K w r m)(he:w'.heap[r]?=w.heap[r]?):yc K w' r m:=by obtain⟨es,a0,hb,h2⟩:=h;exact⟨es,a0,he.Z hb,h2⟩
def yc.U(h:yc K w r m)(hx:AI w w'):yc K w' r m:=h.of (hx.block h.lt)
def yc.keys(h:yc K w r m):(m.map (·.1)).Nodup/\∀p∈m,K p.1:=by
 obtain⟨es,a0,_,hs,rfl,hk⟩:=h;refine⟨?_,λp hp=>?_⟩
 .rw[jh];exact hs.2.2
 .obtain⟨e,he,rfl⟩:=ij.1 hp;exact hk e he
def OC{k:Ë}(h:∀r w',AI w w'->r=w.heap.size->yc K w' r []->k (.map (some r)) w'):xe P (Instr.makeMap mt none) w k:=
 ⟨_,_,rfl,h _ _ (AI.alloc _ _) rfl ⟨#[],0,heap_alloc_new w _,stamped_empty 0,rfl,by simp⟩⟩
def Ja(T:ļ P mt K zero)(h:yc K w r m){k:HT}(hk:K k):
  ((∀p∈m,p.1≠k)/\∀ok,(Instr.lookup mt (.map (some r)) k ok).run P w= .ok (if ok then .tuple #[zero,.bool false]else zero) w)\/
  ∃v,(k,v)∈m/\∀ok,(Instr.lookup mt (.map (some r)) k ok).run P w= .ok (if ok then .tuple #[v,.bool true]else v) w:=by
 obtain⟨kt,et,hu,hz,hc,hf⟩:=T.und;obtain⟨es,a0,hb,hs,rfl,a4⟩:=h;rcases hf k hk es.toList a4 w with⟨hn,hr⟩|⟨j,e,hj,he,hr⟩
 .refine .inl ⟨λp hp=>?_,λok=>?_⟩
  .obtain⟨e,he,rfl⟩:=ij.1 hp;exact hn e he
  .cases ok<;>simp[Instr.lookup,Sem.run_bind,run_underlying hu,Result.andThen,Go.MapKept.run_getObj_map hb,hc k hk,hr,hz]
 .refine .inr ⟨e.val,ij.2 ⟨e,ik hj,by rw[he]⟩,λok=>?_⟩;cases ok<;>simp[Instr.lookup,Sem.run_bind,run_underlying hu,Result.andThen,Go.MapKept.run_getObj_map hb,hc k hk,hr]
def Fi(T:ļ P mt K zero)(h:yc K w r m){k v:HT}(hk:K k)(hn:∀p∈m,p.1≠k){c:Wp}(a7:∀w',uv r w w'->w'.heap.size=w.heap.size->yc K w' r (m++[(k,v)])->c w'):Ð P (Instr.mapUpdate mt (.map (some r)) k v) w c:=by
 obtain⟨kt,et,hu,hz,hc,hf⟩:=T.und;obtain⟨es,a0,hb,hs,rfl,a4⟩:=h;have a5:∀x∈es.toList,x.key≠k:=λx hx=>hn _ (ij.2 ⟨x,hx,rfl⟩);rcases hf k hk es.toList a4 w with⟨_,hr⟩|⟨j,e,hj,he,hr⟩
 .refine⟨{w with heap:=w.heap.setIfInBounds r (.map (es.push {key:=k,val:=v,born:=a0}) (a0+1))},?_,a7 _ ⟨?_,rfl,rfl,rfl,?_⟩ ?_ ?_⟩
  .simp[Instr.mapUpdate,Sem.run_bind,run_underlying hu,Result.andThen,Go.MapKept.run_getObj_map hb,hc k hk,hr,run_setObj_map _ hb]
  .simp
  .intro b a8 a6;exact(heap_set hb).2 b a6
  .simp
  .exact⟨_,_,(heap_set hb).1,stamped_push hs a5,by simp,λx hx=>by
    simp only[Array.toList_push,fp,ep]at hx;obtain hx|rfl:=hx
    .exact a4 x hx
    .exact hk⟩
 .exact fm he (a5 e (ik hj))
def Zmd(T:ļ P mt K zero)(h:yc K w r m){k v u:HT}(hk:K k)(hm:(k,u)∈m){c:Wp}(a9:∀w' m',uv r w w'->w'.heap.size=w.heap.size->yc K w' r m'->(k,v)∈m'->m'.map (·.1)=m.map (·.1)->c w'):Ð P (Instr.mapUpdate mt (.map (some r)) k v) w c:=by
 obtain⟨kt,et,hu,hz,hc,hf⟩:=T.und;obtain⟨es,a5,hb,hs,rfl,a7⟩:=h;rcases hf k hk es.toList a7 w with⟨hn,_⟩|⟨j,e,hj,he,hr⟩
 .obtain⟨e,he,h1⟩:=ij.1 hm;exact fm (jt Prod.fst h1) (hn e he)
 .have a4:es[j]?=some e:=by simpa using hj
  have a0:∀e',es[j]?=some e'->e'.key=k:=λe' h=>by rw[a4]at h;cases h;exact he
  have b0:(Instr.keyThatStays (((es[j]?).map (·.key)).getD k) k).run P w= .ok k w:=by rw[a4];simp only[jp,Option.getD_some,he];simp[Instr.keyThatStays,T.stay k hk]
  refine⟨{w with heap:=w.heap.setIfInBounds r (.map (es.modify j λe=>{e with key:=k,val:=v}) a5)},?_,a9 _ ((es.modify j λe=>{e with key:=k,val:=v}).toList.map λe=>(e.key,e.val)) ⟨?_,rfl,rfl,rfl,?_⟩ ?_ ?_ ?_ ?_⟩
  .simp only[Instr.mapUpdate,Sem.run_bind,run_underlying hu,Result.andThen,Go.MapKept.run_getObj_map hb,hc k hk,hr];rw[b0];simp[run_setObj_map _ hb]
  .simp
  .intro b b4 a8;exact(heap_set hb).2 b a8
  .simp
  .refine⟨_,_,(heap_set hb).1,stamped_modify hs j _ (λ_ _=>rfl) (λe' _ h=>(a0 e' h).H),rfl,λx hx=>?_⟩;have a6:=modify_keys (es:=es) j (λe=>{e with key:=k,val:=v}) (λe' h=>(a0 e' h).H);have:x.key∈(es.modify j λe=>{e with key:=k,val:=v}).toList.map (·.key):=ij.2 ⟨x,hx,rfl⟩;rw[a6]at this;obtain⟨y,hy,b2⟩:=ij.1 this;rw[<-b2];exact a7 y hy
  .have b5:j<es.size:=(fb.1 a4).1;refine ij.2 ⟨{e with key:=k,val:=v},?_,rfl⟩;refine ik (i:=j) ?_;simp[nf,a4]
  .rw[jh,jh];exact modify_keys (es:=es) j (λe=>{e with key:=k,val:=v}) (λe' h=>(a0 e' h).H)
def Zfa(hu:P.underlying mt=some (.map kt et))(h:yc K w r m):(Builtin.len_ #[mt] 3 #[.map (some r)]).run P w= .ok (vi m.length) w:=by obtain⟨es,a0,hb,hs,rfl,a4⟩:=h;simp[Builtin.len_,Sem.run_bind,run_underlying hu,Result.andThen,Go.MapKept.run_getObj_map hb,goInt]
def zo(w:PU)(it r:Nat)(left:List (HT×HT))(last:Option (HT×HT)):Prop:=
 ∃es clock seen,w.heap[r]?=some (.map es clock)/\Stamped es clock/\w.heap[it]?=some (.mapIter (some r) clock seen clock)/\
  (es.toList.filter λe=>!seen.contains e.born).map (λe=>(e.key,e.val))=left/\
  (∀p,last=some p->∃st,seen.back? =some st/\∃e,es.find? (·.born==st)=some e/\(e.key,e.val)=p)
def zo.of{last:Option (HT×HT)}(h:zo w it r left last)(h1:w'.heap[r]?=w.heap[r]?)(h2:w'.heap[it]?=w.heap[it]?):zo w' it r left last:=by obtain⟨es,a0,seen,a,b,c,d⟩:=h;exact⟨es,a0,seen,h1.Z a,b,h2.Z c,d⟩
def zo.lt{last:Option (HT×HT)}(h:zo w it r left last):r<w.heap.size/\it<w.heap.size:=by obtain⟨es,a0,seen,a,b,c,d⟩:=h;exact⟨(fb.1 a).1,(fb.1 c).1⟩
def zo.U{last:Option (HT×HT)}(h:zo w it r left last)(hx:AI w w'):zo w' it r left last:=h.of (hx.block h.lt.1) (hx.block h.lt.2)
def Zio(hu:P.underlying mt=some (.map kt et))(h:yc K w r m){k:Ë}(hk:∀it w',AI w w'->it=w.heap.size->zo w' it r m none->k (.pointer (some ⟨it,0,none⟩)) w'):xe P (Instr.range mt (.map (some r))) w k:=by
 obtain⟨es,a0,hb,hs,rfl,a4⟩:=h;refine⟨_,w.alloc (.mapIter (some r) a0 #[] a0),?_,hk _ _ (AI.alloc _ _) rfl ⟨es,a0,#[],?_,hs,heap_alloc_new w _,?_,λp h=>by cases h⟩⟩
 .simp[Instr.range,Sem.run_bind,run_underlying hu,Result.andThen,Go.MapKept.run_getObj_map hb]
 .rwa [(heap_alloc w _).2 r (fb.1 hb).1]
 .congr 1;apply rn.2;intro x hx;simp
def Zb4{p:HT×HT}(h:zo w it r left (some p)):(Instr.entry (.pointer (some ⟨it,0,none⟩))).run P w= .ok (.tuple #[p.1,p.2]) w:=by
 obtain⟨es,a0,seen,hb,hs,hi,hl,hp⟩:=h;obtain⟨st,h1,e,h2,rfl⟩:=hp p rfl;have a4:(getObj it).run P w= .ok (.mapIter (some r) a0 seen a0) w:=by simp[getObj,Sem.run,hi]
 simp[Instr.entry,Sem.run_bind,Result.andThen,a4,h1,Go.MapKept.run_getObj_map hb,h2]
def Zc3{α β:Type}[BEq β][LawfulBEq β](f:α->β){l:List α}(hn:(l.map f).Nodup)(hi:i<l.length):(l.filter λe=>f e != f l[i])=l.take i++l.drop (i+1):=by
 have a4:l=l.take i++l[i]::l.drop (i+1):=by rw[<-gj hi,ga]
 have a0:=hn;rw[a4,gb,io,jl]at a0;obtain⟨h1,h2,h3⟩:=a0;rw[qg]at h2;generalize l[i]=x at*
 conv=>lhs;rw[a4]
 rw[lf,po,fa sI];congr 1
 .apply rn.2;intro y hy;have:=h3 (f y) (ja hy) (f x) sI;simpa using this
 .apply rn.2;intro y hy;have:f y≠f x:=λe=>h2.1 (e▸ja hy);simpa using this
def UW{α β:Type}(f:α->β){l:List α}(hn:(l.map f).Nodup){x y:α}(hx:x∈l)(hy:y∈l)(h:f x=f y):x=y:=by
 induction l with
 |nil=>cases hx
 |cons a r ih=>
  rw[io,qg]at hn;rcases gn.1 hx with a0|a0<;>obtain a4|a4:=gn.1 hy
  .rw[a0,a4]
  .subst a0;exact fm (h▸ja a4) hn.1
  .subst a4;exact fm (h▸ja a0) hn.1
  .exact ih hn.2 a0 a4
def Zab(n t:Nat)(h:0<n):(Question.mapNext n).cut t<n:=Nat.mod_lt _ h
def Zgd{last:Option (HT×HT)}(h:zo w it r left last){k:Ë}
  (h0:left=[]->k (.tuple #[.bool false]) w)
  (h1:∀(p:HT×HT) (l1 l2:List (HT×HT)) w',left=l1++p::l2->(∀b,b<w.heap.size->b≠it->w'.heap[b]?=w.heap[b]?)->w'.heap.size=w.heap.size->uv it w w'->zo w' it r (l1++l2) (some p)->k (.tuple #[.bool true,p.1,p.2]) w'):
  xe P (Instr.next (.pointer (some ⟨it,0,none⟩)) false 0) w k:=by
 obtain⟨es,a0,seen,hb,hs,hi,hl,hp⟩:=h;have d0:∀w1:PU,w1.heap=w.heap->(getObj it).run P w1= .ok (.mapIter (some r) a0 seen a0) w1:=λw1 h=>by simp[getObj,Sem.run,h,hi]
 have hg:∀w1:PU,w1.heap=w.heap->(getObj r).run P w1= .ok (.map es a0) w1:=λw1 h=>by simp[getObj,Sem.run,h,hb]
 have b0:(!seen.isEmpty&& !es.isEmpty&&es.all (λe=>decide (e.born≥a0)))=false:=by
  cases he:es.isEmpty
  .have b4:es.toList≠[]:=by
    intro h0;have:es= #[]:=by rw[<-mm (xs:=es),h0]
    rw[this]at he;cases he
   obtain⟨x,t,hx⟩:=List.exists_cons_of_ne_nil b4;have d3:=hs.1 x (by rw[hx];simp);have:es.all (λe=>decide (e.born≥a0))=false:=by rw[nz];intro a5;rw[Array.all_eq_true']at a5;have:=a5 x (by rw[<-pg,hx];simp);simp at this;omega
   rw[this];simp
  .simp
 have a7:∀x∈es.filter (λe=>!seen.contains e.born),x.born<a0:=λx hx=>hs.1 x (by rw[Array.mem_filter]at hx;exact pg.2 hx.1);have c4:(es.filter (λe=>!seen.contains e.born)).filter (λe=>decide (e.born<a0))=es.filter (λe=>!seen.contains e.born):=by rw[Array.filter_eq_self];intro x hx;simpa using a7 x hx
 have b9:(es.filter (λe=>!seen.contains e.born)).filter (λe=>decide (e.born≥a0))= #[]:=by rw[Array.filter_eq_empty_iff];intro x hx;have:=a7 x hx;simp;omega
 have hL:(es.filter (λe=>!seen.contains e.born)).toList.map (λe=>(e.key,e.val))=left:=by rw[<-hl,Array.toList_filter]
 unfold xe;simp only[Instr.next,Sem.run_bind,Result.andThen,d0 w rfl,hg w rfl,b0,c4,b9];generalize c9:es.filter (λe=>!seen.contains e.born)=L at*;simp only[nt,if_false,Array.append_empty];by_cases hE:L= #[]
 .have d1:left=[]:=by rw[<-hL,hE];rfl
  refine⟨_,_,?_,h0 d1⟩;rw[hE];simp[Sem.run_bind,Question.forced,Result.andThen]
 .have c8:L.isEmpty=false:=by simpa using hE
  have a8:0<L.size:=by
   obtain h|h:=kg L.size
   .exact fm (Array.eq_empty_of_size_eq_zero h) hE
   .exact h
  rw[c8,fa sI,Array.empty_append,Array.size_map];obtain⟨i,w1,hr,b2,hw⟩:∃i w1,(choose (.mapNext L.size)).run P w= .ok i w1/\i<L.size/\(w1=w\/w1=w.drew):=by
   rw[run_choose_drew];by_cases hf:(Question.mapNext L.size).forced=true
   .exact⟨0,w,by rw[fl hf],a8,.inl rfl⟩
   .exact⟨_,_,by rw[fa hf],Zab _ _ a8,.inr rfl⟩
  have b7:(Array.map some L)[i]?=some (some L[i]):=by simp[b2]
  have a4:w1.heap=w.heap:=by rcases hw with rfl|rfl<;>rfl
  have c6:(setObj it (.mapIter (some r) a0 (seen.push L[i].born) a0)).run P w1= .ok () {w1 with heap:=w1.heap.setIfInBounds it (.mapIter (some r) a0 (seen.push L[i].born) a0)}:=by simp[setObj,Sem.run,a4,hi]
  have b5:=heap_set (w:=w1) (r:=it) (o':=.mapIter (some r) a0 (seen.push L[i].born) a0) (by rwa [a4]);have a6:∀b,b<w.heap.size->b≠it->(w1.heap.setIfInBounds it (.mapIter (some r) a0 (seen.push L[i].born) a0))[b]?=w.heap[b]? :=λb _ b4=>by rw[b5.2 b b4,a4]
  have c7:(w1.heap.setIfInBounds it (.mapIter (some r) a0 (seen.push L[i].born) a0)).size=w.heap.size:=by simp[a4]
  have d2:L.toList=L.toList.take i++L[i]::L.toList.drop (i+1):=by have h1:i<L.toList.length:=(by simpa using b2);have h2:=gj h1;simp only[Array.getElem_toList]at h2;rw[<-h2,ga]
  have c5:r≠it:=by rintro rfl;rw[hb]at hi;cases hi
  have a9:L.toList=es.toList.filter λe=>!seen.contains e.born:=by rw[<-c9,Array.toList_filter]
  have c3:(L.toList.map (·.born)).Nodup:=by rw[a9];exact(List.filter_sublist.map _).nodup hs.2.1
  refine⟨_,{w1 with heap:=w1.heap.setIfInBounds it (.mapIter (some r) a0 (seen.push L[i].born) a0)},?_,h1 (L[i].key,L[i].val) ((L.toList.take i).map λe=>(e.key,e.val)) ((L.toList.drop (i+1)).map λe=>(e.key,e.val)) _ ?_ a6 c7 ⟨by show w.heap.size<=_;rw[c7];exact fx _,?_,?_,?_,a6⟩ ⟨es,a0,seen.push L[i].born,?_,hs,b5.1,?_,?_⟩⟩
  .simp only[Sem.run_bind,hr,Result.andThen,b7,c6];rfl
  .rw[<-hL]
   conv=>lhs;rw[d2]
   simp
  .rcases hw with rfl|rfl<;>rfl
  .rcases hw with rfl|rfl<;>rfl
  .rcases hw with rfl|rfl<;>rfl
  .show(w1.heap.setIfInBounds it _)[r]?=_;rwa [b5.2 r c5,a4]
  .rw[<-gb];congr 1;have e1:(es.toList.filter λe=>!(seen.push L[i].born).contains e.born)=L.toList.filter λe=>e.born != L[i].born:=by
    rw[a9,List.filter_filter];apply List.filter_congr;intro x _;rw[Array.contains_push];have:(L[i].born==x.born)=(x.born==L[i].born):=by rw[gp,jq,jq];exact eq_comm
    simp only[bne,Bool.not_or];rw[Bool.and_comm]
    try rfl
    try rw[this]
   rw[e1];have:=Zc3 MapEntry.born c3 (i:=i) (by rwa [ko]);simpa using this
  .rintro p h;cases h;refine⟨L[i].born,by simp,?_⟩;have b8:L[i]∈es.toList:=by have:L[i]∈L.toList:=(by simp);rw[a9]at this;exact(iz.1 this).1
   have b6:(es.toList.find? λx=>x.born==L[i].born).isSome:=List.find?_isSome.2 ⟨_,b8,by simp⟩;obtain⟨e,he⟩:=Option.isSome_iff_exists.1 b6;refine⟨e,by rwa [<-Array.find?_toList],?_⟩;have h2:=qk he;have h3:=na he;rw[UW (λe:MapEntry=>e.born) hs.2.1 h3 b8 (by simpa using h2)]
end
end Go.Hal
namespace Go.Hal
open Go.MapKept
def HG(v:HT):Prop:=∃s,v= .string s
def Nb:ļ prog 229 HG (vi 0) where
 und:=⟨9,3,underlying229,Tryz.zeroValue3,λk ⟨s,h⟩ e w=>by subst h;exact run_checkKey (d:=.string) (k:=.string s) underlying9 trivial e 9999,λk ⟨s,h⟩ l hl w=>by
  subst h;rcases findNow_spec (d:=.string) (k:=.string s) trivial l 0 (λx hx=>by obtain⟨t,ht⟩:=hl x hx;rw[ht];trivial)with⟨h1,h2⟩|⟨j,e,h1,h2,h3⟩
  .exact .inl ⟨h2,run_findKey underlying9 h1⟩
  .exact .inr ⟨j,e,h2,h3,run_findKey underlying9 (by rw[kj]at h1;exact h1)⟩⟩
 stay:=λk ⟨s,h⟩=>by subst h;exact sameBits_self (d:=.string) (k:=.string s) trivial _
def vl(n:Pr)(v:tj):HT:=.agg #[.string n,vi v.ma,vi v.mi,vi v.pa]
def F6(x:HT):Prop:=∃n v,x=vl n v
def Hm{m:Pr}{v u:tj}:vl n v=vl m u↔n=m/\v=u:=by unfold vl;obtain⟨a,b,c⟩:=v;obtain⟨a',b',c'⟩:=u;simp
def Zb7(n m:Pr)(v u:tj)(w:PU):(Op.equal 103 (vl n v) (vl m u)).run prog w= .ok (decide (n=m/\v=u)) w:=by
 have h:(Op.equalIn (9997+3) 103 (vl n v) (vl m u)).run prog w= .ok ((Ag n m)&&(((v.ma==u.ma)&&((v.mi==u.mi)&&((v.pa==u.pa)&&true)))&&true)) w:=
  (K6 kR kR (fs:= [⟨ "name",9,0,false, "", "halyard/catalog",0⟩,⟨ "version",52,1,false, "", "halyard/catalog",16⟩]) kR (Ec (x:=(Value.string n)) (y:=(Value.string m)) rfl kR kR (run_equalIn_string w _ 9 n m kR) (Ec (x:=(Value.agg #[vi v.ma,vi v.mi,vi v.pa])) (y:=(Value.agg #[vi u.ma,vi u.mi,vi u.pa])) rfl kR kR (K6 kR kR (fs:= [⟨ "Major",3,0,false, "", "",0⟩,⟨ "Minor",3,1,false, "", "",8⟩,⟨ "Patch",3,2,false, "", "",16⟩]) kR (Ec (x:=(vi v.ma)) (y:=(vi u.ma)) rfl kR kR (run_equalIn_int w _ 3 .i64 .i64 v.ma u.ma kR) (Ec (x:=(vi v.mi)) (y:=(vi u.mi)) rfl kR kR (run_equalIn_int w _ 3 .i64 .i64 v.mi u.mi kR) (Ec (x:=(vi v.pa)) (y:=(vi u.pa)) rfl kR kR (run_equalIn_int w _ 3 .i64 .i64 v.pa u.pa kR) K5)))) K5)))
 have e:((Ag n m)&&(((v.ma==u.ma)&&((v.mi==u.mi)&&((v.pa==u.pa)&&true)))&&true))=decide (n=m/\v=u):=by rw[FN,Bool.and_true,gp,dz,AG,fk,fk]
 rw[e]at h;exact h
def Xaz(n:Pr)(v:tj)(w:PU):∀(l:List MapEntry)(i:Nat),(∀x∈l,F6 x.key)->((∀x∈l,x.key≠vl n v)/\(Instr.findAsking 103 (vl n v) l i).run prog w= .ok none w)\/
  ∃(j:Nat) (e:MapEntry),l[j]?=some e/\e.key=vl n v/\(Instr.findAsking 103 (vl n v) l i).run prog w= .ok (some (i+j,e.val)) w
 | [],i,_=> .inl ⟨by simp,by simp[Instr.findAsking]⟩
 |e::es,i,h=>by
  obtain⟨m,u,hk⟩:=h e (.head _);have hq:=Zb7 n m v u w;rw[<-hk]at hq;by_cases he:n=m/\v=u
  .refine .inr ⟨0,e,rfl,by rw[hk];exact Hm.2 ⟨he.1.H,he.2.H⟩,?_⟩;simp only[Instr.findAsking,Sem.run_bind,hq,Result.andThen,fy he];rfl
  .have a4:e.key≠vl n v:=λq=>(by rw[hk]at q;have:=Hm.1 q;exact he ⟨this.1.H,this.2.H⟩);have a0:(Instr.findAsking 103 (vl n v) (e::es) i).run prog w=(Instr.findAsking 103 (vl n v) es (i+1)).run prog w:=(by simp only[Instr.findAsking,Sem.run_bind,hq,Result.andThen,fq he];rfl);rcases Xaz n v w es (i+1) (λx hx=>h x (.tail _ hx))with⟨h1,h2⟩|⟨j,e',h1,h2,h3⟩
   .exact .inl ⟨λx hx=>by
     cases hx with
     |head=>exact a4
     |tail _ hx=>exact h1 x hx,by rwa [a0]⟩
   .exact .inr ⟨j+1,e',by simpa using h1,h2,by rw[a0,h3,show i+1+j=i+(j+1) by omega]⟩
def Zg2:HT:=.agg #[.string ⟨#[]⟩,vi 0,vi 0,vi 0,.slice none 0 0,.slice none 0 0,.slice none 0 0]
def TT(v:tj)(e:Bool)(w:PU):(Instr.checkKey e 9999 52 (.agg #[vi v.ma,vi v.mi,vi v.pa])).run prog w= .ok () w:=by have hi:∀x:Int,(Instr.checkKey e 9998 3 (vi x)).run prog w= .ok () w:=λx=>run_checkKey (d:=.int .i64) (k:=.int .i64 x) underlying3 rfl e 9997;rw[Instr.checkKey];simp only[Sem.run_bind,run_underlying underlying52,Result.andThen];simp[Sem.run_bind,Result.andThen,part,run_underlying underlying3,hi]
def Z9(n:Pr)(v:tj)(e:Bool)(w:PU):(Instr.checkKey e 10000 103 (vl n v)).run prog w= .ok () w:=by have hs:(Instr.checkKey e 9999 9 (.string n)).run prog w= .ok () w:=run_checkKey (d:=.string) (k:=.string n) underlying9 trivial e 9998;unfold vl;rw[Instr.checkKey];simp only[Sem.run_bind,run_underlying underlying103,Result.andThen];simp[Sem.run_bind,Result.andThen,part,run_underlying underlying9,run_underlying underlying52,hs,TT v e w]
def Lz:ļ prog 98 F6 Zg2 where
 und:=⟨103,59,underlying98,Tryz.zeroValue59,λk ⟨n,v,h⟩ e w=>by subst h;exact Z9 n v e w,λk ⟨n,v,h⟩ l hl w=>by
  subst h;have a0:∀l:List MapEntry,(Instr.findKey 103 (vl n v) l).run prog w=(Instr.findAsking 103 (vl n v) l 0).run prog w:=by
   intro l;cases l with
   |nil=>simp[Instr.findKey,Instr.findNow,Instr.findAsking,run_underlying underlying103,Sem.run_bind,Result.andThen]
   |cons e es=>simp[Instr.findKey,Instr.findNow,Instr.sameNow,run_underlying underlying103,Sem.run_bind,Result.andThen]
  rw[a0];rcases Xaz n v w l 0 hl with h|⟨j,e,h1,h2,h3⟩
  .exact .inl h
  .exact .inr ⟨j,e,h1,h2,by rw[kj]at h3;exact h3⟩⟩
 stay:=λk ⟨n,v,h⟩=>by subst h;simp[vl,Instr.sameBits,Go.MapKept.bytes_beq]
end Go.Hal
namespace Go.Hal
def Rx(hs:No ru w S s l)(hR:∀w',AI w w'->R (Au l) w'):Hx s w R:=by
 unfold Hx;have hl:=hs.len;refine Of.up hs.max (λi w'=>AI w w'/\Bb none (l.take i)=true) ⟨AI.refl _,rfl⟩ λi w0 c5 hi ⟨x0,hI⟩ hn=>⟨λb5=>?_,λc3=>?_⟩
 .have a4:i<l.length:=oM;obtain⟨ad,t,ha,_,b6,hr,hc⟩:=BF hs a4;have b7:=Uo a4 hI;refine⟨ad,⟨ha,oM,b5⟩,_,t,hc _ xT,An.intro λa w1 x1 hb b9 _=>tk.intro hb sI λb8 b2 _ a5=>sf.drew λw2 x2=>?_⟩;have c6:AI w0 b8:=b2.U x1 oM;refine⟨_,a5.at0 xT rfl,CI.V (ux b6 λw3 x3=>⟨_,rfl,IN ?_⟩)⟩;refine⟨t,λ_=>a5.at1 xT rfl,IS.intro (AN l[i].range) (λ_ q hq=>G5.V (Ü (hr.U xT) λw' hx=>⟨_,rfl,hq _ hx⟩)) λt2 w4 x4 a7=>IN ?_⟩;refine⟨t,λ_=>a5.at1 xT rfl,IN (IN ?_)⟩;have a6:∀h0:0<i,DM none (l.take i)=some (l[i - 1]'oM).Y:=λh0=>by have:=Vq (l:=l) (n:=i - 1) oM;rw[<-this];congr 2;omega
  have hd:∃(a0:LP) (u:Pr),(decide ((0:Int)<(i:Int))=true->(s.a=some a0/\(0:Int)<=Aa ((i:Int) - 1)/\Aa ((i:Int) - 1)<(s.len:Int))/\sh w4 (a0.add ((Aa ((i:Int) - 1)).toNat*2)) [.string u]/\DM none (l.take i)=some u):=by
   by_cases h0:0<i
   .have ew:=W4 h0 hi hs.max;obtain⟨a8,t',a9,_,c4,_,b0⟩:=BF hs (n:=i - 1) oM;exact⟨a8,_,λ_=>⟨by rw[ew];exact⟨a9,oM,oM⟩,by rw[ew];exact(b0 _ xT).pre rfl,a6 h0⟩⟩
   .exact⟨ad,⟨#[]⟩,λh=>by simp at h;omega⟩
  obtain⟨a0,u,hu⟩:=hd;have hg:∀{b:Bool},(!b&&decide ((0:Int)<(i:Int)))=true->decide ((0:Int)<(i:Int))=true:=λh=>by simp only[dz]at h;exact h.2
  refine⟨a0,λhb=>(hu (hg hb)).1,u,λhb=>(hu (hg hb)).2.1,_,λ_=>a5.at0 xT rfl,?_⟩;have e:((((!Ae l[i].Y)||(!t2))||((t.len:Int)==0))||(decide ((0:Int)<(i:Int))&&(!Ak u l[i].Y)))= !Bb none (l.take (i+1)):=by
   rw[b7,Kq];have e0:((t.len:Int)==0)=l[i].range.isEmpty:=by rw[hr.len];cases l[i].range<;>simp;omega
   rw[e0];cases h1:Ae l[i].Y
   .simp
   .rw[h1]at a7;rw[a7 rfl];cases h2:AN l[i].range
    .simp
    .cases h3:l[i].range.isEmpty
     .by_cases h0:0<i
      .have hb:decide ((0:Int)<(i:Int))=true:=(by simpa using h0);rw[hb,(hu hb).2.2];simp[FX]
      .have hb:decide ((0:Int)<(i:Int))=false:=(by simp;omega);have b4:i=0:=oM;subst b4;simp[DM,FX]
     .simp
  rw[e];refine⟨λh=>?_,λh=>hn a4 _ ⟨xT,by simpa using h⟩⟩;rw[<-Un (i:=i+1) (by simpa using h)];exact hR _ xT
 .have:i=l.length:=oM;rw[this,eh]at hI;have e:decide ((s.len:Int)<=16)=Au l:=by unfold Au;rw[hI,ic,js];omega
  rw[e];exact hR _ xT
def Eo(ns:List Pr):List (HT×HT):=ns.map λn=>(.string n,.int .i64 1)
def yc.one{K:HT->Prop}{m:List (HT×HT)}(h:yc K w r m){k u v:HT}(h1:(k,u)∈m)(h2:(k,v)∈m):u=v:=by have:=UW Prod.fst h.keys.1 h1 h2 rfl;exact jt Prod.snd this
def Qo{ns:List Pr}{k:Wp}(hs:No ru w0 S s l)(x0:AI w0 w)(hr:w0.heap.size<=r)(hm:yc HG w r (Eo ns))(e4:ns.Nodup)
  (hf:∀w',AI w0 w'-> ¬(ns++l.map (·.Y)).Nodup->R false w') (hk:∀w',AI w0 w'->(ns++l.map (·.Y)).Nodup->yc HG w' r (Eo (ns++l.map (·.Y)))->k w'):
  Of 0 w λb0 d2 d6=>((b0<(s.len:Int)->∃(d3:LP),(s.a=some d3/\(0:Int)<=b0/\b0<(s.len:Int))/\∃(a4:Pr) (a0:Sl),(sh d2 (d3.add (b0.toNat*2)) [(.string a4),a0.v])/\An d2 [(.string Ϥ),Sl.nil.v] 187 λa e8=>ry e8 a [(.string a4),a0.v] λe0=>∃(d0:Pr),(sh e0 a [(.string d0)])/\xe prog (Instr.lookup 229 (Value.map (some r)) (Value.string d0) false) e0 λe6 d9=>∃(d7:Int),e6=(vi d7)/\Ð prog (Instr.mapUpdate 229 (Value.map (some r)) (Value.string d0) (.int .i64 (Aa (d7+1)))) d9 λc4=>∃(d8:Pr),(sh c4 a [(.string d8)])/\xe prog (Instr.lookup 229 (Value.map (some r)) (Value.string d8) false) c4 λe7 c5=>∃(d1:Int),e7=(vi d1)/\((1<d1->R false c5)/\(¬(1<d1)->d6 (Aa (b0+1)) c5)))/\(¬(b0<(s.len:Int))->k d2)):=by
 have hl:=hs.len;refine Of.up hs.max (λi w'=>AI w0 w'/\(ns++(l.take i).map (·.Y)).Nodup/\yc HG w' r (Eo (ns++(l.take i).map (·.Y)))) ⟨x0,by simpa using e4,by simpa using hm⟩ λi w1 f6 hi ⟨x1,hI,hM⟩ hn=>⟨λe2=>?_,λf1=>?_⟩
 .have a9:i<l.length:=oM;obtain⟨ad,t,ha,_,f3,f5,hc⟩:=BF hs a9;refine⟨ad,⟨ha,oM,e2⟩,_,t,hc _ xT,An.intro λa w2 x2 hb f0 _=>tk.intro hb sI λw3 b3 _ c7=>⟨_,c7.sh.pre rfl,?_⟩⟩;have x3:AI w1 w3:=b3.U x2 oM;have e1:AI w0 w3:=x1.Z x3;have c6:=hM.U x3;have f2:=hM.lt;have e9:=x2.size;have a5:(l.take (i+1)).map (·.Y)=(l.take i).map (·.Y)++[l[i].Y]:=by rw[dw a9,gb];rfl
  rcases Ja Nb c6 (k:=.string l[i].Y) ⟨_,rfl⟩with⟨c3,b6⟩|⟨v,d4,b6⟩
  .refine⟨_,_,b6 false,0,rfl,?_⟩;refine Fi Nb c6 ⟨_,rfl⟩ c3 λw4 b4 e5 b7=>?_;have c8:AT w4 a [.string l[i].Y,t.v]:=b4.box c7 oM;have c9:AI w0 w4:=b4.U e1 hr;have b2:yc HG w4 r (Eo (ns++(l.take (i+1)).map (·.Y))):=(by rwa [a5,<-ff,Eo,gb]);refine⟨_,c8.sh.pre rfl,?_⟩;have a6:(Value.string l[i].Y,Value.int .i64 1)∈Eo (ns++(l.take (i+1)).map (·.Y)):=(by rw[a5,Eo];simp);rcases Ja Nb b2 (k:=.string l[i].Y) ⟨_,rfl⟩with⟨a7,_⟩|⟨v',b5,a8⟩
   .exact fm rfl (a7 _ a6)
   .have hv:v'= .int .i64 1:=b2.one b5 a6;subst hv;refine⟨_,_,a8 false,1,rfl,λh=>fm h dC,λ_=>hn a9 _ ⟨c9,?_,b2⟩⟩;rw[a5,<-ff,jl];refine⟨hI,by simp,λx hx y hy=>?_⟩;simp only[ep]at hy;subst hy;intro e;subst e;exact c3 (.string l[i].Y,.int .i64 1) (ij.2 ⟨_,hx,rfl⟩) rfl
  .obtain⟨n,e3,b8⟩:=ij.1 d4;simp only[Prod.mk.injEq,Value.string.injEq]at b8;obtain⟨b8,hv⟩:=b8;subst hv;refine⟨_,_,b6 false,1,rfl,?_⟩;refine Zmd Nb c6 ⟨_,rfl⟩ d4 λw4 m' b4 e5 b7 a6 _=>?_;have c8:AT w4 a [.string l[i].Y,t.v]:=b4.box c7 oM;have c9:AI w0 w4:=b4.U e1 hr;refine⟨_,c8.sh.pre rfl,?_⟩;rcases Ja Nb b7 (k:=.string l[i].Y) ⟨_,rfl⟩with⟨a7,_⟩|⟨v',b5,a8⟩
   .exact fm rfl (a7 _ a6)
   .have hv:v'= .int .i64 2:=b7.one b5 a6;subst hv;refine⟨_,_,a8 false,2,rfl,λ_=>hf _ c9 ?_,λh=>fm dC h⟩;intro d5;have b9:l.map (·.Y)=(l.take i).map (·.Y)++(l[i].Y::(l.drop (i+1)).map (·.Y)):=by
     conv=>lhs;rw[<-ga i l,gj a9,gb,io]
    rw[b9,<-ff,jl]at d5;exact d5.2.2 n e3 l[i].Y sI b8
 .have:i=l.length:=oM;rw[this,eh]at hI hM;exact hk _ x1 hI hM
def Vs{e:Sl}(hb:AT w a [d.v,e.v,o.v]):(i=0->sh w (a.add (i*1)) [d.v])/\(i=1->sh w (a.add (i*1)) [e.v])/\(i=2->sh w (a.add (i*1)) [o.v]):=
 ⟨λh=>by subst h;exact hb.sh.I rfl,λh=>by subst h;exact hb.sh.I rfl,λh=>by subst h;exact hb.sh.I rfl⟩
def Zgx{e:Sl}{ld le lo:Θ}(hb:AT w a [d.v,e.v,o.v])(hd:No ru w S d ld)(he:No ru w S e le)(ho:No ru w S o lo)
  (hR:∀w',AI w w'->R (decide ((ld++le++lo).map (·.Y)).Nodup) w'):Mb (Sl.mk (some a) 3 3) w R:=by
 refine OC (K:=HG) λr w1 x1 b6 b2=>⟨some r,rfl,?_⟩;have a5:∀w',AI w w'->∀l2,¬l2.Nodup->(∃t,(ld++le++lo).map (·.Y)=l2++t)->R false w':=λw' hx l2 hn ⟨t,ht⟩=>by have:decide ((ld++le++lo).map (·.Y)).Nodup=false:=fq λh=>hn (by rw[ht,jl]at h;exact h.1);rw[<-this];exact hR _ hx
 refine Of.up (N:=3) dC (λi w'=>AI w w'/\∃ns:List Pr,ns.Nodup/\yc HG w' r (Eo ns)/\(i=0->ns=[])/\(i=1->ns=ld.map (·.Y))/\(i=2->ns=(ld++le).map (·.Y))/\(i=3->ns=(ld++le++lo).map (·.Y)))
  ⟨x1,[],List.nodup_nil,b2,λ_=>rfl,λh=>by omega,λh=>by omega,λh=>by omega⟩ λi w2 b7 hi ⟨x2,ns,a7,hM,h0,h1,h2,h3⟩ hn=>⟨λb0=>?_,λb5=>?_⟩
 .have b4:i<3:=by have:((Sl.mk (some a) 3 3).len:Int)=3:=rfl;omega
  have a9:=Vs (i:=i) (hb.U x2);have hr:w.heap.size<=r:=oM;have a8:i=0\/i=1\/i=2:=oM;obtain rfl|rfl|rfl:=a8
  .refine⟨a,⟨rfl,oM,b0⟩,d,a9.1 rfl,Qo hd x2 hr hM a7 (λw' hx a6=>?_) λw' hx a0 a4=>hn oM _ ⟨hx,_,a0,a4,λh=>by omega,λ_=>?_,λh=>by omega,λh=>by omega⟩⟩
   .exact a5 _ hx _ a6 ⟨(le++lo).map (·.Y),by rw[h0 rfl];simp⟩
   .rw[h0 rfl];simp
  .refine⟨a,⟨rfl,oM,b0⟩,e,a9.2.1 rfl,Qo he x2 hr hM a7 (λw' hx a6=>?_) λw' hx a0 a4=>hn oM _ ⟨hx,_,a0,a4,λh=>by omega,λh=>by omega,λh=>?_,λh=>by omega⟩⟩
   .exact a5 _ hx _ a6 ⟨lo.map (·.Y),by rw[h1 rfl];simp⟩
   .rw[h1 rfl];simp
  .refine⟨a,⟨rfl,oM,b0⟩,o,a9.2.2 rfl,Qo ho x2 hr hM a7 (λw' hx a6=>?_) λw' hx a0 a4=>hn oM _ ⟨hx,_,a0,a4,λh=>by omega,λh=>by omega,λh=>by omega,λh=>?_⟩⟩
   .exact a5 _ hx _ a6 ⟨[],by rw[h2 rfl];simp⟩
   .rw[h2 rfl];simp
 .have:i=3:=by have:((Sl.mk (some a) 3 3).len:Int)=3:=rfl;omega
  have:decide ((ld++le++lo).map (·.Y)).Nodup=true:=fy (by rwa [<-h3 this]);rw[<-this];exact hR _ x2
def ĕ(b:Nat)(l:LU)(w:PU):Prop:=Lib.IsBuilderF 169 5 b b (Lib.byteCells l) w
def Zjo{base:Nat}{e:LN}{size:Nat}{v:HT}{n:Nat}{xs:LV}(h:w.ownsRowF base e size v n xs)(hx:AI w w'):w'.ownsRowF base e size v n xs:=by
 obtain⟨h1,h2⟩:=h;refine⟨h1,?_⟩;rcases h2 with h2|⟨g,cap,a0,fz,a,b,c,d⟩
 .exact .inl h2
 .exact .inr ⟨g,cap,a0,fz,a,b,(hx.block (fb.1 c).1).Z c,d⟩
def TH{T e:LN}{B:Nat}{p:HT}{bs:LV}(h:Lib.BuilderAtF T e B b p bs w)(hx:AI w w'):Lib.BuilderAtF T e B b p bs w':=by obtain⟨h1,v,h2,h3,h4⟩:=h;exact⟨h1,v,(hx.block (fb.1 h2).1).Z h2,Zjo h3 hx,h4⟩
def ĕ.U{l:LU}(h:ĕ b l w)(hx:AI w w'):ĕ b l w':=h.imp (λh=>TH h hx) (λh=>TH h hx)
def NL(w:PU):ĕ w.heap.size [] (w.alloc (.cells [Value.pointer none,Sl.nil.v].toArray 169)):=
 .inl ⟨fx _,_,heap_alloc_new w _,⟨rfl,.inl ⟨rfl,rfl⟩⟩,by simp[Value.ownBlock,Sl.v,Sl.nil]⟩
def Qe:Builder.Extra prog Tryz.ċ:={sizeBuilder:=by kernel_rfl,liesBuilder:=by kernel_rfl,t5:=underlying5,a5:=Tryz.isAgg5,z5:=Tryz.sizeOf5,v5:=Tryz.zeroValue5,infoByte:=by kernel_rfl,cellsByte:=by kernel_rfl,sizeByte:=by kernel_rfl,neB5:=by decide}
def Ie{l m:LU}{k:Ë}(hB:ĕ b l w)(h0:w0.heap.size=b)(x0:AI w0 w)(hl:l.length+m.length<=140737488355328)
  (hk:∀w' n,AI w0 w'->ĕ b (l++m) w'->k (.tuple #[vi n,.nilIface]) w'):sx prog 93 [.pointer (some ⟨b,0,none⟩),.string (B m)] w k:=by
 have h:=Any.Builder_WriteString_k {Tryz.ŵ with} Qe b b (Lib.byteCells l) (B m) w hB (by rwa [Lib.byteCells_length,Ac]) (by have:=x0.size;omega);refine h.O λe w' ⟨he,hb,a0,_⟩=>⟨_,he,hk w' _ (x0.W (by rwa [h0])) (.inr ?_)⟩;have e:Lib.byteCells l++Lib.strCells (B m)=Lib.byteCells (l++m):=by rw[Lib.strCells_eq,Fk];simp[Lib.byteCells]
 rw[e]at hb;exact hb
def NK{l:LU}{k:Ë}(hB:ĕ b l w)(h0:w0.heap.size=b)(x0:AI w0 w)(hk:∀w',AI w0 w'->k (.string (B l)) w'):sx prog 96 [.pointer (some ⟨b,0,none⟩)] w k:=by have h:=Any.Builder_String_any_k {Tryz.ŵ with} Qe b b l w hB (by have:=x0.size;omega);exact h.O λe w' ⟨he,_,a0,_⟩=>⟨_,he,hk w' (x0.W (by rwa [h0]))⟩
def Rw{wd t0:LU}{R:Wp}(ht:Þ w0)(hw:wd.length<=8)(hm:Au l=true)(h0:w0.heap.size=b)(x0:AI w0 w)(hB:ĕ b t0 w)(hs:No ru w0 S s l)(b2:t0.length<=1000000)
  (hR:∀w',AI w0 w'->ĕ b (t0++B1 wd l) w'->R w'):Hw (some ⟨b,0,none⟩) (B wd) s w R:=by
 unfold Hw;have hl:=hs.len;obtain⟨b4,a6⟩:=B5 hm;refine Of.up hs.max (λi w'=>AI w0 w'/\ĕ b (t0++B1 wd (l.take i)) w') ⟨x0,by simpa[B1]using hB⟩ λi w1 b9 hi ⟨x1,hI⟩ hn=>⟨λa8=>?_,λb6=>?_⟩
 .have a0:i<l.length:=oM;obtain⟨ad,t,ha,_,b8,hr,hc⟩:=BF hs a0;have hd:=a6 _ (fe a0);have h1:=CM hw (l:=l.take i) λd hd=>(a6 d (kw hd)).1;rw[fg,kq oM]at h1;have h2:=Cn hd.1;have h3:=OU l[i].range;refine⟨ad,⟨ha,oM,a8⟩,_,t,hc _ xT,An.intro λa w2 x2 hb b5 _=>tk.intro hb sI λa9 b3 _ a5=>sf.drew λw3 x3=>?_⟩;have b0:AI w1 a9:=b3.U x2 oM;have a4:AI w1 w3:=b0.Z x3;rw[AZ];refine⟨by rw[Ac,A6,Al];simp;omega,_,a5.at0 xT rfl,?_⟩;rw[Dx l[i].Y,A9,AZ];refine⟨by rw[Ac,Ac,Al];simp;omega,by rw[Ac,A6,Al];simp;omega,t,a5.at1 xT rfl,tf.intro (JB.V (Xi (ht.U (x1.Z a4)) (hr.U (x1.Z a4)) λw4 x4=>⟨x4,_,rfl,?_⟩))⟩;rw[A9,AZ];have b7:(((((wd++[32])++l[i].Y.toList)++[32])++Cb l[i].range)++[10]).length<=2030:=by simp;omega
  refine⟨by rw[Ac,Ac,Al];simp;omega,by rw[Ac,A6,Al];simp;omega,Ie (m:=(((((wd++[32])++l[i].Y.toList)++[32])++Cb l[i].range)++[10])) (hI.U (a4.Z x4)) h0 (x1.Z (a4.Z x4)) (by rw[du];omega) λw5 n x5 a7=>⟨_,_,rfl,hn a0 _ ⟨x5,?_⟩⟩⟩;rwa [dw a0,Qx,Hb,<-ff]
 .have:i=l.length:=oM;rw[this,eh]at hI;exact hR _ x1 hI
def Wq{p:su}{e:Sl}{R:Í}(ht:Þ w)(hm:CA p=true)(hd:No ru w S d p.ss)(he:No ru w S e p.ta)(ho:No ru w S o p.uq)
  (hR:∀w',AI w w'->R (B (C0 p)) w'):Jh p.Y p.v.ma p.v.mi p.v.pa d e o w R:=by
 unfold Jh;unfold CA at hm;simp only[dz]at hm;obtain⟨⟨⟨⟨hn,hv⟩,h1⟩,h2⟩,h3⟩:=hm;have n1:=B5 h1;have n2:=B5 h2;have n3:=B5 h3;have l1:=CM (vv:=yd) dC λd hd=>(n1.2 d hd).1;have l2:=CM (vv:=Nm) dC λd hd=>(n2.2 d hd).1;have l3:=CM (vv:=yv) dC λd hd=>(n3.2 d hd).1;have b2:=Cn hn;have b4:=Dd p.v;refine An.intro λ_ w1 x1 hb _ _=>?_;intro a1 w2 b0 a5;subst b0;have x2:AI w1 w2:=a5▸AI.alloc _ _;have a6:ĕ w1.heap.size [] w2:=a5▸NL w1;refine sf.drew λw3 x3=>?_;have a0:AI w1 w3:=x2.Z x3;have t1:Þ w1:=ht.U x1;refine⟨_,hb.at0 a0 rfl,?_⟩;rw[Dx p.Y];simp only[CB,AZ];refine⟨by rw[A6,Ac,Al];simp;omega,by rw[Ac,A6,Al];simp;omega,?_⟩;refine⟨_,_,_,hb.at1 a0 rfl,tf.intro (DQ.V (vy (v:=p.v) (t1.U a0) λw4 x4=>⟨x4,_,rfl,?_⟩))⟩;simp only[A9,AZ];have hh:=Zds hn p.v;refine⟨by rw[Ac,Ac,Al];simp;omega,by rw[Ac,A6,Al];simp;omega,Ie (m:=IK p.Y p.v) (a6.U (x3.Z x4)) rfl (a0.Z x4) (by simp;omega) λw5 n5 x5 a4=>⟨_,_,rfl,?_⟩⟩;rw[ip]at a4;refine⟨d,hb.at1 x5 rfl,Hw.V (vv:=B yd) (Rw t1 dC h1 rfl x5 a4 (hd.U x1) oM λw6 x6 a7=>⟨rfl,?_⟩)⟩;refine⟨e,hb.at1 x6 rfl,Hw.V (vv:=B Nm) (Rw t1 dC h2 rfl x6 a7 (he.U x1) (by simp;omega) λw7 x7 a8=>⟨rfl,?_⟩)⟩;refine⟨o,hb.at1 x7 rfl,Hw.V (vv:=B yv) (Rw t1 dC h3 rfl x7 a8 (ho.U x1) (by simp;omega) λw8 x8 a9=>⟨rfl,?_⟩)⟩;exact NK a9 rfl x8 λw9 x9=>⟨_,rfl,hR _ (x1.Z x9)⟩
def OH{p:su}{e:Sl}(ht:Þ w)(hN:Ad p.Y)(hd:No ru w S d p.ss)(he:No ru w S e p.ta)(ho:No ru w S o p.uq)
  (hR:∀w',AI w w'->R (AJ p) w'):Gy p.Y p.v.ma p.v.mi p.v.pa d e o w R:=by
 refine An.intro λ_ w1 x1 hb _ _=>?_;refine⟨_,lD,?_⟩;refine CI.V (ux hN λw2 x2=>⟨_,rfl,?_⟩);refine⟨p.v.ma,p.v.mi,p.v.pa,λ_=>hb.at1 xT rfl,IS.intro p.v.vt (λ_ q hq=>Ez.V (HK (v:=p.v) λw' hx=>⟨_,rfl,hq _ hx⟩)) λt1 w3 x3 a6=>IN ?_⟩;refine⟨d,λ_=>hb.at1 xT rfl,IS.intro (Au p.ss) (λ_ q hq=>Hx.V (Rx (hd.U xT) λw' hx=>⟨_,rfl,hq _ hx⟩)) λt2 w4 x4 a5=>IN ?_⟩;refine⟨e,λ_=>hb.at1 xT rfl,IS.intro (Au p.ta) (λ_ q hq=>Hx.V (Rx (he.U xT) λw' hx=>⟨_,rfl,hq _ hx⟩)) λt3 w5 x5 a4=>IN ?_⟩;refine⟨o,λ_=>hb.at1 xT rfl,IS.intro (Au p.uq) (λ_ q hq=>Hx.V (Rx (ho.U xT) λw' hx=>⟨_,rfl,hq _ hx⟩)) λt4 w6 x6 a0=>?_⟩;have e1:((((Ae p.Y&&t1)&&t2)&&t3)&&t4)=CA p:=by
  unfold CA;cases h1:Ae p.Y
  .simp
  rw[h1]at a6 a5 a4 a0;rw[a6 rfl]at a5 a4 a0 ⊢;cases h2:p.v.vt
  .simp
  rw[h2]at a5 a4 a0;rw[a5 rfl]at a4 a0 ⊢;cases h3:Au p.ss
  .simp
  rw[h3]at a4 a0;rw[a4 rfl]at a0 ⊢;cases h4:Au p.ta
  .simp
  rw[h4]at a0;rw[a0 rfl]
 rw[e1];refine IN ⟨d,λ_=>hb.at1 xT rfl,e,λ_=>hb.at1 xT rfl,o,λ_=>hb.at1 xT rfl,?_⟩;cases hm:CA p
 .have:AJ p=false:=by unfold AJ;rw[hm];rfl
  rw[this]at hR;refine⟨λh=>by(cases h),λ_=>⟨λh=>by(cases h),λ_=>IN ?_⟩⟩;refine⟨p.Y,p.v.ma,p.v.mi,p.v.pa,d,e,o,λh=>by(cases h),⟨λh=>by(cases h),λ_=>hR _ xT⟩⟩
 .refine⟨λ_=>An.intro λa w7 x7 a7 _ _=>⟨λ_=>Mb.V (Zgx a7 (hd.U xT) (he.U xT) (ho.U xT) λw8 x8=>⟨_,rfl,IN ?_⟩),λh=>by(cases h)⟩,λh=>by(cases h)⟩;rw[YR hm];refine⟨p.Y,p.v.ma,p.v.mi,p.v.pa,d,e,o,λ_=>hb.at0 xT rfl,IS.intro (B (C0 p)) (λ_ q hq=>Jh.V (Wq (ht.U xT) hm (hd.U xT) (he.U xT) (ho.U xT) λw' hx=>⟨_,rfl,hq _ hx⟩)) λt7 a9 b0 a8=>?_⟩;have e3:((true&&Fv p)&&decide ((t7.size:Int)<=4096))=AJ p:=by
   unfold AJ;rw[hm,ic,ic];cases h1:Fv p
   .rfl
   rw[a8 (by rw[h1];rfl),Ac,ic,ic,js];omega
  rw[e3];exact hR _ xT
def OF.flat{α:Type}{E:xn α}{T:LN}{l:List α}(hf:∀{w S S' x cs},E.rep w S x cs->E.rep w S' x cs)(h:OF E T w lo S s l):OF E T w lo se s l:=by obtain⟨css,ho,hl,hr⟩:=h.row;exact⟨⟨css,ho,hl,λi x hx=>let⟨cs,a,b⟩:=hr i x hx;⟨cs,a,hf b⟩⟩,h.len,λ_ h=>h.F,λ_ _ h=>h.F⟩
def OF.empty{α:Type}{E:xn α}{T:LN}(w:PU):OF E T (w.alloc (.cells #[] T)) w.heap.size se ⟨some ⟨w.heap.size,0,none⟩,0,0⟩ ([]:List α):=
 ⟨⟨[],⟨by simp,.inr ⟨w.heap.size,0,#[],rfl,fx _,heap_alloc_new w _,fx _,ib _,by simp,by simp⟩⟩,rfl,λi x h=>by simp at h⟩,rfl,λ_ h=>h.F,λ_ _ h=>h.F⟩
def T2:Bk prog 132 223 6 48:=CL (z:=.agg #[vi 0,vi 0,vi 0,vi 0,vi 0,vi 0]) kR kR rfl dC
def Qk{l:Κ}{R:Sl->Wp}(hS:Old S w)(hs:No uo w S s l)(hR:∀t w',AI w w'->zu uo w' (λb=>w.heap.size<=b/\b<w'.heap.size) t l->R t w'):H9 s w R:=by
 unfold H9;refine⟨λh=>?_,λh=>?_⟩
 .have:l=[]:=by
   rcases hs.2.2.2.2 with h0|⟨ad,h1,_⟩
   .exact h0
   .rw[h]at h1;cases h1
  subst this;exact hR _ _ xR zu.nil
 .intro a w1 ha hw;subst ha;have x1:AI w w1:=hw▸AI.alloc _ _;have uy:OF uo 223 w1 w.heap.size se ⟨some ⟨w.heap.size,0,none⟩,0,0⟩ []:=hw▸OF.empty w;refine uy.yx T2 x1.size (hs.U x1) (hS.U x1.size) (λad ha hb=>?_) (by simpa using hs.2.2.2.1) (by simpa using hs.max) λr w2 a0 vh _ _=>?_
  .simp only[eu]at ha;subst ha;have:=hS _ hb;simp at this
  .rw[ip]at a0;have a4:=a0.flat λh=>h;exact hR _ _ (x1.W vh) ((a4.Xbg hs.2.2.2.1 hs.max).O λb hb=>by
    rcases hb with hb|⟨ad,ha,rfl⟩
    .exact hb.F
    .have:=a4.block ha;exact⟨this.1,this.2.1⟩)
def No.IN{α:Type}{E:xn α}{l:List α}(hf:∀{w S S' x cs},E.rep w S x cs->E.rep w S' x cs)(hn:0<E.n)(h:No E w S s l):No E w (λb=>S b/\b<w.heap.size) s l:=by
 refine⟨h.1,h.2.1,h.2.2.1,h.2.2.2.1,?_⟩;rcases h.2.2.2.2 with h0|⟨ad,h1,h2,h3⟩
 .exact .inl h0
 .cases l with
  |nil=>exact .inl rfl
  |cons x r=>refine .inr ⟨ad,h1,⟨h2,?_⟩,λi y hy=>let⟨cs,a,b⟩:=h3 i y hy;⟨cs,hf a,b⟩⟩;obtain⟨cs,a,b⟩:=h3 0 x rfl;have hl:=E.len a;have hc:=b 0 cs[0] (dt oM);have:=World.block_lt_of_cell? w _ hc;rw[CW,CW]at this;exact this
def NQ{R:Sl->Wp}(hS:Old S w)(hs:No ru w S s l)(hR:∀t w',AI w w'->zu Ô w' (λb=>w.heap.size<=b/\b<w'.heap.size) t l->R t w'):GZ s w R:=by
 unfold GZ;have hl:=hs.len;refine th.up hs.max (λsw i w'=>AI w w'/\∃Q,OF Ô 187 w' w.heap.size Q sw (l.take i)/\∀b,Q b->w.heap.size<=b) ⟨AI.refl _,_,OF.zero _,λ_ h=>h.F⟩ λsw i w0 c8 hi ⟨x0,Q,uy,hQ⟩ hn=>⟨λb6=>?_,λc6=>?_⟩
 .have a0:i<l.length:=oM;obtain⟨ad,t,ha,_,b7,hr,hc⟩:=BF hs a0;refine⟨ad,⟨ha,oM,b6⟩,_,t,hc _ xT,An.intro λa w1 x1 hb c5 _=>tk.intro hb sI λb9 b2 _ a8=>sf.drew λw2 x2=>?_⟩;have c3:AI w0 b9:=b2.U x1 oM;have a4:AI w0 w2:=c3.Z x2;refine⟨_,a8.at0 xT rfl,t,a8.at1 xT rfl,tf.intro (H9.V (Qk (hS.U (x0.Z a4).size) (hr.U (x0.Z a4)) λu w3 x3 hu=>⟨x3,_,rfl,?_⟩))⟩;refine An.intro λa7 w4 x4 b5 c4 c7=>?_;have a6:AI w0 w4:=a4.Z (x3.Z x4);have s2:=(x0.Z a4).size;have c9:=a4.size;have s4:=x4.size;have b8:=(hu.U x4).O (S':=λb=>w2.heap.size<=b/\b<w4.heap.size) λb hb=>⟨hb.1,oM⟩;have a5:(l.take i).length=i:=by rw[fg];omega
  have h4:=hs.2.2.2.1;have b0:ru.bytes=40:=rfl;have b4:Ô.bytes=40:=rfl;refine(uy.U a6).push JU (x0.Z a6).size (x:=l[i]) (S':=λb=>w2.heap.size<=b/\b<w4.heap.size) ⟨b7,u,rfl,b8⟩ b5.sh (λb hb=>hb.2) (λad ha hb=>?_) (by rw[a5];rw[b0]at h4;rw[b4];omega) (by rw[a5];have:=hs.max;omega) λr w5 a9 vh _ _=>hn a0 _ _ ⟨(x0.Z a6).W vh,_,by rwa [dw a0],λb hb=>?_⟩
  .have:=(uy.block ha).2.1;omega
  .obtain hb|hb:=hb
   .exact hQ b hb
   .omega
 .have:i=l.length:=oM;rw[this,eh]at uy;refine hR _ _ x0 ((uy.Xbg hs.2.2.2.1 hs.max).O λb hb=>?_);rcases hb with hb|⟨ad,ha,rfl⟩
  .exact⟨hQ b hb,uy.lt b hb⟩
  .have:=uy.block ha;exact⟨this.1,this.2.1⟩
def uv.size(h:uv g w w'):w.heap.size<=w'.heap.size:=h.1
def No.tz{α:Type}{E:xn α}{l:List α}(h:No E w S s l)(hb:uv g w w')(hn: ¬S g):No E w' S s l:=h.sj (hb.sj hn)
def Uc{p:su}{e:Sl}{R:Pr->Int->Int->Int->Sl->Sl->Sl->Wp}(hS:Old S w)(hd:No ru w S d p.ss)(he:No ru w S e p.ta)(ho:No ru w S o p.uq)
  (hR:∀d' e' o' w',AI w w'->zu Ô w' (λb=>w.heap.size<=b/\b<w'.heap.size) d' p.ss->zu Ô w' (λb=>w.heap.size<=b/\b<w'.heap.size) e' p.ta->zu Ô w' (λb=>w.heap.size<=b/\b<w'.heap.size) o' p.uq->R p.Y p.v.ma p.v.mi p.v.pa d' e' o' w'):
  Il p.Y p.v.ma p.v.mi p.v.pa d e o w R:=by
 refine An.intro λa w1 x1 hb ha _=>An.intro λa1 w2 x2 a6 c6 c7=>sf.drew λw3 x3=>?_;have a0:AI w w3:=x1.Z (x2.Z x3);have s1:=x1.size;have s2:=x2.size;have s3:=x3.size;refine⟨d,hb.at1 (x2.Z x3) rfl,e,hb.at1 (x2.Z x3) rfl,o,hb.at1 (x2.Z x3) rfl,?_⟩;refine tf.intro (GZ.V (NQ (hS.U a0.size) (hd.U a0) λd' w4 x4 b6=>⟨x4,_,rfl,?_⟩));refine tf.intro (GZ.V (NQ (hS.U (a0.Z x4).size) (he.U (a0.Z x4)) λe' w5 x5 c3=>⟨x5,_,rfl,?_⟩));refine GZ.V (NQ (hS.U (a0.Z (x4.Z x5)).size) (ho.U (a0.Z (x4.Z x5))) λo' w6 x6 c4=>⟨_,rfl,?_⟩);have s4:=x4.size;have s5:=x5.size;have s6:=x6.size;have c5:AI w w6:=a0.Z (x4.Z (x5.Z x6));have k1:a.block<w3.heap.size:=by have:=hb.lt;omega
 have k2:a1.block<w3.heap.size:=by have:=a6.lt;omega
 have hD:=(b6.U (x5.Z x6)).O (S':=λb=>w3.heap.size<=b/\b<w6.heap.size) λb hb=>⟨hb.1,oM⟩;have hE:=(c3.U x6).O (S':=λb=>w3.heap.size<=b/\b<w6.heap.size) λb hb=>⟨oM,oM⟩;have hO:=c4.O (S':=λb=>w3.heap.size<=b/\b<w6.heap.size) λb hb=>⟨oM,oM⟩;have b0:AT w6 a _:=hb.U (x2.Z (x3.Z (x4.Z (x5.Z x6))));have a8:AT w6 a1 _:=a6.U (x3.Z (x4.Z (x5.Z x6)));refine ry.intro b0 sI λw7 b7 _ b2=>ry.intro b2 sI λw8 b8 _ b4=>ry.intro b4 sI λw9 b9 _ b5=>⟨_,_,_,_,_,_,_,b5.sh.pre rfl,?_⟩;have a5:a1.block≠a.block:=by have:=hb.lt;omega
 refine tk.intro (b9.box (b8.box (b7.box a8 a5) a5) a5) sI λa9 a4 _ a7=>⟨_,_,_,_,_,_,_,a7.sh.pre rfl,?_⟩;have n1: ¬(w3.heap.size<=a.block/\a.block<w6.heap.size):=oM;have n2: ¬(w3.heap.size<=a1.block/\a1.block<w6.heap.size):=oM;have z7:=b7.size;have z8:=b8.size;have z9:=b9.size;have c8:=a4.size;have up:∀b,(w3.heap.size<=b/\b<w6.heap.size)->(w.heap.size<=b/\b<a9.heap.size):=λb hb=>⟨oM,oM⟩;refine hR d' e' o' a9 ?_ (((((hD.tz b7 n1).tz b8 n1).tz b9 n1).tz a4 n2).O up) (((((hE.tz b7 n1).tz b8 n1).tz b9 n1).tz a4 n2).O up) (((((hO.tz b7 n1).tz b8 n1).tz b9 n1).tz a4 n2).O up);exact a4.U (b9.U (b8.U (b7.U c5 oM) oM) oM) oM
section
variable {P:LD} {mt:LN} {K:HT->Prop} {zero:HT} {w:PU} {r:Nat} {m:List (HT×HT)}
def č(T:ļ P mt K zero)(h:yc K w r m){k:HT}(hk:K k)(hn:∀p∈m,p.1≠k):C3 P (Instr.lookup mt (.map (some r)) k true) w (.tuple #[zero,.bool false]):=λw' hx=>by
 rcases Ja T (h.U hx) hk with⟨_,hr⟩|⟨v,a0,_⟩
 .exact hr true
 .exact fm rfl (hn _ a0)
def Rf(T:ļ P mt K zero)(h:yc K w r m){k v:HT}(hk:K k)(a0:(k,v)∈m):C3 P (Instr.lookup mt (.map (some r)) k true) w (.tuple #[v,.bool true]):=λw' hx=>by
 rcases Ja T (h.U hx) hk with⟨hn,_⟩|⟨u,hu,hr⟩
 .exact fm rfl (hn _ a0)
 .rw[(h.U hx).one a0 hu];exact hr true
def Zfb(hu:P.underlying mt=some (.map kt et))(h:yc K w r m):C3 P (Builtin.len_ #[mt] 3 #[.map (some r)]) w (vi m.length):=λw' hx=>Zfa hu (h.U hx)
end
def Gw(x:su)(d e o:Sl):HT:=.agg #[.string x.Y,vi x.v.ma,vi x.v.mi,vi x.v.pa,d.v,e.v,o.v]
def Ė(w:PU)(S:Nat->Prop)(x:su)(kv:HT×HT):Prop:=∃d e o,kv=(vl x.Y x.v,Gw x d e o)/\Ad x.Y/\No ru w S d x.ss/\No ru w S e x.ta/\No ru w S o x.uq
structure õ(w:PU)(S:Nat->Prop)(p:LP)(r:Nat)(ps:Ι):Prop where
 box:AT w p [.map (some r)]
 map:∃m,yc F6 w r m/\m.length=ps.length/\∀(i:Nat)(x:su),ps[i]?=some x->∃kv,m[i]?=some kv/\Ė w S x kv
 tm:Old S w
 free: ¬S r/\ ¬S p.block
 ne:p.block≠r
def Ė.O{S':Nat->Prop}{x:su}{kv:HT×HT}(h:Ė w S x kv)(hs:∀b,S b->S' b):Ė w S' x kv:=by obtain⟨d,e,o,h1,h2,h3,h4,h5⟩:=h;exact⟨d,e,o,h1,h2,h3.O hs,h4.O hs,h5.O hs⟩
def Ė.sj{x:su}{kv:HT×HT}(h:Ė w S x kv)(hk:ï S w w'):Ė w' S x kv:=by obtain⟨d,e,o,h1,h2,h3,h4,h5⟩:=h;exact⟨d,e,o,h1,h2,h3.sj hk,h4.sj hk,h5.sj hk⟩
def õ.U(h:õ w S p r ps)(hx:AI w w'):õ w' S p r ps:=by obtain⟨m,h1,h2,h3⟩:=h.map;exact⟨h.box.U hx,⟨m,h1.U hx,h2,λi x hi=>let⟨kv,a,b⟩:=h3 i x hi;⟨kv,a,b.sj (hx.sj S)⟩⟩,h.tm.U hx.size,h.free,h.ne⟩
def õ.stay(h:õ w S p r ps)(a0:w.heap.size<=w'.heap.size)(hk:∀b,b<w.heap.size->(S b\/b=p.block\/b=r)->w'.heap[b]?=w.heap[b]?):õ w' S p r ps:=by obtain⟨m,h1,h2,h3⟩:=h.map;refine⟨h.box.sj (S:=λb=>b=p.block) rfl λb hb hl=>hk b hl (.inr (.inl hb)),⟨m,h1.of (hk r h1.lt (.inr (.inr rfl))),h2,λi x hi=>let⟨kv,a,b⟩:=h3 i x hi;⟨kv,a,b.sj λc hc hl=>hk c hl (.inl hc)⟩⟩,h.tm.U a0,h.free,h.ne⟩
def CH(n:Pr)(v:tj)(x:su):Bool:=decide (x.Y=n/\x.v=v)
def õ.find(h:õ w S p r ps)(n:Pr)(v:tj):
  ∃m,yc F6 w r m/\m.length=ps.length/\((ps.find? (CH n v)=none/\∀kv∈m,kv.1≠vl n v)\/∃x d e o,ps.find? (CH n v)=some x/\(vl n v,Gw x d e o)∈m/\Ad x.Y/\No ru w S d x.ss/\No ru w S e x.ta/\No ru w S o x.uq):=by
 obtain⟨m,h1,h2,h3⟩:=h.map;refine⟨m,h1,h2,?_⟩;cases hf:ps.find? (CH n v)with
 |none=>refine .inl ⟨rfl,λkv a5=>?_⟩;obtain⟨i,hi,he⟩:=gc.1 a5;have a0:i<ps.length:=oM;obtain⟨a6,ha,d,e,o,hb,_⟩:=h3 i _ (dt a0);rw[dt hi,he,eu]at ha;subst ha;subst hb;intro hk;have:=lx.1 hf _ (fe a0);have a4:=Hm.1 hk;exact this (by simp[CH,a4.1,a4.2])
 |some x=>have hx:=qk hf;simp only[CH,fk]at hx;obtain⟨i,hi,he⟩:=gc.1 (na hf);obtain⟨kv,ha,d,e,o,hb,hr⟩:=h3 i _ (dt hi);rw[he]at hb hr;subst hb;exact .inr ⟨x,d,e,o,rfl,by rw[<-hx.1,<-hx.2];exact ik ha,hr⟩
def Zz{R:Qd->Wp}(hR:∀p r w',AI w w'->õ w' se p r []->w.heap.size<=r->w.heap.size<=p.block->R (some p) w'):Ik w R:=by
 refine OC (K:=F6) λr w1 x1 a0 hm=>⟨some r,rfl,An.intro λa w2 x2 hb ha _=>hR a r w2 (x1.Z x2) ⟨hb,⟨[],hm.U x2,rfl,λi x h=>by simp at h⟩,λ_ h=>h.F,⟨λh=>h,λh=>h⟩,?_⟩ oM ?_⟩
 .have:=hm.lt;omega
 .have:=x1.size;omega
def D8(ps:Ι)(x:su):Int×Ι:=
 if AJ x=false then(24,ps)else if(ps.find? (CH x.Y x.v)).isSome then(11,ps)else if 128<=ps.length then(26,ps)else(0,ps++[x])
def õ.add{x:su}{e:Sl}{B:Nat}(h:õ w S p r ps)(hn:ps.find? (CH x.Y x.v)=none)(hN:Ad x.Y)(hB:r<B/\p.block<B)
  (hd:No ru w (λb=>B<=b/\b<w.heap.size) d x.ss) (he:No ru w (λb=>B<=b/\b<w.heap.size) e x.ta) (ho:No ru w (λb=>B<=b/\b<w.heap.size) o x.uq) {c:Wp}
  (hc:∀w',uv r w w'->õ w' (λb=>S b\/(B<=b/\b<w.heap.size)) p r (ps++[x])->c w'):Ð prog (Instr.mapUpdate 98 (.map (some r)) (vl x.Y x.v) (Gw x d e o)) w c:=by
 obtain⟨m,hm,hl,hf⟩:=h.find x.Y x.v;have b0:∀kv∈m,kv.1≠vl x.Y x.v:=by
  rcases hf with⟨_,h⟩|⟨y,_,_,_,hy,_⟩
  .exact h
  .rw[hn]at hy;cases hy
 obtain⟨m',a7,b5,a5⟩:=h.map;have a9:m'=m:=by obtain⟨es,cl,a,_,rfl,_⟩:=hm;obtain⟨b4,b2,a',_,rfl,_⟩:=a7;rw[a]at a';cases a';rfl
 subst a9;refine Fi Lz hm ⟨_,_,rfl⟩ b0 λw' hb b6 a8=>hc w' hb ?_;have hS: ¬(S r\/(B<=r/\r<w.heap.size)):=λhh=>by
  obtain hh|hh:=hh
  .exact h.free.1 hh
  .omega
 refine⟨hb.box h.box h.ne,⟨_,a8,by simp[hl],λi y hi=>?_⟩,λb a0=>?_,⟨hS,λhh=>?_⟩,h.ne⟩
 .rw[ni]at hi;split at hi
  .rename_i a6;obtain⟨kv,a,b⟩:=a5 i y hi;exact⟨kv,by rwa [gl oM],(b.O λ_ h=>.inl h).sj (hb.sj hS)⟩
  .rename_i a6;have a4:i - ps.length=0:=by
    rcases kg (i - ps.length)with h0|h0
    .exact h0
    .rw[iw (by simp;omega)]at hi;cases hi
   rw[a4]at hi;simp only[jk,eu]at hi;subst hi;have:Ė w (λb=>S b\/(B<=b/\b<w.heap.size)) x (vl x.Y x.v,Gw x d e o):=⟨d,e,o,rfl,hN,hd.O λ_ h=>.inr h,he.O λ_ h=>.inr h,ho.O λ_ h=>.inr h⟩;exact⟨_,by rw[ii oM,hl,a4];rfl,this.sj (hb.sj hS)⟩
 .have:=hb.size;obtain a0|a0:=a0
  .have:=h.tm b a0;omega
  .omega
 .obtain hh|hh:=hh
  .exact h.free.2 hh
  .omega
def Z2{x:su}{e:Sl}{R:È}(ht:Þ w)(hC:õ w S p r ps)(hN:Ad x.Y)(c7:Old S2 w)
  (hd:No ru w S2 d x.ss) (he:No ru w S2 e x.ta) (ho:No ru w S2 o x.uq)
  (hR:∀S' w',uv r w w'->õ w' S' p r (D8 ps x).2->(∀b,S b->S' b)->(∀b,S' b->S b\/w.heap.size<=b)->R (D8 ps x).1 w'):Ij (some p) x.Y x.v.ma x.v.mi x.v.pa d e o w R:=by
 unfold Ij;have d7:r<w.heap.size:=by obtain⟨m,hm,_⟩:=hC.map;exact hm.lt
 have d6:=hC.box.lt;refine An.intro λa w1 x1 hb _ _=>⟨_,_,_,_,_,_,_,hb.sh.pre rfl,Gy.V (OH (p:=x) (ht.U x1) hN (hd.U x1) (he.U x1) (ho.U x1) λw2 x2=>⟨_,rfl,λh=>?_,λh=>?_⟩)⟩
 .have e:AJ x=false:=by simpa using h
  have hp:D8 ps x=(24,ps):=by unfold D8;rw[fl e]
  have:=hR S w2 ((x1.Z x2).tz r) (by rw[hp];exact hC.U (x1.Z x2)) (λ_ h=>h) (λ_ h=>.inl h);rw[hp]at this;exact this
 have a9:AJ x=true:=by simpa using h
 have d4:=x1.Z x2;refine⟨_,hb.at0 x2 rfl,_,_,_,hb.at1 x2 rfl,An.intro λa4 w3 x3 b0 _ _=>tk.intro b0 sI λw4 b4 _ b0=>sf.drew λw5 x5=>?_⟩;have s1:=x1.size;have s2:=x2.size;have s3:=x3.size;have d5:AI w2 w4:=b4.U x3 oM;have c4:AI w2 w5:=d5.Z x5;have b2:AI w w5:=d4.Z c4;have a8:=hC.U b2;refine⟨p,rfl,some r,a8.box.sh,_,_,_,_,b0.at0 x5 rfl,?_⟩;obtain⟨m,hm,hl,hf⟩:=a8.find x.Y x.v;rcases hf with⟨a5,d1⟩|⟨y,dy,ey,oy,b6,d0,_,_,_,_⟩
 .refine⟨_,_,_,_,Sl.nil,Sl.nil,Sl.nil,false,č Lz hm ⟨_,_,rfl⟩ d1,An.intro λc5 w6 x6 a0 _ _=>tk.intro a0 sI λw7 b7 _ a0=>⟨λh=>by(cases h),λ_=>?_⟩⟩;have a6:AI w5 w7:=b7.U x6 oM;have b9:=a8.U a6;refine⟨p,rfl,some r,b9.box.sh,_,Zfb underlying98 (hm.U a6),λh=>?_,λh=>sf.drew λw8 x8=>?_⟩
  .have hp:D8 ps x=(26,ps):=by unfold D8;rw[fa (by rw[a9];simp),fa (by rw[a5];simp),fl oM]
   have:=hR S w7 ((b2.Z a6).tz r) (by rwa [hp]) (λ_ h=>h) (λ_ h=>.inl h);rw[hp]at this;exact this
  .have hp:D8 ps x=(0,ps++[x]):=by unfold D8;rw[fa (by rw[a9];simp),fa (by rw[a5];simp),fa oM]
   rw[hp]at hR;have b5:AI w5 w8:=a6.Z x8;have a7:AI w w8:=b2.Z b5;have c3:=a8.U b5;refine⟨p,rfl,some r,c3.box.sh,_,_,_,_,b0.at0 (x5.Z b5) rfl,_,_,_,_,_,_,_,hb.at0 (x2.Z (c4.Z b5)) rfl,?_⟩;refine tf.intro (Il.V (Uc (p:=x) (c7.U a7.size) (hd.U a7) (he.U a7) (ho.U a7) λd' e' o' w9 x9 c8 c9 d2=>⟨x9,_,_,_,_,d',e',o',rfl,?_⟩));have s8:=a7.size;refine(c3.U x9).add a5 hN ⟨oM,oM⟩ c8.dep c9.dep d2.dep λd3 c6 b8=>?_;refine hR _ d3 (((a7.Z x9).tz r).Z c6) b8 (λ_ h=>.inl h) λb hb=>?_;obtain hb|hb:=hb
   .exact .inl hb
   .right;omega
 .refine⟨_,_,_,_,dy,ey,oy,true,Rf Lz hm ⟨_,_,rfl⟩ d0,An.intro λc5 w6 x6 a0 _ _=>tk.intro a0 sI λw7 b7 _ a0=>⟨λ_=>?_,λh=>by(cases h)⟩⟩;have a6:AI w5 w7:=b7.U x6 oM;have hp:D8 ps x=(11,ps):=by unfold D8;rw[fa (by rw[a9];simp),fl (by rw[b6];rfl)]
  have:=hR S w7 ((b2.Z a6).tz r) (by rw[hp];exact a8.U a6) (λ_ h=>h) (λ_ h=>.inl h);rw[hp]at this;exact this
end Go.Hal
namespace Go.Hal
def wg.Ġ{α β:Type}{c:β->β->Int}(h:wg c)(f:α->β):wg (λa b=>c (f a) (f b)):=⟨λx y=>h.flip _ _,λx y z=>h.Z _ _ _⟩
def wg.swap{α:Type}{c:α->α->Int}(h:wg c):wg (λa b=>c b a):=⟨λx y=>h.flip _ _,λx y z h1 h2=>h.Z _ _ _ h2 h1⟩
def wg.or{α:Type}{c d:α->α->Int}(h:wg c)(k:wg d):wg (λa b=>AM (c a b) (d a b)) where
 flip:=λx y=>by
  have h1:=h.flip x y;have h2:=h.flip y x;have h3:=k.flip x y;have h0:=h.zero (x:=x) (y:=y);unfold AM;by_cases hc:c x y=0
  .simp only[hc,h0.1 hc,if_true];exact h3
  .have: ¬c y x=0:=λe=>hc (h0.2 e);simp only[hc,this,if_false];exact h1
 trans:=λx y z h1 h2=>by
  unfold AM at*;have z1:=h.zero (x:=x) (y:=y);have z2:=h.zero (x:=y) (y:=z);by_cases a:c x y=0<;>by_cases b:c y z=0
  .simp only[a,if_true]at h1;simp only[b,if_true]at h2;have e1:=h.Z x y z oM oM;have e2:=h.Z z y x (by rw[z2.1 b];omega) (by rw[z1.1 a];omega);have f1:=h.flip z x;have f2:=h.flip x z;have:c x z=0:=oM;simp only[this,if_true];exact k.Z x y z h1 h2
  .simp only[b,if_false]at h2;have:=h.Xbb (x:=x) (y:=y) (z:=z) oM oM;split<;>omega
  .simp only[a,if_false]at h1;have:=h.ĥ (x:=x) (y:=y) (z:=z) oM oM;split<;>omega
  .simp only[a,if_false]at h1;simp only[b,if_false]at h2;have:=h.ĥ (x:=x) (y:=y) (z:=z) oM oM;split<;>omega
def ÿ:wg BD:=⟨λx y=>by unfold BD;split<;>split<;>omega,λx y z=>by simp only[ZG];omega⟩
def tj.Ø:wg tj.cmp:=(ÿ.Ġ tj.ma).or ((ÿ.Ġ tj.mi).or (ÿ.Ġ tj.pa))
def Ru{a b:Int}:AM a b<0↔a<0\/(a=0/\b<0):=by unfold AM;split<;>omega
def cP(a b:su):Int:=AM (A8 a.Y b.Y) (b.v.cmp a.v)
def ŝ:wg cP:=(DJ su.Y).or ((tj.Ø.Ġ su.v).swap)
def Qf{a b:su}:cP a b=0↔a.Y=b.Y/\a.v=b.v:=by
 unfold cP AM;by_cases h:A8 a.Y b.Y=0
 .have e:=EA.1 h;rw[fl h,tj.cmp_eq];simp[e,eq_comm]
 .have: ¬a.Y=b.Y:=λe=>h (EA.2 e);simp[h,this]
def ľ(L:Ι):Prop:=L.Pairwise λa b=>cP a b<0
def Cl(a b:su):Bool:=decide (cP a b<0)
def Er(x:su)(L:Ι):Ι:=L.takeWhile (Cl · x)++x::L.dropWhile (Cl · x)
def R4(x:su)(L:Ι):(Er x L).Perm (L++[x]):=by unfold Er;refine List.perm_middle.Z ?_;rw[mz];exact(pc x L).H
def Zf1{α:Type}{p:α->Bool}{l:List α}{x:α}(h:x∈l.takeWhile p):p x=true:=by
 induction l with
 |nil=>cases h
 |cons a r ih=>
  rw[qb]at h;split at h
  .rename_i hp;obtain rfl|h:=gn.1 h
   .exact hp
   .exact ih h
  .cases h
def Zhh{x:su}(h:ľ L)(hn:∀y∈L,cP y x≠0):ľ (Er x L):=by
 unfold Er ľ at*;have a5:(L.takeWhile (Cl · x)).Sublist L:=List.takeWhile_sublist _;have a0:(L.dropWhile (Cl · x)).Sublist L:=oq _;have hd:∀y∈L.dropWhile (Cl · x),cP x y<0:=by
  intro y hy;cases hD:L.dropWhile (Cl · x)with
  |nil=>rw[hD]at hy;cases hy
  |cons a r=>
   have ha:Cl a x=false:=(by have:=List.head?_dropWhile_not (Cl · x) L;rw[hD]at this;simpa using this);have a4:cP x a<0:=by have h1: ¬cP a x<0:=(by simpa[Cl]using ha);have h2:=hn a (a0.subset (by rw[hD];exact .head _));exact(ŝ.flip x a).2 oM
   rw[hD]at hy a0;obtain rfl|hy:=gn.1 hy
   .exact a4
   .exact ŝ.ĥ a4 (Int.le_of_lt ((iq.1 (h.sublist a0)).1 y hy))
 refine jc.2 ⟨h.sublist a5,iq.2 ⟨hd,h.sublist a0⟩,λa ha b hb=>?_⟩;have a4:cP a x<0:=by simpa[Cl]using Zf1 ha
 obtain rfl|hb:=gn.1 hb
 .exact a4
 .exact ŝ.ĥ a4 (Int.le_of_lt (hd b hb))
def ľ.key(h:ľ L){a b:su}(ha:a∈L)(hb:b∈L)(hn:a.Y=b.Y)(hv:a.v=b.v):a=b:=by
 induction L with
 |nil=>cases ha
 |cons x r ih=>
  obtain⟨h1,h2⟩:=iq.1 h;rcases gn.1 ha with e|a0<;>obtain e'|a4:=gn.1 hb
  .rw[e,e']
  .subst e;have:=h1 b a4;rw[Qf.2 ⟨hn,hv⟩]at this;omega
  .subst e';have:=h1 a a0;rw[Qf.2 ⟨hn.H,hv.H⟩]at this;omega
  .exact ih h2 a0 a4
def AR(L:Ι)(n:Pr)(v:tj):Option su:=L.find? (CH n v)
def KF{v:tj}{x:su}(h:AR L n v=some x):x∈L/\x.Y=n/\x.v=v:=by have h1:=qk h;simp only[CH,fk]at h1;exact⟨na h,h1⟩
def Zdh(h:ľ L){x:su}(hx:x∈L):AR L x.Y x.v=some x:=by
 cases hg:AR L x.Y x.v with
 |none=>exact fm (by simp[CH]) (lx.1 hg x hx)
 |some y=>obtain⟨a,b,c⟩:=KF hg;rw[h.key a hx b c]
def UP(h:ľ L)(hp:L.Perm ps)(n:Pr)(v:tj):ps.find? (CH n v)=AR L n v:=by
 cases hg:AR L n v with
 |none=>rw[lx];intro x hx;exact lx.1 hg x (hp.mem_iff.2 hx)
 |some x=>
  obtain⟨a,b,c⟩:=KF hg;cases hf:ps.find? (CH n v)with
  |none=>exact fm (by simp[CH,b,c]) (lx.1 hf x (hp.mem_iff.1 a))
  |some y=>have h1:=qk hf;simp only[CH,fk]at h1;rw[h.key (hp.mem_iff.2 (na hf)) a (h1.1.Z b.H) (h1.2.Z c.H)]
structure zf(L:Ι):Prop where
 ord:ľ L
 le:L.length<=128
 vt:∀x∈L,AJ x=true
def zf.nil:zf []:=⟨.nil,by simp,by simp⟩
def BJ(L:Ι)(x:su):Int×Ι:=
 if AJ x=false then(24,L)else if(AR L x.Y x.v).isSome then(11,L)else if 128<=L.length then(26,L)else(0,Er x L)
def WH(h:zf L)(x:su):zf (BJ L x).2:=by
 unfold BJ;split
 .exact h
 .rename_i hm;split
  .exact h
  .rename_i hs;split
   .exact h
   .rename_i hl;have hp:=R4 x L;refine⟨Zhh h.ord λy hy e=>hs ?_,by show(Er x L).length<=128;rw[hp.length_eq];simp;omega,λy hy=>?_⟩
    .obtain⟨h1,h2⟩:=Qf.1 e;rw[<-h1,<-h2,Zdh h.ord hy];rfl
    .rcases fp.1 (hp.mem_iff.1 hy)with hy|hy
     .exact h.vt y hy
     .simp at hy;subst hy;simpa using hm
def Zhl(h:zf L)(hp:L.Perm ps)(x:su):(D8 ps x).1=(BJ L x).1/\(BJ L x).2.Perm (D8 ps x).2:=by
 unfold D8 BJ;rw[UP h.ord hp,hp.length_eq];split
 .exact⟨rfl,hp⟩
 .split
  .exact⟨rfl,hp⟩
  .split
   .exact⟨rfl,hp⟩
   .exact⟨rfl,(R4 x L).Z (hp.append_right _)⟩
def Dk(n:Pr)(x:su):Bool:=decide (x.Y=n)
def DB(n:Pr)(L:Ι):List tj:=(L.filter (Dk n)).map (·.v)
def Zmx(h:ľ L)(n:Pr):(DB n L).Pairwise λa b=>b.cmp a<0:=by unfold DB;rw[jb];have h1:(L.filter (Dk n)).Pairwise λa b=>cP a b<0:=h.sublist List.filter_sublist;refine h1.imp_of_mem λ{a b} ha hb hc=>?_;have ha:=(iz.1 ha).2;have hb:=(iz.1 hb).2;simp only[Dk,fk]at ha hb;unfold cP at hc;rw[Ru,ha,hb,EA.2 rfl]at hc;omega
def Zcz{l m:List tj}(h1:l.Pairwise λa b=>¬a.cmp b<0)(h2:m.Pairwise λa b=>b.cmp a<0)(hp:l.Perm m):l=m:=by
 have hn:m.Nodup:=by rw[il];refine h2.imp λ{a b} h e=>?_;subst e;have:=tj.cmp_eq.2 (rfl:a=a);omega
 have a0:=hp.nodup_iff.2 hn;rw[il]at a0;refine JA (R:=λa b:tj=>b.cmp a<0) (λx y a b=>?_) ((h1.and a0).imp λ{a b} h=>?_) h2 hp
 .have:=tj.Ø.flip x y;have:=tj.Ø.flip y x;omega
 .have h0:a.cmp b≠0:=λe=>h.2 (tj.cmp_eq.1 e);exact(tj.Ø.flip b a).2 oM
def Zmz(hp:L.Perm ps)(n:Pr):(DB n L).Perm ((ps.filter (Dk n)).map (·.v)):=(hp.filter _).map _
def Me(rv:Η)(n:Pr)(v:tj):Bool:=decide ((⟨n,v⟩:tn)∈rv)
def DI(L:Ι)(n:Pr)(l:Κ)(rv:Η):List tj:=
 let all:=(DB n L).filter (BT l)
 all.filter (Me rv n)++all.filter λv=>!Me rv n v
def CD(b:Bool):Int:=if b then 1 else 0
def cC(rv:Η)(n:Pr)(a b:tj):Int:=CD (Me rv n b) - CD (Me rv n a)
def Zl(rv:Η)(n:Pr):wg (cC rv n):=⟨λx y=>by unfold cC;omega,λx y z=>by unfold cC;omega⟩
def Zk6{α:Type}(p:α->Bool)(x:α)(l m:List α)(hl:∀y∈l,p y=true)(hm:∀y∈m,p y=false):
  Ci (λa b=>CD (p b) - CD (p a)) x (l++m)=if p x then x::(l++m)else l++x::m:=by
 induction l with
 |nil=>
  rw[ip];cases m with
  |nil=>simp[Ci]
  |cons y r=>have hy:=hm y (.head _);unfold Ci;rw[hy];have:CD false - CD (p x)<=0:=(by unfold CD;cases p x<;>decide);rw[fl this];simp
 |cons y r ih=>
  have hy:=hl y (.head _);rw[ig,Ci,hy];cases hx:p x
  .have: ¬(CD true - CD false<=0):=(by decide);rw[fa this,ih λz hz=>hl z (.tail _ hz),hx];simp
  .have:CD true - CD true<=0:=(by decide);rw[fl this];simp
def Zk9{α:Type}(p:α->Bool)(l:List α):Bw (λa b=>CD (p b) - CD (p a)) l=l.filter p++l.filter λx=>!p x:=by
 induction l with
 |nil=>rfl
 |cons x r ih=>rw[Bw,ih,Zk6 p x _ _ (λy hy=>(iz.1 hy).2) (λy hy=>by simpa using(iz.1 hy).2)];cases h:p x<;>simp[po,h]
def NP(L:Ι)(n:Pr)(l:Κ)(rv:Η):Bw (cC rv n) ((DB n L).filter (BT l))=DI L n l rv:=Zk9 (Me rv n) _
open Go.Lib Go.Sort
section
variable {α:Type} [Inhabited α]
def QM{k:Nat}(f:α->LV)(hk:∀x,(f x).length=k):∀(l:List α)(j:Nat),j<l.length*k->((l.map f).flatten)[j]?=some ((f (l.toArray[j/k]!))[j%k]!)
 | [],j,h=>by simp at h
 |a::l,j,h=>by
  have a0:0<k:=by
    obtain h0|h0:=kg k
    .rw[h0]at h;simp at h
    .exact h0
  rw[io,jm];by_cases hj:j<k
  .rw[gl (by rwa [hk]),Nat.div_eq_of_lt hj,Nat.mod_eq_of_lt hj,dt (by rwa [hk])];have:(f a)[j]! =(f a)[j]'(by rwa [hk]):=getElem!_pos _ _ (by rwa [hk]);simp[this]
  .rw[ii (by rw[hk];omega),hk];have h1:j - k<l.length*k:=by rw[fu,ku]at h;omega
   rw[QM f hk l (j - k) h1];have h2:j/k=(j - k)/k+1:=by rw[Nat.div_eq_sub_div a0 oM]
   have h3:j%k=(j - k)%k:=Nat.mod_eq_sub_mod oM;rw[h2,h3];simp
def Zdt{k:Nat}{f:α->LV}(hk:∀x,(f x).length=k){l:List α}{tail:LV}(h:tv f w g l tail):HoldsK f k w g 0 l.toArray:=by
 obtain⟨t,_,_,hb⟩:=h;intro j hj;have a0:j<l.length*k:=by simpa using hj
 rw[get_flatK _ _ _ _ (by simpa using a0)];have hg:=QM f hk l j a0;have a4:j<((l.map f).flatten).length:=by rwa [CN f hk]
 constructor
 .simp only[World.cell?,hb,kj];rw[kh];rw[gl a4,hg];rfl
 .simp[World.frozen?,hb]
def Wx{d d':Array α}(h:PermIn 0 d.size d d'):d'.toList.Perm d.toList:=by
 obtain⟨h1,_,h3⟩:=h;have e1:d'.extract 0 d.size=d':=by rw[<-h1];simp
 have e2:d.extract 0 d.size=d:=by simp
 rw[e1,e2]at h3;exact h3
def Xg{lt:α->α->Bool}{d d':Array α}(hs:d'.size=d.size)(h:SortedIn lt 0 d.size d'):d'.toList.Pairwise λx y=>lt y x=false:=by
 rw[gz];intro i j hi hj a0;have a4:j<d.size:=by rw[<-hs];simpa using hj
 have:=h i j (ib _) a0 a4;rw[getElem!_pos _ _ oM,getElem!_pos _ _ oM]at this;simpa using this
def WU{k:Nat}{f:α->LV}(hk:∀x,(f x).length=k){n:Nat}{l l':List α}{tail:LV}{os:Array Obj}(h:tv f w g l tail)(hl:l'.length=l.length):
  uv g w (sortWorldK f k w g 0 n l'.toArray os)/\tv f (sortWorldK f k w g 0 n l'.toArray os) g l' tail/\w.drawn<=(sortWorldK f k w g 0 n l'.toArray os).drawn:=by
 obtain⟨t,_,_,hb⟩:=h;have a4:g<w.heap.size:=(fb.1 hb).1;have hh:(sortWorldK f k w g 0 n l'.toArray os).heap=w.heap.modify g (onCells (putCells id 0 (flatK f k l'.toArray)))++os:=rfl;refine⟨⟨by rw[hh];simp,rfl,rfl,rfl,λb a0 a5=>?_⟩,⟨t,rfl,rfl,?_⟩,?_⟩
 .rw[hh,jz (by simpa using a0),nf,fa (Ne.H a5)]
 .rw[hh,jz (by simpa using a4),nf,fl rfl,hb];simp only[jp,onCells,eu,Obj.cells.injEq,and_true];apply Array.ext_getElem?;intro j;simp only[putCells,Array.getElem?_mapIdx,kh,ib,true_and,kj,rq,size_flatK,je,id];have e1:=CN f hk l;have e2:=CN f hk l';by_cases hj:j<l'.length*k
  .rw[gl (by rwa [e1,<-hl]),gl (by rwa [e2]),dt (by rwa [e1,<-hl])];simp only[jp,fl hj];rw[get_flatK _ _ _ _ (by simpa using hj),QM f hk l' j hj]
  .rw[ii (by rw[e1,<-hl];omega),ii (by rw[e2];omega),e1,e2,hl];cases tail[j - l.length*k]? with
   |none=>rfl
   |some v=>simp only[jp];rw[fa (by rwa [<-hl])]
 .show w.drawn<=w.drawn+n;omega
def FH{ρ:Ren}(L:SlLaysF0.n6 P ρ){k:Nat}(aE:∀w,(isAgg (ρ.t 24)).run P w= .ok true w)(zE:∀w,(Go.sizeOf (ρ.t 24)).run P w= .ok k w){f:α->LV}(hk:∀x,(f x).length=k)(h1:∀x,∀v∈f x,v.oneCell'=true)
  (cf:α->α->Int) (hO:SWO (ltOf cf)) (gf:Nat) (cb:Γ) (eg:∀args w,(callFunc gf args).run P w= .ok (.enter gf args) w)  {cap:Nat} {l:List α} {tail:LV}
  (a4:∀w0 x y,uv g w w0->w.drawn<=w0.drawn->Calls P gf (#[.agg (f x).toArray,.agg (f y).toArray]++cb) w0 λe w'=>e= .returned (vi (cf x y))/\∃q a9,w'=grow (w0.drewN q) a9)
  (hR:tv f w g l tail) (a8:l.length<4611686018427387904)  {F:Nat} (hF:ρ.f 6=F)
  (hK:∀l' w',l'.Perm l->l'.Pairwise (λx y=>¬cf y x<0)->uv g w w'->tv f w' g l' tail->K (.tuple #[]) w'):sx P F [Sl.v ⟨some ⟨g,0,none⟩,l.length,cap⟩,.func (.func gf) #[] cb] w K:=by
 subst hF;have a6:g<w.heap.size:=by obtain⟨t,_,_,hb⟩:=hR;exact(fb.1 hb).1
 have hC:CmpLays P gf cb f k cf g 0 l.toArray.size w:=λm os dk hs x y=>by have:=WU hk (n:=m) (os:=os) (l':=dk.toList) hR (by simpa using hs);exact a4 _ x y this.1 this.2.2
 have h:=AnyQ.slices_SortFunc L k aE zE f hk h1 cf hO gf cb g 0 cap l.toArray w eg hC (Zdt hk hR) a6 (by simpa using a8);refine h.O λe w' ⟨he,d',n,os,hp,hs,hw⟩=>⟨_,he,?_⟩;have a7:=Wx hp;have a5:d'.toList.length=l.length:=by simpa using hp.1
 have a0:=WU hk (n:=n) (os:=os) (l':=d'.toList) hR a5;rw[mm,<-hw]at a0;exact hK d'.toList w' (by simpa using a7) ((Xg hp.1 hs).imp λh=>by simpa[ltOf]using h) a0.1 a0.2.1
omit [Inhabited α]in
def Fe{cf:α->α->Int}(flip:∀x y,cf x y<0↔0<cf y x)(trans:∀x y z,cf x y<=0->cf y z<=0->cf x z<=0):SWO (ltOf cf) where
 irrefl x:=by have:=flip x x;simp only[ltOf,gk];omega
 trans x y z h1 h2:=by
  simp only[ltOf,fk]at*;have a:=flip x y;have b:=flip y z;have c:=flip x z;have d:=flip z x;have e:=flip z y;have f:=flip y x;have g:=trans x y z oM oM;by_cases h0:cf x z=0
  .have k:=trans z x y oM oM;omega
  .omega
 ntrans x y z h1 h2:=by simp only[ltOf,gk]at*;have a:=flip x y;have b:=flip y z;have c:=flip x z;have d:=flip z x;have e:=flip z y;have f:=flip y x;have:=trans z y x oM oM;omega
end
end Go.Hal
namespace Go.Hal
open Go.Sort
def Gr(w w':PU):Prop:=∃q os,w'=grow (w.drewN q) os
def Gr.refl(w:PU):Gr w w:=⟨0,#[],by simp[World.drewN]⟩
def Gr.Z{a b c:PU}(h:Gr a b)(k:Gr b c):Gr a c:=by obtain⟨q,os,rfl⟩:=h;obtain⟨r,a0,rfl⟩:=k;refine⟨q+r,os++a0,?_⟩;simp[grow,World.drewN,Array.append_assoc,rc]
def Gr.alloc(w:PU)(o:Obj):Gr w (w.alloc o):=⟨0,#[o],by simp[alloc_eq_grow,World.drewN]⟩
def Gr.drew(w:PU):Gr w w.drew:=⟨1,#[],(grow_empty (w.drewN 1)).H⟩
def Gr.U(h:Gr w w'):AI w w':=by obtain⟨q,os,rfl⟩:=h;exact⟨rfl,rfl,rfl,by simp[grow,World.drewN],λk hk=>by simp only[grow,World.drewN];rw[jz hk]⟩
def An.gr{t:LN}{k:Ì}(h:∀a w',Gr w w'->AT w' a cs->k a w'):An w cs t k:=λa w' ha hw=>by subst ha hw;exact h _ _ (Gr.alloc _ _) ⟨t,rfl,rfl,heap_alloc_new w _⟩
def sf.gr{k:Wp}(h:∀w',Gr w w'->k w'):sf w.drew k:=λ_ e=>h _ (e▸Gr.drew w)
def Gr.at0{cs' r:LV}(h:AT w a cs)(hx:Gr w w')(hp:cs=cs'++r):Go.Hal.sh w' a cs':=h.at0 hx.U hp
def Gr.at1{k:Nat}{cs' r:LV}(h:AT w a cs)(hx:Gr w w')(hp:cs.drop k=cs'++r):Go.Hal.sh w' (a.add k) cs':=h.at1 hx.U hp
def Yb{a b:tj}{R:È}(hR:∀w',Gr w w'->R (a.cmp b) w'):Fj a.ma a.mi a.pa b.ma b.mi b.pa w R:=by refine An.gr λ_ w1 x1 hb=>An.gr λ_ w2 x2 a4=>sf.gr λw3 x3=>?_;have a0:=x2.Z x3;refine⟨_,Gr.at0 hb a0 rfl,_,Gr.at0 a4 x3 rfl,?_⟩;refine⟨_,Gr.at1 hb a0 rfl,_,Gr.at1 a4 x3 rfl,?_⟩;refine⟨_,Gr.at1 hb a0 rfl,_,Gr.at1 a4 x3 rfl,?_⟩;refine tf.intro (Ea.V (yy ⟨AI.refl _,_,rfl,tf.intro (Ea.V (yy ⟨AI.refl _,_,rfl,Ea.V (yy ⟨_,rfl,?_⟩)⟩))⟩));refine An.gr λa6 w4 x4 a5=>EB.V (TZ (NN (l:=[_,_,_]) a5 sI) ⟨_,rfl,?_⟩);exact hR _ (x1.Z (a0.Z x4))
def Zcy{a b:tj}{R:È}(hR:∀w',Gr w w'->R (b.cmp a) w'):Kh a.ma a.mi a.pa b.ma b.mi b.pa w R:=by refine An.gr λ_ w1 x1 hb=>An.gr λ_ w2 x2 a0=>?_;refine⟨_,_,_,Gr.at0 a0 (Gr.refl _) rfl,_,_,_,Gr.at0 hb x2 rfl,Fj.V (Yb (a:=b) (b:=a) λw3 x3=>⟨_,rfl,hR _ (x1.Z (x2.Z x3))⟩)⟩
def ZH(x:LU):∀y:LU,Lib.compareBytes x y=if Op.bytesLess x y=true then -1 else if x=y then 0 else 1:=by
 induction x with
 |nil=>intro y;cases y<;>simp[Lib.compareBytes,Op.bytesLess]
 |cons u x ih=>
  intro y;cases y with
  |nil=>simp[Lib.compareBytes,Op.bytesLess]
  |cons v y=>
   rw[NJ];simp only[Lib.compareBytes];by_cases h1:u<v
   .simp[h1]
   .by_cases h2:v<u
    .have a0: ¬u=v:=λe=>(by subst e;exact h1 h2);simp[h1,h2,a0]
    .have he:u=v:=UInt8.le_antisymm (UInt8.not_lt.1 h2) (UInt8.not_lt.1 h1);subst he;simp[ih y]
def ZF(a b:Pr):Lib.compareBytes a.data.toList b.data.toList=A8 a b:=by
 rw[ZH];have e1:Op.bytesLess a.data.toList b.data.toList=Ak a b:=by rw[<-toList_data,<-toList_data];rfl
 rw[e1,A8];cases h:Ak a b
 .simp only[nt,if_false];by_cases he:a=b
  .subst he;simp[AG.2 rfl]
  .have h2: ¬a.data.toList=b.data.toList:=λe=>he (GV e);have h3:Ag a b=false:=(by rw[nz];exact λe=>he (AG.1 e));simp[h2,h3]
 .simp
def Fd{a b:Pr}{k:Ë}(hk:k (vi (A8 a b)) w):sx prog 66 [.string a,.string b] w k:=
 (Any.strings_Compare Tryz.Xcx a b w).O λe w' ⟨he,hw⟩=>⟨_,he,by rwa [hw,ZF]⟩
end Go.Hal
/-
 DERIVED:THE SHELF's CONTRACTS AT THIS DUMP,IN PLAIN WORDS (tools/lay-plain.mjs sw of 'YtgolaibmophnjaaGreatDoorLay2.lean',which tools/lay-shelf.mjs wrote):THE SAME DECLARATIONS UNDER THE SAME NAMES:'import','namespace','open','def','theorem' AND NOTHING ELSE:no command of the shelf's:FOR A HAND-IN. Each laying:the table of numbers ('.._ren') and one theorem,a field a fact of the dump's uy or the kernel's comparison;each contract:ONE APPLICATION.
-/
namespace Go.Proofs
def Fx{i:OK}{F:Func}(h:(match P.funcs[i]? with|some g=>(g.name== "runtime.NumGoroutine")|none=>true)=false)(he:P.funcs[i]? =some {F with name:=((P.funcs[i]?).getD F).name}):Bears P i F:=
 ⟨_,by rw[he]at h;exact h,he⟩
def Tryz.Xao:Go.Shelf.Ren:=⟨λ|6=>272|15=>106|14=>331|28=>171|29=>172|20=>332|21=>362|22=>363|23=>364|24=>365|25=>366|26=>367|27=>368|46=>388|47=>258|48=>259|49=>389|50=>390|57=>410|n=>n,λ|22=>128|24=>52|25=>160|3=>3|39=>185|0=>0|53=>249|55=>251|4=>4|46=>242|45=>241|50=>246|5=>5|9=>9|66=>317|70=>321|76=>366|77=>367|n=>n,λ|n=>n⟩
def Tryz.Xb5:Go.Proofs.SlLaysF0.n6 prog Tryz.Xao:=by repeat' first|kernel_rfl|exact Fx kR kR|(intro w;kernel_rfl)|constructor
def Tryz.Xam:Go.Shelf.Ren:=⟨λ|6=>120|15=>106|14=>198|28=>171|29=>172|20=>276|21=>277|22=>278|23=>279|24=>280|25=>281|26=>282|27=>283|46=>334|47=>258|48=>259|49=>335|50=>336|57=>370|n=>n,λ|22=>53|24=>150|25=>207|3=>3|39=>185|0=>0|53=>249|55=>251|4=>4|46=>242|45=>241|50=>246|5=>5|9=>9|66=>317|70=>321|76=>366|77=>367|n=>n,λ|n=>n⟩
def Tryz.Ķ:Go.Proofs.SlLaysF0.n6 prog Tryz.Xam:=by repeat' first|kernel_rfl|exact Fx kR kR|(intro w;kernel_rfl)|constructor
end Go.Proofs
namespace Go.Hal
def zk(w:PU)(S:Nat->Prop)(p:LP)(r:Nat)(L:Ι):Prop:=∃ps,õ w S p r ps/\L.Perm ps/\zf L
def zk.U(h:zk w S p r L)(hx:AI w w'):zk w' S p r L:=by obtain⟨ps,a,b,c⟩:=h;exact⟨ps,a.U hx,b,c⟩
def zk.Ģ(h:zk w S p r L):zf L:=by obtain⟨_,_,_,c⟩:=h;exact c
def Xa0{R:Qd->Wp}(hR:∀p r w',AI w w'->zk w' se p r []->w.heap.size<=r->w.heap.size<=p.block->R (some p) w'):Ik w R:=
 Zz λp r w' hx hC h1 h2=>hR p r w' hx ⟨[],hC,jr _,zf.nil⟩ h1 h2
def Z1{x:su}{e:Sl}{R:È}(ht:Þ w)(hC:zk w S p r L)(hN:Ad x.Y)(a4:Old S2 w)
  (hd:No ru w S2 d x.ss) (he:No ru w S2 e x.ta) (ho:No ru w S2 o x.uq)
  (hR:∀S' w',uv r w w'->zk w' S' p r (BJ L x).2->(∀b,S b->S' b)->(∀b,S' b->S b\/w.heap.size<=b)->R (BJ L x).1 w'):Ij (some p) x.Y x.v.ma x.v.mi x.v.pa d e o w R:=by
 obtain⟨ps,h1,h2,h3⟩:=hC;obtain⟨e1,e2⟩:=Zhl h3 h2 x;refine Z2 ht h1 hN a4 hd he ho λS' w' b a0 hs a5=>?_;rw[e1];exact hR S' w' b ⟨_,a0,e2,WH h3 x⟩ hs a5
def SN:su:=⟨⟨#[]⟩,⟨0,0,0⟩,[],[],[]⟩
def getD(L:Ι)(n:Pr)(v:tj):su:=(AR L n v).getD SN
def Kc{v:tj}{R:Pr->Int->Int->Int->Sl->Sl->Sl->É}(hC:zk w S p r L)
  (hR:∀d e o w',AI w w'->Ad (getD L n v).Y->zu Ô w' (λb=>w.heap.size<=b/\b<w'.heap.size) d (getD L n v).ss->zu Ô w' (λb=>w.heap.size<=b/\b<w'.heap.size) e (getD L n v).ta->zu Ô w' (λb=>w.heap.size<=b/\b<w'.heap.size) o (getD L n v).uq->
   R (getD L n v).Y (getD L n v).v.ma (getD L n v).v.mi (getD L n v).v.pa d e o (AR L n v).isSome w'):Fz (some p) n v.ma v.mi v.pa w R:=by
 unfold Fz;obtain⟨ps,hC,hp,hg⟩:=hC;refine An.intro λa w1 x1 hb _ _=>An.intro λa1 w2 x2 a9 c8 _=>sf.drew λw3 x3=>?_;have a8:AI w w3:=x1.Z (x2.Z x3);have a4:=hC.U a8;refine⟨p,rfl,some r,a4.box.sh,v.ma,v.mi,v.pa,hb.at0 (x2.Z x3) rfl,?_⟩;obtain⟨m,hm,hl,hf⟩:=a4.find n v;rw[UP hg.ord hp]at hf;have key:∃(d e o:Sl),C3 prog (Instr.lookup 98 (.map (some r)) (vl n v) true) w3 (.tuple #[Gw (getD L n v) d e o,.bool (AR L n v).isSome])/\Ad (getD L n v).Y/\No ru w3 S d (getD L n v).ss/\No ru w3 S e (getD L n v).ta/\No ru w3 S o (getD L n v).uq:=by
  rcases hf with⟨a5,c5⟩|⟨y,dy,ey,oy,a7,c4,hN,h1,h2,h3⟩
  .unfold getD;rw[a5];exact⟨Sl.nil,Sl.nil,Sl.nil,č Lz hm ⟨_,_,rfl⟩ c5,by unfold Ad;exact ib _,No.nil trivial,No.nil trivial,No.nil trivial⟩
  .unfold getD;rw[a7];exact⟨dy,ey,oy,Rf Lz hm ⟨_,_,rfl⟩ c4,hN,h1,h2,h3⟩
 obtain⟨d,e,o,c7,hN,hd,he,ho⟩:=key;generalize hY:getD L n v=y at*;refine⟨y.Y,y.v.ma,y.v.mi,y.v.pa,d,e,o,(AR L n v).isSome,c7,An.intro λa6 w4 x4 b6 c9 _=>tk.intro b6 sI λw5 b5 _ b4=>?_⟩;have s3:=a8.size;have s4:=x4.size;have s2:=x2.size;have s1:=x1.size;have d1:=x3.size;have a0:AI w3 w5:=b5.U x4 oM;refine⟨_,_,_,_,_,_,_,b4.sh.pre rfl,Il.V (Uc (p:=y) (S:=S) ((a4.tm).U a0.size) (hd.U a0) (he.U a0) (ho.U a0) λd' e' o' w6 x6 b9 c3 c6=>⟨_,_,_,_,_,_,_,rfl,?_⟩)⟩;have b2:=a0.Z x6;have s5:=a0.size;have s6:=x6.size;have b0:=a9.U (x3.Z b2);refine tk.intro b0 sI λw7 b7 _ b8=>⟨_,_,_,_,_,_,_,b8.sh.pre rfl,?_⟩;have d0:=a9.lt;have n1: ¬(w5.heap.size<=a1.block/\a1.block<w6.heap.size):=oM;have s7:=b7.size;have up:∀b,(w5.heap.size<=b/\b<w6.heap.size)->(w.heap.size<=b/\b<w7.heap.size):=λb hb=>⟨oM,oM⟩;exact hR d' e' o' w7 (b7.U (a8.Z b2) oM) hN ((b9.tz b7 n1).O up) ((c3.tz b7 n1).O up) ((c6.tz b7 n1).O up)
def YP:Bk prog 128 52 3 24:=CL (z:=.agg #[vi 0,vi 0,vi 0]) kR kR rfl dC
def Zbo:Bm prog 273:=enters_of func273 kR rfl
def Zef:∀w,(isAgg 52).run prog w= .ok true w:=λw=>by kernel_rfl
def Zkf:∀w,(Go.sizeOf 52).run prog w= .ok 3 w:=λw=>by kernel_rfl
instance:Inhabited tj:=⟨⟨0,0,0⟩⟩
instance:Inhabited tn:=⟨⟨⟨#[]⟩,⟨0,0,0⟩⟩⟩
def Zks{cap:Nat}{l:List tj}{tail:LV}(hR:tv tj.c w g l tail)(a0:l.length<4611686018427387904)
  (hK:∀l' w',l'.Perm l->l'.Pairwise (λx y=>¬x.cmp y<0)->uv g w w'->tv tj.c w' g l' tail->K (.tuple #[]) w'):
  sx prog 272 [Sl.v ⟨some ⟨g,0,none⟩,l.length,cap⟩,.func (.func 273) #[] #[]] w K:=by
 have hO:=tj.Ø.swap;refine FH Tryz.Xb5 (k:=3) Zef Zkf (f:=tj.c) (λ_=>rfl) (λx v hv=>by simp[tj.c]at hv;rcases hv with rfl|rfl|rfl<;>rfl) (λa b=>b.cmp a) (Fe hO.flip hO.Z) 273 #[] Zbo (λw0 x y hb _=>?_) hR a0 rfl hK;have h:=Kh.V (k:=λv w'=>v= .int .i64 (y.cmp x)/\Gr w0 w') (Zcy (a:=x) (b:=y) (w:=w0) λw' h=>⟨rfl,h⟩);exact Calls.O h λe w' ⟨v,he,hv,hg⟩=>⟨by rw[he,hv],hg⟩
def tq{α:Type}(f:α->LV)(bytes:Nat)(w:PU)(lo:Nat)(s:Sl)(l:List α):Prop:=
 s.len=l.length/\l.length<=s.cap/\s.cap<=maxLen/\l.length*bytes<=Ab/\(l=[]\/∃g tail,s.a=some ⟨g,0,none⟩/\lo<=g/\tv f w g l tail)
section
variable {α:Type} {f:α->LV} {bytes:Nat} {w w':PU} {lo:Nat} {s:Sl} {l:List α}
def tq.A{E:xn α}(h:tq f E.bytes w lo s l)(hk:∀x,(f x).length=E.n)(hE:∀w S,∀x∈l,E.rep w S x (f x)):No E w (λb=>lo<=b/\b<w.heap.size) s l:=by
 obtain⟨h1,h2,h3,h4,h5⟩:=h;refine⟨h1,h2,h3,h4,?_⟩;rcases h5 with h5|⟨g,tail,ha,hg,hr⟩
 .exact .inl h5
 .exact .inr ⟨_,ha,⟨hg,hr.lt⟩,λi x hx=>⟨f x,hE _ _ x (ik hx),hr.Ĥ hk hx⟩⟩
def tq.U(h:tq f bytes w lo s l)(hx:AI w w'):tq f bytes w' lo s l:=by obtain⟨h1,h2,h3,h4,h5⟩:=h;exact⟨h1,h2,h3,h4,h5.imp id λ⟨g,tail,a,b,c⟩=>⟨g,tail,a,b,c.U hx⟩⟩
def tq.of{E:xn α}{T:LN}(hE:∀x cs,E.rep w S x cs->cs=f x)(h:OF E T w lo S s l)(hb:l.length*bytes<=Ab):tq f bytes w lo s l:=by
 rcases OF.Xbv f (λy x=>y=x) (λx cs hr=>⟨x,hE x cs hr,rfl⟩) h with⟨rfl,rfl⟩|⟨g,z,tail,ha,hg,hz,hr,hR,hc,hm⟩
 .exact⟨rfl,fx _,ib _,hb,.inl rfl⟩
 .have e:z.map Prod.fst=l:=by rw[<-hz];exact od λp hp=>hr p hp
  rw[e]at hR;exact⟨h.len,hc,hm,hb,.inr ⟨g,tail,ha,hg,hR⟩⟩
def tq.Xa1{k:Nat}(h:tq f bytes w lo s l):tq f bytes w lo (Sl.mk (if(s.len:Int).toNat=0 then s.a else s.a.map (·.add (0*k))) ((s.len:Int).toNat - 0) ((s.len:Int).toNat - 0)) l:=by
 obtain⟨h1,h2,h3,h4,h5⟩:=h;refine⟨by simp[h1],by simp[h1],by simp[h1];omega,h4,h5.imp id λ⟨g,tail,a,b,c⟩=>⟨g,tail,?_,b,c⟩⟩;show(if _ then _ else _)=_;split
 .exact a
 .rw[a,mq];rfl
end
def Zkr{l:List tj}(h:tq tj.c 24 w lo s l)(a0:lo<=w.heap.size)
  (hK:∀l' w',l'.Perm l->l'.Pairwise (λx y=>¬x.cmp y<0)->Below lo w w'->tq tj.c 24 w' lo s l'->K (.tuple #[]) w'):
  sx prog 272 [s.v,.func (.func 273) #[] #[]] w K:=by
 obtain⟨h1,h2,h3,h4,h5⟩:=h;obtain⟨a,n,c⟩:=s;simp only at h1 h2 h3 h5;subst h1;rcases h5 with rfl|⟨g,tail,ha,hg,hr⟩
 .refine(AnyF.slices_SortFunc_none Tryz.Xb5 a c _ w).O λe w' ⟨he,hw⟩=>⟨_,he,?_⟩;subst hw;exact hK [] _ (jr _) .nil (Below.refl _ _) ⟨rfl,h2,h3,h4,.inl rfl⟩
 .subst ha;refine Zks hr (by unfold Ab at h4;omega) λl' w' hp hs b a4=>hK l' w' hp hs (b.below a0 hg) ⟨hp.length_eq.H,by rwa [hp.length_eq],h3,by rwa [hp.length_eq],.inr ⟨g,tail,rfl,hg,a4⟩⟩
def Zdk{α β γ:Type}{z:List (α×β)}{l1 l2:List β}{p:β}(h:z.map Prod.snd=l1++p::l2):∃z1 x z2,z=z1++(x,p)::z2/\z1.map Prod.snd=l1/\z2.map Prod.snd=l2:=by obtain⟨z1,a0,rfl,e1,e2⟩:=List.map_eq_append_iff.1 h;obtain⟨q,z2,rfl,e3,e4⟩:=List.map_eq_cons_iff.1 e2;exact⟨z1,q.1,z2,by rw[<-e3],e1,e4⟩
def U5{w:PU}{S:Nat->Prop}:∀{ps:Ι} {m:List (HT×HT)},m.length=ps.length->(∀(i:Nat)(x:su),ps[i]?=some x->∃kv,m[i]?=some kv/\Ė w S x kv)->∃z:List (su×(HT×HT)),z.map Prod.fst=ps/\z.map Prod.snd=m/\∀q∈z,Ė w S q.1 q.2
 | [],[],_,_=>⟨[],rfl,rfl,by simp⟩
 | [],_::_,h,_=>by cases h
 |_::_,[],h,_=>by cases h
 |x::ps,kv::m,h,hel=>by
  obtain⟨a0,h1,h2⟩:=hel 0 x rfl;simp only[jk,eu]at h1;subst h1;obtain⟨z,k1,k2,k3⟩:=U5 (w:=w) (S:=S) (ps:=ps) (m:=m) (by simpa using h) λi y hy=>hel (i+1) y hy;refine⟨(x,kv)::z,by simp[k1],by simp[k2],λq hq=>?_⟩;obtain rfl|hq:=gn.1 hq
  .exact h2
  .exact k3 q hq
def Z3{R:Sl->Wp}(hC:zk w S p r L)
  (hR:∀t w',AI w w'->tq tj.c 24 w' w.heap.size t (DB n L)->R t w'):F0 (some p) n w R:=by
 unfold F0;obtain⟨ps,hC,hp,hg⟩:=hC;obtain⟨m,hm,hl,d2⟩:=hC.map;refine⟨p,rfl,some r,hC.box.sh,Zio underlying98 hm λit w1 x1 e8 hI=>⟨_,rfl,?_⟩⟩;obtain⟨z0,d8,d9,e0⟩:=U5 hl d2;have f0:=hI.lt;have e4:ps.length<=128:=by rw[<-hp.length_eq];exact hg.le
 refine Of.zj (λk sw w'=>∃(z:List (su×(HT×HT))) (a0:Ι) (last:Option (HT×HT)),k=z.length/\zo w' it r (z.map Prod.snd) last/\(∀q∈z,Ė w S q.1 q.2)/\(a0++z.map Prod.fst).Perm ps/\AI w w'/\w1.heap.size<=w'.heap.size/\OF ă 52 w' w1.heap.size se sw ((a0.filter (Dk n)).map (·.v))) _
  ⟨z0,[],none,rfl,by rwa [d9],e0,by rw[d8];exact jr _,x1,fx _,OF.zero w1⟩ λk sw w2 f1 ⟨z,a0,last,hk,c9,hz,a8,x2,d4,uy⟩ hn=>?_
 have e9:a0.length<=128:=by have:=a8.length_eq;rw[du]at this;omega
 refine Zgd c9 (λh0=>?_) λq l1 l2 w3 hq e7 e5 b7 b0=>?_
 .have d7:z=[]:=List.map_eq_nil_iff.1 h0;subst d7;rw[ph,gv]at a8;refine⟨false,⟨#[]⟩,0,0,0,⟨#[]⟩,0,0,0,Sl.nil,Sl.nil,Sl.nil,rfl,nO,λ_=>?_⟩;have d6:=(((a8.filter (Dk n)).map (·.v)).Z (Zmz hp n).H);have a5:((a0.filter (Dk n)).map (·.v)).length*24<=Ab:=by have:=jf (Dk n) a0;rw[ec];unfold Ab;omega
  refine Zkr (tq.of (E:=ă) (f:=tj.c) (bytes:=24) (λx cs h=>h.1) uy a5) d4 λl' w3 d3 d5 b6 hF=>⟨rfl,?_⟩;have e:=Zcz d5 (Zmx hg.ord n) (d3.Z d6);subst e;refine Pg.V ⟨⟨oM,oM,oM,by have:=hF.1;have:=hF.2.1;omega⟩,_,rfl,hR _ _ (x2.W ?_) ?_⟩
  .exact Below.O b6 (by have:=x1.size;omega)
  .have:=hF.Xa1 (k:=3);obtain⟨a,b,c,d,e⟩:=this;exact⟨a,b,c,d,e.imp id λ⟨g,tail,a,b,c⟩=>⟨g,tail,a,fj x1.size b,c⟩⟩
 .obtain⟨z1,x,z2,e3,e1,e2⟩:=Zdk (γ:=Unit) hq;subst e3;obtain⟨d,e,o,c4,hN,hd,he,ho⟩:=hz (x,q) sI;simp only at c4;subst c4;have c3:w.heap.size<=it:=oM;have x3:AI w w3:=b7.U x2 c3;have a9:=uy.tz b7 (λh=>h) (λad ha=>by have:=(uy.block ha).1;omega);refine⟨true,x.Y,x.v.ma,x.v.mi,x.v.pa,x.Y,x.v.ma,x.v.mi,x.v.pa,d,e,o,rfl,λ_=>?_,nO⟩;refine⟨x.Y,x.v.ma,x.v.mi,x.v.pa,x.Y,x.v.ma,x.v.mi,x.v.pa,d,e,o,λw' hx=>Zb4 (b0.U hx),An.intro λa w4 x4 d0 e6 _=>tk.intro d0 sI λw5 b5 _ b9=>⟨x.Y,b9.sh.pre rfl,λb2=>?_,λb2=>?_⟩⟩
  all_goals
   have s3:=x3.size;have s4:=x4.size;have a7:AI w3 w5:=b5.U x4 oM;have s5:=a7.size;have c7:∀q∈z1++z2,Ė w S q.1 q.2:=λq hq=>hz q (by
    obtain h|h:=fp.1 hq
    .exact jd _ h
    .exact li _ (.tail _ h))
   have c6:((a0++[x])++(z1++z2).map Prod.fst).Perm ps:=(by refine List.Perm.Z ?_ a8;rw[ff,gb,gb,io,List.singleton_append];exact List.perm_middle.H.append_left a0);have c5:(z1++z2).length<(z1++(x,vl x.Y x.v,Gw x d e o)::z2).length:=(by simp);have b8:∀w',zo w' it r (l1++l2) (some (vl x.Y x.v,Gw x d e o))->zo w' it r ((z1++z2).map Prod.snd) (some (vl x.Y x.v,Gw x d e o)):=λw' h=>by rwa [gb,e1,e2]
  .refine⟨_,_,_,b9.at1 (k:=1) xR rfl,An.intro λa6 w6 x6 d1 _ _=>?_⟩;have b4:=a7.Z x6;have s6:=x6.size;have a5:(((a0.filter (Dk n)).map (·.v)).length+1)*ă.bytes<=Ab:=(by have:=jf (Dk n) a0;have hb:ă.bytes=24:=rfl;rw[ec,hb];unfold Ab;omega);refine(a9.U b4).push (x:=x.v) (S':=se) YP oM ⟨rfl,trivial⟩ d1.sh (λ_ h=>h.F) (λ_ _ h=>h.F) a5 (by rw[Ao];unfold Ab at a5;have hb:ă.bytes=24:=rfl;rw[hb]at a5;omega) λt w7 c8 a4 _ _=>?_;refine hn _ _ _ (by rwa [hk]) ⟨z1++z2,a0++[x],_,rfl,b8 _ (((b0.U b4).of (a4.block r (by have:=hm.lt;omega)) (a4.block it oM))),c7,c6,(x3.Z b4).W (Below.O a4 oM),by have:=a4.size;omega,?_⟩;rw[lf,gb];have:Dk n x=true:=(by simp[Dk,b2]);simp only[po,this,if_true,List.filter_nil,io,ph];exact c8.O (λ_ h=>h.F id id) (λ_ h=>h.F) (λ_ _ h=>h.F)
  .refine hn _ _ _ (by rwa [hk]) ⟨z1++z2,a0++[x],_,rfl,b8 _ (b0.U a7),c7,c6,x3.Z a7,oM,?_⟩;rw[lf,gb];have:Dk n x=false:=(by simp[Dk,b2]);simp only[po,this,List.filter_nil,ph,gv,nt,if_false];exact a9.U a7
def Zd1{l:List tj}{p:tj->Bool}{R:È}(hs:No ă w S s l)(hf:Fs f (λx=>.agg #[vi x.ma,vi x.mi,vi x.pa]) p l w)
  (hR:∀w',AI w w'->R (AV p l) w'):MO s f w R:=by
 unfold MO;have hl:=hs.len;refine Of.up hs.max (λi w'=>AI w w'/\(l.take i).any p=false) ⟨AI.refl _,rfl⟩ λi w1 a6 hi ⟨x1,hI⟩ hn=>⟨λa4=>?_,λa5=>?_⟩
 .have a0:i<l.length:=oM;obtain⟨ad,cs,ha,_,⟨rfl,_⟩,hc⟩:=hs.el a0;refine⟨ad,⟨ha,oM,a4⟩,_,_,_,hc _ xT,hf _ (fe a0) _ _ x1 λw2 x2=>⟨_,rfl,λh=>?_,λh=>?_⟩⟩
  .rw[<-F5 a0 hI h];exact hR _ xT
  .exact hn a0 _ ⟨xT,by rwa [FJ a0 hI]⟩
 .have:i=l.length:=oM;rw[this,eh]at hI;rw[<-EL hI];exact hR _ xT
def Yp(z:Γ)(n:Nat):(Builtin.zeroCells z n).toList.length=n*z.size:=by rw[ko,size_zeroCells]
def Yq{z:Γ}(hz:∀v∈z,v.oneCell'=true)(n:Nat):∀v∈(Builtin.zeroCells z n).toList,v.oneCell'=true:=λv hv=>by
 simp only[Builtin.zeroCells,Array.toList_map,Array.toList_range,ij,nq]at hv;obtain⟨i,hi,rfl⟩:=hv;have a4:0<z.size:=by
  obtain h|h:=kg z.size
  .rw[h]at hi;simp at hi
  .exact h
 have a0:i%z.size<z.size:=Nat.mod_lt _ a4;have e:z[i%z.size]! =z[i%z.size]:=getElem!_pos z _ a0;rw[e];exact hz _ (Array.getElem_mem a0)
def TV{t e ty:LN}{z:HT}{n k:Nat}(ht:P.underlying t=some (.slice e))(hv:∀w,(zeroValue e).run P w= .ok z w)(hz:z.cells.size=k)(h1:∀v∈z.cells,v.oneCell'=true){o c:Nat}{front back:LV}(ho:front.length=o)(hn:n*k<=back.length)(hB:AT w ⟨g,0,none⟩ (front++back))
   (hK:∀w' a0,uv g w w'->AT w' ⟨g,0,none⟩ (front++a0)->K (.tuple #[]) w'):xe P (Builtin.clear_ #[t] ty #[.slice (some ⟨g,o,none⟩) n c]) w K:=by
 obtain⟨T,_,_,hb⟩:=hB;simp only at hb;have a8:=(fb.1 hb).1;cases n with
 |zero=>refine⟨_,w,?_,hK w back ⟨fx _,rfl,rfl,rfl,λ_ _ _=>rfl⟩ ⟨T,rfl,rfl,hb⟩⟩;simp[Builtin.clear_,run_underlying ht,Sem.run_bind,Result.andThen]
 |succ n=>
  have a4:(Builtin.zeroCells z.cells (n+1)).toList.length=(n+1)*k:=by rw[Yp,hz]
  have a5:=run_storeCells_at (P:=P) g o T (Builtin.zeroCells z.cells (n+1)).toList 0 (front++back).toArray w hb (by rw[a4,je,du];omega) (Yq h1 _);generalize hA:(List.take (o+0) (front++back).toArray.toList++(Builtin.zeroCells z.cells (n+1)).toList++List.drop (o+0+(Builtin.zeroCells z.cells (n+1)).toList.length) (front++back).toArray.toList).toArray=A at a5;refine⟨.tuple #[],w.setRow g A,?_,hK (w.setRow g A) ((Builtin.zeroCells z.cells (n+1)).toList++back.drop ((n+1)*k)) ⟨by simp[World.setRow],rfl,rfl,rfl,λb a7 a6=>setRow_other w g b _ a6⟩ ⟨T,rfl,rfl,?_⟩⟩
  .simp[Builtin.clear_,run_underlying ht,hv,Sem.run_bind,Result.andThen,a5]
  .rw[setRow_heap w g (front++back).toArray A T _ hb,<-hA];simp only[ky,a4,eu,Obj.cells.injEq,and_true];rw[<-ho,pb];simp[List.drop_append]
def Lq{α:Type}{p:α->Bool}{l:List α}(h:AV p l≠ -1):∃n,∃hn:n<l.length,AV p l=(n:Int)/\(l.take n).any p=false/\p l[n]=true:=by
 unfold AV at*;cases hf:l.findIdx? p with
 |none=>rw[hf]at h;exact fm rfl h
 |some n=>obtain⟨hn,hp,hb⟩:=mo.1 hf;refine⟨n,hn,rfl,?_,hp⟩;rw[mf];intro x hx;obtain⟨k,hk,rfl⟩:=gc.1 hx;rw[fg]at hk;rw[jw];exact hb k oM
def I5{α:Type}{p:α->Bool}{l:List α}(h:l.any p=false):l.filter (λx=>!p x)=l:=by rw[rn];intro x hx;have:=mf.1 h x hx;simpa using this
def Znq:∀w,(zeroValue 52).run prog w= .ok (.agg #[vi 0,vi 0,vi 0]) w:=λw=>by kernel_rfl
def Zah{l:List tj}{d:tj->Bool}{R:Sl->Wp}(h:tq tj.c 24 w lo s l)(a9:lo<=w.heap.size)
  (hf:∀x∈l,∀w' (k:Ë),Below lo w w'->(∀c6,AI w' c6->k (.bool (d x)) c6)->un prog f [.agg #[vi x.ma,vi x.mi,vi x.pa]] w' k)
  (hR:∀t w',Below lo w w'->tq tj.c 24 w' lo t (l.filter λx=>!d x)->R t w'):MH s f w R:=by
 unfold MH;have hs:=h.A (E:=ă) (λ_=>rfl) (λ_ _ _ _=>⟨rfl,trivial⟩);refine MO.V (Zd1 (p:=d) hs (λx hx w' k d2 hk=>hf x hx w' k (Below.O d2 a9) hk) λw1 x1=>⟨_,rfl,λh1=>?_,λh1=>?_⟩)
 .have:l.any d=false:=by rw[<-F4,h1];decide
  exact hR s w1 (Below.O x1 a9) (by rw[I5 this];exact h.U x1)
 obtain⟨n,hn,e,ht,hp⟩:=Lq h1;rw[e];obtain⟨k1,k2,k3,k4,k5⟩:=h;obtain⟨g,tail,ha,hg,hr⟩:∃g tail,s.a=some ⟨g,0,none⟩/\lo<=g/\tv tj.c w g l tail:=by
  obtain k5|k5:=k5
  .subst k5;simp at hn
  .exact k5
 have hk:∀x:tj,x.c.length=3:=λ_=>rfl;have b8:(l.take (n+1)).filter (λx=>!d x)=l.take n:=by rw[dw hn,lf,I5 ht];simp[hp]
 rw[Ai oM (by unfold Ab at k4;omega)];refine⟨λi j w'=>∃(i' j':Nat) (z:List tj),i=(i':Int)/\j=(j':Int)/\i'<j'/\j'<=l.length/\z.length=l.length/\i'=((l.take j').filter λx=>!d x).length/\z.take i'=(l.take j').filter (λx=>!d x)/\z.drop j'=l.drop j'/\Below lo w w'/\tv tj.c w' g z tail,
  λ_ j _=>l.length - j.toNat,⟨n,n+1,l,rfl,oM,oM,oM,rfl,by rw[b8,fg];omega,by rw[b8],rfl,Below.O x1 a9,hr.U x1⟩,?_⟩
 rintro _ _ w2 ⟨i,j,z,rfl,rfl,c9,hj,c5,hi,a5,c4,b2,a4⟩;refine⟨λd7=>join.named λJ hJ=>?_,λd5=>?_⟩
 .have a0:j<l.length:=oM;have ej:Aa ((j:Int)+1)=((j+1:Nat):Int):=by rw[Ai oM (by unfold Ab at k4;omega)];omega
  have a6:z.drop (j+1)=l.drop (j+1):=by rw[<-kr,c4,kr]
  have b9:(l.take (j+1)).filter (λx=>!d x)=(l.take j).filter (λx=>!d x)++[l[j]].filter (λx=>!d x):=by rw[dw a0,lf]
  have kJ:∀(i':Nat)(w':PU)(z':List tj),i'<j+1->z'.length=l.length->z'.take i'=(l.take (j+1)).filter (λx=>!d x)->z'.drop (j+1)=l.drop (j+1)->Below lo w w'->tv tj.c w' g z' tail->J (i':Int) w':=λi' w' z' q1 q2 q3 q4 q5 q6=>by subst hJ;show _/\_;rw[ej];exact⟨⟨i',j+1,z',rfl,rfl,q1,oM,q2,by rw[<-q3,fg];omega,q3,q4,q5,q6⟩,by show _ - Int.toNat _<_ - Int.toNat _;omega⟩
  clear hJ;have d3:z[j]?=some l[j]:=by have h1:z[j]?=(z.drop j)[0]? :=(by rw[mj,ky]);rw[h1,c4,mj,ky];exact dt a0
  refine⟨_,⟨ha,oM,oM⟩,_,_,_,a4.Ĥ hk d3,An.intro λa w3 x3 a7 d4 _=>tk.intro a7 sI λw4 b4 _ b7=>⟨_,_,_,b7.sh.pre rfl,?_⟩⟩;have c7:AI w2 w4:=b4.U x3 oM;have s2:=b2.size;have hm:l[j]∈l:=fe a0;refine hf _ hm w4 _ (Below.Z b2 (Below.O c7 oM)) λw5 x5=>⟨_,rfl,λhd=>?_,λhd=>?_⟩
  all_goals
   have b0:=c7.Z x5;have s5:=b0.size;have b5:Below lo w w5:=Below.Z b2 (Below.O b0 oM);have c3:=a4.U b0
  .have a8:d l[j]=false:=(by simpa using hd);refine⟨_,_,_,(b7.U x5).sh.pre rfl,_,⟨ha,oM,oM⟩,c3.st hk (i:=i) (x:=l[j]) oM λw6 b6 d0=>?_⟩;have ei:Aa ((i:Int)+1)=((i+1:Nat):Int):=by rw[Ai oM (by unfold Ab at k4;omega)];omega
   rw[ei];refine kJ (i+1) w6 _ oM (by rw[ji,c5]) ?_ (by rw[qd oM,a6]) (Below.Z b5 (b6.below oM hg)) d0;rw[b9,<-a5,dw (by rw[ji];omega),qa nR,ou];simp[a8]
  .have a8:d l[j]=true:=(by simpa using hd);refine kJ i w5 z oM c5 ?_ a6 b5 c3;rw[b9,<-a5];simp[a8]
 .have a0:j=l.length:=oM;subst a0;rw[eh]at a5 hi;have d6:i<l.length:=c9;have e1:(Sl.cut s (i:Int).toNat s.len 3).v= .slice (some ⟨g,i*3,none⟩) (l.length - i) (s.cap - i):=by unfold Sl.cut Sl.v;rw[dx,fa oM,ha,k1];simp only[jp,GN]
  rw[e1];refine⟨⟨oM,oM⟩,?_⟩;have d1:(z.map tj.c).flatten++tail=((z.take i).map tj.c).flatten++(((z.drop i).map tj.c).flatten++tail):=by
   conv=>lhs;rw[<-ga i z]
   rw[gb,kl,ff]
  unfold tv at a4;rw[d1]at a4;refine TV (k:=3) underlying128 Znq rfl (λv hv=>by simp[Value.cells]at hv;rcases hv with rfl|rfl|rfl<;>rfl) (by rw[CN _ hk,fg];omega) (by rw[du,CN _ hk,gh];omega) a4 λw3 back b3 a7=>⟨⟨oM,oM⟩,?_⟩;have s2:=b2.size;refine hR _ w3 (Below.Z b2 (b3.below oM hg)) ?_;have c8:(l.filter λx=>!d x).length<=l.length:=jf _ _;refine⟨by unfold Sl.cut;simp;exact hi,by unfold Sl.cut;show _<=s.cap - 0;omega,by unfold Sl.cut;show s.cap - 0<=_;omega,?_,.inr ⟨g,back,?_,hg,?_⟩⟩
  .have:=iu 24 c8;omega
  .show(if _ then _ else _)=_;split
   .exact ha
   .rw[ha,mq];rfl
  .rwa [<-a5]
def Ċ{l:Η}{p:tn->Bool}{R:È}(hs:No vb w S s l)(hf:Fs f (λx=>.agg #[.string x.Y,vi x.v.ma,vi x.v.mi,vi x.v.pa]) p l w)
  (hR:∀w',AI w w'->R (AV p l) w'):HD s f w R:=by
 unfold HD;have hl:=hs.len;refine Of.up hs.max (λi w'=>AI w w'/\(l.take i).any p=false) ⟨AI.refl _,rfl⟩ λi w1 a6 hi ⟨x1,hI⟩ hn=>⟨λa4=>?_,λa5=>?_⟩
 .have a0:i<l.length:=oM;obtain⟨ad,cs,ha,_,⟨rfl,_⟩,hc⟩:=hs.el a0;refine⟨ad,⟨ha,oM,a4⟩,_,_,_,_,hc _ xT,hf _ (fe a0) _ _ x1 λw2 x2=>⟨_,rfl,λh=>?_,λh=>?_⟩⟩
  .rw[<-F5 a0 hI h];exact hR _ xT
  .exact hn a0 _ ⟨xT,by rwa [FJ a0 hI]⟩
 .have:i=l.length:=oM;rw[this,eh]at hI;rw[<-EL hI];exact hR _ xT
def Qm{l:Η}{p:tn->Bool}(hs:No vb w S s l)(hf:Fs f (λx=>.agg #[.string x.Y,vi x.v.ma,vi x.v.mi,vi x.v.pa]) p l w)
  (hR:∀w',AI w w'->R (l.any p) w'):HB s f w R:=by
 unfold HB;exact HD.V (Ċ hs hf λw' hx=>⟨_,rfl,by rw[F4];exact hR _ hx⟩)
namespace StG
structure Sh(E:Type) where
 α:Type
 β:Type
 γ:Type
 C:α->β->γ->LV
 p1:E->α
 p2:E->β
 p3:E->γ
 len:∀a b c,(C a b c).length=3
abbrev El(E:Type):Type:=E×Nat
def Sh.cells(Q0:Sh E)(x:E):LV:=Q0.C (Q0.p1 x) (Q0.p2 x) (Q0.p3 x)
def Sh.fc(Q0:Sh E)(x:El E):LV:=Q0.cells x.1
def Sh.vn(Q0:Sh E)(x:El E):(Q0.fc x).length=3:=Q0.len _ _ _
structure Gos{E:Type}(Q0:Sh E) where
 fi:OK
 fs:OK
 fr:OK
 fw:OK
 ft:OK
 gi:∀(d:Sl)(a b:Int)(cmp:HT)(w:PU)(k:Ë),Jy Q0.C d a b cmp w (λw'=>k (.tuple #[]) w')->sx prog fi [d.v,vi a,vi b,cmp] w k
 gs:∀(d:Sl)(a m b:Int)(cmp:HT)(w:PU)(k:Ë),M9 Q0.C fs fr d a m b cmp w (λw'=>k (.tuple #[]) w')->sx prog fs [d.v,vi a,vi m,vi b,cmp] w k
 gr:∀(d:Sl)(a m b:Int)(cmp:HT)(w:PU)(k:Ë),M7 fw d a m b cmp w (λw'=>k (.tuple #[]) w')->sx prog fr [d.v,vi a,vi m,vi b,cmp] w k
 gw:∀(d:Sl)(a b n:Int)(cmp:HT)(w:PU)(k:Ë),M8 Q0.C d a b n cmp w (λw'=>k (.tuple #[]) w')->sx prog fw [d.v,vi a,vi b,vi n,cmp] w k
 gt:∀(d:Sl)(n:Int)(cmp:HT)(w:PU)(k:Ë),J0 fi fs d n cmp w (λw'=>k (.tuple #[]) w')->sx prog ft [d.v,vi n,cmp] w k
def Ý(Q0:Sh E)(cmp:HT)(c:E->E->Int)(g:Nat)(w0:PU):Prop:=
 ∀(x y:E)(w:PU)(k:Ë),uv g w0 w->(∀w',AI w w'->k (vi (c x y)) w')->un prog cmp [.agg (Q0.cells x).toArray,.agg (Q0.cells y).toArray] w k
def Ý.tz{Q0:Sh E}{cmp:HT}{c:E->E->Int}{w1:PU}(h:Ý Q0 cmp c g w0)(hb:uv g w0 w1):Ý Q0 cmp c g w1:=λx y w k hw hk=>h x y w k (hb.Z hw) hk
section
variable {E:Type} {Q0:Sh E} {cmp:HT} {c:E->E->Int} {g:Nat}
def UZ(hO:wg c){R:Wp}{A M0 B:List (El E)}{tail:LV}{a b:Int}(hc:Ý Q0 cmp c g w)(hd:data.a=some ⟨g,0,none⟩)(a9:data.len=(A++M0++B).length)(d4:data.len<4611686018427387904)
  (hB:tv Q0.fc w g (A++M0++B) tail) (ha:a=(A.length:Int)) (hb:b=((A.length+M0.length:Nat):Int)) (hM:M0.Pairwise λx y=>x.2<y.2)
  (hR:∀w' M,uv g w w'->M.Perm M0->M.Pairwise (Ah c)->tv Q0.fc w' g (A++M++B) tail->R w'):Jy Q0.C data a b cmp w R:=by
 unfold Jy;subst ha hb;simp only[du]at a9;rw[Ai oM oM];by_cases h0:M0=[]
 .subst h0;refine⟨λi w'=>w'=w/\i=(A.length:Int)+1,λ_ _=>0,⟨rfl,rfl⟩,?_⟩;rintro i w' ⟨rfl,rfl⟩;refine⟨λh=>?_,λ_=>hR _ [] ⟨fx _,rfl,rfl,rfl,λ_ _ _=>rfl⟩ (jr _) .nil hB⟩;simp at h;omega
 have c3:0<M0.length:=my.2 h0;refine⟨λi w'=>∃(n:Nat) (M:List (El E)),i=((A.length+n:Nat):Int)/\1<=n/\n<=M0.length/\uv g w w'/\M.Perm (M0.take n)/\M.Pairwise (Ah c)/\tv Q0.fc w' g (A++M++(M0.drop n++B)) tail,λi _=>(A.length+M0.length) - i.toNat,⟨1,M0.take 1,oM,fx _,c3,⟨fx _,rfl,rfl,rfl,λ_ _ _=>rfl⟩,jr _,?_,?_⟩,?_⟩
 .cases M0 with
  |nil=>exact .nil
  |cons x r=>exact lq _ _
 .rwa [<-ff,ff A,ga]
 rintro i w1 ⟨n,M,rfl,d9,e0,b1,hp,hs,a8⟩;have b9:M.length=n:=by rw[hp.length_eq,fg];omega
 refine⟨λd8=>?_,λd6=>?_⟩
 .have b5:n<M0.length:=oM;have b4:M0.drop n=M0[n]::M0.drop (n+1):=gj b5;have hx:∀y∈M,y.2<M0[n].2:=λy hy=>by have d2:=hp.mem_iff.1 hy;obtain⟨j,hj,rfl⟩:=gc.1 d2;rw[fg]at hj;rw[jw];exact gz.1 hM j n oM b5 oM
  rw[b4]at a8;generalize hX:M0[n]=x at*;refine⟨λj w'=>∃(M1 M2:List (El E)),j=((A.length+M1.length:Nat):Int)/\M1++M2=M/\(∀y∈M2,Ah c x y)/\uv g w w'/\tv Q0.fc w' g (A++M1++x::(M2++(M0.drop (n+1)++B))) tail,λj _=>j.toNat,⟨M,[],by rw[b9],by simp,by simp,b1,by simpa using a8⟩,?_⟩;rintro j w2 ⟨M1,M2,rfl,a4,c4,b2,d0⟩;refine sf.drew λw3 x3=>IN ?_;have a6:=d0.U x3;have b3:uv g w w3:=b2.ext' x3;have d5:M1.length+M2.length=n:=by rw[<-b9,<-a4,du]
  have fin:∀w' w0,uv g w w'->tv Q0.fc w' g (A++M1++x::(M2++(M0.drop (n+1)++B))) tail->(∀y∈M1,Ah c y x)->w0=w'->
    (∃(n':Nat) (M':List (El E)),Aa (((A.length+n:Nat):Int)+1)=((A.length+n':Nat):Int)/\1<=n'/\n'<=M0.length/\uv g w w0/\M'.Perm (M0.take n')/\M'.Pairwise (Ah c)/\tv Q0.fc w0 g (A++M'++(M0.drop n'++B)) tail)/\(A.length+M0.length) - (Aa (((A.length+n:Nat):Int)+1)).toNat<(A.length+M0.length) - (((A.length+n:Nat):Int)).toNat:=λw' w0 b' c9 h1 e=>by
   subst e;rw[Ai oM oM];refine⟨⟨n+1,M1++x::M2,oM,oM,oM,b',?_,?_,by simpa using c9⟩,oM⟩
   .rw[dw b5,hX];refine(List.perm_middle).Z ?_;rw[a4];exact(hp.cons x).Z (pc x _).H
   .rw[<-a4]at hs;obtain⟨p1,p2,p3⟩:=jc.1 hs;refine jc.2 ⟨p1,iq.2 ⟨c4,p2⟩,λy hy z hz=>?_⟩;obtain rfl|hz:=gn.1 hz
    .exact h1 y hy
    .exact p3 y hy z hz
  rcases List.eq_nil_or_concat M1 with rfl|⟨a0,y,rfl⟩
  .have hf:decide ((A.length:Int)<((A.length+([]:List (El E)).length:Nat):Int))=false:=(by simp);rw[hf];refine⟨⟨g,0,none⟩,nO,Q0.p1 x.1,Q0.p2 x.1,Q0.p3 x.1,nO,⟨g,0,none⟩,nO,Q0.p1 x.1,Q0.p2 x.1,Q0.p3 x.1,nO,nO,λ_=>⟨nO,λ_=>?_⟩⟩;exact fin w3 w3 b3 a6 sI rfl
  .simp only[List.concat_eq_append]at*;have hj:decide ((A.length:Int)<((A.length+(a0++[y]).length:Nat):Int))=true:=by simp;omega
   rw[hj];have a7:(a0++[y]).length=a0.length+1:=by simp
   have e1:Aa (((A.length+(a0++[y]).length:Nat):Int) - 1)=((A.length+a0.length:Nat):Int):=(by rw[a7,Ai oM oM];omega);rw[e1];have d7:data.len=A.length+(n+1+(M0.drop (n+1)++B).length):=(by rw[a9,du,gh];omega);have eB:A++(a0++[y])++x::(M2++(M0.drop (n+1)++B))=(A++a0)++y::x::(M2++(M0.drop (n+1)++B)):=(by simp);rw[eB]at a6;have ey:(A++a0).length=A.length+a0.length:=du;have gy:=a6.Ĥ Q0.vn (I6 ey);have gx:=a6.Ĥ Q0.vn (Ow (n:=A.length+(a0++[y]).length) (by rw[a7,ey];omega));have d3:y∈M:=(by rw[<-a4];simp);have a5:=Ah.right hO (hx y d3);refine⟨_,λ_=>⟨hd,oM,oM⟩,_,_,_,λ_=>gx,_,λ_=>⟨hd,oM,oM⟩,_,_,_,λ_=>gy,λ_=>?_,nO⟩;refine hc x.1 y.1 w3 _ b3 λw4 x4=>⟨_,rfl,λh=>?_,λh=>?_⟩
   .simp only[ic,fk]at h;refine sf.drew λw5 x5=>?_;have c6:=x4.Z x5;have b0:=a6.U c6;have c8:=b0.Ĥ Q0.vn (I6 ey);have c7:=b0.Ĥ Q0.vn (Ow (n:=A.length+(a0++[y]).length) (by rw[a7,ey];omega));refine⟨_,⟨hd,oM,oM⟩,_,_,_,c8,_,⟨hd,oM,oM⟩,_,_,_,c7,_,⟨hd,oM,oM⟩,b0.st Q0.vn (i:=A.length+(a0++[y]).length) (x:=y) (by simp only[du,fu,ie];omega) λw6 b6 d1=>⟨_,⟨hd,oM,oM⟩,d1.st Q0.vn (i:=A.length+a0.length) (x:=x) (by simp only[ji,du,fu,ie];omega) λw7 b7 b8=>?_⟩⟩;have e2:((((A++a0)++y::x::(M2++(M0.drop (n+1)++B))).set (A.length+(a0++[y]).length) y).set (A.length+a0.length) x)=(A++a0)++x::y::(M2++(M0.drop (n+1)++B)):=by have:=XD (A++a0) (M2++(M0.drop (n+1)++B)) y x;rw[ey]at this;rwa [a7,<-rc]
    rw[e2]at b8;refine⟨⟨a0,y::M2,rfl,by rw[<-a4];simp,λz hz=>?_,((b3.ext' c6).Z b6).Z b7,by simpa using b8⟩,by rw[a7];omega⟩;obtain rfl|hz:=gn.1 hz
    .exact a5.1 h
    .exact c4 z hz
   .simp only[ic,gk]at h;refine fin w4 w4 (b3.ext' x4) (by rw[eB];exact a6.U x4) (λz hz=>?_) rfl;have c5:=a5.2 h;obtain hz|hz:=fp.1 hz
    .refine Ah.Z hO ?_ c5;rw[<-a4]at hs;have:=(jc.1 (jc.1 hs).1).2.2 z hz y sI;exact this
    .simp at hz;subst hz;exact c5
 .have hn:n=M0.length:=oM;subst hn;rw[eh]at hp;rw[lh,ip]at a8;exact hR w1 M b1 hp hs a8
def Sw{R:Wp}{P X M Y Q:List (El E)}{tail:LV}{a b n:Int}(hd:data.a=some ⟨g,0,none⟩)(a4:data.len=(P++X++M++Y++Q).length)(b7:data.len<4611686018427387904)
  (hB:tv Q0.fc w g (P++X++M++Y++Q) tail) (ha:a=(P.length:Int)) (hb:b=((P.length+X.length+M.length:Nat):Int)) (hn:n=(X.length:Int)) (b8:Y.length=X.length)
  (hR:∀w',uv g w w'->tv Q0.fc w' g (P++Y++M++X++Q) tail->R w'):M8 Q0.C data a b n cmp w R:=by
 unfold M8;subst ha hb hn;simp only[du]at a4;refine Of.up (N:=X.length) (by rw[Ao];omega) (λi w'=>uv g w w'/\tv Q0.fc w' g (P++(Y.take i++X.drop i)++M++(X.take i++Y.drop i)++Q) tail) ⟨⟨fx _,rfl,rfl,rfl,λ_ _ _=>rfl⟩,by simpa using hB⟩ λi w1 c4 hi ⟨b1,a5⟩ b6=>⟨λc3=>?_,λb9=>?_⟩
 .have a6:i<X.length:=oM;have a8:i<Y.length:=oM;refine sf.drew λw2 x2=>?_;rw[Ai (x:=((P.length+X.length+M.length:Nat):Int)+(i:Int)) oM oM,Ai (x:=(P.length:Int)+(i:Int)) oM oM];rw[show((P.length+X.length+M.length:Nat):Int)+(i:Int)=((P.length+X.length+M.length+i:Nat):Int) by omega,show(P.length:Int)+(i:Int)=((P.length+i:Nat):Int) by omega];have a0:=a5.U x2;have eL:P++(Y.take i++X.drop i)++M++(X.take i++Y.drop i)++Q=(P++Y.take i)++X[i]::((X.drop (i+1)++M++X.take i)++Y[i]::(Y.drop (i+1)++Q)):=by rw[gj a6,gj a8];simp only[ff,ig]
  rw[eL]at a0;have l1:(P++Y.take i).length=P.length+i:=by simp;omega
  have l2:(X.drop (i+1)++M++X.take i).length+1=X.length+M.length:=by simp;omega
  have gx:=a0.Ĥ Q0.vn (I6 l1);have b5:((P++Y.take i)++X[i]::((X.drop (i+1)++M++X.take i)++Y[i]::(Y.drop (i+1)++Q)))[P.length+X.length+M.length+i]?=some Y[i]:=by rw[<-ig,<-ff];refine I6 ?_;simp only[du,fu]at l1 l2 ⊢;omega
  have gy:=a0.Ĥ Q0.vn b5;have b2:=b1.ext' x2;have a9:((P++Y.take i)++X[i]::((X.drop (i+1)++M++X.take i)++Y[i]::(Y.drop (i+1)++Q))).length=data.len:=by rw[<-eL,a4];simp;omega
  refine⟨_,⟨hd,oM,oM⟩,_,_,_,gy,_,⟨hd,oM,oM⟩,_,_,_,gx,_,⟨hd,oM,oM⟩,a0.st Q0.vn (i:=P.length+i) (x:=Y[i]) (by rw[a9];omega) λw3 b3 b0=>⟨_,⟨hd,oM,oM⟩,b0.st Q0.vn (i:=P.length+X.length+M.length+i) (x:=X[i]) (by rw[ji,a9];omega) λw4 b4 a7=>b6 a6 _ ⟨(b2.Z b3).Z b4,?_⟩⟩⟩;have e:=Zlk (P++Y.take i) (X.drop (i+1)++M++X.take i) (Y.drop (i+1)++Q) X[i] Y[i];rw[l1,show P.length+i+1+(X.drop (i+1)++M++X.take i).length=P.length+X.length+M.length+i by omega]at e;rw[e]at a7;have e2:P++(Y.take (i+1)++X.drop (i+1))++M++(X.take (i+1)++Y.drop (i+1))++Q=(P++Y.take i)++Y[i]::((X.drop (i+1)++M++X.take i)++X[i]::(Y.drop (i+1)++Q)):=by rw[dw a6,dw a8];simp only[ff,ig,ip]
  rwa [e2]
 .have:i=X.length:=oM;subst this;rw[ia oM,lh,gv,eh,kf oM,gv]at a5;exact hR w1 b1 a5
def Zjm(G:Gos Q0){R:Wp}{P X Y Q:List (El E)}{tail:LV}{a m b:Int}(hd:data.a=some ⟨g,0,none⟩)(a5:data.len=(P++X++Y++Q).length)(a4:data.len<4611686018427387904)
  (hB:tv Q0.fc w g (P++X++Y++Q) tail) (ha:a=(P.length:Int)) (hm:m=((P.length+X.length:Nat):Int)) (hb:b=((P.length+X.length+Y.length:Nat):Int)) (hX:0<X.length) (hY:0<Y.length)
  (hR:∀w',uv g w w'->tv Q0.fc w' g (P++Y++X++Q) tail->R w'):M7 G.fw data a m b cmp w R:=by
 unfold M7;subst ha hb hm;simp only[du]at a5;refine⟨λi j w'=>∃P' X' Y' Q':List (El E),i=(X'.length:Int)/\j=(Y'.length:Int)/\P'.length+X'.length=P.length+X.length/\0<X'.length/\0<Y'.length/\data.len=P'.length+X'.length+Y'.length+Q'.length/\P'++Y'++X'++Q'=P++Y++X++Q/\uv g w w'/\tv Q0.fc w' g (P'++X'++Y'++Q') tail,
  λi j _=>i.toNat+j.toNat,⟨P,X,Y,Q,by rw[Ai oM oM];omega,by rw[Ai oM oM];omega,rfl,hX,hY,a5,rfl,⟨fx _,rfl,rfl,rfl,λ_ _ _=>rfl⟩,hB⟩,?_⟩
 rintro i j w1 ⟨P',X',Y',Q',rfl,rfl,hm,b7,b8,hl,hg,b1,a6⟩;have wi:Aa (((P.length+X.length:Nat):Int) - (X'.length:Int))=(P'.length:Int):=by rw[Ai oM oM];omega
 rw[wi];refine⟨λb6=>⟨λb0=>?_,λb9=>?_⟩,λa7=>?_⟩
 .have a8:X'=X'.take Y'.length++X'.drop Y'.length:=(ga _ _).H;have l1:(X'.take Y'.length).length=Y'.length:=by rw[fg];omega
  have l2:(X'.drop Y'.length).length=X'.length - Y'.length:=gh;generalize X'.take Y'.length=X1 at*;generalize X'.drop Y'.length=X2 at*;subst a8;rw[du]at*;refine G.gw _ _ _ _ _ _ _ (Sw (P:=P') (X:=X1) (M:=X2) (Y:=Y') (Q:=Q') hd (by simp only[du];omega) a4 (by simpa using a6) rfl oM oM oM λw2 b2 a0=>⟨rfl,?_⟩);rw[Ai oM oM];refine⟨⟨P'++Y',X2,X1,Q',oM,oM,by rw[du];omega,oM,oM,by rw[du];omega,by rw[<-hg];simp,b1.Z b2,by simpa using a0⟩,by show Int.toNat _+Int.toNat _<Int.toNat _+Int.toNat _;omega⟩
 .have b0:X'.length<Y'.length:=by
   obtain h|h|h:=Nat.lt_trichotomy X'.length Y'.length
   .exact h
   .exact fm (by rw[h]) b6
   .omega
  have a9:Y'=Y'.take (Y'.length - X'.length)++Y'.drop (Y'.length - X'.length):=(ga _ _).H;have l1:(Y'.take (Y'.length - X'.length)).length=Y'.length - X'.length:=by rw[fg];omega
  have l2:(Y'.drop (Y'.length - X'.length)).length=X'.length:=by rw[gh];omega
  generalize b4:Y'.take (Y'.length - X'.length)=Y1 at*;generalize b5:Y'.drop (Y'.length - X'.length)=Y2 at*;clear b4 b5;subst a9;rw[du]at*;have e1:Aa (Aa (((P.length+X.length:Nat):Int)+((Y1.length+Y2.length:Nat):Int)) - (X'.length:Int))=((P'.length+X'.length+Y1.length:Nat):Int):=by rw[Ai (x:=((P.length+X.length:Nat):Int)+((Y1.length+Y2.length:Nat):Int)) oM oM,Ai oM oM];omega
  rw[e1];refine G.gw _ _ _ _ _ _ _ (Sw (P:=P') (X:=X') (M:=Y1) (Y:=Y2) (Q:=Q') hd (by simp only[du];omega) a4 (by simpa using a6) rfl rfl rfl l2 λw2 b2 a0=>⟨rfl,?_⟩);rw[Ai oM oM];refine⟨⟨P',Y2,Y1,X'++Q',oM,oM,oM,oM,oM,by rw[du];omega,by rw[<-hg];simp,b1.Z b2,by simpa using a0⟩,by show Int.toNat _+Int.toNat _<Int.toNat _+Int.toNat _;omega⟩
 .have a7:X'.length=Y'.length:=by have:=jx.1 a7;omega
  refine G.gw _ _ _ _ _ _ _ (Sw (P:=P') (X:=X') (M:=[]) (Y:=Y') (Q:=Q') hd (by simp only[du,ie];omega) a4 (by simpa using a6) rfl (by simp only[ie];omega) rfl a7.H λw2 b2 a0=>⟨rfl,?_⟩);exact hR w2 (b1.Z b2) (by rw[<-hg];simpa using a0)
def Pn(G:Gos Q0)(hO:wg c){data:Sl}{tail:LV}(hd:data.a=some ⟨g,0,none⟩)(c3:data.len<4611686018427387904):
  ∀(N:Nat) {w:PU} {R:Wp} {P L X Q:List (El E)} {a m b:Int},L.length+X.length<=N->Ý Q0 cmp c g w->data.len=(P++L++X++Q).length->tv Q0.fc w g (P++L++X++Q) tail->
   a=(P.length:Int)->m=((P.length+L.length:Nat):Int)->b=((P.length+L.length+X.length:Nat):Int)->0<L.length->0<X.length->L.Pairwise (Ah c)->X.Pairwise (Ah c)->(∀x∈L,∀y∈X,x.2<y.2)->
   (∀w' M,uv g w w'->M.Perm (L++X)->M.Pairwise (Ah c)->tv Q0.fc w' g (P++M++Q) tail->R w')->M9 Q0.C G.fs G.fr data a m b cmp w R
 |0,_,_,_,L,_,_,_,_,_,h,_,_,_,_,_,_,hL,_,_,_,_,_=>by omega
 |N+1,w,R,P,L,X,Q,_,_,_,hN,hc,hlen,hB,rfl,rfl,rfl,hL0,hX0,hL,hX,hid,hR=>by
  unfold M9;simp only[du]at hlen;have refl:uv g w w:=⟨fx _,rfl,rfl,rfl,λ_ _ _=>rfl⟩;have eL:∀(u:Nat)(hu:u<L.length),(P++L++X++Q)[P.length+u]?=some L[u]:=λu hu=>by rw[ff,ff,ii oM,gl oM,Nat.add_sub_cancel_left];exact dt hu
  have eX:∀(u:Nat)(hu:u<X.length),(P++L++X++Q)[P.length+L.length+u]?=some X[u]:=λu hu=>by rw[ff,ii (by rw[du];omega),du,Nat.add_sub_cancel_left,gl oM];exact dt hu
  have wm:Aa (((P.length+L.length:Nat):Int) - (P.length:Int))=(L.length:Int):=by rw[Ai oM oM];omega
  have wb:Aa (((P.length+L.length+X.length:Nat):Int) - ((P.length+L.length:Nat):Int))=(X.length:Int):=by rw[Ai oM oM];omega
  rw[wm,wb];refine⟨λh1=>?_,λh1=>⟨λh2=>?_,λh2=>?_⟩⟩
  .
   obtain⟨x,rfl⟩:=List.length_eq_one_iff.1 (show L.length=1 by omega);simp only[fu,ie]at*;refine⟨λi j w'=>∃p q:Nat,i=((P.length+(0+1)+p:Nat):Int)/\j=((P.length+(0+1)+q:Nat):Int)/\p<=q/\q<=X.length/\(∀(u:Nat)(hu:u<X.length),u<p->Ah c X[u] x)/\(∀(u:Nat)(hu:u<X.length),q<=u->Ah c x X[u])/\AI w w',
    λi j _=>(j - i).toNat,⟨0,X.length,oM,oM,oM,oM,λu _ h=>by omega,λu h1 h2=>by omega,AI.refl _⟩,?_⟩
   rintro _ _ w1 ⟨p,q,rfl,rfl,f2,hq,a5,b8,x1⟩;refine⟨λa9=>sf.drew λw2 x2=>?_,λa8=>?_⟩
   .rw[Oz oM];have he:(P.length+(0+1)+p+(P.length+(0+1)+q))/2=P.length+(0+1)+(p+q)/2:=oM;rw[he];have a7:(p+q)/2<X.length:=oM;have a4:=hB.U (x1.Z x2);have gx:=a4.Ĥ Q0.vn (eL 0 sI);have gy:=a4.Ĥ Q0.vn (eX _ a7);have a0:=Ah.right hO (hid x sI _ (fe a7));refine⟨_,⟨hd,oM,oM⟩,_,_,_,gy,_,⟨hd,oM,oM⟩,_,_,_,gx,hc _ x.1 w2 _ (refl.ext' (x1.Z x2)) λw3 x3=>⟨_,rfl,λh=>?_,λh=>?_⟩⟩
    .have hA:=a0.1 h;rw[Ai oM oM];refine⟨⟨(p+q)/2+1,q,oM,rfl,oM,hq,λu hu a9=>?_,b8,x1.Z (x2.Z x3)⟩,by show Int.toNat _<Int.toNat _;omega⟩;obtain h'|rfl:=im.1 a9
     .exact(gz.1 hX u _ hu a7 h').Z hO hA
     .exact hA
    .have hA:=a0.2 h;refine⟨⟨p,(p+q)/2,rfl,rfl,oM,oM,a5,λu hu a8=>?_,x1.Z (x2.Z x3)⟩,by show Int.toNat _<Int.toNat _;omega⟩;obtain h'|rfl:=ql a8
     .exact hA.Z hO (gz.1 hX _ u a7 hu h')
     .exact hA
   .have c5:p=q:=oM;subst c5;have wi:Aa (((P.length+(0+1)+p:Nat):Int) - 1)=((P.length+p:Nat):Int):=(by rw[Ai oM oM];omega);rw[wi];refine⟨λk w'=>∃t:Nat,k=((P.length+t:Nat):Int)/\t<=p/\uv g w w'/\tv Q0.fc w' g (P++(X.take t++x::X.drop t)++Q) tail,λk _=>(P.length+p) - k.toNat,⟨0,oM,oM,refl.ext' x1,by simpa using hB.U x1⟩,?_⟩;rintro _ w2 ⟨t,rfl,f6,b2,a4⟩;refine⟨λa9=>sf.drew λw3 x3=>?_,λa8=>?_⟩
    .have e0:t<X.length:=oM;have e1:Aa (((P.length+t:Nat):Int)+1)=((P.length+t+1:Nat):Int):=(by rw[Ai oM oM];omega);rw[e1];have eB:P++(X.take t++x::X.drop t)++Q=(P++X.take t)++x::X[t]::(X.drop (t+1)++Q):=(by rw[gj e0];simp only[ff,ig]);have a6:=a4.U x3;rw[eB]at a6;have ey:(P++X.take t).length=P.length+t:=(by rw[du,fg];omega);have gy:=a6.Ĥ Q0.vn (I6 ey);have gx:=a6.Ĥ Q0.vn (Ow (n:=P.length+t+1) oM);have c4:((P++X.take t)++x::X[t]::(X.drop (t+1)++Q)).length=data.len:=(by rw[<-eB,hlen];simp;omega);refine⟨_,⟨hd,oM,oM⟩,_,_,_,gx,_,⟨hd,oM,oM⟩,_,_,_,gy,_,⟨hd,oM,oM⟩,a6.st Q0.vn (i:=P.length+t) (x:=X[t]) (by rw[c4];omega) λw4 b4 b7=>⟨_,⟨hd,oM,oM⟩,b7.st Q0.vn (i:=P.length+t+1) (x:=x) (by rw[ji,c4];omega) λw5 b5 b9=>?_⟩⟩;have e2:=Zlj (P++X.take t) (X.drop (t+1)++Q) x X[t];rw[ey]at e2;rw[e2]at b9;refine⟨⟨t+1,oM,oM,((b2.ext' x3).Z b4).Z b5,?_⟩,by show _ - Int.toNat _<_ - Int.toNat _;omega⟩;rw[dw e0];simpa only[ff,ig,ip]using b9
    .have:t=p:=oM;subst this;refine hR w2 _ b2 ?_ ?_ a4
     .refine List.perm_middle.Z ?_;rw[ga];exact jr _
     .refine jc.2 ⟨hX.sublist (qp _ _),iq.2 ⟨λy hy=>?_,hX.sublist (ox _ _)⟩,λy hy z hz=>?_⟩
      .obtain⟨u,hu,rfl⟩:=gc.1 hy;rw[gh]at hu;rw[lj];exact b8 _ oM oM
      .obtain⟨u,hu,rfl⟩:=gc.1 hy;rw[fg]at hu;rw[jw];have c6:=a5 u oM oM;obtain rfl|hz:=gn.1 hz
       .exact c6
       .obtain⟨v,hv,rfl⟩:=gc.1 hz;rw[gh]at hv;rw[lj];exact c6.Z hO (b8 _ oM oM)
  .
   obtain⟨y,rfl⟩:=List.length_eq_one_iff.1 (show X.length=1 by omega);simp only[fu,ie]at*;refine⟨λi j w'=>∃p q:Nat,i=((P.length+p:Nat):Int)/\j=((P.length+q:Nat):Int)/\p<=q/\q<=L.length/\(∀(u:Nat)(hu:u<L.length),u<p->Ah c L[u] y)/\(∀(u:Nat)(hu:u<L.length),q<=u->Ah c y L[u])/\AI w w',
    λi j _=>(j - i).toNat,⟨0,L.length,oM,oM,oM,oM,λu _ h=>by omega,λu h1 h2=>by omega,AI.refl _⟩,?_⟩
   rintro _ _ w1 ⟨p,q,rfl,rfl,f2,hq,a5,b8,x1⟩;refine⟨λa9=>sf.drew λw2 x2=>?_,λa8=>?_⟩
   .rw[Oz oM];have he:(P.length+p+(P.length+q))/2=P.length+(p+q)/2:=oM;rw[he];have a7:(p+q)/2<L.length:=oM;have a4:=hB.U (x1.Z x2);have gx:=a4.Ĥ Q0.vn (eX 0 sI);have gy:=a4.Ĥ Q0.vn (eL _ a7);have a0:=Ah.right hO (hid _ (fe a7) y sI);refine⟨_,⟨hd,oM,oM⟩,_,_,_,gx,_,⟨hd,oM,oM⟩,_,_,_,gy,hc y.1 _ w2 _ (refl.ext' (x1.Z x2)) λw3 x3=>⟨_,rfl,λh=>?_,λh=>?_⟩⟩
    .have hA:=a0.2 h;rw[Ai oM oM];refine⟨⟨(p+q)/2+1,q,oM,rfl,oM,hq,λu hu a9=>?_,b8,x1.Z (x2.Z x3)⟩,by show Int.toNat _<Int.toNat _;omega⟩;obtain h'|rfl:=im.1 a9
     .exact(gz.1 hL u _ hu a7 h').Z hO hA
     .exact hA
    .have hA:=a0.1 (jx.1 h);refine⟨⟨p,(p+q)/2,rfl,rfl,oM,oM,a5,λu hu a8=>?_,x1.Z (x2.Z x3)⟩,by show Int.toNat _<Int.toNat _;omega⟩;obtain h'|rfl:=ql a8
     .exact hA.Z hO (gz.1 hL _ u a7 hu h')
     .exact hA
   .have c5:p=q:=oM;subst c5;refine⟨λk w'=>∃t:Nat,k=((P.length+t:Nat):Int)/\p<=t/\t<=L.length/\uv g w w'/\tv Q0.fc w' g (P++(L.take t++y::L.drop t)++Q) tail,λk _=>k.toNat,⟨L.length,oM,oM,oM,refl.ext' x1,by simpa using hB.U x1⟩,?_⟩;rintro _ w2 ⟨t,rfl,f6,g9,b2,a4⟩;refine⟨λa9=>sf.drew λw3 x3=>?_,λa8=>?_⟩
    .obtain⟨s,rfl⟩:∃s,t=s+1:=⟨t - 1,oM⟩;have d2:s<L.length:=oM;have e1:Aa (((P.length+(s+1):Nat):Int) - 1)=((P.length+s:Nat):Int):=by rw[Ai oM oM];omega
     rw[e1];have eB:P++(L.take (s+1)++y::L.drop (s+1))++Q=(P++L.take s)++L[s]::y::(L.drop (s+1)++Q):=by rw[dw d2];simp only[ff,ig,ip]
     have a6:=a4.U x3;rw[eB]at a6;have ey:(P++L.take s).length=P.length+s:=(by rw[du,fg];omega);have gy:=a6.Ĥ Q0.vn (I6 ey);have gx:=a6.Ĥ Q0.vn (Ow (n:=P.length+(s+1)) oM);have c4:((P++L.take s)++L[s]::y::(L.drop (s+1)++Q)).length=data.len:=(by rw[<-eB,hlen];simp;omega);refine⟨_,⟨hd,oM,oM⟩,_,_,_,gy,_,⟨hd,oM,oM⟩,_,_,_,gx,_,⟨hd,oM,oM⟩,a6.st Q0.vn (i:=P.length+(s+1)) (x:=L[s]) (by rw[c4];omega) λw4 b4 b7=>⟨_,⟨hd,oM,oM⟩,b7.st Q0.vn (i:=P.length+s) (x:=y) (by rw[ji,c4];omega) λw5 b5 b9=>?_⟩⟩;have e2:=XD (P++L.take s) (L.drop (s+1)++Q) L[s] y;rw[ey,rc]at e2;rw[e2]at b9;refine⟨⟨s,oM,oM,oM,((b2.ext' x3).Z b4).Z b5,?_⟩,by show Int.toNat _<Int.toNat _;omega⟩;rw[gj d2];simpa only[ff,ig,ip]using b9
    .have:t=p:=oM;subst this;refine hR w2 _ b2 ?_ ?_ a4
     .refine List.perm_middle.Z ?_;rw[ga];exact(pc y L).H
     .refine jc.2 ⟨hL.sublist (qp _ _),iq.2 ⟨λz hz=>?_,hL.sublist (ox _ _)⟩,λx hx z hz=>?_⟩
      .obtain⟨u,hu,rfl⟩:=gc.1 hz;rw[gh]at hu;rw[lj];exact b8 _ oM oM
      .obtain⟨u,hu,rfl⟩:=gc.1 hx;rw[fg]at hu;rw[jw];have c6:=a5 u oM oM;obtain rfl|hz:=gn.1 hz
       .exact c6
       .obtain⟨v,hv,rfl⟩:=gc.1 hz;rw[gh]at hv;rw[lj];exact c6.Z hO (b8 _ oM oM)
  .
   rw[Oz (i:=P.length) (j:=P.length+L.length+X.length) oM];have d5:(P.length+(P.length+L.length+X.length))/2=P.length+(L.length+X.length)/2:=oM;rw[d5];generalize hH:(L.length+X.length)/2=H at*;have wn:Aa (((P.length+H:Nat):Int)+((P.length+L.length:Nat):Int))=((P.length+H+(P.length+L.length):Nat):Int):=by rw[Ai oM oM];omega
   rw[wn];have wp:Aa (((P.length+H+(P.length+L.length):Nat):Int) - 1)=((P.length+H+(P.length+L.length) - 1:Nat):Int):=by rw[Ai oM oM];omega
   rw[wp];refine join.named λJ hJ=>?_;have d1:∀u0 v0:Nat,u0=H - X.length->v0=min L.length H->J ((P.length+u0:Nat):Int) ((P.length+v0:Nat):Int) w:=λu0 v0 h0 h5=>by
    subst hJ;show th _ _ _ _;refine⟨λi j w'=>∃s r:Nat,i=((P.length+s:Nat):Int)/\j=((P.length+r:Nat):Int)/\u0<=s/\s<=r/\r<=v0/\(∀(u:Nat)(h1:u<L.length)(h2:H - 1 - u<X.length),u0<=u->u<s->Ah c L[u] X[H - 1 - u])/\(∀(u:Nat)(h1:u<L.length)(h2:H - 1 - u<X.length),r<=u->u<v0->Ah c X[H - 1 - u] L[u])/\AI w w',
     λi j _=>(j - i).toNat,⟨u0,v0,rfl,rfl,fx _,oM,fx _,λu _ _ h1 h2=>by omega,λu _ _ h1 h2=>by omega,AI.refl _⟩,?_⟩
    rintro _ _ w1 ⟨s,r,rfl,rfl,f5,g8,f3,d8,d7,x1⟩;refine⟨λa9=>sf.drew λw2 x2=>?_,λa8=>?_⟩
    .rw[Oz oM];have he:(P.length+s+(P.length+r))/2=P.length+(s+r)/2:=oM;rw[he];generalize hu:(s+r)/2=u at*;have c8:u<L.length:=oM;have c9:H - 1 - u<X.length:=oM;have g4:Aa (((P.length+H+(P.length+L.length) - 1:Nat):Int) - ((P.length+u:Nat):Int))=((P.length+L.length+(H - 1 - u):Nat):Int):=by rw[Ai oM oM];omega
     rw[g4];have a4:=hB.U (x1.Z x2);have gx:=a4.Ĥ Q0.vn (eX _ c9);have gy:=a4.Ĥ Q0.vn (eL _ c8);have a0:=Ah.right hO (hid _ (fe c8) _ (fe c9));refine⟨_,⟨hd,oM,oM⟩,_,_,_,gx,_,⟨hd,oM,oM⟩,_,_,_,gy,hc _ _ w2 _ (refl.ext' (x1.Z x2)) λw3 x3=>⟨_,rfl,λh=>?_,λh=>?_⟩⟩
     .have hA:=a0.2 h;rw[Ai oM oM];refine⟨⟨u+1,r,oM,rfl,oM,oM,f3,λt h1 h2 h3 h4=>?_,d7,x1.Z (x2.Z x3)⟩,by show Int.toNat _<Int.toNat _;omega⟩;obtain h'|rfl:=im.1 h4
      .exact((gz.1 hL t u h1 c8 h').Z hO hA).Z hO (gz.1 hX (H - 1 - u) (H - 1 - t) c9 h2 oM)
      .exact hA
     .have hA:=a0.1 (jx.1 h);refine⟨⟨s,u,rfl,rfl,f5,oM,oM,d8,λt h1 h2 h3 h4=>?_,x1.Z (x2.Z x3)⟩,by show Int.toNat _<Int.toNat _;omega⟩;obtain h'|rfl:=ql h3
      .exact((gz.1 hX (H - 1 - t) (H - 1 - u) h2 c9 oM).Z hO hA).Z hO (gz.1 hL u t c8 h1 h')
      .exact hA
    .have d9:s=r:=oM;subst d9;have d2:s<=L.length:=oM;have g7:s<=H:=oM;have g5:H - s<=X.length:=oM;have e7:Aa (((P.length+H+(P.length+L.length):Nat):Int) - ((P.length+s:Nat):Int))=((P.length+L.length+(H - s):Nat):Int):=(by rw[Ai oM oM];omega);rw[e7];have e8:∀x∈L.take s,∀y∈X.drop (H - s),Ah c x y:=λx hx y hy=>by
      obtain⟨i,hi,rfl⟩:=gc.1 hx;obtain⟨j,hj,rfl⟩:=gc.1 hy;rw[fg]at hi;rw[gh]at hj;rw[jw,lj];have k1:=d8 (s - 1) oM oM oM oM;have e:H - 1 - (s - 1)=H - s:=oM;have k2:Ah c L[i] X[H - s]:=by
       rcases ql (show i<=s - 1 by omega)with h|h
       .have:=(gz.1 hL i (s - 1) oM oM h).Z hO k1;simpa only[e]using this
       .subst h;simpa only[e]using k1
      obtain h|h:=kg j
      .subst h;exact k2
      .exact k2.Z hO (gz.1 hX (H - s) (H - s+j) oM oM oM)
     have e9:∀y∈X.take (H - s),∀x∈L.drop s,Ah c y x:=λy hy x hx=>by
      obtain⟨i,hi,rfl⟩:=gc.1 hx;obtain⟨j,hj,rfl⟩:=gc.1 hy;rw[gh]at hi;rw[fg]at hj;rw[jw,lj];have k1:=d7 s oM oM nR oM;have k2:Ah c X[j] L[s]:=by
       rcases ql (show j<=H - 1 - s by omega)with h|h
       .exact(gz.1 hX j (H - 1 - s) oM oM h).Z hO k1
       .subst h;exact k1
      obtain h|h:=kg i
      .subst h;exact k2
      .exact k2.Z hO (gz.1 hL s (s+i) oM oM oM)
     have f9:(L.take s).length=s:=(by rw[fg];omega);have g0:(X.take (H - s)).length=H - s:=(by rw[fg];omega);have g1:(L.drop s).length=L.length - s:=gh;have g2:(X.drop (H - s)).length=X.length - (H - s):=gh;have e3:=hL.sublist (qp s L);have e4:=hL.sublist (ox s L);have e5:=hX.sublist (qp (H - s) X);have e6:=hX.sublist (ox (H - s) X);have f7:∀x∈L.take s,∀y∈X.take (H - s),x.2<y.2:=λx hx y hy=>hid x (kw hx) y (kw hy);have f8:∀x∈L.drop s,∀y∈X.drop (H - s),x.2<y.2:=λx hx y hy=>hid x (rh hx) y (rh hy);have d3:L=L.take s++L.drop s:=(ga _ _).H;have d4:X=X.take (H - s)++X.drop (H - s):=(ga _ _).H;have g6:L.take s=[]\/0<s:=by
       obtain h|h:=kg s
       .exact .inl (by rw[h];rfl)
       .exact .inr h
     have b0:∀M1 M2:List (El E),M1.Perm (L.take s++X.take (H - s))->M2.Perm (L.drop s++X.drop (H - s))->(M1++M2).Perm (L++X):=λM1 M2 h1 h2=>by
      refine(h1.append h2).Z ?_
      conv=>rhs;rw[d3,d4]
      rw[ff,ff];refine List.Perm.append_left _ ?_;rw[<-ff,<-ff];exact List.Perm.append_right _ List.perm_append_comm
     have b6:∀M1 M2:List (El E),M1.Perm (L.take s++X.take (H - s))->M2.Perm (L.drop s++X.drop (H - s))->M1.Pairwise (Ah c)->M2.Pairwise (Ah c)->(M1++M2).Pairwise (Ah c):=λM1 M2 h1 h2 s1 s2=>
      jc.2 ⟨s1,s2,λx hx y hy=>by
       rcases fp.1 (h1.mem_iff.1 hx)with hx|hx<;>rcases fp.1 (h2.mem_iff.1 hy)with hy|hy
       .obtain⟨i,hi,rfl⟩:=gc.1 hx;obtain⟨j,hj,rfl⟩:=gc.1 hy;rw[f9]at hi;rw[g1]at hj;rw[jw,lj];exact gz.1 hL i (s+j) oM oM oM
       .exact e8 x hx y hy
       .exact e9 x hx y hy
       .obtain⟨i,hi,rfl⟩:=gc.1 hx;obtain⟨j,hj,rfl⟩:=gc.1 hy;rw[g0]at hi;rw[g2]at hj;rw[jw,lj];exact gz.1 hX i (H - s+j) oM oM oM⟩
     generalize L.take s=L1 at*;generalize L.drop s=L2 at*;generalize X.take (H - s)=X1 at*;generalize X.drop (H - s)=X2 at*;have b1:uv g w w1:=refl.ext' x1;have c7:=hB.U x1;refine join.named λJ2 f0=>?_;have k2:∀w2,uv g w w2->tv Q0.fc w2 g (P++L1++X1++(L2++X2++Q)) tail->J2 w2:=λw2 b2 a4=>by
      subst f0;refine join.named λJ3 f1=>IN ?_;have k3:∀w3 M1,uv g w w3->M1.Perm (L1++X1)->M1.Pairwise (Ah c)->tv Q0.fc w3 g (P++M1++(L2++X2++Q)) tail->J3 w3:=λw3 M1 b3 a5 d0 a6=>by
       subst f1;have lM:M1.length=H:=by rw[a5.length_eq,du];omega
       refine IN ⟨λh=>?_,λh=>?_⟩
       .simp only[dz,fk]at h;refine G.gs _ _ _ _ _ _ _ (Pn G hO hd c3 N (P:=P++M1) (L:=L2) (X:=X2) (Q:=Q) oM (hc.tz b3) (by simp only[du];omega) (by simpa only[ff]using a6) (by rw[du];omega) (by rw[du];omega) (by rw[du];omega) oM oM e4 e6 f8 λw4 M2 b4 d6 g3 b7=>⟨rfl,?_⟩);exact hR w4 (M1++M2) (b3.Z b4) (b0 M1 M2 a5 d6) (b6 M1 M2 a5 d6 d0 g3) (by simpa only[ff]using b7)
       .simp only[nu,gk]at h;refine hR w3 (M1++(L2++X2)) b3 (b0 M1 _ a5 (jr _)) (b6 M1 _ a5 (jr _) d0 ?_) (by simpa only[ff]using a6);have:L2=[]\/X2=[]:=by
         obtain h|h:=h
         .exact .inl (fo oM)
         .exact .inr (fo oM)
        obtain rfl|rfl:=this
        .simpa using e6
        .simpa using e4
      refine⟨λh=>?_,λh=>?_⟩
      .simp only[dz,fk]at h;refine G.gs _ _ _ _ _ _ _ (Pn G hO hd c3 N (P:=P) (L:=L1) (X:=X1) (Q:=L2++X2++Q) oM (hc.tz b2) (by simp only[du];omega) (by simpa only[ff]using a4) rfl oM oM oM oM e3 e5 f7 λw4 M1 b4 a5 d0 b7=>⟨rfl,k3 w4 M1 (b2.Z b4) a5 d0 b7⟩)
      .simp only[nu,gk]at h;refine k3 w2 (L1++X1) b2 (jr _) ?_ (by simpa only[ff]using a4);have:L1=[]\/X1=[]:=by
        obtain h|h:=h
        .exact .inl (fo oM)
        .exact .inr (fo oM)
       obtain rfl|rfl:=this
       .simpa using e5
       .simpa using e3
     rw[d3,d4]at c7;refine IN ⟨λh=>?_,λh=>?_⟩
     .simp only[dz,fk]at h;refine G.gr _ _ _ _ _ _ _ (Zjm G (P:=P++L1) (X:=L2) (Y:=X1) (Q:=X2++Q) hd (by simp only[du];omega) c3 (by simpa only[ff]using c7) (by rw[du];omega) (by rw[du];omega) (by rw[du];omega) oM oM λw2 b2 a4=>⟨rfl,k2 w2 (b1.Z b2) (by simpa only[ff]using a4)⟩)
     .simp only[nu,gk]at h;refine k2 w1 b1 ?_;have:L2=[]\/X1=[]:=by
       obtain h|h:=h
       .exact .inl (fo oM)
       .exact .inr (fo oM)
      obtain rfl|rfl:=this
      .simpa only[ff,gv,ip]using c7
      .simpa only[ff,gv,ip]using c7
   refine⟨λh=>?_,λh=>?_⟩
   .have:=d1 (H - X.length) H rfl oM;have e:Aa (((P.length+H+(P.length+L.length):Nat):Int) - ((P.length+L.length+X.length:Nat):Int))=((P.length+(H - X.length):Nat):Int):=(by rw[Ai oM oM];omega);rwa [e]
   .have:=d1 0 L.length oM oM;exact this
def ids{z0:List (El E)}(hz:z0.Pairwise λx y=>x.2<y.2){n j m:Nat}(h:i+n<=j):∀x∈sg z0 i n,∀y∈sg z0 j m,x.2<y.2:=λx hx y hy=>by obtain⟨a,ha,_,a0,rfl⟩:=Xb hx;obtain⟨b,hb,a4,_,rfl⟩:=Xb hy;exact gz.1 hz a b ha hb oM
def Zla(G:Gos Q0)(hO:wg c){tail:LV}{R:Wp}{z0:List (El E)}{n:Int}(hd:data.a=some ⟨g,0,none⟩)(e9:data.len<2305843009213693952)(hc:Ý Q0 cmp c g w)(a7:data.len=z0.length)(hn:n=(z0.length:Int))(hB:tv Q0.fc w g z0 tail)
  (hz:z0.Pairwise λx y=>x.2<y.2) (hR:∀w' M,uv g w w'->M.Perm z0->M.Pairwise (Ah c)->tv Q0.fc w' g M tail->R w'):J0 G.fi G.fs data n cmp w R:=by
 unfold J0;subst hn;have refl:uv g w w:=⟨fx _,rfl,rfl,rfl,λ_ _ _=>rfl⟩;refine⟨λa b w'=>∃(k:Nat) (z:List (El E)),a=((k*20:Nat):Int)/\b=((k*20+20:Nat):Int)/\k*20<=z0.length/\z.length=z0.length/\z.drop (k*20)=z0.drop (k*20)/\Ć c 20 z z0 k/\uv g w w'/\tv Q0.fc w' g z tail,
  λa _ _=>z0.length - a.toNat,⟨0,z0,rfl,rfl,oM,rfl,rfl,⟨λi h=>by omega,λi h=>by omega⟩,refl,hB⟩,?_⟩
 rintro _ _ w1 ⟨k,z,rfl,rfl,hk,d1,c4,b9,b1,b7⟩;have la:(z.take (k*20)).length=k*20:=by rw[fg];omega
 refine⟨λc5=>?_,λf5=>?_⟩
 .have d0:sg z (k*20) 20=sg z0 (k*20) 20:=by unfold sg;rw[c4]
  have hs:=Xc z (k*20) 20;have d9:(sg z (k*20) 20).length=20:=Pc oM;rw[hs]at b7;refine G.gi _ _ _ _ _ _ (UZ hO (A:=z.take (k*20)) (M0:=sg z (k*20) 20) (B:=z.drop (k*20+20)) (hc.tz b1) hd (by rwa [<-hs,d1]) oM b7 (by rw[la]) (by rw[la,d9]) (by rw[d0];exact hz.sublist ((qp _ _).Z (ox _ _))) λw2 M b2 hp a5 b8=>⟨rfl,?_⟩);have a0:M.length=20:=by rw[hp.length_eq,d9]
  rw[Ai oM oM];refine⟨⟨k+1,z.take (k*20)++M++z.drop (k*20+20),oM,oM,oM,?_,?_,?_,b1.Z b2,b8⟩,by show _ - Int.toNat _<_ - Int.toNat _;omega⟩
  .simp only[du,gh,la,a0];omega
  .rw[List.drop_left' (by rw[du,la,a0];omega),show k*20+20=(k+1)*20 by omega];rw[show(k+1)*20=k*20+20 by omega,<-kr,c4,kr]
  .constructor
   .intro i hi;obtain h|rfl:=im.1 hi
    .rw[EW (by rw[la];omega)];have:=b9.perm i h;rw[hs,EW (by rw[la];omega)]at this;exact this
    .rwa [RR la a0,<-d0]
   .intro i hi;obtain h|rfl:=im.1 hi
    .rw[EW (by rw[la];omega)];have:=b9.sort i h;rw[hs,EW (by rw[la];omega)]at this;exact this
    .rwa [RR la a0]
 .have hs:z=z.take (k*20)++z.drop (k*20)++[]:=by rw[gv,ga]
  have d7:(z.drop (k*20)).length=z0.length - k*20:=by rw[gh,d1]
  rw[hs]at b7;refine G.gi _ _ _ _ _ _ (UZ hO (A:=z.take (k*20)) (M0:=z.drop (k*20)) (B:=[]) (hc.tz b1) hd (by rwa [<-hs,d1]) oM b7 (by rw[la]) (by rw[la,d7];omega) (by rw[c4];exact hz.sublist (ox _ _)) λw2 M b2 hp a5 b8=>⟨rfl,?_⟩);have a0:M.length=z0.length - k*20:=by rw[hp.length_eq,d7]
  rw[gv]at b8;have d6:∀j,Ć c 20 (z.take (k*20)++M) z0 j:=λj=>by
   have d0:sg z (k*20) 20=z.drop (k*20):=(by unfold sg;rw[ia oM]);have d8:sg z0 (k*20) 20=z0.drop (k*20):=by unfold sg;rw[ia (by rw[gh];omega)]
   constructor
   .intro i _;obtain h|rfl|h:=Nat.lt_trichotomy i k
    .have:=b9.perm i h;rw[hs,EW (by rw[la];omega)]at this;rwa [<-gv (z.take (k*20)++M),EW (by rw[la];omega)]
    .rwa [RQ la oM,d8,<-c4]
    .have:k+1<=i:=h;rw[H7 (by rw[du,la];omega),H7 oM]
   .intro i _;obtain h|rfl|h:=Nat.lt_trichotomy i k
    .have:=b9.sort i h;rw[hs,EW (by rw[la];omega)]at this;rwa [<-gv (z.take (k*20)++M),EW (by rw[la];omega)]
    .rwa [RQ la oM]
    .have:k+1<=i:=h;rw[H7 (by rw[du,la];omega)];exact .nil
  have e2:(z.take (k*20)++M).length=z0.length:=by rw[du,la];omega
  generalize z.take (k*20)++M=z1 at*;have e5:=b1.Z b2;clear hp a5 a0;refine⟨λbs w'=>∃(s:Nat) (z:List (El E)),bs=(s:Int)/\0<s/\s<2*z0.length+40/\z.length=z0.length/\(∀j,Ć c s z z0 j)/\uv g w w'/\tv Q0.fc w' g z tail,λbs _=>2*z0.length+40 - bs.toNat,⟨20,z1,rfl,oM,oM,e2,d6,e5,b8⟩,?_⟩;rintro _ w3 ⟨s,z2,rfl,f8,f9,e3,a6,b3,d4⟩;refine⟨λf6=>?_,λf3=>?_⟩
  .have g0:s<z0.length:=oM;rw[Ai (x:=2*(s:Int)) oM oM];refine⟨λa b w'=>∃(k:Nat) (z:List (El E)),a=((k*(2*s):Nat):Int)/\b=((k*(2*s)+2*s:Nat):Int)/\k*(2*s)<=z0.length/\z.length=z0.length/\z.drop (k*(2*s))=z2.drop (k*(2*s))/\Ć c (2*s) z z0 k/\uv g w w'/\tv Q0.fc w' g z tail,
    λa _ _=>z0.length - a.toNat,⟨0,z2,by simp,by simp,oM,e3,by simp,⟨λi h=>by omega,λi h=>by omega⟩,b3,d4⟩,?_⟩
   rintro _ _ w4 ⟨k,z,rfl,rfl,hk,a8,b0,c7,b4,a9⟩;generalize hK:k*(2*s)=K at*;have a4:(z.take K).length=K:=by rw[fg];omega
   have d2:2*k*s=K:=(by rw[<-hK,Nat.mul_comm 2 k,Nat.mul_assoc]);have d3:(2*k+1)*s=K+s:=(by rw[ku,d2,Nat.one_mul]);have p1:=(a6 (2*k+2)).perm (2*k) oM;have p2:=(a6 (2*k+2)).perm (2*k+1) oM;have s1:=(a6 (2*k+2)).sort (2*k) oM;have s2:=(a6 (2*k+2)).sort (2*k+1) oM;rw[d2]at p1 s1;rw[d3]at p2 s2;have g1:sg z K s=sg z2 K s:=(by unfold sg;rw[b0]);have g2:sg z (K+s) s=sg z2 (K+s) s:=(by unfold sg;rw[<-kr,b0,kr]);rw[<-g1]at p1 s1;rw[<-g2]at p2 s2;have c8:∀x∈sg z K s,∀y∈sg z (K+s) s,x.2<y.2:=λx hx y hy=>ids hz nR x (p1.mem_iff.1 hx) y (p2.mem_iff.1 hy);have e4:Aa ((K:Int)+(s:Int))=((K+s:Nat):Int):=(by rw[Ai oM oM];omega);have grow:∀(z' M B:List (El E)) (m:Nat),z'=z.take K++M++B->M.length=m->M.Perm (sg z K s++sg z (K+s) s)->M.Pairwise (Ah c)->(m=2*s\/B=[])->m<=2*s->Ć c (2*s) z' z0 (k+1):=λz' M B m e1 hm hp a5 e8 f7=>by
    have e:sg z' K (2*s)=M:=by
     subst e1;obtain h|h:=e8
     .exact RR a4 oM
     .subst h;rw[gv];exact RQ a4 oM
    have e0:sg z0 K (2*s)=sg z0 K s++sg z0 (K+s) s:=by rw[show 2*s=s+s by omega,RP]
    have el:∀i,i<k->sg z' (i*(2*s)) (2*s)=sg z (i*(2*s)) (2*s):=λi h=>by
     have c5:i*(2*s)+2*s<=K:=(by have:=iu (2*s) (show i+1<=k from h);rw[ku,hK,Nat.one_mul]at this;exact this);have h1:sg z (i*(2*s)) (2*s)=sg (z.take K) (i*(2*s)) (2*s):=by
      conv=>lhs;rw[show z=z.take K++z.drop K++[] by rw[gv,ga]]
      exact EW (by rwa [a4])
     rw[h1,e1,EW (by rwa [a4])]
    constructor
    .intro i hi;obtain h|rfl:=im.1 hi
     .rw[el i h];exact c7.perm i h
     .rw[hK,e,e0];exact hp.Z (p1.append p2)
    .intro i hi;obtain h|rfl:=im.1 hi
     .rw[el i h];exact c7.sort i h
     .rwa [hK,e]
   refine⟨λc5=>?_,λf1=>?_⟩
   .have b6:z=z.take K++sg z K s++sg z (K+s) s++z.drop (K+2*s):=by have:=Xc z K (2*s);rw[show 2*s=s+s by omega,RP]at this;rw[show 2*s=s+s by omega];simpa only[ff]using this
    have l1:(sg z K s).length=s:=Pc oM;have l2:(sg z (K+s) s).length=s:=Pc oM;rw[e4];rw[b6]at a9;refine G.gs _ _ _ _ _ _ _ (Pn G hO hd oM _ (P:=z.take K) (L:=sg z K s) (X:=sg z (K+s) s) (Q:=z.drop (K+2*s)) nR (hc.tz b4) (by rwa [<-b6,a8]) a9 (by rw[a4]) (by rw[a4,l1]) (by rw[a4,l1,l2];omega) oM oM s1 s2 c8 λw5 M b5 hp a5 c9=>⟨rfl,?_⟩);have a0:M.length=2*s:=(by rw[hp.length_eq,du];omega);rw[Ai oM oM];have d5:(k+1)*(2*s)=K+2*s:=(by rw[ku,hK,Nat.one_mul]);refine⟨⟨k+1,z.take K++M++z.drop (K+2*s),oM,oM,oM,?_,?_,grow _ M _ (2*s) rfl a0 hp a5 (.inl rfl) nR,b4.Z b5,c9⟩,by show _ - Int.toNat _<_ - Int.toNat _;omega⟩
    .simp only[du,gh,a4,a0];omega
    .rw[d5,List.drop_left' (by rw[du,a4,a0]),<-kr,b0,kr]
   .refine join.named λJ hJ=>?_;have kJ:∀w' z',uv g w w'->z'.length=z0.length->Ć c (2*s) z' z0 (k+1)->tv Q0.fc w' g z' tail->J w':=λw' z' b' e7 c6 e6=>by
     subst hJ;have e:Aa ((s:Int)*2)=((2*s:Nat):Int):=by rw[Ai oM oM];omega
     rw[e];have d5:(k+1)*(2*s)=K+2*s:=by rw[ku,hK,Nat.one_mul]
     refine⟨⟨2*s,z',rfl,oM,oM,e7,λj=>⟨λi _=>?_,λi _=>?_⟩,b',e6⟩,by show _ - Int.toNat _<_ - Int.toNat _;omega⟩
     .by_cases h:i<k+1
      .exact c6.perm i h
      .have:=iu (2*s) (show k+1<=i by omega);rw[H7 oM,H7 oM]
     .by_cases h:i<k+1
      .exact c6.sort i h
      .have:=iu (2*s) (show k+1<=i by omega);rw[H7 oM];exact .nil
    rw[e4];have c3:z.drop K=sg z K s++sg z (K+s) s:=by rw[<-RP];unfold sg;rw[ia (by rw[gh];omega)]
    refine⟨λf2=>?_,λf0=>?_⟩
    .have b6:z=z.take K++sg z K s++sg z (K+s) s++[]:=(by rw[gv,ff,<-c3,ga]);have l1:(sg z K s).length=s:=Pc oM;have l2:(sg z K s).length+(sg z (K+s) s).length=z0.length - K:=(by rw[<-du,<-c3,gh,a8]);rw[b6]at a9;refine G.gs _ _ _ _ _ _ _ (Pn G hO hd oM _ (P:=z.take K) (L:=sg z K s) (X:=sg z (K+s) s) (Q:=[]) nR (hc.tz b4) (by rwa [<-b6,a8]) a9 (by rw[a4]) (by rw[a4,l1]) (by rw[a4];omega) oM oM s1 s2 c8 λw5 M b5 hp a5 c9=>⟨rfl,?_⟩);have a0:M.length=z0.length - K:=(by rwa [hp.length_eq,du]);exact kJ w5 _ (b4.Z b5) (by simp only[du,ie,a4,a0];omega) (grow _ M [] _ rfl a0 hp a5 (.inr rfl) oM) c9
    .have e0:sg z (K+s) s=[]:=H7 oM;refine kJ w4 z b4 a8 (grow z (z.drop K) [] _ (by rw[gv,ga]) rfl (by rw[c3]) ?_ (.inr rfl) (by rw[gh];omega)) a9;rwa [c3,e0,gv]
  .have e:sg z2 (0*s) s=z2:=(by rw[mq];unfold sg;rw[ju,ia oM]);have e0:sg z0 (0*s) s=z0:=(by rw[mq];unfold sg;rw[ju,ia oM]);have p:=(a6 1).perm 0 oM;have so:=(a6 1).sort 0 oM;rw[e]at p so;rw[e0]at p;exact hR w3 z2 b3 p so d4
def xo(G:Gos Q0)(hO:wg c){tail:LV}{R:Wp}{l:List E}(hd:data.a=some ⟨g,0,none⟩)(a5:data.len<2305843009213693952)(hc:Ý Q0 cmp c g w)(a0:data.len=l.length)(hB:tv Q0.cells w g l tail)
  (hR:∀w',uv g w w'->tv Q0.cells w' g (Bw c l) tail->R w'):Jz G.ft data cmp w R:=by
 unfold Jz;have a6:tv Q0.fc w g (En 0 l) tail:=by
  unfold tv at hB ⊢;have:(En 0 l).map Q0.fc=l.map Q0.cells:=by have h:=jt (List.map Q0.cells) (Ro 0 l);rw[jh]at h;exact h
  rwa [this]
 refine G.gt _ _ _ _ _ (Zla G hO hd a5 hc (by rwa [Wb]) (by rw[Wb,a0]) a6 (Rp 0 l) λw2 M b2 hp hs a4=>⟨rfl,hR w2 b2 ?_⟩);have e:=Zk7 hO hp hs;unfold tv at a4 ⊢;have:M.map Q0.fc=(Bw c l).map Q0.cells:=by rw[<-e,jh];rfl
 rwa [<-this]
def wy(G:Gos Q0){R:Wp}(h0:data.len=0)(hR:R w):Jz G.ft data cmp w R:=by unfold Jz;rw[h0];refine G.gt _ _ _ _ _ ?_;unfold J0;refine⟨λa b w'=>a=0/\b=20/\w'=w,λ_ _ _=>0,⟨rfl,rfl,rfl⟩,?_⟩;rintro _ _ w1 ⟨rfl,rfl,a0⟩;subst a0;refine⟨λh=>by simp at h,λ_=>G.gi _ _ _ _ _ _ ?_⟩;unfold Jy;refine⟨λa w'=>a=1/\w'=w1,λ_ _=>0,⟨by decide,rfl⟩,?_⟩;rintro _ w2 ⟨rfl,a4⟩;subst a4;refine⟨λh=>by simp at h,λ_=>⟨rfl,?_⟩⟩;refine⟨λa w'=>a=20/\w'=w2,λ_ _=>0,⟨rfl,rfl⟩,?_⟩;rintro _ w3 ⟨rfl,a5⟩;subst a5;exact⟨λh=>by simp at h,λ_=>⟨rfl,hR⟩⟩
end
end StG
namespace StV
def cells(x:tj):LV:=x.c
def Q0:StG.Sh tj:=⟨_,_,_,AE,tj.ma,tj.mi,tj.pa,λ_ _ _=>rfl⟩
def G0:StG.Gos Q0:=⟨332,333,369,391,274,λ_ _ _ _ _ _ h=>RY.V h,λ_ _ _ _ _ _ _ h=>Sg.V h,λ_ _ _ _ _ _ _ h=>Sa.V h,λ_ _ _ _ _ _ _ h=>Se.V h,λ_ _ _ _ _ h=>Sc.V h⟩
def Ý(cmp:HT)(c:tj->tj->Int)(g:Nat)(w0:PU):Prop:=
 ∀(x y:tj)(w:PU)(k:Ë),uv g w0 w->(∀w',AI w w'->k (vi (c x y)) w')->un prog cmp [.agg (cells x).toArray,.agg (cells y).toArray] w k
def xo{cmp:HT}{c:tj->tj->Int}(hO:wg c){tail:LV}{R:Wp}{l:List tj}(hd:data.a=some ⟨g,0,none⟩)(a0:data.len<2305843009213693952)(hc:Ý cmp c g w)(a4:data.len=l.length)(hB:tv cells w g l tail)
  (hR:∀w',uv g w w'->tv cells w' g (Bw c l) tail->R w'):J8 data cmp w R:=StG.xo (Q0:=Q0) G0 hO hd a0 hc a4 hB hR
def wy{cmp:HT}{R:Wp}(h0:data.len=0)(hR:R w):J8 data cmp w R:=StG.wy (Q0:=Q0) G0 h0 hR
end StV
def _root_.Go.RowKit.Below.Xbx(h:Below lo w w')(hS:∀b,S b->b<lo):ï S w w':=λb hb _=>h.block b (hS b hb)
def AT.below(hb:AT w a cs)(h:Below lo w w')(hl:a.block<lo):AT w' a cs:=hb.sj (S:=λb=>b<lo) hl (h.Xbx λ_ h=>h)
def No.below{α:Type}{E:xn α}{l:List α}(hs:No E w S s l)(h:Below lo w w')(hS:∀b,S b->b<lo):No E w' S s l:=hs.sj (h.Xbx hS)
def Zha(a b:tn):((Ag a.Y b.Y)&&(((a.v.ma==b.v.ma)&&((a.v.mi==b.v.mi)&&((a.v.pa==b.v.pa)&&true)))&&true))=decide (a=b):=by rw[FN,Bool.and_true,gp,dz,AG,fk,fk];obtain⟨n,v⟩:=a;obtain⟨m,u⟩:=b;simp
def Zd0{l:Η}{x:tn}{R:È}(hs:No vb w S s l)(hR:∀w',AI w w'->R (AV (λy=>decide (x=y)) l) w'):MQ s x.Y x.v.ma x.v.mi x.v.pa w R:=by
 unfold MQ;have hl:=hs.len;refine An.intro λa w0 x0 hb _ _=>?_;refine Of.up hs.max (λi w'=>AI w0 w'/\(l.take i).any (λy=>decide (x=y))=false) ⟨AI.refl _,rfl⟩ λi w1 a6 hi ⟨x1,hI⟩ hn=>⟨λa4=>sf.drew λw2 x2=>?_,λa5=>?_⟩
 .have a0:i<l.length:=oM;obtain⟨ad,cs,ha,_,⟨rfl,_⟩,hc⟩:=hs.el a0;refine⟨_,_,_,_,hb.at0 (r:=[]) (x1.Z x2) rfl,ad,⟨ha,oM,a4⟩,_,_,_,_,hc _ (x0.Z (x1.Z x2)),?_⟩;rw[Zha];exact⟨λh=>by rw[<-F5 (p:=λy=>decide (x=y)) a0 hI h];exact hR _ (x0.Z (x1.Z x2)),λh=>hn a0 _ ⟨x1.Z x2,by rwa [FJ a0 hI]⟩⟩
 .have:i=l.length:=oM;rw[this,eh]at hI;rw[<-EL hI];exact hR _ (x0.Z x1)
def Ub{l:Η}{x:tn}(hs:No vb w S s l)(hR:∀w',AI w w'->R (decide (x∈l)) w'):J6 s x.Y x.v.ma x.v.mi x.v.pa w R:=by
 refine An.intro λa w0 x0 hb _ _=>⟨_,_,_,_,hb.sh.pre (r:=[]) rfl,MQ.V (Zd0 (x:=x) (hs.U x0) λw1 x1=>⟨_,rfl,?_⟩)⟩;rw[F4];have:l.any (λy=>decide (x=y))=decide (x∈l):=by rw[gp,ka,fk];simp
 rw[this];exact hR _ (x0.Z x1)
def đ{b:Bool}{R:È}(hR:R (CD b) w):Im b w R:=by unfold Im;exact⟨λh=>by subst h;exact hR,λh=>by subst h;exact hR⟩
def Zs{v:tj}{l:Sl}{ll:Κ}{c0:LP}(hc:AT w c0 [l.v])(hl:No uo w S l ll)(hR:∀w',AI w w'->R (!BT ll v) w'):Kf v.ma v.mi v.pa c0 w R:=by refine An.intro λa w1 x1 hb _ _=>⟨l,hc.at0 (r:=[]) x1 rfl,_,_,_,hb.sh.pre (r:=[]) rfl,HE.V (Sn (v:=v) (hl.U x1) λw2 x2=>⟨_,rfl,hR _ (x1.Z x2)⟩)⟩
def Zt{a b:tj}{rv:Sl}{lp:Η}{c0 c1:LP}{R:È}(a4:AT w c0 [rv.v])(a5:AT w c1 [.string n])(hp:No vb w S rv lp)(hR:∀w',AI w w'->R (cC lp n a b) w'):
  Kg a.ma a.mi a.pa b.ma b.mi b.pa c0 c1 w R:=by
 refine An.intro λ_ w1 x1 hb _ _=>An.intro λ_ w2 x2 a7 _ _=>sf.drew λw3 x3=>?_;have a6:=x2.Z x3;have a0:=x1.Z a6;refine⟨rv,a4.at0 (r:=[]) a0 rfl,n,a5.at0 (r:=[]) a0 rfl,_,_,_,a7.at0 (r:=[]) x3 rfl,rv,a4.at0 (r:=[]) a0 rfl,n,a5.at0 (r:=[]) a0 rfl,_,_,_,hb.at0 (r:=[]) a6 rfl,?_⟩;refine tf.intro (J6.V (Ub (x:=⟨n,b⟩) (hp.U a0) λw4 x4=>⟨x4,_,rfl,tf.intro (Im.V (đ ⟨AI.refl _,_,rfl,?_⟩))⟩));refine J6.V (Ub (x:=⟨n,a⟩) (hp.U (a0.Z x4)) λw5 x5=>⟨_,rfl,Im.V (đ ⟨_,rfl,?_⟩)⟩);have e:Aa (CD (decide ((⟨n,b⟩:tn)∈lp)) - CD (decide ((⟨n,a⟩:tn)∈lp)))=cC lp n a b:=by
  rw[Ai]<;>unfold CD
  .rfl
  .split<;>split<;>omega
  .split<;>split<;>omega
 rw[e];exact hR _ (a0.Z (x4.Z x5))
def Zb0:Bm prog 192:=enters_of func192 kR rfl
def Zb1:Bm prog 194:=enters_of func194 kR rfl
def Zy{l rv:Sl}{ll:Κ}{lp:Η}{S1:Nat->Prop}{R:Sl->Wp}(hC:zk w S p r L)(b7:Old S1 w)(b8:Old S2 w)(hl:No uo w S1 l ll)(hp:No vb w S2 rv lp)
  (hR:∀t w',AI w w'->tq tj.c 24 w' w.heap.size t (DI L n ll lp)->R t w'):Ke (some p) n l rv w R:=by
 refine An.intro λa w1 x1 hb _ _=>An.intro λa1 w2 x2 b9 _ _=>An.intro λa3 w3 x3 b0 _ _=>?_;have a0:=x1.Z (x2.Z x3);have a6:=hb.U (x2.Z x3);have a4:=b9.U x3;refine⟨n,a6.sh.pre (r:=[]) rfl,F0.V (Z3 (hC.U a0) λt w4 x4 hF=>⟨_,rfl,?_⟩)⟩;have s4:=x4.size;refine MH.V (Zah (d:=λv=>!BT ll v) hF s4 (λx _ w' k hw hk=>?_) λt2 w5 b5 a9=>⟨_,rfl,?_⟩)
 .refine⟨_,_,rfl,Zb0,Kf.V (Zs (v:=x) (l:=l) (ll:=ll) (S:=S1) ?_ ?_ hk)⟩
  .exact(a4.U x4).below hw a4.lt
  .exact(hl.U (a0.Z x4)).below hw λb hb=>jo (b7 b hb) a0.size
 .have e:(DB n L).filter (λx=>!(!BT ll x))=(DB n L).filter (BT ll):=by simp
  rw[e]at a9;have xB:Below w3.heap.size w3 w5:=Below.Z x4 b5;have fin:∀w6,Below w3.heap.size w3 w6->tq tj.c 24 w6 w3.heap.size t2 (DI L n ll lp)->sx prog 197 [t2.v] w6 (λc3 c4=>∃b4:Sl,c3=b4.v/\R b4 c4):=λw6 b6 a5=>by refine Pg.V ⟨⟨oM,oM,oM,by have:=a5.1;have:=a5.2.1;omega⟩,_,rfl,hR _ _ (a0.Z b6) ?_⟩;obtain⟨a,b,c,d,e⟩:=a5.Xa1 (k:=3);exact⟨a,b,c,d,e.imp id λ⟨g,tail,a,b,c⟩=>⟨g,tail,a,fj a0.size b,c⟩⟩
  obtain⟨k1,k2,k3,k4,k5⟩:=a9;rcases k5 with k5|⟨g,tail,ha,hg,hr⟩
  .refine J8.V (StV.wy (by rw[k1,k5];rfl) ⟨rfl,fin w5 xB ?_⟩);have:DI L n ll lp=[]:=(by rw[<-NP,k5];rfl);rw[this];rw[k5]at k1 k2;exact⟨k1,k2,k3,by simp,.inl rfl⟩
  .refine J8.V (StV.xo (Zl lp n) ha (by rw[k1];unfold Ab at k4;omega) (λx y w' k hw hk=>?_) k1 hr λw6 b6 b2=>⟨rfl,fin w6 (Below.Z xB (b6.below (by have:=xB.size;omega) hg)) ?_⟩)
   .have a8:Below w3.heap.size w3 w':=Below.Z xB (hw.below (by have:=xB.size;omega) hg);refine⟨_,_,rfl,Zb1,Kg.V (Zt (a:=x) (b:=y) (n:=n) (rv:=rv) (lp:=lp) (S:=S2) ?_ ?_ ?_ hk)⟩
    .exact b0.below a8 b0.lt
    .exact a6.below a8 (jo a6.lt nR)
    .exact(hp.U a0).below a8 λb hb=>jo (b8 b hb) a0.size
   .rw[NP]at b2;have a7:(DI L n ll lp).length=((DB n L).filter (BT ll)).length:=by rw[<-NP];exact(G7 _).length_eq
    exact⟨by rwa [a7],by rwa [a7],k3,by rwa [a7],.inr ⟨g,tail,ha,hg,b2⟩⟩
structure Xcs where
 Y:Pr
 v:tj
 d:Sl
 e:Sl
 o:Sl
instance:Inhabited Xcs:=⟨⟨⟨#[]⟩,⟨0,0,0⟩,Sl.nil,Sl.nil,Sl.nil⟩⟩
def TY{x y:Int}{R:È}(hs:No yu w S s [x,y])(hR:R (AM x y) w):EB s w R:=
 Ua hs (by
  have: [x,y].foldr AM 0=AM x y:=by
   show AM x (AM y 0)=_;have:AM y 0=y:=by unfold AM;split<;>simp_all
   rw[this]
  rwa [this])
def PP:Bk prog 22 59 7 112:=CL (z:=.agg #[.string ⟨#[]⟩,vi 0,vi 0,vi 0,.slice none 0 0,.slice none 0 0,.slice none 0 0]) kR kR rfl dC
end Go.Hal
