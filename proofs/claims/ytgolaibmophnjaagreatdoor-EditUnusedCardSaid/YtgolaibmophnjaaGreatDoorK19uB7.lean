/- Lemmas for the claim K19u: how the program's functions run, and what they answer; no condition but those that each theorem names. -/
import Derived.Test.YtgolaibmophnjaaGreatDoorK19uB6
set_option linter.unusedVariables false
set_option linter.unusedSimpArgs false
set_option linter.defProp false
set_option maxHeartbeats 16000000
open Go.Hal.SE hiding Cs Dr Lb vB
open Go Go.RowKit Go.Proofs Go.Shelf Go.Hal Go.Proofs.Tryz
variable {a:LP} {R:É} {D Di N P:Int} {G:List Hal.rz} {L:Ι} {n:Nat} {S:Nat->Prop} {r:Option (Κ)} {d g o t:Sl} {s:á} {w:PU}
namespace Go.Hal
def Zbx:Bm prog 65:=enters_of func65 kR rfl
def Zjs{x y:ż×uf}(hx:ü w S x)(hy:ü w S y):Calls prog 65 #[.agg (EC x.1).toArray,.agg (EC y.1).toArray] w λe w'=>e= .returned (vi (Ih x.2 y.2))/\AI w w':=by have h1:=hx.BY;have h2:=hy.BY;obtain⟨⟨ps,nm,ma,mi,pa,d,e,o,nd⟩,x⟩:=x;obtain⟨⟨a0,a8,a5,a6,a9,d',e',o',a7⟩,y⟩:=y;have h:sx prog 65 [.agg #[ps.v,.string nm,vi ma,vi mi,vi pa,d.v,e.v,o.v,vi nd],.agg #[a0.v,.string a8,vi a5,vi a6,vi a9,d'.v,e'.v,o'.v,vi a7]] w (λv w'=>v= .int .i64 (Ih x y)/\AI w w'):=OI.V (by refine An.intro λa w1 x1 hb _ _=>An.intro λa1 w2 x2 a4 _ _=>sf.drew λw3 x3=>⟨ps,hb.at0 (x2.Z x3) rfl,a0,a4.at0 x3 rfl,tf.intro (Ew.V (HH (h1.U (x1.Z (x2.Z x3))) hx.2 λw4 x4=>⟨x4,_,rfl,Ew.V (HH (h2.U (x1.Z (x2.Z (x3.Z x4)))) hy.2 λw5 x5=>⟨_,rfl,Fd ⟨_,rfl,rfl,x1.Z (x2.Z (x3.Z (x4.Z x5)))⟩⟩)⟩))⟩);exact Calls.O h λe w' ⟨v,he,hv,hg⟩=>⟨by rw[he,hv],hg⟩
def Zht{S0:Nat->Prop}{u pks:Sl}{P:Ι}{ol:Qd}{tm:Option (Ε)}{l1 l2 M:Int}{R:Sl->È}(ht:Þ w)(hS:Old S0 w)(hg:No uh w S0 u G)(i5:No wu w S0 pks P)(f6:ze w S0 tm ol)(hz:0<P.length->P[0]?=some Ay)
  (hb:∀T,tm=some T->∀d∈T,d.BY.length<=4000000000000)
  (hR:∀c T t w',AI w w'->xj G P tm D M c T->No ve w' (λb=>b<w'.heap.size) t T->R t c w'):Gz u pks l1 l2 D M ol w R:=by
 refine An.intro λa w1 x1 ha k4 _=>An.intro λa1 w2 x2 b2 j5 _=>An.intro λa3 w3 x3 b5 j6 _=>⟨D,b2.at1 (k:=2) x3 rfl,IN ⟨D,λ_=>b2.at1 (k:=2) x3 rfl,IN ⟨M,λ_=>b2.at1 (k:=3) (r:=[]) x3 rfl,IN ⟨M,λ_=>b2.at1 (k:=3) (r:=[]) x3 rfl,λhc=>?_,λhc=>IN ?_⟩⟩⟩⟩
 .have a6:=x1.Z (x2.Z x3);have d9: ¬Fo D M:=λ⟨h1,h2,h3,h4⟩=>by rw[fq oM,fq oM,fq oM,fq oM]at hc;cases hc
  exact tk.intro b5 sI λw4 b4 _ d6=>⟨Sl.nil,d6.sh.pre (r:=[]) rfl,hR 1 [] Sl.nil w4 (b4.U a6 (by have:=x1.size;have:=x2.size;omega)) (.arg d9) (No.nil trivial)⟩
 have b9:Fo D M:=by simp only[gd,gk]at hc;obtain⟨⟨⟨h2,h3⟩,h4⟩,h5⟩:=hc;exact⟨oM,oM,oM,oM⟩
 clear hc;have a6:=x1.Z (x2.Z x3);have s1:=x1.size;have s2:=x2.size;have s3:=x3.size;obtain⟨p0,t0,T0,i4,i9,g5,a5⟩:∃(p0:LP) (t0:Sl) (T0:Ε),((!Option.isNone ol)=true->ol=some p0)/\((!Option.isNone ol)=true->sh w3 p0 [t0.v])/\((!Option.isNone ol)=true->No ve w3 S0 t0 T0)/\(((!Option.isNone ol)=true/\tm=some T0)\/((!Option.isNone ol)=false/\tm=none)):=by
  rcases f6.ok with⟨rfl,h⟩|⟨ao,T,so,rfl,h2,h3,h4⟩
  .exact⟨⟨0,0,none⟩,Sl.nil,[],nO,nO,nO,.inr ⟨rfl,h⟩⟩
  .exact⟨ao,so,T,λ_=>rfl,λ_=>h3.U a6,λ_=>h4.U a6,.inl ⟨rfl,h2⟩⟩
 refine⟨p0,i4,t0,i9,IS.named λJ hJ=>?_⟩;have c9:∀(e1:Int)(c7:PU),AI w3 c7->((!Option.isNone ol)=true->e1=Ga T0)->J e1 c7:=by
  subst hJ;intro e1 c7 b0 d1;have x0:=a6.Z b0;refine⟨λhc=>?_,λhc=>?_⟩
  .have d9: ¬HS tm:=λhO=>by
    rcases a5 with⟨h1,h2⟩|⟨h1,h2⟩
    .rw[h1,d1 h1,NS (hO T0 h2)]at hc;cases hc
    .rw[h1]at hc;cases hc
   exact tk.intro (b5.U b0) sI λw4 b4 _ d6=>⟨Sl.nil,d6.sh.pre (r:=[]) rfl,hR 42 [] Sl.nil w4 (b4.U x0 oM) (.Ħ b9 d9) (No.nil trivial)⟩
  have hO:HS tm:=λT hT=>by
   rcases a5 with⟨h1,h2⟩|⟨h1,h2⟩
   .rw[h1,d1 h1]at hc;rw[h2]at hT;cases hT;exact Kj.1 (by simpa using hc)
   .rw[h2]at hT;cases hT
  clear hc d1;refine⟨u,ha.at0 (r:=[]) (x2.Z (x3.Z b0)) rfl,l1,l2,D,M,b2.at0 (r:=[]) (x3.Z b0) rfl,?_⟩;refine An.Xcg (E:=ve) (f:=λ_=> [Sl.nil.v,.string ⟨#[]⟩,vi 0,vi 0,vi 0,Sl.nil.v,Sl.nil.v,Sl.nil.v,vi 0]) (l:=[⟨[],Ay,0⟩]) (λx hx w S=>by rw[ep.1 hx];exact RJ) rfl sI λc5 w4 x4 o4 g6=>An.intro λa4 w5 x5 f1 g7 j8=>?_;have e3:=b0.Z (x4.Z x5);have a7:=a6.Z e3;have m2:=b0.size;have s4:=x4.size;have s5:=x5.size;have l3:=b5.lt;have l8:=ha.lt;have m0:=f1.lt;have l9:c5.block<w4.heap.size:=(o4.block rfl).2.1;have eD:ķ.By.map (Bh P)= [⟨[],Ay,0⟩]:=Zaq hz;have g4:∀b,S0 b->b<w5.heap.size:=λb hb=>by have:=hS b hb;have:=a7.size;omega
  have oD:OF ve 61 w5 w.heap.size se ⟨some c5,1,1⟩ (ķ.By.map (Bh P)):=by rw[eD];exact OF.low (lo:=c7.heap.size) (o4.U x5) (by have:=x0.size;omega)
  have h0:ò BM 284 w5 w.heap.size a4 S0 ⟨u,pks,l1,l2,D,M,ol,⟨some c5,1,1⟩,Sl.nil⟩ G P tm ķ:=by have e8:∀b,S0 b->b<w.heap.size:=hS;refine⟨f1,oM,hg.U a7,i5.U a7,f6.U a7,g4,λh=>by have:=e8 _ h;omega,⟨se,oD,(λh=>h),(λ_ h=>by cases h),(λ_ h=>h.F)⟩,OF.nil _ _,λad d4=>?_,(λad d4=>by cases d4),(λ_ _ _ h=>by cases h)⟩;cases d4;exact⟨oM,λh=>by have:=e8 _ h;omega⟩
  have f7:=h0.A (by show 1<=1000;decide) ⟨by show 0*32<=Ab;omega,by show 0<=maxLen;omega⟩;generalize c6:(⟨u,pks,l1,l2,D,M,ol,⟨some c5,1,1⟩,Sl.nil⟩:PC)=c0 at*;have k6:c0.l3=D:=by rw[<-c6]
  have k7:c0.l4=M:=by rw[<-c6]
  have c8:∀ad,c0.dr.a=some ad->a3.block<ad.block/\ad.block≠a4.block:=λad h=>by rw[<-c6]at h;cases h;exact⟨oM,oM⟩
  have g0:∀ad,c0.st.a=some ad->False:=λad h=>by rw[<-c6]at h;cases h
  refine Mj.V (Zhq (ht.U a7) f7 λb w7 x7 f2=>⟨b,rfl,λhq=>?_,λhq=>?_⟩)
  .have e2:=a7.Z x7;exact tk.intro (b5.U (e3.Z x7)) sI λw8 b8 _ g8=>⟨Sl.nil,g8.sh.pre (r:=[]) rfl,hR 33 [] Sl.nil w8 (b8.U e2 oM) (.yw b9 hO λhp=>by rw[f2.2 hp]at hq;cases hq) (No.nil trivial)⟩
  have a8:ur G P:=f2.1 (by simpa using hq);have h7:=a8.Xa8;have s7:=x7.size;have h1:=h0.U x7;have e2:=a7.Z x7;have f0:=b5.U (e3.Z x7);generalize hI:ER G P tm D M=I;have e5:I.g=G:=by rw[<-hI];rfl
  have k3:I.ţ=D:=by rw[<-hI];rfl
  obtain⟨e4,d2,e6,e7⟩:=b9;have sj:∀{c w'},Mv w.heap.size a4 c0 w7 c w'->AI w w'/\AT w' a3 [Sl.nil.v]/\c.l3=D/\c.l4=M:=λ{c w'} m=>by refine⟨e2.W m.vh,m.box f0 oM (λad h=>by have:=c8 ad h;omega) (λad h=>(g0 ad h).F),?_,?_⟩<;>rw[m.same]<;>assumption
  have fin:∀{c w' c4 code T t},Mv w.heap.size a4 c0 w7 c w'->AI w' c4->xj G P tm D M code T->No ve c4 (λb=>b<c4.heap.size/\b≠a3.block) t T->ry c4 a3 [t.v] λd0=>∃r:Sl,sh d0 a3 [r.v]/\R r code d0:=λ{c w' c4 code T t} m x hP ht=>by obtain⟨k1,k2,_⟩:=sj m;exact tk.intro (k2.U x) sI λw3 b3 j0 d5=>⟨t,d5.sh.pre (r:=[]) rfl,hR code T t w3 (b3.U (k1.Z x) oM) hP ((ht.tz b3 λh=>h.2 rfl).O λb hb=>by have:=hb.1;have:=b3.1;omega)⟩
  refine Of.zj (λn g2 w1=>∃(a0:Nat) (c:PC) (s:wv),g2=(a0:Int)/\n=400 - a0/\ò BM 284 w1 w.heap.size a4 S0 c G P tm s/\Mv w.heap.size a4 c0 w7 c w1/\xi G s a0/\(∀u∈s.done,u.uj<a0)/\DV I s/\s.done.length<=a0*128/\a0<=s.By.length/\∀code t,ya I a0 s code t->ya I 0 ķ code t) 400
   ⟨0,c0,ķ,rfl,rfl,h1,Mv.of xR h1.lo_le,xi.start h7.pos,(λu hu=>by cases hu),Xf oM,fx _,ib _,λ_ _ h=>h⟩ λn g2 w8 m1 ⟨a0,c,s,hv,hn,h8,m8,d3,f9,f8,j7,k5,d8⟩ i2=>?_
  subst hv;have l6:s.By.length<=257:=by have:=f8.2;omega
  have k8:c.dr.len=s.By.length:=F3 (h8.A oM ⟨by show _*32<=Ab;unfold Ab;omega,by rw[Ao];omega⟩);obtain⟨j4,j1,j2,j3⟩:=sj m8;refine⟨c.dr,h8.box.at1 (k:=7) xR rfl,λl0=>?_,λk9=>?_⟩
  .have a9:a0<s.By.length:=oM;have f5:ud s.By a0<G.length:=(by rw[Hs (dt a9)];exact d3.py _ (fe a9));have l5:(Co I.g (ud s.By a0)).length<=128:=(by rw[Wj,e5];have:=a8.Ŗ (ud s.By a0);have:=a8.len;omega);refine Mg.V (Zhn hI h8 a8 d3 a9 rfl f5 d2 oM j2 j3 f8 f9 (λc' w' s' c3 h' m'=>⟨0,rfl,λh=>fm rfl h,λ_=>?_⟩) λc' w' code t hc he m'=>⟨code,rfl,λ_=>fin (m8.Z m') xR (.stop ⟨e4,d2,e6,e7⟩ hO a8 (by rw[hI];exact d8 code t (.stop a9 he hc)) hc) (No.nil trivial),λh=>fm hc h⟩);obtain⟨e9,_⟩:=c3.py a9;have g9:=c3.cnt;have h6:=c3.done;have b7:=c3.inv;rw[e5]at b7;simp only[ie,ky]at g9;refine i2 (400 - (a0+1)) _ w' oM ⟨a0+1,c',s',?_,rfl,h',m8.Z m',b7.next,λu hu=>by have:=(b7.uj u hu).1;omega,c3.small,oM,e9,λcode t ht=>d8 code t (.next a9 h6 ht)⟩;rw[Ai oM oM];omega
  .have d7:ya I 0 ķ 0 s:=d8 0 s (.fin oM);obtain⟨DD,o,j9,k0,g3⟩:=h8.dr;have e0:∀d∈s.By,d.BY.length<=257:=λd hm=>(by obtain⟨i,hi⟩:=ke hm;have:=d3.Xbu i d hi;have:=(fh.1 hi).1;omega);refine⟨c.dr,h8.box.at1 (k:=7) xR rfl,?_⟩;refine Zkk o h8.lo_le (by rw[ec];omega) (λd hd=>?_) Zbx (λw' S' x y hx hy=>Zjs hx hy) λl' w2 hp hs vh yo i6=>⟨rfl,c.dr,?_,?_⟩
   .obtain⟨b,hb,rfl⟩:=ij.1 hd;have:=e0 b hb;show b.BY.length<=_;omega
   .have:AT w2 a4 c.c:=h8.box.sj (S:=λb=>∀ad,c.dr.a=some ad->b≠ad.block) (λad ha e=>(h8.drP ad ha).1 e.H) λb hb hl=>yo b hl hb;exact this.at1 (k:=7) xR rfl
   .have f3:∀ad,c.dr.a=some ad->a3.block≠ad.block:=λad ha=>by
     obtain q|q:=m8.dr ad ha
     .have:=(c8 ad q).1;omega
     .omega
    have g1:AT w2 a3 [Sl.nil.v]:=j1.sj (S:=λb=>∀ad,c.dr.a=some ad->b≠ad.block) f3 λb hb hl=>yo b hl hb;have i7:zw s.By (l'.map AH):=by
     refine⟨?_,?_⟩
     .have:=hp.map AH;rwa [OE]at this
     .rwa [jb]
    have h9:(l'.map AH).map (Bh P)=l':=by
     rw[jh]
     conv=>rhs;rw[<-List.map_id l']
     refine od λx hx=>?_;obtain⟨b,_,rfl⟩:=ij.1 (hp.mem_iff.1 hx);show Bh P (AH (Bh P b))=_;rw[Ur];rfl
    have i3:xj G P tm D M 0 l':=by have:=xj.ok (tm:=tm) (D:=D) (M:=M) ⟨e4,d2,e6,e7⟩ hO a8 (by rwa [hI]) i7;rwa [h9]at this
    have l7:=Below.size vh;refine tk.intro g1 sI λw3 b3 j0 d5=>⟨c.dr,d5.sh.pre (r:=[]) rfl,hR 0 l' c.dr w3 (b3.U (j4.W vh) oM) i3 ?_⟩;refine(i6.tz b3 λhb=>?_).O λb hb=>?_
    .rcases hb with hb|⟨ad,ha,e⟩
     .obtain q|q:=g3 _ hb
      .have:=hS _ q;omega
      .omega
     .exact f3 ad ha e
    .have:=b3.1;rcases hb with hb|⟨ad,ha,rfl⟩
     .have:=o.lt b hb;omega
     .have:=(o.block ha).2.1;omega
 refine⟨λb6=>?_,λb6=>c9 0 w3 xR λh=>by rw[b6]at h;cases h⟩;refine JF.V (XM (ht.U a6) (g5 b6) (λd hd=>?_) λw4 x4=>⟨_,rfl,c9 _ w4 x4 λ_=>rfl⟩);rcases a5 with⟨_,h2⟩|⟨h1,_⟩
 .exact hb T0 h2 d hd
 .rw[h1]at b6;cases b6
def PN{a b c:Bool}(h:a=true->b=c):(a&&b)=(a&&c):=by
 cases a
 .rfl
 .rw[h rfl]
def Ù{n m:Int}(hR:R (decide (1<=n)&&decide (n<=m)) w):Hd n m w R:=IN hR
def Xbr(hR:∀b w',AI w w'->(b=true↔E4 D N Di P)->R b w'):Kz D N Di P w R:=by refine An.intro λa w1 x1 ha _ _=>⟨D,ha.at0 xR rfl,Hd.V (Ù ⟨_,rfl,N,λ_=>ha.at1 (k:=1) xR rfl,?_⟩)⟩;refine IS.intro (decide (1<=N)&&decide (N<=128)) (λ_ q hq=>Hd.V (Ù ⟨_,rfl,hq _ xR⟩)) λa6 w2 x2 a0=>IN ⟨Di,λ_=>ha.at1 (k:=2) x2 rfl,?_⟩;refine IS.intro (decide (1<=Di)&&decide (Di<=256)) (λ_ q hq=>Hd.V (Ù ⟨_,rfl,hq _ xR⟩)) λa7 w3 x3 a4=>IN ⟨P,λ_=>ha.at1 (k:=3) (r:=[]) (x2.Z x3) rfl,?_⟩;refine IS.intro (decide (1<=P)&&decide (P<=1024)) (λ_ q hq=>Hd.V (Ù ⟨_,rfl,hq _ xR⟩)) λa8 w4 x4 a5=>hR _ w4 (x1.Z (x2.Z (x3.Z x4))) ?_;rw[PN a5,PN a4,PN a0];unfold E4 Fo;simp only[dz,fk,and_assoc]
structure PkC where
 nm:Pr
 v:tj
 d:Sl
 e:Sl
 o:Sl
def CF(x:PkC):LV:=[.string x.nm,vi x.v.ma,vi x.v.mi,vi x.v.pa,x.d.v,x.e.v,x.o.v]
def Ds:PkC:=⟨⟨#[]⟩,⟨0,0,0⟩,Sl.nil,Sl.nil,Sl.nil⟩
def Zfp(n:Nat):(madeCells (Value.agg (CF Ds).toArray).cells (n*7))=(((List.replicate n Ds).map CF).flatten).toArray:=by
 have hf:∀x:PkC,(CF x).length=7:=λ_=>rfl;unfold madeCells;have hc:(Value.agg (CF Ds).toArray).cells=(CF Ds).toArray:=rfl;rw[hc];apply Array.U
 .simp[CN CF hf,hf]
 .intro i h1 h2;have hi:i<n*7:=by simpa using h1
  have hq:i/7<n:=oM;have hm:i%7<7:=Nat.mod_lt _ dC;simp only[Array.getElem_map,Array.getElem_range,List.getElem_toArray];have e:∀(n i:Nat),i<n*7->(((List.replicate n Ds).map CF).flatten)[i]?=(CF Ds)[i%7]? :=λn=>by
   induction n with
   |zero=>intro i h;omega
   |succ n ih=>
    intro i h;rw[qc,io,jm];by_cases hl:i<7
    .rw[gl (by rwa [hf]),Nat.mod_eq_of_lt hl]
    .rw[ii (by rw[hf];omega),hf,ih (i - 7) oM];congr 1;omega
  have e1:=e n i hi;have h7:(CF Ds).toArray.size=7:=rfl;rw[h7];rw[dt (by simpa using h2),dt (by rwa [hf]),eu]at e1;rw[e1,getElem!_pos _ _ (by rwa [h7])];rfl
def Zd5:(prog.info? 59).map (λi=>(i.zero,i.size,i.bytes))=some (some (.agg (CF Ds).toArray),7,112):=kR
def Zfr{R:Sl->Wp}(hn:n<=1000000000)(hR:∀g w',AI w w'->g=w.heap.size->tv CF w' g (List.replicate n Ds) []->R ⟨some ⟨g,0,none⟩,n,n⟩ w'):
  xe prog (Instr.makeSlice 22 (vi (n:Int)) (vi (n:Int))) w λv w'=>∃t:Sl,v=t.v/\R t w':=by
 obtain⟨i,h2,hi⟩:=kx.1 Zd5;simp only[Prod.mk.injEq]at hi;obtain⟨h3,h5,h6⟩:=hi;refine⟨_,_,run_make w 22 59 i (.agg (CF Ds).toArray) underlying22 h2 h3 .i64 .i64 n n oM (ny _) (by rw[h6];omega) oM,⟨some ⟨w.heap.size,0,none⟩,n,n⟩,by simp[Sl.v],?_⟩;refine An.intro (cs:=((List.replicate n Ds).map CF).flatten++[]) (t:=59) (k:=λa w'=>R ⟨some a,n,n⟩ w') (λa w' hx hb ha hs=>?_) _ _ rfl ?_
 .have a4:=hb;obtain⟨t,h0,a0,_⟩:=a4;obtain⟨b,o,s⟩:=a;simp only at h0 a0 ha;subst h0 a0;exact hR b w' hx ha hb
 .rw[gv,<-Zfp,dx,h5]
def Zip{α:Type}{i:Nat}{c:Nat->α}{y:α}:((List.range n).map c).set i y=(List.range n).map λj=>if j=i then y else c j:=by
 apply rb sI;intro j h1 h2;rw[List.getElem_set,ng,ng,List.getElem_range];by_cases h:i=j
 .rw[fl h,fl h.H]
 .rw[fa h,fa λe=>h e.H]
def U6{SC S0:Nat->Prop}{cp:LP}{r:Nat}{u:Sl}{R:Sl->Wp}(b7:zk w SC cp r L)(hg:No uh w S0 u G)(hG:G.length<=1000000000)
  (hR:∀t w',AI w w'->No wu w' (λb=>w.heap.size<=b/\b<w'.heap.size) t (D7 L G)->R t w'):I2 u (some cp) w R:=by
 unfold I2;have c6:=hg.len;refine An.intro λa w1 x1 ha _ _=>⟨u,ha.at0 (r:=[]) xR rfl,?_⟩;rw[c6];refine Zfr hG λg w2 x2 d4 a7=>⟨u,ha.at0 (r:=[]) x2 rfl,?_⟩;have d2:=x1.Z x2;have s1:=x1.size;have s2:=x2.size;have lg:=a7.lt;generalize b4:D7 L G=P at*;have c4:P.length=G.length:=by rw[<-b4,Ws]
 have b5:∀i (hi:i<G.length),P[i]?=some (if i=0 then Ay else getD L G[i].Y G[i].v):=λi hi=>by rw[<-b4];exact Wr hi
 let Q:PU->Nat->Prop:=λw' b=>w.heap.size<=b/\b<w'.heap.size/\b≠g;refine Of.up hg.max (λi w'=>∃c:Nat->PkC,AI w w'/\w2.heap.size<=w'.heap.size/\tv CF w' g ((List.range G.length).map c) []/\∀j,j<G.length->wu.rep w' (Q w') (if j<i then P.getD j Ay else Ay) (CF (c j)))
  ⟨λ_=>Ds,d2,fx _,?_,λj _=>?_⟩ λi w3 d7 hi ⟨c,a4,d8,b0,a9⟩ hn=>⟨λc9=>join.named λJ hJ=>?_,λd5=>?_⟩
 .have:(List.range G.length).map (λ_=>Ds)=List.replicate G.length Ds:=by apply rb sI;intro j h1 h2;simp
  rwa [this]
 .rw[fa (Nat.not_lt_zero _)];exact Znp
 .have a0:i<G.length:=oM;obtain⟨ad,cs,es,c5,d6,_,_,c8⟩:=BR (hg.U a4) a0;refine⟨ad,⟨c5,oM,c9⟩,_,_,_,_,cs,es,by rw[dx];exact c8 _ xR,An.set rfl λa6 w4 x4 h6 d3=>⟨λh0=>?_,λh0=>?_⟩⟩
  all_goals have s4:=x4.size
  .have a8: ¬i=0:=oM;refine⟨_,h6.at0 xR rfl,_,_,_,h6.at1 (k:=1) xR rfl,?_⟩;refine Fz.V (Kc (n:=G[i].Y) (v:=G[i].v) (b7.U (a4.Z x4)) λd e o w5 x5 hN hd he ho=>⟨_,_,_,_,d,e,o,_,rfl,⟨g,0,none⟩,⟨rfl,oM,by show(i:Int)<(G.length:Int);omega⟩,?_⟩);have s5:=x5.size;have b2:=x4.Z x5;have d0:=b0.U b2;rw[dx];refine d0.st (k:=7) (x:=⟨(getD L G[i].Y G[i].v).Y,(getD L G[i].Y G[i].v).v,d,e,o⟩) (λ_=>rfl) (by simpa using a0) λw6 b6 b9=>?_;rw[Zip]at b9;rw[hJ];have z6:=b6.1;refine hn a0 w6 ⟨_,b6.U (a4.Z b2) oM,oM,b9,λj hj=>?_⟩;have c3:∀{p:su} {cs:LV},wu.rep w5 (Q w5) p cs->wu.rep w6 (Q w6) p cs:=λh=>wu.O (wu.sj h (b6.sj λh=>h.2.2 rfl)) λb hb=>⟨hb.1,by have:=hb.2.1;omega,hb.2.2⟩;by_cases b8:j=i
   .subst b8;rw[fl rfl,fl (nk _)];have:P.getD j Ay=getD L G[j].Y G[j].v:=by rw[lw,b5 j hj,fa a8];rfl
    rw[this];have up:∀{tt:Sl} {l:Θ},zu Ô w5 (λb=>w4.heap.size<=b/\b<w5.heap.size) tt l->No ru w5 (Q w5) tt l:=λh=>h.dep.O λb hb=>⟨oM,hb.2,oM⟩;exact c3 ⟨hN,d,e,o,rfl,up hd,up he,up ho⟩
   .rw[fa b8];have h1:wu.rep w5 (Q w5) _ (CF (c j)):=wu.O (wu.sj (a9 j hj) (b2.sj _)) λb hb=>⟨hb.1,by have:=hb.2.1;omega,hb.2.2⟩;have:=c3 h1;by_cases a5:j<i
    .rw[fl a5]at this;rwa [fl oM]
    .rw[fa a5]at this;rwa [fa oM]
  .have a8:i=0:=oM;rw[hJ];refine hn a0 w4 ⟨c,a4.Z x4,oM,b0.U x4,λj hj=>?_⟩;have h1:wu.rep w4 (Q w4) _ (CF (c j)):=wu.O (wu.sj (a9 j hj) (x4.sj _)) λb hb=>⟨hb.1,by have:=hb.2.1;omega,hb.2.2⟩;by_cases c7:j=0
   .subst c7 a8;rw[fa (Nat.lt_irrefl 0)]at h1;rw[fl (nk _)];have:P.getD 0 Ay=Ay:=by rw[lw,b5 0 hj,fl rfl];rfl
    rwa [this]
   .rw[fa oM]at h1;rwa [fa oM]
 .have a0:i=G.length:=oM;subst a0;have hz:((List.range G.length).map λj=>(c j,P.getD j Ay)).map Prod.fst=(List.range G.length).map c:=by rw[jh];rfl
  have d1:((List.range G.length).map λj=>(c j,P.getD j Ay)).map Prod.snd=P:=by rw[jh];apply rb (by simp[c4]);intro j h1 h2;simp[dt h2]
  have:=tv.A (E:=wu) (S:=Q w3) (cap:=G.length) (z:=(List.range G.length).map λj=>(c j,P.getD j Ay)) (by rwa [hz]) (λ_=>rfl) (λp hp=>by obtain⟨j,hj,rfl⟩:=ij.1 hp;have hj:=nq.1 hj;have:=a9 j hj;rw[fl hj]at this;exact this) sI (by rw[Ao];omega) (by simp;show _*112<=Ab;unfold Ab;omega);rw[d1]at this;simp only[ec,List.length_range]at this;refine hR _ w3 a4 (this.O λb hb=>?_);obtain hb|rfl:=hb
  .exact⟨hb.1,hb.2.1⟩
  .exact⟨oM,oM⟩
open Go.MapKept
def Ú:ļ prog 82 IQ .nilFunc where
 und:=⟨3,80,underlying82,(λw=>kR),λk ⟨x,h⟩ e w=>by subst h;exact run_checkKey (d:=.int .i64) (k:=.int .i64 x) underlying3 rfl e 9999,λk ⟨x,h⟩ l hl w=>by
  subst h;rcases findNow_spec (d:=.int .i64) (k:=.int .i64 x) rfl l 0 (λy hy=>by obtain⟨t,ht⟩:=hl y hy;rw[ht];rfl)with⟨h1,h2⟩|⟨j,e,h1,h2,h3⟩
  .exact .inl ⟨h2,run_findKey underlying3 h1⟩
  .exact .inr ⟨j,e,h2,h3,run_findKey underlying3 (by rw[kj]at h1;exact h1)⟩⟩
 stay:=λk ⟨x,h⟩=>by subst h;exact sameBits_self (d:=.int .i64) (k:=.int .i64 x) rfl _
def fV(n:OK):HT:=.func (.func n) #[] #[]
def DZ:List (HT×HT):=[(.int .i64 2,fV 48),(.int .i64 3,fV 49),(.int .i64 4,fV 50),(.int .i64 5,fV 51),(.int .i64 6,fV 52),(.int .i64 7,fV 53),(.int .i64 8,fV 54)]
def Xa5{R:Β->Wp}(hR:∀r w',AI w w'->yc IQ w' r DZ->R (some r) w'):Kv w R:=by
 refine OC (K:=IQ) λr w1 x1 a0 h1=>⟨some r,rfl,?_⟩;have ne:∀{m:List (HT×HT)} {k:Int},(∀p∈m,∃i:Int,p.1= .int .i64 i/\i≠k)->∀p∈m,p.1≠Value.int .i64 k:=λh p hp e=>by obtain⟨i,h1,h2⟩:=h p hp;rw[h1]at e;cases e;exact h2 rfl
 have k0:∀i:Int,IQ (vi i):=λi=>⟨i,rfl⟩;refine Fi Ú h1 (k0 2) (ne sI) λw2 b2 _ h2=>Fi Ú h2 (k0 3) (ne sI) λw3 b3 _ h3=>Fi Ú h3 (k0 4) (ne sI) λw4 b4 _ h4=>Fi Ú h4 (k0 5) (ne sI) λw5 b5 _ h5=>Fi Ú h5 (k0 6) (ne sI) λw6 b6 _ h6=>Fi Ú h6 (k0 7) (ne sI) λw7 b7 _ h7=>Fi Ú h7 (k0 8) (ne sI) λw8 b8 _ h8=>?_;have b:uv r w1 w8:=b2.Z (b3.Z (b4.Z (b5.Z (b6.Z (b7.Z b8)))));exact hR r w8 (b.U x1 oM) h8
section
variable {s:á} {x:wx} {d e o v gS tS:Sl} {S:Nat->Prop} {w:PU}
def Zax{r:Nat}{w0:PU}{K:Ë}{J:HT->Bool->Prop}(hM:yc IQ w0 r DZ)(a9:AI w0 w)(hg:Gl w)(hn:Ad x.Y)(hm:zl w S d e o v s.m)(hS:Old S w)(hl:JO s.m)(a6:N7 s.m)(hG:No uh w S gS s.g)(a5:s.g≠[])
  (a7:∀f,(x.op<2\/8<x.op)->C3 prog (Instr.lookup 82 (.map (some r)) (vi x.op) true) w0 (.tuple #[f,.bool false])->J f false)
  (a0:∀f,C3 prog (Instr.lookup 82 (.map (some r)) (vi x.op) true) w0 (.tuple #[f,.bool true])->(Fm s x S w (λd e o v p k pr c w'=>K (.tuple #[.agg #[d.v,e.v,o.v,v.v,p.v,.bool k,.bool pr],vi c]) w')->un prog f [.agg #[d.v,e.v,o.v,v.v,gS.v,tS.v,.bool s.IT],.agg #[vi x.op,.string x.Y,.string x.range,vi x.tc,.string x.td,vi x.n]] w K)->J f true):
  ∃f ok,J f ok:=by
 have hk:IQ (vi x.op):=⟨_,rfl⟩;have a4:∀{g:OK},(.int .i64 x.op,fV g)∈DZ->C3 prog (Instr.lookup 82 (.map (some r)) (vi x.op) true) w0 (.tuple #[fV g,.bool true]):=λh=>Rf Ú hM hk h;by_cases a8:x.op<2\/8<x.op
 .refine⟨_,_,a7 .nilFunc a8 (č Ú hM hk λp hp he=>?_)⟩;have:∃i:Int,p.1= .int .i64 i/\2<=i/\i<=8:=by unfold DZ at hp;simp only[gn,List.not_mem_nil,or_false]at hp;rcases hp with rfl|rfl|rfl|rfl|rfl|rfl|rfl<;>exact⟨_,rfl,by decide,by decide⟩
  obtain⟨i,h1,h2,h3⟩:=this;rw[h1]at he;injection he with _ he;omega
 .have h7:x.op=2\/x.op=3\/x.op=4\/x.op=5\/x.op=6\/x.op=7\/x.op=8:=oM;obtain h|h|h|h|h|h|h:=h7
  .exact⟨_,_,a0 (fV 48) (a4 (by rw[h];unfold DZ;simp)) λhK=>⟨_,_,rfl,enters_of func48 kR rfl,Kx.V (Zba hm hS h hK)⟩⟩
  .exact⟨_,_,a0 (fV 49) (a4 (by rw[h];unfold DZ;simp)) λhK=>⟨_,_,rfl,enters_of func49 kR rfl,Ku.V (Zav hg hn hm hS hl a6 hG a5 h hK)⟩⟩
  .exact⟨_,_,a0 (fV 50) (a4 (by rw[h];unfold DZ;simp)) λhK=>⟨_,_,rfl,enters_of func50 kR rfl,K2.V (Zcc hn hm hS hl hG a5 h hK)⟩⟩
  .exact⟨_,_,a0 (fV 51) (a4 (by rw[h];unfold DZ;simp)) λhK=>⟨_,_,rfl,enters_of func51 kR rfl,K3.V (Zcd hn hm hS hG a5 h hK)⟩⟩
  .exact⟨_,_,a0 (fV 52) (a4 (by rw[h];unfold DZ;simp)) λhK=>⟨_,_,rfl,enters_of func52 kR rfl,Kw.V (Zay hm hS hG a5 h hK)⟩⟩
  .exact⟨_,_,a0 (fV 53) (a4 (by rw[h];unfold DZ;simp)) λhK=>⟨_,_,rfl,enters_of func53 kR rfl,K1.V (Zb6 hm hS hG a5 h hK)⟩⟩
  .exact⟨_,_,a0 (fV 54) (a4 (by rw[h];unfold DZ;simp)) λhK=>⟨_,_,rfl,enters_of func54 kR rfl,K0.V (Zb5 hg hn hm hS hl a6 hG a5 h hK)⟩⟩
end
abbrev DR:Type:=Sl->Sl->Sl->Sl->Sl->Sl->Bool->Int->Int->Int->È
def Yw(w:PU)(a5 a7:LP)(R:DR):Prop:=∃(d e o v g t:Sl) (pr:Bool),sh w a5 [d.v,e.v,o.v,v.v,g.v,t.v,.bool pr]/\∃(c n q r:Int),sh w a7 [vi c,vi n,vi q,vi r]/\R d e o v g t pr c n q r w
def Yv(w:PU)(a a5 a7:LP)(c:Int)(R:DR):Prop:=sx prog 16 [vi c,.pointer (some a)] w λx w'=>∃(d e o v g t:Sl) (pr:Bool) (c1 n q r:Int),x= .tuple #[.agg #[d.v,e.v,o.v,v.v,g.v,t.v,.bool pr],.agg #[vi c1,vi n,vi q,vi r]]/\
 ry w' a5 [d.v,e.v,o.v,v.v,g.v,t.v,.bool pr] λw1=>ry w1 a7 [vi c1,vi n,vi q,vi r] λw2=>Yw w2 a5 a7 R
section
variable {s:á} {x:wx} {d e o v gS tS:Sl} {S:Nat->Prop} {w:PU}
def U9{c:Int}{R:DR}(hS:Old S w)(hs:xx w S d e o v gS tS s)(ha:AT w a [d.v,e.v,o.v,v.v,gS.v,tS.v,.bool s.IT])
  (hR:∀d' e' o' v' g' t' w',AI w w'->xx w' (λb=>w.heap.size<=b/\b<w'.heap.size) d' e' o' v' g' t' s->R d' e' o' v' g' t' s.IT c 0 0 0 w'):I0 c a w R:=by
 refine An.intro λa1 w1 x1 h1 a4 _=>An.intro λa2 w2 x2 h2 a5 _=>⟨d,e,o,v,gS,tS,s.IT,ha.at0 (r:=[]) (x1.Z x2) rfl,?_⟩;have a0:=x1.Z x2;refine LW.V (Zgu (s:=s) (hS.U a0.size) (hs.U a0) λd' e' o' v' g' t' w3 x3 h3=>⟨d',e',o',v',g',t',s.IT,rfl,tk.intro (h1.U (x2.Z x3)) sI λw4 b4 _ h4=>tk.intro (b4.box (h2.U x3) (by have:=h1.lt;omega)) sI λw5 b5 _ h5=>?_⟩);have s1:=x1.size;have s2:=x2.size;have s3:=x3.size;have z4:=b4.1;have z5:=b5.1;have l1:=h1.lt;have l2:=h2.lt;refine⟨d',e',o',v',g',t',s.IT,(b5.box h4 oM).at0 (r:=[]) xR rfl,_,_,_,_,h5.at0 (r:=[]) xR rfl,hR d' e' o' v' g' t' w5 (b5.U (b4.U (a0.Z x3) oM) oM) ?_⟩;exact((h3.tz b4 λh=>by omega).tz b5 λh=>by omega).O λb hb=>by omega
def QA{SC:Nat->Prop}{cp:LP}{r:Nat}{R:DR}
  (hg:Gl w) (hn:Ad x.Y) (hS:Old S w) (hs:xx w S d e o v gS tS s) (e1:zk w SC cp r L) (hb:∀d∈s.T,d.BY.length<=4000000000000)
  (hR:∀(A:ź) (t:á) d' e' o' v' g' u' w',AI w w'->(∃rr,yt x.range rr/\į L s x rr D N Di P A t)->xx w' (λb=>b<w'.heap.size) d' e' o' v' g' u' t->R d' e' o' v' g' u' t.IT A.code A.dec A.uk A.By w'):
  ED d e o v gS tS s.IT (some cp) x.op x.Y x.range x.tc x.td x.n D N Di P w R:=by
 classical
 refine An.intro λa w1 x1 ha u1 _=>An.intro λa1 w2 x2 h1 t7 _=>An.intro λa3 w4 x4 h3 t8 _=>An.intro λa5 w6 x6 h5 t9 _=>An.intro λa7 w8 x8 h7 u0 _=>?_;have k6:=x4.Z (x6.Z x8);have f5:=x2.Z k6;have b0:=x1.Z f5;have s1:=x1.size;have s2:=x2.size;have s4:=x4.size;have s6:=x6.size;have s8:=x8.size;have ab:=ha.lt;have t0:=h1.lt;have t3:=h3.lt;have t4:=h5.lt;have t5:=h7.lt;obtain⟨r0,j6⟩:=yt.ex x.range;have nS:∀{b:Nat},w.heap.size<=b-> ¬S b:=λh hb=>by have:=hS _ hb;omega
 have refuse:∀{w':PU} {c:Int},AI w8 w'->(∃rr,yt x.range rr/\į L s x rr D N Di P ⟨c,0,0,0⟩ s)->Yv w' a a5 a7 c R:=λ{w' c} hx hd=>by have q:=hx.size;refine I0.V (U9 (hS.U (b0.Z hx).size) (hs.U (b0.Z hx)) (ha.U (f5.Z hx)) λd' e' o' v' g' t' w9 x9 h9=>⟨d',e',o',v',g',t',s.IT,c,0,0,0,rfl,?_⟩);have q9:=x9.size;refine tk.intro (h5.U (x8.Z (hx.Z x9))) sI λn4 g1 _ o7=>tk.intro (g1.box (h7.U (hx.Z x9)) oM) sI λn5 g2 _ o8=>?_;have v8:=g1.1;have v9:=g2.1;refine⟨d',e',o',v',g',t',s.IT,(g2.box o7 oM).at0 (r:=[]) xR rfl,c,0,0,0,o8.at0 (r:=[]) xR rfl,?_⟩;exact hR ⟨c,0,0,0⟩ s d' e' o' v' g' t' n5 (g2.U (g1.U ((b0.Z hx).Z x9) oM) oM) hd (((h9.tz g1 λh=>by omega).tz g2 λh=>by omega).O λb hb=>by omega)
 refine IN ⟨D,N,Di,P,λ_=>(h3.U (x6.Z x8)).at0 (r:=[]) xR rfl,IS.intro (decide (E4 D N Di P)) (λ_ k hk=>Kz.V (Xbr λb w' hx p5=>⟨b,rfl,?_⟩)) λv7 w9 x9 ht=>⟨λhc=>?_,λhc=>?_⟩⟩
 .have:b=decide (E4 D N Di P):=by rw[gp,p5,iv]
  rw[this];exact hk w' hx
 .have ht:=ht rfl;subst ht;exact refuse x9 ⟨r0,j6,.arg λhh=>by simp[hh.1]at hc⟩
 have ht:=ht rfl;subst ht;have c3:E4 D N Di P:=by simpa using hc
 clear hc;have h2:=b0.Z x9;have d6:=hs.U h2;refine⟨d,e,o,v,gS,tS,s.IT,(ha.U (f5.Z x9)).at0 (r:=[]) xR rfl,Lr.V (Zc2 (m:=s.m) (T:=s.T) (g:=s.g) (pr:=s.IT) (hg.U h2).Ñ (hS.U h2.size) d6.m.d d6.m.e d6.m.o d6.m.v (hS.U h2.size) d6.t d6.g hb (λt l n4 k5 b8 _ _ _=>⟨_,_,rfl,λh=>fm rfl h,λ_=>sf.drew λn5 r5=>?_⟩) λn4 k5 p9=>⟨_,_,rfl,λ_=>refuse (x9.Z k5) ⟨r0,j6,.arg λh=>p9 h.2⟩,λh=>fm dC h⟩)⟩;have b8:zi s:=b8;obtain⟨j5,m3⟩:=Zfu b8.Xbs;have p8:s.g≠[]:=λhh=>by have:=b8.lock.len.1;rw[hh]at this;simp at this
 obtain⟨q4,q2⟩:=vm.ex s.g;have f7:=x9.Z (k5.Z r5);have s7:=b0.Z f7;refine⟨x.op,(h1.U (k6.Z f7)).at0 xR rfl,tf.intro (Kv.V (Xa5 λrm n7 o5 hM=>⟨o5,some rm,rfl,?_⟩))⟩;have b7:=f7.Z o5;have f2:=b0.Z b7;have i4:=hs.U f2;have s0:=b7.size;refine Zax (s:=s) (x:=x) (w:=n7) (S:=S) (J:=λf ok=>_) hM xR (hg.U f2) hn i4.m (hS.U f2.size) j5 m3 i4.g p8 (λf q1 j7=>⟨j7,λ_=>refuse b7 ⟨r0,j6,.ask (j:=B7) c3 b8 q2 (.op q1) dC⟩,nO⟩) λf j7 j4=>⟨j7,λh=>(by cases h),λ_=>⟨d,e,o,v,gS,tS,s.IT,(ha.U (f5.Z b7)).at0 (r:=[]) xR rfl,_,_,_,_,_,_,(h1.U (k6.Z b7)).at0 (r:=[]) xR rfl,j4 λc j d' e' o' v' pt k pr r1 o6 b6 m2=>⟨d',e',o',v',pt,k,pr,c,rfl,An.set rfl λt1 j8 h4 g3 r7=>⟨λhc=>?_,λhc=>?_⟩⟩⟩⟩
 all_goals
  obtain⟨rv,rr,g7,g8,b6⟩:=b6;have c7:=(b7.Z o6).Z h4
 .exact refuse c7 ⟨rr,g8,.ask c3 b8 g7 b6 hc⟩
 have g6:c=0:=iy hc;subst g6;obtain⟨k1,k2,k3,k4⟩:=m2 rfl;subst k3 k4;have u4:=o6.size;have u6:=h4.size;have s3:=c7.size;have i6:=b0.Z c7;let S2:=λb=>S b\/(n7.heap.size<=b/\b<r1.heap.size);have hO:Old S2 j8:=λb hb=>hb.F (λh=>by have:=hS b h;omega) λh=>by omega
 have e7:=k1.U h4;refine⟨d',e',o',v',g3.at0 xR rfl,j.IT,g3.at1 (k:=6) (r:=[]) xR rfl,pt,g3.at1 (k:=4) xR rfl,D,N,Di,P,(h3.U (x6.Z (x8.Z c7))).at0 (r:=[]) xR rfl,Jn.V (Zjr (hg.U i6).Ñ hO (e1.U i6) e7.d e7.e e7.o e7.v (k2.U h4) λa0 n8 k7 m0=>⟨a0,_,_,rfl,An.set rfl λg0 f0 h6 g4 r8=>⟨λhc=>?_,λhc=>?_⟩⟩)⟩
 all_goals
  have c8:=(c7.Z k7).Z h6
 .exact refuse c8 ⟨rr,g8,.find c3 b8 g7 b6 hc⟩
 have g6:(AQ L j.m (!j.IT) j.rv D N).code=0:=iy hc;have v0:=h6.size;have u9:=k7.size;have s5:=c8.size;have o4:=b0.Z c8;have d3:AI j8 f0:=k7.Z h6;have e0:=g3.U d3;generalize a8:AQ L j.m (!j.IT) j.rv D N=rs at*;have m1:rs.ns.length<=1000000000:=by rw[<-a8];exact Zi3 _ _ _ _ _ _
 have e4:No uh f0 (λb=>j8.heap.size<=b/\b<n8.heap.size) a0 rs.ns:=m0.U h6;generalize e5:(if j.sj then some s.T else none)=d4;have p6:∀T,d4=some T->∀d∈T,d.BY.length<=4000000000000:=λT h=>by
  rw[<-e5]at h;split at h
  .cases h;exact hb
  .cases h
 refine join.named λJ hJ=>?_;have key:∀(tm:Qd),ze f0 (λb=>b<n8.heap.size) d4 tm->J tm f0:=by
  subst hJ;intro tm q0;refine join.named λJ2 l6=>sf.drew λf1 c5=>?_;have f8:=c8.Z c5;have f3:=b0.Z f8;have v3:=c5.size;have d9:sh f1 g0 [a0.v]:=(g4.U c5).at0 (r:=[]) xR rfl;have e6:∀(c:Int)(T:Ε)(t:Sl)(d5:LP)(w':PU),AI f1 w'->f1.heap.size<=d5.block->xj rs.ns (D7 L rs.ns) d4 Di P c T->No ve w' (λb=>b<w'.heap.size) t T->AT w' d5 [t.v]->J2 c d5 w':=by
   subst l6;intro c T t d5 r2 k8 u2 c4 j3 l9;have i7:=f8.Z k8;refine⟨λhc=>refuse i7 ⟨rr,g8,.place c3 b8 g7 b6 (by rwa [a8]) (by rwa [a8,e5]) hc⟩,λhc=>?_⟩;have p7:c=0:=iy hc;subst p7;refine join.named λJ3 l7=>sf.drew λh0 d8=>?_;have i9:=i7.Z d8;have s9:=b0.Z i9;have b2:=c5.Z (k8.Z d8);have v4:=k8.size;have v5:=d8.size;have i3:Old S2 h0:=hO.U (d3.Z b2).size;have m6:=e7.U (d3.Z b2);have i5:∀(sw:LP)(d2 e2 o2 v2:Sl)(w':PU),AI h0 w'->h0.heap.size<=sw.block->zl w' (λb=>h0.heap.size<=b/\b<w'.heap.size/\b≠sw.block) d2 e2 o2 v2 j.m->AT w' sw [d2.v,e2.v,o2.v,v2.v,a0.v,t.v,.bool j.IT]->J3 sw w':=by
    subst l7;intro sw d2 e2 o2 v2 n9 b4 r9 e3 l8;refine join.named λJ4 p0=>sf.drew λb5 h8=>?_;have b9:=b4.Z h8;have f9:=i9.Z b9;have f6:=b2.Z b9;have m7:=b4.size;have v6:=h8.size;have q5:=h5.U (x8.Z f9);have q7:=h7.U f9;have u5:œ b5 a5.block:=HJ q5 (by simp[Sl.v]) (.inr (by simp[Sl.v]));have u7:œ b5 a7.block:=HJ q7 sI (.inl sI);have q8:=Ni u7 (Ni u5 (j3.U (d8.Z b9)));have q3:=e4.U f6;have nl:=e4.len;have tl:=j3.len;have hA:(⟨0,rs.dec,(a0.len:Int),Aa ((t.len:Int) - 1)⟩:ź)=⟨0,rs.dec,(rs.ns.length:Int),(T.length:Int) - 1⟩:=by have hm:=j3.max;rw[Ao]at hm;rw[nl,tl,Ai oM oM]
    have fin:∀{wb wc:PU},uv a5.block b5 wb->AT wb a5 [d2.v,e2.v,o2.v,v2.v,a0.v,t.v,.bool j.IT]->uv a7.block wb wc->AT wc a7 [vi 0,vi rs.dec,vi (a0.len:Int),.int .i64 (Aa ((t.len:Int) - 1))]->J4 wc:=by
     subst p0;intro wb wc bb kb bc kc;have zb:=bb.1;have zc:=bc.1;refine⟨_,_,_,_,_,_,_,(bc.box kb oM).at0 (r:=[]) xR rfl,_,_,_,_,kc.at0 (r:=[]) xR rfl,?_⟩;have hd:į L s x rr D N Di P ⟨0,rs.dec,(a0.len:Int),Aa ((t.len:Int) - 1)⟩ ⟨j.m,rs.ns,T,j.IT⟩:=by rw[hA];have:=į.ok (L:=L) (s:=s) c3 b8 g7 b6 (by rwa [a8]) (by rwa [a8,e5]);rw[a8]at this;exact this
     refine hR _ ⟨j.m,rs.ns,T,j.IT⟩ _ _ _ _ _ _ wc (bc.U (bb.U (b0.Z f9) oM) oM) ⟨rr,g8,hd⟩ ⟨?_,?_,?_⟩
     .exact(((e3.U h8).tz bb λh=>by omega).tz bc λh=>by omega).O λb hb=>by omega
     .exact((q3.tz bb λh=>by omega).tz bc λh=>by omega).O λb hb=>by omega
     .exact((q8.tz bb λh=>h.1.2 rfl).tz bc λh=>h.2 rfl).O λb hb=>by have h1:b<r2.heap.size:=hb.1.1;omega
    have m4:=g4.U f6;have m5:=l9.U (d8.Z b9);have t6:g0.block<f0.heap.size:=g4.lt;have n1:∀{wb:PU},uv a5.block b5 wb->sh wb g0 [a0.v]:=λb=>(b.box m4 oM).at0 (r:=[]) xR rfl;have n2:∀{wb:PU},uv a5.block b5 wb->sh wb d5 [t.v]:=λb=>(b.box m5 oM).at0 (r:=[]) xR rfl;have e8:∀{K:Wp},(∀wb,uv a5.block b5 wb->AT wb a5 [d2.v,e2.v,o2.v,v2.v,a0.v,t.v,.bool j.IT]->K wb)->ry b5 a5 [d2.v,e2.v,o2.v,v2.v,a0.v,t.v,.bool j.IT] K:=λhK=>tk.intro q5 sI λwb b _ hb=>hK wb b hb;have e9:∀{wb:PU},uv a5.block b5 wb->AT wb a5 [d2.v,e2.v,o2.v,v2.v,a0.v,t.v,.bool j.IT]->ry wb a7 [vi 0,vi rs.dec,vi (a0.len:Int),.int .i64 (Aa ((t.len:Int) - 1))] λwc=>J4 wc:=λb hb=>tk.intro (b.box q7 oM) sI λwc bc _ hc=>fin b hb bc hc;have d9:sh b5 g0 [a0.v]:=m4.at0 (r:=[]) xR rfl;have k9:sh b5 d5 [t.v]:=m5.at0 (r:=[]) xR rfl;refine⟨d2,e2,o2,v2,a0,t,j.IT,(l8.U h8).at0 (r:=[]) xR rfl,?_⟩;refine⟨⟨a0,d9,⟨t,k9,e8 λwb b hb=>e9 b hb⟩,e8 λwb b hb=>⟨t,n2 b,e9 b hb⟩⟩,⟨t,k9,⟨a0,d9,e8 λwb b hb=>e9 b hb⟩,e8 λwb b hb=>⟨a0,n1 b,e9 b hb⟩⟩,e8 λwb b hb=>?_⟩;exact⟨a0,n1 b,t,n2 b,e9 b hb⟩
   clear l7;have l0:=e0.U b2;refine⟨d',e',o',v',l0.at0 xR rfl,a0,(g4.U b2).at0 (r:=[]) xR rfl,t,(l9.U d8).at0 (r:=[]) xR rfl,j.IT,l0.at1 (k:=6) (r:=[]) xR rfl,?_,?_⟩
   .refine tf.intro (Hu.V (Ď i3 m6 λd2 e2 o2 v2 n9 b4 e3=>⟨b4,d2,e2,o2,v2,rfl,An.set rfl λj0 o0 c6 g5 l5=>?_⟩));have q6:=c6.size;have m7:=b4.size;exact i5 j0 d2 e2 o2 v2 o0 (b4.Z c6) oM ((e3.U c6).O λb hb=>by omega) g5
   .refine An.intro λj0 o0 c6 g5 l5 _=>tf.intro (Hu.V (Ď (i3.U c6.size) (m6.U c6) λd2 e2 o2 v2 n9 b4 e3=>⟨b4,d2,e2,o2,v2,rfl,tk.intro (g5.U b4) sI λr3 j1 _ o9=>?_⟩));have q6:=c6.size;have m7:=b4.size;have w0:=j1.1;have u3:=g5.lt;exact i5 j0 d2 e2 o2 v2 r3 (j1.U (c6.Z b4) oM) oM ((e3.tz j1 λh=>by omega).O λb hb=>by omega) o9
  clear l6;have pl:∀{w':PU} {tp:Sl} {K:Sl->È},AI f1 w'->No wu w' (λb=>f1.heap.size<=b/\b<w'.heap.size) tp (D7 L rs.ns)->(∀c T t g9,AI w' g9->xj rs.ns (D7 L rs.ns) d4 Di P c T->No ve g9 (λb=>b<g9.heap.size) t T->K t c g9)->Gz a0 tp D N Di P tm w' K:=λ{w' tp K} hx hp hK=>by have q:=hx.size;refine Zht (S0:=λb=>b<w'.heap.size) (hg.U (f3.Z hx)).Ñ (λb hb=>hb) ((e4.U (c5.Z hx)).O λb hb=>by omega) (hp.O λb hb=>hb.2) (ze.O (ze.U q0 (c5.Z hx)) λb hb=>by omega) (λh=>?_) p6 hK;rw[Ws]at h;rw[Wr h,fl rfl]
  refine⟨a0,d9,a0,d9,D,N,Di,P,(h3.U (x6.Z (x8.Z f8))).at0 (r:=[]) xR rfl,?_,?_⟩
  .refine tf.intro (I2.V (U6 (e1.U f3) (e4.U c5) m1 λtp r4 a6 hp=>⟨a6,tp,rfl,?_,?_⟩))
   .refine Gz.V (pl a6 hp λc T t d7 a9 c4 hT=>⟨t,c,rfl,An.set rfl λc9 j9 a4 d1 i2=>?_⟩);have m8:=a6.size;have m9:=a9.size;have n0:=a4.size;exact e6 c T t c9 j9 (a6.Z (a9.Z a4)) oM c4 ((hT.U a4).O λb hb=>by omega) d1
   .refine An.intro λc9 j9 a4 d1 i2 _=>Gz.V (pl (a6.Z a4) ((hp.U a4).O λb hb=>by have:=a4.size;omega) λc T t d7 a9 c4 hT=>⟨t,c,rfl,?_⟩);have m8:=a6.size;have m9:=a9.size;have n0:=a4.size;have u:œ d7 c9.block:=HJ (d1.U a9) (by simp[Sl.v]) (.inl sI);refine tk.intro (d1.U a9) sI λk0 d0 _ j2=>?_;have r6:=d0.1;exact e6 c T t c9 k0 (d0.U (a6.Z (a4.Z a9)) oM) oM c4 (((Ni u hT).tz d0 λh=>h.2 rfl).O λb hb=>by have h1:b<d7.heap.size:=hb.1;omega) j2
  .refine An.intro λc9 j9 a4 d1 i2 _=>tf.intro (I2.V (U6 (e1.U (f3.Z a4)) (e4.U (c5.Z a4)) m1 λtp r4 a6 hp=>⟨a6,tp,rfl,?_⟩));refine Gz.V (pl (a4.Z a6) (hp.O λb hb=>by have:=a4.size;omega) λc T t d7 a9 c4 hT=>⟨t,c,rfl,?_⟩);have m8:=a6.size;have m9:=a9.size;have n0:=a4.size;have u:œ d7 c9.block:=HJ (d1.U (a6.Z a9)) (by simp[Sl.v]) (.inl sI);refine tk.intro (d1.U (a6.Z a9)) sI λk0 d0 _ j2=>?_;have r6:=d0.1;exact e6 c T t c9 k0 (d0.U (a4.Z (a6.Z a9)) oM) oM c4 (((Ni u hT).tz d0 λh=>h.2 rfl).O λb hb=>by have h1:b<d7.heap.size:=hb.1;omega) j2
 clear hJ;have p4:=(ha.U (f5.Z c8));refine⟨j.sj,e0.at1 (k:=5) xR rfl,λhk=>key _ ?_,λhk=>key none ?_⟩
 .rw[<-e5,fl hk];exact⟨by show(a.add 5).block<_;rw[CW];omega,tS,p4.at1 (k:=5) xR rfl,((hs.U o4).t).O λb hb=>by have:=hS b hb;omega⟩
 .rw[<-e5,hk];trivial
end
def Tw:JT [42]= [[42]]:=by decide
def SM:GB [42]= [[42]]:=by decide
def Ziq:yr [42] [(0,999999999)]:=by
 refine⟨⟨by decide,λa ha=>?_⟩,?_,λn=>?_⟩
 .rw[Tw,ep]at ha;subst ha;refine⟨by rw[SM];simp,λt ht=>?_⟩;rw[SM,ep]at ht;subst ht;exact⟨_,.all⟩
 .simp[Eu]
 .rw[Tw];constructor
  .intro h;have h:0<=n/\n<=999999999:=by simpa[Bc]using h
   refine⟨[42],ep.2 rfl,h.1,h.2,λt ht a ha=>?_⟩;rw[SM,ep]at ht;subst ht;rwa [<-wo.one .all ha]
  .rintro⟨a,ha,h1,h2,_⟩;simp[Bc];omega
def Xas:yt Ϸ (some (BU [(0,999999999)])):=.ok (l:=[(0,999999999)]) Ziq sI dC
def Kl:uf:=⟨[],Ay,0⟩
def ū:á:=⟨⟨[],[],[],[]⟩,[ui],[Kl],false⟩
def Ğ:wx:=⟨3,n11,⟨#[42]⟩,0,⟨#[]⟩,0⟩
def e21:Edge:=⟨n11,1⟩
def Hf:Ζ:=[⟨⟨#[]⟩,⟨0,0,0⟩,[],[e21]⟩,⟨n11,Pp,[],[]⟩]
set_option maxRecDepth 100000 in
def Wa:yh.ns=Hf:=by decide+kernel
def We{α:Type}{x y:α}{i:Nat}(h: [x][i]?=some y)(h0:i≠0):False:=by have:=(fh.1 h).1;simp at this;omega
def Xbo:vj [Kl]:=⟨by decide,rfl,λi d h h0=>(We h h0).F⟩
def Zgi:zi ū:=by
 refine⟨by decide+kernel,⟨by decide,⟨ui,rfl,rfl⟩,λi x hx h0=>(We hx h0).F,λx hx=>?_⟩,⟨Xbo,⟨by decide,λx hx e he=>?_⟩,by decide+kernel,lq _ _⟩⟩
 .obtain rfl:=ep.1 hx;exact⟨List.Pairwise.nil,(λp hp=>nomatch hp),by decide,List.Pairwise.nil,(λe he=>nomatch he),by decide⟩
 .obtain rfl:=ep.1 hx;exact nomatch he
def Zhc:vm ū.g []:=⟨List.Pairwise.nil,λy=>by simp[ū]⟩
def Zhd:ur Hf [Ay,Ą]:=by
 refine⟨by decide,rfl,⟨_,rfl,rfl⟩,rfl,λi x hx=>?_⟩
 match i,hx with
 |0,hx=>cases hx;refine⟨λh=>fm rfl h,List.Pairwise.nil,lq _ _,λe he=>?_,(λq hq=>nomatch hq)⟩;obtain rfl:=ep.1 he;exact⟨1,_,rfl,by decide,rfl,rfl⟩
 |1,hx=>cases hx;exact⟨λ_=>⟨Ą,rfl,by decide+kernel,rfl,rfl⟩,List.Pairwise.nil,List.Pairwise.nil,(λe he=>nomatch he),(λq hq=>nomatch hq)⟩
 |i+2,hx=>exact fm (fh.1 hx).1 (by simp[Hf])
def i21:Œ:=ER Hf [Ay,Ą] (some [Kl]) 9 99
def f21:wv:=⟨[⟨[],0⟩,⟨[n11],1⟩],[⟨0,n11,1⟩]⟩
def Zaz:xh i21 ķ 0 e21 (AB i21.g 0 e21) 0 f21:=by
 have hk:AB i21.g 0 e21=2:=by decide+kernel
 rw[hk];have a0:A0 ķ.By [n11]=none:=by decide+kernel
 exact .put 0 (λto h=>by
  have h1:=h.1;have h2:AK ķ.By (Af ķ.By 0) e21.Y (Af ķ.By 0).length=none:=by decide+kernel
  rw[h2]at h1;cases h1) dC (λ_=>⟨⟨ib _,λk _ hk=>by
   have h0:k=0:=(by have:(Af ķ.By 0).length=0:=rfl;omega);subst h0;exact a0,(λt ht=>nomatch ht)⟩,λm hm hl=>by
   have h0:m=0:=(by have:=hm.le;have:(Af ķ.By 0).length=0:=rfl;omega);subst h0;exact hl,λm _ _=>ib m⟩) nO (by decide+kernel) dC
def Zar:ya i21 0 ķ 0 f21:=by
 have o0:Co i21.g (ud ķ.By 0)= [e21]:=by decide+kernel
 have o1:Co i21.g (ud f21.By 1)=[]:=by decide+kernel
 refine .next (t:=f21) dC ?_ (.next (t:=f21) dC ?_ (.fin dC))
 .rw[o0];exact .cons Zaz (.nil _)
 .rw[o1];exact .nil _
def Zkt:zw f21.By f21.By:=⟨.refl _,by decide+kernel⟩
def Xa4:į [Ą] ū Ğ (some (BU [(0,999999999)])) 9 9 9 99 ⟨0,1,2,1⟩ ⟨m11,Hf,f21.By.map (Bh [Ay,Ą]),false⟩:=by
 have hm:Ft ū.m Ğ.tc ⟨Ğ.Y,BU [(0,999999999)]⟩=m11:=by decide+kernel
 have hk:AQ [Ą] m11 true [] 9 9=yh:=rfl;obtain⟨k1,k2,k3,_,_⟩:=Zez;have ha:uu ū.m [] ū.IT Ğ (some (BU [(0,999999999)])) 0 ⟨m11,[],true,false⟩:=by have:=uu.add (m:=ū.m) (rv:=[]) (IT:=false) (x:=Ğ) (r:=some (BU [(0,999999999)])) rfl (by decide+kernel) rfl dC dC (by rw[hm];decide+kernel);rw[hm]at this;exact this
 have hp:D7 [Ą] Hf= [Ay,Ą]:=by decide+kernel
 have h:=į.ok (L:=[Ą]) (D:=9) (N:=9) (Di:=9) (P:=99) (T:=f21.By.map (Bh [Ay,Ą])) ⟨by decide,by decide,by decide,by decide,by decide,by decide,by decide,by decide⟩ Zgi Zhc ha (by
  show(AQ [Ą] m11 true [] 9 9).code=0;rwa [hk]) (by
  show xj (AQ [Ą] m11 true [] 9 9).ns (D7 [Ą] (AQ [Ą] m11 true [] 9 9).ns) (some [Kl]) 9 99 0 _;rw[hk,Wa,hp];exact .ok ⟨by decide,by decide,by decide,by decide⟩ (λT hT=>by cases hT;exact Xbo) Zhd Zar Zkt)
 have h:į [Ą] ū Ğ (some (BU [(0,999999999)])) 9 9 9 99 ⟨0,(AQ [Ą] m11 true [] 9 9).dec,((AQ [Ą] m11 true [] 9 9).ns.length:Int),((f21.By.map (Bh [Ay,Ą])).length:Int) - 1⟩ ⟨m11,(AQ [Ą] m11 true [] 9 9).ns,f21.By.map (Bh [Ay,Ą]),false⟩:=h;rw[hk,k2,k3,Wa]at h;exact h
def Emp(w:PU)(g t:Sl):Prop:=xx w (λb=>b<w.heap.size) Sl.nil Sl.nil Sl.nil Sl.nil g t ū
def Emp.U{w':PU}(h:Emp w g t)(hx:AI w w'):Emp w' g t:=(xx.U h hx).O λb hb=>jo hb hx.size
def TO{SA:Nat->Prop}{sP sS:Sl}{lp:Ι}{R:Qd->Qd->É}(ht:Þ w)(hA:Old SA w)(hP:No wu w SA sP lp)
  (hR:∀p r q w',AI w w'->Xau w' w.heap.size SA p r q (DX lp)->R (some p) (some q) true w'):I7 sP D N Di P sS w R:=by
 unfold I7;have hl:=hP.len;refine An.intro λa w1 x1 ha _ _=>Ik.V (Xa0 λp r w2 x2 hC h1 h2=>⟨_,rfl,An.intro λq w3 x3 hq e8 _=>⟨nO,λ_=>?_⟩⟩);have e0:=x1.Z (x2.Z x3);have s1:=x1.size;have s2:=x2.size;have s3:=x3.size;have e6:=hC.lt;refine Of.up hP.max (λi w'=>AI w w'/\AT w' a [sP.v,vi D,vi N,vi Di,vi P,sS.v]/\a.block<w2.heap.size/\Xau w' w1.heap.size SA p r q (DX (lp.take i)))
  ⟨e0,ha.U (x2.Z x3),by have:=ha.lt;omega,⟨se,hC.U x3,λ_ h=>h.F,λh=>h⟩,⟨se,⟨⟨Sl.nil,hq,No.nil trivial⟩,λh=>h,λ_ h=>h.F,zf.nil⟩,λ_ h=>h.F,λh=>h⟩,⟨h1,h2,oM⟩,oM,oM⟩ λi w4 d9 hi ⟨x4,c9,d5,hB⟩ hn=>⟨sP,c9.sh.pre (r:=[_,_,_,_,_]) rfl,λe4=>sf.drew λd4 xd=>?_,λe7=>?_⟩
 .have c4:i<lp.length:=oM;have a9:(i:Int)<(sP.len:Int):=oM;obtain⟨ad,d,e,o,c5,_,hN,hd,he,ho,hc⟩:=Jg hP c4;have a0:=x4.Z xd;have a8:=c9.U xd;obtain⟨⟨S,b2,a6,c3⟩,⟨T,b4,a7,b7⟩,⟨d2,d0,d1⟩,b9,b0⟩:=hB.U xd;have e3:=b2.lt;have e5:q.block<d4.heap.size:=by obtain⟨s,hb,_⟩:=b4.at_;exact hb.lt
  have e9:=xd.size;have tail:∀(k:Ë),(∀w5 (_:AI w w5),AT w5 a [sP.v,vi D,vi N,vi Di,vi P,sS.v]->(∀k2:Ë,(∀w6,d9 (Aa ((i:Int)+1)) w6->k2 (.int .i64 (BJ (DX (lp.take i)) lp[i]).1) w6)->sx prog 15 [.pointer (some q),.agg #[.string lp[i].Y,.int .i64 lp[i].v.ma,.int .i64 lp[i].v.mi,.int .i64 lp[i].v.pa,d.v,e.v,o.v]] w5 k2)->k (.int .i64 (BJ (DX (lp.take i)) lp[i]).1) w5)->
    sx prog 14 [.pointer (some p),.agg #[.string lp[i].Y,.int .i64 lp[i].v.ma,.int .i64 lp[i].v.mi,.int .i64 lp[i].v.pa,d.v,e.v,o.v]] d4 k:=λk hk=>by
   refine Ij.V (Z1 (x:=lp[i]) (S2:=SA) (ht.U a0) b2 hN (hA.U a0.size) (hd.U a0) (he.U a0) (ho.U a0) λS' w5 b5 c6 hs d3=>?_);have x5:AI w w5:=b5.U a0 oM;have s5:=b5.1;have a5:=b5.box a8 oM;have c7:ę w5 T q (DX (lp.take i)):=b4.stay b5.1 λb hb a4=>b5.2.2.2.2 b hb (by
    obtain a4|rfl:=a4
    .rintro rfl;exact b7 a4
    .exact b0)
   have b8: ¬S' q.block:=λh=>by
    obtain h|h:=d3 _ h
    .exact c3 h
    .omega
   have e2:=c6.lt;have d8: ¬SA q.block:=λh=>(by have:=hA _ h;omega);refine hk w5 x5 a5 λk2 d6=>?_;refine KY.V (Zh8 (x:=lp[i]) (S2:=SA) c7 hN (hA.U x5.size) d8 (hd.U x5) (he.U x5) (ho.U x5) λw6 b6 c8=>d6 w6 (hn c4 w6 ?_));have x6:AI w w6:=b6.U x5 oM;have e1:DX (lp.take (i+1))=(BJ (DX (lp.take i)) lp[i]).2:=(by rw[dw c4,Z0]);rw[e1];have s6:=b6.1;refine⟨x6,b6.box a5 oM,d5,⟨S',c6.stay b6.1 λb hb a4=>b6.2.2.2.2 b hb (by
    obtain a4|rfl|rfl:=a4
    .rintro rfl;exact b8 a4
    .exact Ne.H b9
    .exact Ne.H b0),λb hb=>?_,b8⟩,⟨_,c8,λb hb=>?_,λhb=>?_⟩,⟨d2,d0,d1⟩,b9,b0⟩
   .obtain h|h:=d3 b hb
    .exact a6 b h
    .omega
   .rcases hb with(hb|hb)|hb
    .exact a7 b hb
    .exact .inl hb
    .right;omega
   .rcases hb with(hb|hb)|hb
    .exact b7 hb
    .have:=hA _ hb;omega
    .omega
  clear hn;refine⟨sP,a8.sh.pre rfl,ad,⟨c5,oM,a9⟩,_,_,_,_,_,_,_,(hc _ a0).pre rfl,?_,sP,a8.sh.pre rfl,ad,⟨c5,oM,a9⟩,?_,_,_,_,_,_,_,_,(hc _ a0).pre rfl,?_⟩
  .refine tail _ λw5 x5 a5 hk=>⟨_,rfl,sP,a5.sh.pre rfl,ad,⟨c5,oM,a9⟩,_,_,_,_,_,_,_,(hc _ x5).pre rfl,hk _ λw6 h6=>⟨_,rfl,λh=>fm rfl h,λ_=>h6⟩⟩
  .refine tail _ λw5 x5 a5 hk=>⟨_,rfl,_,_,_,_,_,_,_,(hc _ x5).pre rfl,hk _ λw6 h6=>⟨_,rfl,λh=>fm rfl h,λ_=>h6⟩⟩
  .refine tail _ λw5 x5 a5 hk=>⟨_,rfl,hk _ λw6 h6=>⟨_,rfl,λh=>fm rfl h,λ_=>h6⟩⟩
 .have:i=lp.length:=oM;rw[this,eh]at hB;refine hR p r q w4 x4 ?_;obtain⟨⟨S,b2,a6,c3⟩,⟨T,b4,a7,b7⟩,⟨d2,d0,d1⟩,d7⟩:=hB;exact⟨⟨S,b2,λb hb=>by have:=a6 b hb;omega,c3⟩,⟨T,b4,λb hb=>(a7 b hb).imp id λh=>by omega,b7⟩,⟨oM,oM,oM⟩,d7⟩
def Ē{R:Sl->Sl->Sl->Sl->Sl->Sl->É}(hR:∀g t w',AI w w'->Emp w' g t->R Sl.nil Sl.nil Sl.nil Sl.nil g t false w'):IL w R:=by
 refine An.intro λa w1 x1 h1 a0 _=>An.intro λa2 w2 x2 h2 a4 _=>An.intro λa3 w3 x3 h3 a5 _=>?_;have s1:=x1.size;have s2:=x2.size;have s3:=x3.size;refine tk.intro (h1.U (x2.Z x3)) sI λw4 b4 a6 h4=>⟨_,_,_,_,_,_,_,h4.at0 (r:=[]) xR rfl,?_⟩;have l1:=h1.lt;have k2:=b4.box (h2.U x3) oM;have k3:=b4.box h3 oM;have l2:=k2.lt;have l3:=k3.lt;have hg:=Kb (E:=uh) (S:=se) (x:=ui) k2 ⟨by unfold Ad ui;rw[Ao];decide,Sl.nil,Sl.nil,rfl,No.nil trivial,No.nil trivial⟩ dC;have ht:=Kb (E:=ve) (S:=se) (x:=Kl) k3 RJ dC;refine hR _ _ w4 (b4.U (x1.Z (x2.Z x3)) oM) ⟨⟨No.nil trivial,No.nil trivial,No.nil trivial,No.nil trivial⟩,hg.O λb hb=>?_,ht.O λb hb=>?_⟩
 .obtain hb|rfl:=hb
  .exact hb.F
  .exact l2
 .obtain hb|rfl:=hb
  .exact hb.F
  .exact l3
def Za8{x:wx}{e v gS tS:Sl}{R:DR}(hS:Old S w)(hs:xx w S d e o v gS tS s)
  (hR:∀d' e' o' v' g' u' w',AI w w'->R d' e' o' v' g' u' s.IT 1 0 0 0 w'):ED d e o v gS tS s.IT none x.op x.Y x.range x.tc x.td x.n D N Di P w R:=by
 refine An.intro λa w1 x1 ha c3 _=>An.intro λa1 w2 x2 h1 b6 _=>An.intro λa3 w4 x4 h3 b7 _=>An.intro λa5 w6 x6 h5 b8 _=>An.intro λa7 w8 x8 h7 b9 _=>?_;have a8:=x2.Z (x4.Z (x6.Z x8));have a6:=x1.Z a8;have s1:=x1.size;have s2:=x2.size;have s4:=x4.size;have s6:=x6.size;have s8:=x8.size;have b4:=h5.lt;have b5:=h7.lt;refine IN ⟨D,N,Di,P,nO,IS.no ⟨λ_=>?_,nO⟩⟩;refine I0.V (U9 (hS.U a6.size) (hs.U a6) (ha.U a8) λd' e' o' v' g' t' w9 x9 h9=>⟨d',e',o',v',g',t',s.IT,1,0,0,0,rfl,?_⟩);have q9:=x9.size;refine tk.intro (h5.U (x8.Z x9)) sI λc4 a0 _ a9=>tk.intro (a0.box (h7.U x9) oM) sI λb2 a4 _ b0=>?_;have c5:=a0.1;have c6:=a4.1;exact⟨d',e',o',v',g',t',s.IT,(a4.box a9 oM).at0 (r:=[]) xR rfl,1,0,0,0,b0.at0 (r:=[]) xR rfl,hR d' e' o' v' g' t' b2 (a4.U (a0.U (a6.Z x9) oM) oM)⟩
def Xbl:Ad n11:=by unfold Ad n11;rw[Ao];decide
def t21:á:=⟨m11,Hf,f21.By.map (Bh [Ay,Ą]),false⟩
def Cr{w':PU}{e v:Sl}(h:xx w (λb=>b<w.heap.size) d e o v g t s)(hx:AI w w'):xx w' (λb=>b<w'.heap.size) d e o v g t s:=(h.U hx).O λb hb=>jo hb hx.size
def xx.off{q:Nat}{e v:Sl}(hq:œ w q)(h:xx w S d e o v g t s):xx w (E5 S q) d e o v g t s:=⟨⟨HI hq h.m.d,HI hq h.m.e,HI hq h.m.o,HI hq h.m.v⟩,Zl6 hq h.g,Ni hq h.t⟩
def Dv{wB:PU}{b:LP}{e v d0 e0 o0 v0 g0 t0:Sl}{p0:Bool}{st:á}{c1 c2 c3 c4 z1 z2 z3 z4:Int}{J:Wp}(x:AI wB w)(ha:AT w a [d0.v,e0.v,o0.v,v0.v,g0.v,t0.v,.bool p0])(hb:AT w b [vi z1,vi z2,vi z3,vi z4])
  (h1:wB.heap.size<=a.block) (h2:wB.heap.size<=b.block) (a0:a.block≠b.block) (hs:xx w (λb=>b<w.heap.size) d e o v g t st)
  (k:∀w',AI wB w'->AT w' a [d.v,e.v,o.v,v.v,g.v,t.v,.bool st.IT]->AT w' b [vi c1,vi c2,vi c3,vi c4]->xx w' (λb=>b<w'.heap.size) d e o v g t st->J w'):
  ry w a [d.v,e.v,o.v,v.v,g.v,t.v,.bool st.IT] λw1=>ry w1 b [vi c1,vi c2,vi c3,vi c4] J:=by
 have ua:œ w a.block:=HJ ha (by simp[Sl.v]) (.inr (by simp[Sl.v]));have ub:œ w b.block:=HJ hb sI (.inl sI);have h3:=(hs.off ua).off ub;refine tk.intro ha sI λw1 b1 a4 k1=>?_;have y1:=b1.U x h1;refine tk.intro (b1.box hb (λe=>a0 e.H)) sI λw2 b2 a5 k2=>?_;have q1:=b1.1;have q2:=b2.1;refine k w2 (b2.U y1 h2) (b2.box k1 a0) k2 (((h3.tz b1 λh=>h.1.2 rfl).tz b2 λh=>h.2 rfl).O λb hb=>?_);have:=hb.1.1;omega
def Zfd(hg:Gl w)(hR:∀w',AI w w'->R true w'):KK w R:=by
 refine An.intro λa w1 x1 ha l7 _=>An.intro λa1 w2 x2 g2 j2 _=>tk.intro g2 sI λw3 b3 l8 h3=>?_;have l1:=ha.lt;have l2:=g2.lt;have s1:=x1.size;have s2:=x2.size;have q3:=b3.1;have g5:AI w1 w3:=b3.U x2 oM;have k7:=x1.Z g5;have hp:=(Kb (E:=wu) (S:=se) (x:=Ą) ha ⟨Xbl,Sl.nil,Sl.nil,Sl.nil,rfl,No.nil trivial,No.nil trivial,No.nil trivial⟩ dC).U g5;refine⟨_,_,_,_,_,_,h3.at0 (r:=[]) xR rfl,?_⟩;refine I7.V (TO (lp:=[Ą]) (hg.U k7).Ñ (λb hb=>?_) hp λp r q w4 x4 hB=>⟨_,_,_,rfl,nO,λ_=>An.intro λa5 w6 x6 h5 l6 _=>tk.intro h5 sI λw7 b7 l9 h7=>?_⟩)
 .obtain hb|rfl:=hb
  .exact hb.F
  .omega
 have e6:DX [Ą]= [Ą]:=by have:=Zex;exact this
 rw[e6]at hB;obtain⟨⟨SC,f1,_,_⟩,_⟩:=hB;have s4:=x4.size;have s6:=x6.size;have g6:AI w4 w7:=b7.U x6 oM;have g3:=(k7.Z x4).Z g6;have j4:=hg.U g3;have j3:=f1.U g6;have h7:AT w7 a5 [vi 9,vi 9,vi 9,vi 99]:=h7;clear ha l7 hp l1 l2 f1 h5 l6 g6 s1 s2 q3 s4 s6 x1 x2 x4 x6 b7 l9 e6 hg g2 j2 b3 l8 h3 g5;have b6:∀{wX:PU} {K:Ë},(∀g t w',AI wX w'->Emp w' g t->wX.heap.size<=w'.heap.size->K (.agg #[Sl.nil.v,Sl.nil.v,Sl.nil.v,Sl.nil.v,Sl.v g,Sl.v t,.bool false]) w')->tf prog 7 [] wX K:=λhK=>tf.intro (IL.V (Ē λg t w' x h=>⟨x,hK g t w' x h x.size⟩));obtain⟨T,eT,eD,a0⟩:∃T:á,T.T.length=2/\T.m.ss.length=1/\∀{wX:PU} {g t:Sl} {K:Ë},AI w7 wX->Emp wX g t->(∀d e o v g' u w',AI wX w'->xx w' (λb=>b<w'.heap.size) d e o v g' u T->wX.heap.size<=w'.heap.size->K (.tuple #[.agg #[Sl.v d,Sl.v e,Sl.v o,Sl.v v,Sl.v g',Sl.v u,.bool T.IT],.agg #[vi 0,vi 1,vi 2,vi 1]]) w')->
   sx prog 8 [.agg #[Sl.nil.v,Sl.nil.v,Sl.nil.v,Sl.nil.v,g.v,t.v,.bool false],.pointer (some p),.agg #[vi 3,.string (bm #[97]),.string Ϸ,vi 0,.string Ϥ,vi 0],.agg #[vi 9,vi 9,vi 9,vi 99]] wX K:=by
  refine⟨t21,rfl,rfl,λ{wX g t K} x hE hK=>ED.V (QA (s:=ū) (x:=Ğ) (S:=λb=>b<wX.heap.size) (j4.U x) Xbl (λb hb=>hb) hE (j3.U x) (λd hd=>by obtain rfl:=ep.1 hd;decide) λA t' d e o v g' u w' x' ⟨rr,hr,hd⟩ hs=>?_)⟩;obtain rfl:=Xas.one hr;obtain⟨rfl,rfl⟩:=Xa4.one hd;exact hK d e o v g' u w' x' hs x'.size
 clear j4 j3;refine join.named λJ1 j1=>?_;have k1:∀(vs a8:LP)(w9:PU),AI w7 w9->(∃(d e o v g t:Sl),AT w9 vs [d.v,e.v,o.v,v.v,g.v,t.v,.bool T.IT]/\xx w9 (λb=>b<w9.heap.size) d e o v g t T)->AT w9 a8 [vi 0,vi 1,vi 2,vi 1]->J1 vs a8 w9:=by subst j1;intro vs a8 w9 x9 ⟨d,e,o,v,g,t,hv,hs⟩ h8;refine⟨_,_,_,_,_,_,_,hv.at0 (r:=[]) xR rfl,_,_,_,_,(h7.U x9).at0 (r:=[]) xR rfl,?_⟩;refine ED.V (Za8 (s:=T) (x:=⟨0,bm #[],bm #[],0,bm #[],0⟩) (λb hb=>hb) hs λd' e' o' v' g' u' dn k8=>⟨_,_,_,_,_,_,_,_,_,_,_,rfl,?_⟩);refine An.intro λdh dp k9 g1 v2 _=>An.intro λdi dq g4 l5 v3 _=>tk.intro (g1.U g4) sI λds g7 _ dj=>tk.intro (g7.box l5 (by have:=g1.lt;omega)) sI λk6 l0 _ m0=>?_;have dk:=g1.lt;have dl:=k8.size;have s11:=k9.size;have dm:=g4.size;have c7:AI w9 k6:=l0.U (g7.U (k8.Z (k9.Z g4)) oM) oM;refine⟨0,1,2,1,(h8.U c7).at0 (r:=[]) xR rfl,IN ⟨t,λ_=>(hv.U c7).at1 (k:=5) xR rfl,IN ⟨d,λ_=>(hv.U c7).at0 xR rfl,IN ⟨1,λ_=>m0.at0 xR rfl,?_⟩⟩⟩⟩;have e1:t.len=2:=hs.t.len.Z eT;have e2:d.len=1:=hs.m.d.len.Z eD;have hr:=hR k6 (g3.Z (x9.Z c7));rwa [e1,e2]
 clear j1 hR;refine sf.drew λw8 x7=>⟨9,9,9,99,(h7.U x7).at0 (r:=[]) xR rfl,?_⟩;have s7:=x7.size;clear h7 g3;exact⟨(b6 λu5 z5 bb a4 b5 x8=>⟨_,_,_,_,_,_,_,rfl,⟨(a0 (x7.Z (a4)) (b5.U xR) λq6 r7 v4 am t4 aa bc f3 f2 y0=>⟨_,_,_,_,_,_,_,_,_,_,_,rfl,⟨(An.intro λm1 bd f5 g8 o4 cm=>(An.intro λm2 be d0 g9 o5 co=>(Dv (x7.Z (a4.Z (f3.Z (f5.Z (d0))))) (g8.U (d0)) (g9.U xR) oM oM oM (Cr f2 (f5.Z (d0))) λw x ha hb hs=>k1 _ _ w x ⟨_,_,_,_,_,_,ha,hs⟩ hb))),(An.intro λm3 bf f6 h0 o6 cq=>(An.intro λm4 bg d1 h1 o7 cr=>(Dv (x7.Z (a4.Z (f3.Z (f6.Z (d1))))) (h1.U xR) (h0.U (d1)) oM oM oM (Cr f2 (f6.Z (d1))) λw x ha hb hs=>k1 _ _ w x ⟨_,_,_,_,_,_,ha,hs⟩ hb)))⟩⟩),(An.intro λm5 bh a6 e7 o8 ct=>⟨(a0 (x7.Z (a4.Z (a6))) (b5.U (a6)) λq7 r8 v5 an t5 ab bi f7 j5 y1=>⟨_,_,_,_,_,_,_,_,_,_,_,rfl,(An.intro λm6 bj d2 h2 o9 cu=>(Dv (x7.Z (a4.Z (a6.Z (f7.Z (d2))))) (e7.U (f7.Z (d2))) (h2.U xR) oM oM oM (Cr j5 (d2)) λw x ha hb hs=>k1 _ _ w x ⟨_,_,_,_,_,_,ha,hs⟩ hb))⟩),(An.intro λm7 bk b8 h4 p0 cv=>(a0 (x7.Z (a4.Z (a6.Z (b8)))) (b5.U (a6.Z (b8))) λq8 r9 v6 aq t6 ac bl d3 j6 y2=>⟨_,_,_,_,_,_,_,_,_,_,_,rfl,(Dv (x7.Z (a4.Z (a6.Z (b8.Z (d3))))) (e7.U (b8.Z (d3))) (h4.U (d3)) oM oM oM (Cr j6 xR) λw x ha hb hs=>k1 _ _ w x ⟨_,_,_,_,_,_,ha,hs⟩ hb)⟩))⟩),(An.intro λm8 bm a7 e8 p4 cw=>⟨(a0 (x7.Z (a4.Z (a7))) (b5.U (a7)) λq9 s0 v7 ar t7 ae bn f8 j7 y3=>⟨_,_,_,_,_,_,_,_,_,_,_,rfl,(An.intro λm9 bo d4 h6 p5 cx=>(Dv (x7.Z (a4.Z (a7.Z (f8.Z (d4))))) (h6.U xR) (e8.U (f8.Z (d4))) oM oM oM (Cr j7 (d4)) λw x ha hb hs=>k1 _ _ w x ⟨_,_,_,_,_,_,ha,hs⟩ hb))⟩),(An.intro λn0 bp b9 h9 p6 cy=>(a0 (x7.Z (a4.Z (a7.Z (b9)))) (b5.U (a7.Z (b9))) λr0 s3 v8 au t8 af bq d5 j8 y4=>⟨_,_,_,_,_,_,_,_,_,_,_,rfl,(Dv (x7.Z (a4.Z (a7.Z (b9.Z (d5))))) (h9.U (d5)) (e8.U (b9.Z (d5))) oM oM oM (Cr j8 xR) λw x ha hb hs=>k1 _ _ w x ⟨_,_,_,_,_,_,ha,hs⟩ hb)⟩))⟩)⟩⟩),(An.intro λn1 br a9 c8 p7 cz=>⟨(b6 λu6 z6 bs b0 e9 y5=>⟨_,_,_,_,_,_,_,rfl,⟨(a0 (x7.Z (a9.Z (b0))) (e9.U xR) λr1 s5 v9 av t9 ag bu f9 j9 y6=>⟨_,_,_,_,_,_,_,_,_,_,_,rfl,(An.intro λn2 bv d6 i2 p8 da=>(Dv (x7.Z (a9.Z (b0.Z (f9.Z (d6))))) (c8.U (b0.Z (f9.Z (d6)))) (i2.U xR) oM oM oM (Cr j9 (d6)) λw x ha hb hs=>k1 _ _ w x ⟨_,_,_,_,_,_,ha,hs⟩ hb))⟩),(An.intro λn4 bw c3 i3 p9 db=>(a0 (x7.Z (a9.Z (b0.Z (c3)))) (e9.U (c3)) λr2 s8 w0 aw u0 ah bx d7 k0 y7=>⟨_,_,_,_,_,_,_,_,_,_,_,rfl,(Dv (x7.Z (a9.Z (b0.Z (c3.Z (d7))))) (c8.U (b0.Z (c3.Z (d7)))) (i3.U (d7)) oM oM oM (Cr k0 xR) λw x ha hb hs=>k1 _ _ w x ⟨_,_,_,_,_,_,ha,hs⟩ hb)⟩))⟩⟩),(An.intro λn5 bz d8 i4 q0 dc=>(b6 λu7 z7 ca c4 i5 y8=>⟨_,_,_,_,_,_,_,rfl,(a0 (x7.Z (a9.Z (d8.Z (c4)))) (i5.U xR) λr3 s9 w5 ax u1 ai cb d9 k2 y9=>⟨_,_,_,_,_,_,_,_,_,_,_,rfl,(Dv (x7.Z (a9.Z (d8.Z (c4.Z (d9))))) (c8.U (d8.Z (c4.Z (d9)))) (i4.U (c4.Z (d9))) oM oM oM (Cr k2 xR) λw x ha hb hs=>k1 _ _ w x ⟨_,_,_,_,_,_,ha,hs⟩ hb)⟩)⟩))⟩),(An.intro λn7 cc b2 c9 q1 dd=>⟨(b6 λu9 z8 cd b4 f0 z0=>⟨_,_,_,_,_,_,_,rfl,⟨(a0 (x7.Z (b2.Z (b4))) (f0.U xR) λr4 t0 x0 ay u2 aj ce g0 k3 z1=>⟨_,_,_,_,_,_,_,_,_,_,_,rfl,(An.intro λn8 cf e0 i6 q2 de=>(Dv (x7.Z (b2.Z (b4.Z (g0.Z (e0))))) (i6.U xR) (c9.U (b4.Z (g0.Z (e0)))) oM oM oM (Cr k3 (e0)) λw x ha hb hs=>k1 _ _ w x ⟨_,_,_,_,_,_,ha,hs⟩ hb))⟩),(An.intro λn9 cg c5 i7 q4 df=>(a0 (x7.Z (b2.Z (b4.Z (c5)))) (f0.U (c5)) λr5 t1 x3 az u3 ak ci e3 k4 z2=>⟨_,_,_,_,_,_,_,_,_,_,_,rfl,(Dv (x7.Z (b2.Z (b4.Z (c5.Z (e3))))) (i7.U (e3)) (c9.U (b4.Z (c5.Z (e3)))) oM oM oM (Cr k4 xR) λw x ha hb hs=>k1 _ _ w x ⟨_,_,_,_,_,_,ha,hs⟩ hb)⟩))⟩⟩),(An.intro λo0 cj e4 i9 q5 dg=>(b6 λv0 z9 ck c6 j0 z3=>⟨_,_,_,_,_,_,_,rfl,(a0 (x7.Z (b2.Z (e4.Z (c6)))) (j0.U xR) λr6 t3 x5 ba u4 al cl e5 k5 z4=>⟨_,_,_,_,_,_,_,_,_,_,_,rfl,(Dv (x7.Z (b2.Z (e4.Z (c6.Z (e5))))) (i9.U (c6.Z (e5))) (c9.U (e4.Z (c6.Z (e5)))) oM oM oM (Cr k5 xR) λw x ha hb hs=>k1 _ _ w x ⟨_,_,_,_,_,_,ha,hs⟩ hb)⟩)⟩))⟩)⟩
end Go.Hal
namespace Go.Hal
structure Uses(x y:wx)(r q:Option (Κ)):Prop where
 op:y.op=x.op
 add:x.op=3->y.Y=x.Y/\y.tc=x.tc/\q=r
 sd:x.op=8->y.Y=x.Y/\y.range=x.range/\q=r
 Y:x.op=4\/x.op=5->y.Y=x.Y
def uu.swap{m:vz}{rv:Η}{pr:Bool}{x y:wx}{q:Option (Κ)}{c:Int}{j:zd}(hu:Uses x y r q)(h:uu m rv pr x r c j):uu m rv pr y q c j:=by
 obtain⟨h0,h3,h8,h4⟩:=hu;obtain⟨op,nm,rg,kd,pk,n⟩:=x;obtain⟨a0,a5,a7,a4,a6,n'⟩:=y;dsimp only at h0 h3 h8 h4;subst h0;by_cases e3:a0=3
 .obtain⟨rfl,rfl,rfl⟩:=h3 e3;cases h<;>dsimp only at* <;>first|omega|(apply uu.Ń<;>assumption)|(apply uu.addRange<;>assumption)|(apply uu.ł<;>assumption)|(apply uu.Ł<;>assumption)|(apply uu.add<;>assumption)
 by_cases e8:a0=8
 .obtain⟨rfl,rfl,rfl⟩:=h8 e8;cases h<;>dsimp only at* <;>first|omega|(apply uu.ť<;>assumption)|(apply uu.ŧ<;>assumption)|(apply uu.Ŧ<;>assumption)|(apply uu.ň<;>assumption)|(apply uu.Ť<;>assumption)|(apply uu.ov<;>assumption)
 by_cases e4:a0=4\/a0=5
 .obtain rfl:=h4 e4;cases h<;>dsimp only at* <;>first|omega|(apply uu.Ŋ<;>assumption)|(apply uu.ŋ<;>assumption)|(apply uu.rem<;>assumption)|(apply uu.ŭ<;>assumption)|(apply uu.Ő<;>assumption)|(apply uu.ő<;>assumption)|(apply uu.upd<;>assumption)
 .cases h<;>dsimp only at* <;>first|omega|(apply uu.ņ<;>assumption)|(apply uu.Š<;>assumption)|(apply uu.prune<;>assumption)|(apply uu.op<;>assumption)
def į.swap{t:á}{x y:wx}{q:Option (Κ)}{A:ź}(hu:Uses x y r q)(h:į L s x r D N Di P A t):į L s y q D N Di P A t:=by
 cases h with
 |arg h=>exact .arg h
 |ask h1 h2 h3 h4 h5=>exact .ask h1 h2 h3 (h4.swap hu) h5
 |find h1 h2 h3 h4 h5=>exact .find h1 h2 h3 (h4.swap hu) h5
 |place h1 h2 h3 h4 h5 h6 h7=>exact .place h1 h2 h3 (h4.swap hu) h5 h6 h7
 |ok h1 h2 h3 h4 h5 h6=>exact .ok h1 h2 h3 (h4.swap hu) h5 h6
def xj.short{P:Ι}{tm:Option (Ε)}{M c:Int}{T:Ε}(h:xj G P tm D M c T):∀d∈T,d.BY.length<=4000000000000:=by
 cases h with
 | @ok s es h1 h2 h3 h4 h5=>have hs:=ya.small h4 (Xf (I:=ER G P tm D M) (by have:=h1.1;show(0:Int)<=D;omega));intro d hd;obtain⟨e,he,rfl⟩:=ij.1 hd;obtain⟨n,hI,_⟩:=ya.inv (I:=ER G P tm D M) h3.Xa8 h4 (xi.start h3.Xa8.pos) ð.start (λu hu=>by cases hu) (λi hi=>by omega) rfl;obtain⟨i,hi⟩:=ke (h5.1.mem_iff.1 he);have a1:=hI.Xbu i e hi;have a2:=(fh.1 hi).1;have a3:(s.By.length:Int)<=D+1:=hs.2;have a4:=h1.2.1;show e.BY.length<=_;omega
 |_=>intro d hd;cases hd
def į.short{t:á}{x:wx}{A:ź}(h:į L s x r D N Di P A t)(hb:∀d∈s.T,d.BY.length<=4000000000000):∀d∈t.T,d.BY.length<=4000000000000:=by
 cases h with
 |ok h1 h2 h3 h4 h5 h6=>exact h6.short
 |_=>exact hb
def C4(x:wx):LV:=[vi x.op,.string x.Y,.string x.range,vi x.tc,.string x.td,vi x.n]
def JC:xn wx:=DL 6 72 C4 (λx=>Ad x.Y/\Ad x.range/\Ad x.td) (λ_=>rfl) (λ_ v hv=>by simp[C4]at hv;rcases hv with rfl|rfl|rfl|rfl|rfl|rfl<;>rfl)
def X4{s:Sl}{l:List wx}(h:No JC w S s l)(hn:n<l.length):∃ad,s.a=some ad/\(Ad l[n].Y/\Ad l[n].range/\Ad l[n].td)/\∀w',AI w w'->sh w' (ad.add (n*6)) (C4 l[n]):=by obtain⟨ad,cs,h1,_,⟨rfl,hs⟩,h3⟩:=h.el hn;exact⟨ad,h1,hs,h3⟩
def Zj9:∀d∈ū.T,d.BY.length<=4000000000000:=λd hd=>by obtain rfl:=ep.1 hd;decide
def Zl9{e v:Sl}{p:Bool}(h:AT w a [d.v,e.v,o.v,v.v,g.v,t.v,.bool p]):œ w a.block:=HJ h (by simp[Sl.v]) (.inr (by simp[Sl.v]))
def X0{e v d' e' o' v' g' t':Sl}{p:Bool}{st:á}{J:Wp}(ha:AT w a [d.v,e.v,o.v,v.v,g.v,t.v,.bool p])(hs:xx w (λb=>b<w.heap.size) d' e' o' v' g' t' st)
  (k:∀w',uv a.block w w'->AT w' a [d'.v,e'.v,o'.v,v'.v,g'.v,t'.v,.bool st.IT]->xx w' (λb=>b<w'.heap.size) d' e' o' v' g' t' st->J w'):ry w a [d'.v,e'.v,o'.v,v'.v,g'.v,t'.v,.bool st.IT] J:=by
 refine tk.intro ha sI λw1 b1 a0 k1=>k w1 b1 k1 (((hs.off (Zl9 ha)).tz b1 λh=>h.2 rfl).O λb hb=>?_);have:=hb.1;have:=b1.1;omega
structure Xax(x y:wx):Prop where
 op:y.op=x.op
 add:x.op=3->y.Y=x.Y/\y.tc=x.tc/\y.range=x.range
 sd:x.op=8->y.Y=x.Y/\y.range=x.range
 Y:x.op=4\/x.op=5->y.Y=x.Y
def Xax.Xdh{x y:wx}{q:Option (Κ)}(h:Xax x y)(hr:yt x.range r)(hq:yt y.range q):Uses x y r q:=
 ⟨h.op,λh3=>⟨(h.add h3).1,(h.add h3).2.1,by have:=(h.add h3).2.2;rw[this]at hq;exact hq.one hr⟩,λh8=>⟨(h.sd h8).1,(h.sd h8).2,by have:=(h.sd h8).2;rw[this]at hq;exact hq.one hr⟩,h.Y⟩
def Za6{SA:Nat->Prop}{sP sS sM:Sl}{lp:Ι}{ls lm:List wx}(hg:Gl w)(hA:Old SA w)(hP:No wu w SA sP lp)(hS:No JC w SA sS ls)(hM:No JC w SA sM lm)
  (hR:∀w',AI w w'->R true w'):KJ sP D N Di P sS sM w R:=by
 refine An.intro λa w1 x1 ha n4 _=>⟨_,_,_,_,_,_,ha.at0 (r:=[]) xR rfl,?_⟩;refine I7.V (TO (hg.U x1).Ñ (hA.U x1.size) (hP.U x1) λp r q w3 x3 hB=>⟨_,_,_,rfl,nO,λ_=>?_⟩);obtain⟨⟨SC,d3,_,_⟩,_⟩:=hB;have b6:=x1.Z x3;have al:=ha.lt;have q1:=x1.size;have q3:=x3.size;have m7:=hS.len;have j5:=hM.len;refine IL.V (Ē λg0 t0 w4 x4 hE=>⟨_,_,_,_,_,_,_,rfl,An.intro λa5 w6 x6 h5 n2 _=>?_⟩);have q4:=x4.size;have q6:=x6.size;have l5:=h5.lt;refine X0 (st:=ū) h5 (Cr hE x6) λw7 b7 i9 k1=>?_;have l0:AI w3 w7:=b7.U (x4.Z x6) oM;refine Of.up hS.max (λ_ w'=>∃(s:á) (d e o v g t:Sl),AI w3 w'/\AT w' a5 [d.v,e.v,o.v,v.v,g.v,t.v,.bool s.IT]/\xx w' (λb=>b<w'.heap.size) d e o v g t s/\∀d∈s.T,d.BY.length<=4000000000000)
  ⟨ū,_,_,_,_,_,_,l0,i9,k1,Zj9⟩ λi w8 o0 hi ⟨s,d,e,o,v,g,t,x8,h5,hs,c8⟩ hn=>⟨sS,ha.at1 (k:=5) (r:=[]) (x3.Z x8) rfl,λj4=>?_,λ_=>KK.V (Zfd (hg.U (b6.Z x8)) λw9 x9=>⟨true,rfl,hR w9 ((b6.Z x8).Z x9)⟩)⟩
 have f7:i<ls.length:=oM;obtain⟨ad,j0,⟨sn,sr,sp⟩,hc⟩:=X4 hS f7;generalize hx:ls[i]=x at*;have l8:=h5.lt;have q8:=x8.size;refine⟨sS,ha.at1 (k:=5) (r:=[]) (x3.Z x8) rfl,ad,⟨j0,oM,j4⟩,x.op,x.Y,x.range,x.tc,x.td,x.n,by rw[dx];exact hc _ (b6.Z x8),An.intro λe7 q0 g9 e8 l7 _=>tk.intro e8 sI λe3 h7 r5 a0=>?_⟩;have a0:AT e3 e7 (C4 x):=a0;have o4:=g9.size;have n5:=e8.lt;have d8:AI w8 e3:=h7.U g9 oM;have o5:=d8.size;refine⟨x.op,a0.at0 xR rfl,An.intro λb8 q2 h0 e9 l9 _=>tk.intro e9 sI λe4 h9 r6 a8=>?_⟩;have o6:=h0.size;have n7:=e9.lt;have c3:AI e3 e4:=h9.U h0 oM;have c6:=d8.Z c3;have o7:=c6.size;let S0:Nat->Prop:=λb=>b<w8.heap.size;let St:Wp:=λw'=>AI w8 w'/\AT w' e7 (C4 x)/\b8.block<w'.heap.size;have d7:St e4:=⟨c6,a0.U c3,oM⟩;have stay:∀{w' w'':PU},St w'->uv b8.block w' w''->St w'':=λ{w' w''} h hb=>⟨hb.U h.1 oM,hb.box h.2.1 oM,by have:=hb.1;have:=h.2.2;omega⟩;have Ō:Ad ⟨#[63]⟩:=ō dC;refine join.named λJ1 f2=>?_;have d5:∀(y:wx)(b5:PU),St b5->AT b5 b8 (C4 y)->Ad y.Y->y.op=x.op->J1 b5:=by
  subst f2;intro y b5 a9 a8 hy f8;refine join.named λJ2 f3=>?_;have b0:∀(y:wx)(b9:PU),St b9->AT b9 b8 (C4 y)->Ad y.Y->Xax x y->J2 b9:=by
   subst f3;intro y b9 ⟨a7,a0,_⟩ a8 hy hU;have b4:=x8.Z a7;have g7:=b6.Z b4;refine⟨_,_,_,_,_,_,_,(h5.U a7).at0 (r:=[]) xR rfl,_,_,_,_,_,_,a0.at0 (r:=[]) xR rfl,D,N,Di,P,ha.at1 (k:=1) (x3.Z b4) rfl,?_⟩;refine ED.V (QA (s:=s) (x:=x) (S:=λb=>b<b9.heap.size) (hg.U g7) sn (λb hb=>hb) (Cr hs a7) (d3.U b4) c8 λA t' d1 e1 o1 v1 g1 u1 q5 h1 ⟨rr,j8,d9⟩ j9=>⟨_,_,_,_,_,_,_,_,_,_,_,rfl,An.intro λm8 q7 e5 f0 m0 _=>An.intro λm9 q9 c9 i5 m4 _=>?_⟩);have o8:=a7.size;have o9:=h1.size;have p0:=e5.size;have p4:=c9.size;have n8:=f0.lt;refine Dv (e5.Z c9) (f0.U c9) i5 oM oM oM (Cr j9 (e5.Z c9)) λk6 h2 g5 k2 f9=>?_;have a4:=h1.Z h2;have c4:=b4.Z a4;have g8:=b6.Z c4;refine⟨_,_,_,_,_,_,_,(h5.U (a7.Z a4)).at0 (r:=[]) xR rfl,_,_,_,_,_,_,(a8.U a4).at0 (r:=[]) xR rfl,D,N,Di,P,ha.at1 (k:=1) (x3.Z c4) rfl,?_⟩;refine ED.V (QA (s:=s) (x:=y) (S:=λb=>b<k6.heap.size) (hg.U g8) hy (λb hb=>hb) (Cr hs (a7.Z a4)) (d3.U c4) c8 λB u' d2 e2 o2 v2 g2 u2 r0 h4 ⟨qq,j7,j2⟩ k0=>⟨_,_,_,_,_,_,_,_,_,_,_,rfl,An.intro λn0 r1 e6 f1 m5 _=>An.intro λn1 r2 d0 i6 m6 _=>?_⟩);obtain⟨rfl,rfl⟩:=(d9.swap (hU.Xdh j8 j7)).one j2;have p5:=h2.size;have p6:=h4.size;have p7:=e6.size;have p8:=d0.size;have n9:=f1.lt;refine Dv (e6.Z d0) (f1.U d0) i6 oM oM oM (Cr k0 (e6.Z d0)) λr3 l6 k3 k4 g3=>?_;have a6:=h4.Z l6;have d4:=Cr f9 a6;refine⟨_,_,_,_,_,_,_,(g5.U a6).at0 (r:=[]) xR rfl,_,_,_,_,_,_,_,k3.at0 (r:=[]) xR rfl,?_⟩;refine KL.V (Zj0 (λb hb=>hb) (λb hb=>hb) d4 g3 (d9.short c8) λr4 c5=>⟨true,rfl,_,_,_,_,(k2.U (a6.Z c5)).at0 (r:=[]) xR rfl,_,_,_,_,(k4.U c5).at0 (r:=[]) xR rfl,IN ⟨λhc=>?_,λ_=>?_⟩⟩)
   .simp at hc
   refine⟨_,_,_,_,_,_,_,(g5.U (a6.Z c5)).at0 (r:=[]) xR rfl,?_⟩;have c7:=(a7.Z a4).Z (a6.Z c5);have p9:=c7.size;refine X0 (h5.U c7) (Cr d4 c5) λk7 i2 i7 g4=>?_;exact hn f7 k7 ⟨t',_,_,_,_,_,_,i2.U (x8.Z c7) oM,i7,g4,d9.short c8⟩
  clear f3;obtain⟨op,nm,rg,kd,pk,n⟩:=y;dsimp only at f8 hy;subst f8;have a0:=a9.2.1;refine⟨x.op,a0.at0 xR rfl,λh3=>?_,λh3=>⟨λh8=>?_,λh8=>?_⟩⟩
  .refine⟨x.Y,a0.at1 (k:=1) xR rfl,ry.intro a8 (by simp[C4]) λw1 b1 _ m1=>?_⟩;have s1:=stay a9 b1;refine⟨x.range,s1.2.1.at1 (k:=2) xR rfl,ry.intro (tm:=C4 ⟨x.op,x.Y,rg,kd,pk,n⟩) m1 (by simp[C4]) λw2 b2 _ m2=>?_⟩;have s2:=stay s1 b2;refine⟨x.tc,s2.2.1.at1 (k:=3) xR rfl,ry.intro (tm:=C4 ⟨x.op,x.Y,x.range,kd,pk,n⟩) m2 (by simp[C4]) λw3 b3 _ m3=>?_⟩;exact b0 ⟨x.op,x.Y,x.range,x.tc,pk,n⟩ w3 (stay s2 b3) m3 sn ⟨rfl,λ_=>⟨rfl,rfl,rfl⟩,λ_=>⟨rfl,rfl⟩,λ_=>rfl⟩
  .refine⟨x.Y,a0.at1 (k:=1) xR rfl,ry.intro a8 (by simp[C4]) λw1 b1 _ m1=>?_⟩;have s1:=stay a9 b1;refine⟨x.range,s1.2.1.at1 (k:=2) xR rfl,ry.intro (tm:=C4 ⟨x.op,x.Y,rg,kd,pk,n⟩) m1 (by simp[C4]) λw2 b2 _ m2=>?_⟩;exact b0 ⟨x.op,x.Y,x.range,kd,pk,n⟩ w2 (stay s1 b2) m2 sn ⟨rfl,λh=>fm h h3,λ_=>⟨rfl,rfl⟩,λ_=>rfl⟩
  .refine join.named λJ3 f5=>?_;have d6:∀c:Bool,(c=true↔x.op=4\/x.op=5)->J3 c b5:=by
    subst f5;intro c hc;refine⟨λh=>?_,λh=>?_⟩
    .refine⟨x.Y,a0.at1 (k:=1) xR rfl,ry.intro a8 (by simp[C4]) λw1 b1 _ m1=>?_⟩;exact b0 ⟨x.op,x.Y,rg,kd,pk,n⟩ w1 (stay a9 b1) m1 sn ⟨rfl,λh=>fm h h3,λh=>fm h h8,λ_=>rfl⟩
    .have j6: ¬(x.op=4\/x.op=5):=λhh=>(by rw[hc.2 hh]at h;cases h);exact b0 ⟨x.op,nm,rg,kd,pk,n⟩ b5 a9 a8 hy ⟨rfl,λh=>fm h h3,λh=>fm h h8,λh=>fm h j6⟩
   clear f5;exact⟨λh=>d6 _ (by simp[h]),λh=>d6 _ (by simp[h])⟩
 clear f2;refine⟨λhm=>?_,λ_=>d5 ⟨x.op,⟨#[63]⟩,⟨#[63]⟩,9,⟨#[63]⟩,-1⟩ e4 d7 a8 Ō rfl⟩;have j3:i<lm.length:=oM;obtain⟨h6,f6,⟨mn,mr,mp⟩,j1⟩:=X4 hM j3;generalize hz:lm[i]=z at*;refine⟨h6,⟨f6,oM,hm⟩,z.op,z.Y,z.range,z.tc,z.td,z.n,by rw[dx];exact j1 _ ((b6.Z x8).Z c6),tk.intro a8 sI λk8 i3 _ e0=>?_⟩;have g6:=stay d7 i3;have e0:AT k8 b8 (C4 z):=e0;refine⟨x.op,g6.2.1.at0 xR rfl,tk.intro e0 (by simp[C4]) λk9 i4 _ k5=>?_⟩;exact d5 ⟨x.op,z.Y,z.range,z.tc,z.td,z.n⟩ k9 (stay g6 i4) k5 mn rfl
open Go.ChangeShapes Go.WideShapes Go.ChangeAt Go.Proofs.YtgolaibmophnjaaGreatDoor
section
variable {H:Type} {W:PU} {enc:LN×HT->H}
def Zis{cs:LV}{x:DataW H×List MemPlace}(h1:Tr enc prog W n 24 cs x)(w1:small (x.1.weights prog 24)):
  ∃a b c d:Int,cs= [vi a,vi b,vi c,vi d]:=by
 have hl:=H3 underlying24 h1;have hc:prog.cellsOf 24=4:=kR;rw[hc]at hl;obtain⟨z0,k0,g0,v0⟩:=B8 underlying24 h1 w1 0 3 0 1 ⟨_,rfl,rfl,rfl⟩ kR;obtain⟨z1,k1,g1,v1⟩:=B8 underlying24 h1 w1 1 3 1 1 ⟨_,rfl,rfl,rfl⟩ kR;obtain⟨z2,k2,g2,v2⟩:=B8 underlying24 h1 w1 2 3 2 1 ⟨_,rfl,rfl,rfl⟩ kR;obtain⟨z3,k3,g3,v3⟩:=B8 underlying24 h1 w1 3 3 3 1 ⟨_,rfl,rfl,rfl⟩ kR;obtain⟨a,f0⟩:=ET g0;obtain⟨b,f1⟩:=ET g1;obtain⟨c,f2⟩:=ET g2;obtain⟨d,f3⟩:=ET g3
 match cs,hl with
 | [c1,c2,c3,c4],_=>simp at f0 f1 f2 f3;exact⟨a,b,c,d,by rw[f0,f1,f2,f3]⟩
end
def Zea{P:LD}{g:Nat}{t:LN}{k:IntKind}{zero:Γ}(h:w.ShapedOpen P)(hg:g<P.globals.size)
  (h0:((begin P (λ_ _=>0) default).world.heap[g]?).bind Obj.row? =some (zero,t)) (hz:zero.size=1)
  (hb:P.buildable t=true) (hc:P.cellTypes P.depth t=some [t]) (hu:P.underlying t=some (.int k)):∃n,w.cell? ⟨g,0,none⟩=some (.int k n):=by
 obtain⟨cs,hh,hs,hr⟩:=h.1 g zero t hg h0;obtain⟨ts,a6,_,a5⟩:=hr hb;rw[hc]at a6;cases a6;have h1:0<cs.size:=oM;obtain⟨u,a7,a0⟩:=a5 0 cs[0] (by simp[h1]);have:u=t:=by simpa using a7.H
 subst this;have a4:w.cell? ⟨g,0,none⟩=some cs[0]:=by simp[World.cell?,hh,h1]
 rw[a4];unfold Cell.ok at a0;rw[hu]at a0;cases hv:cs[0]<;>rw[hv]at a0<;>first|(obtain⟨rfl,_⟩:=a0;exact⟨_,rfl⟩)|simp at a0
def gMx:prog.globals.size>0/\((begin prog (λ_ _=>0) default).world.heap[0]?).bind Obj.row? =some (#[vi 0],3)/\prog.buildable 3=true/\prog.cellTypes prog.depth 3=some [3]/\prog.underlying 3=some (.int .i64):=
 ⟨jg kR,kR,kR,kR,kR⟩
def UA{P:LD}{n nm:String}{text:LU}{r:List (String×DataW Unit)}{W:PU}{g:Nat}
  (h:laidMet P ((n,.iface nm (.ptr (.agg [.lit (.string text)])))::r) W) (hg:P.globalNamed n=some g) {ti tp te ts:LN} {ms:Array (String×LN)} {f:Field}
  (ht:(P.globals[g]?).map (·.type)=some ti) (hi:P.underlying ti=some (.interface ms)) (a0:∀u,P.typeName? 3 u=some nm->u=tp)
  (hp:P.underlying tp=some (.pointer te)) (he:P.underlying te=some (.struct #[f])) (a6:f.type=ts) (a5:f.offset=0) (hs:P.underlying ts=some .string) (hc:P.cellsOf te=1) (a4:P.cellsOf ts=1):
  ∃ev,W.cell? ⟨g,0,none⟩=some ev/\(ev= .nilIface\/∃te pe,ev= .iface te pe):=by
 obtain⟨a,s,hv,_⟩:=laid_sentinel h hg ht hi a0 hp he a6 a5 hs hc a4;exact⟨_,World.var?_cell hg hv 0,.inr ⟨_,_,rfl⟩⟩
def Xz: "*" ++ "errors.errorString" = "*errors.errorString" :=by decide
def WT(u:LN)(h:prog.typeName? 3 u=some "*errors.errorString"):u=451:=
 typeName_ptr_named (nm:= "errors.errorString") (by rw[Xz]; kernel_rfl) kR dC u (by rwa [Xz])
def Zdl{W:PU}(h:laidMetH prog L0 W)(a0:W.ShapedOpen prog):Gl W:=by
 refine⟨Xcq h,?_,?_,?_⟩
 .obtain⟨h1,h2,h3,h4,h5⟩:=gMx;exact Zea a0 h1 h2 rfl h3 h4 h5
 .rw[MakeChecks.laidMetH_plain _ _ _ kR]at h;exact UA (g:=6) (laidMet.tail (laidMet.tail (laidMet.tail (laidMet.tail (laidMet.tail h))))) kR (ti:=171) kR underlying171 WT underlying451 underlying453 rfl rfl underlying9 kR kR
 .rw[MakeChecks.laidMetH_plain _ _ _ kR]at h;exact UA (g:=7) (laidMet.tail (laidMet.tail (laidMet.tail (laidMet.tail h)))) kR (ti:=171) kR underlying171 WT underlying451 underlying453 rfl rfl underlying9 kR kR
section
variable {H:Type} {W:PU} {enc:LN×HT->H}
def TS:prog.cellsOf 50=6:=kR
def Z6:prog.cellsOf 25=1:=kR
def Zix:Rd H prog W JC 50:=by
 intro enc n cs x h hw;have hl:=H3 underlying50 h;rw[TS]at hl;obtain⟨y0,m0,h0,w0⟩:=B8 underlying50 h hw 0 3 0 1 ⟨_,rfl,rfl,rfl⟩ kR;obtain⟨y1,m1,h1,w1⟩:=B8 underlying50 h hw 1 9 1 1 ⟨_,rfl,rfl,rfl⟩ Ki;obtain⟨y2,m2,h2,w2⟩:=B8 underlying50 h hw 2 9 2 1 ⟨_,rfl,rfl,rfl⟩ Ki;obtain⟨y3,m3,h3,w3⟩:=B8 underlying50 h hw 3 3 3 1 ⟨_,rfl,rfl,rfl⟩ kR;obtain⟨y4,m4,h4,w4⟩:=B8 underlying50 h hw 4 9 4 1 ⟨_,rfl,rfl,rfl⟩ Ki;obtain⟨y5,m5,h5,w5⟩:=B8 underlying50 h hw 5 3 5 1 ⟨_,rfl,rfl,rfl⟩ kR;obtain⟨a,e0⟩:=ET h0;obtain⟨b,e1,hb⟩:=Mt h1;obtain⟨c,e2,hc⟩:=Mt h2;obtain⟨d,e3⟩:=ET h3;obtain⟨e,e4,he⟩:=Mt h4;obtain⟨f,e5⟩:=ET h5
 match cs,hl with
 | [c0,c1,c2,c3,c4,c5],_=>simp at e0 e1 e2 e3 e4 e5;exact⟨⟨a,b,c,d,e,f⟩,by rw[e0,e1,e2,e3,e4,e5];rfl,hb,hc,he⟩
def WF:JQ H prog W JC 25:=OV underlying25 TS kR dC Zix
def Ziy{cs:LV}{x:DataW H×List MemPlace}(h:Tr enc prog W n 27 cs x)(hw:small (x.1.weights prog 27)):
  ∃(sP sS:Sl) (D N Di P:Int) (lp:Ι) (ls:List wx),cs= [sP.v,vi D,vi N,vi Di,vi P,sS.v]/\No wu W (Ļ W) sP lp/\No JC W (Ļ W) sS ls:=by
 have hl:=H3 underlying27 h;have hc:prog.cellsOf 27=6:=kR;rw[hc]at hl;obtain⟨y0,m0,h0,w0⟩:=B8 underlying27 h hw 0 22 0 1 ⟨_,rfl,rfl,rfl⟩ Z4;obtain⟨y1,m1,h1,w1⟩:=B8 underlying27 h hw 1 24 1 4 ⟨_,rfl,rfl,rfl⟩ kR;obtain⟨y2,m2,h2,w2⟩:=B8 underlying27 h hw 2 25 5 1 ⟨_,rfl,rfl,rfl⟩ Z6;obtain⟨a,lp,e0,hp,_⟩:=Ziu enc m0 _ _ h0 w0;obtain⟨D,N,d3,d4,e1⟩:=Zis h1 w1;obtain⟨b,ls,e2,hs,_⟩:=WF enc m2 _ _ h2 w2
 match cs,hl with
 | [c0,c1,c2,c3,c4,c5],_=>simp at e0 e1 e2;exact⟨a,b,D,N,d3,d4,lp,ls,by rw[e0,e1.1,e1.2.1,e1.2.2.1,e1.2.2.2,e2],hp,hs⟩
end
end Go.Hal
