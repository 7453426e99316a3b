/- Lemmas for the claim K19a: how the program's functions run, and what they answer; no condition but those that each theorem names. -/
import Derived.Test.YtgolaibmophnjaaGreatDoorProg
import Derived.Shelf.SlSortCmp.NoneTotal
import Derived.Ground.SlsfProg
import Derived.Shelf.Sort.Plain
import Derived.Shelf.Slices.In.SortNone
import Derived.Ground.NamesProg
import Derived.Laws.MakeOwn
import Derived.Test.YtgolaibmophnjaaGreatDoorK19aB2
set_option linter.unusedVariables false
set_option linter.unusedSimpArgs false
set_option linter.defProp false
set_option maxHeartbeats 16000000
open Go.Hal.SE hiding Cs Dr Lb vB
open Go Go.RowKit Go.Proofs Go.Shelf Go.Hal Go.Proofs.Tryz
variable {a:LP} {p:Ap} {R:Á} {D d3 d4:Int} {ks:List CW} {l:Ι} {xs:List Hal.BY} {L:Κ} {cs:LV} {m:vu} {N i lo n:Nat} {Q S:Nat->Prop} {ahd d nds o s stk t ws:Sl} {f:HT} {K:Ã} {w w' w0:Qd}
namespace Go.Hal
def Za{x:Ch}{v:Sl}{n:Int}{c0 p:LP}(hc:AT w c0 [.pointer (some p)])(hp:se w p [vi n])(hR:∀w',AI w w'->R (decide ((x.rk:Int)=n)) w'):LY (x.rk:Int) x.Y v x.none (x.i:Int) c0 w R:=by
 refine An.intro λa w1 x1 hb _ _=>sh.drew λw2 x2=>⟨_,hb.at0 x2 rfl,_,hc.at0 (r:=[]) (x1.Z x2) rfl,p,rfl,n,hp.ry (S:=λ_=>True) trivial ((x1.Z x2).ry _),?_⟩;have e:((x.rk:Int)==n)=decide ((x.rk:Int)=n):=by rw[ij];simp
 rw[e];exact hR _ (x1.Z x2)
def Zbn:Bi prog 126:=enters_of func126 kR rfl
def Zd7{l:Ρ}{p:Ch->Bool}{R:À}(hs:IT Œ w S s l)
  (hf:∀x∈l,∀v w' (k:Ã),AI w w'->(∀a4,AI w' a4->k (.bool (p x)) a4)->ug prog f [.agg #[vi (x.rk:Int),.string x.Y,Sl.v v,.bool x.none,vi (x.i:Int)]] w' k)
  (hR:∀w',AI w w'->R (AX p l) w'):Mz s f w R:=by
 unfold Mz;have hl:=hs.len;refine rn.up hs.max (λi w'=>AI w w'/\(l.take i).any p=false) ⟨AI.refl _,rfl⟩ λi w1 a7 hi ⟨x1,hI⟩ hn=>⟨λa5=>?_,λa6=>?_⟩
 .have a0:i<l.length:=oM;obtain⟨ad,cs,ha,_,⟨_,v,rfl,_⟩,hc⟩:=hs.el a0;refine⟨ad,⟨ha,oM,a5⟩,_,_,v,_,_,hc _ xT,hf _ (fm a0) _ _ _ x1 λw2 x2=>⟨_,rfl,λh=>?_,λh=>?_⟩⟩
  .rw[<-FA a0 hI h];exact hR _ xT
  .exact hn a0 _ ⟨xT,by rwa [FL a0 hI]⟩
 .have:i=l.length:=oM;rw[this,fe]at hI;rw[<-EQ hI];exact hR _ xT
def Zea{α:Type}{p:α->Bool}{l:List α}(h:∃x∈l,p x=true):AX p l=((l.findIdx p:Nat):Int):=by unfold AX;rw[List.findIdx?_eq_some_of_exists h]
section
variable {w:Qd} {lo:Nat} {sp:LP} {K:K7} {q:IS} {s:St}
def yg.Xdd{gg:Nat}(h:yg w lo gg stk nds ahd ws Q s){ad:LP}(ha:stk.a=some ad)(hb:ur ad.block w w'){l:Ρ}(ho:rl Œ 130 w' lo Q stk l):yg w' lo gg stk nds ahd ws Q {s with stack:=l}:=by have hQ: ¬Q ad.block:=h.stack.apart ad ha;exact⟨ho,h.tn.J hb hQ λb hb=>h.a1 ad b ha hb,h.AS.J hb hQ λb hb=>h.a2 ad b ha hb,h.sx.J hb hQ,h.q,h.a1,h.a2,h.a3,h.o1,h.o2,h.o3⟩
def yg.Xbt{nds' ahd':Sl}{l1:Ζ}{l2:Α}(h:yg w lo sp.block stk nds ahd ws Q s)(e1:nds'.a=nds.a)(e2:ahd'.a=ahd.a)(h1:rl ud 56 w lo Q nds' l1)(h2:rl Ci 3 w lo Q ahd' (l2.map Int.ofNat)):yg w lo sp.block stk nds' ahd' ws Q {s with ns:=l1,AS:=l2}:=
 ⟨h.stack,h1,h2,h.sx,h.q,λa b ha hb=>h.a1 a b ha (e1▸hb),λa b ha hb=>h.a2 a b ha (e2▸hb),λa b ha hb=>h.a3 a b (e1▸ha) (e2▸hb),h.o1,λa ha=>h.o2 a (e1▸ha),λa ha=>h.o3 a (e2▸ha)⟩
def Qa{row:Sl}{sz:Nat}:(Sl.cut row 0 n sz).a=row.a:=by
 unfold Sl.cut;dsimp only;split
 .rfl
 .rw[mw];cases row.a<;>rfl
def TB{c:Ch}{R:Wp}(hC:Cs w lo q K)(h:CX w lo sp K s)(hI:ñ q 0 s)(hl:s.stack.getLast? =some c)(hN:q.N<=128)(hD:q.D<=4096)
  (hR:∀w',Below lo w w'->CX w' lo sp K (FX q s c.rk)->R w'):IZ (some sp) w R:=by
 unfold IZ;obtain⟨stk,nds,ahd,ws,Q,hb,b2,h0⟩:=h;obtain⟨pre,a0⟩:∃pre,s.stack=pre++[c]:=pw.1 hl;have i4:=h0.stack.len;have g1:=h0.AS.len;have k0:=h0.tn.len;rw[eh]at g1;have i2:s.stack.length=pre.length+1:=by rw[a0,dx,il]
 have j6:c.rk<=s.AS.length:=hI.Ļ _ (by rw[a0];simp);have j8:c.i<=1000:=hI.i1 c (by rw[a0];simp);have j9:=Al;have hx:s.stack[pre.length]?=some c:=by rw[a0];simp
 have e9:pre.length<s.stack.length:=oM;have g7:s.stack[pre.length]=c:=by rw[dw e9,ff]at hx;exact hx
 obtain⟨ad,cs,a6,⟨j3,v,rfl,hv⟩,g5⟩:=h0.stack.el hx;have hg:=IH hb;have k4:s.stack.length<=4096:=by have:=hI.k;have:=hI.d;omega
 have d9:Aa ((stk.len:Int) - 1)=(pre.length:Int):=by rw[i4,i2,Ai oM oM];omega
 refine sh.drew λw1 x1=>⟨sp,rfl,stk,AT.at1 hb (k:=7) x1 rfl,sp,rfl,stk,AT.at1 hb (k:=7) x1 rfl,ad,⟨a6,by rw[d9];omega,by rw[d9];omega⟩,An.intro λa w2 x2 ha j4 _=>tj.intro ha sI λw3 b3 k5 d3=>?_⟩;have s1:=x1.size;have s2:=x2.size;have i7:AI w1 w3:=b3.U x2 oM;have d1:=x1.Z i7;have s3:=d1.size;simp only[il,List.drop_one,List.tail_cons,gz]at d3;have eN:(Aa ((stk.len:Int) - 1)).toNat*5=pre.length*Œ.n:=by rw[d9];rfl
 rw[eN]at d3;refine⟨_,d3.at0 (r:=[]) xR rfl,_,rfl,(c.i:Int),(g5 _ d1).G (k:=4) (r:=[]) rfl,_,rfl,?_⟩;have h3:=h0.U d1;have e1:Aa ((c.i:Int)+1)=((c.i+1:Nat):Int):=by rw[Ai oM oM];omega
 rw[e1];refine h3.stack.ų (i:=pre.length) (x:={c with i:=c.i+1}) (o:=4) (new:=[.int .i64 ((c.i+1:Nat):Int)]) e9 a6 (λcs e5=>?_) (by show 4+1<=5;omega) λw4 b4 k6 d0=>?_
 .rw[g7]at e5;obtain⟨k1,v',rfl,k2⟩:=e5;exact⟨k1,v',rfl,k2⟩
 have f0:s.stack.set pre.length {c with i:=c.i+1}=Bc s.stack:=by rw[a0,GR];simp
 rw[f0]at d0;have i9:ad.block<w.heap.size:=(h0.stack.block a6).2.1;have h4:yg w4 lo sp.block stk nds ahd ws Q {s with stack:=Bc s.stack}:=yg.Xdd h3 a6 b4 d0;have j5:=TK s.stack;have h6:a.block≠ad.block:=oM;have e3:=b4.box d3 h6;have c6:AT w4 sp (CT K stk nds ahd ws s.first):=b4.box (hb.U d1) (λe=>h0.o1 ad a6 e.H);have b6:Below lo w w4:=(d1.uj lo hC.le).Z (b4.below (by have:=hC.le;omega) (h0.stack.block a6).1);have a7:∀w',AI w4 w'->se w' (ad.add (pre.length*Œ.n)) [vi (c.rk:Int)]:=λw' hx=>by
  have hy:(Bc s.stack)[pre.length]?=some {c with i:=c.i+1}:=by rw[a0,GR];simp
  obtain⟨j1,j2,d5,⟨_,v',rfl,_⟩,e7⟩:=d0.el hy;rw[a6,ff]at d5;subst d5;exact(e7 _ hx).pre rfl
 have f8:ñ q 1 (FX q s c.rk):=zr.step (l:=.back) (l':=.Ñ) hC.cat.choose_spec.choose_spec.1.Ú (λn r p=>fl (TO hC.cat.choose_spec.choose_spec.1.Ú n r p) oM) hI (by rw[ME,hl]);have g8:c.rk<(C9 s.ns s.AS c.rk).length:=by
  have h1:=f8.a;have h2:(FX q s c.rk).AS.length=c.rk:=by show(s.AS.take c.rk).length=_;rw[fk];omega
  rw[h2]at h1;exact h1
 refine join.named λJ hJ=>sh.drew λw5 x5=>?_;have l5:=x5.size;have key:∀(w7:Qd)(a5 a4:Sl),ur sp.block w5 w7->a5.a=nds.a->a4.a=ahd.a->AT w7 sp (CT K stk a5 a4 ws s.first)->rl ud 56 w7 lo Q a5 (C9 s.ns s.AS c.rk)->rl Ci 3 w7 lo Q a4 ((s.AS.take c.rk).map Int.ofNat)->J w7:=by
  subst hJ;intro w7 a5 a4 b7 en ea c7 h5 f9;have c3:Below lo w w7:=(b6.Z (x5.uj lo (fl hC.le b6.size))).Z (b7.below (by have:=hC.le;have:=b6.size;omega) b2);have s7:=b7.1;have h7:yg w7 lo sp.block stk a5 a4 ws Q {s with stack:=Bc s.stack,ns:=C9 s.ns s.AS c.rk,AS:=s.AS.take c.rk}:=yg.Xbt (sp:=sp) ((h4.U x5).J b7) en ea h5 f9;have k3:CX w7 lo sp K {s with stack:=Bc s.stack,ns:=C9 s.ns s.AS c.rk,AS:=s.AS.take c.rk}:=⟨stk,a5,a4,ws,Q,c7,b2,h7⟩;have a9:a.block≠sp.block:=oM;have d4:=b7.box (e3.U x5) a9;have b0:ad.block≠sp.block:=h0.o1 ad a6;have c9:se w7 (ad.add (pre.length*Œ.n)) [vi (c.rk:Int)]:=(a7 _ x5).ry (S:=λb=>b≠sp.block) (by rwa [CY]) λb hb b5=>b7.2.2.2.2 b b5 hb;refine⟨_,d4.at0 (r:=[]) xR rfl,_,rfl,(c.rk:Int),c9,?_⟩;refine H3.V (XY (s:={s with stack:=Bc s.stack,ns:=C9 s.ns s.AS c.rk,AS:=s.AS.take c.rk}) (k:=c.rk) (hC.below c3) c7 b2 h7 g8 λw8 l0 Q8 b8 e4 h8=>⟨rfl,?_⟩);have c4:Below lo w w8:=c3.Z (b8.below (by have:=hC.le;have:=c3.size;omega) b2);have d7:=b8.box d4 a9;have a8:se w8 (ad.add (pre.length*Œ.n)) [vi (c.rk:Int)]:=c9.ry (S:=λb=>b≠sp.block) (by rwa [CY]) λb hb b5=>b8.2.2.2.2 b b5 hb;have i3:=h8.stack.I (by show(Bc s.stack).length*64<=Ab;unfold Ab;omega) (by show(Bc s.stack).length<=maxLen;omega);have g9:stk.len=(Bc s.stack).length:=h8.stack.len;refine⟨sp,rfl,stk,AT.at1 e4 (k:=7) xR rfl,Mz.V (Zd7 (p:=λx=>decide (x.rk=c.rk)) i3 (λx _ v w' k hx hk=>⟨_,_,rfl,Zbn,?_⟩) λw9 x9=>⟨_,rfl,sp,rfl,?_⟩)⟩
  .refine LY.V (Za (x:=x) (v:=v) (n:=(c.rk:Int)) (p:=ad.add (pre.length*Œ.n)) (d7.U hx) (a8.ry (S:=λ_=>True) trivial (hx.ry _)) λk9 f1=>?_);have e:decide ((x.rk:Int)=(c.rk:Int))=decide (x.rk=c.rk):=(by rw[ij];simp;omega);rw[e];exact hk _ f1
  .have g6:∃x∈Bc s.stack,decide (x.rk=c.rk)=true:=⟨{c with i:=c.i+1},by rw[a0,GR];simp,by simp⟩;rw[Zea g6];refine yg.ņ (s:={s with stack:=Bc s.stack,ns:=C9 s.ns s.AS c.rk,AS:=s.AS.take c.rk,ws:=q.sx (C9 s.ns s.AS c.rk) c.rk}) (n:=(Bc s.stack).findIdx λx:Ch=>decide (x.rk=c.rk)) (e4.U x9) b2 (h8.U x9) λi6 f3 f7=>hR i6 ((c4.Z (x9.uj lo (fl hC.le c4.size))).Z (f3.below (by have:=hC.le;have:=c4.size;have:=x9.size;omega) b2)) f7
 have i5:=h4.tn.I (by show s.ns.length*88<=Ab;have:=hI.n;unfold Ab;omega) (by show s.ns.length<=maxLen;have:=hI.n;omega);have f2:=h4.AS.I (by show(s.AS.map Int.ofNat).length*8<=Ab;rw[eh];have:=hI.n;have:=hI.a;unfold Ab;omega) (by show(s.AS.map Int.ofNat).length<=maxLen;rw[eh];have:=hI.n;have:=hI.a;omega);have j0:s.ns.length<=nds.cap:=i5.2.1;have e0:(s.AS.map Int.ofNat).length<=ahd.cap:=f2.2.1;rw[eh]at e0;have d6:=e3.U x5;refine⟨_,d6.at0 (r:=[]) xR rfl,_,rfl,(c.rk:Int),a7 _ x5,sp,rfl,ahd,AT.at1 c6 (k:=9) x5 rfl,λb5=>?_,λj7=>?_⟩
 .have c8:c.rk<s.AS.length:=oM;have g2:(s.AS.map Int.ofNat)[c.rk]?=some (Int.ofNat s.AS[c.rk]):=by rw[gc,dw c8];rfl
  obtain⟨aa,f4,g0,e6,e8⟩:=h4.AS.el g2;have g3:=hI.b c.rk _ (dw c8);have d8:f4= [vi (Int.ofNat s.AS[c.rk])]:=e6.1;subst d8;have c5:C9 s.ns s.AS c.rk=s.ns.take s.AS[c.rk]:=by unfold C9;rw[dw c8]
  generalize s.AS[c.rk]=m at*;refine sh.drew λw6 x6=>⟨sp,rfl,nds,AT.at1 c6 (k:=8) (x5.Z x6) rfl,sp,rfl,ahd,AT.at1 c6 (k:=9) (x5.Z x6) rfl,_,d6.at0 (r:=[]) x6 rfl,_,rfl,(c.rk:Int),a7 _ (x5.Z x6),aa,⟨g0,oM,oM⟩,(m:Int),e8 _ (x5.Z x6),⟨oM,oM⟩,sp,rfl,?_⟩;have l6:=x6.size;have em:((m:Int)).toNat=m:=fa m;rw[em];refine rp.intro (o:=8) ((c6.U x5).U x6) (by show 9<=12;omega) λw7 b7 k7 c7=>sh.drew λw8 x8=>?_;have l7:=x8.size;have a9:a.block≠sp.block:=oM;have b0:ad.block≠sp.block:=h0.o1 ad a6;have d2:ur sp.block w5 w8:=((x6.J _).Z b7).Z (x8.J _);have d7:=d2.box d6 a9;have a8:se w8 (ad.add (pre.length*Œ.n)) [vi (c.rk:Int)]:=(a7 _ x5).ry (S:=λb=>b≠sp.block) (by rwa [CY]) λb hb b5=>d2.2.2.2.2 b b5 hb;have h8:=(h4.U x5).J d2;refine⟨sp,rfl,ahd,AT.at1 c7 (k:=9) x8 rfl,_,d7.at0 (r:=[]) xR rfl,_,rfl,(c.rk:Int),a8,⟨oM,oM⟩,sp,rfl,?_⟩;have en:((c.rk:Int)).toNat=c.rk:=fa _;rw[en];refine rp.intro (o:=9) (c7.U x8) (by show 10<=12;omega) λw9 b9 k8 g4=>?_;have e2:ur sp.block w5 w9:=d2.Z b9;have h9:=(h4.U x5).J e2;refine key w9 (Sl.cut nds 0 m 6) (Sl.cut ahd 0 c.rk 1) e2 Qa Qa g4 ?_ ?_
  .rw[c5];exact rl.take (E:=ud) h9.tn g3.2
  .rw[List.map_take];exact rl.take (E:=Ci) h9.AS (by rw[eh];omega)
 .have c5:C9 s.ns s.AS c.rk=s.ns:=by unfold C9;rw[jf oM]
  have f6:s.AS.take c.rk=s.AS:=ia oM;exact key w5 nds ahd ((AI.refl w5).J _) rfl rfl (c6.U x5) (by rw[c5];exact(h4.U x5).tn) (by rw[f6];exact(h4.U x5).AS)
end
def Ub{l:Η}{R:Sl->Wp}(hS:Old S w)(hs:IT uy w S s l)(hR:∀t w',AI w w'->rl uy 150 w' w.heap.size rz t l->R t w'):Jh s w R:=by
 unfold Jh;refine⟨λh=>?_,λh=>?_⟩
 .have:l=[]:=by
   rcases hs.2.2.2.2 with h0|⟨ad,h1,_⟩
   .exact h0
   .rw[h]at h1;cases h1
  subst this;exact hR _ _ xR (rl.nil _ _)
 .intro a w1 ha hw;subst ha;have x1:AI w w1:=hw▸AI.alloc _ _;have ux:rl uy 150 w1 w.heap.size rz ⟨some ⟨w.heap.size,0,none⟩,0,0⟩ []:=hw▸rl.empty w;refine ux.zj JE x1.size (hs.U x1) (hS.U x1.size) (λad ha hb=>?_) (by simpa using hs.2.2.2.1) (by simpa using hs.max) λr w2 a0 vd _ _=>?_
  .simp only[ff]at ha;subst ha;have:=hS _ hb;simp at this
  .exact hR r w2 (x1.A vd) (rl.flat (λh=>h) a0)
def Zd{a b:sy}{R:À}(hR:∀w',Gr w w'->R (A7 a.Y b.Y) w'):LZ a.Y a.v.ma a.v.mi a.v.pa b.Y b.v.ma b.v.mi b.v.pa w R:=by refine An.gr λ_ w1 x1 hb=>An.gr λ_ w2 x2 a0=>⟨_,Gr.at0 hb x2 rfl,_,Gr.at0 a0 (Gr.refl _) rfl,Fg ⟨_,rfl,hR _ (x1.Z x2)⟩⟩
def Zbo:Bi prog 121:=enters_of func121 kR rfl
def Zlb{l:Η}(h:tk AY 40 w lo s l)(a4:lo<=w.heap.size)(hn:(l.map (·.Y)).Nodup)
  (hK:∀w',Below lo w w'->tk AY 40 w' lo s (AD l)->K (.tuple #[]) w'):
  si prog 120 [s.v,.func (.func 121) #[] #[]] w K:=by
 obtain⟨h1,h2,h3,h4,h5⟩:=h;obtain⟨a,n,c⟩:=s;simp only at h1 h2 h3 h5;subst h1;rcases h5 with rfl|⟨g,tail,ha,hg,hr⟩
 .refine(AnyF.slices_SortFunc_none Tryz.ī a c _ w).O λe w' ⟨he,hw⟩=>⟨_,he,?_⟩;subst hw;exact hK _ (Below.refl _ _) ⟨rfl,h2,h3,h4,.inl rfl⟩
 .subst ha;have hO:=DN (α:=sy) (·.Y);refine FJ Tryz.ī (k:=4) QH RN (f:=AY) (λ_=>rfl) (λx v hv=>by simp[AY]at hv;rcases hv with rfl|rfl|rfl|rfl<;>rfl) (λa b=>A7 a.Y b.Y) (Fh hO.flip hO.Z) 121 #[] Zbo (λw0 x y hb _=>?_) hr (by unfold Ab at h4;omega) rfl λl' w' hp hs b a5=>?_
  .have h:=LZ.V (k:=λv w'=>v= .int .i64 (A7 x.Y y.Y)/\Gr w0 w') (Zd (a:=x) (b:=y) (w:=w0) λw' h=>⟨rfl,h⟩);exact Calls.O h λe w' ⟨v,he,hv,hg⟩=>⟨by rw[he,hv],hg⟩
  .have e:l'=AD l:=by refine yy.one ?_ (M6 hn) (hp.Z (DG l).H);have a0:(l'.map (·.Y)).Nodup:=(hp.map _).nodup_iff.2 hn;rw[ii,iv]at a0;exact(hs.and a0).imp λ{a b} h=>JF (by have:=hO.flip b a;have:=hO.flip a b;omega) h.2
   subst e;have hl:=(DG l).length_eq;exact hK w' (b.below a4 hg) ⟨hl.H,by rwa [hl],h3,by rwa [hl],.inr ⟨g,tail,rfl,hg,a5⟩⟩
def Jv{a b c x y z:Int}:((a==x)&&((b==y)&&((c==z)&&true)))=decide ((⟨a,b,c⟩:sq)=⟨x,y,z⟩):=by rw[ij];simp
def UC{a b:Η}{T:Nat->Prop}(hs:IT uy w S s a)(ht:IT uy w T t b)(hR:∀w',AI w w'->R (decide (a=b)) w'):Jj s t w R:=by
 unfold Jj;have h1:=hs.len;have h2:=ht.len;refine⟨λh=>?_,λh=>?_⟩
 .have: ¬a=b:=λe=>by subst e;omega
  have h3:=hR w xR;rw[gl this]at h3;exact h3
 have a9:a.length=b.length:=by have:=jt.1 h;omega
 refine rn.up hs.max (λi w'=>AI w w'/\a.take i=b.take i) ⟨AI.refl _,rfl⟩ λi w1 b0 hi ⟨x1,hI⟩ hn=>⟨λa6=>sh.drew λw2 x2=>?_,λa8=>?_⟩
 .have k1:i<a.length:=oM;have k2:i<b.length:=oM;obtain⟨ad,ha,_,_,hc⟩:=Dw hs k1;obtain⟨a0,a4,_,_,a5⟩:=Dw ht k2;refine⟨ad,⟨ha,oM,a6⟩,_,_,_,_,hc _ (x1.Z x2),a0,⟨a4,oM,oM⟩,_,_,_,_,a5 _ (x1.Z x2),?_⟩;have e:(!((Ag a[i].Y b[i].Y)&&(((a[i].v.ma==b[i].v.ma)&&((a[i].v.mi==b[i].v.mi)&&((a[i].v.pa==b[i].v.pa)&&true)))&&true)))= !decide (a[i]=b[i]):=by congr 1;rw[ij];generalize a[i]=x;generalize b[i]=y;obtain⟨n,⟨p,q,r⟩⟩:=x;obtain⟨n',⟨p',q',r'⟩⟩:=y;simp[AA]
  rw[e];refine⟨λh=>?_,λh=>?_⟩
  .have a7: ¬a=b:=λe=>(by subst e;simp at h);have h3:=hR w2 (x1.Z x2);rw[gl a7]at h3;exact h3
  .refine hn k1 _ ⟨x1.Z x2,?_⟩;have he:a[i]=b[i]:=(by simpa using h);rw[dz k1,dz k2,hI,he]
 .have:i=a.length:=oM;subst this;rw[fe,ia oM]at hI;have h3:=hR w1 x1;rw[ie hI]at h3;exact h3
def Ze{x y:BY}{cx ex cy ey:Sl}{T:Nat->Prop}{c0:LP}(hc:AT w c0 [.string x.Y,vi x.v.ma,vi x.v.mi,vi x.v.pa,cx.v,ex.v])(hx:IT uy w S cx x.uk)(hy:IT uy w T cy y.uk)(hR:∀w',AI w w'->R (decide (y.key=x.key)) w'):
  Ma y.Y y.v.ma y.v.mi y.v.pa cy ey c0 w R:=by
 unfold Ma;have e:decide (y.key=x.key)=(Ag x.Y y.Y&&decide (x.v=y.v)&&decide (x.uk=y.uk)):=by rw[ij];simp only[BY.key,fp,Prod.mk.injEq,ep,AA];exact⟨λ⟨a,b,c⟩=>⟨⟨a.H,b.H⟩,c.H⟩,λ⟨⟨a,b⟩,c⟩=>⟨a.H,b.H,c.H⟩⟩
 rw[e]at hR;refine An.intro λa w1 x1 hb _ _=>⟨_,hc.at0 x1 rfl,_,hb.at0 xR rfl,py ⟨_,_,_,λ_=>hc.at1 (k:=1) x1 rfl,_,_,_,λ_=>hb.at1 (k:=1) xR rfl,py ?_⟩⟩;have ev:((x.v.ma==y.v.ma)&&((x.v.mi==y.v.mi)&&((x.v.pa==y.v.pa)&&true)))=decide (x.v=y.v):=Jv;rw[ev];refine⟨cx,λ_=>hc.at1 (k:=4) x1 rfl,cy,λ_=>hb.at1 (k:=4) xR rfl,?_⟩;refine No.intro (decide (x.uk=y.uk)) (λ_ q hq=>Jj.V (UC (hx.U x1) (hy.U x1) λw' hx=>⟨_,rfl,hq _ hx⟩)) λt w2 x2 ht=>?_;have h3:=hR w2 (x1.Z x2);cases hg:(Ag x.Y y.Y&&decide (x.v=y.v))
 .rw[hg]at h3;exact h3
 .rw[hg]at h3 ht;rwa [ht rfl]
def Zbp:Bi prog 124:=enters_of func124 kR rfl
def Zeb{l:Ζ}{p:BY->Bool}{R:À}(hs:IT ud w S s l)
  (hf:∀x∈l,∀(c e:Sl) w' (k:Ã),AI w w'->IT uy w' S c x.uk->(∀a4,AI w' a4->k (.bool (p x)) a4)->ug prog f [.agg #[.string x.Y,vi x.v.ma,vi x.v.mi,vi x.v.pa,c.v,e.v]] w' k)
  (hR:∀w',AI w w'->R (AX p l) w'):Mw s f w R:=by
 unfold Mw;have hl:=hs.len;refine rn.up hs.max (λi w'=>AI w w'/\(l.take i).any p=false) ⟨AI.refl _,rfl⟩ λi w1 a8 hi ⟨x1,hI⟩ hn=>⟨λa6=>?_,λa7=>?_⟩
 .have a0:i<l.length:=oM;obtain⟨ad,cs,ha,_,⟨_,c,e,rfl,a5,_⟩,hc⟩:=hs.el a0;refine⟨ad,⟨ha,oM,a6⟩,_,_,_,_,c,e,hc _ xT,hf _ (fm a0) c e _ _ x1 (a5.U x1) λw2 x2=>⟨_,rfl,λh=>?_,λh=>?_⟩⟩
  .rw[<-FA a0 hI h];exact hR _ xT
  .exact hn a0 _ ⟨xT,by rwa [FL a0 hI]⟩
 .have:i=l.length:=oM;rw[this,fe]at hI;rw[<-EQ hI];exact hR _ xT
def Ec(s:Sl)(w w':Qd):Prop:=w.heap.size<=w'.heap.size/\∀b,b<w.heap.size->(∀ad,s.a=some ad->b≠ad.block)->w'.heap[b]?=w.heap[b]?
section
variable {α:Type} {E:xh α} {T:LN} {w w':Qd} {lo:Nat} {Q:Nat->Prop} {s x:Sl} {l:List α}
def rl.yf(h:rl E T w lo Q x l)(ho:Ec s w w')(hA:yd x s)(hQ:∀ad,s.a=some ad-> ¬Q ad.block):rl E T w' lo Q x l:=
 h.ry ho.1 λb a4 hb=>ho.2 b a4 λad ha e=>by
  rcases hb with hb|⟨a5,a0,rfl⟩
  .exact hQ ad ha (e▸hb)
  .exact hA _ _ a0 ha e
def IT.yf(h:IT E w Q x l)(ho:Ec s w w')(hQ:∀ad,s.a=some ad-> ¬Q ad.block):IT E w' Q x l:=
 h.ry λb hb a0=>ho.2 b a0 λad ha e=>hQ ad ha (e▸hb)
def AT.yf(h:AT w a cs)(ho:Ec s w w')(a4:∀ad,s.a=some ad->a.block≠ad.block):AT w' a cs:=
 h.ry (S:=λb=>b=a.block) rfl λb hb a0=>ho.2 b a0 λad ha e=>a4 ad ha (hb▸e)
def Sl.ń{r:Sl}{y:Sl}{β:Type}{F:xh β}{U:LN}{m:List β}(a0:∀ad,r.a=some ad->(s.a=some ad\/w.heap.size<=ad.block))(hA:yd s y)(hy:rl F U w lo Q y m):yd r y:=λa b ha hb=>by
 obtain h|h:=a0 a ha
 .exact hA a b h hb
 .have:=(hy.block hb).2.1;omega
def Sl.Xck{r:Sl}{g:Nat}(a0:∀ad,r.a=some ad->(s.a=some ad\/w.heap.size<=ad.block))(hO:J9 s g)(hg:g<w.heap.size):J9 r g:=λa ha=>by
 obtain h|h:=a0 a ha
 .exact hO a h
 .omega
end
section
variable {w:Qd} {lo g:Nat} {stk nds ahd ws:Sl} {Q:Nat->Prop} {s:St} {P:LD}
def yg.Xci{x:BY}{t:LN}{k:Sl->Wp}(h:yg w lo g stk nds ahd ws Q s)(hT:Bz P t 56 6 88)(a4:lo<=w.heap.size)(hg:g<w.heap.size)(hx:ud.rep w Q x cs)(hc:se w a cs)(hn:s.ns.length<=1000)
  (hk:∀(r:Sl)(w':Qd),yg w' lo g stk r ahd ws Q {s with ns:=s.ns++[x]}->Below lo w w'->Ec nds w w'->(∀ad,r.a=some ad->(nds.a=some ad\/w.heap.size<=ad.block))->k r w'):ue P t t nds (Sl.v ⟨some a,1,1⟩) w k:=by
 have a5:=Al;refine h.tn.push (E:=ud) hT a4 hx hc h.tn.lt h.tn.apart (by show(s.ns.length+1)*88<=Ab;unfold Ab;omega) oM λr w' ux vd yf a0=>?_;have ho:Ec nds w w':=⟨vd.size,yf⟩;have hQ:=h.tn.apart;refine hk r w' ⟨h.stack.yf ho h.a1 hQ,ux.O (λb hb=>hb.F id id) (λb hb=>ju (h.tn.lt b hb) vd.size) (λad ha hb=>?_),h.AS.yf ho h.a3.swap hQ,h.sx.yf ho hQ,h.q,(Sl.ń a0 h.a1.swap h.stack).swap,h.a2,Sl.ń a0 h.a3 h.AS,h.o1,Sl.Xck a0 h.o2 hg,h.o3⟩ vd ho a0;obtain h1|h1:=a0 ad ha
 .exact hQ ad h1 hb
 .have:=h.tn.lt _ hb;omega
def yg.Xbc{x:Ch}{t:LN}{k:Sl->Wp}(h:yg w lo g stk nds ahd ws Q s)(hT:Bz P t 130 5 64)(a4:lo<=w.heap.size)(hg:g<w.heap.size)(hx:Œ.rep w Q x cs)(hc:se w a cs)(hn:s.stack.length<=100000)
  (hk:∀(r:Sl)(w':Qd),yg w' lo g r nds ahd ws Q {s with stack:=s.stack++[x]}->Below lo w w'->Ec stk w w'->k r w'):ue P t t stk (Sl.v ⟨some a,1,1⟩) w k:=by
 have a5:=Al;refine h.stack.push (E:=Œ) hT a4 hx hc h.stack.lt h.stack.apart (by show(s.stack.length+1)*64<=Ab;unfold Ab;omega) oM λr w' ux vd yf a0=>?_;have ho:Ec stk w w':=⟨vd.size,yf⟩;have hQ:=h.stack.apart;refine hk r w' ⟨ux.O (λb hb=>hb.F id id) (λb hb=>ju (h.stack.lt b hb) vd.size) (λad ha hb=>?_),h.tn.yf ho h.a1.swap hQ,h.AS.yf ho h.a2.swap hQ,h.sx.yf ho hQ,h.q,Sl.ń a0 h.a1 h.tn,Sl.ń a0 h.a2 h.AS,h.a3,Sl.Xck a0 h.o1 hg,h.o2,h.o3⟩ vd ho;obtain h1|h1:=a0 ad ha
 .exact hQ ad h1 hb
 .have:=h.stack.lt _ hb;omega
def yg.Xch{x:Nat}{t:LN}{k:Sl->Wp}(h:yg w lo g stk nds ahd ws Q s)(hT:Bz P t 3 1 8)(a4:lo<=w.heap.size)(hg:g<w.heap.size)(hc:se w a [vi (x:Int)])(hn:s.AS.length<=100000)
  (hk:∀(r:Sl)(w':Qd),yg w' lo g stk nds r ws Q {s with AS:=s.AS++[x]}->Below lo w w'->Ec ahd w w'->k r w'):ue P t t ahd (Sl.v ⟨some a,1,1⟩) w k:=by
 have a5:=Al;refine h.AS.push (E:=Ci) (x:=(x:Int)) hT a4 ⟨rfl,trivial⟩ hc h.AS.lt h.AS.apart (by show((s.AS.map Int.ofNat).length+1)*8<=Ab;rw[eh];unfold Ab;omega) (by rw[eh];omega) λr w' ux vd yf a0=>?_;have ho:Ec ahd w w':=⟨vd.size,yf⟩;have hQ:=h.AS.apart;refine hk r w' ⟨h.stack.yf ho h.a2 hQ,h.tn.yf ho h.a3 hQ,?_,h.sx.yf ho hQ,h.q,h.a1,(Sl.ń a0 h.a2.swap h.stack).swap,(Sl.ń a0 h.a3.swap h.tn).swap,h.o1,h.o2,Sl.Xck a0 h.o3 hg⟩ vd ho;have e:(s.AS++[x]).map Int.ofNat=s.AS.map Int.ofNat++[(x:Int)]:=by rw[gd];rfl
 show rl Ci 3 w' lo Q r ((s.AS++[x]).map Int.ofNat);rw[e];refine ux.O (λb hb=>hb.F id id) (λb hb=>ju (h.AS.lt b hb) vd.size) (λad ha hb=>?_);obtain h1|h1:=a0 ad ha
 .exact hQ ad h1 hb
 .have:=h.AS.lt _ hb;omega
def yg.yf{x:Sl}(h:yg w lo g stk nds ahd ws Q s)(ho:Ec x w w')(h1:yd stk x)(h2:yd nds x)(h3:yd ahd x)(hQ:∀ad,x.a=some ad-> ¬Q ad.block):yg w' lo g stk nds ahd ws Q s:=
 ⟨h.stack.yf ho h1 hQ,h.tn.yf ho h2 hQ,h.AS.yf ho h3 hQ,h.sx.yf ho hQ,h.q,h.a1,h.a2,h.a3,h.o1,h.o2,h.o3⟩
def yg.Xdc{P:Nat->Prop}(h:yg w lo g stk nds ahd ws Q s)(hP:∀b,P b->lo<=b/\b≠g/\b<w.heap.size)(h1:∀ad,stk.a=some ad-> ¬P ad.block)(h2:∀ad,nds.a=some ad-> ¬P ad.block)(h3:∀ad,ahd.a=some ad-> ¬P ad.block):yg w lo g stk nds ahd ws (λb=>Q b\/P b) s:=
 have key:∀{α:Type} {E:xh α} {T:LN} {x:Sl} {l:List α},rl E T w lo Q x l->(∀ad,x.a=some ad-> ¬P ad.block)->rl E T w lo (λb=>Q b\/P b) x l:=λo hn=>o.O (λ_ h=>.inl h) (λb hb=>hb.F (o.lt b) λhb=>(hP b hb).2.2) λad ha hb=>hb.F (o.apart ad ha) (hn ad ha)
 ⟨key h.stack h1,key h.tn h2,key h.AS h3,h.sx.O λ_ h=>.inl h,λb hb=>hb.F (h.q b) λhb=>⟨(hP b hb).1,(hP b hb).2.1⟩,h.a1,h.a2,h.a3,h.o1,h.o2,h.o3⟩
end
def Zku{ns a:Ζ}{k:Nat}{es:LQ}(hk:k<ns.length):(ns++a).set k {ns[k]with sd:=es}=Cn ns k es++a:=by
 rw[List.set_append_left _ _ hk];congr 1;unfold Cn;apply qm;intro i;rw[nq,List.getElem?_set];by_cases h:k=i
 .subst h;rw[fo rfl,fo hk,dw hk];simp
 .rw[fb h];cases ns[i]? with
  |none=>rfl
  |some n=>simp[h]
def X8{e:Η}{n:PU}:(un e n).isSome=e.any (As n):=by
 unfold un;rw[Option.isSome_map];cases h:e.any (As n)
 .simp only[qn,ne_eq,List.find?_isSome,not_exists,not_and];intro x hx hp;have:=mm.1 h x hx;exact this hp
 .obtain⟨x,hx,hp⟩:=jv.1 h;rw[List.find?_isSome];exact⟨x,hx,hp⟩
def Nn{e:Η}{c:Ch}{v:sq}(h:un e c.Y=some v):BX e c=e:=by
 unfold BX B0;have:e.any (As c.Y)=true:=by rw[<-X8,h];rfl
 cases c.vs[c.i]? with
 |none=>rfl
 |some v=>dsimp only;rw[fo this]
def Nl{e:Η}{c:Ch}(h:un e c.Y=none)(hi:c.i<c.vs.length):BX e c=e++[⟨c.Y,c.vs[c.i]⟩]:=by
 unfold BX B0;have:e.any (As c.Y)=false:=by rw[<-X8,h];rfl
 rw[dw hi];dsimp only;rw[fb (by rw[this];decide)]
def Nm{e:Η}{c:Ch}(hi: ¬c.i<c.vs.length):BX e c=e:=by unfold BX B0;rw[jf oM]
def YA{e:Η}{c:Ch}(h:(e.map (·.Y)).Nodup):((BX e c).map (·.Y)).Nodup:=by
 cases ht:un e c.Y with
 |some v=>rwa [Nn ht]
 |none=>
  by_cases hi:c.i<c.vs.length
  .rw[Nl ht hi,gd,ja];refine⟨h,by simp,λa ha b hb=>?_⟩;simp only[gu,ot,eu]at hb;subst hb;obtain⟨x,hx,rfl⟩:=gv.1 ha;exact Su ht x hx
  .rwa [Nm hi]
def Y9(e:Η)(c:Ch):(BX e c).length<=e.length+1:=by
 cases ht:un e c.Y with
 |some v=>rw[Nn ht];omega
 |none=>
  by_cases hi:c.i<c.vs.length
  .rw[Nl ht hi,dx];simp
  .rw[Nm hi];omega
def Zmg{q:IS}{env r:Η}{p:sy}{c:Η}(h:Cf q.L q.m.ru env p=some c):AU q env (p::r)=(AU q env r).map λxs=>⟨p.Y,p.v,c,[]⟩::xs:=by rw[AU,h]
def Zmh{q:IS}{env r:Η}{p:sy}(h:Cf q.L q.m.ru env p=none):AU q env (p::r)=none:=by rw[AU,h]
def Zil{x:BY}(h:ks.findIdx? (λy=>decide (y=x.key))=some i):AO N ks (x::xs)=(AO N ks xs).map λr=>(r.1,⟨x.Y,(i:Int)⟩::r.2):=by rw[AO,h]
def Zik{x:BY}(h:ks.findIdx? (λy=>decide (y=x.key))=none)(hN:ks.length=N):AO N ks (x::xs)=none:=by rw[AO,h];dsimp only;rw[fo hN]
def Zim{x:BY}(h:ks.findIdx? (λy=>decide (y=x.key))=none)(hN: ¬ks.length=N):AO N ks (x::xs)=(AO N (ks++[x.key]) xs).map λr=>(x::r.1,⟨x.Y,(ks.length:Int)⟩::r.2):=by rw[AO,h];dsimp only;rw[fb hN]
def Zde(ns:Ζ)(x:BY):(ns.map BY.key).findIdx? (λy=>decide (y=x.key))=ns.findIdx? (λy=>decide (y.key=x.key)):=by rw[List.findIdx?_map];rfl
section
variable {w:Qd} {lo:Nat} {sp:LP} {K:K7} {q:IS} {s:St}
def TE{R:À}(hC:Cs w lo q K)(h:CX w lo sp K s)(hI:ñ q 0 s)(hN:q.N<=128)(hD:q.D<=4096)
  (i7:∀w',q.bind s.ns s.AS.length s.env= .wy->AI w w'->R 33 w')
  (m0:∀w',q.bind s.ns s.AS.length s.env= .many->Below lo w w'->R 32 w')
  (v6:∀w' ns',q.bind s.ns s.AS.length s.env= .ok ns'->Below lo w w'->CX w' lo sp K {s with ns:=ns',AS:=s.AS++[s.ns.length]}->R 0 w'):
  Ja (some sp) (q.N:Int) w R:=by
 unfold Ja;obtain⟨stk,nds,ahd,ws,Q,hb,l9,h0⟩:=h;have ax:=h0.stack.len;have k9:=h0.AS.len;have v5:=h0.tn.len;rw[eh]at k9;have hk:=hI.a;have v3:=hI.n;have hg:=IH hb;have aq:=Al;have hx:s.ns[s.AS.length]?=some s.ns[s.AS.length]:=dw hk;obtain⟨ad,cs,v4,⟨aj,c,e,rfl,j4,_⟩,u3⟩:=h0.tn.el hx;have u0:=Ui hx;have p9:=hI.c _ (fm hk);have q3:s.env=(s.stack.drop s.first).foldl BX s.ns[s.AS.length].uk:=by unfold St.env;rw[u0]
 have aw:s.stack.length<=4096:=by have:=hI.k;have:=hI.d;omega
 have g0:∀p∈s.ns[s.AS.length].uk,Ac p.Y:=λp hp=>by obtain⟨i,hi,rfl⟩:=gh.1 hp;obtain⟨_,_,_,h,_⟩:=Dw j4 hi;exact h
 obtain⟨S,r,p7,hS,au,am⟩:=hC.cat;refine⟨sp,rfl,ahd,AT.at1 hb (k:=9) xR rfl,sp,rfl,nds,AT.at1 hb (k:=8) xR rfl,ad,⟨v4,oM,oM⟩,c,by rw[k9];exact(u3 _ xR).G (k:=4) rfl,?_⟩;refine Jh.V (Ub (S:=Q) h0.tn.lt j4 λt w1 x1 k4=>⟨_,rfl,sh.drew λw2 x2=>⟨sp,rfl,stk,AT.at1 hb (k:=7) (x1.Z x2) rfl,sp,rfl,(s.first:Int),AT.at1 hb (k:=11) (x1.Z x2) rfl,⟨oM,by have:=hI.f;omega⟩,?_⟩⟩);have e5:IT Œ w (λb=>Q b\/∃ad,stk.a=some ad/\b=ad.block) (Sl.cut stk s.first stk.len 5) ((s.stack.take stk.len).drop s.first):=IT.cut (E:=Œ) (h0.stack.I (by show s.stack.length*64<=Ab;unfold Ab;omega) oM) (by have:=hI.f;omega) oM;rw[ia oM]at e5;have ef:((s.first:Int)).toNat=s.first:=fa _;rw[ef];generalize l0:Sl.cut stk s.first stk.len 5=y9 at e5 ⊢;have ai:(s.stack.drop s.first).length<=4096:=by rw[gq];omega
 generalize hL:s.stack.drop s.first=L at*;have al:=e5.len;have z8:=x1.size;have z9:=x2.size;refine uc.up e5.max (λenv i w'=>AI w w'/\rl uy 150 w' w.heap.size rz env ((L.take i).foldl BX s.ns[s.AS.length].uk)/\(((L.take i).foldl BX s.ns[s.AS.length].uk).map (·.Y)).Nodup/\(∀p∈(L.take i).foldl BX s.ns[s.AS.length].uk,Ac p.Y)/\((L.take i).foldl BX s.ns[s.AS.length].uk).length<=2048+i)
  ⟨x1.Z x2,k4.U x2,p9.1,g0,p9.2⟩ λenv i w3 r9 hi ⟨x3,d2,i9,f7,j6⟩ hn=>⟨λg2=>join.named λJ hJ=>?_,λl6=>?_⟩
 .have a8:i<L.length:=oM;obtain⟨n2,y7,p0,_,⟨o5,v,rfl,hv⟩,u1⟩:=e5.el a8;have k5:(L.take (i+1)).foldl BX s.ns[s.AS.length].uk=BX ((L.take i).foldl BX s.ns[s.AS.length].uk) L[i]:=by rw[dz a8,List.foldl_append];rfl
  rw[k5]at hn;generalize (L.take i).foldl BX s.ns[s.AS.length].uk=A at*;generalize L[i]=ch at*;have m5:=x3.size;have kJ:∀f8 w',AI w w'->rl uy 150 w' w.heap.size rz f8 (BX A ch)->J f8 w':=λf8 w' x' o'=>by
   subst hJ;refine hn a8 _ _ ⟨x',o',YA i9,λp hp=>?_,by have:=Y9 A ch;omega⟩;cases ht:un A ch.Y with
   |some v=>rw[Nn ht]at hp;exact f7 p hp
   |none=>
    by_cases hi:ch.i<ch.vs.length
    .rw[Nl ht hi]at hp;obtain hp|hp:=fj.1 hp
     .exact f7 p hp
     .simp only[eu]at hp;subst hp;exact o5
    .rw[Nm hi]at hp;exact f7 p hp
  clear hJ;have eP:uy.bytes=40:=rfl;have o0:IT uy w3 (λb=>w.heap.size<=b) env A:=d2.Ċ dC (by rw[eP];unfold Ab;omega);refine⟨n2,⟨p0,oM,g2⟩,_,_,v,_,_,u1 _ x3,An.intro λa w4 x4 t7 z1 _=>tj.intro t7 sI λw5 b5 _ f3=>⟨_,f3.at1 (k:=1) xR rfl,?_⟩⟩;have h4:AI w3 w5:=b5.U x4 oM;have e3:=x3.Z h4;refine H4.V (RF (o0.U h4) (λv' w6 ht x6=>⟨_,_,_,_,rfl,An.intro λs4 w7 x7 c7 j2 _=>tj.intro c7 sI λw8 b8 _ i5=>py ?_⟩) λw6 ht x6=>⟨_,_,_,_,rfl,An.intro λs4 w7 x7 c7 j2 _=>tj.intro c7 sI λw8 b8 _ i5=>py ?_⟩)
  .have b6:AI w5 w8:=x6.Z (b8.U x7 oM);refine⟨0,nO,Sl.nil,nO,nO,λ_=>kJ _ _ (e3.Z b6) ?_⟩;rw[Nn ht];exact d2.U (h4.Z b6)
  .have b6:AI w5 w8:=x6.Z (b8.U x7 oM);have e4:=e3.Z b6;have az:=hv.len;refine⟨(ch.i:Int),λ_=>f3.at1 (k:=4) b6 rfl,v,λ_=>f3.at1 (k:=2) b6 rfl,λhh=>?_,λhh=>?_⟩
   .have i6:ch.i<ch.vs.length:=(by simp at hh;omega);obtain⟨n4,y8,p4,_,⟨l5,_⟩,u2⟩:=hv.el i6;subst l5;refine sh.drew λw9 x9=>⟨_,f3.at1 (k:=1) (b6.Z x9) rfl,v,f3.at1 (k:=2) (b6.Z x9) rfl,(ch.i:Int),f3.at1 (k:=4) (b6.Z x9) rfl,n4,⟨p4,oM,oM⟩,_,_,_,u2 _ (e4.Z x9),An.intro λae c4 c8 d1 _ _=>?_⟩;refine(d2.U (((h4.Z b6).Z x9).Z c8)).Ĉ (((e4.Z x9).Z c8)) JE (x:=⟨ch.Y,ch.vs[ch.i]⟩) ⟨rfl,o5⟩ d1.se dC (by rw[eP];unfold Ab;omega) λr' d6 e9 c5=>kJ r' d6 c5 ?_;rwa [Nl ht i6]
   .have i6: ¬ch.i<ch.vs.length:=(by simp at hh;omega);refine kJ _ _ e4 ?_;rw[Nm i6];exact d2.U (h4.Z b6)
 .have l7:i=L.length:=oM;rw[l7,fe,<-q3]at d2 i9 f7 j6;have m5:=x3.size;have s9:s.env.length<=7000:=oM;generalize ah:s.env=E0 at*;have hF:tk AY 40 w3 w.heap.size env E0:=tk.of (E:=uy) (f:=AY) (bytes:=40) (λx cs h=>h.1) d2 (by unfold Ab;omega);refine Zlb hF m5 i9 λw4 b4 o4=>⟨rfl,?_⟩;have n0:AI w w4:=x3.A b4;have av:=n0.size;have r8:∀p∈AD E0,Ac p.Y:=λp hp=>f7 p ((DG E0).mem_iff.1 hp);have hE:IT uy w4 (λb=>w.heap.size<=b/\b<w4.heap.size) env (AD E0):=o4.OF r8;have z0:(AD E0).length<=7000:=by rwa [(DG E0).length_eq]
  have b2:q.bind s.ns s.AS.length E0=match AU q (AD E0) (AD E0)with
   |none=>.wy
   |some xs=>match AO q.N (s.ns.map BY.key) xs with
    |none=>.many
    |some r=>.ok (Cn s.ns s.AS.length r.2++r.1):=rfl
  generalize AD E0=ES at*;clear d2 i9 f7 j6 hF o4 g0 hn b4 x3 m5 hi l6 k4;have an:=hE.len;refine uc.up hE.max (λtg i w'=>AI w4 w'/\∃(SS:Nat->Prop) (done:Ζ),rl ud 56 w' w4.heap.size SS tg done/\(∀b,SS b->w4.heap.size<=b)/\AU q ES ES=(AU q ES (ES.drop i)).map (λr=>done++r)/\done.length=i)
   ⟨AI.refl _,rz,[],rl.nil _ _,λ_ h=>h.F,by rw[lf];cases AU q ES ES<;>rfl,rfl⟩ λtg i w5 r9 hi ⟨x5,SS,done,d9,o9,g7,u4⟩ hn=>⟨λg2=>?_,λl6=>?_⟩
  .have a8:i<ES.length:=oM;obtain⟨s5,t4,_,o6,t9⟩:=Dw hE a8;rw[gp a8]at g7;generalize ES[i]=p at*;have v8:=x5.size;refine⟨s5,⟨t4,oM,g2⟩,_,_,_,_,t9 _ x5,An.intro λa6 w6 x6 d5 z2 _=>tj.intro d5 sI λw7 b7 _ c7=>sh.drew λw8 x8=>?_⟩;have y6:AI w5 w7:=b7.U x6 oM;have b6:=y6.Z x8;have n1:=x5.Z b6;have e4:=n0.Z n1;have y0:=b6.size;refine⟨sp,rfl,some K.cp,AT.at0 hb e4 rfl,sp,rfl,K.mD,K.yc,K.ye,K.Ó,AT.at1 hb (k:=1) e4 rfl,_,_,_,_,c7.at0 (r:=[]) x8 rfl,?_⟩;have n9:=hC.below (e4.uj lo hC.le);refine MT.V (Zny (p7.U e4) n9.tf (S3:=λb=>w.heap.size<=b/\b<w4.heap.size) (λb hb=>by have:=n1.size;omega) n9.ru (hE.U n1) o6 (λcx t w9 g5 x9 t0 r7=>⟨_,_,rfl,nO,λ_=>?_⟩) λw9 g5 x9=>⟨_,_,rfl,λ_=>?_,nO⟩)
   .have r5:=x9.size;have s2:=x8.Z x9;refine⟨_,c7.at0 s2 rfl,_,_,_,c7.at1 (k:=1) (r:=[]) s2 rfl,An.intro λac c4 c8 d1 t6 _=>?_⟩;have h9:=(b6.Z x9).Z c8;have g6:=c8.size;refine(d9.U h9).push (E:=ud) P3 (x:=⟨p.Y,p.v,cx,[]⟩) (S':=λb=>w8.heap.size<=b/\b<w9.heap.size) (by have:=h9.size;omega) ⟨o6,t,Sl.nil,rfl,(t0.OF r7).U c8,IT.nil trivial⟩ d1.se (λb hb=>by omega) (λad a4 hb=>by have:=(d9.block a4).2.1;omega) (by show(done.length+1)*88<=Ab;unfold Ab;omega) oM λr' d6 e9 d0 y3 y4=>?_;refine hn a8 _ _ ⟨(x5.Z h9).A d0,_,done++[⟨p.Y,p.v,cx,[]⟩],e9,λb hb=>?_,?_,by rw[dx,u4];rfl⟩
    .obtain hb|hb:=hb
     .exact o9 b hb
     .omega
    .rw[g7,Zmg g5,Option.map_map];congr 1;funext r;simp
   .refine i7 w9 ?_ (e4.Z x9);rw[b2,g7,Zmh g5];rfl
  .have l7:i=ES.length:=oM;have j9:AU q ES ES=some done:=(by rw[g7,l7,mq,AU];simp);rw[j9]at b2;dsimp only at b2;clear g7 hn j9;have v8:=x5.size;have e3:=n0.Z x5;have z5:=e3.size;generalize done=xs at*;have ba:xs.length<=7000:=oM;obtain⟨ST,k7,f9⟩:∃ST,IT ud w5 ST tg xs/\∀b,ST b->w4.heap.size<=b/\b<w5.heap.size:=⟨_,d9.I (by show xs.length*88<=Ab;unfold Ab;omega) oM,λb hb=>by
    rcases hb with hb|⟨ad,a4,rfl⟩
    .exact⟨o9 b hb,d9.lt b hb⟩
    .exact⟨(d9.block a4).1,(d9.block a4).2.1⟩⟩
   have q7:∀ad,nds.a=some ad->ad.block<w.heap.size:=λad a4=>(h0.tn.block a4).2.1;have j3:∀ad,ahd.a=some ad->ad.block<w.heap.size:=λad a4=>(h0.AS.block a4).2.1;have j8:∀ad,stk.a=some ad->ad.block<w.heap.size:=λad a4=>(h0.stack.block a4).2.1;obtain⟨Q2,h5,t1,o8⟩:∃Q2,yg w5 lo sp.block stk nds ahd ws Q2 s/\(∀b,Q2 b->b<w5.heap.size)/\∀b,ST b->Q2 b:=⟨_,h0.grow e3 hC.le hg,λb hb=>by
    obtain hb|hb:=hb
    .have:=h0.tn.lt b hb;omega
    .exact hb.2,λb hb=>.inr ⟨by have:=f9 b hb;omega,(f9 b hb).2⟩⟩
   have ay:=k7.len;refine⟨sp,rfl,nds,AT.at1 hb (k:=8) e3 rfl,?_⟩;refine uc.up k7.max (λeg i w'=>∃(a5:Sl) (a0:Ζ) (es:LQ),AT w' sp (CT K stk a5 ahd ws s.first)/\yg w' lo sp.block stk a5 ahd ws Q2 {s with ns:=s.ns++a0}/\(∀ad,a5.a=some ad->ad.block<w.heap.size\/w5.heap.size<=ad.block)/\Below lo w5 w'/\(∀b,w.heap.size<=b->b<w5.heap.size->w'.heap[b]?=w5.heap[b]?)/\
     rl wo 153 w' w5.heap.size rz eg es/\yd eg a5/\AO q.N (s.ns.map BY.key) xs=(AO q.N ((s.ns++a0).map BY.key) (xs.drop i)).map (λr=>(a0++r.1,es++r.2))/\es.length=i/\(s.ns++a0).length<=q.N)
    ⟨nds,[],[],hb.U e3,by rwa [gz],λad a4=>.inl (q7 ad a4),Below.refl _ _,λ_ _ _=>rfl,rl.nil _ _,λ_ _ h=>(by cases h),by rw[gz,lf];cases AO q.N (s.ns.map BY.key) xs<;>rfl,rfl,by rwa [gz]⟩
    λeg i w6 r9 hi ⟨a5,a0,es,d5,h6,g3,d7,g8,d3,i4,f6,q4,r0⟩ hn=>⟨λg2=>?_,λl6=>?_⟩
   .have a8:i<xs.length:=oM;have v9:=d7.size;have t3:IT ud w6 ST tg xs:=k7.ry λb hb t8=>g8 b (by have:=f9 b hb;omega) t8;obtain⟨s6,af,t5,_,⟨o7,cy,ey,rfl,q0,u6⟩,p8⟩:=t3.el a8;rw[gp a8]at f6;have g4:=h6.tn.len;generalize xs[i]=x at*;refine⟨s6,⟨t5,oM,g2⟩,_,_,_,_,cy,ey,p8 _ xR,An.intro λa7 w7 x7 c7 j2 _=>tj.intro c7 sI λw8 b8 _ i5=>?_⟩;have x0:=x7.size;have i2:AI w6 w8:=b8.U x7 oM;have y0:=i2.size;have q8:IT ud w8 (λb=>Q2 b\/∃ad,a5.a=some ad/\b=ad.block) a5 (s.ns++a0):=(h6.tn.U i2).I (by show(s.ns++a0).length*88<=Ab;unfold Ab;omega) (by show(s.ns++a0).length<=maxLen;omega);have z7:sp.block<w.heap.size:=hg;have ab:w5.heap.size<=w8.heap.size:=oM;refine⟨sp,rfl,a5,AT.at1 d5 (k:=8) i2 rfl,Mw.V (Zeb (p:=λy=>decide (y.key=x.key)) q8 (λy _ c' e' bc k k0 q1 hk=>⟨_,_,rfl,Zbp,Ma.V (Ze (x:=x) (y:=y) (i5.U k0) ((q0.U i2).U k0) q1 hk)⟩) λw9 x9=>⟨_,rfl,join.named λJ hJ=>?_⟩)⟩;have d4:=i2.Z x9;have r5:=d4.size;have f4:=i5.U x9;have kJ:∀(to:Int)(c4:Qd)(d8:Sl)(b0:Ζ),AT c4 a7 [.string x.Y,vi x.v.ma,vi x.v.mi,vi x.v.pa,cy.v,ey.v]->AT c4 sp (CT K stk d8 ahd ws s.first)->yg c4 lo sp.block stk d8 ahd ws Q2 {s with ns:=s.ns++b0}->(∀ad,d8.a=some ad->ad.block<w.heap.size\/w5.heap.size<=ad.block)->Below lo w5 c4->(∀b,w.heap.size<=b->b<w5.heap.size->c4.heap[b]?=w5.heap[b]?)->
      rl wo 153 c4 w5.heap.size rz eg es->yd eg d8->AO q.N (s.ns.map BY.key) xs=(AO q.N ((s.ns++b0).map BY.key) (xs.drop (i+1))).map (λr=>(b0++r.1,(es++[⟨x.Y,to⟩])++r.2))->(s.ns++b0).length<=q.N->J to c4:=by
     subst hJ;intro to c4 d8 b0 d1 m6 i3 m1 c9 m7 h3 j1 m4 m3;refine⟨_,d1.at0 xR rfl,An.intro λs3 d6 c5 e6 k8 _=>?_⟩;have g6:=c9.size;have r3:=c5.size;have d0:Below lo w5 d6:=Below.Z c9 (c5.uj lo (by have:=hC.le;omega));refine(h3.U c5).push (E:=wo) Nq (x:=⟨x.Y,to⟩) (S':=rz) oM ⟨rfl,o7⟩ e6.se (λ_ h=>h.F) (λ_ _ h=>h.F) (by show(es.length+1)*24<=Ab;unfold Ab;omega) oM λr' j0 m8 c3 g9 e0=>?_;have r4:=c3.size;have ho:Ec eg d6 j0:=⟨c3.size,g9⟩;have b9:∀ad,eg.a=some ad->w5.heap.size<=ad.block:=λad a4=>(h3.block a4).1;refine hn a8 r' j0 ⟨d8,b0,es++[⟨x.Y,to⟩],(m6.U c5).yf ho (λad a4=>by have:=b9 ad a4;omega),(i3.U c5).yf ho (λa b ha hb=>by have:=j8 a ha;have:=b9 b hb;omega) j1.swap (λa b ha hb=>by have:=j3 a ha;have:=b9 b hb;omega) (λad a4 hq=>by have:=b9 ad a4;have:=t1 _ hq;omega),m1,
      Below.Z d0 (Below.O c3 (by have:=hC.le;omega)),λb h1 h2=>?_,m8.O (λ_ h=>h.F id id) (λ_ h=>h.F) (λ_ _ h=>h.F),Sl.ń e0 j1 (i3.tn.U c5),m4,by rw[dx,q4];rfl,m3⟩
     rw[g9 b oM λad a4 e=>by have:=b9 ad a4;omega,c5.block oM];exact m7 b h1 h2
    clear hJ;have e7:=Zde (s.ns++a0) x;have r1:(s.ns++a0).length=s.ns.length+a0.length:=dx;cases hf:(s.ns++a0).findIdx? (λy=>decide (y.key=x.key))with
    |some j=>have g1:AX (λy:BY=>decide (y.key=x.key)) (s.ns++a0)=(j:Int):=(by unfold AX;rw[hf]);rw[g1];rw[hf]at e7;refine⟨λh=>by omega,λ_=>kJ (j:Int) w9 a5 a0 f4 (d5.U d4) (h6.U d4) g3 (Below.Z d7 (d4.uj lo (by have:=hC.le;omega))) (λb h1 h2=>by rw[d4.block oM];exact g8 b h1 h2) (d3.U d4) i4 ?_ r0⟩;rw[f6,Zil e7,Option.map_map];congr 1;funext r;simp
    |none=>
     have g1:AX (λy:BY=>decide (y.key=x.key)) (s.ns++a0)= -1:=(by unfold AX;rw[hf]);rw[g1];rw[hf]at e7;have l8:a5.len=(s.ns++a0).length:=g4;refine⟨λ_=>⟨sp,rfl,a5,AT.at1 d5 (k:=8) d4 rfl,λu7=>?_,λar=>?_⟩,λh=>fu dC h⟩
     .refine m0 w9 ?_ (Below.Z (Below.Z (e3.uj lo hC.le) d7) (d4.uj lo (by have:=hC.le;omega)));rw[b2,f6,Zik e7 (by rw[eh];omega)];rfl
     .refine⟨sp,rfl,a5,AT.at1 d5 (k:=8) d4 rfl,sh.drew λc4 c8=>⟨sp,rfl,a5,AT.at1 d5 (k:=8) (d4.Z c8) rfl,_,_,_,_,cy,ey,f4.at0 (r:=[]) c8 rfl,An.intro λs3 d6 c5 e6 k8 _=>?_⟩⟩;have g6:=c8.size;have r3:=c5.size;have c6:=(d4.Z c8).Z c5;have d0:Below lo w5 d6:=Below.Z d7 (c6.uj lo (by have:=hC.le;omega));refine yg.Xci (x:=x) (h6.U c6) P3 (by have:=hC.le;omega) oM ⟨o7,cy,ey,rfl,(q0.U c6).O o8,(u6.U c6).O o8⟩ e6.se (by show(s.ns++a0).length<=1000;omega) λr' j0 s7 c3 f0 e0=>?_;have r4:=c3.size;have z4:∀ad,a5.a=some ad->ad.block<d6.heap.size:=λad a4=>(by have:=(h6.tn.block a4).2.1;omega);have q9:∀ad,a5.a=some ad->a7.block≠ad.block:=λad a4=>(by have:=(h6.tn.block a4).2.1;omega);have p5:AT j0 sp (CT K stk a5 ahd ws s.first):=(d5.U c6).yf f0 λad a4 e=>h6.o2 ad a4 e.H;refine⟨sp,rfl,?_⟩;refine rp.intro (o:=8) p5 (by show 9<=12;omega) λy5 f2 aa p6=>?_;have z6:=f2.1;have m2:a7.block≠sp.block:=oM;have v7:∀ad,r'.a=some ad->ad.block<w.heap.size\/w5.heap.size<=ad.block:=λad a4=>by
       obtain h|h:=e0 ad a4
       .exact g3 ad h
       .right;omega
      have n8:yd eg r':=(Sl.ń e0 i4.swap (d3.U c6)).swap;have y1:((a5.len:Int))=(((s.ns++a0).map BY.key).length:Int):=(by rw[eh,l8]);rw[y1];refine kJ _ y5 r' (a0++[x]) (f2.box ((f4.U (c8.Z c5)).yf f0 q9) m2) p6 ?_ v7 (Below.Z (Below.Z d0 c3) (f2.below (by have:=hC.le;omega) l9)) (λb h1 h2=>?_) ?_ n8 ?_ ?_
      .have s8:=s7.J f2;have e1:s.ns++a0++[x]=s.ns++(a0++[x]):=fh _ _ _;rwa [<-e1]
      .rw[f2.2.2.2.2 b oM oM,f0.2 b oM λad a4 e=>by rcases g3 ad a4 with h|h<;>omega,c6.block oM];exact g8 b h1 h2
      .exact((d3.U c6).yf f0 i4 λ_ _ h=>h.F).J f2 (λh=>h.F) λad a4=>by have:=(d3.block a4).1;omega
      .have e2:(s.ns++(a0++[x])).map BY.key=(s.ns++a0).map BY.key++[x.key]:=(by rw[<-fh];exact gd);rw[f6,Zim e7 (by rw[eh];omega),Option.map_map,e2];congr 1;funext r;simp
      .rw[dx,dx];rw[il];omega
   .have v0:i=xs.length:=oM;have j7:AO q.N (s.ns.map BY.key) xs=some (a0,es):=(by rw[f6,v0,mq,AO];simp);rw[j7]at b2;dsimp only at b2;clear f6 j7 hn;have v9:=d7.size;have r1:(s.ns++a0).length=s.ns.length+a0.length:=dx;have q5:s.AS.length<(s.ns++a0).length:=oM;have y2:(s.ns++a0)[s.AS.length]?=some (s.ns++a0)[s.AS.length]:=dw q5;obtain⟨f1,ag,e8,_,_⟩:=h6.tn.el y2;have g4:a5.len=(s.ns++a0).length:=h6.tn.len;have u5:=d3.I (by show es.length*24<=Ab;unfold Ab;omega) oM;have b9:∀ad,eg.a=some ad->w5.heap.size<=ad.block/\ad.block<w6.heap.size:=λad a4=>⟨(d3.block a4).1,(d3.block a4).2.1⟩;have h7:=h6.Xdc (P:=λb=>∃ad,eg.a=some ad/\b=ad.block) (λb ⟨ad,a4,e⟩=>by have:=b9 ad a4;have:=hC.le;subst e;exact⟨oM,oM,oM⟩) (λa ha ⟨b,hb,e⟩=>by have:=j8 a ha;have:=b9 b hb;omega) (λa ha ⟨b,hb,e⟩=>i4 b a hb ha e.H) (λa ha ⟨b,hb,e⟩=>by have:=j3 a ha;have:=b9 b hb;omega);have j5:IT wo w6 (λb=>Q2 b\/∃ad,eg.a=some ad/\b=ad.block) eg es:=u5.O λb hb=>by
     obtain hb|hb:=hb
     .exact hb.F
     .exact .inr hb
    generalize ak:(λb=>Q2 b\/∃ad,eg.a=some ad/\b=ad.block)=Q3 at h7 j5;refine⟨sp,rfl,a5,AT.at1 d5 (k:=8) xR rfl,f1,⟨e8,oM,oM⟩,?_⟩;rw[k9];have u9:(s.ns++a0)[s.AS.length]=s.ns[s.AS.length]:=List.getElem_append_left hk;refine h7.tn.ų (i:=s.AS.length) (x:={s.ns[s.AS.length]with sd:=es}) (o:=5) (new:=[eg.v]) q5 e8 (λcs l0=>?_) (by show 5+1<=6;omega) λw7 b7 bb s0=>?_
    .rw[u9]at l0;obtain⟨k1,c',e',rfl,k2,k3⟩:=l0;exact⟨k1,c',eg,rfl,k2,j5⟩
    have r6:(s.ns++a0).set s.AS.length {s.ns[s.AS.length]with sd:=es}=Cn s.ns s.AS.length es++a0:=Zku hk;have m9:rl ud 56 w7 lo Q3 a5 (Cn s.ns s.AS.length es++a0):=(by rwa [<-r6]);have k6:=h7.tn.apart f1 e8;have h8:yg w7 lo sp.block stk a5 ahd ws Q3 {s with ns:=Cn s.ns s.AS.length es++a0}:=⟨h7.stack.J b7 k6 λa ha e=>h7.a1 a f1 ha e8 e.H,m9,h7.AS.J b7 k6 λa ha=>h7.a3 f1 a e8 ha,h7.sx.J b7 k6,h7.q,h7.a1,h7.a2,h7.a3,h7.o1,h7.o2,h7.o3⟩;have c7:=b7.box d5 (λe=>h6.o2 f1 e8 e.H);have x0:=b7.1;have v2:lo<=f1.block:=(h7.tn.block e8).1;have n7:Below lo w w7:=Below.Z (Below.Z (e3.uj lo hC.le) d7) (b7.below (by have:=hC.le;omega) v2);refine⟨sp,rfl,ahd,AT.at1 c7 (k:=9) xR rfl,An.intro λa9 w9 x9 f4 z3 _=>?_⟩;have r5:=x9.size;rw[v5]at f4;have q6:lo<=w9.heap.size:=(by have:=hC.le;omega);refine yg.Xch (x:=s.ns.length) (h8.U x9) P2 q6 oM f4.se (by show s.AS.length<=100000;omega) λr' c4 i3 c9 r2=>⟨sp,rfl,?_⟩;have d1:AT c4 sp (CT K stk a5 ahd ws s.first):=(c7.U x9).yf r2 λad a4 e=>h0.o3 ad a4 e.H;have g6:=c9.size;refine rp.intro (o:=9) d1 (by show 10<=12;omega) λd6 n5 _ e6=>v6 d6 _ b2 ?_ ⟨stk,a5,r',ws,Q3,e6,l9,i3.J n5⟩;exact Below.Z (Below.Z (Below.Z n7 (x9.uj lo (by have:=hC.le;omega))) c9) (n5.below (by have:=hC.le;omega) l9)
end
end Go.Hal
/-
 DERIVED:THE SHELF's CONTRACTS AT THIS DUMP,IN PLAIN WORDS (tools/lay-plain.mjs rv of 'YtgolaibmophnjaaGreatDoorLay4.lean',which tools/lay-shelf.mjs wrote):THE SAME DECLARATIONS UNDER THE SAME NAMES:'import','namespace','open','def','theorem' AND NOTHING ELSE:no command of the shelf's:FOR A HAND-IN. Each laying:the table of numbers ('.._ren') and one theorem,a field a fact of the dump's ux or the kernel's comparison;each contract:ONE APPLICATION.
-/
namespace Go.Proofs
def Tryz.Xah:Go.Shelf.Ren:=⟨λ|6=>178|15=>106|14=>268|28=>171|29=>172|20=>320|21=>321|22=>322|23=>323|24=>324|25=>325|26=>326|27=>327|46=>358|47=>258|48=>259|49=>359|50=>360|57=>385|n=>n,λ|22=>32|24=>187|25=>258|3=>3|39=>185|0=>0|53=>249|55=>251|4=>4|46=>242|45=>241|50=>246|5=>5|9=>9|66=>317|70=>321|76=>366|77=>367|n=>n,λ|n=>n⟩
def Tryz.Xb1:Go.Proofs.SlLaysF0.n6 prog Tryz.Xah:=by repeat' first|kernel_rfl|exact Fz kR kR|(intro w;kernel_rfl)|constructor
end Go.Proofs
namespace Go.Hal
instance:Inhabited Sl:=⟨Sl.nil⟩
def Zgv{a b:PU×Sl}{R:À}(hR:∀w',Gr w w'->R (A7 a.1 b.1) w'):Gm a.1 a.2 b.1 b.2 w R:=by refine An.gr λ_ w1 x1 hb=>An.gr λ_ w2 x2 a0=>⟨_,Gr.at0 hb x2 rfl,_,Gr.at0 a0 (Gr.refl _) rfl,Fg ⟨_,rfl,hR _ (x1.Z x2)⟩⟩
def U7:Bi prog 183:=enters_of func183 kR rfl
def Xbq{a b:PU}{R:À}(hR:∀w',AI w w'->R (A7 a b) w'):Gm a s b t w R:=by refine An.intro λ_ w1 x1 hb _ _=>An.intro λ_ w2 x2 a0 _ _=>⟨_,hb.at0 x2 rfl,_,a0.at0 xR rfl,Fg ⟨_,rfl,hR _ (x1.Z x2)⟩⟩
def Zli(hi:i<l.length)(h0:0<i):C5 (l.drop (i - 1))=(!decide (A7 l[i].Y (l[i - 1]'oM).Y<0)&&C5 (l.drop i)):=by
 have h1:l.drop (i - 1)=l[i - 1]'oM::l.drop i:=by rw[gp (by omega:i - 1<l.length)];congr 2;omega
 rw[h1,gp hi,C5]
def Zlj:∀{i:Nat},C5 (l.drop i)=false->C5 l=false:=by
 intro i;induction i generalizing l with
 |zero=>intro h;simpa using h
 |succ i ih=>
  intro h;cases l with
  |nil=>simp at h;exact h
  |cons x r=>
   rw[ri]at h;have:=ih h;cases r with
   |nil=>cases this
   |cons y r=>rw[C5,this,Bool.and_false]
def Zet(hs:IT rq w S s l)(hR:∀w',AI w w'->R (C5 l) w'):M4 s (.func (.func 183) #[] #[]) w R:=by
 unfold M4;have hl:=hs.len;have hm:=hs.max;have b5:=Al;refine rn.Î (λn i w'=>AI w w'/\((l=[]/\i= -1)\/(i=(n:Int)/\n<l.length/\C5 (l.drop n)=true))) (l.length - 1) ⟨AI.refl _,?_⟩ λn i w1 b7 ⟨x1,hJ⟩ hn=>⟨λb4=>?_,λb2=>?_⟩
 .rw[Ai oM oM];by_cases h0:l=[]
  .left;subst h0;rw[hl];exact⟨rfl,rfl⟩
  .right;have:0<l.length:=nv.2 h0;refine⟨oM,oM,?_⟩;rw[gp oM,kl oM];rfl
 .rcases hJ with⟨_,rfl⟩|⟨rfl,a4,hI⟩
  .omega
  have h0:0<n:=oM;have ew:Aa ((n:Int) - 1)=((n - 1:Nat):Int):=by rw[Ai oM oM];omega
  rw[ew];obtain⟨ad,t,ha,_,b6,_,hc⟩:=BH hs a4;obtain⟨a7,t2,a8,_,b0,_,a9⟩:=BH hs (n:=n - 1) oM;have a0:=Zli a4 h0;refine sh.drew λw2 x2=>⟨ad,⟨ha,oM,oM⟩,_,t,hc _ (x1.Z x2),a7,⟨a8,oM,oM⟩,_,t2,a9 _ (x1.Z x2),_,_,rfl,U7,Gm.V (Xbq λw3 x3=>⟨_,rfl,λa5=>?_,λa6=>?_⟩)⟩
  .rw[ie a5,Bool.not_true,Bool.false_and]at a0;have:=hR w3 ((x1.Z x2).Z x3);rw[Zlj a0]at this;exact this
  .rw[gl a6,hI]at a0;exact hn (n - 1) _ _ oM ⟨(x1.Z x2).Z x3,.inr ⟨rfl,oM,a0⟩⟩
 .have hs:C5 l=true:=by
   rcases hJ with⟨rfl,_⟩|⟨rfl,a4,hI⟩
   .rfl
   .have:n=0:=oM;subst this;simpa using hI
  have:=hR w1 x1;rw[hs]at this;exact this
def Zk7(h:rl rq 187 w lo S s l)(a5:lo<=w.heap.size)(a9:l.length<=1000)
  (hK:∀w' (z:List (PU×Sl)),Below lo w w'->(z.map (·.1)).Perm (l.map (·.Y))->z.Pairwise (λx y=>A7 x.1 y.1<=0)->(z=[]\/∃g tail,s.a=some ⟨g,0,none⟩/\tm (λx:PU×Sl=>[.string x.1,Sl.v x.2]) w' g z tail)->K (.tuple #[]) w'):
  si prog 178 [s.v,.func (.func 183) #[] #[]] w K:=by
 have a0:=h.len;rcases h.Xbs (λx:PU×Sl=>[.string x.1,Sl.v x.2]) (λy x=>y.1=x.Y) (λx cs (hx:rq.rep w S x cs)=>by obtain⟨_,t,a4,_⟩:=hx;exact⟨(x.Y,t),a4,rfl⟩)with⟨rfl,rfl⟩|⟨g,z,tail,ha,hg,hz,hr,hrow,hc,hcm⟩
 .refine(AnyF.slices_SortFunc_none Tryz.Xb1 none 0 _ w).O λe w' ⟨he,hw⟩=>⟨_,he,?_⟩;subst hw;exact hK _ [] (Below.refl _ _) (jx _) List.Pairwise.nil (.inl rfl)
 .obtain⟨a,n,c⟩:=s;simp only at ha a0;subst ha;have a8:(z.map Prod.fst).length=l.length:=by rw[<-hz];simp
  have a6:(z.map Prod.fst).map (·.1)=l.map (·.Y):=by rw[<-hz,jj,jj];exact oh λp hp=>hr p hp
  subst a0;rw[<-a8];have hO:=DN (α:=PU×Sl) (·.1);refine FJ Tryz.Xb1 (k:=2) (λw=>kR) (λw=>kR) (f:=λx:PU×Sl=>[.string x.1,Sl.v x.2]) (λ_=>rfl) (λx v hv=>by simp[Sl.v]at hv;rcases hv with rfl|rfl<;>rfl) (λa b=>A7 a.1 b.1) (Fh hO.flip hO.Z) 183 #[] U7 (λw0 x y hb _=>?_) hrow oM rfl λl' w' hp hs b a7=>?_
  .have h:=Gm.V (k:=λv w'=>v= .int .i64 (A7 x.1 y.1)/\Gr w0 w') (Zgv (a:=x) (b:=y) (w:=w0) λw' h=>⟨rfl,h⟩);exact Calls.O h λe w' ⟨v,he,hv,hg⟩=>⟨by rw[he,hv],hg⟩
  .refine hK w' l' (b.below a5 hg) ?_ (hs.imp λ{a b} h=>by have:=hO.flip b a;have:=hO.flip a b;omega) (.inr ⟨g,tail,rfl,a7⟩);rw[<-a6];exact hp.map _
def okB{d:uf}{t2:Bool}{n:Int}(h2:Ad d.Y=true->t2=AP d.range)(hn:(n==0)=d.range.isEmpty):(((!Ad d.Y)||(!t2))||(n==0))= !Du d:=by
 unfold Du;rw[hn];cases h1:Ad d.Y
 .simp
 .rw[h2 h1];cases AP d.range<;>cases d.range.isEmpty<;>rfl
def VI{sa sb sc:Sl}{la lb lc:Ι}(hS:Old S w)(ha:IT rq w S sa la)(hb:IT rq w S sb lb)(hc:IT rq w S sc lc)(hR:∀w',AI w w'->R (BK la lb lc) w'):IL sa sb sc w R:=by
 unfold IL;have i2:=Al;have e9:rq.bytes=40:=rfl;refine An.intro λa1 w1 x1 b4 h3 _=>?_;have i3:=x1.size;have a0:∀{l:Ι},wk l=true->l.length<=16:=λh=>by unfold wk at h;simp only[ep,fp]at h;exact h.1.1
 refine uc.up (N:=3) dC (λall i w'=>AI w w'/\AI w1 w'/\∃(S':Nat->Prop) (pre:Ι),rl rq 187 w' w1.heap.size S' all pre/\(i=0->pre=[])/\(i=1->pre=la)/\(i=2->pre=la++lb)/\(i=3->pre=la++lb++lc)/\(0<i->wk la=true)/\(1<i->wk lb=true)/\(2<i->wk lc=true))
  ⟨x1,AI.refl _,rz,[],(rl.nil _ _),λ_=>rfl,λh=>by omega,λh=>by omega,λh=>by omega,λh=>by omega,λh=>by omega,λh=>by omega⟩ λall i w2 g9 hi ⟨x2,a6,S',pre,ux,p0,p1,p2,p3,k0,k1,k2⟩ hn=>⟨λd8=>?_,λf4=>?_⟩
 .have d9:i<3:=by have:((Sl.mk (some a1) 3 3).len:Int)=3:=rfl;omega
  have d0:=Vu (i:=i) (b4.U a6);have c7:i=0\/i=1\/i=2:=oM;obtain⟨t,l,f9,hs,q0,q1,q2,d4,h6⟩:∃t l,se w2 (a1.add (i*1)) [Sl.v t]/\IT rq w S t l/\(i=0->l=la)/\(i=1->l=lb)/\(i=2->l=lc)/\(wk l=false->BK la lb lc=false)/\pre.length<=32:=by
   obtain rfl|rfl|rfl:=c7
   .exact⟨sa,la,d0.1 rfl,ha,λ_=>rfl,λh=>by omega,λh=>by omega,λh=>QV (.inl h),by rw[p0 rfl];simp⟩
   .exact⟨sb,lb,d0.2.1 rfl,hb,λh=>by omega,λ_=>rfl,λh=>by omega,λh=>QV (.inr (.inl h)),by rw[p1 rfl];have:=a0 (k0 oM);omega⟩
   .exact⟨sc,lc,d0.2.2 rfl,hc,λh=>by omega,λh=>by omega,λ_=>rfl,λh=>QV (.inr (.inr h)),by rw[p2 rfl,dx];have:=a0 (k0 oM);have:=a0 (k1 oM);omega⟩
  have i4:=hs.len;refine⟨a1,⟨rfl,oM,d8⟩,t,f9,py ?_⟩;refine No.intro (C5 l) (λ_ q hq=>M4.V (Zet (hs.U x2) λw' hx=>⟨_,rfl,hq _ hx⟩)) λt2 w3 x3 b8=>?_;have a8:=x2.Z x3;have a4:∀w',AI w w'->wk l=false->R false w':=λw' hx h=>by have:=hR w' hx;rw[d4 h]at this;exact this
  refine⟨λh=>a4 w3 a8 ?_,λh=>?_⟩
  .unfold wk;cases b2:decide ((16:Int)<(t.len:Int))
   .rw[b2]at b8 h;rw[b8 rfl]at h;have:C5 l=false:=by simpa using h
    rw[this];simp
   .have: ¬l.length<=16:=(by simp at b2;omega);simp[this]
  .have b2:l.length<=16:=(by simp at h;omega);have hd:decide ((16:Int)<(t.len:Int))=false:=(by simp;omega);rw[hd]at b8 h;rw[b8 rfl]at h;have g5:C5 l=true:=(by simpa using h);refine rn.up hs.max (λj w'=>AI w3 w'/\(l.take j).all Du=true) ⟨AI.refl _,rfl⟩ λj w4 h7 hj ⟨x4,hI⟩ g0=>⟨λe2=>?_,λh5=>?_⟩
   .have b7:j<l.length:=oM;obtain⟨ad,tr,c4,_,g2,hr,f3⟩:=BH hs b7;have a9:=a8.Z x4;refine⟨ad,⟨c4,oM,e2⟩,_,tr,f3 _ a9,An.intro λa5 w5 x5 f0 h4 _=>tj.intro f0 sI λw6 b6 _ c5=>⟨_,c5.at0 xR rfl,?_⟩⟩;have e7:AI w4 w6:=b6.U x5 oM;have e6:=a9.Z e7;refine CI.V (uq g2 λw7 x7=>⟨_,rfl,py ⟨tr,λ_=>c5.at1 (k:=1) (r:=[]) x7 rfl,?_⟩⟩);refine No.intro (AP l[j].range) (λ_ q hq=>G3.V (Ê (hr.U (e6.Z x7)) λw' hx=>⟨_,rfl,hq _ hx⟩)) λt3 w8 x8 g7=>py ⟨tr,λ_=>c5.at1 (k:=1) (r:=[]) (x7.Z x8) rfl,?_⟩;have e0:((tr.len:Int)==0)=l[j].range.isEmpty:=(by rw[hr.len];cases l[j].range<;>simp;omega);have e1:=okB (d:=l[j]) (t2:=t3) (n:=(tr.len:Int)) (λh1=>g7 (by rw[h1];rfl)) e0;rw[e1];have g6:(l.take (j+1)).all Du=Du l[j]:=(by rw[dz b7,qy,hI];simp);refine⟨λhh=>a4 w8 ((e6.Z x7).Z x8) ?_,λhh=>g0 b7 _ ⟨(x4.Z e7).Z (x7.Z x8),by rw[g6];simpa using hh⟩⟩;have c6:Du l[j]=false:=(by simpa using hh);unfold wk;have:l.all Du=false:=by rw[List.all_eq_false];exact⟨l[j],fm b7,by rw[c6];decide⟩
    rw[this,Bool.and_false]
   .have c9:j=l.length:=oM;rw[c9,fe]at hI;have d2:wk l=true:=(by unfold wk;rw[g5,hI,ie b2];rfl);have b0:=x3.Z x4;have a9:=x2.Z b0;have g4:=a9.size;refine(ux.U b0).zj JD (a6.Z b0).size (hs.U a9) (hS.U g4) (λad c4 hb=>by have:=(ux.block c4).1;have:=hS _ hb;omega) (by rw[e9];unfold Ab;omega) oM λr' w9 e5 b9 _ _=>?_;refine hn d9 _ _ ⟨x1.Z ((a6.Z b0).A b9),(a6.Z b0).A b9,_,pre++l,e5,λh=>by omega,λh=>?_,λh=>?_,λh=>?_,λ_=>?_,λh=>?_,λh=>?_⟩
    .have:i=0:=oM;rw[p0 this,q0 this];rfl
    .have:i=1:=oM;rw[p1 this,q1 this]
    .have:i=2:=oM;rw[p2 this,q2 this]
    .obtain h0|h0:=ka i
     .rwa [<-q0 h0]
     .exact k0 h0
    .obtain h0|h0:=pp 1 i
     .exact k1 h0
     .have:i=1:=oM;rwa [<-q1 this]
    .have:i=2:=oM;rwa [<-q2 this]
 .have d6:i=3:=by have:((Sl.mk (some a1) 3 3).len:Int)=3:=rfl;omega
  rw[Zn5 (k0 oM) (k1 oM) (k2 oM),<-p3 d6]at hR;have g3:pre.length<=1000:=by rw[p3 d6,dx,dx];have:=a0 (k0 oM);have:=a0 (k1 oM);have:=a0 (k2 oM);omega
  clear p0 p1 p2 p3 k0 k1 k2 hn;refine Zk7 ux a6.size g3 λw3 z b3 e4 g8 hz=>⟨rfl,?_⟩;have a8:AI w w3:=x1.Z (a6.A b3);have h8:=ux.len;have i5:z.length=pre.length:=by have:=e4.length_eq;simpa using this
  have c3:∀w',AI w w'->∀b,(b=true↔(z.map (·.1)).Nodup)->R b w':=λw' hx b hb=>by have h1:=hR w' hx;have:b=decide (pre.map (·.Y)).Nodup:=(by rw[ij,hb,fp];exact e4.nodup_iff);rwa [this]
  have a7:∀i (hi:i<z.length),∃ad,all.a=some ad/\∀w',AI w3 w'->se w' (ad.add (i*2)) [.string z[i].1]:=λi hi=>by
   rcases hz with rfl|⟨g,tail,c8,e3⟩
   .exact fu hi (Nat.not_lt_zero _)
   .exact⟨_,c8,λw' hx=>(tm.ld (k:=2) (λ_=>rfl) (e3.U hx) hi).pre rfl⟩
  have d1:∀{i j:Nat} (hi:i<z.length) (hj:j<z.length),i<j->A7 z[i].1 z[j].1<=0:=λhi hj f6=>gn.1 g8 _ _ hi hj f6;refine rn.Î (λm i w'=>∃k:Nat,i=(k:Int)/\1<=k/\m=z.length - k/\AI w3 w'/\(z.take k).Pairwise (λx y=>Ak x.1 y.1=true)) (z.length - 1) ⟨1,rfl,ga _,rfl,AI.refl _,?_⟩ λm i w4 g9 ⟨k,d7,h9,hm,x4,hP⟩ hn=>⟨λd8=>?_,λf4=>?_⟩
  .cases z with
   |nil=>exact List.Pairwise.nil
   |cons x r=>simp
  .subst d7;have b5:k<z.length:=oM;have ew:Aa ((k:Int) - 1)=((k - 1:Nat):Int):=by rw[Ai oM oM];omega
   rw[ew];obtain⟨ad,c8,f1⟩:=a7 k b5;obtain⟨e8,d5,f2⟩:=a7 (k - 1) oM;refine sh.drew λw5 x5=>⟨ad,⟨c8,oM,oM⟩,_,f1 _ (x4.Z x5),e8,⟨d5,oM,oM⟩,_,f2 _ (x4.Z x5),λhe=>?_,λg1=>?_⟩
   .refine c3 _ (a8.Z (x4.Z x5)) false ⟨nO,λh=>?_⟩;rw[ii,iv]at h;exact fu he.H (gn.1 h (k - 1) k oM b5 oM)
   .have d3:=d1 (i:=k - 1) (j:=k) oM b5 oM;have b4:Ak (z[k - 1]'oM).1 z[k].1=true:=JF d3 λe=>g1 e.H;refine hn (z.length - (k+1)) _ _ oM ⟨k+1,by rw[Ai oM oM];omega,oM,rfl,x4.Z x5,?_⟩;rw[dz b5,ji];refine⟨hP,lw _ _,λx hx y hy=>?_⟩;simp only[eu]at hy;subst hy;obtain⟨j,hj,rfl⟩:=gh.1 hx;rw[fk]at hj;rw[kf];by_cases f7:j=k - 1
    .subst f7;exact b4
    .have c9:j<(z.take k).length:=(by rwa [fk]);have f8:k - 1<(z.take k).length:=(by rw[fk];omega);have h2:=gn.1 hP j (k - 1) c9 f8 oM;rw[kf,kf]at h2;exact GP h2 b4
  .subst d7;refine c3 _ (a8.Z x4) true ⟨λ_=>?_,λ_=>rfl⟩;rw[ia oM]at hP;rw[ii,iv];exact hP.imp λh=>EG h
def zq(T:LN)(w:Qd)(a:LP)(cs:LV):Prop:=a.off=0/\a.spot=none/\w.heap[a.block]?=some (.cells cs.toArray T (0,0))
def zq.box{T:LN}(h:zq T w a cs):AT w a cs:=⟨T,h⟩
def zq.U{T:LN}(h:zq T w a cs)(hx:AI w w'):zq T w' a cs:=⟨h.1,h.2.1,(hx.block (lt_of_block h.2.2)).Z h.2.2⟩
def An.Û{t:LN}{k:Ä}(h:∀a w',AI w w'->zq t w' a cs->a.block=w.heap.size->w'.heap.size=w.heap.size+1->k a w'):An w cs t k:=λa w' ha hw=>by subst ha hw;exact h _ _ (AI.alloc _ _) ⟨rfl,rfl,heap_alloc_new w _⟩ rfl sI
def tj.Û{T:LN}{tf:LV}{k:Wp}(hb:zq T w a tf)(hl:cs.length=tf.length)(h:∀w',ur a.block w w'->w'.heap.size=w.heap.size->zq T w' a cs->k w'):rp w a cs k:=by
 obtain⟨ho,hs,hh⟩:=hb;obtain⟨b,of,sp⟩:=a;simp only at ho hs hh;subst ho hs;refine⟨_,T,hh,rfl,by simp[hl],h _ ⟨?_,rfl,rfl,rfl,λc hc a0=>setRow_other w b c _ a0⟩ ?_ ⟨rfl,rfl,?_⟩⟩
 .simp[World.setRow]
 .simp[World.setRow]
 .rw[setRow_heap w b tf.toArray _ T _ hh];have:tf.drop cs.length=[]:=by rw[hl];exact mq
  simp[D0,this]
def Č.lt{b:Nat}{l:LU}(h:Č b l w):b<w.heap.size:=by rcases h with⟨_,_,h,_⟩|⟨_,_,h,_⟩<;>exact lt_of_block h
def JL{b:Nat}{l m:LU}{k:Ã}(hB:Č b l w)(h0:w0.heap.size=b)(x0:AI w0 w)(hl:l.length+m.length<=140737488355328)
  (hk:∀w' n,AI w0 w'->Č b (l++m) w'->(∀T a cs,T≠5->a.block≠b->zq T w a cs->zq T w' a cs)->k (.tuple #[vi n,.nilIface]) w'):si prog 93 [.pointer (some ⟨b,0,none⟩),.string (B m)] w k:=by
 have h:=Any.Builder_WriteString_k {Tryz.ū with} PK b b (Lib.byteCells l) (B m) w hB (by rwa [Lib.byteCells_length,Af]) (by have:=x0.size;omega);refine h.O λe w' ⟨he,hb,a4,a5⟩=>⟨_,he,hk w' _ (x0.A (by rwa [h0])) (.inr ?_) λT a cs hT ha a0=>⟨a0.1,a0.2.1,a5 _ _ a0.2.2 (λe=>ha (jz e)) λc fz e=>?_⟩⟩
 .have e:Lib.byteCells l++Lib.strCells (B m)=Lib.byteCells (l++m):=by rw[Lib.strCells_eq,Fo];simp[Lib.byteCells]
  rw[e]at hb;exact hb
 .simp only[Obj.cells.injEq]at e;exact hT e.2.1
def L5:LN:=235
def Zh5{R:Sl->Wp}(hR:∀a' w',AI w w'->zq L5 w' a' [.string (B ym),.pointer (some a),.string (B ň),.pointer (some (a.add 1)),.string (B yw),.pointer (some (a.add 2)),.string (B Ŋ),.pointer (some (a.add 3))]->w.heap.size<=a'.block->R ⟨some a',4,4⟩ w'):Ll (some a) w R:=by unfold Ll;exact sh.drew λw1 x1=>⟨a,rfl,a,rfl,a,rfl,a,rfl,An.Û λa' w2 x2 hb a0 _=>hR a' w2 (x1.Z x2) hb (by have:=x1.size;omega)⟩
def mt(m:vu)(i:Nat):LU:=match i with
 |0=>Ü
 |1=>Ü++B1 ym m.sj
 |2=>(Ü++B1 ym m.sj)++B1 ň m.uo
 |3=>((Ü++B1 ym m.sj)++B1 ň m.uo)++B1 yw m.ut
 |_=>Ep m
def VA{e v:Sl}{R:Å}(ht:Í w)(hm:Gj m=true)(hd:IT rq w S d m.sj)(he:IT rq w S e m.uo)(ho:IT rq w S o m.ut)(hv:IT rq w S v m.ru)
  (hR:∀w',AI w w'->R (B (Ep m)) w'):IM d e o v w R:=by
 unfold IM;unfold Gj at hm;simp only[ep]at hm;obtain⟨⟨⟨h1,h2⟩,h3⟩,h4⟩:=hm;have n1:=BE h1;have n2:=BE h2;have n3:=BE h3;have n4:=BE h4;have l1:=DP (xo:=ym) dC λd hd=>(n1.2 d hd).1;have l2:=DP (xo:=ň) dC λd hd=>(n2.2 d hd).1;have l3:=DP (xo:=yw) dC λd hd=>(n3.2 d hd).1;refine An.intro λa w1 x1 hb _ _=>?_;intro a1 w2 d6 d1;subst d6;have x2:AI w1 w2:=d1▸AI.alloc _ _;have d5:Č w1.heap.size [] w2:=d1▸Ny w1;have t1:Í w1:=ht.U x1;have e9:ϻ=B Ü:=rfl;rw[e9];refine HY (m:=Ü) d5 rfl x2 dC λw3 g8 x3 c4=>⟨_,_,rfl,?_⟩;refine Ll.V (Zh5 (a:=a) λap w4 x4 e0 f7=>⟨_,rfl,?_⟩);have f9:=c4.lt;have b2:L5≠5:=by decide
 have f3:=x3.Z x4;have a5:Ü.length=8:=rfl;refine rn.up (N:=4) dC (λi w'=>AI w1 w'/\zq L5 w' ap [.string (B ym),.pointer (some a),.string (B ň),.pointer (some (a.add 1)),.string (B yw),.pointer (some (a.add 2)),.string (B Ŋ),.pointer (some (a.add 3))]/\Č w1.heap.size (mt m i) w') ⟨f3,e0,by simpa[mt]using c4.U x4⟩ λi w5 g9 hi ⟨x5,a4,c5⟩ hn=>⟨λe6=>?_,λg2=>?_⟩
 .have c8:i<4:=by have:((Sl.mk (some ap) 4 4).len:Int)=4:=rfl;omega
  obtain⟨wd,k,t,l,hp,e5,hs,e2,f0,e7,g4⟩:∃(wd:LU) (k:Nat) (t:Sl) (l:Ι),se w5 (ap.add (i*2)) [.string (B wd),.pointer (some (a.add k))]/\(∀w',AI w5 w'->se w' (a.add k) [t.v])/\IT rq w S t l/\Ax l=true/\wd.length<=8/\mt m (i+1)=mt m i++B1 wd l/\(mt m i).length<=1000000:=by
   have b6:i=0\/i=1\/i=2\/i=3:=oM;obtain rfl|rfl|rfl|rfl:=b6
   .exact⟨ym,0,d,m.sj,a4.box.at1 (k:=0) xR rfl,λw' hx=>hb.at1 (k:=0) (x5.Z hx) rfl,hd,h1,by decide,rfl,by simp[mt,a5]⟩
   .exact⟨ň,1,e,m.uo,a4.box.at1 (k:=2) xR rfl,λw' hx=>hb.at1 (k:=1) (x5.Z hx) rfl,he,h2,by decide,rfl,by simp[mt,a5];omega⟩
   .exact⟨yw,2,o,m.ut,a4.box.at1 (k:=4) xR rfl,λw' hx=>hb.at1 (k:=2) (x5.Z hx) rfl,ho,h3,by decide,rfl,by simp[mt,a5];omega⟩
   .exact⟨Ŋ,3,v,m.ru,a4.box.at1 (k:=6) xR rfl,λw' hx=>hb.at1 (k:=3) (x5.Z hx) rfl,hv,h4,by decide,rfl,by simp[mt,a5];omega⟩
  rw[e7]at hn;generalize mt m i=t0 at*;refine⟨ap,⟨rfl,oM,e6⟩,_,_,hp,An.Û λa8 w6 x6 d8 f4 _=>tj.Û d8 rfl λw7 b7 _ c6=>?_⟩;have b0:AI w5 w7:=b7.U x6 oM;have d2:=x5.Z b0;have h7:=x1.Z d2;refine⟨_,c6.box.at1 (k:=1) xR rfl,_,rfl,t,e5 _ b0,?_⟩;have g6:=hs.len;obtain⟨g1,d0⟩:=BE e2;refine rn.up hs.max (λj w'=>AI w1 w'/\zq L5 w' a8 [.string (B wd),.pointer (some (a.add k))]/\zq L5 w' ap [.string (B ym),.pointer (some a),.string (B ň),.pointer (some (a.add 1)),.string (B yw),.pointer (some (a.add 2)),.string (B Ŋ),.pointer (some (a.add 3))]/\Č w1.heap.size (t0++B1 wd (l.take j)) w') ⟨d2,c6,a4.U b0,by simpa[B1]using c5.U b0⟩ λj w8 g0 hj ⟨x8,c7,b5,hI⟩ e8=>⟨λc9=>?_,λf8=>?_⟩
  .have a7:j<l.length:=oM;obtain⟨ad,tr,d7,_,g5,hr,hc⟩:=BH hs a7;have e1:=d0 _ (fm a7);have q1:=DP f0 (l:=l.take j) λd hd=>(d0 d (lz hd)).1;rw[fk,ky oM]at q1;have q2:=CQ e1.1;have q3:=O5 l[j].range;have b8:=x1.Z x8;refine⟨ad,⟨d7,oM,c9⟩,_,tr,hc _ b8,An.intro λa9 w9 x9 d9 f6 _=>tj.intro d9 sI λf1 d4 _ b4=>sh.drew λh0 b9=>?_⟩;have d3:AI w8 f1:=d4.U x9 oM;have a0:=d3.Z b9;refine⟨_,c7.box.at0 a0 rfl,?_⟩;rw[B4];refine⟨by rw[Af,AL,Au];simp;omega,_,b4.at0 b9 rfl,?_⟩;rw[EH l[j].Y,Ba,B4];refine⟨by rw[Af,Af,Au];simp;omega,by rw[Af,AL,Au];simp;omega,tr,b4.at1 b9 rfl,tc.intro (Jo.V (WV (ht.U (b8.Z a0)) (hr.U (b8.Z a0)) λh5 a6=>⟨a6,_,rfl,?_⟩))⟩;rw[Ba,B4];have g3:(((((wd++[32])++l[j].Y.toList)++[32])++Cd l[j].range)++[10]).length<=2030:=(by simp;omega);refine⟨by rw[Af,Af,Au];simp;omega,by rw[Af,AL,Au];simp;omega,JL (m:=(((((wd++[32])++l[j].Y.toList)++[32])++Cd l[j].range)++[10])) (hI.U (a0.Z a6)) rfl (x8.Z (a0.Z a6)) (by rw[dx];omega) λh6 g7 f2 c3 ry=>⟨_,_,rfl,e8 a7 _ ⟨f2,ry _ _ _ b2 (by have:=a4.box.lt;omega) (c7.U (a0.Z a6)),ry _ _ _ b2 oM (b5.U (a0.Z a6)),?_⟩⟩⟩
   .rwa [dz a7,Qg,Ha,<-fh]
  .have e4:j=l.length:=oM;rw[e4,fe]at hI;exact hn c8 _ ⟨x8,b5,hI⟩
 .have e3:i=4:=by have:((Sl.mk (some ap) 4 4).len:Int)=4:=rfl;omega
  subst e3;exact Nx c5 rfl x5 λw9 x9=>⟨_,rfl,hR _ (x1.Z x9)⟩
def Oq{e v:Sl}(ht:Í w)(hS:Old S w)(hd:IT rq w S d m.sj)(he:IT rq w S e m.uo)(ho:IT rq w S o m.ut)(hv:IT rq w S v m.ru)
  (hR:∀w',AI w w'->R (AV m) w'):Gk d e o v w R:=by
 refine An.intro λa w1 x1 hb _ _=>⟨d,hb.at0 xR rfl,e,hb.at1 (k:=1) xR rfl,o,hb.at1 (k:=2) xR rfl,?_⟩;refine IL.V (VI (hS.U x1.size) (hd.U x1) (he.U x1) (ho.U x1) λw2 x2=>⟨_,rfl,v,λ_=>hb.at1 (k:=3) (r:=[]) x2 rfl,?_⟩);refine No.intro (BK m.ru [] []) (λ_ q hq=>IL.V (VI (hS.U (x1.Z x2).size) (hv.U (x1.Z x2)) (IT.nil trivial) (IT.nil trivial) λw' hx=>⟨_,rfl,hq _ hx⟩)) λt3 w3 x3 a4=>py ⟨d,e,o,v,λ_=>hb.at0 (r:=[]) (x2.Z x3) rfl,?_⟩;have a0:=(x1.Z x2).Z x3;have e1:(BK m.sj m.uo m.ut&&t3)=(BK m.sj m.uo m.ut&&BK m.ru [] []):=by
  cases h:BK m.sj m.uo m.ut
  .rfl
  .rw[a4 h]
 rw[e1];have hl:(BK m.sj m.uo m.ut&&BK m.ru [] [])=true->Gj m=true:=λh=>by rw[VJ,QU]at h;simp only[ep]at h;unfold Gj;simp[h]
 refine No.intro (B (Ep m)) (λhg q hq=>IM.V (VA (ht.U a0) (hl hg) (hd.U a0) (he.U a0) (ho.U a0) (hv.U a0) λw' hx=>⟨_,rfl,hq _ hx⟩)) λt4 w4 x4 a5=>?_;have e2:((BK m.sj m.uo m.ut&&BK m.ru [] [])&&decide ((t4.size:Int)<=4096))=AV m:=by
  rw[Zgf];cases h:(BK m.sj m.uo m.ut&&BK m.ru [] [])
  .rfl
  .rw[a5 h,Af,iu,iu,ke];omega
 rw[e2];exact hR _ (a0.Z x4)
def Ġ(q:IS):Nat->Lb->St->Ĩ->Prop
 |0,l,s,r=>q.step l s=r/\∀l1 s1,r≠ .V l1 s1
 |n+1,l,s,r=>∃l1 s1,q.step l s= .V l1 s1/\Ġ q n l1 s1 r
def End.steps{q:IS}{l:Lb}{s:St}{r:Ĩ}(h:q.End l s r):∃n,Ġ q n l s r:=by
 induction h with
 |done h=>exact⟨0,h,(λ_ _ h=>by cases h)⟩
 |err h=>exact⟨0,h,(λ_ _ h=>by cases h)⟩
 |step h _ ih=>obtain⟨n,hn⟩:=ih;exact⟨n+1,_,_,h,hn⟩
def Ġ.V{q:IS}{l l1:Lb}{s s1:St}{r:Ĩ}(h:Ġ q n l s r)(hs:q.step l s= .V l1 s1):∃m,m<n/\Ġ q m l1 s1 r:=by
 cases n with
 |zero=>obtain⟨h1,h2⟩:=h;rw[hs]at h1;exact fu h1.H (h2 _ _)
 |succ n=>obtain⟨l2,s2,h1,h2⟩:=h;rw[hs]at h1;cases h1;exact⟨n,om n,h2⟩
def Ġ.fin{q:IS}{l:Lb}{s:St}{r r':Ĩ}(h:Ġ q n l s r)(hs:q.step l s=r')(hr:∀l1 s1,r'≠ .V l1 s1):r=r':=by
 cases n with
 |zero=>rw[<-hs];exact h.1.H
 |succ n=>obtain⟨l2,s2,h1,_⟩:=h;rw[hs]at h1;exact fu h1 (hr _ _)
def Ĵ.Î{α β:Type}{first:(Nat->α->β->Wp)->Prop}{pass:Nat->α->β->Qd->(Nat->α->β->Wp)->Prop}(J:Nat->Nat->α->β->Wp)(h0:first λl a b w=>∃n,J n l a b w)
  (hs:∀n l a b w a0,J n l a b w->(∀m l' a' b' w',m<n->J m l' a' b' w'->a0 l' a' b' w')->pass l a b w a0):Ĵ first pass:=
 ⟨λl a b w=>∃n,J n l a b w,λl a b w=>IF λn=>J n l a b w,h0,λl a b w ⟨n,h⟩=>hs _ l a b w _ (IG (p:=λn=>J n l a b w) h).1 λm l' a' b' w' hm hJ=>⟨⟨m,hJ⟩,oq ((IG (p:=λn=>J n l' a' b' w') hJ).2 m hJ) hm⟩⟩
def QM:Lb->Nat
 | .next=>1
 | .Ñ=>0
 | .back=>2
def A4(L:Κ)(m:vu)(uo:Bool)(OF:Η)(D N:Int):Ĩ:=
 if AV m=true/\1<=D/\D<=4096/\1<=N/\N<=128 then IS.Ņ ⟨L,m,uo,OF,D.toNat,N.toNat⟩else .err 1
def yg.Xcn{g:Nat}{stk':Sl}{s:St}{l1:Ρ}(h:yg w lo g stk nds ahd ws Q s)(e1:stk'.a=stk.a)(h1:rl Œ 130 w lo Q stk' l1):yg w lo g stk' nds ahd ws Q {s with stack:=l1}:=
 ⟨h1,h.tn,h.AS,h.sx,h.q,λa b ha hb=>h.a1 a b (e1▸ha) hb,λa b ha hb=>h.a2 a b (e1▸ha) hb,h.a3,λa ha=>h.o1 a (e1▸ha),h.o2,h.o3⟩
structure Xav(w0:Qd)(q:IS)(a1 a3:LP)(D N d3 d4:Int)(lo:Nat)(K:K7)(w:Qd):Prop where
 wl:w0.heap.size<=lo
 U:AI w0 w
 cs:Cs w lo q K
 b1:AT w a1 [vi D,vi N,vi d3,vi d4]
 l1:a1.block<lo
 b3:AT w a3 [Sl.nil.v]
 l3:a3.block<lo
 n3:w0.heap.size<=a3.block
def Xav.below{q:IS}{a1 a3:LP}{N:Int}{K:K7}(h:Xav w0 q a1 a3 D N d3 d4 lo K w)(hb:Below lo w w'):Xav w0 q a1 a3 D N d3 d4 lo K w':=
 ⟨h.wl,h.U.A (Below.O hb h.wl),h.cs.below hb,h.b1.below hb h.l1,h.l1,h.b3.below hb h.l3,h.l3,h.n3⟩
def Tf(w0:Qd)(q:IS)(a1 a3:LP)(D N d3 d4:Int)(n l:Nat)(vs:Wd)(d:Int)(w:Qd):Prop:=
 ∃lo sp K lb s,l=QM lb/\vs=some sp/\d=(s.dec:Int)/\Xav w0 q a1 a3 D N d3 d4 lo K w/\CX w lo sp K s/\zr q lb s/\Ġ q n lb s q.Ņ
def Zkn{uo:Bool}{OF:Η}{SA:Nat->Prop}{cp:LP}{rr:Nat}{mD yc ye Ó pS:Sl}{N:Int}{R:Sl->Int->À}(ht:Í w0)(m5:Old SA w0)
  (i7:yz w0 S cp rr L) (hS:Old S w0) (s9:rr<w0.heap.size) (s4:cp.block<w0.heap.size) (hd:IT rq w0 SA mD m.sj) (he:IT rq w0 SA yc m.uo) (ho:IT rq w0 SA ye m.ut) (hv:IT rq w0 SA Ó m.ru) (hp:IT uy w0 SA pS OF)
  (f9:∀e w',A4 L m uo OF D N= .err e->AI w0 w'->R Sl.nil 0 e w')
  (f8:∀ns t nds w',A4 L m uo OF D N= .done ns t->AI w0 w'->IT ud w' (λb=>w0.heap.size<=b/\b<w'.heap.size) nds ns->R nds (t:Int) 0 w'):
  IY (some cp) mD yc ye Ó uo pS D N d3 d4 w0 R:=by
 unfold IY;have s6:=Al;have a7:vl L:=i7.Ú;refine An.intro λa wa xa ha s3 _=>An.intro λa1 wb xb e8 r5 _=>An.intro λa3 wc xc j6 r3 _=>?_;have e5:=xa.Z (xb.Z xc);have o7:=xb.Z xc;have f0:=xa.size;have t3:=xb.size;have t4:=xc.size;have s5:=j6.lt;have d2:∀n r p,(BG L n r p).length<=1000:=λn r p=>fl (TO a7 n r p) oM;generalize hq:(⟨L,m,uo,OF,D.toNat,N.toNat⟩:IS)=q;have o0:q.L=L:=by rw[<-hq]
 have s8:q.N=N.toNat:=by rw[<-hq]
 have s7:q.D=D.toNat:=by rw[<-hq]
 rw[<-o0]at a7 d2;refine Ĵ.Î (λn l vs d w=>(AV m=true/\1<=D/\D<=4096/\1<=N/\N<=128)/\Tf w0 q a1 a3 D N d3 d4 n l vs d w) ?first ?pass
 case first=>
  refine py ⟨mD,yc,ye,Ó,λ_=>ha.at0 (r:=[]) o7 rfl,?_⟩;refine No.intro (AV m) (λ_ q' p9=>Gk.V (Oq (ht.U e5) (m5.U e5.size) (hd.U e5) (he.U e5) (ho.U e5) (hv.U e5) λw' hx=>⟨_,rfl,p9 _ hx⟩)) λt1 wd xd q6=>?_;have l9:=e5.Z xd;have h8:=xc.Z xd;have t5:=l9.size;have r8:=xd.size;have o4:=q6 rfl;subst o4;refine py ⟨D,λ_=>e8.at0 h8 rfl,py ⟨D,λ_=>e8.at0 h8 rfl,py ⟨N,λ_=>e8.at1 (k:=1) h8 rfl,py ⟨N,λ_=>e8.at1 (k:=1) h8 rfl,λi5=>?_,λg0=>?_⟩⟩⟩⟩
  .have p7: ¬(AV m=true/\1<=D/\D<=4096/\1<=N/\N<=128):=λ⟨h1,h2,h3,h4,h5⟩=>(by rw[h1]at i5;simp at i5;omega);refine tj.intro (j6.U xd) sI λwe be _ d7=>⟨Sl.nil,d7.at0 (r:=[]) xR rfl,f9 1 we ?_ (be.U l9 oM)⟩;unfold A4;rw[fb p7]
  .have e9:AV m=true/\1<=D/\D<=4096/\1<=N/\N<=128:=(by simp at g0;obtain⟨⟨⟨⟨h1,h2⟩,h3⟩,h4⟩,h5⟩:=g0;exact⟨h1,oM,oM,oM,oM⟩);have e0:A4 L m uo OF D N=q.Ņ:=(by unfold A4;rw[fo e9,hq]);refine⟨mD,yc,ye,Ó,ha.at0 (r:=[]) (o7.Z xd) rfl,?_⟩;refine An.ux (E:=ud) (x:=ta) ⟨by show(0:Nat)<=maxLen;omega,Sl.nil,Sl.nil,rfl,IT.nil trivial,IT.nil trivial⟩ λm1 wf xf j1 s0=>An.intro λsp w xg a6 r9 _=>?_;have t6:=xf.size;have t7:=xg.size;have m0:=xf.Z xg;have e6:=l9.Z m0;generalize r7:wd.heap.size=lo at*;have o6:lo<=w.heap.size:=oM;have hm:q.m=m:=(by rw[<-hq]);have m8:q.uo=uo:=(by rw[<-hq]);have k5:q.OF=OF:=(by rw[<-hq]);have g8:∀b,SA b->b<lo:=λb hb=>(by have:=m5 b hb;omega);have a5:Cs w lo q ⟨cp,mD,yc,ye,Ó,uo,pS⟩:=⟨⟨S,rr,by rw[o0];exact i7.U e6,λb hb=>by have:=hS b hb;omega,oM,by show cp.block<lo;omega⟩,by rw[hm];exact(hd.U e6).O g8,by rw[hm];exact(he.U e6).O g8,by rw[hm];exact(ho.U e6).O g8,by rw[hm];exact(hv.U e6).O g8,by rw[k5];exact(hp.U e6).O g8,m8.H,o6,by rw[hm];exact Zgi e9.1⟩;generalize hK:(⟨cp,mD,yc,ye,Ó,uo,pS⟩:K7)=K at a5;have m4:Xav w0 q a1 a3 D N d3 d4 lo K w:=⟨oM,e6,a5,e8.U (h8.Z m0),by have:=e8.lt;omega,(j6.U xd).U m0,oM,oM⟩;have c3:lo<=sp.block:=oM;have i9:∀{α:Type} {E:xh α} {T:LN},rl E T w lo rz Sl.nil ([]:List α):=λ{α E T}=>rl.nil _ _;have i2:yg w lo sp.block Sl.nil ⟨some m1,1,1⟩ Sl.nil Sl.nil rz ⟨[],[ta],[],[],0,0⟩:=⟨i9,j1.U xg,i9,IT.nil trivial,λ_ h=>h.F,(λ_ _ h=>by cases h),(λ_ _ h=>by cases h),(λ_ _ _ h=>by cases h),(λ_ h=>by cases h),λad c9 e=>(by simp only[ff]at c9;subst c9;have:=(j1.block rfl).2.1;omega),(λ_ h=>by cases h)⟩;have i6:AT w sp (CT K Sl.nil ⟨some m1,1,1⟩ Sl.nil Sl.nil 0):=(by rwa [<-hK]);refine H2.V (PG (s:=⟨[],[ta],[],[],0,0⟩) a5 ⟨_,_,_,_,_,i6,c3,i2⟩ (by show 0<1;omega) λwh m3 g7=>⟨rfl,?_⟩);have b5:=m4.below m3;clear a6 i6 i2 a5 m4;obtain⟨n,a8⟩:=End.steps (Zkl (q:=q) oM);have hI:zr q .next q.start:=zr.start oM;have hI:ñ q 0 q.start:=hI;have g7:CX wh lo sp K q.start:=g7;obtain⟨stk,nds,ahd,ws,Q,a6,e7,h0⟩:=g7;have a5:=b5.cs;have k7:=h0.stack.len;have q8:=h0.sx.len;have j0:q.start.stack.length<=4096:=im _;have hg:=IH a6;have i3:=hI.f;have l7:Aa ((stk.len:Int) - (q.start.first:Int))=((q.start.stack.length - q.start.first:Nat):Int):=(by rw[Ai oM oM];omega);have hN:q.N<=128:=oM;have hD:q.D<=4096:=oM;have g3:∀w',Below lo wh w'->se w' (a1.add 1) [vi (q.N:Int)]:=λw' hb=>(by have e:(q.N:Int)=N:=oM;rw[e];exact(b5.below hb).b1.at1 (k:=1) xR rfl);have d6:∀(e:Int) w',Below lo wh w'->q.Ņ= .err e->rp w' a3 [Sl.nil.v] λvw=>∃r:Sl,se vw a3 [r.v]/\R r 0 e vw:=λe w' hb hr=>(by have h:=b5.below hb;exact tj.intro h.b3 sI λwe be _ d7=>⟨Sl.nil,d7.at0 (r:=[]) xR rfl,f9 e we (e0.Z hr) (be.U h.U h.n3)⟩);have e3:∀ns t nds w' (Q2:Nat->Prop),Below lo wh w'->rl ud 56 w' lo Q2 nds ns->(∀b,Q2 b->lo<=b)->ns.length<=128->q.Ņ= .done ns t->rp w' a3 [Sl.v nds] λvw=>∃r:Sl,se vw a3 [r.v]/\R r (t:Int) 0 vw:=λns t nds w' Q2 hb ho hQ hl hr=>by
    have h:=b5.below hb;have k6:=ho.I (by show ns.length*88<=Ab;unfold Ab;omega) oM;have h3:=h.l3;have n2:=h.wl;refine tj.intro h.b3 sI λwe be _ d7=>⟨nds,d7.at0 (r:=[]) xR rfl,f8 ns t nds we (e0.Z hr) (be.U h.U h.n3) ?_⟩;have q5:=be.1;have g1:∀b,(Q2 b\/∃ad,nds.a=some ad/\b=ad.block)->lo<=b/\b<w'.heap.size:=λb hb=>by
     rcases hb with hb|⟨ad,c9,rfl⟩
     .exact⟨hQ b hb,ho.lt b hb⟩
     .exact⟨(ho.block c9).1,(ho.block c9).2.1⟩
    exact(k6.J be λh=>by have:=g1 _ h;omega).O λb hb=>by have:=g1 b hb;omega
   have NX:∀(lb:Lb) (s':St) w' m',m'<n->Below lo wh w'->CX w' lo sp K s'->zr q lb s'->Ġ q m' lb s' q.Ņ->∃n,(AV m=true/\1<=D/\D<=4096/\1<=N/\N<=128)/\Tf w0 q a1 a3 D N d3 d4 n (QM lb) (some sp) (s'.dec:Int) w':=λlb s' w' m' hm hb f0 hi hE=>⟨m',e9,lo,sp,K,lb,s',rfl,rfl,rfl,b5.below hb,f0,hi,hE⟩;refine sh.drew λw1 x1=>⟨stk,AT.at1 a6 (k:=7) x1 rfl,(q.start.first:Int),AT.at1 a6 (k:=11) x1 rfl,ws,AT.at1 a6 (k:=10) x1 rfl,?_⟩;rw[l7];have r2:=x1.size;refine⟨λn4=>?_,λn0=>?_⟩
   .have c8:q.start.stack.length - q.start.first<q.start.ws.length:=oM;obtain⟨j2,tw,l5,_,g9,l0,l6⟩:=XX (h0.sx) c8;have a0:q.step .next q.start= .V .Ñ {q.start with stack:=q.start.stack++[q.ch q.start.AS.length (th q.start.ns q.start.AS.length) q.start.ws[q.start.stack.length - q.start.first]]}:=(by rw[IS.step,dw c8]);generalize q9:q.start.ws[q.start.stack.length - q.start.first]=wt at*;have b2:=zr.step (l:=.next) (l':=.Ñ) a7 d2 hI a0;refine sh.drew λw2 x2=>⟨stk,AT.at1 a6 (k:=7) (x1.Z x2) rfl,ws,AT.at1 a6 (k:=10) (x1.Z x2) rfl,j2,⟨l5,oM,oM⟩,_,_,tw,by rw[fa];exact l6 _ (x1.Z x2),?_⟩;have b0:=x1.Z x2;have e2:=a5.below (b0.uj lo a5.le);have q0:=b0.size;refine tc.intro (Jb.V (TY (s:=q.start) (wt:=wt) (rs:=tw) e2 ⟨stk,nds,ahd,ws,Q,a6.U b0,c3,h0.U b0⟩ hI.a g9 (SR:=Q) (λb hb=>by have:=h0.tn.lt b hb;omega) (l0.U b0) λv w3 x3 hv=>⟨x3,_,_,v,_,_,rfl,An.intro λa4 w4 x4 j7 m6 _=>?_⟩));have h9:=x3.Z x4;have d8:=b0.Z h9;have q1:=x3.size;have q3:=x4.size;have h4:=(h0.U b0).grow h9 e2.le oM;refine yg.Xbc (x:=q.ch q.start.AS.length (th q.start.ns q.start.AS.length) wt) h4 Tx (by have:=e2.le;omega) oM ⟨g9,v,rfl,(hv.U x4).O λb hb=>.inr ⟨oM,oM⟩⟩ j7.se oM λr' w5 h5 c5 k3=>?_;have j8:AT w5 sp (CT K stk nds ahd ws q.start.first):=(a6.U d8).yf k3 λad c9 e=>h0.o1 ad c9 e.H;have q4:=c5.size;refine rp.intro (o:=7) j8 (by show 8<=12;omega) λw6 b6 _ j9=>?_;have f3:Below lo wh w6:=Below.Z (Below.Z (d8.uj lo a5.le) c5) (b6.below (by have:=a5.le;omega) c3);obtain⟨m',c6,b8⟩:=a8.V a0;exact NX .Ñ {q.start with stack:=q.start.stack++[q.ch q.start.AS.length (th q.start.ns q.start.AS.length) wt]} w6 m' c6 f3 ⟨r',nds,ahd,ws,_,j9,c3,h5.J b6⟩ b2 b8
   .have b4:q.start.ws[q.start.stack.length - q.start.first]?=none:=jf oM;refine⟨(q.N:Int),g3 _ (x1.uj lo a5.le),?_⟩;have j3:=a5.below (x1.uj lo a5.le);refine Ja.V (TE (s:=q.start) j3 ⟨stk,nds,ahd,ws,Q,a6.U x1,c3,h0.U x1⟩ hI hN hD (λw2 hb x2=>⟨_,rfl,λ_=>?_,λh=>fu rfl h⟩) (λw2 hb c4=>⟨_,rfl,λh=>by omega,λ_=>⟨λ_=>?_,λh=>fu rfl h⟩⟩) λw2 ns' hb c4 g4=>⟨_,rfl,λh=>by omega,λ_=>⟨λh=>by omega,λ_=>sh.drew λw3 x3=>?_⟩⟩)
    .have a0:q.step .next q.start= .V .back (q.start):=(by rw[IS.step,b4];dsimp only;rw[hb]);obtain⟨m',c6,b8⟩:=a8.V a0;have b0:=x1.Z x2;exact NX .back q.start w2 m' c6 (b0.uj lo a5.le) ⟨stk,nds,ahd,ws,Q,a6.U b0,c3,h0.U b0⟩ (zr.step (l:=.next) (l':=.back) a7 d2 hI a0) b8
    .have a0:q.step .next q.start= .err 32:=(by rw[IS.step,b4];dsimp only;rw[hb]);exact d6 32 w2 (Below.Z (x1.uj lo a5.le) c4) (a8.fin a0 (λ_ _ h=>by cases h))
    .obtain⟨h6,b9,d0,l8,Q2,d5,e7,h2⟩:=g4;have d1:Below lo wh w3:=Below.Z (Below.Z (x1.uj lo a5.le) c4) (x3.uj lo (by have:=a5.le;have:=c4.size;omega));have f7:d0.len=((q.start.AS++[q.start.ns.length]).map Int.ofNat).length:=h2.AS.len;have n8:b9.len=ns'.length:=h2.tn.len;rw[eh,dx,il]at f7;refine⟨d0,AT.at1 d5 (k:=9) x3 rfl,b9,AT.at1 d5 (k:=8) x3 rfl,λm9=>?_,λn7=>?_⟩
     .have a0:q.step .next q.start= .done ns' q.start.dec:=(by rw[IS.step,b4];dsimp only;rw[hb];dsimp only;rw[fo oM]);have n9:=(Nw hb hI.n).2;refine⟨b9,AT.at1 d5 (k:=8) x3 rfl,?_⟩;exact e3 ns' q.start.dec b9 w3 Q2 d1 (h2.tn.U x3) (λb hb=>(h2.q b hb).1) oM (a8.fin a0 (λ_ _ h=>by cases h))
     .have a0:q.step .next q.start= .V .next {q.start with ns:=ns',AS:=q.start.AS++[q.start.ns.length],ws:=q.sx ns' (q.start.AS.length+1),first:=q.start.stack.length}:=(by rw[IS.step,b4];dsimp only;rw[hb];dsimp only;rw[fb oM]);obtain⟨m',c6,b8⟩:=a8.V a0;have b2:=zr.step (l:=.next) (l':=.next) a7 d2 hI a0;refine H2.V (PG (a5.below d1) ⟨h6,b9,d0,l8,Q2,d5.U x3,e7,h2.U x3⟩ b2.a λw4 f2 g5=>⟨rfl,?_⟩);have e1:(q.start.AS++[q.start.ns.length]).length=q.start.AS.length+1:=(by rw[dx,il]);refine NX .next {q.start with ns:=ns',AS:=q.start.AS++[q.start.ns.length],ws:=q.sx ns' (q.start.AS.length+1),first:=q.start.stack.length} w4 m' c6 (Below.Z d1 f2) ?_ b2 b8;rwa [<-e1]
 case pass=>
  intro n l vs d w r0 ⟨e9,lo,sp,K,lb,s,k0,k9,p4,b5,f0,hI,a8⟩ hn;subst k9 p4;have e0:A4 L m uo OF D N=q.Ņ:=by unfold A4;rw[fo e9,hq]
  obtain⟨stk,nds,ahd,ws,Q,a6,c3,h0⟩:=f0;have a5:=b5.cs;have k7:=h0.stack.len;have q8:=h0.sx.len;have hg:=IH a6;have hN:q.N<=128:=oM;have hD:q.D<=4096:=oM;have g3:∀w',Below lo w w'->se w' (a1.add 1) [vi (q.N:Int)]:=λw' hb=>by have e:(q.N:Int)=N:=oM;rw[e];exact(b5.below hb).b1.at1 (k:=1) xR rfl
  have d6:∀(e:Int) w',Below lo w w'->q.Ņ= .err e->rp w' a3 [Sl.nil.v] λvw=>∃r:Sl,se vw a3 [r.v]/\R r 0 e vw:=λe w' hb hr=>by have h:=b5.below hb;exact tj.intro h.b3 sI λwe be _ d7=>⟨Sl.nil,d7.at0 (r:=[]) xR rfl,f9 e we (e0.Z hr) (be.U h.U h.n3)⟩
  have e3:∀ns t nds w' (Q2:Nat->Prop),Below lo w w'->rl ud 56 w' lo Q2 nds ns->(∀b,Q2 b->lo<=b)->ns.length<=128->q.Ņ= .done ns t->rp w' a3 [Sl.v nds] λvw=>∃r:Sl,se vw a3 [r.v]/\R r (t:Int) 0 vw:=λns t nds w' Q2 hb ho hQ hl hr=>by
   have h:=b5.below hb;have k6:=ho.I (by show ns.length*88<=Ab;unfold Ab;omega) oM;have h3:=h.l3;have n2:=h.wl;refine tj.intro h.b3 sI λwe be _ d7=>⟨nds,d7.at0 (r:=[]) xR rfl,f8 ns t nds we (e0.Z hr) (be.U h.U h.n3) ?_⟩;have q5:=be.1;have g1:∀b,(Q2 b\/∃ad,nds.a=some ad/\b=ad.block)->lo<=b/\b<w'.heap.size:=λb hb=>by
    rcases hb with hb|⟨ad,c9,rfl⟩
    .exact⟨hQ b hb,ho.lt b hb⟩
    .exact⟨(ho.block c9).1,(ho.block c9).2.1⟩
   exact(k6.J be λh=>by have:=g1 _ h;omega).O λb hb=>by have:=g1 b hb;omega
  have NX:∀(lb:Lb) (s':St) w' m',m'<n->Below lo w w'->CX w' lo sp K s'->zr q lb s'->Ġ q m' lb s' q.Ņ->r0 (QM lb) (some sp) (s'.dec:Int) w':=λlb s' w' m' hm hb f0 hi hE=>hn m' _ _ _ _ hm ⟨e9,lo,sp,K,lb,s',rfl,rfl,rfl,b5.below hb,f0,hi,hE⟩;cases lb with
  |next=>
   have hI:ñ q 0 s:=hI;have j0:s.stack.length<=4096:=(by have:=hI.k;have:=hI.d;omega);have i3:=hI.f;have l7:Aa ((stk.len:Int) - (s.first:Int))=((s.stack.length - s.first:Nat):Int):=(by rw[Ai oM oM];omega);subst k0;refine⟨λ_=>?_,λh=>fu h dC,λh=>fu h dC⟩;refine sh.drew λw1 x1=>⟨sp,rfl,stk,AT.at1 a6 (k:=7) x1 rfl,sp,rfl,(s.first:Int),AT.at1 a6 (k:=11) x1 rfl,sp,rfl,ws,AT.at1 a6 (k:=10) x1 rfl,?_⟩;rw[l7];have r2:=x1.size;refine⟨λn4=>?_,λn0=>?_⟩
   .have c8:s.stack.length - s.first<s.ws.length:=oM;obtain⟨j2,tw,l5,_,g9,l0,l6⟩:=XX (h0.sx) c8;have a0:q.step .next s= .V .Ñ {s with stack:=s.stack++[q.ch s.AS.length (th s.ns s.AS.length) s.ws[s.stack.length - s.first]]}:=(by rw[IS.step,dw c8]);generalize q9:s.ws[s.stack.length - s.first]=wt at*;have b2:=zr.step (l:=.next) (l':=.Ñ) a7 d2 hI a0;refine sh.drew λw2 x2=>⟨sp,rfl,stk,AT.at1 a6 (k:=7) (x1.Z x2) rfl,sp,rfl,ws,AT.at1 a6 (k:=10) (x1.Z x2) rfl,j2,⟨l5,oM,oM⟩,_,_,tw,by rw[fa];exact l6 _ (x1.Z x2),?_⟩;have b0:=x1.Z x2;have e2:=a5.below (b0.uj lo a5.le);have q0:=b0.size;refine tc.intro (Jb.V (TY (s:=s) (wt:=wt) (rs:=tw) e2 ⟨stk,nds,ahd,ws,Q,a6.U b0,c3,h0.U b0⟩ hI.a g9 (SR:=Q) (λb hb=>by have:=h0.tn.lt b hb;omega) (l0.U b0) λv w3 x3 hv=>⟨x3,_,_,v,_,_,rfl,An.intro λa4 w4 x4 j7 m6 _=>?_⟩));have h9:=x3.Z x4;have d8:=b0.Z h9;have q1:=x3.size;have q3:=x4.size;have h4:=(h0.U b0).grow h9 e2.le oM;refine yg.Xbc (x:=q.ch s.AS.length (th s.ns s.AS.length) wt) h4 Tx (by have:=e2.le;omega) oM ⟨g9,v,rfl,(hv.U x4).O λb hb=>.inr ⟨oM,oM⟩⟩ j7.se oM λr' w5 h5 c5 k3=>?_;have j8:AT w5 sp (CT K stk nds ahd ws s.first):=(a6.U d8).yf k3 λad c9 e=>h0.o1 ad c9 e.H;have q4:=c5.size;refine⟨sp,rfl,?_⟩;refine rp.intro (o:=7) j8 (by show 8<=12;omega) λw6 b6 _ j9=>?_;have f3:Below lo w w6:=Below.Z (Below.Z (d8.uj lo a5.le) c5) (b6.below (by have:=a5.le;omega) c3);obtain⟨m',c6,b8⟩:=a8.V a0;exact NX .Ñ {s with stack:=s.stack++[q.ch s.AS.length (th s.ns s.AS.length) wt]} w6 m' c6 f3 ⟨r',nds,ahd,ws,_,j9,c3,h5.J b6⟩ b2 b8
   .have b4:s.ws[s.stack.length - s.first]?=none:=jf oM;refine⟨(q.N:Int),g3 _ (x1.uj lo a5.le),?_⟩;have j3:=a5.below (x1.uj lo a5.le);refine Ja.V (TE (s:=s) j3 ⟨stk,nds,ahd,ws,Q,a6.U x1,c3,h0.U x1⟩ hI hN hD (λw2 hb x2=>⟨_,rfl,λ_=>?_,λh=>fu rfl h⟩) (λw2 hb c4=>⟨_,rfl,λh=>by omega,λ_=>⟨λ_=>?_,λh=>fu rfl h⟩⟩) λw2 ns' hb c4 g4=>⟨_,rfl,λh=>by omega,λ_=>⟨λh=>by omega,λ_=>sh.drew λw3 x3=>?_⟩⟩)
    .have a0:q.step .next s= .V .back (s):=(by rw[IS.step,b4];dsimp only;rw[hb]);obtain⟨m',c6,b8⟩:=a8.V a0;have b0:=x1.Z x2;exact NX .back s w2 m' c6 (b0.uj lo a5.le) ⟨stk,nds,ahd,ws,Q,a6.U b0,c3,h0.U b0⟩ (zr.step (l:=.next) (l':=.back) a7 d2 hI a0) b8
    .have a0:q.step .next s= .err 32:=(by rw[IS.step,b4];dsimp only;rw[hb]);exact d6 32 w2 (Below.Z (x1.uj lo a5.le) c4) (a8.fin a0 (λ_ _ h=>by cases h))
    .obtain⟨h6,b9,d0,l8,Q2,d5,e7,h2⟩:=g4;have d1:Below lo w w3:=Below.Z (Below.Z (x1.uj lo a5.le) c4) (x3.uj lo (by have:=a5.le;have:=c4.size;omega));have f7:d0.len=((s.AS++[s.ns.length]).map Int.ofNat).length:=h2.AS.len;have n8:b9.len=ns'.length:=h2.tn.len;rw[eh,dx,il]at f7;refine⟨sp,rfl,d0,AT.at1 d5 (k:=9) x3 rfl,sp,rfl,b9,AT.at1 d5 (k:=8) x3 rfl,λm9=>?_,λn7=>?_⟩
     .have a0:q.step .next s= .done ns' s.dec:=(by rw[IS.step,b4];dsimp only;rw[hb];dsimp only;rw[fo oM]);have n9:=(Nw hb hI.n).2;refine⟨sp,rfl,b9,AT.at1 d5 (k:=8) x3 rfl,?_⟩;exact e3 ns' s.dec b9 w3 Q2 d1 (h2.tn.U x3) (λb hb=>(h2.q b hb).1) oM (a8.fin a0 (λ_ _ h=>by cases h))
     .have a0:q.step .next s= .V .next {s with ns:=ns',AS:=s.AS++[s.ns.length],ws:=q.sx ns' (s.AS.length+1),first:=s.stack.length}:=(by rw[IS.step,b4];dsimp only;rw[hb];dsimp only;rw[fb oM]);obtain⟨m',c6,b8⟩:=a8.V a0;have b2:=zr.step (l:=.next) (l':=.next) a7 d2 hI a0;refine H2.V (PG (a5.below d1) ⟨h6,b9,d0,l8,Q2,d5.U x3,e7,h2.U x3⟩ b2.a λw4 f2 g5=>⟨rfl,?_⟩);have e1:(s.AS++[s.ns.length]).length=s.AS.length+1:=(by rw[dx,il]);refine NX .next {s with ns:=ns',AS:=s.AS++[s.ns.length],ws:=q.sx ns' (s.AS.length+1),first:=s.stack.length} w4 m' c6 (Below.Z d1 f2) ?_ b2 b8;rwa [<-e1]
  |Ñ=>
   have hI:ñ q 1 s:=hI;subst k0;refine⟨λh=>fu h dC,λ_=>?_,λh=>fu h dC⟩;have j0:s.stack.length<=4097:=(by have:=hI.k;have:=hI.d;omega);have i3:=hI.f;obtain⟨c,hl⟩:∃c,s.stack.getLast? =some c:=by
    cases h:s.stack.getLast? with
    |none=>rw[List.getLast?_eq_none_iff]at h;rw[h]at i3;simp at i3
    |some c=>exact⟨c,rfl⟩
   obtain⟨pre,d9⟩:∃pre,s.stack=pre++[c]:=pw.1 hl;have p8:s.stack.length=pre.length+1:=by rw[d9,dx,il]
   have hx:s.stack[pre.length]?=some c:=(by rw[d9];simp);obtain⟨ad,cs,p6,⟨s2,v,rfl,q7⟩,p0⟩:=h0.stack.el hx;have f1:Aa ((stk.len:Int) - 1)=(pre.length:Int):=(by rw[k7,p8,Ai oM oM];omega);have k9:c.vs.length<=1000:=hI.v c.vs (ix (by rw[d9];simp));have r6:=(h0.stack.I (by show s.stack.length*64<=Ab;unfold Ab;omega) oM).2.1;refine sh.drew λw1 x1=>⟨sp,rfl,stk,AT.at1 a6 (k:=7) x1 rfl,sp,rfl,stk,AT.at1 a6 (k:=7) x1 rfl,ad,⟨p6,by rw[f1];omega,by rw[f1];omega⟩,_,_,v,_,_,by rw[f1,fa];exact p0 _ x1,An.intro λa4 w2 x2 d5 r4 _=>tj.intro d5 sI λw3 b3 _ m7=>sh.drew λw4 x4=>⟨(c.i:Int),m7.at1 (k:=4) x4 rfl,_,_,v,_,_,m7.at0 (r:=[]) x4 rfl,?_⟩⟩;have r1:AI w1 w3:=b3.U x2 oM;have d8:=x1.Z (r1.Z x4);refine tc.intro (LX.V (ZA (c:=c) (q7.U d8) k9 λw5 x5=>⟨x5,_,rfl,λn4=>?_,λn0=>?_⟩))
   .have c8:c.i<c.many:=oM;have c7:=d8.Z x5;have c5:=c7.uj lo a5.le;refine⟨D,(b5.below c5).b1.at0 xR rfl,λm9=>?_,λn7=>?_⟩
    .have a0:q.step .Ñ s= .err 31:=(by rw[IS.step,hl];dsimp only;rw[fo c8,fo oM]);exact d6 31 w5 c5 (a8.fin a0 (λ_ _ h=>by cases h))
    .have a0:q.step .Ñ s= .V .next {s with dec:=s.dec+1}:=(by rw[IS.step,hl];dsimp only;rw[fo c8,fb oM]);obtain⟨m',c6,b8⟩:=a8.V a0;have e1:Aa ((s.dec:Int)+1)=((s.dec+1:Nat):Int):=(by have:=hI.d;rw[Ai oM oM];omega);rw[e1];exact NX .next {s with dec:=s.dec+1} w5 m' c6 c5 ⟨stk,nds,ahd,ws,Q,a6.U c7,c3,⟨(h0.U c7).1,(h0.U c7).2,(h0.U c7).3,(h0.U c7).4,(h0.U c7).5,(h0.U c7).6,(h0.U c7).7,(h0.U c7).8,(h0.U c7).9,(h0.U c7).10,(h0.U c7).11⟩⟩ (zr.step (l:=.Ñ) (l':=.next) a7 d2 hI a0) b8
   .have n1: ¬c.i<c.many:=oM;have a0:q.step .Ñ s= .V .back {s with stack:=s.stack.dropLast}:=(by rw[IS.step,hl];dsimp only;rw[fb n1]);obtain⟨m',c6,b8⟩:=a8.V a0;have j5:ñ q 0 {s with stack:=s.stack.dropLast}:=zr.step (l:=.Ñ) (l':=.back) a7 d2 hI a0;have p5:s.stack.dropLast=pre:=(by rw[d9,nt]);rw[p5]at j5 b8 a0;refine sh.drew λw6 x6=>?_;have e4:=(d8.Z x5).Z x6;have t0:=e4.size;refine⟨sp,rfl,stk,AT.at1 a6 (k:=7) e4 rfl,sp,rfl,stk,AT.at1 a6 (k:=7) e4 rfl,⟨by rw[f1];omega,by rw[f1];omega⟩,sp,rfl,?_⟩;rw[f1,fa];refine rp.intro (o:=7) (a6.U e4) (by show 8<=12;omega) λw7 b7 _ o8=>?_;have k8:=rl.take (E:=Œ) ((h0.U e4).J b7).stack (n:=pre.length) oM;have o5:s.stack.take pre.length=pre:=(by rw[d9];simp);rw[o5]at k8;have h7:yg w7 lo sp.block (Sl.cut stk 0 pre.length 5) nds ahd ws Q {s with stack:=pre}:=yg.Xcn ((h0.U e4).J b7) Qa k8;have f4:Below lo w w7:=(e4.uj lo a5.le).Z (b7.below (by have:=a5.le;omega) c3);have i4:AT w7 sp (CT K (Sl.cut stk 0 pre.length 5) nds ahd ws s.first):=o8;have o9:(Sl.cut stk 0 pre.length 5).len=pre.length:=k8.len;refine⟨sp,rfl,Sl.cut stk 0 pre.length 5,AT.at1 i4 (k:=7) xR rfl,λi2=>?_,λk2=>?_⟩
    .have k4:pre=[]:=fq oM;have a9:q.step .back {s with stack:=pre}= .err 30:=(by subst k4;rfl);exact d6 30 w7 f4 (b8.fin a9 (λ_ _ h=>by cases h))
    .obtain⟨c2,g2⟩:∃c2,pre.getLast? =some c2:=by
      cases h:pre.getLast? with
      |none=>rw[List.getLast?_eq_none_iff]at h;exact fu (by rw[o9,h];rfl) k2
      |some c=>exact⟨c,rfl⟩
     have a9:q.step .back {s with stack:=pre}= .V .Ñ (FX q {s with stack:=pre} c2.rk):=(by rw[ME];show(match pre.getLast? with|none=>_|some c=>_)=_;rw[g2]);obtain⟨m2,n5,j4⟩:=b8.V a9;refine IZ.V (TB (s:={s with stack:=pre}) (c:=c2) (a5.below f4) ⟨_,nds,ahd,ws,Q,i4,c3,h7⟩ j5 g2 hN hD λw8 f6 g6=>⟨rfl,?_⟩);exact NX .Ñ (FX q {s with stack:=pre} c2.rk) w8 m2 oM (f4.Z f6) g6 (zr.step (l:=.back) (l':=.Ñ) a7 d2 j5 a9) j4
  |back=>
   have hI:ñ q 0 s:=hI;subst k0;refine⟨λh=>fu h dC,λh=>fu h dC,λ_=>?_⟩;refine⟨sp,rfl,stk,AT.at1 a6 (k:=7) xR rfl,λi2=>?_,λk2=>?_⟩
   .have k4:s.stack=[]:=fq oM;have a9:q.step .back s= .err 30:=(by rw[ME,k4];rfl);exact d6 30 w (Below.refl _ _) (a8.fin a9 (λ_ _ h=>by cases h))
   .obtain⟨c2,g2⟩:∃c2,s.stack.getLast? =some c2:=by
     cases h:s.stack.getLast? with
     |none=>rw[List.getLast?_eq_none_iff]at h;exact fu (by rw[k7,h];rfl) k2
     |some c=>exact⟨c,rfl⟩
    have a9:q.step .back s= .V .Ñ (FX q s c2.rk):=(by rw[ME,g2]);obtain⟨m2,n5,j4⟩:=a8.V a9;refine IZ.V (TB (s:=s) (c:=c2) a5 ⟨stk,nds,ahd,ws,Q,a6,c3,h0⟩ hI g2 hN hD λw8 f6 g6=>⟨rfl,?_⟩);exact NX .Ñ (FX q s c2.rk) w8 m2 n5 f6 g6 (zr.step (l:=.back) (l':=.Ñ) a7 d2 hI a9) j4
def Ĩ.ns:Ĩ->Ζ
 | .done ns _=>ns
 |_=> []
def Ĩ.dec:Ĩ->Int
 | .done _ t=>(t:Int)
 |_=>0
def Ĩ.code:Ĩ->Int
 | .err e=>e
 |_=>0
def Zkg{uo:Bool}{OF:Η}{SA:Nat->Prop}{cp:LP}{rr:Nat}{mD yc ye Ó pS:Sl}{N:Int}{R:Sl->Int->À}(ht:Í w0)(a4:Old SA w0)
  (a0:yz w0 S cp rr L) (hd:IT rq w0 SA mD m.sj) (he:IT rq w0 SA yc m.uo) (ho:IT rq w0 SA ye m.ut) (hv:IT rq w0 SA Ó m.ru) (hp:IT uy w0 SA pS OF)
  (hR:∀nds w',AI w0 w'->IT ud w' (λb=>w0.heap.size<=b/\b<w'.heap.size) nds (A4 L m uo OF D N).ns->R nds (A4 L m uo OF D N).dec (A4 L m uo OF D N).code w'):
  IY (some cp) mD yc ye Ó uo pS D N d3 d4 w0 R:=by
 have hl:=a0.lt;refine Zkn ht a4 a0 hl.2.2.1 hl.1 hl.2.1 hd he ho hv hp (λe w' hr hx=>?_) λns t nds w' hr hx hs=>?_
 .have h:=hR Sl.nil w' hx;rw[hr]at h;exact h (IT.nil trivial)
 .have h:=hR nds w' hx;rw[hr]at h;exact h hs
def Ct{l:Ζ}(h:IT ud w S s l)(hn:n<l.length):
  ∃ad c e,s.a=some ad/\Ac l[n].Y/\IT uy w S c l[n].uk/\IT wo w S e l[n].sd/\∀w',AI w w'->se w' (ad.add (n*6)) [.string l[n].Y,.int .i64 l[n].v.ma,.int .i64 l[n].v.mi,.int .i64 l[n].v.pa,Sl.v c,Sl.v e]:=by
 obtain⟨ad,cs,h1,h2,⟨h0,c,e,rfl,h5,h6⟩,h4⟩:=h.el hn;exact⟨ad,c,e,h1,h0,h5,h6,h4⟩
def U2{l:LQ}(h:IT wo w S s l)(hn:n<l.length):
  ∃ad,s.a=some ad/\∀w',AI w w'->se w' (ad.add (n*2)) [.string l[n].Y,.int .i64 l[n].to]:=by
 obtain⟨ad,cs,h1,h2,⟨rfl,h3⟩,h4⟩:=h.el hn;exact⟨ad,h1,h4⟩
def OS{α:Type}{a b:List α}(h1:i<a.length)(h2:i<b.length)(hI:a.take i=b.take i)(he:a[i]=b[i]):a.take (i+1)=b.take (i+1):=by rw[dz h1,dz h2,hI,he]
def Za5{x y:Edge}:(!((Ag x.Y y.Y)&&((x.to==y.to)&&true)))= !decide (x=y):=by congr 1;rw[ij];obtain⟨n,p⟩:=x;obtain⟨n',p'⟩:=y;simp[AA]
def An.set{zs:LV}{t:LN}{k:Ä}(hl:cs.length=zs.length)(h:∀a w',AI w w'->AT w' a cs->a.block=w.heap.size->k a w'):An w zs t λa w1=>rp w1 a cs λw2=>k a w2:=
 An.intro λa w1 x1 ha a4 a5=>tj.intro ha oM λw2 b2 hz a0=>h a w2 (b2.U x1 oM) (by rw[hl,mq,gz]at a0;exact a0) a4
def Yl(h1:1<=i)(h2:i<N)(hN:N<=maxLen):Aa ((i:Int) - 1)=((i - 1:Nat):Int):=by rw[Al]at hN;rw[Ai oM oM];omega
def RC{α:Type}{f:α->PU}{l:List α}(h1:1<=i)(hi:i<l.length)(hI:vp f (l.take i))(h:Ak (f l[i - 1]) (f l[i])=true):vp f (l.take (i+1)):=by
 have e:l.take i=l.take (i - 1)++[l[i - 1]]:=by have:=dz (l:=l) (i:=i - 1) oM;rwa [Nat.sub_add_cancel h1]at this
 rw[dz hi,e];rw[e]at hI;exact Zj0 hI h
def RA{α:Type}{f:α->PU}{l:List α}(h1:1<=i)(hi:i<l.length)(h:Ak (f l[i - 1]) (f l[i])=false): ¬vp f l:=λhr=>by have:=gn.1 hr (i - 1) i oM hi oM;rw[h]at this;cases this
def RB{α:Type}{f:α->PU}{l:List α}:vp f (l.take 1):=by
 cases l with
 |nil=>exact .nil
 |cons a r=>exact lw _ _
open Go.MapKept
def I8(v:HT):Prop:=∃x:Int,v= .int .i64 x
end Go.Hal
/-
 DERIVED:THE SHELF's CONTRACTS AT THIS DUMP,IN PLAIN WORDS (tools/lay-plain.mjs rv of 'YtgolaibmophnjaaGreatDoorLay5.lean',which tools/lay-shelf.mjs wrote):THE SAME DECLARATIONS UNDER THE SAME NAMES:'import','namespace','open','def','theorem' AND NOTHING ELSE:no command of the shelf's:FOR A HAND-IN. Each laying:the table of numbers ('.._ren') and one theorem,a field a fact of the dump's ux or the kernel's comparison;each contract:ONE APPLICATION.
-/
namespace Go.Proofs
end Go.Proofs
namespace Go.Hal
open Go.Lib Go.Sort
def ER(x:Int):LV:=[vi x]
def Q1(l:Β):(l.map ER).flatten=l.map (Value.int .i64):=by
 induction l with
 |nil=>rfl
 |cons a l ih=>rw[gu,js,ih];rfl
def rl.Xc4{α:Type}{E:xh α}{T:LN}{lo':Nat}{l:List α}(h:rl E T w lo S s l)(hl:lo'<=lo):rl E T w lo' S s l:=by obtain⟨css,ho,k1,k2⟩:=h.row;exact⟨⟨css,⟨ho.1,ho.2.imp id λ⟨g,cap,a0,hv,hg,r⟩=>⟨g,cap,a0,hv,fl hl hg,r⟩⟩,k1,k2⟩,h.len,h.lt,h.apart⟩
def Ca(l:Α):Β:=l.map λk:Nat=>(k:Int)
def IQ(l:Α):(Ca l).length=l.length:=eh _
end Go.Hal
namespace Go.Hal
open Go.MapKept
def Zcg(n m:PU)(v u:sq)(w:Qd):(Op.equal 332 (vc n v) (vc m u)).run prog w= .ok (decide (n=m/\v=u)) w:=by
 have h:(Op.equalIn (9997+3) 332 (vc n v) (vc m u)).run prog w= .ok ((Ag n m)&&(((v.ma==u.ma)&&((v.mi==u.mi)&&((v.pa==u.pa)&&true)))&&true)) w:=
  (Kr kR kR (fs:= [⟨ "name",9,0,false, "", "halyard/graph",0⟩,⟨ "version",52,1,false, "", "halyard/graph",16⟩]) kR (Em (x:=(Value.string n)) (y:=(Value.string m)) rfl kR kR (run_equalIn_string w _ 9 n m kR) (Em (x:=(Value.agg #[vi v.ma,vi v.mi,vi v.pa])) (y:=(Value.agg #[vi u.ma,vi u.mi,vi u.pa])) rfl kR kR (Kr kR kR (fs:= [⟨ "Major",3,0,false, "", "",0⟩,⟨ "Minor",3,1,false, "", "",8⟩,⟨ "Patch",3,2,false, "", "",16⟩]) kR (Em (x:=(vi v.ma)) (y:=(vi u.ma)) rfl kR kR (run_equalIn_int w _ 3 .i64 .i64 v.ma u.ma kR) (Em (x:=(vi v.mi)) (y:=(vi u.mi)) rfl kR kR (run_equalIn_int w _ 3 .i64 .i64 v.mi u.mi kR) (Em (x:=(vi v.pa)) (y:=(vi u.pa)) rfl kR kR (run_equalIn_int w _ 3 .i64 .i64 v.pa u.pa kR) Kq)))) Kq)))
 have e:((Ag n m)&&(((v.ma==u.ma)&&((v.mi==u.mi)&&((v.pa==u.pa)&&true)))&&true))=decide (n=m/\v=u):=by rw[FO,Bool.and_true,ij,ep,AA,fp,fp]
 rw[e]at h;exact h
def Ŧ(n:PU)(v:sq)(w:Qd):∀(l:List MapEntry)(i:Nat),(∀x∈l,FB x.key)->((∀x∈l,x.key≠vc n v)/\(Instr.findAsking 332 (vc n v) l i).run prog w= .ok none w)\/
  ∃(j:Nat) (e:MapEntry),l[j]?=some e/\e.key=vc n v/\(Instr.findAsking 332 (vc n v) l i).run prog w= .ok (some (i+j,e.val)) w
 | [],i,_=> .inl ⟨by simp,by simp[Instr.findAsking]⟩
 |e::es,i,h=>by
  obtain⟨m,u,hk⟩:=h e (.head _);have hq:=Zcg n m v u w;rw[<-hk]at hq;by_cases he:n=m/\v=u
  .refine .inr ⟨0,e,rfl,by rw[hk];exact Ho.2 ⟨he.1.H,he.2.H⟩,?_⟩;simp only[Instr.findAsking,Sem.run_bind,hq,Result.andThen,ie he];rfl
  .have a4:e.key≠vc n v:=λq=>(by rw[hk]at q;have:=Ho.1 q;exact he ⟨this.1.H,this.2.H⟩);have a0:(Instr.findAsking 332 (vc n v) (e::es) i).run prog w=(Instr.findAsking 332 (vc n v) es (i+1)).run prog w:=(by simp only[Instr.findAsking,Sem.run_bind,hq,Result.andThen,gl he];rfl);rcases Ŧ n v w es (i+1) (λx hx=>h x (.tail _ hx))with⟨h1,h2⟩|⟨j,e',h1,h2,h3⟩
   .exact .inl ⟨λx hx=>by
     cases hx with
     |head=>exact a4
     |tail _ hx=>exact h1 x hx,by rwa [a0]⟩
   .exact .inr ⟨j+1,e',by simpa using h1,h2,by rw[a0,h3,show i+1+j=i+(j+1) by omega]⟩
def ZC(n:PU)(v:sq)(e:Bool)(w:Qd):(Instr.checkKey e 10000 332 (vc n v)).run prog w= .ok () w:=by have hs:(Instr.checkKey e 9999 9 (.string n)).run prog w= .ok () w:=run_checkKey (d:=.string) (k:=.string n) underlying9 trivial e 9998;unfold vc;rw[Instr.checkKey];simp only[Sem.run_bind,run_underlying underlying332,Result.andThen];simp[Sem.run_bind,Result.andThen,part,run_underlying underlying9,run_underlying underlying52,hs,TX v e w]
def Vq:İ prog 330 FB (vi 0) where
 und:=⟨332,3,underlying330,Tryz.zeroValue3,λk ⟨n,v,h⟩ e w=>by subst h;exact ZC n v e w,λk ⟨n,v,h⟩ l hl w=>by
  subst h;have a0:∀l:List MapEntry,(Instr.findKey 332 (vc n v) l).run prog w=(Instr.findAsking 332 (vc n v) l 0).run prog w:=by
   intro l;cases l with
   |nil=>simp[Instr.findKey,Instr.findNow,Instr.findAsking,run_underlying underlying332,Sem.run_bind,Result.andThen]
   |cons e es=>simp[Instr.findKey,Instr.findNow,Instr.sameNow,run_underlying underlying332,Sem.run_bind,Result.andThen]
  rw[a0];rcases Ŧ n v w l 0 hl with h|⟨j,e,h1,h2,h3⟩
  .exact .inl h
  .exact .inr ⟨j,e,h1,h2,by rw[lu]at h3;exact h3⟩⟩
 stay:=λk ⟨n,v,h⟩=>by subst h;simp[vc,Instr.sameBits,Go.MapKept.bytes_beq]
end Go.Hal
namespace Go.Hal
def Zce{a b:LQ}{T:Nat->Prop}(hs:IT wo w S s a)(ht:IT wo w T t b)(hR:∀w',AI w w'->R (decide (a=b)) w'):Mr s t w R:=by
 unfold Mr;have h1:=hs.len;have h2:=ht.len;refine⟨λh=>?_,λh=>?_⟩
 .have: ¬a=b:=λe=>by subst e;omega
  have h3:=hR w xR;rw[gl this]at h3;exact h3
 have a9:a.length=b.length:=by have:=jt.1 h;omega
 refine rn.up hs.max (λi w'=>AI w w'/\a.take i=b.take i) ⟨AI.refl _,rfl⟩ λi w1 b0 hi ⟨x1,hI⟩ hn=>⟨λa6=>sh.drew λw2 x2=>?_,λa8=>?_⟩
 .have k1:i<a.length:=oM;have k2:i<b.length:=oM;obtain⟨ad,ha,hc⟩:=U2 hs k1;obtain⟨a0,a4,a5⟩:=U2 ht k2;refine⟨ad,⟨ha,oM,a6⟩,_,_,hc _ (x1.Z x2),a0,⟨a4,oM,oM⟩,_,_,a5 _ (x1.Z x2),?_⟩;rw[Za5];refine⟨λh=>?_,λh=>?_⟩
  .have a7: ¬a=b:=λe=>(by subst e;simp at h);have h3:=hR w2 (x1.Z x2);rw[gl a7]at h3;exact h3
  .exact hn k1 _ ⟨x1.Z x2,OS k1 k2 hI (by simpa using h)⟩
 .have:i=a.length:=oM;subst this;rw[fe,ia oM]at hI;have h3:=hR w1 x1;rw[ie hI]at h3;exact h3
def Zhc{x y:BY}:decide (x=y)=(Ag x.Y y.Y&&decide (x.v=y.v)&&decide (x.uk=y.uk)&&decide (x.sd=y.sd)):=by obtain⟨n,v,c,e⟩:=x;obtain⟨n',v',c',e'⟩:=y;rw[ij];simp only[fp,BY.mk.injEq,ep,AA];exact⟨λ⟨a,b,c,d⟩=>⟨⟨⟨a,b⟩,c⟩,d⟩,λ⟨⟨⟨a,b⟩,c⟩,d⟩=>⟨a,b,c,d⟩⟩
def Zdy{x y:BY}{cx ex cy ey:Sl}{T:Nat->Prop}(h1:IT uy w S cx x.uk)(h2:IT wo w S ex x.sd)(h3:IT uy w T cy y.uk)(h4:IT wo w T ey y.sd)
  (hR:∀w',AI w w'->R (decide (x=y)) w'):K5 x.Y x.v.ma x.v.mi x.v.pa cx ex y.Y y.v.ma y.v.mi y.v.pa cy ey w R:=by
 unfold K5;rw[Zhc]at hR;refine An.intro λa w1 x1 hb _ _=>An.intro λa1 w2 x2 a5 _ _=>⟨_,hb.at0 x2 rfl,_,a5.at0 xR rfl,py ⟨_,_,_,λ_=>hb.at1 (k:=1) x2 rfl,_,_,_,λ_=>a5.at1 (k:=1) xR rfl,py ⟨cx,λ_=>hb.at1 (k:=4) x2 rfl,cy,λ_=>a5.at1 (k:=4) xR rfl,?_⟩⟩⟩;have a4:=x1.Z x2;have ev:((x.v.ma==y.v.ma)&&((x.v.mi==y.v.mi)&&((x.v.pa==y.v.pa)&&true)))=decide (x.v=y.v):=Jv;rw[ev];refine No.intro (decide (x.uk=y.uk)) (λ_ q hq=>Jj.V (UC (h1.U a4) (h3.U a4) λw' hx=>⟨_,rfl,hq _ hx⟩)) λt w3 x3 ht=>py ⟨ex,λ_=>hb.at1 (k:=5) (r:=[]) (x2.Z x3) rfl,ey,λ_=>a5.at1 (k:=5) (r:=[]) x3 rfl,?_⟩;refine No.intro (decide (x.sd=y.sd)) (λ_ q hq=>Mr.V (Zce (h2.U (a4.Z x3)) (h4.U (a4.Z x3)) λw' hx=>⟨_,rfl,hq _ hx⟩)) λt' w4 x4 a0=>?_;have h5:=hR w4 ((a4.Z x3).Z x4);cases hg:(Ag x.Y y.Y&&decide (x.v=y.v))with
 |false=>rw[hg]at h5;exact h5
 |true=>
  rw[hg]at h5 ht a0;have ht:=ht rfl;subst ht;cases hc:decide (x.uk=y.uk)with
  |false=>rw[hc]at h5;exact h5
  |true=>rw[hc]at h5 a0;have a0:=a0 rfl;subst a0;exact h5
def Zb4:Bi prog 29:=enters_of func29 kR rfl
def Zdo{a b:Ζ}{T:Nat->Prop}(hs:IT ud w S s a)(ht:IT ud w T t b)(hR:∀w',AI w w'->R (decide (a=b)) w'):K4 s t w R:=by
 refine An.intro λp w1 x1 hb _ _=>An.intro λp1 w2 x2 b0 _ _=>⟨s,hb.at0 (r:=[]) x2 rfl,t,b0.at0 (r:=[]) xR rfl,OM.V ?_⟩;have a6:=x1.Z x2;unfold OM;have h1:=hs.len;have h2:=ht.len;have hf: ¬a=b->∀w',AI w w'->R false w':=λb8 w' hx=>by have h3:=hR w' hx;rw[gl b8]at h3;exact h3
 refine⟨λh=>⟨_,rfl,hf (λe=>by subst e;omega) w2 a6⟩,λh=>?_⟩;have c4:a.length=b.length:=by have:=jt.1 h;omega
 refine rn.up hs.max (λi w'=>AI w2 w'/\a.take i=b.take i) ⟨AI.refl _,rfl⟩ λi w3 c5 hi ⟨x3,hI⟩ hn=>⟨λb7=>?_,λc3=>?_⟩
 .have k1:i<a.length:=oM;have k2:i<b.length:=oM;have a7:=a6.Z x3;obtain⟨ad,c,e,ha,_,hc,he,hx⟩:=Ct hs k1;obtain⟨a8,c2,e2,a9,_,b5,b6,b9⟩:=Ct ht k2;refine⟨ad,⟨ha,oM,b7⟩,_,_,_,_,_,_,hx _ a7,An.set rfl λa4 w4 x4 b2 _=>?_⟩;refine⟨a8,⟨a9,oM,oM⟩,_,_,_,_,_,_,b9 _ (a7.Z x4),An.set rfl λa5 w5 x5 b4 _=>?_⟩;have a0:=a7.Z (x4.Z x5);refine⟨_,_,_,_,c,e,(b2.U x5).se.pre (r:=[]) rfl,_,_,_,_,c2,e2,b4.se.pre (r:=[]) rfl,_,_,rfl,Zb4,K5.V (Zdy (hc.U a0) (he.U a0) (b5.U a0) (b6.U a0) λw6 x6=>⟨_,rfl,λhq=>?_,λhq=>?_⟩)⟩
  .refine⟨_,rfl,hf (λhh=>?_) w6 (a0.Z x6)⟩;have:a[i]=b[i]:=(by subst hh;rfl);rw[ie this]at hq;cases hq
  .exact hn k1 w6 ⟨x3.Z (x4.Z (x5.Z x6)),OS k1 k2 hI (by simpa using hq)⟩
 .have:i=a.length:=oM;subst this;rw[fe,ia oM]at hI;have h3:=hR w3 (a6.Z x3);rw[ie hI]at h3;exact⟨_,rfl,h3⟩
def Zic{a b:sy}{R:À}(hR:∀w',Gr w w'->R (GU a b) w'):K3 a.Y a.v.ma a.v.mi a.v.pa b.Y b.v.ma b.v.mi b.v.pa w R:=by refine An.gr λ_ w1 x1 hb=>An.gr λ_ w2 x2 a4=>sh.gr λw3 x3=>?_;have a0:=x2.Z x3;refine⟨_,Gr.at0 hb a0 rfl,_,Gr.at0 a4 x3 rfl,_,_,_,Gr.at1 hb a0 rfl,_,_,_,Gr.at1 a4 x3 rfl,?_⟩;refine tc.intro (Fg ⟨AI.refl _,_,rfl,Fm.V (XW (a:=a.v) (b:=b.v) λw4 x4=>⟨_,rfl,?_⟩)⟩);exact An.gr λ_ w5 x5 a5=>EK.V (Uc (N0 (l:=[_,_]) a5 sI) ⟨_,rfl,hR _ (x1.Z (a0.Z (x4.Z x5)))⟩)
def Zb2:Bi prog 266:=enters_of func266 kR rfl
def Zld{l:Η}(h:tk AY 40 w lo s l)(a0:lo<=w.heap.size)
  (hK:∀l' w',l'.Perm l->l'.Pairwise (λx y=>¬GU y x<0)->Below lo w w'->tk AY 40 w' lo s l'->K (.tuple #[]) w'):
  si prog 120 [s.v,.func (.func 266) #[] #[]] w K:=by
 obtain⟨h1,h2,h3,h4,h5⟩:=h;obtain⟨a,n,c⟩:=s;simp only at h1 h2 h3 h5;subst h1;rcases h5 with rfl|⟨g,tail,ha,hg,hr⟩
 .refine(AnyF.slices_SortFunc_none Tryz.ī a c _ w).O λe w' ⟨he,hw⟩=>⟨_,he,?_⟩;subst hw;exact hK [] _ (jx _) .nil (Below.refl _ _) ⟨rfl,h2,h3,h4,.inl rfl⟩
 .subst ha;refine FJ Tryz.ī (k:=4) QH RN (f:=AY) (λ_=>rfl) (λx v hv=>by simp[AY]at hv;rcases hv with rfl|rfl|rfl|rfl<;>rfl) GU (Fh Ø.flip Ø.Z) 266 #[] Zb2 (λw0 x y hb _=>?_) hr (by unfold Ab at h4;omega) rfl λl' w' hp hs b a4=>?_
  .have h:=K3.V (k:=λv w'=>v= .int .i64 (GU x y)/\Gr w0 w') (Zic (a:=x) (b:=y) (w:=w0) λw' h=>⟨rfl,h⟩);exact Calls.O h λe w' ⟨v,he,hv,hg⟩=>⟨by rw[he,hv],hg⟩
  .have hl:=hp.length_eq;exact hK l' w' hp hs (b.below a0 hg) ⟨hl.H,by rwa [hl],h3,by rwa [hl],.inr ⟨g,tail,rfl,hg,a4⟩⟩
def QL(p:sy×Int):HT×HT:=(vc p.1.Y p.1.v,.int .i64 p.2)
structure PA(w0:Qd)(r:Nat)(w':Qd)(rv:Η)(so:Sl):Prop where
 x:AI w0 w'
 map:∃m:List (sy×Int),xv FB w' r (m.map QL)/\m.map (·.1)=rv
 ux:rl uy 150 w' w0.heap.size rz so rv
 ap:∀ad,so.a=some ad->ad.block≠r
 lr:w0.heap.size<=r
section
variable {w0 w w':Qd} {r:Nat} {so:Sl} {rv:Η}
def PA.U(h:PA w0 r w rv so)(hx:AI w w'):PA w0 r w' rv so:=
 ⟨h.x.Z hx,by obtain⟨m,h1,h2⟩:=h.map;exact⟨m,h1.U hx,h2⟩,h.ux.U hx,h.ap,h.lr⟩
def PA.seen(h:PA w0 r w rv so)(p:sy):∃v:Int,(Instr.lookup 330 (.map (some r)) (vc p.Y p.v) true).run prog w= .ok (.tuple #[vi v,.bool (decide (p∈rv))]) w:=by
 obtain⟨m,h1,h2⟩:=h.map;rcases IK Vq h1 (k:=vc p.Y p.v) ⟨_,_,rfl⟩with⟨hn,hr⟩|⟨v,a5,hr⟩
 .refine⟨0,?_⟩;rw[hr true,gl]
  .rfl
  .intro hm;rw[<-h2]at hm;obtain⟨q,hq,rfl⟩:=gv.1 hm;exact hn (QL q) (ix hq) rfl
 .obtain⟨q,hq,he⟩:=gv.1 a5;simp only[QL,Prod.mk.injEq]at he;obtain⟨a0,a4⟩:=he;obtain⟨e1,e2⟩:=Ho.1 a0;have a6:q.1=p:=by obtain⟨⟨a,b⟩,c⟩:=q;obtain⟨n,u⟩:=p;simp only at e1 e2;rw[e1,e2]
  refine⟨q.2,?_⟩;rw[hr true,ie,<-a4]
  .rfl
  .rw[<-h2];exact gv.2 ⟨q,hq,a6⟩
def PA.put(h:PA w0 r w rv so){p:sy}{i:Int}(hp:p∉rv)(hN:Ac p.Y)(hl:rv.length+1<=3000000000000){b:LP}{l:LV}(hb:AT w b (.string p.Y:: .int .i64 p.v.ma:: .int .i64 p.v.mi:: .int .i64 p.v.pa::l))(b7:b.block≠r){J:Sl->Wp}
  (hJ:∀a5 w',PA w0 r w' (rv++[p]) a5->J a5 w'):
  zt prog (Instr.mapUpdate 330 (.map (some r)) (vc p.Y p.v) (vi i)) w λa4=>∃(b0:PU),(se a4 b [(.string b0)])/\∃(x y z:Int),(se a4 (b.add 1) [vi x,vi y,vi z])/\An a4 [(.string b0),vi x,vi y,vi z] 150 λb5 b2=>ue prog 53 53 so (Sl.v (Sl.mk (some b5) 1 1)) b2 λb9 b4=>J b9 b4:=by
 obtain⟨m,h1,h2⟩:=h.map;refine Fl Vq h1 ⟨_,_,rfl⟩ (λq hq he=>?_) λw1 b1 c5 hM=>?_
 .obtain⟨q',b8,rfl⟩:=gv.1 hq;obtain⟨e1,e2⟩:=Ho.1 he;refine hp ?_;rw[<-h2];refine gv.2 ⟨q',b8,?_⟩;obtain⟨⟨a,b⟩,c⟩:=q';obtain⟨n,u⟩:=p;simp only at e1 e2;rw[e1,e2]
 .have a7:=b1.box hb b7;refine⟨_,a7.at0 xR rfl,_,_,_,a7.at1 (k:=1) xR rfl,An.intro λa2 w2 x2 b6 _ _=>?_⟩;have x1:AI w0 w1:=b1.U h.x h.lr;have o1:rl uy 150 w1 w0.heap.size rz so rv:=h.ux.J b1 (λh=>h) λad a0=>Ne.H (h.ap ad a0);have c4:=h1.lt;have s1:=x1.size;have s2:=x2.size;have eb:uy.bytes=40:=rfl;refine(o1.U x2).push JE oM (x:=p) (S':=rz) ⟨rfl,hN⟩ (b6.se.pre (r:=[]) rfl) (λ_ h=>h.F) (λ_ _ h=>h.F) (by rw[eb];unfold Ab;omega) (by rw[Al];omega) λa5 w3 o3 a6 a8 a9=>hJ a5 w3 ?_;have c3:w.heap.size<=w1.heap.size:=b1.1;refine⟨(x1.Z x2).A a6,⟨m++[(p,i)],?_,?_⟩,rl.flat (λh=>h) o3,λad a0=>?_,h.lr⟩
  .rw[gd];exact(hM.U x2).of (a8 r oM λad a0 e=>h.ap ad a0 e.H)
  .rw[gd,h2];rfl
  .obtain q|q:=a9 ad a0
   .exact h.ap ad q
   .omega
end
def Zdm{g:Ζ}{R:Sl->Wp}(hs:IT ud w S s g)
  (hR:∀t l w',AI w w'->(g≠[]->uz g l)->(g=[]->l=[])->tk AY 40 w' w.heap.size t l->(∀q∈l,Ac q.Y)->(∀ad,t.a=some ad->ad.block<w'.heap.size/\w.heap.size<=ad.block)->R t w'):K2 s w R:=by
 unfold K2;have b7:=hs.len;have e0:g.length<=1600000000000:=by have:=hs.2.2.2.1;have eb:ud.bytes=88:=rfl;rw[eb]at this;unfold Ab at this;omega
 refine An.intro λa w1 x1 b5 d6 _=>⟨s,b5.se.pre (r:=[]) rfl,λh0=>?_,λh0=>?_⟩
 .have hg:g=[]:=fq oM;exact hR Sl.nil [] w1 x1 (λh=>fu hg h) (λ_=>rfl) ⟨rfl,ga _,im _,by simp,.inl rfl⟩ (λq hq=>by cases hq) (λad h=>by cases h)
 .have hg:g≠[]:=λe=>by subst e;exact h0 (by rw[b7];rfl)
  have d9:0<g.length:=Nat.pos_of_ne_zero λh=>hg (fq h);refine On (K:=FB) λr w2 x2 e2 c6=>⟨some r,rfl,s,(b5.U x2).se.pre (r:=[]) rfl,⟨oM,oM⟩,?_⟩;have c4:=x1.Z x2;have hc:IT ud w S (Sl.cut s ((1:Int).toNat) s.len 6) ((g.take s.len).drop 1):=hs.cut oM oM;rw[b7,fe]at hc;have hc:IT ud w S (Sl.cut s ((1:Int).toNat) s.len 6) (g.drop 1):=by rwa [b7]
  generalize Sl.cut s ((1:Int).toNat) s.len 6=sc at hc ⊢;have c7:=hc.len;have c9:(g.drop 1).length=g.length - 1:=gq;generalize hL:g.drop 1=L at hc c7 c9;have al:=b5.lt;refine uc.up hc.max (λso t w'=>∃rv:Η,PA w r w' rv so/\rv.Nodup/\(∀y,y∈rv↔y∈(L.take t).map Et)/\rv.length<=t)
   ⟨[],⟨c4,⟨[],c6,rfl⟩,(rl.zero w2).Xc4 (by have:=c4.size;omega),(λad h=>by cases h),by have:=x1.size;omega⟩,List.nodup_nil,λy=>by simp,ga _⟩ λso t w3 e3 ht ⟨rv,hA,b6,a4,e1⟩ hn=>⟨λd2=>join.named λJ hJ=>?_,λd8=>?_⟩
  .have a7:t<L.length:=oM;have b4:∀a5 w' a0,PA w r w' a0 a5->a0.Nodup->(∀y,y∈a0↔y∈(L.take (t+1)).map Et)->a0.length<=t+1->J a5 w':=λa5 w' a0 q1 q2 q3 q4=>(by subst hJ;exact hn a7 a5 w' ⟨a0,q1,q2,q3,q4⟩);clear hJ hn;obtain⟨ad,c,e,ha,hN,_,_,c8⟩:=Ct hc a7;have d5:(L.take (t+1)).map Et=(L.take t).map Et++[Et L[t]]:=(by rw[dz a7,gd];rfl);rw[d5]at b4;generalize L[t]=x at*;refine⟨ad,⟨ha,oM,d2⟩,_,_,_,_,c,e,c8 _ hA.x,An.set rfl λa8 w4 x4 a6 d7=>?_⟩;refine⟨_,a6.at0 xR rfl,_,_,_,a6.at1 (k:=1) xR rfl,?_⟩;have b2:=hA.U x4;obtain⟨v,c3⟩:=b2.seen (Et x);refine⟨_,_,c3,v,_,rfl,λhq=>?_,λhq=>?_⟩
   .have b0:Et x∉rv:=(by simpa using hq);refine⟨_,a6.at0 xR rfl,_,_,_,a6.at1 (k:=1) xR rfl,?_⟩;refine b2.put (p:=Et x) b0 hN oM a6 (by obtain⟨_,q,_⟩:=hA.map;have:=q.lt;omega) λa5 w5 c5=>b4 a5 w5 _ c5 ?_ (λy=>?_) (by rw[dx,il];omega)
    .rw[ja];refine⟨b6,by simp,λa ha b hb=>?_⟩;rw[eu]at hb;subst hb;exact λe=>b0 (e▸ha)
    .rw[fj,fj,a4]
   .have d1:Et x∈rv:=(by simpa using hq);refine b4 so w4 rv b2 b6 (λy=>?_) oM;rw[fj,<-a4,eu];exact⟨.inl,λh=>h.F id λh=>h▸d1⟩
  .rw[ia oM,<-hL]at a4;have d0:tk AY 40 w3 w.heap.size so rv:=tk.of (E:=uy) (λx cs h=>h.1) hA.ux (by unfold Ab;omega);have d4:∀q∈rv,Ac q.Y:=λq hq=>by obtain⟨x,hx,rfl⟩:=gv.1 ((a4 q).1 hq);obtain⟨n,d3,rfl⟩:=gh.1 (List.mem_of_mem_drop hx);obtain⟨_,_,_,_,h1,_⟩:=Ct hs d3;exact h1
   refine Zld d0 hA.x.size λl' w4 hp b8 a9 b9=>⟨rfl,?_⟩;refine hR so l' w4 (hA.x.A a9) (λ_=>⟨.of Ø (λh=>TM.1 h) (hp.nodup_iff.2 b6) b8,λy=>by rw[hp.mem_iff,a4]⟩) (λh=>fu h hg) b9 (λx hx=>d4 x (hp.mem_iff.1 hx)) λad ha=>?_;have:=hA.ux.block ha;have:=a9.size;omega
end Go.Hal
namespace Go.Hal
inductive â {α β:Type} (R:α->β->Prop):List α->List β->Prop
 |nil:â R [] []
 |cons {a:α} {b:β} {l:List α} {m:List β} (h:R a b) (k:â R l m):â R (a::l) (b::m)
def â.left{α β:Type}{R:α->β->Prop}{l:List α}{m:List β}(h:â R l m):∀a∈l,∃b∈m,R a b:=by
 induction h with
 |nil=>intro a h;cases h
 |cons h _ ih=>
  intro x hx;obtain rfl|hx:=gj.1 hx
  .exact⟨_,.head _,h⟩
  .obtain⟨b,hb,hr⟩:=ih x hx;exact⟨b,.tail _ hb,hr⟩
def â.right{α β:Type}{R:α->β->Prop}{l:List α}{m:List β}(h:â R l m):∀b∈m,∃a∈l,R a b:=by
 induction h with
 |nil=>intro a h;cases h
 |cons h _ ih=>
  intro x hx;obtain rfl|hx:=gj.1 hx
  .exact⟨_,.head _,h⟩
  .obtain⟨b,hb,hr⟩:=ih x hx;exact⟨b,.tail _ hb,hr⟩
def â.map{α β γ:Type}{R:α->β->Prop}{f:α->γ}{g:β->γ}{l:List α}{m:List β}(h:â R l m)(hi:∀a b,R a b->f a=g b):l.map f=m.map g:=by
 induction h with
 |nil=>rfl
 |cons h _ ih=>rw[gu,gu,hi _ _ h,ih]
def â.filterMap{α β γ:Type}{R:α->β->Prop}{f:α->Option γ}{g:β->γ}{l:List α}{m:List β}(h:â R l m)(hi:∀a b,R a b->f a=some (g b)):l.filterMap f=m.map g:=by
 induction h with
 |nil=>rfl
 |cons h _ ih=>rw[List.filterMap_cons,hi _ _ h,gu,ih]
def Ů(x:BY):sy:=⟨x.Y,x.v⟩
def X4{q:IS}{env:Η}:∀{ps:Η} {xs:Ζ},AU q env ps=some xs->xs.map Ů=ps/\∀x∈xs,Cf q.L q.m.ru env (Ů x)=some x.uk
 | [],xs,h=>by rw[AU]at h;cases h;exact⟨rfl,λx h=>by cases h⟩
 |p::r,xs,h=>by
  rw[AU]at h;cases h1:Cf q.L q.m.ru env p with
  |none=>rw[h1]at h;cases h
  |some c=>
   rw[h1]at h;obtain⟨ys,h2,rfl⟩:=jc.1 h;obtain⟨k1,k2⟩:=X4 h2;refine⟨by rw[gu,k1];rfl,λx hx=>?_⟩;obtain rfl|hx:=gj.1 hx
   .exact h1
   .exact k2 x hx
def Pk(K:List CW)(e:Edge)(x:BY):Prop:=e.Y=x.Y/\∃j:Nat,e.to=(j:Int)/\K[j]?=some x.key
def Rv{N:Nat}:∀{xs:Ζ} {ks:List CW} {r:Ζ×LQ},AO N ks xs=some r->ks.length<=N->
  â (Pk (ks++r.1.map BY.key)) r.2 xs/\(ks.Nodup->(ks++r.1.map BY.key).Nodup)/\(∀y∈r.1,y∈xs)/\(∀j,ks.length<=j->j<ks.length+r.1.length->∃e∈r.2,e.to=(j:Int))/\ks.length+r.1.length<=N
 | [],ks,r,h,hN=>by rw[AO]at h;cases h;exact⟨.nil,by simp,(λy h=>by cases h),λj h1 h2=>by simp at h2;omega,by simpa using hN⟩
 |x::xs,ks,r,h,hN=>by
  rw[AO]at h;cases hf:ks.findIdx? λy=>decide (y=x.key)with
  |some i=>
   rw[hf]at h;obtain⟨r',h1,rfl⟩:=jc.1 h;obtain⟨k1,k2,k3,k4,k5⟩:=Rv h1 hN;obtain⟨hi,hp,_⟩:=jw.1 hf;simp only[fp]at hp;refine⟨.cons ⟨rfl,i,rfl,?_⟩ k1,k2,λy hy=>.tail _ (k3 y hy),λj a b=>?_,k5⟩
   .rw[fy hi,dw hi,hp]
   .obtain⟨e,he,hj⟩:=k4 j a b;exact⟨e,.tail _ he,hj⟩
  |none=>
   rw[hf]at h;dsimp only at h;by_cases a0:ks.length=N
   .rw[fo a0]at h;cases h
   .rw[fb a0]at h;obtain⟨r',h1,rfl⟩:=jc.1 h;have a5:x.key∉ks:=λhm=>by have:=nf.1 hf x.key hm;simp at this
    obtain⟨k1,k2,k3,k4,k5⟩:=Rv h1 (by rw[dx];simp;omega);have e1:ks++(x::r'.1).map BY.key=ks++[x.key]++r'.1.map BY.key:=by simp
    refine⟨?_,λa4=>?_,λy hy=>?_,λj a b=>?_,?_⟩
    .show â (Pk (ks++(x::r'.1).map BY.key)) _ _;rw[e1];refine .cons ⟨rfl,ks.length,rfl,?_⟩ k1;rw[fh,ic nR];simp
    .show(ks++(x::r'.1).map BY.key).Nodup;rw[e1];refine k2 (ja.2 ⟨a4,by simp,λa ha b hb=>?_⟩);simp only[eu]at hb;subst hb;rintro rfl;exact a5 ha
    .obtain rfl|hy:=gj.1 hy
     .exact .head _
     .exact .tail _ (k3 y hy)
    .simp only[dx,gb,ip]at k4 b;by_cases hj:j=ks.length
     .subst hj;exact⟨_,.head _,rfl⟩
     .obtain⟨e,he,hh⟩:=k4 j oM oM;exact⟨e,.tail _ he,hh⟩
    .simp only[dx,gb,ip]at k5 ⊢;omega
def XK{D:Nat}{k:Option sq->Nat->Out}{ns:Ζ}{n:Nat}:∀{os:List (Option sq)} {t:Nat},AZ D k os t= .done ns n->∃o∈os,∃t',k o t'= .done ns n
 | [],t,h=>by rw[AZ]at h;cases h
 |o::os,t,h=>by
  rw[AZ]at h;by_cases hD:t=D
  .rw[fo hD]at h;cases h
  .rw[fb hD]at h;cases hk:k o (t+1)with
   |fail s=>rw[hk]at h;obtain⟨o',ho,t',h'⟩:=XK h;exact⟨o',.tail _ ho,t',h'⟩
   |done a b=>rw[hk]at h;cases h;exact⟨o,.head _,_,hk⟩
   |err _=>rw[hk]at h;cases h
   |rv=>rw[hk]at h;cases h
structure ò(q:IS)(ns:Ζ)(i:Nat)(x:BY):Prop where
 ĸ:vp Edge.Y x.sd
 to:∀e∈x.sd,∃(j:Nat) (y:BY),e.to=(j:Int)/\1<=j/\ns[j]?=some y/\y.Y=e.Y
 sound:Ţ q.L q.m.ru ns (q.sx ns i) x
structure Ő(q:IS)(ns:Ζ)(k:Nat):Prop where
 pos:0<ns.length
 len:ns.length<=q.N
 root:∃x,ns[0]?=some x/\x.key=ta.key
 nodup:(ns.map BY.key).Nodup
 there:∀(i:Nat)(x:BY),ns[i]?=some x->i≠0->(AJ q.L x.Y x.v).isSome=true
 uk:∀(i:Nat)(x:BY),ns[i]?=some x->yy x.uk
 Xco:∀(i:Nat)(x:BY),ns[i]?=some x->i<k->ò q ns i x
 led:∀j,j≠0->j<ns.length->∃i,i<k/\i<j/\Ft ns i j
structure Xas(q:IS)(ns:Ζ)(k:Nat)(dn:Ο)(e:Η):Prop where
 nodup:(e.map (·.Y)).Nodup
 uk:∀p∈th ns k,p∈e
 from_:∀p∈e,p∈th ns k\/p.Y∈dn.map uu.Y
 ux:∀w∈dn,(∃v,(⟨w.Y,v⟩:sy)∈e/\B2 w.range v=true)\/(w.ss=2/\∀p∈e,p.Y≠w.Y)
section
variable {q:IS}
def Zib{e:Η}(hn:(e.map (·.Y)).Nodup){a b:sy}(ha:a∈e)(hb:b∈e)(h:a.Y=b.Y):a=b:=by have h1:=XC hn ha;have h2:=XC hn hb;rw[h,h2]at h1;obtain⟨n,v⟩:=a;obtain⟨n',v'⟩:=b;simp only[ff]at h1 h;rw[h,h1]
def Xas.choose{ns:Ζ}{k:Nat}{dn:Ο}{e:Η}{w:uu}{o:Option sq}(h:Xas q ns k dn e)(hw:w.Y∉dn.map uu.Y)(ho:o∈CE (q.xk (th ns k) w)):Xas q ns k (dn++[w]) (B0 e w.Y o):=by
 have tf:∀e':Η,(∀p∈e,p∈e')->(∀p∈e',p∈e\/p.Y=w.Y)->∀x∈dn,(∃v,(⟨x.Y,v⟩:sy)∈e'/\B2 x.range v=true)\/(x.ss=2/\∀p∈e',p.Y≠x.Y):=λe' h1 h2 x hx=>by
  rcases h.ux x hx with⟨v,a,b⟩|⟨a,b⟩
  .exact .inl ⟨v,h1 _ a,b⟩
  .refine .inr ⟨a,λp hp=>?_⟩;obtain hp|hp:=h2 p hp
   .exact b p hp
   .rw[hp];rintro a6;exact hw (a6▸ix (f:=uu.Y) hx)
 have fr:∀p∈e,p∈th ns k\/p.Y∈(dn++[w]).map uu.Y:=λp hp=>(h.from_ p hp).imp id λh=>by rw[gd];exact ib _ h
 unfold IS.xk at ho;cases ht:un (th ns k) w.Y with
 |some v=>
  rw[ht]at ho;have hm:=h.uk _ (X9 ht);unfold CE at ho;dsimp only at ho;split at ho
  .rename_i a0;simp only[gu,ot,ni,if_false,gz,eu]at ho;subst ho;have ha:e.any (As w.Y)=true:=jv.2 ⟨_,hm,by simp[As]⟩;have e1:B0 e w.Y (some v)=e:=by unfold B0;dsimp only;rw[fo ha]
   rw[e1];refine⟨h.nodup,h.uk,fr,λx hx=>?_⟩;obtain hx|hx:=fj.1 hx
   .exact tf e (λ_ h=>h) (λ_ h=>.inl h) x hx
   .simp only[eu]at hx;subst hx;exact .inl ⟨v,hm,a0⟩
  .simp at ho
 |none=>
  rw[ht]at ho;have a4:∀p∈e,p.Y≠w.Y:=λp hp a5=>by
   obtain h1|h1:=h.from_ p hp
   .exact Su ht p h1 a5
   .exact hw (a5▸h1)
  unfold CE at ho;obtain ho|ho:=fj.1 ho
  .obtain⟨v,hv,rfl⟩:=gv.1 ho;have a0:B2 w.range v=true:=by
    unfold BG at hv;dsimp only at hv;obtain hv|hv:=fj.1 hv
    .exact(jd.1 (jd.1 hv).1).2
    .exact(jd.1 (jd.1 hv).1).2
   have ha: ¬e.any (As w.Y)=true:=λha=>by obtain⟨p,hp,hq⟩:=jv.1 ha;exact a4 p hp (by simpa[As]using hq)
   have e1:B0 e w.Y (some v)=e++[⟨w.Y,v⟩]:=(by unfold B0;dsimp only;rw[fb ha]);rw[e1];refine⟨?_,λp hp=>ib _ (h.uk p hp),λp hp=>?_,λx hx=>?_⟩
   .rw[gd,ja];refine⟨h.nodup,by simp,λa ha b hb=>?_⟩;obtain⟨p,hp,rfl⟩:=gv.1 ha;simp at hb;subst hb;exact a4 p hp
   .obtain hp|hp:=fj.1 hp
    .exact fr p hp
    .simp only[eu]at hp;subst hp;right;simp
   .obtain hx|hx:=fj.1 hx
    .refine tf _ (λp hp=>ib _ hp) (λp hp=>?_) x hx;obtain hp|hp:=fj.1 hp
     .exact .inl hp
     .simp only[eu]at hp;subst hp;exact .inr rfl
    .simp only[eu]at hx;subst hx;exact .inl ⟨v,by simp,a0⟩
  .dsimp only at ho;cases hk:decide (w.ss=2)with
   |true=>
    rw[hk]at ho;have ho:o∈ [none]:=ho;simp only[eu]at ho;subst ho;have e1:B0 e w.Y none=e:=rfl;rw[e1];refine⟨h.nodup,h.uk,fr,λx hx=>?_⟩;obtain hx|hx:=fj.1 hx
    .exact tf e (λ_ h=>h) (λ_ h=>.inl h) x hx
    .simp only[eu]at hx;subst hx;exact .inr ⟨by simpa using hk,a4⟩
   |false=>rw[hk]at ho;have ho:o∈([]:List (Option sq)):=ho;cases ho
structure Grown(k:Nat)(g g':Ζ):Prop where
 key:∀(j:Nat)(x:BY),g[j]?=some x->∃x':BY,g'[j]?=some x'/\x'.key=x.key
 same:∀j,j<g.length->j≠k->g'[j]?=g[j]?
def D8{x y:BY}(h:x.key=y.key):x.Y=y.Y/\x.v=y.v/\x.uk=y.uk:=by simp only[BY.key,Prod.mk.injEq]at h;exact h
def UL{α β:Type}{f g:α->Option β}:∀{l:List α},(∀x∈l,f x=g x)->l.filterMap f=l.filterMap g
 | [],_=>rfl
 |a::r,h=>by rw[List.filterMap_cons,List.filterMap_cons,h a (.head _),UL λx hx=>h x (.tail _ hx)]
def ò.grow{k:Nat}{g g':Ζ}(hg:Grown k g g'){x:BY}(h:ò q g i x)(hi:g[i]?=some x):ò q g' i x:=by
 have a0:∀e∈x.sd,∃y y',g[e.to.toNat]?=some y/\g'[e.to.toNat]?=some y'/\y'.key=y.key/\y.Y=e.Y:=λe he=>by obtain⟨j,y,h1,h2,h3,h4⟩:=h.to e he;obtain⟨y',h5,h6⟩:=hg.key j y h3;rw[h1,fa];exact⟨y,y',h3,h5,h6,h4⟩
 have hw:q.sx g' i=q.sx g i:=by unfold IS.sx zo;obtain⟨x',h1,h2⟩:=hg.key i x hi;rw[gc,gc,h1,hi,ir,ir,h2]
 have hE:∀n,(Cr g' x n).map BY.key=(Cr g x n).map BY.key:=λn=>by
  unfold Cr;cases hf:x.sd.find? λe=>decide (e.Y=n)with
  |none=>rfl
  |some e=>obtain⟨y,y',h1,h2,h3,_⟩:=a0 e (kj hf);simp only[nw,h1,h2,ir,h3]
 have hP:Iv g' x=Iv g x:=by unfold Iv;refine UL λe he=>?_;obtain⟨y,y',h1,h2,h3,_⟩:=a0 e he;rw[h1,h2,ir,ir,(D8 h3).2.1]
 refine⟨h.ĸ,λe he=>?_,?_⟩
 .obtain⟨j,y,h1,h2,h3,h4⟩:=h.to e he;obtain⟨y',h5,h6⟩:=hg.key j y h3;exact⟨j,y',h1,h2,h5,(D8 h6).1.Z h4⟩
 .rw[hw];refine⟨λw hw=>?_,λp hp=>?_,?_⟩
  .obtain⟨a,b⟩:=h.sound.ux w hw;refine⟨λhn=>a ?_,λy' hy=>?_⟩
   .have:=hE w.Y;rw[hn]at this;cases he:Cr g x w.Y with
    |none=>rfl
    |some y=>rw[he]at this;cases this
   .have:=hE w.Y;rw[hy]at this;cases he:Cr g x w.Y with
    |none=>rw[he]at this;cases this
    |some y=>rw[he]at this;simp only[ir,ff]at this;rw[(D8 this).2.1];exact b y he
  .obtain⟨y,a,b⟩:=h.sound.uk p hp;have:=hE p.Y;rw[a]at this;cases he:Cr g' x p.Y with
   |none=>rw[he]at this;cases this
   |some y'=>rw[he]at this;simp only[ir,ff]at this;exact⟨y',rfl,(D8 this).2.1.Z b⟩
  .obtain⟨env,a,b⟩:=h.sound.env;refine⟨env,by unfold NI at a ⊢;rwa [hP],λe he=>?_⟩;obtain⟨c,y,d,f⟩:=b e he;obtain⟨y2,y',h1,h2,h3,_⟩:=a0 e he;rw[d]at h1;cases h1;obtain⟨k1,k2,k3⟩:=D8 h3;exact⟨c,y',h2,by rwa [k1,k2,k3]⟩
def Zmn(hG:vl q.L){n:PU}{v:sq}(h:(AJ q.L n v).isSome=true):n≠⟨#[]⟩:=by obtain⟨x,hx⟩:=Option.isSome_iff_exists.1 h;obtain⟨h1,h2,_⟩:=Gd hx;have:=hG.vt x h1;unfold AH at this;rw[ep]at this;have:=this.1;unfold Cj at this;simp only[ep]at this;have hn:=this.1.1.1.1;rw[h2]at hn;rintro rfl;revert hn;unfold Ad;rw[show Ag ⟨#[]⟩ ⟨#[]⟩=true from AA.2 rfl];simp
def Zaa{ru:Ι}{env c:Η}{p:sy}(h:Cf L ru env p=some c):(AJ L p.Y p.v).isSome=true:=by obtain⟨x,hx,_⟩:=(PY h).2.2.1 p (.inl rfl);rw[hx];rfl
def Zg(hG:vl q.L){ns ns':Ζ}{k:Nat}{e:Η}(h:Ő q ns k)(hk:k<ns.length)(he:Xas q ns k (q.sx ns k) e)(hb:q.bind ns k e= .ok ns'):Ő q ns' (k+1)/\ns.length<=ns'.length:=by
 unfold IS.bind at hb;cases ht:AU q (AD e) (AD e)with
 |none=>rw[ht]at hb;cases hb
 |some xs=>
  rw[ht]at hb;dsimp only at hb;cases hp:AO q.N (ns.map BY.key) xs with
  |none=>rw[hp]at hb;cases hb
  |some r=>
   rw[hp]at hb;cases hb;obtain⟨t1,t2⟩:=X4 ht;obtain⟨p1,p2,p3,p4,p5⟩:=Rv hp (by rw[eh];exact h.len);rw[eh]at p4 p5;obtain⟨new,es⟩:=r;simp only at p1 p2 p3 p4 p5 ⊢;have a5:(Cn ns k es++new).map BY.key=ns.map BY.key++new.map BY.key:=by rw[gd,H5]
   have d8:(Cn ns k es++new).length=ns.length+new.length:=(by rw[dx,EZ]);generalize b5:Cn ns k es++new=g' at*;have a9:Grown k ns g':=by
    refine⟨λj x hx=>?_,λj hj d3=>?_⟩
    .have h1:(g'.map BY.key)[j]?=some x.key:=by rw[a5,fy (by rw[eh];exact(ec.1 hx).1),gc,hx];rfl
     rw[gc]at h1;obtain⟨x',a,b⟩:=jc.1 h1;exact⟨x',a,b⟩
    .rw[<-b5,fy (by rwa [EZ]),OC d3]
   have d1:∀(j:Nat)(kk:CW),(g'.map BY.key)[j]?=some kk->∃y,g'[j]?=some y/\y.key=kk:=λj kk h1=>(by rw[gc]at h1;obtain⟨x',a,b⟩:=jc.1 h1;exact⟨x',a,b⟩);have c9:∀x∈xs,(AJ q.L x.Y x.v).isSome=true:=λx hx=>Zaa (t2 x hx);have b2:∀i x,g'[i]?=some x->ns.length<=i->x∈xs:=λi x hx hi=>by rw[<-b5,ic (by rwa [EZ])]at hx;exact p3 x (fx hx)
   have b4:∀i x,g'[i]?=some x->i<ns.length->∃y,ns[i]?=some y/\x.key=y.key:=λi x hx hi=>(by obtain⟨x',a,b⟩:=a9.key i _ (dw hi);rw[hx]at a;cases a;exact⟨_,dw hi,b⟩);have hE:â (λ(ed:Edge) (x:BY)=>ed.Y=x.Y/\∃(j:Nat) (y:BY),ed.to=(j:Int)/\1<=j/\g'[j]?=some y/\y.key=x.key/\x∈xs) es xs:=by
    have mem:∀{l:LQ} {m:Ζ},â (Pk (ns.map BY.key++new.map BY.key)) l m->(∀x∈m,x∈xs)->â (λ(ed:Edge) (x:BY)=>ed.Y=x.Y/\∃(j:Nat) (y:BY),ed.to=(j:Int)/\1<=j/\g'[j]?=some y/\y.key=x.key/\x∈xs) l m:=λ{l m} hA=>by
     induction hA with
     |nil=>intro _;exact .nil
     |cons hh _ ih=>
      intro hm;refine .cons ?_ (ih λx hx=>hm x (.tail _ hx));obtain⟨a,j,b,c⟩:=hh;rw[<-a5]at c;obtain⟨y,d,f⟩:=d1 j _ c;refine⟨a,j,y,b,?_,d,f,hm _ (.head _)⟩;obtain rfl|hj:=ka j
      .exfalso;obtain⟨x0,r1,r2⟩:=h.root;obtain⟨x1,s1,s2⟩:=a9.key 0 x0 r1;rw[d]at s1;cases s1;refine Zmn hG (c9 _ (hm _ (.head _))) ?_;have:=(D8 (f.H.Z (s2.Z r2))).1;exact this
      .exact hj
    exact mem p1 λx hx=>hx
   have d4:es.map Edge.Y=(AD e).map sy.Y:=(by rw[<-t1,jj];exact hE.map λa b d0=>d0.1);have a6:yy (AD e):=M6 he.nodup;have b8:vp Edge.Y es:=by
    unfold vp;have h1:((AD e).map sy.Y).Pairwise λa b=>Ak a b=true:=by rwa [iv]
    rw[<-d4,iv]at h1;exact h1
   have a8:∀p,p∈AD e↔p∈e:=λp=>(DG e).mem_iff;obtain⟨x0,b0⟩:∃x0,ns[k]?=some x0:=⟨_,dw hk⟩;have b9:g'[k]?=some {x0 with sd:=es}:=by rw[<-b5,fy (by rwa [EZ])];unfold Cn;rw[nq,b0];simp
   have a7:th ns k=x0.uk:=(by unfold th zo;rw[gc,b0];rfl);have b7:Iv g' {x0 with sd:=es}=AD e:=(by unfold Iv;rw[<-t1];refine hE.filterMap λed x ⟨a,j,y,b,_,d,f,_⟩=>?_;rw[b,fa,d,ir,a,(D8 f).2.1];rfl);have c4:NI g' {x0 with sd:=es}=some (AD e):=by
    unfold NI;rw[b7];obtain⟨t,a,b,c,d⟩:=Qs (AD e) x0.uk (λx hx y hy hn=>Zib he.nodup (he.uk y (by rwa [a7])) ((a8 x).1 hx) hn) a6.nodup;show(Hd x0.uk (AD e)).map AD=_;rw[a,ir];congr 1;refine yy.ż (M6 (d (h.uk k x0 b0).nodup)) a6 λp=>?_;rw[(DG _).mem_iff];refine⟨λhp=>?_,λhp=>c p hp⟩;obtain hp|hp:=fj.1 hp
    .exact(a8 p).2 (he.uk p (by rwa [a7]))
    .exact b p hp
   have c8:∀p∈e,∃ed∈es,∃y,ed.Y=p.Y/\g'[ed.to.toNat]?=some y/\y.v=p.v/\y.Y=p.Y:=λp hp=>by have d6:p∈xs.map Ů:=(by rw[t1];exact(a8 p).2 hp);obtain⟨x,hx,rfl⟩:=gv.1 d6;obtain⟨ed,a0,a,j,y,b,_,d,f,_⟩:=hE.right x hx;exact⟨ed,a0,y,a,by rwa [b,fa],(D8 f).2.1,(D8 f).1⟩
   have a4:∀ed∈es,∃p∈e,∃(j:Nat) (y:BY),ed.Y=p.Y/\ed.to=(j:Int)/\1<=j/\g'[j]?=some y/\y.Y=p.Y/\y.v=p.v/\Cf q.L q.m.ru (AD e) ⟨y.Y,y.v⟩=some y.uk:=λed a0=>by obtain⟨x,hx,a,j,y,b,c,d,f,_⟩:=hE.left ed a0;obtain⟨k1,k2,k3⟩:=D8 f;refine⟨Ů x,(a8 _).1 (by rw[<-t1];exact ix hx),j,y,a,b,c,d,k1,k2,?_⟩;rw[k1,k2,k3];exact t2 x hx
   have d7:q.sx g' k=q.sx ns k:=(by unfold IS.sx zo;rw[gc,gc,b9,b0];rfl);have c7:ò q g' k {x0 with sd:=es}:=by
    refine⟨b8,λed a0=>?_,?_⟩
    .obtain⟨p,hp,j,y,a,b,c,d,f,_⟩:=a4 ed a0;exact⟨j,y,b,c,d,f.Z a.H⟩
    .rw[d7];have one:∀(p:sy) y,p∈e->Cr g' {x0 with sd:=es} p.Y=some y->y.v=p.v:=λp y hp hy=>by obtain⟨ed,a0,hn,hh⟩:=Kc hy;obtain⟨d9,c3,y',a,b,c,_⟩:=c8 p hp;have:=b8.inj a0 c3 (hn.Z a.H);subst this;rw[hh]at b;cases b;exact c
     have ex:∀p∈e,∃y,Cr g' {x0 with sd:=es} p.Y=some y:=λp hp=>by obtain⟨ed,a0,y,a,b,_⟩:=c8 p hp;exact⟨y,by rw[<-a];exact Za6 (x:={x0 with sd:=es}) b8 a0 b⟩
     refine⟨λw hw=>?_,λp hp=>?_,_,c4,λed a0=>?_⟩
     .rcases he.ux w hw with⟨v,a,b⟩|⟨a,b⟩
      .refine⟨λhn=>?_,λy hy=>?_⟩
       .obtain⟨y,hy⟩:=ex _ a;rw[hn]at hy;cases hy
       .rwa [one ⟨w.Y,v⟩ y a hy]
      .refine⟨λ_=>by omega,λy hy=>?_⟩;obtain⟨ed,a0,hn,_⟩:=Kc hy;obtain⟨p,hp,_,_,d5,_⟩:=a4 ed a0;exact fu (d5.H.Z hn) (b p hp)
     .have c6:=he.uk p (by rwa [a7]);obtain⟨y,hy⟩:=ex p c6;exact⟨y,hy,one p y c6 hy⟩
     .obtain⟨p,hp,j,y,a,b,c,d,f1,f2,f3⟩:=a4 ed a0;refine⟨?_,y,by rwa [b,fa],f3⟩;rw[a];obtain hh|hh:=he.from_ p hp
      .right;rw[a7]at hh;exact ix hh
      .exact .inl hh
   refine⟨⟨oM,oM,?_,by rw[a5];exact p2 h.nodup,λi x hx hi=>?_,λi x hx=>?_,λi x hx hi=>?_,λj hj e0=>?_⟩,oM⟩
   .obtain⟨x,a,b⟩:=h.root;obtain⟨x',c,d⟩:=a9.key 0 x a;exact⟨x',c,d.Z b⟩
   .by_cases b6:i<ns.length
    .obtain⟨y,a,b⟩:=b4 i x hx b6;rw[(D8 b).1,(D8 b).2.1];exact h.there i y a hi
    .exact c9 x (b2 i x hx oM)
   .by_cases b6:i<ns.length
    .obtain⟨y,a,b⟩:=b4 i x hx b6;rw[(D8 b).2.2];exact h.uk i y a
    .exact(PY (t2 x (b2 i x hx oM))).1
   .obtain hi|rfl:=iy.1 hi
    .have c5:ns[i]?=some x:=(by rwa [<-a9.same i oM oM]);exact(h.Xco i x c5 hi).grow a9 c5
    .rw[b9]at hx;cases hx;exact c7
   .by_cases d2:j<ns.length
    .obtain⟨i,a,b,ed,c,d⟩:=h.led j hj d2;refine⟨i,oM,b,ed,?_,d⟩;unfold Ar at c ⊢;rw[a9.same i oM oM];exact c
    .obtain⟨ed,a,b⟩:=p4 j oM oM;refine⟨k,oM,oM,ed,?_,b⟩;unfold Ar;rwa [b9]
def QF(hG:vl q.L)(hW:∀ns k,((q.sx ns k).map uu.Y).Nodup):∀(f:Nat)(ns:Ζ)(k:Nat)(dn l:Ο)(e:Η)(t:Nat)(ns':Ζ)(n:Nat),q.V f ns k l e t= .done ns' n->Ő q ns k->k<ns.length->q.sx ns k=dn++l->Xas q ns k dn e->Ő q ns' ns'.length
 |0,_,_,_,_,_,_,_,_,h,_,_,_,_=>by rw[IS.V]at h;cases h
 |f+1,ns,k,dn,[],e,t,ns',n,h,hH,hk,hd,he=>by
  rw[gz]at hd;subst hd;rw[IS.V]at h;cases hb:q.bind ns k e with
  |wy=>rw[hb]at h;cases h
  |many=>rw[hb]at h;cases h
  |ok a4=>
   rw[hb]at h;dsimp only at h;obtain⟨h1,h2⟩:=Zg hG hH hk he hb;by_cases hl:k+1=a4.length
   .rw[fo hl]at h;cases h;rwa [<-hl]
   .rw[fb hl]at h;have a0:k+1<a4.length:=oM;refine QF hG hW f a4 (k+1) [] _ _ t ns' n h h1 a0 rfl ⟨?_,λp hp=>hp,λp hp=>.inl hp,λw hw=>by cases hw⟩;have:=h1.uk (k+1) _ (dw a0);unfold th zo;rw[gc,dw a0];exact this.nodup
 |f+1,ns,k,dn,w::l,e,t,ns',n,h,hH,hk,hd,he=>by rw[IS.V]at h;obtain⟨o,ho,t',h'⟩:=XK h;refine QF hG hW f ns k (dn++[w]) l _ t' ns' n h' hH hk (by rw[hd];simp) (he.choose (λhw=>?_) ho);have:=hW ns k;rw[hd,gd,gu,ja]at this;exact this.2.2 _ hw _ (.head _) rfl
def Ő.sol{ns:Ζ}(h:Ő q ns ns.length)(hN:q.N<=128):Sol q ns:=by
 have a0:ns≠[]:=λhe=>by have:=h.pos;rw[he]at this;simp at this
 refine⟨⟨⟨h.pos,by have:=h.len;omega⟩,h.root,λi x hx=>?_,Zc a0 λj=>?_⟩,h.there,λi x hx=>?_⟩
 .have hs:=h.Xco i x hx (ec.1 hx).1;refine⟨h.uk i x hx,λ_=>?_,hs.ĸ,hs.to⟩;unfold Vp;obtain⟨hi,a4⟩:=ec.1 hx;refine jw.2 ⟨hi,by simp[a4],λj hj hp=>?_⟩;simp only[fp]at hp;have:=ii.1 h.nodup;rw[iv]at this;have:=gn.1 this j i oM hi hj;rw[a4]at this;exact this hp
 .induction j using Nat.strongRecOn with
  |_ j ih=>
   intro hj;obtain⟨_,_,h0,_,hc⟩:=TD a0;obtain rfl|hp:=ka j
   .exact h0
   .obtain⟨i,_,a5,hl⟩:=h.led j oM hj;exact hc i (ih i a5 oM) j hj hl
 .exact(h.Xco i x hx (ec.1 hx).1).sound
def Zd4(hG:vl q.L)(hW:∀ns k,((q.sx ns k).map uu.Y).Nodup)(h1:1<=q.N){ns:Ζ}{t:Nat}(h:q.run= .done ns t):Ő q ns ns.length:=by
 refine QF hG hW _ [ta] 0 [] _ _ _ ns t h ⟨by simp,h1,⟨ta,rfl,rfl⟩,by simp,λi x hx hi=>?_,λi x hx=>?_,λi x hx hi=>by omega,λj hj a0=>by simp at a0;omega⟩ sI rfl ⟨by simp,(λp hp=>by cases hp),(λp hp=>by cases hp),(λw hw=>by cases hw)⟩
 .have:=(ec.1 hx).1;simp at this;omega
 .have:=(ec.1 hx).1;have h0:i=0:=by simp at this;omega
  subst h0;cases hx;exact .nil
end
end Go.Hal
namespace Go.Hal
def Ï.up{α β:Type}{a:α}{b:β}{body:α->β->Int->Qd->(α->β->À)->Prop}(hN:N<=maxLen)(I:α->β->Â)(h0:I a b 0 w)
  (hs:∀(a:α) (b:β) (n:Nat) w' (a4:α->β->À),n<=N->I a b n w'->(n<N->∀a' b' a0,I a' b' (n+1) a0->a4 a' b' (Aa ((n:Int)+1)) a0)->body a b n w' a4):Ï a b 0 w body:=
 ⟨λa b i w'=>∃n:Nat,i=n/\n<=N/\I a b n w',λ_ _ i _=>N - i.toNat,⟨0,rfl,im _,h0⟩,λa b i w' ⟨n,hi,hn,hI⟩=>by subst hi;refine hs a b n w' _ hn hI λa5 a' b' a0 h=>?_;rw[J5 (n:=N) oM oM hN];exact⟨⟨n+1,oM,oM,h⟩,by show N - ((n:Int)+1).toNat<N - (n:Int).toNat;omega⟩⟩
def UN{α:Type}{p:α->Bool}{l:List α}(h:l.any p=false):l.find? p=none:=by rw[kq];intro x hx;have:=mm.1 h x hx;simpa using this
def Zee{α:Type}(p:α->Bool)(l:List α):(AX p l= -1/\l.find? p=none)\/∃k,∃hk:k<l.length,AX p l=(k:Int)/\l.find? p=some l[k]:=by
 by_cases h:AX p l= -1
 .refine .inl ⟨h,UN ?_⟩;rw[<-F9,h];rfl
 .obtain⟨n,hn,e,ht,hp⟩:=KK h;exact .inr ⟨n,hn,e,Qz hn (UN ht) hp⟩
def Jp{l:List PU}(h:IT vx w S s l)(hn:n<l.length):∃ad,s.a=some ad/\Ac l[n]/\∀w',AI w w'->se w' (ad.add (n*1)) [.string l[n]]:=by obtain⟨ad,cs,h1,h2,⟨rfl,h3⟩,h4⟩:=h.el hn;exact⟨ad,h1,h3,h4⟩
def C3(T:Θ)(p:Ap):Int:=match Az (T.map AF) p with
 |some i=>(i:Int)
 |none=>-1
def Zdf{T:Θ}(hi:i<T.length)(h:T[i].Of=p)(h0:∀j (hj:j<T.length),j<i->T[j].Of≠p):Az (T.map AF) p=some i:=by unfold Az;rw[jw];refine⟨by rwa [eh],by simpa[AF]using h,λj hj=>?_⟩;simpa[AF]using h0 j oM hj
def Zdg{T:Θ}(h:∀j (hj:j<T.length),T[j].Of≠p):Az (T.map AF) p=none:=by unfold Az;rw[nf];intro x hx;obtain⟨d,hd,rfl⟩:=gv.1 hx;obtain⟨j,hj,rfl⟩:=gh.1 hd;exact gl (h j hj)
def NK{a b:List PU}{T:Nat->Prop}(hs:IT vx w S s a)(ht:IT vx w T t b)(hR:∀w',AI w w'->R (decide (a=b)) w'):HB s t w R:=by
 unfold HB;have h1:=hs.len;have h2:=ht.len;refine⟨λh=>?_,λh=>?_⟩
 .have: ¬a=b:=λe=>by subst e;omega
  have h3:=hR w xR;rw[gl this]at h3;exact h3
 have a9:a.length=b.length:=by have:=jt.1 h;omega
 refine rn.up hs.max (λi w'=>AI w w'/\a.take i=b.take i) ⟨AI.refl _,rfl⟩ λi w1 b0 hi ⟨x1,hI⟩ hn=>⟨λa6=>sh.drew λw2 x2=>?_,λa8=>?_⟩
 .have k1:i<a.length:=oM;have k2:i<b.length:=oM;obtain⟨ad,ha,_,hc⟩:=Jp hs k1;obtain⟨a0,a4,_,a5⟩:=Jp ht k2;refine⟨ad,⟨ha,oM,a6⟩,_,hc _ (x1.Z x2),a0,⟨a4,oM,oM⟩,_,a5 _ (x1.Z x2),λh=>?_,λh=>?_⟩
  .have a7: ¬a=b:=λe=>(by subst e;exact h rfl);have h3:=hR w2 (x1.Z x2);rw[gl a7]at h3;exact h3
  .exact hn k1 _ ⟨x1.Z x2,OS k1 k2 hI (jt.1 h)⟩
 .have:i=a.length:=oM;subst this;rw[fe,ia oM]at hI;have h3:=hR w1 x1;rw[ie hI]at h3;exact h3
def Zi9{a b:List PU}{T:Nat->Prop}(hs:IT vx w S s a)(ht:IT vx w T t b)(hR:∀w',AI w w'->R (decide (a=b)) w'):Ob s t w R:=NK hs ht hR
def VL:ϯ=B Ð:=rfl
def Ws(p:Ap)(x:PU):Cc (p++[x])=(Cc p++Ð)++x.toList:=by unfold Cc;rw[qb];simp
def Rm:∀{p:Ap},Bd p=true->(Cc p).length<=p.length*25
 | [],_=>ga _
 |x::p,h=>by unfold Bd at h;rw[oe,ep]at h;have h1:=CQ h.1;have h2:=Rm (p:=p) h.2;have e:Cc (x::p)=Ð++x.toList++Cc p:=rfl;have e9:Ð.length=9:=rfl;rw[e,dx,dx,gb,e9];omega
def VQ(hi:i<p.length):Bd (p.take (i+1))=(Bd (p.take i)&&Ad p[i]):=by unfold Bd;rw[dz hi,qy];simp
def VV(hi:i<p.length)(h:Ad p[i]=false):Bd p=false:=by unfold Bd;rw[List.all_eq_false];exact⟨_,fm hi,by rw[h];decide⟩
def Zoi{R:Å}(hs:IT vx w S s p)(hR:∀w',AI w w'->R (B (A0 p)) w'):Oc s w R:=by
 unfold Oc;have hl:=hs.len;have hm:=hs.max;have a4:=hs.2.2.2.1;have a9:vx.bytes=16:=rfl;rw[a9]at a4;unfold Ab at a4;refine⟨λh=>?_,λh=>?_⟩
 .have:p=[]:=fq oM;subst this;exact hR w xR
 .have a7:p≠[]:=λe=>by subst e;exact h (by rw[hl];rfl)
  have e9:Ð.length=9:=rfl;refine uc.up hm (λrv i w'=>AI w w'/\Bd (p.take i)=true/\rv=B (Cc (p.take i))) ⟨AI.refl _,rfl,rfl⟩ λrv i w1 b4 hi ⟨x1,hI,ho⟩ hn=>⟨λa6=>?_,λb2=>?_⟩
  .have a0:i<p.length:=oM;obtain⟨ad,ha,b0,hc⟩:=Jp hs a0;refine⟨ad,⟨ha,oM,a6⟩,_,hc _ x1,Hi.V (î b0 λw2 x2=>⟨_,rfl,λhq=>?_,λhq=>?_⟩)⟩
   .have a5:=VV a0 (by simpa using hq);have h2:=hR w2 (x1.Z x2);unfold A0 at h2;rw[fb a7,fb (by rw[a5];decide)]at h2;exact h2
   .have a8:Ad p[i]=true:=(by simpa using hq);have h1:=CQ a8;have h2:=Rm hI;rw[fk,ky oM]at h2;subst ho;rw[VL,Ba];refine⟨by rw[Af,Af,Au,e9];omega,ad,⟨ha,oM,a6⟩,_,hc _ (x1.Z x2),?_⟩;rw[EH p[i],Ba];refine⟨by rw[Af,Af,Au,dx,e9];omega,hn a0 _ w2 ⟨x1.Z x2,by rw[VQ a0,hI,a8];rfl,?_⟩⟩;rw[dz a0,Ws]
  .rw[ia oM]at hI ho;have h2:=hR w1 x1;unfold A0 at h2;rw[fb a7,fo hI]at h2;rwa [ho]
def HG{R:Å}(hs:IT vx w S s p)(hb:p.length<=4000000000000)(hR:∀w',AI w w'->R (B (A0 p)) w'):E5 s w R:=by
 unfold E5;have hl:=hs.len;have hm:=hs.max;refine⟨λh=>?_,λh=>?_⟩
 .have:p=[]:=fq oM;subst this;exact hR w xR
 .have a5:p≠[]:=λe=>by subst e;exact h (by rw[hl];rfl)
  have e9:Ð.length=9:=rfl;intro a w1 ha hw;subst ha;have x1:AI w w1:=hw▸AI.alloc _ _;have a7:Č w.heap.size [] w1:=hw▸Ny w;refine rn.up hm (λi w'=>AI w w'/\Bd (p.take i)=true/\Č w.heap.size (Cc (p.take i)) w') ⟨x1,rfl,a7⟩ λi w2 b5 hi ⟨x2,hI,hB⟩ hn=>⟨λb0=>?_,λb4=>?_⟩
  .have a0:i<p.length:=oM;obtain⟨ad,ha,b2,hc⟩:=Jp hs a0;refine⟨ad,⟨ha,oM,b0⟩,_,hc _ x2,CI.V (uq b2 λw3 x3=>⟨_,rfl,λhq=>?_,λhq=>?_⟩)⟩
   .have a4:=VV a0 (by simpa using hq);have h2:=hR w3 (x2.Z x3);unfold A0 at h2;rw[fb a5,fb (by rw[a4];decide)]at h2;exact h2
   .have a6:Ad p[i]=true:=(by simpa using hq);have h1:=CQ a6;have h2:=Rm hI;rw[fk,ky oM]at h2;rw[VL];refine HY (m:=Ð) (hB.U x3) rfl (x2.Z x3) (by rw[e9];omega) λw4 n4 x4 a8=>⟨_,_,rfl,?_⟩;rw[EH p[i]];refine HY (m:=p[i].toList) a8 rfl x4 (by rw[dx,e9];omega) λw5 n5 x5 a9=>⟨_,_,rfl,hn a0 w5 ⟨x5,by rw[VQ a0,hI,a6];rfl,?_⟩⟩;rwa [dz a0,Ws]
  .rw[ia oM]at hI hB;refine Nx hB rfl x2 λw3 x3=>⟨_,rfl,?_⟩;have h2:=hR w3 x3;unfold A0 at h2;rw[fb a5,fo hI]at h2;exact h2
def Zd8{T:Θ}{q:tx->Bool}{R:À}(hs:IT vm w S s T)
  (hf:∀x∈T,∀(ps d e o:Sl) w' (k:Ã),AI w w'->IT vx w' S ps x.Of->(∀a4,AI w' a4->k (.bool (q x)) a4)->ug prog f [.agg #[ps.v,.string x.td.Y,vi x.td.v.ma,vi x.td.v.mi,vi x.td.v.pa,d.v,e.v,o.v,vi x.rk]] w' k)
  (hR:∀w',AI w w'->R (AX q T) w'):Mt s f w R:=by
 unfold Mt;have hl:=hs.len;refine rn.up hs.max (λi w'=>AI w w'/\(T.take i).any q=false) ⟨AI.refl _,rfl⟩ λi w1 a7 hi ⟨x1,hI⟩ hn=>⟨λa5=>?_,λa6=>?_⟩
 .have a0:i<T.length:=oM;obtain⟨ad,ps,d,e,o,ha,_,_,hp,_,_,_,hc⟩:=xt hs a0;refine⟨ad,⟨ha,oM,a5⟩,_,_,_,_,_,_,_,_,_,hc _ x1,hf _ (fm a0) ps d e o _ _ x1 (hp.U x1) λw2 x2=>⟨_,rfl,λh=>?_,λh=>?_⟩⟩
  .rw[<-FA a0 hI h];exact hR _ (x1.Z x2)
  .exact hn a0 _ ⟨x1.Z x2,by rwa [FL a0 hI]⟩
 .have:i=T.length:=oM;rw[this,fe]at hI;rw[<-EQ hI];exact hR _ x1
def Zb5:Bi prog 290:=enters_of func290 kR rfl
def Zdb(T:Θ)(p:Ap):AX (λd=>decide (d.Of=p)) T=C3 T p:=by
 unfold C3;by_cases h:AX (λd=>decide (d.Of=p)) T= -1
 .have h0:T.any (λd=>decide (d.Of=p))=false:=by rw[<-F9,h];rfl
  rwa [Zdg (λj hj=>by simpa using mm.1 h0 _ (fm hj))]
 .obtain⟨n,hn,e,ht,hp⟩:=KK h;rw[e,Zdf hn (mh hp) λj hj a0=>?_];have:=mm.1 ht T[j] (List.mem_take_iff_getElem.2 ⟨j,oM,rfl⟩);simpa using this
def Jr{T:Θ}{R:À}(hs:IT vm w S s T)(ht:IT vx w Q t p)(hR:∀w',AI w w'->R (C3 T p) w'):Fk s t w R:=by refine An.intro λa w1 x1 a5 _ _=>An.intro λa1 w2 x2 a6 _ _=>⟨s,a5.at0 (r:=[]) x2 rfl,?_⟩;have a0:=x1.Z x2;refine Mt.V (Zd8 (q:=λd=>decide (d.Of=p)) (hs.U a0) (λy _ ps d e o w3 k x3 hp hk=>⟨_,_,rfl,Zb5,OT.V ?_⟩) λw3 x3=>⟨_,rfl,by rw[Zdb];exact hR w3 (a0.Z x3)⟩);refine An.intro λa4 w4 x4 a7 _ _=>⟨ps,a7.at0 xR rfl,t,(a6.U (x3.Z x4)).se.pre (r:=[]) rfl,HB.V (NK (hp.U x4) ((ht.U a0).U (x3.Z x4)) λw5 x5=>⟨_,rfl,hk w5 (x4.Z x5)⟩)⟩
def Zdc{T:Θ}:C3 T p=(i:Int)↔Az (T.map AF) p=some i:=by
 unfold C3;cases Az (T.map AF) p with
 |none=>show(-1:Int)=(i:Int)↔_;exact⟨λh=>by omega,nO⟩
 |some k=>show(k:Int)=(i:Int)↔_;rw[ff];omega
def Zdd{T:Θ}:(0<=C3 T p/\C3 T p<(i:Int))↔∃h,h<i/\Az (T.map AF) p=some h:=by
 unfold C3;cases Az (T.map AF) p with
 |none=>show(0:Int)<= -1/\(-1:Int)<(i:Int)↔_;exact⟨λh=>by omega,λ⟨h,_,h2⟩=>by cases h2⟩
 |some k=>show(0:Int)<=(k:Int)/\(k:Int)<(i:Int)↔_;exact⟨λh=>⟨k,oM,rfl⟩,λ⟨h,h1,h2⟩=>by cases h2;omega⟩
structure ŏ(d:tx):Prop where
 Of:d.Of≠[]
 yn:Bd d.Of=true
 len:(A0 d.Of).length<=1024
 rk:1<=d.rk
def Zlz{T:Θ}{d:tx}:ó T i d↔ŏ d/\C3 T d.Of=(i:Int)/\(0<=C3 T d.Of.dropLast/\C3 T d.Of.dropLast<(i:Int))/\AH d.td=true/\d.Of.getLast? =some d.td.Y:=by
 rw[Zdc,Zdd];constructor
 .intro h;exact⟨⟨h.Of,h.yn,h.len,h.rk⟩,h.first,h.up,h.vt,h.Y⟩
 .rintro⟨h,h1,h2,h3,h4⟩;exact⟨h.Of,h.yn,h.len,h.rk,h1,h2,h3,h4⟩
def Zmk(h:p≠[]):Ag (B (A0 p)) ⟨#[]⟩= !Bd p:=by
 unfold A0;rw[fb h];cases hn:Bd p with
 |true=>rw[fo rfl];have h9:=Rn h;show Ag (B (Cc p)) ⟨#[]⟩=false;rw[qn];intro e;have:=kd ByteArray.toList (AA.1 e);rw[E9]at this;have e0:Ϣ.toList=[]:=E9 [];rw[e0]at this;rw[this]at h9;simp at h9
 |false=>rw[fb dC];exact AA.2 rfl
def Zd2{d:tx}(hn:n=d.Of.length):(((((n:Int)==0)||Ag (B (A0 d.Of)) ⟨#[]⟩)||decide (1024<((B (A0 d.Of)).size:Int)))||decide (d.rk<1))=false↔ŏ d:=by
 subst hn;rw[Af];by_cases h:d.Of=[]
 .constructor
  .intro hq;rw[h]at hq;simp at hq
  .intro hq;exact fu h hq.Of
 .rw[Zmk h];have e1:((d.Of.length:Int)==0)=false:=by rw[qn];intro e;have e:=eq_of_beq e;exact h (fq oM)
  rw[e1];simp only[qv,ik,qf,ig];constructor
  .rintro⟨⟨h1,h2⟩,h3⟩;exact⟨h,h1,oM,oM⟩
  .intro q;exact⟨⟨q.yn,by have:=q.len;omega⟩,by have:=q.rk;omega⟩
def Zfj{n:PU}(h:p.length - 1<p.length):Ag n p[p.length - 1]=true↔p.getLast? =some n:=by rw[AA,List.getLast?_eq_getElem?,dw h,ff];exact eq_comm
def IT.front(h:IT vx w S s p)(h0:p≠[]):Aa (((s.len:Nat):Int) - 1)=((p.length - 1:Nat):Int)/\IT vx w S (Sl.cut s 0 (p.length - 1) 1) p.dropLast:=by have hl:=h.len;have hm:=h.max;rw[Al]at hm;have hp:0<p.length:=nv.2 h0;refine⟨by rw[Ai oM oM];omega,?_⟩;have:=h.cut (a:=0) (b:=p.length - 1) (im _) oM;rw[lf,<-List.dropLast_eq_take]at this;exact this
def Zmo{T:Θ}(ht:Í w)(hs:IT vm w S s T)(hi:i<T.length)(hb:∀d∈T,d.Of.length<=4000000000000)(hR:∀(b:Bool) w',AI w w'->(b=true↔ó T i T[i])->R b w'):MK s (i:Int) w R:=by
 unfold MK;have d2:=hs.len;obtain⟨ad,ps,dd,ee,oo,ha,_,c8,hp,hd,he,ho,hc⟩:=xt hs hi;have hb:=hb _ (fm hi);have c7:=hp.len;have d1:T[i].Of.length<=ps.cap:=hp.2.1;rw[Zlz]at hR;generalize T[i]=d at*;have b7:∀w',AI w w'-> ¬(ŏ d/\C3 T d.Of=(i:Int)/\(0<=C3 T d.Of.dropLast/\C3 T d.Of.dropLast<(i:Int))/\AH d.td=true/\d.Of.getLast? =some d.td.Y)->R false w':=λw' hx h=>hR false w' hx ⟨nO,λhf=>fu hf h⟩;refine An.intro λa w1 x1 b4 _ _=>⟨s,b4.se.pre (r:=[]) rfl,ad,⟨ha,oM,oM⟩,_,_,_,_,_,_,_,_,_,hc _ x1,An.set rfl λa2 w2 x2 a0 _=>⟨ps,a0.at0 xR rfl,?_⟩⟩;have a8:=x1.Z x2;refine E5.V (HG (hp.U a8) hb λw3 x3=>⟨_,rfl,ps,a0.at0 x3 rfl,py (py (py ⟨d.rk,λ_=>a0.at1 (k:=8) (r:=[]) x3 rfl,py ?_⟩))⟩);have b5:=a8.Z x3;have a4:=Zd2 (d:=d) c7;generalize (((((ps.len:Int)==0)||Ag (B (A0 d.Of)) ⟨#[]⟩)||decide (1024<((B (A0 d.Of)).size:Int)))||decide (d.rk<1))=d0 at*;refine⟨s,λ_=>b4.at0 (r:=[]) (x2.Z x3) rfl,ps,λ_=>a0.at0 x3 rfl,?_⟩;refine No.intro (C3 T d.Of) (λ_ q hq=>Fk.V (Jr (hs.U b5) (hp.U b5) λw4 x4=>⟨_,rfl,hq w4 x4⟩)) λd3 w4 x4 a6=>⟨λhq=>b7 w4 (b5.Z x4) λ⟨h1,h2,_⟩=>?_,λhq=>sh.drew λw5 x5=>?_⟩
 .have hb:=a4.2 h1;subst hb;rw[a6 rfl,h2]at hq;simp at hq
 .rw[ik]at hq;obtain⟨q1,q2⟩:=hq;have h1:=a4.1 q1;have h2:C3 T d.Of=(i:Int):=by rw[q1]at a6;rw[<-a6 rfl];simpa using q2
  have a9:=x3.Z (x4.Z x5);have c3:=a8.Z a9;obtain⟨ew,b8⟩:=(hp.U c3).front h1.Of;refine⟨s,b4.at0 (r:=[]) (x2.Z a9) rfl,ps,a0.at0 a9 rfl,ps,a0.at0 a9 rfl,?_⟩;rw[ew,fa];refine⟨⟨oM,oM⟩,?_⟩;refine Fk.V (Jr (hs.U c3) b8 λw6 x6=>⟨_,rfl,sh.drew λw7 x7=>py (py ?_)⟩);have b6:=a9.Z (x6.Z x7);have b0:=a8.Z b6;refine⟨_,_,_,_,dd,ee,oo,λ_=>a0.at1 (k:=1) b6 rfl,?_⟩;refine No.intro (AH d.td) (λ_ q hq=>Gv.V (Ov (ht.U b0) c8 (hd.U b0) (he.U b0) (ho.U b0) λw8 x8=>⟨_,rfl,hq w8 x8⟩)) λd4 w8 x8 a7=>py ?_;have b2:=b6.Z x8;have c4:=a8.Z b2;have c9:0<d.Of.length:=nv.2 h1.Of;have b9:d.Of.length - 1<d.Of.length:=oM;obtain⟨al,c5,_,c6⟩:=Jp hp b9;refine⟨_,λ_=>a0.at1 (k:=1) b2 rfl,ps,λ_=>a0.at0 b2 rfl,ps,λ_=>a0.at0 b2 rfl,al,λ_=>by rw[ew];exact⟨c5,oM,oM⟩,_,λ_=>by rw[ew,fa];exact c6 _ c4,?_⟩;refine hR _ w8 c4 ?_;have a5:=Zfj (p:=d.Of) (n:=d.td.Y) b9;constructor
  .intro hq;simp only[ep,fp]at hq;obtain⟨⟨⟨k1,k2⟩,k3⟩,k4⟩:=hq;refine⟨h1,h2,⟨k1,k2⟩,?_,a5.1 k4⟩;rw[<-k3,a7 (by rw[ie k1,ie k2];rfl)]
  .rintro⟨_,_,⟨k1,k2⟩,k3,k4⟩;rw[ie k1,ie k2]at a7 ⊢;rw[a7 rfl,k3,a5.2 k4];rfl
def Zch{a b:Λ}{T:Nat->Prop}(hs:IT ui w S s a)(ht:IT ui w T t b)(hR:∀w',AI w w'->R (decide (a=b)) w'):Ms s t w R:=by
 unfold Ms;have hl:=hs.len;have a9:=ht.len;refine⟨λh=>?_,λh=>?_⟩
 .have:decide (a=b)=false:=gl λe=>h (by rw[hl,a9,e]);rw[<-this];exact hR _ xR
 have a4:a.length=b.length:=by have:=jt.1 h;omega
 refine rn.up hs.max (λi w'=>AI w w'/\a.take i=b.take i) ⟨AI.refl _,rfl⟩ λi w1 b4 hi ⟨x1,hI⟩ hn=>⟨λb0=>sh.drew λw2 x2=>?_,λb2=>?_⟩
 .have h1:i<a.length:=oM;have h2:i<b.length:=oM;obtain⟨ad,ha,_,hc⟩:=Fe hs h1;obtain⟨a5,a6,_,a7⟩:=Fe ht h2;have a0:=x1.Z x2;refine⟨ad,⟨ha,oM,b0⟩,_,_,_,_,_,_,hc _ a0,a5,⟨a6,oM,oM⟩,_,_,_,_,_,_,a7 _ a0,?_⟩;rw[WU];refine⟨λh=>?_,λh=>hn h1 _ ⟨a0,(Sr h1 h2 hI).2 (by simpa using h)⟩⟩;have:decide (a=b)=false:=gl (QY h1 h2 (by simpa using h));rw[<-this];exact hR _ a0
 .have a8:i=a.length:=oM;rw[a8,fe,a4,fe]at hI;have:decide (a=b)=true:=ie hI;rw[<-this];exact hR _ x1
def Zal{x y:uf}:decide (x=y)=(Ag x.Y y.Y&&decide (x.range=y.range)):=by obtain⟨n,l⟩:=x;obtain⟨m,k⟩:=y;rw[ij];simp only[fp,uf.mk.injEq,ep,AA]
def Zb1:Bi prog 287:=enters_of func287 kR rfl
def Zhx{x y:uf}{T:Nat->Prop}(hs:IT ui w S s x.range)(ht:IT ui w T t y.range)(hR:∀w',AI w w'->R (decide (x=y)) w'):L4 x.Y s y.Y t w R:=by
 unfold L4;rw[Zal]at hR;refine An.intro λa w1 x1 a5 _ _=>An.intro λa1 w2 x2 a6 _ _=>⟨_,a5.at0 x2 rfl,_,a6.at0 xR rfl,py ⟨s,λ_=>a5.at1 (k:=1) (r:=[]) x2 rfl,t,λ_=>a6.at1 (k:=1) (r:=[]) xR rfl,?_⟩⟩;have a4:=x1.Z x2;refine No.intro (decide (x.range=y.range)) (λ_ q hq=>Ms.V (Zch (hs.U a4) (ht.U a4) λw' hx=>⟨_,rfl,hq _ hx⟩)) λa7 w3 x3 a0=>?_;have h3:=hR w3 (a4.Z x3);cases hg:Ag x.Y y.Y with
 |false=>rw[hg]at h3;exact h3
 |true=>rw[hg]at h3 a0;rwa [a0 rfl]
def Rg{a b:Ι}{T:Nat->Prop}(hs:IT rq w S s a)(ht:IT rq w T t b)(hR:∀w',AI w w'->R (decide (a=b)) w'):Hw s t w R:=by
 refine OL.V ?_;unfold OL;have h1:=hs.len;have h2:=ht.len;have hf: ¬a=b->∀w',AI w w'->R false w':=λb4 w' hx=>by have h3:=hR w' hx;rw[gl b4]at h3;exact h3
 refine⟨λh=>⟨_,rfl,hf (λe=>by subst e;omega) w xR⟩,λh=>?_⟩;have b7:a.length=b.length:=by have:=jt.1 h;omega
 refine rn.up hs.max (λi w'=>AI w w'/\a.take i=b.take i) ⟨AI.refl _,rfl⟩ λi w1 b8 hi ⟨x1,hI⟩ hn=>⟨λb2=>?_,λb6=>?_⟩
 .have k1:i<a.length:=oM;have k2:i<b.length:=oM;obtain⟨ad,u,ha,_,_,hr,hc⟩:=BH hs k1;obtain⟨a6,u2,a7,_,_,b5,b0⟩:=BH ht k2;refine⟨ad,⟨ha,oM,b2⟩,_,u,hc _ x1,An.set rfl λa4 w2 x2 a8 _=>⟨a6,⟨a7,oM,oM⟩,_,u2,b0 _ (x1.Z x2),An.set rfl λa5 w3 x3 a9 _=>?_⟩⟩;have a0:=x1.Z (x2.Z x3);refine⟨_,u,(a8.U x3).se.pre (r:=[]) rfl,_,u2,a9.se.pre (r:=[]) rfl,_,_,rfl,Zb1,L4.V (Zhx (hr.U a0) (b5.U a0) λw4 x4=>⟨_,rfl,λhq=>?_,λhq=>?_⟩)⟩
  .refine⟨_,rfl,hf (λhh=>?_) w4 (a0.Z x4)⟩;have:a[i]=b[i]:=(by subst hh;rfl);rw[ie this]at hq;cases hq
  .exact hn k1 w4 ⟨a0.Z x4,OS k1 k2 hI (by simpa using hq)⟩
 .have:i=a.length:=oM;subst this;rw[fe,ia oM]at hI;have h3:=hR w1 x1;rw[ie hI]at h3;exact⟨_,rfl,h3⟩
def Zhy{x y:sf}:decide (x=y)=(Ag x.Y y.Y&&decide (x.v=y.v)&&decide (x.sj=y.sj)&&decide (x.sw=y.sw)&&decide (x.ut=y.ut)):=by obtain⟨n,v,d,e,o⟩:=x;obtain⟨n',v',d',e',o'⟩:=y;rw[ij];simp only[fp,sf.mk.injEq,ep,AA];exact⟨λ⟨a,b,c,d,e⟩=>⟨⟨⟨⟨a,b⟩,c⟩,d⟩,e⟩,λ⟨⟨⟨⟨a,b⟩,c⟩,d⟩,e⟩=>⟨a,b,c,d,e⟩⟩
def Lz{p q:sf}{e d' e' o':Sl}{T:Nat->Prop}(hd:IT rq w S d p.sj)(he:IT rq w S e p.sw)(ho:IT rq w S o p.ut)(b0:IT rq w T d' q.sj)(b2:IT rq w T e' q.sw)(b4:IT rq w T o' q.ut)
  (hR:∀w',AI w w'->R (decide (p=q)) w'):FE p.Y p.v.ma p.v.mi p.v.pa d e o q.Y q.v.ma q.v.mi q.v.pa d' e' o' w R:=by
 unfold FE;rw[Zhy]at hR;refine An.intro λa w1 x1 hb _ _=>An.intro λa1 w2 x2 a4 _ _=>⟨_,hb.at0 x2 rfl,_,a4.at0 xR rfl,py ⟨_,_,_,λ_=>hb.at1 (k:=1) x2 rfl,_,_,_,λ_=>a4.at1 (k:=1) xR rfl,py ⟨d,λ_=>hb.at1 (k:=4) x2 rfl,d',λ_=>a4.at1 (k:=4) xR rfl,?_⟩⟩⟩;have a7:=x1.Z x2;have ev:((p.v.ma==q.v.ma)&&((p.v.mi==q.v.mi)&&((p.v.pa==q.v.pa)&&true)))=decide (p.v=q.v):=Jv;rw[ev];refine No.intro (decide (p.sj=q.sj)) (λ_ k hk=>Hw.V (Rg (hd.U a7) (b0.U a7) λw' hx=>⟨_,rfl,hk _ hx⟩)) λt3 w3 x3 a6=>py ⟨e,λ_=>hb.at1 (k:=5) (x2.Z x3) rfl,e',λ_=>a4.at1 (k:=5) x3 rfl,?_⟩;have a8:=a7.Z x3;refine No.intro (decide (p.sw=q.sw)) (λ_ k hk=>Hw.V (Rg (he.U a8) (b2.U a8) λw' hx=>⟨_,rfl,hk _ hx⟩)) λt4 w4 x4 a5=>py ⟨o,λ_=>hb.at1 (k:=6) (r:=[]) (x2.Z (x3.Z x4)) rfl,o',λ_=>a4.at1 (k:=6) (r:=[]) (x3.Z x4) rfl,?_⟩;have a9:=a8.Z x4;refine No.intro (decide (p.ut=q.ut)) (λ_ k hk=>Hw.V (Rg (ho.U a9) (b4.U a9) λw' hx=>⟨_,rfl,hk _ hx⟩)) λt5 w5 x5 a0=>?_;have h5:=hR w5 (a9.Z x5);cases hg:(Ag p.Y q.Y&&decide (p.v=q.v))with
 |false=>rw[hg]at h5;exact h5
 |true=>
  rw[hg]at h5 a6 a5 a0;have a6:=a6 rfl;subst a6;cases h1:decide (p.sj=q.sj)with
  |false=>rw[h1]at h5;exact h5
  |true=>
   rw[h1]at h5 a5 a0;have a5:=a5 rfl;subst a5;cases h2:decide (p.sw=q.sw)with
   |false=>rw[h2]at h5;exact h5
   |true=>rw[h2]at h5 a0;have a0:=a0 rfl;subst a0;exact h5
open Classical in
noncomputable def GX (T:Θ):Int:=if vr T then 0 else 42
def PO{T:Θ}(h:vr T):GX T=0:=by unfold GX;rw[fo h]
def TW{T:Θ}(h: ¬vr T):GX T=42:=by unfold GX;rw[fb h]
def PP{T:Θ}:GX T=0↔vr T:=by
 constructor
 .intro h;exact jg λhn=>by rw[TW hn]at h;cases h
 .exact PO
def Zas{d:tx}:(d.Of=[]/\d.td=Ay/\d.rk=0)↔d=⟨[],Ay,0⟩:=by obtain⟨p,k,n⟩:=d;simp only[tx.mk.injEq]
def XE{T:Θ}{R:À}(ht:Í w)(hs:IT vm w S s T)(hb:∀d∈T,d.Of.length<=4000000000000)(hR:∀w',AI w w'->R (GX T) w'):Js s w R:=by
 unfold Js;have c5:=hs.len;have a9:∀w',AI w w'-> ¬vr T->R 42 w':=λw' hx h=>by have:=hR w' hx;rwa [TW h]at this
 refine An.intro λa w1 x1 a8 _ _=>⟨s,a8.se.pre (r:=[]) rfl,py ⟨s,λ_=>a8.se.pre (r:=[]) rfl,λhc=>a9 w1 x1 λhF=>?_,λhc=>?_⟩⟩
 .have:=hF.len;rw[gl oM,gl oM]at hc;cases hc
 simp only[ik,ig]at hc;obtain⟨b9,c3⟩:=hc;refine⟨s,a8.se.pre (r:=[]) rfl,?_⟩;refine rn.up hs.max (λi w'=>AI w1 w'/\∀j (hj:j<T.length),j<i->(if j=0 then T[j]=⟨[],Ay,0⟩else ó T j T[j])) ⟨AI.refl _,λj _ h=>by omega⟩ λi w2 c7 hi ⟨x2,hI⟩ hn=>⟨λb8=>?_,λc4=>?_⟩
 .have a0:i<T.length:=oM;have b5:=x1.Z x2;obtain⟨ad,ps,dd,ee,oo,ha,_,c6,hp,hd,he,ho,hc⟩:=xt hs a0;have b4:=hp.len;refine⟨ad,⟨ha,oM,b8⟩,_,_,_,_,_,_,_,_,_,hc _ b5,An.set rfl λa5 w3 x3 b0 _=>join.named λJ hJ=>?_⟩;have a7:=b5.Z x3;have a4:∀(b:Bool) w',AI w1 w'->(b=true↔(if i=0 then T[i]=⟨[],Ay,0⟩else ó T i T[i]))->J b w':=by
   subst hJ;intro b w' hx hq;refine⟨λh=>a9 w' (x1.Z hx) λhF=>?_,λh=>hn a0 w' ⟨hx,λj hj b7=>?_⟩⟩
   .have:b=true:=hq.2 (by
     split
     .rename_i h0;subst h0;have:=hF.root;rw[dw a0]at this;exact jz this
     .rename_i h0;exact hF.su i _ (dw a0) h0)
    rw[this]at h;cases h
   .obtain h'|h':=iy.1 b7
    .exact hI j hj h'
    .subst h';exact hq.1 (by simpa using h)
  clear hJ hn;refine⟨λh0=>?_,λh0=>?_⟩
  .have b2:i=0:=oM;rw[fo b2]at a4;rw[<-Zas]at a4;generalize T[i]=d at*;refine⟨ps,b0.at0 xR rfl,py ⟨_,_,_,_,dd,ee,oo,λ_=>b0.at1 (k:=1) xR rfl,?_⟩⟩;refine No.intro (decide (d.td=Ay)) (λ_ q hq=>FE.V (Lz (p:=d.td) (q:=Ay) (T:=rz) (hd.U a7) (he.U a7) (ho.U a7) (IT.nil trivial) (IT.nil trivial) (IT.nil trivial) λw4 x4=>⟨_,rfl,hq w4 x4⟩)) λc8 w4 x4 a6=>py ⟨d.rk,λ_=>b0.at1 (k:=8) (r:=[]) x4 rfl,a4 _ w4 (x2.Z (x3.Z x4)) ?_⟩;have e1:(((ps.len:Nat):Int)==0)=true↔d.Of=[]:=by
    rw[ko];constructor
    .intro h;exact fq oM
    .intro h;rw[h]at b4;simp at b4;omega
   constructor
   .intro hq;simp only[ep]at hq;obtain⟨⟨k1,k2⟩,k3⟩:=hq;rw[a6 k1]at k2;exact⟨e1.1 k1,mh k2,by simpa using k3⟩
   .rintro⟨k1,k2,k3⟩;rw[e1.2 k1]at a6 ⊢;rw[a6 rfl,ie k2,k3];rfl
  .have b2:i≠0:=oM;rw[fb b2]at a4;refine⟨s,a8.at0 (r:=[]) (x2.Z x3) rfl,MK.V (Zmo (ht.U a7) (hs.U a7) a0 hb λb w4 x4 hq=>⟨b,rfl,a4 b w4 (x2.Z (x3.Z x4)) hq⟩)⟩
 .have h:=hR w2 (x1.Z x2);rw[PO ⟨⟨oM,oM⟩,?_,λi d hd h0=>?_⟩]at h
  .exact h
  .have:=hI 0 oM oM;rw[fo rfl]at this;rw[dw oM,this]
  .obtain⟨b6,rfl⟩:=ec.1 hd;have:=hI i b6 oM;rwa [fb h0]at this
def Zgk{k:vu}{e v d' e' o' v':Sl}{T:Nat->Prop}(hd:IT rq w S d m.sj)(he:IT rq w S e m.uo)(ho:IT rq w S o m.ut)(hv:IT rq w S v m.ru)(a7:IT rq w T d' k.sj)(a8:IT rq w T e' k.uo)(a9:IT rq w T o' k.ut)(b0:IT rq w T v' k.ru)
  (hR:∀w',AI w w'->R (decide (m=k)) w'):Lk d e o v d' e' o' v' w R:=by
 unfold Lk;have eq:decide (m=k)=(decide ((⟨⟨#[]⟩,⟨0,0,0⟩,m.sj,m.uo,m.ut⟩:sf)=⟨⟨#[]⟩,⟨0,0,0⟩,k.sj,k.uo,k.ut⟩)&&decide ((⟨⟨#[]⟩,⟨0,0,0⟩,m.ru,[],[]⟩:sf)=⟨⟨#[]⟩,⟨0,0,0⟩,k.ru,[],[]⟩)):=by obtain⟨a,b,c,d⟩:=m;obtain⟨a',b',c',d'⟩:=k;rw[ij];simp only[fp,vu.mk.injEq,sf.mk.injEq,ep,true_and,and_true];exact⟨λ⟨a,b,c,d⟩=>⟨⟨a,b,c⟩,d⟩,λ⟨⟨a,b,c⟩,d⟩=>⟨a,b,c,d⟩⟩
 rw[eq]at hR;refine An.intro λa w1 x1 hb _ _=>An.intro λa1 w2 x2 a4 _ _=>⟨d,hb.at0 x2 rfl,e,hb.at1 (k:=1) x2 rfl,o,hb.at1 (k:=2) x2 rfl,d',a4.at0 xR rfl,e',a4.at1 (k:=1) xR rfl,o',a4.at1 (k:=2) xR rfl,?_⟩;have a0:=x1.Z x2;refine FE.V (Lz (p:=⟨⟨#[]⟩,⟨0,0,0⟩,m.sj,m.uo,m.ut⟩) (q:=⟨⟨#[]⟩,⟨0,0,0⟩,k.sj,k.uo,k.ut⟩) (hd.U a0) (he.U a0) (ho.U a0) (a7.U a0) (a8.U a0) (a9.U a0) λw3 x3=>⟨_,rfl,v,λ_=>hb.at1 (k:=3) (r:=[]) (x2.Z x3) rfl,v',λ_=>a4.at1 (k:=3) (r:=[]) x3 rfl,?_⟩);have a5:=a0.Z x3;refine No.intro (decide ((⟨⟨#[]⟩,⟨0,0,0⟩,m.ru,[],[]⟩:sf)=⟨⟨#[]⟩,⟨0,0,0⟩,k.ru,[],[]⟩)) (λ_ q hq=>FE.V (Lz (p:=⟨⟨#[]⟩,⟨0,0,0⟩,m.ru,[],[]⟩) (q:=⟨⟨#[]⟩,⟨0,0,0⟩,k.ru,[],[]⟩) (S:=S) (T:=T) (hv.U a5) (IT.nil trivial) (IT.nil trivial) (b0.U a5) (IT.nil trivial) (IT.nil trivial) λw4 x4=>⟨_,rfl,hq w4 x4⟩)) λb2 w4 x4 a6=>?_;have h4:=hR w4 (a5.Z x4);revert a6 h4;cases decide ((⟨⟨#[]⟩,⟨0,0,0⟩,m.sj,m.uo,m.ut⟩:sf)=⟨⟨#[]⟩,⟨0,0,0⟩,k.sj,k.uo,k.ut⟩)with
 |false=>exact λ_ h=>h
 |true=>exact λh1 h2=>by rwa [h1 rfl]
end Go.Hal
