/- Lemmas for the claim K19n: how the program's functions run, and what they answer; no condition but those that each theorem names. -/
import Derived.Test.YtgolaibmophnjaaGreatDoorK19nB6
set_option linter.unusedVariables false
set_option linter.unusedSimpArgs false
set_option linter.defProp false
set_option maxHeartbeats 16000000
open Go Go.RowKit Go.Proofs Go.Shelf Go.Hal Go.Proofs.Tryz
variable {n:Nat}
namespace Go.Hal
def Zee{T:List Dir}{k:Nat}(h:k<T.length)(n:Int):E7 (T.take (k+1)) n=E7 (T.take k) n+if T[k].node=n then 1 else 0:=by unfold E7;rw[dw h,jq,du];by_cases hc:T[k].node=n<;>simp[hc]
def Zed(T:List Dir)(n:Int):E7 T n<=T.length:=iw _ _
def OnlyK(G:LN)(x:Node)(n k:Nat):Prop:=x.ctx=[]/\∀j y,G[j]?=some y->j≠0->j<k->j≠n->y.name≠x.name
def OnlyK.one{G:LN}{x:Node}:OnlyK G x n 1↔x.ctx=[]:=⟨λh=>h.1,λh=>⟨h,λj y _ h0 h1=>by omega⟩⟩
def OnlyK.next{G:LN}{x:Node}{k:Nat}(hk:k<G.length)(h0:1<=k):OnlyK G x n (k+1)↔OnlyK G x n k/\(k=n\/G[k].name≠x.name):=by
 constructor
 .rintro⟨h1,h2⟩;refine⟨⟨h1,λj y hj h3 h4 h5=>h2 j y hj h3 oM h5⟩,?_⟩;by_cases hn:k=n
  .exact .inl hn
  .exact .inr (h2 k _ (dt hk) oM oM hn)
 .rintro⟨⟨h1,h2⟩,h3⟩;refine⟨h1,λj y hj h4 h5 h6=>?_⟩;by_cases a0:j=k
  .subst a0;rw[dt hk,ep]at hj;obtain h3|h3:=h3
   .exact absurd h3 h6
   .rw[<-hj];exact h3
  .exact h2 j y hj h4 oM h6
def Zz{SA:Nat->Prop}{sP sS:Sl}{D N Di P:Int}{lp:List Pack}{ls:List StepC}{w:Wd}{R:Bool->Wp}(hg:Gl w)(hA:Old SA w)(hP:SlR packE w SA sP lp)(hS:SlR Mm w SA sS ls)
  (hR:∀w',Ext w w'->R true w'):SE.Kj sP D N Di P sS w R:=by
 unfold SE.Kj;refine newS.intro λa w1 x1 ha ah _=>⟨_,_,_,_,_,_,ha.at0 (r:=[]) xR rfl,?_⟩;refine SE.Ih.go (SW (hg.ext x1).tab (hA.ext x1.size) (hP.ext x1) λp r q w3 x3 hB=>⟨_,_,_,rfl,nO,λ_=>?_⟩);obtain⟨⟨SC,e1,_,_⟩,_⟩:=hB;have d6:=x1.trans x3;have al:=ha.lt;have q1:=x1.size;have q3:=x3.size;have t5:=hS.len;refine SE.Im.go (imgEmpty_se λg0 t0 w4 x4 hE=>⟨_,_,_,_,_,_,_,rfl,newS.intro λa5 w6 x6 h5 ag _=>?_⟩);have q4:=x4.size;have q6:=x6.size;have l5:=h5.lt;refine Wj (st:=s21) h5 (BW hE x6) λw7 b7 h9 j4=>?_;have n7:Ext w3 w7:=b7.ext (x4.trans x6) oM;refine loop1.up hS.max (λ_ w'=>∃(s:Stt) (d e o v g t:Sl),Ext w3 w'/\BoxAt w' a5 [d.v,e.v,o.v,v.v,g.v,t.v,.bool s.pruned]/\SttS w' (λb=>b<w'.heap.size) d e o v g t s/\∀d∈s.T,d.path.length<=4000000000000)
  ⟨s21,_,_,_,_,_,_,n7,h9,j4,Zil⟩ λi w8 n1 hi ⟨s,d,e,o,v,g,t,x8,h5,hs,j5⟩ hn=>⟨sS,ha.at1 (k:=5) (r:=[]) (x3.trans x8) rfl,λa8=>?_,λ_=>SE.Kk.go (Zdl (hg.ext (d6.trans x8)) λw9 x9=>⟨true,rfl,hR w9 ((d6.trans x8).trans x9)⟩)⟩
 have j0:i<ls.length:=oM;obtain⟨ad,f4,⟨sn,sr,sp⟩,hc⟩:=Zjo hS j0;generalize am:ls[i]=x at*;have k8:=d6.trans x8;have q8:=x8.size;have l8:=h5.lt;refine join.named λJ0 i2=>?_;have e3:∀(s':Stt)(d e o v g t:Sl)(w':Wd),Ext w3 w'->BoxAt w' a5 [d.v,e.v,o.v,v.v,g.v,t.v,.bool s'.pruned]->SttS w' (λb=>b<w'.heap.size) d e o v g t s'->(∀d∈s'.T,d.path.length<=4000000000000)->J0 w':=by subst i2;intro s' d e o v g t w' h1 h2 h3 h4;exact hn j0 w' ⟨s',d,e,o,v,g,t,h1,h2,h3,h4⟩
 clear i2 hn hR;refine join.named λJ1 i3=>?_;have k1:∀(B:AnsC)(u:Stt)(vs va:Addr)(w9:Wd),Ext w8 w9->(∃q,DoR (CZ lp) s x q D N Di P B u)->(∃d e o v g t,BoxAt w9 vs [Sl.v d,Sl.v e,Sl.v o,Sl.v v,Sl.v g,Sl.v t,.bool u.pruned]/\SttS w9 (λb=>b<w9.heap.size) d e o v g t u)->BoxAt w9 va [vi B.code,vi B.dec,vi B.nodes,vi B.dirs]->va.block≠a5.block->J1 vs va w9:=by
  subst i3;intro B u vs va w9 x9 ⟨q,hd⟩ ⟨d2,e2,o2,v2,g2,u2,hv,n0⟩ f8 m7;have q9:=x9.size;have n8:=x8.trans x9;refine⟨_,_,_,_,_,_,_,hv.at0 (r:=[]) xR rfl,?_⟩;refine Wj (h5.ext x9) n0 λb4 g4 k5 a4=>?_;have b2:Ext w3 b4:=g4.ext n8 oM;have f8:=g4.box f8 m7;have j6:=hd.short j5;have e5:∀w',Ext b4 w'->J0 w':=λw' hx=>e3 u _ _ _ _ _ _ w' (b2.trans hx) (k5.ext hx) (BW a4 hx) j6;have wd:=d6.trans b2;refine⟨B.code,f8.at0 xR rfl,bound ⟨sS,λ_=>ha.at1 (k:=5) (r:=[]) (x3.trans b2) rfl,ad,λ_=>⟨f4,oM,a8⟩,x.op,λ_=>by rw[ec];exact(hc _ wd).pre (r:=[_,_,_,_,_]) rfl,bound ⟨sS,λ_=>ha.at1 (k:=5) (r:=[]) (x3.trans b2) rfl,ad,λ_=>⟨f4,oM,a8⟩,x.op,λ_=>by rw[ec];exact(hc _ wd).pre (r:=[_,_,_,_,_]) rfl,λ_=>e5 b4 xR,λhb=>?_⟩⟩⟩;have l7:B.code=0/\(x.op=2\/x.op=6):=by simp only[gh,ly,ni,beq_iff_eq]at hb;exact hb
  obtain⟨l9,m9⟩:=l7;obtain⟨pins,j,tt,e0,j3,d4,_,_⟩:=hd.okay l9;have f5:j.keep=false:=by
   obtain h|h:=m9
   .have:=((AskR.install (m:=s.m) (pins:=pins) (pruned:=s.pruned) (x:=x) (r:=q) h).one e0).2 rfl;rw[<-this]
   .have:=((AskR.dedupe (m:=s.m) (pins:=pins) (pruned:=s.pruned) (x:=x) (r:=q) h).one e0).2 rfl;rw[<-this]
  rw[f5]at d4;have d4:PlaceR u.g (CP (CZ lp) u.g) none Di P 0 u.T:=d4;have aj:=a4.g.len;have ak:=a4.t.len;have hT:=a4.t.max;rw[Ak]at hT;refine loop1.from1 a4.g.max (λ_ w'=>Ext b4 w') xR λn n2 n1 h1 hn d0 m8=>⟨g2,(k5.ext d0).at1 (k:=4) xR rfl,λa8=>?_,λ_=>e5 n2 d0⟩;have f7:n<u.g.length:=oM;obtain⟨g3,cn,en,d9,_,i9,_,i7⟩:=Cj a4.g f7;have j2:=Ze9 j3 d4 (n:=n) oM (dt f7);generalize hy:u.g[n]=y at*;refine⟨g2,(k5.ext d0).at1 (k:=4) xR rfl,g3,⟨d9,oM,a8⟩,cn,by rw[ec];exact(i7 _ d0).mid (k:=4) rfl,?_⟩;have m1:=i9.len;refine loop2.from1 a4.g.max (λonly k w'=>Ext b4 w'/\(only=true↔OnlyK u.g y n k)) ⟨d0,by rw[OnlyK.one];simp;rw[m1];exact List.length_eq_zero_iff⟩ λonly k aq t6 m3 hk ⟨g1,d3⟩ m5=>⟨g2,(k5.ext g1).at1 (k:=4) xR rfl,λf6=>bnd.drew λn4 n5=>?_,λai=>?_⟩
  .have b6:k<u.g.length:=oM;obtain⟨k9,_,_,i4,_,_,_,m0⟩:=Cj a4.g b6;have a6:=g1.trans n5;refine bound ⟨g2,λ_=>(k5.ext a6).at1 (k:=4) xR rfl,k9,λ_=>⟨i4,oM,f6⟩,u.g[k].name,λ_=>by rw[ec];exact(m0 _ a6).pre rfl,g2,λ_=>(k5.ext a6).at1 (k:=4) xR rfl,g3,λ_=>⟨d9,oM,a8⟩,y.name,λ_=>by rw[ec];exact(i7 _ a6).pre rfl,?_⟩;refine m5 b6 _ n4 ⟨a6,?_⟩;rw[OnlyK.next b6 m3,<-d3,dz,mf,beq_iff_eq,kx,<-Bool.not_eq_true,AH];have:((k:Int)=(n:Int))↔k=n:=oM;rw[this]
  .have b6:OnlyK u.g y n k↔(y.ctx=[]/\∀j z,u.g[j]?=some z->j≠0->j≠n->z.name≠y.name):=
    ⟨λh=>⟨h.1,λj z hz h0 hj=>h.2 j z hz h0 (by have:=(fe.1 hz).1;omega) hj⟩,λh=>⟨h.1,λj z hz h0 _ hj=>h.2 j z hz h0 hj⟩⟩
   rw[b6]at d3;refine loop2.up (N:=u.T.length) a4.t.max (λmany k w'=>Ext b4 w'/\many=(E7 (u.T.take k) n:Int)) ⟨g1,rfl⟩ λmany k2 f9 t7 j1 ⟨d1,a7⟩ m6=>⟨u2,(k5.ext d1).at1 (k:=5) xR rfl,λf6=>join.named λJ4 l6=>?_,λt4=>?_⟩
   .have b8:k2<u.T.length:=oM;have d5:=Zee b8 (n:Int);have m4:=Zed (u.T.take k2) n;rw[fb]at m4;obtain⟨l0,_,_,_,_,i5,_,_,_,_,_,_,m2⟩:=dirEl a4.t b8;have e4:∀m:Int,m=(E7 (u.T.take (k2+1)) n:Int)->J4 m f9:=(by subst l6;intro m hm;exact m6 b8 m f9 ⟨d1,hm⟩);refine⟨u2,(k5.ext d1).at1 (k:=5) xR rfl,l0,⟨i5,oM,f6⟩,u.T[k2].node,by rw[ec];exact(m2 _ d1).mid (k:=8) (r:=[]) rfl,λhe=>e4 _ ?_,λhe=>e4 _ ?_⟩
    .rw[if_pos he]at d5;rw[d5,a7,Ag oM oM];omega
    .rw[if_neg he]at d5;rw[d5,a7];rfl
   .have j1:k2=u.T.length:=oM;rw[j1,eu]at a7;refine bound ⟨λhc=>?_,λ_=>m8 f7 f9 d1⟩;exfalso;obtain⟨l1,l2⟩:=j2;rw[mf,decide_eq_true_eq,dz]at hc;rcases hc with hc|⟨hc,i6⟩
    .omega
    .have:=l2 (d3.1 hc).1 (λk z hz h0 hk=>(d3.1 hc).2 k z hz h0 hk);rw[a7,this]at i6;simp at i6
 clear i3 e3;have b5:∀{wX:Wd} {K:Value->Wp},Ext w8 wX->(∀B u d e o v g t w',Ext wX w'->(∃q,DoR (CZ lp) s x q D N Di P B u)->SttS w' (λb=>b<w'.heap.size) d e o v g t u->wX.heap.size<=w'.heap.size->K (.tuple #[.agg #[Sl.v d,Sl.v e,Sl.v o,Sl.v v,Sl.v g,Sl.v t,.bool u.pruned],.agg #[vi B.code,vi B.dec,vi B.nodes,vi B.dirs]]) w')->
   callS prog 8 [.agg #[d.v,e.v,o.v,v.v,g.v,t.v,.bool s.pruned],.pointer (some p),.agg #[vi x.op,.string x.name,.string x.range,vi x.kind,.string x.pack,vi x.n],.agg #[vi D,vi N,vi Di,vi P]] wX K:=λ{wX K} y hK=>
  SE.Fo.go (TC (s:=s) (x:=x) (S:=λb=>b<wX.heap.size) (hg.ext (k8.trans y)) sn (λb hb=>hb) (BW hs y) (e1.ext (x8.trans y)) j5 λB u d e o v g t w' x' ⟨q,_,hd⟩ hs=>hK B u d e o v g t w' x' ⟨q,hd⟩ hs x'.size)
 refine bnd.drew λar a0=>⟨_,_,_,_,_,_,_,(h5.ext a0).at0 (r:=[]) xR rfl,sS,ha.at1 (k:=5) (r:=[]) (x3.trans (x8.trans a0)) rfl,ad,⟨f4,oM,a8⟩,_,_,_,_,_,_,by rw[ec];exact hc _ (k8.trans a0),D,N,Di,P,ha.at1 (k:=1) (x3.trans (x8.trans a0)) rfl,?_⟩;have an:=a0.size;clear a8 hc ha h5 hs hE h9 j4 e1 hP hS hg hA;exact⟨(b5 (a0) λn9 v0 r6 s2 t8 w5 s7 v7 y0 e8 e7 e6 u4=>⟨_,_,_,_,_,_,_,_,_,_,_,rfl,⟨(newS.intro λo7 y1 e9 g5 q0 z5=>(newS.intro λo8 y2 b9 g6 q2 z6=>(Cw (a0.trans (e8.trans (e9.trans (b9)))) (g5.ext (b9)) (g6.ext xR) oM oM oM (BW e6 (e9.trans (b9))) λw x ha hb hs=>k1 _ _ _ _ w x e7 ⟨_,_,_,_,_,_,ha,hs⟩ hb oM))),(newS.intro λo9 y3 f0 g7 q5 z7=>(newS.intro λp0 y4 c3 g8 q7 z8=>(Cw (a0.trans (e8.trans (f0.trans (c3)))) (g8.ext xR) (g7.ext (c3)) oM oM oM (BW e6 (f0.trans (c3))) λw x ha hb hs=>k1 _ _ _ _ w x e7 ⟨_,_,_,_,_,_,ha,hs⟩ hb oM)))⟩⟩),(newS.intro λp4 y5 a9 d7 r0 z9=>⟨(b5 (a0.trans (a9)) λo0 v3 r7 s3 t9 x0 s8 v8 y6 f1 k3 j7 u5=>⟨_,_,_,_,_,_,_,_,_,_,_,rfl,(newS.intro λp5 y7 c4 g9 r1 aa=>(Cw (a0.trans (a9.trans (f1.trans (c4)))) (d7.ext (f1.trans (c4))) (g9.ext xR) oM oM oM (BW j7 (c4)) λw x ha hb hs=>k1 _ _ _ _ w x k3 ⟨_,_,_,_,_,_,ha,hs⟩ hb oM))⟩),(newS.intro λp6 y8 c5 h6 r2 ab=>(b5 (a0.trans (a9.trans (c5))) λo4 v4 r8 s4 u0 x2 s9 v9 y9 c6 k4 j8 u6=>⟨_,_,_,_,_,_,_,_,_,_,_,rfl,(Cw (a0.trans (a9.trans (c5.trans (c6)))) (d7.ext (c5.trans (c6))) (h6.ext (c6)) oM oM oM (BW j8 xR) λw x ha hb hs=>k1 _ _ _ _ w x k4 ⟨_,_,_,_,_,_,ha,hs⟩ hb oM)⟩))⟩),(newS.intro λp7 z0 b0 d8 r3 ac=>⟨(b5 (a0.trans (b0)) λo5 v5 r9 s5 u1 x5 t1 w0 z1 f2 k6 j9 u7=>⟨_,_,_,_,_,_,_,_,_,_,_,rfl,(newS.intro λp8 z2 c7 h7 r4 ae=>(Cw (a0.trans (b0.trans (f2.trans (c7)))) (h7.ext xR) (d8.ext (f2.trans (c7))) oM oM oM (BW j9 (c7)) λw x ha hb hs=>k1 _ _ _ _ w x k6 ⟨_,_,_,_,_,_,ha,hs⟩ hb oM))⟩),(newS.intro λp9 z3 c8 h8 r5 af=>(b5 (a0.trans (b0.trans (c8))) λo6 v6 s0 s6 u3 x7 t3 w2 z4 c9 k7 k0 u9=>⟨_,_,_,_,_,_,_,_,_,_,_,rfl,(Cw (a0.trans (b0.trans (c8.trans (c9)))) (h8.ext (c9)) (d8.ext (c8.trans (c9))) oM oM oM (BW k0 xR) λw x ha hb hs=>k1 _ _ _ _ w x k7 ⟨_,_,_,_,_,_,ha,hs⟩ hb oM)⟩))⟩)⟩
open Go.ChangeShapes Go.WideShapes Go.ChangeAt Go.Proofs.YtgolaibmophnjaaGreatDoor
section
variable {H:Type} {W:Wd} {enc:TypeId×Value->H}
def Zg3{cs:LV}{x:DataW H×List MemPlace}(h1:Tr enc prog W n 24 cs x)(w1:small (x.1.weights prog 24)):
  ∃a b c d:Int,cs= [vi a,vi b,vi c,vi d]:=by
 have hl:=Hi underlying24 h1;have hc:prog.cellsOf 24=4:=kR;rw[hc]at hl;obtain⟨z0,k0,g0,v0⟩:=B2 underlying24 h1 w1 0 3 0 1 ⟨_,rfl,rfl,rfl⟩ kR;obtain⟨z1,k1,g1,v1⟩:=B2 underlying24 h1 w1 1 3 1 1 ⟨_,rfl,rfl,rfl⟩ kR;obtain⟨z2,k2,g2,v2⟩:=B2 underlying24 h1 w1 2 3 2 1 ⟨_,rfl,rfl,rfl⟩ kR;obtain⟨z3,k3,g3,v3⟩:=B2 underlying24 h1 w1 3 3 3 1 ⟨_,rfl,rfl,rfl⟩ kR;obtain⟨a,f0⟩:=ED g0;obtain⟨b,f1⟩:=ED g1;obtain⟨c,f2⟩:=ED g2;obtain⟨d,f3⟩:=ED g3
 match cs,hl with
 | [c1,c2,c3,c4],_=>simp at f0 f1 f2 f3;exact⟨a,b,c,d,by rw[f0,f1,f2,f3]⟩
end
def Zcf{P:Program}{w:Wd}{g:Nat}{t:TypeId}{k:IntKind}{zero:Array Value}(h:w.ShapedOpen P)(hg:g<P.globals.size)
  (h0:((begin P (λ_ _=>0) default).world.heap[g]?).bind Obj.row? =some (zero,t)) (hz:zero.size=1)
  (hb:P.buildable t=true) (hc:P.cellTypes P.depth t=some [t]) (hu:P.underlying t=some (.int k)):∃n,w.cell? ⟨g,0,none⟩=some (.int k n):=by
 obtain⟨cs,hh,hs,hr⟩:=h.1 g zero t hg h0;obtain⟨ts,a6,_,a5⟩:=hr hb;rw[hc]at a6;cases a6;have h1:0<cs.size:=oM;obtain⟨u,a7,a0⟩:=a5 0 cs[0] (by simp[h1]);have:u=t:=by simpa using a7.symm
 subst this;have a4:w.cell? ⟨g,0,none⟩=some cs[0]:=by simp[World.cell?,hh,h1]
 rw[a4];unfold Cell.ok at a0;rw[hu]at a0;cases hv:cs[0]<;>rw[hv]at a0<;>first|(obtain⟨rfl,_⟩:=a0;exact⟨_,rfl⟩)|simp at a0
def gMx:prog.globals.size>0/\((begin prog (λ_ _=>0) default).world.heap[0]?).bind Obj.row? =some (#[vi 0],3)/\prog.buildable 3=true/\prog.cellTypes prog.depth 3=some [3]/\prog.underlying 3=some (.int .i64):=
 ⟨of_decide_eq_true kR,kR,kR,kR,kR⟩
def TM{P:Program}{n nm:String}{text:LU}{r:List (String×DataW Unit)}{W:Wd}{g:Nat}
  (h:laidMet P ((n,.iface nm (.ptr (.agg [.lit (.string text)])))::r) W) (hg:P.globalNamed n=some g) {ti tp te ts:TypeId} {ms:Array (String×TypeId)} {f:Field}
  (ht:(P.globals[g]?).map (·.type)=some ti) (hi:P.underlying ti=some (.interface ms)) (a0:∀u,P.typeName? 3 u=some nm->u=tp)
  (hp:P.underlying tp=some (.pointer te)) (he:P.underlying te=some (.struct #[f])) (a6:f.type=ts) (a5:f.offset=0) (hs:P.underlying ts=some .string) (hc:P.cellsOf te=1) (a4:P.cellsOf ts=1):
  ∃ev,W.cell? ⟨g,0,none⟩=some ev/\(ev= .nilIface\/∃te pe,ev= .iface te pe):=by
 obtain⟨a,s,hv,_⟩:=laid_sentinel h hg ht hi a0 hp he a6 a5 hs hc a4;exact⟨_,World.var?_cell hg hv 0,.inr ⟨_,_,rfl⟩⟩
def Wi: "*" ++ "errors.errorString" = "*errors.errorString" :=by decide
def VD(u:TypeId)(h:prog.typeName? 3 u=some "*errors.errorString"):u=451:=
 typeName_ptr_named (nm:= "errors.errorString") (by rw[Wi]; kernel_rfl) kR dC u (by rw[Wi]; exact h)
def Zbp{W:Wd}(h:laidMetH prog K4 W)(a0:W.ShapedOpen prog):Gl W:=by
 refine⟨tab_of h,?_,?_,?_⟩
 .obtain⟨h1,h2,h3,h4,h5⟩:=gMx;exact Zcf a0 h1 h2 rfl h3 h4 h5
 .rw[MakeChecks.laidMetH_plain _ _ _ kR]at h;exact TM (g:=6) (laidMet.tail (laidMet.tail (laidMet.tail (laidMet.tail (laidMet.tail h))))) kR (ti:=171) kR underlying171 VD underlying451 underlying453 rfl rfl underlying9 kR kR
 .rw[MakeChecks.laidMetH_plain _ _ _ kR]at h;exact TM (g:=7) (laidMet.tail (laidMet.tail (laidMet.tail (laidMet.tail h)))) kR (ti:=171) kR underlying171 VD underlying451 underlying453 rfl rfl underlying9 kR kR
section
variable {H:Type} {W:Wd} {enc:TypeId×Value->H}
def Ta:prog.cellsOf 50=6:=kR
def Yu:prog.cellsOf 25=1:=kR
def Zg8:Rd H prog W Mm 50:=by
 intro enc n cs x h hw;have hl:=Hi underlying50 h;rw[Ta]at hl;obtain⟨y0,m0,h0,w0⟩:=B2 underlying50 h hw 0 3 0 1 ⟨_,rfl,rfl,rfl⟩ kR;obtain⟨y1,m1,h1,w1⟩:=B2 underlying50 h hw 1 9 1 1 ⟨_,rfl,rfl,rfl⟩ JA;obtain⟨y2,m2,h2,w2⟩:=B2 underlying50 h hw 2 9 2 1 ⟨_,rfl,rfl,rfl⟩ JA;obtain⟨y3,m3,h3,w3⟩:=B2 underlying50 h hw 3 3 3 1 ⟨_,rfl,rfl,rfl⟩ kR;obtain⟨y4,m4,h4,w4⟩:=B2 underlying50 h hw 4 9 4 1 ⟨_,rfl,rfl,rfl⟩ JA;obtain⟨y5,m5,h5,w5⟩:=B2 underlying50 h hw 5 3 5 1 ⟨_,rfl,rfl,rfl⟩ kR;obtain⟨a,e0⟩:=ED h0;obtain⟨b,e1,hb⟩:=Lw h1;obtain⟨c,e2,hc⟩:=Lw h2;obtain⟨d,e3⟩:=ED h3;obtain⟨e,e4,he⟩:=Lw h4;obtain⟨f,e5⟩:=ED h5
 match cs,hl with
 | [c0,c1,c2,c3,c4,c5],_=>simp at e0 e1 e2 e3 e4 e5;exact⟨⟨a,b,c,d,e,f⟩,by rw[e0,e1,e2,e3,e4,e5];rfl,hb,hc,he⟩
def Zg9:Jo H prog W Mm 25:=NW underlying25 Ta kR dC Zg8
def Zha{cs:LV}{x:DataW H×List MemPlace}(h:Tr enc prog W n 27 cs x)(hw:small (x.1.weights prog 27)):
  ∃(sP sS:Sl) (D N Di P:Int) (lp:List Pack) (ls:List StepC),cs= [sP.v,vi D,vi N,vi Di,vi P,sS.v]/\SlR packE W (Here W) sP lp/\SlR Mm W (Here W) sS ls:=by
 have hl:=Hi underlying27 h;have hc:prog.cellsOf 27=6:=kR;rw[hc]at hl;obtain⟨y0,m0,h0,w0⟩:=B2 underlying27 h hw 0 22 0 1 ⟨_,rfl,rfl,rfl⟩ Ys;obtain⟨y1,m1,h1,w1⟩:=B2 underlying27 h hw 1 24 1 4 ⟨_,rfl,rfl,rfl⟩ kR;obtain⟨y2,m2,h2,w2⟩:=B2 underlying27 h hw 2 25 5 1 ⟨_,rfl,rfl,rfl⟩ Yu;obtain⟨a,lp,e0,hp,_⟩:=Zg5 enc m0 _ _ h0 w0;obtain⟨D,N,d3,d4,e1⟩:=Zg3 h1 w1;obtain⟨b,ls,e2,hs,_⟩:=Zg9 enc m2 _ _ h2 w2
 match cs,hl with
 | [c0,c1,c2,c3,c4,c5],_=>simp at e0 e1 e2;exact⟨a,b,D,N,d3,d4,lp,ls,by rw[e0,e1.1,e1.2.1,e1.2.2.1,e1.2.2.2,e2],hp,hs⟩
end
end Go.Hal
