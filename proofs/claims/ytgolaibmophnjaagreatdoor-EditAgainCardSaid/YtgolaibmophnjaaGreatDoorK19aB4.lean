/- Lemmas for the claim K19a: how the program's functions run, and what they answer; no condition but those that each theorem names. -/
import Derived.Laws.MakeOwn
import Derived.Test.YtgolaibmophnjaaGreatDoorProg
import Derived.Laws.IdiomCopy
import Derived.ArgAppend
import Derived.Shelf.SlSortCmp.NoneTotal
import Derived.Ground.SlsfProg
import Derived.RangeFuncNested
import Derived.Shelf.Strings.Split
import Derived.Shelf.Strconv.AtoiAll
import Derived.Ground.NamesProg
import Derived.RangeFuncCalls
import Derived.RangeFuncLeaves
import Derived.Shelf.Abstract
import Derived.WalkKit
import Derived.OwnWalkIn
import Derived.TacticsInMore
import Derived.LoopNIn
import Derived.LoopIn
import Derived.RangeFuncBox
import Derived.RangeFuncGives
import Derived.Maps.AppendAt
import Derived.Test.YtgolaibmophnjaaGreatDoorK19aB3
set_option linter.unusedVariables false
set_option linter.unusedSimpArgs false
set_option linter.defProp false
set_option maxHeartbeats 16000000
open Go.Hal.SE hiding Cs Dr Lb vB
open Go Go.RowKit Go.Proofs Go.Shelf Go.Hal Go.Proofs.Tryz
variable {a ad:LP} {p:Ap} {pr:Bool} {ds:Ν} {M:Β} {g:List Hal.BY} {t:LU} {cs:LV} {m:vu} {b i j lo n:Nat} {Q S:Nat->Prop} {P:LD} {d o s u:Sl} {R:Sl->Wp} {K:Ã} {A w w0:Qd}
namespace Go.Hal
def Zei:(prog.info? 9).map (λi=>(i.zero,i.size,i.bytes))=some (some (.string ⟨#[]⟩),1,16):=kR
def Zge(hn:n<=9000000000000)(hR:∀t w',AI w w'->rl vx 9 w' w.heap.size rz t []->R t w'):
  wx prog (Instr.makeSlice 57 (vi 0) (vi (n:Int))) w λv w'=>∃t:Sl,v=t.v/\R t w':=by
 obtain⟨i,h2,hi⟩:=jc.1 Zei;simp only[Prod.mk.injEq]at hi;obtain⟨h3,h5,h6⟩:=hi;refine⟨_,_,run_make w 57 9 i (.string ⟨#[]⟩) underlying57 h2 h3 .i64 .i64 0 n (od _) oM (by rw[h6];omega) oM,⟨some ⟨w.heap.size,0,none⟩,0,n⟩,by simp[Sl.v],hR _ _ (AI.alloc _ _) ?_⟩;refine⟨⟨[],⟨by simp,.inr ⟨w.heap.size,n,_,rfl,ga _,heap_alloc_new w _,im _,by rw[Al];omega,?_,by simp⟩⟩,rfl,λi x h=>by simp at h⟩,rfl,λ_ h=>h.F,λ_ _ h=>h.F⟩;rw[h5];simp[madeCells,vx,DS]
def Ze8{t0:Sl}{x:PU}(o:rl vx 9 w w0.heap.size rz t0 [])(x0:AI w0 w)(hS:Old S w0)(hs:IT vx w0 S s p)(hx:Ac x)(hb:p.length<=4000000000000)
  (hR:∀t w',AI w0 w'->rl vx 9 w' w0.heap.size rz t (p++[x])->R t w'):
  ue prog 57 57 t0 s.v w λa7 a8=>An a8 [(.string x)] 9 λa a9=>ue prog 57 57 a7 (Sl.v (Sl.mk (some a) 1 1)) a9 R:=by
 have a4:vx.bytes=16:=rfl;have fresh:∀ad,t0.a=some ad-> ¬S ad.block:=λad h a5=>by have:=(o.block h).1;have:=hS _ a5;omega
 refine o.zj GN x0.size (hs.U x0) (hS.U x0.size) fresh (by rw[a4];simp;unfold Ab;omega) (by rw[Al];simp;omega) λr1 w1 o1 a0 _ _=>?_;rw[iz]at o1;have x1:AI w0 w1:=x0.A a0;refine An.intro λa w2 x2 a6 _ _=>?_;exact((rl.flat (λh=>h) o1).U x2).Ĉ (x1.Z x2) GN (x:=x) ⟨rfl,hx⟩ (a6.se.pre (r:=[]) rfl) dC (by rw[a4];unfold Ab;omega) λr w3 o3 x3=>hR r w3 x3 o3
def Znu{x:PU}(hS:Old S w)(hs:IT vx w S s p)(hx:Ac x)(hb:p.length<=4000000000000)(hR:∀t w',AI w w'->rl vx 9 w' w.heap.size rz t (p++[x])->R t w'):MR s x w R:=by
 unfold MR;have hl:=hs.len;have e:Aa ((s.len:Int)+1)=((p.length+1:Nat):Int):=by rw[Ai oM oM];omega
 rw[e];exact Zge oM λt w1 x1 o1=>Ze8 o1 x1 hS hs hx hb hR
def rl.strs{T:LN}{l:List PU}(h:rl vx T w lo rz s l)(hl:l.length<=5000000000000):IT vx w (λb=>lo<=b) s l:=h.Ċ dC (by show l.length*16<=Ab;unfold Ab;omega)
def Gh(T:Θ)(i:Nat)(x:PU):Int:=match CD T i x with
 |some j=>(j:Int)
 |none=>-1
def Ck(o:Γ):Int:=match o with
 |some j=>(j:Int)
 |none=>-1
def Lu{o:Γ}:0<=Ck o↔∃j,o=some j:=by
 cases o with
 |none=>exact⟨λh=>by have h:(0:Int)<= -1:=h;omega,λ⟨j,h⟩=>by cases h⟩
 |some j=>exact⟨λ_=>⟨j,rfl⟩,λ_=>by show(0:Int)<=(j:Int);omega⟩
def Kx(T:Θ)(p:Ap):C3 T p=Ck (Az (T.map AF) p):=rfl
def Zh6{T:Θ}(h:i<T.length):Ae (T.map AF) i=T[i].Of:=by unfold Ae;rw[gc,dw h];rfl
def Zfz{x:PU}{k:Nat}(h:Az ds (p.take k++[x])=some i):AG ds p x k=some i:=by
 cases k with
 |zero=>rwa [AG]
 |succ k=>rw[AG,h]
def Zf1{x:PU}{k:Nat}(h:Az ds (p.take (k+1)++[x])=none):AG ds p x (k+1)=AG ds p x k:=by rw[AG,h]
def Zfy{x:PU}(h:Az ds (p.take 0++[x])=none):AG ds p x 0=none:=by rwa [AG]
def Zf4{ps:Sl}{T:Θ}{x:PU}{jn fd:Nat}{R:À}(hS:Old S w0)(hs:IT vm w0 S s T)(hp:IT vx w0 S ps p)(hx:Ac x)(hb:p.length<=4000000000000)(x0:AI w0 w)(ha:AT w a [s.v])
  (hj:∀{t:Sl} {q:Ap} {w':Qd} {k:Ã},AI w0 w'->IT vx w' S t q->q.length<=4000000000000->(∀r a4,AI w' a4->rl vx 9 a4 w'.heap.size rz r (q++[x])->k (Sl.v r) a4)->si prog jn [t.v,.string x] w' k)
  (hf:∀{t:Sl} {q:Ap} {Q:Nat->Prop} {w':Qd} {k:Ã},AI w0 w'->IT vx w' Q t q->(∀a4,AI w' a4->k (vi (C3 T q)) a4)->si prog fd [.agg #[s.v],t.v] w' k)
  (hR:∀w',AI w0 w'->R (Ck (AG (T.map AF) p x p.length)) w'):
  rn (ps.len:Int) w λvk b4 b0=>((0<=vk->sh b4.drew λ(b5:Qd)=>∃(a0:Sl),(se b5 a [a0.v])/\((0:Int)<=vk/\vk<=(ps.cap:Int))/\tc prog jn [(Sl.v (Sl.cut ps 0 vk.toNat 1)),(.string x)] b5 λb8 c3=>∃(b2:Sl),b8=b2.v/\si prog fd [(.agg #[a0.v]),b2.v] c3 λb9 a9=>∃(a6:Int),b9=(vi a6)/\((0<=a6->R a6 a9)/\(¬(0<=a6)->b0 (Aa (vk - 1)) a9)))/\(¬(0<=vk)->R (-1) b4)):=by
 have c7:=hp.len;have c4:p.length<=ps.cap:=hp.2.1;refine rn.Î (λm i w'=>i=(m:Int) - 1/\m<=p.length+1/\AI w w'/\(match m with
  |0=>AG (T.map AF) p x p.length=none
  |k+1=>AG (T.map AF) p x p.length=AG (T.map AF) p x k)) (p.length+1) ⟨oM,ga _,AI.refl _,rfl⟩ λm i w5 b0 ⟨hi,hm,x5,hI⟩ hn=>⟨λc5=>sh.drew λw6 x6=>?_,λc6=>?_⟩
 .obtain⟨k,rfl⟩:∃k,m=k+1:=⟨m - 1,oM⟩;have b6:i=(k:Int):=oM;subst b6;have a7:=x0.Z (x5.Z x6);have hI:AG (T.map AF) p x p.length=AG (T.map AF) p x k:=hI;refine⟨s,(ha.U (x5.Z x6)).se.pre (r:=[]) rfl,⟨oM,oM⟩,?_⟩;rw[fa];have a8:=(hp.U a7).cut (a:=0) (b:=k) (im _) oM;rw[lf]at a8;refine tc.intro (hj a7 a8 (by rw[fk];omega) λr w7 x7 o7=>⟨x7,r,rfl,hf (a7.Z x7) (o7.strs (by rw[dx,fk,il];omega)) λw8 x8=>⟨_,rfl,λhq=>?_,λhq=>?_⟩⟩)
  .rw[Kx]at hq ⊢;obtain⟨j,hj⟩:=Lu.1 hq;have h:=hR w8 (a7.Z (x7.Z x8));rw[hI,Zfz hj]at h;rwa [hj]
  .have a5:Az (T.map AF) (p.take k++[x])=none:=by
    rw[Kx]at hq;cases hd:Az (T.map AF) (p.take k++[x])with
    |none=>rfl
    |some j=>exact fu (Lu.2 ⟨j,hd⟩) hq
   refine hn k _ w8 oM ⟨?_,oM,x5.Z (x6.Z (x7.Z x8)),?_⟩
   .rw[Ai oM oM]
   .cases k with
    |zero=>exact hI.Z (Zfy a5)
    |succ k=>exact hI.Z (Zf1 a5)
 .have b7:m=0:=oM;subst b7;have hI:AG (T.map AF) p x p.length=none:=hI;have h:=hR w5 (x0.Z x5);rw[hI]at h;exact h
def V4{T:Θ}{x:PU}(h:i<T.length):Gh T i x=if Ad x then Ck (AG (T.map AF) T[i].Of x T[i].Of.length)else -1:=by unfold Gh CD;rw[Zh6 h];cases Ad x<;>rfl
def Om{T:Θ}{x:PU}{R:À}(hS:Old S w)(hs:IT vm w S s T)(hi:i<T.length)(hx:Ac x)(hb:∀d∈T,d.Of.length<=4000000000000)(hR:∀w',AI w w'->R (Gh T i x) w'):G7 s (i:Int) x w R:=by
 unfold G7;have a7:=hs.len;rw[V4 hi]at hR;obtain⟨ad,ps,dd,ee,oo,ha,_,_,hp,_,_,_,hc⟩:=xt hs hi;have hb:=hb _ (fm hi);refine An.intro λa w1 x1 a4 _ _=>py ⟨s,λ_=>a4.se.pre (r:=[]) rfl,py ?_⟩;have e:(decide ((i:Int)<0)||decide ((s.len:Int)<=(i:Int)))=false:=by rw[gl oM,gl oM];rfl
 rw[e];refine No.intro (Ad x) (λ_ q hq=>CI.V (uq hx λw2 x2=>⟨_,rfl,hq w2 x2⟩)) λt21 w2 x2 ht=>?_;have ht:=ht rfl;subst ht;have a6:=x1.Z x2;refine⟨λhq=>?_,λhq=>?_⟩
 .have hn:Ad x=false:=by simpa using hq
  rw[hn]at hR;exact hR w2 a6
 .have hn:Ad x=true:=by simpa using hq
  rw[hn]at hR;refine⟨s,a4.at0 (r:=[]) x2 rfl,ad,⟨ha,oM,oM⟩,ps,(hc _ a6).pre rfl,?_⟩;exact Zf4 hS hs hp hx hb a6 (a4.U x2) (λx' ht hq hk=>MR.V (Znu (hS.U x'.size) ht hx hq λr a5 a0 o=>hk r a5 a0 o)) (λx' ht hk=>Fk.V (Jr (hs.U x') ht λa5 a0=>hk a5 a0)) λw' a0=>hR w' a0
def JY(b:UInt8):Bool:=decide (48<=b.toNat)&&decide (b.toNat<=57)
def OW(l:LU):Int:=l.foldl (λn b=>10*n+((b.toNat:Int) - 48)) 0
def Znc(l:LU)(b:UInt8):OW (l++[b])=10*OW l+((b.toNat:Int) - 48):=by unfold OW;rw[List.foldl_append];rfl
def NA{m:Nat}(h:m<10):(UInt8.ofNat (48+m)).toNat=48+m:=by rw[UInt8.toNat_ofNat'];omega
def Up:∀(k:Nat){n:Int},0<=n->n.toNat=k->OW (dec n)=n:=λk=>by
 induction k using Nat.strongRecOn with
 |ind k ih=>
  intro n h0 hk;by_cases h:n<10
  .rw[Im h0 h];show 10*0+(((UInt8.ofNat (48+n.toNat)).toNat:Int) - 48)=n;rw[NA oM];omega
  .rw[JW oM,Znc,ih (n/10).toNat oM oM rfl,NA oM];omega
def N8{n m:Int}(h0:0<=n)(h1:0<=m)(h:dec n=dec m):n=m:=by rw[<-Up _ h0 rfl,<-Up _ h1 rfl,h]
def Qf:∀(k:Nat){n:Int},0<=n->n.toNat=k->∀b∈dec n,JY b=true:=λk=>by
 induction k using Nat.strongRecOn with
 |ind k ih=>
  intro n h0 hk b hb;by_cases h:n<10
  .rw[Im h0 h,eu]at hb;subst hb;unfold JY;rw[NA oM];simp;omega
  .rw[JW oM]at hb;obtain hb|hb:=fj.1 hb
   .exact ih (n/10).toNat oM oM rfl b hb
   .rw[eu]at hb;subst hb;unfold JY;rw[NA oM];simp;omega
def Zag(n:Int):dec n≠[]:=by
 unfold dec;rw[Lib.decDigits];split
 .simp
 .simp
def GZ{n:Int}(h0:0<=n):(46:UInt8)∉dec n:=λh=>by have:=Qf _ h0 rfl 46 h;revert this;decide
def Xz{c:UInt8}{a r:LU}(ha:c∉a)(hr:r=[]\/∃t,r=c::t):(a++r).takeWhile (λb=>b != c)=a:=by
 rw[qx (λb hb=>by simp;rintro rfl;exact ha hb)];rcases hr with rfl|⟨t,rfl⟩
 .simp
 .simp
def T3{c:UInt8}{a b r:LU}(ha:c∉a)(hb:c∉b)(h:a++c::r=b++c::t):a=b/\r=t:=by have h2:=kd (List.takeWhile λb=>b != c) h;rw[Xz ha (.inr ⟨_,rfl⟩),Xz hb (.inr ⟨_,rfl⟩)]at h2;subst h2;exact⟨rfl,(List.cons.inj (List.append_cancel_left h)).2⟩
def Znm{v u:sq}(hv:v.vt=true)(hu:u.vt=true)(h:AK v=AK u):v=u:=by unfold AK at h;rw[fo hv,fo hu]at h;have hv:=sq.vn.1 hv;have hu:=sq.vn.1 hu;simp only[fh,io,iz]at h;obtain⟨h1,h⟩:=T3 (GZ hv.1.1) (GZ hu.1.1) h;obtain⟨h2,h3⟩:=T3 (GZ hv.2.1.1) (GZ hu.2.1.1) h;have e1:=N8 hv.1.1 hu.1.1 h1;have e2:=N8 hv.2.1.1 hu.2.1.1 h2;have e3:=N8 hv.2.2.1 hu.2.2.1 h3;obtain⟨a,b,c⟩:=v;obtain⟨a',b',c'⟩:=u;simp only at e1 e2 e3;rw[e1,e2,e3]
def yx(s:LU)(v:sq):Prop:=v.vt=true/\AK v=s
def yx.one{s:LU}{v u:sq}(h:yx s v)(k:yx s u):v=u:=Znm h.1 k.1 (h.2.Z k.2.H)
def yx.head{s:LU}{v:sq}(h:yx s v):∃b r,s=b::r/\JY b=true:=by
 obtain⟨hm,rfl⟩:=h;have hv:=sq.vn.1 hm;unfold AK;rw[fo hm];cases hd:dec v.ma with
 |nil=>exact fu hd (Zag _)
 |cons b r=>exact⟨b,_,rfl,Qf _ hv.1.1 rfl b (by rw[hd];exact .head _)⟩
structure ĕ(many:Nat)(x:BY):Prop where
 uk:vp sy.Y x.uk
 pin:∀p∈x.uk,Ad p.Y=true/\p.v.vt=true
 Xcd:x.uk.length<=128
 sd:vp Edge.Y x.sd
 yv:∀e∈x.sd,Ad e.Y=true/\1<=e.to/\e.to<(many:Int)
 Ŗ:x.sd.length<=128
structure ya(g:Ζ):Prop where
 len:1<=g.length/\g.length<=128
 root:∃x,g[0]?=some x/\x.key=ta.key
 Y:∀i x,g[i]?=some x->i≠0->Ad x.Y=true/\x.v.vt=true
 rk:∀x∈g,ĕ g.length x
def ù:LU:=[108,111,99,107,10]
def Zmb:LU:=[114,111,111,116,10]
def OR:LU:=[110,111,100,101,32]
def Xx:LU:=[119,105,116,104,32]
def Xw:LU:=[116,111,32]
def FF(p:sy):LU:=((((Xx++p.Y.toList)++[32])++AK p.v)++[10])
def Ga(e:Edge):LU:=((((Xw++e.Y.toList)++[32])++dec e.to)++[10])
def En(i:Nat)(x:BY):LU:=if i=0 then Zmb else((((OR++x.Y.toList)++[32])++AK x.v)++[10])
def Ht(i:Nat)(x:BY):LU:=(En i x++x.uk.flatMap FF)++x.sd.flatMap Ga
def Da:Nat->Ζ->LU
 |_,[]=>[]
 |i,x::r=>Ht i x++Da (i+1) r
def II(g:Ζ):LU:=ù++Da 0 g
def V0(x:BY):∀(l:Ζ)(i:Nat),Da i (l++[x])=Da i l++Ht (i+l.length) x
 | [],i=>by simp[Da]
 |y::l,i=>by rw[io,Da,Da,V0 x l (i+1),fh,gb];congr 3;omega
def Zfx(h:i<g.length):ù++Da 0 (g.take (i+1))=(ù++Da 0 (g.take i))++Ht i g[i]:=by rw[dz h,V0,fh,fk];congr 3;omega
def UQ{α:Type}{f:α->LU}{l:List α}(h:i<l.length):(l.take (i+1)).flatMap f=(l.take i).flatMap f++f l[i]:=by rw[dz h,qb];simp
structure Xau(g:Ζ)(ps:Κ)(i:Nat)(x:BY):Prop where
 td:i≠0->∃p,ps[i]?=some p/\AH p=true/\p.Y=x.Y/\p.v=x.v
 uk:vp sy.Y x.uk
 sd:vp Edge.Y x.sd
 yv:∀e∈x.sd,∃(j:Nat) (y:BY),e.to=(j:Int)/\1<=j/\g[j]?=some y/\y.Y=e.Y
 full:∀q∈x.uk,∃y,Cr g x q.Y=some y/\y.v=q.v
structure uh(g:Ζ)(ps:Κ):Prop where
 len:1<=g.length/\g.length<=128
 Xbb:ps.length=g.length
 root:∃x,g[0]?=some x/\x.key=ta.key
 zero:ps[0]?=some ⟨⟨#[]⟩,⟨0,0,0⟩,[],[],[]⟩
 rk:∀i x,g[i]?=some x->Xau g ps i x
def Wk{p:sf}(h:AH p=true):Ad p.Y=true:=by
 unfold AH Cj at h;simp only[ep]at h
 first|exact h.1.1|exact h.1.1.1|exact h.1.1.1.1|exact h.1.1.1.1.1
def uh.Y{ps:Κ}(h:uh g ps){x:BY}(hx:g[i]?=some x){e:Edge}(he:e∈x.sd):Ad e.Y=true:=by obtain⟨j,y,h1,h2,h3,h4⟩:=(h.rk i x hx).yv e he;obtain⟨p,_,h5,h6,_⟩:=(h.rk j y h3).td oM;rw[<-h4,<-h6];exact Wk h5
def No.holds{τ:Type}{g:Bool}{k:τ->Wp}{A:(τ->Wp)->Prop}{d:τ}(P:τ->Prop)(hA:g=true->∀q:τ->Wp,(∀t w',AI w w'->P t->q t w')->A q)
  (hk:∀t w',AI w w'->(g=true->P t)->k t w'):No g k A (λq=>q d w):=
 ⟨λhg=>hA hg _ λt w' hx hp=>hk _ _ hx λ_=>hp,λhg=>hk _ _ xR λh=>by rw[hg]at h;cases h⟩
def D4{l:LQ}(h:IT wo w S s l)(hn:n<l.length):
  ∃ad,s.a=some ad/\Ac l[n].Y/\∀w',AI w w'->se w' (ad.add (n*2)) [.string l[n].Y,.int .i64 l[n].to]:=by
 obtain⟨ad,cs,h1,h2,⟨rfl,h3⟩,h4⟩:=h.el hn;exact⟨ad,h1,h3,h4⟩
def Lg(m:vu):Int:=if AV m then 0 else 25
def Lh(m:vu):PU:=if AV m then B (Ep m)else⟨#[]⟩
def Zgh(h:AV m=true):Gj m=true:=by unfold AV at h;rw[ep]at h;exact h.1
def Zgj{e v:Sl}{R:PU->À}(ht:Í w)(hS:Old S w)(hd:IT rq w S d m.sj)(he:IT rq w S e m.uo)(ho:IT rq w S o m.ut)(hv:IT rq w S v m.ru)
  (hR:∀w',AI w w'->R (Lh m) (Lg m) w'):Lj d e o v w R:=by
 refine An.intro λa w1 x1 a4 _ _=>⟨d,e,o,v,a4.se.pre (r:=[]) rfl,?_⟩;refine Gk.V (Oq (m:=m) (ht.U x1) (hS.U x1.size) (hd.U x1) (he.U x1) (ho.U x1) (hv.U x1) λw2 x2=>⟨_,rfl,λh=>?_,λh=>?_⟩)
 .have h:AV m=false:=by simpa using h
  have hr:=hR w2 (x1.Z x2);unfold Lh Lg at hr;rw[h]at hr;exact hr
 .have h:AV m=true:=by simpa using h
  have a0:=x1.Z x2;refine⟨d,e,o,v,(a4.U x2).se.pre (r:=[]) rfl,?_⟩;refine IM.V (VA (m:=m) (ht.U a0) (Zgh h) (hd.U a0) (he.U a0) (ho.U a0) (hv.U a0) λw3 x3=>⟨_,rfl,?_⟩);have hr:=hR w3 (a0.Z x3);unfold Lh Lg at hr;rw[h]at hr;exact hr
def V3{α:Type}{l:List α}{nm:α->PU}{f:HT}{n:Int}{R:Á}(hn:n=(l.length:Int))(hm:l.length<=maxLen)(hs:∀x∈l,Ac (nm x))
  (hf:∀(i:Nat) (h:i<l.length) w' (k:Ã),AI w w'->(∀a8,AI w' a8->k (.string (nm l[i])) a8)->ug prog f [vi i] w' k)
  (hR:∀(b:Bool) w',AI w w'->(b=true↔vp nm l/\(∀x∈l,Ad (nm x)=true)/\l.length<=128)->R b w'):IJ n f w R:=by
 unfold IJ;subst hn;refine rn.up hm (λi w'=>AI w w'/\vp nm (l.take i)/\∀x∈l.take i,Ad (nm x)=true) ⟨AI.refl _,.nil,λ_ h=>by cases h⟩ λi w1 b7 hi ⟨x1,hI,hJ⟩ hn=>⟨λb6=>?_,λb5=>?_⟩
 .have hl:i<l.length:=oM;have a4:=fm hl;refine hf i hl w1 _ x1 λw2 x2=>⟨_,rfl,CI.V (uq (hs _ a4) λw3 x3=>⟨_,rfl,py (py ?_)⟩)⟩;have a7:=x1.Z (x2.Z x3);refine No.intro (nm (l[i - 1]'oM)) (λhg q hq=>?_) λb2 w4 x4 a5=>?_
  .simp only[ep,fp]at hg;rw[Yl oM hl hm];exact hf (i - 1) oM w3 _ a7 λw4 x4=>⟨_,rfl,hq w4 x4⟩
  refine No.intro (nm l[i]) (λhg q hq=>hf i hl w4 _ (a7.Z x4) λw5 x5=>⟨_,rfl,hq w5 x5⟩) λb4 w5 x5 a6=>?_;have a9:=(a7.Z x4).Z x5;have a0:(!Ad (nm l[i])||(decide (0<(i:Int))&& !Ak b2 b4))=false↔Ad (nm l[i])=true/\(1<=i->Ak (nm (l[i - 1]'oM)) (nm l[i])=true):=by
   cases hM:Ad (nm l[i])with
   |false=>simp
   |true=>
    rw[hM]at a5 a6;by_cases h1:1<=i
    .rw[ie (show(0:Int)<(i:Int) by omega)]at a5 a6 ⊢;rw[a5 rfl,a6 rfl];simp[h1]
    .rw[gl (show ¬(0:Int)<(i:Int) by omega)];simp[h1]
  refine⟨λh=>hR false w5 a9 ⟨nO,λ⟨g1,g2,_⟩=>?_⟩,λh=>hn hl w5 ⟨a9,?_⟩⟩
  .rw[a0.2 ⟨g2 _ a4,λh1=>?_⟩]at h
   .cases h
   .cases hb:Ak (nm (l[i - 1]'oM)) (nm l[i])with
    |true=>rfl
    |false=>exact fu g1 (RA h1 hl hb)
  .obtain⟨g1,g2⟩:=a0.1 h;refine⟨?_,λx hx=>?_⟩
   .obtain h0|h0:=ka i
    .subst h0;exact RB
    .exact RC h0 hl hI (g2 h0)
   .rw[dz hl]at hx;obtain hx|hx:=fj.1 hx
    .exact hJ x hx
    .rwa [eu.1 hx]
 .have b0:i=l.length:=oM;rw[b0,fe]at hI hJ;refine hR _ w1 x1 ⟨λh=>⟨hI,hJ,?_⟩,λ⟨_,_,h⟩=>?_⟩
  .have:=mh h;omega
  .exact ie oM
def Zbz:Bi prog 245:=enters_of func245 kR rfl
def Zb0:Bi prog 246:=enters_of func246 kR rfl
def Zfu{x:BY}{c e:Sl}{many:Int}{k:Nat}{R:Á}(b5:many=(k:Int))(hc:IT uy w S c x.uk)(he:IT wo w S e x.sd)
  (hR:∀(b:Bool) w',AI w w'->(b=true↔ĕ k x)->R b w'):Lc x.Y x.v.ma x.v.mi x.v.pa c e many w R:=by
 unfold Lc;subst b5;have c9:=hc.len;have d0:=he.len;have a9:∀w',AI w w'-> ¬ĕ k x->R false w':=λw' hx h=>hR false w' hx ⟨nO,λhf=>fu hf h⟩;refine An.intro λa w1 x1 a4 _ _=>⟨c,a4.at1 (k:=4) xR rfl,?_⟩;refine IJ.V (V3 (l:=x.uk) (nm:=sy.Y) oM hc.max (λp hp=>?_) (λi hi w' q x' hq=>⟨_,_,rfl,Zbz,QO.V ?_⟩) λb w2 x2 hb=>⟨b,rfl,py ?_⟩)
 .obtain⟨i,hi,rfl⟩:=gh.1 hp;obtain⟨_,_,_,b6,_⟩:=Dw hc hi;exact b6
 .obtain⟨ad,ha,_,_,a0⟩:=Dw hc hi;exact⟨c,a4.at1 (k:=4) x' rfl,ad,⟨ha,oM,oM⟩,_,(a0 _ (x1.Z x')).pre rfl,hq _ xR⟩
 refine⟨e,λ_=>a4.at1 (k:=5) (r:=[]) x2 rfl,?_⟩;have b7:=x1.Z x2;refine No.holds (λt=>t=true↔vp Edge.Y x.sd/\(∀y∈x.sd,Ad y.Y=true)/\x.sd.length<=128) (λhg q hq=>IJ.V (V3 (l:=x.sd) (nm:=Edge.Y) oM he.max (λp hp=>?_) (λi hi w' r x' hr=>⟨_,_,rfl,Zb0,QP.V ?_⟩) λb w3 x3 hb=>⟨b,rfl,hq b w3 x3 hb⟩)) λc8 w3 x3 b2=>⟨λh=>?_,λh=>?_⟩
 .obtain⟨i,hi,rfl⟩:=gh.1 hp;obtain⟨_,_,b6,_⟩:=D4 he hi;exact b6
 .obtain⟨ad,ha,_,a0⟩:=D4 he hi;exact⟨e,a4.at1 (k:=5) (r:=[]) (x2.Z x') rfl,ad,⟨ha,oM,oM⟩,_,(a0 _ (b7.Z x')).pre rfl,hr _ xR⟩
 .refine a9 w3 (b7.Z x3) λhF=>?_;have h1:=hb.2 ⟨hF.uk,λp hp=>(hF.pin p hp).1,hF.Xcd⟩;subst h1;rw[(b2 rfl).2 ⟨hF.sd,λp hp=>(hF.yv p hp).1,hF.Ŗ⟩]at h;cases h
 have b9:=b7.Z x3;have h1:b=true:=by
  cases b with
  |true=>rfl
  |false=>cases h
 subst h1;have h2:c8=true:=by simpa using h
 subst h2;obtain⟨c1,c2,c3⟩:=hb.1 rfl;obtain⟨e1,e2,e3⟩:=(b2 rfl).1 rfl;refine⟨c,a4.at1 (k:=4) (x2.Z x3) rfl,?_⟩;refine rn.up hc.max (λi w'=>AI w3 w'/\∀p∈x.uk.take i,p.v.vt=true) ⟨AI.refl _,λ_ h=>by cases h⟩ λi w4 c7 hi ⟨x4,hI⟩ hn=>⟨λb4=>?_,λc6=>?_⟩
 .have a7:i<x.uk.length:=oM;obtain⟨ad,ha,_,_,a0⟩:=Dw hc a7;have b0:=b9.Z x4;refine⟨ad,⟨ha,oM,b4⟩,_,_,_,_,a0 _ b0,An.set rfl λa5 w5 x5 c5 _=>⟨_,_,_,c5.at1 (k:=1) (r:=[]) xR rfl,?_⟩⟩;refine E8.V (HK (v:=x.uk[i].v) λw6 x6=>⟨_,rfl,λh=>?_,λh=>?_⟩)
  .refine a9 w6 (b0.Z (x5.Z x6)) λhF=>?_;rw[(hF.pin _ (fm a7)).2]at h;cases h
  .refine hn a7 w6 ⟨x4.Z (x5.Z x6),λp hp=>?_⟩;rw[dz a7]at hp;obtain hp|hp:=fj.1 hp
   .exact hI p hp
   .rw[eu.1 hp];simpa using h
 have a7:i=x.uk.length:=oM;rw[a7,fe]at hI;refine⟨e,a4.at1 (k:=5) (r:=[]) (x2.Z (x3.Z x4)) rfl,?_⟩;have b0:=b9.Z x4;refine rn.up he.max (λj w'=>AI w4 w'/\∀y∈x.sd.take j,1<=y.to/\y.to<(k:Int)) ⟨AI.refl _,λ_ h=>by cases h⟩ λj w5 c7 hj ⟨x5,hJ⟩ hn=>⟨λb4=>?_,λc6=>?_⟩
 .have a8:j<x.sd.length:=oM;obtain⟨ad,ha,_,a0⟩:=D4 he a8;have c4:=b0.Z x5;refine⟨ad,⟨ha,oM,b4⟩,_,_,a0 _ c4,An.set rfl λa6 w6 x6 b8 _=>⟨_,b8.at1 (k:=1) (r:=[]) xR rfl,py ⟨_,λ_=>b8.at1 (k:=1) (r:=[]) xR rfl,λh=>?_,λh=>?_⟩⟩⟩
  .refine a9 w6 (c4.Z x6) λhF=>?_;obtain⟨_,h1,h2⟩:=hF.yv _ (fm a8);rw[gl oM,gl oM]at h;cases h
  .simp only[ik,ig]at h;refine hn a8 w6 ⟨x5.Z x6,λp hp=>?_⟩;rw[dz a8]at hp;obtain hp|hp:=fj.1 hp
   .exact hJ p hp
   .rw[eu.1 hp];omega
 .have a8:j=x.sd.length:=oM;rw[a8,fe]at hJ;exact hR true w5 (b0.Z x5) ⟨λ_=>⟨c1,λp hp=>⟨c2 p hp,hI p hp⟩,c3,e1,λy hy=>⟨e2 y hy,hJ y hy⟩,e3⟩,λ_=>rfl⟩
structure Qu(w:Qd)(lo:Nat)(s:Sl)(l:Β):Prop where
 len:s.len=l.length
 cap:l.length<=s.cap
 row:∃(g off:Nat) (cur:Δ),s.a=some ⟨g,off,none⟩/\lo<=g/\w.heap[g]?=some (.cells cur 3 (0,0))/\off+s.cap<=cur.size/\∀(i:Nat)(x:Int),l[i]?=some x->cur[off+i]?=some (vi x)
section
variable {w w':Qd} {lo:Nat} {s:Sl} {l:Β}
def Qu.lt(h:Qu w lo s l)(ha:s.a=some ad):lo<=ad.block/\ad.block<w.heap.size:=by obtain⟨g,off,a0,h1,h2,h3,_⟩:=h.row;rw[h1,ff]at ha;subst ha;exact⟨h2,lt_of_block h3⟩
def Qu.ry(h:Qu w lo s l)(hk:∀ad,s.a=some ad->w'.heap[ad.block]?=w.heap[ad.block]?):Qu w' lo s l:=by obtain⟨g,off,a0,h1,h2,h3,h4⟩:=h.row;exact⟨h.len,h.cap,g,off,a0,h1,h2,(hk _ h1).Z h3,h4⟩
def Qu.U(h:Qu w lo s l)(hx:AI w w'):Qu w' lo s l:=h.ry λad ha=>hx.block (h.lt ha).2
def Qu.J(h:Qu w lo s l)(hb:ur b w w')(hn:∀ad,s.a=some ad->ad.block≠b):Qu w' lo s l:=h.ry λad ha=>hb.2.2.2.2 _ (h.lt ha).2 (hn ad ha)
def Qu.el(h:Qu w lo s l)(hi:i<l.length):∃ad,s.a=some ad/\∀w',AI w w'->se w' (ad.add (i*1)) [.int .i64 l[i]]:=by
 obtain⟨g,off,a0,h1,h2,h3,h4,h5⟩:=h.row;refine⟨_,h1,λw' hx=>se.U (λj v hj=>?_) hx⟩;cases j with
 |zero=>simp only[jr,ff]at hj;subst hj;rw[Dl,Addr.add_lit,cell_of_row w g _ a0 3 (0,0) h3];rw[qw,lq];exact h5 i _ (dw hi)
 |succ j=>simp at hj
def Qu.tail{x:Int}{r:Β}(h:Qu w lo s (x::r)):Qu w lo (Sl.cut s 1 s.len 1) r:=by
 obtain⟨g,off,a0,h1,h2,h3,h4,h5⟩:=h.row;have hl:=h.len;have hc:=h.cap;rw[gb]at hl hc;have a4:r.length<=(Sl.cut s 1 s.len 1).cap:=by show r.length<=s.cap - 1;omega
 refine⟨by show s.len - 1=_;omega,a4,?_⟩;by_cases h0:s.cap=1
 .have hr:r=[]:=fq oM;subst hr;refine⟨g,off,a0,?_,h2,h3,by show off+(s.cap - 1)<=_;omega,λi x hx=>by simp at hx⟩;unfold Sl.cut;dsimp only;rwa [fo h0]
 .refine⟨g,off+1,a0,?_,h2,h3,by show off+1+(s.cap - 1)<=_;omega,λi y hy=>?_⟩
  .unfold Sl.cut;dsimp only;rw[fb h0,h1];simp[Addr.add_lit]
  .have:=h5 (i+1) y hy;rwa [show off+1+i=off+(i+1) by omega]
def Zkt{o:Nat}{cur:Δ}{T:LN}{v:HT}(h:w.heap[b]?=some (.cells cur T (0,0))):(w.setCells b o [v]).heap[b]?=some (.cells (cur.setIfInBounds o v) T (0,0))/\ur b w (w.setCells b o [v])/\(w.setCells b o [v]).heap.size=w.heap.size:=by
 have e:w.setCells b o [v]=w.setCell ⟨b,o,none⟩ v:=rfl;rw[e];refine⟨?_,⟨by simp,rfl,rfl,rfl,λc hc a0=>?_⟩,by simp⟩
 .have a4:=lt_of_block h;unfold World.setCell;rw[nh];simp[h]
 .unfold World.setCell;rw[nh,fb (λe=>a0 e.H)]
def Qu.push{x:Int}{k:Sl->Wp}(h:Qu w lo s l)(a8:lo<=w.heap.size)(hc:se w a [vi x])(hl:l.length<=1000000)
  (hk:∀(r:Sl)(w':Qd),Qu w' lo r (l++[x])->Below lo w w'->(∀b,b<w.heap.size->(∀ad,s.a=some ad->b≠ad.block)->w'.heap[b]?=w.heap[b]?)->(∀ad,r.a=some ad->((∃a9,s.a=some a9/\ad.block=a9.block)\/w.heap.size<=ad.block))->k r w'):ue prog 66 66 s (Sl.v ⟨some a,1,1⟩) w k:=by
 intro ty;obtain⟨ht,i,z,hi,hz,a4,b6,c3,c4⟩:=P2;obtain⟨g,off,a6,h1,h2,h3,h4,h5⟩:=h.row;have b5:=h.len;have b0:=h.cap;obtain⟨sa,sn,sc⟩:=s;simp only at h1 b5 b0 h4;subst h1 b5;by_cases a0:l.length+1<=sc
 .have hr:=run_append_room_cells (P:=prog) w 66 ty 3 i ht hi g off l.length sc a 1 1 [vi x] (by rw[a4];rfl) (λj u hj=>hc j u hj) (by simp[Value.oneCell']) a0 (λj hj=>by have b8:j=0:=(by simpa using hj);subst b8;rw[cell_of_row w g _ a6 3 (0,0) h3,a4,ng oM];rfl) (λj hj=>frozen_of_row w g _ a6 3 h3);rw[a4,qw]at hr;obtain⟨q1,q2,q3⟩:=Zkt (o:=off+l.length) (v:=.int .i64 x) h3;refine⟨_,_,hr,⟨some ⟨g,off,none⟩,l.length+1,sc⟩,rfl,hk _ _ ⟨by simp,by simpa using a0,g,off,_,rfl,h2,q1,by simpa using h4,λj y hj=>?_⟩ (q2.below a8 h2) (λb hb b9=>q2.2.2.2.2 b hb (b9 _ rfl)) λad a7=>.inl ⟨_,rfl,by cases a7;rfl⟩⟩;rw[Array.getElem?_setIfInBounds];by_cases a5:j=l.length
  .subst a5;rw[ic nR,po,jr,ff]at hj;rw[fo rfl,fo oM,hj]
  .rw[fb oM];rw[fy (by have:=(ec.1 hj).1;simp at this;omega)]at hj;exact h5 j y hj
 .have b4:∀(j:Nat)(u:HT),(l.map (Value.int .i64))[j]?=some u->w.cell? ((⟨g,off,none⟩:LP).add j)=some u:=λj u hj=>by
   rw[gc]at hj;cases hlj:l[j]? with
   |none=>rw[hlj]at hj;cases hj
   |some y=>rw[hlj]at hj;cases hj;rw[Addr.add_lit,cell_of_row w g _ a6 3 (0,0) h3];exact h5 j y hlj
  have hr:=run_append_grow (P:=prog) w 66 ty 3 i z ht hi hz ⟨g,off,none⟩ l.length sc (l.map (Value.int .i64)) (by rw[a4,eh,qw]) b4 a 1 1 [vi x] (by rw[a4];rfl) (λj u hj=>hc j u hj) oM oM (TQ oM (by rw[b6];unfold Ab;omega));have b7:=grownCap_ge w (l.length+1) sc 3;generalize grownCap w (l.length+1) sc 3=G at*;generalize hW:w.drew.alloc (.cells ((l.map (Value.int .i64)).toArray++[Value.int .i64 x].toArray++Builtin.zeroCells z.cells (G - (l.length+1))) 3)=w2 at*;have x1:AI w w2:=by rw[<-hW];exact(AI.drew w).Z (AI.alloc _ _)
  have b2:w2.heap[w.heap.size]?=some (.cells ((l.map (Value.int .i64)).toArray++[Value.int .i64 x].toArray++Builtin.zeroCells z.cells (G - (l.length+1))) 3 (0,0)):=by rw[<-hW];exact heap_alloc_new w.drew _
  refine⟨_,w2,hr,⟨some ⟨w.heap.size,0,none⟩,l.length+1,G⟩,rfl,hk _ _ ⟨by simp,by simpa using b7,w.heap.size,0,_,rfl,a8,b2,?_,λj y hj=>?_⟩ (Below.O x1 a8) (λb hb _=>x1.block hb) λad a7=>.inr (by cases a7;exact ga _)⟩
  .rw[Array.size_append,Array.size_append,size_zeroCells,c3];simp only[jm,eh,gb,ip,qw];omega
  .rw[lu];have a5:=(ec.1 hj).1;rw[dx,il]at a5;rw[kh (by simpa using a5)];have e:((l.map (Value.int .i64)).toArray++[Value.int .i64 x].toArray)=((l++[x]).map (Value.int .i64)).toArray:=by simp
   rw[e,ku,gc,hj];rfl
def An.qu{x:Int}{k:Ä}(a0:cs= [vi x])(h:∀a w',AI w w'->Qu w' w.heap.size ⟨some a,1,1⟩ [x]->a.block=w.heap.size->k a w'):An w cs 3 k:=λa w' ha hw=>by
 subst ha hw a0;refine h _ _ (AI.alloc _ _) ⟨rfl,ga _,w.heap.size,0,_,rfl,ga _,heap_alloc_new w _,by simp,λi y hy=>?_⟩ rfl;cases i with
 |zero=>simp at hy;subst hy;rfl
 |succ i=>simp at hy
end
structure æ(w:Qd)(lo:Nat)(m su:Sl)(M Q:Β):Prop where
 ux:rl Ci 3 w lo rz m M
 qu:Qu w lo su Q
 apart:∀ad ad',m.a=some ad->su.a=some ad'->ad.block≠ad'.block
section
variable {w w':Qd} {lo:Nat} {m su:Sl} {M Q:Β}
def æ.U(h:æ w lo m su M Q)(hx:AI w w'):æ w' lo m su M Q:=⟨h.ux.U hx,h.qu.U hx,h.apart⟩
def QG(h:rl Ci 3 w lo rz m M)(hi:i<M.length):∃ad,m.a=some ad/\∀w',AI w w'->se w' (ad.add (i*1)) [.int .i64 M[i]]:=by obtain⟨ad,cs,h1,⟨rfl,_⟩,h3⟩:=h.el (dw hi);exact⟨ad,h1,h3⟩
def æ.set(h:æ w lo m su M Q)(a6:lo<=w.heap.size){x:Int}(hi:i<M.length)(ha:m.a=some ad){K:Wp}
  (hK:∀w',ur ad.block w w'->w'.heap.size=w.heap.size->lo<=ad.block->æ w' lo m su (M.set i x) Q->K w'):rp w (ad.add (i*1)) [vi x] K:=by
 have hs:=h.ux.ų (i:=i) (x:=x) (o:=0) (new:=[vi x]) hi ha (λcs a4=>by obtain⟨rfl,_⟩:=a4;exact⟨rfl,trivial⟩) (by show 0+1<=1;omega) (K:=K) λw' hb hz o=>hK w' hb hz (h.ux.block ha).1 ⟨o,h.qu.J hb λa5 a0 e=>h.apart _ _ ha a0 e.H,h.apart⟩;rw[add_zero]at hs;exact hs
def æ.push{x:Int}{k:Sl->Wp}(h:æ w lo m su M Q)(b0:lo<=w.heap.size)(hc:se w a [vi x])(hl:Q.length<=1000000)
  (hk:∀r w',Below lo w w'->æ w' lo m r M (Q++[x])->k r w'):ue prog 66 66 su (Sl.v ⟨some a,1,1⟩) w k:=
 h.qu.push b0 hc hl λr w' hq hb a6 hr=>hk r w' hb ⟨h.ux.ry hb.size λb a9 a0=>a6 b a9 λad a8=>by
   rcases a0 with a0|⟨a4,a5,rfl⟩
   .exact a0.F
   .exact h.apart _ _ a5 a8,hq,λad a4 ha a7=>by
   rcases hr a4 a7 with⟨b2,h1,h2⟩|h1
   .rw[h2];exact h.apart _ _ ha h1
   .have:=(h.ux.block ha).2.1;omega⟩
def æ.tail{x:Int}{r:Β}(h:æ w lo m su M (x::r)):æ w lo m (Sl.cut su 1 su.len 1) M r:=by
 refine⟨h.ux,h.qu.tail,λad a4 ha a0=>?_⟩;obtain⟨g,off,_,h1,_⟩:=h.qu.row;have:a4.block=g:=by
  unfold Sl.cut at a0;dsimp only at a0;split at a0
  .rw[h1]at a0;cases a0;rfl
  .rw[h1]at a0;simp[Addr.add_lit]at a0;rw[<-a0]
 rw[this];exact h.apart _ _ ha h1
end
def Zf5{T:Θ}{x:PU}(h:CD T i x=some j):j<T.length:=by
 unfold CD at h;cases hn:Ad x with
 |false=>rw[hn]at h;cases h
 |true=>rw[hn,fo rfl]at h;have:=Ld h;rwa [eh]at this
def Zgs{T:Θ}{s:zk}{es:LQ}(hj:j<es.length):DU T g i s (es.drop j)=(Ds T g i s es[j]).bind λt=>DU T g i t (es.drop (j+1)):=by rw[gp hj];rfl
def Zgp{T:Θ}{to:Nat}{s:zk}{e:Edge}{d:tx}{x:BY}(h1:CD T i e.Y=some to)(h2:T[to]?=some d)(h3:g[e.to.toNat]?=some x):
  Ds T g i s e=if d.td.Y=x.Y/\d.td.v=x.v then(if s.m[to]?=some (-1)then some ⟨s.m.set to e.to,s.su++[to]⟩else if s.m[to]?=some e.to then some s else none)else none:=by
 unfold Ds;rw[h1];dsimp only;rw[h2,h3]
def Zgq{T:Θ}{s:zk}{e:Edge}(h1:CD T i e.Y=none):Ds T g i s e=none:=by unfold Ds;rw[h1]
def VF{T:Θ}{f:Nat}{k:Int}{s:zk}(h1:s.su[n]?=some i)(h2:s.m[i]?=some k):DV T g (f+1) n s=(DU T g i s (Ar g k.toNat)).bind λt=>DV T g f (n+1) t:=by rw[DV,h1];dsimp only;rw[h2]
def VC{T:Θ}{f:Nat}{s:zk}(h1:s.su[n]?=none):DV T g (f+1) n s=some s.m:=by rw[DV,h1]
open Classical in
noncomputable def Er (T:Θ) (g:Ζ):Int:=if vr T then(if C0 g then(match Ĝ T g with|some _=>0|none=>42)else 33)else 42
def Zgo{T:Θ}(h: ¬vr T):Er T g=42:=by unfold Er;rw[fb h]
def Zgn{T:Θ}(h:vr T)(h2: ¬C0 g):Er T g=33:=by unfold Er;rw[fo h,fb h2]
def Zgl{T:Θ}(h:vr T)(h2:C0 g)(h3:Ĝ T g=none):Er T g=42:=by unfold Er;rw[fo h,fo h2,h3]
def Zgm{T:Θ}{m:Β}(h:vr T)(h2:C0 g)(h3:Ĝ T g=some m):Er T g=0:=by unfold Er;rw[fo h,fo h2,h3]
def V9(n:Nat):(madeCells (vi 0).cells (n*1))=(((List.replicate n (0:Int)).map λx=>[Value.int .i64 x]).flatten).toArray:=by
 have e:((List.replicate n (0:Int)).map λx=>[Value.int .i64 x]).flatten=List.replicate n (vi 0):=by
  induction n with
  |zero=>rfl
  |succ n ih=>rw[rc,gu,js,ih,rc];rfl
 rw[e];unfold madeCells;apply Array.U
 .simp
 .intro i h1 h2;have:(vi 0).cells= #[Value.int .i64 0]:=rfl;simp[this,Nat.mod_one]
def Zeg:(prog.info? 3).map (λi=>(i.zero,i.size,i.bytes))=some (some (vi 0),1,8):=kR
def Zgc(hn:n<=1000000)(hR:∀t w',AI w w'->rl Ci 3 w' w.heap.size rz t (List.replicate n 0)->(∃ad,t.a=some ad)->R t w'):
  wx prog (Instr.makeSlice 66 (vi (n:Int)) (vi (n:Int))) w λv w'=>∃t:Sl,v=t.v/\R t w':=by
 obtain⟨i,h2,hi⟩:=jc.1 Zeg;simp only[Prod.mk.injEq]at hi;obtain⟨h3,h5,h6⟩:=hi;refine⟨_,_,run_make w 66 3 i (vi 0) underlying66 h2 h3 .i64 .i64 n n oM (od _) (by rw[h6];omega) oM,⟨some ⟨w.heap.size,0,none⟩,n,n⟩,by simp[Sl.v],hR _ _ (AI.alloc _ _) ?_ ⟨_,rfl⟩⟩;have ef:((List.replicate n (0:Int)).map λx=>[Value.int .i64 x]).flatten.length=n*1:=by rw[CO (k:=1) _ (λ_=>rfl),List.length_replicate]
 refine⟨⟨(List.replicate n (0:Int)).map λx=>[Value.int .i64 x],⟨ef,.inr ⟨w.heap.size,n,_,rfl,ga _,heap_alloc_new w _,ga _,by rw[Al];omega,?_,?_⟩⟩,by simp,λi x hx=>?_⟩,by simp,λ_ h=>h.F,λ_ _ h=>h.F⟩
 .rw[fa,h5,V9];rwa [jm]
 .rw[fa,h5,V9];show List.take (n*1) _=_;rw[rb];exact ia (by rw[ef];exact ga _)
 .rw[gc,hx];exact⟨_,rfl,rfl,trivial⟩
def Znt{R:Á}(hs:IT ud w S s g)(hR:∀(b:Bool) w',AI w w'->(b=true↔C0 g)->R b w'):MQ s w R:=by
 unfold MQ;have c8:=hs.len;have a8:∀w',AI w w'-> ¬C0 g->R false w':=λw' hx h=>hR false w' hx ⟨nO,λhf=>fu hf h⟩;refine An.intro λa w1 x1 a6 _ _=>⟨s,a6.se.pre (r:=[]) rfl,?_⟩;refine rn.up hs.max (λi w'=>AI w1 w'/\∀x∈g.take i,∀e∈x.sd,1<=e.to/\e.to<(g.length:Int)) ⟨AI.refl _,λx hx=>by cases hx⟩ λi w2 c9 hi ⟨x2,hI⟩ hn=>⟨λb8=>?_,λc7=>?_⟩
 .have a0:i<g.length:=oM;obtain⟨ad,c,e,ha,_,_,he,b7⟩:=Ct hs a0;have c6:=he.len;refine⟨ad,⟨ha,oM,b8⟩,_,_,_,_,_,_,b7 _ (x1.Z x2),An.set rfl λa3 w3 x3 b6 _=>⟨e,b6.at1 (k:=5) (r:=[]) xR rfl,?_⟩⟩;have c3:=x1.Z (x2.Z x3);refine rn.up he.max (λj w'=>AI w3 w'/\∀y∈g[i].sd.take j,1<=y.to/\y.to<(g.length:Int)) ⟨AI.refl _,λ_ h=>by cases h⟩ λj w4 c5 hj ⟨x4,hJ⟩ b9=>⟨λb0=>?_,λc4=>?_⟩
  .have a4:j<g[i].sd.length:=oM;obtain⟨b4,b5,_,a9⟩:=D4 he a4;have b2:=c3.Z x4;refine⟨b4,⟨b5,oM,b0⟩,_,_,a9 _ b2,An.set rfl λa5 w5 x5 a7 _=>⟨_,a7.at1 (k:=1) (r:=[]) xR rfl,py ⟨_,λ_=>a7.at1 (k:=1) (r:=[]) xR rfl,s,λ_=>a6.at0 (r:=[]) (x2.Z (x3.Z (x4.Z x5))) rfl,λh=>?_,λh=>?_⟩⟩⟩
   .refine a8 w5 (b2.Z x5) λhF=>?_;obtain⟨h1,h2⟩:=hF.2 _ (fm a0) _ (fm a4);rw[gl oM,gl oM]at h;cases h
   .simp only[ik,ig]at h;refine b9 a4 w5 ⟨x4.Z x5,λp hp=>?_⟩;rw[dz a4]at hp;obtain hp|hp:=fj.1 hp
    .exact hJ p hp
    .rw[eu.1 hp];omega
  .have a4:j=g[i].sd.length:=oM;rw[a4,fe]at hJ;refine hn a0 w4 ⟨x2.Z (x3.Z x4),λp hp=>?_⟩;rw[dz a0]at hp;obtain hp|hp:=fj.1 hp
   .exact hI p hp
   .rwa [eu.1 hp]
 .have a0:i=g.length:=oM;rw[a0,fe]at hI;refine⟨s,a6.at0 (r:=[]) x2 rfl,hR _ w2 (x1.Z x2) ?_⟩;rw[jl];exact⟨λh=>⟨oM,hI⟩,λh=>by have:=h.1;omega⟩
def Zf3{T:Θ}{x:PU}(h:CD T i x=some j):Gh T i x=(j:Int):=by unfold Gh;rw[h]
def Zf2{T:Θ}{x:PU}(h:CD T i x=none):Gh T i x= -1:=by unfold Gh;rw[h]
def rl.Xbh{m:Sl}(h:rl Ci 3 w lo rz m M){x:Int}(hi:i<M.length)(ha:m.a=some ad){K:Wp}
  (hK:∀w',ur ad.block w w'->w'.heap.size=w.heap.size->lo<=ad.block->rl Ci 3 w' lo rz m (M.set i x)->K w'):rp w (ad.add (i*1)) [vi x] K:=by
 have hs:=h.ų (i:=i) (x:=x) (o:=0) (new:=[vi x]) hi ha (λcs a0=>by obtain⟨rfl,_⟩:=a0;exact⟨rfl,trivial⟩) (by show 0+1<=1;omega) (K:=K) λw' hb hz o=>hK w' hb hz (h.block ha).1 o;rw[add_zero]at hs;exact hs
def Zg5{a b:PU}{u v:sq}:(!Ag a b|| !((u.ma==v.ma)&&((u.mi==v.mi)&&((u.pa==v.pa)&&true))))= !decide (a=b/\u=v):=by
 rw[FO];have:Ag a b=decide (a=b):=by rw[ij,AA,jl]
 rw[this];by_cases h1:a=b<;>by_cases h2:u=v<;>simp[h1,h2]
def zw.at{T:Θ}{s:zk}(h:zw T g s)(hn:n<s.su.length):∃(hm:s.su[n]<s.m.length),s.su[n]<T.length/\0<=s.m[s.su[n]]/\s.m[s.su[n]]<(g.length:Int):=by obtain⟨k,h1,h2⟩:=(h.told _).1 (fm hn);obtain⟨hl,e⟩:=ec.1 h1;have h3:=h.low _ _ h1;refine⟨hl,by rwa [<-h.len],?_,?_⟩<;>rw[e]<;>omega
def Znv{T:Θ}{R:Sl->À}(ht:Í w)(hS:Old S w)(hs:IT vm w S s T)(hg:IT ud w Q u g)(hb:∀d∈T,d.Of.length<=4000000000000)
  (h0:∀t M w',AI w w'->vr T->C0 g->Ĝ T g=some M->rl Ci 3 w' w.heap.size rz t M->R t 0 w')
  (h1:∀w',AI w w'-> ¬Er T g=0->R Sl.nil (Er T g) w'):MP s u w R:=by
 unfold MP;have p9:=hs.len;have p0:=hg.len;refine An.intro λa w1 x1 f0 _ _=>An.intro λa1 w2 x2 i2 _ _=>⟨s,f0.at0 (r:=[]) x2 rfl,?_⟩;have e0:=x1.Z x2;refine Js.V (XE (ht.U e0) (hs.U e0) hb λw3 x3=>⟨_,rfl,λhc=>?_,λhc=>?_⟩)
 .have hT: ¬vr T:=λhT=>hc (PP.2 hT);have h:=h1 w3 (e0.Z x3);rw[Zgo hT]at h;exact h dC
 have hT:vr T:=PP.1 (jg hc);refine⟨u,i2.at0 (r:=[]) x3 rfl,?_⟩;have g5:=e0.Z x3;refine MQ.V (Znt (hg.U g5) λb w4 x4 i3=>⟨b,rfl,λhc=>?_,λhc=>?_⟩)
 .have hG: ¬C0 g:=λhG=>by rw[i3.2 hG]at hc;cases hc
  have h:=h1 w4 (g5.Z x4);rw[Zgn hT hG]at h;exact h dC
 have hG:C0 g:=i3.1 (by simpa using hc);have c5:=g5.Z x4;have k8:=hT.len;refine⟨s,f0.at0 (r:=[]) (x2.Z (x3.Z x4)) rfl,?_⟩;have d2:∀w',AI w w'->Ĝ T g=none->R Sl.nil 42 w':=λw' hx hm=>by have h:=h1 w' hx;rw[Zgl hT hG hm]at h;exact h dC
 have d0:∀w',AI w4 w'->se w' a [s.v]:=λw' hx=>f0.at0 (r:=[]) (x2.Z (x3.Z (x4.Z hx))) rfl;have d1:∀w',AI w4 w'->se w' a1 [u.v]:=λw' hx=>i2.at0 (r:=[]) (x3.Z (x4.Z hx)) rfl;rw[show(s.len:Int)=((T.length:Nat):Int) by omega];refine Zgc oM λm w5 x5 o5 ⟨g8,b8⟩=>?_;have m1:=o5.len;rw[List.length_replicate]at m1;refine rn.up (N:=T.length) (by rw[Al];omega) (λi w'=>AI w4 w'/\rl Ci 3 w' w4.heap.size rz m (List.replicate i (-1)++List.replicate (T.length - i) 0)) ⟨x5,by simpa using o5⟩ λi w6 q0 hi ⟨x6,o6⟩ hn=>⟨λf9=>?_,λl8=>?_⟩
 .have f4:i<T.length:=oM;refine⟨g8,⟨b8,oM,f9⟩,?_⟩;rw[fa];refine o6.Xbh (i:=i) (x:=-1) (by simp;omega) b8 λw7 b7 m5 f6 o7=>hn f4 w7 ⟨b7.U x6 f6,?_⟩;have e:(List.replicate i (-1:Int)++List.replicate (T.length - i) 0).set i (-1)=List.replicate (i+1) (-1)++List.replicate (T.length - (i+1)) 0:=by have e1:T.length - i=(T.length - (i+1))+1:=oM;rw[e1,rc,List.set_append,fb sI,List.length_replicate,po,List.set_cons_zero,List.replicate_succ',fh];rfl
  rw[e]at o7;exact o7
 have f4:i=T.length:=oM;subst f4;rw[po,List.replicate_zero,gz]at o6;refine⟨g8,⟨b8,od _,oM⟩,?_⟩;refine o6.Xbh (i:=0) (x:=0) (by simp;omega) b8 λw7 b7 m5 f6 o7=>?_;have x7:AI w4 w7:=b7.U x6 f6;refine An.qu rfl λg7 w8 x8 q8 n4=>?_;have k9:æ w8 w4.heap.size m ⟨some g7,1,1⟩ ((List.replicate T.length (-1)).set 0 0) (Ca [0]):=by
  have m7:Qu w8 w4.heap.size ⟨some g7,1,1⟩ [0]:=by obtain⟨g',off,k6,k1,k2,k3⟩:=q8.row;exact⟨q8.len,q8.cap,g',off,k6,k1,by have:=x7.size;omega,k3⟩
  refine⟨o7.U x8,m7,λad o8 ha l0=>?_⟩;cases l0;have:=(o7.block ha).2.1;omega
 have l7:T.length<=257:=k8.2;refine rn.Î (λf su w'=>∃(n:Nat) (t:zk),f+n=T.length+1/\n<=t.su.length/\zw T g t/\Ĝ T g=DV T g f n t/\AI w4 w'/\æ w' w4.heap.size m su t.m (Ca (t.su.drop n))) (T.length+1) ⟨0,⟨(List.replicate T.length (-1)).set 0 0,[0]⟩,rfl,im _,zw.start oM hG.1,rfl,x7.Z x8,k9⟩ λf su w9 n9 ⟨n,t,hf,p7,hI,b5,x9,hW⟩ m2=>?_;have m3:=hW.qu.len;rw[IQ,gq]at m3;have p6:=hI.ķ;refine⟨λf9=>?_,λl8=>?_⟩
 .have d5:n<t.su.length:=oM;obtain⟨f,rfl⟩:∃f',f=f'+1:=⟨f - 1,oM⟩;obtain⟨hm,m0,p4,p5⟩:=hI.at d5;have g4:=VF (f:=f) (T:=T) (g:=g) (dw d5) (dw hm);rw[g4]at b5;have f1:Ca (t.su.drop n)=((t.su[n]:Nat):Int)::Ca (t.su.drop (n+1)):=by rw[gp d5];rfl
  rw[f1]at hW;generalize t.su[n]=a4 at*;obtain⟨k4,h8,j2⟩:=hW.qu.el (i:=0) sI;refine⟨k4,⟨h8,od _,f9⟩,((a4:Nat):Int),j2 _ xR,⟨by decide,oM⟩,sh.drew λq1 d7=>⟨u,d1 _ (x9.Z d7),?_⟩⟩;obtain⟨g9,e9,j1⟩:=QG hW.ux (i:=a4) hm;have j4:=hW.ux.len;rw[hI.len]at j4;obtain⟨kn,i6⟩:∃kn:Nat,t.m[a4]=(kn:Int):=⟨t.m[a4].toNat,oM⟩;have d3:kn<g.length:=oM;obtain⟨k0,cg,eg,l5,_,_,f2,j0⟩:=Ct hg d3;have l6:Ar g (t.m[a4]).toNat=g[kn].sd:=by rw[i6,fa];unfold Ar;rw[dw d3]
  rw[l6]at b5;have j9:=c5.Z (x9.Z d7);have i7:=j1 _ d7;rw[i6]at i7;refine⟨g9,⟨e9,oM,by show((a4:Nat):Int)<(m.len:Int);omega⟩,(kn:Int),i7,k0,⟨l5,oM,oM⟩,eg,by rw[fa];exact(j0 _ j9).G (k:=5) (r:=[]) rfl,?_⟩;have o9:=f2.len;have m4:∀e∈g[kn].sd,1<=e.to/\e.to<(g.length:Int):=hG.2 _ (fm d3);have j7:∀j (hj:j<g[kn].sd.length),∃ad,eg.a=some ad/\Ac g[kn].sd[j].Y/\∀w',AI w w'->se w' (ad.add (j*2)) [.string g[kn].sd[j].Y,.int .i64 g[kn].sd[j].to]:=λj hj=>D4 f2 hj;generalize g[kn].sd=es at*;refine uc.up f2.max (λa9 j w'=>∃t':zk,DU T g a4 t es=DU T g a4 t' (es.drop j)/\zw T g t'/\n+1<=t'.su.length/\AI w4 w'/\æ w' w4.heap.size m a9 t'.m (Ca (t'.su.drop (n+1)))) ⟨t,by rw[lf],hI,d5,x9.Z d7,(hW.U d7).tail⟩ λa9 j m8 m6 hj ⟨t',hE,c8,j5,d8,c9⟩ j6=>⟨λg0=>join.named λJ hJ=>?_,λl9=>?_⟩
  .have c3:j<es.length:=oM;obtain⟨b2,h5,g3,f7⟩:=j7 j c3;rw[Zgs c3]at hE;have j8:=m4 _ (fm c3);have b6:Ds T g a4 t' es[j]=none->Ĝ T g=none:=λh=>(by rw[h]at hE;rw[b5,hE];rfl);have d4:∀t2,Ds T g a4 t' es[j]=some t2->∀r w',AI w4 w'->æ w' w4.heap.size m r t2.m (Ca (t2.su.drop (n+1)))->J r w':=λt2 h2 r w' hx hw=>by rw[hJ];obtain⟨k7,l,hl⟩:=c8.yv j8 h2;refine j6 c3 r w' ⟨t2,?_,k7,by rw[hl,dx];omega,hx,hw⟩;rw[h2]at hE;exact hE
   have n5:=c8.ķ;generalize es[j]=e at*;refine⟨b2,⟨h5,oM,g0⟩,_,_,f7 _ (c5.Z d8),An.set rfl λo0 q3 c6 e3 _=>⟨s,d0 _ (d8.Z c6),_,e3.at0 xR rfl,?_⟩⟩;have e6:=c5.Z (d8.Z c6);refine G7.V (Om (hS.U e6.size) (hs.U e6) m0 g3 hb λq4 n1=>⟨_,rfl,sh.drew λb0 n2=>py ?_⟩);have a6:=n1.Z n2;have a0:=d8.Z (c6.Z a6);have a5:=c5.Z a0;cases hlk:CD T a4 e.Y with
   |none=>rw[Zf2 hlk];have i5:=d2 b0 a5 (b6 (Zgq hlk));exact⟨s,nO,b2,nO,⟨#[]⟩,nO,u,nO,0,nO,b2,nO,⟨#[]⟩,nO,py ⟨s,nO,b2,nO,0,0,0,nO,u,nO,0,nO,b2,nO,0,0,0,nO,λ_=>i5,nO⟩⟩
   |some to=>
    rw[Zf3 hlk];have d6:=Zf5 hlk;obtain⟨b9,ps,dd,ee,oo,h7,_,n7,p8,_,_,_,i4⟩:=xt hs d6;obtain⟨en,f3⟩:∃en:Nat,e.to=(en:Int):=⟨e.to.toNat,oM⟩;have e4:en<g.length:=oM;obtain⟨d9,cE,eE,h6,_,_,_,e5⟩:=Ct hg e4;have a8:=Zgp (s:=t') hlk (dw d6) (g:=g) (x:=g[en]) (by rw[f3,fa];exact dw e4);have j3:=c9.ux.len;rw[c8.len]at j3;have c4:to<t'.m.length:=by rwa [c8.len]
    obtain⟨c7,b4,f8⟩:=QG c9.ux c4;have a7:=e3.U a6;have l1:se b0 ((b9.add (((to:Nat):Int).toNat*9)).add 1) [.string T[to].td.Y]:=by rw[fa];exact(i4 _ a5).G (k:=1) rfl
    have l2:se b0 (((b9.add (((to:Nat):Int).toNat*9)).add 1).add 1) [.int .i64 T[to].td.v.ma,.int .i64 T[to].td.v.mi,.int .i64 T[to].td.v.pa]:=(by rw[fa,Dl _ 1 1];exact(i4 _ a5).G (k:=2) rfl);have l3:se b0 (d9.add (e.to.toNat*6)) [.string g[en].Y]:=(by rw[f3,fa];exact(e5 _ a5).pre rfl);have l4:se b0 ((d9.add (e.to.toNat*6)).add 1) [.int .i64 g[en].v.ma,.int .i64 g[en].v.mi,.int .i64 g[en].v.pa]:=(by rw[f3,fa];exact(e5 _ a5).G (k:=1) rfl);have lm:se b0 (c7.add (((to:Nat):Int).toNat*1)) [.int .i64 t'.m[to]]:=(by rw[fa];exact f8 _ (c6.Z a6));have r1:b9=b9/\(0:Int)<=(to:Int)/\((to:Nat):Int)<(s.len:Int):=⟨rfl,oM,oM⟩;refine⟨s,λ_=>d0 _ a0,b9,λ_=>⟨h7,oM,oM⟩,_,λ_=>l1,u,λ_=>d1 _ a0,e.to,λ_=>a7.se.G (k:=1) (r:=[]) rfl,d9,λ_=>⟨h6,oM,oM⟩,_,λ_=>l3,py ⟨s,λ_=>d0 _ a0,b9,λ_=>⟨h7,oM,oM⟩,_,_,_,λ_=>l2,u,λ_=>d1 _ a0,e.to,λ_=>a7.se.G (k:=1) (r:=[]) rfl,d9,λ_=>⟨h6,oM,oM⟩,_,_,_,λ_=>l4,?_⟩⟩;have e1:decide (((to:Nat):Int)<0)=false:=gl oM;rw[e1,qv,Zg5];refine⟨λhq=>d2 b0 a5 (b6 ?_),λhq=>?_⟩
    .rw[a8,fb (λhc=>by rw[ie hc]at hq;cases hq)]
    rw[fo (by simpa using hq)]at a8;refine⟨c7,⟨b4,oM,oM⟩,_,lm,λg1=>?_,λg1=>?_⟩
    .rw[fo (by rw[dw c4,g1])]at a8;refine⟨e.to,a7.se.G (k:=1) (r:=[]) rfl,c7,⟨b4,oM,oM⟩,?_⟩;rw[fa];refine(c9.U (c6.Z a6)).set a0.size c4 b4 λm9 k5 n8 i9 h3=>An.intro λo4 q5 g6 h9 _ _=>?_;have e7:AI w4 m9:=k5.U a0 i9;refine(h3.U g6).push (e7.Z g6).size (x:=(to:Int)) (h9.se.pre (r:=[]) rfl) (by rw[IQ,gq];omega) λr n0 e8 h4=>d4 _ a8 r n0 ((e7.Z g6).A e8) ?_;have e2:Ca ((t'.su++[to]).drop (n+1))=Ca (t'.su.drop (n+1))++[(to:Int)]:=by rw[mj j5];unfold Ca;rw[gd];rfl
     rwa [e2]
    .rw[fb (by rwa [dw c4,ff])]at a8;refine⟨e.to,a7.se.G (k:=1) (r:=[]) rfl,λg2=>?_,λg2=>?_⟩
     .rw[fo (by rw[dw c4,g2])]at a8;exact d4 _ a8 a9 b0 a0 (c9.U (c6.Z a6))
     .rw[fb (by rwa [dw c4,ff])]at a8;exact d2 b0 a5 (b6 a8)
  .have c3:j=es.length:=oM;subst c3;rw[mq]at hE;rw[hE]at b5;exact m2 f a9 m8 (om _) ⟨n+1,t',oM,j5,c8,b5,d8,c9⟩
 .have d5:n=t.su.length:=oM;obtain⟨f,rfl⟩:∃f',f=f'+1:=⟨f - 1,oM⟩;rw[VC (jf oM)]at b5;exact h0 m t.m w9 (c5.Z x9) hT hG b5 (hW.ux.Xc4 c5.size)
structure Ô(k i:Nat)(x:BY):Prop where
 head:if i=0 then x.key=ta.key else Ad x.Y=true/\x.v.vt=true
 rk:ĕ k x
def Ok:ya g↔(1<=g.length/\g.length<=128)/\∀i (h:i<g.length),Ô g.length i g[i]:=by
 constructor
 .intro h;refine⟨h.len,λi hi=>⟨?_,h.rk _ (fm hi)⟩⟩;by_cases h0:i=0
  .subst h0;rw[fo rfl];obtain⟨x,h1,h2⟩:=h.root;rw[dw hi,ff]at h1;rwa [h1]
  .rw[fb h0];exact h.Y i _ (dw hi) h0
 .rintro⟨h1,h2⟩;refine⟨h1,⟨g[0],dw oM,by simpa using(h2 0 oM).head⟩,λi x hx h0=>?_,λx hx=>?_⟩
  .obtain⟨hi,rfl⟩:=ec.1 hx;have:=(h2 i hi).head;rw[fb h0]at this;exact this
  .obtain⟨i,hi,rfl⟩:=gh.1 hx;exact(h2 i hi).rk
def Zj9{x:BY}{c:Nat}(hc:c=x.uk.length):((Ag x.Y ⟨#[]⟩&&((x.v.ma==0)&&((x.v.mi==0)&&((x.v.pa==0)&&true))))&&((c:Int)==0))=true↔x.key=ta.key:=by
 obtain⟨n,⟨p,q,r⟩,cx,ed⟩:=x;have hc:c=cx.length:=hc;subst hc;simp only[BY.key,ta,Prod.mk.injEq,sq.mk.injEq,AA,ep,ko,and_true];constructor
 .rintro⟨⟨h1,h2,h3,h4⟩,h5⟩;exact⟨h1,⟨h2,h3,h4⟩,fq oM⟩
 .rintro⟨h1,⟨h2,h3,h4⟩,h5⟩;exact⟨⟨h1,h2,h3,h4⟩,by rw[h5];rfl⟩
def Zft{R:Á}(hs:IT ud w S s g)(hR:∀(b:Bool) w',AI w w'->(b=true↔ya g)->R b w'):KZ s w R:=by
 unfold KZ;have d0:=hs.len;have a7:∀w',AI w w'-> ¬ya g->R false w':=λw' hx h=>hR false w' hx ⟨nO,λhf=>fu hf h⟩;refine An.intro λa w1 x1 a6 _ _=>⟨s,a6.se.pre (r:=[]) rfl,py ⟨s,λ_=>a6.se.pre (r:=[]) rfl,λhc=>a7 w1 x1 λhF=>?_,λhc=>?_⟩⟩
 .obtain⟨q1,q2⟩:=hF.len;rw[gl oM,gl oM]at hc;cases hc
 simp only[ik,ig]at hc;refine⟨s,a6.se.pre (r:=[]) rfl,?_⟩;refine rn.up hs.max (λi w'=>AI w1 w'/\∀j (hj:j<g.length),j<i->Ô g.length j g[j]) ⟨AI.refl _,λj _ h=>by omega⟩ λi w3 d1 hi ⟨x3,hI⟩ hn=>⟨λc5=>?_,λc9=>?_⟩
 .have a9:i<g.length:=oM;obtain⟨ad,c,e,ha,c6,b5,b9,c4⟩:=Ct hs a9;have b8:=b5.len;have b6:=x1.Z x3;have a8:∀w',AI w w'-> ¬Ô g.length i g[i]->R false w':=λw' hx h=>a7 w' hx λhF=>h ((Ok.1 hF).2 i a9);refine⟨ad,⟨ha,oM,c5⟩,_,_,_,_,_,_,c4 _ b6,An.set rfl λa5 w5 x5 a4 _=>⟨_,a4.at0 xR rfl,?_⟩⟩;refine CI.V (uq c6 λw6 x6=>⟨_,rfl,_,_,_,λ_=>a4.at1 (k:=1) x6 rfl,?_⟩);refine No.intro g[i].v.vt (λ_ q hq=>E8.V (HK (v:=g[i].v) λw7 x7=>⟨_,rfl,hq w7 x7⟩)) λd2 w7 x7 b7=>join.named λJ hJ=>?_;have a0:=x6.Z x7;have c8:=b6.Z (x5.Z a0);have b4:∀b w8,AI w7 w8->(b=true↔if i=0 then g[i].key=ta.key else Ad g[i].Y=true/\g[i].v.vt=true)->J b w8:=λb w8 x8 hb=>by
   rw[hJ];have b0:=c8.Z x8;refine py ⟨_,_,_,_,c,e,λ_=>a4.at0 (r:=[]) (a0.Z x8) rfl,s,λ_=>a6.at0 (r:=[]) (x3.Z (x5.Z (a0.Z x8))) rfl,?_⟩;refine No.holds (λt=>t=true↔ĕ g.length g[i]) (λ_ q hq=>Lc.V (Zfu (x:=g[i]) (k:=g.length) oM (b5.U b0) (b9.U b0) λb w9 x9 hb=>⟨b,rfl,hq b w9 x9 hb⟩)) λc7 w9 x9 b2=>⟨λh=>?_,λh=>?_⟩
   .refine a8 w9 (b0.Z x9) λhF=>?_;have h1:=hb.2 hF.head;subst h1;rw[(b2 rfl).2 hF.rk]at h;cases h
   .have h1:b=true:=by
     cases b with
     |true=>rfl
     |false=>cases h
    subst h1;have h2:c7=true:=by simpa using h
    refine hn a9 w9 ⟨x3.Z (x5.Z (a0.Z (x8.Z x9))),λj hj c3=>?_⟩;obtain h'|h':=iy.1 c3
    .exact hI j hj h'
    .subst h';exact⟨hb.1 rfl,(b2 rfl).1 h2⟩
  refine⟨λh0=>?_,λh0=>?_⟩
  .have h0:i=0:=oM;refine⟨_,a4.at0 a0 rfl,py ⟨_,_,_,λ_=>a4.at1 (k:=1) a0 rfl,py ⟨c,λ_=>a4.at1 (k:=4) a0 rfl,?_⟩⟩⟩;refine b4 _ w7 xR ?_;rw[fo h0];exact Zj9 b8
  .have h0:i≠0:=oM;refine b4 _ w7 xR ?_;rw[fb h0];cases hM:Ad g[i].Y with
   |false=>simp
   |true=>rw[b7 hM];simp
 .exact hR true w3 (x1.Z x3) ⟨λ_=>Ok.2 ⟨⟨oM,oM⟩,λi hi=>hI i hi oM⟩,λ_=>rfl⟩
def An.Xdg{zs:LV}{t:LN}{k:Ä}(hl:cs.length=zs.length)(h:∀a w',AI w w'->zq t w' a cs->a.block=w.heap.size->k a w'):An w zs t λa w1=>rp w1 a cs λw2=>k a w2:=
 An.Û λa w1 x1 ha a4 a5=>tj.Û ha hl λw2 b2 hz a0=>h a w2 (b2.U x1 oM) a0 a4
def NT{α:Type}{f:α->LU}{c:Nat}:∀{l:List α},(∀x∈l,(f x).length<=c)->(l.flatMap f).length<=c*l.length
 | [],_=>by simp
 |x::l,h=>by have h1:=h x (.head _);have h2:=NT (l:=l) λy hy=>h y (.tail _ hy);rw[List.flatMap_cons,dx,gb,Nat.mul_add];omega
def Wv{p:sy}(h:Ad p.Y=true):(FF p).length<=40:=by have h1:=CQ h;have h2:=DH p.v;unfold FF Xx;simp only[dx,gb,ip];omega
def U3{e:Edge}{k:Nat}(h:Ad e.Y=true/\1<=e.to/\e.to<(k:Int))(hk:k<=128):(Ga e).length<=40:=by have h1:=CQ h.1;have h2:=DO (n:=e.to) oM oM;unfold Ga Xw;simp only[dx,gb,ip];omega
def UX{x:BY}(h:i≠0->Ad x.Y=true):(En i x).length<=40:=by
 unfold En;by_cases h0:i=0
 .rw[fo h0];decide
 .rw[fb h0];have h1:=CQ (h h0);have h2:=DH x.v;unfold OR;simp only[dx,gb,ip];omega
def Zhd{k:Nat}{x:BY}(h:Ô k i x)(hk:k<=128):(Ht i x).length<=10280:=by
 have h0:=UX (i:=i) (x:=x) λh0=>by have:=h.head;rw[fb h0]at this;exact this.1
 have h1:=NT (f:=FF) (c:=40) (l:=x.uk) λp hp=>Wv (h.rk.pin p hp).1;have h2:=NT (f:=Ga) (c:=40) (l:=x.sd) λe he=>U3 (h.rk.yv e he) hk;have h3:=h.rk.Xcd;have h4:=h.rk.Ŗ;unfold Ht;simp only[dx];omega
def Vz{k:Nat}(hk:k<=128):∀(l:Ζ)(i:Nat),(∀j (h:j<l.length),Ô k (i+j) l[j])->(Da i l).length<=10280*l.length
 | [],_,_=>by simp[Da]
 |x::l,i,h=>by
  have h1:=Zhd (i:=i) (x:=x) (k:=k) (by have:=h 0 sI;simpa using this) hk;have h2:=Vz hk l (i+1) λj hj=>by have:=h (j+1) (by simpa using hj);rwa [show i+1+j=i+(j+1) by omega]
  rw[Da,dx,gb,Nat.mul_add];omega
open Classical in
noncomputable def KX (g:Ζ):Int:=if ya g then 0 else 33
open Classical in
noncomputable def KY (g:Ζ):PU:=if ya g then B (II g)else⟨#[]⟩
def QN(h:ya g):KX g=0:=by unfold KX;rw[fo h]
def Vy(h: ¬ya g):KX g=33:=by unfold KX;rw[fb h]
def V1(h:ya g):KY g=B (II g):=by unfold KY;rw[fo h]
def Zfv(h: ¬ya g):KY g=⟨#[]⟩:=by unfold KY;rw[fb h]
def Vx(h:ya g)(i:Nat):(ù++Da 0 (g.take i)).length<=1400000:=by
 obtain⟨h1,h2⟩:=Ok.1 h;have h3:=Vz h1.2 (g.take i) 0 λj hj=>by rw[fk]at hj;rw[kf,lu];exact h2 j oM
 rw[fk]at h3;have h4:ù.length=5:=rfl;rw[dx,h4];omega
def UP{α:Type}{f:α->LU}{c:Nat}{l:List α}(h:∀x∈l,(f x).length<=c)(hn:l.length<=n)(i:Nat):((l.take i).flatMap f).length<=c*n:=by have h1:=NT (f:=f) (c:=c) (l:=l.take i) λx hx=>h x (lz hx);rw[fk]at h1;exact fl h1 (qz _ oM)
def Zfw{R:PU->À}(ht:Í w)(hs:IT ud w S s g)(hR:∀w',AI w w'->R (KY g) (KX g) w'):La s w R:=by
 unfold La;have i9:=hs.len;refine An.intro λa w1 x1 d9 _ _=>⟨s,d9.se.pre (r:=[]) rfl,?_⟩;refine KZ.V (Zft (hs.U x1) λb w2 x2 hb=>⟨b,rfl,λh=>?_,λh=>?_⟩)
 .have hn: ¬ya g:=λhF=>by rw[hb.2 hF]at h;cases h
  have hr:=hR w2 (x1.Z x2);rw[Vy hn,Zfv hn]at hr;exact hr
 have hF:ya g:=hb.1 (by simpa using h);obtain⟨e6,d1⟩:=Ok.1 hF;rw[QN hF,V1 hF]at hR;have b0:=x1.Z x2;intro ab w3 f8 f0;subst f8;have x3:AI w2 w3:=f0▸AI.alloc _ _;have f4:Č w2.heap.size [] w3:=f0▸Ny w2;have e0:(bm #[108,111,99,107,10])=B ù:=rfl;rw[e0];refine HY (m:=ù) f4 rfl x3 dC λw4 n4 x4 f6=>⟨_,_,rfl,?_⟩;refine⟨s,d9.at0 (r:=[]) (x2.Z x4) rfl,?_⟩;refine rn.up hs.max (λi w'=>AI w2 w'/\Č w2.heap.size (ù++Da 0 (g.take i)) w') ⟨x4,f6⟩ λi w5 j5 hi ⟨x5,b5⟩ hn=>⟨λg3=>?_,λi7=>?_⟩
 .have a5:i<g.length:=oM;obtain⟨ad,c,e,ha,j0,c9,d0,g1⟩:=Ct hs a5;have hG:=d1 i a5;have l0:=Vx hF i;rw[Zfx a5]at hn;generalize ù++Da 0 (g.take i)=t0 at*;generalize g[i]=x at*;have i5:=c9.len;have i6:=d0.len;have l1:=UX (i:=i) (x:=x) λh0=>by have:=hG.head;rw[fb h0]at this;exact this.1
  have e9:=λp hp=>Wv (hG.rk.pin p hp).1;have b9:=λe he=>U3 (hG.rk.yv e he) e6.2;have lc:=UP (f:=FF) e9 hG.rk.Xcd;have le:=UP (f:=Ga) b9 hG.rk.Ŗ;refine⟨ad,⟨ha,oM,g3⟩,_,_,_,_,_,_,g1 _ (b0.Z x5),An.Xdg rfl λa6 w6 x6 b6 h4=>join.named λJ hJ=>?_⟩;have i4:=b5.lt;have d3:=x5.Z x6;have c8:∀w7,AI w2 w7->zq 56 w7 a6 [.string x.Y,vi x.v.ma,vi x.v.mi,vi x.v.pa,c.v,e.v]->Č w2.heap.size (t0++En i x) w7->J w7:=λw7 x7 e2 c6=>by
   rw[hJ];refine⟨c,e2.box.at1 (k:=4) xR rfl,?_⟩;refine rn.up c9.max (λj w'=>AI w2 w'/\zq 56 w' a6 [.string x.Y,vi x.v.ma,vi x.v.mi,vi x.v.pa,c.v,e.v]/\Č w2.heap.size ((t0++En i x)++(x.uk.take j).flatMap FF) w') ⟨x7,e2,by simpa using c6⟩ λj w8 h9 hj ⟨x8,e3,c7⟩ g4=>⟨λe7=>?_,λh6=>?_⟩
   .have a0:j<x.uk.length:=oM;obtain⟨f3,f7,_,h8,e5⟩:=Dw c9 a0;have g6:=hG.rk.pin _ (fm a0);have g2:=e9 _ (fm a0);have q1:=CQ g6.1;have q2:=DH x.uk[j].v;have f1:=b0.Z x8;have j1:=lc j;refine⟨f3,⟨f7,oM,e7⟩,_,_,_,_,e5 _ f1,An.set rfl λa9 w9 x9 e4 h5=>sh.drew λg9 b2=>⟨_,e4.at0 b2 rfl,?_⟩⟩;have c3:=x9.Z b2;rw[EH x.uk[j].Y];simp only[D9,B4,Ba];refine⟨by rw[Af,AL,Au];simp;omega,by rw[Af,AL,Au];simp;omega,_,_,_,e4.at1 (k:=1) (r:=[]) b2 rfl,tc.intro (DY.V (vy (v:=x.uk[j].v) (ht.U (f1.Z c3)) λh1 a7=>⟨a7,_,rfl,?_⟩))⟩;simp only[B4,Ba];refine⟨by rw[Af,Af,Au];simp;omega,by rw[Af,AL,Au];simp;omega,?_⟩;have b4:=c3.Z a7;refine JL (m:=FF x.uk[j]) (c7.U b4) rfl (x8.Z b4) (by simp only[dx];omega) λh2 j3 b7 d5 ry=>⟨_,_,rfl,g4 a0 _ ⟨b7,ry _ _ _ dC oM (e3.U b4),?_⟩⟩;rwa [UQ a0,<-fh]
   have a0:j=x.uk.length:=oM;rw[a0,fe]at c7;have g8:=lc x.uk.length;rw[fe]at g8;refine⟨e,e3.box.at1 (k:=5) (r:=[]) xR rfl,?_⟩;refine rn.up d0.max (λj w'=>AI w2 w'/\Č w2.heap.size (((t0++En i x)++x.uk.flatMap FF)++(x.sd.take j).flatMap Ga) w') ⟨x8,by simpa using c7⟩ λk w9 i2 hk ⟨x9,a8⟩ g5=>⟨λe8=>?_,λh7=>?_⟩
   .have a4:k<x.sd.length:=oM;obtain⟨d4,d8,g7,d2⟩:=D4 d0 a4;have g0:=hG.rk.yv _ (fm a4);have g2:=b9 _ (fm a4);have q1:=CQ g0.1;have q2:=DO (n:=x.sd[k].to) oM oM;have f2:=b0.Z x9;have j2:=le k;refine⟨d4,⟨d8,oM,e8⟩,_,_,d2 _ f2,An.set rfl λi3 g9 b2 b8 f9=>sh.drew λh1 a7=>⟨_,b8.at0 a7 rfl,?_⟩⟩;have c4:=b2.Z a7;rw[EH x.sd[k].Y];simp only[D9,B4,Ba];refine⟨by rw[Af,AL,Au];simp;omega,by rw[Af,AL,Au];simp;omega,_,b8.at1 (k:=1) (r:=[]) a7 rfl,tc.intro (Oh (n:=x.sd[k].to) oM oM (ht.U (f2.Z c4)) λh2 b7=>⟨b7,_,rfl,?_⟩)⟩;simp only[B4,Ba];refine⟨by rw[Af,Af,Au];simp;omega,by rw[Af,AL,Au];simp;omega,?_⟩;have c5:=c4.Z b7;refine JL (m:=Ga x.sd[k]) (a8.U c5) rfl (x9.Z c5) (by simp only[dx];omega) λj6 j4 h3 d6 _=>⟨_,_,rfl,g5 a4 _ ⟨h3,?_⟩⟩;rwa [UQ a4,<-fh]
   .have a4:k=x.sd.length:=oM;rw[a4,fe]at a8;refine hn a5 _ ⟨x9,?_⟩;have e:t0++Ht i x=((t0++En i x)++x.uk.flatMap FF)++x.sd.flatMap Ga:=(by unfold Ht;simp only[fh]);rwa [e]
  have d7:=b5.U x6;refine⟨λh0=>?_,λh0=>?_⟩
  .have h0:i=0:=oM;have e1:(bm #[114,111,111,116,10])=B (En i x):=(by rw[h0];rfl);rw[e1];exact JL (m:=En i x) d7 rfl d3 oM λw7 n7 x7 c6 ry=>⟨_,_,rfl,c8 w7 x7 (ry _ _ _ dC oM b6) c6⟩
  .have h0:i≠0:=oM;have hh:=hG.head;rw[fb h0]at hh;have q1:=CQ hh.1;have q2:=DH x.v;refine sh.drew λw7 x7=>⟨_,b6.box.at0 x7 rfl,?_⟩;rw[EH x.Y];simp only[D9,B4,Ba];refine⟨by rw[Af,AL,Au];simp;omega,by rw[Af,AL,Au];simp;omega,_,_,_,b6.box.at1 (k:=1) x7 rfl,tc.intro (DY.V (vy (v:=x.v) (ht.U (b0.Z (d3.Z x7))) λw8 x8=>⟨x8,_,rfl,?_⟩))⟩;simp only[B4,Ba];refine⟨by rw[Af,Af,Au];simp;omega,by rw[Af,AL,Au];simp;omega,?_⟩;have e1:En i x=(((OR++x.Y.toList)++[32])++AK x.v)++[10]:=(by unfold En;rw[fb h0]);rw[e1]at c8 l1;exact JL (m:=(((OR++x.Y.toList)++[32])++AK x.v)++[10]) (d7.U (x7.Z x8)) rfl (d3.Z (x7.Z x8)) oM λw9 n9 x9 a8 ry=>⟨_,_,rfl,c8 w9 x9 (ry _ _ _ dC oM (b6.U (x7.Z x8))) a8⟩
 .have a5:i=g.length:=oM;rw[a5,fe]at b5;exact Nx b5 rfl x5 λw9 x9=>⟨_,rfl,hR _ (b0.Z x9)⟩
def VD{T:Θ}{g:Ζ}(hG:C0 g):∀(f n:Nat){s:zk}{M:Β},zw T g s->DV T g f n s=some M->M.length=T.length/\∀k∈M,-1<=k/\k<(g.length:Int)
 |0,n,s,M,_,h=>by cases h
 |f+1,n,s,M,hI,h=>by
  cases h1:s.su[n]? with
  |none=>rw[VC h1]at h;cases h;refine⟨hI.len,λk hk=>?_⟩;obtain⟨i,hi,e⟩:=gh.1 hk;exact hI.low i k (by rw[dw hi,e])
  |some i=>
   cases h2:s.m[i]? with
   |none=>rw[DV,h1]at h;dsimp only at h;rw[h2]at h;cases h
   |some k=>
    rw[VF h1 h2]at h;cases h3:DU T g i s (Ar g k.toNat)with
    |none=>rw[h3]at h;cases h
    |some t=>
     rw[h3]at h;have a0:∀e∈Ar g k.toNat,1<=e.to/\e.to<(g.length:Int):=λe he=>by
      unfold Ar at he;cases hx:g[k.toNat]? with
      |none=>rw[hx]at he;cases he
      |some x=>rw[hx]at he;exact hG.2 x (fx hx) e he
     exact VD hG f (n+1) (hI.sd a0 h3).1 h
def Zgt{T:Θ}(hT:vr T)(hG:C0 g)(h:Ĝ T g=some M):M.length=T.length:=(VD hG _ _ (zw.start (by have:=hT.len;omega) hG.1) h).1
structure zd(T:Θ)(g:Ζ):Prop where
 ï:vr T
 to:C0 g
 map:Ĝ T g=some (T.map tx.rk)
 ĸ:vp (λd:tx=>B (A0 d.Of)) T
def zd.e{T:Θ}(h:zd T g):Er T g=0:=Zgm h.ï h.to h.map
def Zif{T:Θ}(hT:vr T)(hG:C0 g)(hM:Ĝ T g=some M):zd T g↔M=T.map tx.rk/\vp (λd:tx=>B (A0 d.Of)) T:=by
 constructor
 .intro h;have:=h.map;rw[hM,ff]at this;exact⟨this,h.ĸ⟩
 .rintro⟨h1,h2⟩;exact⟨hT,hG,by rw[hM,h1],h2⟩
def Ww{T:Θ}{x:tx}{m:Int}(hM:M.length=T.length)(hi:i<T.length)(hx:T[i]=x)(hm:M[i]=m)(hI:M.take i=(T.map tx.rk).take i)(h:m=x.rk):M.take (i+1)=(T.map tx.rk).take (i+1):=by rw[dz oM,dz (by simpa using hi),hI,nx,hm,hx,h]
def Zig{e v:Sl}{T:Θ}{R:Á}(ht:Í w)(hS:Old S w)(hs:IT vm w S s T)(hg:IT ud w Q u g)(hb:∀d∈T,d.Of.length<=4000000000000)
  (hR:∀(b:Bool) w',AI w w'->(b=true↔zd T g)->R b w'):KO d e o v u s pr w R:=by
 unfold KO;have d8:=hs.len;have hm:=hs.max;have a5:∀w',AI w w'-> ¬zd T g->R false w':=λw' hx h=>hR false w' hx ⟨nO,λhf=>fu hf h⟩;refine An.intro λa w1 x1 a9 _ _=>⟨s,a9.at1 (k:=5) xR rfl,u,a9.at1 (k:=4) xR rfl,?_⟩;refine MP.V (Znv (ht.U x1) (hS.U x1.size) (hs.U x1) (hg.U x1) hb (λm M w2 x2 hT hG hM ux=>⟨m,0,rfl,λh=>fu rfl h,λ_=>?_⟩) λw2 x2 c4=>⟨Sl.nil,_,rfl,λ_=>a5 w2 (x1.Z x2) λhF=>c4 hF.e,λh=>fu c4 h⟩);have c5:=x1.Z x2;have a8:=Zgt hT hG hM;have d7:=ux.len;have a6:=Zif hT hG hM;refine⟨s,a9.at1 (k:=5) x2 rfl,?_⟩;refine rn.up hm (λi w'=>AI w2 w'/\M.take i=(T.map tx.rk).take i/\vp (λd:tx=>B (A0 d.Of)) (T.take i)) ⟨AI.refl _,rfl,.nil⟩ λi w3 d9 hi ⟨x3,hI,hK⟩ hn=>⟨λd3=>?_,λd6=>?_⟩
 .have a0:i<T.length:=oM;obtain⟨ad,ps,dd,ee,oo,ha,_,_,hp,_,_,_,hc⟩:=xt hs a0;obtain⟨c7,d5,_,_,_,d0,_,_,d4,_,_,_,d2⟩:=xt hs (n:=i - 1) oM;have d1:=hb _ (fm a0);have b9:=hb _ (fm (show i - 1<T.length by omega));obtain⟨c8,b7,c3⟩:=QG ux (i:=i) oM;have c6:=c5.Z x3;refine⟨ad,⟨ha,oM,d3⟩,ps,T[i].td.Y,T[i].td.v.ma,T[i].td.v.mi,T[i].td.v.pa,dd,ee,oo,T[i].rk,by rw[fa];exact hc _ c6,An.set rfl λa4 w4 x4 b8 _=>sh.drew λw5 x5=>⟨c8,⟨b7,oM,oM⟩,M[i],by rw[fa];exact c3 _ (x3.Z (x4.Z x5)),_,b8.at1 (k:=8) (r:=[]) x5 rfl,py (py ?_)⟩⟩;have b0:=x4.Z x5;have a7:=c6.Z b0;have c9:(M[i]==T[i].rk)=decide (M[i]=T[i].rk):=rfl;rw[c9];by_cases h0:i=0
  .subst h0;refine⟨s,λh=>by simp at h,ad,λh=>by simp at h,ps,λh=>by simp at h,ps,λh=>by simp at h,?_⟩;refine No.intro ⟨#[]⟩ (λh=>by simp at h) λb4 w6 x6 h6=>No.intro ⟨#[]⟩ (λh=>by simp at h) λb5 w7 x7 h7=>?_;have e1:((!decide (M[0]=T[0].rk))||(decide ((0:Int)<((0:Nat):Int))&& !Ak b4 b5))= !decide (M[0]=T[0].rk):=by simp
   rw[e1];have b6:=a7.Z (x6.Z x7);refine⟨λh=>a5 w7 b6 λhF=>?_,λh=>hn a0 w7 ⟨x3.Z (b0.Z (x6.Z x7)),Ww a8 a0 rfl rfl hI (by simpa using h),RB⟩⟩;have h1:=(a6.1 hF).1;simp[h1]at h
  .have h1:1<=i:=oM;rw[Yl h1 a0 hm,ie (show(0:Int)<(i:Int) by omega)];refine⟨s,λ_=>a9.at1 (k:=5) (x2.Z (x3.Z b0)) rfl,c7,λ_=>⟨d0,oM,oM⟩,d5,λ_=>by rw[fa];exact(d2 _ a7).pre rfl,ps,λ_=>b8.at0 x5 rfl,?_⟩;refine No.intro (B (A0 T[i - 1].Of)) (λ_ q hq=>tc.intro (E5.V (HG (d4.U a7) b9 λw6 x6=>⟨x6,_,rfl,hq w6 x6⟩))) λb4 w6 x6 h6=>?_;refine No.intro (B (A0 T[i].Of)) (λ_ q hq=>E5.V (HG (hp.U (a7.Z x6)) d1 λw7 x7=>⟨_,rfl,hq w7 x7⟩)) λb5 w7 x7 h7=>?_;have b6:=a7.Z (x6.Z x7);have b2:((!decide (M[i]=T[i].rk))||(true&& !Ak b4 b5))=false↔M[i]=T[i].rk/\Ak (B (A0 T[i - 1].Of)) (B (A0 T[i].Of))=true:=by
    by_cases hc:M[i]=T[i].rk
    .rw[ie hc]at h6 h7 ⊢;rw[h6 rfl,h7 rfl];simp[hc]
    .rw[gl hc];simp[hc]
   refine⟨λh=>a5 w7 b6 λhF=>?_,λh=>?_⟩
   .obtain⟨k1,k2⟩:=a6.1 hF;rw[b2.2 ⟨by simp[k1],?_⟩]at h
    .cases h
    .cases hb:Ak (B (A0 T[i - 1].Of)) (B (A0 T[i].Of))with
     |true=>rfl
     |false=>exact fu k2 (RA (f:=λd:tx=>B (A0 d.Of)) h1 a0 hb)
   .obtain⟨k1,k2⟩:=b2.1 h;exact hn a0 w7 ⟨x3.Z (b0.Z (x6.Z x7)),Ww a8 a0 rfl rfl hI k1,RC (f:=λd:tx=>B (A0 d.Of)) h1 a0 hK k2⟩
 .have a0:i=T.length:=oM;rw[a0,fe]at hK;rw[a0,<-a8,fe,a8,<-eh (f:=tx.rk),fe]at hI;exact hR true w3 (c5.Z x3) ⟨λ_=>a6.2 ⟨hI,hK⟩,λ_=>rfl⟩
structure Ì(s:è):Prop where
 Xc5:AV s.m=true
 lock:ya s.g
 Ý:zd s.T s.g
end Go.Hal
/-
 DERIVED:THE SHELF's CONTRACTS AT THIS DUMP,IN PLAIN WORDS (tools/lay-plain.mjs rv of 'YtgolaibmophnjaaGreatDoorLay6.lean',which tools/lay-shelf.mjs wrote):THE SAME DECLARATIONS UNDER THE SAME NAMES:'import','namespace','open','def','theorem' AND NOTHING ELSE:no command of the shelf's:FOR A HAND-IN. Each laying:the table of numbers ('.._ren') and one theorem,a field a fact of the dump's ux or the kernel's comparison;each contract:ONE APPLICATION.
-/
namespace Go.Proofs
def Tryz.Xai:Go.Shelf.Ren:=⟨λ|6=>101|15=>106|14=>161|28=>171|29=>172|20=>249|21=>250|22=>251|23=>252|24=>253|25=>254|26=>255|27=>256|46=>310|47=>258|48=>259|49=>311|50=>312|57=>350|n=>n,λ|22=>66|24=>3|25=>182|3=>3|39=>185|0=>0|53=>249|55=>251|4=>4|46=>242|45=>241|50=>246|5=>5|9=>9|66=>317|70=>321|76=>366|77=>367|n=>n,λ|n=>n⟩
def Tryz.Xcy:Go.Proofs.SlLaysF.n6 prog Tryz.Xai:=by repeat' first|kernel_rfl|exact Fz kR kR|(intro w;kernel_rfl)|constructor
def Tryz.Xae:Go.Shelf.Ren:=⟨λ|6=>46|15=>106|14=>105|28=>171|29=>172|20=>163|21=>164|22=>165|23=>166|24=>167|25=>168|26=>169|27=>170|46=>257|47=>258|48=>259|49=>260|50=>261|57=>313|n=>n,λ|22=>76|24=>115|25=>121|3=>3|39=>185|0=>0|53=>249|55=>251|4=>4|46=>242|45=>241|50=>246|5=>5|9=>9|66=>317|70=>321|76=>366|77=>367|n=>n,λ|n=>n⟩
def Tryz.Xby:Go.Proofs.SlLaysF0.n6 prog Tryz.Xae:=by repeat' first|kernel_rfl|exact Fz kR kR|(intro w;kernel_rfl)|constructor
def Tryz.Xac:Go.Shelf.Ren:=⟨λ|6=>64|15=>106|14=>134|28=>171|29=>172|20=>216|21=>217|22=>218|23=>219|24=>220|25=>221|26=>222|27=>223|46=>293|47=>258|48=>259|49=>294|50=>295|57=>338|n=>n,λ|22=>38|24=>61|25=>144|3=>3|39=>185|0=>0|53=>249|55=>251|4=>4|46=>242|45=>241|50=>246|5=>5|9=>9|66=>317|70=>321|76=>366|77=>367|n=>n,λ|n=>n⟩
def Tryz.Xbw:Go.Proofs.SlLaysF0.n6 prog Tryz.Xac:=by repeat' first|kernel_rfl|exact Fz kR kR|(intro w;kernel_rfl)|constructor
def Tryz.Ś:Go.Shelf.Ren:=⟨λ|6=>101|15=>106|14=>161|28=>171|29=>172|20=>249|21=>250|22=>251|23=>252|24=>253|25=>254|26=>255|27=>256|46=>310|47=>258|48=>259|49=>311|50=>312|57=>350|n=>n,λ|22=>66|24=>3|25=>182|3=>3|39=>185|0=>0|53=>249|55=>251|4=>4|46=>242|45=>241|50=>246|5=>5|9=>9|66=>317|70=>321|76=>366|77=>367|n=>n,λ|n=>n⟩
def Tryz.Xa5:Go.Proofs.SlLaysF0.n6 prog Tryz.Ś:=by repeat' first|kernel_rfl|exact Fz kR kR|(intro w;kernel_rfl)|constructor
end Go.Proofs
namespace Go.Hal
open Go.Lib Go.Sort
section
variable {α:Type} [Inhabited α] (fn:α->Int)
def Zd6{g:Nat}{l:List α}{tail:LV}(h:tm ER w g (l.map fn) tail):Go.Sort.Holds (λx=>Value.int .i64 (fn x)) w g 0 l.toArray:=by
 obtain⟨t,_,_,hb⟩:=h;rw[Q1]at hb;intro j hj;have a0:j<l.length:=by simpa using hj
 constructor
 .simp only[World.cell?,hb,lu];rw[ku,fy (by rwa [eh,eh]),gc,gc,dw a0,getElem!_pos l.toArray j hj];rfl
 .simp[World.frozen?,hb]
def WK{g:Nat}{l l':List α}{tail:LV}{os:Array Obj}(h:tm ER w g (l.map fn) tail)(hl:l'.length=l.length):
  ur g w (sortWorld (λx=>Value.int .i64 (fn x)) w g 0 n l'.toArray os)/\tm ER (sortWorld (λx=>Value.int .i64 (fn x)) w g 0 n l'.toArray os) g (l'.map fn) tail/\w.drawn<=(sortWorld (λx=>Value.int .i64 (fn x)) w g 0 n l'.toArray os).drawn:=by
 obtain⟨t,_,_,hb⟩:=h;have a4:g<w.heap.size:=(fg.1 hb).1;have hh:(sortWorld (λx=>Value.int .i64 (fn x)) w g 0 n l'.toArray os).heap=w.heap.modify g (onCells (putCells (λx=>Value.int .i64 (fn x)) 0 l'.toArray))++os:=rfl;refine⟨⟨by rw[hh];simp,rfl,rfl,rfl,λb a0 a5=>?_⟩,⟨t,rfl,rfl,?_⟩,?_⟩
 .rw[hh,kh (by simpa using a0),nh,fb (Ne.H a5)]
 .rw[hh,kh (by simpa using a4),nh,fo rfl,hb];simp only[ir,onCells,ff,Obj.cells.injEq,and_true];apply Array.ext_getElem?;intro j;rw[Q1,Q1];simp only[putCells,Array.getElem?_mapIdx,ku,im,true_and,lu,rj,jm];by_cases hj:j<l'.length
  .rw[fy (by rwa [eh,eh,<-hl]),fy (by rwa [eh,eh]),gc,gc,gc,gc,dw (by rwa [<-hl]),dw hj];simp only[ir,fo hj];rw[getElem!_pos l'.toArray j (by simpa using hj)];rfl
  .rw[ic (by rw[eh,eh,<-hl];omega),ic (by rw[eh,eh];omega),eh,eh,eh,eh,hl];cases tail[j - l.length]? with
   |none=>rfl
   |some v=>simp only[ir];rw[fb (by rwa [<-hl])]
 .show w.drawn<=w.drawn+n;omega
def Zla{ρ:Ren}(L:SlLaysF.n6 P ρ)(cf:α->α->Int)(hO:SWO (ltOf cf))(gf:Nat)(cb:Δ)(eg:∀args w,(callFunc gf args).run P w= .ok (.enter gf args) w){g cap:Nat}{l:List α}{tail:LV}
  (a4:∀w0 x y,ur g w w0->w.drawn<=w0.drawn->Calls P gf (#[vi (fn x),vi (fn y)]++cb) w0 λe w'=>e= .returned (vi (cf x y))/\∃q a9,w'=grow (w0.drewN q) a9)
  (hR:tm ER w g (l.map fn) tail) (a8:l.length<4611686018427387904)  {F:Nat} (hF:ρ.f 6=F)
  (hK:∀(l':List α) w',l'.Perm l->l'.Pairwise (λx y=>¬cf y x<0)->ur g w w'->tm ER w' g (l'.map fn) tail->K (.tuple #[]) w'):si P F [Sl.v ⟨some ⟨g,0,none⟩,l.length,cap⟩,.func (.func gf) #[] cb] w K:=by
 subst hF;have a6:g<w.heap.size:=by obtain⟨t,_,_,hb⟩:=hR;exact(fg.1 hb).1
 have h1:OneCell (λx:α=>Value.int .i64 (fn x)):=λx=>rfl;have hC:CmpLays1 P gf cb (λx=>Value.int .i64 (fn x)) cf g 0 l.toArray.size w:=λm os dk hs x y=>by have:=WK fn hR (n:=m) (os:=os) (l':=dk.toList) (by simpa using hs);exact a4 _ x y this.1 this.2.2
 have h:=Any.slices_SortFunc L (λx=>Value.int .i64 (fn x)) h1 cf hO gf cb g 0 cap l.toArray w eg hC (Zd6 fn hR) a6 (by simpa using a8);refine h.O λe w' ⟨he,d',n,os,hp,hs,hw⟩=>⟨_,he,?_⟩;have a7:=Wt hp;have a5:d'.toList.length=l.length:=by simpa using hp.1
 have a0:=WK fn hR (n:=n) (os:=os) (l':=d'.toList) a5;rw[mr,<-hw]at a0;exact hK d'.toList w' (by simpa using a7) ((WT hp.1 hs).imp λh=>by simpa[ltOf]using h) a0.1 a0.2.1
end
def FS(T:Θ)(home:Ap)(i:Nat):Bool:=match T[i]? with
 |some d=>decide (d.Of.length=home.length+1)&&decide (d.Of.take home.length=home)
 |none=>false
def UZ{T:Θ}{home:Ap}(h:i<T.length):FS T home i=(decide (T[i].Of.length=home.length+1)&&decide (T[i].Of.take home.length=home)):=by unfold FS;rw[dw h]
def Zef{T:Θ}{home:Ap}(h:FS T home i=true):∃(hi:i<T.length),home.length<T[i].Of.length:=by
 by_cases hi:i<T.length
 .rw[UZ hi,ep,jl]at h;exact⟨hi,oM⟩
 .unfold FS at h;rw[jf oM]at h;cases h
def CC(T:Θ)(home:Ap)(n:Nat):Α:=(List.range n).filter (FS T home)
def Zek(T:Θ)(a0:Ap)(n:Nat):CC T a0 (n+1)=if FS T a0 n then CC T a0 n++[n]else CC T a0 n:=by unfold CC;rw[List.range_succ,kr];cases h:FS T a0 n<;>simp[h]
def Vf(T:Θ)(a0:Ap)(n:Nat):(CC T a0 n).length<=n:=by unfold CC;have:=jo (FS T a0) (List.range n);rwa [List.length_range]at this
def IP(T:Θ)(k i:Nat):PU:=match T[i]? with
 |some d=>d.Of.getD k ⟨#[]⟩
 |none=>⟨#[]⟩
def Zg0{T:Θ}{k:Nat}(h:i<T.length)(hk:k<T[i].Of.length):IP T k i=T[i].Of[k]:=by unfold IP;rw[dw h];simp[hk]
def N1(T:Θ)(k:Nat)(a b:Nat):Int:=AM (A7 (IP T k a) (IP T k b)) (BD a b)
def Zm(T:Θ)(k:Nat):vv (N1 T k):=(DN (IP T k)).or (ô.Ę λn:Nat=>(n:Int))
def Ve{hm:Sl}{T:Θ}{c0 c1:LP}{k:Nat}{R:Å}(hi:i<T.length)(hk:k<T[i].Of.length)(hl:hm.len=k)(hs:IT vm w S s T)(h0:AT w c0 [s.v])(h1:AT w c1 [hm.v])(hR:∀w',Gr w w'->R (IP T k i) w'):Jt (i:Int) c0 c1 w R:=by unfold Jt;subst hl;have a6:=hs.len;obtain⟨ad,ps,dd,ee,oo,ha,_,_,hp,_,_,_,hc⟩:=xt hs hi;have a5:=hp.len;refine sh.gr λw1 x1=>⟨s,h0.at0 (r:=[]) x1.U rfl,ad,⟨ha,oM,oM⟩,ps,by rw[fa];exact(hc _ x1.U).pre rfl,hm,h1.at0 (r:=[]) x1.U rfl,?_⟩;obtain⟨al,a0,_,a4⟩:=Jp hp hk;refine⟨al,⟨a0,oM,oM⟩,_,by rw[fa];exact a4 _ x1.U,?_⟩;have:=hR w1 x1;rw[Zg0 hi hk]at this;exact this
def U6:Bi prog 100:=enters_of func100 kR rfl
def Zby:Bi prog 102:=enters_of func102 kR rfl
def Zej{hm:Sl}{T:Θ}{c0 c1 c2:LP}{k:Nat}{R:À}(hi:i<T.length)(a6:k<T[i].Of.length)(hj:j<T.length)(a7:k<T[j].Of.length)(hl:hm.len=k)(hs:IT vm w S s T)(h0:AT w c0 [s.v])(h1:AT w c1 [hm.v])
  (h2:AT w c2 [Value.func (.func 100) #[] #[Value.pointer (some c0),Value.pointer (some c1)]]) (hR:∀w',Gr w w'->R (N1 T k i j) w'):MJ (i:Int) (j:Int) c2 w R:=by
 refine sh.gr λw1 x1=>⟨_,h2.at0 (r:=[]) x1.U rfl,_,h2.at0 (r:=[]) x1.U rfl,_,_,rfl,U6,Jt.V (Ve hi a6 hl (hs.U x1.U) (h0.U x1.U) (h1.U x1.U) λw2 x2=>⟨x2.U,_,rfl,_,_,rfl,U6,?_⟩)⟩;have a0:=x1.Z x2;refine Jt.V (Ve hj a7 hl (hs.U a0.U) (h0.U a0.U) (h1.U a0.U) λw3 x3=>⟨_,rfl,Fg ⟨_,rfl,Ei.V (yp ⟨_,rfl,An.gr λa4 w4 x4 a5=>?_⟩)⟩⟩);exact EK.V (Uc (N0 (l:=[_,_]) a5 sI) ⟨_,rfl,hR _ (a0.Z (x3.Z x4))⟩)
def Y8(T:Θ)(k i:Nat):Prop:=∃hi:i<T.length,k<T[i].Of.length
abbrev Pw(T:Θ)(k:Nat):Type:={i:Nat//Y8 T k i}
def Xt{P:Nat->Prop}:∀(l:Α),(∀i∈l,P i)->∃z:List {i:Nat//P i},z.map Subtype.val=l
 | [],_=>⟨[],rfl⟩
 |i::l,h=>by obtain⟨z,hz⟩:=Xt l λj hj=>h j (.tail _ hj);exact⟨⟨i,h i (.head _)⟩::z,by rw[gu,hz]⟩
def Zel{T:Θ}{at':Nat}(hS:Old S w)(hs:IT vm w S s T)(hi:at'<T.length)(hT:T.length<=1000000)
  (hR:∀t l w',AI w w'->l.Perm (CC T T[at'].Of T.length)->tk ER 8 w' w.heap.size t (Ca l)->R t w'):MI s (at':Int) w R:=by
 unfold MI;have f8:=hs.len;obtain⟨ad,hm,dd,ee,oo,ha,_,_,hp,_,_,_,hc⟩:=xt hs hi;have c6:=hp.len;have e5:T[at'].Of.length*16<=Ab:=hp.2.2.2.1;unfold Ab at e5;have f7:T[at'].Of.length<=hm.cap:=hp.2.1;generalize T[at'].Of=a0 at*;refine An.intro λa w1 x1 a5 e8 _=>py ⟨s,λ_=>a5.se.pre (r:=[]) rfl,?_⟩;have e:(decide ((at':Int)<0)||decide ((s.len:Int)<=(at':Int)))=false:=by rw[gl oM,gl oM];rfl
 rw[e];refine⟨nO,λ_=>⟨s,a5.se.pre (r:=[]) rfl,ad,⟨ha,oM,oM⟩,hm,by rw[fa];exact(hc _ x1).pre rfl,An.set rfl λa3 w3 x3 b2 e9=>⟨s,a5.at0 (r:=[]) x3 rfl,?_⟩⟩⟩;have a8:=x1.Z x3;refine uc.up hs.max (λrv i w'=>AI w3 w'/\rl Ci 3 w' w3.heap.size rz rv (Ca (CC T a0 i))) ⟨AI.refl _,rl.zero _⟩ λrv i w4 g0 f6 ⟨x4,o4⟩ hn=>⟨λe0=>join.named λJ hJ=>?_,λf4=>?_⟩
 .have b4:i<T.length:=oM;obtain⟨c9,ps,_,_,_,d1,_,_,c3,_,_,_,d6⟩:=xt hs b4;have f2:=c3.len;have f1:T[i].Of.length<=ps.cap:=c3.2.1;have b0:∀a4 w',AI w3 w'->rl Ci 3 w' w3.heap.size rz a4 (Ca (CC T a0 (i+1)))->J a4 w':=λa4 w' hx ho=>by rw[hJ];exact hn b4 a4 w' ⟨hx,ho⟩
  rw[Zek,UZ b4]at b0;refine⟨s,a5.at0 (r:=[]) (x3.Z x4) rfl,c9,⟨d1,oM,e0⟩,ps,by rw[fa];exact(d6 _ (a8.Z x4)).pre rfl,sh.drew λw5 x5=>⟨hm,b2.at0 (r:=[]) (x4.Z x5) rfl,py ?_⟩⟩;have b7:=x4.Z x5;have c8:=a8.Z b7;have e1:((ps.len:Int)==Aa ((hm.len:Int)+1))=decide (T[i].Of.length=a0.length+1):=by rw[Ai oM oM,ij,ko,jl];omega
  rw[e1];refine⟨hm,λ_=>b2.at0 (r:=[]) b7 rfl,λhg=>⟨oM,by have:=mh hg;omega⟩,hm,λ_=>b2.at0 (r:=[]) b7 rfl,?_⟩;refine No.intro (decide (T[i].Of.take a0.length=a0)) (λhg q hq=>?_) λe7 w6 x6 d0=>?_
  .have hg:=mh hg;rw[fa,c6];have b8:=(c3.U c8).cut (a:=0) (b:=a0.length) (im _) oM;rw[lf]at b8;exact HB.V (NK b8 (hp.U c8) λw6 x6=>⟨_,rfl,hq w6 x6⟩)
  have e2:(decide (T[i].Of.length=a0.length+1)&&e7)=(decide (T[i].Of.length=a0.length+1)&&decide (T[i].Of.take a0.length=a0)):=by
   cases hd:decide (T[i].Of.length=a0.length+1)with
   |false=>rfl
   |true=>rw[d0 hd]
  rw[e2];have a9:=b7.Z x6;refine⟨λhq=>An.intro λa7 w7 x7 d5 _ _=>?_,λhq=>?_⟩
  .rw[fo hq]at b0;have c4:=Vf T a0 i;refine(o4.U (x5.Z (x6.Z x7))).Ĉ (a9.Z x7) P2 (x:=(i:Int)) ⟨rfl,trivial⟩ (d5.se.pre (r:=[]) rfl) dC (by rw[IQ];show _*8<=Ab;unfold Ab;omega) λr w8 o8 x8=>b0 r w8 x8 ?_;unfold Ca at o8 ⊢;rwa [gd]
  .rw[fb (by rw[hq];decide)]at b0;exact b0 rv w6 a9 (o4.U (x5.Z x6))
 .have b4:i=T.length:=oM;subst b4;refine An.set rfl λa6 w6 x6 d4 f0=>?_;have a9:=x4.Z x6;have b5:=a8.Z a9;have c4:=Vf T a0 T.length;have hF:tk ER 8 w6 w3.heap.size rv (Ca (CC T a0 T.length)):=(tk.of (E:=Ci) (λx cs h=>h.1) o4 (by rw[IQ];unfold Ab;omega)).U x6;have c5:∀t l w',tk ER 8 w' w3.heap.size t l->tk ER 8 w' w.heap.size t l:=λt l w' h=>by obtain⟨h1,h2,h3,h4,h5⟩:=h;exact⟨h1,h2,h3,h4,h5.imp id λ⟨g,tl,a,b,c⟩=>⟨g,tl,a,fl a8.size b,c⟩⟩
  obtain⟨h1,h2,h3,h4,h5⟩:=hF;have b9:∀ad,rv.a=some ad->ad.block<w4.heap.size:=λad d2=>(o4.block d2).2.1;obtain⟨oa,on,oc⟩:=rv;simp only at h1 h2 h3 h5;subst h1;rcases h5 with h0|⟨g,tail,d7,hg,hr⟩
  .rw[h0];refine(AnyF.slices_SortFunc_none Tryz.Xa5 oa oc _ w6).O λe w' ⟨he,hw⟩=>⟨_,he,rfl,?_⟩;subst hw;have e3:CC T a0 T.length=[]:=by have:=kd List.length h0;rw[IQ]at this;exact fq this
   exact hR _ [] _ b5 (by rw[e3]) ⟨rfl,im _,h3,by unfold Ab;simp[Ca],.inl rfl⟩
  .subst d7;have d8:=b9 _ rfl;obtain⟨z,hz⟩:∃z:List (Pw T a0.length),z.map Subtype.val=CC T a0 T.length:=Xt _ λi hi=>Zef (jd.1 hi).2;by_cases c7:z=[]
   .subst c7;rw[<-hz];refine(AnyF.slices_SortFunc_none Tryz.Xa5 _ oc _ w6).O λe w' ⟨he,hw⟩=>⟨_,he,rfl,?_⟩;subst hw;exact hR _ [] _ b5 (by rw[<-hz];exact jx _) ⟨rfl,im _,h3,by unfold Ab;simp[Ca],.inl rfl⟩
   obtain⟨z0,f3⟩:=List.exists_mem_of_ne_nil z c7
   haveI:Inhabited (Pw T a0.length):=⟨z0⟩
   have hO:=Zm T a0.length;have ez:Ca (CC T a0 T.length)=z.map λx=>((x.1:Nat):Int):=(by rw[<-hz];unfold Ca;rw[jj];rfl);rw[ez]at hr h2 ⊢;rw[eh]at h2 ⊢;have f9:z.length<=1000000:=(by have:=kd List.length hz;rw[eh]at this;omega);refine Zla (α:=Pw T a0.length) (λx=>((x.1:Nat):Int)) Tryz.Xcy (λx y=>N1 T a0.length x.1 y.1) (Fh (λx y=>hO.flip _ _) (λx y z=>hO.Z _ _ _)) 102 #[Value.pointer (some a6)] Zby (λw0 x y hb _=>?_) hr oM rfl λl' w' b6 _ d3 e6=>?_
   .have d9:=MJ.V (k:=λv w'=>v= .int .i64 (N1 T a0.length x.1 y.1)/\Gr w0 w') (Zej (c0:=a) (c1:=a3) (c2:=a6) (s:=s) (hm:=hm) (S:=S) (w:=w0) x.2.1 x.2.2 y.2.1 y.2.2 c6 ((hs.U b5).J hb λh=>?_) (hb.box (a5.U (x3.Z a9)) ?_) (hb.box (b2.U a9) ?_) (hb.box d4 ?_) λw' h=>⟨rfl,h⟩)
    .exact Calls.O d9 λe w' ⟨v,he,hv,hg⟩=>⟨by rw[he,hv],hg⟩
    .have:=hS _ h;have:=a8.size;omega
    .have:=a5.lt;have:=x3.size;omega
    .have:=b2.lt;omega
    .have:=x6.size;simp only at d8;omega
   .refine⟨rfl,hR _ (l'.map Subtype.val) w' (b5.A ((d3.below b5.size (fl a8.size hg)))) ?_ ?_⟩
    .rw[<-hz];exact b6.map _
    .have e4:Ca (l'.map Subtype.val)=l'.map λx=>((x.1:Nat):Int):=(by unfold Ca;rw[jj];rfl);rw[e4];refine c5 _ _ _ ⟨by rw[eh,b6.length_eq],by rwa [eh,b6.length_eq],h3,by rw[eh,b6.length_eq];unfold Ab;omega,.inr ⟨g,tail,rfl,hg,e6⟩⟩
def An.Xcf{α:Type}{E:xh α}{f:α->LV}{l:List α}{t:LN}{k:Ä}(hE:∀x∈l,∀w S,E.rep w S x (f x))(a5:cs=(l.map f).flatten)(hl:l.length<=1000)
  (h:∀a w',AI w w'->rl E t w' w.heap.size rz ⟨some a,l.length,l.length⟩ l->a.block=w.heap.size->k a w'):An w cs t k:=λa w' ha hw=>by
 subst ha hw a5;have a4:∀cs∈l.map f,cs.length=E.n:=λcs hc=>by obtain⟨x,hx,rfl⟩:=gv.1 hc;exact E.len (hE x hx w rz)
 have a0:((l.map f).flatten).length=l.length*E.n:=by
  have:∀(m:List (List HT)),(∀c∈m,c.length=E.n)->m.flatten.length=m.length*E.n:=by
   intro m;induction m with
   |nil=>intro _;simp
   |cons c m ih=>intro hm;rw[js,dx,hm c (.head _),ih λx hx=>hm x (.tail _ hx),gb,lj];omega
  rw[this _ a4,eh]
 refine h _ _ (AI.alloc _ _) ⟨⟨l.map f,⟨a0,.inr ⟨w.heap.size,l.length,_,rfl,ga _,heap_alloc_new w _,ga _,by rw[Al];omega,by simpa using a0,?_⟩⟩,by simp,λi x hx=>?_⟩,rfl,λ_ h=>h.F,λ_ _ h=>h.F⟩ rfl
 .rw[rb,ia (Nat.le_of_eq a0)]
 .rw[gc,hx];exact⟨_,rfl,E.ry (hE x (fx hx) w rz) ((AI.alloc w _).ry _)⟩
def rl.Xbd{α:Type}{E:xh α}{t e t':LN}{l m:List α}{f:α->LV}{k:Sl->Wp}(h:rl E e w w0.heap.size rz s l)(hf:∀{w S S' x cs},E.rep w S x cs->E.rep w S' x cs)(x0:AI w0 w)(hT:Bz P t e E.n E.bytes)
  (hE:∀x∈m,∀w S,E.rep w S x (f x)) (a6:cs=(m.map f).flatten) (hm:m.length<=1000) (h1:1<=E.bytes) (hb:(l.length+m.length)*E.bytes<=Ab)
  (hk:∀r w',rl E e w' w0.heap.size rz r (l++m)->AI w0 w'->k r w'):An w cs t' λa vw=>ue P t t s (Sl.v (Sl.mk (some a) m.length m.length)) vw k:=by
 have a4:∀n,n<=l.length+m.length->n*E.bytes<=Ab:=λn hn=>fl (je _ hn) hb;have a7:l.length+m.length<=maxLen:=by have:(l.length+m.length)*1<=(l.length+m.length)*E.bytes:=qz _ h1;rw[Al];unfold Ab at hb;omega
 refine An.Xcf hE a6 hm λa w1 x1 o1 ha=>?_;have hs:=o1.I (a4 _ oM) oM;refine(h.U x1).zj hT (fl x0.size x1.size) hs (λb hb=>?_) (λad a0 hb=>?_) hb a7 λr w2 o2 vd _ _=>?_
 .rcases hb with hb|⟨ad,a0,rfl⟩
  .exact hb.F
  .exact(o1.block a0).2.1
 .rcases hb with hb|⟨a8,a5,e⟩
  .exact hb.F
  .cases a5;have:=(h.block a0).2.1;omega
 .exact hk r w2 (rl.flat hf o2) ((x0.Z x1).A vd)
structure zm where
 Of:PU
 dir:Bool
 data:PU
 deriving Inhabited
def EM(x:zm):LV:=[.string x.Of,.bool x.dir,.string x.data]
def Ù:xh zm:=DS 3 40 EM (λx=>Ac x.Of/\Ac x.data) (λ_=>rfl) (λ_ v hv=>by simp[EM]at hv;rcases hv with rfl|rfl|rfl<;>rfl)
def P1:Bz prog 76 115 3 40:=CM (z:=.agg #[.string ⟨#[]⟩,.bool false,.string ⟨#[]⟩]) kR kR rfl dC
def Zeq:∀w,(isAgg 115).run prog w= .ok true w:=λw=>by kernel_rfl
def Zk1:∀w,(Go.sizeOf 115).run prog w= .ok 3 w:=λw=>by kernel_rfl
def Zj{a b:zm}{R:À}(hR:∀w',Gr w w'->R (A7 a.Of b.Of) w'):KM a.Of a.dir a.data b.Of b.dir b.data w R:=by refine An.gr λ_ w1 x1 hb=>An.gr λ_ w2 x2 a0=>⟨_,Gr.at0 hb x2 rfl,_,Gr.at0 a0 (Gr.refl _) rfl,Fg ⟨_,rfl,hR _ (x1.Z x2)⟩⟩
def Zbq:Bi prog 47:=enters_of func47 kR rfl
def Zk9{l:List zm}(h:tk EM 40 w lo s l)(a0:lo<=w.heap.size)
  (hK:∀(l':List zm) w',l'.Perm l->l'.Pairwise (λx y=>¬A7 y.Of x.Of<0)->Below lo w w'->tk EM 40 w' lo s l'->K (.tuple #[]) w'):
  si prog 46 [s.v,.func (.func 47) #[] #[]] w K:=by
 obtain⟨h1,h2,h3,h4,h5⟩:=h;obtain⟨a,n,c⟩:=s;simp only at h1 h2 h3 h5;subst h1;rcases h5 with rfl|⟨g,tail,ha,hg,hr⟩
 .refine(AnyF.slices_SortFunc_none Tryz.Xby a c _ w).O λe w' ⟨he,hw⟩=>⟨_,he,?_⟩;subst hw;exact hK [] _ (jx _) .nil (Below.refl _ _) ⟨rfl,h2,h3,h4,.inl rfl⟩
 .subst ha;have hO:=DN (α:=zm) (·.Of);refine FJ Tryz.Xby (k:=3) Zeq Zk1 (f:=EM) (λ_=>rfl) (λx v hv=>by simp[EM]at hv;rcases hv with rfl|rfl|rfl<;>rfl) (λa b=>A7 a.Of b.Of) (Fh hO.flip hO.Z) 47 #[] Zbq (λw0 x y hb _=>?_) hr (by unfold Ab at h4;omega) rfl λl' w' hp hs b a4=>?_
  .have h:=KM.V (k:=λv w'=>v= .int .i64 (A7 x.Of y.Of)/\Gr w0 w') (Zj (a:=x) (b:=y) (w:=w0) λw' h=>⟨rfl,h⟩);exact Calls.O h λe w' ⟨v,he,hv,hg⟩=>⟨by rw[he,hv],hg⟩
  .exact hK l' w' hp hs (b.below a0 hg) ⟨hp.length_eq.H,by rwa [hp.length_eq],h3,by rwa [hp.length_eq],.inr ⟨g,tail,rfl,hg,a4⟩⟩
def Rj{p:sf}(h:AH p=true):Cj p=true/\(Db p).length<=4096:=by unfold AH at h;simp only[ep,fp]at h;exact⟨by first|exact h.1.2|exact h.2.1|exact h.1.1.2|exact h.1,by first|exact h.2|exact h.2.2⟩
def Zh0{p:sf}{e:Sl}{R:PU->À}(ht:Í w)(hN:Ac p.Y)(hd:IT rq w S d p.sj)(he:IT rq w S e p.sw)(ho:IT rq w S o p.ut)
  (h0:∀w',AI w w'->AH p=true->R (B (Db p)) 0 w') (h1:∀w',AI w w'->AH p=false->R ⟨#[]⟩ 24 w'):L0 p.Y p.v.ma p.v.mi p.v.pa d e o w R:=by
 refine An.intro λa w1 x1 a4 _ _=>⟨_,_,_,_,d,e,o,a4.se.pre (r:=[]) rfl,?_⟩;refine Gv.V (Ov (p:=p) (ht.U x1) hN (hd.U x1) (he.U x1) (ho.U x1) λw2 x2=>⟨_,rfl,λh=>h1 w2 (x1.Z x2) (by simpa using h),λh=>?_⟩);have h:AH p=true:=by simpa using h
 have a0:=x1.Z x2;refine⟨_,_,_,_,d,e,o,(a4.U x2).se.pre (r:=[]) rfl,?_⟩;exact IW.V (Wl (p:=p) (ht.U a0) (Rj h).1 (hd.U a0) (he.U a0) (ho.U a0) λw3 x3=>⟨_,rfl,h0 w3 (a0.Z x3) h⟩)
def EP(home n:LU):LU:=if home= [47]then home++n else(home++[47])++n
def yl:LU:=[112,97,99,107,97,103,101]
def yt:LU:=[109,111,100,117,108,101,115]
def F5(T:Θ)(i:Nat)(d:tx):List zm:=
 (if i=0 then []else [⟨B (A0 d.Of),true,⟨#[]⟩⟩,⟨B (EP (A0 d.Of) yl),false,B (Db d.td)⟩])++(if CC T d.Of T.length=[]then []else [⟨B (EP (A0 d.Of) yt),true,⟨#[]⟩⟩])
def DQ(T:Θ)(n:Nat):List zm:=(List.range n).flatMap λi=>match T[i]? with
 |some d=>F5 T i d
 |none=>[]
def Zc8{T:Θ}(h:i<T.length):DQ T (i+1)=DQ T i++F5 T i T[i]:=by unfold DQ;rw[List.range_succ,qb];simp[dw h]
def Zat(T:Θ)(i:Nat)(d:tx):(F5 T i d).length<=3:=by unfold F5;split<;>split<;>simp
def Qw(T:Θ):∀n,(DQ T n).length<=3*n
 |0=>by simp[DQ]
 |n+1=>by
  have:=Qw T n;unfold DQ at*;rw[List.range_succ,qb,dx];have h1:((List.flatMap (λi=>match T[i]? with|some d=>F5 T i d|none=>[]) [n])).length<=3:=by
   simp only[List.flatMap_cons,List.flatMap_nil,gz];split
   .exact Zat _ _ _
   .simp
  omega
def vf(s:è):List zm:=[⟨⟨#[47,109,97,110,105,102,101,115,116]⟩,false,B (Ep s.m)⟩,⟨⟨#[47,108,111,99,107]⟩,false,B (II s.g)⟩]++(if s.IN then [⟨⟨#[47,112,114,117,110,101,100]⟩,false,⟨#[]⟩⟩]else [])
def ø(s:è):List zm:=vf s++DQ s.T s.T.length
def ŗ(s:è):Bool:=decide (s.m=⟨[],[],[],[]⟩)&&(decide (s.g.length=1)&&(decide (s.T.length=1)&& !s.IN))
structure Xb9(s:è)(l:List zm):Prop where
 perm:l.Perm (if ŗ s then []else ø s)
 Xdh:l.Pairwise λx y=>¬A7 y.Of x.Of<0
def Zbj{T:Θ}{e v:Sl}{S':Nat->Prop}{R:Á}(hd:IT rq w S' d m.sj)(he:IT rq w S' e m.uo)(ho:IT rq w S' o m.ut)(hv:IT rq w S' v m.ru)
  (hs:IT vm w S s T) (hg:IT ud w Q u g) (hR:∀w',AI w w'->R (ŗ ⟨m,g,T,pr⟩) w'):KN d e o v u s pr w R:=by
 unfold KN;have a5:=hs.len;have a4:=hg.len;refine An.intro λa w1 x1 a0 _ _=>⟨d,e,o,v,a0.at0 xR rfl,?_⟩;refine Lk.V (Zgk (m:=m) (k:=⟨[],[],[],[]⟩) (S:=S') (T:=λ_=>False) (hd.U x1) (he.U x1) (ho.U x1) (hv.U x1) (IT.nil trivial) (IT.nil trivial) (IT.nil trivial) (IT.nil trivial) λw2 x2=>⟨_,rfl,u,λ_=>a0.at1 (k:=4) x2 rfl,py ⟨s,λ_=>a0.at1 (k:=5) x2 rfl,py ⟨pr,λ_=>a0.at1 (k:=6) (r:=[]) x2 rfl,?_⟩⟩⟩);have h:=hR w2 (x1.Z x2);have e1:((u.len:Int)==1)=decide (g.length=1):=by rw[ij,ko,jl];omega
 have e2:((s.len:Int)==1)=decide (T.length=1):=by rw[ij,ko,jl];omega
 rw[e1,e2];unfold ŗ at h;rwa [qo,qo]
def Yf{h n:LU}{R:Å}(hl:h.length+n.length<=100000)(hR:R (B (EP h n)) w):I7 (B h) (B n) w R:=by
 unfold I7;have e0:B h=bm #[47]↔h= [47]:=by
  constructor
  .intro e;have:=kd ByteArray.toList e;rw[E9]at this;have e1:ϩ.toList= [47]:=E9 [47];rw[e1]at this;exact this
  .rintro rfl;rfl
 refine⟨λhe=>?_,λhe=>?_⟩
 .rw[Ba];have h1:=e0.1 he;unfold EP at hR;rw[fo h1]at hR;exact⟨by rw[Af,Af,Au];omega,hR⟩
 .rw[B4,Ba];unfold EP at hR;rw[fb λh1=>he (e0.2 h1)]at hR;exact⟨by rw[Af,AL,Au];simp;omega,by rw[Af,Af,Au];simp;omega,hR⟩
def ĥ{l:LU}(h:l.length<=10000000):Ac (B l):=by unfold Ac;rw[Af,Al];omega
def Oe(h n:LU):(EP h n).length<=h.length+n.length+1:=by unfold EP;split<;>simp<;>omega
def NN{x:zm}(h:Ac x.Of/\Ac x.data):∀w S,Ù.rep w S x (EM x):=λ_ _=>⟨rfl,h⟩
def Xbu{a:Ε}(h:a.size<=100):Ac ⟨a⟩:=by unfold Ac;rw[Al];show a.size<=_;omega
def G5:Ac ⟨#[]⟩:=by unfold Ac;rw[Al];decide
def vr.Of{T:Θ}(h:vr T)(hi:i<T.length):(A0 T[i].Of).length<=1024:=by
 by_cases h0:i=0
 .subst h0;have:=h.root;rw[dw hi,ff]at this;rw[this];decide
 .exact(h.su i _ (dw hi) h0).len
def Zc9{T:Θ}{e v:Sl}{S':Nat->Prop}{R:Sl->À}(ht:Í w)(g0:Old S' w)(hd:IT rq w S' d m.sj)(he:IT rq w S' e m.uo)(ho:IT rq w S' o m.ut)(hv:IT rq w S' v m.ru)
  (hS:Old S w) (hs:IT vm w S s T) (hg:IT ud w Q u g) (hb:∀d∈T,d.Of.length<=4000000000000)
  (h0:∀t l w',AI w w'->Ì ⟨m,g,T,pr⟩->Xb9 ⟨m,g,T,pr⟩ l->tk EM 40 w' w.heap.size t l->(∀x∈l,Ac x.Of/\Ac x.data)->R t 0 w') (h1:∀w',AI w w'-> ¬Ì ⟨m,g,T,pr⟩->R Sl.nil 43 w'):KL d e o v u s pr w R:=by
 unfold KL;have i3:=hs.len;refine An.intro λa w1 x1 a7 _ _=>⟨d,e,o,v,a7.at0 xR rfl,?_⟩;refine Lj.V (Zgj (m:=m) (ht.U x1) (g0.U x1.size) (hd.U x1) (he.U x1) (ho.U x1) (hv.U x1) λw2 x2=>⟨_,_,rfl,λhc=>?_,λhc=>?_⟩)
 .refine h1 w2 (x1.Z x2) λhF=>hc ?_;unfold Lg;rw[fo hF.Xc5]
 have b5:AV m=true:=by
  cases hm:AV m with
  |true=>rfl
  |false=>unfold Lg at hc;rw[hm]at hc;exact fu dC hc
 have d4:=x1.Z x2;refine⟨u,a7.at1 (k:=4) x2 rfl,?_⟩;refine La.V (Zfw (ht.U d4) (hg.U d4) λw3 x3=>⟨_,_,rfl,py ⟨d,e,o,v,u,s,pr,λ_=>a7.at0 (r:=[]) (x2.Z x3) rfl,?_⟩⟩);have b4:=d4.Z x3;refine No.holds (λt=>t=true↔zd T g) (λ_ q hq=>KO.V (Zig (ht.U b4) (hS.U b4.size) (hs.U b4) (hg.U b4) hb λb w4 x4 hb=>⟨b,rfl,hq b w4 x4 hb⟩)) λi6 w4 x4 b8=>⟨λhc=>?_,λhc=>?_⟩
 .refine h1 w4 (b4.Z x4) λhF=>?_;rw[QN hF.lock]at b8 hc;rw[(b8 rfl).2 hF.Ý]at hc;cases hc
 rw[ik]at hc;obtain⟨e5,g2⟩:=hc;have b9:ya g:=jg λhn=>by rw[Vy hn]at e5;exact fu e5 dC
 rw[QN b9]at b8;have f0:zd T g:=(b8 rfl).1 (by simpa using g2);have e2:Ì ⟨m,g,T,pr⟩:=⟨b5,b9,f0⟩;have hT:=f0.ï;have h6:=hT.len;have a4:=b4.Z x4;have f6:=x2.Z (x3.Z x4);refine⟨d,e,o,v,u,s,pr,a7.at0 (r:=[]) f6 rfl,?_⟩;refine KN.V (Zbj (m:=m) (T:=T) (g:=g) (pr:=pr) (hd.U a4) (he.U a4) (ho.U a4) (hv.U a4) (hs.U a4) (hg.U a4) λw5 x5=>⟨_,rfl,λc8=>?_,λc8=>?_⟩)
 .exact h0 Sl.nil [] w5 (a4.Z x5) e2 ⟨by rw[c8,fo rfl],.nil⟩ ⟨rfl,ga _,im _,by unfold Ab;simp,.inl rfl⟩ λ_ h=>by cases h
 have b6:=a4.Z x5;have d6:=f6.Z x5;have h8:(Ep m).length<=4096:=by unfold AV at b5;simp only[ep,fp]at b5;exact b5.2.2
 have e7:(II g).length<=1400000:=by have:=Vx b9 g.length;rwa [fe]at this
 have f7:Lh m=B (Ep m):=by unfold Lh;rw[fo b5]
 rw[f7,V1 b9];have c5:∀x∈ø ⟨m,g,T,pr⟩,Ac x.Of/\Ac x.data:=by
  intro x hx;obtain hx|hx:=fj.1 hx
  .unfold vf at hx;obtain hx|hx:=fj.1 hx
   .obtain rfl|hx:=gj.1 hx
    .exact⟨Xbu dC,ĥ (by show(Ep m).length<=_;omega)⟩
    .rw[eu.1 hx];exact⟨Xbu dC,ĥ (by show(II g).length<=_;omega)⟩
   .split at hx
    .rw[eu.1 hx];exact⟨Xbu dC,G5⟩
    .cases hx
  .obtain⟨i,hi,hx⟩:=List.mem_flatMap.1 hx;have a0:i<T.length:=ly.1 hi;simp only[dw a0]at hx;have hp:=hT.Of a0;have q1:=Oe (A0 T[i].Of) yl;have q2:=Oe (A0 T[i].Of) yt;have q3:yl.length=7:=rfl;have q4:yt.length=7:=rfl;unfold F5 at hx;obtain hx|hx:=fj.1 hx
   .split at hx
    .cases hx
    .rename_i d0;obtain rfl|hx:=gj.1 hx
     .exact⟨ĥ oM,G5⟩
     .rw[eu.1 hx];exact⟨ĥ oM,ĥ (by have:=(Rj (hT.su i _ (dw a0) d0).vt).2;show(Db T[i].td).length<=_;omega)⟩
   .split at hx
    .cases hx
    .rw[eu.1 hx];exact⟨ĥ oM,G5⟩
 have ea:∀x∈vf ⟨m,g,T,pr⟩,Ac x.Of/\Ac x.data:=λx hx=>c5 x (ib _ hx);refine An.Xcf (E:=Ù) (f:=EM) (l:=[⟨⟨#[47,109,97,110,105,102,101,115,116]⟩,false,B (Ep m)⟩,⟨⟨#[47,108,111,99,107]⟩,false,B (II g)⟩]) (λx hx=>NN (ea x (by unfold vf;exact ib _ hx))) rfl sI λa6 w6 x6 o6 h5=>join.named λJ hJ=>?_;have c9:∀{w:Qd} {S S':Nat->Prop} {x:zm} {cs:LV},Ù.rep w S x cs->Ù.rep w S' x cs:=λh=>h;have d9:∀t w',AI w5 w'->rl Ù 115 w' w5.heap.size rz t (vf ⟨m,g,T,pr⟩)->J t w':=λt w7 x7 o7=>by
  rw[hJ];refine⟨s,a7.at1 (k:=5) (d6.Z x7) rfl,?_⟩;refine uc.up hs.max (λrv i w'=>AI w5 w'/\rl Ù 115 w' w5.heap.size rz rv (vf ⟨m,g,T,pr⟩++DQ T i)) ⟨x7,by simpa[DQ]using o7⟩ λrv i w8 i5 hi ⟨x8,o8⟩ hn=>⟨λe7=>join.named λK hK=>?_,λh7=>?_⟩
  .have a0:i<T.length:=oM;obtain⟨ad,ps,dd,ee,oo,ha,_,h2,hp,g3,g4,g8,hc⟩:=xt hs a0;have g1:=hb _ (fm a0);have h9:=hT.Of a0;have g5:=Qw T i;have g6:(vf ⟨m,g,T,pr⟩).length<=3:=(by unfold vf;split<;>simp);have e0:∀t w',AI w5 w'->rl Ù 115 w' w5.heap.size rz t ((vf ⟨m,g,T,pr⟩++DQ T i)++F5 T i T[i])->K t w':=λt w' hx ho=>(by rw[hK];refine hn a0 t w' ⟨hx,?_⟩;rwa [Zc8 a0,<-fh]);have q1:=Oe (A0 T[i].Of) yl;have q2:=Oe (A0 T[i].Of) yt;have q3:yl.length=7:=rfl;have q4:yt.length=7:=rfl;have f4:=b6.Z x8;refine⟨ad,⟨ha,oM,e7⟩,ps,T[i].td.Y,T[i].td.v.ma,T[i].td.v.mi,T[i].td.v.pa,dd,ee,oo,T[i].rk,by rw[fa];exact hc _ f4,An.set rfl λa9 w9 x9 e4 _=>⟨ps,e4.at0 xR rfl,?_⟩⟩;have c3:=f4.Z x9;refine E5.V (HG (hp.U c3) g1 λh3 b7=>⟨_,rfl,join.named λL hL=>?_⟩);have b2:=c3.Z b7;have c7:=x8.Z (x9.Z b7);have e1:∀t w',AI w5 w'->rl Ù 115 w' w5.heap.size rz t ((vf ⟨m,g,T,pr⟩++DQ T i)++(if i=0 then []else [⟨B (A0 T[i].Of),true,⟨#[]⟩⟩,⟨B (EP (A0 T[i].Of) yl),false,B (Db T[i].td)⟩]))->L t w':=λt f3 a5 f1=>by
    rw[hL];have c6:=b6.Z a5;refine⟨s,a7.at1 (k:=5) (d6.Z a5) rfl,?_⟩;refine MI.V (Zel (hS.U c6.size) (hs.U c6) a0 oM λf2 i4 h4 c4 e8 d8=>⟨f2,rfl,?_⟩);have b0:f2.len=(CC T T[i].Of T.length).length:=by rw[d8.1,IQ,e8.length_eq]
    refine⟨λh=>?_,λh=>?_⟩
    .have g7:CC T T[i].Of T.length≠[]:=λe=>(by rw[e]at b0;simp at b0;omega);have el:ϸ=B yt:=rfl;rw[el];refine I7.V (Yf (h:=A0 T[i].Of) (n:=yt) oM ⟨_,rfl,?_⟩);refine rl.Xbd (m:=[⟨B (EP (A0 T[i].Of) yt),true,⟨#[]⟩⟩]) (f1.U c4) c9 (a5.Z c4) P1 (λx hx=>NN (by rw[eu.1 hx];exact⟨ĥ oM,G5⟩)) rfl sI dC ?_ λr d3 d2 d5=>e0 r d3 d5 ?_
     .have:∀n:Nat,n<=100000->n*Ù.bytes<=Ab:=λn hn=>(by show n*40<=Ab;unfold Ab;omega);refine this _ ?_;simp only[dx,gb,ip];split<;>simp<;>omega
     .unfold F5;rwa [fb g7,<-fh]
    .have e6:CC T T[i].Of T.length=[]:=fq oM;refine e0 t h4 (a5.Z c4) ?_;unfold F5;rw[fo e6,gz];exact f1.U c4
   refine⟨λd0=>?_,λd0=>?_⟩
   .have a8:i≠0:=oM;have e3:=hT.su i _ (dw a0) a8;refine⟨_,_,_,_,dd,ee,oo,e4.at1 (k:=1) b7 rfl,?_⟩;refine L0.V (Zh0 (p:=T[i].td) (ht.U b2) h2 (g3.U b2) (g4.U b2) (g8.U b2) (λf3 a5 hm=>⟨_,_,rfl,λh=>fu rfl h,λ_=>?_⟩) λf3 a5 hm=>by rw[e3.vt]at hm;cases hm);have el:Ϻ=B yl:=rfl;rw[el];refine I7.V (Yf (h:=A0 T[i].Of) (n:=yl) oM ⟨_,rfl,?_⟩);have i2:=(Rj e3.vt).2;refine rl.Xbd (m:=[⟨B (A0 T[i].Of),true,⟨#[]⟩⟩,⟨B (EP (A0 T[i].Of) yl),false,B (Db T[i].td)⟩]) (o8.U (x9.Z (b7.Z a5))) c9 (c7.Z a5) P1 (λx hx=>NN ?_) rfl sI dC ?_ λr d3 d2 d5=>e1 r d3 d5 (by rwa [fb a8])
    .obtain rfl|hx:=gj.1 hx
     .exact⟨ĥ oM,G5⟩
     .rw[eu.1 hx];exact⟨ĥ oM,ĥ (by show(Db T[i].td).length<=_;omega)⟩
    .have:∀n:Nat,n<=100000->n*Ù.bytes<=Ab:=λn hn=>(by show n*40<=Ab;unfold Ab;omega);refine this _ ?_;simp only[dx,gb,ip];omega
   .have a8:i=0:=oM;exact e1 rv h3 c7 (by rw[fo a8,gz];exact o8.U (x9.Z b7))
  .have a0:i=T.length:=oM;subst a0;have g5:=Qw T T.length;have g6:(vf ⟨m,g,T,pr⟩).length<=3:=(by unfold vf;split<;>simp);have f9:tk EM 40 w8 w5.heap.size rv (ø ⟨m,g,T,pr⟩):=tk.of (E:=Ù) (λx cs h=>h.1) o8 (by unfold ø Ab;rw[dx];show((vf ⟨m,g,T,pr⟩).length+(DQ T T.length).length)*40<=_;omega);refine Zk9 f9 x8.size λl' w9 e9 g9 d7 f8=>⟨rfl,?_⟩;have c3:AI w w9:=(b6.Z x8).A (d7.O b6.size);refine h0 rv l' w9 c3 e2 ⟨by rwa [c8],g9⟩ ?_ λx hx=>c5 x (e9.subset hx);obtain⟨k1,k2,k3,k4,k5⟩:=f8;exact⟨k1,k2,k3,k4,k5.imp id λ⟨gg,tl,a,b,c⟩=>⟨gg,tl,a,fl b6.size b,c⟩⟩
 refine⟨pr,a7.at1 (k:=6) (r:=[]) (d6.Z x6) rfl,λd1=>?_,λd1=>?_⟩
 .subst d1;refine rl.Xbd (m:=([⟨⟨#[47,112,114,117,110,101,100]⟩,false,⟨#[]⟩⟩]:List zm)) o6 c9 x6 P1 (λx hx=>NN (by rw[eu.1 hx];exact⟨Xbu dC,G5⟩)) rfl sI dC (by show 3*40<=Ab;unfold Ab;decide) λr w7 o7 x7=>d9 r w7 x7 o7
 .subst d1;exact d9 _ w6 x6 o6
def Tu(b:Nat)(A B:Qd):Prop:=A.grownBy B (some b)
def Po(ks:Α)(A B:Qd):Prop:=∀k∈ks,B.heap[k]?=A.heap[k]?
def Yd(r:Γ):Fence:={Fence.wide with round:=r}
def Tu.put(W:Qd)(l:Nat)(o:Obj):Tu l W (W.putObj l o):=grownBy_putObj' W l o
def Tu.alloc(W:Qd)(b:Nat)(o:Obj):Tu b W (W.alloc o):=World.grownBy_alloc W o _
def Tu.at{k:Nat}{B:Qd}{o:Obj}(h:Tu b A B)(hk:A.heap[k]?=some o)(a0:k≠b):B.heap[k]?=some o:=(World.grownBy.block h k (fg.1 hk).1 (by simpa using a0)).Z hk
def Tg{α:Type}(n:Nat)(P:LD)(gf:Nat)(lb:Δ)(enc:α->HT)(zs:List α)(bs:Nat)(ks:Α)(w0:Qd):Prop:=
 ∀(l:Nat)(J:Â)(Jx:Wp)(W:Qd),Po ks w0 W->(∀k A B,J k A->Tu bs A B->J k B)->(∀A B,Jx A->Tu bs A B->Jx B)->
  (∀k (h:k<zs.length) W1,J k W1->YieldAt Fence.wide (n - 1) P l #[enc zs[k]] W1 λe W'=>
   (e= .returned (.bool true)/\J (k+1) W'/\Po ks W1 W')\/(e= .returned (.bool false)/\Jx W'))->
  J 0 W->CallsIn Fence.wide n P gf (#[.func (.yield l) #[] #[]]++lb) W λe W'=>(∃v,e= .returned v)/\(J zs.length W'\/Jx W')
def Zih(l:Nat)(ks:Α)(I:Â)(Ix:Code->Wp)(k:Nat)(W:Qd):Exit->Act->Wp
 | .normal,_,W'=>W'.heap[l]?=W.heap[l]? /\Po ks W W'/\I k W'
 | .ret,_,W'=>W'.heap[l]?=W.heap[l]? /\Ix .ret W'
 | .exit id,_,W'=>W'.heap[l]?=W.heap[l]? /\Ix (.exit id) W'
 |_,_,_=>False
def W6{α:Type}{g:LS}{ps:Array Tmp}{assign body:Code}{Q:Exit->Act->Wp}{a:Act}{w₀:Qd}{r₀:Γ}{mark:List Deferred}{D:Nat}
  (he:∀fn,(Instr.enterLoop fn a.tmps ps assign body r₀).run P w= .ok (w₀.heap.size,mark) (w₀.alloc (.loop {state:=.ready,pending:=none,fn,tmps:=a.tmps,params:=ps,assign,body,defers:=D})))
  {gf:Nat} {lb:Δ} (hg:a.eval g= .func (.func gf) #[] lb) (eg:∀args w,(callFunc gf args).run P w= .ok (.enter gf args) w)
  {enc:α->HT} {zs:List α} {bs:Nat} {ks:Α} (c4:Tg (n - 1) P gf lb enc zs bs ks w₀) (c7:ps.size=1)
  (c9:bs<w₀.heap.size) (b7:∀k∈ks,k<w₀.heap.size)
  (I:Â) (Ix:Code->Wp) (hI:∀k A B b,(b=bs\/b=w₀.heap.size)->I k A->Tu b A B->I k B) (a9:∀c A B b,(b=bs\/b=w₀.heap.size)->Ix c A->Tu b A B->Ix c B)
  (h0:I 0 w₀) (a₁:α->Act)
  (a6:∀(x:α)(W:Qd)(K:Act->Wp),K (a₁ x) W->
   assign.wpIn (Fence.wide.inRound w₀.heap.size) (n - 1 - 1) P (Exit.then K (λ_ _ _=>False)) {tmps:=(ps.zip #[enc x]).foldl (λt (p,v)=>t.setIfInBounds p v) a.tmps,defers:=[]} W)
  (b4:∀k (h:k<zs.length) (W:Qd),(∃r:Loop,W.heap[w₀.heap.size]?=some (.loop r)/\r.defers=D)->I k W->
   body.wpIn (Fence.wide.inRound w₀.heap.size) (n - 1 - 1) P (Zih w₀.heap.size ks I Ix (k+1) W) (a₁ zs[k]) W)
  (b5:∀W,I zs.length W->Q .normal {a with defers:=mark++a.defers} W)
  (b6:∀c W,Ix c W->c.wpIn (Yd r₀) n P Q {a with defers:=mark++a.defers} W):
  (Code.rangeFunc g ps assign body).wpIn (Yd r₀) n P Q a w:=by
 refine wpIn_rangeFunc λfn d0=>?_;generalize hl:w₀.heap.size=l at*;obtain⟨a5,a0⟩:∃a5:LoopState->Option Code->Loop,a5=λst pe=>{state:=st,pending:=pe,fn,tmps:=a.tmps,params:=ps,assign,body,defers:=D}:=⟨_,rfl⟩;obtain⟨W1,b0⟩:∃W1,w₀.alloc (.loop (a5 .ready none))=W1:=⟨_,rfl⟩;have c5:W1.heap[l]?=some (.loop (a5 .ready none)):=by rw[<-b0,<-hl];exact World.alloc_heap_new w₀ _
 refine⟨l,mark,W1,{target:=.fn (.func gf) lb,args:=#[.func (.yield l) #[] #[]]},W1,gf,#[.func (.yield l) #[] #[]]++lb,W1,?_,?_,λ_ _=>trivial,?_,nO,?_⟩
 .rw[<-b0,a0];exact he fn
 .simp only[resolve,hg];simp[go_sem]
 .simp[invoke,go_sem,eg]
 have c3:l≠bs:=oM;refine CallsIn.O (c4 l (λk W=>I k W/\W.heap[l]?=some (.loop (a5 .ready none))) (λW=>∃c,Ix c W/\W.heap[l]?=some (.loop (a5 .done (some c)))) W1 ?_ ?_ ?_ ?_ ⟨?_,c5⟩) ?_
 .intro k hk;rw[<-b0];exact Below.heap_alloc _ _ _ (by rw[hl];exact b7 k hk)
 .exact λk A B ⟨h1,h2⟩ ht=>⟨hI k A B bs (.inl rfl) h1 ht,ht.at h2 c3⟩
 .exact λA B ⟨c,h1,h2⟩ ht=>⟨c,a9 c A B bs (.inl rfl) h1 ht,ht.at h2 c3⟩
 .rintro k hk W ⟨hi,hL⟩;have hy:=run_yield (P:=P) (args:=#[enc zs[k]]) hL (by rw[a0];exact c7.H);rw[a0]at hy;refine⟨fn,_,assign,body,hy,roundIn_of_wpIn trivial (a6 _ W _ ⟨_,run_beginRound hL (by rw[a0]),?_⟩)⟩;have c6:=(fg.1 hL).1;have b8:(W.putObj l (.loop {a5 .ready none with state:=.busy})).heap[l]?=some (.loop {a5 .ready none with state:=.busy}):=World.putObj_heap_same c6;refine wpIn_mono (b4 k hk _ ⟨_,b8,by rw[a0]⟩ (hI k _ _ l (.inr rfl) hi (Tu.put W l _))) ?_;have fin:∀(a4:Option Code)(W3:Qd),W3.heap[l]?=(W.putObj l (.loop {a5 .ready none with state:=.busy})).heap[l]? ->
    (Instr.endRound l a4).run P W3= .ok (.bool a4.isNone) (W3.putObj l (.loop (a5 (if a4.isNone then .ready else .done) a4)))/\
    (W3.putObj l (.loop (a5 (if a4.isNone then .ready else .done) a4))).heap[l]?=some (.loop (a5 (if a4.isNone then .ready else .done) a4)):=λa4 W3 h3=>by
   have b9:=h3.Z b8;have:=run_endRound (P:=P) a4 b9;rw[a0]at this ⊢;exact⟨this,World.putObj_heap_same (fg.1 b9).1⟩
  have b2:∀k∈ks,k≠l:=λk hk=>Nat.ne_of_lt (b7 k hk);rintro e a3 W3 hp;cases e with
  |normal=>obtain⟨h3,c8,a7⟩:=hp;obtain⟨hr,a8⟩:=fin none W3 h3;exact⟨_,_,hr,.inl ⟨rfl,⟨hI _ _ _ l (.inr rfl) a7 (Tu.put _ _ _),a8⟩,λj hj=>by rw[World.putObj_heap_other (b2 j hj),c8 j hj,World.putObj_heap_other (b2 j hj)]⟩⟩
  |ret=>obtain⟨h3,a7⟩:=hp;obtain⟨hr,a8⟩:=fin (some .ret) W3 h3;exact⟨_,_,hr,.inr ⟨rfl,.ret,a9 _ _ _ l (.inr rfl) a7 (Tu.put _ _ _),a8⟩⟩
  |exit id=>obtain⟨h3,a7⟩:=hp;obtain⟨hr,a8⟩:=fin (some (.exit id)) W3 h3;exact⟨_,_,hr,.inr ⟨rfl,.exit id,a9 _ _ _ l (.inr rfl) a7 (Tu.put _ _ _),a8⟩⟩
  |goto t=>exact hp.F
  |panic ch=>exact hp.F
  |outgrown=>exact hp.F
 .rw[<-b0];exact hI 0 _ _ l (.inr rfl) h0 (Tu.alloc _ _ _)
 .rintro e W2 ⟨⟨v,rfl⟩,(⟨hi,hL⟩|⟨c,hi,hL⟩)⟩
  .exact⟨none,_,by have:=run_endLoop (P:=P) hL (by rw[a0];simp);rw[a0]at this;exact this,b5 _ (hI _ _ _ l (.inr rfl) hi (Tu.put _ _ _))⟩
  .exact⟨some c,_,by have:=run_endLoop (P:=P) hL (by rw[a0];simp);rw[a0]at this;exact this,b6 c _ (a9 c _ _ l (.inr rfl) hi (Tu.put _ _ _))⟩
def Zd1(tmps:Δ)(ps:Array Tmp)(assign body:Code)(fn:Pr):(Instr.enterLoop fn tmps ps assign body none).run P w=
  .ok ((w.alloc (.deferred (some []))).heap.size,[{target:=.collected w.heap.size,args:=#[]}]) ((w.alloc (.deferred (some []))).alloc (.loop {state:=.ready,pending:=none,fn,tmps,params:=ps,assign,body,defers:=w.heap.size})):=by
 rw[World.size_alloc];exact run_enterLoop_outer _ _ _ _ _
end Go.Hal
/-
 DERIVED:THE SHELF's CONTRACTS AT THIS DUMP,IN PLAIN WORDS (tools/lay-plain.mjs rv of 'YtgolaibmophnjaaGreatDoorLay9.lean',which tools/lay-shelf.mjs wrote):THE SAME DECLARATIONS UNDER THE SAME NAMES:'import','namespace','open','def','theorem' AND NOTHING ELSE:no command of the shelf's:FOR A HAND-IN. Each laying:the table of numbers ('.._ren') and one theorem,a field a fact of the dump's ux or the kernel's comparison;each contract:ONE APPLICATION.
-/
namespace Go.Proofs
def Tryz.Xag:Go.Shelf.Ren:=⟨λ|143=>352|219=>379|217=>392|225=>375|224=>374|267=>393|266=>411|314=>412|n=>n,λ|9=>9|3=>3|4=>4|5=>5|46=>185|146=>439|51=>249|n=>n,λ|1=>0|n=>n⟩
def Tryz.Xb0:Go.Proofs.Lays.n143 prog Tryz.Xag:=by repeat' first|kernel_rfl|(intro w;kernel_rfl)|constructor
def Tryz.Ă:Go.Shelf.Ren:=⟨λ|146=>353|221=>380|268=>394|138=>395|143=>352|195=>413|197=>301|218=>414|219=>379|260=>342|217=>392|225=>375|224=>374|267=>393|266=>411|314=>412|n=>n,λ|9=>9|31=>57|3=>3|4=>4|0=>0|105=>357|21=>21|5=>5|46=>185|119=>408|139=>411|138=>410|146=>439|51=>249|n=>n,λ|1=>0|3=>2|4=>3|n=>n⟩
def Tryz.Xcx:Go.Proofs.Lays.n146 prog Tryz.Ă:=by repeat' first|kernel_rfl|(intro w;kernel_rfl)|constructor
def Tryz.ž:Go.Shelf.Ren:=⟨λ|172=>354|244=>381|245=>382|247=>396|279=>397|280=>398|281=>399|282=>400|287=>415|316=>416|171=>95|205=>417|321=>422|322=>423|243=>159|246=>248|283=>306|284=>307|285=>308|286=>309|129=>172|317=>346|318=>347|319=>348|320=>349|337=>377|338=>378|n=>n,λ|9=>9|3=>3|75=>171|76=>172|4=>4|5=>5|167=>427|37=>167|0=>0|85=>428|2=>2|168=>430|53=>251|175=>442|46=>185|210=>446|127=>238|145=>453|143=>451|21=>21|171=>360|173=>362|212=>392|51=>249|20=>20|213=>393|232=>424|233=>425|80=>176|n=>n,λ|15=>6|16=>7|17=>1|18=>4|19=>5|n=>n⟩
def Tryz.Xa4:Go.Proofs.LaysC.n172 prog Tryz.ž:=by repeat' first|kernel_rfl|(intro w;kernel_rfl)|constructor
end Go.Proofs
namespace Go.Hal
def Xb{uv:PU}(h1:1<=uv.size):∀(k j:Nat)(s:PU),s.size<=k->s.size<=j->Lib.splitB uv 0 k s=Lib.splitB uv 0 j s
 |k,j,s,hk,hj=>by
  rcases Lib.indexB_cases s uv with a0|⟨i,a0,a4⟩
  .rw[Lib.splitB_miss _ _ _ _ a0,Lib.splitB_miss _ _ _ _ a0]
  .match k,j with
   |0,_=>omega
   |k+1,0=>omega
   |k+1,j+1=>rw[Lib.splitB_hit _ _ _ _ i a0,Lib.splitB_hit _ _ _ _ i a0,Xb h1 k j _ (by rw[mf];omega) (by rw[mf];omega)]
termination_by k=>k
def Aw(uv s:PU):List PU:=Lib.splitB uv 0 s.size s
def Un{uv s:PU}(h:Lib.indexB s uv= -1):Aw uv s= [s]:=Lib.splitB_miss _ _ _ _ h
def Um{uv s:PU}(h1:1<=uv.size)(h:Lib.indexB s uv=i)(hr:i+uv.size<=s.size):Aw uv s=s.extract 0 i::Aw uv (s.extract (i+uv.size) s.size):=by unfold Aw;obtain⟨k,hk⟩:∃k,s.size=k+1:=⟨s.size - 1,oM⟩;rw[hk,Lib.splitB_hit _ _ _ _ i h,<-hk,lq];rw[Xb h1 k (s.extract (i+uv.size) s.size).size _ (by rw[mf];omega) nR]
attribute [local go_sem] Oper.semAt_some
def Zl8:Option HT->Nat
 |some (.string s)=>s.size
 |_=>0
def Zl7:Option Obj->Nat
 |some (.cells cs _ _)=>Zl8 cs[0]?
 |_=>0
def Boxed.same{B:Qd}{t:LN}{v:HT}(h:Boxed A b t v)(hs:B.heap[b]?=A.heap[b]?):Boxed B b t v:=hs.Z h
set_option maxRecDepth 100000 in
def Xe(n:Nat)(hn:1<=n)(uv:PU)(h1:1<=uv.size)(bp bs bz:Nat)(c5:bp≠bs)(c6:bz≠bs)(text:PU)(ht:text.size<=4096)(m:Int)(gm:bs≠0)(w0:Qd)
  (hp:Boxed w0 bp 9 (.string uv)) (hs:Boxed w0 bs 9 (.string text)) (hz:Boxed w0 bz 3 (vi 0)) (hm:w0.cell? ⟨0,0,none⟩=some (vi m)):
  Tg n prog 351 #[.pointer (some ⟨bp,0,none⟩),.pointer (some ⟨bs,0,none⟩),.pointer (some ⟨bz,0,none⟩)] Value.string (Aw uv text) bs [bp,bs,bz,0] w0:=by
 intro l J Jx W a4 hJ d3 hY h0;have kp:=Boxed.same hp (a4 bp sI);have ks:=Boxed.same hs (a4 bs sI);have kz:=Boxed.same hz (a4 bz sI);have km:W.cell? ⟨0,0,none⟩=some (vi m):=(World.cell?_of_block (a4 _ sI)).Z hm;have d5:((uv.size:Int)==0)=false:=beq_eq_false_iff_ne.2 oM;have d0:=kp.cell;clear a4 hp hs hz hm;refine callsIn_of_wp func351 rfl trivial ?_ rfl;simp only[Tryz.ntmps351,jm,gb,ip,Nat.reduceAdd,Nat.reduceSub,mc,mb,my,mg,iz,io]
 gi_wp2
 gi_loopw [] (λwr=>∃(k:Nat) (su:PU),J k wr/\Boxed wr bp 9 (.string uv)/\Boxed wr bs 9 (.string su)/\Boxed wr bz 3 (vi 0)/\wr.cell? ⟨0,0,none⟩=some (vi m)/\su.size<=4096/\(Aw uv text).drop k=Aw uv su)
  (λwr=>Zl7 (wr.heap[bs]?))
 case atStart=>exact⟨0,text,h0,kp,ks,kz,km,ht,rfl⟩
 case round=>
  obtain⟨k,su,b7,kp,ks,kz,km,d4,a0⟩:=hrel;have cp:=kp.cell;have cs:=ks.cell;have cz:=kz.cell;rcases Lib.indexB_cases su uv with a9|⟨i,a9,b6⟩
  .have b2:=Un a9;have hk:k+1=(Aw uv text).length:=(by have:=kd List.length a0;rw[b2,gq]at this;simp only[gb,ip]at this;omega);have a5:(Aw uv text)[k]=su:=by have:=li (xs:=Aw uv text) (i:=k) (j:=0) (h:=by rw[a0,b2];simp);simp only[a0,b2,List.getElem_cons_zero,lq]at this;exact this.H
   obtain⟨fn,tmps,assign,body,hy,hR⟩:=hY k oM wr b7;rw[a5]at hy;have HA:Aside (k+1=(Aw uv text).length):=hk;clear hk a0 b2 a5
   gi_wp2_with (refine⟨trivial,?_⟩;gi_at_call 352;refine(callsIn_wide.2 (Any.strings_Index Tryz.Xb0 su uv m wr oM km)).O ?_;rintro e w' ⟨rfl,rfl⟩;rw[show Lib.index su.data.toList uv.data.toList= -1 from a9])
   refine hR.O ?_;rintro e W3 (⟨rfl,b5,b0⟩|⟨rfl,a6⟩)
   .gi_wp2
    go_end0
    exact⟨⟨_,rfl⟩,.inl (HA.rv▸b5)⟩
   .gi_wp2
    go_end0
    exact⟨⟨_,rfl⟩,.inr a6⟩
  .have a7:=Um h1 a9 b6;have hk:k<(Aw uv text).length:=(by have:=kd List.length a0;rw[a7,gq]at this;simp only[gb]at this;omega);have a5:(Aw uv text)[k]=su.extract 0 i:=by have:=li (xs:=Aw uv text) (i:=k) (j:=0) (h:=by rw[a0,a7];simp);simp only[a0,a7,List.getElem_cons_zero,lq]at this;exact this.H
   have a8:(Aw uv text).drop (k+1)=Aw uv (su.extract (i+uv.size) su.size):=(by rw[<-lh,a0,a7,List.drop_one,List.tail_cons]);obtain⟨fn,tmps,assign,body,hy,hR⟩:=hY k hk wr b7;rw[a5]at hy;have HA:Aside ((Aw uv text).drop (k+1)=Aw uv (su.extract (i+uv.size) su.size)):=a8;clear hk a0 a7 a5 a8;have c0: ¬((i:Int)<0):=oM;have c1:(0:Int)<= ↑i:=oM;have c2:(↑i:Int)<= ↑su.size:=oM;have c3:(0:Int)<= ↑i+ ↑uv.size:=oM;have c4:(↑i+ ↑uv.size:Int)<= ↑su.size:=oM;have c8:(↑i+ ↑uv.size:Int)<=9223372036854775807:=oM
   gi_wp2_with (refine⟨trivial,?_⟩;gi_at_call 352;refine(callsIn_wide.2 (Any.strings_Index Tryz.Xb0 su uv m wr oM km)).O ?_;rintro e w' ⟨rfl,rfl⟩;rw[show Lib.index su.data.toList uv.data.toList=i from a9])
   refine hR.O ?_;rintro e W3 (⟨rfl,b5,b0⟩|⟨rfl,a6⟩)
   .have b9:=Boxed.same kp (b0 bp sI);have b4:=Boxed.same ks (b0 bs sI);have c7:=Boxed.same kz (b0 bz sI);have b8:W3.cell? ⟨0,0,none⟩=some (vi m):=(World.cell?_of_block (b0 _ sI)).Z km;have d1:=b9.cell;have d2:=b4.cell;have c9:=b4.frozen
    gi_wp2
    go_roundw
    case rel=>have ht:=grownBy_setCell' W3 bs (.string (su.extract (i+uv.size) su.size));exact⟨k+1,su.extract (i+uv.size) su.size,hJ _ _ _ b5 ht,b9.kept ht (by simpa using c5),b4.set _,c7.kept ht (by simpa using c6),(World.cell?_of_block (ht.block _ (World.block_lt_of_cell? _ _ b8) (by simp;omega))).Z b8,by rw[mf];omega,HA.rv⟩
    case measure=>have e1:=ks;have e2:=b4.set (.string (su.extract (i+uv.size) su.size));unfold Boxed at e1 e2;rw[e1,e2];show(su.extract (i+uv.size) su.size).size<su.size;rw[mf];omega
   .gi_wp2
    refine bodyPost_ret (results_none rfl _ _ _) rfl ?_;exact⟨⟨_,rfl⟩,.inr a6⟩
end Go.Hal
namespace Go.Hal
abbrev Rk:=Int×Int
abbrev Μ:=List Rk
def Bf(n:Int)(l:Μ):Bool:=l.any λx=>decide (x.1<=n)&&decide (n<=x.2)
def E3:Int->Μ->Prop
 |_,[]=>True
 |m,x::r=>m<=x.1/\x.1<=x.2/\E3 (x.2+2) r
def FH(l:Μ):Prop:=∀x∈l,0<=x.1/\x.1<=999999999/\0<=x.2/\x.2<=999999999
def CB(n:Int)(x:Rk)(r:Μ):Bf n (x::r)=true↔(x.1<=n/\n<=x.2)\/Bf n r=true:=by simp[Bf]
def RD{l:Μ}:∀{m n:Int},E3 m l->Bf n l=true->m<=n:=by
 induction l with
 |nil=>intro m n _ h;simp[Bf]at h
 |cons x r ih=>
  intro m n h k;rcases(CB _ _ _).1 k with k|k
  .have:=h.1;omega
  .have:=ih h.2.2 k;have:=h.1;have:=h.2.1;omega
def one(a b:Rk):Μ:=if max a.1 b.1<=min a.2 b.2 then [(max a.1 b.1,min a.2 b.2)]else []
def D7:Rk->Μ->Μ
 |y,[]=>[y]
 |y,x::r=>if x.1<=y.2+1 then D7 (y.1,max y.2 x.2) r else y::D7 x r
def Dq:Μ->Μ
 | []=>[]
 |y::r=>D7 y r
def Ez(l:Μ):Prop:=l.Pairwise λa b=>a.1<=b.1
def Zey(n:Int)(r:Μ):∀(y:Rk),Ez (y::r)->y.1<=y.2->(∀x∈r,x.1<=x.2)->(Bf n (D7 y r)=true↔Bf n (y::r)=true):=by
 induction r with
 |nil=>intro y _ _ _;rfl
 |cons x r ih=>
  intro y hs hy hr;have h1:y.1<=x.1:=(iq.1 hs).1 x (.head _);have hx:=hr x (.head _);have a0:=(iq.1 hs).2;rw[D7];by_cases h:x.1<=y.2+1
  .rw[fo h,ih (y.1,max y.2 x.2) (iq.2 ⟨λz hz=>(iq.1 hs).1 z (.tail _ hz),(iq.1 a0).2⟩) (by simp only;omega) λz hz=>hr z (.tail _ hz),CB,CB,CB];simp only;constructor
   .rintro(h2|h2)
    .by_cases h3:n<=y.2
     .exact .inl ⟨h2.1,h3⟩
     .exact .inr (.inl oM)
    .exact .inr (.inr h2)
   .rintro(h2|h2|h2)
    .exact .inl oM
    .exact .inl oM
    .exact .inr h2
  .rw[fb h,CB,ih x a0 hx λz hz=>hr z (.tail _ hz),CB,CB,CB]
def Zex(r:Μ):∀(y:Rk)(m:Int),m<=y.1->Ez (y::r)->y.1<=y.2->(∀x∈r,x.1<=x.2)->E3 m (D7 y r):=by
 induction r with
 |nil=>intro y m hm _ hy _;exact⟨hm,hy,trivial⟩
 |cons x r ih=>
  intro y m hm hs hy hr;have h1:y.1<=x.1:=(iq.1 hs).1 x (.head _);have hx:=hr x (.head _);have a0:=(iq.1 hs).2;rw[D7];by_cases h:x.1<=y.2+1
  .rw[fo h];exact ih (y.1,max y.2 x.2) m hm (iq.2 ⟨λz hz=>(iq.1 hs).1 z (.tail _ hz),(iq.1 a0).2⟩) (by simp only;omega) λz hz=>hr z (.tail _ hz)
  .rw[fb h];exact⟨hm,hy,ih x _ oM a0 hx λz hz=>hr z (.tail _ hz)⟩
def Zez(r:Μ):∀(y:Rk),(D7 y r).length<=r.length+1:=by
 induction r with
 |nil=>intro y;exact ga _
 |cons x r ih=>
  intro y;rw[D7];split
  .have:=ih (y.1,max y.2 x.2);simp only[gb];omega
  .have:=ih x;simp only[gb];omega
def BU(l:Μ):Λ:=l.map λx=>⟨De x.1,De x.2⟩
def WH{m:Int}{x:Rk}{r:Μ}(h:E3 m (x::r)){n:Int}:Bf n r=true↔Bf n (x::r)=true/\x.2<n:=by
 rw[CB];constructor
 .intro h1;have:=RD h.2.2 h1;exact⟨.inr h1,oM⟩
 .rintro⟨h1|h1,h2⟩
  .omega
  .exact h1
def WG:∀{l k:Μ} {m n:Int},E3 m l->E3 n k->(∀a,Bf a l=true↔Bf a k=true)->l=k
 | [],[],_,_,_,_,_=>rfl
 | [],y::k,_,_,_,hk,h=>by have:=(h y.1).2 ((CB _ _ _).2 (.inl ⟨od _,hk.2.1⟩));simp[Bf]at this
 |x::l,[],_,_,hl,_,h=>by have:=(h x.1).1 ((CB _ _ _).2 (.inl ⟨od _,hl.2.1⟩));simp[Bf]at this
 |x::l,y::k,m,n,hl,hk,h=>by
  have hx:Bf x.1 (y::k)=true:=(h _).1 ((CB _ _ _).2 (.inl ⟨od _,hl.2.1⟩));have hy:Bf y.1 (x::l)=true:=(h _).2 ((CB _ _ _).2 (.inl ⟨od _,hk.2.1⟩));have low:∀{z:Rk} {r:Μ} {a m:Int},E3 m (z::r)->Bf a (z::r)=true->z.1<=a:=λ{z r a m} h1 h2=>by
   rcases(CB _ _ _).1 h2 with h3|h3
   .exact h3.1
   .have:=RD h1.2.2 h3;have:=h1.2.1;omega
  have e1:x.1=y.1:=by have:=low hk hx;have:=low hl hy;omega
  have a0:∀{z:Rk} {r:Μ} {m:Int},E3 m (z::r)-> ¬Bf (z.2+1) (z::r)=true:=λ{z r m} h1 h2=>by
   rcases(CB _ _ _).1 h2 with h3|h3
   .omega
   .have:=RD h1.2.2 h3;omega
  have e2:x.2=y.2:=by
   obtain h1|h1|h1:=Int.lt_trichotomy x.2 y.2
   .exact fu ((h (x.2+1)).2 ((CB _ _ _).2 (.inl ⟨by have:=hl.2.1;omega,oM⟩))) (a0 hl)
   .exact h1
   .exact fu ((h (y.2+1)).1 ((CB _ _ _).2 (.inl ⟨by have:=hk.2.1;omega,oM⟩))) (a0 hk)
  have e3:=WG (l:=l) (k:=k) hl.2.2 hk.2.2 λa=>by rw[WH hl,WH hk,h a,e2]
  rw[e3,Prod.U e1 e2]
inductive Sign
 |none|eq|lt|le|gt|ge|tilde|caret
def Sign.text:Sign->LU
 | .none=>[]
 | .eq=>[61]
 | .lt=>[60]
 | .le=>[60,61]
 | .gt=>[62]
 | .ge=>[62,61]
 | .tilde=>[126]
 | .caret=>[94]
def Sign.ĉ(g:Sign)(v:sq):Rk:=
 let n:=v.W;let minor:=n - v.pa+999;let major:=minor+(999 - v.mi)*1000
 match g with
 | .none=>(n,n)
 | .eq=>(n,n)
 | .lt=>(0,n - 1)
 | .le=>(0,n)
 | .gt=>(n+1,999999999)
 | .ge=>(n,999999999)
 | .tilde=>(n,minor)
 | .caret=>if 0<v.ma then(n,major)else if 0<v.mi then(n,minor)else(n,n)
inductive wj:LU->Rk->Prop
 |all:wj [42] (0,999999999)
 |sign (g:Sign) {t:LU} {v:sq}:yx t v->wj (g.text++t) (g.ĉ v)
def CS(b:UInt8):Bool:=b==60||b==61||b==62||b==94||b==126
def Sign.chars(g:Sign):∀b∈g.text,CS b=true:=by cases g<;>decide
def OG{g:Sign}{v:sq}(h:yx t v):(g.text++t).takeWhile CS=g.text/\(g.text++t).dropWhile CS=t:=by
 obtain⟨b,r,rfl,hb⟩:=h.head;have hn:CS b=false:=by
  unfold JY at hb;simp only[ep,fp]at hb;unfold CS;have e:∀c:UInt8,c.toNat<48\/57<c.toNat->(b==c)=false:=λc hc=>by rw[pz];rintro rfl;omega
  rw[e 60 dC,e 61 dC,e 62 dC,e 94 dC,e 126 dC];rfl
 constructor
 .rw[qx g.chars,List.takeWhile_cons_of_neg (by rw[hn];simp),gz]
 .rw[List.dropWhile_append_of_pos g.chars,List.dropWhile_cons_of_neg (by rw[hn];simp)]
def Sign.Xbl{g k:Sign}(h:g.text=k.text):g=k:=by cases g<;>cases k<;>first|rfl|(exact fu h dC)
def wj.one{s:LU}{a b:Rk}(h:wj s a)(k:wj s b):a=b:=by
 have a0:∀{g:Sign} {t:LU} {v:sq},yx t v->g.text++t≠ [42]:=λ{g t v} hv he=>by
  have h1:=OG (g:=g) hv;rw[he]at h1;obtain⟨c,r,rfl,hc⟩:=hv.head;have:=h1.2;have h2:([42]:LU).dropWhile CS= [42]:=by decide
  rw[h2]at this;cases this;revert hc;decide
 cases h with
 |all=>
  generalize he:([42]:LU)=s at k;cases k with
  |all=>rfl
  |sign g hv=>exact fu he.H (a0 hv)
 | @sign g t v hv=>
  generalize he:g.text++t=s at k;cases k with
  |all=>exact fu he (a0 hv)
  | @sign g' t' v' hv'=>have h1:=OG (g:=g) hv;have h2:=OG (g:=g') hv';rw[he]at h1;have e1:=Sign.Xbl (h1.1.H.Z h2.1);have e2:=h1.2.H.Z h2.2;subst e1 e2;rw[hv.one hv']
def HM(acc:LU):LU->List (List UInt8)
 | []=>if acc=[]then []else [acc]
 |b::r=>if b=32 then(if acc=[]then HM [] r else acc::HM [] r)else HM (acc++[b]) r
def G8(s:LU):List (List UInt8):=HM [] s
def GM(acc:LU):LU->List (List UInt8)
 | []=>[acc]
 | [b]=>[acc++[b]]
 |b::c::r=>if b=124/\c=124 then acc::GM [] r else GM (acc++[b]) (c::r)
def JC(s:LU):List (List UInt8):=GM [] s
def Pe(s:LU):Prop:=G8 s≠[]/\∀w∈G8 s,∃a,wj w a
def Pd(s:LU)(n:Int):Prop:=0<=n/\n<=999999999/\∀w∈G8 s,∀a,wj w a->a.1<=n/\n<=a.2
def GH(s:LU):Prop:=s.length<=4096/\∀a∈JC s,Pe a
structure yi(s:LU)(l:Μ):Prop where
 ok:GH s
 V:E3 0 l
 has:∀n,Bf n l=true↔∃a∈JC s,Pd a n
def yi.one{s:LU}{l k:Μ}(h:yi s l)(h':yi s k):l=k:=WG h.V h'.V λn=>(h.has n).Z (h'.has n).H
def BN:PU:=bm #[32]
def Bu:PU:=bm #[124,124]
def Sign.Xbe{g:Sign}{v:sq}(hv:v.vt=true):(0<=(g.ĉ v).1/\(g.ĉ v).1<=1000000000)/\(-1<=(g.ĉ v).2/\(g.ĉ v).2<=999999999):=by
 have hm:=sq.vn.1 hv;have hr:v.W=(v.ma*1000+v.mi)*1000+v.pa:=by rw[sq.W,fo hv,sq.num]
 cases g<;>simp only[Sign.ĉ]<;>(try split)<;>(try split)<;>(try simp only)<;>omega
def wj.in{a:Rk}(h:wj t a):(0<=a.1/\a.1<=1000000000)/\(-1<=a.2/\a.2<=999999999):=by
 cases h with
 |all=>decide
 |sign g hv=>exact Sign.Xbe hv.1
def Ŏ(_:PU):Prop:=True
def Ŏ.piece{a b t:PU}(_:Ŏ a)(_:b∈Aw Bu a)(_:t∈Aw BN b):Ŏ t:=trivial
end Go.Hal
namespace Go.Proofs
open Go.Maps
attribute [local go_sem] Oper.semAt_some
def VH:maxLen=9223372036854775807:=rfl
def Mc(x:Int×Int):HT:=.agg #[vi x.1,vi x.2]
set_option maxRecDepth 100000 in
def Zj6(F:Fence)(n:Nat)(hF:F.fn 357)(b2:F.round=none)(hn:1<=n)(l Bs n₀ b off len cap:Nat)(zs:List (Int×Int))(b4:zs.length=len)(a7:len*16<=140737488351232)(hb:b<n₀)(J Jx:List (Int×Int)->Wp)
  (hJ:∀pre W W',J pre W->Below W.heap.size W W'->J pre W')
  (hY:∀pre x W,J pre W->pre.length<len->YieldAt F (n - 1) prog l #[Mc x] W λe W'=>(e= .returned (.bool true)/\J (pre++[x]) W'/\Below n₀ W W')\/(e= .returned (.bool false)/\Jx (pre++[x]) W'))
  (W:Qd) (b0:n₀<=W.heap.size) (b5:W.cell? ⟨Bs,0,none⟩=some (.slice (some ⟨b,off,none⟩) len cap)) (hc:∀j (h:j<zs.length),W.cell? ⟨b,off+j*2,none⟩=some (.int .i64 zs[j].1)/\W.cell? ⟨b,off+j*2+1,none⟩=some (.int .i64 zs[j].2)) (h0:J [] W):
  CallsIn F n prog 357 #[.func (.yield l) #[] #[],.pointer (some ⟨Bs,0,none⟩)] W λe W'=>(∃v,e= .returned v)/\((∃ys,ys=zs/\J ys W')\/(∃pre,pre<+:zs/\Jx pre W')):=by
 refine callsIn_of_wp func357 rfl hF ?_ b2;simp only[Tryz.ntmps357,jm,gb,ip,Nat.reduceAdd,Nat.reduceSub,mc,mb,my,mg,iz,io]
 gi_wp2
 gi_loopw [7] (λi wr=>∃k:Nat,k<=len/\i= .int .i64 k/\J (zs.take k) wr/\Below n₀ W wr)
  (λi _=>len - (intOf i).toNat)
 case atStart=>exact⟨0,im _,rfl,h0,Below.refl _ _⟩
 case round=>
  obtain⟨k,hk,rfl,a6,a4⟩:=hrel;by_cases b6:k<len
  .have a0:k<zs.length:=oM;have c1:wr.cell? ⟨b,off+k*2,none⟩=some (.int .i64 zs[k].1):=(a4.cell (p:=⟨b,off+k*2,none⟩) hb).Z (hc k a0).1;have c2:wr.cell? ⟨b,off+k*2+1,none⟩=some (.int .i64 zs[k].2):=(a4.cell (p:=⟨b,off+k*2+1,none⟩) hb).Z (hc k a0).2;obtain⟨fn,tmps,assign,body,hy,hR⟩:=hY (zs.take k) zs[k] (wr.alloc (.cells #[.int .i64 zs[k].1,.int .i64 zs[k].2] 305)) (hJ _ _ _ a6 (Below.alloc (Below.refl _ _) nR _)) (by rw[fk];omega);unfold Mc at hy;have hx:=Below.alloc a4 (fl b0 a4.size) (.cells #[.int .i64 zs[k].1,.int .i64 zs[k].2] 305)
   gi_wp2
   refine hR.O ?_;rintro e W3 (⟨rfl,a8,a9⟩|⟨rfl,a5⟩)
   .gi_wp2
    go_roundw
    case rel=>exact⟨k+1,oM,by simp,by rwa [dz a0],hx.Z a9⟩
    case measure=>simp[intOf];omega
   .gi_wp2
    refine bodyPost_ret (results_none rfl _ _ _) rfl ?_;rw[<-dz a0]at a5;exact⟨⟨_,rfl⟩,.inr ⟨_,List.take_prefix _ _,a5⟩⟩
  .obtain rfl:k=len:=oM
   gi_wp2
   go_end0
   refine⟨⟨_,rfl⟩,.inl ⟨zs,rfl,?_⟩⟩;rw[ia oM]at a6;exact a6
def RkS(n₀:Nat)(W:Qd)(sv:HT)(zs:List (Int×Int)):Prop:=
 (sv= .slice none 0 0/\zs=[])\/∃b off cap,sv= .slice (some ⟨b,off,none⟩) zs.length cap/\b<n₀/\∀j (h:j<zs.length),W.cell? ⟨b,off+j*2,none⟩=some (.int .i64 zs[j].1)/\W.cell? ⟨b,off+j*2+1,none⟩=some (.int .i64 zs[j].2)
def RkS.below{n₀:Nat}{B:Qd}(h:Below n₀ A B){sv:HT}{zs:List (Int×Int)}:RkS n₀ A sv zs->RkS n₀ B sv zs
 | .inl e=>.inl e
 | .inr ⟨b,off,cap,e,hb,hc⟩=>.inr ⟨b,off,cap,e,hb,λj hj=>⟨(h.cell (p:=⟨b,off+j*2,none⟩) hb).Z (hc j hj).1,(h.cell (p:=⟨b,off+j*2+1,none⟩) hb).Z (hc j hj).2⟩⟩
set_option maxRecDepth 100000 in
def Zj7(F:Fence)(n:Nat)(hF:F.fn 357)(a4:F.round=none)(l Bs:Nat)(J:List (Int×Int)->Wp)(W:Qd)(a5:W.cell? ⟨Bs,0,none⟩=some (.slice none 0 0))(h0:J [] W):
  CallsIn F n prog 357 #[.func (.yield l) #[] #[],.pointer (some ⟨Bs,0,none⟩)] W λe W'=>(∃v,e= .returned v)/\J [] W':=by
 refine callsIn_of_wp func357 rfl hF ?_ a4;simp only[Tryz.ntmps357,jm,gb,ip,Nat.reduceAdd,Nat.reduceSub,mc,mb,my,mg,iz,io]
 gi_wp2
 gi_loopw [7] (λi wr=>i= .int .i64 0/\J [] wr) (λ_ _=>0)
 case atStart=>exact⟨rfl,h0⟩
 case round=>
  obtain⟨rfl,a0⟩:=hrel
  gi_wp2
  go_end0
  exact⟨⟨_,rfl⟩,a0⟩
def Zj8(F:Fence)(n:Nat)(hF:F.fn 357)(a6:F.round=none)(hn:1<=n)(Bs n₀:Nat)(sv:HT)(zs:List (Int×Int))(a0:zs.length*16<=140737488351232)(w:Qd)(a5:n₀<=w.heap.size)(a7:Bs<w.heap.size)
  (a8:w.cell? ⟨Bs,0,none⟩=some sv) (hI:RkS n₀ w sv zs):
  SeqStopsK F n prog 357 #[.pointer (some ⟨Bs,0,none⟩)] (λx=>#[Mc x]) (Below n₀) (λys=>ys=zs) (λpre=>pre<+:zs) zs.length w:=λl J Jx W hW hJ _ hY h0=>by
 have a4:=(hW.cell (p:=⟨Bs,0,none⟩) a7).Z a8;rcases hI.below (hW.O a5)with⟨rfl,rfl⟩|⟨b,off,cap,rfl,hb,a9⟩
 .exact(Zj7 F n hF a6 l Bs J W a4 h0).O λe W' ⟨he,hj⟩=>⟨he,.inl ⟨_,rfl,hj⟩⟩
 .exact Zj6 F n hF a6 hn l Bs n₀ b off zs.length cap zs rfl a0 hb J Jx (λpre W W' h hb=>hJ pre W W' none h ⟨hb.os,hb.tape,hb.output,hb.size,λk hk _=>hb.block k hk⟩ (λr e=>by cases e)) hY W (fl a5 hW.size) a4 a9 h0
def Cv(l:List (Int×Int)):LV:=(l.map λx=>[Value.int .i64 x.1,vi x.2]).flatten
def WF(l:List (Int×Int))(x:Int×Int):Cv (l++[x])=Cv l++[Value.int .i64 x.1,vi x.2]:=by simp[Cv]
set_option maxRecDepth 100000 in
def Zj2(F:Fence)(n:Nat)(hF:F.fn 383)(b2:F.fn 357)(a9:F.round=none)(hn:3<=n)(Bs:Nat)(sv:HT)(zs:List (Int×Int))(hz:zs.length<=1000000)(w:Qd)(b6:Bs<w.heap.size)
  (b7:w.cell? ⟨Bs,0,none⟩=some sv) (hI:RkS w.heap.size w sv zs):
  CallsIn F n prog 383 #[.slice none 0 0,.func (.func 357) #[] #[.pointer (some ⟨Bs,0,none⟩)]] w λe W'=>∃v,e= .returned v/\W'.ownsRow w.heap.size 305 2 v zs.length (Cv zs)/\Below w.heap.size w W':=by
 have h1:1<=n:=oM;obtain⟨i0,hi,c6,c7,c8⟩:=info_parts (show(prog.info? 305).map (λi=>(i.zero,i.size,i.bytes))=some (some (.agg #[vi 0,vi 0]),2,16) by kernel_rfl);refine callsIn_of_wp_marks func383 rfl hF ?_ a9;simp only[Tryz.ntmps383,jm,gb,ip,Nat.reduceAdd,Nat.reduceSub,mc,mb,my,mg,iz,io]
 gi_wp2
 have bO:=Boxed.new w 302 (.slice none 0 0);have a7:Below w.heap.size w (w.alloc (.cells #[.slice none 0 0] 302)):=(Below.refl _ w).alloc nR _;refine wpIn_rangeFunc_ownH a9 h1 (gf:=357) (lb:=#[.pointer (some ⟨Bs,0,none⟩)]) rfl b2 (enters_of func357 kR rfl)
  (Zj8 F (n - 1) b2 a9 oM Bs w.heap.size sv zs oM _ sI (by simp;omega) ((a7.cell (p:=⟨Bs,0,none⟩) b6).Z b7) (hI.below a7)) belowK_t (belowK_b sI) (Below.refl _ _) (λ_=>rfl)
  (λpre W=>(∃v,Boxed W w.heap.size 302 v/\W.ownsRow w.heap.size 305 2 v pre.length (Cv pre)/\True)/\Below w.heap.size w W)
  (λ_ _ _=>False)
  (OwnFrom.and (Own.from (holdsRow_own w.heap.size w.heap.size 302 305 2 (λpre=>pre.length) (λpre=>Cv pre) (λ_ _=>True)) _) (ownFrom_below nR sI))
  (λ_ _ _ _ _ hs _ _=>hs)
  ⟨⟨_,bO,World.ownsRow_nil _ _ _ _,trivial⟩,a7⟩
  (λx a' W=>∃Bx,W.heap[Bx]?=some (.cells #[vi x.1,vi x.2] 305 (0,0))/\a'={tmps:=#[.slice none 0 0,.func (.func 357) #[] #[.pointer (some ⟨Bs,0,none⟩)],.pointer (some ⟨w.heap.size,0,none⟩),undef,.slice none 0 0,.pointer (some ⟨Bx,0,none⟩),.func (.func 357) #[] #[.pointer (some ⟨Bs,0,none⟩)],Mc x,undef,undef,undef,undef,undef],defers:=[]})
  (λx a' _ X Y row hs hg hr=>by obtain⟨Bx,h2,h3⟩:=hs;refine⟨Bx,(hg.block Bx (fg.1 h2).1 (λe=>?_)).Z h2,h3⟩;obtain⟨o,ho,b8⟩:=(hr Bx e.H).2;rw[h2]at ho;cases ho;cases b8)
  ?assign ?body ?done ?stop
 case assign=>
  rintro l pre x W K ⟨⟨v,a6,a0,_⟩,a4⟩ hK;unfold Mc at hK ⊢
  gi_wp2
  exact hK _ _ ((KeepsOthers.alloc _ _).from _) ((Below.refl _ W).alloc a4.size _) ⟨⟨v,a6.alloc _,a0.alloc _,trivial⟩,a4.alloc a4.size _⟩ ⟨W.heap.size,World.alloc_heap_new W _,rfl⟩
 case body=>
  rintro l pre x a' W hl ⟨r,hr⟩ ⟨⟨v,a6,a0,_⟩,a4⟩ ⟨Bx,b0,rfl⟩ d4;have b9:=a6.cell;have d0:W.cell? ⟨Bx,0,none⟩=some (vi x.1):=by simp[World.cell?,b0]
  have d1:W.cell? ⟨Bx,1,none⟩=some (vi x.2):=by simp[World.cell?,b0]
  gi_wp2_with (gi_at_builtin;refine wpListIn_append_own _ rfl _ _ 302 rfl w.heap.size 305 i0 (.agg #[vi 0,vi 0]) 2 16 underlying302 hi c6 c7 c8 rfl dC _ _ _ rfl (a0.alloc _) ⟨W.heap.size,0,none⟩ 1 1 [vi x.1,vi x.2] rfl rfl (λj u hj=>by rw[show(⟨W.heap.size,0,none⟩:LP).add j=⟨W.heap.size,j,none⟩ by unfold Addr.add;split<;>simp_all];rwa [World.cell?_alloc_mark,ku]) (by simp[Value.oneCell']) (by rw[VH];omega) oM (by have:=a4.size;simp;omega) ?_;intro v' w1 a5 a8 _;obtain⟨g',c9,rfl⟩:=ownsRow_succ a5;obtain⟨b5,c5,c4,c3,b4⟩:=a6.appended dC a0 a4.size nR a5 a8;have d2:=b5.cell;have d3:=b5.frozen)
  exact⟨c3.from _,b4,⟨_,c5,by rw[WF];simpa using c4,trivial⟩,a4.Z b4⟩
 case done=>
  rintro D ys W hD rfl ⟨⟨v,hv,a0,_⟩,hB⟩ hK;have b9:=hv.cell
  gi_wp2
  refine⟨by simp,.inl ⟨_,_,rfl,run_takeDeferred hK,?_⟩⟩;exact⟨_,results_tmp rfl _ _ _,v,rfl,ownsRow_putObj a0 _ hK rfl,hB.Z (belowK_b (w:=w) nR W D _ _ (by simp at hD;omega) hK rfl rfl)⟩
 case stop=>rintro D c pre W _ _ h _;exact h.F
end Go.Proofs
namespace Go.Hal
end Go.Hal
/-
 DERIVED:THE SHELF's CONTRACTS AT THIS DUMP,IN PLAIN WORDS (tools/lay-plain.mjs rv of 'YtgolaibmophnjaaGreatDoorLay3.lean',which tools/lay-shelf.mjs wrote):THE SAME DECLARATIONS UNDER THE SAME NAMES:'import','namespace','open','def','theorem' AND NOTHING ELSE:no command of the shelf's:FOR A HAND-IN. Each laying:the table of numbers ('.._ren') and one theorem,a field a fact of the dump's ux or the kernel's comparison;each contract:ONE APPLICATION.
-/
namespace Go.Proofs
def Tryz.Xak:Go.Shelf.Ren:=⟨λ|6=>356|15=>106|14=>384|28=>171|29=>172|20=>401|21=>402|22=>403|23=>404|24=>405|25=>406|26=>407|27=>408|46=>418|47=>258|48=>259|49=>419|50=>420|57=>424|n=>n,λ|22=>302|24=>305|25=>376|3=>3|39=>185|0=>0|53=>249|55=>251|4=>4|46=>242|45=>241|50=>246|5=>5|9=>9|66=>317|70=>321|76=>366|77=>367|n=>n,λ|n=>n⟩
def Tryz.Xb2:Go.Proofs.SlLaysF0.n6 prog Tryz.Xak:=by repeat' first|kernel_rfl|exact Fz kR kR|(intro w;kernel_rfl)|constructor
end Go.Proofs
namespace Go.Hal
def ű(x:Rk):LV:=[vi x.1,vi x.2]
def Zj3(l:Μ):Cv l=(l.map ű).flatten:=rfl
def ŝ(l:Μ):(Cv l).length=l.length*2:=by rw[Zj3,CO ű (k:=2) λ_=>rfl]
def Zj5(l:Μ):∀{i:Nat} (hi:i<l.length) (v:Int),(Cv l).set (i*2+1) (vi v)=Cv (l.set i (l[i].1,v)):=by
 induction l with
 |nil=>intro i hi;simp at hi
 |cons x r ih=>
  intro i hi v;cases i with
  |zero=>rfl
  |succ i=>have e:(i+1)*2+1=(i*2+1)+1+1:=oM;have a0:i<r.length:=(by simpa using hi);have h:=ih a0 v;show([Value.int .i64 x.1,vi x.2]++Cv r).set _ _= [Value.int .i64 x.1,vi x.2]++Cv (r.set i (r[i].1,v));rw[e,<-h];rfl
section
variable {T:LN} {w:Qd} {lo:Nat} {S:Nat->Prop} {s:Sl} {l:Μ}
def rl.Xb6(h:rl ą T w lo S s l):w.ownsRow lo T 2 s.v s.len (Cv l):=by
 obtain⟨css,ho,hl,hr⟩:=h.row;have e:css=l.map ű:=by apply pq (by simp[hl]);intro i h1 h2;obtain⟨cs,k1,k2⟩:=hr i (l[i]'(by simpa using h2)) (dw (by simpa using h2));rw[dw h1,ff]at k1;rw[k1,nx];exact k2.1
 rw[e]at ho;exact ho
def rl.Xcl{v:HT}(h:w.ownsRow lo T 2 v l.length (Cv l)):∃s:Sl,v=s.v/\rl ą T w lo rz s l:=by
 have h1:∃s:Sl,v=s.v/\s.len=l.length:=by
  rcases h.2 with⟨hv,hn⟩|⟨g,cap,a0,hv,_⟩
  .exact⟨Sl.nil,hv,hn.H⟩
  .exact⟨⟨some ⟨g,0,none⟩,l.length,cap⟩,hv,rfl⟩
 obtain⟨s,rfl,hs⟩:=h1;refine⟨s,rfl,⟨l.map ű,by rwa [hs],by simp,λi x hx=>⟨ű x,by rw[gc,hx];rfl,rfl,trivial⟩⟩,hs,λ_ h=>h.F,λ_ _ h=>h.F⟩
def rl.Xc9{v:Int}{K:Wp}(h:rl ą T w lo rz s l)(hi:i<l.length)(ha:s.a=some ad)(hK:∀w',ur ad.block w w'->rl ą T w' lo rz s (l.set i (l[i].1,v))->K w'):rp w ((ad.add (i*2)).add 1) [vi v] K:=by
 have ho:=h.Xb6;have hl:=h.len;rcases ho.2 with⟨hv,_⟩|⟨g,cap,a0,hv,hg,hh,hc,a8,a9,ht⟩
 .simp[Sl.v]at hv;rw[hv.1]at ha;cases ha
 .have a7:ad=⟨g,0,none⟩:=by simp[Sl.v]at hv;rw[hv.1]at ha;exact(jz ha).H
  subst a7;have a4:i*2+1+1<=a0.size:=oM;rw[Dl,GL];refine⟨a0,T,hh,rfl,by simpa using a4,hK _ ⟨by simp[World.setRow],rfl,rfl,rfl,λc hc b0=>setRow_other w g c _ b0⟩ ?_⟩;have a6:(D0 a0 (i*2+1) [vi v]).toList=a0.toList.set (i*2+1) (vi v):=by unfold D0;rw[List.set_eq_take_append_cons_drop,fo (by rw[kx (xs:=a0)];omega)];simp
  have a5:(w.setRow g (D0 a0 (i*2+1) [vi v])).ownsRow lo T 2 s.v (l.set i (l[i].1,v)).length (Cv (l.set i (l[i].1,v))):=by
   refine⟨ŝ _,.inr ⟨g,cap,_,by rw[hv,jp,hl],hg,setRow_heap w g a0 _ T _ hh,by rwa [jp,<-hl],a8,?_,?_⟩⟩
   .rwa [<-kx,a6,jp,kx (xs:=a0)]
   .rw[a6,List.take_set,jp,<-hl,ht,Zj5 l hi]
  obtain⟨s',e,ux⟩:=rl.Xcl a5;have:s'=s:=by obtain⟨a,n,c⟩:=s;obtain⟨a',n',c'⟩:=s';simpa[Sl.v,eq_comm]using e
  subst this;exact ux
end
def Xbi{l:Μ}(hs:IT ą w S s l)(hl:l.length<=64)(hR:∀t w',AI w w'->IT ui w' (λb=>w.heap.size<=b/\b<w'.heap.size) t (BU l)->R t w'):MB s w R:=by
 unfold MB;have d6:=hs.len;have eb:ui.bytes=48:=rfl;refine uc.up hs.max (λrv i w'=>AI w w'/\rl ui 223 w' w.heap.size rz rv (BU (l.take i))) ⟨AI.refl _,rl.zero _⟩ λrv i w1 d7 hi ⟨x1,ux⟩ hn=>⟨λc5=>?_,λd5=>?_⟩
 .have a4:i<l.length:=oM;obtain⟨ad,c6,_,hc⟩:=O8 hs a4;refine⟨ad,⟨c6,oM,c5⟩,_,_,hc _ x1,An.intro λa w2 x2 b5 d2 _=>tj.intro b5 sI λw3 b3 _ b0=>?_⟩;have c8:AI w1 w3:=b3.U x2 oM;refine⟨_,b0.at0 xR rfl,G6.V (á λw4 x4=>⟨_,_,_,_,rfl,An.intro λa5 w5 x5 b7 d3 _=>tj.intro b7 sI λw6 b6 _ b8=>?_⟩)⟩;have c9:AI w4 w6:=b6.U x5 oM;have b2:=x4.Z c9;refine⟨_,AT.at1 b0 (k:=1) b2 rfl,G6.V (á λw7 x7=>⟨_,_,_,_,rfl,An.intro λa8 w8 x8 c3 d4 _=>tj.intro c3 sI λw9 b9 _ c4=>?_⟩)⟩;have d0:AI w7 w9:=b9.U x8 oM;have b4:=x7.Z d0;refine⟨_,_,_,b8.at0 (r:=[]) b4 rfl,_,_,_,c4.at0 (r:=[]) xR rfl,An.intro λd1 d8 c7 a9 _ _=>?_⟩;have a6:=c8.Z (b2.Z (b4.Z c7));have a0:(BU (l.take i)).length=i:=by unfold BU;rw[eh,fk];omega
  refine(ux.U a6).push T1 (x1.Z a6).size (x:=⟨De l[i].1,De l[i].2⟩) (S':=rz) (cs:=(De l[i].1).c++(De l[i].2).c) ⟨rfl,trivial⟩ (a9.se.pre (r:=[]) rfl) (λ_ h=>h.F) (λ_ _ h=>h.F) (by rw[a0,eb];unfold Ab;omega) (by rw[a0,Al];omega) λr d9 a7 vd _ _=>hn a4 _ _ ⟨(x1.Z a6).A vd,?_⟩;have e:BU (l.take (i+1))=BU (l.take i)++[⟨De l[i].1,De l[i].2⟩]:=by unfold BU;rw[dz a4,gd];rfl
  rw[e];exact a7.O (λ_ h=>h.F id id) (λ_ h=>h.F) (λ_ _ h=>h.F)
 .have:i=l.length:=oM;rw[this,fe]at ux;have a0:(BU l).length=l.length:=by unfold BU;rw[eh]
  refine hR _ _ x1 ((ux.I (by rw[a0,eb];unfold Ab;omega) (by rw[a0,Al];omega)).O λb hb=>?_);rcases hb with hb|⟨ad,ha,rfl⟩
  .exact hb.F
  .have:=ux.block ha;exact⟨this.1,this.2.1⟩
def Zdv(a b:Int):Q7 a b=max a b:=by unfold Q7;split<;>omega
def Zj4{l:Μ}(h:j<l.length):(Cv l)[j*2]?=some (.int .i64 l[j].1)/\(Cv l)[j*2+1]?=some (.int .i64 l[j].2):=by
 have a0:∀cs∈l.map ű,cs.length=2:=λcs hc=>by obtain⟨x,_,rfl⟩:=gv.1 hc;rfl
 have hi:(l.map ű)[j]?=some (ű l[j]):=by rw[gc,dw h];rfl
 exact⟨NS a0 hi (j:=0) rfl,NS a0 hi (j:=1) rfl⟩
def rl.lower{α:Type}{E:xh α}{T:LN}{lo':Nat}{l:List α}(h:rl E T w lo S s l)(hl:lo'<=lo):rl E T w lo' S s l:=by obtain⟨css,ho,k1,k2⟩:=h.row;refine⟨⟨css,⟨ho.1,ho.2.imp id λ⟨g,cap,a0,hv,hg,r⟩=>⟨g,cap,a0,hv,fl hl hg,r⟩⟩,k1,k2⟩,h.len,h.lt,h.apart⟩
def œ{l:Μ}{T:LN}(h:rl ą T w lo S s l)(ha:AT w a [s.v])(hl:l.length<=1000000)
  (hR:∀t w',AI w w'->rl ą 305 w' w.heap.size rz t l->R t w'):Ml (.func (.func 357) #[] #[.pointer (some a)]) w R:=by
 unfold Ml;have hI:RkS w.heap.size w s.v l:=by
  have ho:=h.Xb6;rcases ho.2 with⟨hv,hn⟩|⟨g,cap,a8,hv,hg,hh,hc,a9,b0,ht⟩
  .exact .inl ⟨hv,fq (by rwa [<-h.len])⟩
  .refine .inr ⟨g,0,cap,by rw[hv,h.len],lt_of_block hh,λj hj=>?_⟩;have a4:=ho.cells (g:=g) (by rw[hv];rfl);obtain⟨k1,k2⟩:=Zj4 hj;have c1:=a4 _ _ k1;have c2:=a4 _ _ k2;rw[GL]at c1 c2;rw[lu];exact⟨c1,c2⟩
 have a5:w.cell? ⟨a.block,0,none⟩=some s.v:=by obtain⟨t,_,_,hb⟩:=ha;simp[World.cell?,hb]
 have a7:a=⟨a.block,0,none⟩:=by obtain⟨t,h1,h2,_⟩:=ha;obtain⟨b,o,sp⟩:=a;simp only at h1 h2;subst h1 h2;rfl
 have a0:=callsIn_wide.1 (Zj2 Fence.wide 3 trivial trivial rfl nR a.block s.v l hl w ha.lt a5 hI);rw[<-a7]at a0;refine Calls.O a0 λe w' ⟨v,he,a6,hb⟩=>⟨v,he,?_⟩;obtain⟨t,rfl,ux⟩:=rl.Xcl a6;exact⟨t,rfl,hR t w' hb ux⟩
abbrev JB:Type:={x:Rk//0<=x.1/\x.1<=999999999}
instance:Inhabited JB:=⟨⟨(0,0),by decide⟩⟩
def Zca:Bi prog 319:=enters_of func319 kR rfl
def Zer:∀w,(isAgg 305).run prog w= .ok true w:=λw=>by kernel_rfl
def Zk2:∀w,(Go.sizeOf 305).run prog w= .ok 2 w:=λw=>by kernel_rfl
def Ze7{a b:JB}{R:À}(hR:∀w',Gr w w'->R (a.1.1 - b.1.1) w'):M9 a.1.1 a.1.2 b.1.1 b.1.2 w R:=by unfold M9;have ha:=a.2;have hb:=b.2;refine An.gr λ_ w1 x1 a0=>An.gr λ_ w2 x2 a4=>⟨_,Gr.at0 a0 x2 rfl,_,Gr.at0 a4 (Gr.refl _) rfl,?_⟩;rw[Ai oM oM];exact hR _ (x1.Z x2)
def Vt:∀{l:Μ},FH l->∃la:List JB,la.map Subtype.val=l
 | [],_=>⟨[],rfl⟩
 |x::r,h=>by obtain⟨la,e⟩:=Vt (l:=r) λy hy=>h y (.tail _ hy);have hx:=h x (.head _);exact⟨⟨x,hx.1,hx.2.1⟩::la,by rw[gu,e]⟩
def O9(x:JB):LV:=ű x.1
def WE{la:List JB}:la.map O9=(la.map Subtype.val).map ű:=by rw[jj];rfl
def Zle{l:Μ}(h:rl ą 305 w lo rz s l)(a7:lo<=w.heap.size)(a6:FH l)(hl:l.length<=1000000)
  (hK:∀l' w',l'.Perm l->Ez l'->Below lo w w'->IT ą w' (λb=>lo<=b/\b<w'.heap.size) s l'->K (.tuple #[]) w'):
  si prog 356 [s.v,.func (.func 319) #[] #[]] w K:=by
 have eb:ą.bytes=16:=rfl;have hF:tk ű 16 w lo s l:=tk.of (E:=ą) (λx cs h=>h.1) h (by unfold Ab;omega);obtain⟨h1,h2,h3,h4,h5⟩:=hF;obtain⟨a,n,c⟩:=s;simp only at h1 h2 h3 h5;subst h1;rcases h5 with rfl|⟨g,tail,ha,hg,hr⟩
 .refine(AnyF.slices_SortFunc_none Tryz.Xb2 a c _ w).O λe w' ⟨he,hw⟩=>⟨_,he,?_⟩;subst hw;exact hK [] _ (jx _) .nil (Below.refl _ _) ⟨rfl,h2,h3,by simp,.inl rfl⟩
 .subst ha;obtain⟨la,rfl⟩:=Vt a6;have a8:tm O9 w g la tail:=by unfold tm at hr ⊢;rwa [WE]
  rw[eh]at*;refine FJ Tryz.Xb2 (k:=2) Zer Zk2 (f:=O9) (λ_=>rfl) (λx v hv=>by simp[O9,ű]at hv;rcases hv with rfl|rfl<;>rfl) (λa b=>a.1.1 - b.1.1) (Fh (λx y=>by omega) (λx y z=>by omega)) 319 #[] Zca (λw0 x y hb _=>?_) a8 oM rfl λl' w' hp hs b a4=>?_
  .have h:=M9.V (k:=λv w'=>v= .int .i64 (x.1.1 - y.1.1)/\Gr w0 w') (Ze7 (a:=x) (b:=y) (w:=w0) λw' h=>⟨rfl,h⟩);exact Calls.O h λe w' ⟨v,he,hv,hg⟩=>⟨by rw[he,hv],hg⟩
  .have a9:tm ű w' g (l'.map Subtype.val) tail:=(by unfold tm at a4 ⊢;rwa [<-WE]);have a0:=hp.length_eq;have a5:tk ű ą.bytes w' lo ⟨some ⟨g,0,none⟩,la.length,c⟩ (l'.map Subtype.val):=⟨by simp[a0],by simp[a0];exact h2,h3,by rwa [eh,a0],.inr ⟨g,tail,rfl,hg,a9⟩⟩;refine hK (l'.map Subtype.val) w' (hp.map _) ?_ (b.below a7 hg) (a5.I (λ_=>rfl) λw S x _=>⟨rfl,trivial⟩);unfold Ez;rw[iv];exact hs.imp λ{x y} h=>by omega
def Zlk{l:Μ}{T:LN}(h:rl ą T w lo S s l)(ha:AT w a [s.v])(a0:FH l)(hl:l.length<=1000000)
  (hR:∀t w' m,AI w w'->m.Perm l->Ez m->IT ą w' (λb=>w.heap.size<=b/\b<w'.heap.size) t m->R t w'):M5 (.func (.func 357) #[] #[.pointer (some a)]) (.func (.func 319) #[] #[]) w R:=by
 refine Ml.V (œ h ha hl λt w1 x1 ux=>⟨_,rfl,Zle ux x1.size a0 hl λm w2 hp hs vd hr=>⟨rfl,hR t w2 m (x1.A vd) hp hs hr⟩⟩)
def HP(m:Μ)(n:Nat)(done:Μ):Prop:=(n=0/\done=[])\/∃d y,done=d++[y]/\Dq m=d++D7 y (m.drop n)
def Ze0{m:Μ}(hn:n<m.length)(h0:n=0):HP m (n+1) [m[n]]:=by
 subst h0;refine .inr ⟨[],m[0],rfl,?_⟩;cases m with
 |nil=>simp at hn
 |cons y r=>rfl
def Ze1{m:Μ}{d:Μ}{y:Rk}(hn:n<m.length)(h:Dq m=d++D7 y (m.drop n)):
  (m[n].1<=y.2+1->HP m (n+1) (d++[(y.1,max y.2 m[n].2)]))/\(¬m[n].1<=y.2+1->HP m (n+1) (d++[y]++[m[n]])):=by
 rw[gp hn,D7]at h;refine⟨λhl=>.inr ⟨d,_,rfl,?_⟩,λhl=>.inr ⟨d++[y],m[n],rfl,?_⟩⟩
 .rw[fo hl]at h;exact h
 .rw[fb hl]at h;rw[h,fh];rfl
def Ž{l:Μ}{T:LN}(h:rl ą T w lo S s l)(d1:FH l)(hl:l.length<=1000000)
  (hR:∀t w' m,AI w w'->m.Perm l->Ez m->rl ą 305 w' w.heap.size rz t (Dq m)->R t w'):M8 s w R:=by
 unfold M8;have eb:ą.bytes=16:=rfl;refine ON.V ?_;refine An.intro λa w1 x1 ha _ _=>⟨_,rfl,M5.V (Zlk (h.U x1) ha d1 hl λt w2 m x2 hp hs hm=>⟨_,rfl,?_⟩)⟩;have d6:=x1.Z x2;have f9:=hm.len;have g0:m.length<=1000000:=by rwa [hp.length_eq]
 have e9:FH m:=λx hx=>d1 x (hp.mem_iff.1 hx);refine uc.up hm.max (λrv i w'=>AI w2 w'/\∃done,rl ą 305 w' w2.heap.size rz rv done/\HP m i done/\done.length<=i/\FH done) ⟨AI.refl _,[],rl.zero _,.inl ⟨rfl,rfl⟩,ga _,λx hx=>by cases hx⟩ λrv i w3 g2 hi ⟨x3,done,ux,hJ,f7,c7⟩ hn=>⟨λe7=>?_,λf8=>?_⟩
 .have a5:i<m.length:=oM;obtain⟨ad,e8,_,hc⟩:=O8 hm a5;have f1:=e9 _ (fm a5);refine join.named λJ e1=>⟨ad,⟨e8,oM,e7⟩,m[i].1,m[i].2,hc _ x3,An.intro λa4 w4 x4 e3 f6 _=>tj.intro e3 sI λw5 b5 _ c5=>sh.drew λw6 x6=>?_⟩;have f4:AI w3 w5:=b5.U x4 oM;have d7:=f4.Z x6;have c9:=x3.Z d7;have b7:=ux.U d7;have c8:=ux.len;have step:∀b6 w7 a0,AI w2 w7->rl ą 305 w7 w2.heap.size rz b6 a0->HP m (i+1) a0->a0.length<=i+1->FH a0->J b6 w7:=by subst e1;intro b6 w7 a0 x7 d3 e2 e6 e5;exact hn a5 _ _ ⟨x7,a0,d3,e2,e6,e5⟩
  have push:HP m (i+1) (done++[m[i]])->∃(a9:Int) (a8:Int),(se w6 a4 [vi a9,vi a8])/\An w6 [vi a9,vi a8] 305 λd8 d4=>ue prog 302 302 rv (Sl.v (Sl.mk (some d8) 1 1)) d4 λf2 d5=>J f2 d5:=λd9=>by
   refine⟨m[i].1,m[i].2,c5.at0 (r:=[]) x6 rfl,An.intro λa7 w7 x7 e4 _ _=>?_⟩;refine(b7.U x7).push Tz (c9.Z x7).size (x:=m[i]) (S':=rz) (cs:=[.int .i64 m[i].1,.int .i64 m[i].2]) ⟨rfl,trivial⟩ (e4.se.pre (r:=[]) rfl) (λ_ h=>h.F) (λ_ _ h=>h.F) (by rw[eb];unfold Ab;omega) (by rw[Al];omega) λr w8 b9 vd _ _=>step _ _ _ ((c9.Z x7).A vd) (b9.O (λ_ h=>h.F id id) (λ_ h=>h.F) (λ_ _ h=>h.F)) d9 (by simp;omega) λx hx=>?_;obtain hx|hx:=fj.1 hx
   .exact c7 x hx
   .rw[eu]at hx;subst hx;exact f1
  rcases hJ with⟨h0,rfl⟩|⟨d,y,rfl,hd⟩
  .have e0:Aa ((rv.len:Int) - 1)= -1:=(by rw[c8];decide);rw[e0];have c4:decide ((0:Int)<= -1)=false:=(by decide);rw[c4];refine py ⟨m[i].1,nO,⟨0,0,none⟩,nO,0,nO,λh=>by simp at h,λ_=>push ?_⟩;exact Ze0 a5 h0
  .have a6:(d++[y]).length=d.length+1:=(by simp);have e0:Aa ((rv.len:Int) - 1)=(d.length:Int):=(by rw[c8,a6,Ai oM oM];omega);rw[e0];have c4:decide ((0:Int)<=(d.length:Int))=true:=(by rw[fp];omega);rw[c4];have f0:=b7.I (by rw[a6,eb];unfold Ab;omega) (by rw[a6,Al];omega);have d0:d.length<(d++[y]).length:=oM;obtain⟨c3,b2,_,c6⟩:=O8 f0 d0;have hy:(d++[y])[d.length]=y:=(by simp);have g1:=c7 y sI;rw[hy]at c6;have c2:=c6 _ xR;have d2:Aa (y.2+1)=y.2+1:=Ai oM oM;have b4:(d.length:Int)<(rv.len:Int):=(by rw[c8,a6];omega);obtain⟨j1,j2⟩:=Ze1 a5 hd;refine py ⟨m[i].1,λ_=>c5.at0 x6 rfl,c3,λ_=>⟨b2,oM,b4⟩,y.2,λ_=>c2.G (k:=1) rfl,λb0=>?_,λb0=>push ?_⟩
   .rw[d2,iu,fp]at b0;refine sh.drew λw7 x7=>⟨c3,⟨b2,oM,b4⟩,y.2,(c6 _ x7).G (k:=1) rfl,m[i].2,AT.at1 c5 (k:=1) (x6.Z x7) rfl,c3,⟨b2,oM,b4⟩,?_⟩;rw[Zdv];have f3:=c9.Z x7;refine(b7.U x7).Xc9 (i:=d.length) d0 b2 λw8 b8 b9=>step _ _ _ ?_ b9 ?_ ?_ ?_
    .have:=(ux.block b2).1;exact b8.U f3 this
    .have e:(d++[y]).set d.length ((d++[y])[d.length].1,max y.2 m[i].2)=d++[(y.1,max y.2 m[i].2)]:=(by rw[hy,qp _ _ nR];simp);rw[e];exact j1 b0
    .rw[jp];omega
    .intro x hx;obtain hx|rfl:=List.mem_or_eq_of_mem_set hx
     .exact c7 x hx
     .rw[hy];simp only;omega
   .refine j2 λh=>?_;rw[d2,iu,ig]at b0;exact b0 h
 .have:i=m.length:=oM;subst this;have hd:done=Dq m:=by
   rcases hJ with⟨h0,rfl⟩|⟨d,y,rfl,hd⟩
   .rw[fq h0];rfl
   .rw[hd,mq];rfl
  subst hd;refine hR _ _ m (d6.Z x3) hp hs (rl.lower ux d6.size)
end Go.Hal
