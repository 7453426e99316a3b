/- Lemmas for the claim K19u: how the program's functions run, and what they answer; no condition but those that each theorem names. -/
import Derived.Laws.IdiomCopy
import Derived.ArgAppend
import Derived.Shelf.SlSortCmp.NoneTotal
import Derived.Ground.SlsfProg
import Derived.Test.YtgolaibmophnjaaGreatDoorProg
import Derived.RangeFuncNested
import Derived.Shelf.Strings.Split
import Derived.Shelf.Strconv.AtoiAll
import Derived.Ground.NamesProg
import Derived.RangeFuncCalls
import Derived.RangeFuncLeaves
import Derived.Shelf.Abstract
import Derived.WalkKit
import Derived.OwnWalkIn
import Derived.TacticsInMore
import Derived.LoopNIn
import Derived.LoopIn
import Derived.RangeFuncBox
import Derived.RangeFuncGives
import Derived.Maps.AppendAt
import Derived.Test.YtgolaibmophnjaaGreatDoorK19uB3
set_option linter.unusedVariables false
set_option linter.unusedSimpArgs false
set_option linter.defProp false
set_option maxHeartbeats 16000000
open Go.Hal.SE hiding Cs Dr Lb vB
open Go Go.RowKit Go.Proofs Go.Shelf Go.Hal Go.Proofs.Tryz
variable {a ad:LP} {pr:Bool} {R:É} {M:Α} {g:List Hal.rz} {cs:LV} {m:vz} {b i j lo n:Nat} {Q S S':Nat->Prop} {P:LD} {d o s u:Sl} {t:LN} {K:Ë} {A w:PU}
namespace Go.Hal
structure Qu(w:PU)(lo:Nat)(s:Sl)(l:Α):Prop where
 len:s.len=l.length
 cap:l.length<=s.cap
 row:∃(g off:Nat) (cur:Γ),s.a=some ⟨g,off,none⟩/\lo<=g/\w.heap[g]?=some (.cells cur 3 (0,0))/\off+s.cap<=cur.size/\∀(i:Nat)(x:Int),l[i]?=some x->cur[off+i]?=some (vi x)
section
variable {w w':PU} {lo:Nat} {s:Sl} {l:Α}
def Qu.lt(h:Qu w lo s l)(ha:s.a=some ad):lo<=ad.block/\ad.block<w.heap.size:=by obtain⟨g,off,a0,h1,h2,h3,_⟩:=h.row;rw[h1,eu]at ha;subst ha;exact⟨h2,lt_of_block h3⟩
def Qu.sj(h:Qu w lo s l)(hk:∀ad,s.a=some ad->w'.heap[ad.block]?=w.heap[ad.block]?):Qu w' lo s l:=by obtain⟨g,off,a0,h1,h2,h3,h4⟩:=h.row;exact⟨h.len,h.cap,g,off,a0,h1,h2,(hk _ h1).Z h3,h4⟩
def Qu.U(h:Qu w lo s l)(hx:AI w w'):Qu w' lo s l:=h.sj λad ha=>hx.block (h.lt ha).2
def Qu.tz(h:Qu w lo s l)(hb:uv b w w')(hn:∀ad,s.a=some ad->ad.block≠b):Qu w' lo s l:=h.sj λad ha=>hb.2.2.2.2 _ (h.lt ha).2 (hn ad ha)
def Qu.el(h:Qu w lo s l)(hi:i<l.length):∃ad,s.a=some ad/\∀w',AI w w'->sh w' (ad.add (i*1)) [.int .i64 l[i]]:=by
 obtain⟨g,off,a0,h1,h2,h3,h4,h5⟩:=h.row;refine⟨_,h1,λw' hx=>sh.U (λj v hj=>?_) hx⟩;cases j with
 |zero=>simp only[jk,eu]at hj;subst hj;rw[Dg,Addr.add_lit,cell_of_row w g _ a0 3 (0,0) h3];rw[rf,ky];exact h5 i _ (dt hi)
 |succ j=>simp at hj
def Qu.tail{x:Int}{r:Α}(h:Qu w lo s (x::r)):Qu w lo (Sl.cut s 1 s.len 1) r:=by
 obtain⟨g,off,a0,h1,h2,h3,h4,h5⟩:=h.row;have hl:=h.len;have hc:=h.cap;rw[fu]at hl hc;have a4:r.length<=(Sl.cut s 1 s.len 1).cap:=by show r.length<=s.cap - 1;omega
 refine⟨by show s.len - 1=_;omega,a4,?_⟩;by_cases h0:s.cap=1
 .have hr:r=[]:=fo oM;subst hr;refine⟨g,off,a0,?_,h2,h3,by show off+(s.cap - 1)<=_;omega,λi x hx=>by simp at hx⟩;unfold Sl.cut;dsimp only;rwa [fl h0]
 .refine⟨g,off+1,a0,?_,h2,h3,by show off+1+(s.cap - 1)<=_;omega,λi y hy=>?_⟩
  .unfold Sl.cut;dsimp only;rw[fa h0,h1];simp[Addr.add_lit]
  .have:=h5 (i+1) y hy;rwa [show off+1+i=off+(i+1) by omega]
def Zj5{o:Nat}{cur:Γ}{T:LN}{v:HT}(h:w.heap[b]?=some (.cells cur T (0,0))):(w.setCells b o [v]).heap[b]?=some (.cells (cur.setIfInBounds o v) T (0,0))/\uv b w (w.setCells b o [v])/\(w.setCells b o [v]).heap.size=w.heap.size:=by
 have e:w.setCells b o [v]=w.setCell ⟨b,o,none⟩ v:=rfl;rw[e];refine⟨?_,⟨by simp,rfl,rfl,rfl,λc hc a0=>?_⟩,by simp⟩
 .have a4:=lt_of_block h;unfold World.setCell;rw[nf];simp[h]
 .unfold World.setCell;rw[nf,fa (λe=>a0 e.H)]
def Qu.push{x:Int}{k:Sl->Wp}(h:Qu w lo s l)(a8:lo<=w.heap.size)(hc:sh w a [vi x])(hl:l.length<=1000000)
  (hk:∀(r:Sl)(w':PU),Qu w' lo r (l++[x])->Below lo w w'->(∀b,b<w.heap.size->(∀ad,s.a=some ad->b≠ad.block)->w'.heap[b]?=w.heap[b]?)->(∀ad,r.a=some ad->((∃a9,s.a=some a9/\ad.block=a9.block)\/w.heap.size<=ad.block))->k r w'):uc prog 66 66 s (Sl.v ⟨some a,1,1⟩) w k:=by
 intro ty;obtain⟨ht,i,z,hi,hz,a4,b6,c3,c4⟩:=GP;obtain⟨g,off,a6,h1,h2,h3,h4,h5⟩:=h.row;have b5:=h.len;have b0:=h.cap;obtain⟨sa,sn,sc⟩:=s;simp only at h1 b5 b0 h4;subst h1 b5;by_cases a0:l.length+1<=sc
 .have hr:=run_append_room_cells (P:=prog) w 66 ty 3 i ht hi g off l.length sc a 1 1 [vi x] (by rw[a4];rfl) (λj u hj=>hc j u hj) (by simp[Value.oneCell']) a0 (λj hj=>by have b8:j=0:=(by simpa using hj);subst b8;rw[cell_of_row w g _ a6 3 (0,0) h3,a4,nc oM];rfl) (λj hj=>frozen_of_row w g _ a6 3 h3);rw[a4,rf]at hr;obtain⟨q1,q2,q3⟩:=Zj5 (o:=off+l.length) (v:=.int .i64 x) h3;refine⟨_,_,hr,⟨some ⟨g,off,none⟩,l.length+1,sc⟩,rfl,hk _ _ ⟨by simp,by simpa using a0,g,off,_,rfl,h2,q1,by simpa using h4,λj y hj=>?_⟩ (q2.below a8 h2) (λb hb b9=>q2.2.2.2.2 b hb (b9 _ rfl)) λad a7=>.inl ⟨_,rfl,by cases a7;rfl⟩⟩;rw[Array.getElem?_setIfInBounds];by_cases a5:j=l.length
  .subst a5;rw[ii nR,qn,jk,eu]at hj;rw[fl rfl,fl oM,hj]
  .rw[fa oM];rw[gl (by have:=(fh.1 hj).1;simp at this;omega)]at hj;exact h5 j y hj
 .have b4:∀(j:Nat)(u:HT),(l.map (Value.int .i64))[j]?=some u->w.cell? ((⟨g,off,none⟩:LP).add j)=some u:=λj u hj=>by
   rw[gu]at hj;cases hlj:l[j]? with
   |none=>rw[hlj]at hj;cases hj
   |some y=>rw[hlj]at hj;cases hj;rw[Addr.add_lit,cell_of_row w g _ a6 3 (0,0) h3];exact h5 j y hlj
  have hr:=run_append_grow (P:=prog) w 66 ty 3 i z ht hi hz ⟨g,off,none⟩ l.length sc (l.map (Value.int .i64)) (by rw[a4,ec,rf]) b4 a 1 1 [vi x] (by rw[a4];rfl) (λj u hj=>hc j u hj) oM oM (TN oM (by rw[b6];unfold Ab;omega));have b7:=grownCap_ge w (l.length+1) sc 3;generalize grownCap w (l.length+1) sc 3=G at*;generalize hW:w.drew.alloc (.cells ((l.map (Value.int .i64)).toArray++[Value.int .i64 x].toArray++Builtin.zeroCells z.cells (G - (l.length+1))) 3)=w2 at*;have x1:AI w w2:=by rw[<-hW];exact(AI.drew w).Z (AI.alloc _ _)
  have b2:w2.heap[w.heap.size]?=some (.cells ((l.map (Value.int .i64)).toArray++[Value.int .i64 x].toArray++Builtin.zeroCells z.cells (G - (l.length+1))) 3 (0,0)):=by rw[<-hW];exact heap_alloc_new w.drew _
  refine⟨_,w2,hr,⟨some ⟨w.heap.size,0,none⟩,l.length+1,G⟩,rfl,hk _ _ ⟨by simp,by simpa using b7,w.heap.size,0,_,rfl,a8,b2,?_,λj y hj=>?_⟩ (Below.O x1 a8) (λb hb _=>x1.block hb) λad a7=>.inr (by cases a7;exact fx _)⟩
  .rw[Array.size_append,Array.size_append,size_zeroCells,c3];simp only[je,ec,fu,ie,rf];omega
  .rw[kj];have a5:=(fh.1 hj).1;rw[du,gq]at a5;rw[jz (by simpa using a5)];have e:((l.map (Value.int .i64)).toArray++[Value.int .i64 x].toArray)=((l++[x]).map (Value.int .i64)).toArray:=by simp
   rw[e,kh,gu,hj];rfl
def An.qu{x:Int}{k:Ì}(a0:cs= [vi x])(h:∀a w',AI w w'->Qu w' w.heap.size ⟨some a,1,1⟩ [x]->a.block=w.heap.size->k a w'):An w cs 3 k:=λa w' ha hw=>by
 subst ha hw a0;refine h _ _ (AI.alloc _ _) ⟨rfl,fx _,w.heap.size,0,_,rfl,fx _,heap_alloc_new w _,by simp,λi y hy=>?_⟩ rfl;cases i with
 |zero=>simp at hy;subst hy;rfl
 |succ i=>simp at hy
end
structure Ó(w:PU)(lo:Nat)(m sy:Sl)(M Q:Α):Prop where
 uy:OF yu 3 w lo se m M
 qu:Qu w lo sy Q
 apart:∀ad ad',m.a=some ad->sy.a=some ad'->ad.block≠ad'.block
section
variable {w w':PU} {lo:Nat} {m sy:Sl} {M Q:Α}
def Ó.U(h:Ó w lo m sy M Q)(hx:AI w w'):Ó w' lo m sy M Q:=⟨h.uy.U hx,h.qu.U hx,h.apart⟩
def IP(h:OF yu 3 w lo se m M)(hi:i<M.length):∃ad,m.a=some ad/\∀w',AI w w'->sh w' (ad.add (i*1)) [.int .i64 M[i]]:=by obtain⟨ad,cs,h1,⟨rfl,_⟩,h3⟩:=h.el (dt hi);exact⟨ad,h1,h3⟩
def Ó.set(h:Ó w lo m sy M Q)(a6:lo<=w.heap.size){x:Int}(hi:i<M.length)(ha:m.a=some ad){K:Wp}
  (hK:∀w',uv ad.block w w'->w'.heap.size=w.heap.size->lo<=ad.block->Ó w' lo m sy (M.set i x) Q->K w'):ry w (ad.add (i*1)) [vi x] K:=by
 have hs:=h.uy.Ź (i:=i) (x:=x) (o:=0) (new:=[vi x]) hi ha (λcs a4=>by obtain⟨rfl,_⟩:=a4;exact⟨rfl,trivial⟩) (by show 0+1<=1;omega) (K:=K) λw' hb hz o=>hK w' hb hz (h.uy.block ha).1 ⟨o,h.qu.tz hb λa5 a0 e=>h.apart _ _ ha a0 e.H,h.apart⟩;rw[add_zero]at hs;exact hs
def Ó.push{x:Int}{k:Sl->Wp}(h:Ó w lo m sy M Q)(b0:lo<=w.heap.size)(hc:sh w a [vi x])(hl:Q.length<=1000000)
  (hk:∀r w',Below lo w w'->Ó w' lo m r M (Q++[x])->k r w'):uc prog 66 66 sy (Sl.v ⟨some a,1,1⟩) w k:=
 h.qu.push b0 hc hl λr w' hq hb a6 hr=>hk r w' hb ⟨h.uy.sj hb.size λb a9 a0=>a6 b a9 λad a8=>by
   rcases a0 with a0|⟨a4,a5,rfl⟩
   .exact a0.F
   .exact h.apart _ _ a5 a8,hq,λad a4 ha a7=>by
   rcases hr a4 a7 with⟨b2,h1,h2⟩|h1
   .rw[h2];exact h.apart _ _ ha h1
   .have:=(h.uy.block ha).2.1;omega⟩
def Ó.tail{x:Int}{r:Α}(h:Ó w lo m sy M (x::r)):Ó w lo m (Sl.cut sy 1 sy.len 1) M r:=by
 refine⟨h.uy,h.qu.tail,λad a4 ha a0=>?_⟩;obtain⟨g,off,_,h1,_⟩:=h.qu.row;have:a4.block=g:=by
  unfold Sl.cut at a0;dsimp only at a0;split at a0
  .rw[h1]at a0;cases a0;rfl
  .rw[h1]at a0;simp[Addr.add_lit]at a0;rw[<-a0]
 rw[this];exact h.apart _ _ ha h1
end
def V3{T:Ε}{x:Pr}(h:Ej T i x=some j):j<T.length:=by
 unfold Ej at h;cases hn:Ae x with
 |false=>rw[hn]at h;cases h
 |true=>rw[hn,fl rfl]at h;have:=O9 h;rwa [ec]at this
def VH{T:Ε}{s:Ò}{es:LQ}(hj:j<es.length):DO T g i s (es.drop j)=(D4 T g i s es[j]).bind λt=>DO T g i t (es.drop (j+1)):=by rw[gj hj];rfl
def VF{T:Ε}{to:Nat}{s:Ò}{e:Edge}{d:uf}{x:rz}(h1:Ej T i e.Y=some to)(h2:T[to]?=some d)(h3:g[e.to.toNat]?=some x):
  D4 T g i s e=if d.td.Y=x.Y/\d.td.v=x.v then(if s.m[to]?=some (-1)then some ⟨s.m.set to e.to,s.sy++[to]⟩else if s.m[to]?=some e.to then some s else none)else none:=by
 unfold D4;rw[h1];dsimp only;rw[h2,h3]
def VG{T:Ε}{s:Ò}{e:Edge}(h1:Ej T i e.Y=none):D4 T g i s e=none:=by unfold D4;rw[h1]
def Ri{T:Ε}{f:Nat}{k:Int}{s:Ò}(h1:s.sy[n]?=some i)(h2:s.m[i]?=some k):Ek T g (f+1) n s=(DO T g i s (A2 g k.toNat)).bind λt=>Ek T g f (n+1) t:=by rw[Ek,h1];dsimp only;rw[h2]
def Rh{T:Ε}{f:Nat}{s:Ò}(h1:s.sy[n]?=none):Ek T g (f+1) n s=some s.m:=by rw[Ek,h1]
open Classical in
noncomputable def D3 (T:Ε) (g:Ζ):Int:=if vj T then(if C6 g then(match ā T g with|some _=>0|none=>42)else 33)else 42
def VE{T:Ε}(h: ¬vj T):D3 T g=42:=by unfold D3;rw[fa h]
def VD{T:Ε}(h:vj T)(h2: ¬C6 g):D3 T g=33:=by unfold D3;rw[fl h,fa h2]
def VC{T:Ε}(h:vj T)(h2:C6 g)(h3:ā T g=none):D3 T g=42:=by unfold D3;rw[fl h,fl h2,h3]
def Zfy{T:Ε}{m:Α}(h:vj T)(h2:C6 g)(h3:ā T g=some m):D3 T g=0:=by unfold D3;rw[fl h,fl h2,h3]
def V8(n:Nat):(madeCells (vi 0).cells (n*1))=(((List.replicate n (0:Int)).map λx=>[Value.int .i64 x]).flatten).toArray:=by
 have e:((List.replicate n (0:Int)).map λx=>[Value.int .i64 x]).flatten=List.replicate n (vi 0):=by
  induction n with
  |zero=>rfl
  |succ n ih=>rw[qc,io,jm,ih,qc];rfl
 rw[e];unfold madeCells;apply Array.U
 .simp
 .intro i h1 h2;have:(vi 0).cells= #[Value.int .i64 0]:=rfl;simp[this,Nat.mod_one]
def Zd4:(prog.info? 3).map (λi=>(i.zero,i.size,i.bytes))=some (some (vi 0),1,8):=kR
def Zfq{R:Sl->Wp}(hn:n<=1000000)(hR:∀t w',AI w w'->OF yu 3 w' w.heap.size se t (List.replicate n 0)->(∃ad,t.a=some ad)->R t w'):
  xe prog (Instr.makeSlice 66 (vi (n:Int)) (vi (n:Int))) w λv w'=>∃t:Sl,v=t.v/\R t w':=by
 obtain⟨i,h2,hi⟩:=kx.1 Zd4;simp only[Prod.mk.injEq]at hi;obtain⟨h3,h5,h6⟩:=hi;refine⟨_,_,run_make w 66 3 i (vi 0) underlying66 h2 h3 .i64 .i64 n n oM (ny _) (by rw[h6];omega) oM,⟨some ⟨w.heap.size,0,none⟩,n,n⟩,by simp[Sl.v],hR _ _ (AI.alloc _ _) ?_ ⟨_,rfl⟩⟩;have ef:((List.replicate n (0:Int)).map λx=>[Value.int .i64 x]).flatten.length=n*1:=by rw[CN (k:=1) _ (λ_=>rfl),qy]
 refine⟨⟨(List.replicate n (0:Int)).map λx=>[Value.int .i64 x],⟨ef,.inr ⟨w.heap.size,n,_,rfl,fx _,heap_alloc_new w _,fx _,by rw[Ao];omega,?_,?_⟩⟩,by simp,λi x hx=>?_⟩,by simp,λ_ h=>h.F,λ_ _ h=>h.F⟩
 .rw[dx,h5,V8];rwa [je]
 .rw[dx,h5,V8];show List.take (n*1) _=_;rw[rk];exact ia (by rw[ef];exact fx _)
 .rw[gu,hx];exact⟨_,rfl,rfl,trivial⟩
def Zm3(hs:No uh w S s g)(hR:∀(b:Bool) w',AI w w'->(b=true↔C6 g)->R b w'):Np s w R:=by
 unfold Np;have c8:=hs.len;have a8:∀w',AI w w'-> ¬C6 g->R false w':=λw' hx h=>hR false w' hx ⟨nO,λhf=>fm hf h⟩;refine An.intro λa w1 x1 a6 _ _=>⟨s,a6.sh.pre (r:=[]) rfl,?_⟩;refine Of.up hs.max (λi w'=>AI w1 w'/\∀x∈g.take i,∀e∈x.sq,1<=e.to/\e.to<(g.length:Int)) ⟨AI.refl _,λx hx=>by cases hx⟩ λi w2 c9 hi ⟨x2,hI⟩ hn=>⟨λb8=>?_,λc7=>?_⟩
 .have a0:i<g.length:=oM;obtain⟨ad,c,e,ha,_,_,he,b7⟩:=BR hs a0;have c6:=he.len;refine⟨ad,⟨ha,oM,b8⟩,_,_,_,_,_,_,b7 _ (x1.Z x2),An.set rfl λa3 w3 x3 b6 _=>⟨e,b6.at1 (k:=5) (r:=[]) xR rfl,?_⟩⟩;have c3:=x1.Z (x2.Z x3);refine Of.up he.max (λj w'=>AI w3 w'/\∀y∈g[i].sq.take j,1<=y.to/\y.to<(g.length:Int)) ⟨AI.refl _,λ_ h=>by cases h⟩ λj w4 c5 hj ⟨x4,hJ⟩ b9=>⟨λb0=>?_,λc4=>?_⟩
  .have a4:j<g[i].sq.length:=oM;obtain⟨b4,b5,_,a9⟩:=Cz he a4;have b2:=c3.Z x4;refine⟨b4,⟨b5,oM,b0⟩,_,_,a9 _ b2,An.set rfl λa5 w5 x5 a7 _=>⟨_,a7.at1 (k:=1) (r:=[]) xR rfl,IN ⟨_,λ_=>a7.at1 (k:=1) (r:=[]) xR rfl,s,λ_=>a6.at0 (r:=[]) (x2.Z (x3.Z (x4.Z x5))) rfl,λh=>?_,λh=>?_⟩⟩⟩
   .refine a8 w5 (b2.Z x5) λhF=>?_;obtain⟨h1,h2⟩:=hF.2 _ (fe a0) _ (fe a4);rw[fq oM,fq oM]at h;cases h
   .simp only[gd,gk]at h;refine b9 a4 w5 ⟨x4.Z x5,λp hp=>?_⟩;rw[dw a4]at hp;obtain hp|hp:=fp.1 hp
    .exact hJ p hp
    .rw[ep.1 hp];omega
  .have a4:j=g[i].sq.length:=oM;rw[a4,eh]at hJ;refine hn a0 w4 ⟨x2.Z (x3.Z x4),λp hp=>?_⟩;rw[dw a0]at hp;obtain hp|hp:=fp.1 hp
   .exact hI p hp
   .rwa [ep.1 hp]
 .have a0:i=g.length:=oM;rw[a0,eh]at hI;refine⟨s,a6.at0 (r:=[]) x2 rfl,hR _ w2 (x1.Z x2) ?_⟩;rw[iv];exact⟨λh=>⟨oM,hI⟩,λh=>by have:=h.1;omega⟩
def V0{T:Ε}{x:Pr}(h:Ej T i x=some j):F7 T i x=(j:Int):=by unfold F7;rw[h]
def Vz{T:Ε}{x:Pr}(h:Ej T i x=none):F7 T i x= -1:=by unfold F7;rw[h]
def OF.Xbi{m:Sl}(h:OF yu 3 w lo se m M){x:Int}(hi:i<M.length)(ha:m.a=some ad){K:Wp}
  (hK:∀w',uv ad.block w w'->w'.heap.size=w.heap.size->lo<=ad.block->OF yu 3 w' lo se m (M.set i x)->K w'):ry w (ad.add (i*1)) [vi x] K:=by
 have hs:=h.Ź (i:=i) (x:=x) (o:=0) (new:=[vi x]) hi ha (λcs a0=>by obtain⟨rfl,_⟩:=a0;exact⟨rfl,trivial⟩) (by show 0+1<=1;omega) (K:=K) λw' hb hz o=>hK w' hb hz (h.block ha).1 o;rw[add_zero]at hs;exact hs
def VS{a b:Pr}{u v:tj}:(!Ag a b|| !((u.ma==v.ma)&&((u.mi==v.mi)&&((u.pa==v.pa)&&true))))= !decide (a=b/\u=v):=by
 rw[FN];have:Ag a b=decide (a=b):=by rw[gp,AG,iv]
 rw[this];by_cases h1:a=b<;>by_cases h2:u=v<;>simp[h1,h2]
def Ï.at{T:Ε}{s:Ò}(h:Ï T g s)(hn:n<s.sy.length):∃(hm:s.sy[n]<s.m.length),s.sy[n]<T.length/\0<=s.m[s.sy[n]]/\s.m[s.sy[n]]<(g.length:Int):=by obtain⟨k,h1,h2⟩:=(h.told _).1 (fe hn);obtain⟨hl,e⟩:=fh.1 h1;have h3:=h.low _ _ h1;refine⟨hl,by rwa [<-h.len],?_,?_⟩<;>rw[e]<;>omega
def Zm5{T:Ε}{R:Sl->È}(ht:Þ w)(hS:Old S w)(hs:No ve w S s T)(hg:No uh w Q u g)(hb:∀d∈T,d.BY.length<=4000000000000)
  (h0:∀t M w',AI w w'->vj T->C6 g->ā T g=some M->OF yu 3 w' w.heap.size se t M->R t 0 w')
  (h1:∀w',AI w w'-> ¬D3 T g=0->R Sl.nil (D3 T g) w'):Nn s u w R:=by
 unfold Nn;have p9:=hs.len;have p0:=hg.len;refine An.intro λa w1 x1 f0 _ _=>An.intro λa1 w2 x2 i2 _ _=>⟨s,f0.at0 (r:=[]) x2 rfl,?_⟩;have e0:=x1.Z x2;refine JF.V (XM (ht.U e0) (hs.U e0) hb λw3 x3=>⟨_,rfl,λhc=>?_,λhc=>?_⟩)
 .have hT: ¬vj T:=λhT=>hc (Kj.2 hT);have h:=h1 w3 (e0.Z x3);rw[VE hT]at h;exact h dC
 have hT:vj T:=Kj.1 (iy hc);refine⟨u,i2.at0 (r:=[]) x3 rfl,?_⟩;have g5:=e0.Z x3;refine Np.V (Zm3 (hg.U g5) λb w4 x4 i3=>⟨b,rfl,λhc=>?_,λhc=>?_⟩)
 .have hG: ¬C6 g:=λhG=>by rw[i3.2 hG]at hc;cases hc
  have h:=h1 w4 (g5.Z x4);rw[VD hT hG]at h;exact h dC
 have hG:C6 g:=i3.1 (by simpa using hc);have c5:=g5.Z x4;have k8:=hT.len;refine⟨s,f0.at0 (r:=[]) (x2.Z (x3.Z x4)) rfl,?_⟩;have d2:∀w',AI w w'->ā T g=none->R Sl.nil 42 w':=λw' hx hm=>by have h:=h1 w' hx;rw[VC hT hG hm]at h;exact h dC
 have d0:∀w',AI w4 w'->sh w' a [s.v]:=λw' hx=>f0.at0 (r:=[]) (x2.Z (x3.Z (x4.Z hx))) rfl;have d1:∀w',AI w4 w'->sh w' a1 [u.v]:=λw' hx=>i2.at0 (r:=[]) (x3.Z (x4.Z hx)) rfl;rw[show(s.len:Int)=((T.length:Nat):Int) by omega];refine Zfq oM λm w5 x5 o5 ⟨g8,b8⟩=>?_;have m1:=o5.len;rw[qy]at m1;refine Of.up (N:=T.length) (by rw[Ao];omega) (λi w'=>AI w4 w'/\OF yu 3 w' w4.heap.size se m (List.replicate i (-1)++List.replicate (T.length - i) 0)) ⟨x5,by simpa using o5⟩ λi w6 q0 hi ⟨x6,o6⟩ hn=>⟨λf9=>?_,λl8=>?_⟩
 .have f5:i<T.length:=oM;refine⟨g8,⟨b8,oM,f9⟩,?_⟩;rw[dx];refine o6.Xbi (i:=i) (x:=-1) (by simp;omega) b8 λw7 b7 m5 f6 o7=>hn f5 w7 ⟨b7.U x6 f6,?_⟩;have e:(List.replicate i (-1:Int)++List.replicate (T.length - i) 0).set i (-1)=List.replicate (i+1) (-1)++List.replicate (T.length - (i+1)) 0:=by have e1:T.length - i=(T.length - (i+1))+1:=oM;rw[e1,qc,List.set_append,fa sI,qy,qn,List.set_cons_zero,List.replicate_succ',ff];rfl
  rw[e]at o7;exact o7
 have f5:i=T.length:=oM;subst f5;rw[qn,List.replicate_zero,gv]at o6;refine⟨g8,⟨b8,ny _,oM⟩,?_⟩;refine o6.Xbi (i:=0) (x:=0) (by simp;omega) b8 λw7 b7 m5 f6 o7=>?_;have x7:AI w4 w7:=b7.U x6 f6;refine An.qu rfl λg7 w8 x8 q8 n4=>?_;have k9:Ó w8 w4.heap.size m ⟨some g7,1,1⟩ ((List.replicate T.length (-1)).set 0 0) (AL [0]):=by
  have m7:Qu w8 w4.heap.size ⟨some g7,1,1⟩ [0]:=by obtain⟨g',off,k6,k1,k2,k3⟩:=q8.row;exact⟨q8.len,q8.cap,g',off,k6,k1,by have:=x7.size;omega,k3⟩
  refine⟨o7.U x8,m7,λad o8 ha l0=>?_⟩;cases l0;have:=(o7.block ha).2.1;omega
 have l7:T.length<=257:=k8.2;refine Of.zj (λf sy w'=>∃(n:Nat) (t:Ò),f+n=T.length+1/\n<=t.sy.length/\Ï T g t/\ā T g=Ek T g f n t/\AI w4 w'/\Ó w' w4.heap.size m sy t.m (AL (t.sy.drop n))) (T.length+1) ⟨0,⟨(List.replicate T.length (-1)).set 0 0,[0]⟩,rfl,ib _,Ï.start oM hG.1,rfl,x7.Z x8,k9⟩ λf sy w9 n9 ⟨n,t,hf,p7,hI,b5,x9,hW⟩ m2=>?_;have m3:=hW.qu.len;rw[BS,gh]at m3;have p6:=hI.Ĝ;refine⟨λf9=>?_,λl8=>?_⟩
 .have d5:n<t.sy.length:=oM;obtain⟨f,rfl⟩:∃f',f=f'+1:=⟨f - 1,oM⟩;obtain⟨hm,m0,p4,p5⟩:=hI.at d5;have g4:=Ri (f:=f) (T:=T) (g:=g) (dt d5) (dt hm);rw[g4]at b5;have f1:AL (t.sy.drop n)=((t.sy[n]:Nat):Int)::AL (t.sy.drop (n+1)):=by rw[gj d5];rfl
  rw[f1]at hW;generalize t.sy[n]=a4 at*;obtain⟨k4,h8,j2⟩:=hW.qu.el (i:=0) sI;refine⟨k4,⟨h8,ny _,f9⟩,((a4:Nat):Int),j2 _ xR,⟨by decide,oM⟩,sf.drew λq1 d7=>⟨u,d1 _ (x9.Z d7),?_⟩⟩;obtain⟨g9,e9,j1⟩:=IP hW.uy (i:=a4) hm;have j4:=hW.uy.len;rw[hI.len]at j4;obtain⟨kn,i6⟩:∃kn:Nat,t.m[a4]=(kn:Int):=⟨t.m[a4].toNat,oM⟩;have d3:kn<g.length:=oM;obtain⟨k0,cg,eg,l5,_,_,f2,j0⟩:=BR hg d3;have l6:A2 g (t.m[a4]).toNat=g[kn].sq:=by rw[i6,dx];unfold A2;rw[dt d3]
  rw[l6]at b5;have j9:=c5.Z (x9.Z d7);have i7:=j1 _ d7;rw[i6]at i7;refine⟨g9,⟨e9,oM,by show((a4:Nat):Int)<(m.len:Int);omega⟩,(kn:Int),i7,k0,⟨l5,oM,oM⟩,eg,by rw[dx];exact(j0 _ j9).I (k:=5) (r:=[]) rfl,?_⟩;have o9:=f2.len;have m4:∀e∈g[kn].sq,1<=e.to/\e.to<(g.length:Int):=hG.2 _ (fe d3);have j7:∀j (hj:j<g[kn].sq.length),∃ad,eg.a=some ad/\Ad g[kn].sq[j].Y/\∀w',AI w w'->sh w' (ad.add (j*2)) [.string g[kn].sq[j].Y,.int .i64 g[kn].sq[j].to]:=λj hj=>Cz f2 hj;generalize g[kn].sq=es at*;refine th.up f2.max (λa9 j w'=>∃t':Ò,DO T g a4 t es=DO T g a4 t' (es.drop j)/\Ï T g t'/\n+1<=t'.sy.length/\AI w4 w'/\Ó w' w4.heap.size m a9 t'.m (AL (t'.sy.drop (n+1)))) ⟨t,by rw[ju],hI,d5,x9.Z d7,(hW.U d7).tail⟩ λa9 j m8 m6 hj ⟨t',hE,c8,j5,d8,c9⟩ j6=>⟨λg0=>join.named λJ hJ=>?_,λl9=>?_⟩
  .have c3:j<es.length:=oM;obtain⟨b2,h5,g3,f7⟩:=j7 j c3;rw[VH c3]at hE;have j8:=m4 _ (fe c3);have b6:D4 T g a4 t' es[j]=none->ā T g=none:=λh=>(by rw[h]at hE;rw[b5,hE];rfl);have d4:∀t2,D4 T g a4 t' es[j]=some t2->∀r w',AI w4 w'->Ó w' w4.heap.size m r t2.m (AL (t2.sy.drop (n+1)))->J r w':=λt2 h2 r w' hx hw=>by rw[hJ];obtain⟨k7,l,hl⟩:=c8.yz j8 h2;refine j6 c3 r w' ⟨t2,?_,k7,by rw[hl,du];omega,hx,hw⟩;rw[h2]at hE;exact hE
   have n5:=c8.Ĝ;generalize es[j]=e at*;refine⟨b2,⟨h5,oM,g0⟩,_,_,f7 _ (c5.Z d8),An.set rfl λo0 q2 c6 e3 _=>⟨s,d0 _ (d8.Z c6),_,e3.at0 xR rfl,?_⟩⟩;have e6:=c5.Z (d8.Z c6);refine G9.V (OB (hS.U e6.size) (hs.U e6) m0 g3 hb λq3 n1=>⟨_,rfl,sf.drew λb0 n2=>IN ?_⟩);have a6:=n1.Z n2;have a0:=d8.Z (c6.Z a6);have a5:=c5.Z a0;cases hlk:Ej T a4 e.Y with
   |none=>rw[Vz hlk];have i5:=d2 b0 a5 (b6 (VG hlk));exact⟨s,nO,b2,nO,⟨#[]⟩,nO,u,nO,0,nO,b2,nO,⟨#[]⟩,nO,IN ⟨s,nO,b2,nO,0,0,0,nO,u,nO,0,nO,b2,nO,0,0,0,nO,λ_=>i5,nO⟩⟩
   |some to=>
    rw[V0 hlk];have d6:=V3 hlk;obtain⟨b9,ps,dd,ee,oo,h7,_,n7,p8,_,_,_,i4⟩:=vg hs d6;obtain⟨en,f3⟩:∃en:Nat,e.to=(en:Int):=⟨e.to.toNat,oM⟩;have e4:en<g.length:=oM;obtain⟨d9,cE,eE,h6,_,_,_,e5⟩:=BR hg e4;have a8:=VF (s:=t') hlk (dt d6) (g:=g) (x:=g[en]) (by rw[f3,dx];exact dt e4);have j3:=c9.uy.len;rw[c8.len]at j3;have c4:to<t'.m.length:=by rwa [c8.len]
    obtain⟨c7,b4,f8⟩:=IP c9.uy c4;have a7:=e3.U a6;have l1:sh b0 ((b9.add (((to:Nat):Int).toNat*9)).add 1) [.string T[to].td.Y]:=by rw[dx];exact(i4 _ a5).I (k:=1) rfl
    have l2:sh b0 (((b9.add (((to:Nat):Int).toNat*9)).add 1).add 1) [.int .i64 T[to].td.v.ma,.int .i64 T[to].td.v.mi,.int .i64 T[to].td.v.pa]:=(by rw[dx,Dg _ 1 1];exact(i4 _ a5).I (k:=2) rfl);have l3:sh b0 (d9.add (e.to.toNat*6)) [.string g[en].Y]:=(by rw[f3,dx];exact(e5 _ a5).pre rfl);have l4:sh b0 ((d9.add (e.to.toNat*6)).add 1) [.int .i64 g[en].v.ma,.int .i64 g[en].v.mi,.int .i64 g[en].v.pa]:=(by rw[f3,dx];exact(e5 _ a5).I (k:=1) rfl);have lm:sh b0 (c7.add (((to:Nat):Int).toNat*1)) [.int .i64 t'.m[to]]:=(by rw[dx];exact f8 _ (c6.Z a6));have r1:b9=b9/\(0:Int)<=(to:Int)/\((to:Nat):Int)<(s.len:Int):=⟨rfl,oM,oM⟩;refine⟨s,λ_=>d0 _ a0,b9,λ_=>⟨h7,oM,oM⟩,_,λ_=>l1,u,λ_=>d1 _ a0,e.to,λ_=>a7.sh.I (k:=1) (r:=[]) rfl,d9,λ_=>⟨h6,oM,oM⟩,_,λ_=>l3,IN ⟨s,λ_=>d0 _ a0,b9,λ_=>⟨h7,oM,oM⟩,_,_,_,λ_=>l2,u,λ_=>d1 _ a0,e.to,λ_=>a7.sh.I (k:=1) (r:=[]) rfl,d9,λ_=>⟨h6,oM,oM⟩,_,_,_,λ_=>l4,?_⟩⟩;have e1:decide (((to:Nat):Int)<0)=false:=fq oM;rw[e1,qe,VS];refine⟨λhq=>d2 b0 a5 (b6 ?_),λhq=>?_⟩
    .rw[a8,fa (λhc=>by rw[fy hc]at hq;cases hq)]
    rw[fl (by simpa using hq)]at a8;refine⟨c7,⟨b4,oM,oM⟩,_,lm,λg1=>?_,λg1=>?_⟩
    .rw[fl (by rw[dt c4,g1])]at a8;refine⟨e.to,a7.sh.I (k:=1) (r:=[]) rfl,c7,⟨b4,oM,oM⟩,?_⟩;rw[dx];refine(c9.U (c6.Z a6)).set a0.size c4 b4 λm9 k5 n8 i9 h3=>An.intro λo4 q4 g6 h9 _ _=>?_;have e7:AI w4 m9:=k5.U a0 i9;refine(h3.U g6).push (e7.Z g6).size (x:=(to:Int)) (h9.sh.pre (r:=[]) rfl) (by rw[BS,gh];omega) λr n0 e8 h4=>d4 _ a8 r n0 ((e7.Z g6).W e8) ?_;have e2:AL ((t'.sy++[to]).drop (n+1))=AL (t'.sy.drop (n+1))++[(to:Int)]:=by rw[me j5];unfold AL;rw[gb];rfl
     rwa [e2]
    .rw[fa (by rwa [dt c4,eu])]at a8;refine⟨e.to,a7.sh.I (k:=1) (r:=[]) rfl,λg2=>?_,λg2=>?_⟩
     .rw[fl (by rw[dt c4,g2])]at a8;exact d4 _ a8 a9 b0 a0 (c9.U (c6.Z a6))
     .rw[fa (by rwa [dt c4,eu])]at a8;exact d2 b0 a5 (b6 a8)
  .have c3:j=es.length:=oM;subst c3;rw[lh]at hE;rw[hE]at b5;exact m2 f a9 m8 (nk _) ⟨n+1,t',oM,j5,c8,b5,d8,c9⟩
 .have d5:n=t.sy.length:=oM;obtain⟨f,rfl⟩:∃f',f=f'+1:=⟨f - 1,oM⟩;rw[Rh (iw oM)]at b5;exact h0 m t.m w9 (c5.Z x9) hT hG b5 (hW.uy.Xcf c5.size)
def Wc{l:Wd}(h:n<l.length):(AL l)[n]'(by rwa [BS])=((l[n]:Nat):Int):=by unfold AL;rw[ng]
def Zlx{w0:PU}{a1:LP}{R:Wp}{E:Wp}(hg:No uh w0 Q u g)(h1:∀w',AI w0 w'->sh w' a1 [u.v])(c5:0<g.length)
  (hE:∀w',AI w0 w'-> ¬C6 g->E w') (hR:∀w',AI w0 w'->C6 g->R w'):
  Of 0 w0 λi b8 c6=>∃(b0:Sl),(sh b8 a1 [b0.v])/\((i<(b0.len:Int)->Of 0 b8 λvk a0 c7=>∃(b2:Sl),(sh a0 a1 [b2.v])/\∃(ad:LP),(b2.a=some ad/\(0:Int)<=i/\i<(b2.len:Int))/\∃(b4:Sl),(sh a0 ((ad.add (i.toNat*6)).add 5) [b4.v])/\((vk<(b4.len:Int)->∃(b5:Sl),(sh a0 a1 [b5.v])/\∃(a8:LP),(b5.a=some a8/\(0:Int)<=i/\i<(b5.len:Int))/\∃(b6:Sl),(sh a0 ((a8.add (i.toNat*6)).add 5) [b6.v])/\∃(a9:LP),(b6.a=some a9/\(0:Int)<=vk/\vk<(b6.len:Int))/\∃(a7:Int),(sh a0 ((a9.add (vk.toNat*2)).add 1) [vi a7])/\sf (decide (a7<1)) λ(b:Bool)=>∃(b7:Sl),BE (!b) (sh a0 a1 [b7.v])/\(((b||(decide ((b7.len:Int)<=a7)))=true->E a0)/\((b||(decide ((b7.len:Int)<=a7)))=false->c7 (Aa (vk+1)) a0)))/\(¬(vk<(b4.len:Int))->c6 (Aa (i+1)) a0)))/\(¬(i<(b0.len:Int))->R b8)):=by
 have d6:=hg.len;refine Of.up hg.max (λi w'=>AI w0 w'/\∀x∈g.take i,∀e∈x.sq,1<=e.to/\e.to<(g.length:Int)) ⟨AI.refl _,λx hx=>by cases hx⟩ λi w2 c6 hi ⟨x2,hI⟩ hn=>⟨u,h1 _ x2,λc3=>?_,λd5=>?_⟩
 .have a5:i<g.length:=oM;obtain⟨ad,c,e,ha,_,_,he,d0⟩:=BR hg a5;have d4:=he.len;refine Of.up he.max (λj w'=>AI w2 w'/\∀y∈g[i].sq.take j,1<=y.to/\y.to<(g.length:Int)) ⟨AI.refl _,λ_ h=>by cases h⟩ λj w4 d3 hj ⟨x4,hJ⟩ d1=>?_;have a4:=x2.Z x4;have l5:sh w4 ((ad.add (((i:Nat):Int).toNat*6)).add 5) [e.v]:=by rw[dx];exact(d0 _ a4).I (k:=5) (r:=[]) rfl
  refine⟨u,h1 _ a4,ad,⟨ha,oM,c3⟩,e,l5,λc4=>?_,λd2=>?_⟩
  .have a6:j<g[i].sq.length:=oM;obtain⟨c8,c9,_,b9⟩:=Cz he a6;refine⟨u,h1 _ a4,ad,⟨ha,oM,c3⟩,e,l5,c8,⟨c9,oM,c4⟩,g[i].sq[j].to,by rw[dx];exact(b9 _ a4).I (k:=1) (r:=[]) rfl,IN ⟨u,λ_=>h1 _ a4,λh=>?_,λh=>?_⟩⟩
   .refine hE w4 a4 λhF=>?_;obtain⟨h1,h2⟩:=hF.2 _ (fe a5) _ (fe a6);rw[fq oM,fq oM]at h;cases h
   .simp only[gd,gk]at h;refine d1 a6 w4 ⟨x4,λp hp=>?_⟩;rw[dw a6]at hp;obtain hp|hp:=fp.1 hp
    .exact hJ p hp
    .rw[ep.1 hp];omega
  .have a6:j=g[i].sq.length:=oM;rw[a6,eh]at hJ;refine hn a5 w4 ⟨a4,λp hp=>?_⟩;rw[dw a5]at hp;obtain hp|hp:=fp.1 hp
   .exact hI p hp
   .rwa [ep.1 hp]
 .have a5:i=g.length:=oM;rw[a5,eh]at hI;exact hR w2 x2 ⟨c5,hI⟩
def Zig{T:Ε}{R:Sl->È}(hS:Old S w)(hs:No ve w S s T)(hg:No uh w Q u g)(hb:∀d∈T,d.BY.length<=4000000000000)
  (h0:∀t M w',AI w w'->vj T->C6 g->ā T g=some M->OF yu 3 w' w.heap.size se t M->R t 0 w')
  (h1:∀w',AI w w'-> ¬D3 T g=0->R Sl.nil (D3 T g) w'):Lj s u w R:=by
 unfold Lj;have s0:=hs.len;have r3:=hg.len;refine An.intro λa w1 x1 i4 _ _=>An.intro λa1 w2 x2 g3 _ _=>⟨s,i4.at0 (r:=[]) x2 rfl,?_⟩;have h4:=x1.Z x2;refine Lc.V (Zib (hs.U h4) λw3 x3=>⟨_,rfl,λhc=>?_,λhc=>?_⟩)
 .have hT: ¬vj T:=λhT=>hc (Kj.2 hT);have h:=h1 w3 (h4.Z x3);rw[VE hT]at h;exact h dC
 have hT:vj T:=Kj.1 (iy hc);have r1:=hT.len;have e3:=h4.Z x3;have j9:∀w',AI w w'-> ¬C6 g->R Sl.nil 33 w':=λw' hx hG=>by have h:=h1 w' hx;rw[VD hT hG]at h;exact h dC
 refine⟨u,g3.at0 (r:=[]) x3 rfl,λn1=>j9 w3 e3 λhG=>by have:=hG.1;omega,λn1=>?_⟩;refine Zlx (hg.U e3) (λw' hx=>g3.at0 (r:=[]) (x3.Z hx) rfl) oM (λw' hx hG=>j9 w' (e3.Z hx) hG) λw4 x4 hG=>?_;have b6:=e3.Z x4;have f1:∀w',AI w w'->ā T g=none->R Sl.nil 42 w':=λw' hx hm=>by have h:=h1 w' hx;rw[VC hT hG hm]at h;exact h dC
 have d0:∀w',AI w4 w'->sh w' a [s.v]:=λw' hx=>i4.at0 (r:=[]) (x2.Z (x3.Z (x4.Z hx))) rfl;have e9:∀w',AI w4 w'->sh w' a1 [u.v]:=λw' hx=>g3.at0 (r:=[]) (x3.Z (x4.Z hx)) rfl;refine An.uy (E:=yu) (x:=0) ⟨rfl,trivial⟩ λa5 w5 x5 o5 _=>?_;refine th.Xa7 (N:=T.length) (by rw[Ao];omega) (λm i w'=>AI w4 w'/\OF yu 3 w' w4.heap.size se m (0::List.replicate (i - 1) (-1))) ⟨x5,by simpa using o5⟩ λm i w6 s2 r4 hi ⟨x6,o6⟩ hn=>⟨s,d0 _ x6,λj5=>?_,λn5=>?_⟩
 .have g5:i<T.length:=oM;refine An.intro λa7 w7 x7 n0 _ _=>?_;refine(o6.U x7).é (x6.Z x7) GP (x:=-1) ⟨rfl,trivial⟩ (n0.sh.pre (r:=[]) rfl) dC (by rw[fu,qy];show _*8<=Ab;unfold Ab;omega) λr w8 o8 x8=>hn g5 r w8 ⟨x8,?_⟩;have e:(0::List.replicate (i - 1) (-1:Int))++[-1]=0::List.replicate (i+1 - 1) (-1):=by rw[ig,<-List.replicate_succ',show i - 1+1=i+1 - 1 by omega]
  rw[e]at o8;exact o8
 have g5:i=T.length:=oM;subst g5;have e0:0::List.replicate (T.length - 1) (-1:Int)=(List.replicate T.length (-1)).set 0 0:=by obtain⟨k,hk⟩:∃k,T.length=k+1:=⟨T.length - 1,oM⟩;rw[hk,qc];rfl
 rw[e0]at o6;refine An.qu rfl λh6 w8 x8 q8 q0=>?_;have m4:Ó w8 w4.heap.size m ⟨some h6,1,1⟩ ((List.replicate T.length (-1)).set 0 0) (AL [0]):=by
  have p6:Qu w8 w4.heap.size ⟨some h6,1,1⟩ [0]:=by obtain⟨g',off,m1,k1,k2,k3⟩:=q8.row;exact⟨q8.len,q8.cap,g',off,m1,k1,by have:=x6.size;omega,k3⟩
  refine⟨o6.U x8,p6,λad r0 ha m5=>?_⟩;cases m5;have:=(o6.block ha).2.1;omega
 refine th.zj (λf sy i w'=>∃(n:Nat) (t:Ò),i=(n:Int)/\f+n=T.length+1/\n<=t.sy.length/\Ï T g t/\ā T g=Ek T g f n t/\AI w4 w'/\Ó w' w4.heap.size m sy t.m (AL t.sy)) (T.length+1) ⟨0,⟨(List.replicate T.length (-1)).set 0 0,[0]⟩,rfl,rfl,ib _,Ï.start oM hG.1,rfl,x6.Z x8,m4⟩ λf sy i w9 q5 ⟨n,t,n9,hf,r8,hI,b4,x9,hW⟩ o4=>?_;subst n9;have p0:=hW.qu.len;rw[BS]at p0;have r7:=hI.Ĝ;refine⟨λj5=>sf.drew λs3 c6=>?_,λn5=>?_⟩
 .have c5:n<t.sy.length:=oM;obtain⟨f,rfl⟩:∃f',f=f'+1:=⟨f - 1,oM⟩;obtain⟨hm,n8,r5,r6⟩:=hI.at c5;have g9:=Ri (f:=f) (T:=T) (g:=g) (dt c5) (dt hm);rw[g9]at b4;have m9:t.sy[n]?=some t.sy[n]:=dt c5;obtain⟨l8,i2,f2⟩:=hW.qu.el (i:=n) (by rwa [BS]);rw[Wc c5]at f2;generalize t.sy[n]=a0 at*;obtain⟨h7,g1,j4⟩:=IP hW.uy (i:=a0) hm;have j7:=hW.uy.len;rw[hI.len]at j7;obtain⟨kn,i9⟩:∃kn:Nat,t.m[a0]=(kn:Int):=⟨t.m[a0].toNat,oM⟩;have d1:kn<g.length:=oM;obtain⟨l7,cg,eg,m8,_,_,g4,j3⟩:=BR hg d1;have n4:A2 g (t.m[a0]).toNat=g[kn].sq:=by rw[i9,dx];unfold A2;rw[dt d1]
  rw[n4]at b4;have k8:=b6.Z (x9.Z c6);have j0:=j4 _ c6;rw[i9]at j0;refine⟨u,e9 _ (x9.Z c6),l8,⟨i2,oM,j5⟩,((a0:Nat):Int),by rw[dx];exact f2 _ c6,h7,⟨g1,oM,oM⟩,(kn:Int),j0,l7,⟨m8,oM,oM⟩,eg,by rw[dx];exact(j3 _ k8).I (k:=5) (r:=[]) rfl,?_⟩;have r2:=g4.len;have p4:∀e∈g[kn].sq,1<=e.to/\e.to<(g.length:Int):=hG.2 _ (fe d1);have k4:∀j (hj:j<g[kn].sq.length),∃ad,eg.a=some ad/\Ad g[kn].sq[j].Y/\∀w',AI w w'->sh w' (ad.add (j*2)) [.string g[kn].sq[j].Y,.int .i64 g[kn].sq[j].to]:=λj hj=>Cz g4 hj;generalize g[kn].sq=es at*;refine th.up g4.max (λa8 j w'=>∃t':Ò,DO T g a0 t es=DO T g a0 t' (es.drop j)/\Ï T g t'/\t'.sy[n]?=some a0/\AI w4 w'/\Ó w' w4.heap.size m a8 t'.m (AL t'.sy)) ⟨t,by rw[ju],hI,m9,x9.Z c6,hW.U c6⟩ λa8 j k7 p5 hj ⟨t',hE,c3,b8,e4,b0⟩ j8=>⟨λb2=>join.named λJ hJ=>sf.drew λs4 d7=>?_,λn7=>?_⟩
  .have c4:j<es.length:=oM;obtain⟨a4,c8,g8,g6⟩:=k4 j c4;rw[VH c4]at hE;have k5:=p4 _ (fe c4);have d3:D4 T g a0 t' es[j]=none->ā T g=none:=λh=>(by rw[h]at hE;rw[b4,hE];rfl);have d2:∀t2,D4 T g a0 t' es[j]=some t2->∀r w',AI w4 w'->Ó w' w4.heap.size m r t2.m (AL t2.sy)->J r w':=λt2 h2 r w' hx hw=>by
    rw[hJ];obtain⟨m3,l,hl⟩:=c3.yz k5 h2;refine j8 c4 r w' ⟨t2,?_,m3,?_,hx,hw⟩
    .rw[h2]at hE;exact hE
    .rwa [hl,gl (fh.1 b8).1]
   have q1:=c3.Ĝ;obtain⟨f5,g2⟩:=fh.1 b8;have k0:=b0.qu.len;rw[BS]at k0;obtain⟨l9,i3,f3⟩:=b0.qu.el (i:=n) (by rwa [BS]);rw[Wc f5,g2]at f3;generalize es[j]=e at*;have d6:=b6.Z (e4.Z d7);have h3:∀w',AI w w'->sh w' (a4.add (((j:Nat):Int).toNat*2)) [.string e.Y,vi e.to]:=λw' hx=>(by rw[dx];exact g6 _ hx);refine⟨s,d0 _ (e4.Z d7),l9,⟨i3,oM,oM⟩,((a0:Nat):Int),by rw[dx];exact f3 _ d7,a4,⟨c8,oM,b2⟩,e.Y,(h3 _ d6).pre rfl,?_⟩;refine Lh.V (Zif (hS.U d6.size) (hs.U d6) n8 g8 hb λp7 k9=>⟨_,rfl,?_⟩);have d8:=e4.Z (d7.Z k9);have f6:=b6.Z d8;cases hlk:Ej T a0 e.Y with
   |none=>rw[Vz hlk];have i7:=f1 p7 f6 (d3 (VG hlk));exact⟨λ_=>i7,λh=>fm dC h⟩
   |some to=>
    rw[V0 hlk];refine⟨λh=>by omega,λ_=>?_⟩;have d4:=V3 hlk;obtain⟨l6,ps,dd,ee,oo,m7,_,q3,r9,_,_,_,n2⟩:=vg hs d4;obtain⟨en,i6⟩:∃en:Nat,e.to=(en:Int):=⟨e.to.toNat,oM⟩;have f0:en<g.length:=oM;obtain⟨l5,cE,eE,m6,_,_,_,j2⟩:=BR hg f0;have b5:=VF (s:=t') hlk (dt d4) (g:=g) (x:=g[en]) (by rw[i6,dx];exact dt f0);have j6:=b0.uy.len;rw[c3.len]at j6;have a9:to<t'.m.length:=by rwa [c3.len]
    have q2:=c3.low to _ (dt a9);obtain⟨a6,c9,g7⟩:=IP b0.uy a9;refine⟨s,d0 _ d8,l6,⟨m7,oM,oM⟩,T[to].td.Y,T[to].td.v.ma,T[to].td.v.mi,T[to].td.v.pa,dd,ee,oo,by rw[dx];exact(n2 _ f6).I (k:=1) rfl,An.set rfl λq6 s5 l0 e7 _=>sf.drew λs6 e5=>?_⟩;have d9:=d8.Z (l0.Z e5);have f7:=b6.Z d9;refine⟨u,e9 _ d9,a4,⟨c8,oM,b2⟩,e.to,(h3 _ f7).I (k:=1) (r:=[]) rfl,l5,⟨m6,oM,oM⟩,g[en].Y,g[en].v.ma,g[en].v.mi,g[en].v.pa,cE,eE,by rw[i6,dx];exact j2 _ f7,An.set rfl λq7 s7 e6 e8 _=>sf.drew λd5 c7=>?_⟩;have b9:=d9.Z (e6.Z c7);have f8:=b6.Z b9;have b7:AI k7 d5:=d7.Z (k9.Z (l0.Z (e5.Z (e6.Z c7))));have lm:sh d5 (a6.add (((to:Nat):Int).toNat*1)) [.int .i64 t'.m[to]]:=(by rw[dx];exact g7 _ b7);have k6:sh d5 ((a4.add (((j:Nat):Int).toNat*2)).add 1) [vi e.to]:=(h3 _ f8).I (k:=1) (r:=[]) rfl;have rm:m.a=some a6/\(0:Int)<=(to:Int)/\((to:Nat):Int)<(m.len:Int):=⟨c9,oM,oM⟩;have re:eg.a=some a4/\(0:Int)<=(j:Int)/\((j:Nat):Int)<(eg.len:Int):=⟨c8,oM,b2⟩;refine⟨_,e7.at0 (e5.Z (e6.Z c7)) rfl,_,e8.at0 c7 rfl,IN ⟨_,_,_,λ_=>e7.at1 (k:=1) (e5.Z (e6.Z c7)) rfl,_,_,_,λ_=>e8.at1 (k:=1) c7 rfl,IN ⟨a6,λ_=>rm,_,λ_=>lm,IN ⟨a6,λ_=>rm,_,λ_=>lm,a4,λ_=>re,_,λ_=>k6,?_⟩⟩⟩⟩;rw[VS];have m2:(t'.m[to]==e.to)=decide (t'.m[to]=e.to):=rfl;rw[m2];refine⟨λhq=>f1 d5 f8 (d3 ?_),λhq=>?_⟩
    .rw[b5];by_cases hc:T[to].td.Y=g[en].Y/\T[to].td.v=g[en].v
     .rw[fy hc]at hq;simp only[Bool.not_true,qe,dz,fk,mg,gk]at hq;rw[fl hc,fa (by rw[dt a9,eu];omega),fa (by rw[dt a9,eu];exact hq.2)]
     .rw[fa hc]
    rw[gd]at hq;obtain⟨o7,e1⟩:=hq;rw[fl (by simpa using o7)]at b5;refine⟨a6,rm,_,lm,λo9=>?_,λo9=>?_⟩
    .rw[fl (by rw[dt a9,eu];omega)]at b5;refine⟨a4,re,_,k6,a6,rm,?_⟩;rw[dx];refine(b0.U b7).set b9.size a9 c9 λp8 m0 q4 j1 h8=>An.intro λq9 s8 h5 i5 _ _=>?_;have f9:AI w4 p8:=m0.U b9 j1;refine(h8.U h5).push (f9.Z h5).size (x:=(to:Int)) (i5.sh.pre (r:=[]) rfl) (by rw[BS];omega) λr p9 g0 h9=>d2 _ b5 r p9 ((f9.Z h5).W g0) ?_;have e2:AL (t'.sy++[to])=AL t'.sy++[(to:Int)]:=by unfold AL;rw[gb];rfl
     rwa [e2]
    .have o0:t'.m[to]≠ -1:=oM;rw[fa (by rwa [dt a9,eu])]at b5;rw[fy (show(0:Int)<=t'.m[to] by omega),ic]at e1;have e1:t'.m[to]=e.to:=(by simpa using e1);rw[fl (by rw[dt a9,e1])]at b5;exact d2 _ b5 a8 d5 b9 (b0.U b7)
  .have c4:j=es.length:=oM;subst c4;rw[lh]at hE;rw[hE]at b4;rw[show Aa ((n:Int)+1)=((n+1:Nat):Int) by rw[Ai oM oM];omega];refine o4 f a8 ((n+1:Nat):Int) k7 (nk _) ⟨n+1,t',rfl,oM,(fh.1 b8).1,c3,b4,e4,b0⟩
 .have c5:n=t.sy.length:=oM;obtain⟨f,rfl⟩:∃f',f=f'+1:=⟨f - 1,oM⟩;rw[Rh (iw oM)]at b4;exact h0 m t.m w9 (b6.Z x9) hT hG b4 (hW.uy.Xcf b6.size)
structure zp(k i:Nat)(x:rz):Prop where
 head:if i=0 then x.key=ui.key else Ae x.Y=true/\x.v.vt=true
 py:ĝ k x
def Hp:ww g↔(1<=g.length/\g.length<=128)/\∀i (h:i<g.length),zp g.length i g[i]:=by
 constructor
 .intro h;refine⟨h.len,λi hi=>⟨?_,h.py _ (fe hi)⟩⟩;by_cases h0:i=0
  .subst h0;rw[fl rfl];obtain⟨x,h1,h2⟩:=h.root;rw[dt hi,eu]at h1;rwa [h1]
  .rw[fa h0];exact h.Y i _ (dt hi) h0
 .rintro⟨h1,h2⟩;refine⟨h1,⟨g[0],dt oM,by simpa using(h2 0 oM).head⟩,λi x hx h0=>?_,λx hx=>?_⟩
  .obtain⟨hi,rfl⟩:=fh.1 hx;have:=(h2 i hi).head;rw[fa h0]at this;exact this
  .obtain⟨i,hi,rfl⟩:=gc.1 hx;exact(h2 i hi).py
def WS{x:rz}{c:Nat}(hc:c=x.vd.length):((Ag x.Y ⟨#[]⟩&&((x.v.ma==0)&&((x.v.mi==0)&&((x.v.pa==0)&&true))))&&((c:Int)==0))=true↔x.key=ui.key:=by
 obtain⟨n,⟨p,q,r⟩,cx,ed⟩:=x;have hc:c=cx.length:=hc;subst hc;simp only[rz.key,ui,Prod.mk.injEq,tj.mk.injEq,AG,dz,jq,and_true];constructor
 .rintro⟨⟨h1,h2,h3,h4⟩,h5⟩;exact⟨h1,⟨h2,h3,h4⟩,fo oM⟩
 .rintro⟨h1,⟨h2,h3,h4⟩,h5⟩;exact⟨⟨h1,h2,h3,h4⟩,by rw[h5];rfl⟩
def Zfe(hs:No uh w S s g)(hR:∀(b:Bool) w',AI w w'->(b=true↔ww g)->R b w'):L8 s w R:=by
 unfold L8;have d0:=hs.len;have a7:∀w',AI w w'-> ¬ww g->R false w':=λw' hx h=>hR false w' hx ⟨nO,λhf=>fm hf h⟩;refine An.intro λa w1 x1 a6 _ _=>⟨s,a6.sh.pre (r:=[]) rfl,IN ⟨s,λ_=>a6.sh.pre (r:=[]) rfl,λhc=>a7 w1 x1 λhF=>?_,λhc=>?_⟩⟩
 .obtain⟨q1,q2⟩:=hF.len;rw[fq oM,fq oM]at hc;cases hc
 simp only[gd,gk]at hc;refine⟨s,a6.sh.pre (r:=[]) rfl,?_⟩;refine Of.up hs.max (λi w'=>AI w1 w'/\∀j (hj:j<g.length),j<i->zp g.length j g[j]) ⟨AI.refl _,λj _ h=>by omega⟩ λi w3 d1 hi ⟨x3,hI⟩ hn=>⟨λc5=>?_,λc9=>?_⟩
 .have a9:i<g.length:=oM;obtain⟨ad,c,e,ha,c6,b5,b9,c4⟩:=BR hs a9;have b8:=b5.len;have b6:=x1.Z x3;have a8:∀w',AI w w'-> ¬zp g.length i g[i]->R false w':=λw' hx h=>a7 w' hx λhF=>h ((Hp.1 hF).2 i a9);refine⟨ad,⟨ha,oM,c5⟩,_,_,_,_,_,_,c4 _ b6,An.set rfl λa5 w5 x5 a4 _=>⟨_,a4.at0 xR rfl,?_⟩⟩;refine CI.V (ux c6 λw6 x6=>⟨_,rfl,_,_,_,λ_=>a4.at1 (k:=1) x6 rfl,?_⟩);refine IS.intro g[i].v.vt (λ_ q hq=>Ez.V (HK (v:=g[i].v) λw7 x7=>⟨_,rfl,hq w7 x7⟩)) λd2 w7 x7 b7=>join.named λJ hJ=>?_;have a0:=x6.Z x7;have c8:=b6.Z (x5.Z a0);have b4:∀b w8,AI w7 w8->(b=true↔if i=0 then g[i].key=ui.key else Ae g[i].Y=true/\g[i].v.vt=true)->J b w8:=λb w8 x8 hb=>by
   rw[hJ];have b0:=c8.Z x8;refine IN ⟨_,_,_,_,c,e,λ_=>a4.at0 (r:=[]) (a0.Z x8) rfl,s,λ_=>a6.at0 (r:=[]) (x3.Z (x5.Z (a0.Z x8))) rfl,?_⟩;refine IS.holds (λt=>t=true↔ĝ g.length g[i]) (λ_ q hq=>LA.V (Zff (x:=g[i]) (k:=g.length) oM (b5.U b0) (b9.U b0) λb w9 x9 hb=>⟨b,rfl,hq b w9 x9 hb⟩)) λc7 w9 x9 b2=>⟨λh=>?_,λh=>?_⟩
   .refine a8 w9 (b0.Z x9) λhF=>?_;have h1:=hb.2 hF.head;subst h1;rw[(b2 rfl).2 hF.py]at h;cases h
   .have h1:b=true:=by
     cases b with
     |true=>rfl
     |false=>cases h
    subst h1;have h2:c7=true:=by simpa using h
    refine hn a9 w9 ⟨x3.Z (x5.Z (a0.Z (x8.Z x9))),λj hj c3=>?_⟩;obtain h'|h':=im.1 c3
    .exact hI j hj h'
    .subst h';exact⟨hb.1 rfl,(b2 rfl).1 h2⟩
  refine⟨λh0=>?_,λh0=>?_⟩
  .have h0:i=0:=oM;refine⟨_,a4.at0 a0 rfl,IN ⟨_,_,_,λ_=>a4.at1 (k:=1) a0 rfl,IN ⟨c,λ_=>a4.at1 (k:=4) a0 rfl,?_⟩⟩⟩;refine b4 _ w7 xR ?_;rw[fl h0];exact WS b8
  .have h0:i≠0:=oM;refine b4 _ w7 xR ?_;rw[fa h0];cases hM:Ae g[i].Y with
   |false=>simp
   |true=>rw[b7 hM];simp
 .exact hR true w3 (x1.Z x3) ⟨λ_=>Hp.2 ⟨⟨oM,oM⟩,λi hi=>hI i hi oM⟩,λ_=>rfl⟩
def Zh5{l:Η}(hs:No vb w S s l)(hR:∀(b:Bool) w',AI w w'->(b=true↔vq tn.Y l/\(∀p∈l,Ae p.Y=true/\p.v.vt=true)/\l.length<=128)->R b w'):KV s w R:=by
 unfold KV;have c6:=hs.len;have hm:=hs.max;refine Of.up hm (λi w'=>AI w w'/\vq tn.Y (l.take i)/\∀p∈l.take i,Ae p.Y=true/\p.v.vt=true) ⟨AI.refl _,.nil,λ_ h=>by cases h⟩ λi w1 c7 hi ⟨x1,hI,hK⟩ hn=>⟨λa9=>sf.drew λw2 x2=>?_,λc5=>?_⟩
 .have hl:i<l.length:=oM;have a7:=fe hl;obtain⟨ad,ha,_,c3,a8⟩:=CE hs hl;obtain⟨b7,b8,_,b5,b4⟩:=CE hs (n:=i - 1) oM;have b2:=x1.Z x2;refine⟨ad,⟨ha,oM,a9⟩,_,(a8 _ b2).pre rfl,Ee.V (yk c3 λw3 x3=>⟨_,rfl,IN ⟨ad,λ_=>⟨ha,oM,a9⟩,_,_,_,λ_=>(a8 _ (b2.Z x3)).I (k:=1) (r:=[]) rfl,?_⟩⟩)⟩;have c4:=b2.Z x3;refine IS.intro l[i].v.vt (λ_ q hq=>Ed.V (y' λw4 x4=>⟨_,rfl,hq w4 x4⟩)) λb6 w4 x4 a6=>IN (IN ?_);have a4:=c4.Z x4;by_cases h0:i=0
  .subst h0;refine⟨ad,λh=>by simp at h,l[0].Y,λh=>by simp at h,ad,λh=>by simp at h,l[0].Y,λh=>by simp at h,?_⟩;refine IS.intro true (λh=>by simp at h) λb0 w5 x5 a5=>?_;have a0:((!Ae l[0].Y|| !b6)||(decide ((0:Int)<((0:Nat):Int))&& !b0))=false↔Ae l[0].Y=true/\l[0].v.vt=true:=by
    cases hM:Ae l[0].Y with
    |false=>simp
    |true=>rw[hM]at a6;rw[a6 rfl];simp
   refine⟨λh=>hR false w5 (a4.Z x5) ⟨nO,λ⟨_,g2,_⟩=>?_⟩,λh=>hn hl w5 ⟨a4.Z x5,Js,λp hp=>?_⟩⟩
   .have:=a0.2 (g2 _ a7);exact fm (h.H.Z this) dC
   .rw[dw hl]at hp;simp only[qo,ip,ep]at hp;rw[hp];exact a0.1 h
  .have h1:1<=i:=oM;rw[Nx h1 hl hm,fy (show(0:Int)<(i:Int) by omega)];refine⟨b7,λ_=>⟨b8,oM,oM⟩,_,λ_=>(b4 _ a4).pre rfl,ad,λ_=>⟨ha,oM,a9⟩,_,λ_=>(a8 _ a4).pre rfl,?_⟩;refine IS.intro (Ak l[i - 1].Y l[i].Y) (λ_ q hq=>Hi.V (û b5 λw5 x5=>⟨_,rfl,hq w5 x5⟩)) λb0 w5 x5 a5=>?_;have a0:((!Ae l[i].Y|| !b6)||(true&& !b0))=false↔(Ae l[i].Y=true/\l[i].v.vt=true)/\Ak l[i - 1].Y l[i].Y=true:=by
    cases hM:Ae l[i].Y with
    |false=>simp
    |true=>
     rw[hM]at a6 a5;rw[a6 rfl]at a5 ⊢;cases hV:l[i].v.vt with
     |false=>simp
     |true=>rw[hV]at a5;rw[a5 rfl];simp
   refine⟨λh=>hR false w5 (a4.Z x5) ⟨nO,λ⟨g1,g2,_⟩=>?_⟩,λh=>hn hl w5 ⟨a4.Z x5,?_,λp hp=>?_⟩⟩
   .rw[a0.2 ⟨g2 _ a7,?_⟩]at h
    .cases h
    .cases hb:Ak l[i - 1].Y l[i].Y with
     |true=>rfl
     |false=>exact fm g1 (Jr h1 hl hb)
   .exact Jt h1 hl hI (a0.1 h).2
   .rw[dw hl]at hp;obtain hp|hp:=fp.1 hp
    .exact hK p hp
    .rw[ep.1 hp];exact(a0.1 h).1
 .have b9:i=l.length:=oM;rw[b9,eh]at hI hK;refine hR _ w1 x1 ⟨λh=>⟨hI,hK,?_⟩,λ⟨_,_,h⟩=>fy oM⟩;have:=jg h;omega
def Zh4{l:LQ}{many:Int}{k:Nat}(hk:many=(k:Int))(hs:No xu w S s l)(hR:∀(b:Bool) w',AI w w'->(b=true↔vq Edge.Y l/\(∀e∈l,Ae e.Y=true/\1<=e.to/\e.to<(k:Int))/\l.length<=128)->R b w'):KU s many w R:=by
 unfold KU;subst hk;have c5:=hs.len;have hm:=hs.max;refine Of.up hm (λi w'=>AI w w'/\vq Edge.Y (l.take i)/\∀e∈l.take i,Ae e.Y=true/\1<=e.to/\e.to<(k:Int)) ⟨AI.refl _,.nil,λ_ h=>by cases h⟩ λi w1 c6 hi ⟨x1,hI,hK⟩ hn=>⟨λa8=>sf.drew λw2 x2=>?_,λc4=>?_⟩
 .have hl:i<l.length:=oM;have b0:=fe hl;obtain⟨ad,ha,c3,a7⟩:=Cz hs hl;obtain⟨b7,b8,b6,b5⟩:=Cz hs (n:=i - 1) oM;have a9:=x1.Z x2;refine⟨ad,⟨ha,oM,a8⟩,_,(a7 _ a9).pre rfl,Ee.V (yk c3 λw3 x3=>⟨_,rfl,IN ⟨ad,λ_=>⟨ha,oM,a8⟩,_,λ_=>(a7 _ (a9.Z x3)).I (k:=1) (r:=[]) rfl,IN ⟨ad,λ_=>⟨ha,oM,a8⟩,_,λ_=>(a7 _ (a9.Z x3)).I (k:=1) (r:=[]) rfl,IN (IN ?_)⟩⟩⟩)⟩;have a4:=a9.Z x3;have a0:((!Ae l[i].Y||decide (l[i].to<1))||decide ((k:Int)<=l[i].to))=false↔Ae l[i].Y=true/\1<=l[i].to/\l[i].to<(k:Int):=by simp only[gd,nr,gk,and_assoc];exact⟨λ⟨a,b,c⟩=>⟨a,oM,oM⟩,λ⟨a,b,c⟩=>⟨a,oM,oM⟩⟩
  generalize ((!Ae l[i].Y||decide (l[i].to<1))||decide ((k:Int)<=l[i].to))=a5 at*;by_cases h0:i=0
  .subst h0;refine⟨ad,λh=>by simp at h,l[0].Y,λh=>by simp at h,ad,λh=>by simp at h,l[0].Y,λh=>by simp at h,?_⟩;refine IS.intro true (λh=>by simp at h) λb2 w5 x5 b4=>?_;have e:(a5||(decide ((0:Int)<((0:Nat):Int))&& !b2))=a5:=by simp
   rw[e];refine⟨λh=>hR false w5 (a4.Z x5) ⟨nO,λ⟨_,g2,_⟩=>?_⟩,λh=>hn hl w5 ⟨a4.Z x5,Js,λp hp=>?_⟩⟩
   .rw[a0.2 (g2 _ b0)]at h;cases h
   .rw[dw hl]at hp;simp only[qo,ip,ep]at hp;rw[hp];exact a0.1 h
  .have h1:1<=i:=oM;rw[Nx h1 hl hm,fy (show(0:Int)<(i:Int) by omega)];refine⟨b7,λ_=>⟨b8,oM,oM⟩,_,λ_=>(b5 _ a4).pre rfl,ad,λ_=>⟨ha,oM,a8⟩,_,λ_=>(a7 _ a4).pre rfl,?_⟩;refine IS.intro (Ak l[i - 1].Y l[i].Y) (λ_ q hq=>Hi.V (û b6 λw5 x5=>⟨_,rfl,hq w5 x5⟩)) λb2 w5 x5 b4=>?_;have a6:(a5||(true&& !b2))=false↔a5=false/\Ak l[i - 1].Y l[i].Y=true:=by
    cases a5 with
    |true=>simp
    |false=>rw[b4 rfl];simp
   refine⟨λh=>hR false w5 (a4.Z x5) ⟨nO,λ⟨g1,g2,_⟩=>?_⟩,λh=>hn hl w5 ⟨a4.Z x5,?_,λp hp=>?_⟩⟩
   .rw[a6.2 ⟨a0.2 (g2 _ b0),?_⟩]at h
    .cases h
    .cases hb:Ak l[i - 1].Y l[i].Y with
     |true=>rfl
     |false=>exact fm g1 (Jr h1 hl hb)
   .exact Jt h1 hl hI (a6.1 h).2
   .rw[dw hl]at hp;obtain hp|hp:=fp.1 hp
    .exact hK p hp
    .rw[ep.1 hp];exact a0.1 (a6.1 h).1
 .have b9:i=l.length:=oM;rw[b9,eh]at hI hK;refine hR _ w1 x1 ⟨λh=>⟨hI,hK,?_⟩,λ⟨_,_,h⟩=>fy oM⟩;have:=jg h;omega
def Zjl{x:rz}{c:Nat}(hc:c=x.vd.length):((!Ag x.Y ⟨#[]⟩|| !((x.v.ma==0)&&((x.v.mi==0)&&((x.v.pa==0)&&true))))||decide (0<(c:Int)))=false↔x.key=ui.key:=by
 rw[<-WS hc];have e:decide (0<(c:Int))= !((c:Int)==0):=by
  by_cases h:c=0
  .subst h;rfl
  .rw[fy oM];have:((c:Int)==0)=false:=by rw[nz];intro h';have:=eq_of_beq h';omega
   rw[this];rfl
 rw[e];cases Ag x.Y ⟨#[]⟩<;>cases((x.v.ma==0)&&((x.v.mi==0)&&((x.v.pa==0)&&true)))<;>cases((c:Int)==0)<;>simp
def Zh3(hs:No uh w S s g)(hR:∀(b:Bool) w',AI w w'->(b=true↔ww g)->R b w'):KT s w R:=by
 unfold KT;have d7:=hs.len;have b0:∀w',AI w w'-> ¬ww g->R false w':=λw' hx h=>hR false w' hx ⟨nO,λhf=>fm hf h⟩;refine An.intro λa w1 x1 b7 _ _=>⟨s,b7.sh.pre (r:=[]) rfl,IN ⟨λhc=>b0 w1 x1 λhF=>?_,λhc=>?_⟩⟩
 .obtain⟨q1,q2⟩:=hF.len;rw[fq oM,fq oM]at hc;cases hc
 simp only[gd,gk]at hc;refine Of.up hs.max (λi w'=>AI w1 w'/\∀j (hj:j<g.length),j<i->zp g.length j g[j]) ⟨AI.refl _,λj _ h=>by omega⟩ λi w3 d8 hi ⟨x3,hI⟩ hn=>⟨λd0=>?_,λd6=>?_⟩
 .have b2:i<g.length:=oM;obtain⟨ad,c,e,ha,d1,b8,c7,c9⟩:=BR hs b2;have c6:=b8.len;have b9:=x1.Z x3;have a4:∀w',AI w w'-> ¬zp g.length i g[i]->R false w':=λw' hx h=>b0 w' hx λhF=>h ((Hp.1 hF).2 i b2);refine⟨s,b7.at0 (r:=[]) x3 rfl,ad,⟨ha,oM,d0⟩,_,_,_,_,_,_,c9 _ b9,An.set rfl λa5 w5 x5 a0 _=>IN ⟨_,λ_=>a0.at0 xR rfl,IN ⟨_,_,_,λ_=>a0.at1 (k:=1) xR rfl,IN ⟨c,λ_=>a0.at1 (k:=4) xR rfl,?_⟩⟩⟩⟩;have a7:=Zjl (x:=g[i]) c6;have c4:=b9.Z x5;have ei:((i:Int)==0)=decide (i=0):=by rw[gp,jq,iv];omega
  rw[ei];generalize ((!Ag g[i].Y ⟨#[]⟩|| !((g[i].v.ma==0)&&((g[i].v.mi==0)&&((g[i].v.pa==0)&&true))))||decide (0<(c.len:Int)))=d5 at*;refine⟨λh=>a4 w5 c4 λhF=>?_,λh=>IN ?_⟩
  .simp only[dz,fk]at h;have hh:=hF.head;rw[fl h.1]at hh;rw[a7.2 hh]at h;cases h.2
  refine⟨_,λ_=>a0.at0 xR rfl,?_⟩;refine IS.intro (Ae g[i].Y) (λ_ q hq=>Ee.V (yk d1 λw6 x6=>⟨_,rfl,hq w6 x6⟩)) λd2 w6 x6 b5=>IN ⟨_,_,_,λ_=>a0.at1 (k:=1) x6 rfl,?_⟩;refine IS.intro g[i].v.vt (λ_ q hq=>Ed.V (y' λw7 x7=>⟨_,rfl,hq w7 x7⟩)) λd3 w7 x7 a8=>?_;have a9:=x6.Z x7;have b4:=c4.Z a9;have a6:(decide (0<(i:Int))&&(!d2|| !d3))=false↔(if i=0 then g[i].key=ui.key else Ae g[i].Y=true/\g[i].v.vt=true):=by
   by_cases h0:i=0
   .rw[fl h0,fq oM,qw];rw[fy h0,ic]at h;exact⟨λ_=>a7.1 h,λ_=>rfl⟩
   .rw[fa h0,fy oM];rw[fy oM]at b5 a8;rw[b5 rfl]at a8 ⊢;cases hM:Ae g[i].Y with
    |false=>simp
    |true=>rw[hM]at a8;rw[a8 rfl];simp
  refine⟨λh=>a4 w7 b4 λhF=>?_,λh=>?_⟩
  .rw[a6.2 hF.head]at h;cases h
  have hh:=a6.1 h;refine⟨c,a0.at1 (k:=4) a9 rfl,KV.V (Zh5 (b8.U b4) λb w8 x8 hb=>⟨b,rfl,IN ⟨e,λ_=>a0.at1 (k:=5) (r:=[]) (a9.Z x8) rfl,?_⟩⟩)⟩;have c5:=b4.Z x8;refine IS.holds (λt=>t=true↔vq Edge.Y g[i].sq/\(∀e∈g[i].sq,Ae e.Y=true/\1<=e.to/\e.to<(g.length:Int))/\g[i].sq.length<=128) (λ_ q hq=>KU.V (Zh4 (k:=g.length) oM (c7.U c5) λb w9 x9 hb=>⟨b,rfl,hq b w9 x9 hb⟩)) λd4 w9 x9 b6=>⟨λh=>?_,λh=>?_⟩
  .refine a4 w9 (c5.Z x9) λhF=>?_;have hN:=hF.py;have h1:=hb.2 ⟨hN.vd,hN.pin,hN.Xa2⟩;subst h1;rw[(b6 rfl).2 ⟨hN.sq,hN.yz,hN.ġ⟩]at h;cases h
  .have h1:b=true:=by
    cases b with
    |true=>rfl
    |false=>cases h
   subst h1;have h2:d4=true:=by simpa using h
   obtain⟨c1,c2,c3⟩:=hb.1 rfl;obtain⟨e1,e2,e3⟩:=(b6 rfl).1 h2;refine hn b2 w9 ⟨x3.Z (x5.Z (a9.Z (x8.Z x9))),λj hj c8=>?_⟩;obtain h'|h':=im.1 c8
   .exact hI j hj h'
   .subst h';exact⟨hh,c1,c2,c3,e1,e2,e3⟩
 .exact hR true w3 (x1.Z x3) ⟨λ_=>Hp.2 ⟨⟨oM,oM⟩,λi hi=>hI i hi oM⟩,λ_=>rfl⟩
def An.Xdf{zs:LV}{k:Ì}(hl:cs.length=zs.length)(h:∀a w',AI w w'->zy t w' a cs->a.block=w.heap.size->k a w'):An w zs t λa w1=>ry w1 a cs λw2=>k a w2:=
 An.ç λa w1 x1 ha a4 a5=>tk.ç ha hl λw2 b2 hz a0=>h a w2 (b2.U x1 oM) a0 a4
def Oq{α:Type}{f:α->LU}{c:Nat}:∀{l:List α},(∀x∈l,(f x).length<=c)->(l.flatMap f).length<=c*l.length
 | [],_=>by simp
 |x::l,h=>by have h1:=h x (.head _);have h2:=Oq (l:=l) λy hy=>h y (.tail _ hy);rw[List.flatMap_cons,du,fu,Nat.mul_add];omega
def R3{p:tn}(h:Ae p.Y=true):(Ca p).length<=40:=by have h1:=Cn h;have h2:=Dd p.v;unfold Ca Sy;simp only[du,fu,ie];omega
def Q9{e:Edge}{k:Nat}(h:Ae e.Y=true/\1<=e.to/\e.to<(k:Int))(hk:k<=128):(CX e).length<=40:=by have h1:=Cn h.1;have h2:=Dy (n:=e.to) oM oM;unfold CX Sx;simp only[du,fu,ie];omega
def QQ{x:rz}(h:i≠0->Ae x.Y=true):(B6 i x).length<=40:=by
 unfold B6;by_cases h0:i=0
 .rw[fl h0];decide
 .rw[fa h0];have h1:=Cn (h h0);have h2:=Dd x.v;unfold Nc;simp only[du,fu,ie];omega
def Zgf{k:Nat}{x:rz}(h:zp k i x)(hk:k<=128):(Gu i x).length<=10280:=by
 have h0:=QQ (i:=i) (x:=x) λh0=>by have:=h.head;rw[fa h0]at this;exact this.1
 have h1:=Oq (f:=Ca) (c:=40) (l:=x.vd) λp hp=>R3 (h.py.pin p hp).1;have h2:=Oq (f:=CX) (c:=40) (l:=x.sq) λe he=>Q9 (h.py.yz e he) hk;have h3:=h.py.Xa2;have h4:=h.py.ġ;unfold Gu;simp only[du];omega
def Vu{k:Nat}(hk:k<=128):∀(l:Ζ)(i:Nat),(∀j (h:j<l.length),zp k (i+j) l[j])->(CC i l).length<=10280*l.length
 | [],_,_=>by simp[CC]
 |x::l,i,h=>by
  have h1:=Zgf (i:=i) (x:=x) (k:=k) (by have:=h 0 sI;simpa using this) hk;have h2:=Vu hk l (i+1) λj hj=>by have:=h (j+1) (by simpa using hj);rwa [show i+1+j=i+(j+1) by omega]
  rw[CC,du,fu,Nat.mul_add];omega
open Classical in
noncomputable def IY (g:Ζ):Int:=if ww g then 0 else 33
open Classical in
noncomputable def EN (g:Ζ):Pr:=if ww g then B (Gk g)else⟨#[]⟩
def L7(h:ww g):IY g=0:=by unfold IY;rw[fl h]
def O7(h: ¬ww g):IY g=33:=by unfold IY;rw[fa h]
def O8(h:ww g):EN g=B (Gk g):=by unfold EN;rw[fl h]
def Vw(h: ¬ww g):EN g=⟨#[]⟩:=by unfold EN;rw[fa h]
def O6(h:ww g)(i:Nat):(ë++CC 0 (g.take i)).length<=1400000:=by
 obtain⟨h1,h2⟩:=Hp.1 h;have h3:=Vu h1.2 (g.take i) 0 λj hj=>by rw[fg]at hj;rw[jw,kj];exact h2 j oM
 rw[fg]at h3;have h4:ë.length=5:=rfl;rw[du,h4];omega
def Oo{α:Type}{f:α->LU}{c:Nat}{l:List α}(h:∀x∈l,(f x).length<=c)(hn:l.length<=n)(i:Nat):((l.take i).flatMap f).length<=c*n:=by have h1:=Oq (f:=f) (c:=c) (l:=l.take i) λx hx=>h x (kw hx);rw[fg]at h1;exact fj h1 (pz _ oM)
def Zfg{R:Pr->È}(ht:Þ w)(hs:No uh w S s g)(hR:∀w',AI w w'->R (EN g) (IY g) w'):L9 s w R:=by
 unfold L9;have i9:=hs.len;refine An.intro λa w1 x1 d9 _ _=>⟨s,d9.sh.pre (r:=[]) rfl,?_⟩;refine L8.V (Zfe (hs.U x1) λb w2 x2 hb=>⟨b,rfl,λh=>?_,λh=>?_⟩)
 .have hn: ¬ww g:=λhF=>by rw[hb.2 hF]at h;cases h
  have hr:=hR w2 (x1.Z x2);rw[O7 hn,Vw hn]at hr;exact hr
 have hF:ww g:=hb.1 (by simpa using h);obtain⟨e6,d1⟩:=Hp.1 hF;rw[L7 hF,O8 hF]at hR;have b0:=x1.Z x2;intro ab w3 f8 f0;subst f8;have x3:AI w2 w3:=f0▸AI.alloc _ _;have f5:ĕ w2.heap.size [] w3:=f0▸NL w2;have e0:Ã=B ë:=rfl;rw[e0];refine Ie (m:=ë) f5 rfl x3 dC λw4 n4 x4 f6=>⟨_,_,rfl,?_⟩;refine⟨s,d9.at0 (r:=[]) (x2.Z x4) rfl,?_⟩;refine Of.up hs.max (λi w'=>AI w2 w'/\ĕ w2.heap.size (ë++CC 0 (g.take i)) w') ⟨x4,f6⟩ λi w5 j5 hi ⟨x5,b5⟩ hn=>⟨λg3=>?_,λi7=>?_⟩
 .have a5:i<g.length:=oM;obtain⟨ad,c,e,ha,j0,c9,d0,g1⟩:=BR hs a5;have hG:=d1 i a5;have l0:=O6 hF i;rw[Vy a5]at hn;generalize ë++CC 0 (g.take i)=t0 at*;generalize g[i]=x at*;have i5:=c9.len;have i6:=d0.len;have l1:=QQ (i:=i) (x:=x) λh0=>by have:=hG.head;rw[fa h0]at this;exact this.1
  have e9:=λp hp=>R3 (hG.py.pin p hp).1;have b9:=λe he=>Q9 (hG.py.yz e he) e6.2;have lc:=Oo (f:=Ca) e9 hG.py.Xa2;have le:=Oo (f:=CX) b9 hG.py.ġ;refine⟨ad,⟨ha,oM,g3⟩,_,_,_,_,_,_,g1 _ (b0.Z x5),An.Xdf rfl λa6 w6 x6 b6 h4=>join.named λJ hJ=>?_⟩;have i4:=b5.lt;have d3:=x5.Z x6;have c8:∀w7,AI w2 w7->zy 56 w7 a6 [.string x.Y,vi x.v.ma,vi x.v.mi,vi x.v.pa,c.v,e.v]->ĕ w2.heap.size (t0++B6 i x) w7->J w7:=λw7 x7 e2 c6=>by
   rw[hJ];refine⟨c,e2.box.at1 (k:=4) xR rfl,?_⟩;refine Of.up c9.max (λj w'=>AI w2 w'/\zy 56 w' a6 [.string x.Y,vi x.v.ma,vi x.v.mi,vi x.v.pa,c.v,e.v]/\ĕ w2.heap.size ((t0++B6 i x)++(x.vd.take j).flatMap Ca) w') ⟨x7,e2,by simpa using c6⟩ λj w8 h9 hj ⟨x8,e3,c7⟩ g4=>⟨λe7=>?_,λh6=>?_⟩
   .have a0:j<x.vd.length:=oM;obtain⟨f3,f7,_,h8,e5⟩:=CE c9 a0;have g6:=hG.py.pin _ (fe a0);have g2:=e9 _ (fe a0);have q1:=Cn g6.1;have q2:=Dd x.vd[j].v;have f1:=b0.Z x8;have j1:=lc j;refine⟨f3,⟨f7,oM,e7⟩,_,_,_,_,e5 _ f1,An.set rfl λa9 w9 x9 e4 h5=>sf.drew λg9 b2=>⟨_,e4.at0 b2 rfl,?_⟩⟩;have c3:=x9.Z b2;rw[Dx x.vd[j].Y];simp only[CB,AZ,A9];refine⟨by rw[Ac,A6,Al];simp;omega,by rw[Ac,A6,Al];simp;omega,_,_,_,e4.at1 (k:=1) (r:=[]) b2 rfl,tf.intro (DQ.V (vy (v:=x.vd[j].v) (ht.U (f1.Z c3)) λh1 a7=>⟨a7,_,rfl,?_⟩))⟩;simp only[AZ,A9];refine⟨by rw[Ac,Ac,Al];simp;omega,by rw[Ac,A6,Al];simp;omega,?_⟩;have b4:=c3.Z a7;refine Ka (m:=Ca x.vd[j]) (c7.U b4) rfl (x8.Z b4) (by simp only[du];omega) λh2 j3 b7 d5 sj=>⟨_,_,rfl,g4 a0 _ ⟨b7,sj _ _ _ dC oM (e3.U b4),?_⟩⟩;rwa [Ot a0,<-ff]
   have a0:j=x.vd.length:=oM;rw[a0,eh]at c7;have g8:=lc x.vd.length;rw[eh]at g8;refine⟨e,e3.box.at1 (k:=5) (r:=[]) xR rfl,?_⟩;refine Of.up d0.max (λj w'=>AI w2 w'/\ĕ w2.heap.size (((t0++B6 i x)++x.vd.flatMap Ca)++(x.sq.take j).flatMap CX) w') ⟨x8,by simpa using c7⟩ λk w9 i2 hk ⟨x9,a8⟩ g5=>⟨λe8=>?_,λh7=>?_⟩
   .have a4:k<x.sq.length:=oM;obtain⟨d4,d8,g7,d2⟩:=Cz d0 a4;have g0:=hG.py.yz _ (fe a4);have g2:=b9 _ (fe a4);have q1:=Cn g0.1;have q2:=Dy (n:=x.sq[k].to) oM oM;have f2:=b0.Z x9;have j2:=le k;refine⟨d4,⟨d8,oM,e8⟩,_,_,d2 _ f2,An.set rfl λi3 g9 b2 b8 f9=>sf.drew λh1 a7=>⟨_,b8.at0 a7 rfl,?_⟩⟩;have c4:=b2.Z a7;rw[Dx x.sq[k].Y];simp only[CB,AZ,A9];refine⟨by rw[Ac,A6,Al];simp;omega,by rw[Ac,A6,Al];simp;omega,_,b8.at1 (k:=1) (r:=[]) a7 rfl,tf.intro (O3 (n:=x.sq[k].to) oM oM (ht.U (f2.Z c4)) λh2 b7=>⟨b7,_,rfl,?_⟩)⟩;simp only[AZ,A9];refine⟨by rw[Ac,Ac,Al];simp;omega,by rw[Ac,A6,Al];simp;omega,?_⟩;have c5:=c4.Z b7;refine Ka (m:=CX x.sq[k]) (a8.U c5) rfl (x9.Z c5) (by simp only[du];omega) λj6 j4 h3 d6 _=>⟨_,_,rfl,g5 a4 _ ⟨h3,?_⟩⟩;rwa [Ot a4,<-ff]
   .have a4:k=x.sq.length:=oM;rw[a4,eh]at a8;refine hn a5 _ ⟨x9,?_⟩;have e:t0++Gu i x=((t0++B6 i x)++x.vd.flatMap Ca)++x.sq.flatMap CX:=(by unfold Gu;simp only[ff]);rwa [e]
  have d7:=b5.U x6;refine⟨λh0=>?_,λh0=>?_⟩
  .have h0:i=0:=oM;have e1:ϸ=B (B6 i x):=(by rw[h0];rfl);rw[e1];exact Ka (m:=B6 i x) d7 rfl d3 oM λw7 n7 x7 c6 sj=>⟨_,_,rfl,c8 w7 x7 (sj _ _ _ dC oM b6) c6⟩
  .have h0:i≠0:=oM;have hh:=hG.head;rw[fa h0]at hh;have q1:=Cn hh.1;have q2:=Dd x.v;refine sf.drew λw7 x7=>⟨_,b6.box.at0 x7 rfl,?_⟩;rw[Dx x.Y];simp only[CB,AZ,A9];refine⟨by rw[Ac,A6,Al];simp;omega,by rw[Ac,A6,Al];simp;omega,_,_,_,b6.box.at1 (k:=1) x7 rfl,tf.intro (DQ.V (vy (v:=x.v) (ht.U (b0.Z (d3.Z x7))) λw8 x8=>⟨x8,_,rfl,?_⟩))⟩;simp only[AZ,A9];refine⟨by rw[Ac,Ac,Al];simp;omega,by rw[Ac,A6,Al];simp;omega,?_⟩;have e1:B6 i x=(((Nc++x.Y.toList)++[32])++AD x.v)++[10]:=(by unfold B6;rw[fa h0]);rw[e1]at c8 l1;exact Ka (m:=(((Nc++x.Y.toList)++[32])++AD x.v)++[10]) (d7.U (x7.Z x8)) rfl (d3.Z (x7.Z x8)) oM λw9 n9 x9 a8 sj=>⟨_,_,rfl,c8 w9 x9 (sj _ _ _ dC oM (b6.U (x7.Z x8))) a8⟩
 .have a5:i=g.length:=oM;rw[a5,eh]at b5;exact NK b5 rfl x5 λw9 x9=>⟨_,rfl,hR _ (b0.Z x9)⟩
def Zh6{R:Í}(hF:ww g)(hs:No uh w S s g)(hR:∀w',AI w w'->R (B (Gk g)) w'):KW s w R:=by
 unfold KW;have f7:=hs.len;obtain⟨d3,c4⟩:=Hp.1 hF;refine An.intro λa w1 x1 d1 _ _=>?_;refine th.up hs.max (λsw i w'=>AI w1 w'/\sw=B (ë++CC 0 (g.take i))) ⟨AI.refl _,rfl⟩ λsw i w5 g1 hi ⟨x5,hO⟩ hn=>⟨s,d1.at0 (r:=[]) x5 rfl,λe2=>?_,λf6=>?_⟩
 .have a4:i<g.length:=oM;subst hO;obtain⟨ad,c,e,ha,f8,b9,c3,e0⟩:=BR hs a4;have hG:=c4 i a4;have l0:=O6 hF i;rw[Vy a4]at hn;generalize ë++CC 0 (g.take i)=t0 at*;generalize g[i]=x at*;have f3:=b9.len;have f5:=c3.len;have l1:=QQ (i:=i) (x:=x) λh0=>by have:=hG.head;rw[fa h0]at this;exact this.1
  have e3:=λp hp=>R3 (hG.py.pin p hp).1;have d2:=λe he=>Q9 (hG.py.yz e he) d3.2;have lc:=Oo (f:=Ca) e3 hG.py.Xa2;have le:=Oo (f:=CX) d2 hG.py.ġ;refine⟨s,d1.at0 (r:=[]) x5 rfl,ad,⟨ha,oM,e2⟩,_,_,_,_,_,_,e0 _ (x1.Z x5),An.set rfl λa6 w6 x6 a0 e7=>join.named λJ hJ=>?_⟩;have d6:=x1.Z (x5.Z x6);have c9:∀w7,AI w6 w7->J (B (t0++B6 i x)) w7:=λw7 x7=>by
   rw[hJ];refine th.up b9.max (λsw j w'=>AI w7 w'/\sw=B ((t0++B6 i x)++(x.vd.take j).flatMap Ca)) ⟨AI.refl _,by simp⟩ λsw j w8 f1 hj ⟨x8,hO⟩ d4=>⟨c,a0.at1 (k:=4) (x7.Z x8) rfl,λb6=>?_,λe8=>?_⟩
   .have a5:j<x.vd.length:=oM;subst hO;obtain⟨c8,d0,_,f0,b5⟩:=CE b9 a5;have e4:=hG.py.pin _ (fe a5);have q1:=Cn e4.1;have q2:=Dd x.vd[j].v;have f9:=lc j;have e1:(t0++B6 i x)++(x.vd.take (j+1)).flatMap Ca=((((((t0++B6 i x)++(x.vd.take j).flatMap Ca)++Sy)++x.vd[j].Y.toList)++[32])++AD x.vd[j].v)++[10]:=(by rw[Ot a5,Ca];simp only[ff]);rw[e1]at d4;have l2:((t0++B6 i x)++(x.vd.take j).flatMap Ca).length<=2000000:=(by simp only[du];omega);generalize (t0++B6 i x)++(x.vd.take j).flatMap Ca=t1 at*;refine sf.drew λw9 x9=>?_;have c7:=x7.Z (x8.Z x9);have d7:=d6.Z c7;refine⟨by rw[Ac,A6,Al];simp;omega,c,a0.at1 (k:=4) c7 rfl,c8,⟨d0,oM,b6⟩,_,(b5 _ d7).pre rfl,?_⟩;rw[Dx x.vd[j].Y];simp only[CB,AZ,A9];refine⟨by rw[Ac,Ac,Al];simp;omega,by rw[Ac,A6,Al];simp;omega,c,a0.at1 (k:=4) c7 rfl,c8,⟨d0,oM,b6⟩,_,_,_,(b5 _ d7).I (k:=1) (r:=[]) rfl,tf.intro (EH.V (Jj (v:=x.vd[j].v) λc5 a9=>⟨a9,_,rfl,?_⟩))⟩;simp only[AZ,A9];exact⟨by rw[Ac,Ac,Al];simp;omega,by rw[Ac,A6,Al];simp;omega,d4 a5 _ c5 ⟨x8.Z (x9.Z a9),rfl⟩⟩
   have a5:j=x.vd.length:=oM;rw[a5,eh]at hO;subst hO;have e6:=lc x.vd.length;rw[eh]at e6;have c6:=x7.Z x8;refine th.up c3.max (λsw j w'=>AI w8 w'/\sw=B (((t0++B6 i x)++x.vd.flatMap Ca)++(x.sq.take j).flatMap CX)) ⟨AI.refl _,by simp⟩ λsw k w9 f2 hk ⟨x9,hO⟩ d5=>⟨e,a0.at1 (k:=5) (r:=[]) (c6.Z x9) rfl,λb7=>?_,λe9=>?_⟩
   .have a7:k<x.sq.length:=oM;subst hO;obtain⟨b2,b4,e5,a8⟩:=Cz c3 a7;have d9:=hG.py.yz _ (fe a7);have q1:=Cn d9.1;have q2:=Dy (n:=x.sq[k].to) oM oM;have g0:=le k;have e1:((t0++B6 i x)++x.vd.flatMap Ca)++(x.sq.take (k+1)).flatMap CX=(((((((t0++B6 i x)++x.vd.flatMap Ca)++(x.sq.take k).flatMap CX)++Sx)++x.sq[k].Y.toList)++[32])++dec x.sq[k].to)++[10]:=(by rw[Ot a7,CX];simp only[ff]);rw[e1]at d5;have l2:(((t0++B6 i x)++x.vd.flatMap Ca)++(x.sq.take k).flatMap CX).length<=2000000:=(by simp only[du];omega);generalize ((t0++B6 i x)++x.vd.flatMap Ca)++(x.sq.take k).flatMap CX=t1 at*;refine sf.drew λg2 d8=>?_;have b0:=c6.Z (x9.Z d8);have b8:=d6.Z b0;refine⟨by rw[Ac,A6,Al];simp;omega,e,a0.at1 (k:=5) (r:=[]) b0 rfl,b2,⟨b4,oM,b7⟩,_,(a8 _ b8).pre rfl,?_⟩;rw[Dx x.sq[k].Y];simp only[CB,AZ,A9];refine⟨by rw[Ac,Ac,Al];simp;omega,by rw[Ac,A6,Al];simp;omega,e,a0.at1 (k:=5) (r:=[]) b0 rfl,b2,⟨b4,oM,b7⟩,_,(a8 _ b8).I (k:=1) (r:=[]) rfl,tf.intro (EG.V (xz 1000 (n:=x.sq[k].to) oM oM oM λc5 a9=>⟨a9,_,rfl,?_⟩))⟩;simp only[AZ,A9];exact⟨by rw[Ac,Ac,Al];simp;omega,by rw[Ac,A6,Al];simp;omega,d5 a7 _ c5 ⟨x9.Z (d8.Z a9),rfl⟩⟩
   .have a7:k=x.sq.length:=oM;rw[a7,eh]at hO;subst hO;refine hn a4 _ w9 ⟨x5.Z (x6.Z (c6.Z x9)),?_⟩;unfold Gu;simp only[ff]
  refine⟨λh0=>?_,λh0=>?_⟩
  .have h0:i=0:=oM;have e1:ϸ=B (B6 i x):=(by rw[h0];rfl);rw[e1,A9];exact⟨by rw[Ac,Ac,Al];omega,c9 w6 xR⟩
  .have h0:i≠0:=oM;have hh:=hG.head;rw[fa h0]at hh;have q1:=Cn hh.1;have q2:=Dd x.v;refine sf.drew λw7 x7=>⟨by rw[Ac,A6,Al];simp;omega,_,a0.at0 x7 rfl,?_⟩;rw[Dx x.Y];simp only[CB,AZ,A9];refine⟨by rw[Ac,Ac,Al];simp;omega,by rw[Ac,A6,Al];simp;omega,_,_,_,a0.at1 (k:=1) x7 rfl,tf.intro (EH.V (Jj (v:=x.v) λw8 x8=>⟨x8,_,rfl,?_⟩))⟩;simp only[AZ,A9];refine⟨by rw[Ac,Ac,Al];simp;omega,by rw[Ac,A6,Al];simp;omega,?_⟩;have e1:t0++B6 i x=((((t0++Nc)++x.Y.toList)++[32])++AD x.v)++[10]:=(by unfold B6;rw[fa h0];simp only[ff]);have hj:=c9 w8 (x7.Z x8);rw[e1]at hj;exact hj
 .have a4:i=g.length:=oM;rw[a4,eh]at hO;subst hO;exact hR w5 (x1.Z x5)
def WA{R:Pr->È}(hs:No uh w S s g)(hR:∀w',AI w w'->R (EN g) (IY g) w'):IG s w R:=by
 refine An.intro λa w1 x1 a0 _ _=>⟨s,a0.sh.pre (r:=[]) rfl,?_⟩;refine KT.V (Zh3 (hs.U x1) λb w2 x2 hb=>⟨b,rfl,λh=>?_,λh=>?_⟩)
 .have hn: ¬ww g:=λhF=>by rw[hb.2 hF]at h;cases h
  have hr:=hR w2 (x1.Z x2);rw[O7 hn,Vw hn]at hr;exact hr
 .have hF:ww g:=hb.1 (by simpa using h);refine⟨s,a0.at0 (r:=[]) x2 rfl,KW.V (Zh6 hF (hs.U (x1.Z x2)) λw3 x3=>⟨_,rfl,?_⟩)⟩;have hr:=hR w3 (x1.Z (x2.Z x3));rw[L7 hF,O8 hF]at hr;exact hr
def VI{T:Ε}{g:Ζ}(hG:C6 g):∀(f n:Nat){s:Ò}{M:Α},Ï T g s->Ek T g f n s=some M->M.length=T.length/\∀k∈M,-1<=k/\k<(g.length:Int)
 |0,n,s,M,_,h=>by cases h
 |f+1,n,s,M,hI,h=>by
  cases h1:s.sy[n]? with
  |none=>rw[Rh h1]at h;cases h;refine⟨hI.len,λk hk=>?_⟩;obtain⟨i,hi,e⟩:=gc.1 hk;exact hI.low i k (by rw[dt hi,e])
  |some i=>
   cases h2:s.m[i]? with
   |none=>rw[Ek,h1]at h;dsimp only at h;rw[h2]at h;cases h
   |some k=>
    rw[Ri h1 h2]at h;cases h3:DO T g i s (A2 g k.toNat)with
    |none=>rw[h3]at h;cases h
    |some t=>
     rw[h3]at h;have a0:∀e∈A2 g k.toNat,1<=e.to/\e.to<(g.length:Int):=λe he=>by
      unfold A2 at he;cases hx:g[k.toNat]? with
      |none=>rw[hx]at he;cases he
      |some x=>rw[hx]at he;exact hG.2 x (ik hx) e he
     exact VI hG f (n+1) (hI.sq a0 h3).1 h
def VJ{T:Ε}(hT:vj T)(hG:C6 g)(h:ā T g=some M):M.length=T.length:=(VI hG _ _ (Ï.start (by have:=hT.len;omega) hG.1) h).1
structure zt(T:Ε)(g:Ζ):Prop where
 Ħ:vj T
 to:C6 g
 map:ā T g=some (T.map uf.py)
 Xcm:vq (λd:uf=>B (Ar d.BY)) T
def zt.e{T:Ε}(h:zt T g):D3 T g=0:=Zfy h.Ħ h.to h.map
def Wy{T:Ε}(hT:vj T)(hG:C6 g)(hM:ā T g=some M):zt T g↔M=T.map uf.py/\vq (λd:uf=>B (Ar d.BY)) T:=by
 constructor
 .intro h;have:=h.map;rw[hM,eu]at this;exact⟨this,h.Xcm⟩
 .rintro⟨h1,h2⟩;exact⟨hT,hG,by rw[hM,h1],h2⟩
def OO{T:Ε}{x:uf}{m:Int}(hM:M.length=T.length)(hi:i<T.length)(hx:T[i]=x)(hm:M[i]=m)(hI:M.take i=(T.map uf.py).take i)(h:m=x.py):M.take (i+1)=(T.map uf.py).take (i+1):=by rw[dw oM,dw (by simpa using hi),hI,ng,hm,hx,h]
def Zhe{e v:Sl}{T:Ε}(ht:Þ w)(hS:Old S w)(hs:No ve w S s T)(hg:No uh w Q u g)(hb:∀d∈T,d.BY.length<=4000000000000)
  (hR:∀(b:Bool) w',AI w w'->(b=true↔zt T g)->R b w'):Lw d e o v u s pr w R:=by
 unfold Lw;have d8:=hs.len;have hm:=hs.max;have a5:∀w',AI w w'-> ¬zt T g->R false w':=λw' hx h=>hR false w' hx ⟨nO,λhf=>fm hf h⟩;refine An.intro λa w1 x1 a9 _ _=>⟨s,a9.at1 (k:=5) xR rfl,u,a9.at1 (k:=4) xR rfl,?_⟩;refine Nn.V (Zm5 (ht.U x1) (hS.U x1.size) (hs.U x1) (hg.U x1) hb (λm M w2 x2 hT hG hM uy=>⟨m,0,rfl,λh=>fm rfl h,λ_=>?_⟩) λw2 x2 c4=>⟨Sl.nil,_,rfl,λ_=>a5 w2 (x1.Z x2) λhF=>c4 hF.e,λh=>fm c4 h⟩);have c5:=x1.Z x2;have a8:=VJ hT hG hM;have d7:=uy.len;have a6:=Wy hT hG hM;refine⟨s,a9.at1 (k:=5) x2 rfl,?_⟩;refine Of.up hm (λi w'=>AI w2 w'/\M.take i=(T.map uf.py).take i/\vq (λd:uf=>B (Ar d.BY)) (T.take i)) ⟨AI.refl _,rfl,.nil⟩ λi w3 d9 hi ⟨x3,hI,hK⟩ hn=>⟨λd3=>?_,λd6=>?_⟩
 .have a0:i<T.length:=oM;obtain⟨ad,ps,dd,ee,oo,ha,_,_,hp,_,_,_,hc⟩:=vg hs a0;obtain⟨c7,d5,_,_,_,d0,_,_,d4,_,_,_,d2⟩:=vg hs (n:=i - 1) oM;have d1:=hb _ (fe a0);have b9:=hb _ (fe (show i - 1<T.length by omega));obtain⟨c8,b7,c3⟩:=IP uy (i:=i) oM;have c6:=c5.Z x3;refine⟨ad,⟨ha,oM,d3⟩,ps,T[i].td.Y,T[i].td.v.ma,T[i].td.v.mi,T[i].td.v.pa,dd,ee,oo,T[i].py,by rw[dx];exact hc _ c6,An.set rfl λa4 w4 x4 b8 _=>sf.drew λw5 x5=>⟨c8,⟨b7,oM,oM⟩,M[i],by rw[dx];exact c3 _ (x3.Z (x4.Z x5)),_,b8.at1 (k:=8) (r:=[]) x5 rfl,IN (IN ?_)⟩⟩;have b0:=x4.Z x5;have a7:=c6.Z b0;have c9:(M[i]==T[i].py)=decide (M[i]=T[i].py):=rfl;rw[c9];by_cases h0:i=0
  .subst h0;refine⟨s,λh=>by simp at h,ad,λh=>by simp at h,ps,λh=>by simp at h,ps,λh=>by simp at h,?_⟩;refine IS.intro ⟨#[]⟩ (λh=>by simp at h) λb4 w6 x6 h6=>IS.intro ⟨#[]⟩ (λh=>by simp at h) λb5 w7 x7 h7=>?_;have e1:((!decide (M[0]=T[0].py))||(decide ((0:Int)<((0:Nat):Int))&& !Ak b4 b5))= !decide (M[0]=T[0].py):=by simp
   rw[e1];have b6:=a7.Z (x6.Z x7);refine⟨λh=>a5 w7 b6 λhF=>?_,λh=>hn a0 w7 ⟨x3.Z (b0.Z (x6.Z x7)),OO a8 a0 rfl rfl hI (by simpa using h),Js⟩⟩;have h1:=(a6.1 hF).1;simp[h1]at h
  .have h1:1<=i:=oM;rw[Nx h1 a0 hm,fy (show(0:Int)<(i:Int) by omega)];refine⟨s,λ_=>a9.at1 (k:=5) (x2.Z (x3.Z b0)) rfl,c7,λ_=>⟨d0,oM,oM⟩,d5,λ_=>by rw[dx];exact(d2 _ a7).pre rfl,ps,λ_=>b8.at0 x5 rfl,?_⟩;refine IS.intro (B (Ar T[i - 1].BY)) (λ_ q hq=>tf.intro (Ew.V (HH (d4.U a7) b9 λw6 x6=>⟨x6,_,rfl,hq w6 x6⟩))) λb4 w6 x6 h6=>?_;refine IS.intro (B (Ar T[i].BY)) (λ_ q hq=>Ew.V (HH (hp.U (a7.Z x6)) d1 λw7 x7=>⟨_,rfl,hq w7 x7⟩)) λb5 w7 x7 h7=>?_;have b6:=a7.Z (x6.Z x7);have b2:((!decide (M[i]=T[i].py))||(true&& !Ak b4 b5))=false↔M[i]=T[i].py/\Ak (B (Ar T[i - 1].BY)) (B (Ar T[i].BY))=true:=by
    by_cases hc:M[i]=T[i].py
    .rw[fy hc]at h6 h7 ⊢;rw[h6 rfl,h7 rfl];simp[hc]
    .rw[fq hc];simp[hc]
   refine⟨λh=>a5 w7 b6 λhF=>?_,λh=>?_⟩
   .obtain⟨k1,k2⟩:=a6.1 hF;rw[b2.2 ⟨by simp[k1],?_⟩]at h
    .cases h
    .cases hb:Ak (B (Ar T[i - 1].BY)) (B (Ar T[i].BY))with
     |true=>rfl
     |false=>exact fm k2 (Jr (f:=λd:uf=>B (Ar d.BY)) h1 a0 hb)
   .obtain⟨k1,k2⟩:=b2.1 h;exact hn a0 w7 ⟨x3.Z (b0.Z (x6.Z x7)),OO a8 a0 rfl rfl hI k1,Jt (f:=λd:uf=>B (Ar d.BY)) h1 a0 hK k2⟩
 .have a0:i=T.length:=oM;rw[a0,eh]at hK;rw[a0,<-a8,eh,a8,<-ec (f:=uf.py),eh]at hI;exact hR true w3 (c5.Z x3) ⟨λ_=>a6.2 ⟨hI,hK⟩,λ_=>rfl⟩
structure zi(s:á):Prop where
 Xbs:AF s.m=true
 lock:ww s.g
 ď:zt s.T s.g
def Zii{e v:Sl}{T:Ε}(hd:No ru w S' d m.ss)(he:No ru w S' e m.uw)(ho:No ru w S' o m.uq)(hv:No ru w S' v m.sd)
  (hS:Old S w) (hs:No ve w S s T) (hg:No uh w Q u g) (hb:∀d∈T,d.BY.length<=4000000000000)
  (hR:∀(b:Bool) w',AI w w'->(b=true↔zi ⟨m,g,T,pr⟩)->R b w'):Ll d e o v u s pr w R:=by
 unfold Ll;have d9:=hs.len;have hm:=hs.max;have a7:∀w',AI w w'-> ¬zi ⟨m,g,T,pr⟩->R false w':=λw' hx h=>hR false w' hx ⟨nO,λhf=>fm hf h⟩;refine An.intro λa w1 x1 a8 _ _=>⟨d,e,o,v,a8.at0 xR rfl,?_⟩;refine IE.V (W8 (hd.U x1) (he.U x1) (ho.U x1) (hv.U x1) λw2 x2=>⟨_,_,rfl,u,a8.at1 (k:=4) x2 rfl,?_⟩);have b8:=x1.Z x2;refine IG.V (WA (hg.U b8) λw3 x3=>⟨_,_,rfl,IN ⟨λhc=>?_,λhc=>?_⟩⟩)
 .refine a7 w3 (b8.Z x3) λhF=>?_;have h1:DN m=0:=by unfold DN;rw[fl hF.Xbs]
  rw[h1,L7 hF.lock]at hc;cases hc
 have b0:=b8.Z x3;rw[gd]at hc;have d4:AF m=true:=by
  cases hm:AF m with
  |true=>rfl
  |false=>have h1:DN m=25:=(by unfold DN;rw[hm];rfl);rw[h1]at hc;exact fm hc.1 dC
 have d2:ww g:=iy λhn=>by rw[O7 hn]at hc;exact fm hc.2 dC
 refine⟨s,a8.at1 (k:=5) (x2.Z x3) rfl,u,a8.at1 (k:=4) (x2.Z x3) rfl,?_⟩;have a9:∀w',AI w3 w'->sh w' (a.add 5) [s.v]:=λw' hx=>a8.at1 (k:=5) (x2.Z (x3.Z hx)) rfl;refine Lj.V (Zig (hS.U b0.size) (hs.U b0) (hg.U b0) hb (λt M w4 x4 hT hG hM uy=>⟨t,0,rfl,λh=>fm rfl h,λ_=>?_⟩) λw4 x4 c5=>⟨Sl.nil,_,rfl,λ_=>a7 w4 (b0.Z x4) λhF=>c5 hF.ď.e,λh=>fm c5 h⟩);have c6:=b0.Z x4;have b2:=VJ hT hG hM;have d8:=uy.len;have b4:=Wy hT hG hM;have a4:zi ⟨m,g,T,pr⟩↔M=T.map uf.py/\vq (λd:uf=>B (Ar d.BY)) T:=⟨λh=>b4.1 h.ď,λh=>⟨d4,d2,b4.2 h⟩⟩;refine Of.up (N:=T.length) hm (λi w'=>AI w4 w'/\M.take i=(T.map uf.py).take i/\vq (λd:uf=>B (Ar d.BY)) (T.take i)) ⟨AI.refl _,rfl,.nil⟩ λi w5 e0 hi ⟨x5,hI,hK⟩ hn=>⟨λd3=>sf.drew λw6 x6=>?_,λd7=>?_⟩
 .have a0:i<T.length:=oM;obtain⟨ad,ps,dd,ee,oo,ha,_,_,hp,_,_,_,hc⟩:=vg hs a0;obtain⟨c7,d6,_,_,_,d0,_,_,d5,_,_,_,d1⟩:=vg hs (n:=i - 1) oM;obtain⟨c8,c3,c4⟩:=IP uy (i:=i) oM;have a6:=x5.Z x6;have a5:=c6.Z a6;have lp:sh w6 (ad.add (((i:Nat):Int).toNat*9)) [ps.v]:=by rw[dx];exact(hc _ a5).pre rfl
  refine⟨c8,⟨c3,oM,d3⟩,M[i],by rw[dx];exact c4 _ a6,s,a9 _ (x4.Z a6),ad,⟨ha,oM,oM⟩,T[i].py,by rw[dx];exact(hc _ a5).I (k:=8) (r:=[]) rfl,IN (IN ?_)⟩;have c9:(M[i]==T[i].py)=decide (M[i]=T[i].py):=rfl;rw[c9];by_cases h0:i=0
  .subst h0;refine⟨s,λh=>by simp at h,ad,λh=>by simp at h,ps,λh=>by simp at h,s,λh=>by simp at h,ad,λh=>by simp at h,ps,λh=>by simp at h,?_⟩;refine IS.intro ⟨#[]⟩ (λh=>by simp at h) λb6 w7 x7 h7=>IS.intro ⟨#[]⟩ (λh=>by simp at h) λb7 w8 x8 h8=>?_;have e1:((!decide (M[0]=T[0].py))||(decide ((0:Int)<((0:Nat):Int))&& !Ak b6 b7))= !decide (M[0]=T[0].py):=by simp
   rw[e1];have b9:=a5.Z (x7.Z x8);refine⟨λh=>a7 w8 b9 λhF=>?_,λh=>hn a0 w8 ⟨a6.Z (x7.Z x8),OO b2 a0 rfl rfl hI (by simpa using h),Js⟩⟩;have h1:=(a4.1 hF).1;simp[h1]at h
  .have h1:1<=i:=oM;rw[Nx h1 a0 hm,fy (show(0:Int)<(i:Int) by omega)];refine⟨s,λ_=>a9 _ (x4.Z a6),c7,λ_=>⟨d0,oM,oM⟩,d6,λ_=>by rw[dx];exact(d1 _ a5).pre rfl,s,λ_=>a9 _ (x4.Z a6),ad,λ_=>⟨ha,oM,oM⟩,ps,λ_=>lp,?_⟩;refine IS.intro (B (Ar T[i - 1].BY)) (λ_ q hq=>tf.intro (Gf.V (OS (d5.U a5) λw7 x7=>⟨x7,_,rfl,hq w7 x7⟩))) λb6 w7 x7 h7=>?_;refine IS.intro (B (Ar T[i].BY)) (λ_ q hq=>Gf.V (OS (hp.U (a5.Z x7)) λw8 x8=>⟨_,rfl,hq w8 x8⟩)) λb7 w8 x8 h8=>?_;have b9:=a5.Z (x7.Z x8);have b5:((!decide (M[i]=T[i].py))||(true&& !Ak b6 b7))=false↔M[i]=T[i].py/\Ak (B (Ar T[i - 1].BY)) (B (Ar T[i].BY))=true:=by
    by_cases hc:M[i]=T[i].py
    .rw[fy hc]at h7 h8 ⊢;rw[h7 rfl,h8 rfl];simp[hc]
    .rw[fq hc];simp[hc]
   refine⟨λh=>a7 w8 b9 λhF=>?_,λh=>?_⟩
   .obtain⟨k1,k2⟩:=a4.1 hF;rw[b5.2 ⟨by simp[k1],?_⟩]at h
    .cases h
    .cases hb:Ak (B (Ar T[i - 1].BY)) (B (Ar T[i].BY))with
     |true=>rfl
     |false=>exact fm k2 (Jr (f:=λd:uf=>B (Ar d.BY)) h1 a0 hb)
   .obtain⟨k1,k2⟩:=b5.1 h;exact hn a0 w8 ⟨a6.Z (x7.Z x8),OO b2 a0 rfl rfl hI k1,Jt (f:=λd:uf=>B (Ar d.BY)) h1 a0 hK k2⟩
 .have a0:i=T.length:=oM;rw[a0,eh]at hK;rw[a0,<-b2,eh,b2,<-ec (f:=uf.py),eh]at hI;exact hR true w5 (c6.Z x5) ⟨λ_=>a4.2 ⟨hI,hK⟩,λ_=>rfl⟩
end Go.Hal
/-
 DERIVED:THE SHELF's CONTRACTS AT THIS DUMP,IN PLAIN WORDS (tools/lay-plain.mjs sw of 'YtgolaibmophnjaaGreatDoorLay6.lean',which tools/lay-shelf.mjs wrote):THE SAME DECLARATIONS UNDER THE SAME NAMES:'import','namespace','open','def','theorem' AND NOTHING ELSE:no command of the shelf's:FOR A HAND-IN. Each laying:the table of numbers ('.._ren') and one theorem,a field a fact of the dump's uy or the kernel's comparison;each contract:ONE APPLICATION.
-/
namespace Go.Proofs
def Tryz.Xal:Go.Shelf.Ren:=⟨λ|6=>101|15=>106|14=>161|28=>171|29=>172|20=>249|21=>250|22=>251|23=>252|24=>253|25=>254|26=>255|27=>256|46=>310|47=>258|48=>259|49=>311|50=>312|57=>350|n=>n,λ|22=>66|24=>3|25=>182|3=>3|39=>185|0=>0|53=>249|55=>251|4=>4|46=>242|45=>241|50=>246|5=>5|9=>9|66=>317|70=>321|76=>366|77=>367|n=>n,λ|n=>n⟩
def Tryz.Xcz:Go.Proofs.SlLaysF.n6 prog Tryz.Xal:=by repeat' first|kernel_rfl|exact Fx kR kR|(intro w;kernel_rfl)|constructor
def Tryz.Xah:Go.Shelf.Ren:=⟨λ|6=>46|15=>106|14=>105|28=>171|29=>172|20=>163|21=>164|22=>165|23=>166|24=>167|25=>168|26=>169|27=>170|46=>257|47=>258|48=>259|49=>260|50=>261|57=>313|n=>n,λ|22=>76|24=>115|25=>121|3=>3|39=>185|0=>0|53=>249|55=>251|4=>4|46=>242|45=>241|50=>246|5=>5|9=>9|66=>317|70=>321|76=>366|77=>367|n=>n,λ|n=>n⟩
def Tryz.Xb0:Go.Proofs.SlLaysF0.n6 prog Tryz.Xah:=by repeat' first|kernel_rfl|exact Fx kR kR|(intro w;kernel_rfl)|constructor
def Tryz.Xaf:Go.Shelf.Ren:=⟨λ|6=>64|15=>106|14=>134|28=>171|29=>172|20=>216|21=>217|22=>218|23=>219|24=>220|25=>221|26=>222|27=>223|46=>293|47=>258|48=>259|49=>294|50=>295|57=>338|n=>n,λ|22=>38|24=>61|25=>144|3=>3|39=>185|0=>0|53=>249|55=>251|4=>4|46=>242|45=>241|50=>246|5=>5|9=>9|66=>317|70=>321|76=>366|77=>367|n=>n,λ|n=>n⟩
def Tryz.Xby:Go.Proofs.SlLaysF0.n6 prog Tryz.Xaf:=by repeat' first|kernel_rfl|exact Fx kR kR|(intro w;kernel_rfl)|constructor
def Tryz.Ţ:Go.Shelf.Ren:=⟨λ|6=>101|15=>106|14=>161|28=>171|29=>172|20=>249|21=>250|22=>251|23=>252|24=>253|25=>254|26=>255|27=>256|46=>310|47=>258|48=>259|49=>311|50=>312|57=>350|n=>n,λ|22=>66|24=>3|25=>182|3=>3|39=>185|0=>0|53=>249|55=>251|4=>4|46=>242|45=>241|50=>246|5=>5|9=>9|66=>317|70=>321|76=>366|77=>367|n=>n,λ|n=>n⟩
def Tryz.Xba:Go.Proofs.SlLaysF0.n6 prog Tryz.Ţ:=by repeat' first|kernel_rfl|exact Fx kR kR|(intro w;kernel_rfl)|constructor
end Go.Proofs
namespace Go.Hal
open Go.Lib Go.Sort
section
variable {α:Type} [Inhabited α] (fn:α->Int)
def Zdu{g:Nat}{l:List α}{tail:LV}(h:tv EM w g (l.map fn) tail):Go.Sort.Holds (λx=>Value.int .i64 (fn x)) w g 0 l.toArray:=by
 obtain⟨t,_,_,hb⟩:=h;rw[QL]at hb;intro j hj;have a0:j<l.length:=by simpa using hj
 constructor
 .simp only[World.cell?,hb,kj];rw[kh,gl (by rwa [ec,ec]),gu,gu,dt a0,getElem!_pos l.toArray j hj];rfl
 .simp[World.frozen?,hb]
def WV{g:Nat}{l l':List α}{tail:LV}{os:Array Obj}(h:tv EM w g (l.map fn) tail)(hl:l'.length=l.length):
  uv g w (sortWorld (λx=>Value.int .i64 (fn x)) w g 0 n l'.toArray os)/\tv EM (sortWorld (λx=>Value.int .i64 (fn x)) w g 0 n l'.toArray os) g (l'.map fn) tail/\w.drawn<=(sortWorld (λx=>Value.int .i64 (fn x)) w g 0 n l'.toArray os).drawn:=by
 obtain⟨t,_,_,hb⟩:=h;have a4:g<w.heap.size:=(fb.1 hb).1;have hh:(sortWorld (λx=>Value.int .i64 (fn x)) w g 0 n l'.toArray os).heap=w.heap.modify g (onCells (putCells (λx=>Value.int .i64 (fn x)) 0 l'.toArray))++os:=rfl;refine⟨⟨by rw[hh];simp,rfl,rfl,rfl,λb a0 a5=>?_⟩,⟨t,rfl,rfl,?_⟩,?_⟩
 .rw[hh,jz (by simpa using a0),nf,fa (Ne.H a5)]
 .rw[hh,jz (by simpa using a4),nf,fl rfl,hb];simp only[jp,onCells,eu,Obj.cells.injEq,and_true];apply Array.ext_getElem?;intro j;rw[QL,QL];simp only[putCells,Array.getElem?_mapIdx,kh,ib,true_and,kj,rq,je];by_cases hj:j<l'.length
  .rw[gl (by rwa [ec,ec,<-hl]),gl (by rwa [ec,ec]),gu,gu,gu,gu,dt (by rwa [<-hl]),dt hj];simp only[jp,fl hj];rw[getElem!_pos l'.toArray j (by simpa using hj)];rfl
  .rw[ii (by rw[ec,ec,<-hl];omega),ii (by rw[ec,ec];omega),ec,ec,ec,ec,hl];cases tail[j - l.length]? with
   |none=>rfl
   |some v=>simp only[jp];rw[fa (by rwa [<-hl])]
 .show w.drawn<=w.drawn+n;omega
def Zkm{ρ:Ren}(L:SlLaysF.n6 P ρ)(cf:α->α->Int)(hO:SWO (ltOf cf))(gf:Nat)(cb:Γ)(eg:∀args w,(callFunc gf args).run P w= .ok (.enter gf args) w){g cap:Nat}{l:List α}{tail:LV}
  (a4:∀w0 x y,uv g w w0->w.drawn<=w0.drawn->Calls P gf (#[vi (fn x),vi (fn y)]++cb) w0 λe w'=>e= .returned (vi (cf x y))/\∃q a9,w'=grow (w0.drewN q) a9)
  (hR:tv EM w g (l.map fn) tail) (a8:l.length<4611686018427387904)  {F:Nat} (hF:ρ.f 6=F)
  (hK:∀(l':List α) w',l'.Perm l->l'.Pairwise (λx y=>¬cf y x<0)->uv g w w'->tv EM w' g (l'.map fn) tail->K (.tuple #[]) w'):sx P F [Sl.v ⟨some ⟨g,0,none⟩,l.length,cap⟩,.func (.func gf) #[] cb] w K:=by
 subst hF;have a6:g<w.heap.size:=by obtain⟨t,_,_,hb⟩:=hR;exact(fb.1 hb).1
 have h1:OneCell (λx:α=>Value.int .i64 (fn x)):=λx=>rfl;have hC:CmpLays1 P gf cb (λx=>Value.int .i64 (fn x)) cf g 0 l.toArray.size w:=λm os dk hs x y=>by have:=WV fn hR (n:=m) (os:=os) (l':=dk.toList) (by simpa using hs);exact a4 _ x y this.1 this.2.2
 have h:=Any.slices_SortFunc L (λx=>Value.int .i64 (fn x)) h1 cf hO gf cb g 0 cap l.toArray w eg hC (Zdu fn hR) a6 (by simpa using a8);refine h.O λe w' ⟨he,d',n,os,hp,hs,hw⟩=>⟨_,he,?_⟩;have a7:=Wx hp;have a5:d'.toList.length=l.length:=by simpa using hp.1
 have a0:=WV fn hR (n:=n) (os:=os) (l':=d'.toList) a5;rw[mm,<-hw]at a0;exact hK d'.toList w' (by simpa using a7) ((Xg hp.1 hs).imp λh=>by simpa[ltOf]using h) a0.1 a0.2.1
end
def FS(T:Ε)(home:As)(i:Nat):Bool:=match T[i]? with
 |some d=>decide (d.BY.length=home.length+1)&&decide (d.BY.take home.length=home)
 |none=>false
def QR{T:Ε}{home:As}(h:i<T.length):FS T home i=(decide (T[i].BY.length=home.length+1)&&decide (T[i].BY.take home.length=home)):=by unfold FS;rw[dt h]
def Zd3{T:Ε}{home:As}(h:FS T home i=true):∃(hi:i<T.length),home.length<T[i].BY.length:=by
 by_cases hi:i<T.length
 .rw[QR hi,dz,iv]at h;exact⟨hi,oM⟩
 .unfold FS at h;rw[iw oM]at h;cases h
def BX(T:Ε)(home:As)(n:Nat):Wd:=(List.range n).filter (FS T home)
def Vb(T:Ε)(a0:As)(n:Nat):BX T a0 (n+1)=if FS T a0 n then BX T a0 n++[n]else BX T a0 n:=by unfold BX;rw[List.range_succ,lf];cases h:FS T a0 n<;>simp[h]
def QS(T:Ε)(a0:As)(n:Nat):(BX T a0 n).length<=n:=by unfold BX;have:=jf (FS T a0) (List.range n);rwa [List.length_range]at this
def Jd(T:Ε)(k i:Nat):Pr:=match T[i]? with
 |some d=>d.BY.getD k ⟨#[]⟩
 |none=>⟨#[]⟩
def Zf4{T:Ε}{k:Nat}(h:i<T.length)(hk:k<T[i].BY.length):Jd T k i=T[i].BY[k]:=by unfold Jd;rw[dt h];simp[hk]
def NO(T:Ε)(k:Nat)(a b:Nat):Int:=AM (A8 (Jd T k a) (Jd T k b)) (BD a b)
def Zm(T:Ε)(k:Nat):wg (NO T k):=(DJ (Jd T k)).or (ÿ.Ġ λn:Nat=>(n:Int))
def Va{hm:Sl}{T:Ε}{c0 c1:LP}{k:Nat}{R:Í}(hi:i<T.length)(hk:k<T[i].BY.length)(hl:hm.len=k)(hs:No ve w S s T)(h0:AT w c0 [s.v])(h1:AT w c1 [hm.v])(hR:∀w',Gr w w'->R (Jd T k i) w'):JG (i:Int) c0 c1 w R:=by unfold JG;subst hl;have a6:=hs.len;obtain⟨ad,ps,dd,ee,oo,ha,_,_,hp,_,_,_,hc⟩:=vg hs hi;have a5:=hp.len;refine sf.gr λw1 x1=>⟨s,h0.at0 (r:=[]) x1.U rfl,ad,⟨ha,oM,oM⟩,ps,by rw[dx];exact(hc _ x1.U).pre rfl,hm,h1.at0 (r:=[]) x1.U rfl,?_⟩;obtain⟨al,a0,_,a4⟩:=FI hp hk;refine⟨al,⟨a0,oM,oM⟩,_,by rw[dx];exact a4 _ x1.U,?_⟩;have:=hR w1 x1;rw[Zf4 hi hk]at this;exact this
def U0:Bm prog 100:=enters_of func100 kR rfl
def Zbs:Bm prog 102:=enters_of func102 kR rfl
def Zd7{hm:Sl}{T:Ε}{c0 c1 c2:LP}{k:Nat}{R:È}(hi:i<T.length)(a6:k<T[i].BY.length)(hj:j<T.length)(a7:k<T[j].BY.length)(hl:hm.len=k)(hs:No ve w S s T)(h0:AT w c0 [s.v])(h1:AT w c1 [hm.v])
  (h2:AT w c2 [Value.func (.func 100) #[] #[Value.pointer (some c0),Value.pointer (some c1)]]) (hR:∀w',Gr w w'->R (NO T k i j) w'):Ng (i:Int) (j:Int) c2 w R:=by
 refine sf.gr λw1 x1=>⟨_,h2.at0 (r:=[]) x1.U rfl,_,h2.at0 (r:=[]) x1.U rfl,_,_,rfl,U0,JG.V (Va hi a6 hl (hs.U x1.U) (h0.U x1.U) (h1.U x1.U) λw2 x2=>⟨x2.U,_,rfl,_,_,rfl,U0,?_⟩)⟩;have a0:=x1.Z x2;refine JG.V (Va hj a7 hl (hs.U a0.U) (h0.U a0.U) (h1.U a0.U) λw3 x3=>⟨_,rfl,Fd ⟨_,rfl,Ea.V (yy ⟨_,rfl,An.gr λa4 w4 x4 a5=>?_⟩)⟩⟩);exact EB.V (TY (NN (l:=[_,_]) a5 sI) ⟨_,rfl,hR _ (a0.Z (x3.Z x4))⟩)
def YB(T:Ε)(k i:Nat):Prop:=∃hi:i<T.length,k<T[i].BY.length
abbrev PJ(T:Ε)(k:Nat):Type:={i:Nat//YB T k i}
def XC{P:Nat->Prop}:∀(l:Wd),(∀i∈l,P i)->∃z:List {i:Nat//P i},z.map Subtype.val=l
 | [],_=>⟨[],rfl⟩
 |i::l,h=>by obtain⟨z,hz⟩:=XC l λj hj=>h j (.tail _ hj);exact⟨⟨i,h i (.head _)⟩::z,by rw[io,hz]⟩
def Zd8{T:Ε}{at':Nat}{R:Sl->Wp}(hS:Old S w)(hs:No ve w S s T)(hi:at'<T.length)(hT:T.length<=1000000)
  (hR:∀t l w',AI w w'->l.Perm (BX T T[at'].BY T.length)->tq EM 8 w' w.heap.size t (AL l)->R t w'):Nf s (at':Int) w R:=by
 unfold Nf;have f8:=hs.len;obtain⟨ad,hm,dd,ee,oo,ha,_,_,hp,_,_,_,hc⟩:=vg hs hi;have c6:=hp.len;have e5:T[at'].BY.length*16<=Ab:=hp.2.2.2.1;unfold Ab at e5;have f7:T[at'].BY.length<=hm.cap:=hp.2.1;generalize T[at'].BY=a0 at*;refine An.intro λa w1 x1 a5 e8 _=>IN ⟨s,λ_=>a5.sh.pre (r:=[]) rfl,?_⟩;have e:(decide ((at':Int)<0)||decide ((s.len:Int)<=(at':Int)))=false:=by rw[fq oM,fq oM];rfl
 rw[e];refine⟨nO,λ_=>⟨s,a5.sh.pre (r:=[]) rfl,ad,⟨ha,oM,oM⟩,hm,by rw[dx];exact(hc _ x1).pre rfl,An.set rfl λa3 w3 x3 b2 e9=>⟨s,a5.at0 (r:=[]) x3 rfl,?_⟩⟩⟩;have a8:=x1.Z x3;refine th.up hs.max (λsw i w'=>AI w3 w'/\OF yu 3 w' w3.heap.size se sw (AL (BX T a0 i))) ⟨AI.refl _,OF.zero _⟩ λsw i w4 g0 f6 ⟨x4,o4⟩ hn=>⟨λe0=>join.named λJ hJ=>?_,λf5=>?_⟩
 .have b4:i<T.length:=oM;obtain⟨c9,ps,_,_,_,d1,_,_,c3,_,_,_,d6⟩:=vg hs b4;have f2:=c3.len;have f1:T[i].BY.length<=ps.cap:=c3.2.1;have b0:∀a4 w',AI w3 w'->OF yu 3 w' w3.heap.size se a4 (AL (BX T a0 (i+1)))->J a4 w':=λa4 w' hx ho=>by rw[hJ];exact hn b4 a4 w' ⟨hx,ho⟩
  rw[Vb,QR b4]at b0;refine⟨s,a5.at0 (r:=[]) (x3.Z x4) rfl,c9,⟨d1,oM,e0⟩,ps,by rw[dx];exact(d6 _ (a8.Z x4)).pre rfl,sf.drew λw5 x5=>⟨hm,b2.at0 (r:=[]) (x4.Z x5) rfl,IN ?_⟩⟩;have b7:=x4.Z x5;have c8:=a8.Z b7;have e1:((ps.len:Int)==Aa ((hm.len:Int)+1))=decide (T[i].BY.length=a0.length+1):=by rw[Ai oM oM,gp,jq,iv];omega
  rw[e1];refine⟨hm,λ_=>b2.at0 (r:=[]) b7 rfl,λhg=>⟨oM,by have:=jg hg;omega⟩,hm,λ_=>b2.at0 (r:=[]) b7 rfl,?_⟩;refine IS.intro (decide (T[i].BY.take a0.length=a0)) (λhg q hq=>?_) λe7 w6 x6 d0=>?_
  .have hg:=jg hg;rw[dx,c6];have b8:=(c3.U c8).cut (a:=0) (b:=a0.length) (ib _) oM;rw[ju]at b8;exact HC.V (Oh b8 (hp.U c8) λw6 x6=>⟨_,rfl,hq w6 x6⟩)
  have e2:(decide (T[i].BY.length=a0.length+1)&&e7)=(decide (T[i].BY.length=a0.length+1)&&decide (T[i].BY.take a0.length=a0)):=by
   cases hd:decide (T[i].BY.length=a0.length+1)with
   |false=>rfl
   |true=>rw[d0 hd]
  rw[e2];have a9:=b7.Z x6;refine⟨λhq=>An.intro λa7 w7 x7 d5 _ _=>?_,λhq=>?_⟩
  .rw[fl hq]at b0;have c4:=QS T a0 i;refine(o4.U (x5.Z (x6.Z x7))).é (a9.Z x7) GP (x:=(i:Int)) ⟨rfl,trivial⟩ (d5.sh.pre (r:=[]) rfl) dC (by rw[BS];show _*8<=Ab;unfold Ab;omega) λr w8 o8 x8=>b0 r w8 x8 ?_;unfold AL at o8 ⊢;rwa [gb]
  .rw[fa (by rw[hq];decide)]at b0;exact b0 sw w6 a9 (o4.U (x5.Z x6))
 .have b4:i=T.length:=oM;subst b4;refine An.set rfl λa6 w6 x6 d4 f0=>?_;have a9:=x4.Z x6;have b5:=a8.Z a9;have c4:=QS T a0 T.length;have hF:tq EM 8 w6 w3.heap.size sw (AL (BX T a0 T.length)):=(tq.of (E:=yu) (λx cs h=>h.1) o4 (by rw[BS];unfold Ab;omega)).U x6;have c5:∀t l w',tq EM 8 w' w3.heap.size t l->tq EM 8 w' w.heap.size t l:=λt l w' h=>by obtain⟨h1,h2,h3,h4,h5⟩:=h;exact⟨h1,h2,h3,h4,h5.imp id λ⟨g,tl,a,b,c⟩=>⟨g,tl,a,fj a8.size b,c⟩⟩
  obtain⟨h1,h2,h3,h4,h5⟩:=hF;have b9:∀ad,sw.a=some ad->ad.block<w4.heap.size:=λad d2=>(o4.block d2).2.1;obtain⟨oa,on,oc⟩:=sw;simp only at h1 h2 h3 h5;subst h1;rcases h5 with h0|⟨g,tail,d7,hg,hr⟩
  .rw[h0];refine(AnyF.slices_SortFunc_none Tryz.Xba oa oc _ w6).O λe w' ⟨he,hw⟩=>⟨_,he,rfl,?_⟩;subst hw;have e3:BX T a0 T.length=[]:=by have:=jt List.length h0;rw[BS]at this;exact fo this
   exact hR _ [] _ b5 (by rw[e3]) ⟨rfl,ib _,h3,by unfold Ab;simp[AL],.inl rfl⟩
  .subst d7;have d8:=b9 _ rfl;obtain⟨z,hz⟩:∃z:List (PJ T a0.length),z.map Subtype.val=BX T a0 T.length:=XC _ λi hi=>Zd3 (iz.1 hi).2;by_cases c7:z=[]
   .subst c7;rw[<-hz];refine(AnyF.slices_SortFunc_none Tryz.Xba _ oc _ w6).O λe w' ⟨he,hw⟩=>⟨_,he,rfl,?_⟩;subst hw;exact hR _ [] _ b5 (by rw[<-hz];exact jr _) ⟨rfl,ib _,h3,by unfold Ab;simp[AL],.inl rfl⟩
   obtain⟨z0,f3⟩:=List.exists_mem_of_ne_nil z c7
   haveI:Inhabited (PJ T a0.length):=⟨z0⟩
   have hO:=Zm T a0.length;have ez:AL (BX T a0 T.length)=z.map λx=>((x.1:Nat):Int):=(by rw[<-hz];unfold AL;rw[jh];rfl);rw[ez]at hr h2 ⊢;rw[ec]at h2 ⊢;have f9:z.length<=1000000:=(by have:=jt List.length hz;rw[ec]at this;omega);refine Zkm (α:=PJ T a0.length) (λx=>((x.1:Nat):Int)) Tryz.Xcz (λx y=>NO T a0.length x.1 y.1) (Fe (λx y=>hO.flip _ _) (λx y z=>hO.Z _ _ _)) 102 #[Value.pointer (some a6)] Zbs (λw0 x y hb _=>?_) hr oM rfl λl' w' b6 _ d3 e6=>?_
   .have d9:=Ng.V (k:=λv w'=>v= .int .i64 (NO T a0.length x.1 y.1)/\Gr w0 w') (Zd7 (c0:=a) (c1:=a3) (c2:=a6) (s:=s) (hm:=hm) (S:=S) (w:=w0) x.2.1 x.2.2 y.2.1 y.2.2 c6 ((hs.U b5).tz hb λh=>?_) (hb.box (a5.U (x3.Z a9)) ?_) (hb.box (b2.U a9) ?_) (hb.box d4 ?_) λw' h=>⟨rfl,h⟩)
    .exact Calls.O d9 λe w' ⟨v,he,hv,hg⟩=>⟨by rw[he,hv],hg⟩
    .have:=hS _ h;have:=a8.size;omega
    .have:=a5.lt;have:=x3.size;omega
    .have:=b2.lt;omega
    .have:=x6.size;simp only at d8;omega
   .refine⟨rfl,hR _ (l'.map Subtype.val) w' (b5.W ((d3.below b5.size (fj a8.size hg)))) ?_ ?_⟩
    .rw[<-hz];exact b6.map _
    .have e4:AL (l'.map Subtype.val)=l'.map λx=>((x.1:Nat):Int):=(by unfold AL;rw[jh];rfl);rw[e4];refine c5 _ _ _ ⟨by rw[ec,b6.length_eq],by rwa [ec,b6.length_eq],h3,by rw[ec,b6.length_eq];unfold Ab;omega,.inr ⟨g,tail,rfl,hg,e6⟩⟩
def An.Xcg{α:Type}{E:xn α}{f:α->LV}{l:List α}{k:Ì}(hE:∀x∈l,∀w S,E.rep w S x (f x))(a5:cs=(l.map f).flatten)(hl:l.length<=1000)
  (h:∀a w',AI w w'->OF E t w' w.heap.size se ⟨some a,l.length,l.length⟩ l->a.block=w.heap.size->k a w'):An w cs t k:=λa w' ha hw=>by
 subst ha hw a5;have a4:∀cs∈l.map f,cs.length=E.n:=λcs hc=>by obtain⟨x,hx,rfl⟩:=ij.1 hc;exact E.len (hE x hx w se)
 have a0:((l.map f).flatten).length=l.length*E.n:=by
  have:∀(m:List (List HT)),(∀c∈m,c.length=E.n)->m.flatten.length=m.length*E.n:=by
   intro m;induction m with
   |nil=>intro _;simp
   |cons c m ih=>intro hm;rw[jm,du,hm c (.head _),ih λx hx=>hm x (.tail _ hx),fu,ku];omega
  rw[this _ a4,ec]
 refine h _ _ (AI.alloc _ _) ⟨⟨l.map f,⟨a0,.inr ⟨w.heap.size,l.length,_,rfl,fx _,heap_alloc_new w _,fx _,by rw[Ao];omega,by simpa using a0,?_⟩⟩,by simp,λi x hx=>?_⟩,rfl,λ_ h=>h.F,λ_ _ h=>h.F⟩ rfl
 .rw[rk,ia (Nat.le_of_eq a0)]
 .rw[gu,hx];exact⟨_,rfl,E.sj (hE x (ik hx) w se) ((AI.alloc w _).sj _)⟩
def OF.Xbe{α:Type}{E:xn α}{w0:PU}{e t':LN}{l m:List α}{f:α->LV}{k:Sl->Wp}(h:OF E e w w0.heap.size se s l)(hf:∀{w S S' x cs},E.rep w S x cs->E.rep w S' x cs)(x0:AI w0 w)(hT:Bk P t e E.n E.bytes)
  (hE:∀x∈m,∀w S,E.rep w S x (f x)) (a6:cs=(m.map f).flatten) (hm:m.length<=1000) (h1:1<=E.bytes) (hb:(l.length+m.length)*E.bytes<=Ab)
  (hk:∀r w',OF E e w' w0.heap.size se r (l++m)->AI w0 w'->k r w'):An w cs t' λa vw=>uc P t t s (Sl.v (Sl.mk (some a) m.length m.length)) vw k:=by
 have a4:∀n,n<=l.length+m.length->n*E.bytes<=Ab:=λn hn=>fj (iu _ hn) hb;have a7:l.length+m.length<=maxLen:=by have:(l.length+m.length)*1<=(l.length+m.length)*E.bytes:=pz _ h1;rw[Ao];unfold Ab at hb;omega
 refine An.Xcg hE a6 hm λa w1 x1 o1 ha=>?_;have hs:=o1.A (a4 _ oM) oM;refine(h.U x1).yx hT (fj x0.size x1.size) hs (λb hb=>?_) (λad a0 hb=>?_) hb a7 λr w2 o2 vh _ _=>?_
 .rcases hb with hb|⟨ad,a0,rfl⟩
  .exact hb.F
  .exact(o1.block a0).2.1
 .rcases hb with hb|⟨a8,a5,e⟩
  .exact hb.F
  .cases a5;have:=(h.block a0).2.1;omega
 .exact hk r w2 (OF.flat hf o2) ((x0.Z x1).W vh)
structure va where
 BY:Pr
 dir:Bool
 data:Pr
 deriving Inhabited
abbrev Ξ:=List va
def EE(x:va):LV:=[.string x.BY,.bool x.dir,.string x.data]
def wq:xn va:=DL 3 40 EE (λx=>Ad x.BY/\Ad x.data) (λ_=>rfl) (λ_ v hv=>by simp[EE]at hv;rcases hv with rfl|rfl|rfl<;>rfl)
def HZ:Bk prog 76 115 3 40:=CL (z:=.agg #[.string ⟨#[]⟩,.bool false,.string ⟨#[]⟩]) kR kR rfl dC
def Zed:∀w,(isAgg 115).run prog w= .ok true w:=λw=>by kernel_rfl
def Zkd:∀w,(Go.sizeOf 115).run prog w= .ok 3 w:=λw=>by kernel_rfl
def Zj{a b:va}{R:È}(hR:∀w',Gr w w'->R (A8 a.BY b.BY) w'):Lu a.BY a.dir a.data b.BY b.dir b.data w R:=by refine An.gr λ_ w1 x1 hb=>An.gr λ_ w2 x2 a0=>⟨_,Gr.at0 hb x2 rfl,_,Gr.at0 a0 (Gr.refl _) rfl,Fd ⟨_,rfl,hR _ (x1.Z x2)⟩⟩
def Zbk:Bm prog 47:=enters_of func47 kR rfl
def Zkl{l:Ξ}(h:tq EE 40 w lo s l)(a0:lo<=w.heap.size)
  (hK:∀(l':Ξ) w',l'.Perm l->l'.Pairwise (λx y=>¬A8 y.BY x.BY<0)->Below lo w w'->tq EE 40 w' lo s l'->K (.tuple #[]) w'):
  sx prog 46 [s.v,.func (.func 47) #[] #[]] w K:=by
 obtain⟨h1,h2,h3,h4,h5⟩:=h;obtain⟨a,n,c⟩:=s;simp only at h1 h2 h3 h5;subst h1;rcases h5 with rfl|⟨g,tail,ha,hg,hr⟩
 .refine(AnyF.slices_SortFunc_none Tryz.Xb0 a c _ w).O λe w' ⟨he,hw⟩=>⟨_,he,?_⟩;subst hw;exact hK [] _ (jr _) .nil (Below.refl _ _) ⟨rfl,h2,h3,h4,.inl rfl⟩
 .subst ha;have hO:=DJ (α:=va) (·.BY);refine FH Tryz.Xb0 (k:=3) Zed Zkd (f:=EE) (λ_=>rfl) (λx v hv=>by simp[EE]at hv;rcases hv with rfl|rfl|rfl<;>rfl) (λa b=>A8 a.BY b.BY) (Fe hO.flip hO.Z) 47 #[] Zbk (λw0 x y hb _=>?_) hr (by unfold Ab at h4;omega) rfl λl' w' hp hs b a4=>?_
  .have h:=Lu.V (k:=λv w'=>v= .int .i64 (A8 x.BY y.BY)/\Gr w0 w') (Zj (a:=x) (b:=y) (w:=w0) λw' h=>⟨rfl,h⟩);exact Calls.O h λe w' ⟨v,he,hv,hg⟩=>⟨by rw[he,hv],hg⟩
  .exact hK l' w' hp hs (b.below a0 hg) ⟨hp.length_eq.H,by rwa [hp.length_eq],h3,by rwa [hp.length_eq],.inr ⟨g,tail,rfl,hg,a4⟩⟩
def LY{p:su}(h:AJ p=true):CA p=true/\(C0 p).length<=4096:=by unfold AJ at h;simp only[dz,fk]at h;exact⟨by first|exact h.1.2|exact h.2.1|exact h.1.1.2|exact h.1,by first|exact h.2|exact h.2.2⟩
def Zg1{p:su}{e:Sl}{R:Pr->È}(ht:Þ w)(hN:Ad p.Y)(hd:No ru w S d p.ss)(he:No ru w S e p.ta)(ho:No ru w S o p.uq)
  (h0:∀w',AI w w'->AJ p=true->R (B (C0 p)) 0 w') (h1:∀w',AI w w'->AJ p=false->R ⟨#[]⟩ 24 w'):Ma p.Y p.v.ma p.v.mi p.v.pa d e o w R:=by
 refine An.intro λa w1 x1 a4 _ _=>⟨_,_,_,_,d,e,o,a4.sh.pre (r:=[]) rfl,?_⟩;refine Gy.V (OH (p:=p) (ht.U x1) hN (hd.U x1) (he.U x1) (ho.U x1) λw2 x2=>⟨_,rfl,λh=>h1 w2 (x1.Z x2) (by simpa using h),λh=>?_⟩);have h:AJ p=true:=by simpa using h
 have a0:=x1.Z x2;refine⟨_,_,_,_,d,e,o,(a4.U x2).sh.pre (r:=[]) rfl,?_⟩;exact Jh.V (Wq (p:=p) (ht.U a0) (LY h).1 (hd.U a0) (he.U a0) (ho.U a0) λw3 x3=>⟨_,rfl,h0 w3 (a0.Z x3) h⟩)
def EK(home n:LU):LU:=if home= [47]then home++n else(home++[47])++n
def vx:LU:=[112,97,99,107,97,103,101]
def wz:LU:=[109,111,100,117,108,101,115]
def F2(T:Ε)(i:Nat)(d:uf):Ξ:=
 (if i=0 then []else [⟨B (Ar d.BY),true,⟨#[]⟩⟩,⟨B (EK (Ar d.BY) vx),false,B (C0 d.td)⟩])++(if BX T d.BY T.length=[]then []else [⟨B (EK (Ar d.BY) wz),true,⟨#[]⟩⟩])
def DK(T:Ε)(n:Nat):Ξ:=(List.range n).flatMap λi=>match T[i]? with
 |some d=>F2 T i d
 |none=>[]
def Zc1{T:Ε}(h:i<T.length):DK T (i+1)=DK T i++F2 T i T[i]:=by unfold DK;rw[List.range_succ,rl];simp[dt h]
def Zap(T:Ε)(i:Nat)(d:uf):(F2 T i d).length<=3:=by unfold F2;split<;>split<;>simp
def QH(T:Ε):∀n,(DK T n).length<=3*n
 |0=>by simp[DK]
 |n+1=>by
  have:=QH T n;unfold DK at*;rw[List.range_succ,rl,du];have h1:((List.flatMap (λi=>match T[i]? with|some d=>F2 T i d|none=>[]) [n])).length<=3:=by
   simp only[List.flatMap_cons,List.flatMap_nil,gv];split
   .exact Zap _ _ _
   .simp
  omega
def vp(s:á):Ξ:=[⟨⟨#[47,109,97,110,105,102,101,115,116]⟩,false,B (CZ s.m)⟩,⟨⟨#[47,108,111,99,107]⟩,false,B (Gk s.g)⟩]++(if s.IT then [⟨⟨#[47,112,114,117,110,101,100]⟩,false,⟨#[]⟩⟩]else [])
def Ă(s:á):Ξ:=vp s++DK s.T s.T.length
def ĉ(s:á):Bool:=decide (s.m=⟨[],[],[],[]⟩)&&(decide (s.g.length=1)&&(decide (s.T.length=1)&& !s.IT))
structure Xcc(s:á)(l:Ξ):Prop where
 perm:l.Perm (if ĉ s then []else Ă s)
 Xdg:l.Pairwise λx y=>¬A8 y.BY x.BY<0
def Zbd{T:Ε}{e v:Sl}(hd:No ru w S' d m.ss)(he:No ru w S' e m.uw)(ho:No ru w S' o m.uq)(hv:No ru w S' v m.sd)
  (hs:No ve w S s T) (hg:No uh w Q u g) (hR:∀w',AI w w'->R (ĉ ⟨m,g,T,pr⟩) w'):Lv d e o v u s pr w R:=by
 unfold Lv;have a5:=hs.len;have a4:=hg.len;refine An.intro λa w1 x1 a0 _ _=>⟨d,e,o,v,a0.at0 xR rfl,?_⟩;refine LF.V (Zfx (m:=m) (k:=⟨[],[],[],[]⟩) (S:=S') (T:=λ_=>False) (hd.U x1) (he.U x1) (ho.U x1) (hv.U x1) (No.nil trivial) (No.nil trivial) (No.nil trivial) (No.nil trivial) λw2 x2=>⟨_,rfl,u,λ_=>a0.at1 (k:=4) x2 rfl,IN ⟨s,λ_=>a0.at1 (k:=5) x2 rfl,IN ⟨pr,λ_=>a0.at1 (k:=6) (r:=[]) x2 rfl,?_⟩⟩⟩);have h:=hR w2 (x1.Z x2);have e1:((u.len:Int)==1)=decide (g.length=1):=by rw[gp,jq,iv];omega
 have e2:((s.len:Int)==1)=decide (T.length=1):=by rw[gp,jq,iv];omega
 rw[e1,e2];unfold ĉ at h;rwa [og,og]
def Yj{h n:LU}{R:Í}(hl:h.length+n.length<=100000)(hR:R (B (EK h n)) w):IM (B h) (B n) w R:=by
 unfold IM;have e0:B h=bm #[47]↔h= [47]:=by
  constructor
  .intro e;have:=jt ByteArray.toList e;rw[HQ]at this;have e1:Ϯ.toList= [47]:=HQ [47];rw[e1]at this;exact this
  .rintro rfl;rfl
 refine⟨λhe=>?_,λhe=>?_⟩
 .rw[A9];have h1:=e0.1 he;unfold EK at hR;rw[fl h1]at hR;exact⟨by rw[Ac,Ac,Al];omega,hR⟩
 .rw[AZ,A9];unfold EK at hR;rw[fa λh1=>he (e0.2 h1)]at hR;exact⟨by rw[Ac,A6,Al];simp;omega,by rw[Ac,Ac,Al];simp;omega,hR⟩
def ñ{l:LU}(h:l.length<=10000000):Ad (B l):=by unfold Ad;rw[Ac,Ao];omega
def O1(h n:LU):(EK h n).length<=h.length+n.length+1:=by unfold EK;split<;>simp<;>omega
def Ok{x:va}(h:Ad x.BY/\Ad x.data):∀w S,wq.rep w S x (EE x):=λ_ _=>⟨rfl,h⟩
def ō{a:Δ}(h:a.size<=100):Ad ⟨a⟩:=by unfold Ad;rw[Ao];show a.size<=_;omega
def Ō:Ad ⟨#[]⟩:=by unfold Ad;rw[Ao];decide
def vj.BY{T:Ε}(h:vj T)(hi:i<T.length):(Ar T[i].BY).length<=1024:=by
 by_cases h0:i=0
 .subst h0;have:=h.root;rw[dt hi,eu]at this;rw[this];decide
 .exact(h.sy i _ (dt hi) h0).len
def Zc2{T:Ε}{e v:Sl}{R:Sl->È}(ht:Þ w)(g0:Old S' w)(hd:No ru w S' d m.ss)(he:No ru w S' e m.uw)(ho:No ru w S' o m.uq)(hv:No ru w S' v m.sd)
  (hS:Old S w) (hs:No ve w S s T) (hg:No uh w Q u g) (hb:∀d∈T,d.BY.length<=4000000000000)
  (h0:∀t l w',AI w w'->zi ⟨m,g,T,pr⟩->Xcc ⟨m,g,T,pr⟩ l->tq EE 40 w' w.heap.size t l->(∀x∈l,Ad x.BY/\Ad x.data)->R t 0 w') (h1:∀w',AI w w'-> ¬zi ⟨m,g,T,pr⟩->R Sl.nil 43 w'):Lr d e o v u s pr w R:=by
 unfold Lr;have i3:=hs.len;refine An.intro λa w1 x1 a7 _ _=>⟨d,e,o,v,a7.at0 xR rfl,?_⟩;refine LB.V (Zfw (m:=m) (ht.U x1) (g0.U x1.size) (hd.U x1) (he.U x1) (ho.U x1) (hv.U x1) λw2 x2=>⟨_,_,rfl,λhc=>?_,λhc=>?_⟩)
 .refine h1 w2 (x1.Z x2) λhF=>hc ?_;unfold DN;rw[fl hF.Xbs]
 have b5:AF m=true:=by
  cases hm:AF m with
  |true=>rfl
  |false=>unfold DN at hc;rw[hm]at hc;exact fm dC hc
 have d4:=x1.Z x2;refine⟨u,a7.at1 (k:=4) x2 rfl,?_⟩;refine L9.V (Zfg (ht.U d4) (hg.U d4) λw3 x3=>⟨_,_,rfl,IN ⟨d,e,o,v,u,s,pr,λ_=>a7.at0 (r:=[]) (x2.Z x3) rfl,?_⟩⟩);have b4:=d4.Z x3;refine IS.holds (λt=>t=true↔zt T g) (λ_ q hq=>Lw.V (Zhe (ht.U b4) (hS.U b4.size) (hs.U b4) (hg.U b4) hb λb w4 x4 hb=>⟨b,rfl,hq b w4 x4 hb⟩)) λi6 w4 x4 b8=>⟨λhc=>?_,λhc=>?_⟩
 .refine h1 w4 (b4.Z x4) λhF=>?_;rw[L7 hF.lock]at b8 hc;rw[(b8 rfl).2 hF.ď]at hc;cases hc
 rw[gd]at hc;obtain⟨e5,g2⟩:=hc;have b9:ww g:=iy λhn=>by rw[O7 hn]at e5;exact fm e5 dC
 rw[L7 b9]at b8;have f0:zt T g:=(b8 rfl).1 (by simpa using g2);have e2:zi ⟨m,g,T,pr⟩:=⟨b5,b9,f0⟩;have hT:=f0.Ħ;have h6:=hT.len;have a4:=b4.Z x4;have f6:=x2.Z (x3.Z x4);refine⟨d,e,o,v,u,s,pr,a7.at0 (r:=[]) f6 rfl,?_⟩;refine Lv.V (Zbd (m:=m) (T:=T) (g:=g) (pr:=pr) (hd.U a4) (he.U a4) (ho.U a4) (hv.U a4) (hs.U a4) (hg.U a4) λw5 x5=>⟨_,rfl,λc8=>?_,λc8=>?_⟩)
 .exact h0 Sl.nil [] w5 (a4.Z x5) e2 ⟨by rw[c8,fl rfl],.nil⟩ ⟨rfl,fx _,ib _,by unfold Ab;simp,.inl rfl⟩ λ_ h=>by cases h
 have b6:=a4.Z x5;have d6:=f6.Z x5;have h8:(CZ m).length<=4096:=by unfold AF at b5;simp only[dz,fk]at b5;exact b5.2.2
 have e7:(Gk g).length<=1400000:=by have:=O6 b9 g.length;rwa [eh]at this
 have f7:D2 m=B (CZ m):=by unfold D2;rw[fl b5]
 rw[f7,O8 b9];have c5:∀x∈Ă ⟨m,g,T,pr⟩,Ad x.BY/\Ad x.data:=by
  intro x hx;obtain hx|hx:=fp.1 hx
  .unfold vp at hx;obtain hx|hx:=fp.1 hx
   .obtain rfl|hx:=gn.1 hx
    .exact⟨ō dC,ñ (by show(CZ m).length<=_;omega)⟩
    .rw[ep.1 hx];exact⟨ō dC,ñ (by show(Gk g).length<=_;omega)⟩
   .split at hx
    .rw[ep.1 hx];exact⟨ō dC,Ō⟩
    .cases hx
  .obtain⟨i,hi,hx⟩:=List.mem_flatMap.1 hx;have a0:i<T.length:=nq.1 hi;simp only[dt a0]at hx;have hp:=hT.BY a0;have q1:=O1 (Ar T[i].BY) vx;have q2:=O1 (Ar T[i].BY) wz;have q3:vx.length=7:=rfl;have q4:wz.length=7:=rfl;unfold F2 at hx;obtain hx|hx:=fp.1 hx
   .split at hx
    .cases hx
    .rename_i d0;obtain rfl|hx:=gn.1 hx
     .exact⟨ñ oM,Ō⟩
     .rw[ep.1 hx];exact⟨ñ oM,ñ (by have:=(LY (hT.sy i _ (dt a0) d0).vt).2;show(C0 T[i].td).length<=_;omega)⟩
   .split at hx
    .cases hx
    .rw[ep.1 hx];exact⟨ñ oM,Ō⟩
 have ea:∀x∈vp ⟨m,g,T,pr⟩,Ad x.BY/\Ad x.data:=λx hx=>c5 x (jd _ hx);refine An.Xcg (E:=wq) (f:=EE) (l:=[⟨⟨#[47,109,97,110,105,102,101,115,116]⟩,false,B (CZ m)⟩,⟨⟨#[47,108,111,99,107]⟩,false,B (Gk g)⟩]) (λx hx=>Ok (ea x (by unfold vp;exact jd _ hx))) rfl sI λa6 w6 x6 o6 h5=>join.named λJ hJ=>?_;have c9:∀{w:PU} {S S':Nat->Prop} {x:va} {cs:LV},wq.rep w S x cs->wq.rep w S' x cs:=λh=>h;have d9:∀t w',AI w5 w'->OF wq 115 w' w5.heap.size se t (vp ⟨m,g,T,pr⟩)->J t w':=λt w7 x7 o7=>by
  rw[hJ];refine⟨s,a7.at1 (k:=5) (d6.Z x7) rfl,?_⟩;refine th.up hs.max (λsw i w'=>AI w5 w'/\OF wq 115 w' w5.heap.size se sw (vp ⟨m,g,T,pr⟩++DK T i)) ⟨x7,by simpa[DK]using o7⟩ λsw i w8 i5 hi ⟨x8,o8⟩ hn=>⟨λe7=>join.named λK hK=>?_,λh7=>?_⟩
  .have a0:i<T.length:=oM;obtain⟨ad,ps,dd,ee,oo,ha,_,h2,hp,g3,g4,g8,hc⟩:=vg hs a0;have g1:=hb _ (fe a0);have h9:=hT.BY a0;have g5:=QH T i;have g6:(vp ⟨m,g,T,pr⟩).length<=3:=(by unfold vp;split<;>simp);have e0:∀t w',AI w5 w'->OF wq 115 w' w5.heap.size se t ((vp ⟨m,g,T,pr⟩++DK T i)++F2 T i T[i])->K t w':=λt w' hx ho=>(by rw[hK];refine hn a0 t w' ⟨hx,?_⟩;rwa [Zc1 a0,<-ff]);have q1:=O1 (Ar T[i].BY) vx;have q2:=O1 (Ar T[i].BY) wz;have q3:vx.length=7:=rfl;have q4:wz.length=7:=rfl;have f5:=b6.Z x8;refine⟨ad,⟨ha,oM,e7⟩,ps,T[i].td.Y,T[i].td.v.ma,T[i].td.v.mi,T[i].td.v.pa,dd,ee,oo,T[i].py,by rw[dx];exact hc _ f5,An.set rfl λa9 w9 x9 e4 _=>⟨ps,e4.at0 xR rfl,?_⟩⟩;have c3:=f5.Z x9;refine Ew.V (HH (hp.U c3) g1 λh3 b7=>⟨_,rfl,join.named λL hL=>?_⟩);have b2:=c3.Z b7;have c7:=x8.Z (x9.Z b7);have e1:∀t w',AI w5 w'->OF wq 115 w' w5.heap.size se t ((vp ⟨m,g,T,pr⟩++DK T i)++(if i=0 then []else [⟨B (Ar T[i].BY),true,⟨#[]⟩⟩,⟨B (EK (Ar T[i].BY) vx),false,B (C0 T[i].td)⟩]))->L t w':=λt f3 a5 f1=>by
    rw[hL];have c6:=b6.Z a5;refine⟨s,a7.at1 (k:=5) (d6.Z a5) rfl,?_⟩;refine Nf.V (Zd8 (hS.U c6.size) (hs.U c6) a0 oM λf2 i4 h4 c4 e8 d8=>⟨f2,rfl,?_⟩);have b0:f2.len=(BX T T[i].BY T.length).length:=by rw[d8.1,BS,e8.length_eq]
    refine⟨λh=>?_,λh=>?_⟩
    .have g7:BX T T[i].BY T.length≠[]:=λe=>(by rw[e]at b0;simp at b0;omega);have el:Å=B wz:=rfl;rw[el];refine IM.V (Yj (h:=Ar T[i].BY) (n:=wz) oM ⟨_,rfl,?_⟩);refine OF.Xbe (m:=[⟨B (EK (Ar T[i].BY) wz),true,⟨#[]⟩⟩]) (f1.U c4) c9 (a5.Z c4) HZ (λx hx=>Ok (by rw[ep.1 hx];exact⟨ñ oM,Ō⟩)) rfl sI dC ?_ λr d3 d2 d5=>e0 r d3 d5 ?_
     .have:∀n:Nat,n<=100000->n*wq.bytes<=Ab:=λn hn=>(by show n*40<=Ab;unfold Ab;omega);refine this _ ?_;simp only[du,fu,ie];split<;>simp<;>omega
     .unfold F2;rwa [fa g7,<-ff]
    .have e6:BX T T[i].BY T.length=[]:=fo oM;refine e0 t h4 (a5.Z c4) ?_;unfold F2;rw[fl e6,gv];exact f1.U c4
   refine⟨λd0=>?_,λd0=>?_⟩
   .have a8:i≠0:=oM;have e3:=hT.sy i _ (dt a0) a8;refine⟨_,_,_,_,dd,ee,oo,e4.at1 (k:=1) b7 rfl,?_⟩;refine Ma.V (Zg1 (p:=T[i].td) (ht.U b2) h2 (g3.U b2) (g4.U b2) (g8.U b2) (λf3 a5 hm=>⟨_,_,rfl,λh=>fm rfl h,λ_=>?_⟩) λf3 a5 hm=>by rw[e3.vt]at hm;cases hm);have el:Æ=B vx:=rfl;rw[el];refine IM.V (Yj (h:=Ar T[i].BY) (n:=vx) oM ⟨_,rfl,?_⟩);have i2:=(LY e3.vt).2;refine OF.Xbe (m:=[⟨B (Ar T[i].BY),true,⟨#[]⟩⟩,⟨B (EK (Ar T[i].BY) vx),false,B (C0 T[i].td)⟩]) (o8.U (x9.Z (b7.Z a5))) c9 (c7.Z a5) HZ (λx hx=>Ok ?_) rfl sI dC ?_ λr d3 d2 d5=>e1 r d3 d5 (by rwa [fa a8])
    .obtain rfl|hx:=gn.1 hx
     .exact⟨ñ oM,Ō⟩
     .rw[ep.1 hx];exact⟨ñ oM,ñ (by show(C0 T[i].td).length<=_;omega)⟩
    .have:∀n:Nat,n<=100000->n*wq.bytes<=Ab:=λn hn=>(by show n*40<=Ab;unfold Ab;omega);refine this _ ?_;simp only[du,fu,ie];omega
   .have a8:i=0:=oM;exact e1 sw h3 c7 (by rw[fl a8,gv];exact o8.U (x9.Z b7))
  .have a0:i=T.length:=oM;subst a0;have g5:=QH T T.length;have g6:(vp ⟨m,g,T,pr⟩).length<=3:=(by unfold vp;split<;>simp);have f9:tq EE 40 w8 w5.heap.size sw (Ă ⟨m,g,T,pr⟩):=tq.of (E:=wq) (λx cs h=>h.1) o8 (by unfold Ă Ab;rw[du];show((vp ⟨m,g,T,pr⟩).length+(DK T T.length).length)*40<=_;omega);refine Zkl f9 x8.size λl' w9 e9 g9 d7 f8=>⟨rfl,?_⟩;have c3:AI w w9:=(b6.Z x8).W (d7.O b6.size);refine h0 sw l' w9 c3 e2 ⟨by rwa [c8],g9⟩ ?_ λx hx=>c5 x (e9.subset hx);obtain⟨k1,k2,k3,k4,k5⟩:=f8;exact⟨k1,k2,k3,k4,k5.imp id λ⟨gg,tl,a,b,c⟩=>⟨gg,tl,a,fj b6.size b,c⟩⟩
 refine⟨pr,a7.at1 (k:=6) (r:=[]) (d6.Z x6) rfl,λd1=>?_,λd1=>?_⟩
 .subst d1;refine OF.Xbe (m:=([⟨⟨#[47,112,114,117,110,101,100]⟩,false,⟨#[]⟩⟩]:Ξ)) o6 c9 x6 HZ (λx hx=>Ok (by rw[ep.1 hx];exact⟨ō dC,Ō⟩)) rfl sI dC (by show 3*40<=Ab;unfold Ab;decide) λr w7 o7 x7=>d9 r w7 x7 o7
 .subst d1;exact d9 _ w6 x6 o6
def Tu(b:Nat)(A B:PU):Prop:=A.grownBy B (some b)
def PD(ks:Wd)(A B:PU):Prop:=∀k∈ks,B.heap[k]?=A.heap[k]?
def Yh(r:Β):Fence:={Fence.wide with round:=r}
def Tu.put(W:PU)(l:Nat)(o:Obj):Tu l W (W.putObj l o):=grownBy_putObj' W l o
def Tu.alloc(W:PU)(b:Nat)(o:Obj):Tu b W (W.alloc o):=World.grownBy_alloc W o _
def Tu.at{k:Nat}{B:PU}{o:Obj}(h:Tu b A B)(hk:A.heap[k]?=some o)(a0:k≠b):B.heap[k]?=some o:=(World.grownBy.block h k (fb.1 hk).1 (by simpa using a0)).Z hk
def Th{α:Type}(n:Nat)(P:LD)(gf:Nat)(lb:Γ)(enc:α->HT)(zs:List α)(bs:Nat)(ks:Wd)(w0:PU):Prop:=
 ∀(l:Nat)(J:Ê)(Jx:Wp)(W:PU),PD ks w0 W->(∀k A B,J k A->Tu bs A B->J k B)->(∀A B,Jx A->Tu bs A B->Jx B)->
  (∀k (h:k<zs.length) W1,J k W1->YieldAt Fence.wide (n - 1) P l #[enc zs[k]] W1 λe W'=>
   (e= .returned (.bool true)/\J (k+1) W'/\PD ks W1 W')\/(e= .returned (.bool false)/\Jx W'))->
  J 0 W->CallsIn Fence.wide n P gf (#[.func (.yield l) #[] #[]]++lb) W λe W'=>(∃v,e= .returned v)/\(J zs.length W'\/Jx W')
def Zhf(l:Nat)(ks:Wd)(I:Ê)(Ix:Code->Wp)(k:Nat)(W:PU):Exit->Act->Wp
 | .normal,_,W'=>W'.heap[l]?=W.heap[l]? /\PD ks W W'/\I k W'
 | .ret,_,W'=>W'.heap[l]?=W.heap[l]? /\Ix .ret W'
 | .exit id,_,W'=>W'.heap[l]?=W.heap[l]? /\Ix (.exit id) W'
 |_,_,_=>False
def WE{α:Type}{g:LS}{ps:Array Tmp}{assign body:Code}{Q:Exit->Act->Wp}{a:Act}{w₀:PU}{r₀:Β}{mark:List Deferred}{D:Nat}
  (he:∀fn,(Instr.enterLoop fn a.tmps ps assign body r₀).run P w= .ok (w₀.heap.size,mark) (w₀.alloc (.loop {state:=.ready,pending:=none,fn,tmps:=a.tmps,params:=ps,assign,body,defers:=D})))
  {gf:Nat} {lb:Γ} (hg:a.eval g= .func (.func gf) #[] lb) (eg:∀args w,(callFunc gf args).run P w= .ok (.enter gf args) w)
  {enc:α->HT} {zs:List α} {bs:Nat} {ks:Wd} (c4:Th (n - 1) P gf lb enc zs bs ks w₀) (c7:ps.size=1)
  (c9:bs<w₀.heap.size) (b7:∀k∈ks,k<w₀.heap.size)
  (I:Ê) (Ix:Code->Wp) (hI:∀k A B b,(b=bs\/b=w₀.heap.size)->I k A->Tu b A B->I k B) (a9:∀c A B b,(b=bs\/b=w₀.heap.size)->Ix c A->Tu b A B->Ix c B)
  (h0:I 0 w₀) (a₁:α->Act)
  (a6:∀(x:α)(W:PU)(K:Act->Wp),K (a₁ x) W->
   assign.wpIn (Fence.wide.inRound w₀.heap.size) (n - 1 - 1) P (Exit.then K (λ_ _ _=>False)) {tmps:=(ps.zip #[enc x]).foldl (λt (p,v)=>t.setIfInBounds p v) a.tmps,defers:=[]} W)
  (b4:∀k (h:k<zs.length) (W:PU),(∃r:Loop,W.heap[w₀.heap.size]?=some (.loop r)/\r.defers=D)->I k W->
   body.wpIn (Fence.wide.inRound w₀.heap.size) (n - 1 - 1) P (Zhf w₀.heap.size ks I Ix (k+1) W) (a₁ zs[k]) W)
  (b5:∀W,I zs.length W->Q .normal {a with defers:=mark++a.defers} W)
  (b6:∀c W,Ix c W->c.wpIn (Yh r₀) n P Q {a with defers:=mark++a.defers} W):
  (Code.rangeFunc g ps assign body).wpIn (Yh r₀) n P Q a w:=by
 refine wpIn_rangeFunc λfn d0=>?_;generalize hl:w₀.heap.size=l at*;obtain⟨a5,a0⟩:∃a5:LoopState->Option Code->Loop,a5=λst pe=>{state:=st,pending:=pe,fn,tmps:=a.tmps,params:=ps,assign,body,defers:=D}:=⟨_,rfl⟩;obtain⟨W1,b0⟩:∃W1,w₀.alloc (.loop (a5 .ready none))=W1:=⟨_,rfl⟩;have c5:W1.heap[l]?=some (.loop (a5 .ready none)):=by rw[<-b0,<-hl];exact World.alloc_heap_new w₀ _
 refine⟨l,mark,W1,{target:=.fn (.func gf) lb,args:=#[.func (.yield l) #[] #[]]},W1,gf,#[.func (.yield l) #[] #[]]++lb,W1,?_,?_,λ_ _=>trivial,?_,nO,?_⟩
 .rw[<-b0,a0];exact he fn
 .simp only[resolve,hg];simp[go_sem]
 .simp[invoke,go_sem,eg]
 have c3:l≠bs:=oM;refine CallsIn.O (c4 l (λk W=>I k W/\W.heap[l]?=some (.loop (a5 .ready none))) (λW=>∃c,Ix c W/\W.heap[l]?=some (.loop (a5 .done (some c)))) W1 ?_ ?_ ?_ ?_ ⟨?_,c5⟩) ?_
 .intro k hk;rw[<-b0];exact Below.heap_alloc _ _ _ (by rw[hl];exact b7 k hk)
 .exact λk A B ⟨h1,h2⟩ ht=>⟨hI k A B bs (.inl rfl) h1 ht,ht.at h2 c3⟩
 .exact λA B ⟨c,h1,h2⟩ ht=>⟨c,a9 c A B bs (.inl rfl) h1 ht,ht.at h2 c3⟩
 .rintro k hk W ⟨hi,hL⟩;have hy:=run_yield (P:=P) (args:=#[enc zs[k]]) hL (by rw[a0];exact c7.H);rw[a0]at hy;refine⟨fn,_,assign,body,hy,roundIn_of_wpIn trivial (a6 _ W _ ⟨_,run_beginRound hL (by rw[a0]),?_⟩)⟩;have c6:=(fb.1 hL).1;have b8:(W.putObj l (.loop {a5 .ready none with state:=.busy})).heap[l]?=some (.loop {a5 .ready none with state:=.busy}):=World.putObj_heap_same c6;refine wpIn_mono (b4 k hk _ ⟨_,b8,by rw[a0]⟩ (hI k _ _ l (.inr rfl) hi (Tu.put W l _))) ?_;have fin:∀(a4:Option Code)(W3:PU),W3.heap[l]?=(W.putObj l (.loop {a5 .ready none with state:=.busy})).heap[l]? ->
    (Instr.endRound l a4).run P W3= .ok (.bool a4.isNone) (W3.putObj l (.loop (a5 (if a4.isNone then .ready else .done) a4)))/\
    (W3.putObj l (.loop (a5 (if a4.isNone then .ready else .done) a4))).heap[l]?=some (.loop (a5 (if a4.isNone then .ready else .done) a4)):=λa4 W3 h3=>by
   have b9:=h3.Z b8;have:=run_endRound (P:=P) a4 b9;rw[a0]at this ⊢;exact⟨this,World.putObj_heap_same (fb.1 b9).1⟩
  have b2:∀k∈ks,k≠l:=λk hk=>Nat.ne_of_lt (b7 k hk);rintro e a3 W3 hp;cases e with
  |normal=>obtain⟨h3,c8,a7⟩:=hp;obtain⟨hr,a8⟩:=fin none W3 h3;exact⟨_,_,hr,.inl ⟨rfl,⟨hI _ _ _ l (.inr rfl) a7 (Tu.put _ _ _),a8⟩,λj hj=>by rw[World.putObj_heap_other (b2 j hj),c8 j hj,World.putObj_heap_other (b2 j hj)]⟩⟩
  |ret=>obtain⟨h3,a7⟩:=hp;obtain⟨hr,a8⟩:=fin (some .ret) W3 h3;exact⟨_,_,hr,.inr ⟨rfl,.ret,a9 _ _ _ l (.inr rfl) a7 (Tu.put _ _ _),a8⟩⟩
  |exit id=>obtain⟨h3,a7⟩:=hp;obtain⟨hr,a8⟩:=fin (some (.exit id)) W3 h3;exact⟨_,_,hr,.inr ⟨rfl,.exit id,a9 _ _ _ l (.inr rfl) a7 (Tu.put _ _ _),a8⟩⟩
  |goto t=>exact hp.F
  |panic ch=>exact hp.F
  |outgrown=>exact hp.F
 .rw[<-b0];exact hI 0 _ _ l (.inr rfl) h0 (Tu.alloc _ _ _)
 .rintro e W2 ⟨⟨v,rfl⟩,(⟨hi,hL⟩|⟨c,hi,hL⟩)⟩
  .exact⟨none,_,by have:=run_endLoop (P:=P) hL (by rw[a0];simp);rw[a0]at this;exact this,b5 _ (hI _ _ _ l (.inr rfl) hi (Tu.put _ _ _))⟩
  .exact⟨some c,_,by have:=run_endLoop (P:=P) hL (by rw[a0];simp);rw[a0]at this;exact this,b6 c _ (a9 c _ _ l (.inr rfl) hi (Tu.put _ _ _))⟩
def Zdr(tmps:Γ)(ps:Array Tmp)(assign body:Code)(fn:OK):(Instr.enterLoop fn tmps ps assign body none).run P w=
  .ok ((w.alloc (.deferred (some []))).heap.size,[{target:=.collected w.heap.size,args:=#[]}]) ((w.alloc (.deferred (some []))).alloc (.loop {state:=.ready,pending:=none,fn,tmps,params:=ps,assign,body,defers:=w.heap.size})):=by
 rw[World.size_alloc];exact run_enterLoop_outer _ _ _ _ _
end Go.Hal
/-
 DERIVED:THE SHELF's CONTRACTS AT THIS DUMP,IN PLAIN WORDS (tools/lay-plain.mjs sw of 'YtgolaibmophnjaaGreatDoorLay9.lean',which tools/lay-shelf.mjs wrote):THE SAME DECLARATIONS UNDER THE SAME NAMES:'import','namespace','open','def','theorem' AND NOTHING ELSE:no command of the shelf's:FOR A HAND-IN. Each laying:the table of numbers ('.._ren') and one theorem,a field a fact of the dump's uy or the kernel's comparison;each contract:ONE APPLICATION.
-/
namespace Go.Proofs
def Tryz.Xaj:Go.Shelf.Ren:=⟨λ|143=>352|219=>379|217=>392|225=>375|224=>374|267=>393|266=>411|314=>412|n=>n,λ|9=>9|3=>3|4=>4|5=>5|46=>185|146=>439|51=>249|n=>n,λ|1=>0|n=>n⟩
def Tryz.Xb2:Go.Proofs.Lays.n143 prog Tryz.Xaj:=by repeat' first|kernel_rfl|(intro w;kernel_rfl)|constructor
def Tryz.Č:Go.Shelf.Ren:=⟨λ|146=>353|221=>380|268=>394|138=>395|143=>352|195=>413|197=>301|218=>414|219=>379|260=>342|217=>392|225=>375|224=>374|267=>393|266=>411|314=>412|n=>n,λ|9=>9|31=>57|3=>3|4=>4|0=>0|105=>357|21=>21|5=>5|46=>185|119=>408|139=>411|138=>410|146=>439|51=>249|n=>n,λ|1=>0|3=>2|4=>3|n=>n⟩
def Tryz.Xcy:Go.Proofs.Lays.n146 prog Tryz.Č:=by repeat' first|kernel_rfl|(intro w;kernel_rfl)|constructor
def Tryz.Xac:Go.Shelf.Ren:=⟨λ|172=>354|244=>381|245=>382|247=>396|279=>397|280=>398|281=>399|282=>400|287=>415|316=>416|171=>95|205=>417|321=>422|322=>423|243=>159|246=>248|283=>306|284=>307|285=>308|286=>309|129=>172|317=>346|318=>347|319=>348|320=>349|337=>377|338=>378|n=>n,λ|9=>9|3=>3|75=>171|76=>172|4=>4|5=>5|167=>427|37=>167|0=>0|85=>428|2=>2|168=>430|53=>251|175=>442|46=>185|210=>446|127=>238|145=>453|143=>451|21=>21|171=>360|173=>362|212=>392|51=>249|20=>20|213=>393|232=>424|233=>425|80=>176|n=>n,λ|15=>6|16=>7|17=>1|18=>4|19=>5|n=>n⟩
def Tryz.Xa9:Go.Proofs.LaysC.n172 prog Tryz.Xac:=by repeat' first|kernel_rfl|(intro w;kernel_rfl)|constructor
end Go.Proofs
namespace Go.Hal
def Xo{uz:Pr}(h1:1<=uz.size):∀(k j:Nat)(s:Pr),s.size<=k->s.size<=j->Lib.splitB uz 0 k s=Lib.splitB uz 0 j s
 |k,j,s,hk,hj=>by
  rcases Lib.indexB_cases s uz with a0|⟨i,a0,a4⟩
  .rw[Lib.splitB_miss _ _ _ _ a0,Lib.splitB_miss _ _ _ _ a0]
  .match k,j with
   |0,_=>omega
   |k+1,0=>omega
   |k+1,j+1=>rw[Lib.splitB_hit _ _ _ _ i a0,Lib.splitB_hit _ _ _ _ i a0,Xo h1 k j _ (by rw[mb];omega) (by rw[mb];omega)]
termination_by k=>k
def Aw(uz s:Pr):List Pr:=Lib.splitB uz 0 s.size s
def Ui{uz s:Pr}(h:Lib.indexB s uz= -1):Aw uz s= [s]:=Lib.splitB_miss _ _ _ _ h
def Uh{uz s:Pr}(h1:1<=uz.size)(h:Lib.indexB s uz=i)(hr:i+uz.size<=s.size):Aw uz s=s.extract 0 i::Aw uz (s.extract (i+uz.size) s.size):=by unfold Aw;obtain⟨k,hk⟩:∃k,s.size=k+1:=⟨s.size - 1,oM⟩;rw[hk,Lib.splitB_hit _ _ _ _ i h,<-hk,ky];rw[Xo h1 k (s.extract (i+uz.size) s.size).size _ (by rw[mb];omega) nR]
attribute [local go_sem] Oper.semAt_some
def Zli:Option HT->Nat
 |some (.string s)=>s.size
 |_=>0
def Zlh:Option Obj->Nat
 |some (.cells cs _ _)=>Zli cs[0]?
 |_=>0
def Boxed.same{B:PU}{v:HT}(h:Boxed A b t v)(hs:B.heap[b]?=A.heap[b]?):Boxed B b t v:=hs.Z h
set_option maxRecDepth 100000 in
def Xr(n:Nat)(hn:1<=n)(uz:Pr)(h1:1<=uz.size)(bp bs bz:Nat)(c5:bp≠bs)(c6:bz≠bs)(text:Pr)(ht:text.size<=4096)(m:Int)(gm:bs≠0)(w0:PU)
  (hp:Boxed w0 bp 9 (.string uz)) (hs:Boxed w0 bs 9 (.string text)) (hz:Boxed w0 bz 3 (vi 0)) (hm:w0.cell? ⟨0,0,none⟩=some (vi m)):
  Th n prog 351 #[.pointer (some ⟨bp,0,none⟩),.pointer (some ⟨bs,0,none⟩),.pointer (some ⟨bz,0,none⟩)] Value.string (Aw uz text) bs [bp,bs,bz,0] w0:=by
 intro l J Jx W a4 hJ d3 hY h0;have kp:=Boxed.same hp (a4 bp sI);have ks:=Boxed.same hs (a4 bs sI);have kz:=Boxed.same hz (a4 bz sI);have km:W.cell? ⟨0,0,none⟩=some (vi m):=(World.cell?_of_block (a4 _ sI)).Z hm;have d5:((uz.size:Int)==0)=false:=beq_eq_false_iff_ne.2 oM;have d0:=kp.cell;clear a4 hp hs hz hm;refine callsIn_of_wp func351 rfl trivial ?_ rfl;simp only[Tryz.ntmps351,je,fu,ie,Nat.reduceAdd,Nat.reduceSub,lz,ly,mw,mc,ip,ig]
 gi_wp2
 gi_loopw [] (λwr=>∃(k:Nat) (sy:Pr),J k wr/\Boxed wr bp 9 (.string uz)/\Boxed wr bs 9 (.string sy)/\Boxed wr bz 3 (vi 0)/\wr.cell? ⟨0,0,none⟩=some (vi m)/\sy.size<=4096/\(Aw uz text).drop k=Aw uz sy)
  (λwr=>Zlh (wr.heap[bs]?))
 case atStart=>exact⟨0,text,h0,kp,ks,kz,km,ht,rfl⟩
 case round=>
  obtain⟨k,sy,b7,kp,ks,kz,km,d4,a0⟩:=hrel;have cp:=kp.cell;have cs:=ks.cell;have cz:=kz.cell;rcases Lib.indexB_cases sy uz with a9|⟨i,a9,b6⟩
  .have b2:=Ui a9;have hk:k+1=(Aw uz text).length:=(by have:=jt List.length a0;rw[b2,gh]at this;simp only[fu,ie]at this;omega);have a5:(Aw uz text)[k]=sy:=by have:=lj (xs:=Aw uz text) (i:=k) (j:=0) (h:=by rw[a0,b2];simp);simp only[a0,b2,qr,ky]at this;exact this.H
   obtain⟨fn,tmps,assign,body,hy,hR⟩:=hY k oM wr b7;rw[a5]at hy;have HA:Aside (k+1=(Aw uz text).length):=hk;clear hk a0 b2 a5
   gi_wp2_with (refine⟨trivial,?_⟩;gi_at_call 352;refine(callsIn_wide.2 (Any.strings_Index Tryz.Xb2 sy uz m wr oM km)).O ?_;rintro e w' ⟨rfl,rfl⟩;rw[show Lib.index sy.data.toList uz.data.toList= -1 from a9])
   refine hR.O ?_;rintro e W3 (⟨rfl,b5,b0⟩|⟨rfl,a6⟩)
   .gi_wp2
    go_end0
    exact⟨⟨_,rfl⟩,.inl (HA.sw▸b5)⟩
   .gi_wp2
    go_end0
    exact⟨⟨_,rfl⟩,.inr a6⟩
  .have a7:=Uh h1 a9 b6;have hk:k<(Aw uz text).length:=(by have:=jt List.length a0;rw[a7,gh]at this;simp only[fu]at this;omega);have a5:(Aw uz text)[k]=sy.extract 0 i:=by have:=lj (xs:=Aw uz text) (i:=k) (j:=0) (h:=by rw[a0,a7];simp);simp only[a0,a7,qr,ky]at this;exact this.H
   have a8:(Aw uz text).drop (k+1)=Aw uz (sy.extract (i+uz.size) sy.size):=(by rw[<-kr,a0,a7,List.drop_one,List.tail_cons]);obtain⟨fn,tmps,assign,body,hy,hR⟩:=hY k hk wr b7;rw[a5]at hy;have HA:Aside ((Aw uz text).drop (k+1)=Aw uz (sy.extract (i+uz.size) sy.size)):=a8;clear hk a0 a7 a5 a8;have c0: ¬((i:Int)<0):=oM;have c1:(0:Int)<= ↑i:=oM;have c2:(↑i:Int)<= ↑sy.size:=oM;have c3:(0:Int)<= ↑i+ ↑uz.size:=oM;have c4:(↑i+ ↑uz.size:Int)<= ↑sy.size:=oM;have c8:(↑i+ ↑uz.size:Int)<=9223372036854775807:=oM
   gi_wp2_with (refine⟨trivial,?_⟩;gi_at_call 352;refine(callsIn_wide.2 (Any.strings_Index Tryz.Xb2 sy uz m wr oM km)).O ?_;rintro e w' ⟨rfl,rfl⟩;rw[show Lib.index sy.data.toList uz.data.toList=i from a9])
   refine hR.O ?_;rintro e W3 (⟨rfl,b5,b0⟩|⟨rfl,a6⟩)
   .have b9:=Boxed.same kp (b0 bp sI);have b4:=Boxed.same ks (b0 bs sI);have c7:=Boxed.same kz (b0 bz sI);have b8:W3.cell? ⟨0,0,none⟩=some (vi m):=(World.cell?_of_block (b0 _ sI)).Z km;have d1:=b9.cell;have d2:=b4.cell;have c9:=b4.frozen
    gi_wp2
    go_roundw
    case rel=>have ht:=grownBy_setCell' W3 bs (.string (sy.extract (i+uz.size) sy.size));exact⟨k+1,sy.extract (i+uz.size) sy.size,hJ _ _ _ b5 ht,b9.kept ht (by simpa using c5),b4.set _,c7.kept ht (by simpa using c6),(World.cell?_of_block (ht.block _ (World.block_lt_of_cell? _ _ b8) (by simp;omega))).Z b8,by rw[mb];omega,HA.sw⟩
    case measure=>have e1:=ks;have e2:=b4.set (.string (sy.extract (i+uz.size) sy.size));unfold Boxed at e1 e2;rw[e1,e2];show(sy.extract (i+uz.size) sy.size).size<sy.size;rw[mb];omega
   .gi_wp2
    refine bodyPost_ret (results_none rfl _ _ _) rfl ?_;exact⟨⟨_,rfl⟩,.inr a6⟩
end Go.Hal
namespace Go.Hal
abbrev Rk:=Int×Int
abbrev Λ:=List Rk
def Bc(n:Int)(l:Λ):Bool:=l.any λx=>decide (x.1<=n)&&decide (n<=x.2)
def Eu:Int->Λ->Prop
 |_,[]=>True
 |m,x::r=>m<=x.1/\x.1<=x.2/\Eu (x.2+2) r
def FF(l:Λ):Prop:=∀x∈l,0<=x.1/\x.1<=999999999/\0<=x.2/\x.2<=999999999
def C9(n:Int)(x:Rk)(r:Λ):Bc n (x::r)=true↔(x.1<=n/\n<=x.2)\/Bc n r=true:=by simp[Bc]
def RI{l:Λ}:∀{m n:Int},Eu m l->Bc n l=true->m<=n:=by
 induction l with
 |nil=>intro m n _ h;simp[Bc]at h
 |cons x r ih=>
  intro m n h k;rcases(C9 _ _ _).1 k with k|k
  .have:=h.1;omega
  .have:=ih h.2.2 k;have:=h.1;have:=h.2.1;omega
def one(a b:Rk):Λ:=if max a.1 b.1<=min a.2 b.2 then [(max a.1 b.1,min a.2 b.2)]else []
def D1:Rk->Λ->Λ
 |y,[]=>[y]
 |y,x::r=>if x.1<=y.2+1 then D1 (y.1,max y.2 x.2) r else y::D1 x r
def Dl:Λ->Λ
 | []=>[]
 |y::r=>D1 y r
def Et(l:Λ):Prop:=l.Pairwise λa b=>a.1<=b.1
def Zel(n:Int)(r:Λ):∀(y:Rk),Et (y::r)->y.1<=y.2->(∀x∈r,x.1<=x.2)->(Bc n (D1 y r)=true↔Bc n (y::r)=true):=by
 induction r with
 |nil=>intro y _ _ _;rfl
 |cons x r ih=>
  intro y hs hy hr;have h1:y.1<=x.1:=(iq.1 hs).1 x (.head _);have hx:=hr x (.head _);have a0:=(iq.1 hs).2;rw[D1];by_cases h:x.1<=y.2+1
  .rw[fl h,ih (y.1,max y.2 x.2) (iq.2 ⟨λz hz=>(iq.1 hs).1 z (.tail _ hz),(iq.1 a0).2⟩) (by simp only;omega) λz hz=>hr z (.tail _ hz),C9,C9,C9];simp only;constructor
   .rintro(h2|h2)
    .by_cases h3:n<=y.2
     .exact .inl ⟨h2.1,h3⟩
     .exact .inr (.inl oM)
    .exact .inr (.inr h2)
   .rintro(h2|h2|h2)
    .exact .inl oM
    .exact .inl oM
    .exact .inr h2
  .rw[fa h,C9,ih x a0 hx λz hz=>hr z (.tail _ hz),C9,C9,C9]
def Zek(r:Λ):∀(y:Rk)(m:Int),m<=y.1->Et (y::r)->y.1<=y.2->(∀x∈r,x.1<=x.2)->Eu m (D1 y r):=by
 induction r with
 |nil=>intro y m hm _ hy _;exact⟨hm,hy,trivial⟩
 |cons x r ih=>
  intro y m hm hs hy hr;have h1:y.1<=x.1:=(iq.1 hs).1 x (.head _);have hx:=hr x (.head _);have a0:=(iq.1 hs).2;rw[D1];by_cases h:x.1<=y.2+1
  .rw[fl h];exact ih (y.1,max y.2 x.2) m hm (iq.2 ⟨λz hz=>(iq.1 hs).1 z (.tail _ hz),(iq.1 a0).2⟩) (by simp only;omega) λz hz=>hr z (.tail _ hz)
  .rw[fa h];exact⟨hm,hy,ih x _ oM a0 hx λz hz=>hr z (.tail _ hz)⟩
def Zem(r:Λ):∀(y:Rk),(D1 y r).length<=r.length+1:=by
 induction r with
 |nil=>intro y;exact fx _
 |cons x r ih=>
  intro y;rw[D1];split
  .have:=ih (y.1,max y.2 x.2);simp only[fu];omega
  .have:=ih x;simp only[fu];omega
def BU(l:Λ):Κ:=l.map λx=>⟨Db x.1,Db x.2⟩
def WR{m:Int}{x:Rk}{r:Λ}(h:Eu m (x::r)){n:Int}:Bc n r=true↔Bc n (x::r)=true/\x.2<n:=by
 rw[C9];constructor
 .intro h1;have:=RI h.2.2 h1;exact⟨.inr h1,oM⟩
 .rintro⟨h1|h1,h2⟩
  .omega
  .exact h1
def WQ:∀{l k:Λ} {m n:Int},Eu m l->Eu n k->(∀a,Bc a l=true↔Bc a k=true)->l=k
 | [],[],_,_,_,_,_=>rfl
 | [],y::k,_,_,_,hk,h=>by have:=(h y.1).2 ((C9 _ _ _).2 (.inl ⟨ny _,hk.2.1⟩));simp[Bc]at this
 |x::l,[],_,_,hl,_,h=>by have:=(h x.1).1 ((C9 _ _ _).2 (.inl ⟨ny _,hl.2.1⟩));simp[Bc]at this
 |x::l,y::k,m,n,hl,hk,h=>by
  have hx:Bc x.1 (y::k)=true:=(h _).1 ((C9 _ _ _).2 (.inl ⟨ny _,hl.2.1⟩));have hy:Bc y.1 (x::l)=true:=(h _).2 ((C9 _ _ _).2 (.inl ⟨ny _,hk.2.1⟩));have low:∀{z:Rk} {r:Λ} {a m:Int},Eu m (z::r)->Bc a (z::r)=true->z.1<=a:=λ{z r a m} h1 h2=>by
   rcases(C9 _ _ _).1 h2 with h3|h3
   .exact h3.1
   .have:=RI h1.2.2 h3;have:=h1.2.1;omega
  have e1:x.1=y.1:=by have:=low hk hx;have:=low hl hy;omega
  have a0:∀{z:Rk} {r:Λ} {m:Int},Eu m (z::r)-> ¬Bc (z.2+1) (z::r)=true:=λ{z r m} h1 h2=>by
   rcases(C9 _ _ _).1 h2 with h3|h3
   .omega
   .have:=RI h1.2.2 h3;omega
  have e2:x.2=y.2:=by
   obtain h1|h1|h1:=Int.lt_trichotomy x.2 y.2
   .exact fm ((h (x.2+1)).2 ((C9 _ _ _).2 (.inl ⟨by have:=hl.2.1;omega,oM⟩))) (a0 hl)
   .exact h1
   .exact fm ((h (y.2+1)).1 ((C9 _ _ _).2 (.inl ⟨by have:=hk.2.1;omega,oM⟩))) (a0 hk)
  have e3:=WQ (l:=l) (k:=k) hl.2.2 hk.2.2 λa=>by rw[WR hl,WR hk,h a,e2]
  rw[e3,Prod.U e1 e2]
inductive Sign
 |none|eq|lt|le|gt|ge|tilde|caret
def Sign.text:Sign->LU
 | .none=>[]
 | .eq=>[61]
 | .lt=>[60]
 | .le=>[60,61]
 | .gt=>[62]
 | .ge=>[62,61]
 | .tilde=>[126]
 | .caret=>[94]
def Sign.ē(g:Sign)(v:tj):Rk:=
 let n:=v.J;let minor:=n - v.pa+999;let major:=minor+(999 - v.mi)*1000
 match g with
 | .none=>(n,n)
 | .eq=>(n,n)
 | .lt=>(0,n - 1)
 | .le=>(0,n)
 | .gt=>(n+1,999999999)
 | .ge=>(n,999999999)
 | .tilde=>(n,minor)
 | .caret=>if 0<v.ma then(n,major)else if 0<v.mi then(n,minor)else(n,n)
inductive wo:LU->Rk->Prop
 |all:wo [42] (0,999999999)
 |sign (g:Sign) {t:LU} {v:tj}:zg t v->wo (g.text++t) (g.ē v)
def CR(b:UInt8):Bool:=b==60||b==61||b==62||b==94||b==126
def Sign.chars(g:Sign):∀b∈g.text,CR b=true:=by cases g<;>decide
def Pe{g:Sign}{t:LU}{v:tj}(h:zg t v):(g.text++t).takeWhile CR=g.text/\(g.text++t).dropWhile CR=t:=by
 obtain⟨b,r,rfl,hb⟩:=h.head;have hn:CR b=false:=by
  unfold Ko at hb;simp only[dz,fk]at hb;unfold CR;have e:∀c:UInt8,c.toNat<48\/57<c.toNat->(b==c)=false:=λc hc=>by rw[px];rintro rfl;omega
  rw[e 60 dC,e 61 dC,e 62 dC,e 94 dC,e 126 dC];rfl
 constructor
 .rw[ri g.chars,List.takeWhile_cons_of_neg (by rw[hn];simp),gv]
 .rw[List.dropWhile_append_of_pos g.chars,List.dropWhile_cons_of_neg (by rw[hn];simp)]
def Sign.Xbm{g k:Sign}(h:g.text=k.text):g=k:=by cases g<;>cases k<;>first|rfl|(exact fm h dC)
def wo.one{s:LU}{a b:Rk}(h:wo s a)(k:wo s b):a=b:=by
 have a0:∀{g:Sign} {t:LU} {v:tj},zg t v->g.text++t≠ [42]:=λ{g t v} hv he=>by
  have h1:=Pe (g:=g) hv;rw[he]at h1;obtain⟨c,r,rfl,hc⟩:=hv.head;have:=h1.2;have h2:([42]:LU).dropWhile CR= [42]:=by decide
  rw[h2]at this;cases this;revert hc;decide
 cases h with
 |all=>
  generalize he:([42]:LU)=s at k;cases k with
  |all=>rfl
  |sign g hv=>exact fm he.H (a0 hv)
 | @sign g t v hv=>
  generalize he:g.text++t=s at k;cases k with
  |all=>exact fm he (a0 hv)
  | @sign g' t' v' hv'=>have h1:=Pe (g:=g) hv;have h2:=Pe (g:=g') hv';rw[he]at h1;have e1:=Sign.Xbm (h1.1.H.Z h2.1);have e2:=h1.2.H.Z h2.2;subst e1 e2;rw[hv.one hv']
def HM(acc:LU):LU->List (List UInt8)
 | []=>if acc=[]then []else [acc]
 |b::r=>if b=32 then(if acc=[]then HM [] r else acc::HM [] r)else HM (acc++[b]) r
def GB(s:LU):List (List UInt8):=HM [] s
def GO(acc:LU):LU->List (List UInt8)
 | []=>[acc]
 | [b]=>[acc++[b]]
 |b::c::r=>if b=124/\c=124 then acc::GO [] r else GO (acc++[b]) (c::r)
def JT(s:LU):List (List UInt8):=GO [] s
def P1(s:LU):Prop:=GB s≠[]/\∀w∈GB s,∃a,wo w a
def P0(s:LU)(n:Int):Prop:=0<=n/\n<=999999999/\∀w∈GB s,∀a,wo w a->a.1<=n/\n<=a.2
def GK(s:LU):Prop:=s.length<=4096/\∀a∈JT s,P1 a
structure yr(s:LU)(l:Λ):Prop where
 ok:GK s
 V:Eu 0 l
 has:∀n,Bc n l=true↔∃a∈JT s,P0 a n
def yr.one{s:LU}{l k:Λ}(h:yr s l)(h':yr s k):l=k:=WQ h.V h'.V λn=>(h.has n).Z (h'.has n).H
def BL:Pr:=bm #[32]
def Bt:Pr:=bm #[124,124]
def Sign.Xbf{g:Sign}{v:tj}(hv:v.vt=true):(0<=(g.ē v).1/\(g.ē v).1<=1000000000)/\(-1<=(g.ē v).2/\(g.ē v).2<=999999999):=by
 have hm:=tj.vu.1 hv;have hr:v.J=(v.ma*1000+v.mi)*1000+v.pa:=by rw[tj.J,fl hv,tj.num]
 cases g<;>simp only[Sign.ē]<;>(try split)<;>(try split)<;>(try simp only)<;>omega
def wo.in{t:LU}{a:Rk}(h:wo t a):(0<=a.1/\a.1<=1000000000)/\(-1<=a.2/\a.2<=999999999):=by
 cases h with
 |all=>decide
 |sign g hv=>exact Sign.Xbf hv.1
def Ŝ(_:Pr):Prop:=True
def Ŝ.piece{a b t:Pr}(_:Ŝ a)(_:b∈Aw Bt a)(_:t∈Aw BL b):Ŝ t:=trivial
end Go.Hal
namespace Go.Proofs
open Go.Maps
attribute [local go_sem] Oper.semAt_some
def VL:maxLen=9223372036854775807:=rfl
def M4(x:Int×Int):HT:=.agg #[vi x.1,vi x.2]
set_option maxRecDepth 100000 in
def Zjh(F:Fence)(n:Nat)(hF:F.fn 357)(b2:F.round=none)(hn:1<=n)(l Bs n₀ b off len cap:Nat)(zs:List (Int×Int))(b4:zs.length=len)(a7:len*16<=140737488351232)(hb:b<n₀)(J Jx:List (Int×Int)->Wp)
  (hJ:∀pre W W',J pre W->Below W.heap.size W W'->J pre W')
  (hY:∀pre x W,J pre W->pre.length<len->YieldAt F (n - 1) prog l #[M4 x] W λe W'=>(e= .returned (.bool true)/\J (pre++[x]) W'/\Below n₀ W W')\/(e= .returned (.bool false)/\Jx (pre++[x]) W'))
  (W:PU) (b0:n₀<=W.heap.size) (b5:W.cell? ⟨Bs,0,none⟩=some (.slice (some ⟨b,off,none⟩) len cap)) (hc:∀j (h:j<zs.length),W.cell? ⟨b,off+j*2,none⟩=some (.int .i64 zs[j].1)/\W.cell? ⟨b,off+j*2+1,none⟩=some (.int .i64 zs[j].2)) (h0:J [] W):
  CallsIn F n prog 357 #[.func (.yield l) #[] #[],.pointer (some ⟨Bs,0,none⟩)] W λe W'=>(∃v,e= .returned v)/\((∃ys,ys=zs/\J ys W')\/(∃pre,pre<+:zs/\Jx pre W')):=by
 refine callsIn_of_wp func357 rfl hF ?_ b2;simp only[Tryz.ntmps357,je,fu,ie,Nat.reduceAdd,Nat.reduceSub,lz,ly,mw,mc,ip,ig]
 gi_wp2
 gi_loopw [7] (λi wr=>∃k:Nat,k<=len/\i= .int .i64 k/\J (zs.take k) wr/\Below n₀ W wr)
  (λi _=>len - (intOf i).toNat)
 case atStart=>exact⟨0,ib _,rfl,h0,Below.refl _ _⟩
 case round=>
  obtain⟨k,hk,rfl,a6,a4⟩:=hrel;by_cases b6:k<len
  .have a0:k<zs.length:=oM;have c1:wr.cell? ⟨b,off+k*2,none⟩=some (.int .i64 zs[k].1):=(a4.cell (p:=⟨b,off+k*2,none⟩) hb).Z (hc k a0).1;have c2:wr.cell? ⟨b,off+k*2+1,none⟩=some (.int .i64 zs[k].2):=(a4.cell (p:=⟨b,off+k*2+1,none⟩) hb).Z (hc k a0).2;obtain⟨fn,tmps,assign,body,hy,hR⟩:=hY (zs.take k) zs[k] (wr.alloc (.cells #[.int .i64 zs[k].1,.int .i64 zs[k].2] 305)) (hJ _ _ _ a6 (Below.alloc (Below.refl _ _) nR _)) (by rw[fg];omega);unfold M4 at hy;have hx:=Below.alloc a4 (fj b0 a4.size) (.cells #[.int .i64 zs[k].1,.int .i64 zs[k].2] 305)
   gi_wp2
   refine hR.O ?_;rintro e W3 (⟨rfl,a8,a9⟩|⟨rfl,a5⟩)
   .gi_wp2
    go_roundw
    case rel=>exact⟨k+1,oM,by simp,by rwa [dw a0],hx.Z a9⟩
    case measure=>simp[intOf];omega
   .gi_wp2
    refine bodyPost_ret (results_none rfl _ _ _) rfl ?_;rw[<-dw a0]at a5;exact⟨⟨_,rfl⟩,.inr ⟨_,List.take_prefix _ _,a5⟩⟩
  .obtain rfl:k=len:=oM
   gi_wp2
   go_end0
   refine⟨⟨_,rfl⟩,.inl ⟨zs,rfl,?_⟩⟩;rw[ia oM]at a6;exact a6
def RkS(n₀:Nat)(W:PU)(sv:HT)(zs:List (Int×Int)):Prop:=
 (sv= .slice none 0 0/\zs=[])\/∃b off cap,sv= .slice (some ⟨b,off,none⟩) zs.length cap/\b<n₀/\∀j (h:j<zs.length),W.cell? ⟨b,off+j*2,none⟩=some (.int .i64 zs[j].1)/\W.cell? ⟨b,off+j*2+1,none⟩=some (.int .i64 zs[j].2)
def RkS.below{n₀:Nat}{B:PU}(h:Below n₀ A B){sv:HT}{zs:List (Int×Int)}:RkS n₀ A sv zs->RkS n₀ B sv zs
 | .inl e=>.inl e
 | .inr ⟨b,off,cap,e,hb,hc⟩=>.inr ⟨b,off,cap,e,hb,λj hj=>⟨(h.cell (p:=⟨b,off+j*2,none⟩) hb).Z (hc j hj).1,(h.cell (p:=⟨b,off+j*2+1,none⟩) hb).Z (hc j hj).2⟩⟩
set_option maxRecDepth 100000 in
def Zji(F:Fence)(n:Nat)(hF:F.fn 357)(a4:F.round=none)(l Bs:Nat)(J:List (Int×Int)->Wp)(W:PU)(a5:W.cell? ⟨Bs,0,none⟩=some (.slice none 0 0))(h0:J [] W):
  CallsIn F n prog 357 #[.func (.yield l) #[] #[],.pointer (some ⟨Bs,0,none⟩)] W λe W'=>(∃v,e= .returned v)/\J [] W':=by
 refine callsIn_of_wp func357 rfl hF ?_ a4;simp only[Tryz.ntmps357,je,fu,ie,Nat.reduceAdd,Nat.reduceSub,lz,ly,mw,mc,ip,ig]
 gi_wp2
 gi_loopw [7] (λi wr=>i= .int .i64 0/\J [] wr) (λ_ _=>0)
 case atStart=>exact⟨rfl,h0⟩
 case round=>
  obtain⟨rfl,a0⟩:=hrel
  gi_wp2
  go_end0
  exact⟨⟨_,rfl⟩,a0⟩
def Zjj(F:Fence)(n:Nat)(hF:F.fn 357)(a6:F.round=none)(hn:1<=n)(Bs n₀:Nat)(sv:HT)(zs:List (Int×Int))(a0:zs.length*16<=140737488351232)(w:PU)(a5:n₀<=w.heap.size)(a7:Bs<w.heap.size)
  (a8:w.cell? ⟨Bs,0,none⟩=some sv) (hI:RkS n₀ w sv zs):
  SeqStopsK F n prog 357 #[.pointer (some ⟨Bs,0,none⟩)] (λx=>#[M4 x]) (Below n₀) (λys=>ys=zs) (λpre=>pre<+:zs) zs.length w:=λl J Jx W hW hJ _ hY h0=>by
 have a4:=(hW.cell (p:=⟨Bs,0,none⟩) a7).Z a8;rcases hI.below (hW.O a5)with⟨rfl,rfl⟩|⟨b,off,cap,rfl,hb,a9⟩
 .exact(Zji F n hF a6 l Bs J W a4 h0).O λe W' ⟨he,hj⟩=>⟨he,.inl ⟨_,rfl,hj⟩⟩
 .exact Zjh F n hF a6 hn l Bs n₀ b off zs.length cap zs rfl a0 hb J Jx (λpre W W' h hb=>hJ pre W W' none h ⟨hb.os,hb.tape,hb.output,hb.size,λk hk _=>hb.block k hk⟩ (λr e=>by cases e)) hY W (fj a5 hW.size) a4 a9 h0
def Cq(l:List (Int×Int)):LV:=(l.map λx=>[Value.int .i64 x.1,vi x.2]).flatten
def WP(l:List (Int×Int))(x:Int×Int):Cq (l++[x])=Cq l++[Value.int .i64 x.1,vi x.2]:=by simp[Cq]
set_option maxRecDepth 100000 in
def Zjd(F:Fence)(n:Nat)(hF:F.fn 383)(b2:F.fn 357)(a9:F.round=none)(hn:3<=n)(Bs:Nat)(sv:HT)(zs:List (Int×Int))(hz:zs.length<=1000000)(w:PU)(b6:Bs<w.heap.size)
  (b7:w.cell? ⟨Bs,0,none⟩=some sv) (hI:RkS w.heap.size w sv zs):
  CallsIn F n prog 383 #[.slice none 0 0,.func (.func 357) #[] #[.pointer (some ⟨Bs,0,none⟩)]] w λe W'=>∃v,e= .returned v/\W'.ownsRow w.heap.size 305 2 v zs.length (Cq zs)/\Below w.heap.size w W':=by
 have h1:1<=n:=oM;obtain⟨i0,hi,c6,c7,c8⟩:=info_parts (show(prog.info? 305).map (λi=>(i.zero,i.size,i.bytes))=some (some (.agg #[vi 0,vi 0]),2,16) by kernel_rfl);refine callsIn_of_wp_marks func383 rfl hF ?_ a9;simp only[Tryz.ntmps383,je,fu,ie,Nat.reduceAdd,Nat.reduceSub,lz,ly,mw,mc,ip,ig]
 gi_wp2
 have bO:=Boxed.new w 302 (.slice none 0 0);have a7:Below w.heap.size w (w.alloc (.cells #[.slice none 0 0] 302)):=(Below.refl _ w).alloc nR _;refine wpIn_rangeFunc_ownH a9 h1 (gf:=357) (lb:=#[.pointer (some ⟨Bs,0,none⟩)]) rfl b2 (enters_of func357 kR rfl)
  (Zjj F (n - 1) b2 a9 oM Bs w.heap.size sv zs oM _ sI (by simp;omega) ((a7.cell (p:=⟨Bs,0,none⟩) b6).Z b7) (hI.below a7)) belowK_t (belowK_b sI) (Below.refl _ _) (λ_=>rfl)
  (λpre W=>(∃v,Boxed W w.heap.size 302 v/\W.ownsRow w.heap.size 305 2 v pre.length (Cq pre)/\True)/\Below w.heap.size w W)
  (λ_ _ _=>False)
  (OwnFrom.and (Own.from (holdsRow_own w.heap.size w.heap.size 302 305 2 (λpre=>pre.length) (λpre=>Cq pre) (λ_ _=>True)) _) (ownFrom_below nR sI))
  (λ_ _ _ _ _ hs _ _=>hs)
  ⟨⟨_,bO,World.ownsRow_nil _ _ _ _,trivial⟩,a7⟩
  (λx a' W=>∃Bx,W.heap[Bx]?=some (.cells #[vi x.1,vi x.2] 305 (0,0))/\a'={tmps:=#[.slice none 0 0,.func (.func 357) #[] #[.pointer (some ⟨Bs,0,none⟩)],.pointer (some ⟨w.heap.size,0,none⟩),undef,.slice none 0 0,.pointer (some ⟨Bx,0,none⟩),.func (.func 357) #[] #[.pointer (some ⟨Bs,0,none⟩)],M4 x,undef,undef,undef,undef,undef],defers:=[]})
  (λx a' _ X Y row hs hg hr=>by obtain⟨Bx,h2,h3⟩:=hs;refine⟨Bx,(hg.block Bx (fb.1 h2).1 (λe=>?_)).Z h2,h3⟩;obtain⟨o,ho,b8⟩:=(hr Bx e.H).2;rw[h2]at ho;cases ho;cases b8)
  ?assign ?body ?done ?stop
 case assign=>
  rintro l pre x W K ⟨⟨v,a6,a0,_⟩,a4⟩ hK;unfold M4 at hK ⊢
  gi_wp2
  exact hK _ _ ((KeepsOthers.alloc _ _).from _) ((Below.refl _ W).alloc a4.size _) ⟨⟨v,a6.alloc _,a0.alloc _,trivial⟩,a4.alloc a4.size _⟩ ⟨W.heap.size,World.alloc_heap_new W _,rfl⟩
 case body=>
  rintro l pre x a' W hl ⟨r,hr⟩ ⟨⟨v,a6,a0,_⟩,a4⟩ ⟨Bx,b0,rfl⟩ d4;have b9:=a6.cell;have d0:W.cell? ⟨Bx,0,none⟩=some (vi x.1):=by simp[World.cell?,b0]
  have d1:W.cell? ⟨Bx,1,none⟩=some (vi x.2):=by simp[World.cell?,b0]
  gi_wp2_with (gi_at_builtin;refine wpListIn_append_own _ rfl _ _ 302 rfl w.heap.size 305 i0 (.agg #[vi 0,vi 0]) 2 16 underlying302 hi c6 c7 c8 rfl dC _ _ _ rfl (a0.alloc _) ⟨W.heap.size,0,none⟩ 1 1 [vi x.1,vi x.2] rfl rfl (λj u hj=>by rw[show(⟨W.heap.size,0,none⟩:LP).add j=⟨W.heap.size,j,none⟩ by unfold Addr.add;split<;>simp_all];rwa [World.cell?_alloc_mark,kh]) (by simp[Value.oneCell']) (by rw[VL];omega) oM (by have:=a4.size;simp;omega) ?_;intro v' w1 a5 a8 _;obtain⟨g',c9,rfl⟩:=ownsRow_succ a5;obtain⟨b5,c5,c4,c3,b4⟩:=a6.appended dC a0 a4.size nR a5 a8;have d2:=b5.cell;have d3:=b5.frozen)
  exact⟨c3.from _,b4,⟨_,c5,by rw[WP];simpa using c4,trivial⟩,a4.Z b4⟩
 case done=>
  rintro D ys W hD rfl ⟨⟨v,hv,a0,_⟩,hB⟩ hK;have b9:=hv.cell
  gi_wp2
  refine⟨by simp,.inl ⟨_,_,rfl,run_takeDeferred hK,?_⟩⟩;exact⟨_,results_tmp rfl _ _ _,v,rfl,ownsRow_putObj a0 _ hK rfl,hB.Z (belowK_b (w:=w) nR W D _ _ (by simp at hD;omega) hK rfl rfl)⟩
 case stop=>rintro D c pre W _ _ h _;exact h.F
end Go.Proofs
namespace Go.Hal
end Go.Hal
/-
 DERIVED:THE SHELF's CONTRACTS AT THIS DUMP,IN PLAIN WORDS (tools/lay-plain.mjs sw of 'YtgolaibmophnjaaGreatDoorLay3.lean',which tools/lay-shelf.mjs wrote):THE SAME DECLARATIONS UNDER THE SAME NAMES:'import','namespace','open','def','theorem' AND NOTHING ELSE:no command of the shelf's:FOR A HAND-IN. Each laying:the table of numbers ('.._ren') and one theorem,a field a fact of the dump's uy or the kernel's comparison;each contract:ONE APPLICATION.
-/
namespace Go.Proofs
def Tryz.Xan:Go.Shelf.Ren:=⟨λ|6=>356|15=>106|14=>384|28=>171|29=>172|20=>401|21=>402|22=>403|23=>404|24=>405|25=>406|26=>407|27=>408|46=>418|47=>258|48=>259|49=>419|50=>420|57=>424|n=>n,λ|22=>302|24=>305|25=>376|3=>3|39=>185|0=>0|53=>249|55=>251|4=>4|46=>242|45=>241|50=>246|5=>5|9=>9|66=>317|70=>321|76=>366|77=>367|n=>n,λ|n=>n⟩
def Tryz.Xb4:Go.Proofs.SlLaysF0.n6 prog Tryz.Xan:=by repeat' first|kernel_rfl|exact Fx kR kR|(intro w;kernel_rfl)|constructor
end Go.Proofs
namespace Go.Hal
def ŷ(x:Rk):LV:=[vi x.1,vi x.2]
def Zje(l:Λ):Cq l=(l.map ŷ).flatten:=rfl
def Ū(l:Λ):(Cq l).length=l.length*2:=by rw[Zje,CN ŷ (k:=2) λ_=>rfl]
def Zjg(l:Λ):∀{i:Nat} (hi:i<l.length) (v:Int),(Cq l).set (i*2+1) (vi v)=Cq (l.set i (l[i].1,v)):=by
 induction l with
 |nil=>intro i hi;simp at hi
 |cons x r ih=>
  intro i hi v;cases i with
  |zero=>rfl
  |succ i=>have e:(i+1)*2+1=(i*2+1)+1+1:=oM;have a0:i<r.length:=(by simpa using hi);have h:=ih a0 v;show([Value.int .i64 x.1,vi x.2]++Cq r).set _ _= [Value.int .i64 x.1,vi x.2]++Cq (r.set i (r[i].1,v));rw[e,<-h];rfl
section
variable {T:LN} {w:PU} {lo:Nat} {S:Nat->Prop} {s:Sl} {l:Λ}
def OF.Xb9(h:OF Đ T w lo S s l):w.ownsRow lo T 2 s.v s.len (Cq l):=by
 obtain⟨css,ho,hl,hr⟩:=h.row;have e:css=l.map ŷ:=by apply rb (by simp[hl]);intro i h1 h2;obtain⟨cs,k1,k2⟩:=hr i (l[i]'(by simpa using h2)) (dt (by simpa using h2));rw[dt h1,eu]at k1;rw[k1,ng];exact k2.1
 rw[e]at ho;exact ho
def OF.Xcn{v:HT}(h:w.ownsRow lo T 2 v l.length (Cq l)):∃s:Sl,v=s.v/\OF Đ T w lo se s l:=by
 have h1:∃s:Sl,v=s.v/\s.len=l.length:=by
  rcases h.2 with⟨hv,hn⟩|⟨g,cap,a0,hv,_⟩
  .exact⟨Sl.nil,hv,hn.H⟩
  .exact⟨⟨some ⟨g,0,none⟩,l.length,cap⟩,hv,rfl⟩
 obtain⟨s,rfl,hs⟩:=h1;refine⟨s,rfl,⟨l.map ŷ,by rwa [hs],by simp,λi x hx=>⟨ŷ x,by rw[gu,hx];rfl,rfl,trivial⟩⟩,hs,λ_ h=>h.F,λ_ _ h=>h.F⟩
def OF.Xc9{v:Int}{K:Wp}(h:OF Đ T w lo se s l)(hi:i<l.length)(ha:s.a=some ad)(hK:∀w',uv ad.block w w'->OF Đ T w' lo se s (l.set i (l[i].1,v))->K w'):ry w ((ad.add (i*2)).add 1) [vi v] K:=by
 have ho:=h.Xb9;have hl:=h.len;rcases ho.2 with⟨hv,_⟩|⟨g,cap,a0,hv,hg,hh,hc,a8,a9,ht⟩
 .simp[Sl.v]at hv;rw[hv.1]at ha;cases ha
 .have a7:ad=⟨g,0,none⟩:=by simp[Sl.v]at hv;rw[hv.1]at ha;exact(jv ha).H
  subst a7;have a4:i*2+1+1<=a0.size:=oM;rw[Dg,GN];refine⟨a0,T,hh,rfl,by simpa using a4,hK _ ⟨by simp[World.setRow],rfl,rfl,rfl,λc hc b0=>setRow_other w g c _ b0⟩ ?_⟩;have a6:(Du a0 (i*2+1) [vi v]).toList=a0.toList.set (i*2+1) (vi v):=by unfold Du;rw[List.set_eq_take_append_cons_drop,fl (by rw[ko (xs:=a0)];omega)];simp
  have a5:(w.setRow g (Du a0 (i*2+1) [vi v])).ownsRow lo T 2 s.v (l.set i (l[i].1,v)).length (Cq (l.set i (l[i].1,v))):=by
   refine⟨Ū _,.inr ⟨g,cap,_,by rw[hv,ji,hl],hg,setRow_heap w g a0 _ T _ hh,by rwa [ji,<-hl],a8,?_,?_⟩⟩
   .rwa [<-ko,a6,ji,ko (xs:=a0)]
   .rw[a6,List.take_set,ji,<-hl,ht,Zjg l hi]
  obtain⟨s',e,uy⟩:=OF.Xcn a5;have:s'=s:=by obtain⟨a,n,c⟩:=s;obtain⟨a',n',c'⟩:=s';simpa[Sl.v,eq_comm]using e
  subst this;exact uy
end
def Xbj{l:Λ}{R:Sl->Wp}(hs:No Đ w S s l)(hl:l.length<=64)(hR:∀t w',AI w w'->No uo w' (λb=>w.heap.size<=b/\b<w'.heap.size) t (BU l)->R t w'):MX s w R:=by
 unfold MX;have d6:=hs.len;have eb:uo.bytes=48:=rfl;refine th.up hs.max (λsw i w'=>AI w w'/\OF uo 223 w' w.heap.size se sw (BU (l.take i))) ⟨AI.refl _,OF.zero _⟩ λsw i w1 d7 hi ⟨x1,uy⟩ hn=>⟨λc5=>?_,λd5=>?_⟩
 .have a4:i<l.length:=oM;obtain⟨ad,c6,_,hc⟩:=OX hs a4;refine⟨ad,⟨c6,oM,c5⟩,_,_,hc _ x1,An.intro λa w2 x2 b5 d2 _=>tk.intro b5 sI λw3 b3 _ b0=>?_⟩;have c8:AI w1 w3:=b3.U x2 oM;refine⟨_,b0.at0 xR rfl,G8.V (í λw4 x4=>⟨_,_,_,_,rfl,An.intro λa5 w5 x5 b7 d3 _=>tk.intro b7 sI λw6 b6 _ b8=>?_⟩)⟩;have c9:AI w4 w6:=b6.U x5 oM;have b2:=x4.Z c9;refine⟨_,AT.at1 b0 (k:=1) b2 rfl,G8.V (í λw7 x7=>⟨_,_,_,_,rfl,An.intro λa8 w8 x8 c3 d4 _=>tk.intro c3 sI λw9 b9 _ c4=>?_⟩)⟩;have d0:AI w7 w9:=b9.U x8 oM;have b4:=x7.Z d0;refine⟨_,_,_,b8.at0 (r:=[]) b4 rfl,_,_,_,c4.at0 (r:=[]) xR rfl,An.intro λd1 d8 c7 a9 _ _=>?_⟩;have a6:=c8.Z (b2.Z (b4.Z c7));have a0:(BU (l.take i)).length=i:=by unfold BU;rw[ec,fg];omega
  refine(uy.U a6).push T2 (x1.Z a6).size (x:=⟨Db l[i].1,Db l[i].2⟩) (S':=se) (cs:=(Db l[i].1).c++(Db l[i].2).c) ⟨rfl,trivial⟩ (a9.sh.pre (r:=[]) rfl) (λ_ h=>h.F) (λ_ _ h=>h.F) (by rw[a0,eb];unfold Ab;omega) (by rw[a0,Ao];omega) λr d9 a7 vh _ _=>hn a4 _ _ ⟨(x1.Z a6).W vh,?_⟩;have e:BU (l.take (i+1))=BU (l.take i)++[⟨Db l[i].1,Db l[i].2⟩]:=by unfold BU;rw[dw a4,gb];rfl
  rw[e];exact a7.O (λ_ h=>h.F id id) (λ_ h=>h.F) (λ_ _ h=>h.F)
 .have:i=l.length:=oM;rw[this,eh]at uy;have a0:(BU l).length=l.length:=by unfold BU;rw[ec]
  refine hR _ _ x1 ((uy.A (by rw[a0,eb];unfold Ab;omega) (by rw[a0,Ao];omega)).O λb hb=>?_);rcases hb with hb|⟨ad,ha,rfl⟩
  .exact hb.F
  .have:=uy.block ha;exact⟨this.1,this.2.1⟩
def Zdm(a b:Int):QO a b=max a b:=by unfold QO;split<;>omega
def Zjf{l:Λ}(h:j<l.length):(Cq l)[j*2]?=some (.int .i64 l[j].1)/\(Cq l)[j*2+1]?=some (.int .i64 l[j].2):=by
 have a0:∀cs∈l.map ŷ,cs.length=2:=λcs hc=>by obtain⟨x,_,rfl⟩:=ij.1 hc;rfl
 have hi:(l.map ŷ)[j]?=some (ŷ l[j]):=by rw[gu,dt h];rfl
 exact⟨On a0 hi (j:=0) rfl,On a0 hi (j:=1) rfl⟩
def OF.lower{α:Type}{E:xn α}{T:LN}{lo':Nat}{l:List α}(h:OF E T w lo S s l)(hl:lo'<=lo):OF E T w lo' S s l:=by obtain⟨css,ho,k1,k2⟩:=h.row;refine⟨⟨css,⟨ho.1,ho.2.imp id λ⟨g,cap,a0,hv,hg,r⟩=>⟨g,cap,a0,hv,fj hl hg,r⟩⟩,k1,k2⟩,h.len,h.lt,h.apart⟩
def ş{l:Λ}{T:LN}{R:Sl->Wp}(h:OF Đ T w lo S s l)(ha:AT w a [s.v])(hl:l.length<=1000000)
  (hR:∀t w',AI w w'->OF Đ 305 w' w.heap.size se t l->R t w'):MC (.func (.func 357) #[] #[.pointer (some a)]) w R:=by
 unfold MC;have hI:RkS w.heap.size w s.v l:=by
  have ho:=h.Xb9;rcases ho.2 with⟨hv,hn⟩|⟨g,cap,a8,hv,hg,hh,hc,a9,b0,ht⟩
  .exact .inl ⟨hv,fo (by rwa [<-h.len])⟩
  .refine .inr ⟨g,0,cap,by rw[hv,h.len],lt_of_block hh,λj hj=>?_⟩;have a4:=ho.cells (g:=g) (by rw[hv];rfl);obtain⟨k1,k2⟩:=Zjf hj;have c1:=a4 _ _ k1;have c2:=a4 _ _ k2;rw[GN]at c1 c2;rw[kj];exact⟨c1,c2⟩
 have a5:w.cell? ⟨a.block,0,none⟩=some s.v:=by obtain⟨t,_,_,hb⟩:=ha;simp[World.cell?,hb]
 have a7:a=⟨a.block,0,none⟩:=by obtain⟨t,h1,h2,_⟩:=ha;obtain⟨b,o,sp⟩:=a;simp only at h1 h2;subst h1 h2;rfl
 have a0:=callsIn_wide.1 (Zjd Fence.wide 3 trivial trivial rfl nR a.block s.v l hl w ha.lt a5 hI);rw[<-a7]at a0;refine Calls.O a0 λe w' ⟨v,he,a6,hb⟩=>⟨v,he,?_⟩;obtain⟨t,rfl,uy⟩:=OF.Xcn a6;exact⟨t,rfl,hR t w' hb uy⟩
abbrev JS:Type:={x:Rk//0<=x.1/\x.1<=999999999}
instance:Inhabited JS:=⟨⟨(0,0),by decide⟩⟩
def Zb3:Bm prog 319:=enters_of func319 kR rfl
def Zee:∀w,(isAgg 305).run prog w= .ok true w:=λw=>by kernel_rfl
def Zke:∀w,(Go.sizeOf 305).run prog w= .ok 2 w:=λw=>by kernel_rfl
def Zeu{a b:JS}{R:È}(hR:∀w',Gr w w'->R (a.1.1 - b.1.1) w'):MV a.1.1 a.1.2 b.1.1 b.1.2 w R:=by unfold MV;have ha:=a.2;have hb:=b.2;refine An.gr λ_ w1 x1 a0=>An.gr λ_ w2 x2 a4=>⟨_,Gr.at0 a0 x2 rfl,_,Gr.at0 a4 (Gr.refl _) rfl,?_⟩;rw[Ai oM oM];exact hR _ (x1.Z x2)
def Vr:∀{l:Λ},FF l->∃la:List JS,la.map Subtype.val=l
 | [],_=>⟨[],rfl⟩
 |x::r,h=>by obtain⟨la,e⟩:=Vr (l:=r) λy hy=>h y (.tail _ hy);have hx:=h x (.head _);exact⟨⟨x,hx.1,hx.2.1⟩::la,by rw[io,e]⟩
def OY(x:JS):LV:=ŷ x.1
def WO{la:List JS}:la.map OY=(la.map Subtype.val).map ŷ:=by rw[jh];rfl
def Zkq{l:Λ}(h:OF Đ 305 w lo se s l)(a7:lo<=w.heap.size)(a6:FF l)(hl:l.length<=1000000)
  (hK:∀l' w',l'.Perm l->Et l'->Below lo w w'->No Đ w' (λb=>lo<=b/\b<w'.heap.size) s l'->K (.tuple #[]) w'):
  sx prog 356 [s.v,.func (.func 319) #[] #[]] w K:=by
 have eb:Đ.bytes=16:=rfl;have hF:tq ŷ 16 w lo s l:=tq.of (E:=Đ) (λx cs h=>h.1) h (by unfold Ab;omega);obtain⟨h1,h2,h3,h4,h5⟩:=hF;obtain⟨a,n,c⟩:=s;simp only at h1 h2 h3 h5;subst h1;rcases h5 with rfl|⟨g,tail,ha,hg,hr⟩
 .refine(AnyF.slices_SortFunc_none Tryz.Xb4 a c _ w).O λe w' ⟨he,hw⟩=>⟨_,he,?_⟩;subst hw;exact hK [] _ (jr _) .nil (Below.refl _ _) ⟨rfl,h2,h3,by simp,.inl rfl⟩
 .subst ha;obtain⟨la,rfl⟩:=Vr a6;have a8:tv OY w g la tail:=by unfold tv at hr ⊢;rwa [WO]
  rw[ec]at*;refine FH Tryz.Xb4 (k:=2) Zee Zke (f:=OY) (λ_=>rfl) (λx v hv=>by simp[OY,ŷ]at hv;rcases hv with rfl|rfl<;>rfl) (λa b=>a.1.1 - b.1.1) (Fe (λx y=>by omega) (λx y z=>by omega)) 319 #[] Zb3 (λw0 x y hb _=>?_) a8 oM rfl λl' w' hp hs b a4=>?_
  .have h:=MV.V (k:=λv w'=>v= .int .i64 (x.1.1 - y.1.1)/\Gr w0 w') (Zeu (a:=x) (b:=y) (w:=w0) λw' h=>⟨rfl,h⟩);exact Calls.O h λe w' ⟨v,he,hv,hg⟩=>⟨by rw[he,hv],hg⟩
  .have a9:tv ŷ w' g (l'.map Subtype.val) tail:=(by unfold tv at a4 ⊢;rwa [<-WO]);have a0:=hp.length_eq;have a5:tq ŷ Đ.bytes w' lo ⟨some ⟨g,0,none⟩,la.length,c⟩ (l'.map Subtype.val):=⟨by simp[a0],by simp[a0];exact h2,h3,by rwa [ec,a0],.inr ⟨g,tail,rfl,hg,a9⟩⟩;refine hK (l'.map Subtype.val) w' (hp.map _) ?_ (b.below a7 hg) (a5.A (λ_=>rfl) λw S x _=>⟨rfl,trivial⟩);unfold Et;rw[jb];exact hs.imp λ{x y} h=>by omega
def Zkw{l:Λ}{T:LN}{R:Sl->Wp}(h:OF Đ T w lo S s l)(ha:AT w a [s.v])(a0:FF l)(hl:l.length<=1000000)
  (hR:∀t w' m,AI w w'->m.Perm l->Et m->No Đ w' (λb=>w.heap.size<=b/\b<w'.heap.size) t m->R t w'):MS (.func (.func 357) #[] #[.pointer (some a)]) (.func (.func 319) #[] #[]) w R:=by
 refine MC.V (ş h ha hl λt w1 x1 uy=>⟨_,rfl,Zkq uy x1.size a0 hl λm w2 hp hs vh hr=>⟨rfl,hR t w2 m (x1.W vh) hp hs hr⟩⟩)
def HR(m:Λ)(n:Nat)(done:Λ):Prop:=(n=0/\done=[])\/∃d y,done=d++[y]/\Dl m=d++D1 y (m.drop n)
def Zen{m:Λ}(hn:n<m.length)(h0:n=0):HR m (n+1) [m[n]]:=by
 subst h0;refine .inr ⟨[],m[0],rfl,?_⟩;cases m with
 |nil=>simp at hn
 |cons y r=>rfl
def Zeo{m:Λ}{d:Λ}{y:Rk}(hn:n<m.length)(h:Dl m=d++D1 y (m.drop n)):
  (m[n].1<=y.2+1->HR m (n+1) (d++[(y.1,max y.2 m[n].2)]))/\(¬m[n].1<=y.2+1->HR m (n+1) (d++[y]++[m[n]])):=by
 rw[gj hn,D1]at h;refine⟨λhl=>.inr ⟨d,_,rfl,?_⟩,λhl=>.inr ⟨d++[y],m[n],rfl,?_⟩⟩
 .rw[fl hl]at h;exact h
 .rw[fa hl]at h;rw[h,ff];rfl
def Xab{l:Λ}{T:LN}{R:Sl->Wp}(h:OF Đ T w lo S s l)(d1:FF l)(hl:l.length<=1000000)
  (hR:∀t w' m,AI w w'->m.Perm l->Et m->OF Đ 305 w' w.heap.size se t (Dl m)->R t w'):MU s w R:=by
 unfold MU;have eb:Đ.bytes=16:=rfl;refine Pj.V ?_;refine An.intro λa w1 x1 ha _ _=>⟨_,rfl,MS.V (Zkw (h.U x1) ha d1 hl λt w2 m x2 hp hs hm=>⟨_,rfl,?_⟩)⟩;have d6:=x1.Z x2;have f9:=hm.len;have g0:m.length<=1000000:=by rwa [hp.length_eq]
 have e9:FF m:=λx hx=>d1 x (hp.mem_iff.1 hx);refine th.up hm.max (λsw i w'=>AI w2 w'/\∃done,OF Đ 305 w' w2.heap.size se sw done/\HR m i done/\done.length<=i/\FF done) ⟨AI.refl _,[],OF.zero _,.inl ⟨rfl,rfl⟩,fx _,λx hx=>by cases hx⟩ λsw i w3 g2 hi ⟨x3,done,uy,hJ,f7,c7⟩ hn=>⟨λe7=>?_,λf8=>?_⟩
 .have a5:i<m.length:=oM;obtain⟨ad,e8,_,hc⟩:=OX hm a5;have f1:=e9 _ (fe a5);refine join.named λJ e1=>⟨ad,⟨e8,oM,e7⟩,m[i].1,m[i].2,hc _ x3,An.intro λa4 w4 x4 e3 f6 _=>tk.intro e3 sI λw5 b5 _ c5=>sf.drew λw6 x6=>?_⟩;have f5:AI w3 w5:=b5.U x4 oM;have d7:=f5.Z x6;have c9:=x3.Z d7;have b7:=uy.U d7;have c8:=uy.len;have step:∀b6 w7 a0,AI w2 w7->OF Đ 305 w7 w2.heap.size se b6 a0->HR m (i+1) a0->a0.length<=i+1->FF a0->J b6 w7:=by subst e1;intro b6 w7 a0 x7 d3 e2 e6 e5;exact hn a5 _ _ ⟨x7,a0,d3,e2,e6,e5⟩
  have push:HR m (i+1) (done++[m[i]])->∃(a9:Int) (a8:Int),(sh w6 a4 [vi a9,vi a8])/\An w6 [vi a9,vi a8] 305 λd8 d4=>uc prog 302 302 sw (Sl.v (Sl.mk (some d8) 1 1)) d4 λf2 d5=>J f2 d5:=λd9=>by
   refine⟨m[i].1,m[i].2,c5.at0 (r:=[]) x6 rfl,An.intro λa7 w7 x7 e4 _ _=>?_⟩;refine(b7.U x7).push T1 (c9.Z x7).size (x:=m[i]) (S':=se) (cs:=[.int .i64 m[i].1,.int .i64 m[i].2]) ⟨rfl,trivial⟩ (e4.sh.pre (r:=[]) rfl) (λ_ h=>h.F) (λ_ _ h=>h.F) (by rw[eb];unfold Ab;omega) (by rw[Ao];omega) λr w8 b9 vh _ _=>step _ _ _ ((c9.Z x7).W vh) (b9.O (λ_ h=>h.F id id) (λ_ h=>h.F) (λ_ _ h=>h.F)) d9 (by simp;omega) λx hx=>?_;obtain hx|hx:=fp.1 hx
   .exact c7 x hx
   .rw[ep]at hx;subst hx;exact f1
  rcases hJ with⟨h0,rfl⟩|⟨d,y,rfl,hd⟩
  .have e0:Aa ((sw.len:Int) - 1)= -1:=(by rw[c8];decide);rw[e0];have c4:decide ((0:Int)<= -1)=false:=(by decide);rw[c4];refine IN ⟨m[i].1,nO,⟨0,0,none⟩,nO,0,nO,λh=>by simp at h,λ_=>push ?_⟩;exact Zen a5 h0
  .have a6:(d++[y]).length=d.length+1:=(by simp);have e0:Aa ((sw.len:Int) - 1)=(d.length:Int):=(by rw[c8,a6,Ai oM oM];omega);rw[e0];have c4:decide ((0:Int)<=(d.length:Int))=true:=(by rw[fk];omega);rw[c4];have f0:=b7.A (by rw[a6,eb];unfold Ab;omega) (by rw[a6,Ao];omega);have d0:d.length<(d++[y]).length:=oM;obtain⟨c3,b2,_,c6⟩:=OX f0 d0;have hy:(d++[y])[d.length]=y:=(by simp);have g1:=c7 y sI;rw[hy]at c6;have c2:=c6 _ xR;have d2:Aa (y.2+1)=y.2+1:=Ai oM oM;have b4:(d.length:Int)<(sw.len:Int):=(by rw[c8,a6];omega);obtain⟨j1,j2⟩:=Zeo a5 hd;refine IN ⟨m[i].1,λ_=>c5.at0 x6 rfl,c3,λ_=>⟨b2,oM,b4⟩,y.2,λ_=>c2.I (k:=1) rfl,λb0=>?_,λb0=>push ?_⟩
   .rw[d2,ic,fk]at b0;refine sf.drew λw7 x7=>⟨c3,⟨b2,oM,b4⟩,y.2,(c6 _ x7).I (k:=1) rfl,m[i].2,AT.at1 c5 (k:=1) (x6.Z x7) rfl,c3,⟨b2,oM,b4⟩,?_⟩;rw[Zdm];have f3:=c9.Z x7;refine(b7.U x7).Xc9 (i:=d.length) d0 b2 λw8 b8 b9=>step _ _ _ ?_ b9 ?_ ?_ ?_
    .have:=(uy.block b2).1;exact b8.U f3 this
    .have e:(d++[y]).set d.length ((d++[y])[d.length].1,max y.2 m[i].2)=d++[(y.1,max y.2 m[i].2)]:=(by rw[hy,qx _ _ nR];simp);rw[e];exact j1 b0
    .rw[ji];omega
    .intro x hx;obtain hx|rfl:=List.mem_or_eq_of_mem_set hx
     .exact c7 x hx
     .rw[hy];simp only;omega
   .refine j2 λh=>?_;rw[d2,ic,gk]at b0;exact b0 h
 .have:i=m.length:=oM;subst this;have hd:done=Dl m:=by
   rcases hJ with⟨h0,rfl⟩|⟨d,y,rfl,hd⟩
   .rw[fo h0];rfl
   .rw[hd,lh];rfl
  subst hd;refine hR _ _ m (d6.Z x3) hp hs (OF.lower uy d6.size)
end Go.Hal
