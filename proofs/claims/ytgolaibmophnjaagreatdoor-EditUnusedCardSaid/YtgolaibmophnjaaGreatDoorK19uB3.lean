/- Lemmas for the claim K19u: how the program's functions run, and what they answer; no condition but those that each theorem names. -/
import Derived.Shelf.SlSortCmp.NoneTotal
import Derived.Ground.SlsfProg
import Derived.Test.YtgolaibmophnjaaGreatDoorProg
import Derived.Shelf.Sort.Plain
import Derived.Shelf.Slices.In.SortNone
import Derived.Ground.NamesProg
import Derived.Laws.MakeOwn
import Derived.Test.YtgolaibmophnjaaGreatDoorK19uB2
set_option linter.unusedVariables false
set_option linter.unusedSimpArgs false
set_option linter.defProp false
set_option maxHeartbeats 16000000
open Go.Hal.SE hiding Cs Dr Lb vB
open Go Go.RowKit Go.Proofs Go.Shelf Go.Hal Go.Proofs.Tryz
variable {a:LP} {p:As} {R:É} {D d3 d4:Int} {l:Θ} {ds:Μ} {ks:List Fp} {g xs:List Hal.rz} {cs:LV} {m:vz} {N i lo n:Nat} {Q S:Nat->Prop} {d o s t:Sl} {f:HT} {K:Ë} {w w' w0:PU}
namespace Go.Hal
def TX{l:Η}{R:Sl->Wp}(hS:Old S w)(hs:No vb w S s l)(hR:∀t w',AI w w'->OF vb 150 w' w.heap.size se t l->R t w'):J5 s w R:=by
 unfold J5;refine⟨λh=>?_,λh=>?_⟩
 .have:l=[]:=by
   rcases hs.2.2.2.2 with h0|⟨ad,h1,_⟩
   .exact h0
   .rw[h]at h1;cases h1
  subst this;exact hR _ _ xR (OF.nil _ _)
 .intro a w1 ha hw;subst ha;have x1:AI w w1:=hw▸AI.alloc _ _;have uy:OF vb 150 w1 w.heap.size se ⟨some ⟨w.heap.size,0,none⟩,0,0⟩ []:=hw▸OF.empty w;refine uy.yx JV x1.size (hs.U x1) (hS.U x1.size) (λad ha hb=>?_) (by simpa using hs.2.2.2.1) (by simpa using hs.max) λr w2 a0 vh _ _=>?_
  .simp only[eu]at ha;subst ha;have:=hS _ hb;simp at this
  .exact hR r w2 (x1.W vh) (OF.flat (λh=>h) a0)
def Zf{a b:tn}{R:È}(hR:∀w',Gr w w'->R (A8 a.Y b.Y) w'):My a.Y a.v.ma a.v.mi a.v.pa b.Y b.v.ma b.v.mi b.v.pa w R:=by refine An.gr λ_ w1 x1 hb=>An.gr λ_ w2 x2 a0=>⟨_,Gr.at0 hb x2 rfl,_,Gr.at0 a0 (Gr.refl _) rfl,Fd ⟨_,rfl,hR _ (x1.Z x2)⟩⟩
def Zbi:Bm prog 121:=enters_of func121 kR rfl
def Zkn{l:Η}(h:tq AW 40 w lo s l)(a4:lo<=w.heap.size)(hn:(l.map (·.Y)).Nodup)
  (hK:∀w',Below lo w w'->tq AW 40 w' lo s (B9 l)->K (.tuple #[]) w'):
  sx prog 120 [s.v,.func (.func 121) #[] #[]] w K:=by
 obtain⟨h1,h2,h3,h4,h5⟩:=h;obtain⟨a,n,c⟩:=s;simp only at h1 h2 h3 h5;subst h1;rcases h5 with rfl|⟨g,tail,ha,hg,hr⟩
 .refine(AnyF.slices_SortFunc_none Tryz.Ķ a c _ w).O λe w' ⟨he,hw⟩=>⟨_,he,?_⟩;subst hw;exact hK _ (Below.refl _ _) ⟨rfl,h2,h3,h4,.inl rfl⟩
 .subst ha;have hO:=DJ (α:=tn) (·.Y);refine FH Tryz.Ķ (k:=4) QT RT (f:=AW) (λ_=>rfl) (λx v hv=>by simp[AW]at hv;rcases hv with rfl|rfl|rfl|rfl<;>rfl) (λa b=>A8 a.Y b.Y) (Fe hO.flip hO.Z) 121 #[] Zbi (λw0 x y hb _=>?_) hr (by unfold Ab at h4;omega) rfl λl' w' hp hs b a5=>?_
  .have h:=My.V (k:=λv w'=>v= .int .i64 (A8 x.Y y.Y)/\Gr w0 w') (Zf (a:=x) (b:=y) (w:=w0) λw' h=>⟨rfl,h⟩);exact Calls.O h λe w' ⟨v,he,hv,hg⟩=>⟨by rw[he,hv],hg⟩
  .have e:l'=B9 l:=by refine þ.one ?_ (Sm hn) (hp.Z (Fa l).H);have a0:(l'.map (·.Y)).Nodup:=(hp.map _).nodup_iff.2 hn;rw[il,jb]at a0;exact(hs.and a0).imp λ{a b} h=>JW (by have:=hO.flip b a;have:=hO.flip a b;omega) h.2
   subst e;have hl:=(Fa l).length_eq;exact hK w' (b.below a4 hg) ⟨hl.H,by rwa [hl],h3,by rwa [hl],.inr ⟨g,tail,rfl,hg,a5⟩⟩
def Nk{a b c x y z:Int}:((a==x)&&((b==y)&&((c==z)&&true)))=decide ((⟨a,b,c⟩:tj)=⟨x,y,z⟩):=by rw[gp];simp
def Zb9{a b:Η}{T:Nat->Prop}(hs:No vb w S s a)(ht:No vb w T t b)(hR:∀w',AI w w'->R (decide (a=b)) w'):MI s t w R:=by
 unfold MI;have h1:=hs.len;have h2:=ht.len;refine⟨λh=>?_,λh=>?_⟩
 .have: ¬a=b:=λe=>by subst e;omega
  have h3:=hR w xR;rw[fq this]at h3;exact h3
 have a9:a.length=b.length:=by have:=jx.1 h;omega
 refine Of.up hs.max (λi w'=>AI w w'/\a.take i=b.take i) ⟨AI.refl _,rfl⟩ λi w1 b0 hi ⟨x1,hI⟩ hn=>⟨λa6=>sf.drew λw2 x2=>?_,λa8=>?_⟩
 .have k1:i<a.length:=oM;have k2:i<b.length:=oM;obtain⟨ad,ha,_,_,hc⟩:=CE hs k1;obtain⟨a0,a4,_,_,a5⟩:=CE ht k2;refine⟨ad,⟨ha,oM,a6⟩,_,_,_,_,hc _ (x1.Z x2),a0,⟨a4,oM,oM⟩,_,_,_,_,a5 _ (x1.Z x2),?_⟩;have e:(!((Ag a[i].Y b[i].Y)&&(((a[i].v.ma==b[i].v.ma)&&((a[i].v.mi==b[i].v.mi)&&((a[i].v.pa==b[i].v.pa)&&true)))&&true)))= !decide (a[i]=b[i]):=by congr 1;rw[gp];generalize a[i]=x;generalize b[i]=y;obtain⟨n,⟨p,q,r⟩⟩:=x;obtain⟨n',⟨p',q',r'⟩⟩:=y;simp[AG]
  rw[e];refine⟨λh=>?_,λh=>?_⟩
  .have a7: ¬a=b:=λe=>(by subst e;simp at h);have h3:=hR w2 (x1.Z x2);rw[fq a7]at h3;exact h3
  .refine hn k1 _ ⟨x1.Z x2,?_⟩;have he:a[i]=b[i]:=(by simpa using h);rw[dw k1,dw k2,hI,he]
 .have:i=a.length:=oM;subst this;rw[eh,ia oM]at hI;have h3:=hR w1 x1;rw[fy hI]at h3;exact h3
def Zg{x y:rz}{cx ex cy ey:Sl}{T:Nat->Prop}{c0:LP}(hc:AT w c0 [.string x.Y,vi x.v.ma,vi x.v.mi,vi x.v.pa,cx.v,ex.v])(hx:No vb w S cx x.vd)(hy:No vb w T cy y.vd)(hR:∀w',AI w w'->R (decide (y.key=x.key)) w'):
  Mz y.Y y.v.ma y.v.mi y.v.pa cy ey c0 w R:=by
 unfold Mz;have e:decide (y.key=x.key)=(Ag x.Y y.Y&&decide (x.v=y.v)&&decide (x.vd=y.vd)):=by rw[gp];simp only[rz.key,fk,Prod.mk.injEq,dz,AG];exact⟨λ⟨a,b,c⟩=>⟨⟨a.H,b.H⟩,c.H⟩,λ⟨⟨a,b⟩,c⟩=>⟨a.H,b.H,c.H⟩⟩
 rw[e]at hR;refine An.intro λa w1 x1 hb _ _=>⟨_,hc.at0 x1 rfl,_,hb.at0 xR rfl,IN ⟨_,_,_,λ_=>hc.at1 (k:=1) x1 rfl,_,_,_,λ_=>hb.at1 (k:=1) xR rfl,IN ?_⟩⟩;have ev:((x.v.ma==y.v.ma)&&((x.v.mi==y.v.mi)&&((x.v.pa==y.v.pa)&&true)))=decide (x.v=y.v):=Nk;rw[ev];refine⟨cx,λ_=>hc.at1 (k:=4) x1 rfl,cy,λ_=>hb.at1 (k:=4) xR rfl,?_⟩;refine IS.intro (decide (x.vd=y.vd)) (λ_ q hq=>MI.V (Zb9 (hx.U x1) (hy.U x1) λw' hx=>⟨_,rfl,hq _ hx⟩)) λt w2 x2 ht=>?_;have h3:=hR w2 (x1.Z x2);cases hg:(Ag x.Y y.Y&&decide (x.v=y.v))
 .rw[hg]at h3;exact h3
 .rw[hg]at h3 ht;rwa [ht rfl]
def Zbj:Bm prog 124:=enters_of func124 kR rfl
def Zdz{l:Ζ}{p:rz->Bool}{R:È}(hs:No uh w S s l)
  (hf:∀x∈l,∀(c e:Sl) w' (k:Ë),AI w w'->No vb w' S c x.vd->(∀a4,AI w' a4->k (.bool (p x)) a4)->un prog f [.agg #[.string x.Y,vi x.v.ma,vi x.v.mi,vi x.v.pa,c.v,e.v]] w' k)
  (hR:∀w',AI w w'->R (AV p l) w'):MM s f w R:=by
 unfold MM;have hl:=hs.len;refine Of.up hs.max (λi w'=>AI w w'/\(l.take i).any p=false) ⟨AI.refl _,rfl⟩ λi w1 a8 hi ⟨x1,hI⟩ hn=>⟨λa6=>?_,λa7=>?_⟩
 .have a0:i<l.length:=oM;obtain⟨ad,cs,ha,_,⟨_,c,e,rfl,a5,_⟩,hc⟩:=hs.el a0;refine⟨ad,⟨ha,oM,a6⟩,_,_,_,_,c,e,hc _ xT,hf _ (fe a0) c e _ _ x1 (a5.U x1) λw2 x2=>⟨_,rfl,λh=>?_,λh=>?_⟩⟩
  .rw[<-F5 a0 hI h];exact hR _ xT
  .exact hn a0 _ ⟨xT,by rwa [FJ a0 hI]⟩
 .have:i=l.length:=oM;rw[this,eh]at hI;rw[<-EL hI];exact hR _ xT
def DU(s:Sl)(w w':PU):Prop:=w.heap.size<=w'.heap.size/\∀b,b<w.heap.size->(∀ad,s.a=some ad->b≠ad.block)->w'.heap[b]?=w.heap[b]?
section
variable {α:Type} {E:xn α} {T:LN} {w w':PU} {lo:Nat} {Q:Nat->Prop} {s x:Sl} {l:List α}
def OF.yo(h:OF E T w lo Q x l)(ho:DU s w w')(hA:yl x s)(hQ:∀ad,s.a=some ad-> ¬Q ad.block):OF E T w' lo Q x l:=
 h.sj ho.1 λb a4 hb=>ho.2 b a4 λad ha e=>by
  rcases hb with hb|⟨a5,a0,rfl⟩
  .exact hQ ad ha (e▸hb)
  .exact hA _ _ a0 ha e
def No.yo(h:No E w Q x l)(ho:DU s w w')(hQ:∀ad,s.a=some ad-> ¬Q ad.block):No E w' Q x l:=
 h.sj λb hb a0=>ho.2 b a0 λad ha e=>hQ ad ha (e▸hb)
def AT.yo(h:AT w a cs)(ho:DU s w w')(a4:∀ad,s.a=some ad->a.block≠ad.block):AT w' a cs:=
 h.sj (S:=λb=>b=a.block) rfl λb hb a0=>ho.2 b a0 λad ha e=>a4 ad ha (hb▸e)
def Sl.Ř{r:Sl}{y:Sl}{β:Type}{F:xn β}{U:LN}{m:List β}(a0:∀ad,r.a=some ad->(s.a=some ad\/w.heap.size<=ad.block))(hA:yl s y)(hy:OF F U w lo Q y m):yl r y:=λa b ha hb=>by
 obtain h|h:=a0 a ha
 .exact hA a b h hb
 .have:=(hy.block hb).2.1;omega
def Sl.Xcl{r:Sl}{g:Nat}(a0:∀ad,r.a=some ad->(s.a=some ad\/w.heap.size<=ad.block))(hO:JP s g)(hg:g<w.heap.size):JP r g:=λa ha=>by
 obtain h|h:=a0 a ha
 .exact hO a h
 .omega
end
section
variable {w:PU} {lo g:Nat} {stk nds ahd ws:Sl} {Q:Nat->Prop} {s:St} {P:LD}
def yp.Xcj{x:rz}{t:LN}{k:Sl->Wp}(h:yp w lo g stk nds ahd ws Q s)(hT:Bk P t 56 6 88)(a4:lo<=w.heap.size)(hg:g<w.heap.size)(hx:uh.rep w Q x cs)(hc:sh w a cs)(hn:s.ns.length<=1000)
  (hk:∀(r:Sl)(w':PU),yp w' lo g stk r ahd ws Q {s with ns:=s.ns++[x]}->Below lo w w'->DU nds w w'->(∀ad,r.a=some ad->(nds.a=some ad\/w.heap.size<=ad.block))->k r w'):uc P t t nds (Sl.v ⟨some a,1,1⟩) w k:=by
 have a5:=Ao;refine h.uk.push (E:=uh) hT a4 hx hc h.uk.lt h.uk.apart (by show(s.ns.length+1)*88<=Ab;unfold Ab;omega) oM λr w' uy vh yo a0=>?_;have ho:DU nds w w':=⟨vh.size,yo⟩;have hQ:=h.uk.apart;refine hk r w' ⟨h.stack.yo ho h.a1 hQ,uy.O (λb hb=>hb.F id id) (λb hb=>jo (h.uk.lt b hb) vh.size) (λad ha hb=>?_),h.AS.yo ho h.a3.swap hQ,h.ue.yo ho hQ,h.q,(Sl.Ř a0 h.a1.swap h.stack).swap,h.a2,Sl.Ř a0 h.a3 h.AS,h.o1,Sl.Xcl a0 h.o2 hg,h.o3⟩ vh ho a0;obtain h1|h1:=a0 ad ha
 .exact hQ ad h1 hb
 .have:=h.uk.lt _ hb;omega
def yp.Xbd{x:Ch}{t:LN}{k:Sl->Wp}(h:yp w lo g stk nds ahd ws Q s)(hT:Bk P t 130 5 64)(a4:lo<=w.heap.size)(hg:g<w.heap.size)(hx:Ş.rep w Q x cs)(hc:sh w a cs)(hn:s.stack.length<=100000)
  (hk:∀(r:Sl)(w':PU),yp w' lo g r nds ahd ws Q {s with stack:=s.stack++[x]}->Below lo w w'->DU stk w w'->k r w'):uc P t t stk (Sl.v ⟨some a,1,1⟩) w k:=by
 have a5:=Ao;refine h.stack.push (E:=Ş) hT a4 hx hc h.stack.lt h.stack.apart (by show(s.stack.length+1)*64<=Ab;unfold Ab;omega) oM λr w' uy vh yo a0=>?_;have ho:DU stk w w':=⟨vh.size,yo⟩;have hQ:=h.stack.apart;refine hk r w' ⟨uy.O (λb hb=>hb.F id id) (λb hb=>jo (h.stack.lt b hb) vh.size) (λad ha hb=>?_),h.uk.yo ho h.a1.swap hQ,h.AS.yo ho h.a2.swap hQ,h.ue.yo ho hQ,h.q,Sl.Ř a0 h.a1 h.uk,Sl.Ř a0 h.a2 h.AS,h.a3,Sl.Xcl a0 h.o1 hg,h.o2,h.o3⟩ vh ho;obtain h1|h1:=a0 ad ha
 .exact hQ ad h1 hb
 .have:=h.stack.lt _ hb;omega
def yp.Xci{x:Nat}{t:LN}{k:Sl->Wp}(h:yp w lo g stk nds ahd ws Q s)(hT:Bk P t 3 1 8)(a4:lo<=w.heap.size)(hg:g<w.heap.size)(hc:sh w a [vi (x:Int)])(hn:s.AS.length<=100000)
  (hk:∀(r:Sl)(w':PU),yp w' lo g stk nds r ws Q {s with AS:=s.AS++[x]}->Below lo w w'->DU ahd w w'->k r w'):uc P t t ahd (Sl.v ⟨some a,1,1⟩) w k:=by
 have a5:=Ao;refine h.AS.push (E:=yu) (x:=(x:Int)) hT a4 ⟨rfl,trivial⟩ hc h.AS.lt h.AS.apart (by show((s.AS.map Int.ofNat).length+1)*8<=Ab;rw[ec];unfold Ab;omega) (by rw[ec];omega) λr w' uy vh yo a0=>?_;have ho:DU ahd w w':=⟨vh.size,yo⟩;have hQ:=h.AS.apart;refine hk r w' ⟨h.stack.yo ho h.a2 hQ,h.uk.yo ho h.a3 hQ,?_,h.ue.yo ho hQ,h.q,h.a1,(Sl.Ř a0 h.a2.swap h.stack).swap,(Sl.Ř a0 h.a3.swap h.uk).swap,h.o1,h.o2,Sl.Xcl a0 h.o3 hg⟩ vh ho;have e:(s.AS++[x]).map Int.ofNat=s.AS.map Int.ofNat++[(x:Int)]:=by rw[gb];rfl
 show OF yu 3 w' lo Q r ((s.AS++[x]).map Int.ofNat);rw[e];refine uy.O (λb hb=>hb.F id id) (λb hb=>jo (h.AS.lt b hb) vh.size) (λad ha hb=>?_);obtain h1|h1:=a0 ad ha
 .exact hQ ad h1 hb
 .have:=h.AS.lt _ hb;omega
def yp.yo{x:Sl}(h:yp w lo g stk nds ahd ws Q s)(ho:DU x w w')(h1:yl stk x)(h2:yl nds x)(h3:yl ahd x)(hQ:∀ad,x.a=some ad-> ¬Q ad.block):yp w' lo g stk nds ahd ws Q s:=
 ⟨h.stack.yo ho h1 hQ,h.uk.yo ho h2 hQ,h.AS.yo ho h3 hQ,h.ue.yo ho hQ,h.q,h.a1,h.a2,h.a3,h.o1,h.o2,h.o3⟩
def yp.Xdb{P:Nat->Prop}(h:yp w lo g stk nds ahd ws Q s)(hP:∀b,P b->lo<=b/\b≠g/\b<w.heap.size)(h1:∀ad,stk.a=some ad-> ¬P ad.block)(h2:∀ad,nds.a=some ad-> ¬P ad.block)(h3:∀ad,ahd.a=some ad-> ¬P ad.block):yp w lo g stk nds ahd ws (λb=>Q b\/P b) s:=
 have key:∀{α:Type} {E:xn α} {T:LN} {x:Sl} {l:List α},OF E T w lo Q x l->(∀ad,x.a=some ad-> ¬P ad.block)->OF E T w lo (λb=>Q b\/P b) x l:=λo hn=>o.O (λ_ h=>.inl h) (λb hb=>hb.F (o.lt b) λhb=>(hP b hb).2.2) λad ha hb=>hb.F (o.apart ad ha) (hn ad ha)
 ⟨key h.stack h1,key h.uk h2,key h.AS h3,h.ue.O λ_ h=>.inl h,λb hb=>hb.F (h.q b) λhb=>⟨(hP b hb).1,(hP b hb).2.1⟩,h.a1,h.a2,h.a3,h.o1,h.o2,h.o3⟩
end
def Zj6{ns a:Ζ}{k:Nat}{es:LQ}(hk:k<ns.length):(ns++a).set k {ns[k]with sq:=es}=CQ ns k es++a:=by
 rw[List.set_append_left _ _ hk];congr 1;unfold CQ;apply qv;intro i;rw[nw,List.getElem?_set];by_cases h:k=i
 .subst h;rw[fl rfl,fl hk,dt hk];simp
 .rw[fa h];cases ns[i]? with
  |none=>rfl
  |some n=>simp[h]
def XK{e:Η}{n:Pr}:(vc e n).isSome=e.any (Az n):=by
 unfold vc;rw[Option.isSome_map];cases h:e.any (Az n)
 .simp only[nz,ne_eq,List.find?_isSome,not_exists,not_and];intro x hx hp;have:=mf.1 h x hx;exact this hp
 .obtain⟨x,hx,hp⟩:=ka.1 h;rw[List.find?_isSome];exact⟨x,hx,hp⟩
def NC{e:Η}{c:Ch}{v:tj}(h:vc e c.Y=some v):BW e c=e:=by
 unfold BW E7;have:e.any (Az c.Y)=true:=by rw[<-XK,h];rfl
 cases c.vs[c.i]? with
 |none=>rfl
 |some v=>dsimp only;rw[fl this]
def NA{e:Η}{c:Ch}(h:vc e c.Y=none)(hi:c.i<c.vs.length):BW e c=e++[⟨c.Y,c.vs[c.i]⟩]:=by
 unfold BW E7;have:e.any (Az c.Y)=false:=by rw[<-XK,h];rfl
 rw[dt hi];dsimp only;rw[fa (by rw[this];decide)]
def NB{e:Η}{c:Ch}(hi: ¬c.i<c.vs.length):BW e c=e:=by unfold BW E7;rw[iw oM]
def YD{e:Η}{c:Ch}(h:(e.map (·.Y)).Nodup):((BW e c).map (·.Y)).Nodup:=by
 cases ht:vc e c.Y with
 |some v=>rwa [NC ht]
 |none=>
  by_cases hi:c.i<c.vs.length
  .rw[NA ht hi,gb,jl];refine⟨h,by simp,λa ha b hb=>?_⟩;simp only[io,ph,ep]at hb;subst hb;obtain⟨x,hx,rfl⟩:=ij.1 ha;exact Zlv ht x hx
  .rwa [NB hi]
def YC(e:Η)(c:Ch):(BW e c).length<=e.length+1:=by
 cases ht:vc e c.Y with
 |some v=>rw[NC ht];omega
 |none=>
  by_cases hi:c.i<c.vs.length
  .rw[NA ht hi,du];simp
  .rw[NB hi];omega
def Zlq{q:si}{env r:Η}{p:tn}{c:Η}(h:Dj q.L q.m.sd env p=some c):Cj q env (p::r)=(Cj q env r).map λxs=>⟨p.Y,p.v,c,[]⟩::xs:=by rw[Cj,h]
def Zlr{q:si}{env r:Η}{p:tn}(h:Dj q.L q.m.sd env p=none):Cj q env (p::r)=none:=by rw[Cj,h]
def Zhj{x:rz}(h:ks.findIdx? (λy=>decide (y=x.key))=some i):Bv N ks (x::xs)=(Bv N ks xs).map λr=>(r.1,⟨x.Y,(i:Int)⟩::r.2):=by rw[Bv,h]
def Zhi{x:rz}(h:ks.findIdx? (λy=>decide (y=x.key))=none)(hN:ks.length=N):Bv N ks (x::xs)=none:=by rw[Bv,h];dsimp only;rw[fl hN]
def Zhk{x:rz}(h:ks.findIdx? (λy=>decide (y=x.key))=none)(hN: ¬ks.length=N):Bv N ks (x::xs)=(Bv N (ks++[x.key]) xs).map λr=>(x::r.1,⟨x.Y,(ks.length:Int)⟩::r.2):=by rw[Bv,h];dsimp only;rw[fa hN]
def Zc8(ns:Ζ)(x:rz):(ns.map rz.key).findIdx? (λy=>decide (y=x.key))=ns.findIdx? (λy=>decide (y.key=x.key)):=by rw[List.findIdx?_map];rfl
section
variable {w:PU} {lo:Nat} {sp:LP} {K:K7} {q:si} {s:St}
def TD{R:È}(hC:Cs w lo q K)(h:CV w lo sp K s)(hI:ý q 0 s)(hN:q.N<=128)(hD:q.D<=4096)
  (i7:∀w',q.bind s.ns s.AS.length s.env= .yw->AI w w'->R 33 w')
  (m0:∀w',q.bind s.ns s.AS.length s.env= .many->Below lo w w'->R 32 w')
  (v6:∀w' r8,q.bind s.ns s.AS.length s.env= .ok r8->Below lo w w'->CV w' lo sp K {s with ns:=r8,AS:=s.AS++[s.ns.length]}->R 0 w'):
  Jp (some sp) (q.N:Int) w R:=by
 unfold Jp;obtain⟨stk,nds,ahd,ws,Q,hb,l9,h0⟩:=h;have ax:=h0.stack.len;have k9:=h0.AS.len;have v5:=h0.uk.len;rw[ec]at k9;have hk:=hI.a;have v3:=hI.n;have hg:=IX hb;have aq:=Ao;have hx:s.ns[s.AS.length]?=some s.ns[s.AS.length]:=dt hk;obtain⟨ad,cs,v4,⟨aj,c,e,rfl,j4,_⟩,u3⟩:=h0.uk.el hx;have u0:=Ud hx;have p9:=hI.c _ (fe hk);have q2:s.env=(s.stack.drop s.first).foldl BW s.ns[s.AS.length].vd:=by unfold St.env;rw[u0]
 have aw:s.stack.length<=4096:=by have:=hI.k;have:=hI.d;omega
 have g0:∀p∈s.ns[s.AS.length].vd,Ad p.Y:=λp hp=>by obtain⟨i,hi,rfl⟩:=gc.1 hp;obtain⟨_,_,_,h,_⟩:=CE j4 hi;exact h
 obtain⟨S,r,p7,hS,au,am⟩:=hC.cat;refine⟨sp,rfl,ahd,AT.at1 hb (k:=9) xR rfl,sp,rfl,nds,AT.at1 hb (k:=8) xR rfl,ad,⟨v4,oM,oM⟩,c,by rw[k9];exact(u3 _ xR).I (k:=4) rfl,?_⟩;refine J5.V (TX (S:=Q) h0.uk.lt j4 λt w1 x1 k4=>⟨_,rfl,sf.drew λw2 x2=>⟨sp,rfl,stk,AT.at1 hb (k:=7) (x1.Z x2) rfl,sp,rfl,(s.first:Int),AT.at1 hb (k:=11) (x1.Z x2) rfl,⟨oM,by have:=hI.f;omega⟩,?_⟩⟩);have e5:No Ş w (λb=>Q b\/∃ad,stk.a=some ad/\b=ad.block) (Sl.cut stk s.first stk.len 5) ((s.stack.take stk.len).drop s.first):=No.cut (E:=Ş) (h0.stack.A (by show s.stack.length*64<=Ab;unfold Ab;omega) oM) (by have:=hI.f;omega) oM;rw[ia oM]at e5;have ef:((s.first:Int)).toNat=s.first:=dx _;rw[ef];generalize l0:Sl.cut stk s.first stk.len 5=y9 at e5 ⊢;have ai:(s.stack.drop s.first).length<=4096:=by rw[gh];omega
 generalize hL:s.stack.drop s.first=L at*;have al:=e5.len;have z8:=x1.size;have z9:=x2.size;refine th.up e5.max (λenv i w'=>AI w w'/\OF vb 150 w' w.heap.size se env ((L.take i).foldl BW s.ns[s.AS.length].vd)/\(((L.take i).foldl BW s.ns[s.AS.length].vd).map (·.Y)).Nodup/\(∀p∈(L.take i).foldl BW s.ns[s.AS.length].vd,Ad p.Y)/\((L.take i).foldl BW s.ns[s.AS.length].vd).length<=2048+i)
  ⟨x1.Z x2,k4.U x2,p9.1,g0,p9.2⟩ λenv i w3 r9 hi ⟨x3,d2,i9,f7,j6⟩ hn=>⟨λg2=>join.named λJ hJ=>?_,λl6=>?_⟩
 .have a8:i<L.length:=oM;obtain⟨n2,y7,p0,_,⟨o5,v,rfl,hv⟩,u1⟩:=e5.el a8;have k5:(L.take (i+1)).foldl BW s.ns[s.AS.length].vd=BW ((L.take i).foldl BW s.ns[s.AS.length].vd) L[i]:=by rw[dw a8,List.foldl_append];rfl
  rw[k5]at hn;generalize (L.take i).foldl BW s.ns[s.AS.length].vd=A at*;generalize L[i]=ch at*;have m5:=x3.size;have kJ:∀f8 w',AI w w'->OF vb 150 w' w.heap.size se f8 (BW A ch)->J f8 w':=λf8 w' x' o'=>by
   subst hJ;refine hn a8 _ _ ⟨x',o',YD i9,λp hp=>?_,by have:=YC A ch;omega⟩;cases ht:vc A ch.Y with
   |some v=>rw[NC ht]at hp;exact f7 p hp
   |none=>
    by_cases hi:ch.i<ch.vs.length
    .rw[NA ht hi]at hp;obtain hp|hp:=fp.1 hp
     .exact f7 p hp
     .simp only[ep]at hp;subst hp;exact o5
    .rw[NB hi]at hp;exact f7 p hp
  clear hJ;have eP:vb.bytes=40:=rfl;have o0:No vb w3 (λb=>w.heap.size<=b) env A:=d2.ê dC (by rw[eP];unfold Ab;omega);refine⟨n2,⟨p0,oM,g2⟩,_,_,v,_,_,u1 _ x3,An.intro λa w4 x4 t7 z1 _=>tk.intro t7 sI λw5 b5 _ f3=>⟨_,f3.at1 (k:=1) xR rfl,?_⟩⟩;have h4:AI w3 w5:=b5.U x4 oM;have e3:=x3.Z h4;refine H6.V (RK (o0.U h4) (λv' w6 ht x6=>⟨_,_,_,_,rfl,An.intro λs4 w7 x7 c7 j2 _=>tk.intro c7 sI λw8 b8 _ i5=>IN ?_⟩) λw6 ht x6=>⟨_,_,_,_,rfl,An.intro λs4 w7 x7 c7 j2 _=>tk.intro c7 sI λw8 b8 _ i5=>IN ?_⟩)
  .have b6:AI w5 w8:=x6.Z (b8.U x7 oM);refine⟨0,nO,Sl.nil,nO,nO,λ_=>kJ _ _ (e3.Z b6) ?_⟩;rw[NC ht];exact d2.U (h4.Z b6)
  .have b6:AI w5 w8:=x6.Z (b8.U x7 oM);have e4:=e3.Z b6;have az:=hv.len;refine⟨(ch.i:Int),λ_=>f3.at1 (k:=4) b6 rfl,v,λ_=>f3.at1 (k:=2) b6 rfl,λhh=>?_,λhh=>?_⟩
   .have i6:ch.i<ch.vs.length:=(by simp at hh;omega);obtain⟨n4,y8,p4,_,⟨l5,_⟩,u2⟩:=hv.el i6;subst l5;refine sf.drew λw9 x9=>⟨_,f3.at1 (k:=1) (b6.Z x9) rfl,v,f3.at1 (k:=2) (b6.Z x9) rfl,(ch.i:Int),f3.at1 (k:=4) (b6.Z x9) rfl,n4,⟨p4,oM,oM⟩,_,_,_,u2 _ (e4.Z x9),An.intro λae c4 c8 d1 _ _=>?_⟩;refine(d2.U (((h4.Z b6).Z x9).Z c8)).é (((e4.Z x9).Z c8)) JV (x:=⟨ch.Y,ch.vs[ch.i]⟩) ⟨rfl,o5⟩ d1.sh dC (by rw[eP];unfold Ab;omega) λr' d6 e9 c5=>kJ r' d6 c5 ?_;rwa [NA ht i6]
   .have i6: ¬ch.i<ch.vs.length:=(by simp at hh;omega);refine kJ _ _ e4 ?_;rw[NB i6];exact d2.U (h4.Z b6)
 .have l7:i=L.length:=oM;rw[l7,eh,<-q2]at d2 i9 f7 j6;have m5:=x3.size;have s9:s.env.length<=7000:=oM;generalize ah:s.env=E0 at*;have hF:tq AW 40 w3 w.heap.size env E0:=tq.of (E:=vb) (f:=AW) (bytes:=40) (λx cs h=>h.1) d2 (by unfold Ab;omega);refine Zkn hF m5 i9 λw4 b4 o4=>⟨rfl,?_⟩;have n0:AI w w4:=x3.W b4;have av:=n0.size;have r7:∀p∈B9 E0,Ad p.Y:=λp hp=>f7 p ((Fa E0).mem_iff.1 hp);have hE:No vb w4 (λb=>w.heap.size<=b/\b<w4.heap.size) env (B9 E0):=o4.rv r7;have z0:(B9 E0).length<=7000:=by rwa [(Fa E0).length_eq]
  have b2:q.bind s.ns s.AS.length E0=match Cj q (B9 E0) (B9 E0)with
   |none=>.yw
   |some xs=>match Bv q.N (s.ns.map rz.key) xs with
    |none=>.many
    |some r=>.ok (CQ s.ns s.AS.length r.2++r.1):=rfl
  generalize B9 E0=ES at*;clear d2 i9 f7 j6 hF o4 g0 hn b4 x3 m5 hi l6 k4;have an:=hE.len;refine th.up hE.max (λtg i w'=>AI w4 w'/\∃(SS:Nat->Prop) (done:Ζ),OF uh 56 w' w4.heap.size SS tg done/\(∀b,SS b->w4.heap.size<=b)/\Cj q ES ES=(Cj q ES (ES.drop i)).map (λr=>done++r)/\done.length=i)
   ⟨AI.refl _,se,[],OF.nil _ _,λ_ h=>h.F,by rw[ju];cases Cj q ES ES<;>rfl,rfl⟩ λtg i w5 r9 hi ⟨x5,SS,done,d9,o9,g7,u4⟩ hn=>⟨λg2=>?_,λl6=>?_⟩
  .have a8:i<ES.length:=oM;obtain⟨s5,t4,_,o6,t9⟩:=CE hE a8;rw[gj a8]at g7;generalize ES[i]=p at*;have v8:=x5.size;refine⟨s5,⟨t4,oM,g2⟩,_,_,_,_,t9 _ x5,An.intro λa6 w6 x6 d5 z2 _=>tk.intro d5 sI λw7 b7 _ c7=>sf.drew λw8 x8=>?_⟩;have y6:AI w5 w7:=b7.U x6 oM;have b6:=y6.Z x8;have n1:=x5.Z b6;have e4:=n0.Z n1;have y0:=b6.size;refine⟨sp,rfl,some K.cp,AT.at0 hb e4 rfl,sp,rfl,K.mD,K.yj,K.yn,K.ã,AT.at1 hb (k:=1) e4 rfl,_,_,_,_,c7.at0 (r:=[]) x8 rfl,?_⟩;have n9:=hC.below (e4.ut lo hC.le);refine Nr.V (Zm8 (p7.U e4) n9.tm (S3:=λb=>w.heap.size<=b/\b<w4.heap.size) (λb hb=>by have:=n1.size;omega) n9.sd (hE.U n1) o6 (λcx t w9 g5 x9 t0 r6=>⟨_,_,rfl,nO,λ_=>?_⟩) λw9 g5 x9=>⟨_,_,rfl,λ_=>?_,nO⟩)
   .have r4:=x9.size;have s2:=x8.Z x9;refine⟨_,c7.at0 s2 rfl,_,_,_,c7.at1 (k:=1) (r:=[]) s2 rfl,An.intro λac c4 c8 d1 t6 _=>?_⟩;have h9:=(b6.Z x9).Z c8;have g6:=c8.size;refine(d9.U h9).push (E:=uh) PO (x:=⟨p.Y,p.v,cx,[]⟩) (S':=λb=>w8.heap.size<=b/\b<w9.heap.size) (by have:=h9.size;omega) ⟨o6,t,Sl.nil,rfl,(t0.rv r6).U c8,No.nil trivial⟩ d1.sh (λb hb=>by omega) (λad a4 hb=>by have:=(d9.block a4).2.1;omega) (by show(done.length+1)*88<=Ab;unfold Ab;omega) oM λr' d6 e9 d0 y3 y4=>?_;refine hn a8 _ _ ⟨(x5.Z h9).W d0,_,done++[⟨p.Y,p.v,cx,[]⟩],e9,λb hb=>?_,?_,by rw[du,u4];rfl⟩
    .obtain hb|hb:=hb
     .exact o9 b hb
     .omega
    .rw[g7,Zlq g5,Option.map_map];congr 1;funext r;simp
   .refine i7 w9 ?_ (e4.Z x9);rw[b2,g7,Zlr g5];rfl
  .have l7:i=ES.length:=oM;have j9:Cj q ES ES=some done:=(by rw[g7,l7,lh,Cj];simp);rw[j9]at b2;dsimp only at b2;clear g7 hn j9;have v8:=x5.size;have e3:=n0.Z x5;have z5:=e3.size;generalize done=xs at*;have ba:xs.length<=7000:=oM;obtain⟨ST,k7,f9⟩:∃ST,No uh w5 ST tg xs/\∀b,ST b->w4.heap.size<=b/\b<w5.heap.size:=⟨_,d9.A (by show xs.length*88<=Ab;unfold Ab;omega) oM,λb hb=>by
    rcases hb with hb|⟨ad,a4,rfl⟩
    .exact⟨o9 b hb,d9.lt b hb⟩
    .exact⟨(d9.block a4).1,(d9.block a4).2.1⟩⟩
   have q6:∀ad,nds.a=some ad->ad.block<w.heap.size:=λad a4=>(h0.uk.block a4).2.1;have j3:∀ad,ahd.a=some ad->ad.block<w.heap.size:=λad a4=>(h0.AS.block a4).2.1;have j8:∀ad,stk.a=some ad->ad.block<w.heap.size:=λad a4=>(h0.stack.block a4).2.1;obtain⟨Q2,h5,t1,o8⟩:∃Q2,yp w5 lo sp.block stk nds ahd ws Q2 s/\(∀b,Q2 b->b<w5.heap.size)/\∀b,ST b->Q2 b:=⟨_,h0.grow e3 hC.le hg,λb hb=>by
    obtain hb|hb:=hb
    .have:=h0.uk.lt b hb;omega
    .exact hb.2,λb hb=>.inr ⟨by have:=f9 b hb;omega,(f9 b hb).2⟩⟩
   have ay:=k7.len;refine⟨sp,rfl,nds,AT.at1 hb (k:=8) e3 rfl,?_⟩;refine th.up k7.max (λeg i w'=>∃(a5:Sl) (a0:Ζ) (es:LQ),AT w' sp (CS K stk a5 ahd ws s.first)/\yp w' lo sp.block stk a5 ahd ws Q2 {s with ns:=s.ns++a0}/\(∀ad,a5.a=some ad->ad.block<w.heap.size\/w5.heap.size<=ad.block)/\Below lo w5 w'/\(∀b,w.heap.size<=b->b<w5.heap.size->w'.heap[b]?=w5.heap[b]?)/\
     OF xu 153 w' w5.heap.size se eg es/\yl eg a5/\Bv q.N (s.ns.map rz.key) xs=(Bv q.N ((s.ns++a0).map rz.key) (xs.drop i)).map (λr=>(a0++r.1,es++r.2))/\es.length=i/\(s.ns++a0).length<=q.N)
    ⟨nds,[],[],hb.U e3,by rwa [gv],λad a4=>.inl (q6 ad a4),Below.refl _ _,λ_ _ _=>rfl,OF.nil _ _,λ_ _ h=>(by cases h),by rw[gv,ju];cases Bv q.N (s.ns.map rz.key) xs<;>rfl,rfl,by rwa [gv]⟩
    λeg i w6 r9 hi ⟨a5,a0,es,d5,h6,g3,d7,g8,d3,i4,f6,q3,q9⟩ hn=>⟨λg2=>?_,λl6=>?_⟩
   .have a8:i<xs.length:=oM;have v9:=d7.size;have t3:No uh w6 ST tg xs:=k7.sj λb hb t8=>g8 b (by have:=f9 b hb;omega) t8;obtain⟨s6,af,t5,_,⟨o7,cy,ey,rfl,q0,u6⟩,p8⟩:=t3.el a8;rw[gj a8]at f6;have g4:=h6.uk.len;generalize xs[i]=x at*;refine⟨s6,⟨t5,oM,g2⟩,_,_,_,_,cy,ey,p8 _ xR,An.intro λa7 w7 x7 c7 j2 _=>tk.intro c7 sI λw8 b8 _ i5=>?_⟩;have x0:=x7.size;have i2:AI w6 w8:=b8.U x7 oM;have y0:=i2.size;have q7:No uh w8 (λb=>Q2 b\/∃ad,a5.a=some ad/\b=ad.block) a5 (s.ns++a0):=(h6.uk.U i2).A (by show(s.ns++a0).length*88<=Ab;unfold Ab;omega) (by show(s.ns++a0).length<=maxLen;omega);have z7:sp.block<w.heap.size:=hg;have ab:w5.heap.size<=w8.heap.size:=oM;refine⟨sp,rfl,a5,AT.at1 d5 (k:=8) i2 rfl,MM.V (Zdz (p:=λy=>decide (y.key=x.key)) q7 (λy _ c' e' bc k k0 q1 hk=>⟨_,_,rfl,Zbj,Mz.V (Zg (x:=x) (y:=y) (i5.U k0) ((q0.U i2).U k0) q1 hk)⟩) λw9 x9=>⟨_,rfl,join.named λJ hJ=>?_⟩)⟩;have d4:=i2.Z x9;have r4:=d4.size;have f5:=i5.U x9;have kJ:∀(to:Int)(c4:PU)(d8:Sl)(b0:Ζ),AT c4 a7 [.string x.Y,vi x.v.ma,vi x.v.mi,vi x.v.pa,cy.v,ey.v]->AT c4 sp (CS K stk d8 ahd ws s.first)->yp c4 lo sp.block stk d8 ahd ws Q2 {s with ns:=s.ns++b0}->(∀ad,d8.a=some ad->ad.block<w.heap.size\/w5.heap.size<=ad.block)->Below lo w5 c4->(∀b,w.heap.size<=b->b<w5.heap.size->c4.heap[b]?=w5.heap[b]?)->
      OF xu 153 c4 w5.heap.size se eg es->yl eg d8->Bv q.N (s.ns.map rz.key) xs=(Bv q.N ((s.ns++b0).map rz.key) (xs.drop (i+1))).map (λr=>(b0++r.1,(es++[⟨x.Y,to⟩])++r.2))->(s.ns++b0).length<=q.N->J to c4:=by
     subst hJ;intro to c4 d8 b0 d1 m6 i3 m1 c9 m7 h3 j1 m4 m3;refine⟨_,d1.at0 xR rfl,An.intro λs3 d6 c5 e6 k8 _=>?_⟩;have g6:=c9.size;have r2:=c5.size;have d0:Below lo w5 d6:=Below.Z c9 (c5.ut lo (by have:=hC.le;omega));refine(h3.U c5).push (E:=xu) NE (x:=⟨x.Y,to⟩) (S':=se) oM ⟨rfl,o7⟩ e6.sh (λ_ h=>h.F) (λ_ _ h=>h.F) (by show(es.length+1)*24<=Ab;unfold Ab;omega) oM λr' j0 m8 c3 g9 e0=>?_;have r3:=c3.size;have ho:DU eg d6 j0:=⟨c3.size,g9⟩;have b9:∀ad,eg.a=some ad->w5.heap.size<=ad.block:=λad a4=>(h3.block a4).1;refine hn a8 r' j0 ⟨d8,b0,es++[⟨x.Y,to⟩],(m6.U c5).yo ho (λad a4=>by have:=b9 ad a4;omega),(i3.U c5).yo ho (λa b ha hb=>by have:=j8 a ha;have:=b9 b hb;omega) j1.swap (λa b ha hb=>by have:=j3 a ha;have:=b9 b hb;omega) (λad a4 hq=>by have:=b9 ad a4;have:=t1 _ hq;omega),m1,
      Below.Z d0 (Below.O c3 (by have:=hC.le;omega)),λb h1 h2=>?_,m8.O (λ_ h=>h.F id id) (λ_ h=>h.F) (λ_ _ h=>h.F),Sl.Ř e0 j1 (i3.uk.U c5),m4,by rw[du,q3];rfl,m3⟩
     rw[g9 b oM λad a4 e=>by have:=b9 ad a4;omega,c5.block oM];exact m7 b h1 h2
    clear hJ;have e7:=Zc8 (s.ns++a0) x;have r0:(s.ns++a0).length=s.ns.length+a0.length:=du;cases hf:(s.ns++a0).findIdx? (λy=>decide (y.key=x.key))with
    |some j=>have g1:AV (λy:rz=>decide (y.key=x.key)) (s.ns++a0)=(j:Int):=(by unfold AV;rw[hf]);rw[g1];rw[hf]at e7;refine⟨λh=>by omega,λ_=>kJ (j:Int) w9 a5 a0 f5 (d5.U d4) (h6.U d4) g3 (Below.Z d7 (d4.ut lo (by have:=hC.le;omega))) (λb h1 h2=>by rw[d4.block oM];exact g8 b h1 h2) (d3.U d4) i4 ?_ q9⟩;rw[f6,Zhj e7,Option.map_map];congr 1;funext r;simp
    |none=>
     have g1:AV (λy:rz=>decide (y.key=x.key)) (s.ns++a0)= -1:=(by unfold AV;rw[hf]);rw[g1];rw[hf]at e7;have l8:a5.len=(s.ns++a0).length:=g4;refine⟨λ_=>⟨sp,rfl,a5,AT.at1 d5 (k:=8) d4 rfl,λu7=>?_,λar=>?_⟩,λh=>fm dC h⟩
     .refine m0 w9 ?_ (Below.Z (Below.Z (e3.ut lo hC.le) d7) (d4.ut lo (by have:=hC.le;omega)));rw[b2,f6,Zhi e7 (by rw[ec];omega)];rfl
     .refine⟨sp,rfl,a5,AT.at1 d5 (k:=8) d4 rfl,sf.drew λc4 c8=>⟨sp,rfl,a5,AT.at1 d5 (k:=8) (d4.Z c8) rfl,_,_,_,_,cy,ey,f5.at0 (r:=[]) c8 rfl,An.intro λs3 d6 c5 e6 k8 _=>?_⟩⟩;have g6:=c8.size;have r2:=c5.size;have c6:=(d4.Z c8).Z c5;have d0:Below lo w5 d6:=Below.Z d7 (c6.ut lo (by have:=hC.le;omega));refine yp.Xcj (x:=x) (h6.U c6) PO (by have:=hC.le;omega) oM ⟨o7,cy,ey,rfl,(q0.U c6).O o8,(u6.U c6).O o8⟩ e6.sh (by show(s.ns++a0).length<=1000;omega) λr' j0 s7 c3 f0 e0=>?_;have r3:=c3.size;have z4:∀ad,a5.a=some ad->ad.block<d6.heap.size:=λad a4=>(by have:=(h6.uk.block a4).2.1;omega);have q8:∀ad,a5.a=some ad->a7.block≠ad.block:=λad a4=>(by have:=(h6.uk.block a4).2.1;omega);have p5:AT j0 sp (CS K stk a5 ahd ws s.first):=(d5.U c6).yo f0 λad a4 e=>h6.o2 ad a4 e.H;refine⟨sp,rfl,?_⟩;refine ry.intro (o:=8) p5 (by show 9<=12;omega) λy5 f2 aa p6=>?_;have z6:=f2.1;have m2:a7.block≠sp.block:=oM;have v7:∀ad,r'.a=some ad->ad.block<w.heap.size\/w5.heap.size<=ad.block:=λad a4=>by
       obtain h|h:=e0 ad a4
       .exact g3 ad h
       .right;omega
      have n8:yl eg r':=(Sl.Ř e0 i4.swap (d3.U c6)).swap;have y1:((a5.len:Int))=(((s.ns++a0).map rz.key).length:Int):=(by rw[ec,l8]);rw[y1];refine kJ _ y5 r' (a0++[x]) (f2.box ((f5.U (c8.Z c5)).yo f0 q8) m2) p6 ?_ v7 (Below.Z (Below.Z d0 c3) (f2.below (by have:=hC.le;omega) l9)) (λb h1 h2=>?_) ?_ n8 ?_ ?_
      .have s8:=s7.tz f2;have e1:s.ns++a0++[x]=s.ns++(a0++[x]):=ff _ _ _;rwa [<-e1]
      .rw[f2.2.2.2.2 b oM oM,f0.2 b oM λad a4 e=>by rcases g3 ad a4 with h|h<;>omega,c6.block oM];exact g8 b h1 h2
      .exact((d3.U c6).yo f0 i4 λ_ _ h=>h.F).tz f2 (λh=>h.F) λad a4=>by have:=(d3.block a4).1;omega
      .have e2:(s.ns++(a0++[x])).map rz.key=(s.ns++a0).map rz.key++[x.key]:=(by rw[<-ff];exact gb);rw[f6,Zhk e7 (by rw[ec];omega),Option.map_map,e2];congr 1;funext r;simp
      .rw[du,du];rw[gq];omega
   .have v0:i=xs.length:=oM;have j7:Bv q.N (s.ns.map rz.key) xs=some (a0,es):=(by rw[f6,v0,lh,Bv];simp);rw[j7]at b2;dsimp only at b2;clear f6 j7 hn;have v9:=d7.size;have r0:(s.ns++a0).length=s.ns.length+a0.length:=du;have q4:s.AS.length<(s.ns++a0).length:=oM;have y2:(s.ns++a0)[s.AS.length]?=some (s.ns++a0)[s.AS.length]:=dt q4;obtain⟨f1,ag,e8,_,_⟩:=h6.uk.el y2;have g4:a5.len=(s.ns++a0).length:=h6.uk.len;have u5:=d3.A (by show es.length*24<=Ab;unfold Ab;omega) oM;have b9:∀ad,eg.a=some ad->w5.heap.size<=ad.block/\ad.block<w6.heap.size:=λad a4=>⟨(d3.block a4).1,(d3.block a4).2.1⟩;have h7:=h6.Xdb (P:=λb=>∃ad,eg.a=some ad/\b=ad.block) (λb ⟨ad,a4,e⟩=>by have:=b9 ad a4;have:=hC.le;subst e;exact⟨oM,oM,oM⟩) (λa ha ⟨b,hb,e⟩=>by have:=j8 a ha;have:=b9 b hb;omega) (λa ha ⟨b,hb,e⟩=>i4 b a hb ha e.H) (λa ha ⟨b,hb,e⟩=>by have:=j3 a ha;have:=b9 b hb;omega);have j5:No xu w6 (λb=>Q2 b\/∃ad,eg.a=some ad/\b=ad.block) eg es:=u5.O λb hb=>by
     obtain hb|hb:=hb
     .exact hb.F
     .exact .inr hb
    generalize ak:(λb=>Q2 b\/∃ad,eg.a=some ad/\b=ad.block)=Q3 at h7 j5;refine⟨sp,rfl,a5,AT.at1 d5 (k:=8) xR rfl,f1,⟨e8,oM,oM⟩,?_⟩;rw[k9];have u9:(s.ns++a0)[s.AS.length]=s.ns[s.AS.length]:=List.getElem_append_left hk;refine h7.uk.Ź (i:=s.AS.length) (x:={s.ns[s.AS.length]with sq:=es}) (o:=5) (new:=[eg.v]) q4 e8 (λcs l0=>?_) (by show 5+1<=6;omega) λw7 b7 bb s0=>?_
    .rw[u9]at l0;obtain⟨k1,c',e',rfl,k2,k3⟩:=l0;exact⟨k1,c',eg,rfl,k2,j5⟩
    have r5:(s.ns++a0).set s.AS.length {s.ns[s.AS.length]with sq:=es}=CQ s.ns s.AS.length es++a0:=Zj6 hk;have m9:OF uh 56 w7 lo Q3 a5 (CQ s.ns s.AS.length es++a0):=(by rwa [<-r5]);have k6:=h7.uk.apart f1 e8;have h8:yp w7 lo sp.block stk a5 ahd ws Q3 {s with ns:=CQ s.ns s.AS.length es++a0}:=⟨h7.stack.tz b7 k6 λa ha e=>h7.a1 a f1 ha e8 e.H,m9,h7.AS.tz b7 k6 λa ha=>h7.a3 f1 a e8 ha,h7.ue.tz b7 k6,h7.q,h7.a1,h7.a2,h7.a3,h7.o1,h7.o2,h7.o3⟩;have c7:=b7.box d5 (λe=>h6.o2 f1 e8 e.H);have x0:=b7.1;have v2:lo<=f1.block:=(h7.uk.block e8).1;have n7:Below lo w w7:=Below.Z (Below.Z (e3.ut lo hC.le) d7) (b7.below (by have:=hC.le;omega) v2);refine⟨sp,rfl,ahd,AT.at1 c7 (k:=9) xR rfl,An.intro λa9 w9 x9 f5 z3 _=>?_⟩;have r4:=x9.size;rw[v5]at f5;have q5:lo<=w9.heap.size:=(by have:=hC.le;omega);refine yp.Xci (x:=s.ns.length) (h8.U x9) GP q5 oM f5.sh (by show s.AS.length<=100000;omega) λr' c4 i3 c9 r1=>⟨sp,rfl,?_⟩;have d1:AT c4 sp (CS K stk a5 ahd ws s.first):=(c7.U x9).yo r1 λad a4 e=>h0.o3 ad a4 e.H;have g6:=c9.size;refine ry.intro (o:=9) d1 (by show 10<=12;omega) λd6 n5 _ e6=>v6 d6 _ b2 ?_ ⟨stk,a5,r',ws,Q3,e6,l9,i3.tz n5⟩;exact Below.Z (Below.Z (Below.Z n7 (x9.ut lo (by have:=hC.le;omega))) c9) (n5.below (by have:=hC.le;omega) l9)
end
end Go.Hal
/-
 DERIVED:THE SHELF's CONTRACTS AT THIS DUMP,IN PLAIN WORDS (tools/lay-plain.mjs sw of 'YtgolaibmophnjaaGreatDoorLay4.lean',which tools/lay-shelf.mjs wrote):THE SAME DECLARATIONS UNDER THE SAME NAMES:'import','namespace','open','def','theorem' AND NOTHING ELSE:no command of the shelf's:FOR A HAND-IN. Each laying:the table of numbers ('.._ren') and one theorem,a field a fact of the dump's uy or the kernel's comparison;each contract:ONE APPLICATION.
-/
namespace Go.Proofs
def Tryz.Xak:Go.Shelf.Ren:=⟨λ|6=>178|15=>106|14=>268|28=>171|29=>172|20=>320|21=>321|22=>322|23=>323|24=>324|25=>325|26=>326|27=>327|46=>358|47=>258|48=>259|49=>359|50=>360|57=>385|n=>n,λ|22=>32|24=>187|25=>258|3=>3|39=>185|0=>0|53=>249|55=>251|4=>4|46=>242|45=>241|50=>246|5=>5|9=>9|66=>317|70=>321|76=>366|77=>367|n=>n,λ|n=>n⟩
def Tryz.Xb3:Go.Proofs.SlLaysF0.n6 prog Tryz.Xak:=by repeat' first|kernel_rfl|exact Fx kR kR|(intro w;kernel_rfl)|constructor
end Go.Proofs
namespace Go.Hal
instance:Inhabited Sl:=⟨Sl.nil⟩
def Zfz{a b:Pr×Sl}{R:È}(hR:∀w',Gr w w'->R (A8 a.1 b.1) w'):Gq a.1 a.2 b.1 b.2 w R:=by refine An.gr λ_ w1 x1 hb=>An.gr λ_ w2 x2 a0=>⟨_,Gr.at0 hb x2 rfl,_,Gr.at0 a0 (Gr.refl _) rfl,Fd ⟨_,rfl,hR _ (x1.Z x2)⟩⟩
def U3:Bm prog 183:=enters_of func183 kR rfl
def Xbt{a b:Pr}{R:È}(hR:∀w',AI w w'->R (A8 a b) w'):Gq a s b t w R:=by refine An.intro λ_ w1 x1 hb _ _=>An.intro λ_ w2 x2 a0 _ _=>⟨_,hb.at0 x2 rfl,_,a0.at0 xR rfl,Fd ⟨_,rfl,hR _ (x1.Z x2)⟩⟩
def Zku(hi:i<l.length)(h0:0<i):C2 (l.drop (i - 1))=(!decide (A8 l[i].Y (l[i - 1]'oM).Y<0)&&C2 (l.drop i)):=by
 have h1:l.drop (i - 1)=l[i - 1]'oM::l.drop i:=by rw[gj (by omega:i - 1<l.length)];congr 2;omega
 rw[h1,gj hi,C2]
def Zkv:∀{i:Nat},C2 (l.drop i)=false->C2 l=false:=by
 intro i;induction i generalizing l with
 |zero=>intro h;simpa using h
 |succ i ih=>
  intro h;cases l with
  |nil=>simp at h;exact h
  |cons x r=>
   rw[rp]at h;have:=ih h;cases r with
   |nil=>cases this
   |cons y r=>rw[C2,this,Bool.and_false]
def Zeg(hs:No ru w S s l)(hR:∀w',AI w w'->R (C2 l) w'):MR s (.func (.func 183) #[] #[]) w R:=by
 unfold MR;have hl:=hs.len;have hm:=hs.max;have b5:=Ao;refine Of.zj (λn i w'=>AI w w'/\((l=[]/\i= -1)\/(i=(n:Int)/\n<l.length/\C2 (l.drop n)=true))) (l.length - 1) ⟨AI.refl _,?_⟩ λn i w1 b7 ⟨x1,hJ⟩ hn=>⟨λb4=>?_,λb2=>?_⟩
 .rw[Ai oM oM];by_cases h0:l=[]
  .left;subst h0;rw[hl];exact⟨rfl,rfl⟩
  .right;have:0<l.length:=my.2 h0;refine⟨oM,oM,?_⟩;rw[gj oM,kf oM];rfl
 .rcases hJ with⟨_,rfl⟩|⟨rfl,a4,hI⟩
  .omega
  have h0:0<n:=oM;have ew:Aa ((n:Int) - 1)=((n - 1:Nat):Int):=by rw[Ai oM oM];omega
  rw[ew];obtain⟨ad,t,ha,_,b6,_,hc⟩:=BF hs a4;obtain⟨a7,t2,a8,_,b0,_,a9⟩:=BF hs (n:=n - 1) oM;have a0:=Zku a4 h0;refine sf.drew λw2 x2=>⟨ad,⟨ha,oM,oM⟩,_,t,hc _ (x1.Z x2),a7,⟨a8,oM,oM⟩,_,t2,a9 _ (x1.Z x2),_,_,rfl,U3,Gq.V (Xbt λw3 x3=>⟨_,rfl,λa5=>?_,λa6=>?_⟩)⟩
  .rw[fy a5,Bool.not_true,qw]at a0;have:=hR w3 ((x1.Z x2).Z x3);rw[Zkv a0]at this;exact this
  .rw[fq a6,hI]at a0;exact hn (n - 1) _ _ oM ⟨(x1.Z x2).Z x3,.inr ⟨rfl,oM,a0⟩⟩
 .have hs:C2 l=true:=by
   rcases hJ with⟨rfl,_⟩|⟨rfl,a4,hI⟩
   .rfl
   .have:n=0:=oM;subst this;simpa using hI
  have:=hR w1 x1;rw[hs]at this;exact this
def Zkj(h:OF ru 187 w lo S s l)(a5:lo<=w.heap.size)(a9:l.length<=1000)
  (hK:∀w' (z:List (Pr×Sl)),Below lo w w'->(z.map (·.1)).Perm (l.map (·.Y))->z.Pairwise (λx y=>A8 x.1 y.1<=0)->(z=[]\/∃g tail,s.a=some ⟨g,0,none⟩/\tv (λx:Pr×Sl=>[.string x.1,Sl.v x.2]) w' g z tail)->K (.tuple #[]) w'):
  sx prog 178 [s.v,.func (.func 183) #[] #[]] w K:=by
 have a0:=h.len;rcases h.Xbv (λx:Pr×Sl=>[.string x.1,Sl.v x.2]) (λy x=>y.1=x.Y) (λx cs (hx:ru.rep w S x cs)=>by obtain⟨_,t,a4,_⟩:=hx;exact⟨(x.Y,t),a4,rfl⟩)with⟨rfl,rfl⟩|⟨g,z,tail,ha,hg,hz,hr,hrow,hc,hcm⟩
 .refine(AnyF.slices_SortFunc_none Tryz.Xb3 none 0 _ w).O λe w' ⟨he,hw⟩=>⟨_,he,?_⟩;subst hw;exact hK _ [] (Below.refl _ _) (jr _) List.Pairwise.nil (.inl rfl)
 .obtain⟨a,n,c⟩:=s;simp only at ha a0;subst ha;have a8:(z.map Prod.fst).length=l.length:=by rw[<-hz];simp
  have a6:(z.map Prod.fst).map (·.1)=l.map (·.Y):=by rw[<-hz,jh,jh];exact od λp hp=>hr p hp
  subst a0;rw[<-a8];have hO:=DJ (α:=Pr×Sl) (·.1);refine FH Tryz.Xb3 (k:=2) (λw=>kR) (λw=>kR) (f:=λx:Pr×Sl=>[.string x.1,Sl.v x.2]) (λ_=>rfl) (λx v hv=>by simp[Sl.v]at hv;rcases hv with rfl|rfl<;>rfl) (λa b=>A8 a.1 b.1) (Fe hO.flip hO.Z) 183 #[] U3 (λw0 x y hb _=>?_) hrow oM rfl λl' w' hp hs b a7=>?_
  .have h:=Gq.V (k:=λv w'=>v= .int .i64 (A8 x.1 y.1)/\Gr w0 w') (Zfz (a:=x) (b:=y) (w:=w0) λw' h=>⟨rfl,h⟩);exact Calls.O h λe w' ⟨v,he,hv,hg⟩=>⟨by rw[he,hv],hg⟩
  .refine hK w' l' (b.below a5 hg) ?_ (hs.imp λ{a b} h=>by have:=hO.flip b a;have:=hO.flip a b;omega) (.inr ⟨g,tail,rfl,a7⟩);rw[<-a6];exact hp.map _
def okB{d:um}{t2:Bool}{n:Int}(h2:Ae d.Y=true->t2=AN d.range)(hn:(n==0)=d.range.isEmpty):(((!Ae d.Y)||(!t2))||(n==0))= !Dp d:=by
 unfold Dp;rw[hn];cases h1:Ae d.Y
 .simp
 .rw[h2 h1];cases AN d.range<;>cases d.range.isEmpty<;>rfl
def VM{sa sb sc:Sl}{la lb lc:Θ}(hS:Old S w)(ha:No ru w S sa la)(hb:No ru w S sb lb)(hc:No ru w S sc lc)(hR:∀w',AI w w'->R (BH la lb lc) w'):Jb sa sb sc w R:=by
 unfold Jb;have i2:=Ao;have e9:ru.bytes=40:=rfl;refine An.intro λa1 w1 x1 b4 h3 _=>?_;have i3:=x1.size;have a0:∀{l:Θ},wk l=true->l.length<=16:=λh=>by unfold wk at h;simp only[dz,fk]at h;exact h.1.1
 refine th.up (N:=3) dC (λall i w'=>AI w w'/\AI w1 w'/\∃(S':Nat->Prop) (pre:Θ),OF ru 187 w' w1.heap.size S' all pre/\(i=0->pre=[])/\(i=1->pre=la)/\(i=2->pre=la++lb)/\(i=3->pre=la++lb++lc)/\(0<i->wk la=true)/\(1<i->wk lb=true)/\(2<i->wk lc=true))
  ⟨x1,AI.refl _,se,[],(OF.nil _ _),λ_=>rfl,λh=>by omega,λh=>by omega,λh=>by omega,λh=>by omega,λh=>by omega,λh=>by omega⟩ λall i w2 g9 hi ⟨x2,a6,S',pre,uy,p0,p1,p2,p3,k0,k1,k2⟩ hn=>⟨λd8=>?_,λf5=>?_⟩
 .have d9:i<3:=by have:((Sl.mk (some a1) 3 3).len:Int)=3:=rfl;omega
  have d0:=Vs (i:=i) (b4.U a6);have c7:i=0\/i=1\/i=2:=oM;obtain⟨t,l,f9,hs,q0,q1,q2,d4,h6⟩:∃t l,sh w2 (a1.add (i*1)) [Sl.v t]/\No ru w S t l/\(i=0->l=la)/\(i=1->l=lb)/\(i=2->l=lc)/\(wk l=false->BH la lb lc=false)/\pre.length<=32:=by
   obtain rfl|rfl|rfl:=c7
   .exact⟨sa,la,d0.1 rfl,ha,λ_=>rfl,λh=>by omega,λh=>by omega,λh=>Rl (.inl h),by rw[p0 rfl];simp⟩
   .exact⟨sb,lb,d0.2.1 rfl,hb,λh=>by omega,λ_=>rfl,λh=>by omega,λh=>Rl (.inr (.inl h)),by rw[p1 rfl];have:=a0 (k0 oM);omega⟩
   .exact⟨sc,lc,d0.2.2 rfl,hc,λh=>by omega,λh=>by omega,λ_=>rfl,λh=>Rl (.inr (.inr h)),by rw[p2 rfl,du];have:=a0 (k0 oM);have:=a0 (k1 oM);omega⟩
  have i4:=hs.len;refine⟨a1,⟨rfl,oM,d8⟩,t,f9,IN ?_⟩;refine IS.intro (C2 l) (λ_ q hq=>MR.V (Zeg (hs.U x2) λw' hx=>⟨_,rfl,hq _ hx⟩)) λt2 w3 x3 b8=>?_;have a8:=x2.Z x3;have a4:∀w',AI w w'->wk l=false->R false w':=λw' hx h=>by have:=hR w' hx;rw[d4 h]at this;exact this
  refine⟨λh=>a4 w3 a8 ?_,λh=>?_⟩
  .unfold wk;cases b2:decide ((16:Int)<(t.len:Int))
   .rw[b2]at b8 h;rw[b8 rfl]at h;have:C2 l=false:=by simpa using h
    rw[this];simp
   .have: ¬l.length<=16:=(by simp at b2;omega);simp[this]
  .have b2:l.length<=16:=(by simp at h;omega);have hd:decide ((16:Int)<(t.len:Int))=false:=(by simp;omega);rw[hd]at b8 h;rw[b8 rfl]at h;have g5:C2 l=true:=(by simpa using h);refine Of.up hs.max (λj w'=>AI w3 w'/\(l.take j).all Dp=true) ⟨AI.refl _,rfl⟩ λj w4 h7 hj ⟨x4,hI⟩ g0=>⟨λe2=>?_,λh5=>?_⟩
   .have b7:j<l.length:=oM;obtain⟨ad,tr,c4,_,g2,hr,f3⟩:=BF hs b7;have a9:=a8.Z x4;refine⟨ad,⟨c4,oM,e2⟩,_,tr,f3 _ a9,An.intro λa5 w5 x5 f0 h4 _=>tk.intro f0 sI λw6 b6 _ c5=>⟨_,c5.at0 xR rfl,?_⟩⟩;have e7:AI w4 w6:=b6.U x5 oM;have e6:=a9.Z e7;refine CI.V (ux g2 λw7 x7=>⟨_,rfl,IN ⟨tr,λ_=>c5.at1 (k:=1) (r:=[]) x7 rfl,?_⟩⟩);refine IS.intro (AN l[j].range) (λ_ q hq=>G5.V (Ü (hr.U (e6.Z x7)) λw' hx=>⟨_,rfl,hq _ hx⟩)) λt3 w8 x8 g7=>IN ⟨tr,λ_=>c5.at1 (k:=1) (r:=[]) (x7.Z x8) rfl,?_⟩;have e0:((tr.len:Int)==0)=l[j].range.isEmpty:=(by rw[hr.len];cases l[j].range<;>simp;omega);have e1:=okB (d:=l[j]) (t2:=t3) (n:=(tr.len:Int)) (λh1=>g7 (by rw[h1];rfl)) e0;rw[e1];have g6:(l.take (j+1)).all Dp=Dp l[j]:=(by rw[dw b7,rj,hI];simp);refine⟨λhh=>a4 w8 ((e6.Z x7).Z x8) ?_,λhh=>g0 b7 _ ⟨(x4.Z e7).Z (x7.Z x8),by rw[g6];simpa using hh⟩⟩;have c6:Dp l[j]=false:=(by simpa using hh);unfold wk;have:l.all Dp=false:=by rw[List.all_eq_false];exact⟨l[j],fe b7,by rw[c6];decide⟩
    rw[this,Bool.and_false]
   .have c9:j=l.length:=oM;rw[c9,eh]at hI;have d2:wk l=true:=(by unfold wk;rw[g5,hI,fy b2];rfl);have b0:=x3.Z x4;have a9:=x2.Z b0;have g4:=a9.size;refine(uy.U b0).yx JU (a6.Z b0).size (hs.U a9) (hS.U g4) (λad c4 hb=>by have:=(uy.block c4).1;have:=hS _ hb;omega) (by rw[e9];unfold Ab;omega) oM λr' w9 e5 b9 _ _=>?_;refine hn d9 _ _ ⟨x1.Z ((a6.Z b0).W b9),(a6.Z b0).W b9,_,pre++l,e5,λh=>by omega,λh=>?_,λh=>?_,λh=>?_,λ_=>?_,λh=>?_,λh=>?_⟩
    .have:i=0:=oM;rw[p0 this,q0 this];rfl
    .have:i=1:=oM;rw[p1 this,q1 this]
    .have:i=2:=oM;rw[p2 this,q2 this]
    .obtain h0|h0:=kg i
     .rwa [<-q0 h0]
     .exact k0 h0
    .obtain h0|h0:=rt 1 i
     .exact k1 h0
     .have:i=1:=oM;rwa [<-q1 this]
    .have:i=2:=oM;rwa [<-q2 this]
 .have d6:i=3:=by have:((Sl.mk (some a1) 3 3).len:Int)=3:=rfl;omega
  rw[Znf (k0 oM) (k1 oM) (k2 oM),<-p3 d6]at hR;have g3:pre.length<=1000:=by rw[p3 d6,du,du];have:=a0 (k0 oM);have:=a0 (k1 oM);have:=a0 (k2 oM);omega
  clear p0 p1 p2 p3 k0 k1 k2 hn;refine Zkj uy a6.size g3 λw3 z b3 e4 g8 hz=>⟨rfl,?_⟩;have a8:AI w w3:=x1.Z (a6.W b3);have h8:=uy.len;have i5:z.length=pre.length:=by have:=e4.length_eq;simpa using this
  have c3:∀w',AI w w'->∀b,(b=true↔(z.map (·.1)).Nodup)->R b w':=λw' hx b hb=>by have h1:=hR w' hx;have:b=decide (pre.map (·.Y)).Nodup:=(by rw[gp,hb,fk];exact e4.nodup_iff);rwa [this]
  have a7:∀i (hi:i<z.length),∃ad,all.a=some ad/\∀w',AI w3 w'->sh w' (ad.add (i*2)) [.string z[i].1]:=λi hi=>by
   rcases hz with rfl|⟨g,tail,c8,e3⟩
   .exact fm hi (Nat.not_lt_zero _)
   .exact⟨_,c8,λw' hx=>(tv.ld (k:=2) (λ_=>rfl) (e3.U hx) hi).pre rfl⟩
  have d1:∀{i j:Nat} (hi:i<z.length) (hj:j<z.length),i<j->A8 z[i].1 z[j].1<=0:=λhi hj f6=>gz.1 g8 _ _ hi hj f6;refine Of.zj (λm i w'=>∃k:Nat,i=(k:Int)/\1<=k/\m=z.length - k/\AI w3 w'/\(z.take k).Pairwise (λx y=>Ak x.1 y.1=true)) (z.length - 1) ⟨1,rfl,fx _,rfl,AI.refl _,?_⟩ λm i w4 g9 ⟨k,d7,h9,hm,x4,hP⟩ hn=>⟨λd8=>?_,λf5=>?_⟩
  .cases z with
   |nil=>exact List.Pairwise.nil
   |cons x r=>simp
  .subst d7;have b5:k<z.length:=oM;have ew:Aa ((k:Int) - 1)=((k - 1:Nat):Int):=by rw[Ai oM oM];omega
   rw[ew];obtain⟨ad,c8,f1⟩:=a7 k b5;obtain⟨e8,d5,f2⟩:=a7 (k - 1) oM;refine sf.drew λw5 x5=>⟨ad,⟨c8,oM,oM⟩,_,f1 _ (x4.Z x5),e8,⟨d5,oM,oM⟩,_,f2 _ (x4.Z x5),λhe=>?_,λg1=>?_⟩
   .refine c3 _ (a8.Z (x4.Z x5)) false ⟨nO,λh=>?_⟩;rw[il,jb]at h;exact fm he.H (gz.1 h (k - 1) k oM b5 oM)
   .have d3:=d1 (i:=k - 1) (j:=k) oM b5 oM;have b4:Ak (z[k - 1]'oM).1 z[k].1=true:=JW d3 λe=>g1 e.H;refine hn (z.length - (k+1)) _ _ oM ⟨k+1,by rw[Ai oM oM];omega,oM,rfl,x4.Z x5,?_⟩;rw[dw b5,jc];refine⟨hP,lq _ _,λx hx y hy=>?_⟩;simp only[ep]at hy;subst hy;obtain⟨j,hj,rfl⟩:=gc.1 hx;rw[fg]at hj;rw[jw];by_cases f7:j=k - 1
    .subst f7;exact b4
    .have c9:j<(z.take k).length:=(by rwa [fg]);have f8:k - 1<(z.take k).length:=(by rw[fg];omega);have h2:=gz.1 hP j (k - 1) c9 f8 oM;rw[jw,jw]at h2;exact GU h2 b4
  .subst d7;refine c3 _ (a8.Z x4) true ⟨λ_=>?_,λ_=>rfl⟩;rw[ia oM]at hP;rw[il,jb];exact hP.imp λh=>Fw h
def zy(T:LN)(w:PU)(a:LP)(cs:LV):Prop:=a.off=0/\a.spot=none/\w.heap[a.block]?=some (.cells cs.toArray T (0,0))
def zy.box{T:LN}(h:zy T w a cs):AT w a cs:=⟨T,h⟩
def zy.U{T:LN}(h:zy T w a cs)(hx:AI w w'):zy T w' a cs:=⟨h.1,h.2.1,(hx.block (lt_of_block h.2.2)).Z h.2.2⟩
def An.ç{t:LN}{k:Ì}(h:∀a w',AI w w'->zy t w' a cs->a.block=w.heap.size->w'.heap.size=w.heap.size+1->k a w'):An w cs t k:=λa w' ha hw=>by subst ha hw;exact h _ _ (AI.alloc _ _) ⟨rfl,rfl,heap_alloc_new w _⟩ rfl sI
def tk.ç{T:LN}{tm:LV}{k:Wp}(hb:zy T w a tm)(hl:cs.length=tm.length)(h:∀w',uv a.block w w'->w'.heap.size=w.heap.size->zy T w' a cs->k w'):ry w a cs k:=by
 obtain⟨ho,hs,hh⟩:=hb;obtain⟨b,of,sp⟩:=a;simp only at ho hs hh;subst ho hs;refine⟨_,T,hh,rfl,by simp[hl],h _ ⟨?_,rfl,rfl,rfl,λc hc a0=>setRow_other w b c _ a0⟩ ?_ ⟨rfl,rfl,?_⟩⟩
 .simp[World.setRow]
 .simp[World.setRow]
 .rw[setRow_heap w b tm.toArray _ T _ hh];have:tm.drop cs.length=[]:=by rw[hl];exact lh
  simp[Du,this]
def ĕ.lt{b:Nat}{l:LU}(h:ĕ b l w):b<w.heap.size:=by rcases h with⟨_,_,h,_⟩|⟨_,_,h,_⟩<;>exact lt_of_block h
def Ka{b:Nat}{l m:LU}{k:Ë}(hB:ĕ b l w)(h0:w0.heap.size=b)(x0:AI w0 w)(hl:l.length+m.length<=140737488355328)
  (hk:∀w' n,AI w0 w'->ĕ b (l++m) w'->(∀T a cs,T≠5->a.block≠b->zy T w a cs->zy T w' a cs)->k (.tuple #[vi n,.nilIface]) w'):sx prog 93 [.pointer (some ⟨b,0,none⟩),.string (B m)] w k:=by
 have h:=Any.Builder_WriteString_k {Tryz.ŵ with} Qe b b (Lib.byteCells l) (B m) w hB (by rwa [Lib.byteCells_length,Ac]) (by have:=x0.size;omega);refine h.O λe w' ⟨he,hb,a4,a5⟩=>⟨_,he,hk w' _ (x0.W (by rwa [h0])) (.inr ?_) λT a cs hT ha a0=>⟨a0.1,a0.2.1,a5 _ _ a0.2.2 (λe=>ha (jv e)) λc fz e=>?_⟩⟩
 .have e:Lib.byteCells l++Lib.strCells (B m)=Lib.byteCells (l++m):=by rw[Lib.strCells_eq,Fk];simp[Lib.byteCells]
  rw[e]at hb;exact hb
 .simp only[Obj.cells.injEq]at e;exact hT e.2.1
def Md:LN:=235
def Zg5{R:Sl->Wp}(hR:∀a' w',AI w w'->zy Md w' a' [.string (B yd),.pointer (some a),.string (B ĭ),.pointer (some (a.add 1)),.string (B yv),.pointer (some (a.add 2)),.string (B ħ),.pointer (some (a.add 3))]->w.heap.size<=a'.block->R ⟨some a',4,4⟩ w'):LG (some a) w R:=by unfold LG;exact sf.drew λw1 x1=>⟨a,rfl,a,rfl,a,rfl,a,rfl,An.ç λa' w2 x2 hb a0 _=>hR a' w2 (x1.Z x2) hb (by have:=x1.size;omega)⟩
def mt(m:vz)(i:Nat):LU:=match i with
 |0=>Û
 |1=>Û++B1 yd m.ss
 |2=>(Û++B1 yd m.ss)++B1 ĭ m.uw
 |3=>((Û++B1 yd m.ss)++B1 ĭ m.uw)++B1 yv m.uq
 |_=>CZ m
def VB{e v:Sl}{R:Í}(ht:Þ w)(hm:Dm m=true)(hd:No ru w S d m.ss)(he:No ru w S e m.uw)(ho:No ru w S o m.uq)(hv:No ru w S v m.sd)
  (hR:∀w',AI w w'->R (B (CZ m)) w'):Jc d e o v w R:=by
 unfold Jc;unfold Dm at hm;simp only[dz]at hm;obtain⟨⟨⟨h1,h2⟩,h3⟩,h4⟩:=hm;have n1:=B5 h1;have n2:=B5 h2;have n3:=B5 h3;have n4:=B5 h4;have l1:=CM (vv:=yd) dC λd hd=>(n1.2 d hd).1;have l2:=CM (vv:=ĭ) dC λd hd=>(n2.2 d hd).1;have l3:=CM (vv:=yv) dC λd hd=>(n3.2 d hd).1;refine An.intro λa w1 x1 hb _ _=>?_;intro a1 w2 d6 d1;subst d6;have x2:AI w1 w2:=d1▸AI.alloc _ _;have d5:ĕ w1.heap.size [] w2:=d1▸NL w1;have t1:Þ w1:=ht.U x1;have e9:ϯ=B Û:=rfl;rw[e9];refine Ie (m:=Û) d5 rfl x2 dC λw3 g8 x3 c4=>⟨_,_,rfl,?_⟩;refine LG.V (Zg5 (a:=a) λap w4 x4 e0 f7=>⟨_,rfl,?_⟩);have f9:=c4.lt;have b2:Md≠5:=by decide
 have f3:=x3.Z x4;have a5:Û.length=8:=rfl;refine Of.up (N:=4) dC (λi w'=>AI w1 w'/\zy Md w' ap [.string (B yd),.pointer (some a),.string (B ĭ),.pointer (some (a.add 1)),.string (B yv),.pointer (some (a.add 2)),.string (B ħ),.pointer (some (a.add 3))]/\ĕ w1.heap.size (mt m i) w') ⟨f3,e0,by simpa[mt]using c4.U x4⟩ λi w5 g9 hi ⟨x5,a4,c5⟩ hn=>⟨λe6=>?_,λg2=>?_⟩
 .have c8:i<4:=by have:((Sl.mk (some ap) 4 4).len:Int)=4:=rfl;omega
  obtain⟨wd,k,t,l,hp,e5,hs,e2,f0,e7,g4⟩:∃(wd:LU) (k:Nat) (t:Sl) (l:Θ),sh w5 (ap.add (i*2)) [.string (B wd),.pointer (some (a.add k))]/\(∀w',AI w5 w'->sh w' (a.add k) [t.v])/\No ru w S t l/\Au l=true/\wd.length<=8/\mt m (i+1)=mt m i++B1 wd l/\(mt m i).length<=1000000:=by
   have b6:i=0\/i=1\/i=2\/i=3:=oM;obtain rfl|rfl|rfl|rfl:=b6
   .exact⟨yd,0,d,m.ss,a4.box.at1 (k:=0) xR rfl,λw' hx=>hb.at1 (k:=0) (x5.Z hx) rfl,hd,h1,by decide,rfl,by simp[mt,a5]⟩
   .exact⟨ĭ,1,e,m.uw,a4.box.at1 (k:=2) xR rfl,λw' hx=>hb.at1 (k:=1) (x5.Z hx) rfl,he,h2,by decide,rfl,by simp[mt,a5];omega⟩
   .exact⟨yv,2,o,m.uq,a4.box.at1 (k:=4) xR rfl,λw' hx=>hb.at1 (k:=2) (x5.Z hx) rfl,ho,h3,by decide,rfl,by simp[mt,a5];omega⟩
   .exact⟨ħ,3,v,m.sd,a4.box.at1 (k:=6) xR rfl,λw' hx=>hb.at1 (k:=3) (x5.Z hx) rfl,hv,h4,by decide,rfl,by simp[mt,a5];omega⟩
  rw[e7]at hn;generalize mt m i=t0 at*;refine⟨ap,⟨rfl,oM,e6⟩,_,_,hp,An.ç λa8 w6 x6 d8 f5 _=>tk.ç d8 rfl λw7 b7 _ c6=>?_⟩;have b0:AI w5 w7:=b7.U x6 oM;have d2:=x5.Z b0;have h7:=x1.Z d2;refine⟨_,c6.box.at1 (k:=1) xR rfl,_,rfl,t,e5 _ b0,?_⟩;have g6:=hs.len;obtain⟨g1,d0⟩:=B5 e2;refine Of.up hs.max (λj w'=>AI w1 w'/\zy Md w' a8 [.string (B wd),.pointer (some (a.add k))]/\zy Md w' ap [.string (B yd),.pointer (some a),.string (B ĭ),.pointer (some (a.add 1)),.string (B yv),.pointer (some (a.add 2)),.string (B ħ),.pointer (some (a.add 3))]/\ĕ w1.heap.size (t0++B1 wd (l.take j)) w') ⟨d2,c6,a4.U b0,by simpa[B1]using c5.U b0⟩ λj w8 g0 hj ⟨x8,c7,b5,hI⟩ e8=>⟨λc9=>?_,λf8=>?_⟩
  .have a7:j<l.length:=oM;obtain⟨ad,tr,d7,_,g5,hr,hc⟩:=BF hs a7;have e1:=d0 _ (fe a7);have q1:=CM f0 (l:=l.take j) λd hd=>(d0 d (kw hd)).1;rw[fg,kq oM]at q1;have q2:=Cn e1.1;have q3:=OU l[j].range;have b8:=x1.Z x8;refine⟨ad,⟨d7,oM,c9⟩,_,tr,hc _ b8,An.intro λa9 w9 x9 d9 f6 _=>tk.intro d9 sI λf1 d4 _ b4=>sf.drew λh0 b9=>?_⟩;have d3:AI w8 f1:=d4.U x9 oM;have a0:=d3.Z b9;refine⟨_,c7.box.at0 a0 rfl,?_⟩;rw[AZ];refine⟨by rw[Ac,A6,Al];simp;omega,_,b4.at0 b9 rfl,?_⟩;rw[Dx l[j].Y,A9,AZ];refine⟨by rw[Ac,Ac,Al];simp;omega,by rw[Ac,A6,Al];simp;omega,tr,b4.at1 b9 rfl,tf.intro (JB.V (Xi (ht.U (b8.Z a0)) (hr.U (b8.Z a0)) λh5 a6=>⟨a6,_,rfl,?_⟩))⟩;rw[A9,AZ];have g3:(((((wd++[32])++l[j].Y.toList)++[32])++Cb l[j].range)++[10]).length<=2030:=(by simp;omega);refine⟨by rw[Ac,Ac,Al];simp;omega,by rw[Ac,A6,Al];simp;omega,Ka (m:=(((((wd++[32])++l[j].Y.toList)++[32])++Cb l[j].range)++[10])) (hI.U (a0.Z a6)) rfl (x8.Z (a0.Z a6)) (by rw[du];omega) λh6 g7 f2 c3 sj=>⟨_,_,rfl,e8 a7 _ ⟨f2,sj _ _ _ b2 (by have:=a4.box.lt;omega) (c7.U (a0.Z a6)),sj _ _ _ b2 oM (b5.U (a0.Z a6)),?_⟩⟩⟩
   .rwa [dw a7,Qx,Hb,<-ff]
  .have e4:j=l.length:=oM;rw[e4,eh]at hI;exact hn c8 _ ⟨x8,b5,hI⟩
 .have e3:i=4:=by have:((Sl.mk (some ap) 4 4).len:Int)=4:=rfl;omega
  subst e3;exact NK c5 rfl x5 λw9 x9=>⟨_,rfl,hR _ (x1.Z x9)⟩
def OD{e v:Sl}(ht:Þ w)(hS:Old S w)(hd:No ru w S d m.ss)(he:No ru w S e m.uw)(ho:No ru w S o m.uq)(hv:No ru w S v m.sd)
  (hR:∀w',AI w w'->R (AF m) w'):Gm d e o v w R:=by
 refine An.intro λa w1 x1 hb _ _=>⟨d,hb.at0 xR rfl,e,hb.at1 (k:=1) xR rfl,o,hb.at1 (k:=2) xR rfl,?_⟩;refine Jb.V (VM (hS.U x1.size) (hd.U x1) (he.U x1) (ho.U x1) λw2 x2=>⟨_,rfl,v,λ_=>hb.at1 (k:=3) (r:=[]) x2 rfl,?_⟩);refine IS.intro (BH m.sd [] []) (λ_ q hq=>Jb.V (VM (hS.U (x1.Z x2).size) (hv.U (x1.Z x2)) (No.nil trivial) (No.nil trivial) λw' hx=>⟨_,rfl,hq _ hx⟩)) λt3 w3 x3 a4=>IN ⟨d,e,o,v,λ_=>hb.at0 (r:=[]) (x2.Z x3) rfl,?_⟩;have a0:=(x1.Z x2).Z x3;have e1:(BH m.ss m.uw m.uq&&t3)=(BH m.ss m.uw m.uq&&BH m.sd [] []):=by
  cases h:BH m.ss m.uw m.uq
  .rfl
  .rw[a4 h]
 rw[e1];have hl:(BH m.ss m.uw m.uq&&BH m.sd [] [])=true->Dm m=true:=λh=>by rw[VN,Rj]at h;simp only[dz]at h;unfold Dm;simp[h]
 refine IS.intro (B (CZ m)) (λhg q hq=>Jc.V (VB (ht.U a0) (hl hg) (hd.U a0) (he.U a0) (ho.U a0) (hv.U a0) λw' hx=>⟨_,rfl,hq _ hx⟩)) λt4 w4 x4 a5=>?_;have e2:((BH m.ss m.uw m.uq&&BH m.sd [] [])&&decide ((t4.size:Int)<=4096))=AF m:=by
  rw[Zft];cases h:(BH m.ss m.uw m.uq&&BH m.sd [] [])
  .rfl
  .rw[a5 h,Ac,ic,ic,js];omega
 rw[e2];exact hR _ (a0.Z x4)
def Ī(q:si):Nat->Lb->St->ı->Prop
 |0,l,s,r=>q.step l s=r/\∀l1 s1,r≠ .V l1 s1
 |n+1,l,s,r=>∃l1 s1,q.step l s= .V l1 s1/\Ī q n l1 s1 r
def End.steps{q:si}{l:Lb}{s:St}{r:ı}(h:q.End l s r):∃n,Ī q n l s r:=by
 induction h with
 |done h=>exact⟨0,h,(λ_ _ h=>by cases h)⟩
 |err h=>exact⟨0,h,(λ_ _ h=>by cases h)⟩
 |step h _ ih=>obtain⟨n,hn⟩:=ih;exact⟨n+1,_,_,h,hn⟩
def Ī.V{q:si}{l l1:Lb}{s s1:St}{r:ı}(h:Ī q n l s r)(hs:q.step l s= .V l1 s1):∃m,m<n/\Ī q m l1 s1 r:=by
 cases n with
 |zero=>obtain⟨h1,h2⟩:=h;rw[hs]at h1;exact fm h1.H (h2 _ _)
 |succ n=>obtain⟨l2,s2,h1,h2⟩:=h;rw[hs]at h1;cases h1;exact⟨n,nk n,h2⟩
def Ī.fin{q:si}{l:Lb}{s:St}{r r':ı}(h:Ī q n l s r)(hs:q.step l s=r')(hr:∀l1 s1,r'≠ .V l1 s1):r=r':=by
 cases n with
 |zero=>rw[<-hs];exact h.1.H
 |succ n=>obtain⟨l2,s2,h1,_⟩:=h;rw[hs]at h1;exact fm h1 (hr _ _)
def Ņ.zj{α β:Type}{first:(Nat->α->β->Wp)->Prop}{pass:Nat->α->β->PU->(Nat->α->β->Wp)->Prop}(J:Nat->Nat->α->β->Wp)(h0:first λl a b w=>∃n,J n l a b w)
  (hs:∀n l a b w a0,J n l a b w->(∀m l' a' b' w',m<n->J m l' a' b' w'->a0 l' a' b' w')->pass l a b w a0):Ņ first pass:=
 ⟨λl a b w=>∃n,J n l a b w,λl a b w=>Ho λn=>J n l a b w,h0,λl a b w ⟨n,h⟩=>hs _ l a b w _ (Gj (p:=λn=>J n l a b w) h).1 λm l' a' b' w' hm hJ=>⟨⟨m,hJ⟩,nn ((Gj (p:=λn=>J n l' a' b' w') hJ).2 m hJ) hm⟩⟩
def QY:Lb->Nat
 | .next=>1
 | .à=>0
 | .back=>2
def AQ(L:Ι)(m:vz)(uw:Bool)(rv:Η)(D N:Int):ı:=
 if AF m=true/\1<=D/\D<=4096/\1<=N/\N<=128 then si.res ⟨L,m,uw,rv,D.toNat,N.toNat⟩else .err 1
def yp.Xcp{g:Nat}{stk nds ahd ws stk':Sl}{s:St}{l1:Ο}(h:yp w lo g stk nds ahd ws Q s)(e1:stk'.a=stk.a)(h1:OF Ş 130 w lo Q stk' l1):yp w lo g stk' nds ahd ws Q {s with stack:=l1}:=
 ⟨h1,h.uk,h.AS,h.ue,h.q,λa b ha hb=>h.a1 a b (e1▸ha) hb,λa b ha hb=>h.a2 a b (e1▸ha) hb,h.a3,λa ha=>h.o1 a (e1▸ha),h.o2,h.o3⟩
structure Xaw(w0:PU)(q:si)(a1 a3:LP)(D N d3 d4:Int)(lo:Nat)(K:K7)(w:PU):Prop where
 wl:w0.heap.size<=lo
 U:AI w0 w
 cs:Cs w lo q K
 b1:AT w a1 [vi D,vi N,vi d3,vi d4]
 l1:a1.block<lo
 b3:AT w a3 [Sl.nil.v]
 l3:a3.block<lo
 n3:w0.heap.size<=a3.block
def Xaw.below{q:si}{a1 a3:LP}{N:Int}{K:K7}(h:Xaw w0 q a1 a3 D N d3 d4 lo K w)(hb:Below lo w w'):Xaw w0 q a1 a3 D N d3 d4 lo K w':=
 ⟨h.wl,h.U.W (Below.O hb h.wl),h.cs.below hb,h.b1.below hb h.l1,h.l1,h.b3.below hb h.l3,h.l3,h.n3⟩
def Tg(w0:PU)(q:si)(a1 a3:LP)(D N d3 d4:Int)(n l:Nat)(vs:Qd)(d:Int)(w:PU):Prop:=
 ∃lo sp K lb s,l=QY lb/\vs=some sp/\d=(s.dec:Int)/\Xaw w0 q a1 a3 D N d3 d4 lo K w/\CV w lo sp K s/\Î q lb s/\Ī q n lb s q.res
def Zjy{L:Ι}{uw:Bool}{rv:Η}{SA:Nat->Prop}{cp:LP}{rr:Nat}{mD yj yn ã pS:Sl}{N:Int}{R:Sl->Int->È}(ht:Þ w0)(m5:Old SA w0)
  (i9:zk w0 S cp rr L) (hS:Old S w0) (s8:rr<w0.heap.size) (s3:cp.block<w0.heap.size) (hd:No ru w0 SA mD m.ss) (he:No ru w0 SA yj m.uw) (ho:No ru w0 SA yn m.uq) (hv:No ru w0 SA ã m.sd) (hp:No vb w0 SA pS rv)
  (g0:∀e w',AQ L m uw rv D N= .err e->AI w0 w'->R Sl.nil 0 e w')
  (f9:∀ns t nds w',AQ L m uw rv D N= .done ns t->AI w0 w'->No uh w' (λb=>w0.heap.size<=b/\b<w'.heap.size) nds ns->R nds (t:Int) 0 w'):
  Jn (some cp) mD yj yn ã uw pS D N d3 d4 w0 R:=by
 unfold Jn;have s5:=Ao;have a7:zf L:=i9.Ģ;refine An.intro λa wa xa ha s2 _=>An.intro λa1 wb xb e9 r4 _=>An.intro λa3 wc xc j7 r2 _=>?_;have e6:=xa.Z (xb.Z xc);have o7:=xb.Z xc;have f1:=xa.size;have t0:=xb.size;have t3:=xc.size;have s4:=j7.lt;have d5:∀n r p,(DI L n r p).length<=1000:=λn r p=>fj (TM a7 n r p) oM;generalize hq:(⟨L,m,uw,rv,D.toNat,N.toNat⟩:si)=q;have o0:q.L=L:=by rw[<-hq]
 have s7:q.N=N.toNat:=by rw[<-hq]
 have s6:q.D=D.toNat:=by rw[<-hq]
 rw[<-o0]at a7 d5;refine Ņ.zj (λn l vs d w=>(AF m=true/\1<=D/\D<=4096/\1<=N/\N<=128)/\Tg w0 q a1 a3 D N d3 d4 n l vs d w) ?first ?pass
 case first=>
  refine IN ⟨mD,yj,yn,ã,λ_=>ha.at0 (r:=[]) o7 rfl,?_⟩;refine IS.intro (AF m) (λ_ q' p9=>Gm.V (OD (ht.U e6) (m5.U e6.size) (hd.U e6) (he.U e6) (ho.U e6) (hv.U e6) λw' hx=>⟨_,rfl,p9 _ hx⟩)) λt1 wd xd q5=>?_;have l9:=e6.Z xd;have h9:=xc.Z xd;have t4:=l9.size;have r7:=xd.size;have o4:=q5 rfl;subst o4;refine IN ⟨D,λ_=>e9.at0 h9 rfl,IN ⟨D,λ_=>e9.at0 h9 rfl,IN ⟨N,λ_=>e9.at1 (k:=1) h9 rfl,IN ⟨N,λ_=>e9.at1 (k:=1) h9 rfl,λi6=>?_,λg1=>?_⟩⟩⟩⟩
  .have p7: ¬(AF m=true/\1<=D/\D<=4096/\1<=N/\N<=128):=λ⟨h1,h2,h3,h4,h5⟩=>(by rw[h1]at i6;simp at i6;omega);refine tk.intro (j7.U xd) sI λwe be _ d8=>⟨Sl.nil,d8.at0 (r:=[]) xR rfl,g0 1 we ?_ (be.U l9 oM)⟩;unfold AQ;rw[fa p7]
  .have f0:AF m=true/\1<=D/\D<=4096/\1<=N/\N<=128:=(by simp at g1;obtain⟨⟨⟨⟨h1,h2⟩,h3⟩,h4⟩,h5⟩:=g1;exact⟨h1,oM,oM,oM,oM⟩);have e2:AQ L m uw rv D N=q.res:=(by unfold AQ;rw[fl f0,hq]);refine⟨mD,yj,yn,ã,ha.at0 (r:=[]) (o7.Z xd) rfl,?_⟩;refine An.uy (E:=uh) (x:=ui) ⟨by show(0:Nat)<=maxLen;omega,Sl.nil,Sl.nil,rfl,No.nil trivial,No.nil trivial⟩ λm1 wf xf j2 r9=>An.intro λsp w xg a6 r8 _=>?_;have t5:=xf.size;have t6:=xg.size;have m0:=xf.Z xg;have e7:=l9.Z m0;generalize r6:wd.heap.size=lo at*;have o6:lo<=w.heap.size:=oM;have hm:q.m=m:=(by rw[<-hq]);have m8:q.uw=uw:=(by rw[<-hq]);have k5:q.rv=rv:=(by rw[<-hq]);have g9:∀b,SA b->b<lo:=λb hb=>(by have:=m5 b hb;omega);have a5:Cs w lo q ⟨cp,mD,yj,yn,ã,uw,pS⟩:=⟨⟨S,rr,by rw[o0];exact i9.U e7,λb hb=>by have:=hS b hb;omega,oM,by show cp.block<lo;omega⟩,by rw[hm];exact(hd.U e7).O g9,by rw[hm];exact(he.U e7).O g9,by rw[hm];exact(ho.U e7).O g9,by rw[hm];exact(hv.U e7).O g9,by rw[k5];exact(hp.U e7).O g9,m8.H,o6,by rw[hm];exact Zfv f0.1⟩;generalize hK:(⟨cp,mD,yj,yn,ã,uw,pS⟩:K7)=K at a5;have m4:Xaw w0 q a1 a3 D N d3 d4 lo K w:=⟨oM,e7,a5,e9.U (h9.Z m0),by have:=e9.lt;omega,(j7.U xd).U m0,oM,oM⟩;have c3:lo<=sp.block:=oM;have j0:∀{α:Type} {E:xn α} {T:LN},OF E T w lo se Sl.nil ([]:List α):=λ{α E T}=>OF.nil _ _;have i3:yp w lo sp.block Sl.nil ⟨some m1,1,1⟩ Sl.nil Sl.nil se ⟨[],[ui],[],[],0,0⟩:=⟨j0,j2.U xg,j0,No.nil trivial,λ_ h=>h.F,(λ_ _ h=>by cases h),(λ_ _ h=>by cases h),(λ_ _ _ h=>by cases h),(λ_ h=>by cases h),λad d0 e=>(by simp only[eu]at d0;subst d0;have:=(j2.block rfl).2.1;omega),(λ_ h=>by cases h)⟩;have i7:AT w sp (CS K Sl.nil ⟨some m1,1,1⟩ Sl.nil Sl.nil 0):=(by rwa [<-hK]);refine H4.V (Qa (s:=⟨[],[ui],[],[],0,0⟩) a5 ⟨_,_,_,_,_,i7,c3,i3⟩ (by show 0<1;omega) λwh m3 g8=>⟨rfl,?_⟩);have b5:=m4.below m3;clear a6 i7 i3 a5 m4;obtain⟨n,a8⟩:=End.steps (Zjw (q:=q) oM);have hI:Î q .next q.start:=Î.start oM;have hI:ý q 0 q.start:=hI;have g8:CV wh lo sp K q.start:=g8;obtain⟨stk,nds,ahd,ws,Q,a6,e8,h0⟩:=g8;have a5:=b5.cs;have k7:=h0.stack.len;have q7:=h0.ue.len;have j1:q.start.stack.length<=4096:=ib _;have hg:=IX a6;have i4:=hI.f;have l7:Aa ((stk.len:Int) - (q.start.first:Int))=((q.start.stack.length - q.start.first:Nat):Int):=(by rw[Ai oM oM];omega);have hN:q.N<=128:=oM;have hD:q.D<=4096:=oM;have g4:∀w',Below lo wh w'->sh w' (a1.add 1) [vi (q.N:Int)]:=λw' hb=>(by have e:(q.N:Int)=N:=oM;rw[e];exact(b5.below hb).b1.at1 (k:=1) xR rfl);have d7:∀(e:Int) w',Below lo wh w'->q.res= .err e->ry w' a3 [Sl.nil.v] λvw=>∃r:Sl,sh vw a3 [r.v]/\R r 0 e vw:=λe w' hb hr=>(by have h:=b5.below hb;exact tk.intro h.b3 sI λwe be _ d8=>⟨Sl.nil,d8.at0 (r:=[]) xR rfl,g0 e we (e2.Z hr) (be.U h.U h.n3)⟩);have e4:∀ns t nds w' (Q2:Nat->Prop),Below lo wh w'->OF uh 56 w' lo Q2 nds ns->(∀b,Q2 b->lo<=b)->ns.length<=128->q.res= .done ns t->ry w' a3 [Sl.v nds] λvw=>∃r:Sl,sh vw a3 [r.v]/\R r (t:Int) 0 vw:=λns t nds w' Q2 hb ho hQ hl hr=>by
    have h:=b5.below hb;have k6:=ho.A (by show ns.length*88<=Ab;unfold Ab;omega) oM;have h3:=h.l3;have n2:=h.wl;refine tk.intro h.b3 sI λwe be _ d8=>⟨nds,d8.at0 (r:=[]) xR rfl,f9 ns t nds we (e2.Z hr) (be.U h.U h.n3) ?_⟩;have q4:=be.1;have g2:∀b,(Q2 b\/∃ad,nds.a=some ad/\b=ad.block)->lo<=b/\b<w'.heap.size:=λb hb=>by
     rcases hb with hb|⟨ad,d0,rfl⟩
     .exact⟨hQ b hb,ho.lt b hb⟩
     .exact⟨(ho.block d0).1,(ho.block d0).2.1⟩
    exact(k6.tz be λh=>by have:=g2 _ h;omega).O λb hb=>by have:=g2 b hb;omega
   have NX:∀(lb:Lb) (s':St) w' m',m'<n->Below lo wh w'->CV w' lo sp K s'->Î q lb s'->Ī q m' lb s' q.res->∃n,(AF m=true/\1<=D/\D<=4096/\1<=N/\N<=128)/\Tg w0 q a1 a3 D N d3 d4 n (QY lb) (some sp) (s'.dec:Int) w':=λlb s' w' m' hm hb f1 hi hE=>⟨m',f0,lo,sp,K,lb,s',rfl,rfl,rfl,b5.below hb,f1,hi,hE⟩;refine sf.drew λw1 x1=>⟨stk,AT.at1 a6 (k:=7) x1 rfl,(q.start.first:Int),AT.at1 a6 (k:=11) x1 rfl,ws,AT.at1 a6 (k:=10) x1 rfl,?_⟩;rw[l7];have r1:=x1.size;refine⟨λn4=>?_,λn0=>?_⟩
   .have c9:q.start.stack.length - q.start.first<q.start.ws.length:=oM;obtain⟨j3,tw,l5,_,h6,l0,l6⟩:=Yc (h0.ue) c9;have a0:q.step .next q.start= .V .à {q.start with stack:=q.start.stack++[q.ch q.start.AS.length (ug q.start.ns q.start.AS.length) q.start.ws[q.start.stack.length - q.start.first]]}:=(by rw[si.step,dt c9]);generalize q8:q.start.ws[q.start.stack.length - q.start.first]=wt at*;have b2:=Î.step (l:=.next) (l':=.à) a7 d5 hI a0;refine sf.drew λw2 x2=>⟨stk,AT.at1 a6 (k:=7) (x1.Z x2) rfl,ws,AT.at1 a6 (k:=10) (x1.Z x2) rfl,j3,⟨l5,oM,oM⟩,_,_,tw,by rw[dx];exact l6 _ (x1.Z x2),?_⟩;have b0:=x1.Z x2;have e3:=a5.below (b0.ut lo a5.le);have q0:=b0.size;refine tf.intro (Jq.V (TU (s:=q.start) (wt:=wt) (rs:=tw) e3 ⟨stk,nds,ahd,ws,Q,a6.U b0,c3,h0.U b0⟩ hI.a h6 (SR:=Q) (λb hb=>by have:=h0.uk.lt b hb;omega) (l0.U b0) λv w3 x3 hv=>⟨x3,_,_,v,_,_,rfl,An.intro λa4 w4 x4 j8 m6 _=>?_⟩));have i2:=x3.Z x4;have d9:=b0.Z i2;have q1:=x3.size;have q2:=x4.size;have h4:=(h0.U b0).grow i2 e3.le oM;refine yp.Xbd (x:=q.ch q.start.AS.length (ug q.start.ns q.start.AS.length) wt) h4 Ty (by have:=e3.le;omega) oM ⟨h6,v,rfl,(hv.U x4).O λb hb=>.inr ⟨oM,oM⟩⟩ j8.sh oM λr' w5 h5 c6 k3=>?_;have j9:AT w5 sp (CS K stk nds ahd ws q.start.first):=(a6.U d9).yo k3 λad d0 e=>h0.o1 ad d0 e.H;have q3:=c6.size;refine ry.intro (o:=7) j9 (by show 8<=12;omega) λw6 b6 _ k0=>?_;have f5:Below lo wh w6:=Below.Z (Below.Z (d9.ut lo a5.le) c6) (b6.below (by have:=a5.le;omega) c3);obtain⟨m',c7,b8⟩:=a8.V a0;exact NX .à {q.start with stack:=q.start.stack++[q.ch q.start.AS.length (ug q.start.ns q.start.AS.length) wt]} w6 m' c7 f5 ⟨r',nds,ahd,ws,_,k0,c3,h5.tz b6⟩ b2 b8
   .have b4:q.start.ws[q.start.stack.length - q.start.first]?=none:=iw oM;refine⟨(q.N:Int),g4 _ (x1.ut lo a5.le),?_⟩;have j4:=a5.below (x1.ut lo a5.le);refine Jp.V (TD (s:=q.start) j4 ⟨stk,nds,ahd,ws,Q,a6.U x1,c3,h0.U x1⟩ hI hN hD (λw2 hb x2=>⟨_,rfl,λ_=>?_,λh=>fm rfl h⟩) (λw2 hb c5=>⟨_,rfl,λh=>by omega,λ_=>⟨λ_=>?_,λh=>fm rfl h⟩⟩) λw2 c4 hb c5 g5=>⟨_,rfl,λh=>by omega,λ_=>⟨λh=>by omega,λ_=>sf.drew λw3 x3=>?_⟩⟩)
    .have a0:q.step .next q.start= .V .back (q.start):=(by rw[si.step,b4];dsimp only;rw[hb]);obtain⟨m',c7,b8⟩:=a8.V a0;have b0:=x1.Z x2;exact NX .back q.start w2 m' c7 (b0.ut lo a5.le) ⟨stk,nds,ahd,ws,Q,a6.U b0,c3,h0.U b0⟩ (Î.step (l:=.next) (l':=.back) a7 d5 hI a0) b8
    .have a0:q.step .next q.start= .err 32:=(by rw[si.step,b4];dsimp only;rw[hb]);exact d7 32 w2 (Below.Z (x1.ut lo a5.le) c5) (a8.fin a0 (λ_ _ h=>by cases h))
    .obtain⟨h8,b9,d1,l8,Q2,d6,e8,h2⟩:=g5;have d2:Below lo wh w3:=Below.Z (Below.Z (x1.ut lo a5.le) c5) (x3.ut lo (by have:=a5.le;have:=c5.size;omega));have f8:d1.len=((q.start.AS++[q.start.ns.length]).map Int.ofNat).length:=h2.AS.len;have n8:b9.len=c4.length:=h2.uk.len;rw[ec,du,gq]at f8;refine⟨d1,AT.at1 d6 (k:=9) x3 rfl,b9,AT.at1 d6 (k:=8) x3 rfl,λm9=>?_,λn7=>?_⟩
     .have a0:q.step .next q.start= .done c4 q.start.dec:=(by rw[si.step,b4];dsimp only;rw[hb];dsimp only;rw[fl oM]);have n9:=(NI hb hI.n).2;refine⟨b9,AT.at1 d6 (k:=8) x3 rfl,?_⟩;exact e4 c4 q.start.dec b9 w3 Q2 d2 (h2.uk.U x3) (λb hb=>(h2.q b hb).1) oM (a8.fin a0 (λ_ _ h=>by cases h))
     .have a0:q.step .next q.start= .V .next {q.start with ns:=c4,AS:=q.start.AS++[q.start.ns.length],ws:=q.ue c4 (q.start.AS.length+1),first:=q.start.stack.length}:=(by rw[si.step,b4];dsimp only;rw[hb];dsimp only;rw[fa oM]);obtain⟨m',c7,b8⟩:=a8.V a0;have b2:=Î.step (l:=.next) (l':=.next) a7 d5 hI a0;refine H4.V (Qa (a5.below d2) ⟨h8,b9,d1,l8,Q2,d6.U x3,e8,h2.U x3⟩ b2.a λw4 f3 g6=>⟨rfl,?_⟩);have e1:(q.start.AS++[q.start.ns.length]).length=q.start.AS.length+1:=(by rw[du,gq]);refine NX .next {q.start with ns:=c4,AS:=q.start.AS++[q.start.ns.length],ws:=q.ue c4 (q.start.AS.length+1),first:=q.start.stack.length} w4 m' c7 (Below.Z d2 f3) ?_ b2 b8;rwa [<-e1]
 case pass=>
  intro n l vs d w q9 ⟨f0,lo,sp,K,lb,s,k1,k9,p4,b5,f1,hI,a8⟩ hn;subst k9 p4;have e2:AQ L m uw rv D N=q.res:=by unfold AQ;rw[fl f0,hq]
  obtain⟨stk,nds,ahd,ws,Q,a6,c3,h0⟩:=f1;have a5:=b5.cs;have k7:=h0.stack.len;have q7:=h0.ue.len;have hg:=IX a6;have hN:q.N<=128:=oM;have hD:q.D<=4096:=oM;have g4:∀w',Below lo w w'->sh w' (a1.add 1) [vi (q.N:Int)]:=λw' hb=>by have e:(q.N:Int)=N:=oM;rw[e];exact(b5.below hb).b1.at1 (k:=1) xR rfl
  have d7:∀(e:Int) w',Below lo w w'->q.res= .err e->ry w' a3 [Sl.nil.v] λvw=>∃r:Sl,sh vw a3 [r.v]/\R r 0 e vw:=λe w' hb hr=>by have h:=b5.below hb;exact tk.intro h.b3 sI λwe be _ d8=>⟨Sl.nil,d8.at0 (r:=[]) xR rfl,g0 e we (e2.Z hr) (be.U h.U h.n3)⟩
  have e4:∀ns t nds w' (Q2:Nat->Prop),Below lo w w'->OF uh 56 w' lo Q2 nds ns->(∀b,Q2 b->lo<=b)->ns.length<=128->q.res= .done ns t->ry w' a3 [Sl.v nds] λvw=>∃r:Sl,sh vw a3 [r.v]/\R r (t:Int) 0 vw:=λns t nds w' Q2 hb ho hQ hl hr=>by
   have h:=b5.below hb;have k6:=ho.A (by show ns.length*88<=Ab;unfold Ab;omega) oM;have h3:=h.l3;have n2:=h.wl;refine tk.intro h.b3 sI λwe be _ d8=>⟨nds,d8.at0 (r:=[]) xR rfl,f9 ns t nds we (e2.Z hr) (be.U h.U h.n3) ?_⟩;have q4:=be.1;have g2:∀b,(Q2 b\/∃ad,nds.a=some ad/\b=ad.block)->lo<=b/\b<w'.heap.size:=λb hb=>by
    rcases hb with hb|⟨ad,d0,rfl⟩
    .exact⟨hQ b hb,ho.lt b hb⟩
    .exact⟨(ho.block d0).1,(ho.block d0).2.1⟩
   exact(k6.tz be λh=>by have:=g2 _ h;omega).O λb hb=>by have:=g2 b hb;omega
  have NX:∀(lb:Lb) (s':St) w' m',m'<n->Below lo w w'->CV w' lo sp K s'->Î q lb s'->Ī q m' lb s' q.res->q9 (QY lb) (some sp) (s'.dec:Int) w':=λlb s' w' m' hm hb f1 hi hE=>hn m' _ _ _ _ hm ⟨f0,lo,sp,K,lb,s',rfl,rfl,rfl,b5.below hb,f1,hi,hE⟩;cases lb with
  |next=>
   have hI:ý q 0 s:=hI;have j1:s.stack.length<=4096:=(by have:=hI.k;have:=hI.d;omega);have i4:=hI.f;have l7:Aa ((stk.len:Int) - (s.first:Int))=((s.stack.length - s.first:Nat):Int):=(by rw[Ai oM oM];omega);subst k1;refine⟨λ_=>?_,λh=>fm h dC,λh=>fm h dC⟩;refine sf.drew λw1 x1=>⟨sp,rfl,stk,AT.at1 a6 (k:=7) x1 rfl,sp,rfl,(s.first:Int),AT.at1 a6 (k:=11) x1 rfl,sp,rfl,ws,AT.at1 a6 (k:=10) x1 rfl,?_⟩;rw[l7];have r1:=x1.size;refine⟨λn4=>?_,λn0=>?_⟩
   .have c9:s.stack.length - s.first<s.ws.length:=oM;obtain⟨j3,tw,l5,_,h6,l0,l6⟩:=Yc (h0.ue) c9;have a0:q.step .next s= .V .à {s with stack:=s.stack++[q.ch s.AS.length (ug s.ns s.AS.length) s.ws[s.stack.length - s.first]]}:=(by rw[si.step,dt c9]);generalize q8:s.ws[s.stack.length - s.first]=wt at*;have b2:=Î.step (l:=.next) (l':=.à) a7 d5 hI a0;refine sf.drew λw2 x2=>⟨sp,rfl,stk,AT.at1 a6 (k:=7) (x1.Z x2) rfl,sp,rfl,ws,AT.at1 a6 (k:=10) (x1.Z x2) rfl,j3,⟨l5,oM,oM⟩,_,_,tw,by rw[dx];exact l6 _ (x1.Z x2),?_⟩;have b0:=x1.Z x2;have e3:=a5.below (b0.ut lo a5.le);have q0:=b0.size;refine tf.intro (Jq.V (TU (s:=s) (wt:=wt) (rs:=tw) e3 ⟨stk,nds,ahd,ws,Q,a6.U b0,c3,h0.U b0⟩ hI.a h6 (SR:=Q) (λb hb=>by have:=h0.uk.lt b hb;omega) (l0.U b0) λv w3 x3 hv=>⟨x3,_,_,v,_,_,rfl,An.intro λa4 w4 x4 j8 m6 _=>?_⟩));have i2:=x3.Z x4;have d9:=b0.Z i2;have q1:=x3.size;have q2:=x4.size;have h4:=(h0.U b0).grow i2 e3.le oM;refine yp.Xbd (x:=q.ch s.AS.length (ug s.ns s.AS.length) wt) h4 Ty (by have:=e3.le;omega) oM ⟨h6,v,rfl,(hv.U x4).O λb hb=>.inr ⟨oM,oM⟩⟩ j8.sh oM λr' w5 h5 c6 k3=>?_;have j9:AT w5 sp (CS K stk nds ahd ws s.first):=(a6.U d9).yo k3 λad d0 e=>h0.o1 ad d0 e.H;have q3:=c6.size;refine⟨sp,rfl,?_⟩;refine ry.intro (o:=7) j9 (by show 8<=12;omega) λw6 b6 _ k0=>?_;have f5:Below lo w w6:=Below.Z (Below.Z (d9.ut lo a5.le) c6) (b6.below (by have:=a5.le;omega) c3);obtain⟨m',c7,b8⟩:=a8.V a0;exact NX .à {s with stack:=s.stack++[q.ch s.AS.length (ug s.ns s.AS.length) wt]} w6 m' c7 f5 ⟨r',nds,ahd,ws,_,k0,c3,h5.tz b6⟩ b2 b8
   .have b4:s.ws[s.stack.length - s.first]?=none:=iw oM;refine⟨(q.N:Int),g4 _ (x1.ut lo a5.le),?_⟩;have j4:=a5.below (x1.ut lo a5.le);refine Jp.V (TD (s:=s) j4 ⟨stk,nds,ahd,ws,Q,a6.U x1,c3,h0.U x1⟩ hI hN hD (λw2 hb x2=>⟨_,rfl,λ_=>?_,λh=>fm rfl h⟩) (λw2 hb c5=>⟨_,rfl,λh=>by omega,λ_=>⟨λ_=>?_,λh=>fm rfl h⟩⟩) λw2 c4 hb c5 g5=>⟨_,rfl,λh=>by omega,λ_=>⟨λh=>by omega,λ_=>sf.drew λw3 x3=>?_⟩⟩)
    .have a0:q.step .next s= .V .back (s):=(by rw[si.step,b4];dsimp only;rw[hb]);obtain⟨m',c7,b8⟩:=a8.V a0;have b0:=x1.Z x2;exact NX .back s w2 m' c7 (b0.ut lo a5.le) ⟨stk,nds,ahd,ws,Q,a6.U b0,c3,h0.U b0⟩ (Î.step (l:=.next) (l':=.back) a7 d5 hI a0) b8
    .have a0:q.step .next s= .err 32:=(by rw[si.step,b4];dsimp only;rw[hb]);exact d7 32 w2 (Below.Z (x1.ut lo a5.le) c5) (a8.fin a0 (λ_ _ h=>by cases h))
    .obtain⟨h8,b9,d1,l8,Q2,d6,e8,h2⟩:=g5;have d2:Below lo w w3:=Below.Z (Below.Z (x1.ut lo a5.le) c5) (x3.ut lo (by have:=a5.le;have:=c5.size;omega));have f8:d1.len=((s.AS++[s.ns.length]).map Int.ofNat).length:=h2.AS.len;have n8:b9.len=c4.length:=h2.uk.len;rw[ec,du,gq]at f8;refine⟨sp,rfl,d1,AT.at1 d6 (k:=9) x3 rfl,sp,rfl,b9,AT.at1 d6 (k:=8) x3 rfl,λm9=>?_,λn7=>?_⟩
     .have a0:q.step .next s= .done c4 s.dec:=(by rw[si.step,b4];dsimp only;rw[hb];dsimp only;rw[fl oM]);have n9:=(NI hb hI.n).2;refine⟨sp,rfl,b9,AT.at1 d6 (k:=8) x3 rfl,?_⟩;exact e4 c4 s.dec b9 w3 Q2 d2 (h2.uk.U x3) (λb hb=>(h2.q b hb).1) oM (a8.fin a0 (λ_ _ h=>by cases h))
     .have a0:q.step .next s= .V .next {s with ns:=c4,AS:=s.AS++[s.ns.length],ws:=q.ue c4 (s.AS.length+1),first:=s.stack.length}:=(by rw[si.step,b4];dsimp only;rw[hb];dsimp only;rw[fa oM]);obtain⟨m',c7,b8⟩:=a8.V a0;have b2:=Î.step (l:=.next) (l':=.next) a7 d5 hI a0;refine H4.V (Qa (a5.below d2) ⟨h8,b9,d1,l8,Q2,d6.U x3,e8,h2.U x3⟩ b2.a λw4 f3 g6=>⟨rfl,?_⟩);have e1:(s.AS++[s.ns.length]).length=s.AS.length+1:=(by rw[du,gq]);refine NX .next {s with ns:=c4,AS:=s.AS++[s.ns.length],ws:=q.ue c4 (s.AS.length+1),first:=s.stack.length} w4 m' c7 (Below.Z d2 f3) ?_ b2 b8;rwa [<-e1]
  |à=>
   have hI:ý q 1 s:=hI;subst k1;refine⟨λh=>fm h dC,λ_=>?_,λh=>fm h dC⟩;have j1:s.stack.length<=4097:=(by have:=hI.k;have:=hI.d;omega);have i4:=hI.f;obtain⟨c,hl⟩:∃c,s.stack.getLast? =some c:=by
    cases h:s.stack.getLast? with
    |none=>rw[List.getLast?_eq_none_iff]at h;rw[h]at i4;simp at i4
    |some c=>exact⟨c,rfl⟩
   obtain⟨pre,e0⟩:∃pre,s.stack=pre++[c]:=pp.1 hl;have p8:s.stack.length=pre.length+1:=by rw[e0,du,gq]
   have hx:s.stack[pre.length]?=some c:=(by rw[e0];simp);obtain⟨ad,cs,p6,⟨s0,v,rfl,q6⟩,p0⟩:=h0.stack.el hx;have f2:Aa ((stk.len:Int) - 1)=(pre.length:Int):=(by rw[k7,p8,Ai oM oM];omega);have k9:c.vs.length<=1000:=hI.v c.vs (ja (by rw[e0];simp));have r5:=(h0.stack.A (by show s.stack.length*64<=Ab;unfold Ab;omega) oM).2.1;refine sf.drew λw1 x1=>⟨sp,rfl,stk,AT.at1 a6 (k:=7) x1 rfl,sp,rfl,stk,AT.at1 a6 (k:=7) x1 rfl,ad,⟨p6,by rw[f2];omega,by rw[f2];omega⟩,_,_,v,_,_,by rw[f2,dx];exact p0 _ x1,An.intro λa4 w2 x2 d6 r3 _=>tk.intro d6 sI λw3 b3 _ m7=>sf.drew λw4 x4=>⟨(c.i:Int),m7.at1 (k:=4) x4 rfl,_,_,v,_,_,m7.at0 (r:=[]) x4 rfl,?_⟩⟩;have r0:AI w1 w3:=b3.U x2 oM;have d9:=x1.Z (r0.Z x4);refine tf.intro (Mw.V (Z8 (c:=c) (q6.U d9) k9 λw5 x5=>⟨x5,_,rfl,λn4=>?_,λn0=>?_⟩))
   .have c9:c.i<c.many:=oM;have c8:=d9.Z x5;have c6:=c8.ut lo a5.le;refine⟨D,(b5.below c6).b1.at0 xR rfl,λm9=>?_,λn7=>?_⟩
    .have a0:q.step .à s= .err 31:=(by rw[si.step,hl];dsimp only;rw[fl c9,fl oM]);exact d7 31 w5 c6 (a8.fin a0 (λ_ _ h=>by cases h))
    .have a0:q.step .à s= .V .next {s with dec:=s.dec+1}:=(by rw[si.step,hl];dsimp only;rw[fl c9,fa oM]);obtain⟨m',c7,b8⟩:=a8.V a0;have e1:Aa ((s.dec:Int)+1)=((s.dec+1:Nat):Int):=(by have:=hI.d;rw[Ai oM oM];omega);rw[e1];exact NX .next {s with dec:=s.dec+1} w5 m' c7 c6 ⟨stk,nds,ahd,ws,Q,a6.U c8,c3,⟨(h0.U c8).1,(h0.U c8).2,(h0.U c8).3,(h0.U c8).4,(h0.U c8).5,(h0.U c8).6,(h0.U c8).7,(h0.U c8).8,(h0.U c8).9,(h0.U c8).10,(h0.U c8).11⟩⟩ (Î.step (l:=.à) (l':=.next) a7 d5 hI a0) b8
   .have n1: ¬c.i<c.many:=oM;have a0:q.step .à s= .V .back {s with stack:=s.stack.dropLast}:=(by rw[si.step,hl];dsimp only;rw[fa n1]);obtain⟨m',c7,b8⟩:=a8.V a0;have j6:ý q 0 {s with stack:=s.stack.dropLast}:=Î.step (l:=.à) (l':=.back) a7 d5 hI a0;have p5:s.stack.dropLast=pre:=(by rw[e0,nx]);rw[p5]at j6 b8 a0;refine sf.drew λw6 x6=>?_;have e5:=(d9.Z x5).Z x6;have s9:=e5.size;refine⟨sp,rfl,stk,AT.at1 a6 (k:=7) e5 rfl,sp,rfl,stk,AT.at1 a6 (k:=7) e5 rfl,⟨by rw[f2];omega,by rw[f2];omega⟩,sp,rfl,?_⟩;rw[f2,dx];refine ry.intro (o:=7) (a6.U e5) (by show 8<=12;omega) λw7 b7 _ o8=>?_;have k8:=OF.take (E:=Ş) ((h0.U e5).tz b7).stack (n:=pre.length) oM;have o5:s.stack.take pre.length=pre:=(by rw[e0];simp);rw[o5]at k8;have h7:yp w7 lo sp.block (Sl.cut stk 0 pre.length 5) nds ahd ws Q {s with stack:=pre}:=yp.Xcp ((h0.U e5).tz b7) Qr k8;have f6:Below lo w w7:=(e5.ut lo a5.le).Z (b7.below (by have:=a5.le;omega) c3);have i5:AT w7 sp (CS K (Sl.cut stk 0 pre.length 5) nds ahd ws s.first):=o8;have o9:(Sl.cut stk 0 pre.length 5).len=pre.length:=k8.len;refine⟨sp,rfl,Sl.cut stk 0 pre.length 5,AT.at1 i5 (k:=7) xR rfl,λi3=>?_,λk2=>?_⟩
    .have k4:pre=[]:=fo oM;have a9:q.step .back {s with stack:=pre}= .err 30:=(by subst k4;rfl);exact d7 30 w7 f6 (b8.fin a9 (λ_ _ h=>by cases h))
    .obtain⟨c2,g3⟩:∃c2,pre.getLast? =some c2:=by
      cases h:pre.getLast? with
      |none=>rw[List.getLast?_eq_none_iff]at h;exact fm (by rw[o9,h];rfl) k2
      |some c=>exact⟨c,rfl⟩
     have a9:q.step .back {s with stack:=pre}= .V .à (FZ q {s with stack:=pre} c2.py):=(by rw[Na];show(match pre.getLast? with|none=>_|some c=>_)=_;rw[g3]);obtain⟨m2,n5,j5⟩:=b8.V a9;refine Jo.V (TC (s:={s with stack:=pre}) (c:=c2) (a5.below f6) ⟨_,nds,ahd,ws,Q,i5,c3,h7⟩ j6 g3 hN hD λw8 f7 g7=>⟨rfl,?_⟩);exact NX .à (FZ q {s with stack:=pre} c2.py) w8 m2 oM (f6.Z f7) g7 (Î.step (l:=.back) (l':=.à) a7 d5 j6 a9) j5
  |back=>
   have hI:ý q 0 s:=hI;subst k1;refine⟨λh=>fm h dC,λh=>fm h dC,λ_=>?_⟩;refine⟨sp,rfl,stk,AT.at1 a6 (k:=7) xR rfl,λi3=>?_,λk2=>?_⟩
   .have k4:s.stack=[]:=fo oM;have a9:q.step .back s= .err 30:=(by rw[Na,k4];rfl);exact d7 30 w (Below.refl _ _) (a8.fin a9 (λ_ _ h=>by cases h))
   .obtain⟨c2,g3⟩:∃c2,s.stack.getLast? =some c2:=by
     cases h:s.stack.getLast? with
     |none=>rw[List.getLast?_eq_none_iff]at h;exact fm (by rw[k7,h];rfl) k2
     |some c=>exact⟨c,rfl⟩
    have a9:q.step .back s= .V .à (FZ q s c2.py):=(by rw[Na,g3]);obtain⟨m2,n5,j5⟩:=a8.V a9;refine Jo.V (TC (s:=s) (c:=c2) a5 ⟨stk,nds,ahd,ws,Q,a6,c3,h0⟩ hI g3 hN hD λw8 f7 g7=>⟨rfl,?_⟩);exact NX .à (FZ q s c2.py) w8 m2 n5 f7 g7 (Î.step (l:=.back) (l':=.à) a7 d5 hI a9) j5
def ı.ns:ı->Ζ
 | .done ns _=>ns
 |_=> []
def ı.dec:ı->Int
 | .done _ t=>(t:Int)
 |_=>0
def ı.code:ı->Int
 | .err e=>e
 |_=>0
def Zjr{L:Ι}{uw:Bool}{rv:Η}{SA:Nat->Prop}{cp:LP}{rr:Nat}{mD yj yn ã pS:Sl}{N:Int}{R:Sl->Int->È}(ht:Þ w0)(a4:Old SA w0)
  (a0:zk w0 S cp rr L) (hd:No ru w0 SA mD m.ss) (he:No ru w0 SA yj m.uw) (ho:No ru w0 SA yn m.uq) (hv:No ru w0 SA ã m.sd) (hp:No vb w0 SA pS rv)
  (hR:∀nds w',AI w0 w'->No uh w' (λb=>w0.heap.size<=b/\b<w'.heap.size) nds (AQ L m uw rv D N).ns->R nds (AQ L m uw rv D N).dec (AQ L m uw rv D N).code w'):
  Jn (some cp) mD yj yn ã uw pS D N d3 d4 w0 R:=by
 have hl:=a0.lt;refine Zjy ht a4 a0 hl.2.2.1 hl.1 hl.2.1 hd he ho hv hp (λe w' hr hx=>?_) λns t nds w' hr hx hs=>?_
 .have h:=hR Sl.nil w' hx;rw[hr]at h;exact h (No.nil trivial)
 .have h:=hR nds w' hx;rw[hr]at h;exact h hs
def BR{l:Ζ}(h:No uh w S s l)(hn:n<l.length):
  ∃ad c e,s.a=some ad/\Ad l[n].Y/\No vb w S c l[n].vd/\No xu w S e l[n].sq/\∀w',AI w w'->sh w' (ad.add (n*6)) [.string l[n].Y,.int .i64 l[n].v.ma,.int .i64 l[n].v.mi,.int .i64 l[n].v.pa,Sl.v c,Sl.v e]:=by
 obtain⟨ad,cs,h1,h2,⟨h0,c,e,rfl,h5,h6⟩,h4⟩:=h.el hn;exact⟨ad,c,e,h1,h0,h5,h6,h4⟩
def XI{α:Type}{a b:List α}(h1:i<a.length)(h2:i<b.length)(hI:a.take i=b.take i)(he:a[i]=b[i]):a.take (i+1)=b.take (i+1):=by rw[dw h1,dw h2,hI,he]
def An.set{zs:LV}{t:LN}{k:Ì}(hl:cs.length=zs.length)(h:∀a w',AI w w'->AT w' a cs->a.block=w.heap.size->k a w'):An w zs t λa w1=>ry w1 a cs λw2=>k a w2:=
 An.intro λa w1 x1 ha a4 a5=>tk.intro ha oM λw2 b2 hz a0=>h a w2 (b2.U x1 oM) (by rw[hl,lh,gv]at a0;exact a0) a4
def Of.Xa7{body:Int->PU->(È)->Prop}(hN:N<=maxLen)(I:Ê)(h0:I 1 w)
  (hs:∀(n:Nat) w' (a0:È),1<=n->(n<=N\/n=1)->I n w'->(n<N->∀a4,I (n+1) a4->a0 (Aa ((n:Int)+1)) a4)->body n w' a0):Of 1 w body:=
 Of.zj (λm i w'=>∃n:Nat,i=(n:Int)/\1<=n/\(n<=N\/n=1)/\m=N - n/\I n w') (N - 1) ⟨1,rfl,fx _,.inr rfl,rfl,h0⟩ λm i w' a0 ⟨n,hi,h1,h2,hm,hI⟩ hn=>by subst hi;refine hs n w' a0 h1 h2 hI λa6 a4 a5=>?_;refine hn (N - (n+1)) _ a4 oM ⟨n+1,?_,oM,.inl a6,rfl,a5⟩;rw[Ao]at hN;rw[Ai oM oM];omega
def Nx(h1:1<=i)(h2:i<N)(hN:N<=maxLen):Aa ((i:Int) - 1)=((i - 1:Nat):Int):=by rw[Ao]at hN;rw[Ai oM oM];omega
def Jt{α:Type}{f:α->Pr}{l:List α}(h1:1<=i)(hi:i<l.length)(hI:vq f (l.take i))(h:Ak (f l[i - 1]) (f l[i])=true):vq f (l.take (i+1)):=by
 have e:l.take i=l.take (i - 1)++[l[i - 1]]:=by have:=dw (l:=l) (i:=i - 1) oM;rwa [Nat.sub_add_cancel h1]at this
 rw[dw hi,e];rw[e]at hI;exact Zjb hI h
def Jr{α:Type}{f:α->Pr}{l:List α}(h1:1<=i)(hi:i<l.length)(h:Ak (f l[i - 1]) (f l[i])=false): ¬vq f l:=λhr=>by have:=gz.1 hr (i - 1) i oM hi oM;rw[h]at this;cases this
def Js{α:Type}{f:α->Pr}{l:List α}:vq f (l.take 1):=by
 cases l with
 |nil=>exact .nil
 |cons a r=>exact lq _ _
open Go.MapKept
def IQ(v:HT):Prop:=∃x:Int,v= .int .i64 x
end Go.Hal
/-
 DERIVED:THE SHELF's CONTRACTS AT THIS DUMP,IN PLAIN WORDS (tools/lay-plain.mjs sw of 'YtgolaibmophnjaaGreatDoorLay5.lean',which tools/lay-shelf.mjs wrote):THE SAME DECLARATIONS UNDER THE SAME NAMES:'import','namespace','open','def','theorem' AND NOTHING ELSE:no command of the shelf's:FOR A HAND-IN. Each laying:the table of numbers ('.._ren') and one theorem,a field a fact of the dump's uy or the kernel's comparison;each contract:ONE APPLICATION.
-/
namespace Go.Proofs
end Go.Proofs
namespace Go.Hal
open Go.Lib Go.Sort
def EM(x:Int):LV:=[vi x]
def QL(l:Α):(l.map EM).flatten=l.map (Value.int .i64):=by
 induction l with
 |nil=>rfl
 |cons a l ih=>rw[io,jm,ih];rfl
def OF.Xcf{α:Type}{E:xn α}{T:LN}{lo':Nat}{l:List α}(h:OF E T w lo S s l)(hl:lo'<=lo):OF E T w lo' S s l:=by obtain⟨css,ho,k1,k2⟩:=h.row;exact⟨⟨css,⟨ho.1,ho.2.imp id λ⟨g,cap,a0,hv,hg,r⟩=>⟨g,cap,a0,hv,fj hl hg,r⟩⟩,k1,k2⟩,h.len,h.lt,h.apart⟩
def AL(l:Wd):Α:=l.map λk:Nat=>(k:Int)
def BS(l:Wd):(AL l).length=l.length:=ec _
end Go.Hal
namespace Go.Hal
open Go.MapKept
def Zb8(n m:Pr)(v u:tj)(w:PU):(Op.equal 332 (vl n v) (vl m u)).run prog w= .ok (decide (n=m/\v=u)) w:=by
 have h:(Op.equalIn (9997+3) 332 (vl n v) (vl m u)).run prog w= .ok ((Ag n m)&&(((v.ma==u.ma)&&((v.mi==u.mi)&&((v.pa==u.pa)&&true)))&&true)) w:=
  (K6 kR kR (fs:= [⟨ "name",9,0,false, "", "halyard/graph",0⟩,⟨ "version",52,1,false, "", "halyard/graph",16⟩]) kR (Ec (x:=(Value.string n)) (y:=(Value.string m)) rfl kR kR (run_equalIn_string w _ 9 n m kR) (Ec (x:=(Value.agg #[vi v.ma,vi v.mi,vi v.pa])) (y:=(Value.agg #[vi u.ma,vi u.mi,vi u.pa])) rfl kR kR (K6 kR kR (fs:= [⟨ "Major",3,0,false, "", "",0⟩,⟨ "Minor",3,1,false, "", "",8⟩,⟨ "Patch",3,2,false, "", "",16⟩]) kR (Ec (x:=(vi v.ma)) (y:=(vi u.ma)) rfl kR kR (run_equalIn_int w _ 3 .i64 .i64 v.ma u.ma kR) (Ec (x:=(vi v.mi)) (y:=(vi u.mi)) rfl kR kR (run_equalIn_int w _ 3 .i64 .i64 v.mi u.mi kR) (Ec (x:=(vi v.pa)) (y:=(vi u.pa)) rfl kR kR (run_equalIn_int w _ 3 .i64 .i64 v.pa u.pa kR) K5)))) K5)))
 have e:((Ag n m)&&(((v.ma==u.ma)&&((v.mi==u.mi)&&((v.pa==u.pa)&&true)))&&true))=decide (n=m/\v=u):=by rw[FN,Bool.and_true,gp,dz,AG,fk,fk]
 rw[e]at h;exact h
def Ű(n:Pr)(v:tj)(w:PU):∀(l:List MapEntry)(i:Nat),(∀x∈l,F6 x.key)->((∀x∈l,x.key≠vl n v)/\(Instr.findAsking 332 (vl n v) l i).run prog w= .ok none w)\/
  ∃(j:Nat) (e:MapEntry),l[j]?=some e/\e.key=vl n v/\(Instr.findAsking 332 (vl n v) l i).run prog w= .ok (some (i+j,e.val)) w
 | [],i,_=> .inl ⟨by simp,by simp[Instr.findAsking]⟩
 |e::es,i,h=>by
  obtain⟨m,u,hk⟩:=h e (.head _);have hq:=Zb8 n m v u w;rw[<-hk]at hq;by_cases he:n=m/\v=u
  .refine .inr ⟨0,e,rfl,by rw[hk];exact Hm.2 ⟨he.1.H,he.2.H⟩,?_⟩;simp only[Instr.findAsking,Sem.run_bind,hq,Result.andThen,fy he];rfl
  .have a4:e.key≠vl n v:=λq=>(by rw[hk]at q;have:=Hm.1 q;exact he ⟨this.1.H,this.2.H⟩);have a0:(Instr.findAsking 332 (vl n v) (e::es) i).run prog w=(Instr.findAsking 332 (vl n v) es (i+1)).run prog w:=(by simp only[Instr.findAsking,Sem.run_bind,hq,Result.andThen,fq he];rfl);rcases Ű n v w es (i+1) (λx hx=>h x (.tail _ hx))with⟨h1,h2⟩|⟨j,e',h1,h2,h3⟩
   .exact .inl ⟨λx hx=>by
     cases hx with
     |head=>exact a4
     |tail _ hx=>exact h1 x hx,by rwa [a0]⟩
   .exact .inr ⟨j+1,e',by simpa using h1,h2,by rw[a0,h3,show i+1+j=i+(j+1) by omega]⟩
def ZA(n:Pr)(v:tj)(e:Bool)(w:PU):(Instr.checkKey e 10000 332 (vl n v)).run prog w= .ok () w:=by have hs:(Instr.checkKey e 9999 9 (.string n)).run prog w= .ok () w:=run_checkKey (d:=.string) (k:=.string n) underlying9 trivial e 9998;unfold vl;rw[Instr.checkKey];simp only[Sem.run_bind,run_underlying underlying332,Result.andThen];simp[Sem.run_bind,Result.andThen,part,run_underlying underlying9,run_underlying underlying52,hs,TT v e w]
def Vn:ļ prog 330 F6 (vi 0) where
 und:=⟨332,3,underlying330,Tryz.zeroValue3,λk ⟨n,v,h⟩ e w=>by subst h;exact ZA n v e w,λk ⟨n,v,h⟩ l hl w=>by
  subst h;have a0:∀l:List MapEntry,(Instr.findKey 332 (vl n v) l).run prog w=(Instr.findAsking 332 (vl n v) l 0).run prog w:=by
   intro l;cases l with
   |nil=>simp[Instr.findKey,Instr.findNow,Instr.findAsking,run_underlying underlying332,Sem.run_bind,Result.andThen]
   |cons e es=>simp[Instr.findKey,Instr.findNow,Instr.sameNow,run_underlying underlying332,Sem.run_bind,Result.andThen]
  rw[a0];rcases Ű n v w l 0 hl with h|⟨j,e,h1,h2,h3⟩
  .exact .inl h
  .exact .inr ⟨j,e,h1,h2,by rw[kj]at h3;exact h3⟩⟩
 stay:=λk ⟨n,v,h⟩=>by subst h;simp[vl,Instr.sameBits,Go.MapKept.bytes_beq]
end Go.Hal
namespace Go.Hal
def Zd9{l:Α}(h:No yu w S s l)(hn:n<l.length):∃ad,s.a=some ad/\∀w',AI w w'->sh w' (ad.add (n*1)) [.int .i64 l[n]]:=by obtain⟨ad,cs,h1,h2,⟨rfl,_⟩,h4⟩:=h.el hn;exact⟨ad,h1,h4⟩
def Zhb{a b:tn}{R:È}(hR:∀w',Gr w w'->R (GX a b) w'):KI a.Y a.v.ma a.v.mi a.v.pa b.Y b.v.ma b.v.mi b.v.pa w R:=by refine An.gr λ_ w1 x1 hb=>An.gr λ_ w2 x2 a4=>sf.gr λw3 x3=>?_;have a0:=x2.Z x3;refine⟨_,Gr.at0 hb a0 rfl,_,Gr.at0 a4 x3 rfl,_,_,_,Gr.at1 hb a0 rfl,_,_,_,Gr.at1 a4 x3 rfl,?_⟩;refine tf.intro (Fd ⟨AI.refl _,_,rfl,Fj.V (Yb (a:=a.v) (b:=b.v) λw4 x4=>⟨_,rfl,?_⟩)⟩);exact An.gr λ_ w5 x5 a5=>EB.V (TY (NN (l:=[_,_]) a5 sI) ⟨_,rfl,hR _ (x1.Z (a0.Z (x4.Z x5)))⟩)
def Zbw:Bm prog 266:=enters_of func266 kR rfl
def Zkp{l:Η}(h:tq AW 40 w lo s l)(a0:lo<=w.heap.size)
  (hK:∀l' w',l'.Perm l->l'.Pairwise (λx y=>¬GX y x<0)->Below lo w w'->tq AW 40 w' lo s l'->K (.tuple #[]) w'):
  sx prog 120 [s.v,.func (.func 266) #[] #[]] w K:=by
 obtain⟨h1,h2,h3,h4,h5⟩:=h;obtain⟨a,n,c⟩:=s;simp only at h1 h2 h3 h5;subst h1;rcases h5 with rfl|⟨g,tail,ha,hg,hr⟩
 .refine(AnyF.slices_SortFunc_none Tryz.Ķ a c _ w).O λe w' ⟨he,hw⟩=>⟨_,he,?_⟩;subst hw;exact hK [] _ (jr _) .nil (Below.refl _ _) ⟨rfl,h2,h3,h4,.inl rfl⟩
 .subst ha;refine FH Tryz.Ķ (k:=4) QT RT (f:=AW) (λ_=>rfl) (λx v hv=>by simp[AW]at hv;rcases hv with rfl|rfl|rfl|rfl<;>rfl) GX (Fe æ.flip æ.Z) 266 #[] Zbw (λw0 x y hb _=>?_) hr (by unfold Ab at h4;omega) rfl λl' w' hp hs b a4=>?_
  .have h:=KI.V (k:=λv w'=>v= .int .i64 (GX x y)/\Gr w0 w') (Zhb (a:=x) (b:=y) (w:=w0) λw' h=>⟨rfl,h⟩);exact Calls.O h λe w' ⟨v,he,hv,hg⟩=>⟨by rw[he,hv],hg⟩
  .have hl:=hp.length_eq;exact hK l' w' hp hs (b.below a0 hg) ⟨hl.H,by rwa [hl],h3,by rwa [hl],.inr ⟨g,tail,rfl,hg,a4⟩⟩
def QX(p:tn×Int):HT×HT:=(vl p.1.Y p.1.v,.int .i64 p.2)
structure PA(w0:PU)(r:Nat)(w':PU)(sw:Η)(so:Sl):Prop where
 x:AI w0 w'
 map:∃m:List (tn×Int),yc F6 w' r (m.map QX)/\m.map (·.1)=sw
 uy:OF vb 150 w' w0.heap.size se so sw
 ap:∀ad,so.a=some ad->ad.block≠r
 lr:w0.heap.size<=r
section
variable {w0 w w':PU} {r:Nat} {so:Sl} {sw:Η}
def PA.U(h:PA w0 r w sw so)(hx:AI w w'):PA w0 r w' sw so:=
 ⟨h.x.Z hx,by obtain⟨m,h1,h2⟩:=h.map;exact⟨m,h1.U hx,h2⟩,h.uy.U hx,h.ap,h.lr⟩
def PA.seen(h:PA w0 r w sw so)(p:tn):∃v:Int,(Instr.lookup 330 (.map (some r)) (vl p.Y p.v) true).run prog w= .ok (.tuple #[vi v,.bool (decide (p∈sw))]) w:=by
 obtain⟨m,h1,h2⟩:=h.map;rcases Ja Vn h1 (k:=vl p.Y p.v) ⟨_,_,rfl⟩with⟨hn,hr⟩|⟨v,a5,hr⟩
 .refine⟨0,?_⟩;rw[hr true,fq]
  .rfl
  .intro hm;rw[<-h2]at hm;obtain⟨q,hq,rfl⟩:=ij.1 hm;exact hn (QX q) (ja hq) rfl
 .obtain⟨q,hq,he⟩:=ij.1 a5;simp only[QX,Prod.mk.injEq]at he;obtain⟨a0,a4⟩:=he;obtain⟨e1,e2⟩:=Hm.1 a0;have a6:q.1=p:=by obtain⟨⟨a,b⟩,c⟩:=q;obtain⟨n,u⟩:=p;simp only at e1 e2;rw[e1,e2]
  refine⟨q.2,?_⟩;rw[hr true,fy,<-a4]
  .rfl
  .rw[<-h2];exact ij.2 ⟨q,hq,a6⟩
def PA.put(h:PA w0 r w sw so){p:tn}{i:Int}(hp:p∉sw)(hN:Ad p.Y)(hl:sw.length+1<=3000000000000){b:LP}{l:LV}(hb:AT w b (.string p.Y:: .int .i64 p.v.ma:: .int .i64 p.v.mi:: .int .i64 p.v.pa::l))(b7:b.block≠r){J:Sl->Wp}
  (hJ:∀a5 w',PA w0 r w' (sw++[p]) a5->J a5 w'):
  Ð prog (Instr.mapUpdate 330 (.map (some r)) (vl p.Y p.v) (vi i)) w λa4=>∃(b0:Pr),(sh a4 b [(.string b0)])/\∃(x y z:Int),(sh a4 (b.add 1) [vi x,vi y,vi z])/\An a4 [(.string b0),vi x,vi y,vi z] 150 λb5 b2=>uc prog 53 53 so (Sl.v (Sl.mk (some b5) 1 1)) b2 λb9 b4=>J b9 b4:=by
 obtain⟨m,h1,h2⟩:=h.map;refine Fi Vn h1 ⟨_,_,rfl⟩ (λq hq he=>?_) λw1 b1 c5 hM=>?_
 .obtain⟨q',b8,rfl⟩:=ij.1 hq;obtain⟨e1,e2⟩:=Hm.1 he;refine hp ?_;rw[<-h2];refine ij.2 ⟨q',b8,?_⟩;obtain⟨⟨a,b⟩,c⟩:=q';obtain⟨n,u⟩:=p;simp only at e1 e2;rw[e1,e2]
 .have a7:=b1.box hb b7;refine⟨_,a7.at0 xR rfl,_,_,_,a7.at1 (k:=1) xR rfl,An.intro λa2 w2 x2 b6 _ _=>?_⟩;have x1:AI w0 w1:=b1.U h.x h.lr;have o1:OF vb 150 w1 w0.heap.size se so sw:=h.uy.tz b1 (λh=>h) λad a0=>Ne.H (h.ap ad a0);have c4:=h1.lt;have s1:=x1.size;have s2:=x2.size;have eb:vb.bytes=40:=rfl;refine(o1.U x2).push JV oM (x:=p) (S':=se) ⟨rfl,hN⟩ (b6.sh.pre (r:=[]) rfl) (λ_ h=>h.F) (λ_ _ h=>h.F) (by rw[eb];unfold Ab;omega) (by rw[Ao];omega) λa5 w3 o3 a6 a8 a9=>hJ a5 w3 ?_;have c3:w.heap.size<=w1.heap.size:=b1.1;refine⟨(x1.Z x2).W a6,⟨m++[(p,i)],?_,?_⟩,OF.flat (λh=>h) o3,λad a0=>?_,h.lr⟩
  .rw[gb];exact(hM.U x2).of (a8 r oM λad a0 e=>h.ap ad a0 e.H)
  .rw[gb,h2];rfl
  .obtain q|q:=a9 ad a0
   .exact h.ap ad q
   .omega
end
def Zde{R:Sl->Wp}(hs:No uh w S s g)
  (hR:∀t l w',AI w w'->(g≠[]->vm g l)->(g=[]->l=[])->tq AW 40 w' w.heap.size t l->(∀q∈l,Ad q.Y)->(∀ad,t.a=some ad->ad.block<w'.heap.size/\w.heap.size<=ad.block)->R t w'):KH s w R:=by
 unfold KH;have b7:=hs.len;have e0:g.length<=1600000000000:=by have:=hs.2.2.2.1;have eb:uh.bytes=88:=rfl;rw[eb]at this;unfold Ab at this;omega
 refine An.intro λa w1 x1 b5 d6 _=>⟨s,b5.sh.pre (r:=[]) rfl,λh0=>?_,λh0=>?_⟩
 .have hg:g=[]:=fo oM;exact hR Sl.nil [] w1 x1 (λh=>fm hg h) (λ_=>rfl) ⟨rfl,fx _,ib _,by simp,.inl rfl⟩ (λq hq=>by cases hq) (λad h=>by cases h)
 .have hg:g≠[]:=λe=>by subst e;exact h0 (by rw[b7];rfl)
  have d9:0<g.length:=Nat.pos_of_ne_zero λh=>hg (fo h);refine OC (K:=F6) λr w2 x2 e2 c6=>⟨some r,rfl,s,(b5.U x2).sh.pre (r:=[]) rfl,⟨oM,oM⟩,?_⟩;have c4:=x1.Z x2;have hc:No uh w S (Sl.cut s ((1:Int).toNat) s.len 6) ((g.take s.len).drop 1):=hs.cut oM oM;rw[b7,eh]at hc;have hc:No uh w S (Sl.cut s ((1:Int).toNat) s.len 6) (g.drop 1):=by rwa [b7]
  generalize Sl.cut s ((1:Int).toNat) s.len 6=sc at hc ⊢;have c7:=hc.len;have c9:(g.drop 1).length=g.length - 1:=gh;generalize hL:g.drop 1=L at hc c7 c9;have al:=b5.lt;refine th.up hc.max (λso t w'=>∃sw:Η,PA w r w' sw so/\sw.Nodup/\(∀y,y∈sw↔y∈(L.take t).map Em)/\sw.length<=t)
   ⟨[],⟨c4,⟨[],c6,rfl⟩,(OF.zero w2).Xcf (by have:=c4.size;omega),(λad h=>by cases h),by have:=x1.size;omega⟩,List.nodup_nil,λy=>by simp,fx _⟩ λso t w3 e3 ht ⟨sw,hA,b6,a4,e1⟩ hn=>⟨λd2=>join.named λJ hJ=>?_,λd8=>?_⟩
  .have a7:t<L.length:=oM;have b4:∀a5 w' a0,PA w r w' a0 a5->a0.Nodup->(∀y,y∈a0↔y∈(L.take (t+1)).map Em)->a0.length<=t+1->J a5 w':=λa5 w' a0 q1 q2 q3 q4=>(by subst hJ;exact hn a7 a5 w' ⟨a0,q1,q2,q3,q4⟩);clear hJ hn;obtain⟨ad,c,e,ha,hN,_,_,c8⟩:=BR hc a7;have d5:(L.take (t+1)).map Em=(L.take t).map Em++[Em L[t]]:=(by rw[dw a7,gb];rfl);rw[d5]at b4;generalize L[t]=x at*;refine⟨ad,⟨ha,oM,d2⟩,_,_,_,_,c,e,c8 _ hA.x,An.set rfl λa8 w4 x4 a6 d7=>?_⟩;refine⟨_,a6.at0 xR rfl,_,_,_,a6.at1 (k:=1) xR rfl,?_⟩;have b2:=hA.U x4;obtain⟨v,c3⟩:=b2.seen (Em x);refine⟨_,_,c3,v,_,rfl,λhq=>?_,λhq=>?_⟩
   .have b0:Em x∉sw:=(by simpa using hq);refine⟨_,a6.at0 xR rfl,_,_,_,a6.at1 (k:=1) xR rfl,?_⟩;refine b2.put (p:=Em x) b0 hN oM a6 (by obtain⟨_,q,_⟩:=hA.map;have:=q.lt;omega) λa5 w5 c5=>b4 a5 w5 _ c5 ?_ (λy=>?_) (by rw[du,gq];omega)
    .rw[jl];refine⟨b6,by simp,λa ha b hb=>?_⟩;rw[ep]at hb;subst hb;exact λe=>b0 (e▸ha)
    .rw[fp,fp,a4]
   .have d1:Em x∈sw:=(by simpa using hq);refine b4 so w4 sw b2 b6 (λy=>?_) oM;rw[fp,<-a4,ep];exact⟨.inl,λh=>h.F id λh=>h▸d1⟩
  .rw[ia oM,<-hL]at a4;have d0:tq AW 40 w3 w.heap.size so sw:=tq.of (E:=vb) (λx cs h=>h.1) hA.uy (by unfold Ab;omega);have d4:∀q∈sw,Ad q.Y:=λq hq=>by obtain⟨x,hx,rfl⟩:=ij.1 ((a4 q).1 hq);obtain⟨n,d3,rfl⟩:=gc.1 (rh hx);obtain⟨_,_,_,_,h1,_⟩:=BR hs d3;exact h1
   refine Zkp d0 hA.x.size λl' w4 hp b8 a9 b9=>⟨rfl,?_⟩;refine hR so l' w4 (hA.x.W a9) (λ_=>⟨.of æ (λh=>TK.1 h) (hp.nodup_iff.2 b6) b8,λy=>by rw[hp.mem_iff,a4]⟩) (λh=>fm h hg) b9 (λx hx=>d4 x (hp.mem_iff.1 hx)) λad ha=>?_;have:=hA.uy.block ha;have:=a9.size;omega
end Go.Hal
namespace Go.Hal
def ß.up{α β:Type}{a:α}{b:β}{body:α->β->Int->PU->(α->β->È)->Prop}(hN:N<=maxLen)(I:α->β->Ê)(h0:I a b 0 w)
  (hs:∀(a:α) (b:β) (n:Nat) w' (a4:α->β->È),n<=N->I a b n w'->(n<N->∀a' b' a0,I a' b' (n+1) a0->a4 a' b' (Aa ((n:Int)+1)) a0)->body a b n w' a4):ß a b 0 w body:=
 ⟨λa b i w'=>∃n:Nat,i=n/\n<=N/\I a b n w',λ_ _ i _=>N - i.toNat,⟨0,rfl,ib _,h0⟩,λa b i w' ⟨n,hi,hn,hI⟩=>by subst hi;refine hs a b n w' _ hn hI λa5 a' b' a0 h=>?_;rw[HO (n:=N) oM oM hN];exact⟨⟨n+1,oM,oM,h⟩,by show N - ((n:Int)+1).toNat<N - (n:Int).toNat;omega⟩⟩
def th.Xa7{α:Type}{a:α}{body:α->Int->PU->(α->È)->Prop}(hN:N<=maxLen)(I:α->Ê)(h0:I a 1 w)
  (hs:∀(x:α) (n:Nat) w' (a0:α->È),1<=n->(n<=N\/n=1)->I x n w'->(n<N->∀y a4,I y (n+1) a4->a0 y (Aa ((n:Int)+1)) a4)->body x n w' a0):th a 1 w body:=
 th.zj (λm x i w'=>∃n:Nat,i=(n:Int)/\1<=n/\(n<=N\/n=1)/\m=N - n/\I x n w') (N - 1) ⟨1,rfl,fx _,.inr rfl,rfl,h0⟩ λm x i w' a0 ⟨n,hi,h1,h2,hm,hI⟩ hn=>by subst hi;refine hs x n w' a0 h1 h2 hI λa6 y a4 a5=>?_;refine hn (N - (n+1)) _ _ a4 oM ⟨n+1,?_,oM,.inl a6,rfl,a5⟩;rw[Ao]at hN;rw[Ai oM oM];omega
def UL{α:Type}{p:α->Bool}{l:List α}(h:l.any p=false):l.find? p=none:=by rw[lx];intro x hx;have:=mf.1 h x hx;simpa using this
def Zd2{α:Type}(p:α->Bool)(l:List α):(AV p l= -1/\l.find? p=none)\/∃k,∃hk:k<l.length,AV p l=(k:Int)/\l.find? p=some l[k]:=by
 by_cases h:AV p l= -1
 .refine .inl ⟨h,UL ?_⟩;rw[<-F4,h];rfl
 .obtain⟨n,hn,e,ht,hp⟩:=Lq h;exact .inr ⟨n,hn,e,QK hn (UL ht) hp⟩
def FI{l:List Pr}(h:No vr w S s l)(hn:n<l.length):∃ad,s.a=some ad/\Ad l[n]/\∀w',AI w w'->sh w' (ad.add (n*1)) [.string l[n]]:=by obtain⟨ad,cs,h1,h2,⟨rfl,h3⟩,h4⟩:=h.el hn;exact⟨ad,h1,h3,h4⟩
def B2(T:Ε)(p:As):Int:=match A0 (T.map AH) p with
 |some i=>(i:Int)
 |none=>-1
def UJ{T:Ε}(hi:i<T.length)(h:T[i].BY=p)(h0:∀j (hj:j<T.length),j<i->T[j].BY≠p):A0 (T.map AH) p=some i:=by unfold A0;rw[mo];refine⟨by rwa [ec],by simpa[AH]using h,λj hj=>?_⟩;simpa[AH]using h0 j oM hj
def UK{T:Ε}(h:∀j (hj:j<T.length),T[j].BY≠p):A0 (T.map AH) p=none:=by unfold A0;rw[nv];intro x hx;obtain⟨d,hd,rfl⟩:=ij.1 hx;obtain⟨j,hj,rfl⟩:=gc.1 hd;exact fq (h j hj)
def Oh{a b:List Pr}{T:Nat->Prop}(hs:No vr w S s a)(ht:No vr w T t b)(hR:∀w',AI w w'->R (decide (a=b)) w'):HC s t w R:=by
 unfold HC;have h1:=hs.len;have h2:=ht.len;refine⟨λh=>?_,λh=>?_⟩
 .have: ¬a=b:=λe=>by subst e;omega
  have h3:=hR w xR;rw[fq this]at h3;exact h3
 have a9:a.length=b.length:=by have:=jx.1 h;omega
 refine Of.up hs.max (λi w'=>AI w w'/\a.take i=b.take i) ⟨AI.refl _,rfl⟩ λi w1 b0 hi ⟨x1,hI⟩ hn=>⟨λa6=>sf.drew λw2 x2=>?_,λa8=>?_⟩
 .have k1:i<a.length:=oM;have k2:i<b.length:=oM;obtain⟨ad,ha,_,hc⟩:=FI hs k1;obtain⟨a0,a4,_,a5⟩:=FI ht k2;refine⟨ad,⟨ha,oM,a6⟩,_,hc _ (x1.Z x2),a0,⟨a4,oM,oM⟩,_,a5 _ (x1.Z x2),λh=>?_,λh=>?_⟩
  .have a7: ¬a=b:=λe=>(by subst e;exact h rfl);have h3:=hR w2 (x1.Z x2);rw[fq a7]at h3;exact h3
  .exact hn k1 _ ⟨x1.Z x2,XI k1 k2 hI (jx.1 h)⟩
 .have:i=a.length:=oM;subst this;rw[eh,ia oM]at hI;have h3:=hR w1 x1;rw[fy hI]at h3;exact h3
def RB{a b:List Pr}{T:Nat->Prop}(hs:No vr w S s a)(ht:No vr w T t b)(hR:∀w',AI w w'->R (decide (a=b)) w'):IH s t w R:=Oh hs ht hR
def VQ:Ϻ=B è:=rfl
def Ww(p:As)(x:Pr):Cf (p++[x])=(Cf p++è)++x.toList:=by unfold Cf;rw[rl];simp
def Rz:∀{p:As},Bj p=true->(Cf p).length<=p.length*25
 | [],_=>fx _
 |x::p,h=>by unfold Bj at h;rw[ob,dz]at h;have h1:=Cn h.1;have h2:=Rz (p:=p) h.2;have e:Cf (x::p)=è++x.toList++Cf p:=rfl;have e9:è.length=9:=rfl;rw[e,du,du,fu,e9];omega
def VV(hi:i<p.length):Bj (p.take (i+1))=(Bj (p.take i)&&Ae p[i]):=by unfold Bj;rw[dw hi,rj];simp
def VZ(hi:i<p.length)(h:Ae p[i]=false):Bj p=false:=by unfold Bj;rw[List.all_eq_false];exact⟨_,fe hi,by rw[h];decide⟩
def OS{R:Í}(hs:No vr w S s p)(hR:∀w',AI w w'->R (B (Ar p)) w'):Gf s w R:=by
 unfold Gf;have hl:=hs.len;have hm:=hs.max;have a4:=hs.2.2.2.1;have a9:vr.bytes=16:=rfl;rw[a9]at a4;unfold Ab at a4;refine⟨λh=>?_,λh=>?_⟩
 .have:p=[]:=fo oM;subst this;exact hR w xR
 .have a7:p≠[]:=λe=>by subst e;exact h (by rw[hl];rfl)
  have e9:è.length=9:=rfl;refine th.up hm (λsw i w'=>AI w w'/\Bj (p.take i)=true/\sw=B (Cf (p.take i))) ⟨AI.refl _,rfl,rfl⟩ λsw i w1 b4 hi ⟨x1,hI,ho⟩ hn=>⟨λa6=>?_,λb2=>?_⟩
  .have a0:i<p.length:=oM;obtain⟨ad,ha,b0,hc⟩:=FI hs a0;refine⟨ad,⟨ha,oM,a6⟩,_,hc _ x1,Ee.V (yk b0 λw2 x2=>⟨_,rfl,λhq=>?_,λhq=>?_⟩)⟩
   .have a5:=VZ a0 (by simpa using hq);have h2:=hR w2 (x1.Z x2);unfold Ar at h2;rw[fa a7,fa (by rw[a5];decide)]at h2;exact h2
   .have a8:Ae p[i]=true:=(by simpa using hq);have h1:=Cn a8;have h2:=Rz hI;rw[fg,kq oM]at h2;subst ho;rw[VQ,A9];refine⟨by rw[Ac,Ac,Al,e9];omega,ad,⟨ha,oM,a6⟩,_,hc _ (x1.Z x2),?_⟩;rw[Dx p[i],A9];refine⟨by rw[Ac,Ac,Al,du,e9];omega,hn a0 _ w2 ⟨x1.Z x2,by rw[VV a0,hI,a8];rfl,?_⟩⟩;rw[dw a0,Ww]
  .rw[ia oM]at hI ho;have h2:=hR w1 x1;unfold Ar at h2;rw[fa a7,fl hI]at h2;rwa [ho]
def HH{R:Í}(hs:No vr w S s p)(hb:p.length<=4000000000000)(hR:∀w',AI w w'->R (B (Ar p)) w'):Ew s w R:=by
 unfold Ew;have hl:=hs.len;have hm:=hs.max;refine⟨λh=>?_,λh=>?_⟩
 .have:p=[]:=fo oM;subst this;exact hR w xR
 .have a5:p≠[]:=λe=>by subst e;exact h (by rw[hl];rfl)
  have e9:è.length=9:=rfl;intro a w1 ha hw;subst ha;have x1:AI w w1:=hw▸AI.alloc _ _;have a7:ĕ w.heap.size [] w1:=hw▸NL w;refine Of.up hm (λi w'=>AI w w'/\Bj (p.take i)=true/\ĕ w.heap.size (Cf (p.take i)) w') ⟨x1,rfl,a7⟩ λi w2 b5 hi ⟨x2,hI,hB⟩ hn=>⟨λb0=>?_,λb4=>?_⟩
  .have a0:i<p.length:=oM;obtain⟨ad,ha,b2,hc⟩:=FI hs a0;refine⟨ad,⟨ha,oM,b0⟩,_,hc _ x2,CI.V (ux b2 λw3 x3=>⟨_,rfl,λhq=>?_,λhq=>?_⟩)⟩
   .have a4:=VZ a0 (by simpa using hq);have h2:=hR w3 (x2.Z x3);unfold Ar at h2;rw[fa a5,fa (by rw[a4];decide)]at h2;exact h2
   .have a6:Ae p[i]=true:=(by simpa using hq);have h1:=Cn a6;have h2:=Rz hI;rw[fg,kq oM]at h2;rw[VQ];refine Ie (m:=è) (hB.U x3) rfl (x2.Z x3) (by rw[e9];omega) λw4 n4 x4 a8=>⟨_,_,rfl,?_⟩;rw[Dx p[i]];refine Ie (m:=p[i].toList) a8 rfl x4 (by rw[du,e9];omega) λw5 n5 x5 a9=>⟨_,_,rfl,hn a0 w5 ⟨x5,by rw[VV a0,hI,a6];rfl,?_⟩⟩;rwa [dw a0,Ww]
  .rw[ia oM]at hI hB;refine NK hB rfl x2 λw3 x3=>⟨_,rfl,?_⟩;have h2:=hR w3 x3;unfold Ar at h2;rw[fa a5,fl hI]at h2;exact h2
def RA{T:Ε}{R:È}(hs:No ve w S s T)(ht:No vr w Q t p)(hR:∀w',AI w w'->R (B2 T p) w'):Hk s t w R:=by
 unfold Hk;have a9:=hs.len;refine An.intro λa w1 x1 a5 _ _=>?_;refine Of.up hs.max (λi w'=>AI w1 w'/\∀j (hj:j<T.length),j<i->T[j].BY≠p) ⟨AI.refl _,λj _ h=>by omega⟩ λi w2 b0 hi ⟨x2,hI⟩ hn=>⟨s,(a5.U x2).sh.pre (r:=[]) rfl,λa7=>?_,λa8=>?_⟩
 .have a0:i<T.length:=oM;have a4:=x1.Z x2;obtain⟨ad,ps,d,e,o,ha,_,_,hp,_,_,_,hc⟩:=vg hs a0;refine⟨s,(a5.U x2).sh.pre (r:=[]) rfl,ad,⟨ha,oM,a7⟩,ps,(hc _ a4).pre rfl,IH.V (RB (hp.U a4) (ht.U a4) λw3 x3=>⟨_,rfl,λhq=>?_,λhq=>?_⟩)⟩
  .have h:=hR w3 (a4.Z x3);unfold B2 at h;rw[UJ a0 (jg hq) hI]at h;exact h
  .refine hn a0 w3 ⟨x2.Z x3,λj hj a6=>?_⟩;obtain h|h:=im.1 a6
   .exact hI j hj h
   .subst h;exact of_decide_eq_false hq
 .have h:=hR w2 (x1.Z x2);unfold B2 at h;rw[UK λj hj=>hI j hj oM]at h;exact h
def Zdw{T:Ε}{q:uf->Bool}{R:È}(hs:No ve w S s T)
  (hf:∀x∈T,∀(ps d e o:Sl) w' (k:Ë),AI w w'->No vr w' S ps x.BY->(∀a4,AI w' a4->k (.bool (q x)) a4)->un prog f [.agg #[ps.v,.string x.td.Y,vi x.td.v.ma,vi x.td.v.mi,vi x.td.v.pa,d.v,e.v,o.v,vi x.py]] w' k)
  (hR:∀w',AI w w'->R (AV q T) w'):MK s f w R:=by
 unfold MK;have hl:=hs.len;refine Of.up hs.max (λi w'=>AI w w'/\(T.take i).any q=false) ⟨AI.refl _,rfl⟩ λi w1 a7 hi ⟨x1,hI⟩ hn=>⟨λa5=>?_,λa6=>?_⟩
 .have a0:i<T.length:=oM;obtain⟨ad,ps,d,e,o,ha,_,_,hp,_,_,_,hc⟩:=vg hs a0;refine⟨ad,⟨ha,oM,a5⟩,_,_,_,_,_,_,_,_,_,hc _ x1,hf _ (fe a0) ps d e o _ _ x1 (hp.U x1) λw2 x2=>⟨_,rfl,λh=>?_,λh=>?_⟩⟩
  .rw[<-F5 a0 hI h];exact hR _ (x1.Z x2)
  .exact hn a0 _ ⟨x1.Z x2,by rwa [FJ a0 hI]⟩
 .have:i=T.length:=oM;rw[this,eh]at hI;rw[<-EL hI];exact hR _ x1
def Zby:Bm prog 290:=enters_of func290 kR rfl
def Zc5(T:Ε)(p:As):AV (λd=>decide (d.BY=p)) T=B2 T p:=by
 unfold B2;by_cases h:AV (λd=>decide (d.BY=p)) T= -1
 .have h0:T.any (λd=>decide (d.BY=p))=false:=by rw[<-F4,h];rfl
  rwa [UK (λj hj=>by simpa using mf.1 h0 _ (fe hj))]
 .obtain⟨n,hn,e,ht,hp⟩:=Lq h;rw[e,UJ hn (jg hp) λj hj a0=>?_];have:=mf.1 ht T[j] (List.mem_take_iff_getElem.2 ⟨j,oM,rfl⟩);simpa using this
def JE{T:Ε}{R:È}(hs:No ve w S s T)(ht:No vr w Q t p)(hR:∀w',AI w w'->R (B2 T p) w'):Fh s t w R:=by refine An.intro λa w1 x1 a5 _ _=>An.intro λa1 w2 x2 a6 _ _=>⟨s,a5.at0 (r:=[]) x2 rfl,?_⟩;have a0:=x1.Z x2;refine MK.V (Zdw (q:=λd=>decide (d.BY=p)) (hs.U a0) (λy _ ps d e o w3 k x3 hp hk=>⟨_,_,rfl,Zby,Po.V ?_⟩) λw3 x3=>⟨_,rfl,by rw[Zc5];exact hR w3 (a0.Z x3)⟩);refine An.intro λa4 w4 x4 a7 _ _=>⟨ps,a7.at0 xR rfl,t,(a6.U (x3.Z x4)).sh.pre (r:=[]) rfl,HC.V (Oh (hp.U x4) ((ht.U a0).U (x3.Z x4)) λw5 x5=>⟨_,rfl,hk w5 (x4.Z x5)⟩)⟩
def Zc6{T:Ε}:B2 T p=(i:Int)↔A0 (T.map AH) p=some i:=by
 unfold B2;cases A0 (T.map AH) p with
 |none=>show(-1:Int)=(i:Int)↔_;exact⟨λh=>by omega,nO⟩
 |some k=>show(k:Int)=(i:Int)↔_;rw[eu];omega
def Zc7{T:Ε}:(0<=B2 T p/\B2 T p<(i:Int))↔∃h,h<i/\A0 (T.map AH) p=some h:=by
 unfold B2;cases A0 (T.map AH) p with
 |none=>show(0:Int)<= -1/\(-1:Int)<(i:Int)↔_;exact⟨λh=>by omega,λ⟨h,_,h2⟩=>by cases h2⟩
 |some k=>show(0:Int)<=(k:Int)/\(k:Int)<(i:Int)↔_;exact⟨λh=>⟨k,oM,rfl⟩,λ⟨h,h1,h2⟩=>by cases h2;omega⟩
structure ĺ(d:uf):Prop where
 BY:d.BY≠[]
 zq:Bj d.BY=true
 len:(Ar d.BY).length<=1024
 py:1<=d.py
def Xy{T:Ε}{d:uf}:Ö T i d↔ĺ d/\B2 T d.BY=(i:Int)/\(0<=B2 T d.BY.dropLast/\B2 T d.BY.dropLast<(i:Int))/\AJ d.td=true/\d.BY.getLast? =some d.td.Y:=by
 rw[Zc6,Zc7];constructor
 .intro h;exact⟨⟨h.BY,h.zq,h.len,h.py⟩,h.first,h.up,h.vt,h.Y⟩
 .rintro⟨h,h1,h2,h3,h4⟩;exact⟨h.BY,h.zq,h.len,h.py,h1,h2,h3,h4⟩
def Zlw(h:p≠[]):Ag (B (Ar p)) ⟨#[]⟩= !Bj p:=by
 unfold Ar;rw[fa h];cases hn:Bj p with
 |true=>rw[fl rfl];have h9:=R0 h;show Ag (B (Cf p)) ⟨#[]⟩=false;rw[nz];intro e;have:=jt ByteArray.toList (AG.1 e);rw[HQ]at this;have e0:Ϥ.toList=[]:=HQ [];rw[e0]at this;rw[this]at h9;simp at h9
 |false=>rw[fa dC];exact AG.2 rfl
def UT{d:uf}(hn:n=d.BY.length):(((((n:Int)==0)||Ag (B (Ar d.BY)) ⟨#[]⟩)||decide (1024<((B (Ar d.BY)).size:Int)))||decide (d.py<1))=false↔ĺ d:=by
 subst hn;rw[Ac];by_cases h:d.BY=[]
 .constructor
  .intro hq;rw[h]at hq;simp at hq
  .intro hq;exact fm h hq.BY
 .rw[Zlw h];have e1:((d.BY.length:Int)==0)=false:=by rw[nz];intro e;have e:=eq_of_beq e;exact h (fo oM)
  rw[e1];simp only[qe,gd,nr,gk];constructor
  .rintro⟨⟨h1,h2⟩,h3⟩;exact⟨h,h1,oM,oM⟩
  .intro q;exact⟨⟨q.zq,by have:=q.len;omega⟩,by have:=q.py;omega⟩
def Vp{n:Pr}(h:p.length - 1<p.length):Ag n p[p.length - 1]=true↔p.getLast? =some n:=by rw[AG,List.getLast?_eq_getElem?,dt h,eu];exact eq_comm
def No.front(h:No vr w S s p)(h0:p≠[]):Aa (((s.len:Nat):Int) - 1)=((p.length - 1:Nat):Int)/\No vr w S (Sl.cut s 0 (p.length - 1) 1) p.dropLast:=by have hl:=h.len;have hm:=h.max;rw[Ao]at hm;have hp:0<p.length:=my.2 h0;refine⟨by rw[Ai oM oM];omega,?_⟩;have:=h.cut (a:=0) (b:=p.length - 1) (ib _) oM;rw[ju,<-List.dropLast_eq_take]at this;exact this
def Zly{T:Ε}(ht:Þ w)(hs:No ve w S s T)(hi:i<T.length)(hb:∀d∈T,d.BY.length<=4000000000000)(hR:∀(b:Bool) w',AI w w'->(b=true↔Ö T i T[i])->R b w'):Nh s (i:Int) w R:=by
 unfold Nh;have d2:=hs.len;obtain⟨ad,ps,dd,ee,oo,ha,_,c8,hp,hd,he,ho,hc⟩:=vg hs hi;have hb:=hb _ (fe hi);have c7:=hp.len;have d1:T[i].BY.length<=ps.cap:=hp.2.1;rw[Xy]at hR;generalize T[i]=d at*;have b7:∀w',AI w w'-> ¬(ĺ d/\B2 T d.BY=(i:Int)/\(0<=B2 T d.BY.dropLast/\B2 T d.BY.dropLast<(i:Int))/\AJ d.td=true/\d.BY.getLast? =some d.td.Y)->R false w':=λw' hx h=>hR false w' hx ⟨nO,λhf=>fm hf h⟩;refine An.intro λa w1 x1 b4 _ _=>⟨s,b4.sh.pre (r:=[]) rfl,ad,⟨ha,oM,oM⟩,_,_,_,_,_,_,_,_,_,hc _ x1,An.set rfl λa2 w2 x2 a0 _=>⟨ps,a0.at0 xR rfl,?_⟩⟩;have a8:=x1.Z x2;refine Ew.V (HH (hp.U a8) hb λw3 x3=>⟨_,rfl,ps,a0.at0 x3 rfl,IN (IN (IN ⟨d.py,λ_=>a0.at1 (k:=8) (r:=[]) x3 rfl,IN ?_⟩))⟩);have b5:=a8.Z x3;have a4:=UT (d:=d) c7;generalize (((((ps.len:Int)==0)||Ag (B (Ar d.BY)) ⟨#[]⟩)||decide (1024<((B (Ar d.BY)).size:Int)))||decide (d.py<1))=d0 at*;refine⟨s,λ_=>b4.at0 (r:=[]) (x2.Z x3) rfl,ps,λ_=>a0.at0 x3 rfl,?_⟩;refine IS.intro (B2 T d.BY) (λ_ q hq=>Fh.V (JE (hs.U b5) (hp.U b5) λw4 x4=>⟨_,rfl,hq w4 x4⟩)) λd3 w4 x4 a6=>⟨λhq=>b7 w4 (b5.Z x4) λ⟨h1,h2,_⟩=>?_,λhq=>sf.drew λw5 x5=>?_⟩
 .have hb:=a4.2 h1;subst hb;rw[a6 rfl,h2]at hq;simp at hq
 .rw[gd]at hq;obtain⟨q1,q2⟩:=hq;have h1:=a4.1 q1;have h2:B2 T d.BY=(i:Int):=by rw[q1]at a6;rw[<-a6 rfl];simpa using q2
  have a9:=x3.Z (x4.Z x5);have c3:=a8.Z a9;obtain⟨ew,b8⟩:=(hp.U c3).front h1.BY;refine⟨s,b4.at0 (r:=[]) (x2.Z a9) rfl,ps,a0.at0 a9 rfl,ps,a0.at0 a9 rfl,?_⟩;rw[ew,dx];refine⟨⟨oM,oM⟩,?_⟩;refine Fh.V (JE (hs.U c3) b8 λw6 x6=>⟨_,rfl,sf.drew λw7 x7=>IN (IN ?_)⟩);have b6:=a9.Z (x6.Z x7);have b0:=a8.Z b6;refine⟨_,_,_,_,dd,ee,oo,λ_=>a0.at1 (k:=1) b6 rfl,?_⟩;refine IS.intro (AJ d.td) (λ_ q hq=>Gy.V (OH (ht.U b0) c8 (hd.U b0) (he.U b0) (ho.U b0) λw8 x8=>⟨_,rfl,hq w8 x8⟩)) λd4 w8 x8 a7=>IN ?_;have b2:=b6.Z x8;have c4:=a8.Z b2;have c9:0<d.BY.length:=my.2 h1.BY;have b9:d.BY.length - 1<d.BY.length:=oM;obtain⟨al,c5,_,c6⟩:=FI hp b9;refine⟨_,λ_=>a0.at1 (k:=1) b2 rfl,ps,λ_=>a0.at0 b2 rfl,ps,λ_=>a0.at0 b2 rfl,al,λ_=>by rw[ew];exact⟨c5,oM,oM⟩,_,λ_=>by rw[ew,dx];exact c6 _ c4,?_⟩;refine hR _ w8 c4 ?_;have a5:=Vp (p:=d.BY) (n:=d.td.Y) b9;constructor
  .intro hq;simp only[dz,fk]at hq;obtain⟨⟨⟨k1,k2⟩,k3⟩,k4⟩:=hq;refine⟨h1,h2,⟨k1,k2⟩,?_,a5.1 k4⟩;rw[<-k3,a7 (by rw[fy k1,fy k2];rfl)]
  .rintro⟨_,_,⟨k1,k2⟩,k3,k4⟩;rw[fy k1,fy k2]at a7 ⊢;rw[a7 rfl,k3,a5.2 k4];rfl
def Zid{T:Ε}{R:È}(hs:No ve w S s T)(hi:i<T.length)(h0:T[i].BY≠[])(hR:∀w',AI w w'->R (B2 T T[i].BY.dropLast) w'):Le s (i:Int) w R:=by
 unfold Le;have a9:=hs.len;obtain⟨ad,ps,dd,ee,oo,ha,_,b0,hp,hd,he,ho,hc⟩:=vg hs hi;have a8:=hp.len;have a7:T[i].BY.length<=ps.cap:=hp.2.1;have a6:0<T[i].BY.length:=my.2 h0;refine An.intro λa w1 x1 a0 _ _=>IN ⟨s,λ_=>a0.sh.pre (r:=[]) rfl,IN ⟨s,λ_=>a0.sh.pre (r:=[]) rfl,ad,λ_=>⟨ha,oM,oM⟩,ps,λ_=>by rw[dx];exact(hc _ x1).pre rfl,?_⟩⟩;have e:((decide ((i:Int)<0)||decide ((s.len:Int)<=(i:Int)))||(((ps.len:Nat):Int)==0))=false:=by rw[fq oM,fq oM];rw[nz];intro h;have h:=eq_of_beq (show(((ps.len:Nat):Int)==0)=true from h);omega
 rw[e];refine⟨nO,λ_=>⟨s,a0.sh.pre (r:=[]) rfl,ad,⟨ha,oM,oM⟩,ps,by rw[dx];exact(hc _ x1).pre rfl,sf.drew λw2 x2=>?_⟩⟩;have a4:=x1.Z x2;obtain⟨ew,a5⟩:=(hp.U a4).front h0;rw[ew];refine⟨s,a0.at0 (r:=[]) x2 rfl,⟨oM,oM⟩,?_⟩;rw[dx];exact Hk.V (RA (hs.U a4) a5 λw3 x3=>⟨_,rfl,hR w3 (a4.Z x3)⟩)
def Zie{T:Ε}(hs:No ve w S s T)(hi:i<T.length)(hR:∀(b:Bool) w',AI w w'->(b=true↔Ö T i T[i])->R b w'):Lg s (i:Int) w R:=by
 unfold Lg;have c8:=hs.len;obtain⟨ad,ps,dd,ee,oo,ha,_,c5,hp,hd,he,ho,hc⟩:=vg hs hi;have c4:=hp.len;rw[Xy]at hR;have b5:∀w',AI w w'-> ¬(ĺ T[i]/\B2 T T[i].BY=(i:Int)/\(0<=B2 T T[i].BY.dropLast/\B2 T T[i].BY.dropLast<(i:Int))/\AJ T[i].td=true/\T[i].BY.getLast? =some T[i].td.Y)->R false w':=λw' hx h=>hR false w' hx ⟨nO,λhf=>fm hf h⟩;refine An.intro λa w1 x1 b0 _ _=>⟨s,b0.sh.pre (r:=[]) rfl,ad,⟨ha,oM,oM⟩,_,_,_,_,_,_,_,_,_,hc _ x1,An.set rfl λa2 w2 x2 a0 _=>⟨ps,a0.at0 xR rfl,?_⟩⟩;have a7:=x1.Z x2;refine Gf.V (OS (hp.U a7) λw3 x3=>⟨_,rfl,ps,a0.at0 x3 rfl,IN (IN (IN ⟨T[i].py,λ_=>a0.at1 (k:=8) (r:=[]) x3 rfl,IN ?_⟩))⟩);have b2:=a7.Z x3;have a4:=UT (d:=T[i]) c4;generalize (((((ps.len:Int)==0)||Ag (B (Ar T[i].BY)) ⟨#[]⟩)||decide (1024<((B (Ar T[i].BY)).size:Int)))||decide (T[i].py<1))=c7 at*;refine⟨s,λ_=>b0.at0 (r:=[]) (x2.Z x3) rfl,ps,λ_=>a0.at0 x3 rfl,?_⟩;refine IS.intro (B2 T T[i].BY) (λ_ q hq=>Hk.V (RA (hs.U b2) (hp.U b2) λw4 x4=>⟨_,rfl,hq w4 x4⟩)) λc9 w4 x4 a6=>⟨λhq=>b5 w4 (b2.Z x4) λ⟨h1,h2,_⟩=>?_,λhq=>?_⟩
 .have hb:=a4.2 h1;subst hb;rw[a6 rfl,h2]at hq;simp at hq
 .rw[gd]at hq;obtain⟨q1,q2⟩:=hq;have h1:=a4.1 q1;have h2:B2 T T[i].BY=(i:Int):=by rw[q1]at a6;rw[<-a6 rfl];simpa using q2
  have a8:=x3.Z x4;have b7:=a7.Z a8;refine⟨s,b0.at0 (r:=[]) (x2.Z a8) rfl,Le.V (Zid (hs.U b7) hi h1.BY λw5 x5=>⟨_,rfl,_,_,_,_,dd,ee,oo,a0.at1 (k:=1) (a8.Z x5) rfl,?_⟩)⟩;have b4:=b7.Z x5;refine Hj.V (R9 (p:=T[i].td) c5 (hd.U b4) (he.U b4) (ho.U b4) λw6 x6=>⟨_,rfl,sf.drew λw7 x7=>IN (IN (IN ?_))⟩);have a9:=a8.Z (x5.Z (x6.Z x7));have b8:=a7.Z a9;obtain⟨ew,_⟩:=hp.front h1.BY;have c6:0<T[i].BY.length:=my.2 h1.BY;have b6:T[i].BY.length - 1<T[i].BY.length:=oM;obtain⟨al,b9,_,c3⟩:=FI hp b6;refine⟨_,λ_=>a0.at1 (k:=1) a9 rfl,ps,λ_=>a0.at0 a9 rfl,ps,λ_=>a0.at0 a9 rfl,al,λ_=>by rw[ew];exact⟨b9,oM,oM⟩,_,λ_=>by rw[ew,dx];exact c3 _ b8,?_⟩;refine hR _ w7 b8 ?_;have a5:=Vp (p:=T[i].BY) (n:=T[i].td.Y) b6;constructor
  .intro hq;simp only[dz,fk]at hq;obtain⟨⟨⟨k1,k2⟩,k3⟩,k4⟩:=hq;exact⟨h1,h2,⟨k1,k2⟩,k3,a5.1 k4⟩
  .rintro⟨_,_,⟨k1,k2⟩,k3,k4⟩;rw[fy k1,fy k2,k3,a5.2 k4];rfl
def Zca{a b:Κ}{T:Nat->Prop}(hs:No uo w S s a)(ht:No uo w T t b)(hR:∀w',AI w w'->R (decide (a=b)) w'):MJ s t w R:=by
 unfold MJ;have hl:=hs.len;have a9:=ht.len;refine⟨λh=>?_,λh=>?_⟩
 .have:decide (a=b)=false:=fq λe=>h (by rw[hl,a9,e]);rw[<-this];exact hR _ xR
 have a4:a.length=b.length:=by have:=jx.1 h;omega
 refine Of.up hs.max (λi w'=>AI w w'/\a.take i=b.take i) ⟨AI.refl _,rfl⟩ λi w1 b4 hi ⟨x1,hI⟩ hn=>⟨λb0=>sf.drew λw2 x2=>?_,λb2=>?_⟩
 .have h1:i<a.length:=oM;have h2:i<b.length:=oM;obtain⟨ad,ha,_,hc⟩:=Fb hs h1;obtain⟨a5,a6,_,a7⟩:=Fb ht h2;have a0:=x1.Z x2;refine⟨ad,⟨ha,oM,b0⟩,_,_,_,_,_,_,hc _ a0,a5,⟨a6,oM,oM⟩,_,_,_,_,_,_,a7 _ a0,?_⟩;rw[Xh];refine⟨λh=>?_,λh=>hn h1 _ ⟨a0,(Sz h1 h2 hI).2 (by simpa using h)⟩⟩;have:decide (a=b)=false:=fq (Rn h1 h2 (by simpa using h));rw[<-this];exact hR _ a0
 .have a8:i=a.length:=oM;rw[a8,eh,a4,eh]at hI;have:decide (a=b)=true:=fy hI;rw[<-this];exact hR _ x1
def Zai{x y:um}:decide (x=y)=(Ag x.Y y.Y&&decide (x.range=y.range)):=by obtain⟨n,l⟩:=x;obtain⟨m,k⟩:=y;rw[gp];simp only[fk,um.mk.injEq,dz,AG]
def Zbv:Bm prog 287:=enters_of func287 kR rfl
def Zgy{x y:um}{T:Nat->Prop}(hs:No uo w S s x.range)(ht:No uo w T t y.range)(hR:∀w',AI w w'->R (decide (x=y)) w'):Mc x.Y s y.Y t w R:=by
 unfold Mc;rw[Zai]at hR;refine An.intro λa w1 x1 a5 _ _=>An.intro λa1 w2 x2 a6 _ _=>⟨_,a5.at0 x2 rfl,_,a6.at0 xR rfl,IN ⟨s,λ_=>a5.at1 (k:=1) (r:=[]) x2 rfl,t,λ_=>a6.at1 (k:=1) (r:=[]) xR rfl,?_⟩⟩;have a4:=x1.Z x2;refine IS.intro (decide (x.range=y.range)) (λ_ q hq=>MJ.V (Zca (hs.U a4) (ht.U a4) λw' hx=>⟨_,rfl,hq _ hx⟩)) λa7 w3 x3 a0=>?_;have h3:=hR w3 (a4.Z x3);cases hg:Ag x.Y y.Y with
 |false=>rw[hg]at h3;exact h3
 |true=>rw[hg]at h3 a0;rwa [a0 rfl]
def Rv{a b:Θ}{T:Nat->Prop}(hs:No ru w S s a)(ht:No ru w T t b)(hR:∀w',AI w w'->R (decide (a=b)) w'):Hv s t w R:=by
 refine Pi.V ?_;unfold Pi;have h1:=hs.len;have h2:=ht.len;have hf: ¬a=b->∀w',AI w w'->R false w':=λb4 w' hx=>by have h3:=hR w' hx;rw[fq b4]at h3;exact h3
 refine⟨λh=>⟨_,rfl,hf (λe=>by subst e;omega) w xR⟩,λh=>?_⟩;have b7:a.length=b.length:=by have:=jx.1 h;omega
 refine Of.up hs.max (λi w'=>AI w w'/\a.take i=b.take i) ⟨AI.refl _,rfl⟩ λi w1 b8 hi ⟨x1,hI⟩ hn=>⟨λb2=>?_,λb6=>?_⟩
 .have k1:i<a.length:=oM;have k2:i<b.length:=oM;obtain⟨ad,u,ha,_,_,hr,hc⟩:=BF hs k1;obtain⟨a6,u2,a7,_,_,b5,b0⟩:=BF ht k2;refine⟨ad,⟨ha,oM,b2⟩,_,u,hc _ x1,An.set rfl λa4 w2 x2 a8 _=>⟨a6,⟨a7,oM,oM⟩,_,u2,b0 _ (x1.Z x2),An.set rfl λa5 w3 x3 a9 _=>?_⟩⟩;have a0:=x1.Z (x2.Z x3);refine⟨_,u,(a8.U x3).sh.pre (r:=[]) rfl,_,u2,a9.sh.pre (r:=[]) rfl,_,_,rfl,Zbv,Mc.V (Zgy (hr.U a0) (b5.U a0) λw4 x4=>⟨_,rfl,λhq=>?_,λhq=>?_⟩)⟩
  .refine⟨_,rfl,hf (λhh=>?_) w4 (a0.Z x4)⟩;have:a[i]=b[i]:=(by subst hh;rfl);rw[fy this]at hq;cases hq
  .exact hn k1 w4 ⟨a0.Z x4,XI k1 k2 hI (by simpa using hq)⟩
 .have:i=a.length:=oM;subst this;rw[eh,ia oM]at hI;have h3:=hR w1 x1;rw[fy hI]at h3;exact⟨_,rfl,h3⟩
def Zgz{x y:su}:decide (x=y)=(Ag x.Y y.Y&&decide (x.v=y.v)&&decide (x.ss=y.ss)&&decide (x.ta=y.ta)&&decide (x.uq=y.uq)):=by obtain⟨n,v,d,e,o⟩:=x;obtain⟨n',v',d',e',o'⟩:=y;rw[gp];simp only[fk,su.mk.injEq,dz,AG];exact⟨λ⟨a,b,c,d,e⟩=>⟨⟨⟨⟨a,b⟩,c⟩,d⟩,e⟩,λ⟨⟨⟨⟨a,b⟩,c⟩,d⟩,e⟩=>⟨a,b,c,d,e⟩⟩
def LZ{p q:su}{e d' e' o':Sl}{T:Nat->Prop}(hd:No ru w S d p.ss)(he:No ru w S e p.ta)(ho:No ru w S o p.uq)(b0:No ru w T d' q.ss)(b2:No ru w T e' q.ta)(b4:No ru w T o' q.uq)
  (hR:∀w',AI w w'->R (decide (p=q)) w'):FB p.Y p.v.ma p.v.mi p.v.pa d e o q.Y q.v.ma q.v.mi q.v.pa d' e' o' w R:=by
 unfold FB;rw[Zgz]at hR;refine An.intro λa w1 x1 hb _ _=>An.intro λa1 w2 x2 a4 _ _=>⟨_,hb.at0 x2 rfl,_,a4.at0 xR rfl,IN ⟨_,_,_,λ_=>hb.at1 (k:=1) x2 rfl,_,_,_,λ_=>a4.at1 (k:=1) xR rfl,IN ⟨d,λ_=>hb.at1 (k:=4) x2 rfl,d',λ_=>a4.at1 (k:=4) xR rfl,?_⟩⟩⟩;have a7:=x1.Z x2;have ev:((p.v.ma==q.v.ma)&&((p.v.mi==q.v.mi)&&((p.v.pa==q.v.pa)&&true)))=decide (p.v=q.v):=Nk;rw[ev];refine IS.intro (decide (p.ss=q.ss)) (λ_ k hk=>Hv.V (Rv (hd.U a7) (b0.U a7) λw' hx=>⟨_,rfl,hk _ hx⟩)) λt3 w3 x3 a6=>IN ⟨e,λ_=>hb.at1 (k:=5) (x2.Z x3) rfl,e',λ_=>a4.at1 (k:=5) x3 rfl,?_⟩;have a8:=a7.Z x3;refine IS.intro (decide (p.ta=q.ta)) (λ_ k hk=>Hv.V (Rv (he.U a8) (b2.U a8) λw' hx=>⟨_,rfl,hk _ hx⟩)) λt4 w4 x4 a5=>IN ⟨o,λ_=>hb.at1 (k:=6) (r:=[]) (x2.Z (x3.Z x4)) rfl,o',λ_=>a4.at1 (k:=6) (r:=[]) (x3.Z x4) rfl,?_⟩;have a9:=a8.Z x4;refine IS.intro (decide (p.uq=q.uq)) (λ_ k hk=>Hv.V (Rv (ho.U a9) (b4.U a9) λw' hx=>⟨_,rfl,hk _ hx⟩)) λt5 w5 x5 a0=>?_;have h5:=hR w5 (a9.Z x5);cases hg:(Ag p.Y q.Y&&decide (p.v=q.v))with
 |false=>rw[hg]at h5;exact h5
 |true=>
  rw[hg]at h5 a6 a5 a0;have a6:=a6 rfl;subst a6;cases h1:decide (p.ss=q.ss)with
  |false=>rw[h1]at h5;exact h5
  |true=>
   rw[h1]at h5 a5 a0;have a5:=a5 rfl;subst a5;cases h2:decide (p.ta=q.ta)with
   |false=>rw[h2]at h5;exact h5
   |true=>rw[h2]at h5 a0;have a0:=a0 rfl;subst a0;exact h5
open Classical in
noncomputable def Ga (T:Ε):Int:=if vj T then 0 else 42
def NS{T:Ε}(h:vj T):Ga T=0:=by unfold Ga;rw[fl h]
def Qi{T:Ε}(h: ¬vj T):Ga T=42:=by unfold Ga;rw[fa h]
def Kj{T:Ε}:Ga T=0↔vj T:=by
 constructor
 .intro h;exact iy λhn=>by rw[Qi hn]at h;cases h
 .exact NS
def Uq{d:uf}:(d.BY=[]/\d.td=Ay/\d.py=0)↔d=⟨[],Ay,0⟩:=by obtain⟨p,k,n⟩:=d;simp only[uf.mk.injEq]
def XM{T:Ε}{R:È}(ht:Þ w)(hs:No ve w S s T)(hb:∀d∈T,d.BY.length<=4000000000000)(hR:∀w',AI w w'->R (Ga T) w'):JF s w R:=by
 unfold JF;have c5:=hs.len;have a9:∀w',AI w w'-> ¬vj T->R 42 w':=λw' hx h=>by have:=hR w' hx;rwa [Qi h]at this
 refine An.intro λa w1 x1 a8 _ _=>⟨s,a8.sh.pre (r:=[]) rfl,IN ⟨s,λ_=>a8.sh.pre (r:=[]) rfl,λhc=>a9 w1 x1 λhF=>?_,λhc=>?_⟩⟩
 .have:=hF.len;rw[fq oM,fq oM]at hc;cases hc
 simp only[gd,gk]at hc;obtain⟨b9,c3⟩:=hc;refine⟨s,a8.sh.pre (r:=[]) rfl,?_⟩;refine Of.up hs.max (λi w'=>AI w1 w'/\∀j (hj:j<T.length),j<i->(if j=0 then T[j]=⟨[],Ay,0⟩else Ö T j T[j])) ⟨AI.refl _,λj _ h=>by omega⟩ λi w2 c7 hi ⟨x2,hI⟩ hn=>⟨λb8=>?_,λc4=>?_⟩
 .have a0:i<T.length:=oM;have b5:=x1.Z x2;obtain⟨ad,ps,dd,ee,oo,ha,_,c6,hp,hd,he,ho,hc⟩:=vg hs a0;have b4:=hp.len;refine⟨ad,⟨ha,oM,b8⟩,_,_,_,_,_,_,_,_,_,hc _ b5,An.set rfl λa5 w3 x3 b0 _=>join.named λJ hJ=>?_⟩;have a7:=b5.Z x3;have a4:∀(b:Bool) w',AI w1 w'->(b=true↔(if i=0 then T[i]=⟨[],Ay,0⟩else Ö T i T[i]))->J b w':=by
   subst hJ;intro b w' hx hq;refine⟨λh=>a9 w' (x1.Z hx) λhF=>?_,λh=>hn a0 w' ⟨hx,λj hj b7=>?_⟩⟩
   .have:b=true:=hq.2 (by
     split
     .rename_i h0;subst h0;have:=hF.root;rw[dt a0]at this;exact jv this
     .rename_i h0;exact hF.sy i _ (dt a0) h0)
    rw[this]at h;cases h
   .obtain h'|h':=im.1 b7
    .exact hI j hj h'
    .subst h';exact hq.1 (by simpa using h)
  clear hJ hn;refine⟨λh0=>?_,λh0=>?_⟩
  .have b2:i=0:=oM;rw[fl b2]at a4;rw[<-Uq]at a4;generalize T[i]=d at*;refine⟨ps,b0.at0 xR rfl,IN ⟨_,_,_,_,dd,ee,oo,λ_=>b0.at1 (k:=1) xR rfl,?_⟩⟩;refine IS.intro (decide (d.td=Ay)) (λ_ q hq=>FB.V (LZ (p:=d.td) (q:=Ay) (T:=se) (hd.U a7) (he.U a7) (ho.U a7) (No.nil trivial) (No.nil trivial) (No.nil trivial) λw4 x4=>⟨_,rfl,hq w4 x4⟩)) λc8 w4 x4 a6=>IN ⟨d.py,λ_=>b0.at1 (k:=8) (r:=[]) x4 rfl,a4 _ w4 (x2.Z (x3.Z x4)) ?_⟩;have e1:(((ps.len:Nat):Int)==0)=true↔d.BY=[]:=by
    rw[jq];constructor
    .intro h;exact fo oM
    .intro h;rw[h]at b4;simp at b4;omega
   constructor
   .intro hq;simp only[dz]at hq;obtain⟨⟨k1,k2⟩,k3⟩:=hq;rw[a6 k1]at k2;exact⟨e1.1 k1,jg k2,by simpa using k3⟩
   .rintro⟨k1,k2,k3⟩;rw[e1.2 k1]at a6 ⊢;rw[a6 rfl,fy k2,k3];rfl
  .have b2:i≠0:=oM;rw[fa b2]at a4;refine⟨s,a8.at0 (r:=[]) (x2.Z x3) rfl,Nh.V (Zly (ht.U a7) (hs.U a7) a0 hb λb w4 x4 hq=>⟨b,rfl,a4 b w4 (x2.Z (x3.Z x4)) hq⟩)⟩
 .have h:=hR w2 (x1.Z x2);rw[NS ⟨⟨oM,oM⟩,?_,λi d hd h0=>?_⟩]at h
  .exact h
  .have:=hI 0 oM oM;rw[fl rfl]at this;rw[dt oM,this]
  .obtain⟨b6,rfl⟩:=fh.1 hd;have:=hI i b6 oM;rwa [fa h0]at this
def Zib{T:Ε}{R:È}(hs:No ve w S s T)(hR:∀w',AI w w'->R (Ga T) w'):Lc s w R:=by
 unfold Lc;have c4:=hs.len;have a4:∀w',AI w w'-> ¬vj T->R 42 w':=λw' hx h=>by have:=hR w' hx;rwa [Qi h]at this
 refine An.intro λa w1 x1 a0 _ _=>⟨s,a0.sh.pre (r:=[]) rfl,IN ⟨s,λ_=>a0.sh.pre (r:=[]) rfl,λhc=>a4 w1 x1 λhF=>?_,λhc=>?_⟩⟩
 .have:=hF.len;rw[fq oM,fq oM]at hc;cases hc
 simp only[gd,gk]at hc;obtain⟨b7,b8⟩:=hc;have h0:0<T.length:=oM;obtain⟨ad,ps,dd,ee,oo,ha,_,c5,hp,hd,he,ho,hc⟩:=vg hs h0;have a8:=hp.len;refine⟨s,a0.sh.pre (r:=[]) rfl,ad,⟨ha,oM,oM⟩,_,_,_,_,dd,ee,oo,(hc _ x1).I (k:=1) rfl,?_⟩;refine I9.V (W6 (p:=T[0].td) (q:=Ay) (hd.U x1) (he.U x1) (ho.U x1) (No.nil trivial) (No.nil trivial) (No.nil trivial) λw2 x2=>⟨_,rfl,s,a0.at0 (r:=[]) x2 rfl,ad,⟨ha,oM,oM⟩,ps,(hc _ (x1.Z x2)).pre rfl,IN (IN ⟨s,λ_=>a0.at0 (r:=[]) x2 rfl,ad,λ_=>⟨ha,oM,oM⟩,T[0].py,λ_=>(hc _ (x1.Z x2)).I (k:=8) (r:=[]) rfl,?_⟩)⟩);have a7:=x1.Z x2;have e1:(((ps.len:Nat):Int)==0)=decide (T[0].BY=[]):=by
  rw[gp,jq,fk];constructor
  .intro h;exact fo oM
  .intro h;rw[h]at a8;simp at a8;omega
 rw[e1];have a6:((!decide (T[0].BY=[])|| !decide (T[0].td=Ay))|| !(T[0].py==0))=false↔T[0]=⟨[],Ay,0⟩:=by rw[<-Uq];simp only[gd,nr,fk,jq,and_assoc]
 refine⟨λhq=>a4 w2 a7 λhF=>?_,λhq=>?_⟩
 .have:=hF.root;rw[dt h0]at this;rw[a6.2 (jv this)]at hq;cases hq
 have b6:=a6.1 hq;refine Of.Xa7 hs.max (λi w'=>AI w2 w'/\∀j (hj:j<T.length),j≠0->j<i->Ö T j T[j]) ⟨AI.refl _,λj _ h h'=>by omega⟩ λi w3 c6 h1 hi ⟨x3,hI⟩ hn=>⟨s,a0.at0 (r:=[]) (x2.Z x3) rfl,λc3=>?_,λb9=>?_⟩
 .have a5:i<T.length:=oM;have a9:=a7.Z x3;refine⟨s,a0.at0 (r:=[]) (x2.Z x3) rfl,Lg.V (Zie (hs.U a9) a5 λb w4 x4 hq=>⟨b,rfl,λh=>a4 w4 (a9.Z x4) λhF=>?_,λh=>hn a5 w4 ⟨x3.Z x4,λj hj b4 b5=>?_⟩⟩)⟩
  .rw[hq.2 (hF.sy i _ (dt a5) oM)]at h;cases h
  .obtain h'|h':=im.1 b5
   .exact hI j hj b4 h'
   .subst h';exact hq.1 (by simpa using h)
 .have h:=hR w3 (a7.Z x3);rw[NS ⟨⟨oM,oM⟩,by rw[dt h0,b6],λi d hd b0=>?_⟩]at h
  .exact h
  .obtain⟨b2,rfl⟩:=fh.1 hd;exact hI i b2 b0 oM
def Zfx{k:vz}{e v d' e' o' v':Sl}{T:Nat->Prop}(hd:No ru w S d m.ss)(he:No ru w S e m.uw)(ho:No ru w S o m.uq)(hv:No ru w S v m.sd)(a7:No ru w T d' k.ss)(a8:No ru w T e' k.uw)(a9:No ru w T o' k.uq)(b0:No ru w T v' k.sd)
  (hR:∀w',AI w w'->R (decide (m=k)) w'):LF d e o v d' e' o' v' w R:=by
 unfold LF;have eq:decide (m=k)=(decide ((⟨⟨#[]⟩,⟨0,0,0⟩,m.ss,m.uw,m.uq⟩:su)=⟨⟨#[]⟩,⟨0,0,0⟩,k.ss,k.uw,k.uq⟩)&&decide ((⟨⟨#[]⟩,⟨0,0,0⟩,m.sd,[],[]⟩:su)=⟨⟨#[]⟩,⟨0,0,0⟩,k.sd,[],[]⟩)):=by obtain⟨a,b,c,d⟩:=m;obtain⟨a',b',c',d'⟩:=k;rw[gp];simp only[fk,vz.mk.injEq,su.mk.injEq,dz,true_and,and_true];exact⟨λ⟨a,b,c,d⟩=>⟨⟨a,b,c⟩,d⟩,λ⟨⟨a,b,c⟩,d⟩=>⟨a,b,c,d⟩⟩
 rw[eq]at hR;refine An.intro λa w1 x1 hb _ _=>An.intro λa1 w2 x2 a4 _ _=>⟨d,hb.at0 x2 rfl,e,hb.at1 (k:=1) x2 rfl,o,hb.at1 (k:=2) x2 rfl,d',a4.at0 xR rfl,e',a4.at1 (k:=1) xR rfl,o',a4.at1 (k:=2) xR rfl,?_⟩;have a0:=x1.Z x2;refine FB.V (LZ (p:=⟨⟨#[]⟩,⟨0,0,0⟩,m.ss,m.uw,m.uq⟩) (q:=⟨⟨#[]⟩,⟨0,0,0⟩,k.ss,k.uw,k.uq⟩) (hd.U a0) (he.U a0) (ho.U a0) (a7.U a0) (a8.U a0) (a9.U a0) λw3 x3=>⟨_,rfl,v,λ_=>hb.at1 (k:=3) (r:=[]) (x2.Z x3) rfl,v',λ_=>a4.at1 (k:=3) (r:=[]) x3 rfl,?_⟩);have a5:=a0.Z x3;refine IS.intro (decide ((⟨⟨#[]⟩,⟨0,0,0⟩,m.sd,[],[]⟩:su)=⟨⟨#[]⟩,⟨0,0,0⟩,k.sd,[],[]⟩)) (λ_ q hq=>FB.V (LZ (p:=⟨⟨#[]⟩,⟨0,0,0⟩,m.sd,[],[]⟩) (q:=⟨⟨#[]⟩,⟨0,0,0⟩,k.sd,[],[]⟩) (S:=S) (T:=T) (hv.U a5) (No.nil trivial) (No.nil trivial) (b0.U a5) (No.nil trivial) (No.nil trivial) λw4 x4=>⟨_,rfl,hq w4 x4⟩)) λb2 w4 x4 a6=>?_;have h4:=hR w4 (a5.Z x4);revert a6 h4;cases decide ((⟨⟨#[]⟩,⟨0,0,0⟩,m.ss,m.uw,m.uq⟩:su)=⟨⟨#[]⟩,⟨0,0,0⟩,k.ss,k.uw,k.uq⟩)with
 |false=>exact λ_ h=>h
 |true=>exact λh1 h2=>by rwa [h1 rfl]
def Zd6:(prog.info? 9).map (λi=>(i.zero,i.size,i.bytes))=some (some (.string ⟨#[]⟩),1,16):=kR
def Zfs{R:Sl->Wp}(hn:n<=9000000000000)(hR:∀t w',AI w w'->OF vr 9 w' w.heap.size se t []->R t w'):
  xe prog (Instr.makeSlice 57 (vi 0) (vi (n:Int))) w λv w'=>∃t:Sl,v=t.v/\R t w':=by
 obtain⟨i,h2,hi⟩:=kx.1 Zd6;simp only[Prod.mk.injEq]at hi;obtain⟨h3,h5,h6⟩:=hi;refine⟨_,_,run_make w 57 9 i (.string ⟨#[]⟩) underlying57 h2 h3 .i64 .i64 0 n (ny _) oM (by rw[h6];omega) oM,⟨some ⟨w.heap.size,0,none⟩,0,n⟩,by simp[Sl.v],hR _ _ (AI.alloc _ _) ?_⟩;refine⟨⟨[],⟨by simp,.inr ⟨w.heap.size,n,_,rfl,fx _,heap_alloc_new w _,ib _,by rw[Ao];omega,?_,by simp⟩⟩,rfl,λi x h=>by simp at h⟩,rfl,λ_ h=>h.F,λ_ _ h=>h.F⟩;rw[h5];simp[madeCells,vr,DL]
def Vk{t0:Sl}{x:Pr}{R:Sl->Wp}(o:OF vr 9 w w0.heap.size se t0 [])(x0:AI w0 w)(hS:Old S w0)(hs:No vr w0 S s p)(hx:Ad x)(hb:p.length<=4000000000000)
  (hR:∀t w',AI w0 w'->OF vr 9 w' w0.heap.size se t (p++[x])->R t w'):
  uc prog 57 57 t0 s.v w λa7 a8=>An a8 [(.string x)] 9 λa a9=>uc prog 57 57 a7 (Sl.v (Sl.mk (some a) 1 1)) a9 R:=by
 have a4:vr.bytes=16:=rfl;have fresh:∀ad,t0.a=some ad-> ¬S ad.block:=λad h a5=>by have:=(o.block h).1;have:=hS _ a5;omega
 refine o.yx GQ x0.size (hs.U x0) (hS.U x0.size) fresh (by rw[a4];simp;unfold Ab;omega) (by rw[Ao];simp;omega) λr1 w1 o1 a0 _ _=>?_;rw[ip]at o1;have x1:AI w0 w1:=x0.W a0;refine An.intro λa w2 x2 a6 _ _=>?_;exact((OF.flat (λh=>h) o1).U x2).é (x1.Z x2) GQ (x:=x) ⟨rfl,hx⟩ (a6.sh.pre (r:=[]) rfl) dC (by rw[a4];unfold Ab;omega) λr w3 o3 x3=>hR r w3 x3 o3
def Zm4{x:Pr}{R:Sl->Wp}(hS:Old S w)(hs:No vr w S s p)(hx:Ad x)(hb:p.length<=4000000000000)(hR:∀t w',AI w w'->OF vr 9 w' w.heap.size se t (p++[x])->R t w'):Nq s x w R:=by
 unfold Nq;have hl:=hs.len;have e:Aa ((s.len:Int)+1)=((p.length+1:Nat):Int):=by rw[Ai oM oM];omega
 rw[e];exact Zfs oM λt w1 x1 o1=>Vk o1 x1 hS hs hx hb hR
def Zih{x:Pr}{R:Sl->Wp}(hS:Old S w)(hs:No vr w S s p)(hx:Ad x)(hb:p.length<=4000000000000)(hR:∀t w',AI w w'->OF vr 9 w' w.heap.size se t (p++[x])->R t w'):Lk s x w R:=by unfold Lk;exact Vk (OF.zero w) xR hS hs hx hb hR
def OF.strs{T:LN}{l:List Pr}(h:OF vr T w lo se s l)(hl:l.length<=5000000000000):No vr w (λb=>lo<=b) s l:=h.ê dC (by show l.length*16<=Ab;unfold Ab;omega)
def F7(T:Ε)(i:Nat)(x:Pr):Int:=match Ej T i x with
 |some j=>(j:Int)
 |none=>-1
def Ce(o:Β):Int:=match o with
 |some j=>(j:Int)
 |none=>-1
def LM{o:Β}:0<=Ce o↔∃j,o=some j:=by
 cases o with
 |none=>exact⟨λh=>by have h:(0:Int)<= -1:=h;omega,λ⟨j,h⟩=>by cases h⟩
 |some j=>exact⟨λ_=>⟨j,rfl⟩,λ_=>by show(0:Int)<=(j:Int);omega⟩
def KB(T:Ε)(p:As):B2 T p=Ce (A0 (T.map AH) p):=rfl
def Zg6{T:Ε}(h:i<T.length):Af (T.map AH) i=T[i].BY:=by unfold Af;rw[gu,dt h];rfl
def Zfi{x:Pr}{k:Nat}(h:A0 ds (p.take k++[x])=some i):AK ds p x k=some i:=by
 cases k with
 |zero=>rwa [AK]
 |succ k=>rw[AK,h]
def Zfj{x:Pr}{k:Nat}(h:A0 ds (p.take (k+1)++[x])=none):AK ds p x (k+1)=AK ds p x k:=by rw[AK,h]
def Zfh{x:Pr}(h:A0 ds (p.take 0++[x])=none):AK ds p x 0=none:=by rwa [AK]
def V1{ps:Sl}{T:Ε}{x:Pr}{jn fd:Nat}{R:È}(hS:Old S w0)(hs:No ve w0 S s T)(hp:No vr w0 S ps p)(hx:Ad x)(hb:p.length<=4000000000000)(x0:AI w0 w)(ha:AT w a [s.v])
  (hj:∀{t:Sl} {q:As} {w':PU} {k:Ë},AI w0 w'->No vr w' S t q->q.length<=4000000000000->(∀r a4,AI w' a4->OF vr 9 a4 w'.heap.size se r (q++[x])->k (Sl.v r) a4)->sx prog jn [t.v,.string x] w' k)
  (hf:∀{t:Sl} {q:As} {Q:Nat->Prop} {w':PU} {k:Ë},AI w0 w'->No vr w' Q t q->(∀a4,AI w' a4->k (vi (B2 T q)) a4)->sx prog fd [.agg #[s.v],t.v] w' k)
  (hR:∀w',AI w0 w'->R (Ce (AK (T.map AH) p x p.length)) w'):
  Of (ps.len:Int) w λvk b4 b0=>((0<=vk->sf b4.drew λ(b5:PU)=>∃(a0:Sl),(sh b5 a [a0.v])/\((0:Int)<=vk/\vk<=(ps.cap:Int))/\tf prog jn [(Sl.v (Sl.cut ps 0 vk.toNat 1)),(.string x)] b5 λb8 c3=>∃(b2:Sl),b8=b2.v/\sx prog fd [(.agg #[a0.v]),b2.v] c3 λb9 a9=>∃(a6:Int),b9=(vi a6)/\((0<=a6->R a6 a9)/\(¬(0<=a6)->b0 (Aa (vk - 1)) a9)))/\(¬(0<=vk)->R (-1) b4)):=by
 have c7:=hp.len;have c4:p.length<=ps.cap:=hp.2.1;refine Of.zj (λm i w'=>i=(m:Int) - 1/\m<=p.length+1/\AI w w'/\(match m with
  |0=>AK (T.map AH) p x p.length=none
  |k+1=>AK (T.map AH) p x p.length=AK (T.map AH) p x k)) (p.length+1) ⟨oM,fx _,AI.refl _,rfl⟩ λm i w5 b0 ⟨hi,hm,x5,hI⟩ hn=>⟨λc5=>sf.drew λw6 x6=>?_,λc6=>?_⟩
 .obtain⟨k,rfl⟩:∃k,m=k+1:=⟨m - 1,oM⟩;have b6:i=(k:Int):=oM;subst b6;have a7:=x0.Z (x5.Z x6);have hI:AK (T.map AH) p x p.length=AK (T.map AH) p x k:=hI;refine⟨s,(ha.U (x5.Z x6)).sh.pre (r:=[]) rfl,⟨oM,oM⟩,?_⟩;rw[dx];have a8:=(hp.U a7).cut (a:=0) (b:=k) (ib _) oM;rw[ju]at a8;refine tf.intro (hj a7 a8 (by rw[fg];omega) λr w7 x7 o7=>⟨x7,r,rfl,hf (a7.Z x7) (o7.strs (by rw[du,fg,gq];omega)) λw8 x8=>⟨_,rfl,λhq=>?_,λhq=>?_⟩⟩)
  .rw[KB]at hq ⊢;obtain⟨j,hj⟩:=LM.1 hq;have h:=hR w8 (a7.Z (x7.Z x8));rw[hI,Zfi hj]at h;rwa [hj]
  .have a5:A0 (T.map AH) (p.take k++[x])=none:=by
    rw[KB]at hq;cases hd:A0 (T.map AH) (p.take k++[x])with
    |none=>rfl
    |some j=>exact fm (LM.2 ⟨j,hd⟩) hq
   refine hn k _ w8 oM ⟨?_,oM,x5.Z (x6.Z (x7.Z x8)),?_⟩
   .rw[Ai oM oM]
   .cases k with
    |zero=>exact hI.Z (Zfh a5)
    |succ k=>exact hI.Z (Zfj a5)
 .have b7:m=0:=oM;subst b7;have hI:AK (T.map AH) p x p.length=none:=hI;have h:=hR w5 (x0.Z x5);rw[hI]at h;exact h
def Re{T:Ε}{x:Pr}(h:i<T.length):F7 T i x=if Ae x then Ce (AK (T.map AH) T[i].BY x T[i].BY.length)else -1:=by unfold F7 Ej;rw[Zg6 h];cases Ae x<;>rfl
def OB{T:Ε}{x:Pr}{R:È}(hS:Old S w)(hs:No ve w S s T)(hi:i<T.length)(hx:Ad x)(hb:∀d∈T,d.BY.length<=4000000000000)(hR:∀w',AI w w'->R (F7 T i x) w'):G9 s (i:Int) x w R:=by
 unfold G9;have a7:=hs.len;rw[Re hi]at hR;obtain⟨ad,ps,dd,ee,oo,ha,_,_,hp,_,_,_,hc⟩:=vg hs hi;have hb:=hb _ (fe hi);refine An.intro λa w1 x1 a4 _ _=>IN ⟨s,λ_=>a4.sh.pre (r:=[]) rfl,IN ?_⟩;have e:(decide ((i:Int)<0)||decide ((s.len:Int)<=(i:Int)))=false:=by rw[fq oM,fq oM];rfl
 rw[e];refine IS.intro (Ae x) (λ_ q hq=>CI.V (ux hx λw2 x2=>⟨_,rfl,hq w2 x2⟩)) λt21 w2 x2 ht=>?_;have ht:=ht rfl;subst ht;have a6:=x1.Z x2;refine⟨λhq=>?_,λhq=>?_⟩
 .have hn:Ae x=false:=by simpa using hq
  rw[hn]at hR;exact hR w2 a6
 .have hn:Ae x=true:=by simpa using hq
  rw[hn]at hR;refine⟨s,a4.at0 (r:=[]) x2 rfl,ad,⟨ha,oM,oM⟩,ps,(hc _ a6).pre rfl,?_⟩;exact V1 hS hs hp hx hb a6 (a4.U x2) (λx' ht hq hk=>Nq.V (Zm4 (hS.U x'.size) ht hx hq λr a5 a0 o=>hk r a5 a0 o)) (λx' ht hk=>Fh.V (JE (hs.U x') ht λa5 a0=>hk a5 a0)) λw' a0=>hR w' a0
def Zif{T:Ε}{x:Pr}{R:È}(hS:Old S w)(hs:No ve w S s T)(hi:i<T.length)(hx:Ad x)(hb:∀d∈T,d.BY.length<=4000000000000)(hR:∀w',AI w w'->R (F7 T i x) w'):Lh s (i:Int) x w R:=by
 unfold Lh;have a7:=hs.len;rw[Re hi]at hR;obtain⟨ad,ps,dd,ee,oo,ha,_,_,hp,_,_,_,hc⟩:=vg hs hi;have hb:=hb _ (fe hi);refine An.intro λa w1 x1 a4 _ _=>Ee.V (yk hx λw2 x2=>⟨_,rfl,IN ⟨s,λ_=>a4.at0 (r:=[]) x2 rfl,IN ?_⟩⟩);have e:(decide ((i:Int)<0)||decide ((s.len:Int)<=(i:Int)))=false:=by rw[fq oM,fq oM];rfl
 rw[e];have a6:=x1.Z x2;refine⟨λhq=>?_,λhq=>?_⟩
 .have hn:Ae x=false:=by simpa using hq
  rw[hn]at hR;exact hR w2 a6
 .have hn:Ae x=true:=by simpa using hq
  rw[hn]at hR;refine⟨s,a4.at0 (r:=[]) x2 rfl,ad,⟨ha,oM,oM⟩,ps,(hc _ a6).pre rfl,?_⟩;exact V1 hS hs hp hx hb a6 (a4.U x2) (λx' ht hq hk=>Lk.V (Zih (hS.U x'.size) ht hx hq λr a5 a0 o=>hk r a5 a0 o)) (λx' ht hk=>Hk.V (RA (hs.U x') ht λa5 a0=>hk a5 a0)) λw' a0=>hR w' a0
def W9{e v:Sl}{R:Í}(hm:Dm m=true)(hd:No ru w S d m.ss)(he:No ru w S e m.uw)(ho:No ru w S o m.uq)(hv:No ru w S v m.sd)
  (hR:∀w',AI w w'->R (B (CZ m)) w'):IF d e o v w R:=by
 unfold IF;unfold Dm at hm;simp only[dz]at hm;obtain⟨⟨⟨h1,h2⟩,h3⟩,h4⟩:=hm;have n1:=B5 h1;have n2:=B5 h2;have n3:=B5 h3;have n4:=B5 h4;have l1:=CM (vv:=yd) dC λd hd=>(n1.2 d hd).1;have l2:=CM (vv:=ĭ) dC λd hd=>(n2.2 d hd).1;have l3:=CM (vv:=yv) dC λd hd=>(n3.2 d hd).1;have l4:=CM (vv:=ħ) dC λd hd=>(n4.2 d hd).1;refine An.intro λa w1 x1 hb _ _=>sf.drew λw2 x2=>?_;refine⟨d,hb.at0 xT rfl,e,hb.at1 xT rfl,o,hb.at1 xT rfl,v,hb.at1 xT rfl,tf.intro (Eg.V (vv:=B yd) (H1 dC h1 (hd.U xT) λw3 x3=>⟨x3,_,rfl,?_⟩))⟩;simp only[CB];refine⟨by rw[A6,Ac,Al];simp;omega,tf.intro (Eg.V (vv:=B ĭ) (H1 dC h2 (he.U xT) λw4 x4=>⟨x4,_,rfl,?_⟩))⟩;simp only[A9];refine⟨by rw[Ac,Ac,Al];simp;omega,tf.intro (Eg.V (vv:=B yv) (H1 dC h3 (ho.U xT) λw5 x5=>⟨x5,_,rfl,?_⟩))⟩;simp only[A9];refine⟨by rw[Ac,Ac,Al];simp;omega,Eg.V (vv:=B ħ) (H1 dC h4 (hv.U xT) λw6 x6=>⟨_,rfl,?_⟩)⟩;simp only[A9];refine⟨by rw[Ac,Ac,Al];simp;omega,?_⟩;have:=hR w6 xT;simpa[CZ,Û]using this
def Zh1{e v:Sl}(hd:No ru w S d m.ss)(he:No ru w S e m.uw)(ho:No ru w S o m.uq)(hv:No ru w S v m.sd)
  (hR:∀w',AI w w'->R (AF m) w'):KR d e o v w R:=by
 refine An.intro λ_ w1 x1 hb _ _=>?_;refine⟨d,hb.at0 xT rfl,Eh.V (H2 (hd.U xT) λw2 x2=>⟨_,rfl,IN ?_⟩)⟩;refine⟨e,λ_=>hb.at1 xT rfl,IS.intro (Au m.uw) (λ_ q hq=>Eh.V (H2 (he.U xT) λw' hx=>⟨_,rfl,hq _ hx⟩)) λt2 w3 x3 a6=>IN ?_⟩;refine⟨o,λ_=>hb.at1 xT rfl,IS.intro (Au m.uq) (λ_ q hq=>Eh.V (H2 (ho.U xT) λw' hx=>⟨_,rfl,hq _ hx⟩)) λt3 w4 x4 a4=>IN ?_⟩;refine⟨v,λ_=>hb.at1 xT rfl,IS.intro (Au m.sd) (λ_ q hq=>Eh.V (H2 (hv.U xT) λw' hx=>⟨_,rfl,hq _ hx⟩)) λt4 w5 x5 a0=>?_⟩;have e1:((((!Au m.ss)||(!t2))||(!t3))||(!t4))= !Dm m:=by
  unfold Dm;cases h1:Au m.ss
  .simp
  rw[h1]at a6 a4 a0;rw[a6 rfl]at a4 a0 ⊢;cases h2:Au m.uw
  .simp
  rw[h2]at a4 a0;rw[a4 rfl]at a0 ⊢;cases h3:Au m.uq
  .simp
  rw[h3]at a0;rw[a0 rfl];simp
 rw[e1];refine⟨λh=>?_,λh=>?_⟩
 .have:AF m=false:=by
   unfold AF;have:Dm m=false:=by simpa using h
   rw[this];rfl
  rw[<-this];exact hR _ xT
 have hm:Dm m=true:=by simpa using h
 refine⟨d,hb.at0 xT rfl,e,hb.at1 xT rfl,EJ.V (Jk (hd.U xT) (he.U xT) λw6 x6=>⟨_,rfl,?_⟩)⟩;refine⟨d,λ_=>hb.at0 xT rfl,o,λ_=>hb.at1 xT rfl,IS.intro (Br m.ss m.uq) (λ_ q hq=>EJ.V (Jk (hd.U xT) (ho.U xT) λw' hx=>⟨_,rfl,hq _ hx⟩)) λt5 w7 x7 a7=>IN ?_⟩;refine⟨e,λ_=>hb.at1 xT rfl,o,λ_=>hb.at1 xT rfl,IS.intro (Br m.uw m.uq) (λ_ q hq=>EJ.V (Jk (he.U xT) (ho.U xT) λw' hx=>⟨_,rfl,hq _ hx⟩)) λt6 w8 x8 a5=>IN ?_⟩;have e2:((Br m.ss m.uw&&t5)&&t6)=Hq m:=by
  unfold Hq;cases h1:Br m.ss m.uw
  .rfl
  rw[h1]at a7 a5;rw[a7 rfl]at a5 ⊢;cases h2:Br m.ss m.uq
  .rfl
  rw[h2]at a5;rw[a5 rfl]
 rw[e2];refine⟨d,e,o,v,λ_=>hb.at0 (r:=[]) xT rfl,IS.intro (B (CZ m)) (λ_ q hq=>IF.V (W9 hm (hd.U xT) (he.U xT) (ho.U xT) (hv.U xT) λw' hx=>⟨_,rfl,hq _ hx⟩)) λt7 w9 x9 a8=>?_⟩;have e3:(Hq m&&decide ((t7.size:Int)<=4096))=AF m:=by
  unfold AF;rw[hm,ic];cases h1:Hq m
  .rfl
  rw[a8 h1,Ac,ic,ic,js];omega
 rw[e3];exact hR _ xT
def Ko(b:UInt8):Bool:=decide (48<=b.toNat)&&decide (b.toNat<=57)
def Ps(l:LU):Int:=l.foldl (λn b=>10*n+((b.toNat:Int) - 48)) 0
def Zmm(l:LU)(b:UInt8):Ps (l++[b])=10*Ps l+((b.toNat:Int) - 48):=by unfold Ps;rw[List.foldl_append];rfl
def NY{m:Nat}(h:m<10):(UInt8.ofNat (48+m)).toNat=48+m:=by rw[UInt8.toNat_ofNat'];omega
def Uk:∀(k:Nat){n:Int},0<=n->n.toNat=k->Ps (dec n)=n:=λk=>by
 induction k using Nat.strongRecOn with
 |ind k ih=>
  intro n h0 hk;by_cases h:n<10
  .rw[Iu h0 h];show 10*0+(((UInt8.ofNat (48+n.toNat)).toNat:Int) - 48)=n;rw[NY oM];omega
  .rw[Km oM,Zmm,ih (n/10).toNat oM oM rfl,NY oM];omega
def NV{n m:Int}(h0:0<=n)(h1:0<=m)(h:dec n=dec m):n=m:=by rw[<-Uk _ h0 rfl,<-Uk _ h1 rfl,h]
def Qw:∀(k:Nat){n:Int},0<=n->n.toNat=k->∀b∈dec n,Ko b=true:=λk=>by
 induction k using Nat.strongRecOn with
 |ind k ih=>
  intro n h0 hk b hb;by_cases h:n<10
  .rw[Iu h0 h,ep]at hb;subst hb;unfold Ko;rw[NY oM];simp;omega
  .rw[Km oM]at hb;obtain hb|hb:=fp.1 hb
   .exact ih (n/10).toNat oM oM rfl b hb
   .rw[ep]at hb;subst hb;unfold Ko;rw[NY oM];simp;omega
def Zad(n:Int):dec n≠[]:=by
 unfold dec;rw[Lib.decDigits];split
 .simp
 .simp
def Ha{n:Int}(h0:0<=n):(46:UInt8)∉dec n:=λh=>by have:=Qw _ h0 rfl 46 h;revert this;decide
def XG{c:UInt8}{a r:LU}(ha:c∉a)(hr:r=[]\/∃t,r=c::t):(a++r).takeWhile (λb=>b != c)=a:=by
 rw[ri (λb hb=>by simp;rintro rfl;exact ha hb)];rcases hr with rfl|⟨t,rfl⟩
 .simp
 .simp
def T4{c:UInt8}{a b r t:LU}(ha:c∉a)(hb:c∉b)(h:a++c::r=b++c::t):a=b/\r=t:=by have h2:=jt (List.takeWhile λb=>b != c) h;rw[XG ha (.inr ⟨_,rfl⟩),XG hb (.inr ⟨_,rfl⟩)]at h2;subst h2;exact⟨rfl,(List.cons.inj (List.append_cancel_left h)).2⟩
def Zmw{v u:tj}(hv:v.vt=true)(hu:u.vt=true)(h:AD v=AD u):v=u:=by unfold AD at h;rw[fl hv,fl hu]at h;have hv:=tj.vu.1 hv;have hu:=tj.vu.1 hu;simp only[ff,ig,ip]at h;obtain⟨h1,h⟩:=T4 (Ha hv.1.1) (Ha hu.1.1) h;obtain⟨h2,h3⟩:=T4 (Ha hv.2.1.1) (Ha hu.2.1.1) h;have e1:=NV hv.1.1 hu.1.1 h1;have e2:=NV hv.2.1.1 hu.2.1.1 h2;have e3:=NV hv.2.2.1 hu.2.2.1 h3;obtain⟨a,b,c⟩:=v;obtain⟨a',b',c'⟩:=u;simp only at e1 e2 e3;rw[e1,e2,e3]
def zg(s:LU)(v:tj):Prop:=v.vt=true/\AD v=s
def zg.one{s:LU}{v u:tj}(h:zg s v)(k:zg s u):v=u:=Zmw h.1 k.1 (h.2.Z k.2.H)
def zg.head{s:LU}{v:tj}(h:zg s v):∃b r,s=b::r/\Ko b=true:=by
 obtain⟨hm,rfl⟩:=h;have hv:=tj.vu.1 hm;unfold AD;rw[fl hm];cases hd:dec v.ma with
 |nil=>exact fm hd (Zad _)
 |cons b r=>exact⟨b,_,rfl,Qw _ hv.1.1 rfl b (by rw[hd];exact .head _)⟩
structure ĝ(many:Nat)(x:rz):Prop where
 vd:vq tn.Y x.vd
 pin:∀p∈x.vd,Ae p.Y=true/\p.v.vt=true
 Xa2:x.vd.length<=128
 sq:vq Edge.Y x.sq
 yz:∀e∈x.sq,Ae e.Y=true/\1<=e.to/\e.to<(many:Int)
 ġ:x.sq.length<=128
structure ww(g:Ζ):Prop where
 len:1<=g.length/\g.length<=128
 root:∃x,g[0]?=some x/\x.key=ui.key
 Y:∀i x,g[i]?=some x->i≠0->Ae x.Y=true/\x.v.vt=true
 py:∀x∈g,ĝ g.length x
def ë:LU:=[108,111,99,107,10]
def Zll:LU:=[114,111,111,116,10]
def Nc:LU:=[110,111,100,101,32]
def Sy:LU:=[119,105,116,104,32]
def Sx:LU:=[116,111,32]
def Ca(p:tn):LU:=((((Sy++p.Y.toList)++[32])++AD p.v)++[10])
def CX(e:Edge):LU:=((((Sx++e.Y.toList)++[32])++dec e.to)++[10])
def B6(i:Nat)(x:rz):LU:=if i=0 then Zll else((((Nc++x.Y.toList)++[32])++AD x.v)++[10])
def Gu(i:Nat)(x:rz):LU:=(B6 i x++x.vd.flatMap Ca)++x.sq.flatMap CX
def CC:Nat->Ζ->LU
 |_,[]=>[]
 |i,x::r=>Gu i x++CC (i+1) r
def Gk(g:Ζ):LU:=ë++CC 0 g
def Vv(x:rz):∀(l:Ζ)(i:Nat),CC i (l++[x])=CC i l++Gu (i+l.length) x
 | [],i=>by simp[CC]
 |y::l,i=>by rw[ig,CC,CC,Vv x l (i+1),ff,fu];congr 3;omega
def Vy(h:i<g.length):ë++CC 0 (g.take (i+1))=(ë++CC 0 (g.take i))++Gu i g[i]:=by rw[dw h,Vv,ff,fg];congr 3;omega
def Ot{α:Type}{f:α->LU}{l:List α}(h:i<l.length):(l.take (i+1)).flatMap f=(l.take i).flatMap f++f l[i]:=by rw[dw h,rl];simp
structure Xav(g:Ζ)(ps:Ι)(i:Nat)(x:rz):Prop where
 td:i≠0->∃p,ps[i]?=some p/\AJ p=true/\p.Y=x.Y/\p.v=x.v
 vd:vq tn.Y x.vd
 sq:vq Edge.Y x.sq
 yz:∀e∈x.sq,∃(j:Nat) (y:rz),e.to=(j:Int)/\1<=j/\g[j]?=some y/\y.Y=e.Y
 full:∀q∈x.vd,∃y,Iz g x q.Y=some y/\y.v=q.v
structure ur(g:Ζ)(ps:Ι):Prop where
 len:1<=g.length/\g.length<=128
 Xb7:ps.length=g.length
 root:∃x,g[0]?=some x/\x.key=ui.key
 zero:ps[0]?=some ⟨⟨#[]⟩,⟨0,0,0⟩,[],[],[]⟩
 py:∀i x,g[i]?=some x->Xav g ps i x
def Zg0{p:su}(h:AJ p=true):Ae p.Y=true:=by
 unfold AJ CA at h;simp only[dz]at h
 first|exact h.1.1|exact h.1.1.1|exact h.1.1.1.1|exact h.1.1.1.1.1
def ur.Y{ps:Ι}(h:ur g ps){x:rz}(hx:g[i]?=some x){e:Edge}(he:e∈x.sq):Ae e.Y=true:=by obtain⟨j,y,h1,h2,h3,h4⟩:=(h.py i x hx).yz e he;obtain⟨p,_,h5,h6,_⟩:=(h.py j y h3).td oM;rw[<-h4,<-h6];exact Zg0 h5
def IS.holds{τ:Type}{g:Bool}{k:τ->Wp}{A:(τ->Wp)->Prop}{d:τ}(P:τ->Prop)(hA:g=true->∀q:τ->Wp,(∀t w',AI w w'->P t->q t w')->A q)
  (hk:∀t w',AI w w'->(g=true->P t)->k t w'):IS g k A (λq=>q d w):=
 ⟨λhg=>hA hg _ λt w' hx hp=>hk _ _ hx λ_=>hp,λhg=>hk _ _ xR λh=>by rw[hg]at h;cases h⟩
def Cz{l:LQ}(h:No xu w S s l)(hn:n<l.length):
  ∃ad,s.a=some ad/\Ad l[n].Y/\∀w',AI w w'->sh w' (ad.add (n*2)) [.string l[n].Y,.int .i64 l[n].to]:=by
 obtain⟨ad,cs,h1,h2,⟨rfl,h3⟩,h4⟩:=h.el hn;exact⟨ad,h1,h3,h4⟩
def DN(m:vz):Int:=if AF m then 0 else 25
def D2(m:vz):Pr:=if AF m then B (CZ m)else⟨#[]⟩
def VA(h:AF m=true):Dm m=true:=by unfold AF at h;rw[dz]at h;exact h.1
def Zfw{e v:Sl}{R:Pr->È}(ht:Þ w)(hS:Old S w)(hd:No ru w S d m.ss)(he:No ru w S e m.uw)(ho:No ru w S o m.uq)(hv:No ru w S v m.sd)
  (hR:∀w',AI w w'->R (D2 m) (DN m) w'):LB d e o v w R:=by
 refine An.intro λa w1 x1 a4 _ _=>⟨d,e,o,v,a4.sh.pre (r:=[]) rfl,?_⟩;refine Gm.V (OD (m:=m) (ht.U x1) (hS.U x1.size) (hd.U x1) (he.U x1) (ho.U x1) (hv.U x1) λw2 x2=>⟨_,rfl,λh=>?_,λh=>?_⟩)
 .have h:AF m=false:=by simpa using h
  have hr:=hR w2 (x1.Z x2);unfold D2 DN at hr;rw[h]at hr;exact hr
 .have h:AF m=true:=by simpa using h
  have a0:=x1.Z x2;refine⟨d,e,o,v,(a4.U x2).sh.pre (r:=[]) rfl,?_⟩;refine Jc.V (VB (m:=m) (ht.U a0) (VA h) (hd.U a0) (he.U a0) (ho.U a0) (hv.U a0) λw3 x3=>⟨_,rfl,?_⟩);have hr:=hR w3 (a0.Z x3);unfold D2 DN at hr;rw[h]at hr;exact hr
def W8{e v:Sl}{R:Pr->È}(hd:No ru w S d m.ss)(he:No ru w S e m.uw)(ho:No ru w S o m.uq)(hv:No ru w S v m.sd)
  (hR:∀w',AI w w'->R (D2 m) (DN m) w'):IE d e o v w R:=by
 refine An.intro λa w1 x1 a4 _ _=>⟨d,e,o,v,a4.sh.pre (r:=[]) rfl,?_⟩;refine KR.V (Zh1 (m:=m) (hd.U x1) (he.U x1) (ho.U x1) (hv.U x1) λw2 x2=>⟨_,rfl,λh=>?_,λh=>?_⟩)
 .have h:AF m=false:=by simpa using h
  have hr:=hR w2 (x1.Z x2);unfold D2 DN at hr;rw[h]at hr;exact hr
 .have h:AF m=true:=by simpa using h
  have a0:=x1.Z x2;refine⟨d,e,o,v,(a4.U x2).sh.pre (r:=[]) rfl,?_⟩;refine IF.V (W9 (m:=m) (VA h) (hd.U a0) (he.U a0) (ho.U a0) (hv.U a0) λw3 x3=>⟨_,rfl,?_⟩);have hr:=hR w3 (a0.Z x3);unfold D2 DN at hr;rw[h]at hr;exact hr
def Vx{α:Type}{l:List α}{nm:α->Pr}{n:Int}(hn:n=(l.length:Int))(hm:l.length<=maxLen)(hs:∀x∈l,Ad (nm x))
  (hf:∀(i:Nat) (h:i<l.length) w' (k:Ë),AI w w'->(∀a8,AI w' a8->k (.string (nm l[i])) a8)->un prog f [vi i] w' k)
  (hR:∀(b:Bool) w',AI w w'->(b=true↔vq nm l/\(∀x∈l,Ae (nm x)=true)/\l.length<=128)->R b w'):IZ n f w R:=by
 unfold IZ;subst hn;refine Of.up hm (λi w'=>AI w w'/\vq nm (l.take i)/\∀x∈l.take i,Ae (nm x)=true) ⟨AI.refl _,.nil,λ_ h=>by cases h⟩ λi w1 b7 hi ⟨x1,hI,hJ⟩ hn=>⟨λb6=>?_,λb5=>?_⟩
 .have hl:i<l.length:=oM;have a4:=fe hl;refine hf i hl w1 _ x1 λw2 x2=>⟨_,rfl,CI.V (ux (hs _ a4) λw3 x3=>⟨_,rfl,IN (IN ?_)⟩)⟩;have a7:=x1.Z (x2.Z x3);refine IS.intro (nm (l[i - 1]'oM)) (λhg q hq=>?_) λb2 w4 x4 a5=>?_
  .simp only[dz,fk]at hg;rw[Nx oM hl hm];exact hf (i - 1) oM w3 _ a7 λw4 x4=>⟨_,rfl,hq w4 x4⟩
  refine IS.intro (nm l[i]) (λhg q hq=>hf i hl w4 _ (a7.Z x4) λw5 x5=>⟨_,rfl,hq w5 x5⟩) λb4 w5 x5 a6=>?_;have a9:=(a7.Z x4).Z x5;have a0:(!Ae (nm l[i])||(decide (0<(i:Int))&& !Ak b2 b4))=false↔Ae (nm l[i])=true/\(1<=i->Ak (nm (l[i - 1]'oM)) (nm l[i])=true):=by
   cases hM:Ae (nm l[i])with
   |false=>simp
   |true=>
    rw[hM]at a5 a6;by_cases h1:1<=i
    .rw[fy (show(0:Int)<(i:Int) by omega)]at a5 a6 ⊢;rw[a5 rfl,a6 rfl];simp[h1]
    .rw[fq (show ¬(0:Int)<(i:Int) by omega)];simp[h1]
  refine⟨λh=>hR false w5 a9 ⟨nO,λ⟨g1,g2,_⟩=>?_⟩,λh=>hn hl w5 ⟨a9,?_⟩⟩
  .rw[a0.2 ⟨g2 _ a4,λh1=>?_⟩]at h
   .cases h
   .cases hb:Ak (nm (l[i - 1]'oM)) (nm l[i])with
    |true=>rfl
    |false=>exact fm g1 (Jr h1 hl hb)
  .obtain⟨g1,g2⟩:=a0.1 h;refine⟨?_,λx hx=>?_⟩
   .obtain h0|h0:=kg i
    .subst h0;exact Js
    .exact Jt h0 hl hI (g2 h0)
   .rw[dw hl]at hx;obtain hx|hx:=fp.1 hx
    .exact hJ x hx
    .rwa [ep.1 hx]
 .have b0:i=l.length:=oM;rw[b0,eh]at hI hJ;refine hR _ w1 x1 ⟨λh=>⟨hI,hJ,?_⟩,λ⟨_,_,h⟩=>?_⟩
  .have:=jg h;omega
  .exact fy oM
def Zbt:Bm prog 245:=enters_of func245 kR rfl
def Zbu:Bm prog 246:=enters_of func246 kR rfl
def Zff{x:rz}{c e:Sl}{many:Int}{k:Nat}(b5:many=(k:Int))(hc:No vb w S c x.vd)(he:No xu w S e x.sq)
  (hR:∀(b:Bool) w',AI w w'->(b=true↔ĝ k x)->R b w'):LA x.Y x.v.ma x.v.mi x.v.pa c e many w R:=by
 unfold LA;subst b5;have c9:=hc.len;have d0:=he.len;have a9:∀w',AI w w'-> ¬ĝ k x->R false w':=λw' hx h=>hR false w' hx ⟨nO,λhf=>fm hf h⟩;refine An.intro λa w1 x1 a4 _ _=>⟨c,a4.at1 (k:=4) xR rfl,?_⟩;refine IZ.V (Vx (l:=x.vd) (nm:=tn.Y) oM hc.max (λp hp=>?_) (λi hi w' q x' hq=>⟨_,_,rfl,Zbt,QZ.V ?_⟩) λb w2 x2 hb=>⟨b,rfl,IN ?_⟩)
 .obtain⟨i,hi,rfl⟩:=gc.1 hp;obtain⟨_,_,_,b6,_⟩:=CE hc hi;exact b6
 .obtain⟨ad,ha,_,_,a0⟩:=CE hc hi;exact⟨c,a4.at1 (k:=4) x' rfl,ad,⟨ha,oM,oM⟩,_,(a0 _ (x1.Z x')).pre rfl,hq _ xR⟩
 refine⟨e,λ_=>a4.at1 (k:=5) (r:=[]) x2 rfl,?_⟩;have b7:=x1.Z x2;refine IS.holds (λt=>t=true↔vq Edge.Y x.sq/\(∀y∈x.sq,Ae y.Y=true)/\x.sq.length<=128) (λhg q hq=>IZ.V (Vx (l:=x.sq) (nm:=Edge.Y) oM he.max (λp hp=>?_) (λi hi w' r x' hr=>⟨_,_,rfl,Zbu,Ra.V ?_⟩) λb w3 x3 hb=>⟨b,rfl,hq b w3 x3 hb⟩)) λc8 w3 x3 b2=>⟨λh=>?_,λh=>?_⟩
 .obtain⟨i,hi,rfl⟩:=gc.1 hp;obtain⟨_,_,b6,_⟩:=Cz he hi;exact b6
 .obtain⟨ad,ha,_,a0⟩:=Cz he hi;exact⟨e,a4.at1 (k:=5) (r:=[]) (x2.Z x') rfl,ad,⟨ha,oM,oM⟩,_,(a0 _ (b7.Z x')).pre rfl,hr _ xR⟩
 .refine a9 w3 (b7.Z x3) λhF=>?_;have h1:=hb.2 ⟨hF.vd,λp hp=>(hF.pin p hp).1,hF.Xa2⟩;subst h1;rw[(b2 rfl).2 ⟨hF.sq,λp hp=>(hF.yz p hp).1,hF.ġ⟩]at h;cases h
 have b9:=b7.Z x3;have h1:b=true:=by
  cases b with
  |true=>rfl
  |false=>cases h
 subst h1;have h2:c8=true:=by simpa using h
 subst h2;obtain⟨c1,c2,c3⟩:=hb.1 rfl;obtain⟨e1,e2,e3⟩:=(b2 rfl).1 rfl;refine⟨c,a4.at1 (k:=4) (x2.Z x3) rfl,?_⟩;refine Of.up hc.max (λi w'=>AI w3 w'/\∀p∈x.vd.take i,p.v.vt=true) ⟨AI.refl _,λ_ h=>by cases h⟩ λi w4 c7 hi ⟨x4,hI⟩ hn=>⟨λb4=>?_,λc6=>?_⟩
 .have a7:i<x.vd.length:=oM;obtain⟨ad,ha,_,_,a0⟩:=CE hc a7;have b0:=b9.Z x4;refine⟨ad,⟨ha,oM,b4⟩,_,_,_,_,a0 _ b0,An.set rfl λa5 w5 x5 c5 _=>⟨_,_,_,c5.at1 (k:=1) (r:=[]) xR rfl,?_⟩⟩;refine Ez.V (HK (v:=x.vd[i].v) λw6 x6=>⟨_,rfl,λh=>?_,λh=>?_⟩)
  .refine a9 w6 (b0.Z (x5.Z x6)) λhF=>?_;rw[(hF.pin _ (fe a7)).2]at h;cases h
  .refine hn a7 w6 ⟨x4.Z (x5.Z x6),λp hp=>?_⟩;rw[dw a7]at hp;obtain hp|hp:=fp.1 hp
   .exact hI p hp
   .rw[ep.1 hp];simpa using h
 have a7:i=x.vd.length:=oM;rw[a7,eh]at hI;refine⟨e,a4.at1 (k:=5) (r:=[]) (x2.Z (x3.Z x4)) rfl,?_⟩;have b0:=b9.Z x4;refine Of.up he.max (λj w'=>AI w4 w'/\∀y∈x.sq.take j,1<=y.to/\y.to<(k:Int)) ⟨AI.refl _,λ_ h=>by cases h⟩ λj w5 c7 hj ⟨x5,hJ⟩ hn=>⟨λb4=>?_,λc6=>?_⟩
 .have a8:j<x.sq.length:=oM;obtain⟨ad,ha,_,a0⟩:=Cz he a8;have c4:=b0.Z x5;refine⟨ad,⟨ha,oM,b4⟩,_,_,a0 _ c4,An.set rfl λa6 w6 x6 b8 _=>⟨_,b8.at1 (k:=1) (r:=[]) xR rfl,IN ⟨_,λ_=>b8.at1 (k:=1) (r:=[]) xR rfl,λh=>?_,λh=>?_⟩⟩⟩
  .refine a9 w6 (c4.Z x6) λhF=>?_;obtain⟨_,h1,h2⟩:=hF.yz _ (fe a8);rw[fq oM,fq oM]at h;cases h
  .simp only[gd,gk]at h;refine hn a8 w6 ⟨x5.Z x6,λp hp=>?_⟩;rw[dw a8]at hp;obtain hp|hp:=fp.1 hp
   .exact hJ p hp
   .rw[ep.1 hp];omega
 .have a8:j=x.sq.length:=oM;rw[a8,eh]at hJ;exact hR true w5 (b0.Z x5) ⟨λ_=>⟨c1,λp hp=>⟨c2 p hp,hI p hp⟩,c3,e1,λy hy=>⟨e2 y hy,hJ y hy⟩,e3⟩,λ_=>rfl⟩
end Go.Hal
