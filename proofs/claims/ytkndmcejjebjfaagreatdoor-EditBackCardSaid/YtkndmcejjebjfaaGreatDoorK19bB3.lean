/- Lemmas for the claim K19b: how the program's functions run, and what they answer; no condition but those that each theorem names. -/
import Derived.Shelf.SlSortCmp.NoneTotal
import Derived.Ground.SlsfProg
import Derived.Test.YtkndmcejjebjfaaGreatDoorProg
import Derived.Test.YtkndmcejjebjfaaGreatDoorK19bB2
set_option linter.unusedVariables false
set_option linter.unusedSimpArgs false
set_option linter.defProp false
set_option maxHeartbeats 16000000
open Go Go.RowKit Go.Proofs Go.Shelf Go.Hal Go.Proofs.Tryz
variable {a:Addr} {n t:Bs} {d:Dep} {R:Int->Wp} {l:LD} {cs:LV} {M:List Want} {m:Mani} {g i lo lo' o:Nat} {Q S:Nat->Prop} {ahd mDev mOpt mOv nds out s stk ws:Sl} {f:Value} {K:Value->Wp} {w w' w0:Wd}
namespace Go.Hal
def signS:Bs:=bm #[60,62,61,94,126]
set_option maxRecDepth 100000 in
def Zim(b:UInt8):signS.data.toList.contains b=CJ b:=by have:=OR (λb=>signS.data.toList.contains b==CJ b) (by decide+kernel) b;simpa using this
def Zkc{s:Bs}{k:Value->Wp}(hk:∀w',Ext w w'->k (.string ⟨(s.data.toList.dropWhile CJ).toArray⟩) w'):callS prog 159 [.string s,.string signS] w k:=by
 have h:=Any.strings_TrimLeft_laid Tryz.layTL kR s signS w dC (ascii_of_all dC);have e:Lib.trimLeftS s.data.toList signS.data.toList=s.data.toList.dropWhile CJ:=by unfold Lib.trimLeftS;congr 1;funext b;exact Zim b
 rw[e]at h;exact h.mono λe w' ⟨he,hb⟩=>⟨_,he,hk w' hb⟩
def Zlt(h1:t≠bm #[42])(h2:∀(g:Sign)(v:Ver),IsVer (t.data.toList.dropWhile CJ) v->t.data.toList.takeWhile CJ≠g.text)(x:Rk): ¬WordR t.data.toList x:=by
 generalize hl:t.data.toList=l at h2;intro hw;cases hw with
 |all=>exact h1 (by obtain⟨⟨a⟩⟩:=t;simp only at hl;rw[hl])
 |sign g hv=>obtain⟨s1,s2⟩:=Oj (g:=g) hv;exact h2 g _ (by rw[s2];exact hv) s1
def SK{q:Bs}{l:LU}:q=⟨l.toArray⟩↔q.data.toList=l:=by
 constructor
 .rintro rfl;rfl
 .intro h;obtain⟨⟨a⟩⟩:=q;simp only at h;rw[h]
def Zlu{R:Int->Int->Bool->Wp}(hg:Gl w)(hs:t.size<=4096)
  (a5:∀x w',WordR t.data.toList x->Ext w w'->R x.1 x.2 true w') (c3:∀w',(∀x,¬WordR t.data.toList x)->Ext w w'->R 0 0 false w'):SE.Mk t w R:=by
 unfold SE.Mk;refine newS.intro λa w1 x1 b8 d3 _=>⟨λh=>?_,λh=>?_⟩
 .subst h;refine stw0.intro b8 sI λw2 b2 _ b7=>⟨_,_,b7.at0 xR rfl,a5 (0,999999999) w2 .all (b2.ext x1 oM)⟩
 have fin:∀{w':Wd} {lo hi:Int} {b:Bool},Ext w1 w'->(∀a0,Ext w a0->R lo hi b a0)->stw w' a [vi lo,vi hi] λa0=>∃(l h:Int),ldc a0 a [vi l,vi h]/\R l h b a0:=
  λhx hR=>stw0.intro (b8.ext hx) sI λw2 b2 _ b7=>⟨_,_,b7.at0 xR rfl,hR w2 (b2.ext (x1.trans hx) oM)⟩
 refine Zkc λw2 x2=>⟨_,rfl,?_⟩;have b4:t.data.toList.takeWhile CJ++t.data.toList.dropWhile CJ=t.data.toList:=lx;have a8:=Zlt (t:=t) h;generalize hp:t.data.toList.takeWhile CJ=p at b4 a8;generalize hr:t.data.toList.dropWhile CJ=r at b4 a8 ⊢;have d2:t.size=p.length+r.length:=by rw[Lib.size_eq,<-b4,du]
 have d0:(⟨r.toArray⟩:Bs).size=r.length:=by rw[Lib.size_eq]
 have hc:callS prog 347 [.string ⟨r.toArray⟩] w2 λu w3=>∃(v:Ver) (b:Bool),u= .tuple #[CU v,.bool b]/\Ext w2 w3/\(b=true->IsVer r v)/\(b=false->∀v,¬IsVer r v):=by
  refine Calls.mono (callsIn_wide.1 (Zlc 4 nR ⟨r.toArray⟩ oM w2 (hg.ext (x1.trans x2)))) λe w3 ⟨x3,c4⟩=>?_;rcases c4 with⟨v,hv,rfl⟩|⟨c9,rfl⟩
  .exact⟨_,rfl,v,true,rfl,x3,λ_=>hv,nO⟩
  .exact⟨_,rfl,⟨0,0,0⟩,false,rfl,x3,λh=>(by cases h),λ_=>c9⟩
 refine Calls.mono hc λe w3 ⟨u,he,v,b,hu,x3,hb,a9⟩=>⟨u,he,?_⟩;have c6:=x2.trans x3;refine⟨v.ma,v.mi,v.pa,b,hu,newS.intro λa6 w4 x4 c7 d4 _=>stw0.intro c7 sI λw5 b5 _ b0=>⟨_,_,_,b0.at0 xR rfl,SE.FC.go (Mx (v:=v) λw6 x6=>⟨_,_,rfl,v.pa,b0.at1 x6 rfl,v.mi,b0.at1 x6 rfl,λb6=>?_,λb6=>?_⟩)⟩⟩
 .have d1:=b6;have b9:b=false:=by simpa using b6
  have a4:Ext w1 w6:=(c6.trans (b5.ext x4 oM)).trans x6;refine fin a4 λa0 hx=>c3 a0 (λx=>a8 (λg v' c5=>(a9 b9 v' c5).elim) x) hx
 .have c8:b=true:=by simpa using b6
  have hv:=hb c8;have a4:Ext w1 w6:=(c6.trans (b5.ext x4 oM)).trans x6;have d5:=Ver.rank_le (v:=v);have hm:=Ver.may_iff.1 hv.1;have hk:Aa ((t.size:Int) - ((⟨r.toArray⟩:Bs).size:Int))=p.length:=by rw[d0,d2,Ag oM oM];omega
  rw[hk];have hq:t.extract 0 (p.length:Int).toNat=⟨p.toArray⟩:=by rw[SK,ec,Lib.extract_from_zero,<-b4,nq]
  rw[hq];have hw:∀g:Sign,p=g.text->WordR t.data.toList (g.ranks v):=λg e=>by rw[<-b4,e];exact .sign g hv
  have eq:∀l:LU,((⟨p.toArray⟩:Bs)=⟨l.toArray⟩)↔p=l:=λl=>SK;have e1:=Ag (x:=v.rank - 1) oM oM;have e2:=Ag (x:=v.rank+1) oM oM;have e3:=Ag (x:=v.rank - v.pa) oM oM;have e4:=Ag (x:=v.rank - v.pa+999) oM oM;have e5:=Ag (x:=999 - v.mi) oM oM;have e6:=Ag (x:=(999 - v.mi)*1000) oM oM;have e7:=Ag (x:=v.rank - v.pa+999+(999 - v.mi)*1000) oM oM;rw[e1,e2,e3,e4,e5,e6,e7];refine⟨⟨oM,oM⟩,join.named λJ hJ=>?_⟩;have key:∀b':Bool,(b'=true->p=[]\/p= [61])->(b'=false->p≠[]/\p≠ [61])->J b' w6:=λb' ht hf=>by
   subst hJ;refine⟨λa9=>fin a4 λa0 hx=>?_,λa9=>⟨λh1=>?_,λh1=>⟨λh2=>?_,λh2=>⟨λh3=>?_,λh3=>⟨λh4=>?_,λh4=>⟨λh5=>?_,λh5=>⟨λh6=>?_,λh6=>?_⟩⟩⟩⟩⟩⟩⟩
   .obtain h1|h1:=ht a9
    .exact a5 _ a0 (hw .none h1) hx
    .exact a5 _ a0 (hw .eq h1) hx
   .exact fin a4 λa0 hx=>a5 _ a0 (hw .lt ((eq _).1 h1)) hx
   .exact fin a4 λa0 hx=>a5 _ a0 (hw .le ((eq _).1 h2)) hx
   .exact fin a4 λa0 hx=>a5 _ a0 (hw .gt ((eq _).1 h3)) hx
   .exact fin a4 λa0 hx=>a5 _ a0 (hw .ge ((eq _).1 h4)) hx
   .exact fin a4 λa0 hx=>a5 _ a0 (hw .tilde ((eq _).1 h5)) hx
   .have a7:=hw .caret ((eq _).1 h6);simp only[Sign.ranks]at a7;refine⟨v.ma,b0.at0 x6 rfl,λg1=>?_,λg1=>⟨v.mi,b0.at1 x6 rfl,λg2=>?_,λg2=>?_⟩⟩
    .rw[if_pos g1]at a7;exact fin a4 λa0 hx=>a5 _ a0 a7 hx
    .rw[if_neg g1,if_pos g2]at a7;exact fin a4 λa0 hx=>a5 _ a0 a7 hx
    .rw[if_neg g1,if_neg g2]at a7;exact fin a4 λa0 hx=>a5 _ a0 a7 hx
   .obtain⟨n1,n2⟩:=hf a9;refine fin a4 λa0 hx=>c3 a0 (λx=>a8 (λg v' c5 e=>?_) x) hx;cases g with
    |none=>exact n1 e
    |eq=>exact n2 e
    |lt=>exact h1 ((eq _).2 e)
    |le=>exact h2 ((eq _).2 e)
    |gt=>exact h3 ((eq _).2 e)
    |ge=>exact h4 ((eq _).2 e)
    |tilde=>exact h5 ((eq _).2 e)
    |caret=>exact h6 ((eq _).2 e)
  refine⟨λh1=>key _ (λ_=> .inl ((eq []).1 h1)) (λh2=>?_),λh1=>key _ (λh2=>.inr ((eq [61]).1 (AH.1 h2))) (λh2=>⟨λe=>h1 ((eq []).2 e),λe=>MR.1 h2 ((eq [61]).2 e)⟩)⟩;exact absurd h1 (MR.1 h2)
def Zls(hg:Gl w):Sq w:=λt W _ hs hx=>by
 have h:callS prog 281 [.string t] W λu w'=>Ext W w'/\((∃x:Rk,WordR t.data.toList x/\u= .tuple #[.agg #[vi x.1,vi x.2],.bool true])\/((∀x,¬WordR t.data.toList x)/\u= .tuple #[.agg #[vi 0,vi 0],.bool false])):=
  SE.Mk.go (Zlu (hg.ext hx) hs (λx w' hw a0=>⟨a0,.inl ⟨x,hw,rfl⟩⟩) λw' hn a0=>⟨a0,.inr ⟨hn,rfl⟩⟩)
 refine Calls.mono h λe w' ⟨u,he,a0,hu⟩=>⟨a0,?_⟩;subst he;exact hu.imp (λ⟨x,h1,h2⟩=>⟨x,h1,by rw[h2]⟩) λ⟨h1,h2⟩=>⟨h1,by rw[h2]⟩
attribute [local go_sem] Oper.semAt_some
set_option maxRecDepth 100000 in
def Zfx(n:Nat)(text:Bs)(w:Wd)(a0: ¬text.size<=4096):CallsIn Fence.wide n prog 200 #[.string text] w (OG w text):=by
 refine callsIn_of_wp_marks func200 rfl trivial ?_ rfl;simp only[Tryz.ntmps200,iv,fl,ia,Nat.reduceAdd,Nat.reduceSub,ku,kr,lw,kx,ig,gu];have a4:(4096:Int)<(text.size:Int):=oM;have b0:=Boxed.new w 94 Bp;have b1:=Boxed.new (w.alloc (.cells #[Bp] 94)) 46 (.int .i64 0);simp only[World.size_alloc]at b1;have c0:=(b0.alloc (.cells #[vi 0] 46)).cell;have f0:=(b0.alloc (.cells #[vi 0] 46)).frozen;have c1:=b1.cell;have f1:=b1.frozen;have a5:=b0.alloc (.cells #[vi 0] 46)
 gi_wp2
 have e0:=(Boxed.new w 94 Bp).alloc (.cells #[vi 21] 46);have e1:=Boxed.new (w.alloc (.cells #[Bp] 94)) 46 (.int .i64 21);simp only[World.size_alloc]at e1;have d1:=e0.cell;have d2:=e1.cell;unfold Bp at d1 d2;have hb:Below w.heap.size w ((w.alloc (.cells #[Bp] 94)).alloc (.cells #[vi 21] 46)):=((Below.refl _ w).alloc nR _).alloc sI _;refine⟨.tuple #[Bp,vi 21],?_,hb,Sl.nil,21,rfl,.inl ⟨rfl,rfl,λh=>a0 h.1⟩⟩;simp[results,Tryz.f200,go_sem,d1,d2,Bp]
def Zja{text:Bs}(hg:Gl w)(a4:∀w',¬G5 text.data.toList->Ext w w'->K (.tuple #[Sl.nil.v,vi 21]) w')
  (a0:∀l w',RangeIs text.data.toList l->64<l.length->Ext w w'->K (.tuple #[Sl.nil.v,vi 26]) w')
  (a6:∀l s w',RangeIs text.data.toList l->l.length<=64->Ext w w'->SlR spanE w' (λb=>w.heap.size<=b/\b<w'.heap.size) s (BU l)->K (.tuple #[Sl.v s,vi 0]) w'):
  callS prog 200 [.string text] w K:=by
 have h:Calls prog 200 #[.string text] w (OG w text):=by
  by_cases hs:text.size<=4096
  .obtain⟨m,hm⟩:=hg.mx;exact callsIn_wide.1 (Zfw 12 nR text w hs m hm (Zls hg) trivial)
  .exact callsIn_wide.1 (Zfx 12 text w hs)
 refine Calls.mono h λe w' ⟨hx,s,er,he,hr⟩=>⟨_,he,?_⟩;rcases hr with⟨rfl,rfl,hn⟩|⟨hs,l,m,hA,hp,a5,⟨rfl,rfl,hl⟩|⟨rfl,hl,a7⟩⟩
 .exact a4 w' (λh=>hn ((QK _).2 h)) hx
 .exact a0 _ w' (hA.range hs hp a5) hl hx
 .exact a6 _ s w' (hA.range hs hp a5) hl hx a7
end Go.Hal
namespace Go.Hal
inductive RgOf (t:Bs):Option (List Span)->Prop
 |bad: ¬G5 t.data.toList->RgOf t none
 |full {l:List Rk}:RangeIs t.data.toList l->64<l.length->RgOf t none
 |empty:RangeIs t.data.toList []->RgOf t none
 |ok {l:List Rk}:RangeIs t.data.toList l->l≠[]->l.length<=64->RgOf t (some (BU l))
def RgOf.one{r r':Option (List Span)}(h:RgOf t r)(h':RgOf t r'):r=r':=by
 cases h with
 |bad h1=>
  cases h' with
  |bad=>rfl
  |full=>rfl
  |empty=>rfl
  |ok k1=>exact absurd k1.ok h1
 |full h1 h2=>
  cases h' with
  |bad=>rfl
  |full=>rfl
  |empty=>rfl
  |ok k1 k2 k3=>rw[h1.one k1]at h2;omega
 |empty h1=>
  cases h' with
  |bad=>rfl
  |full=>rfl
  |empty=>rfl
  |ok k1 k2 k3=>exact absurd (k1.one h1) k2
 |ok h1 h2 h3=>
  cases h' with
  |bad k1=>exact absurd h1.ok k1
  |full k1 k2=>rw[k1.one h1]at k2;omega
  |empty k1=>exact absurd (h1.one k1) h2
  |ok k1 k2 k3=>rw[h1.one k1]
def Um{ps:List Bs}(h:∀t∈ps,t.size≠0->∃a,WordR t.data.toList a):∀k,k<=ps.length->∃x b,InW ps k x b
 |0,_=>⟨_,_,InW.start ps⟩
 |k+1,hk=>by
  obtain⟨x,b,hi⟩:=Um h k oM;by_cases h0:ps[k].size=0
  .exact⟨_,_,hi.skip oM h0⟩
  .obtain⟨a,ha⟩:=h _ (ff oM) h0;exact⟨_,_,hi.word oM h0 ha⟩
def Uk{ps:List Bs}(h:∀a∈ps,Gz a):∀k,k<=ps.length->∃l,InA ps k l
 |0,_=>⟨_,InA.start ps⟩
 |k+1,hk=>by
  obtain⟨l,hl⟩:=Uk h k oM;have ha:=h _ (ff (l:=ps) (n:=k) oM);obtain⟨x,b,hx⟩:=Um ha.2 _ nR;have hb:b=true:=hx.some.2 (by rw[eh];exact ha.1);subst hb;have hs:=hl.step oM hx;by_cases a0:x.1<=x.2
  .exact⟨_,hs.1 a0⟩
  .exact⟨_,hs.2 a0⟩
def Zgz(h:G5 t.data.toList):∃l,RangeIs t.data.toList l:=by
 have hb:=(QK t).2 h;obtain⟨l,hl⟩:=Uk hb.2 _ nR;refine⟨_,hl.range hb.1 (m:=l.mergeSort λa b=>decide (a.1<=b.1)) (List.mergeSort_perm _ _) ?_⟩;unfold Ee;refine(List.pairwise_mergeSort (le:=λa b:Rk=>decide (a.1<=b.1)) (λa b c h1 h2=>?_) (λa b=>?_) l).imp λh=>by simpa using h
 .simp at h1 h2 ⊢;omega
 .simp;omega
def RgOf.ex(t:Bs):∃r,RgOf t r:=by
 by_cases h:G5 t.data.toList
 .obtain⟨l,hl⟩:=Zgz h;by_cases h1:64<l.length
  .exact⟨_,.full hl h1⟩
  .by_cases h2:l=[]
   .subst h2;exact⟨_,.empty hl⟩
   .exact⟨_,.ok hl h2 oM⟩
 .exact⟨_,.bad h⟩
def wDev:LU:=[100,101,118]
def wPins:LU:=[112,105,110,115]
def pjText:LU:=[112,114,111,106,101,99,116,10]
def DV(m:Mani):LU:=(((pjText++B3 wNeeds m.deps)++B3 wDev m.dev)++B3 wLikes m.opt)++B3 wPins m.over
def FW(m:Mani):Bool:=Av m.deps&&Av m.dev&&Av m.opt&&Av m.over
def Qm(m:Mani):Bool:=BF m.deps m.dev&&BF m.deps m.opt&&BF m.dev m.opt
def AV(m:Mani):Bool:=FW m&&(Qm m&&decide ((DV m).length<=4096))
def Cy:LD->Bool
 | []=>true
 | [_]=>true
 |x::y::r=>!decide (A7 y.name x.name<0)&&Cy (y::r)
def Dd(d:Dep):Bool:=Af d.name&&AO d.range&& !d.range.isEmpty
def wk(l:LD):Bool:=decide (l.length<=16)&&Cy l&&l.all Dd
def BI(a b c:LD):Bool:=Av a&&Av b&&Av c&&decide ((a++b++c).map (·.name)).Nodup
def T4:∀{l:LD} {p:Option Bs},Bb p l=true->Cy l=true/\l.all Dd=true
 | [],_,_=>⟨rfl,rfl⟩
 | [x],p,h=>by rw[Bb]at h;simp only[dx]at h;exact⟨rfl,by simp[Dd,h.1.1.1.1,h.1.1.1.2,h.1.1.2]⟩
 |x::y::r,p,h=>by
  rw[Bb]at h;simp only[dx]at h;obtain⟨h1,h2⟩:=T4 h.2;rw[Bb]at h;simp only[dx,FJ]at h;refine⟨?_,?_⟩
  .rw[Cy,h1];have h3:Ao x.name y.name=true:=h.2.1.2;have h4: ¬A7 y.name x.name<0:=λhc=>by rw[HS,MS h3]at hc;cases hc
   simp[h4]
  .rw[mq,h2];simp[Dd,h.1.1.1.1,h.1.1.1.2,h.1.1.2]
def P6(h:Av l=true):wk l=true:=by unfold Av at h;simp only[dx]at h;obtain⟨h1,h2⟩:=T4 h.1;unfold wk;rw[h1,h2,h.2];rfl
def Xc:∀{l:LD} {p:Option Bs},Cy l=true->l.all Dd=true->(l.map (·.name)).Nodup->(∀x,l.head? =some x->FJ p x.name=true)->Bb p l=true
 | [],_,_,_,_,_=>rfl
 | [x],p,_,h2,_,h4=>by rw[Bb,Bb,h4 x rfl];simp[Dd]at h2;simp[h2]
 |x::y::r,p,h1,h2,h3,h4=>by
  rw[Cy]at h1;rw[mq]at h2;rw[dx]at h1 h2;rw[ib,oq]at h3;rw[Bb,h4 x rfl,Xc h1.2 h2.2 h3.2 λz hz=>?_]
  .have:=h2.1;unfold Dd at this;rw[this];rfl
  .simp only[List.head?_cons,eu]at hz;subst hz;show Ao x.name y.name=true;have h5: ¬A7 y.name x.name<0:=by simpa using h1.1
   have hO:=DB (α:=Bs) id;have:=hO.flip y.name x.name;have:=hO.flip x.name y.name;simp only[id]at*;refine Jy oM λe=>h3.1 ?_;rw[e];simp
def RL(h:wk l=true)(hn:(l.map (·.name)).Nodup):Av l=true:=by unfold wk at h;simp only[dx]at h;unfold Av;rw[Xc h.1.2 h.2 hn λ_ _=>rfl,h.1.1];rfl
def Zlr{a b c:LD}(ha:wk a=true)(hb:wk b=true)(hc:wk c=true):BI a b c=decide ((a++b++c).map (·.name)).Nodup:=by
 unfold BI;cases h:decide ((a++b++c).map (·.name)).Nodup
 .rw[Bool.and_false]
 .have hn:=of_decide_eq_true h;rw[fq,fq,jb,jb]at hn;rw[RL ha hn.1.1,RL hb hn.1.2.1,RL hc hn.2.1];rfl
def Qo{a b c:LD}(h:wk a=false\/wk b=false\/wk c=false):BI a b c=false:=by
 cases hm:BI a b c
 .rfl
 .unfold BI at hm;simp only[dx]at hm;obtain h|h|h:=h
  .rw[P6 hm.1.1.1]at h;cases h
  .rw[P6 hm.1.1.2]at h;cases h
  .rw[P6 hm.1.2]at h;cases h
def Qn(a b c:LD):BI a b c=(Av a&&Av b&&Av c&&(BF a b&&BF a c&&BF b c)):=by
 unfold BI;cases h:(Av a&&Av b&&Av c)
 .simp
 .simp only[dx]at h;rw[ie,ie,gk,decide_eq_true_eq,dx,dx,GB,GB,GB];have h1:=HX h.1.1;have h2:=HX h.1.2;have h3:=HX h.2;rw[fq,fq,jb,jb];constructor
  .rintro⟨⟨_,_,h4⟩,_,h5⟩;exact⟨⟨h4,λx hx y hy=>h5 x (iu _ hx) y hy⟩,λx hx y hy=>h5 x (ka _ hx) y hy⟩
  .rintro⟨⟨h4,h5⟩,h6⟩;exact⟨⟨h1,h2,h4⟩,h3,λx hx y hy=>(fk.1 hx).elim (λhx=>h5 x hx y hy) λhx=>h6 x hx y hy⟩
def UQ(l:LD):BI l [] []=Av l:=by
 rw[Qn];have:BF l []=true:=by rw[GB];intro x _ y hy;simp at hy
 have h2:BF ([]:LD) []=true:=rfl;have h3:Av []=true:=rfl;rw[this,h2,h3];simp
def Zed(m:Mani):AV m=((BI m.deps m.dev m.opt&&BI m.over [] [])&&decide ((DV m).length<=4096)):=by rw[UQ,Qn];unfold AV FW Qm;cases Av m.deps<;>cases Av m.dev<;>cases Av m.opt<;>cases Av m.over<;>simp
def UI(h:AV m=true):Av m.deps=true/\Av m.dev=true/\Av m.opt=true/\Av m.over=true/\Qm m=true:=by unfold AV FW at h;simp only[dx]at h;exact⟨h.1.1.1.1,h.1.1.1.2,h.1.1.2,h.1.2,h.2.1⟩
def Zeg(h:AV m=true):m.deps.length+m.dev.length+m.opt.length<=48:=by obtain⟨h1,h2,h3,_⟩:=UI h;have:=(BX h1).1;have:=(BX h2).1;have:=(BX h3).1;omega
end Go.Hal
/-
 DERIVED:THE SHELF's CONTRACTS AT THIS DUMP,IN PLAIN WORDS (tools/lay-plain.mjs out of 'YtkndmcejjebjfaaGreatDoorLay4.lean',which tools/lay-shelf.mjs wrote):THE SAME DECLARATIONS UNDER THE SAME NAMES:'import','namespace','open','def','theorem' AND NOTHING ELSE:no command of the shelf's:FOR A HAND-IN. Each laying:the table of numbers ('.._ren') and one theorem,a field a fact of the dump's own or the kernel's comparison;each contract:ONE APPLICATION.
-/
namespace Go.Proofs
def Tryz.laySd_ren:Go.Shelf.Ren:=⟨λ|6=>177|15=>93|14=>272|28=>172|29=>173|20=>326|21=>327|22=>328|23=>329|24=>330|25=>331|26=>332|27=>333|46=>372|47=>267|48=>268|49=>373|50=>374|57=>403|n=>n,λ|22=>34|24=>96|25=>256|3=>3|39=>180|0=>0|53=>253|55=>255|4=>4|46=>246|45=>245|50=>250|5=>5|9=>9|66=>326|70=>330|76=>376|77=>377|n=>n,λ|n=>n⟩
def Tryz.laySd:Go.Proofs.SlLaysF0.n6 prog Tryz.laySd_ren:=by repeat' first|kernel_rfl|exact Fk kR kR|(intro w;kernel_rfl)|constructor
end Go.Proofs
namespace Go.Hal
instance:Inhabited Sl:=⟨Sl.nil⟩
def Zer{a b:Bs×Sl}(hR:∀w',Gr w w'->R (A7 a.1 b.1) w'):SE.FY a.1 a.2 b.1 b.2 w R:=by unfold SE.FY;refine newS.gr λ_ w1 x1 hb=>newS.gr λ_ w2 x2 a0=>⟨_,Gr.at0 hb x2 rfl,_,Gr.at0 a0 (Gr.refl _) rfl,ET ⟨_,rfl,hR _ (x1.trans x2)⟩⟩
def TK:Bn prog 174:=enters_of func174 kR rfl
def may1_se{a b:Bs}{t:Sl}(hR:∀w',Ext w w'->R (A7 a b) w'):SE.FY a s b t w R:=by unfold SE.FY;refine newS.intro λ_ w1 x1 hb _ _=>newS.intro λ_ w2 x2 a0 _ _=>⟨_,hb.at0 x2 rfl,_,a0.at0 xR rfl,ET ⟨_,rfl,hR _ (x1.trans x2)⟩⟩
def Zi5(hi:i<l.length)(h0:0<i):Cy (l.drop (i - 1))=(!decide (A7 l[i].name (l[i - 1]'oM).name<0)&&Cy (l.drop i)):=by
 have h1:l.drop (i - 1)=l[i - 1]'oM::l.drop i:=by rw[fu (by omega:i - 1<l.length)];congr 2;omega
 rw[h1,fu hi,Cy]
def Zi6:∀{i:Nat},Cy (l.drop i)=false->Cy l=false:=by
 intro i;induction i generalizing l with
 |zero=>intro h;simpa using h
 |succ i ih=>
  intro h;cases l with
  |nil=>simp at h;exact h
  |cons x r=>
   rw[qe]at h;have:=ih h;cases r with
   |nil=>cases this
   |cons y r=>rw[Cy,this,Bool.and_false]
def Zcs{R:Bool->Wp}(hs:SlR depE w S s l)(hR:∀w',Ext w w'->R (Cy l) w'):SE.Md s (.func (.func 174) #[] #[]) w R:=by
 unfold SE.Md;have hl:=hs.len;have hm:=hs.max;have b5:=Al;refine loop1.ghost (λn i w'=>Ext w w'/\((l=[]/\i= -1)\/(i=(n:Int)/\n<l.length/\Cy (l.drop n)=true))) (l.length - 1) ⟨Ext.refl _,?_⟩ λn i w1 b7 ⟨x1,hJ⟩ hn=>⟨λb4=>?_,λb2=>?_⟩
 .rw[Ag oM oM];by_cases h0:l=[]
  .left;subst h0;rw[hl];exact⟨rfl,rfl⟩
  .right;have:0<l.length:=mw.2 h0;refine⟨oM,oM,?_⟩;rw[fu oM,jp oM];rfl
 .rcases hJ with⟨_,rfl⟩|⟨rfl,a4,hI⟩
  .omega
  have h0:0<n:=oM;have ew:Aa ((n:Int) - 1)=((n - 1:Nat):Int):=by rw[Ag oM oM];omega
  rw[ew];obtain⟨ad,t,ha,_,b6,_,hc⟩:=BD hs a4;obtain⟨a7,t2,a8,_,b0,_,a9⟩:=BD hs (n:=n - 1) oM;have a0:=Zi5 a4 h0;refine bnd.drew λw2 x2=>⟨ad,⟨ha,oM,oM⟩,_,t,hc _ (x1.trans x2),a7,⟨a8,oM,oM⟩,_,t2,a9 _ (x1.trans x2),_,_,rfl,TK,SE.FY.go (may1_se λw3 x3=>⟨_,rfl,λa5=>?_,λa6=>?_⟩)⟩
  .rw[decide_eq_true a5,Bool.not_true,Bool.false_and]at a0;have:=hR w3 ((x1.trans x2).trans x3);rw[Zi6 a0]at this;exact this
  .rw[decide_eq_false a6,hI]at a0;exact hn (n - 1) _ _ oM ⟨(x1.trans x2).trans x3,.inr ⟨rfl,oM,a0⟩⟩
 .have hs:Cy l=true:=by
   rcases hJ with⟨rfl,_⟩|⟨rfl,a4,hI⟩
   .rfl
   .have:n=0:=oM;subst this;simpa using hI
  have:=hR w1 x1;rw[hs]at this;exact this
def Ziu(h:OwnS depE 96 w lo S s l)(a5:lo<=w.heap.size)(a9:l.length<=1000)
  (hK:∀w' (z:List (Bs×Sl)),Below lo w w'->(z.map (·.1)).Perm (l.map (·.name))->z.Pairwise (λx y=>A7 x.1 y.1<=0)->(z=[]\/∃g tail,s.a=some ⟨g,0,none⟩/\RowB (λx:Bs×Sl=>[.string x.1,Sl.v x.2]) w' g z tail)->K (.tuple #[]) w'):
  callS prog 177 [s.v,.func (.func 174) #[] #[]] w K:=by
 have a0:=h.len;rcases h.rowG (λx:Bs×Sl=>[.string x.1,Sl.v x.2]) (λy x=>y.1=x.name) (λx cs (hx:depE.rep w S x cs)=>by obtain⟨_,t,a4,_⟩:=hx;exact⟨(x.name,t),a4,rfl⟩)with⟨rfl,rfl⟩|⟨g,z,tail,ha,hg,hz,hr,hrow,hc,hcm⟩
 .refine(AnyF.slices_SortFunc_none Tryz.laySd none 0 _ w).mono λe w' ⟨he,hw⟩=>⟨_,he,?_⟩;subst hw;exact hK _ [] (Below.refl _ _) (jf _) List.Pairwise.nil (.inl rfl)
 .obtain⟨a,n,c⟩:=s;simp only at ha a0;subst ha;have a8:(z.map Prod.fst).length=l.length:=by rw[<-hz];simp
  have a6:(z.map Prod.fst).map (·.1)=l.map (·.name):=by rw[<-hz,iy,iy];exact mr λp hp=>hr p hp
  subst a0;rw[<-a8];have hO:=DB (α:=Bs×Sl) (·.1);refine F7 Tryz.laySd (k:=2) (λw=>kR) (λw=>kR) (f:=λx:Bs×Sl=>[.string x.1,Sl.v x.2]) (λ_=>rfl) (λx v hv=>by simp[Sl.v]at hv;rcases hv with rfl|rfl<;>rfl) (λa b=>A7 a.1 b.1) (EU hO.flip hO.trans) 174 #[] TK (λw0 x y hb _=>?_) hrow oM rfl λl' w' hp hs b a7=>?_
  .have h:=SE.FY.go (k:=λv w'=>v= .int .i64 (A7 x.1 y.1)/\Gr w0 w') (Zer (a:=x) (b:=y) (w:=w0) λw' h=>⟨rfl,h⟩);exact Calls.mono h λe w' ⟨v,he,hv,hg⟩=>⟨by rw[he,hv],hg⟩
  .refine hK w' l' (b.below a5 hg) ?_ (hs.imp λ{a b} h=>by have:=hO.flip b a;have:=hO.flip a b;omega) (.inr ⟨g,tail,rfl,a7⟩);rw[<-a6];exact hp.map _
def okB{t2:Bool}{n:Int}(h2:Af d.name=true->t2=AO d.range)(hn:(n==0)=d.range.isEmpty):(((!Af d.name)||(!t2))||(n==0))= !Dd d:=by
 unfold Dd;rw[hn];cases h1:Af d.name
 .simp
 .rw[h2 h1];cases AO d.range<;>cases d.range.isEmpty<;>rfl
def UP{sa sb sc:Sl}{la lb lc:LD}{R:Bool->Wp}(hS:Old S w)(ha:SlR depE w S sa la)(hb:SlR depE w S sb lb)(hc:SlR depE w S sc lc)(hR:∀w',Ext w w'->R (BI la lb lc) w'):SE.I6 sa sb sc w R:=by
 unfold SE.I6;have i2:=Al;have e9:depE.bytes=40:=rfl;refine newS.intro λa1 w1 x1 b4 h3 _=>?_;have i3:=x1.size;have a0:∀{l:LD},wk l=true->l.length<=16:=λh=>by unfold wk at h;simp only[dx,decide_eq_true_eq]at h;exact h.1.1
 refine loop2.up (N:=3) dC (λall i w'=>Ext w w'/\Ext w1 w'/\∃(S':Nat->Prop) (pre:LD),OwnS depE 96 w' w1.heap.size S' all pre/\(i=0->pre=[])/\(i=1->pre=la)/\(i=2->pre=la++lb)/\(i=3->pre=la++lb++lc)/\(0<i->wk la=true)/\(1<i->wk lb=true)/\(2<i->wk lc=true))
  ⟨x1,Ext.refl _,None',[],(OwnS.nil _ _),λ_=>rfl,λh=>by omega,λh=>by omega,λh=>by omega,λh=>by omega,λh=>by omega,λh=>by omega⟩ λall i w2 g9 hi ⟨x2,a6,S',pre,own,p0,p1,p2,p3,k0,k1,k2⟩ hn=>⟨λd8=>?_,λf5=>?_⟩
 .have d9:i<3:=by have:((Sl.mk (some a1) 3 3).len:Int)=3:=rfl;omega
  have d0:=U4 (i:=i) (b4.ext a6);have c7:i=0\/i=1\/i=2:=oM;obtain⟨t,l,f9,hs,q0,q1,q2,d4,h6⟩:∃t l,ldc w2 (a1.add (i*1)) [Sl.v t]/\SlR depE w S t l/\(i=0->l=la)/\(i=1->l=lb)/\(i=2->l=lc)/\(wk l=false->BI la lb lc=false)/\pre.length<=32:=by
   obtain rfl|rfl|rfl:=c7
   .exact⟨sa,la,d0.1 rfl,ha,λ_=>rfl,λh=>by omega,λh=>by omega,λh=>Qo (.inl h),by rw[p0 rfl];simp⟩
   .exact⟨sb,lb,d0.2.1 rfl,hb,λh=>by omega,λ_=>rfl,λh=>by omega,λh=>Qo (.inr (.inl h)),by rw[p1 rfl];have:=a0 (k0 oM);omega⟩
   .exact⟨sc,lc,d0.2.2 rfl,hc,λh=>by omega,λh=>by omega,λ_=>rfl,λh=>Qo (.inr (.inr h)),by rw[p2 rfl,du];have:=a0 (k0 oM);have:=a0 (k1 oM);omega⟩
  have i4:=hs.len;refine⟨a1,⟨rfl,oM,d8⟩,t,f9,bound ?_⟩;refine gCall.intro (Cy l) (λ_ q hq=>SE.Md.go (Zcs (hs.ext x2) λw' hx=>⟨_,rfl,hq _ hx⟩)) λt2 w3 x3 b8=>?_;have a8:=x2.trans x3;have a4:∀w',Ext w w'->wk l=false->R false w':=λw' hx h=>by have:=hR w' hx;rw[d4 h]at this;exact this
  refine⟨λh=>a4 w3 a8 ?_,λh=>?_⟩
  .unfold wk;cases b2:decide ((16:Int)<(t.len:Int))
   .rw[b2]at b8 h;rw[b8 rfl]at h;have:Cy l=false:=by simpa using h
    rw[this];simp
   .have: ¬l.length<=16:=(by simp at b2;omega);simp[this]
  .have b2:l.length<=16:=(by simp at h;omega);have hd:decide ((16:Int)<(t.len:Int))=false:=(by simp;omega);rw[hd]at b8 h;rw[b8 rfl]at h;have g5:Cy l=true:=(by simpa using h);refine loop1.up hs.max (λj w'=>Ext w3 w'/\(l.take j).all Dd=true) ⟨Ext.refl _,rfl⟩ λj w4 h7 hj ⟨x4,hI⟩ g0=>⟨λe2=>?_,λh5=>?_⟩
   .have b7:j<l.length:=oM;obtain⟨ad,tr,c4,_,g2,hr,f4⟩:=BD hs b7;have a9:=a8.trans x4;refine⟨ad,⟨c4,oM,e2⟩,_,tr,f4 _ a9,newS.intro λa5 w5 x5 f0 h4 _=>stw0.intro f0 sI λw6 b6 _ c5=>⟨_,c5.at0 xR rfl,?_⟩⟩;have e7:Ext w4 w6:=b6.ext x5 oM;have e6:=a9.trans e7;refine SE.CA.go (scanName_se g2 λw7 x7=>⟨_,rfl,bound ⟨tr,λ_=>c5.at1 (k:=1) (r:=[]) x7 rfl,?_⟩⟩);refine gCall.intro (AO l[j].range) (λ_ q hq=>SE.Gj.go (spanMay_se (hr.ext (e6.trans x7)) λw' hx=>⟨_,rfl,hq _ hx⟩)) λt3 w8 x8 g7=>bound ⟨tr,λ_=>c5.at1 (k:=1) (r:=[]) (x7.trans x8) rfl,?_⟩;have e0:((tr.len:Int)==0)=l[j].range.isEmpty:=(by rw[hr.len];cases l[j].range<;>simp;omega);have e1:=okB (d:=l[j]) (t2:=t3) (n:=(tr.len:Int)) (λh1=>g7 (by rw[h1];rfl)) e0;rw[e1];have g6:(l.take (j+1)).all Dd=Dd l[j]:=(by rw[dw b7,pz,hI];simp);refine⟨λhh=>a4 w8 ((e6.trans x7).trans x8) ?_,λhh=>g0 b7 _ ⟨(x4.trans e7).trans (x7.trans x8),by rw[g6];simpa using hh⟩⟩;have c6:Dd l[j]=false:=(by simpa using hh);unfold wk;have:l.all Dd=false:=by rw[List.all_eq_false];exact⟨l[j],ff b7,by rw[c6];decide⟩
    rw[this,Bool.and_false]
   .have c9:j=l.length:=oM;rw[c9,eh]at hI;have d2:wk l=true:=(by unfold wk;rw[g5,hI,decide_eq_true b2];rfl);have b0:=x3.trans x4;have a9:=x2.trans b0;have g4:=a9.size;refine(own.ext b0).appAll Jv (a6.trans b0).size (hs.ext a9) (hS.ext g4) (λad c4 hb=>by have:=(own.block c4).1;have:=hS _ hb;omega) (by rw[e9];unfold Ab;omega) oM λr' w9 e5 b9 _ _=>?_;refine hn d9 _ _ ⟨x1.trans ((a6.trans b0).trans' b9),(a6.trans b0).trans' b9,_,pre++l,e5,λh=>by omega,λh=>?_,λh=>?_,λh=>?_,λ_=>?_,λh=>?_,λh=>?_⟩
    .have:i=0:=oM;rw[p0 this,q0 this];rfl
    .have:i=1:=oM;rw[p1 this,q1 this]
    .have:i=2:=oM;rw[p2 this,q2 this]
    .obtain h0|h0:=jq i
     .rw[<-q0 h0];exact d2
     .exact k0 h0
    .obtain h0|h0:=qg 1 i
     .exact k1 h0
     .have:i=1:=oM;rw[<-q1 this];exact d2
    .have:i=2:=oM;rw[<-q2 this];exact d2
 .have d6:i=3:=by have:((Sl.mk (some a1) 3 3).len:Int)=3:=rfl;omega
  rw[Zlr (k0 oM) (k1 oM) (k2 oM),<-p3 d6]at hR;have g3:pre.length<=1000:=by rw[p3 d6,du,du];have:=a0 (k0 oM);have:=a0 (k1 oM);have:=a0 (k2 oM);omega
  clear p0 p1 p2 p3 k0 k1 k2 hn;refine Ziu own a6.size g3 λw3 z b3 e4 g8 hz=>⟨rfl,?_⟩;have a8:Ext w w3:=x1.trans (a6.trans' b3);have h8:=own.len;have i5:z.length=pre.length:=by have:=e4.length_eq;simpa using this
  have c3:∀w',Ext w w'->∀b,(b=true↔(z.map (·.1)).Nodup)->R b w':=λw' hx b hb=>by have h1:=hR w' hx;have:b=decide (pre.map (·.name)).Nodup:=(by rw[gk,hb,decide_eq_true_eq];exact e4.nodup_iff);rw[this];exact h1
  have a7:∀i (hi:i<z.length),∃ad,all.a=some ad/\∀w',Ext w3 w'->ldc w' (ad.add (i*2)) [.string z[i].1]:=λi hi=>by
   rcases hz with rfl|⟨g,tail,c8,e3⟩
   .exact absurd hi (Nat.not_lt_zero _)
   .exact⟨_,c8,λw' hx=>(RowB.ld (k:=2) (λ_=>rfl) (e3.ext hx) hi).pre rfl⟩
  have d1:∀{i j:Nat} (hi:i<z.length) (hj:j<z.length),i<j->A7 z[i].1 z[j].1<=0:=λhi hj f6=>gh.1 g8 _ _ hi hj f6;refine loop1.ghost (λm i w'=>∃k:Nat,i=(k:Int)/\1<=k/\m=z.length - k/\Ext w3 w'/\(z.take k).Pairwise (λx y=>Ao x.1 y.1=true)) (z.length - 1) ⟨1,rfl,fm _,rfl,Ext.refl _,?_⟩ λm i w4 g9 ⟨k,d7,h9,hm,x4,hP⟩ hn=>⟨λd8=>?_,λf5=>?_⟩
  .cases z with
   |nil=>exact List.Pairwise.nil
   |cons x r=>simp
  .subst d7;have b5:k<z.length:=oM;have ew:Aa ((k:Int) - 1)=((k - 1:Nat):Int):=by rw[Ag oM oM];omega
   rw[ew];obtain⟨ad,c8,f1⟩:=a7 k b5;obtain⟨e8,d5,f2⟩:=a7 (k - 1) oM;refine bnd.drew λw5 x5=>⟨ad,⟨c8,oM,oM⟩,_,f1 _ (x4.trans x5),e8,⟨d5,oM,oM⟩,_,f2 _ (x4.trans x5),λhe=>?_,λg1=>?_⟩
   .refine c3 _ (a8.trans (x4.trans x5)) false ⟨nO,λh=>?_⟩;rw[gz,iq]at h;exact absurd he.symm (gh.1 h (k - 1) k oM b5 oM)
   .have d3:=d1 (i:=k - 1) (j:=k) oM b5 oM;have b4:Ao (z[k - 1]'oM).1 z[k].1=true:=Jy d3 λe=>g1 e.symm;refine hn (z.length - (k+1)) _ _ oM ⟨k+1,by rw[Ag oM oM];omega,oM,rfl,x4.trans x5,?_⟩;rw[dw b5,ir];refine⟨hP,kj _ _,λx hx y hy=>?_⟩;simp only[ep]at hy;subst hy;obtain⟨j,hj,rfl⟩:=fp.1 hx;rw[fb]at hj;rw[jh];by_cases f7:j=k - 1
    .subst f7;exact b4
    .have c9:j<(z.take k).length:=(by rw[fb];exact hj);have f8:k - 1<(z.take k).length:=(by rw[fb];omega);have h2:=gh.1 hP j (k - 1) c9 f8 oM;rw[jh,jh]at h2;exact GF h2 b4
  .subst d7;refine c3 _ (a8.trans x4) true ⟨λ_=>?_,λ_=>rfl⟩;rw[gj oM]at hP;rw[gz,iq];exact hP.imp λh=>Fj h
def BoxT(T:TypeId)(w:Wd)(a:Addr)(cs:LV):Prop:=a.off=0/\a.spot=none/\w.heap[a.block]?=some (.cells cs.toArray T (0,0))
def BoxT.box{T:TypeId}(h:BoxT T w a cs):BoxAt w a cs:=⟨T,h⟩
def BoxT.ext{T:TypeId}(h:BoxT T w a cs)(hx:Ext w w'):BoxT T w' a cs:=⟨h.1,h.2.1,(hx.block (lt_of_block h.2.2)).trans h.2.2⟩
def newS.introT{t:TypeId}{k:Addr->Wp}(h:∀a w',Ext w w'->BoxT t w' a cs->a.block=w.heap.size->w'.heap.size=w.heap.size+1->k a w'):newS w cs t k:=λa w' ha hw=>by subst ha hw;exact h _ _ (Ext.alloc _ _) ⟨rfl,rfl,heap_alloc_new w _⟩ rfl sI
def stw0.introT{T:TypeId}{old:LV}{k:Wp}(hb:BoxT T w a old)(hl:cs.length=old.length)(h:∀w',But a.block w w'->w'.heap.size=w.heap.size->BoxT T w' a cs->k w'):stw w a cs k:=by
 obtain⟨ho,hs,hh⟩:=hb;obtain⟨b,of,sp⟩:=a;simp only at ho hs hh;subst ho hs;refine⟨_,T,hh,rfl,by simp[hl],h _ ⟨?_,rfl,rfl,rfl,λc hc a0=>setRow_other w b c _ a0⟩ ?_ ⟨rfl,rfl,?_⟩⟩
 .simp[World.setRow]
 .simp[World.setRow]
 .rw[setRow_heap w b old.toArray _ T _ hh];have:old.drop cs.length=[]:=by rw[hl];exact li
  simp[Dk,this]
def Bld.lt{b:Nat}{l:LU}(h:Bld b l w):b<w.heap.size:=by rcases h with⟨_,_,h,_⟩|⟨_,_,h,_⟩<;>exact lt_of_block h
def J5{b:Nat}{l m:LU}{k:Value->Wp}(hB:Bld b l w)(h0:w0.heap.size=b)(x0:Ext w0 w)(hl:l.length+m.length<=140737488355328)
  (hk:∀w' n,Ext w0 w'->Bld b (l++m) w'->(∀T a cs,T≠5->a.block≠b->BoxT T w a cs->BoxT T w' a cs)->k (.tuple #[vi n,.nilIface]) w'):callS prog 78 [.pointer (some ⟨b,0,none⟩),.string (B m)] w k:=by
 have h:=Any.Builder_WriteString_k {Tryz.layJo with} Pk b b (Lib.byteCells l) (B m) w hB (by rw[Lib.byteCells_length,Ad];exact hl) (by have:=x0.size;omega);refine h.mono λe w' ⟨he,hb,a4,a5⟩=>⟨_,he,hk w' _ (x0.trans' (by rw[h0];exact a4)) (.inr ?_) λT a cs hT ha a0=>⟨a0.1,a0.2.1,a5 _ _ a0.2.2 (λe=>ha (jm e)) λc fz e=>?_⟩⟩
 .have e:Lib.byteCells l++Lib.strCells (B m)=Lib.byteCells (l++m):=by rw[Lib.strCells_eq,Fa];simp[Lib.byteCells]
  rw[e]at hb;exact hb
 .simp only[Obj.cells.injEq]at e;exact hT e.2.1
def Lc:TypeId:=238
def Zfy{R:Sl->Wp}(hR:∀a' w',Ext w w'->BoxT Lc w' a' [.string (B wNeeds),.pointer (some a),.string (B wDev),.pointer (some (a.add 1)),.string (B wLikes),.pointer (some (a.add 2)),.string (B wPins),.pointer (some (a.add 3))]->w.heap.size<=a'.block->R ⟨some a',4,4⟩ w'):SE.KM (some a) w R:=by unfold SE.KM;exact bnd.drew λw1 x1=>⟨a,rfl,a,rfl,a,rfl,a,rfl,newS.introT λa' w2 x2 hb a0 _=>hR a' w2 (x1.trans x2) hb (by have:=x1.size;omega)⟩
def mt(m:Mani)(i:Nat):LU:=match i with
 |0=>pjText
 |1=>pjText++B3 wNeeds m.deps
 |2=>(pjText++B3 wNeeds m.deps)++B3 wDev m.dev
 |3=>((pjText++B3 wNeeds m.deps)++B3 wDev m.dev)++B3 wLikes m.opt
 |_=>DV m
def UJ{d e o v:Sl}{R:Bs->Wp}(ht:Tab w)(hm:FW m=true)(hd:SlR depE w S d m.deps)(he:SlR depE w S e m.dev)(ho:SlR depE w S o m.opt)(hv:SlR depE w S v m.over)
  (hR:∀w',Ext w w'->R (B (DV m)) w'):SE.I7 d e o v w R:=by
 unfold SE.I7;unfold FW at hm;simp only[dx]at hm;obtain⟨⟨⟨h1,h2⟩,h3⟩,h4⟩:=hm;have n1:=BX h1;have n2:=BX h2;have n3:=BX h3;have n4:=BX h4;have l1:=DE (word:=wNeeds) dC λd hd=>(n1.2 d hd).1;have l2:=DE (word:=wDev) dC λd hd=>(n2.2 d hd).1;have l3:=DE (word:=wLikes) dC λd hd=>(n3.2 d hd).1;refine newS.intro λa w1 x1 hb _ _=>?_;intro a1 w2 d6 d1;subst d6;have x2:Ext w1 w2:=d1▸Ext.alloc _ _;have d5:Bld w1.heap.size [] w2:=d1▸MX w1;have t1:Tab w1:=ht.ext x1;have e9:(bm #[112,114,111,106,101,99,116,10])=B pjText:=rfl;rw[e9];refine HH (m:=pjText) d5 rfl x2 dC λw3 g8 x3 c4=>⟨_,_,rfl,?_⟩;refine SE.KM.go (Zfy (a:=a) λap w4 x4 e0 f7=>⟨_,rfl,?_⟩);have f9:=c4.lt;have b2:Lc≠5:=by decide
 have f4:=x3.trans x4;have a5:pjText.length=8:=rfl;refine loop1.up (N:=4) dC (λi w'=>Ext w1 w'/\BoxT Lc w' ap [.string (B wNeeds),.pointer (some a),.string (B wDev),.pointer (some (a.add 1)),.string (B wLikes),.pointer (some (a.add 2)),.string (B wPins),.pointer (some (a.add 3))]/\Bld w1.heap.size (mt m i) w') ⟨f4,e0,by simpa[mt]using c4.ext x4⟩ λi w5 g9 hi ⟨x5,a4,c5⟩ hn=>⟨λe6=>?_,λg2=>?_⟩
 .have c8:i<4:=by have:((Sl.mk (some ap) 4 4).len:Int)=4:=rfl;omega
  obtain⟨wd,k,t,l,hp,e5,hs,e2,f0,e7,g4⟩:∃(wd:LU) (k:Nat) (t:Sl) (l:LD),ldc w5 (ap.add (i*2)) [.string (B wd),.pointer (some (a.add k))]/\(∀w',Ext w5 w'->ldc w' (a.add k) [t.v])/\SlR depE w S t l/\Av l=true/\wd.length<=8/\mt m (i+1)=mt m i++B3 wd l/\(mt m i).length<=1000000:=by
   have b6:i=0\/i=1\/i=2\/i=3:=oM;obtain rfl|rfl|rfl|rfl:=b6
   .exact⟨wNeeds,0,d,m.deps,a4.box.at1 (k:=0) xR rfl,λw' hx=>hb.at1 (k:=0) (x5.trans hx) rfl,hd,h1,by decide,rfl,by simp[mt,a5]⟩
   .exact⟨wDev,1,e,m.dev,a4.box.at1 (k:=2) xR rfl,λw' hx=>hb.at1 (k:=1) (x5.trans hx) rfl,he,h2,by decide,rfl,by simp[mt,a5];omega⟩
   .exact⟨wLikes,2,o,m.opt,a4.box.at1 (k:=4) xR rfl,λw' hx=>hb.at1 (k:=2) (x5.trans hx) rfl,ho,h3,by decide,rfl,by simp[mt,a5];omega⟩
   .exact⟨wPins,3,v,m.over,a4.box.at1 (k:=6) xR rfl,λw' hx=>hb.at1 (k:=3) (x5.trans hx) rfl,hv,h4,by decide,rfl,by simp[mt,a5];omega⟩
  rw[e7]at hn;generalize mt m i=t0 at*;refine⟨ap,⟨rfl,oM,e6⟩,_,_,hp,newS.introT λa8 w6 x6 d8 f5 _=>stw0.introT d8 rfl λw7 b7 _ c6=>?_⟩;have b0:Ext w5 w7:=b7.ext x6 oM;have d2:=x5.trans b0;have h7:=x1.trans d2;refine⟨_,c6.box.at1 (k:=1) xR rfl,_,rfl,t,e5 _ b0,?_⟩;have g6:=hs.len;obtain⟨g1,d0⟩:=BX e2;refine loop1.up hs.max (λj w'=>Ext w1 w'/\BoxT Lc w' a8 [.string (B wd),.pointer (some (a.add k))]/\BoxT Lc w' ap [.string (B wNeeds),.pointer (some a),.string (B wDev),.pointer (some (a.add 1)),.string (B wLikes),.pointer (some (a.add 2)),.string (B wPins),.pointer (some (a.add 3))]/\Bld w1.heap.size (t0++B3 wd (l.take j)) w') ⟨d2,c6,a4.ext b0,by simpa[B3]using c5.ext b0⟩ λj w8 g0 hj ⟨x8,c7,b5,hI⟩ e8=>⟨λc9=>?_,λf8=>?_⟩
  .have a7:j<l.length:=oM;obtain⟨ad,tr,d7,_,g5,hr,hc⟩:=BD hs a7;have e1:=d0 _ (ff a7);have q1:=DE f0 (l:=l.take j) λd hd=>(d0 d (kl hd)).1;rw[fb,ju oM]at q1;have q2:=CG e1.1;have q3:=NY l[j].range;have b8:=x1.trans x8;refine⟨ad,⟨d7,oM,c9⟩,_,tr,hc _ b8,newS.intro λa9 w9 x9 d9 f6 _=>stw0.intro d9 sI λf1 d4 _ b4=>bnd.drew λh0 b9=>?_⟩;have d3:Ext w8 f1:=d4.ext x9 oM;have a0:=d3.trans b9;refine⟨_,c7.box.at0 a0 rfl,?_⟩;rw[B6];refine⟨by rw[Ad,AL,Ar];simp;omega,_,b4.at0 b9 rfl,?_⟩;rw[Ew l[j].name,AX,B6];refine⟨by rw[Ad,Ad,Ar];simp;omega,by rw[Ad,AL,Ar];simp;omega,tr,b4.at1 b9 rfl,callX.intro (SE.Jb.go (Wa (ht.ext (b8.trans a0)) (hr.ext (b8.trans a0)) λh5 a6=>⟨a6,_,rfl,?_⟩))⟩;rw[AX,B6];have g3:(((((wd++[32])++l[j].name.toList)++[32])++Cb l[j].range)++[10]).length<=2030:=(by simp;omega);refine⟨by rw[Ad,Ad,Ar];simp;omega,by rw[Ad,AL,Ar];simp;omega,J5 (m:=(((((wd++[32])++l[j].name.toList)++[32])++Cb l[j].range)++[10])) (hI.ext (a0.trans a6)) rfl (x8.trans (a0.trans a6)) (by rw[du];omega) λh6 g7 f2 c3 keep=>⟨_,_,rfl,e8 a7 _ ⟨f2,keep _ _ _ b2 (by have:=a4.box.lt;omega) (c7.ext (a0.trans a6)),keep _ _ _ b2 oM (b5.ext (a0.trans a6)),?_⟩⟩⟩
   .rw[dw a7,P5,GN,<-fg];exact c3
  .have e4:j=l.length:=oM;rw[e4,eh]at hI;exact hn c8 _ ⟨x8,b5,hI⟩
 .have e3:i=4:=by have:((Sl.mk (some ap) 4 4).len:Int)=4:=rfl;omega
  subst e3;exact MW c5 rfl x5 λw9 x9=>⟨_,rfl,hR _ (x1.trans x9)⟩
def NJ{d e o v:Sl}{R:Bool->Wp}(ht:Tab w)(hS:Old S w)(hd:SlR depE w S d m.deps)(he:SlR depE w S e m.dev)(ho:SlR depE w S o m.opt)(hv:SlR depE w S v m.over)
  (hR:∀w',Ext w w'->R (AV m) w'):SE.FX d e o v w R:=by
 unfold SE.FX;refine newS.intro λa w1 x1 hb _ _=>⟨d,hb.at0 xR rfl,e,hb.at1 (k:=1) xR rfl,o,hb.at1 (k:=2) xR rfl,?_⟩;refine SE.I6.go (UP (hS.ext x1.size) (hd.ext x1) (he.ext x1) (ho.ext x1) λw2 x2=>⟨_,rfl,v,λ_=>hb.at1 (k:=3) (r:=[]) x2 rfl,?_⟩);refine gCall.intro (BI m.over [] []) (λ_ q hq=>SE.I6.go (UP (hS.ext (x1.trans x2).size) (hv.ext (x1.trans x2)) (SlR.nil trivial) (SlR.nil trivial) λw' hx=>⟨_,rfl,hq _ hx⟩)) λt3 w3 x3 a4=>bound ⟨d,e,o,v,λ_=>hb.at0 (r:=[]) (x2.trans x3) rfl,?_⟩;have a0:=(x1.trans x2).trans x3;have e1:(BI m.deps m.dev m.opt&&t3)=(BI m.deps m.dev m.opt&&BI m.over [] []):=by
  cases h:BI m.deps m.dev m.opt
  .rfl
  .rw[a4 h]
 rw[e1];have hl:(BI m.deps m.dev m.opt&&BI m.over [] [])=true->FW m=true:=λh=>by rw[UQ,Qn]at h;simp only[dx]at h;unfold FW;simp[h]
 refine gCall.intro (B (DV m)) (λhg q hq=>SE.I7.go (UJ (ht.ext a0) (hl hg) (hd.ext a0) (he.ext a0) (ho.ext a0) (hv.ext a0) λw' hx=>⟨_,rfl,hq _ hx⟩)) λt4 w4 x4 a5=>?_;have e2:((BI m.deps m.dev m.opt&&BI m.over [] [])&&decide ((t4.size:Int)<=4096))=AV m:=by
  rw[Zed];cases h:(BI m.deps m.dev m.opt&&BI m.over [] [])
  .rfl
  .rw[a5 h,Ad,ie,ie,decide_eq_decide];omega
 rw[e2];exact hR _ (a0.trans x4)
def RowT{α:Type}(T:TypeId)(f:α->LV)(w:Wd)(g:Nat)(l:List α)(tail:LV):Prop:=w.heap[g]?=some (.cells ((l.map f).flatten++tail).toArray T (0,0))
section
variable {α:Type} {T:TypeId} {f:α->LV} {k g:Nat} {w w':Wd} {l:List α} {tail:LV}
def RowT.row(h:RowT T f w g l tail):RowB f w g l tail:=⟨T,rfl,rfl,h⟩
def RowT.ext(h:RowT T f w g l tail)(hx:Ext w w'):RowT T f w' g l tail:=(hx.block (fa.1 h).1).trans h
def stw.introT{old:LV}{K:Wp}(hb:BoxT T w a old)(hl:o+cs.length<=old.length)
  (h:∀w',But a.block w w'->w'.heap.size=w.heap.size->BoxT T w' a (old.take o++cs++old.drop (o+cs.length))->K w'):stw w (a.add o) cs K:=by
 obtain⟨ho,hs,hh⟩:=hb;obtain⟨b,of,sp⟩:=a;simp only at ho hs hh;subst ho hs;have ha:(Addr.add ⟨b,0,none⟩ o)=⟨b,o,none⟩:=by unfold Addr.add;split<;>simp_all
 rw[ha];refine⟨_,T,hh,rfl,by simpa using hl,h _ ⟨?_,rfl,rfl,rfl,λc hc a0=>setRow_other w b c _ a0⟩ ?_ ⟨rfl,rfl,?_⟩⟩
 .simp[World.setRow]
 .simp[World.setRow]
 .rw[setRow_heap w b old.toArray _ T _ hh];simp[Dk]
def RowT.st(hk:∀x,(f x).length=k)(h:RowT T f w g l tail)(hi:i<l.length){x:α}{K:Wp}(hK:∀w',But g w w'->RowT T f w' g (l.set i x) tail->K w'):stw w ((⟨g,0,none⟩:Addr).add (i*k)) (f x) K:=by
 have a0:=PT hk hi;have e:=Ke (f:=f) i hi tail;refine stw.introT (T:=T) (o:=i*k) (old:=(l.map f).flatten++tail) ⟨rfl,rfl,h⟩ (by rw[e,hk];simp only[du,a0,hk];omega) λw' hb hs hx=>hK w' hb ?_;have e2:=Ke (f:=f) (l:=l.set i x) i (by simpa using hi) tail;have e3:((l.map f).flatten++tail).take (i*k)++f x++((l.map f).flatten++tail).drop (i*k+(f x).length)=((l.set i x).map f).flatten++tail:=by
  rw[e2,e,hk];have t1:(((l.take i).map f).flatten++f l[i]++(((l.drop (i+1)).map f).flatten++tail)).take (i*k)=((l.take i).map f).flatten:=by rw[fg,nc (by rw[a0];exact fm _),gj (by rw[a0];exact fm _)]
  have t2:(((l.take i).map f).flatten++f l[i]++(((l.drop (i+1)).map f).flatten++tail)).drop (i*k+k)=((l.drop (i+1)).map f).flatten++tail:=by rw[ky (by simp only[du,a0,hk];omega),jp (by simp only[du,a0,hk];omega),ig]
  have t3:(l.set i x).take i=l.take i:=by rw[od nR]
  have t4:(l.set i x).drop (i+1)=l.drop (i+1):=by rw[og oM]
  rw[t1,t2,t3,t4,nj]
 unfold RowT;rw[<-e3];exact hx.2.2
end
def Y8{P:Program}{t e ty:TypeId}{z:Value}{n k:Nat}(ht:P.underlying t=some (.slice e))(hv:∀w,(zeroValue e).run P w= .ok z w)(hz:z.cells.size=k)(h1:∀v∈z.cells,v.oneCell'=true){c:Nat}{front back:LV}(ho:front.length=o)(hn:n*k<=back.length){T:TypeId}(hB:BoxT T w ⟨g,0,none⟩ (front++back))
   (hK:∀w' a0,But g w w'->BoxT T w' ⟨g,0,none⟩ (front++a0)->a0.length=back.length->K (.tuple #[]) w'):semS P (Builtin.clear_ #[t] ty #[.slice (some ⟨g,o,none⟩) n c]) w K:=by
 obtain⟨_,_,hb⟩:=hB;simp only at hb;have a8:=(fa.1 hb).1;cases n with
 |zero=>refine⟨_,w,?_,hK w back ⟨fm _,rfl,rfl,rfl,λ_ _ _=>rfl⟩ ⟨rfl,rfl,hb⟩ rfl⟩;simp[Builtin.clear_,run_underlying ht,Sem.run_bind,Result.andThen]
 |succ n=>
  have a4:(Builtin.zeroCells z.cells (n+1)).toList.length=(n+1)*k:=by rw[Xi,hz]
  have a5:=run_storeCells_at (P:=P) g o T (Builtin.zeroCells z.cells (n+1)).toList 0 (front++back).toArray w hb (by rw[a4,iv,du];omega) (Xj h1 _);generalize hA:(List.take (o+0) (front++back).toArray.toList++(Builtin.zeroCells z.cells (n+1)).toList++List.drop (o+0+(Builtin.zeroCells z.cells (n+1)).toList.length) (front++back).toArray.toList).toArray=A at a5;refine⟨.tuple #[],w.setRow g A,?_,hK (w.setRow g A) ((Builtin.zeroCells z.cells (n+1)).toList++back.drop ((n+1)*k)) ⟨by simp[World.setRow],rfl,rfl,rfl,λb a7 a6=>setRow_other w g b _ a6⟩ ⟨rfl,rfl,?_⟩ ?_⟩
  .simp[Builtin.clear_,run_underlying ht,hv,Sem.run_bind,Result.andThen,a5]
  .rw[setRow_heap w g (front++back).toArray A T _ hb,<-hA];simp only[jz,a4,eu,Obj.cells.injEq,and_true];rw[<-ho,nq];simp[List.drop_append]
  .rw[du,a4,fx];omega
def RawT{α:Type}(T:TypeId)(f:α->LV)(k:Nat)(w:Wd)(lo:Nat)(s:Sl)(l:List α):Prop:=w.ownsRow lo T k s.v s.len ((l.map f).flatten)/\s.len=l.length
section
variable {α:Type} {T:TypeId} {f:α->LV} {k lo:Nat} {w w':Wd} {s:Sl} {l:List α}
def RawT.cases(h:RawT T f k w lo s l):(s=Sl.nil/\l=[])\/∃g tail,s.a=some ⟨g,0,none⟩/\lo<=g/\RowT T f w g l tail/\l.length<=s.cap/\s.cap<=maxLen/\((l.map f).flatten++tail).length=s.cap*k:=by
 obtain⟨ho,hl⟩:=h;obtain⟨a,n,c⟩:=s;simp only at hl;rcases ho.2 with⟨hv,hn⟩|⟨g,cap,a0,hv,hg,hh,hc,hm,a4,ht⟩
 .simp only[Sl.v,Value.slice.injEq]at hv;simp only at hn;obtain⟨rfl,rfl,rfl⟩:=hv;exact .inl ⟨rfl,fj hl.symm⟩
 .simp only[Sl.v,Value.slice.injEq]at hv;obtain⟨rfl,_,rfl⟩:=hv;have e:(l.map f).flatten++a0.toList.drop (n*k)=a0.toList:=by rw[<-ht];exact fo _ _
  refine .inr ⟨g,a0.toList.drop (n*k),rfl,hg,?_,by rw[<-hl];exact hc,hm,by rw[e,jt];exact a4⟩;unfold RowT;rw[e,lj];exact hh
def RawT.mk{tail:LV}(hk:∀x,(f x).length=k)(ha:s.a=some ⟨g,0,none⟩)(hg:lo<=g)(hr:RowT T f w g l tail)(hl:s.len=l.length)(hc:l.length<=s.cap)(hm:s.cap<=maxLen)(ht:((l.map f).flatten++tail).length=s.cap*k):RawT T f k w lo s l:=by
 have a0:=CE f hk l;refine⟨⟨by rw[a0,hl],.inr ⟨g,s.cap,((l.map f).flatten++tail).toArray,?_,hg,hr,by rw[hl];exact hc,hm,by rw[iv];exact ht,?_⟩⟩,hl⟩
 .unfold Sl.v;rw[ha]
 .rw[hl,<-a0,nq]
def RawT.flat{bytes:Nat}(h:RawT T f k w lo s l)(hb:l.length*bytes<=Ab):FlatO f bytes w lo s l:=by
 have hl:=h.2;rcases h.cases with⟨rfl,rfl⟩|⟨g,tail,ha,hg,hr,hc,hm,_⟩
 .exact⟨rfl,fm _,gn _,hb,.inl rfl⟩
 .exact⟨hl,hc,hm,hb,.inr ⟨g,tail,ha,hg,hr.row⟩⟩
def RawT.ext(h:RawT T f k w lo s l)(hx:Ext w w'):RawT T f k w' lo s l:=⟨⟨h.1.1,h.1.2.imp id λ⟨g,cap,a0,h1,h2,h3,h4⟩=>⟨g,cap,a0,h1,h2,(hx.block (fa.1 h3).1).trans h3,h4⟩⟩,h.2⟩
def RawT.low(h:RawT T f k w lo s l)(hl:lo'<=lo):RawT T f k w lo' s l:=⟨⟨h.1.1,h.1.2.imp id λ⟨g,cap,a0,h1,h2,h3⟩=>⟨g,cap,a0,h1,fe hl h2,h3⟩⟩,h.2⟩
end
abbrev Bm:=Bs×Sl
def depC(x:Bm):LV:=[.string x.1,x.2.v]
instance:Inhabited Bm:=⟨(⟨#[]⟩,Sl.nil)⟩
def HW:Enc Bm:=DG 2 40 depC (λ_=>True) (λ_=>rfl) (λx v hv=>by simp[depC,Sl.v]at hv;rcases hv with rfl|rfl<;>rfl)
def idxDepC_se{l:List Bm}{p:Bm->Bool}(hs:SlR HW w S s l)(hf:Fg f (λx=>.agg #[.string x.1,x.2.v]) p l w)
  (hR:∀w',Ext w w'->R (AU p l) w'):SE.IX s f w R:=by
 unfold SE.IX;have hl:=hs.len;refine loop1.up hs.max (λi w'=>Ext w w'/\(l.take i).any p=false) ⟨Ext.refl _,rfl⟩ λi w1 a6 hi ⟨x1,hI⟩ hn=>⟨λa4=>?_,λa5=>?_⟩
 .have a0:i<l.length:=oM;obtain⟨ad,cs,ha,_,⟨rfl,_⟩,hc⟩:=hs.el a0;refine⟨ad,⟨ha,oM,a4⟩,_,_,hc _ xT,hf _ (ff a0) _ _ x1 λw2 x2=>⟨_,rfl,λh=>?_,λh=>?_⟩⟩
  .rw[<-Fx a0 hI h];exact hR _ xT
  .exact hn a0 _ ⟨xT,by rw[F8 a0 hI];exact h⟩
 .have:i=l.length:=oM;rw[this,eh]at hI;rw[<-E8 hI];exact hR _ xT
def YG{l:List Bm}{p:Bm->Bool}{R:Bool->Wp}(hs:SlR HW w S s l)(hf:Fg f (λx=>.agg #[.string x.1,x.2.v]) p l w)
  (hR:∀w',Ext w w'->R (l.any p) w'):SE.LI s f w R:=by
 unfold SE.LI;exact SE.IX.go (idxDepC_se hs hf λw' hx=>⟨_,rfl,by rw[Fw];exact hR _ hx⟩)
def Zlz:∀w,(zeroValue 96).run prog w= .ok (.agg #[.string (bm #[]),.slice none 0 0]) w:=λw=>by kernel_rfl
def Zc{l:List Bm}{d:Bm->Bool}{R:Sl->Wp}(h:RawT 96 depC 2 w lo s l)(a7:lo<=w.heap.size)(b7:l.length*40<=Ab)
  (hf:∀x∈l,∀w' (k:Value->Wp),Below lo w w'->(∀ad,s.a=some ad->But ad.block w w')->(s.a=none->Ext w w')->(∀d1,Ext w' d1->k (.bool (d x)) d1)->callV prog f [.agg #[.string x.1,x.2.v]] w' k)
  (hR:∀t w',Below lo w w'->(∀ad,s.a=some ad->But ad.block w w')->(s.a=none->Ext w w')->(∀ad,t.a=some ad->∃c5,s.a=some c5/\ad.block=c5.block)->RawT 96 depC 2 w' lo t (l.filter λx=>!d x)->R t w'):SE.LK s f w R:=by
 unfold SE.LK;have hF:=h.flat b7;have hs:=hF.read (E:=HW) (λ_=>rfl) (λ_ _ x hx=>⟨rfl,trivial⟩);refine SE.IX.go (idxDepC_se (p:=d) hs (λx hx w' k b8 hk=>hf x hx w' k (Below.mono b8 a7) (λ_ _=>b8.but _) (λ_=>b8) hk) λw1 x1=>⟨_,rfl,λh1=>?_,λh1=>?_⟩)
 .have:l.any d=false:=by rw[<-Fw,h1];decide
  exact hR s w1 (Below.mono x1 a7) (λad _=>x1.but _) (λ_=>x1) (λad h=>⟨ad,h,rfl⟩) (by rw[Ih this];exact h.ext x1)
 obtain⟨n,hn,e,ht,hp⟩:=Kz h1;rw[e];obtain⟨k1,k2,k3,k4,k5⟩:=hF;obtain⟨g,tail,ha,hg,hr,_,_,d6⟩:∃g tail,s.a=some ⟨g,0,none⟩/\lo<=g/\RowT 96 depC w g l tail/\l.length<=s.cap/\s.cap<=maxLen/\((l.map depC).flatten++tail).length=s.cap*2:=by
  rcases h.cases with⟨_,k5⟩|k5
  .subst k5;simp at hn
  .exact k5
 have hk:∀x:Bm,(depC x).length=2:=λ_=>rfl;have c7:(l.take (n+1)).filter (λx=>!d x)=l.take n:=by rw[dw hn,jk,Ih ht];simp[hp]
 rw[Ag oM (by unfold Ab at k4;omega)];refine⟨λi j w'=>∃(i' j':Nat) (z:List Bm),i=(i':Int)/\j=(j':Int)/\i'<j'/\j'<=l.length/\z.length=l.length/\i'=((l.take j').filter λx=>!d x).length/\z.take i'=(l.take j').filter (λx=>!d x)/\z.drop j'=l.drop j'/\But g w w'/\RowT 96 depC w' g z tail,
  λ_ j _=>l.length - j.toNat,⟨n,n+1,l,rfl,oM,oM,oM,rfl,by rw[c7,fb];omega,by rw[c7],rfl,x1.but g,hr.ext x1⟩,?_⟩
 rintro _ _ w2 ⟨i,j,z,rfl,rfl,d3,hj,b9,hi,a6,d0,b2,a5⟩;refine⟨λe3=>join.named λJ hJ=>?_,λe0=>?_⟩
 .have a0:j<l.length:=oM;have ej:Aa ((j:Int)+1)=((j+1:Nat):Int):=by rw[Ag oM (by unfold Ab at k4;omega)];omega
  have a8:z.drop (j+1)=l.drop (j+1):=by rw[<-jw,d0,jw]
  have c8:(l.take (j+1)).filter (λx=>!d x)=(l.take j).filter (λx=>!d x)++[l[j]].filter (λx=>!d x):=by rw[dw a0,jk]
  have kJ:∀(i':Nat)(w':Wd)(z':List Bm),i'<j+1->z'.length=l.length->z'.take i'=(l.take (j+1)).filter (λx=>!d x)->z'.drop (j+1)=l.drop (j+1)->But g w w'->RowT 96 depC w' g z' tail->J (i':Int) w':=λi' w' z' q1 q2 q3 q4 q5 q6=>by subst hJ;show _/\_;rw[ej];exact⟨⟨i',j+1,z',rfl,rfl,q1,oM,q2,by rw[<-q3,fb];omega,q3,q4,q5,q6⟩,by show _ - Int.toNat _<_ - Int.toNat _;omega⟩
  clear hJ;have d7:z[j]?=some l[j]:=by have h1:z[j]?=(z.drop j)[0]? :=(by rw[lh,jz]);rw[h1,d0,lh,jz];exact dt a0
  refine⟨_,⟨ha,oM,oM⟩,_,_,a5.row.ld' hk d7,newS.intro λa w3 x3 a9 d8 _=>stw0.intro a9 sI λw4 b4 _ c6=>⟨_,_,c6.ldc.pre rfl,?_⟩⟩;have c3:Ext w2 w4:=b4.ext x3 oM;have s2:=b2.1;have hm:l[j]∈l:=ff a0;refine hf _ hm w4 _ ((b2.trans (c3.but g)).below a7 hg) (λad h=>by rw[ha]at h;cases h;exact b2.trans (c3.but g)) (λh=>by rw[ha]at h;cases h) λw5 x5=>⟨_,rfl,λhd=>?_,λhd=>?_⟩
  all_goals
   have c4:=c3.trans x5;have s5:=c4.size;have b5:But g w w5:=b2.trans (c4.but g);have c9:=a5.ext c4
  .have b0:d l[j]=false:=(by simpa using hd);refine⟨_,_,(c6.ext x5).ldc.pre rfl,_,⟨ha,oM,oM⟩,c9.st hk (i:=i) (x:=l[j]) oM λw6 b6 d4=>?_⟩;have ei:Aa ((i:Int)+1)=((i+1:Nat):Int):=by rw[Ag oM (by unfold Ab at k4;omega)];omega
   rw[ei];refine kJ (i+1) w6 _ oM (by rw[iz,b9]) ?_ (by rw[og oM,a8]) (b5.trans b6) d4;rw[c8,<-a6,dw (by rw[iz];omega),od nR,nj];simp[b0]
  .have b0:d l[j]=true:=(by simpa using hd);refine kJ i w5 z oM b9 ?_ a8 b5 c9;rw[c8,<-a6];simp[b0]
 .have a0:j=l.length:=oM;subst a0;rw[eh]at a6 hi;have e2:i<l.length:=d3;have e1:(Sl.cut s (i:Int).toNat s.len 2).v= .slice (some ⟨g,i*2,none⟩) (l.length - i) (s.cap - i):=by unfold Sl.cut Sl.v;rw[ec,if_neg oM,ha,k1];simp only[je,G8]
  rw[e1];refine⟨⟨oM,oM⟩,?_⟩;have d5:(z.map depC).flatten++tail=((z.take i).map depC).flatten++(((z.drop i).map depC).flatten++tail):=by
   conv=>lhs;rw[<-fo i z]
   rw[fq,js,fg]
  have a4:((z.map depC).flatten++tail).length=s.cap*2:=by rw[<-d6,du,du,CE _ hk,CE _ hk,b9]
  unfold RowT at a5;rw[d5]at a5 a4;refine Y8 (k:=2) underlying34 Zlz rfl (λv hv=>by simp[Value.cells]at hv;rcases hv with rfl|rfl<;>rfl) (by rw[CE _ hk,fb];omega) (by rw[du,CE _ hk,fx];omega) ⟨rfl,rfl,a5⟩ λw3 back b3 a9 d2=>⟨⟨oM,oM⟩,?_⟩;have s2:=b2.1;refine hR _ w3 ((b2.trans b3).below a7 hg) (λad h=>by rw[ha]at h;cases h;exact b2.trans b3) (λh=>by rw[ha]at h;cases h) (λad h=>⟨_,ha,by unfold Sl.cut at h;simp only[ha]at h;split at h<;>cases h<;>rfl⟩) ?_;have d9:(l.filter λx=>!d x).length<=l.length:=ix _ _;refine RawT.mk (g:=g) (tail:=back) hk ?_ hg ?_ (by unfold Sl.cut;simp;exact hi) (by unfold Sl.cut;show _<=s.cap - 0;omega) (by unfold Sl.cut;show s.cap - 0<=_;omega) ?_
  .show(if _ then _ else _)=_;split
   .exact ha
   .rw[ha,lu];rfl
  .unfold RowT;rw[<-a6];exact a9.2.2
  .show _=(s.cap - 0)*2;rw[qf,<-a6,<-a4,du,du,d2]
end Go.Hal
/-
 DERIVED:THE SHELF's CONTRACTS AT THIS DUMP,IN PLAIN WORDS (tools/lay-plain.mjs out of 'YtkndmcejjebjfaaGreatDoorLayD.lean',which tools/lay-shelf.mjs wrote):THE SAME DECLARATIONS UNDER THE SAME NAMES:'import','namespace','open','def','theorem' AND NOTHING ELSE:no command of the shelf's:FOR A HAND-IN. Each laying:the table of numbers ('.._ren') and one theorem,a field a fact of the dump's own or the kernel's comparison;each contract:ONE APPLICATION.
-/
namespace Go.Proofs
def Tryz.layDp_ren:Go.Shelf.Ren:=⟨λ|6=>177|15=>93|14=>272|28=>172|29=>173|20=>326|21=>327|22=>328|23=>329|24=>330|25=>331|26=>332|27=>333|46=>372|47=>267|48=>268|49=>373|50=>374|57=>403|n=>n,λ|22=>34|24=>96|25=>256|3=>3|39=>180|0=>0|53=>253|55=>255|4=>4|46=>246|45=>245|50=>250|5=>5|9=>9|66=>326|70=>330|76=>376|77=>377|n=>n,λ|n=>n⟩
def Tryz.layDp:Go.Proofs.SlLaysF0.n6 prog Tryz.layDp_ren:=by repeat' first|kernel_rfl|exact Fk kR kR|(intro w;kernel_rfl)|constructor
end Go.Proofs
/-
 DERIVED:THE SHELF's CONTRACTS AT THIS DUMP,IN PLAIN WORDS (tools/lay-plain.mjs out of 'YtkndmcejjebjfaaGreatDoorLay6.lean',which tools/lay-shelf.mjs wrote):THE SAME DECLARATIONS UNDER THE SAME NAMES:'import','namespace','open','def','theorem' AND NOTHING ELSE:no command of the shelf's:FOR A HAND-IN. Each laying:the table of numbers ('.._ren') and one theorem,a field a fact of the dump's own or the kernel's comparison;each contract:ONE APPLICATION.
-/
namespace Go.Proofs
def Tryz.laySn_ren:Go.Shelf.Ren:=⟨λ|6=>88|15=>93|14=>162|28=>172|29=>173|20=>258|21=>259|22=>260|23=>261|24=>262|25=>263|26=>264|27=>265|46=>322|47=>267|48=>268|49=>323|50=>324|57=>371|n=>n,λ|22=>108|24=>3|25=>177|3=>3|39=>180|0=>0|53=>253|55=>255|4=>4|46=>246|45=>245|50=>250|5=>5|9=>9|66=>326|70=>330|76=>376|77=>377|n=>n,λ|n=>n⟩
def Tryz.laySn:Go.Proofs.SlLaysF.n6 prog Tryz.laySn_ren:=by repeat' first|kernel_rfl|exact Fk kR kR|(intro w;kernel_rfl)|constructor
def Tryz.layFi_ren:Go.Shelf.Ren:=⟨λ|6=>36|15=>93|14=>92|28=>172|29=>173|20=>164|21=>165|22=>166|23=>167|24=>168|25=>169|26=>170|27=>171|46=>266|47=>267|48=>268|49=>269|50=>270|57=>325|n=>n,λ|22=>56|24=>104|25=>111|3=>3|39=>180|0=>0|53=>253|55=>255|4=>4|46=>246|45=>245|50=>250|5=>5|9=>9|66=>326|70=>330|76=>376|77=>377|n=>n,λ|n=>n⟩
def Tryz.layFi:Go.Proofs.SlLaysF0.n6 prog Tryz.layFi_ren:=by repeat' first|kernel_rfl|exact Fk kR kR|(intro w;kernel_rfl)|constructor
def Tryz.layDi_ren:Go.Shelf.Ren:=⟨λ|6=>67|15=>93|14=>143|28=>172|29=>173|20=>229|21=>230|22=>231|23=>232|24=>233|25=>234|26=>235|27=>236|46=>306|47=>267|48=>268|49=>307|50=>308|57=>359|n=>n,λ|22=>40|24=>75|25=>150|3=>3|39=>180|0=>0|53=>253|55=>255|4=>4|46=>246|45=>245|50=>250|5=>5|9=>9|66=>326|70=>330|76=>376|77=>377|n=>n,λ|n=>n⟩
def Tryz.layDi:Go.Proofs.SlLaysF0.n6 prog Tryz.layDi_ren:=by repeat' first|kernel_rfl|exact Fk kR kR|(intro w;kernel_rfl)|constructor
def Tryz.laySnn_ren:Go.Shelf.Ren:=⟨λ|6=>88|15=>93|14=>162|28=>172|29=>173|20=>258|21=>259|22=>260|23=>261|24=>262|25=>263|26=>264|27=>265|46=>322|47=>267|48=>268|49=>323|50=>324|57=>371|n=>n,λ|22=>108|24=>3|25=>177|3=>3|39=>180|0=>0|53=>253|55=>255|4=>4|46=>246|45=>245|50=>250|5=>5|9=>9|66=>326|70=>330|76=>376|77=>377|n=>n,λ|n=>n⟩
def Tryz.laySnn:Go.Proofs.SlLaysF0.n6 prog Tryz.laySnn_ren:=by repeat' first|kernel_rfl|exact Fk kR kR|(intro w;kernel_rfl)|constructor
end Go.Proofs
namespace Go.Hal
open Go.Lib Go.Sort
def newS.ownL{α:Type}{E:Enc α}{f:α->LV}{l:List α}{t:TypeId}{k:Addr->Wp}(hE:∀x∈l,∀w S,E.rep w S x (f x))(a5:cs=(l.map f).flatten)(hl:l.length<=1000)
  (h:∀a w',Ext w w'->OwnS E t w' w.heap.size None' ⟨some a,l.length,l.length⟩ l->a.block=w.heap.size->k a w'):newS w cs t k:=λa w' ha hw=>by
 subst ha hw a5;have a4:∀cs∈l.map f,cs.length=E.n:=λcs hc=>by obtain⟨x,hx,rfl⟩:=gq.1 hc;exact E.len (hE x hx w None')
 have a0:((l.map f).flatten).length=l.length*E.n:=by
  have:∀(m:List (List Value)),(∀c∈m,c.length=E.n)->m.flatten.length=m.length*E.n:=by
   intro m;induction m with
   |nil=>intro _;simp
   |cons c m ih=>intro hm;rw[jc,du,hm c (.head _),ih λx hx=>hm x (.tail _ hx),fl,jx];omega
  rw[this _ a4,dz]
 refine h _ _ (Ext.alloc _ _) ⟨⟨l.map f,⟨a0,.inr ⟨w.heap.size,l.length,_,rfl,fm _,heap_alloc_new w _,fm _,by rw[Al];omega,by simpa using a0,?_⟩⟩,by simp,λi x hx=>?_⟩,rfl,λ_ h=>h.elim,λ_ _ h=>h.elim⟩ rfl
 .rw[qb,gj (Nat.le_of_eq a0)]
 .rw[gc,hx];exact⟨_,rfl,E.keep (hE x (gv hx) w None') ((Ext.alloc w _).keep _)⟩
def OwnS.pushL{α:Type}{E:Enc α}{P:Program}{t e t':TypeId}{l m:List α}{f:α->LV}{k:Sl->Wp}(h:OwnS E e w w0.heap.size None' s l)(hf:∀{w S S' x cs},E.rep w S x cs->E.rep w S' x cs)(x0:Ext w0 w)(hT:B0 P t e E.n E.bytes)
  (hE:∀x∈m,∀w S,E.rep w S x (f x)) (a6:cs=(m.map f).flatten) (hm:m.length<=1000) (h1:1<=E.bytes) (hb:(l.length+m.length)*E.bytes<=Ab)
  (hk:∀r w',OwnS E e w' w0.heap.size None' r (l++m)->Ext w0 w'->k r w'):newS w cs t' λa vw=>appS P t t s (Sl.v (Sl.mk (some a) m.length m.length)) vw k:=by
 have a4:∀n,n<=l.length+m.length->n*E.bytes<=Ab:=λn hn=>fe (ij _ hn) hb;have a7:l.length+m.length<=maxLen:=by have:(l.length+m.length)*1<=(l.length+m.length)*E.bytes:=qa _ h1;rw[Al];unfold Ab at hb;omega
 refine newS.ownL hE a6 hm λa w1 x1 o1 ha=>?_;have hs:=o1.read (a4 _ oM) oM;refine(h.ext x1).appAll hT (fe x0.size x1.size) hs (λb hb=>?_) (λad a0 hb=>?_) hb a7 λr w2 o2 bel _ _=>?_
 .rcases hb with hb|⟨ad,a0,rfl⟩
  .exact hb.elim
  .exact(o1.block a0).2.1
 .rcases hb with hb|⟨a8,a5,e⟩
  .exact hb.elim
  .cases a5;have:=(h.block a0).2.1;omega
 .exact hk r w2 (OwnS.flat hf o2) ((x0.trans x1).trans' bel)
structure FileC where
 path:Bs
 dir:Bool
 data:Bs
 deriving Inhabited
def E4(x:FileC):LV:=[.string x.path,.bool x.dir,.string x.data]
def fileE:Enc FileC:=DG 3 40 E4 (λx=>Ac x.path/\Ac x.data) (λ_=>rfl) (λ_ v hv=>by simp[E4]at hv;rcases hv with rfl|rfl|rfl<;>rfl)
def OU:B0 prog 56 104 3 40:=CD (z:=.agg #[.string ⟨#[]⟩,.bool false,.string ⟨#[]⟩]) kR kR rfl dC
def Zcp:∀w,(isAgg 104).run prog w= .ok true w:=λw=>by kernel_rfl
def Zip:∀w,(Go.sizeOf 104).run prog w= .ok 3 w:=λw=>by kernel_rfl
def Ye{a b:FileC}(hR:∀w',Gr w w'->R (A7 a.path b.path) w'):SE.K1 a.path a.dir a.data b.path b.dir b.data w R:=by unfold SE.K1;refine newS.gr λ_ w1 x1 hb=>newS.gr λ_ w2 x2 a0=>⟨_,Gr.at0 hb x2 rfl,_,Gr.at0 a0 (Gr.refl _) rfl,ET ⟨_,rfl,hR _ (x1.trans x2)⟩⟩
def ZJ:Bn prog 37:=enters_of func37 kR rfl
def Ziw{l:List FileC}(h:FlatO E4 40 w lo s l)(a0:lo<=w.heap.size)
  (hK:∀(l':List FileC) w',l'.Perm l->l'.Pairwise (λx y=>¬A7 y.path x.path<0)->Below lo w w'->FlatO E4 40 w' lo s l'->K (.tuple #[]) w'):
  callS prog 36 [s.v,.func (.func 37) #[] #[]] w K:=by
 obtain⟨h1,h2,h3,h4,h5⟩:=h;obtain⟨a,n,c⟩:=s;simp only at h1 h2 h3 h5;subst h1;rcases h5 with rfl|⟨g,tail,ha,hg,hr⟩
 .refine(AnyF.slices_SortFunc_none Tryz.layFi a c _ w).mono λe w' ⟨he,hw⟩=>⟨_,he,?_⟩;subst hw;exact hK [] _ (jf _) .nil (Below.refl _ _) ⟨rfl,h2,h3,h4,.inl rfl⟩
 .subst ha;have hO:=DB (α:=FileC) (·.path);refine F7 Tryz.layFi (k:=3) Zcp Zip (f:=E4) (λ_=>rfl) (λx v hv=>by simp[E4]at hv;rcases hv with rfl|rfl|rfl<;>rfl) (λa b=>A7 a.path b.path) (EU hO.flip hO.trans) 37 #[] ZJ (λw0 x y hb _=>?_) hr (by unfold Ab at h4;omega) rfl λl' w' hp hs b a4=>?_
  .have h:=SE.K1.go (k:=λv w'=>v= .int .i64 (A7 x.path y.path)/\Gr w0 w') (Ye (a:=x) (b:=y) (w:=w0) λw' h=>⟨rfl,h⟩);exact Calls.mono h λe w' ⟨v,he,hv,hg⟩=>⟨by rw[he,hv],hg⟩
  .exact hK l' w' hp hs (b.below a0 hg) ⟨hp.length_eq.symm,by rw[hp.length_eq];exact h2,h3,by rw[hp.length_eq];exact h4,.inr ⟨g,tail,rfl,hg,a4⟩⟩
end Go.Hal
namespace Go.Hal
def cW(a b:Want):Int:=A7 a.name b.name
def Gw(kind:Int)(over:LD)(d:Dep):Want:=⟨d.name,kind,Eb over d.name d.range⟩
def WU{l:List Want}(h:SlR O3 w S s l){n:Nat}(hn:n<l.length):
  ∃ad t,s.a=some ad/\S ad.block/\Ac l[n].name/\SlR spanE w S t l[n].range/\∀w',Ext w w'->ldc w' (ad.add (n*3)) [.string l[n].name,.int .i64 l[n].kind,t.v]:=by
 obtain⟨ad,cs,h1,h2,⟨h0,t,rfl,h5⟩,h4⟩:=h.el hn;exact⟨ad,t,h1,h2,h0,h5,h4⟩
def XJ:B0 prog 114 140 3 48:=CD (z:=.agg #[.string ⟨#[]⟩,vi 0,.slice none 0 0]) kR kR rfl dC
def R3{α:Type}{c:α->α->Int}(l:List α):(Bw c l).length=l.length:=(Gm l).length_eq
def FD(over a b:LD):List Want:=Bw cW (a.map (Gw 1 over)++b.map (Gw 2 over))
def EJ(m:Mani)(dev:Bool):LD:=if dev then m.deps++m.dev else m.deps
structure WantC where
 name:Bs
 kind:Int
 range:Sl
namespace StW
def cells(x:WantC):LV:=[.string x.name,vi x.kind,x.range.v]
def Q0:StG.Sh WantC:=⟨_,_,_,SE.Fb,WantC.name,WantC.kind,WantC.range,λ_ _ _=>rfl⟩
def G0:StG.Gos Q0:=⟨343,344,378,405,274,λ_ _ _ _ _ _ h=>SE.Rm.go h,λ_ _ _ _ _ _ _ h=>SE.Rv.go h,λ_ _ _ _ _ _ _ h=>SE.Ro.go h,λ_ _ _ _ _ _ _ h=>SE.Rt.go h,λ_ _ _ _ _ h=>SE.Rq.go h⟩
def CmpOk(cmp:Value)(c:WantC->WantC->Int)(g:Nat)(w0:Wd):Prop:=
 ∀(x y:WantC)(w:Wd)(k:Value->Wp),But g w0 w->(∀w',Ext w w'->k (.int .i64 (c x y)) w')->callV prog cmp [.agg (cells x).toArray,.agg (cells y).toArray] w k
def sortStable_se{cmp:Value}{c:WantC->WantC->Int}(hO:Ord3 c){data:Sl}{tail:LV}{R:Wp}{l:List WantC}(hd:data.a=some ⟨g,0,none⟩)(a0:data.len<2305843009213693952)(hc:CmpOk cmp c g w)(a4:data.len=l.length)(hB:RowB cells w g l tail)
  (hR:∀w',But g w w'->RowB cells w' g (Bw c l) tail->R w'):SE.IZ data cmp w R:=StG.sortStable_se (Q0:=Q0) G0 hO hd a0 hc a4 hB hR
def sortStable_nil{cmp:Value}{data:Sl}{R:Wp}(h0:data.len=0)(hR:R w):SE.IZ data cmp w R:=StG.sortStable_nil (Q0:=Q0) G0 h0 hR
end StW
end Go.Hal
namespace Go.Hal
def Zjf{α β:Type}{c:β->β->Int}{d:α->α->Int}(f:α->β){x:α}{l:List α}(h:∀y∈l,c (f x) (f y)=d x y):(Ci d x l).map f=Ci c (f x) (l.map f):=by
 induction l with
 |nil=>rfl
 |cons y r ih=>
  rw[ib,Ci,Ci,h y (.head _)];by_cases h1:d x y<=0
  .rw[if_pos h1,if_pos h1];rfl
  .rw[if_neg h1,if_neg h1,ib,ih λz hz=>h z (.tail _ hz)]
def Wq{α β:Type}{c:β->β->Int}{d:α->α->Int}(f:α->β){l:List α}(h:∀x∈l,∀y∈l,c (f x) (f y)=d x y):(Bw d l).map f=Bw c (l.map f):=by
 induction l with
 |nil=>rfl
 |cons x r ih=>rw[ib,Bw,Bw,<-ih λa ha b hb=>h a (.tail _ ha) b (.tail _ hb)];exact Zjf f λy hy=>h x (.head _) y (.tail _ ((Gm r).mem_iff.1 hy))
def wantT:Enc (Want×(Nat->Prop)) where
 n:=3
 bytes:=48
 rep:=λw S x cs=>wantP.rep w x.2 x.1 cs/\∀b,x.2 b->S b
 len:=λh=>wantP.len h.1
 one:=λh v hv=>wantP.one h.1 v hv
 mono:=λh hs=>⟨h.1,λb hb=>hs b (h.2 b hb)⟩
 keep:=λh hk=>⟨wantP.keep h.1 λb hb hl=>hk b (h.2 b hb) hl,h.2⟩
def RV(p q:Want×(Nat->Prop)):Prop:=∀b,p.2 b-> ¬q.2 b
def SepW(w:Wd)(S:Nat->Prop)(s:Sl)(L:List Want):Prop:=
 s.len=L.length/\s.cap=L.length/\(L=[]\/∃(g:Nat) (tail:LV) (z:List (WantC×(Want×(Nat->Prop)))),s.a=some ⟨g,0,none⟩/\S g/\RowB StW.cells w g (z.map Prod.fst) tail/\(z.map λq=>q.2.1)=L/\
  (∀q∈z,q.1.name=q.2.1.name/\q.1.kind=q.2.1.kind/\wantP.rep w q.2.2 q.2.1 (StW.cells q.1)/\∀b,q.2.2 b->S b/\b≠g)/\z.Pairwise λp q=>∀b,p.2.2 b-> ¬q.2.2 b)
def AllI(w:Wd)(lo:Nat)(out:Sl)(M:List Want):Prop:=
 ∃(vis:List (Want×(Nat->Prop))) (Q:Nat->Prop),OwnS wantT 140 w lo Q out vis/\vis.map Prod.fst=M/\(∀b,Q b->lo<=b)/\vis.Pairwise RV/\∀q∈vis,∀b,q.2 b->Q b
def AllI.ext(h:AllI w lo out M)(hx:Ext w w'):AllI w' lo out M:=by obtain⟨a0,Q,a,b,c,d,e⟩:=h;exact⟨a0,Q,a.ext hx,b,c,d,e⟩
def AllI.zero(w:Wd):AllI w w.heap.size Sl.nil []:=⟨[],None',OwnS.nil _ _,rfl,λ_ h=>h.elim,.nil,λ_ h=>by cases h⟩
def AllI.push{u:Sl}{x:Want}{K:Sl->Wp}(h:AllI w0 lo out M)(hx:Ext w0 w)(a6:lo<=w0.heap.size)(hN:Ac x.name)(hu:SlP spanE w (λb=>w0.heap.size<=b/\b<w.heap.size) u x.range)(hb:BoxAt w a [.string x.name,vi x.kind,u.v])(hm:(M.length+1)*48<=Ab)
  (hK:∀r w',Below lo w w'->AllI w' lo r (M++[x])->K r w'):appS prog 114 114 out (Sl.v ⟨some a,1,1⟩) w K:=by
 obtain⟨a7,Q,own,rfl,hQ,a5,a0⟩:=h;have s:=hx.size;have eb:wantT.bytes=48:=rfl;rw[dz]at hm;have a8:a7.length+1<=9000000000000:=by unfold Ab at hm;omega
 refine(own.ext hx).push XJ (fe a6 s) (x:=(x,λb=>w0.heap.size<=b/\b<w.heap.size)) (S':=λb=>w0.heap.size<=b/\b<w.heap.size) ⟨⟨hN,u,rfl,hu⟩,λ_ h=>h⟩ (hb.ldc.pre (r:=[]) rfl) (λb hb=>hb.2) (λad ha hb=>by have:=(own.block ha).2.1;omega) (by rw[eb];exact hm) (by rw[Al];omega) λr w' a4 bel _ _=>hK r w' bel ⟨_,_,a4,by rw[fq];rfl,λb hb=>?_,?_,λq hq b hb=>?_⟩
 .obtain hb|hb:=hb
  .exact hQ b hb
  .omega
 .refine ir.2 ⟨a5,kj _ _,λq hq y hy b hb hc=>?_⟩;rw[ep]at hy;subst hy;have h1:=own.lt b (a0 q hq b hb);have h2:w0.heap.size<=b/\b<w.heap.size:=hc;omega
 .obtain hq|hq:=fk.1 hq
  .exact .inl (a0 q hq b hb)
  .rw[ep]at hq;subst hq;exact .inr hb
def depsE:Enc (List Dep) where
 n:=1
 bytes:=24
 rep:=λw S l cs=>∃t:Sl,cs= [t.v]/\SlR depE w S t l
 len:=λ⟨_,h,_⟩=>by rw[h];rfl
 one:=λ⟨_,h,_⟩ v hv=>by rw[h]at hv;simp[Sl.v]at hv;subst hv;rfl
 mono:=λ⟨t,h,hr⟩ hs=>⟨t,h,hr.mono hs⟩
 keep:=λ⟨t,h,hr⟩ hk=>⟨t,h,hr.keep hk⟩
def ZY:Bn prog 182:=enters_of func182 kR rfl
def Fl(a b:WantC):Int:=A7 a.name b.name
def Yi:Ord3 Fl:=DB WantC.name
def X9(g:Nat)(w:Wd):StW.CmpOk (.func (.func 182) #[] #[]) Fl g w:=by intro x y w1 k _ hk;refine⟨_,_,rfl,ZY,SE.O4.go ?_⟩;unfold SE.O4;exact newS.intro λa w2 x2 ha _ _=>newS.intro λa1 w3 x3 a0 _ _=>⟨x.name,BoxAt.at0 ha x3 rfl,y.name,BoxAt.at0 a0 xR rfl,ET ⟨_,rfl,hk _ (x2.trans x3)⟩⟩
def XC{w1:Wd}{R:Sl->Wp}(hI:AllI w1 w.heap.size out M)(hx:Ext w w1)(hb:M.length*48<=Ab)
  (hR:∀t w',Ext w w'->SepW w' (λb=>w.heap.size<=b/\b<w'.heap.size) t (Bw cW M)->R t w'):
  callS prog 181 [out.v,Value.func (.func 182) #[] #[]] w1 λd0 c3=>d0=(Value.tuple #[])/\callS prog 183 [out.v] c3 λd1 c4=>∃(b9:Sl),d1=b9.v/\R b9 c4:=by
 obtain⟨a9,Q,own,rfl,hQ,c7,d5⟩:=hI;rw[dz]at hb;have a5:=own.len;have c5:a9.length<=9000000000000:=by unfold Ab at hb;omega
 have hf:∀(x:Want×(Nat->Prop)) cs,wantT.rep w1 Q x cs->∃y:WantC,cs=StW.cells y/\(y.name=x.1.name/\y.kind=x.1.kind/\wantT.rep w1 Q x (StW.cells y)):=λx cs h=>by obtain⟨⟨hN,s,rfl,a⟩,c6⟩:=h;exact⟨⟨x.1.name,x.1.kind,s⟩,rfl,rfl,rfl,⟨hN,s,rfl,a⟩,c6⟩
 rcases OwnS.rowG StW.cells (λ(y:WantC) (x:Want×(Nat->Prop))=>y.name=x.1.name/\y.kind=x.1.kind/\wantT.rep w1 Q x (StW.cells y)) hf own with⟨ho,hv⟩|⟨g,zz,tail,ha,b5,a8,a4,b8,d2,d3⟩
 .subst ho hv;refine SE.IZ.go (StW.sortStable_nil rfl ⟨rfl,SE.Om.go ⟨⟨by decide,by decide,by decide,by decide⟩,_,rfl,hR _ _ hx ?_⟩⟩);exact⟨rfl,rfl,.inl rfl⟩
 .have c9:zz.length=a9.length:=by rw[<-a8,dz]
  have b6:out.len=(zz.map Prod.fst).length:=by rw[dz,c9];exact a5
  refine SE.IZ.go (StW.sortStable_se Yi ha (by rw[a5];omega) (X9 g w1) b6 b8 λw2 b2 a7=>⟨rfl,?_⟩);have b4:(Bw (λp q:WantC×(Want×(Nat->Prop))=>Fl p.1 q.1) zz).map Prod.fst=Bw Fl (zz.map Prod.fst):=Wq (c:=Fl) Prod.fst λ_ _ _ _=>rfl;have a6:(Bw (λp q:WantC×(Want×(Nat->Prop))=>Fl p.1 q.1) zz).map (λq:WantC×(Want×(Nat->Prop))=>q.2.1)=Bw cW (zz.map λq=>q.2.1):=Wq (c:=cW) (λq:WantC×(Want×(Nat->Prop))=>q.2.1) λx hx y hy=>by unfold cW Fl;rw[(a4 x hx).1,(a4 y hy).1]
  have hM:(zz.map λq=>q.2.1)=a9.map Prod.fst:=by rw[<-a8,iy];rfl
  rw[hM]at a6;rw[<-b4]at a7;have a0:=Gm (c:=λp q:WantC×(Want×(Nat->Prop))=>Fl p.1 q.1) zz;generalize Bw (λp q:WantC×(Want×(Nat->Prop))=>Fl p.1 q.1) zz=zs at*;have d4:zs.length=zz.length:=a0.length_eq;have b0: ¬Q g:=own.apart _ ha;have x2:Ext w w2:=hx.trans' (b2.below hx.size b5);have b7:g<w2.heap.size:=a7.lt;have s2:=b2.1;refine SE.Om.go ⟨⟨oM,oM,oM,oM⟩,_,rfl,hR _ _ x2 ?_⟩;have c8:zs.Pairwise λp q=>∀b,p.2.2 b-> ¬q.2.2 b:=by have h1:(zz.map Prod.snd).Pairwise RV:=(by rw[a8];exact c7);rw[iq]at h1;exact(a0.pairwise_iff λ{x y} h b hb hc=>h b hc hb).2 h1
  refine⟨?_,?_,.inr ⟨g,tail,zs,?_,⟨b5,b7⟩,a7,a6,λq hq=>?_,c8⟩⟩
  .show(out.len:Int).toNat - 0=_;rw[R3,dz,a5];simp
  .show(out.len:Int).toNat - 0=_;rw[R3,dz,a5];simp
  .show(if _ then _ else _)=_;split
   .exact ha
   .rw[ha,lu];rfl
  .obtain⟨k1,k2,k3,k4⟩:=a4 q (a0.mem_iff.1 hq);refine⟨k1,k2,wantP.keep k3 (b2.keep λh=>b0 (k4 g h)),λb hb=>⟨⟨hQ b (k4 b hb),?_⟩,λe=>b0 (e▸k4 b hb)⟩⟩;have:=own.lt b (k4 b hb);omega
def WW{mD must may:Sl}{ms:List (List Dep)}{ml over:LD}{R:Sl->Wp}(hS:Old S w)(hV:SlR depE w S mOv over)(hM:SlR depsE w S must ms)(hY:SlR depE w S may ml)(hb:(ms.flatten.length+ml.length)*48<=Ab)
  (hR:∀t w',Ext w w'->SepW w' (λb=>w.heap.size<=b/\b<w'.heap.size) t (FD over ms.flatten ml)->R t w'):SE.Jl mD mDev mOpt mOv must may w R:=by
 unfold SE.Jl;have d8:=hM.len;have d9:=hY.len;refine newS.intro λa w1 x1 ha _ _=>?_;have s1:=x1.size;refine loop2.up hM.max (λout i w'=>Ext w1 w'/\AllI w' w1.heap.size out ((ms.take i).flatten.map (Gw 1 over))) ⟨Ext.refl _,AllI.zero _⟩ λout i w2 e8 hi ⟨x2,b8⟩ hn=>⟨λd4=>?_,λe0=>?_⟩
 .have b0:i<ms.length:=oM;obtain⟨ad,cs,d5,_,⟨t,rfl,ht⟩,hc⟩:=hM.el b0;have e7:=ht.len;have b6:(ms.take (i+1)).flatten=(ms.take i).flatten++ms[i]:=by rw[dw b0,js,jc,List.flatten_nil,gd]
  have d7:(ms.take i).flatten.length+ms[i].length<=ms.flatten.length:=by
   rw[<-du,<-b6];have:ms.flatten=(ms.take (i+1)).flatten++(ms.drop (i+1)).flatten:=by rw[<-js,fo]
   rw[this,du];omega
  refine⟨ad,⟨d5,oM,d4⟩,t,(hc _ (x1.trans x2)).pre (r:=[]) rfl,?_⟩;refine loop2.up ht.max (λout k w'=>Ext w1 w'/\AllI w' w1.heap.size out (((ms.take i).flatten++ms[i].take k).map (Gw 1 over))) ⟨x2,by rw[List.take_zero,gd];exact b8⟩ λd1 k w3 d0 hk ⟨x3,a4⟩ c6=>⟨λa9=>?_,λc9=>?_⟩
  .have a5:k<ms[i].length:=oM;have b2:=x1.trans x3;obtain⟨b7,u,c7,_,hN,hr,c5⟩:=BD ht a5;refine⟨b7,⟨c7,oM,a9⟩,_,u,c5 _ b2,newS.intro λa8 w4 x4 c3 d3 _=>stw0.intro c3 sI λw5 b5 _ a7=>bnd.drew λw6 x6=>?_⟩;have c8:Ext w3 w5:=b5.ext x4 oM;have a0:=c8.trans x6;have a6:=b2.trans a0;refine⟨_,a7.at0 x6 rfl,mD,mDev,mOpt,mOv,ha.at0 (r:=[]) (x3.trans a0) rfl,_,u,a7.at0 (r:=[]) x6 rfl,callX.intro (SE.H2.go (RK (hS.ext a6.size) (hV.ext a6) (hr.ext a6) λr7 w7 x7 hu=>⟨x7,_,rfl,newS.intro λd2 w8 x8 c4 _ _=>?_⟩))⟩;have b4:=x7.trans x8;have d6:=a0.size;have s8:=x8.size;have s3:=x3.size;refine(a4.ext a0).push (x:=Gw 1 over ms[i][k]) b4 oM hN ((hu.ext x8).mono λb hb=>⟨hb.1,oM⟩) c4 ?_ λr9 w9 bel b9=>c6 a5 _ _ ⟨(x3.trans (a0.trans b4)).trans' bel,?_⟩
   .rw[dz,du,fb];have:((ms.take i).flatten.length+min k ms[i].length+1)*48<=(ms.flatten.length+ml.length)*48:=ij _ oM;omega
   .rw[dw a5,<-fg,fq];exact b9
  .have:k=ms[i].length:=oM;rw[this,eh,<-b6]at a4;exact hn b0 _ _ ⟨x3,a4⟩
 .have:i=ms.length:=oM;rw[this,eh]at b8;refine loop2.up hY.max (λout k w'=>Ext w1 w'/\AllI w' w1.heap.size out (ms.flatten.map (Gw 1 over)++(ml.take k).map (Gw 2 over))) ⟨x2,by rw[List.take_zero,nw,gd];exact b8⟩ λd1 k w3 d0 hk ⟨x3,a4⟩ c6=>⟨λa9=>?_,λc9=>?_⟩
  .have a5:k<ml.length:=oM;have b2:=x1.trans x3;obtain⟨b7,u,c7,_,hN,hr,c5⟩:=BD hY a5;refine⟨b7,⟨c7,oM,a9⟩,_,u,c5 _ b2,newS.intro λa8 w4 x4 c3 d3 _=>stw0.intro c3 sI λw5 b5 _ a7=>bnd.drew λw6 x6=>?_⟩;have c8:Ext w3 w5:=b5.ext x4 oM;have a0:=c8.trans x6;have a6:=b2.trans a0;refine⟨_,a7.at0 x6 rfl,mD,mDev,mOpt,mOv,ha.at0 (r:=[]) (x3.trans a0) rfl,_,u,a7.at0 (r:=[]) x6 rfl,callX.intro (SE.H2.go (RK (hS.ext a6.size) (hV.ext a6) (hr.ext a6) λr7 w7 x7 hu=>⟨x7,_,rfl,newS.intro λd2 w8 x8 c4 _ _=>?_⟩))⟩;have b4:=x7.trans x8;have d6:=a0.size;have s8:=x8.size;have s3:=x3.size;refine(a4.ext a0).push (x:=Gw 2 over ml[k]) b4 oM hN ((hu.ext x8).mono λb hb=>⟨hb.1,oM⟩) c4 ?_ λr9 w9 bel b9=>c6 a5 _ _ ⟨(x3.trans (a0.trans b4)).trans' bel,?_⟩
   .rw[du,dz,dz,fb];have:(ms.flatten.length+min k ml.length+1)*48<=(ms.flatten.length+ml.length)*48:=ij _ oM;omega
   .rw[dw a5,fq,<-fg];exact b9
  .have:k=ml.length:=oM;rw[this,eh]at a4;refine XC a4 x3 (by rw[du,dz,dz];exact hb) λt w' hx hs=>hR _ _ (x1.trans hx) ?_;obtain⟨k1,k0,k2⟩:=hs;refine⟨k1,k0,k2.imp id λ⟨g,tail,z,e1,e2,e3,e4,e5,e6⟩=>⟨g,tail,z,e1,⟨oM,e2.2⟩,e3,e4,λq hq=>?_,e6⟩⟩;obtain⟨f1,f2,f3,f4⟩:=e5 q hq;exact⟨f1,f2,f3,λb hb=>⟨⟨by have:=(f4 b hb).1.1;omega,(f4 b hb).1.2⟩,(f4 b hb).2⟩⟩
def newS.ownS{α:Type}{E:Enc α}{t:TypeId}{x:α}{k:Addr->Wp}(hS:Old S w)(hx:E.rep w S x cs)(h:∀a w',Ext w w'->OwnS E t w' w.heap.size S ⟨some a,1,1⟩ [x]->a.block=w.heap.size->k a w'):newS w cs t k:=λa w' ha hw=>by
 subst ha hw;have hl:=E.len hx;refine h _ _ (Ext.alloc _ _) ⟨⟨[cs],⟨by simp[hl],.inr ⟨w.heap.size,1,cs.toArray,rfl,fm _,heap_alloc_new w _,fm _,by rw[Al];omega,by simp[hl],?_⟩⟩,rfl,λi y hy=>?_⟩,rfl,λb hb=>by have:=hS b hb;simp;omega,λad ha hb=>?_⟩ rfl
 .simp[hl,gj (Nat.le_of_eq hl)]
 .cases i with
  |zero=>simp only[ja,eu]at hy;subst hy;exact⟨cs,rfl,E.keep hx ((Ext.alloc w _).keep _)⟩
  |succ i=>simp at hy
 .simp only[eu]at ha;subst ha;have:=hS _ hb;simp at this
def XG:B0 prog 185 34 1 24:=CD (z:=.slice none 0 0) kR kR rfl dC
def Zlm{p:Pack}{pD pP pO mD:Sl}{over:LD}{R:Sl->Wp}(hS:Old S w)(hD:SlR depE w S pD p.deps)(hO:SlR depE w S pO p.opt)(hV:SlR depE w S mOv over)(hb:(p.deps.length+p.opt.length)*48<=Ab)
  (hR:∀t w',Ext w w'->SepW w' (λb=>w.heap.size<=b/\b<w'.heap.size) t (FD over p.deps p.opt)->R t w'):SE.M8 p.name p.v.ma p.v.mi p.v.pa pD pP pO mD mDev mOpt mOv w R:=by
 unfold SE.M8;refine newS.intro λa w1 x1 ha _ _=>newS.intro λa1 w2 x2 a7 _ _=>?_;have a9:=x1.trans x2;refine⟨mD,mDev,mOpt,mOv,BoxAt.at0 a7 xR rfl,pD,BoxAt.at1 ha x2 rfl,newS.intro λa4 w3 x3 a5 b0 _=>⟨pO,BoxAt.at1 ha (x2.trans x3) rfl,?_⟩⟩;have a0:=a9.trans x3;have s3:=a0.size;have a6:SlR depsE w3 (λb=>S b\/b=a4.block) ⟨some a4,1,1⟩ [p.deps]:=J6 (E:=depsE) a5 ⟨pD,rfl,hD.ext a0⟩ dC;have a8:=a5.lt;refine SE.Jl.go (WW (S:=λb=>S b\/b=a4.block) (ms:=[p.deps]) (over:=over) (ml:=p.opt) (λb hb=>?_) ((hV.ext a0).mono λ_ h=>.inl h) a6 ((hO.ext a0).mono λ_ h=>.inl h) (by simpa using hb) λt w4 x4 h4=>⟨_,rfl,hR _ _ (a0.trans x4) ?_⟩)
 .obtain hb|rfl:=hb
  .have:=hS b hb;omega
  .exact a8
 .rw[jc,List.flatten_nil,gd]at h4;obtain⟨k1,k0,k2⟩:=h4;refine⟨k1,k0,k2.imp id λ⟨g,tail,z,e1,e2,e3,e4,e5,e6⟩=>⟨g,tail,z,e1,⟨oM,e2.2⟩,e3,e4,λq hq=>?_,e6⟩⟩;obtain⟨f1,f2,f3,f4⟩:=e5 q hq;exact⟨f1,f2,f3,λb hb=>⟨⟨by have:=(f4 b hb).1.1;omega,(f4 b hb).1.2⟩,(f4 b hb).2⟩⟩
def Zll{mD:Sl}{dev:Bool}{R:Sl->Wp}(hS:Old S w)(hD:SlR depE w S mD m.deps)(hE:SlR depE w S mDev m.dev)(hO:SlR depE w S mOpt m.opt)(hV:SlR depE w S mOv m.over)(hb:(m.deps.length+m.dev.length+m.opt.length)*48<=Ab)
  (hR:∀t w',Ext w w'->SepW w' (λb=>w.heap.size<=b/\b<w'.heap.size) t (FD m.over (EJ m dev) m.opt)->R t w'):SE.M9 mD mDev mOpt mOv dev w R:=by
 unfold SE.M9;refine newS.intro λa w1 x1 ha _ _=>⟨mD,BoxAt.at0 ha xR rfl,?_⟩;refine newS.ownS (E:=depsE) (x:=m.deps) (S:=S) (hS.ext x1.size) ⟨mD,rfl,hD.ext x1⟩ λa1 w2 x2 own b7=>?_;have a9:=x1.trans x2;have s1:=x1.size;have s2:=x2.size;have eb:depsE.bytes=24:=rfl;refine join.named λJ hJ=>?_;have key:∀a0 w3 (ms:List (List Dep)),Ext w1 w3->SlR depsE w3 (λb=>S b\/(w.heap.size<=b/\b<w3.heap.size)) a0 ms->ms.flatten=EJ m dev->J a0 w3:=by
  subst hJ;intro a0 w3 ms x3 b2 a7;have a4:=x1.trans x3;have s3:=a4.size;have b6:(EJ m dev).length<=m.deps.length+m.dev.length:=by
   unfold EJ;split
   .rw[du];exact fm _
   .omega
  refine⟨mD,mDev,mOpt,mOv,BoxAt.at0 ha x3 rfl,mOpt,BoxAt.at1 ha x3 rfl,SE.Jl.go (WW (S:=λb=>S b\/(w.heap.size<=b/\b<w3.heap.size)) (over:=m.over) (ml:=m.opt) (λb hb=>?_) ((hV.ext a4).mono λ_ h=>.inl h) b2 ((hO.ext a4).mono λ_ h=>.inl h) (by rw[a7];have:((EJ m dev).length+m.opt.length)*48<=(m.deps.length+m.dev.length+m.opt.length)*48:=ij _ oM;omega) λt w4 x4 h4=>⟨_,rfl,hR _ _ (a4.trans x4) ?_⟩)⟩
  .obtain hb|hb:=hb
   .have:=hS b hb;omega
   .exact hb.2
  .rw[a7]at h4;obtain⟨k1,k0,k2⟩:=h4;refine⟨k1,k0,k2.imp id λ⟨g,tail,z,e1,e2,e3,e4,e5,e6⟩=>⟨g,tail,z,e1,⟨oM,e2.2⟩,e3,e4,λq hq=>?_,e6⟩⟩;obtain⟨f1,f2,f3,f4⟩:=e5 q hq;exact⟨f1,f2,f3,λb hb=>⟨⟨by have:=(f4 b hb).1.1;omega,(f4 b hb).1.2⟩,(f4 b hb).2⟩⟩
 refine⟨λh=>?_,λh=>?_⟩
 .subst h;refine⟨mDev,BoxAt.at1 ha x2 rfl,newS.intro λa8 w3 x3 b0 b5 _=>?_⟩;refine(own.ext x3).push XG (x2.trans x3).size (x:=m.dev) (S':=S) ⟨mDev,rfl,hE.ext (a9.trans x3)⟩ (b0.ldc.pre (r:=[]) rfl) (hS.ext (a9.trans x3).size) (λad ha hb=>(own.apart ad ha hb)) (by rw[eb];unfold Ab;simp) (by rw[Al];simp) λr w4 a5 bel _ _=>?_;have b4:Ext w1 w4:=(x2.trans x3).trans' bel;refine key _ _ [m.deps,m.dev] b4 ((a5.read (by rw[eb];unfold Ab;simp) (by rw[Al];simp)).mono λb hb=>?_) (by simp[EJ]);rcases hb with(hb|hb)|⟨ad,a6,rfl⟩
  .exact .inl hb
  .exact .inl hb
  .have:=a5.block a6;exact .inr ⟨oM,this.2.1⟩
 .subst h;refine key _ _ [m.deps] x2 ((own.read (by rw[eb];unfold Ab;simp) (by rw[Al];simp)).mono λb hb=>?_) (by simp[EJ]);rcases hb with hb|⟨ad,a6,rfl⟩
  .exact .inl hb
  .have:=own.block a6;exact .inr ⟨oM,this.2.1⟩
def SepW.read{L:List Want}(h:SepW w S s L)(hb:L.length*48<=Ab):SlR O3 w S s L:=by
 obtain⟨h1,h0,h2⟩:=h;have hm:L.length<=maxLen:=by rw[Al];unfold Ab at hb;omega
 refine⟨h1,by rw[h0];exact fm _,by rw[h0];exact hm,hb,?_⟩;rcases h2 with rfl|⟨g,tail,z,e1,e2,e3,e4,e5,e6⟩
 .exact .inl rfl
 .refine .inr ⟨_,e1,e2,λi x hx=>?_⟩;rw[<-e4,gc]at hx;cases hz:z[i]? with
  |none=>rw[hz]at hx;cases hx
  |some q=>rw[hz]at hx;simp only[je,eu]at hx;subst hx;obtain⟨f1,f2,⟨f3,u,f5,f6⟩,f4⟩:=e5 q (gv hz);refine⟨StW.cells q.1,⟨f3,u,f5,f6.1.mono λb hb=>(f4 b hb).1⟩,e3.ld' (f:=StW.cells) (k:=3) (λ_=>rfl) (by rw[gc,hz];rfl)⟩
structure Edge where
 name:Bs
 to:Int
 deriving DecidableEq
abbrev LQ:=List Edge
structure Node where
 name:Bs
 v:Ver
 ctx:LP
 edges:LQ
 deriving DecidableEq
abbrev LN:=List Node
abbrev Fe:=Bs×Ver×LP
def Node.key(n:Node):Fe:=(n.name,n.v,n.ctx)
structure Quest where
 L:List Pack
 m:Mani
 dev:Bool
 pins:LP
 D:Nat
 N:Nat
def rootNode:Node:=⟨⟨#[]⟩,⟨0,0,0⟩,[],[]⟩
def WX(q:Quest)(k:Nat)(n:Option Fe):List Want:=
 if k=0 then FD q.m.over (EJ q.m q.dev) q.m.opt else
  match n with
  |none=>[]
  |some n=>match AR q.L n.1 n.2.1 with
   |none=>[]
   |some p=>FD q.m.over p.deps p.opt
def keyAt(ns:LN)(k:Nat):Option Fe:=(ns.map Node.key)[k]?
def ctxAt(ns:LN)(k:Nat):LP:=match keyAt ns k with
 |some x=>x.2.2
 |none=>[]
def Quest.wants(q:Quest)(ns:LN)(k:Nat):List Want:=WX q k (keyAt ns k)
def Quest.cand(q:Quest)(c:LP)(w:Want):List Ver×Bool:=match tells c w.name with
 |some v=>(if BT w.range v then [v]else [],false)
 |none=>(D9 q.L w.name w.range q.pins,decide (w.kind=2))
def F1(x:List Ver×Bool):List (Option Ver):=x.1.map some++(if x.2 then [none]else [])
def Eu(e:LP)(n:Bs)(o:Option Ver):LP:=match o with
 |none=>e
 |some v=>if e.any (Aw n)then e else e++[⟨n,v⟩]
def Cj(q:Quest)(env:LP):LP->Option (List Node)
 | []=>some []
 |p::r=>match CZ q.L q.m.over env p with
  |none=>none
  |some c=>(Cj q env r).map λxs=>⟨p.name,p.v,c,[]⟩::xs
def Bv(N:Nat):List Fe->LN->Option (List Node×LQ)
 |_,[]=>some ([],[])
 |ks,x::xs=>match ks.findIdx? λy=>decide (y=x.key)with
  |some i=>(Bv N ks xs).map λr=>(r.1,⟨x.name,(i:Int)⟩::r.2)
  |none=>if ks.length=N then none else(Bv N (ks++[x.key]) xs).map λr=>(x::r.1,⟨x.name,(ks.length:Int)⟩::r.2)
def CI(ns:LN)(k:Nat)(es:LQ):LN:=ns.modify k λn=>{n with edges:=es}
inductive Bnd where
 |graph
 |many
 |ok (ns:LN)
def Quest.bind(q:Quest)(ns:LN)(k:Nat)(e:LP):Bnd:=match Cj q (BA e) (BA e)with
 |none=>.graph
 |some xs=>match Bv q.N (ns.map Node.key) xs with
  |none=>.many
  |some r=>.ok (CI ns k r.2++r.1)
inductive Out where
 |fail (t:Nat)
 |done (ns:LN) (t:Nat)
 |err (e:Int)
 |out
def F9(D:Nat)(k:Option Ver->Nat->Out):List (Option Ver)->Nat->Out
 | [],t=>.fail t
 |o::os,t=>if t=D then .err 31 else match k o (t+1)with
  | .fail t'=>F9 D k os t'
  |r=>r
def Quest.go(q:Quest):Nat->LN->Nat->List Want->LP->Nat->Out
 |0,_,_,_,_,_=> .out
 |f+1,ns,k,[],e,t=>match q.bind ns k e with
  | .graph=>.fail t
  | .many=>.err 32
  | .ok ns'=>if k+1=ns'.length then .done ns' t else q.go f ns' (k+1) (q.wants ns' (k+1)) (ctxAt ns' (k+1)) t
 |f+1,ns,k,w::l,e,t=>F9 q.D (λo t=>q.go f ns k l (Eu e w.name o) t) (F1 (q.cand (ctxAt ns k) w)) t
structure Ch where
 node:Nat
 name:Bs
 vs:List Ver
 none:Bool
 i:Nat
def Ch.many(c:Ch):Nat:=if c.none then c.vs.length+1 else c.vs.length
structure St where
 stack:List Ch
 ns:LN
 ahead:List Nat
 ws:List Want
 first:Nat
 dec:Nat
inductive Lb where
 |next
 |tri
 |back
inductive Stp where
 |go (l:Lb) (s:St)
 |done (ns:LN) (t:Nat)
 |err (e:Int)
def Quest.ch(q:Quest)(k:Nat)(c:LP)(w:Want):Ch:=⟨k,w.name,(q.cand c w).1,(q.cand c w).2,0⟩
def BW(e:LP)(c:Ch):LP:=Eu e c.name c.vs[c.i]?
def St.env(s:St):LP:=(s.stack.drop s.first).foldl BW (ctxAt s.ns s.ahead.length)
def Ba(l:List Ch):List Ch:=l.modify (l.length - 1) λc=>{c with i:=c.i+1}
def Quest.step(q:Quest):Lb->St->Stp
 | .next,s=>match s.ws[s.stack.length - s.first]? with
  |some w=>.go .tri {s with stack:=s.stack++[q.ch s.ahead.length (ctxAt s.ns s.ahead.length) w]}
  |none=>match q.bind s.ns s.ahead.length s.env with
   | .graph=>.go .back s
   | .many=>.err 32
   | .ok ns'=>if s.ahead.length+1=ns'.length then .done ns' s.dec else
     .go .next {s with ns:=ns',ahead:=s.ahead++[s.ns.length],ws:=q.wants ns' (s.ahead.length+1),first:=s.stack.length}
 | .tri,s=>match s.stack.getLast? with
  |none=>.err (-1)
  |some c=>if c.i<c.many then(if s.dec=q.D then .err 31 else .go .next {s with dec:=s.dec+1})else .go .back {s with stack:=s.stack.dropLast}
 | .back,s=>match s.stack.getLast? with
  |none=>.err 30
  |some c=>.go .tri {s with
    stack:=Ba s.stack
    ns:=(match s.ahead[c.node]? with|some a=>s.ns.take a|none=>s.ns)
    ahead:=s.ahead.take c.node
    ws:=q.wants (match s.ahead[c.node]? with|some a=>s.ns.take a|none=>s.ns) c.node
    first:=(Ba s.stack).findIdx λx=>decide (x.node=c.node)}
inductive Quest.To (q:Quest):Lb->St->Lb->St->Prop
 |refl (l:Lb) (s:St):Quest.To q l s l s
 |step {l l1 l2:Lb} {s s1 s2:St} (h:q.step l s= .go l1 s1) (k:Quest.To q l1 s1 l2 s2):Quest.To q l s l2 s2
inductive Quest.End (q:Quest):Lb->St->Stp->Prop
 |done {l:Lb} {s:St} {ns:LN} {t:Nat} (h:q.step l s= .done ns t):Quest.End q l s (.done ns t)
 |err {l:Lb} {s:St} {e:Int} (h:q.step l s= .err e):Quest.End q l s (.err e)
 |step {l l1:Lb} {s s1:St} {r:Stp} (h:q.step l s= .go l1 s1) (k:Quest.End q l1 s1 r):Quest.End q l s r
def Quest.To.trans{q:Quest}{a b c:Lb}{x y z:St}(h:q.To a x b y)(k:q.To b y c z):q.To a x c z:=by
 induction h with
 |refl=>exact k
 |step h _ ih=>exact .step h (ih k)
def Quest.To.ends{q:Quest}{a b:Lb}{x y:St}{r:Stp}(h:q.To a x b y)(k:q.End b y r):q.End a x r:=by
 induction h with
 |refl=>exact k
 |step h _ ih=>exact .step h (ih k)
def Alk(k:Nat)(a b:LN):Prop:=a.map Node.key=b.map Node.key/\∀i,i<k->a[i]?=b[i]?
def Alk.refl(k:Nat)(a:LN):Alk k a a:=⟨rfl,λ_ _=>rfl⟩
def Alk.len{k:Nat}{a b:LN}(h:Alk k a b):a.length=b.length:=by have:=congrArg List.length h.1;simpa using this
def Alk.trans{k:Nat}{a b c:LN}(h:Alk k a b)(g:Alk k b c):Alk k a c:=⟨h.1.trans g.1,λi hi=>(h.2 i hi).trans (g.2 i hi)⟩
def Alk.mono{k j:Nat}{a b:LN}(h:Alk k a b)(hj:j<=k):Alk j a b:=⟨h.1,λi hi=>h.2 i oM⟩
def Alk.take{k:Nat}{a b:LN}(h:Alk k a b)(n:Nat):Alk k (a.take n) (b.take n):=⟨by rw[List.map_take,List.map_take,h.1],λi hi=>by rw[lf,lf,h.2 i hi]⟩
def Alk.keyAt{k:Nat}{a b:LN}(h:Alk k a b)(i:Nat):Hal.keyAt a i=Hal.keyAt b i:=by unfold Hal.keyAt;rw[h.1]
def Alk.ctxAt{k:Nat}{a b:LN}(h:Alk k a b)(i:Nat):Hal.ctxAt a i=Hal.ctxAt b i:=by unfold Hal.ctxAt;rw[h.keyAt]
def Alk.wants{q:Quest}{k:Nat}{a b:LN}(h:Alk k a b)(i:Nat):q.wants a i=q.wants b i:=by unfold Quest.wants;rw[h.keyAt]
def Og(ns:LN)(k:Nat)(es:LQ):(CI ns k es).map Node.key=ns.map Node.key:=by
 unfold CI;apply pd;intro i;rw[gc,gc,mm];cases ns[i]? with
 |none=>rfl
 |some n=>by_cases h:k=i<;>simp[h,Node.key]
def IM(ns:LN)(k:Nat)(es:LQ):(CI ns k es).length=ns.length:=by unfold CI;rw[List.length_modify]
def QY{ns:LN}{k:Nat}{es:LQ}(h:i≠k):(CI ns k es)[i]?=ns[i]? :=by
 unfold CI;rw[mm];cases ns[i]? with
 |none=>rfl
 |some n=>simp[Ne.symm h]
def Alk.bind{q:Quest}{k:Nat}{a b:LN}{e:LP}(h:Alk k a b)(hk:k<a.length):
  (q.bind a k e= .graph/\q.bind b k e= .graph)\/(q.bind a k e= .many/\q.bind b k e= .many)\/∃a' b',q.bind a k e= .ok a'/\q.bind b k e= .ok b'/\Alk (k+1) a' b'/\Alk k (a'.take a.length) a/\a.length<=a'.length:=by
 unfold Quest.bind;cases Cj q (BA e) (BA e)with
 |none=>exact .inl ⟨rfl,rfl⟩
 |some xs=>
  rw[h.1];dsimp only;cases Bv q.N (b.map Node.key) xs with
  |none=>exact .inr (.inl ⟨rfl,rfl⟩)
  |some r=>
   refine .inr (.inr ⟨_,_,rfl,rfl,⟨?_,λi hi=>?_⟩,⟨?_,λi hi=>?_⟩,?_⟩)
   .rw[fq,fq,Og,Og,h.1]
   .have hl:=h.len;rw[fy (by rw[IM];omega),fy (by rw[IM];omega)];by_cases a4:i=k
    .subst a4;unfold CI;rw[mm,mm];have a0:=congrArg (·[i]?) h.1;simp only[gc]at a0;rw[dt hk,dt oM]at a0 ⊢;simp only[je,eu,Node.key,Prod.mk.injEq]at a0;simp[a0.1,a0.2.1,a0.2.2]
    .rw[QY a4,QY a4];exact h.2 i oM
   .rw[om (IM _ _ _),Og]
   .rw[om (IM _ _ _),QY oM]
   .rw[du,IM];omega
structure Rs(k:Nat)(s s':St):Prop where
 ahead:s'.ahead.take k=s.ahead
 nsl:s.ns.length<=s'.ns.length
 ns:Alk k (s'.ns.take s.ns.length) s.ns
 at_:∀a,s'.ahead[k]?=some a->a=s.ns.length
 eq:s'.ahead[k]?=none->s'.ns.length=s.ns.length
def Rs.refl{k:Nat}{s:St}(h:s.ahead.length=k):Rs k s s:=
 ⟨gj oM,fm _,by rw[eh];exact .refl _ _,λa ha=>(by rw[il oM]at ha;cases ha),λ_=>rfl⟩
structure Cor(q:Quest)(s:St)(ns:LN)(k:Nat)(σ cs:List Ch)(l:List Want)(e:LP)(t:Nat):Prop where
 hk:s.ahead.length=k
 lt:k<s.ns.length
 alk:Alk k s.ns ns
 ws:s.ws=q.wants ns k
 stack:s.stack=σ++cs
 first:s.first=σ.length
 left:l=(q.wants ns k).drop cs.length
 node:∀c∈cs,c.node=k
 low:∀c∈σ,c.node<k
 env:e=cs.foldl BW (ctxAt ns k)
 dec:s.dec=t
def Holds(q:Quest)(k:Nat)(lb:Lb)(s:St)(st:List Ch):Out->Prop
 | .out=>True
 | .fail t'=>∃s',q.To lb s .back s'/\s'.stack=st/\Rs k s s'/\s'.dec=t'
 | .done ns' t'=>q.End lb s (.done ns' t')
 | .err e=>q.End lb s (.err e)
def TY{p:Ch->Bool}{a b:List Ch}{c:Ch}(ha:∀x∈a,p x=false)(hc:p c=true):(a++c::b).findIdx p=a.length:=by
 induction a with
 |nil=>simp[List.findIdx_cons,hc]
 |cons x r ih=>rw[gu,List.findIdx_cons,ha x (.head _),ih λy hy=>ha y (.tail _ hy)];rfl
def GH(a:List Ch)(c:Ch):Ba (a++[c])=a++[{c with i:=c.i+1}]:=by unfold Ba;rw[du,gl,Nat.add_sub_cancel,List.modify_eq_take_drop];simp
def Vi(x:List Ver×Bool)(i:Nat):(F1 x)[i]?=if i<(if x.2 then x.1.length+1 else x.1.length)then some x.1[i]? else none:=by
 unfold F1;rw[me,dz];by_cases h:i<x.1.length
 .rw[if_pos h,gc,dt h,if_pos (by split<;>omega)];rfl
 .rw[if_neg h];cases hx:x.2 with
  |false=>simp[h]
  |true=>
   by_cases h2:i=x.1.length
   .subst h2;simp
   .have:i - x.1.length≠0:=oM;rw[if_pos rfl,if_pos rfl,if_neg oM];rw[il (by simp;omega)]
def Rs.trans_same{k:Nat}{s s1 s':St}(h1:s1.ahead=s.ahead)(h2:Alk k s1.ns s.ns)(h:Rs k s1 s'):Rs k s s':=by have hl:=h2.len;exact⟨h.ahead.trans h1,by rw[<-hl];exact h.nsl,by rw[<-hl];exact h.ns.trans h2,λa ha=>by rw[<-hl];exact h.at_ a ha,λha=>by rw[<-hl];exact h.eq ha⟩
section
variable {q:Quest}
def Wv(s:St):q.step .next s=(match s.ws[s.stack.length - s.first]? with
  |some w=>.go .tri {s with stack:=s.stack++[q.ch s.ahead.length (ctxAt s.ns s.ahead.length) w]}
  |none=>match q.bind s.ns s.ahead.length s.env with
   | .graph=>.go .back s
   | .many=>.err 32
   | .ok a0=>if s.ahead.length+1=a0.length then .done a0 s.dec else
     .go .next {s with ns:=a0,ahead:=s.ahead++[s.ns.length],ws:=q.wants a0 (s.ahead.length+1),first:=s.stack.length}):=rfl
def Zjr{s:St}(h:s.stack=[]):q.step .back s= .err 30:=by
 show(match s.stack.getLast? with
  |none=>Stp.err 30
  |some c=>_)=_
 rw[h];rfl
def R5{s:St}{a:List Ch}{c:Ch}(h:s.stack=a++[c]):q.step .tri s=if c.i<c.many then(if s.dec=q.D then .err 31 else .go .next {s with dec:=s.dec+1})else .go .back {s with stack:=a}:=by
 show(match s.stack.getLast? with
  |none=>Stp.err (-1)
  |some c=>if c.i<c.many then(if s.dec=q.D then .err 31 else .go .next {s with dec:=s.dec+1})else .go .back {s with stack:=s.stack.dropLast})=_
 rw[h,List.getLast?_append,mn];rfl
def Zjq{s:St}{a:List Ch}{c:Ch}(h:s.stack=a++[c]):q.step .back s= .go .tri {s with
    stack:=a++[{c with i:=c.i+1}]
    ns:=(match s.ahead[c.node]? with|some a=>s.ns.take a|none=>s.ns)
    ahead:=s.ahead.take c.node
    ws:=q.wants (match s.ahead[c.node]? with|some a=>s.ns.take a|none=>s.ns) c.node
    first:=(a++[{c with i:=c.i+1}]).findIdx λx:Ch=>decide (x.node=c.node)}:=by
 show(match s.stack.getLast? with
  |none=>Stp.err 30
  |some c=>.go .tri {s with
    stack:=Ba s.stack
    ns:=(match s.ahead[c.node]? with|some a=>s.ns.take a|none=>s.ns)
    ahead:=s.ahead.take c.node
    ws:=q.wants (match s.ahead[c.node]? with|some a=>s.ns.take a|none=>s.ns) c.node
    first:=(Ba s.stack).findIdx λx:Ch=>decide (x.node=c.node)})=_
 rw[h,List.getLast?_append,GH];rfl
def VW{f:Nat}{ns:LN}{k:Nat}{σ cs:List Ch}{w:Want}{l:List Want}{e:LP}
  (ih:∀(s:St)(cs:List Ch)(e:LP)(t:Nat),Cor q s ns k σ cs l e t->Holds q k .next s s.stack (q.go f ns k l e t))
  (hl:w::l=(q.wants ns k).drop cs.length) (hn:∀c∈cs,c.node=k) (a5:∀c∈σ,c.node<k) (he:e=cs.foldl BW (ctxAt ns k)):
  ∀(os:List (Option Ver)) (i t:Nat) (s:St),(F1 (q.cand (ctxAt ns k) w)).drop i=os->s.ahead.length=k->k<s.ns.length->Alk k s.ns ns->s.ws=q.wants ns k->s.stack=σ++cs++[{q.ch k (ctxAt ns k) w with i:=i}]->s.first=σ.length->s.dec=t->
   Holds q k .tri s (σ++cs) (F9 q.D (λo t=>q.go f ns k l (Eu e w.name o) t) os t)
 | [],i,t,s,ho,hk,hlt,ha,hws,hst,hf,hd=>by
  refine⟨{s with stack:=s.stack.dropLast},.step (s1:={s with stack:=s.stack.dropLast}) ?_ (.refl _ _),by rw[hst];simp,⟨gj (by simp;omega),fm _,by rw[eh];exact .refl _ _,λa h=>(by rw[il (by simp;omega)]at h;cases h),λ_=>rfl⟩,hd⟩;have h1:=Vi (q.cand (ctxAt ns k) w) i;have h2:(F1 (q.cand (ctxAt ns k) w))[i]?=none:=by have:=congrArg (·[0]?) ho;simpa using this
  rw[h2]at h1;have h3: ¬i<Ch.many {q.ch k (ctxAt ns k) w with i:=i}:=λh=>by rw[if_pos (show i<(if(q.cand (ctxAt ns k) w).2 then(q.cand (ctxAt ns k) w).1.length+1 else(q.cand (ctxAt ns k) w).1.length)from h)]at h1;cases h1
  rw[R5 hst,if_neg h3,hst,mn]
 |o::os,i,t,s,ho,hk,hlt,ha,hws,hst,hf,hd=>by
  have h1:=Vi (q.cand (ctxAt ns k) w) i;have h2:(F1 (q.cand (ctxAt ns k) w))[i]?=some o:=by have:=congrArg (·[0]?) ho;simpa using this
  have b9:(F1 (q.cand (ctxAt ns k) w)).drop (i+1)=os:=by have:=congrArg List.tail ho;simpa using this
  rw[h2]at h1;have h3:i<Ch.many {q.ch k (ctxAt ns k) w with i:=i}:=by
   by_cases h:i<(if(q.cand (ctxAt ns k) w).2 then(q.cand (ctxAt ns k) w).1.length+1 else(q.cand (ctxAt ns k) w).1.length)
   .exact h
   .rw[if_neg h]at h1;cases h1
  rw[if_pos (show i<(if(q.cand (ctxAt ns k) w).2 then(q.cand (ctxAt ns k) w).1.length+1 else(q.cand (ctxAt ns k) w).1.length)from h3)]at h1;have b8:o=(q.cand (ctxAt ns k) w).1[i]? :=by simpa using h1
  rw[F9];by_cases hD:t=q.D
  .rw[if_pos hD];exact .err (by rw[R5 hst,if_pos h3,if_pos (hd.trans hD)])
  .rw[if_neg hD];have a4:q.step .tri s= .go .next {s with dec:=s.dec+1}:=by rw[R5 hst,if_pos h3,if_neg (by rw[hd];exact hD)]
   have b4:Cor q {s with dec:=s.dec+1} ns k σ (cs++[{q.ch k (ctxAt ns k) w with i:=i}]) l (Eu e w.name o) (t+1):=by
    refine⟨hk,hlt,ha,hws,by rw[<-fg];exact hst,hf,?_,λc hc=>?_,a5,?_,by simp[hd]⟩
    .have:=congrArg List.tail hl;simpa using this
    .obtain hc|hc:=fk.1 hc
     .exact hn c hc
     .rw[ep]at hc;subst hc;rfl
    .rw[List.foldl_append,<-he,b8];rfl
   have b7:=ih _ _ _ _ b4;revert b7;cases q.go f ns k l (Eu e w.name o) (t+1)with
   |out=>exact λ_=>trivial
   |done c5 t'=>exact λh=>.step a4 h
   |err e'=>exact λh=>.step a4 h
   |fail t'=>
    rintro⟨s3,c4,c3,a6,b5⟩;show Holds q k .tri s (σ++cs) (F9 q.D _ os t');have b0:s3.stack=σ++cs++[{q.ch k (ctxAt ns k) w with i:=i}]:=c3.trans hst;have a0:Alk k (match s3.ahead[k]? with|some a=>s3.ns.take a|none=>s3.ns) s.ns:=by
     cases h:s3.ahead[k]? with
     |none=>have h4:=a6.ns;rw[<-a6.eq h,eh]at h4;exact h4
     |some a=>have h4:=a6.at_ a h;subst h4;exact a6.ns
    generalize hN:(match s3.ahead[k]? with|some a=>s3.ns.take a|none=>s3.ns)=N at a0;have b2:q.step .back s3= .go .tri {s3 with stack:=σ++cs++[{q.ch k (ctxAt ns k) w with i:=i+1}],ns:=N,ahead:=s.ahead,ws:=q.wants ns k,first:=σ.length}:=by
     rw[Zjq b0];have a7:(q.ch k (ctxAt ns k) w).node=k:=rfl;dsimp only;rw[a7,hN,(a0.trans ha).wants,a6.ahead];have b6:∀c:Ch,c.node=k->(σ++cs++[c]).findIdx (λx:Ch=>decide (x.node=k))=σ.length:=λc hc=>by
      rw[fg];have hp:∀x∈σ,(λx:Ch=>decide (x.node=k)) x=false:=λx hx=>by have:=a5 x hx;simp;omega
      cases cs with
      |nil=>exact TY hp (by simp[hc])
      |cons c r=>exact TY hp (by simpa using hn c (.head _))
     rw[b6 _ rfl]
    have a9:=VW ih hl hn a5 he os (i+1) t' {s3 with stack:=σ++cs++[{q.ch k (ctxAt ns k) w with i:=i+1}],ns:=N,ahead:=s.ahead,ws:=q.wants ns k,first:=σ.length} b9 hk (by rw[show({s3 with stack:=_,ns:=N,ahead:=s.ahead,ws:=q.wants ns k,first:=σ.length}:St).ns=N from rfl,a0.len];exact hlt) (a0.trans ha) rfl rfl rfl b5;have a8:q.To .tri s .tri {s3 with stack:=σ++cs++[{q.ch k (ctxAt ns k) w with i:=i+1}],ns:=N,ahead:=s.ahead,ws:=q.wants ns k,first:=σ.length}:=.step a4 (c4.trans (.step b2 (.refl _ _)));revert a9;cases F9 q.D (λo t=>q.go f ns k l (Eu e w.name o) t) os t' with
    |out=>exact λ_=>trivial
    |done c5 t'=>exact λh=>a8.ends h
    |err e'=>exact λh=>a8.ends h
    |fail t'=>rintro⟨s5,h5,h6,h7,h8⟩;exact⟨s5,a8.trans h5,h6,Rs.trans_same (s1:={s3 with stack:=σ++cs++[{q.ch k (ctxAt ns k) w with i:=i+1}],ns:=N,ahead:=s.ahead,ws:=q.wants ns k,first:=σ.length}) rfl a0 h7,h8⟩
def X8{k:Nat}{a b:LN}(h:Alk k a b)(hl:a.length<=k):a=b:=by
 apply pd;intro i;obtain hi|hi:=qg i k
 .exact h.2 i hi
 .rw[il oM,il (by have:=h.len;omega)]
def Re:∀(f:Nat)(s:St)(ns:LN)(k:Nat)(σ cs:List Ch)(l:List Want)(e:LP)(t:Nat),Cor q s ns k σ cs l e t->Holds q k .next s s.stack (q.go f ns k l e t)
 |0,_,_,_,_,_,_,_,_,_=>by rw[Quest.go];trivial
 |f+1,s,ns,k,σ,cs,[],e,t,h=>by
  have a5:s.stack.length - s.first=cs.length:=by rw[h.stack,h.first,du];omega
  have hw:s.ws[s.stack.length - s.first]?=none:=by rw[a5,h.ws];have:=congrArg (·[0]?) h.left;simpa using this.symm
  have a6:s.env=e:=by unfold St.env;rw[h.stack,h.first,List.drop_left' rfl,h.hk,h.alk.ctxAt,<-h.env]
  have a0:=Wv (q:=q) s;rw[hw,a6,h.hk]at a0;dsimp only at a0;rw[Quest.go];rcases h.alk.bind (e:=e) h.lt with⟨b1,b2⟩|⟨b1,b2⟩|⟨a',b',b1,b2,a4,b4,b0⟩
  .rw[b2];rw[b1]at a0;exact⟨s,.step a0 (.refl _ _),rfl,Rs.refl h.hk,h.dec⟩
  .rw[b2];rw[b1]at a0;exact .err a0
  .rw[b2];rw[b1]at a0;dsimp only at a0 ⊢;have a7:=a4.len;have b6:=h.lt;rw[<-a7];by_cases hd:k+1=a'.length
   .rw[if_pos hd]at a0 ⊢;obtain rfl:=X8 a4 oM;rw[h.dec]at a0;exact .done a0
   .rw[if_neg hd]at a0 ⊢;have a8:Cor q {s with ns:=a',ahead:=s.ahead++[s.ns.length],ws:=q.wants a' (k+1),first:=s.stack.length} b' (k+1) s.stack [] (q.wants b' (k+1)) (ctxAt b' (k+1)) t:=by
     refine⟨by simp[h.hk],by show k+1<a'.length;omega,a4,(by show q.wants a' (k+1)=_;exact a4.wants _),by simp,rfl,by simp,λc hc=>(by cases hc),λc hc=>?_,rfl,h.dec⟩;rw[h.stack]at hc;obtain hc|hc:=fk.1 hc
     .have:=h.low c hc;omega
     .rw[h.node c hc];omega
    have a9:=Re f _ _ _ _ _ _ _ _ a8;revert a9;cases q.go f b' (k+1) (q.wants b' (k+1)) (ctxAt b' (k+1)) t with
    |out=>exact λ_=>trivial
    |done b5 t'=>exact λg=>.step a0 g
    |err e'=>exact λg=>.step a0 g
    |fail t'=>
     rintro⟨s',g1,g2,g3,g4⟩;have hk:=h.hk;refine⟨s',.step a0 g1,g2,?_,g4⟩;have h5:s'.ahead.take (k+1)=s.ahead++[s.ns.length]:=g3.ahead;have h6:s'.ahead[k]?=some s.ns.length:=by have:=congrArg (·[k]?) h5;simp only[lf]at this;rw[if_pos oM,gp oM]at this;simpa[hk]using this
     have h7:a'.length<=s'.ns.length:=g3.nsl;have h8:Alk (k+1) (s'.ns.take a'.length) a':=g3.ns;refine⟨?_,oM,?_,λa ha=>?_,λha=>?_⟩
     .have:=congrArg (List.take k) h5;rw[List.take_take,ju oM,om hk]at this;exact this
     .have h9:=(h8.take s.ns.length).mono (j:=k) oM;rw[List.take_take,ju b0]at h9;exact h9.trans b4
     .rw[h6]at ha;simpa using ha.symm
     .rw[h6]at ha;cases ha
 |f+1,s,ns,k,σ,cs,w::l,e,t,h=>by
  have a5:s.stack.length - s.first=cs.length:=by rw[h.stack,h.first,du];omega
  have hw:s.ws[s.stack.length - s.first]?=some w:=by rw[a5,h.ws];have:=congrArg (·[0]?) h.left;simpa using this.symm
  have a0:q.step .next s= .go .tri {s with stack:=s.stack++[q.ch k (ctxAt ns k) w]}:=by rw[Wv,hw,h.hk,h.alk.ctxAt]
  rw[Quest.go];have hr:=VW (q:=q) (f:=f) (ns:=ns) (k:=k) (σ:=σ) (cs:=cs) (w:=w) (l:=l) (e:=e) (λs cs e t hc=>Re f s ns k σ cs l e t hc) h.left h.node h.low h.env (F1 (q.cand (ctxAt ns k) w)) 0 t {s with stack:=s.stack++[q.ch k (ctxAt ns k) w]} rfl h.hk h.lt h.alk h.ws (by show s.stack++_=_;rw[h.stack];rfl) h.first h.dec;revert hr;cases F9 q.D (λo t=>q.go f ns k l (Eu e w.name o) t) (F1 (q.cand (ctxAt ns k) w)) t with
  |out=>exact λ_=>trivial
  |done b5 t'=>exact λg=>.step a0 g
  |err e'=>exact λg=>.step a0 g
  |fail t'=>rintro⟨s',g1,g2,g3,g4⟩;exact⟨s',.step a0 g1,g2.trans h.stack.symm,⟨g3.ahead,g3.nsl,g3.ns,g3.at_,g3.eq⟩,g4⟩
def Quest.start(q:Quest):St:=⟨[],[rootNode],[],q.wants [rootNode] 0,0,0⟩
def Quest.fuel(q:Quest):Nat:=q.D+q.N+2
def Quest.run(q:Quest):Out:=q.go q.fuel [rootNode] 0 (q.wants [rootNode] 0) [] 0
def Zh8:match q.run with
  | .out=>True
  | .fail _=>q.End .next q.start (.err 30)
  | .done ns t=>q.End .next q.start (.done ns t)
  | .err e=>q.End .next q.start (.err e):=by
 have h:=Re q.fuel q.start [rootNode] 0 [] [] (q.wants [rootNode] 0) [] 0 ⟨rfl,Nat.one_pos,.refl _ _,rfl,rfl,rfl,rfl,λc h=>(by cases h),λc h=>(by cases h),rfl,rfl⟩;unfold Quest.run;revert h;cases q.go q.fuel [rootNode] 0 (q.wants [rootNode] 0) [] 0 with
 |out=>exact λ_=>trivial
 |done ns t=>exact λh=>h
 |err e=>exact λh=>h
 |fail t=>rintro⟨s',h1,h2,_,_⟩;exact h1.ends (.err (Zjr h2))
end
end Go.Hal
namespace Go.Hal
def QC{N:Nat}:∀{xs:LN} {ks:List Fe} {r:LN×LQ},Bv N ks xs=some r->ks.length<=N->ks.length+r.1.length<=N
 | [],ks,r,h,hl=>by rw[Bv]at h;cases h;simpa using hl
 |x::xs,ks,r,h,hl=>by
  rw[Bv]at h;cases hf:ks.findIdx? λy=>decide (y=x.key)with
  |some i=>rw[hf]at h;obtain⟨r',h1,h2⟩:=jy.1 h;subst h2;have:=QC h1 hl;exact this
  |none=>
   rw[hf]at h;dsimp only at h;by_cases hN:ks.length=N
   .rw[if_pos hN]at h;cases h
   .rw[if_neg hN]at h;obtain⟨r',h1,h2⟩:=jy.1 h;subst h2;have:=QC h1 (by simp;omega);simp at this ⊢;omega
def MU{q:Quest}{ns ns':LN}{k:Nat}{e:LP}(h:q.bind ns k e= .ok ns')(hl:ns.length<=q.N):ns.length<=ns'.length/\ns'.length<=q.N:=by
 unfold Quest.bind at h;cases h1:Cj q (BA e) (BA e)with
 |none=>rw[h1]at h;cases h
 |some xs=>
  rw[h1]at h;dsimp only at h;cases h2:Bv q.N (ns.map Node.key) xs with
  |none=>rw[h2]at h;cases h
  |some r=>rw[h2]at h;cases h;have:=QC h2 (by simpa using hl);rw[du,IM];simp at this;omega
def Fine(q:Quest)(t:Nat):Out->Prop
 | .out=>False
 | .fail t'=>t<=t'/\t'<=q.D
 | .done ns' t'=>t<=t'/\t'<=q.D/\ns'.length<=q.N
 | .err e=>e=31\/e=32
def Fine.mono{q:Quest}{t t2:Nat}{o:Out}(h:Fine q t2 o)(ht:t<=t2):Fine q t o:=by
 cases o with
 |out=>exact h
 |fail t'=>exact⟨fe ht h.1,h.2⟩
 |done a0 t'=>exact⟨fe ht h.1,h.2⟩
 |err e=>exact h
def WI{q:Quest}{k:Option Ver->Nat->Out}{m:Nat}(hk:∀o t,m<t->t<=q.D->Fine q t (k o t)):∀(os:List (Option Ver)) (t:Nat),m<=t->t<=q.D->Fine q t (F9 q.D k os t)
 | [],t,_,ht=>⟨fm _,ht⟩
 |o::os,t,hm,ht=>by
  rw[F9];by_cases hD:t=q.D
  .rw[if_pos hD];exact .inl rfl
  .rw[if_neg hD];have h:=hk o (t+1) oM oM;revert h;cases k o (t+1)with
   |out=>exact λh=>h.elim
   |done a0 t'=>exact λh=>Fine.mono (o:=.done a0 t') h (Nat.le_succ _)
   |err e=>exact λh=>h
   |fail t'=>exact λh=>(WI hk os t' (by have:=h.1;omega) h.2).mono (by have:=h.1;omega)
def PW{q:Quest}:∀(f:Nat)(ns:LN)(k:Nat)(l:List Want)(e:LP)(t:Nat),t<=q.D->k<ns.length->ns.length<=q.N->(q.D - t)+(q.N - k)+1<=f->Fine q t (q.go f ns k l e t)
 |0,_,_,_,_,_,_,_,_,hf=>by omega
 |f+1,ns,k,[],e,t,ht,hk,hN,hf=>by
  rw[Quest.go];cases h:q.bind ns k e with
  |graph=>exact⟨fm _,ht⟩
  |many=>exact .inr rfl
  |ok a0=>
   obtain⟨h1,h2⟩:=MU h hN;dsimp only;split
   .exact⟨fm _,ht,h2⟩
   .exact PW f a0 (k+1) _ _ t ht oM h2 oM
 |f+1,ns,k,w::l,e,t,ht,hk,hN,hf=>by rw[Quest.go];exact WI (m:=t) (λo t2 h1 h2=>PW f ns k l _ t2 h2 hk hN oM) _ t nR ht
def QV{q:Quest}(hN:1<=q.N):Fine q 0 q.run:=PW _ _ _ _ _ _ (gn _) Nat.one_pos hN (by unfold Quest.fuel;omega)
def Quest.res(q:Quest):Stp:=match q.run with
 | .out=>.err 0
 | .fail _=> .err 30
 | .done ns t=>.done ns t
 | .err e=>.err e
def Zh9{q:Quest}(hN:1<=q.N):q.End .next q.start q.res:=by
 have h1:=QV hN;have h2:=Zh8 (q:=q);unfold Quest.res;revert h1 h2;cases q.run with
 |out=>exact λh=>h.elim
 |fail t=>exact λ_ h=>h
 |done ns t=>exact λ_ h=>h
 |err e=>exact λ_ h=>h
def edgeE:Enc Edge:=DG 2 24 (λx=>[.string x.name,vi x.to]) (λx=>Ac x.name) (λ_=>rfl) (λ_ v hv=>by simp at hv;rcases hv with rfl|rfl<;>rfl)
def nodeE:Enc Node where
 n:=6
 bytes:=88
 rep:=λw S x cs=>Ac x.name/\∃c e:Sl,cs= [.string x.name,vi x.v.ma,vi x.v.mi,vi x.v.pa,c.v,e.v]/\SlR pinE w S c x.ctx/\SlR edgeE w S e x.edges
 len:=λ⟨_,_,_,h,_⟩=>by rw[h];rfl
 one:=λ⟨_,_,_,h,_⟩ v hv=>by rw[h]at hv;simp[Sl.v]at hv;rcases hv with rfl|rfl|rfl|rfl|rfl|rfl<;>rfl
 mono:=λ⟨h0,c,e,h,a,b⟩ hs=>⟨h0,c,e,h,a.mono hs,b.mono hs⟩
 keep:=λ⟨h0,c,e,h,a,b⟩ hk=>⟨h0,c,e,h,a.keep hk,b.keep hk⟩
def chE:Enc Ch where
 n:=5
 bytes:=64
 rep:=λw S x cs=>Ac x.name/\∃v:Sl,cs= [vi x.node,.string x.name,v.v,.bool x.none,vi x.i]/\SlR verE w S v x.vs
 len:=λ⟨_,_,h,_⟩=>by rw[h];rfl
 one:=λ⟨_,_,h,_⟩ v hv=>by rw[h]at hv;simp[Sl.v]at hv;rcases hv with rfl|rfl|rfl|rfl|rfl<;>rfl
 mono:=λ⟨h0,c,h,a⟩ hs=>⟨h0,c,h,a.mono hs⟩
 keep:=λ⟨h0,c,h,a⟩ hk=>⟨h0,c,h,a.keep hk⟩
def S5:B0 prog 132 137 5 64:=CD (z:=.agg #[vi 0,.string ⟨#[]⟩,.slice none 0 0,.bool false,vi 0]) kR kR rfl dC
def OW:B0 prog 37 72 6 88:=CD (z:=.agg #[.string ⟨#[]⟩,vi 0,vi 0,vi 0,.slice none 0 0,.slice none 0 0]) kR kR rfl dC
def MQ:B0 prog 70 168 2 24:=CD (z:=.agg #[.string ⟨#[]⟩,vi 0]) kR kR rfl dC
def OV:B0 prog 108 3 1 8:=CD (z:=.int .i64 0) kR kR rfl dC
structure K7 where
 cp:Addr
 mD:Sl
 mDev:Sl
 mOpt:Sl
 mOv:Sl
 dev:Bool
 pS:Sl
def CK(K:K7)(stk nds ahd ws:Sl)(first:Nat):LV:=[.pointer (some K.cp),K.mD.v,K.mDev.v,K.mOpt.v,K.mOv.v,.bool K.dev,K.pS.v,stk.v,nds.v,ahd.v,ws.v,vi first]
structure Cs(w:Wd)(lo:Nat)(q:Quest)(K:K7):Prop where
 cat:∃S r,CatL w S K.cp r q.L/\(∀b,S b->b<lo)/\r<lo/\K.cp.block<lo
 deps:SlR depE w (· <lo) K.mD q.m.deps
 dv:SlR depE w (· <lo) K.mDev q.m.dev
 opt:SlR depE w (· <lo) K.mOpt q.m.opt
 over:SlR depE w (· <lo) K.mOv q.m.over
 pins:SlR pinE w (· <lo) K.pS q.pins
 dev:K.dev=q.dev
 le:lo<=w.heap.size
 small:q.m.deps.length+q.m.dev.length+q.m.opt.length<=48
def Cs.below{q:Quest}{K:K7}(h:Cs w lo q K)(hb:Below lo w w'):Cs w' lo q K:=by
 obtain⟨S,r,a,b,c,d⟩:=h.cat;have s:=hb.size;have a0:∀x,(S x\/x=K.cp.block\/x=r)->x<lo:=λx hh=>by
  obtain hh|rfl|rfl:=hh
  .exact b x hh
  .exact d
  .exact c
 exact⟨⟨S,r,a.stay s λx hx hh=>hb.block x (a0 x hh),b,c,d⟩,h.deps.below hb λ_ h=>h,h.dv.below hb λ_ h=>h,h.opt.below hb λ_ h=>h,h.over.below hb λ_ h=>h,h.pins.below hb λ_ h=>h,h.dev,fe h.le s,h.small⟩
def Cs.old{q:Quest}{K:K7}(h:Cs w lo q K):Old (· <lo) w:=λb hb=>jd hb h.le
def Jr(s:Sl)(g:Nat):Prop:=∀ad,s.a=some ad->ad.block≠g
structure Sr0(w:Wd)(lo:Nat)(g:Nat)(stk nds ahd ws:Sl)(Q:Nat->Prop)(s:St):Prop where
 stack:OwnS chE 137 w lo Q stk s.stack
 nodes:OwnS nodeE 72 w lo Q nds s.ns
 ahead:OwnS Cd 3 w lo Q ahd (s.ahead.map Int.ofNat)
 wants:SlR O3 w Q ws s.ws
 q:∀b,Q b->lo<=b/\b≠g
 a1:Apart stk nds
 a2:Apart stk ahd
 a3:Apart nds ahd
 o1:Jr stk g
 o2:Jr nds g
 o3:Jr ahd g
section
variable {w w':Wd} {lo g:Nat} {stk nds ahd ws:Sl} {Q:Nat->Prop} {s:St}
def Sr0.but(h:Sr0 w lo g stk nds ahd ws Q s)(hb:But g w w'):Sr0 w' lo g stk nds ahd ws Q s:=by have hg: ¬Q g:=λh0=>(h.q g h0).2 rfl;exact⟨h.stack.but hb hg λad ha=>(h.o1 ad ha).symm,h.nodes.but hb hg λad ha=>(h.o2 ad ha).symm,h.ahead.but hb hg λad ha=>(h.o3 ad ha).symm,h.wants.but hb hg,h.q,h.a1,h.a2,h.a3,h.o1,h.o2,h.o3⟩
def Sr0.ext(h:Sr0 w lo g stk nds ahd ws Q s)(hx:Ext w w'):Sr0 w' lo g stk nds ahd ws Q s:=
 ⟨h.stack.ext hx,h.nodes.ext hx,h.ahead.ext hx,h.wants.ext hx,h.q,h.a1,h.a2,h.a3,h.o1,h.o2,h.o3⟩
def Sr0.grow(h:Sr0 w lo g stk nds ahd ws Q s)(hx:Ext w w')(a0:lo<=w.heap.size)(hg:g<w.heap.size):Sr0 w' lo g stk nds ahd ws (λb=>Q b\/(w.heap.size<=b/\b<w'.heap.size)) s:=by
 have hs:=hx.size;have key:∀{α:Type} {E:Enc α} {T:TypeId} {x:Sl} {l:List α},OwnS E T w lo Q x l->OwnS E T w' lo (λb=>Q b\/(w.heap.size<=b/\b<w'.heap.size)) x l:=λo=>(o.ext hx).mono (λ_ h=>.inl h) (λb hb=>by
   obtain hb|hb:=hb
   .have:=o.lt b hb;omega
   .exact hb.2) (λad ha hb=>by
   obtain hb|hb:=hb
   .exact o.apart ad ha hb
   .have:=(o.block ha).2.1;omega)
 exact⟨key h.stack,key h.nodes,key h.ahead,(h.wants.ext hx).mono λ_ h=>.inl h,λb hb=>by
  obtain hb|hb:=hb
  .exact h.q b hb
  .exact⟨oM,oM⟩,h.a1,h.a2,h.a3,h.o1,h.o2,h.o3⟩
end
def CN(w:Wd)(lo:Nat)(sp:Addr)(K:K7)(s:St):Prop:=∃stk nds ahd ws Q,BoxAt w sp (CK K stk nds ahd ws s.first)/\lo<=sp.block/\Sr0 w lo sp.block stk nds ahd ws Q s
def _root_.Go.Hal.Ext.below'(h:Ext w w')(lo:Nat)(hl:lo<=w.heap.size):Below lo w w':=Below.mono h hl
def I2(h:BoxAt w a cs):a.block<w.heap.size:=h.lt
def WY(over a b:LD):(FD over a b).length=a.length+b.length:=by unfold FD;rw[R3,du,dz,dz]
def Zhy(m:Mani)(dev:Bool):(EJ m dev).length<=m.deps.length+m.dev.length:=by
 unfold EJ;split
 .rw[du];exact fm _
 .omega
def Zbl{l:List Ver}(h:FlatO Ver.c 24 w lo s l):SlR verE w (λb=>lo<=b/\b<w.heap.size) s l:=FlatO.read (E:=verE) h (λ_=>rfl) λ_ _ x _=>⟨rfl,trivial⟩
def Y5{c:Ch}{v:Sl}(hv:SlR verE w S v c.vs)(hl:c.vs.length<=1000)(hR:∀w',Ext w w'->R (c.many:Int) w'):SE.Lz c.node c.name v c.none c.i w R:=by
 unfold SE.Lz;have a0:=hv.len;refine newS.intro λa w1 x1 ha _ _=>⟨c.none,BoxAt.at1 ha (k:=3) xR rfl,λh=>?_,λh=>?_⟩
 .refine⟨v,BoxAt.at1 ha (k:=2) xR rfl,?_⟩;have e:Aa ((v.len:Int)+1)=(c.many:Int):=by rw[Ag oM oM];unfold Ch.many;rw[if_pos h];omega
  rw[e];exact hR _ x1
 .refine⟨v,BoxAt.at1 ha (k:=2) xR rfl,?_⟩;have e:(v.len:Int)=(c.many:Int):=by unfold Ch.many;rw[if_neg (by rw[h];decide)];omega
  rw[e];exact hR _ x1
def QU{l:LP}{R:Int->Int->Int->Bool->Wp}(hs:SlR pinE w S s l)
  (a6:∀v w',tells l n=some v->Ext w w'->R v.ma v.mi v.pa true w') (a5:∀w',tells l n=none->Ext w w'->R 0 0 0 false w'):SE.Ho s n w R:=by
 unfold SE.Ho;have hl:=hs.len;refine newS.intro λa w1 x1 ha b9 _=>?_;refine loop1.up hs.max (λi w'=>Ext w1 w'/\(l.take i).find? (Aw n)=none) ⟨Ext.refl _,rfl⟩ λi w2 c4 hi ⟨x2,hI⟩ hn=>⟨λb0=>?_,λc3=>?_⟩
 .have a0:i<l.length:=oM;have b6:=x1.trans x2;obtain⟨ad,b2,_,hN,hc⟩:=Dg hs a0;refine⟨ad,⟨b2,oM,b0⟩,_,_,_,_,hc _ b6,newS.intro λa3 w3 x3 a4 b8 _=>stw0.intro a4 sI λw4 b4 _ a8=>?_⟩;have b7:Ext w2 w4:=b4.ext x3 oM;have a7:=x2.trans b7;refine⟨_,a8.at0 xR rfl,λhe=>?_,λhe=>?_⟩
  .refine⟨_,_,_,BoxAt.at1 a8 (k:=1) xR rfl,stw0.intro (ha.ext a7) sI λw5 b5 _ a9=>⟨_,_,_,a9.at0 (r:=[]) xR rfl,?_⟩⟩;have hf:=PQ (p:=Aw n) a0 hI (by simp[Aw,he]);exact a6 l[i].v w5 (by unfold tells;rw[hf];rfl) (b5.ext (x1.trans a7) oM)
  .refine hn a0 _ ⟨a7,?_⟩;rw[R8 a0 hI,if_neg (by simp[Aw,he])]
 .have:i=l.length:=oM;rw[this,eh]at hI;refine stw0.intro (ha.ext x2) sI λw3 b3 _ a4=>⟨_,_,_,a4.at0 (r:=[]) xR rfl,a5 w3 (by unfold tells;rw[hI];rfl) (b3.ext (x1.trans x2) oM)⟩
section
variable {w:Wd} {lo:Nat} {sp:Addr} {K:K7} {q:Quest} {s:St}
def Sr0.setWs{t:Sl}{l:List Want}{k:Wp}(hb:BoxAt w sp (CK K stk nds ahd ws s.first))(a4:lo<=sp.block)(h0:Sr0 w lo sp.block stk nds ahd ws Q s)(ht:SlR O3 w Q t l)
  (hk:∀w',But sp.block w w'->BoxAt w' sp (CK K stk nds ahd t s.first)->Sr0 w' lo sp.block stk nds ahd t Q {s with ws:=l}->k w'):stw w (sp.add 10) [t.v] k:=
 stw.intro (o:=10) hb (by show 11<=12;omega) λw' b _ a0=>hk w' b a0
  (have h:=h0.but b
  ⟨h.stack,h.nodes,h.ahead,ht.but b λh1=>(h0.q _ h1).2 rfl,h.q,h.a1,h.a2,h.a3,h.o1,h.o2,h.o3⟩)
def Sr0.setFirst{n:Nat}{k:Wp}(hb:BoxAt w sp (CK K stk nds ahd ws s.first))(a4:lo<=sp.block)(h0:Sr0 w lo sp.block stk nds ahd ws Q s)
  (hk:∀w',But sp.block w w'->CN w' lo sp K {s with first:=n}->k w'):stw w (sp.add 11) [vi n] k:=
 stw.intro (o:=11) hb (by show 12<=12;omega) λw' b _ a0=>hk w' b ⟨stk,nds,ahd,ws,Q,a0,a4,
  have h:=h0.but b
  ⟨h.stack,h.nodes,h.ahead,h.wants,h.q,h.a1,h.a2,h.a3,h.o1,h.o2,h.o3⟩⟩
def Zbr{L:List Pack}(hG:GoodL L)(n:Bs)(v:Ver):(getD L n v).deps.length<=16/\(getD L n v).peers.length<=16/\(getD L n v).opt.length<=16:=by
 unfold getD;cases h:AR L n v with
 |none=>exact⟨gn _,gn _,gn _⟩
 |some p=>obtain⟨_,_,h1,h2,h3⟩:=Qp (hG.may p (Kh h).1);exact⟨(BX h1).1,(BX h2).1,(BX h3).1⟩
def Zln{ns:LN}{k:Nat}{x:Node}(hk:k≠0)(hx:ns[k]?=some x):q.wants ns k=FD q.m.over (getD q.L x.name x.v).deps (getD q.L x.name x.v).opt:=by
 unfold Quest.wants WX keyAt;rw[if_neg hk,gc,hx];show(match AR q.L x.name x.v with|none=>[]|some p=>FD q.m.over p.deps p.opt)=_;unfold getD;cases AR q.L x.name x.v with
 |none=>rfl
 |some p=>rfl
def WV{k:Nat}{R:Wp}(hC:Cs w lo q K)(hb:BoxAt w sp (CK K stk nds ahd ws s.first))(c3:lo<=sp.block)(h0:Sr0 w lo sp.block stk nds ahd ws Q s)(hk:k<s.ns.length)
  (hR:∀w' c4 Q',But sp.block w w'->BoxAt w' sp (CK K stk nds ahd c4 s.first)->Sr0 w' lo sp.block stk nds ahd c4 Q' {s with ws:=q.wants s.ns k}->R w'):SE.Hn (some sp) (k:Int) w R:=by
 unfold SE.Hn;have d4:=hC.small;refine⟨λc9=>bnd.drew λw1 x1=>⟨sp,rfl,K.mD,K.mDev,K.mOpt,K.mOv,BoxAt.at1 hb (k:=1) x1 rfl,sp,rfl,K.dev,BoxAt.at1 hb (k:=5) x1 rfl,?_⟩,λc9=>?_⟩
 .have a5:k=0:=oM;subst a5;have a0:=hC.below (x1.below' lo hC.le);refine SE.M9.go (Zll (m:=q.m) a0.old a0.deps a0.dv a0.opt a0.over (by unfold Ab;omega) λt w2 x2 a7=>⟨_,rfl,sp,rfl,?_⟩);have b7:=x1.trans x2;have hg:=I2 hb;have a8:=a7.read (by rw[WY];have:=Zhy q.m K.dev;unfold Ab;omega);have h2:=h0.grow b7 hC.le hg;have s1:=x1.size;refine Sr0.setWs (l:=q.wants s.ns 0) (hb.ext b7) c3 h2 ?_ λw3 b3 b2 h3=>hR w3 _ _ ((b7.but _).trans b3) b2 h3;rw[hC.dev]at a8;exact a8.mono λb hb=>.inr ⟨oM,hb.2⟩
 .have a5:k≠0:=oM;have hx:s.ns[k]?=some s.ns[k]:=dt hk;obtain⟨ad,cs,a6,⟨hN,c,e,rfl,_,_⟩,hc⟩:=h0.nodes.el hx;have d3:=h0.nodes.len;obtain⟨S,r,a4,hS,hr,d2⟩:=hC.cat;have hG:=a4.good;obtain⟨g1,g2,g3⟩:=Zbr hG s.ns[k].name s.ns[k].v;have hg:=I2 hb;refine join.named λJ hJ=>bnd.drew λw1 x1=>?_;refine⟨sp,rfl,_,BoxAt.at0 hb x1 rfl,sp,rfl,nds,BoxAt.at1 hb (k:=8) x1 rfl,ad,⟨a6,oM,oM⟩,s.ns[k].name,(hc _ x1).pre rfl,sp,rfl,nds,BoxAt.at1 hb (k:=8) x1 rfl,ad,⟨a6,oM,oM⟩,s.ns[k].v.ma,s.ns[k].v.mi,s.ns[k].v.pa,(hc _ x1).mid (k:=1) rfl,?_⟩;have key:∀(a:Addr)(d e o:Sl)(wm w3:Wd),Ext w wm->Ext wm w3->BoxAt w3 a [.string (getD q.L s.ns[k].name s.ns[k].v).name,.int .i64 (getD q.L s.ns[k].name s.ns[k].v).v.ma,.int .i64 (getD q.L s.ns[k].name s.ns[k].v).v.mi,.int .i64 (getD q.L s.ns[k].name s.ns[k].v).v.pa,d.v,e.v,o.v]->
    SlR depE w3 (λb=>b<w3.heap.size) d (getD q.L s.ns[k].name s.ns[k].v).deps->SlR depE w3 (λb=>b<w3.heap.size) o (getD q.L s.ns[k].name s.ns[k].v).opt->J a w3:=by
   subst hJ;intro a d e o wm w3 xm x3 c8 hd ho;have d0:=xm.trans x3;refine bnd.drew λw4 x4=>?_;have a9:=d0.trans x4;have b9:=hC.below (a9.below' lo hC.le);refine⟨_,_,_,_,d,e,o,c8.at0 (r:=[]) x4 rfl,sp,rfl,K.mD,K.mDev,K.mOpt,K.mOv,BoxAt.at1 hb (k:=1) a9 rfl,?_⟩;have s4:=x4.size;refine SE.M8.go (Zlm (p:=getD q.L s.ns[k].name s.ns[k].v) (S:=λb=>b<w4.heap.size) (λb h=>h) ((hd.ext x4).mono λb h=>by omega) ((ho.ext x4).mono λb h=>by omega) (b9.over.mono λb h=>by have:=b9.le;omega) (by unfold Ab;omega) λt w5 x5 a7=>⟨_,rfl,sp,rfl,?_⟩);have b8:=a9.trans x5;have a8:=a7.read (by rw[WY];unfold Ab;omega);have h5:=h0.grow b8 hC.le hg;have d5:=a9.size;refine Sr0.setWs (l:=q.wants s.ns k) (hb.ext b8) c3 h5 ?_ λw6 b6 c7 h6=>hR w6 _ _ ((b8.but _).trans b6) c7 h6;rw[Zln a5 hx];exact a8.mono λb hb=>.inr ⟨oM,hb.2⟩
  refine⟨SE.Fm.go (J7 (n:=s.ns[k].name) (v:=s.ns[k].v) (a4.ext x1) λd e o w3 x3 _ hd he ho=>⟨_,_,_,_,_,_,_,_,rfl,newS.intro λa w4 x4 c6 c5 _=>stw0.intro c6 sI λw5 b5 _ b4=>?_⟩),newS.intro λa w3 x3 b2 c5 _=>SE.Fm.go (J7 (n:=s.ns[k].name) (v:=s.ns[k].v) ((a4.ext x1).ext x3) λd e o w4 x4 _ hd he ho=>⟨_,_,_,_,_,_,_,_,rfl,stw0.intro (b2.ext x4) sI λw5 b5 _ b4=>?_⟩)⟩
  .have b0:Ext w3 w5:=b5.ext x4 oM;have s5:=b0.size;exact key a d e o w3 w5 (x1.trans x3) b0 b4 ((hd.dep.ext b0).mono λb h=>by omega) ((ho.dep.ext b0).mono λb h=>by omega)
  .have d1:Ext w1 w5:=b5.ext (x3.trans x4) oM;have a6:∀b,(w3.heap.size<=b/\b<w4.heap.size)->b≠a.block:=λb h=>(by omega);have s5:=b5.1;exact key a d e o w1 w5 x1 d1 b4 ((hd.dep.but b5 λh=>a6 _ h rfl).mono λb h=>by omega) ((ho.dep.but b5 λh=>a6 _ h rfl).mono λb h=>by omega)
def Zli{k:Nat}{R:Wp}(hC:Cs w lo q K)(h:CN w lo sp K s)(hk:k<s.ns.length)(hR:∀w',Below lo w w'->CN w' lo sp K {s with ws:=q.wants s.ns k}->R w'):SE.Hn (some sp) (k:Int) w R:=by obtain⟨stk,nds,ahd,ws,Q,hb,a0,h0⟩:=h;exact WV hC hb a0 h0 hk λw' a5 Q' b a4 h'=>hR w' (b.below hC.le a0) ⟨stk,nds,ahd,a5,Q',a4,a0,h'⟩
def Ph{R:Wp}(hC:Cs w lo q K)(h:CN w lo sp K s)(hk:s.ahead.length<s.ns.length)(hR:∀w',Below lo w w'->CN w' lo sp K {s with first:=s.stack.length,ws:=q.wants s.ns s.ahead.length}->R w'):SE.Hm (some sp) w R:=by unfold SE.Hm;obtain⟨stk,nds,ahd,ws,Q,hb,a5,h0⟩:=h;have a6:=h0.stack.len;have a4:=h0.ahead.len;rw[dz]at a4;refine⟨sp,rfl,ahd,BoxAt.at1 hb (k:=9) xR rfl,sp,rfl,stk,BoxAt.at1 hb (k:=7) xR rfl,sp,rfl,?_⟩;rw[a6,a4];refine Sr0.setFirst (n:=s.stack.length) hb a5 h0 λw1 b1 h1=>?_;have bel:=b1.below hC.le a5;exact SE.Hn.go (Zli (hC.below bel) h1 hk λw2 a0 h2=>⟨rfl,hR w2 (bel.trans a0) h2⟩)
end
section
variable {w:Wd} {lo:Nat} {sp:Addr} {K:K7} {q:Quest} {s:St}
def Tt{ns:LN}{k:Nat}{x:Node}(h:ns[k]?=some x):ctxAt ns k=x.ctx:=by unfold ctxAt keyAt;rw[gc,h];rfl
def Ti{wt:Want}{rs:Sl}{SR:Nat->Prop}{R:Int->Bs->Sl->Bool->Int->Wp}(hC:Cs w lo q K)(h:CN w lo sp K s)(hk:s.ahead.length<s.ns.length)(hN:Ac wt.name)(g6:Old SR w)(hr:SlR spanE w SR rs wt.range)
  (hR:∀v w',Ext w w'->SlR verE w' (λb=>w.heap.size<=b/\b<w'.heap.size) v (q.ch s.ahead.length (ctxAt s.ns s.ahead.length) wt).vs->R (s.ahead.length:Int) wt.name v (q.ch s.ahead.length (ctxAt s.ns s.ahead.length) wt).none 0 w'):SE.IK (some sp) wt.name wt.kind rs w R:=by
 unfold SE.IK;obtain⟨stk,nds,ahd,ws,Q,hb,j3,h0⟩:=h;have f0:=h0.ahead.len;rw[dz]at f0;have j5:=h0.nodes.len;have hx:s.ns[s.ahead.length]?=some s.ns[s.ahead.length]:=dt hk;obtain⟨ad,cs,h5,⟨i5,c,e,rfl,f5,_⟩,h4⟩:=h0.nodes.el hx;have g8:=Tt hx;obtain⟨S,r,f4,hS,j6,i9⟩:=hC.cat;have h3:q.ch s.ahead.length (ctxAt s.ns s.ahead.length) wt=⟨s.ahead.length,wt.name,(q.cand (ctxAt s.ns s.ahead.length) wt).1,(q.cand (ctxAt s.ns s.ahead.length) wt).2,0⟩:=rfl;rw[h3]at hR;dsimp only at hR;rw[g8]at hR;refine newS.intro λa w1 x1 ha i7 _=>newS.intro λa1 w2 x2 e1 i3 _=>?_;have e6:=x1.trans x2;have s1:=x1.size;have s2:=x2.size;refine⟨sp,rfl,ahd,BoxAt.at1 hb (k:=9) e6 rfl,wt.name,BoxAt.at0 ha x2 rfl,newS.intro λa4 w3 x3 g7 i4 _=>stw0.intro g7 sI λw4 b4 _ e3=>?_⟩;have s3:=x3.size;have d4:Ext w2 w4:=b4.ext x3 oM;have h9:=e6.trans d4;have j8:=x2.trans d4;rw[f0]at e3 ⊢;have j1:a4.block<w4.heap.size:=e3.lt;have j0:a1.block<w4.heap.size:=by have:=e1.lt;omega
 have j4:a1.block≠a4.block:=by have:=e1.lt;omega
 have fin:∀(w8:Wd)(v:Sl)(nb:Bool)(l:List Ver),Ext w2 w8->w4.heap.size<=w8.heap.size->BoxAt w8 a4 [vi (s.ahead.length:Int),.string wt.name,v.v,.bool nb,vi 0]->SlR verE w8 (λb=>w4.heap.size<=b/\b<w8.heap.size) v l->q.cand s.ns[s.ahead.length].ctx wt=(l,nb)->
   ∃(b2:Int) (b0:Bs) (a0:Sl) (b5:Bool) (c7:Int),(ldc w8 a4 [(Value.int .i64 b2),(Value.string b0),a0.v,(Value.bool b5),(Value.int .i64 c7)])/\stw w8 a1 [(Value.int .i64 b2),(Value.string b0),a0.v,(Value.bool b5),(Value.int .i64 c7)] λd9=>
    ∃(c5:Int) (c4:Bs) (a5:Sl) (c6:Bool) (d8:Int),ldc d9 a1 [(Value.int .i64 c5),(Value.string c4),a5.v,(Value.bool c6),(Value.int .i64 d8)]/\R c5 c4 a5 c6 d8 d9:=λw8 v nb l g3 j7 b6 hv g9=>by
  refine⟨_,_,v,_,_,b6.ldc.pre (r:=[]) rfl,stw0.intro (e1.ext g3) sI λw9 b9 _ d1=>⟨_,_,v,_,_,d1.at0 (r:=[]) xR rfl,?_⟩⟩;have h2:=hR v w9 (b9.ext (e6.trans g3) oM);rw[g9]at h2;have s9:=b9.1;exact h2 ((hv.but b9 λh=>by omega).mono λb h=>⟨oM,oM⟩)
 refine join.named λJ hJ=>bnd.drew λw5 x5=>?_;have d3:=h9.trans x5;have i2:=d4.trans x5;have s5:=x5.size;have key:∀(a6:Addr)(v:Ver)(is:Bool)(w7:Wd),Ext w5 w7->BoxAt w7 a6 [vi v.ma,vi v.mi,vi v.pa]->(is=true->tells s.ns[s.ahead.length].ctx wt.name=some v)->(is=false->tells s.ns[s.ahead.length].ctx wt.name=none)->J a6 is w7:=by
  subst hJ;intro a6 v is w7 e7 f1 h6 h7;have f9:=d3.trans e7;have g4:=x5.trans e7;have d5:=d4.trans g4;have g0:=x2.trans d5;have a8:=e3.ext g4;have s7:=e7.size;refine⟨λe5=>?_,λe5=>?_⟩
  .have b7:q.cand s.ns[s.ahead.length].ctx wt=(if BT wt.range v then [v]else [],false):=(by unfold Quest.cand;rw[h6 e5]);refine join.named λJ2 e9=>⟨rs,BoxAt.at1 ha (k:=2) g0 rfl,v.ma,v.mi,v.pa,f1.at0 (r:=[]) xR rfl,SE.Hv.go (Ry (hr.ext f9) λw8 x8=>⟨_,rfl,λe4=>?_,λe4=>?_⟩)⟩
   .refine⟨v.ma,v.mi,v.pa,f1.at0 (r:=[]) x8 rfl,newS.intro λa9 w9 x9 d1 i6 _=>?_⟩;have g5:=x8.trans x9;refine stw.intro (o:=2) (a8.ext g5) sI λd2 c3 _ d0=>?_;have s8:=x8.size;have s9:=x9.size;have c8:Ext w2 d2:=c3.ext (d5.trans g5) oM;subst e9;have f6:a9.block≠a4.block:=oM;have h1:=(J6 (E:=verE) (S:=λ_=>False) d1 ⟨rfl,trivial⟩ dC).but c3 (λh=>by
     obtain h|h:=h
     .exact h
     .exact f6 h.symm)
    have j2:=d1.lt;have h8:=c3.1;refine fin d2 ⟨some a9,1,1⟩ false [v] c8 oM d0 (h1.mono λb hb=>?_) (by rw[b7,if_pos e4]);obtain hb|rfl:=hb
    .exact hb.elim
    .exact⟨oM,oM⟩
   .subst e9;exact fin w8 Sl.nil false [] (d5.trans x8) (by have:=x8.size;omega) (a8.ext x8) (SlR.nil trivial) (by rw[b7,if_neg (by rw[e4];decide)])
  .have b7:q.cand s.ns[s.ahead.length].ctx wt=(D9 q.L wt.name wt.range q.pins,decide (wt.kind=2)):=(by unfold Quest.cand;rw[h7 e5]);refine bnd.drew λw8 x8=>?_;have j9:=x8;have c9:=f9.trans x8;have g1:=g0.trans x8;have e8:=hC.below (c9.below' lo hC.le);refine⟨sp,rfl,_,BoxAt.at0 hb c9 rfl,wt.name,BoxAt.at0 ha g1 rfl,rs,BoxAt.at1 ha (k:=2) g1 rfl,sp,rfl,K.pS,BoxAt.at1 hb (k:=6) c9 rfl,?_⟩;refine SE.J8.go (Yt (f4.ext c9) (g6.ext c9.size) e8.old (hr.ext c9) e8.pins λt w9 x9 hF=>⟨_,rfl,?_⟩);have k0:=x9;have s8:=x8.size;have s9:=x9.size;refine stw.intro (o:=2) ((a8.ext x8).ext x9) sI λd2 c3 _ d0=>?_;have c8:Ext w2 d2:=c3.ext ((d5.trans x8).trans x9) oM;refine⟨wt.kind,BoxAt.at1 ha (k:=1) (x2.trans c8) rfl,stw.intro (o:=3) d0 sI λf8 e0 _ d7=>?_⟩;have g2:Ext w2 f8:=e0.ext c8 oM;have e2:(wt.kind==2)=decide (wt.kind=2):=(by rw[gk];simp);rw[e2]at d7;have h8:=c3.1;have s11:=e0.1;have hv:=(((Zbl hF).but c3 (λh=>by omega)).but e0 (λh=>by omega));exact fin f8 t (decide (wt.kind=2)) _ g2 oM d7 (hv.mono λb h=>⟨oM,oM⟩) b7
 have f2:SlR pinE w5 (λb=>Q b) c s.ns[s.ahead.length].ctx:=f5.ext d3;have f7:ldc w5 (sp.add 8) [nds.v]:=BoxAt.at1 hb (k:=8) d3 rfl;refine⟨sp,rfl,nds,f7,ad,⟨h5,oM,oM⟩,c,(h4 _ d3).mid (k:=4) rfl,wt.name,BoxAt.at0 ha (x2.trans i2) rfl,?_⟩;refine⟨SE.Ho.go (QU f2 (λv w6 ht x6=>⟨_,_,_,_,rfl,newS.intro λa7 w7 x7 a8 d6 _=>stw0.intro a8 sI λw8 b8 _ b6=>?_⟩) λw6 ht x6=>⟨_,_,_,_,rfl,newS.intro λa7 w7 x7 a8 d6 _=>stw0.intro a8 sI λw8 b8 _ b6=>?_⟩),
  newS.intro λa7 w7 x7 a8 d6 _=>SE.Ho.go (QU (f2.ext x7) (λv w6 ht x6=>⟨_,_,_,_,rfl,stw0.intro (a8.ext x6) sI λw8 b8 _ b6=>?_⟩) λw6 ht x6=>⟨_,_,_,_,rfl,stw0.intro (a8.ext x6) sI λw8 b8 _ b6=>?_⟩)⟩
 .exact key a7 v true w8 (x6.trans (b8.ext x7 oM)) b6 (λ_=>ht) nO
 .exact key a7 ⟨0,0,0⟩ false w8 (x6.trans (b8.ext x7 oM)) b6 nO λ_=>ht
 .exact key a7 v true w8 (b8.ext (x7.trans x6) oM) b6 (λ_=>ht) nO
 .exact key a7 ⟨0,0,0⟩ false w8 (b8.ext (x7.trans x6) oM) b6 nO λ_=>ht
end
section
variable {α:Type} {E:Enc α} {T:TypeId} {w:Wd} {lo:Nat} {Q:Nat->Prop} {s:Sl} {l:List α}
def Nw{css:List (List Value)}{n:Nat}(h:∀cs∈css,cs.length=n):css.flatten.length=css.length*n:=by
 induction css with
 |nil=>simp
 |cons c r ih=>rw[jc,du,h c (.head _),ih λx hx=>h x (.tail _ hx),fl,jx];omega
def OwnS.rowLens(h:OwnS E T w lo Q s l){css:List (List Value)}(hl:css.length=l.length)(hr:∀(i:Nat)(x:α),l[i]?=some x->∃cs,css[i]?=some cs/\E.rep w Q x cs):∀cs∈css,cs.length=E.n:=λcs a0=>by obtain⟨k,hk,rfl⟩:=fp.1 a0;obtain⟨a4,h1,h2⟩:=hr k _ (dt oM);rw[dt hk,eu]at h1;rw[h1];exact E.len h2
def OwnS.take(h:OwnS E T w lo Q s l){n:Nat}(hn:n<=l.length):OwnS E T w lo Q (Sl.cut s 0 n E.n) (l.take n):=by
 obtain⟨css,ho,hl,hr⟩:=h.row;have a4:=h.rowLens hl hr;have a7:=h.len;have ha:(Sl.cut s 0 n E.n).a=s.a:=by
  unfold Sl.cut;dsimp only;split
  .rfl
  .rw[lu];cases s.a<;>rfl
 have hv:(Sl.cut s 0 n E.n).v= .slice s.a n s.cap:=by unfold Sl.v;rw[ha];unfold Sl.cut;simp
 refine⟨⟨css.take n,?_,by rw[fb,fb,hl],λi x hx=>?_⟩,by show n - 0=_;rw[fb];omega,h.lt,λad a6=>h.apart ad (ha▸a6)⟩
 .rw[hv];show w.ownsRow lo T E.n _ (n - 0) _;have a0:=Nw (css:=css.take n) (n:=E.n) λc hc=>a4 c (kl hc);rw[fb,hl,ju hn]at a0;refine⟨by simpa using a0,?_⟩;rcases ho.2 with⟨h1,h2⟩|⟨g,cap,a5,h1,h2,h3,h4,h5,h6,h7⟩
  .left;simp[Sl.v]at h1;have:n=0:=oM;rw[h1.1,h1.2.2,this];exact⟨rfl,rfl⟩
  .right;simp[Sl.v]at h1;refine⟨g,cap,a5,by rw[h1.1,h1.2];simp,h2,h3,oM,h5,h6,?_⟩;have h8:=congrArg (List.take (n*E.n)) h7;rw[List.take_take,ju (ij _ oM)]at h8;rw[qf,h8];have e:css.flatten=(css.take n).flatten++(css.drop n).flatten:=by rw[<-js,fo]
   rw[e,om a0]
 .rw[lf]at hx;split at hx
  .obtain⟨cs,k1,k2⟩:=hr i x hx;rename_i hi;exact⟨cs,by rw[lf,if_pos hi];exact k1,k2⟩
  .cases hx
def OwnS.setEl(h:OwnS E T w lo Q s l)(hi:i<l.length){ad:Addr}(ha:s.a=some ad){x:α}{new:LV}(hx:∀cs,E.rep w Q l[i] cs->E.rep w Q x (cs.take o++new++cs.drop (o+new.length)))(ho:o+new.length<=E.n){K:Wp}
  (hK:∀w',But ad.block w w'->w'.heap.size=w.heap.size->OwnS E T w' lo Q s (l.set i x)->K w'):stw w ((ad.add (i*E.n)).add o) new K:=by
 obtain⟨css,b7,hl,hr⟩:=h.row;have a4:=h.rowLens hl hr;have b2:=h.len;rcases b7.2 with⟨hv,_⟩|⟨g,cap,a0,hv,hg,hh,hc,c3,c4,ht⟩
 .simp[Sl.v]at hv;rw[hv.1]at ha;cases ha
 .have b8:ad=⟨g,0,none⟩:=by simp[Sl.v]at hv;rw[hv.1]at ha;exact(jm ha).symm
  subst b8;have a6:i<css.length:=oM;have b6:(i+1)*E.n<=l.length*E.n:=ij _ hi;have b0:s.len*E.n<=cap*E.n:=ij _ hc;rw[jx]at b6;rw[b2]at b0;have b5:i*E.n+o+new.length<=a0.size:=oM;rw[CX,G8];have a7:=a4 css[i] (ff a6);have hA:=Nw (css:=css.take i) (n:=E.n) λc hc=>a4 c (kl hc);rw[fb,ju oM]at hA;have e1:css.flatten=(css.take i).flatten++(css[i]++(css.drop (i+1)).flatten):=by
   conv=>lhs;rw[<-fo i css,js,fu a6,jc]
  have e2:(css.set i (css[i].take o++new++css[i].drop (o+new.length))).flatten=(css.take i).flatten++((css[i].take o++new++css[i].drop (o+new.length))++(css.drop (i+1)).flatten):=by rw[List.set_eq_take_append_cons_drop,if_pos a6,js,jc]
  have a5:a0.toList=css.flatten++a0.toList.drop (s.len*E.n):=by rw[<-ht,fo]
  have a8:(Dk a0 (i*E.n+o) new).toList=(css.set i (css[i].take o++new++css[i].drop (o+new.length))).flatten++a0.toList.drop (s.len*E.n):=by
   have key:∀(A B C D N:LV),A.length=i*E.n->B.length=E.n->N.length=new.length->(A++(B++C)++D).take (i*E.n+o)++N++(A++(B++C)++D).drop (i*E.n+o+N.length)=A++(B.take o++N++B.drop (o+N.length)++C)++D:=by
    intro A B C D N hA hB hN;rw[fg A,<-hA,List.take_length_add_append];have t1:((B++C)++D).take o=B.take o:=by rw[fg,nc oM]
    have t2:(A++((B++C)++D)).drop (A.length+o+N.length)=B.drop (o+N.length)++(C++D):=(by rw[pp,List.drop_length_add_append,fg,ky oM]);rw[t1,t2];simp[fg]
   unfold Dk;generalize a0.toList.drop (s.len*E.n)=D at a5 ⊢;rw[qb,a5,e1,e2];exact key (css.take i).flatten css[i] (css.drop (i+1)).flatten D new hA a7 rfl
  refine⟨a0,T,hh,rfl,by simpa using b5,?_⟩;have hb:But g w (w.setRow g (Dk a0 (i*E.n+o) new)):=⟨by simp[World.setRow],rfl,rfl,rfl,λc hc c5=>setRow_other w g c _ c5⟩;have b4: ¬Q g:=h.apart _ ha;refine hK _ hb (by simp[World.setRow]) ⟨⟨css.set i (css[i].take o++new++css[i].drop (o+new.length)),⟨?_,.inr ⟨g,cap,_,hv,hg,setRow_heap w g a0 _ T _ hh,hc,c3,?_,?_⟩⟩,by rw[iz,iz,hl],λj y hy=>?_⟩,by rw[iz];exact h.len,λb b9=>jd (h.lt b b9) hb.1,h.apart⟩
  .rw[Nw (n:=E.n),iz,hl,b2];intro c hc;obtain hc|rfl:=List.mem_or_eq_of_mem_set hc
   .exact a4 c hc
   .simp only[du,fb,fx,a7];omega
  .have h8:=congrArg List.length a8;have h9:=congrArg List.length a5;rw[du]at h9 h8;have e3:(css.set i (css[i].take o++new++css[i].drop (o+new.length))).flatten.length=css.flatten.length:=(by rw[e1,e2];simp only[du,fb,fx,a7];omega);rw[e3,<-h9]at h8;rw[<-jt (xs:=Dk a0 (i*E.n+o) new),h8,jt];exact c4
  .rw[a8];refine om ?_;rw[e2];have:=Nw a4;rw[e1]at this;simp only[du,fb,fx,a7]at this ⊢;rw[hl]at this;rw[b2];omega
  .rw[List.getElem?_set]at hy;split at hy
   .rename_i a9;subst a9;simp only[eu]at hy;subst hy;obtain⟨cs,k1,k2⟩:=hr i _ (dt hi);rw[dt a6,eu]at k1;subst k1;exact⟨_,by rw[ng a6],E.keep (hx _ k2) (hb.keep b4)⟩
   .rename_i a9;obtain⟨cs,k1,k2⟩:=hr j y hy;exact⟨cs,by rw[nt a9];exact k1,E.keep k2 (hb.keep b4)⟩
end
end Go.Hal
namespace Go.Hal
structure InvS(q:Quest)(e:Nat)(s:St):Prop where
 a:s.ahead.length<s.ns.length
 n:s.ns.length<=q.N
 b:∀i a:Nat,s.ahead[i]?=some a->i<a/\a<=s.ns.length
 m:∀i j a b:Nat,i<=j->s.ahead[i]?=some a->s.ahead[j]?=some b->a<=b
 st:(s.stack.map (·.node)).Pairwise (λa b:Nat=>a<=b)
 top:∀n∈s.stack.map (·.node),n<=s.ahead.length
 f:s.first+e<=s.stack.length
 c:∀x∈s.ns,(x.ctx.map (·.name)).Nodup/\x.ctx.length<=2048
 v:∀v∈s.stack.map (·.vs),v.length<=1000
 d:s.dec<=q.D
 k:s.stack.length<=s.dec+e
 i0:∀c∈s.stack.dropLast,c.i<=1000
 i1:∀c∈s.stack,c.i<=1000+e
def InvL(q:Quest):Lb->St->Prop
 | .next,s=>InvS q 0 s
 | .tri,s=>InvS q 1 s
 | .back,s=>InvS q 0 s
def YP{L:List Pack}(hg:GoodL L){over:LD}{env:LP}{p:Pin}{c:LP}(h:CZ L over env p=some c):(c.map (·.name)).Nodup/\c.length<=2048:=by refine⟨(YU h).1.nodup,?_⟩;unfold CZ ctx at h;obtain⟨o,h1,rfl⟩:=jy.1 h;rw[(EP o).length_eq];exact Tw hg (Py _ _ _ _ CtxI.zero h1)
def WC{q:Quest}{env:LP}:∀{ps:LP} {xs:LN},Cj q env ps=some xs->∀x∈xs,∃p∈ps,x.name=p.name/\x.v=p.v/\CZ q.L q.m.over env p=some x.ctx/\x.edges=[]
 | [],xs,h,x,hx=>by rw[Cj]at h;cases h;cases hx
 |p::r,xs,h,x,hx=>by
  rw[Cj]at h;cases h1:CZ q.L q.m.over env p with
  |none=>rw[h1]at h;cases h
  |some c=>
   rw[h1]at h;obtain⟨ys,h2,rfl⟩:=jy.1 h;obtain rfl|hx:=ga.1 hx
   .exact⟨p,.head _,rfl,rfl,h1,rfl⟩
   .obtain⟨p',hp,k⟩:=WC h2 x hx;exact⟨p',.tail _ hp,k⟩
def QD{N:Nat}:∀{xs:LN} {ks:List Fe} {r:LN×LQ},Bv N ks xs=some r->∀x∈r.1,x∈xs
 | [],ks,r,h,x,hx=>by rw[Bv]at h;cases h;cases hx
 |y::ys,ks,r,h,x,hx=>by
  rw[Bv]at h;cases hf:ks.findIdx? λz=>decide (z=y.key)with
  |some i=>rw[hf]at h;obtain⟨r',h1,rfl⟩:=jy.1 h;exact .tail _ (QD h1 x hx)
  |none=>
   rw[hf]at h;dsimp only at h;by_cases hN:ks.length=N
   .rw[if_pos hN]at h;cases h
   .rw[if_neg hN]at h;obtain⟨r',h1,rfl⟩:=jy.1 h;obtain rfl|hx:=ga.1 hx
    .exact .head _
    .exact .tail _ (QD h1 x hx)
def Zij{ns:LN}{k:Nat}{es:LQ}{x:Node}(hx:x∈CI ns k es):∃y∈ns,y.ctx=x.ctx:=by have h:x.key∈(CI ns k es).map Node.key:=ip hx;rw[Og]at h;obtain⟨y,hy,e⟩:=gq.1 h;exact⟨y,hy,congrArg (·.2.2) e⟩
def SW{β:Type}(f:Ch->β)(hf:∀c i,f {c with i:=i}=f c)(l:List Ch):(Ba l).map f=l.map f:=by
 unfold Ba;apply pd;intro i;rw[gc,gc,mm];cases l[i]? with
 |none=>rfl
 |some c=>by_cases h:l.length - 1=i<;>simp[h,hf]
def SU(l:List Ch):(Ba l).length=l.length:=by unfold Ba;rw[List.length_modify]
def Yp{q:Quest}{c:LP}{w:Want}(hC:∀n r p,(D9 q.L n r p).length<=1000):(q.cand c w).1.length<=1000:=by
 unfold Quest.cand;split
 .dsimp only;split<;>simp
 .exact hC _ _ _
def C2(ns:LN)(ahead:List Nat)(k:Nat):LN:=match ahead[k]? with
 |some a=>ns.take a
 |none=>ns
def FL(q:Quest)(s:St)(k:Nat):St:={s with stack:=Ba s.stack,ns:=C2 s.ns s.ahead k,ahead:=s.ahead.take k,ws:=q.wants (C2 s.ns s.ahead k) k,first:=(Ba s.stack).findIdx λx=>decide (x.node=k)}
def Mm(q:Quest)(s:St):q.step .back s=match s.stack.getLast? with
  |none=>.err 30
  |some c=>.go .tri (FL q s c.node):=rfl
def InvL.step{q:Quest}(hG:GoodL q.L)(hC:∀n r p,(D9 q.L n r p).length<=1000){l l':Lb}{s s':St}(h:InvL q l s)(hs:q.step l s= .go l' s'):InvL q l' s':=by
 cases l with
 |next=>
  have h:InvS q 0 s:=h;rw[Quest.step]at hs;cases hw:s.ws[s.stack.length - s.first]? with
  |some w=>
   rw[hw]at hs;cases hs;have hk:=h.k;exact⟨h.a,h.n,h.b,h.m,by
    rw[fq,ir];exact⟨h.st,kj _ _,λx hx y hy=>by simp only[ib,nw,ep]at hy;subst hy;exact h.top x hx⟩,λn hn=>by
    rw[fq,fk]at hn;obtain hn|hn:=hn
    .exact h.top n hn
    .simp only[ib,nw,ep]at hn;subst hn;exact fm _,by
    show s.first+1<=(s.stack++_).length;have:=h.f;rw[du,gl];omega,h.c,λv hv=>by
    rw[fq,fk]at hv;obtain hv|hv:=hv
    .exact h.v v hv
    .simp only[ib,nw,ep]at hv;subst hv;exact Yp hC,h.d,by
    show(s.stack++_).length<=s.dec+1;have c4:s.stack.length<=s.dec+0:=h.k;rw[du,gl];omega,λc hc=>by
    replace hc:c∈(s.stack++[_]).dropLast:=hc;rw[mn]at hc;exact h.i1 c hc,λc hc=>by
    obtain hc|hc:=fk.1 hc
    .exact Nat.le_succ_of_le (h.i1 c hc)
    .simp only[ep]at hc;subst hc;exact gn _⟩
  |none=>
   rw[hw]at hs;dsimp only at hs;cases hb:q.bind s.ns s.ahead.length s.env with
   |graph=>rw[hb]at hs;cases hs;exact h
   |many=>rw[hb]at hs;cases hs
   |ok a8=>
    rw[hb]at hs;dsimp only at hs;split at hs
    .cases hs
    .rename_i b7;cases hs;obtain⟨h1,h2⟩:=MU hb h.n;have ha:=h.a;have b2:∀x∈a8,(x.ctx.map (·.name)).Nodup/\x.ctx.length<=2048:=by
      unfold Quest.bind at hb;cases ht:Cj q (BA s.env) (BA s.env)with
      |none=>rw[ht]at hb;cases hb
      |some xs=>
       rw[ht]at hb;dsimp only at hb;cases hp:Bv q.N (s.ns.map Node.key) xs with
       |none=>rw[hp]at hb;cases hb
       |some r=>
        rw[hp]at hb;cases hb;intro x hx;obtain hx|hx:=fk.1 hx
        .obtain⟨y,hy,e⟩:=Zij hx;rw[<-e];exact h.c y hy
        .obtain⟨p,_,_,_,hc,_⟩:=WC ht x (QD hp x hx);exact YP hG hc
     refine⟨by show(s.ahead++[s.ns.length]).length<a8.length;rw[du,gl];omega,h2,λi a hi=>?_,λi j a b a6 hi hj=>?_,h.st,λn hn=>?_,fm _,b2,h.v,h.d,h.k,h.i0,h.i1⟩
     .show i<a/\a<=a8.length;replace hi:(s.ahead++[s.ns.length])[i]?=some a:=hi;rw[me]at hi;split at hi
      .have:=h.b i a hi;exact⟨this.1,oM⟩
      .rw[List.getElem?_singleton]at hi;split at hi
       .cases hi;exact⟨oM,h1⟩
       .cases hi
     .replace hi:(s.ahead++[s.ns.length])[i]?=some a:=hi;replace hj:(s.ahead++[s.ns.length])[j]?=some b:=hj;rw[me]at hi hj;split at hj
      .rw[if_pos oM]at hi;exact h.m i j a b a6 hi hj
      .rw[List.getElem?_singleton]at hj;split at hj
       .cases hj;split at hi
        .exact(h.b i a hi).2
        .rw[List.getElem?_singleton]at hi;split at hi
         .cases hi;exact fm _
         .cases hi
       .cases hj
     .have:=h.top n hn;show n<=(s.ahead++[s.ns.length]).length;rw[du];omega
 |tri=>
  have h:InvS q 1 s:=h;rw[Quest.step]at hs;cases hl:s.stack.getLast? with
  |none=>rw[hl]at hs;cases hs
  |some c=>
   rw[hl]at hs;dsimp only at hs;have hk:=h.k;have hd:=h.d;split at hs
   .rename_i a7;split at hs
    .cases hs
    .rename_i b7;cases hs;exact⟨h.a,h.n,h.b,h.m,h.st,h.top,by have:=h.f;show s.first+0<=s.stack.length;omega,h.c,h.v,by show s.dec+1<=q.D;omega,by show s.stack.length<=s.dec+1+0;omega,h.i0,λx hx=>by
      obtain⟨pre,a0⟩:=ny.1 hl;have h0:=h.i0;rw[a0,mn]at h0;replace hx:x∈s.stack:=hx;rw[a0]at hx;obtain hx|hx:=fk.1 hx
      .exact h0 x hx
      .simp only[ep]at hx;subst hx;have h2:=h.v x.vs (ip (by rw[a0];simp));unfold Ch.many at*;split at a7<;>omega⟩
   .cases hs;have a5:List.Sublist s.stack.dropLast s.stack:=List.dropLast_sublist _;have b8:s.stack.dropLast.length=s.stack.length - 1:=List.length_dropLast;refine⟨h.a,h.n,h.b,h.m,h.st.sublist (a5.map _),λn hn=>h.top n ((a5.map _).subset hn),?_,h.c,λv hv=>h.v v ((a5.map _).subset hv),hd,?_,λc hc=>h.i0 c (List.dropLast_subset _ hc),h.i0⟩
    .have:=h.f;show s.first+0<=s.stack.dropLast.length;omega
    .have:=h.f;show s.stack.dropLast.length<=s.dec+0;omega
 |back=>
  have h:InvS q 0 s:=h;rw[Mm]at hs;cases hl:s.stack.getLast? with
  |none=>rw[hl]at hs;cases hs
  |some c=>
   rw[hl]at hs;dsimp only at hs;cases hs;obtain⟨pre,a0⟩:∃pre,s.stack=pre++[c]:=ny.1 hl;have c3:c.node<=s.ahead.length:=h.top _ (by rw[a0];simp);have a9:∀n∈s.stack.map (·.node),n<=c.node:=λn hn=>by
    have b4:=h.st;rw[a0,fq,ir]at b4;rw[a0,fq,fk]at hn;obtain hn|hn:=hn
    .exact b4.2.2 n hn _ sI
    .simp at hn;omega
   have b5:(s.ahead.take c.node).length=c.node:=(by rw[fb];omega);have ha:=h.a;have hn:=h.n;have key:∀a4,C2 s.ns s.ahead c.node=a4->c.node<a4.length/\a4.length<=s.ns.length/\(∀i a,i<c.node->s.ahead[i]?=some a->a<=a4.length)/\∀x∈a4,x∈s.ns:=λa4 e=>by
    unfold C2 at e;cases hx:s.ahead[c.node]? with
    |some a=>rw[hx]at e;dsimp only at e;have h1:=h.b _ a hx;subst e;refine⟨by rw[fb];omega,by rw[fb];omega,λi b hi hb=>?_,λx hx=>kl hx⟩;have:=h.m i c.node b a oM hb hx;rw[fb];omega
    |none=>rw[hx]at e;dsimp only at e;subst e;have:=nz.1 hx;exact⟨oM,fm _,λi b _ hb=>(h.b i b hb).2,λx hx=>hx⟩
   obtain⟨k1,k2,k3,k4⟩:=key _ rfl;have b0:(Ba s.stack).map (·.node)=s.stack.map (·.node):=SW _ (λ_ _=>rfl) _;have b6:(Ba s.stack).map (·.vs)=s.stack.map (·.vs):=SW _ (λ_ _=>rfl) _;have b9:=SU s.stack;have hk:=h.k;refine⟨by show(s.ahead.take c.node).length<(C2 s.ns s.ahead c.node).length;omega,by show(C2 s.ns s.ahead c.node).length<=q.N;omega,λi a hi=>?_,λi j a b a6 hi hj=>?_,by show((Ba s.stack).map (·.node)).Pairwise _;rw[b0];exact h.st,λn hn=>?_,?_,λx hx=>h.c x (k4 x hx),λv hv=>h.v v (by rw[<-b6];exact hv),h.d,by show(Ba s.stack).length<=s.dec+1;omega,λx hx=>by
    replace hx:x∈(Ba s.stack).dropLast:=hx;rw[a0,GH,mn]at hx;exact h.i1 x (by rw[a0];simp[hx]),λx hx=>by
    replace hx:x∈Ba s.stack:=hx;rw[a0,GH]at hx;obtain hx|hx:=fk.1 hx
    .exact Nat.le_succ_of_le (h.i1 x (by rw[a0];simp[hx]))
    .simp only[ep]at hx;subst hx;exact Nat.succ_le_succ (h.i1 c (by rw[a0];simp))⟩
   .replace hi:(s.ahead.take c.node)[i]?=some a:=hi;rw[lf]at hi;split at hi
    .rename_i a7;exact⟨(h.b i a hi).1,k3 i a a7 hi⟩
    .cases hi
   .replace hi:(s.ahead.take c.node)[i]?=some a:=hi;replace hj:(s.ahead.take c.node)[j]?=some b:=hj;rw[lf]at hi hj;split at hj
    .rw[if_pos oM]at hi;exact h.m i j a b a6 hi hj
    .cases hj
   .show n<=(s.ahead.take c.node).length;rw[b5];exact a9 n (by rw[<-b0];exact hn)
   .show(Ba s.stack).findIdx _+1<=(Ba s.stack).length;rw[a0,GH];have:(pre++[{c with i:=c.i+1}]).findIdx (λx:Ch=>decide (x.node=c.node))<(pre++[{c with i:=c.i+1}]).length:=List.findIdx_lt_length_of_exists ⟨{c with i:=c.i+1},by simp,by simp⟩;omega
def InvL.start{q:Quest}(hN:1<=q.N):InvL q .next q.start:=
 ⟨Nat.one_pos,hN,λi a h=>(by simp[Quest.start]at h),λi j a b _ h=>(by simp[Quest.start]at h),List.Pairwise.nil,(λ_ h=>by cases h),gn _,λx hx=>(by have e:x=rootNode:=ep.1 hx;subst e;exact⟨List.nodup_nil,gn _⟩),(λ_ h=>by cases h),gn _,gn _,(λ_ h=>by cases h),(λ_ h=>by cases h)⟩
def XV{x:Ch}{v:Sl}{n:Int}{c0 p:Addr}{R:Bool->Wp}(hc:BoxAt w c0 [.pointer (some p)])(hp:ldc w p [vi n])(hR:∀w',Ext w w'->R (decide ((x.node:Int)=n)) w'):SE.L0 (x.node:Int) x.name v x.none (x.i:Int) c0 w R:=by
 unfold SE.L0;refine newS.intro λa w1 x1 hb _ _=>bnd.drew λw2 x2=>⟨_,hb.at0 x2 rfl,_,hc.at0 (r:=[]) (x1.trans x2) rfl,p,rfl,n,hp.keep (S:=λ_=>True) trivial ((x1.trans x2).keep _),?_⟩;have e:((x.node:Int)==n)=decide ((x.node:Int)=n):=by rw[gk];simp
 rw[e];exact hR _ (x1.trans x2)
def ZG:Bn prog 135:=enters_of func135 kR rfl
def Zb7{l:List Ch}{p:Ch->Bool}(hs:SlR chE w S s l)
  (hf:∀x∈l,∀v w' (k:Value->Wp),Ext w w'->(∀a4,Ext w' a4->k (.bool (p x)) a4)->callV prog f [.agg #[vi (x.node:Int),.string x.name,Sl.v v,.bool x.none,vi (x.i:Int)]] w' k)
  (hR:∀w',Ext w w'->R (AU p l) w'):SE.Mb s f w R:=by
 unfold SE.Mb;have hl:=hs.len;refine loop1.up hs.max (λi w'=>Ext w w'/\(l.take i).any p=false) ⟨Ext.refl _,rfl⟩ λi w1 a7 hi ⟨x1,hI⟩ hn=>⟨λa5=>?_,λa6=>?_⟩
 .have a0:i<l.length:=oM;obtain⟨ad,cs,ha,_,⟨_,v,rfl,_⟩,hc⟩:=hs.el a0;refine⟨ad,⟨ha,oM,a5⟩,_,_,v,_,_,hc _ xT,hf _ (ff a0) _ _ _ x1 λw2 x2=>⟨_,rfl,λh=>?_,λh=>?_⟩⟩
  .rw[<-Fx a0 hI h];exact hR _ xT
  .exact hn a0 _ ⟨xT,by rw[F8 a0 hI];exact h⟩
 .have:i=l.length:=oM;rw[this,eh]at hI;rw[<-E8 hI];exact hR _ xT
def Zca{α:Type}{p:α->Bool}{l:List α}(h:∃x∈l,p x=true):AU p l=((l.findIdx p:Nat):Int):=by unfold AU;rw[List.findIdx?_eq_some_of_exists h]
section
variable {w:Wd} {lo:Nat} {sp:Addr} {K:K7} {q:Quest} {s:St}
def Sr0.but2{gg:Nat}(h:Sr0 w lo gg stk nds ahd ws Q s){ad:Addr}(ha:stk.a=some ad)(hb:But ad.block w w'){l:List Ch}(ho:OwnS chE 137 w' lo Q stk l):Sr0 w' lo gg stk nds ahd ws Q {s with stack:=l}:=by have hQ: ¬Q ad.block:=h.stack.apart ad ha;exact⟨ho,h.nodes.but hb hQ λb hb=>h.a1 ad b ha hb,h.ahead.but hb hQ λb hb=>h.a2 ad b ha hb,h.wants.but hb hQ,h.q,h.a1,h.a2,h.a3,h.o1,h.o2,h.o3⟩
def Sr0.setRows{nds' ahd':Sl}{l1:LN}{l2:List Nat}(h:Sr0 w lo sp.block stk nds ahd ws Q s)(e1:nds'.a=nds.a)(e2:ahd'.a=ahd.a)(h1:OwnS nodeE 72 w lo Q nds' l1)(h2:OwnS Cd 3 w lo Q ahd' (l2.map Int.ofNat)):Sr0 w lo sp.block stk nds' ahd' ws Q {s with ns:=l1,ahead:=l2}:=
 ⟨h.stack,h1,h2,h.wants,h.q,λa b ha hb=>h.a1 a b ha (e1▸hb),λa b ha hb=>h.a2 a b ha (e2▸hb),λa b ha hb=>h.a3 a b (e1▸ha) (e2▸hb),h.o1,λa ha=>h.o2 a (e1▸ha),λa ha=>h.o3 a (e2▸ha)⟩
def P0{row:Sl}{n sz:Nat}:(Sl.cut row 0 n sz).a=row.a:=by
 unfold Sl.cut;dsimp only;split
 .rfl
 .rw[lu];cases row.a<;>rfl
def SL{c:Ch}{R:Wp}(hC:Cs w lo q K)(h:CN w lo sp K s)(hI:InvS q 0 s)(hl:s.stack.getLast? =some c)(hN:q.N<=128)(hD:q.D<=4096)
  (hR:∀w',Below lo w w'->CN w' lo sp K (FL q s c.node)->R w'):SE.II (some sp) w R:=by
 unfold SE.II;obtain⟨stk,nds,ahd,ws,Q,hb,b2,h0⟩:=h;obtain⟨pre,a0⟩:∃pre,s.stack=pre++[c]:=ny.1 hl;have i4:=h0.stack.len;have g1:=h0.ahead.len;have k0:=h0.nodes.len;rw[dz]at g1;have i2:s.stack.length=pre.length+1:=by rw[a0,du,gl]
 have j6:c.node<=s.ahead.length:=hI.top _ (by rw[a0];simp);have j8:c.i<=1000:=hI.i1 c (by rw[a0];simp);have j9:=Al;have hx:s.stack[pre.length]?=some c:=by rw[a0];simp
 have e9:pre.length<s.stack.length:=oM;have g7:s.stack[pre.length]=c:=by rw[dt e9,eu]at hx;exact hx
 obtain⟨ad,cs,a6,⟨j3,v,rfl,hv⟩,g5⟩:=h0.stack.el hx;have hg:=I2 hb;have k4:s.stack.length<=4096:=by have:=hI.k;have:=hI.d;omega
 have d9:Aa ((stk.len:Int) - 1)=(pre.length:Int):=by rw[i4,i2,Ag oM oM];omega
 refine bnd.drew λw1 x1=>⟨sp,rfl,stk,BoxAt.at1 hb (k:=7) x1 rfl,sp,rfl,stk,BoxAt.at1 hb (k:=7) x1 rfl,ad,⟨a6,by rw[d9];omega,by rw[d9];omega⟩,newS.intro λa w2 x2 ha j4 _=>stw0.intro ha sI λw3 b3 k5 d3=>?_⟩;have s1:=x1.size;have s2:=x2.size;have i7:Ext w1 w3:=b3.ext x2 oM;have d1:=x1.trans i7;have s3:=d1.size;simp only[gl,List.drop_one,List.tail_cons,gd]at d3;have eN:(Aa ((stk.len:Int) - 1)).toNat*5=pre.length*chE.n:=by rw[d9];rfl
 rw[eN]at d3;refine⟨_,d3.at0 (r:=[]) xR rfl,_,rfl,(c.i:Int),(g5 _ d1).mid (k:=4) (r:=[]) rfl,_,rfl,?_⟩;have h3:=h0.ext d1;have e1:Aa ((c.i:Int)+1)=((c.i+1:Nat):Int):=by rw[Ag oM oM];omega
 rw[e1];refine h3.stack.setEl (i:=pre.length) (x:={c with i:=c.i+1}) (o:=4) (new:=[.int .i64 ((c.i+1:Nat):Int)]) e9 a6 (λcs e5=>?_) (by show 4+1<=5;omega) λw4 b4 k6 d0=>?_
 .rw[g7]at e5;obtain⟨k1,v',rfl,k2⟩:=e5;exact⟨k1,v',rfl,k2⟩
 have f0:s.stack.set pre.length {c with i:=c.i+1}=Ba s.stack:=by rw[a0,GH];simp
 rw[f0]at d0;have i9:ad.block<w.heap.size:=(h0.stack.block a6).2.1;have h4:Sr0 w4 lo sp.block stk nds ahd ws Q {s with stack:=Ba s.stack}:=Sr0.but2 h3 a6 b4 d0;have j5:=SU s.stack;have h6:a.block≠ad.block:=oM;have e3:=b4.box d3 h6;have c6:BoxAt w4 sp (CK K stk nds ahd ws s.first):=b4.box (hb.ext d1) (λe=>h0.o1 ad a6 e.symm);have b6:Below lo w w4:=(d1.below' lo hC.le).trans (b4.below (by have:=hC.le;omega) (h0.stack.block a6).1);have a7:∀w',Ext w4 w'->ldc w' (ad.add (pre.length*chE.n)) [vi (c.node:Int)]:=λw' hx=>by
  have hy:(Ba s.stack)[pre.length]?=some {c with i:=c.i+1}:=by rw[a0,GH];simp
  obtain⟨j1,j2,d5,⟨_,v',rfl,_⟩,e7⟩:=d0.el hy;rw[a6,eu]at d5;subst d5;exact(e7 _ hx).pre rfl
 have f8:InvS q 1 (FL q s c.node):=InvL.step (l:=.back) (l':=.tri) hC.cat.choose_spec.choose_spec.1.good (λn r p=>fe (SZ hC.cat.choose_spec.choose_spec.1.good n r p) oM) hI (by rw[Mm,hl]);have g8:c.node<(C2 s.ns s.ahead c.node).length:=by
  have h1:=f8.a;have h2:(FL q s c.node).ahead.length=c.node:=by show(s.ahead.take c.node).length=_;rw[fb];omega
  rw[h2]at h1;exact h1
 refine join.named λJ hJ=>bnd.drew λw5 x5=>?_;have l5:=x5.size;have key:∀(w7:Wd)(a5 a4:Sl),But sp.block w5 w7->a5.a=nds.a->a4.a=ahd.a->BoxAt w7 sp (CK K stk a5 a4 ws s.first)->OwnS nodeE 72 w7 lo Q a5 (C2 s.ns s.ahead c.node)->OwnS Cd 3 w7 lo Q a4 ((s.ahead.take c.node).map Int.ofNat)->J w7:=by
  subst hJ;intro w7 a5 a4 b7 en ea c7 h5 f9;have c3:Below lo w w7:=(b6.trans (x5.below' lo (fe hC.le b6.size))).trans (b7.below (by have:=hC.le;have:=b6.size;omega) b2);have s7:=b7.1;have h7:Sr0 w7 lo sp.block stk a5 a4 ws Q {s with stack:=Ba s.stack,ns:=C2 s.ns s.ahead c.node,ahead:=s.ahead.take c.node}:=Sr0.setRows (sp:=sp) ((h4.ext x5).but b7) en ea h5 f9;have k3:CN w7 lo sp K {s with stack:=Ba s.stack,ns:=C2 s.ns s.ahead c.node,ahead:=s.ahead.take c.node}:=⟨stk,a5,a4,ws,Q,c7,b2,h7⟩;have a9:a.block≠sp.block:=oM;have d4:=b7.box (e3.ext x5) a9;have b0:ad.block≠sp.block:=h0.o1 ad a6;have c9:ldc w7 (ad.add (pre.length*chE.n)) [vi (c.node:Int)]:=(a7 _ x5).keep (S:=λb=>b≠sp.block) (by rw[CO];exact b0) λb hb b5=>b7.2.2.2.2 b b5 hb;refine⟨_,d4.at0 (r:=[]) xR rfl,_,rfl,(c.node:Int),c9,?_⟩;refine SE.Hn.go (WV (s:={s with stack:=Ba s.stack,ns:=C2 s.ns s.ahead c.node,ahead:=s.ahead.take c.node}) (k:=c.node) (hC.below c3) c7 b2 h7 g8 λw8 l0 Q8 b8 e4 h8=>⟨rfl,?_⟩);have c4:Below lo w w8:=c3.trans (b8.below (by have:=hC.le;have:=c3.size;omega) b2);have d7:=b8.box d4 a9;have a8:ldc w8 (ad.add (pre.length*chE.n)) [vi (c.node:Int)]:=c9.keep (S:=λb=>b≠sp.block) (by rw[CO];exact b0) λb hb b5=>b8.2.2.2.2 b b5 hb;have i3:=h8.stack.read (by show(Ba s.stack).length*64<=Ab;unfold Ab;omega) (by show(Ba s.stack).length<=maxLen;omega);have g9:stk.len=(Ba s.stack).length:=h8.stack.len;refine⟨sp,rfl,stk,BoxAt.at1 e4 (k:=7) xR rfl,SE.Mb.go (Zb7 (p:=λx=>decide (x.node=c.node)) i3 (λx _ v w' k hx hk=>⟨_,_,rfl,ZG,?_⟩) λw9 x9=>⟨_,rfl,sp,rfl,?_⟩)⟩
  .refine SE.L0.go (XV (x:=x) (v:=v) (n:=(c.node:Int)) (p:=ad.add (pre.length*chE.n)) (d7.ext hx) (a8.keep (S:=λ_=>True) trivial (hx.keep _)) λk9 f1=>?_);have e:decide ((x.node:Int)=(c.node:Int))=decide (x.node=c.node):=(by rw[gk];simp;omega);rw[e];exact hk _ f1
  .have g6:∃x∈Ba s.stack,decide (x.node=c.node)=true:=⟨{c with i:=c.i+1},by rw[a0,GH];simp,by simp⟩;rw[Zca g6];refine Sr0.setFirst (s:={s with stack:=Ba s.stack,ns:=C2 s.ns s.ahead c.node,ahead:=s.ahead.take c.node,ws:=q.wants (C2 s.ns s.ahead c.node) c.node}) (n:=(Ba s.stack).findIdx λx:Ch=>decide (x.node=c.node)) (e4.ext x9) b2 (h8.ext x9) λi6 f4 f7=>hR i6 ((c4.trans (x9.below' lo (fe hC.le c4.size))).trans (f4.below (by have:=hC.le;have:=c4.size;have:=x9.size;omega) b2)) f7
 have i5:=h4.nodes.read (by show s.ns.length*88<=Ab;have:=hI.n;unfold Ab;omega) (by show s.ns.length<=maxLen;have:=hI.n;omega);have f2:=h4.ahead.read (by show(s.ahead.map Int.ofNat).length*8<=Ab;rw[dz];have:=hI.n;have:=hI.a;unfold Ab;omega) (by show(s.ahead.map Int.ofNat).length<=maxLen;rw[dz];have:=hI.n;have:=hI.a;omega);have j0:s.ns.length<=nds.cap:=i5.2.1;have e0:(s.ahead.map Int.ofNat).length<=ahd.cap:=f2.2.1;rw[dz]at e0;have d6:=e3.ext x5;refine⟨_,d6.at0 (r:=[]) xR rfl,_,rfl,(c.node:Int),a7 _ x5,sp,rfl,ahd,BoxAt.at1 c6 (k:=9) x5 rfl,λb5=>?_,λj7=>?_⟩
 .have c8:c.node<s.ahead.length:=oM;have g2:(s.ahead.map Int.ofNat)[c.node]?=some (Int.ofNat s.ahead[c.node]):=by rw[gc,dt c8];rfl
  obtain⟨aa,f5,g0,e6,e8⟩:=h4.ahead.el g2;have g3:=hI.b c.node _ (dt c8);have d8:f5= [vi (Int.ofNat s.ahead[c.node])]:=e6.1;subst d8;have c5:C2 s.ns s.ahead c.node=s.ns.take s.ahead[c.node]:=by unfold C2;rw[dt c8]
  generalize s.ahead[c.node]=m at*;refine bnd.drew λw6 x6=>⟨sp,rfl,nds,BoxAt.at1 c6 (k:=8) (x5.trans x6) rfl,sp,rfl,ahd,BoxAt.at1 c6 (k:=9) (x5.trans x6) rfl,_,d6.at0 (r:=[]) x6 rfl,_,rfl,(c.node:Int),a7 _ (x5.trans x6),aa,⟨g0,oM,oM⟩,(m:Int),e8 _ (x5.trans x6),⟨oM,oM⟩,sp,rfl,?_⟩;have l6:=x6.size;have em:((m:Int)).toNat=m:=ec m;rw[em];refine stw.intro (o:=8) ((c6.ext x5).ext x6) (by show 9<=12;omega) λw7 b7 k7 c7=>bnd.drew λw8 x8=>?_;have l7:=x8.size;have a9:a.block≠sp.block:=oM;have b0:ad.block≠sp.block:=h0.o1 ad a6;have d2:But sp.block w5 w8:=((x6.but _).trans b7).trans (x8.but _);have d7:=d2.box d6 a9;have a8:ldc w8 (ad.add (pre.length*chE.n)) [vi (c.node:Int)]:=(a7 _ x5).keep (S:=λb=>b≠sp.block) (by rw[CO];exact b0) λb hb b5=>d2.2.2.2.2 b b5 hb;have h8:=(h4.ext x5).but d2;refine⟨sp,rfl,ahd,BoxAt.at1 c7 (k:=9) x8 rfl,_,d7.at0 (r:=[]) xR rfl,_,rfl,(c.node:Int),a8,⟨oM,oM⟩,sp,rfl,?_⟩;have en:((c.node:Int)).toNat=c.node:=ec _;rw[en];refine stw.intro (o:=9) (c7.ext x8) (by show 10<=12;omega) λw9 b9 k8 g4=>?_;have e2:But sp.block w5 w9:=d2.trans b9;have h9:=(h4.ext x5).but e2;refine key w9 (Sl.cut nds 0 m 6) (Sl.cut ahd 0 c.node 1) e2 P0 P0 g4 ?_ ?_
  .rw[c5];exact OwnS.take (E:=nodeE) h9.nodes g3.2
  .rw[List.map_take];exact OwnS.take (E:=Cd) h9.ahead (by rw[dz];omega)
 .have c5:C2 s.ns s.ahead c.node=s.ns:=by unfold C2;rw[il oM]
  have f6:s.ahead.take c.node=s.ahead:=gj oM;exact key w5 nds ahd ((Ext.refl w5).but _) rfl rfl (c6.ext x5) (by rw[c5];exact(h4.ext x5).nodes) (by rw[f6];exact(h4.ext x5).ahead)
end
def Tl{l:LP}{R:Sl->Wp}(hS:Old S w)(hs:SlR pinE w S s l)(hR:∀t w',Ext w w'->OwnS pinE 166 w' w.heap.size None' t l->R t w'):SE.IV s w R:=by
 unfold SE.IV;refine⟨λh=>?_,λh=>?_⟩
 .have:l=[]:=by
   rcases hs.2.2.2.2 with h0|⟨ad,h1,_⟩
   .exact h0
   .rw[h]at h1;cases h1
  subst this;exact hR _ _ xR (OwnS.nil _ _)
 .intro a w1 ha hw;subst ha;have x1:Ext w w1:=hw▸Ext.alloc _ _;have own:OwnS pinE 166 w1 w.heap.size None' ⟨some ⟨w.heap.size,0,none⟩,0,0⟩ []:=hw▸OwnS.empty w;refine own.appAll Jw x1.size (hs.ext x1) (hS.ext x1.size) (λad ha hb=>?_) (by simpa using hs.2.2.2.1) (by simpa using hs.max) λr w2 a0 bel _ _=>?_
  .simp only[eu]at ha;subst ha;have:=hS _ hb;simp at this
  .exact hR r w2 (x1.trans' bel) (OwnS.flat (λh=>h) a0)
def Ya{a b:Pin}(hR:∀w',Gr w w'->R (A7 a.name b.name) w'):SE.L3 a.name a.v.ma a.v.mi a.v.pa b.name b.v.ma b.v.mi b.v.pa w R:=by unfold SE.L3;refine newS.gr λ_ w1 x1 hb=>newS.gr λ_ w2 x2 a0=>⟨_,Gr.at0 hb x2 rfl,_,Gr.at0 a0 (Gr.refl _) rfl,ET ⟨_,rfl,hR _ (x1.trans x2)⟩⟩
def ZH:Bn prog 131:=enters_of func131 kR rfl
def Ziy{l:LP}(h:FlatO AW 40 w lo s l)(a4:lo<=w.heap.size)(hn:(l.map (·.name)).Nodup)
  (hK:∀w',Below lo w w'->FlatO AW 40 w' lo s (BA l)->K (.tuple #[]) w'):
  callS prog 130 [s.v,.func (.func 131) #[] #[]] w K:=by
 obtain⟨h1,h2,h3,h4,h5⟩:=h;obtain⟨a,n,c⟩:=s;simp only at h1 h2 h3 h5;subst h1;rcases h5 with rfl|⟨g,tail,ha,hg,hr⟩
 .refine(AnyF.slices_SortFunc_none Tryz.laySp a c _ w).mono λe w' ⟨he,hw⟩=>⟨_,he,?_⟩;subst hw;exact hK _ (Below.refl _ _) ⟨rfl,h2,h3,h4,.inl rfl⟩
 .subst ha;have hO:=DB (α:=Pin) (·.name);refine F7 Tryz.laySp (k:=4) PY Rf (f:=AW) (λ_=>rfl) (λx v hv=>by simp[AW]at hv;rcases hv with rfl|rfl|rfl|rfl<;>rfl) (λa b=>A7 a.name b.name) (EU hO.flip hO.trans) 131 #[] ZH (λw0 x y hb _=>?_) hr (by unfold Ab at h4;omega) rfl λl' w' hp hs b a5=>?_
  .have h:=SE.L3.go (k:=λv w'=>v= .int .i64 (A7 x.name y.name)/\Gr w0 w') (Ya (a:=x) (b:=y) (w:=w0) λw' h=>⟨rfl,h⟩);exact Calls.mono h λe w' ⟨v,he,hv,hg⟩=>⟨by rw[he,hv],hg⟩
  .have e:l'=BA l:=by refine Rises.one ?_ (Rx hn) (hp.trans (EP l).symm);have a0:(l'.map (·.name)).Nodup:=(hp.map _).nodup_iff.2 hn;rw[gz,iq]at a0;exact(hs.and a0).imp λ{a b} h=>Jy (by have:=hO.flip b a;have:=hO.flip a b;omega) h.2
   subst e;have hl:=(EP l).length_eq;exact hK w' (b.below a4 hg) ⟨hl.symm,by rw[hl];exact h2,h3,by rw[hl];exact h4,.inr ⟨g,tail,rfl,hg,a5⟩⟩
def Mw{a b c x y z:Int}:((a==x)&&((b==y)&&((c==z)&&true)))=decide ((⟨a,b,c⟩:Ver)=⟨x,y,z⟩):=by rw[gk];simp
def Zai{t:Sl}{a b:LP}{T:Nat->Prop}{R:Bool->Wp}(hs:SlR pinE w S s a)(ht:SlR pinE w T t b)(hR:∀w',Ext w w'->R (decide (a=b)) w'):SE.LO s t w R:=by
 unfold SE.LO;have h1:=hs.len;have h2:=ht.len;refine⟨λh=>?_,λh=>?_⟩
 .have: ¬a=b:=λe=>by subst e;omega
  have h3:=hR w xR;rw[decide_eq_false this]at h3;exact h3
 have a9:a.length=b.length:=by have:=ji.1 h;omega
 refine loop1.up hs.max (λi w'=>Ext w w'/\a.take i=b.take i) ⟨Ext.refl _,rfl⟩ λi w1 b0 hi ⟨x1,hI⟩ hn=>⟨λa6=>bnd.drew λw2 x2=>?_,λa8=>?_⟩
 .have k1:i<a.length:=oM;have k2:i<b.length:=oM;obtain⟨ad,ha,_,_,hc⟩:=Dg hs k1;obtain⟨a0,a4,_,_,a5⟩:=Dg ht k2;refine⟨ad,⟨ha,oM,a6⟩,_,_,_,_,hc _ (x1.trans x2),a0,⟨a4,oM,oM⟩,_,_,_,_,a5 _ (x1.trans x2),?_⟩;have e:(!((Ai a[i].name b[i].name)&&(((a[i].v.ma==b[i].v.ma)&&((a[i].v.mi==b[i].v.mi)&&((a[i].v.pa==b[i].v.pa)&&true)))&&true)))= !decide (a[i]=b[i]):=by congr 1;rw[gk];generalize a[i]=x;generalize b[i]=y;obtain⟨n,⟨p,q,r⟩⟩:=x;obtain⟨n',⟨p',q',r'⟩⟩:=y;simp[AH]
  rw[e];refine⟨λh=>?_,λh=>?_⟩
  .have a7: ¬a=b:=λe=>(by subst e;simp at h);have h3:=hR w2 (x1.trans x2);rw[decide_eq_false a7]at h3;exact h3
  .refine hn k1 _ ⟨x1.trans x2,?_⟩;have he:a[i]=b[i]:=(by simpa using h);rw[dw k1,dw k2,hI,he]
 .have:i=a.length:=oM;subst this;rw[eh,gj oM]at hI;have h3:=hR w1 x1;rw[decide_eq_true hI]at h3;exact h3
def Yb{x y:Node}{cx ex cy ey:Sl}{T:Nat->Prop}{c0:Addr}{R:Bool->Wp}(hc:BoxAt w c0 [.string x.name,vi x.v.ma,vi x.v.mi,vi x.v.pa,cx.v,ex.v])(hx:SlR pinE w S cx x.ctx)(hy:SlR pinE w T cy y.ctx)(hR:∀w',Ext w w'->R (decide (y.key=x.key)) w'):
  SE.L4 y.name y.v.ma y.v.mi y.v.pa cy ey c0 w R:=by
 unfold SE.L4;have e:decide (y.key=x.key)=(Ai x.name y.name&&decide (x.v=y.v)&&decide (x.ctx=y.ctx)):=by rw[gk];simp only[Node.key,decide_eq_true_eq,Prod.mk.injEq,dx,AH];exact⟨λ⟨a,b,c⟩=>⟨⟨a.symm,b.symm⟩,c.symm⟩,λ⟨⟨a,b⟩,c⟩=>⟨a.symm,b.symm,c.symm⟩⟩
 rw[e]at hR;refine newS.intro λa w1 x1 hb _ _=>⟨_,hc.at0 x1 rfl,_,hb.at0 xR rfl,bound ⟨_,_,_,λ_=>hc.at1 (k:=1) x1 rfl,_,_,_,λ_=>hb.at1 (k:=1) xR rfl,bound ?_⟩⟩;have ev:((x.v.ma==y.v.ma)&&((x.v.mi==y.v.mi)&&((x.v.pa==y.v.pa)&&true)))=decide (x.v=y.v):=Mw;rw[ev];refine⟨cx,λ_=>hc.at1 (k:=4) x1 rfl,cy,λ_=>hb.at1 (k:=4) xR rfl,?_⟩;refine gCall.intro (decide (x.ctx=y.ctx)) (λ_ q hq=>SE.LO.go (Zai (hx.ext x1) (hy.ext x1) λw' hx=>⟨_,rfl,hq _ hx⟩)) λt w2 x2 ht=>?_;have h3:=hR w2 (x1.trans x2);cases hg:(Ai x.name y.name&&decide (x.v=y.v))
 .rw[hg]at h3;exact h3
 .rw[hg]at h3 ht;rw[ht rfl];exact h3
def ZI:Bn prog 133:=enters_of func133 kR rfl
def Zcb{l:LN}{p:Node->Bool}(hs:SlR nodeE w S s l)
  (hf:∀x∈l,∀(c e:Sl) w' (k:Value->Wp),Ext w w'->SlR pinE w' S c x.ctx->(∀a4,Ext w' a4->k (.bool (p x)) a4)->callV prog f [.agg #[.string x.name,vi x.v.ma,vi x.v.mi,vi x.v.pa,c.v,e.v]] w' k)
  (hR:∀w',Ext w w'->R (AU p l) w'):SE.LY s f w R:=by
 unfold SE.LY;have hl:=hs.len;refine loop1.up hs.max (λi w'=>Ext w w'/\(l.take i).any p=false) ⟨Ext.refl _,rfl⟩ λi w1 a8 hi ⟨x1,hI⟩ hn=>⟨λa6=>?_,λa7=>?_⟩
 .have a0:i<l.length:=oM;obtain⟨ad,cs,ha,_,⟨_,c,e,rfl,a5,_⟩,hc⟩:=hs.el a0;refine⟨ad,⟨ha,oM,a6⟩,_,_,_,_,c,e,hc _ xT,hf _ (ff a0) c e _ _ x1 (a5.ext x1) λw2 x2=>⟨_,rfl,λh=>?_,λh=>?_⟩⟩
  .rw[<-Fx a0 hI h];exact hR _ xT
  .exact hn a0 _ ⟨xT,by rw[F8 a0 hI];exact h⟩
 .have:i=l.length:=oM;rw[this,eh]at hI;rw[<-E8 hI];exact hR _ xT
end Go.Hal
namespace Go.Hal
def RiseN{α:Type}(f:α->Bs)(l:List α):Prop:=l.Pairwise λa b=>Ao (f a) (f b)=true
def Zho{α:Type}{f:α->Bs}{l:List α}{a x:α}(h:RiseN f (l++[a]))(hx:Ao (f a) (f x)=true):RiseN f (l++[a]++[x]):=by
 unfold RiseN at*;rw[ir];refine⟨h,by simp,λb hb c hc=>?_⟩;simp only[ep]at hc;subst hc;obtain hb|hb:=fk.1 hb
 .exact GF ((ir.1 h).2.2 b hb a sI) hx
 .simp only[ep]at hb;subst hb;exact hx
def RiseN.nodup{α:Type}{f:α->Bs}{l:List α}(h:RiseN f l):(l.map f).Nodup:=by rw[gz,iq];exact h.imp λh=>Fj h
def RiseN.inj{α:Type}{f:α->Bs}{l:List α}(h:RiseN f l){a b:α}(ha:a∈l)(hb:b∈l)(he:f a=f b):a=b:=by
 obtain⟨i,hi,rfl⟩:=fp.1 ha;obtain⟨j,hj,rfl⟩:=fp.1 hb;have hp:=gh.1 h;obtain a0|rfl|a0:=Nat.lt_trichotomy i j
 .exact absurd he (Fj (hp i j hi hj a0))
 .rfl
 .exact absurd he.symm (Fj (hp j i hj hi a0))
def Az(g:LN)(k:Nat):LQ:=match g[k]? with
 |some x=>x.edges
 |none=>[]
def HY(g:LN)(x:Node)(n:Bs):Option Node:=(x.edges.find? λe=>decide (e.name=n)).bind λe=>g[e.to.toNat]?
def Zz{g:LN}{x y:Node}(h:HY g x n=some y):∃e∈x.edges,e.name=n/\g[e.to.toNat]?=some y:=by unfold HY at h;obtain⟨e,h1,h2⟩:=Option.bind_eq_some_iff.1 h;exact⟨e,ly h1,by simpa using ot h1,h2⟩
structure StepC where
 op:Int
 name:Bs
 range:Bs
 kind:Int
 pack:Bs
 n:Int
structure JobC where
 m:Mani
 pins:LP
 keep:Bool
 pruned:Bool
def EA(n:Bs)(d:Dep):Bool:=decide (d.name=n)
def Bk(l:LD)(n:Bs):LD:=l.filter λd=>!EA n d
def AK(l:LD)(n:Bs):Bool:=l.any (EA n)
def withD(l:LD)(d:Dep):LD:=
 let k:=Bk l d.name
 k.takeWhile (λx=>Ao x.name d.name)++d::k.dropWhile (λx=>Ao x.name d.name)
def D7(m:Mani)(n:Bs):Mani:=⟨Bk m.deps n,Bk m.dev n,Bk m.opt n,m.over⟩
def D6(m:Mani)(k:Int)(d:Dep):Mani:=
 let b:=D7 m d.name
 if k=0 then⟨withD b.deps d,b.dev,b.opt,b.over⟩else if k=1 then⟨b.deps,withD b.dev d,b.opt,b.over⟩else⟨b.deps,b.dev,withD b.opt d,b.over⟩
inductive AskR (m:Mani) (pins:LP) (pruned:Bool) (x:StepC) (r:Option (List Span)):Int->JobC->Prop
 |install:x.op=2->AskR m pins pruned x r 0 ⟨m,[],false,false⟩
 |addName {j:JobC}:x.op=3->Af x.name=false->AskR m pins pruned x r 23 j
 |addRange {j:JobC}:x.op=3->Af x.name=true->r=none->AskR m pins pruned x r 21 j
 |addKind {j:JobC} {l:LS}:x.op=3->Af x.name=true->r=some l->(x.kind<0\/2<x.kind)->AskR m pins pruned x r 1 j
 |addFull {j:JobC} {l:LS}:x.op=3->Af x.name=true->r=some l->0<=x.kind->x.kind<=2->AV (D6 m x.kind ⟨x.name,l⟩)=false->AskR m pins pruned x r 26 j
 |add {l:LS}:x.op=3->Af x.name=true->r=some l->0<=x.kind->x.kind<=2->AV (D6 m x.kind ⟨x.name,l⟩)=true->AskR m pins pruned x r 0 ⟨D6 m x.kind ⟨x.name,l⟩,pins,true,pruned&& !decide (x.kind=1)⟩
 |remName {j:JobC}:x.op=4->Af x.name=false->AskR m pins pruned x r 23 j
 |remWant {j:JobC}:x.op=4->Af x.name=true->(AK m.deps x.name||(AK m.dev x.name||AK m.opt x.name))=false->AskR m pins pruned x r 50 j
 |rem:x.op=4->Af x.name=true->(AK m.deps x.name||(AK m.dev x.name||AK m.opt x.name))=true->AskR m pins pruned x r 0 ⟨D7 m x.name,pins,true,pruned⟩
 |updAll:x.op=5->x.name=⟨#[]⟩->AskR m pins pruned x r 0 ⟨m,[],true,pruned⟩
 |updName {j:JobC}:x.op=5->x.name≠⟨#[]⟩->Af x.name=false->AskR m pins pruned x r 23 j
 |updWant {j:JobC}:x.op=5->x.name≠⟨#[]⟩->Af x.name=true->pins.any (Aw x.name)=false->AskR m pins pruned x r 50 j
 |upd:x.op=5->x.name≠⟨#[]⟩->Af x.name=true->pins.any (Aw x.name)=true->AskR m pins pruned x r 0 ⟨m,pins.filter (λp=>!Aw x.name p),true,pruned⟩
 |dedupe:x.op=6->AskR m pins pruned x r 0 ⟨m,pins,false,pruned⟩
 |prune:x.op=7->AskR m pins pruned x r 0 ⟨m,pins,true,true⟩
 |ovName {j:JobC}:x.op=8->Af x.name=false->AskR m pins pruned x r 23 j
 |ovWant {j:JobC}:x.op=8->Af x.name=true->x.range=⟨#[]⟩->AK m.over x.name=false->AskR m pins pruned x r 50 j
 |ovNone:x.op=8->Af x.name=true->x.range=⟨#[]⟩->AK m.over x.name=true->AskR m pins pruned x r 0 ⟨⟨m.deps,m.dev,m.opt,Bk m.over x.name⟩,pins,true,pruned⟩
 |ovRange {j:JobC}:x.op=8->Af x.name=true->x.range≠⟨#[]⟩->r=none->AskR m pins pruned x r 21 j
 |ovFull {j:JobC} {l:LS}:x.op=8->Af x.name=true->x.range≠⟨#[]⟩->r=some l->AV ⟨m.deps,m.dev,m.opt,withD m.over ⟨x.name,l⟩⟩=false->AskR m pins pruned x r 26 j
 |ov {l:LS}:x.op=8->Af x.name=true->x.range≠⟨#[]⟩->r=some l->AV ⟨m.deps,m.dev,m.opt,withD m.over ⟨x.name,l⟩⟩=true->AskR m pins pruned x r 0 ⟨⟨m.deps,m.dev,m.opt,withD m.over ⟨x.name,l⟩⟩,pins,true,pruned⟩
 |op {j:JobC}:(x.op<2\/8<x.op)->AskR m pins pruned x r 51 j
def RiseD(l:LD):Prop:=l.Pairwise λx y=>Ao x.name y.name=true
def RiseD.one{k:LD}(h:RiseD l)(h':RiseD k)(hp:l.Perm k):l=k:=Ja (R:=λx y:Dep=>Ao x.name y.name=true) (λx y h1 h2=>by rw[MS h1]at h2;cases h2) h h' hp
def RiseD.without(h:RiseD l)(n:Bs):RiseD (Bk l n):=List.Pairwise.filter _ h
def Zlq:d∈Bk l n↔d∈l/\d.name≠n:=by unfold Bk EA;rw[io];simp
def Xa(l:LD)(d:Dep):(withD l d).Perm (Bk l d.name++[d]):=by
 have h1:(withD l d).Perm (d::Bk l d.name):=by unfold withD;have:=List.perm_middle (a:=d) (l₁:=(Bk l d.name).takeWhile λx=>Ao x.name d.name) (l₂:=(Bk l d.name).dropWhile λx=>Ao x.name d.name);rwa [lx]at this
 exact h1.trans (nr d _).symm
def W8{α:Type}{p:α->Bool}:∀{l:List α} {x:α},x∈l.takeWhile p->p x=true
 | [],x,h=>by cases h
 |a::l,x,h=>by
  cases hp:p a with
  |true=>
   rw[List.takeWhile_cons_of_pos hp]at h;obtain rfl|h:=ga.1 h
   .exact hp
   .exact W8 h
  |false=>rw[List.takeWhile_cons_of_neg (by rw[hp];simp)]at h;cases h
def T9{n:Bs}:∀{l:LD},RiseD l->(∀x∈l,x.name≠n)->∀x∈l.dropWhile (λx=>Ao x.name n),Ao n x.name=true
 | [],_,_,x,h=>by cases h
 |a::l,hr,hn,x,h=>by
  obtain⟨h1,h2⟩:=ic.1 hr;cases hp:Ao a.name n with
  |true=>rw[List.dropWhile_cons_of_pos (p:=λx:Dep=>Ao x.name n) hp]at h;exact T9 h2 (λy hy=>hn y (.tail _ hy)) x h
  |false=>
   rw[List.dropWhile_cons_of_neg (p:=λx:Dep=>Ao x.name n) (by rw[hp];simp)]at h;have ha:Ao n a.name=true:=by
    cases k:Ao n a.name with
    |true=>rfl
    |false=>exact absurd (Jz hp k) (hn a (.head _))
   obtain rfl|h:=ga.1 h
   .exact ha
   .exact GF ha (h1 x h)
def RiseD.withD(h:RiseD l)(d:Dep):RiseD (withD l d):=by
 have hw:=h.without d.name;have a0:∀x∈Bk l d.name,x.name≠d.name:=λx hx=>(Zlq.1 hx).2;have hl:=T9 hw a0;unfold Go.Hal.withD RiseD;refine ir.2 ⟨List.Pairwise.sublist (List.takeWhile_sublist _) hw,ic.2 ⟨hl,List.Pairwise.sublist (nh _) hw⟩,λa ha b hb=>?_⟩;have h1:=W8 ha;obtain rfl|hb:=ga.1 hb
 .exact h1
 .exact GF h1 (hl b hb)
def Zlp{k:LD}(h:RiseD l)(hk:k.Perm (Bk l d.name++[d]))(hs:k.Pairwise λx y=>¬Ao y.name x.name=true):k=withD l d:=by
 refine RiseD.one ?_ (h.withD d) (hk.trans (Xa l d).symm);have hn:(k.map Dep.name).Nodup:=by
  have h1:((withD l d).map Dep.name).Nodup:=by rw[gz,iq];exact(h.withD d).imp λh=>Fj h
  exact((hk.trans (Xa l d).symm).map Dep.name).nodup_iff.2 h1
 rw[gz,iq]at hn;refine(hn.and hs).imp λ{a b} ⟨h1,h2⟩=>?_;cases h3:Ao a.name b.name with
 |true=>rfl
 |false=>exact absurd (Jz h3 (by simpa using h2)) h1
def Em(h:AK l n=false):Bk l n=l:=by unfold AK at h;unfold Bk;rw[kg]at h;rw[oe];intro x hx;have:=h x hx;simpa using this
def O6(h:AK l d.name=false):Bk (withD l d) d.name=l:=by unfold withD;rw[Em h];have a0:=Em h;unfold Bk at a0 ⊢;rw[jk,List.filter_cons_of_neg (by unfold EA;simp),<-jk,lx];exact a0
open Go.Sort
def Ps{α β:Type}:∀(l:List α){P:Nat->α->β->Prop},(∀i x,l[i]?=some x->∃y,P i x y)->∃z:List (β×α),z.map Prod.snd=l/\∀i p,z[i]?=some p->P i p.2 p.1
 | [],_,_=>⟨[],rfl,λi p h=>by simp at h⟩
 |x::l,P,h=>by
  obtain⟨y,hy⟩:=h 0 x rfl;obtain⟨z,hz,hp⟩:=Ps l (P:=λi=>P (i+1)) λi x' hx=>h (i+1) x' (by simpa using hx);refine⟨(y,x)::z,by rw[ib,hz],λi p hi=>?_⟩;cases i with
  |zero=>simp at hi;subst hi;exact hy
  |succ i=>exact hp i p (by simpa using hi)
def Et(w:Wd)(S:Nat->Prop)(p:Bm×Dep):Prop:=p.1.1=p.2.name/\Ac p.2.name/\SlR spanE w S p.1.2 p.2.range
def FlatO.low{α:Type}{f:α->LV}{bytes:Nat}{l:List α}(h:FlatO f bytes w lo s l)(a0:lo'<=lo):FlatO f bytes w lo' s l:=by obtain⟨h1,h2,h3,h4,h5⟩:=h;exact⟨h1,h2,h3,h4,h5.imp id λ⟨g,tail,a,b,c⟩=>⟨g,tail,a,fe a0 b,c⟩⟩
def DepO(w:Wd)(lo:Nat)(S:Nat->Prop)(s:Sl)(l:LD):Prop:=∃z:List (Bm×Dep),RawT 96 depC 2 w lo s (z.map Prod.fst)/\z.map Prod.snd=l/\∀p∈z,Et w S p
def Ua{z:List (Bm×Dep)}(h:FlatO depC 40 w lo s (z.map Prod.fst))(hz:∀p∈z,Et w S p):SlR depE w (λb=>S b\/(lo<=b/\b<w.heap.size)) s (z.map Prod.snd):=by
 obtain⟨h1,h2,h3,h4,h5⟩:=h;rw[dz]at h1 h2 h4;refine⟨by rw[dz];exact h1,by rw[dz];exact h2,h3,by rw[dz];exact h4,?_⟩;rcases h5 with h5|⟨g,tail,ha,hg,hr⟩
 .rw[List.map_eq_nil_iff]at h5;subst h5;exact .inl rfl
 .refine .inr ⟨_,ha,.inr ⟨hg,hr.lt⟩,λi x hx=>?_⟩;rw[gc]at hx;cases hi:z[i]? with
  |none=>rw[hi]at hx;cases hx
  |some p=>
   rw[hi]at hx;obtain rfl:p.2=x:=jm hx;obtain⟨e1,e2,e3⟩:=hz p (gv hi);have hp:(z.map Prod.fst)[i]?=some p.1:=by rw[gc,hi];rfl
   exact⟨depC p.1,⟨e2,p.1.2,by rw[<-e1];rfl,e3.mono λb hb=>.inl hb⟩,RowB.ld' (f:=depC) (k:=2) (λ_=>rfl) hr hp⟩
def DepO.read(h:DepO w lo S s l)(hl:l.length<=1000000):SlR depE w (λb=>S b\/(lo<=b/\b<w.heap.size)) s l:=by obtain⟨z,hf,rfl,hz⟩:=h;rw[dz]at hl;exact Ua (hf.flat (bytes:=40) (by rw[dz];unfold Ab;omega)) hz
def DepO.low(h:DepO w lo S s l)(hl:lo'<=lo):DepO w lo' S s l:=by obtain⟨z,hf,e,hz⟩:=h;exact⟨z,hf.low hl,e,hz⟩
def DepO.below{z:List (Bm×Dep)}(hz:∀p∈z,Et w S p)(hb:Below lo w w')(hS:∀b,S b->b<lo):∀p∈z,Et w' S p:=λp hp=>by obtain⟨e1,e2,e3⟩:=hz p hp;exact⟨e1,e2,e3.below hb hS⟩
def DepO.of(h:OwnS depE 96 w lo S s l):DepO w lo S s l:=by
 obtain⟨css,ho,hl,hr⟩:=h.row;obtain⟨z,hz,hp⟩:=Ps (β:=Bm) l (P:=λi x y=>Et w S (y,x)/\css[i]?=some (depC y)) λi x hx=>by obtain⟨cs,h1,h0,u,hc,hu⟩:=hr i x hx;subst hc;exact⟨(x.name,u),⟨rfl,h0,hu⟩,h1⟩
 have a0:z.length=l.length:=by rw[<-hz,dz]
 have e:css=(z.map Prod.fst).map depC:=by
  apply pd λi=>?_;rw[gc,gc];cases hi:z[i]? with
  |none=>have:css.length<=i:=(by rw[hl,<-a0];exact nz.1 hi);rw[il this];rfl
  |some p=>rw[(hp i p hi).2];rfl
 refine⟨z,⟨by rw[<-e];exact ho,by rw[dz,a0];exact h.len⟩,hz,λp hm=>?_⟩;obtain⟨i,hi⟩:=jo hm;exact(hp i p hi).1
def Y9{R:Sl->Wp}(hS:Old S w)(hs:SlR depE w S s l)(hl:l.length<=1000000)(hR:∀t w',Ext w w'->DepO w' w.heap.size S t l->R t w'):SE.LF s w R:=by
 unfold SE.LF;refine⟨λh=>?_,λh=>?_⟩
 .have:l=[]:=by
   rcases hs.2.2.2.2 with h0|⟨ad,h1,_⟩
   .exact h0
   .rw[h]at h1;cases h1
  subst this;exact hR _ _ xR ⟨[],⟨⟨rfl,.inl ⟨rfl,rfl⟩⟩,rfl⟩,rfl,λp hp=>by cases hp⟩
 .intro a w1 ha hw;subst ha;have x1:Ext w w1:=hw▸Ext.alloc _ _;have own:OwnS depE 96 w1 w.heap.size None' ⟨some ⟨w.heap.size,0,none⟩,0,0⟩ []:=hw▸OwnS.empty w;refine own.appAll Jv x1.size (hs.ext x1) (hS.ext x1.size) (λad ha hb=>?_) (by simpa using hs.2.2.2.1) (by simpa using hs.max) λr w2 a0 bel _ _=>?_
  .simp only[eu]at ha;subst ha;have:=hS _ hb;simp at this
  .refine hR r w2 (x1.trans' bel) (DepO.of (a0.mono (S':=S) (λb hb=>hb.elim (λh=>h.elim) id) (λb hb=>a0.lt b (.inr hb)) (λad ha hb=>a0.apart ad ha (.inr hb))))
def UN{α β:Type}(f:α->β)(p:β->Bool)(z:List α):(z.filter λx=>p (f x)).map f=(z.map f).filter p:=by
 induction z with
 |nil=>rfl
 |cons x r ih=>rw[nx,ib,nx];split<;>simp[ih]
def SlR.raw(hs:SlR depE w S s l):∃z:List (Bm×Dep),SlR HW w S s (z.map Prod.fst)/\z.map Prod.snd=l/\∀p∈z,Et w S p:=by
 obtain⟨h1,h2,h3,h4,h5⟩:=hs;rcases h5 with h5|⟨ad,ha,hS,a4⟩
 .subst h5;exact⟨[],⟨h1,h2,h3,h4,.inl rfl⟩,rfl,λp hp=>by cases hp⟩
 .obtain⟨z,hz,hp⟩:=Ps (β:=Bm) l (P:=λi x y=>Et w S (y,x)/\ldc w (ad.add (i*2)) (depC y)) λi x hx=>by obtain⟨cs,⟨e1,u,rfl,e2⟩,e3⟩:=a4 i x hx;exact⟨(x.name,u),⟨rfl,e1,e2⟩,e3⟩
  have a0:z.length=l.length:=by rw[<-hz,dz]
  refine⟨z,⟨by rw[dz,a0];exact h1,by rw[dz,a0];exact h2,h3,by rw[dz,a0];exact h4,.inr ⟨ad,ha,hS,λi x hx=>?_⟩⟩,hz,λp hm=>?_⟩
  .rw[gc]at hx;cases hi:z[i]? with
   |none=>rw[hi]at hx;cases hx
   |some p=>rw[hi]at hx;obtain rfl:p.1=x:=jm hx;exact⟨depC p.1,⟨rfl,trivial⟩,(hp i p hi).2⟩
  .obtain⟨i,hi⟩:=jo hm;exact(hp i p hi).1
def Zco:∀w,(isAgg 96).run prog w= .ok true w:=λw=>by kernel_rfl
def Zio:∀w,(Go.sizeOf 96).run prog w= .ok 2 w:=λw=>by kernel_rfl
def RawT.own{l:List Bm}(h:RawT 96 depC 2 w lo s l):OwnS HW 96 w lo None' s l:=
 ⟨⟨l.map depC,h.1,by simp,λi x hx=>⟨depC x,by rw[gc,hx];rfl,rfl,trivial⟩⟩,h.2,λ_ h=>h.elim,λ_ _ h=>h.elim⟩
def OwnS.rawT{l:List Bm}(h:OwnS HW 96 w lo S s l):RawT 96 depC 2 w lo s l:=by
 obtain⟨css,ho,hl,hr⟩:=h.row;have e:css=l.map depC:=by apply po (by simp[hl]);intro i h1 h2;obtain⟨cs,k1,k2⟩:=hr i (l[i]'(by simpa using h2)) (dt (by simpa using h2));rw[dt h1,eu]at k1;rw[k1,na];exact k2.1
 rw[e]at ho;exact⟨ho,h.len⟩
end Go.Hal
