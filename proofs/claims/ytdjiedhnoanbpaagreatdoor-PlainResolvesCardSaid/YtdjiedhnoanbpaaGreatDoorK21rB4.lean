/- Lemmas for the claim K21r: how the program's functions run, and what they answer; no condition but those that each theorem names. -/
import Derived.Test.YtdjiedhnoanbpaaGreatDoorProg
import Derived.RangeFuncBox
import Derived.RangeFuncNested
import Derived.RangeFuncLeaves
import Derived.RangeFuncGives
import Derived.Shelf.Abstract
import Derived.WalkKit
import Derived.OwnWalkIn
import Derived.TacticsInMore
import Derived.LoopNIn
import Derived.LoopIn
import Derived.Maps.AppendAt
import Derived.Shelf.SlSortCmp.NoneTotal
import Derived.Ground.SlsfProg
import Derived.Lib.AtoiAll
import Derived.Shelf.Sort.Plain
import Derived.Shelf.Slices.In.SortNone
import Derived.Ground.NamesProg
import Derived.Laws.MakeOwn
import Derived.Laws.IdiomCopy
import Derived.ArgAppend
import Derived.Lone
import Derived.RunT
import Derived.StepT
import Derived.Calls
import Derived.Test.YtdjiedhnoanbpaaGreatDoorK21rB3
set_option linter.unusedVariables false
set_option linter.unusedSimpArgs false
set_option maxHeartbeats 16000000
namespace Go.Proofs
open Go.Proofs.Tryz
open Go.RowKit Go.Shelf Go.Maps
attribute [local go_sem] Oper.semAt_some
theorem Zmf:maxLen=9223372036854775807:=rfl
def rkV(x:Int×Int):Value:=.agg #[.int .i64 x.1,.int .i64 x.2]
set_option maxRecDepth 100000 in
theorem Zuo(F:Fence)(n:Nat)(hF:F.fn 351)(hro:F.round=none)(hn:1≤n)(l Bs n₀ b off len cap:Nat)(zs:List (Int×Int))(hlen:zs.length=len)(hreach:len*16≤140737488351232)(hb:b<n₀)(J Jx:List (Int×Int)→World→Prop)
  (hJ: ∀pre W W',J pre W→Below W.heap.size W W'→J pre W')
  (hY: ∀pre x W,J pre W→pre.length<len→YieldAt F (n - 1) prog l #[rkV x] W λe W'=>(e= .returned (.bool true)∧J (pre++ [x]) W'∧Below n₀ W W')∨(e= .returned (.bool false)∧Jx (pre++ [x]) W'))
  (W:World) (hn0:n₀≤W.heap.size) (hBs:W.cell? ⟨Bs,0,none⟩=some (.slice (some ⟨b,off,none⟩) len cap)) (hc: ∀j (h:j<zs.length),W.cell? ⟨b,off+j*2,none⟩=some (.int .i64 zs[j].1)∧W.cell? ⟨b,off+j*2+1,none⟩=some (.int .i64 zs[j].2)) (h0:J [] W):
  CallsIn F n prog 351 #[.func (.yield l) #[] #[],.pointer (some ⟨Bs,0,none⟩)] W λe W'=>(∃v,e= .returned v)∧((∃ys,ys=zs∧J ys W')∨(∃pre,pre<+:zs∧Jx pre W')):=by
 refine callsIn_of_wp func351 rfl hF ?_ hro
 simp only[Tryz.ntmps351,List.size_toArray,List.length_cons,List.length_nil,Nat.reduceAdd,Nat.reduceSub,Array.replicate_succ,Array.replicate_zero,List.push_toArray,List.append_toArray,List.nil_append,List.cons_append]
 gi_wp2
 gi_loopw [7] (λi wr=>∃k:Nat,k≤len∧i= .int .i64 k∧J (zs.take k) wr∧Below n₀ W wr)
  (λi _=>len - (intOf i).toNat)
 case atStart=>exact⟨0,Nat.zero_le _,rfl,h0,Below.refl _ _⟩
 case round=>
  obtain⟨k,hk,rfl,hJs,hnx⟩:=hrel
  by_cases hlt:k<len
  ·have hkz:k<zs.length:=oM
   have c1:wr.cell? ⟨b,off+k*2,none⟩=some (.int .i64 zs[k].1):=(hnx.cell (p:=⟨b,off+k*2,none⟩) hb).trans (hc k hkz).1
   have c2:wr.cell? ⟨b,off+k*2+1,none⟩=some (.int .i64 zs[k].2):=(hnx.cell (p:=⟨b,off+k*2+1,none⟩) hb).trans (hc k hkz).2
   obtain⟨fn,tmps,assign,body,hy,hR⟩:=hY (zs.take k) zs[k] (wr.alloc (.cells #[.int .i64 zs[k].1,.int .i64 zs[k].2] 236)) (hJ _ _ _ hJs (Below.alloc (Below.refl _ _) nR _)) (by rw[List.length_take]; omega)
   unfold rkV at hy
   have hx:=Below.alloc hnx (Nat.le_trans hn0 hnx.size) (.cells #[.int .i64 zs[k].1,.int .i64 zs[k].2] 236)
   gi_wp2
   refine hR.mono ?_
   rintro e W3 (⟨rfl,hJ3,hk3⟩|⟨rfl,hJx3⟩)
   ·gi_wp2
    go_roundw
    case rel=>exact⟨k+1,oM,by simp,by rw[List.take_succ_eq_append_getElem hkz]; exact hJ3,hx.trans hk3⟩
    case measure=>simp[intOf]; omega
   ·gi_wp2
    refine bodyPost_ret (results_none rfl _ _ _) rfl ?_
    rw[←List.take_succ_eq_append_getElem hkz]at hJx3
    exact⟨⟨_,rfl⟩,.inr ⟨_,List.take_prefix _ _,hJx3⟩⟩
  ·obtain rfl:k=len:=oM
   gi_wp2
   go_end0
   refine⟨⟨_,rfl⟩,.inl ⟨zs,rfl,?_⟩⟩
   rw[List.take_of_length_le oM]at hJs
   exact hJs
def RkS(n₀:Nat)(W:World)(sv:Value)(zs:List (Int×Int)):Prop:=
 (sv= .slice none 0 0∧zs= [])∨ ∃b off cap,sv= .slice (some ⟨b,off,none⟩) zs.length cap∧b<n₀∧ ∀j (h:j<zs.length),W.cell? ⟨b,off+j*2,none⟩=some (.int .i64 zs[j].1)∧W.cell? ⟨b,off+j*2+1,none⟩=some (.int .i64 zs[j].2)
theorem RkS.below{n₀:Nat}{A B:World}(h:Below n₀ A B){sv:Value}{zs:List (Int×Int)}:RkS n₀ A sv zs→RkS n₀ B sv zs
 | .inl e=>.inl e
 | .inr ⟨b,off,cap,e,hb,hc⟩=>.inr ⟨b,off,cap,e,hb,λj hj=>⟨(h.cell (p:=⟨b,off+j*2,none⟩) hb).trans (hc j hj).1,(h.cell (p:=⟨b,off+j*2+1,none⟩) hb).trans (hc j hj).2⟩⟩
set_option maxRecDepth 100000 in
theorem Zoj(F:Fence)(n:Nat)(hF:F.fn 351)(hro:F.round=none)(l Bs:Nat)(J:List (Int×Int)→World→Prop)(W:World)(hBs:W.cell? ⟨Bs,0,none⟩=some (.slice none 0 0))(h0:J [] W):
  CallsIn F n prog 351 #[.func (.yield l) #[] #[],.pointer (some ⟨Bs,0,none⟩)] W λe W'=>(∃v,e= .returned v)∧J [] W':=by
 refine callsIn_of_wp func351 rfl hF ?_ hro
 simp only[Tryz.ntmps351,List.size_toArray,List.length_cons,List.length_nil,Nat.reduceAdd,Nat.reduceSub,Array.replicate_succ,Array.replicate_zero,List.push_toArray,List.append_toArray,List.nil_append,List.cons_append]
 gi_wp2
 gi_loopw [7] (λi wr=>i= .int .i64 0∧J [] wr) (λ_ _=>0)
 case atStart=>exact⟨rfl,h0⟩
 case round=>
  obtain⟨rfl,hJs⟩:=hrel
  gi_wp2
  go_end0
  exact⟨⟨_,rfl⟩,hJs⟩
theorem Zo9(F:Fence)(n:Nat)(hF:F.fn 351)(hro:F.round=none)(hn:1≤n)(Bs n₀:Nat)(sv:Value)(zs:List (Int×Int))(hreach:zs.length*16≤140737488351232)(w:World)(hn0:n₀≤w.heap.size)(hBl:Bs<w.heap.size)
  (hBs:w.cell? ⟨Bs,0,none⟩=some sv) (hI:RkS n₀ w sv zs):
  SeqStopsK F n prog 351 #[.pointer (some ⟨Bs,0,none⟩)] (λx=>#[rkV x]) (Below n₀) (λys=>ys=zs) (λpre=>pre<+:zs) zs.length w:=λl J Jx W hW hJ _ hY h0=>by
 have hc':=(hW.cell (p:=⟨Bs,0,none⟩) hBl).trans hBs
 rcases hI.below (hW.mono hn0)with⟨rfl,rfl⟩|⟨b,off,cap,rfl,hb,hcs⟩
 ·exact(Zoj F n hF hro l Bs J W hc' h0).mono λe W' ⟨he,hj⟩=>⟨he,.inl ⟨_,rfl,hj⟩⟩
 ·exact Zuo F n hF hro hn l Bs n₀ b off zs.length cap zs rfl hreach hb J Jx (λpre W W' h hb=>hJ pre W W' none h ⟨hb.os,hb.tape,hb.output,hb.size,λk hk _=>hb.block k hk⟩ (λr e=>by cases e)) hY W (Nat.le_trans hn0 hW.size) hc' hcs h0
def Zfa(l:List (Int×Int)):List Value:=(l.map λx=>[Value.int .i64 x.1,.int .i64 x.2]).flatten
theorem Zky(l:List (Int×Int))(x:Int×Int):Zfa (l++ [x])=Zfa l++ [Value.int .i64 x.1,.int .i64 x.2]:=by simp[Zfa]
set_option maxRecDepth 100000 in
theorem Zo8(F:Fence)(n:Nat)(hF:F.fn 364)(hF2:F.fn 351)(hro:F.round=none)(hn:3≤n)(Bs:Nat)(sv:Value)(zs:List (Int×Int))(hz:zs.length≤1000000)(w:World)(hBl:Bs<w.heap.size)
  (hBs:w.cell? ⟨Bs,0,none⟩=some sv) (hI:RkS w.heap.size w sv zs):
  CallsIn F n prog 364 #[.slice none 0 0,.func (.func 351) #[] #[.pointer (some ⟨Bs,0,none⟩)]] w λe W'=>∃v,e= .returned v∧W'.ownsRow w.heap.size 236 2 v zs.length (Zfa zs)∧Below w.heap.size w W':=by
 have h1:1≤n:=oM
 obtain⟨i0,hi,hz0,hz1,hz2⟩:=info_parts (show(prog.info? 236).map (λi=>(i.zero,i.size,i.bytes))=some (some (.agg #[.int .i64 0,.int .i64 0]),2,16) by kernel_rfl)
 refine callsIn_of_wp_marks func364 rfl hF ?_ hro
 simp only[Tryz.ntmps364,List.size_toArray,List.length_cons,List.length_nil,Nat.reduceAdd,Nat.reduceSub,Array.replicate_succ,Array.replicate_zero,List.push_toArray,List.append_toArray,List.nil_append,List.cons_append]
 gi_wp2
 have bO:=Boxed.new w 233 (.slice none 0 0)
 have hB0:Below w.heap.size w (w.alloc (.cells #[.slice none 0 0] 233)):=(Below.refl _ w).alloc nR _
 refine wpIn_rangeFunc_ownH hro h1 (gf:=351) (lb:=#[.pointer (some ⟨Bs,0,none⟩)]) rfl hF2 (enters_of func351 kR rfl)
  (Zo9 F (n - 1) hF2 hro oM Bs w.heap.size sv zs oM _ sI (by simp; omega) ((hB0.cell (p:=⟨Bs,0,none⟩) hBl).trans hBs) (hI.below hB0)) belowK_t (belowK_b sI) (Below.refl _ _) (λ_=>rfl)
  (λpre W=>(∃v,Boxed W w.heap.size 233 v∧W.ownsRow w.heap.size 236 2 v pre.length (Zfa pre)∧True)∧Below w.heap.size w W)
  (λ_ _ _=>False)
  (OwnFrom.and (Own.from (holdsRow_own w.heap.size w.heap.size 233 236 2 (λpre=>pre.length) (λpre=>Zfa pre) (λ_ _=>True)) _) (ownFrom_below nR sI))
  (λ_ _ _ _ _ hs _ _=>hs)
  ⟨⟨_,bO,World.ownsRow_nil _ _ _ _,trivial⟩,hB0⟩
  (λx a' W=>∃Bx,W.heap[Bx]? =some (.cells #[.int .i64 x.1,.int .i64 x.2] 236 (0,0))∧a'={tmps:=#[.slice none 0 0,.func (.func 351) #[] #[.pointer (some ⟨Bs,0,none⟩)],.pointer (some ⟨w.heap.size,0,none⟩),undef,.slice none 0 0,.pointer (some ⟨Bx,0,none⟩),.func (.func 351) #[] #[.pointer (some ⟨Bs,0,none⟩)],rkV x,undef,undef,undef,undef,undef],defers:=[]})
  (λx a' _ X Y row hs hg hr=>by
   obtain⟨Bx,h2,h3⟩:=hs
   refine⟨Bx,(hg.block Bx (Array.getElem?_eq_some_iff.1 h2).1 (λe=>?_)).trans h2,h3⟩
   obtain⟨o,ho,hcl⟩:=(hr Bx e.symm).2
   rw[h2]at ho; cases ho; cases hcl)
  ?assign ?body ?done ?stop
 case assign=>
  rintro l pre x W K ⟨⟨v,bO1,hrow,_⟩,hB1⟩ hK
  unfold rkV at hK ⊢
  gi_wp2
  exact hK _ _ ((KeepsOthers.alloc _ _).from _) ((Below.refl _ W).alloc hB1.size _) ⟨⟨v,bO1.alloc _,hrow.alloc _,trivial⟩,hB1.alloc hB1.size _⟩ ⟨W.heap.size,World.alloc_heap_new W _,rfl⟩
 case body=>
  rintro l pre x a' W hl ⟨r,hr⟩ ⟨⟨v,bO1,hrow,_⟩,hB1⟩ ⟨Bx,hBx,rfl⟩ hlt
  have hcv:=bO1.cell
  have cx1:W.cell? ⟨Bx,0,none⟩=some (.int .i64 x.1):=by simp[World.cell?,hBx]
  have cx2:W.cell? ⟨Bx,1,none⟩=some (.int .i64 x.2):=by simp[World.cell?,hBx]
  gi_wp2_with (gi_at_builtin; refine wpListIn_append_own _ rfl _ _ 233 rfl w.heap.size 236 i0 (.agg #[.int .i64 0,.int .i64 0]) 2 16 underlying233 hi hz0 hz1 hz2 rfl dC _ _ _ rfl (hrow.alloc _) ⟨W.heap.size,0,none⟩ 1 1 [.int .i64 x.1,.int .i64 x.2] rfl rfl (λj u hj=>by rw[show(⟨W.heap.size,0,none⟩:Addr).add j=⟨W.heap.size,j,none⟩ by unfold Addr.add; split<;>simp_all]; rw[World.cell?_alloc_mark,List.getElem?_toArray]; exact hj) (by simp[Value.oneCell']) (by rw[Zmf]; omega) oM (by have:=hB1.size; simp; omega) ?_; intro v' w1 hown' hgrow _; obtain⟨g',cap',rfl⟩:=ownsRow_succ hown'; obtain⟨hv1,hv2,hr2,hk2,hb2⟩:=bO1.appended dC hrow hB1.size nR hown' hgrow; have hc1:=hv1.cell; have hf1:=hv1.frozen)
  exact⟨hk2.from _,hb2,⟨_,hv2,by rw[Zky]; simpa using hr2,trivial⟩,hB1.trans hb2⟩
 case done=>
  rintro D ys W hD rfl ⟨⟨v,hv,hrow,_⟩,hB⟩ hK
  have hcv:=hv.cell
  gi_wp2
  refine⟨by simp,.inl ⟨_,_,rfl,run_takeDeferred hK,?_⟩⟩
  exact⟨_,results_tmp rfl _ _ _,v,rfl,ownsRow_putObj hrow _ hK rfl,hB.trans (belowK_b (w:=w) nR W D _ _ (by simp at hD; omega) hK rfl rfl)⟩
 case stop=>
  rintro D c pre W _ _ h _
  exact h.elim
end Go.Proofs
namespace Go.Hal
open Go.Proofs.Tryz
end Go.Hal
/-
 DERIVED:THE SHELF's CONTRACTS AT THIS DUMP,IN PLAIN WORDS (tools/lay-plain.mjs out of 'YtdjiedhnoanbpaaGreatDoorLay3.lean',which tools/lay-shelf.mjs wrote):THE SAME DECLARATIONS UNDER THE SAME NAMES:'import','namespace','open','def','theorem' AND NOTHING ELSE:no command of the shelf's:FOR A HAND-IN. Each laying:the table of numbers ('.._ren') and one theorem,a field a fact of the dump's own or the kernel's comparison; each contract:ONE APPLICATION.
-/
namespace Go.Proofs
open Go.Proofs.Tryz
open Go.Shelf
def Tryz.laySr_ren:Go.Shelf.Ren:=⟨λ|6=>350|15=>114|14=>365|28=>193|29=>194|20=>376|21=>377|22=>378|23=>379|24=>380|25=>381|26=>382|27=>383|46=>390|47=>266|48=>267|49=>391|50=>392|57=>395|n=>n,λ|22=>233|24=>236|25=>381|3=>3|39=>205|0=>0|53=>281|55=>283|4=>4|46=>275|45=>274|50=>207|5=>5|9=>9|66=>329|70=>333|76=>369|77=>370|n=>n,λ|n=>n⟩
theorem Tryz.laySr:Go.Proofs.SlLaysF0.n6 prog Tryz.laySr_ren:={
 mixed:=kR
 f6:=⟨Tryz.f350.name,by decide,func350.trans kS⟩
 f14:=⟨Tryz.f365.name,by decide,func365.trans kS⟩
 f15:=func114.trans kS
 f20:=⟨Tryz.f376.name,by decide,func376.trans kS⟩
 f21:=⟨Tryz.f377.name,by decide,func377.trans kS⟩
 f22:=⟨Tryz.f378.name,by decide,func378.trans kS⟩
 f23:=⟨Tryz.f379.name,by decide,func379.trans kS⟩
 f24:=⟨Tryz.f380.name,by decide,func380.trans kS⟩
 f25:=⟨Tryz.f381.name,by decide,func381.trans kS⟩
 f26:=⟨Tryz.f382.name,by decide,func382.trans kS⟩
 f27:=⟨Tryz.f383.name,by decide,func383.trans kS⟩
 f28:=func193.trans kS
 f29:=func194.trans kS
 f46:=⟨Tryz.f390.name,by decide,func390.trans kS⟩
 f47:=func266.trans kS
 f48:=func267.trans kS
 f49:=⟨Tryz.f391.name,by decide,func391.trans kS⟩
 f50:=⟨Tryz.f392.name,by decide,func392.trans kS⟩
 f57:=⟨Tryz.f395.name,by decide,func395.trans kS⟩
 t0:=underlying0
 a0:=Tryz.isAgg0
 z0:=Tryz.sizeOf0
 v0:=Tryz.zeroValue0
 t3:=underlying3
 a3:=Tryz.isAgg3
 z3:=Tryz.sizeOf3
 v3:=Tryz.zeroValue3
 t4:=underlying4
 a4:=Tryz.isAgg4
 z4:=Tryz.sizeOf4
 v4:=Tryz.zeroValue4
 t5:=underlying5
 a5:=Tryz.isAgg5
 z5:=Tryz.sizeOf5
 v5:=Tryz.zeroValue5
 t9:=underlying9
 a9:=Tryz.isAgg9
 z9:=Tryz.sizeOf9
 v9:=Tryz.zeroValue9
 t22:=underlying233
 a22:=Tryz.isAgg233
 z22:=Tryz.sizeOf233
 v22:=Tryz.zeroValue233
 t25:=underlying381
 a25:=Tryz.isAgg381
 z25:=Tryz.sizeOf381
 v25:=Tryz.zeroValue381
 t39:=underlying205
 a39:=Tryz.isAgg205
 z39:=Tryz.sizeOf205
 v39:=Tryz.zeroValue205
 t45:=underlying274
 a45:=Tryz.isAgg274
 z45:=Tryz.sizeOf274
 v45:=Tryz.zeroValue274
 t46:=underlying275
 a46:=Tryz.isAgg275
 z46:=Tryz.sizeOf275
 v46:=Tryz.zeroValue275
 t50:=underlying207
 a50:=Tryz.isAgg207
 z50:=Tryz.sizeOf207
 v50:=Tryz.zeroValue207
 t53:=underlying281
 a53:=Tryz.isAgg281
 z53:=Tryz.sizeOf281
 v53:=Tryz.zeroValue281
 t55:=underlying283
 a55:=Tryz.isAgg283
 z55:=Tryz.sizeOf283
 v55:=Tryz.zeroValue283
 t66:=underlying329
 a66:=Tryz.isAgg329
 z66:=Tryz.sizeOf329
 v66:=Tryz.zeroValue329
 t70:=underlying333
 a70:=Tryz.isAgg333
 z70:=Tryz.sizeOf333
 v70:=Tryz.zeroValue333
 t76:=underlying369
 a76:=Tryz.isAgg369
 z76:=Tryz.sizeOf369
 v76:=Tryz.zeroValue369
 t77:=underlying370
 a77:=Tryz.isAgg370
 z77:=Tryz.sizeOf370
 v77:=Tryz.zeroValue370}
end Go.Proofs
namespace Go.Hal
open Go.Proofs.Tryz
open Go Go.RowKit Go.Proofs Go.Shelf
def rkC(x:Rk):List Value:=[.int .i64 x.1,.int .i64 x.2]
theorem Z0b(l:List Rk):Zfa l=(l.map rkC).flatten:=rfl
theorem rkFlat_len(l:List Rk):(Zfa l).length=l.length*2:=by rw[Z0b,Zh1 rkC (k:=2) λ_=>rfl]
theorem Zxf(l:List Rk): ∀{i:Nat} (hi:i<l.length) (v:Int),(Zfa l).set (i*2+1) (.int .i64 v)=Zfa (l.set i (l[i].1,v)):=by
 induction l with
 |nil=>intro i hi; simp at hi
 |cons x r ih=>
  intro i hi v
  cases i with
  |zero=>rfl
  |succ i=>
   have e:(i+1)*2+1=(i*2+1)+1+1:=oM
   have hi':i<r.length:=by simpa using hi
   have h:=ih hi' v
   show([Value.int .i64 x.1,.int .i64 x.2]++Zfa r).set _ _= [Value.int .i64 x.1,.int .i64 x.2]++Zfa (r.set i (r[i].1,v))
   rw[e,←h]; rfl
section
variable {T:TypeId} {w:World} {lo:Nat} {S:Nat→Prop} {s:Sl} {l:List Rk}
theorem OwnS.rkRow(h:OwnS rkE T w lo S s l):w.ownsRow lo T 2 s.v s.len (Zfa l):=by
 obtain⟨css,ho,hl,hr⟩:=h.row
 have e:css=l.map rkC:=by
  apply List.ext_getElem (by simp[hl])
  intro i h1 h2
  obtain⟨cs,k1,k2⟩:=hr i (l[i]'(by simpa using h2)) (List.getElem?_eq_getElem (by simpa using h2))
  rw[List.getElem?_eq_getElem h1,Option.some.injEq]at k1
  rw[k1,List.getElem_map]; exact k2.1
 rw[e]at ho; exact ho
theorem OwnS.rkMk{v:Value}(h:w.ownsRow lo T 2 v l.length (Zfa l)): ∃s:Sl,v=s.v∧OwnS rkE T w lo None' s l:=by
 have h1: ∃s:Sl,v=s.v∧s.len=l.length:=by
  rcases h.2 with⟨hv,hn⟩|⟨g,cap,cur,hv,_⟩
  ·exact⟨Sl.nil,hv,hn.symm⟩
  ·exact⟨⟨some ⟨g,0,none⟩,l.length,cap⟩,hv,rfl⟩
 obtain⟨s,rfl,hs⟩:=h1
 refine⟨s,rfl,⟨l.map rkC,by rw[hs]; exact h,by simp,λi x hx=>⟨rkC x,by rw[List.getElem?_map,hx]; rfl,rfl,trivial⟩⟩,hs,λ_ h=>h.elim,λ_ _ h=>h.elim⟩
theorem OwnS.setHi{i:Nat}{v:Int}{ad:Addr}{K:World→Prop}(h:OwnS rkE T w lo None' s l)(hi:i<l.length)(ha:s.a=some ad)(hK: ∀w',But ad.block w w'→OwnS rkE T w' lo None' s (l.set i (l[i].1,v))→K w'):stw w ((ad.add (i*2)).add 1) [.int .i64 v] K:=by
 have ho:=h.rkRow
 have hl:=h.len
 rcases ho.2 with⟨hv,_⟩|⟨g,cap,cur,hv,hg,hh,hc,hcm,hcs,ht⟩
 ·simp[Sl.v]at hv; rw[hv.1]at ha; cases ha
 ·have had:ad=⟨g,0,none⟩:=by simp[Sl.v]at hv; rw[hv.1]at ha; exact(Option.some.inj ha).symm
  subst had
  have hfit:i*2+1+1≤cur.size:=oM
  rw[Zfi,Zjh]
  refine⟨cur,T,hh,rfl,by simpa using hfit,hK _ ⟨by simp[World.setRow],rfl,rfl,rfl,λc hc hne=>setRow_other w g c _ hne⟩ ?_⟩
  have hsp:(Zit cur (i*2+1) [.int .i64 v]).toList=cur.toList.set (i*2+1) (.int .i64 v):=by
   unfold Zit
   rw[List.set_eq_take_append_cons_drop,if_pos (by rw[Array.length_toList (xs:=cur)]; omega)]
   simp
  have hrow:(w.setRow g (Zit cur (i*2+1) [.int .i64 v])).ownsRow lo T 2 s.v (l.set i (l[i].1,v)).length (Zfa (l.set i (l[i].1,v))):=by
   refine⟨rkFlat_len _,.inr ⟨g,cap,_,by rw[hv,List.length_set,hl],hg,setRow_heap w g cur _ T _ hh,by rw[List.length_set,←hl]; exact hc,hcm,?_,?_⟩⟩
   ·rw[←Array.length_toList,hsp,List.length_set,Array.length_toList (xs:=cur)]; exact hcs
   ·rw[hsp,List.take_set,List.length_set,←hl,ht,Zxf l hi]
  obtain⟨s',e,own⟩:=OwnS.rkMk hrow
  have:s'=s:=by
   obtain⟨a,n,c⟩:=s
   obtain⟨a',n',c'⟩:=s'
   simpa[Sl.v,eq_comm]using e
  subst this
  exact own
end
theorem spans_se{s:Sl}{l:List Rk}{S:Nat→Prop}{w:World}{R:Sl→World→Prop}(hs:SlR rkE w S s l)(hl:l.length≤64)(hR: ∀t w',Ext w w'→SlR spanE w' (λb=>w.heap.size≤b∧b<w'.heap.size) t (Ze2 l)→R t w'):SE.Zhb s w R:=by
 unfold SE.Zhb
 have hsl:=hs.len
 have eb:spanE.bytes=48:=rfl
 refine loop2.up hs.max (λout i w'=>Ext w w'∧OwnS spanE 193 w' w.heap.size None' out (Ze2 (l.take i))) ⟨Ext.refl _,OwnS.zero _⟩ λout i w1 nxt hi ⟨x1,own⟩ hn=>⟨λhlt=>?_,λhge=>?_⟩
 ·have hlt':i<l.length:=oM
  obtain⟨ad,hsa,_,hc⟩:=rkEl hs hlt'
  refine⟨ad,⟨hsa,oM,hlt⟩,_,_,hc _ x1,newS.intro λa w2 x2 hb2 ha2 _=>stw0.intro hb2 sI λw3 b3 _ hb3=>?_⟩
  have x13:Ext w1 w3:=b3.ext x2 oM
  refine⟨_,hb3.at0 xR rfl,SE.Zj7.go (versAt_se λw4 x4=>⟨_,_,_,_,rfl,newS.intro λa5 w5 x5 hb5 ha5 _=>stw0.intro hb5 sI λw6 b6 _ hb6=>?_⟩)⟩
  have x46:Ext w4 w6:=b6.ext x5 oM
  have x36:=x4.trans x46
  refine⟨_,BoxAt.at1 hb3 (k:=1) x36 rfl,SE.Zj7.go (versAt_se λw7 x7=>⟨_,_,_,_,rfl,newS.intro λa8 w8 x8 hb8 ha8 _=>stw0.intro hb8 sI λw9 b9 _ hb9=>?_⟩)⟩
  have x79:Ext w7 w9:=b9.ext x8 oM
  have x69:=x7.trans x79
  refine⟨_,_,_,hb6.at0 (r:=[]) x69 rfl,_,_,_,hb9.at0 (r:=[]) xR rfl,newS.intro λa10 w10 x10 hb10 _ _=> ?_⟩
  have x110:=x13.trans (x36.trans (x69.trans x10))
  have hlen:(Ze2 (l.take i)).length=i:=by unfold Ze2; rw[List.length_map,List.length_take]; omega
  refine(own.ext x110).push Z3n (x1.trans x110).size (x:=⟨Zk2 l[i].1,Zk2 l[i].2⟩) (S':=None') (cs:=(Zk2 l[i].1).c++(Zk2 l[i].2).c) ⟨rfl,trivial⟩ (hb10.ldc.pre (r:=[]) rfl) (λ_ h=>h.elim) (λ_ _ h=>h.elim) (by rw[hlen,eb]; unfold room; omega) (by rw[hlen,Zb]; omega) λr w11 own11 bel _ _=>hn hlt' _ _ ⟨(x1.trans x110).trans' bel,?_⟩
  have e:Ze2 (l.take (i+1))=Ze2 (l.take i)++ [⟨Zk2 l[i].1,Zk2 l[i].2⟩]:=by
   unfold Ze2
   rw[List.take_succ_eq_append_getElem hlt',List.map_append]; rfl
  rw[e]
  exact own11.mono (λ_ h=>h.elim id id) (λ_ h=>h.elim) (λ_ _ h=>h.elim)
 ·have:i=l.length:=oM
  rw[this,List.take_length]at own
  have hlen:(Ze2 l).length=l.length:=by unfold Ze2; rw[List.length_map]
  refine hR _ _ x1 ((own.read (by rw[hlen,eb]; unfold room; omega) (by rw[hlen,Zb]; omega)).mono λb hb=>?_)
  rcases hb with hb|⟨ad,ha,rfl⟩
  ·exact hb.elim
  ·have:=own.block ha; exact⟨this.1,this.2.1⟩
theorem Z11(a b:Int):Z40 a b=max a b:=by unfold Z40; split<;>omega
theorem Zxe{l:List Rk}{j:Nat}(h:j<l.length):(Zfa l)[j*2]? =some (.int .i64 l[j].1)∧(Zfa l)[j*2+1]? =some (.int .i64 l[j].2):=by
 have hall: ∀cs∈l.map rkC,cs.length=2:=λcs hc=>by obtain⟨x,_,rfl⟩:=List.mem_map.1 hc; rfl
 have hi:(l.map rkC)[j]? =some (rkC l[j]):=by rw[List.getElem?_map,List.getElem?_eq_getElem h]; rfl
 exact⟨Zi3 hall hi (j:=0) rfl,Zi3 hall hi (j:=1) rfl⟩
theorem OwnS.lower{α:Type}{E:Enc α}{T:TypeId}{w:World}{lo lo':Nat}{S:Nat→Prop}{s:Sl}{l:List α}(h:OwnS E T w lo S s l)(hl:lo'≤lo):OwnS E T w lo' S s l:=by
 obtain⟨css,ho,k1,k2⟩:=h.row
 refine⟨⟨css,⟨ho.1,ho.2.imp id λ⟨g,cap,cur,hv,hg,r⟩=>⟨g,cap,cur,hv,Nat.le_trans hl hg,r⟩⟩,k1,k2⟩,h.len,h.lt,h.apart⟩
theorem collect_se{s:Sl}{l:List Rk}{T:TypeId}{lo:Nat}{S:Nat→Prop}{a:Addr}{w:World}{R:Sl→World→Prop}(h:OwnS rkE T w lo S s l)(ha:BoxAt w a [s.v])(hl:l.length≤1000000)
  (hR: ∀t w',Ext w w'→OwnS rkE 236 w' w.heap.size None' t l→R t w'):SE.Zbw (.func (.func 351) #[] #[.pointer (some a)]) w R:=by
 unfold SE.Zbw
 have hI:RkS w.heap.size w s.v l:=by
  have ho:=h.rkRow
  rcases ho.2 with⟨hv,hn⟩|⟨g,cap,cur,hv,hg,hh,hc,hcm,hcs,ht⟩
  ·exact .inl ⟨hv,List.eq_nil_of_length_eq_zero (by rw[←h.len]; exact hn)⟩
  ·refine .inr ⟨g,0,cap,by rw[hv,h.len],lt_of_block hh,λj hj=>?_⟩
   have hcell:=ho.cells (g:=g) (by rw[hv]; rfl)
   obtain⟨k1,k2⟩:=Zxe hj
   have c1:=hcell _ _ k1
   have c2:=hcell _ _ k2
   rw[Zjh]at c1 c2
   rw[Nat.zero_add]
   exact⟨c1,c2⟩
 have hbox:w.cell? ⟨a.block,0,none⟩=some s.v:=by
  obtain⟨t,_,_,hb⟩:=ha
  simp[World.cell?,hb]
 have hae:a=⟨a.block,0,none⟩:=by
  obtain⟨t,h1,h2,_⟩:=ha
  obtain⟨b,o,sp⟩:=a
  simp only at h1 h2
  subst h1 h2; rfl
 have hcall:=callsIn_wide.1 (Zo8 Fence.wide 3 trivial trivial rfl nR a.block s.v l hl w ha.lt hbox hI)
 rw[←hae]at hcall
 refine Calls.mono hcall λe w' ⟨v,he,hrow,hb⟩=>⟨v,he,?_⟩
 obtain⟨t,rfl,own⟩:=OwnS.rkMk hrow
 exact⟨t,rfl,hR t w' hb own⟩
abbrev Rk0:Type:={x:Rk//0≤x.1∧x.1≤999999999}
instance:Inhabited Rk0:=⟨⟨(0,0),by decide⟩⟩
theorem Zo3:Zfv prog 322:=enters_of func322 kR rfl
theorem Z65: ∀w,(isAgg 236).run prog w= .ok true w:=λw=>by kernel_rfl
theorem Z5p: ∀w,(Go.sizeOf 236).run prog w= .ok 2 w:=λw=>by kernel_rfl
theorem Zwx{a b:Rk0}{w:World}{R:Int→World→Prop}(hR: ∀w',Gr w w'→R (a.1.1 - b.1.1) w'):SE.Zfo a.1.1 a.1.2 b.1.1 b.1.2 w R:=by
 unfold SE.Zfo
 have ha:=a.2; have hb:=b.2
 refine newS.gr λ_ w1 x1 hb1=>newS.gr λ_ w2 x2 hb2=>⟨_,Gr.at0 hb1 x2 rfl,_,Gr.at0 hb2 (Gr.refl _) rfl,?_⟩
 rw[Zc oM oM]
 exact hR _ (x1.trans x2)
theorem Zzg: ∀{l:List Rk},rkIn l→ ∃la:List Rk0,la.map Subtype.val=l
 | [],_=>⟨[],rfl⟩
 |x::r,h=>by
  obtain⟨la,e⟩:=Zzg (l:=r) λy hy=>h y (.tail _ hy)
  have hx:=h x (.head _)
  exact⟨⟨x,hx.1,hx.2.1⟩::la,by rw[List.map_cons,e]⟩
def rkF(x:Rk0):List Value:=rkC x.1
theorem Z0a{la:List Rk0}:la.map rkF=(la.map Subtype.val).map rkC:=by rw[List.map_map]; rfl
theorem Z23{w:World}{lo:Nat}{s:Sl}{l:List Rk}{K:Value→World→Prop}(h:OwnS rkE 236 w lo None' s l)(hlo:lo≤w.heap.size)(hin:rkIn l)(hl:l.length≤1000000)
  (hK: ∀l' w',l'.Perm l→Zoi l'→Below lo w w'→SlR rkE w' (λb=>lo≤b∧b<w'.heap.size) s l'→K (.tuple #[]) w'):
  callS prog 350 [Sl.v s,.func (.func 322) #[] #[]] w K:=by
 have eb:rkE.bytes=16:=rfl
 have hF:FlatO rkC 16 w lo s l:=FlatO.of (E:=rkE) (λx cs h=>h.1) h (by unfold room; omega)
 obtain⟨h1,h2,h3,h4,h5⟩:=hF
 obtain⟨a,n,c⟩:=s
 simp only at h1 h2 h3 h5
 subst h1
 rcases h5 with rfl|⟨g,tail,ha,hg,hr⟩
 ·refine(AnyF.slices_SortFunc_none Tryz.laySr a c _ w).mono λe w' ⟨he,hw⟩=>⟨_,he,?_⟩
  subst hw
  exact hK [] _ (List.Perm.refl _) .nil (Below.refl _ _) ⟨rfl,h2,h3,by simp,.inl rfl⟩
 ·subst ha
  obtain⟨la,rfl⟩:=Zzg hin
  have hr0:RowB rkF w g la tail:=by
   unfold RowB at hr ⊢
   rw[Z0a]; exact hr
  rw[List.length_map]at*
  refine Zf7 Tryz.laySr (k:=2) Z65 Z5p (f:=rkF) (λ_=>rfl) (λx v hv=>by simp[rkF,rkC]at hv; rcases hv with rfl|rfl<;>rfl) (λa b=>a.1.1 - b.1.1) (Zjb (λx y=>by omega) (λx y z=>by omega)) 322 #[] Zo3 (λw0 x y hb _=> ?_) hr0 oM rfl λl' w' hp hs b hr'=>?_
  ·have h:=SE.Zfo.go (k:=λv w'=>v= .int .i64 (x.1.1 - y.1.1)∧Gr w0 w') (Zwx (a:=x) (b:=y) (w:=w0) λw' h=>⟨rfl,h⟩)
   exact Calls.mono h λe w' ⟨v,he,hv,hg⟩=>⟨by rw[he,hv],hg⟩
  ·have hr2:RowB rkC w' g (l'.map Subtype.val) tail:=by
    unfold RowB at hr' ⊢
    rw[←Z0a]; exact hr'
   have hpl:=hp.length_eq
   have hF2:FlatO rkC rkE.bytes w' lo ⟨some ⟨g,0,none⟩,la.length,c⟩ (l'.map Subtype.val):=⟨by simp[hpl],by simp[hpl]; exact h2,h3,by rw[List.length_map,hpl]; exact h4,.inr ⟨g,tail,rfl,hg,hr2⟩⟩
   refine hK (l'.map Subtype.val) w' (hp.map _) ?_ (b.below hlo hg) (hF2.read (λ_=>rfl) λw S x _=>⟨rfl,trivial⟩)
   unfold Zoi
   rw[List.pairwise_map]
   exact hs.imp λ{x y} h=>by omega
theorem Z0k{s:Sl}{l:List Rk}{T:TypeId}{lo:Nat}{S:Nat→Prop}{a:Addr}{w:World}{R:Sl→World→Prop}(h:OwnS rkE T w lo S s l)(ha:BoxAt w a [s.v])(hin:rkIn l)(hl:l.length≤1000000)
  (hR: ∀t w' m,Ext w w'→m.Perm l→Zoi m→SlR rkE w' (λb=>w.heap.size≤b∧b<w'.heap.size) t m→R t w'):SE.Za9 (.func (.func 351) #[] #[.pointer (some a)]) (.func (.func 322) #[] #[]) w R:=by
 unfold SE.Za9
 refine SE.Zbw.go (collect_se h ha hl λt w1 x1 own=>⟨_,rfl,Z23 own x1.size hin hl λm w2 hp hs bel hr=>⟨rfl,hR t w2 m (x1.trans' bel) hp hs hr⟩⟩)
def Zwd(m:List Rk)(n:Nat)(done:List Rk):Prop:=(n=0∧done= [])∨ ∃d y,done=d++ [y]∧Zi4 m=d++Zkm y (m.drop n)
theorem Zt8{m:List Rk}{n:Nat}(hn:n<m.length)(h0:n=0):Zwd m (n+1) [m[n]]:=by
 subst h0
 refine .inr ⟨[],m[0],rfl,?_⟩
 cases m with
 |nil=>simp at hn
 |cons y r=>rfl
theorem Zwu{m:List Rk}{n:Nat}{d:List Rk}{y:Rk}(hn:n<m.length)(h:Zi4 m=d++Zkm y (m.drop n)):
  (m[n].1≤y.2+1→Zwd m (n+1) (d++ [(y.1,max y.2 m[n].2)]))∧(¬m[n].1≤y.2+1→Zwd m (n+1) (d++ [y]++ [m[n]])):=by
 rw[List.drop_eq_getElem_cons hn,Zkm]at h
 refine⟨λhl=>.inr ⟨d,_,rfl,?_⟩,λhl=>.inr ⟨d++ [y],m[n],rfl,?_⟩⟩
 ·rw[if_pos hl]at h; exact h
 ·rw[if_neg hl]at h; rw[h,List.append_assoc]; rfl
theorem joined_se{s:Sl}{l:List Rk}{T:TypeId}{lo:Nat}{S:Nat→Prop}{w:World}{R:Sl→World→Prop}(h:OwnS rkE T w lo S s l)(hin:rkIn l)(hl:l.length≤1000000)
  (hR: ∀t w' m,Ext w w'→m.Perm l→Zoi m→OwnS rkE 236 w' w.heap.size None' t (Zi4 m)→R t w'):SE.Zf9 s w R:=by
 unfold SE.Zf9
 have eb:rkE.bytes=16:=rfl
 refine SE.Za5.go ?_
 unfold SE.Za5
 refine newS.intro λa w1 x1 ha _ _=>⟨_,rfl,SE.Za9.go (Z0k (h.ext x1) ha hin hl λt w2 m x2 hp hs hm=>⟨_,rfl,?_⟩)⟩
 have x02:=x1.trans x2
 have hml:=hm.len
 have hmx:m.length≤1000000:=by rw[hp.length_eq]; exact hl
 have hmi:rkIn m:=λx hx=>hin x (hp.mem_iff.1 hx)
 refine loop2.up hm.max (λout i w'=>Ext w2 w'∧ ∃done,OwnS rkE 236 w' w2.heap.size None' out done∧Zwd m i done∧done.length≤i∧rkIn done) ⟨Ext.refl _,[],OwnS.zero _,.inl ⟨rfl,rfl⟩,Nat.le_refl _,λx hx=>by cases hx⟩ λout i w3 nxt hi ⟨x3,done,own,hJ,hdl,hdi⟩ hn=>⟨λhlt=>?_,λhge=>?_⟩
 ·have hlt':i<m.length:=oM
  obtain⟨ad,hma,_,hc⟩:=rkEl hm hlt'
  have hxi:=hmi _ (List.getElem_mem hlt')
  refine join.named λJ hJ2=>⟨ad,⟨hma,oM,hlt⟩,m[i].1,m[i].2,hc _ x3,newS.intro λa4 w4 x4 hb4 ha4 _=>stw0.intro hb4 sI λw5 b5 _ hb5=>bnd.drew λw6 x6=>?_⟩
  have x35:Ext w3 w5:=b5.ext x4 oM
  have x36:=x35.trans x6
  have x26:=x3.trans x36
  have own6:=own.ext x36
  have hol:=own.len
  have step: ∀out7 w7 done7,Ext w2 w7→OwnS rkE 236 w7 w2.heap.size None' out7 done7→Zwd m (i+1) done7→done7.length≤i+1→rkIn done7→J out7 w7:=by
   subst hJ2
   intro out7 w7 done7 x7 own7 hJ7 hl7 hi7
   exact hn hlt' _ _ ⟨x7,done7,own7,hJ7,hl7,hi7⟩
  have push:Zwd m (i+1) (done++ [m[i]])→ ∃(t45_lo:Int) (t45_hi:Int),(ldc w6 a4 [(Value.int .i64 t45_lo),(Value.int .i64 t45_hi)])∧newS w6 [(Value.int .i64 t45_lo),(Value.int .i64 t45_hi)] 236 λa23 vw24=>appS prog 233 233 out (Sl.v (Sl.mk (some a23) 1 1)) vw24 λt47 vw25=>J t47 vw25:=λhJ'=>by
   refine⟨m[i].1,m[i].2,hb5.at0 (r:=[]) x6 rfl,newS.intro λa7 w7 x7 hb7 _ _=> ?_⟩
   refine(own6.ext x7).push apRk (x26.trans x7).size (x:=m[i]) (S':=None') (cs:=[.int .i64 m[i].1,.int .i64 m[i].2]) ⟨rfl,trivial⟩ (hb7.ldc.pre (r:=[]) rfl) (λ_ h=>h.elim) (λ_ _ h=>h.elim) (by rw[eb]; unfold room; omega) (by rw[Zb]; omega) λr w8 own8 bel _ _=>step _ _ _ ((x26.trans x7).trans' bel) (own8.mono (λ_ h=>h.elim id id) (λ_ h=>h.elim) (λ_ _ h=>h.elim)) hJ' (by simp; omega) λx hx=>?_
   rcases List.mem_append.1 hx with hx|hx
   ·exact hdi x hx
   ·rw[List.mem_singleton]at hx; subst hx; exact hxi
  rcases hJ with⟨h0,rfl⟩|⟨d,y,rfl,hd⟩
  ·have e0:Za ((out.len:Int) - 1)= -1:=by rw[hol]; decide
   rw[e0]
   have eb0:decide ((0:Int)≤ -1)=false:=by decide
   rw[eb0]
   refine bound ⟨m[i].1,nO,⟨0,0,none⟩,nO,0,nO,λh=>by simp at h,λ_=>push ?_⟩
   exact Zt8 hlt' h0
  ·have hlen:(d++ [y]).length=d.length+1:=by simp
   have e0:Za ((out.len:Int) - 1)=(d.length:Int):=by rw[hol,hlen,Zc oM oM]; omega
   rw[e0]
   have eb0:decide ((0:Int)≤(d.length:Int))=true:=by rw[decide_eq_true_eq]; omega
   rw[eb0]
   have hrd:=own6.read (by rw[hlen,eb]; unfold room; omega) (by rw[hlen,Zb]; omega)
   have hdn:d.length<(d++ [y]).length:=oM
   obtain⟨ad2,hoa,_,hc2⟩:=rkEl hrd hdn
   have hy:(d++ [y])[d.length]=y:=by simp
   have hyi:=hdi y sI
   rw[hy]at hc2
   have c2:=hc2 _ xR
   have hw1:Za (y.2+1)=y.2+1:=Zc oM oM
   have hol':(d.length:Int)<(out.len:Int):=by rw[hol,hlen]; omega
   obtain⟨j1,j2⟩:=Zwu hlt' hd
   refine bound ⟨m[i].1,λ_=>hb5.at0 x6 rfl,ad2,λ_=>⟨hoa,oM,hol'⟩,y.2,λ_=>c2.mid (k:=1) rfl,λhle=>?_,λhle=>push ?_⟩
   ·rw[hw1,Bool.true_and,decide_eq_true_eq]at hle
    refine bnd.drew λw7 x7=>⟨ad2,⟨hoa,oM,hol'⟩,y.2,(hc2 _ x7).mid (k:=1) rfl,m[i].2,BoxAt.at1 hb5 (k:=1) (x6.trans x7) rfl,ad2,⟨hoa,oM,hol'⟩,?_⟩
    rw[Z11]
    have x27:=x26.trans x7
    refine(own6.ext x7).setHi (i:=d.length) hdn hoa λw8 b8 own8=>step _ _ _ ?_ own8 ?_ ?_ ?_
    ·have:=(own.block hoa).1
     exact b8.ext x27 this
    ·have e:(d++ [y]).set d.length ((d++ [y])[d.length].1,max y.2 m[i].2)=d++ [(y.1,max y.2 m[i].2)]:=by
      rw[hy,List.set_append_right _ _ nR]; simp
     rw[e]; exact j1 hle
    ·rw[List.length_set]; omega
    ·intro x hx
     rcases List.mem_or_eq_of_mem_set hx with hx|rfl
     ·exact hdi x hx
     ·rw[hy]; simp only; omega
   ·refine j2 λh=>?_
    rw[hw1,Bool.true_and,decide_eq_false_iff_not]at hle
    exact hle h
 ·have:i=m.length:=oM
  subst this
  have hd:done=Zi4 m:=by
   rcases hJ with⟨h0,rfl⟩|⟨d,y,rfl,hd⟩
   ·rw[List.eq_nil_of_length_eq_zero h0]; rfl
   ·rw[hd,List.drop_length]; rfl
  subst hd
  refine hR _ _ m (x02.trans x3) hp hs (OwnS.lower own x02.size)
attribute [local go_sem] Oper.semAt_some
def sqV(a:Nat):Value:=.func (.func 345) #[] #[.pointer (some ⟨a+1,0,none⟩),.pointer (some ⟨a,0,none⟩),.pointer (some ⟨a+2,0,none⟩)]
def sqW(w:World)(s sep:ByteArray):World:=((w.alloc (.cells #[.string s] 9)).alloc (.cells #[.string sep] 9)).alloc (.cells #[.int .i64 0] 3)
theorem Zj3(n:Nat)(hn:1≤n)(s sep:ByteArray)(w:World):CallsIn Fence.wide n prog 317 #[.string s,.string sep,.int .i64 0] w λe w'=>e= .returned (sqV w.heap.size)∧w'=sqW w s sep:=by
 refine callsIn_of_wp func317 rfl trivial ?_ rfl
 simp only[Tryz.ntmps317,List.size_toArray,List.length_cons,List.length_nil,Nat.reduceAdd,Nat.reduceSub,Array.replicate_succ,Array.replicate_zero,List.push_toArray,List.append_toArray,List.nil_append,List.cons_append]
 gi_wp2
 go_ret
 exact⟨rfl,rfl⟩
theorem Zgm(n:Nat)(hn:2≤n)(s sep:ByteArray)(w:World):CallsIn Fence.wide n prog 278 #[.string s,.string sep] w λe w'=>e= .returned (sqV w.heap.size)∧w'=sqW w s sep:=by
 have h1:1≤n - 1:=oM
 refine callsIn_of_wp func278 rfl trivial ?_ rfl
 simp only[Tryz.ntmps278,List.size_toArray,List.length_cons,List.length_nil,Nat.reduceAdd,Nat.reduceSub,Array.replicate_succ,Array.replicate_zero,List.push_toArray,List.append_toArray,List.nil_append,List.cons_append]
 gi_wp2
 refine⟨trivial,λh=>(by cases h),(Zj3 (n - 1) h1 s sep w).mono ?_⟩
 rintro e w' ⟨rfl,rfl⟩
 gi_wp2
 go_ret
 exact⟨rfl,rfl⟩
structure InW(ps:List ByteArray)(k:Nat)(x:Rk)(b:Bool):Prop where
 ok: ∀t∈ps.take k,t.size≠0→ ∃a,WordR t.data.toList a
 some:b=true↔ ∃t∈ps.take k,t.size≠0
 lo:0≤x.1∧x.1≤1000000000
 hi: -1≤x.2∧x.2≤999999999
 has: ∀n:Int,(x.1≤n∧n≤x.2)↔(0≤n∧n≤999999999∧ ∀t∈ps.take k,t.size≠0→ ∀a,WordR t.data.toList a→a.1≤n∧n≤a.2)
theorem InW.start(ps:List ByteArray):InW ps 0 (0,999999999) false:=⟨by simp,by simp,by simp,by simp,λn=>by simp⟩
theorem Zb9{α:Type}{ps:List α}{k:Nat}(h:k<ps.length){t:α}:t∈ps.take (k+1)↔t∈ps.take k∨t=ps[k]:=by
 rw[List.take_succ_eq_append_getElem h,List.mem_append,List.mem_singleton]
theorem InW.skip{ps:List ByteArray}{k:Nat}{x:Rk}{b:Bool}(h:InW ps k x b)(hk:k<ps.length)(h0:ps[k].size=0):InW ps (k+1) x b:=by
 have e: ∀t,(t∈ps.take (k+1)∧t.size≠0)↔(t∈ps.take k∧t.size≠0):=λt=>by
  rw[Zb9 hk]
  constructor
  ·rintro⟨h1|rfl,h2⟩
   ·exact⟨h1,h2⟩
   ·exact absurd h0 h2
  ·exact λ⟨h1,h2⟩=>⟨.inl h1,h2⟩
 refine⟨λt ht hn=>h.ok t ((e t).1 ⟨ht,hn⟩).1 hn,?_,h.lo,h.hi,λn=>?_⟩
 ·rw[h.some]; exact⟨λ⟨t,ht⟩=>⟨t,(e t).2 ht⟩,λ⟨t,ht⟩=>⟨t,(e t).1 ht⟩⟩
 ·rw[h.has]
  exact and_congr_right λ_=>and_congr_right λ_=>⟨λg t ht hn=>g t ((e t).1 ⟨ht,hn⟩).1 hn,λg t ht hn=>g t ((e t).2 ⟨ht,hn⟩).1 hn⟩
theorem InW.word{ps:List ByteArray}{k:Nat}{x a:Rk}{b:Bool}(h:InW ps k x b)(hk:k<ps.length)(h0:ps[k].size≠0)(hw:WordR ps[k].data.toList a):InW ps (k+1) (max x.1 a.1,min x.2 a.2) true:=by
 obtain⟨h1,h2⟩:=hw.in
 have hl:=h.lo
 have hh:=h.hi
 refine⟨λt ht hn=>?_,?_,?_,?_,λn=>?_⟩
 ·rcases(Zb9 hk).1 ht with h3|rfl
  ·exact h.ok t h3 hn
  ·exact⟨a,hw⟩
 ·simp only[true_iff]; exact⟨_,(Zb9 hk).2 (.inr rfl),h0⟩
 ·simp only; omega
 ·simp only; omega
 ·simp only
  have e:=h.has n
  have e1:(max x.1 a.1≤n∧n≤min x.2 a.2)↔(x.1≤n∧n≤x.2)∧(a.1≤n∧n≤a.2):=oM
  rw[e1,e]
  constructor
  ·rintro⟨⟨g1,g2,g3⟩,g4⟩
   refine⟨g1,g2,λt ht hn c hc=>?_⟩
   rcases(Zb9 hk).1 ht with h3|rfl
   ·exact g3 t h3 hn c hc
   ·rw[←hw.one hc]; exact g4
  ·rintro⟨g1,g2,g3⟩
   exact⟨⟨g1,g2,λt ht hn c hc=>g3 t ((Zb9 hk).2 (.inl ht)) hn c hc⟩,g3 _ ((Zb9 hk).2 (.inr rfl)) h0 a hw⟩
def Zk3(a:ByteArray):Prop:=(∃t∈Zar spB a,t.size≠0)∧ ∀t∈Zar spB a,t.size≠0→ ∃x,WordR t.data.toList x
def Zkp(a:ByteArray)(n:Int):Prop:=0≤n∧n≤999999999∧ ∀t∈Zar spB a,t.size≠0→ ∀x,WordR t.data.toList x→x.1≤n∧n≤x.2
structure InA(ps:List ByteArray)(k:Nat)(l:List Rk):Prop where
 ok: ∀a∈ps.take k,Zk3 a
 len:l.length≤k
 inn:rkIn l
 le: ∀x∈l,x.1≤x.2
 has: ∀n,hasR n l=true↔ ∃a∈ps.take k,Zkp a n
theorem InA.start(ps:List ByteArray):InA ps 0 []:=⟨by simp,Nat.le_refl _,λx hx=>(by cases hx),λx hx=>(by cases hx),λn=>by simp[hasR]⟩
theorem Zn4{n:Int}{l:List Rk}{x:Rk}:hasR n (l++ [x])=true↔hasR n l=true∨(x.1≤n∧n≤x.2):=by
 simp[hasR,List.any_append]
theorem InA.step{ps:List ByteArray}{k:Nat}{l:List Rk}{x:Rk}(h:InA ps k l)(hk:k<ps.length)(hw:InW (Zar spB ps[k]) (Zar spB ps[k]).length x true):
  (x.1≤x.2→InA ps (k+1) (l++ [x]))∧(¬x.1≤x.2→InA ps (k+1) l):=by
 have ht:(Zar spB ps[k]).take (Zar spB ps[k]).length=Zar spB ps[k]:=List.take_length
 have hok:Zk3 ps[k]:=by
  have h1:=hw.ok; have h2:=hw.some
  rw[ht]at h1 h2
  exact⟨h2.1 rfl,h1⟩
 have hhas: ∀n,(x.1≤n∧n≤x.2)↔Zkp ps[k] n:=λn=>by
  have:=hw.has n
  rw[ht]at this
  exact this
 have hall: ∀a∈ps.take (k+1),Zk3 a:=λa ha=>by
  rcases(Zb9 hk).1 ha with h1|rfl
  ·exact h.ok a h1
  ·exact hok
 have hl:=hw.lo
 have hh:=hw.hi
 have hst: ∀n,(∃a∈ps.take (k+1),Zkp a n)↔(hasR n l=true∨(x.1≤n∧n≤x.2)):=λn=>by
  rw[h.has,hhas]
  constructor
  ·rintro⟨a,ha,hn⟩
   rcases(Zb9 hk).1 ha with h1|rfl
   ·exact .inl ⟨a,h1,hn⟩
   ·exact .inr hn
  ·rintro(⟨a,ha,hn⟩|hn)
   ·exact⟨a,(Zb9 hk).2 (.inl ha),hn⟩
   ·exact⟨_,(Zb9 hk).2 (.inr rfl),hn⟩
 refine⟨λhx=>⟨hall,by have:=h.len; simp; omega,λy hy=>?_,λy hy=>?_,λn=>?_⟩,λhx=>⟨hall,by have:=h.len; omega,h.inn,h.le,λn=>?_⟩⟩
 ·rcases List.mem_append.1 hy with h1|h1
  ·exact h.inn y h1
  ·rw[List.mem_singleton]at h1; subst h1; omega
 ·rcases List.mem_append.1 hy with h1|h1
  ·exact h.le y h1
  ·rw[List.mem_singleton]at h1; subst h1; exact hx
 ·rw[Zn4,hst]
 ·rw[hst]; constructor
  ·exact .inl
  ·rintro(h1|h1)
   ·exact h1
   ·omega
def Zk5(text:ByteArray):Prop:=text.size≤4096∧ ∀a∈Zar barB text,Zk3 a
theorem Zht(sep:ByteArray): ∀(k:Nat) (s:ByteArray),∀t∈Lib.splitB sep 0 k s,t.size≤s.size
 |0,s,t,h=>by rw[Lib.splitB_zero,List.mem_singleton]at h; rw[h]; exact Nat.le_refl _
 |k+1,s,t,h=>by
  rcases Lib.indexB_cases s sep with hix|⟨i,hix,hroom⟩
  ·rw[Lib.splitB_miss _ _ _ _ hix,List.mem_singleton]at h; rw[h]; exact Nat.le_refl _
  ·rw[Lib.splitB_hit _ _ _ _ i hix]at h
   rcases List.mem_cons.1 h with rfl|h
   ·rw[ByteArray.size_extract]; omega
   ·have:=Zht sep k _ t h
    rw[ByteArray.size_extract]at this; omega
theorem Zik{sep s t:ByteArray}(h:t∈Zar sep s):t.size≤s.size:=Zht sep _ s t h
theorem Zjm(sep:ByteArray)(h1:1≤sep.size)(s:ByteArray):(Zar sep s).length≤s.size+1:=Lib.splitB_length_le sep 0 s.size s
def WordC(w:World):Prop:=∀(t:ByteArray) (W:World),AnyW t→t.size≤4096→Ext w W→Calls prog 279 #[.string t] W λe w'=>Ext W w'∧
 ((∃x:Rk,WordR t.data.toList x∧e= .returned (.tuple #[.agg #[.int .i64 x.1,.int .i64 x.2],.bool true]))∨((∀x,¬WordR t.data.toList x)∧e= .returned (.tuple #[.agg #[.int .i64 0,.int .i64 0],.bool false])))
def Zc9:Value:=.slice none 0 0
def IA(w:World)(text:ByteArray)(k:Nat)(W:World):Prop:=
 ∃(l:List Rk) (v:Value),InA (Zar barB text) k l∧Boxed W (w.heap.size+1+1) 233 v∧W.ownsRow (w.heap.size+8) 236 2 v l.length (Zfa l)∧Below w.heap.size w W∧
  Boxed W w.heap.size 150 Zc9∧Boxed W (w.heap.size+1) 39 (.int .i64 0)∧W.heap[w.heap.size+6]? =some (.deferred (some []))∧w.heap.size+7≤W.heap.size
def XA(w:World)(text:ByteArray)(c:Code)(W:World):Prop:=
 c= .ret∧ ¬Zk5 text∧Below w.heap.size w W∧Boxed W w.heap.size 150 Zc9∧Boxed W (w.heap.size+1) 39 (.int .i64 21)∧W.heap[w.heap.size+6]? =some (.deferred (some []))∧w.heap.size+7≤W.heap.size
theorem Zmh{A B:World}{base b:Nat}{e:TypeId}{size k:Nat}{v:Value}{xs:List Value}(h:A.ownsRow base e size v k xs)(ht:Tu b A B)(hb:b<base):B.ownsRow base e size v k xs:=by
 refine h.kept ht ?_
 rcases h.2 with⟨rfl,_⟩|⟨g,cap,cur,rfl,hg,_⟩
 ·exact .inl rfl
 ·refine .inr λe'=>?_
  have:g=b:=by simpa[Value.ownBlock]using e'
  omega
theorem Zfk{A B w:World}{b s:Nat}(h:Below s w A)(ht:Tu b A B)(hb:s≤b)(hs:s≤w.heap.size):Below s w B:=h.grown ht (Nat.le_trans hs h.size) λk e=>by cases e; exact hb
theorem Zbr{A B:World}{b k:Nat}{t:TypeId}{v:Value}(h:Boxed A k t v)(ht:Tu b A B)(hne:k≠b):Boxed B k t v:=h.kept ht (by simpa using hne)
theorem IA.tu{w:World}{text:ByteArray}{k:Nat}{A B:World}{b:Nat}(hb:b=w.heap.size+1+1+1∨b=w.heap.size+7):IA w text k A→Tu b A B→IA w text k B:=by
 rintro⟨l,v,h1,h2,h3,h4,h5,h6,h7,h8⟩ ht
 exact⟨l,v,h1,Zbr h2 ht oM,Zmh h3 ht oM,Zfk h4 ht oM nR,Zbr h5 ht oM,Zbr h6 ht oM,ht.at h7 oM,Nat.le_trans h8 (World.grownBy.size ht)⟩
theorem XA.tu{w:World}{text:ByteArray}{c:Code}{A B:World}{b:Nat}(hb:b=w.heap.size+1+1+1∨b=w.heap.size+7):XA w text c A→Tu b A B→XA w text c B:=by
 rintro⟨h1,h2,h4,h5,h6,h7,h8⟩ ht
 exact⟨h1,h2,Zfk h4 ht oM nR,Zbr h5 ht oM,Zbr h6 ht oM,ht.at h7 oM,Nat.le_trans h8 (World.grownBy.size ht)⟩
structure StA(w:World)(text:ByteArray)(V:World):Prop where
 size:V.heap.size=w.heap.size+6
 out:Boxed V w.heap.size 150 Zc9
 err:Boxed V (w.heap.size+1) 39 (.int .i64 0)
 all:Boxed V (w.heap.size+1+1) 233 Zc9
 str:Boxed V (w.heap.size+1+1+1) 9 (.string text)
 sep:Boxed V (w.heap.size+1+1+1+1) 9 (.string barB)
 sav:Boxed V (w.heap.size+1+1+1+2) 3 (.int .i64 0)
 bel:Below w.heap.size w V
theorem stA(w:World)(text:ByteArray):StA w text (sqW (((w.alloc (.cells #[Zc9] 150)).alloc (.cells #[.int .i64 0] 39)).alloc (.cells #[Zc9] 233)) text barB):=by
 unfold sqW
 have b0:=Boxed.new w 150 Zc9
 have b1:=Boxed.new (w.alloc (.cells #[Zc9] 150)) 39 (.int .i64 0)
 have b2:=Boxed.new ((w.alloc (.cells #[Zc9] 150)).alloc (.cells #[.int .i64 0] 39)) 233 Zc9
 generalize hA:((w.alloc (.cells #[Zc9] 150)).alloc (.cells #[.int .i64 0] 39)).alloc (.cells #[Zc9] 233)=A at*
 have hs:A.heap.size=w.heap.size+1+1+1:=by rw[←hA]; simp
 have hb:Below w.heap.size w A:=by rw[←hA]; exact(((Below.refl _ w).alloc nR _).alloc sI _).alloc (by simp; omega) _
 have b3:=Boxed.new A 9 (.string text)
 have b4:=Boxed.new (A.alloc (.cells #[.string text] 9)) 9 (.string barB)
 have b5:=Boxed.new ((A.alloc (.cells #[.string text] 9)).alloc (.cells #[.string barB] 9)) 3 (.int .i64 0)
 simp only[World.size_alloc,hs]at b1 b2 b3 b4 b5
 have c0:Boxed A w.heap.size 150 Zc9:=by rw[←hA]; exact(b0.alloc _).alloc _
 have c1:Boxed A (w.heap.size+1) 39 (.int .i64 0):=by rw[←hA]; exact b1.alloc _
 exact⟨by simp[hs],((c0.alloc _).alloc _).alloc _,((c1.alloc _).alloc _).alloc _,((b2.alloc _).alloc _).alloc _,(b3.alloc _).alloc _,b4.alloc _,b5,((hb.alloc oM _).alloc (by simp; omega) _).alloc (by simp; omega) _⟩
structure StB(W:World)(a:ByteArray)(V:World):Prop where
 size:V.heap.size=W.heap.size+5
 one:V.heap[W.heap.size]? =some (.cells #[.int .i64 0,.int .i64 999999999] 236 (0,0))
 some:Boxed V (W.heap.size+1) 4 (.bool false)
 str:Boxed V (W.heap.size+1+1) 9 (.string a)
 sep:Boxed V (W.heap.size+1+1+1) 9 (.string spB)
 sav:Boxed V (W.heap.size+1+1+2) 3 (.int .i64 0)
 bel:Below W.heap.size W V
theorem Zgv{W:World}{k:Nat}{o:Obj}(h:W.heap[k]? =some o)(o':Obj):(W.alloc o').heap[k]? =some o:=(Below.heap_alloc _ _ _ (Array.getElem?_eq_some_iff.1 h).1).trans h
theorem stB(W:World)(a:ByteArray):StB W a (sqW ((W.alloc (.cells #[.int .i64 0,.int .i64 999999999] 236)).alloc (.cells #[.bool false] 4)) a spB):=by
 unfold sqW
 have b0:=World.alloc_heap_new W (.cells #[.int .i64 0,.int .i64 999999999] 236)
 have b1:=Boxed.new (W.alloc (.cells #[.int .i64 0,.int .i64 999999999] 236)) 4 (.bool false)
 generalize hA:(W.alloc (.cells #[.int .i64 0,.int .i64 999999999] 236)).alloc (.cells #[.bool false] 4)=A at*
 have hs:A.heap.size=W.heap.size+1+1:=by rw[←hA]; simp
 have hb:Below W.heap.size W A:=by rw[←hA]; exact((Below.refl _ W).alloc nR _).alloc sI _
 have b3:=Boxed.new A 9 (.string a)
 have b4:=Boxed.new (A.alloc (.cells #[.string a] 9)) 9 (.string spB)
 have b5:=Boxed.new ((A.alloc (.cells #[.string a] 9)).alloc (.cells #[.string spB] 9)) 3 (.int .i64 0)
 simp only[World.size_alloc,hs]at b1 b3 b4 b5
 have c0:A.heap[W.heap.size]? =some (.cells #[.int .i64 0,.int .i64 999999999] 236 (0,0)):=by rw[←hA]; exact Zgv b0 _
 exact⟨by simp[hs],Zgv (Zgv (Zgv c0 _) _) _,((b1.alloc _).alloc _).alloc _,(b3.alloc _).alloc _,b4.alloc _,b5,((hb.alloc oM _).alloc (by simp; omega) _).alloc (by simp; omega) _⟩
def IB(W:World)(a:ByteArray)(j:Nat)(W':World):Prop:=
 ∃(x:Rk) (b:Bool),InW (Zar spB a) j x b∧W'.heap[W.heap.size]? =some (.cells #[.int .i64 x.1,.int .i64 x.2] 236 (0,0))∧Boxed W' (W.heap.size+1) 4 (.bool b)∧Below W.heap.size W W'∧W.heap.size+5≤W'.heap.size
structure ButR(s:Nat)(W W':World):Prop where
 os:W'.os=W.os
 tape:W'.tape=W.tape
 output:W'.output=W.output
 size:W.heap.size≤W'.heap.size
 block: ∀k,k<W.heap.size→k≠s→k≠s+1→W'.heap[k]? =W.heap[k]?
def XB(w W:World)(a:ByteArray)(c:Code)(W':World):Prop:=
 c= .ret∧(∃t∈Zar spB a,t.size≠0∧ ∀x,¬WordR t.data.toList x)∧Boxed W' w.heap.size 150 Zc9∧Boxed W' (w.heap.size+1) 39 (.int .i64 21)∧ButR w.heap.size W W'
theorem IB.tu{W:World}{a:ByteArray}{k:Nat}{A B:World}{b:Nat}(hb:b=W.heap.size+1+1∨b=W.heap.size+5):IB W a k A→Tu b A B→IB W a k B:=by
 rintro⟨x,y,h1,h2,h3,h4,h5⟩ ht
 exact⟨x,y,h1,ht.at h2 oM,Zbr h3 ht oM,Zfk h4 ht oM nR,Nat.le_trans h5 (World.grownBy.size ht)⟩
theorem XB.tu{w W:World}{a:ByteArray}{c:Code}{A B:World}{b:Nat}(hw:w.heap.size+7≤W.heap.size)(hb:b=W.heap.size+1+1∨b=W.heap.size+5):XB w W a c A→Tu b A B→XB w W a c B:=by
 rintro⟨h1,h2,h3,h4,h5⟩ ht
 exact⟨h1,h2,Zbr h3 ht oM,Zbr h4 ht oM,⟨(World.grownBy.os ht).trans h5.os,(World.grownBy.tape ht).trans h5.tape,(World.grownBy.output ht).trans h5.output,Nat.le_trans h5.size (World.grownBy.size ht),λk hk h6 h7=>
  (World.grownBy.block ht k (Nat.lt_of_lt_of_le hk h5.size) (by simp; omega)).trans (h5.block k hk h6 h7)⟩⟩
theorem Zyb{A B:World}{u:Nat}{x y:Value}{t s:TypeId}{b:Value}(hx:Ext A B)(h:A.heap[u]? =some (.cells #[x,y] t (0,0)))(hb:Boxed A (u+1) s b):
  B.cell? ⟨u,0,none⟩=some x∧B.cell? ⟨u,1,none⟩=some y∧B.frozen? ⟨u,0,none⟩=false∧B.frozen? ⟨u,1,none⟩=false∧B.cell? ⟨u+1,0,none⟩=some b∧B.frozen? ⟨u+1,0,none⟩=false:=by
 have h2:B.heap[u]? =_:=(hx.block (Array.getElem?_eq_some_iff.1 h).1).trans h
 have hb2:Boxed B (u+1) s b:=(hx.block hb.lt).trans hb
 exact⟨by simp[World.cell?,h2],by simp[World.cell?,h2],by simp[World.frozen?,h2],by simp[World.frozen?,h2],hb2.cell,hb2.frozen⟩
structure Two(u:Nat)(A B:World):Prop where
 os:B.os=A.os
 tape:B.tape=A.tape
 output:B.output=A.output
 size:A.heap.size≤B.heap.size
 block: ∀k,k<A.heap.size→k≠u→k≠u+1→B.heap[k]? =A.heap[k]?
theorem Two.below{u s:Nat}{A B w:World}(h:Below s w A)(t:Two u A B)(hs:s≤u)(hw:s≤w.heap.size):Below s w B:=⟨t.os.trans h.os,t.tape.trans h.tape,t.output.trans h.output,Nat.le_trans h.size t.size,λk hk=>(t.block k (by have:=h.size; omega) oM oM).trans (h.block k hk)⟩
theorem Two.ext{u:Nat}{A B C:World}(h:Ext A B)(t:Two u B C)(hu:u+1<A.heap.size):Two u A C:=⟨t.os.trans h.os,t.tape.trans h.tape,t.output.trans h.output,Nat.le_trans h.size t.size,λk hk h1 h2=>(t.block k (by have:=h.size; omega) h1 h2).trans (h.block hk)⟩
theorem setB{A:World}{u:Nat}{x y p q r b:Value}{t s:TypeId}(h:A.heap[u]? =some (.cells #[x,y] t (0,0)))(hb:Boxed A (u+1) s b):
  (((A.setCell ⟨u,0,none⟩ p).setCell ⟨u,1,none⟩ q).setCell ⟨u+1,0,none⟩ r).heap[u]? =some (.cells #[p,q] t (0,0))∧Boxed (((A.setCell ⟨u,0,none⟩ p).setCell ⟨u,1,none⟩ q).setCell ⟨u+1,0,none⟩ r) (u+1) s r∧Two u A (((A.setCell ⟨u,0,none⟩ p).setCell ⟨u,1,none⟩ q).setCell ⟨u+1,0,none⟩ r):=by
 obtain⟨hlt,hk⟩:=Array.getElem?_eq_some_iff.1 h
 have o: ∀(B:World) (a:Addr) (v:Value) (k:Nat),k≠a.block→(B.setCell a v).heap[k]? =B.heap[k]? :=λB a v k hk=>Below.heap_setCell B a v k hk
 have e1:(A.setCell ⟨u,0,none⟩ p).heap[u]? =some (.cells #[p,y] t (0,0)):=by
  show(A.heap.modify u _)[u]? =_
  rw[Array.getElem?_eq_getElem (by rw[Array.size_modify]; exact hlt),Array.getElem_modify_self,hk]
  rfl
 obtain⟨hlt2,hk2⟩:=Array.getElem?_eq_some_iff.1 e1
 have e2:((A.setCell ⟨u,0,none⟩ p).setCell ⟨u,1,none⟩ q).heap[u]? =some (.cells #[p,q] t (0,0)):=by
  show((A.setCell ⟨u,0,none⟩ p).heap.modify u _)[u]? =_
  rw[Array.getElem?_eq_getElem (by rw[Array.size_modify]; exact hlt2),Array.getElem_modify_self,hk2]
  rfl
 have hb2:Boxed ((A.setCell ⟨u,0,none⟩ p).setCell ⟨u,1,none⟩ q) (u+1) s b:=((o _ _ _ _ sI).trans (o _ _ _ _ sI)).trans hb
 refine⟨(o _ _ _ _ sI).trans e2,hb2.set r,rfl,rfl,rfl,by simp[World.setCell],λk hk h1 h2=>(o _ _ _ _ (by simpa using h2)).trans ((o _ _ _ _ (by simpa using h1)).trans (o _ _ _ _ (by simpa using h1)))⟩
theorem Zq{A B:World}{n k:Nat}{t:TypeId}{v:Value}(h:Boxed A k t v)(hx:Below n A B)(hk:k<n):Boxed B k t v:=(hx.block k hk).trans h
theorem setR{A:World}{u:Nat}{p q x y:Value}{t s:TypeId}(h:Boxed A u t x)(hb:Boxed A (u+1) s y):
  Boxed ((A.setCell ⟨u,0,none⟩ p).setCell ⟨u+1,0,none⟩ q) u t p∧Boxed ((A.setCell ⟨u,0,none⟩ p).setCell ⟨u+1,0,none⟩ q) (u+1) s q∧Two u A ((A.setCell ⟨u,0,none⟩ p).setCell ⟨u+1,0,none⟩ q):=by
 have o: ∀(B:World) (a:Addr) (v:Value) (k:Nat),k≠a.block→(B.setCell a v).heap[k]? =B.heap[k]? :=λB a v k hk=>Below.heap_setCell B a v k hk
 have h1:=h.set p
 have hb1:Boxed (A.setCell ⟨u,0,none⟩ p) (u+1) s y:=(o _ _ _ _ sI).trans hb
 refine⟨(o _ _ _ _ sI).trans h1,hb1.set q,rfl,rfl,rfl,by simp[World.setCell],λk hk h1 h2=>(o _ _ _ _ (by simpa using h2)).trans (o _ _ _ _ (by simpa using h1))⟩
theorem Two.butR{s:Nat}{W A B:World}(h:Below W.heap.size W A)(t:Two s A B):ButR s W B:=⟨t.os.trans h.os,t.tape.trans h.tape,t.output.trans h.output,Nat.le_trans h.size t.size,λk hk h1 h2=>(t.block k (by have:=h.size; omega) h1 h2).trans (h.block k hk)⟩
theorem ButR.below{s:Nat}{w A B:World}(h:Below s w A)(t:ButR s A B)(hw:s≤w.heap.size):Below s w B:=⟨t.os.trans h.os,t.tape.trans h.tape,t.output.trans h.output,Nat.le_trans h.size t.size,λk hk=>(t.block k (by have:=h.size; omega) oM oM).trans (h.block k hk)⟩
structure OneB(n b:Nat)(A B:World):Prop where
 os:B.os=A.os
 tape:B.tape=A.tape
 output:B.output=A.output
 size:A.heap.size≤B.heap.size
 block: ∀k,k<n→k≠b→B.heap[k]? =A.heap[k]?
theorem OneB.below{n b s:Nat}{w A B:World}(h:Below s w A)(t:OneB n b A B)(hs:s≤b)(hn:s≤n):Below s w B:=⟨t.os.trans h.os,t.tape.trans h.tape,t.output.trans h.output,Nat.le_trans h.size t.size,λk hk=>(t.block k oM oM).trans (h.block k hk)⟩
theorem Zfm{A B:World}{base:Nat}{e:TypeId}{size k:Nat}{v:Value}{xs:List Value}(h:A.ownsRow base e size v k xs)(hb:Below A.heap.size A B):B.ownsRow base e size v k xs:=
 ⟨h.1,h.2.imp id λ⟨g,cap,cur,h1,h2,h3,h4⟩=>⟨g,cap,cur,h1,h2,(hb.block g (Array.getElem?_eq_some_iff.1 h3).1).trans h3,h4⟩⟩
theorem Znl{W w1:World}{n₀ B:Nat}{t e:TypeId}{size:Nat}{v v':Value}{k m:Nat}{xs ys:List Value}{tmp:Obj}
  (hv:Boxed W B t v) (hte:t≠e) (hrow:W.ownsRow n₀ e size v k xs) (hn₀:n₀≤W.heap.size)
  (hown':w1.ownsRow n₀ e size v' m ys) (hgrow:(W.alloc tmp).grownBy w1 v.ownBlock):
  Boxed w1 B t v∧Boxed (w1.setCell ⟨B,0,none⟩ v') B t v'∧(w1.setCell ⟨B,0,none⟩ v').ownsRow n₀ e size v' m ys∧OneB n₀ B W (w1.setCell ⟨B,0,none⟩ v'):=by
 have hv1:Boxed w1 B t v:=(hv.alloc tmp).kept hgrow (hv.not_row hte hrow)
 refine⟨hv1,hv1.set v',hown'.kept (grownBy_setCell' w1 B v') (.inr (hv1.not_row hte hown').symm),by have:=World.grownBy.os hgrow; exact this,by have:=World.grownBy.tape hgrow; exact this,by have:=World.grownBy.output hgrow; exact this,?_,λj hj hb=>?_⟩
 ·have:=World.grownBy.size hgrow
  simp[World.setCell]at this ⊢
  omega
 ·refine(Below.heap_setCell w1 _ v' j hb).trans ((World.grownBy.block hgrow j (by simp; omega) λe'=>?_).trans (Below.heap_alloc W tmp j oM))
  rcases hrow.2 with⟨rfl,_⟩|⟨g,cap,cur,rfl,hb',_⟩
  ·simp[Value.ownBlock]at e'
  ·have:j=g:=by simpa[Value.ownBlock]using e'
   omega
theorem Zqz{W:World}{v:Value}{l:List Rk}{base:Nat}(h:W.ownsRow base 236 2 v l.length (Zfa l))(hin:rkIn l)(hl:l.length≤1000000):
  Calls prog 281 #[v] W λe w'=>∃(t:Sl) (m:List Rk),e= .returned t.v∧Ext W w'∧m.Perm l∧Zoi m∧SlR rkE w' (λb=>W.heap.size≤b∧b<w'.heap.size) t (Zi4 m):=by
 obtain⟨s,rfl,own⟩:=OwnS.rkMk h
 have eb:rkE.bytes=16:=rfl
 have hj:callS prog 281 [s.v] W λv w'=>∃(t:Sl) (m:List Rk),v=t.v∧Ext W w'∧m.Perm l∧Zoi m∧SlR rkE w' (λb=>W.heap.size≤b∧b<w'.heap.size) t (Zi4 m):=by
  refine SE.Zf9.go (joined_se own hin hl λt w' m hx hp hr ow=>⟨t,m,rfl,hx,hp,hr,?_⟩)
  have hjl:(Zi4 m).length≤1000000:=by
   have hm:m.length≤1000000:=by rw[hp.length_eq]; exact hl
   cases m with
   |nil=>simp[Zi4]
   |cons y r=>have:=Zpv r y; simp only[List.length_cons]at hm; show(Zkm y r).length≤1000000; omega
  refine(ow.read (by rw[eb]; unfold room; omega) (by rw[Zb]; omega)).mono λb hb=>?_
  rcases hb with h|⟨ad,ha,rfl⟩
  ·exact h.elim
  ·have:=ow.block ha; exact⟨this.1,this.2.1⟩
 exact Calls.mono hj λe w' ⟨v,he,t,m,hv,r⟩=>⟨t,m,by rw[he,hv],r⟩
theorem Z4x{W:World}{t:Sl}{l:List Rk}{S:Nat→Prop}(h:SlR rkE W S t l):
  Calls prog 280 #[t.v] W λe w'=>∃(s:Sl) (er:Int),e= .returned (.tuple #[s.v,.int .i64 er])∧Ext W w'∧((s=Sl.nil∧er=26∧64<l.length)∨(er=0∧l.length≤64∧SlR spanE w' (λb=>W.heap.size≤b∧b<w'.heap.size) s (Ze2 l))):=by
 have hf:callS prog 280 [t.v] W λv w'=>∃(s:Sl) (er:Int),v= .tuple #[s.v,.int .i64 er]∧Ext W w'∧((s=Sl.nil∧er=26∧64<l.length)∨(er=0∧l.length≤64∧SlR spanE w' (λb=>W.heap.size≤b∧b<w'.heap.size) s (Ze2 l))):=by
  refine SE.Zkh.go ?_
  unfold SE.Zkh
  have hl:=h.len
  exact⟨λhg=>⟨Sl.nil,26,rfl,Ext.refl _,.inl ⟨rfl,rfl,oM⟩⟩,λhg=>SE.Zhb.go (spans_se h oM λt w' hx ht=>⟨t,rfl,t,0,rfl,hx,.inr ⟨rfl,oM,ht⟩⟩)⟩
 exact Calls.mono hf λe w' ⟨v,he,s,er,hv,r⟩=>⟨s,er,by rw[he,hv],r⟩
def ParseR(w:World)(text:ByteArray)(e:Ending)(W':World):Prop:=
 Ext w W'∧ ∃(s:Sl) (er:Int),e= .returned (.tuple #[s.v,.int .i64 er])∧((s=Sl.nil∧er=21∧ ¬Zk5 text)∨
  (text.size≤4096∧ ∃l m,InA (Zar barB text) (Zar barB text).length l∧m.Perm l∧Zoi m∧((s=Sl.nil∧er=26∧64<(Zi4 m).length)∨
   (er=0∧(Zi4 m).length≤64∧SlR spanE W' (λb=>w.heap.size≤b∧b<W'.heap.size) s (Ze2 (Zi4 m))))))
set_option maxRecDepth 100000 in
theorem parse_in(n:Nat)(hn:12≤n)(text:ByteArray)(w:World)(hsz:text.size≤4096)(m:Int)(hm:w.cell? ⟨0,0,none⟩=some (.int .i64 m))(hword:WordC w)(htx:AnyW text):
  CallsIn Fence.wide n prog 196 #[.string text] w (ParseR w text):=by
 have h1:1≤n:=oM
 obtain⟨i0,hi,hz0,hz1,hz2⟩:=info_parts (show(prog.info? 236).map (λi=>(i.zero,i.size,i.bytes))=some (some (.agg #[.int .i64 0,.int .i64 0]),2,16) by kernel_rfl)
 refine callsIn_of_wp_marks func196 rfl trivial ?_ rfl
 simp only[Tryz.ntmps196,List.size_toArray,List.length_cons,List.length_nil,Nat.reduceAdd,Nat.reduceSub,Array.replicate_succ,Array.replicate_zero,List.push_toArray,List.append_toArray,List.nil_append,List.cons_append]
 have hsz':(text.size:Int)≤4096:=oM
 gi_wp2_with (refine⟨trivial,?_⟩; gi_at_call 278; refine(Zgm (n - 1) oM _ _ _).mono ?_; rintro e w' ⟨rfl,rfl⟩)
 have hst:=stA w text
 obtain⟨V,hV⟩: ∃V,sqW (((w.alloc (.cells #[Zc9] 150)).alloc (.cells #[.int .i64 0] 39)).alloc (.cells #[Zc9] 233)) text barB=V:=⟨_,rfl⟩
 rw[hV]at hst
 have hV':=hV
 unfold Zc9 barB at hV'
 rw[hV']
 clear hV hV'
 have hgm:0<w.heap.size:=World.block_lt_of_cell? _ _ hm
 have hmV: ∀{W:World},Below w.heap.size w W→W.cell? ⟨0,0,none⟩=some (.int .i64 m):=λh=>(h.cell (p:=⟨0,0,none⟩) hgm).trans hm
 have hsV:=hst.size
 have hseq:=Zi9 (n - 1) oM barB dC (w.heap.size+1+1+1+1) (w.heap.size+1+1+1) (w.heap.size+1+1+1+2) oM oM text hsz m oM (V.alloc (.deferred (some []))) (hst.sep.alloc _) (hst.str.alloc _) (hst.sav.alloc _) (hmV (hst.bel.alloc oM _))
 have hD:(V.alloc (.deferred (some []))).heap[w.heap.size+6]? =some (.deferred (some [])):=by rw[←hsV]; exact World.alloc_heap_new V _
 have hs7:(V.alloc (.deferred (some []))).heap.size=w.heap.size+7:=by rw[World.size_alloc,hsV]
 refine Zvw (r₀:=none) (D:=V.heap.size) (λfn=>Zvg _ _ _ _ fn) (gf:=345) rfl (enters_of func345 kR rfl) hseq rfl oM (λk hk=>?ks)
  (IA w text) (XA w text) (λk A B b hb h ht=>h.tu (hb.imp id λe=>e.trans hs7) ht) (λc A B b hb h ht=>h.tu (hb.imp id λe=>e.trans hs7) ht)
  ⟨[],Zc9,InA.start _,hst.all.alloc _,World.ownsRow_nil _ _ _ _,hst.bel.alloc oM _,hst.out.alloc _,hst.err.alloc _,hD,oM⟩ ?a1 ?assign ?body ?done ?stop
 case ks=>
  simp only[List.mem_cons,List.mem_nil_iff,or_false]at hk
  omega
 case assign=>
  intro x W K hK
  gi_wp2
  exact hK
 case body=>
  rintro k hk W ⟨rec,hrec,hrd⟩ ⟨l,v,hA,bAll,hrow,hB,bOut,bErr,hDf,hsz8⟩
  rw[hs7]at hrec
  have hlW:=(Array.getElem?_eq_some_iff.1 hrec).1
  have n1:1≤n - 1 - 1:=oM
  have n2:1≤n - 1 - 1 - 1:=oM
  gi_wp2_with (refine⟨trivial,?_⟩; gi_at_call 278; refine(CallsIn.inRound (F:=Fence.wide) _ (Zgm (n - 1 - 1 - 1) oM _ _ _)).mono ?_; rintro e w' ⟨rfl,rfl⟩)
  have hst2:=stB W (Zar barB text)[k]
  obtain⟨V2,hV⟩: ∃V2,sqW ((W.alloc (.cells #[.int .i64 0,.int .i64 999999999] 236)).alloc (.cells #[.bool false] 4)) (Zar barB text)[k] spB=V2:=⟨_,rfl⟩
  rw[hV]at hst2
  have hV':=hV
  unfold spB at hV'
  rw[hV']
  clear hV hV'
  have hsV2:=hst2.size
  have hL2:V2.heap[(V.alloc (.deferred (some []))).heap.size]? =some (.loop rec):=by rw[hs7]; exact(hst2.bel.block _ oM).trans hrec
  have hasz:(Zar barB text)[k].size≤4096:=Nat.le_trans (Zik (List.getElem_mem hk)) hsz
  have hseq2:=Zi9 (n - 1 - 1 - 1) oM spB dC (W.heap.size+1+1+1) (W.heap.size+1+1) (W.heap.size+1+1+2) oM oM (Zar barB text)[k] hasz m oM V2 hst2.sep hst2.str hst2.sav (hmV (hB.trans (hst2.bel.mono oM)))
  refine Zvw (r₀:=some (V.alloc (.deferred (some []))).heap.size) (D:=rec.defers) (w₀:=V2) (mark:=[]) (λfn=>run_enterLoop_inner hL2 fn _ _ _ _) (gf:=345) rfl (enters_of func345 kR rfl) hseq2 rfl oM (λk hk=>?ks2)
   (IB W (Zar barB text)[k]) (XB w W (Zar barB text)[k]) (λj A B b hb h ht=>h.tu (hb.imp id λe=>e.trans hsV2) ht) (λc A B b hb h ht=>h.tu oM (hb.imp id λe=>e.trans hsV2) ht)
   ⟨_,_,InW.start _,hst2.one,hst2.some,hst2.bel,oM⟩ ?a2 ?assign2 ?body2 ?done2 ?stop2
  case ks2=>
   simp only[List.mem_cons,List.mem_nil_iff,or_false]at hk
   omega
  case assign2=>
   intro x W K hK
   gi_wp2
   exact hK
  case body2=>
   rintro j hj W' ⟨rec2,hrec2,hrd2⟩ ⟨x,b,hW,hone,hsome,hB2,hsz2⟩
   have htsz:(Zar spB (Zar barB text)[k])[j].size≤4096:=Nat.le_trans (Zik (List.getElem_mem hj)) hasz
   generalize ht:(Zar spB (Zar barB text)[k])[j]=t at htsz ⊢
   by_cases h0:t.size=0
   ·have ht0:t=ByteArray.mk #[]:=by
     obtain⟨⟨l⟩⟩:=t
     simp[ByteArray.size]at h0
     rw[h0]
    subst ht0
    gi_wp2
    exact⟨rfl,λ_ _=>rfl,x,b,hW.skip hj (by rw[ht]; rfl),hone,hsome,hB2,hsz2⟩
   ·have h0': ¬t=ByteArray.mk #[]:=by rintro rfl; exact h0 rfl
    have hte:t.toList.isEmpty=false:=by
     rw[Lib.toList_data]
     cases h:t.data.toList with
     |nil=>have:=Lib.size_eq t; rw[h,List.length_nil]at this; omega
     |cons _ _=>rfl
    by_cases hx: ∃a,WordR t.data.toList a
    ·obtain⟨a,ha⟩:=hx
     have hc:Calls prog 279 #[.string t] W' λe w'=>e= .returned (.tuple #[.agg #[.int .i64 a.1,.int .i64 a.2],.bool true])∧Ext W' w':=by
      refine(hword t W' (AnyW.piece htx (List.getElem_mem hk) (by rw[←ht]; exact List.getElem_mem hj)) htsz (hB.trans (hB2.mono oM))).mono ?_
      rintro e w' ⟨hxw,⟨y,hy,rfl⟩|⟨hn,_⟩⟩
      ·rw[hy.one ha]; exact⟨rfl,hxw⟩
      ·exact absurd ha (hn a)
     have n3:1≤n - 1 - 1 - 1 - 1:=oM
     gi_wp2_with (refine⟨trivial,?_⟩; gi_at_call 279; refine(CallsIn.inRound (F:=Fence.wide) _ (callsIn_wide.2 hc)).mono ?_; rintro e w' ⟨rfl,hxw⟩; obtain⟨c1,c2,f1,f2,cs,fs⟩:=Zyb (hxw.trans (Ext.alloc w' (.cells #[.int .i64 a.1,.int .i64 a.2] 236))) hone hsome)
     have x2:=hxw.trans (Ext.alloc w' (.cells #[.int .i64 a.1,.int .i64 a.2] 236))
     have hone2:=(x2.block (Array.getElem?_eq_some_iff.1 hone).1).trans hone
     have hsome2:=Zq hsome x2 hsome.lt
     obtain⟨k1,k2,k3⟩:=setB (p:=.int .i64 (max x.1 a.1)) (q:=.int .i64 (min x.2 a.2)) (r:=.bool true) hone2 hsome2
     have k4:=k3.ext x2 hsome.lt
     refine⟨?_,?_,(max x.1 a.1,min x.2 a.2),true,hW.word hj (by rw[ht]; exact h0) (by rw[ht]; exact ha),k1,k2,Two.below hB2 k4 nR nR,Nat.le_trans hsz2 k4.size⟩
     ·exact k4.block _ (Array.getElem?_eq_some_iff.1 hrec2).1 oM oM
     ·intro q hq
      simp only[List.mem_cons,List.mem_nil_iff,or_false]at hq
      exact k4.block _ oM oM oM
    ·have hc:Calls prog 279 #[.string t] W' λe w'=>e= .returned (.tuple #[.agg #[.int .i64 0,.int .i64 0],.bool false])∧Ext W' w':=by
      refine(hword t W' (AnyW.piece htx (List.getElem_mem hk) (by rw[←ht]; exact List.getElem_mem hj)) htsz (hB.trans (hB2.mono oM))).mono ?_
      rintro e w' ⟨hxw,⟨y,hy,_⟩|⟨_,he⟩⟩
      ·exact absurd ⟨y,hy⟩ hx
      ·exact⟨he,hxw⟩
     have n3:1≤n - 1 - 1 - 1 - 1:=oM
     have bOut':=Zq bOut hB2 oM
     have bErr':=Zq bErr hB2 oM
     gi_wp2_with (refine⟨trivial,?_⟩; gi_at_call 279; refine(CallsIn.inRound (F:=Fence.wide) _ (callsIn_wide.2 hc)).mono ?_; rintro e w' ⟨rfl,hxw⟩; have x2:=hxw.trans (Ext.alloc w' (.cells #[.int .i64 0,.int .i64 0] 236)); have c1:=(Zq bOut' x2 bOut'.lt).cell; have c2:=(Zq bOut' x2 bOut'.lt).frozen; have c3:=(Zq bErr' x2 bErr'.lt).cell; have c4:=(Zq bErr' x2 bErr'.lt).frozen)
     have x2:=hxw.trans (Ext.alloc w' (.cells #[.int .i64 0,.int .i64 0] 236))
     obtain⟨k1,k2,k3⟩:=setR (p:=Zc9) (q:=.int .i64 21) (Zq bOut' x2 bOut'.lt) (Zq bErr' x2 bErr'.lt)
     have k4:=k3.ext x2 bErr'.lt
     exact⟨k4.block _ (Array.getElem?_eq_some_iff.1 hrec2).1 oM oM,rfl,⟨t,by rw[←ht]; exact List.getElem_mem hj,h0,λy hy=>hx ⟨y,hy⟩⟩,k1,k2,k4.butR hB2⟩
  case stop2=>
   rintro c W2 ⟨rfl,⟨t,ht,h0,hx⟩,b1,b2,hr⟩
   gi_wp2
   exact⟨by rw[hs7]; exact hr.block _ hlW oM oM,rfl,λh=>by
    obtain⟨y,hy⟩:=(h.2 _ (List.getElem_mem hk)).2 t ht h0
    exact hx y hy,ButR.below hB hr nR,b1,b2,(hr.block _ (Array.getElem?_eq_some_iff.1 hDf).1 oM oM).trans hDf,Nat.le_trans hsz8 hr.size⟩
  case done2=>
   rintro W2 ⟨x,b,hW,hone,hsome,hB2,hsz2⟩
   have hcs:=hsome.cell
   have bOut2:=Zq bOut hB2 oM
   have bErr2:=Zq bErr hB2 oM
   have hB02:=hB.trans (hB2.mono (by omega:w.heap.size≤W.heap.size))
   have hDf2:=(hB2.block _ (Array.getElem?_eq_some_iff.1 hDf).1).trans hDf
   cases b with
   |false=>
    have c1:=bOut2.cell
    have c2:=bOut2.frozen
    have c3:=bErr2.cell
    have c4:=bErr2.frozen
    gi_wp2
    obtain⟨k1,k2,k3⟩:=setR (p:=Zc9) (q:=.int .i64 21) bOut2 bErr2
    exact⟨(k3.block _ oM oM oM).trans (hB2.block _ oM),rfl,λh=>by
     have:=hW.some
     rw[List.take_length]at this
     exact absurd (this.2 (h.2 _ (List.getElem_mem hk)).1) sI,ButR.below hB (k3.butR hB2) nR,k1,k2,(k3.block _ (Array.getElem?_eq_some_iff.1 hDf2).1 oM oM).trans hDf2,Nat.le_trans oM k3.size⟩
   |true=>
    have hstep:=hA.step hk hW
    have c1:W2.cell? ⟨W.heap.size,0,none⟩=some (.int .i64 x.1):=by simp[World.cell?,hone]
    have c2:W2.cell? ⟨W.heap.size,1,none⟩=some (.int .i64 x.2):=by simp[World.cell?,hone]
    have bAll2:=Zq bAll hB2 oM
    by_cases hle:x.1≤x.2
    ·have hA':=hstep.1 hle
     have hcv:=bAll2.cell
     have hrow2:=Zfm hrow hB2
     have hlen:=hA.len
     have hlk:l.length≤4096:=by
      have:=Zjm barB dC text
      omega
     gi_wp2_with (gi_at_builtin; refine wpListIn_append_own _ rfl _ _ 233 rfl (w.heap.size+8) 236 i0 (.agg #[.int .i64 0,.int .i64 0]) 2 16 underlying233 hi hz0 hz1 hz2 rfl dC _ _ _ rfl (hrow2.alloc _) ⟨W2.heap.size,0,none⟩ 1 1 [.int .i64 x.1,.int .i64 x.2] rfl rfl (λj u hj=>by rw[show(⟨W2.heap.size,0,none⟩:Addr).add j=⟨W2.heap.size,j,none⟩ by unfold Addr.add; split<;>simp_all]; rw[World.cell?_alloc_mark,List.getElem?_toArray]; exact hj) (by simp[Value.oneCell']) (by rw[Zmf]; omega) oM (by simp; omega) ?_; intro v' w1 hown' hgrow _; obtain⟨g',cap',rfl⟩:=ownsRow_succ hown'; obtain⟨hv1,hv2,hr2,hk2⟩:=Znl bAll2 dC hrow2 oM hown' hgrow; have hc1:=hv1.cell; have hf1:=hv1.frozen)
     exact⟨(hk2.block _ oM oM).trans (hB2.block _ oM),λq hq=>by
      simp only[List.mem_cons,List.mem_nil_iff,or_false]at hq
      exact(hk2.block _ oM oM).trans (hB2.block _ oM),l++ [x],_,hA',hv2,by rw[Zky]; simpa using hr2,OneB.below hB02 hk2 oM oM,(hk2.block _ oM oM).trans bOut2,(hk2.block _ oM oM).trans bErr2,(hk2.block _ oM oM).trans hDf2,Nat.le_trans oM hk2.size⟩
    ·have hA':=hstep.2 hle
     gi_wp2
     exact⟨hB2.block _ oM,λq hq=>by
      simp only[List.mem_cons,List.mem_nil_iff,or_false]at hq
      exact hB2.block _ oM,l,v,hA',bAll2,Zfm hrow hB2,hB02,bOut2,bErr2,hDf2,oM⟩
 case stop=>
  rintro c W ⟨rfl,hno,hB,bOut,bErr,hDf,hsz8⟩
  gi_wp2
  refine⟨by simp,.inl ⟨_,_,rfl,run_takeDeferred (by rw[hsV]; exact hDf),?_⟩⟩
  have hp:=Tu.put W V.heap.size (.deferred none)
  have hc5:=(Zbr bOut hp oM).cell
  have hc6:=(Zbr bErr hp oM).cell
  refine⟨.tuple #[Zc9,.int .i64 21],?_,Zfk hB hp oM nR,Sl.nil,21,rfl,.inl ⟨rfl,rfl,hno⟩⟩
  simp[results,Tryz.f196,go_sem,hc5,hc6]
 case done=>
  rintro W ⟨l,v,hA,bAll,hrow,hB,bOut,bErr,hDf,hsz8⟩
  have hcv:=bAll.cell
  have hln:=hA.len
  have hlk:=Zjm barB dC text
  gi_wp2
  refine⟨trivial,(callsIn_wide.2 (Zqz hrow hA.inn oM)).mono ?_⟩
  rintro e w1 ⟨t,m',rfl,x1,hp,hr,hm⟩
  gi_wp2
  refine⟨trivial,(callsIn_wide.2 (Z4x hm)).mono ?_⟩
  rintro e w2 ⟨⟨a2,l2,k2⟩,er,rfl,x2,hres⟩
  dsimp only[Sl.v]
  have x12:=x1.trans x2
  have bOut2:=Zq bOut x12 oM
  have bErr2:=Zq bErr x12 oM
  have hDf2:=(x12.block oM).trans hDf
  have c1:=bOut2.cell
  have c2:=bOut2.frozen
  have c3:=bErr2.cell
  have c4:=bErr2.frozen
  gi_wp2
  obtain⟨q1,q2,q3⟩:=setR (p:=.slice a2 l2 k2) (q:=.int .i64 er) bOut2 bErr2
  have hDf3:=(q3.block _ (Array.getElem?_eq_some_iff.1 hDf2).1 oM oM).trans hDf2
  refine⟨by simp,.inl ⟨_,_,rfl,run_takeDeferred hDf3,?_⟩⟩
  generalize hX:(w2.setCell ⟨w.heap.size,0,none⟩ (.slice a2 l2 k2)).setCell ⟨w.heap.size+1,0,none⟩ (.int .i64 er)=X at q1 q2 q3 hDf3 ⊢
  have hp2:=Tu.put X (w.heap.size+6) (.deferred none)
  have hc5:=(Zbr q1 hp2 oM).cell
  have hc6:=(Zbr q2 hp2 oM).cell
  have hb2:=Two.below (hB.trans (x12.mono oM)) q3 nR nR
  refine⟨.tuple #[.slice a2 l2 k2,.int .i64 er],?_,Zfk hb2 hp2 oM nR,⟨a2,l2,k2⟩,er,rfl,.inr ⟨hsz,l,m',hA,hp,hr,hres.imp id λ⟨g1,g2,g3⟩=>⟨g1,g2,?_⟩⟩⟩
  ·simp[results,Tryz.f196,go_sem,hc5,hc6]
  ·have hw12:=x12.size
   have hx1:=x1.size
   have hsz':=World.grownBy.size hp2
   have hq:=q3.size
   refine(g3.keep (w':=X.putObj (w.heap.size+6) (.deferred none)) λb hb hl=>?_).mono λb hb=>⟨by have:=hb.1; omega,by have:=hb.2; omega⟩
   have h1:=hb.1
   exact(World.grownBy.block hp2 b oM (by simp; omega)).trans (q3.block b hl oM oM)
end Go.Hal
namespace Go.Hal
open Go.Proofs.Tryz
open Go
def pre(acc:List UInt8):List (List UInt8)→List (List UInt8)
 |h::t=>(acc++h)::t
 | []=>[acc]
end Go.Hal
namespace Go.Hal
open Go.Proofs.Tryz
open Go Go.RowKit Go.Proofs Go.Shelf
structure Gl(w:World):Prop where
 tab:Tab w
 mx: ∃m,w.cell? ⟨0,0,none⟩=some (.int .i64 m)
 syn: ∃ev,w.cell? ⟨6,0,none⟩=some ev∧(ev= .nilIface∨ ∃te pe,ev= .iface te pe)
 rng: ∃ev,w.cell? ⟨7,0,none⟩=some ev∧(ev= .nilIface∨ ∃te pe,ev= .iface te pe)
theorem Gl.ext{w w':World}(h:Gl w)(hx:Ext w w'):Gl w':=by
 obtain⟨h1,⟨m,h2⟩,⟨e,h3,h3'⟩,⟨e',h4,h4'⟩⟩:=h
 exact⟨h1.ext hx,⟨m,hx.cell h2⟩,⟨e,hx.cell h3,h3'⟩,⟨e',hx.cell h4,h4'⟩⟩
attribute [local go_sem] Oper.semAt_some
end Go.Hal
namespace Go.Hal
open Go.Proofs.Tryz
open Go Go.RowKit Go.Proofs Go.Shelf
attribute [local go_sem] Oper.semAt_some
end Go.Hal
namespace Go.Hal
open Go.Proofs.Tryz
open Go
end Go.Hal
namespace Go.Hal
open Go.Proofs.Tryz
open Go Go.RowKit Go.Proofs
def RowT{α:Type}(T:TypeId)(f:α→List Value)(w:World)(g:Nat)(l:List α)(tail:List Value):Prop:=w.heap[g]? =some (.cells ((l.map f).flatten++tail).toArray T (0,0))
section
variable {α:Type} {T:TypeId} {f:α→List Value} {k g:Nat} {w w':World} {l:List α} {tail:List Value}
theorem RowT.row(h:RowT T f w g l tail):RowB f w g l tail:=⟨T,rfl,rfl,h⟩
end
def RawT{α:Type}(T:TypeId)(f:α→List Value)(k:Nat)(w:World)(lo:Nat)(s:Sl)(l:List α):Prop:=w.ownsRow lo T k s.v s.len ((l.map f).flatten)∧s.len=l.length
section
variable {α:Type} {T:TypeId} {f:α→List Value} {k lo:Nat} {w w':World} {s:Sl} {l:List α}
theorem RawT.cases(h:RawT T f k w lo s l):(s=Sl.nil∧l= [])∨ ∃g tail,s.a=some ⟨g,0,none⟩∧lo≤g∧RowT T f w g l tail∧l.length≤s.cap∧s.cap≤maxLen∧((l.map f).flatten++tail).length=s.cap*k:=by
 obtain⟨ho,hl⟩:=h
 obtain⟨a,n,c⟩:=s
 simp only at hl
 rcases ho.2 with⟨hv,hn⟩|⟨g,cap,cur,hv,hg,hh,hc,hm,hcs,ht⟩
 ·simp only[Sl.v,Value.slice.injEq]at hv
  simp only at hn
  obtain⟨rfl,rfl,rfl⟩:=hv
  exact .inl ⟨rfl,List.eq_nil_of_length_eq_zero hl.symm⟩
 ·simp only[Sl.v,Value.slice.injEq]at hv
  obtain⟨rfl,_,rfl⟩:=hv
  have e:(l.map f).flatten++cur.toList.drop (n*k)=cur.toList:=by rw[←ht]; exact List.take_append_drop _ _
  refine .inr ⟨g,cur.toList.drop (n*k),rfl,hg,?_,by rw[←hl]; exact hc,hm,by rw[e,Array.length_toList]; exact hcs⟩
  unfold RowT
  rw[e,Array.toArray_toList]; exact hh
theorem RawT.flat{bytes:Nat}(h:RawT T f k w lo s l)(hb:l.length*bytes≤room):FlatO f bytes w lo s l:=by
 have hl:=h.2
 rcases h.cases with⟨rfl,rfl⟩|⟨g,tail,ha,hg,hr,hc,hm,_⟩
 ·exact⟨rfl,Nat.le_refl _,Nat.zero_le _,hb,.inl rfl⟩
 ·exact⟨hl,hc,hm,hb,.inr ⟨g,tail,ha,hg,hr.row⟩⟩
end
abbrev DepC:=ByteArray×Sl
def depC(x:DepC):List Value:=[.string x.1,x.2.v]
instance:Inhabited DepC:=⟨(⟨#[]⟩,Sl.nil)⟩
def Z6w:Enc DepC:=Zo6 2 40 depC (λ_=>True) (λ_=>rfl) (λx v hv=>by simp[depC,Sl.v]at hv; rcases hv with rfl|rfl<;>rfl)
end Go.Hal
/-
 DERIVED:THE SHELF's CONTRACTS AT THIS DUMP,IN PLAIN WORDS (tools/lay-plain.mjs out of 'YtdjiedhnoanbpaaGreatDoorLayD.lean',which tools/lay-shelf.mjs wrote):THE SAME DECLARATIONS UNDER THE SAME NAMES:'import','namespace','open','def','theorem' AND NOTHING ELSE:no command of the shelf's:FOR A HAND-IN. Each laying:the table of numbers ('.._ren') and one theorem,a field a fact of the dump's own or the kernel's comparison; each contract:ONE APPLICATION.
-/
namespace Go.Proofs
open Go.Proofs.Tryz
open Go.Shelf
def Tryz.layDp_ren:Go.Shelf.Ren:=⟨λ|6=>76|15=>114|14=>140|28=>193|29=>194|20=>219|21=>220|22=>221|23=>222|24=>223|25=>224|26=>225|27=>226|46=>293|47=>266|48=>267|49=>294|50=>295|57=>324|n=>n,λ|22=>23|24=>152|25=>153|3=>3|39=>205|0=>0|53=>281|55=>283|4=>4|46=>275|45=>274|50=>207|5=>5|9=>9|66=>329|70=>333|76=>369|77=>370|n=>n,λ|n=>n⟩
theorem Tryz.layDp:Go.Proofs.SlLaysF0.n6 prog Tryz.layDp_ren:={
 mixed:=kR
 f6:=⟨Tryz.f76.name,by decide,func76.trans kS⟩
 f14:=⟨Tryz.f140.name,by decide,func140.trans kS⟩
 f15:=func114.trans kS
 f20:=⟨Tryz.f219.name,by decide,func219.trans kS⟩
 f21:=⟨Tryz.f220.name,by decide,func220.trans kS⟩
 f22:=⟨Tryz.f221.name,by decide,func221.trans kS⟩
 f23:=⟨Tryz.f222.name,by decide,func222.trans kS⟩
 f24:=⟨Tryz.f223.name,by decide,func223.trans kS⟩
 f25:=⟨Tryz.f224.name,by decide,func224.trans kS⟩
 f26:=⟨Tryz.f225.name,by decide,func225.trans kS⟩
 f27:=⟨Tryz.f226.name,by decide,func226.trans kS⟩
 f28:=func193.trans kS
 f29:=func194.trans kS
 f46:=⟨Tryz.f293.name,by decide,func293.trans kS⟩
 f47:=func266.trans kS
 f48:=func267.trans kS
 f49:=⟨Tryz.f294.name,by decide,func294.trans kS⟩
 f50:=⟨Tryz.f295.name,by decide,func295.trans kS⟩
 f57:=⟨Tryz.f324.name,by decide,func324.trans kS⟩
 t0:=underlying0
 a0:=Tryz.isAgg0
 z0:=Tryz.sizeOf0
 v0:=Tryz.zeroValue0
 t3:=underlying3
 a3:=Tryz.isAgg3
 z3:=Tryz.sizeOf3
 v3:=Tryz.zeroValue3
 t4:=underlying4
 a4:=Tryz.isAgg4
 z4:=Tryz.sizeOf4
 v4:=Tryz.zeroValue4
 t5:=underlying5
 a5:=Tryz.isAgg5
 z5:=Tryz.sizeOf5
 v5:=Tryz.zeroValue5
 t9:=underlying9
 a9:=Tryz.isAgg9
 z9:=Tryz.sizeOf9
 v9:=Tryz.zeroValue9
 t22:=underlying23
 a22:=Tryz.isAgg23
 z22:=Tryz.sizeOf23
 v22:=Tryz.zeroValue23
 t25:=underlying153
 a25:=Tryz.isAgg153
 z25:=Tryz.sizeOf153
 v25:=Tryz.zeroValue153
 t39:=underlying205
 a39:=Tryz.isAgg205
 z39:=Tryz.sizeOf205
 v39:=Tryz.zeroValue205
 t45:=underlying274
 a45:=Tryz.isAgg274
 z45:=Tryz.sizeOf274
 v45:=Tryz.zeroValue274
 t46:=underlying275
 a46:=Tryz.isAgg275
 z46:=Tryz.sizeOf275
 v46:=Tryz.zeroValue275
 t50:=underlying207
 a50:=Tryz.isAgg207
 z50:=Tryz.sizeOf207
 v50:=Tryz.zeroValue207
 t53:=underlying281
 a53:=Tryz.isAgg281
 z53:=Tryz.sizeOf281
 v53:=Tryz.zeroValue281
 t55:=underlying283
 a55:=Tryz.isAgg283
 z55:=Tryz.sizeOf283
 v55:=Tryz.zeroValue283
 t66:=underlying329
 a66:=Tryz.isAgg329
 z66:=Tryz.sizeOf329
 v66:=Tryz.zeroValue329
 t70:=underlying333
 a70:=Tryz.isAgg333
 z70:=Tryz.sizeOf333
 v70:=Tryz.zeroValue333
 t76:=underlying369
 a76:=Tryz.isAgg369
 z76:=Tryz.sizeOf369
 v76:=Tryz.zeroValue369
 t77:=underlying370
 a77:=Tryz.isAgg370
 z77:=Tryz.sizeOf370
 v77:=Tryz.zeroValue370}
end Go.Proofs
/-
 DERIVED:THE SHELF's CONTRACTS AT THIS DUMP,IN PLAIN WORDS (tools/lay-plain.mjs out of 'YtdjiedhnoanbpaaGreatDoorLay6.lean',which tools/lay-shelf.mjs wrote):THE SAME DECLARATIONS UNDER THE SAME NAMES:'import','namespace','open','def','theorem' AND NOTHING ELSE:no command of the shelf's:FOR A HAND-IN. Each laying:the table of numbers ('.._ren') and one theorem,a field a fact of the dump's own or the kernel's comparison; each contract:ONE APPLICATION.
-/
namespace Go.Proofs
open Go.Proofs.Tryz
open Go.Shelf
def Tryz.laySn_ren:Go.Shelf.Ren:=⟨λ|6=>109|15=>114|14=>183|28=>193|29=>194|20=>257|21=>258|22=>259|23=>260|24=>261|25=>262|26=>263|27=>264|46=>310|47=>266|48=>267|49=>311|50=>312|57=>343|n=>n,λ|22=>132|24=>3|25=>202|3=>3|39=>205|0=>0|53=>281|55=>283|4=>4|46=>275|45=>274|50=>207|5=>5|9=>9|66=>329|70=>333|76=>369|77=>370|n=>n,λ|n=>n⟩
theorem Tryz.laySn:Go.Proofs.SlLaysF.n6 prog Tryz.laySn_ren:={
 mixed:=kR
 f6:=⟨Tryz.f109.name,by decide,func109.trans kS⟩
 f14:=⟨Tryz.f183.name,by decide,func183.trans kS⟩
 f15:=func114.trans kS
 f20:=⟨Tryz.f257.name,by decide,func257.trans kS⟩
 f21:=⟨Tryz.f258.name,by decide,func258.trans kS⟩
 f22:=⟨Tryz.f259.name,by decide,func259.trans kS⟩
 f23:=⟨Tryz.f260.name,by decide,func260.trans kS⟩
 f24:=⟨Tryz.f261.name,by decide,func261.trans kS⟩
 f25:=⟨Tryz.f262.name,by decide,func262.trans kS⟩
 f26:=⟨Tryz.f263.name,by decide,func263.trans kS⟩
 f27:=⟨Tryz.f264.name,by decide,func264.trans kS⟩
 f28:=func193.trans kS
 f29:=func194.trans kS
 f46:=⟨Tryz.f310.name,by decide,func310.trans kS⟩
 f47:=func266.trans kS
 f48:=func267.trans kS
 f49:=⟨Tryz.f311.name,by decide,func311.trans kS⟩
 f50:=⟨Tryz.f312.name,by decide,func312.trans kS⟩
 f57:=⟨Tryz.f343.name,by decide,func343.trans kS⟩
 t0:=underlying0
 a0:=Tryz.isAgg0
 z0:=Tryz.sizeOf0
 v0:=Tryz.zeroValue0
 t3:=underlying3
 a3:=Tryz.isAgg3
 z3:=Tryz.sizeOf3
 v3:=Tryz.zeroValue3
 t4:=underlying4
 a4:=Tryz.isAgg4
 z4:=Tryz.sizeOf4
 v4:=Tryz.zeroValue4
 t5:=underlying5
 a5:=Tryz.isAgg5
 z5:=Tryz.sizeOf5
 v5:=Tryz.zeroValue5
 t9:=underlying9
 a9:=Tryz.isAgg9
 z9:=Tryz.sizeOf9
 v9:=Tryz.zeroValue9
 t22:=underlying132
 a22:=Tryz.isAgg132
 z22:=Tryz.sizeOf132
 v22:=Tryz.zeroValue132
 a24:=Tryz.isAgg3
 z24:=Tryz.sizeOf3
 t25:=underlying202
 a25:=Tryz.isAgg202
 z25:=Tryz.sizeOf202
 v25:=Tryz.zeroValue202
 t39:=underlying205
 a39:=Tryz.isAgg205
 z39:=Tryz.sizeOf205
 v39:=Tryz.zeroValue205
 t45:=underlying274
 a45:=Tryz.isAgg274
 z45:=Tryz.sizeOf274
 v45:=Tryz.zeroValue274
 t46:=underlying275
 a46:=Tryz.isAgg275
 z46:=Tryz.sizeOf275
 v46:=Tryz.zeroValue275
 t50:=underlying207
 a50:=Tryz.isAgg207
 z50:=Tryz.sizeOf207
 v50:=Tryz.zeroValue207
 t53:=underlying281
 a53:=Tryz.isAgg281
 z53:=Tryz.sizeOf281
 v53:=Tryz.zeroValue281
 t55:=underlying283
 a55:=Tryz.isAgg283
 z55:=Tryz.sizeOf283
 v55:=Tryz.zeroValue283
 t66:=underlying329
 a66:=Tryz.isAgg329
 z66:=Tryz.sizeOf329
 v66:=Tryz.zeroValue329
 t70:=underlying333
 a70:=Tryz.isAgg333
 z70:=Tryz.sizeOf333
 v70:=Tryz.zeroValue333
 t76:=underlying369
 a76:=Tryz.isAgg369
 z76:=Tryz.sizeOf369
 v76:=Tryz.zeroValue369
 t77:=underlying370
 a77:=Tryz.isAgg370
 z77:=Tryz.sizeOf370
 v77:=Tryz.zeroValue370}
def Tryz.layFi_ren:Go.Shelf.Ren:=⟨λ|6=>58|15=>114|14=>113|28=>193|29=>194|20=>185|21=>186|22=>187|23=>188|24=>189|25=>190|26=>191|27=>192|46=>265|47=>266|48=>267|49=>268|50=>269|57=>313|n=>n,λ|22=>91|24=>128|25=>135|3=>3|39=>205|0=>0|53=>281|55=>283|4=>4|46=>275|45=>274|50=>207|5=>5|9=>9|66=>329|70=>333|76=>369|77=>370|n=>n,λ|n=>n⟩
theorem Tryz.layFi:Go.Proofs.SlLaysF0.n6 prog Tryz.layFi_ren:={
 mixed:=kR
 f6:=⟨Tryz.f58.name,by decide,func58.trans kS⟩
 f14:=⟨Tryz.f113.name,by decide,func113.trans kS⟩
 f15:=func114.trans kS
 f20:=⟨Tryz.f185.name,by decide,func185.trans kS⟩
 f21:=⟨Tryz.f186.name,by decide,func186.trans kS⟩
 f22:=⟨Tryz.f187.name,by decide,func187.trans kS⟩
 f23:=⟨Tryz.f188.name,by decide,func188.trans kS⟩
 f24:=⟨Tryz.f189.name,by decide,func189.trans kS⟩
 f25:=⟨Tryz.f190.name,by decide,func190.trans kS⟩
 f26:=⟨Tryz.f191.name,by decide,func191.trans kS⟩
 f27:=⟨Tryz.f192.name,by decide,func192.trans kS⟩
 f28:=func193.trans kS
 f29:=func194.trans kS
 f46:=⟨Tryz.f265.name,by decide,func265.trans kS⟩
 f47:=func266.trans kS
 f48:=func267.trans kS
 f49:=⟨Tryz.f268.name,by decide,func268.trans kS⟩
 f50:=⟨Tryz.f269.name,by decide,func269.trans kS⟩
 f57:=⟨Tryz.f313.name,by decide,func313.trans kS⟩
 t0:=underlying0
 a0:=Tryz.isAgg0
 z0:=Tryz.sizeOf0
 v0:=Tryz.zeroValue0
 t3:=underlying3
 a3:=Tryz.isAgg3
 z3:=Tryz.sizeOf3
 v3:=Tryz.zeroValue3
 t4:=underlying4
 a4:=Tryz.isAgg4
 z4:=Tryz.sizeOf4
 v4:=Tryz.zeroValue4
 t5:=underlying5
 a5:=Tryz.isAgg5
 z5:=Tryz.sizeOf5
 v5:=Tryz.zeroValue5
 t9:=underlying9
 a9:=Tryz.isAgg9
 z9:=Tryz.sizeOf9
 v9:=Tryz.zeroValue9
 t22:=underlying91
 a22:=Tryz.isAgg91
 z22:=Tryz.sizeOf91
 v22:=Tryz.zeroValue91
 t25:=underlying135
 a25:=Tryz.isAgg135
 z25:=Tryz.sizeOf135
 v25:=Tryz.zeroValue135
 t39:=underlying205
 a39:=Tryz.isAgg205
 z39:=Tryz.sizeOf205
 v39:=Tryz.zeroValue205
 t45:=underlying274
 a45:=Tryz.isAgg274
 z45:=Tryz.sizeOf274
 v45:=Tryz.zeroValue274
 t46:=underlying275
 a46:=Tryz.isAgg275
 z46:=Tryz.sizeOf275
 v46:=Tryz.zeroValue275
 t50:=underlying207
 a50:=Tryz.isAgg207
 z50:=Tryz.sizeOf207
 v50:=Tryz.zeroValue207
 t53:=underlying281
 a53:=Tryz.isAgg281
 z53:=Tryz.sizeOf281
 v53:=Tryz.zeroValue281
 t55:=underlying283
 a55:=Tryz.isAgg283
 z55:=Tryz.sizeOf283
 v55:=Tryz.zeroValue283
 t66:=underlying329
 a66:=Tryz.isAgg329
 z66:=Tryz.sizeOf329
 v66:=Tryz.zeroValue329
 t70:=underlying333
 a70:=Tryz.isAgg333
 z70:=Tryz.sizeOf333
 v70:=Tryz.zeroValue333
 t76:=underlying369
 a76:=Tryz.isAgg369
 z76:=Tryz.sizeOf369
 v76:=Tryz.zeroValue369
 t77:=underlying370
 a77:=Tryz.isAgg370
 z77:=Tryz.sizeOf370
 v77:=Tryz.zeroValue370}
def Tryz.layDi_ren:Go.Shelf.Ren:=⟨λ|6=>70|15=>114|14=>137|28=>193|29=>194|20=>210|21=>211|22=>212|23=>213|24=>214|25=>215|26=>216|27=>217|46=>290|47=>266|48=>267|49=>291|50=>292|57=>323|n=>n,λ|22=>53|24=>104|25=>149|3=>3|39=>205|0=>0|53=>281|55=>283|4=>4|46=>275|45=>274|50=>207|5=>5|9=>9|66=>329|70=>333|76=>369|77=>370|n=>n,λ|n=>n⟩
theorem Tryz.layDi:Go.Proofs.SlLaysF0.n6 prog Tryz.layDi_ren:={
 mixed:=kR
 f6:=⟨Tryz.f70.name,by decide,func70.trans kS⟩
 f14:=⟨Tryz.f137.name,by decide,func137.trans kS⟩
 f15:=func114.trans kS
 f20:=⟨Tryz.f210.name,by decide,func210.trans kS⟩
 f21:=⟨Tryz.f211.name,by decide,func211.trans kS⟩
 f22:=⟨Tryz.f212.name,by decide,func212.trans kS⟩
 f23:=⟨Tryz.f213.name,by decide,func213.trans kS⟩
 f24:=⟨Tryz.f214.name,by decide,func214.trans kS⟩
 f25:=⟨Tryz.f215.name,by decide,func215.trans kS⟩
 f26:=⟨Tryz.f216.name,by decide,func216.trans kS⟩
 f27:=⟨Tryz.f217.name,by decide,func217.trans kS⟩
 f28:=func193.trans kS
 f29:=func194.trans kS
 f46:=⟨Tryz.f290.name,by decide,func290.trans kS⟩
 f47:=func266.trans kS
 f48:=func267.trans kS
 f49:=⟨Tryz.f291.name,by decide,func291.trans kS⟩
 f50:=⟨Tryz.f292.name,by decide,func292.trans kS⟩
 f57:=⟨Tryz.f323.name,by decide,func323.trans kS⟩
 t0:=underlying0
 a0:=Tryz.isAgg0
 z0:=Tryz.sizeOf0
 v0:=Tryz.zeroValue0
 t3:=underlying3
 a3:=Tryz.isAgg3
 z3:=Tryz.sizeOf3
 v3:=Tryz.zeroValue3
 t4:=underlying4
 a4:=Tryz.isAgg4
 z4:=Tryz.sizeOf4
 v4:=Tryz.zeroValue4
 t5:=underlying5
 a5:=Tryz.isAgg5
 z5:=Tryz.sizeOf5
 v5:=Tryz.zeroValue5
 t9:=underlying9
 a9:=Tryz.isAgg9
 z9:=Tryz.sizeOf9
 v9:=Tryz.zeroValue9
 t22:=underlying53
 a22:=Tryz.isAgg53
 z22:=Tryz.sizeOf53
 v22:=Tryz.zeroValue53
 t25:=underlying149
 a25:=Tryz.isAgg149
 z25:=Tryz.sizeOf149
 v25:=Tryz.zeroValue149
 t39:=underlying205
 a39:=Tryz.isAgg205
 z39:=Tryz.sizeOf205
 v39:=Tryz.zeroValue205
 t45:=underlying274
 a45:=Tryz.isAgg274
 z45:=Tryz.sizeOf274
 v45:=Tryz.zeroValue274
 t46:=underlying275
 a46:=Tryz.isAgg275
 z46:=Tryz.sizeOf275
 v46:=Tryz.zeroValue275
 t50:=underlying207
 a50:=Tryz.isAgg207
 z50:=Tryz.sizeOf207
 v50:=Tryz.zeroValue207
 t53:=underlying281
 a53:=Tryz.isAgg281
 z53:=Tryz.sizeOf281
 v53:=Tryz.zeroValue281
 t55:=underlying283
 a55:=Tryz.isAgg283
 z55:=Tryz.sizeOf283
 v55:=Tryz.zeroValue283
 t66:=underlying329
 a66:=Tryz.isAgg329
 z66:=Tryz.sizeOf329
 v66:=Tryz.zeroValue329
 t70:=underlying333
 a70:=Tryz.isAgg333
 z70:=Tryz.sizeOf333
 v70:=Tryz.zeroValue333
 t76:=underlying369
 a76:=Tryz.isAgg369
 z76:=Tryz.sizeOf369
 v76:=Tryz.zeroValue369
 t77:=underlying370
 a77:=Tryz.isAgg370
 z77:=Tryz.sizeOf370
 v77:=Tryz.zeroValue370}
def Tryz.laySnn_ren:Go.Shelf.Ren:=⟨λ|6=>109|15=>114|14=>183|28=>193|29=>194|20=>257|21=>258|22=>259|23=>260|24=>261|25=>262|26=>263|27=>264|46=>310|47=>266|48=>267|49=>311|50=>312|57=>343|n=>n,λ|22=>132|24=>3|25=>202|3=>3|39=>205|0=>0|53=>281|55=>283|4=>4|46=>275|45=>274|50=>207|5=>5|9=>9|66=>329|70=>333|76=>369|77=>370|n=>n,λ|n=>n⟩
theorem Tryz.laySnn:Go.Proofs.SlLaysF0.n6 prog Tryz.laySnn_ren:={
 mixed:=kR
 f6:=⟨Tryz.f109.name,by decide,func109.trans kS⟩
 f14:=⟨Tryz.f183.name,by decide,func183.trans kS⟩
 f15:=func114.trans kS
 f20:=⟨Tryz.f257.name,by decide,func257.trans kS⟩
 f21:=⟨Tryz.f258.name,by decide,func258.trans kS⟩
 f22:=⟨Tryz.f259.name,by decide,func259.trans kS⟩
 f23:=⟨Tryz.f260.name,by decide,func260.trans kS⟩
 f24:=⟨Tryz.f261.name,by decide,func261.trans kS⟩
 f25:=⟨Tryz.f262.name,by decide,func262.trans kS⟩
 f26:=⟨Tryz.f263.name,by decide,func263.trans kS⟩
 f27:=⟨Tryz.f264.name,by decide,func264.trans kS⟩
 f28:=func193.trans kS
 f29:=func194.trans kS
 f46:=⟨Tryz.f310.name,by decide,func310.trans kS⟩
 f47:=func266.trans kS
 f48:=func267.trans kS
 f49:=⟨Tryz.f311.name,by decide,func311.trans kS⟩
 f50:=⟨Tryz.f312.name,by decide,func312.trans kS⟩
 f57:=⟨Tryz.f343.name,by decide,func343.trans kS⟩
 t0:=underlying0
 a0:=Tryz.isAgg0
 z0:=Tryz.sizeOf0
 v0:=Tryz.zeroValue0
 t3:=underlying3
 a3:=Tryz.isAgg3
 z3:=Tryz.sizeOf3
 v3:=Tryz.zeroValue3
 t4:=underlying4
 a4:=Tryz.isAgg4
 z4:=Tryz.sizeOf4
 v4:=Tryz.zeroValue4
 t5:=underlying5
 a5:=Tryz.isAgg5
 z5:=Tryz.sizeOf5
 v5:=Tryz.zeroValue5
 t9:=underlying9
 a9:=Tryz.isAgg9
 z9:=Tryz.sizeOf9
 v9:=Tryz.zeroValue9
 t22:=underlying132
 a22:=Tryz.isAgg132
 z22:=Tryz.sizeOf132
 v22:=Tryz.zeroValue132
 t25:=underlying202
 a25:=Tryz.isAgg202
 z25:=Tryz.sizeOf202
 v25:=Tryz.zeroValue202
 t39:=underlying205
 a39:=Tryz.isAgg205
 z39:=Tryz.sizeOf205
 v39:=Tryz.zeroValue205
 t45:=underlying274
 a45:=Tryz.isAgg274
 z45:=Tryz.sizeOf274
 v45:=Tryz.zeroValue274
 t46:=underlying275
 a46:=Tryz.isAgg275
 z46:=Tryz.sizeOf275
 v46:=Tryz.zeroValue275
 t50:=underlying207
 a50:=Tryz.isAgg207
 z50:=Tryz.sizeOf207
 v50:=Tryz.zeroValue207
 t53:=underlying281
 a53:=Tryz.isAgg281
 z53:=Tryz.sizeOf281
 v53:=Tryz.zeroValue281
 t55:=underlying283
 a55:=Tryz.isAgg283
 z55:=Tryz.sizeOf283
 v55:=Tryz.zeroValue283
 t66:=underlying329
 a66:=Tryz.isAgg329
 z66:=Tryz.sizeOf329
 v66:=Tryz.zeroValue329
 t70:=underlying333
 a70:=Tryz.isAgg333
 z70:=Tryz.sizeOf333
 v70:=Tryz.zeroValue333
 t76:=underlying369
 a76:=Tryz.isAgg369
 z76:=Tryz.sizeOf369
 v76:=Tryz.zeroValue369
 t77:=underlying370
 a77:=Tryz.isAgg370
 z77:=Tryz.sizeOf370
 v77:=Tryz.zeroValue370}
end Go.Proofs
namespace Go.Hal
open Go.Proofs.Tryz
open Go Go.RowKit Go.Proofs Go.Shelf Go.Lib Go.Sort
theorem newS.ownL{α:Type}{E:Enc α}{f:α→List Value}{l:List α}{w:World}{cs:List Value}{t:TypeId}{k:Addr→World→Prop}(hE: ∀x∈l,∀w S,E.rep w S x (f x))(hcs:cs=(l.map f).flatten)(hl:l.length≤1000)
  (h: ∀a w',Ext w w'→OwnS E t w' w.heap.size None' ⟨some a,l.length,l.length⟩ l→a.block=w.heap.size→k a w'):newS w cs t k:=λa w' ha hw=>by
 subst ha hw hcs
 have hlen: ∀cs∈l.map f,cs.length=E.n:=λcs hc=>by
  obtain⟨x,hx,rfl⟩:=List.mem_map.1 hc
  exact E.len (hE x hx w None')
 have hfl:((l.map f).flatten).length=l.length*E.n:=by
  have: ∀(m:List (List Value)),(∀c∈m,c.length=E.n)→m.flatten.length=m.length*E.n:=by
   intro m
   induction m with
   |nil=>intro _; simp
   |cons c m ih=>intro hm; rw[List.flatten_cons,List.length_append,hm c (.head _),ih λx hx=>hm x (.tail _ hx),List.length_cons,Nat.add_mul]; omega
  rw[this _ hlen,List.length_map]
 refine h _ _ (Ext.alloc _ _) ⟨⟨l.map f,⟨hfl,.inr ⟨w.heap.size,l.length,_,rfl,Nat.le_refl _,heap_alloc_new w _,Nat.le_refl _,by rw[Zb]; omega,by simpa using hfl,?_⟩⟩,by simp,λi x hx=>?_⟩,rfl,λ_ h=>h.elim,λ_ _ h=>h.elim⟩ rfl
 ·rw[List.toList_toArray,List.take_of_length_le (Nat.le_of_eq hfl)]
 ·rw[List.getElem?_map,hx]
  exact⟨_,rfl,E.keep (hE x (List.mem_of_getElem? hx) w None') ((Ext.alloc w _).keep _)⟩
end Go.Hal
namespace Go.Hal
open Go.Proofs.Tryz
end Go.Hal
namespace Go.Hal
open Go.Proofs.Tryz
end Go.Hal
namespace Go.Hal
open Go.Proofs.Tryz
open Go Go.RowKit Go.Proofs Go.Shelf Go.Sort
def Z72(w:World)(S:Nat→Prop)(p:DepC×Dep):Prop:=p.1.1=p.2.name∧Str p.2.name∧SlR spanE w S p.1.2 p.2.range
theorem flatDeps{w:World}{lo:Nat}{S:Nat→Prop}{s:Sl}{z:List (DepC×Dep)}(h:FlatO depC 40 w lo s (z.map Prod.fst))(hz: ∀p∈z,Z72 w S p):SlR depE w (λb=>S b∨(lo≤b∧b<w.heap.size)) s (z.map Prod.snd):=by
 obtain⟨h1,h2,h3,h4,h5⟩:=h
 rw[List.length_map]at h1 h2 h4
 refine⟨by rw[List.length_map]; exact h1,by rw[List.length_map]; exact h2,h3,by rw[List.length_map]; exact h4,?_⟩
 rcases h5 with h5|⟨g,tail,ha,hg,hr⟩
 ·rw[List.map_eq_nil_iff]at h5; subst h5; exact .inl rfl
 ·refine .inr ⟨_,ha,.inr ⟨hg,hr.lt⟩,λi x hx=>?_⟩
  rw[List.getElem?_map]at hx
  cases hi:z[i]? with
  |none=>rw[hi]at hx; cases hx
  |some p=>
   rw[hi]at hx
   obtain rfl:p.2=x:=Option.some.inj hx
   obtain⟨e1,e2,e3⟩:=hz p (List.mem_of_getElem? hi)
   have hp:(z.map Prod.fst)[i]? =some p.1:=by rw[List.getElem?_map,hi]; rfl
   exact⟨depC p.1,⟨e2,p.1.2,by rw[←e1]; rfl,e3.mono λb hb=>.inl hb⟩,RowB.ld' (f:=depC) (k:=2) (λ_=>rfl) hr hp⟩
theorem Z42: ∀w,(isAgg 152).run prog w= .ok true w:=λw=>by kernel_rfl
theorem Z22: ∀w,(Go.sizeOf 152).run prog w= .ok 2 w:=λw=>by kernel_rfl
theorem Z3h{a b:DepC}{w:World}{R:Int→World→Prop}(hR: ∀w',Gr w w'→R (cmpS a.1 b.1) w'):SE.Zgi a.1 a.2 b.1 b.2 w R:=by
 unfold SE.Zgi
 refine newS.gr λ_ w1 x1 hb=>newS.gr λ_ w2 x2 hb2=>⟨_,Gr.at0 hb x2 rfl,_,Gr.at0 hb2 (Gr.refl _) rfl,Zja ⟨_,rfl,hR _ (x1.trans x2)⟩⟩
theorem Ztz:Zfv prog 197:=enters_of func197 kR rfl
theorem Zxj{w:World}{lo:Nat}{s:Sl}{z:List (DepC×Dep)}{K:Value→World→Prop}(h:FlatO depC 40 w lo s (z.map Prod.fst))(hlo:lo≤w.heap.size)
  (hK: ∀(z':List (DepC×Dep)) w',z'.Perm z→z'.Pairwise (λx y=>¬cmpS y.1.1 x.1.1<0)→Below lo w w'→FlatO depC 40 w' lo s (z'.map Prod.fst)→K (.tuple #[]) w'):
  callS prog 76 [Sl.v s,.func (.func 197) #[] #[]] w K:=by
 obtain⟨h1,h2,h3,h4,h5⟩:=h
 rw[List.length_map]at h1 h2 h4
 obtain⟨a,n,c⟩:=s
 simp only at h1 h2 h3 h5
 subst h1
 rcases h5 with h5|⟨g,tail,ha,hg,hr⟩
 ·rw[List.map_eq_nil_iff]at h5; subst h5
  refine(AnyF.slices_SortFunc_none Tryz.layDp a c _ w).mono λe w' ⟨he,hw⟩=>⟨_,he,?_⟩
  subst hw
  exact hK [] _ (List.Perm.refl _) .nil (Below.refl _ _) ⟨rfl,h2,h3,h4,.inl rfl⟩
 ·subst ha
  have hO:=Zgb (α:=DepC×Dep) (·.1.1)
  have hr':RowB (λp:DepC×Dep=>depC p.1) w g z tail:=by
   unfold RowB at*
   rw[List.map_map]at hr; exact hr
  haveI:Inhabited (DepC×Dep):=⟨((⟨#[]⟩,Sl.nil),⟨⟨#[]⟩,[]⟩)⟩
  refine Zf7 Tryz.layDp (k:=2) Z42 Z22 (f:=λp:DepC×Dep=>depC p.1) (λ_=>rfl) (λx v hv=>by simp[depC,Sl.v]at hv; rcases hv with rfl|rfl<;>rfl) (λa b=>cmpS a.1.1 b.1.1) (Zjb hO.flip hO.trans) 197 #[] Ztz (λw0 x y hb _=> ?_) hr' (by unfold room at h4; omega) rfl λl' w' hp hs b hr2=>?_
  ·have h:=SE.Zgi.go (k:=λv w'=>v= .int .i64 (cmpS x.1.1 y.1.1)∧Gr w0 w') (Z3h (a:=x.1) (b:=y.1) (w:=w0) λw' h=>⟨rfl,h⟩)
   exact Calls.mono h λe w' ⟨v,he,hv,hg⟩=>⟨by rw[he,hv],hg⟩
  ·have hpl:=hp.length_eq
   refine hK l' w' hp hs (b.below hlo hg) ⟨by rw[List.length_map]; exact hpl.symm,by rw[List.length_map,hpl]; exact h2,h3,by rw[List.length_map,hpl]; exact h4,.inr ⟨g,tail,rfl,hg,?_⟩⟩
   unfold RowB at*
   rw[List.map_map]; exact hr2
theorem OwnS.rawT{w:World}{lo:Nat}{S:Nat→Prop}{s:Sl}{l:List DepC}(h:OwnS Z6w 152 w lo S s l):RawT 152 depC 2 w lo s l:=by
 obtain⟨css,ho,hl,hr⟩:=h.row
 have e:css=l.map depC:=by
  apply List.ext_getElem (by simp[hl])
  intro i h1 h2
  obtain⟨cs,k1,k2⟩:=hr i (l[i]'(by simpa using h2)) (List.getElem?_eq_getElem (by simpa using h2))
  rw[List.getElem?_eq_getElem h1,Option.some.injEq]at k1
  rw[k1,List.getElem_map]; exact k2.1
 rw[e]at ho
 exact⟨ho,h.len⟩
end Go.Hal
namespace Go.Hal
open Go.Proofs.Tryz
abbrev Path:=List ByteArray
structure Dr where
 path:Path
 node:Nat
structure Stl where
 src:Nat
 label:ByteArray
 dst:Nat
 deriving DecidableEq
structure PlS where
 dirs:List Dr
 done:List Stl
def Zn1(ds:List Dr)(p:Path):Option Nat:=ds.findIdx? λd=>decide (d.path=p)
def Z7c(ds:List Dr)(p:Path)(x:ByteArray):Nat→Option Nat
 |0=>Zn1 ds (p.take 0++ [x])
 |k+1=>match Zn1 ds (p.take (k+1)++ [x])with
  |some i=>some i
  |none=>Z7c ds p x k
def Z31(ds:List Dr)(i:Nat):Path:=match ds[i]? with
 |some d=>d.path
 |none=>[]
structure PlI where
 g:List Node
 like:Path→Nat→Bool
 tlen:Path→Nat
 maxP:Int
 maxD:Int
def Zwi(g:List Node)(i:Nat):List Pin:=match g[i]? with
 |some x=>x.ctx
 |none=>[]
def Z44(g:List Node)(at_:Nat)(e:Edge):Nat:=if(Zwi g at_).any (isN e.name)then 1 else if(Zwi g e.to.toNat).length=0 then 2 else 3
def Zss(ds:List Dr)(i:Nat):Nat:=match ds[i]? with
 |some d=>d.node
 |none=>0
end Go.Hal
namespace Go.Hal
open Go.Proofs.Tryz
theorem Zzo{ds:List Dr}{i:Nat}{d:Dr}(h:ds[i]? =some d):Zss ds i=d.node:=by unfold Zss; rw[h]
end Go.Hal
namespace Go.Hal
open Go.Proofs.Tryz
section
variable {s:PlS} {p:Path} {x:ByteArray} {like:Nat→Bool}
end
end Go.Hal
namespace Go.Hal
open Go.Proofs.Tryz
def modsT:List UInt8:=[47,109,111,100,117,108,101,115,47]
def Zsy(p:Path):List UInt8:=p.flatMap λx=>modsT++x.toList
def Zgy(p:Path):Bool:=p.all Zap
def Znb(p:Path):List UInt8:=if p= []then [47]else if Zgy p then Zsy p else []
def txtD(d:Dr):ByteArray:=B (Znb d.path)
def cDr(a b:Dr):Int:=cmpS (txtD a) (txtD b)
theorem cDr_ord:Ord3 cDr:=Zgb txtD
end Go.Hal
namespace Go.Hal
open Go.Proofs.Tryz
structure Dir where
 path:Path
 pack:Pack
 node:Int
 deriving DecidableEq
def Ze1:Pack:=⟨⟨#[]⟩,⟨0,0,0⟩,[],[],[]⟩
def drOf(d:Dir):Dr:=⟨d.path,d.node.toNat⟩
def Z8c(T:List Dir)(i:Nat)(x:ByteArray):Option Nat:=if Zap x then Z7c (T.map drOf) (Z31 (T.map drOf) i) x (Z31 (T.map drOf) i).length else none
structure Stt where
 m:Mani
 g:List Node
 T:List Dir
 pruned:Bool
end Go.Hal
namespace Go.Hal
open Go.Proofs.Tryz
open Go Go.RowKit Go.Proofs Go.Shelf
def dirE:Enc Dir where
 n:=9
 bytes:=144
 rep:=λw S x cs=>Str x.pack.name∧ ∃ps d e o:Sl,cs= [ps.v,.string x.pack.name,.int .i64 x.pack.v.ma,.int .i64 x.pack.v.mi,.int .i64 x.pack.v.pa,d.v,e.v,o.v,.int .i64 x.node]∧SlR strE w S ps x.path∧SlR depE w S d x.pack.deps∧SlR depE w S e x.pack.peers∧SlR depE w S o x.pack.opt
 len:=λ⟨_,ps,d,e,o,h,_⟩=>by rw[h]; rfl
 one:=λ⟨_,ps,d,e,o,h,_⟩ v hv=>by rw[h]at hv; simp[Sl.v]at hv; rcases hv with rfl|rfl|rfl|rfl|rfl|rfl|rfl|rfl|rfl<;>rfl
 mono:=λ⟨h0,ps,d,e,o,h,a,b,c,k⟩ hs=>⟨h0,ps,d,e,o,h,a.mono hs,b.mono hs,c.mono hs,k.mono hs⟩
 keep:=λ⟨h0,ps,d,e,o,h,a,b,c,k⟩ hk=>⟨h0,ps,d,e,o,h,a.keep hk,b.keep hk,c.keep hk,k.keep hk⟩
theorem dirEl{w:World}{S:Nat→Prop}{s:Sl}{l:List Dir}(h:SlR dirE w S s l){n:Nat}(hn:n<l.length):
  ∃ad ps d e o,s.a=some ad∧S ad.block∧Str l[n].pack.name∧SlR strE w S ps l[n].path∧SlR depE w S d l[n].pack.deps∧SlR depE w S e l[n].pack.peers∧SlR depE w S o l[n].pack.opt∧
   ∀w',Ext w w'→ldc w' (ad.add (n*9)) [ps.v,.string l[n].pack.name,.int .i64 l[n].pack.v.ma,.int .i64 l[n].pack.v.mi,.int .i64 l[n].pack.v.pa,d.v,e.v,o.v,.int .i64 l[n].node]:=by
 obtain⟨ad,cs,h1,h2,⟨h0,ps,d,e,o,rfl,a,b,c,k⟩,h4⟩:=h.el hn
 exact⟨ad,ps,d,e,o,h1,h2,h0,a,b,c,k,h4⟩
theorem Z73:ApT prog 53 104 9 144:=Zhe (z:=.agg #[.slice none 0 0,.string ⟨#[]⟩,.int .i64 0,.int .i64 0,.int .i64 0,.slice none 0 0,.slice none 0 0,.slice none 0 0,.int .i64 0]) kR kR rfl dC
theorem Zkz{w:World}{S:Nat→Prop}:dirE.rep w S ⟨[],Ze1,0⟩ [.slice none 0 0,.string ⟨#[]⟩,.int .i64 0,.int .i64 0,.int .i64 0,.slice none 0 0,.slice none 0 0,.slice none 0 0,.int .i64 0]:=
 ⟨by unfold Str Ze1; rw[Zb]; decide,Sl.nil,Sl.nil,Sl.nil,Sl.nil,rfl,SlR.nil trivial,SlR.nil trivial,SlR.nil trivial,SlR.nil trivial⟩
end Go.Hal
namespace Go.Hal
open Go.Proofs.Tryz
open Go Go.RowKit Go.Proofs Go.MapKept
end Go.Hal
/-
 DERIVED:THE SHELF's CONTRACTS AT THIS DUMP,IN PLAIN WORDS (tools/lay-plain.mjs out of 'YtdjiedhnoanbpaaGreatDoorLay5.lean',which tools/lay-shelf.mjs wrote):THE SAME DECLARATIONS UNDER THE SAME NAMES:'import','namespace','open','def','theorem' AND NOTHING ELSE:no command of the shelf's:FOR A HAND-IN. Each laying:the table of numbers ('.._ren') and one theorem,a field a fact of the dump's own or the kernel's comparison; each contract:ONE APPLICATION.
-/
namespace Go.Proofs
open Go.Proofs.Tryz
open Go.Shelf
end Go.Proofs
namespace Go.Hal
open Go.Proofs.Tryz
open Go Go.RowKit Go.Proofs Go.Shelf Go.Lib Go.Sort
section
variable {w0 w w':World} {a:Addr} {r:Nat} {s so:Sl} {out:List Nat}
end
end Go.Hal
namespace Go.Hal
open Go.Proofs.Tryz
open Go Go.RowKit Go.Proofs Go.MapKept
end Go.Hal
namespace Go.Hal
open Go.Proofs.Tryz
open Go Go.RowKit Go.Proofs Go.Shelf
section
variable {w0 w w':World} {r:Nat} {so:Sl} {out:List Pin}
end
end Go.Hal
namespace Go.Hal
open Go.Proofs.Tryz
section
variable {q:Quest}
end
end Go.Hal
namespace Go.Hal
open Go.Proofs.Tryz
section
variable {q:Quest} {g:List Node}
end
end Go.Hal
namespace Go.Hal
open Go.Proofs.Tryz
end Go.Hal
namespace Go.Hal
open Go.Proofs.Tryz
open Go Go.RowKit Go.Proofs Go.Shelf
theorem Zvp{w:World}{S:Nat→Prop}{s:Sl}{l:List Pin}(h:SlR pinE w S s l): ∀q∈l,Str q.name:=λq hq=>by
 obtain⟨n,hn,rfl⟩:=List.mem_iff_getElem.1 hq
 obtain⟨_,_,_,h1,_⟩:=Zhz h hn
 exact h1
theorem OwnS.pins{w:World}{lo:Nat}{T:TypeId}{s:Sl}{l:List Pin}(h:OwnS pinE T w lo None' s l)(hl:l.length≤1000000000000):SlR pinE w (λb=>lo≤b) s l:=h.readF dC (by show l.length*40≤room; unfold room; omega)
theorem Z5u{w:World}{S:Nat→Prop}{s:Sl}{l:List ByteArray}(h:SlR strE w S s l){n:Nat}(hn:n<l.length): ∃ad,s.a=some ad∧Str l[n]∧ ∀w',Ext w w'→ldc w' (ad.add (n*1)) [.string l[n]]:=by
 obtain⟨ad,cs,h1,h2,⟨rfl,h3⟩,h4⟩:=h.el hn
 exact⟨ad,h1,h3,h4⟩
def Zyz(T:List Dir)(p:Path):Int:=match Zn1 (T.map drOf) p with
 |some i=>(i:Int)
 |none=>-1
theorem Zy1{T:List Dir}{p:Path}{i:Nat}(hi:i<T.length)(h:T[i].path=p)(h0: ∀j (hj:j<T.length),j<i→T[j].path≠p):Zn1 (T.map drOf) p=some i:=by
 unfold Zn1
 rw[List.findIdx?_eq_some_iff_getElem]
 refine⟨by rw[List.length_map]; exact hi,by simpa[drOf]using h,λj hj=>?_⟩
 simpa[drOf]using h0 j oM hj
theorem Zwr{T:List Dir}{p:Path}(h: ∀j (hj:j<T.length),T[j].path≠p):Zn1 (T.map drOf) p=none:=by
 unfold Zn1
 rw[List.findIdx?_eq_none_iff]
 intro x hx
 obtain⟨d,hd,rfl⟩:=List.mem_map.1 hx
 obtain⟨j,hj,rfl⟩:=List.mem_iff_getElem.1 hd
 exact decide_eq_false (h j hj)
theorem Zr5{s t:Sl}{a b:List ByteArray}{S T:Nat→Prop}{w:World}{R:Bool→World→Prop}(hs:SlR strE w S s a)(ht:SlR strE w T t b)(hR: ∀w',Ext w w'→R (decide (a=b)) w'):SE.Zau s t w R:=by
 unfold SE.Zau
 have h1:=hs.len
 have h2:=ht.len
 refine⟨λh=>?_,λh=>?_⟩
 ·have: ¬a=b:=λe=>by subst e; omega
  have h3:=hR w xR
  rw[decide_eq_false this]at h3; exact h3
 have hll:a.length=b.length:=by
  have:=Classical.not_not.1 h
  omega
 refine loop1.up hs.max (λi w'=>Ext w w'∧a.take i=b.take i) ⟨Ext.refl _,rfl⟩ λi w1 nxt hi ⟨x1,hI⟩ hn=>⟨λhlt=>bnd.drew λw2 x2=>?_,λhge=>?_⟩
 ·have k1:i<a.length:=oM
  have k2:i<b.length:=oM
  obtain⟨ad,ha,_,hc⟩:=Z5u hs k1
  obtain⟨ad2,ha2,_,hc2⟩:=Z5u ht k2
  refine⟨ad,⟨ha,oM,hlt⟩,_,hc _ (x1.trans x2),ad2,⟨ha2,oM,oM⟩,_,hc2 _ (x1.trans x2),λh=>?_,λh=>?_⟩
  ·have hne: ¬a=b:=λe=>by subst e; exact h rfl
   have h3:=hR w2 (x1.trans x2)
   rw[decide_eq_false hne]at h3; exact h3
  ·exact hn k1 _ ⟨x1.trans x2,Ziu k1 k2 hI (Classical.not_not.1 h)⟩
 ·have:i=a.length:=oM
  subst this
  rw[List.take_length,List.take_of_length_le oM]at hI
  have h3:=hR w1 x1
  rw[decide_eq_true hI]at h3; exact h3
theorem Z2h:(ByteArray.mk #[47,109,111,100,117,108,101,115,47])=B modsT:=rfl
theorem Zw6(p:Path)(x:ByteArray):Zsy (p++ [x])=(Zsy p++modsT)++x.toList:=by
 unfold Zsy; rw[List.flatMap_append]; simp
theorem Zvn: ∀{p:Path},Zgy p=true→(Zsy p).length≤p.length*25
 | [],_=>Nat.le_refl _
 |x::p,h=>by
  unfold Zgy at h
  rw[List.all_cons,Bool.and_eq_true]at h
  have h1:=Zd2 h.1
  have h2:=Zvn (p:=p) h.2
  have e:Zsy (x::p)=modsT++x.toList++Zsy p:=rfl
  have e9:modsT.length=9:=rfl
  rw[e,List.length_append,List.length_append,List.length_cons,e9]
  omega
theorem Zlj{p:Path}{i:Nat}(hi:i<p.length):Zgy (p.take (i+1))=(Zgy (p.take i)&&Zap p[i]):=by
 unfold Zgy
 rw[List.take_succ_eq_append_getElem hi,List.all_append]; simp
theorem Zzp{p:Path}{i:Nat}(hi:i<p.length)(h:Zap p[i]=false):Zgy p=false:=by
 unfold Zgy
 rw[List.all_eq_false]
 exact⟨_,List.getElem_mem hi,by rw[h]; decide⟩
theorem Zk1{s:Sl}{p:Path}{S:Nat→Prop}{w:World}{R:ByteArray→World→Prop}(hs:SlR strE w S s p)(hb:p.length≤4000000000000)(hR: ∀w',Ext w w'→R (B (Znb p)) w'):SE.Zhu s w R:=by
 unfold SE.Zhu
 have hl:=hs.len
 have hm:=hs.max
 refine⟨λh=>?_,λh=>?_⟩
 ·have:p= []:=List.eq_nil_of_length_eq_zero oM
  subst this
  exact hR w xR
 ·have hne:p≠ []:=λe=>by subst e; exact h (by rw[hl]; rfl)
  have e9:modsT.length=9:=rfl
  intro a w1 ha hw
  subst ha
  have x1:Ext w w1:=hw▸Ext.alloc _ _
  have hB1:Bld w.heap.size [] w1:=hw▸Zqm w
  refine loop1.up hm (λi w'=>Ext w w'∧Zgy (p.take i)=true∧Bld w.heap.size (Zsy (p.take i)) w') ⟨x1,rfl,hB1⟩ λi w2 nxt hi ⟨x2,hI,hB⟩ hn=>⟨λhlt=>?_,λhge=>?_⟩
  ·have hlt':i<p.length:=oM
   obtain⟨ad,ha,hst,hc⟩:=Z5u hs hlt'
   refine⟨ad,⟨ha,oM,hlt⟩,_,hc _ x2,SE.Zep.go (scanName_se hst λw3 x3=>⟨_,rfl,λhq=>?_,λhq=>?_⟩)⟩
   ·have hbad:=Zzp hlt' (by simpa using hq)
    have h2:=hR w3 (x2.trans x3)
    unfold Znb at h2
    rw[if_neg hne,if_neg (by rw[hbad]; decide)]at h2
    exact h2
   ·have hok:Zap p[i]=true:=by simpa using hq
    have h1:=Zd2 hok
    have h2:=Zvn hI
    rw[List.length_take,Nat.min_eq_left oM]at h2
    rw[Z2h]
    refine Zg4 (m:=modsT) (hB.ext x3) rfl (x2.trans x3) (by rw[e9]; omega) λw4 n4 x4 hB4=>⟨_,_,rfl,?_⟩
    rw[ba_B p[i]]
    refine Zg4 (m:=p[i].toList) hB4 rfl x4 (by rw[List.length_append,e9]; omega) λw5 n5 x5 hB5=>⟨_,_,rfl,hn hlt' w5 ⟨x5,by rw[Zlj hlt',hI,hok]; rfl,?_⟩⟩
    rw[List.take_succ_eq_append_getElem hlt',Zw6]; exact hB5
  ·rw[List.take_of_length_le oM]at hI hB
   refine Ziz hB rfl x2 λw3 x3=>⟨_,rfl,?_⟩
   have h2:=hR w3 x3
   unfold Znb at h2
   rw[if_neg hne,if_pos hI]at h2
   exact h2
theorem Zsg{s:Sl}{T:List Dir}{f:Value}{q:Dir→Bool}{S:Nat→Prop}{w:World}{R:Int→World→Prop}(hs:SlR dirE w S s T)
  (hf: ∀x∈T,∀(ps d e o:Sl) w' (k:Value→World→Prop),Ext w w'→SlR strE w' S ps x.path→(∀w'',Ext w' w''→k (.bool (q x)) w'')→callV prog f [.agg #[ps.v,.string x.pack.name,.int .i64 x.pack.v.ma,.int .i64 x.pack.v.mi,.int .i64 x.pack.v.pa,d.v,e.v,o.v,.int .i64 x.node]] w' k)
  (hR: ∀w',Ext w w'→R (idxI q T) w'):SE.Z8 s f w R:=by
 unfold SE.Z8
 have hl:=hs.len
 refine loop1.up hs.max (λi w'=>Ext w w'∧(T.take i).any q=false) ⟨Ext.refl _,rfl⟩ λi w1 nxt hi ⟨x1,hI⟩ hn=>⟨λhlt=>?_,λhge=>?_⟩
 ·have hlt':i<T.length:=oM
  obtain⟨ad,ps,d,e,o,ha,_,_,hp,_,_,_,hc⟩:=dirEl hs hlt'
  refine⟨ad,⟨ha,oM,hlt⟩,_,_,_,_,_,_,_,_,_,hc _ x1,hf _ (List.getElem_mem hlt') ps d e o _ _ x1 (hp.ext x1) λw2 x2=>⟨_,rfl,λh=>?_,λh=>?_⟩⟩
  ·rw[←Zlf hlt' hI h]; exact hR _ (x1.trans x2)
  ·exact hn hlt' _ ⟨x1.trans x2,by rw[Zfq hlt' hI]; exact h⟩
 ·have:i=T.length:=oM
  rw[this,List.take_length]at hI
  rw[←Zim hI]; exact hR _ x1
theorem Zr2:Zfv prog 287:=enters_of func287 kR rfl
theorem Zr9(T:List Dir)(p:Path):idxI (λd=>decide (d.path=p)) T=Zyz T p:=by
 unfold Zyz
 by_cases h:idxI (λd=>decide (d.path=p)) T= -1
 ·have h0:T.any (λd=>decide (d.path=p))=false:=by rw[←Zle,h]; rfl
  rw[Zwr (λj hj=>by simpa using List.any_eq_false.1 h0 _ (List.getElem_mem hj))]
  exact h
 ·obtain⟨n,hn,e,ht,hp⟩:=Zps h
  rw[e,Zy1 hn (of_decide_eq_true hp) λj hj hjn=>?_]
  have:=List.any_eq_false.1 ht T[j] (List.mem_take_iff_getElem.2 ⟨j,oM,rfl⟩)
  simpa using this
theorem Zuw{s t:Sl}{T:List Dir}{p:Path}{S Q:Nat→Prop}{w:World}{R:Int→World→Prop}(hs:SlR dirE w S s T)(ht:SlR strE w Q t p)(hR: ∀w',Ext w w'→R (Zyz T p) w'):SE.Zj6 s t w R:=by
 unfold SE.Zj6
 refine newS.intro λa w1 x1 hb1 _ _=>newS.intro λa1 w2 x2 hb2 _ _=>⟨s,hb1.at0 (r:=[]) x2 rfl,?_⟩
 have x02:=x1.trans x2
 refine SE.Z8.go (Zsg (q:=λd=>decide (d.path=p)) (hs.ext x02) (λy _ ps d e o w3 k x3 hp hk=>⟨_,_,rfl,Zr2,SE.Zjc.go ?_⟩) λw3 x3=>⟨_,rfl,by rw[Zr9]; exact hR w3 (x02.trans x3)⟩)
 unfold SE.Zjc
 refine newS.intro λa4 w4 x4 hb4 _ _=>⟨ps,hb4.at0 xR rfl,t,(hb2.ext (x3.trans x4)).ldc.pre (r:=[]) rfl,SE.Zau.go (Zr5 (hp.ext x4) ((ht.ext x02).ext (x3.trans x4)) λw5 x5=>⟨_,rfl,hk w5 (x4.trans x5)⟩)⟩
theorem Zwo{s t:Sl}{a b:List Span}{S T:Nat→Prop}{w:World}{R:Bool→World→Prop}(hs:SlR spanE w S s a)(ht:SlR spanE w T t b)(hR: ∀w',Ext w w'→R (decide (a=b)) w'):SE.Za8 s t w R:=by
 unfold SE.Za8
 have hl:=hs.len
 have hl2:=ht.len
 refine⟨λh=>?_,λh=>?_⟩
 ·have:decide (a=b)=false:=decide_eq_false λe=>h (by rw[hl,hl2,e])
  rw[←this]; exact hR _ xR
 have hlen:a.length=b.length:=by
  have:=Classical.not_not.1 h
  omega
 refine loop1.up hs.max (λi w'=>Ext w w'∧a.take i=b.take i) ⟨Ext.refl _,rfl⟩ λi w1 nxt hi ⟨x1,hI⟩ hn=>⟨λhlt=>bnd.drew λw2 x2=>?_,λhge=>?_⟩
 ·have h1:i<a.length:=oM
  have h2:i<b.length:=oM
  obtain⟨ad,ha,_,hc⟩:=Zlu hs h1
  obtain⟨ad2,ha2,_,hc2⟩:=Zlu ht h2
  have x02:=x1.trans x2
  refine⟨ad,⟨ha,oM,hlt⟩,_,_,_,_,_,_,hc _ x02,ad2,⟨ha2,oM,oM⟩,_,_,_,_,_,_,hc2 _ x02,?_⟩
  rw[Z5r]
  refine⟨λh=>?_,λh=>hn h1 _ ⟨x02,(Ztd h1 h2 hI).2 (by simpa using h)⟩⟩
  have:decide (a=b)=false:=decide_eq_false (Zw3 h1 h2 (by simpa using h))
  rw[←this]; exact hR _ x02
 ·have hi':i=a.length:=oM
  rw[hi',List.take_length,hlen,List.take_length]at hI
  have:decide (a=b)=true:=decide_eq_true hI
  rw[←this]; exact hR _ x1
theorem Z75{x y:Dep}:decide (x=y)=(bEq x.name y.name&&decide (x.range=y.range)):=by
 obtain⟨n,l⟩:=x
 obtain⟨m,k⟩:=y
 rw[Bool.eq_iff_iff]
 simp only[decide_eq_true_eq,Dep.mk.injEq,Bool.and_eq_true,Zca]
theorem Zny:Zfv prog 284:=enters_of func284 kR rfl
theorem Zsx{x y:Dep}{s t:Sl}{S T:Nat→Prop}{w:World}{R:Bool→World→Prop}(hs:SlR spanE w S s x.range)(ht:SlR spanE w T t y.range)(hR: ∀w',Ext w w'→R (decide (x=y)) w'):SE.Zho x.name s y.name t w R:=by
 unfold SE.Zho
 rw[Z75]at hR
 refine newS.intro λa w1 x1 hb1 _ _=>newS.intro λa1 w2 x2 hb2 _ _=>⟨_,hb1.at0 x2 rfl,_,hb2.at0 xR rfl,bound ⟨s,λ_=>hb1.at1 (k:=1) (r:=[]) x2 rfl,t,λ_=>hb2.at1 (k:=1) (r:=[]) xR rfl,?_⟩⟩
 have x02:=x1.trans x2
 refine gCall.intro (decide (x.range=y.range)) (λ_ q hq=>SE.Za8.go (Zwo (hs.ext x02) (ht.ext x02) λw' hx=>⟨_,rfl,hq _ hx⟩)) λt15 w3 x3 ht15=>?_
 have h3:=hR w3 (x02.trans x3)
 cases hg:bEq x.name y.name with
 |false=>rw[hg]at h3; exact h3
 |true=>rw[hg]at h3 ht15; rw[ht15 rfl]; exact h3
theorem Zku{s t:Sl}{a b:List Dep}{S T:Nat→Prop}{w:World}{R:Bool→World→Prop}(hs:SlR depE w S s a)(ht:SlR depE w T t b)(hR: ∀w',Ext w w'→R (decide (a=b)) w'):SE.Zhn s t w R:=by
 unfold SE.Zhn
 refine SE.Z5.go ?_
 unfold SE.Z5
 have h1:=hs.len
 have h2:=ht.len
 have hf: ¬a=b→ ∀w',Ext w w'→R false w':=λhne w' hx=>by
  have h3:=hR w' hx
  rw[decide_eq_false hne]at h3; exact h3
 refine⟨λh=>⟨_,rfl,hf (λe=>by subst e; omega) w xR⟩,λh=>?_⟩
 have hll:a.length=b.length:=by
  have:=Classical.not_not.1 h
  omega
 refine loop1.up hs.max (λi w'=>Ext w w'∧a.take i=b.take i) ⟨Ext.refl _,rfl⟩ λi w1 nxt hi ⟨x1,hI⟩ hn=>⟨λhlt=>?_,λhge=>?_⟩
 ·have k1:i<a.length:=oM
  have k2:i<b.length:=oM
  obtain⟨ad,u,ha,_,_,hr,hc⟩:=Zhg hs k1
  obtain⟨ad2,u2,ha2,_,_,hr2,hc2⟩:=Zhg ht k2
  refine⟨ad,⟨ha,oM,hlt⟩,_,u,hc _ x1,newS.set rfl λa4 w2 x2 hb2 _=>⟨ad2,⟨ha2,oM,oM⟩,_,u2,hc2 _ (x1.trans x2),newS.set rfl λa5 w3 x3 hb3 _=> ?_⟩⟩
  have x03:=x1.trans (x2.trans x3)
  refine⟨_,u,(hb2.ext x3).ldc.pre (r:=[]) rfl,_,u2,hb3.ldc.pre (r:=[]) rfl,_,_,rfl,Zny,SE.Zho.go (Zsx (hr.ext x03) (hr2.ext x03) λw4 x4=>⟨_,rfl,λhq=>?_,λhq=>?_⟩)⟩
  ·refine⟨_,rfl,hf (λhh=>?_) w4 (x03.trans x4)⟩
   have:a[i]=b[i]:=by subst hh; rfl
   rw[decide_eq_true this]at hq; cases hq
  ·exact hn k1 w4 ⟨x03.trans x4,Ziu k1 k2 hI (by simpa using hq)⟩
 ·have:i=a.length:=oM
  subst this
  rw[List.take_length,List.take_of_length_le oM]at hI
  have h3:=hR w1 x1
  rw[decide_eq_true hI]at h3; exact⟨_,rfl,h3⟩
theorem Z7f{x y:Pack}:decide (x=y)=(bEq x.name y.name&&decide (x.v=y.v)&&decide (x.deps=y.deps)&&decide (x.peers=y.peers)&&decide (x.opt=y.opt)):=by
 obtain⟨n,v,d,e,o⟩:=x
 obtain⟨n',v',d',e',o'⟩:=y
 rw[Bool.eq_iff_iff]
 simp only[decide_eq_true_eq,Pack.mk.injEq,Bool.and_eq_true,Zca]
 exact⟨λ⟨a,b,c,d,e⟩=>⟨⟨⟨⟨a,b⟩,c⟩,d⟩,e⟩,λ⟨⟨⟨⟨a,b⟩,c⟩,d⟩,e⟩=>⟨a,b,c,d,e⟩⟩
theorem Zkw{p q:Pack}{d e o d' e' o':Sl}{S T:Nat→Prop}{w:World}{R:Bool→World→Prop}(hd:SlR depE w S d p.deps)(he:SlR depE w S e p.peers)(ho:SlR depE w S o p.opt)(hd':SlR depE w T d' q.deps)(he':SlR depE w T e' q.peers)(ho':SlR depE w T o' q.opt)
  (hR: ∀w',Ext w w'→R (decide (p=q)) w'):SE.Zhm p.name p.v.ma p.v.mi p.v.pa d e o q.name q.v.ma q.v.mi q.v.pa d' e' o' w R:=by
 unfold SE.Zhm
 rw[Z7f]at hR
 refine newS.intro λa w1 x1 hb _ _=>newS.intro λa1 w2 x2 hb2 _ _=>⟨_,hb.at0 x2 rfl,_,hb2.at0 xR rfl,bound ⟨_,_,_,λ_=>hb.at1 (k:=1) x2 rfl,_,_,_,λ_=>hb2.at1 (k:=1) xR rfl,bound ⟨d,λ_=>hb.at1 (k:=4) x2 rfl,d',λ_=>hb2.at1 (k:=4) xR rfl,?_⟩⟩⟩
 have x02:=x1.trans x2
 have ev:((p.v.ma==q.v.ma)&&((p.v.mi==q.v.mi)&&((p.v.pa==q.v.pa)&&true)))=decide (p.v=q.v):=verB
 rw[ev]
 refine gCall.intro (decide (p.deps=q.deps)) (λ_ k hk=>SE.Zhn.go (Zku (hd.ext x02) (hd'.ext x02) λw' hx=>⟨_,rfl,hk _ hx⟩)) λt3 w3 x3 ht3=>bound ⟨e,λ_=>hb.at1 (k:=5) (x2.trans x3) rfl,e',λ_=>hb2.at1 (k:=5) x3 rfl,?_⟩
 have x03:=x02.trans x3
 refine gCall.intro (decide (p.peers=q.peers)) (λ_ k hk=>SE.Zhn.go (Zku (he.ext x03) (he'.ext x03) λw' hx=>⟨_,rfl,hk _ hx⟩)) λt4 w4 x4 ht4=>bound ⟨o,λ_=>hb.at1 (k:=6) (r:=[]) (x2.trans (x3.trans x4)) rfl,o',λ_=>hb2.at1 (k:=6) (r:=[]) (x3.trans x4) rfl,?_⟩
 have x04:=x03.trans x4
 refine gCall.intro (decide (p.opt=q.opt)) (λ_ k hk=>SE.Zhn.go (Zku (ho.ext x04) (ho'.ext x04) λw' hx=>⟨_,rfl,hk _ hx⟩)) λt5 w5 x5 ht5=>?_
 have h5:=hR w5 (x04.trans x5)
 cases hg:(bEq p.name q.name&&decide (p.v=q.v))with
 |false=>rw[hg]at h5; exact h5
 |true=>
  rw[hg]at h5 ht3 ht4 ht5
  have ht3:=ht3 rfl
  subst ht3
  cases h1:decide (p.deps=q.deps)with
  |false=>rw[h1]at h5; exact h5
  |true=>
   rw[h1]at h5 ht4 ht5
   have ht4:=ht4 rfl
   subst ht4
   cases h2:decide (p.peers=q.peers)with
   |false=>rw[h2]at h5; exact h5
   |true=>
    rw[h2]at h5 ht5
    have ht5:=ht5 rfl
    subst ht5
    exact h5
theorem Zjq{m k:Mani}{d e o v d' e' o' v':Sl}{S T:Nat→Prop}{w:World}{R:Bool→World→Prop}(hd:SlR depE w S d m.deps)(he:SlR depE w S e m.dev)(ho:SlR depE w S o m.opt)(hv:SlR depE w S v m.over)(hd':SlR depE w T d' k.deps)(he':SlR depE w T e' k.dev)(ho':SlR depE w T o' k.opt)(hv':SlR depE w T v' k.over)
  (hR: ∀w',Ext w w'→R (decide (m=k)) w'):SE.Zez d e o v d' e' o' v' w R:=by
 unfold SE.Zez
 have eq:decide (m=k)=(decide ((⟨⟨#[]⟩,⟨0,0,0⟩,m.deps,m.dev,m.opt⟩:Pack)=⟨⟨#[]⟩,⟨0,0,0⟩,k.deps,k.dev,k.opt⟩)&&decide ((⟨⟨#[]⟩,⟨0,0,0⟩,m.over,[],[]⟩:Pack)=⟨⟨#[]⟩,⟨0,0,0⟩,k.over,[],[]⟩)):=by
  obtain⟨a,b,c,d⟩:=m
  obtain⟨a',b',c',d'⟩:=k
  rw[Bool.eq_iff_iff]
  simp only[decide_eq_true_eq,Mani.mk.injEq,Pack.mk.injEq,Bool.and_eq_true,true_and,and_true]
  exact⟨λ⟨a,b,c,d⟩=>⟨⟨a,b,c⟩,d⟩,λ⟨⟨a,b,c⟩,d⟩=>⟨a,b,c,d⟩⟩
 rw[eq]at hR
 refine newS.intro λa w1 x1 hb _ _=>newS.intro λa1 w2 x2 hb2 _ _=>⟨d,hb.at0 x2 rfl,e,hb.at1 (k:=1) x2 rfl,o,hb.at1 (k:=2) x2 rfl,d',hb2.at0 xR rfl,e',hb2.at1 (k:=1) xR rfl,o',hb2.at1 (k:=2) xR rfl,?_⟩
 have x02:=x1.trans x2
 refine SE.Zhm.go (Zkw (p:=⟨⟨#[]⟩,⟨0,0,0⟩,m.deps,m.dev,m.opt⟩) (q:=⟨⟨#[]⟩,⟨0,0,0⟩,k.deps,k.dev,k.opt⟩) (hd.ext x02) (he.ext x02) (ho.ext x02) (hd'.ext x02) (he'.ext x02) (ho'.ext x02) λw3 x3=>⟨_,rfl,v,λ_=>hb.at1 (k:=3) (r:=[]) (x2.trans x3) rfl,v',λ_=>hb2.at1 (k:=3) (r:=[]) x3 rfl,?_⟩)
 have x03:=x02.trans x3
 refine gCall.intro (decide ((⟨⟨#[]⟩,⟨0,0,0⟩,m.over,[],[]⟩:Pack)=⟨⟨#[]⟩,⟨0,0,0⟩,k.over,[],[]⟩)) (λ_ q hq=>SE.Zhm.go (Zkw (p:=⟨⟨#[]⟩,⟨0,0,0⟩,m.over,[],[]⟩) (q:=⟨⟨#[]⟩,⟨0,0,0⟩,k.over,[],[]⟩) (S:=S) (T:=T) (hv.ext x03) (SlR.nil trivial) (SlR.nil trivial) (hv'.ext x03) (SlR.nil trivial) (SlR.nil trivial) λw4 x4=>⟨_,rfl,hq w4 x4⟩)) λt27 w4 x4 ht27=>?_
 have h4:=hR w4 (x03.trans x4)
 revert ht27 h4
 cases decide ((⟨⟨#[]⟩,⟨0,0,0⟩,m.deps,m.dev,m.opt⟩:Pack)=⟨⟨#[]⟩,⟨0,0,0⟩,k.deps,k.dev,k.opt⟩)with
 |false=>exact λ_ h=>h
 |true=>exact λh1 h2=>by rw[h1 rfl]; exact h2
end Go.Hal
namespace Go.Hal
open Go.Proofs.Tryz
open Go Go.RowKit Go.Proofs Go.Shelf Go.Lib Go.Sort
section
variable {α:Type} [Inhabited α] (fn:α→Int)
end
end Go.Hal
namespace Go.Hal
open Go.Proofs.Tryz
end Go.Hal
namespace Go.Hal
open Go.Proofs.Tryz
end Go.Hal
namespace Go.Hal
open Go.Proofs.Tryz
end Go.Hal
namespace Go.Hal
open Go.Proofs.Tryz
end Go.Hal
namespace Go.Hal
open Go.Proofs.Tryz
def Z8k:List UInt8:=[108,111,99,107,10]
end Go.Hal
namespace Go.Hal
open Go.Proofs.Tryz
def Zqs(ps:List Pack)(d:Dr):Dir:=⟨d.path,ps.getD d.node Ze1,d.node⟩
theorem Zwl(ps:List Pack)(d:Dr):drOf (Zqs ps d)=d:=by
 unfold drOf Zqs
 simp
theorem Z2f{ps:List Pack}{ds:List Dr}:(ds.map (Zqs ps)).map drOf=ds:=by
 rw[List.map_map]
 conv=>rhs; rw[←List.map_id ds]
 exact List.map_congr_left λd _=>Zwl ps d
end Go.Hal
namespace Go.Hal
open Go.Proofs.Tryz
end Go.Hal
namespace Go.Hal
open Go.Proofs.Tryz
end Go.Hal
namespace Go.Hal
open Go.Proofs.Tryz
end Go.Hal
namespace Go.Hal
open Go.Proofs.Tryz
open Go Go.RowKit Go.Proofs Go.Shelf
theorem OwnS.strs{w:World}{lo:Nat}{T:TypeId}{s:Sl}{l:List ByteArray}(h:OwnS strE T w lo None' s l)(hl:l.length≤5000000000000):SlR strE w (λb=>lo≤b) s l:=h.readF dC (by show l.length*16≤room; unfold room; omega)
def Z8o(T:List Dir)(i:Nat)(x:ByteArray):Int:=match Z8c T i x with
 |some j=>(j:Int)
 |none=>-1
def optI(o:Option Nat):Int:=match o with
 |some j=>(j:Int)
 |none=>-1
theorem Zy0(T:List Dir)(p:Path):Zyz T p=optI (Zn1 (T.map drOf) p):=rfl
structure PC where
 u:Sl
 ps:Sl
 l1:Int
 l2:Int
 l3:Int
 l4:Int
 ol:Option Addr
 dr:Sl
 st:Sl
def PC.c(c:PC):List Value:=[c.u.v,c.ps.v,.int .i64 c.l1,.int .i64 c.l2,.int .i64 c.l3,.int .i64 c.l4,.pointer c.ol,c.dr.v,c.st.v]
def OldR(w:World)(S:Nat→Prop):Option (List Dir)→Option Addr→Prop
 |none,none=>True
 |some T,some a=>S a.block∧ ∃so,ldc w a [Sl.v so]∧SlR dirE w S so T
 |_,_=>False
structure PlV(E:Enc Stl)(w:World)(p:Addr)(S:Nat→Prop)(c:PC)(G:List Node)(P:List Pack)(old:Option (List Dir))(s:PlS):Prop where
 box:BoxAt w p c.c
 g:SlR nodeE w S c.u G
 pk:SlR packE w S c.ps P
 dr:SlR dirE w S c.dr (s.dirs.map (Zqs P))
 st:SlR E w S c.st s.done
 old:OldR w S old c.ol
 lt:Old S w
section
variable {E:Enc Stl} {w w':World} {p:Addr} {S:Nat→Prop} {c:PC} {G:List Node} {P:List Pack} {old:Option (List Dir)} {s:PlS}
theorem OldR.ext{ol:Option Addr}(h:OldR w S old ol)(hx:Ext w w'):OldR w' S old ol:=by
 unfold OldR at*
 split at h
 ·trivial
 ·obtain⟨h1,so,h2,h3⟩:=h
  exact⟨h1,so,h2.ext hx,h3.ext hx⟩
 ·exact h
theorem PlV.ext(h:PlV E w p S c G P old s)(hx:Ext w w'):PlV E w' p S c G P old s:=⟨h.box.ext hx,h.g.ext hx,h.pk.ext hx,h.dr.ext hx,h.st.ext hx,h.old.ext hx,h.lt.ext hx.size⟩
theorem PlV.ld(h:PlV E w p S c G P old s)(hx:Ext w w')(k:Nat){cs r:List Value}(hp:c.c.drop k=cs++r):ldc w' (p.add k) cs:=h.box.at1 hx hp
theorem PlV.ld0(h:PlV E w p S c G P old s)(hx:Ext w w'):ldc w' p [c.u.v]:=h.box.at0 hx rfl
theorem Zqt(h:PlV E w p S c G P old s):c.dr.len=s.dirs.length:=by rw[h.dr.len,List.length_map]
theorem PlV.dirEl(h:PlV E w p S c G P old s){i:Nat}(hi:i<s.dirs.length):
  ∃ad q d e o,c.dr.a=some ad∧S ad.block∧Str (P.getD s.dirs[i].node Ze1).name∧SlR strE w S q s.dirs[i].path∧SlR depE w S d (P.getD s.dirs[i].node Ze1).deps∧SlR depE w S e (P.getD s.dirs[i].node Ze1).peers∧SlR depE w S o (P.getD s.dirs[i].node Ze1).opt∧
   ∀w',Ext w w'→ldc w' (ad.add (i*9)) [q.v,.string (P.getD s.dirs[i].node Ze1).name,.int .i64 (P.getD s.dirs[i].node Ze1).v.ma,.int .i64 (P.getD s.dirs[i].node Ze1).v.mi,.int .i64 (P.getD s.dirs[i].node Ze1).v.pa,d.v,e.v,o.v,.int .i64 (s.dirs[i].node:Int)]:=by
 have hl:i<(s.dirs.map (Zqs P)).length:=by simpa using hi
 have:=Go.Hal.dirEl h.dr hl
 rw[List.getElem_map]at this
 exact this
end
theorem cloneStrs_se{s:Sl}{p:Path}{S:Nat→Prop}{w:World}{R:Sl→World→Prop}(hS:Old S w)(hs:SlR strE w S s p)(hR: ∀t w',Ext w w'→OwnS strE 9 w' w.heap.size None' t p→R t w'):SE.Zbo s w R:=by
 unfold SE.Zbo
 refine⟨λh=>?_,λh=>?_⟩
 ·have:p= []:=by
   rcases hs.2.2.2.2 with h0|⟨ad,h1,_⟩
   ·exact h0
   ·rw[h]at h1; cases h1
  subst this
  exact hR _ _ xR (OwnS.zero _)
 ·intro a w1 ha hw
  subst ha
  have x1:Ext w w1:=hw▸Ext.alloc _ _
  have own:OwnS strE 9 w1 w.heap.size None' ⟨some ⟨w.heap.size,0,none⟩,0,0⟩ []:=hw▸OwnS.empty w
  refine own.appAll Z4d x1.size (hs.ext x1) (hS.ext x1.size) (λad ha hb=>?_) (by simpa using hs.2.2.2.1) (by simpa using hs.max) λr w2 own2 bel _ _=> ?_
  ·simp only[Option.some.injEq]at ha
   subst ha
   have:=hS _ hb
   simp at this
  ·exact hR r w2 (x1.trans' bel) (OwnS.flat (λh=>h) own2)
theorem pinside_se{s:Sl}{p:Path}{x:ByteArray}{S:Nat→Prop}{w:World}{R:Sl→World→Prop}(hS:Old S w)(hs:SlR strE w S s p)(hx:Str x)(hb:p.length≤4000000000000)(hR: ∀t w',Ext w w'→OwnS strE 9 w' w.heap.size None' t (p++ [x])→R t w'):SE.Zc6 s x w R:=by
 unfold SE.Zc6
 refine SE.Zbo.go (cloneStrs_se hS hs λt w1 x1 o1=>⟨_,rfl,newS.intro λa w2 x2 hb2 _ _=> ?_⟩)
 exact(o1.ext x2).pushF (x1.trans x2) Z4d (x:=x) ⟨rfl,hx⟩ (hb2.ldc.pre (r:=[]) rfl) dC (by show _*16≤room; unfold room; omega) λr w3 o3 x3=>hR r w3 x3 o3
theorem Zrz:Zfv prog 288:=enters_of func288 kR rfl
section
variable {E:Enc Stl} {w:World} {p:Addr} {S:Nat→Prop} {c:PC} {G:List Node} {P:List Pack} {old:Option (List Dir)} {s:PlS}
theorem Zvo{t:Sl}{q:Path}{Q:Nat→Prop}{R:Int→World→Prop}(h:PlV E w p S c G P old s)(ht:SlR strE w Q t q)(hR: ∀w',Ext w w'→R (optI (Zn1 s.dirs q)) w'):SE.Zco (some p) t w R:=by
 unfold SE.Zco
 refine newS.intro λa w1 x1 hb1 _ _=>⟨p,rfl,c.dr,h.ld x1 7 rfl,?_⟩
 refine SE.Z8.go (Zsg (q:=λd=>decide (d.path=q)) (h.dr.ext x1) (λy _ ps d e o w3 k x3 hp hk=>⟨_,_,rfl,Zrz,SE.Zd3.go ?_⟩) λw3 x3=>⟨_,rfl,by rw[Zr9,Zy0,Z2f]; exact hR w3 (x1.trans x3)⟩)
 unfold SE.Zd3
 refine newS.intro λa4 w4 x4 hb4 _ _=>⟨ps,hb4.at0 xR rfl,t,(hb1.ext (x3.trans x4)).ldc.pre (r:=[]) rfl,SE.Zau.go (Zr5 (hp.ext x4) ((ht.ext x1).ext (x3.trans x4)) λw5 x5=>⟨_,rfl,hk w5 (x4.trans x5)⟩)⟩
end
end Go.Hal
namespace Go.Hal
open Go.Proofs.Tryz
open Go Go.RowKit Go.Proofs Go.MapKept
section
variable {P:Program} {mt:TypeId} {K:Value→Prop} {zero:Value} {w w':World} {r:Nat} {m:List (Value×Value)}
end
end Go.Hal
namespace Go.Hal
open Go.Proofs.Tryz
open Go Go.RowKit Go.Proofs Go.Shelf
def srchP(K:K7)(D N d3 d4 t:Int)(ended:Bool)(err:Int)(fnd:Sl):List Value:=[.pointer (some K.cp),K.mD.v,K.mDev.v,K.mOpt.v,K.mOv.v,.bool K.dev,K.pS.v,.int .i64 D,.int .i64 N,.int .i64 d3,.int .i64 d4,.int .i64 t,.bool ended,.int .i64 err,fnd.v]
structure CxP(w:World)(sp:Addr)(q:Quest)(K:K7):Prop where
 cat: ∃SC r,CatL w SC K.cp r q.L∧ ¬SC sp.block∧K.cp.block≠sp.block∧r≠sp.block
 deps:SlR depE w (Nb sp w) K.mD q.m.deps
 dv:SlR depE w (Nb sp w) K.mDev q.m.dev
 opt:SlR depE w (Nb sp w) K.mOpt q.m.opt
 over:SlR depE w (Nb sp w) K.mOv q.m.over
 pins:SlR pinE w (Nb sp w) K.pS q.pins
 dev:K.dev=q.dev
 lt:sp.block<w.heap.size
 may:Zb1 q.m=true
section
variable {w w':World} {sp:Addr} {q:Quest} {K:K7}
theorem CxP.but(h:CxP w sp q K)(hb:But sp.block w w'):CxP w' sp q K:=by
 obtain⟨SC,r,h1,h2,h3,h4⟩:=h.cat
 exact⟨⟨SC,r,h1.stay hb.1 λb hlt hc=>hb.2.2.2.2 b hlt (by
  rcases hc with hc|rfl|rfl
  ·rintro rfl; exact h2 hc
  ·exact h3
  ·exact h4),h2,h3,h4⟩,h.deps.nbBut hb,h.dv.nbBut hb,h.opt.nbBut hb,h.over.nbBut hb,h.pins.nbBut hb,h.dev,by have:=h.lt; have:=hb.1; omega,h.may⟩
theorem CxP.ext(h:CxP w sp q K)(hx:Ext w w'):CxP w' sp q K:=h.but (hx.but _)
theorem CxP.good(h:CxP w sp q K):GoodL q.L:=by obtain⟨_,_,h1,_⟩:=h.cat; exact h1.good
end
def PostP(q:Quest)(sp:Addr)(K:K7)(d3 d4:Int)(w:World)(o:Out)(w':World):Prop:=But sp.block w w'∧(match o with
 | .fail t=>t≤q.D∧BoxAt w' sp (srchP K q.D q.N d3 d4 t false 0 Sl.nil)
 | .done ns t=>∃fnd,BoxAt w' sp (srchP K q.D q.N d3 d4 t true 0 fnd)∧SlR nodeE w' (Nb sp w') fnd ns
 | .err c=>∃(t:Int) (fnd:Sl),BoxAt w' sp (srchP K q.D q.N d3 d4 t true c fnd)
 | .out=>False)
theorem PostP.from{q:Quest}{sp:Addr}{K:K7}{d3 d4:Int}{w0 w w':World}{o:Out}(h:PostP q sp K d3 d4 w o w')(hb:But sp.block w0 w):PostP q sp K d3 d4 w0 o w':=⟨hb.trans' h.1,h.2⟩
def envC(c ch:List Pin):List Pin:=ch.foldl (λe p=>addO e p.name (some p.v)) c
theorem Zr4(c ch:List Pin)(p:Pin):envC c (ch++ [p])=addO (envC c ch) p.name (some p.v):=by unfold envC; rw[List.foldl_append]; rfl
theorem Zwn{c:List Pin}(hn:(c.map (·.name)).Nodup): ∀(ch:List Pin),((envC c ch).map (·.name)).Nodup:=λch=>by
 induction ch generalizing c with
 |nil=>exact hn
 |cons p r ih=>exact ih (Zpf hn _ _)
theorem Zvc(c:List Pin): ∀(ch:List Pin),(envC c ch).length≤c.length+ch.length:=λch=>by
 induction ch generalizing c with
 |nil=>exact Nat.le_refl _
 |cons p r ih=>
  have h1:(envC (addO c p.name (some p.v)) r).length≤_:=ih (addO c p.name (some p.v))
  have h2:=Zu2 c p.name (some p.v)
  show(envC (addO c p.name (some p.v)) r).length≤c.length+(r.length+1)
  omega
theorem Z1u{c:List Pin}(hc: ∀p∈c,Str p.name): ∀{ch:List Pin},(∀p∈ch,Str p.name)→ ∀p∈envC c ch,Str p.name:=λ{ch} hch=>by
 induction ch generalizing c with
 |nil=>exact hc
 |cons a r ih=>
  refine ih (c:=addO c a.name (some a.v)) (λp hp=>?_) λp hp=>hch p (.tail _ hp)
  rw[Zl2]at hp
  split at hp
  ·exact hc p hp
  ·rcases List.mem_append.1 hp with hp|hp
   ·exact hc p hp
   ·rw[List.mem_singleton]at hp; subst hp; exact hch a (.head _)
def Znh(q:Quest)(f:Nat):Prop:=∀(sp:Addr) (K:K7) (d3 d4:Int) (ns:List Node) (k:Nat) (ws:List Want) (ch:List Pin) (t:Nat) (nds wss chs:Sl) (w:World),
 CxP w sp q K→BoxAt w sp (srchP K q.D q.N d3 d4 t false 0 Sl.nil)→NsOk q ns→k<ns.length→ws.length+ch.length≤64→(∀x∈ws,Str x.name)→t≤q.D→q.D≤4096→q.go f ns k ws (envC (Zf0 ns k) ch) t≠ .out→
 SlR nodeE w (Nb sp w) nds ns→SlR wantE w (Nb sp w) wss ws→SlR pinE w (Nb sp w) chs ch→
 callS prog 33 [.pointer (some sp),nds.v,.int .i64 k,wss.v,chs.v] w λv w'=>v= .tuple #[]∧PostP q sp K d3 d4 w (q.go f ns k ws (envC (Zf0 ns k) ch) t) w'
theorem Zi7{s:Sl}{l:List Pin}{n:ByteArray}{S:Nat→Prop}{w:World}{R:Int→Int→Int→Bool→World→Prop}(hs:SlR pinE w S s l)
  (hsome: ∀v w',tells l n=some v→Ext w w'→R v.ma v.mi v.pa true w') (hnone: ∀w',tells l n=none→Ext w w'→R 0 0 0 false w'):SE.Zc7 s n w R:=by
 unfold SE.Zc7
 have hl:=hs.len
 refine newS.intro λa w1 x1 ha hab _=> ?_
 refine loop1.up hs.max (λi w'=>Ext w1 w'∧(l.take i).find? (isN n)=none) ⟨Ext.refl _,rfl⟩ λi w2 nxt hi ⟨x2,hI⟩ hn=>⟨λhlt=>?_,λhge=>?_⟩
 ·have hlt':i<l.length:=oM
  have x02:=x1.trans x2
  obtain⟨ad,hsa,_,_,hc⟩:=Zhz hs hlt'
  refine⟨ad,⟨hsa,oM,hlt⟩,_,_,_,_,hc _ x02,newS.set rfl λa2 w3 x3 hb3 _=>⟨_,hb3.at0 xR rfl,λhe=>?_,λhe=>?_⟩⟩
  ·refine⟨l[i].v.ma,l[i].v.mi,l[i].v.pa,hb3.at1 (k:=1) (r:=[]) xR rfl,stw0.intro (ha.ext (x2.trans x3)) sI λw5 b5 _ hb5=>⟨_,_,_,hb5.at0 (r:=[]) xR rfl,?_⟩⟩
   have hf:=Zqx (p:=isN n) hlt' hI (by simp[isN,he])
   exact hsome l[i].v w5 (by unfold tells; rw[hf]; rfl) (b5.ext (x02.trans x3) oM)
  ·refine hn hlt' _ ⟨x2.trans x3,?_⟩
   rw[Zgc hlt' hI,if_neg (by simp[isN,he])]
 ·have:i=l.length:=oM
  rw[this,List.take_length]at hI
  refine stw0.intro (ha.ext x2) sI λw3 b3 _ hb3=>⟨_,_,_,hb3.at0 (r:=[]) xR rfl,hnone w3 (by unfold tells; rw[hI]; rfl) (b3.ext (x1.trans x2) oM)⟩
theorem pend_se{sp:Addr}{K:K7}{D N d3 d4 t c:Int}{nds fnd:Sl}{w:World}{R:World→Prop}(hb:BoxAt w sp (srchP K D N d3 d4 t false 0 fnd))(hR: ∀w',But sp.block w w'→BoxAt w' sp (srchP K D N d3 d4 t true c nds)→R w'):SE.Zce (some sp) nds c w R:=by
 unfold SE.Zce
 refine⟨sp,rfl,stw.intro (o:=12) hb (by show 13≤15; omega) λw1 b1 _ hb1=>⟨sp,rfl,stw.intro (o:=14) hb1 (by show 15≤15; omega) λw2 b2 _ hb2=>⟨sp,rfl,stw.intro (o:=13) hb2 (by show 14≤15; omega) λw3 b3 _ hb3=>hR w3 ((b1.trans' b2).trans' b3) hb3⟩⟩⟩
theorem Zp5{q:Quest}{f:Nat}(hf:Znh q f){sp:Addr}{K:K7}{d3 d4:Int}{ns:List Node}{k t:Nat}{nds:Sl}{w:World}{R:World→Prop}(hC:CxP w sp q K)(hb:BoxAt w sp (srchP K q.D q.N d3 d4 t false 0 Sl.nil))(hN:NsOk q ns)(hk:k≤ns.length)(ht:t≤q.D)(hD:q.D≤4096)
  (hs:SlR nodeE w (Nb sp w) nds ns) (hne:k<ns.length→q.go f ns k (q.wants ns k) (Zf0 ns k) t≠ .out)
  (hR: ∀w',PostP q sp K d3 d4 w (if k=ns.length then .done ns t else q.go f ns k (q.wants ns k) (Zf0 ns k) t) w'→R w'):SE.Zb6 (some sp) nds (k:Int) w R:=by
 unfold SE.Zb6
 have hsl:=hs.len
 have hsp:=hC.lt
 refine⟨λh=>?_,λh=>bnd.drew λw1 x1=>?_⟩
 ·have hkn:k=ns.length:=oM
  rw[if_pos hkn]at hR
  exact SE.Zce.go (pend_se hb λw1 b1 hb1=>⟨rfl,hR w1 ⟨b1,nds,hb1,hs.nbBut b1⟩⟩)
 ·have hkn:k<ns.length:=oM
  rw[if_neg oM]at hR
  have hkx:ns[k]? =some ns[k]:=List.getElem?_eq_getElem hkn
  obtain⟨ad,c,e,ha,hNs,hcx,_,hc⟩:=Zff hs hkn
  have hsm:=Zi6 hC.may
  have hC1:=hC.ext x1
  have s1:=x1.size
  refine⟨sp,rfl,K.mD,K.mDev,K.mOpt,K.mOv,hb.at1 (k:=1) x1 rfl,sp,rfl,K.dev,hb.at1 (k:=5) x1 rfl,?_⟩
  refine SE.Zgo.go (Zpc (m:=q.m) (Nb.old sp w1) hC1.deps hC1.dv hC1.opt hC1.over (by unfold room; omega) λt24 w2 x2 hsep=>⟨_,rfl,join.named λJ hJ=>?_⟩)
  have hrt:=hsep.read (by rw[Zib]; have:=Zls q.m K.dev; unfold room; omega)
  have x02:=x1.trans x2
  have s2:=x2.size
  have keyJ: ∀(wss:Sl) w',Ext w w'→SlR wantE w' (Nb sp w') wss (q.wants ns k)→J wss w':=by
   subst hJ
   intro wss w3 x3 hws
   have hctx:Zf0 ns k=ns[k].ctx:=by unfold Zf0 Zsl; rw[List.getElem?_map,hkx]; rfl
   refine(hf sp K d3 d4 ns k (q.wants ns k) [] t nds wss Sl.nil w3 (hC.ext x3) (hb.ext x3) hN hkn (by have:=Ztj (ns:=ns) (k:=k) hC.good hC.may; simpa using this) (Z0y hws) ht hD (hne hkn) (hs.nbExt x3) hws (SlR.nil trivial)).mono λv w4 ⟨hv,hP⟩=>⟨hv,hR w4 (hP.from (x3.but _))⟩
  clear hJ
  refine⟨λh0=>join.named λJ2 hJ2=>bnd.drew λw3 x3=>?_,λh0=>?_⟩
  ·have hk0:k≠0:=oM
   have x03:=x02.trans x3
   have hC3:=hC.ext x03
   obtain⟨SC,r,hcat,hSC,hcp,hr⟩:=hC3.cat
   obtain⟨g1,g2,g3⟩:=Zpr hcat.good ns[k].name ns[k].v
   have key2: ∀(pa:Addr) (d e' o:Sl) w',Ext w3 w'→BoxAt w' pa [.string (getD q.L ns[k].name ns[k].v).name,.int .i64 (getD q.L ns[k].name ns[k].v).v.ma,.int .i64 (getD q.L ns[k].name ns[k].v).v.mi,.int .i64 (getD q.L ns[k].name ns[k].v).v.pa,d.v,e'.v,o.v]→
     SlR depE w' (Nb sp w') d (getD q.L ns[k].name ns[k].v).deps→SlR depE w' (Nb sp w') o (getD q.L ns[k].name ns[k].v).opt→J2 pa w':=by
    subst hJ2
    intro pa d e' o w4 x4 hbp hd hoo
    refine bnd.drew λw5 x5=>?_
    have x05:=x03.trans (x4.trans x5)
    have hC5:=hC.ext x05
    refine⟨_,_,_,_,d,e',o,hbp.at0 (r:=[]) x5 rfl,sp,rfl,K.mD,K.mDev,K.mOpt,K.mOv,hb.at1 (k:=1) x05 rfl,?_⟩
    refine SE.Zl0.go (Zxt (p:=getD q.L ns[k].name ns[k].v) (Nb.old sp w5) (hd.nbExt x5) (hoo.nbExt x5) hC5.over (by unfold room; omega) λt50 w6 x6 hsep2=>⟨_,rfl,?_⟩)
    have hrt2:=hsep2.read (by rw[Zib]; unfold room; omega)
    refine keyJ t50 w6 (x05.trans x6) ?_
    rw[Zqf hk0 hkx]
    exact hrt2.nbNew (by have:=x05.size; omega)
   clear hJ2
   have s3:=x03.size
   refine⟨sp,rfl,_,hb.at0 x03 rfl,ad,⟨ha,oM,oM⟩,_,(hc _ x03).pre rfl,ad,⟨ha,oM,oM⟩,ns[k].v.ma,ns[k].v.mi,ns[k].v.pa,(hc _ x03).mid (k:=1) rfl,?_,?_⟩
   ·exact SE.Zam.go (Zjk (n:=ns[k].name) (v:=ns[k].v) hcat λd e' o w4 x4 _ hd _ hoo=>⟨_,_,_,_,d,e',o,_,rfl,newS.set rfl λa31 w5 x5 hb5 _=>key2 a31 d e' o w5 (x4.trans x5) hb5 ((hd.dep.nbNew oM).nbExt x5) ((hoo.dep.nbNew oM).nbExt x5)⟩)
   ·refine newS.intro λa37 w4 x4 hb4 hab4 _=> ?_
    exact SE.Zam.go (Zjk (n:=ns[k].name) (v:=ns[k].v) (hcat.ext x4) λd e' o w5 x5 _ hd _ hoo=>⟨_,_,_,_,d,e',o,_,rfl,stw0.intro (hb4.ext x5) sI λw6 b6 _ hb6=>by
     have x6:Ext w3 w6:=b6.ext (x4.trans x5) oM
     have h4:=hb4.lt
     have hn: ¬(λb=>w4.heap.size≤b∧b<w5.heap.size) a37.block:=λh=>by have:=h.1; omega
     have s4:=x4.size
     have s6:=b6.1
     exact key2 a37 d e' o w6 x6 hb6 ((hd.dep.but b6 hn).mono λb hb=>⟨by have:=hb.2; omega,by have:=hb.1; omega⟩) ((hoo.dep.but b6 hn).mono λb hb=>⟨by have:=hb.2; omega,by have:=hb.1; omega⟩)⟩)
  ·have hk0:k=0:=oM
   refine keyJ t24 w2 x02 ?_
   have hw:q.wants ns k=Zgs q.m.over (Zdf q.m q.dev) q.m.opt:=by subst hk0; rfl
   rw[hw,←hC.dev]
   exact hrt.nbNew oM
def slC(s:Sl):List Value:=[s.v]
theorem Z2d(n:Nat):(madeCells (Value.slice none 0 0).cells (n*1))=(((List.replicate n Sl.nil).map slC).flatten).toArray:=by
 have e:((List.replicate n Sl.nil).map slC).flatten=List.replicate n (Value.slice none 0 0):=by
  induction n with
  |zero=>rfl
  |succ n ih=>rw[List.replicate_succ,List.map_cons,List.flatten_cons,ih,List.replicate_succ]; rfl
 rw[e]
 unfold madeCells
 apply Array.ext
 ·simp
 ·intro i h1 h2
  have:(Value.slice none 0 0).cells= #[Value.slice none 0 0]:=rfl
  simp[this,Nat.mod_one]
theorem Zy7:(prog.info? 26).map (λi=>(i.zero,i.size,i.bytes))=some (some (.slice none 0 0),1,24):=kR
theorem Z2e{n:Nat}{w:World}{R:Sl→World→Prop}(hn:n≤1000000)(hR: ∀g w',Ext w w'→g=w.heap.size→RowB slC w' g (List.replicate n Sl.nil) []→R ⟨some ⟨g,0,none⟩,n,n⟩ w'):
  semS prog (Instr.makeSlice 244 (Value.int .i64 (n:Int)) (Value.int .i64 (n:Int))) w λv w'=>∃t:Sl,v=Sl.v t∧R t w':=by
 obtain⟨i,h2,hi⟩:=Option.map_eq_some_iff.1 Zy7
 simp only[Prod.mk.injEq]at hi
 obtain⟨h3,h5,h6⟩:=hi
 refine⟨_,_,run_make w 244 26 i (.slice none 0 0) underlying244 h2 h3 .i64 .i64 n n oM (Int.le_refl _) (by rw[h6]; omega) oM,⟨some ⟨w.heap.size,0,none⟩,n,n⟩,by simp[Sl.v],?_⟩
 refine newS.intro (cs:=((List.replicate n Sl.nil).map slC).flatten++ []) (t:=26) (k:=λa w'=>R ⟨some a,n,n⟩ w') (λa w' hx hb ha hs=>?_) _ _ rfl ?_
 ·have hb2:=hb
  obtain⟨t,h0,hs',_⟩:=hb2
  obtain⟨b,o,s⟩:=a
  simp only at h0 hs' ha
  subst h0 hs'
  exact hR b w' hx ha hb
 ·rw[List.append_nil,←Z2d,Int.toNat_natCast,h5]
theorem Zrq{s:Sl}{l:List Node}{S:Nat→Prop}{w:World}{R:Sl→World→Prop}(hS:Old S w)(hs:SlR nodeE w S s l)(hR: ∀t w',Ext w w'→OwnS nodeE 72 w' w.heap.size S t l→R t w'):SE.Za7 s w R:=by
 unfold SE.Za7
 refine⟨λh=>?_,λh=>?_⟩
 ·have:l= []:=by
   rcases hs.2.2.2.2 with h0|⟨ad,h1,_⟩
   ·exact h0
   ·rw[h]at h1; cases h1
  subst this
  exact hR _ _ xR ((OwnS.nil _ _).mono (λ_ h=>h.elim) hS λ_ h=>by cases h)
 ·intro a w1 ha hw
  subst ha
  have x1:Ext w w1:=hw▸Ext.alloc _ _
  have own:OwnS nodeE 72 w1 w.heap.size None' ⟨some ⟨w.heap.size,0,none⟩,0,0⟩ []:=hw▸OwnS.empty w
  refine own.appAll Zu4 x1.size (hs.ext x1) (hS.ext x1.size) (λad ha hb=>?_) (by simpa using hs.2.2.2.1) (by simpa using hs.max) λr w2 own2 bel _ _=> ?_
  ·simp only[Option.some.injEq]at ha
   subst ha
   have:=hS _ hb
   simp at this
  ·have x2:=x1.trans' bel
   exact hR r w2 x2 (own2.mono (λb h=>h.elim (λh=>h.elim) id) (hS.ext x2.size) λad had hb=>by have:=(own2.block had).1; have:=hS _ hb; omega)
theorem Zzu{a b:Pin}{w:World}{R:Int→World→Prop}(hR: ∀w',Gr w w'→R (cmpS a.name b.name) w'):SE.Zcx a.name a.v.ma a.v.mi a.v.pa b.name b.v.ma b.v.mi b.v.pa w R:=by
 unfold SE.Zcx
 refine newS.gr λ_ w1 x1 hb=>newS.gr λ_ w2 x2 hb2=>⟨_,Gr.at0 hb x2 rfl,_,Gr.at0 hb2 (Gr.refl _) rfl,Zja ⟨_,rfl,hR _ (x1.trans x2)⟩⟩
theorem Zry:Zfv prog 149:=enters_of func149 kR rfl
theorem Zxm{w:World}{lo:Nat}{s:Sl}{l:List Pin}{K:Value→World→Prop}(h:FlatO pinC 40 w lo s l)(hlo:lo≤w.heap.size)(hn:(l.map (·.name)).Nodup)
  (hK: ∀w',Below lo w w'→FlatO pinC 40 w' lo s (Zaw l)→K (.tuple #[]) w'):
  callS prog 115 [Sl.v s,.func (.func 149) #[] #[]] w K:=by
 obtain⟨h1,h2,h3,h4,h5⟩:=h
 obtain⟨a,n,c⟩:=s
 simp only at h1 h2 h3 h5
 subst h1
 rcases h5 with rfl|⟨g,tail,ha,hg,hr⟩
 ·refine(AnyF.slices_SortFunc_none Tryz.laySp a c _ w).mono λe w' ⟨he,hw⟩=>⟨_,he,?_⟩
  subst hw
  exact hK _ (Below.refl _ _) ⟨rfl,h2,h3,h4,.inl rfl⟩
 ·subst ha
  have hO:=Zgb (α:=Pin) (·.name)
  refine Zf7 Tryz.laySp (k:=4) Z3y Z0f (f:=pinC) (λ_=>rfl) (λx v hv=>by simp[pinC]at hv; rcases hv with rfl|rfl|rfl|rfl<;>rfl) (λa b=>cmpS a.name b.name) (Zjb hO.flip hO.trans) 149 #[] Zry (λw0 x y hb _=> ?_) hr (by unfold room at h4; omega) rfl λl' w' hp hs b hr'=>?_
  ·have h:=SE.Zcx.go (k:=λv w'=>v= .int .i64 (cmpS x.name y.name)∧Gr w0 w') (Zzu (a:=x) (b:=y) (w:=w0) λw' h=>⟨rfl,h⟩)
   exact Calls.mono h λe w' ⟨v,he,hv,hg⟩=>⟨by rw[he,hv],hg⟩
  ·have e:l'=Zaw l:=by
    refine Rises.one ?_ (Zf8 hn) (hp.trans (Zbk l).symm)
    have hn':(l'.map (·.name)).Nodup:=(hp.map _).nodup_iff.2 hn
    rw[List.nodup_iff_pairwise_ne,List.pairwise_map]at hn'
    exact(hs.and hn').imp λ{a b} h=>Zrm (by have:=hO.flip b a; have:=hO.flip a b; omega) h.2
   subst e
   have hl:=(Zbk l).length_eq
   exact hK w' (b.below hlo hg) ⟨hl.symm,by rw[hl]; exact h2,h3,by rw[hl]; exact h4,.inr ⟨g,tail,rfl,hg,hr'⟩⟩
theorem Z0p{e:List Pin}{n:ByteArray}:(∃v,tells e n=some v∧e.any (isN n)=true)∨(tells e n=none∧e.any (isN n)=false):=by
 cases h:tells e n with
 |some v=>exact .inl ⟨v,rfl,Zx1 (Zte h) rfl⟩
 |none=>exact .inr ⟨rfl,Z3l (Zxp h)⟩
theorem Z5d{c chs:Sl}{l ch:List Pin}{S T:Nat→Prop}{w:World}{R:Sl→World→Prop}(hS:Old S w)(hc:SlR pinE w S c l)(hch:SlR pinE w T chs ch)(hl:l.length≤4000)(hcl:ch.length≤4000)
  (hR: ∀t w',Ext w w'→OwnS pinE 78 w' w.heap.size None' t (envC l ch)→R t w'):
  callS prog 86 [c.v] w λv vw=>∃(t26:Sl),v=(Sl.v t26)∧loop2 t26 0 vw λenv t29 vw1 nxt=>((t29<(chs.len:Int)→join (λ(env2:Sl) (vw3:World)=>nxt env2 (Za (t29+1)) vw3) λvJ=>∃(ad4:Addr),(chs.a=some ad4∧(0:Int)≤t29∧t29<(chs.len:Int))∧ ∃(n:ByteArray) (x y z:Int),(ldc vw1 (ad4.add (t29.toNat*4)) [(Value.string n),(Value.int .i64 x),(Value.int .i64 y),(Value.int .i64 z)])∧newS vw1 [(Value.string (ByteArray.mk #[])),(Value.int .i64 0),(Value.int .i64 0),(Value.int .i64 0)] 78 λa vw7=>stw vw7 a [(Value.string n),(Value.int .i64 x),(Value.int .i64 y),(Value.int .i64 z)] λvw8=>∃(t36:ByteArray),(ldc vw8 a [(Value.string t36)])∧callS prog 84 [(Sl.v env),(Value.string t36)] vw8 λv11 vw10=>∃(p q r:Int) (t37b:Bool),v11=(Value.tuple #[(Value.agg #[(Value.int .i64 p),(Value.int .i64 q),(Value.int .i64 r)]),(Value.bool t37b)])∧newS vw10 [(Value.int .i64 0),(Value.int .i64 0),(Value.int .i64 0)] 50 λa13 vw14=>stw vw14 a13 [(Value.int .i64 p),(Value.int .i64 q),(Value.int .i64 r)] λvw15=>(((!t37b)=true→ ∃(n:ByteArray) (x y z:Int),(ldc vw15 a [(Value.string n),(Value.int .i64 x),(Value.int .i64 y),(Value.int .i64 z)])∧newS vw15 [(Value.string n),(Value.int .i64 x),(Value.int .i64 y),(Value.int .i64 z)] 78 λa17 vw18=>appS prog 26 26 env (Sl.v (Sl.mk (some a17) 1 1)) vw18 λt45 vw19=>vJ t45 vw19)∧((!t37b)=false→vJ env vw15)))∧(¬(t29<(chs.len:Int))→R env vw1)):=by
 have hchl:=hch.len
 refine SE.Zat.go (clonePin_se hS hc λt26 w1 x1 o1=>⟨_,rfl,?_⟩)
 refine loop2.up hch.max (λso i w'=>Ext w w'∧OwnS pinE 78 w' w.heap.size None' so (envC l (ch.take i))) ⟨x1,o1⟩ λso i w2 nxt hi ⟨x2,o2⟩ hn=>⟨λhlt=>join.named λJ hJ=>?_,λhge=>?_⟩
 ·have hlt':i<ch.length:=oM
  obtain⟨ap,hap,_,hst,hcp⟩:=Zhz hch hlt'
  have htk:ch.take (i+1)=ch.take i++ [ch[i]]:=List.take_succ_eq_append_getElem hlt'
  have hJ': ∀so' w',Ext w w'→OwnS pinE 78 w' w.heap.size None' so' (addO (envC l (ch.take i)) ch[i].name (some ch[i].v))→J so' w':=λso' w' h1 h2=>by
   subst hJ
   refine hn hlt' so' w' ⟨h1,?_⟩
   rw[htk,Zr4]; exact h2
  have hel:=Zvc l (ch.take i)
  have htl:(ch.take i).length≤ch.length:=by rw[List.length_take]; omega
  clear hJ hn
  rw[Zl2]at hJ'
  generalize ch[i]=p at*
  generalize envC l (ch.take i)=e at*
  refine⟨ap,⟨hap,oM,hlt⟩,_,_,_,_,hcp _ x2,newS.set rfl λa w3 x3 hb3 _=>⟨_,hb3.at0 xR rfl,?_⟩⟩
  have x03:=x2.trans x3
  have o3:=o2.ext x3
  rcases Z0p (e:=e) (n:=p.name)with⟨v,h1,h2⟩|⟨h1,h2⟩
  ·refine SE.Zc7.go (Zi7 (o3.pins oM) (λv' w4 hv x4=>⟨_,_,_,_,rfl,newS.set rfl λa13 w5 x5 _ _=>⟨nO,λ_=> ?_⟩⟩) λw4 hv x4=>by rw[h1]at hv; cases hv)
   rw[h2]at hJ'
   exact hJ' so w5 (x03.trans (x4.trans x5)) (o3.ext (x4.trans x5))
  ·refine SE.Zc7.go (Zi7 (o3.pins oM) (λv' w4 hv x4=>by rw[h1]at hv; cases hv) λw4 hv x4=>⟨_,_,_,_,rfl,newS.set rfl λa13 w5 x5 _ _=>⟨λ_=> ?_,nO⟩⟩)
   rw[h2]at hJ'
   refine⟨_,_,_,_,(hb3.ext (x4.trans x5)).ldc.pre (r:=[]) rfl,newS.intro λa17 w6 x6 hb6 _ _=> ?_⟩
   have x36:=x4.trans (x5.trans x6)
   refine(o3.ext x36).pushF (x03.trans x36) Zoz (x:=p) ⟨rfl,hst⟩ (hb6.ldc.pre (r:=[]) rfl) dC (by show(e.length+1)*40≤room; unfold room; omega) λr w7 o7 x7=>hJ' r w7 x7 o7
 ·rw[List.take_of_length_le oM]at o2
  exact hR so w2 x2 o2
def Z7b(t:Stl):List Value:=[.int .i64 (t.src:Int),.int .i64 (t.dst:Int),.string t.label]
def Zw0:Enc Stl:=Zo6 3 32 Z7b (λt=>Str t.label) (λ_=>rfl) (λ_ v hv=>by simp[Z7b]at hv; rcases hv with rfl|rfl|rfl<;>rfl)
section
variable {w:World} {p:Addr} {S Q:Nat→Prop} {c:PC} {G:List Node} {P:List Pack} {old:Option (List Dir)} {s:PlS}
end
theorem Z4g(q:Pin)(n:ByteArray):bEq q.name n=isN n q:=by
 rw[Bool.eq_iff_iff,Zca]
 unfold isN
 simp
theorem Zr0:Zfv prog 132:=enters_of func132 kR rfl
section
variable {w:World} {p:Addr} {S Q:Nat→Prop} {c:PC} {G:List Node} {P:List Pack} {old:Option (List Dir)} {s:PlS}
theorem Z2q{E:Enc Stl}{i:Nat}{e:Edge}{R:Int→World→Prop}(h:PlV E w p S c G P old s)(hi:i<s.dirs.length)(hnd: ∀d∈s.dirs,d.node<G.length)(hx:Str e.name)(hto:0≤e.to∧e.to<(G.length:Int))
  (hR: ∀w',Ext w w'→R (Z44 G (Zss s.dirs i) e:Nat) w'):SE.Zdr (some p) (i:Int) e.name e.to w R:=by
 unfold SE.Zdr
 have hdl:=Zqt h
 have hgl:=h.g.len
 obtain⟨ad,_,_,_,_,ha,_,_,_,_,_,_,hc⟩:=h.dirEl hi
 have e1:Zss s.dirs i=s.dirs[i].node:=Zzo (List.getElem?_eq_getElem hi)
 have hn:s.dirs[i].node<G.length:=hnd _ (List.getElem_mem hi)
 rw[e1]at hR
 generalize s.dirs[i].node=nd at*
 obtain⟨adg,cg,eg,hag,_,hcg,_,hldg⟩:=Zff h.g hn
 obtain⟨en,hen⟩: ∃en:Nat,e.to=(en:Int):=⟨e.to.toNat,oM⟩
 have henl:en<G.length:=oM
 obtain⟨adt,ct,et,hat,_,hct,_,hldt⟩:=Zff h.g henl
 have hctl:=hct.len
 have ek1:Zwi G nd=G[nd].ctx:=by unfold Zwi; rw[List.getElem?_eq_getElem hn]
 have ek2:Zwi G e.to.toNat=G[en].ctx:=by rw[hen,Int.toNat_natCast]; unfold Zwi; rw[List.getElem?_eq_getElem henl]
 unfold Z44 at hR
 rw[ek1,ek2]at hR
 refine newS.intro λa w1 x1 hb1 _ _=>bnd.drew λw2 x2=>?_
 have x02:=x1.trans x2
 refine⟨p,rfl,c.u,h.ld0 x02,p,rfl,c.dr,h.ld x02 7 rfl,ad,⟨ha,oM,oM⟩,(nd:Int),by rw[Int.toNat_natCast]; exact(hc _ x02).mid (k:=8) (r:=[]) rfl,adg,⟨hag,oM,oM⟩,cg,by rw[Int.toNat_natCast]; exact(hldg _ x02).mid (k:=4) rfl,?_⟩
 refine SE.Zz.go (Zrs (p:=isN e.name) (hcg.ext x02) (λq _ w3 k3 x3 hk3=>⟨_,_,rfl,Zr0,SE.Zd4.go ?_⟩) λw3 x3=>⟨_,rfl,λhk=>?_,λhk=>bnd.drew λw4 x4=>?_⟩)
 ·unfold SE.Zd4
  refine newS.intro λa4 w4 x4 hb4 _ _=>⟨_,hb4.at0 xR rfl,e.name,hb1.at0 (x2.trans (x3.trans x4)) rfl,?_⟩
  rw[Z4g]
  exact hk3 w4 x4
 ·have:=hR w3 (x02.trans x3)
  rw[if_pos hk]at this; exact this
 ·rw[if_neg (by rw[hk]; decide)]at hR
  have x04:=x02.trans (x3.trans x4)
  refine⟨p,rfl,c.u,h.ld0 x04,e.to,hb1.at1 (k:=1) (r:=[]) (x2.trans (x3.trans x4)) rfl,adt,⟨hat,oM,oM⟩,ct,by rw[hen,Int.toNat_natCast]; exact(hldt _ x04).mid (k:=4) rfl,λh0=>?_,λh0=>?_⟩
  ·have:=hR w4 x04
   rw[if_pos oM]at this; exact this
  ·have:=hR w4 x04
   rw[if_neg oM]at this; exact this
end
def slcE:Enc Sl:=Zo6 1 24 slC (λ_=>True) (λ_=>rfl) (λ_ v hv=>by simp[slC,Sl.v]at hv; subst hv; rfl)
theorem Z74:ApT prog 294 102 1 24:=Zhe (z:=.slice none 0 0) kR kR rfl dC
theorem OldR.some_{w:World}{S:Nat→Prop}{old:Option (List Dir)}{ol:Option Addr}(h:OldR w S old ol)(h0: ¬ol=none): ∃ao T,ol=some ao∧old=some T∧S ao.block∧ ∃so,ldc w ao [Sl.v so]∧SlR dirE w S so T:=by
 cases ol with
 |none=>exact absurd rfl h0
 |some ao=>
  cases old with
  |none=>exact h.elim
  |some T=>exact⟨ao,T,rfl,rfl,h⟩
section
variable {w:World} {p:Addr} {S Q:Nat→Prop} {c:PC} {G:List Node} {P:List Pack} {old:Option (List Dir)} {s:PlS}
end
end Go.Hal
namespace Go.Hal
open Go.Proofs.Tryz
end Go.Hal
namespace Go.Hal
open Go.Proofs.Tryz
def pl0:PlS:=⟨[⟨[],0⟩],[]⟩
def LimP(D M:Int):Prop:=1≤D∧D≤256∧1≤M∧M≤1024
end Go.Hal
namespace Go.Hal
open Go.Proofs.Tryz
open Go Go.RowKit Go.Proofs Go.Shelf
theorem Zyn{w:World}{S:Nat→Prop}{s:Sl}{l:List Edge}(h:SlR edgeE w S s l){n:Nat}(hn:n<l.length):
  ∃ad,s.a=some ad∧Str l[n].name∧ ∀w',Ext w w'→ldc w' (ad.add (n*2)) [.string l[n].name,.int .i64 l[n].to]:=by
 obtain⟨ad,cs,h1,h2,⟨rfl,h3⟩,h4⟩:=h.el hn
 exact⟨ad,h1,h3,h4⟩
def Z48(m:Mani):Int:=if Zb1 m then 0 else 25
def Z49(m:Mani):ByteArray:=if Zb1 m then B (Zgw m)else⟨#[]⟩
theorem Zo7{m:Mani}(h:Zb1 m=true):Zc5 m=true:=by
 unfold Zb1 at h
 rw[Bool.and_eq_true]at h; exact h.1
theorem Zsp{m:Mani}{d e o v:Sl}{S:Nat→Prop}{w:World}{R:ByteArray→Int→World→Prop}(ht:Tab w)(hS:Old S w)(hd:SlR depE w S d m.deps)(he:SlR depE w S e m.dev)(ho:SlR depE w S o m.opt)(hv:SlR depE w S v m.over)
  (hR: ∀w',Ext w w'→R (Z49 m) (Z48 m) w'):SE.Ze7 d e o v w R:=by
 unfold SE.Ze7
 refine newS.intro λa w1 x1 hb1 _ _=>⟨d,e,o,v,hb1.ldc.pre (r:=[]) rfl,?_⟩
 refine SE.Zen.go (Zme (m:=m) (ht.ext x1) (hS.ext x1.size) (hd.ext x1) (he.ext x1) (ho.ext x1) (hv.ext x1) λw2 x2=>⟨_,rfl,λh=>?_,λh=>?_⟩)
 ·have h:Zb1 m=false:=by simpa using h
  have hr:=hR w2 (x1.trans x2)
  unfold Z49 Z48 at hr
  rw[h]at hr; exact hr
 ·have h:Zb1 m=true:=by simpa using h
  have x02:=x1.trans x2
  refine⟨d,e,o,v,(hb1.ext x2).ldc.pre (r:=[]) rfl,?_⟩
  refine SE.Ze0.go (Zn8 (m:=m) (ht.ext x02) (Zo7 h) (hd.ext x02) (he.ext x02) (ho.ext x02) (hv.ext x02) λw3 x3=>⟨_,rfl,?_⟩)
  have hr:=hR w3 (x02.trans x3)
  unfold Z49 Z48 at hr
  rw[h]at hr; exact hr
section
variable {w w':World} {lo:Nat} {s:Sl} {l:List Int}
end
section
variable {w w':World} {lo:Nat} {m rest:Sl} {M Q:List Int}
theorem Z3x(h:OwnS intE 3 w lo None' m M){i:Nat}(hi:i<M.length): ∃ad,m.a=some ad∧ ∀w',Ext w w'→ldc w' (ad.add (i*1)) [.int .i64 M[i]]:=by
 obtain⟨ad,cs,h1,⟨rfl,_⟩,h3⟩:=h.el (List.getElem?_eq_getElem hi)
 exact⟨ad,h1,h3⟩
end
theorem Zso(n:Nat):(madeCells (Value.int .i64 0).cells (n*1))=(((List.replicate n (0:Int)).map λx=>[Value.int .i64 x]).flatten).toArray:=by
 have e:((List.replicate n (0:Int)).map λx=>[Value.int .i64 x]).flatten=List.replicate n (Value.int .i64 0):=by
  induction n with
  |zero=>rfl
  |succ n ih=>rw[List.replicate_succ,List.map_cons,List.flatten_cons,ih,List.replicate_succ]; rfl
 rw[e]
 unfold madeCells
 apply Array.ext
 ·simp
 ·intro i h1 h2
  have:(Value.int .i64 0).cells= #[Value.int .i64 0]:=rfl
  simp[this,Nat.mod_one]
theorem Z13:(prog.info? 3).map (λi=>(i.zero,i.size,i.bytes))=some (some (.int .i64 0),1,8):=kR
theorem Zzk{n:Nat}{w:World}{R:Sl→World→Prop}(hn:n≤1000000)(hR: ∀t w',Ext w w'→OwnS intE 3 w' w.heap.size None' t (List.replicate n 0)→(∃ad,t.a=some ad)→R t w'):
  semS prog (Instr.makeSlice 132 (Value.int .i64 (n:Int)) (Value.int .i64 (n:Int))) w λv w'=>∃t:Sl,v=Sl.v t∧R t w':=by
 obtain⟨i,h2,hi⟩:=Option.map_eq_some_iff.1 Z13
 simp only[Prod.mk.injEq]at hi
 obtain⟨h3,h5,h6⟩:=hi
 refine⟨_,_,run_make w 132 3 i (.int .i64 0) underlying132 h2 h3 .i64 .i64 n n oM (Int.le_refl _) (by rw[h6]; omega) oM,⟨some ⟨w.heap.size,0,none⟩,n,n⟩,by simp[Sl.v],hR _ _ (Ext.alloc _ _) ?_ ⟨_,rfl⟩⟩
 have ef:((List.replicate n (0:Int)).map λx=>[Value.int .i64 x]).flatten.length=n*1:=by rw[Zh1 (k:=1) _ (λ_=>rfl),List.length_replicate]
 refine⟨⟨(List.replicate n (0:Int)).map λx=>[Value.int .i64 x],⟨ef,.inr ⟨w.heap.size,n,_,rfl,Nat.le_refl _,heap_alloc_new w _,Nat.le_refl _,by rw[Zb]; omega,?_,?_⟩⟩,by simp,λi x hx=>?_⟩,by simp,λ_ h=>h.elim,λ_ _ h=>h.elim⟩
 ·rw[Int.toNat_natCast,h5,Zso]
  rw[List.size_toArray]; exact ef
 ·rw[Int.toNat_natCast,h5,Zso]
  show List.take (n*1) _=_
  rw[List.toList_toArray]
  exact List.take_of_length_le (by rw[ef]; exact Nat.le_refl _)
 ·rw[List.getElem?_map,hx]
  exact⟨_,rfl,rfl,trivial⟩
theorem OwnS.setInt{w:World}{lo:Nat}{m:Sl}{M:List Int}(h:OwnS intE 3 w lo None' m M){i:Nat}{x:Int}(hi:i<M.length){ad:Addr}(ha:m.a=some ad){K:World→Prop}
  (hK: ∀w',But ad.block w w'→w'.heap.size=w.heap.size→lo≤ad.block→OwnS intE 3 w' lo None' m (M.set i x)→K w'):stw w (ad.add (i*1)) [.int .i64 x] K:=by
 have hs:=h.setEl (i:=i) (x:=x) (o:=0) (new:=[.int .i64 x]) hi ha (λcs hcs=>by
  obtain⟨rfl,_⟩:=hcs
  exact⟨rfl,trivial⟩) (by show 0+1≤1; omega) (K:=K) λw' hb hz o=>hK w' hb hz (h.block ha).1 o
 rw[add_zero]at hs
 exact hs
theorem newS.setT{w:World}{zs cs:List Value}{t:TypeId}{k:Addr→World→Prop}(hl:cs.length=zs.length)(h: ∀a w',Ext w w'→BoxT t w' a cs→a.block=w.heap.size→k a w'):newS w zs t λa w1=>stw w1 a cs λw2=>k a w2:=
 newS.introT λa w1 x1 ha hab hsz=>stw0.introT ha hl λw2 b2 hz ha2=>h a w2 (b2.ext x1 oM) ha2 hab
end Go.Hal
namespace Go.Hal
open Go.Proofs.Tryz
def Z6f(D N Di P:Int):Prop:=1≤D∧D≤4096∧1≤N∧N≤128∧LimP Di P
end Go.Hal
namespace Go.Hal
open Go.Proofs.Tryz
open Go Go.RowKit Go.Proofs Go.Shelf
theorem plim_se{D N Di P:Int}{w:World}{R:Bool→World→Prop}(hR: ∀b w',Ext w w'→(b=true↔Z6f D N Di P)→R b w'):SE.Zgh D N Di P w R:=by
 unfold SE.Zgh
 have r:=Ext.refl
 refine newS.intro λa w1 x1 ha _ _=>⟨D,ha.at0 (r _) rfl,bound ⟨D,λ_=>ha.at0 (r _) rfl,bound ⟨N,λ_=>ha.at1 (r _) rfl,bound ⟨N,λ_=>ha.at1 (r _) rfl,bound ⟨Di,λ_=>ha.at1 (r _) rfl,bound ⟨Di,λ_=>ha.at1 (r _) rfl,bound ⟨P,λ_=>ha.at1 (r _) rfl,bound ⟨P,λ_=>ha.at1 (r _) rfl,hR _ w1 x1 ?_⟩⟩⟩⟩⟩⟩⟩⟩
 unfold Z6f LimP
 simp only[Bool.and_eq_true,decide_eq_true_eq,and_assoc]
structure ManS(w:World)(S:Nat→Prop)(d e o v:Sl)(m:Mani):Prop where
 d:SlR depE w S d m.deps
 e:SlR depE w S e m.dev
 o:SlR depE w S o m.opt
 v:SlR depE w S v m.over
theorem ManS.ext{w w':World}{S:Nat→Prop}{d e o v:Sl}{m:Mani}(h:ManS w S d e o v m)(hx:Ext w w'):ManS w' S d e o v m:=⟨h.d.ext hx,h.e.ext hx,h.o.ext hx,h.v.ext hx⟩
theorem ManS.mono{w:World}{S S':Nat→Prop}{d e o v:Sl}{m:Mani}(h:ManS w S d e o v m)(hs: ∀b,S b→S' b):ManS w S' d e o v m:=⟨h.d.mono hs,h.e.mono hs,h.o.mono hs,h.v.mono hs⟩
def jobC(d e o v p:Sl)(old:Option Addr)(pr:Bool):List Value:=[Sl.v d,Sl.v e,Sl.v o,Sl.v v,Sl.v p,.pointer old,.bool pr]
def JobOut(w:World)(a a3:Addr)(c:Int)(R:Sl→Sl→Sl→Sl→Sl→Option Addr→Bool→Int→World→Prop):Prop:=
 ∃(d e o v p:Sl) (old:Option Addr) (pr:Bool),ldc w a [Sl.v d,Sl.v e,Sl.v o,Sl.v v,Sl.v p,.pointer old,.bool pr]∧stw w a3 [Sl.v d,Sl.v e,Sl.v o,Sl.v v,Sl.v p,.pointer old,.bool pr] λw'=>
  ∃(d e o v p:Sl) (old:Option Addr) (pr:Bool),ldc w' a3 [Sl.v d,Sl.v e,Sl.v o,Sl.v v,Sl.v p,.pointer old,.bool pr]∧R d e o v p old pr c w'
theorem JobOut.mk{w:World}{a a3:Addr}{c:Int}{R:Sl→Sl→Sl→Sl→Sl→Option Addr→Bool→Int→World→Prop}{d e o v p:Sl}{old:Option Addr}{pr:Bool}{cs:List Value}(ha:BoxAt w a (jobC d e o v p old pr))(h3:BoxAt w a3 cs)(hl:cs.length=7)
  (hR: ∀w',But a3.block w w'→R d e o v p old pr c w'):JobOut w a a3 c R:=
 ⟨d,e,o,v,p,old,pr,ha.at0 (r:=[]) xR rfl,stw0.intro h3 (by rw[hl]; exact Nat.le_refl _) λw' b _ hb=>⟨d,e,o,v,p,old,pr,hb.at0 xR rfl,hR w' b⟩⟩
structure MlV(E:Enc Stl)(T:TypeId)(w:World)(lo:Nat)(p:Addr)(S:Nat→Prop)(c:PC)(G:List Node)(P:List Pack)(old:Option (List Dir))(s:PlS):Prop where
 box:BoxAt w p c.c
 plo:lo≤p.block
 g:SlR nodeE w S c.u G
 pk:SlR packE w S c.ps P
 old:OldR w S old c.ol
 lt:Old S w
 nS: ¬S p.block
 dr: ∃D,OwnS dirE 104 w lo D c.dr (s.dirs.map (Zqs P))∧ ¬D p.block∧(∀ad,c.st.a=some ad→ ¬D ad.block)∧ ∀b,D b→S b∨p.block<b
 st:OwnS E T w lo None' c.st s.done
 drP: ∀ad,c.dr.a=some ad→ad.block≠p.block∧ ¬S ad.block
 stP: ∀ad,c.st.a=some ad→ad.block≠p.block∧ ¬S ad.block
 apart: ∀a b,c.dr.a=some a→c.st.a=some b→a.block≠b.block
section
variable {E:Enc Stl} {T:TypeId} {w w':World} {lo:Nat} {p:Addr} {S:Nat→Prop} {c:PC} {G:List Node} {P:List Pack} {old:Option (List Dir)} {s:PlS}
theorem MlV.ext(h:MlV E T w lo p S c G P old s)(hx:Ext w w'):MlV E T w' lo p S c G P old s:=by
 obtain⟨D,h1,h2⟩:=h.dr
 exact⟨h.box.ext hx,h.plo,h.g.ext hx,h.pk.ext hx,h.old.ext hx,h.lt.ext hx.size,h.nS,⟨D,h1.ext hx,h2⟩,h.st.ext hx,h.drP,h.stP,h.apart⟩
theorem MlV.read(h:MlV E T w lo p S c G P old s)(hd:s.dirs.length≤1000)(hs:s.done.length*E.bytes≤room∧s.done.length≤maxLen):PlV E w p (λb=>b<w.heap.size) c G P old s:=by
 obtain⟨D,h1,_⟩:=h.dr
 have r1:=h1.read (by rw[List.length_map]; show s.dirs.length*144≤room; unfold room; omega) (by rw[List.length_map,Zb]; omega)
 have r2:=h.st.read hs.1 hs.2
 refine⟨h.box,h.g.mono λb hb=>h.lt b hb,h.pk.mono λb hb=>h.lt b hb,r1.mono λb hb=>?_,r2.mono λb hb=>?_,?_,λb hb=>hb⟩
 ·rcases hb with hb|⟨ad,ha,rfl⟩
  ·exact h1.lt b hb
  ·exact(h1.block ha).2.1
 ·rcases hb with hb|⟨ad,ha,rfl⟩
  ·exact hb.elim
  ·exact(h.st.block ha).2.1
 ·have ho:=h.old
  unfold OldR at ho ⊢
  split at ho
  ·trivial
  ·obtain⟨k1,so,k2,k3⟩:=ho
   exact⟨h.lt _ k1,so,k2,k3.mono λb hb=>h.lt b hb⟩
  ·exact ho
theorem OldR.keep{ol:Option Addr}(h:OldR w S old ol)(hk:Keep S w w'):OldR w' S old ol:=by
 unfold OldR at*
 split at h
 ·trivial
 ·obtain⟨h1,so,h2,h3⟩:=h
  exact⟨h1,so,h2.keep h1 hk,h3.keep hk⟩
 ·exact h
structure Mv(lo:Nat)(p:Addr)(c:PC)(w:World)(c':PC)(w':World):Prop where
 bel:Below lo w w'
 oth: ∀b,b<w.heap.size→b≠p.block→(∀ad,c.dr.a=some ad→b≠ad.block)→(∀ad,c.st.a=some ad→b≠ad.block)→w'.heap[b]? =w.heap[b]?
 dr: ∀ad,c'.dr.a=some ad→c.dr.a=some ad∨w.heap.size≤ad.block
 st: ∀ad,c'.st.a=some ad→c.st.a=some ad∨w.heap.size≤ad.block
 same:c'={c with dr:=c'.dr,st:=c'.st}
theorem Mv.size{c':PC}(h:Mv lo p c w c' w'):w.heap.size≤w'.heap.size:=Below.size h.bel
theorem Mv.of{c:PC}(hx:Ext w w')(hl:lo≤w.heap.size):Mv lo p c w c w':=⟨Below.mono hx hl,λ_ hb _ _ _=>hx.block hb,λ_ h=>.inl h,λ_ h=>.inl h,rfl⟩
theorem Mv.trans{c1 c2:PC}{w1 w2:World}(h:Mv lo p c w c1 w1)(k:Mv lo p c1 w1 c2 w2):Mv lo p c w c2 w2:=by
 have hs:=h.size
 refine⟨Below.trans h.bel k.bel,λb hb h1 h2 h3=>?_,λad ha=>?_,λad ha=>?_,?_⟩
 ·rw[k.oth b oM h1 (λad ha e=>?_) λad ha e=>?_,h.oth b hb h1 h2 h3]
  ·rcases h.dr ad ha with q|q
   ·exact h2 ad q e
   ·omega
  ·rcases h.st ad ha with q|q
   ·exact h3 ad q e
   ·omega
 ·rcases k.dr ad ha with q|q
  ·exact h.dr ad q
  ·right; omega
 ·rcases k.st ad ha with q|q
  ·exact h.st ad q
  ·right; omega
 ·rw[k.same,h.same]
theorem Mv.box{c':PC}(h:Mv lo p c w c' w'){a:Addr}{cs:List Value}(hb:BoxAt w a cs)(h1:a.block≠p.block)(h2: ∀ad,c.dr.a=some ad→a.block≠ad.block)(h3: ∀ad,c.st.a=some ad→a.block≠ad.block):BoxAt w' a cs:=
 hb.keep (S:=λb=>b≠p.block∧(∀ad,c.dr.a=some ad→b≠ad.block)∧ ∀ad,c.st.a=some ad→b≠ad.block) ⟨h1,h2,h3⟩ λb hb hl=>h.oth b hl hb.1 hb.2.1 hb.2.2
theorem MlV.lo_le(h:MlV E T w lo p S c G P old s):lo≤w.heap.size:=by have:=h.plo; have:=h.box.lt; omega
theorem MlV.mv{c':PC}(h:MlV E T w lo p S c G P old s)(k:Mv lo p c w c' w'):Keep S w w':=λb hb hl=>k.oth b hl (λe=>h.nS (e▸hb)) (λad ha e=>(h.drP ad ha).2 (e▸hb)) λad ha e=>(h.stP ad ha).2 (e▸hb)
theorem MlV.pushD{Q:Nat→Prop}{a:Addr}{cs:List Value}{x:Dr}{K:World→Prop}(h:MlV E T w lo p S c G P old s)(hx:dirE.rep w Q (Zqs P x) cs)(hc:ldc w a cs)
  (hQ: ∀b,Q b→b<w.heap.size∧b≠p.block∧(∀ad,c.dr.a=some ad→b≠ad.block)∧(∀ad,c.st.a=some ad→b≠ad.block)∧(S b∨p.block<b)) (hl:s.dirs.length≤1000)
  (hk: ∀r w',MlV E T w' lo p S {c with dr:=r} G P old ⟨s.dirs++ [x],s.done⟩→Mv lo p c w {c with dr:=r} w'→K w'):
  appS prog 53 53 c.dr (Sl.v ⟨some a,1,1⟩) w λt w1=>∃p1:Addr,some p=some p1∧stw w1 (p1.add 7) [Sl.v t] K:=by
 obtain⟨D,o,hDp,hDs,hDl⟩:=h.dr
 have hpl:=h.box.lt
 refine o.push Z73 h.lo_le hx hc (λb hb=>(hQ b hb).1) (λad ha hb=>(hQ _ hb).2.2.1 ad ha rfl) (by rw[List.length_map]; show _*144≤room; unfold room; omega) (by rw[List.length_map,Zb]; omega) λr w1 o1 bel oth reg=>⟨p,rfl,?_⟩
 have hs1:=Below.size bel
 have hb1:BoxAt w1 p c.c:=h.box.keep (S:=λb=>∀ad,c.dr.a=some ad→b≠ad.block) (λad ha e=>(h.drP ad ha).1 e.symm) λb hb hl=>oth b hl hb
 refine stw.intro (old:=c.c) hb1 (o:=7) (by show 7+1≤9; omega) λw2 b2 hz2 hb2=>?_
 have hs2:=b2.1
 have hoth: ∀b,b<w.heap.size→b≠p.block→(∀ad,c.dr.a=some ad→b≠ad.block)→w2.heap[b]? =w.heap[b]? :=λb hb h1 h2=>(b2.2.2.2.2 b oM h1).trans (oth b hb h2)
 have mv:Mv lo p c w {c with dr:=r} w2:=⟨Below.trans bel (b2.below (by have:=h.lo_le; omega) h.plo),λb hb h1 h2 _=>hoth b hb h1 h2,reg,λ_ h=>.inl h,rfl⟩
 have hkp:=h.mv mv
 have hrp: ∀ad,r.a=some ad→ad.block≠p.block∧ ¬S ad.block:=λad ha=>by
  rcases reg ad ha with q|q
  ·exact h.drP ad q
  ·exact⟨oM,λhS=>by have:=h.lt _ hS; omega⟩
 refine hk r w2 ⟨hb2,h.plo,h.g.keep hkp,h.pk.keep hkp,h.old.keep hkp,λb hb=>by have:=h.lt b hb; omega,h.nS,⟨λb=>D b∨Q b,?_,λhb=>?_,λad ha hb=>?_,λb hb=>?_⟩,?_,hrp,h.stP,λu v hu hv=>?_⟩ mv
 ·have:=o1.but b2 (λhb=>?_) λad ha=>Ne.symm (hrp ad ha).1
  ·rw[←List.map_singleton (f:=Zqs P),←List.map_append]at this
   exact this
  ·rcases hb with hb|hb
   ·exact hDp hb
   ·exact(hQ _ hb).2.1 rfl
 ·rcases hb with hb|hb
  ·exact hDp hb
  ·exact(hQ _ hb).2.1 rfl
 ·rcases hb with hb|hb
  ·exact hDs ad ha hb
  ·exact(hQ _ hb).2.2.2.1 ad ha rfl
 ·rcases hb with hb|hb
  ·exact hDl b hb
  ·exact(hQ b hb).2.2.2.2
 ·refine h.st.keep mv.size λb hb hq=>?_
  rcases hq with hq|⟨ad,ha,rfl⟩
  ·exact hq.elim
  ·exact hoth _ hb (h.stP ad ha).1 λd hd e=>h.apart d ad hd ha e.symm
 ·rcases reg u hu with q|q
  ·exact h.apart u v q hv
  ·have:=(h.st.block hv).2.1; omega
theorem MlV.pushS{t:TypeId}{a:Addr}{x:Stl}{cs:List Value}{K:World→Prop}(h:MlV E T w lo p S c G P old s)(hT:ApT prog t T E.n E.bytes)(hx: ∀w,E.rep w None' x cs)(hfl: ∀{w S S' x cs},E.rep w S x cs→E.rep w S' x cs)(hc:ldc w a cs)(hl:(s.done.length+1)*E.bytes≤room∧s.done.length+1≤maxLen)
  (hk: ∀r w',MlV E T w' lo p S {c with st:=r} G P old ⟨s.dirs,s.done++ [x]⟩→Mv lo p c w {c with st:=r} w'→K w'):
  appS prog t t c.st (Sl.v ⟨some a,1,1⟩) w λt w1=>∃p1:Addr,some p=some p1∧stw w1 (p1.add 8) [Sl.v t] K:=by
 obtain⟨D,o,hDp,hDs,hDl⟩:=h.dr
 have hpl:=h.box.lt
 refine h.st.push hT h.lo_le (hx w) hc (λb hb=>hb.elim) (λad ha hb=>hb) hl.1 hl.2 λr w1 o1 bel oth reg=>⟨p,rfl,?_⟩
 have o1:=o1.flat hfl
 have hs1:=Below.size bel
 have hb1:BoxAt w1 p c.c:=h.box.keep (S:=λb=>∀ad,c.st.a=some ad→b≠ad.block) (λad ha e=>(h.stP ad ha).1 e.symm) λb hb hl=>oth b hl hb
 refine stw.intro (old:=c.c) hb1 (o:=8) (by show 8+1≤9; omega) λw2 b2 hz2 hb2=>?_
 have hs2:=b2.1
 have hoth: ∀b,b<w.heap.size→b≠p.block→(∀ad,c.st.a=some ad→b≠ad.block)→w2.heap[b]? =w.heap[b]? :=λb hb h1 h2=>(b2.2.2.2.2 b oM h1).trans (oth b hb h2)
 have mv:Mv lo p c w {c with st:=r} w2:=⟨Below.trans bel (b2.below (by have:=h.lo_le; omega) h.plo),λb hb h1 _ h3=>hoth b hb h1 h3,λ_ h=>.inl h,reg,rfl⟩
 have hkp:=h.mv mv
 have hrp: ∀ad,r.a=some ad→ad.block≠p.block∧ ¬S ad.block:=λad ha=>by
  rcases reg ad ha with q|q
  ·exact h.stP ad q
  ·exact⟨oM,λhS=>by have:=h.lt _ hS; omega⟩
 refine hk r w2 ⟨hb2,h.plo,h.g.keep hkp,h.pk.keep hkp,h.old.keep hkp,λb hb=>by have:=h.lt b hb; omega,h.nS,⟨D,?_,hDp,λad ha hb=>?_,hDl⟩,o1.but b2 (λh=>h) λad ha=>Ne.symm (hrp ad ha).1,h.drP,hrp,λu v hu hv=>?_⟩ mv
 ·refine o.keep mv.size λb hb hq=>?_
  rcases hq with hq|⟨ad,ha,rfl⟩
  ·exact hoth b hb (λe=>hDp (e▸hq)) λd hd e=>hDs d hd (e▸hq)
  ·exact hoth _ hb (h.drP ad ha).1 λd hd e=>h.apart ad d ha hd e
 ·rcases reg ad ha with q|q
  ·exact hDs ad q hb
  ·have:=o.lt _ hb; omega
 ·rcases reg v hv with q|q
  ·exact h.apart u v hu q
  ·have:=(o.block hu).2.1; omega
end
theorem Z6l:ApT prog 142 229 3 32:=Zhe (z:=.agg #[.int .i64 0,.int .i64 0,.string ⟨#[]⟩]) kR kR rfl dC
theorem OwnS.strsB{w:World}{lo:Nat}{T:TypeId}{s:Sl}{l:List ByteArray}(h:OwnS strE T w lo None' s l)(hl:l.length≤5000000000000):SlR strE w (λb=>lo≤b∧b<w.heap.size) s l:=
 (h.read (by show l.length*16≤room; unfold room; omega) (by rw[Zb]; omega)).mono λb hb=>by
  rcases hb with hb|⟨ad,ha,rfl⟩
  ·exact hb.elim
  ·have:=h.block ha; exact⟨this.1,this.2.1⟩
section
variable {w:World} {lo:Nat} {p:Addr} {S:Nat→Prop} {c:PC} {G:List Node} {P:List Pack} {old:Option (List Dir)} {s:PlS}
end
section
variable {E:Enc Stl} {w:World} {p:Addr} {S:Nat→Prop} {c:PC} {G:List Node} {P:List Pack} {old:Option (List Dir)} {s:PlS}
end
def rW{α:Type}:Result α→World
 | .ok _ w=>w
 | .halt _ w=>w
theorem Zx6{α:Type}(w:World)(a:Ask α):w.drawn≤(w.ask a).2.drawn:=by
 fun_induction World.ask w a with
 |case1=>exact Nat.le_refl _
 |case2 w what range k q h ih=>exact ih
 |case3 w what range k q h ih=>exact Nat.le_trans (Nat.le_succ _) ih
theorem Ztb(w:World)(c:Sys):w.drawn≤(w.sys c).2.drawn:=by
 have h:=Zx6 w (Kernel.perform c w.os)
 unfold World.sys
 split
 ·exact Nat.le_refl _
 ·rename_i r os w' hr
  rw[hr]at h; exact h
theorem Zou{p:Program}{w w':World}{at_:Addr}{u:TypeId}{k:Addr}{v:Value}{b:Bool}{l:List Addr}(h:w.viewStore p at_ u k v b= .ok (w',l)):w'.drawn=w.drawn:=by
 unfold World.viewStore at h
 simp only[bind,Except.bind,pure,Except.pure,throw,throwThe,MonadExceptOf.throw]at h
 repeat' first
  |(simp at h; done)
  |(simp only[Except.ok.injEq,Prod.mk.injEq]at h; obtain⟨rfl,_⟩:=h; rfl)
  |split at h
theorem Zo5{p:Program}{w w':World}{a:Addr}{v:Value}{b:Bool}{l:List Addr}(h:w.farStore p a v b= .ok (w',l)):w'.drawn=w.drawn:=by
 unfold World.farStore at h
 split at h
 ·split at h
  ·rename_i r hr
   simp only[Except.ok.injEq]at h
   subst h
   exact Zou hr
  ·cases h
 ·cases h
theorem Zrc(w:World)(a:Addr)(v:Value):(w.setCell a v).drawn=w.drawn:=by
 unfold World.setCell
 repeat' first|rfl|split
theorem Zsb(w:World)(a:Addr)(n:Nat):(w.freeze a n).drawn=w.drawn:=by
 unfold World.freeze
 repeat' first|rfl|split
theorem Zlt{α:Type}(p:Program)(s:Sem α)(w:World):w.drawn≤(rW (s.run p w)).drawn:=by
 fun_induction Sem.run p s w
 all_goals first
  |exact Nat.le_refl _
  |assumption
  |skip
 all_goals try (rename_i ih; rw[Zrc]at ih; exact ih)
 all_goals try (rename_i ih; rw[Zsb]at ih; exact ih)
 all_goals try (rename_i ih; exact Nat.le_trans (Nat.le_succ _) ih)
 all_goals try (rename_i ih; exact Nat.le_trans (Ztb _ _) ih)
 all_goals try (rename_i h ih; have:=Zo5 h; omega)
 all_goals skip
theorem Zxg{α:Type}(p:Program)(s:Sem α)(w:World)(es:Array Event):w.drawn≤(rW (s.runT p w es).1).drawn:=by
 rw[Sem.runT_fst]; exact Zlt p s w
def gD(n:Nat):GStep→Prop
 | .go _ w _| .comm _ _ _ _ w _| .spawn _ _ w _| .count _ w _| .timer _ _ w _| .alone _ _ w _| .newcoro _ _ _ w _| .coroswitch _ _ _ w _| .collect _ w _| .watch _ w _| .ended _ w _=>n≤w.drawn
theorem Zlc{n:Nat}{es:Array Event}{s:GStep}(h:gD n s):gD n (GStep.after es s):=by cases s<;>exact h
theorem Zyo{n:Nat}{w:World}(h:n≤w.drawn)(fd:Nat)(text:ByteArray)(o:Outcome):gD n (endWith w fd text o):=by
 have h1:=Ztb w (.write fd text)
 unfold endWith
 simp only[]
 split
 all_goals (rename_i hs; rw[hs]at h1)
 ·split<;>exact Nat.le_trans h h1
 ·exact Nat.le_trans h h1
 ·exact Nat.le_trans h h1
theorem Zl8{n:Nat}{w:World}(h:n≤w.drawn)(fr:Frame)(m:String):gD n (endThrow fr m w):=h
theorem Zi2{n:Nat}{w:World}(h:n≤w.drawn)(p:Program)(fr:Frame)(v:Value):gD n (endPrinting p fr v w):=by
 unfold endPrinting
 simp only[]
 split<;>exact h
theorem rD{α:Type}{p:Program}{s:Sem α}{w w':World}{a:α}(h:s.run p w= .ok a w'):w.drawn≤w'.drawn:=by have:=Zlt p s w; rw[h]at this; exact this
theorem rDh{α:Type}{p:Program}{s:Sem α}{w w':World}{x:Halt}(h:s.run p w= .halt x w'):w.drawn≤w'.drawn:=by have:=Zlt p s w; rw[h]at this; exact this
theorem Zpn{n:Nat}{w:World}(h:n≤w.drawn)(p:Program)(fr:Frame)(callers:List Frame)(d:Option Dying)(m:String):gD n (endFatal p fr callers d m w):=by
 unfold endFatal
 simp only[]
 split
 ·rename_i hr; exact Nat.le_trans h (rD hr)
 ·rename_i hr; exact Nat.le_trans h (rDh hr)
 ·rename_i hr; exact Nat.le_trans h (rDh hr)
theorem tD{α:Type}{p:Program}{s:Sem α}{w w':World}{es:Array Event}{a:α}(h:(s.runT p w es).1= .ok a w'):w.drawn≤w'.drawn:=by rw[Sem.runT_fst]at h; exact rD h
theorem tDh{α:Type}{p:Program}{s:Sem α}{w w':World}{es:Array Event}{x:Halt}(h:(s.runT p w es).1= .halt x w'):w.drawn≤w'.drawn:=by rw[Sem.runT_fst]at h; exact rDh h
theorem Z03{n:Nat}{w:World}(h:n≤w.drawn)(p:Program)(fr:Frame)(d:Dying)(f:Fatal):gD n (writeOn p fr d f w):=by
 unfold writeOn
 simp only[]
 split
 ·exact h
 ·split
  all_goals (rename_i hr; have hr:=congrArg Prod.fst hr)
  ·exact Nat.le_trans h (tD hr)
  ·exact Nat.le_trans h (tDh hr)
  ·exact Nat.le_trans h (tDh hr)
  ·exact Nat.le_trans h (tDh hr)
theorem Z76{n:Nat}{w:World}(h:n≤w.drawn)(p:Program)(fr:Frame)(d:Dying):gD n (die p fr d w):=by
 unfold die
 simp only[]
 repeat' first
  |exact h
  |exact Z03 h _ _ _ _
  |exact Zyo h _ _ _
  |exact Zi2 h _ _ _
  |apply Zlc
  |(rename_i hr; exact Nat.le_trans h (rD hr))
  |(rename_i hr; exact Nat.le_trans h (rDh hr))
  |(rename_i hr; exact Nat.le_trans h (tD hr))
  |(rename_i hr; exact Nat.le_trans h (tDh hr))
  |(rename_i hr; exact Zi2 (Nat.le_trans h (tDh hr)) _ _ _)
  |split
 all_goals skip
theorem Zkc{n:Nat}{w:World}(h:n≤w.drawn)(p:Program)(main:Bool)(fr:Frame)(callers:List Frame)(dying:Option Dying)(v:Value):gD n (doReturn p main fr callers dying v w):=by
 unfold doReturn
 simp only[]
 repeat' first
  |exact h
  |split
theorem Zo0{n:Nat}{w:World}(h:n≤w.drawn)(p:Program)(fr:Frame)(callers:List Frame)(dying:Option Dying)(d:Deferred):gD n (callDeferred p fr callers dying d w):=by
 unfold callDeferred
 simp only[]
 repeat' first
  |exact h
  |apply Zlc
  |exact Nat.le_trans h (tD (by assumption))
  |exact Nat.le_trans h (tDh (by assumption))
  |exact Zpn (Nat.le_trans h (tDh (by assumption))) _ _ _ _ _
  |exact Zl8 (Nat.le_trans h (tDh (by assumption))) _ _
  |split
theorem Z29{n:Nat}{w:World}(h:n≤w.drawn)(p:Program)(main:Bool)(fr:Frame)(callers:List Frame)(dying:Option Dying):gD n (unwind p main fr callers dying w):=by
 unfold unwind
 simp only[]
 repeat' first
  |exact h
  |exact Zo0 h _ _ _ _ _
  |exact Zi2 h _ _ _
  |exact Zkc h _ _ _ _ _ _
  |apply Zlc
  |(rename_i hr; exact Nat.le_trans h (rD hr))
  |(rename_i hr; exact Nat.le_trans h (rDh hr))
  |(rename_i hr; exact Nat.le_trans h (tD hr))
  |(rename_i hr; exact Nat.le_trans h (tDh hr))
  |(rename_i hr; exact Zkc (Nat.le_trans h (tD hr)) _ _ _ _ _ _)
  |split
theorem Z4t{n:Nat}{w:World}(h:n≤w.drawn)(p:Program)(fr:Frame)(callers:List Frame)(dying:Option Dying)(g:Nat):gD n (early p fr callers dying g w):=by
 unfold early
 simp only[]
 repeat' first
  |exact h
  |exact Nat.le_trans h (rD (by assumption))
  |exact Nat.le_trans h (rDh (by assumption))
  |(simp only[gD]; exact Nat.le_trans h (rD (by assumption)))
  |split
theorem Ztn{n:Nat}{w:World}(h:n≤w.drawn)(p:Program)(listen:Bool)(fr:Frame)(callers:List Frame)(dying:Option Dying)(s:Sem Next):gD n (stepG.apply p listen fr callers dying s w):=by
 unfold stepG.apply
 simp only[]
 apply Zlc
 have hk:w.drawn≤(rW (if listen=true then s.runT p w #[]else(s.run p w,#[])).1).drawn:=by
  split
  ·exact Zxg _ _ _ _
  ·exact Zlt _ _ _
 revert hk
 generalize (if listen=true then s.runT p w #[]else(s.run p w,#[])).1=r
 intro hk
 repeat' first
  |exact Nat.le_trans h hk
  |exact Zpn (Nat.le_trans h hk) _ _ _ _ _
  |exact Z4t (Nat.le_trans h hk) _ _ _ _ _
  |exact Zl8 (Nat.le_trans h hk) _ _
  |split
theorem Z61{α:Type}{n:Nat}{o:Option α}{d:GStep}{f:α→GStep}(h:gD n d)(hf: ∀x,gD n (f x)):gD n (o.elim d f):=by
 cases o with
 |none=>exact h
 |some x=>exact hf x
theorem Z7e{n:Nat}{w:World}(h:n≤w.drawn)(p:Program)(listen:Bool)(fr:Frame)(callers:List Frame)(dying:Option Dying):gD n (stepG.oper p listen fr callers dying w):=by
 unfold stepG.oper
 repeat' first
  |exact h
  |exact Ztn h _ _ _ _ _ _
  |split
theorem Z62{n:Nat}{w:World}(h:n≤w.drawn)(p:Program)(main listen:Bool)(fr:Frame)(callers:List Frame)(dying:Option Dying):gD n (stepG.exec p main listen fr callers dying w):=by
 unfold stepG.exec
 simp only[]
 repeat' first
  |exact h
  |exact Ztn h _ _ _ _ _ _
  |exact Ztn (Nat.le_trans h (tD (by assumption))) _ _ _ _ _ _
  |exact Z7e h _ _ _ _ _
  |exact Zkc h _ _ _ _ _ _
  |exact Zkc (Nat.le_trans h (tD (by assumption))) _ _ _ _ _ _
  |exact Nat.le_trans h (tD (by assumption))
  |exact Nat.le_trans h (tDh (by assumption))
  |exact Nat.le_trans h (rD (by assumption))
  |exact Nat.le_trans h (rDh (by assumption))
  |apply Zlc
  |refine Z61 ?_ λ_=> ?_
  |split
theorem Z5s(p:Program)(main:Bool)(g:Goroutine)(w:World)(listen:Bool):gD w.drawn (stepG p main g w listen):=by
 unfold stepG
 simp only[]
 repeat' first
  |exact Z76 nR _ _ _
  |exact Z62 nR _ _ _ _ _ _
  |exact Z29 nR _ _ _ _ _
  |split
def sD(n:Nat)(s:Stepped):Prop:=∀m,s= .next m→n≤m.world.drawn
theorem Zu0{rest:Go.Rest}{cases:Array CommCase}{w w':World}(h:waitingAt rest cases w=some w'):w'.drawn=w.drawn:=by
 unfold waitingAt at h
 repeat' first
  |(simp at h; done)
  |(simp only[Option.some.injEq]at h; subst h; rfl)
  |split at h
theorem Zqo{n:Nat}{w:World}(h:n≤w.drawn)(p:Program)(rest:Go.Rest)(gs:Array Goroutine)(i:Nat)(g:Goroutine)(cases:Array CommCase)(blocking:Bool)(shape:CommShape):sD n (communicate p rest gs i g cases blocking shape w).1:=by
 intro m' h'
 unfold communicate at h'
 simp only[]at h'
 repeat' first
  |(simp at h'; done)
  |(simp only[Stepped.next.injEq]at h'; subst h'; simp only[]; first|exact h|exact Nat.le_trans h (rD (by assumption))|exact Nat.le_trans h (rDh (by assumption))|exact Nat.le_trans h (Nat.le_trans (rD (by assumption)) (rDh (by assumption)))|exact Nat.le_trans h (Nat.le_of_eq (Zu0 (by assumption)).symm)|exact Nat.le_trans (Nat.le_trans h (rD (by assumption))) (rD (s:=choose _) (by assumption))|skip)
  |split at h'
 all_goals skip
theorem Z30{n:Nat}{w:World}(h:n≤w.drawn)(p:Program)(gs:Array Goroutine)(rest:Go.Rest):sD n (Go.look p gs rest w):=by
 intro m' h'
 unfold Go.look at h'
 simp only[]at h'
 repeat' first
  |(simp at h'; done)
  |(simp only[Stepped.next.injEq]at h'; subst h'; simp only[]; first|exact h|exact Nat.le_trans h (rD (by assumption))|skip)
  |split at h'
 all_goals skip
theorem Z4s(w:World)(c:Nat):(drain w c).2.drawn=w.drawn:=by
 unfold drain; split<;>rfl
theorem Zvx(m:Machine)(k:Nat)(t:Timer)(a b:Nat):(retime m k t a b).2.world.drawn=m.world.drawn:=by
 unfold retime
 simp only[]
 split<;>simp[Z4s]
theorem Z2l{m m':Machine}{a:Addr}(h:timerOp.opened m a=some m'):m'.world.drawn=m.world.drawn:=by
 unfold timerOp.opened at h
 repeat' first
  |(simp at h; done)
  |(simp only[Option.some.injEq]at h; subst h; rfl)
  |split at h
theorem Zzn{n:Nat}{m0:Machine}{a:Addr}{f:Nat→Timer→Value×Machine}{v:Value}{m':Machine}(hf: ∀k t,n≤(f k t).2.world.drawn)(h:timerOp.named m0 a f= .ok (v,m')):n≤m'.world.drawn:=by
 unfold timerOp.named at h
 split at h
 ·rename_i k hk
  have:=hf k (m0.rest.timers.getD k default)
  simp only[Except.ok.injEq]at h
  rw[h]at this; exact this
 ·cases h
theorem Ztf{n:Nat}{m:Machine}(h:n≤m.world.drawn)(op:TimerOp){v:Value}{m':Machine}(h':timerOp m op= .ok (v,m')):n≤m'.world.drawn:=by
 unfold timerOp at h'
 simp only[]at h'
 repeat' first
  |(simp at h'; done)
  |(simp only[Except.ok.injEq,Prod.mk.injEq]at h'; obtain⟨_,rfl⟩:=h'; exact h)
  |(refine Zzn (n:=n) (λk t=>?_) h'; rw[Zvx]; exact h)
  |(refine Zzn (n:=n) (λk t=>?_) h'; rw[Zvx,Z2l (by assumption)]; exact h)
  |split at h'
 all_goals skip
theorem Z5m(p:Program)(m:Machine)(i:Nat)(b:Bool):sD m.world.drawn (runT p m i b).1:=by
 intro m' h
 simp only[runT]at h
 revert h
 generalize m.gs.swapAt! _ _=gg
 have hg:=Z5s p (i==0) gg.1 m.world b
 revert hg
 generalize stepG p _ gg.1 m.world b=s
 intro hg h
 cases s<;>simp only[]at h
 all_goals first
  |(simp at h; done)
  |exact Zqo hg _ _ _ _ _ _ _ _ _ h
  |exact Z30 hg _ _ _ _ h
  |(simp only[Stepped.next.injEq]at h; subst h; exact hg)
  |(repeat' first
    |(simp at h; done)
    |(simp only[Stepped.next.injEq]at h; subst h; exact hg)
    |(simp only[Stepped.next.injEq]at h; subst h; rename_i hq; refine Ztf (n:=m.world.drawn) ?_ _ hq; exact hg)
    |(simp only[Stepped.next.injEq]at h; subst h; rename_i hq; have:=congrArg (gD m.world.drawn) hq; exact this.mp (Zl8 hg _ _))
    |split at h)
 all_goals (simp only[Stepped.next.injEq]at h; subst h; rename_i hq; have hz:=Ztf (n:=m.world.drawn) (m:={world:=_,gs:=_,rest:=_}) (by exact hg) _ hq; exact hz)
theorem Z5n{n:Nat}{m:Machine}(h:n≤m.world.drawn)(p:Program)(k:Nat):sD n (serve p m k):=by
 intro m' h'
 unfold serve at h'
 simp only[]at h'
 repeat' first
  |(simp at h'; done)
  |(simp only[Stepped.next.injEq]at h'; subst h'; exact h)
  |split at h'
def mD(n:Nat):Move→Prop
 | .goroutine m _=>n≤m.world.drawn
 | .machine s _=>sD n s
theorem Zyp{n:Nat}{o:Outcome}{w:World}:sD n (.ended o w):=λ_ h=>by cases h
theorem rDt{α:Type}{p:Program}{s:Sem α}{w w':World}{a:α}{n:Nat}(h:s.run p w= .ok a w')(k:n≤w.drawn):n≤w'.drawn:=Nat.le_trans k (rD h)
theorem rDa{α:Type}{p:Program}{s:Sem α}{m:Machine}{t:Nat}{w':World}{a:α}{n:Nat}(h:s.run p (m.advanceTo t).world= .ok a w')(k:n≤m.world.drawn):n≤w'.drawn:=Nat.le_trans k (rD (w:=(m.advanceTo t).world) h)
theorem Zto{n:Nat}{m:Machine}(h:n≤m.world.drawn)(p:Program):mD n (askOn p m):=by
 unfold askOn
 simp only[]
 repeat' first
  |exact Zyp
  |exact h
  |exact Z5n (Nat.le_trans h (rD (by assumption))) _ _
  |((try simp only[mD]); first|exact rDt (by assumption) h|exact rDt (by assumption) (rDt (by assumption) h)|exact rDt (by assumption) (rDt (by assumption) (rDt (by assumption) h))|exact rDt (by assumption) (rDt (by assumption) (rDt (by assumption) (rDt (by assumption) h)))|(refine rDa (by assumption) ?_; exact rDt (by assumption) (rDt (by assumption) h))|(refine rDt (by assumption) (rDa (by assumption) ?_); exact rDt (by assumption) (rDt (by assumption) h)))
  |(intro m' h'; simp only[Stepped.next.injEq]at h'; subst h'; simp only[Machine.advanceTo]; first|exact rDt (by assumption) h|exact rDt (by assumption) (rDt (by assumption) h))
  |split
 all_goals skip
theorem Z6o{n:Nat}{m:Machine}(h:n≤m.world.drawn)(p:Program):mD n (ask p m):=by
 unfold ask
 repeat' first
  |exact Zto h p
  |exact Zto (m:=Machine.mk _ _ _) (rDt (by assumption) h) p
  |exact Zto (Z30 (rDt (by assumption) h) _ _ _ _ (by assumption)) p
  |exact Zyp
  |(intro m' h'; exact(‹∀m_1:Machine,Go.look _ _ _ _=Stepped.next m_1→False› m' h').elim)
  |split
theorem Z7d{n:Nat}{m:Machine}(h:n≤m.world.drawn)(p:Program):mD n (move p m):=by
 unfold move
 repeat' first
  |exact Zyp
  |exact h
  |exact Z6o h p
  |(refine Z6o ?_ p; exact h)
  |split
theorem Z7r(p:Program)(m m':Machine)(h:step p m= .next m'):m.world.drawn≤m'.world.drawn:=by
 have hm:=Z7d (Nat.le_refl m.world.drawn) p
 unfold step stepT at h
 split at h
 ·rename_i m1 i he
  rw[he]at hm
  exact Nat.le_trans hm (Z5m p m1 i _ _ h)
 ·rename_i s ops he
  rw[he]at hm
  exact hm _ h
theorem Z5t{p:Program}{m m':Machine}(h:Steps p m m'):m.world.drawn≤m'.world.drawn:=by
 obtain⟨n,hn⟩:=h
 induction n generalizing m with
 |zero=>simp[runN]at hn; rw[hn]; exact Nat.le_refl _
 |succ n ih=>
  simp only[runN]at hn
  cases hs:step p m with
  |next m1=>rw[hs]at hn; exact Nat.le_trans (Z7r _ _ _ hs) (ih hn)
  |ended o w=>rw[hs]at hn; simp at hn
theorem Z4j{P:Program}{f:FuncId}{args:Array Value}{w:World}{R:Ending→World→Prop}(h:Calls P f args w R):Calls P f args w λe w'=>R e w'∧(∀v,e= .returned v→w.drawn≤w'.drawn):=λcs=>by
 obtain⟨e,w',fr,hR,hc,hf,hl⟩:=h cs
 refine⟨e,w',fr,⟨hR,λv hv=>?_⟩,hc,hf,hl⟩
 subst hv
 exact Z5t hc
end Go.Hal
namespace Go.Hal
open Go.Proofs.Tryz
open Go Go.RowKit Go.Proofs Go.Shelf Go.Sort
theorem Ext.gr{w w':World}(h:Ext w w')(hd:w.drawn≤w'.drawn):Gr w w':=by
 obtain⟨h1,h2,h3,h4,h5⟩:=h
 refine⟨w'.drawn - w.drawn,w'.heap.extract w.heap.size w'.heap.size,?_⟩
 have hh:w'.heap=w.heap++w'.heap.extract w.heap.size w'.heap.size:=by
  apply Array.ext_getElem?
  intro i
  rcases Nat.lt_or_ge i w.heap.size with hi|hi
  ·rw[Array.getElem?_append_left hi]; exact h5 i hi
  ·rw[Array.getElem?_append_right hi,Array.getElem?_extract]
   split
   ·congr 1; omega
   ·rw[Array.getElem?_eq_none oM]
 have hdr:w'.drawn=w.drawn+(w'.drawn - w.drawn):=oM
 obtain⟨hp,tp,dr,os,out⟩:=w'
 simp only at h1 h2 h3 hh hdr
 subst h1 h2 h3
 unfold grow World.drewN
 simp only[World.mk.injEq,and_true,true_and]
 exact⟨hh,hdr⟩
structure DirC where
 ps:Sl
 nm:ByteArray
 ma:Int
 mi:Int
 pa:Int
 d:Sl
 e:Sl
 o:Sl
 nd:Int
def dirC(x:DirC):List Value:=[x.ps.v,.string x.nm,.int .i64 x.ma,.int .i64 x.mi,.int .i64 x.pa,x.d.v,x.e.v,x.o.v,.int .i64 x.nd]
def cDir(a b:Dir):Int:=cDr (drOf a) (drOf b)
theorem cDir_ord:Ord3 cDir:=cDr_ord.comap drOf
def DirRp(w:World)(S:Nat→Prop)(y:DirC×Dir):Prop:=dirE.rep w S y.2 (dirC y.1)∧y.2.path.length≤4000000000000
abbrev DirV(w:World)(S:Nat→Prop):Type:={y:DirC×Dir//DirRp w S y}
def Z4r{w:World}{S:Nat→Prop}(y:DirV w S):List Value:=dirC y.1.1
theorem Zv2{α:Type}{P:α→Prop}: ∀(l:List α),(∀i∈l,P i)→ ∃z:List {i:α//P i},z.map Subtype.val=l
 | [],_=>⟨[],rfl⟩
 |i::l,h=>by
  obtain⟨z,hz⟩:=Zv2 l λj hj=>h j (.tail _ hj)
  exact⟨⟨i,h i (.head _)⟩::z,by rw[List.map_cons,hz]⟩
theorem Z41: ∀w,(isAgg 104).run prog w= .ok true w:=λw=>by kernel_rfl
theorem Z21: ∀w,(Go.sizeOf 104).run prog w= .ok 9 w:=λw=>by kernel_rfl
theorem RowB.same{α β:Type}{f:α→List Value}{h:β→List Value}{w:World}{g:Nat}{l:List α}{m:List β}{tail:List Value}(k:RowB f w g l tail)(e:l.map f=m.map h):RowB h w g m tail:=by
 unfold RowB at*
 rw[←e]; exact k
theorem Z0i{gf:Nat}{w:World}{lo:Nat}{Q:Nat→Prop}{s:Sl}{l:List Dir}{K:Value→World→Prop}(h:OwnS dirE 104 w lo Q s l)(hlo:lo≤w.heap.size)(hl:l.length≤1000000)(hb: ∀d∈l,d.path.length≤4000000000000)
  (eg: ∀args w,(callFunc gf args).run prog w= .ok (.enter gf args) w)
  (hcmp: ∀(w0:World) (S:Nat→Prop) (x y:DirC×Dir),DirRp w0 S x→DirRp w0 S y→Calls prog gf #[.agg (dirC x.1).toArray,.agg (dirC y.1).toArray] w0 λe w'=>e= .returned (.int .i64 (cDir x.2 y.2))∧Ext w0 w')
  (hK: ∀(l':List Dir) w',l'.Perm l→l'.Pairwise (λx y=>¬cDir y x<0)→Below lo w w'→(∀b,b<w.heap.size→(∀ad,s.a=some ad→b≠ad.block)→w'.heap[b]? =w.heap[b]?)→SlR dirE w' (λb=>Q b∨ ∃ad,s.a=some ad∧b=ad.block) s l'→K (.tuple #[]) w'):
  callS prog 70 [Sl.v s,.func (.func gf) #[] #[]] w K:=by
 have hrd:=h.read (by show l.length*144≤room; unfold room; omega) (by rw[Zb]; omega)
 rcases h.rowG dirC (λy x=>DirRp w Q (y,x)∨ ¬x.path.length≤4000000000000) (λx cs hr=>by
  have hr0:=hr
  obtain⟨h0,ps,d,e,o,rfl,r⟩:=hr
  refine⟨⟨ps,_,_,_,_,d,e,o,_⟩,rfl,?_⟩
  by_cases hx:x.path.length≤4000000000000
  ·exact .inl ⟨hr0,hx⟩
  ·exact .inr hx)with⟨rfl,rfl⟩|⟨g,z,tail,hsa,hg,hzl,hzr,hrow,hc,hm⟩
 ·refine(AnyF.slices_SortFunc_none Tryz.layDi none 0 _ w).mono λe w' ⟨he,hw⟩=>⟨_,he,?_⟩
  subst hw
  exact hK [] _ (List.Perm.refl _) .nil (Below.refl _ _) (λ_ _ _=>rfl) hrd
 ·obtain⟨a,n,c⟩:=s
  simp only at hsa hc hm
  have hsl:=h.len
  simp only at hsl
  subst hsa hsl
  have hQg: ¬Q g:=h.apart _ rfl
  obtain⟨zv,hzv⟩:=Zv2 (P:=DirRp w Q) z λp hp=>by
   rcases hzr p hp with h1|h1
   ·exact h1
   ·exact absurd (hb p.2 (by rw[←hzl]; exact List.mem_map_of_mem hp)) h1
  have hzn:zv.length=l.length:=by rw[←hzl,←hzv,List.length_map,List.length_map]
  haveI:Inhabited (DirV w Q):=⟨⟨(⟨Sl.nil,⟨#[]⟩,0,0,0,Sl.nil,Sl.nil,Sl.nil,0⟩,⟨[],Ze1,0⟩),Zkz,Nat.zero_le _⟩⟩
  have hrow':RowB (Z4r (w:=w) (S:=Q)) w g zv tail:=hrow.same (by rw[←hzv,List.map_map,List.map_map]; rfl)
  rw[←hzn]
  refine Zf7 Tryz.layDi (k:=9) Z41 Z21 (f:=Z4r (w:=w) (S:=Q)) (λ_=>rfl) (λx v hv=>by simp[Z4r,dirC,Sl.v]at hv; rcases hv with rfl|rfl|rfl|rfl|rfl|rfl|rfl|rfl|rfl<;>rfl) (λa b=>cDir a.1.2 b.1.2) (Zjb (λx y=>cDir_ord.flip _ _) (λx y z=>cDir_ord.trans _ _ _)) gf #[] eg (λw0 x y hb0 _=> ?_) hrow' oM rfl λl' w' hp hs b hr'=>?_
  ·have k:Keep Q w w0:=hb0.keep hQg
   refine(Z4j (hcmp w0 Q x.1 y.1 ⟨dirE.keep x.2.1 k,x.2.2⟩ ⟨dirE.keep y.2.1 k,y.2.2⟩)).mono λe w' ⟨⟨he,hx⟩,hd⟩=>⟨he,hx.gr (hd _ he)⟩
  ·have k:Keep Q w w':=b.keep hQg
   refine hK ((l'.map Subtype.val).map Prod.snd) w' ?_ ?_ (b.below hlo hg) (λc hc hne=>b.2.2.2.2 c hc (hne _ rfl)) ?_
   ·rw[←hzl,←hzv]
    exact(hp.map _).map _
   ·rw[List.pairwise_map,List.pairwise_map]
    exact hs
   ·have hr2:RowB dirC w' g ((l'.map Subtype.val).map Prod.fst) tail:=hr'.same (by rw[List.map_map,List.map_map]; rfl)
    have hln:l'.length=zv.length:=hp.length_eq
    have:=RowB.read (E:=dirE) (S:=Q) (cap:=c) hr2 (λ_=>rfl) (λp hp=>by
     obtain⟨q,_,rfl⟩:=List.mem_map.1 hp
     exact dirE.keep q.2.1 k) (by rw[List.length_map]; omega) hm (by rw[List.length_map]; show _*144≤room; unfold room; omega)
    rw[List.length_map,hln,hzn]at this
    exact this.mono λb hb=>hb.imp id λe=>⟨⟨g,0,none⟩,rfl,e⟩
end Go.Hal
namespace Go.Hal
open Go.Proofs.Tryz
section
variable {I:PlI} {a nd:Nat} {s0 s t:PlS} {e:Edge} {r:List Edge}
end
end Go.Hal
namespace Go.Hal
open Go.Proofs.Tryz
open Go Go.RowKit Go.Proofs Go.Shelf
theorem Sl.v_inj{s t:Sl}(h:s.v=t.v):s=t:=by
 obtain⟨a,b,c⟩:=s
 obtain⟨d,e,f⟩:=t
 simp only[Sl.v,Value.slice.injEq]at h
 obtain⟨rfl,rfl,rfl⟩:=h; rfl
theorem DirRp.path{w:World}{S:Nat→Prop}{y:DirC×Dir}(h:DirRp w S y):SlR strE w S y.1.ps y.2.path:=by
 obtain⟨⟨_,ps,d,e,o,hc,hp,_⟩,_⟩:=h
 unfold dirC at hc
 simp only[List.cons.injEq]at hc
 rw[Sl.v_inj hc.1]; exact hp
theorem Zr1:Zfv prog 71:=enters_of func71 kR rfl
theorem Zsz{w:World}{S:Nat→Prop}{x y:DirC×Dir}(hx:DirRp w S x)(hy:DirRp w S y):Calls prog 71 #[.agg (dirC x.1).toArray,.agg (dirC y.1).toArray] w λe w'=>e= .returned (.int .i64 (cDir x.2 y.2))∧Ext w w':=by
 have h1:=hx.path
 have h2:=hy.path
 obtain⟨⟨ps,nm,ma,mi,pa,d,e,o,nd⟩,x⟩:=x
 obtain⟨⟨ps',nm',ma',mi',pa',d',e',o',nd'⟩,y⟩:=y
 have h:callS prog 71 [.agg #[Sl.v ps,.string nm,.int .i64 ma,.int .i64 mi,.int .i64 pa,Sl.v d,Sl.v e,Sl.v o,.int .i64 nd],.agg #[Sl.v ps',.string nm',.int .i64 ma',.int .i64 mi',.int .i64 pa',Sl.v d',Sl.v e',Sl.v o',.int .i64 nd']] w (λv w'=>v= .int .i64 (cDir x y)∧Ext w w'):=SE.Zgz.go (by
  unfold SE.Zgz
  refine newS.intro λa w1 x1 hb _ _=>newS.intro λa1 w2 x2 hb1 _ _=>bnd.drew λw3 x3=>⟨ps,hb.at0 (x2.trans x3) rfl,ps',hb1.at0 x3 rfl,callX.intro (SE.Zhu.go (Zk1 (h1.ext (x1.trans (x2.trans x3))) hx.2 λw4 x4=>⟨x4,_,rfl,SE.Zhu.go (Zk1 (h2.ext (x1.trans (x2.trans (x3.trans x4)))) hy.2 λw5 x5=>⟨_,rfl,Zja ⟨_,rfl,rfl,x1.trans (x2.trans (x3.trans (x4.trans x5)))⟩⟩)⟩))⟩)
 exact Calls.mono h λe w' ⟨v,he,hv,hg⟩=>⟨by rw[he,hv],hg⟩
section
variable {w0:World} {p:Addr} {S:Nat→Prop} {c0:PC} {G:List Node} {P:List Pack} {old:Option (List Dir)}
end
end Go.Hal
