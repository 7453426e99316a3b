/- Lemmas for the claim K19n: how the program's functions run, and what they answer; no condition but those that each theorem names. -/
import Derived.Test.YtgolaibmophnjaaGreatDoorProg
import Derived.Test.YtgolaibmophnjaaGreatDoorK19nA0
set_option linter.unusedVariables false
set_option linter.unusedSimpArgs false
set_option linter.defProp false
set_option maxHeartbeats 16000000
namespace Go.Hal.SE
open Go.Proofs.Tryz
open Go Go.RowKit Go.Hal Go.Proofs
set_option maxRecDepth 100000
def Mc(n:Sl)(j:Value)(p:Wd)(o:Bool->Wp):Prop:=
 loop1 (Aa ((n.len:Int) - 1)) p λi k l=>(If (0<i) (Dr k λa=>∃m,Ix n i m/\∃b c,Bf a (m.add (i.toNat*2)) b c/\∃g,Ix n (Aa (i - 1)) g/\∃d e,Bf a (g.add ((Aa (i - 1)).toNat*2)) d e/\callV prog j [(.agg #[vT b,Sl.v c]),(.agg #[vT d,Sl.v e])] a λq f=>∃h,q= .int .i64 h/\(If (h<0) (o false f) (l (Aa (i - 1)) f))) (o true k))
def Mc.go{x u w k}(h:Mc x u w λa0 a1=>k (vB a0) a1):Cs 184 [Sl.v x,u] w k:=rg (.q (.s (.q (.b (.l [(5,4)] (.s (.q .x) (.s (.b (.q (.k .y))) (.r [])))))) .y)) func184 h
def M8(l m n o:Sl)(p:Bool)(a0:Wd)(a1:Sl->Wp):Prop:=
 newS a0 (CU l m n o) 34 λy q=>∃x,Ls q y x/\newS q [Sl.v x] 32 λr b=>join (λ(j:Sl) (a:Wd)=>∃c d e f,BK a y c d e f/\∃g,Ls a (y.add 2) g/\Cs 269 [(AK c d e f),Sl.v j,Sl.v g] a λa2 s=>∃h,a2=Sl.v h/\a1 h s) λt=>(Ib p (∃i,Ls b (y.add 1) i/\newS b [Sl.v i] 32 λz u=>appS prog 228 228 (Sl.mk (some r) 1 1) (Sl.v (Sl.mk (some z) 1 1)) u λv k=>t v k) (t (Sl.mk (some r) 1 1) b))
def M8.go{u a0 a1 a2 a3 w k}(h:M8 u a0 a1 a2 a3 w λa4 a5=>k (Sl.v a4) a5):Cs 185 [(AK u a0 a1 a2),vB a3] w k:=rg (.q (.q (.j [(5,229)] (.q (.c (.r []) .o)) .y))) func185 h
def M7(j:Bs)(k l i:Int)(m n o p q r s:Sl)(a0:Wd)(a1:Sl->Wp):Prop:=
 newS a0 (A2 j k l i m n o) 59 λz v=>newS v (CU p q r s) 34 λx a=>∃b c d e,BK a x b c d e/\∃u,Ls a (z.add 4) u/\newS a [Sl.v u] 32 λy f=>∃g,Ls f (z.add 6) g/\Cs 269 [(AK b c d e),(Sl.v (Sl.mk (some y) 1 1)),Sl.v g] f λa2 t=>∃h,a2=Sl.v h/\a1 h t
def M7.go{a0 a1 a2 u a3 a4 a5 a6 a7 a8 a9 w k}(h:M7 a0 a1 a2 u a3 a4 a5 a6 a7 a8 a9 w λb0 b1=>k (Sl.v b0) b1):Cs 186 [(A0 a0 a1 a2 u a3 a4 a5),(AK a6 a7 a8 a9)] w k:=rg (.q .y) func186 h
def LI(b:Sl)(d:Value)(e:Wd)(f:Bool->Wp):Prop:=
 Cs 270 [Sl.v b,d] e λg c=>∃a,g= .int .i64 a/\f (decide (0<=a)) c
def LI.go{u f w k}(h:LI u f w λa0 a1=>k (vB a0) a1):Cs 187 [Sl.v u,f] w k:=rg (.q .y) func187 h
def Me(p q r s t u:Int)(x:Addr)(a3:Wd)(a4:Bool->Wp):Prop:=
 newS a3 (MC p q r s t u) 223 λa2 v=>∃d e f,As v a2 d e f/\∃g h i,As v x g h i/\Cs 189 [(Am d e f),(Am g h i)] v λa5 b=>∃y,a5= .int .i64 y/\bnd (decide (y<=0)) λ(z:Bool)=>∃j k l,Bw z b x j k l/\∃m n o,Bw z b (a2.add 3) m n o/\gCall z (λ(a:Int) (c:Wd)=>a4 (z&&(decide (a<=0))) c) (λa0=>Cs 189 [(Am j k l),(Am m n o)] b λa1 c=>∃a,a1= .int .i64 a/\a0 a c) (λa0=>a0 0 b)
def Me.go{u a0 a1 a2 a3 a4:Int}{c0:Addr}{w:Wd}{k:Value->Wp}(h:Me u a0 a1 a2 a3 a4 c0 w λa5 a6=>k (Value.bool a5) a6):callS prog 188 [(.agg #[vi u,vi a0,vi a1,vi a2,vi a3,vi a4]),(Value.pointer (some c0))] w k:=Ct (sk:=(.s (.r []) (.s (.r []) .o))) (args:= [sv (.agg #[vi u,vi a0,vi a1,vi a2,vi a3,vi a4]),sa c0]) func188 (Eq.mpr kR h)
def EU(n o p q r s:Int)(a5:Wd)(a6:Int->Wp):Prop:=
 newS a5 (AA n o p) 52 λa3 a4=>newS a4 (AA q r s) 52 λi t=>Dr t λa=>∃a0,Li a a3 a0/\∃a1,Li a i a1/\∃b,Li a (a3.add 1) b/\∃c,Li a (i.add 1) c/\∃d,Li a (a3.add 2) d/\∃e,Li a (i.add 2) e/\Cx 104 [vI a0,vI a1] a λa7 u=>∃a2,a7= .int .i64 a2/\Cx 104 [vI b,vI c] u λv j=>∃f,v= .int .i64 f/\Cs 104 [vI d,vI e] j λx k=>∃g,x= .int .i64 g/\newS k (AA a2 f g) 3 λy l=>Cs 103 [(Sl.v (Sl.mk (some y) 3 3))] l λz m=>∃h,z= .int .i64 h/\a6 h m
def EU.go{u a0 a1 a2 a3 a4 w k}(h:EU u a0 a1 a2 a3 a4 w λa5 a6=>k (vI a5) a6):Cs 189 [(Am u a0 a1),(Am a2 a3 a4)] w k:=rg (.q .y) func189 h
def LL(a:Sl)(q:Value)(a7:Wd)(a5:Sl->Wp):Prop:=
 Cs 271 [Sl.v a,q] a7 λa8 x=>∃b,a8= .int .i64 b/\(If (b=(-1)) (a5 a x) (loop2 b (Aa (b+1)) x λo p c y=>(If (p<(a.len:Int)) (join (λ(a2:Int) (v:Wd)=>y a2 (Aa (p+1)) v) λz=>∃a1,Ix a p a1/\∃e f g,As c (a1.add (p.toNat*3)) e f g/\N52 c λa3 a0=>stw a0 a3 (AA e f g) λr=>∃h i j,As r a3 h i j/\callV prog q [(Am h i j)] r λa4 d=>∃s,a4= .bool s/\(Ib (!s) (∃k l m,As d a3 k l m/\∃n,Ix a o n/\stw d (n.add (o.toNat*3)) (AA k l m) λt=>z (Aa (o+1)) t) (z o d))) (((0:Int)<=o/\o<=(a.len:Int))/\semS prog (Builtin.clear_ #[128] 0 #[(Sl.v (Sl.cut a o.toNat a.len 3))]) c λa6 u=>((0:Int)<=o/\o<=(a.cap:Int))/\a5 (Sl.cut a 0 o.toNat 3) u))))
def LL.go{a0 u w k}(h:LL a0 u w λa1 a2=>k (Sl.v a1) a2):Cs 190 [Sl.v a0,u] w k:=rg (.q (.q (.s (.q (.k .y)) (.s (.q (.b (.l [(5,4),(6,4)] (.s (.q .x) (.j [(5,4)] (.b (.q (.q (.c (.q (.r [])) .o)))) (.r [])))))) (.q .y))))) func190 h
def Fj(c5:Option Addr)(p:Bs)(c3:Wd)(c6:Sl->Wp):Prop:=
 ∃c4,c5=some c4/\∃l,ldc c3 c4 [.map l]/\semS prog (Instr.range 98 (Value.map l)) c3 λc7 c0=>∃q,c7=(vP q)/\loop1 Sl.nil c0 λd b5 m=>semS prog (Instr.next (vP q) false 0) b5 λc1 h=>∃b1 c b2 b3 b4 r s t u v x y,c1=Ze2 b1 (Bv c b2 b3 b4) (A0 r s t u v x y)/\(Ib b1 (∃a e f g z a0 a1 a2 a3 a4 a5,(Cv prog (Instr.entry (vP q)) h (Value.tuple #[(Bv a e f g),(A0 z a0 a1 a2 a3 a4 a5)]))/\RZ h λc2 a6=>stw a6 c2 (Bn a e f g) λb=>∃n,Lt b c2 n/\(If (n=p) (∃i j k,As b (c2.add 1) i j k/\newS b (AA i j k) 52 λb6 a7=>appS prog 128 128 d (Sl.v (Sl.mk (some b6) 1 1)) a7 λb7 a8=>m b7 a8) (m d b))) (Cs 272 [Sl.v d,(Value.func (.func 273) #[] #[])] h λb8 a9=>b8= .tuple #[]/\Cs 197 [Sl.v d] a9 λb9 b0=>∃o,b9=Sl.v o/\c6 o b0))
def Fj.sound(c:Option Addr)(name:Bs)(w:Wd)(R:Sl->Wp)(h:Fj c name w R):callS prog 191 [(Value.pointer c),(Value.string name)] w (λv w'=>∃(r0:Sl),v=(Sl.v r0)/\R r0 w'):=by
 unfold Fj at h;refine SP 29 rfl func191 rfl kR sI ?_;refine Vc.seq ?_;refine Vc.region ?_;refine DH rfl rfl (Sl.v Sl.nil) (λw=>kR) ?_;refine F7 ?_;refine Vc.seq ?_;refine Vc.region ?_;refine DH rfl rfl (Sl.v Sl.nil) (λw=>kR) ?_;refine F7 ?_;refine Vc.seq ?_;refine Vc.seq ?_;refine Vc.region ?_;refine DH rfl rfl (Value.pointer c) (λw=>kR) ?_;obtain⟨p,hp,h⟩:=h;refine DH rfl rfl (Value.pointer (some p)) (λw=>by exact TP rfl kR (hp) w) ?_;refine DH rfl rfl (Value.pointer (some p)) (λw=>kR) ?_;obtain⟨t10,hc,h⟩:=h;refine O0 rfl rfl (Value.map t10) (Nt rfl kR (QU (λw=>kR) ((hc)))) ?_;refine F6 rfl (KP rfl (c:=Instr.range 98 (Value.map t10)) kR (semS.mono h λv vw h=>?_));obtain⟨it,rfl,h⟩:=h;refine F7 ?_;refine Vc.block ?_;obtain⟨vI,mu,h,hr⟩:=h;refine Vc.loopJ (σ:=Sl) [5] [6,12,13,14,15,16,17,18,19,20,21,22,23,24] (λs=> [(5,(Sl.v s))]) (λs w=>vI s w) (λs w=>mu s w) Sl.nil h (λ_=>rfl) kR ?_;intro out vw1 j h;have h:=hr out vw1 h;refine Vc.seq ?_;refine Vc.region ?_;refine F6 rfl (KP rfl (c:=Instr.next (Value.pointer (some it)) false 0) kR (semS.mono h λv3 vw2 h=>?_));obtain⟨ok,key_name,zzh,zzi,zzj,zz1j,zz1m,zz1n,zz1o,zz1i,zz1l,zz1k,rfl,h⟩:=h;refine DH rfl rfl (Value.bool ok) (λw=>by cases ok<;>kernel_rfl) ?_;refine F7 ?_;refine Vc.seq ?_;refine Vc.cond ok kR (λhb=>?_) (λhb=>?_)
 .have hq:=h.1 (hb);clear h;subst hb;have h:=hq;clear hq;refine Vc.skip ?_;refine Vc.block ?_;refine Vc.seq ?_;refine Vc.region ?_;obtain⟨key_name4,zz1c,zz1d,zz1e,zz3c,zz3f,zz3g,zz3h,zz3b,zz3e,zz3d,hl,h⟩:=h;refine O0 rfl rfl (Value.tuple #[(Value.agg #[(Value.string key_name4),(Value.int .i64 zz1c),(Value.int .i64 zz1d),(Value.int .i64 zz1e)]),(Value.agg #[(Value.string zz3c),(Value.int .i64 zz3f),(Value.int .i64 zz3g),(Value.int .i64 zz3h),(Sl.v zz3b),(Sl.v zz3e),(Sl.v zz3d)])]) (TQ (c:=Instr.entry (Value.pointer (some it))) kR ((hl) _ (Ext.refl _))) ?_;refine DH rfl rfl (Value.agg #[(Value.string key_name4),(Value.int .i64 zz1c),(Value.int .i64 zz1d),(Value.int .i64 zz1e)]) (λw=>kR) ?_;refine F6 rfl (Qr rfl (λa=>Value.pointer (some a)) kR (newS.mono h λa vw15 hx h=>?_));refine F6 rfl (Vb rfl rfl (a:=a) kR (v:=(Value.agg #[(Value.string key_name4),(Value.int .i64 zz1c),(Value.int .i64 zz1d),(Value.int .i64 zz1e)])) kR [(Value.string key_name4),(Value.int .i64 zz1c),(Value.int .i64 zz1d),(Value.int .i64 zz1e)] kR (λw=>kR) kR (stw.mono h λvw16 h=>?_));refine F7 ?_;refine Vc.seq ?_;refine Vc.region ?_;refine DH rfl rfl (Value.pointer (some a)) (λw=>kR) ?_;obtain⟨t17,hc17,h⟩:=h;refine O0 rfl rfl (Value.string t17) (Nt rfl kR (QU (λw=>kR) ((hc17)))) ?_;refine WJ 2 [(19,(Value.bool (Ai t17 name))),(18,(Value.string name))] kR ?_;refine F7 ?_;refine Vc.cond (Ai t17 name) kR (λhb=>?_) (λhb=>?_)
  .have h:=h.1 (AH.1 hb);refine Vc.region ?_;refine WJ 2 [(21,(Value.pointer (some (a.add 1)))),(20,(Sl.v out))] kR ?_;obtain⟨zz1f,zz1g,zz1h,hc18,h⟩:=h;refine O0 rfl rfl (Value.agg #[(Value.int .i64 zz1f),(Value.int .i64 zz1g),(Value.int .i64 zz1h)]) (Nt rfl kR (VI (λw=>kR) (λw=>kR) ((hc18)))) ?_;refine F6 rfl (Qr rfl (λa=>Value.slice (some a) 1 1) kR (newS.mono h λa19 vw20 hx h=>?_));refine F6 rfl (KP rfl (c:=Builtin.append_ #[128,128] 128 #[(Sl.v out),(Sl.v (Sl.mk (some a19) 1 1))]) kR (appS.elim (ty:=128) h λt24 vw21 h=>?_));refine DH rfl rfl (Sl.v t24) (λw=>kR) ?_;refine F7 ?_;exact⟨t24,30,⟨rfl,kR,kR,kR⟩,h⟩
  .have h:=h.2 (MR.1 hb);refine Vc.skip ?_;exact⟨out,24,⟨rfl,kR,kR,kR⟩,h⟩
 .have hq:=h.2 (hb);clear h;subst hb;have h:=hq;clear hq;refine Vc.exit ?_;refine Zfh ?_;refine Vc.seq ?_;refine Vc.region ?_;refine DH rfl rfl (Sl.v out) (λw=>kR) ?_;refine F6 rfl (UZ rfl kR (callS.mono h λv23 vw22 h=>?_));obtain⟨rfl,h⟩:=h;refine F7 ?_;refine Vc.seq ?_;refine Vc.region ?_;refine DH rfl rfl (Sl.v out) (λw=>kR) ?_;refine F6 rfl (UZ rfl kR (callS.mono h λv25 vw24 h=>?_));obtain⟨t28,rfl,h⟩:=h;refine DH rfl rfl (Sl.v t28) (λw=>kR) ?_;refine F7 ?_;refine Vc.ret ?_;refine Zfj ?_;refine Zk (Sl.v t28) (V3 (V4 kR)) ?_;exact⟨t28,rfl,h⟩
def Fj.go{c:Option Addr}{u:Bs}{w:Wd}{k:Value->Wp}(h:Fj c u w λa0 a1=>k (Sl.v a0) a1):callS prog 191 [.pointer c, .string u] w k:=(Fj.sound c u w _ h).mono (by rintro _ _ ⟨a0,rfl,h⟩;exact h)
def J7(e f g:Int)(k:Addr)(l:Wd)(m:Bool->Wp):Prop:=
 newS l (AA e f g) 52 λn d=>∃i,Ls d k i/\∃a b c,As d n a b c/\Cs 118 [Sl.v i,(Am a b c)] d λo h=>∃j,o= .bool j/\m (!j) h
def J7.go{u a0 a1:Int}{c0:Addr}{w:Wd}{k:Value->Wp}(h:J7 u a0 a1 c0 w λa2 a3=>k (Value.bool a2) a3):callS prog 192 [(.agg #[vi u,vi a0,vi a1]),(Value.pointer (some c0))] w k:=Ct (sk:=(.s (.r []) (.s (.r []) .o))) (args:= [sv (.agg #[vi u,vi a0,vi a1]),sa c0]) func192 (Eq.mpr kR h)
def IQ(b:Sl)(a:Value)(c:Wd)(d:Wp):Prop:=
 IJ 274 b a c d
def IQ.go{x u w k}(h:IQ x u w λa0=>k (Value.tuple #[]) a0):Cs 193 [Sl.v x,u] w k:=rg (.r []) func193 h
def J8(q r s t u v:Int)(x y:Addr)(a8:Wd)(a9:Int->Wp):Prop:=
 newS a8 (AA q r s) 52 λb0 a6=>newS a6 (AA t u v) 52 λa7 z=>Dr z λa=>∃a4,Ls a x a4/\∃a5,Lt a y a5/\∃b c d,As a a7 b c d/\∃h,Ls a x h/\∃i,Lt a y i/\∃e f g,As a b0 e f g/\Cx 196 [Sl.v a4,(Bv a5 b c d)] a λb1 a0=>∃j,b1= .bool j/\Cx 195 [vB j] a0 λa1 n=>∃k,a1= .int .i64 k/\Cs 196 [Sl.v h,(Bv i e f g)] n λa2 o=>∃l,a2= .bool l/\Cs 195 [vB l] o λa3 p=>∃m,a3= .int .i64 m/\a9 (Aa (k - m)) p
def J8.go{u a0 a1 a2 a3 a4:Int}{c0 c1:Addr}{w:Wd}{k:Value->Wp}(h:J8 u a0 a1 a2 a3 a4 c0 c1 w λa5 a6=>k (Value.int .i64 a5) a6):callS prog 194 [(.agg #[vi u,vi a0,vi a1]),(.agg #[vi a2,vi a3,vi a4]),(Value.pointer (some c0)),(Value.pointer (some c1))] w k:=Ct (sk:=(.s (.r []) (.s (.r []) .o))) (args:= [sv (.agg #[vi u,vi a0,vi a1]),sv (.agg #[vi a2,vi a3,vi a4]),sa c0,sa c1]) func194 (Eq.mpr kR h)
def HL(a:Bool)(b:Wd)(c:Int->Wp):Prop:=
 (Ib a (c 1 b) (c 0 b))
def HL.go{u w k}(h:HL u w λa0 a1=>k (vI a0) a1):Cs 195 [vB u] w k:=rg (.q (.s (.q (.k .y)) .y)) func195 h
def IM(l:Sl)(e:Bs)(f g h:Int)(m:Wd)(n:Bool->Wp):Prop:=
 newS m (Bn e f g h) 150 λo i=>∃a b c d,BL i o a b c d/\Cs 275 [Sl.v l,(Bv a b c d)] i λp j=>∃k,p= .int .i64 k/\n (decide (0<=k)) j
def IM.go{a3 u a0 a1 a2 w k}(h:IM a3 u a0 a1 a2 w λa4 a5=>k (vB a4) a5):Cs 196 [Sl.v a3,(Bv u a0 a1 a2)] w k:=rg (.q .y) func196 h
def Ok(a:Sl)(b:Wd)(c:Sl->Wp):Prop:=
 ((0:Int)<=0/\0<=(a.len:Int)/\(a.len:Int)<=(a.len:Int)/\(a.len:Int)<=(a.cap:Int))/\c (Sl.mk (if(a.len:Int).toNat=0 then a.a else a.a.map (·.add (0*3))) ((a.len:Int).toNat - 0) ((a.len:Int).toNat - 0)) b
def Ok.go{u w k}(h:Ok u w λa0 a1=>k (Sl.v a0) a1):Cs 197 [Sl.v u] w k:=rg (.q .y) func197 h
def Je(a:Bs)(c:Wd)(d:Value->Wp):Prop:=
 newS c [vT a] 9 λe b=>d (Value.func (.func 200) #[] #[vP e]) b
def Je.go{u w k}(h:Je u w λa0 a1=>k a0 a1):Cs 199 [vT u] w k:=rg (.q .y) func199 h
def M5(b:Bs)(c d e:Int)(h:Addr)(i:Wd)(j:Bool->Wp):Prop:=
 newS i (Bn b c d e) 150 λk a=>∃f,Lt a k f/\∃g,Lt a h g/\j (Ai f g) a
def M5.go{u:Bs}{a0 a1 a2:Int}{c0:Addr}{w:Wd}{k:Value->Wp}(h:M5 u a0 a1 a2 c0 w λa3 a4=>k (Value.bool a3) a4):callS prog 200 [(.agg #[.string u,vi a0,vi a1,vi a2]),(Value.pointer (some c0))] w k:=Ct (sk:=(.s (.r []) (.s (.r []) .o))) (args:= [sv (.agg #[.string u,vi a0,vi a1,vi a2]),sa c0]) func200 (Eq.mpr kR h)
def M9(y:Bs)(z a0 q:Int)(a1 a2 a3 a4 a5 a6 a7:Sl)(b7:Wd)(b8:Sl->Wp):Prop:=
 newS b7 (A2 y z a0 q a1 a2 a3) 59 λb9 b5=>newS b5 (CU a4 a5 a6 a7) 34 λb6 l=>∃x,Ls l (b9.add 5) x/\loop2 Sl.nil 0 l λm a c a8=>(If (a<(x.len:Int)) (∃b4,Ix x a b4/\∃d e,Bf c (b4.add (a.toNat*2)) d e/\Co c λr a9=>stw a9 r [vT d,Sl.v e] λb0=>Dr b0 λb=>∃n,Lt b r n/\∃f g h i,BK b b6 f g h i/\∃j k,Bf b r j k/\Cx 284 [(AK f g h i),(.agg #[vT j,Sl.v k])] b λc0 s=>∃o,c0=Sl.v o/\newS s [vT n,Sl.v o] 187 λb1 t=>appS prog 32 32 m (Sl.v (Sl.mk (some b1) 1 1)) t λb2 u=>a8 b2 (Aa (a+1)) u) (Cs 285 [Sl.v m] c λb3 v=>∃p,b3=Sl.v p/\b8 p v))
def M9.go{a0 a1 a2 u a3 a4 a5 a6 a7 a8 a9 w k}(h:M9 a0 a1 a2 u a3 a4 a5 a6 a7 a8 a9 w λb0 b1=>k (Sl.v b0) b1):Cs 201 [(A0 a0 a1 a2 u a3 a4 a5),(AK a6 a7 a8 a9)] w k:=rg (.q (.q (.s (.q (.b (.l [(5,33),(11,4)] (.q (.s .x (.s (.b (.q (.r []))) (.r []))))))) .y))) func201 h
def M6(b:Bs)(c d e:Int)(f:Bs)(g h i:Int)(p:Wd)(q:Int->Wp):Prop:=
 newS p (Bn b c d e) 150 λr n=>newS n (Bn f g h i) 150 λo a=>∃k,Lt a r k/\∃l,Lt a o l/\Cs 66 [vT k,vT l] a λs j=>∃m,s= .int .i64 m/\q m j
def M6.go{u a0 a1 a2 a3 a4 a5 a6 w k}(h:M6 u a0 a1 a2 a3 a4 a5 a6 w λa7 a8=>k (vI a7) a8):Cs 202 [(Bv u a0 a1 a2),(Bv a3 a4 a5 a6)] w k:=rg (.q .y) func202 h
def Rg(a:Sl)(b:Wd)(c:Sl->Wp):Prop:=
 ((0:Int)<=0/\0<=(a.len:Int)/\(a.len:Int)<=(a.len:Int)/\(a.len:Int)<=(a.cap:Int))/\c (Sl.mk (if(a.len:Int).toNat=0 then a.a else a.a.map (·.add (0*4))) ((a.len:Int).toNat - 0) ((a.len:Int).toNat - 0)) b
def Rg.go{u w k}(h:Rg u w λa0 a1=>k (Sl.v a0) a1):Cs 203 [Sl.v u] w k:=rg (.q .y) func203 h
def Hd(c d:Sl)(e:Wd)(f:Bool->Wp):Prop:=
 Cs 286 [Sl.v c,Sl.v d,(Value.func (.func 287) #[] #[])] e λg b=>∃a,g= .bool a/\f a b
def Hd.go{a b w k}(h:Hd a b w λu a0=>k (vB u) a0):Cs 204 [Sl.v a,Sl.v b] w k:=rg (.q .y) func204 h
def ER(b c:Sl)(i:Wd)(j:Int->Wp):Prop:=
 newS i [Sl.v b] 40 λk g=>newS g [Sl.v c] 57 λh a=>∃e,Ls a k e/\Cs 289 [Sl.v e,(Value.func (.func 290) #[] #[vP h])] a λl d=>∃f,l= .int .i64 f/\j f d
def ER.go{u a0 w k}(h:ER u a0 w λa1 a2=>k (vI a1) a2):Cs 205 [(.agg #[Sl.v u]),Sl.v a0] w k:=rg (.q .y) func205 h
def Lr(a8:Sl)(e:Value)(b1:Wd)(b0:Bool->Wp):Prop:=
 loop1 0 b1 λc a2 a3=>(If (c<(a8.len:Int)) (Dr a2 λv=>∃a7,Ix a8 c a7/\∃i j k l,BL v (a7.add (c.toNat*4)) i j k l/\callV prog e [(Bv i j k l)] v λb2 a4=>∃x,b2= .string x/\Cs 74 [vT x] a4 λa9 d=>∃y,a9= .bool y/\bnd (!y) λ(a0:Bool)=>bnd (decide (0<c)) λ(f:Bool)=>∃z,Gx ((!a0)&&f) a8 (Aa (c - 1)) z/\∃m n o p,RV ((!a0)&&f) d (z.add ((Aa (c - 1)).toNat*4)) m n o p/\∃q,Gx ((!a0)&&f) a8 c q/\∃r s t u,RV ((!a0)&&f) d (q.add (c.toNat*4)) r s t u/\gCall ((!a0)&&f) (λ(g:Bs) (a:Wd)=>gCall ((!a0)&&f) (λ(h:Bs) (b:Wd)=>(Ib (a0||(f&&(!Ao g h))) (b0 false b) (a3 (Aa (c+1)) b))) (λa1=>callV prog e [(Bv r s t u)] a λa5 b=>∃h,a5= .string h/\a1 h b) (λa1=>a1 (bm #[]) a)) (λa1=>callV prog e [(Bv m n o p)] d λa6 a=>Ext d a/\∃g,a6= .string g/\a1 g a) (λa1=>a1 (bm #[]) d)) (b0 true a2))
def Lr.go{l u w k}(h:Lr l u w λa0 a1=>k (vB a0) a1):Cs 206 [Sl.v l,u] w k:=rg (.q (.s (.q (.b (.l [(8,4)] (.q (.s .x (.s (.b (.q (.q (.k .y)))) (.r []))))))) .y)) func206 h
def NO(a:Bs)(b c d:Int)(g:Wd)(h:Bs->Wp):Prop:=
 newS g (Bn a b c d) 150 λi e=>∃f,Lt e i f/\h f e
def NO.go{u a0 a1 a2 w k}(h:NO u a0 a1 a2 w λa3 a4=>k (vT a3) a4):Cs 207 [(Bv u a0 a1 a2)] w k:=rg (.q .y) func207 h
def Lq(a2:Sl)(e:Value)(a5:Wd)(a4:Bool->Wp):Prop:=
 loop1 0 a5 λc v x=>(If (c<(a2.len:Int)) (Dr v λp=>∃a1,Ix a2 c a1/\∃i j,D3 p (a1.add (c.toNat*2)) i j/\callV prog e [(.agg #[vT i,vI j])] p λa6 y=>∃q,a6= .string q/\Cs 74 [vT q] y λa3 d=>∃r,a3= .bool r/\bnd (!r) λ(t:Bool)=>bnd (decide (0<c)) λ(f:Bool)=>∃s,Gx ((!t)&&f) a2 (Aa (c - 1)) s/\∃k l,RU ((!t)&&f) d (s.add ((Aa (c - 1)).toNat*2)) k l/\∃m,Gx ((!t)&&f) a2 c m/\∃n o,RU ((!t)&&f) d (m.add (c.toNat*2)) n o/\gCall ((!t)&&f) (λ(g:Bs) (a:Wd)=>gCall ((!t)&&f) (λ(h:Bs) (b:Wd)=>(Ib (t||(f&&(!Ao g h))) (a4 false b) (x (Aa (c+1)) b))) (λu=>callV prog e [(.agg #[vT n,vI o])] a λz b=>∃h,z= .string h/\u h b) (λu=>u (bm #[]) a)) (λu=>callV prog e [(.agg #[vT k,vI l])] d λa0 a=>Ext d a/\∃g,a0= .string g/\u g a) (λu=>u (bm #[]) d)) (a4 true v))
def Lq.go{l u w k}(h:Lq l u w λa0 a1=>k (vB a0) a1):Cs 208 [Sl.v l,u] w k:=rg (.q (.s (.q (.b (.l [(8,4)] (.q (.s .x (.s (.b (.q (.q (.k .y)))) (.r []))))))) .y)) func208 h
def NP(a:Bs)(b:Int)(e:Wd)(f:Bs->Wp):Prop:=
 newS e [vT a,vI b] 153 λg c=>∃d,Lt c g d/\f d c
def NP.go{u a0 w k}(h:NP u a0 w λa1 a2=>k (vT a1) a2):Cs 209 [(.agg #[vT u,vI a0])] w k:=rg (.q .y) func209 h
def LW(g:Sl)(k:Value)(l:Wd)(j:Int->Wp):Prop:=
 loop1 0 l λa f h=>(If (a<(g.len:Int)) (∃i,Ix g a i/\∃b c,D3 f (i.add (a.toNat*2)) b c/\callV prog k [(.agg #[vT b,vI c])] f λm d=>∃e,m= .bool e/\(Ib e (j a d) (h (Aa (a+1)) d))) (j (-1) f))
def LW.go{u f w k}(h:LW u f w λa0 a1=>k (vI a0) a1):Cs 210 [Sl.v u,f] w k:=rg (.q (.s (.q (.b (.l [(8,4)] (.q (.s .x (.s (.b (.q (.q (.k .y)))) (.r []))))))) .y)) func210 h
def NQ(b:Bs)(c:Int)(f:Addr)(g:Wd)(h:Bool->Wp):Prop:=
 newS g [vT b,vI c] 153 λi a=>∃d,Lt a i d/\∃e,Lt a f e/\h (Ai d e) a
def NQ.go{u:Bs}{a0:Int}{c0:Addr}{w:Wd}{k:Value->Wp}(h:NQ u a0 c0 w λa1 a2=>k (Value.bool a1) a2):callS prog 211 [(.agg #[.string u,vi a0]),(Value.pointer (some c0))] w k:=Ct (sk:=(.s (.r []) (.s (.r []) .o))) (args:= [sv (.agg #[.string u,vi a0]),sa c0]) func211 (Eq.mpr kR h)
def M3(a:Sl)(b:Bs)(j:Wd)(k:Sl->Wp):Prop:=
 semS prog (Instr.makeSlice 57 (vI 0) (vI (Aa ((a.len:Int)+1)))) j λl i=>∃h,l=Sl.v h/\appS prog 57 57 h (Sl.v a) i λc d=>newS d [vT b] 9 λm e=>appS prog 57 57 c (Sl.v (Sl.mk (some m) 1 1)) e λf g=>k f g
def M3.go{a0 u w k}(h:M3 a0 u w λa1 a2=>k (Sl.v a1) a2):Cs 212 [Sl.v a0,vT u] w k:=rg (.q (.q .y)) func212 h
def Ld(a7:Option Addr)(e r:Int)(b1:Wd)(b0:Bool->Wp):Prop:=
 Dr b1 λf=>∃a4,a7=some a4/\∃s,Ls f a4 s/\∃a5,a7=some a5/\∃t,Ls f (a5.add 7) t/\∃a6,Ix t e a6/\∃i,Li f ((a6.add (e.toNat*9)).add 8) i/\∃u,Ix s i u/\∃j,Ls f ((u.add (i.toNat*6)).add 4) j/\loop1 0 f λd g a2=>(If (d<(j.len:Int)) (∃k,Ix j d k/\∃l m n o,BL g (k.add (d.toNat*4)) l m n o/\Gw g λa8 z=>stw z a8 (Bn l m n o) λh=>∃v,Lt h a8 v/\Cs 291 [.pointer a7,vI r,vT v] h λb2 a0=>∃p,b2= .int .i64 p/\Dr a0 λb=>bnd (decide (p<0)) λ(a1:Bool)=>∃x,Gn (!a1) a7 x/\∃q,Gs (!a1) b (x.add 7) q/\∃y,Gt (!a1) b a8 y/\gCall (!a1) (λ(c:Int) (a:Wd)=>(Ib (a1||(!(c==p))) (b0 false a) (a2 (Aa (d+1)) a))) (λa9=>Cs 131 [(.agg #[Sl.v q]),vI e,vT y] b λa3 a=>∃c,a3= .int .i64 c/\a9 c a) (λa9=>a9 0 b)) (b0 true g))
def Ld.go{p a0 u w k}(h:Ld p a0 u w λa1 a2=>k (vB a1) a2):Cs 213 (MD p a0 u) w k:=rg (.q (.s (.q (.b (.l [(28,4)] (.q (.s .x (.s (.b (.q (.q (.q (.k .y))))) (.r []))))))) .y)) func213 h
def Lm(b6:Option Addr)(l f:Int)(e3:Wd)(f6:Int->Wp):Prop:=
 ∃f2,b6=some f2/\∃b8,Ls e3 f2 b8/\∃f3,Ix b8 f f3/\∃v,Lt e3 (f3.add (f.toNat*6)) v/\∃f4,b6=some f4/\∃b9,Ls e3 (f4.add 7) b9/\∃c0,Ix b9 l c0/\∃d,Ls e3 (c0.add (l.toNat*9)) d/\join (λ(d7 m:Int) (e4:Wd)=>(If (0<=m) (f6 m e4) (f6 d7 e4))) λe5=>loop3 (-1) (-1) (d.len:Int) e3 λi a k r e6=>(If (0<=k) (join (λ(q o:Int) (d8:Wd)=>e6 q o (Aa (k - 1)) d8) λj=>Dr r λs=>∃c1,b6=some c1/\∃x,Ls s (c1.add 7) x/\((0:Int)<=k/\k<=(d.cap:Int))/\Cs 205 [(.agg #[Sl.v x]),(Sl.v (Sl.cut d 0 k.toNat 1))] s λf7 d9=>∃e,f7= .int .i64 e/\((0:Int)<=k/\k<=(d.cap:Int))/\Cs 89 [(Sl.v (Sl.cut d 0 k.toNat 1))] d9 λe7 e0=>∃c2,e7=Sl.v c2/\newS e0 [vT v] 9 λf8 e1=>appS prog 57 57 c2 (Sl.v (Sl.mk (some f8) 1 1)) e1 λb7 t=>∃c3,b6=some c3/\∃y,Ls t (c3.add 7) y/\Cs 205 [(.agg #[Sl.v y]),Sl.v b7] t λe8 u=>∃c4,e8= .int .i64 c4/\(If (0<=c4) (e5 i a u) (Cs 292 [.pointer b6,vI e,vT v] u λe9 c=>∃c5,e9= .bool c5/\(Ib c5 (j i a c) (∃c6,b6=some c6/\∃c7,Lp c (c6.add 6) c7/\(If (c7=none) (j e a c) (∃c8,b6=some c8/\∃c9,Lp c (c8.add 6) c9/\∃d0,c9=some d0/\∃z,Ls c d0 z/\Cs 205 [(.agg #[Sl.v z]),Sl.v b7] c λf0 e2=>∃n,f0= .int .i64 n/\Dr e2 λb=>bnd (decide (0<=n)) λ(p:Bool)=>∃d1,Gn p b6 d1/\∃d2,Gp p b (d1.add 6) d2/\∃d3,Gn p d2 d3/\∃d4,Gs p b d3 d4/\∃a0,Gx p d4 n a0/\∃a1 a2 a3 a4 a5 a6 a7,Ek p b ((a0.add (n.toNat*9)).add 1) a1 a2 a3 a4 a5 a6 a7/\∃d5,Gn p b6 d5/\∃d6,Gs p b (d5.add 1) d6/\∃a8,Gx p d6 f a8/\∃a9 b0 b1 b2 b3 b4 b5,Ek p b (a8.add (f.toNat*7)) a9 b0 b1 b2 b3 b4 b5/\gCall p (λ(g:Bool) (h:Wd)=>(Ib (p&&g) (j e e h) (j e a h))) (λf5=>Cs 127 [(A0 a1 a2 a3 a4 a5 a6 a7),(A0 a9 b0 b1 b2 b3 b4 b5)] b λf1 h=>∃g,f1= .bool g/\f5 g h) (λf5=>f5 false b)))))))) (e5 i a r))
def Lm.go{p u a0 w k}(h:Lm p u a0 w λa1 a2=>k (vI a1) a2):Cs 214 (MD p u a0) w k:=rg (.q (.z (.q (.q (.q (.s .o (.j [(8,4),(9,4)] (.q (.b (.l [(8,4),(9,4),(11,4)] (.s (.q .x) (.j [(8,4),(9,4)] (.b (.q (.q (.s (.q .x) (.s (.q .x) (.q (.s (.q .x) (.q (.q (.c (.r []) .o)))))))))) (.r [])))))) (.s (.q (.k .y)) .y)))))))) func214 h
def Ll(a8:Option Addr)(f c:Int)(e9:Wd)(f0:Int->Int->Wp):Prop:=
 ∃e6,a8=some e6/\∃b1,Ls e9 (e6.add 1) b1/\∃e7,Ix b1 c e7/\∃i j k l m n o,A7 e9 (e7.add (c.toNat*7)) i j k l m n o/\N59 e9 λf1 f2=>stw f2 f1 (A2 i j k l m n o) λd6=>join (λ(g:Sl) (d5:Wd)=>Dr d5 λa9=>∃e8,a8=some e8/\∃b2,Li a9 ((e8.add 2).add 3) b2/\Cx 42 [Sl.v g] a9 λf3 b0=>∃b3,f3= .string b3/\(If (b2<(b3.size:Int)) (f0 0 40 b0) (Dr b0 λb=>∃b4,a8=some b4/\∃b5,Ls b (b4.add 7) b5/\∃b6,a8=some b6/\∃b7,Li b ((b6.add 2).add 2) b7/\(If (b7<=(Aa ((b5.len:Int) - 1))) (f0 0 41 b) (Dr b λd=>∃b8,a8=some b8/\∃b9,Ls d (b8.add 7) b9/\∃p q r s t u v,A7 d f1 p q r s t u v/\Cx 90 [(A0 p q r s t u v)] d λd7 c6=>∃x y z a0 a1 a2 a3,d7=ML x y z a0 a1 a2 a3/\newS c6 (Ej g x y z a0 a1 a2 a3 c) 61 λd8 c7=>appS prog 38 38 b9 (Sl.v (Sl.mk (some d8) 1 1)) c7 λd9 c8=>∃c0,a8=some c0/\stw c8 (c0.add 7) [Sl.v d9] λh=>∃c1,a8=some c1/\∃c2,Ls h (c1.add 7) c2/\f0 (Aa ((c2.len:Int) - 1)) 0 h))))) λe0=>Dr d6 λa=>∃c3,a8=some c3/\∃c4,Ls a (c3.add 7) c4/\∃a4,Ix c4 f a4/\∃a5,Ls a (a4.add (f.toNat*9)) a5/\∃a6,Lt a f1 a6/\((Cx 89 [Sl.v a5] a λe1 c9=>∃c5,e1=Sl.v c5/\newS c9 [vT a6] 9 λe2 d0=>appS prog 57 57 c5 (Sl.v (Sl.mk (some e2) 1 1)) d0 λe3 d1=>e0 e3 d1)/\(newS a [vT a6] 9 λe4 d2=>Cx 89 [Sl.v a5] d2 λe5 d3=>∃e,e5=Sl.v e/\appS prog 57 57 e (Sl.v (Sl.mk (some e4) 1 1)) d3 λa7 d4=>e0 a7 d4))
def Ll.go{p u a0 w k}(h:Ll p u a0 w λa1 a2 a3=>k (Value.tuple #[vI a1,vI a2]) a3):Cs 215 (MD p u a0) w k:=rg (.q (.q (.j [(9,58)] (.r []) (.s (.b (.q (.c .y (.q (.k .y))))) (.q .y))))) func215 h
def F8(g h i:Int)(o:Wd)(n:Int->Bool->Wp):Prop:=
 newS o (AA g h i) 52 λm j=>∃b c d,As j m b c d/\Cs 75 [(Am b c d)] j λp a=>∃k,p= .bool k/\(Ib (!k) (n 0 false a) (∃l,Li a m l/\∃e,Li a (m.add 1) e/\∃f,Li a (m.add 2) f/\n (Aa ((Aa ((Aa ((Aa (l*1000))+e))*1000))+f)) true a))
def F8.go{u a0 a1 w k}(h:F8 u a0 a1 w λa2 a3 a4=>k (Value.tuple #[vI a2,vB a3]) a4):Cs 237 [(Am u a0 a1)] w k:=rg (.q (.s (.q (.k .y)) .y)) func237 h
def Ez(d e f:Int)(k:Wd)(l:Int->Wp):Prop:=
 newS k (AA d e f) 52 λm g=>∃a b c,As g m a b c/\Cs 304 [(Am a b c)] g λn h=>∃i j,n=G3 i j/\l i h
def Ez.go{u a0 a1 w k}(h:Ez u a0 a1 w λa2 a3=>k (vI a2) a3):Cs 238 [(Am u a0 a1)] w k:=rg (.q (.q .y)) func238 h
def Fq(i:Int)(s:Wd)(t:Bs->Wp):Prop:=
 (If (i<10) (newS s [(Value.int .u8 (IntKind.wrap .u8 (Aa (48+i))))] 5 λu l=>∃j,(Cv prog (Go.convert 167 9 (Sl.v (Sl.mk (some u) 1 1))) l (vT j))/\t j l) (join (λ(p:Bs) (k:Wd)=>t p k) λm=>Dr s λe=>((Cx 239 [(vI (Aa (i.tdiv 10)))] e λv n=>∃d,v= .string d/\newS n [(Value.int .u8 (IntKind.wrap .u8 (Aa (48+(Int.tmod i 10)))))] 5 λq f=>∃c,(Cv prog (Go.convert 167 9 (Sl.v (Sl.mk (some q) 1 1))) f (vT c))/\(((d.size+c.size:Nat):Int)<=Al)/\m (d++c) f)/\(newS e [(Value.int .u8 (IntKind.wrap .u8 (Aa (48+(Int.tmod i 10)))))] 5 λr g=>∃b,(Cv prog (Go.convert 167 9 (Sl.v (Sl.mk (some r) 1 1))) g (vT b))/\Cx 239 [(vI (Aa (i.tdiv 10)))] g λo h=>∃a,o= .string a/\(((a.size+b.size:Nat):Int)<=Al)/\m (a++b) h))))
def Fq.go{n w k}(h:Fq n w λu a0=>k (vT u) a0):Cs 239 [vI n] w k:=rg (.q (.s (.q (.k .y)) (.j [(2,10)] (.r []) .o))) func239 h
def Kn(b6:Sl)(d3:Wd)(d1:Bs->Wp):Prop:=
 Cs 151 [Sl.v b6] d3 λd5 c1=>∃b9,d5= .bool b9/\(Ib (!b9) (d1 (bm #[]) c1) ((If ((b6.len:Int)=0) (d1 (bm #[60,48,46,48,46,48]) c1) (loop2 (bm #[]) 0 c1 λf e g c5=>(If (e<(b6.len:Int)) (join (λ(c0:Bs) (c4:Wd)=>c5 c0 (Aa (e+1)) c4) λh=>join (λ(a:Bs) (b7:Wd)=>∃d0,Ix b6 e d0/\∃l m n,As b7 (d0.add (e.toNat*6)) l m n/\Cs 153 [(Am l m n)] b7 λd2 b8=>∃c,d2= .string c/\((((bm #[62,61]).size+c.size:Nat):Int)<=Al)/\∃o,Ix b6 e o/\∃p q r,As b8 ((o.add (e.toNat*6)).add 3) p q r/\Cs 153 [(Am p q r)] b8 λc6 i=>∃d,c6= .string d/\((((bm #[60,61]).size+d.size:Nat):Int)<=Al)/\∃s,Ix b6 e s/\∃t u v,As i (s.add (e.toNat*6)) t u v/\Cs 238 [(Am t u v)] i λc7 j=>∃x,c7= .int .i64 x/\∃y,Ix b6 e y/\∃z a0 a1,As j ((y.add (e.toNat*6)).add 3) z a0 a1/\Cs 238 [(Am z a0 a1)] j λc8 c2=>∃a2,c8= .int .i64 a2/\Dr c2 λb=>∃a3,Ix b6 e a3/\∃a4 a5 a6,As b (a3.add (e.toNat*6)) a4 a5 a6/\∃a7,Ix b6 e a7/\∃a8 a9 b0,As b ((a7.add (e.toNat*6)).add 3) a8 a9 b0/\(Ib ((a4==a8)&&((a5==a9)&&((a6==b0)&&true))) (∃b1,Ix b6 e b1/\∃b2 b3 b4,As b (b1.add (e.toNat*6)) b2 b3 b4/\Cs 153 [(Am b2 b3 b4)] b λc9 c3=>∃b5,c9= .string b5/\(((a.size+b5.size:Nat):Int)<=Al)/\h (a++b5) c3) (bnd (x==0) λ(d4:Bool)=>(Ib (d4&&(a2==999999999)) ((((a.size+(bm #[42]).size:Nat):Int)<=Al)/\h (a++(bm #[42])) b) ((If (x=0) ((((a.size+((bm #[60,61])++d).size:Nat):Int)<=Al)/\h (a++((bm #[60,61])++d)) b) ((If (a2=999999999) ((((a.size+((bm #[62,61])++c).size:Nat):Int)<=Al)/\h (a++((bm #[62,61])++c)) b) ((((a.size+((bm #[62,61])++c).size:Nat):Int)<=Al)/\((((a++((bm #[62,61])++c)).size+(bm #[32]).size:Nat):Int)<=Al)/\(((((a++((bm #[62,61])++c))++(bm #[32])).size+((bm #[60,61])++d).size:Nat):Int)<=Al)/\h (((a++((bm #[62,61])++c))++(bm #[32]))++((bm #[60,61])++d)) b))))))))) λk=>(If (0<e) ((((f.size+(bm #[32,124,124,32]).size:Nat):Int)<=Al)/\k (f++(bm #[32,124,124,32])) g) (k f g))) (d1 f g))))))
def Kn.go{l w k}(h:Kn l w λu a0=>k (vT u) a0):Cs 240 [Sl.v l] w k:=rg (.q (.s (.q (.k .y)) (.s (.q (.k .y)) (.q (.s (.q (.b (.l [(3,10),(4,4)] (.s (.q .x) (.j [(3,10)] (.b (.j [(3,10)] (.q (.c (.r []) .o)) (.q (.q (.q (.q (.b (.q (.c (.r []) (.q (.c (.r []) (.q (.c (.r []) (.q (.c (.r []) (.r [])))))))))))))))) (.r [])))))) .y))))) func240 h
def Mh(a6:Sl)(a7:Wd)(a8:Sl->Wp):Prop:=
 loop2 Sl.nil 0 a7 λn a s y=>(If (a<(a6.len:Int)) (∃a2,Ix a6 a a2/\∃b c d e f g,Jm s (a2.add (a.toNat*6)) b c d e f g/\Sa s λa3 z=>stw z a3 (MC b c d e f g) λo=>∃h i j,As o a3 h i j/\Cs 237 [(Am h i j)] o λa9 p=>∃q v,a9=G3 q v/\∃k l m,As p (a3.add 3) k l m/\Cs 237 [(Am k l m)] p λa4 a0=>∃r x,a4=G3 r x/\newS a0 [vI q,vI r] 305 λa5 t=>appS prog 302 302 n (Sl.v (Sl.mk (some a5) 1 1)) t λa1 u=>y a1 (Aa (a+1)) u) (a8 n s))
def Mh.go{l w k}(h:Mh l w λu a0=>k (Sl.v u) a0):Cs 241 [Sl.v l] w k:=rg (.q (.q (.s (.q (.b (.l [(3,303),(12,4)] (.q (.s .x (.s (.b (.q (.q (.q (.r []))))) (.r []))))))) .y))) func241 h
def Gk(i:Int)(m:Wd)(l:Int->Int->Int->Bool->Wp):Prop:=
 N52 m λk j=>bnd (decide (i<0)) λ(n:Bool)=>(Ib (n||(decide (1000000000<=i))) (stw j k (AA 0 0 0) λg=>∃a b c,As g k a b c/\l a b c false g) (stw j k [(vI (Aa ((Aa (i.tdiv 1000)).tdiv 1000))),(vI (Int.tmod (Aa (i.tdiv 1000)) 1000)),(vI (Int.tmod i 1000))] λh=>∃d e f,As h k d e f/\l d e f true h))
def Gk.go{n w k}(h:Gk n w λu a0 a1 a2 a3=>k (Value.tuple #[(Am u a0 a1),vB a2]) a3):Cs 242 [vI n] w k:=rg (.q (.s (.q (.k .y)) .y)) func242 h
def Iz(s:Int)(a:Value)(u:Wd)(t:Bool->Wp):Prop:=
 loop1 0 u λf l m=>(If (f<s) (callV prog a [vI f] l λv n=>∃h,v= .string h/\Cs 74 [vT h] n λq g=>∃i,q= .bool i/\bnd (!i) λ(p:Bool)=>bnd (decide (0<f)) λ(j:Bool)=>gCall ((!p)&&j) (λ(b:Bs) (c:Wd)=>gCall ((!p)&&j) (λ(d:Bs) (e:Wd)=>(Ib (p||(j&&(!Ao b d))) (t false e) (m (Aa (f+1)) e))) (λk=>callV prog a [vI f] c λo e=>∃d,o= .string d/\k d e) (λk=>k (bm #[]) c)) (λk=>callV prog a [(vI (Aa (f - 1)))] g λr c=>∃b,r= .string b/\k b c) (λk=>k (bm #[]) g)) (t (decide (s<=128)) l))
def Iz.go{n u w k}(h:Iz n u w λa0 a1=>k (vB a0) a1):Cs 244 [vI n,u] w k:=rg (.q (.s (.q (.b (.l [(7,4)] (.q (.s .x (.s (.b (.q (.q (.k .y)))) (.r []))))))) .y)) func244 h
def Qf(f:Int)(d:Addr)(e:Wd)(g:Bs->Wp):Prop:=
 ∃a,Ls e (d.add 4) a/\∃b,Ix a f b/\∃c,Lt e (b.add (f.toNat*4)) c/\g c e
def Qf.go{i:Int}{c0:Addr}{w:Wd}{k:Value->Wp}(h:Qf i c0 w λu a0=>k (Value.string u) a0):callS prog 245 [vi i,(Value.pointer (some c0))] w k:=Ct (sk:=(.s (.r []) (.s (.r []) .o))) (args:= [sv (Value.int .i64 i),sa c0]) func245 (Eq.mpr kR h)
def Qg(f:Int)(d:Addr)(e:Wd)(g:Bs->Wp):Prop:=
 ∃a,Ls e (d.add 5) a/\∃b,Ix a f b/\∃c,Lt e (b.add (f.toNat*2)) c/\g c e
def Qg.go{i:Int}{c0:Addr}{w:Wd}{k:Value->Wp}(h:Qg i c0 w λu a0=>k (Value.string u) a0):callS prog 246 [vi i,(Value.pointer (some c0))] w k:=Ct (sk:=(.s (.r []) (.s (.r []) .o))) (args:= [sv (Value.int .i64 i),sa c0]) func246 (Eq.mpr kR h)
def Mj(b:Bs)(e0:Wd)(a5:Int->Int->Bool->Wp):Prop:=
 MH e0 λe d3=>(If (b=(bm #[42])) (stw d3 e [vI 0,vI 999999999] λc6=>∃b7 b8,Cz c6 e b7 b8/\a5 b7 b8 true c6) (Cs 146 [vT b,(vT (bm #[60,62,61,94,126]))] d3 λe1 d4=>∃d,e1= .string d/\Cs 315 [vT d] d4 λd9 d5=>∃b9 c0 c1 c2,d9=FE b9 c0 c1 c2/\N52 d5 λa4 d6=>stw d6 a4 (AA b9 c0 c1) λc7=>∃c3 c4 c5,As c7 a4 c3 c4 c5/\Cs 237 [(Am c3 c4 c5)] c7 λd7 f=>∃c d1,d7=G3 c d1/\∃a3,Li f (a4.add 2) a3/\∃c8,Li f (a4.add 1) c8/\(Ib (!c2) (stw f e [vI 0,vI 0] λa6=>∃g h,Cz a6 e g h/\a5 g h false a6) (((0:Int)<=(Aa ((b.size:Int) - (d.size:Int)))/\(Aa ((b.size:Int) - (d.size:Int)))<=(b.size:Int))/\join (λ(d2:Bool) (a:Wd)=>(Ib d2 (stw a e [vI c,vI c] λa7=>∃i j,Cz a7 e i j/\a5 i j true a7) ((If ((b.extract 0 (Aa ((b.size:Int) - (d.size:Int))).toNat)=(bm #[60])) (stw a e [vI 0,(vI (Aa (c - 1)))] λa8=>∃k l,Cz a8 e k l/\a5 k l true a8) ((If ((b.extract 0 (Aa ((b.size:Int) - (d.size:Int))).toNat)=(bm #[60,61])) (stw a e [vI 0,vI c] λa9=>∃m n,Cz a9 e m n/\a5 m n true a9) ((If ((b.extract 0 (Aa ((b.size:Int) - (d.size:Int))).toNat)=(bm #[62])) (stw a e [(vI (Aa (c+1))),vI 999999999] λb0=>∃o p,Cz b0 e o p/\a5 o p true b0) ((If ((b.extract 0 (Aa ((b.size:Int) - (d.size:Int))).toNat)=(bm #[62,61])) (stw a e [vI c,vI 999999999] λb1=>∃q r,Cz b1 e q r/\a5 q r true b1) ((If ((b.extract 0 (Aa ((b.size:Int) - (d.size:Int))).toNat)=(bm #[126])) (stw a e [vI c,(vI (Aa ((Aa (c - a3))+999)))] λb2=>∃s t,Cz b2 e s t/\a5 s t true b2) ((If ((b.extract 0 (Aa ((b.size:Int) - (d.size:Int))).toNat)=(bm #[94])) (∃c9,Li a a4 c9/\(If (0<c9) (stw a e [vI c,(vI (Aa ((Aa ((Aa (c - a3))+999))+(Aa ((Aa (999 - c8))*1000)))))] λb3=>∃u v,Cz b3 e u v/\a5 u v true b3) (∃d0,Li a (a4.add 1) d0/\(If (0<d0) (stw a e [vI c,(vI (Aa ((Aa (c - a3))+999)))] λb4=>∃x y,Cz b4 e x y/\a5 x y true b4) (stw a e [vI c,vI c] λb5=>∃z a0,Cz b5 e z a0/\a5 z a0 true b5))))) (stw a e [vI 0,vI 0] λb6=>∃a1 a2,Cz b6 e a1 a2/\a5 a1 a2 false b6))))))))))))))) λd8=>(If ((b.extract 0 (Aa ((b.size:Int) - (d.size:Int))).toNat)=(bm #[])) (d8 (Ai (b.extract 0 (Aa ((b.size:Int) - (d.size:Int))).toNat) (bm #[])) f) (d8 (Ai (b.extract 0 (Aa ((b.size:Int) - (d.size:Int))).toNat) (bm #[61])) f))))))
def Mj.go{u w k}(h:Mj u w λa0 a1 a2 a3=>k (Value.tuple #[(.agg #[vI a0,vI a1]),vB a2]) a3):Cs 263 [vT u] w k:=rg (.q (.s (.q (.k .y)) (.q (.q (.q (.q (.q (.s (.q (.k .y)) (.s (.q (.b (.j [(47,5)] (.q (.c .o (.r []))) (.c .y (.q (.c .y (.q (.c .y (.q (.c .y (.q (.c .y (.q (.c .y (.q (.c (.s (.b (.q (.c .y (.q (.k .y))))) .y) .o)))))))))))))))) .y))))))))) func263 h
def Oo(c:Sl)(d:Wd)(e:Sl->Int->Wp):Prop:=
 (If (64<(c.len:Int)) (e Sl.nil 26 d) (Cs 316 [Sl.v c] d λf b=>∃a,f=Sl.v a/\e a 0 b))
def Oo.go{l w k}(h:Oo l w λu a0 a1=>k (Value.tuple #[Sl.v u,vI a0]) a1):Cs 264 [Sl.v l] w k:=rg (.q (.s (.q (.k .y)) .y)) func264 h
def Mf(b0:Sl)(b1:Wd)(b2:Sl->Wp):Prop:=
 callS prog 318 [Sl.v b0] b1 λb3 a8=>∃v,b3=v/\Cs 317 [v,(Value.func (.func 319) #[] #[])] a8 λa9 y=>∃u,a9=Sl.v u/\loop2 Sl.nil 0 y λa h i z=>(If (h<(u.len:Int)) (join (λ(q:Sl) (x:Wd)=>z q (Aa (h+1)) x) λa0=>∃a5,Ix u h a5/\∃c d,Cz i (a5.add (h.toNat*2)) c d/\MH i λa7 a1=>stw a1 a7 [vI c,vI d] λa2=>Dr a2 λb=>bnd (decide (0<=(Aa ((a.len:Int) - 1)))) λ(a6:Bool)=>∃m,Gi a6 b a7 m/\∃j,Gx a6 a (Aa ((a.len:Int) - 1)) j/\∃n,Gi a6 b ((j.add ((Aa ((a.len:Int) - 1)).toNat*2)).add 1) n/\(Ib (a6&&(decide (m<=(Aa (n+1))))) (Dr b λg=>∃k,Ix a (Aa ((a.len:Int) - 1)) k/\∃o,Li g ((k.add ((Aa ((a.len:Int) - 1)).toNat*2)).add 1) o/\∃p,Li g (a7.add 1) p/\∃l,Ix a (Aa ((a.len:Int) - 1)) l/\stw g ((l.add ((Aa ((a.len:Int) - 1)).toNat*2)).add 1) [(vI (PS o p))] λr=>a0 a r) (∃e f,Cz b a7 e f/\newS b [vI e,vI f] 305 λa3 s=>appS prog 302 302 a (Sl.v (Sl.mk (some a3) 1 1)) s λa4 t=>a0 a4 t))) (b2 a i))
def Mf.go{l w k}(h:Mf l w λu a0=>k (Sl.v u) a0):Cs 265 [Sl.v l] w k:=rg (.q (.q (.q (.s (.q (.b (.l [(3,303),(12,4)] (.q (.s .x (.j [(3,303)] (.b (.q (.q (.q (.c (.r []) (.r [])))))) (.r []))))))) .y)))) func265 h
def Ki(l:Bs)(m n o:Int)(p:Bs)(q r s:Int)(a6:Wd)(a7:Int->Wp):Prop:=
 newS a6 (Bn l m n o) 150 λa5 a3=>newS a3 (Bn p q r s) 150 λt u=>Dr u λa=>∃a0,Lt a a5 a0/\∃a1,Lt a t a1/\∃b c d,As a (a5.add 1) b c d/\∃e f g,As a (t.add 1) e f g/\Cx 66 [vT a0,vT a1] a λa8 v=>∃a2,a8= .int .i64 a2/\Cs 189 [(Am b c d),(Am e f g)] v λa4 x=>∃h,a4= .int .i64 h/\newS x [vI a2,vI h] 3 λy j=>Cs 103 [(Sl.v (Sl.mk (some y) 2 2))] j λz k=>∃i,z= .int .i64 i/\a7 i k
def Ki.go{u a0 a1 a2 a3 a4 a5 a6 w k}(h:Ki u a0 a1 a2 a3 a4 a5 a6 w λa7 a8=>k (vI a7) a8):Cs 266 [(Bv u a0 a1 a2),(Bv a3 a4 a5 a6)] w k:=rg (.q .y) func266 h
def IP(g:Sl)(k:Value)(l:Wd)(j:Int->Wp):Prop:=
 loop1 0 l λa f h=>(If (a<(g.len:Int)) (∃i,Ix g a i/\∃b c,Bf f (i.add (a.toNat*2)) b c/\callV prog k [(.agg #[vT b,Sl.v c])] f λm d=>∃e,m= .bool e/\(Ib e (j a d) (h (Aa (a+1)) d))) (j (-1) f))
def IP.go{u f w k}(h:IP u f w λa0 a1=>k (vI a0) a1):Cs 267 [Sl.v u,f] w k:=rg (.q (.s (.q (.b (.l [(8,4)] (.q (.s .x (.s (.b (.q (.q (.k .y)))) (.r []))))))) .y)) func267 h
def Jf(c7 c8 c9 d0 h a6:Sl)(e3:Wd)(e4:Sl->Wp):Prop:=
 newS e3 (CU c7 c8 c9 d0) 34 λe2 e1=>loop2 Sl.nil 0 e1 λa7 e i d1=>(If (e<(h.len:Int)) (∃e0,Ix h e e0/\∃m,Ls i (e0.add (e.toNat*1)) m/\loop2 a7 0 i λj f k b4=>(If (f<(m.len:Int)) (∃a8,Ix m f a8/\∃n o,Bf k (a8.add (f.toNat*2)) n o/\Co k λb5 d2=>stw d2 b5 [vT n,Sl.v o] λb6=>Dr b6 λa=>∃a9,Lt a b5 a9/\∃p q r s,BK a e2 p q r s/\∃t u,Bf a b5 t u/\Cx 284 [(AK p q r s),(.agg #[vT t,Sl.v u])] a λe5 b7=>∃b0,e5=Sl.v b0/\newS b7 (EX a9 1 b0) 134 λd3 b8=>appS prog 125 125 j (Sl.v (Sl.mk (some d3) 1 1)) b8 λd4 b9=>b4 d4 (Aa (f+1)) b9) (d1 j (Aa (e+1)) k))) (loop2 a7 0 i λb g d a5=>(If (g<(a6.len:Int)) (∃v,Ix a6 g v/\∃x y,Bf d (v.add (g.toNat*2)) x y/\Co d λl c0=>stw c0 l [vT x,Sl.v y] λc1=>Dr c1 λc=>∃b1,Lt c l b1/\∃z a0 a1 a2,BK c e2 z a0 a1 a2/\∃a3 a4,Bf c l a3 a4/\Cx 284 [(AK z a0 a1 a2),(.agg #[vT a3,Sl.v a4])] c λd5 c2=>∃b2,d5=Sl.v b2/\newS c2 (EX b1 2 b2) 134 λd6 c3=>appS prog 125 125 b (Sl.v (Sl.mk (some d6) 1 1)) c3 λd7 c4=>a5 d7 (Aa (g+1)) c4) (Cs 328 [Sl.v b,(Value.func (.func 329) #[] #[])] d λd8 c5=>d8= .tuple #[]/\Cs 330 [Sl.v b] c5 λd9 c6=>∃b3,d9=Sl.v b3/\e4 b3 c6))))
def Jf.go{a0 a1 a2 a3 u a4 w k}(h:Jf a0 a1 a2 a3 u a4 w λa5 a6=>k (Sl.v a5) a6):Cs 269 [(AK a0 a1 a2 a3),Sl.v u,Sl.v a4] w k:=rg (.q (.q (.s (.q (.b (.l [(7,126),(16,4)] (.q (.s .x (.s (.b (.q (.q (.b (.l [(7,126),(22,4)] (.q (.s .x (.s (.b (.q (.r []))) (.r []))))))))) (.r []))))))) (.s (.q (.b (.l [(7,126),(39,4)] (.q (.s .x (.s (.b (.q (.r []))) (.r []))))))) (.q .y))))) func269 h
def LY(k:Sl)(o:Value)(p:Wd)(n:Int->Wp):Prop:=
 loop1 0 p λa j l=>(If (a<(k.len:Int)) (∃m,Ix k a m/\∃b c d e f g,Jm j (m.add (a.toNat*6)) b c d e f g/\callV prog o [(Xc b c d e f g)] j λq h=>∃i,q= .bool i/\(Ib i (n a h) (l (Aa (a+1)) h))) (n (-1) j))
def LY.go{u f w k}(h:LY u f w λa0 a1=>k (vI a0) a1):Cs 270 [Sl.v u,f] w k:=rg (.q (.s (.q (.b (.l [(8,4)] (.q (.s .x (.s (.b (.q (.q (.k .y)))) (.r []))))))) .y)) func270 h
def LZ(h:Sl)(l:Value)(m:Wd)(k:Int->Wp):Prop:=
 loop1 0 m λa g i=>(If (a<(h.len:Int)) (∃j,Ix h a j/\∃b c d,As g (j.add (a.toNat*3)) b c d/\callV prog l [(Am b c d)] g λn e=>∃f,n= .bool f/\(Ib f (k a e) (i (Aa (a+1)) e))) (k (-1) g))
def LZ.go{u f w k}(h:LZ u f w λa0 a1=>k (vI a0) a1):Cs 271 [Sl.v u,f] w k:=rg (.q (.s (.q (.b (.l [(8,4)] (.q (.s .x (.s (.b (.q (.q (.k .y)))) (.r []))))))) .y)) func271 h
def J9(h i j k l m:Int)(r:Wd)(s:Int->Wp):Prop:=
 newS r (AA h i j) 52 λt p=>newS p (AA k l m) 52 λq a=>∃b c d,As a q b c d/\∃e f g,As a t e f g/\Cs 189 [(Am b c d),(Am e f g)] a λu n=>∃o,u= .int .i64 o/\s o n
def J9.go{u a0 a1 a2 a3 a4 w k}(h:J9 u a0 a1 a2 a3 a4 w λa5 a6=>k (vI a5) a6):Cs 273 [(Am u a0 a1),(Am a2 a3 a4)] w k:=rg (.q .y) func273 h
def Rm(a:Sl)(c:Int)(b:Value)(d:Wd)(e:Wp):Prop:=
 IK 332 333 a c b d e
def Rm.go{u n a0 w k}(h:Rm u n a0 w λa1=>k (Value.tuple #[]) a1):Cs 274 [Sl.v u,vI n,a0] w k:=rg (.q (.q (.s (.b (.l [(7,4),(8,4)] (.s (.q .x) (.b (.q (.q (.r []))))))) (.q (.b (.l [(6,4)] (.s (.q .x) (.b (.q (.s (.b (.l [(7,4),(8,4)] (.s (.q .x) (.b (.q (.q (.r []))))))) (.j [] (.q (.q (.c (.r []) .o))) (.r [])))))))))))) func274 h
def Mb(p:Sl)(l:Bs)(m n o:Int)(u:Wd)(t:Int->Wp):Prop:=
 newS u (Bn l m n o) 150 λv s=>loop1 0 s λb k q=>(If (b<(p.len:Int)) (Dr k λa=>∃c d e f,BL a v c d e f/\∃r,Ix p b r/\∃g h i j,BL a (r.add (b.toNat*4)) g h i j/\(Ib ((Ai c g)&&(((d==h)&&((e==i)&&((f==j)&&true)))&&true)) (t b a) (q (Aa (b+1)) a))) (t (-1) k))
def Mb.go{a3 u a0 a1 a2 w k}(h:Mb a3 u a0 a1 a2 w λa4 a5=>k (vI a4) a5):Cs 275 [Sl.v a3,(Bv u a0 a1 a2)] w k:=rg (.q (.s (.q (.b (.l [(8,4)] (.q (.s .x (.s (.b (.q (.q (.k .y)))) (.r []))))))) .y)) func275 h
def Hz(s t u v:Sl)(m:Bs)(n:Sl)(a4:Wd)(a3:Sl->Wp):Prop:=
 newS a4 (CU s t u v) 34 λa5 a2=>newS a2 [vT m,Sl.v n] 187 λx f=>∃r,Ls f (a5.add 3) r/\loop1 0 f λb c y=>(If (b<(r.len:Int)) (∃a1,Ix r b a1/\∃d e,Bf c (a1.add (b.toNat*2)) d e/\Co c λo z=>stw z o [vT d,Sl.v e] λa=>∃g,Lt a o g/\∃h,Lt a x h/\(If (g=h) (∃i,Ls a (o.add 1) i/\Cs 136 [Sl.v i] a λa6 p=>∃j,a6=Sl.v j/\a3 j p) (y (Aa (b+1)) a))) (∃k,Ls c (x.add 1) k/\Cs 136 [Sl.v k] c λa0 q=>∃l,a0=Sl.v l/\a3 l q))
def Hz.go{a1 a2 a3 a4 u a0 w k}(h:Hz a1 a2 a3 a4 u a0 w λa5 a6=>k (Sl.v a5) a6):Cs 284 [(AK a1 a2 a3 a4),(.agg #[vT u,Sl.v a0])] w k:=rg (.q (.s (.q (.b (.l [(10,4)] (.q (.s .x (.s (.b (.q (.q (.k .y)))) (.r []))))))) .y)) func284 h
def Rf(a:Sl)(b:Wd)(c:Sl->Wp):Prop:=
 ((0:Int)<=0/\0<=(a.len:Int)/\(a.len:Int)<=(a.len:Int)/\(a.len:Int)<=(a.cap:Int))/\c (Sl.mk (if(a.len:Int).toNat=0 then a.a else a.a.map (·.add (0*2))) ((a.len:Int).toNat - 0) ((a.len:Int).toNat - 0)) b
def Rf.go{u w k}(h:Rf u w λa0 a1=>k (Sl.v a0) a1):Cs 285 [Sl.v u] w k:=rg (.q .y) func285 h
def Om(o q:Sl)(x:Value)(z:Wd)(y:Bool->Wp):Prop:=
 (If (¬(o.len:Int)=(q.len:Int)) (y false z) (loop1 0 z λa p r=>(If (a<(o.len:Int)) (∃v,Ix o a v/\∃d e,Bf p (v.add (a.toNat*2)) d e/\Co p λa0 s=>stw s a0 [vT d,Sl.v e] λl=>∃m,Ix q a m/\∃f g,Bf l (m.add (a.toNat*2)) f g/\Co l λt u=>stw u t [vT f,Sl.v g] λb=>∃h i,Bf b a0 h i/\∃j k,Bf b t j k/\callV prog x [(.agg #[vT h,Sl.v i]),(.agg #[vT j,Sl.v k])] b λa1 c=>∃n,a1= .bool n/\(Ib (!n) (y false c) (r (Aa (a+1)) c))) (y true p))))
def Om.go{s1 u a0 w k}(h:Om s1 u a0 w λa1 a2=>k (vB a1) a2):Cs 286 [Sl.v s1,Sl.v u,a0] w k:=rg (.q (.s (.q (.k .y)) (.s (.q (.b (.l [(17,4)] (.q (.s .x (.s (.b (.q (.q (.q (.k .y))))) (.r []))))))) .y))) func286 h
def KZ(f:Bs)(g:Sl)(h:Bs)(i:Sl)(q:Wd)(r:Bool->Wp):Prop:=
 newS q [vT f,Sl.v g] 187 λp n=>newS n [vT h,Sl.v i] 187 λj a=>∃k,Lt a p k/\∃l,Lt a j l/\bnd (Ai k l) λ(m:Bool)=>∃d,Gs m a (p.add 1) d/\∃e,Gs m a (j.add 1) e/\gCall m (λ(b:Bool) (c:Wd)=>r (m&&b) c) (λo=>Cs 288 [Sl.v d,Sl.v e] a λs c=>∃b,s= .bool b/\o b c) (λo=>o false a)
def KZ.go{u a0 a1 a2 w k}(h:KZ u a0 a1 a2 w λa3 a4=>k (vB a3) a4):Cs 287 [(.agg #[vT u,Sl.v a0]),(.agg #[vT a1,Sl.v a2])] w k:=rg (.q .y) func287 h
def LO(p q:Sl)(v:Wd)(u:Bool->Wp):Prop:=
 (If (¬(p.len:Int)=(q.len:Int)) (u false v) (loop1 0 v λa r s=>(If (a<(p.len:Int)) (Dr r λb=>∃t,Ix p a t/\∃c d e f g h,Jm b (t.add (a.toNat*6)) c d e f g h/\∃o,Ix q a o/\∃i j k l m n,Jm b (o.add (a.toNat*6)) i j k l m n/\(Ib (!(((c==i)&&((d==j)&&((e==k)&&true)))&&(((f==l)&&((g==m)&&((h==n)&&true)))&&true))) (u false b) (s (Aa (a+1)) b))) (u true r))))
def LO.go{s1 u w k}(h:LO s1 u w λa0 a1=>k (vB a0) a1):Cs 288 [Sl.v s1,Sl.v u] w k:=rg (.q (.s (.q (.k .y)) (.s (.q (.b (.l [(13,4)] (.q (.s .x (.s (.b (.q (.q (.k .y)))) (.r []))))))) .y))) func288 h
def LR(n:Sl)(r:Value)(s:Wd)(q:Int->Wp):Prop:=
 loop1 0 s λa m o=>(If (a<(n.len:Int)) (∃p,Ix n a p/\∃b c d e f g h i j,H5 m (p.add (a.toNat*9)) b c d e f g h i j/\callV prog r [(O7 b c d e f g h i j)] m λt k=>∃l,t= .bool l/\(Ib l (q a k) (o (Aa (a+1)) k))) (q (-1) m))
def LR.go{u f w k}(h:LR u f w λa0 a1=>k (vI a0) a1):Cs 289 [Sl.v u,f] w k:=rg (.q (.s (.q (.b (.l [(8,4)] (.q (.s .x (.s (.b (.q (.q (.k .y)))) (.r []))))))) .y)) func289 h
def Ov(a:Sl)(b:Bs)(c d e:Int)(f g h:Sl)(i:Int)(o:Addr)(p:Wd)(q:Bool->Wp):Prop:=
 newS p (Ej a b c d e f g h i) 61 λr j=>∃l,Ls j r l/\∃m,Ls j o m/\Cs 99 [Sl.v l,Sl.v m] j λs k=>∃n,s= .bool n/\q n k
def Ov.go{u:Sl}{a0:Bs}{a1 a2 a3:Int}{a4 a5 a6:Sl}{a7:Int}{c0:Addr}{w:Wd}{k:Value->Wp}(h:Ov u a0 a1 a2 a3 a4 a5 a6 a7 c0 w λa8 a9=>k (Value.bool a8) a9):callS prog 290 [(.agg #[Sl.v u, .string a0,vi a1,vi a2,vi a3,Sl.v a4,Sl.v a5,Sl.v a6,vi a7]),(Value.pointer (some c0))] w k:=Ct (sk:=(.s (.r []) (.s (.r []) .o))) (args:= [sv (.agg #[Sl.v u, .string a0,vi a1,vi a2,vi a3,Sl.v a4,Sl.v a5,Sl.v a6,vi a7]),sa c0]) func290 (Eq.mpr kR h)
def Lh(u:Option Addr)(g:Int)(h:Bs)(r:Wd)(s:Int->Wp):Prop:=
 ∃o,u=some o/\∃f,Ls r (o.add 8) f/\loop1 0 r λe l m=>(If (e<(f.len:Int)) (∃p,Ix f e p/\∃b a d,RW l (p.add (e.toNat*3)) b a d/\Sb l λq n=>stw n q (O9 b a d) λc=>∃i,Li c q i/\bnd (i==g) λ(t:Bool)=>∃j,Gt t c (q.add 1) j/\(Ib (t&&(Ai j h)) (∃k,Li c (q.add 2) k/\s k c) (m (Aa (e+1)) c))) (s (-1) l))
def Lh.go{p u a0 w k}(h:Lh p u a0 w λa1 a2=>k (vI a1) a2):Cs 291 (RO p u a0) w k:=rg (.q (.s (.q (.b (.l [(14,4)] (.q (.s .x (.s (.b (.q (.q (.k .y)))) (.r []))))))) .y)) func291 h
def Ln(a3:Option Addr)(g:Int)(m:Bs)(a4:Wd)(a8:Bool->Wp):Prop:=
 ∃a0,a3=some a0/\∃n,Ls a4 (a0.add 7) n/\∃a1,Ix n g a1/\∃o,Ls a4 (a1.add (g.toNat*9)) o/\∃a2,a3=some a2/\∃j,Ls a4 (a2.add 8) j/\loop1 0 a4 λi v y=>(If (i<(j.len:Int)) (∃p,Ix j i p/\∃c b f,RW v (p.add (i.toNat*3)) c b f/\Sb v λa5 z=>stw z a5 (O9 c b f) λx=>Dr x λe=>∃q,Lt e (a5.add 1) q/\bnd (Ai q m) λ(a6:Bool)=>∃r,Gi a6 e a5 r/\gCall a6 (λ(h:Bool) (a:Wd)=>bnd (a6&&h) λ(d:Bool)=>∃s,Gn d a3 s/\∃t,Gs d a (s.add 7) t/\∃k,Gi d a (a5.add 2) k/\∃l,Gx d t k l/\∃u,Gs d a (l.add (k.toNat*9)) u/\(Ib (d&&(decide ((u.len:Int)<=(o.len:Int)))) (a8 true a) (y (Aa (i+1)) a))) (λa7=>Cs 337 [.pointer a3,vI r,vI g] e λa9 a=>∃h,a9= .bool h/\a7 h a) (λa7=>a7 false e)) (a8 false v))
def Ln.go{p a0 u w k}(h:Ln p a0 u w λa1 a2=>k (vB a1) a2):Cs 292 (RO p a0 u) w k:=rg (.q (.q (.s (.q (.b (.l [(25,4)] (.q (.s .x (.s (.b (.q (.q (.k .y)))) (.r []))))))) .y))) func292 h
def Km(g h i:Int)(o:Wd)(n:Int->Bool->Wp):Prop:=
 newS o (AA g h i) 52 λm j=>∃b c d,As j m b c d/\Cs 81 [(Am b c d)] j λp a=>∃k,p= .bool k/\(Ib (!k) (n 0 false a) (∃l,Li a m l/\∃e,Li a (m.add 1) e/\∃f,Li a (m.add 2) f/\n (Aa ((Aa ((Aa ((Aa (l*1000))+e))*1000))+f)) true a))
def Km.go{u a0 a1 w k}(h:Km u a0 a1 w λa2 a3 a4=>k (Value.tuple #[vI a2,vB a3]) a4):Cs 304 [(Am u a0 a1)] w k:=rg (.q (.s (.q (.k .y)) .y)) func304 h
def Mi(b4:Sl)(b5:Wd)(b6:Sl->Wp):Prop:=
 loop2 Sl.nil 0 b5 λq d x a3=>(If (d<(b4.len:Int)) (∃b2,Ix b4 d b2/\∃a b,Cz x (b2.add (d.toNat*2)) a b/\MH x λb3 a4=>stw a4 b3 [vI a,vI b] λr=>∃u,Li r b3 u/\Cs 242 [vI u] r λb7 a5=>∃e f g a1,b7=FE e f g a1/\N52 a5 λa6 a7=>stw a7 a6 (AA e f g) λs=>∃v,Li s (b3.add 1) v/\Cs 242 [vI v] s λa8 a9=>∃h i j a2,a8=FE h i j a2/\N52 a9 λt y=>stw y t (AA h i j) λc=>∃k l m,As c a6 k l m/\∃n o p,As c t n o p/\newS c (MC k l m n o p) 223 λb0 z=>appS prog 132 132 q (Sl.v (Sl.mk (some b0) 1 1)) z λb1 a0=>a3 b1 (Aa (d+1)) a0) (b6 q x))
def Mi.go{l w k}(h:Mi l w λu a0=>k (Sl.v u) a0):Cs 316 [Sl.v l] w k:=rg (.q (.q (.s (.q (.b (.l [(3,133),(12,4)] (.q (.s .x (.s (.b (.q (.q (.q (.r []))))) (.r []))))))) .y))) func316 h
def Md(b c:Value)(g:Wd)(h:Sl->Wp):Prop:=
 Cs 355 [b] g λi e=>∃a,i=Sl.v a/\Cs 356 [Sl.v a,c] e λf d=>f= .tuple #[]/\h a d
def Md.go{u a0 w k}(h:Md u a0 w λa1 a2=>k (Sl.v a1) a2):Cs 317 [u,a0] w k:=rg (.q (.q (.q .y))) func317 h
def On(a:Sl)(c:Wd)(d:Value->Wp):Prop:=
 newS c [Sl.v a] 302 λe b=>d (Value.func (.func 357) #[] #[vP e]) b
def On.go{u w k}(h:On u w λa0 a1=>k a0 a1):Cs 318 [Sl.v u] w k:=rg (.q .y) func318 h
def Mg(b c d e:Int)(j:Wd)(k:Int->Wp):Prop:=
 newS j [vI b,vI c] 305 λl h=>newS h [vI d,vI e] 305 λi a=>∃f,Li a l f/\∃g,Li a i g/\k (Aa (f - g)) a
def Mg.go{u a0 a1 a2 w k}(h:Mg u a0 a1 a2 w λa3 a4=>k (vI a3) a4):Cs 319 [(.agg #[vI u,vI a0]),(.agg #[vI a1,vI a2])] w k:=rg (.q .y) func319 h
def IR(b:Sl)(a:Value)(c:Wd)(d:Wp):Prop:=
 IJ 361 b a c d
def IR.go{x u w k}(h:IR x u w λa0=>k (Value.tuple #[]) a0):Cs 328 [Sl.v x,u] w k:=rg (.r []) func328 h
def O3(f:Bs)(b:Int)(c:Sl)(g:Bs)(d:Int)(e:Sl)(n:Wd)(o:Int->Wp):Prop:=
 newS n (EX f b c) 134 λp l=>newS l (EX g d e) 134 λm a=>∃i,Lt a p i/\∃j,Lt a m j/\Cs 66 [vT i,vT j] a λq h=>∃k,q= .int .i64 k/\o k h
def O3.go{a3 u a0 a4 a1 a2 w k}(h:O3 a3 u a0 a4 a1 a2 w λa5 a6=>k (vI a5) a6):Cs 329 [(Jj a3 u a0),(Jj a4 a1 a2)] w k:=rg (.q .y) func329 h
def Ol(a:Sl)(b:Wd)(c:Sl->Wp):Prop:=
 ((0:Int)<=0/\0<=(a.len:Int)/\(a.len:Int)<=(a.len:Int)/\(a.len:Int)<=(a.cap:Int))/\c (Sl.mk (if(a.len:Int).toNat=0 then a.a else a.a.map (·.add (0*3))) ((a.len:Int).toNat - 0) ((a.len:Int).toNat - 0)) b
def Ol.go{u w k}(h:Ol u w λa0 a1=>k (Sl.v a0) a1):Cs 330 [Sl.v u] w k:=rg (.q .y) func330 h
def Rh(a:Sl)(c d:Int)(b:Value)(e:Wd)(f:Wp):Prop:=
 II AA a c d b e f
def Rh.go{u a b a0 w k}(h:Rh u a b a0 w λa1=>k (Value.tuple #[]) a1):Cs 332 [Sl.v u,vI a,vI b,a0] w k:=rg (.q (.b (.l [(8,4)] (.s (.q .x) (.s (.b (.q (.b (.l [(9,4)] (.s (.q .x) (.s (.b (.r [])) (.r []))))))) (.r [])))))) func332 h
def Rq(a:Sl)(c d e:Int)(b:Value)(f:Wd)(g:Wp):Prop:=
 LA AA 333 369 a c d e b f g
def Rq.go{u a m b a0 w k}(h:Rq u a m b a0 w λa1=>k (Value.tuple #[]) a1):Cs 333 [Sl.v u,vI a,vI m,vI b,a0] w k:=rg (.s (.q (.c (.q (.q (.s (.b (.l [(10,4),(11,4)] (.s (.q .x) (.b (.q (.q (.c (.r []) (.r [])))))))) (.s (.q (.b (.l [(13,4)] (.s (.q .x) (.s (.b (.r [])) (.r [])))))) .o)))) .o)) (.s (.q (.c (.q (.q (.s (.b (.l [(14,4),(15,4)] (.s (.q .x) (.b (.q (.q (.c (.r []) (.r [])))))))) (.s (.q (.b (.l [(17,4)] (.s (.q .x) (.s (.b (.r [])) (.r [])))))) .o)))) .o)) (.q (.q (.q (.j [(20,4),(21,4)] (.q (.c (.q (.r [])) (.q (.r [])))) (.q (.s (.b (.l [(20,4),(21,4)] (.s (.q .x) (.b (.q (.q (.c (.r []) (.r [])))))))) (.q (.j [] (.q (.c (.r []) .o)) (.j [] (.q (.c (.r []) .o)) (.q (.c (.r []) .o))))))))))))) func333 h
def Lo(p:Option Addr)(g f:Int)(q:Wd)(r:Bool->Wp):Prop:=
 Dr q λe=>∃k,p=some k/\∃h,Ls e (k.add 7) h/\∃l,Ix h g l/\∃d,Ls e (l.add (g.toNat*9)) d/\∃m,p=some m/\∃i,Ls e (m.add 7) i/\∃j,Ix i f j/\∃a,Ls e (j.add (f.toNat*9)) a/\bnd (decide ((a.len:Int)<=(d.len:Int))) λ(n:Bool)=>BB n ((0:Int)<=(a.len:Int)/\(a.len:Int)<=(d.cap:Int))/\gCall n (λ(c:Bool) (b:Wd)=>r (n&&c) b) (λo=>Cs 99 [(Sl.v (Sl.cut d 0 ((a.len:Int).toNat) 1)),Sl.v a] e λs b=>∃c,s= .bool c/\o c b) (λo=>o false e)
def Lo.go{p a0 u w k}(h:Lo p a0 u w λa1 a2=>k (vB a1) a2):Cs 337 (MD p a0 u) w k:=rg (.q (.q .y)) func337 h
def LG(a:Value)(d:Wd)(e:Sl->Wp):Prop:=
 Cs 383 [(Sl.v Sl.nil),a] d λf c=>∃b,f=Sl.v b/\e b c
def LG.go{u w k}(h:LG u w λa0 a1=>k (Sl.v a0) a1):Cs 355 [u] w k:=rg (.q .y) func355 h
def Rn(a:Sl)(c:Int)(b:Value)(d:Wd)(e:Wp):Prop:=
 IK 386 387 a c b d e
def Rn.go{u n a0 w k}(h:Rn u n a0 w λa1=>k (Value.tuple #[]) a1):Cs 361 [Sl.v u,vI n,a0] w k:=rg (.q (.q (.s (.b (.l [(7,4),(8,4)] (.s (.q .x) (.b (.q (.q (.r []))))))) (.q (.b (.l [(6,4)] (.s (.q .x) (.b (.q (.s (.b (.l [(7,4),(8,4)] (.s (.q .x) (.b (.q (.q (.r []))))))) (.j [] (.q (.q (.c (.r []) .o))) (.r [])))))))))))) func361 h
def Rj(a:Sl)(c d e:Int)(b:Value)(f:Wd)(g:Wp):Prop:=
 L8 391 a c d e b f g
def Rj.go{u a m b a0 w k}(h:Rj u a m b a0 w λa1=>k (Value.tuple #[]) a1):Cs 369 [Sl.v u,vI a,vI m,vI b,a0] w k:=rg (.q (.q (.s (.b (.l [(10,4),(11,4)] (.s (.q .x) (.b (.q (.c (.q (.r [])) (.q (.r [])))))))) (.r [])))) func369 h
def Ri(a:Sl)(c d:Int)(b:Value)(e:Wd)(f:Wp):Prop:=
 II EX a c d b e f
def Ri.go{u a b a0 w k}(h:Ri u a b a0 w λa1=>k (Value.tuple #[]) a1):Cs 386 [Sl.v u,vI a,vI b,a0] w k:=rg (.q (.b (.l [(8,4)] (.s (.q .x) (.s (.b (.q (.b (.l [(9,4)] (.s (.q .x) (.s (.b (.r [])) (.r []))))))) (.r [])))))) func386 h
def Rr(a:Sl)(c d e:Int)(b:Value)(f:Wd)(g:Wp):Prop:=
 LA EX 387 409 a c d e b f g
def Rr.go{u a m b a0 w k}(h:Rr u a m b a0 w λa1=>k (Value.tuple #[]) a1):Cs 387 [Sl.v u,vI a,vI m,vI b,a0] w k:=rg (.s (.q (.c (.q (.q (.s (.b (.l [(10,4),(11,4)] (.s (.q .x) (.b (.q (.q (.c (.r []) (.r [])))))))) (.s (.q (.b (.l [(13,4)] (.s (.q .x) (.s (.b (.r [])) (.r [])))))) .o)))) .o)) (.s (.q (.c (.q (.q (.s (.b (.l [(14,4),(15,4)] (.s (.q .x) (.b (.q (.q (.c (.r []) (.r [])))))))) (.s (.q (.b (.l [(17,4)] (.s (.q .x) (.s (.b (.r [])) (.r [])))))) .o)))) .o)) (.q (.q (.q (.j [(20,4),(21,4)] (.q (.c (.q (.r [])) (.q (.r [])))) (.q (.s (.b (.l [(20,4),(21,4)] (.s (.q .x) (.b (.q (.q (.c (.r []) (.r [])))))))) (.q (.j [] (.q (.c (.r []) .o)) (.j [] (.q (.c (.r []) .o)) (.q (.c (.r []) .o))))))))))))) func387 h
def Ro(a:Sl)(c d e:Int)(b:Value)(f:Wd)(g:Wp):Prop:=
 L9 AA a c d e b f g
def Ro.go{u a b n a0 w k}(h:Ro u a b n a0 w λa1=>k (Value.tuple #[]) a1):Cs 391 [Sl.v u,vI a,vI b,vI n,a0] w k:=rg (.q (.b (.l [(10,4)] (.s (.q .x) (.s (.b (.r [])) (.r [])))))) func391 h
def Rl(a:Sl)(c d e:Int)(b:Value)(f:Wd)(g:Wp):Prop:=
 L8 421 a c d e b f g
def Rl.go{u a m b a0 w k}(h:Rl u a m b a0 w λa1=>k (Value.tuple #[]) a1):Cs 409 [Sl.v u,vI a,vI m,vI b,a0] w k:=rg (.q (.q (.s (.b (.l [(10,4),(11,4)] (.s (.q .x) (.b (.q (.c (.q (.r [])) (.q (.r [])))))))) (.r [])))) func409 h
def Rp(a:Sl)(c d e:Int)(b:Value)(f:Wd)(g:Wp):Prop:=
 L9 EX a c d e b f g
def Rp.go{u a b n a0 w k}(h:Rp u a b n a0 w λa1=>k (Value.tuple #[]) a1):Cs 421 [Sl.v u,vI a,vI b,vI n,a0] w k:=rg (.q (.b (.l [(10,4)] (.s (.q .x) (.s (.b (.r [])) (.r [])))))) func421 h
end Go.Hal.SE
