/- Lemmas for the claim K21p: how the program's functions run, and what they answer; no condition but those that each theorem names. -/
import Derived.Test.YtfilbiaaeecoaaaGreatDoorProg
import Derived.Test.YtfilbiaaeecoaaaGreatDoorK21pA0
set_option linter.unusedVariables false
set_option linter.unusedSimpArgs false
set_option maxHeartbeats 16000000
namespace Go.Hal.SE
open Go.Proofs.Tryz
open Go Go.RowKit Go.Hal Go.Proofs
set_option maxRecDepth 100000
namespace Eq2
theorem Z6p(d:Nat)(a0:Int)(a1:Int)(a2:Int)(b0:Int)(b1:Int)(b2:Int)(w:World):(Op.equalIn (d+2) 50 (.agg #[(Value.int .i64 a0),(Value.int .i64 a1),(Value.int .i64 a2)]) (.agg #[(Value.int .i64 b0),(Value.int .i64 b1),(Value.int .i64 b2)])).run prog w= .ok ((a0==b0)&&((a1==b1)&&((a2==b2)&&true))) w:=
 (eqS kR kR (fs:= [⟨ "Major",3,0,false, "", "",0⟩,⟨ "Minor",3,1,false, "", "",8⟩,⟨ "Patch",3,2,false, "", "",16⟩]) kR (Zt (x:=(Value.int .i64 a0)) (y:=(Value.int .i64 b0)) rfl kR kR (run_equalIn_int w _ 3 .i64 .i64 a0 b0 kR) (Zt (x:=(Value.int .i64 a1)) (y:=(Value.int .i64 b1)) rfl kR kR (run_equalIn_int w _ 3 .i64 .i64 a1 b1 kR) (Zt (x:=(Value.int .i64 a2)) (y:=(Value.int .i64 b2)) rfl kR kR (run_equalIn_int w _ 3 .i64 .i64 a2 b2 kR) Ze4))))
theorem eqv_111(d:Nat)(a0:ByteArray)(a1:Int)(a2:Int)(a3:Int)(b0:ByteArray)(b1:Int)(b2:Int)(b3:Int)(w:World):(Op.equalIn (d+3) 111 (.agg #[(Value.string a0),(Value.int .i64 a1),(Value.int .i64 a2),(Value.int .i64 a3)]) (.agg #[(Value.string b0),(Value.int .i64 b1),(Value.int .i64 b2),(Value.int .i64 b3)])).run prog w= .ok ((bEq a0 b0)&&(((a1==b1)&&((a2==b2)&&((a3==b3)&&true)))&&true)) w:=
 (eqS kR kR (fs:= [⟨ "Name",9,0,false, "", "",0⟩,⟨ "Version",50,1,false, "", "",16⟩]) kR (Zt (x:=(Value.string a0)) (y:=(Value.string b0)) rfl kR kR (run_equalIn_string w _ 9 a0 b0 kR) (Zt (x:=(Value.agg #[(Value.int .i64 a1),(Value.int .i64 a2),(Value.int .i64 a3)])) (y:=(Value.agg #[(Value.int .i64 b1),(Value.int .i64 b2),(Value.int .i64 b3)])) rfl kR kR (eqS kR kR (fs:= [⟨ "Major",3,0,false, "", "",0⟩,⟨ "Minor",3,1,false, "", "",8⟩,⟨ "Patch",3,2,false, "", "",16⟩]) kR (Zt (x:=(Value.int .i64 a1)) (y:=(Value.int .i64 b1)) rfl kR kR (run_equalIn_int w _ 3 .i64 .i64 a1 b1 kR) (Zt (x:=(Value.int .i64 a2)) (y:=(Value.int .i64 b2)) rfl kR kR (run_equalIn_int w _ 3 .i64 .i64 a2 b2 kR) (Zt (x:=(Value.int .i64 a3)) (y:=(Value.int .i64 b3)) rfl kR kR (run_equalIn_int w _ 3 .i64 .i64 a3 b3 kR) Ze4)))) Ze4)))
theorem Z7q(d:Nat)(a0:Int)(a1:Int)(a2:Int)(a3:Int)(a4:Int)(a5:Int)(b0:Int)(b1:Int)(b2:Int)(b3:Int)(b4:Int)(b5:Int)(w:World):(Op.equalIn (d+3) 210 (.agg #[(Value.int .i64 a0),(Value.int .i64 a1),(Value.int .i64 a2),(Value.int .i64 a3),(Value.int .i64 a4),(Value.int .i64 a5)]) (.agg #[(Value.int .i64 b0),(Value.int .i64 b1),(Value.int .i64 b2),(Value.int .i64 b3),(Value.int .i64 b4),(Value.int .i64 b5)])).run prog w= .ok (((a0==b0)&&((a1==b1)&&((a2==b2)&&true)))&&(((a3==b3)&&((a4==b4)&&((a5==b5)&&true)))&&true)) w:=
 (eqS kR kR (fs:= [⟨ "Lo",50,0,false, "", "",0⟩,⟨ "Hi",50,3,false, "", "",24⟩]) kR (Zt (x:=(Value.agg #[(Value.int .i64 a0),(Value.int .i64 a1),(Value.int .i64 a2)])) (y:=(Value.agg #[(Value.int .i64 b0),(Value.int .i64 b1),(Value.int .i64 b2)])) rfl kR kR (eqS kR kR (fs:= [⟨ "Major",3,0,false, "", "",0⟩,⟨ "Minor",3,1,false, "", "",8⟩,⟨ "Patch",3,2,false, "", "",16⟩]) kR (Zt (x:=(Value.int .i64 a0)) (y:=(Value.int .i64 b0)) rfl kR kR (run_equalIn_int w _ 3 .i64 .i64 a0 b0 kR) (Zt (x:=(Value.int .i64 a1)) (y:=(Value.int .i64 b1)) rfl kR kR (run_equalIn_int w _ 3 .i64 .i64 a1 b1 kR) (Zt (x:=(Value.int .i64 a2)) (y:=(Value.int .i64 b2)) rfl kR kR (run_equalIn_int w _ 3 .i64 .i64 a2 b2 kR) Ze4)))) (Zt (x:=(Value.agg #[(Value.int .i64 a3),(Value.int .i64 a4),(Value.int .i64 a5)])) (y:=(Value.agg #[(Value.int .i64 b3),(Value.int .i64 b4),(Value.int .i64 b5)])) rfl kR kR (eqS kR kR (fs:= [⟨ "Major",3,0,false, "", "",0⟩,⟨ "Minor",3,1,false, "", "",8⟩,⟨ "Patch",3,2,false, "", "",16⟩]) kR (Zt (x:=(Value.int .i64 a3)) (y:=(Value.int .i64 b3)) rfl kR kR (run_equalIn_int w _ 3 .i64 .i64 a3 b3 kR) (Zt (x:=(Value.int .i64 a4)) (y:=(Value.int .i64 b4)) rfl kR kR (run_equalIn_int w _ 3 .i64 .i64 a4 b4 kR) (Zt (x:=(Value.int .i64 a5)) (y:=(Value.int .i64 b5)) rfl kR kR (run_equalIn_int w _ 3 .i64 .i64 a5 b5 kR) Ze4)))) Ze4)))
end Eq2
open Eq2
def Zf9(v:Sl)(a8:World)(a7:Bool→World→Prop):Prop:=
 newS a8 [Sl.v v] 24 λa6 a0=> ∃z,Ls a0 a6 z∧loop1 0 a0 λb c a1=>(If (b<(z.len:Int)) (∃a4,Ix z b a4∧ ∃g h i j k l,Zha c (a4.add (b.toNat*6)) g h i j k l∧N76 c λa2 a3=>stw a3 a2 (Zgf g h i j k l) λp=> ∃m,Ls p (a2.add 5) m∧loop1 0 p λd e x=>(If (d<(m.len:Int)) (∃q,Ix m d q∧ ∃n o,Lti e (q.add (d.toNat*2)) n o∧N80 e λf y=>stw y f [vT n,vI o] λa=> ∃r,Li a (f.add 1) r∧bnd (decide (r<1)) λ(a5:Bool)=> ∃s,Gi (!a5) a (f.add 1) s∧ ∃t,Gs (!a5) a a6 t∧(Ib (a5||(decide ((t.len:Int)≤s))) (a7 false a) (x (Za (d+1)) a))) (a1 (Za (b+1)) e))) (∃u,Ls c a6 u∧a7 (decide (0<(u.len:Int))) c))
theorem Zf9.go{u w k}(h:Zf9 u w λa0 a1=>k (vB a0) a1):Cs 191 [(.agg #[Sl.v u])] w k:=rg (.q (.s (.q (.b (.l [(10,4)] (.q (.s .x (.s (.b (.q (.q (.b (.l [(17,4)] (.q (.s .x (.s (.b (.q (.q (.k .y)))) (.r []))))))))) (.r []))))))) .y)) func191 h
def Zj2(o:Sl)(a:Int)(c:ByteArray)(a1:World)(x:Int→World→Prop):Prop:=
 newS a1 [Sl.v o] 30 λy p=>bnd (decide (a<0)) λ(a0:Bool)=> ∃l,Gs (!a0) p y l∧bnd (a0||(decide ((l.len:Int)≤a))) λ(q:Bool)=>gCall (!q) (λ(d:Bool) (b:World)=>(Ib (q||(!d)) (x (-1) b) (∃m,Ls b y m∧ ∃v,Ix m a v∧ ∃e,Ls b (v.add (a.toNat*9)) e∧loop1 (e.len:Int) b λf j r=>(If (0≤f) (Dr j λk=> ∃h,Ls k y h∧((0:Int)≤f∧f≤(e.cap:Int))∧Cx 235 [(Sl.v (Sl.cut e 0 f.toNat 1)),vT c] k λs t=> ∃n,s=Sl.v n∧Cs 90 [(.agg #[Sl.v h]),Sl.v n] t λu g=> ∃i,u= .int .i64 i∧(If (0≤i) (x i g) (r (Za (f - 1)) g))) (x (-1) j))))) (λz=>Cs 52 [vT c] p λa2 b=> ∃d,a2= .bool d∧z d b) (λz=>z false p)
theorem Zj2.go{a1 u a0 w k}(h:Zj2 a1 u a0 w λa2 a4=>k (vI a2) a4):Cs 192 [(.agg #[Sl.v a1]),vI u,vT a0] w k:=rg (.q (.s (.q (.k .y)) (.q (.s (.q (.b (.l [(8,4)] (.s (.q .x) (.s (.b (.q (.q (.k .y)))) (.r [])))))) .y)))) func192 h
def Zfd(a:Int)(b:World)(c:Bool→World→Prop):Prop:=
 c (!(a==a)) b
theorem Zfd.go{x w k}(h:Zfd x w λu a0=>k (vB u) a0):Cs 194 [vI x] w k:=rg (.q .y) func194 h
def Zg0(b:ByteArray)(c:Sl)(d:ByteArray)(e:Sl)(l:World)(m:Int→World→Prop):Prop:=
 newS l [vT b,Sl.v c] 202 λn j=>newS j [vT d,Sl.v e] 202 λk a=> ∃g,Lt a n g∧ ∃h,Lt a k h∧Cs 21 [vT g,vT h] a λo f=> ∃i,o= .int .i64 i∧m i f
theorem Zg0.go{u a0 a1 a2 w k}(h:Zg0 u a0 a1 a2 w λa4 a5=>k (vI a4) a5):Cs 206 [(.agg #[vT u,Sl.v a0]),(.agg #[vT a1,Sl.v a2])] w k:=rg (.q .y) func206 h
def Zp(a:Sl)(m:Value)(a4:World)(a2:Sl→World→Prop):Prop:=
 Cs 260 [Sl.v a,m] a4 λa5 t=> ∃b,a5= .int .i64 b∧(If (b=(-1)) (a2 a t) (loop2 b (Za (b+1)) t λk l c u=>(If (l<(a.len:Int)) (join (λ(z:Int) (s:World)=>u z (Za (l+1)) s) λv=> ∃y,Ix a l y∧ ∃o e,Lts c (y.add (l.toNat*2)) o e∧N202 c λa0 x=>stw x a0 [vT o,Sl.v e] λn=> ∃f g,Lts n a0 f g∧callV prog m [(.agg #[vT f,Sl.v g])] n λa1 d=> ∃p,a1= .bool p∧(Ib (!p) (∃h i,Lts d a0 h i∧ ∃j,Ix a k j∧stw d (j.add (k.toNat*2)) [vT h,Sl.v i] λq=>v (Za (k+1)) q) (v k d))) (((0:Int)≤k∧k≤(a.len:Int))∧semS prog (Builtin.clear_ #[51] 0 #[(Sl.v (Sl.cut a k.toNat a.len 2))]) c λa3 r=>((0:Int)≤k∧k≤(a.cap:Int))∧a2 (Sl.cut a 0 k.toNat 2) r))))
theorem Zp.sound(vs:Sl)(del:Value)(w:World)(R:Sl→World→Prop)(h:Zp vs del w R):callS prog 207 [(Sl.v vs),del] w (λv w'=> ∃(r0:Sl),v=(Sl.v r0)∧R r0 w'):=by
 unfold Zp at h
 refine Zjj 42 rfl func207 rfl kR sI ?_
 refine Vc.seq ?_
 refine Vc.region ?_
 refine Zaw rfl rfl (Sl.v Sl.nil) (λw=>kR) ?_
 refine Zbg ?_
 refine Vc.seq ?_
 refine Vc.region ?_
 refine Zb3 2 [(9,del),(8,(Sl.v vs))] kR ?_
 refine Zdq rfl (Zko rfl kR (callS.mono h λv vw h=> ?_))
 obtain⟨t10,rfl,h⟩:=h
 refine Zaw rfl rfl (Value.int .i64 t10) (λw=>kR) ?_
 refine Zbg ?_
 refine Vc.seq ?_
 refine Vc.seq ?_
 refine Vc.region ?_
 refine Zb3 2 [(12,(Value.bool (t10==(-1)))),(11,(Value.int .i64 t10))] kR ?_
 refine Zbg ?_
 refine Vc.cond (t10==(-1)) kR (λhb=> ?_) (λhb=> ?_)
 ·have h:=h.1 (eq_of_beq hb)
  refine Vc.seq ?_
  refine Vc.region ?_
  refine Zb3 2 [(4,(Sl.v vs)),(13,(Sl.v vs))] kR ?_
  refine Zbg ?_
  refine Vc.ret ?_
  refine Zmk ?_
  refine Zpb (Sl.v vs) (res1 (Zld kR)) ?_
  exact⟨vs,rfl,h⟩
 ·have h:=h.2 (Zkn hb)
  refine Vc.skip ?_
  refine Vc.seq ?_
  refine Vc.seq ?_
  refine Vc.region ?_
  refine Zb3 3 [(6,(Value.int .i64 (Za (t10+1)))),(15,(Value.int .i64 (Za (t10+1)))),(14,(Value.int .i64 t10))] kR ?_
  refine Zbg ?_
  refine Vc.block ?_
  obtain⟨vI,mu,h,hr⟩:=h
  refine Vc.loopJ (σ:=Int×Int) [5,6] [7,16,17,18,19,20,21,22,23,24,25,26,27,28,29,30,31,32,33,34,35] (λs=> [(5,(Value.int .i64 s.1)),(6,(Value.int .i64 s.2))]) (λs w=>vI s.1 s.2 w) (λs w=>mu s.1 s.2 w) (t10,(Za (t10+1))) h (λ_=>rfl) kR ?_
  rintro⟨i,vj⟩ vw1 j h
  have h:=hr i vj vw1 h
  refine Vc.seq ?_
  refine Vc.seq ?_
  refine Vc.region ?_
  refine Zb3 4 [(19,(Value.bool (decide (vj<(vs.len:Int))))),(18,(Value.int .i64 (vs.len:Int))),(17,(Sl.v vs)),(16,(Value.int .i64 vj))] kR ?_
  refine Zbg ?_
  refine Vc.cond (decide (vj<(vs.len:Int))) kR (λhb=> ?_) (λhb=> ?_)
  ·have h:=h.1 (of_decide_eq_true hb)
   refine Vc.skip ?_
   obtain⟨vJ,hJ,h⟩:=Zt5 h
   refine Vc.seqJ (σ:=Int) [5] [7,22,23,24,25,26,27,28,29,30,31,32,33,34,35] (λs=> [(5,(Value.int .i64 s))]) (λs w=>vJ s w) (λ_=>rfl) ?_ ?_
   ·refine Vc.block ?_
    refine Vc.seq ?_
    refine Vc.region ?_
    refine Zb3 2 [(23,(Value.int .i64 vj)),(22,(Sl.v vs))] kR ?_
    obtain⟨ad,hi,h⟩:=h
    refine Zaw rfl rfl (Value.pointer (some (ad.add (vj.toNat*2)))) (λw=>by exact Zgt (s:=vs) (el:=202) rfl kR kR kR (λw=>kR) (hi).1 (hi).2.1 (hi).2.2 w) ?_
    obtain⟨zzz,zz11,hc,h⟩:=h
    refine Zit rfl rfl (Value.agg #[(Value.string zzz),(Sl.v zz11)]) (Zfk rfl kR (Zg1 (λw=>kR) (λw=>kR) ((hc)))) ?_
    refine Zdq rfl (Zmi rfl (λa=>Value.pointer (some a)) kR (newS.mono h λa vw4 hx h=> ?_))
    refine Zdq rfl (Zhq rfl rfl (a:=a) kR (v:=(Value.agg #[(Value.string zzz),(Sl.v zz11)])) kR [(Value.string zzz),(Sl.v zz11)] kR (λw=>kR) kR (stw.mono h λvw5 h=> ?_))
    refine Zbg ?_
    refine Vc.seq ?_
    refine Vc.region ?_
    refine Zaw rfl rfl del (λw=>kR) ?_
    obtain⟨zz2i,zz2k,hc6,h⟩:=h
    refine Zit rfl rfl (Value.agg #[(Value.string zz2i),(Sl.v zz2k)]) (Zfk rfl kR (Zg1 (λw=>kR) (λw=>kR) ((hc6)))) ?_
    refine Zdq rfl (Zra rfl rfl (fv:=del) kR (args:= [(Value.agg #[(Value.string zz2i),(Sl.v zz2k)])]) kR (callV.mono h λv8 vw7 h=> ?_))
    obtain⟨t28,rfl,h⟩:=h
    refine Zaw rfl rfl (Value.bool (!t28)) (λw=>kR) ?_
    refine Zbg ?_
    refine Vc.cond (!t28) kR (λhb=> ?_) (λhb=> ?_)
    ·have h:=h.1 (hb)
     refine Vc.seq ?_
     refine Vc.region ?_
     refine Zb3 2 [(31,(Value.int .i64 i)),(30,(Sl.v vs))] kR ?_
     obtain⟨zz12,zz1k,hc10,h⟩:=h
     refine Zit rfl rfl (Value.agg #[(Value.string zz12),(Sl.v zz1k)]) (Zfk rfl kR (Zg1 (λw=>kR) (λw=>kR) ((hc10)))) ?_
     obtain⟨ad11,hi12,h⟩:=h
     refine Zaw rfl rfl (Value.pointer (some (ad11.add (i.toNat*2)))) (λw=>by exact Zgt (s:=vs) (el:=202) rfl kR kR kR (λw=>kR) (hi12).1 (hi12).2.1 (hi12).2.2 w) ?_
     refine Zdq rfl (Zhq rfl rfl (a:=(ad11.add (i.toNat*2))) kR (v:=(Value.agg #[(Value.string zz12),(Sl.v zz1k)])) kR [(Value.string zz12),(Sl.v zz1k)] kR (λw=>kR) kR (stw.mono h λvw13 h=> ?_))
     refine Zbg ?_
     refine Vc.region ?_
     refine Zb3 3 [(5,(Value.int .i64 (Za (i+1)))),(35,(Value.int .i64 (Za (i+1)))),(34,(Value.int .i64 i))] kR ?_
     refine Zbg ?_
     exact⟨(Za (i+1)),16,⟨rfl,kR,kR,kR⟩,h⟩
    ·have h:=h.2 (hb)
     refine Vc.skip ?_
     exact⟨i,9,⟨rfl,kR,kR,kR⟩,h⟩
   ·intro i2 vw3 j h
    subst hJ
    refine Vc.region ?_
    refine Zb3 3 [(6,(Value.int .i64 (Za (vj+1)))),(21,(Value.int .i64 (Za (vj+1)))),(20,(Value.int .i64 vj))] kR ?_
    refine Zbg ?_
    exact⟨(i2,(Za (vj+1))),46,⟨rfl,kR,kR,kR⟩,h⟩
  ·have h:=h.2 (of_decide_eq_false hb)
   refine Vc.exit ?_
   refine Zpo ?_
   refine Vc.seq ?_
   refine Vc.region ?_
   refine Zb3 2 [(37,(Value.int .i64 i)),(36,(Sl.v vs))] kR ?_
   obtain⟨hi14,h⟩:=h
   refine Zaw rfl rfl (Sl.v (Sl.cut vs i.toNat vs.len 2)) (λw=>by exact Znd (s:=vs) (el:=202) (k1:= .i64) rfl kR kR kR (λw=>kR) (hi14) w) ?_
   refine Zdq rfl (Zuf rfl (c:=Builtin.clear_ #[51] 0 #[(Sl.v (Sl.cut vs i.toNat vs.len 2))]) kR (semS.mono h λv16 vw15 h=> ?_))
   refine Zbg ?_
   refine Vc.seq ?_
   refine Vc.region ?_
   refine Zb3 2 [(40,(Value.int .i64 i)),(39,(Sl.v vs))] kR ?_
   obtain⟨hi17,h⟩:=h
   refine Zaw rfl rfl (Sl.v (Sl.cut vs 0 i.toNat 2)) (λw=>by exact Znc (s:=vs) (el:=202) (k2:= .i64) rfl kR kR kR (λw=>kR) (hi17) w) ?_
   refine Zaw rfl rfl (Sl.v (Sl.cut vs 0 i.toNat 2)) (λw=>kR) ?_
   refine Zbg ?_
   refine Vc.ret ?_
   refine Zmk ?_
   refine Zpb (Sl.v (Sl.cut vs 0 i.toNat 2)) (res1 (Zld kR)) ?_
   exact⟨(Sl.cut vs 0 i.toNat 2),rfl,h⟩
theorem Zp.go{a0:Sl}{u:Value}{w:World}{k:Value→World→Prop}(h:Zp a0 u w λa1 a2=>k (Sl.v a1) a2):callS prog 207 [Sl.v a0,u] w k:=(Zp.sound a0 u w _ h).mono (by rintro _ _ ⟨a1,rfl,h⟩; exact h)
def Zck(a:Sl)(e:World)(f:Sl→World→Prop):Prop:=
 (If (a.a=none) (f Sl.nil e) (newS e [] 202 λg c=>appS prog 51 51 (Sl.mk (some g) 0 0) (Sl.v a) c λd b=>f d b))
theorem Zck.go{u w k}(h:Zck u w λa0 a1=>k (Sl.v a0) a1):Cs 208 [Sl.v u] w k:=rg (.q (.s (.q (.k .y)) .y)) func208 h
def Zct(b:ByteArray)(c:Sl)(d:ByteArray)(e:Sl)(l:World)(m:Int→World→Prop):Prop:=
 newS l [vT b,Sl.v c] 202 λn j=>newS j [vT d,Sl.v e] 202 λk a=> ∃g,Lt a n g∧ ∃h,Lt a k h∧Cs 21 [vT g,vT h] a λo f=> ∃i,o= .int .i64 i∧m i f
theorem Zct.go{u a0 a1 a2 w k}(h:Zct u a0 a1 a2 w λa4 a5=>k (vI a4) a5):Cs 212 [(.agg #[vT u,Sl.v a0]),(.agg #[vT a1,Sl.v a2])] w k:=rg (.q .y) func212 h
def Zah(n:Sl)(j:Value)(p:World)(o:Bool→World→Prop):Prop:=
 loop1 (Za ((n.len:Int) - 1)) p λi k l=>(If (0<i) (Dr k λa=> ∃m,Ix n i m∧ ∃b c,Lts a (m.add (i.toNat*2)) b c∧ ∃g,Ix n (Za (i - 1)) g∧ ∃d e,Lts a (g.add ((Za (i - 1)).toNat*2)) d e∧callV prog j [(.agg #[vT b,Sl.v c]),(.agg #[vT d,Sl.v e])] a λq f=> ∃h,q= .int .i64 h∧(If (h<0) (o false f) (l (Za (i - 1)) f))) (o true k))
theorem Zah.go{x u w k}(h:Zah x u w λa0 a1=>k (vB a0) a1):Cs 213 [Sl.v x,u] w k:=rg (.q (.s (.q (.b (.l [(5,4)] (.s (.q .x) (.s (.b (.q (.k .y))) (.r [])))))) .y)) func213 h
def Zjf(c7 c8 c9 d0 h a5:Sl)(e3:World)(e4:Sl→World→Prop):Prop:=
 newS e3 (Zlf c7 c8 c9 d0) 55 λe2 e1=>loop2 Sl.nil 0 e1 λa6 e i d1=>(If (e<(h.len:Int)) (∃e0,Ix h e e0∧ ∃m,Ls i (e0.add (e.toNat*1)) m∧loop2 a6 0 i λj f k b4=>(If (f<(m.len:Int)) (∃a7,Ix m f a7∧ ∃a8 n,Lts k (a7.add (f.toNat*2)) a8 n∧N202 k λb5 d2=>stw d2 b5 [vT a8,Sl.v n] λb6=>Dr b6 λa=> ∃a9,Lt a b5 a9∧ ∃o p q r,Zg9 a e2 o p q r∧ ∃s t,Lts a b5 s t∧Cx 261 [(Zez o p q r),(.agg #[vT s,Sl.v t])] a λe5 b7=> ∃b0,e5=Sl.v b0∧newS b7 (Btis a9 1 b0) 293 λd3 b8=>appS prog 233 233 j (Sl.v (Sl.mk (some d3) 1 1)) b8 λd4 b9=>b4 d4 (Za (f+1)) b9) (d1 j (Za (e+1)) k))) (loop2 a6 0 i λb g d a4=>(If (g<(a5.len:Int)) (∃u,Ix a5 g u∧ ∃v x,Lts d (u.add (g.toNat*2)) v x∧N202 d λl c0=>stw c0 l [vT v,Sl.v x] λc1=>Dr c1 λc=> ∃b1,Lt c l b1∧ ∃y z a0 a1,Zg9 c e2 y z a0 a1∧ ∃a2 a3,Lts c l a2 a3∧Cx 261 [(Zez y z a0 a1),(.agg #[vT a2,Sl.v a3])] c λd5 c2=> ∃b2,d5=Sl.v b2∧newS c2 (Btis b1 2 b2) 293 λd6 c3=>appS prog 233 233 b (Sl.v (Sl.mk (some d6) 1 1)) c3 λd7 c4=>a4 d7 (Za (g+1)) c4) (Cs 262 [Sl.v b,(Value.func (.func 263) #[] #[])] d λd8 c5=>d8= .tuple #[]∧Cs 264 [Sl.v b] c5 λd9 c6=> ∃b3,d9=Sl.v b3∧e4 b3 c6))))
theorem Zjf.go{a0 a1 a2 a4 u a5 w k}(h:Zjf a0 a1 a2 a4 u a5 w λa6 a7=>k (Sl.v a6) a7):Cs 214 [(Zez a0 a1 a2 a4),Sl.v u,Sl.v a5] w k:=rg (.q (.q (.s (.q (.b (.l [(7,234),(16,4)] (.q (.s .x (.s (.b (.q (.q (.b (.l [(7,234),(22,4)] (.q (.s .x (.s (.b (.q (.r []))) (.r []))))))))) (.r []))))))) (.s (.q (.b (.l [(7,234),(39,4)] (.q (.s .x (.s (.b (.q (.r []))) (.r []))))))) (.q .y))))) func214 h
def Zd7(z:Option Addr)(q:Sl)(a0:Int)(m:Sl)(l8:World)(l4:World→Prop):Prop:=
 ∃l3,Ix q a0 l3∧ ∃g6,Ls l8 ((l3.add (a0.toNat*6)).add 4) g6∧Cs 219 [Sl.v g6] l8 λm0 l5=> ∃g7,m0=Sl.v g7∧loop2 g7 0 l5 λb s a2 j9=>(If (s<(m.len:Int)) (join (λ(h7:Sl) (j8:World)=>j9 h7 (Za (s+1)) j8) λk0=> ∃g8,Ix m s g8∧ ∃a5 a6 a7 a8,Zin a2 (g8.add (s.toNat*4)) a5 a6 a7 a8∧N111 a2 λl6 k1=>stw k1 l6 (Zg8 a5 a6 a7 a8) λg4=> ∃g9,Lt g4 l6 g9∧Cs 217 [Sl.v b,vT g9] g4 λk2 h8=> ∃a9 b0 b1 b2,k2=Zgr a9 b0 b1 b2∧N50 h8 λk3 h9=>stw h9 k3 (Biii a9 b0 b1) λn=>(Ib (!b2) (∃b3 b4 b5 b6,Zin n l6 b3 b4 b5 b6∧newS n (Zg8 b3 b4 b5 b6) 111 λk4 i0=>appS prog 73 73 b (Sl.v (Sl.mk (some k4) 1 1)) i0 λk5 i1=>k0 k5 i1) (k0 b n))) (Cs 139 [Sl.v b,(Value.func (.func 265) #[] #[])] a2 λk6 i2=>k6= .tuple #[]∧semS prog (Instr.makeSlice 339 (vI (b.len:Int)) (vI (b.len:Int))) i2 λk7 i3=> ∃u,k7=Sl.v u∧loop1 0 i3 λh o f7=>(If (h<(b.len:Int)) (∃b7,Ix b h b7∧ ∃b8 b9 c0 c1,Zin o (b7.add (h.toNat*4)) b8 b9 c0 c1∧N111 o λg5 i4=>stw i4 g5 (Zg8 b8 b9 c0 c1) λi5=>Dr i5 λk=> ∃l9,z=some l9∧ ∃h0,Lp k l9 h0∧ ∃h1,z=some h1∧ ∃c2 c3 c4 c5,Zg9 k (h1.add 1) c2 c3 c4 c5∧ ∃c6 c7 c8 c9,Zin k g5 c6 c7 c8 c9∧Cs 266 [.pointer h0,(Zez c2 c3 c4 c5),Sl.v b,(Zjh c6 c7 c8 c9)] k λk8 i6=> ∃h2 d0,k8=VTsbE h2 d0∧ ∃d1,Ix u h d1∧stw i6 (d1.add (h.toNat*1)) [Sl.v h2] λa3=>(Ib (!d0) (l4 a3) (f7 (Za (h+1)) a3))) (Cs 267 [Sl.v q] o λk9 i7=> ∃h3,k9=Sl.v h3∧loop3 h3 Sl.nil 0 i7 λa t e p f8=>(If (e<(b.len:Int)) (∃d2,Ix b e d2∧ ∃d3 d4 d5 d6,Zin p (d2.add (e.toNat*4)) d3 d4 d5 d6∧N111 p λi i8=>stw i8 i (Zg8 d3 d4 d5 d6) λi9=>loop1 1 i9 λf j0 f9=>Dr j0 λc=>bnd (decide (f<(a.len:Int))) λ(y:Bool)=> ∃d7,Gx y a f d7∧ ∃h4,Gt y c (d7.add (f.toNat*6)) h4∧ ∃h5,Gt y c i h5∧bnd (!bEq h4 h5) λ(r:Bool)=> ∃d8,Gx (y&&(!r)) a f d8∧ ∃d9 e0 e1,Giii (y&&(!r)) c ((d8.add (f.toNat*6)).add 1) d9 e0 e1∧ ∃e2 e3 e4,Giii (y&&(!r)) c (i.add 1) e2 e3 e4∧bnd (r||(!((d9==e2)&&((e0==e3)&&((e1==e4)&&true))))) λ(g:Bool)=> ∃e5,Gx (y&&(!g)) a f e5∧ ∃e6,Gs (y&&(!g)) c ((e5.add (f.toNat*6)).add 4) e6∧ ∃e7,Gx (y&&(!g)) u e e7∧ ∃e8,Gs (y&&(!g)) c (e7.add (e.toNat*1)) e8∧gCall (y&&(!g)) (λ(j:Bool) (d:World)=>(Ib (y&&(g||(!j))) (f9 (Za (f+1)) d) (join (λ(x:Sl) (a1:World)=> ∃e9,Lt a1 i e9∧newS a1 [vT e9,vI f] 80 λl0 j1=>appS prog 74 74 t (Sl.v (Sl.mk (some l0) 1 1)) j1 λj2 j3=>f8 x j2 (Za (e+1)) j3) λa4=>(If (f=(a.len:Int)) (∃h6,z=some h6∧ ∃f0,Li d ((h6.add 7).add 1) f0∧(If (f=f0) (Cs 149 [.pointer z,(Sl.v Sl.nil),vI 32] d λl1 j4=>l1= .tuple #[]∧l4 j4) (Dr d λl=> ∃f1,Lt l i f1∧ ∃f2 f3 f4,Liii l (i.add 1) f2 f3 f4∧ ∃f5,Ix u e f5∧ ∃f6,Ls l (f5.add (e.toNat*1)) f6∧newS l [vT f1,vI f2,vI f3,vI f4,Sl.v f6,(Sl.v Sl.nil)] 76 λj5 g0=>appS prog 22 22 a (Sl.v (Sl.mk (some j5) 1 1)) g0 λj6 g1=>a4 j6 g1))) (a4 a d))))) (λl7=>Cs 268 [Sl.v e6,Sl.v e8] c λl2 d=> ∃j,l2= .bool j∧l7 j d) (λl7=>l7 false c)) (∃v,Ix a a0 v∧stw p ((v.add (a0.toNat*6)).add 5) [Sl.v t] λg2=>Cs 88 [.pointer z,Sl.v a,(vI (Za (a0+1)))] g2 λj7 g3=>j7= .tuple #[]∧l4 g3))))))
theorem Zd7.go{a1 a0 a2 u w k}(h:Zd7 a1 a0 a2 u w λa4=>k (Value.tuple #[]) a4):Cs 215 (Bpsis a1 a0 a2 u) w k:=rg (.q (.s (.q (.b (.l [(8,74),(29,4)] (.q (.s .x (.j [(8,74)] (.b (.q (.q (.q (.c (.r []) .o))))) (.r []))))))) (.q (.q (.s (.q (.b (.l [(54,4)] (.q (.s .x (.s (.b (.q (.q (.q (.q .x))))) (.r []))))))) (.q (.q (.s (.q (.b (.l [(1,23),(17,75),(83,4)] (.q (.s .x (.s (.b (.q (.q (.s (.b (.l [(20,4)] (.s (.q .x) (.b (.r []))))) (.j [(1,23)] (.q (.c (.s (.q (.k .y)) (.r [])) .o)) (.r [])))))) (.r []))))))) (.q (.r [])))))))))) func215 h
def Zbk(t:Option Addr)(f:ByteArray)(u g:Sl)(v:World)(x:Sl→World→Prop):Prop:=
 newS v [vT f] 9 λs o=>newS o [Sl.v u] 200 λp i=>newS i [Sl.v g] 73 λq b=> ∃c,Lt b s c∧Cs 270 [.pointer t,vT c] b λy j=> ∃d,y=Sl.v d∧Cs 269 [Sl.v d,(Value.func (.func 271) #[] #[vP p])] j λr k=> ∃a,r=Sl.v a∧Cs 272 [Sl.v a,(Value.func (.func 273) #[] #[vP q,vP s])] k λl m=>l= .tuple #[]∧Cs 276 [Sl.v a] m λn h=> ∃e,n=Sl.v e∧x e h
theorem Zbk.go{c u l pins w k}(h:Zbk c u l pins w λa0 a1=>k (Sl.v a0) a1):Cs 216 (Bptss c u l pins) w k:=rg (.q (.q (.q .y))) func216 h
def Zdl(a1:Sl)(t:ByteArray)(a3:World)(a2:Int→Int→Int→Bool→World→Prop):Prop:=
 N50 a3 λz a0=>loop1 0 a0 λa c v=>(If (a<(a1.len:Int)) (∃y,Ix a1 a y∧ ∃d e f g,Zin c (y.add (a.toNat*4)) d e f g∧N111 c λu x=>stw x u (Zg8 d e f g) λb=> ∃p,Lt b u p∧(If (p=t) (∃h i j,Liii b (u.add 1) h i j∧stw b z (Biii h i j) λn=> ∃q r s,Liii n z q r s∧a2 q r s true n) (v (Za (a+1)) b))) (stw c z (Biii 0 0 0) λo=> ∃k l m,Liii o z k l m∧a2 k l m false o))
theorem Zdl.go{l u w k}(h:Zdl l u w λa0 a1 a2 a4 a5=>k (Value.tuple #[(Aiii a0 a1 a2),vB a4]) a5):Cs 217 [Sl.v l,vT u] w k:=rg (.q (.s (.q (.b (.l [(10,4)] (.q (.s .x (.s (.b (.q (.q (.k .y)))) (.r []))))))) .y)) func217 h
def Zlx(q:Sl)(k l m:Int)(t:World)(u:Bool→World→Prop):Prop:=
 newS t (Biii k l m) 50 λs n=>Cs 119 [Sl.v q] n λv d=> ∃i,v= .bool i∧ ∃e f g,Giii i d s e f g∧gCall i (λ(h:Bool) (a:World)=>bnd (i&&h) λ(r:Bool)=>gCall r (λ(b:Bool) (c:World)=>u (r&&b) c) (λj=>Cs 277 [Sl.v q,(Value.func (.func 278) #[] #[vP s])] a λo c=> ∃b,o= .bool b∧j b c) (λj=>j false a)) (λj=>Cs 60 [(Aiii e f g)] d λp a=> ∃h,p= .bool h∧j h a) (λj=>j false d)
theorem Zlx.go{l u a0 a1 w k}(h:Zlx l u a0 a1 w λa2 a4=>k (vB a2) a4):Cs 218 [Sl.v l,(Aiii u a0 a1)] w k:=rg (.q (.s (.r [7]) .o)) func218 h
def Za0(a:Sl)(e:World)(f:Sl→World→Prop):Prop:=
 (If (a.a=none) (f Sl.nil e) (newS e [] 111 λg c=>appS prog 73 73 (Sl.mk (some g) 0 0) (Sl.v a) c λd b=>f d b))
theorem Za0.go{u w k}(h:Za0 u w λa0 a1=>k (Sl.v a0) a1):Cs 219 [Sl.v u] w k:=rg (.q (.s (.q (.k .y)) .y)) func219 h
def Zdd(s u:Sl)(v:World)(t:Bool→World→Prop):Prop:=
 (If (¬(s.len:Int)=(u.len:Int)) (t false v) (loop1 0 v λo p q=>(If (o<(s.len:Int)) (Dr p λa=> ∃r,Ix s o r∧ ∃b c d e f g,Zln a (r.add (o.toNat*6)) b c d e f g∧ ∃n,Ix u o n∧ ∃h i j k l m,Zln a (n.add (o.toNat*6)) h i j k l m∧(Ib (!(((b==h)&&((c==i)&&((d==j)&&true)))&&(((e==k)&&((f==l)&&((g==m)&&true)))&&true))) (t false a) (q (Za (o+1)) a))) (t true p))))
theorem Zdd.go{a b w k}(h:Zdd a b w λu a0=>k (vB u) a0):Cs 225 [Sl.v a,Sl.v b] w k:=rg (.q (.s (.q (.k .y)) (.s (.q (.b (.l [(5,4)] (.s (.q .x) (.s (.b (.q (.k .y))) (.r [])))))) .y))) func225 h
def Z3(n:Option Addr)(c d:Int)(i:World)(o:Bool→World→Prop):Prop:=
 ∃j,n=some j∧ ∃e,Ls i (j.add 8) e∧ ∃k,Ix e c k∧ ∃a,Ls i (k.add (c.toNat*9)) a∧ ∃l,n=some l∧ ∃f,Ls i (l.add 8) f∧ ∃g,Ix f d g∧ ∃b,Ls i (g.add (d.toNat*9)) b∧(If ((b.len:Int)<(a.len:Int)) (o false i) (((0:Int)≤(a.len:Int)∧(a.len:Int)≤(b.cap:Int))∧Cs 25 [Sl.v a,(Sl.v (Sl.cut b 0 ((a.len:Int).toNat) 1))] i λp m=> ∃h,p= .bool h∧o h m))
theorem Z3.go{p u a0 w k}(h:Z3 p u a0 w λa1 a2=>k (vB a1) a2):Cs 226 (Bpii p u a0) w k:=rg (.q (.q (.q (.s (.q (.k .y)) .y)))) func226 h
def Zg3(a6:Sl)(a7:World)(a8:Sl→World→Prop):Prop:=
 loop2 Sl.nil 0 a7 λn a s y=>(If (a<(a6.len:Int)) (∃a2,Ix a6 a a2∧ ∃b c d e f g,Zln s (a2.add (a.toNat*6)) b c d e f g∧N210 s λa3 z=>stw z a3 (Zrv b c d e f g) λo=> ∃h i j,Liii o a3 h i j∧Cs 183 [(Aiii h i j)] o λa9 p=> ∃q v,a9=Zvf q v∧ ∃k l m,Liii p (a3.add 3) k l m∧Cs 183 [(Aiii k l m)] p λa4 a0=> ∃r x,a4=Zvf r x∧newS a0 [vI q,vI r] 310 λa5 t=>appS prog 307 307 n (Sl.v (Sl.mk (some a5) 1 1)) t λa1 u=>y a1 (Za (a+1)) u) (a8 n s))
theorem Zg3.go{l w k}(h:Zg3 l w λu a0=>k (Sl.v u) a0):Cs 227 [Sl.v l] w k:=rg (.q (.q (.s (.q (.b (.l [(3,308),(12,4)] (.q (.s .x (.s (.b (.q (.q (.q (.r []))))) (.r []))))))) .y))) func227 h
def Zky(i:Int)(m:World)(l:Int→Int→Int→Bool→World→Prop):Prop:=
 N50 m λk j=>bnd (decide (i<0)) λ(n:Bool)=>(Ib (n||(decide (1000000000≤i))) (stw j k (Biii 0 0 0) λd=> ∃f g h,Liii d k f g h∧l f g h false d) (stw j k [(vI (Za ((Za (i.tdiv 1000)).tdiv 1000))),(vI (Int.tmod (Za (i.tdiv 1000)) 1000)),(vI (Int.tmod i 1000))] λe=> ∃a b c,Liii e k a b c∧l a b c true e))
theorem Zky.go{n w k}(h:Zky n w λu a0 a1 a2 a4=>k (Value.tuple #[(Aiii u a0 a1),vB a2]) a4):Cs 228 [vI n] w k:=rg (.q (.s (.q (.k .y)) .y)) func228 h
def Zdv(g h i:Int)(o:World)(n:Int→Bool→World→Prop):Prop:=
 newS o (Biii g h i) 50 λm j=> ∃b c d,Liii j m b c d∧Cs 66 [(Aiii b c d)] j λp a=> ∃k,p= .bool k∧(Ib (!k) (n 0 false a) (∃l,Li a m l∧ ∃e,Li a (m.add 1) e∧ ∃f,Li a (m.add 2) f∧n (Za ((Za ((Za ((Za (l*1000))+e))*1000))+f)) true a))
theorem Zdv.go{u a0 a1 w k}(h:Zdv u a0 a1 w λa2 a4 a5=>k (Value.tuple #[vI a2,vB a4]) a5):Cs 230 [(Aiii u a0 a1)] w k:=rg (.q (.s (.q (.k .y)) .y)) func230 h
def Zhp(s:Int)(a:Value)(u:World)(t:Bool→World→Prop):Prop:=
 loop1 0 u λf l m=>(If (f<s) (callV prog a [vI f] l λv n=> ∃h,v= .string h∧Cs 52 [vT h] n λq g=> ∃i,q= .bool i∧bnd (!i) λ(p:Bool)=>bnd (decide (0<f)) λ(j:Bool)=>gCall ((!p)&&j) (λ(b:ByteArray) (c:World)=>gCall ((!p)&&j) (λ(d:ByteArray) (e:World)=>(Ib (p||(j&&(!bLt b d))) (t false e) (m (Za (f+1)) e))) (λk=>callV prog a [vI f] c λo e=> ∃d,o= .string d∧k d e) (λk=>k (ByteArray.mk #[]) c)) (λk=>callV prog a [(vI (Za (f - 1)))] g λr c=> ∃b,r= .string b∧k b c) (λk=>k (ByteArray.mk #[]) g)) (t (decide (s≤128)) l))
theorem Zhp.go{n u w k}(h:Zhp n u w λa0 a1=>k (vB a0) a1):Cs 231 [vI n,u] w k:=rg (.q (.s (.q (.b (.l [(7,4)] (.q (.s .x (.s (.b (.q (.q (.k .y)))) (.r []))))))) .y)) func231 h
def Zga(a:Sl)(b:ByteArray)(j:World)(k:Sl→World→Prop):Prop:=
 semS prog (Instr.makeSlice 67 (vI 0) (vI (Za ((a.len:Int)+1)))) j λl i=> ∃h,l=Sl.v h∧appS prog 67 67 h (Sl.v a) i λc d=>newS d [vT b] 9 λm e=>appS prog 67 67 c (Sl.v (Sl.mk (some m) 1 1)) e λf g=>k f g
theorem Zga.go{a0 u w k}(h:Zga a0 u w λa1 a2=>k (Sl.v a1) a2):Cs 235 [Sl.v a0,vT u] w k:=rg (.q (.q .y)) func235 h
def Zmt(b:ByteArray)(e0:World)(a5:Int→Int→Bool→World→Prop):Prop:=
 N310 e0 λe d3=>(If (b=(ByteArray.mk #[42])) (stw d3 e [vI 0,vI 999999999] λc6=> ∃b7 b8,Lii c6 e b7 b8∧a5 b7 b8 true c6) (Cs 107 [vT b,(vT (ByteArray.mk #[60,62,61,94,126]))] d3 λe1 d4=> ∃d,e1= .string d∧Cs 295 [vT d] d4 λd9 d5=> ∃b9 c0 c1 c2,d9=Zgr b9 c0 c1 c2∧N50 d5 λa4 d6=>stw d6 a4 (Biii b9 c0 c1) λc7=> ∃c3 c4 c5,Liii c7 a4 c3 c4 c5∧Cs 183 [(Aiii c3 c4 c5)] c7 λd7 f=> ∃c d1,d7=Zvf c d1∧ ∃a3,Li f (a4.add 2) a3∧ ∃c8,Li f (a4.add 1) c8∧(Ib (!c2) (stw f e [vI 0,vI 0] λa6=> ∃g h,Lii a6 e g h∧a5 g h false a6) (((0:Int)≤(Za ((b.size:Int) - (d.size:Int)))∧(Za ((b.size:Int) - (d.size:Int)))≤(b.size:Int))∧join (λ(d2:Bool) (a:World)=>(Ib d2 (stw a e [vI c,vI c] λa7=> ∃i j,Lii a7 e i j∧a5 i j true a7) ((If ((b.extract 0 (Za ((b.size:Int) - (d.size:Int))).toNat)=(ByteArray.mk #[60])) (stw a e [vI 0,(vI (Za (c - 1)))] λa8=> ∃k l,Lii a8 e k l∧a5 k l true a8) ((If ((b.extract 0 (Za ((b.size:Int) - (d.size:Int))).toNat)=(ByteArray.mk #[60,61])) (stw a e [vI 0,vI c] λa9=> ∃m n,Lii a9 e m n∧a5 m n true a9) ((If ((b.extract 0 (Za ((b.size:Int) - (d.size:Int))).toNat)=(ByteArray.mk #[62])) (stw a e [(vI (Za (c+1))),vI 999999999] λb0=> ∃o p,Lii b0 e o p∧a5 o p true b0) ((If ((b.extract 0 (Za ((b.size:Int) - (d.size:Int))).toNat)=(ByteArray.mk #[62,61])) (stw a e [vI c,vI 999999999] λb1=> ∃q r,Lii b1 e q r∧a5 q r true b1) ((If ((b.extract 0 (Za ((b.size:Int) - (d.size:Int))).toNat)=(ByteArray.mk #[126])) (stw a e [vI c,(vI (Za ((Za (c - a3))+999)))] λb2=> ∃s t,Lii b2 e s t∧a5 s t true b2) ((If ((b.extract 0 (Za ((b.size:Int) - (d.size:Int))).toNat)=(ByteArray.mk #[94])) (∃c9,Li a a4 c9∧(If (0<c9) (stw a e [vI c,(vI (Za ((Za ((Za (c - a3))+999))+(Za ((Za (999 - c8))*1000)))))] λb3=> ∃u v,Lii b3 e u v∧a5 u v true b3) (∃d0,Li a (a4.add 1) d0∧(If (0<d0) (stw a e [vI c,(vI (Za ((Za (c - a3))+999)))] λb4=> ∃x y,Lii b4 e x y∧a5 x y true b4) (stw a e [vI c,vI c] λb5=> ∃z a0,Lii b5 e z a0∧a5 z a0 true b5))))) (stw a e [vI 0,vI 0] λb6=> ∃a1 a2,Lii b6 e a1 a2∧a5 a1 a2 false b6))))))))))))))) λd8=>(If ((b.extract 0 (Za ((b.size:Int) - (d.size:Int))).toNat)=(ByteArray.mk #[])) (d8 (bEq (b.extract 0 (Za ((b.size:Int) - (d.size:Int))).toNat) (ByteArray.mk #[])) f) (d8 (bEq (b.extract 0 (Za ((b.size:Int) - (d.size:Int))).toNat) (ByteArray.mk #[61])) f))))))
theorem Zmt.go{u w k}(h:Zmt u w λa0 a1 a2 a4=>k (Value.tuple #[(.agg #[vI a0,vI a1]),vB a2]) a4):Cs 256 [vT u] w k:=rg (.q (.s (.q (.k .y)) (.q (.q (.q (.q (.q (.s (.q (.k .y)) (.s (.q (.b (.j [(47,5)] (.q (.c .o (.r []))) (.c .y (.q (.c .y (.q (.c .y (.q (.c .y (.q (.c .y (.q (.c .y (.q (.c (.s (.b (.q (.c .y (.q (.k .y))))) .y) .o)))))))))))))))) .y))))))))) func256 h
def Zov(c:Sl)(d:World)(e:Sl→Int→World→Prop):Prop:=
 (If (64<(c.len:Int)) (e Sl.nil 26 d) (Cs 296 [Sl.v c] d λf b=> ∃a,f=Sl.v a∧e a 0 b))
theorem Zov.go{l w k}(h:Zov l w λu a0 a1=>k (Value.tuple #[Sl.v u,vI a0]) a1):Cs 257 [Sl.v l] w k:=rg (.q (.s (.q (.k .y)) .y)) func257 h
def Zh7(b0:Sl)(b1:World)(b2:Sl→World→Prop):Prop:=
 callS prog 298 [Sl.v b0] b1 λb3 a8=> ∃v,b3=v∧Cs 297 [v,(Value.func (.func 299) #[] #[])] a8 λa9 y=> ∃u,a9=Sl.v u∧loop2 Sl.nil 0 y λa h i z=>(If (h<(u.len:Int)) (join (λ(q:Sl) (x:World)=>z q (Za (h+1)) x) λa0=> ∃a5,Ix u h a5∧ ∃c d,Lii i (a5.add (h.toNat*2)) c d∧N310 i λa7 a1=>stw a1 a7 [vI c,vI d] λa2=>Dr a2 λb=>bnd (decide (0≤(Za ((a.len:Int) - 1)))) λ(a6:Bool)=> ∃m,Gi a6 b a7 m∧ ∃j,Gx a6 a (Za ((a.len:Int) - 1)) j∧ ∃n,Gi a6 b ((j.add ((Za ((a.len:Int) - 1)).toNat*2)).add 1) n∧(Ib (a6&&(decide (m≤(Za (n+1))))) (Dr b λg=> ∃k,Ix a (Za ((a.len:Int) - 1)) k∧ ∃o,Li g ((k.add ((Za ((a.len:Int) - 1)).toNat*2)).add 1) o∧ ∃p,Li g (a7.add 1) p∧ ∃l,Ix a (Za ((a.len:Int) - 1)) l∧stw g ((l.add ((Za ((a.len:Int) - 1)).toNat*2)).add 1) [(vI (Z7u o p))] λr=>a0 a r) (∃e f,Lii b a7 e f∧newS b [vI e,vI f] 310 λa3 s=>appS prog 307 307 a (Sl.v (Sl.mk (some a3) 1 1)) s λa4 t=>a0 a4 t))) (b2 a i))
theorem Zh7.go{l w k}(h:Zh7 l w λu a0=>k (Sl.v u) a0):Cs 258 [Sl.v l] w k:=rg (.q (.q (.q (.s (.q (.b (.l [(3,308),(12,4)] (.q (.s .x (.j [(3,308)] (.b (.q (.q (.q (.c (.r []) (.r [])))))) (.r []))))))) .y)))) func258 h
def Zbu(g:Sl)(k:Value)(l:World)(j:Int→World→Prop):Prop:=
 loop1 0 l λa f h=>(If (a<(g.len:Int)) (∃i,Ix g a i∧ ∃b c,Lts f (i.add (a.toNat*2)) b c∧callV prog k [(.agg #[vT b,Sl.v c])] f λm d=> ∃e,m= .bool e∧(Ib e (j a d) (h (Za (a+1)) d))) (j (-1) f))
theorem Zbu.go{u f w k}(h:Zbu u f w λa0 a1=>k (vI a0) a1):Cs 260 [Sl.v u,f] w k:=rg (.q (.s (.q (.b (.l [(8,4)] (.q (.s .x (.s (.b (.q (.q (.k .y)))) (.r []))))))) .y)) func260 h
def Zfs(s t u v:Sl)(m:ByteArray)(n:Sl)(a4:World)(a3:Sl→World→Prop):Prop:=
 newS a4 (Zlf s t u v) 55 λa5 a2=>newS a2 [vT m,Sl.v n] 202 λx f=> ∃r,Ls f (a5.add 3) r∧loop1 0 f λb c y=>(If (b<(r.len:Int)) (∃a1,Ix r b a1∧ ∃d e,Lts c (a1.add (b.toNat*2)) d e∧N202 c λo z=>stw z o [vT d,Sl.v e] λa=> ∃g,Lt a o g∧ ∃h,Lt a x h∧(If (g=h) (∃i,Ls a (o.add 1) i∧Cs 122 [Sl.v i] a λa6 p=> ∃j,a6=Sl.v j∧a3 j p) (y (Za (b+1)) a))) (∃k,Ls c (x.add 1) k∧Cs 122 [Sl.v k] c λa0 q=> ∃l,a0=Sl.v l∧a3 l q))
theorem Zfs.go{a1 a2 a4 a5 u a0 w k}(h:Zfs a1 a2 a4 a5 u a0 w λa6 a7=>k (Sl.v a6) a7):Cs 261 [(Zez a1 a2 a4 a5),(.agg #[vT u,Sl.v a0])] w k:=rg (.q (.s (.q (.b (.l [(10,4)] (.q (.s .x (.s (.b (.q (.q (.k .y)))) (.r []))))))) .y)) func261 h
def Zi(c:Sl)(a:Value)(d:World)(e:World→Prop):Prop:=
 Cs 308 [Sl.v c,(vI (c.len:Int)),a] d λf b=>f= .tuple #[]∧e b
theorem Zi.go{x u w k}(h:Zi x u w λa0=>k (Value.tuple #[]) a0):Cs 262 [Sl.v x,u] w k:=rg (.r []) func262 h
def Zj4(d:ByteArray)(b:Int)(e:Sl)(f:ByteArray)(c:Int)(g:Sl)(n:World)(o:Int→World→Prop):Prop:=
 newS n (Btis d b e) 293 λp l=>newS l (Btis f c g) 293 λm a=> ∃i,Lt a p i∧ ∃j,Lt a m j∧Cs 21 [vT i,vT j] a λq h=> ∃k,q= .int .i64 k∧o k h
theorem Zj4.go{a1 u a2 a4 a0 a5 w k}(h:Zj4 a1 u a2 a4 a0 a5 w λa6 a7=>k (vI a6) a7):Cs 263 [(Atis a1 u a2),(Atis a4 a0 a5)] w k:=rg (.q .y) func263 h
def Zcb(a:Sl)(b:World)(c:Sl→World→Prop):Prop:=
 ((0:Int)≤0∧0≤(a.len:Int)∧(a.len:Int)≤(a.len:Int)∧(a.len:Int)≤(a.cap:Int))∧c (Sl.mk (if(a.len:Int).toNat=0 then a.a else a.a.map (·.add (0*3))) ((a.len:Int).toNat - 0) ((a.len:Int).toNat - 0)) b
theorem Zcb.go{u w k}(h:Zcb u w λa0 a1=>k (Sl.v a0) a1):Cs 264 [Sl.v u] w k:=rg (.q .y) func264 h
def Zc7(b:ByteArray)(c d e:Int)(f:ByteArray)(g h i:Int)(p:World)(q:Int→World→Prop):Prop:=
 newS p (Zg8 b c d e) 111 λr n=>newS n (Zg8 f g h i) 111 λo a=> ∃k,Lt a r k∧ ∃l,Lt a o l∧Cs 21 [vT k,vT l] a λs j=> ∃m,s= .int .i64 m∧q m j
theorem Zc7.go{u a0 a1 a2 a4 a5 a6 a7 w k}(h:Zc7 u a0 a1 a2 a4 a5 a6 a7 w λa8 a9=>k (vI a8) a9):Cs 265 [(Zjh u a0 a1 a2),(Zjh a4 a5 a6 a7)] w k:=rg (.q .y) func265 h
def Zgb(k7:Option Addr)(h9 i0 i1 i2 o:Sl)(i3:ByteArray)(i4 i5 i6:Int)(l2:World)(k6:Sl→Bool→World→Prop):Prop:=
 newS l2 (Zlf h9 i0 i1 i2) 55 λl4 k8=>newS k8 (Zg8 i3 i4 i5 i6) 111 λk9 u=>(If (k7=none) (k6 Sl.nil false u) (∃z a0 a1 a2,Zin u k9 z a0 a1 a2∧newS u (Zg8 z a0 a1 a2) 111 λl0 i8=>loop3 (Sl.mk (some l0) 1 1) Sl.nil 0 i8 λr b h8 f4 i9=>(If (h8<(r.len:Int)) (join (λ(l3:Addr) (e9:Bool) (p:World)=>(Ib (!e9) (k6 Sl.nil false p) (∃a3 a4 a5 a6 a7 a8 a9,Zau p l3 a3 a4 a5 a6 a7 a8 a9∧ ∃b0 b1 b2 b3,Zg9 p l4 b0 b1 b2 b3∧Cs 311 [(Zm a3 a4 a5 a6 a7 a8 a9),(Zez b0 b1 b2 b3)] p λl5 j0=> ∃b4,l5=Sl.v b4∧loop3 r b 0 j0 λe a s j f1=>(If (s<(b4.len:Int)) (join (λ(f0 h:Sl) (g2:World)=>f1 f0 h (Za (s+1)) g2) λj1=> ∃k5,Ix b4 s k5∧ ∃b5 b6,Lts j (k5.add (s.toNat*2)) b5 b6∧N202 j λt g3=>stw g3 t [vT b5,Sl.v b6] λv=> ∃f7,Lt v t f7∧callS prog 309 [vT f7] v λj2 g4=> ∃f2,j2=f2∧Cs 91 [Sl.v o,f2] g4 λj3 g5=> ∃c,j3= .int .i64 c∧Dr g5 λf=>bnd (decide (c<0)) λ(i7:Bool)=> ∃f8,Gs (!i7) f (t.add 1) f8∧ ∃b7,Gx (!i7) o c b7∧ ∃b8 b9 c0,Giii (!i7) f ((b7.add (c.toNat*4)).add 1) b8 b9 c0∧gCall (!i7) (λ(q:Bool) (d:World)=>(Ib (i7||(!q)) (k6 Sl.nil false d) (∃f9,Lt d t f9∧callS prog 309 [vT f9] d λj4 g6=> ∃f3,j4=f3∧Cs 43 [Sl.v a,f3] g6 λj5 k=> ∃g0,j5= .bool g0∧(Ib (!g0) (∃c1,Ix o c c1∧ ∃c2 c3 c4 c5,Zin k (c1.add (c.toNat*4)) c2 c3 c4 c5∧newS k (Zg8 c2 c3 c4 c5) 111 λj6 g7=>appS prog 73 73 a (Sl.v (Sl.mk (some j6) 1 1)) g7 λj7 x=> ∃c6,Ix o c c6∧ ∃c7 c8 c9 d0,Zin x (c6.add (c.toNat*4)) c7 c8 c9 d0∧newS x (Zg8 c7 c8 c9 d0) 111 λj8 g8=>appS prog 73 73 e (Sl.v (Sl.mk (some j8) 1 1)) g8 λj9 g9=>j1 j9 j7 g9) (j1 e a k))))) (λl1=>Cs 218 [Sl.v f8,(Aiii b8 b9 c0)] f λk0 d=> ∃q,k0= .bool q∧l1 q d) (λl1=>l1 false f)) (i9 e a (Za (h8+1)) j))))) λy=>Dr f4 λg=> ∃d1,Ix r h8 d1∧ ∃d2,Lt g (d1.add (h8.toNat*4)) d2∧ ∃d3,Ix r h8 d3∧ ∃l m n,Liii g ((d3.add (h8.toNat*4)).add 1) l m n∧((Cs 15 [.pointer k7,vT d2,(Aiii l m n)] g λk1 h0=> ∃d4 d5 d6 d7 d8 d9 e0 e1,k1=Zc9 d4 d5 d6 d7 d8 d9 e0 e1∧N53 h0 λf5 h1=>stw h1 f5 (Zaj d4 d5 d6 d7 d8 d9 e0) λh2=>y f5 e1 h2)∧(N53 g λf6 h3=>Cs 15 [.pointer k7,vT d2,(Aiii l m n)] h3 λk2 h4=> ∃e2 e3 e4 e5 e6 e7 e8 i,k2=Zc9 e2 e3 e4 e5 e6 e7 e8 i∧stw h4 f6 (Zaj e2 e3 e4 e5 e6 e7 e8) λh5=>y f6 i h5))) (Cs 139 [Sl.v b,(Value.func (.func 312) #[] #[])] f4 λk3 h6=>k3= .tuple #[]∧Cs 313 [Sl.v b] h6 λk4 h7=> ∃g1,k4=Sl.v g1∧k6 g1 true h7))))
theorem Zgb.go{c u a0 a1 a2 env a4 a5 a6 a7 w k}(h:Zgb c u a0 a1 a2 env a4 a5 a6 a7 w λa8 a9 b0=>k (Value.tuple #[Sl.v a8,vB a9]) b0):Cs 266 [.pointer c,(Zez u a0 a1 a2),Sl.v env,(Zjh a4 a5 a6 a7)] w k:=rg (.q (.s (.q (.k .y)) (.q (.q (.q (.s (.q (.b (.l [(11,74),(12,74),(13,4)] (.s (.q .x) (.s (.b (.j [(14,0),(15,5)] (.r []) (.s (.q (.k .y)) (.q (.b (.l [(11,74),(12,74),(50,4)] (.q (.s .x (.j [(11,74),(12,74)] (.b (.q (.q (.s (.q (.k .y)) (.q (.c (.q (.r [])) .o)))))) (.r [])))))))))) (.r [])))))) (.q .y))))))) func266 h
def Zbd(a:Sl)(e:World)(f:Sl→World→Prop):Prop:=
 (If (a.a=none) (f Sl.nil e) (newS e [] 76 λg c=>appS prog 22 22 (Sl.mk (some g) 0 0) (Sl.v a) c λd b=>f d b))
theorem Zbd.go{u w k}(h:Zbd u w λa0 a1=>k (Sl.v a0) a1):Cs 267 [Sl.v u] w k:=rg (.q (.s (.q (.k .y)) .y)) func267 h
def Zbr(l m:Sl)(r:World)(q:Bool→World→Prop):Prop:=
 (If (¬(l.len:Int)=(m.len:Int)) (q false r) (loop1 0 r λa n o=>(If (a<(l.len:Int)) (Dr n λb=> ∃p,Ix l a p∧ ∃c d e f,Zin b (p.add (a.toNat*4)) c d e f∧ ∃k,Ix m a k∧ ∃g h i j,Zin b (k.add (a.toNat*4)) g h i j∧(Ib (!((bEq c g)&&(((d==h)&&((e==i)&&((f==j)&&true)))&&true))) (q false b) (o (Za (a+1)) b))) (q true n))))
theorem Zbr.go{u a0 w k}(h:Zbr u a0 w λa1 a2=>k (vB a1) a2):Cs 268 [Sl.v u,Sl.v a0] w k:=rg (.q (.s (.q (.k .y)) (.s (.q (.b (.l [(13,4)] (.q (.s .x (.s (.b (.q (.q (.k .y)))) (.r []))))))) .y))) func268 h
def Zf(a:Sl)(o:Value)(a7:World)(a5:Sl→World→Prop):Prop:=
 Cs 314 [Sl.v a,o] a7 λa8 x=> ∃b,a8= .int .i64 b∧(If (b=(-1)) (a5 a x) (loop2 b (Za (b+1)) x λm n c y=>(If (n<(a.len:Int)) (join (λ(a2:Int) (v:World)=>y a2 (Za (n+1)) v) λz=> ∃a1,Ix a n a1∧ ∃q r e,Liii c (a1.add (n.toNat*3)) q r e∧N50 c λa3 a0=>stw a0 a3 (Biii q r e) λp=> ∃f g h,Liii p a3 f g h∧callV prog o [(Aiii f g h)] p λa4 d=> ∃s,a4= .bool s∧(Ib (!s) (∃i j k,Liii d a3 i j k∧ ∃l,Ix a m l∧stw d (l.add (m.toNat*3)) (Biii i j k) λt=>z (Za (m+1)) t) (z m d))) (((0:Int)≤m∧m≤(a.len:Int))∧semS prog (Builtin.clear_ #[294] 0 #[(Sl.v (Sl.cut a m.toNat a.len 3))]) c λa6 u=>((0:Int)≤m∧m≤(a.cap:Int))∧a5 (Sl.cut a 0 m.toNat 3) u))))
theorem Zf.sound(vs:Sl)(del:Value)(w:World)(R:Sl→World→Prop)(h:Zf vs del w R):callS prog 269 [(Sl.v vs),del] w (λv w'=> ∃(r0:Sl),v=(Sl.v r0)∧R r0 w'):=by
 unfold Zf at h
 refine Zjj 42 rfl func269 rfl kR sI ?_
 refine Vc.seq ?_
 refine Vc.region ?_
 refine Zaw rfl rfl (Sl.v Sl.nil) (λw=>kR) ?_
 refine Zbg ?_
 refine Vc.seq ?_
 refine Vc.region ?_
 refine Zb3 2 [(9,del),(8,(Sl.v vs))] kR ?_
 refine Zdq rfl (Zko rfl kR (callS.mono h λv vw h=> ?_))
 obtain⟨t10,rfl,h⟩:=h
 refine Zaw rfl rfl (Value.int .i64 t10) (λw=>kR) ?_
 refine Zbg ?_
 refine Vc.seq ?_
 refine Vc.seq ?_
 refine Vc.region ?_
 refine Zb3 2 [(12,(Value.bool (t10==(-1)))),(11,(Value.int .i64 t10))] kR ?_
 refine Zbg ?_
 refine Vc.cond (t10==(-1)) kR (λhb=> ?_) (λhb=> ?_)
 ·have h:=h.1 (eq_of_beq hb)
  refine Vc.seq ?_
  refine Vc.region ?_
  refine Zb3 2 [(4,(Sl.v vs)),(13,(Sl.v vs))] kR ?_
  refine Zbg ?_
  refine Vc.ret ?_
  refine Zmk ?_
  refine Zpb (Sl.v vs) (res1 (Zld kR)) ?_
  exact⟨vs,rfl,h⟩
 ·have h:=h.2 (Zkn hb)
  refine Vc.skip ?_
  refine Vc.seq ?_
  refine Vc.seq ?_
  refine Vc.region ?_
  refine Zb3 3 [(6,(Value.int .i64 (Za (t10+1)))),(15,(Value.int .i64 (Za (t10+1)))),(14,(Value.int .i64 t10))] kR ?_
  refine Zbg ?_
  refine Vc.block ?_
  obtain⟨vI,mu,h,hr⟩:=h
  refine Vc.loopJ (σ:=Int×Int) [5,6] [7,16,17,18,19,20,21,22,23,24,25,26,27,28,29,30,31,32,33,34,35] (λs=> [(5,(Value.int .i64 s.1)),(6,(Value.int .i64 s.2))]) (λs w=>vI s.1 s.2 w) (λs w=>mu s.1 s.2 w) (t10,(Za (t10+1))) h (λ_=>rfl) kR ?_
  rintro⟨i,vj⟩ vw1 j h
  have h:=hr i vj vw1 h
  refine Vc.seq ?_
  refine Vc.seq ?_
  refine Vc.region ?_
  refine Zb3 4 [(19,(Value.bool (decide (vj<(vs.len:Int))))),(18,(Value.int .i64 (vs.len:Int))),(17,(Sl.v vs)),(16,(Value.int .i64 vj))] kR ?_
  refine Zbg ?_
  refine Vc.cond (decide (vj<(vs.len:Int))) kR (λhb=> ?_) (λhb=> ?_)
  ·have h:=h.1 (of_decide_eq_true hb)
   refine Vc.skip ?_
   obtain⟨vJ,hJ,h⟩:=Zt5 h
   refine Vc.seqJ (σ:=Int) [5] [7,22,23,24,25,26,27,28,29,30,31,32,33,34,35] (λs=> [(5,(Value.int .i64 s))]) (λs w=>vJ s w) (λ_=>rfl) ?_ ?_
   ·refine Vc.block ?_
    refine Vc.seq ?_
    refine Vc.region ?_
    refine Zb3 2 [(23,(Value.int .i64 vj)),(22,(Sl.v vs))] kR ?_
    obtain⟨ad,hi,h⟩:=h
    refine Zaw rfl rfl (Value.pointer (some (ad.add (vj.toNat*3)))) (λw=>by exact Zgt (s:=vs) (el:=50) rfl kR kR kR (λw=>kR) (hi).1 (hi).2.1 (hi).2.2 w) ?_
    obtain⟨zzx,zzy,zz10,hc,h⟩:=h
    refine Zit rfl rfl (Value.agg #[(Value.int .i64 zzx),(Value.int .i64 zzy),(Value.int .i64 zz10)]) (Zfk rfl kR (Zg1 (λw=>kR) (λw=>kR) ((hc)))) ?_
    refine Zdq rfl (Zmi rfl (λa=>Value.pointer (some a)) kR (newS.mono h λa vw4 hx h=> ?_))
    refine Zdq rfl (Zhq rfl rfl (a:=a) kR (v:=(Value.agg #[(Value.int .i64 zzx),(Value.int .i64 zzy),(Value.int .i64 zz10)])) kR [(Value.int .i64 zzx),(Value.int .i64 zzy),(Value.int .i64 zz10)] kR (λw=>kR) kR (stw.mono h λvw5 h=> ?_))
    refine Zbg ?_
    refine Vc.seq ?_
    refine Vc.region ?_
    refine Zaw rfl rfl del (λw=>kR) ?_
    obtain⟨zz2g,zz2h,zz2j,hc6,h⟩:=h
    refine Zit rfl rfl (Value.agg #[(Value.int .i64 zz2g),(Value.int .i64 zz2h),(Value.int .i64 zz2j)]) (Zfk rfl kR (Zg1 (λw=>kR) (λw=>kR) ((hc6)))) ?_
    refine Zdq rfl (Zra rfl rfl (fv:=del) kR (args:= [(Value.agg #[(Value.int .i64 zz2g),(Value.int .i64 zz2h),(Value.int .i64 zz2j)])]) kR (callV.mono h λv8 vw7 h=> ?_))
    obtain⟨t28,rfl,h⟩:=h
    refine Zaw rfl rfl (Value.bool (!t28)) (λw=>kR) ?_
    refine Zbg ?_
    refine Vc.cond (!t28) kR (λhb=> ?_) (λhb=> ?_)
    ·have h:=h.1 (hb)
     refine Vc.seq ?_
     refine Vc.region ?_
     refine Zb3 2 [(31,(Value.int .i64 i)),(30,(Sl.v vs))] kR ?_
     obtain⟨zz1h,zz1i,zz1j,hc10,h⟩:=h
     refine Zit rfl rfl (Value.agg #[(Value.int .i64 zz1h),(Value.int .i64 zz1i),(Value.int .i64 zz1j)]) (Zfk rfl kR (Zg1 (λw=>kR) (λw=>kR) ((hc10)))) ?_
     obtain⟨ad11,hi12,h⟩:=h
     refine Zaw rfl rfl (Value.pointer (some (ad11.add (i.toNat*3)))) (λw=>by exact Zgt (s:=vs) (el:=50) rfl kR kR kR (λw=>kR) (hi12).1 (hi12).2.1 (hi12).2.2 w) ?_
     refine Zdq rfl (Zhq rfl rfl (a:=(ad11.add (i.toNat*3))) kR (v:=(Value.agg #[(Value.int .i64 zz1h),(Value.int .i64 zz1i),(Value.int .i64 zz1j)])) kR [(Value.int .i64 zz1h),(Value.int .i64 zz1i),(Value.int .i64 zz1j)] kR (λw=>kR) kR (stw.mono h λvw13 h=> ?_))
     refine Zbg ?_
     refine Vc.region ?_
     refine Zb3 3 [(5,(Value.int .i64 (Za (i+1)))),(35,(Value.int .i64 (Za (i+1)))),(34,(Value.int .i64 i))] kR ?_
     refine Zbg ?_
     exact⟨(Za (i+1)),16,⟨rfl,kR,kR,kR⟩,h⟩
    ·have h:=h.2 (hb)
     refine Vc.skip ?_
     exact⟨i,9,⟨rfl,kR,kR,kR⟩,h⟩
   ·intro i2 vw3 j h
    subst hJ
    refine Vc.region ?_
    refine Zb3 3 [(6,(Value.int .i64 (Za (vj+1)))),(21,(Value.int .i64 (Za (vj+1)))),(20,(Value.int .i64 vj))] kR ?_
    refine Zbg ?_
    exact⟨(i2,(Za (vj+1))),46,⟨rfl,kR,kR,kR⟩,h⟩
  ·have h:=h.2 (of_decide_eq_false hb)
   refine Vc.exit ?_
   refine Zpo ?_
   refine Vc.seq ?_
   refine Vc.region ?_
   refine Zb3 2 [(37,(Value.int .i64 i)),(36,(Sl.v vs))] kR ?_
   obtain⟨hi14,h⟩:=h
   refine Zaw rfl rfl (Sl.v (Sl.cut vs i.toNat vs.len 3)) (λw=>by exact Znd (s:=vs) (el:=50) (k1:= .i64) rfl kR kR kR (λw=>kR) (hi14) w) ?_
   refine Zdq rfl (Zuf rfl (c:=Builtin.clear_ #[294] 0 #[(Sl.v (Sl.cut vs i.toNat vs.len 3))]) kR (semS.mono h λv16 vw15 h=> ?_))
   refine Zbg ?_
   refine Vc.seq ?_
   refine Vc.region ?_
   refine Zb3 2 [(40,(Value.int .i64 i)),(39,(Sl.v vs))] kR ?_
   obtain⟨hi17,h⟩:=h
   refine Zaw rfl rfl (Sl.v (Sl.cut vs 0 i.toNat 3)) (λw=>by exact Znc (s:=vs) (el:=50) (k2:= .i64) rfl kR kR kR (λw=>kR) (hi17) w) ?_
   refine Zaw rfl rfl (Sl.v (Sl.cut vs 0 i.toNat 3)) (λw=>kR) ?_
   refine Zbg ?_
   refine Vc.ret ?_
   refine Zmk ?_
   refine Zpb (Sl.v (Sl.cut vs 0 i.toNat 3)) (res1 (Zld kR)) ?_
   exact⟨(Sl.cut vs 0 i.toNat 3),rfl,h⟩
theorem Zf.go{a0:Sl}{u:Value}{w:World}{k:Value→World→Prop}(h:Zf a0 u w λa1 a2=>k (Sl.v a1) a2):callS prog 269 [Sl.v a0,u] w k:=(Zf.sound a0 u w _ h).mono (by rintro _ _ ⟨a1,rfl,h⟩; exact h)
def Zy(c5:Option Addr)(p:ByteArray)(c3:World)(c6:Sl→World→Prop):Prop:=
 ∃c4,c5=some c4∧ ∃l,ldc c3 c4 [.map l]∧semS prog (Instr.range 90 (Value.map l)) c3 λc7 c0=> ∃q,c7=(vP q)∧loop1 Sl.nil c0 λd b5 m=>semS prog (Instr.next (vP q) false 0) b5 λc1 h=> ∃b1 c b2 b3 b4 r s t u v x y,c1=nextV b1 (Zjh c b2 b3 b4) (Zm r s t u v x y)∧(Ib b1 (∃a e f g z a0 a1 a2 a3 a4 a5,(Zmv prog (Instr.entry (vP q)) h (Value.tuple #[(Zjh a e f g),(Zm z a0 a1 a2 a3 a4 a5)]))∧N95 h λc2 a6=>stw a6 c2 (Zg8 a e f g) λb=> ∃n,Lt b c2 n∧(If (n=p) (∃i j k,Liii b (c2.add 1) i j k∧newS b (Biii i j k) 50 λb6 a7=>appS prog 294 294 d (Sl.v (Sl.mk (some b6) 1 1)) a7 λb7 a8=>m b7 a8) (m d b))) (Cs 315 [Sl.v d,(Value.func (.func 316) #[] #[])] h λb8 a9=>b8= .tuple #[]∧Cs 276 [Sl.v d] a9 λb9 b0=> ∃o,b9=Sl.v o∧c6 o b0))
theorem Zy.sound(c:Option Addr)(name:ByteArray)(w:World)(R:Sl→World→Prop)(h:Zy c name w R):callS prog 270 [(Value.pointer c),(Value.string name)] w (λv w'=> ∃(r0:Sl),v=(Sl.v r0)∧R r0 w'):=by
 unfold Zy at h
 refine Zjj 29 rfl func270 rfl kR sI ?_
 refine Vc.seq ?_
 refine Vc.region ?_
 refine Zaw rfl rfl (Sl.v Sl.nil) (λw=>kR) ?_
 refine Zbg ?_
 refine Vc.seq ?_
 refine Vc.region ?_
 refine Zaw rfl rfl (Sl.v Sl.nil) (λw=>kR) ?_
 refine Zbg ?_
 refine Vc.seq ?_
 refine Vc.seq ?_
 refine Vc.region ?_
 refine Zaw rfl rfl (Value.pointer c) (λw=>kR) ?_
 obtain⟨p,hp,h⟩:=h
 refine Zaw rfl rfl (Value.pointer (some p)) (λw=>by exact Zl6 rfl kR (hp) w) ?_
 refine Zaw rfl rfl (Value.pointer (some p)) (λw=>kR) ?_
 obtain⟨t10,hc,h⟩:=h
 refine Zit rfl rfl (Value.map t10) (Zfk rfl kR (Zpz (λw=>kR) ((hc)))) ?_
 refine Zdq rfl (Zmj rfl (c:=Instr.range 90 (Value.map t10)) kR (semS.mono h λv vw h=> ?_))
 obtain⟨it,rfl,h⟩:=h
 refine Zbg ?_
 refine Vc.block ?_
 obtain⟨vI,mu,h,hr⟩:=h
 refine Vc.loopJ (σ:=Sl) [5] [6,12,13,14,15,16,17,18,19,20,21,22,23,24] (λs=> [(5,(Sl.v s))]) (λs w=>vI s w) (λs w=>mu s w) Sl.nil h (λ_=>rfl) kR ?_
 intro out vw1 j h
 have h:=hr out vw1 h
 refine Vc.seq ?_
 refine Vc.region ?_
 refine Zdq rfl (Zmj rfl (c:=Instr.next (Value.pointer (some it)) false 0) kR (semS.mono h λv3 vw2 h=> ?_))
 obtain⟨ok,key_name,zzi,zzj,zzk,zz1m,zz1p,zz1q,zz1r,zz1l,zz1o,zz1n,rfl,h⟩:=h
 refine Zaw rfl rfl (Value.bool ok) (λw=>by cases ok<;>kernel_rfl) ?_
 refine Zbg ?_
 refine Vc.seq ?_
 refine Vc.cond ok kR (λhb=> ?_) (λhb=> ?_)
 ·have hq:=h.1 (hb)
  clear h
  subst hb
  have h:=hq
  clear hq
  refine Vc.skip ?_
  refine Vc.block ?_
  refine Vc.seq ?_
  refine Vc.region ?_
  obtain⟨key_name4,zz1b,zz1c,zz1d,zz3o,zz3r,zz3s,zz3t,zz3n,zz3q,zz3p,hl,h⟩:=h
  refine Zit rfl rfl (Value.tuple #[(Value.agg #[(Value.string key_name4),(Value.int .i64 zz1b),(Value.int .i64 zz1c),(Value.int .i64 zz1d)]),(Value.agg #[(Value.string zz3o),(Value.int .i64 zz3r),(Value.int .i64 zz3s),(Value.int .i64 zz3t),(Sl.v zz3n),(Sl.v zz3q),(Sl.v zz3p)])]) (Zxh (c:=Instr.entry (Value.pointer (some it))) kR ((hl) _ (Ext.refl _))) ?_
  refine Zaw rfl rfl (Value.agg #[(Value.string key_name4),(Value.int .i64 zz1b),(Value.int .i64 zz1c),(Value.int .i64 zz1d)]) (λw=>kR) ?_
  refine Zdq rfl (Zmi rfl (λa=>Value.pointer (some a)) kR (newS.mono h λa vw15 hx h=> ?_))
  refine Zdq rfl (Zhq rfl rfl (a:=a) kR (v:=(Value.agg #[(Value.string key_name4),(Value.int .i64 zz1b),(Value.int .i64 zz1c),(Value.int .i64 zz1d)])) kR [(Value.string key_name4),(Value.int .i64 zz1b),(Value.int .i64 zz1c),(Value.int .i64 zz1d)] kR (λw=>kR) kR (stw.mono h λvw16 h=> ?_))
  refine Zbg ?_
  refine Vc.seq ?_
  refine Vc.region ?_
  refine Zaw rfl rfl (Value.pointer (some a)) (λw=>kR) ?_
  obtain⟨t17,hc17,h⟩:=h
  refine Zit rfl rfl (Value.string t17) (Zfk rfl kR (Zpz (λw=>kR) ((hc17)))) ?_
  refine Zb3 2 [(19,(Value.bool (bEq t17 name))),(18,(Value.string name))] kR ?_
  refine Zbg ?_
  refine Vc.cond (bEq t17 name) kR (λhb=> ?_) (λhb=> ?_)
  ·have h:=h.1 (Zap.1 hb)
   refine Vc.region ?_
   refine Zb3 2 [(21,(Value.pointer (some (a.add 1)))),(20,(Sl.v out))] kR ?_
   obtain⟨zz1e,zz1f,zz1g,hc18,h⟩:=h
   refine Zit rfl rfl (Value.agg #[(Value.int .i64 zz1e),(Value.int .i64 zz1f),(Value.int .i64 zz1g)]) (Zfk rfl kR (Zg1 (λw=>kR) (λw=>kR) ((hc18)))) ?_
   refine Zdq rfl (Zmi rfl (λa=>Value.slice (some a) 1 1) kR (newS.mono h λa19 vw20 hx h=> ?_))
   refine Zdq rfl (Zmj rfl (c:=Builtin.append_ #[294,294] 294 #[(Sl.v out),(Sl.v (Sl.mk (some a19) 1 1))]) kR (appS.elim (ty:=294) h λt24 vw21 h=> ?_))
   refine Zaw rfl rfl (Sl.v t24) (λw=>kR) ?_
   refine Zbg ?_
   exact⟨t24,30,⟨rfl,kR,kR,kR⟩,h⟩
  ·have h:=h.2 (Zs3.1 hb)
   refine Vc.skip ?_
   exact⟨out,24,⟨rfl,kR,kR,kR⟩,h⟩
 ·have hq:=h.2 (hb)
  clear h
  subst hb
  have h:=hq
  clear hq
  refine Vc.exit ?_
  refine Zpo ?_
  refine Vc.seq ?_
  refine Vc.region ?_
  refine Zaw rfl rfl (Sl.v out) (λw=>kR) ?_
  refine Zdq rfl (Zko rfl kR (callS.mono h λv23 vw22 h=> ?_))
  obtain⟨rfl,h⟩:=h
  refine Zbg ?_
  refine Vc.seq ?_
  refine Vc.region ?_
  refine Zaw rfl rfl (Sl.v out) (λw=>kR) ?_
  refine Zdq rfl (Zko rfl kR (callS.mono h λv25 vw24 h=> ?_))
  obtain⟨t28,rfl,h⟩:=h
  refine Zaw rfl rfl (Sl.v t28) (λw=>kR) ?_
  refine Zbg ?_
  refine Vc.ret ?_
  refine Zmk ?_
  refine Zpb (Sl.v t28) (res1 (Zld kR)) ?_
  exact⟨t28,rfl,h⟩
theorem Zy.go{c:Option Addr}{u:ByteArray}{w:World}{k:Value→World→Prop}(h:Zy c u w λa0 a1=>k (Sl.v a0) a1):callS prog 270 [.pointer c, .string u] w k:=(Zy.sound c u w _ h).mono (by rintro _ _ ⟨a0,rfl,h⟩; exact h)
def Za2(e f g:Int)(k:Addr)(l:World)(m:Bool→World→Prop):Prop:=
 newS l (Biii e f g) 50 λn d=> ∃i,Ls d k i∧ ∃a b c,Liii d n a b c∧Cs 218 [Sl.v i,(Aiii a b c)] d λo h=> ∃j,o= .bool j∧m (!j) h
theorem Za2.go{u a0 a1:Int}{c0:Addr}{w:World}{k:Value→World→Prop}(h:Za2 u a0 a1 c0 w λa2 a4=>k (Value.bool a2) a4):callS prog 271 [(.agg #[.int .i64 u, .int .i64 a0, .int .i64 a1]),(Value.pointer (some c0))] w k:=rgo (sk:=(.s (.r []) (.s (.r []) .o))) (args:= [sv (.agg #[.int .i64 u, .int .i64 a0, .int .i64 a1]),sa c0]) func271 (Eq.mpr kR h)
def Ze(c:Sl)(a:Value)(d:World)(e:World→Prop):Prop:=
 Cs 317 [Sl.v c,(vI (c.len:Int)),a] d λf b=>f= .tuple #[]∧e b
theorem Ze.go{x u w k}(h:Ze x u w λa0=>k (Value.tuple #[]) a0):Cs 272 [Sl.v x,u] w k:=rg (.r []) func272 h
def Za3(q r s t u v:Int)(x y:Addr)(a8:World)(a9:Int→World→Prop):Prop:=
 newS a8 (Biii q r s) 50 λb0 a6=>newS a6 (Biii t u v) 50 λa7 z=>Dr z λa=> ∃a4,Ls a x a4∧ ∃a5,Lt a y a5∧ ∃b c d,Liii a a7 b c d∧ ∃h,Ls a x h∧ ∃i,Lt a y i∧ ∃e f g,Liii a b0 e f g∧Cx 275 [Sl.v a4,(Zjh a5 b c d)] a λb1 a0=> ∃j,b1= .bool j∧Cx 274 [vB j] a0 λa1 n=> ∃k,a1= .int .i64 k∧Cs 275 [Sl.v h,(Zjh i e f g)] n λa2 o=> ∃l,a2= .bool l∧Cs 274 [vB l] o λa3 p=> ∃m,a3= .int .i64 m∧a9 (Za (k - m)) p
theorem Za3.go{u a0 a1 a2 a4 a5:Int}{c0 a6:Addr}{w:World}{k:Value→World→Prop}(h:Za3 u a0 a1 a2 a4 a5 c0 a6 w λa7 a8=>k (Value.int .i64 a7) a8):callS prog 273 [(.agg #[.int .i64 u, .int .i64 a0, .int .i64 a1]),(.agg #[.int .i64 a2, .int .i64 a4, .int .i64 a5]),(Value.pointer (some c0)),(Value.pointer (some a6))] w k:=rgo (sk:=(.s (.r []) (.s (.r []) .o))) (args:= [sv (.agg #[.int .i64 u, .int .i64 a0, .int .i64 a1]),sv (.agg #[.int .i64 a2, .int .i64 a4, .int .i64 a5]),sa c0,sa a6]) func273 (Eq.mpr kR h)
def Zfc(a:Bool)(b:World)(c:Int→World→Prop):Prop:=
 (Ib a (c 1 b) (c 0 b))
theorem Zfc.go{u w k}(h:Zfc u w λa0 a1=>k (vI a0) a1):Cs 274 [vB u] w k:=rg (.q (.s (.q (.k .y)) .y)) func274 h
def Zag(l:Sl)(e:ByteArray)(f g h:Int)(m:World)(n:Bool→World→Prop):Prop:=
 newS m (Zg8 e f g h) 111 λo i=> ∃a b c d,Zin i o a b c d∧Cs 318 [Sl.v l,(Zjh a b c d)] i λp j=> ∃k,p= .int .i64 k∧n (decide (0≤k)) j
theorem Zag.go{a4 u a0 a1 a2 w k}(h:Zag a4 u a0 a1 a2 w λa5 a6=>k (vB a5) a6):Cs 275 [Sl.v a4,(Zjh u a0 a1 a2)] w k:=rg (.q .y) func275 h
def Za8(a:Sl)(b:World)(c:Sl→World→Prop):Prop:=
 ((0:Int)≤0∧0≤(a.len:Int)∧(a.len:Int)≤(a.len:Int)∧(a.len:Int)≤(a.cap:Int))∧c (Sl.mk (if(a.len:Int).toNat=0 then a.a else a.a.map (·.add (0*3))) ((a.len:Int).toNat - 0) ((a.len:Int).toNat - 0)) b
theorem Za8.go{u w k}(h:Za8 u w λa0 a1=>k (Sl.v a0) a1):Cs 276 [Sl.v u] w k:=rg (.q .y) func276 h
def Z8(b:Sl)(d:Value)(e:World)(f:Bool→World→Prop):Prop:=
 Cs 319 [Sl.v b,d] e λg c=> ∃a,g= .int .i64 a∧f (decide (0≤a)) c
theorem Z8.go{u f w k}(h:Z8 u f w λa0 a1=>k (vB a0) a1):Cs 277 [Sl.v u,f] w k:=rg (.q .y) func277 h
def Zkv(p q r s t u:Int)(x:Addr)(a3:World)(a4:Bool→World→Prop):Prop:=
 newS a3 (Zrv p q r s t u) 210 λa2 v=> ∃d e f,Liii v a2 d e f∧ ∃g h i,Liii v x g h i∧Cs 141 [(Aiii d e f),(Aiii g h i)] v λa5 b=> ∃y,a5= .int .i64 y∧bnd (decide (y≤0)) λ(z:Bool)=> ∃j k l,Giii z b x j k l∧ ∃m n o,Giii z b (a2.add 3) m n o∧gCall z (λ(a:Int) (c:World)=>a4 (z&&(decide (a≤0))) c) (λa0=>Cs 141 [(Aiii j k l),(Aiii m n o)] b λa1 c=> ∃a,a1= .int .i64 a∧a0 a c) (λa0=>a0 0 b)
theorem Zkv.go{u a0 a1 a2 a4 a5:Int}{c0:Addr}{w:World}{k:Value→World→Prop}(h:Zkv u a0 a1 a2 a4 a5 c0 w λa6 a7=>k (Value.bool a6) a7):callS prog 278 [(.agg #[.int .i64 u, .int .i64 a0, .int .i64 a1, .int .i64 a2, .int .i64 a4, .int .i64 a5]),(Value.pointer (some c0))] w k:=rgo (sk:=(.s (.r []) (.s (.r []) .o))) (args:= [sv (.agg #[.int .i64 u, .int .i64 a0, .int .i64 a1, .int .i64 a2, .int .i64 a4, .int .i64 a5]),sa c0]) func278 (Eq.mpr kR h)
def Zja(b4:Sl)(b5:World)(b6:Sl→World→Prop):Prop:=
 loop2 Sl.nil 0 b5 λo d x a3=>(If (d<(b4.len:Int)) (∃b2,Ix b4 d b2∧ ∃a b,Lii x (b2.add (d.toNat*2)) a b∧N310 x λb3 a4=>stw a4 b3 [vI a,vI b] λp=> ∃s,Li p b3 s∧Cs 228 [vI s] p λb7 a5=> ∃e f g a1,b7=Zgr e f g a1∧N50 a5 λa6 a7=>stw a7 a6 (Biii e f g) λq=> ∃t,Li q (b3.add 1) t∧Cs 228 [vI t] q λa8 a9=> ∃u v h a2,a8=Zgr u v h a2∧N50 a9 λr y=>stw y r (Biii u v h) λc=> ∃i j k,Liii c a6 i j k∧ ∃l m n,Liii c r l m n∧newS c (Zrv i j k l m n) 210 λb0 z=>appS prog 200 200 o (Sl.v (Sl.mk (some b0) 1 1)) z λb1 a0=>a3 b1 (Za (d+1)) a0) (b6 o x))
theorem Zja.go{l w k}(h:Zja l w λu a0=>k (Sl.v u) a0):Cs 296 [Sl.v l] w k:=rg (.q (.q (.s (.q (.b (.l [(3,201),(12,4)] (.q (.s .x (.s (.b (.q (.q (.q (.r []))))) (.r []))))))) .y))) func296 h
def Zbf(b c:Value)(g:World)(h:Sl→World→Prop):Prop:=
 Cs 335 [b] g λi e=> ∃a,i=Sl.v a∧Cs 336 [Sl.v a,c] e λf d=>f= .tuple #[]∧h a d
theorem Zbf.go{u a0 w k}(h:Zbf u a0 w λa1 a2=>k (Sl.v a1) a2):Cs 297 [u,a0] w k:=rg (.q (.q (.q .y))) func297 h
def Za9(a:Sl)(c:World)(d:Value→World→Prop):Prop:=
 newS c [Sl.v a] 307 λe b=>d (Value.func (.func 337) #[] #[vP e]) b
theorem Za9.go{u w k}(h:Za9 u w λa0 a1=>k a0 a1):Cs 298 [Sl.v u] w k:=rg (.q .y) func298 h
def Zf5(b c d e:Int)(j:World)(k:Int→World→Prop):Prop:=
 newS j [vI b,vI c] 310 λl h=>newS h [vI d,vI e] 310 λi a=> ∃f,Li a l f∧ ∃g,Li a i g∧k (Za (f - g)) a
theorem Zf5.go{u a0 a1 a2 w k}(h:Zf5 u a0 a1 a2 w λa4 a5=>k (vI a4) a5):Cs 299 [(.agg #[vI u,vI a0]),(.agg #[vI a1,vI a2])] w k:=rg (.q .y) func299 h
def Z2(b:Sl)(m:Int)(c:Value)(y:World)(z:World→Prop):Prop:=
 loop2 0 20 y λx u n o=>(If (u≤m) (Cs 341 [Sl.v b,vI x,vI u,c] n λa0 p=>a0= .tuple #[]∧o u (Za (u+20)) p) (Cs 341 [Sl.v b,vI x,vI m,c] n λv q=>v= .tuple #[]∧loop1 20 q λa h j=>(If (a<m) (loop2 0 (Za (2*a)) h λd f e g=>(If (f≤m) (Cs 342 [Sl.v b,vI d,(vI (Za (d+a))),vI f,c] e λr k=>r= .tuple #[]∧g f (Za (f+(Za (2*a)))) k) (join (λ(i:World)=>j (Za (a*2)) i) λs=>(If ((Za (d+a))<m) (Cs 342 [Sl.v b,vI d,(vI (Za (d+a))),vI m,c] e λt l=>t= .tuple #[]∧s l) (s e))))) (z h))))
theorem Z2.go{u n a0 w k}(h:Z2 u n a0 w λa1=>k (Value.tuple #[]) a1):Cs 308 [Sl.v u,vI n,a0] w k:=rg (.q (.q (.s (.b (.l [(7,4),(8,4)] (.s (.q .x) (.b (.q (.q (.r []))))))) (.q (.b (.l [(6,4)] (.s (.q .x) (.b (.q (.s (.b (.l [(7,4),(8,4)] (.s (.q .x) (.b (.q (.q (.r []))))))) (.j [] (.q (.q (.c (.r []) .o))) (.r [])))))))))))) func308 h
def Zeb(a:ByteArray)(c:World)(d:Value→World→Prop):Prop:=
 newS c [vT a] 9 λe b=>d (Value.func (.func 310) #[] #[vP e]) b
theorem Zeb.go{u w k}(h:Zeb u w λa0 a1=>k a0 a1):Cs 309 [vT u] w k:=rg (.q .y) func309 h
def Zec(a:ByteArray)(b c d:Int)(h:Addr)(i:World)(j:Bool→World→Prop):Prop:=
 newS i (Zg8 a b c d) 111 λk e=> ∃f,Lt e k f∧ ∃g,Lt e h g∧j (bEq f g) e
theorem Zec.go{u:ByteArray}{a0 a1 a2:Int}{c0:Addr}{w:World}{k:Value→World→Prop}(h:Zec u a0 a1 a2 c0 w λa4 a5=>k (Value.bool a4) a5):callS prog 310 [(.agg #[.string u, .int .i64 a0, .int .i64 a1, .int .i64 a2]),(Value.pointer (some c0))] w k:=rgo (sk:=(.s (.r []) (.s (.r []) .o))) (args:= [sv (.agg #[.string u, .int .i64 a0, .int .i64 a1, .int .i64 a2]),sa c0]) func310 (Eq.mpr kR h)
def Zia(a0:ByteArray)(a1 a2 a3:Int)(q r s a4 a5 a6 a7:Sl)(b7:World)(b8:Sl→World→Prop):Prop:=
 newS b7 (Zaj a0 a1 a2 a3 q r s) 53 λb9 b5=>newS b5 (Zlf a4 a5 a6 a7) 55 λb6 l=> ∃z,Ls l (b9.add 5) z∧loop2 Sl.nil 0 l λm a c a8=>(If (a<(z.len:Int)) (∃b4,Ix z a b4∧ ∃d e,Lts c (b4.add (a.toNat*2)) d e∧N202 c λt a9=>stw a9 t [vT d,Sl.v e] λb0=>Dr b0 λb=> ∃n,Lt b t n∧ ∃f g h i,Zg9 b b6 f g h i∧ ∃j k,Lts b t j k∧Cx 261 [(Zez f g h i),(.agg #[vT j,Sl.v k])] b λc0 u=> ∃o,c0=Sl.v o∧newS u [vT n,Sl.v o] 202 λb1 v=>appS prog 51 51 m (Sl.v (Sl.mk (some b1) 1 1)) v λb2 x=>a8 b2 (Za (a+1)) x) (Cs 343 [Sl.v m] c λb3 y=> ∃p,b3=Sl.v p∧b8 p y))
theorem Zia.go{a2 a4 a5 a6 u a0 a1 a7 a8 a9 b0 w k}(h:Zia a2 a4 a5 a6 u a0 a1 a7 a8 a9 b0 w λb1 b2=>k (Sl.v b1) b2):Cs 311 [(Zm a2 a4 a5 a6 u a0 a1),(Zez a7 a8 a9 b0)] w k:=rg (.q (.q (.s (.q (.b (.l [(5,52),(11,4)] (.q (.s .x (.s (.b (.q (.r []))) (.r []))))))) .y))) func311 h
def Zfa(b:ByteArray)(c d e:Int)(f:ByteArray)(g h i:Int)(p:World)(q:Int→World→Prop):Prop:=
 newS p (Zg8 b c d e) 111 λr n=>newS n (Zg8 f g h i) 111 λo a=> ∃k,Lt a r k∧ ∃l,Lt a o l∧Cs 21 [vT k,vT l] a λs j=> ∃m,s= .int .i64 m∧q m j
theorem Zfa.go{u a0 a1 a2 a4 a5 a6 a7 w k}(h:Zfa u a0 a1 a2 a4 a5 a6 a7 w λa8 a9=>k (vI a8) a9):Cs 312 [(Zjh u a0 a1 a2),(Zjh a4 a5 a6 a7)] w k:=rg (.q .y) func312 h
def Zea(a:Sl)(b:World)(c:Sl→World→Prop):Prop:=
 ((0:Int)≤0∧0≤(a.len:Int)∧(a.len:Int)≤(a.len:Int)∧(a.len:Int)≤(a.cap:Int))∧c (Sl.mk (if(a.len:Int).toNat=0 then a.a else a.a.map (·.add (0*4))) ((a.len:Int).toNat - 0) ((a.len:Int).toNat - 0)) b
theorem Zea.go{u w k}(h:Zea u w λa0 a1=>k (Sl.v a0) a1):Cs 313 [Sl.v u] w k:=rg (.q .y) func313 h
def Zz(h:Sl)(l:Value)(m:World)(k:Int→World→Prop):Prop:=
 loop1 0 m λa g i=>(If (a<(h.len:Int)) (∃j,Ix h a j∧ ∃b c d,Liii g (j.add (a.toNat*3)) b c d∧callV prog l [(Aiii b c d)] g λn e=> ∃f,n= .bool f∧(Ib f (k a e) (i (Za (a+1)) e))) (k (-1) g))
theorem Zz.go{u f w k}(h:Zz u f w λa0 a1=>k (vI a0) a1):Cs 314 [Sl.v u,f] w k:=rg (.q (.s (.q (.b (.l [(8,4)] (.q (.s .x (.s (.b (.q (.q (.k .y)))) (.r []))))))) .y)) func314 h
def Ze2(h i j k l m:Int)(r:World)(s:Int→World→Prop):Prop:=
 newS r (Biii h i j) 50 λt p=>newS p (Biii k l m) 50 λq a=> ∃b c d,Liii a q b c d∧ ∃e f g,Liii a t e f g∧Cs 141 [(Aiii b c d),(Aiii e f g)] a λu n=> ∃o,u= .int .i64 o∧s o n
theorem Ze2.go{u a0 a1 a2 a4 a5 w k}(h:Ze2 u a0 a1 a2 a4 a5 w λa6 a7=>k (vI a6) a7):Cs 316 [(Aiii u a0 a1),(Aiii a2 a4 a5)] w k:=rg (.q .y) func316 h
def Zu(b:Sl)(m:Int)(c:Value)(y:World)(z:World→Prop):Prop:=
 loop2 0 20 y λx u n o=>(If (u≤m) (Cs 345 [Sl.v b,vI x,vI u,c] n λa0 p=>a0= .tuple #[]∧o u (Za (u+20)) p) (Cs 345 [Sl.v b,vI x,vI m,c] n λv q=>v= .tuple #[]∧loop1 20 q λa h j=>(If (a<m) (loop2 0 (Za (2*a)) h λd f e g=>(If (f≤m) (Cs 346 [Sl.v b,vI d,(vI (Za (d+a))),vI f,c] e λr k=>r= .tuple #[]∧g f (Za (f+(Za (2*a)))) k) (join (λ(i:World)=>j (Za (a*2)) i) λs=>(If ((Za (d+a))<m) (Cs 346 [Sl.v b,vI d,(vI (Za (d+a))),vI m,c] e λt l=>t= .tuple #[]∧s l) (s e))))) (z h))))
theorem Zu.go{u n a0 w k}(h:Zu u n a0 w λa1=>k (Value.tuple #[]) a1):Cs 317 [Sl.v u,vI n,a0] w k:=rg (.q (.q (.s (.b (.l [(7,4),(8,4)] (.s (.q .x) (.b (.q (.q (.r []))))))) (.q (.b (.l [(6,4)] (.s (.q .x) (.b (.q (.s (.b (.l [(7,4),(8,4)] (.s (.q .x) (.b (.q (.q (.r []))))))) (.j [] (.q (.q (.c (.r []) .o))) (.r [])))))))))))) func317 h
def Zbs(p:Sl)(l:ByteArray)(m n o:Int)(u:World)(t:Int→World→Prop):Prop:=
 newS u (Zg8 l m n o) 111 λv s=>loop1 0 s λb k q=>(If (b<(p.len:Int)) (Dr k λa=> ∃c d e f,Zin a v c d e f∧ ∃r,Ix p b r∧ ∃g h i j,Zin a (r.add (b.toNat*4)) g h i j∧(Ib ((bEq c g)&&(((d==h)&&((e==i)&&((f==j)&&true)))&&true)) (t b a) (q (Za (b+1)) a))) (t (-1) k))
theorem Zbs.go{a4 u a0 a1 a2 w k}(h:Zbs a4 u a0 a1 a2 w λa5 a6=>k (vI a5) a6):Cs 318 [Sl.v a4,(Zjh u a0 a1 a2)] w k:=rg (.q (.s (.q (.b (.l [(8,4)] (.q (.s .x (.s (.b (.q (.q (.k .y)))) (.r []))))))) .y)) func318 h
def Zan(k:Sl)(o:Value)(p:World)(n:Int→World→Prop):Prop:=
 loop1 0 p λa j l=>(If (a<(k.len:Int)) (∃m,Ix k a m∧ ∃b c d e f g,Zln j (m.add (a.toNat*6)) b c d e f g∧callV prog o [(Z62 b c d e f g)] j λq h=> ∃i,q= .bool i∧(Ib i (n a h) (l (Za (a+1)) h))) (n (-1) j))
theorem Zan.go{u f w k}(h:Zan u f w λa0 a1=>k (vI a0) a1):Cs 319 [Sl.v u,f] w k:=rg (.q (.s (.q (.b (.l [(8,4)] (.q (.s .x (.s (.b (.q (.q (.k .y)))) (.r []))))))) .y)) func319 h
def Zb2(a:Value)(d:World)(e:Sl→World→Prop):Prop:=
 Cs 355 [(Sl.v Sl.nil),a] d λf c=> ∃b,f=Sl.v b∧e b c
theorem Zb2.go{u w k}(h:Zb2 u w λa0 a1=>k (Sl.v a0) a1):Cs 335 [u] w k:=rg (.q .y) func335 h
def Zj(b:Sl)(a9 b0:Int)(a2:Value)(b1:World)(b2:World→Prop):Prop:=
 loop1 (Za (a9+1)) b1 λa7 a3 a4=>(If (a7<b0) (loop1 a7 a3 λa a5 z=>Dr a5 λe=>bnd (decide (a9<a)) λ(f:Bool)=> ∃a6,Gx f b a a6∧ ∃h i j,Gtis f e (a6.add (a.toNat*3)) h i j∧ ∃y,Gx f b (Za (a - 1)) y∧ ∃k l m,Gtis f e (y.add ((Za (a - 1)).toNat*3)) k l m∧gCall f (λ(c:Int) (d:World)=>(Ib (f&&(decide (c<0))) (Dr d λg=> ∃n,Ix b (Za (a - 1)) n∧ ∃o p q,Ltis g (n.add ((Za (a - 1)).toNat*3)) o p q∧ ∃r,Ix b a r∧ ∃s t u,Ltis g (r.add (a.toNat*3)) s t u∧ ∃v,Ix b a v∧stw g (v.add (a.toNat*3)) (Btis o p q) λa0=> ∃x,Ix b (Za (a - 1)) x∧stw a0 (x.add ((Za (a - 1)).toNat*3)) (Btis s t u) λa1=>z (Za (a - 1)) a1) (a4 (Za (a7+1)) d))) (λa8=>callV prog a2 [(Atis h i j),(Atis k l m)] e λb3 d=> ∃c,b3= .int .i64 c∧a8 c d) (λa8=>a8 0 e)) (b2 a3))
theorem Zj.go{u a b a0 w k}(h:Zj u a b a0 w λa1=>k (Value.tuple #[]) a1):Cs 341 [Sl.v u,vI a,vI b,a0] w k:=rg (.q (.b (.l [(8,4)] (.s (.q .x) (.s (.b (.q (.b (.l [(9,4)] (.s (.q .x) (.s (.b (.r [])) (.r []))))))) (.r [])))))) func341 h
def Zq(b:Sl)(g i k:Int)(j:Value)(h5:World)(h6:World→Prop):Prop:=
 (If ((Za (i - g))=1) (loop2 i k h5 λf5 r g7 e8=>(If (f5<r) (Dr g7 λu=> ∃h4,Ix b (IntKind.wrap .i64 (Int.fdiv (IntKind.wrap .u64 (Za (f5+r))) (2 ^ 1))) h4∧ ∃a3 a4 a5,Ltis u (h4.add ((IntKind.wrap .i64 (Int.fdiv (IntKind.wrap .u64 (Za (f5+r))) (2 ^ 1))).toNat*3)) a3 a4 a5∧ ∃f1,Ix b g f1∧ ∃a6 a7 a8,Ltis u (f1.add (g.toNat*3)) a6 a7 a8∧callV prog j [(Atis a3 a4 a5),(Atis a6 a7 a8)] u λh8 e9=> ∃f2,h8= .int .i64 f2∧(If (f2<0) (e8 (Za ((IntKind.wrap .i64 (Int.fdiv (IntKind.wrap .u64 (Za (f5+r))) (2 ^ 1)))+1)) r e9) (e8 f5 (IntKind.wrap .i64 (Int.fdiv (IntKind.wrap .u64 (Za (f5+r))) (2 ^ 1))) e9))) (loop1 g g7 λh f0 f6=>(If (h<(Za (f5 - 1))) (Dr f0 λv=> ∃f3,Ix b (Za (h+1)) f3∧ ∃a9 b0 b1,Ltis v (f3.add ((Za (h+1)).toNat*3)) a9 b0 b1∧ ∃b2,Ix b h b2∧ ∃b3 b4 b5,Ltis v (b2.add (h.toNat*3)) b3 b4 b5∧ ∃b6,Ix b h b6∧stw v (b6.add (h.toNat*3)) (Btis a9 b0 b1) λf7=> ∃b7,Ix b (Za (h+1)) b7∧stw f7 (b7.add ((Za (h+1)).toNat*3)) (Btis b3 b4 b5) λf8=>f6 (Za (h+1)) f8) (h6 f0))))) ((If ((Za (k - i))=1) (loop2 g i h5 λf d x p=>(If (f<d) (Dr x λl=> ∃b8,Ix b i b8∧ ∃b9 c0 c1,Ltis l (b8.add (i.toNat*3)) b9 c0 c1∧ ∃c2,Ix b (IntKind.wrap .i64 (Int.fdiv (IntKind.wrap .u64 (Za (f+d))) (2 ^ 1))) c2∧ ∃c3 c4 c5,Ltis l (c2.add ((IntKind.wrap .i64 (Int.fdiv (IntKind.wrap .u64 (Za (f+d))) (2 ^ 1))).toNat*3)) c3 c4 c5∧callV prog j [(Atis b9 c0 c1),(Atis c3 c4 c5)] l λg8 y=> ∃c6,g8= .int .i64 c6∧(If (¬(c6<0)) (p (Za ((IntKind.wrap .i64 (Int.fdiv (IntKind.wrap .u64 (Za (f+d))) (2 ^ 1)))+1)) d y) (p f (IntKind.wrap .i64 (Int.fdiv (IntKind.wrap .u64 (Za (f+d))) (2 ^ 1))) y))) (loop1 i x λc z e7=>(If (f<c) (Dr z λm=> ∃c7,Ix b (Za (c - 1)) c7∧ ∃c8 c9 d0,Ltis m (c7.add ((Za (c - 1)).toNat*3)) c8 c9 d0∧ ∃d1,Ix b c d1∧ ∃d2 d3 d4,Ltis m (d1.add (c.toNat*3)) d2 d3 d4∧ ∃d5,Ix b c d5∧stw m (d5.add (c.toNat*3)) (Btis c8 c9 d0) λf9=> ∃d6,Ix b (Za (c - 1)) d6∧stw f9 (d6.add ((Za (c - 1)).toNat*3)) (Btis d2 d3 d4) λg0=>e7 (Za (c - 1)) g0) (h6 z))))) (join (λ(e6 h7:Int) (f4:World)=>loop2 e6 h7 f4 λa e n q=>(If (a<e) (Dr n λo=> ∃d7,Ix b (Za ((Za ((Za ((IntKind.wrap .i64 (Int.fdiv (IntKind.wrap .u64 (Za (g+k))) (2 ^ 1)))+i)) - 1)) - (IntKind.wrap .i64 (Int.fdiv (IntKind.wrap .u64 (Za (a+e))) (2 ^ 1))))) d7∧ ∃d8 d9 e0,Ltis o (d7.add ((Za ((Za ((Za ((IntKind.wrap .i64 (Int.fdiv (IntKind.wrap .u64 (Za (g+k))) (2 ^ 1)))+i)) - 1)) - (IntKind.wrap .i64 (Int.fdiv (IntKind.wrap .u64 (Za (a+e))) (2 ^ 1))))).toNat*3)) d8 d9 e0∧ ∃e1,Ix b (IntKind.wrap .i64 (Int.fdiv (IntKind.wrap .u64 (Za (a+e))) (2 ^ 1))) e1∧ ∃e2 e3 e4,Ltis o (e1.add ((IntKind.wrap .i64 (Int.fdiv (IntKind.wrap .u64 (Za (a+e))) (2 ^ 1))).toNat*3)) e2 e3 e4∧callV prog j [(Atis d8 d9 e0),(Atis e2 e3 e4)] o λg9 a0=> ∃e5,g9= .int .i64 e5∧(If (¬(e5<0)) (q (Za ((IntKind.wrap .i64 (Int.fdiv (IntKind.wrap .u64 (Za (a+e))) (2 ^ 1)))+1)) e a0) (q a (IntKind.wrap .i64 (Int.fdiv (IntKind.wrap .u64 (Za (a+e))) (2 ^ 1))) a0))) (join (λ(s:World)=>join (λ(t:World)=>bnd (decide ((IntKind.wrap .i64 (Int.fdiv (IntKind.wrap .u64 (Za (g+k))) (2 ^ 1)))<(Za ((Za ((IntKind.wrap .i64 (Int.fdiv (IntKind.wrap .u64 (Za (g+k))) (2 ^ 1)))+i)) - a)))) λ(g4:Bool)=>(Ib (g4&&(decide ((Za ((Za ((IntKind.wrap .i64 (Int.fdiv (IntKind.wrap .u64 (Za (g+k))) (2 ^ 1)))+i)) - a))<k))) (Cs 342 [Sl.v b,(vI (IntKind.wrap .i64 (Int.fdiv (IntKind.wrap .u64 (Za (g+k))) (2 ^ 1)))),(vI (Za ((Za ((IntKind.wrap .i64 (Int.fdiv (IntKind.wrap .u64 (Za (g+k))) (2 ^ 1)))+i)) - a))),vI k,j] t λh0 g1=>h0= .tuple #[]∧h6 g1) (h6 t))) λh1=>bnd (decide (g<a)) λ(g5:Bool)=>(Ib (g5&&(decide (a<(IntKind.wrap .i64 (Int.fdiv (IntKind.wrap .u64 (Za (g+k))) (2 ^ 1)))))) (Cs 342 [Sl.v b,vI g,vI a,(vI (IntKind.wrap .i64 (Int.fdiv (IntKind.wrap .u64 (Za (g+k))) (2 ^ 1)))),j] s λh2 g2=>h2= .tuple #[]∧h1 g2) (h1 s))) λa1=>bnd (decide (a<i)) λ(g6:Bool)=>(Ib (g6&&(decide (i<(Za ((Za ((IntKind.wrap .i64 (Int.fdiv (IntKind.wrap .u64 (Za (g+k))) (2 ^ 1)))+i)) - a))))) (Cs 358 [Sl.v b,vI a,vI i,(vI (Za ((Za ((IntKind.wrap .i64 (Int.fdiv (IntKind.wrap .u64 (Za (g+k))) (2 ^ 1)))+i)) - a))),j] n λh3 g3=>h3= .tuple #[]∧a1 g3) (a1 n))))) λa2=>(If ((IntKind.wrap .i64 (Int.fdiv (IntKind.wrap .u64 (Za (g+k))) (2 ^ 1)))<i) (a2 (Za ((Za ((IntKind.wrap .i64 (Int.fdiv (IntKind.wrap .u64 (Za (g+k))) (2 ^ 1)))+i)) - k)) (IntKind.wrap .i64 (Int.fdiv (IntKind.wrap .u64 (Za (g+k))) (2 ^ 1))) h5) (a2 g i h5))))))
theorem Zq.go{u a m b a0 w k}(h:Zq u a m b a0 w λa1=>k (Value.tuple #[]) a1):Cs 342 [Sl.v u,vI a,vI m,vI b,a0] w k:=rg (.s (.q (.c (.q (.q (.s (.b (.l [(10,4),(11,4)] (.s (.q .x) (.b (.q (.q (.c (.r []) (.r [])))))))) (.s (.q (.b (.l [(13,4)] (.s (.q .x) (.s (.b (.r [])) (.r [])))))) .o)))) .o)) (.s (.q (.c (.q (.q (.s (.b (.l [(14,4),(15,4)] (.s (.q .x) (.b (.q (.q (.c (.r []) (.r [])))))))) (.s (.q (.b (.l [(17,4)] (.s (.q .x) (.s (.b (.r [])) (.r [])))))) .o)))) .o)) (.q (.q (.q (.j [(20,4),(21,4)] (.q (.c (.q (.r [])) (.q (.r [])))) (.q (.s (.b (.l [(20,4),(21,4)] (.s (.q .x) (.b (.q (.q (.c (.r []) (.r [])))))))) (.q (.j [] (.q (.c (.r []) .o)) (.j [] (.q (.c (.r []) .o)) (.q (.c (.r []) .o))))))))))))) func342 h
def Zd9(a:Sl)(b:World)(c:Sl→World→Prop):Prop:=
 ((0:Int)≤0∧0≤(a.len:Int)∧(a.len:Int)≤(a.len:Int)∧(a.len:Int)≤(a.cap:Int))∧c (Sl.mk (if(a.len:Int).toNat=0 then a.a else a.a.map (·.add (0*2))) ((a.len:Int).toNat - 0) ((a.len:Int).toNat - 0)) b
theorem Zd9.go{u w k}(h:Zd9 u w λa0 a1=>k (Sl.v a0) a1):Cs 343 [Sl.v u] w k:=rg (.q .y) func343 h
def Zh(b:Sl)(a9 b0:Int)(a2:Value)(b1:World)(b2:World→Prop):Prop:=
 loop1 (Za (a9+1)) b1 λa7 a3 a4=>(If (a7<b0) (loop1 a7 a3 λa a5 z=>Dr a5 λe=>bnd (decide (a9<a)) λ(f:Bool)=> ∃a6,Gx f b a a6∧ ∃h i j,Giii f e (a6.add (a.toNat*3)) h i j∧ ∃y,Gx f b (Za (a - 1)) y∧ ∃k l m,Giii f e (y.add ((Za (a - 1)).toNat*3)) k l m∧gCall f (λ(c:Int) (d:World)=>(Ib (f&&(decide (c<0))) (Dr d λg=> ∃n,Ix b (Za (a - 1)) n∧ ∃o p q,Liii g (n.add ((Za (a - 1)).toNat*3)) o p q∧ ∃r,Ix b a r∧ ∃s t u,Liii g (r.add (a.toNat*3)) s t u∧ ∃v,Ix b a v∧stw g (v.add (a.toNat*3)) (Biii o p q) λa0=> ∃x,Ix b (Za (a - 1)) x∧stw a0 (x.add ((Za (a - 1)).toNat*3)) (Biii s t u) λa1=>z (Za (a - 1)) a1) (a4 (Za (a7+1)) d))) (λa8=>callV prog a2 [(Aiii h i j),(Aiii k l m)] e λb3 d=> ∃c,b3= .int .i64 c∧a8 c d) (λa8=>a8 0 e)) (b2 a3))
theorem Zh.go{u a b a0 w k}(h:Zh u a b a0 w λa1=>k (Value.tuple #[]) a1):Cs 345 [Sl.v u,vI a,vI b,a0] w k:=rg (.q (.b (.l [(8,4)] (.s (.q .x) (.s (.b (.q (.b (.l [(9,4)] (.s (.q .x) (.s (.b (.r [])) (.r []))))))) (.r [])))))) func345 h
def Zl(b:Sl)(g i k:Int)(j:Value)(h5:World)(h6:World→Prop):Prop:=
 (If ((Za (i - g))=1) (loop2 i k h5 λf5 r g7 e8=>(If (f5<r) (Dr g7 λu=> ∃h4,Ix b (IntKind.wrap .i64 (Int.fdiv (IntKind.wrap .u64 (Za (f5+r))) (2 ^ 1))) h4∧ ∃a3 a4 a5,Liii u (h4.add ((IntKind.wrap .i64 (Int.fdiv (IntKind.wrap .u64 (Za (f5+r))) (2 ^ 1))).toNat*3)) a3 a4 a5∧ ∃f1,Ix b g f1∧ ∃a6 a7 a8,Liii u (f1.add (g.toNat*3)) a6 a7 a8∧callV prog j [(Aiii a3 a4 a5),(Aiii a6 a7 a8)] u λh8 e9=> ∃f2,h8= .int .i64 f2∧(If (f2<0) (e8 (Za ((IntKind.wrap .i64 (Int.fdiv (IntKind.wrap .u64 (Za (f5+r))) (2 ^ 1)))+1)) r e9) (e8 f5 (IntKind.wrap .i64 (Int.fdiv (IntKind.wrap .u64 (Za (f5+r))) (2 ^ 1))) e9))) (loop1 g g7 λh f0 f6=>(If (h<(Za (f5 - 1))) (Dr f0 λv=> ∃f3,Ix b (Za (h+1)) f3∧ ∃a9 b0 b1,Liii v (f3.add ((Za (h+1)).toNat*3)) a9 b0 b1∧ ∃b2,Ix b h b2∧ ∃b3 b4 b5,Liii v (b2.add (h.toNat*3)) b3 b4 b5∧ ∃b6,Ix b h b6∧stw v (b6.add (h.toNat*3)) (Biii a9 b0 b1) λf7=> ∃b7,Ix b (Za (h+1)) b7∧stw f7 (b7.add ((Za (h+1)).toNat*3)) (Biii b3 b4 b5) λf8=>f6 (Za (h+1)) f8) (h6 f0))))) ((If ((Za (k - i))=1) (loop2 g i h5 λf d x p=>(If (f<d) (Dr x λl=> ∃b8,Ix b i b8∧ ∃b9 c0 c1,Liii l (b8.add (i.toNat*3)) b9 c0 c1∧ ∃c2,Ix b (IntKind.wrap .i64 (Int.fdiv (IntKind.wrap .u64 (Za (f+d))) (2 ^ 1))) c2∧ ∃c3 c4 c5,Liii l (c2.add ((IntKind.wrap .i64 (Int.fdiv (IntKind.wrap .u64 (Za (f+d))) (2 ^ 1))).toNat*3)) c3 c4 c5∧callV prog j [(Aiii b9 c0 c1),(Aiii c3 c4 c5)] l λg8 y=> ∃c6,g8= .int .i64 c6∧(If (¬(c6<0)) (p (Za ((IntKind.wrap .i64 (Int.fdiv (IntKind.wrap .u64 (Za (f+d))) (2 ^ 1)))+1)) d y) (p f (IntKind.wrap .i64 (Int.fdiv (IntKind.wrap .u64 (Za (f+d))) (2 ^ 1))) y))) (loop1 i x λc z e7=>(If (f<c) (Dr z λm=> ∃c7,Ix b (Za (c - 1)) c7∧ ∃c8 c9 d0,Liii m (c7.add ((Za (c - 1)).toNat*3)) c8 c9 d0∧ ∃d1,Ix b c d1∧ ∃d2 d3 d4,Liii m (d1.add (c.toNat*3)) d2 d3 d4∧ ∃d5,Ix b c d5∧stw m (d5.add (c.toNat*3)) (Biii c8 c9 d0) λf9=> ∃d6,Ix b (Za (c - 1)) d6∧stw f9 (d6.add ((Za (c - 1)).toNat*3)) (Biii d2 d3 d4) λg0=>e7 (Za (c - 1)) g0) (h6 z))))) (join (λ(e6 h7:Int) (f4:World)=>loop2 e6 h7 f4 λa e n q=>(If (a<e) (Dr n λo=> ∃d7,Ix b (Za ((Za ((Za ((IntKind.wrap .i64 (Int.fdiv (IntKind.wrap .u64 (Za (g+k))) (2 ^ 1)))+i)) - 1)) - (IntKind.wrap .i64 (Int.fdiv (IntKind.wrap .u64 (Za (a+e))) (2 ^ 1))))) d7∧ ∃d8 d9 e0,Liii o (d7.add ((Za ((Za ((Za ((IntKind.wrap .i64 (Int.fdiv (IntKind.wrap .u64 (Za (g+k))) (2 ^ 1)))+i)) - 1)) - (IntKind.wrap .i64 (Int.fdiv (IntKind.wrap .u64 (Za (a+e))) (2 ^ 1))))).toNat*3)) d8 d9 e0∧ ∃e1,Ix b (IntKind.wrap .i64 (Int.fdiv (IntKind.wrap .u64 (Za (a+e))) (2 ^ 1))) e1∧ ∃e2 e3 e4,Liii o (e1.add ((IntKind.wrap .i64 (Int.fdiv (IntKind.wrap .u64 (Za (a+e))) (2 ^ 1))).toNat*3)) e2 e3 e4∧callV prog j [(Aiii d8 d9 e0),(Aiii e2 e3 e4)] o λg9 a0=> ∃e5,g9= .int .i64 e5∧(If (¬(e5<0)) (q (Za ((IntKind.wrap .i64 (Int.fdiv (IntKind.wrap .u64 (Za (a+e))) (2 ^ 1)))+1)) e a0) (q a (IntKind.wrap .i64 (Int.fdiv (IntKind.wrap .u64 (Za (a+e))) (2 ^ 1))) a0))) (join (λ(s:World)=>join (λ(t:World)=>bnd (decide ((IntKind.wrap .i64 (Int.fdiv (IntKind.wrap .u64 (Za (g+k))) (2 ^ 1)))<(Za ((Za ((IntKind.wrap .i64 (Int.fdiv (IntKind.wrap .u64 (Za (g+k))) (2 ^ 1)))+i)) - a)))) λ(g4:Bool)=>(Ib (g4&&(decide ((Za ((Za ((IntKind.wrap .i64 (Int.fdiv (IntKind.wrap .u64 (Za (g+k))) (2 ^ 1)))+i)) - a))<k))) (Cs 346 [Sl.v b,(vI (IntKind.wrap .i64 (Int.fdiv (IntKind.wrap .u64 (Za (g+k))) (2 ^ 1)))),(vI (Za ((Za ((IntKind.wrap .i64 (Int.fdiv (IntKind.wrap .u64 (Za (g+k))) (2 ^ 1)))+i)) - a))),vI k,j] t λh0 g1=>h0= .tuple #[]∧h6 g1) (h6 t))) λh1=>bnd (decide (g<a)) λ(g5:Bool)=>(Ib (g5&&(decide (a<(IntKind.wrap .i64 (Int.fdiv (IntKind.wrap .u64 (Za (g+k))) (2 ^ 1)))))) (Cs 346 [Sl.v b,vI g,vI a,(vI (IntKind.wrap .i64 (Int.fdiv (IntKind.wrap .u64 (Za (g+k))) (2 ^ 1)))),j] s λh2 g2=>h2= .tuple #[]∧h1 g2) (h1 s))) λa1=>bnd (decide (a<i)) λ(g6:Bool)=>(Ib (g6&&(decide (i<(Za ((Za ((IntKind.wrap .i64 (Int.fdiv (IntKind.wrap .u64 (Za (g+k))) (2 ^ 1)))+i)) - a))))) (Cs 366 [Sl.v b,vI a,vI i,(vI (Za ((Za ((IntKind.wrap .i64 (Int.fdiv (IntKind.wrap .u64 (Za (g+k))) (2 ^ 1)))+i)) - a))),j] n λh3 g3=>h3= .tuple #[]∧a1 g3) (a1 n))))) λa2=>(If ((IntKind.wrap .i64 (Int.fdiv (IntKind.wrap .u64 (Za (g+k))) (2 ^ 1)))<i) (a2 (Za ((Za ((IntKind.wrap .i64 (Int.fdiv (IntKind.wrap .u64 (Za (g+k))) (2 ^ 1)))+i)) - k)) (IntKind.wrap .i64 (Int.fdiv (IntKind.wrap .u64 (Za (g+k))) (2 ^ 1))) h5) (a2 g i h5))))))
theorem Zl.go{u a m b a0 w k}(h:Zl u a m b a0 w λa1=>k (Value.tuple #[]) a1):Cs 346 [Sl.v u,vI a,vI m,vI b,a0] w k:=rg (.s (.q (.c (.q (.q (.s (.b (.l [(10,4),(11,4)] (.s (.q .x) (.b (.q (.q (.c (.r []) (.r [])))))))) (.s (.q (.b (.l [(13,4)] (.s (.q .x) (.s (.b (.r [])) (.r [])))))) .o)))) .o)) (.s (.q (.c (.q (.q (.s (.b (.l [(14,4),(15,4)] (.s (.q .x) (.b (.q (.q (.c (.r []) (.r [])))))))) (.s (.q (.b (.l [(17,4)] (.s (.q .x) (.s (.b (.r [])) (.r [])))))) .o)))) .o)) (.q (.q (.q (.j [(20,4),(21,4)] (.q (.c (.q (.r [])) (.q (.r [])))) (.q (.s (.b (.l [(20,4),(21,4)] (.s (.q .x) (.b (.q (.q (.c (.r []) (.r [])))))))) (.q (.j [] (.q (.c (.r []) .o)) (.j [] (.q (.c (.r []) .o)) (.q (.c (.r []) .o))))))))))))) func346 h
def Za6(a:Sl)(m e n:Int)(c:Value)(o:World)(p:World→Prop):Prop:=
 loop2 (Za (e - m)) (Za (n - e)) o λd b g f=>(If (¬d=b) ((If (b<d) (Cs 384 [Sl.v a,(vI (Za (e - d))),vI e,vI b,c] g λq h=>q= .tuple #[]∧f (Za (d - b)) b h) (Cs 384 [Sl.v a,(vI (Za (e - d))),(vI (Za ((Za (e+b)) - d))),vI d,c] g λk i=>k= .tuple #[]∧f d (Za (b - d)) i))) (Cs 384 [Sl.v a,(vI (Za (e - d))),vI e,vI d,c] g λl j=>l= .tuple #[]∧p j))
theorem Za6.go{u a m b a0 w k}(h:Za6 u a m b a0 w λa1=>k (Value.tuple #[]) a1):Cs 358 [Sl.v u,vI a,vI m,vI b,a0] w k:=rg (.q (.q (.s (.b (.l [(10,4),(11,4)] (.s (.q .x) (.b (.q (.c (.q (.r [])) (.q (.r [])))))))) (.r [])))) func358 h
def Zao(a:Sl)(m e n:Int)(c:Value)(o:World)(p:World→Prop):Prop:=
 loop2 (Za (e - m)) (Za (n - e)) o λd b g f=>(If (¬d=b) ((If (b<d) (Cs 388 [Sl.v a,(vI (Za (e - d))),vI e,vI b,c] g λq h=>q= .tuple #[]∧f (Za (d - b)) b h) (Cs 388 [Sl.v a,(vI (Za (e - d))),(vI (Za ((Za (e+b)) - d))),vI d,c] g λk i=>k= .tuple #[]∧f d (Za (b - d)) i))) (Cs 388 [Sl.v a,(vI (Za (e - d))),vI e,vI d,c] g λl j=>l= .tuple #[]∧p j))
theorem Zao.go{u a m b a0 w k}(h:Zao u a m b a0 w λa1=>k (Value.tuple #[]) a1):Cs 366 [Sl.v u,vI a,vI m,vI b,a0] w k:=rg (.q (.q (.s (.b (.l [(10,4),(11,4)] (.s (.q .x) (.b (.q (.c (.q (.r [])) (.q (.r [])))))))) (.r [])))) func366 h
def Zv(a:Sl)(r s u:Int)(t:Value)(v:World)(x:World→Prop):Prop:=
 loop1 0 v λi n o=>(If (i<u) (Dr n λb=> ∃q,Ix a (Za (s+i)) q∧ ∃c d e,Ltis b (q.add ((Za (s+i)).toNat*3)) c d e∧ ∃j,Ix a (Za (r+i)) j∧ ∃f g h,Ltis b (j.add ((Za (r+i)).toNat*3)) f g h∧ ∃k,Ix a (Za (r+i)) k∧stw b (k.add ((Za (r+i)).toNat*3)) (Btis c d e) λp=> ∃l,Ix a (Za (s+i)) l∧stw p (l.add ((Za (s+i)).toNat*3)) (Btis f g h) λm=>o (Za (i+1)) m) (x n))
theorem Zv.go{u a b n a0 w k}(h:Zv u a b n a0 w λa1=>k (Value.tuple #[]) a1):Cs 384 [Sl.v u,vI a,vI b,vI n,a0] w k:=rg (.q (.b (.l [(10,4)] (.s (.q .x) (.s (.b (.r [])) (.r [])))))) func384 h
def Zo(a:Sl)(r s u:Int)(t:Value)(v:World)(x:World→Prop):Prop:=
 loop1 0 v λi n o=>(If (i<u) (Dr n λb=> ∃q,Ix a (Za (s+i)) q∧ ∃c d e,Liii b (q.add ((Za (s+i)).toNat*3)) c d e∧ ∃j,Ix a (Za (r+i)) j∧ ∃f g h,Liii b (j.add ((Za (r+i)).toNat*3)) f g h∧ ∃k,Ix a (Za (r+i)) k∧stw b (k.add ((Za (r+i)).toNat*3)) (Biii c d e) λp=> ∃l,Ix a (Za (s+i)) l∧stw p (l.add ((Za (s+i)).toNat*3)) (Biii f g h) λm=>o (Za (i+1)) m) (x n))
theorem Zo.go{u a b n a0 w k}(h:Zo u a b n a0 w λa1=>k (Value.tuple #[]) a1):Cs 388 [Sl.v u,vI a,vI b,vI n,a0] w k:=rg (.q (.b (.l [(10,4)] (.s (.q .x) (.s (.b (.r [])) (.r [])))))) func388 h
end Go.Hal.SE
