/- Lemmas for the claim K21r: how the program's functions run, and what they answer; no condition but those that each theorem names. -/
import Derived.Test.YtdjiedhnoanbpaaGreatDoorProg
import Derived.Test.YtdjiedhnoanbpaaGreatDoorK21rA0
set_option linter.unusedVariables false
set_option linter.unusedSimpArgs false
set_option maxHeartbeats 16000000
namespace Go.Hal.SE
open Go.Proofs.Tryz
open Go Go.RowKit Go.Hal Go.Proofs
set_option maxRecDepth 100000
namespace Eq1
theorem Z3u(d:Nat)(a0:Int)(a1:Int)(a2:Int)(b0:Int)(b1:Int)(b2:Int)(w:World):(Op.equalIn (d+2) 50 (.agg #[(Value.int .i64 a0),(Value.int .i64 a1),(Value.int .i64 a2)]) (.agg #[(Value.int .i64 b0),(Value.int .i64 b1),(Value.int .i64 b2)])).run prog w= .ok ((a0==b0)&&((a1==b1)&&((a2==b2)&&true))) w:=
 (eqS kR kR (fs:= [⟨ "Major",3,0,false, "", "",0⟩,⟨ "Minor",3,1,false, "", "",8⟩,⟨ "Patch",3,2,false, "", "",16⟩]) kR (Zr (x:=(Value.int .i64 a0)) (y:=(Value.int .i64 b0)) rfl kR kR (run_equalIn_int w _ 3 .i64 .i64 a0 b0 kR) (Zr (x:=(Value.int .i64 a1)) (y:=(Value.int .i64 b1)) rfl kR kR (run_equalIn_int w _ 3 .i64 .i64 a1 b1 kR) (Zr (x:=(Value.int .i64 a2)) (y:=(Value.int .i64 b2)) rfl kR kR (run_equalIn_int w _ 3 .i64 .i64 a2 b2 kR) Zeh))))
theorem Z3v(d:Nat)(a0:ByteArray)(a1:Int)(a2:Int)(a3:Int)(b0:ByteArray)(b1:Int)(b2:Int)(b3:Int)(w:World):(Op.equalIn (d+3) 78 (.agg #[(Value.string a0),(Value.int .i64 a1),(Value.int .i64 a2),(Value.int .i64 a3)]) (.agg #[(Value.string b0),(Value.int .i64 b1),(Value.int .i64 b2),(Value.int .i64 b3)])).run prog w= .ok ((bEq a0 b0)&&(((a1==b1)&&((a2==b2)&&((a3==b3)&&true)))&&true)) w:=
 (eqS kR kR (fs:= [⟨ "Name",9,0,false, "", "",0⟩,⟨ "Version",50,1,false, "", "",16⟩]) kR (Zr (x:=(Value.string a0)) (y:=(Value.string b0)) rfl kR kR (run_equalIn_string w _ 9 a0 b0 kR) (Zr (x:=(Value.agg #[(Value.int .i64 a1),(Value.int .i64 a2),(Value.int .i64 a3)])) (y:=(Value.agg #[(Value.int .i64 b1),(Value.int .i64 b2),(Value.int .i64 b3)])) rfl kR kR (eqS kR kR (fs:= [⟨ "Major",3,0,false, "", "",0⟩,⟨ "Minor",3,1,false, "", "",8⟩,⟨ "Patch",3,2,false, "", "",16⟩]) kR (Zr (x:=(Value.int .i64 a1)) (y:=(Value.int .i64 b1)) rfl kR kR (run_equalIn_int w _ 3 .i64 .i64 a1 b1 kR) (Zr (x:=(Value.int .i64 a2)) (y:=(Value.int .i64 b2)) rfl kR kR (run_equalIn_int w _ 3 .i64 .i64 a2 b2 kR) (Zr (x:=(Value.int .i64 a3)) (y:=(Value.int .i64 b3)) rfl kR kR (run_equalIn_int w _ 3 .i64 .i64 a3 b3 kR) Zeh)))) Zeh)))
theorem Z79(d:Nat)(a0:Int)(a1:Int)(b0:Int)(b1:Int)(w:World):(Op.equalIn (d+2) 236 (.agg #[(Value.int .i64 a0),(Value.int .i64 a1)]) (.agg #[(Value.int .i64 b0),(Value.int .i64 b1)])).run prog w= .ok ((a0==b0)&&((a1==b1)&&true)) w:=
 (eqS kR kR (fs:= [⟨ "lo",3,0,false, "", "halyard/span",0⟩,⟨ "hi",3,1,false, "", "halyard/span",8⟩]) kR (Zr (x:=(Value.int .i64 a0)) (y:=(Value.int .i64 b0)) rfl kR kR (run_equalIn_int w _ 3 .i64 .i64 a0 b0 kR) (Zr (x:=(Value.int .i64 a1)) (y:=(Value.int .i64 b1)) rfl kR kR (run_equalIn_int w _ 3 .i64 .i64 a1 b1 kR) Zeh)))
end Eq1
open Eq1
def Zcg(v x y z a0 a1:Int)(a9:World)(a6:Int→World→Prop):Prop:=
 newS a9 (Biii v x y) 50 λa7 a8=>newS a8 (Biii z a0 a1) 50 λt c=> ∃a4,Li c a7 a4∧ ∃k,Li c (a7.add 1) k∧ ∃l,Li c (a7.add 2) l∧newS c (Biii a4 k l) 3 λa2 d=> ∃m,Li d t m∧ ∃n,Li d (t.add 1) n∧ ∃o,Li d (t.add 2) o∧newS d (Biii m n o) 3 λj u=>loop1 0 u λi e a3=>(If (i<3) (Dr e λa=> ∃a5,Ix (Sl.mk (some a2) 3 3) i a5∧ ∃p,Li a (a5.add (i.toNat*1)) p∧ ∃f,Ix (Sl.mk (some j) 3 3) i f∧ ∃q,Li a (f.add (i.toNat*1)) q∧(If (p<q) (a6 (-1) a) (Dr a λb=> ∃g,Ix (Sl.mk (some a2) 3 3) i g∧ ∃r,Li b (g.add (i.toNat*1)) r∧ ∃h,Ix (Sl.mk (some j) 3 3) i h∧ ∃s,Li b (h.add (i.toNat*1)) s∧(If (s<r) (a6 1 b) (a3 (Za (i+1)) b))))) (a6 0 e))
theorem Zcg.go{u a0 a1 a2 a3 a4 w k}(h:Zcg u a0 a1 a2 a3 a4 w λa5 a6=>k (vI a5) a6):Cs 49 [(Aiii u a0 a1),(Aiii a2 a3 a4)] w k:=rg (.q (.q (.q (.s (.q (.b (.l [(7,4)] (.s (.q .x) (.s (.b (.s (.q (.k .y)) (.q (.k .y)))) (.r [])))))) .y)))) func49 h
def Ze7(j k l m:Sl)(u:World)(s:ByteArray→Int→World→Prop):Prop:=
 newS u (Zgq j k l m) 25 λt n=> ∃b c d e,Zdz n t b c d e∧Cs 14 [(Zby b c d e)] n λv a=> ∃p,v= .bool p∧(Ib (!p) (s (ByteArray.mk #[]) 25 a) (∃f g h i,Zdz a t f g h i∧Cs 28 [(Zby f g h i)] a λr o=> ∃q,r= .string q∧s q 0 o))
theorem Ze7.go{u a0 a1 a2 w k}(h:Ze7 u a0 a1 a2 w λa3 a4 a5=>k (Value.tuple #[vT a3,vI a4]) a5):Cs 50 [(Zby u a0 a1 a2)] w k:=rg (.q (.s (.q (.k .y)) .y)) func50 h
def Zin(e5:Sl)(g7:World)(g5:ByteArray→Int→World→Prop):Prop:=
 newS g7 [Sl.v e5] 38 λg6 f1=> ∃v,Ls f1 g6 v∧Cs 104 [(.agg #[Sl.v v])] f1 λg8 c2=> ∃c4,g8= .bool c4∧(Ib (!c4) (g5 (ByteArray.mk #[]) 33 c2) (N161 c2 λp f2=>callS prog 77 [vP p,(vT (ByteArray.mk #[108,111,99,107,10]))] f2 λg4 c3=> ∃e6 c7,g4=(Value.tuple #[vI e6,c7])∧ ∃x,Ls c3 g6 x∧loop1 0 c3 λe r f3=>(If (e<(x.len:Int)) (∃g3,Ix x e g3∧ ∃y z a0 a1 a2 a3,Zjg r (g3.add (e.toNat*6)) y z a0 a1 a2 a3∧N72 r λf d2=>stw d2 f (Ziy y z a0 a1 a2 a3) λs=>join (λ(q:World)=> ∃a4,Ls q (f.add 4) a4∧loop1 0 q λk d c0=>(If (k<(a4.len:Int)) (∃a5,Ix a4 k a5∧ ∃a6 a7 a8 a9,Zfh d (a5.add (k.toNat*4)) a6 a7 a8 a9∧N78 d λt d3=>stw d3 t (Ze4 a6 a7 a8 a9) λd4=>Dr d4 λg=> ∃a,Lt g t a∧((((ByteArray.mk #[119,105,116,104,32]).size+a.size:Nat):Int)≤maxI)∧(((((ByteArray.mk #[119,105,116,104,32])++a).size+(ByteArray.mk #[32]).size:Nat):Int)≤maxI)∧ ∃b0 b1 b2,Liii g (t.add 1) b0 b1 b2∧Cx 99 [(Aiii b0 b1 b2)] g λf4 d5=> ∃m,f4= .string m∧((((((ByteArray.mk #[119,105,116,104,32])++a)++(ByteArray.mk #[32])).size+m.size:Nat):Int)≤maxI)∧(((((((ByteArray.mk #[119,105,116,104,32])++a)++(ByteArray.mk #[32]))++m).size+(ByteArray.mk #[10]).size:Nat):Int)≤maxI)∧callS prog 77 [vP p,(vT (((((ByteArray.mk #[119,105,116,104,32])++a)++(ByteArray.mk #[32]))++m)++(ByteArray.mk #[10])))] d5 λf5 d6=> ∃e7 c8,f5=(Value.tuple #[vI e7,c8])∧c0 (Za (k+1)) d6) (∃b3,Ls d (f.add 5) b3∧loop1 0 d λl h c1=>(If (l<(b3.len:Int)) (∃b4,Ix b3 l b4∧ ∃b5 b6,Lti h (b4.add (l.toNat*2)) b5 b6∧N80 h λu d7=>stw d7 u [vT b5,vI b6] λd8=>Dr d8 λi=> ∃b,Lt i u b∧((((ByteArray.mk #[116,111,32]).size+b.size:Nat):Int)≤maxI)∧(((((ByteArray.mk #[116,111,32])++b).size+(ByteArray.mk #[32]).size:Nat):Int)≤maxI)∧ ∃c5,Li i (u.add 1) c5∧Cx 105 [vI c5] i λf6 d9=> ∃n,f6= .string n∧((((((ByteArray.mk #[116,111,32])++b)++(ByteArray.mk #[32])).size+n.size:Nat):Int)≤maxI)∧(((((((ByteArray.mk #[116,111,32])++b)++(ByteArray.mk #[32]))++n).size+(ByteArray.mk #[10]).size:Nat):Int)≤maxI)∧callS prog 77 [vP p,(vT (((((ByteArray.mk #[116,111,32])++b)++(ByteArray.mk #[32]))++n)++(ByteArray.mk #[10])))] d9 λf7 e0=> ∃e8 c9,f7=(Value.tuple #[vI e8,c9])∧c1 (Za (l+1)) e0) (f3 (Za (e+1)) h))))) λf8=>(If (e=0) (callS prog 77 [vP p,(vT (ByteArray.mk #[114,111,111,116,10]))] s λf9 e1=> ∃e9 d0,f9=(Value.tuple #[vI e9,d0])∧f8 e1) (Dr s λj=> ∃c,Lt j f c∧((((ByteArray.mk #[110,111,100,101,32]).size+c.size:Nat):Int)≤maxI)∧(((((ByteArray.mk #[110,111,100,101,32])++c).size+(ByteArray.mk #[32]).size:Nat):Int)≤maxI)∧ ∃b7 b8 b9,Liii j (f.add 1) b7 b8 b9∧Cx 99 [(Aiii b7 b8 b9)] j λg0 e2=> ∃o,g0= .string o∧((((((ByteArray.mk #[110,111,100,101,32])++c)++(ByteArray.mk #[32])).size+o.size:Nat):Int)≤maxI)∧(((((((ByteArray.mk #[110,111,100,101,32])++c)++(ByteArray.mk #[32]))++o).size+(ByteArray.mk #[10]).size:Nat):Int)≤maxI)∧callS prog 77 [vP p,(vT (((((ByteArray.mk #[110,111,100,101,32])++c)++(ByteArray.mk #[32]))++o)++(ByteArray.mk #[10])))] e2 λg1 e3=> ∃f0 d1,g1=(Value.tuple #[vI f0,d1])∧f8 e3))) (Cs 80 [vP p] r λg2 e4=> ∃c6,g2= .string c6∧g5 c6 0 e4))))
theorem Zin.go{u w k}(h:Zin u w λa0 a1 a2=>k (Value.tuple #[vT a0,vI a1]) a2):Cs 51 [(.agg #[Sl.v u])] w k:=rg (.q (.s (.q (.k .y)) (.q (.q (.s (.q (.b (.l [(18,4)] (.q (.s .x (.s (.b (.q (.j [] (.q (.c (.r []) (.r []))) (.s (.q (.b (.l [(39,4)] (.q (.s .x (.s (.b (.q (.r []))) (.r []))))))) (.q (.b (.l [(57,4)] (.q (.s .x (.s (.b (.q (.r []))) (.r []))))))))))) (.r []))))))) .y))))) func51 h
def Zgf(a5 a6 a7 a8 a9 b0:Sl)(b1:Bool)(c4:World)(c3:Bool→World→Prop):Prop:=
 newS c4 (Z2 a5 a6 a7 a8 a9 b0 b1) 57 λc2 b3=> ∃j,Ls b3 (c2.add 5) j∧ ∃k,Ls b3 (c2.add 4) k∧Cs 106 [(.agg #[Sl.v j]),(.agg #[Sl.v k])] b3 λc5 h=> ∃z l,c5=Z4a z l∧(If (¬l=0) (c3 false h) (∃m,Ls h (c2.add 5) m∧loop1 0 h λa i b6=>(If (a<(m.len:Int)) (∃c1,Ix m a c1∧ ∃n o p q r s t u v,Zih i (c1.add (a.toNat*9)) n o p q r s t u v∧N104 i λb4 b7=>stw b7 b4 (Zed n o p q r s t u v) λb8=>Dr b8 λc=> ∃x,Ix z a x∧ ∃a0,Li c (x.add (a.toNat*1)) a0∧ ∃a1,Li c (b4.add 8) a1∧bnd (!(a0==a1)) λ(b2:Bool)=>bnd (decide (0<a)) λ(b:Bool)=> ∃a2,Gs ((!b2)&&b) c (c2.add 5) a2∧ ∃y,Gx ((!b2)&&b) a2 (Za (a - 1)) y∧ ∃a3,Gs ((!b2)&&b) c (y.add ((Za (a - 1)).toNat*9)) a3∧ ∃a4,Gs ((!b2)&&b) c b4 a4∧gCall ((!b2)&&b) (λ(f:ByteArray) (d:World)=>gCall ((!b2)&&b) (λ(g:ByteArray) (e:World)=>(Ib (b2||(b&&(!bLt f g))) (c3 false e) (b6 (Za (a+1)) e))) (λb5=>Cs 54 [Sl.v a4] d λb9 e=> ∃g,b9= .string g∧b5 g e) (λb5=>b5 (ByteArray.mk #[]) d)) (λb5=>Cx 54 [Sl.v a3] c λc0 d=> ∃f,c0= .string f∧b5 f d) (λb5=>b5 (ByteArray.mk #[]) c)) (c3 true i))))
theorem Zgf.go{u a0 a1 a2 a3 a4 a5 w k}(h:Zgf u a0 a1 a2 a3 a4 a5 w λa6 a7=>k (vB a6) a7):Cs 52 [(Zae u a0 a1 a2 a3 a4 a5)] w k:=rg (.q (.q (.s (.q (.k .y)) (.s (.q (.b (.l [(21,4)] (.q (.s .x (.s (.b (.q (.q (.k .y)))) (.r []))))))) .y)))) func52 h
def Zhi(i j k l m n:Sl)(o:Bool)(u:World)(v:Bool→World→Prop):Prop:=
 newS u (Z2 i j k l m n o) 57 λs r=> ∃b c d e,Zdz r s b c d e∧Cs 63 [(Zby b c d e),(.agg #[(Sl.v Sl.nil),(Sl.v Sl.nil),(Sl.v Sl.nil),(Sl.v Sl.nil)])] r λx a=> ∃p,x= .bool p∧ ∃f,Gs p a (s.add 4) f∧bnd (p&&((f.len:Int)==1)) λ(t:Bool)=> ∃g,Gs t a (s.add 5) g∧bnd (t&&((g.len:Int)==1)) λ(q:Bool)=> ∃h,Gb q a (s.add 6) h∧v (q&&(!h)) a
theorem Zhi.go{u a0 a1 a2 a3 a4 a5 w k}(h:Zhi u a0 a1 a2 a3 a4 a5 w λa6 a7=>k (vB a6) a7):Cs 53 [(Zae u a0 a1 a2 a3 a4 a5)] w k:=rg (.q (.s (.r [7]) .o)) func53 h
def Zhu(a:Sl)(x:World)(r:ByteArray→World→Prop):Prop:=
 (If ((a.len:Int)=0) (r (ByteArray.mk #[47]) x) (N161 x λs t=>loop1 0 t λb c l=>(If (b<(a.len:Int)) (∃q,Ix a b q∧ ∃d,Lt c (q.add (b.toNat*1)) d∧Cs 39 [vT d] c λy e=> ∃f,y= .bool f∧(Ib (!f) (r (ByteArray.mk #[]) e) (callS prog 77 [vP s,(vT (ByteArray.mk #[47,109,111,100,117,108,101,115,47]))] e λu m=> ∃j h,u=(Value.tuple #[vI j,h])∧callS prog 77 [vP s,vT d] m λv n=> ∃k i,v=(Value.tuple #[vI k,i])∧l (Za (b+1)) n))) (Cs 80 [vP s] c λo p=> ∃g,o= .string g∧r g p))))
theorem Zhu.go{u w k}(h:Zhu u w λa0 a1=>k (vT a0) a1):Cs 54 [Sl.v u] w k:=rg (.q (.s (.q (.k .y)) (.q (.s (.q (.b (.l [(11,4)] (.q (.s .x (.s (.b (.q (.s (.q (.k .y)) (.q (.r []))))) (.r []))))))) .y)))) func54 h
def Zg6(b0:Sl)(c3:World)(c1:Sl→World→Prop):Prop:=
 newS c3 [Sl.v b0] 38 λc2 a6=> ∃a1,Ls a6 c2 a1∧(If ((a1.len:Int)=0) (c1 Sl.nil a6) (semS prog (Instr.makeMap 206 none) a6 λc4 a0=> ∃h,c4= .map h∧ ∃a,Ls a0 c2 a∧((0:Int)≤1∧1≤(a.len:Int))∧loop2 Sl.nil 0 a0 λg c i b2=>(If (c<((Sl.cut a ((1:Int).toNat) a.len 6).len:Int)) (join (λ(a5:Sl) (b1:World)=>b2 a5 (Za (c+1)) b1) λb3=> ∃b9,Ix (Sl.cut a ((1:Int).toNat) a.len 6) c b9∧ ∃j k l m n o,Zjg i (b9.add (c.toNat*6)) j k l m n o∧N72 i λd b4=>stw b4 d (Ziy j k l m n o) λe=> ∃a2,Lt e d a2∧ ∃p q r,Liii e (d.add 1) p q r∧semS prog (Instr.lookup 206 (Value.map h) (Zfw a2 p q r) true) e λb5 b=> ∃c0 s,b5=Ztl c0 s∧(Ib (!s) (∃a3,Lt b d a3∧ ∃t u v,Liii b (d.add 1) t u v∧semU prog (Instr.mapUpdate 206 (Value.map h) (Zfw a3 t u v) (vI c)) b λf=> ∃a4,Lt f d a4∧ ∃x y z,Liii f (d.add 1) x y z∧newS f (Ze4 a4 x y z) 78 λb6 a7=>appS prog 26 26 g (Sl.v (Sl.mk (some b6) 1 1)) a7 λb7 a8=>b3 b7 a8) (b3 g b))) (Cs 115 [Sl.v g,(Value.func (.func 116) #[] #[])] i λb8 a9=>b8= .tuple #[]∧c1 g a9))))
theorem Zg6.go{u w k}(h:Zg6 u w λa0 a1=>k (Sl.v a0) a1):Cs 60 [(.agg #[Sl.v u])] w k:=rg (.q (.s (.q (.k .y)) (.q (.q (.s (.q (.b (.l [(4,27),(18,4)] (.q (.s .x (.j [(4,27)] (.b (.q (.q (.q (.c (.q (.r [])) .o))))) (.r []))))))) (.q .y)))))) func60 h
def Zhr(k0 k1 k2 k3 b5:Sl)(i3:Option Addr)(a8:Bool)(k4:Int)(l8 l9:ByteArray)(k5:Int)(k6:ByteArray)(m0:Int)(n1:World)(m1:Sl→Sl→Sl→Sl→Sl→Option Addr→Bool→Int→World→Prop):Prop:=
 newS n1 (Zdc k0 k1 k2 k3 b5 i3 a8) 97 λa9 n0=>newS n0 (Zqi k4 l8 l9 k5 k6 m0) 64 λi4 m2=>N97 m2 λv i5=> ∃m9,Lt i5 (i4.add 1) m9∧Cs 39 [vT m9] i5 λn2 b1=> ∃i7,n2= .bool i7∧(Ib (!i7) (∃c1 c2 c3 c4 l x b,Zax b1 a9 c1 c2 c3 c4 l x b∧stw b1 v (Zdc c1 c2 c3 c4 l x b) λi6=> ∃i8 i9 j0 j1 a7 b3 m,Zax i6 v i8 i9 j0 j1 a7 b3 m∧m1 i8 i9 j0 j1 a7 b3 m 23 i6) (∃c5 c6 c7 c8 c9 d0,Znj b1 i4 c5 c6 c7 c8 c9 d0∧Cs 118 [(Zix c5 c6 c7 c8 c9 d0)] b1 λm3 k7=> ∃d1 d2 b0,m3=Z06 d1 d2 b0∧N152 k7 λb2 k8=>stw k8 b2 [vT d1,Sl.v d2] λk=>(If (¬b0=0) (∃d3 d4 d5 d6 n y c,Zax k a9 d3 d4 d5 d6 n y c∧stw k v (Zdc d3 d4 d5 d6 n y c) λb7=> ∃d7 d8 d9 e0 o z d,Zax b7 v d7 d8 d9 e0 o z d∧m1 d7 d8 d9 e0 o z d b0 b7) (∃e1 e2 e3 e4,Zdz k a9 e1 e2 e3 e4∧ ∃j2,Lt k (i4.add 1) j2∧Cs 62 [(Zby e1 e2 e3 e4),vT j2] k λm4 k9=> ∃e5 e6 e7 e8,m4=Zxz e5 e6 e7 e8∧stw k9 a9 (Zgq e5 e6 e7 e8) λa=>join (λ(b6:World)=> ∃e9 f0 f1 f2,Zdz b6 a9 e9 f0 f1 f2∧Cs 14 [(Zby e9 f0 f1 f2)] b6 λm5 a6=> ∃j3,m5= .bool j3∧(Ib (!j3) (∃f3 f4 f5 f6 p a0 e,Zax a6 a9 f3 f4 f5 f6 p a0 e∧stw a6 v (Zdc f3 f4 f5 f6 p a0 e) λb8=> ∃f7 f8 f9 g0 q a1 f,Zax b8 v f7 f8 f9 g0 q a1 f∧m1 f7 f8 f9 g0 q a1 f 26 b8) (∃g1 g2 g3 g4 r a2 g,Zax a6 a9 g1 g2 g3 g4 r a2 g∧stw a6 v (Zdc g1 g2 g3 g4 r a2 g) λb9=> ∃g5 g6 g7 g8 s a3 h,Zax b9 v g5 g6 g7 g8 s a3 h∧m1 g5 g6 g7 g8 s a3 h 0 b9))) λl0=> ∃b4,Li a (i4.add 3) b4∧(If (b4=0) (∃j4,Ls a a9 j4∧ ∃g9 h0,Lts a b2 g9 h0∧Cs 119 [Sl.v j4,(.agg #[vT g9,Sl.v h0])] a λm6 l1=> ∃j5,m6=Sl.v j5∧stw l1 a9 [Sl.v j5] λl2=>l0 l2) ((If (b4=1) (∃j6,Ls a (a9.add 1) j6∧ ∃h1 h2,Lts a b2 h1 h2∧Cs 119 [Sl.v j6,(.agg #[vT h1,Sl.v h2])] a λm7 l3=> ∃j7,m7=Sl.v j7∧stw l3 (a9.add 1) [Sl.v j7] λl4=>stw l4 (a9.add 6) [vB false] λl5=>l0 l5) ((If (b4=2) (∃j8,Ls a (a9.add 2) j8∧ ∃h3 h4,Lts a b2 h3 h4∧Cs 119 [Sl.v j8,(.agg #[vT h3,Sl.v h4])] a λm8 l6=> ∃j9,m8=Sl.v j9∧stw l6 (a9.add 2) [Sl.v j9] λl7=>l0 l7) (∃h5 h6 h7 h8 t a4 i,Zax a a9 h5 h6 h7 h8 t a4 i∧stw a v (Zdc h5 h6 h7 h8 t a4 i) λc0=> ∃h9 i0 i1 i2 u a5 j,Zax c0 v h9 i0 i1 i2 u a5 j∧m1 h9 i0 i1 i2 u a5 j 1 c0))))))))))
theorem Zhr.go{a2 a3 a4 a5 a0 a1 u a6 a9 b0 a7 a8 b1 w k}(h:Zhr a2 a3 a4 a5 a0 a1 u a6 a9 b0 a7 a8 b1 w λb2 b3 b4 b5 b6 b7 b8 b9 c0=>k (Value.tuple #[(Zj8 b2 b3 b4 b5 b6 b7 b8),vI b9]) c0):Cs 61 [(Zj8 a2 a3 a4 a5 a0 a1 u),(Zix a6 a9 b0 a7 a8 b1)] w k:=rg (.q (.s (.q (.k .y)) (.q (.s (.q (.k .y)) (.q (.j [] (.q (.b (.q (.c (.r []) (.q (.c (.q (.r [])) (.q (.c (.r []) .y)))))))) (.s (.q (.k .y)) .y))))))) func61 h
def Zg9(u v x y:Sl)(a:ByteArray)(a8:World)(a9:Sl→Sl→Sl→Sl→World→Prop):Prop:=
 newS a8 (Zgq u v x y) 25 λq a6=>N25 a6 λz a0=>Dr a0 λb=> ∃a4,Ls b q a4∧ ∃m,Ls b (q.add 1) m∧ ∃n,Ls b (q.add 2) n∧Cx 120 [Sl.v a4,vT a] b λb0 a1=> ∃a5,b0=Sl.v a5∧Cx 120 [Sl.v m,vT a] a1 λa7 a2=> ∃o,a7=Sl.v o∧Cs 120 [Sl.v n,vT a] a2 λa3 r=> ∃p,a3=Sl.v p∧stw r q [Sl.v a5] λs=>stw s (q.add 1) [Sl.v o] λt=>stw t (q.add 2) [Sl.v p] λc=> ∃e f g h,Zdz c q e f g h∧stw c z (Zgq e f g h) λd=> ∃i j k l,Zdz d z i j k l∧a9 i j k l d
theorem Zg9.go{a0 a1 a2 a3 u w k}(h:Zg9 a0 a1 a2 a3 u w λa4 a5 a6 a7 a8=>k (Zby a4 a5 a6 a7) a8):Cs 62 [(Zby a0 a1 a2 a3),vT u] w k:=rg (.q (.q .y)) func62 h
def Zez(t m n o p q r s:Sl)(a1:World)(a2:Bool→World→Prop):Prop:=
 newS a1 (Zgq t m n o) 25 λy z=>newS z (Zgq p q r s) 25 λf a=> ∃v,Ls a y v∧ ∃x,Ls a (y.add 1) x∧ ∃g,Ls a (y.add 2) g∧ ∃h,Ls a f h∧ ∃i,Ls a (f.add 1) i∧ ∃j,Ls a (f.add 2) j∧Cs 121 [(.agg #[(vT (ByteArray.mk #[])),vI 0,vI 0,vI 0,Sl.v v,Sl.v x,Sl.v g]),(.agg #[(vT (ByteArray.mk #[])),vI 0,vI 0,vI 0,Sl.v h,Sl.v i,Sl.v j])] a λa3 e=> ∃b,a3= .bool b∧ ∃k,Gs b e (y.add 3) k∧ ∃l,Gs b e (f.add 3) l∧gCall b (λ(d:Bool) (c:World)=>a2 (b&&d) c) (λa0=>Cs 121 [(.agg #[(vT (ByteArray.mk #[])),vI 0,vI 0,vI 0,Sl.v k,(Sl.v Sl.nil),(Sl.v Sl.nil)]),(.agg #[(vT (ByteArray.mk #[])),vI 0,vI 0,vI 0,Sl.v l,(Sl.v Sl.nil),(Sl.v Sl.nil)])] e λu c=> ∃d,u= .bool d∧a0 d c) (λa0=>a0 false e)
theorem Zez.go{a6 u a0 a1 a2 a3 a4 a5 w k}(h:Zez a6 u a0 a1 a2 a3 a4 a5 w λa7 a8=>k (vB a7) a8):Cs 63 [(Zby a6 u a0 a1),(Zby a2 a3 a4 a5)] w k:=rg (.q (.s (.r [20]) .o)) func63 h
def Zhd(a7:Sl)(c0:World)(b6:Int→World→Prop):Prop:=
 newS c0 [Sl.v a7] 55 λb5 f=> ∃b3,Ls f b5 b3∧bnd (decide ((b3.len:Int)<1)) λ(b9:Bool)=> ∃a3,Gs (!b9) f b5 a3∧(Ib (b9||(decide (257<(a3.len:Int)))) (b6 42 f) (∃h,Ls f b5 h∧loop1 0 f λa g a9=>(If (a<(h.len:Int)) (∃b4,Ix h a b4∧ ∃i j k l m n o p q,Zih g (b4.add (a.toNat*9)) i j k l m n o p q∧N104 g λa0 b0=>stw b0 a0 (Zed i j k l m n o p q) λb=>join (λ(b7:Bool) (a1:World)=>(Ib (!b7) (b6 42 a1) (a9 (Za (a+1)) a1))) λb1=>(If (a=0) (∃a4,Ls b a0 a4∧bnd ((a4.len:Int)==0) λ(e:Bool)=> ∃r s t u v x y,Zh0 e b (a0.add 1) r s t u v x y∧gCall e (λ(d:Bool) (c:World)=>bnd (e&&d) λ(a2:Bool)=> ∃a5,Gi a2 c (a0.add 8) a5∧b1 (a2&&(a5==0)) c) (λb8=>Cs 121 [(Zv r s t u v x y),(.agg #[(vT (ByteArray.mk #[])),vI 0,vI 0,vI 0,(Sl.v Sl.nil),(Sl.v Sl.nil),(Sl.v Sl.nil)])] b λc1 c=> ∃d,c1= .bool d∧b8 d c) (λb8=>b8 false b)) (∃z,Ls b b5 z∧Cs 125 [(.agg #[Sl.v z]),vI a] b λb2 a8=> ∃a6,b2= .bool a6∧b1 a6 a8))) (b6 0 g))))
theorem Zhd.go{u w k}(h:Zhd u w λa0 a1=>k (vI a0) a1):Cs 66 [(.agg #[Sl.v u])] w k:=rg (.q (.s (.q (.k .y)) (.s (.q (.b (.l [(19,4)] (.q (.s .x (.s (.b (.q (.q (.j [(5,5)] (.q (.c (.r []) (.r []))) (.q (.k .y)))))) (.r []))))))) .y))) func66 h
def Zec(h7:Option Addr)(j4:World)(i4:Bool→World→Prop):Prop:=
 ∃j1,h7=some j1∧ ∃a1,Ls j4 j1 a1∧bnd (decide ((a1.len:Int)<1)) λ(j5:Bool)=>(Ib (j5||(decide (128<(a1.len:Int)))) (i4 false j4) (∃j2,h7=some j2∧ ∃a5,Ls j4 j2 a5∧loop1 0 j4 λd h8 i5=>(If (d<(a5.len:Int)) (∃j3,Ix a5 d j3∧ ∃a6 a7 a8 a9 b0 b1,Zjg h8 (j3.add (d.toNat*6)) a6 a7 a8 a9 b0 b1∧N72 h8 λa0 i6=>stw i6 a0 (Ziy a6 a7 a8 a9 b0 b1) λi7=>Dr i7 λj=>bnd (d==0) λ(f7:Bool)=> ∃g3,Gt f7 j a0 g3∧bnd (!bEq g3 (ByteArray.mk #[])) λ(g0:Bool)=> ∃b2 b3 b4,Giii (f7&&(!g0)) j (a0.add 1) b2 b3 b4∧bnd (g0||(!((b2==0)&&((b3==0)&&((b4==0)&&true))))) λ(g1:Bool)=> ∃g4,Gs (f7&&(!g1)) j (a0.add 4) g4∧bnd (f7&&(g1||(decide (0<(g4.len:Int))))) λ(a:Bool)=>bnd (decide (0<d)) λ(b:Bool)=> ∃g5,Gn ((!a)&&b) h7 g5∧ ∃g6,Gs ((!a)&&b) j (g5.add 1) g6∧ ∃b5,Gx ((!a)&&b) g6 d b5∧ ∃b6 b7 b8 b9 c0 c1 c2,Zh0 ((!a)&&b) j (b5.add (d.toNat*7)) b6 b7 b8 b9 c0 c1 c2∧gCall ((!a)&&b) (λ(z:Bool) (c:World)=>bnd (!z) λ(k:Bool)=> ∃g7,Gn (((!a)&&b)&&(!k)) h7 g7∧ ∃g8,Gs (((!a)&&b)&&(!k)) c (g7.add 1) g8∧ ∃c3,Gx (((!a)&&b)&&(!k)) g8 d c3∧ ∃g9,Gt (((!a)&&b)&&(!k)) c (c3.add (d.toNat*7)) g9∧ ∃h0,Gt (((!a)&&b)&&(!k)) c a0 h0∧bnd (k||(!bEq g9 h0)) λ(l:Bool)=> ∃h1,Gn (((!a)&&b)&&(!l)) h7 h1∧ ∃h2,Gs (((!a)&&b)&&(!l)) c (h1.add 1) h2∧ ∃c4,Gx (((!a)&&b)&&(!l)) h2 d c4∧ ∃c5 c6 c7,Giii (((!a)&&b)&&(!l)) c ((c4.add (d.toNat*7)).add 1) c5 c6 c7∧ ∃c8 c9 d0,Giii (((!a)&&b)&&(!l)) c (a0.add 1) c8 c9 d0∧(Ib (a||(b&&(l||(!((c5==c8)&&((c6==c9)&&((c7==d0)&&true))))))) (i4 false c) (∃h3,Ls c (a0.add 4) h3∧Cs 126 [(vI (h3.len:Int)),(Value.func (.func 127) #[] #[vP a0])] c λi8 s=> ∃h4,i8= .bool h4∧bnd (!h4) λ(a2:Bool)=> ∃d1,Gs (!a2) s (a0.add 5) d1∧gCall (!a2) (λ(m:Bool) (h:World)=>(Ib (a2||(!m)) (i4 false h) (∃u,Ls h (a0.add 5) u∧loop1 0 h λn o f8=>(If (n<(u.len:Int)) (∃d2,Ix u n d2∧ ∃d3 d4,Lti o (d2.add (n.toNat*2)) d3 d4∧N80 o λr h9=>stw h9 r [vT d3,vI d4] λi0=>Dr i0 λe=> ∃d5,Li e (r.add 1) d5∧bnd (decide (d5<1)) λ(g2:Bool)=> ∃d6,Gi (!g2) e (r.add 1) d6∧bnd (g2||(decide ((a1.len:Int)≤d6))) λ(i:Bool)=> ∃h5,Gn (!i) h7 h5∧ ∃d7,Gs (!i) e h5 d7∧ ∃v,Gi (!i) e (r.add 1) v∧ ∃d8,Gx (!i) d7 v d8∧ ∃d9,Gt (!i) e (d8.add (v.toNat*6)) d9∧ ∃e0,Gt (!i) e r e0∧(Ib (i||(!bEq d9 e0)) (i4 false e) (f8 (Za (n+1)) e))) (∃x,Ls o (a0.add 4) x∧loop1 0 o λp t f9=>(If (p<(x.len:Int)) (∃e1,Ix x p e1∧ ∃e2 e3 e4 e5,Zfh t (e1.add (p.toNat*4)) e2 e3 e4 e5∧N78 t λa3 i1=>stw i1 a3 (Ze4 e2 e3 e4 e5) λa4=> ∃e6,Ls a4 (a0.add 5) e6∧Cs 129 [Sl.v e6,(Value.func (.func 130) #[] #[vP a3])] a4 λi9 i2=> ∃q,i9= .int .i64 q∧Dr i2 λf=>bnd (decide (q<0)) λ(g:Bool)=> ∃h6,Gn (!g) h7 h6∧ ∃e7,Gs (!g) f h6 e7∧ ∃e8,Gs (!g) f (a0.add 5) e8∧ ∃e9,Gx (!g) e8 q e9∧ ∃y,Gi (!g) f ((e9.add (q.toNat*2)).add 1) y∧ ∃f0,Gx (!g) e7 y f0∧ ∃f1 f2 f3,Giii (!g) f ((f0.add (y.toNat*6)).add 1) f1 f2 f3∧ ∃f4 f5 f6,Giii (!g) f (a3.add 1) f4 f5 f6∧(Ib (g||(!((f1==f4)&&((f2==f5)&&((f3==f6)&&true))))) (i4 false f) (f9 (Za (p+1)) f))) (i5 (Za (d+1)) t))))))) (λi3=>Cs 126 [(vI (d1.len:Int)),(Value.func (.func 128) #[] #[vP a0])] s λj0 h=> ∃m,j0= .bool m∧i3 m h) (λi3=>i3 false s)))) (λi3=>Cs 18 [(Zv b6 b7 b8 b9 c0 c1 c2)] j λj6 c=> ∃z,j6= .bool z∧i3 z c) (λi3=>i3 false j)) (i4 true h8))))
theorem Zec.go{p w k}(h:Zec p w λu a0=>k (vB u) a0):Cs 67 [.pointer p] w k:=rg (.q (.q (.s (.q (.k .y)) (.s (.q (.b (.l [(29,4)] (.q (.s .x (.s (.b (.q (.s (.q (.k .y)) (.s (.q (.k .y)) (.s (.q (.b (.l [(111,4)] (.q (.s .x (.s (.b (.q (.q (.k .y)))) (.r []))))))) (.q (.b (.l [(143,4)] (.q (.s .x (.s (.b (.q (.q (.q (.k .y))))) (.r [])))))))))))) (.r []))))))) .y)))) func67 h
def Zdr(u:Option Addr)(g:Int)(p:ByteArray)(q:Int)(z:World)(v:Int→World→Prop):Prop:=
 newS z [vT p,vI q] 80 λy x=>Dr x λb=> ∃r,u=some r∧ ∃h,Ls b r h∧ ∃s,u=some s∧ ∃i,Ls b (s.add 7) i∧ ∃t,Ix i g t∧ ∃d,Li b ((t.add (g.toNat*9)).add 8) d∧ ∃j,Ix h d j∧ ∃k,Ls b ((j.add (d.toNat*6)).add 4) k∧Cs 131 [Sl.v k,(Value.func (.func 132) #[] #[vP y])] b λa0 c=> ∃l,a0= .bool l∧(Ib l (v 1 c) (Dr c λa=> ∃m,u=some m∧ ∃n,Ls a m n∧ ∃e,Li a (y.add 1) e∧ ∃f,Ix n e f∧ ∃o,Ls a ((f.add (e.toNat*6)).add 4) o∧(If ((o.len:Int)=0) (v 2 a) (v 3 a))))
theorem Zdr.go{p u a0 a1 w k}(h:Zdr p u a0 a1 w λa2 a3=>k (vI a2) a3):Cs 68 [.pointer p,vI u,(.agg #[vT a0,vI a1])] w k:=rg (.q (.q (.s (.b (.q (.c .y (.q (.k .y))))) .y))) func68 h
def Zdp(r:Option Addr)(s:Int)(g8:ByteArray)(g9 g:Int)(i6:World)(i2:Int→World→Prop):Prop:=
 newS i6 [vT g8,vI g9] 80 λf1 c3=> ∃h9,r=some h9∧ ∃c6,Ls c3 (h9.add 7) c6∧ ∃i0,Ix c6 s i0∧ ∃t,Ls c3 (i0.add (s.toNat*9)) t∧ ∃c7,Lt c3 f1 c7∧Cs 133 [.pointer r,Sl.v t,vT c7] c3 λi7 h1=> ∃d,i7= .int .i64 d∧Dr h1 λf=>bnd (decide (0≤d)) λ(g7:Bool)=> ∃i1,Gn g7 r i1∧ ∃c8,Gs g7 f (i1.add 7) c8∧ ∃c9,Gx g7 c8 d c9∧ ∃d0,Gi g7 f ((c9.add (d.toNat*9)).add 8) d0∧ ∃d1,Gi g7 f (f1.add 1) d1∧bnd (g7&&(d0==d1)) λ(v:Bool)=>bnd (decide (g<3)) λ(x:Bool)=>gCall (v&&(!x)) (λ(e:Bool) (a:World)=>bnd (!(v&&(x||e))) λ(h0:Bool)=>(Ib (h0&&(g==1)) (i2 33 a) (join (λ(i3:Int) (e8:World)=>Dr e8 λh=> ∃d2,r=some d2∧ ∃a3,Ls h (d2.add 8) a3∧ ∃a4,Lt h f1 a4∧newS h (Biit s i3 a4) 229 λh2 f2=>appS prog 142 142 a3 (Sl.v (Sl.mk (some h2) 1 1)) f2 λf3 f4=> ∃d3,r=some d3∧stw f4 (d3.add 8) [Sl.v f3] λf5=>i2 0 f5) λz=>(Ib (!(v&&(x||e))) (join (λ(y:Sl) (e9:World)=>join (λ(i5:Addr) (f0:World)=>Dr f0 λi=> ∃d4,Ls i i5 d4∧ ∃d5,r=some d5∧ ∃d6,Li i ((d5.add 2).add 3) d6∧Cx 54 [Sl.v d4] i λh3 a0=> ∃d7,h3= .string d7∧(If (d6<(d7.size:Int)) (i2 40 a0) (Dr a0 λc=> ∃d8,r=some d8∧ ∃d9,Ls c (d8.add 7) d9∧ ∃e0,r=some e0∧ ∃a5,Li c ((e0.add 2).add 2) a5∧(If (a5<(d9.len:Int)) (i2 41 c) (∃e1,r=some e1∧ ∃a6,Ls c (e1.add 7) a6∧Dr c λj=> ∃e2,r=some e2∧ ∃a7,Ls j (e2.add 7) a7∧ ∃a8 a9 b0 b1 b2 b3 b4 b5 b6,Zih j i5 a8 a9 b0 b1 b2 b3 b4 b5 b6∧newS j (Zed a8 a9 b0 b1 b2 b3 b4 b5 b6) 104 λh4 f6=>appS prog 53 53 a7 (Sl.v (Sl.mk (some h4) 1 1)) f6 λf7 f8=> ∃e3,r=some e3∧stw f8 (e3.add 7) [Sl.v f7] λf9=>z (a6.len:Int) f9))))) λa1=>Dr e9 λb=> ∃b7,Lt b f1 b7∧ ∃e4,r=some e4∧ ∃e5,Ls b (e4.add 1) e5∧ ∃b8,Li b (f1.add 1) b8∧ ∃b9,Ix e5 b8 b9∧ ∃k l m n o p q,Zcb b (b9.add (b8.toNat*7)) k l m n o p q∧ ∃c0,Li b (f1.add 1) c0∧((Cx 136 [Sl.v y,vT b7] b λh5 g0=> ∃e6,h5=Sl.v e6∧N104 g0 λc4 g1=>stw g1 c4 (Zed e6 k l m n o p q c0) λg2=>a1 c4 g2)∧(N104 b λc5 g3=>Cx 136 [Sl.v y,vT b7] g3 λh6 g4=> ∃u,h6=Sl.v u∧stw g4 c5 (Zed u k l m n o p q c0) λg5=>a1 c5 g5))) λa2=>(If (g=2) (∃c1 c2,Lti a f1 c1 c2∧Cs 135 [.pointer r,Sl.v t,(.agg #[vT c1,vI c2])] a λh7 g6=> ∃e7,h7=Sl.v e7∧a2 e7 g6) (a2 t a))) (z d a))))) (λi4=>Cs 134 [.pointer r,vI s,vI d] f λh8 a=> ∃e,h8= .bool e∧i4 e a) (λi4=>i4 false f)
theorem Zdp.go{p a0 a1 a2 u w k}(h:Zdp p a0 a1 a2 u w λa3 a4=>k (vI a3) a4):Cs 69 [.pointer p,vI a0,(.agg #[vT a1,vI a2]),vI u] w k:=rg (.q (.q (.q (.q (.s (.q (.k .y)) (.j [(10,4)] (.q (.c (.q (.j [(12,103)] (.q (.c (.r []) .o)) (.j [(13,0)] (.r []) (.s (.q (.k .y)) (.s (.q (.k .y)) (.q (.r []))))))) .o)) (.q .y))))))) func69 h
def Zgz(d:Sl)(e:ByteArray)(f g h:Int)(i j k:Sl)(l:Int)(m:Sl)(n:ByteArray)(o p q:Int)(r s t:Sl)(u:Int)(a7:World)(a8:Int→World→Prop):Prop:=
 newS a7 (Zed d e f g h i j k l) 104 λa9 a4=>newS a4 (Zed m n o p q r s t u) 104 λa5 v=>Dr v λa=> ∃a1,Ls a a9 a1∧ ∃a2,Ls a a5 a2∧Cx 54 [Sl.v a1] a λb0 x=> ∃a3,b0= .string a3∧Cs 54 [Sl.v a2] x λa6 y=> ∃b,a6= .string b∧Cs 72 [vT a3,vT b] y λz a0=> ∃c,z= .int .i64 c∧a8 c a0
theorem Zgz.go{u a0 a1 a2 a3 a4 a5 a6 a7 a8 a9 b0 b1 b2 b3 b4 b5 b6 w k}(h:Zgz u a0 a1 a2 a3 a4 a5 a6 a7 a8 a9 b0 b1 b2 b3 b4 b5 b6 w λb7 b8=>k (vI b7) b8):Cs 71 [(Zl1 u a0 a1 a2 a3 a4 a5 a6 a7),(Zl1 a8 a9 b0 b1 b2 b3 b4 b5 b6)] w k:=rg (.q .y) func71 h
def Zck(d:ByteArray)(e:Sl)(b:ByteArray)(c:Sl)(l:World)(m:Int→World→Prop):Prop:=
 newS l [vT d,Sl.v e] 152 λn j=>newS j [vT b,Sl.v c] 152 λk a=> ∃g,Lt a n g∧ ∃h,Lt a k h∧Cs 72 [vT g,vT h] a λo f=> ∃i,o= .int .i64 i∧m i f
theorem Zck.go{a1 a2 u a0 w k}(h:Zck a1 a2 u a0 w λa3 a4=>k (vI a3) a4):Cs 73 [(.agg #[vT a1,Sl.v a2]),(.agg #[vT u,Sl.v a0])] w k:=rg (.q .y) func73 h
def Zad(n:Sl)(j:Value)(p:World)(o:Bool→World→Prop):Prop:=
 loop1 (Za ((n.len:Int) - 1)) p λi k l=>(If (0<i) (Dr k λa=> ∃m,Ix n i m∧ ∃b c,Lts a (m.add (i.toNat*2)) b c∧ ∃g,Ix n (Za (i - 1)) g∧ ∃d e,Lts a (g.add ((Za (i - 1)).toNat*2)) d e∧callV prog j [(.agg #[vT b,Sl.v c]),(.agg #[vT d,Sl.v e])] a λq f=> ∃h,q= .int .i64 h∧(If (h<0) (o false f) (l (Za (i - 1)) f))) (o true k))
theorem Zad.go{x u w k}(h:Zad x u w λa0 a1=>k (vB a0) a1):Cs 74 [Sl.v x,u] w k:=rg (.q (.s (.q (.b (.l [(5,4)] (.s (.q .x) (.s (.b (.q (.k .y))) (.r [])))))) .y)) func74 h
def Zh8(a1:Sl)(a6:World)(a2:Bool→World→Prop):Prop:=
 (If (64<(a1.len:Int)) (a2 false a6) (loop2 0 0 a6 λr a v y=>(If (a<(a1.len:Int)) (∃a0,Ix a1 a a0∧ ∃b c d e f g,Zni v (a0.add (a.toNat*6)) b c d e f g∧N193 v λa4 z=>stw z a4 (Zqh b c d e f g) λs=> ∃h i j,Liii s a4 h i j∧Cs 139 [(Aiii h i j)] s λa8 t=> ∃k l,a8=Ztl k l∧ ∃m n o,Liii t (a4.add 3) m n o∧Cs 139 [(Aiii m n o)] t λa5 u=> ∃p q,a5=Ztl p q∧bnd (!l) λ(a7:Bool)=>bnd (a7||(!q)) λ(a3:Bool)=>bnd (a3||(decide (k<r))) λ(x:Bool)=>(Ib (x||(decide (p<k))) (a2 false u) (y (Za (p+2)) (Za (a+1)) u))) (a2 true v))))
theorem Zh8.go{l w k}(h:Zh8 l w λu a0=>k (vB u) a0):Cs 75 [Sl.v l] w k:=rg (.q (.s (.q (.k .y)) (.q (.s (.q (.b (.l [(3,4),(15,4)] (.q (.s .x (.s (.b (.q (.q (.q (.s (.q (.k .y)) (.r [])))))) (.r []))))))) .y)))) func75 h
def Ze8(e:Option Addr)(h:World)(i:Sl→World→Prop):Prop:=
 Dr h λf=> ∃g,e=some g∧ ∃b,e=some b∧ ∃c,e=some c∧ ∃d,e=some d∧newS f [(vT (ByteArray.mk #[110,101,101,100,115])),vP g,(vT (ByteArray.mk #[100,101,118])),(Value.pointer (some (b.add 1))),(vT (ByteArray.mk #[108,105,107,101,115])),(Value.pointer (some (c.add 2))),(vT (ByteArray.mk #[112,105,110,115])),(Value.pointer (some (d.add 3)))] 171 λj a=>i (Sl.mk (some j) 4 4) a
theorem Ze8.go{m w k}(h:Ze8 m w λu a0=>k (Sl.v u) a0):Cs 78 [.pointer m] w k:=rg (.q .y) func78 h
def Zha(h4:Sl)(h5:World)(h2:ByteArray→World→Prop):Prop:=
 Cs 75 [Sl.v h4] h5 λh6 e9=> ∃b7,h6= .bool b7∧(Ib (!b7) (h2 (ByteArray.mk #[]) e9) (Cs 142 [Sl.v h4] e9 λh3 f0=> ∃p,h3=Sl.v p∧loop2 Sl.nil 0 f0 λb i j f1=>(If (i<(p.len:Int)) (join (λ(l:Sl) (e8:World)=>f1 l (Za (i+1)) e8) λm=> ∃h1,Ix p i h1∧ ∃c d,Lii j (h1.add (i.toNat*2)) c d∧N236 j λb5 f2=>stw f2 b5 [vI c,vI d] λb6=> ∃b8,Li b6 b5 b8∧Cs 143 [vI b8] b6 λf3 c6=> ∃q r s e6,f3=Zek q r s e6∧N50 c6 λk c7=>stw c7 k (Biii q r s) λn=> ∃b9,Li n (b5.add 1) b9∧Cs 143 [vI b9] n λf4 c8=> ∃t u v e7,f4=Zek t u v e7∧N50 c8 λo c9=>stw c9 o (Biii t u v) λa=> ∃c0,Li a b5 c0∧ ∃c1,Li a (b5.add 1) c1∧(If (c0=c1) (∃x y z,Liii a k x y z∧Cs 99 [(Aiii x y z)] a λf5 d0=> ∃c2,f5= .string c2∧newS d0 [vT c2] 9 λf6 d1=>appS prog 102 102 b (Sl.v (Sl.mk (some f6) 1 1)) d1 λf7 d2=>m f7 d2) (∃e f,Lii a b5 e f∧(Ib ((e==0)&&((f==999999999)&&true)) (newS a [(vT (ByteArray.mk #[42]))] 9 λf8 d3=>appS prog 102 102 b (Sl.v (Sl.mk (some f8) 1 1)) d3 λf9 d4=>m f9 d4) (∃c3,Li a b5 c3∧(If (c3=0) (∃a0 a1 a2,Liii a o a0 a1 a2∧Cs 99 [(Aiii a0 a1 a2)] a λg0 d5=> ∃a3,g0= .string a3∧((((ByteArray.mk #[60,61]).size+a3.size:Nat):Int)≤maxI)∧newS d5 [(vT ((ByteArray.mk #[60,61])++a3))] 9 λg1 d6=>appS prog 102 102 b (Sl.v (Sl.mk (some g1) 1 1)) d6 λg2 d7=>m g2 d7) (∃c4,Li a (b5.add 1) c4∧(If (c4=999999999) (∃a4 a5 a6,Liii a k a4 a5 a6∧Cs 99 [(Aiii a4 a5 a6)] a λg3 d8=> ∃a7,g3= .string a7∧((((ByteArray.mk #[62,61]).size+a7.size:Nat):Int)≤maxI)∧newS d8 [(vT ((ByteArray.mk #[62,61])++a7))] 9 λg4 d9=>appS prog 102 102 b (Sl.v (Sl.mk (some g4) 1 1)) d9 λg5 e0=>m g5 e0) (Dr a λh=> ∃a8 a9 b0,Liii h k a8 a9 b0∧ ∃b1 b2 b3,Liii h o b1 b2 b3∧Cx 99 [(Aiii a8 a9 b0)] h λg6 e1=> ∃g,g6= .string g∧((((ByteArray.mk #[62,61]).size+g.size:Nat):Int)≤maxI)∧(((((ByteArray.mk #[62,61])++g).size+(ByteArray.mk #[32,60,61]).size:Nat):Int)≤maxI)∧Cs 99 [(Aiii b1 b2 b3)] e1 λg7 e2=> ∃b4,g7= .string b4∧((((((ByteArray.mk #[62,61])++g)++(ByteArray.mk #[32,60,61])).size+b4.size:Nat):Int)≤maxI)∧newS e2 [(vT ((((ByteArray.mk #[62,61])++g)++(ByteArray.mk #[32,60,61]))++b4))] 9 λg8 e3=>appS prog 102 102 b (Sl.v (Sl.mk (some g8) 1 1)) e3 λg9 e4=>m g9 e4))))))))) ((If ((b.len:Int)=0) (h2 (ByteArray.mk #[60,48,46,48,46,48]) j) (Cs 144 [Sl.v b,(vT (ByteArray.mk #[32,124,124,32]))] j λh0 e5=> ∃c5,h0= .string c5∧h2 c5 e5))))))
theorem Zha.go{l w k}(h:Zha l w λu a0=>k (vT u) a0):Cs 79 [Sl.v l] w k:=rg (.q (.s (.q (.k .y)) (.q (.s (.q (.b (.l [(3,103),(16,4)] (.q (.s .x (.j [(3,103)] (.b (.q (.q (.q (.b (.q (.c (.r []) (.q (.c (.r []) (.q (.c (.r []) (.q (.c (.r []) (.r [])))))))))))))) (.r []))))))) (.s (.q (.k .y)) .y))))) func79 h
def Ziw(c7 c8 c9 d0 h a6:Sl)(e3:World)(e4:Sl→World→Prop):Prop:=
 newS e3 (Zgq c7 c8 c9 d0) 25 λe2 e1=>loop2 Sl.nil 0 e1 λa7 e i d1=>(If (e<(h.len:Int)) (∃e0,Ix h e e0∧ ∃m,Ls i (e0.add (e.toNat*1)) m∧loop2 a7 0 i λj f k b4=>(If (f<(m.len:Int)) (∃a8,Ix m f a8∧ ∃n o,Lts k (a8.add (f.toNat*2)) n o∧N152 k λb5 d2=>stw d2 b5 [vT n,Sl.v o] λb6=>Dr b6 λa=> ∃a9,Lt a b5 a9∧ ∃p q r s,Zdz a e2 p q r s∧ ∃t u,Lts a b5 t u∧Cx 145 [(Zby p q r s),(.agg #[vT t,Sl.v u])] a λe5 b7=> ∃b0,e5=Sl.v b0∧newS b7 (Btis a9 1 b0) 177 λd3 b8=>appS prog 108 108 j (Sl.v (Sl.mk (some d3) 1 1)) b8 λd4 b9=>b4 d4 (Za (f+1)) b9) (d1 j (Za (e+1)) k))) (loop2 a7 0 i λb g d a5=>(If (g<(a6.len:Int)) (∃v,Ix a6 g v∧ ∃x y,Lts d (v.add (g.toNat*2)) x y∧N152 d λl c0=>stw c0 l [vT x,Sl.v y] λc1=>Dr c1 λc=> ∃b1,Lt c l b1∧ ∃z a0 a1 a2,Zdz c e2 z a0 a1 a2∧ ∃a3 a4,Lts c l a3 a4∧Cx 145 [(Zby z a0 a1 a2),(.agg #[vT a3,Sl.v a4])] c λd5 c2=> ∃b2,d5=Sl.v b2∧newS c2 (Btis b1 2 b2) 177 λd6 c3=>appS prog 108 108 b (Sl.v (Sl.mk (some d6) 1 1)) c3 λd7 c4=>a5 d7 (Za (g+1)) c4) (Cs 146 [Sl.v b,(Value.func (.func 147) #[] #[])] d λd8 c5=>d8= .tuple #[]∧Cs 148 [Sl.v b] c5 λd9 c6=> ∃b3,d9=Sl.v b3∧e4 b3 c6))))
theorem Ziw.go{a0 a1 a2 a3 u a4 w k}(h:Ziw a0 a1 a2 a3 u a4 w λa5 a6=>k (Sl.v a5) a6):Cs 81 [(Zby a0 a1 a2 a3),Sl.v u,Sl.v a4] w k:=rg (.q (.q (.s (.q (.b (.l [(7,109),(16,4)] (.q (.s .x (.s (.b (.q (.q (.b (.l [(7,109),(22,4)] (.q (.s .x (.s (.b (.q (.r []))) (.r []))))))))) (.r []))))))) (.s (.q (.b (.l [(7,109),(39,4)] (.q (.s .x (.s (.b (.q (.r []))) (.r []))))))) (.q .y))))) func81 h
def Zdt(z:Option Addr)(q:Sl)(a0:Int)(m:Sl)(l8:World)(l4:World→Prop):Prop:=
 ∃l3,Ix q a0 l3∧ ∃g6,Ls l8 ((l3.add (a0.toNat*6)).add 4) g6∧Cs 86 [Sl.v g6] l8 λm0 l5=> ∃g7,m0=Sl.v g7∧loop2 g7 0 l5 λb s a2 j9=>(If (s<(m.len:Int)) (join (λ(h7:Sl) (j8:World)=>j9 h7 (Za (s+1)) j8) λk0=> ∃g8,Ix m s g8∧ ∃a5 a6 a7 a8,Zfh a2 (g8.add (s.toNat*4)) a5 a6 a7 a8∧N78 a2 λl6 k1=>stw k1 l6 (Ze4 a5 a6 a7 a8) λg4=> ∃g9,Lt g4 l6 g9∧Cs 84 [Sl.v b,vT g9] g4 λk2 h8=> ∃a9 b0 b1 b2,k2=Zek a9 b0 b1 b2∧N50 h8 λk3 h9=>stw h9 k3 (Biii a9 b0 b1) λn=>(Ib (!b2) (∃b3 b4 b5 b6,Zfh n l6 b3 b4 b5 b6∧newS n (Ze4 b3 b4 b5 b6) 78 λk4 i0=>appS prog 26 26 b (Sl.v (Sl.mk (some k4) 1 1)) i0 λk5 i1=>k0 k5 i1) (k0 b n))) (Cs 115 [Sl.v b,(Value.func (.func 149) #[] #[])] a2 λk6 i2=>k6= .tuple #[]∧semS prog (Instr.makeSlice 244 (vI (b.len:Int)) (vI (b.len:Int))) i2 λk7 i3=> ∃u,k7=Sl.v u∧loop1 0 i3 λh o f7=>(If (h<(b.len:Int)) (∃b7,Ix b h b7∧ ∃b8 b9 c0 c1,Zfh o (b7.add (h.toNat*4)) b8 b9 c0 c1∧N78 o λg5 i4=>stw i4 g5 (Ze4 b8 b9 c0 c1) λi5=>Dr i5 λk=> ∃l9,z=some l9∧ ∃h0,Lp k l9 h0∧ ∃h1,z=some h1∧ ∃c2 c3 c4 c5,Zdz k (h1.add 1) c2 c3 c4 c5∧ ∃c6 c7 c8 c9,Zfh k g5 c6 c7 c8 c9∧Cs 150 [.pointer h0,(Zby c2 c3 c4 c5),Sl.v b,(Zfw c6 c7 c8 c9)] k λk8 i6=> ∃h2 d0,k8=Z39 h2 d0∧ ∃d1,Ix u h d1∧stw i6 (d1.add (h.toNat*1)) [Sl.v h2] λa3=>(Ib (!d0) (l4 a3) (f7 (Za (h+1)) a3))) (Cs 151 [Sl.v q] o λk9 i7=> ∃h3,k9=Sl.v h3∧loop3 h3 Sl.nil 0 i7 λa t e p f8=>(If (e<(b.len:Int)) (∃d2,Ix b e d2∧ ∃d3 d4 d5 d6,Zfh p (d2.add (e.toNat*4)) d3 d4 d5 d6∧N78 p λi i8=>stw i8 i (Ze4 d3 d4 d5 d6) λi9=>loop1 1 i9 λf j0 f9=>Dr j0 λc=>bnd (decide (f<(a.len:Int))) λ(y:Bool)=> ∃d7,Gx y a f d7∧ ∃h4,Gt y c (d7.add (f.toNat*6)) h4∧ ∃h5,Gt y c i h5∧bnd (!bEq h4 h5) λ(r:Bool)=> ∃d8,Gx (y&&(!r)) a f d8∧ ∃d9 e0 e1,Giii (y&&(!r)) c ((d8.add (f.toNat*6)).add 1) d9 e0 e1∧ ∃e2 e3 e4,Giii (y&&(!r)) c (i.add 1) e2 e3 e4∧bnd (r||(!((d9==e2)&&((e0==e3)&&((e1==e4)&&true))))) λ(g:Bool)=> ∃e5,Gx (y&&(!g)) a f e5∧ ∃e6,Gs (y&&(!g)) c ((e5.add (f.toNat*6)).add 4) e6∧ ∃e7,Gx (y&&(!g)) u e e7∧ ∃e8,Gs (y&&(!g)) c (e7.add (e.toNat*1)) e8∧gCall (y&&(!g)) (λ(j:Bool) (d:World)=>(Ib (y&&(g||(!j))) (f9 (Za (f+1)) d) (join (λ(x:Sl) (a1:World)=> ∃e9,Lt a1 i e9∧newS a1 [vT e9,vI f] 80 λl0 j1=>appS prog 70 70 t (Sl.v (Sl.mk (some l0) 1 1)) j1 λj2 j3=>f8 x j2 (Za (e+1)) j3) λa4=>(If (f=(a.len:Int)) (∃h6,z=some h6∧ ∃f0,Li d ((h6.add 7).add 1) f0∧(If (f=f0) (Cs 29 [.pointer z,(Sl.v Sl.nil),vI 32] d λl1 j4=>l1= .tuple #[]∧l4 j4) (Dr d λl=> ∃f1,Lt l i f1∧ ∃f2 f3 f4,Liii l (i.add 1) f2 f3 f4∧ ∃f5,Ix u e f5∧ ∃f6,Ls l (f5.add (e.toNat*1)) f6∧newS l [vT f1,vI f2,vI f3,vI f4,Sl.v f6,(Sl.v Sl.nil)] 72 λj5 g0=>appS prog 36 36 a (Sl.v (Sl.mk (some j5) 1 1)) g0 λj6 g1=>a4 j6 g1))) (a4 a d))))) (λl7=>Cs 152 [Sl.v e6,Sl.v e8] c λl2 d=> ∃j,l2= .bool j∧l7 j d) (λl7=>l7 false c)) (∃v,Ix a a0 v∧stw p ((v.add (a0.toNat*6)).add 5) [Sl.v t] λg2=>Cs 15 [.pointer z,Sl.v a,(vI (Za (a0+1)))] g2 λj7 g3=>j7= .tuple #[]∧l4 g3))))))
theorem Zdt.go{a1 a0 a2 u w k}(h:Zdt a1 a0 a2 u w λa3=>k (Value.tuple #[]) a3):Cs 82 (Z6a a1 a0 a2 u) w k:=rg (.q (.s (.q (.b (.l [(8,27),(29,4)] (.q (.s .x (.j [(8,27)] (.b (.q (.q (.q (.c (.r []) .o))))) (.r []))))))) (.q (.q (.s (.q (.b (.l [(54,4)] (.q (.s .x (.s (.b (.q (.q (.q (.q .x))))) (.r []))))))) (.q (.q (.s (.q (.b (.l [(1,37),(17,71),(83,4)] (.q (.s .x (.s (.b (.q (.q (.s (.b (.l [(20,4)] (.s (.q .x) (.b (.r []))))) (.j [(1,37)] (.q (.c (.s (.q (.k .y)) (.r [])) .o)) (.r [])))))) (.r []))))))) (.q (.r [])))))))))) func82 h
def Zbg(t:Option Addr)(f:ByteArray)(u g:Sl)(v:World)(x:Sl→World→Prop):Prop:=
 newS v [vT f] 9 λs o=>newS o [Sl.v u] 150 λp i=>newS i [Sl.v g] 26 λq b=> ∃c,Lt b s c∧Cs 154 [.pointer t,vT c] b λy j=> ∃d,y=Sl.v d∧Cs 153 [Sl.v d,(Value.func (.func 155) #[] #[vP p])] j λr k=> ∃a,r=Sl.v a∧Cs 156 [Sl.v a,(Value.func (.func 157) #[] #[vP q,vP s])] k λl m=>l= .tuple #[]∧Cs 160 [Sl.v a] m λn h=> ∃e,n=Sl.v e∧x e h
theorem Zbg.go{c u l pins w k}(h:Zbg c u l pins w λa0 a1=>k (Sl.v a0) a1):Cs 83 (Z6c c u l pins) w k:=rg (.q (.q (.q .y))) func83 h
def Zc7(a1:Sl)(t:ByteArray)(a3:World)(a2:Int→Int→Int→Bool→World→Prop):Prop:=
 N50 a3 λz a0=>loop1 0 a0 λa c v=>(If (a<(a1.len:Int)) (∃y,Ix a1 a y∧ ∃d e f g,Zfh c (y.add (a.toNat*4)) d e f g∧N78 c λu x=>stw x u (Ze4 d e f g) λb=> ∃p,Lt b u p∧(If (p=t) (∃h i j,Liii b (u.add 1) h i j∧stw b z (Biii h i j) λn=> ∃q r s,Liii n z q r s∧a2 q r s true n) (v (Za (a+1)) b))) (stw c z (Biii 0 0 0) λo=> ∃k l m,Liii o z k l m∧a2 k l m false o))
theorem Zc7.go{l u w k}(h:Zc7 l u w λa0 a1 a2 a3 a4=>k (Value.tuple #[(Aiii a0 a1 a2),vB a3]) a4):Cs 84 [Sl.v l,vT u] w k:=rg (.q (.s (.q (.b (.l [(10,4)] (.q (.s .x (.s (.b (.q (.q (.k .y)))) (.r []))))))) .y)) func84 h
def Zk0(q:Sl)(k l m:Int)(t:World)(u:Bool→World→Prop):Prop:=
 newS t (Biii k l m) 50 λs n=>Cs 75 [Sl.v q] n λv d=> ∃i,v= .bool i∧ ∃e f g,Giii i d s e f g∧gCall i (λ(h:Bool) (a:World)=>bnd (i&&h) λ(r:Bool)=>gCall r (λ(b:Bool) (c:World)=>u (r&&b) c) (λj=>Cs 161 [Sl.v q,(Value.func (.func 162) #[] #[vP s])] a λo c=> ∃b,o= .bool b∧j b c) (λj=>j false a)) (λj=>Cs 40 [(Aiii e f g)] d λp a=> ∃h,p= .bool h∧j h a) (λj=>j false d)
theorem Zk0.go{l u a0 a1 w k}(h:Zk0 l u a0 a1 w λa2 a3=>k (vB a2) a3):Cs 85 [Sl.v l,(Aiii u a0 a1)] w k:=rg (.q (.s (.r [7]) .o)) func85 h
def Zat(a:Sl)(e:World)(f:Sl→World→Prop):Prop:=
 (If (a.a=none) (f Sl.nil e) (newS e [] 78 λg c=>appS prog 26 26 (Sl.mk (some g) 0 0) (Sl.v a) c λd b=>f d b))
theorem Zat.go{u w k}(h:Zat u w λa0 a1=>k (Sl.v a0) a1):Cs 86 [Sl.v u] w k:=rg (.q (.s (.q (.k .y)) .y)) func86 h
def Zcd(b3:Sl)(c7:World)(c4:Bool→World→Prop):Prop:=
 (If (64<(b3.len:Int)) (c4 false c7) (loop1 0 c7 λj b7 b8=>(If (j<(b3.len:Int)) (Dr b7 λb4=> ∃c3,Ix b3 j c3∧ ∃q r s,Liii b4 (c3.add (j.toNat*6)) q r s∧Cs 46 [(Aiii q r s)] b4 λc8 p=> ∃b5,c8= .bool b5∧bnd (!b5) λ(c5:Bool)=> ∃b6,Gx (!c5) b3 j b6∧ ∃t u v,Giii (!c5) p ((b6.add (j.toNat*6)).add 3) t u v∧gCall (!c5) (λ(k:Bool) (b:World)=>bnd (c5||(!k)) λ(i:Bool)=> ∃x,Gx (!i) b3 j x∧ ∃y z a0,Giii (!i) b (x.add (j.toNat*6)) y z a0∧ ∃a1,Gx (!i) b3 j a1∧ ∃a2 a3 a4,Giii (!i) b ((a1.add (j.toNat*6)).add 3) a2 a3 a4∧gCall (!i) (λ(l:Int) (c:World)=>gCall (!i) (λ(m:Int) (d:World)=>(Ib (i||(decide (m<l))) (c4 false d) (Dr d λg=>bnd (decide (0<j)) λ(a:Bool)=> ∃a5,Gx a b3 j a5∧ ∃a6 a7 a8,Giii a g (a5.add (j.toNat*6)) a6 a7 a8∧ ∃a9,Gx a b3 (Za (j - 1)) a9∧ ∃b0 b1 b2,Giii a g ((a9.add ((Za (j - 1)).toNat*6)).add 3) b0 b1 b2∧gCall a (λ(n:Int) (e:World)=>gCall a (λ(o:Int) (f:World)=>(Ib (a&&(decide (n≤(Za (o+1))))) (c4 false f) (b8 (Za (j+1)) f))) (λh=>Cs 163 [(Aiii b0 b1 b2)] e λb9 f=> ∃o,b9= .int .i64 o∧h o f) (λh=>h 0 e)) (λh=>Cx 163 [(Aiii a6 a7 a8)] g λc0 e=> ∃n,c0= .int .i64 n∧h n e) (λh=>h 0 g)))) (λh=>Cs 163 [(Aiii a2 a3 a4)] c λc1 d=> ∃m,c1= .int .i64 m∧h m d) (λh=>h 0 c)) (λh=>Cx 163 [(Aiii y z a0)] b λc2 c=> ∃l,c2= .int .i64 l∧h l c) (λh=>h 0 b)) (λh=>Cs 46 [(Aiii t u v)] p λc6 b=> ∃k,c6= .bool k∧h k b) (λh=>h false p)) (c4 true b7))))
theorem Zcd.go{l w k}(h:Zcd l w λu a0=>k (vB u) a0):Cs 87 [Sl.v l] w k:=rg (.q (.s (.q (.k .y)) (.s (.q (.b (.l [(3,4)] (.s (.q .x) (.s (.b (.s (.q (.k .y)) (.q (.k .y)))) (.r [])))))) .y))) func87 h
def Zcn(c d:ByteArray)(j:World)(i:Bool→World→Prop):Prop:=
 loop1 0 j λa e f=>bnd (decide (a<(c.size:Int))) λ(h:Bool)=>(Ib (h&&(decide (a<(d.size:Int)))) (Dr e λb=>((0:Int)≤a∧a<(c.size:Int))∧((0:Int)≤a∧a<(d.size:Int))∧(If (¬(bAt c a)=(bAt d a)) (Dr b λg=>((0:Int)≤a∧a<(c.size:Int))∧((0:Int)≤a∧a<(d.size:Int))∧i (decide ((bAt c a)<(bAt d a))) g) (f (Za (a+1)) b))) (i (decide ((c.size:Int)<(d.size:Int))) e))
theorem Zcn.go{a b w k}(h:Zcn a b w λu a0=>k (vB u) a0):Cs 88 [vT a,vT b] w k:=rg (.q (.s (.q (.b (.l [(5,4)] (.s (.q .x) (.s (.b (.q (.k .y))) (.r [])))))) .y)) func88 h
def Zaa(a:ByteArray)(m:Sl)(n:World)(o:ByteArray→World→Prop):Prop:=
 loop2 (ByteArray.mk #[]) 0 n λb h i j=>(If (h<(m.len:Int)) (Dr i λe=>(((b.size+a.size:Nat):Int)≤maxI)∧((((b++a).size+(ByteArray.mk #[32]).size:Nat):Int)≤maxI)∧ ∃l,Ix m h l∧ ∃c,Lt e (l.add (h.toNat*2)) c∧(((((b++a)++(ByteArray.mk #[32])).size+c.size:Nat):Int)≤maxI)∧((((((b++a)++(ByteArray.mk #[32]))++c).size+(ByteArray.mk #[32]).size:Nat):Int)≤maxI)∧ ∃f,Ix m h f∧ ∃g,Ls e ((f.add (h.toNat*2)).add 1) g∧Cx 164 [Sl.v g] e λp k=> ∃d,p= .string d∧(((((((b++a)++(ByteArray.mk #[32]))++c)++(ByteArray.mk #[32])).size+d.size:Nat):Int)≤maxI)∧((((((((b++a)++(ByteArray.mk #[32]))++c)++(ByteArray.mk #[32]))++d).size+(ByteArray.mk #[10]).size:Nat):Int)≤maxI)∧j ((((((b++a)++(ByteArray.mk #[32]))++c)++(ByteArray.mk #[32]))++d)++(ByteArray.mk #[10])) (Za (h+1)) k) (o b i))
theorem Zaa.go{word l w k}(h:Zaa word l w λu a0=>k (vT u) a0):Cs 89 [vT word,Sl.v l] w k:=rg (.q (.q (.s (.q (.b (.l [(5,10),(6,4)] (.s (.q .x) (.s (.b (.r [])) (.r [])))))) .y))) func89 h
def Zbv(k:Option Addr)(b4:Sl)(l:Int)(c:Sl)(f2:World)(f0:Bool→World→Prop):Prop:=
 loop2 Sl.nil 0 f2 λb e9 d4 d5=>(If (e9<(c.len:Int)) (Dr d4 λh=> ∃f1,k=some f1∧ ∃b8,Lp h f1 b8∧ ∃e7,k=some e7∧ ∃o p q r,Zdz h (e7.add 1) o p q r∧ ∃e8,Ix c e9 e8∧ ∃s t u v,Zfh h (e8.add (e9.toNat*4)) s t u v∧Cs 165 [.pointer b8,(Zby o p q r),Sl.v c,(Zfw s t u v)] h λf3 b7=> ∃b9 x,f3=Z39 b9 x∧(Ib (!x) (f0 false b7) (newS b7 [Sl.v b9] 26 λf4 d6=>appS prog 244 244 b (Sl.v (Sl.mk (some f4) 1 1)) d6 λd7 d8=>d5 d7 (Za (e9+1)) d8))) (appS prog 36 36 Sl.nil (Sl.v b4) d4 λd9 e0=>loop3 d9 Sl.nil 0 e0 λd i a n b6=>(If (a<(c.len:Int)) (Dr n λg=> ∃y,Ix c a y∧ ∃z a0 a1 a2,Zfh g (y.add (a.toNat*4)) z a0 a1 a2∧ ∃a3,Ix b a a3∧ ∃c0,Ls g (a3.add (a.toNat*1)) c0∧Cs 166 [Sl.v d,(Zfw z a0 a1 a2),Sl.v c0] g λe1 e=> ∃j,e1= .int .i64 j∧join (λ(b5:Sl) (m:World)=> ∃a4,Ix c a a4∧ ∃a5,Lt m (a4.add (a.toNat*4)) a5∧newS m [vT a5,vI j] 80 λe2 c6=>appS prog 70 70 i (Sl.v (Sl.mk (some e2) 1 1)) c6 λc7 c8=>b6 b5 c7 (Za (a+1)) c8) λe3=>(If (j=(d.len:Int)) (∃c1,k=some c1∧ ∃c2,Li e ((c1.add 7).add 1) c2∧(If (j=c2) (∃c3,k=some c3∧stw e (c3.add 12) [vI 32] λc9=>f0 true c9) (Dr e λf=> ∃a6,Ix c a a6∧ ∃c4,Lt f (a6.add (a.toNat*4)) c4∧ ∃a7,Ix c a a7∧ ∃a8 a9 b0,Liii f ((a7.add (a.toNat*4)).add 1) a8 a9 b0∧ ∃b1,Ix b a b1∧ ∃c5,Ls f (b1.add (a.toNat*1)) c5∧newS f [vT c4,vI a8,vI a9,vI b0,Sl.v c5,(Sl.v Sl.nil)] 72 λe4 d0=>appS prog 36 36 d (Sl.v (Sl.mk (some e4) 1 1)) d0 λe5 d1=>e3 e5 d1))) (e3 d e))) (∃b2,Ix d l b2∧stw n ((b2.add (l.toNat*6)).add 5) [Sl.v i] λd2=>Cs 17 [.pointer k,Sl.v d,(vI (Za (l+1)))] d2 λe6 d3=> ∃b3,e6= .bool b3∧f0 b3 d3))))
theorem Zbv.go{a1 u a0 env w k}(h:Zbv a1 u a0 env w λa2 a3=>k (vB a2) a3):Cs 90 (Z6a a1 u a0 env) w k:=rg (.q (.q (.s (.q (.b (.l [(9,245),(10,4)] (.s (.q .x) (.s (.b (.q (.s (.q (.k .y)) (.r [])))) (.r [])))))) (.q (.q (.q (.s (.q (.b (.l [(13,37),(14,71),(15,4)] (.s (.q .x) (.s (.b (.q (.j [(13,37)] (.q (.c (.s (.q (.c (.q .y) .o)) (.r [])) .o)) (.r [])))) (.r [])))))) (.q .y)))))))) func90 h
def Zdm(t:Sl)(o:ByteArray)(x:World)(v:Int→Int→Int→Bool→World→Prop):Prop:=
 N50 x λs u=>loop1 0 u λp a q=>(If (p<(t.len:Int)) (∃r,Ix t p r∧ ∃j,Lt a (r.add (p.toNat*4)) j∧(If (j=o) (∃k,Ix t p k∧ ∃b c d,Liii a ((k.add (p.toNat*4)).add 1) b c d∧stw a s (Biii b c d) λh=> ∃l m n,Liii h s l m n∧v l m n true h) (q (Za (p+1)) a))) (stw a s (Biii 0 0 0) λi=> ∃e f g,Liii i s e f g∧v e f g false i))
theorem Zdm.go{l u w k}(h:Zdm l u w λa0 a1 a2 a3 a4=>k (Value.tuple #[(Aiii a0 a1 a2),vB a3]) a4):Cs 91 [Sl.v l,vT u] w k:=rg (.q (.s (.q (.b (.l [(6,4)] (.s (.q .x) (.s (.b (.q (.k .y))) (.r [])))))) .y)) func91 h
def Zcq(y:Sl)(p q r:Int)(a0:World)(a1:Bool→World→Prop):Prop:=
 newS a0 (Biii p q r) 50 λz u=>Cs 87 [Sl.v y] u λa2 f=> ∃o,a2= .bool o∧ ∃h i j,Giii o f z h i j∧gCall o (λ(n:Bool) (a:World)=>bnd (o&&n) λ(t:Bool)=> ∃k l m,Giii t a z k l m∧gCall t (λ(c:Int) (d:World)=>gCall t (λ(e:Bool) (b:World)=>a1 (t&&e) b) (λg=>Cs 167 [Sl.v y,vI c] d λs b=> ∃e,s= .bool e∧g e b) (λg=>g false d)) (λg=>Cs 163 [(Aiii k l m)] a λv d=> ∃c,v= .int .i64 c∧g c d) (λg=>g 0 a)) (λg=>Cs 46 [(Aiii h i j)] f λx a=> ∃n,x= .bool n∧g n a) (λg=>g false f)
theorem Zcq.go{l u a0 a1 w k}(h:Zcq l u a0 a1 w λa2 a3=>k (vB a2) a3):Cs 92 [Sl.v l,(Aiii u a0 a1)] w k:=rg (.q (.s (.r [7]) .o)) func92 h
def Zag(b9:Option Addr)(f:ByteArray)(c0 a2:Sl)(c1:World)(c2:Sl→World→Prop):Prop:=
 Cs 168 [.pointer b9,vT f] c1 λc3 b7=> ∃c,c3=Sl.v c∧loop3 Sl.nil Sl.nil 0 b7 λb a y h b0=>(If (y<(c.len:Int)) (join (λ(g e:Sl) (a9:World)=>b0 g e (Za (y+1)) a9) λa3=> ∃b6,Ix c y b6∧ ∃j k l,Liii h (b6.add (y.toNat*3)) j k l∧Cs 92 [Sl.v c0,(Aiii j k l)] h λb8 i=> ∃z,b8= .bool z∧(Ib (!z) (a3 b a i) (∃a0,Ix c y a0∧ ∃m n o,Liii i (a0.add (y.toNat*3)) m n o∧Cs 169 [Sl.v a2,vT f,(Aiii m n o)] i λb1 d=> ∃a1,b1= .bool a1∧(Ib a1 (∃p,Ix c y p∧ ∃q r s,Liii d (p.add (y.toNat*3)) q r s∧newS d (Biii q r s) 50 λc4 a4=>appS prog 178 178 b (Sl.v (Sl.mk (some c4) 1 1)) a4 λb2 a5=>a3 b2 a a5) (∃t,Ix c y t∧ ∃u v x,Liii d (t.add (y.toNat*3)) u v x∧newS d (Biii u v x) 50 λb3 a6=>appS prog 178 178 a (Sl.v (Sl.mk (some b3) 1 1)) a6 λb4 a7=>a3 b b4 a7))))) (appS prog 178 178 b (Sl.v a) h λb5 a8=>c2 b5 a8))
theorem Zag.go{c u l pins w k}(h:Zag c u l pins w λa0 a1=>k (Sl.v a0) a1):Cs 93 (Z6c c u l pins) w k:=rg (.q (.q (.q (.q (.s (.q (.b (.l [(9,179),(10,179),(12,4)] (.s (.q .x) (.j [(9,179),(10,179)] (.b (.b (.q (.c .o (.q (.c (.r []) (.r []))))))) (.r [])))))) (.q .y)))))) func93 h
def Zdn(k:Sl)(u:ByteArray)(v x y:Int)(b1:World)(b0:Sl→World→Prop):Prop:=
 newS b1 (Ze4 u v x y) 78 λa7 a8=>loop1 0 a8 λe a0 a1=>Dr a0 λc=>bnd (decide (e<(k.len:Int))) λ(z:Bool)=> ∃a6,Gx z k e a6∧ ∃m,Gt z c (a6.add (e.toNat*4)) m∧ ∃n,Gt z c a7 n∧gCall z (λ(a:Bool) (b:World)=>(Ib (z&&a) (a1 (Za (e+1)) b) (Dr b λd=>bnd (decide (e<(k.len:Int))) λ(l:Bool)=> ∃o,Gx l k e o∧ ∃p,Gt l d (o.add (e.toNat*4)) p∧ ∃q,Gt l d a7 q∧(Ib (l&&(bEq p q)) (b0 k d) (((0:Int)≤e∧e≤(k.cap:Int))∧appS prog 26 26 Sl.nil (Sl.v (Sl.cut k 0 e.toNat 4)) d λa2 f=> ∃g h i j,Zfh f a7 g h i j∧newS f (Ze4 g h i j) 78 λa3 r=>appS prog 26 26 a2 (Sl.v (Sl.mk (some a3) 1 1)) r λa4 s=>((0:Int)≤e∧e≤(k.len:Int))∧appS prog 26 26 a4 (Sl.v (Sl.cut k e.toNat k.len 4)) s λa5 t=>b0 a5 t))))) (λa9=>Cs 48 [vT m,vT n] c λb2 b=> ∃a,b2= .bool a∧a9 a b) (λa9=>a9 false c)
theorem Zdn.go{l u a0 a1 a2 w k}(h:Zdn l u a0 a1 a2 w λa3 a4=>k (Sl.v a3) a4):Cs 94 [Sl.v l,(Zfw u a0 a1 a2)] w k:=rg (.q (.q (.s (.b (.l [(5,4)] (.s (.q .x) (.b (.r []))))) (.s (.q (.k .y)) (.q (.q (.q (.q .y)))))))) func94 h
def Zcs(x y z a0:Sl)(a1:Bool)(a7:World)(a8:Sl→World→Prop):Prop:=
 newS a7 (Zgq x y z a0) 25 λv s=> ∃a5,Ls s v a5∧ ∃c d e f,Zdz s v c d e f∧Cs 170 [(Sl.v Sl.nil),Sl.v a5,vI 1,(Zby c d e f)] s λb0 a=> ∃u,b0=Sl.v u∧join (λ(a9:Sl) (b:World)=> ∃o,Ls b (v.add 2) o∧ ∃g h i j,Zdz b v g h i j∧Cs 170 [Sl.v a9,Sl.v o,vI 2,(Zby g h i j)] b λa6 a2=> ∃p,a6=Sl.v p∧a8 p a2) λa3=>(Ib a1 (∃q,Ls a (v.add 1) q∧ ∃k l m n,Zdz a v k l m n∧Cs 170 [Sl.v u,Sl.v q,vI 1,(Zby k l m n)] a λa4 t=> ∃r,a4=Sl.v r∧a3 r t) (a3 u a))
theorem Zcs.go{u a0 a1 a2 dev w k}(h:Zcs u a0 a1 a2 dev w λa3 a4=>k (Sl.v a3) a4):Cs 95 [(Zby u a0 a1 a2),vB dev] w k:=rg (.q (.q (.j [(5,109)] (.q (.c (.r []) .o)) .y))) func95 h
def Zem(o:ByteArray)(p q r:Int)(l m n s t u v:Sl)(a6:World)(a7:Sl→World→Prop):Prop:=
 newS a6 (Zaj o p q r l m n) 52 λa5 a3=>newS a3 (Zgq s t u v) 25 λx y=>Dr y λa=> ∃a1,Ls a (a5.add 4) a1∧ ∃b c d e,Zdz a x b c d e∧ ∃j,Ls a (a5.add 6) j∧ ∃f g h i,Zdz a x f g h i∧Cx 170 [(Sl.v Sl.nil),Sl.v a1,vI 1,(Zby b c d e)] a λa8 z=> ∃a2,a8=Sl.v a2∧Cs 170 [Sl.v a2,Sl.v j,vI 2,(Zby f g h i)] z λa4 a0=> ∃k,a4=Sl.v k∧a7 k a0
theorem Zem.go{a2 a3 a4 a5 u a0 a1 a6 a7 a8 a9 w k}(h:Zem a2 a3 a4 a5 u a0 a1 a6 a7 a8 a9 w λb0 b1=>k (Sl.v b0) b1):Cs 96 [(Zv a2 a3 a4 a5 u a0 a1),(Zby a6 a7 a8 a9)] w k:=rg (.q .y) func96 h
def Zeg(l m n:Int)(z:World)(y:ByteArray→World→Prop):Prop:=
 newS z (Biii l m n) 50 λv o=> ∃d e f,Liii o v d e f∧Cs 40 [(Aiii d e f)] o λa0 h=> ∃t,a0= .bool t∧(Ib (!t) (y (ByteArray.mk #[]) h) (Dr h λb=> ∃u,Li b v u∧ ∃i,Li b (v.add 1) i∧ ∃j,Li b (v.add 2) j∧Cx 105 [vI u] b λx p=> ∃c,x= .string c∧(((c.size+(ByteArray.mk #[46]).size:Nat):Int)≤maxI)∧Cx 105 [vI i] p λq r=> ∃a,q= .string a∧((((c++(ByteArray.mk #[46])).size+a.size:Nat):Int)≤maxI)∧(((((c++(ByteArray.mk #[46]))++a).size+(ByteArray.mk #[46]).size:Nat):Int)≤maxI)∧Cs 105 [vI j] r λs k=> ∃g,s= .string g∧((((((c++(ByteArray.mk #[46]))++a)++(ByteArray.mk #[46])).size+g.size:Nat):Int)≤maxI)∧y ((((c++(ByteArray.mk #[46]))++a)++(ByteArray.mk #[46]))++g) k))
theorem Zeg.go{u a0 a1 w k}(h:Zeg u a0 a1 w λa2 a3=>k (vT a2) a3):Cs 99 [(Aiii u a0 a1)] w k:=rg (.q (.s (.q (.k .y)) .y)) func99 h
def Zf2(u:Option Addr)(a:ByteArray)(t:Sl)(v:World)(x:World→Prop):Prop:=
 loop1 0 v λc j m=>(If (c<(t.len:Int)) (∃r,Ix t c r∧ ∃f g,Lts j (r.add (c.toNat*2)) f g∧N152 j λs n=>stw n s [vT f,Sl.v g] λo=>Dr o λe=>(((a.size+(ByteArray.mk #[32]).size:Nat):Int)≤maxI)∧ ∃b,Lt e s b∧((((a++(ByteArray.mk #[32])).size+b.size:Nat):Int)≤maxI)∧(((((a++(ByteArray.mk #[32]))++b).size+(ByteArray.mk #[32]).size:Nat):Int)≤maxI)∧ ∃h,Ls e (s.add 1) h∧Cx 79 [Sl.v h] e λy p=> ∃d,y= .string d∧((((((a++(ByteArray.mk #[32]))++b)++(ByteArray.mk #[32])).size+d.size:Nat):Int)≤maxI)∧(((((((a++(ByteArray.mk #[32]))++b)++(ByteArray.mk #[32]))++d).size+(ByteArray.mk #[10]).size:Nat):Int)≤maxI)∧callS prog 77 [.pointer u,(vT (((((a++(ByteArray.mk #[32]))++b)++(ByteArray.mk #[32]))++d)++(ByteArray.mk #[10])))] p λq k=> ∃l i,q=(Value.tuple #[vI l,i])∧m (Za (c+1)) k) (x j))
theorem Zf2.go{b word l w k}(h:Zf2 b word l w λu=>k (Value.tuple #[]) u):Cs 100 (Bpts b word l) w k:=rg (.q (.b (.l [(10,4)] (.q (.s .x (.s (.b (.q (.r []))) (.r []))))))) func100 h
def Z4(a:Sl)(e:World)(f:Sl→World→Prop):Prop:=
 (If (a.a=none) (f Sl.nil e) (newS e [] 193 λg c=>appS prog 150 150 (Sl.mk (some g) 0 0) (Sl.v a) c λd b=>f d b))
theorem Z4.go{u w k}(h:Z4 u w λa0 a1=>k (Sl.v a0) a1):Cs 101 [Sl.v u] w k:=rg (.q (.s (.q (.k .y)) .y)) func101 h
def Zb5(a:Int)(b:World)(c:Bool→World→Prop):Prop:=
 bnd (decide (0≤a)) λ(d:Bool)=>c (d&&(decide (a≤999))) b
theorem Zb5.go{n w k}(h:Zb5 n w λu a0=>k (vB u) a0):Cs 102 [vI n] w k:=rg (.q .y) func102 h
def Zbj(l m n:Int)(z:World)(y:ByteArray→World→Prop):Prop:=
 newS z (Biii l m n) 50 λv o=> ∃d e f,Liii o v d e f∧Cs 46 [(Aiii d e f)] o λa0 h=> ∃t,a0= .bool t∧(Ib (!t) (y (ByteArray.mk #[]) h) (Dr h λb=> ∃u,Li b v u∧ ∃i,Li b (v.add 1) i∧ ∃j,Li b (v.add 2) j∧Cx 178 [vI u] b λx p=> ∃c,x= .string c∧(((c.size+(ByteArray.mk #[46]).size:Nat):Int)≤maxI)∧Cx 178 [vI i] p λq r=> ∃a,q= .string a∧((((c++(ByteArray.mk #[46])).size+a.size:Nat):Int)≤maxI)∧(((((c++(ByteArray.mk #[46]))++a).size+(ByteArray.mk #[46]).size:Nat):Int)≤maxI)∧Cs 178 [vI j] r λs k=> ∃g,s= .string g∧((((((c++(ByteArray.mk #[46]))++a)++(ByteArray.mk #[46])).size+g.size:Nat):Int)≤maxI)∧y ((((c++(ByteArray.mk #[46]))++a)++(ByteArray.mk #[46]))++g) k))
theorem Zbj.go{u a0 a1 w k}(h:Zbj u a0 a1 w λa2 a3=>k (vT a2) a3):Cs 103 [(Aiii u a0 a1)] w k:=rg (.q (.s (.q (.k .y)) .y)) func103 h
def Zli(b7:Sl)(c7:World)(c5:Bool→World→Prop):Prop:=
 newS c7 [Sl.v b7] 38 λc4 j=> ∃c2,Ls j c4 c2∧bnd (decide ((c2.len:Int)<1)) λ(c6:Bool)=> ∃b1,Gs (!c6) j c4 b1∧(Ib (c6||(decide (128<(b1.len:Int)))) (c5 false j) (∃n,Ls j c4 n∧loop1 0 j λd k b8=>(If (d<(n.len:Int)) (∃c3,Ix n d c3∧ ∃o p q r s t,Zjg k (c3.add (d.toNat*6)) o p q r s t∧N72 k λe b9=>stw b9 e (Ziy o p q r s t) λb0=> ∃b2,Lt b0 e b2∧Cs 39 [vT b2] b0 λc8 l=> ∃i,c8= .bool i∧ ∃u v x,Giii i l (e.add 1) u v x∧gCall i (λ(f:Bool) (a:World)=>join (λ(a7:Bool) (b:World)=>bnd (!a7) λ(g:Bool)=> ∃y z a0 a1 a2 a3,Z37 (!g) b e y z a0 a1 a2 a3∧ ∃b3,Gs (!g) b c4 b3∧gCall (!g) (λ(h:Bool) (c:World)=>(Ib (g||(!h)) (c5 false c) (b8 (Za (d+1)) c))) (λb6=>Cs 179 [(Zxw y z a0 a1 a2 a3),(vI (b3.len:Int))] b λc0 c=> ∃h,c0= .bool h∧b6 h c) (λb6=>b6 false b)) λm=>(If (d=0) (∃b4,Lt a e b4∧bnd (bEq b4 (ByteArray.mk #[])) λ(a8:Bool)=> ∃a4 a5 a6,Giii a8 a (e.add 1) a4 a5 a6∧bnd (a8&&((a4==0)&&((a5==0)&&((a6==0)&&true)))) λ(a9:Bool)=> ∃b5,Gs a9 a (e.add 4) b5∧m (a9&&((b5.len:Int)==0)) a) (m (i&&f) a))) (λb6=>Cs 40 [(Aiii u v x)] l λc1 a=> ∃f,c1= .bool f∧b6 f a) (λb6=>b6 false l)) (c5 true k))))
theorem Zli.go{u w k}(h:Zli u w λa0 a1=>k (vB a0) a1):Cs 104 [(.agg #[Sl.v u])] w k:=rg (.q (.s (.q (.k .y)) (.s (.q (.b (.l [(19,4)] (.q (.s .x (.s (.b (.q (.s (.r [27]) (.j [(5,5)] (.q (.c (.r []) .o)) (.q (.k .y)))))) (.r []))))))) .y))) func104 h
def Ziv(d8 e9:Sl)(g2:World)(f0:Sl→Int→World→Prop):Prop:=
 newS g2 [Sl.v d8] 55 λf1 g0=>newS g0 [Sl.v e9] 38 λc3 c7=> ∃t,Ls c7 f1 t∧Cs 66 [(.agg #[Sl.v t])] c7 λg3 q=> ∃c8,g3= .int .i64 c8∧(If (¬c8=0) (f0 Sl.nil 42 q) (∃u,Ls q c3 u∧Cs 181 [(.agg #[Sl.v u])] q λg1 r=> ∃c9,g1= .bool c9∧(Ib (!c9) (f0 Sl.nil 33 r) (∃v,Ls r f1 v∧semS prog (Instr.makeSlice 132 (vI (v.len:Int)) (vI (v.len:Int))) r λf2 f3=> ∃d,f2=Sl.v d∧loop1 0 f3 λm s f4=>(If (m<(d.len:Int)) (∃f9,Ix d m f9∧stw s (f9.add (m.toNat*1)) [(vI (-1))] λe0=>f4 (Za (m+1)) e0) (∃x,Ix d 0 x∧stw s (x.add ((0:Int).toNat*1)) [vI 0] λe1=>newS e1 [vI 0] 3 λf5 e2=>loop1 (Sl.mk (some f5) 1 1) e2 λe i c4=>(If (0<(e.len:Int)) (∃y,Ix e 0 y∧ ∃o,Li i (y.add ((0:Int).toNat*1)) o∧((0:Int)≤1∧1≤(e.len:Int))∧Dr i λh=> ∃d0,Ls h c3 d0∧ ∃z,Ix d o z∧ ∃a0,Li h (z.add (o.toNat*1)) a0∧ ∃a1,Ix d0 a0 a1∧ ∃a2,Ls h ((a1.add (a0.toNat*6)).add 5) a2∧loop2 (Sl.cut e ((1:Int).toNat) e.len 1) 0 h λf n j c5=>(If (n<(a2.len:Int)) (join (λ(p:Sl) (d9:World)=>c5 p (Za (n+1)) d9) λf6=> ∃a3,Ix a2 n a3∧ ∃a4 a5,Lti j (a3.add (n.toNat*2)) a4 a5∧N80 j λg e3=>stw e3 g [vT a4,vI a5] λk=> ∃a6,Ls k f1 a6∧ ∃d1,Lt k g d1∧Cs 182 [(.agg #[Sl.v a6]),vI o,vT d1] k λf7 e4=> ∃b,f7= .int .i64 b∧Dr e4 λa=>bnd (decide (b<0)) λ(c6:Bool)=> ∃d2,Gs (!c6) a f1 d2∧ ∃a7,Gx (!c6) d2 b a7∧ ∃d3,Gt (!c6) a ((a7.add (b.toNat*9)).add 1) d3∧ ∃d4,Gs (!c6) a c3 d4∧ ∃a8,Gi (!c6) a (g.add 1) a8∧ ∃a9,Gx (!c6) d4 a8 a9∧ ∃d5,Gt (!c6) a (a9.add (a8.toNat*6)) d5∧bnd (c6||(!bEq d3 d5)) λ(c:Bool)=> ∃d6,Gs (!c) a f1 d6∧ ∃b0,Gx (!c) d6 b b0∧ ∃b1 b2 b3,Giii (!c) a (((b0.add (b.toNat*9)).add 1).add 1) b1 b2 b3∧ ∃d7,Gs (!c) a c3 d7∧ ∃b4,Gi (!c) a (g.add 1) b4∧ ∃b5,Gx (!c) d7 b4 b5∧ ∃b6 b7 b8,Giii (!c) a ((b5.add (b4.toNat*6)).add 1) b6 b7 b8∧(Ib (c||(!((b1==b6)&&((b2==b7)&&((b3==b8)&&true))))) (f0 Sl.nil 42 a) (∃b9,Ix d b b9∧ ∃l,Li a (b9.add (b.toNat*1)) l∧(If (l=(-1)) (∃c0,Li a (g.add 1) c0∧ ∃c1,Ix d b c1∧stw a (c1.add (b.toNat*1)) [vI c0] λe5=>newS e5 [vI b] 3 λf8 e6=>appS prog 132 132 f (Sl.v (Sl.mk (some f8) 1 1)) e6 λe7 e8=>f6 e7 e8) (∃c2,Li a (g.add 1) c2∧(If (l=c2) (f6 f a) (f0 Sl.nil 42 a))))))) (c4 f j))) (f0 d 0 i))))))))
theorem Ziv.go{u a0 w k}(h:Ziv u a0 w λa1 a2 a3=>k (Value.tuple #[Sl.v a1,vI a2]) a3):Cs 106 [(.agg #[Sl.v u]),(.agg #[Sl.v a0])] w k:=rg (.q (.s (.q (.k .y)) (.s (.q (.k .y)) (.q (.s (.q (.b (.l [(25,4)] (.q (.s .x (.s (.b (.q (.r []))) (.r []))))))) (.q (.q (.s (.b (.l [(8,133)] (.s (.q .x) (.b (.q (.q (.q (.b (.l [(8,133),(53,4)] (.q (.s .x (.j [(8,133)] (.b (.q (.q (.s (.q (.k .y)) (.q (.b (.q (.c (.q (.r [])) (.q (.c .o .y)))))))))) (.r []))))))))))))) .y)))))))) func106 h
def Zau(f g:Sl)(l:World)(k:Bool→World→Prop):Prop:=
 (If (¬(f.len:Int)=(g.len:Int)) (k false l) (loop1 0 l λa h i=>(If (a<(f.len:Int)) (Dr h λb=> ∃j,Ix f a j∧ ∃c,Lt b (j.add (a.toNat*1)) c∧ ∃d,Ix g a d∧ ∃e,Lt b (d.add (a.toNat*1)) e∧(If (¬c=e) (k false b) (i (Za (a+1)) b))) (k true h))))
theorem Zau.go{u a0 w k}(h:Zau u a0 w λa1 a2=>k (vB a1) a2):Cs 107 [Sl.v u,Sl.v a0] w k:=rg (.q (.s (.q (.k .y)) (.s (.q (.b (.l [(13,4)] (.q (.s .x (.s (.b (.q (.q (.k .y)))) (.r []))))))) .y))) func107 h
def Zfz(a:Sl)(h:World)(g:Int→World→Prop):Prop:=
 loop1 0 h λc d e=>(If (c<(a.len:Int)) (∃f,Ix a c f∧ ∃b,Li d (f.add (c.toNat*1)) b∧(If (¬b=0) (g b d) (e (Za (c+1)) d))) (g 0 d))
theorem Zfz.go{u w k}(h:Zfz u w λa0 a1=>k (vI a0) a1):Cs 111 [Sl.v u] w k:=rg (.q (.q (.s (.q (.b (.l [(8,4)] (.q (.s .x (.s (.b (.q (.q (.k .y)))) (.r []))))))) .y))) func111 h
def Zbl(e f:Int)(i:World)(c:Int→World→Prop):Prop:=
 Cs 184 [vI e] i λj g=> ∃d,j= .bool d∧Cs 184 [vI f] g λh a=> ∃b,h= .bool b∧(Ib d ((Ib b (c 0 a) (c (-1) a))) ((Ib b (c 1 a) ((If (e<f) (c (-1) a) ((If (f<e) (c 1 a) (c 0 a))))))))
theorem Zbl.go{x y w k}(h:Zbl x y w λu a0=>k (vI u) a0):Cs 112 [vI x,vI y] w k:=rg (.q (.q (.q (.s (.q (.c (.s (.q (.k .y)) .y) .o)) (.s (.q (.k .y)) (.s (.q (.k .y)) (.s (.q (.k .y)) .y))))))) func112 h
def Zc8(n o p q r s:Int)(a5:World)(a6:Int→World→Prop):Prop:=
 newS a5 (Biii n o p) 50 λa3 a4=>newS a4 (Biii q r s) 50 λi t=>Dr t λa=> ∃a0,Li a a3 a0∧ ∃a1,Li a i a1∧ ∃b,Li a (a3.add 1) b∧ ∃c,Li a (i.add 1) c∧ ∃d,Li a (a3.add 2) d∧ ∃e,Li a (i.add 2) e∧Cx 112 [vI a0,vI a1] a λa7 u=> ∃a2,a7= .int .i64 a2∧Cx 112 [vI b,vI c] u λv j=> ∃f,v= .int .i64 f∧Cs 112 [vI d,vI e] j λx k=> ∃g,x= .int .i64 g∧newS k (Biii a2 f g) 3 λy l=>Cs 111 [(Sl.v (Sl.mk (some y) 3 3))] l λz m=> ∃h,z= .int .i64 h∧a6 h m
theorem Zc8.go{u a0 a1 a2 a3 a4 w k}(h:Zc8 u a0 a1 a2 a3 a4 w λa5 a6=>k (vI a5) a6):Cs 117 [(Aiii u a0 a1),(Aiii a2 a3 a4)] w k:=rg (.q .y) func117 h
def Zjx(l:Int)(p q:ByteArray)(m:Int)(n:ByteArray)(r:Int)(x:World)(u:ByteArray→Sl→Int→World→Prop):Prop:=
 newS x (Zqi l p q m n r) 64 λv t=>N152 t λf g=> ∃s,Lt g (v.add 2) s∧Cs 196 [vT s] g λz a=> ∃o j,z=Z4a o j∧bnd (!(j==0)) λ(y:Bool)=>(Ib (y||((o.len:Int)==0)) (stw a f [(vT (ByteArray.mk #[])),(Sl.v Sl.nil)] λh=> ∃b c,Lts h f b c∧u b c 21 h) (∃k,Lt a (v.add 1) k∧stw a f [vT k,Sl.v o] λi=> ∃d e,Lts i f d e∧u d e 0 i))
theorem Zjx.go{u a2 a3 a0 a1 a4 w k}(h:Zjx u a2 a3 a0 a1 a4 w λa5 a6 a7 a8=>k (Value.tuple #[(.agg #[vT a5,Sl.v a6]),vI a7]) a8):Cs 118 [(Zix u a2 a3 a0 a1 a4)] w k:=rg (.q (.q (.s (.q (.k .y)) .y))) func118 h
def Zir(a0:Sl)(g:ByteArray)(h:Sl)(a2:World)(a3:Sl→World→Prop):Prop:=
 newS a2 [vT g,Sl.v h] 152 λa1 x=>join (λ(f:Sl) (n:World)=>Cs 76 [Sl.v f,(Value.func (.func 197) #[] #[])] n λa4 o=>a4= .tuple #[]∧a3 f o) λp=>Dr x λc=> ∃m,Lt c a1 m∧ ∃a b,Lts c a1 a b∧((Cx 120 [Sl.v a0,vT m] c λy q=> ∃v,y=Sl.v v∧newS q [vT a,Sl.v b] 152 λz r=>appS prog 23 23 v (Sl.v (Sl.mk (some z) 1 1)) r λs i=>p s i)∧(newS c [vT a,Sl.v b] 152 λt j=>Cx 120 [Sl.v a0,vT m] j λu k=> ∃d,u=Sl.v d∧appS prog 23 23 d (Sl.v (Sl.mk (some t) 1 1)) k λe l=>p e l))
theorem Zir.go{l u a0 w k}(h:Zir l u a0 w λa1 a2=>k (Sl.v a1) a2):Cs 119 [Sl.v l,(.agg #[vT u,Sl.v a0])] w k:=rg (.q (.j [(5,24)] (.r []) (.q .y))) func119 h
def Zcj(h:Sl)(a:ByteArray)(i:World)(j:Sl→World→Prop):Prop:=
 newS i [vT a] 9 λk f=>Cs 199 [Sl.v h] f λl b=> ∃d,l=Sl.v d∧Cs 198 [Sl.v d,(Value.func (.func 200) #[] #[vP k])] b λg c=> ∃e,g=Sl.v e∧j e c
theorem Zcj.go{l u w k}(h:Zcj l u w λa0 a1=>k (Sl.v a0) a1):Cs 120 [Sl.v l,vT u] w k:=rg (.q .y) func120 h
def Zhm(b0:ByteArray)(z a0 a1:Int)(b1 a2 a3:Sl)(b2:ByteArray)(a4 a5 a6:Int)(a7 a8 a9:Sl)(c0:World)(c1:Bool→World→Prop):Prop:=
 newS c0 (Zaj b0 z a0 a1 b1 a2 a3) 52 λb3 b9=>newS b9 (Zaj b2 a4 a5 a6 a7 a8 a9) 52 λj b=> ∃b6,Lt b b3 b6∧ ∃b7,Lt b j b7∧bnd (bEq b6 b7) λ(b8:Bool)=> ∃l m n,Giii b8 b (b3.add 1) l m n∧ ∃o p q,Giii b8 b (j.add 1) o p q∧bnd (b8&&((l==o)&&((m==p)&&((n==q)&&true)))) λ(r:Bool)=> ∃s,Gs r b (b3.add 4) s∧ ∃t,Gs r b (j.add 4) t∧gCall r (λ(e:Bool) (c:World)=>bnd (r&&e) λ(f:Bool)=> ∃u,Gs f c (b3.add 5) u∧ ∃v,Gs f c (j.add 5) v∧gCall f (λ(g:Bool) (a:World)=>bnd (f&&g) λ(h:Bool)=> ∃x,Gs h a (b3.add 6) x∧ ∃y,Gs h a (j.add 6) y∧gCall h (λ(i:Bool) (d:World)=>c1 (h&&i) d) (λk=>Cs 201 [Sl.v x,Sl.v y] a λb4 d=> ∃i,b4= .bool i∧k i d) (λk=>k false a)) (λk=>Cs 201 [Sl.v u,Sl.v v] c λb5 a=> ∃g,b5= .bool g∧k g a) (λk=>k false c)) (λk=>Cs 201 [Sl.v s,Sl.v t] b λc2 c=> ∃e,c2= .bool e∧k e c) (λk=>k false b)
theorem Zhm.go{b0 u a0 a1 b1 a2 a3 b2 a4 a5 a6 a7 a8 a9 w k}(h:Zhm b0 u a0 a1 b1 a2 a3 b2 a4 a5 a6 a7 a8 a9 w λb3 b4=>k (vB b3) b4):Cs 121 [(Zv b0 u a0 a1 b1 a2 a3),(Zv b2 a4 a5 a6 a7 a8 a9)] w k:=rg (.q .y) func121 h
def Zf3(k:Int)(a:Value)(l:World)(j:Bool→World→Prop):Prop:=
 loop1 1 l λb f g=>(If (b<k) (callV prog a [(vI (Za (b - 1)))] f λm h=> ∃d,m= .string d∧callV prog a [vI b] h λi c=> ∃e,i= .string e∧(Ib (!bLt d e) (j false c) (g (Za (b+1)) c))) (j true f))
theorem Zf3.go{n u w k}(h:Zf3 n u w λa0 a1=>k (vB a0) a1):Cs 126 [vI n,u] w k:=rg (.q (.s (.q (.b (.l [(5,4)] (.s (.q .x) (.s (.b (.q (.k .y))) (.r [])))))) .y)) func126 h
def Zz(b:Sl)(d:Value)(e:World)(f:Bool→World→Prop):Prop:=
 Cs 202 [Sl.v b,d] e λg c=> ∃a,g= .int .i64 a∧f (decide (0≤a)) c
theorem Zz.go{u f w k}(h:Zz u f w λa0 a1=>k (vB a0) a1):Cs 131 [Sl.v u,f] w k:=rg (.q .y) func131 h
def Zd4(a:ByteArray)(b c d:Int)(h:Addr)(i:World)(j:Bool→World→Prop):Prop:=
 newS i (Ze4 a b c d) 78 λk e=> ∃f,Lt e k f∧ ∃g,Lt e h g∧j (bEq f g) e
theorem Zd4.go{u:ByteArray}{a0 a1 a2:Int}{a3:Addr}{w:World}{k:Value→World→Prop}(h:Zd4 u a0 a1 a2 a3 w λa4 a5=>k (Value.bool a4) a5):callS prog 132 [(.agg #[.string u, .int .i64 a0, .int .i64 a1, .int .i64 a2]),(Value.pointer (some a3))] w k:=rgo (sk:=(.s (.r []) (.s (.r []) .o))) (args:= [sv (.agg #[.string u, .int .i64 a0, .int .i64 a1, .int .i64 a2]),sa a3]) func132 (Eq.mpr kR h)
def Zcw(k:Option Addr)(a:Sl)(b:ByteArray)(m:World)(l:Int→World→Prop):Prop:=
 Cs 136 [Sl.v a,vT b] m λo h=> ∃e,o=Sl.v e∧Cs 206 [.pointer k,Sl.v e] h λi d=> ∃c,i= .int .i64 c∧bnd (decide (0≤c)) λ(n:Bool)=>(Ib (n||((a.len:Int)==0)) (l c d) (((0:Int)≤(Za ((a.len:Int) - 1))∧(Za ((a.len:Int) - 1))≤(a.cap:Int))∧Cs 133 [.pointer k,(Sl.v (Sl.cut a 0 ((Za ((a.len:Int) - 1)).toNat) 1)),vT b] d λj g=> ∃f,j= .int .i64 f∧l f g))
theorem Zcw.go{p u a0 w k}(h:Zcw p u a0 w λa1 a2=>k (vI a1) a2):Cs 133 (Bpst p u a0) w k:=rg (.q (.s (.q (.q (.k .y))) .y)) func133 h
def Zds(d0:Option Addr)(e:Sl)(d1:ByteArray)(d2:Int)(e8:World)(e7:Sl→World→Prop):Prop:=
 newS e8 [vT d1,vI d2] 80 λe3 e4=>loop2 Sl.nil 0 e4 λb d m d4=>(If (d<(Za ((e.len:Int)+1))) (join (λ(l:Sl) (d3:World)=>d4 l (Za (d+1)) d3) λd5=> ∃b2,Lt m e3 b2∧Cs 208 [.pointer d0,Sl.v e,vI d,vT b2] m λe9 b1=> ∃b3,e9= .bool b3∧(Ib b3 (((0:Int)≤d∧d≤(e.cap:Int))∧newS b1 [(Sl.v (Sl.cut e 0 d.toNat 1))] 102 λe5 d6=>appS prog 294 294 b (Sl.v (Sl.mk (some e5) 1 1)) d6 λd7 d8=>d5 d7 d8) (d5 b b1))) (join (λ(b0:World)=> ∃e2,Ix b 0 e2∧ ∃b4,Ls b0 (e2.add ((0:Int).toNat*1)) b4∧e7 b4 b0) λn=>loop1 0 m λi c a9=>(If (i<(b.len:Int)) (∃o,Ix b i o∧ ∃p,Ls c (o.add (i.toNat*1)) p∧ ∃b5,d0=some b5∧ ∃b6,Lp c (b5.add 6) b6∧(If (b6=none) (n c) (Dr c λg=> ∃b7,d0=some b7∧ ∃b8,Lp g (b7.add 6) b8∧ ∃b9,b8=some b9∧ ∃q,Ls g b9 q∧ ∃c0,Lt g e3 c0∧Cx 136 [Sl.v p,vT c0] g λd9 c8=> ∃c1,d9=Sl.v c1∧Cs 205 [(.agg #[Sl.v q]),Sl.v c1] c8 λe0 c9=> ∃j,e0= .int .i64 j∧Dr c9 λa=>bnd (decide (0≤j)) λ(k:Bool)=> ∃c2,Gn k d0 c2∧ ∃c3,Gp k a (c2.add 6) c3∧ ∃c4,Gn k c3 c4∧ ∃c5,Gs k a c4 c5∧ ∃r,Gx k c5 j r∧ ∃s t u v x y z,Zh0 k a ((r.add (j.toNat*9)).add 1) s t u v x y z∧ ∃c6,Gn k d0 c6∧ ∃c7,Gs k a (c6.add 1) c7∧ ∃a0,Gi k a (e3.add 1) a0∧ ∃a1,Gx k c7 a0 a1∧ ∃a2 a3 a4 a5 a6 a7 a8,Zh0 k a (a1.add (a0.toNat*7)) a2 a3 a4 a5 a6 a7 a8∧gCall k (λ(h:Bool) (f:World)=>(Ib (k&&h) (e7 p f) (a9 (Za (i+1)) f))) (λe6=>Cs 121 [(Zv s t u v x y z),(Zv a2 a3 a4 a5 a6 a7 a8)] a λe1 f=> ∃h,e1= .bool h∧e6 h f) (λe6=>e6 false a)))) (n c))))
theorem Zds.go{p u a0 a1 w k}(h:Zds p u a0 a1 w λa2 a3=>k (Sl.v a2) a3):Cs 135 [.pointer p,Sl.v u,(.agg #[vT a0,vI a1])] w k:=rg (.q (.q (.s (.q (.b (.l [(7,295),(15,4)] (.q (.s .x (.j [(7,295)] (.b (.q (.q (.c (.r []) .o)))) (.r []))))))) (.j [] (.q (.b (.l [(33,4)] (.q (.s .x (.s (.b (.q (.s (.q .x) (.q (.q (.k .y)))))) (.r []))))))) .y)))) func135 h
def Zc6(a:Sl)(b:ByteArray)(h:World)(i:Sl→World→Prop):Prop:=
 Cs 209 [Sl.v a] h λj f=> ∃e,j=Sl.v e∧newS f [vT b] 9 λk c=>appS prog 102 102 e (Sl.v (Sl.mk (some k) 1 1)) c λg d=>i g d
theorem Zc6.go{u a0 w k}(h:Zc6 u a0 w λa1 a2=>k (Sl.v a1) a2):Cs 136 [Sl.v u,vT a0] w k:=rg (.q .y) func136 h
def Zgn(g h i:Int)(o:World)(n:Int→Bool→World→Prop):Prop:=
 newS o (Biii g h i) 50 λm j=> ∃b c d,Liii j m b c d∧Cs 40 [(Aiii b c d)] j λp a=> ∃k,p= .bool k∧(Ib (!k) (n 0 false a) (∃l,Li a m l∧ ∃e,Li a (m.add 1) e∧ ∃f,Li a (m.add 2) f∧n (Za ((Za ((Za ((Za (l*1000))+e))*1000))+f)) true a))
theorem Zgn.go{u a0 a1 w k}(h:Zgn u a0 a1 w λa2 a3 a4=>k (Value.tuple #[vI a2,vB a3]) a4):Cs 139 [(Aiii u a0 a1)] w k:=rg (.q (.s (.q (.k .y)) .y)) func139 h
def Zgl(a6:Sl)(a7:World)(a8:Sl→World→Prop):Prop:=
 loop2 Sl.nil 0 a7 λn a s y=>(If (a<(a6.len:Int)) (∃a2,Ix a6 a a2∧ ∃b c d e f g,Zni s (a2.add (a.toNat*6)) b c d e f g∧N193 s λa3 z=>stw z a3 (Zqh b c d e f g) λo=> ∃h i j,Liii o a3 h i j∧Cs 139 [(Aiii h i j)] o λa9 p=> ∃q v,a9=Ztl q v∧ ∃k l m,Liii p (a3.add 3) k l m∧Cs 139 [(Aiii k l m)] p λa4 a0=> ∃r x,a4=Ztl r x∧newS a0 [vI q,vI r] 236 λa5 t=>appS prog 233 233 n (Sl.v (Sl.mk (some a5) 1 1)) t λa1 u=>y a1 (Za (a+1)) u) (a8 n s))
theorem Zgl.go{l w k}(h:Zgl l w λu a0=>k (Sl.v u) a0):Cs 142 [Sl.v l] w k:=rg (.q (.q (.s (.q (.b (.l [(3,234),(12,4)] (.q (.s .x (.s (.b (.q (.q (.q (.r []))))) (.r []))))))) .y))) func142 h
def Zj7(i:Int)(m:World)(l:Int→Int→Int→Bool→World→Prop):Prop:=
 N50 m λk j=>bnd (decide (i<0)) λ(n:Bool)=>(Ib (n||(decide (1000000000≤i))) (stw j k (Biii 0 0 0) λd=> ∃f g h,Liii d k f g h∧l f g h false d) (stw j k [(vI (Za ((Za (i.tdiv 1000)).tdiv 1000))),(vI (Int.tmod (Za (i.tdiv 1000)) 1000)),(vI (Int.tmod i 1000))] λe=> ∃a b c,Liii e k a b c∧l a b c true e))
theorem Zj7.go{n w k}(h:Zj7 n w λu a0 a1 a2 a3=>k (Value.tuple #[(Aiii u a0 a1),vB a2]) a3):Cs 143 [vI n] w k:=rg (.q (.s (.q (.k .y)) .y)) func143 h
def Zfd(s t u v:Sl)(m:ByteArray)(n:Sl)(a4:World)(a3:Sl→World→Prop):Prop:=
 newS a4 (Zgq s t u v) 25 λa5 a2=>newS a2 [vT m,Sl.v n] 152 λx f=> ∃r,Ls f (a5.add 3) r∧loop1 0 f λb c y=>(If (b<(r.len:Int)) (∃a1,Ix r b a1∧ ∃d e,Lts c (a1.add (b.toNat*2)) d e∧N152 c λo z=>stw z o [vT d,Sl.v e] λa=> ∃g,Lt a o g∧ ∃h,Lt a x h∧(If (g=h) (∃i,Ls a (o.add 1) i∧Cs 101 [Sl.v i] a λa6 p=> ∃j,a6=Sl.v j∧a3 j p) (y (Za (b+1)) a))) (∃k,Ls c (x.add 1) k∧Cs 101 [Sl.v k] c λa0 q=> ∃l,a0=Sl.v l∧a3 l q))
theorem Zfd.go{a1 a2 a3 a4 u a0 w k}(h:Zfd a1 a2 a3 a4 u a0 w λa5 a6=>k (Sl.v a5) a6):Cs 145 [(Zby a1 a2 a3 a4),(.agg #[vT u,Sl.v a0])] w k:=rg (.q (.s (.q (.b (.l [(10,4)] (.q (.s .x (.s (.b (.q (.q (.k .y)))) (.r []))))))) .y)) func145 h
def Zh(c:Sl)(a:Value)(d:World)(e:World→Prop):Prop:=
 Cs 229 [Sl.v c,(vI (c.len:Int)),a] d λf b=>f= .tuple #[]∧e b
theorem Zh.go{x u w k}(h:Zh x u w λa0=>k (Value.tuple #[]) a0):Cs 146 [Sl.v x,u] w k:=rg (.r []) func146 h
def Zjf(f:ByteArray)(b:Int)(c:Sl)(g:ByteArray)(d:Int)(e:Sl)(n:World)(o:Int→World→Prop):Prop:=
 newS n (Btis f b c) 177 λp l=>newS l (Btis g d e) 177 λm a=> ∃i,Lt a p i∧ ∃j,Lt a m j∧Cs 72 [vT i,vT j] a λq h=> ∃k,q= .int .i64 k∧o k h
theorem Zjf.go{a3 u a0 a4 a1 a2 w k}(h:Zjf a3 u a0 a4 a1 a2 w λa5 a6=>k (vI a5) a6):Cs 147 [(Atis a3 u a0),(Atis a4 a1 a2)] w k:=rg (.q .y) func147 h
def Zb3(a:Sl)(b:World)(c:Sl→World→Prop):Prop:=
 ((0:Int)≤0∧0≤(a.len:Int)∧(a.len:Int)≤(a.len:Int)∧(a.len:Int)≤(a.cap:Int))∧c (Sl.mk (if(a.len:Int).toNat=0 then a.a else a.a.map (·.add (0*3))) ((a.len:Int).toNat - 0) ((a.len:Int).toNat - 0)) b
theorem Zb3.go{u w k}(h:Zb3 u w λa0 a1=>k (Sl.v a0) a1):Cs 148 [Sl.v u] w k:=rg (.q .y) func148 h
def Zcx(h:ByteArray)(b c d:Int)(i:ByteArray)(e f g:Int)(p:World)(q:Int→World→Prop):Prop:=
 newS p (Ze4 h b c d) 78 λr n=>newS n (Ze4 i e f g) 78 λo a=> ∃k,Lt a r k∧ ∃l,Lt a o l∧Cs 72 [vT k,vT l] a λs j=> ∃m,s= .int .i64 m∧q m j
theorem Zcx.go{a5 u a0 a1 a6 a2 a3 a4 w k}(h:Zcx a5 u a0 a1 a6 a2 a3 a4 w λa7 a8=>k (vI a7) a8):Cs 149 [(Zfw a5 u a0 a1),(Zfw a6 a2 a3 a4)] w k:=rg (.q .y) func149 h
def Zfu(k7:Option Addr)(h9 i0 i1 i2 o:Sl)(i3:ByteArray)(i4 i5 i6:Int)(l2:World)(k6:Sl→Bool→World→Prop):Prop:=
 newS l2 (Zgq h9 i0 i1 i2) 25 λl4 k8=>newS k8 (Ze4 i3 i4 i5 i6) 78 λk9 u=>(If (k7=none) (k6 Sl.nil false u) (∃z a0 a1 a2,Zfh u k9 z a0 a1 a2∧newS u (Ze4 z a0 a1 a2) 78 λl0 i8=>loop3 (Sl.mk (some l0) 1 1) Sl.nil 0 i8 λr b h8 f4 i9=>(If (h8<(r.len:Int)) (join (λ(l3:Addr) (e9:Bool) (p:World)=>(Ib (!e9) (k6 Sl.nil false p) (∃a3 a4 a5 a6 a7 a8 a9,Zcb p l3 a3 a4 a5 a6 a7 a8 a9∧ ∃b0 b1 b2 b3,Zdz p l4 b0 b1 b2 b3∧Cs 232 [(Zv a3 a4 a5 a6 a7 a8 a9),(Zby b0 b1 b2 b3)] p λl5 j0=> ∃b4,l5=Sl.v b4∧loop3 r b 0 j0 λe a s j f1=>(If (s<(b4.len:Int)) (join (λ(f0 h:Sl) (g2:World)=>f1 f0 h (Za (s+1)) g2) λj1=> ∃k5,Ix b4 s k5∧ ∃b5 b6,Lts j (k5.add (s.toNat*2)) b5 b6∧N152 j λt g3=>stw g3 t [vT b5,Sl.v b6] λv=> ∃f7,Lt v t f7∧callS prog 230 [vT f7] v λj2 g4=> ∃f2,j2=f2∧Cs 202 [Sl.v o,f2] g4 λj3 g5=> ∃c,j3= .int .i64 c∧Dr g5 λf=>bnd (decide (c<0)) λ(i7:Bool)=> ∃f8,Gs (!i7) f (t.add 1) f8∧ ∃b7,Gx (!i7) o c b7∧ ∃b8 b9 c0,Giii (!i7) f ((b7.add (c.toNat*4)).add 1) b8 b9 c0∧gCall (!i7) (λ(q:Bool) (d:World)=>(Ib (i7||(!q)) (k6 Sl.nil false d) (∃f9,Lt d t f9∧callS prog 230 [vT f9] d λj4 g6=> ∃f3,j4=f3∧Cs 131 [Sl.v a,f3] g6 λj5 k=> ∃g0,j5= .bool g0∧(Ib (!g0) (∃c1,Ix o c c1∧ ∃c2 c3 c4 c5,Zfh k (c1.add (c.toNat*4)) c2 c3 c4 c5∧newS k (Ze4 c2 c3 c4 c5) 78 λj6 g7=>appS prog 26 26 a (Sl.v (Sl.mk (some j6) 1 1)) g7 λj7 x=> ∃c6,Ix o c c6∧ ∃c7 c8 c9 d0,Zfh x (c6.add (c.toNat*4)) c7 c8 c9 d0∧newS x (Ze4 c7 c8 c9 d0) 78 λj8 g8=>appS prog 26 26 e (Sl.v (Sl.mk (some j8) 1 1)) g8 λj9 g9=>j1 j9 j7 g9) (j1 e a k))))) (λl1=>Cs 85 [Sl.v f8,(Aiii b8 b9 c0)] f λk0 d=> ∃q,k0= .bool q∧l1 q d) (λl1=>l1 false f)) (i9 e a (Za (h8+1)) j))))) λy=>Dr f4 λg=> ∃d1,Ix r h8 d1∧ ∃d2,Lt g (d1.add (h8.toNat*4)) d2∧ ∃d3,Ix r h8 d3∧ ∃l m n,Liii g ((d3.add (h8.toNat*4)).add 1) l m n∧((Cs 31 [.pointer k7,vT d2,(Aiii l m n)] g λk1 h0=> ∃d4 d5 d6 d7 d8 d9 e0 e1,k1=Zb7 d4 d5 d6 d7 d8 d9 e0 e1∧N52 h0 λf5 h1=>stw h1 f5 (Zaj d4 d5 d6 d7 d8 d9 e0) λh2=>y f5 e1 h2)∧(N52 g λf6 h3=>Cs 31 [.pointer k7,vT d2,(Aiii l m n)] h3 λk2 h4=> ∃e2 e3 e4 e5 e6 e7 e8 i,k2=Zb7 e2 e3 e4 e5 e6 e7 e8 i∧stw h4 f6 (Zaj e2 e3 e4 e5 e6 e7 e8) λh5=>y f6 i h5))) (Cs 115 [Sl.v b,(Value.func (.func 233) #[] #[])] f4 λk3 h6=>k3= .tuple #[]∧Cs 234 [Sl.v b] h6 λk4 h7=> ∃g1,k4=Sl.v g1∧k6 g1 true h7))))
theorem Zfu.go{c u a0 a1 a2 env a3 a4 a5 a6 w k}(h:Zfu c u a0 a1 a2 env a3 a4 a5 a6 w λa7 a8 a9=>k (Value.tuple #[Sl.v a7,vB a8]) a9):Cs 150 [.pointer c,(Zby u a0 a1 a2),Sl.v env,(Zfw a3 a4 a5 a6)] w k:=rg (.q (.s (.q (.k .y)) (.q (.q (.q (.s (.q (.b (.l [(11,27),(12,27),(13,4)] (.s (.q .x) (.s (.b (.j [(14,0),(15,5)] (.r []) (.s (.q (.k .y)) (.q (.b (.l [(11,27),(12,27),(50,4)] (.q (.s .x (.j [(11,27),(12,27)] (.b (.q (.q (.s (.q (.k .y)) (.q (.c (.q (.r [])) .o)))))) (.r [])))))))))) (.r [])))))) (.q .y))))))) func150 h
def Za7(a:Sl)(e:World)(f:Sl→World→Prop):Prop:=
 (If (a.a=none) (f Sl.nil e) (newS e [] 72 λg c=>appS prog 36 36 (Sl.mk (some g) 0 0) (Sl.v a) c λd b=>f d b))
theorem Za7.go{u w k}(h:Za7 u w λa0 a1=>k (Sl.v a0) a1):Cs 151 [Sl.v u] w k:=rg (.q (.s (.q (.k .y)) .y)) func151 h
def Zbp(l m:Sl)(r:World)(q:Bool→World→Prop):Prop:=
 (If (¬(l.len:Int)=(m.len:Int)) (q false r) (loop1 0 r λa n o=>(If (a<(l.len:Int)) (Dr n λb=> ∃p,Ix l a p∧ ∃c d e f,Zfh b (p.add (a.toNat*4)) c d e f∧ ∃k,Ix m a k∧ ∃g h i j,Zfh b (k.add (a.toNat*4)) g h i j∧(Ib (!((bEq c g)&&(((d==h)&&((e==i)&&((f==j)&&true)))&&true))) (q false b) (o (Za (a+1)) b))) (q true n))))
theorem Zbp.go{u a0 w k}(h:Zbp u a0 w λa1 a2=>k (vB a1) a2):Cs 152 [Sl.v u,Sl.v a0] w k:=rg (.q (.s (.q (.k .y)) (.s (.q (.b (.l [(13,4)] (.q (.s .x (.s (.b (.q (.q (.k .y)))) (.r []))))))) .y))) func152 h
def Ze(a:Sl)(q:Value)(a7:World)(a5:Sl→World→Prop):Prop:=
 Cs 235 [Sl.v a,q] a7 λa8 x=> ∃b,a8= .int .i64 b∧(If (b=(-1)) (a5 a x) (loop2 b (Za (b+1)) x λo p c y=>(If (p<(a.len:Int)) (join (λ(a2:Int) (v:World)=>y a2 (Za (p+1)) v) λz=> ∃a1,Ix a p a1∧ ∃e f g,Liii c (a1.add (p.toNat*3)) e f g∧N50 c λa3 a0=>stw a0 a3 (Biii e f g) λr=> ∃h i j,Liii r a3 h i j∧callV prog q [(Aiii h i j)] r λa4 d=> ∃s,a4= .bool s∧(Ib (!s) (∃k l m,Liii d a3 k l m∧ ∃n,Ix a o n∧stw d (n.add (o.toNat*3)) (Biii k l m) λt=>z (Za (o+1)) t) (z o d))) (((0:Int)≤o∧o≤(a.len:Int))∧semS prog (Builtin.clear_ #[178] 0 #[(Sl.v (Sl.cut a o.toNat a.len 3))]) c λa6 u=>((0:Int)≤o∧o≤(a.cap:Int))∧a5 (Sl.cut a 0 o.toNat 3) u))))
theorem Ze.sound(vs:Sl)(del:Value)(w:World)(R:Sl→World→Prop)(h:Ze vs del w R):callS prog 153 [(Sl.v vs),del] w (λv w'=> ∃(r0:Sl),v=(Sl.v r0)∧R r0 w'):=by
 unfold Ze at h
 refine Zi0 42 rfl func153 rfl kR sI ?_
 refine Vc.seq ?_
 refine Vc.region ?_
 refine Zaq rfl rfl (Sl.v Sl.nil) (λw=>kR) ?_
 refine Zba ?_
 refine Vc.seq ?_
 refine Vc.region ?_
 refine Zbx 2 [(9,del),(8,(Sl.v vs))] kR ?_
 refine Zda rfl (Zjt rfl kR (callS.mono h λv vw h=> ?_))
 obtain⟨t10,rfl,h⟩:=h
 refine Zaq rfl rfl (Value.int .i64 t10) (λw=>kR) ?_
 refine Zba ?_
 refine Vc.seq ?_
 refine Vc.seq ?_
 refine Vc.region ?_
 refine Zbx 2 [(12,(Value.bool (t10==(-1)))),(11,(Value.int .i64 t10))] kR ?_
 refine Zba ?_
 refine Vc.cond (t10==(-1)) kR (λhb=> ?_) (λhb=> ?_)
 ·have h:=h.1 (eq_of_beq hb)
  refine Vc.seq ?_
  refine Vc.region ?_
  refine Zbx 2 [(4,(Sl.v vs)),(13,(Sl.v vs))] kR ?_
  refine Zba ?_
  refine Vc.ret ?_
  refine Zlo ?_
  refine Znx (Sl.v vs) (res1 (Zkf kR)) ?_
  exact⟨vs,rfl,h⟩
 ·have h:=h.2 (Zjs hb)
  refine Vc.skip ?_
  refine Vc.seq ?_
  refine Vc.seq ?_
  refine Vc.region ?_
  refine Zbx 3 [(6,(Value.int .i64 (Za (t10+1)))),(15,(Value.int .i64 (Za (t10+1)))),(14,(Value.int .i64 t10))] kR ?_
  refine Zba ?_
  refine Vc.block ?_
  obtain⟨vI,mu,h,hr⟩:=h
  refine Vc.loopJ (σ:=Int×Int) [5,6] [7,16,17,18,19,20,21,22,23,24,25,26,27,28,29,30,31,32,33,34,35] (λs=> [(5,(Value.int .i64 s.1)),(6,(Value.int .i64 s.2))]) (λs w=>vI s.1 s.2 w) (λs w=>mu s.1 s.2 w) (t10,(Za (t10+1))) h (λ_=>rfl) kR ?_
  rintro⟨i,vj⟩ vw1 j h
  have h:=hr i vj vw1 h
  refine Vc.seq ?_
  refine Vc.seq ?_
  refine Vc.region ?_
  refine Zbx 4 [(19,(Value.bool (decide (vj<(vs.len:Int))))),(18,(Value.int .i64 (vs.len:Int))),(17,(Sl.v vs)),(16,(Value.int .i64 vj))] kR ?_
  refine Zba ?_
  refine Vc.cond (decide (vj<(vs.len:Int))) kR (λhb=> ?_) (λhb=> ?_)
  ·have h:=h.1 (of_decide_eq_true hb)
   refine Vc.skip ?_
   obtain⟨vJ,hJ,h⟩:=Zsk h
   refine Vc.seqJ (σ:=Int) [5] [7,22,23,24,25,26,27,28,29,30,31,32,33,34,35] (λs=> [(5,(Value.int .i64 s))]) (λs w=>vJ s w) (λ_=>rfl) ?_ ?_
   ·refine Vc.block ?_
    refine Vc.seq ?_
    refine Vc.region ?_
    refine Zbx 2 [(23,(Value.int .i64 vj)),(22,(Sl.v vs))] kR ?_
    obtain⟨ad,hi,h⟩:=h
    refine Zaq rfl rfl (Value.pointer (some (ad.add (vj.toNat*3)))) (λw=>by exact Zgd (s:=vs) (el:=50) rfl kR kR kR (λw=>kR) (hi).1 (hi).2.1 (hi).2.2 w) ?_
    obtain⟨zz1i,zz1j,zz1k,hc,h⟩:=h
    refine Zig rfl rfl (Value.agg #[(Value.int .i64 zz1i),(Value.int .i64 zz1j),(Value.int .i64 zz1k)]) (Ze6 rfl kR (Zgj (λw=>kR) (λw=>kR) ((hc)))) ?_
    refine Zda rfl (Zll rfl (λa=>Value.pointer (some a)) kR (newS.mono h λa vw4 hx h=> ?_))
    refine Zda rfl (Zg8 rfl rfl (a:=a) kR (v:=(Value.agg #[(Value.int .i64 zz1i),(Value.int .i64 zz1j),(Value.int .i64 zz1k)])) kR [(Value.int .i64 zz1i),(Value.int .i64 zz1j),(Value.int .i64 zz1k)] kR (λw=>kR) kR (stw.mono h λvw5 h=> ?_))
    refine Zba ?_
    refine Vc.seq ?_
    refine Vc.region ?_
    refine Zaq rfl rfl del (λw=>kR) ?_
    obtain⟨zz1r,zz1s,zz1t,hc6,h⟩:=h
    refine Zig rfl rfl (Value.agg #[(Value.int .i64 zz1r),(Value.int .i64 zz1s),(Value.int .i64 zz1t)]) (Ze6 rfl kR (Zgj (λw=>kR) (λw=>kR) ((hc6)))) ?_
    refine Zda rfl (Zp0 rfl rfl (fv:=del) kR (args:= [(Value.agg #[(Value.int .i64 zz1r),(Value.int .i64 zz1s),(Value.int .i64 zz1t)])]) kR (callV.mono h λv8 vw7 h=> ?_))
    obtain⟨t28,rfl,h⟩:=h
    refine Zaq rfl rfl (Value.bool (!t28)) (λw=>kR) ?_
    refine Zba ?_
    refine Vc.cond (!t28) kR (λhb=> ?_) (λhb=> ?_)
    ·have h:=h.1 (hb)
     refine Vc.seq ?_
     refine Vc.region ?_
     refine Zbx 2 [(31,(Value.int .i64 i)),(30,(Sl.v vs))] kR ?_
     obtain⟨zz20,zz21,zz22,hc10,h⟩:=h
     refine Zig rfl rfl (Value.agg #[(Value.int .i64 zz20),(Value.int .i64 zz21),(Value.int .i64 zz22)]) (Ze6 rfl kR (Zgj (λw=>kR) (λw=>kR) ((hc10)))) ?_
     obtain⟨ad11,hi12,h⟩:=h
     refine Zaq rfl rfl (Value.pointer (some (ad11.add (i.toNat*3)))) (λw=>by exact Zgd (s:=vs) (el:=50) rfl kR kR kR (λw=>kR) (hi12).1 (hi12).2.1 (hi12).2.2 w) ?_
     refine Zda rfl (Zg8 rfl rfl (a:=(ad11.add (i.toNat*3))) kR (v:=(Value.agg #[(Value.int .i64 zz20),(Value.int .i64 zz21),(Value.int .i64 zz22)])) kR [(Value.int .i64 zz20),(Value.int .i64 zz21),(Value.int .i64 zz22)] kR (λw=>kR) kR (stw.mono h λvw13 h=> ?_))
     refine Zba ?_
     refine Vc.region ?_
     refine Zbx 3 [(5,(Value.int .i64 (Za (i+1)))),(35,(Value.int .i64 (Za (i+1)))),(34,(Value.int .i64 i))] kR ?_
     refine Zba ?_
     exact⟨(Za (i+1)),16,⟨rfl,kR,kR,kR⟩,h⟩
    ·have h:=h.2 (hb)
     refine Vc.skip ?_
     exact⟨i,9,⟨rfl,kR,kR,kR⟩,h⟩
   ·intro i2 vw3 j h
    subst hJ
    refine Vc.region ?_
    refine Zbx 3 [(6,(Value.int .i64 (Za (vj+1)))),(21,(Value.int .i64 (Za (vj+1)))),(20,(Value.int .i64 vj))] kR ?_
    refine Zba ?_
    exact⟨(i2,(Za (vj+1))),46,⟨rfl,kR,kR,kR⟩,h⟩
  ·have h:=h.2 (of_decide_eq_false hb)
   refine Vc.exit ?_
   refine Zoa ?_
   refine Vc.seq ?_
   refine Vc.region ?_
   refine Zbx 2 [(37,(Value.int .i64 i)),(36,(Sl.v vs))] kR ?_
   obtain⟨hi14,h⟩:=h
   refine Zaq rfl rfl (Sl.v (Sl.cut vs i.toNat vs.len 3)) (λw=>by exact Zmb (s:=vs) (el:=50) (k1:= .i64) rfl kR kR kR (λw=>kR) (hi14) w) ?_
   refine Zda rfl (Zst rfl (c:=Builtin.clear_ #[178] 0 #[(Sl.v (Sl.cut vs i.toNat vs.len 3))]) kR (semS.mono h λv16 vw15 h=> ?_))
   refine Zba ?_
   refine Vc.seq ?_
   refine Vc.region ?_
   refine Zbx 2 [(40,(Value.int .i64 i)),(39,(Sl.v vs))] kR ?_
   obtain⟨hi17,h⟩:=h
   refine Zaq rfl rfl (Sl.v (Sl.cut vs 0 i.toNat 3)) (λw=>by exact Zma (s:=vs) (el:=50) (k2:= .i64) rfl kR kR kR (λw=>kR) (hi17) w) ?_
   refine Zaq rfl rfl (Sl.v (Sl.cut vs 0 i.toNat 3)) (λw=>kR) ?_
   refine Zba ?_
   refine Vc.ret ?_
   refine Zlo ?_
   refine Znx (Sl.v (Sl.cut vs 0 i.toNat 3)) (res1 (Zkf kR)) ?_
   exact⟨(Sl.cut vs 0 i.toNat 3),rfl,h⟩
theorem Ze.go{a0:Sl}{u:Value}{w:World}{k:Value→World→Prop}(h:Ze a0 u w λa1 a2=>k (Sl.v a1) a2):callS prog 153 [Sl.v a0,u] w k:=(Ze.sound a0 u w _ h).mono (by rintro _ _ ⟨a1,rfl,h⟩; exact h)
def Zw(c5:Option Addr)(p:ByteArray)(c3:World)(c6:Sl→World→Prop):Prop:=
 ∃c4,c5=some c4∧ ∃l,ldc c3 c4 [.map l]∧semS prog (Instr.range 81 (Value.map l)) c3 λc7 c0=> ∃q,c7=(vP q)∧loop1 Sl.nil c0 λd b5 m=>semS prog (Instr.next (vP q) false 0) b5 λc1 h=> ∃b1 c b2 b3 b4 r s t u v x y,c1=Z8e b1 (Zfw c b2 b3 b4) (Zv r s t u v x y)∧(Ib b1 (∃a e f g z a0 a1 a2 a3 a4 a5,(Zlx prog (Instr.entry (vP q)) h (Value.tuple #[(Zfw a e f g),(Zv z a0 a1 a2 a3 a4 a5)]))∧N86 h λc2 a6=>stw a6 c2 (Ze4 a e f g) λb=> ∃n,Lt b c2 n∧(If (n=p) (∃i j k,Liii b (c2.add 1) i j k∧newS b (Biii i j k) 50 λb6 a7=>appS prog 178 178 d (Sl.v (Sl.mk (some b6) 1 1)) a7 λb7 a8=>m b7 a8) (m d b))) (Cs 236 [Sl.v d,(Value.func (.func 237) #[] #[])] h λb8 a9=>b8= .tuple #[]∧Cs 160 [Sl.v d] a9 λb9 b0=> ∃o,b9=Sl.v o∧c6 o b0))
theorem Zw.sound(c:Option Addr)(name:ByteArray)(w:World)(R:Sl→World→Prop)(h:Zw c name w R):callS prog 154 [(Value.pointer c),(Value.string name)] w (λv w'=> ∃(r0:Sl),v=(Sl.v r0)∧R r0 w'):=by
 unfold Zw at h
 refine Zi0 29 rfl func154 rfl kR sI ?_
 refine Vc.seq ?_
 refine Vc.region ?_
 refine Zaq rfl rfl (Sl.v Sl.nil) (λw=>kR) ?_
 refine Zba ?_
 refine Vc.seq ?_
 refine Vc.region ?_
 refine Zaq rfl rfl (Sl.v Sl.nil) (λw=>kR) ?_
 refine Zba ?_
 refine Vc.seq ?_
 refine Vc.seq ?_
 refine Vc.region ?_
 refine Zaq rfl rfl (Value.pointer c) (λw=>kR) ?_
 obtain⟨p,hp,h⟩:=h
 refine Zaq rfl rfl (Value.pointer (some p)) (λw=>by exact Zla rfl kR (hp) w) ?_
 refine Zaq rfl rfl (Value.pointer (some p)) (λw=>kR) ?_
 obtain⟨t10,hc,h⟩:=h
 refine Zig rfl rfl (Value.map t10) (Ze6 rfl kR (Zol (λw=>kR) ((hc)))) ?_
 refine Zda rfl (Zlm rfl (c:=Instr.range 81 (Value.map t10)) kR (semS.mono h λv vw h=> ?_))
 obtain⟨it,rfl,h⟩:=h
 refine Zba ?_
 refine Vc.block ?_
 obtain⟨vI,mu,h,hr⟩:=h
 refine Vc.loopJ (σ:=Sl) [5] [6,12,13,14,15,16,17,18,19,20,21,22,23,24] (λs=> [(5,(Sl.v s))]) (λs w=>vI s w) (λs w=>mu s w) Sl.nil h (λ_=>rfl) kR ?_
 intro out vw1 j h
 have h:=hr out vw1 h
 refine Vc.seq ?_
 refine Vc.region ?_
 refine Zda rfl (Zlm rfl (c:=Instr.next (Value.pointer (some it)) false 0) kR (semS.mono h λv3 vw2 h=> ?_))
 obtain⟨ok,key_name,zzw,zzx,zzy,zz27,zz2a,zz2b,zz2c,zz26,zz29,zz28,rfl,h⟩:=h
 refine Zaq rfl rfl (Value.bool ok) (λw=>by cases ok<;>kernel_rfl) ?_
 refine Zba ?_
 refine Vc.seq ?_
 refine Vc.cond ok kR (λhb=> ?_) (λhb=> ?_)
 ·have hq:=h.1 (hb)
  clear h
  subst hb
  have h:=hq
  clear hq
  refine Vc.skip ?_
  refine Vc.block ?_
  refine Vc.seq ?_
  refine Vc.region ?_
  obtain⟨key_name4,zz1x,zz1y,zz1z,zz6a,zz6d,zz6e,zz6f,zz69,zz6c,zz6b,hl,h⟩:=h
  refine Zig rfl rfl (Value.tuple #[(Value.agg #[(Value.string key_name4),(Value.int .i64 zz1x),(Value.int .i64 zz1y),(Value.int .i64 zz1z)]),(Value.agg #[(Value.string zz6a),(Value.int .i64 zz6d),(Value.int .i64 zz6e),(Value.int .i64 zz6f),(Sl.v zz69),(Sl.v zz6c),(Sl.v zz6b)])]) (Zvf (c:=Instr.entry (Value.pointer (some it))) kR ((hl) _ (Ext.refl _))) ?_
  refine Zaq rfl rfl (Value.agg #[(Value.string key_name4),(Value.int .i64 zz1x),(Value.int .i64 zz1y),(Value.int .i64 zz1z)]) (λw=>kR) ?_
  refine Zda rfl (Zll rfl (λa=>Value.pointer (some a)) kR (newS.mono h λa vw15 hx h=> ?_))
  refine Zda rfl (Zg8 rfl rfl (a:=a) kR (v:=(Value.agg #[(Value.string key_name4),(Value.int .i64 zz1x),(Value.int .i64 zz1y),(Value.int .i64 zz1z)])) kR [(Value.string key_name4),(Value.int .i64 zz1x),(Value.int .i64 zz1y),(Value.int .i64 zz1z)] kR (λw=>kR) kR (stw.mono h λvw16 h=> ?_))
  refine Zba ?_
  refine Vc.seq ?_
  refine Vc.region ?_
  refine Zaq rfl rfl (Value.pointer (some a)) (λw=>kR) ?_
  obtain⟨t17,hc17,h⟩:=h
  refine Zig rfl rfl (Value.string t17) (Ze6 rfl kR (Zol (λw=>kR) ((hc17)))) ?_
  refine Zbx 2 [(19,(Value.bool (bEq t17 name))),(18,(Value.string name))] kR ?_
  refine Zba ?_
  refine Vc.cond (bEq t17 name) kR (λhb=> ?_) (λhb=> ?_)
  ·have h:=h.1 (Zca.1 hb)
   refine Vc.region ?_
   refine Zbx 2 [(21,(Value.pointer (some (a.add 1)))),(20,(Sl.v out))] kR ?_
   obtain⟨zz5r,zz5s,zz5t,hc18,h⟩:=h
   refine Zig rfl rfl (Value.agg #[(Value.int .i64 zz5r),(Value.int .i64 zz5s),(Value.int .i64 zz5t)]) (Ze6 rfl kR (Zgj (λw=>kR) (λw=>kR) ((hc18)))) ?_
   refine Zda rfl (Zll rfl (λa=>Value.slice (some a) 1 1) kR (newS.mono h λa19 vw20 hx h=> ?_))
   refine Zda rfl (Zlm rfl (c:=Builtin.append_ #[178,178] 178 #[(Sl.v out),(Sl.v (Sl.mk (some a19) 1 1))]) kR (appS.elim (ty:=178) h λt24 vw21 h=> ?_))
   refine Zaq rfl rfl (Sl.v t24) (λw=>kR) ?_
   refine Zba ?_
   exact⟨t24,30,⟨rfl,kR,kR,kR⟩,h⟩
  ·have h:=h.2 (Zrl.1 hb)
   refine Vc.skip ?_
   exact⟨out,24,⟨rfl,kR,kR,kR⟩,h⟩
 ·have hq:=h.2 (hb)
  clear h
  subst hb
  have h:=hq
  clear hq
  refine Vc.exit ?_
  refine Zoa ?_
  refine Vc.seq ?_
  refine Vc.region ?_
  refine Zaq rfl rfl (Sl.v out) (λw=>kR) ?_
  refine Zda rfl (Zjt rfl kR (callS.mono h λv23 vw22 h=> ?_))
  obtain⟨rfl,h⟩:=h
  refine Zba ?_
  refine Vc.seq ?_
  refine Vc.region ?_
  refine Zaq rfl rfl (Sl.v out) (λw=>kR) ?_
  refine Zda rfl (Zjt rfl kR (callS.mono h λv25 vw24 h=> ?_))
  obtain⟨t28,rfl,h⟩:=h
  refine Zaq rfl rfl (Sl.v t28) (λw=>kR) ?_
  refine Zba ?_
  refine Vc.ret ?_
  refine Zlo ?_
  refine Znx (Sl.v t28) (res1 (Zkf kR)) ?_
  exact⟨t28,rfl,h⟩
theorem Zw.go{c:Option Addr}{u:ByteArray}{w:World}{k:Value→World→Prop}(h:Zw c u w λa0 a1=>k (Sl.v a0) a1):callS prog 154 [.pointer c, .string u] w k:=(Zw.sound c u w _ h).mono (by rintro _ _ ⟨a0,rfl,h⟩; exact h)
def Zay(e f g:Int)(k:Addr)(l:World)(m:Bool→World→Prop):Prop:=
 newS l (Biii e f g) 50 λn d=> ∃i,Ls d k i∧ ∃a b c,Liii d n a b c∧Cs 85 [Sl.v i,(Aiii a b c)] d λo h=> ∃j,o= .bool j∧m (!j) h
theorem Zay.go{u a0 a1:Int}{a2:Addr}{w:World}{k:Value→World→Prop}(h:Zay u a0 a1 a2 w λa3 a4=>k (Value.bool a3) a4):callS prog 155 [(.agg #[.int .i64 u, .int .i64 a0, .int .i64 a1]),(Value.pointer (some a2))] w k:=rgo (sk:=(.s (.r []) (.s (.r []) .o))) (args:= [sv (.agg #[.int .i64 u, .int .i64 a0, .int .i64 a1]),sa a2]) func155 (Eq.mpr kR h)
def Zd(c:Sl)(a:Value)(d:World)(e:World→Prop):Prop:=
 Cs 238 [Sl.v c,(vI (c.len:Int)),a] d λf b=>f= .tuple #[]∧e b
theorem Zd.go{x u w k}(h:Zd x u w λa0=>k (Value.tuple #[]) a0):Cs 156 [Sl.v x,u] w k:=rg (.r []) func156 h
def Zaz(q r s t u v:Int)(x y:Addr)(a8:World)(a9:Int→World→Prop):Prop:=
 newS a8 (Biii q r s) 50 λb0 a6=>newS a6 (Biii t u v) 50 λa7 z=>Dr z λa=> ∃a4,Ls a x a4∧ ∃a5,Lt a y a5∧ ∃b c d,Liii a a7 b c d∧ ∃h,Ls a x h∧ ∃i,Lt a y i∧ ∃e f g,Liii a b0 e f g∧Cx 159 [Sl.v a4,(Zfw a5 b c d)] a λb1 a0=> ∃j,b1= .bool j∧Cx 158 [vB j] a0 λa1 n=> ∃k,a1= .int .i64 k∧Cs 159 [Sl.v h,(Zfw i e f g)] n λa2 o=> ∃l,a2= .bool l∧Cs 158 [vB l] o λa3 p=> ∃m,a3= .int .i64 m∧a9 (Za (k - m)) p
theorem Zaz.go{u a0 a1 a2 a3 a4:Int}{a5 a6:Addr}{w:World}{k:Value→World→Prop}(h:Zaz u a0 a1 a2 a3 a4 a5 a6 w λa7 a8=>k (Value.int .i64 a7) a8):callS prog 157 [(.agg #[.int .i64 u, .int .i64 a0, .int .i64 a1]),(.agg #[.int .i64 a2, .int .i64 a3, .int .i64 a4]),(Value.pointer (some a5)),(Value.pointer (some a6))] w k:=rgo (sk:=(.s (.r []) (.s (.r []) .o))) (args:= [sv (.agg #[.int .i64 u, .int .i64 a0, .int .i64 a1]),sv (.agg #[.int .i64 a2, .int .i64 a3, .int .i64 a4]),sa a5,sa a6]) func157 (Eq.mpr kR h)
def Zew(a:Bool)(b:World)(c:Int→World→Prop):Prop:=
 (Ib a (c 1 b) (c 0 b))
theorem Zew.go{u w k}(h:Zew u w λa0 a1=>k (vI a0) a1):Cs 158 [vB u] w k:=rg (.q (.s (.q (.k .y)) .y)) func158 h
def Zac(l:Sl)(e:ByteArray)(f g h:Int)(m:World)(n:Bool→World→Prop):Prop:=
 newS m (Ze4 e f g h) 78 λo i=> ∃a b c d,Zfh i o a b c d∧Cs 239 [Sl.v l,(Zfw a b c d)] i λp j=> ∃k,p= .int .i64 k∧n (decide (0≤k)) j
theorem Zac.go{a3 u a0 a1 a2 w k}(h:Zac a3 u a0 a1 a2 w λa4 a5=>k (vB a4) a5):Cs 159 [Sl.v a3,(Zfw u a0 a1 a2)] w k:=rg (.q .y) func159 h
def Za4(a:Sl)(b:World)(c:Sl→World→Prop):Prop:=
 ((0:Int)≤0∧0≤(a.len:Int)∧(a.len:Int)≤(a.len:Int)∧(a.len:Int)≤(a.cap:Int))∧c (Sl.mk (if(a.len:Int).toNat=0 then a.a else a.a.map (·.add (0*3))) ((a.len:Int).toNat - 0) ((a.len:Int).toNat - 0)) b
theorem Za4.go{u w k}(h:Za4 u w λa0 a1=>k (Sl.v a0) a1):Cs 160 [Sl.v u] w k:=rg (.q .y) func160 h
def Z7(b:Sl)(d:Value)(e:World)(f:Bool→World→Prop):Prop:=
 Cs 240 [Sl.v b,d] e λg c=> ∃a,g= .int .i64 a∧f (decide (0≤a)) c
theorem Z7.go{u f w k}(h:Z7 u f w λa0 a1=>k (vB a0) a1):Cs 161 [Sl.v u,f] w k:=rg (.q .y) func161 h
def Zj2(p q r s t u:Int)(x:Addr)(a3:World)(a4:Bool→World→Prop):Prop:=
 newS a3 (Zqh p q r s t u) 193 λa2 v=> ∃d e f,Liii v a2 d e f∧ ∃g h i,Liii v x g h i∧Cs 117 [(Aiii d e f),(Aiii g h i)] v λa5 b=> ∃y,a5= .int .i64 y∧bnd (decide (y≤0)) λ(z:Bool)=> ∃j k l,Giii z b x j k l∧ ∃m n o,Giii z b (a2.add 3) m n o∧gCall z (λ(a:Int) (c:World)=>a4 (z&&(decide (a≤0))) c) (λa0=>Cs 117 [(Aiii j k l),(Aiii m n o)] b λa1 c=> ∃a,a1= .int .i64 a∧a0 a c) (λa0=>a0 0 b)
theorem Zj2.go{u a0 a1 a2 a3 a4:Int}{a5:Addr}{w:World}{k:Value→World→Prop}(h:Zj2 u a0 a1 a2 a3 a4 a5 w λa6 a7=>k (Value.bool a6) a7):callS prog 162 [(.agg #[.int .i64 u, .int .i64 a0, .int .i64 a1, .int .i64 a2, .int .i64 a3, .int .i64 a4]),(Value.pointer (some a5))] w k:=rgo (sk:=(.s (.r []) (.s (.r []) .o))) (args:= [sv (.agg #[.int .i64 u, .int .i64 a0, .int .i64 a1, .int .i64 a2, .int .i64 a3, .int .i64 a4]),sa a5]) func162 (Eq.mpr kR h)
def Z1(d e f:Int)(k:World)(l:Int→World→Prop):Prop:=
 newS k (Biii d e f) 50 λm g=> ∃a b c,Liii g m a b c∧Cs 241 [(Aiii a b c)] g λn h=> ∃i j,n=Ztl i j∧l i h
theorem Z1.go{u a0 a1 w k}(h:Z1 u a0 a1 w λa2 a3=>k (vI a2) a3):Cs 163 [(Aiii u a0 a1)] w k:=rg (.q (.q .y)) func163 h
def Zcz(b6:Sl)(d3:World)(d1:ByteArray→World→Prop):Prop:=
 Cs 87 [Sl.v b6] d3 λd5 c1=> ∃b9,d5= .bool b9∧(Ib (!b9) (d1 (ByteArray.mk #[]) c1) ((If ((b6.len:Int)=0) (d1 (ByteArray.mk #[60,48,46,48,46,48]) c1) (loop2 (ByteArray.mk #[]) 0 c1 λf e g c5=>(If (e<(b6.len:Int)) (join (λ(c0:ByteArray) (c4:World)=>c5 c0 (Za (e+1)) c4) λh=>join (λ(a:ByteArray) (b7:World)=> ∃d0,Ix b6 e d0∧ ∃l m n,Liii b7 (d0.add (e.toNat*6)) l m n∧Cs 103 [(Aiii l m n)] b7 λd2 b8=> ∃c,d2= .string c∧((((ByteArray.mk #[62,61]).size+c.size:Nat):Int)≤maxI)∧ ∃o,Ix b6 e o∧ ∃p q r,Liii b8 ((o.add (e.toNat*6)).add 3) p q r∧Cs 103 [(Aiii p q r)] b8 λc6 i=> ∃d,c6= .string d∧((((ByteArray.mk #[60,61]).size+d.size:Nat):Int)≤maxI)∧ ∃s,Ix b6 e s∧ ∃t u v,Liii i (s.add (e.toNat*6)) t u v∧Cs 163 [(Aiii t u v)] i λc7 j=> ∃x,c7= .int .i64 x∧ ∃y,Ix b6 e y∧ ∃z a0 a1,Liii j ((y.add (e.toNat*6)).add 3) z a0 a1∧Cs 163 [(Aiii z a0 a1)] j λc8 c2=> ∃a2,c8= .int .i64 a2∧Dr c2 λb=> ∃a3,Ix b6 e a3∧ ∃a4 a5 a6,Liii b (a3.add (e.toNat*6)) a4 a5 a6∧ ∃a7,Ix b6 e a7∧ ∃a8 a9 b0,Liii b ((a7.add (e.toNat*6)).add 3) a8 a9 b0∧(Ib ((a4==a8)&&((a5==a9)&&((a6==b0)&&true))) (∃b1,Ix b6 e b1∧ ∃b2 b3 b4,Liii b (b1.add (e.toNat*6)) b2 b3 b4∧Cs 103 [(Aiii b2 b3 b4)] b λc9 c3=> ∃b5,c9= .string b5∧(((a.size+b5.size:Nat):Int)≤maxI)∧h (a++b5) c3) (bnd (x==0) λ(d4:Bool)=>(Ib (d4&&(a2==999999999)) ((((a.size+(ByteArray.mk #[42]).size:Nat):Int)≤maxI)∧h (a++(ByteArray.mk #[42])) b) ((If (x=0) ((((a.size+((ByteArray.mk #[60,61])++d).size:Nat):Int)≤maxI)∧h (a++((ByteArray.mk #[60,61])++d)) b) ((If (a2=999999999) ((((a.size+((ByteArray.mk #[62,61])++c).size:Nat):Int)≤maxI)∧h (a++((ByteArray.mk #[62,61])++c)) b) ((((a.size+((ByteArray.mk #[62,61])++c).size:Nat):Int)≤maxI)∧((((a++((ByteArray.mk #[62,61])++c)).size+(ByteArray.mk #[32]).size:Nat):Int)≤maxI)∧(((((a++((ByteArray.mk #[62,61])++c))++(ByteArray.mk #[32])).size+((ByteArray.mk #[60,61])++d).size:Nat):Int)≤maxI)∧h (((a++((ByteArray.mk #[62,61])++c))++(ByteArray.mk #[32]))++((ByteArray.mk #[60,61])++d)) b))))))))) λk=>(If (0<e) ((((f.size+(ByteArray.mk #[32,124,124,32]).size:Nat):Int)≤maxI)∧k (f++(ByteArray.mk #[32,124,124,32])) g) (k f g))) (d1 f g))))))
theorem Zcz.go{l w k}(h:Zcz l w λu a0=>k (vT u) a0):Cs 164 [Sl.v l] w k:=rg (.q (.s (.q (.k .y)) (.s (.q (.k .y)) (.q (.s (.q (.b (.l [(3,10),(4,4)] (.s (.q .x) (.j [(3,10)] (.b (.j [(3,10)] (.q (.c (.r []) .o)) (.q (.q (.q (.q (.b (.q (.c (.r []) (.q (.c (.r []) (.q (.c (.r []) (.q (.c (.r []) (.r [])))))))))))))))) (.r [])))))) .y))))) func164 h
end Go.Hal.SE
