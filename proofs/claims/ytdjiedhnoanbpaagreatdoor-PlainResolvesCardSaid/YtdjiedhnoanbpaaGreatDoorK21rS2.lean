/- Lemmas for the claim K21r: how the program's functions run, and what they answer; no condition but those that each theorem names. -/
import Derived.Test.YtdjiedhnoanbpaaGreatDoorProg
import Derived.Test.YtdjiedhnoanbpaaGreatDoorK21rA0
set_option linter.unusedVariables false
set_option linter.unusedSimpArgs false
set_option maxHeartbeats 16000000
namespace Go.Hal.SE
open Go.Proofs.Tryz
open Go Go.RowKit Go.Hal Go.Proofs
set_option maxRecDepth 100000
namespace Eq2
theorem Z3u(d:Nat)(a0:Int)(a1:Int)(a2:Int)(b0:Int)(b1:Int)(b2:Int)(w:World):(Op.equalIn (d+2) 50 (.agg #[(Value.int .i64 a0),(Value.int .i64 a1),(Value.int .i64 a2)]) (.agg #[(Value.int .i64 b0),(Value.int .i64 b1),(Value.int .i64 b2)])).run prog w= .ok ((a0==b0)&&((a1==b1)&&((a2==b2)&&true))) w:=
 (eqS kR kR (fs:= [⟨ "Major",3,0,false, "", "",0⟩,⟨ "Minor",3,1,false, "", "",8⟩,⟨ "Patch",3,2,false, "", "",16⟩]) kR (Zr (x:=(Value.int .i64 a0)) (y:=(Value.int .i64 b0)) rfl kR kR (run_equalIn_int w _ 3 .i64 .i64 a0 b0 kR) (Zr (x:=(Value.int .i64 a1)) (y:=(Value.int .i64 b1)) rfl kR kR (run_equalIn_int w _ 3 .i64 .i64 a1 b1 kR) (Zr (x:=(Value.int .i64 a2)) (y:=(Value.int .i64 b2)) rfl kR kR (run_equalIn_int w _ 3 .i64 .i64 a2 b2 kR) Zeh))))
theorem Z3v(d:Nat)(a0:ByteArray)(a1:Int)(a2:Int)(a3:Int)(b0:ByteArray)(b1:Int)(b2:Int)(b3:Int)(w:World):(Op.equalIn (d+3) 78 (.agg #[(Value.string a0),(Value.int .i64 a1),(Value.int .i64 a2),(Value.int .i64 a3)]) (.agg #[(Value.string b0),(Value.int .i64 b1),(Value.int .i64 b2),(Value.int .i64 b3)])).run prog w= .ok ((bEq a0 b0)&&(((a1==b1)&&((a2==b2)&&((a3==b3)&&true)))&&true)) w:=
 (eqS kR kR (fs:= [⟨ "Name",9,0,false, "", "",0⟩,⟨ "Version",50,1,false, "", "",16⟩]) kR (Zr (x:=(Value.string a0)) (y:=(Value.string b0)) rfl kR kR (run_equalIn_string w _ 9 a0 b0 kR) (Zr (x:=(Value.agg #[(Value.int .i64 a1),(Value.int .i64 a2),(Value.int .i64 a3)])) (y:=(Value.agg #[(Value.int .i64 b1),(Value.int .i64 b2),(Value.int .i64 b3)])) rfl kR kR (eqS kR kR (fs:= [⟨ "Major",3,0,false, "", "",0⟩,⟨ "Minor",3,1,false, "", "",8⟩,⟨ "Patch",3,2,false, "", "",16⟩]) kR (Zr (x:=(Value.int .i64 a1)) (y:=(Value.int .i64 b1)) rfl kR kR (run_equalIn_int w _ 3 .i64 .i64 a1 b1 kR) (Zr (x:=(Value.int .i64 a2)) (y:=(Value.int .i64 b2)) rfl kR kR (run_equalIn_int w _ 3 .i64 .i64 a2 b2 kR) (Zr (x:=(Value.int .i64 a3)) (y:=(Value.int .i64 b3)) rfl kR kR (run_equalIn_int w _ 3 .i64 .i64 a3 b3 kR) Zeh)))) Zeh)))
theorem Z78(d:Nat)(a0:Int)(a1:Int)(a2:Int)(a3:Int)(a4:Int)(a5:Int)(b0:Int)(b1:Int)(b2:Int)(b3:Int)(b4:Int)(b5:Int)(w:World):(Op.equalIn (d+3) 193 (.agg #[(Value.int .i64 a0),(Value.int .i64 a1),(Value.int .i64 a2),(Value.int .i64 a3),(Value.int .i64 a4),(Value.int .i64 a5)]) (.agg #[(Value.int .i64 b0),(Value.int .i64 b1),(Value.int .i64 b2),(Value.int .i64 b3),(Value.int .i64 b4),(Value.int .i64 b5)])).run prog w= .ok (((a0==b0)&&((a1==b1)&&((a2==b2)&&true)))&&(((a3==b3)&&((a4==b4)&&((a5==b5)&&true)))&&true)) w:=
 (eqS kR kR (fs:= [⟨ "Lo",50,0,false, "", "",0⟩,⟨ "Hi",50,3,false, "", "",24⟩]) kR (Zr (x:=(Value.agg #[(Value.int .i64 a0),(Value.int .i64 a1),(Value.int .i64 a2)])) (y:=(Value.agg #[(Value.int .i64 b0),(Value.int .i64 b1),(Value.int .i64 b2)])) rfl kR kR (eqS kR kR (fs:= [⟨ "Major",3,0,false, "", "",0⟩,⟨ "Minor",3,1,false, "", "",8⟩,⟨ "Patch",3,2,false, "", "",16⟩]) kR (Zr (x:=(Value.int .i64 a0)) (y:=(Value.int .i64 b0)) rfl kR kR (run_equalIn_int w _ 3 .i64 .i64 a0 b0 kR) (Zr (x:=(Value.int .i64 a1)) (y:=(Value.int .i64 b1)) rfl kR kR (run_equalIn_int w _ 3 .i64 .i64 a1 b1 kR) (Zr (x:=(Value.int .i64 a2)) (y:=(Value.int .i64 b2)) rfl kR kR (run_equalIn_int w _ 3 .i64 .i64 a2 b2 kR) Zeh)))) (Zr (x:=(Value.agg #[(Value.int .i64 a3),(Value.int .i64 a4),(Value.int .i64 a5)])) (y:=(Value.agg #[(Value.int .i64 b3),(Value.int .i64 b4),(Value.int .i64 b5)])) rfl kR kR (eqS kR kR (fs:= [⟨ "Major",3,0,false, "", "",0⟩,⟨ "Minor",3,1,false, "", "",8⟩,⟨ "Patch",3,2,false, "", "",16⟩]) kR (Zr (x:=(Value.int .i64 a3)) (y:=(Value.int .i64 b3)) rfl kR kR (run_equalIn_int w _ 3 .i64 .i64 a3 b3 kR) (Zr (x:=(Value.int .i64 a4)) (y:=(Value.int .i64 b4)) rfl kR kR (run_equalIn_int w _ 3 .i64 .i64 a4 b4 kR) (Zr (x:=(Value.int .i64 a5)) (y:=(Value.int .i64 b5)) rfl kR kR (run_equalIn_int w _ 3 .i64 .i64 a5 b5 kR) Zeh)))) Zeh)))
end Eq2
open Eq2
def Zch(k0:Option Addr)(h2 h3 h4 h5 h6:Sl)(h7:ByteArray)(h8 h9 i0:Int)(k1:World)(j4:Sl→Bool→World→Prop):Prop:=
 newS k1 (Zgq h2 h3 h4 h5) 25 λk3 j6=>newS j6 (Ze4 h7 h8 h9 i0) 78 λj7 f0=> ∃u v x y,Zfh f0 j7 u v x y∧newS f0 (Ze4 u v x y) 78 λj8 i2=>loop2 Sl.nil (Sl.mk (some j8) 1 1) i2 λf1 a f2 i3=>(If (0<(a.len:Int)) (join (λ(k2:Addr) (j5:Bool) (e9:World)=>(Ib (!j5) (j4 Sl.nil false e9) (((0:Int)≤1∧1≤(a.len:Int))∧appS prog 26 26 Sl.nil (Sl.v (Sl.cut a ((1:Int).toNat) a.len 4)) e9 λi4 r=> ∃z a0 a1 a2 a3 a4 a5,Zcb r k2 z a0 a1 a2 a3 a4 a5∧ ∃a6 a7 a8 a9,Zdz r k3 a6 a7 a8 a9∧Cs 242 [(Zv z a0 a1 a2 a3 a4 a5),(Zby a6 a7 a8 a9)] r λk4 g0=> ∃b,k4=Sl.v b∧loop3 f1 i4 0 g0 λo d e6 h e8=>(If (e6<(b.len:Int)) (join (λ(e7 q:Sl) (f9:World)=>e8 e7 q (Za (e6+1)) f9) λi5=> ∃j3,Ix b e6 j3∧ ∃f5,Lt h (j3.add (e6.toNat*2)) f5∧Cs 243 [Sl.v h6,vT f5] h λi6 g1=> ∃b0 b1 b2 b3,i6=Zek b0 b1 b2 b3∧N50 g1 λp g2=>stw g2 p (Biii b0 b1 b2) λg3=>Dr g3 λe=>bnd (!b3) λ(i1:Bool)=> ∃b4,Gx (!i1) b e6 b4∧ ∃f6,Gs (!i1) e ((b4.add (e6.toNat*2)).add 1) f6∧ ∃b5 b6 b7,Giii (!i1) e p b5 b6 b7∧gCall (!i1) (λ(n:Bool) (c:World)=>(Ib (i1||(!n)) (j4 Sl.nil false c) (Dr c λi=> ∃b8,Ix b e6 b8∧ ∃f7,Lt i (b8.add (e6.toNat*2)) f7∧ ∃b9 c0 c1,Liii i p b9 c0 c1∧Cs 244 [Sl.v o,(Zfw f7 b9 c0 c1)] i λi7 s=> ∃c2 c3,i7=Z39 c2 c3∧(Ib c3 (Dr s λj=> ∃c4,Ix b e6 c4∧ ∃f8,Lt j (c4.add (e6.toNat*2)) f8∧ ∃c5 c6 c7,Liii j p c5 c6 c7∧newS j (Ze4 f8 c5 c6 c7) 78 λi8 g4=>appS prog 26 26 d (Sl.v (Sl.mk (some i8) 1 1)) g4 λi9 g5=>i5 c2 i9 g5) (i5 c2 d s))))) (λj9=>Cs 92 [Sl.v f6,(Aiii b5 b6 b7)] e λj0 c=> ∃n,j0= .bool n∧j9 n c) (λj9=>j9 false e)) (i3 o d h))))) λt=>Dr f2 λf=> ∃c8,Ix a 0 c8∧ ∃c9,Lt f (c8.add ((0:Int).toNat*4)) c9∧ ∃d0,Ix a 0 d0∧ ∃k l m,Liii f ((d0.add ((0:Int).toNat*4)).add 1) k l m∧((Cs 21 [.pointer k0,vT c9,(Aiii k l m)] f λj1 g6=> ∃d1 d2 d3 d4 d5 d6 d7 d8,j1=Zb7 d1 d2 d3 d4 d5 d6 d7 d8∧N52 g6 λf3 g7=>stw g7 f3 (Zaj d1 d2 d3 d4 d5 d6 d7) λg8=>t f3 d8 g8)∧(N52 f λf4 g9=>Cs 21 [.pointer k0,vT c9,(Aiii k l m)] g9 λj2 h0=> ∃d9 e0 e1 e2 e3 e4 e5 g,j2=Zb7 d9 e0 e1 e2 e3 e4 e5 g∧stw h0 f4 (Zaj d9 e0 e1 e2 e3 e4 e5) λh1=>t f4 g h1))) (j4 f1 true f2))
theorem Zch.go{c u a0 a1 a2 env a3 a4 a5 a6 w k}(h:Zch c u a0 a1 a2 env a3 a4 a5 a6 w λa7 a8 a9=>k (Value.tuple #[Sl.v a7,vB a8]) a9):Cs 165 [.pointer c,(Zby u a0 a1 a2),Sl.v env,(Zfw a3 a4 a5 a6)] w k:=rg (.q (.q (.q (.s (.b (.l [(10,27),(11,27)] (.s (.q .x) (.b (.j [(12,0),(13,5)] (.r []) (.s (.q (.k .y)) (.q (.q (.q (.s (.q (.b (.l [(10,27),(14,27),(16,4)] (.s (.q .x) (.j [(10,27),(14,27)] (.b (.q (.s (.q (.k .y)) (.q (.q (.q (.c (.r []) .o))))))) (.r [])))))) (.r []))))))))))) .y)))) func165 h
def Zc3(a:Sl)(t:ByteArray)(u v x:Int)(e:Sl)(a5:World)(a3:Int→World→Prop):Prop:=
 newS a5 (Ze4 t u v x) 78 λa4 a1=>loop1 1 a1 λk l y=>(If (k<(a.len:Int)) (Dr l λb=> ∃z,Ix a k z∧ ∃m,Lt b (z.add (k.toNat*6)) m∧ ∃n,Lt b a4 n∧bnd (bEq m n) λ(a0:Bool)=> ∃o,Gx a0 a k o∧ ∃f g h,Giii a0 b ((o.add (k.toNat*6)).add 1) f g h∧ ∃p q i,Giii a0 b (a4.add 1) p q i∧bnd (a0&&((f==p)&&((g==q)&&((h==i)&&true)))) λ(j:Bool)=> ∃r,Gx j a k r∧ ∃s,Gs j b ((r.add (k.toNat*6)).add 4) s∧gCall j (λ(d:Bool) (c:World)=>(Ib (j&&d) (a3 k c) (y (Za (k+1)) c))) (λa2=>Cs 245 [Sl.v s,Sl.v e] b λa6 c=> ∃d,a6= .bool d∧a2 d c) (λa2=>a2 false b)) (a3 (a.len:Int) l))
theorem Zc3.go{a0 a1 a2 a3 a4 u w k}(h:Zc3 a0 a1 a2 a3 a4 u w λa5 a6=>k (vI a5) a6):Cs 166 [Sl.v a0,(Zfw a1 a2 a3 a4),Sl.v u] w k:=rg (.q (.s (.q (.b (.l [(7,4)] (.s (.q .x) (.s (.b (.q (.k .y))) (.r [])))))) .y)) func166 h
def Zd8(q:Sl)(t:Int)(v:World)(u:Bool→World→Prop):Prop:=
 loop1 0 v λm l n=>(If (m<(q.len:Int)) (∃o,Ix q m o∧ ∃d e f,Liii l (o.add (m.toNat*6)) d e f∧Cs 163 [(Aiii d e f)] l λx c=> ∃g,x= .int .i64 g∧bnd (decide (g≤t)) λ(p:Bool)=> ∃h,Gx p q m h∧ ∃i j k,Giii p c ((h.add (m.toNat*6)).add 3) i j k∧gCall p (λ(a:Int) (b:World)=>(Ib (p&&(decide (t≤a))) (u true b) (n (Za (m+1)) b))) (λr=>Cs 163 [(Aiii i j k)] c λs b=> ∃a,s= .int .i64 a∧r a b) (λr=>r 0 c)) (u false l))
theorem Zd8.go{l n w k}(h:Zd8 l n w λu a0=>k (vB u) a0):Cs 167 [Sl.v l,vI n] w k:=rg (.q (.s (.q (.b (.l [(5,4)] (.s (.q .x) (.s (.b (.q (.k .y))) (.r [])))))) .y)) func167 h
def Zao(x:Option Addr)(k:ByteArray)(z:World)(a0:Sl→World→Prop):Prop:=
 loop2 Sl.nil 0 z λb o a q=> ∃y,x=some y∧ ∃g,Ls a y g∧(If (o<(g.len:Int)) (join (λ(l:Sl) (p:World)=>q l (Za (o+1)) p) λr=> ∃t,x=some t∧ ∃h,Ls a t h∧ ∃u,Ix h o u∧ ∃i,Lt a (u.add (o.toNat*7)) i∧(If (i=k) (∃v,x=some v∧ ∃j,Ls a v j∧ ∃c,Ix j o c∧ ∃d e f,Liii a ((c.add (o.toNat*7)).add 1) d e f∧newS a (Biii d e f) 50 λa1 m=>appS prog 178 178 b (Sl.v (Sl.mk (some a1) 1 1)) m λs n=>r s n) (r b a))) (a0 b a))
theorem Zao.go{c u w k}(h:Zao c u w λa0 a1=>k (Sl.v a0) a1):Cs 168 [.pointer c,vT u] w k:=rg (.q (.q (.s (.q (.b (.l [(5,179),(6,4)] (.s (.q .x) (.j [(5,179)] (.b (.q (.c (.r []) .o))) (.r [])))))) .y))) func168 h
def Zcr(b:Sl)(l:ByteArray)(n o p:Int)(v:World)(u:Bool→World→Prop):Prop:=
 newS v (Biii n o p) 50 λx t=>loop1 0 t λm f q=>(If (m<(b.len:Int)) (Dr f λa=> ∃r,Ix b m r∧ ∃g,Lt a (r.add (m.toNat*4)) g∧bnd (bEq g l) λ(s:Bool)=> ∃h,Gx s b m h∧ ∃i j k,Giii s a ((h.add (m.toNat*4)).add 1) i j k∧ ∃c d e,Giii s a x c d e∧(Ib (s&&((i==c)&&((j==d)&&((k==e)&&true)))) (u true a) (q (Za (m+1)) a))) (u false f))
theorem Zcr.go{pins u a0 a1 a2 w k}(h:Zcr pins u a0 a1 a2 w λa3 a4=>k (vB a3) a4):Cs 169 [Sl.v pins,vT u,(Aiii a0 a1 a2)] w k:=rg (.q (.s (.q (.b (.l [(7,4)] (.s (.q .x) (.s (.b (.q (.k .y))) (.r [])))))) .y)) func169 h
def Za1(a1 a:Sl)(n:Int)(p q r s:Sl)(a2:World)(a3:Sl→World→Prop):Prop:=
 newS a2 (Zgq p q r s) 25 λa4 a0=>loop2 a1 0 a0 λt o g u=>(If (o<(a.len:Int)) (Dr g λb=> ∃z,Ix a o z∧ ∃h,Lt b (z.add (o.toNat*2)) h∧ ∃c d e f,Zdz b a4 c d e f∧ ∃i,Ix a o i∧ ∃j k,Lts b (i.add (o.toNat*2)) j k∧Cx 247 [(Zby c d e f),(.agg #[vT j,Sl.v k])] b λa5 v=> ∃l,a5=Sl.v l∧Cs 246 [Sl.v t,(Atis h n l)] v λx y=> ∃m,x=Sl.v m∧u m (Za (o+1)) y) (a3 t g))
theorem Za1.go{l u a0 a1 a2 a3 a4 w k}(h:Za1 l u a0 a1 a2 a3 a4 w λa5 a6=>k (Sl.v a5) a6):Cs 170 [Sl.v l,Sl.v u,vI a0,(Zby a1 a2 a3 a4)] w k:=rg (.q (.s (.q (.b (.l [(0,109),(9,4)] (.s (.q .x) (.s (.b (.r [])) (.r [])))))) .y)) func170 h
def Zan(i:Int)(s:World)(t:ByteArray→World→Prop):Prop:=
 (If (i<10) (newS s [(Value.int .u8 (IntKind.wrap .u8 (Za (48+i))))] 5 λu l=> ∃j,(Zlx prog (Go.convert 159 9 (Sl.v (Sl.mk (some u) 1 1))) l (vT j))∧t j l) (join (λ(p:ByteArray) (k:World)=>t p k) λm=>Dr s λe=>((Cx 178 [(vI (Za (i.tdiv 10)))] e λv n=> ∃d,v= .string d∧newS n [(Value.int .u8 (IntKind.wrap .u8 (Za (48+(Int.tmod i 10)))))] 5 λq f=> ∃c,(Zlx prog (Go.convert 159 9 (Sl.v (Sl.mk (some q) 1 1))) f (vT c))∧(((d.size+c.size:Nat):Int)≤maxI)∧m (d++c) f)∧(newS e [(Value.int .u8 (IntKind.wrap .u8 (Za (48+(Int.tmod i 10)))))] 5 λr g=> ∃b,(Zlx prog (Go.convert 159 9 (Sl.v (Sl.mk (some r) 1 1))) g (vT b))∧Cx 178 [(vI (Za (i.tdiv 10)))] g λo h=> ∃a,o= .string a∧(((a.size+b.size:Nat):Int)≤maxI)∧m (a++b) h))))
theorem Zan.go{n w k}(h:Zan n w λu a0=>k (vT u) a0):Cs 178 [vI n] w k:=rg (.q (.s (.q (.k .y)) (.j [(2,10)] (.r []) .o))) func178 h
def Zjp(b5:ByteArray)(a6 a7 a8:Int)(a9 b0:Sl)(b1:Int)(c5:World)(c1:Bool→World→Prop):Prop:=
 newS c5 (Ziy b5 a6 a7 a8 a9 b0) 72 λb4 b6=> ∃a0,Ls b6 (b4.add 4) a0∧Cs 252 [(vI (a0.len:Int)),(Value.func (.func 253) #[] #[vP b4])] b6 λc6 h=> ∃a1,c6= .bool a1∧bnd (!a1) λ(c2:Bool)=> ∃a2,Gs (!c2) h (b4.add 5) a2∧gCall (!c2) (λ(d:Bool) (b:World)=>(Ib (c2||(!d)) (c1 false b) (∃l,Ls b (b4.add 4) l∧loop1 0 b λe f b7=>(If (e<(l.len:Int)) (∃c0,Ix l e c0∧ ∃m n o p,Zfh f (c0.add (e.toNat*4)) m n o p∧N78 f λb8 b2=>stw b2 b8 (Ze4 m n o p) λi=> ∃q r s,Liii i (b8.add 1) q r s∧Cs 40 [(Aiii q r s)] i λb9 j=> ∃a3,b9= .bool a3∧(Ib (!a3) (c1 false j) (b7 (Za (e+1)) j))) (∃t,Ls f (b4.add 5) t∧loop1 0 f λg c y=>(If (g<(t.len:Int)) (∃u,Ix t g u∧ ∃v x,Lti c (u.add (g.toNat*2)) v x∧N80 c λk b3=>stw b3 k [vT v,vI x] λa=> ∃a4,Li a (k.add 1) a4∧bnd (decide (a4<1)) λ(z:Bool)=> ∃a5,Gi (!z) a (k.add 1) a5∧(Ib (z||(decide (b1≤a5))) (c1 false a) (y (Za (g+1)) a))) (c1 true c))))))) (λc3=>Cs 252 [(vI (a2.len:Int)),(Value.func (.func 254) #[] #[vP b4])] h λc4 b=> ∃d,c4= .bool d∧c3 d b) (λc3=>c3 false h)
theorem Zjp.go{a5 u a0 a1 a2 a3 a4 w k}(h:Zjp a5 u a0 a1 a2 a3 a4 w λa6 a7=>k (vB a6) a7):Cs 179 [(Zxw a5 u a0 a1 a2 a3),vI a4] w k:=rg (.q (.s (.q (.k .y)) (.s (.q (.b (.l [(26,4)] (.q (.s .x (.s (.b (.q (.q (.k .y)))) (.r []))))))) (.s (.q (.b (.l [(38,4)] (.q (.s .x (.s (.b (.q (.q (.k .y)))) (.r []))))))) .y)))) func179 h
def Zft(v:Sl)(a8:World)(a7:Bool→World→Prop):Prop:=
 newS a8 [Sl.v v] 38 λa6 a0=> ∃z,Ls a0 a6 z∧loop1 0 a0 λb c a1=>(If (b<(z.len:Int)) (∃a4,Ix z b a4∧ ∃g h i j k l,Zjg c (a4.add (b.toNat*6)) g h i j k l∧N72 c λa2 a3=>stw a3 a2 (Ziy g h i j k l) λp=> ∃m,Ls p (a2.add 5) m∧loop1 0 p λd e x=>(If (d<(m.len:Int)) (∃q,Ix m d q∧ ∃n o,Lti e (q.add (d.toNat*2)) n o∧N80 e λf y=>stw y f [vT n,vI o] λa=> ∃r,Li a (f.add 1) r∧bnd (decide (r<1)) λ(a5:Bool)=> ∃s,Gi (!a5) a (f.add 1) s∧ ∃t,Gs (!a5) a a6 t∧(Ib (a5||(decide ((t.len:Int)≤s))) (a7 false a) (x (Za (d+1)) a))) (a1 (Za (b+1)) e))) (∃u,Ls c a6 u∧a7 (decide (0<(u.len:Int))) c))
theorem Zft.go{u w k}(h:Zft u w λa0 a1=>k (vB a0) a1):Cs 181 [(.agg #[Sl.v u])] w k:=rg (.q (.s (.q (.b (.l [(10,4)] (.q (.s .x (.s (.b (.q (.q (.b (.l [(17,4)] (.q (.s .x (.s (.b (.q (.q (.k .y)))) (.r []))))))))) (.r []))))))) .y)) func181 h
def Zex(a:Int)(b:World)(c:Bool→World→Prop):Prop:=
 c (!(a==a)) b
theorem Zex.go{x w k}(h:Zex x w λu a0=>k (vB u) a0):Cs 184 [vI x] w k:=rg (.q .y) func184 h
def Zgi(d:ByteArray)(b:Sl)(e:ByteArray)(c:Sl)(l:World)(m:Int→World→Prop):Prop:=
 newS l [vT d,Sl.v b] 152 λn j=>newS j [vT e,Sl.v c] 152 λk a=> ∃g,Lt a n g∧ ∃h,Lt a k h∧Cs 72 [vT g,vT h] a λo f=> ∃i,o= .int .i64 i∧m i f
theorem Zgi.go{a1 u a2 a0 w k}(h:Zgi a1 u a2 a0 w λa3 a4=>k (vI a3) a4):Cs 197 [(.agg #[vT a1,Sl.v u]),(.agg #[vT a2,Sl.v a0])] w k:=rg (.q .y) func197 h
def Zo(a:Sl)(j:Value)(a4:World)(a2:Sl→World→Prop):Prop:=
 Cs 282 [Sl.v a,j] a4 λa5 t=> ∃b,a5= .int .i64 b∧(If (b=(-1)) (a2 a t) (loop2 b (Za (b+1)) t λh i c u=>(If (i<(a.len:Int)) (join (λ(z:Int) (s:World)=>u z (Za (i+1)) s) λv=> ∃y,Ix a i y∧ ∃l m,Lts c (y.add (i.toNat*2)) l m∧N152 c λa0 x=>stw x a0 [vT l,Sl.v m] λk=> ∃n o,Lts k a0 n o∧callV prog j [(.agg #[vT n,Sl.v o])] k λa1 d=> ∃p,a1= .bool p∧(Ib (!p) (∃e f,Lts d a0 e f∧ ∃g,Ix a h g∧stw d (g.add (h.toNat*2)) [vT e,Sl.v f] λq=>v (Za (h+1)) q) (v h d))) (((0:Int)≤h∧h≤(a.len:Int))∧semS prog (Builtin.clear_ #[23] 0 #[(Sl.v (Sl.cut a h.toNat a.len 2))]) c λa3 r=>((0:Int)≤h∧h≤(a.cap:Int))∧a2 (Sl.cut a 0 h.toNat 2) r))))
theorem Zo.sound(vs:Sl)(del:Value)(w:World)(R:Sl→World→Prop)(h:Zo vs del w R):callS prog 198 [(Sl.v vs),del] w (λv w'=> ∃(r0:Sl),v=(Sl.v r0)∧R r0 w'):=by
 unfold Zo at h
 refine Zi0 42 rfl func198 rfl kR sI ?_
 refine Vc.seq ?_
 refine Vc.region ?_
 refine Zaq rfl rfl (Sl.v Sl.nil) (λw=>kR) ?_
 refine Zba ?_
 refine Vc.seq ?_
 refine Vc.region ?_
 refine Zbx 2 [(9,del),(8,(Sl.v vs))] kR ?_
 refine Zda rfl (Zjt rfl kR (callS.mono h λv vw h=> ?_))
 obtain⟨t10,rfl,h⟩:=h
 refine Zaq rfl rfl (Value.int .i64 t10) (λw=>kR) ?_
 refine Zba ?_
 refine Vc.seq ?_
 refine Vc.seq ?_
 refine Vc.region ?_
 refine Zbx 2 [(12,(Value.bool (t10==(-1)))),(11,(Value.int .i64 t10))] kR ?_
 refine Zba ?_
 refine Vc.cond (t10==(-1)) kR (λhb=> ?_) (λhb=> ?_)
 ·have h:=h.1 (eq_of_beq hb)
  refine Vc.seq ?_
  refine Vc.region ?_
  refine Zbx 2 [(4,(Sl.v vs)),(13,(Sl.v vs))] kR ?_
  refine Zba ?_
  refine Vc.ret ?_
  refine Zlo ?_
  refine Znx (Sl.v vs) (res1 (Zkf kR)) ?_
  exact⟨vs,rfl,h⟩
 ·have h:=h.2 (Zjs hb)
  refine Vc.skip ?_
  refine Vc.seq ?_
  refine Vc.seq ?_
  refine Vc.region ?_
  refine Zbx 3 [(6,(Value.int .i64 (Za (t10+1)))),(15,(Value.int .i64 (Za (t10+1)))),(14,(Value.int .i64 t10))] kR ?_
  refine Zba ?_
  refine Vc.block ?_
  obtain⟨vI,mu,h,hr⟩:=h
  refine Vc.loopJ (σ:=Int×Int) [5,6] [7,16,17,18,19,20,21,22,23,24,25,26,27,28,29,30,31,32,33,34,35] (λs=> [(5,(Value.int .i64 s.1)),(6,(Value.int .i64 s.2))]) (λs w=>vI s.1 s.2 w) (λs w=>mu s.1 s.2 w) (t10,(Za (t10+1))) h (λ_=>rfl) kR ?_
  rintro⟨i,vj⟩ vw1 j h
  have h:=hr i vj vw1 h
  refine Vc.seq ?_
  refine Vc.seq ?_
  refine Vc.region ?_
  refine Zbx 4 [(19,(Value.bool (decide (vj<(vs.len:Int))))),(18,(Value.int .i64 (vs.len:Int))),(17,(Sl.v vs)),(16,(Value.int .i64 vj))] kR ?_
  refine Zba ?_
  refine Vc.cond (decide (vj<(vs.len:Int))) kR (λhb=> ?_) (λhb=> ?_)
  ·have h:=h.1 (of_decide_eq_true hb)
   refine Vc.skip ?_
   obtain⟨vJ,hJ,h⟩:=Zsk h
   refine Vc.seqJ (σ:=Int) [5] [7,22,23,24,25,26,27,28,29,30,31,32,33,34,35] (λs=> [(5,(Value.int .i64 s))]) (λs w=>vJ s w) (λ_=>rfl) ?_ ?_
   ·refine Vc.block ?_
    refine Vc.seq ?_
    refine Vc.region ?_
    refine Zbx 2 [(23,(Value.int .i64 vj)),(22,(Sl.v vs))] kR ?_
    obtain⟨ad,hi,h⟩:=h
    refine Zaq rfl rfl (Value.pointer (some (ad.add (vj.toNat*2)))) (λw=>by exact Zgd (s:=vs) (el:=152) rfl kR kR kR (λw=>kR) (hi).1 (hi).2.1 (hi).2.2 w) ?_
    obtain⟨zzo,zzp,hc,h⟩:=h
    refine Zig rfl rfl (Value.agg #[(Value.string zzo),(Sl.v zzp)]) (Ze6 rfl kR (Zgj (λw=>kR) (λw=>kR) ((hc)))) ?_
    refine Zda rfl (Zll rfl (λa=>Value.pointer (some a)) kR (newS.mono h λa vw4 hx h=> ?_))
    refine Zda rfl (Zg8 rfl rfl (a:=a) kR (v:=(Value.agg #[(Value.string zzo),(Sl.v zzp)])) kR [(Value.string zzo),(Sl.v zzp)] kR (λw=>kR) kR (stw.mono h λvw5 h=> ?_))
    refine Zba ?_
    refine Vc.seq ?_
    refine Vc.region ?_
    refine Zaq rfl rfl del (λw=>kR) ?_
    obtain⟨zzh,zzi,hc6,h⟩:=h
    refine Zig rfl rfl (Value.agg #[(Value.string zzh),(Sl.v zzi)]) (Ze6 rfl kR (Zgj (λw=>kR) (λw=>kR) ((hc6)))) ?_
    refine Zda rfl (Zp0 rfl rfl (fv:=del) kR (args:= [(Value.agg #[(Value.string zzh),(Sl.v zzi)])]) kR (callV.mono h λv8 vw7 h=> ?_))
    obtain⟨t28,rfl,h⟩:=h
    refine Zaq rfl rfl (Value.bool (!t28)) (λw=>kR) ?_
    refine Zba ?_
    refine Vc.cond (!t28) kR (λhb=> ?_) (λhb=> ?_)
    ·have h:=h.1 (hb)
     refine Vc.seq ?_
     refine Vc.region ?_
     refine Zbx 2 [(31,(Value.int .i64 i)),(30,(Sl.v vs))] kR ?_
     obtain⟨zz11,zz12,hc10,h⟩:=h
     refine Zig rfl rfl (Value.agg #[(Value.string zz11),(Sl.v zz12)]) (Ze6 rfl kR (Zgj (λw=>kR) (λw=>kR) ((hc10)))) ?_
     obtain⟨ad11,hi12,h⟩:=h
     refine Zaq rfl rfl (Value.pointer (some (ad11.add (i.toNat*2)))) (λw=>by exact Zgd (s:=vs) (el:=152) rfl kR kR kR (λw=>kR) (hi12).1 (hi12).2.1 (hi12).2.2 w) ?_
     refine Zda rfl (Zg8 rfl rfl (a:=(ad11.add (i.toNat*2))) kR (v:=(Value.agg #[(Value.string zz11),(Sl.v zz12)])) kR [(Value.string zz11),(Sl.v zz12)] kR (λw=>kR) kR (stw.mono h λvw13 h=> ?_))
     refine Zba ?_
     refine Vc.region ?_
     refine Zbx 3 [(5,(Value.int .i64 (Za (i+1)))),(35,(Value.int .i64 (Za (i+1)))),(34,(Value.int .i64 i))] kR ?_
     refine Zba ?_
     exact⟨(Za (i+1)),16,⟨rfl,kR,kR,kR⟩,h⟩
    ·have h:=h.2 (hb)
     refine Vc.skip ?_
     exact⟨i,9,⟨rfl,kR,kR,kR⟩,h⟩
   ·intro i2 vw3 j h
    subst hJ
    refine Vc.region ?_
    refine Zbx 3 [(6,(Value.int .i64 (Za (vj+1)))),(21,(Value.int .i64 (Za (vj+1)))),(20,(Value.int .i64 vj))] kR ?_
    refine Zba ?_
    exact⟨(i2,(Za (vj+1))),46,⟨rfl,kR,kR,kR⟩,h⟩
  ·have h:=h.2 (of_decide_eq_false hb)
   refine Vc.exit ?_
   refine Zoa ?_
   refine Vc.seq ?_
   refine Vc.region ?_
   refine Zbx 2 [(37,(Value.int .i64 i)),(36,(Sl.v vs))] kR ?_
   obtain⟨hi14,h⟩:=h
   refine Zaq rfl rfl (Sl.v (Sl.cut vs i.toNat vs.len 2)) (λw=>by exact Zmb (s:=vs) (el:=152) (k1:= .i64) rfl kR kR kR (λw=>kR) (hi14) w) ?_
   refine Zda rfl (Zst rfl (c:=Builtin.clear_ #[23] 0 #[(Sl.v (Sl.cut vs i.toNat vs.len 2))]) kR (semS.mono h λv16 vw15 h=> ?_))
   refine Zba ?_
   refine Vc.seq ?_
   refine Vc.region ?_
   refine Zbx 2 [(40,(Value.int .i64 i)),(39,(Sl.v vs))] kR ?_
   obtain⟨hi17,h⟩:=h
   refine Zaq rfl rfl (Sl.v (Sl.cut vs 0 i.toNat 2)) (λw=>by exact Zma (s:=vs) (el:=152) (k2:= .i64) rfl kR kR kR (λw=>kR) (hi17) w) ?_
   refine Zaq rfl rfl (Sl.v (Sl.cut vs 0 i.toNat 2)) (λw=>kR) ?_
   refine Zba ?_
   refine Vc.ret ?_
   refine Zlo ?_
   refine Znx (Sl.v (Sl.cut vs 0 i.toNat 2)) (res1 (Zkf kR)) ?_
   exact⟨(Sl.cut vs 0 i.toNat 2),rfl,h⟩
theorem Zo.go{a0:Sl}{u:Value}{w:World}{k:Value→World→Prop}(h:Zo a0 u w λa1 a2=>k (Sl.v a1) a2):callS prog 198 [Sl.v a0,u] w k:=(Zo.sound a0 u w _ h).mono (by rintro _ _ ⟨a1,rfl,h⟩; exact h)
def Zb8(a:Sl)(e:World)(f:Sl→World→Prop):Prop:=
 (If (a.a=none) (f Sl.nil e) (newS e [] 152 λg c=>appS prog 23 23 (Sl.mk (some g) 0 0) (Sl.v a) c λd b=>f d b))
theorem Zb8.go{u w k}(h:Zb8 u w λa0 a1=>k (Sl.v a0) a1):Cs 199 [Sl.v u] w k:=rg (.q (.s (.q (.k .y)) .y)) func199 h
def Zhn(c d:Sl)(e:World)(f:Bool→World→Prop):Prop:=
 Cs 283 [Sl.v c,Sl.v d,(Value.func (.func 284) #[] #[])] e λg b=> ∃a,g= .bool a∧f a b
theorem Zhn.go{a b w k}(h:Zhn a b w λu a0=>k (vB u) a0):Cs 201 [Sl.v a,Sl.v b] w k:=rg (.q .y) func201 h
def Z9(i:Sl)(m:Value)(n:World)(l:Int→World→Prop):Prop:=
 loop1 0 n λa h j=>(If (a<(i.len:Int)) (∃k,Ix i a k∧ ∃f b c d,Zfh h (k.add (a.toNat*4)) f b c d∧callV prog m [(Zfw f b c d)] h λo e=> ∃g,o= .bool g∧(Ib g (l a e) (j (Za (a+1)) e))) (l (-1) h))
theorem Z9.go{u f w k}(h:Z9 u f w λa0 a1=>k (vI a0) a1):Cs 202 [Sl.v u,f] w k:=rg (.q (.s (.q (.b (.l [(8,4)] (.q (.s .x (.s (.b (.q (.q (.k .y)))) (.r []))))))) .y)) func202 h
def Zj6(b c:Sl)(i:World)(j:Int→World→Prop):Prop:=
 newS i [Sl.v b] 55 λk g=>newS g [Sl.v c] 102 λh a=> ∃e,Ls a k e∧Cs 286 [Sl.v e,(Value.func (.func 287) #[] #[vP h])] a λl d=> ∃f,l= .int .i64 f∧j f d
theorem Zj6.go{u a0 w k}(h:Zj6 u a0 w λa1 a2=>k (vI a1) a2):Cs 205 [(.agg #[Sl.v u]),Sl.v a0] w k:=rg (.q .y) func205 h
def Zco(g:Option Addr)(b:Sl)(h:World)(i:Int→World→Prop):Prop:=
 newS h [Sl.v b] 102 λj c=> ∃e,g=some e∧ ∃f,Ls c (e.add 7) f∧Cs 286 [Sl.v f,(Value.func (.func 288) #[] #[vP j])] c λk d=> ∃a,k= .int .i64 a∧i a d
theorem Zco.go{p u w k}(h:Zco p u w λa0 a1=>k (vI a0) a1):Cs 206 [.pointer p,Sl.v u] w k:=rg (.q .y) func206 h
def Zdq(b4:Option Addr)(c:Sl)(u:Int)(i:ByteArray)(b9:World)(b6:Bool→World→Prop):Prop:=
 loop1 u b9 λn a5 a9=>(If (n≤(c.len:Int)) (((0:Int)≤n∧n≤(c.cap:Int))∧Cs 136 [(Sl.v (Sl.cut c 0 n.toNat 1)),vT i] a5 λc1 b0=> ∃x,c1=Sl.v x∧Cs 206 [.pointer b4,Sl.v x] b0 λb7 v=> ∃y,b7= .int .i64 y∧(If (0≤y) (b6 false v) (a9 (Za (n+1)) v))) (∃b2,b4=some b2∧ ∃p,Ls a5 (b2.add 8) p∧loop1 0 a5 λl o a6=>(If (l<(p.len:Int)) (∃b3,Ix p l b3∧ ∃d g b,Liit o (b3.add (l.toNat*3)) d g b∧N229 o λb5 a7=>stw a7 b5 (Biit d g b) λa8=>Dr a8 λf=> ∃z,b4=some z∧ ∃a0,Ls f (z.add 7) a0∧ ∃q,Li f b5 q∧ ∃r,Ix a0 q r∧ ∃m,Ls f (r.add (q.toNat*9)) m∧Dr f λh=> ∃a1,Lt h (b5.add 2) a1∧bnd (bEq a1 i) λ(c0:Bool)=>bnd (c0&&(decide (u≤(m.len:Int)))) λ(j:Bool)=>grd j ((0:Int)≤u∧u≤(m.cap:Int))∧grd j ((0:Int)≤u∧u≤(c.cap:Int))∧gCall j (λ(k:Bool) (a:World)=>bnd (j&&k) λ(e:Bool)=> ∃a2,Gn e b4 a2∧ ∃a3,Gs e a (a2.add 7) a3∧ ∃s,Gi e a (b5.add 1) s∧ ∃t,Gx e a3 s t∧ ∃a4,Gs e a (t.add (s.toNat*9)) a4∧(Ib (e&&(decide ((a4.len:Int)≤u))) (b6 false a) (a6 (Za (l+1)) a))) (λb8=>Cs 107 [(Sl.v (Sl.cut m 0 u.toNat 1)),(Sl.v (Sl.cut c 0 u.toNat 1))] h λb1 a=> ∃k,b1= .bool k∧b8 k a) (λb8=>b8 false h)) (b6 true o))))
theorem Zdq.go{p a0 n u w k}(h:Zdq p a0 n u w λa1 a2=>k (vB a1) a2):Cs 208 (Z71 p a0 n u) w k:=rg (.q (.s (.q (.b (.l [(9,4)] (.s (.q .x) (.s (.b (.q (.k .y))) (.r [])))))) (.s (.q (.b (.l [(33,4)] (.q (.s .x (.s (.b (.q (.q (.q (.k .y))))) (.r []))))))) .y))) func208 h
def Zbo(a:Sl)(e:World)(f:Sl→World→Prop):Prop:=
 (If (a.a=none) (f Sl.nil e) (newS e [] 9 λg c=>appS prog 102 102 (Sl.mk (some g) 0 0) (Sl.v a) c λd b=>f d b))
theorem Zbo.go{u w k}(h:Zbo u w λa0 a1=>k (Sl.v a0) a1):Cs 209 [Sl.v u] w k:=rg (.q (.s (.q (.k .y)) .y)) func209 h
def Z0(b:Sl)(m:Int)(c:Value)(y:World)(z:World→Prop):Prop:=
 loop2 0 20 y λx u n o=>(If (u≤m) (Cs 297 [Sl.v b,vI x,vI u,c] n λa0 p=>a0= .tuple #[]∧o u (Za (u+20)) p) (Cs 297 [Sl.v b,vI x,vI m,c] n λv q=>v= .tuple #[]∧loop1 20 q λa h j=>(If (a<m) (loop2 0 (Za (2*a)) h λd f e g=>(If (f≤m) (Cs 298 [Sl.v b,vI d,(vI (Za (d+a))),vI f,c] e λr k=>r= .tuple #[]∧g f (Za (f+(Za (2*a)))) k) (join (λ(i:World)=>j (Za (a*2)) i) λs=>(If ((Za (d+a))<m) (Cs 298 [Sl.v b,vI d,(vI (Za (d+a))),vI m,c] e λt l=>t= .tuple #[]∧s l) (s e))))) (z h))))
theorem Z0.go{u n a0 w k}(h:Z0 u n a0 w λa1=>k (Value.tuple #[]) a1):Cs 229 [Sl.v u,vI n,a0] w k:=rg (.q (.q (.s (.b (.l [(7,4),(8,4)] (.s (.q .x) (.b (.q (.q (.r []))))))) (.q (.b (.l [(6,4)] (.s (.q .x) (.b (.q (.s (.b (.l [(7,4),(8,4)] (.s (.q .x) (.b (.q (.q (.r []))))))) (.j [] (.q (.q (.c (.r []) .o))) (.r [])))))))))))) func229 h
def Zdx(a:ByteArray)(c:World)(d:Value→World→Prop):Prop:=
 newS c [vT a] 9 λe b=>d (Value.func (.func 231) #[] #[vP e]) b
theorem Zdx.go{u w k}(h:Zdx u w λa0 a1=>k a0 a1):Cs 230 [vT u] w k:=rg (.q .y) func230 h
def Zdy(a:ByteArray)(b c d:Int)(h:Addr)(i:World)(j:Bool→World→Prop):Prop:=
 newS i (Ze4 a b c d) 78 λk e=> ∃f,Lt e k f∧ ∃g,Lt e h g∧j (bEq f g) e
theorem Zdy.go{u:ByteArray}{a0 a1 a2:Int}{a3:Addr}{w:World}{k:Value→World→Prop}(h:Zdy u a0 a1 a2 a3 w λa4 a5=>k (Value.bool a4) a5):callS prog 231 [(.agg #[.string u, .int .i64 a0, .int .i64 a1, .int .i64 a2]),(Value.pointer (some a3))] w k:=rgo (sk:=(.s (.r []) (.s (.r []) .o))) (args:= [sv (.agg #[.string u, .int .i64 a0, .int .i64 a1, .int .i64 a2]),sa a3]) func231 (Eq.mpr kR h)
def Zhx(x:ByteArray)(y z a0:Int)(a1 a2 a3 a4 a5 a6 a7:Sl)(b7:World)(b8:Sl→World→Prop):Prop:=
 newS b7 (Zaj x y z a0 a1 a2 a3) 52 λb9 b5=>newS b5 (Zgq a4 a5 a6 a7) 25 λb6 l=> ∃v,Ls l (b9.add 5) v∧loop2 Sl.nil 0 l λm a c a8=>(If (a<(v.len:Int)) (∃b4,Ix v a b4∧ ∃d e,Lts c (b4.add (a.toNat*2)) d e∧N152 c λq a9=>stw a9 q [vT d,Sl.v e] λb0=>Dr b0 λb=> ∃n,Lt b q n∧ ∃f g h i,Zdz b b6 f g h i∧ ∃j k,Lts b q j k∧Cx 145 [(Zby f g h i),(.agg #[vT j,Sl.v k])] b λc0 r=> ∃o,c0=Sl.v o∧newS r [vT n,Sl.v o] 152 λb1 s=>appS prog 23 23 m (Sl.v (Sl.mk (some b1) 1 1)) s λb2 t=>a8 b2 (Za (a+1)) t) (Cs 299 [Sl.v m] c λb3 u=> ∃p,b3=Sl.v p∧b8 p u))
theorem Zhx.go{u a0 a1 a2 a3 a4 a5 a6 a7 a8 a9 w k}(h:Zhx u a0 a1 a2 a3 a4 a5 a6 a7 a8 a9 w λb0 b1=>k (Sl.v b0) b1):Cs 232 [(Zv u a0 a1 a2 a3 a4 a5),(Zby a6 a7 a8 a9)] w k:=rg (.q (.q (.s (.q (.b (.l [(5,24),(11,4)] (.q (.s .x (.s (.b (.q (.r []))) (.r []))))))) .y))) func232 h
def Zes(h:ByteArray)(b c d:Int)(i:ByteArray)(e f g:Int)(p:World)(q:Int→World→Prop):Prop:=
 newS p (Ze4 h b c d) 78 λr n=>newS n (Ze4 i e f g) 78 λo a=> ∃k,Lt a r k∧ ∃l,Lt a o l∧Cs 72 [vT k,vT l] a λs j=> ∃m,s= .int .i64 m∧q m j
theorem Zes.go{a5 u a0 a1 a6 a2 a3 a4 w k}(h:Zes a5 u a0 a1 a6 a2 a3 a4 w λa7 a8=>k (vI a7) a8):Cs 233 [(Zfw a5 u a0 a1),(Zfw a6 a2 a3 a4)] w k:=rg (.q .y) func233 h
def Zdw(a:Sl)(b:World)(c:Sl→World→Prop):Prop:=
 ((0:Int)≤0∧0≤(a.len:Int)∧(a.len:Int)≤(a.len:Int)∧(a.len:Int)≤(a.cap:Int))∧c (Sl.mk (if(a.len:Int).toNat=0 then a.a else a.a.map (·.add (0*4))) ((a.len:Int).toNat - 0) ((a.len:Int).toNat - 0)) b
theorem Zdw.go{u w k}(h:Zdw u w λa0 a1=>k (Sl.v a0) a1):Cs 234 [Sl.v u] w k:=rg (.q .y) func234 h
def Zy(h:Sl)(l:Value)(m:World)(k:Int→World→Prop):Prop:=
 loop1 0 m λa g i=>(If (a<(h.len:Int)) (∃j,Ix h a j∧ ∃b c d,Liii g (j.add (a.toNat*3)) b c d∧callV prog l [(Aiii b c d)] g λn e=> ∃f,n= .bool f∧(Ib f (k a e) (i (Za (a+1)) e))) (k (-1) g))
theorem Zy.go{u f w k}(h:Zy u f w λa0 a1=>k (vI a0) a1):Cs 235 [Sl.v u,f] w k:=rg (.q (.s (.q (.b (.l [(8,4)] (.q (.s .x (.s (.b (.q (.q (.k .y)))) (.r []))))))) .y)) func235 h
def Zel(h i j k l m:Int)(r:World)(s:Int→World→Prop):Prop:=
 newS r (Biii h i j) 50 λt p=>newS p (Biii k l m) 50 λq a=> ∃b c d,Liii a q b c d∧ ∃e f g,Liii a t e f g∧Cs 117 [(Aiii b c d),(Aiii e f g)] a λu n=> ∃o,u= .int .i64 o∧s o n
theorem Zel.go{u a0 a1 a2 a3 a4 w k}(h:Zel u a0 a1 a2 a3 a4 w λa5 a6=>k (vI a5) a6):Cs 237 [(Aiii u a0 a1),(Aiii a2 a3 a4)] w k:=rg (.q .y) func237 h
def Zt(b:Sl)(m:Int)(c:Value)(y:World)(z:World→Prop):Prop:=
 loop2 0 20 y λx u n o=>(If (u≤m) (Cs 301 [Sl.v b,vI x,vI u,c] n λa0 p=>a0= .tuple #[]∧o u (Za (u+20)) p) (Cs 301 [Sl.v b,vI x,vI m,c] n λv q=>v= .tuple #[]∧loop1 20 q λa h j=>(If (a<m) (loop2 0 (Za (2*a)) h λd f e g=>(If (f≤m) (Cs 302 [Sl.v b,vI d,(vI (Za (d+a))),vI f,c] e λr k=>r= .tuple #[]∧g f (Za (f+(Za (2*a)))) k) (join (λ(i:World)=>j (Za (a*2)) i) λs=>(If ((Za (d+a))<m) (Cs 302 [Sl.v b,vI d,(vI (Za (d+a))),vI m,c] e λt l=>t= .tuple #[]∧s l) (s e))))) (z h))))
theorem Zt.go{u n a0 w k}(h:Zt u n a0 w λa1=>k (Value.tuple #[]) a1):Cs 238 [Sl.v u,vI n,a0] w k:=rg (.q (.q (.s (.b (.l [(7,4),(8,4)] (.s (.q .x) (.b (.q (.q (.r []))))))) (.q (.b (.l [(6,4)] (.s (.q .x) (.b (.q (.s (.b (.l [(7,4),(8,4)] (.s (.q .x) (.b (.q (.q (.r []))))))) (.j [] (.q (.q (.c (.r []) .o))) (.r [])))))))))))) func238 h
def Zbq(p:Sl)(l:ByteArray)(m n o:Int)(u:World)(t:Int→World→Prop):Prop:=
 newS u (Ze4 l m n o) 78 λv s=>loop1 0 s λb j q=>(If (b<(p.len:Int)) (Dr j λa=> ∃c d e f,Zfh a v c d e f∧ ∃r,Ix p b r∧ ∃k g h i,Zfh a (r.add (b.toNat*4)) k g h i∧(Ib ((bEq c k)&&(((d==g)&&((e==h)&&((f==i)&&true)))&&true)) (t b a) (q (Za (b+1)) a))) (t (-1) j))
theorem Zbq.go{a3 u a0 a1 a2 w k}(h:Zbq a3 u a0 a1 a2 w λa4 a5=>k (vI a4) a5):Cs 239 [Sl.v a3,(Zfw u a0 a1 a2)] w k:=rg (.q (.s (.q (.b (.l [(8,4)] (.q (.s .x (.s (.b (.q (.q (.k .y)))) (.r []))))))) .y)) func239 h
def Zah(k:Sl)(o:Value)(p:World)(n:Int→World→Prop):Prop:=
 loop1 0 p λa j l=>(If (a<(k.len:Int)) (∃m,Ix k a m∧ ∃b c d e f g,Zni j (m.add (a.toNat*6)) b c d e f g∧callV prog o [(Z35 b c d e f g)] j λq h=> ∃i,q= .bool i∧(Ib i (n a h) (l (Za (a+1)) h))) (n (-1) j))
theorem Zah.go{u f w k}(h:Zah u f w λa0 a1=>k (vI a0) a1):Cs 240 [Sl.v u,f] w k:=rg (.q (.s (.q (.b (.l [(8,4)] (.q (.s .x (.s (.b (.q (.q (.k .y)))) (.r []))))))) .y)) func240 h
def Zdh(g h i:Int)(o:World)(n:Int→Bool→World→Prop):Prop:=
 newS o (Biii g h i) 50 λm j=> ∃b c d,Liii j m b c d∧Cs 46 [(Aiii b c d)] j λp a=> ∃k,p= .bool k∧(Ib (!k) (n 0 false a) (∃l,Li a m l∧ ∃e,Li a (m.add 1) e∧ ∃f,Li a (m.add 2) f∧n (Za ((Za ((Za ((Za (l*1000))+e))*1000))+f)) true a))
theorem Zdh.go{u a0 a1 w k}(h:Zdh u a0 a1 w λa2 a3 a4=>k (Value.tuple #[vI a2,vB a3]) a4):Cs 241 [(Aiii u a0 a1)] w k:=rg (.q (.s (.q (.k .y)) .y)) func241 h
def Zc1(s:ByteArray)(t u v:Int)(x y z a0 a1 a2 a3:Sl)(b3:World)(b4:Sl→World→Prop):Prop:=
 newS b3 (Zaj s t u v x y z) 52 λb0 b1=>newS b1 (Zgq a0 a1 a2 a3) 25 λb2 a4=>loop2 Sl.nil 0 a4 λi r b a5=> ∃a8,Ls b (b0.add 5) a8∧(If (r<(a8.len:Int)) (Dr b λa=> ∃j,Ls a (b0.add 5) j∧ ∃a9,Ix j r a9∧ ∃k,Lt a (a9.add (r.toNat*2)) k∧ ∃c d e f,Zdz a b2 c d e f∧ ∃l,Ls a (b0.add 5) l∧ ∃m,Ix l r m∧ ∃g h,Lts a (m.add (r.toNat*2)) g h∧Cx 247 [(Zby c d e f),(.agg #[vT g,Sl.v h])] a λb5 o=> ∃n,b5=Sl.v n∧newS o [vT k,Sl.v n] 152 λa6 p=>appS prog 23 23 i (Sl.v (Sl.mk (some a6) 1 1)) p λa7 q=>a5 a7 (Za (r+1)) q) (b4 i b))
theorem Zc1.go{u a0 a1 a2 a3 a4 a5 a6 a7 a8 a9 w k}(h:Zc1 u a0 a1 a2 a3 a4 a5 a6 a7 a8 a9 w λb0 b1=>k (Sl.v b0) b1):Cs 242 [(Zv u a0 a1 a2 a3 a4 a5),(Zby a6 a7 a8 a9)] w k:=rg (.q (.q (.s (.q (.b (.l [(5,24),(6,4)] (.s (.q .x) (.s (.b (.r [])) (.r [])))))) .y))) func242 h
def Zc2(b:Sl)(p:ByteArray)(x:World)(v:Int→Int→Int→Bool→World→Prop):Prop:=
 N50 x λt u=>loop1 0 u λq a r=>(If (q<(b.len:Int)) (∃s,Ix b q s∧ ∃n,Lt a (s.add (q.toNat*4)) n∧(If (n=p) (∃o,Ix b q o∧ ∃c d e,Liii a ((o.add (q.toNat*4)).add 1) c d e∧stw a t (Biii c d e) λl=> ∃f g h,Liii l t f g h∧v f g h true l) (r (Za (q+1)) a))) (stw a t (Biii 0 0 0) λm=> ∃i j k,Liii m t i j k∧v i j k false m))
theorem Zc2.go{env u w k}(h:Zc2 env u w λa0 a1 a2 a3 a4=>k (Value.tuple #[(Aiii a0 a1 a2),vB a3]) a4):Cs 243 [Sl.v env,vT u] w k:=rg (.q (.s (.q (.b (.l [(6,4)] (.s (.q .x) (.s (.b (.q (.k .y))) (.r [])))))) .y)) func243 h
def Zct(k:Sl)(u:ByteArray)(v x y:Int)(b1:World)(b0:Sl→Bool→World→Prop):Prop:=
 newS b1 (Ze4 u v x y) 78 λa7 a8=>loop1 0 a8 λe a0 a1=>Dr a0 λc=>bnd (decide (e<(k.len:Int))) λ(z:Bool)=> ∃a6,Gx z k e a6∧ ∃m,Gt z c (a6.add (e.toNat*4)) m∧ ∃n,Gt z c a7 n∧gCall z (λ(a:Bool) (b:World)=>(Ib (z&&a) (a1 (Za (e+1)) b) (Dr b λd=>bnd (decide (e<(k.len:Int))) λ(l:Bool)=> ∃o,Gx l k e o∧ ∃p,Gt l d (o.add (e.toNat*4)) p∧ ∃q,Gt l d a7 q∧(Ib (l&&(bEq p q)) (b0 k false d) (((0:Int)≤e∧e≤(k.cap:Int))∧appS prog 26 26 Sl.nil (Sl.v (Sl.cut k 0 e.toNat 4)) d λa2 f=> ∃g h i j,Zfh f a7 g h i j∧newS f (Ze4 g h i j) 78 λa3 r=>appS prog 26 26 a2 (Sl.v (Sl.mk (some a3) 1 1)) r λa4 s=>((0:Int)≤e∧e≤(k.len:Int))∧appS prog 26 26 a4 (Sl.v (Sl.cut k e.toNat k.len 4)) s λa5 t=>b0 a5 true t))))) (λa9=>Cs 48 [vT m,vT n] c λb2 b=> ∃a,b2= .bool a∧a9 a b) (λa9=>a9 false c)
theorem Zct.go{l u a0 a1 a2 w k}(h:Zct l u a0 a1 a2 w λa3 a4 a5=>k (Value.tuple #[Sl.v a3,vB a4]) a5):Cs 244 [Sl.v l,(Zfw u a0 a1 a2)] w k:=rg (.q (.q (.s (.b (.l [(6,4)] (.s (.q .x) (.b (.r []))))) (.s (.q (.k .y)) (.q (.q (.q (.q .y)))))))) func244 h
def Zdl(o q:Sl)(r:World)(p:Bool→World→Prop):Prop:=
 (If (¬(o.len:Int)=(q.len:Int)) (p false r) (loop1 0 r λk l m=>(If (k<(o.len:Int)) (Dr l λa=> ∃n,Ix o k n∧ ∃b c d e,Zfh a (n.add (k.toNat*4)) b c d e∧ ∃j,Ix q k j∧ ∃f g h i,Zfh a (j.add (k.toNat*4)) f g h i∧(Ib (!((bEq b f)&&(((c==g)&&((d==h)&&((e==i)&&true)))&&true))) (p false a) (m (Za (k+1)) a))) (p true l))))
theorem Zdl.go{a b w k}(h:Zdl a b w λu a0=>k (vB u) a0):Cs 245 [Sl.v a,Sl.v b] w k:=rg (.q (.s (.q (.k .y)) (.s (.q (.b (.l [(5,4)] (.s (.q .x) (.s (.b (.q (.k .y))) (.r [])))))) .y))) func245 h
def Zcu(k:Sl)(l:ByteArray)(m:Int)(n:Sl)(a3:World)(a4:Sl→World→Prop):Prop:=
 newS a3 (Btis l m n) 177 λa2 z=>loop1 (k.len:Int) z λg r s=>Dr r λc=>bnd (decide (0<g)) λ(q:Bool)=> ∃i,Gt q c a2 i∧ ∃y,Gx q k (Za (g - 1)) y∧ ∃j,Gt q c (y.add ((Za (g - 1)).toNat*3)) j∧gCall q (λ(a:Bool) (b:World)=>(Ib (q&&a) (s (Za (g - 1)) b) (((0:Int)≤g∧g≤(k.cap:Int))∧appS prog 108 108 Sl.nil (Sl.v (Sl.cut k 0 g.toNat 3)) b λt h=> ∃d e f,Ltis h a2 d e f∧newS h (Btis d e f) 177 λa0 u=>appS prog 108 108 t (Sl.v (Sl.mk (some a0) 1 1)) u λv o=>((0:Int)≤g∧g≤(k.len:Int))∧appS prog 108 108 v (Sl.v (Sl.cut k g.toNat k.len 3)) o λx p=>a4 x p))) (λa1=>Cs 48 [vT i,vT j] c λa5 b=> ∃a,a5= .bool a∧a1 a b) (λa1=>a1 false c)
theorem Zcu.go{l u a0 a1 w k}(h:Zcu l u a0 a1 w λa2 a3=>k (Sl.v a2) a3):Cs 246 [Sl.v l,(Atis u a0 a1)] w k:=rg (.q (.q (.s (.b (.l [(5,4)] (.s (.q .x) (.b (.r []))))) (.q (.q (.q (.q .y))))))) func246 h
def Zcc(m n o p:Sl)(j:ByteArray)(k:Sl)(z:World)(y:Sl→World→Prop):Prop:=
 newS z (Zgq m n o p) 25 λv x=>newS x [vT j,Sl.v k] 152 λq r=>loop1 0 r λl b s=> ∃t,Ls b (v.add 3) t∧(If (l<(t.len:Int)) (Dr b λa=> ∃c,Ls a (v.add 3) c∧ ∃u,Ix c l u∧ ∃d,Lt a (u.add (l.toNat*2)) d∧ ∃e,Lt a q e∧(If (d=e) (∃f,Ls a (v.add 3) f∧ ∃g,Ix f l g∧ ∃h,Ls a ((g.add (l.toNat*2)).add 1) h∧y h a) (s (Za (l+1)) a))) (∃i,Ls b (q.add 1) i∧y i b))
theorem Zcc.go{a1 a2 a3 a4 u a0 w k}(h:Zcc a1 a2 a3 a4 u a0 w λa5 a6=>k (Sl.v a5) a6):Cs 247 [(Zby a1 a2 a3 a4),(.agg #[vT u,Sl.v a0])] w k:=rg (.q (.s (.q (.b (.l [(5,4)] (.s (.q .x) (.s (.b (.q (.k .y))) (.r [])))))) .y)) func247 h
def Zg7(s:Int)(a:Value)(u:World)(t:Bool→World→Prop):Prop:=
 loop1 0 u λf l m=>(If (f<s) (callV prog a [vI f] l λv n=> ∃h,v= .string h∧Cs 39 [vT h] n λq g=> ∃i,q= .bool i∧bnd (!i) λ(p:Bool)=>bnd (decide (0<f)) λ(j:Bool)=>gCall ((!p)&&j) (λ(b:ByteArray) (c:World)=>gCall ((!p)&&j) (λ(d:ByteArray) (e:World)=>(Ib (p||(j&&(!bLt b d))) (t false e) (m (Za (f+1)) e))) (λk=>callV prog a [vI f] c λo e=> ∃d,o= .string d∧k d e) (λk=>k (ByteArray.mk #[]) c)) (λk=>callV prog a [(vI (Za (f - 1)))] g λr c=> ∃b,r= .string b∧k b c) (λk=>k (ByteArray.mk #[]) g)) (t (decide (s≤128)) l))
theorem Zg7.go{n u w k}(h:Zg7 n u w λa0 a1=>k (vB a0) a1):Cs 252 [vI n,u] w k:=rg (.q (.s (.q (.b (.l [(7,4)] (.q (.s .x (.s (.b (.q (.q (.k .y)))) (.r []))))))) .y)) func252 h
def Zlv(b:ByteArray)(e0:World)(a5:Int→Int→Bool→World→Prop):Prop:=
 N236 e0 λe d3=>(If (b=(ByteArray.mk #[42])) (stw d3 e [vI 0,vI 999999999] λc6=> ∃b7 b8,Lii c6 e b7 b8∧a5 b7 b8 true c6) (Cs 97 [vT b,(vT (ByteArray.mk #[60,62,61,94,126]))] d3 λe1 d4=> ∃d,e1= .string d∧Cs 318 [vT d] d4 λd9 d5=> ∃b9 c0 c1 c2,d9=Zek b9 c0 c1 c2∧N50 d5 λa4 d6=>stw d6 a4 (Biii b9 c0 c1) λc7=> ∃c3 c4 c5,Liii c7 a4 c3 c4 c5∧Cs 139 [(Aiii c3 c4 c5)] c7 λd7 f=> ∃c d1,d7=Ztl c d1∧ ∃a3,Li f (a4.add 2) a3∧ ∃c8,Li f (a4.add 1) c8∧(Ib (!c2) (stw f e [vI 0,vI 0] λa6=> ∃g h,Lii a6 e g h∧a5 g h false a6) (((0:Int)≤(Za ((b.size:Int) - (d.size:Int)))∧(Za ((b.size:Int) - (d.size:Int)))≤(b.size:Int))∧join (λ(d2:Bool) (a:World)=>(Ib d2 (stw a e [vI c,vI c] λa7=> ∃i j,Lii a7 e i j∧a5 i j true a7) ((If ((b.extract 0 (Za ((b.size:Int) - (d.size:Int))).toNat)=(ByteArray.mk #[60])) (stw a e [vI 0,(vI (Za (c - 1)))] λa8=> ∃k l,Lii a8 e k l∧a5 k l true a8) ((If ((b.extract 0 (Za ((b.size:Int) - (d.size:Int))).toNat)=(ByteArray.mk #[60,61])) (stw a e [vI 0,vI c] λa9=> ∃m n,Lii a9 e m n∧a5 m n true a9) ((If ((b.extract 0 (Za ((b.size:Int) - (d.size:Int))).toNat)=(ByteArray.mk #[62])) (stw a e [(vI (Za (c+1))),vI 999999999] λb0=> ∃o p,Lii b0 e o p∧a5 o p true b0) ((If ((b.extract 0 (Za ((b.size:Int) - (d.size:Int))).toNat)=(ByteArray.mk #[62,61])) (stw a e [vI c,vI 999999999] λb1=> ∃q r,Lii b1 e q r∧a5 q r true b1) ((If ((b.extract 0 (Za ((b.size:Int) - (d.size:Int))).toNat)=(ByteArray.mk #[126])) (stw a e [vI c,(vI (Za ((Za (c - a3))+999)))] λb2=> ∃s t,Lii b2 e s t∧a5 s t true b2) ((If ((b.extract 0 (Za ((b.size:Int) - (d.size:Int))).toNat)=(ByteArray.mk #[94])) (∃c9,Li a a4 c9∧(If (0<c9) (stw a e [vI c,(vI (Za ((Za ((Za (c - a3))+999))+(Za ((Za (999 - c8))*1000)))))] λb3=> ∃u v,Lii b3 e u v∧a5 u v true b3) (∃d0,Li a (a4.add 1) d0∧(If (0<d0) (stw a e [vI c,(vI (Za ((Za (c - a3))+999)))] λb4=> ∃x y,Lii b4 e x y∧a5 x y true b4) (stw a e [vI c,vI c] λb5=> ∃z a0,Lii b5 e z a0∧a5 z a0 true b5))))) (stw a e [vI 0,vI 0] λb6=> ∃a1 a2,Lii b6 e a1 a2∧a5 a1 a2 false b6))))))))))))))) λd8=>(If ((b.extract 0 (Za ((b.size:Int) - (d.size:Int))).toNat)=(ByteArray.mk #[])) (d8 (bEq (b.extract 0 (Za ((b.size:Int) - (d.size:Int))).toNat) (ByteArray.mk #[])) f) (d8 (bEq (b.extract 0 (Za ((b.size:Int) - (d.size:Int))).toNat) (ByteArray.mk #[61])) f))))))
theorem Zlv.go{u w k}(h:Zlv u w λa0 a1 a2 a3=>k (Value.tuple #[(.agg #[vI a0,vI a1]),vB a2]) a3):Cs 279 [vT u] w k:=rg (.q (.s (.q (.k .y)) (.q (.q (.q (.q (.q (.s (.q (.k .y)) (.s (.q (.b (.j [(47,5)] (.q (.c .o (.r []))) (.c .y (.q (.c .y (.q (.c .y (.q (.c .y (.q (.c .y (.q (.c .y (.q (.c (.s (.b (.q (.c .y (.q (.k .y))))) .y) .o)))))))))))))))) .y))))))))) func279 h
def Zkh(c:Sl)(d:World)(e:Sl→Int→World→Prop):Prop:=
 (If (64<(c.len:Int)) (e Sl.nil 26 d) (Cs 319 [Sl.v c] d λf b=> ∃a,f=Sl.v a∧e a 0 b))
theorem Zkh.go{l w k}(h:Zkh l w λu a0 a1=>k (Value.tuple #[Sl.v u,vI a0]) a1):Cs 280 [Sl.v l] w k:=rg (.q (.s (.q (.k .y)) .y)) func280 h
def Zf9(b0:Sl)(b1:World)(b2:Sl→World→Prop):Prop:=
 callS prog 321 [Sl.v b0] b1 λb3 a8=> ∃v,b3=v∧Cs 320 [v,(Value.func (.func 322) #[] #[])] a8 λa9 y=> ∃u,a9=Sl.v u∧loop2 Sl.nil 0 y λa h i z=>(If (h<(u.len:Int)) (join (λ(q:Sl) (x:World)=>z q (Za (h+1)) x) λa0=> ∃a5,Ix u h a5∧ ∃c d,Lii i (a5.add (h.toNat*2)) c d∧N236 i λa7 a1=>stw a1 a7 [vI c,vI d] λa2=>Dr a2 λb=>bnd (decide (0≤(Za ((a.len:Int) - 1)))) λ(a6:Bool)=> ∃m,Gi a6 b a7 m∧ ∃j,Gx a6 a (Za ((a.len:Int) - 1)) j∧ ∃n,Gi a6 b ((j.add ((Za ((a.len:Int) - 1)).toNat*2)).add 1) n∧(Ib (a6&&(decide (m≤(Za (n+1))))) (Dr b λg=> ∃k,Ix a (Za ((a.len:Int) - 1)) k∧ ∃o,Li g ((k.add ((Za ((a.len:Int) - 1)).toNat*2)).add 1) o∧ ∃p,Li g (a7.add 1) p∧ ∃l,Ix a (Za ((a.len:Int) - 1)) l∧stw g ((l.add ((Za ((a.len:Int) - 1)).toNat*2)).add 1) [(vI (Z40 o p))] λr=>a0 a r) (∃e f,Lii b a7 e f∧newS b [vI e,vI f] 236 λa3 s=>appS prog 233 233 a (Sl.v (Sl.mk (some a3) 1 1)) s λa4 t=>a0 a4 t))) (b2 a i))
theorem Zf9.go{l w k}(h:Zf9 l w λu a0=>k (Sl.v u) a0):Cs 281 [Sl.v l] w k:=rg (.q (.q (.q (.s (.q (.b (.l [(3,234),(12,4)] (.q (.s .x (.j [(3,234)] (.b (.q (.q (.q (.c (.r []) (.r [])))))) (.r []))))))) .y)))) func281 h
def Zbs(g:Sl)(k:Value)(l:World)(j:Int→World→Prop):Prop:=
 loop1 0 l λa f h=>(If (a<(g.len:Int)) (∃i,Ix g a i∧ ∃d b,Lts f (i.add (a.toNat*2)) d b∧callV prog k [(.agg #[vT d,Sl.v b])] f λm c=> ∃e,m= .bool e∧(Ib e (j a c) (h (Za (a+1)) c))) (j (-1) f))
theorem Zbs.go{u f w k}(h:Zbs u f w λa0 a1=>k (vI a0) a1):Cs 282 [Sl.v u,f] w k:=rg (.q (.s (.q (.b (.l [(8,4)] (.q (.s .x (.s (.b (.q (.q (.k .y)))) (.r []))))))) .y)) func282 h
def Z5(o q:Sl)(x:Value)(z:World)(y:Bool→World→Prop):Prop:=
 (If (¬(o.len:Int)=(q.len:Int)) (y false z) (loop1 0 z λa p r=>(If (a<(o.len:Int)) (∃v,Ix o a v∧ ∃d e,Lts p (v.add (a.toNat*2)) d e∧N152 p λa0 s=>stw s a0 [vT d,Sl.v e] λh=> ∃i,Ix q a i∧ ∃j k,Lts h (i.add (a.toNat*2)) j k∧N152 h λt u=>stw u t [vT j,Sl.v k] λb=> ∃l m,Lts b a0 l m∧ ∃f g,Lts b t f g∧callV prog x [(.agg #[vT l,Sl.v m]),(.agg #[vT f,Sl.v g])] b λa1 c=> ∃n,a1= .bool n∧(Ib (!n) (y false c) (r (Za (a+1)) c))) (y true p))))
theorem Z5.go{u a0 a1 w k}(h:Z5 u a0 a1 w λa2 a3=>k (vB a2) a3):Cs 283 [Sl.v u,Sl.v a0,a1] w k:=rg (.q (.s (.q (.k .y)) (.s (.q (.b (.l [(17,4)] (.q (.s .x (.s (.b (.q (.q (.q (.k .y))))) (.r []))))))) .y))) func283 h
def Zho(i:ByteArray)(f:Sl)(g:ByteArray)(h:Sl)(q:World)(r:Bool→World→Prop):Prop:=
 newS q [vT i,Sl.v f] 152 λp n=>newS n [vT g,Sl.v h] 152 λj a=> ∃k,Lt a p k∧ ∃l,Lt a j l∧bnd (bEq k l) λ(m:Bool)=> ∃d,Gs m a (p.add 1) d∧ ∃e,Gs m a (j.add 1) e∧gCall m (λ(b:Bool) (c:World)=>r (m&&b) c) (λo=>Cs 285 [Sl.v d,Sl.v e] a λs c=> ∃b,s= .bool b∧o b c) (λo=>o false a)
theorem Zho.go{a2 u a0 a1 w k}(h:Zho a2 u a0 a1 w λa3 a4=>k (vB a3) a4):Cs 284 [(.agg #[vT a2,Sl.v u]),(.agg #[vT a0,Sl.v a1])] w k:=rg (.q .y) func284 h
def Za8(p q:Sl)(v:World)(u:Bool→World→Prop):Prop:=
 (If (¬(p.len:Int)=(q.len:Int)) (u false v) (loop1 0 v λa r s=>(If (a<(p.len:Int)) (Dr r λb=> ∃t,Ix p a t∧ ∃c d e f g h,Zni b (t.add (a.toNat*6)) c d e f g h∧ ∃o,Ix q a o∧ ∃i j k l m n,Zni b (o.add (a.toNat*6)) i j k l m n∧(Ib (!(((c==i)&&((d==j)&&((e==k)&&true)))&&(((f==l)&&((g==m)&&((h==n)&&true)))&&true))) (u false b) (s (Za (a+1)) b))) (u true r))))
theorem Za8.go{u a0 w k}(h:Za8 u a0 w λa1 a2=>k (vB a1) a2):Cs 285 [Sl.v u,Sl.v a0] w k:=rg (.q (.s (.q (.k .y)) (.s (.q (.b (.l [(13,4)] (.q (.s .x (.s (.b (.q (.q (.k .y)))) (.r []))))))) .y))) func285 h
def Z8(n:Sl)(r:Value)(s:World)(q:Int→World→Prop):Prop:=
 loop1 0 s λa m o=>(If (a<(n.len:Int)) (∃p,Ix n a p∧ ∃b c d e f g h i j,Zih m (p.add (a.toNat*9)) b c d e f g h i j∧callV prog r [(Zl1 b c d e f g h i j)] m λt k=> ∃l,t= .bool l∧(Ib l (q a k) (o (Za (a+1)) k))) (q (-1) m))
theorem Z8.go{u f w k}(h:Z8 u f w λa0 a1=>k (vI a0) a1):Cs 286 [Sl.v u,f] w k:=rg (.q (.s (.q (.b (.l [(8,4)] (.q (.s .x (.s (.b (.q (.q (.k .y)))) (.r []))))))) .y)) func286 h
def Zjc(b:Sl)(c:ByteArray)(d e f:Int)(g h i:Sl)(j:Int)(o:Addr)(p:World)(q:Bool→World→Prop):Prop:=
 newS p (Zed b c d e f g h i j) 104 λr a=> ∃l,Ls a r l∧ ∃m,Ls a o m∧Cs 107 [Sl.v l,Sl.v m] a λs k=> ∃n,s= .bool n∧q n k
theorem Zjc.go{u:Sl}{a0:ByteArray}{a1 a2 a3:Int}{a4 a5 a6:Sl}{a7:Int}{a8:Addr}{w:World}{k:Value→World→Prop}(h:Zjc u a0 a1 a2 a3 a4 a5 a6 a7 a8 w λa9 b0=>k (Value.bool a9) b0):callS prog 287 [(.agg #[Sl.v u, .string a0, .int .i64 a1, .int .i64 a2, .int .i64 a3,Sl.v a4,Sl.v a5,Sl.v a6, .int .i64 a7]),(Value.pointer (some a8))] w k:=rgo (sk:=(.s (.r []) (.s (.r []) .o))) (args:= [sv (.agg #[Sl.v u, .string a0, .int .i64 a1, .int .i64 a2, .int .i64 a3,Sl.v a4,Sl.v a5,Sl.v a6, .int .i64 a7]),sa a8]) func287 (Eq.mpr kR h)
def Zd3(b:Sl)(c:ByteArray)(d e f:Int)(g h i:Sl)(j:Int)(o:Addr)(p:World)(q:Bool→World→Prop):Prop:=
 newS p (Zed b c d e f g h i j) 104 λr a=> ∃l,Ls a r l∧ ∃m,Ls a o m∧Cs 107 [Sl.v l,Sl.v m] a λs k=> ∃n,s= .bool n∧q n k
theorem Zd3.go{u:Sl}{a0:ByteArray}{a1 a2 a3:Int}{a4 a5 a6:Sl}{a7:Int}{a8:Addr}{w:World}{k:Value→World→Prop}(h:Zd3 u a0 a1 a2 a3 a4 a5 a6 a7 a8 w λa9 b0=>k (Value.bool a9) b0):callS prog 288 [(.agg #[Sl.v u, .string a0, .int .i64 a1, .int .i64 a2, .int .i64 a3,Sl.v a4,Sl.v a5,Sl.v a6, .int .i64 a7]),(Value.pointer (some a8))] w k:=rgo (sk:=(.s (.r []) (.s (.r []) .o))) (args:= [sv (.agg #[Sl.v u, .string a0, .int .i64 a1, .int .i64 a2, .int .i64 a3,Sl.v a4,Sl.v a5,Sl.v a6, .int .i64 a7]),sa a8]) func288 (Eq.mpr kR h)
def Zj(b:Sl)(a9 b0:Int)(a2:Value)(b1:World)(b2:World→Prop):Prop:=
 loop1 (Za (a9+1)) b1 λa7 a3 a4=>(If (a7<b0) (loop1 a7 a3 λa a5 z=>Dr a5 λe=>bnd (decide (a9<a)) λ(f:Bool)=> ∃a6,Gx f b a a6∧ ∃h i j,Gtis f e (a6.add (a.toNat*3)) h i j∧ ∃y,Gx f b (Za (a - 1)) y∧ ∃k l m,Gtis f e (y.add ((Za (a - 1)).toNat*3)) k l m∧gCall f (λ(c:Int) (d:World)=>(Ib (f&&(decide (c<0))) (Dr d λg=> ∃n,Ix b (Za (a - 1)) n∧ ∃o p q,Ltis g (n.add ((Za (a - 1)).toNat*3)) o p q∧ ∃r,Ix b a r∧ ∃s t u,Ltis g (r.add (a.toNat*3)) s t u∧ ∃v,Ix b a v∧stw g (v.add (a.toNat*3)) (Btis o p q) λa0=> ∃x,Ix b (Za (a - 1)) x∧stw a0 (x.add ((Za (a - 1)).toNat*3)) (Btis s t u) λa1=>z (Za (a - 1)) a1) (a4 (Za (a7+1)) d))) (λa8=>callV prog a2 [(Atis h i j),(Atis k l m)] e λb3 d=> ∃c,b3= .int .i64 c∧a8 c d) (λa8=>a8 0 e)) (b2 a3))
theorem Zj.go{u a b a0 w k}(h:Zj u a b a0 w λa1=>k (Value.tuple #[]) a1):Cs 297 [Sl.v u,vI a,vI b,a0] w k:=rg (.q (.b (.l [(8,4)] (.s (.q .x) (.s (.b (.q (.b (.l [(9,4)] (.s (.q .x) (.s (.b (.r [])) (.r []))))))) (.r [])))))) func297 h
def Zp(b:Sl)(g i k:Int)(j:Value)(h5:World)(h6:World→Prop):Prop:=
 (If ((Za (i - g))=1) (loop2 i k h5 λf5 r g7 e8=>(If (f5<r) (Dr g7 λu=> ∃h4,Ix b (IntKind.wrap .i64 (Int.fdiv (IntKind.wrap .u64 (Za (f5+r))) (2 ^ 1))) h4∧ ∃a3 a4 a5,Ltis u (h4.add ((IntKind.wrap .i64 (Int.fdiv (IntKind.wrap .u64 (Za (f5+r))) (2 ^ 1))).toNat*3)) a3 a4 a5∧ ∃f1,Ix b g f1∧ ∃a6 a7 a8,Ltis u (f1.add (g.toNat*3)) a6 a7 a8∧callV prog j [(Atis a3 a4 a5),(Atis a6 a7 a8)] u λh8 e9=> ∃f2,h8= .int .i64 f2∧(If (f2<0) (e8 (Za ((IntKind.wrap .i64 (Int.fdiv (IntKind.wrap .u64 (Za (f5+r))) (2 ^ 1)))+1)) r e9) (e8 f5 (IntKind.wrap .i64 (Int.fdiv (IntKind.wrap .u64 (Za (f5+r))) (2 ^ 1))) e9))) (loop1 g g7 λh f0 f6=>(If (h<(Za (f5 - 1))) (Dr f0 λv=> ∃f3,Ix b (Za (h+1)) f3∧ ∃a9 b0 b1,Ltis v (f3.add ((Za (h+1)).toNat*3)) a9 b0 b1∧ ∃b2,Ix b h b2∧ ∃b3 b4 b5,Ltis v (b2.add (h.toNat*3)) b3 b4 b5∧ ∃b6,Ix b h b6∧stw v (b6.add (h.toNat*3)) (Btis a9 b0 b1) λf7=> ∃b7,Ix b (Za (h+1)) b7∧stw f7 (b7.add ((Za (h+1)).toNat*3)) (Btis b3 b4 b5) λf8=>f6 (Za (h+1)) f8) (h6 f0))))) ((If ((Za (k - i))=1) (loop2 g i h5 λf d x p=>(If (f<d) (Dr x λl=> ∃b8,Ix b i b8∧ ∃b9 c0 c1,Ltis l (b8.add (i.toNat*3)) b9 c0 c1∧ ∃c2,Ix b (IntKind.wrap .i64 (Int.fdiv (IntKind.wrap .u64 (Za (f+d))) (2 ^ 1))) c2∧ ∃c3 c4 c5,Ltis l (c2.add ((IntKind.wrap .i64 (Int.fdiv (IntKind.wrap .u64 (Za (f+d))) (2 ^ 1))).toNat*3)) c3 c4 c5∧callV prog j [(Atis b9 c0 c1),(Atis c3 c4 c5)] l λg8 y=> ∃c6,g8= .int .i64 c6∧(If (¬(c6<0)) (p (Za ((IntKind.wrap .i64 (Int.fdiv (IntKind.wrap .u64 (Za (f+d))) (2 ^ 1)))+1)) d y) (p f (IntKind.wrap .i64 (Int.fdiv (IntKind.wrap .u64 (Za (f+d))) (2 ^ 1))) y))) (loop1 i x λc z e7=>(If (f<c) (Dr z λm=> ∃c7,Ix b (Za (c - 1)) c7∧ ∃c8 c9 d0,Ltis m (c7.add ((Za (c - 1)).toNat*3)) c8 c9 d0∧ ∃d1,Ix b c d1∧ ∃d2 d3 d4,Ltis m (d1.add (c.toNat*3)) d2 d3 d4∧ ∃d5,Ix b c d5∧stw m (d5.add (c.toNat*3)) (Btis c8 c9 d0) λf9=> ∃d6,Ix b (Za (c - 1)) d6∧stw f9 (d6.add ((Za (c - 1)).toNat*3)) (Btis d2 d3 d4) λg0=>e7 (Za (c - 1)) g0) (h6 z))))) (join (λ(e6 h7:Int) (f4:World)=>loop2 e6 h7 f4 λa e n q=>(If (a<e) (Dr n λo=> ∃d7,Ix b (Za ((Za ((Za ((IntKind.wrap .i64 (Int.fdiv (IntKind.wrap .u64 (Za (g+k))) (2 ^ 1)))+i)) - 1)) - (IntKind.wrap .i64 (Int.fdiv (IntKind.wrap .u64 (Za (a+e))) (2 ^ 1))))) d7∧ ∃d8 d9 e0,Ltis o (d7.add ((Za ((Za ((Za ((IntKind.wrap .i64 (Int.fdiv (IntKind.wrap .u64 (Za (g+k))) (2 ^ 1)))+i)) - 1)) - (IntKind.wrap .i64 (Int.fdiv (IntKind.wrap .u64 (Za (a+e))) (2 ^ 1))))).toNat*3)) d8 d9 e0∧ ∃e1,Ix b (IntKind.wrap .i64 (Int.fdiv (IntKind.wrap .u64 (Za (a+e))) (2 ^ 1))) e1∧ ∃e2 e3 e4,Ltis o (e1.add ((IntKind.wrap .i64 (Int.fdiv (IntKind.wrap .u64 (Za (a+e))) (2 ^ 1))).toNat*3)) e2 e3 e4∧callV prog j [(Atis d8 d9 e0),(Atis e2 e3 e4)] o λg9 a0=> ∃e5,g9= .int .i64 e5∧(If (¬(e5<0)) (q (Za ((IntKind.wrap .i64 (Int.fdiv (IntKind.wrap .u64 (Za (a+e))) (2 ^ 1)))+1)) e a0) (q a (IntKind.wrap .i64 (Int.fdiv (IntKind.wrap .u64 (Za (a+e))) (2 ^ 1))) a0))) (join (λ(s:World)=>join (λ(t:World)=>bnd (decide ((IntKind.wrap .i64 (Int.fdiv (IntKind.wrap .u64 (Za (g+k))) (2 ^ 1)))<(Za ((Za ((IntKind.wrap .i64 (Int.fdiv (IntKind.wrap .u64 (Za (g+k))) (2 ^ 1)))+i)) - a)))) λ(g4:Bool)=>(Ib (g4&&(decide ((Za ((Za ((IntKind.wrap .i64 (Int.fdiv (IntKind.wrap .u64 (Za (g+k))) (2 ^ 1)))+i)) - a))<k))) (Cs 298 [Sl.v b,(vI (IntKind.wrap .i64 (Int.fdiv (IntKind.wrap .u64 (Za (g+k))) (2 ^ 1)))),(vI (Za ((Za ((IntKind.wrap .i64 (Int.fdiv (IntKind.wrap .u64 (Za (g+k))) (2 ^ 1)))+i)) - a))),vI k,j] t λh0 g1=>h0= .tuple #[]∧h6 g1) (h6 t))) λh1=>bnd (decide (g<a)) λ(g5:Bool)=>(Ib (g5&&(decide (a<(IntKind.wrap .i64 (Int.fdiv (IntKind.wrap .u64 (Za (g+k))) (2 ^ 1)))))) (Cs 298 [Sl.v b,vI g,vI a,(vI (IntKind.wrap .i64 (Int.fdiv (IntKind.wrap .u64 (Za (g+k))) (2 ^ 1)))),j] s λh2 g2=>h2= .tuple #[]∧h1 g2) (h1 s))) λa1=>bnd (decide (a<i)) λ(g6:Bool)=>(Ib (g6&&(decide (i<(Za ((Za ((IntKind.wrap .i64 (Int.fdiv (IntKind.wrap .u64 (Za (g+k))) (2 ^ 1)))+i)) - a))))) (Cs 326 [Sl.v b,vI a,vI i,(vI (Za ((Za ((IntKind.wrap .i64 (Int.fdiv (IntKind.wrap .u64 (Za (g+k))) (2 ^ 1)))+i)) - a))),j] n λh3 g3=>h3= .tuple #[]∧a1 g3) (a1 n))))) λa2=>(If ((IntKind.wrap .i64 (Int.fdiv (IntKind.wrap .u64 (Za (g+k))) (2 ^ 1)))<i) (a2 (Za ((Za ((IntKind.wrap .i64 (Int.fdiv (IntKind.wrap .u64 (Za (g+k))) (2 ^ 1)))+i)) - k)) (IntKind.wrap .i64 (Int.fdiv (IntKind.wrap .u64 (Za (g+k))) (2 ^ 1))) h5) (a2 g i h5))))))
theorem Zp.go{u a m b a0 w k}(h:Zp u a m b a0 w λa1=>k (Value.tuple #[]) a1):Cs 298 [Sl.v u,vI a,vI m,vI b,a0] w k:=rg (.s (.q (.c (.q (.q (.s (.b (.l [(10,4),(11,4)] (.s (.q .x) (.b (.q (.q (.c (.r []) (.r [])))))))) (.s (.q (.b (.l [(13,4)] (.s (.q .x) (.s (.b (.r [])) (.r [])))))) .o)))) .o)) (.s (.q (.c (.q (.q (.s (.b (.l [(14,4),(15,4)] (.s (.q .x) (.b (.q (.q (.c (.r []) (.r [])))))))) (.s (.q (.b (.l [(17,4)] (.s (.q .x) (.s (.b (.r [])) (.r [])))))) .o)))) .o)) (.q (.q (.q (.j [(20,4),(21,4)] (.q (.c (.q (.r [])) (.q (.r [])))) (.q (.s (.b (.l [(20,4),(21,4)] (.s (.q .x) (.b (.q (.q (.c (.r []) (.r [])))))))) (.q (.j [] (.q (.c (.r []) .o)) (.j [] (.q (.c (.r []) .o)) (.q (.c (.r []) .o))))))))))))) func298 h
def Zdv(a:Sl)(b:World)(c:Sl→World→Prop):Prop:=
 ((0:Int)≤0∧0≤(a.len:Int)∧(a.len:Int)≤(a.len:Int)∧(a.len:Int)≤(a.cap:Int))∧c (Sl.mk (if(a.len:Int).toNat=0 then a.a else a.a.map (·.add (0*2))) ((a.len:Int).toNat - 0) ((a.len:Int).toNat - 0)) b
theorem Zdv.go{u w k}(h:Zdv u w λa0 a1=>k (Sl.v a0) a1):Cs 299 [Sl.v u] w k:=rg (.q .y) func299 h
def Zg(b:Sl)(a9 b0:Int)(a2:Value)(b1:World)(b2:World→Prop):Prop:=
 loop1 (Za (a9+1)) b1 λa7 a3 a4=>(If (a7<b0) (loop1 a7 a3 λa a5 z=>Dr a5 λe=>bnd (decide (a9<a)) λ(f:Bool)=> ∃a6,Gx f b a a6∧ ∃u v x,Giii f e (a6.add (a.toNat*3)) u v x∧ ∃y,Gx f b (Za (a - 1)) y∧ ∃h i j,Giii f e (y.add ((Za (a - 1)).toNat*3)) h i j∧gCall f (λ(c:Int) (d:World)=>(Ib (f&&(decide (c<0))) (Dr d λg=> ∃k,Ix b (Za (a - 1)) k∧ ∃l m n,Liii g (k.add ((Za (a - 1)).toNat*3)) l m n∧ ∃o,Ix b a o∧ ∃p q r,Liii g (o.add (a.toNat*3)) p q r∧ ∃s,Ix b a s∧stw g (s.add (a.toNat*3)) (Biii l m n) λa0=> ∃t,Ix b (Za (a - 1)) t∧stw a0 (t.add ((Za (a - 1)).toNat*3)) (Biii p q r) λa1=>z (Za (a - 1)) a1) (a4 (Za (a7+1)) d))) (λa8=>callV prog a2 [(Aiii u v x),(Aiii h i j)] e λb3 d=> ∃c,b3= .int .i64 c∧a8 c d) (λa8=>a8 0 e)) (b2 a3))
theorem Zg.go{u a b a0 w k}(h:Zg u a b a0 w λa1=>k (Value.tuple #[]) a1):Cs 301 [Sl.v u,vI a,vI b,a0] w k:=rg (.q (.b (.l [(8,4)] (.s (.q .x) (.s (.b (.q (.b (.l [(9,4)] (.s (.q .x) (.s (.b (.r [])) (.r []))))))) (.r [])))))) func301 h
def Zk(b:Sl)(g i k:Int)(j:Value)(h5:World)(h6:World→Prop):Prop:=
 (If ((Za (i - g))=1) (loop2 i k h5 λf5 r g7 e8=>(If (f5<r) (Dr g7 λu=> ∃h4,Ix b (IntKind.wrap .i64 (Int.fdiv (IntKind.wrap .u64 (Za (f5+r))) (2 ^ 1))) h4∧ ∃a3 a4 a5,Liii u (h4.add ((IntKind.wrap .i64 (Int.fdiv (IntKind.wrap .u64 (Za (f5+r))) (2 ^ 1))).toNat*3)) a3 a4 a5∧ ∃f1,Ix b g f1∧ ∃a6 a7 a8,Liii u (f1.add (g.toNat*3)) a6 a7 a8∧callV prog j [(Aiii a3 a4 a5),(Aiii a6 a7 a8)] u λh8 e9=> ∃f2,h8= .int .i64 f2∧(If (f2<0) (e8 (Za ((IntKind.wrap .i64 (Int.fdiv (IntKind.wrap .u64 (Za (f5+r))) (2 ^ 1)))+1)) r e9) (e8 f5 (IntKind.wrap .i64 (Int.fdiv (IntKind.wrap .u64 (Za (f5+r))) (2 ^ 1))) e9))) (loop1 g g7 λh f0 f6=>(If (h<(Za (f5 - 1))) (Dr f0 λv=> ∃f3,Ix b (Za (h+1)) f3∧ ∃a9 b0 b1,Liii v (f3.add ((Za (h+1)).toNat*3)) a9 b0 b1∧ ∃b2,Ix b h b2∧ ∃b3 b4 b5,Liii v (b2.add (h.toNat*3)) b3 b4 b5∧ ∃b6,Ix b h b6∧stw v (b6.add (h.toNat*3)) (Biii a9 b0 b1) λf7=> ∃b7,Ix b (Za (h+1)) b7∧stw f7 (b7.add ((Za (h+1)).toNat*3)) (Biii b3 b4 b5) λf8=>f6 (Za (h+1)) f8) (h6 f0))))) ((If ((Za (k - i))=1) (loop2 g i h5 λf d x p=>(If (f<d) (Dr x λl=> ∃b8,Ix b i b8∧ ∃b9 c0 c1,Liii l (b8.add (i.toNat*3)) b9 c0 c1∧ ∃c2,Ix b (IntKind.wrap .i64 (Int.fdiv (IntKind.wrap .u64 (Za (f+d))) (2 ^ 1))) c2∧ ∃c3 c4 c5,Liii l (c2.add ((IntKind.wrap .i64 (Int.fdiv (IntKind.wrap .u64 (Za (f+d))) (2 ^ 1))).toNat*3)) c3 c4 c5∧callV prog j [(Aiii b9 c0 c1),(Aiii c3 c4 c5)] l λg8 y=> ∃c6,g8= .int .i64 c6∧(If (¬(c6<0)) (p (Za ((IntKind.wrap .i64 (Int.fdiv (IntKind.wrap .u64 (Za (f+d))) (2 ^ 1)))+1)) d y) (p f (IntKind.wrap .i64 (Int.fdiv (IntKind.wrap .u64 (Za (f+d))) (2 ^ 1))) y))) (loop1 i x λc z e7=>(If (f<c) (Dr z λm=> ∃c7,Ix b (Za (c - 1)) c7∧ ∃c8 c9 d0,Liii m (c7.add ((Za (c - 1)).toNat*3)) c8 c9 d0∧ ∃d1,Ix b c d1∧ ∃d2 d3 d4,Liii m (d1.add (c.toNat*3)) d2 d3 d4∧ ∃d5,Ix b c d5∧stw m (d5.add (c.toNat*3)) (Biii c8 c9 d0) λf9=> ∃d6,Ix b (Za (c - 1)) d6∧stw f9 (d6.add ((Za (c - 1)).toNat*3)) (Biii d2 d3 d4) λg0=>e7 (Za (c - 1)) g0) (h6 z))))) (join (λ(e6 h7:Int) (f4:World)=>loop2 e6 h7 f4 λa e n q=>(If (a<e) (Dr n λo=> ∃d7,Ix b (Za ((Za ((Za ((IntKind.wrap .i64 (Int.fdiv (IntKind.wrap .u64 (Za (g+k))) (2 ^ 1)))+i)) - 1)) - (IntKind.wrap .i64 (Int.fdiv (IntKind.wrap .u64 (Za (a+e))) (2 ^ 1))))) d7∧ ∃d8 d9 e0,Liii o (d7.add ((Za ((Za ((Za ((IntKind.wrap .i64 (Int.fdiv (IntKind.wrap .u64 (Za (g+k))) (2 ^ 1)))+i)) - 1)) - (IntKind.wrap .i64 (Int.fdiv (IntKind.wrap .u64 (Za (a+e))) (2 ^ 1))))).toNat*3)) d8 d9 e0∧ ∃e1,Ix b (IntKind.wrap .i64 (Int.fdiv (IntKind.wrap .u64 (Za (a+e))) (2 ^ 1))) e1∧ ∃e2 e3 e4,Liii o (e1.add ((IntKind.wrap .i64 (Int.fdiv (IntKind.wrap .u64 (Za (a+e))) (2 ^ 1))).toNat*3)) e2 e3 e4∧callV prog j [(Aiii d8 d9 e0),(Aiii e2 e3 e4)] o λg9 a0=> ∃e5,g9= .int .i64 e5∧(If (¬(e5<0)) (q (Za ((IntKind.wrap .i64 (Int.fdiv (IntKind.wrap .u64 (Za (a+e))) (2 ^ 1)))+1)) e a0) (q a (IntKind.wrap .i64 (Int.fdiv (IntKind.wrap .u64 (Za (a+e))) (2 ^ 1))) a0))) (join (λ(s:World)=>join (λ(t:World)=>bnd (decide ((IntKind.wrap .i64 (Int.fdiv (IntKind.wrap .u64 (Za (g+k))) (2 ^ 1)))<(Za ((Za ((IntKind.wrap .i64 (Int.fdiv (IntKind.wrap .u64 (Za (g+k))) (2 ^ 1)))+i)) - a)))) λ(g4:Bool)=>(Ib (g4&&(decide ((Za ((Za ((IntKind.wrap .i64 (Int.fdiv (IntKind.wrap .u64 (Za (g+k))) (2 ^ 1)))+i)) - a))<k))) (Cs 302 [Sl.v b,(vI (IntKind.wrap .i64 (Int.fdiv (IntKind.wrap .u64 (Za (g+k))) (2 ^ 1)))),(vI (Za ((Za ((IntKind.wrap .i64 (Int.fdiv (IntKind.wrap .u64 (Za (g+k))) (2 ^ 1)))+i)) - a))),vI k,j] t λh0 g1=>h0= .tuple #[]∧h6 g1) (h6 t))) λh1=>bnd (decide (g<a)) λ(g5:Bool)=>(Ib (g5&&(decide (a<(IntKind.wrap .i64 (Int.fdiv (IntKind.wrap .u64 (Za (g+k))) (2 ^ 1)))))) (Cs 302 [Sl.v b,vI g,vI a,(vI (IntKind.wrap .i64 (Int.fdiv (IntKind.wrap .u64 (Za (g+k))) (2 ^ 1)))),j] s λh2 g2=>h2= .tuple #[]∧h1 g2) (h1 s))) λa1=>bnd (decide (a<i)) λ(g6:Bool)=>(Ib (g6&&(decide (i<(Za ((Za ((IntKind.wrap .i64 (Int.fdiv (IntKind.wrap .u64 (Za (g+k))) (2 ^ 1)))+i)) - a))))) (Cs 334 [Sl.v b,vI a,vI i,(vI (Za ((Za ((IntKind.wrap .i64 (Int.fdiv (IntKind.wrap .u64 (Za (g+k))) (2 ^ 1)))+i)) - a))),j] n λh3 g3=>h3= .tuple #[]∧a1 g3) (a1 n))))) λa2=>(If ((IntKind.wrap .i64 (Int.fdiv (IntKind.wrap .u64 (Za (g+k))) (2 ^ 1)))<i) (a2 (Za ((Za ((IntKind.wrap .i64 (Int.fdiv (IntKind.wrap .u64 (Za (g+k))) (2 ^ 1)))+i)) - k)) (IntKind.wrap .i64 (Int.fdiv (IntKind.wrap .u64 (Za (g+k))) (2 ^ 1))) h5) (a2 g i h5))))))
theorem Zk.go{u a m b a0 w k}(h:Zk u a m b a0 w λa1=>k (Value.tuple #[]) a1):Cs 302 [Sl.v u,vI a,vI m,vI b,a0] w k:=rg (.s (.q (.c (.q (.q (.s (.b (.l [(10,4),(11,4)] (.s (.q .x) (.b (.q (.q (.c (.r []) (.r [])))))))) (.s (.q (.b (.l [(13,4)] (.s (.q .x) (.s (.b (.r [])) (.r [])))))) .o)))) .o)) (.s (.q (.c (.q (.q (.s (.b (.l [(14,4),(15,4)] (.s (.q .x) (.b (.q (.q (.c (.r []) (.r [])))))))) (.s (.q (.b (.l [(17,4)] (.s (.q .x) (.s (.b (.r [])) (.r [])))))) .o)))) .o)) (.q (.q (.q (.j [(20,4),(21,4)] (.q (.c (.q (.r [])) (.q (.r [])))) (.q (.s (.b (.l [(20,4),(21,4)] (.s (.q .x) (.b (.q (.q (.c (.r []) (.r [])))))))) (.q (.j [] (.q (.c (.r []) .o)) (.j [] (.q (.c (.r []) .o)) (.q (.c (.r []) .o))))))))))))) func302 h
def Zhb(b4:Sl)(b5:World)(b6:Sl→World→Prop):Prop:=
 loop2 Sl.nil 0 b5 λo d x a3=>(If (d<(b4.len:Int)) (∃b2,Ix b4 d b2∧ ∃a b,Lii x (b2.add (d.toNat*2)) a b∧N236 x λb3 a4=>stw a4 b3 [vI a,vI b] λp=> ∃s,Li p b3 s∧Cs 143 [vI s] p λb7 a5=> ∃e f g a1,b7=Zek e f g a1∧N50 a5 λa6 a7=>stw a7 a6 (Biii e f g) λq=> ∃t,Li q (b3.add 1) t∧Cs 143 [vI t] q λa8 a9=> ∃h i j a2,a8=Zek h i j a2∧N50 a9 λr y=>stw y r (Biii h i j) λc=> ∃u v k,Liii c a6 u v k∧ ∃l m n,Liii c r l m n∧newS c (Zqh u v k l m n) 193 λb0 z=>appS prog 150 150 o (Sl.v (Sl.mk (some b0) 1 1)) z λb1 a0=>a3 b1 (Za (d+1)) a0) (b6 o x))
theorem Zhb.go{l w k}(h:Zhb l w λu a0=>k (Sl.v u) a0):Cs 319 [Sl.v l] w k:=rg (.q (.q (.s (.q (.b (.l [(3,151),(12,4)] (.q (.s .x (.s (.b (.q (.q (.q (.r []))))) (.r []))))))) .y))) func319 h
def Za9(b c:Value)(g:World)(h:Sl→World→Prop):Prop:=
 Cs 349 [b] g λi e=> ∃a,i=Sl.v a∧Cs 350 [Sl.v a,c] e λf d=>f= .tuple #[]∧h a d
theorem Za9.go{u a0 w k}(h:Za9 u a0 w λa1 a2=>k (Sl.v a1) a2):Cs 320 [u,a0] w k:=rg (.q (.q (.q .y))) func320 h
def Za5(a:Sl)(c:World)(d:Value→World→Prop):Prop:=
 newS c [Sl.v a] 233 λe b=>d (Value.func (.func 351) #[] #[vP e]) b
theorem Za5.go{u w k}(h:Za5 u w λa0 a1=>k a0 a1):Cs 321 [Sl.v u] w k:=rg (.q .y) func321 h
def Zfo(b c d e:Int)(j:World)(k:Int→World→Prop):Prop:=
 newS j [vI b,vI c] 236 λl h=>newS h [vI d,vI e] 236 λi a=> ∃f,Li a l f∧ ∃g,Li a i g∧k (Za (f - g)) a
theorem Zfo.go{u a0 a1 a2 w k}(h:Zfo u a0 a1 a2 w λa3 a4=>k (vI a3) a4):Cs 322 [(.agg #[vI u,vI a0]),(.agg #[vI a1,vI a2])] w k:=rg (.q .y) func322 h
def Za3(a:Sl)(m e n:Int)(c:Value)(o:World)(p:World→Prop):Prop:=
 loop2 (Za (e - m)) (Za (n - e)) o λd b g f=>(If (¬d=b) ((If (b<d) (Cs 352 [Sl.v a,(vI (Za (e - d))),vI e,vI b,c] g λq h=>q= .tuple #[]∧f (Za (d - b)) b h) (Cs 352 [Sl.v a,(vI (Za (e - d))),(vI (Za ((Za (e+b)) - d))),vI d,c] g λk i=>k= .tuple #[]∧f d (Za (b - d)) i))) (Cs 352 [Sl.v a,(vI (Za (e - d))),vI e,vI d,c] g λl j=>l= .tuple #[]∧p j))
theorem Za3.go{u a m b a0 w k}(h:Za3 u a m b a0 w λa1=>k (Value.tuple #[]) a1):Cs 326 [Sl.v u,vI a,vI m,vI b,a0] w k:=rg (.q (.q (.s (.b (.l [(10,4),(11,4)] (.s (.q .x) (.b (.q (.c (.q (.r [])) (.q (.r [])))))))) (.r [])))) func326 h
def Zai(a:Sl)(m e n:Int)(c:Value)(o:World)(p:World→Prop):Prop:=
 loop2 (Za (e - m)) (Za (n - e)) o λd b g f=>(If (¬d=b) ((If (b<d) (Cs 356 [Sl.v a,(vI (Za (e - d))),vI e,vI b,c] g λq h=>q= .tuple #[]∧f (Za (d - b)) b h) (Cs 356 [Sl.v a,(vI (Za (e - d))),(vI (Za ((Za (e+b)) - d))),vI d,c] g λk i=>k= .tuple #[]∧f d (Za (b - d)) i))) (Cs 356 [Sl.v a,(vI (Za (e - d))),vI e,vI d,c] g λl j=>l= .tuple #[]∧p j))
theorem Zai.go{u a m b a0 w k}(h:Zai u a m b a0 w λa1=>k (Value.tuple #[]) a1):Cs 334 [Sl.v u,vI a,vI m,vI b,a0] w k:=rg (.q (.q (.s (.b (.l [(10,4),(11,4)] (.s (.q .x) (.b (.q (.c (.q (.r [])) (.q (.r [])))))))) (.r [])))) func334 h
def Zbw(a:Value)(d:World)(e:Sl→World→Prop):Prop:=
 Cs 364 [(Sl.v Sl.nil),a] d λf c=> ∃b,f=Sl.v b∧e b c
theorem Zbw.go{u w k}(h:Zbw u w λa0 a1=>k (Sl.v a0) a1):Cs 349 [u] w k:=rg (.q .y) func349 h
def Zu(a:Sl)(r s u:Int)(t:Value)(v:World)(x:World→Prop):Prop:=
 loop1 0 v λi n o=>(If (i<u) (Dr n λb=> ∃q,Ix a (Za (s+i)) q∧ ∃c d e,Ltis b (q.add ((Za (s+i)).toNat*3)) c d e∧ ∃j,Ix a (Za (r+i)) j∧ ∃f g h,Ltis b (j.add ((Za (r+i)).toNat*3)) f g h∧ ∃k,Ix a (Za (r+i)) k∧stw b (k.add ((Za (r+i)).toNat*3)) (Btis c d e) λp=> ∃l,Ix a (Za (s+i)) l∧stw p (l.add ((Za (s+i)).toNat*3)) (Btis f g h) λm=>o (Za (i+1)) m) (x n))
theorem Zu.go{u a b n a0 w k}(h:Zu u a b n a0 w λa1=>k (Value.tuple #[]) a1):Cs 352 [Sl.v u,vI a,vI b,vI n,a0] w k:=rg (.q (.b (.l [(10,4)] (.s (.q .x) (.s (.b (.r [])) (.r [])))))) func352 h
def Zn(a:Sl)(r s u:Int)(t:Value)(v:World)(x:World→Prop):Prop:=
 loop1 0 v λg n o=>(If (g<u) (Dr n λb=> ∃q,Ix a (Za (s+g)) q∧ ∃h i c,Liii b (q.add ((Za (s+g)).toNat*3)) h i c∧ ∃j,Ix a (Za (r+g)) j∧ ∃d e f,Liii b (j.add ((Za (r+g)).toNat*3)) d e f∧ ∃k,Ix a (Za (r+g)) k∧stw b (k.add ((Za (r+g)).toNat*3)) (Biii h i c) λp=> ∃l,Ix a (Za (s+g)) l∧stw p (l.add ((Za (s+g)).toNat*3)) (Biii d e f) λm=>o (Za (g+1)) m) (x n))
theorem Zn.go{u a b n a0 w k}(h:Zn u a b n a0 w λa1=>k (Value.tuple #[]) a1):Cs 356 [Sl.v u,vI a,vI b,vI n,a0] w k:=rg (.q (.b (.l [(10,4)] (.s (.q .x) (.s (.b (.r [])) (.r [])))))) func356 h
end Go.Hal.SE
