/- Lemmas for the claim K19a: how the program's functions run, and what they answer; no condition but those that each theorem names. -/
import Derived.Test.YtgolaibmophnjaaGreatDoorProg
import Derived.Test.YtgolaibmophnjaaGreatDoorK19aA0
set_option linter.unusedVariables false
set_option linter.unusedSimpArgs false
set_option linter.defProp false
set_option maxHeartbeats 16000000
namespace Go.Hal.SE
open Go.Proofs.Tryz
open Go Go.RowKit Go.Hal Go.Proofs
set_option maxRecDepth 100000
def Jo(h4:Sl)(h5:Qd)(h2:Å):=
 Cs 148 [Sl.v h4] h5 λh6 e9=>∃b7,h6= .bool b7/\(Ib (!b7) (h2 Ϣ e9) (Cs 241 [Sl.v h4] e9 λh3 f0=>∃p,h3=Sl.v p/\uc Sl.nil 0 f0 λb i j f1=>(If (i<(p.len:Int)) (join (λ(l:Sl) (e8:Qd)=>f1 l (Aa (i+1)) e8) λm=>∃h1,Ix p i h1/\∃c d,C7 j (h1.add (i.toNat*2)) c d/\Ng j λb5 f2=>rp f2 b5 [vI c,vI d] λb6=>∃b8,Li b6 b5 b8/\Cs 242 [vI b8] b6 λf3 c6=>∃q r s e6,f3=FU q r s e6/\N52 c6 λk c7=>rp c7 k (AE q r s) λn=>∃b9,Li n (b5.add 1) b9/\Cs 242 [vI b9] n λf4 c8=>∃t u v e7,f4=FU t u v e7/\N52 c8 λo c9=>rp c9 o (AE t u v) λa=>∃c0,Li a b5 c0/\∃c1,Li a (b5.add 1) c1/\(If (c0=c1) (∃x y z,Av a k x y z/\Cs 94 [(Ao x y z)] a λf5 d0=>∃c2,f5= .string c2/\An d0 [vT c2] 9 λf6 d1=>ue prog 57 57 b (Sl.v (Sl.mk (some f6) 1 1)) d1 λf7 d2=>m f7 d2) (∃e f,C7 a b5 e f/\(Ib ((e==0)&&((f==999999999)&&true)) (An a [ vT ϫ] 9 λf8 d3=>ue prog 57 57 b (Sl.v (Sl.mk (some f8) 1 1)) d3 λf9 d4=>m f9 d4) (∃c3,Li a b5 c3/\(If (c3=0) (∃a0 a1 a2,Av a o a0 a1 a2/\Cs 94 [(Ao a0 a1 a2)] a λg0 d5=>∃a3,g0= .string a3/\(((Ϩ.size+a3.size:Nat):Int)<=Am)/\An d5 [(vT (Ϩ++a3))] 9 λg1 d6=>ue prog 57 57 b (Sl.v (Sl.mk (some g1) 1 1)) d6 λg2 d7=>m g2 d7) (∃c4,Li a (b5.add 1) c4/\(If (c4=999999999) (∃a4 a5 a6,Av a k a4 a5 a6/\Cs 94 [(Ao a4 a5 a6)] a λg3 d8=>∃a7,g3= .string a7/\(((Ϧ.size+a7.size:Nat):Int)<=Am)/\An d8 [(vT (Ϧ++a7))] 9 λg4 d9=>ue prog 57 57 b (Sl.v (Sl.mk (some g4) 1 1)) d9 λg5 e0=>m g5 e0) (Dr a λh=>∃a8 a9 b0,Av h k a8 a9 b0/\∃b1 b2 b3,Av h o b1 b2 b3/\Cx 94 [(Ao a8 a9 b0)] h λg6 e1=>∃g,g6= .string g/\(((Ϧ.size+g.size:Nat):Int)<=Am)/\((((Ϧ++g).size+(bm #[32,60,61]).size:Nat):Int)<=Am)/\Cs 94 [(Ao b1 b2 b3)] e1 λg7 e2=>∃b4,g7= .string b4/\(((((Ϧ++g)++(bm #[32,60,61])).size+b4.size:Nat):Int)<=Am)/\An e2 [(vT (((Ϧ++g)++(bm #[32,60,61]))++b4))] 9 λg8 e3=>ue prog 57 57 b (Sl.v (Sl.mk (some g8) 1 1)) e3 λg9 e4=>m g9 e4))))))))) ((If ((b.len:Int)=0) (h2 (bm #[60,48,46,48,46,48]) j) (Cs 243 [Sl.v b, vT Ϫ] j λh0 e5=>∃c5,h0= .string c5/\h2 c5 e5))))))
def Jo.V{l w k}(h:Jo l w λu a0=>k (vT u) a0):Cs 156 [Sl.v l] w k:=rg (.q (.s Ξ (.q (.s (.q (.b (.l [(3,58),(16,4)] (.q (.s .x (.j [(3,58)] (.b ό) Υ)))))) ζ)))) func156 h
def Lc(b5:PU)(a6 a7 a8:Int)(a9 b0:Sl)(b1:Int)(c5:Qd)(c1:Á):=
 An c5 (AN b5 a6 a7 a8 a9 b0) 56 λb4 b6=>∃a0,Ls b6 (b4.add 4) a0/\Cs 244 [(vI (a0.len:Int)),(.func (.func 245) #[] #[vP b4])] b6 λc6 h=>∃a1,c6= .bool a1/\sh (!a1) λ(c2:Bool)=>∃a2,Gs (!c2) h (b4.add 5) a2/\No (!c2) (λ(d:Bool) (b:Qd)=>(Ib (c2||(!d)) (c1 false b) (∃l,Ls b (b4.add 4) l/\rn 0 b λe f b7=>(If (e<(l.len:Int)) (∃c0,Ix l e c0/\∃m n o p,BR f (c0.add (e.toNat*4)) m n o p/\GD f λb8 b2=>rp b2 b8 (Bt m n o p) λi=>∃q r s,Av i (b8.add 1) q r s/\Cs 75 [(Ao q r s)] i λb9 j=>∃a3,b9= .bool a3/\(Ib (!a3) (c1 false j) (b7 (Aa (e+1)) j))) (∃t,Ls f (b4.add 5) t/\rn 0 f λg c y=>(If (g<(t.len:Int)) (∃u,Ix t g u/\∃v x,Dj c (u.add (g.toNat*2)) v x/\GF c λk b3=>rp b3 k [vT v,vI x] λa=>∃a4,Li a (k.add 1) a4/\sh (decide (a4<1)) λ(z:Bool)=>∃a5,Gi (!z) a (k.add 1) a5/\(Ib (z||(decide (b1<=a5))) (c1 false a) (y (Aa (g+1)) a))) (c1 true c))))))) (λc3=>Cs 244 [(vI (a2.len:Int)),(.func (.func 246) #[] #[vP b4])] h λc4 b=>∃d,c4= .bool d/\c3 d b) (λc3=>c3 false h)
def Lc.V{a5 u a0 a1 a2 a3 a4 w k}(h:Lc a5 u a0 a1 a2 a3 a4 w λa6 a7=>k (vB a6) a7):Cs 157 [(GA a5 u a0 a1 a2 a3),vI a4] w k:=rg (.q (.s Ξ (.s (.q (.b (.l [(26,4)] Φ))) (.s (.q (.b (.l [(38,4)] Φ))) .y)))) func157 h
def MQ(v:Sl)(a8:Qd)(a7:Á):=
 An a8 [Sl.v v] 37 λa6 a0=>∃z,Ls a0 a6 z/\rn 0 a0 λb c a1=>(If (b<(z.len:Int)) (∃a4,Ix z b a4/\∃g h i j k l,CL c (a4.add (b.toNat*6)) g h i j k l/\Ģ c λa2 a3=>rp a3 a2 (AN g h i j k l) λp=>∃m,Ls p (a2.add 5) m/\rn 0 p λd e x=>(If (d<(m.len:Int)) (∃q,Ix m d q/\∃n o,Dj e (q.add (d.toNat*2)) n o/\GF e λf y=>rp y f [vT n,vI o] λa=>∃r,Li a (f.add 1) r/\sh (decide (r<1)) λ(a5:Bool)=>∃s,Gi (!a5) a (f.add 1) s/\∃t,Gs (!a5) a a6 t/\(Ib (a5||(decide ((t.len:Int)<=s))) (a7 false a) (x (Aa (d+1)) a))) (a1 (Aa (b+1)) e))) (∃u,Ls c a6 u/\a7 (decide (0<(u.len:Int))) c))
def MQ.V{u w k}(h:MQ u w λa0 a1=>k (vB a0) a1):Cs 160 [(.agg #[Sl.v u])] w k:=rg (.q (.s (.q (.b (.l [(10,4)] (.q (.s .x (.s (.b (.q (.q (.b (.l [(17,4)] Φ))))) Υ)))))) .y)) func160 h
def Il(a:Int)(b:Qd)(c:Á):=
 c (!(a==a)) b
def Il.V{x w k}(h:Il x w λu a0=>k (vB u) a0):Cs 162 [vI x] w k:=rg Ψ func162 h
def K2(a5:Sl)(c3:Qd)(c1:Sl->Wp):=
 An c3 [Sl.v a5] 37 λc2 a7=>∃a1,Ls a7 c2 a1/\(If ((a1.len:Int)=0) (c1 Sl.nil a7) (wx prog (Instr.makeMap 330 none) a7 λc4 a0=>∃h,c4= .map h/\∃a,Ls a0 c2 a/\((0:Int)<=1/\1<=(a.len:Int))/\uc Sl.nil 0 a0 λg c i b2=>(If (c<((Sl.cut a ((1:Int).toNat) a.len 6).len:Int)) (join (λ(a6:Sl) (b1:Qd)=>b2 a6 (Aa (c+1)) b1) λb3=>∃b9,Ix (Sl.cut a ((1:Int).toNat) a.len 6) c b9/\∃j k l m n o,CL i (b9.add (c.toNat*6)) j k l m n o/\Ģ i λd b4=>rp b4 d (AN j k l m n o) λe=>∃a2,Lt e d a2/\∃p q r,Av e (d.add 1) p q r/\wx prog (Instr.lookup 330 (Value.map h) (B3 a2 p q r) true) e λb5 b=>∃c0 s,b5=GK c0 s/\(Ib (!s) (∃a3,Lt b d a3/\∃t u v,Av b (d.add 1) t u v/\zt prog (Instr.mapUpdate 330 (Value.map h) (B3 a3 t u v) (vI c)) b λf=>∃a4,Lt f d a4/\∃x y z,Av f (d.add 1) x y z/\An f (Bt a4 x y z) 150 λb6 a8=>ue prog 53 53 g (Sl.v (Sl.mk (some b6) 1 1)) a8 λb7 a9=>b3 b7 a9) (b3 g b))) (Cs 120 [Sl.v g,(.func (.func 266) #[] #[])] i λb8 b0=>b8= .tuple #[]/\c1 g b0))))
def K2.V{u w k}(h:K2 u w λa0 a1=>k (Sl.v a0) a1):Cs 174 [(.agg #[Sl.v u])] w k:=rg (.q (.s Ξ (.q (.q (.s (.q (.b (.l [(4,54),(18,4)] (.q (.s .x (.j [(4,54)] (.b (.q (.q Ϛ))) Υ)))))) Ψ))))) func174 h
def Mo(a:Sl)(n:HT)(a4:Qd)(a2:Sl->Wp):=
 Cs 267 [Sl.v a,n] a4 λa5 t=>∃b,a5= .int .i64 b/\(If (b=(-1)) (a2 a t) (uc b (Aa (b+1)) t λl m c u=>(If (m<(a.len:Int)) (join (λ(z:Int) (s:Qd)=>u z (Aa (m+1)) s) λv=>∃y,Ix a m y/\∃e f,Bl c (y.add (m.toNat*2)) e f/\Cz c λa0 x=>rp x a0 [vT e,Sl.v f] λo=>∃g h,Bl o a0 g h/\ug prog n [(.agg #[vT g,Sl.v h])] o λa1 d=>∃p,a1= .bool p/\(Ib (!p) (∃i j,Bl d a0 i j/\∃k,Ix a l k/\rp d (k.add (l.toNat*2)) [vT i,Sl.v j] λq=>v (Aa (l+1)) q) (v l d))) (((0:Int)<=l/\l<=(a.len:Int))/\wx prog (Builtin.clear_ #[32] 0 #[(Sl.v (Sl.cut a l.toNat a.len 2))]) c λa3 r=>((0:Int)<=l/\l<=(a.cap:Int))/\a2 (Sl.cut a 0 l.toNat 2) r))))
def Mo.V{a0 u w k}(h:Mo a0 u w λa1 a2=>k (Sl.v a1) a2):Cs 175 [Sl.v a0,u] w k:=rg θ func175 h
def Mj(a:Sl)(e:Qd)(f:Sl->Wp):=
 (If (a.a=none) (f Sl.nil e) (An e [] 187 λg c=>ue prog 32 32 (Sl.mk (some g) 0 0) (Sl.v a) c λd b=>f d b))
def Mj.V{u w k}(h:Mj u w λa0 a1=>k (Sl.v a0) a1):Cs 176 [Sl.v u] w k:=rg φ func176 h
def NF(b:PU)(c:Sl)(f:LP)(g:Qd)(h:Á):=
 An g [vT b,Sl.v c] 187 λi a=>∃d,Lt a i d/\∃e,Lt a f e/\h (Ag d e) a
def NF.V{u:PU}{a0:Sl}{c0:LP}{w:Qd}{k:Ã}(h:NF u a0 c0 w λa1 a2=>k (.bool a1) a2):si prog 177 [(.agg #[.string u,Sl.v a0]),(.pointer (some c0))] w k:=C4 (sk:=(.s (.r []) (.s (.r []) .o))) (args:= [sv (.agg #[.string u,Sl.v a0]),sa c0]) func177 (Eq.mpr kR h)
def Ko(b:PU)(c:Sl)(d:PU)(e:Sl)(l:Qd)(m:À):=
 An l [vT b,Sl.v c] 187 λn j=>An j [vT d,Sl.v e] 187 λk a=>∃g,Lt a n g/\∃h,Lt a k h/\Cs 66 [vT g,vT h] a λo f=>∃i,o= .int .i64 i/\m i f
def Ko.V{u a0 a1 a2 w k}(h:Ko u a0 a1 a2 w λa3 a4=>k (vI a3) a4):Cs 179 [(.agg #[vT u,Sl.v a0]),(.agg #[vT a1,Sl.v a2])] w k:=rg Ψ func179 h
def Mm(b:Sl)(d:HT)(e:Qd)(f:Á):=
 Cs 267 [Sl.v b,d] e λg c=>∃a,g= .int .i64 a/\f (decide (0<=a)) c
def Mm.V{u f w k}(h:Mm u f w λa0 a1=>k (vB a0) a1):Cs 180 [Sl.v u,f] w k:=rg Ψ func180 h
def NE(b:PU)(c:Sl)(f:LP)(g:Qd)(h:Á):=
 An g [vT b,Sl.v c] 187 λi a=>∃d,Lt a i d/\∃e,Lt a f e/\h (Ag d e) a
def NE.V{u:PU}{a0:Sl}{c0:LP}{w:Qd}{k:Ã}(h:NE u a0 c0 w λa1 a2=>k (.bool a1) a2):si prog 181 [(.agg #[.string u,Sl.v a0]),(.pointer (some c0))] w k:=C4 (sk:=(.s (.r []) (.s (.r []) .o))) (args:= [sv (.agg #[.string u,Sl.v a0]),sa c0]) func181 (Eq.mpr kR h)
def HC(i:Sl)(m:HT)(n:Qd)(l:À):=
 rn 0 n λa h j=>(If (a<(i.len:Int)) (∃k,Ix i a k/\∃f b c d,BR h (k.add (a.toNat*4)) f b c d/\ug prog m [(B3 f b c d)] h λo e=>∃g,o= .bool g/\(Ib g (l a e) (j (Aa (a+1)) e))) (l (-1) h))
def HC.V{u f w k}(h:HC u f w λa0 a1=>k (vI a0) a1):Cs 182 [Sl.v u,f] w k:=rg Ω func182 h
def Gm(e:PU)(b:Sl)(c:PU)(d:Sl)(l:Qd)(m:À):=
 An l [vT e,Sl.v b] 187 λn j=>An j [vT c,Sl.v d] 187 λk a=>∃g,Lt a n g/\∃h,Lt a k h/\Cs 66 [vT g,vT h] a λo f=>∃i,o= .int .i64 i/\m i f
def Gm.V{a2 u a0 a1 w k}(h:Gm a2 u a0 a1 w λa3 a4=>k (vI a3) a4):Cs 183 [(.agg #[vT a2,Sl.v u]),(.agg #[vT a0,Sl.v a1])] w k:=rg Ψ func183 h
def M4(n:Sl)(j:HT)(p:Qd)(o:Á):=
 rn (Aa ((n.len:Int) - 1)) p λi k l=>(If (0<i) (Dr k λa=>∃m,Ix n i m/\∃b c,Bl a (m.add (i.toNat*2)) b c/\∃g,Ix n (Aa (i - 1)) g/\∃d e,Bl a (g.add ((Aa (i - 1)).toNat*2)) d e/\ug prog j [(.agg #[vT b,Sl.v c]),(.agg #[vT d,Sl.v e])] a λq f=>∃h,q= .int .i64 h/\(If (h<0) (o false f) (l (Aa (i - 1)) f))) (o true k))
def M4.V{x u w k}(h:M4 x u w λa0 a1=>k (vB a0) a1):Cs 184 [Sl.v x,u] w k:=rg (.q ι) func184 h
def MX(l m n o:Sl)(p:Bool)(a0:Qd)(a1:Sl->Wp):=
 An a0 (Dg l m n o) 34 λy q=>∃x,Ls q y x/\An q [Sl.v x] 32 λr b=>join (λ(j:Sl) (a:Qd)=>∃c d e f,BQ a y c d e f/\∃g,Ls a (y.add 2) g/\Cs 269 [(AQ c d e f),Sl.v j,Sl.v g] a λa2 s=>∃h,a2=Sl.v h/\a1 h s) λt=>(Ib p (∃i,Ls b (y.add 1) i/\An b [Sl.v i] 32 λz u=>ue prog 228 228 (Sl.mk (some r) 1 1) (Sl.v (Sl.mk (some z) 1 1)) u λv k=>t v k) (t (Sl.mk (some r) 1 1) b))
def MX.V{u a0 a1 a2 a3 w k}(h:MX u a0 a1 a2 a3 w λa4 a5=>k (Sl.v a4) a5):Cs 185 [(AQ u a0 a1 a2),vB a3] w k:=rg (.q (.q (.j [(5,229)] η .y))) func185 h
def MW(i:PU)(j k l:Int)(m n o p q r s:Sl)(a0:Qd)(a1:Sl->Wp):=
 An a0 (A2 i j k l m n o) 59 λz v=>An v (Dg p q r s) 34 λx a=>∃b c d e,BQ a x b c d e/\∃u,Ls a (z.add 4) u/\An a [Sl.v u] 32 λy f=>∃g,Ls f (z.add 6) g/\Cs 269 [(AQ b c d e),(Sl.v (Sl.mk (some y) 1 1)),Sl.v g] f λa2 t=>∃h,a2=Sl.v h/\a1 h t
def MW.V{u a0 a1 a2 a3 a4 a5 a6 a7 a8 a9 w k}(h:MW u a0 a1 a2 a3 a4 a5 a6 a7 a8 a9 w λb0 b1=>k (Sl.v b0) b1):Cs 186 [(A1 u a0 a1 a2 a3 a4 a5),(AQ a6 a7 a8 a9)] w k:=rg Ψ func186 h
def Mn(b:Sl)(d:HT)(e:Qd)(f:Á):=
 Cs 270 [Sl.v b,d] e λg c=>∃a,g= .int .i64 a/\f (decide (0<=a)) c
def Mn.V{u f w k}(h:Mn u f w λa0 a1=>k (vB a0) a1):Cs 187 [Sl.v u,f] w k:=rg Ψ func187 h
def M7(p q r s t u:Int)(x:LP)(a3:Qd)(a4:Á):=
 An a3 (Nb p q r s t u) 223 λa2 v=>∃d e f,Av v a2 d e f/\∃g h i,Av v x g h i/\Cs 189 [(Ao d e f),(Ao g h i)] v λa5 b=>∃y,a5= .int .i64 y/\sh (decide (y<=0)) λ(z:Bool)=>∃j k l,Bj z b x j k l/\∃m n o,Bj z b (a2.add 3) m n o/\No z (λ(a:Int) (c:Qd)=>a4 (z&&(decide (a<=0))) c) (λa0=>Cs 189 [(Ao j k l),(Ao m n o)] b λa1 c=>∃a,a1= .int .i64 a/\a0 a c) (λa0=>a0 0 b)
def M7.V{u a0 a1 a2 a3 a4:Int}{c0:LP}{w:Qd}{k:Ã}(h:M7 u a0 a1 a2 a3 a4 c0 w λa5 a6=>k (.bool a5) a6):si prog 188 [(.agg #[vi u,vi a0,vi a1,vi a2,vi a3,vi a4]),(.pointer (some c0))] w k:=C4 (sk:=(.s (.r []) (.s (.r []) .o))) (args:= [sv (.agg #[vi u,vi a0,vi a1,vi a2,vi a3,vi a4]),sa c0]) func188 (Eq.mpr kR h)
def Fm(n o p q r s:Int)(a5:Qd)(a6:À):=
 An a5 (AE n o p) 52 λa3 a4=>An a4 (AE q r s) 52 λi t=>Dr t λa=>∃a0,Li a a3 a0/\∃a1,Li a i a1/\∃b,Li a (a3.add 1) b/\∃c,Li a (i.add 1) c/\∃d,Li a (a3.add 2) d/\∃e,Li a (i.add 2) e/\Cx 104 [vI a0,vI a1] a λa7 u=>∃a2,a7= .int .i64 a2/\Cx 104 [vI b,vI c] u λv j=>∃f,v= .int .i64 f/\Cs 104 [vI d,vI e] j λx k=>∃g,x= .int .i64 g/\An k (AE a2 f g) 3 λy l=>Cs 103 [(Sl.v (Sl.mk (some y) 3 3))] l λz m=>∃h,z= .int .i64 h/\a6 h m
def Fm.V{u a0 a1 a2 a3 a4 w k}(h:Fm u a0 a1 a2 a3 a4 w λa5 a6=>k (vI a5) a6):Cs 189 [(Ao u a0 a1),(Ao a2 a3 a4)] w k:=rg Ψ func189 h
def Mq(a:Sl)(q:HT)(a7:Qd)(a5:Sl->Wp):=
 Cs 271 [Sl.v a,q] a7 λa8 x=>∃b,a8= .int .i64 b/\(If (b=(-1)) (a5 a x) (uc b (Aa (b+1)) x λo p c y=>(If (p<(a.len:Int)) (join (λ(a2:Int) (v:Qd)=>y a2 (Aa (p+1)) v) λz=>∃a1,Ix a p a1/\∃e f g,Av c (a1.add (p.toNat*3)) e f g/\N52 c λa3 a0=>rp a0 a3 (AE e f g) λr=>∃h i j,Av r a3 h i j/\ug prog q [(Ao h i j)] r λa4 d=>∃s,a4= .bool s/\(Ib (!s) (∃k l m,Av d a3 k l m/\∃n,Ix a o n/\rp d (n.add (o.toNat*3)) (AE k l m) λt=>z (Aa (o+1)) t) (z o d))) (((0:Int)<=o/\o<=(a.len:Int))/\wx prog (Builtin.clear_ #[128] 0 #[(Sl.v (Sl.cut a o.toNat a.len 3))]) c λa6 u=>((0:Int)<=o/\o<=(a.cap:Int))/\a5 (Sl.cut a 0 o.toNat 3) u))))
def Mq.V{a0 u w k}(h:Mq a0 u w λa1 a2=>k (Sl.v a1) a2):Cs 190 [Sl.v a0,u] w k:=rg θ func190 h
def F2(c5:Wd)(p:PU)(c3:Qd)(c6:Sl->Wp):=
 ∃c4,c5=some c4/\∃l,se c3 c4 [.map l]/\wx prog (Instr.range 98 (Value.map l)) c3 λc7 c0=>∃q,c7=(vP q)/\rn Sl.nil c0 λd b5 m=>wx prog (Instr.next (vP q) false 0) b5 λc1 h=>∃b1 c b2 b3 b4 r s t u v x y,c1=Zg9 b1 (B3 c b2 b3 b4) (A1 r s t u v x y)/\(Ib b1 (∃a e f g z a0 a1 a2 a3 a4 a5,(C6 prog (Instr.entry (vP q)) h (Value.tuple #[(B3 a e f g),(A1 z a0 a1 a2 a3 a4 a5)]))/\Tc h λc2 a6=>rp a6 c2 (Bt a e f g) λb=>∃n,Lt b c2 n/\(If (n=p) (∃i j k,Av b (c2.add 1) i j k/\An b (AE i j k) 52 λb6 a7=>ue prog 128 128 d (Sl.v (Sl.mk (some b6) 1 1)) a7 λb7 a8=>m b7 a8) (m d b))) (Cs 272 [Sl.v d,(.func (.func 273) #[] #[])] h λb8 a9=>b8= .tuple #[]/\Cs 197 [Sl.v d] a9 λb9 b0=>∃o,b9=Sl.v o/\c6 o b0))
def F2.sound(c:Wd)(Y:PU)(w:Qd)(R:Sl->Wp)(h:F2 c Y w R):si prog 191 [(.pointer c),(.string Y)] w (λv w'=>∃(r0:Sl),v=(Sl.v r0)/\R r0 w'):=by
 unfold F2 at h;refine TN 29 rfl func191 rfl kR sI ?_;refine Vc.seq ?_;refine Vc.region ?_;refine DX rfl rfl Sl.nil.v (λw=>kR) ?_;refine FN ?_;refine Vc.seq ?_;refine Vc.region ?_;refine DX rfl rfl Sl.nil.v (λw=>kR) ?_;refine FN ?_;refine Vc.seq ?_;refine Vc.seq ?_;refine Vc.region ?_;refine DX rfl rfl (Value.pointer c) (λw=>kR) ?_;obtain⟨p,hp,h⟩:=h;refine DX rfl rfl (Value.pointer (some p)) (λw=>by exact UI rfl kR (hp) w) ?_;refine DX rfl rfl (Value.pointer (some p)) (λw=>kR) ?_;obtain⟨t10,hc,h⟩:=h;refine OY rfl rfl (Value.map t10) (NM rfl kR (RG (λw=>kR) ((hc)))) ?_;refine FM rfl (Lr rfl (c:=Instr.range 98 (Value.map t10)) kR (wx.O h λv vw h=>?_));obtain⟨it,rfl,h⟩:=h;refine FN ?_;refine Vc.block ?_;obtain⟨vI,mu,h,hr⟩:=h;refine Vc.Xc2 (σ:=Sl) [5] [6,12,13,14,15,16,17,18,19,20,21,22,23,24] (λs=> [(5,(Sl.v s))]) (λs w=>vI s w) (λs w=>mu s w) Sl.nil h (λ_=>rfl) kR ?_;intro rv vw1 j h;have h:=hr rv vw1 h;refine Vc.seq ?_;refine Vc.region ?_;refine FM rfl (Lr rfl (c:=Instr.next (Value.pointer (some it)) false 0) kR (wx.O h λv3 vw2 h=>?_));obtain⟨ok,key_name,zzl,zzm,zzn,zz20,zz23,zz24,zz25,zz1z,zz22,zz21,rfl,h⟩:=h;refine DX rfl rfl (Value.bool ok) (λw=>by cases ok<;>kernel_rfl) ?_;refine FN ?_;refine Vc.seq ?_;refine Vc.cond ok kR (λhb=>?_) (λhb=>?_)
 .have hq:=h.1 (hb);clear h;subst hb;have h:=hq;clear hq;refine Vc.skip ?_;refine Vc.block ?_;refine Vc.seq ?_;refine Vc.region ?_;obtain⟨key_name4,zz1t,zz1u,zz1v,zz3m,zz3p,zz3q,zz3r,zz3l,zz3o,zz3n,hl,h⟩:=h;refine OY rfl rfl (Value.tuple #[(.agg #[(.string key_name4),vi zz1t,vi zz1u,vi zz1v]),(.agg #[(.string zz3m),vi zz3p,vi zz3q,vi zz3r,(Sl.v zz3l),(Sl.v zz3o),(Sl.v zz3n)])]) (UJ (c:=Instr.entry (Value.pointer (some it))) kR ((hl) _ (AI.refl _))) ?_;refine DX rfl rfl (Value.agg #[(.string key_name4),vi zz1t,vi zz1u,vi zz1v]) (λw=>kR) ?_;refine FM rfl (Rc rfl (λa=>Value.pointer (some a)) kR (An.O h λa vw15 hx h=>?_));refine FM rfl (Wb rfl rfl (a:=a) kR (v:=(Value.agg #[(.string key_name4),vi zz1t,vi zz1u,vi zz1v])) kR [(.string key_name4),vi zz1t,vi zz1u,vi zz1v] kR (λw=>kR) kR (rp.O h λvw16 h=>?_));refine FN ?_;refine Vc.seq ?_;refine Vc.region ?_;refine DX rfl rfl (Value.pointer (some a)) (λw=>kR) ?_;obtain⟨t17,hc17,h⟩:=h;refine OY rfl rfl (Value.string t17) (NM rfl kR (RG (λw=>kR) ((hc17)))) ?_;refine XU 2 [(19,(.bool (Ag t17 Y))),(18,(.string Y))] kR ?_;refine FN ?_;refine Vc.cond (Ag t17 Y) kR (λhb=>?_) (λhb=>?_)
  .have h:=h.1 (AA.1 hb);refine Vc.region ?_;refine XU 2 [(21,(.pointer (some (a.add 1)))),(20,(Sl.v rv))] kR ?_;obtain⟨zz1w,zz1x,zz1y,hc18,h⟩:=h;refine OY rfl rfl (Value.agg #[vi zz1w,vi zz1x,vi zz1y]) (NM rfl kR (WN (λw=>kR) (λw=>kR) ((hc18)))) ?_;refine FM rfl (Rc rfl (λa=>Value.slice (some a) 1 1) kR (An.O h λa19 vw20 hx h=>?_));refine FM rfl (Lr rfl (c:=Builtin.append_ #[128,128] 128 #[(Sl.v rv),(Sl.v (Sl.mk (some a19) 1 1))]) kR (ue.F (ty:=128) h λt24 vw21 h=>?_));refine DX rfl rfl (Sl.v t24) (λw=>kR) ?_;refine FN ?_;exact⟨t24,30,⟨rfl,kR,kR,kR⟩,h⟩
  .have h:=h.2 (Ns.1 hb);refine Vc.skip ?_;exact⟨rv,24,⟨rfl,kR,kR,kR⟩,h⟩
 .have hq:=h.2 (hb);clear h;subst hb;have h:=hq;clear hq;refine Vc.exit ?_;refine Zhn ?_;refine Vc.seq ?_;refine Vc.region ?_;refine DX rfl rfl (Sl.v rv) (λw=>kR) ?_;refine FM rfl (VZ rfl kR (si.O h λv23 vw22 h=>?_));obtain⟨rfl,h⟩:=h;refine FN ?_;refine Vc.seq ?_;refine Vc.region ?_;refine DX rfl rfl (Sl.v rv) (λw=>kR) ?_;refine FM rfl (VZ rfl kR (si.O h λv25 vw24 h=>?_));obtain⟨t28,rfl,h⟩:=h;refine DX rfl rfl (Sl.v t28) (λw=>kR) ?_;refine FN ?_;refine Vc.ret ?_;refine Zhp ?_;refine Zaw (Sl.v t28) (W8 (W9 kR)) ?_;exact⟨t28,rfl,h⟩
def F2.V{c:Wd}{u:PU}{w:Qd}{k:Ã}(h:F2 c u w λa0 a1=>k (Sl.v a0) a1):si prog 191 [.pointer c, .string u] w k:=(F2.sound c u w _ h).O (by rintro _ _ ⟨a0,rfl,h⟩;exact h)
def JP(e f g:Int)(k:LP)(l:Qd)(m:Á):=
 An l (AE e f g) 52 λn d=>∃i,Ls d k i/\∃a b c,Av d n a b c/\Cs 118 [Sl.v i,(Ao a b c)] d λo h=>∃j,o= .bool j/\m (!j) h
def JP.V{u a0 a1:Int}{c0:LP}{w:Qd}{k:Ã}(h:JP u a0 a1 c0 w λa2 a3=>k (.bool a2) a3):si prog 192 [(.agg #[vi u,vi a0,vi a1]),(.pointer (some c0))] w k:=C4 (sk:=(.s (.r []) (.s (.r []) .o))) (args:= [sv (.agg #[vi u,vi a0,vi a1]),sa c0]) func192 (Eq.mpr kR h)
def Jl(b:Sl)(a:HT)(c:Qd)(d:Wp):=
 Jf 274 b a c d
def Jl.V{x u w k}(h:Jl x u w λa0=>k (.tuple #[]) a0):Cs 193 [Sl.v x,u] w k:=rg Υ func193 h
def JQ(q r s t u v:Int)(x y:LP)(a8:Qd)(a9:À):=
 An a8 (AE q r s) 52 λb0 a6=>An a6 (AE t u v) 52 λa7 z=>Dr z λa=>∃a4,Ls a x a4/\∃a5,Lt a y a5/\∃b c d,Av a a7 b c d/\∃h,Ls a x h/\∃i,Lt a y i/\∃e f g,Av a b0 e f g/\Cx 196 [Sl.v a4,(B3 a5 b c d)] a λb1 a0=>∃j,b1= .bool j/\Cx 195 [vB j] a0 λa1 n=>∃k,a1= .int .i64 k/\Cs 196 [Sl.v h,(B3 i e f g)] n λa2 o=>∃l,a2= .bool l/\Cs 195 [vB l] o λa3 p=>∃m,a3= .int .i64 m/\a9 (Aa (k - m)) p
def JQ.V{u a0 a1 a2 a3 a4:Int}{c0 c1:LP}{w:Qd}{k:Ã}(h:JQ u a0 a1 a2 a3 a4 c0 c1 w λa5 a6=>k (vi a5) a6):si prog 194 [(.agg #[vi u,vi a0,vi a1]),(.agg #[vi a2,vi a3,vi a4]),(.pointer (some c0)),(.pointer (some c1))] w k:=C4 (sk:=(.s (.r []) (.s (.r []) .o))) (args:= [sv (.agg #[vi u,vi a0,vi a1]),sv (.agg #[vi a2,vi a3,vi a4]),sa c0,sa c1]) func194 (Eq.mpr kR h)
def Ih(a:Bool)(b:Qd)(c:À):=
 (Ib a (c 1 b) (c 0 b))
def Ih.V{u w k}(h:Ih u w λa0 a1=>k (vI a0) a1):Cs 195 [vB u] w k:=rg φ func195 h
def Ji(l:Sl)(e:PU)(f g h:Int)(m:Qd)(n:Á):=
 An m (Bt e f g h) 150 λo i=>∃a b c d,BR i o a b c d/\Cs 275 [Sl.v l,(B3 a b c d)] i λp j=>∃k,p= .int .i64 k/\n (decide (0<=k)) j
def Ji.V{a3 u a0 a1 a2 w k}(h:Ji a3 u a0 a1 a2 w λa4 a5=>k (vB a4) a5):Cs 196 [Sl.v a3,(B3 u a0 a1 a2)] w k:=rg Ψ func196 h
def OI(a:Sl)(b:Qd)(c:Sl->Wp):=
 ((0:Int)<=0/\0<=(a.len:Int)/\(a.len:Int)<=(a.len:Int)/\(a.len:Int)<=(a.cap:Int))/\c (Sl.mk (if(a.len:Int).toNat=0 then a.a else a.a.map (·.add (0*3))) ((a.len:Int).toNat - 0) ((a.len:Int).toNat - 0)) b
def OI.V{u w k}(h:OI u w λa0 a1=>k (Sl.v a0) a1):Cs 197 [Sl.v u] w k:=rg Ψ func197 h
def Jw(a:PU)(c:Qd)(d:Ã):=
 An c [vT a] 9 λe b=>d (Value.func (.func 200) #[] #[vP e]) b
def Jw.V{u w k}(h:Jw u w λa0 a1=>k a0 a1):Cs 199 [vT u] w k:=rg Ψ func199 h
def MU(b:PU)(c d e:Int)(h:LP)(i:Qd)(j:Á):=
 An i (Bt b c d e) 150 λk a=>∃f,Lt a k f/\∃g,Lt a h g/\j (Ag f g) a
def MU.V{u:PU}{a0 a1 a2:Int}{c0:LP}{w:Qd}{k:Ã}(h:MU u a0 a1 a2 c0 w λa3 a4=>k (.bool a3) a4):si prog 200 [(.agg #[.string u,vi a0,vi a1,vi a2]),(.pointer (some c0))] w k:=C4 (sk:=(.s (.r []) (.s (.r []) .o))) (args:= [sv (.agg #[.string u,vi a0,vi a1,vi a2]),sa c0]) func200 (Eq.mpr kR h)
def MY(q:PU)(r s t:Int)(u v x a4 a5 a6 a7:Sl)(b7:Qd)(b8:Sl->Wp):=
 An b7 (A2 q r s t u v x) 59 λb9 b5=>An b5 (Dg a4 a5 a6 a7) 34 λb6 l=>∃a3,Ls l (b9.add 5) a3/\uc Sl.nil 0 l λm a c a8=>(If (a<(a3.len:Int)) (∃b4,Ix a3 a b4/\∃d e,Bl c (b4.add (a.toNat*2)) d e/\Cz c λy a9=>rp a9 y [vT d,Sl.v e] λb0=>Dr b0 λb=>∃n,Lt b y n/\∃f g h i,BQ b b6 f g h i/\∃j k,Bl b y j k/\Cx 284 [(AQ f g h i),(.agg #[vT j,Sl.v k])] b λc0 z=>∃o,c0=Sl.v o/\An z [vT n,Sl.v o] 187 λb1 a0=>ue prog 32 32 m (Sl.v (Sl.mk (some b1) 1 1)) a0 λb2 a1=>a8 b2 (Aa (a+1)) a1) (Cs 285 [Sl.v m] c λb3 a2=>∃p,b3=Sl.v p/\b8 p a2))
def MY.V{u a0 a1 a2 a3 a4 a5 a6 a7 a8 a9 w k}(h:MY u a0 a1 a2 a3 a4 a5 a6 a7 a8 a9 w λb0 b1=>k (Sl.v b0) b1):Cs 201 [(A1 u a0 a1 a2 a3 a4 a5),(AQ a6 a7 a8 a9)] w k:=rg (.q (.q (.s (.q (.b (.l [(5,33),(11,4)] δ))) .y))) func201 h
def MV(b:PU)(c d e:Int)(f:PU)(g h i:Int)(p:Qd)(q:À):=
 An p (Bt b c d e) 150 λr n=>An n (Bt f g h i) 150 λo a=>∃k,Lt a r k/\∃l,Lt a o l/\Cs 66 [vT k,vT l] a λs j=>∃m,s= .int .i64 m/\q m j
def MV.V{u a0 a1 a2 a3 a4 a5 a6 w k}(h:MV u a0 a1 a2 a3 a4 a5 a6 w λa7 a8=>k (vI a7) a8):Cs 202 [(B3 u a0 a1 a2),(B3 a3 a4 a5 a6)] w k:=rg Ψ func202 h
def RR(a:Sl)(b:Qd)(c:Sl->Wp):=
 ((0:Int)<=0/\0<=(a.len:Int)/\(a.len:Int)<=(a.len:Int)/\(a.len:Int)<=(a.cap:Int))/\c (Sl.mk (if(a.len:Int).toNat=0 then a.a else a.a.map (·.add (0*4))) ((a.len:Int).toNat - 0) ((a.len:Int).toNat - 0)) b
def RR.V{u w k}(h:RR u w λa0 a1=>k (Sl.v a0) a1):Cs 203 [Sl.v u] w k:=rg Ψ func203 h
def Hw(c d:Sl)(e:Qd)(f:Á):=
 Cs 286 [Sl.v c,Sl.v d,(.func (.func 287) #[] #[])] e λg b=>∃a,g= .bool a/\f a b
def Hw.V{a b w k}(h:Hw a b w λu a0=>k (vB u) a0):Cs 204 [Sl.v a,Sl.v b] w k:=rg Ψ func204 h
def Fk(b c:Sl)(i:Qd)(j:À):=
 An i [Sl.v b] 40 λk g=>An g [Sl.v c] 57 λh a=>∃e,Ls a k e/\Cs 289 [Sl.v e,(.func (.func 290) #[] #[vP h])] a λl d=>∃f,l= .int .i64 f/\j f d
def Fk.V{u a0 w k}(h:Fk u a0 w λa1 a2=>k (vI a1) a2):Cs 205 [(.agg #[Sl.v u]),Sl.v a0] w k:=rg Ψ func205 h
def LK(a8:Sl)(e:HT)(b1:Qd)(b0:Á):=
 rn 0 b1 λc a2 a3=>(If (c<(a8.len:Int)) (Dr a2 λu=>∃a7,Ix a8 c a7/\∃v i j k,BR u (a7.add (c.toNat*4)) v i j k/\ug prog e [(B3 v i j k)] u λb2 a4=>∃x,b2= .string x/\Cs 74 [vT x] a4 λa9 d=>∃y,a9= .bool y/\sh (!y) λ(a0:Bool)=>sh (decide (0<c)) λ(f:Bool)=>∃z,Gx ((!a0)&&f) a8 (Aa (c - 1)) z/\∃l m n o,SY ((!a0)&&f) d (z.add ((Aa (c - 1)).toNat*4)) l m n o/\∃p,Gx ((!a0)&&f) a8 c p/\∃q r s t,SY ((!a0)&&f) d (p.add (c.toNat*4)) q r s t/\No ((!a0)&&f) (λ(g:PU) (a:Qd)=>No ((!a0)&&f) (λ(h:PU) (b:Qd)=>(Ib (a0||(f&&(!Ak g h))) (b0 false b) (a3 (Aa (c+1)) b))) (λa1=>ug prog e [(B3 q r s t)] a λa5 b=>∃h,a5= .string h/\a1 h b) (λa1=>a1 Ϣ a)) (λa1=>ug prog e [(B3 l m n o)] d λa6 a=>AI d a/\∃g,a6= .string g/\a1 g a) (λa1=>a1 Ϣ d)) (b0 true a2))
def LK.V{l u w k}(h:LK l u w λa0 a1=>k (vB a0) a1):Cs 206 [Sl.v l,u] w k:=rg Ω func206 h
def Oy(a:PU)(b c d:Int)(g:Qd)(h:Å):=
 An g (Bt a b c d) 150 λi e=>∃f,Lt e i f/\h f e
def Oy.V{u a0 a1 a2 w k}(h:Oy u a0 a1 a2 w λa3 a4=>k (vT a3) a4):Cs 207 [(B3 u a0 a1 a2)] w k:=rg Ψ func207 h
def LJ(a2:Sl)(e:HT)(a5:Qd)(a4:Á):=
 rn 0 a5 λc v x=>(If (c<(a2.len:Int)) (Dr v λp=>∃a1,Ix a2 c a1/\∃i j,Dj p (a1.add (c.toNat*2)) i j/\ug prog e [(.agg #[vT i,vI j])] p λa6 y=>∃q,a6= .string q/\Cs 74 [vT q] y λa3 d=>∃r,a3= .bool r/\sh (!r) λ(t:Bool)=>sh (decide (0<c)) λ(f:Bool)=>∃s,Gx ((!t)&&f) a2 (Aa (c - 1)) s/\∃k l,SX ((!t)&&f) d (s.add ((Aa (c - 1)).toNat*2)) k l/\∃m,Gx ((!t)&&f) a2 c m/\∃n o,SX ((!t)&&f) d (m.add (c.toNat*2)) n o/\No ((!t)&&f) (λ(g:PU) (a:Qd)=>No ((!t)&&f) (λ(h:PU) (b:Qd)=>(Ib (t||(f&&(!Ak g h))) (a4 false b) (x (Aa (c+1)) b))) (λu=>ug prog e [(.agg #[vT n,vI o])] a λz b=>∃h,z= .string h/\u h b) (λu=>u Ϣ a)) (λu=>ug prog e [(.agg #[vT k,vI l])] d λa0 a=>AI d a/\∃g,a0= .string g/\u g a) (λu=>u Ϣ d)) (a4 true v))
def LJ.V{l u w k}(h:LJ l u w λa0 a1=>k (vB a0) a1):Cs 208 [Sl.v l,u] w k:=rg Ω func208 h
def Oz(a:PU)(b:Int)(e:Qd)(f:Å):=
 An e [vT a,vI b] 153 λg c=>∃d,Lt c g d/\f d c
def Oz.V{u a0 w k}(h:Oz u a0 w λa1 a2=>k (vT a1) a2):Cs 209 [(.agg #[vT u,vI a0])] w k:=rg Ψ func209 h
def Mu(g:Sl)(k:HT)(l:Qd)(j:À):=
 rn 0 l λa f h=>(If (a<(g.len:Int)) (∃i,Ix g a i/\∃b c,Dj f (i.add (a.toNat*2)) b c/\ug prog k [(.agg #[vT b,vI c])] f λm d=>∃e,m= .bool e/\(Ib e (j a d) (h (Aa (a+1)) d))) (j (-1) f))
def Mu.V{u f w k}(h:Mu u f w λa0 a1=>k (vI a0) a1):Cs 210 [Sl.v u,f] w k:=rg Ω func210 h
def O0(b:PU)(c:Int)(f:LP)(g:Qd)(h:Á):=
 An g [vT b,vI c] 153 λi a=>∃d,Lt a i d/\∃e,Lt a f e/\h (Ag d e) a
def O0.V{u:PU}{a0:Int}{c0:LP}{w:Qd}{k:Ã}(h:O0 u a0 c0 w λa1 a2=>k (.bool a1) a2):si prog 211 [(.agg #[.string u,vi a0]),(.pointer (some c0))] w k:=C4 (sk:=(.s (.r []) (.s (.r []) .o))) (args:= [sv (.agg #[.string u,vi a0]),sa c0]) func211 (Eq.mpr kR h)
def MR(a:Sl)(b:PU)(j:Qd)(k:Sl->Wp):=
 wx prog (Instr.makeSlice 57 (vI 0) (vI (Aa ((a.len:Int)+1)))) j λl i=>∃h,l=Sl.v h/\ue prog 57 57 h (Sl.v a) i λc d=>An d [vT b] 9 λm e=>ue prog 57 57 c (Sl.v (Sl.mk (some m) 1 1)) e λf g=>k f g
def MR.V{a0 u w k}(h:MR a0 u w λa1 a2=>k (Sl.v a1) a2):Cs 212 [Sl.v a0,vT u] w k:=rg ω func212 h
def L6(a7:Wd)(e r:Int)(b1:Qd)(b0:Á):=
 Dr b1 λf=>∃a4,a7=some a4/\∃s,Ls f a4 s/\∃a5,a7=some a5/\∃t,Ls f (a5.add 7) t/\∃a6,Ix t e a6/\∃i,Li f ((a6.add (e.toNat*9)).add 8) i/\∃u,Ix s i u/\∃j,Ls f ((u.add (i.toNat*6)).add 4) j/\rn 0 f λd g a2=>(If (d<(j.len:Int)) (∃k,Ix j d k/\∃l m n o,BR g (k.add (d.toNat*4)) l m n o/\GD g λa8 z=>rp z a8 (Bt l m n o) λh=>∃v,Lt h a8 v/\Cs 291 [.pointer a7,vI r,vT v] h λb2 a0=>∃p,b2= .int .i64 p/\Dr a0 λb=>sh (decide (p<0)) λ(a1:Bool)=>∃x,Gn (!a1) a7 x/\∃q,Gs (!a1) b (x.add 7) q/\∃y,Gt (!a1) b a8 y/\No (!a1) (λ(c:Int) (a:Qd)=>(Ib (a1||(!(c==p))) (b0 false a) (a2 (Aa (d+1)) a))) (λa9=>Cs 131 [(.agg #[Sl.v q]),vI e,vT y] b λa3 a=>∃c,a3= .int .i64 c/\a9 c a) (λa9=>a9 0 b)) (b0 true g))
def L6.V{p a0 u w k}(h:L6 p a0 u w λa1 a2=>k (vB a1) a2):Cs 213 (Nc p a0 u) w k:=rg (.q (.s (.q (.b (.l [(28,4)] κ))) .y)) func213 h
def LG(b6:Wd)(l f:Int)(e3:Qd)(f6:À):=
 ∃f2,b6=some f2/\∃b8,Ls e3 f2 b8/\∃f3,Ix b8 f f3/\∃v,Lt e3 (f3.add (f.toNat*6)) v/\∃f4,b6=some f4/\∃b9,Ls e3 (f4.add 7) b9/\∃c0,Ix b9 l c0/\∃d,Ls e3 (c0.add (l.toNat*9)) d/\join (λ(d7 m:Int) (e4:Qd)=>(If (0<=m) (f6 m e4) (f6 d7 e4))) λe5=>Ï (-1) (-1) (d.len:Int) e3 λi a k r e6=>(If (0<=k) (join (λ(q o:Int) (d8:Qd)=>e6 q o (Aa (k - 1)) d8) λj=>Dr r λs=>∃c1,b6=some c1/\∃x,Ls s (c1.add 7) x/\((0:Int)<=k/\k<=(d.cap:Int))/\Cs 205 [(.agg #[Sl.v x]),(Sl.v (Sl.cut d 0 k.toNat 1))] s λf7 d9=>∃e,f7= .int .i64 e/\((0:Int)<=k/\k<=(d.cap:Int))/\Cs 89 [(Sl.v (Sl.cut d 0 k.toNat 1))] d9 λe7 e0=>∃c2,e7=Sl.v c2/\An e0 [vT v] 9 λf8 e1=>ue prog 57 57 c2 (Sl.v (Sl.mk (some f8) 1 1)) e1 λb7 t=>∃c3,b6=some c3/\∃y,Ls t (c3.add 7) y/\Cs 205 [(.agg #[Sl.v y]),Sl.v b7] t λe8 u=>∃c4,e8= .int .i64 c4/\(If (0<=c4) (e5 i a u) (Cs 292 [.pointer b6,vI e,vT v] u λe9 c=>∃c5,e9= .bool c5/\(Ib c5 (j i a c) (∃c6,b6=some c6/\∃c7,Lp c (c6.add 6) c7/\(If (c7=none) (j e a c) (∃c8,b6=some c8/\∃c9,Lp c (c8.add 6) c9/\∃d0,c9=some d0/\∃z,Ls c d0 z/\Cs 205 [(.agg #[Sl.v z]),Sl.v b7] c λf0 e2=>∃n,f0= .int .i64 n/\Dr e2 λb=>sh (decide (0<=n)) λ(p:Bool)=>∃d1,Gn p b6 d1/\∃d2,Gp p b (d1.add 6) d2/\∃d3,Gn p d2 d3/\∃d4,Gs p b d3 d4/\∃a0,Gx p d4 n a0/\∃a1 a2 a3 a4 a5 a6 a7,EB p b ((a0.add (n.toNat*9)).add 1) a1 a2 a3 a4 a5 a6 a7/\∃d5,Gn p b6 d5/\∃d6,Gs p b (d5.add 1) d6/\∃a8,Gx p d6 f a8/\∃a9 b0 b1 b2 b3 b4 b5,EB p b (a8.add (f.toNat*7)) a9 b0 b1 b2 b3 b4 b5/\No p (λ(g:Bool) (h:Qd)=>(Ib (p&&g) (j e e h) (j e a h))) (λf5=>Cs 127 [(A1 a1 a2 a3 a4 a5 a6 a7),(A1 a9 b0 b1 b2 b3 b4 b5)] b λf1 h=>∃g,f1= .bool g/\f5 g h) (λf5=>f5 false b)))))))) (e5 i a r))
def LG.V{p u a0 w k}(h:LG p u a0 w λa1 a2=>k (vI a1) a2):Cs 214 (Nc p u a0) w k:=rg (.q (.z (.q (.q (.q (.s .o (.j [(8,4),(9,4)] (.q (.b (.l [(8,4),(9,4),(11,4)] (.s ε (.j [(8,4),(9,4)] (.b (.q (.q (.s ε (.s ε (.q (.s ε (.q η)))))))) Υ))))) ζ))))))) func214 h
def LF(a8:Wd)(f c:Int)(e9:Qd)(f0:Int->À):=
 ∃e6,a8=some e6/\∃b1,Ls e9 (e6.add 1) b1/\∃e7,Ix b1 c e7/\∃i j k l m n o,A6 e9 (e7.add (c.toNat*7)) i j k l m n o/\ģ e9 λf1 f2=>rp f2 f1 (A2 i j k l m n o) λd6=>join (λ(g:Sl) (d5:Qd)=>Dr d5 λa9=>∃e8,a8=some e8/\∃b2,Li a9 ((e8.add 2).add 3) b2/\Cx 42 [Sl.v g] a9 λf3 b0=>∃b3,f3= .string b3/\(If (b2<(b3.size:Int)) (f0 0 40 b0) (Dr b0 λb=>∃b4,a8=some b4/\∃b5,Ls b (b4.add 7) b5/\∃b6,a8=some b6/\∃b7,Li b ((b6.add 2).add 2) b7/\(If (b7<=(Aa ((b5.len:Int) - 1))) (f0 0 41 b) (Dr b λd=>∃b8,a8=some b8/\∃b9,Ls d (b8.add 7) b9/\∃p q r s t u v,A6 d f1 p q r s t u v/\Cx 90 [(A1 p q r s t u v)] d λd7 c6=>∃x y z a0 a1 a2 a3,d7=Nk x y z a0 a1 a2 a3/\An c6 (EA g x y z a0 a1 a2 a3 c) 61 λd8 c7=>ue prog 38 38 b9 (Sl.v (Sl.mk (some d8) 1 1)) c7 λd9 c8=>∃c0,a8=some c0/\rp c8 (c0.add 7) [Sl.v d9] λh=>∃c1,a8=some c1/\∃c2,Ls h (c1.add 7) c2/\f0 (Aa ((c2.len:Int) - 1)) 0 h))))) λe0=>Dr d6 λa=>∃c3,a8=some c3/\∃c4,Ls a (c3.add 7) c4/\∃a4,Ix c4 f a4/\∃a5,Ls a (a4.add (f.toNat*9)) a5/\∃a6,Lt a f1 a6/\((Cx 89 [Sl.v a5] a λe1 c9=>∃c5,e1=Sl.v c5/\An c9 [vT a6] 9 λe2 d0=>ue prog 57 57 c5 (Sl.v (Sl.mk (some e2) 1 1)) d0 λe3 d1=>e0 e3 d1)/\(An a [vT a6] 9 λe4 d2=>Cx 89 [Sl.v a5] d2 λe5 d3=>∃e,e5=Sl.v e/\ue prog 57 57 e (Sl.v (Sl.mk (some e4) 1 1)) d3 λa7 d4=>e0 a7 d4))
def LF.V{p u a0 w k}(h:LF p u a0 w λa1 a2 a3=>k (.tuple #[vI a1,vI a2]) a3):Cs 215 (Nc p u a0) w k:=rg (.q (.q (.j [(9,58)] Υ (.s χ Ψ)))) func215 h
def FP(g h i:Int)(o:Qd)(n:Int->Á):=
 An o (AE g h i) 52 λm j=>∃b c d,Av j m b c d/\Cs 75 [(Ao b c d)] j λp a=>∃k,p= .bool k/\(Ib (!k) (n 0 false a) (∃l,Li a m l/\∃e,Li a (m.add 1) e/\∃f,Li a (m.add 2) f/\n (Aa ((Aa ((Aa ((Aa (l*1000))+e))*1000))+f)) true a))
def FP.V{u a0 a1 w k}(h:FP u a0 a1 w λa2 a3 a4=>k (.tuple #[vI a2,vB a3]) a4):Cs 237 [(Ao u a0 a1)] w k:=rg φ func237 h
def EN(d e f:Int)(k:Qd)(l:À):=
 An k (AE d e f) 52 λm g=>∃a b c,Av g m a b c/\Cs 304 [(Ao a b c)] g λn h=>∃i j,n=GK i j/\l i h
def EN.V{u a0 a1 w k}(h:EN u a0 a1 w λa2 a3=>k (vI a2) a3):Cs 238 [(Ao u a0 a1)] w k:=rg ω func238 h
def F8(i:Int)(s:Qd)(t:Å):=
 (If (i<10) (An s [(.int .u8 (IntKind.wrap .u8 (Aa (48+i))))] 5 λu l=>∃j,(C6 prog (Go.convert 167 9 (Sl.v (Sl.mk (some u) 1 1))) l (vT j))/\t j l) (join (λ(p:PU) (k:Qd)=>t p k) λm=>Dr s λe=>((Cx 239 [(vI (Aa (i.tdiv 10)))] e λv n=>∃d,v= .string d/\An n [(.int .u8 (IntKind.wrap .u8 (Aa (48+(Int.tmod i 10)))))] 5 λq f=>∃c,(C6 prog (Go.convert 167 9 (Sl.v (Sl.mk (some q) 1 1))) f (vT c))/\(((d.size+c.size:Nat):Int)<=Am)/\m (d++c) f)/\(An e [(.int .u8 (IntKind.wrap .u8 (Aa (48+(Int.tmod i 10)))))] 5 λr g=>∃b,(C6 prog (Go.convert 167 9 (Sl.v (Sl.mk (some r) 1 1))) g (vT b))/\Cx 239 [(vI (Aa (i.tdiv 10)))] g λo h=>∃a,o= .string a/\(((a.size+b.size:Nat):Int)<=Am)/\m (a++b) h))))
def F8.V{n w k}(h:F8 n w λu a0=>k (vT u) a0):Cs 239 [vI n] w k:=rg (.q (.s Ξ (.j [(2,10)] Υ .o))) func239 h
def KA(b6:Sl)(d3:Qd)(d1:Å):=
 Cs 151 [Sl.v b6] d3 λd5 c1=>∃b9,d5= .bool b9/\(Ib (!b9) (d1 Ϣ c1) ((If ((b6.len:Int)=0) (d1 (bm #[60,48,46,48,46,48]) c1) (uc Ϣ 0 c1 λf e g c5=>(If (e<(b6.len:Int)) (join (λ(c0:PU) (c4:Qd)=>c5 c0 (Aa (e+1)) c4) λh=>join (λ(a:PU) (b7:Qd)=>∃d0,Ix b6 e d0/\∃l m n,Av b7 (d0.add (e.toNat*6)) l m n/\Cs 153 [(Ao l m n)] b7 λd2 b8=>∃c,d2= .string c/\(((Ϧ.size+c.size:Nat):Int)<=Am)/\∃o,Ix b6 e o/\∃p q r,Av b8 ((o.add (e.toNat*6)).add 3) p q r/\Cs 153 [(Ao p q r)] b8 λc6 i=>∃d,c6= .string d/\(((Ϩ.size+d.size:Nat):Int)<=Am)/\∃s,Ix b6 e s/\∃t u v,Av i (s.add (e.toNat*6)) t u v/\Cs 238 [(Ao t u v)] i λc7 j=>∃x,c7= .int .i64 x/\∃y,Ix b6 e y/\∃z a0 a1,Av j ((y.add (e.toNat*6)).add 3) z a0 a1/\Cs 238 [(Ao z a0 a1)] j λc8 c2=>∃a2,c8= .int .i64 a2/\Dr c2 λb=>∃a3,Ix b6 e a3/\∃a4 a5 a6,Av b (a3.add (e.toNat*6)) a4 a5 a6/\∃a7,Ix b6 e a7/\∃a8 a9 b0,Av b ((a7.add (e.toNat*6)).add 3) a8 a9 b0/\(Ib ((a4==a8)&&((a5==a9)&&((a6==b0)&&true))) (∃b1,Ix b6 e b1/\∃b2 b3 b4,Av b (b1.add (e.toNat*6)) b2 b3 b4/\Cs 153 [(Ao b2 b3 b4)] b λc9 c3=>∃b5,c9= .string b5/\(((a.size+b5.size:Nat):Int)<=Am)/\h (a++b5) c3) (sh (x==0) λ(d4:Bool)=>(Ib (d4&&(a2==999999999)) ((((a.size+ϫ.size:Nat):Int)<=Am)/\h (a++ϫ) b) ((If (x=0) ((((a.size+(Ϩ++d).size:Nat):Int)<=Am)/\h (a++(Ϩ++d)) b) ((If (a2=999999999) ((((a.size+(Ϧ++c).size:Nat):Int)<=Am)/\h (a++(Ϧ++c)) b) ((((a.size+(Ϧ++c).size:Nat):Int)<=Am)/\((((a++(Ϧ++c)).size+ϣ.size:Nat):Int)<=Am)/\(((((a++(Ϧ++c))++ϣ).size+(Ϩ++d).size:Nat):Int)<=Am)/\h (((a++(Ϧ++c))++ϣ)++(Ϩ++d)) b))))))))) λk=>(If (0<e) ((((f.size+Ϫ.size:Nat):Int)<=Am)/\k (f++Ϫ) g) (k f g))) (d1 f g))))))
def KA.V{l w k}(h:KA l w λu a0=>k (vT u) a0):Cs 240 [Sl.v l] w k:=rg (.q (.s Ξ (.s Ξ (.q (.s (.q (.b (.l [(3,10),(4,4)] (.s ε (.j [(3,10)] (.b (.j [(3,10)] η (.q ό))) Υ))))) .y))))) func240 h
def MA(a6:Sl)(a7:Qd)(a8:Sl->Wp):=
 uc Sl.nil 0 a7 λn a s y=>(If (a<(a6.len:Int)) (∃a2,Ix a6 a a2/\∃b c d e f g,GB s (a2.add (a.toNat*6)) b c d e f g/\Td s λa3 z=>rp z a3 (Nb b c d e f g) λo=>∃h i j,Av o a3 h i j/\Cs 237 [(Ao h i j)] o λa9 p=>∃q v,a9=GK q v/\∃k l m,Av p (a3.add 3) k l m/\Cs 237 [(Ao k l m)] p λa4 a0=>∃r x,a4=GK r x/\An a0 [vI q,vI r] 305 λa5 t=>ue prog 302 302 n (Sl.v (Sl.mk (some a5) 1 1)) t λa1 u=>y a1 (Aa (a+1)) u) (a8 n s))
def MA.V{l w k}(h:MA l w λu a0=>k (Sl.v u) a0):Cs 241 [Sl.v l] w k:=rg (.q (.q (.s (.q (.b (.l [(3,303),(12,4)] Ϟ))) .y))) func241 h
def G6(i:Int)(m:Qd)(l:Int->Int->Int->Á):=
 N52 m λk j=>sh (decide (i<0)) λ(n:Bool)=>(Ib (n||(decide (1000000000<=i))) (rp j k (AE 0 0 0) λg=>∃a b c,Av g k a b c/\l a b c false g) (rp j k [(vI (Aa ((Aa (i.tdiv 1000)).tdiv 1000))),(vI (Int.tmod (Aa (i.tdiv 1000)) 1000)),(vI (Int.tmod i 1000))] λh=>∃d e f,Av h k d e f/\l d e f true h))
def G6.V{n w k}(h:G6 n w λu a0 a1 a2 a3=>k (.tuple #[(Ao u a0 a1),vB a2]) a3):Cs 242 [vI n] w k:=rg φ func242 h
def IJ(s:Int)(a:HT)(u:Qd)(t:Á):=
 rn 0 u λf l m=>(If (f<s) (ug prog a [vI f] l λv n=>∃h,v= .string h/\Cs 74 [vT h] n λq g=>∃i,q= .bool i/\sh (!i) λ(p:Bool)=>sh (decide (0<f)) λ(j:Bool)=>No ((!p)&&j) (λ(b:PU) (c:Qd)=>No ((!p)&&j) (λ(d:PU) (e:Qd)=>(Ib (p||(j&&(!Ak b d))) (t false e) (m (Aa (f+1)) e))) (λk=>ug prog a [vI f] c λo e=>∃d,o= .string d/\k d e) (λk=>k Ϣ c)) (λk=>ug prog a [(vI (Aa (f - 1)))] g λr c=>∃b,r= .string b/\k b c) (λk=>k Ϣ g)) (t (decide (s<=128)) l))
def IJ.V{n u w k}(h:IJ n u w λa0 a1=>k (vB a0) a1):Cs 244 [vI n,u] w k:=rg ϟ func244 h
def QO(f:Int)(d:LP)(e:Qd)(g:Å):=
 ∃a,Ls e (d.add 4) a/\∃b,Ix a f b/\∃c,Lt e (b.add (f.toNat*4)) c/\g c e
def QO.V{i:Int}{c0:LP}{w:Qd}{k:Ã}(h:QO i c0 w λu a0=>k (.string u) a0):si prog 245 [vi i,(.pointer (some c0))] w k:=C4 (sk:=(.s (.r []) (.s (.r []) .o))) (args:= [sv (vi i),sa c0]) func245 (Eq.mpr kR h)
def QP(f:Int)(d:LP)(e:Qd)(g:Å):=
 ∃a,Ls e (d.add 5) a/\∃b,Ix a f b/\∃c,Lt e (b.add (f.toNat*2)) c/\g c e
def QP.V{i:Int}{c0:LP}{w:Qd}{k:Ã}(h:QP i c0 w λu a0=>k (.string u) a0):si prog 246 [vi i,(.pointer (some c0))] w k:=C4 (sk:=(.s (.r []) (.s (.r []) .o))) (args:= [sv (vi i),sa c0]) func246 (Eq.mpr kR h)
def MC(b:PU)(e0:Qd)(a5:Int->Int->Á):=
 Ng e0 λe d3=>(If (b=ϫ) (rp d3 e [vI 0,vI 999999999] λc6=>∃b7 b8,C7 c6 e b7 b8/\a5 b7 b8 true c6) (Cs 146 [vT b, vT (bm #[60,62,61,94,126])] d3 λe1 d4=>∃d,e1= .string d/\Cs 315 [vT d] d4 λd9 d5=>∃b9 c0 c1 c2,d9=FU b9 c0 c1 c2/\N52 d5 λa4 d6=>rp d6 a4 (AE b9 c0 c1) λc7=>∃c3 c4 c5,Av c7 a4 c3 c4 c5/\Cs 237 [(Ao c3 c4 c5)] c7 λd7 f=>∃c d1,d7=GK c d1/\∃a3,Li f (a4.add 2) a3/\∃c8,Li f (a4.add 1) c8/\(Ib (!c2) (rp f e [vI 0,vI 0] λa6=>∃g h,C7 a6 e g h/\a5 g h false a6) (((0:Int)<=(Aa ((b.size:Int) - (d.size:Int)))/\(Aa ((b.size:Int) - (d.size:Int)))<=(b.size:Int))/\join (λ(d2:Bool) (a:Qd)=>(Ib d2 (rp a e [vI c,vI c] λa7=>∃i j,C7 a7 e i j/\a5 i j true a7) ((If ((b.extract 0 (Aa ((b.size:Int) - (d.size:Int))).toNat)=(bm #[60])) (rp a e [vI 0,(vI (Aa (c - 1)))] λa8=>∃k l,C7 a8 e k l/\a5 k l true a8) ((If ((b.extract 0 (Aa ((b.size:Int) - (d.size:Int))).toNat)=Ϩ) (rp a e [vI 0,vI c] λa9=>∃m n,C7 a9 e m n/\a5 m n true a9) ((If ((b.extract 0 (Aa ((b.size:Int) - (d.size:Int))).toNat)=(bm #[62])) (rp a e [(vI (Aa (c+1))),vI 999999999] λb0=>∃o p,C7 b0 e o p/\a5 o p true b0) ((If ((b.extract 0 (Aa ((b.size:Int) - (d.size:Int))).toNat)=Ϧ) (rp a e [vI c,vI 999999999] λb1=>∃q r,C7 b1 e q r/\a5 q r true b1) ((If ((b.extract 0 (Aa ((b.size:Int) - (d.size:Int))).toNat)=(bm #[126])) (rp a e [vI c,(vI (Aa ((Aa (c - a3))+999)))] λb2=>∃s t,C7 b2 e s t/\a5 s t true b2) ((If ((b.extract 0 (Aa ((b.size:Int) - (d.size:Int))).toNat)=(bm #[94])) (∃c9,Li a a4 c9/\(If (0<c9) (rp a e [vI c,(vI (Aa ((Aa ((Aa (c - a3))+999))+(Aa ((Aa (999 - c8))*1000)))))] λb3=>∃u v,C7 b3 e u v/\a5 u v true b3) (∃d0,Li a (a4.add 1) d0/\(If (0<d0) (rp a e [vI c,(vI (Aa ((Aa (c - a3))+999)))] λb4=>∃x y,C7 b4 e x y/\a5 x y true b4) (rp a e [vI c,vI c] λb5=>∃z a0,C7 b5 e z a0/\a5 z a0 true b5))))) (rp a e [vI 0,vI 0] λb6=>∃a1 a2,C7 b6 e a1 a2/\a5 a1 a2 false b6))))))))))))))) λd8=>(If ((b.extract 0 (Aa ((b.size:Int) - (d.size:Int))).toNat)=Ϣ) (d8 (Ag (b.extract 0 (Aa ((b.size:Int) - (d.size:Int))).toNat) Ϣ) f) (d8 (Ag (b.extract 0 (Aa ((b.size:Int) - (d.size:Int))).toNat) (bm #[61])) f))))))
def MC.V{u w k}(h:MC u w λa0 a1 a2 a3=>k (.tuple #[(.agg #[vI a0,vI a1]),vB a2]) a3):Cs 263 [vT u] w k:=rg (.q (.s Ξ (.q (.q (.q (.q (.q (.s Ξ (.s (.q (.b (.j [(47,5)] (.q (.c .o Υ)) (.c .y (.q (.c .y (.q (.c .y (.q (.c .y (.q (.c .y (.q (.c .y (.q (.c (.s χ .y) .o)))))))))))))))) .y))))))))) func263 h
def OO(c:Sl)(d:Qd)(e:Sl->À):=
 (If (64<(c.len:Int)) (e Sl.nil 26 d) (Cs 316 [Sl.v c] d λf b=>∃a,f=Sl.v a/\e a 0 b))
def OO.V{l w k}(h:OO l w λu a0 a1=>k (.tuple #[Sl.v u,vI a0]) a1):Cs 264 [Sl.v l] w k:=rg φ func264 h
def M8(b0:Sl)(b1:Qd)(b2:Sl->Wp):=
 si prog 318 [Sl.v b0] b1 λb3 a8=>∃v,b3=v/\Cs 317 [v,(.func (.func 319) #[] #[])] a8 λa9 y=>∃u,a9=Sl.v u/\uc Sl.nil 0 y λa h i z=>(If (h<(u.len:Int)) (join (λ(q:Sl) (x:Qd)=>z q (Aa (h+1)) x) λa0=>∃a5,Ix u h a5/\∃c d,C7 i (a5.add (h.toNat*2)) c d/\Ng i λa7 a1=>rp a1 a7 [vI c,vI d] λa2=>Dr a2 λb=>sh (decide (0<=(Aa ((a.len:Int) - 1)))) λ(a6:Bool)=>∃m,Gi a6 b a7 m/\∃j,Gx a6 a (Aa ((a.len:Int) - 1)) j/\∃n,Gi a6 b ((j.add ((Aa ((a.len:Int) - 1)).toNat*2)).add 1) n/\(Ib (a6&&(decide (m<=(Aa (n+1))))) (Dr b λg=>∃k,Ix a (Aa ((a.len:Int) - 1)) k/\∃o,Li g ((k.add ((Aa ((a.len:Int) - 1)).toNat*2)).add 1) o/\∃p,Li g (a7.add 1) p/\∃l,Ix a (Aa ((a.len:Int) - 1)) l/\rp g ((l.add ((Aa ((a.len:Int) - 1)).toNat*2)).add 1) [(vI (Q7 o p))] λr=>a0 a r) (∃e f,C7 b a7 e f/\An b [vI e,vI f] 305 λa3 s=>ue prog 302 302 a (Sl.v (Sl.mk (some a3) 1 1)) s λa4 t=>a0 a4 t))) (b2 a i))
def M8.V{l w k}(h:M8 l w λu a0=>k (Sl.v u) a0):Cs 265 [Sl.v l] w k:=rg (.q (.q (.q (.s (.q (.b (.l [(3,303),(12,4)] (.q (.s .x (.j [(3,303)] (.b (.q (.q ς))) Υ)))))) .y)))) func265 h
def K3(l:PU)(m n o:Int)(p:PU)(q r s:Int)(a6:Qd)(a7:À):=
 An a6 (Bt l m n o) 150 λa5 a3=>An a3 (Bt p q r s) 150 λt u=>Dr u λa=>∃a0,Lt a a5 a0/\∃a1,Lt a t a1/\∃b c d,Av a (a5.add 1) b c d/\∃e f g,Av a (t.add 1) e f g/\Cx 66 [vT a0,vT a1] a λa8 v=>∃a2,a8= .int .i64 a2/\Cs 189 [(Ao b c d),(Ao e f g)] v λa4 x=>∃h,a4= .int .i64 h/\An x [vI a2,vI h] 3 λy j=>Cs 103 [(Sl.v (Sl.mk (some y) 2 2))] j λz k=>∃i,z= .int .i64 i/\a7 i k
def K3.V{u a0 a1 a2 a3 a4 a5 a6 w k}(h:K3 u a0 a1 a2 a3 a4 a5 a6 w λa7 a8=>k (vI a7) a8):Cs 266 [(B3 u a0 a1 a2),(B3 a3 a4 a5 a6)] w k:=rg Ψ func266 h
def Jk(g:Sl)(k:HT)(l:Qd)(j:À):=
 rn 0 l λa f h=>(If (a<(g.len:Int)) (∃i,Ix g a i/\∃d b,Bl f (i.add (a.toNat*2)) d b/\ug prog k [(.agg #[vT d,Sl.v b])] f λm c=>∃e,m= .bool e/\(Ib e (j a c) (h (Aa (a+1)) c))) (j (-1) f))
def Jk.V{u f w k}(h:Jk u f w λa0 a1=>k (vI a0) a1):Cs 267 [Sl.v u,f] w k:=rg Ω func267 h
def Jy(c7 c8 c9 d0 h a6:Sl)(e3:Qd)(e4:Sl->Wp):=
 An e3 (Dg c7 c8 c9 d0) 34 λe2 e1=>uc Sl.nil 0 e1 λa7 e i d1=>(If (e<(h.len:Int)) (∃e0,Ix h e e0/\∃m,Ls i (e0.add (e.toNat*1)) m/\uc a7 0 i λj f k b4=>(If (f<(m.len:Int)) (∃a8,Ix m f a8/\∃n o,Bl k (a8.add (f.toNat*2)) n o/\Cz k λb5 d2=>rp d2 b5 [vT n,Sl.v o] λb6=>Dr b6 λa=>∃a9,Lt a b5 a9/\∃p q r s,BQ a e2 p q r s/\∃t u,Bl a b5 t u/\Cx 284 [(AQ p q r s),(.agg #[vT t,Sl.v u])] a λe5 b7=>∃b0,e5=Sl.v b0/\An b7 (Fq a9 1 b0) 134 λd3 b8=>ue prog 125 125 j (Sl.v (Sl.mk (some d3) 1 1)) b8 λd4 b9=>b4 d4 (Aa (f+1)) b9) (d1 j (Aa (e+1)) k))) (uc a7 0 i λb g d a5=>(If (g<(a6.len:Int)) (∃v,Ix a6 g v/\∃x y,Bl d (v.add (g.toNat*2)) x y/\Cz d λl c0=>rp c0 l [vT x,Sl.v y] λc1=>Dr c1 λc=>∃b1,Lt c l b1/\∃z a0 a1 a2,BQ c e2 z a0 a1 a2/\∃a3 a4,Bl c l a3 a4/\Cx 284 [(AQ z a0 a1 a2),(.agg #[vT a3,Sl.v a4])] c λd5 c2=>∃b2,d5=Sl.v b2/\An c2 (Fq b1 2 b2) 134 λd6 c3=>ue prog 125 125 b (Sl.v (Sl.mk (some d6) 1 1)) c3 λd7 c4=>a5 d7 (Aa (g+1)) c4) (Cs 328 [Sl.v b,(.func (.func 329) #[] #[])] d λd8 c5=>d8= .tuple #[]/\Cs 330 [Sl.v b] c5 λd9 c6=>∃b3,d9=Sl.v b3/\e4 b3 c6))))
def Jy.V{a0 a1 a2 a3 u a4 w k}(h:Jy a0 a1 a2 a3 u a4 w λa5 a6=>k (Sl.v a5) a6):Cs 269 [(AQ a0 a1 a2 a3),Sl.v u,Sl.v a4] w k:=rg (.q (.q (.s (.q (.b (.l [(7,126),(16,4)] (.q (.s .x (.s (.b (.q (.q (.b (.l [(7,126),(22,4)] δ))))) Υ)))))) (.s (.q (.b (.l [(7,126),(39,4)] δ))) Ψ)))) func269 h
def Mx(k:Sl)(o:HT)(p:Qd)(n:À):=
 rn 0 p λa j l=>(If (a<(k.len:Int)) (∃m,Ix k a m/\∃b c d e f g,GB j (m.add (a.toNat*6)) b c d e f g/\ug prog o [(Yo b c d e f g)] j λq h=>∃i,q= .bool i/\(Ib i (n a h) (l (Aa (a+1)) h))) (n (-1) j))
def Mx.V{u f w k}(h:Mx u f w λa0 a1=>k (vI a0) a1):Cs 270 [Sl.v u,f] w k:=rg Ω func270 h
def My(h:Sl)(l:HT)(m:Qd)(k:À):=
 rn 0 m λa g i=>(If (a<(h.len:Int)) (∃j,Ix h a j/\∃b c d,Av g (j.add (a.toNat*3)) b c d/\ug prog l [(Ao b c d)] g λn e=>∃f,n= .bool f/\(Ib f (k a e) (i (Aa (a+1)) e))) (k (-1) g))
def My.V{u f w k}(h:My u f w λa0 a1=>k (vI a0) a1):Cs 271 [Sl.v u,f] w k:=rg Ω func271 h
def JS(h i j k l m:Int)(r:Qd)(s:À):=
 An r (AE h i j) 52 λt p=>An p (AE k l m) 52 λq a=>∃b c d,Av a q b c d/\∃e f g,Av a t e f g/\Cs 189 [(Ao b c d),(Ao e f g)] a λu n=>∃o,u= .int .i64 o/\s o n
def JS.V{u a0 a1 a2 a3 a4 w k}(h:JS u a0 a1 a2 a3 a4 w λa5 a6=>k (vI a5) a6):Cs 273 [(Ao u a0 a1),(Ao a2 a3 a4)] w k:=rg Ψ func273 h
def RW(a:Sl)(c:Int)(b:HT)(d:Qd)(e:Wp):=
 Jg 332 333 a c b d e
def RW.V{u n a0 w k}(h:RW u n a0 w λa1=>k (.tuple #[]) a1):Cs 274 [Sl.v u,vI n,a0] w k:=rg ν func274 h
def M3(p:Sl)(l:PU)(m n o:Int)(u:Qd)(t:À):=
 An u (Bt l m n o) 150 λv s=>rn 0 s λb j q=>(If (b<(p.len:Int)) (Dr j λa=>∃c d e f,BR a v c d e f/\∃r,Ix p b r/\∃k g h i,BR a (r.add (b.toNat*4)) k g h i/\(Ib ((Ag c k)&&(((d==g)&&((e==h)&&((f==i)&&true)))&&true)) (t b a) (q (Aa (b+1)) a))) (t (-1) j))
def M3.V{a3 u a0 a1 a2 w k}(h:M3 a3 u a0 a1 a2 w λa4 a5=>k (vI a4) a5):Cs 275 [Sl.v a3,(B3 u a0 a1 a2)] w k:=rg Ω func275 h
def HL(q r s t:Sl)(u:PU)(v:Sl)(a4:Qd)(a3:Sl->Wp):=
 An a4 (Dg q r s t) 34 λa5 a2=>An a2 [vT u,Sl.v v] 187 λx f=>∃p,Ls f (a5.add 3) p/\rn 0 f λb c y=>(If (b<(p.len:Int)) (∃a1,Ix p b a1/\∃d e,Bl c (a1.add (b.toNat*2)) d e/\Cz c λm z=>rp z m [vT d,Sl.v e] λa=>∃g,Lt a m g/\∃h,Lt a x h/\(If (g=h) (∃i,Ls a (m.add 1) i/\Cs 136 [Sl.v i] a λa6 n=>∃j,a6=Sl.v j/\a3 j n) (y (Aa (b+1)) a))) (∃k,Ls c (x.add 1) k/\Cs 136 [Sl.v k] c λa0 o=>∃l,a0=Sl.v l/\a3 l o))
def HL.V{u a0 a1 a2 a3 a4 w k}(h:HL u a0 a1 a2 a3 a4 w λa5 a6=>k (Sl.v a5) a6):Cs 284 [(AQ u a0 a1 a2),(.agg #[vT a3,Sl.v a4])] w k:=rg ϛ func284 h
def RQ(a:Sl)(b:Qd)(c:Sl->Wp):=
 ((0:Int)<=0/\0<=(a.len:Int)/\(a.len:Int)<=(a.len:Int)/\(a.len:Int)<=(a.cap:Int))/\c (Sl.mk (if(a.len:Int).toNat=0 then a.a else a.a.map (·.add (0*2))) ((a.len:Int).toNat - 0) ((a.len:Int).toNat - 0)) b
def RQ.V{u w k}(h:RQ u w λa0 a1=>k (Sl.v a0) a1):Cs 285 [Sl.v u] w k:=rg Ψ func285 h
def OL(o q:Sl)(x:HT)(z:Qd)(y:Á):=
 (If (¬(o.len:Int)=(q.len:Int)) (y false z) (rn 0 z λa p r=>(If (a<(o.len:Int)) (∃v,Ix o a v/\∃d e,Bl p (v.add (a.toNat*2)) d e/\Cz p λa0 s=>rp s a0 [vT d,Sl.v e] λl=>∃m,Ix q a m/\∃f g,Bl l (m.add (a.toNat*2)) f g/\Cz l λt u=>rp u t [vT f,Sl.v g] λb=>∃h i,Bl b a0 h i/\∃j k,Bl b t j k/\ug prog x [(.agg #[vT h,Sl.v i]),(.agg #[vT j,Sl.v k])] b λa1 c=>∃n,a1= .bool n/\(Ib (!n) (y false c) (r (Aa (a+1)) c))) (y true p))))
def OL.V{s1 u a0 w k}(h:OL s1 u a0 w λa1 a2=>k (vB a1) a2):Cs 286 [Sl.v s1,Sl.v u,a0] w k:=rg (.q (.s Ξ (.s ϗ .y))) func286 h
def L4(i:PU)(f:Sl)(g:PU)(h:Sl)(q:Qd)(r:Á):=
 An q [vT i,Sl.v f] 187 λp n=>An n [vT g,Sl.v h] 187 λj a=>∃k,Lt a p k/\∃l,Lt a j l/\sh (Ag k l) λ(m:Bool)=>∃d,Gs m a (p.add 1) d/\∃e,Gs m a (j.add 1) e/\No m (λ(b:Bool) (c:Qd)=>r (m&&b) c) (λo=>Cs 288 [Sl.v d,Sl.v e] a λs c=>∃b,s= .bool b/\o b c) (λo=>o false a)
def L4.V{a2 u a0 a1 w k}(h:L4 a2 u a0 a1 w λa3 a4=>k (vB a3) a4):Cs 287 [(.agg #[vT a2,Sl.v u]),(.agg #[vT a0,Sl.v a1])] w k:=rg Ψ func287 h
def Ms(p q:Sl)(v:Qd)(u:Á):=
 (If (¬(p.len:Int)=(q.len:Int)) (u false v) (rn 0 v λa r s=>(If (a<(p.len:Int)) (Dr r λb=>∃t,Ix p a t/\∃c d e f g h,GB b (t.add (a.toNat*6)) c d e f g h/\∃o,Ix q a o/\∃i j k l m n,GB b (o.add (a.toNat*6)) i j k l m n/\(Ib (!(((c==i)&&((d==j)&&((e==k)&&true)))&&(((f==l)&&((g==m)&&((h==n)&&true)))&&true))) (u false b) (s (Aa (a+1)) b))) (u true r))))
def Ms.V{s1 u w k}(h:Ms s1 u w λa0 a1=>k (vB a0) a1):Cs 288 [Sl.v s1,Sl.v u] w k:=rg ο func288 h
def Mt(n:Sl)(r:HT)(s:Qd)(q:À):=
 rn 0 s λa m o=>(If (a<(n.len:Int)) (∃p,Ix n a p/\∃b c d e f g h i j,HQ m (p.add (a.toNat*9)) b c d e f g h i j/\ug prog r [(Pf b c d e f g h i j)] m λt k=>∃l,t= .bool l/\(Ib l (q a k) (o (Aa (a+1)) k))) (q (-1) m))
def Mt.V{u f w k}(h:Mt u f w λa0 a1=>k (vI a0) a1):Cs 289 [Sl.v u,f] w k:=rg Ω func289 h
def OT(a:Sl)(b:PU)(c d e:Int)(f g h:Sl)(i:Int)(o:LP)(p:Qd)(q:Á):=
 An p (EA a b c d e f g h i) 61 λr j=>∃l,Ls j r l/\∃m,Ls j o m/\Cs 99 [Sl.v l,Sl.v m] j λs k=>∃n,s= .bool n/\q n k
def OT.V{u:Sl}{a0:PU}{a1 a2 a3:Int}{a4 a5 a6:Sl}{a7:Int}{c0:LP}{w:Qd}{k:Ã}(h:OT u a0 a1 a2 a3 a4 a5 a6 a7 c0 w λa8 a9=>k (.bool a8) a9):si prog 290 [(.agg #[Sl.v u, .string a0,vi a1,vi a2,vi a3,Sl.v a4,Sl.v a5,Sl.v a6,vi a7]),(.pointer (some c0))] w k:=C4 (sk:=(.s (.r []) (.s (.r []) .o))) (args:= [sv (.agg #[Sl.v u, .string a0,vi a1,vi a2,vi a3,Sl.v a4,Sl.v a5,Sl.v a6,vi a7]),sa c0]) func290 (Eq.mpr kR h)
def L9(u:Wd)(g:Int)(h:PU)(r:Qd)(s:À):=
 ∃o,u=some o/\∃f,Ls r (o.add 8) f/\rn 0 r λe l m=>(If (e<(f.len:Int)) (∃p,Ix f e p/\∃b a d,SZ l (p.add (e.toNat*3)) b a d/\Te l λq n=>rp n q (Pg b a d) λc=>∃i,Li c q i/\sh (i==g) λ(t:Bool)=>∃j,Gt t c (q.add 1) j/\(Ib (t&&(Ag j h)) (∃k,Li c (q.add 2) k/\s k c) (m (Aa (e+1)) c))) (s (-1) l))
def L9.V{p u a0 w k}(h:L9 p u a0 w λa1 a2=>k (vI a1) a2):Cs 291 (SN p u a0) w k:=rg (.q (.s (.q (.b (.l [(14,4)] Φ))) .y)) func291 h
def LH(a3:Wd)(g:Int)(m:PU)(a4:Qd)(a8:Á):=
 ∃a0,a3=some a0/\∃n,Ls a4 (a0.add 7) n/\∃a1,Ix n g a1/\∃o,Ls a4 (a1.add (g.toNat*9)) o/\∃a2,a3=some a2/\∃j,Ls a4 (a2.add 8) j/\rn 0 a4 λi v y=>(If (i<(j.len:Int)) (∃p,Ix j i p/\∃c b f,SZ v (p.add (i.toNat*3)) c b f/\Te v λa5 z=>rp z a5 (Pg c b f) λx=>Dr x λe=>∃q,Lt e (a5.add 1) q/\sh (Ag q m) λ(a6:Bool)=>∃r,Gi a6 e a5 r/\No a6 (λ(h:Bool) (a:Qd)=>sh (a6&&h) λ(d:Bool)=>∃s,Gn d a3 s/\∃t,Gs d a (s.add 7) t/\∃k,Gi d a (a5.add 2) k/\∃l,Gx d t k l/\∃u,Gs d a (l.add (k.toNat*9)) u/\(Ib (d&&(decide ((u.len:Int)<=(o.len:Int)))) (a8 true a) (y (Aa (i+1)) a))) (λa7=>Cs 337 [.pointer a3,vI r,vI g] e λa9 a=>∃h,a9= .bool h/\a7 h a) (λa7=>a7 false e)) (a8 false v))
def LH.V{p a0 u w k}(h:LH p a0 u w λa1 a2=>k (vB a1) a2):Cs 292 (SN p a0 u) w k:=rg (.q (.q (.s (.q (.b (.l [(25,4)] Φ))) .y))) func292 h
def K9(g h i:Int)(o:Qd)(n:Int->Á):=
 An o (AE g h i) 52 λm j=>∃b c d,Av j m b c d/\Cs 81 [(Ao b c d)] j λp a=>∃k,p= .bool k/\(Ib (!k) (n 0 false a) (∃l,Li a m l/\∃e,Li a (m.add 1) e/\∃f,Li a (m.add 2) f/\n (Aa ((Aa ((Aa ((Aa (l*1000))+e))*1000))+f)) true a))
def K9.V{u a0 a1 w k}(h:K9 u a0 a1 w λa2 a3 a4=>k (.tuple #[vI a2,vB a3]) a4):Cs 304 [(Ao u a0 a1)] w k:=rg φ func304 h
def MB(b4:Sl)(b5:Qd)(b6:Sl->Wp):=
 uc Sl.nil 0 b5 λq d x a3=>(If (d<(b4.len:Int)) (∃b2,Ix b4 d b2/\∃a b,C7 x (b2.add (d.toNat*2)) a b/\Ng x λb3 a4=>rp a4 b3 [vI a,vI b] λr=>∃u,Li r b3 u/\Cs 242 [vI u] r λb7 a5=>∃e f g a1,b7=FU e f g a1/\N52 a5 λa6 a7=>rp a7 a6 (AE e f g) λs=>∃v,Li s (b3.add 1) v/\Cs 242 [vI v] s λa8 a9=>∃h i j a2,a8=FU h i j a2/\N52 a9 λt y=>rp y t (AE h i j) λc=>∃k l m,Av c a6 k l m/\∃n o p,Av c t n o p/\An c (Nb k l m n o p) 223 λb0 z=>ue prog 132 132 q (Sl.v (Sl.mk (some b0) 1 1)) z λb1 a0=>a3 b1 (Aa (d+1)) a0) (b6 q x))
def MB.V{l w k}(h:MB l w λu a0=>k (Sl.v u) a0):Cs 316 [Sl.v l] w k:=rg (.q (.q (.s (.q (.b (.l [(3,133),(12,4)] Ϟ))) .y))) func316 h
def M5(b c:HT)(g:Qd)(h:Sl->Wp):=
 Cs 355 [b] g λi e=>∃a,i=Sl.v a/\Cs 356 [Sl.v a,c] e λf d=>f= .tuple #[]/\h a d
def M5.V{u a0 w k}(h:M5 u a0 w λa1 a2=>k (Sl.v a1) a2):Cs 317 [u,a0] w k:=rg (.q ω) func317 h
def ON(a:Sl)(c:Qd)(d:Ã):=
 An c [Sl.v a] 302 λe b=>d (Value.func (.func 357) #[] #[vP e]) b
def ON.V{u w k}(h:ON u w λa0 a1=>k a0 a1):Cs 318 [Sl.v u] w k:=rg Ψ func318 h
def M9(b c d e:Int)(j:Qd)(k:À):=
 An j [vI b,vI c] 305 λl h=>An h [vI d,vI e] 305 λi a=>∃f,Li a l f/\∃g,Li a i g/\k (Aa (f - g)) a
def M9.V{u a0 a1 a2 w k}(h:M9 u a0 a1 a2 w λa3 a4=>k (vI a3) a4):Cs 319 [(.agg #[vI u,vI a0]),(.agg #[vI a1,vI a2])] w k:=rg Ψ func319 h
def Jm(b:Sl)(a:HT)(c:Qd)(d:Wp):=
 Jf 361 b a c d
def Jm.V{x u w k}(h:Jm x u w λa0=>k (.tuple #[]) a0):Cs 328 [Sl.v x,u] w k:=rg Υ func328 h
def Pb(d:PU)(b:Int)(e:Sl)(f:PU)(c:Int)(g:Sl)(n:Qd)(o:À):=
 An n (Fq d b e) 134 λp l=>An l (Fq f c g) 134 λm a=>∃i,Lt a p i/\∃j,Lt a m j/\Cs 66 [vT i,vT j] a λq h=>∃k,q= .int .i64 k/\o k h
def Pb.V{a1 u a2 a3 a0 a4 w k}(h:Pb a1 u a2 a3 a0 a4 w λa5 a6=>k (vI a5) a6):Cs 329 [(J7 a1 u a2),(J7 a3 a0 a4)] w k:=rg Ψ func329 h
def OJ(a:Sl)(b:Qd)(c:Sl->Wp):=
 ((0:Int)<=0/\0<=(a.len:Int)/\(a.len:Int)<=(a.len:Int)/\(a.len:Int)<=(a.cap:Int))/\c (Sl.mk (if(a.len:Int).toNat=0 then a.a else a.a.map (·.add (0*3))) ((a.len:Int).toNat - 0) ((a.len:Int).toNat - 0)) b
def OJ.V{u w k}(h:OJ u w λa0 a1=>k (Sl.v a0) a1):Cs 330 [Sl.v u] w k:=rg Ψ func330 h
def RS(a:Sl)(c d:Int)(b:HT)(e:Qd)(f:Wp):=
 Je AE a c d b e f
def RS.V{u a b a0 w k}(h:RS u a b a0 w λa1=>k (.tuple #[]) a1):Cs 332 [Sl.v u,vI a,vI b,a0] w k:=rg ϋ func332 h
def Sa(a:Sl)(c d e:Int)(b:HT)(f:Qd)(g:Wp):=
 Mi AE 333 369 a c d e b f g
def Sa.V{u a m b a0 w k}(h:Sa u a m b a0 w λa1=>k (.tuple #[]) a1):Cs 333 [Sl.v u,vI a,vI m,vI b,a0] w k:=rg Χ func333 h
def LI(p:Wd)(g f:Int)(q:Qd)(r:Á):=
 Dr q λe=>∃k,p=some k/\∃h,Ls e (k.add 7) h/\∃l,Ix h g l/\∃d,Ls e (l.add (g.toNat*9)) d/\∃m,p=some m/\∃i,Ls e (m.add 7) i/\∃j,Ix i f j/\∃a,Ls e (j.add (f.toNat*9)) a/\sh (decide ((a.len:Int)<=(d.len:Int))) λ(n:Bool)=>BI n ((0:Int)<=(a.len:Int)/\(a.len:Int)<=(d.cap:Int))/\No n (λ(c:Bool) (b:Qd)=>r (n&&c) b) (λo=>Cs 99 [(Sl.v (Sl.cut d 0 ((a.len:Int).toNat) 1)),Sl.v a] e λs b=>∃c,s= .bool c/\o c b) (λo=>o false e)
def LI.V{p a0 u w k}(h:LI p a0 u w λa1 a2=>k (vB a1) a2):Cs 337 (Nc p a0 u) w k:=rg ω func337 h
def Ml(a:HT)(d:Qd)(e:Sl->Wp):=
 Cs 383 [Sl.nil.v,a] d λf c=>∃b,f=Sl.v b/\e b c
def Ml.V{u w k}(h:Ml u w λa0 a1=>k (Sl.v a0) a1):Cs 355 [u] w k:=rg Ψ func355 h
def RX(a:Sl)(c:Int)(b:HT)(d:Qd)(e:Wp):=
 Jg 386 387 a c b d e
def RX.V{u n a0 w k}(h:RX u n a0 w λa1=>k (.tuple #[]) a1):Cs 361 [Sl.v u,vI n,a0] w k:=rg ν func361 h
def RU(a:Sl)(c d e:Int)(b:HT)(f:Qd)(g:Wp):=
 Mg 391 a c d e b f g
def RU.V{u a m b a0 w k}(h:RU u a m b a0 w λa1=>k (.tuple #[]) a1):Cs 369 [Sl.v u,vI a,vI m,vI b,a0] w k:=rg ϊ func369 h
def RT(a:Sl)(c d:Int)(b:HT)(e:Qd)(f:Wp):=
 Je Fq a c d b e f
def RT.V{u a b a0 w k}(h:RT u a b a0 w λa1=>k (.tuple #[]) a1):Cs 386 [Sl.v u,vI a,vI b,a0] w k:=rg ϋ func386 h
def Sb(a:Sl)(c d e:Int)(b:HT)(f:Qd)(g:Wp):=
 Mi Fq 387 409 a c d e b f g
def Sb.V{u a m b a0 w k}(h:Sb u a m b a0 w λa1=>k (.tuple #[]) a1):Cs 387 [Sl.v u,vI a,vI m,vI b,a0] w k:=rg Χ func387 h
def RY(a:Sl)(c d e:Int)(b:HT)(f:Qd)(g:Wp):=
 Mh AE a c d e b f g
def RY.V{u a b n a0 w k}(h:RY u a b n a0 w λa1=>k (.tuple #[]) a1):Cs 391 [Sl.v u,vI a,vI b,vI n,a0] w k:=rg (.q (.b (.l [(10,4)] ξ))) func391 h
def RV(a:Sl)(c d e:Int)(b:HT)(f:Qd)(g:Wp):=
 Mg 421 a c d e b f g
def RV.V{u a m b a0 w k}(h:RV u a m b a0 w λa1=>k (.tuple #[]) a1):Cs 409 [Sl.v u,vI a,vI m,vI b,a0] w k:=rg ϊ func409 h
def RZ(a:Sl)(c d e:Int)(b:HT)(f:Qd)(g:Wp):=
 Mh Fq a c d e b f g
def RZ.V{u a b n a0 w k}(h:RZ u a b n a0 w λa1=>k (.tuple #[]) a1):Cs 421 [Sl.v u,vI a,vI b,vI n,a0] w k:=rg (.q (.b (.l [(10,4)] ξ))) func421 h
end Go.Hal.SE
