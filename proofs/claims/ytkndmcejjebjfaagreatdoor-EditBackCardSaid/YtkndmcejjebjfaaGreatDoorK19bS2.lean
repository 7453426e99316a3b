/- Lemmas for the claim K19b: how the program's functions run, and what they answer; no condition but those that each theorem names. -/
import Derived.Test.YtkndmcejjebjfaaGreatDoorProg
import Derived.Test.YtkndmcejjebjfaaGreatDoorK19bA0
set_option linter.unusedVariables false
set_option linter.unusedSimpArgs false
set_option linter.defProp false
set_option maxHeartbeats 16000000
namespace Go.Hal.SE
open Go.Proofs.Tryz
open Go Go.RowKit Go.Hal Go.Proofs
set_option maxRecDepth 100000
def Gj(a1:Sl)(a6:Wd)(a2:Bool->Wp):Prop:=
 (If (64<(a1.len:Int)) (a2 false a6) (loop2 0 0 a6 λr a v y=>(If (a<(a1.len:Int)) (∃a0,Ix a1 a a0/\∃b c d e f g,G1 v (a0.add (a.toNat*6)) b c d e f g/\Sd v λa4 z=>stw z a4 (MD b c d e f g) λs=>∃h i j,As s a4 h i j/\Cs 271 [(Am h i j)] s λa8 t=>∃k l,a8=G7 k l/\∃m n o,As t (a4.add 3) m n o/\Cs 271 [(Am m n o)] t λa5 u=>∃p q,a5=G7 p q/\bnd (!l) λ(a7:Bool)=>bnd (a7||(!q)) λ(a3:Bool)=>bnd (a3||(decide (k<r))) λ(x:Bool)=>(Ib (x||(decide (p<k))) (a2 false u) (y (Aa (p+2)) (Aa (a+1)) u))) (a2 true v))))
def Gj.go{l w k}(h:Gj l w λu a0=>k (vB u) a0):Cs 176 [Sl.v l] w k:=rg (.q (.s (.q (.k .y)) (.q (.s (.q (.b (.l [(3,4),(15,4)] (.q (.s .x (.s (.b (.q (.q (.q (.s (.q (.k .y)) (.r [])))))) (.r []))))))) .y)))) func176 h
def H2(q r s t:Sl)(u:Bs)(v:Sl)(a4:Wd)(a3:Sl->Wp):Prop:=
 newS a4 (C0 q r s t) 36 λa5 a2=>newS a2 [vT u,Sl.v v] 96 λx f=>∃p,Ls f (a5.add 3) p/\loop1 0 f λb c y=>(If (b<(p.len:Int)) (∃a1,Ix p b a1/\∃d e,Bg c (a1.add (b.toNat*2)) d e/\Cr c λm z=>stw z m [vT d,Sl.v e] λa=>∃g,Lt a m g/\∃h,Lt a x h/\(If (g=h) (∃i,Ls a (m.add 1) i/\Cs 145 [Sl.v i] a λa6 n=>∃j,a6=Sl.v j/\a3 j n) (y (Aa (b+1)) a))) (∃k,Ls c (x.add 1) k/\Cs 145 [Sl.v k] c λa0 o=>∃l,a0=Sl.v l/\a3 l o))
def H2.go{u a0 a1 a2 a3 a4 w k}(h:H2 u a0 a1 a2 a3 a4 w λa5 a6=>k (Sl.v a5) a6):Cs 180 [(AD u a0 a1 a2),(.agg #[vT a3,Sl.v a4])] w k:=rg (.q (.s (.q (.b (.l [(10,4)] (.q (.s .x (.s (.b (.q (.q (.k .y)))) (.r []))))))) .y)) func180 h
def IZ(b:Sl)(a:Value)(c:Wd)(d:Wp):Prop:=
 IR 274 b a c d
def IZ.go{x u w k}(h:IZ x u w λa0=>k (Value.tuple #[]) a0):Cs 181 [Sl.v x,u] w k:=rg (.r []) func181 h
def O4(d:Bs)(b:Int)(e:Sl)(f:Bs)(c:Int)(g:Sl)(n:Wd)(o:Int->Wp):Prop:=
 newS n (Fb d b e) 140 λp l=>newS l (Fb f c g) 140 λm a=>∃i,Lt a p i/\∃j,Lt a m j/\Cs 69 [vT i,vT j] a λq h=>∃k,q= .int .i64 k/\o k h
def O4.go{a1 u a2 a3 a0 a4 w k}(h:O4 a1 u a2 a3 a0 a4 w λa5 a6=>k (vI a5) a6):Cs 182 [(Jp a1 u a2),(Jp a3 a0 a4)] w k:=rg (.q .y) func182 h
def Om(a:Sl)(b:Wd)(c:Sl->Wp):Prop:=
 ((0:Int)<=0/\0<=(a.len:Int)/\(a.len:Int)<=(a.len:Int)/\(a.len:Int)<=(a.cap:Int))/\c (Sl.mk (if(a.len:Int).toNat=0 then a.a else a.a.map (·.add (0*3))) ((a.len:Int).toNat - 0) ((a.len:Int).toNat - 0)) b
def Om.go{u w k}(h:Om u w λa0 a1=>k (Sl.v a0) a1):Cs 183 [Sl.v u] w k:=rg (.q .y) func183 h
def LJ(b:Sl)(d:Value)(e:Wd)(f:Bool->Wp):Prop:=
 Cs 275 [Sl.v b,d] e λg c=>∃a,g= .int .i64 a/\f (decide (0<=a)) c
def LJ.go{u f w k}(h:LJ u f w λa0 a1=>k (vB a0) a1):Cs 184 [Sl.v u,f] w k:=rg (.q .y) func184 h
def Mf(p q r s t u:Int)(x:Addr)(a3:Wd)(a4:Bool->Wp):Prop:=
 newS a3 (MD p q r s t u) 233 λa2 v=>∃d e f,As v a2 d e f/\∃g h i,As v x g h i/\Cs 186 [(Am d e f),(Am g h i)] v λa5 b=>∃y,a5= .int .i64 y/\bnd (decide (y<=0)) λ(z:Bool)=>∃j k l,B5 z b x j k l/\∃m n o,B5 z b (a2.add 3) m n o/\gCall z (λ(a:Int) (c:Wd)=>a4 (z&&(decide (a<=0))) c) (λa0=>Cs 186 [(Am j k l),(Am m n o)] b λa1 c=>∃a,a1= .int .i64 a/\a0 a c) (λa0=>a0 0 b)
def Mf.go{u a0 a1 a2 a3 a4:Int}{c0:Addr}{w:Wd}{k:Value->Wp}(h:Mf u a0 a1 a2 a3 a4 c0 w λa5 a6=>k (Value.bool a5) a6):callS prog 185 [(.agg #[vi u,vi a0,vi a1,vi a2,vi a3,vi a4]),(Value.pointer (some c0))] w k:=Cw (sk:=(.s (.r []) (.s (.r []) .o))) (args:= [sv (.agg #[vi u,vi a0,vi a1,vi a2,vi a3,vi a4]),sa c0]) func185 (Eq.mpr kR h)
def EZ(n o p q r s:Int)(a5:Wd)(a6:Int->Wp):Prop:=
 newS a5 (AE n o p) 66 λa3 a4=>newS a4 (AE q r s) 66 λi t=>Dr t λa=>∃a0,Li a a3 a0/\∃a1,Li a i a1/\∃b,Li a (a3.add 1) b/\∃c,Li a (i.add 1) c/\∃d,Li a (a3.add 2) d/\∃e,Li a (i.add 2) e/\Cx 91 [vI a0,vI a1] a λa7 u=>∃a2,a7= .int .i64 a2/\Cx 91 [vI b,vI c] u λv j=>∃f,v= .int .i64 f/\Cs 91 [vI d,vI e] j λx k=>∃g,x= .int .i64 g/\newS k (AE a2 f g) 3 λy l=>Cs 90 [(Sl.v (Sl.mk (some y) 3 3))] l λz m=>∃h,z= .int .i64 h/\a6 h m
def EZ.go{u a0 a1 a2 a3 a4 w k}(h:EZ u a0 a1 a2 a3 a4 w λa5 a6=>k (vI a5) a6):Cs 186 [(Am u a0 a1),(Am a2 a3 a4)] w k:=rg (.q .y) func186 h
def Hu(i:Sl)(m:Value)(n:Wd)(l:Int->Wp):Prop:=
 loop1 0 n λa h j=>(If (a<(i.len:Int)) (∃k,Ix i a k/\∃f b c d,BQ h (k.add (a.toNat*4)) f b c d/\callV prog m [(B4 f b c d)] h λo e=>∃g,o= .bool g/\(Ib g (l a e) (j (Aa (a+1)) e))) (l (-1) h))
def Hu.go{u f w k}(h:Hu u f w λa0 a1=>k (vI a0) a1):Cs 187 [Sl.v u,f] w k:=rg (.q (.s (.q (.b (.l [(8,4)] (.q (.s .x (.s (.b (.q (.q (.k .y)))) (.r []))))))) .y)) func187 h
def Jk(a:Bs)(c:Wd)(d:Value->Wp):Prop:=
 newS c [vT a] 9 λe b=>d (Value.func (.func 191) #[] #[vP e]) b
def Jk.go{u w k}(h:Jk u w λa0 a1=>k a0 a1):Cs 190 [vT u] w k:=rg (.q .y) func190 h
def M6(b:Bs)(c d e:Int)(h:Addr)(i:Wd)(j:Bool->Wp):Prop:=
 newS i (Br b c d e) 166 λk a=>∃f,Lt a k f/\∃g,Lt a h g/\j (Ai f g) a
def M6.go{u:Bs}{a0 a1 a2:Int}{c0:Addr}{w:Wd}{k:Value->Wp}(h:M6 u a0 a1 a2 c0 w λa3 a4=>k (Value.bool a3) a4):callS prog 191 [(.agg #[.string u,vi a0,vi a1,vi a2]),(Value.pointer (some c0))] w k:=Cw (sk:=(.s (.r []) (.s (.r []) .o))) (args:= [sv (.agg #[.string u,vi a0,vi a1,vi a2]),sa c0]) func191 (Eq.mpr kR h)
def MA(q:Bs)(r s t:Int)(u v x a4 a5 a6 a7:Sl)(b7:Wd)(b8:Sl->Wp):Prop:=
 newS b7 (A4 q r s t u v x) 68 λb9 b5=>newS b5 (C0 a4 a5 a6 a7) 36 λb6 l=>∃a3,Ls l (b9.add 5) a3/\loop2 Sl.nil 0 l λm a c a8=>(If (a<(a3.len:Int)) (∃b4,Ix a3 a b4/\∃d e,Bg c (b4.add (a.toNat*2)) d e/\Cr c λy a9=>stw a9 y [vT d,Sl.v e] λb0=>Dr b0 λb=>∃n,Lt b y n/\∃f g h i,B1 b b6 f g h i/\∃j k,Bg b y j k/\Cx 180 [(AD f g h i),(.agg #[vT j,Sl.v k])] b λc0 z=>∃o,c0=Sl.v o/\newS z [vT n,Sl.v o] 96 λb1 a0=>appS prog 34 34 m (Sl.v (Sl.mk (some b1) 1 1)) a0 λb2 a1=>a8 b2 (Aa (a+1)) a1) (Cs 276 [Sl.v m] c λb3 a2=>∃p,b3=Sl.v p/\b8 p a2))
def MA.go{u a0 a1 a2 a3 a4 a5 a6 a7 a8 a9 w k}(h:MA u a0 a1 a2 a3 a4 a5 a6 a7 a8 a9 w λb0 b1=>k (Sl.v b0) b1):Cs 192 [(A0 u a0 a1 a2 a3 a4 a5),(AD a6 a7 a8 a9)] w k:=rg (.q (.q (.s (.q (.b (.l [(5,35),(11,4)] (.q (.s .x (.s (.b (.q (.r []))) (.r []))))))) .y))) func192 h
def M7(b:Bs)(c d e:Int)(f:Bs)(g h i:Int)(p:Wd)(q:Int->Wp):Prop:=
 newS p (Br b c d e) 166 λr n=>newS n (Br f g h i) 166 λo a=>∃k,Lt a r k/\∃l,Lt a o l/\Cs 69 [vT k,vT l] a λs j=>∃m,s= .int .i64 m/\q m j
def M7.go{u a0 a1 a2 a3 a4 a5 a6 w k}(h:M7 u a0 a1 a2 a3 a4 a5 a6 w λa7 a8=>k (vI a7) a8):Cs 193 [(B4 u a0 a1 a2),(B4 a3 a4 a5 a6)] w k:=rg (.q .y) func193 h
def Rj(a:Sl)(b:Wd)(c:Sl->Wp):Prop:=
 ((0:Int)<=0/\0<=(a.len:Int)/\(a.len:Int)<=(a.len:Int)/\(a.len:Int)<=(a.cap:Int))/\c (Sl.mk (if(a.len:Int).toNat=0 then a.a else a.a.map (·.add (0*4))) ((a.len:Int).toNat - 0) ((a.len:Int).toNat - 0)) b
def Rj.go{u w k}(h:Rj u w λa0 a1=>k (Sl.v a0) a1):Cs 194 [Sl.v u] w k:=rg (.q .y) func194 h
def GU(a:Int)(b:Wd)(c:Bool->Wp):Prop:=
 bnd (decide (0<=a)) λ(d:Bool)=>c (d&&(decide (a<=999))) b
def GU.go{n w k}(h:GU n w λu a0=>k (vB u) a0):Cs 195 [vI n] w k:=rg (.q .y) func195 h
def Ik(b3:Sl)(c7:Wd)(c4:Bool->Wp):Prop:=
 (If (64<(b3.len:Int)) (c4 false c7) (loop1 0 c7 λj b7 b8=>(If (j<(b3.len:Int)) (Dr b7 λb4=>∃c3,Ix b3 j c3/\∃q r s,As b4 (c3.add (j.toNat*6)) q r s/\Cs 109 [(Am q r s)] b4 λc8 p=>∃b5,c8= .bool b5/\bnd (!b5) λ(c5:Bool)=>∃b6,Gx (!c5) b3 j b6/\∃t u v,B5 (!c5) p ((b6.add (j.toNat*6)).add 3) t u v/\gCall (!c5) (λ(k:Bool) (b:Wd)=>bnd (c5||(!k)) λ(i:Bool)=>∃x,Gx (!i) b3 j x/\∃y z a0,B5 (!i) b (x.add (j.toNat*6)) y z a0/\∃a1,Gx (!i) b3 j a1/\∃a2 a3 a4,B5 (!i) b ((a1.add (j.toNat*6)).add 3) a2 a3 a4/\gCall (!i) (λ(l:Int) (c:Wd)=>gCall (!i) (λ(m:Int) (d:Wd)=>(Ib (i||(decide (m<l))) (c4 false d) (Dr d λg=>bnd (decide (0<j)) λ(a:Bool)=>∃a5,Gx a b3 j a5/\∃a6 a7 a8,B5 a g (a5.add (j.toNat*6)) a6 a7 a8/\∃a9,Gx a b3 (Aa (j - 1)) a9/\∃b0 b1 b2,B5 a g ((a9.add ((Aa (j - 1)).toNat*6)).add 3) b0 b1 b2/\gCall a (λ(n:Int) (e:Wd)=>gCall a (λ(o:Int) (f:Wd)=>(Ib (a&&(decide (n<=(Aa (o+1))))) (c4 false f) (b8 (Aa (j+1)) f))) (λh=>Cs 277 [(Am b0 b1 b2)] e λb9 f=>∃o,b9= .int .i64 o/\h o f) (λh=>h 0 e)) (λh=>Cx 277 [(Am a6 a7 a8)] g λc0 e=>∃n,c0= .int .i64 n/\h n e) (λh=>h 0 g)))) (λh=>Cs 277 [(Am a2 a3 a4)] c λc1 d=>∃m,c1= .int .i64 m/\h m d) (λh=>h 0 c)) (λh=>Cx 277 [(Am y z a0)] b λc2 c=>∃l,c2= .int .i64 l/\h l c) (λh=>h 0 b)) (λh=>Cs 109 [(Am t u v)] p λc6 b=>∃k,c6= .bool k/\h k b) (λh=>h false p)) (c4 true b7))))
def Ik.go{l w k}(h:Ik l w λu a0=>k (vB u) a0):Cs 196 [Sl.v l] w k:=rg (.q (.s (.q (.k .y)) (.s (.q (.b (.l [(3,4)] (.s (.q .x) (.s (.b (.s (.q (.k .y)) (.q (.k .y)))) (.r [])))))) .y))) func196 h
def Il(c d:Bs)(j:Wd)(i:Bool->Wp):Prop:=
 loop1 0 j λa e f=>bnd (decide (a<(c.size:Int))) λ(h:Bool)=>(Ib (h&&(decide (a<(d.size:Int)))) (Dr e λb=>((0:Int)<=a/\a<(c.size:Int))/\((0:Int)<=a/\a<(d.size:Int))/\(If (¬(Ct c a)=(Ct d a)) (Dr b λg=>((0:Int)<=a/\a<(c.size:Int))/\((0:Int)<=a/\a<(d.size:Int))/\i (decide ((Ct c a)<(Ct d a))) g) (f (Aa (a+1)) b))) (i (decide ((c.size:Int)<(d.size:Int))) e))
def Il.go{a b w k}(h:Il a b w λu a0=>k (vB u) a0):Cs 197 [vT a,vT b] w k:=rg (.q (.s (.q (.b (.l [(5,4)] (.s (.q .x) (.s (.b (.q (.k .y))) (.r [])))))) .y)) func197 h
def FR(l m n:Int)(z:Wd)(y:Bs->Wp):Prop:=
 newS z (AE l m n) 66 λv o=>∃d e f,As o v d e f/\Cs 109 [(Am d e f)] o λa0 h=>∃t,a0= .bool t/\(Ib (!t) (y (bm #[]) h) (Dr h λb=>∃u,Li b v u/\∃i,Li b (v.add 1) i/\∃j,Li b (v.add 2) j/\Cx 278 [vI u] b λx p=>∃c,x= .string c/\(((c.size+(bm #[46]).size:Nat):Int)<=Ak)/\Cx 278 [vI i] p λq r=>∃a,q= .string a/\((((c++(bm #[46])).size+a.size:Nat):Int)<=Ak)/\(((((c++(bm #[46]))++a).size+(bm #[46]).size:Nat):Int)<=Ak)/\Cs 278 [vI j] r λs k=>∃g,s= .string g/\((((((c++(bm #[46]))++a)++(bm #[46])).size+g.size:Nat):Int)<=Ak)/\y ((((c++(bm #[46]))++a)++(bm #[46]))++g) k))
def FR.go{u a0 a1 w k}(h:FR u a0 a1 w λa2 a3=>k (vT a2) a3):Cs 198 [(Am u a0 a1)] w k:=rg (.q (.s (.q (.k .y)) .y)) func198 h
def GX(a:Bs)(m:Sl)(n:Wd)(o:Bs->Wp):Prop:=
 loop2 (bm #[]) 0 n λb h i j=>(If (h<(m.len:Int)) (Dr i λe=>(((b.size+a.size:Nat):Int)<=Ak)/\((((b++a).size+(bm #[32]).size:Nat):Int)<=Ak)/\∃l,Ix m h l/\∃c,Lt e (l.add (h.toNat*2)) c/\(((((b++a)++(bm #[32])).size+c.size:Nat):Int)<=Ak)/\((((((b++a)++(bm #[32]))++c).size+(bm #[32]).size:Nat):Int)<=Ak)/\∃f,Ix m h f/\∃g,Ls e ((f.add (h.toNat*2)).add 1) g/\Cx 279 [Sl.v g] e λp k=>∃d,p= .string d/\(((((((b++a)++(bm #[32]))++c)++(bm #[32])).size+d.size:Nat):Int)<=Ak)/\((((((((b++a)++(bm #[32]))++c)++(bm #[32]))++d).size+(bm #[10]).size:Nat):Int)<=Ak)/\j ((((((b++a)++(bm #[32]))++c)++(bm #[32]))++d)++(bm #[10])) (Aa (h+1)) k) (o b i))
def GX.go{word l w k}(h:GX word l w λu a0=>k (vT u) a0):Cs 199 [vT word,Sl.v l] w k:=rg (.q (.q (.s (.q (.b (.l [(5,10),(6,4)] (.s (.q .x) (.s (.b (.r [])) (.r [])))))) .y))) func199 h
def Kj(a5:Sl)(c3:Wd)(c1:Sl->Wp):Prop:=
 newS c3 [Sl.v a5] 39 λc2 a7=>∃a1,Ls a7 c2 a1/\(If ((a1.len:Int)=0) (c1 Sl.nil a7) (semS prog (Instr.makeMap 345 none) a7 λc4 a0=>∃h,c4= .map h/\∃a,Ls a0 c2 a/\((0:Int)<=1/\1<=(a.len:Int))/\loop2 Sl.nil 0 a0 λg c i b2=>(If (c<((Sl.cut a ((1:Int).toNat) a.len 6).len:Int)) (join (λ(a6:Sl) (b1:Wd)=>b2 a6 (Aa (c+1)) b1) λb3=>∃b9,Ix (Sl.cut a ((1:Int).toNat) a.len 6) c b9/\∃j k l m n o,D3 i (b9.add (c.toNat*6)) j k l m n o/\N72 i λd b4=>stw b4 d (AY j k l m n o) λe=>∃a2,Lt e d a2/\∃p q r,As e (d.add 1) p q r/\semS prog (Instr.lookup 345 (Value.map h) (B4 a2 p q r) true) e λb5 b=>∃c0 s,b5=G7 c0 s/\(Ib (!s) (∃a3,Lt b d a3/\∃t u v,As b (d.add 1) t u v/\semU prog (Instr.mapUpdate 345 (Value.map h) (B4 a3 t u v) (vI c)) b λf=>∃a4,Lt f d a4/\∃x y z,As f (d.add 1) x y z/\newS f (Br a4 x y z) 166 λb6 a8=>appS prog 69 69 g (Sl.v (Sl.mk (some b6) 1 1)) a8 λb7 a9=>b3 b7 a9) (b3 g b))) (Cs 130 [Sl.v g,(Value.func (.func 284) #[] #[])] i λb8 b0=>b8= .tuple #[]/\c1 g b0))))
def Kj.go{u w k}(h:Kj u w λa0 a1=>k (Sl.v a0) a1):Cs 201 [(.agg #[Sl.v u])] w k:=rg (.q (.s (.q (.k .y)) (.q (.q (.s (.q (.b (.l [(4,70),(18,4)] (.q (.s .x (.j [(4,70)] (.b (.q (.q (.q (.c (.q (.r [])) .o))))) (.r []))))))) (.q .y)))))) func201 h
def LK(a:Sl)(n:Value)(a4:Wd)(a2:Sl->Wp):Prop:=
 Cs 285 [Sl.v a,n] a4 λa5 t=>∃b,a5= .int .i64 b/\(If (b=(-1)) (a2 a t) (loop2 b (Aa (b+1)) t λl m c u=>(If (m<(a.len:Int)) (join (λ(z:Int) (s:Wd)=>u z (Aa (m+1)) s) λv=>∃y,Ix a m y/\∃e f,Bg c (y.add (m.toNat*2)) e f/\Cr c λa0 x=>stw x a0 [vT e,Sl.v f] λo=>∃g h,Bg o a0 g h/\callV prog n [(.agg #[vT g,Sl.v h])] o λa1 d=>∃p,a1= .bool p/\(Ib (!p) (∃i j,Bg d a0 i j/\∃k,Ix a l k/\stw d (k.add (l.toNat*2)) [vT i,Sl.v j] λq=>v (Aa (l+1)) q) (v l d))) (((0:Int)<=l/\l<=(a.len:Int))/\semS prog (Builtin.clear_ #[34] 0 #[(Sl.v (Sl.cut a l.toNat a.len 2))]) c λa3 r=>((0:Int)<=l/\l<=(a.cap:Int))/\a2 (Sl.cut a 0 l.toNat 2) r))))
def LK.go{a0 u w k}(h:LK a0 u w λa1 a2=>k (Sl.v a1) a2):Cs 202 [Sl.v a0,u] w k:=rg (.q (.q (.s (.q (.k .y)) (.s (.q (.b (.l [(5,4),(6,4)] (.s (.q .x) (.j [(5,4)] (.b (.q (.q (.c (.q (.r [])) .o)))) (.r [])))))) (.q .y))))) func202 h
def LF(a:Sl)(e:Wd)(f:Sl->Wp):Prop:=
 (If (a.a=none) (f Sl.nil e) (newS e [] 96 λg c=>appS prog 34 34 (Sl.mk (some g) 0 0) (Sl.v a) c λd b=>f d b))
def LF.go{u w k}(h:LF u w λa0 a1=>k (Sl.v a0) a1):Cs 203 [Sl.v u] w k:=rg (.q (.s (.q (.k .y)) .y)) func203 h
def Np(b:Bs)(c:Sl)(f:Addr)(g:Wd)(h:Bool->Wp):Prop:=
 newS g [vT b,Sl.v c] 96 λi a=>∃d,Lt a i d/\∃e,Lt a f e/\h (Ai d e) a
def Np.go{u:Bs}{a0:Sl}{c0:Addr}{w:Wd}{k:Value->Wp}(h:Np u a0 c0 w λa1 a2=>k (Value.bool a1) a2):callS prog 204 [(.agg #[.string u,Sl.v a0]),(Value.pointer (some c0))] w k:=Cw (sk:=(.s (.r []) (.s (.r []) .o))) (args:= [sv (.agg #[.string u,Sl.v a0]),sa c0]) func204 (Eq.mpr kR h)
def JW(b:Bs)(c:Sl)(d:Bs)(e:Sl)(l:Wd)(m:Int->Wp):Prop:=
 newS l [vT b,Sl.v c] 96 λn j=>newS j [vT d,Sl.v e] 96 λk a=>∃g,Lt a n g/\∃h,Lt a k h/\Cs 69 [vT g,vT h] a λo f=>∃i,o= .int .i64 i/\m i f
def JW.go{u a0 a1 a2 w k}(h:JW u a0 a1 a2 w λa3 a4=>k (vI a3) a4):Cs 205 [(.agg #[vT u,Sl.v a0]),(.agg #[vT a1,Sl.v a2])] w k:=rg (.q .y) func205 h
def LI(b:Sl)(d:Value)(e:Wd)(f:Bool->Wp):Prop:=
 Cs 285 [Sl.v b,d] e λg c=>∃a,g= .int .i64 a/\f (decide (0<=a)) c
def LI.go{u f w k}(h:LI u f w λa0 a1=>k (vB a0) a1):Cs 206 [Sl.v u,f] w k:=rg (.q .y) func206 h
def Nn(b:Bs)(c:Sl)(f:Addr)(g:Wd)(h:Bool->Wp):Prop:=
 newS g [vT b,Sl.v c] 96 λi a=>∃d,Lt a i d/\∃e,Lt a f e/\h (Ai d e) a
def Nn.go{u:Bs}{a0:Sl}{c0:Addr}{w:Wd}{k:Value->Wp}(h:Nn u a0 c0 w λa1 a2=>k (Value.bool a1) a2):callS prog 207 [(.agg #[.string u,Sl.v a0]),(Value.pointer (some c0))] w k:=Cw (sk:=(.s (.r []) (.s (.r []) .o))) (args:= [sv (.agg #[.string u,Sl.v a0]),sa c0]) func207 (Eq.mpr kR h)
def LM(a:Sl)(q:Value)(a7:Wd)(a5:Sl->Wp):Prop:=
 Cs 286 [Sl.v a,q] a7 λa8 x=>∃b,a8= .int .i64 b/\(If (b=(-1)) (a5 a x) (loop2 b (Aa (b+1)) x λo p c y=>(If (p<(a.len:Int)) (join (λ(a2:Int) (v:Wd)=>y a2 (Aa (p+1)) v) λz=>∃a1,Ix a p a1/\∃e f g,As c (a1.add (p.toNat*3)) e f g/\N66 c λa3 a0=>stw a0 a3 (AE e f g) λr=>∃h i j,As r a3 h i j/\callV prog q [(Am h i j)] r λa4 d=>∃s,a4= .bool s/\(Ib (!s) (∃k l m,As d a3 k l m/\∃n,Ix a o n/\stw d (n.add (o.toNat*3)) (AE k l m) λt=>z (Aa (o+1)) t) (z o d))) (((0:Int)<=o/\o<=(a.len:Int))/\semS prog (Builtin.clear_ #[135] 0 #[(Sl.v (Sl.cut a o.toNat a.len 3))]) c λa6 u=>((0:Int)<=o/\o<=(a.cap:Int))/\a5 (Sl.cut a 0 o.toNat 3) u))))
def LM.go{a0 u w k}(h:LM a0 u w λa1 a2=>k (Sl.v a1) a2):Cs 208 [Sl.v a0,u] w k:=rg (.q (.q (.s (.q (.k .y)) (.s (.q (.b (.l [(5,4),(6,4)] (.s (.q .x) (.j [(5,4)] (.b (.q (.q (.c (.q (.r [])) .o)))) (.r [])))))) (.q .y))))) func208 h
def Fo(c5:Option Addr)(p:Bs)(c3:Wd)(c6:Sl->Wp):Prop:=
 ∃c4,c5=some c4/\∃l,ldc c3 c4 [.map l]/\semS prog (Instr.range 120 (Value.map l)) c3 λc7 c0=>∃q,c7=(vP q)/\loop1 Sl.nil c0 λd b5 m=>semS prog (Instr.next (vP q) false 0) b5 λc1 h=>∃b1 c b2 b3 b4 r s t u v x y,c1=Ze5 b1 (B4 c b2 b3 b4) (A0 r s t u v x y)/\(Ib b1 (∃a e f g z a0 a1 a2 a3 a4 a5,(Cz prog (Instr.entry (vP q)) h (Value.tuple #[(B4 a e f g),(A0 z a0 a1 a2 a3 a4 a5)]))/\Sc h λc2 a6=>stw a6 c2 (Br a e f g) λb=>∃n,Lt b c2 n/\(If (n=p) (∃i j k,As b (c2.add 1) i j k/\newS b (AE i j k) 66 λb6 a7=>appS prog 135 135 d (Sl.v (Sl.mk (some b6) 1 1)) a7 λb7 a8=>m b7 a8) (m d b))) (Cs 287 [Sl.v d,(Value.func (.func 288) #[] #[])] h λb8 a9=>b8= .tuple #[]/\Cs 215 [Sl.v d] a9 λb9 b0=>∃o,b9=Sl.v o/\c6 o b0))
def Fo.sound(c:Option Addr)(name:Bs)(w:Wd)(R:Sl->Wp)(h:Fo c name w R):callS prog 209 [(Value.pointer c),(Value.string name)] w (λv w'=>∃(r0:Sl),v=(Sl.v r0)/\R r0 w'):=by
 unfold Fo at h;refine SY 29 rfl func209 rfl kR sI ?_;refine Vc.seq ?_;refine Vc.region ?_;refine DI rfl rfl (Sl.v Sl.nil) (λw=>kR) ?_;refine FB ?_;refine Vc.seq ?_;refine Vc.region ?_;refine DI rfl rfl (Sl.v Sl.nil) (λw=>kR) ?_;refine FB ?_;refine Vc.seq ?_;refine Vc.seq ?_;refine Vc.region ?_;refine DI rfl rfl (Value.pointer c) (λw=>kR) ?_;obtain⟨p,hp,h⟩:=h;refine DI rfl rfl (Value.pointer (some p)) (λw=>by exact TU rfl kR (hp) w) ?_;refine DI rfl rfl (Value.pointer (some p)) (λw=>kR) ?_;obtain⟨t10,hc,h⟩:=h;refine O1 rfl rfl (Value.map t10) (Nt rfl kR (QW (λw=>kR) ((hc)))) ?_;refine FA rfl (KR rfl (c:=Instr.range 120 (Value.map t10)) kR (semS.mono h λv vw h=>?_));obtain⟨it,rfl,h⟩:=h;refine FB ?_;refine Vc.block ?_;obtain⟨vI,mu,h,hr⟩:=h;refine Vc.loopJ (σ:=Sl) [5] [6,12,13,14,15,16,17,18,19,20,21,22,23,24] (λs=> [(5,(Sl.v s))]) (λs w=>vI s w) (λs w=>mu s w) Sl.nil h (λ_=>rfl) kR ?_;intro out vw1 j h;have h:=hr out vw1 h;refine Vc.seq ?_;refine Vc.region ?_;refine FA rfl (KR rfl (c:=Instr.next (Value.pointer (some it)) false 0) kR (semS.mono h λv3 vw2 h=>?_));obtain⟨ok,key_name,zzg,zzh,zzi,zz1m,zz1p,zz1q,zz1r,zz1l,zz1o,zz1n,rfl,h⟩:=h;refine DI rfl rfl (Value.bool ok) (λw=>by cases ok<;>kernel_rfl) ?_;refine FB ?_;refine Vc.seq ?_;refine Vc.cond ok kR (λhb=>?_) (λhb=>?_)
 .have hq:=h.1 (hb);clear h;subst hb;have h:=hq;clear hq;refine Vc.skip ?_;refine Vc.block ?_;refine Vc.seq ?_;refine Vc.region ?_;obtain⟨key_name4,zz1f,zz1g,zz1h,zz3i,zz3l,zz3m,zz3n,zz3h,zz3k,zz3j,hl,h⟩:=h;refine O1 rfl rfl (Value.tuple #[(Value.agg #[(Value.string key_name4),(Value.int .i64 zz1f),(Value.int .i64 zz1g),(Value.int .i64 zz1h)]),(Value.agg #[(Value.string zz3i),(Value.int .i64 zz3l),(Value.int .i64 zz3m),(Value.int .i64 zz3n),(Sl.v zz3h),(Sl.v zz3k),(Sl.v zz3j)])]) (TV (c:=Instr.entry (Value.pointer (some it))) kR ((hl) _ (Ext.refl _))) ?_;refine DI rfl rfl (Value.agg #[(Value.string key_name4),(Value.int .i64 zz1f),(Value.int .i64 zz1g),(Value.int .i64 zz1h)]) (λw=>kR) ?_;refine FA rfl (Qv rfl (λa=>Value.pointer (some a)) kR (newS.mono h λa vw15 hx h=>?_));refine FA rfl (Vh rfl rfl (a:=a) kR (v:=(Value.agg #[(Value.string key_name4),(Value.int .i64 zz1f),(Value.int .i64 zz1g),(Value.int .i64 zz1h)])) kR [(Value.string key_name4),(Value.int .i64 zz1f),(Value.int .i64 zz1g),(Value.int .i64 zz1h)] kR (λw=>kR) kR (stw.mono h λvw16 h=>?_));refine FB ?_;refine Vc.seq ?_;refine Vc.region ?_;refine DI rfl rfl (Value.pointer (some a)) (λw=>kR) ?_;obtain⟨t17,hc17,h⟩:=h;refine O1 rfl rfl (Value.string t17) (Nt rfl kR (QW (λw=>kR) ((hc17)))) ?_;refine WR 2 [(19,(Value.bool (Ai t17 name))),(18,(Value.string name))] kR ?_;refine FB ?_;refine Vc.cond (Ai t17 name) kR (λhb=>?_) (λhb=>?_)
  .have h:=h.1 (AH.1 hb);refine Vc.region ?_;refine WR 2 [(21,(Value.pointer (some (a.add 1)))),(20,(Sl.v out))] kR ?_;obtain⟨zz1i,zz1j,zz1k,hc18,h⟩:=h;refine O1 rfl rfl (Value.agg #[(Value.int .i64 zz1i),(Value.int .i64 zz1j),(Value.int .i64 zz1k)]) (Nt rfl kR (VR (λw=>kR) (λw=>kR) ((hc18)))) ?_;refine FA rfl (Qv rfl (λa=>Value.slice (some a) 1 1) kR (newS.mono h λa19 vw20 hx h=>?_));refine FA rfl (KR rfl (c:=Builtin.append_ #[135,135] 135 #[(Sl.v out),(Sl.v (Sl.mk (some a19) 1 1))]) kR (appS.elim (ty:=135) h λt24 vw21 h=>?_));refine DI rfl rfl (Sl.v t24) (λw=>kR) ?_;refine FB ?_;exact⟨t24,30,⟨rfl,kR,kR,kR⟩,h⟩
  .have h:=h.2 (MR.1 hb);refine Vc.skip ?_;exact⟨out,24,⟨rfl,kR,kR,kR⟩,h⟩
 .have hq:=h.2 (hb);clear h;subst hb;have h:=hq;clear hq;refine Vc.exit ?_;refine Zfh ?_;refine Vc.seq ?_;refine Vc.region ?_;refine DI rfl rfl (Sl.v out) (λw=>kR) ?_;refine FA rfl (Vf rfl kR (callS.mono h λv23 vw22 h=>?_));obtain⟨rfl,h⟩:=h;refine FB ?_;refine Vc.seq ?_;refine Vc.region ?_;refine DI rfl rfl (Sl.v out) (λw=>kR) ?_;refine FA rfl (Vf rfl kR (callS.mono h λv25 vw24 h=>?_));obtain⟨t28,rfl,h⟩:=h;refine DI rfl rfl (Sl.v t28) (λw=>kR) ?_;refine FB ?_;refine Vc.ret ?_;refine Zfj ?_;refine Zq (Sl.v t28) (VC (VD kR)) ?_;exact⟨t28,rfl,h⟩
def Fo.go{c:Option Addr}{u:Bs}{w:Wd}{k:Value->Wp}(h:Fo c u w λa0 a1=>k (Sl.v a0) a1):callS prog 209 [.pointer c, .string u] w k:=(Fo.sound c u w _ h).mono (by rintro _ _ ⟨a0,rfl,h⟩;exact h)
def J9(e f g:Int)(k:Addr)(l:Wd)(m:Bool->Wp):Prop:=
 newS l (AE e f g) 66 λn d=>∃i,Ls d k i/\∃a b c,As d n a b c/\Cs 100 [Sl.v i,(Am a b c)] d λo h=>∃j,o= .bool j/\m (!j) h
def J9.go{u a0 a1:Int}{c0:Addr}{w:Wd}{k:Value->Wp}(h:J9 u a0 a1 c0 w λa2 a3=>k (Value.bool a2) a3):callS prog 210 [(.agg #[vi u,vi a0,vi a1]),(Value.pointer (some c0))] w k:=Cw (sk:=(.s (.r []) (.s (.r []) .o))) (args:= [sv (.agg #[vi u,vi a0,vi a1]),sa c0]) func210 (Eq.mpr kR h)
def IY(b:Sl)(a:Value)(c:Wd)(d:Wp):Prop:=
 IR 289 b a c d
def IY.go{x u w k}(h:IY x u w λa0=>k (Value.tuple #[]) a0):Cs 211 [Sl.v x,u] w k:=rg (.r []) func211 h
def JA(q r s t u v:Int)(x y:Addr)(a8:Wd)(a9:Int->Wp):Prop:=
 newS a8 (AE q r s) 66 λb0 a6=>newS a6 (AE t u v) 66 λa7 z=>Dr z λa=>∃a4,Ls a x a4/\∃a5,Lt a y a5/\∃b c d,As a a7 b c d/\∃h,Ls a x h/\∃i,Lt a y i/\∃e f g,As a b0 e f g/\Cx 214 [Sl.v a4,(B4 a5 b c d)] a λb1 a0=>∃j,b1= .bool j/\Cx 213 [vB j] a0 λa1 n=>∃k,a1= .int .i64 k/\Cs 214 [Sl.v h,(B4 i e f g)] n λa2 o=>∃l,a2= .bool l/\Cs 213 [vB l] o λa3 p=>∃m,a3= .int .i64 m/\a9 (Aa (k - m)) p
def JA.go{u a0 a1 a2 a3 a4:Int}{c0 c1:Addr}{w:Wd}{k:Value->Wp}(h:JA u a0 a1 a2 a3 a4 c0 c1 w λa5 a6=>k (Value.int .i64 a5) a6):callS prog 212 [(.agg #[vi u,vi a0,vi a1]),(.agg #[vi a2,vi a3,vi a4]),(Value.pointer (some c0)),(Value.pointer (some c1))] w k:=Cw (sk:=(.s (.r []) (.s (.r []) .o))) (args:= [sv (.agg #[vi u,vi a0,vi a1]),sv (.agg #[vi a2,vi a3,vi a4]),sa c0,sa c1]) func212 (Eq.mpr kR h)
def HO(a:Bool)(b:Wd)(c:Int->Wp):Prop:=
 (Ib a (c 1 b) (c 0 b))
def HO.go{u w k}(h:HO u w λa0 a1=>k (vI a0) a1):Cs 213 [vB u] w k:=rg (.q (.s (.q (.k .y)) .y)) func213 h
def IW(l:Sl)(h:Bs)(e f g:Int)(m:Wd)(n:Bool->Wp):Prop:=
 newS m (Br h e f g) 166 λo i=>∃a b c d,BQ i o a b c d/\Cs 290 [Sl.v l,(B4 a b c d)] i λp j=>∃k,p= .int .i64 k/\n (decide (0<=k)) j
def IW.go{a3 a2 u a0 a1 w k}(h:IW a3 a2 u a0 a1 w λa4 a5=>k (vB a4) a5):Cs 214 [Sl.v a3,(B4 a2 u a0 a1)] w k:=rg (.q .y) func214 h
def Ol(a:Sl)(b:Wd)(c:Sl->Wp):Prop:=
 ((0:Int)<=0/\0<=(a.len:Int)/\(a.len:Int)<=(a.len:Int)/\(a.len:Int)<=(a.cap:Int))/\c (Sl.mk (if(a.len:Int).toNat=0 then a.a else a.a.map (·.add (0*3))) ((a.len:Int).toNat - 0) ((a.len:Int).toNat - 0)) b
def Ol.go{u w k}(h:Ol u w λa0 a1=>k (Sl.v a0) a1):Cs 215 [Sl.v u] w k:=rg (.q .y) func215 h
def Hg(c d:Sl)(e:Wd)(f:Bool->Wp):Prop:=
 Cs 299 [Sl.v c,Sl.v d,(Value.func (.func 300) #[] #[])] e λg b=>∃a,g= .bool a/\f a b
def Hg.go{a b w k}(h:Hg a b w λu a0=>k (vB u) a0):Cs 217 [Sl.v a,Sl.v b] w k:=rg (.q .y) func217 h
def EX(b c:Sl)(i:Wd)(j:Int->Wp):Prop:=
 newS i [Sl.v b] 42 λk g=>newS g [Sl.v c] 73 λh a=>∃e,Ls a k e/\Cs 302 [Sl.v e,(Value.func (.func 303) #[] #[vP h])] a λl d=>∃f,l= .int .i64 f/\j f d
def EX.go{u a0 w k}(h:EX u a0 w λa1 a2=>k (vI a1) a2):Cs 218 [(.agg #[Sl.v u]),Sl.v a0] w k:=rg (.q .y) func218 h
def Lu(a8:Sl)(e:Value)(b1:Wd)(b0:Bool->Wp):Prop:=
 loop1 0 b1 λc a2 a3=>(If (c<(a8.len:Int)) (Dr a2 λu=>∃a7,Ix a8 c a7/\∃v i j k,BQ u (a7.add (c.toNat*4)) v i j k/\callV prog e [(B4 v i j k)] u λb2 a4=>∃x,b2= .string x/\Cs 84 [vT x] a4 λa9 d=>∃y,a9= .bool y/\bnd (!y) λ(a0:Bool)=>bnd (decide (0<c)) λ(f:Bool)=>∃z,Gx ((!a0)&&f) a8 (Aa (c - 1)) z/\∃l m n o,RY ((!a0)&&f) d (z.add ((Aa (c - 1)).toNat*4)) l m n o/\∃p,Gx ((!a0)&&f) a8 c p/\∃q r s t,RY ((!a0)&&f) d (p.add (c.toNat*4)) q r s t/\gCall ((!a0)&&f) (λ(g:Bs) (a:Wd)=>gCall ((!a0)&&f) (λ(h:Bs) (b:Wd)=>(Ib (a0||(f&&(!Ao g h))) (b0 false b) (a3 (Aa (c+1)) b))) (λa1=>callV prog e [(B4 q r s t)] a λa5 b=>∃h,a5= .string h/\a1 h b) (λa1=>a1 (bm #[]) a)) (λa1=>callV prog e [(B4 l m n o)] d λa6 a=>Ext d a/\∃g,a6= .string g/\a1 g a) (λa1=>a1 (bm #[]) d)) (b0 true a2))
def Lu.go{l u w k}(h:Lu l u w λa0 a1=>k (vB a0) a1):Cs 219 [Sl.v l,u] w k:=rg (.q (.s (.q (.b (.l [(8,4)] (.q (.s .x (.s (.b (.q (.q (.k .y)))) (.r []))))))) .y)) func219 h
def NP(a:Bs)(b c d:Int)(g:Wd)(h:Bs->Wp):Prop:=
 newS g (Br a b c d) 166 λi e=>∃f,Lt e i f/\h f e
def NP.go{u a0 a1 a2 w k}(h:NP u a0 a1 a2 w λa3 a4=>k (vT a3) a4):Cs 220 [(B4 u a0 a1 a2)] w k:=rg (.q .y) func220 h
def Lr(a2:Sl)(e:Value)(a5:Wd)(a4:Bool->Wp):Prop:=
 loop1 0 a5 λc v x=>(If (c<(a2.len:Int)) (Dr v λp=>∃a1,Ix a2 c a1/\∃i j,D2 p (a1.add (c.toNat*2)) i j/\callV prog e [(.agg #[vT i,vI j])] p λa6 y=>∃q,a6= .string q/\Cs 84 [vT q] y λa3 d=>∃r,a3= .bool r/\bnd (!r) λ(t:Bool)=>bnd (decide (0<c)) λ(f:Bool)=>∃s,Gx ((!t)&&f) a2 (Aa (c - 1)) s/\∃k l,RX ((!t)&&f) d (s.add ((Aa (c - 1)).toNat*2)) k l/\∃m,Gx ((!t)&&f) a2 c m/\∃n o,RX ((!t)&&f) d (m.add (c.toNat*2)) n o/\gCall ((!t)&&f) (λ(g:Bs) (a:Wd)=>gCall ((!t)&&f) (λ(h:Bs) (b:Wd)=>(Ib (t||(f&&(!Ao g h))) (a4 false b) (x (Aa (c+1)) b))) (λu=>callV prog e [(.agg #[vT n,vI o])] a λz b=>∃h,z= .string h/\u h b) (λu=>u (bm #[]) a)) (λu=>callV prog e [(.agg #[vT k,vI l])] d λa0 a=>Ext d a/\∃g,a0= .string g/\u g a) (λu=>u (bm #[]) d)) (a4 true v))
def Lr.go{l u w k}(h:Lr l u w λa0 a1=>k (vB a0) a1):Cs 221 [Sl.v l,u] w k:=rg (.q (.s (.q (.b (.l [(8,4)] (.q (.s .x (.s (.b (.q (.q (.k .y)))) (.r []))))))) .y)) func221 h
def NQ(a:Bs)(b:Int)(e:Wd)(f:Bs->Wp):Prop:=
 newS e [vT a,vI b] 168 λg c=>∃d,Lt c g d/\f d c
def NQ.go{u a0 w k}(h:NQ u a0 w λa1 a2=>k (vT a1) a2):Cs 222 [(.agg #[vT u,vI a0])] w k:=rg (.q .y) func222 h
def LX(g:Sl)(k:Value)(l:Wd)(j:Int->Wp):Prop:=
 loop1 0 l λa f h=>(If (a<(g.len:Int)) (∃i,Ix g a i/\∃b c,D2 f (i.add (a.toNat*2)) b c/\callV prog k [(.agg #[vT b,vI c])] f λm d=>∃e,m= .bool e/\(Ib e (j a d) (h (Aa (a+1)) d))) (j (-1) f))
def LX.go{u f w k}(h:LX u f w λa0 a1=>k (vI a0) a1):Cs 223 [Sl.v u,f] w k:=rg (.q (.s (.q (.b (.l [(8,4)] (.q (.s .x (.s (.b (.q (.q (.k .y)))) (.r []))))))) .y)) func223 h
def NR(b:Bs)(c:Int)(f:Addr)(g:Wd)(h:Bool->Wp):Prop:=
 newS g [vT b,vI c] 168 λi a=>∃d,Lt a i d/\∃e,Lt a f e/\h (Ai d e) a
def NR.go{u:Bs}{a0:Int}{c0:Addr}{w:Wd}{k:Value->Wp}(h:NR u a0 c0 w λa1 a2=>k (Value.bool a1) a2):callS prog 224 [(.agg #[.string u,vi a0]),(Value.pointer (some c0))] w k:=Cw (sk:=(.s (.r []) (.s (.r []) .o))) (args:= [sv (.agg #[.string u,vi a0]),sa c0]) func224 (Eq.mpr kR h)
def M4(a:Sl)(b:Bs)(j:Wd)(k:Sl->Wp):Prop:=
 semS prog (Instr.makeSlice 73 (vI 0) (vI (Aa ((a.len:Int)+1)))) j λl i=>∃h,l=Sl.v h/\appS prog 73 73 h (Sl.v a) i λc d=>newS d [vT b] 9 λm e=>appS prog 73 73 c (Sl.v (Sl.mk (some m) 1 1)) e λf g=>k f g
def M4.go{a0 u w k}(h:M4 a0 u w λa1 a2=>k (Sl.v a1) a2):Cs 225 [Sl.v a0,vT u] w k:=rg (.q (.q .y)) func225 h
def Le(a7:Option Addr)(e r:Int)(b1:Wd)(b0:Bool->Wp):Prop:=
 Dr b1 λf=>∃a4,a7=some a4/\∃s,Ls f a4 s/\∃a5,a7=some a5/\∃t,Ls f (a5.add 7) t/\∃a6,Ix t e a6/\∃i,Li f ((a6.add (e.toNat*9)).add 8) i/\∃u,Ix s i u/\∃j,Ls f ((u.add (i.toNat*6)).add 4) j/\loop1 0 f λd g a2=>(If (d<(j.len:Int)) (∃k,Ix j d k/\∃l m n o,BQ g (k.add (d.toNat*4)) l m n o/\G2 g λa8 z=>stw z a8 (Br l m n o) λh=>∃v,Lt h a8 v/\Cs 304 [.pointer a7,vI r,vT v] h λb2 a0=>∃p,b2= .int .i64 p/\Dr a0 λb=>bnd (decide (p<0)) λ(a1:Bool)=>∃x,Gn (!a1) a7 x/\∃q,Gs (!a1) b (x.add 7) q/\∃y,Gt (!a1) b a8 y/\gCall (!a1) (λ(c:Int) (a:Wd)=>(Ib (a1||(!(c==p))) (b0 false a) (a2 (Aa (d+1)) a))) (λa9=>Cs 140 [(.agg #[Sl.v q]),vI e,vT y] b λa3 a=>∃c,a3= .int .i64 c/\a9 c a) (λa9=>a9 0 b)) (b0 true g))
def Le.go{p a0 u w k}(h:Le p a0 u w λa1 a2=>k (vB a1) a2):Cs 226 (ME p a0 u) w k:=rg (.q (.s (.q (.b (.l [(28,4)] (.q (.s .x (.s (.b (.q (.q (.q (.k .y))))) (.r []))))))) .y)) func226 h
def Ln(b6:Option Addr)(l f:Int)(e3:Wd)(f6:Int->Wp):Prop:=
 ∃f2,b6=some f2/\∃b8,Ls e3 f2 b8/\∃f3,Ix b8 f f3/\∃v,Lt e3 (f3.add (f.toNat*6)) v/\∃f4,b6=some f4/\∃b9,Ls e3 (f4.add 7) b9/\∃c0,Ix b9 l c0/\∃d,Ls e3 (c0.add (l.toNat*9)) d/\join (λ(d7 m:Int) (e4:Wd)=>(If (0<=m) (f6 m e4) (f6 d7 e4))) λe5=>loop3 (-1) (-1) (d.len:Int) e3 λi a k r e6=>(If (0<=k) (join (λ(q o:Int) (d8:Wd)=>e6 q o (Aa (k - 1)) d8) λj=>Dr r λs=>∃c1,b6=some c1/\∃x,Ls s (c1.add 7) x/\((0:Int)<=k/\k<=(d.cap:Int))/\Cs 218 [(.agg #[Sl.v x]),(Sl.v (Sl.cut d 0 k.toNat 1))] s λf7 d9=>∃e,f7= .int .i64 e/\((0:Int)<=k/\k<=(d.cap:Int))/\Cs 117 [(Sl.v (Sl.cut d 0 k.toNat 1))] d9 λe7 e0=>∃c2,e7=Sl.v c2/\newS e0 [vT v] 9 λf8 e1=>appS prog 73 73 c2 (Sl.v (Sl.mk (some f8) 1 1)) e1 λb7 t=>∃c3,b6=some c3/\∃y,Ls t (c3.add 7) y/\Cs 218 [(.agg #[Sl.v y]),Sl.v b7] t λe8 u=>∃c4,e8= .int .i64 c4/\(If (0<=c4) (e5 i a u) (Cs 305 [.pointer b6,vI e,vT v] u λe9 c=>∃c5,e9= .bool c5/\(Ib c5 (j i a c) (∃c6,b6=some c6/\∃c7,Lp c (c6.add 6) c7/\(If (c7=none) (j e a c) (∃c8,b6=some c8/\∃c9,Lp c (c8.add 6) c9/\∃d0,c9=some d0/\∃z,Ls c d0 z/\Cs 218 [(.agg #[Sl.v z]),Sl.v b7] c λf0 e2=>∃n,f0= .int .i64 n/\Dr e2 λb=>bnd (decide (0<=n)) λ(p:Bool)=>∃d1,Gn p b6 d1/\∃d2,Gp p b (d1.add 6) d2/\∃d3,Gn p d2 d3/\∃d4,Gs p b d3 d4/\∃a0,Gx p d4 n a0/\∃a1 a2 a3 a4 a5 a6 a7,Ep p b ((a0.add (n.toNat*9)).add 1) a1 a2 a3 a4 a5 a6 a7/\∃d5,Gn p b6 d5/\∃d6,Gs p b (d5.add 1) d6/\∃a8,Gx p d6 f a8/\∃a9 b0 b1 b2 b3 b4 b5,Ep p b (a8.add (f.toNat*7)) a9 b0 b1 b2 b3 b4 b5/\gCall p (λ(g:Bool) (h:Wd)=>(Ib (p&&g) (j e e h) (j e a h))) (λf5=>Cs 136 [(A0 a1 a2 a3 a4 a5 a6 a7),(A0 a9 b0 b1 b2 b3 b4 b5)] b λf1 h=>∃g,f1= .bool g/\f5 g h) (λf5=>f5 false b)))))))) (e5 i a r))
def Ln.go{p u a0 w k}(h:Ln p u a0 w λa1 a2=>k (vI a1) a2):Cs 227 (ME p u a0) w k:=rg (.q (.z (.q (.q (.q (.s .o (.j [(8,4),(9,4)] (.q (.b (.l [(8,4),(9,4),(11,4)] (.s (.q .x) (.j [(8,4),(9,4)] (.b (.q (.q (.s (.q .x) (.s (.q .x) (.q (.s (.q .x) (.q (.q (.c (.r []) .o)))))))))) (.r [])))))) (.s (.q (.k .y)) .y)))))))) func227 h
def Lm(a8:Option Addr)(f c:Int)(e9:Wd)(f0:Int->Int->Wp):Prop:=
 ∃e6,a8=some e6/\∃b1,Ls e9 (e6.add 1) b1/\∃e7,Ix b1 c e7/\∃i j k l m n o,A9 e9 (e7.add (c.toNat*7)) i j k l m n o/\N68 e9 λf1 f2=>stw f2 f1 (A4 i j k l m n o) λd6=>join (λ(g:Sl) (d5:Wd)=>Dr d5 λa9=>∃e8,a8=some e8/\∃b2,Li a9 ((e8.add 2).add 3) b2/\Cx 32 [Sl.v g] a9 λf3 b0=>∃b3,f3= .string b3/\(If (b2<(b3.size:Int)) (f0 0 40 b0) (Dr b0 λb=>∃b4,a8=some b4/\∃b5,Ls b (b4.add 7) b5/\∃b6,a8=some b6/\∃b7,Li b ((b6.add 2).add 2) b7/\(If (b7<=(Aa ((b5.len:Int) - 1))) (f0 0 41 b) (Dr b λd=>∃b8,a8=some b8/\∃b9,Ls d (b8.add 7) b9/\∃p q r s t u v,A9 d f1 p q r s t u v/\Cx 118 [(A0 p q r s t u v)] d λd7 c6=>∃x y z a0 a1 a2 a3,d7=ML x y z a0 a1 a2 a3/\newS c6 (Eo g x y z a0 a1 a2 a3 c) 75 λd8 c7=>appS prog 40 40 b9 (Sl.v (Sl.mk (some d8) 1 1)) c7 λd9 c8=>∃c0,a8=some c0/\stw c8 (c0.add 7) [Sl.v d9] λh=>∃c1,a8=some c1/\∃c2,Ls h (c1.add 7) c2/\f0 (Aa ((c2.len:Int) - 1)) 0 h))))) λe0=>Dr d6 λa=>∃c3,a8=some c3/\∃c4,Ls a (c3.add 7) c4/\∃a4,Ix c4 f a4/\∃a5,Ls a (a4.add (f.toNat*9)) a5/\∃a6,Lt a f1 a6/\((Cx 117 [Sl.v a5] a λe1 c9=>∃c5,e1=Sl.v c5/\newS c9 [vT a6] 9 λe2 d0=>appS prog 73 73 c5 (Sl.v (Sl.mk (some e2) 1 1)) d0 λe3 d1=>e0 e3 d1)/\(newS a [vT a6] 9 λe4 d2=>Cx 117 [Sl.v a5] d2 λe5 d3=>∃e,e5=Sl.v e/\appS prog 73 73 e (Sl.v (Sl.mk (some e4) 1 1)) d3 λa7 d4=>e0 a7 d4))
def Lm.go{p u a0 w k}(h:Lm p u a0 w λa1 a2 a3=>k (Value.tuple #[vI a1,vI a2]) a3):Cs 228 (ME p u a0) w k:=rg (.q (.q (.j [(9,74)] (.r []) (.s (.b (.q (.c .y (.q (.k .y))))) (.q .y))))) func228 h
def Mi(a6:Sl)(a7:Wd)(a8:Sl->Wp):Prop:=
 loop2 Sl.nil 0 a7 λn a s y=>(If (a<(a6.len:Int)) (∃a2,Ix a6 a a2/\∃b c d e f g,G1 s (a2.add (a.toNat*6)) b c d e f g/\Sd s λa3 z=>stw z a3 (MD b c d e f g) λo=>∃h i j,As o a3 h i j/\Cs 271 [(Am h i j)] o λa9 p=>∃q v,a9=G7 q v/\∃k l m,As p (a3.add 3) k l m/\Cs 271 [(Am k l m)] p λa4 a0=>∃r x,a4=G7 r x/\newS a0 [vI q,vI r] 307 λa5 t=>appS prog 304 304 n (Sl.v (Sl.mk (some a5) 1 1)) t λa1 u=>y a1 (Aa (a+1)) u) (a8 n s))
def Mi.go{l w k}(h:Mi l w λu a0=>k (Sl.v u) a0):Cs 243 [Sl.v l] w k:=rg (.q (.q (.s (.q (.b (.l [(3,305),(12,4)] (.q (.s .x (.s (.b (.q (.q (.q (.r []))))) (.r []))))))) .y))) func243 h
def Gu(i:Int)(m:Wd)(l:Int->Int->Int->Bool->Wp):Prop:=
 N66 m λk j=>bnd (decide (i<0)) λ(n:Bool)=>(Ib (n||(decide (1000000000<=i))) (stw j k (AE 0 0 0) λg=>∃a b c,As g k a b c/\l a b c false g) (stw j k [(vI (Aa ((Aa (i.tdiv 1000)).tdiv 1000))),(vI (Int.tmod (Aa (i.tdiv 1000)) 1000)),(vI (Int.tmod i 1000))] λh=>∃d e f,As h k d e f/\l d e f true h))
def Gu.go{n w k}(h:Gu n w λu a0 a1 a2 a3=>k (Value.tuple #[(Am u a0 a1),vB a2]) a3):Cs 244 [vI n] w k:=rg (.q (.s (.q (.k .y)) .y)) func244 h
def I4(s:Int)(a:Value)(u:Wd)(t:Bool->Wp):Prop:=
 loop1 0 u λf l m=>(If (f<s) (callV prog a [vI f] l λv n=>∃h,v= .string h/\Cs 84 [vT h] n λq g=>∃i,q= .bool i/\bnd (!i) λ(p:Bool)=>bnd (decide (0<f)) λ(j:Bool)=>gCall ((!p)&&j) (λ(b:Bs) (c:Wd)=>gCall ((!p)&&j) (λ(d:Bs) (e:Wd)=>(Ib (p||(j&&(!Ao b d))) (t false e) (m (Aa (f+1)) e))) (λk=>callV prog a [vI f] c λo e=>∃d,o= .string d/\k d e) (λk=>k (bm #[]) c)) (λk=>callV prog a [(vI (Aa (f - 1)))] g λr c=>∃b,r= .string b/\k b c) (λk=>k (bm #[]) g)) (t (decide (s<=128)) l))
def I4.go{n u w k}(h:I4 n u w λa0 a1=>k (vB a0) a1):Cs 246 [vI n,u] w k:=rg (.q (.s (.q (.b (.l [(7,4)] (.q (.s .x (.s (.b (.q (.q (.k .y)))) (.r []))))))) .y)) func246 h
def Qg(f:Int)(d:Addr)(e:Wd)(g:Bs->Wp):Prop:=
 ∃a,Ls e (d.add 4) a/\∃b,Ix a f b/\∃c,Lt e (b.add (f.toNat*4)) c/\g c e
def Qg.go{i:Int}{c0:Addr}{w:Wd}{k:Value->Wp}(h:Qg i c0 w λu a0=>k (Value.string u) a0):callS prog 247 [vi i,(Value.pointer (some c0))] w k:=Cw (sk:=(.s (.r []) (.s (.r []) .o))) (args:= [sv (Value.int .i64 i),sa c0]) func247 (Eq.mpr kR h)
def Qh(f:Int)(d:Addr)(e:Wd)(g:Bs->Wp):Prop:=
 ∃a,Ls e (d.add 5) a/\∃b,Ix a f b/\∃c,Lt e (b.add (f.toNat*2)) c/\g c e
def Qh.go{i:Int}{c0:Addr}{w:Wd}{k:Value->Wp}(h:Qh i c0 w λu a0=>k (Value.string u) a0):callS prog 248 [vi i,(Value.pointer (some c0))] w k:=Cw (sk:=(.s (.r []) (.s (.r []) .o))) (args:= [sv (Value.int .i64 i),sa c0]) func248 (Eq.mpr kR h)
def FC(g h i:Int)(o:Wd)(n:Int->Bool->Wp):Prop:=
 newS o (AE g h i) 66 λm j=>∃b c d,As j m b c d/\Cs 104 [(Am b c d)] j λp a=>∃k,p= .bool k/\(Ib (!k) (n 0 false a) (∃l,Li a m l/\∃e,Li a (m.add 1) e/\∃f,Li a (m.add 2) f/\n (Aa ((Aa ((Aa ((Aa (l*1000))+e))*1000))+f)) true a))
def FC.go{u a0 a1 w k}(h:FC u a0 a1 w λa2 a3 a4=>k (Value.tuple #[vI a2,vB a3]) a4):Cs 271 [(Am u a0 a1)] w k:=rg (.q (.s (.q (.k .y)) .y)) func271 h
def Rq(a:Sl)(c:Int)(b:Value)(d:Wd)(e:Wp):Prop:=
 IU 343 344 a c b d e
def Rq.go{u n a0 w k}(h:Rq u n a0 w λa1=>k (Value.tuple #[]) a1):Cs 274 [Sl.v u,vI n,a0] w k:=rg (.q (.q (.s (.b (.l [(7,4),(8,4)] (.s (.q .x) (.b (.q (.q (.r []))))))) (.q (.b (.l [(6,4)] (.s (.q .x) (.b (.q (.s (.b (.l [(7,4),(8,4)] (.s (.q .x) (.b (.q (.q (.r []))))))) (.j [] (.q (.q (.c (.r []) .o))) (.r [])))))))))))) func274 h
def LZ(k:Sl)(o:Value)(p:Wd)(n:Int->Wp):Prop:=
 loop1 0 p λa j l=>(If (a<(k.len:Int)) (∃m,Ix k a m/\∃b c d e f g,G1 j (m.add (a.toNat*6)) b c d e f g/\callV prog o [(Xk b c d e f g)] j λq h=>∃i,q= .bool i/\(Ib i (n a h) (l (Aa (a+1)) h))) (n (-1) j))
def LZ.go{u f w k}(h:LZ u f w λa0 a1=>k (vI a0) a1):Cs 275 [Sl.v u,f] w k:=rg (.q (.s (.q (.b (.l [(8,4)] (.q (.s .x (.s (.b (.q (.q (.k .y)))) (.r []))))))) .y)) func275 h
def Ri(a:Sl)(b:Wd)(c:Sl->Wp):Prop:=
 ((0:Int)<=0/\0<=(a.len:Int)/\(a.len:Int)<=(a.len:Int)/\(a.len:Int)<=(a.cap:Int))/\c (Sl.mk (if(a.len:Int).toNat=0 then a.a else a.a.map (·.add (0*2))) ((a.len:Int).toNat - 0) ((a.len:Int).toNat - 0)) b
def Ri.go{u w k}(h:Ri u w λa0 a1=>k (Sl.v a0) a1):Cs 276 [Sl.v u] w k:=rg (.q .y) func276 h
def E6(d e f:Int)(k:Wd)(l:Int->Wp):Prop:=
 newS k (AE d e f) 66 λm g=>∃a b c,As g m a b c/\Cs 345 [(Am a b c)] g λn h=>∃i j,n=G7 i j/\l i h
def E6.go{u a0 a1 w k}(h:E6 u a0 a1 w λa2 a3=>k (vI a2) a3):Cs 277 [(Am u a0 a1)] w k:=rg (.q (.q .y)) func277 h
def Fv(i:Int)(s:Wd)(t:Bs->Wp):Prop:=
 (If (i<10) (newS s [(Value.int .u8 (IntKind.wrap .u8 (Aa (48+i))))] 5 λu l=>∃j,(Cz prog (Go.convert 157 9 (Sl.v (Sl.mk (some u) 1 1))) l (vT j))/\t j l) (join (λ(p:Bs) (k:Wd)=>t p k) λm=>Dr s λe=>((Cx 278 [(vI (Aa (i.tdiv 10)))] e λv n=>∃d,v= .string d/\newS n [(Value.int .u8 (IntKind.wrap .u8 (Aa (48+(Int.tmod i 10)))))] 5 λq f=>∃c,(Cz prog (Go.convert 157 9 (Sl.v (Sl.mk (some q) 1 1))) f (vT c))/\(((d.size+c.size:Nat):Int)<=Ak)/\m (d++c) f)/\(newS e [(Value.int .u8 (IntKind.wrap .u8 (Aa (48+(Int.tmod i 10)))))] 5 λr g=>∃b,(Cz prog (Go.convert 157 9 (Sl.v (Sl.mk (some r) 1 1))) g (vT b))/\Cx 278 [(vI (Aa (i.tdiv 10)))] g λo h=>∃a,o= .string a/\(((a.size+b.size:Nat):Int)<=Ak)/\m (a++b) h))))
def Fv.go{n w k}(h:Fv n w λu a0=>k (vT u) a0):Cs 278 [vI n] w k:=rg (.q (.s (.q (.k .y)) (.j [(2,10)] (.r []) .o))) func278 h
def Kq(b6:Sl)(d3:Wd)(d1:Bs->Wp):Prop:=
 Cs 196 [Sl.v b6] d3 λd5 c1=>∃b9,d5= .bool b9/\(Ib (!b9) (d1 (bm #[]) c1) ((If ((b6.len:Int)=0) (d1 (bm #[60,48,46,48,46,48]) c1) (loop2 (bm #[]) 0 c1 λf e g c5=>(If (e<(b6.len:Int)) (join (λ(c0:Bs) (c4:Wd)=>c5 c0 (Aa (e+1)) c4) λh=>join (λ(a:Bs) (b7:Wd)=>∃d0,Ix b6 e d0/\∃l m n,As b7 (d0.add (e.toNat*6)) l m n/\Cs 198 [(Am l m n)] b7 λd2 b8=>∃c,d2= .string c/\((((bm #[62,61]).size+c.size:Nat):Int)<=Ak)/\∃o,Ix b6 e o/\∃p q r,As b8 ((o.add (e.toNat*6)).add 3) p q r/\Cs 198 [(Am p q r)] b8 λc6 i=>∃d,c6= .string d/\((((bm #[60,61]).size+d.size:Nat):Int)<=Ak)/\∃s,Ix b6 e s/\∃t u v,As i (s.add (e.toNat*6)) t u v/\Cs 277 [(Am t u v)] i λc7 j=>∃x,c7= .int .i64 x/\∃y,Ix b6 e y/\∃z a0 a1,As j ((y.add (e.toNat*6)).add 3) z a0 a1/\Cs 277 [(Am z a0 a1)] j λc8 c2=>∃a2,c8= .int .i64 a2/\Dr c2 λb=>∃a3,Ix b6 e a3/\∃a4 a5 a6,As b (a3.add (e.toNat*6)) a4 a5 a6/\∃a7,Ix b6 e a7/\∃a8 a9 b0,As b ((a7.add (e.toNat*6)).add 3) a8 a9 b0/\(Ib ((a4==a8)&&((a5==a9)&&((a6==b0)&&true))) (∃b1,Ix b6 e b1/\∃b2 b3 b4,As b (b1.add (e.toNat*6)) b2 b3 b4/\Cs 198 [(Am b2 b3 b4)] b λc9 c3=>∃b5,c9= .string b5/\(((a.size+b5.size:Nat):Int)<=Ak)/\h (a++b5) c3) (bnd (x==0) λ(d4:Bool)=>(Ib (d4&&(a2==999999999)) ((((a.size+(bm #[42]).size:Nat):Int)<=Ak)/\h (a++(bm #[42])) b) ((If (x=0) ((((a.size+((bm #[60,61])++d).size:Nat):Int)<=Ak)/\h (a++((bm #[60,61])++d)) b) ((If (a2=999999999) ((((a.size+((bm #[62,61])++c).size:Nat):Int)<=Ak)/\h (a++((bm #[62,61])++c)) b) ((((a.size+((bm #[62,61])++c).size:Nat):Int)<=Ak)/\((((a++((bm #[62,61])++c)).size+(bm #[32]).size:Nat):Int)<=Ak)/\(((((a++((bm #[62,61])++c))++(bm #[32])).size+((bm #[60,61])++d).size:Nat):Int)<=Ak)/\h (((a++((bm #[62,61])++c))++(bm #[32]))++((bm #[60,61])++d)) b))))))))) λk=>(If (0<e) ((((f.size+(bm #[32,124,124,32]).size:Nat):Int)<=Ak)/\k (f++(bm #[32,124,124,32])) g) (k f g))) (d1 f g))))))
def Kq.go{l w k}(h:Kq l w λu a0=>k (vT u) a0):Cs 279 [Sl.v l] w k:=rg (.q (.s (.q (.k .y)) (.s (.q (.k .y)) (.q (.s (.q (.b (.l [(3,10),(4,4)] (.s (.q .x) (.j [(3,10)] (.b (.j [(3,10)] (.q (.c (.r []) .o)) (.q (.q (.q (.q (.b (.q (.c (.r []) (.q (.c (.r []) (.q (.c (.r []) (.q (.c (.r []) (.r [])))))))))))))))) (.r [])))))) .y))))) func279 h
def Mk(b:Bs)(e0:Wd)(a5:Int->Int->Bool->Wp):Prop:=
 MH e0 λe d3=>(If (b=(bm #[42])) (stw d3 e [vI 0,vI 999999999] λc6=>∃b7 b8,C1 c6 e b7 b8/\a5 b7 b8 true c6) (Cs 159 [vT b,(vT (bm #[60,62,61,94,126]))] d3 λe1 d4=>∃d,e1= .string d/\Cs 347 [vT d] d4 λd9 d5=>∃b9 c0 c1 c2,d9=FI b9 c0 c1 c2/\N66 d5 λa4 d6=>stw d6 a4 (AE b9 c0 c1) λc7=>∃c3 c4 c5,As c7 a4 c3 c4 c5/\Cs 271 [(Am c3 c4 c5)] c7 λd7 f=>∃c d1,d7=G7 c d1/\∃a3,Li f (a4.add 2) a3/\∃c8,Li f (a4.add 1) c8/\(Ib (!c2) (stw f e [vI 0,vI 0] λa6=>∃g h,C1 a6 e g h/\a5 g h false a6) (((0:Int)<=(Aa ((b.size:Int) - (d.size:Int)))/\(Aa ((b.size:Int) - (d.size:Int)))<=(b.size:Int))/\join (λ(d2:Bool) (a:Wd)=>(Ib d2 (stw a e [vI c,vI c] λa7=>∃i j,C1 a7 e i j/\a5 i j true a7) ((If ((b.extract 0 (Aa ((b.size:Int) - (d.size:Int))).toNat)=(bm #[60])) (stw a e [vI 0,(vI (Aa (c - 1)))] λa8=>∃k l,C1 a8 e k l/\a5 k l true a8) ((If ((b.extract 0 (Aa ((b.size:Int) - (d.size:Int))).toNat)=(bm #[60,61])) (stw a e [vI 0,vI c] λa9=>∃m n,C1 a9 e m n/\a5 m n true a9) ((If ((b.extract 0 (Aa ((b.size:Int) - (d.size:Int))).toNat)=(bm #[62])) (stw a e [(vI (Aa (c+1))),vI 999999999] λb0=>∃o p,C1 b0 e o p/\a5 o p true b0) ((If ((b.extract 0 (Aa ((b.size:Int) - (d.size:Int))).toNat)=(bm #[62,61])) (stw a e [vI c,vI 999999999] λb1=>∃q r,C1 b1 e q r/\a5 q r true b1) ((If ((b.extract 0 (Aa ((b.size:Int) - (d.size:Int))).toNat)=(bm #[126])) (stw a e [vI c,(vI (Aa ((Aa (c - a3))+999)))] λb2=>∃s t,C1 b2 e s t/\a5 s t true b2) ((If ((b.extract 0 (Aa ((b.size:Int) - (d.size:Int))).toNat)=(bm #[94])) (∃c9,Li a a4 c9/\(If (0<c9) (stw a e [vI c,(vI (Aa ((Aa ((Aa (c - a3))+999))+(Aa ((Aa (999 - c8))*1000)))))] λb3=>∃u v,C1 b3 e u v/\a5 u v true b3) (∃d0,Li a (a4.add 1) d0/\(If (0<d0) (stw a e [vI c,(vI (Aa ((Aa (c - a3))+999)))] λb4=>∃x y,C1 b4 e x y/\a5 x y true b4) (stw a e [vI c,vI c] λb5=>∃z a0,C1 b5 e z a0/\a5 z a0 true b5))))) (stw a e [vI 0,vI 0] λb6=>∃a1 a2,C1 b6 e a1 a2/\a5 a1 a2 false b6))))))))))))))) λd8=>(If ((b.extract 0 (Aa ((b.size:Int) - (d.size:Int))).toNat)=(bm #[])) (d8 (Ai (b.extract 0 (Aa ((b.size:Int) - (d.size:Int))).toNat) (bm #[])) f) (d8 (Ai (b.extract 0 (Aa ((b.size:Int) - (d.size:Int))).toNat) (bm #[61])) f))))))
def Mk.go{u w k}(h:Mk u w λa0 a1 a2 a3=>k (Value.tuple #[(.agg #[vI a0,vI a1]),vB a2]) a3):Cs 281 [vT u] w k:=rg (.q (.s (.q (.k .y)) (.q (.q (.q (.q (.q (.s (.q (.k .y)) (.s (.q (.b (.j [(47,5)] (.q (.c .o (.r []))) (.c .y (.q (.c .y (.q (.c .y (.q (.c .y (.q (.c .y (.q (.c .y (.q (.c (.s (.b (.q (.c .y (.q (.k .y))))) .y) .o)))))))))))))))) .y))))))))) func281 h
def Oq(c:Sl)(d:Wd)(e:Sl->Int->Wp):Prop:=
 (If (64<(c.len:Int)) (e Sl.nil 26 d) (Cs 348 [Sl.v c] d λf b=>∃a,f=Sl.v a/\e a 0 b))
def Oq.go{l w k}(h:Oq l w λu a0 a1=>k (Value.tuple #[Sl.v u,vI a0]) a1):Cs 282 [Sl.v l] w k:=rg (.q (.s (.q (.k .y)) .y)) func282 h
def Mg(b0:Sl)(b1:Wd)(b2:Sl->Wp):Prop:=
 callS prog 350 [Sl.v b0] b1 λb3 a8=>∃v,b3=v/\Cs 349 [v,(Value.func (.func 351) #[] #[])] a8 λa9 y=>∃u,a9=Sl.v u/\loop2 Sl.nil 0 y λa h i z=>(If (h<(u.len:Int)) (join (λ(q:Sl) (x:Wd)=>z q (Aa (h+1)) x) λa0=>∃a5,Ix u h a5/\∃c d,C1 i (a5.add (h.toNat*2)) c d/\MH i λa7 a1=>stw a1 a7 [vI c,vI d] λa2=>Dr a2 λb=>bnd (decide (0<=(Aa ((a.len:Int) - 1)))) λ(a6:Bool)=>∃m,Gi a6 b a7 m/\∃j,Gx a6 a (Aa ((a.len:Int) - 1)) j/\∃n,Gi a6 b ((j.add ((Aa ((a.len:Int) - 1)).toNat*2)).add 1) n/\(Ib (a6&&(decide (m<=(Aa (n+1))))) (Dr b λg=>∃k,Ix a (Aa ((a.len:Int) - 1)) k/\∃o,Li g ((k.add ((Aa ((a.len:Int) - 1)).toNat*2)).add 1) o/\∃p,Li g (a7.add 1) p/\∃l,Ix a (Aa ((a.len:Int) - 1)) l/\stw g ((l.add ((Aa ((a.len:Int) - 1)).toNat*2)).add 1) [(vI (PV o p))] λr=>a0 a r) (∃e f,C1 b a7 e f/\newS b [vI e,vI f] 307 λa3 s=>appS prog 304 304 a (Sl.v (Sl.mk (some a3) 1 1)) s λa4 t=>a0 a4 t))) (b2 a i))
def Mg.go{l w k}(h:Mg l w λu a0=>k (Sl.v u) a0):Cs 283 [Sl.v l] w k:=rg (.q (.q (.q (.s (.q (.b (.l [(3,305),(12,4)] (.q (.s .x (.j [(3,305)] (.b (.q (.q (.q (.c (.r []) (.r [])))))) (.r []))))))) .y)))) func283 h
def Kk(l:Bs)(m n o:Int)(p:Bs)(q r s:Int)(a6:Wd)(a7:Int->Wp):Prop:=
 newS a6 (Br l m n o) 166 λa5 a3=>newS a3 (Br p q r s) 166 λt u=>Dr u λa=>∃a0,Lt a a5 a0/\∃a1,Lt a t a1/\∃b c d,As a (a5.add 1) b c d/\∃e f g,As a (t.add 1) e f g/\Cx 69 [vT a0,vT a1] a λa8 v=>∃a2,a8= .int .i64 a2/\Cs 186 [(Am b c d),(Am e f g)] v λa4 x=>∃h,a4= .int .i64 h/\newS x [vI a2,vI h] 3 λy j=>Cs 90 [(Sl.v (Sl.mk (some y) 2 2))] j λz k=>∃i,z= .int .i64 i/\a7 i k
def Kk.go{u a0 a1 a2 a3 a4 a5 a6 w k}(h:Kk u a0 a1 a2 a3 a4 a5 a6 w λa7 a8=>k (vI a7) a8):Cs 284 [(B4 u a0 a1 a2),(B4 a3 a4 a5 a6)] w k:=rg (.q .y) func284 h
def IX(g:Sl)(k:Value)(l:Wd)(j:Int->Wp):Prop:=
 loop1 0 l λa f h=>(If (a<(g.len:Int)) (∃i,Ix g a i/\∃d b,Bg f (i.add (a.toNat*2)) d b/\callV prog k [(.agg #[vT d,Sl.v b])] f λm c=>∃e,m= .bool e/\(Ib e (j a c) (h (Aa (a+1)) c))) (j (-1) f))
def IX.go{u f w k}(h:IX u f w λa0 a1=>k (vI a0) a1):Cs 285 [Sl.v u,f] w k:=rg (.q (.s (.q (.b (.l [(8,4)] (.q (.s .x (.s (.b (.q (.q (.k .y)))) (.r []))))))) .y)) func285 h
def Ma(h:Sl)(l:Value)(m:Wd)(k:Int->Wp):Prop:=
 loop1 0 m λa g i=>(If (a<(h.len:Int)) (∃j,Ix h a j/\∃b c d,As g (j.add (a.toNat*3)) b c d/\callV prog l [(Am b c d)] g λn e=>∃f,n= .bool f/\(Ib f (k a e) (i (Aa (a+1)) e))) (k (-1) g))
def Ma.go{u f w k}(h:Ma u f w λa0 a1=>k (vI a0) a1):Cs 286 [Sl.v u,f] w k:=rg (.q (.s (.q (.b (.l [(8,4)] (.q (.s .x (.s (.b (.q (.q (.k .y)))) (.r []))))))) .y)) func286 h
def JB(h i j k l m:Int)(r:Wd)(s:Int->Wp):Prop:=
 newS r (AE h i j) 66 λt p=>newS p (AE k l m) 66 λq a=>∃b c d,As a q b c d/\∃e f g,As a t e f g/\Cs 186 [(Am b c d),(Am e f g)] a λu n=>∃o,u= .int .i64 o/\s o n
def JB.go{u a0 a1 a2 a3 a4 w k}(h:JB u a0 a1 a2 a3 a4 w λa5 a6=>k (vI a5) a6):Cs 288 [(Am u a0 a1),(Am a2 a3 a4)] w k:=rg (.q .y) func288 h
def Rp(a:Sl)(c:Int)(b:Value)(d:Wd)(e:Wp):Prop:=
 IU 353 354 a c b d e
def Rp.go{u n a0 w k}(h:Rp u n a0 w λa1=>k (Value.tuple #[]) a1):Cs 289 [Sl.v u,vI n,a0] w k:=rg (.q (.q (.s (.b (.l [(7,4),(8,4)] (.s (.q .x) (.b (.q (.q (.r []))))))) (.q (.b (.l [(6,4)] (.s (.q .x) (.b (.q (.s (.b (.l [(7,4),(8,4)] (.s (.q .x) (.b (.q (.q (.r []))))))) (.j [] (.q (.q (.c (.r []) .o))) (.r [])))))))))))) func289 h
def Mc(o:Sl)(p:Bs)(l m n:Int)(u:Wd)(t:Int->Wp):Prop:=
 newS u (Br p l m n) 166 λv s=>loop1 0 s λb j q=>(If (b<(o.len:Int)) (Dr j λa=>∃c d e f,BQ a v c d e f/\∃r,Ix o b r/\∃k g h i,BQ a (r.add (b.toNat*4)) k g h i/\(Ib ((Ai c k)&&(((d==g)&&((e==h)&&((f==i)&&true)))&&true)) (t b a) (q (Aa (b+1)) a))) (t (-1) j))
def Mc.go{a3 a2 u a0 a1 w k}(h:Mc a3 a2 u a0 a1 w λa4 a5=>k (vI a4) a5):Cs 290 [Sl.v a3,(B4 a2 u a0 a1)] w k:=rg (.q (.s (.q (.b (.l [(8,4)] (.q (.s .x (.s (.b (.q (.q (.k .y)))) (.r []))))))) .y)) func290 h
def On(o q:Sl)(x:Value)(z:Wd)(y:Bool->Wp):Prop:=
 (If (¬(o.len:Int)=(q.len:Int)) (y false z) (loop1 0 z λa p r=>(If (a<(o.len:Int)) (∃v,Ix o a v/\∃d e,Bg p (v.add (a.toNat*2)) d e/\Cr p λa0 s=>stw s a0 [vT d,Sl.v e] λl=>∃m,Ix q a m/\∃f g,Bg l (m.add (a.toNat*2)) f g/\Cr l λt u=>stw u t [vT f,Sl.v g] λb=>∃h i,Bg b a0 h i/\∃j k,Bg b t j k/\callV prog x [(.agg #[vT h,Sl.v i]),(.agg #[vT j,Sl.v k])] b λa1 c=>∃n,a1= .bool n/\(Ib (!n) (y false c) (r (Aa (a+1)) c))) (y true p))))
def On.go{s1 u a0 w k}(h:On s1 u a0 w λa1 a2=>k (vB a1) a2):Cs 299 [Sl.v s1,Sl.v u,a0] w k:=rg (.q (.s (.q (.k .y)) (.s (.q (.b (.l [(17,4)] (.q (.s .x (.s (.b (.q (.q (.q (.k .y))))) (.r []))))))) .y))) func299 h
def La(f:Bs)(g:Sl)(h:Bs)(i:Sl)(q:Wd)(r:Bool->Wp):Prop:=
 newS q [vT f,Sl.v g] 96 λp n=>newS n [vT h,Sl.v i] 96 λj a=>∃k,Lt a p k/\∃l,Lt a j l/\bnd (Ai k l) λ(m:Bool)=>∃d,Gs m a (p.add 1) d/\∃e,Gs m a (j.add 1) e/\gCall m (λ(b:Bool) (c:Wd)=>r (m&&b) c) (λo=>Cs 301 [Sl.v d,Sl.v e] a λs c=>∃b,s= .bool b/\o b c) (λo=>o false a)
def La.go{u a0 a1 a2 w k}(h:La u a0 a1 a2 w λa3 a4=>k (vB a3) a4):Cs 300 [(.agg #[vT u,Sl.v a0]),(.agg #[vT a1,Sl.v a2])] w k:=rg (.q .y) func300 h
def LR(p q:Sl)(v:Wd)(u:Bool->Wp):Prop:=
 (If (¬(p.len:Int)=(q.len:Int)) (u false v) (loop1 0 v λa r s=>(If (a<(p.len:Int)) (Dr r λb=>∃t,Ix p a t/\∃c d e f g h,G1 b (t.add (a.toNat*6)) c d e f g h/\∃o,Ix q a o/\∃i j k l m n,G1 b (o.add (a.toNat*6)) i j k l m n/\(Ib (!(((c==i)&&((d==j)&&((e==k)&&true)))&&(((f==l)&&((g==m)&&((h==n)&&true)))&&true))) (u false b) (s (Aa (a+1)) b))) (u true r))))
def LR.go{s1 u w k}(h:LR s1 u w λa0 a1=>k (vB a0) a1):Cs 301 [Sl.v s1,Sl.v u] w k:=rg (.q (.s (.q (.k .y)) (.s (.q (.b (.l [(13,4)] (.q (.s .x (.s (.b (.q (.q (.k .y)))) (.r []))))))) .y))) func301 h
def LW(n:Sl)(r:Value)(s:Wd)(q:Int->Wp):Prop:=
 loop1 0 s λa m o=>(If (a<(n.len:Int)) (∃p,Ix n a p/\∃b c d e f g h i j,H8 m (p.add (a.toNat*9)) b c d e f g h i j/\callV prog r [(OA b c d e f g h i j)] m λt k=>∃l,t= .bool l/\(Ib l (q a k) (o (Aa (a+1)) k))) (q (-1) m))
def LW.go{u f w k}(h:LW u f w λa0 a1=>k (vI a0) a1):Cs 302 [Sl.v u,f] w k:=rg (.q (.s (.q (.b (.l [(8,4)] (.q (.s .x (.s (.b (.q (.q (.k .y)))) (.r []))))))) .y)) func302 h
def Ow(a:Sl)(b:Bs)(c d e:Int)(f g h:Sl)(i:Int)(o:Addr)(p:Wd)(q:Bool->Wp):Prop:=
 newS p (Eo a b c d e f g h i) 75 λr j=>∃l,Ls j r l/\∃m,Ls j o m/\Cs 86 [Sl.v l,Sl.v m] j λs k=>∃n,s= .bool n/\q n k
def Ow.go{u:Sl}{a0:Bs}{a1 a2 a3:Int}{a4 a5 a6:Sl}{a7:Int}{c0:Addr}{w:Wd}{k:Value->Wp}(h:Ow u a0 a1 a2 a3 a4 a5 a6 a7 c0 w λa8 a9=>k (Value.bool a8) a9):callS prog 303 [(.agg #[Sl.v u, .string a0,vi a1,vi a2,vi a3,Sl.v a4,Sl.v a5,Sl.v a6,vi a7]),(Value.pointer (some c0))] w k:=Cw (sk:=(.s (.r []) (.s (.r []) .o))) (args:= [sv (.agg #[Sl.v u, .string a0,vi a1,vi a2,vi a3,Sl.v a4,Sl.v a5,Sl.v a6,vi a7]),sa c0]) func303 (Eq.mpr kR h)
def Lj(u:Option Addr)(g:Int)(h:Bs)(r:Wd)(s:Int->Wp):Prop:=
 ∃o,u=some o/\∃f,Ls r (o.add 8) f/\loop1 0 r λe l m=>(If (e<(f.len:Int)) (∃p,Ix f e p/\∃b a d,RZ l (p.add (e.toNat*3)) b a d/\Se l λq n=>stw n q (OC b a d) λc=>∃i,Li c q i/\bnd (i==g) λ(t:Bool)=>∃j,Gt t c (q.add 1) j/\(Ib (t&&(Ai j h)) (∃k,Li c (q.add 2) k/\s k c) (m (Aa (e+1)) c))) (s (-1) l))
def Lj.go{p u a0 w k}(h:Lj p u a0 w λa1 a2=>k (vI a1) a2):Cs 304 (RR p u a0) w k:=rg (.q (.s (.q (.b (.l [(14,4)] (.q (.s .x (.s (.b (.q (.q (.k .y)))) (.r []))))))) .y)) func304 h
def Lo(a3:Option Addr)(g:Int)(m:Bs)(a4:Wd)(a8:Bool->Wp):Prop:=
 ∃a0,a3=some a0/\∃n,Ls a4 (a0.add 7) n/\∃a1,Ix n g a1/\∃o,Ls a4 (a1.add (g.toNat*9)) o/\∃a2,a3=some a2/\∃j,Ls a4 (a2.add 8) j/\loop1 0 a4 λi v y=>(If (i<(j.len:Int)) (∃p,Ix j i p/\∃c b f,RZ v (p.add (i.toNat*3)) c b f/\Se v λa5 z=>stw z a5 (OC c b f) λx=>Dr x λe=>∃q,Lt e (a5.add 1) q/\bnd (Ai q m) λ(a6:Bool)=>∃r,Gi a6 e a5 r/\gCall a6 (λ(h:Bool) (a:Wd)=>bnd (a6&&h) λ(d:Bool)=>∃s,Gn d a3 s/\∃t,Gs d a (s.add 7) t/\∃k,Gi d a (a5.add 2) k/\∃l,Gx d t k l/\∃u,Gs d a (l.add (k.toNat*9)) u/\(Ib (d&&(decide ((u.len:Int)<=(o.len:Int)))) (a8 true a) (y (Aa (i+1)) a))) (λa7=>Cs 358 [.pointer a3,vI r,vI g] e λa9 a=>∃h,a9= .bool h/\a7 h a) (λa7=>a7 false e)) (a8 false v))
def Lo.go{p a0 u w k}(h:Lo p a0 u w λa1 a2=>k (vB a1) a2):Cs 305 (RR p a0 u) w k:=rg (.q (.q (.s (.q (.b (.l [(25,4)] (.q (.s .x (.s (.b (.q (.q (.k .y)))) (.r []))))))) .y))) func305 h
def Rm(a:Sl)(c d:Int)(b:Value)(e:Wd)(f:Wp):Prop:=
 IQ Fb a c d b e f
def Rm.go{u a b a0 w k}(h:Rm u a b a0 w λa1=>k (Value.tuple #[]) a1):Cs 343 [Sl.v u,vI a,vI b,a0] w k:=rg (.q (.b (.l [(8,4)] (.s (.q .x) (.s (.b (.q (.b (.l [(9,4)] (.s (.q .x) (.s (.b (.r [])) (.r []))))))) (.r [])))))) func343 h
def Rv(a:Sl)(c d e:Int)(b:Value)(f:Wd)(g:Wp):Prop:=
 LB Fb 344 378 a c d e b f g
def Rv.go{u a m b a0 w k}(h:Rv u a m b a0 w λa1=>k (Value.tuple #[]) a1):Cs 344 [Sl.v u,vI a,vI m,vI b,a0] w k:=rg (.s (.q (.c (.q (.q (.s (.b (.l [(10,4),(11,4)] (.s (.q .x) (.b (.q (.q (.c (.r []) (.r [])))))))) (.s (.q (.b (.l [(13,4)] (.s (.q .x) (.s (.b (.r [])) (.r [])))))) .o)))) .o)) (.s (.q (.c (.q (.q (.s (.b (.l [(14,4),(15,4)] (.s (.q .x) (.b (.q (.q (.c (.r []) (.r [])))))))) (.s (.q (.b (.l [(17,4)] (.s (.q .x) (.s (.b (.r [])) (.r [])))))) .o)))) .o)) (.q (.q (.q (.j [(20,4),(21,4)] (.q (.c (.q (.r [])) (.q (.r [])))) (.q (.s (.b (.l [(20,4),(21,4)] (.s (.q .x) (.b (.q (.q (.c (.r []) (.r [])))))))) (.q (.j [] (.q (.c (.r []) .o)) (.j [] (.q (.c (.r []) .o)) (.q (.c (.r []) .o))))))))))))) func344 h
def Ko(g h i:Int)(o:Wd)(n:Int->Bool->Wp):Prop:=
 newS o (AE g h i) 66 λm j=>∃b c d,As j m b c d/\Cs 109 [(Am b c d)] j λp a=>∃k,p= .bool k/\(Ib (!k) (n 0 false a) (∃l,Li a m l/\∃e,Li a (m.add 1) e/\∃f,Li a (m.add 2) f/\n (Aa ((Aa ((Aa ((Aa (l*1000))+e))*1000))+f)) true a))
def Ko.go{u a0 a1 w k}(h:Ko u a0 a1 w λa2 a3 a4=>k (Value.tuple #[vI a2,vB a3]) a4):Cs 345 [(Am u a0 a1)] w k:=rg (.q (.s (.q (.k .y)) .y)) func345 h
def Mj(b4:Sl)(b5:Wd)(b6:Sl->Wp):Prop:=
 loop2 Sl.nil 0 b5 λq d x a3=>(If (d<(b4.len:Int)) (∃b2,Ix b4 d b2/\∃a b,C1 x (b2.add (d.toNat*2)) a b/\MH x λb3 a4=>stw a4 b3 [vI a,vI b] λr=>∃u,Li r b3 u/\Cs 244 [vI u] r λb7 a5=>∃e f g a1,b7=FI e f g a1/\N66 a5 λa6 a7=>stw a7 a6 (AE e f g) λs=>∃v,Li s (b3.add 1) v/\Cs 244 [vI v] s λa8 a9=>∃h i j a2,a8=FI h i j a2/\N66 a9 λt y=>stw y t (AE h i j) λc=>∃k l m,As c a6 k l m/\∃n o p,As c t n o p/\newS c (MD k l m n o p) 233 λb0 z=>appS prog 94 94 q (Sl.v (Sl.mk (some b0) 1 1)) z λb1 a0=>a3 b1 (Aa (d+1)) a0) (b6 q x))
def Mj.go{l w k}(h:Mj l w λu a0=>k (Sl.v u) a0):Cs 348 [Sl.v l] w k:=rg (.q (.q (.s (.q (.b (.l [(3,95),(12,4)] (.q (.s .x (.s (.b (.q (.q (.q (.r []))))) (.r []))))))) .y))) func348 h
def Me(b c:Value)(g:Wd)(h:Sl->Wp):Prop:=
 Cs 383 [b] g λi e=>∃a,i=Sl.v a/\Cs 384 [Sl.v a,c] e λf d=>f= .tuple #[]/\h a d
def Me.go{u a0 w k}(h:Me u a0 w λa1 a2=>k (Sl.v a1) a2):Cs 349 [u,a0] w k:=rg (.q (.q (.q .y))) func349 h
def Oo(a:Sl)(c:Wd)(d:Value->Wp):Prop:=
 newS c [Sl.v a] 304 λe b=>d (Value.func (.func 385) #[] #[vP e]) b
def Oo.go{u w k}(h:Oo u w λa0 a1=>k a0 a1):Cs 350 [Sl.v u] w k:=rg (.q .y) func350 h
def Mh(b c d e:Int)(j:Wd)(k:Int->Wp):Prop:=
 newS j [vI b,vI c] 307 λl h=>newS h [vI d,vI e] 307 λi a=>∃f,Li a l f/\∃g,Li a i g/\k (Aa (f - g)) a
def Mh.go{u a0 a1 a2 w k}(h:Mh u a0 a1 a2 w λa3 a4=>k (vI a3) a4):Cs 351 [(.agg #[vI u,vI a0]),(.agg #[vI a1,vI a2])] w k:=rg (.q .y) func351 h
def Rl(a:Sl)(c d:Int)(b:Value)(e:Wd)(f:Wp):Prop:=
 IQ AE a c d b e f
def Rl.go{u a b a0 w k}(h:Rl u a b a0 w λa1=>k (Value.tuple #[]) a1):Cs 353 [Sl.v u,vI a,vI b,a0] w k:=rg (.q (.b (.l [(8,4)] (.s (.q .x) (.s (.b (.q (.b (.l [(9,4)] (.s (.q .x) (.s (.b (.r [])) (.r []))))))) (.r [])))))) func353 h
def Ru(a:Sl)(c d e:Int)(b:Value)(f:Wd)(g:Wp):Prop:=
 LB AE 354 393 a c d e b f g
def Ru.go{u a m b a0 w k}(h:Ru u a m b a0 w λa1=>k (Value.tuple #[]) a1):Cs 354 [Sl.v u,vI a,vI m,vI b,a0] w k:=rg (.s (.q (.c (.q (.q (.s (.b (.l [(10,4),(11,4)] (.s (.q .x) (.b (.q (.q (.c (.r []) (.r [])))))))) (.s (.q (.b (.l [(13,4)] (.s (.q .x) (.s (.b (.r [])) (.r [])))))) .o)))) .o)) (.s (.q (.c (.q (.q (.s (.b (.l [(14,4),(15,4)] (.s (.q .x) (.b (.q (.q (.c (.r []) (.r [])))))))) (.s (.q (.b (.l [(17,4)] (.s (.q .x) (.s (.b (.r [])) (.r [])))))) .o)))) .o)) (.q (.q (.q (.j [(20,4),(21,4)] (.q (.c (.q (.r [])) (.q (.r [])))) (.q (.s (.b (.l [(20,4),(21,4)] (.s (.q .x) (.b (.q (.q (.c (.r []) (.r [])))))))) (.q (.j [] (.q (.c (.r []) .o)) (.j [] (.q (.c (.r []) .o)) (.q (.c (.r []) .o))))))))))))) func354 h
def Lq(p:Option Addr)(g f:Int)(q:Wd)(r:Bool->Wp):Prop:=
 Dr q λe=>∃k,p=some k/\∃h,Ls e (k.add 7) h/\∃l,Ix h g l/\∃d,Ls e (l.add (g.toNat*9)) d/\∃m,p=some m/\∃i,Ls e (m.add 7) i/\∃j,Ix i f j/\∃a,Ls e (j.add (f.toNat*9)) a/\bnd (decide ((a.len:Int)<=(d.len:Int))) λ(n:Bool)=>BG n ((0:Int)<=(a.len:Int)/\(a.len:Int)<=(d.cap:Int))/\gCall n (λ(c:Bool) (b:Wd)=>r (n&&c) b) (λo=>Cs 86 [(Sl.v (Sl.cut d 0 ((a.len:Int).toNat) 1)),Sl.v a] e λs b=>∃c,s= .bool c/\o c b) (λo=>o false e)
def Lq.go{p a0 u w k}(h:Lq p a0 u w λa1 a2=>k (vB a1) a2):Cs 358 (ME p a0 u) w k:=rg (.q (.q .y)) func358 h
def Ro(a:Sl)(c d e:Int)(b:Value)(f:Wd)(g:Wp):Prop:=
 L9 405 a c d e b f g
def Ro.go{u a m b a0 w k}(h:Ro u a m b a0 w λa1=>k (Value.tuple #[]) a1):Cs 378 [Sl.v u,vI a,vI m,vI b,a0] w k:=rg (.q (.q (.s (.b (.l [(10,4),(11,4)] (.s (.q .x) (.b (.q (.c (.q (.r [])) (.q (.r [])))))))) (.r [])))) func378 h
def LH(a:Value)(d:Wd)(e:Sl->Wp):Prop:=
 Cs 410 [(Sl.v Sl.nil),a] d λf c=>∃b,f=Sl.v b/\e b c
def LH.go{u w k}(h:LH u w λa0 a1=>k (Sl.v a0) a1):Cs 383 [u] w k:=rg (.q .y) func383 h
def Rn(a:Sl)(c d e:Int)(b:Value)(f:Wd)(g:Wp):Prop:=
 L9 415 a c d e b f g
def Rn.go{u a m b a0 w k}(h:Rn u a m b a0 w λa1=>k (Value.tuple #[]) a1):Cs 393 [Sl.v u,vI a,vI m,vI b,a0] w k:=rg (.q (.q (.s (.b (.l [(10,4),(11,4)] (.s (.q .x) (.b (.q (.c (.q (.r [])) (.q (.r [])))))))) (.r [])))) func393 h
def Rt(a:Sl)(c d e:Int)(b:Value)(f:Wd)(g:Wp):Prop:=
 LA Fb a c d e b f g
def Rt.go{u a b n a0 w k}(h:Rt u a b n a0 w λa1=>k (Value.tuple #[]) a1):Cs 405 [Sl.v u,vI a,vI b,vI n,a0] w k:=rg (.q (.b (.l [(10,4)] (.s (.q .x) (.s (.b (.r [])) (.r [])))))) func405 h
def Rr(a:Sl)(c d e:Int)(b:Value)(f:Wd)(g:Wp):Prop:=
 LA AE a c d e b f g
def Rr.go{u a b n a0 w k}(h:Rr u a b n a0 w λa1=>k (Value.tuple #[]) a1):Cs 415 [Sl.v u,vI a,vI b,vI n,a0] w k:=rg (.q (.b (.l [(10,4)] (.s (.q .x) (.s (.b (.r [])) (.r [])))))) func415 h
end Go.Hal.SE
