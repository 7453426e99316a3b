/- Lemmas for the claim K19u: how the program's functions run, and what they answer; no condition but those that each theorem names. -/
import Derived.Test.YtgolaibmophnjaaGreatDoorProg
import Derived.Test.YtgolaibmophnjaaGreatDoorK19uA0
set_option linter.unusedVariables false
set_option linter.unusedSimpArgs false
set_option linter.defProp false
set_option maxHeartbeats 16000000
namespace Go.Hal.SE
open Go.Proofs.Tryz
open Go Go.RowKit Go.Hal Go.Proofs
set_option maxRecDepth 100000
def Hk(g f:Sl)(o:PU)(m:È):=
 An o [Sl.v g] 40 λn l=>Of 0 l λh a i=>∃j,Ls a n j/\(If (h<(j.len:Int)) (∃c,Ls a n c/\∃k,Ix c h k/\∃d,Ls a (k.add (h.toNat*9)) d/\Cs 26 [Sl.v d,Sl.v f] a λp b=>∃e,p= .bool e/\(Ib e (m h b) (i (Aa (h+1)) b))) (m (-1) a))
def Hk.V{a0 u w k}(h:Hk a0 u w λa1 a2=>k (vI a1) a2):Cs 340 [(.agg #[Sl.v a0]),Sl.v u] w k:=rg (.q (.s (.q (.b (.l [(5,4)] ο))) .y)) func340 h
def Lk(b:Sl)(a:Pr)(h:PU)(i:Sl->Wp):=
 uc prog 57 57 Sl.nil (Sl.v b) h λf g=>An g [vT a] 9 λj c=>uc prog 57 57 f (Sl.v (Sl.mk (some j) 1 1)) c λd e=>i d e
def Lk.V{a0 u w k}(h:Lk a0 u w λa1 a2=>k (Sl.v a1) a2):Cs 341 [Sl.v a0,vT u] w k:=rg Ϛ func341 h
def MC(a:HT)(d:PU)(e:Sl->Wp):=
 Cs 383 [Sl.nil.v,a] d λf c=>∃b,f=Sl.v b/\e b c
def MC.V{u w k}(h:MC u w λa0 a1=>k (Sl.v a0) a1):Cs 355 [u] w k:=rg Χ func355 h
def Sd(a:Sl)(c:Int)(b:HT)(d:PU)(e:Wp):=
 J0 386 387 a c b d e
def Sd.V{u n a0 w k}(h:Sd u n a0 w λa1=>k (.tuple #[]) a1):Cs 361 [Sl.v u,vI n,a0] w k:=rg κ func361 h
def Sa(a:Sl)(c d e:Int)(b:HT)(f:PU)(g:Wp):=
 M7 391 a c d e b f g
def Sa.V{u a m b a0 w k}(h:Sa u a m b a0 w λa1=>k (.tuple #[]) a1):Cs 369 [Sl.v u,vI a,vI m,vI b,a0] w k:=rg ϊ func369 h
def Le(n:Sl)(a:Int)(s:PU)(q:È):=
 An s [Sl.v n] 40 λp c=>sf (decide (a<0)) λ(r:Bool)=>∃f,Gs (!r) c p f/\sf (r||(decide ((f.len:Int)<=a))) λ(d:Bool)=>∃g,Gs (!d) c p g/\∃o,Gx (!d) g a o/\∃h,Gs (!d) c (o.add (a.toNat*9)) h/\(Ib (d||((h.len:Int)==0)) (q (-1) c) (∃i,Ls c p i/\∃j,Ix i a j/\∃b,Ls c (j.add (a.toNat*9)) b/\Dr c λe=>∃k,Ls e p k/\((0:Int)<=(Aa ((b.len:Int) - 1))/\(Aa ((b.len:Int) - 1))<=(b.cap:Int))/\Cs 340 [(.agg #[Sl.v k]),(Sl.v (Sl.cut b 0 ((Aa ((b.len:Int) - 1)).toNat) 1))] e λt m=>∃l,t= .int .i64 l/\q l m))
def Le.V{u a0 w k}(h:Le u a0 w λa1 a2=>k (vI a1) a2):Cs 371 [(.agg #[Sl.v u]),vI a0] w k:=rg (.q (.s Ν Χ)) func371 h
def RZ(a:Sl)(c d:Int)(b:HT)(e:PU)(f:Wp):=
 Jy Fl a c d b e f
def RZ.V{u a b a0 w k}(h:RZ u a b a0 w λa1=>k (.tuple #[]) a1):Cs 386 [Sl.v u,vI a,vI b,a0] w k:=rg ϋ func386 h
def Si(a:Sl)(c d e:Int)(b:HT)(f:PU)(g:Wp):=
 M9 Fl 387 409 a c d e b f g
def Si.V{u a m b a0 w k}(h:Si u a m b a0 w λa1=>k (.tuple #[]) a1):Cs 387 [Sl.v u,vI a,vI m,vI b,a0] w k:=rg Φ func387 h
def Se(a:Sl)(c d e:Int)(b:HT)(f:PU)(g:Wp):=
 M8 AE a c d e b f g
def Se.V{u a b n a0 w k}(h:Se u a b n a0 w λa1=>k (.tuple #[]) a1):Cs 391 [Sl.v u,vI a,vI b,vI n,a0] w k:=rg (.q (.b (.l [(10,4)] ι))) func391 h
def Sb(a:Sl)(c d e:Int)(b:HT)(f:PU)(g:Wp):=
 M7 421 a c d e b f g
def Sb.V{u a m b a0 w k}(h:Sb u a m b a0 w λa1=>k (.tuple #[]) a1):Cs 409 [Sl.v u,vI a,vI m,vI b,a0] w k:=rg ϊ func409 h
def Sf(a:Sl)(c d e:Int)(b:HT)(f:PU)(g:Wp):=
 M8 Fl a c d e b f g
def Sf.V{u a b n a0 w k}(h:Sf u a b n a0 w λa1=>k (.tuple #[]) a1):Cs 421 [Sl.v u,vI a,vI b,vI n,a0] w k:=rg (.q (.b (.l [(10,4)] ι))) func421 h
end Go.Hal.SE
