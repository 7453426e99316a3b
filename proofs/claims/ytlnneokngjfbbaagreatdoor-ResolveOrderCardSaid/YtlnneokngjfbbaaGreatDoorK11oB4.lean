/- Lemmas for the claim K11o: how the program's functions run, and what they answer; no condition but those that each theorem names. -/
import Derived.Test.YtlnneokngjfbbaaGreatDoorK11oB3
set_option linter.unusedVariables false
set_option linter.unusedSimpArgs false
namespace Go.Hal
open Go Go.RowKit Go.ChangeShapes Go.WideShapes Go.ChangeAt Go.Proofs
section
variable {H : Type} {W : World} {enc : TypeId × Value → H}
theorem rdMani {n : Nat} {cs : List Value} {x : DataW H × List MemPlace} (h1 : Tr enc Tryz.prog W n 25 cs x) (w1 : small (x.1.weights Tryz.prog 25)) :
  ∃ (m : Mani) (a b c d : Sl),cs = [a.v,b.v,c.v,d.v] ∧ SlR depE W (Here W) a m.deps ∧ SlR depE W (Here W) b m.dev ∧ SlR depE W (Here W) c m.opt ∧ SlR depE W (Here W) d m.over:=by
 have hl:=rd_len Tryz.underlying25 h1
 have hc : Tryz.prog.cellsOf 25 = 4:=by kernel_rfl
 rw [hc] at hl
 obtain ⟨z0,k0,g0,v0⟩:=rd_field Tryz.underlying25 h1 w1 0 23 0 1 ⟨_,rfl,rfl,rfl⟩ ceLd
 obtain ⟨z1,k1,g1,v1⟩:=rd_field Tryz.underlying25 h1 w1 1 23 1 1 ⟨_,rfl,rfl,rfl⟩ ceLd
 obtain ⟨z2,k2,g2,v2⟩:=rd_field Tryz.underlying25 h1 w1 2 23 2 1 ⟨_,rfl,rfl,rfl⟩ ceLd
 obtain ⟨z3,k3,g3,v3⟩:=rd_field Tryz.underlying25 h1 w1 3 23 3 1 ⟨_,rfl,rfl,rfl⟩ ceLd
 obtain ⟨b,lb,f0,hb,_⟩:=rdDeps enc k0 _ _ g0 v0
 obtain ⟨c,lc,f1,hc',_⟩:=rdDeps enc k1 _ _ g1 v1
 obtain ⟨d,ld,f2,hd,_⟩:=rdDeps enc k2 _ _ g2 v2
 obtain ⟨e,le,f3,he,_⟩:=rdDeps enc k3 _ _ g3 v3
 match cs,hl with
 | [c1,c2,c3,c4],_ =>
  simp at f0 f1 f2 f3
  exact ⟨⟨lb,lc,ld,le⟩,b,c,d,e,by rw [f0,f1,f2,f3],hb,hc',hd,he⟩
theorem rdLimits {n : Nat} {cs : List Value} {x : DataW H × List MemPlace} (h1 : Tr enc Tryz.prog W n 28 cs x) (w1 : small (x.1.weights Tryz.prog 28)) :
  ∃ a b c d : Int,cs = [.int .i64 a,.int .i64 b,.int .i64 c,.int .i64 d]:=by
 have hl:=rd_len Tryz.underlying28 h1
 have hc : Tryz.prog.cellsOf 28 = 4:=by kernel_rfl
 rw [hc] at hl
 obtain ⟨z0,k0,g0,v0⟩:=rd_field Tryz.underlying28 h1 w1 0 3 0 1 ⟨_,rfl,rfl,rfl⟩ (by kernel_rfl)
 obtain ⟨z1,k1,g1,v1⟩:=rd_field Tryz.underlying28 h1 w1 1 3 1 1 ⟨_,rfl,rfl,rfl⟩ (by kernel_rfl)
 obtain ⟨z2,k2,g2,v2⟩:=rd_field Tryz.underlying28 h1 w1 2 3 2 1 ⟨_,rfl,rfl,rfl⟩ (by kernel_rfl)
 obtain ⟨z3,k3,g3,v3⟩:=rd_field Tryz.underlying28 h1 w1 3 3 3 1 ⟨_,rfl,rfl,rfl⟩ (by kernel_rfl)
 obtain ⟨a,f0⟩:=rdI g0
 obtain ⟨b,f1⟩:=rdI g1
 obtain ⟨c,f2⟩:=rdI g2
 obtain ⟨d,f3⟩:=rdI g3
 match cs,hl with
 | [c1,c2,c3,c4],_ =>
  simp at f0 f1 f2 f3
  exact ⟨a,b,c,d,by rw [f0,f1,f2,f3]⟩
theorem rdWorld11 {n : Nat} {cs : List Value} {x : DataW H × List MemPlace} (h : Tr enc Tryz.prog W n 30 cs x) (hw : small (x.1.weights Tryz.prog 30)) :
  ∃ (sP mD mE mO mV pS : Sl) (dev : Bool) (D N d3 d4 : Int) (lp : List Pack) (m : Mani) (pins : List Pin),cs = [sP.v,mD.v,mE.v,mO.v,mV.v,.bool dev,pS.v,.int .i64 D,.int .i64 N,.int .i64 d3,.int .i64 d4] ∧ SlR packE W (Here W) sP lp ∧
   SlR depE W (Here W) mD m.deps ∧ SlR depE W (Here W) mE m.dev ∧ SlR depE W (Here W) mO m.opt ∧ SlR depE W (Here W) mV m.over ∧ SlR pinE W (Here W) pS pins:=by
 have hl:=rd_len Tryz.underlying30 h
 have hc : Tryz.prog.cellsOf 30 = 11:=by kernel_rfl
 rw [hc] at hl
 obtain ⟨y0,m0,h0,w0⟩:=rd_field Tryz.underlying30 h hw 0 22 0 1 ⟨_,rfl,rfl,rfl⟩ ceLk
 obtain ⟨y1,m1,h1,w1⟩:=rd_field Tryz.underlying30 h hw 1 25 1 4 ⟨_,rfl,rfl,rfl⟩ (by kernel_rfl)
 obtain ⟨y2,m2,h2,w2⟩:=rd_field Tryz.underlying30 h hw 2 4 5 1 ⟨_,rfl,rfl,rfl⟩ (by kernel_rfl)
 obtain ⟨y3,m3,h3,w3⟩:=rd_field Tryz.underlying30 h hw 3 26 6 1 ⟨_,rfl,rfl,rfl⟩ ceLp
 obtain ⟨y4,m4,h4,w4⟩:=rd_field Tryz.underlying30 h hw 4 28 7 4 ⟨_,rfl,rfl,rfl⟩ (by kernel_rfl)
 obtain ⟨a,lp,e0,hp,_⟩:=rdPacks enc m0 _ _ h0 w0
 obtain ⟨m,mD,mE,mO,mV,e1,q1,q2,q3,q4⟩:=rdMani h1 w1
 obtain ⟨dev,e2⟩:=rdBool h2
 obtain ⟨pS,pins,e3,q5,_⟩:=rdPins enc m3 _ _ h3 w3
 obtain ⟨D,N,d3,d4,e4⟩:=rdLimits h4 w4
 match cs,hl with
 | [c0,c1,c2,c3,c4,c5,c6,c7,c8,c9,c10],_ =>
  simp at e0 e1 e2 e3 e4
  exact ⟨a,mD,mE,mO,mV,pS,dev,D,N,d3,d4,lp,m,pins,by rw [e0,e1.1,e1.2.1,e1.2.2.1,e1.2.2.2,e2,e3,e4.1,e4.2.1,e4.2.2.1,e4.2.2.2],hp,q1,q2,q3,q4,q5⟩
end
end Go.Hal
