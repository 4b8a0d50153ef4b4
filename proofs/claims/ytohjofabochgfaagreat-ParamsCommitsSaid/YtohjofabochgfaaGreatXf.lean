/- A symbolic machine for Go code over plain data, and functions of the program as it shows them. No statement is proved in this file. -/
import Derived.KernelRfl
import Derived.Test.YtohjofabochgfaaGreatXe
set_option linter.unusedSimpArgs false
set_option linter.unusedVariables false
set_option linter.unusedSectionVars false

namespace Go.Proofs.YtohjofabochgfaaGreat
open Sx Go
set_option maxRecDepth 100000
def dN : av := ⟨[.val false .int, .val false (.list uu), .val false .int], [], true, 0, false⟩
abbrev mc : Type := ((Int) × (List ((aa × (aa × (aa × Bool))))) × (Int) × Unit) × (Unit)
def kg : Shape := ⟨74, [(0, .val false .int), (1, .val false (.list (.prod .elem (.prod .elem (.prod .elem .bool))))), (2, .val false .int), (6, .ptr 0 0 0), (7, .ptr 1 0 0), (16, .val false .int)], [(0, .cells [.val false .u64, .val false .u64, .val false .u64, .val false .u64, .val false .u64, .val false .u64, .val false .u64, .val false .u64, .val false .bool]), (1, .row (.prod .elem (.prod .elem .bool)))], 0, true⟩
abbrev bj : Type := ((Int) × (List ((aa × (aa × (aa × Bool))))) × (Int) × (Unit) × (Unit) × (Int) × Unit) × (((UInt64) × (UInt64) × (UInt64) × (UInt64) × (UInt64) × (UInt64) × (UInt64) × (UInt64) × (Bool) × Unit) × (List ((aa × (aa × Bool)))) × Unit)
def jn : Shape := ⟨74, [(0, .val false .int), (1, .val false (.list (.prod .elem (.prod .elem (.prod .elem .bool))))), (2, .val false .int), (6, .ptr 0 0 0), (7, .ptr 1 0 0)], [(0, .cells [.val false .u64, .val false .u64, .val false .u64, .val false .u64, .val false .u64, .val false .u64, .val false .u64, .val false .u64, .val false .bool]), (1, .row (.prod .elem (.prod .elem .bool)))], 0, true⟩
abbrev eC : Type := ((Int) × (List ((aa × (aa × (aa × Bool))))) × (Int) × (Unit) × (Unit) × Unit) × (((UInt64) × (UInt64) × (UInt64) × (UInt64) × (UInt64) × (UInt64) × (UInt64) × (UInt64) × (Bool) × Unit) × (List ((aa × (aa × Bool)))) × Unit)
def DD : SE → Option Shape := jr [(0, jn)] none
def SF (a0 : Int) (a1 : List ((aa × (aa × (aa × Bool))))) (a2 : Int) (a16 : Int) (c0_0 : UInt64) (c0_1 : UInt64) (c0_2 : UInt64) (c0_3 : UInt64) (c0_4 : UInt64) (c0_5 : UInt64) (c0_6 : UInt64) (c0_7 : UInt64) (c0_8 : Bool) (c1 : List ((aa × (aa × Bool)))) : OT (Sum bj aP) :=
  let z0 : aa := { w0 := 0, w1 := 0, w2 := 0, w3 := 0 }
  (.br (decide (a16 < (15 : Int)))
  (gd [inB a16 15, decide (Int.toNat a16 + 0 < List.length c1), inR (a16 + (1 : Int))] (.ok (.inl ((a0, (a1, (a2, ((), ((), (a16 + (1 : Int), ())))))), ((c0_0, (c0_1, (c0_2, (c0_3, (c0_4, (c0_5, (c0_6, (c0_7, (c0_8, ()))))))))), (List.set c1 (Int.toNat a16 + 0) (z0, z0, true), ()))))))
  (.ok (.inr ⟨(.exit 0, jn), ((a0, (a1, (a2, ((), ((), ()))))), ((c0_0, (c0_1, (c0_2, (c0_3, (c0_4, (c0_5, (c0_6, (c0_7, (c0_8, ()))))))))), (c1, ())))⟩)))
def kj (s : bj) : OT (Sum bj aP) := SF (s.1.1) (s.1.2.1) (s.1.2.2.1) (s.1.2.2.2.2.2.1) (s.2.1.1) (s.2.1.2.1) (s.2.1.2.2.1) (s.2.1.2.2.2.1) (s.2.1.2.2.2.2.1) (s.2.1.2.2.2.2.2.1) (s.2.1.2.2.2.2.2.2.1) (s.2.1.2.2.2.2.2.2.2.1) (s.2.1.2.2.2.2.2.2.2.2.1) (s.2.2.1)
theorem Sv (s : bj) (Q : Sum bj aP → Prop) : wps te wD ay 1000 (bF (ao Tryz.f162) 0) (kg.inj s) (cQ kg DD (Q : Sum kg.T aP → Prop)) = (kj s).wpR Q := by kernel_rfl
def nh (g0_0 : bj → eC) (s : bj) : OT aP := (.ok ⟨(.exit 0, jn), g0_0 s⟩)
def kf : Shape := ⟨74, [(0, .val false .int), (2, .val false .int), (6, .ptr 0 0 0), (7, .ptr 1 0 0), (23, .val false (.list (.prod .elem (.prod .elem (.prod .elem .bool))))), (24, .val false .int), (25, .val false .int)], [(0, .cells [.val false .u64, .val false .u64, .val false .u64, .val false .u64, .val false .u64, .val false .u64, .val false .u64, .val false .u64, .val false .bool]), (1, .row (.prod .elem (.prod .elem .bool)))], 0, true⟩
abbrev bi : Type := ((Int) × (Int) × (Unit) × (Unit) × (List ((aa × (aa × (aa × Bool))))) × (Int) × (Int) × Unit) × (((UInt64) × (UInt64) × (UInt64) × (UInt64) × (UInt64) × (UInt64) × (UInt64) × (UInt64) × (Bool) × Unit) × (List ((aa × (aa × Bool)))) × Unit)
def ke : Shape := ⟨74, [(0, .val false .int), (2, .val false .int), (6, .ptr 0 0 0), (7, .ptr 1 0 0), (10, .ptr 2 0 0), (11, .val false .int), (23, .val false (.list (.prod .elem (.prod .elem (.prod .elem .bool))))), (24, .val false .int), (25, .val false .int), (29, .val false .int)], [(0, .cells [.val false .u64, .val false .u64, .val false .u64, .val false .u64, .val false .u64, .val false .u64, .val false .u64, .val false .u64, .val false .bool]), (1, .row (.prod .elem (.prod .elem .bool))), (2, .cells [.val false .u64, .val false .u64, .val false .u64, .val false .u64, .val false .u64, .val false .u64, .val false .u64, .val false .u64, .val false .u64, .val false .u64, .val false .u64, .val false .u64, .val false .bool])], 0, true⟩
abbrev aO : Type := ((Int) × (Int) × (Unit) × (Unit) × (Unit) × (Int) × (List ((aa × (aa × (aa × Bool))))) × (Int) × (Int) × (Int) × Unit) × (((UInt64) × (UInt64) × (UInt64) × (UInt64) × (UInt64) × (UInt64) × (UInt64) × (UInt64) × (Bool) × Unit) × (List ((aa × (aa × Bool)))) × ((UInt64) × (UInt64) × (UInt64) × (UInt64) × (UInt64) × (UInt64) × (UInt64) × (UInt64) × (UInt64) × (UInt64) × (UInt64) × (UInt64) × (Bool) × Unit) × Unit)
def jl : Shape := ⟨74, [(0, .val false .int), (2, .val false .int), (6, .ptr 0 0 0), (7, .ptr 1 0 0), (10, .ptr 2 0 0), (11, .val false .int), (23, .val false (.list (.prod .elem (.prod .elem (.prod .elem .bool))))), (24, .val false .int), (25, .val false .int)], [(0, .cells [.val false .u64, .val false .u64, .val false .u64, .val false .u64, .val false .u64, .val false .u64, .val false .u64, .val false .u64, .val false .bool]), (1, .row (.prod .elem (.prod .elem .bool))), (2, .cells [.val false .u64, .val false .u64, .val false .u64, .val false .u64, .val false .u64, .val false .u64, .val false .u64, .val false .u64, .val false .u64, .val false .u64, .val false .u64, .val false .u64, .val false .bool])], 0, true⟩
abbrev cl : Type := ((Int) × (Int) × (Unit) × (Unit) × (Unit) × (Int) × (List ((aa × (aa × (aa × Bool))))) × (Int) × (Int) × Unit) × (((UInt64) × (UInt64) × (UInt64) × (UInt64) × (UInt64) × (UInt64) × (UInt64) × (UInt64) × (Bool) × Unit) × (List ((aa × (aa × Bool)))) × ((UInt64) × (UInt64) × (UInt64) × (UInt64) × (UInt64) × (UInt64) × (UInt64) × (UInt64) × (UInt64) × (UInt64) × (UInt64) × (UInt64) × (Bool) × Unit) × Unit)
def DB : SE → Option Shape := jr [(4, jl)] none
def SD (a0 : Int) (a2 : Int) (a11 : Int) (a23 : List ((aa × (aa × (aa × Bool))))) (a24 : Int) (a25 : Int) (a29 : Int) (c0_0 : UInt64) (c0_1 : UInt64) (c0_2 : UInt64) (c0_3 : UInt64) (c0_4 : UInt64) (c0_5 : UInt64) (c0_6 : UInt64) (c0_7 : UInt64) (c0_8 : Bool) (c1 : List ((aa × (aa × Bool)))) (c2_0 : UInt64) (c2_1 : UInt64) (c2_2 : UInt64) (c2_3 : UInt64) (c2_4 : UInt64) (c2_5 : UInt64) (c2_6 : UInt64) (c2_7 : UInt64) (c2_8 : UInt64) (c2_9 : UInt64) (c2_10 : UInt64) (c2_11 : UInt64) (c2_12 : Bool) : OT (Sum aO aP) :=
  let z0 : Bool := inR (a29 + (1 : Int))
  (.br (decide (a29 < (4 : Int)))
  (gd [inR (a2 + a29)] (.br (nZ { w0 := c2_0, w1 := c2_1, w2 := c2_2, w3 := c2_3 } (a2 + a29))
    (gd [decide ((0 : Int) ≤ a29), z0] (.ok (.inl ((a0, (a2, ((), ((), ((), (ior a11 (Oq (1 : Int) a29), (a23, (a24, (a25, (a29 + (1 : Int), ())))))))))), ((c0_0, (c0_1, (c0_2, (c0_3, (c0_4, (c0_5, (c0_6, (c0_7, (c0_8, ()))))))))), (c1, ((c2_0, (c2_1, (c2_2, (c2_3, (c2_4, (c2_5, (c2_6, (c2_7, (c2_8, (c2_9, (c2_10, (c2_11, (c2_12, ()))))))))))))), ())))))))
    (gd [z0] (.ok (.inl ((a0, (a2, ((), ((), ((), (a11, (a23, (a24, (a25, (a29 + (1 : Int), ())))))))))), ((c0_0, (c0_1, (c0_2, (c0_3, (c0_4, (c0_5, (c0_6, (c0_7, (c0_8, ()))))))))), (c1, ((c2_0, (c2_1, (c2_2, (c2_3, (c2_4, (c2_5, (c2_6, (c2_7, (c2_8, (c2_9, (c2_10, (c2_11, (c2_12, ()))))))))))))), ())))))))))
  (.ok (.inr ⟨(.exit 4, jl), ((a0, (a2, ((), ((), ((), (a11, (a23, (a24, (a25, ()))))))))), ((c0_0, (c0_1, (c0_2, (c0_3, (c0_4, (c0_5, (c0_6, (c0_7, (c0_8, ()))))))))), (c1, ((c2_0, (c2_1, (c2_2, (c2_3, (c2_4, (c2_5, (c2_6, (c2_7, (c2_8, (c2_9, (c2_10, (c2_11, (c2_12, ()))))))))))))), ()))))⟩)))
def ki (s : aO) : OT (Sum aO aP) := SD (s.1.1) (s.1.2.1) (s.1.2.2.2.2.2.1) (s.1.2.2.2.2.2.2.1) (s.1.2.2.2.2.2.2.2.1) (s.1.2.2.2.2.2.2.2.2.1) (s.1.2.2.2.2.2.2.2.2.2.1) (s.2.1.1) (s.2.1.2.1) (s.2.1.2.2.1) (s.2.1.2.2.2.1) (s.2.1.2.2.2.2.1) (s.2.1.2.2.2.2.2.1) (s.2.1.2.2.2.2.2.2.1) (s.2.1.2.2.2.2.2.2.2.1) (s.2.1.2.2.2.2.2.2.2.2.1) (s.2.2.1) (s.2.2.2.1.1) (s.2.2.2.1.2.1) (s.2.2.2.1.2.2.1) (s.2.2.2.1.2.2.2.1) (s.2.2.2.1.2.2.2.2.1) (s.2.2.2.1.2.2.2.2.2.1) (s.2.2.2.1.2.2.2.2.2.2.1) (s.2.2.2.1.2.2.2.2.2.2.2.1) (s.2.2.2.1.2.2.2.2.2.2.2.2.1) (s.2.2.2.1.2.2.2.2.2.2.2.2.2.1) (s.2.2.2.1.2.2.2.2.2.2.2.2.2.2.1) (s.2.2.2.1.2.2.2.2.2.2.2.2.2.2.2.1) (s.2.2.2.1.2.2.2.2.2.2.2.2.2.2.2.2.1)
theorem Ss (s : aO) (Q : Sum aO aP → Prop) : wps te wD ay 1000 (bF (bF (ao Tryz.f162) 2) 4) (ke.inj s) (cQ ke DB (Q : Sum ke.T aP → Prop)) = (ki s).wpR Q := by kernel_rfl
def nd (g4_4 : aO → cl) (s : aO) : OT aP := (.ok ⟨(.exit 4, jl), g4_4 s⟩)
def jm : Shape := ⟨74, [(0, .val false .int), (6, .ptr 0 0 0), (7, .ptr 1 0 0)], [(0, .cells [.val false .u64, .val false .u64, .val false .u64, .val false .u64, .val false .u64, .val false .u64, .val false .u64, .val false .u64, .val false .bool]), (1, .row (.prod .elem (.prod .elem .bool)))], 0, true⟩
abbrev eB : Type := ((Int) × (Unit) × (Unit) × Unit) × (((UInt64) × (UInt64) × (UInt64) × (UInt64) × (UInt64) × (UInt64) × (UInt64) × (UInt64) × (Bool) × Unit) × (List ((aa × (aa × Bool)))) × Unit)
def DC : SE → Option Shape := jr [(2, jm)] none
def DH (ok4 : aO → Bool) (g4_4 : aO → cl) (a0 : Int) (a2 : Int) (a23 : List ((aa × (aa × (aa × Bool))))) (a24 : Int) (a25 : Int) (c0_0 : UInt64) (c0_1 : UInt64) (c0_2 : UInt64) (c0_3 : UInt64) (c0_4 : UInt64) (c0_5 : UInt64) (c0_6 : UInt64) (c0_7 : UInt64) (c0_8 : Bool) (c1 : List ((aa × (aa × Bool)))) : OT (Sum bi aP) :=
  let z0 : aa := { w0 := 0, w1 := 0, w2 := 0, w3 := 0 }
  let z1 : aa × aa × Bool := (z0, z0, false)
  let z2 : aa × aa × aa × Bool := List.getD a23 (Int.toNat a25) (z0, z1)
  let z3 := z2.fst
  let z4 := z2.snd
  let z5 := z4.fst
  let z6 := z4.snd
  let z7 := z6.fst
  let z8 : (Int × Int × PUnit × PUnit × PUnit × Int × List (aa × aa × aa × Bool) × Int × Int × Int × PUnit) × (UInt64 × UInt64 × UInt64 × UInt64 × UInt64 × UInt64 × UInt64 × UInt64 × Bool × PUnit) × List (aa × aa × Bool) × (UInt64 × UInt64 × UInt64 × UInt64 × UInt64 × UInt64 × UInt64 × UInt64 × UInt64 × UInt64 × UInt64 × UInt64 × Bool × PUnit) × PUnit := ((a0, a2, (), (), (), (0 : Int), a23, a24, a25, (0 : Int), ()), (c0_0, c0_1, c0_2, c0_3, c0_4, c0_5, c0_6, c0_7, c0_8, ()), c1, (z3.w0, z3.w1, z3.w2, z3.w3, z5.w0, z5.w1, z5.w2, z5.w3, z7.w0, z7.w1, z7.w2, z7.w3, z6.snd, ()), ())
  let z9 : (Int × Int × PUnit × PUnit × PUnit × Int × List (aa × aa × aa × Bool) × Int × Int × PUnit) × (UInt64 × UInt64 × UInt64 × UInt64 × UInt64 × UInt64 × UInt64 × UInt64 × Bool × PUnit) × List (aa × aa × Bool) × (UInt64 × UInt64 × UInt64 × UInt64 × UInt64 × UInt64 × UInt64 × UInt64 × UInt64 × UInt64 × UInt64 × UInt64 × Bool × PUnit) × PUnit := g4_4 z8
  let z10 := z9.fst
  let z11 := z10.snd
  let z12 := z11.snd.snd.snd.snd
  let z13 := z12.fst
  let z14 : Bool := inR (z13 - (1 : Int))
  let z15 : Bool := inB (z13 - (1 : Int)) 15
  let z16 := z9.snd
  let z17 := z16.snd
  let z18 := z17.fst
  let z19 : Bool := decide (Int.toNat (z13 - (1 : Int)) + 0 < List.length z18)
  let z20 := z12.snd
  let z21 := z20.snd
  let z22 : Bool := inR (z21.snd.fst + (1 : Int))
  let z23 := z10.fst
  let z24 := z11.fst
  let z25 := z20.fst
  let z26 := z21.fst
  let z27 := z16.fst
  let z28 := z27.fst
  let z29 := z27.snd
  let z30 := z29.fst
  let z31 := z29.snd
  let z32 := z31.fst
  let z33 := z31.snd
  let z34 := z33.fst
  let z35 := z33.snd
  let z36 := z35.fst
  let z37 := z35.snd
  let z38 := z37.fst
  let z39 := z37.snd
  let z40 := z39.fst
  let z41 := z39.snd
  let z42 := z41.fst
  let z43 := z41.snd.fst
  let z44 := z17.snd.fst.snd.snd.snd.snd
  let z45 := z44.snd
  let z46 := z45.snd
  let z47 := z46.snd
  let z48 := z47.snd
  let z49 := z48.snd
  let z50 := z49.snd
  let z51 := z50.snd
  (.br (decide (a25 < a24))
  (gd [inB a25 (List.length a23), ok4 z8] (.br (decide ((0 : Int) < z13))
    (gd [z14, z14, z15, z19, z15, z19, z22] (.ok (.inl ((z23, (z24, ((), ((), (z25, (z26, (z21.snd.fst + (1 : Int), ()))))))), ((z28, (z30, (z32, (z34, (z36, (z38, (z40, (z42, (z43, ()))))))))), (List.set z18 (Int.toNat (z13 - (1 : Int)) + 0) (eG z23 (List.getD z18 (Int.toNat (z13 - (1 : Int)) + 0) z1) ({ w0 := z44.fst, w1 := z45.fst, w2 := z46.fst, w3 := z47.fst }, { w0 := z48.fst, w1 := z49.fst, w2 := z50.fst, w3 := z51.fst }, z51.snd.fst)), ()))))))
    (gd [z22] (.ok (.inl ((z23, (z24, ((), ((), (z25, (z26, (z21.snd.fst + (1 : Int), ()))))))), ((z28, (z30, (z32, (z34, (z36, (z38, (z40, (z42, (z43, ()))))))))), (z18, ()))))))))
  (.ok (.inr ⟨(.exit 2, jm), ((a0, ((), ((), ()))), ((c0_0, (c0_1, (c0_2, (c0_3, (c0_4, (c0_5, (c0_6, (c0_7, (c0_8, ()))))))))), (c1, ())))⟩)))
def fO (ok4 : aO → Bool) (g4_4 : aO → cl) (s : bi) : OT (Sum bi aP) := DH ok4 g4_4 (s.1.1) (s.1.2.1) (s.1.2.2.2.2.1) (s.1.2.2.2.2.2.1) (s.1.2.2.2.2.2.2.1) (s.2.1.1) (s.2.1.2.1) (s.2.1.2.2.1) (s.2.1.2.2.2.1) (s.2.1.2.2.2.2.1) (s.2.1.2.2.2.2.2.1) (s.2.1.2.2.2.2.2.2.1) (s.2.1.2.2.2.2.2.2.2.1) (s.2.1.2.2.2.2.2.2.2.2.1) (s.2.2.1)
theorem Su (ok4 : aO → Bool) (g4_4 : aO → cl) (s : bi) (Q : Sum bi aP → Prop) : wps te wD (bg 4 (di ke 4 ok4 (nd g4_4)) ay) 1000 (bF (ao Tryz.f162) 2) (kf.inj s) (cQ kf DC (Q : Sum kf.T aP → Prop)) = (fO ok4 g4_4 s).wpR Q := by kernel_rfl
def ng (g2_2 : bi → eB) (s : bi) : OT aP := (.ok ⟨(.exit 2, jm), g2_2 s⟩)
def kc : Shape := ⟨74, [(0, .val false .int), (6, .ptr 0 0 0), (7, .ptr 1 0 0), (13, .ptr 2 0 0), (14, .ptr 3 0 0), (15, .val false .int)], [(0, .cells [.val false .u64, .val false .u64, .val false .u64, .val false .u64, .val false .u64, .val false .u64, .val false .u64, .val false .u64, .val false .bool]), (1, .row (.prod .elem (.prod .elem .bool))), (2, .cells [.val false .u64, .val false .u64, .val false .u64, .val false .u64, .val false .u64, .val false .u64, .val false .u64, .val false .u64, .val false .bool]), (3, .cells [.val false .u64, .val false .u64, .val false .u64, .val false .u64, .val false .u64, .val false .u64, .val false .u64, .val false .u64, .val false .bool])], 0, true⟩
abbrev bh : Type := ((Int) × (Unit) × (Unit) × (Unit) × (Unit) × (Int) × Unit) × (((UInt64) × (UInt64) × (UInt64) × (UInt64) × (UInt64) × (UInt64) × (UInt64) × (UInt64) × (Bool) × Unit) × (List ((aa × (aa × Bool)))) × ((UInt64) × (UInt64) × (UInt64) × (UInt64) × (UInt64) × (UInt64) × (UInt64) × (UInt64) × (Bool) × Unit) × ((UInt64) × (UInt64) × (UInt64) × (UInt64) × (UInt64) × (UInt64) × (UInt64) × (UInt64) × (Bool) × Unit) × Unit)
def jk : Shape := ⟨74, [(6, .ptr 0 0 0), (14, .ptr 1 0 0)], [(0, .cells [.val false .u64, .val false .u64, .val false .u64, .val false .u64, .val false .u64, .val false .u64, .val false .u64, .val false .u64, .val false .bool]), (1, .cells [.val false .u64, .val false .u64, .val false .u64, .val false .u64, .val false .u64, .val false .u64, .val false .u64, .val false .u64, .val false .bool])], 0, true⟩
abbrev eA : Type := ((Unit) × (Unit) × Unit) × (((UInt64) × (UInt64) × (UInt64) × (UInt64) × (UInt64) × (UInt64) × (UInt64) × (UInt64) × (Bool) × Unit) × ((UInt64) × (UInt64) × (UInt64) × (UInt64) × (UInt64) × (UInt64) × (UInt64) × (UInt64) × (Bool) × Unit) × Unit)
def DA : SE → Option Shape := jr [(6, jk)] none
def SC (a0 : Int) (a15 : Int) (c0_0 : UInt64) (c0_1 : UInt64) (c0_2 : UInt64) (c0_3 : UInt64) (c0_4 : UInt64) (c0_5 : UInt64) (c0_6 : UInt64) (c0_7 : UInt64) (c0_8 : Bool) (c1 : List ((aa × (aa × Bool)))) (c2_0 : UInt64) (c2_1 : UInt64) (c2_2 : UInt64) (c2_3 : UInt64) (c2_4 : UInt64) (c2_5 : UInt64) (c2_6 : UInt64) (c2_7 : UInt64) (c2_8 : Bool) (c3_0 : UInt64) (c3_1 : UInt64) (c3_2 : UInt64) (c3_3 : UInt64) (c3_4 : UInt64) (c3_5 : UInt64) (c3_6 : UInt64) (c3_7 : UInt64) (c3_8 : Bool) : OT (Sum bh aP) :=
  let z0 : aa := { w0 := 0, w1 := 0, w2 := 0, w3 := 0 }
  let z1 : aa × aa × Bool := eG a0 ({ w0 := c2_0, w1 := c2_1, w2 := c2_2, w3 := c2_3 }, { w0 := c2_4, w1 := c2_5, w2 := c2_6, w3 := c2_7 }, c2_8) (List.getD c1 (Int.toNat a15 + 0) (z0, z0, false))
  let z2 := z1.fst
  let z3 := z1.snd
  let z4 := z3.fst
  let z5 : aa × aa × Bool := eG a0 ({ w0 := c3_0, w1 := c3_1, w2 := c3_2, w3 := c3_3 }, { w0 := c3_4, w1 := c3_5, w2 := c3_6, w3 := c3_7 }, c3_8) z1
  let z6 := z5.fst
  let z7 := z5.snd
  let z8 := z7.fst
  (.br (decide ((0 : Int) ≤ a15))
  (gd [inB a15 15, decide (Int.toNat a15 + 0 < List.length c1), inR (a15 - (1 : Int))] (.ok (.inl ((a0, ((), ((), ((), ((), (a15 - (1 : Int), ())))))), ((c0_0, (c0_1, (c0_2, (c0_3, (c0_4, (c0_5, (c0_6, (c0_7, (c0_8, ()))))))))), (c1, ((z2.w0, (z2.w1, (z2.w2, (z2.w3, (z4.w0, (z4.w1, (z4.w2, (z4.w3, (z3.snd, ()))))))))), ((z6.w0, (z6.w1, (z6.w2, (z6.w3, (z8.w0, (z8.w1, (z8.w2, (z8.w3, (z7.snd, ()))))))))), ()))))))))
  (.ok (.inr ⟨(.exit 6, jk), (((), ((), ())), ((c0_0, (c0_1, (c0_2, (c0_3, (c0_4, (c0_5, (c0_6, (c0_7, (c0_8, ()))))))))), ((c3_0, (c3_1, (c3_2, (c3_3, (c3_4, (c3_5, (c3_6, (c3_7, (c3_8, ()))))))))), ())))⟩)))
def kh (s : bh) : OT (Sum bh aP) := SC (s.1.1) (s.1.2.2.2.2.2.1) (s.2.1.1) (s.2.1.2.1) (s.2.1.2.2.1) (s.2.1.2.2.2.1) (s.2.1.2.2.2.2.1) (s.2.1.2.2.2.2.2.1) (s.2.1.2.2.2.2.2.2.1) (s.2.1.2.2.2.2.2.2.2.1) (s.2.1.2.2.2.2.2.2.2.2.1) (s.2.2.1) (s.2.2.2.1.1) (s.2.2.2.1.2.1) (s.2.2.2.1.2.2.1) (s.2.2.2.1.2.2.2.1) (s.2.2.2.1.2.2.2.2.1) (s.2.2.2.1.2.2.2.2.2.1) (s.2.2.2.1.2.2.2.2.2.2.1) (s.2.2.2.1.2.2.2.2.2.2.2.1) (s.2.2.2.1.2.2.2.2.2.2.2.2.1) (s.2.2.2.2.1.1) (s.2.2.2.2.1.2.1) (s.2.2.2.2.1.2.2.1) (s.2.2.2.2.1.2.2.2.1) (s.2.2.2.2.1.2.2.2.2.1) (s.2.2.2.2.1.2.2.2.2.2.1) (s.2.2.2.2.1.2.2.2.2.2.2.1) (s.2.2.2.2.1.2.2.2.2.2.2.2.1) (s.2.2.2.2.1.2.2.2.2.2.2.2.2.1)
theorem Sr (s : bh) (Q : Sum bh aP → Prop) : wps te wD ay 1000 (bF (ao Tryz.f162) 6) (kc.inj s) (cQ kc DA (Q : Sum kc.T aP → Prop)) = (kh s).wpR Q := by kernel_rfl
def nc (g6_6 : bh → eA) (s : bh) : OT aP := (.ok ⟨(.exit 6, jk), g6_6 s⟩)
def m9 : az := ⟨[.val true (.prod .elem (.prod .elem .bool))], [], false⟩
def Ag : SV → Option az := fun _ => some m9
def ma (ok0 : bj → Bool) (g0_0 : bj → eC) (ok4 : aO → Bool) (g4_4 : aO → cl) (ok2 : bi → Bool) (g2_2 : bi → eB) (ok6 : bh → Bool) (g6_6 : bh → eA) (a0 : Int) (a1 : List ((aa × (aa × (aa × Bool))))) (a2 : Int) : OT dN.Y :=
  let z0 : aa := { w0 := 0, w1 := 0, w2 := 0, w3 := 0 }
  let z1 : aa × aa × Bool := (z0, z0, false)
  let z2 : (Int × List (aa × aa × aa × Bool) × Int × PUnit × PUnit × Int × PUnit) × (UInt64 × UInt64 × UInt64 × UInt64 × UInt64 × UInt64 × UInt64 × UInt64 × Bool × PUnit) × List (aa × aa × Bool) × PUnit := ((a0, a1, a2, (), (), (0 : Int), ()), ((0 : UInt64), (0 : UInt64), (0 : UInt64), (0 : UInt64), (0 : UInt64), (0 : UInt64), (0 : UInt64), (0 : UInt64), false, ()), [z1, z1, z1, z1, z1, z1, z1, z1, z1, z1, z1, z1, z1, z1, z1], ())
  let z3 : (Int × List (aa × aa × aa × Bool) × Int × PUnit × PUnit × PUnit) × (UInt64 × UInt64 × UInt64 × UInt64 × UInt64 × UInt64 × UInt64 × UInt64 × Bool × PUnit) × List (aa × aa × Bool) × PUnit := g0_0 z2
  let z4 := z3.fst
  let z5 := z4.snd
  let z6 := z5.fst
  let z7 := z3.snd
  let z8 := z7.fst
  let z9 := z8.snd
  let z10 := z9.snd
  let z11 := z10.snd
  let z12 := z11.snd
  let z13 := z12.snd
  let z14 := z13.snd
  let z15 := z14.snd
  let z16 : (Int × Int × PUnit × PUnit × List (aa × aa × aa × Bool) × Int × Int × PUnit) × (UInt64 × UInt64 × UInt64 × UInt64 × UInt64 × UInt64 × UInt64 × UInt64 × Bool × PUnit) × List (aa × aa × Bool) × PUnit := ((z4.fst, z5.snd.fst, (), (), z6, (↑(List.length z6) : Int), (0 : Int), ()), (z8.fst, z9.fst, z10.fst, z11.fst, z12.fst, z13.fst, z14.fst, z15.fst, z15.snd.fst, ()), z7.snd.fst, ())
  let z17 : (Int × PUnit × PUnit × PUnit) × (UInt64 × UInt64 × UInt64 × UInt64 × UInt64 × UInt64 × UInt64 × UInt64 × Bool × PUnit) × List (aa × aa × Bool) × PUnit := g2_2 z16
  let z18 := z17.snd
  let z19 := z18.fst
  let z20 := z19.snd
  let z21 := z20.snd
  let z22 := z21.snd
  let z23 := z22.snd
  let z24 := z23.snd
  let z25 := z24.snd
  let z26 := z25.snd
  let z27 : UInt64 × UInt64 × UInt64 × UInt64 × UInt64 × UInt64 × UInt64 × UInt64 × Bool × PUnit := ((0 : UInt64), (0 : UInt64), (0 : UInt64), (0 : UInt64), (0 : UInt64), (0 : UInt64), (0 : UInt64), (0 : UInt64), true, ())
  let z28 : (Int × PUnit × PUnit × PUnit × PUnit × Int × PUnit) × (UInt64 × UInt64 × UInt64 × UInt64 × UInt64 × UInt64 × UInt64 × UInt64 × Bool × PUnit) × List (aa × aa × Bool) × (UInt64 × UInt64 × UInt64 × UInt64 × UInt64 × UInt64 × UInt64 × UInt64 × Bool × PUnit) × (UInt64 × UInt64 × UInt64 × UInt64 × UInt64 × UInt64 × UInt64 × UInt64 × Bool × PUnit) × PUnit := ((z17.fst.fst, (), (), (), (), (14 : Int), ()), (z19.fst, z20.fst, z21.fst, z22.fst, z23.fst, z24.fst, z25.fst, z26.fst, z26.snd.fst, ()), z18.snd.fst, z27, z27, ())
  let z29 := (g6_6 z28).snd.snd.fst
  let z30 := z29.snd
  let z31 := z30.snd
  let z32 := z31.snd
  let z33 := z32.snd
  let z34 := z33.snd
  let z35 := z34.snd
  let z36 := z35.snd
  (gd [ok0 z2, ok2 z16, ok6 z28] (.ok ⟨m9, ((({ w0 := z29.fst, w1 := z30.fst, w2 := z31.fst, w3 := z32.fst }, { w0 := z33.fst, w1 := z34.fst, w2 := z35.fst, w3 := z36.fst }, z36.snd.fst), ()), ())⟩))
theorem aaL (ok0 : bj → Bool) (g0_0 : bj → eC) (ok4 : aO → Bool) (g4_4 : aO → cl) (ok2 : bi → Bool) (g2_2 : bi → eB) (ok6 : bh → Bool) (g6_6 : bh → eA) (x : mc) (Q : dN.Y → Prop) : wpf te wD (bg 6 (di kc 6 ok6 (nc g6_6)) (bg 2 (di kf 2 ok2 (ng g2_2)) (bg 0 (di kg 0 ok0 (nh g0_0)) ay))) 1000 Tryz.f162 (dN.inp.inj x).tm (dN.inp.inj x).hp (fnK dN Ag Q) (fun _ _ => False) = (ma ok0 g0_0 ok4 g4_4 ok2 g2_2 ok6 g6_6 (x.1.1) (x.1.2.1) (x.1.2.2.1)).wpR Q := by kernel_rfl
theorem Kr (ok0 : bj → Bool) (g0_0 : bj → eC) (ok4 : aO → Bool) (g4_4 : aO → cl) (ok2 : bi → Bool) (g2_2 : bi → eB) (ok6 : bh → Bool) (g6_6 : bh → eA) (h0 : ∀ s : bj, ok0 s = true → ∃ m e, aq (kj) m s = some e ∧ (nh g0_0 s).run = some e) (h4 : ∀ s : aO, ok4 s = true → ∃ m e, aq (ki) m s = some e ∧ (nd g4_4 s).run = some e) (h2 : ∀ s : bi, ok2 s = true → ∃ m e, aq (fO ok4 g4_4) m s = some e ∧ (ng g2_2 s).run = some e) (h6 : ∀ s : bh, ok6 s = true → ∃ m e, aq (kh) m s = some e ∧ (nc g6_6 s).run = some e) (pre : mc → Bool) (F : mc → OT dN.Y) (hF : ∀ (x : mc) oy, pre x = true → (F x).run = some oy → (ma ok0 g0_0 ok4 g4_4 ok2 g2_2 ok6 g6_6 (x.1.1) (x.1.2.1) (x.1.2.2.1)).run = some oy) : ac Tryz.prog 162 (dN.aH pre F) :=
  aC au kE mF (f := 162) (fn := Tryz.f162) (c := ao Tryz.f162) (by kernel_rfl) (by kernel_rfl) (by kernel_rfl) (S := dN) (k := 0) (by kernel_rfl) (fun R hR => (aF (c := (ao Tryz.f162)) (by kernel_rfl) (id := 6) (by kernel_rfl) (bt au kE mF (sh := kc) hR (xs := DA) (aG (by kernel_rfl) (by kernel_rfl) hR) aW af (n := 1000) (T := kh) (fun s Q => Sr s Q) (ok := ok6) (f := nc g6_6) h6) (aF (c := (ao Tryz.f162)) (by kernel_rfl) (id := 2) (by kernel_rfl) (bt au kE mF (sh := kf) hR (xs := DC) (aG (by kernel_rfl) (by kernel_rfl) hR) aW (aF (c := (bF (ao Tryz.f162) 2)) (by kernel_rfl) (id := 4) (by kernel_rfl) (bt au kE mF (sh := ke) hR (xs := DB) (aG (by kernel_rfl) (by kernel_rfl) hR) aW af (n := 1000) (T := ki) (fun s Q => Ss s Q) (ok := ok4) (f := nd g4_4) h4) af) (n := 1000) (T := fO ok4 g4_4) (fun s Q => Su ok4 g4_4 s Q) (ok := ok2) (f := ng g2_2) h2) (aF (c := (ao Tryz.f162)) (by kernel_rfl) (id := 0) (by kernel_rfl) (bt au kE mF (sh := kg) hR (xs := DD) (aG (by kernel_rfl) (by kernel_rfl) hR) aW af (n := 1000) (T := kj) (fun s Q => Sv s Q) (ok := ok0) (f := nh g0_0) h0) af)))) (n := 1000) (sel := Ag) (fun v o h => by cases h; rfl) (pre := pre) (F := F) (T := fun x => ma ok0 g0_0 ok4 g4_4 ok2 g2_2 ok6 g6_6 (x.1.1) (x.1.2.1) (x.1.2.2.1)) (fun x Q => aaL ok0 g0_0 ok4 g4_4 ok2 g2_2 ok6 g6_6 x Q) hF
abbrev C13 : Type := UInt64 × UInt64 × UInt64 × UInt64 × UInt64 × UInt64 × UInt64 × UInt64 × UInt64 × UInt64 × UInt64 × UInt64 × Bool × Unit
def Yn (t : Tm) : C13 := (t.1.w0, t.1.w1, t.1.w2, t.1.w3, t.2.1.w0, t.2.1.w1, t.2.1.w2, t.2.1.w3, t.2.2.1.w0, t.2.2.1.w1, t.2.2.1.w2, t.2.2.1.w3, t.2.2.2, ())
theorem WE {α : Type} (x : α) (l : List α) : ∀ n, n ≤ l.length → upto (fun k (o : List α) => o.set k x) l n = List.replicate n x ++ l.drop n
  | 0, _ => rfl
  | n + 1, h => by
    show (upto (fun k (o : List α) => o.set k x) l n).set n x = _
    rw [WE x l n (by omega), List.set_append_right _ _ (by rw [List.length_replicate]; omega), List.length_replicate, Nat.sub_self, List.drop_eq_getElem_cons (by omega), List.set_cons_zero, List.replicate_succ', List.append_assoc]
    rfl
def Aj (s : bj) : Bool := decide (s.1.2.2.2.2.2.1 = 0 ∧ s.2.2.1.length = 15)
def DG (s : bj) : eC := ((s.1.1, s.1.2.1, s.1.2.2.1, (), (), ()), (s.2.1, List.replicate 15 aD, ()))
theorem SB : ∀ s : bj, Aj s = true → ∃ m e, aq kj m s = some e ∧ (nh DG s).run = some e := by
  rintro ⟨⟨c, l, at', ⟨⟩, ⟨⟩, i, ⟨⟩⟩, ⟨c0, S, ⟨⟩⟩⟩ h
  have h' := of_decide_eq_true h
  dsimp only at h'
  obtain ⟨rfl, hS⟩ := h'
  have := (bP (T := kj) (fun i o => (((c, l, at', (), (), (i : Int), ()), (c0, o, ())) : bj)) (fun k (o : List Pt) => o.set k aD)
    (fun o => (⟨(.exit 0, jn), ((c, l, at', (), (), ()), (c0, o, ()))⟩ : aP)) 15 S (fun _ o => o.length = 15) hS (fun k o hk ho => ⟨?_, (List.length_set ..).trans ho⟩) (fun o ho => ?_)).1
  · obtain ⟨m, hm⟩ := this
    rw [WE aD S 15 (by omega), List.drop_eq_nil_of_le (by omega), List.append_nil] at hm
    exact ⟨m, _, hm, rfl⟩
  · refine (OT.ap (decide_eq_true (by dsimp only; omega))).trans ((al ?_).trans ?_)
    · simp only [ho, Int.toNat_natCast, Nat.add_zero, List.all_cons, List.all_nil, Bool.and_true, Bool.and_eq_true]
      exact ⟨bD (by omega), decide_eq_true (by omega), bE (by omega)⟩
    · simp only [OT.jG, Int.toNat_natCast, Nat.add_zero]
      rfl
  · exact OT.aw (decide_eq_false (by dsimp only; omega))
def pD (k : aa) (a : Int) (n : Nat) (d : Int) : Int := cond (nZ k (a + (n : Int))) (ior d (Oq 1 (n : Int))) d
def Pc (k : aa) (a : Int) : Int := upto (pD k a) 0 4
def anP (b : Bool) : Int := cond b 1 0
theorem ahp (k : aa) (a : Int) : Pc k a = anP (nZ k a) + 2 * anP (nZ k (a + 1)) + 4 * anP (nZ k (a + 2)) + 8 * anP (nZ k (a + 3)) := by
  have e0 : a + ((0 : Nat) : Int) = a := by omega
  show pD k a 3 (pD k a 2 (pD k a 1 (pD k a 0 0))) = _
  unfold pD
  rw [e0, show a + ((1 : Nat) : Int) = a + 1 by omega, show a + ((2 : Nat) : Int) = a + 2 by omega, show a + ((3 : Nat) : Int) = a + 3 by omega]
  generalize nZ k a = b0
  generalize nZ k (a + 1) = b1
  generalize nZ k (a + 2) = b2
  generalize nZ k (a + 3) = b3
  cases b0 <;> cases b1 <;> cases b2 <;> cases b3 <;> decide +kernel
theorem aho (k : aa) (a : Int) : 0 ≤ Pc k a ∧ Pc k a ≤ 15 := by
  rw [ahp]
  have h : ∀ b, 0 ≤ anP b ∧ anP b ≤ 1 := fun b => by cases b <;> decide
  have h0 := h (nZ k a)
  have h1 := h (nZ k (a + 1))
  have h2 := h (nZ k (a + 2))
  have h3 := h (nZ k (a + 3))
  omega
def TJ (c at' d : Int) (l : List Tm) (n i : Int) (b : Int) (c0 : C9) (S : List Pt) (t : C13) : aO := ((c, at', (), (), (), d, l, n, i, b, ()), (c0, S, t, ()))
def keyOf (t : C13) : aa := ⟨t.1, t.2.1, t.2.2.1, t.2.2.2.1⟩
def k8 (s : aO) : Bool := decide (s.1.2.2.2.2.2.1 = 0 ∧ s.1.2.2.2.2.2.2.2.2.2.1 = 0 ∧ 0 ≤ s.1.2.1 ∧ s.1.2.1 ≤ 1000)
def na (s : aO) : cl := ((s.1.1, s.1.2.1, (), (), (), Pc (keyOf s.2.2.2.1) s.1.2.1, s.1.2.2.2.2.2.2.1, s.1.2.2.2.2.2.2.2.1, s.1.2.2.2.2.2.2.2.2.1, ()), s.2)
theorem Sz : ∀ s : aO, k8 s = true → ∃ m e, aq ki m s = some e ∧ (nd na s).run = some e := by
  rintro ⟨⟨c, at', ⟨⟩, ⟨⟩, ⟨⟩, d, l, n, i, b, ⟨⟩⟩, ⟨c0, S, t, ⟨⟩⟩⟩ h
  have h' := of_decide_eq_true h
  dsimp only at h'
  obtain ⟨rfl, rfl, ha0, ha1⟩ := h'
  have := (bP (T := ki) (fun b d => (((c, at', (), (), (), d, l, n, i, (b : Int), ()), (c0, S, t, ())) : aO)) (pD (keyOf t) at')
    (fun d => (⟨(.exit 4, jl), ((c, at', (), (), (), d, l, n, i, ()), (c0, S, t, ()))⟩ : aP)) 4 0 (fun _ _ => True) trivial (fun k d hk _ => ⟨?_, trivial⟩) (fun d _ => ?_)).1
  · obtain ⟨m, hm⟩ := this
    exact ⟨m, _, hm, rfl⟩
  · have hr : inR ((k : Int) + 1) = true := bE (by omega)
    have hgr : ∀ z : OT (Sum aO aP), (gd [inR ((k : Int) + 1)] z).run = z.run := fun z => al (by rw [hr]; rfl)
    refine (OT.ap (decide_eq_true (by dsimp only; omega))).trans ((al ?_).trans ?_)
    · simp only [List.all_cons, List.all_nil, Bool.and_true]
      exact bE (by omega)
    · unfold pD
      rcases (Bool.eq_false_or_eq_true (nZ (keyOf t) (at' + (k : Int)))).symm with hb | hb
      · rw [hb]
        exact (OT.aw hb).trans ((hgr _).trans rfl)
      · rw [hb]
        refine (OT.ap hb).trans ((al ?_).trans rfl)
        simp only [List.all_cons, List.all_nil, Bool.and_true, Bool.and_eq_true]
        exact ⟨decide_eq_true (by omega), hr⟩
  · exact OT.aw (decide_eq_false (by dsimp only; omega))
def dJ (c a : Int) (l : List Tm) (k : Nat) (S : List Pt) : List Pt := cond (decide (0 < Pc (l.getD k fN).1 a))
  (S.set (Pc (l.getD k fN).1 a - 1).toNat (eG c (S.getD (Pc (l.getD k fN).1 a - 1).toNat fh) (l.getD k fN).2)) S
theorem kv (c a : Int) (l : List Tm) (k : Nat) (S : List Pt) : (dJ c a l k S).length = S.length := by
  unfold dJ
  cases decide (0 < Pc (l.getD k fN).1 a)
  · rfl
  · exact List.length_set ..
def apm (c a : Int) (l : List Tm) (S : List Pt) : List Pt := upto (dJ c a l) S l.length
def Ai (s : bi) : Bool := decide (s.1.2.2.2.2.2.1 = (s.1.2.2.2.2.1.length : Int) ∧ s.1.2.2.2.2.2.2.1 = 0 ∧ s.2.2.1.length = 15 ∧ (0 ≤ s.1.2.1 ∧ s.1.2.1 ≤ 1000) ∧ s.1.2.2.2.2.1.length ≤ 140737488355328)
def DF (s : bi) : eB := ((s.1.1, (), (), ()), (s.2.1, apm s.1.1 s.1.2.1 s.1.2.2.2.2.1 s.2.2.1, ()))
theorem arf {ok4 : aO → Bool} {g4 : aO → cl} {c a : Int} {l : List Tm} {k : Nat} {c0 : C9} {S : List Pt} {t : Tm} {d : Int} (ht : l.getD k fN = t) (hk : k < l.length) (hl : l.length ≤ 140737488355328) (hS : S.length = 15) (hd : 0 ≤ d ∧ d ≤ 15)
    (h4 : ok4 (TJ c a 0 l (l.length : Int) (k : Int) 0 c0 S (Yn t)) = true)
    (e4 : g4 (TJ c a 0 l (l.length : Int) (k : Int) 0 c0 S (Yn t)) = ((c, a, (), (), (), d, l, (l.length : Int), (k : Int), ()), (c0, S, Yn t, ()))) :
    (fO ok4 g4 ((c, a, (), (), l, (l.length : Int), (k : Int), ()), (c0, S, ()))).run = some (.inl ((c, a, (), (), l, (l.length : Int), ((k + 1 : Nat) : Int), ()), (c0, cond (decide (0 < d)) (S.set (d - 1).toNat (eG c (S.getD (d - 1).toNat fh) t.2)) S, ()))) := by
  have hr : inR ((k : Int) + 1) = true := bE (by omega)
  unfold TJ at h4 e4
  unfold fO DH
  have ht' : List.getD l (Int.toNat (k : Int)) (⟨0, 0, 0, 0⟩, ⟨0, 0, 0, 0⟩, ⟨0, 0, 0, 0⟩, false) = t := by rw [Int.toNat_natCast]; exact ht
  simp only [ht']
  refine (OT.ap (decide_eq_true (by omega))).trans ((al ?_).trans ?_)
  · simp only [List.all_cons, List.all_nil, Bool.and_true, Bool.and_eq_true]
    exact ⟨bD (by omega), h4⟩
  · have e4' : g4 ((c, a, (), (), (), 0, l, (l.length : Int), (k : Int), 0, ()), (c0.1, c0.2.1, c0.2.2.1, c0.2.2.2.1, c0.2.2.2.2.1, c0.2.2.2.2.2.1, c0.2.2.2.2.2.2.1, c0.2.2.2.2.2.2.2.1, c0.2.2.2.2.2.2.2.2.1, ()), S, (t.1.w0, t.1.w1, t.1.w2, t.1.w3, t.2.1.w0, t.2.1.w1, t.2.1.w2, t.2.1.w3, t.2.2.1.w0, t.2.2.1.w1, t.2.2.1.w2, t.2.2.1.w3, t.2.2.2, ()), ()) = ((c, a, (), (), (), d, l, (l.length : Int), (k : Int), ()), (c0, S, Yn t, ())) := e4
    simp only [e4']
    by_cases h0 : 0 < d
    · rw [decide_eq_true h0]
      refine (OT.ap rfl).trans ((al ?_).trans ?_)
      · simp only [hS, Nat.add_zero, hr, List.all_cons, List.all_nil, Bool.and_true, Bool.and_eq_true]
        have i1 : inR (d - 1) = true := bE (by omega)
        have i2 : inB (d - 1) 15 = true := bD (by omega)
        have i3 : decide ((d - 1).toNat < 15) = true := decide_eq_true (by omega)
        exact ⟨i1, i1, i2, i3, i2, i3⟩
      · rfl
    · rw [decide_eq_false h0]
      refine (OT.aw rfl).trans ((al ?_).trans rfl)
      simp only [hr, List.all_cons, List.all_nil, Bool.and_true]
theorem SA : ∀ s : bi, Ai s = true → ∃ m e, aq (fO k8 na) m s = some e ∧ (ng DF s).run = some e := by
  rintro ⟨⟨c, at', ⟨⟩, ⟨⟩, l, n, i, ⟨⟩⟩, ⟨c0, S, ⟨⟩⟩⟩ h
  have h' := of_decide_eq_true h
  dsimp only at h'
  obtain ⟨rfl, rfl, hS, ⟨ha0, ha1⟩, hl⟩ := h'
  have := (bP (T := fO k8 na) (fun i o => (((c, at', (), (), l, (l.length : Int), (i : Int), ()), (c0, o, ())) : bi)) (dJ c at' l)
    (fun o => (⟨(.exit 2, jm), ((c, (), (), ()), (c0, o, ()))⟩ : aP)) l.length S (fun _ o => o.length = 15) hS (fun k o hk ho => ⟨?_, (kv c at' l k o).trans ho⟩) (fun o ho => ?_)).1
  · obtain ⟨m, hm⟩ := this
    exact ⟨m, _, hm, rfl⟩
  · exact arf rfl hk hl ho (aho _ _) (decide_eq_true ⟨rfl, rfl, ha0, ha1⟩) rfl
  · exact OT.aw (decide_eq_false (by dsimp only; omega))
def fo (c : Int) (S : List Pt) (n : Nat) (w : Pt × Pt) : Pt × Pt := (eG c w.1 (S.getD (14 - n) fh), eG c w.2 (eG c w.1 (S.getD (14 - n) fh)))
def atx (c : Int) (S : List Pt) : Pt × Pt := upto (fo c S) (aD, aD) 15
def Ah (s : bh) : Bool := decide (s.1.2.2.2.2.2.1 = 14 ∧ s.2.2.1.length = 15 ∧ kt s.2.2.2.1 = aD ∧ kt s.2.2.2.2.1 = aD)
def DE (s : bh) : eA := (((), (), ()), (s.2.1, bf (atx s.1.1 s.2.2.1).2, ()))
theorem Sy : ∀ s : bh, Ah s = true → ∃ m e, aq kh m s = some e ∧ (nc DE s).run = some e := by
  rintro ⟨⟨c, ⟨⟩, ⟨⟩, ⟨⟩, ⟨⟩, i, ⟨⟩⟩, ⟨c0, S, r, a, ⟨⟩⟩⟩ h
  have h' := of_decide_eq_true h
  dsimp only at h'
  obtain ⟨rfl, hS, hr, ha⟩ := h'
  have hr2 : r = bf aD := by rw [← hr]; rfl
  have ha2 : a = bf aD := by rw [← ha]; rfl
  subst hr2 ha2
  have := (bP (T := kh) (fun n w => (((c, (), (), (), (), 14 - (n : Int), ()), (c0, S, bf w.1, bf w.2, ())) : bh)) (fo c S)
    (fun w => (⟨(.exit 6, jk), (((), (), ()), (c0, bf w.2, ()))⟩ : aP)) 15 (aD, aD) (fun _ _ => True) trivial (fun n w hn _ => ⟨?_, trivial⟩) (fun w _ => ?_)).1
  · obtain ⟨m, hm⟩ := this
    exact ⟨m, _, hm, rfl⟩
  · have e1 : ((14 : Int) - (n : Int)).toNat = 14 - n := by omega
    have e2 : (14 : Int) - (n : Int) - 1 = 14 - ((n + 1 : Nat) : Int) := by omega
    refine (OT.ap (decide_eq_true (by dsimp only; omega))).trans ((al ?_).trans ?_)
    · simp only [e1, hS, Nat.add_zero, List.all_cons, List.all_nil, Bool.and_true, Bool.and_eq_true]
      exact ⟨bD (by omega), decide_eq_true (by omega), bE (by omega)⟩
    · rw [← e2]
      simp only [OT.jG, e1, Nat.add_zero]
      rfl
  · exact OT.aw (decide_eq_false (by dsimp only; omega))
def TK (c : Int) (l : List Tm) (a : Int) : Pt := (atx c (apm c a l (List.replicate 15 aD))).2
theorem Ks {ok4 : aO → Bool} {g4 : aO → cl} {ok0 : bj → Bool} {g0 : bj → eC} {ok2 : bi → Bool} {g2 : bi → eB} {ok6 : bh → Bool} {g6 : bh → eA} {c a : Int} {l : List Tm} {S0 S : List Pt} {R : Pt} {z : C9}
    (h0 : ok0 ((c, l, a, (), (), 0, ()), (bf fh, List.replicate 15 fh, ())) = true) (e0 : g0 ((c, l, a, (), (), 0, ()), (bf fh, List.replicate 15 fh, ())) = ((c, l, a, (), (), ()), (bf fh, S0, ())))
    (h2 : ok2 ((c, a, (), (), l, (l.length : Int), 0, ()), (bf fh, S0, ())) = true) (e2 : g2 ((c, a, (), (), l, (l.length : Int), 0, ()), (bf fh, S0, ())) = ((c, (), (), ()), (bf fh, S, ())))
    (h6 : ok6 ((c, (), (), (), (), 14, ()), (bf fh, S, bf aD, bf aD, ())) = true) (e6 : g6 ((c, (), (), (), (), 14, ()), (bf fh, S, bf aD, bf aD, ())) = (((), (), ()), (z, bf R, ()))) :
    (ma ok0 g0 ok4 g4 ok2 g2 ok6 g6 c l a).run = some ⟨m9, ((R, ()), ())⟩ := by
  have e0' : g0 ((c, l, a, (), (), 0, ()), ((0, 0, 0, 0, 0, 0, 0, 0, false, ()), [((⟨0, 0, 0, 0⟩, ⟨0, 0, 0, 0⟩, false) : Pt), ((⟨0, 0, 0, 0⟩, ⟨0, 0, 0, 0⟩, false) : Pt), ((⟨0, 0, 0, 0⟩, ⟨0, 0, 0, 0⟩, false) : Pt), ((⟨0, 0, 0, 0⟩, ⟨0, 0, 0, 0⟩, false) : Pt), ((⟨0, 0, 0, 0⟩, ⟨0, 0, 0, 0⟩, false) : Pt), ((⟨0, 0, 0, 0⟩, ⟨0, 0, 0, 0⟩, false) : Pt), ((⟨0, 0, 0, 0⟩, ⟨0, 0, 0, 0⟩, false) : Pt), ((⟨0, 0, 0, 0⟩, ⟨0, 0, 0, 0⟩, false) : Pt), ((⟨0, 0, 0, 0⟩, ⟨0, 0, 0, 0⟩, false) : Pt), ((⟨0, 0, 0, 0⟩, ⟨0, 0, 0, 0⟩, false) : Pt), ((⟨0, 0, 0, 0⟩, ⟨0, 0, 0, 0⟩, false) : Pt), ((⟨0, 0, 0, 0⟩, ⟨0, 0, 0, 0⟩, false) : Pt), ((⟨0, 0, 0, 0⟩, ⟨0, 0, 0, 0⟩, false) : Pt), ((⟨0, 0, 0, 0⟩, ⟨0, 0, 0, 0⟩, false) : Pt), ((⟨0, 0, 0, 0⟩, ⟨0, 0, 0, 0⟩, false) : Pt)], ())) = ((c, l, a, (), (), ()), (bf fh, S0, ())) := e0
  have e2' : g2 ((c, a, (), (), l, (l.length : Int), 0, ()), ((bf fh).1, (bf fh).2.1, (bf fh).2.2.1, (bf fh).2.2.2.1, (bf fh).2.2.2.2.1, (bf fh).2.2.2.2.2.1, (bf fh).2.2.2.2.2.2.1, (bf fh).2.2.2.2.2.2.2.1, (bf fh).2.2.2.2.2.2.2.2.1, ()), S0, ()) = ((c, (), (), ()), (bf fh, S, ())) := e2
  have e6' : g6 ((c, (), (), (), (), 14, ()), ((bf fh).1, (bf fh).2.1, (bf fh).2.2.1, (bf fh).2.2.2.1, (bf fh).2.2.2.2.1, (bf fh).2.2.2.2.2.1, (bf fh).2.2.2.2.2.2.1, (bf fh).2.2.2.2.2.2.2.1, (bf fh).2.2.2.2.2.2.2.2.1, ()), S, (0, 0, 0, 0, 0, 0, 0, 0, true, ()), (0, 0, 0, 0, 0, 0, 0, 0, true, ()), ()) = (((), (), ()), (z, bf R, ())) := e6
  unfold ma
  simp only [e0', e2', e6']
  refine (al ?_).trans rfl
  simp only [List.all_cons, List.all_nil, Bool.and_true, Bool.and_eq_true]
  exact ⟨h0, h2, h6⟩
theorem Cc (c a : Int) (l : List Tm) (S : List Pt) : ∀ n, (upto (dJ c a l) S n).length = S.length
  | 0 => rfl
  | n + 1 => (kv c a l n _).trans (Cc c a l S n)
def o6 (x : mc) : Bool := decide ((0 ≤ x.1.2.2.1 ∧ x.1.2.2.1 ≤ 1000) ∧ x.1.2.1.length ≤ 140737488355328)
def HT (x : mc) : OT dN.Y := .ok ⟨m9, ((TK x.1.1 x.1.2.1 x.1.2.2.1, ()), ())⟩
theorem Sw : ac Tryz.prog 162 (dN.aH o6 HT) := Kr Aj DG k8 na Ai DF Ah DE SB Sz SA Sy _ _ fun x oy hp ho => by
  rw [← ho]
  clear ho
  obtain ⟨⟨c, l, a, ⟨⟩⟩, ⟨⟩⟩ := x
  obtain ⟨ha, hl⟩ := of_decide_eq_true hp
  exact Ks (S0 := List.replicate 15 aD) (S := apm c a l (List.replicate 15 aD)) (R := TK c l a) (z := bf fh) (decide_eq_true ⟨rfl, rfl⟩) rfl
    (decide_eq_true ⟨rfl, rfl, rfl, ha, hl⟩) rfl (decide_eq_true ⟨rfl, Cc c a l _ l.length, rfl, rfl⟩) rfl
def m8 : cG := (dN.aH o6 HT)
theorem Gq : ac Tryz.prog 162 m8 := Sw
theorem Gn : aK m8 := aB
def ir : Env := aA 162 m8 wD
theorem gV : aV Tryz.prog ir := ai Gq kE
theorem qb : ax ir := ae Gn Fv
theorem lx : aZ Tryz.prog te ir := aN follows au gV qb
def kb : av := ⟨[.val false .int, .val false (.list uu)], [], true, 0, false⟩
abbrev HL : Type := ((Int) × (List ((aa × (aa × (aa × Bool))))) × Unit) × (Unit)
def vm : Shape := ⟨39, [(0, .val false .int), (1, .val false (.list (.prod .elem (.prod .elem (.prod .elem .bool))))), (4, .ptr 0 0 0), (5, .ptr 1 0 0), (6, .val false .int)], [(0, .cells [.val false .u64, .val false .u64, .val false .u64, .val false .u64, .val false .u64, .val false .u64, .val false .u64, .val false .u64, .val false .bool]), (1, .cells [.val false .u64, .val false .u64, .val false .u64, .val false .u64, .val false .u64, .val false .u64, .val false .u64, .val false .u64, .val false .bool])], 0, true⟩
abbrev cf : Type := ((Int) × (List ((aa × (aa × (aa × Bool))))) × (Unit) × (Unit) × (Int) × Unit) × (((UInt64) × (UInt64) × (UInt64) × (UInt64) × (UInt64) × (UInt64) × (UInt64) × (UInt64) × (Bool) × Unit) × ((UInt64) × (UInt64) × (UInt64) × (UInt64) × (UInt64) × (UInt64) × (UInt64) × (UInt64) × (Bool) × Unit) × Unit)
def vl : Shape := ⟨39, [(0, .val false .int), (1, .val false (.list (.prod .elem (.prod .elem (.prod .elem .bool))))), (4, .ptr 0 0 0), (5, .ptr 1 0 0), (6, .val false .int), (24, .val false .int)], [(0, .cells [.val false .u64, .val false .u64, .val false .u64, .val false .u64, .val false .u64, .val false .u64, .val false .u64, .val false .u64, .val false .bool]), (1, .cells [.val false .u64, .val false .u64, .val false .u64, .val false .u64, .val false .u64, .val false .u64, .val false .u64, .val false .u64, .val false .bool])], 0, true⟩
abbrev bq : Type := ((Int) × (List ((aa × (aa × (aa × Bool))))) × (Unit) × (Unit) × (Int) × (Int) × Unit) × (((UInt64) × (UInt64) × (UInt64) × (UInt64) × (UInt64) × (UInt64) × (UInt64) × (UInt64) × (Bool) × Unit) × ((UInt64) × (UInt64) × (UInt64) × (UInt64) × (UInt64) × (UInt64) × (UInt64) × (UInt64) × (Bool) × Unit) × Unit)
def q9 : Shape := ⟨39, [(0, .val false .int), (1, .val false (.list (.prod .elem (.prod .elem (.prod .elem .bool))))), (4, .ptr 0 0 0), (5, .ptr 1 0 0), (6, .val false .int)], [(0, .cells [.val false .u64, .val false .u64, .val false .u64, .val false .u64, .val false .u64, .val false .u64, .val false .u64, .val false .u64, .val false .bool]), (1, .cells [.val false .u64, .val false .u64, .val false .u64, .val false .u64, .val false .u64, .val false .u64, .val false .u64, .val false .u64, .val false .bool])], 0, true⟩
abbrev dD : Type := ((Int) × (List ((aa × (aa × (aa × Bool))))) × (Unit) × (Unit) × (Int) × Unit) × (((UInt64) × (UInt64) × (UInt64) × (UInt64) × (UInt64) × (UInt64) × (UInt64) × (UInt64) × (Bool) × Unit) × ((UInt64) × (UInt64) × (UInt64) × (UInt64) × (UInt64) × (UInt64) × (UInt64) × (UInt64) × (Bool) × Unit) × Unit)
def XL : SE → Option Shape := jr [(2, q9)] none
def alX (a0 : Int) (a1 : List ((aa × (aa × (aa × Bool))))) (a6 : Int) (a24 : Int) (c0_0 : UInt64) (c0_1 : UInt64) (c0_2 : UInt64) (c0_3 : UInt64) (c0_4 : UInt64) (c0_5 : UInt64) (c0_6 : UInt64) (c0_7 : UInt64) (c0_8 : Bool) (c1_0 : UInt64) (c1_1 : UInt64) (c1_2 : UInt64) (c1_3 : UInt64) (c1_4 : UInt64) (c1_5 : UInt64) (c1_6 : UInt64) (c1_7 : UInt64) (c1_8 : Bool) : OT (Sum bq aP) :=
  let z0 : aa × aa × Bool := ({ w0 := c1_0, w1 := c1_1, w2 := c1_2, w3 := c1_3 }, { w0 := c1_4, w1 := c1_5, w2 := c1_6, w3 := c1_7 }, c1_8)
  let z1 : aa × aa × Bool := eG a0 z0 z0
  let z2 := z1.fst
  let z3 := z1.snd
  let z4 := z3.fst
  (.br (decide (a24 < (4 : Int)))
  (gd [inR (a24 + (1 : Int))] (.ok (.inl ((a0, (a1, ((), ((), (a6, (a24 + (1 : Int), ())))))), ((c0_0, (c0_1, (c0_2, (c0_3, (c0_4, (c0_5, (c0_6, (c0_7, (c0_8, ()))))))))), ((z2.w0, (z2.w1, (z2.w2, (z2.w3, (z4.w0, (z4.w1, (z4.w2, (z4.w3, (z3.snd, ()))))))))), ()))))))
  (.ok (.inr ⟨(.exit 2, q9), ((a0, (a1, ((), ((), (a6, ()))))), ((c0_0, (c0_1, (c0_2, (c0_3, (c0_4, (c0_5, (c0_6, (c0_7, (c0_8, ()))))))))), ((c1_0, (c1_1, (c1_2, (c1_3, (c1_4, (c1_5, (c1_6, (c1_7, (c1_8, ()))))))))), ())))⟩)))
def vp (s : bq) : OT (Sum bq aP) := alX (s.1.1) (s.1.2.1) (s.1.2.2.2.2.1) (s.1.2.2.2.2.2.1) (s.2.1.1) (s.2.1.2.1) (s.2.1.2.2.1) (s.2.1.2.2.2.1) (s.2.1.2.2.2.2.1) (s.2.1.2.2.2.2.2.1) (s.2.1.2.2.2.2.2.2.1) (s.2.1.2.2.2.2.2.2.2.1) (s.2.1.2.2.2.2.2.2.2.2.1) (s.2.2.1.1) (s.2.2.1.2.1) (s.2.2.1.2.2.1) (s.2.2.1.2.2.2.1) (s.2.2.1.2.2.2.2.1) (s.2.2.1.2.2.2.2.2.1) (s.2.2.1.2.2.2.2.2.2.1) (s.2.2.1.2.2.2.2.2.2.2.1) (s.2.2.1.2.2.2.2.2.2.2.2.1)
theorem alS (s : bq) (Q : Sum bq aP → Prop) : wps te ir ay 1000 (bF (bF (ao Tryz.f148) 0) 2) (vl.inj s) (cQ vl XL (Q : Sum vl.T aP → Prop)) = (vp s).wpR Q := by kernel_rfl
def BK (g2_2 : bq → dD) (s : bq) : OT aP := (.ok ⟨(.exit 2, q9), g2_2 s⟩)
def ra : Shape := ⟨39, [(4, .ptr 0 0 0), (5, .ptr 1 0 0)], [(0, .cells [.val false .u64, .val false .u64, .val false .u64, .val false .u64, .val false .u64, .val false .u64, .val false .u64, .val false .u64, .val false .bool]), (1, .cells [.val false .u64, .val false .u64, .val false .u64, .val false .u64, .val false .u64, .val false .u64, .val false .u64, .val false .u64, .val false .bool])], 0, true⟩
abbrev ig : Type := ((Unit) × (Unit) × Unit) × (((UInt64) × (UInt64) × (UInt64) × (UInt64) × (UInt64) × (UInt64) × (UInt64) × (UInt64) × (Bool) × Unit) × ((UInt64) × (UInt64) × (UInt64) × (UInt64) × (UInt64) × (UInt64) × (UInt64) × (UInt64) × (Bool) × Unit) × Unit)
def XM : SE → Option Shape := jr [(0, ra)] none
def XN (ok2 : bq → Bool) (g2_2 : bq → dD) (a0 : Int) (a1 : List ((aa × (aa × (aa × Bool))))) (a6 : Int) (c0_0 : UInt64) (c0_1 : UInt64) (c0_2 : UInt64) (c0_3 : UInt64) (c0_4 : UInt64) (c0_5 : UInt64) (c0_6 : UInt64) (c0_7 : UInt64) (c0_8 : Bool) (c1_0 : UInt64) (c1_1 : UInt64) (c1_2 : UInt64) (c1_3 : UInt64) (c1_4 : UInt64) (c1_5 : UInt64) (c1_6 : UInt64) (c1_7 : UInt64) (c1_8 : Bool) : OT (Sum cf aP) :=
  let z0 : (Int × List (aa × aa × aa × Bool) × PUnit × PUnit × Int × Int × PUnit) × (UInt64 × UInt64 × UInt64 × UInt64 × UInt64 × UInt64 × UInt64 × UInt64 × Bool × PUnit) × (UInt64 × UInt64 × UInt64 × UInt64 × UInt64 × UInt64 × UInt64 × UInt64 × Bool × PUnit) × PUnit := ((a0, a1, (), (), a6, (0 : Int), ()), (c0_0, c0_1, c0_2, c0_3, c0_4, c0_5, c0_6, c0_7, c0_8, ()), (c1_0, c1_1, c1_2, c1_3, c1_4, c1_5, c1_6, c1_7, c1_8, ()), ())
  let z1 : (Int × List (aa × aa × aa × Bool) × PUnit × PUnit × Int × PUnit) × (UInt64 × UInt64 × UInt64 × UInt64 × UInt64 × UInt64 × UInt64 × UInt64 × Bool × PUnit) × (UInt64 × UInt64 × UInt64 × UInt64 × UInt64 × UInt64 × UInt64 × UInt64 × Bool × PUnit) × PUnit := g2_2 z0
  let z2 := z1.fst
  let z3 := z2.fst
  let z4 := z2.snd
  let z5 := z4.fst
  let z6 := z4.snd.snd.snd.fst
  let z7 := z1.snd
  let z8 := z7.fst
  let z9 := z8.snd
  let z10 := z9.snd
  let z11 := z10.snd
  let z12 := z11.snd
  let z13 := z12.snd
  let z14 := z13.snd
  let z15 := z14.snd
  let z16 := z7.snd.fst
  let z17 := z16.snd
  let z18 := z17.snd
  let z19 := z18.snd
  let z20 := z19.snd
  let z21 := z20.snd
  let z22 := z21.snd
  let z23 := z22.snd
  let z24 : aa × aa × Bool := eG z3 ({ w0 := z16.fst, w1 := z17.fst, w2 := z18.fst, w3 := z19.fst }, { w0 := z20.fst, w1 := z21.fst, w2 := z22.fst, w3 := z23.fst }, z23.snd.fst) (TK z3 z5 z6)
  let z25 := z24.fst
  let z26 := z24.snd
  let z27 := z26.fst
  (.br (decide ((0 : Int) ≤ a6))
  (gd [ok2 z0, o6 ((z3, z5, z6, ()), ()), inR (z6 - (4 : Int))] (.ok (.inl ((z3, (z5, ((), ((), (z6 - (4 : Int), ()))))), ((z8.fst, (z9.fst, (z10.fst, (z11.fst, (z12.fst, (z13.fst, (z14.fst, (z15.fst, (z15.snd.fst, ()))))))))), ((z25.w0, (z25.w1, (z25.w2, (z25.w3, (z27.w0, (z27.w1, (z27.w2, (z27.w3, (z26.snd, ()))))))))), ()))))))
  (.ok (.inr ⟨(.exit 0, ra), (((), ((), ())), ((c0_0, (c0_1, (c0_2, (c0_3, (c0_4, (c0_5, (c0_6, (c0_7, (c0_8, ()))))))))), ((c1_0, (c1_1, (c1_2, (c1_3, (c1_4, (c1_5, (c1_6, (c1_7, (c1_8, ()))))))))), ())))⟩)))
def m7 (ok2 : bq → Bool) (g2_2 : bq → dD) (s : cf) : OT (Sum cf aP) := XN ok2 g2_2 (s.1.1) (s.1.2.1) (s.1.2.2.2.2.1) (s.2.1.1) (s.2.1.2.1) (s.2.1.2.2.1) (s.2.1.2.2.2.1) (s.2.1.2.2.2.2.1) (s.2.1.2.2.2.2.2.1) (s.2.1.2.2.2.2.2.2.1) (s.2.1.2.2.2.2.2.2.2.1) (s.2.1.2.2.2.2.2.2.2.2.1) (s.2.2.1.1) (s.2.2.1.2.1) (s.2.2.1.2.2.1) (s.2.2.1.2.2.2.1) (s.2.2.1.2.2.2.2.1) (s.2.2.1.2.2.2.2.2.1) (s.2.2.1.2.2.2.2.2.2.1) (s.2.2.1.2.2.2.2.2.2.2.1) (s.2.2.1.2.2.2.2.2.2.2.2.1)
theorem alT (ok2 : bq → Bool) (g2_2 : bq → dD) (s : cf) (Q : Sum cf aP → Prop) : wps te ir (bg 2 (di vl 2 ok2 (BK g2_2)) ay) 1000 (bF (ao Tryz.f148) 0) (vm.inj s) (cQ vm XM (Q : Sum vm.T aP → Prop)) = (m7 ok2 g2_2 s).wpR Q := by kernel_rfl
def BL (g0_0 : cf → ig) (s : cf) : OT aP := (.ok ⟨(.exit 0, ra), g0_0 s⟩)
def qZ : az := ⟨[.val true (.prod .elem (.prod .elem .bool))], [], false⟩
def Og : SV → Option az := fun _ => some qZ
def yE (ok2 : bq → Bool) (g2_2 : bq → dD) (ok0 : cf → Bool) (g0_0 : cf → ig) (a0 : Int) (a1 : List ((aa × (aa × (aa × Bool))))) : OT kb.Y :=
  let z0 : Int := Int.tdiv ((↑(Qx a1) : Int) + (4 : Int) - (1 : Int)) (4 : Int)
  let z1 : (Int × List (aa × aa × aa × Bool) × PUnit × PUnit × Int × PUnit) × (UInt64 × UInt64 × UInt64 × UInt64 × UInt64 × UInt64 × UInt64 × UInt64 × Bool × PUnit) × (UInt64 × UInt64 × UInt64 × UInt64 × UInt64 × UInt64 × UInt64 × UInt64 × Bool × PUnit) × PUnit := ((a0, a1, (), (), z0 * (4 : Int), ()), ((0 : UInt64), (0 : UInt64), (0 : UInt64), (0 : UInt64), (0 : UInt64), (0 : UInt64), (0 : UInt64), (0 : UInt64), false, ()), ((0 : UInt64), (0 : UInt64), (0 : UInt64), (0 : UInt64), (0 : UInt64), (0 : UInt64), (0 : UInt64), (0 : UInt64), true, ()), ())
  let z2 := (g0_0 z1).snd.snd.fst
  let z3 := z2.snd
  let z4 := z3.snd
  let z5 := z4.snd
  let z6 := z5.snd
  let z7 := z6.snd
  let z8 := z7.snd
  let z9 := z8.snd
  (.br (decide ((↑(List.length a1) : Int) < (24 : Int)))
  (gd [th ((a0, a1, ()), ())] (.ok ⟨qZ, ((jg a0 a1, ()), ())⟩))
  (gd [Kb ((a1, ()), ()), inR ((↑(Qx a1) : Int) + (4 : Int)), inR ((↑(Qx a1) : Int) + (4 : Int) - (1 : Int)), true && inR z0, inR (z0 * (4 : Int)), ok0 z1] (.ok ⟨qZ, ((({ w0 := z2.fst, w1 := z3.fst, w2 := z4.fst, w3 := z5.fst }, { w0 := z6.fst, w1 := z7.fst, w2 := z8.fst, w3 := z9.fst }, z9.snd.fst), ()), ())⟩)))
theorem aqj (ok2 : bq → Bool) (g2_2 : bq → dD) (ok0 : cf → Bool) (g0_0 : cf → ig) (x : HL) (Q : kb.Y → Prop) : wpf te ir (bg 0 (di vm 0 ok0 (BL g0_0)) ay) 1000 Tryz.f148 (kb.inp.inj x).tm (kb.inp.inj x).hp (fnK kb Og Q) (fun _ _ => False) = (yE ok2 g2_2 ok0 g0_0 (x.1.1) (x.1.2.1)).wpR Q := by kernel_rfl
theorem aav (ok2 : bq → Bool) (g2_2 : bq → dD) (ok0 : cf → Bool) (g0_0 : cf → ig) (h2 : ∀ s : bq, ok2 s = true → ∃ m e, aq (vp) m s = some e ∧ (BK g2_2 s).run = some e) (h0 : ∀ s : cf, ok0 s = true → ∃ m e, aq (m7 ok2 g2_2) m s = some e ∧ (BL g0_0 s).run = some e) (pre : HL → Bool) (F : HL → OT kb.Y) (hF : ∀ (x : HL) oy, pre x = true → (F x).run = some oy → (yE ok2 g2_2 ok0 g0_0 (x.1.1) (x.1.2.1)).run = some oy) : ac Tryz.prog 148 (kb.aH pre F) :=
  aC au gV lx (f := 148) (fn := Tryz.f148) (c := ao Tryz.f148) (by kernel_rfl) (by kernel_rfl) (by kernel_rfl) (S := kb) (k := 0) (by kernel_rfl) (fun R hR => (aF (c := (ao Tryz.f148)) (by kernel_rfl) (id := 0) (by kernel_rfl) (bt au gV lx (sh := vm) hR (xs := XM) (aG (by kernel_rfl) (by kernel_rfl) hR) aW (aF (c := (bF (ao Tryz.f148) 0)) (by kernel_rfl) (id := 2) (by kernel_rfl) (bt au gV lx (sh := vl) hR (xs := XL) (aG (by kernel_rfl) (by kernel_rfl) hR) aW af (n := 1000) (T := vp) (fun s Q => alS s Q) (ok := ok2) (f := BK g2_2) h2) af) (n := 1000) (T := m7 ok2 g2_2) (fun s Q => alT ok2 g2_2 s Q) (ok := ok0) (f := BL g0_0) h0) af)) (n := 1000) (sel := Og) (fun v o h => by cases h; rfl) (pre := pre) (F := F) (T := fun x => yE ok2 g2_2 ok0 g0_0 (x.1.1) (x.1.2.1)) (fun x Q => aqj ok2 g2_2 ok0 g0_0 x Q) hF
theorem QH (l : List Tm) : ∀ n, ack l n ≤ n
  | 0 => Nat.le_refl _
  | n + 1 => by
    unfold ack
    cases arH l (n : Int)
    · exact Nat.le_succ_of_le (QH l n)
    · exact Nat.le_refl _
def as9 (c : Int) (O : Pt) : Pt := upto (fun _ o => eG c o o) O 4
def o3 (s : bq) : Bool := decide (s.1.2.2.2.2.2.1 = 0)
def vo (s : bq) : dD := ((s.1.1, s.1.2.1, (), (), s.1.2.2.2.2.1, ()), (s.2.1, bf (as9 s.1.1 (kt s.2.2.1)), ()))
theorem alV : ∀ s : bq, o3 s = true → ∃ m e, aq vp m s = some e ∧ (BK vo s).run = some e := by
  rintro ⟨⟨c, l, ⟨⟩, ⟨⟩, a, i, ⟨⟩⟩, ⟨c0, c1, ⟨⟩⟩⟩ h
  have h' := of_decide_eq_true h
  dsimp only at h'
  subst h'
  have := (bP (T := vp) (fun i O => (((c, l, (), (), a, (i : Int), ()), (c0, bf O, ())) : bq)) (fun _ o => eG c o o)
    (fun O => (⟨(.exit 2, q9), ((c, l, (), (), a, ()), (c0, bf O, ()))⟩ : aP)) 4 (kt c1) (fun _ _ => True) trivial (fun k O hk _ => ⟨?_, trivial⟩) (fun O _ => ?_)).1
  · obtain ⟨m, hm⟩ := this
    exact ⟨m, _, hm, rfl⟩
  · refine (OT.ap (decide_eq_true (by dsimp only; omega))).trans ((al ?_).trans rfl)
    simp only [List.all_cons, List.all_nil, Bool.and_true]
    exact bE (by omega)
  · exact OT.aw (decide_eq_false (by dsimp only; omega))
def li (c : Int) (l : List Tm) (W n : Nat) (O : Pt) : Pt := eG c (as9 c O) (TK c l (4 * (W : Int) - 4 * (n : Int)))
def nK (l : List Tm) : Nat := (Qx l + 3) / 4
def ats (c : Int) (l : List Tm) : Pt := upto (li c l (nK l)) aD (nK l + 1)
def acw (c : Int) (l : List Tm) (a : Int) (c0 : C9) (O : Pt) : bq := ((c, l, (), (), a, 0, ()), (c0, bf O, ()))
theorem arL {ok2 : bq → Bool} {g2 : bq → dD} {c a : Int} {l : List Tm} {c0 : C9} {O D : Pt} (h0 : 0 ≤ a) (h1 : a ≤ 1000) (hl : l.length ≤ 140737488355328) (hok : ok2 (acw c l a c0 O) = true)
    (e2 : g2 (acw c l a c0 O) = ((c, l, (), (), a, ()), (c0, bf D, ()))) :
    (m7 ok2 g2 ((c, l, (), (), a, ()), (c0, bf O, ()))).run = some (.inl ((c, l, (), (), a - 4, ()), (c0, bf (eG c D (TK c l a)), ()))) := by
  unfold acw at hok e2
  have e2' : g2 ((c, l, (), (), a, 0, ()), (c0.1, c0.2.1, c0.2.2.1, c0.2.2.2.1, c0.2.2.2.2.1, c0.2.2.2.2.2.1, c0.2.2.2.2.2.2.1, c0.2.2.2.2.2.2.2.1, c0.2.2.2.2.2.2.2.2.1, ()), ((bf O).1, (bf O).2.1, (bf O).2.2.1, (bf O).2.2.2.1, (bf O).2.2.2.2.1, (bf O).2.2.2.2.2.1, (bf O).2.2.2.2.2.2.1, (bf O).2.2.2.2.2.2.2.1, (bf O).2.2.2.2.2.2.2.2.1, ()), ()) = ((c, l, (), (), a, ()), (c0, bf D, ())) := e2
  unfold m7 XN
  simp only [e2']
  refine (OT.ap (decide_eq_true h0)).trans ((al ?_).trans rfl)
  simp only [List.all_cons, List.all_nil, Bool.and_true, Bool.and_eq_true]
  exact ⟨hok, decide_eq_true ⟨⟨h0, h1⟩, hl⟩, bE (by omega)⟩
def Dp (s : cf) : Bool := decide (s.1.2.2.2.2.1 = 4 * (nK s.1.2.1 : Int) ∧ kt s.2.2.1 = aD ∧ s.1.2.1.length ≤ 140737488355328)
def Kh (s : cf) : ig := (((), (), ()), (s.2.1, bf (ats s.1.1 s.1.2.1), ()))
theorem alW : ∀ s : cf, Dp s = true → ∃ m e, aq (m7 o3 vo) m s = some e ∧ (BL Kh s).run = some e := by
  rintro ⟨⟨c, l, ⟨⟩, ⟨⟩, a, ⟨⟩⟩, ⟨c0, c1, ⟨⟩⟩⟩ h
  have h' := of_decide_eq_true h
  dsimp only at h'
  obtain ⟨rfl, hO, hl⟩ := h'
  have hO2 : c1 = bf aD := by rw [← hO]; rfl
  subst hO2
  have hW : nK l ≤ 64 := by
    have := QH l 256
    unfold nK Qx
    omega
  have := (bP (T := m7 o3 vo) (fun n O => (((c, l, (), (), 4 * (nK l : Int) - 4 * (n : Int), ()), (c0, bf O, ())) : cf)) (li c l (nK l))
    (fun O => (⟨(.exit 0, ra), (((), (), ()), (c0, bf O, ()))⟩ : aP)) (nK l + 1) aD (fun _ _ => True) trivial (fun n O hn _ => ⟨?_, trivial⟩) (fun O _ => ?_)).1
  · obtain ⟨m, hm⟩ := this
    refine ⟨m, _, ?_, rfl⟩
    have e : 4 * (nK l : Int) - 4 * ((0 : Nat) : Int) = 4 * (nK l : Int) := by omega
    rw [e] at hm
    exact hm
  · have e : 4 * (nK l : Int) - 4 * ((n + 1 : Nat) : Int) = 4 * (nK l : Int) - 4 * (n : Int) - 4 := by omega
    rw [e]
    exact arL (D := as9 c O) (by omega) (by omega) hl (decide_eq_true rfl) rfl
  · exact OT.aw (decide_eq_false (by dsimp only; omega))
def atC (l : List Tm) : Bool := decide ((l.length : Int) < 24)
def Gd (c : Int) (l : List Tm) : Pt := cond (atC l) (jg c l) (ats c l)
def vn (x : HL) : Bool := decide (x.1.2.1.length ≤ 140737488355328)
def af6 (x : HL) : OT kb.Y := .ok ⟨qZ, ((Gd x.1.1 x.1.2.1, ()), ())⟩
theorem aaw {ok2 : bq → Bool} {g2 : bq → dD} {ok0 : cf → Bool} {g0 : cf → ig} {c : Int} {l : List Tm} {R : Pt} (hl : l.length ≤ 140737488355328) (hf : atC l = false)
    (h0 : ok0 ((c, l, (), (), 4 * (nK l : Int), ()), (bf fh, bf aD, ())) = true) (e0 : g0 ((c, l, (), (), 4 * (nK l : Int), ()), (bf fh, bf aD, ())) = (((), (), ()), (bf fh, bf R, ()))) :
    (yE ok2 g2 ok0 g0 c l).run = some ⟨qZ, ((R, ()), ())⟩ := by
  have ht : Int.tdiv ((Qx l : Int) + 4 - 1) 4 = (nK l : Int) := by
    unfold nK
    rw [Int.tdiv_eq_ediv_of_nonneg (by omega)]
    omega
  have hW := QH l 256
  have hW : Qx l ≤ 256 := hW
  have hW2 : nK l ≤ 64 := by unfold nK; omega
  have e1 : (nK l : Int) * 4 = 4 * (nK l : Int) := Int.mul_comm _ _
  unfold yE
  have e0' : g0 ((c, l, (), (), 4 * (nK l : Int), ()), (0, 0, 0, 0, 0, 0, 0, 0, false, ()), (0, 0, 0, 0, 0, 0, 0, 0, true, ()), ()) = (((), (), ()), (bf fh, bf R, ())) := e0
  simp only [ht, e1, e0']
  refine (OT.aw hf).trans ((al ?_).trans rfl)
  simp only [List.all_cons, List.all_nil, Bool.and_true, Bool.true_and, Bool.and_eq_true]
  exact ⟨decide_eq_true hl, bE (by omega), bE (by omega), bE (by omega), bE (by omega), h0⟩
theorem alU : ac Tryz.prog 148 (kb.aH vn af6) := aav o3 vo Dp Kh alV alW _ _ fun x oy hp ho => by
  rw [← ho]
  clear ho
  obtain ⟨⟨c, l, ⟨⟩⟩, ⟨⟩⟩ := x
  have hl : l.length ≤ 140737488355328 := of_decide_eq_true hp
  show (yE o3 vo Dp Kh c l).run = some ⟨qZ, ((Gd c l, ()), ())⟩
  rcases (Bool.eq_false_or_eq_true (atC l)).symm with hf | hf
  · have e : Gd c l = ats c l := by unfold Gd; rw [hf]; rfl
    rw [e]
    exact aaw (R := ats c l) hl hf (decide_eq_true ⟨rfl, rfl, hl⟩) rfl
  · have e : Gd c l = jg c l := by unfold Gd; rw [hf]; rfl
    rw [e]
    refine (OT.ap hf).trans ((al ?_).trans rfl)
    simp only [List.all_cons, List.all_nil, Bool.and_true]
    exact hp
def yD : cG := (kb.aH vn af6)
theorem So : ac Tryz.prog 148 yD := alU
theorem Sn : aK yD := aB
def Fy : Env := aA 148 yD ir
theorem zH : aV Tryz.prog Fy := ai So gV
theorem AY : ax Fy := ae Sn qb
theorem Uj : aZ Tryz.prog te Fy := aN follows au zH AY
def gE : av := ⟨[.ptr 0 0 0], [(0, auq (.own 1)), (1, .row uu)], false, 2, true⟩
abbrev yA : Type := ((Unit) × Unit) × (((Int) × (Unit) × Unit) × (List ((aa × (aa × (aa × Bool))))) × Unit)
def Dh : az := ⟨[.val true (.prod .elem (.prod .elem .bool))], [(0, .cells [.val false .int, .own 1]), (1, .row (.prod .elem (.prod .elem (.prod .elem .bool))))], false⟩
def HJ : SV → Option az := fun _ => some Dh
def Ka (c0_0 : Int) (c1 : List ((aa × (aa × (aa × Bool))))) : OT gE.Y :=
  (gd [vn ((c0_0, c1, ()), ())] (.ok ⟨Dh, ((Gd c0_0 c1, ()), ((c0_0, ((), ())), (c1, ())))⟩))
theorem alP (x : yA) (Q : gE.Y → Prop) : wpf te Fy ay 1000 Tryz.f116 (gE.inp.inj x).tm (gE.inp.inj x).hp (fnK gE HJ Q) (fun _ _ => False) = (Ka (x.2.1.1) (x.2.2.1)).wpR Q := by kernel_rfl
theorem Sf (pre : yA → Bool) (F : yA → OT gE.Y) (hF : ∀ (x : yA) oy, pre x = true → (F x).run = some oy → (Ka (x.2.1.1) (x.2.2.1)).run = some oy) : ac Tryz.prog 116 (gE.aH pre F) :=
  aC au zH Uj (f := 116) (fn := Tryz.f116) (c := ao Tryz.f116) (by kernel_rfl) (by kernel_rfl) (by kernel_rfl) (S := gE) (k := 2) (by kernel_rfl) (fun R hR => af) (n := 1000) (sel := HJ) (fun v o h => by cases h; rfl) (pre := pre) (F := F) (T := fun x => Ka (x.2.1.1) (x.2.2.1)) (fun x Q => alP x Q) hF
def yw (x : yA) : Bool := vn ((x.2.1.1, x.2.2.1, ()), ())
def XC (x : yA) : OT gE.Y := .ok ⟨Dh, ((Gd x.2.1.1 x.2.2.1, ()), ((x.2.1.1, ((), ())), (x.2.2.1, ())))⟩
theorem afU : ac Tryz.prog 116 (gE.aH yw XC) := Sf _ _ fun x oy hp ho => by
  rw [← ho]
  clear ho
  refine (al ?_).trans rfl
  simp only [List.all_cons, List.all_nil, Bool.and_true]
  exact hp
def td : cG := (gE.aH yw XC)
theorem Od : ac Tryz.prog 116 td := afU
theorem Oc : aK td := aB
def rR : Env := aA 116 td Fy
theorem nG : aV Tryz.prog rR := ai Od zH
theorem wC : ax rR := ae Oc AY
theorem AW : aZ Tryz.prog te rR := aN follows au nG wC
def nU : av := ⟨[.val false .int, .val false (.list uu)], [], true, 0, false⟩
abbrev aau : Type := ((Int) × (List ((aa × (aa × (aa × Bool))))) × Unit) × (Unit)
def Dn : Shape := ⟨45, [(4, .ptr 0 0 0), (6, .ptr 1 0 0), (26, .val false (.list (.prod .elem (.prod .elem (.prod .elem .bool))))), (27, .val false .int), (28, .val false .int)], [(0, .cells [.val false .u64, .val false .u64, .val false .u64, .val false .u64, .val false .u64, .val false .u64, .val false .u64, .val false .u64, .val false .bool]), (1, .cells [.val false .int, .own 2]), (2, .row (.prod .elem (.prod .elem (.prod .elem .bool))))], 0, true⟩
abbrev bK : Type := ((Unit) × (Unit) × (List ((aa × (aa × (aa × Bool))))) × (Int) × (Int) × Unit) × (((UInt64) × (UInt64) × (UInt64) × (UInt64) × (UInt64) × (UInt64) × (UInt64) × (UInt64) × (Bool) × Unit) × ((Int) × (Unit) × Unit) × (List ((aa × (aa × (aa × Bool))))) × Unit)
def ka : Shape := ⟨45, [(4, .ptr 0 0 0), (5, .val false .int)], [(0, .cells [.val false .u64, .val false .u64, .val false .u64, .val false .u64, .val false .u64, .val false .u64, .val false .u64, .val false .u64, .val false .bool])], 0, true⟩
abbrev lY : Type := ((Unit) × (Int) × Unit) × (((UInt64) × (UInt64) × (UInt64) × (UInt64) × (UInt64) × (UInt64) × (UInt64) × (UInt64) × (Bool) × Unit) × Unit)
def vk : Shape := ⟨45, [(4, .ptr 0 0 0), (6, .ptr 1 0 0)], [(0, .cells [.val false .u64, .val false .u64, .val false .u64, .val false .u64, .val false .u64, .val false .u64, .val false .u64, .val false .u64, .val false .bool]), (1, .cells [.val false .int, .own 2]), (2, .row (.prod .elem (.prod .elem (.prod .elem .bool))))], 0, true⟩
abbrev lZ : Type := ((Unit) × (Unit) × Unit) × (((UInt64) × (UInt64) × (UInt64) × (UInt64) × (UInt64) × (UInt64) × (UInt64) × (UInt64) × (Bool) × Unit) × ((Int) × (Unit) × Unit) × (List ((aa × (aa × (aa × Bool))))) × Unit)
def af4 : SE → Option Shape := jr [(1, vk)] (some ka)
def aqi (a26 : List ((aa × (aa × (aa × Bool))))) (a27 : Int) (a28 : Int) (c0_0 : UInt64) (c0_1 : UInt64) (c0_2 : UInt64) (c0_3 : UInt64) (c0_4 : UInt64) (c0_5 : UInt64) (c0_6 : UInt64) (c0_7 : UInt64) (c0_8 : Bool) (c1_0 : Int) (c2 : List ((aa × (aa × (aa × Bool))))) : OT (Sum bK aP) :=
  let z0 : aa := { w0 := 0, w1 := 0, w2 := 0, w3 := 0 }
  let z1 : aa × aa × aa × Bool := List.getD a26 (Int.toNat a28) (z0, z0, z0, false)
  let z2 := z1.snd
  (.br (decide (a28 < a27))
  (gd [inB a28 (List.length a26)] (.br (onB c1_0 z2)
    (.br (Mx c2)
      (gd [inR (a28 + (1 : Int))] (.ok (.inl (((), ((), (a26, (a27, (a28 + (1 : Int), ()))))), ((c0_0, (c0_1, (c0_2, (c0_3, (c0_4, (c0_5, (c0_6, (c0_7, (c0_8, ()))))))))), ((c1_0, ((), ())), (c2 ++ [(Bf c1_0 z1.fst, z2)], ())))))))
      (.ok (.inr ⟨(.ret, ka), (((), ((50 : Int), ())), (((0 : UInt64), ((0 : UInt64), ((0 : UInt64), ((0 : UInt64), ((0 : UInt64), ((0 : UInt64), ((0 : UInt64), ((0 : UInt64), (false, ()))))))))), ()))⟩)))
    (.ok (.inr ⟨(.ret, ka), (((), ((41 : Int), ())), (((0 : UInt64), ((0 : UInt64), ((0 : UInt64), ((0 : UInt64), ((0 : UInt64), ((0 : UInt64), ((0 : UInt64), ((0 : UInt64), (false, ()))))))))), ()))⟩))))
  (.ok (.inr ⟨(.exit 1, vk), (((), ((), ())), ((c0_0, (c0_1, (c0_2, (c0_3, (c0_4, (c0_5, (c0_6, (c0_7, (c0_8, ()))))))))), ((c1_0, ((), ())), (c2, ()))))⟩)))
def yC (s : bK) : OT (Sum bK aP) := aqi (s.1.2.2.1) (s.1.2.2.2.1) (s.1.2.2.2.2.1) (s.2.1.1) (s.2.1.2.1) (s.2.1.2.2.1) (s.2.1.2.2.2.1) (s.2.1.2.2.2.2.1) (s.2.1.2.2.2.2.2.1) (s.2.1.2.2.2.2.2.2.1) (s.2.1.2.2.2.2.2.2.2.1) (s.2.1.2.2.2.2.2.2.2.2.1) (s.2.2.1.1) (s.2.2.2.1)
theorem aqf (s : bK) (Q : Sum bK aP → Prop) : wps te rR ay 1000 (bF (ao Tryz.f74) 1) (Dn.inj s) (cQ Dn af4 (Q : Sum Dn.T aP → Prop)) = (yC s).wpR Q := by kernel_rfl
def Kg (g1_r : bK → lY) (c1_r : bK → Bool) (g1_1 : bK → lZ) (s : bK) : OT aP := (.br (c1_r s) (.ok ⟨(.ret, ka), g1_r s⟩) (.ok ⟨(.exit 1, vk), g1_1 s⟩))
def ic : az := ⟨[.val true (.prod .elem (.prod .elem .bool)), .val false .int], [], false⟩
def XI : SV → Option az := fun _ => some ic
def XK (ok1 : bK → Bool) (g1_r : bK → lY) (c1_r : bK → Bool) (g1_1 : bK → lZ) (a0 : Int) (a1 : List ((aa × (aa × (aa × Bool))))) : OT nU.Y :=
  let z0 : Int := (↑(List.length a1) : Int)
  let z1 : aa := { w0 := 0, w1 := 0, w2 := 0, w3 := 0 }
  let z2 : aa × aa × Bool := (z1, z1, false)
  let z3 : (PUnit × PUnit × List (aa × aa × aa × Bool) × Int × Int × PUnit) × (UInt64 × UInt64 × UInt64 × UInt64 × UInt64 × UInt64 × UInt64 × UInt64 × Bool × PUnit) × (Int × PUnit × PUnit) × List (aa × aa × aa × Bool) × PUnit := (((), (), a1, z0, (0 : Int), ()), ((0 : UInt64), (0 : UInt64), (0 : UInt64), (0 : UInt64), (0 : UInt64), (0 : UInt64), (0 : UInt64), (0 : UInt64), false, ()), (a0, (), ()), [], ())
  let z4 : (PUnit × Int × PUnit) × (UInt64 × UInt64 × UInt64 × UInt64 × UInt64 × UInt64 × UInt64 × UInt64 × Bool × PUnit) × PUnit := g1_r z3
  let z5 := z4.snd.fst
  let z6 := z5.snd
  let z7 := z6.snd
  let z8 := z7.snd
  let z9 := z8.snd
  let z10 := z9.snd
  let z11 := z10.snd
  let z12 := z11.snd
  let z13 := (g1_1 z3).snd.snd
  let z14 := z13.fst.fst
  let z15 := z13.snd.fst
  (.br (ak a0)
  (.br (decide ((100000 : Int) < z0))
    (.ok ⟨ic, ((z2, ((50 : Int), ())), ())⟩)
    (gd [ok1 z3] (.br (c1_r z3)
      (.ok ⟨ic, ((({ w0 := z5.fst, w1 := z6.fst, w2 := z7.fst, w3 := z8.fst }, { w0 := z9.fst, w1 := z10.fst, w2 := z11.fst, w3 := z12.fst }, z12.snd.fst), (z4.fst.snd.fst, ())), ())⟩)
      (gd [yw (((), ()), (z14, (), ()), z15, ())] (.ok ⟨ic, ((Gd z14 z15, ((0 : Int), ())), ())⟩)))))
  (.ok ⟨ic, ((z2, ((40 : Int), ())), ())⟩))
theorem asy (ok1 : bK → Bool) (g1_r : bK → lY) (c1_r : bK → Bool) (g1_1 : bK → lZ) (x : aau) (Q : nU.Y → Prop) : wpf te rR (bg 1 (di Dn 1 ok1 (Kg g1_r c1_r g1_1)) ay) 1000 Tryz.f74 (nU.inp.inj x).tm (nU.inp.inj x).hp (fnK nU XI Q) (fun _ _ => False) = (XK ok1 g1_r c1_r g1_1 (x.1.1) (x.1.2.1)).wpR Q := by kernel_rfl
theorem af5 (ok1 : bK → Bool) (g1_r : bK → lY) (c1_r : bK → Bool) (g1_1 : bK → lZ) (h1 : ∀ s : bK, ok1 s = true → ∃ m e, aq (yC) m s = some e ∧ (Kg g1_r c1_r g1_1 s).run = some e) (pre : aau → Bool) (F : aau → OT nU.Y) (hF : ∀ (x : aau) oy, pre x = true → (F x).run = some oy → (XK ok1 g1_r c1_r g1_1 (x.1.1) (x.1.2.1)).run = some oy) : ac Tryz.prog 74 (nU.aH pre F) :=
  aC au nG AW (f := 74) (fn := Tryz.f74) (c := ao Tryz.f74) (by kernel_rfl) (by kernel_rfl) (by kernel_rfl) (S := nU) (k := 0) (by kernel_rfl) (fun R hR => (aF (c := (ao Tryz.f74)) (by kernel_rfl) (id := 1) (by kernel_rfl) (bt au nG AW (sh := Dn) hR (xs := af4) (aG (by kernel_rfl) (by kernel_rfl) hR) aW af (n := 1000) (T := yC) (fun s Q => aqf s Q) (ok := ok1) (f := Kg g1_r c1_r g1_1) h1) af)) (n := 1000) (sel := XI) (fun v o h => by cases h; rfl) (pre := pre) (F := F) (T := fun x => XK ok1 g1_r c1_r g1_1 (x.1.1) (x.1.2.1)) (fun x Q => asy ok1 g1_r c1_r g1_1 x Q) hF
def Bw (c : Int) (l : List Tm) : List Tm := l.map fun t => (Bf c t.1, t.2)
def cF (c : Int) (l : List Tm) : Bool := l.all fun t => onB c t.2
def Ke (s : bK) : Bool := decide (s.1.2.2.2.1 = (s.1.2.2.1.length : Int) ∧ s.1.2.2.2.2.1 = 0 ∧ s.2.2.2.1 = [] ∧ s.1.2.2.1.length ≤ 100000)
def Kf (_ : bK) : lY := (((), (41 : Int), ()), (bf fh, ()))
def Sl (s : bK) : Bool := !cF s.2.2.1.1 s.1.2.2.1
def Sk (s : bK) : lZ := (((), (), ()), (s.2.1, (s.2.2.1.1, (), ()), Bw s.2.2.1.1 s.1.2.2.1, ()))
def Mf (c : Int) (l : List Tm) (c0 : C9) (k : Int) (o : List Tm) : bK := (((), (), l, (l.length : Int), k, ()), (c0, (c, (), ()), o, ()))
theorem WC (c : Int) (l : List Tm) (c0 : C9) (hl : l.length ≤ 100000) : ∀ d k : Nat, k + d = l.length →
    ∃ m, aq yC m (Mf c l c0 (k : Int) (Bw c (l.take k))) = some (cond (cF c (l.drop k)) ⟨(.exit 1, vk), (((), (), ()), (c0, (c, (), ()), Bw c l, ()))⟩ ⟨(.ret, ka), (((), (41 : Int), ()), (bf fh, ()))⟩)
  | 0, k, h => by
    rw [List.drop_eq_nil_of_le (by omega), List.take_of_length_le (by omega)]
    exact ⟨1, aL (OT.aw (decide_eq_false (by dsimp only [Mf]; omega)))⟩
  | d + 1, k, h => by
    have hk : k < l.length := by omega
    have e1 : l.drop k = l[k] :: l.drop (k + 1) := List.drop_eq_getElem_cons hk
    have e2 : l.take (k + 1) = l.take k ++ [l[k]] := (List.take_append_getElem hk).symm
    have e3 : l.getD k fN = l[k] := by rw [List.getD_eq_getElem?_getD, List.getElem?_eq_getElem hk]; rfl
    have hgd : ∀ z : OT (Sum bK aP), (gd [inB (k : Int) l.length] z).run = z.run := fun z => al (by rw [bD (by omega)]; rfl)
    have ea : cF c (l.drop k) = (onB c l[k].2 && cF c (l.drop (k + 1))) := by rw [e1]; rfl
    rw [ea]
    have hr : Mx (Bw c (l.take k)) = true := decide_eq_true (by rw [Bw, List.length_map, List.length_take]; omega)
    have first : ∀ e : aP ⊕ Unit, (yC (Mf c l c0 (k : Int) (Bw c (l.take k)))).run = (OT.br (onB c (l.getD k fN).2) (.br (Mx (Bw c (l.take k))) (gd [inR ((k : Int) + 1)] (.ok (.inl (Mf c l c0 ((k : Int) + 1) (Bw c (l.take k) ++ [(Bf c (l.getD k fN).1, (l.getD k fN).2)])))))
        (.ok (.inr ⟨(.ret, ka), (((), (50 : Int), ()), (bf fh, ()))⟩))) (.ok (.inr ⟨(.ret, ka), (((), (41 : Int), ()), (bf fh, ()))⟩)) : OT (Sum bK aP)).run := fun _ =>
      (OT.ap (decide_eq_true (by dsimp only [Mf]; omega))).trans ((hgd _).trans rfl)
    have first := first (.inr ())
    rw [e3] at first
    rcases (Bool.eq_false_or_eq_true (onB c l[k].2)).symm with hb | hb
    · rw [hb]
      exact ⟨1, aL (first.trans (OT.aw hb))⟩
    · rw [hb]
      obtain ⟨m, hm⟩ := WC c l c0 hl d (k + 1) (by omega)
      refine ⟨m + 1, aM ?_ hm⟩
      refine first.trans ((OT.ap hb).trans ((OT.ap hr).trans ((al ?_).trans ?_)))
      · simp only [List.all_cons, List.all_nil, Bool.and_true]
        exact bE (by omega)
      · rw [e2]
        simp only [Bw, List.map_append, List.map_cons, List.map_nil]
        rfl
theorem aqh : ∀ s : bK, Ke s = true → ∃ m e, aq yC m s = some e ∧ (Kg Kf Sl Sk s).run = some e := by
  rintro ⟨⟨⟨⟩, ⟨⟩, l, n, k, ⟨⟩⟩, ⟨c0, ⟨c, ⟨⟩, ⟨⟩⟩, o, ⟨⟩⟩⟩ h
  have h' := of_decide_eq_true h
  dsimp only at h'
  obtain ⟨rfl, rfl, rfl, hl⟩ := h'
  obtain ⟨m, hm⟩ := WC c l c0 hl l.length 0 (by omega)
  refine ⟨m, _, hm, ?_⟩
  show (OT.br (!cF c l) _ _ : OT aP).run = some (cond (cF c l) _ _)
  cases cF c l <;> rfl
def XJ (_ : aau) : Bool := true
def anp (x : aau) : OT nU.Y := .br (ak x.1.1) (.br (decide (x.1.2.1.length ≤ 100000)) (.br (cF x.1.1 x.1.2.1) (.ok ⟨ic, ((Gd x.1.1 (Bw x.1.1 x.1.2.1), ((0 : Int), ())), ())⟩)
  (.ok ⟨ic, ((fh, ((41 : Int), ())), ())⟩)) (.ok ⟨ic, ((fh, ((50 : Int), ())), ())⟩)) (.ok ⟨ic, ((fh, ((40 : Int), ())), ())⟩)
theorem aqg : ac Tryz.prog 74 (nU.aH XJ anp) := af5 Ke Kf Sl Sk aqh _ _ fun x oy hp ho => by
  rw [← ho]
  clear ho
  obtain ⟨⟨c, l, ⟨⟩⟩, ⟨⟩⟩ := x
  show (XK Ke Kf Sl Sk c l).run = (OT.br (ak c) (.br (decide (l.length ≤ 100000)) (.br (cF c l) (.ok ⟨ic, ((Gd c (Bw c l), ((0 : Int), ())), ())⟩)
    (.ok ⟨ic, ((fh, ((41 : Int), ())), ())⟩)) (.ok ⟨ic, ((fh, ((50 : Int), ())), ())⟩)) (.ok ⟨ic, ((fh, ((40 : Int), ())), ())⟩) : OT nU.Y).run
  rcases (Bool.eq_false_or_eq_true (ak c)).symm with hs | hs
  · exact (OT.aw hs).trans (OT.aw (b := ak c) hs).symm
  · refine (OT.ap hs).trans (Eq.trans ?_ (OT.ap (b := ak c) hs).symm)
    by_cases hl : l.length ≤ 100000
    · refine (OT.aw (decide_eq_false (by omega))).trans (Eq.trans ?_ (OT.ap (b := decide (l.length ≤ 100000)) (decide_eq_true hl)).symm)
      refine (al ?_).trans ?_
      · simp only [List.all_cons, List.all_nil, Bool.and_true]
        exact decide_eq_true ⟨rfl, rfl, rfl, hl⟩
      · rcases (Bool.eq_false_or_eq_true (cF c l)).symm with ha | ha
        · exact (OT.ap (b := !cF c l) (by rw [ha]; rfl)).trans (OT.aw (b := cF c l) ha).symm
        · refine (OT.aw (b := !cF c l) (by rw [ha]; rfl)).trans (Eq.trans ?_ (OT.ap (b := cF c l) ha).symm)
          refine (al ?_).trans rfl
          simp only [List.all_cons, List.all_nil, Bool.and_true]
          refine decide_eq_true ?_
          show (Bw c l).length ≤ _
          rw [Bw, List.length_map]
          omega
    · exact (OT.ap (decide_eq_true (by omega))).trans (OT.aw (b := decide (l.length ≤ 100000)) (decide_eq_false hl)).symm
def Dm : cG := (nU.aH XJ anp)
theorem aat : ac Tryz.prog 74 Dm := aqg
theorem aas : aK Dm := aB
def Fz : Env := aA 74 Dm rR
theorem pX : aV Tryz.prog Fz := ai aat nG
theorem Fx : ax Fz := ae aas wC
theorem zG : aZ Tryz.prog te Fz := aN follows au pX Fx
def iN : av := ⟨[.val false .int, .val false (.list uu)], [], true, 0, false⟩
abbrev GS : Type := ((Int) × (List ((aa × (aa × (aa × Bool))))) × Unit) × (Unit)
def uJ : Shape := ⟨58, [(0, .val false .int), (1, .val false (.list (.prod .elem (.prod .elem (.prod .elem .bool))))), (4, .ptr 0 0 0), (6, .ptr 1 0 0), (7, .val false .int)], [(0, .cells [.val false .u64, .val false .u64, .val false .u64, .val false .u64, .val false .u64, .val false .u64, .val false .u64, .val false .u64, .val false .bool]), (1, .cells [.val false .u64, .val false .u64, .val false .u64, .val false .u64, .val false .u64, .val false .u64, .val false .u64, .val false .u64, .val false .bool])], 0, true⟩
abbrev bp : Type := ((Int) × (List ((aa × (aa × (aa × Bool))))) × (Unit) × (Unit) × (Int) × Unit) × (((UInt64) × (UInt64) × (UInt64) × (UInt64) × (UInt64) × (UInt64) × (UInt64) × (UInt64) × (Bool) × Unit) × ((UInt64) × (UInt64) × (UInt64) × (UInt64) × (UInt64) × (UInt64) × (UInt64) × (UInt64) × (Bool) × Unit) × Unit)
def qv : Shape := ⟨58, [(4, .ptr 0 0 0), (5, .val false .int)], [(0, .cells [.val false .u64, .val false .u64, .val false .u64, .val false .u64, .val false .u64, .val false .u64, .val false .u64, .val false .u64, .val false .bool])], 0, true⟩
abbrev jM : Type := ((Unit) × (Int) × Unit) × (((UInt64) × (UInt64) × (UInt64) × (UInt64) × (UInt64) × (UInt64) × (UInt64) × (UInt64) × (Bool) × Unit) × Unit)
def qw : Shape := ⟨58, [(0, .val false .int), (1, .val false (.list (.prod .elem (.prod .elem (.prod .elem .bool))))), (4, .ptr 0 0 0), (6, .ptr 1 0 0)], [(0, .cells [.val false .u64, .val false .u64, .val false .u64, .val false .u64, .val false .u64, .val false .u64, .val false .u64, .val false .u64, .val false .bool]), (1, .cells [.val false .u64, .val false .u64, .val false .u64, .val false .u64, .val false .u64, .val false .u64, .val false .u64, .val false .u64, .val false .bool])], 0, true⟩
abbrev jN : Type := ((Int) × (List ((aa × (aa × (aa × Bool))))) × (Unit) × (Unit) × Unit) × (((UInt64) × (UInt64) × (UInt64) × (UInt64) × (UInt64) × (UInt64) × (UInt64) × (UInt64) × (Bool) × Unit) × ((UInt64) × (UInt64) × (UInt64) × (UInt64) × (UInt64) × (UInt64) × (UInt64) × (UInt64) × (Bool) × Unit) × Unit)
def WT : SE → Option Shape := jr [(0, qw)] (some qv)
def akT (a0 : Int) (a1 : List ((aa × (aa × (aa × Bool))))) (a7 : Int) (c0_0 : UInt64) (c0_1 : UInt64) (c0_2 : UInt64) (c0_3 : UInt64) (c0_4 : UInt64) (c0_5 : UInt64) (c0_6 : UInt64) (c0_7 : UInt64) (c0_8 : Bool) (c1_0 : UInt64) (c1_1 : UInt64) (c1_2 : UInt64) (c1_3 : UInt64) (c1_4 : UInt64) (c1_5 : UInt64) (c1_6 : UInt64) (c1_7 : UInt64) (c1_8 : Bool) : OT (Sum bp aP) :=
  let z0 : Nat := List.length a1
  let z1 : aa := { w0 := 0, w1 := 0, w2 := 0, w3 := 0 }
  (.br (decide (a7 < (↑z0 : Int)))
  (gd [inB a7 z0] (.br (!onB a0 (List.getD a1 (Int.toNat a7) (z1, z1, z1, false)).snd)
    (.ok (.inr ⟨(.ret, qv), (((), ((41 : Int), ())), (((0 : UInt64), ((0 : UInt64), ((0 : UInt64), ((0 : UInt64), ((0 : UInt64), ((0 : UInt64), ((0 : UInt64), ((0 : UInt64), (false, ()))))))))), ()))⟩))
    (gd [inR (a7 + (1 : Int))] (.ok (.inl ((a0, (a1, ((), ((), (a7 + (1 : Int), ()))))), ((c0_0, (c0_1, (c0_2, (c0_3, (c0_4, (c0_5, (c0_6, (c0_7, (c0_8, ()))))))))), ((c1_0, (c1_1, (c1_2, (c1_3, (c1_4, (c1_5, (c1_6, (c1_7, (c1_8, ()))))))))), ()))))))))
  (.ok (.inr ⟨(.exit 0, qw), ((a0, (a1, ((), ((), ())))), ((c0_0, (c0_1, (c0_2, (c0_3, (c0_4, (c0_5, (c0_6, (c0_7, (c0_8, ()))))))))), ((c1_0, (c1_1, (c1_2, (c1_3, (c1_4, (c1_5, (c1_6, (c1_7, (c1_8, ()))))))))), ())))⟩)))
def uM (s : bp) : OT (Sum bp aP) := akT (s.1.1) (s.1.2.1) (s.1.2.2.2.2.1) (s.2.1.1) (s.2.1.2.1) (s.2.1.2.2.1) (s.2.1.2.2.2.1) (s.2.1.2.2.2.2.1) (s.2.1.2.2.2.2.2.1) (s.2.1.2.2.2.2.2.2.1) (s.2.1.2.2.2.2.2.2.2.1) (s.2.1.2.2.2.2.2.2.2.2.1) (s.2.2.1.1) (s.2.2.1.2.1) (s.2.2.1.2.2.1) (s.2.2.1.2.2.2.1) (s.2.2.1.2.2.2.2.1) (s.2.2.1.2.2.2.2.2.1) (s.2.2.1.2.2.2.2.2.2.1) (s.2.2.1.2.2.2.2.2.2.2.1) (s.2.2.1.2.2.2.2.2.2.2.2.1)
theorem akO (s : bp) (Q : Sum bp aP → Prop) : wps te Fz ay 1000 (bF (ao Tryz.f149) 0) (uJ.inj s) (cQ uJ WT (Q : Sum uJ.T aP → Prop)) = (uM s).wpR Q := by kernel_rfl
def BA (g0_r : bp → jM) (c0_r : bp → Bool) (g0_0 : bp → jN) (s : bp) : OT aP := (.br (c0_r s) (.ok ⟨(.ret, qv), g0_r s⟩) (.ok ⟨(.exit 0, qw), g0_0 s⟩))
def uI : Shape := ⟨58, [(0, .val false .int), (1, .val false (.list (.prod .elem (.prod .elem (.prod .elem .bool))))), (4, .ptr 0 0 0), (6, .ptr 1 0 0), (8, .val false .int)], [(0, .cells [.val false .u64, .val false .u64, .val false .u64, .val false .u64, .val false .u64, .val false .u64, .val false .u64, .val false .u64, .val false .bool]), (1, .cells [.val false .u64, .val false .u64, .val false .u64, .val false .u64, .val false .u64, .val false .u64, .val false .u64, .val false .u64, .val false .bool])], 0, true⟩
abbrev cv : Type := ((Int) × (List ((aa × (aa × (aa × Bool))))) × (Unit) × (Unit) × (Int) × Unit) × (((UInt64) × (UInt64) × (UInt64) × (UInt64) × (UInt64) × (UInt64) × (UInt64) × (UInt64) × (Bool) × Unit) × ((UInt64) × (UInt64) × (UInt64) × (UInt64) × (UInt64) × (UInt64) × (UInt64) × (UInt64) × (Bool) × Unit) × Unit)
def qu : Shape := ⟨58, [(4, .ptr 0 0 0), (6, .ptr 1 0 0)], [(0, .cells [.val false .u64, .val false .u64, .val false .u64, .val false .u64, .val false .u64, .val false .u64, .val false .u64, .val false .u64, .val false .bool]), (1, .cells [.val false .u64, .val false .u64, .val false .u64, .val false .u64, .val false .u64, .val false .u64, .val false .u64, .val false .u64, .val false .bool])], 0, true⟩
abbrev jL : Type := ((Unit) × (Unit) × Unit) × (((UInt64) × (UInt64) × (UInt64) × (UInt64) × (UInt64) × (UInt64) × (UInt64) × (UInt64) × (Bool) × Unit) × ((UInt64) × (UInt64) × (UInt64) × (UInt64) × (UInt64) × (UInt64) × (UInt64) × (UInt64) × (Bool) × Unit) × Unit)
def WS : SE → Option Shape := jr [(2, qu)] none
def akS (a0 : Int) (a1 : List ((aa × (aa × (aa × Bool))))) (a8 : Int) (c0_0 : UInt64) (c0_1 : UInt64) (c0_2 : UInt64) (c0_3 : UInt64) (c0_4 : UInt64) (c0_5 : UInt64) (c0_6 : UInt64) (c0_7 : UInt64) (c0_8 : Bool) (c1_0 : UInt64) (c1_1 : UInt64) (c1_2 : UInt64) (c1_3 : UInt64) (c1_4 : UInt64) (c1_5 : UInt64) (c1_6 : UInt64) (c1_7 : UInt64) (c1_8 : Bool) : OT (Sum cv aP) :=
  let z0 : Nat := List.length a1
  let z1 : Bool := inB a8 z0
  let z2 : aa := { w0 := 0, w1 := 0, w2 := 0, w3 := 0 }
  let z3 : aa × aa × aa × Bool := List.getD a1 (Int.toNat a8) (z2, z2, z2, false)
  let z4 : aa × aa × Bool := Bb a0 ({ w0 := c1_0, w1 := c1_1, w2 := c1_2, w3 := c1_3 }, { w0 := c1_4, w1 := c1_5, w2 := c1_6, w3 := c1_7 }, c1_8) (o0 a0 z3.fst z3.snd)
  let z5 := z4.fst
  let z6 := z4.snd
  let z7 := z6.fst
  (.br (decide (a8 < (↑z0 : Int)))
  (gd [z1, z1, inR (a8 + (1 : Int))] (.ok (.inl ((a0, (a1, ((), ((), (a8 + (1 : Int), ()))))), ((c0_0, (c0_1, (c0_2, (c0_3, (c0_4, (c0_5, (c0_6, (c0_7, (c0_8, ()))))))))), ((z5.w0, (z5.w1, (z5.w2, (z5.w3, (z7.w0, (z7.w1, (z7.w2, (z7.w3, (z6.snd, ()))))))))), ()))))))
  (.ok (.inr ⟨(.exit 2, qu), (((), ((), ())), ((c0_0, (c0_1, (c0_2, (c0_3, (c0_4, (c0_5, (c0_6, (c0_7, (c0_8, ()))))))))), ((c1_0, (c1_1, (c1_2, (c1_3, (c1_4, (c1_5, (c1_6, (c1_7, (c1_8, ()))))))))), ())))⟩)))
def uL (s : cv) : OT (Sum cv aP) := akS (s.1.1) (s.1.2.1) (s.1.2.2.2.2.1) (s.2.1.1) (s.2.1.2.1) (s.2.1.2.2.1) (s.2.1.2.2.2.1) (s.2.1.2.2.2.2.1) (s.2.1.2.2.2.2.2.1) (s.2.1.2.2.2.2.2.2.1) (s.2.1.2.2.2.2.2.2.2.1) (s.2.1.2.2.2.2.2.2.2.2.1) (s.2.2.1.1) (s.2.2.1.2.1) (s.2.2.1.2.2.1) (s.2.2.1.2.2.2.1) (s.2.2.1.2.2.2.2.1) (s.2.2.1.2.2.2.2.2.1) (s.2.2.1.2.2.2.2.2.2.1) (s.2.2.1.2.2.2.2.2.2.2.1) (s.2.2.1.2.2.2.2.2.2.2.2.1)
theorem akN (s : cv) (Q : Sum cv aP → Prop) : wps te Fz ay 1000 (bF (ao Tryz.f149) 2) (uI.inj s) (cQ uI WS (Q : Sum uI.T aP → Prop)) = (uL s).wpR Q := by kernel_rfl
def Bz (g2_2 : cv → jL) (s : cv) : OT aP := (.ok ⟨(.exit 2, qu), g2_2 s⟩)
def eK : az := ⟨[.val true (.prod .elem (.prod .elem .bool)), .val false .int], [], false⟩
def MI : SV → Option az := fun _ => some eK
def Ju (ok0 : bp → Bool) (g0_r : bp → jM) (c0_r : bp → Bool) (g0_0 : bp → jN) (ok2 : cv → Bool) (g2_2 : cv → jL) (a0 : Int) (a1 : List ((aa × (aa × (aa × Bool))))) : OT iN.Y :=
  let z0 : aa := { w0 := 0, w1 := 0, w2 := 0, w3 := 0 }
  let z1 : aa × aa × Bool := (z0, z0, false)
  let z2 : (Int × List (aa × aa × aa × Bool) × PUnit × PUnit × Int × PUnit) × (UInt64 × UInt64 × UInt64 × UInt64 × UInt64 × UInt64 × UInt64 × UInt64 × Bool × PUnit) × (UInt64 × UInt64 × UInt64 × UInt64 × UInt64 × UInt64 × UInt64 × UInt64 × Bool × PUnit) × PUnit := ((a0, a1, (), (), (0 : Int), ()), ((0 : UInt64), (0 : UInt64), (0 : UInt64), (0 : UInt64), (0 : UInt64), (0 : UInt64), (0 : UInt64), (0 : UInt64), false, ()), ((0 : UInt64), (0 : UInt64), (0 : UInt64), (0 : UInt64), (0 : UInt64), (0 : UInt64), (0 : UInt64), (0 : UInt64), true, ()), ())
  let z3 : (PUnit × Int × PUnit) × (UInt64 × UInt64 × UInt64 × UInt64 × UInt64 × UInt64 × UInt64 × UInt64 × Bool × PUnit) × PUnit := g0_r z2
  let z4 := z3.snd.fst
  let z5 := z4.snd
  let z6 := z5.snd
  let z7 := z6.snd
  let z8 := z7.snd
  let z9 := z8.snd
  let z10 := z9.snd
  let z11 := z10.snd
  let z12 : (Int × List (aa × aa × aa × Bool) × PUnit × PUnit × PUnit) × (UInt64 × UInt64 × UInt64 × UInt64 × UInt64 × UInt64 × UInt64 × UInt64 × Bool × PUnit) × (UInt64 × UInt64 × UInt64 × UInt64 × UInt64 × UInt64 × UInt64 × UInt64 × Bool × PUnit) × PUnit := g0_0 z2
  let z13 := z12.fst
  let z14 := z12.snd
  let z15 := z14.fst
  let z16 := z15.snd
  let z17 := z16.snd
  let z18 := z17.snd
  let z19 := z18.snd
  let z20 := z19.snd
  let z21 := z20.snd
  let z22 := z21.snd
  let z23 := z14.snd.fst
  let z24 := z23.snd
  let z25 := z24.snd
  let z26 := z25.snd
  let z27 := z26.snd
  let z28 := z27.snd
  let z29 := z28.snd
  let z30 := z29.snd
  let z31 : (Int × List (aa × aa × aa × Bool) × PUnit × PUnit × Int × PUnit) × (UInt64 × UInt64 × UInt64 × UInt64 × UInt64 × UInt64 × UInt64 × UInt64 × Bool × PUnit) × (UInt64 × UInt64 × UInt64 × UInt64 × UInt64 × UInt64 × UInt64 × UInt64 × Bool × PUnit) × PUnit := ((z13.fst, z13.snd.fst, (), (), (0 : Int), ()), (z15.fst, z16.fst, z17.fst, z18.fst, z19.fst, z20.fst, z21.fst, z22.fst, z22.snd.fst, ()), (z23.fst, z24.fst, z25.fst, z26.fst, z27.fst, z28.fst, z29.fst, z30.fst, z30.snd.fst, ()), ())
  let z32 := (g2_2 z31).snd.snd.fst
  let z33 := z32.snd
  let z34 := z33.snd
  let z35 := z34.snd
  let z36 := z35.snd
  let z37 := z36.snd
  let z38 := z37.snd
  let z39 := z38.snd
  (.br (decide (a0 < (0 : Int)))
  (.ok ⟨eK, ((z1, ((40 : Int), ())), ())⟩)
  (.br (decide ((3 : Int) < a0))
    (.ok ⟨eK, ((z1, ((40 : Int), ())), ())⟩)
    (.br (decide ((100000 : Int) < (↑(List.length a1) : Int)))
      (.ok ⟨eK, ((z1, ((50 : Int), ())), ())⟩)
      (gd [ok0 z2] (.br (c0_r z2)
        (.ok ⟨eK, ((({ w0 := z4.fst, w1 := z5.fst, w2 := z6.fst, w3 := z7.fst }, { w0 := z8.fst, w1 := z9.fst, w2 := z10.fst, w3 := z11.fst }, z11.snd.fst), (z3.fst.snd.fst, ())), ())⟩)
        (gd [ok2 z31] (.ok ⟨eK, ((({ w0 := z32.fst, w1 := z33.fst, w2 := z34.fst, w3 := z35.fst }, { w0 := z36.fst, w1 := z37.fst, w2 := z38.fst, w3 := z39.fst }, z39.snd.fst), ((0 : Int), ())), ())⟩)))))))
theorem apy (ok0 : bp → Bool) (g0_r : bp → jM) (c0_r : bp → Bool) (g0_0 : bp → jN) (ok2 : cv → Bool) (g2_2 : cv → jL) (x : GS) (Q : iN.Y → Prop) : wpf te Fz (bg 2 (di uI 2 ok2 (Bz g2_2)) (bg 0 (di uJ 0 ok0 (BA g0_r c0_r g0_0)) ay)) 1000 Tryz.f149 (iN.inp.inj x).tm (iN.inp.inj x).hp (fnK iN MI Q) (fun _ _ => False) = (Ju ok0 g0_r c0_r g0_0 ok2 g2_2 (x.1.1) (x.1.2.1)).wpR Q := by kernel_rfl
theorem Zz (ok0 : bp → Bool) (g0_r : bp → jM) (c0_r : bp → Bool) (g0_0 : bp → jN) (ok2 : cv → Bool) (g2_2 : cv → jL) (h0 : ∀ s : bp, ok0 s = true → ∃ m e, aq (uM) m s = some e ∧ (BA g0_r c0_r g0_0 s).run = some e) (h2 : ∀ s : cv, ok2 s = true → ∃ m e, aq (uL) m s = some e ∧ (Bz g2_2 s).run = some e) (pre : GS → Bool) (F : GS → OT iN.Y) (hF : ∀ (x : GS) oy, pre x = true → (F x).run = some oy → (Ju ok0 g0_r c0_r g0_0 ok2 g2_2 (x.1.1) (x.1.2.1)).run = some oy) : ac Tryz.prog 149 (iN.aH pre F) :=
  aC au pX zG (f := 149) (fn := Tryz.f149) (c := ao Tryz.f149) (by kernel_rfl) (by kernel_rfl) (by kernel_rfl) (S := iN) (k := 0) (by kernel_rfl) (fun R hR => (aF (c := (ao Tryz.f149)) (by kernel_rfl) (id := 2) (by kernel_rfl) (bt au pX zG (sh := uI) hR (xs := WS) (aG (by kernel_rfl) (by kernel_rfl) hR) aW af (n := 1000) (T := uL) (fun s Q => akN s Q) (ok := ok2) (f := Bz g2_2) h2) (aF (c := (ao Tryz.f149)) (by kernel_rfl) (id := 0) (by kernel_rfl) (bt au pX zG (sh := uJ) hR (xs := WT) (aG (by kernel_rfl) (by kernel_rfl) hR) aW af (n := 1000) (T := uM) (fun s Q => akO s Q) (ok := ok0) (f := BA g0_r c0_r g0_0) h0) af))) (n := 1000) (sel := MI) (fun v o h => by cases h; rfl) (pre := pre) (F := F) (T := fun x => Ju ok0 g0_r c0_r g0_0 ok2 g2_2 (x.1.1) (x.1.2.1)) (fun x Q => apy ok0 g0_r c0_r g0_0 ok2 g2_2 x Q) hF
def MA (c : Int) (l : List Tm) (k : Nat) (O : Pt) : Pt := Bb c O (o0 c (l.getD k fN).1 (l.getD k fN).2)
def Cn (c : Int) (l : List Tm) : Pt := upto (MA c l) aD l.length
def uK (s : bp) : Bool := decide (s.1.2.2.2.2.1 = 0 ∧ s.1.2.1.length ≤ 100000)
def Cx (_ : bp) : jM := (((), (41 : Int), ()), (bf fh, ()))
def Jt (s : bp) : Bool := !cF s.1.1 s.1.2.1
def Js (s : bp) : jN := ((s.1.1, s.1.2.1, (), (), ()), s.2)
def Zs (c : Int) (l : List Tm) (c0 c1 : C9) (k : Int) : bp := ((c, l, (), (), k, ()), (c0, c1, ()))
theorem aec (c : Int) (l : List Tm) (c0 c1 : C9) (hl : l.length ≤ 100000) : ∀ d k : Nat, k + d = l.length →
    ∃ m, aq uM m (Zs c l c0 c1 (k : Int)) = some (cond (cF c (l.drop k)) ⟨(.exit 0, qw), ((c, l, (), (), ()), (c0, c1, ()))⟩ ⟨(.ret, qv), (((), (41 : Int), ()), (bf fh, ()))⟩)
  | 0, k, h => by
    rw [List.drop_eq_nil_of_le (by omega)]
    exact ⟨1, aL (OT.aw (decide_eq_false (by dsimp only [Zs]; omega)))⟩
  | d + 1, k, h => by
    have hk : k < l.length := by omega
    have e1 : l.drop k = l[k] :: l.drop (k + 1) := List.drop_eq_getElem_cons hk
    have e3 : l.getD k fN = l[k] := by rw [List.getD_eq_getElem?_getD, List.getElem?_eq_getElem hk]; rfl
    have hgd : ∀ z : OT (Sum bp aP), (gd [inB (k : Int) l.length] z).run = z.run := fun z => al (by rw [bD (by omega)]; rfl)
    have ea : cF c (l.drop k) = (onB c l[k].2 && cF c (l.drop (k + 1))) := by rw [e1]; rfl
    have hb' : onB c (l.getD k fN).2 = onB c l[k].2 := by rw [e3]
    rw [ea]
    rcases (Bool.eq_false_or_eq_true (onB c l[k].2)).symm with hb | hb
    · rw [hb]
      exact ⟨1, aL ((OT.ap (decide_eq_true (by dsimp only [Zs]; omega))).trans ((hgd _).trans (OT.ap (b := !onB c (l.getD k fN).2) (by rw [hb', hb]; rfl))))⟩
    · rw [hb]
      obtain ⟨m, hm⟩ := aec c l c0 c1 hl d (k + 1) (by omega)
      refine ⟨m + 1, aM ?_ hm⟩
      refine (OT.ap (decide_eq_true (by dsimp only [Zs]; omega))).trans ((hgd _).trans ((OT.aw (b := !onB c (l.getD k fN).2) (by rw [hb', hb]; rfl)).trans ((al ?_).trans rfl)))
      simp only [List.all_cons, List.all_nil, Bool.and_true]
      exact bE (by dsimp only [Zs]; omega)
theorem akR : ∀ s : bp, uK s = true → ∃ m e, aq uM m s = some e ∧ (BA Cx Jt Js s).run = some e := by
  rintro ⟨⟨c, l, ⟨⟩, ⟨⟩, k, ⟨⟩⟩, ⟨c0, c1, ⟨⟩⟩⟩ h
  have h' := of_decide_eq_true h
  dsimp only at h'
  obtain ⟨rfl, hl⟩ := h'
  obtain ⟨m, hm⟩ := aec c l c0 c1 hl l.length 0 (by omega)
  refine ⟨m, _, hm, ?_⟩
  show (OT.br (!cF c l) _ _ : OT aP).run = some (cond (cF c l) _ _)
  cases cF c l <;> rfl
def Cw (s : cv) : Bool := decide (s.1.2.2.2.2.1 = 0 ∧ s.1.2.1.length ≤ 100000)
def Jr (s : cv) : jL := (((), (), ()), (s.2.1, bf (upto (MA s.1.1 s.1.2.1) (kt s.2.2.1) s.1.2.1.length), ()))
theorem akQ : ∀ s : cv, Cw s = true → ∃ m e, aq uL m s = some e ∧ (Bz Jr s).run = some e := by
  rintro ⟨⟨c, l, ⟨⟩, ⟨⟩, i, ⟨⟩⟩, ⟨c0, c1, ⟨⟩⟩⟩ h
  have h' := of_decide_eq_true h
  dsimp only at h'
  obtain ⟨rfl, hl⟩ := h'
  obtain ⟨P, rfl⟩ : ∃ P, c1 = bf P := ⟨kt c1, rfl⟩
  have := (bP (T := uL) (fun i O => (((c, l, (), (), (i : Int), ()), (c0, bf O, ())) : cv)) (MA c l)
    (fun O => (⟨(.exit 2, qu), (((), (), ()), (c0, bf O, ()))⟩ : aP)) l.length P (fun _ _ => True) trivial (fun k O hk _ => ⟨?_, trivial⟩) (fun O _ => ?_)).1
  · obtain ⟨m, hm⟩ := this
    exact ⟨m, _, hm, rfl⟩
  · refine (OT.ap (decide_eq_true (by dsimp only; omega))).trans ((al ?_).trans ?_)
    · simp only [List.all_cons, List.all_nil, Bool.and_true, Bool.and_eq_true]
      exact ⟨bD (by omega), bD (by omega), bE (by omega)⟩
    · simp only [OT.jG, Int.toNat_natCast]
      rfl
  · exact OT.aw (decide_eq_false (by dsimp only; omega))
def MJ (_ : GS) : Bool := true
def aeA (x : GS) : OT iN.Y := .br (ak x.1.1) (.br (decide (x.1.2.1.length ≤ 100000)) (.br (cF x.1.1 x.1.2.1) (.ok ⟨eK, ((Cn x.1.1 x.1.2.1, ((0 : Int), ())), ())⟩)
  (.ok ⟨eK, ((fh, ((41 : Int), ())), ())⟩)) (.ok ⟨eK, ((fh, ((50 : Int), ())), ())⟩)) (.ok ⟨eK, ((fh, ((40 : Int), ())), ())⟩)
theorem akP : ac Tryz.prog 149 (iN.aH MJ aeA) := Zz uK Cx Jt Js Cw Jr akR akQ _ _ fun x oy hp ho => by
  rw [← ho]
  clear ho
  obtain ⟨⟨c, l, ⟨⟩⟩, ⟨⟩⟩ := x
  show (Ju uK Cx Jt Js Cw Jr c l).run = (OT.br (ak c) (.br (decide (l.length ≤ 100000)) (.br (cF c l) (.ok ⟨eK, ((Cn c l, ((0 : Int), ())), ())⟩)
    (.ok ⟨eK, ((fh, ((41 : Int), ())), ())⟩)) (.ok ⟨eK, ((fh, ((50 : Int), ())), ())⟩)) (.ok ⟨eK, ((fh, ((40 : Int), ())), ())⟩) : OT iN.Y).run
  rcases (Bool.eq_false_or_eq_true (ak c)).symm with hs | hs
  · refine Eq.trans ?_ (OT.aw (b := ak c) hs).symm
    by_cases h1 : c < 0
    · exact (OT.ap (decide_eq_true h1)).trans rfl
    · refine (OT.aw (decide_eq_false h1)).trans ((OT.ap (decide_eq_true ?_)).trans rfl)
      simp only [ak, Bool.and_eq_false_iff, decide_eq_false_iff_not] at hs
      omega
  · have hc : 0 ≤ c ∧ c < 4 := by simpa [ak] using hs
    refine (OT.aw (decide_eq_false (by omega))).trans ((OT.aw (decide_eq_false (by omega))).trans (Eq.trans ?_ (OT.ap (b := ak c) hs).symm))
    by_cases hl : l.length ≤ 100000
    · have k0 : uK (Zs c l (bf fh) (bf aD) 0) = true := decide_eq_true ⟨rfl, hl⟩
      refine (OT.aw (decide_eq_false (by omega))).trans (Eq.trans ?_ (OT.ap (b := decide (l.length ≤ 100000)) (decide_eq_true hl)).symm)
      refine (al ?_).trans ?_
      · simp only [List.all_cons, List.all_nil, Bool.and_true]
        exact k0
      · rcases (Bool.eq_false_or_eq_true (cF c l)).symm with ha | ha
        · exact (OT.ap (b := !cF c l) (by rw [ha]; rfl)).trans (OT.aw (b := cF c l) ha).symm
        · refine (OT.aw (b := !cF c l) (by rw [ha]; rfl)).trans (Eq.trans ?_ (OT.ap (b := cF c l) ha).symm)
          refine (al ?_).trans rfl
          simp only [List.all_cons, List.all_nil, Bool.and_true]
          exact decide_eq_true ⟨rfl, hl⟩
    · exact (OT.ap (decide_eq_true (by omega))).trans (OT.aw (b := decide (l.length ≤ 100000)) (decide_eq_false hl)).symm
def xu : cG := (iN.aH MJ aeA)
theorem QV : ac Tryz.prog 149 xu := akP
theorem QU : aK xu := aB
def E7 : Env := aA 149 xu Fz
theorem zm : aV Tryz.prog E7 := ai QV pX
theorem Ay : ax E7 := ae QU Fx
theorem T5 : aZ Tryz.prog te E7 := aN follows au zm Ay
def eR : av := ⟨[.val false .int, .val false (.list uu)], [], true, 0, false⟩
abbrev qt : Type := ((Int) × (List ((aa × (aa × (aa × Bool))))) × Unit) × (Unit)
def gY : az := ⟨[.val true (.prod .elem (.prod .elem .bool))], [], false⟩
def Ct : SV → Option az := fun _ => some gY
def ox (a0 : Int) (a1 : List ((aa × (aa × (aa × Bool))))) : OT eR.Y :=
  let z0 : aa := { w0 := 0, w1 := 0, w2 := 0, w3 := 0 }
  let z1 : aa × aa × Bool := (z0, z0, false)
  (.br (ak a0)
  (.br (decide (List.length a1 ≤ 100000))
    (.br (cF a0 a1)
      (.ok ⟨gY, ((Cn a0 a1, ()), ())⟩)
      (.ok ⟨gY, ((z1, ()), ())⟩))
    (.ok ⟨gY, ((z1, ()), ())⟩))
  (.ok ⟨gY, ((z1, ()), ())⟩))
theorem aez (x : qt) (Q : eR.Y → Prop) : wpf te E7 ay 1000 Tryz.f117 (eR.inp.inj x).tm (eR.inp.inj x).hp (fnK eR Ct Q) (fun _ _ => False) = (ox (x.1.1) (x.1.2.1)).wpR Q := by kernel_rfl
theorem MG (pre : qt → Bool) (F : qt → OT eR.Y) (hF : ∀ (x : qt) oy, pre x = true → (F x).run = some oy → (ox (x.1.1) (x.1.2.1)).run = some oy) : ac Tryz.prog 117 (eR.aH pre F) :=
  aC au zm T5 (f := 117) (fn := Tryz.f117) (c := ao Tryz.f117) (by kernel_rfl) (by kernel_rfl) (by kernel_rfl) (S := eR) (k := 0) (by kernel_rfl) (fun R hR => af) (n := 1000) (sel := Ct) (fun v o h => by cases h; rfl) (pre := pre) (F := F) (T := fun x => ox (x.1.1) (x.1.2.1)) (fun x Q => aez x Q) hF
def oq (c : Int) (l : List Tm) : Pt := cond (ak c) (cond (decide (l.length ≤ 100000)) (cond (cF c l) (Cn c l) fh) fh) fh
def Cu (_ : qt) : Bool := true
def MH (x : qt) : OT eR.Y := .ok ⟨gY, ((oq x.1.1 x.1.2.1, ()), ())⟩
theorem Zy : ac Tryz.prog 117 (eR.aH Cu MH) := MG _ _ fun x oy hp ho => by
  rw [← ho]
  clear ho
  obtain ⟨⟨c, l, ⟨⟩⟩, ⟨⟩⟩ := x
  show (ox c l).run = some ⟨gY, ((oq c l, ()), ())⟩
  unfold ox oq
  cases ak c <;> cases decide (l.length ≤ 100000) <;> cases cF c l <;> rfl
def ow : cG := (eR.aH Cu MH)
theorem Jq : ac Tryz.prog 117 ow := Zy
theorem Jp : aK ow := aB
def pQ : Env := aA 117 ow E7
theorem pP : aV Tryz.prog pQ := ai Jq zm
theorem sf : ax pQ := ae Jp Ay
theorem LC : aZ Tryz.prog te pQ := aN follows au pP sf
abbrev alI : Ty := .prod .int (.prod .int (.prod (.list (.prod .elem (.prod .elem .bool))) (.prod (.prod .elem (.prod .elem .bool)) (.prod .elem (.prod .elem .bool)))))
def atN : CSh := .cells [.val false .int, .val false .int, .val false (.list (.prod .elem (.prod .elem .bool))), .val false .u64, .val false .u64, .val false .u64, .val false .u64, .val false .u64, .val false .u64, .val false .u64, .val false .u64, .val false .bool, .val false .u64, .val false .u64, .val false .u64, .val false .u64, .val false .u64, .val false .u64, .val false .u64, .val false .u64, .val false .bool]
def fD : av := ⟨[.val true (.prod .elem (.prod .elem .bool)), .ptr 0 0 0], [(0, atN)], false, 1, true⟩
abbrev ya : Type := (((aa × (aa × Bool))) × (Unit) × Unit) × (((Int) × (Int) × (List ((aa × (aa × Bool)))) × (UInt64) × (UInt64) × (UInt64) × (UInt64) × (UInt64) × (UInt64) × (UInt64) × (UInt64) × (Bool) × (UInt64) × (UInt64) × (UInt64) × (UInt64) × (UInt64) × (UInt64) × (UInt64) × (UInt64) × (Bool) × Unit) × Unit)
def oN : az := ⟨[.val false .bool], [(0, .cells [.val false .int, .val false .int, .val false (.list (.prod .elem (.prod .elem .bool))), .val false .u64, .val false .u64, .val false .u64, .val false .u64, .val false .u64, .val false .u64, .val false .u64, .val false .u64, .val false .bool, .val false .u64, .val false .u64, .val false .u64, .val false .u64, .val false .u64, .val false .u64, .val false .u64, .val false .u64, .val false .bool])], false⟩
def Hk : SV → Option az := fun _ => some oN
def JO (a0 : (aa × (aa × Bool))) (c0_0 : Int) (c0_1 : Int) (c0_2 : List ((aa × (aa × Bool)))) (c0_3 : UInt64) (c0_4 : UInt64) (c0_5 : UInt64) (c0_6 : UInt64) (c0_7 : UInt64) (c0_8 : UInt64) (c0_9 : UInt64) (c0_10 : UInt64) (c0_11 : Bool) (c0_12 : UInt64) (c0_13 : UInt64) (c0_14 : UInt64) (c0_15 : UInt64) (c0_16 : UInt64) (c0_17 : UInt64) (c0_18 : UInt64) (c0_19 : UInt64) (c0_20 : Bool) : OT fD.Y :=
  (.br (a0.snd.snd)
  (.ok ⟨oN, ((true, ()), ((c0_0, (c0_1, (c0_2, (c0_3, (c0_4, (c0_5, (c0_6, (c0_7, (c0_8, (c0_9, (c0_10, (c0_11, (c0_12, (c0_13, (c0_14, (c0_15, (c0_16, (c0_17, (c0_18, (c0_19, (c0_20, ()))))))))))))))))))))), ()))⟩)
  (.ok ⟨oN, ((!onB c0_0 a0, ()), ((c0_0, (c0_1, (c0_2, (c0_3, (c0_4, (c0_5, (c0_6, (c0_7, (c0_8, (c0_9, (c0_10, (c0_11, (c0_12, (c0_13, (c0_14, (c0_15, (c0_16, (c0_17, (c0_18, (c0_19, (c0_20, ()))))))))))))))))))))), ()))⟩))
theorem alr (x : ya) (Q : fD.Y → Prop) : wpf te pQ ay 1000 Tryz.f71 (fD.inp.inj x).tm (fD.inp.inj x).hp (fnK fD Hk Q) (fun _ _ => False) = (JO (x.1.1) (x.2.1.1) (x.2.1.2.1) (x.2.1.2.2.1) (x.2.1.2.2.2.1) (x.2.1.2.2.2.2.1) (x.2.1.2.2.2.2.2.1) (x.2.1.2.2.2.2.2.2.1) (x.2.1.2.2.2.2.2.2.2.1) (x.2.1.2.2.2.2.2.2.2.2.1) (x.2.1.2.2.2.2.2.2.2.2.2.1) (x.2.1.2.2.2.2.2.2.2.2.2.2.1) (x.2.1.2.2.2.2.2.2.2.2.2.2.2.1) (x.2.1.2.2.2.2.2.2.2.2.2.2.2.2.1) (x.2.1.2.2.2.2.2.2.2.2.2.2.2.2.2.1) (x.2.1.2.2.2.2.2.2.2.2.2.2.2.2.2.2.1) (x.2.1.2.2.2.2.2.2.2.2.2.2.2.2.2.2.2.1) (x.2.1.2.2.2.2.2.2.2.2.2.2.2.2.2.2.2.2.1) (x.2.1.2.2.2.2.2.2.2.2.2.2.2.2.2.2.2.2.2.1) (x.2.1.2.2.2.2.2.2.2.2.2.2.2.2.2.2.2.2.2.2.1) (x.2.1.2.2.2.2.2.2.2.2.2.2.2.2.2.2.2.2.2.2.2.1) (x.2.1.2.2.2.2.2.2.2.2.2.2.2.2.2.2.2.2.2.2.2.2.1)).wpR Q := by kernel_rfl
theorem RQ (pre : ya → Bool) (F : ya → OT fD.Y) (hF : ∀ (x : ya) oy, pre x = true → (F x).run = some oy → (JO (x.1.1) (x.2.1.1) (x.2.1.2.1) (x.2.1.2.2.1) (x.2.1.2.2.2.1) (x.2.1.2.2.2.2.1) (x.2.1.2.2.2.2.2.1) (x.2.1.2.2.2.2.2.2.1) (x.2.1.2.2.2.2.2.2.2.1) (x.2.1.2.2.2.2.2.2.2.2.1) (x.2.1.2.2.2.2.2.2.2.2.2.1) (x.2.1.2.2.2.2.2.2.2.2.2.2.1) (x.2.1.2.2.2.2.2.2.2.2.2.2.2.1) (x.2.1.2.2.2.2.2.2.2.2.2.2.2.2.1) (x.2.1.2.2.2.2.2.2.2.2.2.2.2.2.2.1) (x.2.1.2.2.2.2.2.2.2.2.2.2.2.2.2.2.1) (x.2.1.2.2.2.2.2.2.2.2.2.2.2.2.2.2.2.1) (x.2.1.2.2.2.2.2.2.2.2.2.2.2.2.2.2.2.2.1) (x.2.1.2.2.2.2.2.2.2.2.2.2.2.2.2.2.2.2.2.1) (x.2.1.2.2.2.2.2.2.2.2.2.2.2.2.2.2.2.2.2.2.1) (x.2.1.2.2.2.2.2.2.2.2.2.2.2.2.2.2.2.2.2.2.2.1) (x.2.1.2.2.2.2.2.2.2.2.2.2.2.2.2.2.2.2.2.2.2.2.1)).run = some oy) : ac Tryz.prog 71 (fD.aH pre F) :=
  aC au pP LC (f := 71) (fn := Tryz.f71) (c := ao Tryz.f71) (by kernel_rfl) (by kernel_rfl) (by kernel_rfl) (S := fD) (k := 1) (by kernel_rfl) (fun R hR => af) (n := 1000) (sel := Hk) (fun v o h => by cases h; rfl) (pre := pre) (F := F) (T := fun x => JO (x.1.1) (x.2.1.1) (x.2.1.2.1) (x.2.1.2.2.1) (x.2.1.2.2.2.1) (x.2.1.2.2.2.2.1) (x.2.1.2.2.2.2.2.1) (x.2.1.2.2.2.2.2.2.1) (x.2.1.2.2.2.2.2.2.2.1) (x.2.1.2.2.2.2.2.2.2.2.1) (x.2.1.2.2.2.2.2.2.2.2.2.1) (x.2.1.2.2.2.2.2.2.2.2.2.2.1) (x.2.1.2.2.2.2.2.2.2.2.2.2.2.1) (x.2.1.2.2.2.2.2.2.2.2.2.2.2.2.1) (x.2.1.2.2.2.2.2.2.2.2.2.2.2.2.2.1) (x.2.1.2.2.2.2.2.2.2.2.2.2.2.2.2.2.1) (x.2.1.2.2.2.2.2.2.2.2.2.2.2.2.2.2.2.1) (x.2.1.2.2.2.2.2.2.2.2.2.2.2.2.2.2.2.2.1) (x.2.1.2.2.2.2.2.2.2.2.2.2.2.2.2.2.2.2.2.1) (x.2.1.2.2.2.2.2.2.2.2.2.2.2.2.2.2.2.2.2.2.1) (x.2.1.2.2.2.2.2.2.2.2.2.2.2.2.2.2.2.2.2.2.2.1) (x.2.1.2.2.2.2.2.2.2.2.2.2.2.2.2.2.2.2.2.2.2.2.1)) (fun x Q => alr x Q) hF
abbrev amW : Type := Int × (Int × (List Pt × (UInt64 × (UInt64 × (UInt64 × (UInt64 × (UInt64 × (UInt64 × (UInt64 × (UInt64 × (Bool × (UInt64 × (UInt64 × (UInt64 × (UInt64 × (UInt64 × (UInt64 × (UInt64 × (UInt64 × (Bool × Unit))))))))))))))))))))
def r9 : Pt := (⟨0, 0, 0, 0⟩, ⟨0, 0, 0, 0⟩, false)
def kB (c : Int) (P : Pt) : Bool := cond P.2.2 true (!onB c P)
def Hl (_ : ya) : Bool := true
def Xk (x : ya) : OT fD.Y := .ok ⟨oN, ((kB x.2.1.1 x.1.1, ()), x.2)⟩
theorem afq : ac Tryz.prog 71 (fD.aH Hl Xk) := RQ _ _ fun x oy hp ho => by
  rw [← ho]
  clear ho
  obtain ⟨⟨P, ⟨⟩, ⟨⟩⟩, ⟨i, ⟨⟩⟩⟩ := x
  show _ = some (⟨oN, ((kB i.1 P, ()), (i, ()))⟩ : fD.Y)
  unfold kB
  rcases (Bool.eq_false_or_eq_true P.2.2).symm with h | h
  · rw [h]
    exact (OT.aw h).trans rfl
  · rw [h]
    exact (OT.ap h).trans rfl
def sR : cG := (fD.aH Hl Xk)
theorem ND : ac Tryz.prog 71 sR := afq
theorem NC : aK sR := aB
def rO : Env := aA 71 sR pQ
theorem nD : aV Tryz.prog rO := ai ND pP
theorem wm : ax rO := ae NC sf
theorem AQ : aZ Tryz.prog te rO := aN follows au nD wm
def eh : av := ⟨[.val false (.list (.prod .elem (.prod .elem .bool))), .fn 71 [0]], [(0, atN)], false, 1, true⟩
abbrev qQ : Type := ((List ((aa × (aa × Bool)))) × (Unit) × Unit) × (((Int) × (Int) × (List ((aa × (aa × Bool)))) × (UInt64) × (UInt64) × (UInt64) × (UInt64) × (UInt64) × (UInt64) × (UInt64) × (UInt64) × (Bool) × (UInt64) × (UInt64) × (UInt64) × (UInt64) × (UInt64) × (UInt64) × (UInt64) × (UInt64) × (Bool) × Unit) × Unit)
def lP : Shape := ⟨19, [(0, .val false (.list (.prod .elem (.prod .elem .bool)))), (1, .fn 71 [0]), (7, .val false .int), (8, .val false .int)], [(0, .cells [.val false .int, .val false .int, .val false (.list (.prod .elem (.prod .elem .bool))), .val false .u64, .val false .u64, .val false .u64, .val false .u64, .val false .u64, .val false .u64, .val false .u64, .val false .u64, .val false .bool, .val false .u64, .val false .u64, .val false .u64, .val false .u64, .val false .u64, .val false .u64, .val false .u64, .val false .u64, .val false .bool])], 1, true⟩
abbrev aS : Type := ((List ((aa × (aa × Bool)))) × (Unit) × (Int) × (Int) × Unit) × (((Int) × (Int) × (List ((aa × (aa × Bool)))) × (UInt64) × (UInt64) × (UInt64) × (UInt64) × (UInt64) × (UInt64) × (UInt64) × (UInt64) × (Bool) × (UInt64) × (UInt64) × (UInt64) × (UInt64) × (UInt64) × (UInt64) × (UInt64) × (UInt64) × (Bool) × Unit) × Unit)
def kR : Shape := ⟨19, [(4, .val false .int)], [(0, .cells [.val false .int, .val false .int, .val false (.list (.prod .elem (.prod .elem .bool))), .val false .u64, .val false .u64, .val false .u64, .val false .u64, .val false .u64, .val false .u64, .val false .u64, .val false .u64, .val false .bool, .val false .u64, .val false .u64, .val false .u64, .val false .u64, .val false .u64, .val false .u64, .val false .u64, .val false .u64, .val false .bool])], 1, true⟩
abbrev gx : Type := ((Int) × Unit) × (((Int) × (Int) × (List ((aa × (aa × Bool)))) × (UInt64) × (UInt64) × (UInt64) × (UInt64) × (UInt64) × (UInt64) × (UInt64) × (UInt64) × (Bool) × (UInt64) × (UInt64) × (UInt64) × (UInt64) × (UInt64) × (UInt64) × (UInt64) × (UInt64) × (Bool) × Unit) × Unit)
def kS : Shape := ⟨19, [], [(0, .cells [.val false .int, .val false .int, .val false (.list (.prod .elem (.prod .elem .bool))), .val false .u64, .val false .u64, .val false .u64, .val false .u64, .val false .u64, .val false .u64, .val false .u64, .val false .u64, .val false .bool, .val false .u64, .val false .u64, .val false .u64, .val false .u64, .val false .u64, .val false .u64, .val false .u64, .val false .u64, .val false .bool])], 1, true⟩
abbrev gy : Type := (Unit) × (((Int) × (Int) × (List ((aa × (aa × Bool)))) × (UInt64) × (UInt64) × (UInt64) × (UInt64) × (UInt64) × (UInt64) × (UInt64) × (UInt64) × (Bool) × (UInt64) × (UInt64) × (UInt64) × (UInt64) × (UInt64) × (UInt64) × (UInt64) × (UInt64) × (Bool) × Unit) × Unit)
def Hu : SE → Option Shape := jr [(0, kS)] (some kR)
def aag (a0 : List ((aa × (aa × Bool)))) (a7 : Int) (a8 : Int) (c0_0 : Int) (c0_1 : Int) (c0_2 : List ((aa × (aa × Bool)))) (c0_3 : UInt64) (c0_4 : UInt64) (c0_5 : UInt64) (c0_6 : UInt64) (c0_7 : UInt64) (c0_8 : UInt64) (c0_9 : UInt64) (c0_10 : UInt64) (c0_11 : Bool) (c0_12 : UInt64) (c0_13 : UInt64) (c0_14 : UInt64) (c0_15 : UInt64) (c0_16 : UInt64) (c0_17 : UInt64) (c0_18 : UInt64) (c0_19 : UInt64) (c0_20 : Bool) : OT (Sum aS aP) :=
  let z0 : aa := { w0 := 0, w1 := 0, w2 := 0, w3 := 0 }
  (.br (decide (a8 < a7))
  (gd [inB a8 (List.length a0)] (.br (kB c0_0 (List.getD a0 (Int.toNat a8) (z0, z0, false)))
    (.ok (.inr ⟨(.ret, kR), ((a8, ()), ((c0_0, (c0_1, (c0_2, (c0_3, (c0_4, (c0_5, (c0_6, (c0_7, (c0_8, (c0_9, (c0_10, (c0_11, (c0_12, (c0_13, (c0_14, (c0_15, (c0_16, (c0_17, (c0_18, (c0_19, (c0_20, ()))))))))))))))))))))), ()))⟩))
    (gd [inR (a8 + (1 : Int))] (.ok (.inl ((a0, ((), (a7, (a8 + (1 : Int), ())))), ((c0_0, (c0_1, (c0_2, (c0_3, (c0_4, (c0_5, (c0_6, (c0_7, (c0_8, (c0_9, (c0_10, (c0_11, (c0_12, (c0_13, (c0_14, (c0_15, (c0_16, (c0_17, (c0_18, (c0_19, (c0_20, ()))))))))))))))))))))), ())))))))
  (.ok (.inr ⟨(.exit 0, kS), ((), ((c0_0, (c0_1, (c0_2, (c0_3, (c0_4, (c0_5, (c0_6, (c0_7, (c0_8, (c0_9, (c0_10, (c0_11, (c0_12, (c0_13, (c0_14, (c0_15, (c0_16, (c0_17, (c0_18, (c0_19, (c0_20, ()))))))))))))))))))))), ()))⟩)))
def lQ (s : aS) : OT (Sum aS aP) := aag (s.1.1) (s.1.2.2.1) (s.1.2.2.2.1) (s.2.1.1) (s.2.1.2.1) (s.2.1.2.2.1) (s.2.1.2.2.2.1) (s.2.1.2.2.2.2.1) (s.2.1.2.2.2.2.2.1) (s.2.1.2.2.2.2.2.2.1) (s.2.1.2.2.2.2.2.2.2.1) (s.2.1.2.2.2.2.2.2.2.2.1) (s.2.1.2.2.2.2.2.2.2.2.2.1) (s.2.1.2.2.2.2.2.2.2.2.2.2.1) (s.2.1.2.2.2.2.2.2.2.2.2.2.2.1) (s.2.1.2.2.2.2.2.2.2.2.2.2.2.2.1) (s.2.1.2.2.2.2.2.2.2.2.2.2.2.2.2.1) (s.2.1.2.2.2.2.2.2.2.2.2.2.2.2.2.2.1) (s.2.1.2.2.2.2.2.2.2.2.2.2.2.2.2.2.2.1) (s.2.1.2.2.2.2.2.2.2.2.2.2.2.2.2.2.2.2.1) (s.2.1.2.2.2.2.2.2.2.2.2.2.2.2.2.2.2.2.2.1) (s.2.1.2.2.2.2.2.2.2.2.2.2.2.2.2.2.2.2.2.2.1) (s.2.1.2.2.2.2.2.2.2.2.2.2.2.2.2.2.2.2.2.2.2.1) (s.2.1.2.2.2.2.2.2.2.2.2.2.2.2.2.2.2.2.2.2.2.2.1)
theorem aad (s : aS) (Q : Sum aS aP → Prop) : wps te rO ay 1000 (bF (ao Tryz.f112) 0) (lP.inj s) (cQ lP Hu (Q : Sum lP.T aP → Prop)) = (lQ s).wpR Q := by kernel_rfl
def qP (g0_r : aS → gx) (c0_r : aS → Bool) (g0_0 : aS → gy) (s : aS) : OT aP := (.br (c0_r s) (.ok ⟨(.ret, kR), g0_r s⟩) (.ok ⟨(.exit 0, kS), g0_0 s⟩))
def hJ : az := ⟨[.val false .int], [(0, .cells [.val false .int, .val false .int, .val false (.list (.prod .elem (.prod .elem .bool))), .val false .u64, .val false .u64, .val false .u64, .val false .u64, .val false .u64, .val false .u64, .val false .u64, .val false .u64, .val false .bool, .val false .u64, .val false .u64, .val false .u64, .val false .u64, .val false .u64, .val false .u64, .val false .u64, .val false .u64, .val false .bool])], false⟩
def C3 : SV → Option az := fun _ => some hJ
def C6 (ok0 : aS → Bool) (g0_r : aS → gx) (c0_r : aS → Bool) (g0_0 : aS → gy) (a0 : List ((aa × (aa × Bool)))) (c0_0 : Int) (c0_1 : Int) (c0_2 : List ((aa × (aa × Bool)))) (c0_3 : UInt64) (c0_4 : UInt64) (c0_5 : UInt64) (c0_6 : UInt64) (c0_7 : UInt64) (c0_8 : UInt64) (c0_9 : UInt64) (c0_10 : UInt64) (c0_11 : Bool) (c0_12 : UInt64) (c0_13 : UInt64) (c0_14 : UInt64) (c0_15 : UInt64) (c0_16 : UInt64) (c0_17 : UInt64) (c0_18 : UInt64) (c0_19 : UInt64) (c0_20 : Bool) : OT eh.Y :=
  let z0 : (List (aa × aa × Bool) × PUnit × Int × Int × PUnit) × (Int × Int × List (aa × aa × Bool) × UInt64 × UInt64 × UInt64 × UInt64 × UInt64 × UInt64 × UInt64 × UInt64 × Bool × UInt64 × UInt64 × UInt64 × UInt64 × UInt64 × UInt64 × UInt64 × UInt64 × Bool × PUnit) × PUnit := ((a0, (), (↑(List.length a0) : Int), (0 : Int), ()), (c0_0, c0_1, c0_2, c0_3, c0_4, c0_5, c0_6, c0_7, c0_8, c0_9, c0_10, c0_11, c0_12, c0_13, c0_14, c0_15, c0_16, c0_17, c0_18, c0_19, c0_20, ()), ())
  let z1 : (Int × PUnit) × (Int × Int × List (aa × aa × Bool) × UInt64 × UInt64 × UInt64 × UInt64 × UInt64 × UInt64 × UInt64 × UInt64 × Bool × UInt64 × UInt64 × UInt64 × UInt64 × UInt64 × UInt64 × UInt64 × UInt64 × Bool × PUnit) × PUnit := g0_r z0
  let z2 := z1.snd.fst
  let z3 := z2.snd
  let z4 := z3.snd
  let z5 := z4.snd
  let z6 := z5.snd
  let z7 := z6.snd
  let z8 := z7.snd
  let z9 := z8.snd
  let z10 := z9.snd
  let z11 := z10.snd
  let z12 := z11.snd
  let z13 := z12.snd
  let z14 := z13.snd
  let z15 := z14.snd
  let z16 := z15.snd
  let z17 := z16.snd
  let z18 := z17.snd
  let z19 := z18.snd
  let z20 := z19.snd
  let z21 := z20.snd
  let z22 := (g0_0 z0).snd.fst
  let z23 := z22.snd
  let z24 := z23.snd
  let z25 := z24.snd
  let z26 := z25.snd
  let z27 := z26.snd
  let z28 := z27.snd
  let z29 := z28.snd
  let z30 := z29.snd
  let z31 := z30.snd
  let z32 := z31.snd
  let z33 := z32.snd
  let z34 := z33.snd
  let z35 := z34.snd
  let z36 := z35.snd
  let z37 := z36.snd
  let z38 := z37.snd
  let z39 := z38.snd
  let z40 := z39.snd
  let z41 := z40.snd
  (gd [ok0 z0] (.br (c0_r z0)
  (.ok ⟨hJ, ((z1.fst.fst, ()), ((z2.fst, (z3.fst, (z4.fst, (z5.fst, (z6.fst, (z7.fst, (z8.fst, (z9.fst, (z10.fst, (z11.fst, (z12.fst, (z13.fst, (z14.fst, (z15.fst, (z16.fst, (z17.fst, (z18.fst, (z19.fst, (z20.fst, (z21.fst, (z21.snd.fst, ()))))))))))))))))))))), ()))⟩)
  (.ok ⟨hJ, (((-1 : Int), ()), ((z22.fst, (z23.fst, (z24.fst, (z25.fst, (z26.fst, (z27.fst, (z28.fst, (z29.fst, (z30.fst, (z31.fst, (z32.fst, (z33.fst, (z34.fst, (z35.fst, (z36.fst, (z37.fst, (z38.fst, (z39.fst, (z40.fst, (z41.fst, (z41.snd.fst, ()))))))))))))))))))))), ()))⟩)))
theorem afB (ok0 : aS → Bool) (g0_r : aS → gx) (c0_r : aS → Bool) (g0_0 : aS → gy) (x : qQ) (Q : eh.Y → Prop) : wpf te rO (bg 0 (di lP 0 ok0 (qP g0_r c0_r g0_0)) ay) 1000 Tryz.f112 (eh.inp.inj x).tm (eh.inp.inj x).hp (fnK eh C3 Q) (fun _ _ => False) = (C6 ok0 g0_r c0_r g0_0 (x.1.1) (x.2.1.1) (x.2.1.2.1) (x.2.1.2.2.1) (x.2.1.2.2.2.1) (x.2.1.2.2.2.2.1) (x.2.1.2.2.2.2.2.1) (x.2.1.2.2.2.2.2.2.1) (x.2.1.2.2.2.2.2.2.2.1) (x.2.1.2.2.2.2.2.2.2.2.1) (x.2.1.2.2.2.2.2.2.2.2.2.1) (x.2.1.2.2.2.2.2.2.2.2.2.2.1) (x.2.1.2.2.2.2.2.2.2.2.2.2.2.1) (x.2.1.2.2.2.2.2.2.2.2.2.2.2.2.1) (x.2.1.2.2.2.2.2.2.2.2.2.2.2.2.2.1) (x.2.1.2.2.2.2.2.2.2.2.2.2.2.2.2.2.1) (x.2.1.2.2.2.2.2.2.2.2.2.2.2.2.2.2.2.1) (x.2.1.2.2.2.2.2.2.2.2.2.2.2.2.2.2.2.2.1) (x.2.1.2.2.2.2.2.2.2.2.2.2.2.2.2.2.2.2.2.1) (x.2.1.2.2.2.2.2.2.2.2.2.2.2.2.2.2.2.2.2.2.1) (x.2.1.2.2.2.2.2.2.2.2.2.2.2.2.2.2.2.2.2.2.2.1) (x.2.1.2.2.2.2.2.2.2.2.2.2.2.2.2.2.2.2.2.2.2.2.1)).wpR Q := by kernel_rfl
theorem NQ (ok0 : aS → Bool) (g0_r : aS → gx) (c0_r : aS → Bool) (g0_0 : aS → gy) (h0 : ∀ s : aS, ok0 s = true → ∃ m e, aq (lQ) m s = some e ∧ (qP g0_r c0_r g0_0 s).run = some e) (pre : qQ → Bool) (F : qQ → OT eh.Y) (hF : ∀ (x : qQ) oy, pre x = true → (F x).run = some oy → (C6 ok0 g0_r c0_r g0_0 (x.1.1) (x.2.1.1) (x.2.1.2.1) (x.2.1.2.2.1) (x.2.1.2.2.2.1) (x.2.1.2.2.2.2.1) (x.2.1.2.2.2.2.2.1) (x.2.1.2.2.2.2.2.2.1) (x.2.1.2.2.2.2.2.2.2.1) (x.2.1.2.2.2.2.2.2.2.2.1) (x.2.1.2.2.2.2.2.2.2.2.2.1) (x.2.1.2.2.2.2.2.2.2.2.2.2.1) (x.2.1.2.2.2.2.2.2.2.2.2.2.2.1) (x.2.1.2.2.2.2.2.2.2.2.2.2.2.2.1) (x.2.1.2.2.2.2.2.2.2.2.2.2.2.2.2.1) (x.2.1.2.2.2.2.2.2.2.2.2.2.2.2.2.2.1) (x.2.1.2.2.2.2.2.2.2.2.2.2.2.2.2.2.2.1) (x.2.1.2.2.2.2.2.2.2.2.2.2.2.2.2.2.2.2.1) (x.2.1.2.2.2.2.2.2.2.2.2.2.2.2.2.2.2.2.2.1) (x.2.1.2.2.2.2.2.2.2.2.2.2.2.2.2.2.2.2.2.2.1) (x.2.1.2.2.2.2.2.2.2.2.2.2.2.2.2.2.2.2.2.2.2.1) (x.2.1.2.2.2.2.2.2.2.2.2.2.2.2.2.2.2.2.2.2.2.2.1)).run = some oy) : ac Tryz.prog 112 (eh.aH pre F) :=
  aC au nD AQ (f := 112) (fn := Tryz.f112) (c := ao Tryz.f112) (by kernel_rfl) (by kernel_rfl) (by kernel_rfl) (S := eh) (k := 1) (by kernel_rfl) (fun R hR => (aF (c := (ao Tryz.f112)) (by kernel_rfl) (id := 0) (by kernel_rfl) (bt au nD AQ (sh := lP) hR (xs := Hu) (aG (by kernel_rfl) (by kernel_rfl) hR) aW af (n := 1000) (T := lQ) (fun s Q => aad s Q) (ok := ok0) (f := qP g0_r c0_r g0_0) h0) af)) (n := 1000) (sel := C3) (fun v o h => by cases h; rfl) (pre := pre) (F := F) (T := fun x => C6 ok0 g0_r c0_r g0_0 (x.1.1) (x.2.1.1) (x.2.1.2.1) (x.2.1.2.2.1) (x.2.1.2.2.2.1) (x.2.1.2.2.2.2.1) (x.2.1.2.2.2.2.2.1) (x.2.1.2.2.2.2.2.2.1) (x.2.1.2.2.2.2.2.2.2.1) (x.2.1.2.2.2.2.2.2.2.2.1) (x.2.1.2.2.2.2.2.2.2.2.2.1) (x.2.1.2.2.2.2.2.2.2.2.2.2.1) (x.2.1.2.2.2.2.2.2.2.2.2.2.2.1) (x.2.1.2.2.2.2.2.2.2.2.2.2.2.2.1) (x.2.1.2.2.2.2.2.2.2.2.2.2.2.2.2.1) (x.2.1.2.2.2.2.2.2.2.2.2.2.2.2.2.2.1) (x.2.1.2.2.2.2.2.2.2.2.2.2.2.2.2.2.2.1) (x.2.1.2.2.2.2.2.2.2.2.2.2.2.2.2.2.2.2.1) (x.2.1.2.2.2.2.2.2.2.2.2.2.2.2.2.2.2.2.2.1) (x.2.1.2.2.2.2.2.2.2.2.2.2.2.2.2.2.2.2.2.2.1) (x.2.1.2.2.2.2.2.2.2.2.2.2.2.2.2.2.2.2.2.2.2.1) (x.2.1.2.2.2.2.2.2.2.2.2.2.2.2.2.2.2.2.2.2.2.2.1)) (fun x Q => afB ok0 g0_r c0_r g0_0 x Q) hF
def pq (l : List Pt) (i : amW) : Nat → Nat → Int
  | 0, _ => -1
  | n + 1, k => cond (kB i.1 (l.getD k r9)) (k : Int) (pq l i n (k + 1))
def C4 (s : aS) : Bool := decide (s.1.2.2.1 = (s.1.1.length : Int) ∧ s.1.2.2.2.1 = 0 ∧ s.1.1.length ≤ 140737488355328)
def iZ (l : List Pt) (i : amW) : Int := pq l i l.length 0
def C5 (s : aS) : gx := ((iZ s.1.1 s.2.1, ()), s.2)
def Hw (s : aS) : Bool := decide (0 ≤ iZ s.1.1 s.2.1)
def Hv (s : aS) : gy := ((), s.2)
def C7 (l : List Pt) (i : amW) (k : Int) : aS := ((l, (), (l.length : Int), k, ()), (i, ()))
theorem H7 (l : List Pt) (i : amW) : ∀ n k, pq l i n k = -1 ∨ 0 ≤ pq l i n k
  | 0, _ => .inl rfl
  | n + 1, k => by
    unfold pq
    cases kB i.1 (l.getD k r9)
    · exact H7 l i n (k + 1)
    · right
      show (0 : Int) ≤ (k : Int)
      omega
theorem NS (l : List Pt) (i : amW) (hl : l.length ≤ 140737488355328) : ∀ n k : Nat, k + n = l.length →
    ∃ m, aq lQ m (C7 l i (k : Int)) = some (cond (decide (0 ≤ pq l i n k)) ⟨(.ret, kR), ((pq l i n k, ()), (i, ()))⟩ ⟨(.exit 0, kS), ((), (i, ()))⟩)
  | 0, k, h => ⟨1, aL (OT.aw (decide_eq_false (by dsimp only [C7]; omega)))⟩
  | n + 1, k, h => by
    have hin : inB (k : Int) l.length = true := bD (by omega)
    have hgd : ∀ z : OT (Sum aS aP), (gd [inB (k : Int) l.length] z).run = z.run := fun z => al (by rw [hin]; rfl)
    unfold pq
    rcases (Bool.eq_false_or_eq_true (kB i.1 (l.getD k r9))).symm with hb | hb
    · obtain ⟨m, hm⟩ := NS l i hl n (k + 1) (by omega)
      rw [hb]
      refine ⟨m + 1, aM ?_ hm⟩
      refine (OT.ap (decide_eq_true (by dsimp only [C7]; omega))).trans ((hgd _).trans ((OT.aw hb).trans ((al ?_).trans rfl)))
      simp only [List.all_cons, List.all_nil, Bool.and_true]
      exact bE (by dsimp only [C7]; omega)
    · rw [hb]
      have e : decide ((0 : Int) ≤ cond true (k : Int) (pq l i n (k + 1))) = true := decide_eq_true (by show (0 : Int) ≤ (k : Int); omega)
      rw [e]
      refine ⟨1, aL ?_⟩
      exact (OT.ap (decide_eq_true (by dsimp only [C7]; omega))).trans ((hgd _).trans ((OT.ap hb).trans rfl))
theorem aaf : ∀ s : aS, C4 s = true → ∃ m e, aq lQ m s = some e ∧ (qP C5 Hw Hv s).run = some e := by
  rintro ⟨⟨l, ⟨⟩, n, k, ⟨⟩⟩, ⟨i, ⟨⟩⟩⟩ h
  have h' := of_decide_eq_true h
  dsimp only at h'
  obtain ⟨rfl, rfl, hl⟩ := h'
  obtain ⟨m, hm⟩ := NS l i hl l.length 0 (by omega)
  refine ⟨m, _, hm, ?_⟩
  show (OT.br (decide (0 ≤ iZ l i)) _ _ : OT aP).run = some (cond (decide (0 ≤ iZ l i)) _ _)
  cases decide (0 ≤ iZ l i) <;> rfl
def sY (x : qQ) : Bool := decide (x.1.1.length ≤ 140737488355328)
def NR (x : qQ) : OT eh.Y := .ok ⟨hJ, ((iZ x.1.1 x.2.1, ()), x.2)⟩
theorem aae : ac Tryz.prog 112 (eh.aH sY NR) := NQ C4 C5 Hw Hv aaf _ _ fun x oy hp ho => by
  rw [← ho]
  clear ho
  obtain ⟨⟨l, ⟨⟩, ⟨⟩⟩, ⟨i, ⟨⟩⟩⟩ := x
  have hl : l.length ≤ 140737488355328 := of_decide_eq_true hp
  refine (al ?_).trans ?_
  · simp only [List.all_cons, List.all_nil, Bool.and_true]
    exact decide_eq_true ⟨rfl, rfl, hl⟩
  · show (OT.br (decide (0 ≤ iZ l i)) (.ok ⟨hJ, ((iZ l i, ()), (i, ()))⟩) (.ok ⟨hJ, (((-1 : Int), ()), (i, ()))⟩) : OT eh.Y).run = some ⟨hJ, ((iZ l i, ()), (i, ()))⟩
    rcases H7 l i l.length 0 with h | h
    · have h : iZ l i = -1 := h
      rw [h]
      rfl
    · exact OT.ap (decide_eq_true h)
def oU : cG := (eh.aH sY NR)
theorem JU : ac Tryz.prog 112 oU := aae
theorem JT : aK oU := aB
def pU : Env := aA 112 oU rO
theorem pT : aV Tryz.prog pU := ai JU nD
theorem sk : ax pU := ae JT wm
theorem LK : aZ Tryz.prog te pU := aN follows au pT sk
def gA : av := ⟨[.val false (.list (.prod .elem (.prod .elem .bool))), .fn 71 [0]], [(0, atN)], false, 1, true⟩
abbrev yn : Type := ((List ((aa × (aa × Bool)))) × (Unit) × Unit) × (((Int) × (Int) × (List ((aa × (aa × Bool)))) × (UInt64) × (UInt64) × (UInt64) × (UInt64) × (UInt64) × (UInt64) × (UInt64) × (UInt64) × (Bool) × (UInt64) × (UInt64) × (UInt64) × (UInt64) × (UInt64) × (UInt64) × (UInt64) × (UInt64) × (Bool) × Unit) × Unit)
def Db : az := ⟨[.val false .bool], [(0, .cells [.val false .int, .val false .int, .val false (.list (.prod .elem (.prod .elem .bool))), .val false .u64, .val false .u64, .val false .u64, .val false .u64, .val false .u64, .val false .u64, .val false .u64, .val false .u64, .val false .bool, .val false .u64, .val false .u64, .val false .u64, .val false .u64, .val false .u64, .val false .u64, .val false .u64, .val false .u64, .val false .bool])], false⟩
def Hz : SV → Option az := fun _ => some Db
def JX (a0 : List ((aa × (aa × Bool)))) (c0_0 : Int) (c0_1 : Int) (c0_2 : List ((aa × (aa × Bool)))) (c0_3 : UInt64) (c0_4 : UInt64) (c0_5 : UInt64) (c0_6 : UInt64) (c0_7 : UInt64) (c0_8 : UInt64) (c0_9 : UInt64) (c0_10 : UInt64) (c0_11 : Bool) (c0_12 : UInt64) (c0_13 : UInt64) (c0_14 : UInt64) (c0_15 : UInt64) (c0_16 : UInt64) (c0_17 : UInt64) (c0_18 : UInt64) (c0_19 : UInt64) (c0_20 : Bool) : OT gA.Y :=
  let z0 : Int × Int × List (aa × aa × Bool) × UInt64 × UInt64 × UInt64 × UInt64 × UInt64 × UInt64 × UInt64 × UInt64 × Bool × UInt64 × UInt64 × UInt64 × UInt64 × UInt64 × UInt64 × UInt64 × UInt64 × Bool × PUnit := (c0_0, c0_1, c0_2, c0_3, c0_4, c0_5, c0_6, c0_7, c0_8, c0_9, c0_10, c0_11, c0_12, c0_13, c0_14, c0_15, c0_16, c0_17, c0_18, c0_19, c0_20, ())
  (gd [sY ((a0, (), ()), z0, ())] (.ok ⟨Db, ((decide ((0 : Int) ≤ iZ a0 z0), ()), ((c0_0, (c0_1, (c0_2, (c0_3, (c0_4, (c0_5, (c0_6, (c0_7, (c0_8, (c0_9, (c0_10, (c0_11, (c0_12, (c0_13, (c0_14, (c0_15, (c0_16, (c0_17, (c0_18, (c0_19, (c0_20, ()))))))))))))))))))))), ()))⟩))
theorem alG (x : yn) (Q : gA.Y → Prop) : wpf te pU ay 1000 Tryz.f72 (gA.inp.inj x).tm (gA.inp.inj x).hp (fnK gA Hz Q) (fun _ _ => False) = (JX (x.1.1) (x.2.1.1) (x.2.1.2.1) (x.2.1.2.2.1) (x.2.1.2.2.2.1) (x.2.1.2.2.2.2.1) (x.2.1.2.2.2.2.2.1) (x.2.1.2.2.2.2.2.2.1) (x.2.1.2.2.2.2.2.2.2.1) (x.2.1.2.2.2.2.2.2.2.2.1) (x.2.1.2.2.2.2.2.2.2.2.2.1) (x.2.1.2.2.2.2.2.2.2.2.2.2.1) (x.2.1.2.2.2.2.2.2.2.2.2.2.2.1) (x.2.1.2.2.2.2.2.2.2.2.2.2.2.2.1) (x.2.1.2.2.2.2.2.2.2.2.2.2.2.2.2.1) (x.2.1.2.2.2.2.2.2.2.2.2.2.2.2.2.2.1) (x.2.1.2.2.2.2.2.2.2.2.2.2.2.2.2.2.2.1) (x.2.1.2.2.2.2.2.2.2.2.2.2.2.2.2.2.2.2.1) (x.2.1.2.2.2.2.2.2.2.2.2.2.2.2.2.2.2.2.2.1) (x.2.1.2.2.2.2.2.2.2.2.2.2.2.2.2.2.2.2.2.2.1) (x.2.1.2.2.2.2.2.2.2.2.2.2.2.2.2.2.2.2.2.2.2.1) (x.2.1.2.2.2.2.2.2.2.2.2.2.2.2.2.2.2.2.2.2.2.2.1)).wpR Q := by kernel_rfl
theorem R6 (pre : yn → Bool) (F : yn → OT gA.Y) (hF : ∀ (x : yn) oy, pre x = true → (F x).run = some oy → (JX (x.1.1) (x.2.1.1) (x.2.1.2.1) (x.2.1.2.2.1) (x.2.1.2.2.2.1) (x.2.1.2.2.2.2.1) (x.2.1.2.2.2.2.2.1) (x.2.1.2.2.2.2.2.2.1) (x.2.1.2.2.2.2.2.2.2.1) (x.2.1.2.2.2.2.2.2.2.2.1) (x.2.1.2.2.2.2.2.2.2.2.2.1) (x.2.1.2.2.2.2.2.2.2.2.2.2.1) (x.2.1.2.2.2.2.2.2.2.2.2.2.2.1) (x.2.1.2.2.2.2.2.2.2.2.2.2.2.2.1) (x.2.1.2.2.2.2.2.2.2.2.2.2.2.2.2.1) (x.2.1.2.2.2.2.2.2.2.2.2.2.2.2.2.2.1) (x.2.1.2.2.2.2.2.2.2.2.2.2.2.2.2.2.2.1) (x.2.1.2.2.2.2.2.2.2.2.2.2.2.2.2.2.2.2.1) (x.2.1.2.2.2.2.2.2.2.2.2.2.2.2.2.2.2.2.2.1) (x.2.1.2.2.2.2.2.2.2.2.2.2.2.2.2.2.2.2.2.2.1) (x.2.1.2.2.2.2.2.2.2.2.2.2.2.2.2.2.2.2.2.2.2.1) (x.2.1.2.2.2.2.2.2.2.2.2.2.2.2.2.2.2.2.2.2.2.2.1)).run = some oy) : ac Tryz.prog 72 (gA.aH pre F) :=
  aC au pT LK (f := 72) (fn := Tryz.f72) (c := ao Tryz.f72) (by kernel_rfl) (by kernel_rfl) (by kernel_rfl) (S := gA) (k := 1) (by kernel_rfl) (fun R hR => af) (n := 1000) (sel := Hz) (fun v o h => by cases h; rfl) (pre := pre) (F := F) (T := fun x => JX (x.1.1) (x.2.1.1) (x.2.1.2.1) (x.2.1.2.2.1) (x.2.1.2.2.2.1) (x.2.1.2.2.2.2.1) (x.2.1.2.2.2.2.2.1) (x.2.1.2.2.2.2.2.2.1) (x.2.1.2.2.2.2.2.2.2.1) (x.2.1.2.2.2.2.2.2.2.2.1) (x.2.1.2.2.2.2.2.2.2.2.2.1) (x.2.1.2.2.2.2.2.2.2.2.2.2.1) (x.2.1.2.2.2.2.2.2.2.2.2.2.2.1) (x.2.1.2.2.2.2.2.2.2.2.2.2.2.2.1) (x.2.1.2.2.2.2.2.2.2.2.2.2.2.2.2.1) (x.2.1.2.2.2.2.2.2.2.2.2.2.2.2.2.2.1) (x.2.1.2.2.2.2.2.2.2.2.2.2.2.2.2.2.2.1) (x.2.1.2.2.2.2.2.2.2.2.2.2.2.2.2.2.2.2.1) (x.2.1.2.2.2.2.2.2.2.2.2.2.2.2.2.2.2.2.2.1) (x.2.1.2.2.2.2.2.2.2.2.2.2.2.2.2.2.2.2.2.2.1) (x.2.1.2.2.2.2.2.2.2.2.2.2.2.2.2.2.2.2.2.2.2.1) (x.2.1.2.2.2.2.2.2.2.2.2.2.2.2.2.2.2.2.2.2.2.2.1)) (fun x Q => alG x Q) hF
def aie (l : List Pt) (i : amW) : Bool := decide (0 ≤ iZ l i)
def ym (x : yn) : Bool := decide (x.1.1.length ≤ 140737488355328)
def Xs (x : yn) : OT gA.Y := .ok ⟨Db, ((aie x.1.1 x.2.1, ()), x.2)⟩
theorem afE : ac Tryz.prog 72 (gA.aH ym Xs) := R6 _ _ fun x oy hp ho => by
  rw [← ho]
  clear ho
  refine (al ?_).trans rfl
  simp only [List.all_cons, List.all_nil, Bool.and_true]
  exact hp
def s4 : cG := (gA.aH ym Xs)
theorem NX : ac Tryz.prog 72 s4 := afE
theorem NW : aK s4 := aB
def wx : Env := aA 72 s4 pU
theorem tS : aV Tryz.prog wx := ai NX pT
theorem ww : ax wx := ae NW sk
theorem Qc : aZ Tryz.prog te wx := aN follows au tS ww
def fF : av := ⟨[.val true alI], [], true, 0, false⟩
abbrev yp : Type := (((Int × (Int × (List ((aa × (aa × Bool))) × ((aa × (aa × Bool)) × (aa × (aa × Bool))))))) × Unit) × (Unit)
def eV : az := ⟨[.val false .int], [], false⟩
def HB : SV → Option az := fun _ => some eV
def ve (a0 : (Int × (Int × (List ((aa × (aa × Bool))) × ((aa × (aa × Bool)) × (aa × (aa × Bool))))))) : OT fF.Y :=
  let z0 : Int × Int × List (aa × aa × Bool) × UInt64 × UInt64 × UInt64 × UInt64 × UInt64 × UInt64 × UInt64 × UInt64 × Bool × UInt64 × UInt64 × UInt64 × UInt64 × UInt64 × UInt64 × UInt64 × UInt64 × Bool × PUnit := (a0.fst, a0.snd.fst, a0.snd.snd.fst, a0.snd.snd.snd.fst.fst.w0, a0.snd.snd.snd.fst.fst.w1, a0.snd.snd.snd.fst.fst.w2, a0.snd.snd.snd.fst.fst.w3, a0.snd.snd.snd.fst.snd.fst.w0, a0.snd.snd.snd.fst.snd.fst.w1, a0.snd.snd.snd.fst.snd.fst.w2, a0.snd.snd.snd.fst.snd.fst.w3, a0.snd.snd.snd.fst.snd.snd, a0.snd.snd.snd.snd.fst.w0, a0.snd.snd.snd.snd.fst.w1, a0.snd.snd.snd.snd.fst.w2, a0.snd.snd.snd.snd.fst.w3, a0.snd.snd.snd.snd.snd.fst.w0, a0.snd.snd.snd.snd.snd.fst.w1, a0.snd.snd.snd.snd.snd.fst.w2, a0.snd.snd.snd.snd.snd.fst.w3, a0.snd.snd.snd.snd.snd.snd, ())
  (.br (ak a0.fst)
  (.br (decide (a0.snd.fst < (0 : Int)))
    (.ok ⟨eV, (((60 : Int), ()), ())⟩)
    (.br (decide ((5 : Int) < a0.snd.fst))
      (.ok ⟨eV, (((60 : Int), ()), ())⟩)
      (gd [decide ((0 : Int) ≤ a0.snd.fst)] (.br (!(↑(List.length a0.snd.snd.fst) : Int) == Oq (1 : Int) a0.snd.fst)
        (.ok ⟨eV, (((90 : Int), ()), ())⟩)
        (gd [ym ((a0.snd.snd.fst, (), ()), z0, ())] (.br (aie a0.snd.snd.fst z0)
          (.ok ⟨eV, (((90 : Int), ()), ())⟩)
          (.br (kB a0.fst a0.snd.snd.snd.fst)
            (.ok ⟨eV, (((90 : Int), ()), ())⟩)
            (.br (kB a0.fst a0.snd.snd.snd.snd)
              (.ok ⟨eV, (((90 : Int), ()), ())⟩)
              (.ok ⟨eV, (((0 : Int), ()), ())⟩)))))))))
  (.ok ⟨eV, (((40 : Int), ()), ())⟩))
theorem alH (x : yp) (Q : fF.Y → Prop) : wpf te wx ay 1000 Tryz.f35 (fF.inp.inj x).tm (fF.inp.inj x).hp (fnK fF HB Q) (fun _ _ => False) = (ve (x.1.1)).wpR Q := by kernel_rfl
theorem R7 (pre : yp → Bool) (F : yp → OT fF.Y) (hF : ∀ (x : yp) oy, pre x = true → (F x).run = some oy → (ve (x.1.1)).run = some oy) : ac Tryz.prog 35 (fF.aH pre F) :=
  aC au tS Qc (f := 35) (fn := Tryz.f35) (c := ao Tryz.f35) (by kernel_rfl) (by kernel_rfl) (by kernel_rfl) (S := fF) (k := 0) (by kernel_rfl) (fun R hR => af) (n := 1000) (sel := HB) (fun v o h => by cases h; rfl) (pre := pre) (F := F) (T := fun x => ve (x.1.1)) (fun x Q => alH x Q) hF
abbrev aiz : Type := Int × (Int × (List Pt × (Pt × Pt)))
theorem Y4 (l : List Pt) (i : amW) : ∀ n k : Nat, k + n = l.length → decide (0 ≤ pq l i n k) = (l.drop k).any (kB i.1)
  | 0, k, h => by
    rw [List.drop_eq_nil_of_le (by omega)]
    rfl
  | n + 1, k, h => by
    have hk : k < l.length := by omega
    have e1 : l.drop k = l[k] :: l.drop (k + 1) := List.drop_eq_getElem_cons hk
    have e3 : l.getD k r9 = l[k] := by rw [List.getD_eq_getElem?_getD, List.getElem?_eq_getElem hk]; rfl
    rw [e1, List.any_cons]
    unfold pq
    rw [e3]
    cases kB i.1 l[k]
    · rw [cond_false, Bool.false_or]
      exact Y4 l i n (k + 1) (by omega)
    · rw [cond_true, Bool.true_or]
      exact decide_eq_true (by omega)
theorem arm (l : List Pt) (i : amW) : aie l i = l.any (kB i.1) := Y4 l i l.length 0 (by omega)
def dS (p : aiz) : Int := cond (ak p.1) (cond (decide (p.2.1 < 0)) 60 (cond (decide (5 < p.2.1)) 60 (cond (!((p.2.2.1.length : Int) == Oq 1 p.2.1)) 90 (cond (p.2.2.1.any (kB p.1)) 90 (cond (kB p.1 p.2.2.2.1) 90 (cond (kB p.1 p.2.2.2.2) 90 0)))))) 40
def qT (x : yp) : Bool := decide (x.1.1.2.2.1.length ≤ 140737488355328)
def Xt (x : yp) : OT fF.Y := .ok ⟨eV, ((dS x.1.1, ()), ())⟩
theorem afG : ac Tryz.prog 35 (fF.aH qT Xt) := R7 _ _ fun x oy hp ho => by
  rw [← ho]
  clear ho
  obtain ⟨⟨p, ⟨⟩⟩, ⟨⟩⟩ := x
  show (ve p).run = some (⟨eV, ((dS p, ()), ())⟩ : fF.Y)
  have hp : decide (p.2.2.1.length ≤ 140737488355328) = true := hp
  unfold ve dS
  simp only [arm]
  rcases (Bool.eq_false_or_eq_true (ak p.1)).symm with h1 | h1
  · rw [h1]; exact (OT.aw rfl).trans rfl
  · rw [h1]
    refine (OT.ap rfl).trans ?_
    by_cases h2 : p.2.1 < 0
    · rw [decide_eq_true h2]; exact (OT.ap rfl).trans rfl
    · rw [decide_eq_false h2]
      refine (OT.aw rfl).trans ?_
      by_cases h3 : 5 < p.2.1
      · rw [decide_eq_true h3]; exact (OT.ap rfl).trans rfl
      · rw [decide_eq_false h3]
        refine (OT.aw rfl).trans ((al (by rw [decide_eq_true (show 0 ≤ p.2.1 by omega)]; rfl)).trans ?_)
        rcases (Bool.eq_false_or_eq_true (!((p.2.2.1.length : Int) == Oq 1 p.2.1))).symm with h4 | h4
        · rw [h4]
          refine (OT.aw rfl).trans ((al ?_).trans ?_)
          · simp only [List.all_cons, List.all_nil, Bool.and_true]
            exact hp
          · rcases (Bool.eq_false_or_eq_true (p.2.2.1.any (kB p.1))).symm with h5 | h5
            · rw [h5]
              refine (OT.aw rfl).trans ?_
              rcases (Bool.eq_false_or_eq_true (kB p.1 p.2.2.2.1)).symm with h6 | h6
              · rw [h6]
                refine (OT.aw rfl).trans ?_
                rcases (Bool.eq_false_or_eq_true (kB p.1 p.2.2.2.2)).symm with h7 | h7
                · rw [h7]; exact (OT.aw rfl).trans rfl
                · rw [h7]; exact (OT.ap rfl).trans rfl
              · rw [h6]; exact (OT.ap rfl).trans rfl
            · rw [h5]; exact (OT.ap rfl).trans rfl
        · rw [h4]; exact (OT.ap rfl).trans rfl
def s7 : cG := (fF.aH qT Xt)
theorem N3 : ac Tryz.prog 35 s7 := afG
theorem N0 : aK s7 := aB
def wz : Env := aA 35 s7 wx
theorem tT : aV Tryz.prog wz := ai N3 tS
theorem wy : ax wz := ae N0 ww
theorem Qd : aZ Tryz.prog te wz := aN follows au tT wy
def j6 : av := ⟨[.val false (.list (.prod .elem (.prod .elem .bool)))], [], true, 0, false⟩
abbrev Hy : Type := ((List ((aa × (aa × Bool)))) × Unit) × (Unit)
def JW : az := ⟨[.own 0], [(0, .row (.prod .elem (.prod .elem .bool)))], false⟩
def NV : SV → Option az := fun _ => some JW
def R5 (a0 : List ((aa × (aa × Bool)))) : OT j6.Y :=
  (gd [decide ((0 + List.length a0) * 72 ≤ 140737488355328)] (.ok ⟨JW, (((), ()), ([] ++ a0, ()))⟩))
theorem ap3 (x : Hy) (Q : j6.Y → Prop) : wpf te wz ay 1000 Tryz.f46 (j6.inp.inj x).tm (j6.inp.inj x).hp (fnK j6 NV Q) (fun _ _ => False) = (R5 (x.1.1)).wpR Q := by kernel_rfl
theorem aah (pre : Hy → Bool) (F : Hy → OT j6.Y) (hF : ∀ (x : Hy) oy, pre x = true → (F x).run = some oy → (R5 (x.1.1)).run = some oy) : ac Tryz.prog 46 (j6.aH pre F) :=
  aC au tT Qd (f := 46) (fn := Tryz.f46) (c := ao Tryz.f46) (by kernel_rfl) (by kernel_rfl) (by kernel_rfl) (S := j6) (k := 0) (by kernel_rfl) (fun R hR => af) (n := 1000) (sel := NV) (fun v o h => by cases h; rfl) (pre := pre) (F := F) (T := fun x => R5 (x.1.1)) (fun x Q => ap3 x Q) hF
def lR (x : Hy) : Bool := decide (x.1.1.length * 72 ≤ 140737488355328)
def afD (x : Hy) : OT j6.Y := .ok ⟨JW, (((), ()), (x.1.1, ()))⟩
theorem alF : ac Tryz.prog 46 (j6.aH lR afD) := aah _ _ fun x oy hp ho => by
  rw [← ho]
  have hp' : x.1.1.length * 72 ≤ 140737488355328 := of_decide_eq_true hp
  refine (al ?_).trans rfl
  simp only [List.all_cons, List.all_nil, Bool.and_true, Bool.and_eq_true]
  exact decide_eq_true (by omega)
def yl : cG := (j6.aH lR afD)
theorem R4 : ac Tryz.prog 46 yl := alF
theorem R3 : aK yl := aB
def Fu : Env := aA 46 yl wz
theorem zE : aV Tryz.prog Fu := ai R4 tT
theorem AV : ax Fu := ae R3 wy
theorem Ui : aZ Tryz.prog te Fu := aN follows au zE AV
def gz : av := ⟨[.val true alI], [], false, 0, false⟩
abbrev yk : Type := (((Int × (Int × (List ((aa × (aa × Bool))) × ((aa × (aa × Bool)) × (aa × (aa × Bool))))))) × Unit) × (Unit)
def Da : az := ⟨[.val true (.prod .int (.prod .int (.prod (.list (.prod .elem (.prod .elem .bool))) (.prod (.prod .elem (.prod .elem .bool)) (.prod .elem (.prod .elem .bool))))))], [], false⟩
def Hx : SV → Option az := fun _ => some Da
def JV (a0 : (Int × (Int × (List ((aa × (aa × Bool))) × ((aa × (aa × Bool)) × (aa × (aa × Bool))))))) : OT gz.Y :=
  (gd [lR ((a0.snd.snd.fst, ()), ())] (.ok ⟨Da, ((a0, ()), ())⟩))
theorem alE (x : yk) (Q : gz.Y → Prop) : wpf te Fu ay 1000 Tryz.f36 (gz.inp.inj x).tm (gz.inp.inj x).hp (fnK gz Hx Q) (fun _ _ => False) = (JV (x.1.1)).wpR Q := by kernel_rfl
theorem R0 (pre : yk → Bool) (F : yk → OT gz.Y) (hF : ∀ (x : yk) oy, pre x = true → (F x).run = some oy → (JV (x.1.1)).run = some oy) : ac Tryz.prog 36 (gz.aH pre F) :=
  aC au zE Ui (f := 36) (fn := Tryz.f36) (c := ao Tryz.f36) (by kernel_rfl) (by kernel_rfl) (by kernel_rfl) (S := gz) (k := 0) (by kernel_rfl) (fun R hR => af) (n := 1000) (sel := Hx) (fun v o h => by cases h; rfl) (pre := pre) (F := F) (T := fun x => JV (x.1.1)) (fun x Q => alE x Q) hF
def yj (x : yk) : Bool := decide (x.1.1.2.2.1.length * 72 ≤ 140737488355328)
def Xr (x : yk) : OT gz.Y := .ok ⟨Da, ((x.1.1, ()), ())⟩
theorem afC : ac Tryz.prog 36 (gz.aH yj Xr) := R0 _ _ fun x oy hp ho => by
  rw [← ho]
  clear ho
  obtain ⟨⟨⟨c, k, G, W, U⟩, ⟨⟩⟩, ⟨⟩⟩ := x
  refine (al ?_).trans rfl
  simp only [List.all_cons, List.all_nil, Bool.and_true]
  exact hp
def sZ : cG := (gz.aH yj Xr)
theorem NU : ac Tryz.prog 36 sZ := afC
theorem NT : aK sZ := aB
def rQ : Env := aA 36 sZ Fu
theorem nF : aV Tryz.prog rQ := ai NU zE
theorem wv : ax rQ := ae NT AV
theorem AU : aZ Tryz.prog te rQ := aN follows au nF wv
def j4 : av := ⟨[.val false (.list (.prod .elem (.prod .elem .bool))), .val false (.list (.prod .elem (.prod .elem .bool)))], [], true, 0, false⟩
abbrev Hs : Type := ((List ((aa × (aa × Bool)))) × (List ((aa × (aa × Bool)))) × Unit) × (Unit)
def u6 : Shape := ⟨26, [(0, .val false (.list (.prod .elem (.prod .elem .bool)))), (1, .val false (.list (.prod .elem (.prod .elem .bool)))), (5, .val false .int)], [], 0, true⟩
abbrev bz : Type := ((List ((aa × (aa × Bool)))) × (List ((aa × (aa × Bool)))) × (Int) × Unit) × (Unit)
def qL : Shape := ⟨26, [(4, .val false .bool)], [], 0, true⟩
abbrev j2 : Type := ((Bool) × Unit) × (Unit)
def qM : Shape := ⟨26, [], [], 0, true⟩
abbrev j3 : Type := (Unit) × (Unit)
def Xp : SE → Option Shape := jr [(0, qM)] (some qL)
def aly (a0 : List ((aa × (aa × Bool)))) (a1 : List ((aa × (aa × Bool)))) (a5 : Int) : OT (Sum bz aP) :=
  let z0 : Nat := List.length a0
  let z1 : Nat := Int.toNat a5
  let z2 : aa := { w0 := 0, w1 := 0, w2 := 0, w3 := 0 }
  let z3 : aa × aa × Bool := (z2, z2, false)
  let z4 : aa × aa × Bool := List.getD a0 z1 z3
  let z5 := z4.fst
  let z6 : aa × aa × Bool := List.getD a1 z1 z3
  let z7 := z6.fst
  let z8 := z4.snd
  let z9 := z8.fst
  let z10 := z6.snd
  let z11 := z10.fst
  (.br (decide (a5 < (↑z0 : Int)))
  (gd [inB a5 z0, inB a5 (List.length a1)] (.br (!(z5.w0 == z7.w0 && (z5.w1 == z7.w1 && (z5.w2 == z7.w2 && (z5.w3 == z7.w3 && true))) && (z9.w0 == z11.w0 && (z9.w1 == z11.w1 && (z9.w2 == z11.w2 && (z9.w3 == z11.w3 && true))) && (z8.snd == z10.snd && true))))
    (.ok (.inr ⟨(.ret, qL), ((false, ()), ())⟩))
    (gd [inR (a5 + (1 : Int))] (.ok (.inl ((a0, (a1, (a5 + (1 : Int), ()))), ()))))))
  (.ok (.inr ⟨(.exit 0, qM), ((), ())⟩)))
def u9 (s : bz) : OT (Sum bz aP) := aly (s.1.1) (s.1.2.1) (s.1.2.2.1)
theorem alv (s : bz) (Q : Sum bz aP → Prop) : wps te rQ ay 1000 (bF (ao Tryz.f70) 0) (u6.inj s) (cQ u6 Xp (Q : Sum u6.T aP → Prop)) = (u9 s).wpR Q := by kernel_rfl
def qK (g0_r : bz → j2) (c0_r : bz → Bool) (g0_0 : bz → j3) (s : bz) : OT aP := (.br (c0_r s) (.ok ⟨(.ret, qL), g0_r s⟩) (.ok ⟨(.exit 0, qM), g0_0 s⟩))
def u7 : az := ⟨[.val false .bool], [], false⟩
def NJ : SV → Option az := fun _ => some u7
def RX (ok0 : bz → Bool) (g0_r : bz → j2) (c0_r : bz → Bool) (g0_0 : bz → j3) (a0 : List ((aa × (aa × Bool)))) (a1 : List ((aa × (aa × Bool)))) : OT j4.Y :=
  let z0 : (List (aa × aa × Bool) × List (aa × aa × Bool) × Int × PUnit) × PUnit := ((a0, a1, (0 : Int), ()), ())
  (.br (!(↑(List.length a0) : Int) == (↑(List.length a1) : Int))
  (.ok ⟨u7, ((false, ()), ())⟩)
  (gd [ok0 z0] (.br (c0_r z0)
    (.ok ⟨u7, (((g0_r z0).fst.fst, ()), ())⟩)
    (.ok ⟨u7, ((true, ()), ())⟩))))
theorem apY (ok0 : bz → Bool) (g0_r : bz → j2) (c0_r : bz → Bool) (g0_0 : bz → j3) (x : Hs) (Q : j4.Y → Prop) : wpf te rQ (bg 0 (di u6 0 ok0 (qK g0_r c0_r g0_0)) ay) 1000 Tryz.f70 (j4.inp.inj x).tm (j4.inp.inj x).hp (fnK j4 NJ Q) (fun _ _ => False) = (RX ok0 g0_r c0_r g0_0 (x.1.1) (x.1.2.1)).wpR Q := by kernel_rfl
theorem Z9 (ok0 : bz → Bool) (g0_r : bz → j2) (c0_r : bz → Bool) (g0_0 : bz → j3) (h0 : ∀ s : bz, ok0 s = true → ∃ m e, aq (u9) m s = some e ∧ (qK g0_r c0_r g0_0 s).run = some e) (pre : Hs → Bool) (F : Hs → OT j4.Y) (hF : ∀ (x : Hs) oy, pre x = true → (F x).run = some oy → (RX ok0 g0_r c0_r g0_0 (x.1.1) (x.1.2.1)).run = some oy) : ac Tryz.prog 70 (j4.aH pre F) :=
  aC au nF AU (f := 70) (fn := Tryz.f70) (c := ao Tryz.f70) (by kernel_rfl) (by kernel_rfl) (by kernel_rfl) (S := j4) (k := 0) (by kernel_rfl) (fun R hR => (aF (c := (ao Tryz.f70)) (by kernel_rfl) (id := 0) (by kernel_rfl) (bt au nF AU (sh := u6) hR (xs := Xp) (aG (by kernel_rfl) (by kernel_rfl) hR) aW af (n := 1000) (T := u9) (fun s Q => alv s Q) (ok := ok0) (f := qK g0_r c0_r g0_0) h0) af)) (n := 1000) (sel := NJ) (fun v o h => by cases h; rfl) (pre := pre) (F := F) (T := fun x => RX ok0 g0_r c0_r g0_0 (x.1.1) (x.1.2.1)) (fun x Q => apY ok0 g0_r c0_r g0_0 x Q) hF
def amq (a b : Pt) : Bool := (a.1.w0 == b.1.w0 && (a.1.w1 == b.1.w1 && (a.1.w2 == b.1.w2 && (a.1.w3 == b.1.w3 && true))) && (a.2.1.w0 == b.2.1.w0 && (a.2.1.w1 == b.2.1.w1 && (a.2.1.w2 == b.2.1.w2 && (a.2.1.w3 == b.2.1.w3 && true))) && (a.2.2 == b.2.2 && true)))
theorem vF {a b : Pt} : amq a b = true ↔ a = b := by
  obtain ⟨⟨a0, a1, a2, a3⟩, ⟨a4, a5, a6, a7⟩, a8⟩ := a
  obtain ⟨⟨b0, b1, b2, b3⟩, ⟨b4, b5, b6, b7⟩, b8⟩ := b
  simp only [amq, Bool.and_eq_true, beq_iff_eq, and_true, Prod.mk.injEq, aa.mk.injEq]
def NK (s : bz) : Bool := decide (s.1.2.2.1 = 0 ∧ s.1.1.length = s.1.2.1.length ∧ s.1.1.length ≤ 140737488355328)
def NL (_ : bz) : j2 := ((false, ()), ())
def qN (s : bz) : Bool := !decide (s.1.1 = s.1.2.1)
def Xq (_ : bz) : j3 := ((), ())
theorem Hr {a b : List Pt} (hab : a.length = b.length) (hl : a.length ≤ 140737488355328) : ∀ d i, i + d = a.length →
    ∃ m, aq u9 m ((a, b, (i : Int), ()), ()) = some (cond (decide (a.drop i = b.drop i)) ⟨(.exit 0, qM), ((), ())⟩ ⟨(.ret, qL), ((false, ()), ())⟩)
  | 0, i, h => by
    refine ⟨1, ?_⟩
    have h1 : a.drop i = [] := List.drop_eq_nil_of_le (by omega)
    have h2 : b.drop i = [] := List.drop_eq_nil_of_le (by omega)
    rw [h1, h2, decide_eq_true rfl]
    exact aL (OT.aw (decide_eq_false (by dsimp only; omega)))
  | d + 1, i, h => by
    have hi : i < a.length := by omega
    have hi' : i < b.length := by omega
    have e1 : a.drop i = a[i] :: a.drop (i + 1) := List.drop_eq_getElem_cons hi
    have e2 : b.drop i = b[i] :: b.drop (i + 1) := List.drop_eq_getElem_cons hi'
    have g1 : a.getD i r9 = a[i] := by rw [List.getD_eq_getElem?_getD, List.getElem?_eq_getElem hi]; rfl
    have g2 : b.getD i r9 = b[i] := by rw [List.getD_eq_getElem?_getD, List.getElem?_eq_getElem hi']; rfl
    have hg : ∀ x : OT (Sum bz aP), (gd [inB (i : Int) a.length, inB (i : Int) b.length] x).run = x.run := fun x => al (by simp only [List.all_cons, List.all_nil, Bool.and_true, Bool.and_eq_true]; exact ⟨bD (by omega), bD (by omega)⟩)
    by_cases hx : a[i] = b[i]
    · obtain ⟨m, hm⟩ := Hr hab hl d (i + 1) (by omega)
      refine ⟨m + 1, aM (s' := ((a, b, ((i + 1 : Nat) : Int), ()), ())) ?_ ?_⟩
      · refine (OT.ap (decide_eq_true (by dsimp only; omega))).trans ((hg _).trans ((OT.aw ?_).trans ((al ?_).trans rfl)))
        · show (!amq (a.getD i r9) (b.getD i r9)) = false
          rw [g1, g2, hx, vF.2 rfl]
          rfl
        · simp only [List.all_cons, List.all_nil, Bool.and_true]
          exact bE (by omega)
      · rw [hm, e1, e2, hx]
        simp only [List.cons.injEq, true_and]
    · refine ⟨1, ?_⟩
      have : decide (a.drop i = b.drop i) = false := decide_eq_false (by rw [e1, e2]; intro h; exact hx (List.cons.inj h).1)
      rw [this]
      refine aL ((OT.ap (decide_eq_true (by dsimp only; omega))).trans ((hg _).trans ((OT.ap ?_).trans rfl)))
      show (!amq (a.getD i r9) (b.getD i r9)) = true
      rw [g1, g2]
      cases hq : amq a[i] b[i]
      · rfl
      · exact absurd (vF.1 hq) hx
theorem alx : ∀ s : bz, NK s = true → ∃ m e, aq u9 m s = some e ∧ (qK NL qN Xq s).run = some e := by
  rintro ⟨⟨a, b, i, ⟨⟩⟩, ⟨⟩⟩ h
  have h' := of_decide_eq_true h
  dsimp only at h'
  obtain ⟨rfl, hab, hl⟩ := h'
  obtain ⟨m, hm⟩ := Hr hab hl a.length 0 (by omega)
  refine ⟨m, _, hm, ?_⟩
  simp only [List.drop_zero]
  by_cases hx : a = b
  · simp only [qK, qN, hx, decide_true, Bool.not_true]
    rfl
  · have : decide (a = b) = false := decide_eq_false hx
    simp only [qK, qN, this, Bool.not_false]
    rfl
def C1 (x : Hs) : Bool := decide (x.1.1.length ≤ 140737488355328)
def C2 (x : Hs) : OT j4.Y := .ok ⟨u7, ((decide (x.1.1 = x.1.2.1), ()), ())⟩
theorem alw : ac Tryz.prog 70 (j4.aH C1 C2) := Z9 NK NL qN Xq alx _ _ fun x oy hp ho => by
  rw [← ho]
  clear ho
  obtain ⟨⟨a, b, ⟨⟩⟩, ⟨⟩⟩ := x
  have hp' : a.length ≤ 140737488355328 := of_decide_eq_true hp
  by_cases hab : a.length = b.length
  · refine (OT.aw (by simp [hab])).trans ((al ?_).trans ?_)
    · simp only [List.all_cons, List.all_nil, Bool.and_true]
      exact decide_eq_true ⟨rfl, hab, hp'⟩
    · by_cases hx : a = b
      · refine (OT.aw (by simp [qN, hx])).trans ?_
        simp only [C2, hx, decide_true]
      · refine (OT.ap (by simp [qN, hx])).trans ?_
        have : decide (a = b) = false := decide_eq_false hx
        simp only [C2, this]
        rfl
  · refine (OT.ap (by simp; omega)).trans ?_
    have : decide (a = b) = false := decide_eq_false fun e => hab (by rw [e])
    simp only [C2, this]
def yf : cG := (j4.aH C1 C2)
theorem RW : ac Tryz.prog 70 yf := alw
theorem RV : aK yf := aB
def Ft : Env := aA 70 yf rQ
theorem zD : aV Tryz.prog Ft := ai RW nF
theorem AS : ax Ft := ae RV wv
theorem Uh : aZ Tryz.prog te Ft := aN follows au zD AS
def fE : av := ⟨[.val true alI, .val true alI], [], true, 0, false⟩
abbrev ye : Type := (((Int × (Int × (List ((aa × (aa × Bool))) × ((aa × (aa × Bool)) × (aa × (aa × Bool))))))) × ((Int × (Int × (List ((aa × (aa × Bool))) × ((aa × (aa × Bool)) × (aa × (aa × Bool))))))) × Unit) × (Unit)
def iJ : az := ⟨[.val false .bool], [], false⟩
def Hq : SV → Option az := fun _ => some iJ
def u5 (a0 : (Int × (Int × (List ((aa × (aa × Bool))) × ((aa × (aa × Bool)) × (aa × (aa × Bool))))))) (a1 : (Int × (Int × (List ((aa × (aa × Bool))) × ((aa × (aa × Bool)) × (aa × (aa × Bool))))))) : OT fE.Y :=
  (.br (a0.fst == a1.fst)
  (.br (a0.snd.fst == a1.snd.fst)
    (gd [C1 ((a0.snd.snd.fst, a1.snd.snd.fst, ()), ())] (.br (decide (a0.snd.snd.fst = a1.snd.snd.fst))
      (.br (a0.snd.snd.snd.fst.fst.w0 == a1.snd.snd.snd.fst.fst.w0 && (a0.snd.snd.snd.fst.fst.w1 == a1.snd.snd.snd.fst.fst.w1 && (a0.snd.snd.snd.fst.fst.w2 == a1.snd.snd.snd.fst.fst.w2 && (a0.snd.snd.snd.fst.fst.w3 == a1.snd.snd.snd.fst.fst.w3 && true))) && (a0.snd.snd.snd.fst.snd.fst.w0 == a1.snd.snd.snd.fst.snd.fst.w0 && (a0.snd.snd.snd.fst.snd.fst.w1 == a1.snd.snd.snd.fst.snd.fst.w1 && (a0.snd.snd.snd.fst.snd.fst.w2 == a1.snd.snd.snd.fst.snd.fst.w2 && (a0.snd.snd.snd.fst.snd.fst.w3 == a1.snd.snd.snd.fst.snd.fst.w3 && true))) && (a0.snd.snd.snd.fst.snd.snd == a1.snd.snd.snd.fst.snd.snd && true)))
        (.ok ⟨iJ, ((a0.snd.snd.snd.snd.fst.w0 == a1.snd.snd.snd.snd.fst.w0 && (a0.snd.snd.snd.snd.fst.w1 == a1.snd.snd.snd.snd.fst.w1 && (a0.snd.snd.snd.snd.fst.w2 == a1.snd.snd.snd.snd.fst.w2 && (a0.snd.snd.snd.snd.fst.w3 == a1.snd.snd.snd.snd.fst.w3 && true))) && (a0.snd.snd.snd.snd.snd.fst.w0 == a1.snd.snd.snd.snd.snd.fst.w0 && (a0.snd.snd.snd.snd.snd.fst.w1 == a1.snd.snd.snd.snd.snd.fst.w1 && (a0.snd.snd.snd.snd.snd.fst.w2 == a1.snd.snd.snd.snd.snd.fst.w2 && (a0.snd.snd.snd.snd.snd.fst.w3 == a1.snd.snd.snd.snd.snd.fst.w3 && true))) && (a0.snd.snd.snd.snd.snd.snd == a1.snd.snd.snd.snd.snd.snd && true)), ()), ())⟩)
        (.ok ⟨iJ, ((false, ()), ())⟩))
      (.ok ⟨iJ, ((false, ()), ())⟩)))
    (.ok ⟨iJ, ((false, ()), ())⟩))
  (.ok ⟨iJ, ((false, ()), ())⟩))
theorem alu (x : ye) (Q : fE.Y → Prop) : wpf te Ft ay 1000 Tryz.f34 (fE.inp.inj x).tm (fE.inp.inj x).hp (fnK fE Hq Q) (fun _ _ => False) = (u5 (x.1.1) (x.1.2.1)).wpR Q := by kernel_rfl
theorem RU (pre : ye → Bool) (F : ye → OT fE.Y) (hF : ∀ (x : ye) oy, pre x = true → (F x).run = some oy → (u5 (x.1.1) (x.1.2.1)).run = some oy) : ac Tryz.prog 34 (fE.aH pre F) :=
  aC au zD Uh (f := 34) (fn := Tryz.f34) (c := ao Tryz.f34) (by kernel_rfl) (by kernel_rfl) (by kernel_rfl) (S := fE) (k := 0) (by kernel_rfl) (fun R hR => af) (n := 1000) (sel := Hq) (fun v o h => by cases h; rfl) (pre := pre) (F := F) (T := fun x => u5 (x.1.1) (x.1.2.1)) (fun x Q => alu x Q) hF
def QR (p q : aiz) : Bool := cond (p.1 == q.1) (cond (p.2.1 == q.2.1) (cond (decide (p.2.2.1 = q.2.2.1)) (cond (amq p.2.2.2.1 q.2.2.2.1) (amq p.2.2.2.2 q.2.2.2.2) false) false) false) false
theorem Zq (p : aiz) : QR p p = true := by
  unfold QR
  rw [beq_self_eq_true, beq_self_eq_true, decide_eq_true rfl, vF.2 rfl, vF.2 rfl]
  rfl
def yd (x : ye) : Bool := decide (x.1.1.2.2.1.length ≤ 140737488355328)
def Xo (x : ye) : OT fE.Y := .ok ⟨iJ, ((QR x.1.1 x.1.2.1, ()), ())⟩
theorem afv : ac Tryz.prog 34 (fE.aH yd Xo) := RU _ _ fun x oy hp ho => by
  rw [← ho]
  clear ho
  obtain ⟨⟨p, q, ⟨⟩⟩, ⟨⟩⟩ := x
  have hp : decide (p.2.2.1.length ≤ 140737488355328) = true := hp
  show (u5 p q).run = some (⟨iJ, ((QR p q, ()), ())⟩ : fE.Y)
  unfold u5 QR
  rcases (Bool.eq_false_or_eq_true (p.1 == q.1)).symm with h1 | h1
  · rw [h1]; exact (OT.aw rfl).trans rfl
  · rw [h1]
    refine (OT.ap rfl).trans ?_
    rcases (Bool.eq_false_or_eq_true (p.2.1 == q.2.1)).symm with h2 | h2
    · rw [h2]; exact (OT.aw rfl).trans rfl
    · rw [h2]
      refine (OT.ap rfl).trans ((al ?_).trans ?_)
      · simp only [List.all_cons, List.all_nil, Bool.and_true]
        exact hp
      · rcases (Bool.eq_false_or_eq_true (decide (p.2.2.1 = q.2.2.1))).symm with h3 | h3
        · rw [h3]; exact (OT.aw rfl).trans rfl
        · rw [h3]
          refine (OT.ap rfl).trans ?_
          rcases (Bool.eq_false_or_eq_true (amq p.2.2.2.1 q.2.2.2.1)).symm with h4 | h4
          · rw [h4]; exact (OT.aw h4).trans rfl
          · rw [h4]; exact (OT.ap h4).trans rfl
def sV : cG := (fE.aH yd Xo)
theorem NI : ac Tryz.prog 34 sV := afv
theorem NH : aK sV := aB
def rP : Env := aA 34 sV Ft
theorem nE : aV Tryz.prog rP := ai NI zD
theorem wu : ax rP := ae NH AS
theorem AR : aZ Tryz.prog te rP := aN follows au nE wu
def eJ : av := ⟨[.val true alI], [], true, 0, false⟩
abbrev xr : Type := (((Int × (Int × (List ((aa × (aa × Bool))) × ((aa × (aa × Bool)) × (aa × (aa × Bool))))))) × Unit) × (Unit)
def ou : Shape := ⟨60, [(1, .ptr 0 0 0), (3, .own 1), (4, .val false .int)], [(0, .cells [.val false .int, .val false .int, .val false (.list (.prod .elem (.prod .elem .bool))), .val false .u64, .val false .u64, .val false .u64, .val false .u64, .val false .u64, .val false .u64, .val false .u64, .val false .u64, .val false .bool, .val false .u64, .val false .u64, .val false .u64, .val false .u64, .val false .u64, .val false .u64, .val false .u64, .val false .u64, .val false .bool]), (1, .row (.prod .elem (.prod .elem .bool)))], 0, true⟩
abbrev bc : Type := ((Unit) × (Unit) × (Int) × Unit) × (((Int) × (Int) × (List ((aa × (aa × Bool)))) × (UInt64) × (UInt64) × (UInt64) × (UInt64) × (UInt64) × (UInt64) × (UInt64) × (UInt64) × (Bool) × (UInt64) × (UInt64) × (UInt64) × (UInt64) × (UInt64) × (UInt64) × (UInt64) × (UInt64) × (Bool) × Unit) × (List ((aa × (aa × Bool)))) × Unit)
def jK : Shape := ⟨60, [(2, .val false .int)], [], 0, true⟩
abbrev iA : Type := ((Int) × Unit) × (Unit)
def mR : Shape := ⟨60, [], [], 0, true⟩
abbrev iB : Type := (Unit) × (Unit)
def MD : SE → Option Shape := jr [(0, mR)] (some jK)
def aey (a4 : Int) (c0_0 : Int) (c0_1 : Int) (c0_2 : List ((aa × (aa × Bool)))) (c0_3 : UInt64) (c0_4 : UInt64) (c0_5 : UInt64) (c0_6 : UInt64) (c0_7 : UInt64) (c0_8 : UInt64) (c0_9 : UInt64) (c0_10 : UInt64) (c0_11 : Bool) (c0_12 : UInt64) (c0_13 : UInt64) (c0_14 : UInt64) (c0_15 : UInt64) (c0_16 : UInt64) (c0_17 : UInt64) (c0_18 : UInt64) (c0_19 : UInt64) (c0_20 : Bool) (c1 : List ((aa × (aa × Bool)))) : OT (Sum bc aP) :=
  let z0 : Nat := List.length c1
  let z1 : Bool := inB a4 z0
  let z2 : Nat := Int.toNat a4
  let z3 : Bool := decide (z2 < z0)
  let z4 : aa := { w0 := 0, w1 := 0, w2 := 0, w3 := 0 }
  let z5 : aa × aa × Bool := List.getD c1 z2 (z4, z4, false)
  (.br (decide (a4 < (↑z0 : Int)))
  (gd [z1, z3] (.br (z5.snd.snd)
    (.ok (.inr ⟨(.ret, jK), (((90 : Int), ()), ())⟩))
    (gd [z1, z3] (.br (!onB c0_0 z5)
      (.ok (.inr ⟨(.ret, jK), (((90 : Int), ()), ())⟩))
      (gd [inR (a4 + (1 : Int))] (.ok (.inl (((), ((), (a4 + (1 : Int), ()))), ((c0_0, (c0_1, (c0_2, (c0_3, (c0_4, (c0_5, (c0_6, (c0_7, (c0_8, (c0_9, (c0_10, (c0_11, (c0_12, (c0_13, (c0_14, (c0_15, (c0_16, (c0_17, (c0_18, (c0_19, (c0_20, ()))))))))))))))))))))), (c1, ()))))))))))
  (.ok (.inr ⟨(.exit 0, mR), ((), ())⟩)))
def ov (s : bc) : OT (Sum bc aP) := aey (s.1.2.2.1) (s.2.1.1) (s.2.1.2.1) (s.2.1.2.2.1) (s.2.1.2.2.2.1) (s.2.1.2.2.2.2.1) (s.2.1.2.2.2.2.2.1) (s.2.1.2.2.2.2.2.2.1) (s.2.1.2.2.2.2.2.2.2.1) (s.2.1.2.2.2.2.2.2.2.2.1) (s.2.1.2.2.2.2.2.2.2.2.2.1) (s.2.1.2.2.2.2.2.2.2.2.2.2.1) (s.2.1.2.2.2.2.2.2.2.2.2.2.2.1) (s.2.1.2.2.2.2.2.2.2.2.2.2.2.2.1) (s.2.1.2.2.2.2.2.2.2.2.2.2.2.2.2.1) (s.2.1.2.2.2.2.2.2.2.2.2.2.2.2.2.2.1) (s.2.1.2.2.2.2.2.2.2.2.2.2.2.2.2.2.2.1) (s.2.1.2.2.2.2.2.2.2.2.2.2.2.2.2.2.2.2.1) (s.2.1.2.2.2.2.2.2.2.2.2.2.2.2.2.2.2.2.2.1) (s.2.1.2.2.2.2.2.2.2.2.2.2.2.2.2.2.2.2.2.2.1) (s.2.1.2.2.2.2.2.2.2.2.2.2.2.2.2.2.2.2.2.2.2.1) (s.2.1.2.2.2.2.2.2.2.2.2.2.2.2.2.2.2.2.2.2.2.2.1) (s.2.2.1)
theorem aev (s : bc) (Q : Sum bc aP → Prop) : wps te rP ay 1000 (bF (ao Tryz.f37) 0) (ou.inj s) (cQ ou MD (Q : Sum ou.T aP → Prop)) = (ov s).wpR Q := by kernel_rfl
def uH (g0_r : bc → iA) (c0_r : bc → Bool) (g0_0 : bc → iB) (s : bc) : OT aP := (.br (c0_r s) (.ok ⟨(.ret, jK), g0_r s⟩) (.ok ⟨(.exit 0, mR), g0_0 s⟩))
def fv : az := ⟨[.val false .int], [], false⟩
def GR : SV → Option az := fun _ => some fv
def Bx (ok0 : bc → Bool) (g0_r : bc → iA) (c0_r : bc → Bool) (g0_0 : bc → iB) (a0 : (Int × (Int × (List ((aa × (aa × Bool))) × ((aa × (aa × Bool)) × (aa × (aa × Bool))))))) : OT eJ.Y :=
  let z0 : Nat := List.length a0.snd.snd.fst
  let z1 : (PUnit × PUnit × Int × PUnit) × (Int × Int × List (aa × aa × Bool) × UInt64 × UInt64 × UInt64 × UInt64 × UInt64 × UInt64 × UInt64 × UInt64 × Bool × UInt64 × UInt64 × UInt64 × UInt64 × UInt64 × UInt64 × UInt64 × UInt64 × Bool × PUnit) × List (aa × aa × Bool) × PUnit := (((), (), (0 : Int), ()), (a0.fst, a0.snd.fst, a0.snd.snd.fst, a0.snd.snd.snd.fst.fst.w0, a0.snd.snd.snd.fst.fst.w1, a0.snd.snd.snd.fst.fst.w2, a0.snd.snd.snd.fst.fst.w3, a0.snd.snd.snd.fst.snd.fst.w0, a0.snd.snd.snd.fst.snd.fst.w1, a0.snd.snd.snd.fst.snd.fst.w2, a0.snd.snd.snd.fst.snd.fst.w3, a0.snd.snd.snd.fst.snd.snd, a0.snd.snd.snd.snd.fst.w0, a0.snd.snd.snd.snd.fst.w1, a0.snd.snd.snd.snd.fst.w2, a0.snd.snd.snd.snd.fst.w3, a0.snd.snd.snd.snd.snd.fst.w0, a0.snd.snd.snd.snd.snd.fst.w1, a0.snd.snd.snd.snd.snd.fst.w2, a0.snd.snd.snd.snd.snd.fst.w3, a0.snd.snd.snd.snd.snd.snd, ()), a0.snd.snd.fst ++ [a0.snd.snd.snd.fst, a0.snd.snd.snd.snd], ())
  (.br (decide (a0.fst < (0 : Int)))
  (.ok ⟨fv, (((40 : Int), ()), ())⟩)
  (.br (decide ((3 : Int) < a0.fst))
    (.ok ⟨fv, (((40 : Int), ()), ())⟩)
    (.br (decide (a0.snd.fst < (0 : Int)))
      (.ok ⟨fv, (((60 : Int), ()), ())⟩)
      (.br (decide ((5 : Int) < a0.snd.fst))
        (.ok ⟨fv, (((60 : Int), ()), ())⟩)
        (gd [lR ((a0.snd.snd.fst, ()), ()), decide ((z0 + 2) * 72 ≤ 140737488355328)] (.br (!(↑z0 : Int) == Oq (1 : Int) (↑(UInt64.toNat (i2u a0.snd.fst)) : Int))
          (.ok ⟨fv, (((90 : Int), ()), ())⟩)
          (gd [ok0 z1] (.br (c0_r z1)
            (.ok ⟨fv, (((g0_r z1).fst.fst, ()), ())⟩)
            (.ok ⟨fv, (((0 : Int), ()), ())⟩)))))))))
theorem akL (ok0 : bc → Bool) (g0_r : bc → iA) (c0_r : bc → Bool) (g0_0 : bc → iB) (x : xr) (Q : eJ.Y → Prop) : wpf te rP (bg 0 (di ou 0 ok0 (uH g0_r c0_r g0_0)) ay) 1000 Tryz.f37 (eJ.inp.inj x).tm (eJ.inp.inj x).hp (fnK eJ GR Q) (fun _ _ => False) = (Bx ok0 g0_r c0_r g0_0 (x.1.1)).wpR Q := by kernel_rfl
theorem QT (ok0 : bc → Bool) (g0_r : bc → iA) (c0_r : bc → Bool) (g0_0 : bc → iB) (h0 : ∀ s : bc, ok0 s = true → ∃ m e, aq (ov) m s = some e ∧ (uH g0_r c0_r g0_0 s).run = some e) (pre : xr → Bool) (F : xr → OT eJ.Y) (hF : ∀ (x : xr) oy, pre x = true → (F x).run = some oy → (Bx ok0 g0_r c0_r g0_0 (x.1.1)).run = some oy) : ac Tryz.prog 37 (eJ.aH pre F) :=
  aC au nE AR (f := 37) (fn := Tryz.f37) (c := ao Tryz.f37) (by kernel_rfl) (by kernel_rfl) (by kernel_rfl) (S := eJ) (k := 0) (by kernel_rfl) (fun R hR => (aF (c := (ao Tryz.f37)) (by kernel_rfl) (id := 0) (by kernel_rfl) (bt au nE AR (sh := ou) hR (xs := MD) (aG (by kernel_rfl) (by kernel_rfl) hR) aW af (n := 1000) (T := ov) (fun s Q => aev s Q) (ok := ok0) (f := uH g0_r c0_r g0_0) h0) af)) (n := 1000) (sel := GR) (fun v o h => by cases h; rfl) (pre := pre) (F := F) (T := fun x => Bx ok0 g0_r c0_r g0_0 (x.1.1)) (fun x Q => akL ok0 g0_r c0_r g0_0 x Q) hF
theorem aej (i : amW) (l : List Pt) (hl : l.length ≤ 140737488355328) : ∀ n k : Nat, k + n = l.length →
    ∃ m, aq ov m (((), (), (k : Int), ()), (i, l, ())) = some (cond ((l.drop k).any (kB i.1)) ⟨(.ret, jK), (((90 : Int), ()), ())⟩ ⟨(.exit 0, mR), ((), ())⟩)
  | 0, k, h => by
    rw [List.drop_eq_nil_of_le (by omega)]
    exact ⟨1, aL (OT.aw (decide_eq_false (by dsimp only; omega)))⟩
  | n + 1, k, h => by
    have hk : k < l.length := by omega
    have e1 : l.drop k = l[k] :: l.drop (k + 1) := List.drop_eq_getElem_cons hk
    have e3 : l.getD k r9 = l[k] := by rw [List.getD_eq_getElem?_getD, List.getElem?_eq_getElem hk]; rfl
    have hgd : ∀ z : OT (Sum bc aP), (gd [inB (k : Int) l.length, decide (Int.toNat (k : Int) < l.length)] z).run = z.run := fun z => al (by
      rw [bD (by omega), decide_eq_true (show Int.toNat (k : Int) < l.length by omega)]; rfl)
    rw [e1, List.any_cons, ← e3]
    have c0 : decide ((k : Int) < (l.length : Int)) = true := decide_eq_true (by omega)
    rcases (Bool.eq_false_or_eq_true (l.getD k r9).2.2).symm with h1 | h1
    · rcases (Bool.eq_false_or_eq_true (onB i.1 (l.getD k r9))).symm with h2 | h2
      · have eb : kB i.1 (l.getD k r9) = true := by unfold kB; rw [h1, h2]; rfl
        rw [eb, Bool.true_or]
        exact ⟨1, aL ((OT.ap c0).trans ((hgd _).trans ((OT.aw h1).trans ((hgd _).trans (OT.ap (b := !onB i.1 (l.getD k r9)) (by rw [h2]; rfl))))))⟩
      · have eb : kB i.1 (l.getD k r9) = false := by unfold kB; rw [h1, h2]; rfl
        rw [eb, Bool.false_or]
        obtain ⟨m, hm⟩ := aej i l hl n (k + 1) (by omega)
        refine ⟨m + 1, aM ?_ hm⟩
        refine (OT.ap c0).trans ((hgd _).trans ((OT.aw h1).trans ((hgd _).trans ((OT.aw (b := !onB i.1 (l.getD k r9)) (by rw [h2]; rfl)).trans ((al ?_).trans rfl)))))
        simp only [List.all_cons, List.all_nil, Bool.and_true]
        exact bE (by omega)
    · have eb : kB i.1 (l.getD k r9) = true := by unfold kB; rw [h1]; rfl
      rw [eb, Bool.true_or]
      exact ⟨1, aL ((OT.ap c0).trans ((hgd _).trans (OT.ap h1)))⟩
def xq (s : bc) : Bool := decide (s.1.2.2.1 = 0 ∧ s.2.2.1.length ≤ 140737488355328)
def Cq (_ : bc) : iA := (((90 : Int), ()), ())
def Cs (s : bc) : Bool := s.2.2.1.any (kB s.2.1.1)
def Cr (_ : bc) : iB := ((), ())
theorem aex : ∀ s : bc, xq s = true → ∃ m e, aq ov m s = some e ∧ (uH Cq Cs Cr s).run = some e := by
  rintro ⟨⟨⟨⟩, ⟨⟩, k, ⟨⟩⟩, ⟨i, l, ⟨⟩⟩⟩ h
  have h' := of_decide_eq_true h
  dsimp only at h'
  obtain ⟨rfl, hl⟩ := h'
  obtain ⟨m, hm⟩ := aej i l hl l.length 0 (by omega)
  refine ⟨m, _, hm, ?_⟩
  show (OT.br (l.any (kB i.1)) _ _ : OT aP).run = some (cond (l.any (kB i.1)) _ _)
  cases l.any (kB i.1) <;> rfl
theorem WD {k : Int} (h0 : ¬ k < 0) (h5 : ¬ 5 < k) : Oq 1 (((i2u k).toNat : Nat) : Int) = Oq 1 k := by
  have : k = 0 ∨ k = 1 ∨ k = 2 ∨ k = 3 ∨ k = 4 ∨ k = 5 := by omega
  rcases this with rfl | rfl | rfl | rfl | rfl | rfl <;> rfl
def qs (x : xr) : Bool := decide (x.1.1.2.2.1.length ≤ 1000000000000)
def WR (x : xr) : OT eJ.Y := .ok ⟨fv, ((dS x.1.1, ()), ())⟩
theorem ark (c : Int) (G : List Pt) (W U : Pt) : (G ++ [W, U]).any (kB c) = cond (G.any (kB c)) true (cond (kB c W) true (kB c U)) := by
  rw [List.any_append]
  cases G.any (kB c) <;> cases h1 : kB c W <;> cases h2 : kB c U <;> simp [h1, h2]
theorem aew : ac Tryz.prog 37 (eJ.aH qs WR) := QT xq Cq Cs Cr aex _ _ fun x oy hp ho => by
  rw [← ho]
  clear ho
  obtain ⟨⟨⟨c, k, G, W, U⟩, ⟨⟩⟩, ⟨⟩⟩ := x
  show (Bx xq Cq Cs Cr (c, k, G, W, U)).run = some (⟨fv, ((dS (c, k, G, W, U), ()), ())⟩ : eJ.Y)
  have hp : G.length ≤ 1000000000000 := of_decide_eq_true hp
  have hgd : ∀ z : OT eJ.Y, (gd [lR ((G, ()), ()), decide ((G.length + 2) * 72 ≤ 140737488355328)] z).run = z.run := fun z => al (by
    rw [show lR ((G, ()), ()) = true from decide_eq_true (show G.length * 72 ≤ _ by omega), decide_eq_true (show (G.length + 2) * 72 ≤ 140737488355328 by omega)]; rfl)
  have hlen : (G ++ [W, U]).length ≤ 140737488355328 := by rw [List.length_append]; simp only [List.length_cons, List.length_nil]; omega
  by_cases h1 : c < 0
  · have hs : ak c = false := by rw [Jc, decide_eq_true h1]; rfl
    unfold dS
    dsimp only
    rw [hs]
    exact (OT.ap (decide_eq_true h1)).trans rfl
  · by_cases h2 : 3 < c
    · have hs : ak c = false := by rw [Jc, decide_eq_true h2, decide_eq_false h1]; rfl
      unfold dS
      dsimp only
      rw [hs]
      exact (OT.aw (decide_eq_false h1)).trans ((OT.ap (decide_eq_true h2)).trans rfl)
    · have hs : ak c = true := by rw [Jc, decide_eq_false h2, decide_eq_false h1]; rfl
      unfold dS
      dsimp only
      rw [hs]
      refine (OT.aw (decide_eq_false h1)).trans ((OT.aw (decide_eq_false h2)).trans ?_)
      by_cases h3 : k < 0
      · rw [decide_eq_true h3]
        exact (OT.ap rfl).trans rfl
      · rw [decide_eq_false h3]
        refine (OT.aw rfl).trans ?_
        by_cases h4 : 5 < k
        · rw [decide_eq_true h4]
          exact (OT.ap rfl).trans rfl
        · rw [decide_eq_false h4]
          refine (OT.aw rfl).trans ((hgd _).trans ?_)
          rcases (Bool.eq_false_or_eq_true (!((G.length : Int) == Oq 1 k))).symm with h5 | h5
          · have h5' : (!((G.length : Int) == Oq 1 (((i2u k).toNat : Nat) : Int))) = false := by rw [WD h3 h4]; exact h5
            rw [h5]
            refine (OT.aw h5').trans ((al ?_).trans ?_)
            · simp only [List.all_cons, List.all_nil, Bool.and_true]
              exact decide_eq_true ⟨rfl, hlen⟩
            · have ha := ark c G W U
              show (OT.br ((G ++ [W, U]).any (kB c)) _ _ : OT eJ.Y).run = _
              rw [ha]
              cases G.any (kB c) <;> cases kB c W <;> cases kB c U <;> rfl
          · have h5' : (!((G.length : Int) == Oq 1 (((i2u k).toNat : Nat) : Int))) = true := by rw [WD h3 h4]; exact h5
            rw [h5]
            exact (OT.ap h5').trans rfl
def sJ : cG := (eJ.aH qs WR)
theorem MF : ac Tryz.prog 37 sJ := aew
theorem ME : aK sJ := aB
def rJ : Env := aA 37 sJ rP
theorem nA : aV Tryz.prog rJ := ai MF nE
theorem v8 : ax rJ := ae ME wu
theorem Ax : aZ Tryz.prog te rJ := aN follows au nA v8
def dM : av := ⟨[.val true alI, .val false (.list .elem), .val true .elem], [], true, 0, false⟩
abbrev qS : Type := (((Int × (Int × (List ((aa × (aa × Bool))) × ((aa × (aa × Bool)) × (aa × (aa × Bool))))))) × (List (aa)) × (aa) × Unit) × (Unit)
def lS : Shape := ⟨54, [(3, .ptr 0 0 0), (6, .ptr 1 0 0), (9, .own 2), (30, .val false (.list .elem)), (31, .val false .int), (32, .val false .int)], [(0, .cells [.val false .int, .val false .int, .val false (.list (.prod .elem (.prod .elem .bool))), .val false .u64, .val false .u64, .val false .u64, .val false .u64, .val false .u64, .val false .u64, .val false .u64, .val false .u64, .val false .bool, .val false .u64, .val false .u64, .val false .u64, .val false .u64, .val false .u64, .val false .u64, .val false .u64, .val false .u64, .val false .bool]), (1, .cells [.val false .u64, .val false .u64, .val false .u64, .val false .u64, .val false .u64, .val false .u64, .val false .u64, .val false .u64, .val false .bool]), (2, .row (.prod .elem (.prod .elem (.prod .elem .bool))))], 0, true⟩
abbrev bL : Type := ((Unit) × (Unit) × (Unit) × (List (aa)) × (Int) × (Int) × Unit) × (((Int) × (Int) × (List ((aa × (aa × Bool)))) × (UInt64) × (UInt64) × (UInt64) × (UInt64) × (UInt64) × (UInt64) × (UInt64) × (UInt64) × (Bool) × (UInt64) × (UInt64) × (UInt64) × (UInt64) × (UInt64) × (UInt64) × (UInt64) × (UInt64) × (Bool) × Unit) × ((UInt64) × (UInt64) × (UInt64) × (UInt64) × (UInt64) × (UInt64) × (UInt64) × (UInt64) × (Bool) × Unit) × (List ((aa × (aa × (aa × Bool))))) × Unit)
def kT : Shape := ⟨54, [(3, .ptr 0 0 0), (6, .ptr 1 0 0), (9, .own 2)], [(0, .cells [.val false .int, .val false .int, .val false (.list (.prod .elem (.prod .elem .bool))), .val false .u64, .val false .u64, .val false .u64, .val false .u64, .val false .u64, .val false .u64, .val false .u64, .val false .u64, .val false .bool, .val false .u64, .val false .u64, .val false .u64, .val false .u64, .val false .u64, .val false .u64, .val false .u64, .val false .u64, .val false .bool]), (1, .cells [.val false .u64, .val false .u64, .val false .u64, .val false .u64, .val false .u64, .val false .u64, .val false .u64, .val false .u64, .val false .bool]), (2, .row (.prod .elem (.prod .elem (.prod .elem .bool))))], 0, true⟩
abbrev gB : Type := ((Unit) × (Unit) × (Unit) × Unit) × (((Int) × (Int) × (List ((aa × (aa × Bool)))) × (UInt64) × (UInt64) × (UInt64) × (UInt64) × (UInt64) × (UInt64) × (UInt64) × (UInt64) × (Bool) × (UInt64) × (UInt64) × (UInt64) × (UInt64) × (UInt64) × (UInt64) × (UInt64) × (UInt64) × (Bool) × Unit) × ((UInt64) × (UInt64) × (UInt64) × (UInt64) × (UInt64) × (UInt64) × (UInt64) × (UInt64) × (Bool) × Unit) × (List ((aa × (aa × (aa × Bool))))) × Unit)
def HA : SE → Option Shape := jr [(0, kT)] none
def aal (a30 : List (aa)) (a31 : Int) (a32 : Int) (c0_0 : Int) (c0_1 : Int) (c0_2 : List ((aa × (aa × Bool)))) (c0_3 : UInt64) (c0_4 : UInt64) (c0_5 : UInt64) (c0_6 : UInt64) (c0_7 : UInt64) (c0_8 : UInt64) (c0_9 : UInt64) (c0_10 : UInt64) (c0_11 : Bool) (c0_12 : UInt64) (c0_13 : UInt64) (c0_14 : UInt64) (c0_15 : UInt64) (c0_16 : UInt64) (c0_17 : UInt64) (c0_18 : UInt64) (c0_19 : UInt64) (c0_20 : Bool) (c1_0 : UInt64) (c1_1 : UInt64) (c1_2 : UInt64) (c1_3 : UInt64) (c1_4 : UInt64) (c1_5 : UInt64) (c1_6 : UInt64) (c1_7 : UInt64) (c1_8 : Bool) (c2 : List ((aa × (aa × (aa × Bool))))) : OT (Sum bL aP) :=
  let z0 : Nat := Int.toNat a32
  let z1 : aa := { w0 := 0, w1 := 0, w2 := 0, w3 := 0 }
  (.br (decide (a32 < a31))
  (gd [inB a32 (List.length a30), inB a32 (List.length c0_2), decide ((List.length c2 + 1) * 104 ≤ 140737488355328), inR (a32 + (1 : Int))] (.ok (.inl (((), ((), ((), (a30, (a31, (a32 + (1 : Int), ())))))), ((c0_0, (c0_1, (c0_2, (c0_3, (c0_4, (c0_5, (c0_6, (c0_7, (c0_8, (c0_9, (c0_10, (c0_11, (c0_12, (c0_13, (c0_14, (c0_15, (c0_16, (c0_17, (c0_18, (c0_19, (c0_20, ()))))))))))))))))))))), ((c1_0, (c1_1, (c1_2, (c1_3, (c1_4, (c1_5, (c1_6, (c1_7, (c1_8, ()))))))))), (c2 ++ [(List.getD a30 z0 z1, List.getD c0_2 z0 (z1, z1, false))], ())))))))
  (.ok (.inr ⟨(.exit 0, kT), (((), ((), ((), ()))), ((c0_0, (c0_1, (c0_2, (c0_3, (c0_4, (c0_5, (c0_6, (c0_7, (c0_8, (c0_9, (c0_10, (c0_11, (c0_12, (c0_13, (c0_14, (c0_15, (c0_16, (c0_17, (c0_18, (c0_19, (c0_20, ()))))))))))))))))))))), ((c1_0, (c1_1, (c1_2, (c1_3, (c1_4, (c1_5, (c1_6, (c1_7, (c1_8, ()))))))))), (c2, ()))))⟩)))
def lT (s : bL) : OT (Sum bL aP) := aal (s.1.2.2.2.1) (s.1.2.2.2.2.1) (s.1.2.2.2.2.2.1) (s.2.1.1) (s.2.1.2.1) (s.2.1.2.2.1) (s.2.1.2.2.2.1) (s.2.1.2.2.2.2.1) (s.2.1.2.2.2.2.2.1) (s.2.1.2.2.2.2.2.2.1) (s.2.1.2.2.2.2.2.2.2.1) (s.2.1.2.2.2.2.2.2.2.2.1) (s.2.1.2.2.2.2.2.2.2.2.2.1) (s.2.1.2.2.2.2.2.2.2.2.2.2.1) (s.2.1.2.2.2.2.2.2.2.2.2.2.2.1) (s.2.1.2.2.2.2.2.2.2.2.2.2.2.2.1) (s.2.1.2.2.2.2.2.2.2.2.2.2.2.2.2.1) (s.2.1.2.2.2.2.2.2.2.2.2.2.2.2.2.2.1) (s.2.1.2.2.2.2.2.2.2.2.2.2.2.2.2.2.2.1) (s.2.1.2.2.2.2.2.2.2.2.2.2.2.2.2.2.2.2.1) (s.2.1.2.2.2.2.2.2.2.2.2.2.2.2.2.2.2.2.2.1) (s.2.1.2.2.2.2.2.2.2.2.2.2.2.2.2.2.2.2.2.2.1) (s.2.1.2.2.2.2.2.2.2.2.2.2.2.2.2.2.2.2.2.2.2.1) (s.2.1.2.2.2.2.2.2.2.2.2.2.2.2.2.2.2.2.2.2.2.2.1) (s.2.2.1.1) (s.2.2.1.2.1) (s.2.2.1.2.2.1) (s.2.2.1.2.2.2.1) (s.2.2.1.2.2.2.2.1) (s.2.2.1.2.2.2.2.2.1) (s.2.2.1.2.2.2.2.2.2.1) (s.2.2.1.2.2.2.2.2.2.2.1) (s.2.2.1.2.2.2.2.2.2.2.2.1) (s.2.2.2.1)
theorem aai (s : bL) (Q : Sum bL aP → Prop) : wps te rJ ay 1000 (bF (ao Tryz.f39) 0) (lS.inj s) (cQ lS HA (Q : Sum lS.T aP → Prop)) = (lT s).wpR Q := by kernel_rfl
def qR (g0_0 : bL → gB) (s : bL) : OT aP := (.ok ⟨(.exit 0, kT), g0_0 s⟩)
def cU : az := ⟨[.val true (.prod .elem (.prod .elem .bool)), .val false .int], [], false⟩
def Dc : SV → Option az := fun _ => some cU
def vd (ok0 : bL → Bool) (g0_0 : bL → gB) (a0 : (Int × (Int × (List ((aa × (aa × Bool))) × ((aa × (aa × Bool)) × (aa × (aa × Bool))))))) (a1 : List (aa)) (a2 : aa) : OT dM.Y :=
  let z0 : Int := dS a0
  let z1 : aa := { w0 := 0, w1 := 0, w2 := 0, w3 := 0 }
  let z2 : aa × aa × Bool := (z1, z1, false)
  let z3 : Int := (↑(List.length a1) : Int)
  let z4 : (PUnit × PUnit × PUnit × List aa × Int × Int × PUnit) × (Int × Int × List (aa × aa × Bool) × UInt64 × UInt64 × UInt64 × UInt64 × UInt64 × UInt64 × UInt64 × UInt64 × Bool × UInt64 × UInt64 × UInt64 × UInt64 × UInt64 × UInt64 × UInt64 × UInt64 × Bool × PUnit) × (UInt64 × UInt64 × UInt64 × UInt64 × UInt64 × UInt64 × UInt64 × UInt64 × Bool × PUnit) × List (aa × aa × aa × Bool) × PUnit := (((), (), (), a1, z3, (0 : Int), ()), (a0.fst, a0.snd.fst, a0.snd.snd.fst, a0.snd.snd.snd.fst.fst.w0, a0.snd.snd.snd.fst.fst.w1, a0.snd.snd.snd.fst.fst.w2, a0.snd.snd.snd.fst.fst.w3, a0.snd.snd.snd.fst.snd.fst.w0, a0.snd.snd.snd.fst.snd.fst.w1, a0.snd.snd.snd.fst.snd.fst.w2, a0.snd.snd.snd.fst.snd.fst.w3, a0.snd.snd.snd.fst.snd.snd, a0.snd.snd.snd.snd.fst.w0, a0.snd.snd.snd.snd.fst.w1, a0.snd.snd.snd.snd.fst.w2, a0.snd.snd.snd.snd.fst.w3, a0.snd.snd.snd.snd.snd.fst.w0, a0.snd.snd.snd.snd.snd.fst.w1, a0.snd.snd.snd.snd.snd.fst.w2, a0.snd.snd.snd.snd.snd.fst.w3, a0.snd.snd.snd.snd.snd.snd, ()), ((0 : UInt64), (0 : UInt64), (0 : UInt64), (0 : UInt64), (0 : UInt64), (0 : UInt64), (0 : UInt64), (0 : UInt64), false, ()), [(a2, a0.snd.snd.snd.fst)], ())
  let z5 := (g0_0 z4).snd
  let z6 := z5.fst.fst
  let z7 := z5.snd.snd.fst
  (gd [qT ((a0, ()), ())] (.br (!z0 == (0 : Int))
  (.ok ⟨cU, ((z2, (z0, ())), ())⟩)
  (.br (decide ((↑(List.length a0.snd.snd.fst) : Int) < z3))
    (.ok ⟨cU, ((z2, ((50 : Int), ())), ())⟩)
    (gd [ok0 z4] (.br (ak z6)
      (.br (decide (List.length z7 ≤ 100000))
        (.br (cF z6 z7)
          (.ok ⟨cU, ((Gd z6 (Bw z6 z7), ((0 : Int), ())), ())⟩)
          (.ok ⟨cU, ((z2, ((41 : Int), ())), ())⟩))
        (.ok ⟨cU, ((z2, ((50 : Int), ())), ())⟩))
      (.ok ⟨cU, ((z2, ((40 : Int), ())), ())⟩))))))
theorem afF (ok0 : bL → Bool) (g0_0 : bL → gB) (x : qS) (Q : dM.Y → Prop) : wpf te rJ (bg 0 (di lS 0 ok0 (qR g0_0)) ay) 1000 Tryz.f39 (dM.inp.inj x).tm (dM.inp.inj x).hp (fnK dM Dc Q) (fun _ _ => False) = (vd ok0 g0_0 (x.1.1) (x.1.2.1) (x.1.2.2.1)).wpR Q := by kernel_rfl
theorem NY (ok0 : bL → Bool) (g0_0 : bL → gB) (h0 : ∀ s : bL, ok0 s = true → ∃ m e, aq (lT) m s = some e ∧ (qR g0_0 s).run = some e) (pre : qS → Bool) (F : qS → OT dM.Y) (hF : ∀ (x : qS) oy, pre x = true → (F x).run = some oy → (vd ok0 g0_0 (x.1.1) (x.1.2.1) (x.1.2.2.1)).run = some oy) : ac Tryz.prog 39 (dM.aH pre F) :=
  aC au nA Ax (f := 39) (fn := Tryz.f39) (c := ao Tryz.f39) (by kernel_rfl) (by kernel_rfl) (by kernel_rfl) (S := dM) (k := 0) (by kernel_rfl) (fun R hR => (aF (c := (ao Tryz.f39)) (by kernel_rfl) (id := 0) (by kernel_rfl) (bt au nA Ax (sh := lS) hR (xs := HA) (aG (by kernel_rfl) (by kernel_rfl) hR) aW af (n := 1000) (T := lT) (fun s Q => aai s Q) (ok := ok0) (f := qR g0_0) h0) af)) (n := 1000) (sel := Dc) (fun v o h => by cases h; rfl) (pre := pre) (F := F) (T := fun x => vd ok0 g0_0 (x.1.1) (x.1.2.1) (x.1.2.2.1)) (fun x Q => afF ok0 g0_0 x Q) hF
theorem EM {p : aiz} (h : (dS p == 0) = true) : p.2.2.1.length ≤ 32 := by
  unfold dS at h
  cases h1 : ak p.1
  · rw [h1] at h; cases h
  · rw [h1] at h
    by_cases h2 : p.2.1 < 0
    · rw [decide_eq_true h2] at h; cases h
    · rw [decide_eq_false h2] at h
      by_cases h3 : 5 < p.2.1
      · rw [decide_eq_true h3] at h; cases h
      · rw [decide_eq_false h3] at h
        cases h4 : (p.2.2.1.length : Int) == Oq 1 p.2.1
        · rw [h4] at h; cases h
        · rw [beq_iff_eq] at h4
          have h6 : Oq 1 p.2.1 ≤ 32 := by
            have : p.2.1 = 0 ∨ p.2.1 = 1 ∨ p.2.1 = 2 ∨ p.2.1 = 3 ∨ p.2.1 = 4 ∨ p.2.1 = 5 := by omega
            rcases this with e | e | e | e | e | e <;> rw [e] <;> decide
          omega
def K5 (G : List Pt) (l : List aa) (k : Nat) (o : List Tm) : List Tm := o ++ [(l.getD k ⟨0, 0, 0, 0⟩, G.getD k r9)]
def abG (p : aiz) (l : List aa) (b : aa) : List Tm := upto (K5 p.2.2.1 l) [(b, p.2.2.2.1)] l.length
theorem Io (G : List Pt) (l : List aa) (t : Tm) : ∀ n, (upto (K5 G l) [t] n).length = n + 1
  | 0 => rfl
  | n + 1 => by
    show (upto (K5 G l) [t] n ++ [_]).length = _
    rw [List.length_append, Io G l t n]
    rfl
def s6 (s : bL) : Bool := decide (s.1.2.2.2.2.1 = (s.1.2.2.2.1.length : Int) ∧ s.1.2.2.2.2.2.1 = 0 ∧ s.1.2.2.2.1.length ≤ s.2.1.2.2.1.length ∧ s.2.1.2.2.1.length ≤ 32 ∧ s.2.2.2.1.length = 1)
def yo (s : bL) : gB := (((), (), (), ()), (s.2.1, s.2.2.1, upto (K5 s.2.1.2.2.1 s.1.2.2.2.1) s.2.2.2.1 s.1.2.2.2.1.length, ()))
theorem aak : ∀ s : bL, s6 s = true → ∃ m e, aq lT m s = some e ∧ (qR yo s).run = some e := by
  rintro ⟨⟨⟨⟩, ⟨⟩, ⟨⟩, l, n, i, ⟨⟩⟩, ⟨q, t, o, ⟨⟩⟩⟩ h
  have h' := of_decide_eq_true h
  dsimp only at h'
  obtain ⟨rfl, rfl, hl, hG, ho⟩ := h'
  obtain ⟨u, rfl⟩ : ∃ u, o = [u] := by
    match o, ho with
    | [u], _ => exact ⟨u, rfl⟩
  have := (bP (T := lT) (fun k o => ((((), (), (), l, (l.length : Int), (k : Int), ()), (q, t, o, ())) : bL)) (K5 q.2.2.1 l)
    (fun o => (⟨(.exit 0, kT), (((), (), (), ()), (q, t, o, ()))⟩ : aP)) l.length [u] (fun k o => o.length = k + 1) rfl (fun k o hk hq => ⟨?_, ?_⟩) (fun o _ => ?_)).1
  · obtain ⟨m, hm⟩ := this
    exact ⟨m, _, hm, rfl⟩
  · have hq : o.length = k + 1 := hq
    refine (OT.ap (decide_eq_true (by dsimp only; omega))).trans ((al ?_).trans rfl)
    simp only [List.all_cons, List.all_nil, Bool.and_true, Bool.and_eq_true]
    exact ⟨bD (by omega), bD (by omega), decide_eq_true (by omega), bE (by omega)⟩
  · show (o ++ [_]).length = _
    rw [List.length_append, show o.length = k + 1 from hq]
    rfl
  · exact OT.aw (decide_eq_false (by dsimp only; omega))
def amA (p : aiz) (l : List aa) (b : aa) : Pt × Int := cond (!(dS p == 0)) (r9, dS p) (cond (decide ((p.2.2.1.length : Int) < (l.length : Int))) (r9, 50)
  (cond (ak p.1) (cond (decide ((abG p l b).length ≤ 100000)) (cond (cF p.1 (abG p l b)) (Gd p.1 (Bw p.1 (abG p l b)), 0) (r9, 41)) (r9, 50)) (r9, 40)))
def s5 (x : qS) : Bool := decide (x.1.1.2.2.1.length ≤ 140737488355328)
def NZ (x : qS) : OT dM.Y := .ok ⟨cU, (((amA x.1.1 x.1.2.1 x.1.2.2.1).1, ((amA x.1.1 x.1.2.1 x.1.2.2.1).2, ())), ())⟩
theorem aaj : ac Tryz.prog 39 (dM.aH s5 NZ) := NY s6 yo aak _ _ fun x oy hp ho => by
  rw [← ho]
  clear ho
  obtain ⟨⟨p, l, b, ⟨⟩⟩, ⟨⟩⟩ := x
  show (vd s6 yo p l b).run = some (⟨cU, (((amA p l b).1, ((amA p l b).2, ())), ())⟩ : dM.Y)
  have hp : qT ((p, ()), ()) = true := hp
  unfold amA
  refine (al (by rw [hp]; rfl)).trans ?_
  rcases (Bool.eq_false_or_eq_true (!(dS p == 0))).symm with h1 | h1
  · rw [h1]
    refine (OT.aw rfl).trans ?_
    by_cases h2 : (p.2.2.1.length : Int) < (l.length : Int)
    · rw [decide_eq_true h2]
      exact (OT.ap rfl).trans rfl
    · rw [decide_eq_false h2]
      have h0 : (dS p == 0) = true := by
        cases hq : dS p == 0
        · rw [hq] at h1; cases h1
        · rfl
      have hG := EM h0
      refine (OT.aw rfl).trans ((al ?_).trans ?_)
      · simp only [List.all_cons, List.all_nil, Bool.and_true]
        exact decide_eq_true ⟨rfl, rfl, by show l.length ≤ p.2.2.1.length; omega, hG, rfl⟩
      · show (OT.br (ak p.1) (.br (decide ((abG p l b).length ≤ 100000)) (.br (cF p.1 (abG p l b)) (.ok ⟨cU, ((Gd p.1 (Bw p.1 (abG p l b)), ((0 : Int), ())), ())⟩) (.ok ⟨cU, ((r9, ((41 : Int), ())), ())⟩)) (.ok ⟨cU, ((r9, ((50 : Int), ())), ())⟩)) (.ok ⟨cU, ((r9, ((40 : Int), ())), ())⟩) : OT dM.Y).run = _
        generalize abG p l b = t
        cases ak p.1 <;> cases decide (t.length ≤ 100000) <;> cases cF p.1 t <;> rfl
  · rw [h1]
    exact (OT.ap rfl).trans rfl
def oV : cG := (dM.aH s5 NZ)
theorem JZ : ac Tryz.prog 39 oV := aaj
theorem JY : aK oV := aB
def pW : Env := aA 39 oV rJ
theorem pV : aV Tryz.prog pW := ai JZ nA
theorem sn : ax pW := ae JY v8
theorem LL : aZ Tryz.prog te pW := aN follows au pV sn
def gv : av := ⟨[.val false .int, .val false .int, .val false (.list .u8)], [], false, 0, false⟩
abbrev yb : Type := ((Int) × (Int) × (List (UInt8)) × Unit) × (Unit)
def oP : az := ⟨[.val true (.prod .int (.prod .int (.prod (.list (.prod .elem (.prod .elem .bool))) (.prod (.prod .elem (.prod .elem .bool)) (.prod .elem (.prod .elem .bool)))))), .val false .int], [], false⟩
def Hn : SV → Option az := fun _ => some oP
def JP (a0 : Int) (a1 : Int) (a2 : List (UInt8)) : OT gv.Y :=
  let z0 : aa := { w0 := 0, w1 := 0, w2 := 0, w3 := 0 }
  let z1 : aa × aa × Bool := (z0, z0, false)
  let z2 : Int × Int × List (aa × aa × Bool) × (aa × aa × Bool) × aa × aa × Bool := ((0 : Int), (0 : Int), [], z1, z1)
  (.br (ak a0)
  (.br (decide (a1 < (0 : Int)))
    (.ok ⟨oP, ((z2, ((60 : Int), ())), ())⟩)
    (.br (decide ((5 : Int) < a1))
      (.ok ⟨oP, ((z2, ((60 : Int), ())), ())⟩)
      (gd [decide ((0 : Int) ≤ a1), inR (Oq (1 : Int) a1 + (2 : Int))] .fail)))
  (.ok ⟨oP, ((z2, ((40 : Int), ())), ())⟩))
theorem alt (x : yb) (Q : gv.Y → Prop) : wpf te pW (bg 0 (fun _ _ => False) ay) 1000 Tryz.f31 (gv.inp.inj x).tm (gv.inp.inj x).hp (fnK gv Hn Q) (fun _ _ => False) = (JP (x.1.1) (x.1.2.1) (x.1.2.2.1)).wpR Q := by kernel_rfl
theorem RT (pre : yb → Bool) (F : yb → OT gv.Y) (hF : ∀ (x : yb) oy, pre x = true → (F x).run = some oy → (JP (x.1.1) (x.1.2.1) (x.1.2.2.1)).run = some oy) : ac Tryz.prog 31 (gv.aH pre F) :=
  aC au pV LL (f := 31) (fn := Tryz.f31) (c := ao Tryz.f31) (by kernel_rfl) (by kernel_rfl) (by kernel_rfl) (S := gv) (k := 0) (by kernel_rfl) (fun R hR => (aF (c := (ao Tryz.f31)) (by kernel_rfl) (id := 0) (by kernel_rfl) (fun _ _ _ _ _ _ _ _ h _ => h.elim) af)) (n := 1000) (sel := Hn) (fun v o h => by cases h; rfl) (pre := pre) (F := F) (T := fun x => JP (x.1.1) (x.1.2.1) (x.1.2.2.1)) (fun x Q => alt x Q) hF
def atT : aiz := (0, 0, [], r9, r9)
def Ho (x : yb) : Bool := ak x.1.1 && decide (5 < x.1.2.1)
def Xn (_ : yb) : OT gv.Y := .ok ⟨oP, ((atT, ((60 : Int), ())), ())⟩
theorem afu : ac Tryz.prog 31 (gv.aH Ho Xn) := RT _ _ fun x oy hp ho => by
  rw [← ho]
  clear ho
  obtain ⟨⟨c, k, b, ⟨⟩⟩, ⟨⟩⟩ := x
  obtain ⟨hs, hk⟩ := (Bool.and_eq_true _ _).mp hp
  have hk : 5 < k := of_decide_eq_true hk
  exact (OT.ap hs).trans ((OT.aw (decide_eq_false (show ¬ k < 0 by omega))).trans ((OT.ap (decide_eq_true hk)).trans rfl))
def sU : cG := (gv.aH Ho Xn)
theorem NG : ac Tryz.prog 31 sU := afu
theorem NF : aK sU := aB
def wq : Env := aA 31 sU pW
theorem tR : aV Tryz.prog wq := ai NG pV
theorem wo : ax wq := ae NF sn
theorem Qb : aZ Tryz.prog te wq := aN follows au tR wo
def gC : av := ⟨[], [], true, 0, false⟩
abbrev yr : Type := (Unit) × (Unit)
def vf : az := ⟨[.val false .bool], [], false⟩
def HC : SV → Option az := fun _ => some vf
def BI : OT gC.Y :=
  (.ok ⟨vf, ((true, ()), ())⟩)
theorem alJ (x : yr) (Q : gC.Y → Prop) : wpf te wq ay 1000 Tryz.f28 (gC.inp.inj x).tm (gC.inp.inj x).hp (fnK gC HC Q) (fun _ _ => False) = (BI).wpR Q := by kernel_rfl
theorem R8 (pre : yr → Bool) (F : yr → OT gC.Y) (hF : ∀ (x : yr) oy, pre x = true → (F x).run = some oy → (BI).run = some oy) : ac Tryz.prog 28 (gC.aH pre F) :=
  aC au tR Qb (f := 28) (fn := Tryz.f28) (c := ao Tryz.f28) (by kernel_rfl) (by kernel_rfl) (by kernel_rfl) (S := gC) (k := 0) (by kernel_rfl) (fun R hR => af) (n := 1000) (sel := HC) (fun v o h => by cases h; rfl) (pre := pre) (F := F) (T := fun x => BI) (fun x Q => alJ x Q) hF
def HD (_ : yr) : Bool := true
def Xw (_ : yr) : OT gC.Y := .ok ⟨vf, ((true, ()), ())⟩
theorem afH : ac Tryz.prog 28 (gC.aH HD Xw) := R8 _ _ fun x oy hp ho => by
  rw [← ho]
  clear ho
  show BI.run = some ⟨vf, ((true, ()), ())⟩
  kernel_rfl
def s8 : cG := (gC.aH HD Xw)
theorem N6 : ac Tryz.prog 28 s8 := afH
theorem N5 : aK s8 := aB
def wB : Env := aA 28 s8 wq
theorem tU : aV Tryz.prog wB := ai N6 tR
theorem wA : ax wB := ae N5 wo
theorem Qe : aZ Tryz.prog te wB := aN follows au tU wA
def ga : av := ⟨[.val false (.list .elem)], [], true, 0, false⟩
abbrev xj : Type := ((List (aa)) × Unit) × (Unit)
def Ca : az := ⟨[.own 0], [(0, .row .elem)], false⟩
def GK : SV → Option az := fun _ => some Ca
def I8 (a0 : List (aa)) : OT ga.Y :=
  (gd [decide ((0 + List.length a0) * 32 ≤ 140737488355328)] (.ok ⟨Ca, (((), ()), ([] ++ a0, ()))⟩))
theorem aiG (x : xj) (Q : ga.Y → Prop) : wpf te wB ay 1000 Tryz.f38 (ga.inp.inj x).tm (ga.inp.inj x).hp (fnK ga GK Q) (fun _ _ => False) = (I8 (x.1.1)).wpR Q := by kernel_rfl
theorem QF (pre : xj → Bool) (F : xj → OT ga.Y) (hF : ∀ (x : xj) oy, pre x = true → (F x).run = some oy → (I8 (x.1.1)).run = some oy) : ac Tryz.prog 38 (ga.aH pre F) :=
  aC au tU Qe (f := 38) (fn := Tryz.f38) (c := ao Tryz.f38) (by kernel_rfl) (by kernel_rfl) (by kernel_rfl) (S := ga) (k := 0) (by kernel_rfl) (fun R hR => af) (n := 1000) (sel := GK) (fun v o h => by cases h; rfl) (pre := pre) (F := F) (T := fun x => I8 (x.1.1)) (fun x Q => aiG x Q) hF
def xi (x : xj) : Bool := decide (x.1.1.length * 32 ≤ 140737488355328)
def UF (x : xj) : OT ga.Y := .ok ⟨Ca, (((), ()), (x.1.1, ()))⟩
theorem acK : ac Tryz.prog 38 (ga.aH xi UF) := QF _ _ fun x oy hp ho => by
  rw [← ho]
  have hp' : x.1.1.length * 32 ≤ 140737488355328 := of_decide_eq_true hp
  refine (al ?_).trans rfl
  simp only [List.all_cons, List.all_nil, Bool.and_true]
  exact decide_eq_true (by omega)
def sA : cG := (ga.aH xi UF)
theorem Mb : ac Tryz.prog 38 sA := acK
theorem Ma : aK sA := aB
def rI : Env := aA 38 sA wB
theorem nz : aV Tryz.prog rI := ai Mb tU
theorem v5 : ax rI := ae Ma wA
theorem Av : aZ Tryz.prog te rI := aN follows au nz v5
def fY : av := ⟨[.val false (.list .elem), .val false (.list .elem)], [], true, 0, false⟩
abbrev xh : Type := ((List (aa)) × (List (aa)) × Unit) × (Unit)
def oc : Shape := ⟨26, [(0, .val false (.list .elem)), (1, .val false (.list .elem)), (5, .val false .int)], [], 0, true⟩
abbrev ba : Type := ((List (aa)) × (List (aa)) × (Int) × Unit) × (Unit)
def mK : Shape := ⟨26, [(4, .val false .bool)], [], 0, true⟩
abbrev ix : Type := ((Bool) × Unit) × (Unit)
def mL : Shape := ⟨26, [], [], 0, true⟩
abbrev iy : Type := (Unit) × (Unit)
def L6 : SE → Option Shape := jr [(0, mL)] (some mK)
def acI (a0 : List (aa)) (a1 : List (aa)) (a5 : Int) : OT (Sum ba aP) :=
  let z0 : Nat := List.length a0
  let z1 : Nat := Int.toNat a5
  let z2 : aa := { w0 := 0, w1 := 0, w2 := 0, w3 := 0 }
  let z3 : aa := List.getD a0 z1 z2
  let z4 : aa := List.getD a1 z1 z2
  (.br (decide (a5 < (↑z0 : Int)))
  (gd [inB a5 z0, inB a5 (List.length a1)] (.br (!(z3.w0 == z4.w0 && (z3.w1 == z4.w1 && (z3.w2 == z4.w2 && (z3.w3 == z4.w3 && true)))))
    (.ok (.inr ⟨(.ret, mK), ((false, ()), ())⟩))
    (gd [inR (a5 + (1 : Int))] (.ok (.inl ((a0, (a1, (a5 + (1 : Int), ()))), ()))))))
  (.ok (.inr ⟨(.exit 0, mL), ((), ())⟩)))
def oe (s : ba) : OT (Sum ba aP) := acI (s.1.1) (s.1.2.1) (s.1.2.2.1)
theorem acF (s : ba) (Q : Sum ba aP → Prop) : wps te rI ay 1000 (bF (ao Tryz.f41) 0) (oc.inj s) (cQ oc L6 (Q : Sum oc.T aP → Prop)) = (oe s).wpR Q := by kernel_rfl
def lA (g0_r : ba → ix) (c0_r : ba → Bool) (g0_0 : ba → iy) (s : ba) : OT aP := (.br (c0_r s) (.ok ⟨(.ret, mK), g0_r s⟩) (.ok ⟨(.exit 0, mL), g0_0 s⟩))
def od : az := ⟨[.val false .bool], [], false⟩
def GH : SV → Option az := fun _ => some od
def I7 (ok0 : ba → Bool) (g0_r : ba → ix) (c0_r : ba → Bool) (g0_0 : ba → iy) (a0 : List (aa)) (a1 : List (aa)) : OT fY.Y :=
  let z0 : (List aa × List aa × Int × PUnit) × PUnit := ((a0, a1, (0 : Int), ()), ())
  (.br (!(↑(List.length a0) : Int) == (↑(List.length a1) : Int))
  (.ok ⟨od, ((false, ()), ())⟩)
  (gd [ok0 z0] (.br (c0_r z0)
    (.ok ⟨od, (((g0_r z0).fst.fst, ()), ())⟩)
    (.ok ⟨od, ((true, ()), ())⟩))))
theorem aiF (ok0 : ba → Bool) (g0_r : ba → ix) (c0_r : ba → Bool) (g0_0 : ba → iy) (x : xh) (Q : fY.Y → Prop) : wpf te rI (bg 0 (di oc 0 ok0 (lA g0_r c0_r g0_0)) ay) 1000 Tryz.f41 (fY.inp.inj x).tm (fY.inp.inj x).hp (fnK fY GH Q) (fun _ _ => False) = (I7 ok0 g0_r c0_r g0_0 (x.1.1) (x.1.2.1)).wpR Q := by kernel_rfl
theorem QD (ok0 : ba → Bool) (g0_r : ba → ix) (c0_r : ba → Bool) (g0_0 : ba → iy) (h0 : ∀ s : ba, ok0 s = true → ∃ m e, aq (oe) m s = some e ∧ (lA g0_r c0_r g0_0 s).run = some e) (pre : xh → Bool) (F : xh → OT fY.Y) (hF : ∀ (x : xh) oy, pre x = true → (F x).run = some oy → (I7 ok0 g0_r c0_r g0_0 (x.1.1) (x.1.2.1)).run = some oy) : ac Tryz.prog 41 (fY.aH pre F) :=
  aC au nz Av (f := 41) (fn := Tryz.f41) (c := ao Tryz.f41) (by kernel_rfl) (by kernel_rfl) (by kernel_rfl) (S := fY) (k := 0) (by kernel_rfl) (fun R hR => (aF (c := (ao Tryz.f41)) (by kernel_rfl) (id := 0) (by kernel_rfl) (bt au nz Av (sh := oc) hR (xs := L6) (aG (by kernel_rfl) (by kernel_rfl) hR) aW af (n := 1000) (T := oe) (fun s Q => acF s Q) (ok := ok0) (f := lA g0_r c0_r g0_0) h0) af)) (n := 1000) (sel := GH) (fun v o h => by cases h; rfl) (pre := pre) (F := F) (T := fun x => I7 ok0 g0_r c0_r g0_0 (x.1.1) (x.1.2.1)) (fun x Q => aiF ok0 g0_r c0_r g0_0 x Q) hF
def GI (s : ba) : Bool := decide (s.1.2.2.1 = 0 ∧ s.1.1.length = s.1.2.1.length ∧ s.1.1.length ≤ 140737488355328)
def GJ (_ : ba) : ix := ((false, ()), ())
def lB (s : ba) : Bool := !decide (s.1.1 = s.1.2.1)
def L9 (_ : ba) : iy := ((), ())
theorem B8 {a b : List aa} (hab : a.length = b.length) (hl : a.length ≤ 140737488355328) : ∀ d i, i + d = a.length →
    ∃ m, aq oe m ((a, b, (i : Int), ()), ()) = some (cond (decide (a.drop i = b.drop i)) ⟨(.exit 0, mL), ((), ())⟩ ⟨(.ret, mK), ((false, ()), ())⟩)
  | 0, i, h => by
    refine ⟨1, ?_⟩
    have h1 : a.drop i = [] := List.drop_eq_nil_of_le (by omega)
    have h2 : b.drop i = [] := List.drop_eq_nil_of_le (by omega)
    rw [h1, h2, decide_eq_true rfl]
    exact aL (OT.aw (decide_eq_false (by dsimp only; omega)))
  | d + 1, i, h => by
    have hi : i < a.length := by omega
    have hi' : i < b.length := by omega
    have e1 : a.drop i = a[i] :: a.drop (i + 1) := List.drop_eq_getElem_cons hi
    have e2 : b.drop i = b[i] :: b.drop (i + 1) := List.drop_eq_getElem_cons hi'
    have g1 : a.getD i ⟨0, 0, 0, 0⟩ = a[i] := by rw [List.getD_eq_getElem?_getD, List.getElem?_eq_getElem hi]; rfl
    have g2 : b.getD i ⟨0, 0, 0, 0⟩ = b[i] := by rw [List.getD_eq_getElem?_getD, List.getElem?_eq_getElem hi']; rfl
    have hg : ∀ x : OT (Sum ba aP), (gd [inB (i : Int) a.length, inB (i : Int) b.length] x).run = x.run := fun x => al (by simp only [List.all_cons, List.all_nil, Bool.and_true, Bool.and_eq_true]; exact ⟨bD (by omega), bD (by omega)⟩)
    by_cases hx : a[i] = b[i]
    · obtain ⟨m, hm⟩ := B8 hab hl d (i + 1) (by omega)
      refine ⟨m + 1, aM (s' := ((a, b, ((i + 1 : Nat) : Int), ()), ())) ?_ ?_⟩
      · refine (OT.ap (decide_eq_true (by dsimp only; omega))).trans ((hg _).trans ((OT.aw ?_).trans ((al ?_).trans rfl)))
        · show (!eqE (a.getD i ⟨0, 0, 0, 0⟩) (b.getD i ⟨0, 0, 0, 0⟩)) = false
          rw [g1, g2, hx, ja.2 rfl]
          rfl
        · simp only [List.all_cons, List.all_nil, Bool.and_true]
          exact bE (by omega)
      · rw [hm, e1, e2, hx]
        simp only [List.cons.injEq, true_and]
    · refine ⟨1, ?_⟩
      have : decide (a.drop i = b.drop i) = false := decide_eq_false (by rw [e1, e2]; intro h; exact hx (List.cons.inj h).1)
      rw [this]
      refine aL ((OT.ap (decide_eq_true (by dsimp only; omega))).trans ((hg _).trans ((OT.ap ?_).trans rfl)))
      show (!eqE (a.getD i ⟨0, 0, 0, 0⟩) (b.getD i ⟨0, 0, 0, 0⟩)) = true
      rw [g1, g2]
      cases hq : eqE a[i] b[i]
      · rfl
      · exact absurd (ja.1 hq) hx
theorem acH : ∀ s : ba, GI s = true → ∃ m e, aq oe m s = some e ∧ (lA GJ lB L9 s).run = some e := by
  rintro ⟨⟨a, b, i, ⟨⟩⟩, ⟨⟩⟩ h
  have h' := of_decide_eq_true h
  dsimp only at h'
  obtain ⟨rfl, hab, hl⟩ := h'
  obtain ⟨m, hm⟩ := B8 hab hl a.length 0 (by omega)
  refine ⟨m, _, hm, ?_⟩
  simp only [List.drop_zero]
  by_cases hx : a = b
  · simp only [lA, lB, hx, decide_true, Bool.not_true]
    rfl
  · have : decide (a = b) = false := decide_eq_false hx
    simp only [lA, lB, this, Bool.not_false]
    rfl
def xg (x : xh) : Bool := decide (x.1.1.length ≤ 140737488355328)
def ul (x : xh) : OT fY.Y := .ok ⟨od, ((decide (x.1.1 = x.1.2.1), ()), ())⟩
theorem acG : ac Tryz.prog 41 (fY.aH xg ul) := QD GI GJ lB L9 acH _ _ fun x oy hp ho => by
  rw [← ho]
  clear ho
  obtain ⟨⟨a, b, ⟨⟩⟩, ⟨⟩⟩ := x
  have hp' : a.length ≤ 140737488355328 := of_decide_eq_true hp
  by_cases hab : a.length = b.length
  · refine (OT.aw (by simp [hab])).trans ((al ?_).trans ?_)
    · simp only [List.all_cons, List.all_nil, Bool.and_true]
      exact decide_eq_true ⟨rfl, hab, hp'⟩
    · by_cases hx : a = b
      · refine (OT.aw (by simp [lB, hx])).trans ?_
        simp only [ul, hx, decide_true]
      · refine (OT.ap (by simp [lB, hx])).trans ?_
        have : decide (a = b) = false := decide_eq_false hx
        simp only [ul, this]
        rfl
  · refine (OT.ap (by simp; omega)).trans ?_
    have : decide (a = b) = false := decide_eq_false fun e => hab (by rw [e])
    simp only [ul, this]
def sy : cG := (fY.aH xg ul)
theorem L8 : ac Tryz.prog 41 sy := acG
theorem L7 : aK sy := aB
def rH : Env := aA 41 sy rI
theorem ny : aV Tryz.prog rH := ai L8 nz
theorem vZ : ax rH := ae L7 v5
theorem Au : aZ Tryz.prog te rH := aN follows au ny vZ
def Cj : av := ⟨[.val true alI, .val false (.list .elem), .val true .elem], [], true, 0, false⟩
abbrev art : Type := (((Int × (Int × (List ((aa × (aa × Bool))) × ((aa × (aa × Bool)) × (aa × (aa × Bool))))))) × (List (aa)) × (aa) × Unit) × (Unit)
def My : Shape := ⟨37, [(1, .val false (.list .elem)), (3, .ptr 0 0 0), (6, .ptr 1 0 0), (7, .own 2), (8, .val false .int)], [(0, .cells [.val false .int, .val false .int, .val false (.list (.prod .elem (.prod .elem .bool))), .val false .u64, .val false .u64, .val false .u64, .val false .u64, .val false .u64, .val false .u64, .val false .u64, .val false .u64, .val false .bool, .val false .u64, .val false .u64, .val false .u64, .val false .u64, .val false .u64, .val false .u64, .val false .u64, .val false .u64, .val false .bool]), (1, .cells [.val false .u64, .val false .u64, .val false .u64, .val false .u64, .val false .u64, .val false .u64, .val false .u64, .val false .u64, .val false .bool]), (2, .row (.prod .elem (.prod .elem (.prod .elem .bool))))], 0, true⟩
abbrev eE : Type := ((List (aa)) × (Unit) × (Unit) × (Unit) × (Int) × Unit) × (((Int) × (Int) × (List ((aa × (aa × Bool)))) × (UInt64) × (UInt64) × (UInt64) × (UInt64) × (UInt64) × (UInt64) × (UInt64) × (UInt64) × (Bool) × (UInt64) × (UInt64) × (UInt64) × (UInt64) × (UInt64) × (UInt64) × (UInt64) × (UInt64) × (Bool) × Unit) × ((UInt64) × (UInt64) × (UInt64) × (UInt64) × (UInt64) × (UInt64) × (UInt64) × (UInt64) × (Bool) × Unit) × (List ((aa × (aa × (aa × Bool))))) × Unit)
def Bu : Shape := ⟨37, [(3, .ptr 0 0 0), (6, .ptr 1 0 0), (7, .own 2)], [(0, .cells [.val false .int, .val false .int, .val false (.list (.prod .elem (.prod .elem .bool))), .val false .u64, .val false .u64, .val false .u64, .val false .u64, .val false .u64, .val false .u64, .val false .u64, .val false .u64, .val false .bool, .val false .u64, .val false .u64, .val false .u64, .val false .u64, .val false .u64, .val false .u64, .val false .u64, .val false .u64, .val false .bool]), (1, .cells [.val false .u64, .val false .u64, .val false .u64, .val false .u64, .val false .u64, .val false .u64, .val false .u64, .val false .u64, .val false .bool]), (2, .row (.prod .elem (.prod .elem (.prod .elem .bool))))], 0, true⟩
abbrev ol : Type := ((Unit) × (Unit) × (Unit) × Unit) × (((Int) × (Int) × (List ((aa × (aa × Bool)))) × (UInt64) × (UInt64) × (UInt64) × (UInt64) × (UInt64) × (UInt64) × (UInt64) × (UInt64) × (Bool) × (UInt64) × (UInt64) × (UInt64) × (UInt64) × (UInt64) × (UInt64) × (UInt64) × (UInt64) × (Bool) × Unit) × ((UInt64) × (UInt64) × (UInt64) × (UInt64) × (UInt64) × (UInt64) × (UInt64) × (UInt64) × (Bool) × Unit) × (List ((aa × (aa × (aa × Bool))))) × Unit)
def anb : SE → Option Shape := jr [(0, Bu)] none
def asc (a1 : List (aa)) (a8 : Int) (c0_0 : Int) (c0_1 : Int) (c0_2 : List ((aa × (aa × Bool)))) (c0_3 : UInt64) (c0_4 : UInt64) (c0_5 : UInt64) (c0_6 : UInt64) (c0_7 : UInt64) (c0_8 : UInt64) (c0_9 : UInt64) (c0_10 : UInt64) (c0_11 : Bool) (c0_12 : UInt64) (c0_13 : UInt64) (c0_14 : UInt64) (c0_15 : UInt64) (c0_16 : UInt64) (c0_17 : UInt64) (c0_18 : UInt64) (c0_19 : UInt64) (c0_20 : Bool) (c1_0 : UInt64) (c1_1 : UInt64) (c1_2 : UInt64) (c1_3 : UInt64) (c1_4 : UInt64) (c1_5 : UInt64) (c1_6 : UInt64) (c1_7 : UInt64) (c1_8 : Bool) (c2 : List ((aa × (aa × (aa × Bool))))) : OT (Sum eE aP) :=
  let z0 : Nat := List.length a1
  let z1 : Nat := Int.toNat a8
  let z2 : aa := { w0 := 0, w1 := 0, w2 := 0, w3 := 0 }
  (.br (decide (a8 < (↑z0 : Int)))
  (gd [inB a8 z0, inB a8 (List.length c0_2), decide ((List.length c2 + 1) * 104 ≤ 140737488355328), inR (a8 + (1 : Int))] (.ok (.inl ((a1, ((), ((), ((), (a8 + (1 : Int), ()))))), ((c0_0, (c0_1, (c0_2, (c0_3, (c0_4, (c0_5, (c0_6, (c0_7, (c0_8, (c0_9, (c0_10, (c0_11, (c0_12, (c0_13, (c0_14, (c0_15, (c0_16, (c0_17, (c0_18, (c0_19, (c0_20, ()))))))))))))))))))))), ((c1_0, (c1_1, (c1_2, (c1_3, (c1_4, (c1_5, (c1_6, (c1_7, (c1_8, ()))))))))), (c2 ++ [(List.getD a1 z1 z2, List.getD c0_2 z1 (z2, z2, false))], ())))))))
  (.ok (.inr ⟨(.exit 0, Bu), (((), ((), ((), ()))), ((c0_0, (c0_1, (c0_2, (c0_3, (c0_4, (c0_5, (c0_6, (c0_7, (c0_8, (c0_9, (c0_10, (c0_11, (c0_12, (c0_13, (c0_14, (c0_15, (c0_16, (c0_17, (c0_18, (c0_19, (c0_20, ()))))))))))))))))))))), ((c1_0, (c1_1, (c1_2, (c1_3, (c1_4, (c1_5, (c1_6, (c1_7, (c1_8, ()))))))))), (c2, ()))))⟩)))
def Mz (s : eE) : OT (Sum eE aP) := asc (s.1.1) (s.1.2.2.2.2.1) (s.2.1.1) (s.2.1.2.1) (s.2.1.2.2.1) (s.2.1.2.2.2.1) (s.2.1.2.2.2.2.1) (s.2.1.2.2.2.2.2.1) (s.2.1.2.2.2.2.2.2.1) (s.2.1.2.2.2.2.2.2.2.1) (s.2.1.2.2.2.2.2.2.2.2.1) (s.2.1.2.2.2.2.2.2.2.2.2.1) (s.2.1.2.2.2.2.2.2.2.2.2.2.1) (s.2.1.2.2.2.2.2.2.2.2.2.2.2.1) (s.2.1.2.2.2.2.2.2.2.2.2.2.2.2.1) (s.2.1.2.2.2.2.2.2.2.2.2.2.2.2.2.1) (s.2.1.2.2.2.2.2.2.2.2.2.2.2.2.2.2.1) (s.2.1.2.2.2.2.2.2.2.2.2.2.2.2.2.2.2.1) (s.2.1.2.2.2.2.2.2.2.2.2.2.2.2.2.2.2.2.1) (s.2.1.2.2.2.2.2.2.2.2.2.2.2.2.2.2.2.2.2.1) (s.2.1.2.2.2.2.2.2.2.2.2.2.2.2.2.2.2.2.2.2.1) (s.2.1.2.2.2.2.2.2.2.2.2.2.2.2.2.2.2.2.2.2.2.1) (s.2.1.2.2.2.2.2.2.2.2.2.2.2.2.2.2.2.2.2.2.2.2.1) (s.2.2.1.1) (s.2.2.1.2.1) (s.2.2.1.2.2.1) (s.2.2.1.2.2.2.1) (s.2.2.1.2.2.2.2.1) (s.2.2.1.2.2.2.2.2.1) (s.2.2.1.2.2.2.2.2.2.1) (s.2.2.1.2.2.2.2.2.2.2.1) (s.2.2.1.2.2.2.2.2.2.2.2.1) (s.2.2.2.1)
theorem ar9 (s : eE) (Q : Sum eE aP → Prop) : wps te rH ay 1000 (bF (ao Tryz.f75) 0) (My.inj s) (cQ My anb (Q : Sum My.T aP → Prop)) = (Mz s).wpR Q := by kernel_rfl
def WH (g0_0 : eE → ol) (s : eE) : OT aP := (.ok ⟨(.exit 0, Bu), g0_0 s⟩)
def aeh : az := ⟨[.val true (.prod .elem (.prod .elem .bool))], [], false⟩
def aef : SV → Option az := fun _ => some aeh
def aps (ok0 : eE → Bool) (g0_0 : eE → ol) (a0 : (Int × (Int × (List ((aa × (aa × Bool))) × ((aa × (aa × Bool)) × (aa × (aa × Bool))))))) (a1 : List (aa)) (a2 : aa) : OT Cj.Y :=
  let z0 : (List aa × PUnit × PUnit × PUnit × Int × PUnit) × (Int × Int × List (aa × aa × Bool) × UInt64 × UInt64 × UInt64 × UInt64 × UInt64 × UInt64 × UInt64 × UInt64 × Bool × UInt64 × UInt64 × UInt64 × UInt64 × UInt64 × UInt64 × UInt64 × UInt64 × Bool × PUnit) × (UInt64 × UInt64 × UInt64 × UInt64 × UInt64 × UInt64 × UInt64 × UInt64 × Bool × PUnit) × List (aa × aa × aa × Bool) × PUnit := ((a1, (), (), (), (0 : Int), ()), (a0.fst, a0.snd.fst, a0.snd.snd.fst, a0.snd.snd.snd.fst.fst.w0, a0.snd.snd.snd.fst.fst.w1, a0.snd.snd.snd.fst.fst.w2, a0.snd.snd.snd.fst.fst.w3, a0.snd.snd.snd.fst.snd.fst.w0, a0.snd.snd.snd.fst.snd.fst.w1, a0.snd.snd.snd.fst.snd.fst.w2, a0.snd.snd.snd.fst.snd.fst.w3, a0.snd.snd.snd.fst.snd.snd, a0.snd.snd.snd.snd.fst.w0, a0.snd.snd.snd.snd.fst.w1, a0.snd.snd.snd.snd.fst.w2, a0.snd.snd.snd.snd.fst.w3, a0.snd.snd.snd.snd.snd.fst.w0, a0.snd.snd.snd.snd.snd.fst.w1, a0.snd.snd.snd.snd.snd.fst.w2, a0.snd.snd.snd.snd.snd.fst.w3, a0.snd.snd.snd.snd.snd.snd, ()), ((0 : UInt64), (0 : UInt64), (0 : UInt64), (0 : UInt64), (0 : UInt64), (0 : UInt64), (0 : UInt64), (0 : UInt64), false, ()), [(a2, a0.snd.snd.snd.fst)], ())
  let z1 := (g0_0 z0).snd
  (gd [ok0 z0] (.ok ⟨aeh, ((oq z1.fst.fst z1.snd.snd.fst, ()), ())⟩))
theorem atL (ok0 : eE → Bool) (g0_0 : eE → ol) (x : art) (Q : Cj.Y → Prop) : wpf te rH (bg 0 (di My 0 ok0 (WH g0_0)) ay) 1000 Tryz.f75 (Cj.inp.inj x).tm (Cj.inp.inj x).hp (fnK Cj aef Q) (fun _ _ => False) = (aps ok0 g0_0 (x.1.1) (x.1.2.1) (x.1.2.2.1)).wpR Q := by kernel_rfl
theorem akJ (ok0 : eE → Bool) (g0_0 : eE → ol) (h0 : ∀ s : eE, ok0 s = true → ∃ m e, aq (Mz) m s = some e ∧ (WH g0_0 s).run = some e) (pre : art → Bool) (F : art → OT Cj.Y) (hF : ∀ (x : art) oy, pre x = true → (F x).run = some oy → (aps ok0 g0_0 (x.1.1) (x.1.2.1) (x.1.2.2.1)).run = some oy) : ac Tryz.prog 75 (Cj.aH pre F) :=
  aC au ny Au (f := 75) (fn := Tryz.f75) (c := ao Tryz.f75) (by kernel_rfl) (by kernel_rfl) (by kernel_rfl) (S := Cj) (k := 0) (by kernel_rfl) (fun R hR => (aF (c := (ao Tryz.f75)) (by kernel_rfl) (id := 0) (by kernel_rfl) (bt au ny Au (sh := My) hR (xs := anb) (aG (by kernel_rfl) (by kernel_rfl) hR) aW af (n := 1000) (T := Mz) (fun s Q => ar9 s Q) (ok := ok0) (f := WH g0_0) h0) af)) (n := 1000) (sel := aef) (fun v o h => by cases h; rfl) (pre := pre) (F := F) (T := fun x => aps ok0 g0_0 (x.1.1) (x.1.2.1) (x.1.2.2.1)) (fun x Q => atL ok0 g0_0 x Q) hF
def aeg (s : eE) : Bool := decide (s.1.2.2.2.2.1 = 0 ∧ s.1.1.length ≤ s.2.1.2.2.1.length ∧ s.2.1.2.2.1.length ≤ 1000 ∧ s.2.2.2.1.length = 1)
def anc (s : eE) : ol := (((), (), (), ()), (s.2.1, s.2.2.1, upto (K5 s.2.1.2.2.1 s.1.1) s.2.2.2.1 s.1.1.length, ()))
theorem asb : ∀ s : eE, aeg s = true → ∃ m e, aq Mz m s = some e ∧ (WH anc s).run = some e := by
  rintro ⟨⟨l, ⟨⟩, ⟨⟩, ⟨⟩, i, ⟨⟩⟩, ⟨q, t, o, ⟨⟩⟩⟩ h
  have h' := of_decide_eq_true h
  dsimp only at h'
  obtain ⟨rfl, hl, hG, ho⟩ := h'
  obtain ⟨u, rfl⟩ : ∃ u, o = [u] := by
    match o, ho with
    | [u], _ => exact ⟨u, rfl⟩
  have := (bP (T := Mz) (fun k o => (((l, (), (), (), (k : Int), ()), (q, t, o, ())) : eE)) (K5 q.2.2.1 l)
    (fun o => (⟨(.exit 0, Bu), (((), (), (), ()), (q, t, o, ()))⟩ : aP)) l.length [u] (fun k o => o.length = k + 1) rfl (fun k o hk hq => ⟨?_, ?_⟩) (fun o _ => ?_)).1
  · obtain ⟨m, hm⟩ := this
    exact ⟨m, _, hm, rfl⟩
  · have hq : o.length = k + 1 := hq
    refine (OT.ap (decide_eq_true (by dsimp only; omega))).trans ((al ?_).trans rfl)
    simp only [List.all_cons, List.all_nil, Bool.and_true, Bool.and_eq_true]
    exact ⟨bD (by omega), bD (by omega), decide_eq_true (by omega), bE (by omega)⟩
  · show (o ++ [_]).length = _
    rw [List.length_append, show o.length = k + 1 from hq]
    rfl
  · exact OT.aw (decide_eq_false (by dsimp only; omega))
def QS (x : art) : Bool := decide (x.1.2.1.length ≤ x.1.1.2.2.1.length ∧ x.1.1.2.2.1.length ≤ 1000)
def asd (x : art) : OT Cj.Y := .ok ⟨aeh, ((oq x.1.1.1 (abG x.1.1 x.1.2.1 x.1.2.2.1), ()), ())⟩
theorem asa : ac Tryz.prog 75 (Cj.aH QS asd) := akJ aeg anc asb _ _ fun x oy hp ho => by
  rw [← ho]
  clear ho
  obtain ⟨⟨p, l, b, ⟨⟩⟩, ⟨⟩⟩ := x
  obtain ⟨h1, h2⟩ := of_decide_eq_true hp
  refine (al ?_).trans rfl
  simp only [List.all_cons, List.all_nil, Bool.and_true]
  exact decide_eq_true ⟨rfl, h1, h2, rfl⟩
def Jj : cG := (Cj.aH QS asd)
theorem aei : ac Tryz.prog 75 Jj := asa
theorem aee : aK Jj := aB
def aiq : Env := aA 75 Jj rH
theorem LA : aV Tryz.prog aiq := ai aei ny
theorem IJ : ax aiq := ae aee vZ
theorem aip : aZ Tryz.prog te aiq := aN follows au LA IJ
def ef : av := ⟨[.val true alI, .val false (.list .elem), .val true .elem], [], true, 0, false⟩
abbrev qq : Type := (((Int × (Int × (List ((aa × (aa × Bool))) × ((aa × (aa × Bool)) × (aa × (aa × Bool))))))) × (List (aa)) × (aa) × Unit) × (Unit)
def jt : az := ⟨[.val true (.prod .elem (.prod .elem .bool)), .val false .int], [], false⟩
def Cp : SV → Option az := fun _ => some jt
def uG (a0 : (Int × (Int × (List ((aa × (aa × Bool))) × ((aa × (aa × Bool)) × (aa × (aa × Bool))))))) (a1 : List (aa)) (a2 : aa) : OT ef.Y :=
  let z0 : Int := dS a0
  let z1 : aa := { w0 := 0, w1 := 0, w2 := 0, w3 := 0 }
  let z2 : aa × aa × Bool := (z1, z1, false)
  (gd [qs ((a0, ()), ())] (.br (!z0 == (0 : Int))
  (.ok ⟨jt, ((z2, (z0, ())), ())⟩)
  (.br (decide ((↑(List.length a0.snd.snd.fst) : Int) < (↑(List.length a1) : Int)))
    (.ok ⟨jt, ((z2, ((50 : Int), ())), ())⟩)
    (gd [QS ((a0, a1, a2, ()), ())] (.ok ⟨jt, ((oq a0.fst (abG a0 a1 a2), ((0 : Int), ())), ())⟩)))))
theorem aeu (x : qq) (Q : ef.Y → Prop) : wpf te aiq ay 1000 Tryz.f40 (ef.inp.inj x).tm (ef.inp.inj x).hp (fnK ef Cp Q) (fun _ _ => False) = (uG (x.1.1) (x.1.2.1) (x.1.2.2.1)).wpR Q := by kernel_rfl
theorem MB (pre : qq → Bool) (F : qq → OT ef.Y) (hF : ∀ (x : qq) oy, pre x = true → (F x).run = some oy → (uG (x.1.1) (x.1.2.1) (x.1.2.2.1)).run = some oy) : ac Tryz.prog 40 (ef.aH pre F) :=
  aC au LA aip (f := 40) (fn := Tryz.f40) (c := ao Tryz.f40) (by kernel_rfl) (by kernel_rfl) (by kernel_rfl) (S := ef) (k := 0) (by kernel_rfl) (fun R hR => af) (n := 1000) (sel := Cp) (fun v o h => by cases h; rfl) (pre := pre) (F := F) (T := fun x => uG (x.1.1) (x.1.2.1) (x.1.2.2.1)) (fun x Q => aeu x Q) hF
def amz (p : aiz) (l : List aa) (b : aa) : Pt × Int := cond (!(dS p == 0)) (r9, dS p) (cond (decide ((p.2.2.1.length : Int) < (l.length : Int))) (r9, 50) (oq p.1 (abG p l b), 0))
def sI (x : qq) : Bool := decide (x.1.1.2.2.1.length ≤ 1000000000000)
def MC (x : qq) : OT ef.Y := .ok ⟨jt, (((amz x.1.1 x.1.2.1 x.1.2.2.1).1, ((amz x.1.1 x.1.2.1 x.1.2.2.1).2, ())), ())⟩
theorem Zx : ac Tryz.prog 40 (ef.aH sI MC) := MB _ _ fun x oy hp ho => by
  rw [← ho]
  clear ho
  obtain ⟨⟨p, l, b, ⟨⟩⟩, ⟨⟩⟩ := x
  show (uG p l b).run = some (⟨jt, (((amz p l b).1, ((amz p l b).2, ())), ())⟩ : ef.Y)
  have hp : qs ((p, ()), ()) = true := hp
  unfold amz
  refine (al (by rw [hp]; rfl)).trans ?_
  rcases (Bool.eq_false_or_eq_true (!(dS p == 0))).symm with h1 | h1
  · rw [h1]
    refine (OT.aw rfl).trans ?_
    by_cases h2 : (p.2.2.1.length : Int) < (l.length : Int)
    · rw [decide_eq_true h2]
      exact (OT.ap rfl).trans rfl
    · rw [decide_eq_false h2]
      have h0 : (dS p == 0) = true := by
        cases hq : dS p == 0
        · rw [hq] at h1; cases h1
        · rfl
      have hG := EM h0
      refine (OT.aw rfl).trans ((al ?_).trans rfl)
      simp only [List.all_cons, List.all_nil, Bool.and_true]
      exact decide_eq_true ⟨by show l.length ≤ p.2.2.1.length; omega, by show p.2.2.1.length ≤ _; omega⟩
  · rw [h1]
    exact (OT.ap rfl).trans rfl
def ot : cG := (ef.aH sI MC)
theorem Jo : ac Tryz.prog 40 ot := Zx
theorem Jn : aK ot := aB
def v7 : Env := aA 40 ot aiq
theorem Aw : aV Tryz.prog v7 := ai Jo LA
theorem GC : ax v7 := ae Jn IJ
theorem LB : aZ Tryz.prog te v7 := aN follows au Aw GC
end Go.Proofs.YtohjofabochgfaaGreat

namespace Go.Proofs.YtohjofabochgfaaGreat
def c9 (p : Nat) : Nat → PtQ → PtQ
  | 0, _ => none
  | n + 1, P => cP p P (c9 p n P)
variable {p b : Nat}
theorem nN (c : Cur p b) {P : PtQ} (hP : OnQ p b P) : ∀ n, OnQ p b (c9 p n P)
  | 0 => trivial
  | n + 1 => fS c hP (nN c hP n)
theorem mul_one (P : PtQ) : c9 p 1 P = P := bX P
theorem qY : ∀ n, c9 p n none = none
  | 0 => rfl
  | n + 1 => qY n
theorem fG (c : Cur p b) {P : PtQ} (hP : OnQ p b P) (m : Nat) : ∀ n, c9 p (n + m) P = cP p (c9 p n P) (c9 p m P)
  | 0 => by rw [Nat.zero_add]; rfl
  | n + 1 => by
    rw [show n + 1 + m = (n + m) + 1 by omega]
    show cP p P (c9 p (n + m) P) = cP p (cP p P (c9 p n P)) (c9 p m P)
    rw [fG c hP m n, add_assoc c hP (nN c hP n) (nN c hP m)]
theorem j8 (c : Cur p b) {P : PtQ} (hP : OnQ p b P) (m : Nat) : ∀ n, c9 p (n * m) P = c9 p n (c9 p m P)
  | 0 => by rw [Nat.zero_mul]; rfl
  | n + 1 => by
    rw [show (n + 1) * m = m + n * m by rw [Nat.succ_mul, Nat.add_comm], fG c hP, j8 c hP m n]
    rfl
theorem mul_comm (c : Cur p b) {P : PtQ} (hP : OnQ p b P) (m n : Nat) : c9 p n (c9 p m P) = c9 p m (c9 p n P) := by
  rw [← j8 c hP, ← j8 c hP, Nat.mul_comm]
theorem Lu (c : Cur p b) {A B C D : PtQ} (hA : OnQ p b A) (hB : OnQ p b B) (hC : OnQ p b C) (hD : OnQ p b D) :
    cP p (cP p A B) (cP p C D) = cP p (cP p A C) (cP p B D) := by
  rw [add_assoc c hA hB (fS c hC hD), ← add_assoc c hB hC hD, add_comm c hB hC, add_assoc c hC hB hD, ← add_assoc c hA hC (fS c hB hD)]
theorem mul_add (c : Cur p b) {P R : PtQ} (hP : OnQ p b P) (hR : OnQ p b R) : ∀ n, c9 p n (cP p P R) = cP p (c9 p n P) (c9 p n R)
  | 0 => rfl
  | n + 1 => by
    show cP p (cP p P R) (c9 p n (cP p P R)) = cP p (cP p P (c9 p n P)) (cP p R (c9 p n R))
    rw [mul_add c hP hR n, Lu c hP hR (nN c hP n) (nN c hR n)]
theorem mul_neg (c : Cur p b) {P : PtQ} (hP : OnQ p b P) : ∀ n, c9 p n (J8 p P) = J8 p (c9 p n P)
  | 0 => rfl
  | n + 1 => by
    show cP p (J8 p P) (c9 p n (J8 p P)) = J8 p (cP p P (c9 p n P))
    rw [mul_neg c hP n, neg_add c hP (nN c hP n)]
theorem zj (c : Cur p b) {P R T : PtQ} (hP : OnQ p b P) (hR : OnQ p b R) (hT : OnQ p b T) (h : cP p P R = cP p P T) : R = T := by
  rw [← cancel c hP hR, h, cancel c hP hT]
theorem aiH (c : Cur p b) {P : PtQ} (h : cP p P P = none) : P = none := by
  cases P with
  | none => rfl
  | some P =>
    have : cP p (some P) (some P) = some (rY p P P (nL p P P)) := if_neg fun h => h.2 rfl
    rw [this] at h
    cases h
theorem mul_gcd (c : Cur p b) {P : PtQ} (hP : OnQ p b P) (m k : Nat) : c9 p m P = none → c9 p k P = none → c9 p (Nat.gcd m k) P = none := by
  induction m, k using Nat.gcd.induction with
  | H0 n => intro _ h; rw [Nat.gcd_zero_left]; exact h
  | H1 m n hm ih =>
    intro h1 h2
    rw [Nat.gcd_rec]
    refine ih ?_ h1
    have e := Nat.div_add_mod n m
    rw [← e, Nat.mul_comm, fG c hP, j8 c hP, h1, qY] at h2
    exact h2
theorem mul_mod (c : Cur p b) {P : PtQ} (hP : OnQ p b P) {q : Nat} (hq : c9 p q P = none) (n : Nat) : c9 p (n % q) P = c9 p n P := by
  have e := Nat.div_add_mod n q
  conv => rhs; rw [← e, Nat.mul_comm, fG c hP, j8 c hP, hq, qY]
  rfl
def arE (p : Nat) : PtQ → Nat
  | none => 2 * p
  | some P => 2 * P.1 + P.2 % 2
theorem as5 {P : PtQ} (hP : OnQ p b P) : arE p P < 2 * p + 1 := by
  cases P with
  | none => show 2 * p < _; omega
  | some P =>
    have := hP.1
    show 2 * P.1 + P.2 % 2 < _
    omega
theorem aq1 (c : Cur p b) (hodd : p % 2 = 1) {P R : PtQ} (hP : OnQ p b P) (hR : OnQ p b R) (h : arE p P = arE p R) : P = R := by
  cases P with
  | none =>
    cases R with
    | none => rfl
    | some R =>
      have := hR.1
      have h : 2 * p = 2 * R.1 + R.2 % 2 := h
      omega
  | some P =>
    cases R with
    | none =>
      have := hP.1
      have h : 2 * P.1 + P.2 % 2 = 2 * p := h
      omega
    | some R =>
      obtain ⟨x1, y1⟩ := P
      obtain ⟨x2, y2⟩ := R
      have h : 2 * x1 + y1 % 2 = 2 * x2 + y2 % 2 := h
      have hx : x1 = x2 := by omega
      have hy : y1 % 2 = y2 % 2 := by omega
      by_cases he : y1 = y2
      · rw [hx, he]
      · exfalso
        have ho := afO c hP hR ⟨hx, he⟩
        have ho : some (x2, y2) = some (x1, nm p (-(y1 : Int))) := ho
        simp only [Option.some.injEq, Prod.mk.injEq] at ho
        have h2 := ho.2
        have hy1 : y1 < p := hP.2.1
        have h0 : y1 ≠ 0 := fun e => c.yne hP.2.2 (by show (p : Int) ∣ ((y1 : Nat) : Int); rw [e]; exact ⟨0, by simp⟩)
        have h3 : nm p (-(y1 : Int)) = p - y1 := afS (by omega) ⟨1, by omega⟩
        omega
theorem aif (c : Cur p b) (hodd : p % 2 = 1) {q : Nat} (hq : Pr q) (hq2 : q % 2 = 1) (h3 : 2 * p + 1 < 3 * q) {G : PtQ} (hG : OnQ p b G) (hne : G ≠ none) (hqG : c9 p q G = none)
    {P : PtQ} (hP : OnQ p b P) : c9 p q P = none := by
  apply Classical.byContradiction
  intro hno
  have hord : ∀ i, c9 p i G = none → q ∣ i := fun i hi => by
    have hg := mul_gcd c hG q i hqG hi
    rcases hq.2 (Nat.gcd q i) (Nat.gcd_dvd_left ..) with e | e
    · rw [e, mul_one] at hg
      exact absurd hg hne
    · rw [← e]
      exact Nat.gcd_dvd_right ..
  have hon := fun i => nN c hG i
  have honP := fun i => nN c hP i
  -- no point of G's meets P or twice P
  have hp1 : ∀ i, P ≠ c9 p i G := fun i e => hno (by rw [e, mul_comm c hG, hqG, qY])
  have hp2 : ∀ i, cP p P P ≠ c9 p i G := fun i e => by
    have hh : ∃ j, c9 p i G = cP p (c9 p j G) (c9 p j G) := by
      refine ⟨i * ((q + 1) / 2), ?_⟩
      rw [← fG c hG, ← Nat.mul_add, show (q + 1) / 2 + (q + 1) / 2 = q + 1 by omega, Nat.mul_add, fG c hG, j8 c hG, hqG, qY, Nat.mul_one]
      rfl
    obtain ⟨j, hj⟩ := hh
    rw [hj] at e
    have hn := Ad c (hon j)
    have : cP p (cP p (J8 p (c9 p j G)) P) (cP p (J8 p (c9 p j G)) P) = none := by
      rw [Lu c hn hP hn hP, e, add_comm c (fS c hn hn) (fS c (hon j) (hon j)), Lu c (hon j) (hon j) hn hn, add_neg c (hon j)]
      rfl
    have h2 := aiH c this
    have h4 := Df c hn hP h2
    rw [neg_neg c (hon j)] at h4
    exact hp1 j h4
  -- differences of G's points
  have hdiff : ∀ i j A B, OnQ p b A → OnQ p b B → cP p (c9 p i G) A = cP p (c9 p j G) B → ∃ k, A = cP p (c9 p k G) B := fun i j A B hA hB e => by
    refine ⟨(q - i % q) + j, ?_⟩
    have hm : c9 p (i % q) G = c9 p i G := mul_mod c hG hqG i
    have hlt := Nat.mod_lt i hq.pos
    have hz : cP p (c9 p (q - i % q) G) (c9 p i G) = none := by
      rw [← hm, ← fG c hG, show q - i % q + i % q = q by omega, hqG]
    rw [fG c hG, add_assoc c (hon _) (hon _) hB, ← e, ← add_assoc c (hon _) (hon _) hA, hz]
    rfl
  have hinj : ∀ i j, i < q → j < q → c9 p i G = c9 p j G → i = j := by
    have aux : ∀ i j, i ≤ j → j < q → c9 p i G = c9 p j G → i = j := fun i j hij hj e => by
      have e2 : cP p (c9 p i G) none = cP p (c9 p i G) (c9 p (j - i) G) := by
        rw [← fG c hG, show i + (j - i) = j by omega, bX, e]
      have h0 := zj c (hon i) (R := none) trivial (hon _) e2
      have hd := hord _ h0.symm
      by_cases h : j - i = 0
      · omega
      · have := Nat.le_of_dvd (by omega) hd
        omega
    intro i j hi hj e
    rcases Nat.le_total i j with h | h
    · exact aux i j h hj e
    · exact (aux j i h hi e.symm).symm
  let tw : Nat → PtQ := fun k => c9 p (k / q) P
  let pt : Nat → PtQ := fun k => cP p (c9 p (k % q) G) (c9 p (k / q) P)
  have hpt : ∀ k, OnQ p b (pt k) := fun k => fS c (hon _) (honP _)
  have hcoset : ∀ i j, i < 3 → j < 3 → (∃ k, c9 p i P = cP p (c9 p k G) (c9 p j P)) → i = j := by
    have P1 : c9 p 1 P = P := mul_one P
    have P2 : c9 p 2 P = cP p P P := congrArg (cP p P) (mul_one P)
    have back : ∀ k A B, OnQ p b A → OnQ p b B → A = cP p (c9 p k G) B → ∃ k', B = cP p (c9 p k' G) A := fun k A B hA hB e => by
      refine hdiff k 0 B A hB hA ?_
      rw [← e]
      rfl
    have n01 : ∀ k, c9 p 0 P ≠ cP p (c9 p k G) (c9 p 1 P) := fun k e => by
      obtain ⟨k', e'⟩ := back k _ _ (honP 0) (honP 1) e
      rw [P1, show c9 p 0 P = none from rfl, bX] at e'
      exact hp1 k' e'
    have n02 : ∀ k, c9 p 0 P ≠ cP p (c9 p k G) (c9 p 2 P) := fun k e => by
      obtain ⟨k', e'⟩ := back k _ _ (honP 0) (honP 2) e
      rw [P2, show c9 p 0 P = none from rfl, bX] at e'
      exact hp2 k' e'
    have n12 : ∀ k, c9 p 1 P ≠ cP p (c9 p k G) (c9 p 2 P) := fun k e => by
      rw [P1, P2, ← add_assoc c (hon k) hP hP] at e
      have e2 : cP p P none = cP p P (cP p (c9 p k G) P) := by
        rw [bX, ← add_assoc c hP (hon k) hP, add_comm c hP (hon k)]
        exact e
      have e3 := zj c hP (R := none) trivial (fS c (hon k) hP) e2
      obtain ⟨k', e'⟩ := back k none P trivial hP e3
      rw [bX] at e'
      exact hp1 k' e'
    rintro i j hi hj ⟨k, hk⟩
    apply Classical.byContradiction
    intro hij
    have bk := back k _ _ (honP i) (honP j) hk
    have : (i = 0 ∧ j = 1) ∨ (i = 0 ∧ j = 2) ∨ (i = 1 ∧ j = 2) ∨ (i = 1 ∧ j = 0) ∨ (i = 2 ∧ j = 0) ∨ (i = 2 ∧ j = 1) := by omega
    rcases this with ⟨rfl, rfl⟩ | ⟨rfl, rfl⟩ | ⟨rfl, rfl⟩ | ⟨rfl, rfl⟩ | ⟨rfl, rfl⟩ | ⟨rfl, rfl⟩
    · exact n01 k hk
    · exact n02 k hk
    · exact n12 k hk
    · obtain ⟨k', e⟩ := bk; exact n01 k' e
    · obtain ⟨k', e⟩ := bk; exact n02 k' e
    · obtain ⟨k', e⟩ := bk; exact n12 k' e
  have hptinj : ∀ x ∈ List.range (3 * q), ∀ y ∈ List.range (3 * q), arE p (pt x) = arE p (pt y) → x = y := fun x hx y hy e => by
    rw [List.mem_range] at hx hy
    have e := aq1 c hodd (hpt x) (hpt y) e
    have hdx : x / q < 3 := Nat.div_lt_of_lt_mul (by rw [Nat.mul_comm]; exact hx)
    have hdy : y / q < 3 := Nat.div_lt_of_lt_mul (by rw [Nat.mul_comm]; exact hy)
    have h1 := hcoset (x / q) (y / q) hdx hdy (hdiff _ _ _ _ (honP _) (honP _) e)
    have e : cP p (c9 p (x % q) G) (c9 p (x / q) P) = cP p (c9 p (y % q) G) (c9 p (y / q) P) := e
    rw [h1, add_comm c (hon _) (honP _), add_comm c (hon (y % q)) (honP _)] at e
    have h2 := hinj _ _ (Nat.mod_lt _ hq.pos) (Nat.mod_lt _ hq.pos) (zj c (honP _) (hon _) (hon _) e)
    have e1 := Nat.div_add_mod x q
    have e2 := Nat.div_add_mod y q
    rw [← e1, ← e2, h1, h2]
  have hnd := oZ (f := fun k => arE p (pt k)) List.nodup_range hptinj
  have hlen := vu (l2 := List.range (2 * p + 1)) hnd (fun x hx => by
    obtain ⟨k, _, rfl⟩ := List.mem_map.1 hx
    exact List.mem_range.2 (as5 (hpt k)))
  rw [List.length_map, List.length_range, List.length_range] at hlen
  omega
end Go.Proofs.YtohjofabochgfaaGreat

namespace Go.Proofs.YtohjofabochgfaaGreat
open Sx Go
theorem sH {p b : Nat} (c : Cur p b) (hp : Sm p) {k : Nat} (hk : k < 2 ^ 256) {P : Pt} (hP : OnQ p b (toQ P)) : ∀ n, n ≤ 256 →
    toQ (upto (cn p k P) aD n) = c9 p (k / 2 ^ (256 - n)) (toQ P)
  | 0, _ => by
    rw [Nat.sub_zero, Nat.div_eq_of_lt hk]
    rfl
  | n + 1, h => by
    have ih := sH c hp hk hP n (by omega)
    have ho := nN c hP (k / 2 ^ (256 - n))
    show toQ (cn p k P n (upto (cn p k P) aD n)) = _
    generalize upto (cn p k P) aD n = Q at *
    have hQ : OnQ p b (toQ Q) := by rw [ih]; exact ho
    have d2 := Cd c hp hQ hQ
    have e1 : 256 - n = (255 - n) + 1 := by omega
    have hd : k / 2 ^ (256 - n) = k / 2 ^ (255 - n) / 2 := by rw [e1, Nat.pow_succ, Nat.div_div_eq_div_mul]
    rw [show 256 - (n + 1) = 255 - n by omega]
    rw [hd] at ih ho
    unfold cn
    cases hb : Bq k (255 - n)
    · have h0 := Lm hb
      simp only [cond_false]
      rw [d2, ih, ← fG c hP]
      congr 1
      omega
    · have h0 : k / 2 ^ (255 - n) % 2 = 1 := Nat.eq_of_beq_eq_true hb
      simp only [cond_true]
      have d3 : OnQ p b (toQ (dV p Q Q)) := by rw [d2]; exact fS c hQ hQ
      rw [Cd c hp d3 hP, d2, ih, ← fG c hP, add_comm c (nN c hP _) hP]
      show c9 p (_ + 1) (toQ P) = _
      congr 1
      omega
theorem Zw {p b : Nat} (c : Cur p b) (hp : Sm p) {k : Nat} (hk : k < 2 ^ 256) {P : Pt} (hP : OnQ p b (toQ P)) : toQ (Co p k P) = c9 p k (toQ P) := by
  have h := sH c hp hk hP 256 (Nat.le_refl _)
  rw [Nat.sub_self, Nat.pow_zero, Nat.div_one] at h
  exact h
theorem ass {p b x y : Nat} (hx : x < p) (hy : y < p) (h : Nat.beq (y * y % p) ((x * x * x + b) % p) = true) : OnQ p b (some (x, y)) := by
  refine ⟨hx, hy, ?_⟩
  have h := Nat.eq_of_beq_eq_true h
  obtain ⟨k, hk⟩ := anr (p := p) (y * y)
  obtain ⟨m, hm⟩ := anr (p := p) (x * x * x + b)
  rw [h] at hk
  rw [Int.natCast_mul] at hk
  rw [Int.natCast_add, Int.natCast_mul, Int.natCast_mul] at hm
  show (p : Int) ∣ (y : Int) * y - x * x * x - b
  generalize (((x * x * x + b) % p : Nat) : Int) = r at *
  refine ⟨m - k, ?_⟩
  rw [Int.mul_sub, ← hm, ← hk]
  omega
def ap5 (p q : Nat) (x y : aa) : Bool := cp (upto (ib p (ofN q) (eO (x, y, false))) acx 256).2.2
theorem atO {p b q : Nat} (c : Cur p b) (hp : Sm p) (hq : q < 115792089237316195423570985008687907853269984665640564039457584007913129639936) {x y : aa} (hG : OnQ p b (some (x.nat, y.nat))) (h : ap5 p q x y = true) : c9 p q (some (x.nat, y.nat)) = none := by
  have hG' : OnQ p b (toQ (x, y, false)) := hG
  obtain ⟨h1, h2, h3⟩ := BJ c hp (ofN q) hG' (fun h => by cases h) 256 (Nat.le_refl _)
  have h4 := sH c hp (k := (ofN q).nat) (gD _) hG' 256 (Nat.le_refl _)
  rw [ia hq, Nat.sub_self, Nat.pow_zero, Nat.div_one] at h4
  rw [ia hq] at h1
  have h4 : toQ (upto (cn p q (x, y, false)) aD 256) = c9 p q (some (x.nat, y.nat)) := h4
  rw [h4] at h1
  unfold ap5 at h
  cases hm : c9 p q (some (x.nat, y.nat)) with
  | none => rfl
  | some S =>
    rw [hm] at h1
    rw [qi h1.2.1] at h
    cases h
end Go.Proofs.YtohjofabochgfaaGreat

namespace Go.Proofs.YtohjofabochgfaaGreat
open Sx Go
theorem J1 {p b q : Nat} (c : Cur p b) (hp : Sm p) (hodd : Nat.beq (p % 2) 1 = true) (hq : Pr q) (hq2 : Nat.beq (q % 2) 1 = true) (hqb : Nat.blt q 115792089237316195423570985008687907853269984665640564039457584007913129639936 = true) (h3 : Nat.blt (2 * p + 1) (3 * q) = true)
    {x y : aa} (hx : Nat.blt x.nat p = true) (hy : Nat.blt y.nat p = true) (he : Nat.beq (y.nat * y.nat % p) ((x.nat * x.nat * x.nat + b) % p) = true) (h : ap5 p q x y = true) {P : PtQ} (hP : OnQ p b P) : c9 p q P = none := by
  have hG := ass (cL hx) (cL hy) he
  exact aif c (Nat.eq_of_beq_eq_true hodd) hq (Nat.eq_of_beq_eq_true hq2) (cL h3) hG (fun e => by cases e) (atO c hp (cL hqb) hG h) hP
theorem asD : pS 0 = 16513537 := by decide +kernel
theorem asC : pS 1 = 16521217 := by decide +kernel
theorem asB : pS 2 = 28948022309329048855892746252171976963363056481941560715954676764349967630337 := by decide +kernel
theorem asA : pS 3 = 28948022309329048855892746252171976963363056481941647379679742748393362948097 := by decide +kernel
theorem auF : (bS 0).nat = 23 := by decide +kernel
theorem auE : (bS 1).nat = 21 := by decide +kernel
theorem auD : (bS 2).nat = 5 := by decide +kernel
theorem auC : (bS 3).nat = 5 := by decide +kernel
theorem atS : ap5 16513537 16521217 ⟨1, 0, 0, 0⟩ ⟨2487377, 0, 0, 0⟩ = true := by decide +kernel
theorem atR : ap5 16521217 16513537 ⟨1, 0, 0, 0⟩ ⟨7286451, 0, 0, 0⟩ = true := by decide +kernel
theorem atQ : ap5 28948022309329048855892746252171976963363056481941560715954676764349967630337 28948022309329048855892746252171976963363056481941647379679742748393362948097
    (ofN 28948022309329048855892746252171976963363056481941560715954676764349967630336) ⟨2, 0, 0, 0⟩ = true := by decide +kernel
theorem atP : ap5 28948022309329048855892746252171976963363056481941647379679742748393362948097 28948022309329048855892746252171976963363056481941560715954676764349967630337
    (ofN 28948022309329048855892746252171976963363056481941647379679742748393362948096) ⟨2, 0, 0, 0⟩ = true := by decide +kernel
theorem anm {s : Int} (hs : ak s = true) {P : PtQ} (hP : OnQ (pS s) (bS s).nat P) : c9 (pS s) (pS (yJ s 1)) P = none := by
  have c := bo hs
  have hp : Sm (pS s) := fx hs
  rcases cr hs with rfl | rfl | rfl | rfl
  · rw [show yJ 0 1 = 1 by decide +kernel]
    rw [asD, asC, auF] at *
    exact J1 c hp (by decide +kernel) sW (by decide +kernel) (by decide +kernel) (by decide +kernel) (by decide +kernel) (by decide +kernel) (by decide +kernel) atS hP
  · rw [show yJ 1 1 = 0 by decide +kernel]
    rw [asD, asC, auE] at *
    exact J1 c hp (by decide +kernel) sX (by decide +kernel) (by decide +kernel) (by decide +kernel) (by decide +kernel) (by decide +kernel) (by decide +kernel) atR hP
  · rw [show yJ 2 1 = 3 by decide +kernel]
    rw [asB, asA, auD] at *
    exact J1 c hp (by decide +kernel) aI (by decide +kernel) (by decide +kernel) (by decide +kernel) (by decide +kernel) (by decide +kernel) (by decide +kernel) atQ hP
  · rw [show yJ 3 1 = 2 by decide +kernel]
    rw [asB, asA, auC] at *
    exact J1 c hp (by decide +kernel) aJ (by decide +kernel) (by decide +kernel) (by decide +kernel) (by decide +kernel) (by decide +kernel) (by decide +kernel) atP hP
end Go.Proofs.YtohjofabochgfaaGreat

namespace Go.Proofs.YtohjofabochgfaaGreat
open Sx Go
end Go.Proofs.YtohjofabochgfaaGreat

namespace Go.Proofs.YtohjofabochgfaaGreat
open Sx Go
theorem afP {s : Int} {P : Pt} (hs : ak s = true) (h : OnQ (pS s) (bS s).nat (toQ P)) (hc : Can P) : onB s P = true := by
  have hp : Sm (pS s) := fx hs
  obtain ⟨X, Y, i⟩ := P
  cases i
  · obtain ⟨hx, hy, hv⟩ := h
    have hx : X.nat < pS s := hx
    have hy : Y.nat < pS s := hy
    have hv : ((pS s : Nat) : Int) ∣ (Y.nat : Int) * Y.nat - X.nat * X.nat * X.nat - (bS s).nat := hv
    unfold onB
    rw [hs]
    have e1 : Nat.blt X.nat (pS s) = true := Nat.ble_eq_true_of_le hx
    have e2 : Nat.blt Y.nat (pS s) = true := Nat.ble_eq_true_of_le hy
    simp only [cond_true, cond_false, e1, e2]
    refine ja.2 (j7 (fJ (Di hp _ _) (aik hp _ _) ?_))
    have c1 := bY hp Y Y
    have c2 := bY hp X X
    have c3 := bY hp (aR (pS s) X X) X
    have c4 := Y6 hp (aR (pS s) (aR (pS s) X X) X) (bS s)
    unfold Bk
    exact at6 c1 c4 c3 c2 hv
  · rw [hc rfl]
    unfold onB
    rw [hs]
    rfl
theorem anM {s : Int} {P : Pt} (h : onB s P = true) : Can P := (dv h).2.2
theorem ara : Can aD := fun _ => rfl
theorem nw {s : Int} {P R : Pt} (hP : onB s P = true) (hR : onB s R = true) : toQ (eG s P R) = cP (pS s) (toQ P) (toQ R) ∧ onB s (eG s P R) = true := by
  obtain ⟨hs, h1, h2⟩ := dv hP
  obtain ⟨_, h3, h4⟩ := dv hR
  have c := bo hs
  have hp : Sm (pS s) := fx hs
  have e : eG s P R = eW (pS s) (PZ (pS s) (eO P) (eO R)) := by unfold eG; rw [hP, hR]; rfl
  obtain ⟨n1, n2⟩ := yv c hp (fS c h1 h3) (TZ c hp h1 h3 (oa c) (oa c))
  rw [e]
  exact ⟨n1, afP hs (by rw [n1]; exact fS c h1 h3) n2⟩
theorem vw {s : Int} (hs : ak s = true) : onB s aD = true := afP hs trivial ara
theorem XE {s : Int} (k : aa) {P : Pt} (hP : onB s P = true) : toQ (tf s k P) = c9 (pS s) k.nat (toQ P) ∧ onB s (tf s k P) = true := by
  obtain ⟨hs, h1, h2⟩ := dv hP
  have c := bo hs
  have hp : Sm (pS s) := fx hs
  have hk : (ofP (pS (yJ s 1)) k).nat = k.nat % pS (yJ s 1) := cH (fx (js hs))
  have e : tf s k P = Co (pS s) (ofP (pS (yJ s 1)) k).nat P := by rw [XD]; unfold o0; rw [hP]; rfl
  have ht : toQ (tf s k P) = c9 (pS s) k.nat (toQ P) := by
    rw [e, Zw c hp (gD _) h1, hk, mul_mod c h1 (anm hs h1)]
  refine ⟨ht, afP hs (by rw [ht]; exact nN c h1 _) ?_⟩
  rw [e]
  exact (BJ c hp (ofP (pS (yJ s 1)) k) h1 h2 256 (Nat.le_refl _)).2.2
end Go.Proofs.YtohjofabochgfaaGreat

namespace Go.Proofs.YtohjofabochgfaaGreat
open Sx Go
def Gp {p b : Nat} (_ : Cur p b) : Type := { P : PtQ // OnQ p b P }
section
variable {p b : Nat} {c : Cur p b}
instance : Add (Gp c) := ⟨fun x y => ⟨cP p x.1 y.1, fS c x.2 y.2⟩⟩
instance : Zero (Gp c) := ⟨⟨none, trivial⟩⟩
instance : Neg (Gp c) := ⟨fun x => ⟨J8 p x.1, Ad c x.2⟩⟩
instance : Std.Associative (α := Gp c) (· + ·) := ⟨fun x y z => Subtype.ext (add_assoc c x.2 y.2 z.2)⟩
instance : Std.Commutative (α := Gp c) (· + ·) := ⟨fun x y => Subtype.ext (add_comm c x.2 y.2)⟩
theorem asS (x y : Gp c) : x + y = y + x := Subtype.ext (add_comm c x.2 y.2)
theorem aqr (x y z : Gp c) : x + y + z = x + (y + z) := Subtype.ext (add_assoc c x.2 y.2 z.2)
theorem DZ (x : Gp c) : x + 0 = x := Subtype.ext (bX x.1)
theorem arJ (x : Gp c) : 0 + x = x := Subtype.ext rfl
def sm (n : Nat) (x : Gp c) : Gp c := ⟨c9 p n x.1, nN c x.2 n⟩
theorem aea (x : Gp c) : sm 0 x = 0 := rfl
theorem ana (x : Gp c) : sm 1 x = x := Subtype.ext (mul_one x.1)
theorem apo (n : Nat) (x : Gp c) : sm (n + 1) x = x + sm n x := rfl
theorem aeb (m n : Nat) (x : Gp c) : sm (m + n) x = sm m x + sm n x := Subtype.ext (fG c x.2 n m)
theorem akF (m n : Nat) (x : Gp c) : sm (m * n) x = sm m (sm n x) := Subtype.ext (j8 c x.2 n m)
theorem ar8 (n : Nat) (x y : Gp c) : sm n (x + y) = sm n x + sm n y := Subtype.ext (mul_add c x.2 y.2 n)
theorem app (n : Nat) : sm n (0 : Gp c) = 0 := Subtype.ext (qY n)
def uf : List (Nat × Gp c) → Gp c
  | [] => 0
  | t :: r => sm t.1 t.2 + uf r
theorem Ce (l r : List (Nat × Gp c)) : uf (l ++ r) = uf l + uf r := by
  induction l with
  | nil => exact (arJ _).symm
  | cons t l ih =>
    show sm t.1 t.2 + uf (l ++ r) = sm t.1 t.2 + uf l + uf r
    rw [ih, aqr]
open Classical in
noncomputable def gp (c : Cur p b) (P : Pt) : Gp c := if h : OnQ p b (toQ P) then ⟨toQ P, h⟩ else 0
theorem OG (P : Pt) (h : OnQ p b (toQ P)) : gp c P = ⟨toQ P, h⟩ := dif_pos h
end
section
variable {s : Int} (hs : ak s = true)
theorem anx {P R : Pt} (hP : onB s P = true) (hR : onB s R = true) (h : gp (bo hs) P = gp (bo hs) R) : P = R := by
  rw [OG P (dv hP).2.1, OG R (dv hR).2.1] at h
  exact Le (anM hP) (anM hR) (congrArg Subtype.val h)
theorem OH : gp (bo hs) aD = 0 := OG aD trivial
theorem HY {P R : Pt} (hP : onB s P = true) (hR : onB s R = true) : gp (bo hs) (eG s P R) = gp (bo hs) P + gp (bo hs) R := by
  obtain ⟨e, o⟩ := nw hP hR
  rw [OG P (dv hP).2.1, OG R (dv hR).2.1, OG _ (dv o).2.1]
  exact Subtype.ext e
theorem asP (k : aa) {P : Pt} (hP : onB s P = true) : gp (bo hs) (tf s k P) = sm k.nat (gp (bo hs) P) := by
  obtain ⟨e, o⟩ := XE k hP
  rw [OG P (dv hP).2.1, OG _ (dv o).2.1]
  exact Subtype.ext e
theorem ar7 (n : Nat) (x : Gp (bo hs)) : sm (n % pS (yJ s 1)) x = sm n x := Subtype.ext (mul_mod (bo hs) x.2 (anm hs x.2) n)
end
end Go.Proofs.YtohjofabochgfaaGreat

namespace Go.Proofs.YtohjofabochgfaaGreat
open Sx Go
section
variable {s : Int} (hs : ak s = true)
abbrev Gs (hs : ak s = true) : Type := Gp (bo hs)
noncomputable def tG (l : List Tm) : List (Nat × Gs hs) := l.map fun t => (t.1.nat, gp (bo hs) t.2)
theorem DY {α : Type} {l : List α} {k : Nat} (h : k < l.length) (d : α) : l.getD k d = l[k] := by rw [List.getD_eq_getElem?_getD, List.getElem?_eq_getElem h]; rfl
theorem aih {c : Int} {l : List Tm} (ha : cF c l = true) {k : Nat} (h : k < l.length) : onB c l[k].2 = true := List.all_eq_true.1 ha _ (List.getElem_mem h)
theorem Cf {l : List Tm} (ha : cF s l = true) : ∀ n, n ≤ l.length → onB s (upto (dl s l) aD n) = true ∧ gp (bo hs) (upto (dl s l) aD n) = uf (tG hs (l.take n))
  | 0, _ => ⟨vw hs, OH hs⟩
  | n + 1, h => by
    obtain ⟨h1, h2⟩ := Cf ha n (by omega)
    have hk : n < l.length := by omega
    show onB s (dl s l n (upto (dl s l) aD n)) = true ∧ gp (bo hs) (dl s l n (upto (dl s l) aD n)) = _
    generalize upto (dl s l) aD n = O at *
    unfold dl
    rw [DY hk]
    have hp := aih ha hk
    have hm := (XE l[n].1 hp).2
    refine ⟨(nw h1 hm).2, ?_⟩
    rw [HY hs h1 hm, asP hs _ hp, h2, ← List.take_append_getElem hk, tG, tG, List.map_append, Ce]
    congr 1
    exact (DZ _).symm
theorem GO {l : List Tm} (ha : cF s l = true) : onB s (jg s l) = true ∧ gp (bo hs) (jg s l) = uf (tG hs l) := by
  have h := Cf hs ha l.length (Nat.le_refl _)
  rw [List.take_length] at h
  exact h
noncomputable def LX : List Pt → Gs hs
  | [] => 0
  | P :: r => gp (bo hs) P + LX r
noncomputable def Zh : List Pt → Gs hs
  | [] => 0
  | P :: r => Zh r + LX hs (P :: r)
theorem Ji {P R : Pt} (hR : onB s R = true) : ∀ (S : List Pt) (d : Nat), d < S.length → onB s (S.getD d fh) = true → P = eG s (S.getD d fh) R → LX hs (S.set d P) = LX hs S + gp (bo hs) R
  | [], d, h, _, _ => by cases h
  | X :: S, 0, _, ho, e => by
    subst e
    have ho : onB s X = true := ho
    show gp (bo hs) (eG s X R) + LX hs S = gp (bo hs) X + LX hs S + gp (bo hs) R
    rw [HY hs ho hR]
    ac_rfl
  | X :: S, d + 1, h, ho, e => by
    have ih := Ji hR S d (by simpa using h) ho e
    show gp (bo hs) X + LX hs (S.set d P) = gp (bo hs) X + LX hs S + gp (bo hs) R
    rw [ih]
    ac_rfl
theorem UB {P R : Pt} (hR : onB s R = true) : ∀ (S : List Pt) (d : Nat), d < S.length → onB s (S.getD d fh) = true → P = eG s (S.getD d fh) R → Zh hs (S.set d P) = Zh hs S + sm (d + 1) (gp (bo hs) R)
  | [], d, h, _, _ => by cases h
  | X :: S, 0, h, ho, e => by
    have hr := Ji hs hR (X :: S) 0 h ho e
    show Zh hs S + LX hs (P :: S) = Zh hs S + LX hs (X :: S) + sm 1 (gp (bo hs) R)
    have hr : LX hs (P :: S) = _ := hr
    rw [hr, ana]
    ac_rfl
  | X :: S, d + 1, h, ho, e => by
    have hr := Ji hs hR (X :: S) (d + 1) h ho e
    have ih := UB hR S d (by simpa using h) ho e
    show Zh hs (S.set d P) + LX hs ((X :: S).set (d + 1) P) = Zh hs S + LX hs (X :: S) + sm (d + 1 + 1) (gp (bo hs) R)
    rw [hr, ih, apo (d + 1)]
    ac_rfl
def arn (s : Int) (S : List Pt) : Prop := ∀ k, k < S.length → onB s (S.getD k fh) = true
theorem amS {S : List Pt} (h : arn s S) {d : Nat} {P : Pt} (hP : onB s P = true) : arn s (S.set d P) := fun k hk => by
  rw [List.length_set] at hk
  by_cases e : d = k
  · subst e
    rw [List.getD_eq_getElem?_getD, List.getElem?_set_self hk]
    exact hP
  · rw [List.getD_eq_getElem?_getD, List.getElem?_set_ne e, ← List.getD_eq_getElem?_getD]
    exact h k hk
theorem WQ {S : List Pt} (hS : S.length = 15) (hp : arn s S) : ∀ n, n ≤ 15 →
    (onB s (upto (fo s S) (aD, aD) n).1 = true ∧ onB s (upto (fo s S) (aD, aD) n).2 = true) ∧
    gp (bo hs) (upto (fo s S) (aD, aD) n).1 = LX hs (S.drop (15 - n)) ∧ gp (bo hs) (upto (fo s S) (aD, aD) n).2 = Zh hs (S.drop (15 - n))
  | 0, _ => by
    rw [List.drop_eq_nil_of_le (by omega)]
    exact ⟨⟨vw hs, vw hs⟩, OH hs, OH hs⟩
  | n + 1, h => by
    obtain ⟨⟨h1, h2⟩, h3, h4⟩ := WQ hS hp n (by omega)
    show (onB s (fo s S n (upto (fo s S) (aD, aD) n)).1 = true ∧ onB s (fo s S n (upto (fo s S) (aD, aD) n)).2 = true) ∧
      gp (bo hs) (fo s S n (upto (fo s S) (aD, aD) n)).1 = _ ∧ gp (bo hs) (fo s S n (upto (fo s S) (aD, aD) n)).2 = _
    generalize upto (fo s S) (aD, aD) n = w at *
    have hk : 14 - n < S.length := by omega
    have ho := hp (14 - n) hk
    have e1 : S.drop (15 - (n + 1)) = S.getD (14 - n) fh :: S.drop (15 - n) := by
      rw [DY hk, show 15 - (n + 1) = 14 - n by omega, List.drop_eq_getElem_cons hk, show 14 - n + 1 = 15 - n by omega]
    rw [e1]
    unfold fo
    dsimp only
    have o1 := (nw h1 ho).2
    have o2 := (nw h2 o1).2
    have e2 : gp (bo hs) (eG s w.1 (S.getD (14 - n) fh)) = LX hs (S.getD (14 - n) fh :: S.drop (15 - n)) := by
      rw [HY hs h1 ho, h3]
      exact asS _ _
    refine ⟨⟨o1, o2⟩, e2, ?_⟩
    rw [HY hs h2 o1, h4, e2]
    rfl
theorem apx {S : List Pt} (hS : S.length = 15) (hp : arn s S) : onB s (atx s S).2 = true ∧ gp (bo hs) (atx s S).2 = Zh hs S := by
  obtain ⟨⟨_, h2⟩, _, h4⟩ := WQ hs hS hp 15 (Nat.le_refl _)
  exact ⟨h2, h4⟩
theorem Mu : ∀ n, LX hs (List.replicate n aD) = 0
  | 0 => rfl
  | n + 1 => by
    rw [List.replicate_succ]
    show gp (bo hs) aD + LX hs (List.replicate n aD) = 0
    rw [Mu n, OH hs, DZ]
theorem L5 : ∀ n, Zh hs (List.replicate n aD) = 0
  | 0 => rfl
  | n + 1 => by
    have h := Mu hs (n + 1)
    rw [List.replicate_succ] at h ⊢
    show Zh hs (List.replicate n aD) + LX hs (aD :: List.replicate n aD) = 0
    rw [h, L5 n, DZ]
theorem aii (hs : ak s = true) (n : Nat) : arn s (List.replicate n aD) := fun k hk => by
  rw [DY hk, List.getElem_replicate]
  exact vw hs
noncomputable def dG (a : Int) (l : List Tm) : List (Nat × Gs hs) := l.map fun t => ((Pc t.1 a).toNat, gp (bo hs) t.2)
theorem Py {l : List Tm} (ha : cF s l = true) (a : Int) : ∀ n, n ≤ l.length → (upto (dJ s a l) (List.replicate 15 aD) n).length = 15 ∧ arn s (upto (dJ s a l) (List.replicate 15 aD) n) ∧
    Zh hs (upto (dJ s a l) (List.replicate 15 aD) n) = uf (dG hs a (l.take n))
  | 0, _ => ⟨rfl, aii hs 15, L5 hs 15⟩
  | n + 1, h => by
    obtain ⟨h1, h2, h3⟩ := Py ha a n (by omega)
    have hk : n < l.length := by omega
    show (dJ s a l n (upto (dJ s a l) (List.replicate 15 aD) n)).length = 15 ∧ arn s (dJ s a l n (upto (dJ s a l) (List.replicate 15 aD) n)) ∧ Zh hs (dJ s a l n (upto (dJ s a l) (List.replicate 15 aD) n)) = _
    generalize upto (dJ s a l) (List.replicate 15 aD) n = S at *
    have hp := aih ha hk
    refine ⟨(kv s a l n S).trans h1, ?_⟩
    have ed : uf (dG hs a (l.take (n + 1))) = uf (dG hs a (l.take n)) + sm (Pc l[n].1 a).toNat (gp (bo hs) l[n].2) := by
      rw [← List.take_append_getElem hk, dG, dG, List.map_append, Ce]
      congr 1
      exact DZ _
    rw [ed]
    unfold dJ
    rw [DY hk]
    have hd := aho l[n].1 a
    by_cases h0 : 0 < Pc l[n].1 a
    · rw [decide_eq_true h0]
      simp only [cond_true]
      have hlt : (Pc l[n].1 a - 1).toNat < S.length := by omega
      have ho := h2 _ hlt
      refine ⟨amS h2 (nw ho hp).2, ?_⟩
      rw [UB hs hp S _ hlt ho rfl, h3, show (Pc l[n].1 a - 1).toNat + 1 = (Pc l[n].1 a).toNat by omega]
    · rw [decide_eq_false h0]
      simp only [cond_false]
      refine ⟨h2, ?_⟩
      rw [h3, show (Pc l[n].1 a).toNat = 0 by omega, aea, DZ]
theorem amL {l : List Tm} (ha : cF s l = true) (a : Int) : onB s (TK s l a) = true ∧ gp (bo hs) (TK s l a) = uf (dG hs a l) := by
  obtain ⟨h1, h2, h3⟩ := Py hs ha a l.length (Nat.le_refl _)
  rw [List.take_length] at h3
  obtain ⟨h4, h5⟩ := apx hs h1 h2
  exact ⟨h4, h5.trans h3⟩
noncomputable def vG (a : Nat) (l : List Tm) : List (Nat × Gs hs) := l.map fun t => (t.1.nat / 2 ^ a, gp (bo hs) t.2)
theorem vQ (k : aa) (i : Nat) : anP (nZ k (i : Int)) = ((k.nat / 2 ^ i % 2 : Nat) : Int) := by
  unfold nZ
  rw [decide_eq_true (show (0 : Int) ≤ (i : Int) by omega), Int.toNat_natCast]
  by_cases h : (i : Int) < 256
  · rw [decide_eq_true h]
    show anP (Bq k.nat i) = _
    unfold Bq
    have h2 : k.nat / 2 ^ i % 2 = 0 ∨ k.nat / 2 ^ i % 2 = 1 := by omega
    rcases h2 with h2 | h2 <;> rw [h2] <;> rfl
  · rw [decide_eq_false h]
    have hlt := gD k
    have : k.nat / 2 ^ i = 0 := Nat.div_eq_of_lt (Nat.lt_of_lt_of_le hlt (by
      have : 2 ^ 256 ≤ 2 ^ i := Nat.pow_le_pow_right (by decide) (by omega)
      exact this))
    rw [this]
    rfl
theorem amu (k : aa) (a : Nat) : (Pc k (a : Int)).toNat = k.nat / 2 ^ a % 16 := by
  rw [ahp, show (a : Int) + 1 = ((a + 1 : Nat) : Int) by omega, show (a : Int) + 2 = ((a + 2 : Nat) : Int) by omega, show (a : Int) + 3 = ((a + 3 : Nat) : Int) by omega]
  rw [vQ, vQ, vQ, vQ]
  have e1 : k.nat / 2 ^ (a + 1) = k.nat / 2 ^ a / 2 := by rw [Nat.pow_succ, Nat.div_div_eq_div_mul]
  have e2 : k.nat / 2 ^ (a + 2) = k.nat / 2 ^ a / 2 / 2 := by rw [show a + 2 = (a + 1) + 1 by omega, Nat.pow_succ, ← Nat.div_div_eq_div_mul, e1]
  have e3 : k.nat / 2 ^ (a + 3) = k.nat / 2 ^ a / 2 / 2 / 2 := by rw [show a + 3 = (a + 2) + 1 by omega, Nat.pow_succ, ← Nat.div_div_eq_div_mul, e2]
  rw [e1, e2, e3]
  omega
theorem an2 (l : List Tm) (a : Nat) : sm 16 (uf (vG hs (a + 4) l)) + uf (dG hs (a : Int) l) = uf (vG hs a l) := by
  induction l with
  | nil => exact (DZ _).trans (app 16)
  | cons t l ih =>
    show sm 16 (sm (t.1.nat / 2 ^ (a + 4)) (gp (bo hs) t.2) + uf (vG hs (a + 4) l)) + (sm (Pc t.1 (a : Int)).toNat (gp (bo hs) t.2) + uf (dG hs (a : Int) l)) = sm (t.1.nat / 2 ^ a) (gp (bo hs) t.2) + uf (vG hs a l)
    rw [← ih, ar8, ← akF, amu]
    have e : t.1.nat / 2 ^ a = 16 * (t.1.nat / 2 ^ (a + 4)) + t.1.nat / 2 ^ a % 16 := by
      rw [Nat.pow_add, ← Nat.div_div_eq_div_mul]
      have : 2 ^ 4 = 16 := rfl
      rw [this]
      omega
    have e2 : sm (t.1.nat / 2 ^ a) (gp (bo hs) t.2) = sm (16 * (t.1.nat / 2 ^ (a + 4))) (gp (bo hs) t.2) + sm (t.1.nat / 2 ^ a % 16) (gp (bo hs) t.2) := by
      rw [← aeb, ← e]
    rw [e2]
    ac_rfl
theorem an1 (l : List Tm) : uf (vG hs 0 l) = uf (tG hs l) := by
  unfold vG tG
  congr 1
  apply List.map_congr_left
  intro t _
  rw [Nat.pow_zero, Nat.div_one]
theorem amv {O : Pt} (h : onB s O = true) : onB s (as9 s O) = true ∧ gp (bo hs) (as9 s O) = sm 16 (gp (bo hs) O) := by
  have step : ∀ {P : Pt} {n : Nat}, onB s P = true ∧ gp (bo hs) P = sm n (gp (bo hs) O) → onB s (eG s P P) = true ∧ gp (bo hs) (eG s P P) = sm (n + n) (gp (bo hs) O) := fun ⟨o, e⟩ =>
    ⟨(nw o o).2, by rw [HY hs o o, e, ← aeb]⟩
  exact step (step (step (step (n := 1) ⟨h, (ana _).symm⟩)))
theorem arl {l : List Tm} {i n k : Nat} (h : ml l (i : Int) n k < 0) : ∀ j, k ≤ j → j < k + n → nZ (l.getD j fN).1 (i : Int) = false := by
  induction n generalizing k with
  | zero => intro j h1 h2; omega
  | succ n ih =>
    intro j h1 h2
    unfold ml at h
    cases hb : nZ (l.getD k fN).1 (i : Int)
    · rw [hb] at h
      by_cases e : j = k
      · rw [e]; exact hb
      · exact ih h j (by omega) (by omega)
    · rw [hb] at h
      have h : (k : Int) < 0 := h
      omega
theorem Mc (l : List Tm) : ∀ n, (∀ j, j < l.length → (l.getD j fN).1.nat < 2 ^ n) → ∀ j, j < l.length → (l.getD j fN).1.nat < 2 ^ ack l n
  | 0, h => h
  | n + 1, h => by
    unfold ack
    cases ha : arH l (n : Int)
    · simp only [cond_false]
      refine Mc l n fun j hj => ?_
      have hf : ml l (n : Int) l.length 0 < 0 := by
        have : ¬ (0 : Int) ≤ ik l (n : Int) := of_decide_eq_false ha
        have : ¬ (0 : Int) ≤ ml l (n : Int) l.length 0 := this
        omega
      have hb := arl hf j (by omega) (by omega)
      have h2 := vQ (l.getD j fN).1 n
      rw [hb] at h2
      have h3 : (l.getD j fN).1.nat / 2 ^ n % 2 = 0 := by
        have h2 : ((0 : Nat) : Int) = (((l.getD j fN).1.nat / 2 ^ n % 2 : Nat) : Int) := h2
        exact (Int.ofNat_inj.1 h2).symm
      have h4 := h j hj
      rw [Nat.pow_succ] at h4
      have h5 : (l.getD j fN).1.nat / 2 ^ n < 2 := Nat.div_lt_of_lt_mul h4
      have h6 : (l.getD j fN).1.nat / 2 ^ n = 0 := by
        generalize (l.getD j fN).1.nat / 2 ^ n = q at h3 h5
        omega
      rcases Nat.div_eq_zero_iff.1 h6 with h7 | h7
      · have := Nat.two_pow_pos n; omega
      · exact h7
    · exact h
theorem arO (l : List Tm) {a : Nat} (h : Qx l ≤ a) : uf (vG hs a l) = 0 := by
  have hall := Mc l 256 fun j _ => gD _
  have hz : ∀ t ∈ l, t.1.nat / 2 ^ a = 0 := fun t ht => by
    obtain ⟨j, hj, rfl⟩ := List.getElem_of_mem ht
    have := hall j hj
    rw [DY hj] at this
    exact Nat.div_eq_of_lt (Nat.lt_of_lt_of_le this (Nat.pow_le_pow_right (by decide) h))
  clear hall h
  induction l with
  | nil => rfl
  | cons t l ih =>
    show sm (t.1.nat / 2 ^ a) (gp (bo hs) t.2) + uf (vG hs a l) = 0
    rw [hz t (List.mem_cons_self ..), aea, ih fun u hu => hz u (List.mem_cons_of_mem _ hu), DZ]
theorem Uy {l : List Tm} (ha : cF s l = true) : ∀ n, n ≤ nK l + 1 → onB s (upto (li s l (nK l)) aD n) = true ∧ gp (bo hs) (upto (li s l (nK l)) aD n) = uf (vG hs (4 * (nK l + 1 - n)) l)
  | 0, _ => by
    refine ⟨vw hs, (OH hs).trans (arO hs l ?_).symm⟩
    unfold nK
    omega
  | n + 1, h => by
    obtain ⟨h1, h2⟩ := Uy ha n (by omega)
    show onB s (li s l (nK l) n (upto (li s l (nK l)) aD n)) = true ∧ gp (bo hs) (li s l (nK l) n (upto (li s l (nK l)) aD n)) = _
    generalize upto (li s l (nK l)) aD n = O at *
    unfold li
    have e : 4 * (nK l : Int) - 4 * (n : Int) = ((4 * (nK l + 1 - (n + 1)) : Nat) : Int) := by omega
    rw [e]
    obtain ⟨d1, d2⟩ := amv hs h1
    obtain ⟨b1, b2⟩ := amL hs ha ((4 * (nK l + 1 - (n + 1)) : Nat) : Int)
    refine ⟨(nw d1 b1).2, ?_⟩
    rw [HY hs d1 b1, d2, b2, h2, ← an2 hs l (4 * (nK l + 1 - (n + 1))), show 4 * (nK l + 1 - n) = 4 * (nK l + 1 - (n + 1)) + 4 by omega]
theorem QI {l : List Tm} (ha : cF s l = true) : onB s (Gd s l) = true ∧ gp (bo hs) (Gd s l) = uf (tG hs l) := by
  unfold Gd
  cases atC l
  · obtain ⟨h1, h2⟩ := Uy hs ha (nK l + 1) (Nat.le_refl _)
    rw [Nat.sub_self, Nat.mul_zero, an1] at h2
    exact ⟨h1, h2⟩
  · exact GO hs ha
end
end Go.Proofs.YtohjofabochgfaaGreat

namespace Go.Proofs.YtohjofabochgfaaGreat
open Sx Go
section
variable {s : Int} (hs : ak s = true)
theorem akH (k : aa) (x : Gs hs) : sm (Bf s k).nat x = sm k.nat x := by
  rw [Ms hs, show (ofP (pS (yJ s 1)) k).nat = k.nat % pS (yJ s 1) from cH (fx (js hs)), ar7 hs]
theorem aij (l : List Tm) : cF s (Bw s l) = cF s l := by
  unfold cF Bw
  rw [List.all_map]
  rfl
theorem ar6 (l : List Tm) : uf (tG hs (Bw s l)) = uf (tG hs l) := by
  induction l with
  | nil => rfl
  | cons t l ih =>
    show sm (Bf s t.1).nat (gp (bo hs) t.2) + uf (tG hs (Bw s l)) = sm t.1.nat (gp (bo hs) t.2) + uf (tG hs l)
    rw [ih, akH hs]
theorem aet {l : List Tm} (ha : cF s l = true) : onB s (Gd s (Bw s l)) = true ∧ gp (bo hs) (Gd s (Bw s l)) = uf (tG hs l) := by
  obtain ⟨h1, h2⟩ := QI hs (l := Bw s l) (by rw [aij]; exact ha)
  exact ⟨h1, h2.trans (ar6 hs l)⟩
end
end Go.Proofs.YtohjofabochgfaaGreat

namespace Go.Proofs.YtohjofabochgfaaGreat
open Sx Go
theorem Zv (s : Int) (l : List Tm) : Cn s l = jg s l := by
  have e : MA s l = dl s l := by
    funext k O
    unfold MA dl
    rw [← add_same, ← XD]
  unfold Cn jg
  rw [e]
theorem aiE {s : Int} (hs : ak s = true) {l : List Tm} (ha : cF s l = true) (hl : l.length ≤ 100000) : Gd s l = oq s l := by
  have e : oq s l = Cn s l := by
    unfold oq
    rw [hs, ha, decide_eq_true hl]
    rfl
  obtain ⟨a1, a2⟩ := QI hs ha
  obtain ⟨b1, b2⟩ := GO hs ha
  rw [e, Zv]
  exact anx hs a1 b1 (a2.trans b2.symm)
theorem apw {s : Int} (hs : ak s = true) {l : List Tm} (ha : cF s l = true) (hl : l.length ≤ 100000) : Gd s (Bw s l) = oq s l := by
  rw [← aiE hs ha hl]
  obtain ⟨a1, a2⟩ := aet hs ha
  obtain ⟨b1, b2⟩ := QI hs ha
  exact anx hs a1 b1 (a2.trans b2.symm)
end Go.Proofs.YtohjofabochgfaaGreat

namespace Go.Proofs.YtohjofabochgfaaGreat
open Sx Go
set_option maxRecDepth 100000
def cK : av := ⟨[.val true alI, .val false (.list .elem), .val true .elem], [], true, 0, false⟩
abbrev me : Type := (((Int × (Int × (List ((aa × (aa × Bool))) × ((aa × (aa × Bool)) × (aa × (aa × Bool))))))) × (List (aa)) × (aa) × Unit) × (Unit)
def cN : az := ⟨[.val false .bool], [], false⟩
def Ak : SV → Option az := fun _ => some cN
def ri (a0 : (Int × (Int × (List ((aa × (aa × Bool))) × ((aa × (aa × Bool)) × (aa × (aa × Bool))))))) (a1 : List (aa)) (a2 : aa) : OT cK.Y :=
  let z0 : (Int × Int × List (aa × aa × Bool) × (aa × aa × Bool) × aa × aa × Bool) × List aa × aa × PUnit := (a0, a1, a2, ())
  let z1 : (aa × aa × Bool) × Int := amA a0 a1 a2
  let z2 := z1.fst
  let z3 := z2.fst
  let z4 : (aa × aa × Bool) × Int := amz a0 a1 a2
  let z5 := z4.fst
  let z6 := z5.fst
  let z7 := z2.snd
  let z8 := z7.fst
  let z9 := z5.snd
  let z10 := z9.fst
  (.br (decide ((100 : Int) < (↑(List.length a0.snd.snd.fst) : Int)))
  (.ok ⟨cN, ((true, ()), ())⟩)
  (.br (decide ((100 : Int) < (↑(List.length a1) : Int)))
    (.ok ⟨cN, ((true, ()), ())⟩)
    (.br (a0.fst == (2 : Int))
      (.ok ⟨cN, ((true, ()), ())⟩)
      (.br (a0.fst == (3 : Int))
        (.ok ⟨cN, ((true, ()), ())⟩)
        (gd [yj ((a0, ()), ()), xi ((a1, ()), ()), s5 (z0, ()), sI (z0, ())] (.br (z3.w0 == z6.w0 && (z3.w1 == z6.w1 && (z3.w2 == z6.w2 && (z3.w3 == z6.w3 && true))) && (z8.w0 == z10.w0 && (z8.w1 == z10.w1 && (z8.w2 == z10.w2 && (z8.w3 == z10.w3 && true))) && (z7.snd == z9.snd && true)))
          (.br (z1.snd == z4.snd)
            (gd [yd ((a0, a0, ()), ())] (.br (QR a0 a0)
              (gd [xg ((a1, a1, ()), ())] (.ok ⟨cN, ((decide (a1 = a1), ()), ())⟩))
              (.ok ⟨cN, ((false, ()), ())⟩)))
            (.ok ⟨cN, ((false, ()), ())⟩))
          (.ok ⟨cN, ((false, ()), ())⟩)))))))
theorem aaQ (x : me) (Q : cK.Y → Prop) : wpf te v7 ay 1000 Tryz.f7 (cK.inp.inj x).tm (cK.inp.inj x).hp (fnK cK Ak Q) (fun _ _ => False) = (ri (x.1.1) (x.1.2.1) (x.1.2.2.1)).wpR Q := by kernel_rfl
theorem Kx (pre : me → Bool) (F : me → OT cK.Y) (hF : ∀ (x : me) oy, pre x = true → (F x).run = some oy → (ri (x.1.1) (x.1.2.1) (x.1.2.2.1)).run = some oy) : ac Tryz.prog 7 (cK.aH pre F) :=
  aC au Aw LB (f := 7) (fn := Tryz.f7) (c := ao Tryz.f7) (by kernel_rfl) (by kernel_rfl) (by kernel_rfl) (S := cK) (k := 0) (by kernel_rfl) (fun R hR => af) (n := 1000) (sel := Ak) (fun v o h => by cases h; rfl) (pre := pre) (F := F) (T := fun x => ri (x.1.1) (x.1.2.1) (x.1.2.2.1)) (fun x Q => aaQ x Q) hF
theorem atd {p : aiz} (h : (dS p == 0) = true) (l : List aa) (b : aa) (hl : l.length ≤ p.2.2.1.length) : ak p.1 = true ∧ cF p.1 (abG p l b) = true := by
  have hG : p.2.2.1.any (kB p.1) = false ∧ kB p.1 p.2.2.2.1 = false ∧ ak p.1 = true := by
    unfold dS at h
    cases h1 : ak p.1
    · rw [h1] at h; cases h
    · rw [h1] at h
      by_cases h2 : p.2.1 < 0
      · rw [decide_eq_true h2] at h; cases h
      · rw [decide_eq_false h2] at h
        by_cases h3 : 5 < p.2.1
        · rw [decide_eq_true h3] at h; cases h
        · rw [decide_eq_false h3] at h
          cases h4 : (p.2.2.1.length : Int) == Oq 1 p.2.1
          · rw [h4] at h; cases h
          · rw [h4] at h
            cases h5 : p.2.2.1.any (kB p.1)
            · rw [h5] at h
              cases h6 : kB p.1 p.2.2.2.1
              · exact ⟨rfl, rfl, rfl⟩
              · rw [h6] at h; cases h
            · rw [h5] at h; cases h
  obtain ⟨hG, hW, hs⟩ := hG
  have bad : ∀ {P : Pt}, kB p.1 P = false → onB p.1 P = true := fun {P} hb => by
    unfold kB at hb
    cases ho : onB p.1 P
    · rw [ho] at hb; cases h2 : P.2.2 <;> rw [h2] at hb <;> cases hb
    · rfl
  refine ⟨hs, ?_⟩
  have go : ∀ n, n ≤ l.length → cF p.1 (upto (K5 p.2.2.1 l) [(b, p.2.2.2.1)] n) = true := by
    intro n
    induction n with
    | zero =>
      intro _
      show cF p.1 [(b, p.2.2.2.1)] = true
      unfold cF
      rw [List.all_cons, bad hW]
      rfl
    | succ n ih =>
      intro hn
      show cF p.1 (upto (K5 p.2.2.1 l) [(b, p.2.2.2.1)] n ++ [_]) = true
      have h1 := ih (by omega)
      unfold cF at h1 ⊢
      have hk : n < p.2.2.1.length := by omega
      have e3 : p.2.2.1.getD n r9 = p.2.2.1[n] := by rw [List.getD_eq_getElem?_getD, List.getElem?_eq_getElem hk]; rfl
      have hb : kB p.1 p.2.2.1[n] = false := by
        have := List.any_eq_false.1 hG _ (List.getElem_mem hk)
        simpa using this
      rw [List.all_append, h1, List.all_cons, e3, bad hb]
      rfl
  exact go _ (Nat.le_refl _)
theorem YH (p : aiz) (l : List aa) (b : aa) : amA p l b = amz p l b := by
  unfold amA amz
  rcases (Bool.eq_false_or_eq_true (!(dS p == 0))).symm with h1 | h1
  · rw [h1]
    by_cases h2 : (p.2.2.1.length : Int) < (l.length : Int)
    · rw [decide_eq_true h2]
      rfl
    · rw [decide_eq_false h2]
      have h0 : (dS p == 0) = true := by
        cases hq : dS p == 0
        · rw [hq] at h1; cases h1
        · rfl
      obtain ⟨hs, ha⟩ := atd h0 l b (by omega)
      have hG := EM h0
      have hn : (abG p l b).length ≤ 100000 := by
        unfold abG
        rw [Io]
        omega
      rw [hs, ha, decide_eq_true hn, apw hs ha hn]
      rfl
  · rw [h1]
    rfl
def o9 (_ : me) : Bool := true
def HW (_ : me) : OT cK.Y := .ok ⟨cN, ((true, ()), ())⟩
theorem SL : ac Tryz.prog 7 (cK.aH o9 HW) := Kx _ _ fun x oy hp ho => by
  rw [← ho]
  clear ho
  obtain ⟨⟨p, l, b, ⟨⟩⟩, ⟨⟩⟩ := x
  show (ri p l b).run = some (⟨cN, ((true, ()), ())⟩ : cK.Y)
  by_cases h : (100 : Int) < (p.2.2.1.length : Int)
  · exact (OT.ap (decide_eq_true h)).trans rfl
  · refine (OT.aw (decide_eq_false h)).trans ?_
    by_cases h2 : (100 : Int) < (l.length : Int)
    · exact (OT.ap (decide_eq_true h2)).trans rfl
    · refine (OT.aw (decide_eq_false h2)).trans ?_
      rcases (Bool.eq_false_or_eq_true (p.1 == 2)).symm with h3 | h3
      · refine (OT.aw h3).trans ?_
        rcases (Bool.eq_false_or_eq_true (p.1 == 3)).symm with h4 | h4
        · refine (OT.aw h4).trans ((al ?_).trans ((OT.ap (b := amq (amA p l b).1 (amz p l b).1) (vF.2 (by rw [YH]))).trans ((OT.ap (beq_iff_eq.2 (by rw [YH]))).trans ((al ?_).trans ?_))))
          · simp only [List.all_cons, List.all_nil, Bool.and_true, Bool.and_eq_true]
            exact ⟨decide_eq_true (show p.2.2.1.length * 72 ≤ _ by omega), decide_eq_true (show l.length * 32 ≤ _ by omega), decide_eq_true (show p.2.2.1.length ≤ _ by omega), decide_eq_true (show p.2.2.1.length ≤ _ by omega)⟩
          · simp only [List.all_cons, List.all_nil, Bool.and_true]
            exact decide_eq_true (show p.2.2.1.length ≤ _ by omega)
          · refine (OT.ap (b := QR p p) (Zq p)).trans ((al ?_).trans ?_)
            · simp only [List.all_cons, List.all_nil, Bool.and_true]
              exact decide_eq_true (show l.length ≤ _ by omega)
            · exact congrArg (fun b : Bool => some (⟨cN, ((b, ()), ())⟩ : cK.Y)) (decide_eq_true rfl)
        · exact (OT.ap h4).trans rfl
      · exact (OT.ap h3).trans rfl
def Kw : cG := (cK.aH o9 HW)
theorem Gr : ac Tryz.prog 7 Kw := SL
end Go.Proofs.YtohjofabochgfaaGreat
