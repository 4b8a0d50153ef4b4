/- A symbolic machine for Go code over plain data, and functions of the program as it shows them. No statement is proved in this file. -/
import Derived.KernelRfl
import Derived.Test.YtkedomfjjahjnaaXe
set_option linter.unusedSimpArgs false
set_option linter.unusedVariables false
set_option linter.unusedSectionVars false

namespace Go.Proofs.Ytkedomfjjahjnaa
open Sx Go
set_option maxRecDepth 100000
def dL : aq := ⟨[.val false .int, .val false (.list gR), .val false .int], [], true, 0, false⟩
abbrev lZ : Type := ((Int) × (List ((aa × (aa × (aa × Bool))))) × (Int) × Unit) × (Unit)
def j6 : Shape := ⟨74, [(0, .val false .int), (1, .val false (.list (.prod .elem (.prod .elem (.prod .elem .bool))))), (2, .val false .int), (6, .ptr 0 0 0), (7, .ptr 1 0 0), (16, .val false .int)], [(0, .cells [.val false .u64, .val false .u64, .val false .u64, .val false .u64, .val false .u64, .val false .u64, .val false .u64, .val false .u64, .val false .bool]), (1, .row (.prod .elem (.prod .elem .bool)))], 0, true⟩
abbrev bj : Type := ((Int) × (List ((aa × (aa × (aa × Bool))))) × (Int) × (Unit) × (Unit) × (Int) × Unit) × (((UInt64) × (UInt64) × (UInt64) × (UInt64) × (UInt64) × (UInt64) × (UInt64) × (UInt64) × (Bool) × Unit) × (List ((aa × (aa × Bool)))) × Unit)
def jh : Shape := ⟨74, [(0, .val false .int), (1, .val false (.list (.prod .elem (.prod .elem (.prod .elem .bool))))), (2, .val false .int), (6, .ptr 0 0 0), (7, .ptr 1 0 0)], [(0, .cells [.val false .u64, .val false .u64, .val false .u64, .val false .u64, .val false .u64, .val false .u64, .val false .u64, .val false .u64, .val false .bool]), (1, .row (.prod .elem (.prod .elem .bool)))], 0, true⟩
abbrev eA : Type := ((Int) × (List ((aa × (aa × (aa × Bool))))) × (Int) × (Unit) × (Unit) × Unit) × (((UInt64) × (UInt64) × (UInt64) × (UInt64) × (UInt64) × (UInt64) × (UInt64) × (UInt64) × (Bool) × Unit) × (List ((aa × (aa × Bool)))) × Unit)
def CN : SE → Option Shape := ku [(0, jh)] none
def Ra (a0 : Int) (a1 : List ((aa × (aa × (aa × Bool))))) (a2 : Int) (a16 : Int) (c0_0 : UInt64) (c0_1 : UInt64) (c0_2 : UInt64) (c0_3 : UInt64) (c0_4 : UInt64) (c0_5 : UInt64) (c0_6 : UInt64) (c0_7 : UInt64) (c0_8 : Bool) (c1 : List ((aa × (aa × Bool)))) : OT (Sum bj aO) :=
  let z0 : aa := { w0 := 0, w1 := 0, w2 := 0, w3 := 0 }
  (.br (decide (a16 < (15 : Int)))
  (gd [inB a16 15, decide (Int.toNat a16 + 0 < List.length c1), inR (a16 + (1 : Int))] (.ok (.inl ((a0, (a1, (a2, ((), ((), (a16 + (1 : Int), ())))))), ((c0_0, (c0_1, (c0_2, (c0_3, (c0_4, (c0_5, (c0_6, (c0_7, (c0_8, ()))))))))), (List.set c1 (Int.toNat a16 + 0) (z0, z0, true), ()))))))
  (.ok (.inr ⟨(.exit 0, jh), ((a0, (a1, (a2, ((), ((), ()))))), ((c0_0, (c0_1, (c0_2, (c0_3, (c0_4, (c0_5, (c0_6, (c0_7, (c0_8, ()))))))))), (c1, ())))⟩)))
def j9 (s : bj) : OT (Sum bj aO) := Ra (s.1.1) (s.1.2.1) (s.1.2.2.1) (s.1.2.2.2.2.2.1) (s.2.1.1) (s.2.1.2.1) (s.2.1.2.2.1) (s.2.1.2.2.2.1) (s.2.1.2.2.2.2.1) (s.2.1.2.2.2.2.2.1) (s.2.1.2.2.2.2.2.2.1) (s.2.1.2.2.2.2.2.2.2.1) (s.2.1.2.2.2.2.2.2.2.2.1) (s.2.2.1)
theorem Q2 (s : bj) (Q : Sum bj aO → Prop) : wps te vP ax 1000 (bG (ak Try.f96) 0) (j6.inj s) (cU j6 CN (Q : Sum j6.T aO → Prop)) = (j9 s).wpR Q := by kernel_rfl
def nk (g0_0 : bj → eA) (s : bj) : OT aO := (.ok ⟨(.exit 0, jh), g0_0 s⟩)
def j5 : Shape := ⟨74, [(0, .val false .int), (2, .val false .int), (6, .ptr 0 0 0), (7, .ptr 1 0 0), (23, .val false (.list (.prod .elem (.prod .elem (.prod .elem .bool))))), (24, .val false .int), (25, .val false .int)], [(0, .cells [.val false .u64, .val false .u64, .val false .u64, .val false .u64, .val false .u64, .val false .u64, .val false .u64, .val false .u64, .val false .bool]), (1, .row (.prod .elem (.prod .elem .bool)))], 0, true⟩
abbrev bi : Type := ((Int) × (Int) × (Unit) × (Unit) × (List ((aa × (aa × (aa × Bool))))) × (Int) × (Int) × Unit) × (((UInt64) × (UInt64) × (UInt64) × (UInt64) × (UInt64) × (UInt64) × (UInt64) × (UInt64) × (Bool) × Unit) × (List ((aa × (aa × Bool)))) × Unit)
def j4 : Shape := ⟨74, [(0, .val false .int), (2, .val false .int), (6, .ptr 0 0 0), (7, .ptr 1 0 0), (10, .ptr 2 0 0), (11, .val false .int), (23, .val false (.list (.prod .elem (.prod .elem (.prod .elem .bool))))), (24, .val false .int), (25, .val false .int), (29, .val false .int)], [(0, .cells [.val false .u64, .val false .u64, .val false .u64, .val false .u64, .val false .u64, .val false .u64, .val false .u64, .val false .u64, .val false .bool]), (1, .row (.prod .elem (.prod .elem .bool))), (2, .cells [.val false .u64, .val false .u64, .val false .u64, .val false .u64, .val false .u64, .val false .u64, .val false .u64, .val false .u64, .val false .u64, .val false .u64, .val false .u64, .val false .u64, .val false .bool])], 0, true⟩
abbrev aL : Type := ((Int) × (Int) × (Unit) × (Unit) × (Unit) × (Int) × (List ((aa × (aa × (aa × Bool))))) × (Int) × (Int) × (Int) × Unit) × (((UInt64) × (UInt64) × (UInt64) × (UInt64) × (UInt64) × (UInt64) × (UInt64) × (UInt64) × (Bool) × Unit) × (List ((aa × (aa × Bool)))) × ((UInt64) × (UInt64) × (UInt64) × (UInt64) × (UInt64) × (UInt64) × (UInt64) × (UInt64) × (UInt64) × (UInt64) × (UInt64) × (UInt64) × (Bool) × Unit) × Unit)
def jf : Shape := ⟨74, [(0, .val false .int), (2, .val false .int), (6, .ptr 0 0 0), (7, .ptr 1 0 0), (10, .ptr 2 0 0), (11, .val false .int), (23, .val false (.list (.prod .elem (.prod .elem (.prod .elem .bool))))), (24, .val false .int), (25, .val false .int)], [(0, .cells [.val false .u64, .val false .u64, .val false .u64, .val false .u64, .val false .u64, .val false .u64, .val false .u64, .val false .u64, .val false .bool]), (1, .row (.prod .elem (.prod .elem .bool))), (2, .cells [.val false .u64, .val false .u64, .val false .u64, .val false .u64, .val false .u64, .val false .u64, .val false .u64, .val false .u64, .val false .u64, .val false .u64, .val false .u64, .val false .u64, .val false .bool])], 0, true⟩
abbrev cn : Type := ((Int) × (Int) × (Unit) × (Unit) × (Unit) × (Int) × (List ((aa × (aa × (aa × Bool))))) × (Int) × (Int) × Unit) × (((UInt64) × (UInt64) × (UInt64) × (UInt64) × (UInt64) × (UInt64) × (UInt64) × (UInt64) × (Bool) × Unit) × (List ((aa × (aa × Bool)))) × ((UInt64) × (UInt64) × (UInt64) × (UInt64) × (UInt64) × (UInt64) × (UInt64) × (UInt64) × (UInt64) × (UInt64) × (UInt64) × (UInt64) × (Bool) × Unit) × Unit)
def CL : SE → Option Shape := ku [(4, jf)] none
def Q9 (a0 : Int) (a2 : Int) (a11 : Int) (a23 : List ((aa × (aa × (aa × Bool))))) (a24 : Int) (a25 : Int) (a29 : Int) (c0_0 : UInt64) (c0_1 : UInt64) (c0_2 : UInt64) (c0_3 : UInt64) (c0_4 : UInt64) (c0_5 : UInt64) (c0_6 : UInt64) (c0_7 : UInt64) (c0_8 : Bool) (c1 : List ((aa × (aa × Bool)))) (c2_0 : UInt64) (c2_1 : UInt64) (c2_2 : UInt64) (c2_3 : UInt64) (c2_4 : UInt64) (c2_5 : UInt64) (c2_6 : UInt64) (c2_7 : UInt64) (c2_8 : UInt64) (c2_9 : UInt64) (c2_10 : UInt64) (c2_11 : UInt64) (c2_12 : Bool) : OT (Sum aL aO) :=
  let z0 : Bool := inR (a29 + (1 : Int))
  (.br (decide (a29 < (4 : Int)))
  (gd [inR (a2 + a29)] (.br (nZ { w0 := c2_0, w1 := c2_1, w2 := c2_2, w3 := c2_3 } (a2 + a29))
    (gd [decide ((0 : Int) ≤ a29), z0] (.ok (.inl ((a0, (a2, ((), ((), ((), (ior a11 (ao6 (1 : Int) a29), (a23, (a24, (a25, (a29 + (1 : Int), ())))))))))), ((c0_0, (c0_1, (c0_2, (c0_3, (c0_4, (c0_5, (c0_6, (c0_7, (c0_8, ()))))))))), (c1, ((c2_0, (c2_1, (c2_2, (c2_3, (c2_4, (c2_5, (c2_6, (c2_7, (c2_8, (c2_9, (c2_10, (c2_11, (c2_12, ()))))))))))))), ())))))))
    (gd [z0] (.ok (.inl ((a0, (a2, ((), ((), ((), (a11, (a23, (a24, (a25, (a29 + (1 : Int), ())))))))))), ((c0_0, (c0_1, (c0_2, (c0_3, (c0_4, (c0_5, (c0_6, (c0_7, (c0_8, ()))))))))), (c1, ((c2_0, (c2_1, (c2_2, (c2_3, (c2_4, (c2_5, (c2_6, (c2_7, (c2_8, (c2_9, (c2_10, (c2_11, (c2_12, ()))))))))))))), ())))))))))
  (.ok (.inr ⟨(.exit 4, jf), ((a0, (a2, ((), ((), ((), (a11, (a23, (a24, (a25, ()))))))))), ((c0_0, (c0_1, (c0_2, (c0_3, (c0_4, (c0_5, (c0_6, (c0_7, (c0_8, ()))))))))), (c1, ((c2_0, (c2_1, (c2_2, (c2_3, (c2_4, (c2_5, (c2_6, (c2_7, (c2_8, (c2_9, (c2_10, (c2_11, (c2_12, ()))))))))))))), ()))))⟩)))
def j8 (s : aL) : OT (Sum aL aO) := Q9 (s.1.1) (s.1.2.1) (s.1.2.2.2.2.2.1) (s.1.2.2.2.2.2.2.1) (s.1.2.2.2.2.2.2.2.1) (s.1.2.2.2.2.2.2.2.2.1) (s.1.2.2.2.2.2.2.2.2.2.1) (s.2.1.1) (s.2.1.2.1) (s.2.1.2.2.1) (s.2.1.2.2.2.1) (s.2.1.2.2.2.2.1) (s.2.1.2.2.2.2.2.1) (s.2.1.2.2.2.2.2.2.1) (s.2.1.2.2.2.2.2.2.2.1) (s.2.1.2.2.2.2.2.2.2.2.1) (s.2.2.1) (s.2.2.2.1.1) (s.2.2.2.1.2.1) (s.2.2.2.1.2.2.1) (s.2.2.2.1.2.2.2.1) (s.2.2.2.1.2.2.2.2.1) (s.2.2.2.1.2.2.2.2.2.1) (s.2.2.2.1.2.2.2.2.2.2.1) (s.2.2.2.1.2.2.2.2.2.2.2.1) (s.2.2.2.1.2.2.2.2.2.2.2.2.1) (s.2.2.2.1.2.2.2.2.2.2.2.2.2.1) (s.2.2.2.1.2.2.2.2.2.2.2.2.2.2.1) (s.2.2.2.1.2.2.2.2.2.2.2.2.2.2.2.1) (s.2.2.2.1.2.2.2.2.2.2.2.2.2.2.2.2.1)
theorem Q0 (s : aL) (Q : Sum aL aO → Prop) : wps te vP ax 1000 (bG (bG (ak Try.f96) 2) 4) (j4.inj s) (cU j4 CL (Q : Sum j4.T aO → Prop)) = (j8 s).wpR Q := by kernel_rfl
def ni (g4_4 : aL → cn) (s : aL) : OT aO := (.ok ⟨(.exit 4, jf), g4_4 s⟩)
def jg : Shape := ⟨74, [(0, .val false .int), (6, .ptr 0 0 0), (7, .ptr 1 0 0)], [(0, .cells [.val false .u64, .val false .u64, .val false .u64, .val false .u64, .val false .u64, .val false .u64, .val false .u64, .val false .u64, .val false .bool]), (1, .row (.prod .elem (.prod .elem .bool)))], 0, true⟩
abbrev ez : Type := ((Int) × (Unit) × (Unit) × Unit) × (((UInt64) × (UInt64) × (UInt64) × (UInt64) × (UInt64) × (UInt64) × (UInt64) × (UInt64) × (Bool) × Unit) × (List ((aa × (aa × Bool)))) × Unit)
def CM : SE → Option Shape := ku [(2, jg)] none
def CR (ok4 : aL → Bool) (g4_4 : aL → cn) (a0 : Int) (a2 : Int) (a23 : List ((aa × (aa × (aa × Bool))))) (a24 : Int) (a25 : Int) (c0_0 : UInt64) (c0_1 : UInt64) (c0_2 : UInt64) (c0_3 : UInt64) (c0_4 : UInt64) (c0_5 : UInt64) (c0_6 : UInt64) (c0_7 : UInt64) (c0_8 : Bool) (c1 : List ((aa × (aa × Bool)))) : OT (Sum bi aO) :=
  let z0 : aa := { w0 := 0, w1 := 0, w2 := 0, w3 := 0 }
  let z1 : aa × aa × Bool := (z0, z0, false)
  let z2 : aa × aa × aa × Bool := List.getD a23 (Int.toNat a25) (z0, z1)
  let z3 := z2.fst
  let z4 := z2.snd
  let z5 := z4.fst
  let z6 := z4.snd
  let z7 := z6.fst
  let z8 : (Int × Int × PUnit × PUnit × PUnit × Int × List (aa × aa × aa × Bool) × Int × Int × Int × PUnit) × (UInt64 × UInt64 × UInt64 × UInt64 × UInt64 × UInt64 × UInt64 × UInt64 × Bool × PUnit) × List (aa × aa × Bool) × (UInt64 × UInt64 × UInt64 × UInt64 × UInt64 × UInt64 × UInt64 × UInt64 × UInt64 × UInt64 × UInt64 × UInt64 × Bool × PUnit) × PUnit := ((a0, a2, (), (), (), (0 : Int), a23, a24, a25, (0 : Int), ()), (c0_0, c0_1, c0_2, c0_3, c0_4, c0_5, c0_6, c0_7, c0_8, ()), c1, (z3.w0, z3.w1, z3.w2, z3.w3, z5.w0, z5.w1, z5.w2, z5.w3, z7.w0, z7.w1, z7.w2, z7.w3, z6.snd, ()), ())
  let z9 : (Int × Int × PUnit × PUnit × PUnit × Int × List (aa × aa × aa × Bool) × Int × Int × PUnit) × (UInt64 × UInt64 × UInt64 × UInt64 × UInt64 × UInt64 × UInt64 × UInt64 × Bool × PUnit) × List (aa × aa × Bool) × (UInt64 × UInt64 × UInt64 × UInt64 × UInt64 × UInt64 × UInt64 × UInt64 × UInt64 × UInt64 × UInt64 × UInt64 × Bool × PUnit) × PUnit := g4_4 z8
  let z10 := z9.fst
  let z11 := z10.snd
  let z12 := z11.snd.snd.snd.snd
  let z13 := z12.fst
  let z14 : Bool := inR (z13 - (1 : Int))
  let z15 : Bool := inB (z13 - (1 : Int)) 15
  let z16 := z9.snd
  let z17 := z16.snd
  let z18 := z17.fst
  let z19 : Bool := decide (Int.toNat (z13 - (1 : Int)) + 0 < List.length z18)
  let z20 := z12.snd
  let z21 := z20.snd
  let z22 : Bool := inR (z21.snd.fst + (1 : Int))
  let z23 := z10.fst
  let z24 := z11.fst
  let z25 := z20.fst
  let z26 := z21.fst
  let z27 := z16.fst
  let z28 := z27.fst
  let z29 := z27.snd
  let z30 := z29.fst
  let z31 := z29.snd
  let z32 := z31.fst
  let z33 := z31.snd
  let z34 := z33.fst
  let z35 := z33.snd
  let z36 := z35.fst
  let z37 := z35.snd
  let z38 := z37.fst
  let z39 := z37.snd
  let z40 := z39.fst
  let z41 := z39.snd
  let z42 := z41.fst
  let z43 := z41.snd.fst
  let z44 := z17.snd.fst.snd.snd.snd.snd
  let z45 := z44.snd
  let z46 := z45.snd
  let z47 := z46.snd
  let z48 := z47.snd
  let z49 := z48.snd
  let z50 := z49.snd
  let z51 := z50.snd
  (.br (decide (a25 < a24))
  (gd [inB a25 (List.length a23), ok4 z8] (.br (decide ((0 : Int) < z13))
    (gd [z14, z14, z15, z19, z15, z19, z22] (.ok (.inl ((z23, (z24, ((), ((), (z25, (z26, (z21.snd.fst + (1 : Int), ()))))))), ((z28, (z30, (z32, (z34, (z36, (z38, (z40, (z42, (z43, ()))))))))), (List.set z18 (Int.toNat (z13 - (1 : Int)) + 0) (eD z23 (List.getD z18 (Int.toNat (z13 - (1 : Int)) + 0) z1) ({ w0 := z44.fst, w1 := z45.fst, w2 := z46.fst, w3 := z47.fst }, { w0 := z48.fst, w1 := z49.fst, w2 := z50.fst, w3 := z51.fst }, z51.snd.fst)), ()))))))
    (gd [z22] (.ok (.inl ((z23, (z24, ((), ((), (z25, (z26, (z21.snd.fst + (1 : Int), ()))))))), ((z28, (z30, (z32, (z34, (z36, (z38, (z40, (z42, (z43, ()))))))))), (z18, ()))))))))
  (.ok (.inr ⟨(.exit 2, jg), ((a0, ((), ((), ()))), ((c0_0, (c0_1, (c0_2, (c0_3, (c0_4, (c0_5, (c0_6, (c0_7, (c0_8, ()))))))))), (c1, ())))⟩)))
def fH (ok4 : aL → Bool) (g4_4 : aL → cn) (s : bi) : OT (Sum bi aO) := CR ok4 g4_4 (s.1.1) (s.1.2.1) (s.1.2.2.2.2.1) (s.1.2.2.2.2.2.1) (s.1.2.2.2.2.2.2.1) (s.2.1.1) (s.2.1.2.1) (s.2.1.2.2.1) (s.2.1.2.2.2.1) (s.2.1.2.2.2.2.1) (s.2.1.2.2.2.2.2.1) (s.2.1.2.2.2.2.2.2.1) (s.2.1.2.2.2.2.2.2.2.1) (s.2.1.2.2.2.2.2.2.2.2.1) (s.2.2.1)
theorem Q1 (ok4 : aL → Bool) (g4_4 : aL → cn) (s : bi) (Q : Sum bi aO → Prop) : wps te vP (bp 4 (dv j4 4 ok4 (ni g4_4)) ax) 1000 (bG (ak Try.f96) 2) (j5.inj s) (cU j5 CM (Q : Sum j5.T aO → Prop)) = (fH ok4 g4_4 s).wpR Q := by kernel_rfl
def nj (g2_2 : bi → ez) (s : bi) : OT aO := (.ok ⟨(.exit 2, jg), g2_2 s⟩)
def j3 : Shape := ⟨74, [(0, .val false .int), (6, .ptr 0 0 0), (7, .ptr 1 0 0), (13, .ptr 2 0 0), (14, .ptr 3 0 0), (15, .val false .int)], [(0, .cells [.val false .u64, .val false .u64, .val false .u64, .val false .u64, .val false .u64, .val false .u64, .val false .u64, .val false .u64, .val false .bool]), (1, .row (.prod .elem (.prod .elem .bool))), (2, .cells [.val false .u64, .val false .u64, .val false .u64, .val false .u64, .val false .u64, .val false .u64, .val false .u64, .val false .u64, .val false .bool]), (3, .cells [.val false .u64, .val false .u64, .val false .u64, .val false .u64, .val false .u64, .val false .u64, .val false .u64, .val false .u64, .val false .bool])], 0, true⟩
abbrev bh : Type := ((Int) × (Unit) × (Unit) × (Unit) × (Unit) × (Int) × Unit) × (((UInt64) × (UInt64) × (UInt64) × (UInt64) × (UInt64) × (UInt64) × (UInt64) × (UInt64) × (Bool) × Unit) × (List ((aa × (aa × Bool)))) × ((UInt64) × (UInt64) × (UInt64) × (UInt64) × (UInt64) × (UInt64) × (UInt64) × (UInt64) × (Bool) × Unit) × ((UInt64) × (UInt64) × (UInt64) × (UInt64) × (UInt64) × (UInt64) × (UInt64) × (UInt64) × (Bool) × Unit) × Unit)
def je : Shape := ⟨74, [(6, .ptr 0 0 0), (14, .ptr 1 0 0)], [(0, .cells [.val false .u64, .val false .u64, .val false .u64, .val false .u64, .val false .u64, .val false .u64, .val false .u64, .val false .u64, .val false .bool]), (1, .cells [.val false .u64, .val false .u64, .val false .u64, .val false .u64, .val false .u64, .val false .u64, .val false .u64, .val false .u64, .val false .bool])], 0, true⟩
abbrev eu : Type := ((Unit) × (Unit) × Unit) × (((UInt64) × (UInt64) × (UInt64) × (UInt64) × (UInt64) × (UInt64) × (UInt64) × (UInt64) × (Bool) × Unit) × ((UInt64) × (UInt64) × (UInt64) × (UInt64) × (UInt64) × (UInt64) × (UInt64) × (UInt64) × (Bool) × Unit) × Unit)
def CK : SE → Option Shape := ku [(6, je)] none
def Q8 (a0 : Int) (a15 : Int) (c0_0 : UInt64) (c0_1 : UInt64) (c0_2 : UInt64) (c0_3 : UInt64) (c0_4 : UInt64) (c0_5 : UInt64) (c0_6 : UInt64) (c0_7 : UInt64) (c0_8 : Bool) (c1 : List ((aa × (aa × Bool)))) (c2_0 : UInt64) (c2_1 : UInt64) (c2_2 : UInt64) (c2_3 : UInt64) (c2_4 : UInt64) (c2_5 : UInt64) (c2_6 : UInt64) (c2_7 : UInt64) (c2_8 : Bool) (c3_0 : UInt64) (c3_1 : UInt64) (c3_2 : UInt64) (c3_3 : UInt64) (c3_4 : UInt64) (c3_5 : UInt64) (c3_6 : UInt64) (c3_7 : UInt64) (c3_8 : Bool) : OT (Sum bh aO) :=
  let z0 : aa := { w0 := 0, w1 := 0, w2 := 0, w3 := 0 }
  let z1 : aa × aa × Bool := eD a0 ({ w0 := c2_0, w1 := c2_1, w2 := c2_2, w3 := c2_3 }, { w0 := c2_4, w1 := c2_5, w2 := c2_6, w3 := c2_7 }, c2_8) (List.getD c1 (Int.toNat a15 + 0) (z0, z0, false))
  let z2 := z1.fst
  let z3 := z1.snd
  let z4 := z3.fst
  let z5 : aa × aa × Bool := eD a0 ({ w0 := c3_0, w1 := c3_1, w2 := c3_2, w3 := c3_3 }, { w0 := c3_4, w1 := c3_5, w2 := c3_6, w3 := c3_7 }, c3_8) z1
  let z6 := z5.fst
  let z7 := z5.snd
  let z8 := z7.fst
  (.br (decide ((0 : Int) ≤ a15))
  (gd [inB a15 15, decide (Int.toNat a15 + 0 < List.length c1), inR (a15 - (1 : Int))] (.ok (.inl ((a0, ((), ((), ((), ((), (a15 - (1 : Int), ())))))), ((c0_0, (c0_1, (c0_2, (c0_3, (c0_4, (c0_5, (c0_6, (c0_7, (c0_8, ()))))))))), (c1, ((z2.w0, (z2.w1, (z2.w2, (z2.w3, (z4.w0, (z4.w1, (z4.w2, (z4.w3, (z3.snd, ()))))))))), ((z6.w0, (z6.w1, (z6.w2, (z6.w3, (z8.w0, (z8.w1, (z8.w2, (z8.w3, (z7.snd, ()))))))))), ()))))))))
  (.ok (.inr ⟨(.exit 6, je), (((), ((), ())), ((c0_0, (c0_1, (c0_2, (c0_3, (c0_4, (c0_5, (c0_6, (c0_7, (c0_8, ()))))))))), ((c3_0, (c3_1, (c3_2, (c3_3, (c3_4, (c3_5, (c3_6, (c3_7, (c3_8, ()))))))))), ())))⟩)))
def j7 (s : bh) : OT (Sum bh aO) := Q8 (s.1.1) (s.1.2.2.2.2.2.1) (s.2.1.1) (s.2.1.2.1) (s.2.1.2.2.1) (s.2.1.2.2.2.1) (s.2.1.2.2.2.2.1) (s.2.1.2.2.2.2.2.1) (s.2.1.2.2.2.2.2.2.1) (s.2.1.2.2.2.2.2.2.2.1) (s.2.1.2.2.2.2.2.2.2.2.1) (s.2.2.1) (s.2.2.2.1.1) (s.2.2.2.1.2.1) (s.2.2.2.1.2.2.1) (s.2.2.2.1.2.2.2.1) (s.2.2.2.1.2.2.2.2.1) (s.2.2.2.1.2.2.2.2.2.1) (s.2.2.2.1.2.2.2.2.2.2.1) (s.2.2.2.1.2.2.2.2.2.2.2.1) (s.2.2.2.1.2.2.2.2.2.2.2.2.1) (s.2.2.2.2.1.1) (s.2.2.2.2.1.2.1) (s.2.2.2.2.1.2.2.1) (s.2.2.2.2.1.2.2.2.1) (s.2.2.2.2.1.2.2.2.2.1) (s.2.2.2.2.1.2.2.2.2.2.1) (s.2.2.2.2.1.2.2.2.2.2.2.1) (s.2.2.2.2.1.2.2.2.2.2.2.2.1) (s.2.2.2.2.1.2.2.2.2.2.2.2.2.1)
theorem QZ (s : bh) (Q : Sum bh aO → Prop) : wps te vP ax 1000 (bG (ak Try.f96) 6) (j3.inj s) (cU j3 CK (Q : Sum j3.T aO → Prop)) = (j7 s).wpR Q := by kernel_rfl
def nh (g6_6 : bh → eu) (s : bh) : OT aO := (.ok ⟨(.exit 6, je), g6_6 s⟩)
def nc : ay := ⟨[.val true (.prod .elem (.prod .elem .bool))], [], false⟩
def zw : SV → Option ay := fun _ => some nc
def lY (ok0 : bj → Bool) (g0_0 : bj → eA) (ok4 : aL → Bool) (g4_4 : aL → cn) (ok2 : bi → Bool) (g2_2 : bi → ez) (ok6 : bh → Bool) (g6_6 : bh → eu) (a0 : Int) (a1 : List ((aa × (aa × (aa × Bool))))) (a2 : Int) : OT dL.Y :=
  let z0 : aa := { w0 := 0, w1 := 0, w2 := 0, w3 := 0 }
  let z1 : aa × aa × Bool := (z0, z0, false)
  let z2 : (Int × List (aa × aa × aa × Bool) × Int × PUnit × PUnit × Int × PUnit) × (UInt64 × UInt64 × UInt64 × UInt64 × UInt64 × UInt64 × UInt64 × UInt64 × Bool × PUnit) × List (aa × aa × Bool) × PUnit := ((a0, a1, a2, (), (), (0 : Int), ()), ((0 : UInt64), (0 : UInt64), (0 : UInt64), (0 : UInt64), (0 : UInt64), (0 : UInt64), (0 : UInt64), (0 : UInt64), false, ()), [z1, z1, z1, z1, z1, z1, z1, z1, z1, z1, z1, z1, z1, z1, z1], ())
  let z3 : (Int × List (aa × aa × aa × Bool) × Int × PUnit × PUnit × PUnit) × (UInt64 × UInt64 × UInt64 × UInt64 × UInt64 × UInt64 × UInt64 × UInt64 × Bool × PUnit) × List (aa × aa × Bool) × PUnit := g0_0 z2
  let z4 := z3.fst
  let z5 := z4.snd
  let z6 := z5.fst
  let z7 := z3.snd
  let z8 := z7.fst
  let z9 := z8.snd
  let z10 := z9.snd
  let z11 := z10.snd
  let z12 := z11.snd
  let z13 := z12.snd
  let z14 := z13.snd
  let z15 := z14.snd
  let z16 : (Int × Int × PUnit × PUnit × List (aa × aa × aa × Bool) × Int × Int × PUnit) × (UInt64 × UInt64 × UInt64 × UInt64 × UInt64 × UInt64 × UInt64 × UInt64 × Bool × PUnit) × List (aa × aa × Bool) × PUnit := ((z4.fst, z5.snd.fst, (), (), z6, (↑(List.length z6) : Int), (0 : Int), ()), (z8.fst, z9.fst, z10.fst, z11.fst, z12.fst, z13.fst, z14.fst, z15.fst, z15.snd.fst, ()), z7.snd.fst, ())
  let z17 : (Int × PUnit × PUnit × PUnit) × (UInt64 × UInt64 × UInt64 × UInt64 × UInt64 × UInt64 × UInt64 × UInt64 × Bool × PUnit) × List (aa × aa × Bool) × PUnit := g2_2 z16
  let z18 := z17.snd
  let z19 := z18.fst
  let z20 := z19.snd
  let z21 := z20.snd
  let z22 := z21.snd
  let z23 := z22.snd
  let z24 := z23.snd
  let z25 := z24.snd
  let z26 := z25.snd
  let z27 : UInt64 × UInt64 × UInt64 × UInt64 × UInt64 × UInt64 × UInt64 × UInt64 × Bool × PUnit := ((0 : UInt64), (0 : UInt64), (0 : UInt64), (0 : UInt64), (0 : UInt64), (0 : UInt64), (0 : UInt64), (0 : UInt64), true, ())
  let z28 : (Int × PUnit × PUnit × PUnit × PUnit × Int × PUnit) × (UInt64 × UInt64 × UInt64 × UInt64 × UInt64 × UInt64 × UInt64 × UInt64 × Bool × PUnit) × List (aa × aa × Bool) × (UInt64 × UInt64 × UInt64 × UInt64 × UInt64 × UInt64 × UInt64 × UInt64 × Bool × PUnit) × (UInt64 × UInt64 × UInt64 × UInt64 × UInt64 × UInt64 × UInt64 × UInt64 × Bool × PUnit) × PUnit := ((z17.fst.fst, (), (), (), (), (14 : Int), ()), (z19.fst, z20.fst, z21.fst, z22.fst, z23.fst, z24.fst, z25.fst, z26.fst, z26.snd.fst, ()), z18.snd.fst, z27, z27, ())
  let z29 := (g6_6 z28).snd.snd.fst
  let z30 := z29.snd
  let z31 := z30.snd
  let z32 := z31.snd
  let z33 := z32.snd
  let z34 := z33.snd
  let z35 := z34.snd
  let z36 := z35.snd
  (gd [ok0 z2, ok2 z16, ok6 z28] (.ok ⟨nc, ((({ w0 := z29.fst, w1 := z30.fst, w2 := z31.fst, w3 := z32.fst }, { w0 := z33.fst, w1 := z34.fst, w2 := z35.fst, w3 := z36.fst }, z36.snd.fst), ()), ())⟩))
theorem XM (ok0 : bj → Bool) (g0_0 : bj → eA) (ok4 : aL → Bool) (g4_4 : aL → cn) (ok2 : bi → Bool) (g2_2 : bi → ez) (ok6 : bh → Bool) (g6_6 : bh → eu) (x : lZ) (Q : dL.Y → Prop) : wpf te vP (bp 6 (dv j3 6 ok6 (nh g6_6)) (bp 2 (dv j5 2 ok2 (nj g2_2)) (bp 0 (dv j6 0 ok0 (nk g0_0)) ax))) 1000 Try.f96 (dL.inp.inj x).tm (dL.inp.inj x).hp (fnK dL zw Q) (fun _ _ => False) = (lY ok0 g0_0 ok4 g4_4 ok2 g2_2 ok6 g6_6 (x.1.1) (x.1.2.1) (x.1.2.2.1)).wpR Q := by kernel_rfl
theorem Jm (ok0 : bj → Bool) (g0_0 : bj → eA) (ok4 : aL → Bool) (g4_4 : aL → cn) (ok2 : bi → Bool) (g2_2 : bi → ez) (ok6 : bh → Bool) (g6_6 : bh → eu) (h0 : ∀ s : bj, ok0 s = true → ∃ m e, au (j9) m s = some e ∧ (nk g0_0 s).run = some e) (h4 : ∀ s : aL, ok4 s = true → ∃ m e, au (j8) m s = some e ∧ (ni g4_4 s).run = some e) (h2 : ∀ s : bi, ok2 s = true → ∃ m e, au (fH ok4 g4_4) m s = some e ∧ (nj g2_2 s).run = some e) (h6 : ∀ s : bh, ok6 s = true → ∃ m e, au (j7) m s = some e ∧ (nh g6_6 s).run = some e) (pre : lZ → Bool) (F : lZ → OT dL.Y) (hF : ∀ (x : lZ) oy, pre x = true → (F x).run = some oy → (lY ok0 g0_0 ok4 g4_4 ok2 g2_2 ok6 g6_6 (x.1.1) (x.1.2.1) (x.1.2.2.1)).run = some oy) : ab Try.prog 96 (dL.aK pre F) :=
  aD av kt mC (f := 96) (fn := Try.f96) (c := ak Try.f96) (by kernel_rfl) (by kernel_rfl) (by kernel_rfl) (S := dL) (k := 0) (by kernel_rfl) (fun R hR => (aI (c := (ak Try.f96)) (by kernel_rfl) (id := 6) (by kernel_rfl) (bw av kt mC (sh := j3) hR (xs := CK) (aH (by kernel_rfl) (by kernel_rfl) hR) aW ae (n := 1000) (T := j7) (fun s Q => QZ s Q) (ok := ok6) (f := nh g6_6) h6) (aI (c := (ak Try.f96)) (by kernel_rfl) (id := 2) (by kernel_rfl) (bw av kt mC (sh := j5) hR (xs := CM) (aH (by kernel_rfl) (by kernel_rfl) hR) aW (aI (c := (bG (ak Try.f96) 2)) (by kernel_rfl) (id := 4) (by kernel_rfl) (bw av kt mC (sh := j4) hR (xs := CL) (aH (by kernel_rfl) (by kernel_rfl) hR) aW ae (n := 1000) (T := j8) (fun s Q => Q0 s Q) (ok := ok4) (f := ni g4_4) h4) ae) (n := 1000) (T := fH ok4 g4_4) (fun s Q => Q1 ok4 g4_4 s Q) (ok := ok2) (f := nj g2_2) h2) (aI (c := (ak Try.f96)) (by kernel_rfl) (id := 0) (by kernel_rfl) (bw av kt mC (sh := j6) hR (xs := CN) (aH (by kernel_rfl) (by kernel_rfl) hR) aW ae (n := 1000) (T := j9) (fun s Q => Q2 s Q) (ok := ok0) (f := nk g0_0) h0) ae)))) (n := 1000) (sel := zw) (fun v o h => by cases h; rfl) (pre := pre) (F := F) (T := fun x => lY ok0 g0_0 ok4 g4_4 ok2 g2_2 ok6 g6_6 (x.1.1) (x.1.2.1) (x.1.2.2.1)) (fun x Q => XM ok0 g0_0 ok4 g4_4 ok2 g2_2 ok6 g6_6 x Q) hF
abbrev C13 : Type := UInt64 × UInt64 × UInt64 × UInt64 × UInt64 × UInt64 × UInt64 × UInt64 × UInt64 × UInt64 × UInt64 × UInt64 × Bool × Unit
def Vv (t : Tm) : C13 := (t.1.w0, t.1.w1, t.1.w2, t.1.w3, t.2.1.w0, t.2.1.w1, t.2.1.w2, t.2.1.w3, t.2.2.1.w0, t.2.2.1.w1, t.2.2.1.w2, t.2.2.1.w3, t.2.2.2, ())
theorem abg {α : Type} (x : α) (l : List α) : ∀ n, n ≤ l.length → upto (fun k (o : List α) => o.set k x) l n = List.replicate n x ++ l.drop n
  | 0, _ => rfl
  | n + 1, h => by
    show (upto (fun k (o : List α) => o.set k x) l n).set n x = _
    rw [abg x l n (by omega), List.set_append_right _ _ (by rw [List.length_replicate]; omega), List.length_replicate, Nat.sub_self, List.drop_eq_getElem_cons (by omega), List.set_cons_zero, List.replicate_succ', List.append_assoc]
    rfl
def zA (s : bj) : Bool := decide (s.1.2.2.2.2.2.1 = 0 ∧ s.2.2.1.length = 15)
def CQ (s : bj) : eA := ((s.1.1, s.1.2.1, s.1.2.2.1, (), (), ()), (s.2.1, List.replicate 15 aC, ()))
theorem Q7 : ∀ s : bj, zA s = true → ∃ m e, au j9 m s = some e ∧ (nk CQ s).run = some e := by
  rintro ⟨⟨c, l, at', ⟨⟩, ⟨⟩, i, ⟨⟩⟩, ⟨c0, S, ⟨⟩⟩⟩ h
  have h' := of_decide_eq_true h
  dsimp only at h'
  obtain ⟨rfl, hS⟩ := h'
  have := (bF (T := j9) (fun i o => (((c, l, at', (), (), (i : Int), ()), (c0, o, ())) : bj)) (fun k (o : List Pt) => o.set k aC)
    (fun o => (⟨(.exit 0, jh), ((c, l, at', (), (), ()), (c0, o, ()))⟩ : aO)) 15 S (fun _ o => o.length = 15) hS (fun k o hk ho => ⟨?_, (List.length_set ..).trans ho⟩) (fun o ho => ?_)).1
  · obtain ⟨m, hm⟩ := this
    rw [abg aC S 15 (by omega), List.drop_eq_nil_of_le (by omega), List.append_nil] at hm
    exact ⟨m, _, hm, rfl⟩
  · refine (OT.ao (decide_eq_true (by dsimp only; omega))).trans ((ai ?_).trans ?_)
    · simp only [ho, Int.toNat_natCast, Nat.add_zero, List.all_cons, List.all_nil, Bool.and_true, Bool.and_eq_true]
      exact ⟨bJ (by omega), decide_eq_true (by omega), bC (by omega)⟩
    · simp only [OT.jz, Int.toNat_natCast, Nat.add_zero]
      rfl
  · exact OT.ap (decide_eq_false (by dsimp only; omega))
def pu (k : aa) (a : Int) (n : Nat) (d : Int) : Int := cond (nZ k (a + (n : Int))) (ior d (ao6 1 (n : Int))) d
def NK (k : aa) (a : Int) : Int := upto (pu k a) 0 4
def ajk (b : Bool) : Int := cond b 1 0
theorem aey (k : aa) (a : Int) : NK k a = ajk (nZ k a) + 2 * ajk (nZ k (a + 1)) + 4 * ajk (nZ k (a + 2)) + 8 * ajk (nZ k (a + 3)) := by
  have e0 : a + ((0 : Nat) : Int) = a := by omega
  show pu k a 3 (pu k a 2 (pu k a 1 (pu k a 0 0))) = _
  unfold pu
  rw [e0, show a + ((1 : Nat) : Int) = a + 1 by omega, show a + ((2 : Nat) : Int) = a + 2 by omega, show a + ((3 : Nat) : Int) = a + 3 by omega]
  generalize nZ k a = b0
  generalize nZ k (a + 1) = b1
  generalize nZ k (a + 2) = b2
  generalize nZ k (a + 3) = b3
  cases b0 <;> cases b1 <;> cases b2 <;> cases b3 <;> decide +kernel
theorem aex (k : aa) (a : Int) : 0 ≤ NK k a ∧ NK k a ≤ 15 := by
  rw [aey]
  have h : ∀ b, 0 ≤ ajk b ∧ ajk b ≤ 1 := fun b => by cases b <;> decide
  have h0 := h (nZ k a)
  have h1 := h (nZ k (a + 1))
  have h2 := h (nZ k (a + 2))
  have h3 := h (nZ k (a + 3))
  omega
def R9 (c at' d : Int) (l : List Tm) (n i : Int) (b : Int) (c0 : C9) (S : List Pt) (t : C13) : aL := ((c, at', (), (), (), d, l, n, i, b, ()), (c0, S, t, ()))
def keyOf (t : C13) : aa := ⟨t.1, t.2.1, t.2.2.1, t.2.2.2.1⟩
def kP (s : aL) : Bool := decide (s.1.2.2.2.2.2.1 = 0 ∧ s.1.2.2.2.2.2.2.2.2.2.1 = 0 ∧ 0 ≤ s.1.2.1 ∧ s.1.2.1 ≤ 1000)
def ng (s : aL) : cn := ((s.1.1, s.1.2.1, (), (), (), NK (keyOf s.2.2.2.1) s.1.2.1, s.1.2.2.2.2.2.2.1, s.1.2.2.2.2.2.2.2.1, s.1.2.2.2.2.2.2.2.2.1, ()), s.2)
theorem Q5 : ∀ s : aL, kP s = true → ∃ m e, au j8 m s = some e ∧ (ni ng s).run = some e := by
  rintro ⟨⟨c, at', ⟨⟩, ⟨⟩, ⟨⟩, d, l, n, i, b, ⟨⟩⟩, ⟨c0, S, t, ⟨⟩⟩⟩ h
  have h' := of_decide_eq_true h
  dsimp only at h'
  obtain ⟨rfl, rfl, ha0, ha1⟩ := h'
  have := (bF (T := j8) (fun b d => (((c, at', (), (), (), d, l, n, i, (b : Int), ()), (c0, S, t, ())) : aL)) (pu (keyOf t) at')
    (fun d => (⟨(.exit 4, jf), ((c, at', (), (), (), d, l, n, i, ()), (c0, S, t, ()))⟩ : aO)) 4 0 (fun _ _ => True) trivial (fun k d hk _ => ⟨?_, trivial⟩) (fun d _ => ?_)).1
  · obtain ⟨m, hm⟩ := this
    exact ⟨m, _, hm, rfl⟩
  · have hr : inR ((k : Int) + 1) = true := bC (by omega)
    have hgr : ∀ z : OT (Sum aL aO), (gd [inR ((k : Int) + 1)] z).run = z.run := fun z => ai (by rw [hr]; rfl)
    refine (OT.ao (decide_eq_true (by dsimp only; omega))).trans ((ai ?_).trans ?_)
    · simp only [List.all_cons, List.all_nil, Bool.and_true]
      exact bC (by omega)
    · unfold pu
      rcases (Bool.eq_false_or_eq_true (nZ (keyOf t) (at' + (k : Int)))).symm with hb | hb
      · rw [hb]
        exact (OT.ap hb).trans ((hgr _).trans rfl)
      · rw [hb]
        refine (OT.ao hb).trans ((ai ?_).trans rfl)
        simp only [List.all_cons, List.all_nil, Bool.and_true, Bool.and_eq_true]
        exact ⟨decide_eq_true (by omega), hr⟩
  · exact OT.ap (decide_eq_false (by dsimp only; omega))
def dI (c a : Int) (l : List Tm) (k : Nat) (S : List Pt) : List Pt := cond (decide (0 < NK (l.getD k dV).1 a))
  (S.set (NK (l.getD k dV).1 a - 1).toNat (eD c (S.getD (NK (l.getD k dV).1 a - 1).toNat ff) (l.getD k dV).2)) S
theorem kn (c a : Int) (l : List Tm) (k : Nat) (S : List Pt) : (dI c a l k S).length = S.length := by
  unfold dI
  cases decide (0 < NK (l.getD k dV).1 a)
  · rfl
  · exact List.length_set ..
def akV (c a : Int) (l : List Tm) (S : List Pt) : List Pt := upto (dI c a l) S l.length
def zy (s : bi) : Bool := decide (s.1.2.2.2.2.2.1 = (s.1.2.2.2.2.1.length : Int) ∧ s.1.2.2.2.2.2.2.1 = 0 ∧ s.2.2.1.length = 15 ∧ (0 ≤ s.1.2.1 ∧ s.1.2.1 ≤ 1000) ∧ s.1.2.2.2.2.1.length ≤ 140737488355328)
def CP (s : bi) : ez := ((s.1.1, (), (), ()), (s.2.1, akV s.1.1 s.1.2.1 s.1.2.2.2.2.1 s.2.2.1, ()))
theorem amR {ok4 : aL → Bool} {g4 : aL → cn} {c a : Int} {l : List Tm} {k : Nat} {c0 : C9} {S : List Pt} {t : Tm} {d : Int} (ht : l.getD k dV = t) (hk : k < l.length) (hl : l.length ≤ 140737488355328) (hS : S.length = 15) (hd : 0 ≤ d ∧ d ≤ 15)
    (h4 : ok4 (R9 c a 0 l (l.length : Int) (k : Int) 0 c0 S (Vv t)) = true)
    (e4 : g4 (R9 c a 0 l (l.length : Int) (k : Int) 0 c0 S (Vv t)) = ((c, a, (), (), (), d, l, (l.length : Int), (k : Int), ()), (c0, S, Vv t, ()))) :
    (fH ok4 g4 ((c, a, (), (), l, (l.length : Int), (k : Int), ()), (c0, S, ()))).run = some (.inl ((c, a, (), (), l, (l.length : Int), ((k + 1 : Nat) : Int), ()), (c0, cond (decide (0 < d)) (S.set (d - 1).toNat (eD c (S.getD (d - 1).toNat ff) t.2)) S, ()))) := by
  have hr : inR ((k : Int) + 1) = true := bC (by omega)
  unfold R9 at h4 e4
  unfold fH CR
  have ht' : List.getD l (Int.toNat (k : Int)) (⟨0, 0, 0, 0⟩, ⟨0, 0, 0, 0⟩, ⟨0, 0, 0, 0⟩, false) = t := by rw [Int.toNat_natCast]; exact ht
  simp only [ht']
  refine (OT.ao (decide_eq_true (by omega))).trans ((ai ?_).trans ?_)
  · simp only [List.all_cons, List.all_nil, Bool.and_true, Bool.and_eq_true]
    exact ⟨bJ (by omega), h4⟩
  · have e4' : g4 ((c, a, (), (), (), 0, l, (l.length : Int), (k : Int), 0, ()), (c0.1, c0.2.1, c0.2.2.1, c0.2.2.2.1, c0.2.2.2.2.1, c0.2.2.2.2.2.1, c0.2.2.2.2.2.2.1, c0.2.2.2.2.2.2.2.1, c0.2.2.2.2.2.2.2.2.1, ()), S, (t.1.w0, t.1.w1, t.1.w2, t.1.w3, t.2.1.w0, t.2.1.w1, t.2.1.w2, t.2.1.w3, t.2.2.1.w0, t.2.2.1.w1, t.2.2.1.w2, t.2.2.1.w3, t.2.2.2, ()), ()) = ((c, a, (), (), (), d, l, (l.length : Int), (k : Int), ()), (c0, S, Vv t, ())) := e4
    simp only [e4']
    by_cases h0 : 0 < d
    · rw [decide_eq_true h0]
      refine (OT.ao rfl).trans ((ai ?_).trans ?_)
      · simp only [hS, Nat.add_zero, hr, List.all_cons, List.all_nil, Bool.and_true, Bool.and_eq_true]
        have i1 : inR (d - 1) = true := bC (by omega)
        have i2 : inB (d - 1) 15 = true := bJ (by omega)
        have i3 : decide ((d - 1).toNat < 15) = true := decide_eq_true (by omega)
        exact ⟨i1, i1, i2, i3, i2, i3⟩
      · rfl
    · rw [decide_eq_false h0]
      refine (OT.ap rfl).trans ((ai ?_).trans rfl)
      simp only [hr, List.all_cons, List.all_nil, Bool.and_true]
theorem Q6 : ∀ s : bi, zy s = true → ∃ m e, au (fH kP ng) m s = some e ∧ (nj CP s).run = some e := by
  rintro ⟨⟨c, at', ⟨⟩, ⟨⟩, l, n, i, ⟨⟩⟩, ⟨c0, S, ⟨⟩⟩⟩ h
  have h' := of_decide_eq_true h
  dsimp only at h'
  obtain ⟨rfl, rfl, hS, ⟨ha0, ha1⟩, hl⟩ := h'
  have := (bF (T := fH kP ng) (fun i o => (((c, at', (), (), l, (l.length : Int), (i : Int), ()), (c0, o, ())) : bi)) (dI c at' l)
    (fun o => (⟨(.exit 2, jg), ((c, (), (), ()), (c0, o, ()))⟩ : aO)) l.length S (fun _ o => o.length = 15) hS (fun k o hk ho => ⟨?_, (kn c at' l k o).trans ho⟩) (fun o ho => ?_)).1
  · obtain ⟨m, hm⟩ := this
    exact ⟨m, _, hm, rfl⟩
  · exact amR rfl hk hl ho (aex _ _) (decide_eq_true ⟨rfl, rfl, ha0, ha1⟩) rfl
  · exact OT.ap (decide_eq_false (by dsimp only; omega))
def fk (c : Int) (S : List Pt) (n : Nat) (w : Pt × Pt) : Pt × Pt := (eD c w.1 (S.getD (14 - n) ff), eD c w.2 (eD c w.1 (S.getD (14 - n) ff)))
def ao1 (c : Int) (S : List Pt) : Pt × Pt := upto (fk c S) (aC, aC) 15
def zx (s : bh) : Bool := decide (s.1.2.2.2.2.2.1 = 14 ∧ s.2.2.1.length = 15 ∧ kl s.2.2.2.1 = aC ∧ kl s.2.2.2.2.1 = aC)
def CO (s : bh) : eu := (((), (), ()), (s.2.1, bf (ao1 s.1.1 s.2.2.1).2, ()))
theorem Q4 : ∀ s : bh, zx s = true → ∃ m e, au j7 m s = some e ∧ (nh CO s).run = some e := by
  rintro ⟨⟨c, ⟨⟩, ⟨⟩, ⟨⟩, ⟨⟩, i, ⟨⟩⟩, ⟨c0, S, r, a, ⟨⟩⟩⟩ h
  have h' := of_decide_eq_true h
  dsimp only at h'
  obtain ⟨rfl, hS, hr, ha⟩ := h'
  have hr2 : r = bf aC := by rw [← hr]; rfl
  have ha2 : a = bf aC := by rw [← ha]; rfl
  subst hr2 ha2
  have := (bF (T := j7) (fun n w => (((c, (), (), (), (), 14 - (n : Int), ()), (c0, S, bf w.1, bf w.2, ())) : bh)) (fk c S)
    (fun w => (⟨(.exit 6, je), (((), (), ()), (c0, bf w.2, ()))⟩ : aO)) 15 (aC, aC) (fun _ _ => True) trivial (fun n w hn _ => ⟨?_, trivial⟩) (fun w _ => ?_)).1
  · obtain ⟨m, hm⟩ := this
    exact ⟨m, _, hm, rfl⟩
  · have e1 : ((14 : Int) - (n : Int)).toNat = 14 - n := by omega
    have e2 : (14 : Int) - (n : Int) - 1 = 14 - ((n + 1 : Nat) : Int) := by omega
    refine (OT.ao (decide_eq_true (by dsimp only; omega))).trans ((ai ?_).trans ?_)
    · simp only [e1, hS, Nat.add_zero, List.all_cons, List.all_nil, Bool.and_true, Bool.and_eq_true]
      exact ⟨bJ (by omega), decide_eq_true (by omega), bC (by omega)⟩
    · rw [← e2]
      simp only [OT.jz, e1, Nat.add_zero]
      rfl
  · exact OT.ap (decide_eq_false (by dsimp only; omega))
def Sa (c : Int) (l : List Tm) (a : Int) : Pt := (ao1 c (akV c a l (List.replicate 15 aC))).2
theorem Jn {ok4 : aL → Bool} {g4 : aL → cn} {ok0 : bj → Bool} {g0 : bj → eA} {ok2 : bi → Bool} {g2 : bi → ez} {ok6 : bh → Bool} {g6 : bh → eu} {c a : Int} {l : List Tm} {S0 S : List Pt} {R : Pt} {z : C9}
    (h0 : ok0 ((c, l, a, (), (), 0, ()), (bf ff, List.replicate 15 ff, ())) = true) (e0 : g0 ((c, l, a, (), (), 0, ()), (bf ff, List.replicate 15 ff, ())) = ((c, l, a, (), (), ()), (bf ff, S0, ())))
    (h2 : ok2 ((c, a, (), (), l, (l.length : Int), 0, ()), (bf ff, S0, ())) = true) (e2 : g2 ((c, a, (), (), l, (l.length : Int), 0, ()), (bf ff, S0, ())) = ((c, (), (), ()), (bf ff, S, ())))
    (h6 : ok6 ((c, (), (), (), (), 14, ()), (bf ff, S, bf aC, bf aC, ())) = true) (e6 : g6 ((c, (), (), (), (), 14, ()), (bf ff, S, bf aC, bf aC, ())) = (((), (), ()), (z, bf R, ()))) :
    (lY ok0 g0 ok4 g4 ok2 g2 ok6 g6 c l a).run = some ⟨nc, ((R, ()), ())⟩ := by
  have e0' : g0 ((c, l, a, (), (), 0, ()), ((0, 0, 0, 0, 0, 0, 0, 0, false, ()), [((⟨0, 0, 0, 0⟩, ⟨0, 0, 0, 0⟩, false) : Pt), ((⟨0, 0, 0, 0⟩, ⟨0, 0, 0, 0⟩, false) : Pt), ((⟨0, 0, 0, 0⟩, ⟨0, 0, 0, 0⟩, false) : Pt), ((⟨0, 0, 0, 0⟩, ⟨0, 0, 0, 0⟩, false) : Pt), ((⟨0, 0, 0, 0⟩, ⟨0, 0, 0, 0⟩, false) : Pt), ((⟨0, 0, 0, 0⟩, ⟨0, 0, 0, 0⟩, false) : Pt), ((⟨0, 0, 0, 0⟩, ⟨0, 0, 0, 0⟩, false) : Pt), ((⟨0, 0, 0, 0⟩, ⟨0, 0, 0, 0⟩, false) : Pt), ((⟨0, 0, 0, 0⟩, ⟨0, 0, 0, 0⟩, false) : Pt), ((⟨0, 0, 0, 0⟩, ⟨0, 0, 0, 0⟩, false) : Pt), ((⟨0, 0, 0, 0⟩, ⟨0, 0, 0, 0⟩, false) : Pt), ((⟨0, 0, 0, 0⟩, ⟨0, 0, 0, 0⟩, false) : Pt), ((⟨0, 0, 0, 0⟩, ⟨0, 0, 0, 0⟩, false) : Pt), ((⟨0, 0, 0, 0⟩, ⟨0, 0, 0, 0⟩, false) : Pt), ((⟨0, 0, 0, 0⟩, ⟨0, 0, 0, 0⟩, false) : Pt)], ())) = ((c, l, a, (), (), ()), (bf ff, S0, ())) := e0
  have e2' : g2 ((c, a, (), (), l, (l.length : Int), 0, ()), ((bf ff).1, (bf ff).2.1, (bf ff).2.2.1, (bf ff).2.2.2.1, (bf ff).2.2.2.2.1, (bf ff).2.2.2.2.2.1, (bf ff).2.2.2.2.2.2.1, (bf ff).2.2.2.2.2.2.2.1, (bf ff).2.2.2.2.2.2.2.2.1, ()), S0, ()) = ((c, (), (), ()), (bf ff, S, ())) := e2
  have e6' : g6 ((c, (), (), (), (), 14, ()), ((bf ff).1, (bf ff).2.1, (bf ff).2.2.1, (bf ff).2.2.2.1, (bf ff).2.2.2.2.1, (bf ff).2.2.2.2.2.1, (bf ff).2.2.2.2.2.2.1, (bf ff).2.2.2.2.2.2.2.1, (bf ff).2.2.2.2.2.2.2.2.1, ()), S, (0, 0, 0, 0, 0, 0, 0, 0, true, ()), (0, 0, 0, 0, 0, 0, 0, 0, true, ()), ()) = (((), (), ()), (z, bf R, ())) := e6
  unfold lY
  simp only [e0', e2', e6']
  refine (ai ?_).trans rfl
  simp only [List.all_cons, List.all_nil, Bool.and_true, Bool.and_eq_true]
  exact ⟨h0, h2, h6⟩
theorem Br (c a : Int) (l : List Tm) (S : List Pt) : ∀ n, (upto (dI c a l) S n).length = S.length
  | 0 => rfl
  | n + 1 => (kn c a l n _).trans (Br c a l S n)
def oY (x : lZ) : Bool := decide ((0 ≤ x.1.2.2.1 ∧ x.1.2.2.1 ≤ 1000) ∧ x.1.2.1.length ≤ 140737488355328)
def GW (x : lZ) : OT dL.Y := .ok ⟨nc, ((Sa x.1.1 x.1.2.1 x.1.2.2.1, ()), ())⟩
theorem Q3 : ab Try.prog 96 (dL.aK oY GW) := Jm zA CQ kP ng zy CP zx CO Q7 Q5 Q6 Q4 _ _ fun x oy hp ho => by
  rw [← ho]
  clear ho
  obtain ⟨⟨c, l, a, ⟨⟩⟩, ⟨⟩⟩ := x
  obtain ⟨ha, hl⟩ := of_decide_eq_true hp
  exact Jn (S0 := List.replicate 15 aC) (S := akV c a l (List.replicate 15 aC)) (R := Sa c l a) (z := bf ff) (decide_eq_true ⟨rfl, rfl⟩) rfl
    (decide_eq_true ⟨rfl, rfl, rfl, ha, hl⟩) rfl (decide_eq_true ⟨rfl, Br c a l _ l.length, rfl, rfl⟩) rfl
def na : cI := (dL.aK oY GW)
theorem FB : ab Try.prog 96 na := Q3
theorem FA : aJ na := aA
def ik : Env := az 96 na vP
theorem gQ : aV Try.prog ik := ag FB kt
theorem pQ : aw ik := ac FA EE
theorem lk : bg Try.prog te ik := aN follows av gQ pQ
def jZ : aq := ⟨[.val false .int, .val false (.list gR)], [], true, 0, false⟩
abbrev GC : Type := ((Int) × (List ((aa × (aa × (aa × Bool))))) × Unit) × (Unit)
def uR : Shape := ⟨39, [(0, .val false .int), (1, .val false (.list (.prod .elem (.prod .elem (.prod .elem .bool))))), (4, .ptr 0 0 0), (5, .ptr 1 0 0), (6, .val false .int)], [(0, .cells [.val false .u64, .val false .u64, .val false .u64, .val false .u64, .val false .u64, .val false .u64, .val false .u64, .val false .u64, .val false .bool]), (1, .cells [.val false .u64, .val false .u64, .val false .u64, .val false .u64, .val false .u64, .val false .u64, .val false .u64, .val false .u64, .val false .bool])], 0, true⟩
abbrev cg : Type := ((Int) × (List ((aa × (aa × (aa × Bool))))) × (Unit) × (Unit) × (Int) × Unit) × (((UInt64) × (UInt64) × (UInt64) × (UInt64) × (UInt64) × (UInt64) × (UInt64) × (UInt64) × (Bool) × Unit) × ((UInt64) × (UInt64) × (UInt64) × (UInt64) × (UInt64) × (UInt64) × (UInt64) × (UInt64) × (Bool) × Unit) × Unit)
def uQ : Shape := ⟨39, [(0, .val false .int), (1, .val false (.list (.prod .elem (.prod .elem (.prod .elem .bool))))), (4, .ptr 0 0 0), (5, .ptr 1 0 0), (6, .val false .int), (24, .val false .int)], [(0, .cells [.val false .u64, .val false .u64, .val false .u64, .val false .u64, .val false .u64, .val false .u64, .val false .u64, .val false .u64, .val false .bool]), (1, .cells [.val false .u64, .val false .u64, .val false .u64, .val false .u64, .val false .u64, .val false .u64, .val false .u64, .val false .u64, .val false .bool])], 0, true⟩
abbrev bo : Type := ((Int) × (List ((aa × (aa × (aa × Bool))))) × (Unit) × (Unit) × (Int) × (Int) × Unit) × (((UInt64) × (UInt64) × (UInt64) × (UInt64) × (UInt64) × (UInt64) × (UInt64) × (UInt64) × (Bool) × Unit) × ((UInt64) × (UInt64) × (UInt64) × (UInt64) × (UInt64) × (UInt64) × (UInt64) × (UInt64) × (Bool) × Unit) × Unit)
def qF : Shape := ⟨39, [(0, .val false .int), (1, .val false (.list (.prod .elem (.prod .elem (.prod .elem .bool))))), (4, .ptr 0 0 0), (5, .ptr 1 0 0), (6, .val false .int)], [(0, .cells [.val false .u64, .val false .u64, .val false .u64, .val false .u64, .val false .u64, .val false .u64, .val false .u64, .val false .u64, .val false .bool]), (1, .cells [.val false .u64, .val false .u64, .val false .u64, .val false .u64, .val false .u64, .val false .u64, .val false .u64, .val false .u64, .val false .bool])], 0, true⟩
abbrev dD : Type := ((Int) × (List ((aa × (aa × (aa × Bool))))) × (Unit) × (Unit) × (Int) × Unit) × (((UInt64) × (UInt64) × (UInt64) × (UInt64) × (UInt64) × (UInt64) × (UInt64) × (UInt64) × (Bool) × Unit) × ((UInt64) × (UInt64) × (UInt64) × (UInt64) × (UInt64) × (UInt64) × (UInt64) × (UInt64) × (Bool) × Unit) × Unit)
def UO : SE → Option Shape := ku [(2, qF)] none
def ahs (a0 : Int) (a1 : List ((aa × (aa × (aa × Bool))))) (a6 : Int) (a24 : Int) (c0_0 : UInt64) (c0_1 : UInt64) (c0_2 : UInt64) (c0_3 : UInt64) (c0_4 : UInt64) (c0_5 : UInt64) (c0_6 : UInt64) (c0_7 : UInt64) (c0_8 : Bool) (c1_0 : UInt64) (c1_1 : UInt64) (c1_2 : UInt64) (c1_3 : UInt64) (c1_4 : UInt64) (c1_5 : UInt64) (c1_6 : UInt64) (c1_7 : UInt64) (c1_8 : Bool) : OT (Sum bo aO) :=
  let z0 : aa × aa × Bool := ({ w0 := c1_0, w1 := c1_1, w2 := c1_2, w3 := c1_3 }, { w0 := c1_4, w1 := c1_5, w2 := c1_6, w3 := c1_7 }, c1_8)
  let z1 : aa × aa × Bool := eD a0 z0 z0
  let z2 := z1.fst
  let z3 := z1.snd
  let z4 := z3.fst
  (.br (decide (a24 < (4 : Int)))
  (gd [inR (a24 + (1 : Int))] (.ok (.inl ((a0, (a1, ((), ((), (a6, (a24 + (1 : Int), ())))))), ((c0_0, (c0_1, (c0_2, (c0_3, (c0_4, (c0_5, (c0_6, (c0_7, (c0_8, ()))))))))), ((z2.w0, (z2.w1, (z2.w2, (z2.w3, (z4.w0, (z4.w1, (z4.w2, (z4.w3, (z3.snd, ()))))))))), ()))))))
  (.ok (.inr ⟨(.exit 2, qF), ((a0, (a1, ((), ((), (a6, ()))))), ((c0_0, (c0_1, (c0_2, (c0_3, (c0_4, (c0_5, (c0_6, (c0_7, (c0_8, ()))))))))), ((c1_0, (c1_1, (c1_2, (c1_3, (c1_4, (c1_5, (c1_6, (c1_7, (c1_8, ()))))))))), ())))⟩)))
def uU (s : bo) : OT (Sum bo aO) := ahs (s.1.1) (s.1.2.1) (s.1.2.2.2.2.1) (s.1.2.2.2.2.2.1) (s.2.1.1) (s.2.1.2.1) (s.2.1.2.2.1) (s.2.1.2.2.2.1) (s.2.1.2.2.2.2.1) (s.2.1.2.2.2.2.2.1) (s.2.1.2.2.2.2.2.2.1) (s.2.1.2.2.2.2.2.2.2.1) (s.2.1.2.2.2.2.2.2.2.2.1) (s.2.2.1.1) (s.2.2.1.2.1) (s.2.2.1.2.2.1) (s.2.2.1.2.2.2.1) (s.2.2.1.2.2.2.2.1) (s.2.2.1.2.2.2.2.2.1) (s.2.2.1.2.2.2.2.2.2.1) (s.2.2.1.2.2.2.2.2.2.2.1) (s.2.2.1.2.2.2.2.2.2.2.2.1)
theorem ahn (s : bo) (Q : Sum bo aO → Prop) : wps te ik ax 1000 (bG (bG (ak Try.f66) 0) 2) (uQ.inj s) (cU uQ UO (Q : Sum uQ.T aO → Prop)) = (uU s).wpR Q := by kernel_rfl
def A0 (g2_2 : bo → dD) (s : bo) : OT aO := (.ok ⟨(.exit 2, qF), g2_2 s⟩)
def qG : Shape := ⟨39, [(4, .ptr 0 0 0), (5, .ptr 1 0 0)], [(0, .cells [.val false .u64, .val false .u64, .val false .u64, .val false .u64, .val false .u64, .val false .u64, .val false .u64, .val false .u64, .val false .bool]), (1, .cells [.val false .u64, .val false .u64, .val false .u64, .val false .u64, .val false .u64, .val false .u64, .val false .u64, .val false .u64, .val false .bool])], 0, true⟩
abbrev hJ : Type := ((Unit) × (Unit) × Unit) × (((UInt64) × (UInt64) × (UInt64) × (UInt64) × (UInt64) × (UInt64) × (UInt64) × (UInt64) × (Bool) × Unit) × ((UInt64) × (UInt64) × (UInt64) × (UInt64) × (UInt64) × (UInt64) × (UInt64) × (UInt64) × (Bool) × Unit) × Unit)
def UP : SE → Option Shape := ku [(0, qG)] none
def UQ (ok2 : bo → Bool) (g2_2 : bo → dD) (a0 : Int) (a1 : List ((aa × (aa × (aa × Bool))))) (a6 : Int) (c0_0 : UInt64) (c0_1 : UInt64) (c0_2 : UInt64) (c0_3 : UInt64) (c0_4 : UInt64) (c0_5 : UInt64) (c0_6 : UInt64) (c0_7 : UInt64) (c0_8 : Bool) (c1_0 : UInt64) (c1_1 : UInt64) (c1_2 : UInt64) (c1_3 : UInt64) (c1_4 : UInt64) (c1_5 : UInt64) (c1_6 : UInt64) (c1_7 : UInt64) (c1_8 : Bool) : OT (Sum cg aO) :=
  let z0 : (Int × List (aa × aa × aa × Bool) × PUnit × PUnit × Int × Int × PUnit) × (UInt64 × UInt64 × UInt64 × UInt64 × UInt64 × UInt64 × UInt64 × UInt64 × Bool × PUnit) × (UInt64 × UInt64 × UInt64 × UInt64 × UInt64 × UInt64 × UInt64 × UInt64 × Bool × PUnit) × PUnit := ((a0, a1, (), (), a6, (0 : Int), ()), (c0_0, c0_1, c0_2, c0_3, c0_4, c0_5, c0_6, c0_7, c0_8, ()), (c1_0, c1_1, c1_2, c1_3, c1_4, c1_5, c1_6, c1_7, c1_8, ()), ())
  let z1 : (Int × List (aa × aa × aa × Bool) × PUnit × PUnit × Int × PUnit) × (UInt64 × UInt64 × UInt64 × UInt64 × UInt64 × UInt64 × UInt64 × UInt64 × Bool × PUnit) × (UInt64 × UInt64 × UInt64 × UInt64 × UInt64 × UInt64 × UInt64 × UInt64 × Bool × PUnit) × PUnit := g2_2 z0
  let z2 := z1.fst
  let z3 := z2.fst
  let z4 := z2.snd
  let z5 := z4.fst
  let z6 := z4.snd.snd.snd.fst
  let z7 := z1.snd
  let z8 := z7.fst
  let z9 := z8.snd
  let z10 := z9.snd
  let z11 := z10.snd
  let z12 := z11.snd
  let z13 := z12.snd
  let z14 := z13.snd
  let z15 := z14.snd
  let z16 := z7.snd.fst
  let z17 := z16.snd
  let z18 := z17.snd
  let z19 := z18.snd
  let z20 := z19.snd
  let z21 := z20.snd
  let z22 := z21.snd
  let z23 := z22.snd
  let z24 : aa × aa × Bool := eD z3 ({ w0 := z16.fst, w1 := z17.fst, w2 := z18.fst, w3 := z19.fst }, { w0 := z20.fst, w1 := z21.fst, w2 := z22.fst, w3 := z23.fst }, z23.snd.fst) (Sa z3 z5 z6)
  let z25 := z24.fst
  let z26 := z24.snd
  let z27 := z26.fst
  (.br (decide ((0 : Int) ≤ a6))
  (gd [ok2 z0, oY ((z3, z5, z6, ()), ()), inR (z6 - (4 : Int))] (.ok (.inl ((z3, (z5, ((), ((), (z6 - (4 : Int), ()))))), ((z8.fst, (z9.fst, (z10.fst, (z11.fst, (z12.fst, (z13.fst, (z14.fst, (z15.fst, (z15.snd.fst, ()))))))))), ((z25.w0, (z25.w1, (z25.w2, (z25.w3, (z27.w0, (z27.w1, (z27.w2, (z27.w3, (z26.snd, ()))))))))), ()))))))
  (.ok (.inr ⟨(.exit 0, qG), (((), ((), ())), ((c0_0, (c0_1, (c0_2, (c0_3, (c0_4, (c0_5, (c0_6, (c0_7, (c0_8, ()))))))))), ((c1_0, (c1_1, (c1_2, (c1_3, (c1_4, (c1_5, (c1_6, (c1_7, (c1_8, ()))))))))), ())))⟩)))
def m5 (ok2 : bo → Bool) (g2_2 : bo → dD) (s : cg) : OT (Sum cg aO) := UQ ok2 g2_2 (s.1.1) (s.1.2.1) (s.1.2.2.2.2.1) (s.2.1.1) (s.2.1.2.1) (s.2.1.2.2.1) (s.2.1.2.2.2.1) (s.2.1.2.2.2.2.1) (s.2.1.2.2.2.2.2.1) (s.2.1.2.2.2.2.2.2.1) (s.2.1.2.2.2.2.2.2.2.1) (s.2.1.2.2.2.2.2.2.2.2.1) (s.2.2.1.1) (s.2.2.1.2.1) (s.2.2.1.2.2.1) (s.2.2.1.2.2.2.1) (s.2.2.1.2.2.2.2.1) (s.2.2.1.2.2.2.2.2.1) (s.2.2.1.2.2.2.2.2.2.1) (s.2.2.1.2.2.2.2.2.2.2.1) (s.2.2.1.2.2.2.2.2.2.2.2.1)
theorem aho (ok2 : bo → Bool) (g2_2 : bo → dD) (s : cg) (Q : Sum cg aO → Prop) : wps te ik (bp 2 (dv uQ 2 ok2 (A0 g2_2)) ax) 1000 (bG (ak Try.f66) 0) (uR.inj s) (cU uR UP (Q : Sum uR.T aO → Prop)) = (m5 ok2 g2_2 s).wpR Q := by kernel_rfl
def A1 (g0_0 : cg → hJ) (s : cg) : OT aO := (.ok ⟨(.exit 0, qG), g0_0 s⟩)
def qE : ay := ⟨[.val true (.prod .elem (.prod .elem .bool))], [], false⟩
def Mu : SV → Option ay := fun _ => some qE
def xI (ok2 : bo → Bool) (g2_2 : bo → dD) (ok0 : cg → Bool) (g0_0 : cg → hJ) (a0 : Int) (a1 : List ((aa × (aa × (aa × Bool))))) : OT jZ.Y :=
  let z0 : Int := Int.tdiv ((↑(Pd a1) : Int) + (4 : Int) - (1 : Int)) (4 : Int)
  let z1 : (Int × List (aa × aa × aa × Bool) × PUnit × PUnit × Int × PUnit) × (UInt64 × UInt64 × UInt64 × UInt64 × UInt64 × UInt64 × UInt64 × UInt64 × Bool × PUnit) × (UInt64 × UInt64 × UInt64 × UInt64 × UInt64 × UInt64 × UInt64 × UInt64 × Bool × PUnit) × PUnit := ((a0, a1, (), (), z0 * (4 : Int), ()), ((0 : UInt64), (0 : UInt64), (0 : UInt64), (0 : UInt64), (0 : UInt64), (0 : UInt64), (0 : UInt64), (0 : UInt64), false, ()), ((0 : UInt64), (0 : UInt64), (0 : UInt64), (0 : UInt64), (0 : UInt64), (0 : UInt64), (0 : UInt64), (0 : UInt64), true, ()), ())
  let z2 := (g0_0 z1).snd.snd.fst
  let z3 := z2.snd
  let z4 := z3.snd
  let z5 := z4.snd
  let z6 := z5.snd
  let z7 := z6.snd
  let z8 := z7.snd
  let z9 := z8.snd
  (.br (decide ((↑(List.length a1) : Int) < (24 : Int)))
  (gd [sH ((a0, a1, ()), ())] (.ok ⟨qE, ((ja a0 a1, ()), ())⟩))
  (gd [I1 ((a1, ()), ()), inR ((↑(Pd a1) : Int) + (4 : Int)), inR ((↑(Pd a1) : Int) + (4 : Int) - (1 : Int)), true && inR z0, inR (z0 * (4 : Int)), ok0 z1] (.ok ⟨qE, ((({ w0 := z2.fst, w1 := z3.fst, w2 := z4.fst, w3 := z5.fst }, { w0 := z6.fst, w1 := z7.fst, w2 := z8.fst, w3 := z9.fst }, z9.snd.fst), ()), ())⟩)))
theorem alS (ok2 : bo → Bool) (g2_2 : bo → dD) (ok0 : cg → Bool) (g0_0 : cg → hJ) (x : GC) (Q : jZ.Y → Prop) : wpf te ik (bp 0 (dv uR 0 ok0 (A1 g0_0)) ax) 1000 Try.f66 (jZ.inp.inj x).tm (jZ.inp.inj x).hp (fnK jZ Mu Q) (fun _ _ => False) = (xI ok2 g2_2 ok0 g0_0 (x.1.1) (x.1.2.1)).wpR Q := by kernel_rfl
theorem Xv (ok2 : bo → Bool) (g2_2 : bo → dD) (ok0 : cg → Bool) (g0_0 : cg → hJ) (h2 : ∀ s : bo, ok2 s = true → ∃ m e, au (uU) m s = some e ∧ (A0 g2_2 s).run = some e) (h0 : ∀ s : cg, ok0 s = true → ∃ m e, au (m5 ok2 g2_2) m s = some e ∧ (A1 g0_0 s).run = some e) (pre : GC → Bool) (F : GC → OT jZ.Y) (hF : ∀ (x : GC) oy, pre x = true → (F x).run = some oy → (xI ok2 g2_2 ok0 g0_0 (x.1.1) (x.1.2.1)).run = some oy) : ab Try.prog 66 (jZ.aK pre F) :=
  aD av gQ lk (f := 66) (fn := Try.f66) (c := ak Try.f66) (by kernel_rfl) (by kernel_rfl) (by kernel_rfl) (S := jZ) (k := 0) (by kernel_rfl) (fun R hR => (aI (c := (ak Try.f66)) (by kernel_rfl) (id := 0) (by kernel_rfl) (bw av gQ lk (sh := uR) hR (xs := UP) (aH (by kernel_rfl) (by kernel_rfl) hR) aW (aI (c := (bG (ak Try.f66) 0)) (by kernel_rfl) (id := 2) (by kernel_rfl) (bw av gQ lk (sh := uQ) hR (xs := UO) (aH (by kernel_rfl) (by kernel_rfl) hR) aW ae (n := 1000) (T := uU) (fun s Q => ahn s Q) (ok := ok2) (f := A0 g2_2) h2) ae) (n := 1000) (T := m5 ok2 g2_2) (fun s Q => aho ok2 g2_2 s Q) (ok := ok0) (f := A1 g0_0) h0) ae)) (n := 1000) (sel := Mu) (fun v o h => by cases h; rfl) (pre := pre) (F := F) (T := fun x => xI ok2 g2_2 ok0 g0_0 (x.1.1) (x.1.2.1)) (fun x Q => alS ok2 g2_2 ok0 g0_0 x Q) hF
theorem Pm (l : List Tm) : ∀ n, Zt l n ≤ n
  | 0 => Nat.le_refl _
  | n + 1 => by
    unfold Zt
    cases ang l (n : Int)
    · exact Nat.le_succ_of_le (Pm l n)
    · exact Nat.le_refl _
def aoD (c : Int) (O : Pt) : Pt := upto (fun _ o => eD c o o) O 4
def oN (s : bo) : Bool := decide (s.1.2.2.2.2.2.1 = 0)
def uT (s : bo) : dD := ((s.1.1, s.1.2.1, (), (), s.1.2.2.2.2.1, ()), (s.2.1, bf (aoD s.1.1 (kl s.2.2.1)), ()))
theorem ahq : ∀ s : bo, oN s = true → ∃ m e, au uU m s = some e ∧ (A0 uT s).run = some e := by
  rintro ⟨⟨c, l, ⟨⟩, ⟨⟩, a, i, ⟨⟩⟩, ⟨c0, c1, ⟨⟩⟩⟩ h
  have h' := of_decide_eq_true h
  dsimp only at h'
  subst h'
  have := (bF (T := uU) (fun i O => (((c, l, (), (), a, (i : Int), ()), (c0, bf O, ())) : bo)) (fun _ o => eD c o o)
    (fun O => (⟨(.exit 2, qF), ((c, l, (), (), a, ()), (c0, bf O, ()))⟩ : aO)) 4 (kl c1) (fun _ _ => True) trivial (fun k O hk _ => ⟨?_, trivial⟩) (fun O _ => ?_)).1
  · obtain ⟨m, hm⟩ := this
    exact ⟨m, _, hm, rfl⟩
  · refine (OT.ao (decide_eq_true (by dsimp only; omega))).trans ((ai ?_).trans rfl)
    simp only [List.all_cons, List.all_nil, Bool.and_true]
    exact bC (by omega)
  · exact OT.ap (decide_eq_false (by dsimp only; omega))
def k9 (c : Int) (l : List Tm) (W n : Nat) (O : Pt) : Pt := eD c (aoD c O) (Sa c l (4 * (W : Int) - 4 * (n : Int)))
def nK (l : List Tm) : Nat := (Pd l + 3) / 4
def aoW (c : Int) (l : List Tm) : Pt := upto (k9 c l (nK l)) aC (nK l + 1)
def ZC (c : Int) (l : List Tm) (a : Int) (c0 : C9) (O : Pt) : bo := ((c, l, (), (), a, 0, ()), (c0, bf O, ()))
theorem ank {ok2 : bo → Bool} {g2 : bo → dD} {c a : Int} {l : List Tm} {c0 : C9} {O D : Pt} (h0 : 0 ≤ a) (h1 : a ≤ 1000) (hl : l.length ≤ 140737488355328) (hok : ok2 (ZC c l a c0 O) = true)
    (e2 : g2 (ZC c l a c0 O) = ((c, l, (), (), a, ()), (c0, bf D, ()))) :
    (m5 ok2 g2 ((c, l, (), (), a, ()), (c0, bf O, ()))).run = some (.inl ((c, l, (), (), a - 4, ()), (c0, bf (eD c D (Sa c l a)), ()))) := by
  unfold ZC at hok e2
  have e2' : g2 ((c, l, (), (), a, 0, ()), (c0.1, c0.2.1, c0.2.2.1, c0.2.2.2.1, c0.2.2.2.2.1, c0.2.2.2.2.2.1, c0.2.2.2.2.2.2.1, c0.2.2.2.2.2.2.2.1, c0.2.2.2.2.2.2.2.2.1, ()), ((bf O).1, (bf O).2.1, (bf O).2.2.1, (bf O).2.2.2.1, (bf O).2.2.2.2.1, (bf O).2.2.2.2.2.1, (bf O).2.2.2.2.2.2.1, (bf O).2.2.2.2.2.2.2.1, (bf O).2.2.2.2.2.2.2.2.1, ()), ()) = ((c, l, (), (), a, ()), (c0, bf D, ())) := e2
  unfold m5 UQ
  simp only [e2']
  refine (OT.ao (decide_eq_true h0)).trans ((ai ?_).trans rfl)
  simp only [List.all_cons, List.all_nil, Bool.and_true, Bool.and_eq_true]
  exact ⟨hok, decide_eq_true ⟨⟨h0, h1⟩, hl⟩, bC (by omega)⟩
def Ct (s : cg) : Bool := decide (s.1.2.2.2.2.1 = 4 * (nK s.1.2.1 : Int) ∧ kl s.2.2.1 = aC ∧ s.1.2.1.length ≤ 140737488355328)
def I8 (s : cg) : hJ := (((), (), ()), (s.2.1, bf (aoW s.1.1 s.1.2.1), ()))
theorem ahr : ∀ s : cg, Ct s = true → ∃ m e, au (m5 oN uT) m s = some e ∧ (A1 I8 s).run = some e := by
  rintro ⟨⟨c, l, ⟨⟩, ⟨⟩, a, ⟨⟩⟩, ⟨c0, c1, ⟨⟩⟩⟩ h
  have h' := of_decide_eq_true h
  dsimp only at h'
  obtain ⟨rfl, hO, hl⟩ := h'
  have hO2 : c1 = bf aC := by rw [← hO]; rfl
  subst hO2
  have hW : nK l ≤ 64 := by
    have := Pm l 256
    unfold nK Pd
    omega
  have := (bF (T := m5 oN uT) (fun n O => (((c, l, (), (), 4 * (nK l : Int) - 4 * (n : Int), ()), (c0, bf O, ())) : cg)) (k9 c l (nK l))
    (fun O => (⟨(.exit 0, qG), (((), (), ()), (c0, bf O, ()))⟩ : aO)) (nK l + 1) aC (fun _ _ => True) trivial (fun n O hn _ => ⟨?_, trivial⟩) (fun O _ => ?_)).1
  · obtain ⟨m, hm⟩ := this
    refine ⟨m, _, ?_, rfl⟩
    have e : 4 * (nK l : Int) - 4 * ((0 : Nat) : Int) = 4 * (nK l : Int) := by omega
    rw [e] at hm
    exact hm
  · have e : 4 * (nK l : Int) - 4 * ((n + 1 : Nat) : Int) = 4 * (nK l : Int) - 4 * (n : Int) - 4 := by omega
    rw [e]
    exact ank (D := aoD c O) (by omega) (by omega) hl (decide_eq_true rfl) rfl
  · exact OT.ap (decide_eq_false (by dsimp only; omega))
def ao8 (l : List Tm) : Bool := decide ((l.length : Int) < 24)
def KM (c : Int) (l : List Tm) : Pt := cond (ao8 l) (ja c l) (aoW c l)
def uS (x : GC) : Bool := decide (x.1.2.1.length ≤ 140737488355328)
def acX (x : GC) : OT jZ.Y := .ok ⟨qE, ((KM x.1.1 x.1.2.1, ()), ())⟩
theorem Xw {ok2 : bo → Bool} {g2 : bo → dD} {ok0 : cg → Bool} {g0 : cg → hJ} {c : Int} {l : List Tm} {R : Pt} (hl : l.length ≤ 140737488355328) (hf : ao8 l = false)
    (h0 : ok0 ((c, l, (), (), 4 * (nK l : Int), ()), (bf ff, bf aC, ())) = true) (e0 : g0 ((c, l, (), (), 4 * (nK l : Int), ()), (bf ff, bf aC, ())) = (((), (), ()), (bf ff, bf R, ()))) :
    (xI ok2 g2 ok0 g0 c l).run = some ⟨qE, ((R, ()), ())⟩ := by
  have ht : Int.tdiv ((Pd l : Int) + 4 - 1) 4 = (nK l : Int) := by
    unfold nK
    rw [Int.tdiv_eq_ediv_of_nonneg (by omega)]
    omega
  have hW := Pm l 256
  have hW : Pd l ≤ 256 := hW
  have hW2 : nK l ≤ 64 := by unfold nK; omega
  have e1 : (nK l : Int) * 4 = 4 * (nK l : Int) := Int.mul_comm _ _
  unfold xI
  have e0' : g0 ((c, l, (), (), 4 * (nK l : Int), ()), (0, 0, 0, 0, 0, 0, 0, 0, false, ()), (0, 0, 0, 0, 0, 0, 0, 0, true, ()), ()) = (((), (), ()), (bf ff, bf R, ())) := e0
  simp only [ht, e1, e0']
  refine (OT.ap hf).trans ((ai ?_).trans rfl)
  simp only [List.all_cons, List.all_nil, Bool.and_true, Bool.true_and, Bool.and_eq_true]
  exact ⟨decide_eq_true hl, bC (by omega), bC (by omega), bC (by omega), bC (by omega), h0⟩
theorem ahp : ab Try.prog 66 (jZ.aK uS acX) := Xv oN uT Ct I8 ahq ahr _ _ fun x oy hp ho => by
  rw [← ho]
  clear ho
  obtain ⟨⟨c, l, ⟨⟩⟩, ⟨⟩⟩ := x
  have hl : l.length ≤ 140737488355328 := of_decide_eq_true hp
  show (xI oN uT Ct I8 c l).run = some ⟨qE, ((KM c l, ()), ())⟩
  rcases (Bool.eq_false_or_eq_true (ao8 l)).symm with hf | hf
  · have e : KM c l = aoW c l := by unfold KM; rw [hf]; rfl
    rw [e]
    exact Xw (R := aoW c l) hl hf (decide_eq_true ⟨rfl, rfl, hl⟩) rfl
  · have e : KM c l = ja c l := by unfold KM; rw [hf]; rfl
    rw [e]
    refine (OT.ao hf).trans ((ai ?_).trans rfl)
    simp only [List.all_cons, List.all_nil, Bool.and_true]
    exact hp
def xH : cI := (jZ.aK uS acX)
theorem QQ : ab Try.prog 66 xH := ahp
theorem QP : aJ xH := aA
def EI : Env := az 66 xH ik
theorem yX : aV Try.prog EI := ag QQ gQ
theorem Ad : aw EI := ac QP pQ
theorem SM : bg Try.prog te EI := aN follows av yX Ad
def gq : aq := ⟨[.ptr 0 0 0], [(0, alZ (.own 1)), (1, .row gR)], false, 2, true⟩
abbrev xD : Type := ((Unit) × Unit) × (((Int) × (Unit) × Unit) × (List ((aa × (aa × (aa × Bool))))) × Unit)
def Cl : ay := ⟨[.val true (.prod .elem (.prod .elem .bool))], [(0, .cells [.val false .int, .own 1]), (1, .row (.prod .elem (.prod .elem (.prod .elem .bool))))], false⟩
def Gz : SV → Option ay := fun _ => some Cl
def I0 (c0_0 : Int) (c1 : List ((aa × (aa × (aa × Bool))))) : OT gq.Y :=
  (gd [uS ((c0_0, c1, ()), ())] (.ok ⟨Cl, ((KM c0_0 c1, ()), ((c0_0, ((), ())), (c1, ())))⟩))
theorem ahj (x : xD) (Q : gq.Y → Prop) : wpf te EI ax 1000 Try.f33 (gq.inp.inj x).tm (gq.inp.inj x).hp (fnK gq Gz Q) (fun _ _ => False) = (I0 (x.2.1.1) (x.2.2.1)).wpR Q := by kernel_rfl
theorem QI (pre : xD → Bool) (F : xD → OT gq.Y) (hF : ∀ (x : xD) oy, pre x = true → (F x).run = some oy → (I0 (x.2.1.1) (x.2.2.1)).run = some oy) : ab Try.prog 33 (gq.aK pre F) :=
  aD av yX SM (f := 33) (fn := Try.f33) (c := ak Try.f33) (by kernel_rfl) (by kernel_rfl) (by kernel_rfl) (S := gq) (k := 2) (by kernel_rfl) (fun R hR => ae) (n := 1000) (sel := Gz) (fun v o h => by cases h; rfl) (pre := pre) (F := F) (T := fun x => I0 (x.2.1.1) (x.2.2.1)) (fun x Q => ahj x Q) hF
def jn (x : xD) : Bool := uS ((x.2.1.1, x.2.2.1, ()), ())
def UE (x : xD) : OT gq.Y := .ok ⟨Cl, ((KM x.2.1.1 x.2.2.1, ()), ((x.2.1.1, ((), ())), (x.2.2.1, ())))⟩
theorem acK : ab Try.prog 33 (gq.aK jn UE) := QI _ _ fun x oy hp ho => by
  rw [← ho]
  clear ho
  refine (ai ?_).trans rfl
  simp only [List.all_cons, List.all_nil, Bool.and_true]
  exact hp
def sD : cI := (gq.aK jn UE)
theorem Mp : ab Try.prog 33 sD := acK
theorem Mo : aJ sD := aA
def rq : Env := az 33 sD EI
theorem nE : aV Try.prog rq := ag Mp yX
theorem vO : aw rq := ac Mo Ad
theorem Aa : bg Try.prog te rq := aN follows av nE vO
def nS : aq := ⟨[.val false .int, .val false (.list gR)], [], true, 0, false⟩
abbrev Xu : Type := ((Int) × (List ((aa × (aa × (aa × Bool))))) × Unit) × (Unit)
def Cs : Shape := ⟨45, [(4, .ptr 0 0 0), (6, .ptr 1 0 0), (26, .val false (.list (.prod .elem (.prod .elem (.prod .elem .bool))))), (27, .val false .int), (28, .val false .int)], [(0, .cells [.val false .u64, .val false .u64, .val false .u64, .val false .u64, .val false .u64, .val false .u64, .val false .u64, .val false .u64, .val false .bool]), (1, .cells [.val false .int, .own 2]), (2, .row (.prod .elem (.prod .elem (.prod .elem .bool))))], 0, true⟩
abbrev bI : Type := ((Unit) × (Unit) × (List ((aa × (aa × (aa × Bool))))) × (Int) × (Int) × Unit) × (((UInt64) × (UInt64) × (UInt64) × (UInt64) × (UInt64) × (UInt64) × (UInt64) × (UInt64) × (Bool) × Unit) × ((Int) × (Unit) × Unit) × (List ((aa × (aa × (aa × Bool))))) × Unit)
def jY : Shape := ⟨45, [(4, .ptr 0 0 0), (5, .val false .int)], [(0, .cells [.val false .u64, .val false .u64, .val false .u64, .val false .u64, .val false .u64, .val false .u64, .val false .u64, .val false .u64, .val false .bool])], 0, true⟩
abbrev lP : Type := ((Unit) × (Int) × Unit) × (((UInt64) × (UInt64) × (UInt64) × (UInt64) × (UInt64) × (UInt64) × (UInt64) × (UInt64) × (Bool) × Unit) × Unit)
def uP : Shape := ⟨45, [(4, .ptr 0 0 0), (6, .ptr 1 0 0)], [(0, .cells [.val false .u64, .val false .u64, .val false .u64, .val false .u64, .val false .u64, .val false .u64, .val false .u64, .val false .u64, .val false .bool]), (1, .cells [.val false .int, .own 2]), (2, .row (.prod .elem (.prod .elem (.prod .elem .bool))))], 0, true⟩
abbrev lQ : Type := ((Unit) × (Unit) × Unit) × (((UInt64) × (UInt64) × (UInt64) × (UInt64) × (UInt64) × (UInt64) × (UInt64) × (UInt64) × (Bool) × Unit) × ((Int) × (Unit) × Unit) × (List ((aa × (aa × (aa × Bool))))) × Unit)
def acV : SE → Option Shape := ku [(1, uP)] (some jY)
def alR (a26 : List ((aa × (aa × (aa × Bool))))) (a27 : Int) (a28 : Int) (c0_0 : UInt64) (c0_1 : UInt64) (c0_2 : UInt64) (c0_3 : UInt64) (c0_4 : UInt64) (c0_5 : UInt64) (c0_6 : UInt64) (c0_7 : UInt64) (c0_8 : Bool) (c1_0 : Int) (c2 : List ((aa × (aa × (aa × Bool))))) : OT (Sum bI aO) :=
  let z0 : aa := { w0 := 0, w1 := 0, w2 := 0, w3 := 0 }
  let z1 : aa × aa × aa × Bool := List.getD a26 (Int.toNat a28) (z0, z0, z0, false)
  let z2 := z1.snd
  (.br (decide (a28 < a27))
  (gd [inB a28 (List.length a26)] (.br (onB c1_0 z2)
    (.br (Ay c2)
      (gd [inR (a28 + (1 : Int))] (.ok (.inl (((), ((), (a26, (a27, (a28 + (1 : Int), ()))))), ((c0_0, (c0_1, (c0_2, (c0_3, (c0_4, (c0_5, (c0_6, (c0_7, (c0_8, ()))))))))), ((c1_0, ((), ())), (c2 ++ [(wJ c1_0 z1.fst, z2)], ())))))))
      (.ok (.inr ⟨(.ret, jY), (((), ((50 : Int), ())), (((0 : UInt64), ((0 : UInt64), ((0 : UInt64), ((0 : UInt64), ((0 : UInt64), ((0 : UInt64), ((0 : UInt64), ((0 : UInt64), (false, ()))))))))), ()))⟩)))
    (.ok (.inr ⟨(.ret, jY), (((), ((41 : Int), ())), (((0 : UInt64), ((0 : UInt64), ((0 : UInt64), ((0 : UInt64), ((0 : UInt64), ((0 : UInt64), ((0 : UInt64), ((0 : UInt64), (false, ()))))))))), ()))⟩))))
  (.ok (.inr ⟨(.exit 1, uP), (((), ((), ())), ((c0_0, (c0_1, (c0_2, (c0_3, (c0_4, (c0_5, (c0_6, (c0_7, (c0_8, ()))))))))), ((c1_0, ((), ())), (c2, ()))))⟩)))
def xG (s : bI) : OT (Sum bI aO) := alR (s.1.2.2.1) (s.1.2.2.2.1) (s.1.2.2.2.2.1) (s.2.1.1) (s.2.1.2.1) (s.2.1.2.2.1) (s.2.1.2.2.2.1) (s.2.1.2.2.2.2.1) (s.2.1.2.2.2.2.2.1) (s.2.1.2.2.2.2.2.2.1) (s.2.1.2.2.2.2.2.2.2.1) (s.2.1.2.2.2.2.2.2.2.2.1) (s.2.2.1.1) (s.2.2.2.1)
theorem alO (s : bI) (Q : Sum bI aO → Prop) : wps te rq ax 1000 (bG (ak Try.f18) 1) (Cs.inj s) (cU Cs acV (Q : Sum Cs.T aO → Prop)) = (xG s).wpR Q := by kernel_rfl
def I7 (g1_r : bI → lP) (c1_r : bI → Bool) (g1_1 : bI → lQ) (s : bI) : OT aO := (.br (c1_r s) (.ok ⟨(.ret, jY), g1_r s⟩) (.ok ⟨(.exit 1, uP), g1_1 s⟩))
def hI : ay := ⟨[.val true (.prod .elem (.prod .elem .bool)), .val false .int], [], false⟩
def UL : SV → Option ay := fun _ => some hI
def UN (ok1 : bI → Bool) (g1_r : bI → lP) (c1_r : bI → Bool) (g1_1 : bI → lQ) (a0 : Int) (a1 : List ((aa × (aa × (aa × Bool))))) : OT nS.Y :=
  let z0 : Int := (↑(List.length a1) : Int)
  let z1 : aa := { w0 := 0, w1 := 0, w2 := 0, w3 := 0 }
  let z2 : aa × aa × Bool := (z1, z1, false)
  let z3 : (PUnit × PUnit × List (aa × aa × aa × Bool) × Int × Int × PUnit) × (UInt64 × UInt64 × UInt64 × UInt64 × UInt64 × UInt64 × UInt64 × UInt64 × Bool × PUnit) × (Int × PUnit × PUnit) × List (aa × aa × aa × Bool) × PUnit := (((), (), a1, z0, (0 : Int), ()), ((0 : UInt64), (0 : UInt64), (0 : UInt64), (0 : UInt64), (0 : UInt64), (0 : UInt64), (0 : UInt64), (0 : UInt64), false, ()), (a0, (), ()), [], ())
  let z4 : (PUnit × Int × PUnit) × (UInt64 × UInt64 × UInt64 × UInt64 × UInt64 × UInt64 × UInt64 × UInt64 × Bool × PUnit) × PUnit := g1_r z3
  let z5 := z4.snd.fst
  let z6 := z5.snd
  let z7 := z6.snd
  let z8 := z7.snd
  let z9 := z8.snd
  let z10 := z9.snd
  let z11 := z10.snd
  let z12 := z11.snd
  let z13 := (g1_1 z3).snd.snd
  let z14 := z13.fst.fst
  let z15 := z13.snd.fst
  (.br (aj a0)
  (.br (decide ((100000 : Int) < z0))
    (.ok ⟨hI, ((z2, ((50 : Int), ())), ())⟩)
    (gd [ok1 z3] (.br (c1_r z3)
      (.ok ⟨hI, ((({ w0 := z5.fst, w1 := z6.fst, w2 := z7.fst, w3 := z8.fst }, { w0 := z9.fst, w1 := z10.fst, w2 := z11.fst, w3 := z12.fst }, z12.snd.fst), (z4.fst.snd.fst, ())), ())⟩)
      (gd [jn (((), ()), (z14, (), ()), z15, ())] (.ok ⟨hI, ((KM z14 z15, ((0 : Int), ())), ())⟩)))))
  (.ok ⟨hI, ((z2, ((40 : Int), ())), ())⟩))
theorem an1 (ok1 : bI → Bool) (g1_r : bI → lP) (c1_r : bI → Bool) (g1_1 : bI → lQ) (x : Xu) (Q : nS.Y → Prop) : wpf te rq (bp 1 (dv Cs 1 ok1 (I7 g1_r c1_r g1_1)) ax) 1000 Try.f18 (nS.inp.inj x).tm (nS.inp.inj x).hp (fnK nS UL Q) (fun _ _ => False) = (UN ok1 g1_r c1_r g1_1 (x.1.1) (x.1.2.1)).wpR Q := by kernel_rfl
theorem acW (ok1 : bI → Bool) (g1_r : bI → lP) (c1_r : bI → Bool) (g1_1 : bI → lQ) (h1 : ∀ s : bI, ok1 s = true → ∃ m e, au (xG) m s = some e ∧ (I7 g1_r c1_r g1_1 s).run = some e) (pre : Xu → Bool) (F : Xu → OT nS.Y) (hF : ∀ (x : Xu) oy, pre x = true → (F x).run = some oy → (UN ok1 g1_r c1_r g1_1 (x.1.1) (x.1.2.1)).run = some oy) : ab Try.prog 18 (nS.aK pre F) :=
  aD av nE Aa (f := 18) (fn := Try.f18) (c := ak Try.f18) (by kernel_rfl) (by kernel_rfl) (by kernel_rfl) (S := nS) (k := 0) (by kernel_rfl) (fun R hR => (aI (c := (ak Try.f18)) (by kernel_rfl) (id := 1) (by kernel_rfl) (bw av nE Aa (sh := Cs) hR (xs := acV) (aH (by kernel_rfl) (by kernel_rfl) hR) aW ae (n := 1000) (T := xG) (fun s Q => alO s Q) (ok := ok1) (f := I7 g1_r c1_r g1_1) h1) ae)) (n := 1000) (sel := UL) (fun v o h => by cases h; rfl) (pre := pre) (F := F) (T := fun x => UN ok1 g1_r c1_r g1_1 (x.1.1) (x.1.2.1)) (fun x Q => an1 ok1 g1_r c1_r g1_1 x Q) hF
def WD (c : Int) (l : List Tm) : List Tm := l.map fun t => (wJ c t.1, t.2)
def cP (c : Int) (l : List Tm) : Bool := l.all fun t => onB c t.2
def I5 (s : bI) : Bool := decide (s.1.2.2.2.1 = (s.1.2.2.1.length : Int) ∧ s.1.2.2.2.2.1 = 0 ∧ s.2.2.2.1 = [] ∧ s.1.2.2.1.length ≤ 100000)
def I6 (_ : bI) : lP := (((), (41 : Int), ()), (bf ff, ()))
def QO (s : bI) : Bool := !cP s.2.2.1.1 s.1.2.2.1
def QN (s : bI) : lQ := (((), (), ()), (s.2.1, (s.2.2.1.1, (), ()), WD s.2.2.1.1 s.1.2.2.1, ()))
def KY (c : Int) (l : List Tm) (c0 : C9) (k : Int) (o : List Tm) : bI := (((), (), l, (l.length : Int), k, ()), (c0, (c, (), ()), o, ()))
theorem TS (c : Int) (l : List Tm) (c0 : C9) (hl : l.length ≤ 100000) : ∀ d k : Nat, k + d = l.length →
    ∃ m, au xG m (KY c l c0 (k : Int) (WD c (l.take k))) = some (cond (cP c (l.drop k)) ⟨(.exit 1, uP), (((), (), ()), (c0, (c, (), ()), WD c l, ()))⟩ ⟨(.ret, jY), (((), (41 : Int), ()), (bf ff, ()))⟩)
  | 0, k, h => by
    rw [List.drop_eq_nil_of_le (by omega), List.take_of_length_le (by omega)]
    exact ⟨1, aR (OT.ap (decide_eq_false (by dsimp only [KY]; omega)))⟩
  | d + 1, k, h => by
    have hk : k < l.length := by omega
    have e1 : l.drop k = l[k] :: l.drop (k + 1) := List.drop_eq_getElem_cons hk
    have e2 : l.take (k + 1) = l.take k ++ [l[k]] := (List.take_append_getElem hk).symm
    have e3 : l.getD k dV = l[k] := by rw [List.getD_eq_getElem?_getD, List.getElem?_eq_getElem hk]; rfl
    have hgd : ∀ z : OT (Sum bI aO), (gd [inB (k : Int) l.length] z).run = z.run := fun z => ai (by rw [bJ (by omega)]; rfl)
    have ea : cP c (l.drop k) = (onB c l[k].2 && cP c (l.drop (k + 1))) := by rw [e1]; rfl
    rw [ea]
    have hr : Ay (WD c (l.take k)) = true := decide_eq_true (by rw [WD, List.length_map, List.length_take]; omega)
    have first : ∀ e : aO ⊕ Unit, (xG (KY c l c0 (k : Int) (WD c (l.take k)))).run = (OT.br (onB c (l.getD k dV).2) (.br (Ay (WD c (l.take k))) (gd [inR ((k : Int) + 1)] (.ok (.inl (KY c l c0 ((k : Int) + 1) (WD c (l.take k) ++ [(wJ c (l.getD k dV).1, (l.getD k dV).2)])))))
        (.ok (.inr ⟨(.ret, jY), (((), (50 : Int), ()), (bf ff, ()))⟩))) (.ok (.inr ⟨(.ret, jY), (((), (41 : Int), ()), (bf ff, ()))⟩)) : OT (Sum bI aO)).run := fun _ =>
      (OT.ao (decide_eq_true (by dsimp only [KY]; omega))).trans ((hgd _).trans rfl)
    have first := first (.inr ())
    rw [e3] at first
    rcases (Bool.eq_false_or_eq_true (onB c l[k].2)).symm with hb | hb
    · rw [hb]
      exact ⟨1, aR (first.trans (OT.ap hb))⟩
    · rw [hb]
      obtain ⟨m, hm⟩ := TS c l c0 hl d (k + 1) (by omega)
      refine ⟨m + 1, aM ?_ hm⟩
      refine first.trans ((OT.ao hb).trans ((OT.ao hr).trans ((ai ?_).trans ?_)))
      · simp only [List.all_cons, List.all_nil, Bool.and_true]
        exact bC (by omega)
      · rw [e2]
        simp only [WD, List.map_append, List.map_cons, List.map_nil]
        rfl
theorem alQ : ∀ s : bI, I5 s = true → ∃ m e, au xG m s = some e ∧ (I7 I6 QO QN s).run = some e := by
  rintro ⟨⟨⟨⟩, ⟨⟩, l, n, k, ⟨⟩⟩, ⟨c0, ⟨c, ⟨⟩, ⟨⟩⟩, o, ⟨⟩⟩⟩ h
  have h' := of_decide_eq_true h
  dsimp only at h'
  obtain ⟨rfl, rfl, rfl, hl⟩ := h'
  obtain ⟨m, hm⟩ := TS c l c0 hl l.length 0 (by omega)
  refine ⟨m, _, hm, ?_⟩
  show (OT.br (!cP c l) _ _ : OT aO).run = some (cond (cP c l) _ _)
  cases cP c l <;> rfl
def UM (_ : Xu) : Bool := true
def aiW (x : Xu) : OT nS.Y := .br (aj x.1.1) (.br (decide (x.1.2.1.length ≤ 100000)) (.br (cP x.1.1 x.1.2.1) (.ok ⟨hI, ((KM x.1.1 (WD x.1.1 x.1.2.1), ((0 : Int), ())), ())⟩)
  (.ok ⟨hI, ((ff, ((41 : Int), ())), ())⟩)) (.ok ⟨hI, ((ff, ((50 : Int), ())), ())⟩)) (.ok ⟨hI, ((ff, ((40 : Int), ())), ())⟩)
theorem alP : ab Try.prog 18 (nS.aK UM aiW) := acW I5 I6 QO QN alQ _ _ fun x oy hp ho => by
  rw [← ho]
  clear ho
  obtain ⟨⟨c, l, ⟨⟩⟩, ⟨⟩⟩ := x
  show (UN I5 I6 QO QN c l).run = (OT.br (aj c) (.br (decide (l.length ≤ 100000)) (.br (cP c l) (.ok ⟨hI, ((KM c (WD c l), ((0 : Int), ())), ())⟩)
    (.ok ⟨hI, ((ff, ((41 : Int), ())), ())⟩)) (.ok ⟨hI, ((ff, ((50 : Int), ())), ())⟩)) (.ok ⟨hI, ((ff, ((40 : Int), ())), ())⟩) : OT nS.Y).run
  rcases (Bool.eq_false_or_eq_true (aj c)).symm with hs | hs
  · exact (OT.ap hs).trans (OT.ap (b := aj c) hs).symm
  · refine (OT.ao hs).trans (Eq.trans ?_ (OT.ao (b := aj c) hs).symm)
    by_cases hl : l.length ≤ 100000
    · refine (OT.ap (decide_eq_false (by omega))).trans (Eq.trans ?_ (OT.ao (b := decide (l.length ≤ 100000)) (decide_eq_true hl)).symm)
      refine (ai ?_).trans ?_
      · simp only [List.all_cons, List.all_nil, Bool.and_true]
        exact decide_eq_true ⟨rfl, rfl, rfl, hl⟩
      · rcases (Bool.eq_false_or_eq_true (cP c l)).symm with ha | ha
        · exact (OT.ao (b := !cP c l) (by rw [ha]; rfl)).trans (OT.ap (b := cP c l) ha).symm
        · refine (OT.ap (b := !cP c l) (by rw [ha]; rfl)).trans (Eq.trans ?_ (OT.ao (b := cP c l) ha).symm)
          refine (ai ?_).trans rfl
          simp only [List.all_cons, List.all_nil, Bool.and_true]
          refine decide_eq_true ?_
          show (WD c l).length ≤ _
          rw [WD, List.length_map]
          omega
    · exact (OT.ao (decide_eq_true (by omega))).trans (OT.ap (b := decide (l.length ≤ 100000)) (decide_eq_false hl)).symm
def Cr : cI := (nS.aK UM aiW)
theorem Xt : ab Try.prog 18 Cr := alP
theorem Xs : aJ Cr := aA
def ON : Env := az 18 Cr rq
theorem EG : aV Try.prog ON := ag Xt nE
theorem EH : aw ON := ac Xs vO
theorem Zg : bg Try.prog te ON := aN follows av EG EH
def gB : aq := ⟨[.val false (.list gR)], [], true, 0, false⟩
abbrev xP : Type := ((List ((aa × (aa × (aa × Bool))))) × Unit) × (Unit)
def CI : ay := ⟨[.own 0], [(0, .row (.prod .elem (.prod .elem (.prod .elem .bool))))], false⟩
def GS : SV → Option ay := fun _ => some CI
def Jj (a0 : List ((aa × (aa × (aa × Bool))))) : OT gB.Y :=
  (gd [decide ((0 + List.length a0) * 104 ≤ 140737488355328)] (.ok ⟨CI, (((), ()), ([] ++ a0, ()))⟩))
theorem ahC (x : xP) (Q : gB.Y → Prop) : wpf te ON ax 1000 Try.f19 (gB.inp.inj x).tm (gB.inp.inj x).hp (fnK gB GS Q) (fun _ _ => False) = (Jj (x.1.1)).wpR Q := by kernel_rfl
theorem QW (pre : xP → Bool) (F : xP → OT gB.Y) (hF : ∀ (x : xP) oy, pre x = true → (F x).run = some oy → (Jj (x.1.1)).run = some oy) : ab Try.prog 19 (gB.aK pre F) :=
  aD av EG Zg (f := 19) (fn := Try.f19) (c := ak Try.f19) (by kernel_rfl) (by kernel_rfl) (by kernel_rfl) (S := gB) (k := 0) (by kernel_rfl) (fun R hR => ae) (n := 1000) (sel := GS) (fun v o h => by cases h; rfl) (pre := pre) (F := F) (T := fun x => Jj (x.1.1)) (fun x Q => ahC x Q) hF
def qO (x : xP) : Bool := decide (x.1.1.length * 104 ≤ 140737488355328)
def UY (x : xP) : OT gB.Y := .ok ⟨CI, (((), ()), (x.1.1, ()))⟩
theorem adj : ab Try.prog 19 (gB.aK qO UY) := QW _ _ fun x oy hp ho => by
  rw [← ho]
  have hp' : x.1.1.length * 104 ≤ 140737488355328 := of_decide_eq_true hp
  refine (ai ?_).trans rfl
  simp only [List.all_cons, List.all_nil, Bool.and_true]
  exact decide_eq_true (by omega)
def sN : cI := (gB.aK qO UY)
theorem MO : ab Try.prog 19 sN := adj
theorem MN : aJ sN := aA
def rz : Env := az 19 sN ON
theorem nG : aV Try.prog rz := ag MO EG
theorem vY : aw rz := ac MN EH
theorem Ag : bg Try.prog te rz := aN follows av nG vY
def gw : aq := ⟨[.val false (.list gR), .val false (.list gR)], [], true, 0, false⟩
abbrev xM : Type := ((List ((aa × (aa × (aa × Bool))))) × (List ((aa × (aa × (aa × Bool))))) × Unit) × (Unit)
def oR : Shape := ⟨26, [(0, .val false (.list (.prod .elem (.prod .elem (.prod .elem .bool))))), (1, .val false (.list (.prod .elem (.prod .elem (.prod .elem .bool))))), (5, .val false .int)], [], 0, true⟩
abbrev aZ : Type := ((List ((aa × (aa × (aa × Bool))))) × (List ((aa × (aa × (aa × Bool))))) × (Int) × Unit) × (Unit)
def m7 : Shape := ⟨26, [(4, .val false .bool)], [], 0, true⟩
abbrev iA : Type := ((Bool) × Unit) × (Unit)
def m8 : Shape := ⟨26, [], [], 0, true⟩
abbrev iB : Type := (Unit) × (Unit)
def MB : SE → Option Shape := ku [(0, m8)] (some m7)
def ac6 (a0 : List ((aa × (aa × (aa × Bool))))) (a1 : List ((aa × (aa × (aa × Bool))))) (a5 : Int) : OT (Sum aZ aO) :=
  let z0 : Nat := List.length a0
  let z1 : Nat := Int.toNat a5
  let z2 : aa := { w0 := 0, w1 := 0, w2 := 0, w3 := 0 }
  let z3 : aa × aa × aa × Bool := (z2, z2, z2, false)
  let z4 : aa × aa × aa × Bool := List.getD a0 z1 z3
  let z5 := z4.fst
  let z6 : aa × aa × aa × Bool := List.getD a1 z1 z3
  let z7 := z6.fst
  let z8 := z4.snd
  let z9 := z8.fst
  let z10 := z6.snd
  let z11 := z10.fst
  let z12 := z8.snd
  let z13 := z12.fst
  let z14 := z10.snd
  let z15 := z14.fst
  (.br (decide (a5 < (↑z0 : Int)))
  (gd [inB a5 z0, inB a5 (List.length a1)] (.br (!(z5.w0 == z7.w0 && (z5.w1 == z7.w1 && (z5.w2 == z7.w2 && (z5.w3 == z7.w3 && true))) && (z9.w0 == z11.w0 && (z9.w1 == z11.w1 && (z9.w2 == z11.w2 && (z9.w3 == z11.w3 && true))) && (z13.w0 == z15.w0 && (z13.w1 == z15.w1 && (z13.w2 == z15.w2 && (z13.w3 == z15.w3 && true))) && (z12.snd == z14.snd && true)) && true)))
    (.ok (.inr ⟨(.ret, m7), ((false, ()), ())⟩))
    (gd [inR (a5 + (1 : Int))] (.ok (.inl ((a0, (a1, (a5 + (1 : Int), ()))), ()))))))
  (.ok (.inr ⟨(.exit 0, m8), ((), ())⟩)))
def oV (s : aZ) : OT (Sum aZ aO) := ac6 (s.1.1) (s.1.2.1) (s.1.2.2.1)
theorem ac3 (s : aZ) (Q : Sum aZ aO → Prop) : wps te rz ax 1000 (bG (ak Try.f31) 0) (oR.inj s) (cU oR MB (Q : Sum oR.T aO → Prop)) = (oV s).wpR Q := by kernel_rfl
def lT (g0_r : aZ → iA) (c0_r : aZ → Bool) (g0_0 : aZ → iB) (s : aZ) : OT aO := (.br (c0_r s) (.ok ⟨(.ret, m7), g0_r s⟩) (.ok ⟨(.exit 0, m8), g0_0 s⟩))
def oU : ay := ⟨[.val false .bool], [], false⟩
def GH : SV → Option ay := fun _ => some oU
def Jc (ok0 : aZ → Bool) (g0_r : aZ → iA) (c0_r : aZ → Bool) (g0_0 : aZ → iB) (a0 : List ((aa × (aa × (aa × Bool))))) (a1 : List ((aa × (aa × (aa × Bool))))) : OT gw.Y :=
  let z0 : (List (aa × aa × aa × Bool) × List (aa × aa × aa × Bool) × Int × PUnit) × PUnit := ((a0, a1, (0 : Int), ()), ())
  (.br (!(↑(List.length a0) : Int) == (↑(List.length a1) : Int))
  (.ok ⟨oU, ((false, ()), ())⟩)
  (gd [ok0 z0] (.br (c0_r z0)
    (.ok ⟨oU, (((g0_r z0).fst.fst, ()), ())⟩)
    (.ok ⟨oU, ((true, ()), ())⟩))))
theorem ahu (ok0 : aZ → Bool) (g0_r : aZ → iA) (c0_r : aZ → Bool) (g0_0 : aZ → iB) (x : xM) (Q : gw.Y → Prop) : wpf te rz (bp 0 (dv oR 0 ok0 (lT g0_r c0_r g0_0)) ax) 1000 Try.f31 (gw.inp.inj x).tm (gw.inp.inj x).hp (fnK gw GH Q) (fun _ _ => False) = (Jc ok0 g0_r c0_r g0_0 (x.1.1) (x.1.2.1)).wpR Q := by kernel_rfl
theorem QS (ok0 : aZ → Bool) (g0_r : aZ → iA) (c0_r : aZ → Bool) (g0_0 : aZ → iB) (h0 : ∀ s : aZ, ok0 s = true → ∃ m e, au (oV) m s = some e ∧ (lT g0_r c0_r g0_0 s).run = some e) (pre : xM → Bool) (F : xM → OT gw.Y) (hF : ∀ (x : xM) oy, pre x = true → (F x).run = some oy → (Jc ok0 g0_r c0_r g0_0 (x.1.1) (x.1.2.1)).run = some oy) : ab Try.prog 31 (gw.aK pre F) :=
  aD av nG Ag (f := 31) (fn := Try.f31) (c := ak Try.f31) (by kernel_rfl) (by kernel_rfl) (by kernel_rfl) (S := gw) (k := 0) (by kernel_rfl) (fun R hR => (aI (c := (ak Try.f31)) (by kernel_rfl) (id := 0) (by kernel_rfl) (bw av nG Ag (sh := oR) hR (xs := MB) (aH (by kernel_rfl) (by kernel_rfl) hR) aW ae (n := 1000) (T := oV) (fun s Q => ac3 s Q) (ok := ok0) (f := lT g0_r c0_r g0_0) h0) ae)) (n := 1000) (sel := GH) (fun v o h => by cases h; rfl) (pre := pre) (F := F) (T := fun x => Jc ok0 g0_r c0_r g0_0 (x.1.1) (x.1.2.1)) (fun x Q => ahu ok0 g0_r c0_r g0_0 x Q) hF
def aoy (a b : Tm) : Bool := (a.1.w0 == b.1.w0 && (a.1.w1 == b.1.w1 && (a.1.w2 == b.1.w2 && (a.1.w3 == b.1.w3 && true))) && (a.2.1.w0 == b.2.1.w0 && (a.2.1.w1 == b.2.1.w1 && (a.2.1.w2 == b.2.1.w2 && (a.2.1.w3 == b.2.1.w3 && true))) && (a.2.2.1.w0 == b.2.2.1.w0 && (a.2.2.1.w1 == b.2.2.1.w1 && (a.2.2.1.w2 == b.2.2.1.w2 && (a.2.2.1.w3 == b.2.2.1.w3 && true))) && (a.2.2.2 == b.2.2.2 && true)) && true))
theorem VJ {a b : Tm} : aoy a b = true ↔ a = b := by
  obtain ⟨⟨a0, a1, a2, a3⟩, ⟨a4, a5, a6, a7⟩, ⟨a8, a9, a10, a11⟩, a12⟩ := a
  obtain ⟨⟨b0, b1, b2, b3⟩, ⟨b4, b5, b6, b7⟩, ⟨b8, b9, b10, b11⟩, b12⟩ := b
  simp only [aoy, Bool.and_eq_true, beq_iff_eq, and_true, Prod.mk.injEq, aa.mk.injEq]
def GI (s : aZ) : Bool := decide (s.1.2.2.1 = 0 ∧ s.1.1.length = s.1.2.1.length ∧ s.1.1.length ≤ 140737488355328)
def GJ (_ : aZ) : iA := ((false, ()), ())
def lU (s : aZ) : Bool := !decide (s.1.1 = s.1.2.1)
def ME (_ : aZ) : iB := ((), ())
theorem Cz {a b : List Tm} (hab : a.length = b.length) (hl : a.length ≤ 140737488355328) : ∀ d i, i + d = a.length →
    ∃ m, au oV m ((a, b, (i : Int), ()), ()) = some (cond (decide (a.drop i = b.drop i)) ⟨(.exit 0, m8), ((), ())⟩ ⟨(.ret, m7), ((false, ()), ())⟩)
  | 0, i, h => by
    refine ⟨1, ?_⟩
    have h1 : a.drop i = [] := List.drop_eq_nil_of_le (by omega)
    have h2 : b.drop i = [] := List.drop_eq_nil_of_le (by omega)
    rw [h1, h2, decide_eq_true rfl]
    exact aR (OT.ap (decide_eq_false (by dsimp only; omega)))
  | d + 1, i, h => by
    have hi : i < a.length := by omega
    have hi' : i < b.length := by omega
    have e1 : a.drop i = a[i] :: a.drop (i + 1) := List.drop_eq_getElem_cons hi
    have e2 : b.drop i = b[i] :: b.drop (i + 1) := List.drop_eq_getElem_cons hi'
    have g1 : a.getD i dV = a[i] := by rw [List.getD_eq_getElem?_getD, List.getElem?_eq_getElem hi]; rfl
    have g2 : b.getD i dV = b[i] := by rw [List.getD_eq_getElem?_getD, List.getElem?_eq_getElem hi']; rfl
    have hg : ∀ x : OT (Sum aZ aO), (gd [inB (i : Int) a.length, inB (i : Int) b.length] x).run = x.run := fun x => ai (by simp only [List.all_cons, List.all_nil, Bool.and_true, Bool.and_eq_true]; exact ⟨bJ (by omega), bJ (by omega)⟩)
    by_cases hx : a[i] = b[i]
    · obtain ⟨m, hm⟩ := Cz hab hl d (i + 1) (by omega)
      refine ⟨m + 1, aM (s' := ((a, b, ((i + 1 : Nat) : Int), ()), ())) ?_ ?_⟩
      · refine (OT.ao (decide_eq_true (by dsimp only; omega))).trans ((hg _).trans ((OT.ap ?_).trans ((ai ?_).trans rfl)))
        · show (!aoy (a.getD i dV) (b.getD i dV)) = false
          rw [g1, g2, hx, VJ.2 rfl]
          rfl
        · simp only [List.all_cons, List.all_nil, Bool.and_true]
          exact bC (by omega)
      · rw [hm, e1, e2, hx]
        simp only [List.cons.injEq, true_and]
    · refine ⟨1, ?_⟩
      have : decide (a.drop i = b.drop i) = false := decide_eq_false (by rw [e1, e2]; intro h; exact hx (List.cons.inj h).1)
      rw [this]
      refine aR ((OT.ao (decide_eq_true (by dsimp only; omega))).trans ((hg _).trans ((OT.ao ?_).trans rfl)))
      show (!aoy (a.getD i dV) (b.getD i dV)) = true
      rw [g1, g2]
      cases hq : aoy a[i] b[i]
      · rfl
      · exact absurd (VJ.1 hq) hx
theorem ac5 : ∀ s : aZ, GI s = true → ∃ m e, au oV m s = some e ∧ (lT GJ lU ME s).run = some e := by
  rintro ⟨⟨a, b, i, ⟨⟩⟩, ⟨⟩⟩ h
  have h' := of_decide_eq_true h
  dsimp only at h'
  obtain ⟨rfl, hab, hl⟩ := h'
  obtain ⟨m, hm⟩ := Cz hab hl a.length 0 (by omega)
  refine ⟨m, _, hm, ?_⟩
  simp only [List.drop_zero]
  by_cases hx : a = b
  · simp only [lT, lU, hx, decide_true, Bool.not_true]
    rfl
  · have : decide (a = b) = false := decide_eq_false hx
    simp only [lT, lU, this, Bool.not_false]
    rfl
def eo (x : xM) : Bool := decide (x.1.1.length ≤ 140737488355328)
def uW (x : xM) : OT gw.Y := .ok ⟨oU, ((decide (x.1.1 = x.1.2.1), ()), ())⟩
theorem ac4 : ab Try.prog 31 (gw.aK eo uW) := QS GI GJ lU ME ac5 _ _ fun x oy hp ho => by
  rw [← ho]
  clear ho
  obtain ⟨⟨a, b, ⟨⟩⟩, ⟨⟩⟩ := x
  have hp' : a.length ≤ 140737488355328 := of_decide_eq_true hp
  by_cases hab : a.length = b.length
  · refine (OT.ap (by simp [hab])).trans ((ai ?_).trans ?_)
    · simp only [List.all_cons, List.all_nil, Bool.and_true]
      exact decide_eq_true ⟨rfl, hab, hp'⟩
    · by_cases hx : a = b
      · refine (OT.ap (by simp [lU, hx])).trans ?_
        simp only [uW, hx, decide_true]
      · refine (OT.ao (by simp [lU, hx])).trans ?_
        have : decide (a = b) = false := decide_eq_false hx
        simp only [uW, this]
        rfl
  · refine (OT.ao (by simp; omega)).trans ?_
    have : decide (a = b) = false := decide_eq_false fun e => hab (by rw [e])
    simp only [uW, this]
def sJ : cI := (gw.aK eo uW)
theorem MD : ab Try.prog 31 sJ := ac4
theorem MC : aJ sJ := aA
def vU : Env := az 31 sJ rz
theorem tq : aV Try.prog vU := ag MD nG
theorem vT : aw vU := ac MC vY
theorem OP : bg Try.prog te vU := aN follows av tq vT
def eX : aq := ⟨[], [], true, 0, false⟩
abbrev rc : Type := (Unit) × (Unit)
def rb : ay := ⟨[.val false .bool], [], false⟩
def D4 : SV → Option ay := fun _ => some rb
def vn : OT eX.Y :=
  (.ok ⟨rb, ((true, ()), ())⟩)
theorem ae6 (x : rc) (Q : eX.Y → Prop) : wpf te vU ax 1000 Try.f17 (eX.inp.inj x).tm (eX.inp.inj x).hp (fnK eX D4 Q) (fun _ _ => False) = (vn).wpR Q := by kernel_rfl
theorem N5 (pre : rc → Bool) (F : rc → OT eX.Y) (hF : ∀ (x : rc) oy, pre x = true → (F x).run = some oy → (vn).run = some oy) : ab Try.prog 17 (eX.aK pre F) :=
  aD av tq OP (f := 17) (fn := Try.f17) (c := ak Try.f17) (by kernel_rfl) (by kernel_rfl) (by kernel_rfl) (S := eX) (k := 0) (by kernel_rfl) (fun R hR => ae) (n := 1000) (sel := D4) (fun v o h => by cases h; rfl) (pre := pre) (F := F) (T := fun x => vn) (fun x Q => ae6 x Q) hF
def D5 (_ : rc) : Bool := true
def N6 (_ : rc) : OT eX.Y := .ok ⟨rb, ((true, ()), ())⟩
theorem Y4 : ab Try.prog 17 (eX.aK D5 N6) := N5 _ _ fun x oy hp ho => by
  rw [← ho]
  clear ho
  show vn.run = some ⟨rb, ((true, ()), ())⟩
  kernel_rfl
def pE : cI := (eX.aK D5 N6)
theorem J9 : ab Try.prog 17 pE := Y4
theorem J8 : aJ pE := aA
def mF : Env := az 17 pE vU
theorem k8 : aV Try.prog mF := ag J9 tq
theorem rZ : aw mF := ac J8 vT
theorem wm : bg Try.prog te mF := aN follows av k8 rZ
def gv : aq := ⟨[.ptr 0 0 0, .val true .elem], [(0, alZ (.own 1)), (1, .row gR)], false, 2, true⟩
abbrev xL : Type := ((Unit) × (aa) × Unit) × (((Int) × (Unit) × Unit) × (List ((aa × (aa × (aa × Bool))))) × Unit)
def oP : Shape := ⟨36, [(0, .ptr 0 0 0), (3, .ptr 2 0 0), (9, .val false .int), (10, .val false .int)], [(0, .cells [.val false .int, .own 1]), (1, .row (.prod .elem (.prod .elem (.prod .elem .bool)))), (2, .row .u64)], 2, true⟩
abbrev cf : Type := ((Unit) × (Unit) × (Int) × (Int) × Unit) × (((Int) × (Unit) × Unit) × (List ((aa × (aa × (aa × Bool))))) × (List (UInt64)) × Unit)
def m6 : Shape := ⟨36, [], [(0, .cells [.val false .int, .own 1]), (1, .row (.prod .elem (.prod .elem (.prod .elem .bool))))], 2, true⟩
abbrev iz : Type := (Unit) × (((Int) × (Unit) × Unit) × (List ((aa × (aa × (aa × Bool))))) × Unit)
def Mx : SE → Option Shape := ku [(0, m6)] none
def ac2 (a9 : Int) (a10 : Int) (c0_0 : Int) (c1 : List ((aa × (aa × (aa × Bool))))) (c2 : List (UInt64)) : OT (Sum cf aO) :=
  let z0 : Nat := List.length c1
  let z1 : Bool := inB a10 z0
  let z2 : Nat := Int.toNat a10
  let z3 : Bool := decide (z2 < z0)
  let z4 : Int := tL c0_0 (1 : Int)
  let z5 : Bool := inR (a10 + (1 : Int))
  let z6 : aa := { w0 := 0, w1 := 0, w2 := 0, w3 := 0 }
  let z7 : aa × aa × aa × Bool := List.getD c1 z2 (z6, z6, z6, false)
  let z8 := z7.snd
  (.br (decide (a10 < a9))
  (gd [z1, z3, decide (4 ≤ List.length c2)] (.br (aj z4)
    (gd [z1, z3, z5] (.ok (.inl (((), ((), (a9, (a10 + (1 : Int), ())))), ((c0_0, ((), ())), (List.set c1 z2 (aQ (pS z4) z7.fst { w0 := List.getD c2 0 0, w1 := List.getD c2 1 0, w2 := List.getD c2 2 0, w3 := List.getD c2 3 0 }, z8), (c2, ())))))))
    (gd [z1, z3, z5] (.ok (.inl (((), ((), (a9, (a10 + (1 : Int), ())))), ((c0_0, ((), ())), (List.set c1 z2 (z6, z8), (c2, ())))))))))
  (.ok (.inr ⟨(.exit 0, m6), ((), ((c0_0, ((), ())), (c1, ())))⟩)))
def oQ (s : cf) : OT (Sum cf aO) := ac2 (s.1.2.2.1) (s.1.2.2.2.1) (s.2.1.1) (s.2.2.1) (s.2.2.2.1)
theorem acZ (s : cf) (Q : Sum cf aO → Prop) : wps te mF ax 1000 (bG (ak Try.f32) 0) (oP.inj s) (cU oP Mx (Q : Sum oP.T aO → Prop)) = (oQ s).wpR Q := by kernel_rfl
def uV (g0_0 : cf → iz) (s : cf) : OT aO := (.ok ⟨(.exit 0, m6), g0_0 s⟩)
def Cy : ay := ⟨[], [(0, .cells [.val false .int, .own 1]), (1, .row (.prod .elem (.prod .elem (.prod .elem .bool))))], false⟩
def GG : SV → Option ay := fun _ => some Cy
def Jb (ok0 : cf → Bool) (g0_0 : cf → iz) (a1 : aa) (c0_0 : Int) (c1 : List ((aa × (aa × (aa × Bool))))) : OT gv.Y :=
  let z0 : (PUnit × PUnit × Int × Int × PUnit) × (Int × PUnit × PUnit) × List (aa × aa × aa × Bool) × List UInt64 × PUnit := (((), (), (↑(List.length c1) : Int), (0 : Int), ()), (c0_0, (), ()), c1, [a1.w0, a1.w1, a1.w2, a1.w3], ())
  let z1 := (g0_0 z0).snd
  (gd [ok0 z0] (.ok ⟨Cy, ((), ((z1.fst.fst, ((), ())), (z1.snd.fst, ())))⟩))
theorem aht (ok0 : cf → Bool) (g0_0 : cf → iz) (x : xL) (Q : gv.Y → Prop) : wpf te mF (bp 0 (dv oP 0 ok0 (uV g0_0)) ax) 1000 Try.f32 (gv.inp.inj x).tm (gv.inp.inj x).hp (fnK gv GG Q) (fun _ _ => False) = (Jb ok0 g0_0 (x.1.2.1) (x.2.1.1) (x.2.2.1)).wpR Q := by kernel_rfl
theorem QR (ok0 : cf → Bool) (g0_0 : cf → iz) (h0 : ∀ s : cf, ok0 s = true → ∃ m e, au (oQ) m s = some e ∧ (uV g0_0 s).run = some e) (pre : xL → Bool) (F : xL → OT gv.Y) (hF : ∀ (x : xL) oy, pre x = true → (F x).run = some oy → (Jb ok0 g0_0 (x.1.2.1) (x.2.1.1) (x.2.2.1)).run = some oy) : ab Try.prog 32 (gv.aK pre F) :=
  aD av k8 wm (f := 32) (fn := Try.f32) (c := ak Try.f32) (by kernel_rfl) (by kernel_rfl) (by kernel_rfl) (S := gv) (k := 2) (by kernel_rfl) (fun R hR => (aI (c := (ak Try.f32)) (by kernel_rfl) (id := 0) (by kernel_rfl) (bw av k8 wm (sh := oP) hR (xs := Mx) (aH (by kernel_rfl) (by kernel_rfl) hR) aW ae (n := 1000) (T := oQ) (fun s Q => acZ s Q) (ok := ok0) (f := uV g0_0) h0) ae)) (n := 1000) (sel := GG) (fun v o h => by cases h; rfl) (pre := pre) (F := F) (T := fun x => Jb ok0 g0_0 (x.1.2.1) (x.2.1.1) (x.2.2.1)) (fun x Q => aht ok0 g0_0 x Q) hF
theorem abf {α : Type} (f : α → α) (d : α) (l : List α) : ∀ n, n ≤ l.length → upto (fun k (o : List α) => o.set k (f (o.getD k d))) l n = (l.take n).map f ++ l.drop n
  | 0, _ => rfl
  | n + 1, h => by
    have hn : n < l.length := by omega
    show (upto (fun k (o : List α) => o.set k (f (o.getD k d))) l n).set n (f ((upto (fun k (o : List α) => o.set k (f (o.getD k d))) l n).getD n d)) = _
    rw [abf f d l n (by omega)]
    have hl : ((l.take n).map f).length = n := by rw [List.length_map, List.length_take]; omega
    have hg : ((l.take n).map f ++ l.drop n).getD n d = l[n] := by
      rw [List.getD_eq_getElem?_getD, List.getElem?_append_right (by omega), hl, Nat.sub_self, List.drop_eq_getElem_cons hn]
      rfl
    rw [hg, List.set_append_right _ _ (by omega), hl, Nat.sub_self, List.drop_eq_getElem_cons hn, List.set_cons_zero, ← List.take_append_getElem hn, List.map_append, List.append_assoc]
    rfl
def abh (c : Int) (k : aa) (t : Tm) : Tm := (aQ (pS (tL c 1)) t.1 k, t.2)
def kB (c : Int) (k : aa) (l : List Tm) : List Tm := l.map (abh c k)
def xK (s : cf) : Bool := aj (tL s.2.1.1 1) && decide (s.1.2.2.1 = (s.2.2.1.length : Int) ∧ s.1.2.2.2.1 = 0 ∧ s.2.2.2.1.length = 4 ∧ s.2.2.1.length ≤ 140737488355328)
def MA (s : cf) : iz := ((), (s.2.1, kB s.2.1.1 (elemOf s.2.2.2.1) s.2.2.1, ()))
theorem ac1 : ∀ s : cf, xK s = true → ∃ m e, au oQ m s = some e ∧ (uV MA s).run = some e := by
  rintro ⟨⟨⟨⟩, ⟨⟩, n, i, ⟨⟩⟩, ⟨⟨c, ⟨⟩, ⟨⟩⟩, l, k, ⟨⟩⟩⟩ h
  simp only [xK, Bool.and_eq_true, decide_eq_true_eq] at h
  obtain ⟨hs, rfl, rfl, hk, hl⟩ := h
  obtain ⟨a, rfl⟩ : ∃ a, k = lst a := ⟨elemOf k, (bc hk).symm⟩
  have := (bF (T := oQ) (fun i o => ((((), (), (l.length : Int), (i : Int), ()), ((c, (), ()), o, lst a, ())) : cf)) (fun k (o : List Tm) => o.set k (abh c a (o.getD k dV)))
    (fun o => (⟨(.exit 0, m6), ((), ((c, (), ()), o, ()))⟩ : aO)) l.length l (fun _ o => o.length = l.length) rfl (fun i o hi ho => ⟨?_, (List.length_set ..).trans ho⟩) (fun o ho => ?_)).1
  · obtain ⟨m, hm⟩ := this
    rw [abf _ _ _ _ (Nat.le_refl _), List.take_length, List.drop_length, List.append_nil] at hm
    exact ⟨m, _, hm, rfl⟩
  · have i1 : inB (i : Int) o.length = true := by rw [ho]; exact bJ (by omega)
    have i2 : decide (Int.toNat (i : Int) < o.length) = true := decide_eq_true (by rw [Int.toNat_natCast, ho]; exact hi)
    have i3 : inR ((i : Int) + 1) = true := bC (by omega)
    refine (OT.ao (decide_eq_true (by dsimp only; omega))).trans ((ai ?_).trans ((OT.ao hs).trans ((ai ?_).trans rfl)))
    · simp only [List.all_cons, List.all_nil, Bool.and_true, Bool.and_eq_true]
      exact ⟨i1, i2, rfl⟩
    · simp only [List.all_cons, List.all_nil, Bool.and_true, Bool.and_eq_true]
      exact ⟨i1, i2, i3⟩
  · exact OT.ap (decide_eq_false (by dsimp only; omega))
def qJ (x : xL) : Bool := aj x.2.1.1 && decide (x.2.2.1.length ≤ 140737488355328)
def UR (x : xL) : OT gv.Y := .ok ⟨Cy, ((), ((x.2.1.1, ((), ())), (kB x.2.1.1 x.1.2.1 x.2.2.1, ())))⟩
theorem ac0 : ab Try.prog 32 (gv.aK qJ UR) := QR xK MA ac1 _ _ fun x oy hp ho => by
  rw [← ho]
  clear ho
  obtain ⟨⟨⟨⟩, k, ⟨⟩⟩, ⟨⟨c, ⟨⟩, ⟨⟩⟩, l, ⟨⟩⟩⟩ := x
  obtain ⟨hs, hl⟩ := (Bool.and_eq_true _ _).mp hp
  refine (ai ?_).trans rfl
  simp only [List.all_cons, List.all_nil, Bool.and_true]
  exact (Bool.and_eq_true _ _).mpr ⟨fJ hs, decide_eq_true ⟨rfl, rfl, rfl, of_decide_eq_true hl⟩⟩
def sI : cI := (gv.aK qJ UR)
theorem Mz : ab Try.prog 32 sI := ac0
theorem My : aJ sI := aA
def vS : Env := az 32 sI mF
theorem tp : aV Try.prog vS := ag Mz k8
theorem vR : aw vS := ac My rZ
theorem OO : bg Try.prog te vS := aN follows av tp vR
def iQ : aq := ⟨[.ptr 0 0 0, .ptr 1 0 0], [(0, alZ (.own 3)), (1, alZ (.own 2)), (2, .row gR), (3, .row gR)], false, 3, true⟩
abbrev GL : Type := ((Unit) × (Unit) × Unit) × (((Int) × (Unit) × Unit) × ((Int) × (Unit) × Unit) × (List ((aa × (aa × (aa × Bool))))) × (List ((aa × (aa × (aa × Bool))))) × Unit)
def m9 : ay := ⟨[.val false .int], [(0, .cells [.val false .int, .own 3]), (1, .cells [.val false .int, .own 2]), (2, .row (.prod .elem (.prod .elem (.prod .elem .bool)))), (3, .row (.prod .elem (.prod .elem (.prod .elem .bool))))], false⟩
def MI : SV → Option ay := fun _ => some m9
def Jg (c0_0 : Int) (c1_0 : Int) (c2 : List ((aa × (aa × (aa × Bool))))) (c3 : List ((aa × (aa × (aa × Bool))))) : OT iQ.Y :=
  let z0 : Int := (↑(List.length c3) : Int) + (↑(List.length c2) : Int)
  (.br (!c1_0 == c0_0)
  (.ok ⟨m9, (((40 : Int), ()), ((c0_0, ((), ())), ((c1_0, ((), ())), (c2, (c3, ())))))⟩)
  (gd [inR z0] (.br (decide ((100000 : Int) < z0))
    (.ok ⟨m9, (((50 : Int), ()), ((c0_0, ((), ())), ((c1_0, ((), ())), (c2, (c3, ())))))⟩)
    (gd [decide ((List.length c3 + List.length c2) * 104 ≤ 140737488355328)] (.ok ⟨m9, (((0 : Int), ()), ((c0_0, ((), ())), ((c1_0, ((), ())), (c2, (c3 ++ c2, ())))))⟩)))))
theorem alX (x : GL) (Q : iQ.Y → Prop) : wpf te vS ax 1000 Try.f42 (iQ.inp.inj x).tm (iQ.inp.inj x).hp (fnK iQ MI Q) (fun _ _ => False) = (Jg (x.2.1.1) (x.2.2.1.1) (x.2.2.2.1) (x.2.2.2.2.1)).wpR Q := by kernel_rfl
theorem XF (pre : GL → Bool) (F : GL → OT iQ.Y) (hF : ∀ (x : GL) oy, pre x = true → (F x).run = some oy → (Jg (x.2.1.1) (x.2.2.1.1) (x.2.2.2.1) (x.2.2.2.2.1)).run = some oy) : ab Try.prog 42 (iQ.aK pre F) :=
  aD av tp OO (f := 42) (fn := Try.f42) (c := ak Try.f42) (by kernel_rfl) (by kernel_rfl) (by kernel_rfl) (S := iQ) (k := 4) (by kernel_rfl) (fun R hR => ae) (n := 1000) (sel := MI) (fun v o h => by cases h; rfl) (pre := pre) (F := F) (T := fun x => Jg (x.2.1.1) (x.2.2.1.1) (x.2.2.2.1) (x.2.2.2.2.1)) (fun x Q => alX x Q) hF
def uY (x : GL) : Bool := decide (x.2.2.2.1.length + x.2.2.2.2.1.length ≤ 140737488355328)
def ana (l o : List Tm) : Bool := decide (l.length + o.length ≤ 100000)
def ade (x : GL) : OT iQ.Y := .br (x.2.2.1.1 == x.2.1.1) (.br (ana x.2.2.2.2.1 x.2.2.2.1) (.ok ⟨m9, (((0 : Int), ()), ((x.2.1.1, ((), ())), ((x.2.2.1.1, ((), ())), (x.2.2.2.1, (x.2.2.2.2.1 ++ x.2.2.2.1, ())))))⟩)
  (.ok ⟨m9, (((50 : Int), ()), ((x.2.1.1, ((), ())), ((x.2.2.1.1, ((), ())), (x.2.2.2.1, (x.2.2.2.2.1, ())))))⟩)) (.ok ⟨m9, (((40 : Int), ()), ((x.2.1.1, ((), ())), ((x.2.2.1.1, ((), ())), (x.2.2.2.1, (x.2.2.2.2.1, ())))))⟩)
theorem ahx : ab Try.prog 42 (iQ.aK uY ade) := XF _ _ fun x oy hp ho => by
  rw [← ho]
  clear ho
  obtain ⟨⟨⟨⟩, ⟨⟩, ⟨⟩⟩, ⟨⟨c, ⟨⟩, ⟨⟩⟩, ⟨d, ⟨⟩, ⟨⟩⟩, o, l, ⟨⟩⟩⟩ := x
  have hp : o.length + l.length ≤ 140737488355328 := of_decide_eq_true hp
  show (Jg c d o l).run = (OT.br (d == c) (.br (ana l o) _ _) _ : OT iQ.Y).run
  rcases (Bool.eq_false_or_eq_true (d == c)).symm with h | h
  · exact (OT.ao (b := !(d == c)) (by rw [h]; rfl)).trans (OT.ap (b := d == c) h).symm
  · refine (OT.ap (b := !(d == c)) (by rw [h]; rfl)).trans (Eq.trans ((ai ?_).trans ?_) (OT.ao (b := d == c) h).symm)
    · simp only [List.all_cons, List.all_nil, Bool.and_true]
      exact bC (by omega)
    · by_cases h2 : l.length + o.length ≤ 100000
      · refine (OT.ap (decide_eq_false (by omega))).trans (Eq.trans ((ai ?_).trans rfl) (OT.ao (b := ana l o) (decide_eq_true h2)).symm)
        simp only [List.all_cons, List.all_nil, Bool.and_true]
        exact decide_eq_true (by omega)
      · exact (OT.ao (decide_eq_true (by omega))).trans (OT.ap (b := ana l o) (decide_eq_false h2)).symm
def qL : cI := (iQ.aK uY ade)
theorem CD : ab Try.prog 42 qL := ahx
theorem CC : aJ qL := aA
def tu : Env := az 42 qL vS
theorem mD : aV Try.prog tu := ag CD tp
theorem Af : aw tu := ac CC vR
theorem tt : bg Try.prog te tu := aN follows av mD Af
end Go.Proofs.Ytkedomfjjahjnaa

namespace Go.Proofs.Ytkedomfjjahjnaa
open Sx Go
section
variable {s : Int} (hs : aj s = true)
abbrev Gs (hs : aj s = true) : Type := Gp (bz hs)
noncomputable def tG (l : List Tm) : List (Nat × Gs hs) := l.map fun t => (t.1.nat, gp (bz hs) t.2)
theorem yb {α : Type} {l : List α} {k : Nat} (h : k < l.length) (d : α) : l.getD k d = l[k] := by rw [List.getD_eq_getElem?_getD, List.getElem?_eq_getElem h]; rfl
theorem afs {c : Int} {l : List Tm} (ha : cP c l = true) {k : Nat} (h : k < l.length) : onB c l[k].2 = true := List.all_eq_true.1 ha _ (List.getElem_mem h)
theorem Bv {l : List Tm} (ha : cP s l = true) : ∀ n, n ≤ l.length → onB s (upto (dj s l) aC n) = true ∧ gp (bz hs) (upto (dj s l) aC n) = Av (tG hs (l.take n))
  | 0, _ => ⟨u5 hs, Nc hs⟩
  | n + 1, h => by
    obtain ⟨h1, h2⟩ := Bv ha n (by omega)
    have hk : n < l.length := by omega
    show onB s (dj s l n (upto (dj s l) aC n)) = true ∧ gp (bz hs) (dj s l n (upto (dj s l) aC n)) = _
    generalize upto (dj s l) aC n = O at *
    unfold dj
    rw [yb hk]
    have hp := afs ha hk
    have hm := (UG l[n].1 hp).2
    refine ⟨(nA h1 hm).2, ?_⟩
    rw [G2 hs h1 hm, aoi hs _ hp, h2, ← List.take_append_getElem hk, tG, tG, List.map_append, Bt]
    congr 1
    exact (Dc _).symm
theorem FR {l : List Tm} (ha : cP s l = true) : onB s (ja s l) = true ∧ gp (bz hs) (ja s l) = Av (tG hs l) := by
  have h := Bv hs ha l.length (Nat.le_refl _)
  rw [List.take_length] at h
  exact h
noncomputable def KO : List Pt → Gs hs
  | [] => 0
  | P :: r => gp (bz hs) P + KO r
noncomputable def Wo : List Pt → Gs hs
  | [] => 0
  | P :: r => Wo r + KO hs (P :: r)
theorem Ib {P R : Pt} (hR : onB s R = true) : ∀ (S : List Pt) (d : Nat), d < S.length → onB s (S.getD d ff) = true → P = eD s (S.getD d ff) R → KO hs (S.set d P) = KO hs S + gp (bz hs) R
  | [], d, h, _, _ => by cases h
  | X :: S, 0, _, ho, e => by
    subst e
    have ho : onB s X = true := ho
    show gp (bz hs) (eD s X R) + KO hs S = gp (bz hs) X + KO hs S + gp (bz hs) R
    rw [G2 hs ho hR]
    ac_rfl
  | X :: S, d + 1, h, ho, e => by
    have ih := Ib hR S d (by simpa using h) ho e
    show gp (bz hs) X + KO hs (S.set d P) = gp (bz hs) X + KO hs S + gp (bz hs) R
    rw [ih]
    ac_rfl
theorem S8 {P R : Pt} (hR : onB s R = true) : ∀ (S : List Pt) (d : Nat), d < S.length → onB s (S.getD d ff) = true → P = eD s (S.getD d ff) R → Wo hs (S.set d P) = Wo hs S + sm (d + 1) (gp (bz hs) R)
  | [], d, h, _, _ => by cases h
  | X :: S, 0, h, ho, e => by
    have hr := Ib hs hR (X :: S) 0 h ho e
    show Wo hs S + KO hs (P :: S) = Wo hs S + KO hs (X :: S) + sm 1 (gp (bz hs) R)
    have hr : KO hs (P :: S) = _ := hr
    rw [hr, aiL]
    ac_rfl
  | X :: S, d + 1, h, ho, e => by
    have hr := Ib hs hR (X :: S) (d + 1) h ho e
    have ih := S8 hR S d (by simpa using h) ho e
    show Wo hs (S.set d P) + KO hs ((X :: S).set (d + 1) P) = Wo hs S + KO hs (X :: S) + sm (d + 1 + 1) (gp (bz hs) R)
    rw [hr, ih, akY (d + 1)]
    ac_rfl
def amW (s : Int) (S : List Pt) : Prop := ∀ k, k < S.length → onB s (S.getD k ff) = true
theorem aiu {S : List Pt} (h : amW s S) {d : Nat} {P : Pt} (hP : onB s P = true) : amW s (S.set d P) := fun k hk => by
  rw [List.length_set] at hk
  by_cases e : d = k
  · subst e
    rw [List.getD_eq_getElem?_getD, List.getElem?_set_self hk]
    exact hP
  · rw [List.getD_eq_getElem?_getD, List.getElem?_set_ne e, ← List.getD_eq_getElem?_getD]
    exact h k hk
theorem T1 {S : List Pt} (hS : S.length = 15) (hp : amW s S) : ∀ n, n ≤ 15 →
    (onB s (upto (fk s S) (aC, aC) n).1 = true ∧ onB s (upto (fk s S) (aC, aC) n).2 = true) ∧
    gp (bz hs) (upto (fk s S) (aC, aC) n).1 = KO hs (S.drop (15 - n)) ∧ gp (bz hs) (upto (fk s S) (aC, aC) n).2 = Wo hs (S.drop (15 - n))
  | 0, _ => by
    rw [List.drop_eq_nil_of_le (by omega)]
    exact ⟨⟨u5 hs, u5 hs⟩, Nc hs, Nc hs⟩
  | n + 1, h => by
    obtain ⟨⟨h1, h2⟩, h3, h4⟩ := T1 hS hp n (by omega)
    show (onB s (fk s S n (upto (fk s S) (aC, aC) n)).1 = true ∧ onB s (fk s S n (upto (fk s S) (aC, aC) n)).2 = true) ∧
      gp (bz hs) (fk s S n (upto (fk s S) (aC, aC) n)).1 = _ ∧ gp (bz hs) (fk s S n (upto (fk s S) (aC, aC) n)).2 = _
    generalize upto (fk s S) (aC, aC) n = w at *
    have hk : 14 - n < S.length := by omega
    have ho := hp (14 - n) hk
    have e1 : S.drop (15 - (n + 1)) = S.getD (14 - n) ff :: S.drop (15 - n) := by
      rw [yb hk, show 15 - (n + 1) = 14 - n by omega, List.drop_eq_getElem_cons hk, show 14 - n + 1 = 15 - n by omega]
    rw [e1]
    unfold fk
    dsimp only
    have o1 := (nA h1 ho).2
    have o2 := (nA h2 o1).2
    have e2 : gp (bz hs) (eD s w.1 (S.getD (14 - n) ff)) = KO hs (S.getD (14 - n) ff :: S.drop (15 - n)) := by
      rw [G2 hs h1 ho, h3]
      exact aom _ _
    refine ⟨⟨o1, o2⟩, e2, ?_⟩
    rw [G2 hs h2 o1, h4, e2]
    rfl
theorem ak6 {S : List Pt} (hS : S.length = 15) (hp : amW s S) : onB s (ao1 s S).2 = true ∧ gp (bz hs) (ao1 s S).2 = Wo hs S := by
  obtain ⟨⟨_, h2⟩, _, h4⟩ := T1 hs hS hp 15 (Nat.le_refl _)
  exact ⟨h2, h4⟩
theorem Lc : ∀ n, KO hs (List.replicate n aC) = 0
  | 0 => rfl
  | n + 1 => by
    rw [List.replicate_succ]
    show gp (bz hs) aC + KO hs (List.replicate n aC) = 0
    rw [Lc n, Nc hs, Dc]
theorem KU : ∀ n, Wo hs (List.replicate n aC) = 0
  | 0 => rfl
  | n + 1 => by
    have h := Lc hs (n + 1)
    rw [List.replicate_succ] at h ⊢
    show Wo hs (List.replicate n aC) + KO hs (aC :: List.replicate n aC) = 0
    rw [h, KU n, Dc]
theorem aft (hs : aj s = true) (n : Nat) : amW s (List.replicate n aC) := fun k hk => by
  rw [yb hk, List.getElem_replicate]
  exact u5 hs
noncomputable def dG (a : Int) (l : List Tm) : List (Nat × Gs hs) := l.map fun t => ((NK t.1 a).toNat, gp (bz hs) t.2)
theorem N8 {l : List Tm} (ha : cP s l = true) (a : Int) : ∀ n, n ≤ l.length → (upto (dI s a l) (List.replicate 15 aC) n).length = 15 ∧ amW s (upto (dI s a l) (List.replicate 15 aC) n) ∧
    Wo hs (upto (dI s a l) (List.replicate 15 aC) n) = Av (dG hs a (l.take n))
  | 0, _ => ⟨rfl, aft hs 15, KU hs 15⟩
  | n + 1, h => by
    obtain ⟨h1, h2, h3⟩ := N8 ha a n (by omega)
    have hk : n < l.length := by omega
    show (dI s a l n (upto (dI s a l) (List.replicate 15 aC) n)).length = 15 ∧ amW s (dI s a l n (upto (dI s a l) (List.replicate 15 aC) n)) ∧ Wo hs (dI s a l n (upto (dI s a l) (List.replicate 15 aC) n)) = _
    generalize upto (dI s a l) (List.replicate 15 aC) n = S at *
    have hp := afs ha hk
    refine ⟨(kn s a l n S).trans h1, ?_⟩
    have ed : Av (dG hs a (l.take (n + 1))) = Av (dG hs a (l.take n)) + sm (NK l[n].1 a).toNat (gp (bz hs) l[n].2) := by
      rw [← List.take_append_getElem hk, dG, dG, List.map_append, Bt]
      congr 1
      exact Dc _
    rw [ed]
    unfold dI
    rw [yb hk]
    have hd := aex l[n].1 a
    by_cases h0 : 0 < NK l[n].1 a
    · rw [decide_eq_true h0]
      simp only [cond_true]
      have hlt : (NK l[n].1 a - 1).toNat < S.length := by omega
      have ho := h2 _ hlt
      refine ⟨aiu h2 (nA ho hp).2, ?_⟩
      rw [S8 hs hp S _ hlt ho rfl, h3, show (NK l[n].1 a - 1).toNat + 1 = (NK l[n].1 a).toNat by omega]
    · rw [decide_eq_false h0]
      simp only [cond_false]
      refine ⟨h2, ?_⟩
      rw [h3, show (NK l[n].1 a).toNat = 0 by omega, abd, Dc]
theorem ain {l : List Tm} (ha : cP s l = true) (a : Int) : onB s (Sa s l a) = true ∧ gp (bz hs) (Sa s l a) = Av (dG hs a l) := by
  obtain ⟨h1, h2, h3⟩ := N8 hs ha a l.length (Nat.le_refl _)
  rw [List.take_length] at h3
  obtain ⟨h4, h5⟩ := ak6 hs h1 h2
  exact ⟨h4, h5.trans h3⟩
noncomputable def vG (a : Nat) (l : List Tm) : List (Nat × Gs hs) := l.map fun t => (t.1.nat / 2 ^ a, gp (bz hs) t.2)
theorem vq (k : aa) (i : Nat) : ajk (nZ k (i : Int)) = ((k.nat / 2 ^ i % 2 : Nat) : Int) := by
  unfold nZ
  rw [decide_eq_true (show (0 : Int) ≤ (i : Int) by omega), Int.toNat_natCast]
  by_cases h : (i : Int) < 256
  · rw [decide_eq_true h]
    show ajk (AK k.nat i) = _
    unfold AK
    have h2 : k.nat / 2 ^ i % 2 = 0 ∨ k.nat / 2 ^ i % 2 = 1 := by omega
    rcases h2 with h2 | h2 <;> rw [h2] <;> rfl
  · rw [decide_eq_false h]
    have hlt := gn k
    have : k.nat / 2 ^ i = 0 := Nat.div_eq_of_lt (Nat.lt_of_lt_of_le hlt (by
      have : 2 ^ 256 ≤ 2 ^ i := Nat.pow_le_pow_right (by decide) (by omega)
      exact this))
    rw [this]
    rfl
theorem ah7 (k : aa) (a : Nat) : (NK k (a : Int)).toNat = k.nat / 2 ^ a % 16 := by
  rw [aey, show (a : Int) + 1 = ((a + 1 : Nat) : Int) by omega, show (a : Int) + 2 = ((a + 2 : Nat) : Int) by omega, show (a : Int) + 3 = ((a + 3 : Nat) : Int) by omega]
  rw [vq, vq, vq, vq]
  have e1 : k.nat / 2 ^ (a + 1) = k.nat / 2 ^ a / 2 := by rw [Nat.pow_succ, Nat.div_div_eq_div_mul]
  have e2 : k.nat / 2 ^ (a + 2) = k.nat / 2 ^ a / 2 / 2 := by rw [show a + 2 = (a + 1) + 1 by omega, Nat.pow_succ, ← Nat.div_div_eq_div_mul, e1]
  have e3 : k.nat / 2 ^ (a + 3) = k.nat / 2 ^ a / 2 / 2 / 2 := by rw [show a + 3 = (a + 2) + 1 by omega, Nat.pow_succ, ← Nat.div_div_eq_div_mul, e2]
  rw [e1, e2, e3]
  omega
theorem ajx (l : List Tm) (a : Nat) : sm 16 (Av (vG hs (a + 4) l)) + Av (dG hs (a : Int) l) = Av (vG hs a l) := by
  induction l with
  | nil => exact (Dc _).trans (akZ 16)
  | cons t l ih =>
    show sm 16 (sm (t.1.nat / 2 ^ (a + 4)) (gp (bz hs) t.2) + Av (vG hs (a + 4) l)) + (sm (NK t.1 (a : Int)).toNat (gp (bz hs) t.2) + Av (dG hs (a : Int) l)) = sm (t.1.nat / 2 ^ a) (gp (bz hs) t.2) + Av (vG hs a l)
    rw [← ih, anG, ← agp, ah7]
    have e : t.1.nat / 2 ^ a = 16 * (t.1.nat / 2 ^ (a + 4)) + t.1.nat / 2 ^ a % 16 := by
      rw [Nat.pow_add, ← Nat.div_div_eq_div_mul]
      have : 2 ^ 4 = 16 := rfl
      rw [this]
      omega
    have e2 : sm (t.1.nat / 2 ^ a) (gp (bz hs) t.2) = sm (16 * (t.1.nat / 2 ^ (a + 4))) (gp (bz hs) t.2) + sm (t.1.nat / 2 ^ a % 16) (gp (bz hs) t.2) := by
      rw [← abe, ← e]
    rw [e2]
    ac_rfl
theorem ajw (l : List Tm) : Av (vG hs 0 l) = Av (tG hs l) := by
  unfold vG tG
  congr 1
  apply List.map_congr_left
  intro t _
  rw [Nat.pow_zero, Nat.div_one]
theorem ah8 {O : Pt} (h : onB s O = true) : onB s (aoD s O) = true ∧ gp (bz hs) (aoD s O) = sm 16 (gp (bz hs) O) := by
  have step : ∀ {P : Pt} {n : Nat}, onB s P = true ∧ gp (bz hs) P = sm n (gp (bz hs) O) → onB s (eD s P P) = true ∧ gp (bz hs) (eD s P P) = sm (n + n) (gp (bz hs) O) := fun ⟨o, e⟩ =>
    ⟨(nA o o).2, by rw [G2 hs o o, e, ← abe]⟩
  exact step (step (step (step (n := 1) ⟨h, (aiL _).symm⟩)))
theorem amV {l : List Tm} {i n k : Nat} (h : mg l (i : Int) n k < 0) : ∀ j, k ≤ j → j < k + n → nZ (l.getD j dV).1 (i : Int) = false := by
  induction n generalizing k with
  | zero => intro j h1 h2; omega
  | succ n ih =>
    intro j h1 h2
    unfold mg at h
    cases hb : nZ (l.getD k dV).1 (i : Int)
    · rw [hb] at h
      by_cases e : j = k
      · rw [e]; exact hb
      · exact ih h j (by omega) (by omega)
    · rw [hb] at h
      have h : (k : Int) < 0 := h
      omega
theorem KV (l : List Tm) : ∀ n, (∀ j, j < l.length → (l.getD j dV).1.nat < 2 ^ n) → ∀ j, j < l.length → (l.getD j dV).1.nat < 2 ^ Zt l n
  | 0, h => h
  | n + 1, h => by
    unfold Zt
    cases ha : ang l (n : Int)
    · simp only [cond_false]
      refine KV l n fun j hj => ?_
      have hf : mg l (n : Int) l.length 0 < 0 := by
        have : ¬ (0 : Int) ≤ ib l (n : Int) := of_decide_eq_false ha
        have : ¬ (0 : Int) ≤ mg l (n : Int) l.length 0 := this
        omega
      have hb := amV hf j (by omega) (by omega)
      have h2 := vq (l.getD j dV).1 n
      rw [hb] at h2
      have h3 : (l.getD j dV).1.nat / 2 ^ n % 2 = 0 := by
        have h2 : ((0 : Nat) : Int) = (((l.getD j dV).1.nat / 2 ^ n % 2 : Nat) : Int) := h2
        exact (Int.ofNat_inj.1 h2).symm
      have h4 := h j hj
      rw [Nat.pow_succ] at h4
      have h5 : (l.getD j dV).1.nat / 2 ^ n < 2 := Nat.div_lt_of_lt_mul h4
      have h6 : (l.getD j dV).1.nat / 2 ^ n = 0 := by
        generalize (l.getD j dV).1.nat / 2 ^ n = q at h3 h5
        omega
      rcases Nat.div_eq_zero_iff.1 h6 with h7 | h7
      · have := Nat.two_pow_pos n; omega
      · exact h7
    · exact h
theorem ann (l : List Tm) {a : Nat} (h : Pd l ≤ a) : Av (vG hs a l) = 0 := by
  have hall := KV l 256 fun j _ => gn _
  have hz : ∀ t ∈ l, t.1.nat / 2 ^ a = 0 := fun t ht => by
    obtain ⟨j, hj, rfl⟩ := List.getElem_of_mem ht
    have := hall j hj
    rw [yb hj] at this
    exact Nat.div_eq_of_lt (Nat.lt_of_lt_of_le this (Nat.pow_le_pow_right (by decide) h))
  clear hall h
  induction l with
  | nil => rfl
  | cons t l ih =>
    show sm (t.1.nat / 2 ^ a) (gp (bz hs) t.2) + Av (vG hs a l) = 0
    rw [hz t (List.mem_cons_self ..), abd, ih fun u hu => hz u (List.mem_cons_of_mem _ hu), Dc]
theorem S5 {l : List Tm} (ha : cP s l = true) : ∀ n, n ≤ nK l + 1 → onB s (upto (k9 s l (nK l)) aC n) = true ∧ gp (bz hs) (upto (k9 s l (nK l)) aC n) = Av (vG hs (4 * (nK l + 1 - n)) l)
  | 0, _ => by
    refine ⟨u5 hs, (Nc hs).trans (ann hs l ?_).symm⟩
    unfold nK
    omega
  | n + 1, h => by
    obtain ⟨h1, h2⟩ := S5 ha n (by omega)
    show onB s (k9 s l (nK l) n (upto (k9 s l (nK l)) aC n)) = true ∧ gp (bz hs) (k9 s l (nK l) n (upto (k9 s l (nK l)) aC n)) = _
    generalize upto (k9 s l (nK l)) aC n = O at *
    unfold k9
    have e : 4 * (nK l : Int) - 4 * (n : Int) = ((4 * (nK l + 1 - (n + 1)) : Nat) : Int) := by omega
    rw [e]
    obtain ⟨d1, d2⟩ := ah8 hs h1
    obtain ⟨b1, b2⟩ := ain hs ha ((4 * (nK l + 1 - (n + 1)) : Nat) : Int)
    refine ⟨(nA d1 b1).2, ?_⟩
    rw [G2 hs d1 b1, d2, b2, h2, ← ajx hs l (4 * (nK l + 1 - (n + 1))), show 4 * (nK l + 1 - n) = 4 * (nK l + 1 - (n + 1)) + 4 by omega]
theorem akW {l : List Tm} (ha : cP s l = true) : onB s (KM s l) = true ∧ gp (bz hs) (KM s l) = Av (tG hs l) := by
  unfold KM
  cases ao8 l
  · obtain ⟨h1, h2⟩ := S5 hs ha (nK l + 1) (Nat.le_refl _)
    rw [Nat.sub_self, Nat.mul_zero, ajw] at h2
    exact ⟨h1, h2⟩
  · exact FR hs ha
end
end Go.Proofs.Ytkedomfjjahjnaa

namespace Go.Proofs.Ytkedomfjjahjnaa
open Sx Go
section
variable {s : Int} (hs : aj s = true)
end
end Go.Proofs.Ytkedomfjjahjnaa

namespace Go.Proofs.Ytkedomfjjahjnaa
open Sx Go
section
variable {s : Int} (hs : aj s = true)
theorem Sr (k : aa) (l : List Tm) : cP s (kB s k l) = cP s l := by
  unfold cP kB
  rw [List.all_map]
  rfl
end
end Go.Proofs.Ytkedomfjjahjnaa

namespace Go.Proofs.Ytkedomfjjahjnaa
open Sx Go
set_option maxRecDepth 100000
def iH : aq := ⟨[.val false .int, .val false (.list gR)], [], true, 0, false⟩
abbrev FW : Type := ((Int) × (List ((aa × (aa × (aa × Bool))))) × Unit) × (Unit)
def uj : Shape := ⟨58, [(0, .val false .int), (1, .val false (.list (.prod .elem (.prod .elem (.prod .elem .bool))))), (4, .ptr 0 0 0), (6, .ptr 1 0 0), (7, .val false .int)], [(0, .cells [.val false .u64, .val false .u64, .val false .u64, .val false .u64, .val false .u64, .val false .u64, .val false .u64, .val false .u64, .val false .bool]), (1, .cells [.val false .u64, .val false .u64, .val false .u64, .val false .u64, .val false .u64, .val false .u64, .val false .u64, .val false .u64, .val false .bool])], 0, true⟩
abbrev bn : Type := ((Int) × (List ((aa × (aa × (aa × Bool))))) × (Unit) × (Unit) × (Int) × Unit) × (((UInt64) × (UInt64) × (UInt64) × (UInt64) × (UInt64) × (UInt64) × (UInt64) × (UInt64) × (Bool) × Unit) × ((UInt64) × (UInt64) × (UInt64) × (UInt64) × (UInt64) × (UInt64) × (UInt64) × (UInt64) × (Bool) × Unit) × Unit)
def qh : Shape := ⟨58, [(4, .ptr 0 0 0), (5, .val false .int)], [(0, .cells [.val false .u64, .val false .u64, .val false .u64, .val false .u64, .val false .u64, .val false .u64, .val false .u64, .val false .u64, .val false .bool])], 0, true⟩
abbrev jE : Type := ((Unit) × (Int) × Unit) × (((UInt64) × (UInt64) × (UInt64) × (UInt64) × (UInt64) × (UInt64) × (UInt64) × (UInt64) × (Bool) × Unit) × Unit)
def qi : Shape := ⟨58, [(0, .val false .int), (1, .val false (.list (.prod .elem (.prod .elem (.prod .elem .bool))))), (4, .ptr 0 0 0), (6, .ptr 1 0 0)], [(0, .cells [.val false .u64, .val false .u64, .val false .u64, .val false .u64, .val false .u64, .val false .u64, .val false .u64, .val false .u64, .val false .bool]), (1, .cells [.val false .u64, .val false .u64, .val false .u64, .val false .u64, .val false .u64, .val false .u64, .val false .u64, .val false .u64, .val false .bool])], 0, true⟩
abbrev jF : Type := ((Int) × (List ((aa × (aa × (aa × Bool))))) × (Unit) × (Unit) × Unit) × (((UInt64) × (UInt64) × (UInt64) × (UInt64) × (UInt64) × (UInt64) × (UInt64) × (UInt64) × (Bool) × Unit) × ((UInt64) × (UInt64) × (UInt64) × (UInt64) × (UInt64) × (UInt64) × (UInt64) × (UInt64) × (Bool) × Unit) × Unit)
def T4 : SE → Option Shape := ku [(0, qi)] (some qh)
def agB (a0 : Int) (a1 : List ((aa × (aa × (aa × Bool))))) (a7 : Int) (c0_0 : UInt64) (c0_1 : UInt64) (c0_2 : UInt64) (c0_3 : UInt64) (c0_4 : UInt64) (c0_5 : UInt64) (c0_6 : UInt64) (c0_7 : UInt64) (c0_8 : Bool) (c1_0 : UInt64) (c1_1 : UInt64) (c1_2 : UInt64) (c1_3 : UInt64) (c1_4 : UInt64) (c1_5 : UInt64) (c1_6 : UInt64) (c1_7 : UInt64) (c1_8 : Bool) : OT (Sum bn aO) :=
  let z0 : Nat := List.length a1
  let z1 : aa := { w0 := 0, w1 := 0, w2 := 0, w3 := 0 }
  (.br (decide (a7 < (↑z0 : Int)))
  (gd [inB a7 z0] (.br (!onB a0 (List.getD a1 (Int.toNat a7) (z1, z1, z1, false)).snd)
    (.ok (.inr ⟨(.ret, qh), (((), ((41 : Int), ())), (((0 : UInt64), ((0 : UInt64), ((0 : UInt64), ((0 : UInt64), ((0 : UInt64), ((0 : UInt64), ((0 : UInt64), ((0 : UInt64), (false, ()))))))))), ()))⟩))
    (gd [inR (a7 + (1 : Int))] (.ok (.inl ((a0, (a1, ((), ((), (a7 + (1 : Int), ()))))), ((c0_0, (c0_1, (c0_2, (c0_3, (c0_4, (c0_5, (c0_6, (c0_7, (c0_8, ()))))))))), ((c1_0, (c1_1, (c1_2, (c1_3, (c1_4, (c1_5, (c1_6, (c1_7, (c1_8, ()))))))))), ()))))))))
  (.ok (.inr ⟨(.exit 0, qi), ((a0, (a1, ((), ((), ())))), ((c0_0, (c0_1, (c0_2, (c0_3, (c0_4, (c0_5, (c0_6, (c0_7, (c0_8, ()))))))))), ((c1_0, (c1_1, (c1_2, (c1_3, (c1_4, (c1_5, (c1_6, (c1_7, (c1_8, ()))))))))), ())))⟩)))
def um (s : bn) : OT (Sum bn aO) := agB (s.1.1) (s.1.2.1) (s.1.2.2.2.2.1) (s.2.1.1) (s.2.1.2.1) (s.2.1.2.2.1) (s.2.1.2.2.2.1) (s.2.1.2.2.2.2.1) (s.2.1.2.2.2.2.2.1) (s.2.1.2.2.2.2.2.2.1) (s.2.1.2.2.2.2.2.2.2.1) (s.2.1.2.2.2.2.2.2.2.2.1) (s.2.2.1.1) (s.2.2.1.2.1) (s.2.2.1.2.2.1) (s.2.2.1.2.2.2.1) (s.2.2.1.2.2.2.2.1) (s.2.2.1.2.2.2.2.2.1) (s.2.2.1.2.2.2.2.2.2.1) (s.2.2.1.2.2.2.2.2.2.2.1) (s.2.2.1.2.2.2.2.2.2.2.2.1)
theorem agw (s : bn) (Q : Sum bn aO → Prop) : wps te tu ax 1000 (bG (ak Try.f77) 0) (uj.inj s) (cU uj T4 (Q : Sum uj.T aO → Prop)) = (um s).wpR Q := by kernel_rfl
def AQ (g0_r : bn → jE) (c0_r : bn → Bool) (g0_0 : bn → jF) (s : bn) : OT aO := (.br (c0_r s) (.ok ⟨(.ret, qh), g0_r s⟩) (.ok ⟨(.exit 0, qi), g0_0 s⟩))
def ui : Shape := ⟨58, [(0, .val false .int), (1, .val false (.list (.prod .elem (.prod .elem (.prod .elem .bool))))), (4, .ptr 0 0 0), (6, .ptr 1 0 0), (8, .val false .int)], [(0, .cells [.val false .u64, .val false .u64, .val false .u64, .val false .u64, .val false .u64, .val false .u64, .val false .u64, .val false .u64, .val false .bool]), (1, .cells [.val false .u64, .val false .u64, .val false .u64, .val false .u64, .val false .u64, .val false .u64, .val false .u64, .val false .u64, .val false .bool])], 0, true⟩
abbrev cy : Type := ((Int) × (List ((aa × (aa × (aa × Bool))))) × (Unit) × (Unit) × (Int) × Unit) × (((UInt64) × (UInt64) × (UInt64) × (UInt64) × (UInt64) × (UInt64) × (UInt64) × (UInt64) × (Bool) × Unit) × ((UInt64) × (UInt64) × (UInt64) × (UInt64) × (UInt64) × (UInt64) × (UInt64) × (UInt64) × (Bool) × Unit) × Unit)
def qg : Shape := ⟨58, [(4, .ptr 0 0 0), (6, .ptr 1 0 0)], [(0, .cells [.val false .u64, .val false .u64, .val false .u64, .val false .u64, .val false .u64, .val false .u64, .val false .u64, .val false .u64, .val false .bool]), (1, .cells [.val false .u64, .val false .u64, .val false .u64, .val false .u64, .val false .u64, .val false .u64, .val false .u64, .val false .u64, .val false .bool])], 0, true⟩
abbrev jD : Type := ((Unit) × (Unit) × Unit) × (((UInt64) × (UInt64) × (UInt64) × (UInt64) × (UInt64) × (UInt64) × (UInt64) × (UInt64) × (Bool) × Unit) × ((UInt64) × (UInt64) × (UInt64) × (UInt64) × (UInt64) × (UInt64) × (UInt64) × (UInt64) × (Bool) × Unit) × Unit)
def T3 : SE → Option Shape := ku [(2, qg)] none
def agA (a0 : Int) (a1 : List ((aa × (aa × (aa × Bool))))) (a8 : Int) (c0_0 : UInt64) (c0_1 : UInt64) (c0_2 : UInt64) (c0_3 : UInt64) (c0_4 : UInt64) (c0_5 : UInt64) (c0_6 : UInt64) (c0_7 : UInt64) (c0_8 : Bool) (c1_0 : UInt64) (c1_1 : UInt64) (c1_2 : UInt64) (c1_3 : UInt64) (c1_4 : UInt64) (c1_5 : UInt64) (c1_6 : UInt64) (c1_7 : UInt64) (c1_8 : Bool) : OT (Sum cy aO) :=
  let z0 : Nat := List.length a1
  let z1 : Bool := inB a8 z0
  let z2 : aa := { w0 := 0, w1 := 0, w2 := 0, w3 := 0 }
  let z3 : aa × aa × aa × Bool := List.getD a1 (Int.toNat a8) (z2, z2, z2, false)
  let z4 : aa × aa × Bool := Au a0 ({ w0 := c1_0, w1 := c1_1, w2 := c1_2, w3 := c1_3 }, { w0 := c1_4, w1 := c1_5, w2 := c1_6, w3 := c1_7 }, c1_8) (oM a0 z3.fst z3.snd)
  let z5 := z4.fst
  let z6 := z4.snd
  let z7 := z6.fst
  (.br (decide (a8 < (↑z0 : Int)))
  (gd [z1, z1, inR (a8 + (1 : Int))] (.ok (.inl ((a0, (a1, ((), ((), (a8 + (1 : Int), ()))))), ((c0_0, (c0_1, (c0_2, (c0_3, (c0_4, (c0_5, (c0_6, (c0_7, (c0_8, ()))))))))), ((z5.w0, (z5.w1, (z5.w2, (z5.w3, (z7.w0, (z7.w1, (z7.w2, (z7.w3, (z6.snd, ()))))))))), ()))))))
  (.ok (.inr ⟨(.exit 2, qg), (((), ((), ())), ((c0_0, (c0_1, (c0_2, (c0_3, (c0_4, (c0_5, (c0_6, (c0_7, (c0_8, ()))))))))), ((c1_0, (c1_1, (c1_2, (c1_3, (c1_4, (c1_5, (c1_6, (c1_7, (c1_8, ()))))))))), ())))⟩)))
def ul (s : cy) : OT (Sum cy aO) := agA (s.1.1) (s.1.2.1) (s.1.2.2.2.2.1) (s.2.1.1) (s.2.1.2.1) (s.2.1.2.2.1) (s.2.1.2.2.2.1) (s.2.1.2.2.2.2.1) (s.2.1.2.2.2.2.2.1) (s.2.1.2.2.2.2.2.2.1) (s.2.1.2.2.2.2.2.2.2.1) (s.2.1.2.2.2.2.2.2.2.2.1) (s.2.2.1.1) (s.2.2.1.2.1) (s.2.2.1.2.2.1) (s.2.2.1.2.2.2.1) (s.2.2.1.2.2.2.2.1) (s.2.2.1.2.2.2.2.2.1) (s.2.2.1.2.2.2.2.2.2.1) (s.2.2.1.2.2.2.2.2.2.2.1) (s.2.2.1.2.2.2.2.2.2.2.2.1)
theorem agv (s : cy) (Q : Sum cy aO → Prop) : wps te tu ax 1000 (bG (ak Try.f77) 2) (ui.inj s) (cU ui T3 (Q : Sum ui.T aO → Prop)) = (ul s).wpR Q := by kernel_rfl
def AP (g2_2 : cy → jD) (s : cy) : OT aO := (.ok ⟨(.exit 2, qg), g2_2 s⟩)
def eF : ay := ⟨[.val true (.prod .elem (.prod .elem .bool)), .val false .int], [], false⟩
def Li : SV → Option ay := fun _ => some eF
def Im (ok0 : bn → Bool) (g0_r : bn → jE) (c0_r : bn → Bool) (g0_0 : bn → jF) (ok2 : cy → Bool) (g2_2 : cy → jD) (a0 : Int) (a1 : List ((aa × (aa × (aa × Bool))))) : OT iH.Y :=
  let z0 : aa := { w0 := 0, w1 := 0, w2 := 0, w3 := 0 }
  let z1 : aa × aa × Bool := (z0, z0, false)
  let z2 : (Int × List (aa × aa × aa × Bool) × PUnit × PUnit × Int × PUnit) × (UInt64 × UInt64 × UInt64 × UInt64 × UInt64 × UInt64 × UInt64 × UInt64 × Bool × PUnit) × (UInt64 × UInt64 × UInt64 × UInt64 × UInt64 × UInt64 × UInt64 × UInt64 × Bool × PUnit) × PUnit := ((a0, a1, (), (), (0 : Int), ()), ((0 : UInt64), (0 : UInt64), (0 : UInt64), (0 : UInt64), (0 : UInt64), (0 : UInt64), (0 : UInt64), (0 : UInt64), false, ()), ((0 : UInt64), (0 : UInt64), (0 : UInt64), (0 : UInt64), (0 : UInt64), (0 : UInt64), (0 : UInt64), (0 : UInt64), true, ()), ())
  let z3 : (PUnit × Int × PUnit) × (UInt64 × UInt64 × UInt64 × UInt64 × UInt64 × UInt64 × UInt64 × UInt64 × Bool × PUnit) × PUnit := g0_r z2
  let z4 := z3.snd.fst
  let z5 := z4.snd
  let z6 := z5.snd
  let z7 := z6.snd
  let z8 := z7.snd
  let z9 := z8.snd
  let z10 := z9.snd
  let z11 := z10.snd
  let z12 : (Int × List (aa × aa × aa × Bool) × PUnit × PUnit × PUnit) × (UInt64 × UInt64 × UInt64 × UInt64 × UInt64 × UInt64 × UInt64 × UInt64 × Bool × PUnit) × (UInt64 × UInt64 × UInt64 × UInt64 × UInt64 × UInt64 × UInt64 × UInt64 × Bool × PUnit) × PUnit := g0_0 z2
  let z13 := z12.fst
  let z14 := z12.snd
  let z15 := z14.fst
  let z16 := z15.snd
  let z17 := z16.snd
  let z18 := z17.snd
  let z19 := z18.snd
  let z20 := z19.snd
  let z21 := z20.snd
  let z22 := z21.snd
  let z23 := z14.snd.fst
  let z24 := z23.snd
  let z25 := z24.snd
  let z26 := z25.snd
  let z27 := z26.snd
  let z28 := z27.snd
  let z29 := z28.snd
  let z30 := z29.snd
  let z31 : (Int × List (aa × aa × aa × Bool) × PUnit × PUnit × Int × PUnit) × (UInt64 × UInt64 × UInt64 × UInt64 × UInt64 × UInt64 × UInt64 × UInt64 × Bool × PUnit) × (UInt64 × UInt64 × UInt64 × UInt64 × UInt64 × UInt64 × UInt64 × UInt64 × Bool × PUnit) × PUnit := ((z13.fst, z13.snd.fst, (), (), (0 : Int), ()), (z15.fst, z16.fst, z17.fst, z18.fst, z19.fst, z20.fst, z21.fst, z22.fst, z22.snd.fst, ()), (z23.fst, z24.fst, z25.fst, z26.fst, z27.fst, z28.fst, z29.fst, z30.fst, z30.snd.fst, ()), ())
  let z32 := (g2_2 z31).snd.snd.fst
  let z33 := z32.snd
  let z34 := z33.snd
  let z35 := z34.snd
  let z36 := z35.snd
  let z37 := z36.snd
  let z38 := z37.snd
  let z39 := z38.snd
  (.br (decide (a0 < (0 : Int)))
  (.ok ⟨eF, ((z1, ((40 : Int), ())), ())⟩)
  (.br (decide ((3 : Int) < a0))
    (.ok ⟨eF, ((z1, ((40 : Int), ())), ())⟩)
    (.br (decide ((100000 : Int) < (↑(List.length a1) : Int)))
      (.ok ⟨eF, ((z1, ((50 : Int), ())), ())⟩)
      (gd [ok0 z2] (.br (c0_r z2)
        (.ok ⟨eF, ((({ w0 := z4.fst, w1 := z5.fst, w2 := z6.fst, w3 := z7.fst }, { w0 := z8.fst, w1 := z9.fst, w2 := z10.fst, w3 := z11.fst }, z11.snd.fst), (z3.fst.snd.fst, ())), ())⟩)
        (gd [ok2 z31] (.ok ⟨eF, ((({ w0 := z32.fst, w1 := z33.fst, w2 := z34.fst, w3 := z35.fst }, { w0 := z36.fst, w1 := z37.fst, w2 := z38.fst, w3 := z39.fst }, z39.snd.fst), ((0 : Int), ())), ())⟩)))))))
theorem ak7 (ok0 : bn → Bool) (g0_r : bn → jE) (c0_r : bn → Bool) (g0_0 : bn → jF) (ok2 : cy → Bool) (g2_2 : cy → jD) (x : FW) (Q : iH.Y → Prop) : wpf te tu (bp 2 (dv ui 2 ok2 (AP g2_2)) (bp 0 (dv uj 0 ok0 (AQ g0_r c0_r g0_0)) ax)) 1000 Try.f77 (iH.inp.inj x).tm (iH.inp.inj x).hp (fnK iH Li Q) (fun _ _ => False) = (Im ok0 g0_r c0_r g0_0 ok2 g2_2 (x.1.1) (x.1.2.1)).wpR Q := by kernel_rfl
theorem WG (ok0 : bn → Bool) (g0_r : bn → jE) (c0_r : bn → Bool) (g0_0 : bn → jF) (ok2 : cy → Bool) (g2_2 : cy → jD) (h0 : ∀ s : bn, ok0 s = true → ∃ m e, au (um) m s = some e ∧ (AQ g0_r c0_r g0_0 s).run = some e) (h2 : ∀ s : cy, ok2 s = true → ∃ m e, au (ul) m s = some e ∧ (AP g2_2 s).run = some e) (pre : FW → Bool) (F : FW → OT iH.Y) (hF : ∀ (x : FW) oy, pre x = true → (F x).run = some oy → (Im ok0 g0_r c0_r g0_0 ok2 g2_2 (x.1.1) (x.1.2.1)).run = some oy) : ab Try.prog 77 (iH.aK pre F) :=
  aD av mD tt (f := 77) (fn := Try.f77) (c := ak Try.f77) (by kernel_rfl) (by kernel_rfl) (by kernel_rfl) (S := iH) (k := 0) (by kernel_rfl) (fun R hR => (aI (c := (ak Try.f77)) (by kernel_rfl) (id := 2) (by kernel_rfl) (bw av mD tt (sh := ui) hR (xs := T3) (aH (by kernel_rfl) (by kernel_rfl) hR) aW ae (n := 1000) (T := ul) (fun s Q => agv s Q) (ok := ok2) (f := AP g2_2) h2) (aI (c := (ak Try.f77)) (by kernel_rfl) (id := 0) (by kernel_rfl) (bw av mD tt (sh := uj) hR (xs := T4) (aH (by kernel_rfl) (by kernel_rfl) hR) aW ae (n := 1000) (T := um) (fun s Q => agw s Q) (ok := ok0) (f := AQ g0_r c0_r g0_0) h0) ae))) (n := 1000) (sel := Li) (fun v o h => by cases h; rfl) (pre := pre) (F := F) (T := fun x => Im ok0 g0_r c0_r g0_0 ok2 g2_2 (x.1.1) (x.1.2.1)) (fun x Q => ak7 ok0 g0_r c0_r g0_0 ok2 g2_2 x Q) hF
def Lf (c : Int) (l : List Tm) (k : Nat) (O : Pt) : Pt := Au c O (oM c (l.getD k dV).1 (l.getD k dV).2)
def BC (c : Int) (l : List Tm) : Pt := upto (Lf c l) aC l.length
def uk (s : bn) : Bool := decide (s.1.2.2.2.2.1 = 0 ∧ s.1.2.1.length ≤ 100000)
def BH (_ : bn) : jE := (((), (41 : Int), ()), (bf ff, ()))
def Il (s : bn) : Bool := !cP s.1.1 s.1.2.1
def Ik (s : bn) : jF := ((s.1.1, s.1.2.1, (), (), ()), s.2)
def Wy (c : Int) (l : List Tm) (c0 c1 : C9) (k : Int) : bn := ((c, l, (), (), k, ()), (c0, c1, ()))
theorem abj (c : Int) (l : List Tm) (c0 c1 : C9) (hl : l.length ≤ 100000) : ∀ d k : Nat, k + d = l.length →
    ∃ m, au um m (Wy c l c0 c1 (k : Int)) = some (cond (cP c (l.drop k)) ⟨(.exit 0, qi), ((c, l, (), (), ()), (c0, c1, ()))⟩ ⟨(.ret, qh), (((), (41 : Int), ()), (bf ff, ()))⟩)
  | 0, k, h => by
    rw [List.drop_eq_nil_of_le (by omega)]
    exact ⟨1, aR (OT.ap (decide_eq_false (by dsimp only [Wy]; omega)))⟩
  | d + 1, k, h => by
    have hk : k < l.length := by omega
    have e1 : l.drop k = l[k] :: l.drop (k + 1) := List.drop_eq_getElem_cons hk
    have e3 : l.getD k dV = l[k] := by rw [List.getD_eq_getElem?_getD, List.getElem?_eq_getElem hk]; rfl
    have hgd : ∀ z : OT (Sum bn aO), (gd [inB (k : Int) l.length] z).run = z.run := fun z => ai (by rw [bJ (by omega)]; rfl)
    have ea : cP c (l.drop k) = (onB c l[k].2 && cP c (l.drop (k + 1))) := by rw [e1]; rfl
    have hb' : onB c (l.getD k dV).2 = onB c l[k].2 := by rw [e3]
    rw [ea]
    rcases (Bool.eq_false_or_eq_true (onB c l[k].2)).symm with hb | hb
    · rw [hb]
      exact ⟨1, aR ((OT.ao (decide_eq_true (by dsimp only [Wy]; omega))).trans ((hgd _).trans (OT.ao (b := !onB c (l.getD k dV).2) (by rw [hb', hb]; rfl))))⟩
    · rw [hb]
      obtain ⟨m, hm⟩ := abj c l c0 c1 hl d (k + 1) (by omega)
      refine ⟨m + 1, aM ?_ hm⟩
      refine (OT.ao (decide_eq_true (by dsimp only [Wy]; omega))).trans ((hgd _).trans ((OT.ap (b := !onB c (l.getD k dV).2) (by rw [hb', hb]; rfl)).trans ((ai ?_).trans rfl)))
      simp only [List.all_cons, List.all_nil, Bool.and_true]
      exact bC (by dsimp only [Wy]; omega)
theorem agz : ∀ s : bn, uk s = true → ∃ m e, au um m s = some e ∧ (AQ BH Il Ik s).run = some e := by
  rintro ⟨⟨c, l, ⟨⟩, ⟨⟩, k, ⟨⟩⟩, ⟨c0, c1, ⟨⟩⟩⟩ h
  have h' := of_decide_eq_true h
  dsimp only at h'
  obtain ⟨rfl, hl⟩ := h'
  obtain ⟨m, hm⟩ := abj c l c0 c1 hl l.length 0 (by omega)
  refine ⟨m, _, hm, ?_⟩
  show (OT.br (!cP c l) _ _ : OT aO).run = some (cond (cP c l) _ _)
  cases cP c l <;> rfl
def BG (s : cy) : Bool := decide (s.1.2.2.2.2.1 = 0 ∧ s.1.2.1.length ≤ 100000)
def Ij (s : cy) : jD := (((), (), ()), (s.2.1, bf (upto (Lf s.1.1 s.1.2.1) (kl s.2.2.1) s.1.2.1.length), ()))
theorem agy : ∀ s : cy, BG s = true → ∃ m e, au ul m s = some e ∧ (AP Ij s).run = some e := by
  rintro ⟨⟨c, l, ⟨⟩, ⟨⟩, i, ⟨⟩⟩, ⟨c0, c1, ⟨⟩⟩⟩ h
  have h' := of_decide_eq_true h
  dsimp only at h'
  obtain ⟨rfl, hl⟩ := h'
  obtain ⟨P, rfl⟩ : ∃ P, c1 = bf P := ⟨kl c1, rfl⟩
  have := (bF (T := ul) (fun i O => (((c, l, (), (), (i : Int), ()), (c0, bf O, ())) : cy)) (Lf c l)
    (fun O => (⟨(.exit 2, qg), (((), (), ()), (c0, bf O, ()))⟩ : aO)) l.length P (fun _ _ => True) trivial (fun k O hk _ => ⟨?_, trivial⟩) (fun O _ => ?_)).1
  · obtain ⟨m, hm⟩ := this
    exact ⟨m, _, hm, rfl⟩
  · refine (OT.ao (decide_eq_true (by dsimp only; omega))).trans ((ai ?_).trans ?_)
    · simp only [List.all_cons, List.all_nil, Bool.and_true, Bool.and_eq_true]
      exact ⟨bJ (by omega), bJ (by omega), bC (by omega)⟩
    · simp only [OT.jz, Int.toNat_natCast]
      rfl
  · exact OT.ap (decide_eq_false (by dsimp only; omega))
def Lj (_ : FW) : Bool := true
def abw (x : FW) : OT iH.Y := .br (aj x.1.1) (.br (decide (x.1.2.1.length ≤ 100000)) (.br (cP x.1.1 x.1.2.1) (.ok ⟨eF, ((BC x.1.1 x.1.2.1, ((0 : Int), ())), ())⟩)
  (.ok ⟨eF, ((ff, ((41 : Int), ())), ())⟩)) (.ok ⟨eF, ((ff, ((50 : Int), ())), ())⟩)) (.ok ⟨eF, ((ff, ((40 : Int), ())), ())⟩)
theorem agx : ab Try.prog 77 (iH.aK Lj abw) := WG uk BH Il Ik BG Ij agz agy _ _ fun x oy hp ho => by
  rw [← ho]
  clear ho
  obtain ⟨⟨c, l, ⟨⟩⟩, ⟨⟩⟩ := x
  show (Im uk BH Il Ik BG Ij c l).run = (OT.br (aj c) (.br (decide (l.length ≤ 100000)) (.br (cP c l) (.ok ⟨eF, ((BC c l, ((0 : Int), ())), ())⟩)
    (.ok ⟨eF, ((ff, ((41 : Int), ())), ())⟩)) (.ok ⟨eF, ((ff, ((50 : Int), ())), ())⟩)) (.ok ⟨eF, ((ff, ((40 : Int), ())), ())⟩) : OT iH.Y).run
  rcases (Bool.eq_false_or_eq_true (aj c)).symm with hs | hs
  · refine Eq.trans ?_ (OT.ap (b := aj c) hs).symm
    by_cases h1 : c < 0
    · exact (OT.ao (decide_eq_true h1)).trans rfl
    · refine (OT.ap (decide_eq_false h1)).trans ((OT.ao (decide_eq_true ?_)).trans rfl)
      simp only [aj, Bool.and_eq_false_iff, decide_eq_false_iff_not] at hs
      omega
  · have hc : 0 ≤ c ∧ c < 4 := by simpa [aj] using hs
    refine (OT.ap (decide_eq_false (by omega))).trans ((OT.ap (decide_eq_false (by omega))).trans (Eq.trans ?_ (OT.ao (b := aj c) hs).symm))
    by_cases hl : l.length ≤ 100000
    · have k0 : uk (Wy c l (bf ff) (bf aC) 0) = true := decide_eq_true ⟨rfl, hl⟩
      refine (OT.ap (decide_eq_false (by omega))).trans (Eq.trans ?_ (OT.ao (b := decide (l.length ≤ 100000)) (decide_eq_true hl)).symm)
      refine (ai ?_).trans ?_
      · simp only [List.all_cons, List.all_nil, Bool.and_true]
        exact k0
      · rcases (Bool.eq_false_or_eq_true (cP c l)).symm with ha | ha
        · exact (OT.ao (b := !cP c l) (by rw [ha]; rfl)).trans (OT.ap (b := cP c l) ha).symm
        · refine (OT.ap (b := !cP c l) (by rw [ha]; rfl)).trans (Eq.trans ?_ (OT.ao (b := cP c l) ha).symm)
          refine (ai ?_).trans rfl
          simp only [List.all_cons, List.all_nil, Bool.and_true]
          exact decide_eq_true ⟨rfl, hl⟩
    · exact (OT.ao (decide_eq_true (by omega))).trans (OT.ap (b := decide (l.length ≤ 100000)) (decide_eq_false hl)).symm
def wN : cI := (iH.aK Lj abw)
theorem PA : ab Try.prog 77 wN := agx
theorem Pz : aJ wN := aA
def Ek : Env := az 77 wN tu
theorem yI : aV Try.prog Ek := ag PA mD
theorem zJ : aw Ek := ac Pz Af
theorem Sz : bg Try.prog te Ek := aN follows av yI zJ
def eO : aq := ⟨[.val false .int, .val false (.list gR)], [], true, 0, false⟩
abbrev qf : Type := ((Int) × (List ((aa × (aa × (aa × Bool))))) × Unit) × (Unit)
def gU : ay := ⟨[.val true (.prod .elem (.prod .elem .bool))], [], false⟩
def BE : SV → Option ay := fun _ => some gU
def ol (a0 : Int) (a1 : List ((aa × (aa × (aa × Bool))))) : OT eO.Y :=
  let z0 : aa := { w0 := 0, w1 := 0, w2 := 0, w3 := 0 }
  let z1 : aa × aa × Bool := (z0, z0, false)
  (.br (aj a0)
  (.br (decide (List.length a1 ≤ 100000))
    (.br (cP a0 a1)
      (.ok ⟨gU, ((BC a0 a1, ()), ())⟩)
      (.ok ⟨gU, ((z1, ()), ())⟩))
    (.ok ⟨gU, ((z1, ()), ())⟩))
  (.ok ⟨gU, ((z1, ()), ())⟩))
theorem abv (x : qf) (Q : eO.Y → Prop) : wpf te Ek ax 1000 Try.f46 (eO.inp.inj x).tm (eO.inp.inj x).hp (fnK eO BE Q) (fun _ _ => False) = (ol (x.1.1) (x.1.2.1)).wpR Q := by kernel_rfl
theorem Lg (pre : qf → Bool) (F : qf → OT eO.Y) (hF : ∀ (x : qf) oy, pre x = true → (F x).run = some oy → (ol (x.1.1) (x.1.2.1)).run = some oy) : ab Try.prog 46 (eO.aK pre F) :=
  aD av yI Sz (f := 46) (fn := Try.f46) (c := ak Try.f46) (by kernel_rfl) (by kernel_rfl) (by kernel_rfl) (S := eO) (k := 0) (by kernel_rfl) (fun R hR => ae) (n := 1000) (sel := BE) (fun v o h => by cases h; rfl) (pre := pre) (F := F) (T := fun x => ol (x.1.1) (x.1.2.1)) (fun x Q => abv x Q) hF
def uh (c : Int) (l : List Tm) : Pt := cond (aj c) (cond (decide (l.length ≤ 100000)) (cond (cP c l) (BC c l) ff) ff) ff
def BF (_ : qf) : Bool := true
def Lh (x : qf) : OT eO.Y := .ok ⟨gU, ((uh x.1.1 x.1.2.1, ()), ())⟩
theorem WE : ab Try.prog 46 (eO.aK BF Lh) := Lg _ _ fun x oy hp ho => by
  rw [← ho]
  clear ho
  obtain ⟨⟨c, l, ⟨⟩⟩, ⟨⟩⟩ := x
  show (ol c l).run = some ⟨gU, ((uh c l, ()), ())⟩
  unfold ol uh
  cases aj c <;> cases decide (l.length ≤ 100000) <;> cases cP c l <;> rfl
def oj : cI := (eO.aK BF Lh)
theorem Ii : ab Try.prog 46 oj := WE
theorem Ih : aJ oj := aA
def mv : Env := az 46 oj Ek
theorem kU : aV Try.prog mv := ag Ii yI
theorem rQ : aw mv := ac Ih zJ
theorem vB : bg Try.prog te mv := aN follows av kU rQ
def eP : aq := ⟨[.val false .int, .val false (.list gR), .val true .elem], [], true, 0, false⟩
abbrev qk : Type := ((Int) × (List ((aa × (aa × (aa × Bool))))) × (aa) × Unit) × (Unit)
def lq : Shape := ⟨35, [(0, .val false .int), (1, .val false (.list (.prod .elem (.prod .elem (.prod .elem .bool))))), (5, .ptr 0 0 0), (7, .own 1), (8, .val false .int)], [(0, .row .u64), (1, .row (.prod .elem (.prod .elem (.prod .elem .bool))))], 0, true⟩
abbrev bK : Type := ((Int) × (List ((aa × (aa × (aa × Bool))))) × (Unit) × (Unit) × (Int) × Unit) × ((List (UInt64)) × (List ((aa × (aa × (aa × Bool))))) × Unit)
def kE : Shape := ⟨35, [(7, .own 0)], [(0, .row (.prod .elem (.prod .elem (.prod .elem .bool))))], 0, true⟩
abbrev fY : Type := ((Unit) × Unit) × ((List ((aa × (aa × (aa × Bool))))) × Unit)
def FX : SE → Option Shape := ku [(0, kE)] none
def WK (a0 : Int) (a1 : List ((aa × (aa × (aa × Bool))))) (a8 : Int) (c0 : List (UInt64)) (c1 : List ((aa × (aa × (aa × Bool))))) : OT (Sum bK aO) :=
  let z0 : Nat := List.length a1
  let z1 : Bool := inB a8 z0
  let z2 : Int := tL a0 (1 : Int)
  let z3 : aa := { w0 := 0, w1 := 0, w2 := 0, w3 := 0 }
  let z4 : aa × aa × aa × Bool := List.getD a1 (Int.toNat a8) (z3, z3, z3, false)
  let z5 := z4.fst
  let z6 : aa := { w0 := List.getD c0 0 0, w1 := List.getD c0 1 0, w2 := List.getD c0 2 0, w3 := List.getD c0 3 0 }
  (.br (decide (a8 < (↑z0 : Int)))
  (gd [z1, decide (4 ≤ List.length c0), bX ((z2, z5, z6, ()), ()), z1, decide ((List.length c1 + 1) * 104 ≤ 140737488355328), inR (a8 + (1 : Int))] (.ok (.inl ((a0, (a1, ((), ((), (a8 + (1 : Int), ()))))), (c0, (c1 ++ [(aQ (pS z2) z5 z6, z4.snd)], ()))))))
  (.ok (.inr ⟨(.exit 0, kE), (((), ()), (c1, ()))⟩)))
def lu (s : bK) : OT (Sum bK aO) := WK (s.1.1) (s.1.2.1) (s.1.2.2.2.2.1) (s.2.1) (s.2.2.1)
theorem WH (s : bK) (Q : Sum bK aO → Prop) : wps te mv ax 1000 (bG (ak Try.f44) 0) (lq.inj s) (cU lq FX (Q : Sum lq.T aO → Prop)) = (lu s).wpR Q := by kernel_rfl
def qj (g0_0 : bK → fY) (s : bK) : OT aO := (.ok ⟨(.exit 0, kE), g0_0 s⟩)
def wO : ay := ⟨[.own 0], [(0, .row (.prod .elem (.prod .elem (.prod .elem .bool))))], false⟩
def BI : SV → Option ay := fun _ => some wO
def BJ (ok0 : bK → Bool) (g0_0 : bK → fY) (a0 : Int) (a1 : List ((aa × (aa × (aa × Bool))))) (a2 : aa) : OT eP.Y :=
  let z0 : (Int × List (aa × aa × aa × Bool) × PUnit × PUnit × Int × PUnit) × List UInt64 × List (aa × aa × aa × Bool) × PUnit := ((a0, a1, (), (), (0 : Int), ()), [a2.w0, a2.w1, a2.w2, a2.w3], [], ())
  (gd [ok0 z0] (.ok ⟨wO, (((), ()), ((g0_0 z0).snd.fst, ()))⟩))
theorem abx (ok0 : bK → Bool) (g0_0 : bK → fY) (x : qk) (Q : eP.Y → Prop) : wpf te mv (bp 0 (dv lq 0 ok0 (qj g0_0)) ax) 1000 Try.f44 (eP.inp.inj x).tm (eP.inp.inj x).hp (fnK eP BI Q) (fun _ _ => False) = (BJ ok0 g0_0 (x.1.1) (x.1.2.1) (x.1.2.2.1)).wpR Q := by kernel_rfl
theorem Lk (ok0 : bK → Bool) (g0_0 : bK → fY) (h0 : ∀ s : bK, ok0 s = true → ∃ m e, au (lu) m s = some e ∧ (qj g0_0 s).run = some e) (pre : qk → Bool) (F : qk → OT eP.Y) (hF : ∀ (x : qk) oy, pre x = true → (F x).run = some oy → (BJ ok0 g0_0 (x.1.1) (x.1.2.1) (x.1.2.2.1)).run = some oy) : ab Try.prog 44 (eP.aK pre F) :=
  aD av kU vB (f := 44) (fn := Try.f44) (c := ak Try.f44) (by kernel_rfl) (by kernel_rfl) (by kernel_rfl) (S := eP) (k := 0) (by kernel_rfl) (fun R hR => (aI (c := (ak Try.f44)) (by kernel_rfl) (id := 0) (by kernel_rfl) (bw av kU vB (sh := lq) hR (xs := FX) (aH (by kernel_rfl) (by kernel_rfl) hR) aW ae (n := 1000) (T := lu) (fun s Q => WH s Q) (ok := ok0) (f := qj g0_0) h0) ae)) (n := 1000) (sel := BI) (fun v o h => by cases h; rfl) (pre := pre) (F := F) (T := fun x => BJ ok0 g0_0 (x.1.1) (x.1.2.1) (x.1.2.2.1)) (fun x Q => abx ok0 g0_0 x Q) hF
theorem map_push {α β : Type} (f : α → β) (d : α) (l : List α) : ∀ n, n ≤ l.length → upto (fun i (o : List β) => o ++ [f (l.getD i d)]) [] n = (l.take n).map f
  | 0, _ => rfl
  | n + 1, h => by
    have hn : n < l.length := by omega
    show upto (fun i (o : List β) => o ++ [f (l.getD i d)]) [] n ++ [f (l.getD n d)] = _
    rw [map_push f d l n (by omega), yb hn, ← List.take_append_getElem hn, List.map_append]
    rfl
def sc (s : bK) : Bool := aj (tL s.1.1 1) && decide (s.1.2.2.2.2.1 = 0 ∧ s.2.1.length = 4 ∧ s.2.2.1 = [] ∧ s.1.2.1.length * 104 ≤ 140737488355328)
def FY (s : bK) : fY := (((), ()), (kB s.1.1 (elemOf s.2.1) s.1.2.1, ()))
theorem WJ : ∀ s : bK, sc s = true → ∃ m e, au lu m s = some e ∧ (qj FY s).run = some e := by
  rintro ⟨⟨c, l, ⟨⟩, ⟨⟩, i, ⟨⟩⟩, ⟨k, o, ⟨⟩⟩⟩ h
  simp only [sc, Bool.and_eq_true, decide_eq_true_eq] at h
  obtain ⟨hs, rfl, hk, rfl, hl⟩ := h
  obtain ⟨a, rfl⟩ : ∃ a, k = lst a := ⟨elemOf k, (bc hk).symm⟩
  have := (bF (T := lu) (fun i o => (((c, l, (), (), (i : Int), ()), (lst a, o, ())) : bK)) (fun i (o : List Tm) => o ++ [abh c a (l.getD i dV)])
    (fun o => (⟨(.exit 0, kE), (((), ()), (o, ()))⟩ : aO)) l.length [] (fun k o => o.length = k) rfl (fun i o hi ho => ⟨?_, ?_⟩) (fun o ho => ?_)).1
  · obtain ⟨m, hm⟩ := this
    rw [map_push _ _ _ _ (Nat.le_refl _), List.take_length] at hm
    exact ⟨m, _, hm, rfl⟩
  · have ho : o.length = i := ho
    have i1 : inB (i : Int) l.length = true := bJ (by omega)
    refine (OT.ao (decide_eq_true (by dsimp only; omega))).trans ((ai ?_).trans rfl)
    simp only [List.all_cons, List.all_nil, Bool.and_true, Bool.and_eq_true]
    exact ⟨i1, rfl, hs, i1, decide_eq_true (by omega), bC (by omega)⟩
  · rw [List.length_append]
    exact congrArg (· + 1) ho
  · exact OT.ap (decide_eq_false (by dsimp only; omega))
def mO (x : qk) : Bool := aj x.1.1 && decide (x.1.2.1.length * 104 ≤ 140737488355328)
def Ll (x : qk) : OT eP.Y := .ok ⟨wO, (((), ()), (kB x.1.1 x.1.2.2.1 x.1.2.1, ()))⟩
theorem WI : ab Try.prog 44 (eP.aK mO Ll) := Lk sc FY WJ _ _ fun x oy hp ho => by
  rw [← ho]
  clear ho
  obtain ⟨⟨c, l, k, ⟨⟩⟩, ⟨⟩⟩ := x
  obtain ⟨hs, hl⟩ := (Bool.and_eq_true _ _).mp hp
  refine (ai ?_).trans rfl
  simp only [List.all_cons, List.all_nil, Bool.and_true]
  exact (Bool.and_eq_true _ _).mpr ⟨fJ hs, decide_eq_true ⟨rfl, rfl, rfl, of_decide_eq_true hl⟩⟩
def om : cI := (eP.aK mO Ll)
theorem Ip : ab Try.prog 44 om := WI
theorem Io : aJ om := aA
def pK : Env := az 44 om mv
theorem pJ : aV Try.prog pK := ag Ip kU
theorem rR : aw pK := ac Io rQ
theorem Kv : bg Try.prog te pK := aN follows av pJ rR
def gA : aq := ⟨[.val false .int, .val false (.list gR)], [], true, 0, false⟩
abbrev xO : Type := ((Int) × (List ((aa × (aa × (aa × Bool))))) × Unit) × (Unit)
def j0 : ay := ⟨[.val false .bool], [], false⟩
def GP : SV → Option ay := fun _ => some j0
def uZ (a0 : Int) (a1 : List ((aa × (aa × (aa × Bool))))) : OT gA.Y :=
  let z0 : Int := (↑(List.length a1) : Int)
  let z1 : Bool := decide ((2 : Int) < z0)
  (.br (decide ((60 : Int) < z0))
  (.ok ⟨j0, ((true, ()), ())⟩)
  (.br (a0 == (2 : Int))
    (.ok ⟨j0, ((z1, ()), ())⟩)
    (.br (a0 == (3 : Int))
      (.ok ⟨j0, ((z1, ()), ())⟩)
      (.ok ⟨j0, ((false, ()), ())⟩))))
theorem ahB (x : xO) (Q : gA.Y → Prop) : wpf te pK ax 1000 Try.f45 (gA.inp.inj x).tm (gA.inp.inj x).hp (fnK gA GP Q) (fun _ _ => False) = (uZ (x.1.1) (x.1.2.1)).wpR Q := by kernel_rfl
theorem QV (pre : xO → Bool) (F : xO → OT gA.Y) (hF : ∀ (x : xO) oy, pre x = true → (F x).run = some oy → (uZ (x.1.1) (x.1.2.1)).run = some oy) : ab Try.prog 45 (gA.aK pre F) :=
  aD av pJ Kv (f := 45) (fn := Try.f45) (c := ak Try.f45) (by kernel_rfl) (by kernel_rfl) (by kernel_rfl) (S := gA) (k := 0) (by kernel_rfl) (fun R hR => ae) (n := 1000) (sel := GP) (fun v o h => by cases h; rfl) (pre := pre) (F := F) (T := fun x => uZ (x.1.1) (x.1.2.1)) (fun x Q => ahB x Q) hF
def Da (c : Int) (l : List Tm) : Bool := cond (decide ((60 : Int) < (l.length : Int))) true (cond (c == 2) (decide ((2 : Int) < (l.length : Int))) (cond (c == 3) (decide ((2 : Int) < (l.length : Int))) false))
def GQ (_ : xO) : Bool := true
def UW (x : xO) : OT gA.Y := .ok ⟨j0, ((Da x.1.1 x.1.2.1, ()), ())⟩
theorem adg : ab Try.prog 45 (gA.aK GQ UW) := QV _ _ fun x oy hp ho => by
  rw [← ho]
  clear ho
  obtain ⟨⟨c, l, ⟨⟩⟩, ⟨⟩⟩ := x
  show (uZ c l).run = some ⟨j0, ((Da c l, ()), ())⟩
  unfold uZ Da
  dsimp only
  cases decide ((60 : Int) < (l.length : Int)) <;> cases c == 2 <;> cases c == 3 <;> rfl
def sM : cI := (gA.aK GQ UW)
theorem MM : ab Try.prog 45 sM := adg
theorem ML : aJ sM := aA
def vX : Env := az 45 sM pK
theorem tv : aV Try.prog vX := ag MM pJ
theorem vW : aw vX := ac ML rR
theorem OR : bg Try.prog te vX := aN follows av tv vW
end Go.Proofs.Ytkedomfjjahjnaa

namespace Go.Proofs.Ytkedomfjjahjnaa
namespace Sx
open Go
def N7 (s0 s1 : cI) : cI := ⟨s0.mod || s1.mod, fun d args hp => match args.getD 0 .cm, args.getD 1 .cm with
  | .ptr c _ _ _, .ptr c' _ _ _ => cond (Nat.beq c c') (s0.f d args hp) (s1.f d args hp)
  | _, _ => s1.f d args hp⟩
theorem ae7 {P : Program} {f : FuncId} {s0 s1 : cI} (h0 : ab P f s0) (h1 : ab P f s1) : ab P f (N7 s0 s1) := by
  refine ⟨fun R w d args vs out hm hr hrun => ?_⟩
  simp only [N7] at hrun
  split at hrun
  · rename_i c _ _ _ c' _ _ _ _ _
    cases hb : Nat.beq c c'
    · rw [hb] at hrun
      exact h1.calls R w d args vs out hm hr hrun
    · rw [hb] at hrun
      exact h0.calls R w d args vs out hm hr hrun
  · exact h1.calls R w d args vs out hm hr hrun
theorem R6 {s0 s1 : cI} (h0 : aJ s0) (h1 : aJ s1) : aJ (N7 s0 s1) := fun d args hp hp' out hg hrun => by
  simp only [N7] at hrun ⊢
  split at hrun
  · rename_i c _ _ _ c' _ _ _ _ _
    cases hb : Nat.beq c c'
    · rw [hb] at hrun
      exact h1 d args hp hp' out hg hrun
    · rw [hb] at hrun
      exact h0 d args hp hp' out hg hrun
  · exact h1 d args hp hp' out hg hrun
end Sx
end Go.Proofs.Ytkedomfjjahjnaa

namespace Go.Proofs.Ytkedomfjjahjnaa
open Sx Go
set_option maxRecDepth 100000
def gx : aq := ⟨[.ptr 0 0 0, .ptr 0 0 0], [(0, alZ (.own 1)), (1, .row gR)], false, 1, true⟩
abbrev xN : Type := ((Unit) × (Unit) × Unit) × (((Int) × (Unit) × Unit) × (List ((aa × (aa × (aa × Bool))))) × Unit)
def lV : ay := ⟨[.val false .int], [(0, .cells [.val false .int, .own 1]), (1, .row (.prod .elem (.prod .elem (.prod .elem .bool))))], false⟩
def GK : SV → Option ay := fun _ => some lV
def A2 (c0_0 : Int) (c1 : List ((aa × (aa × (aa × Bool))))) : OT gx.Y :=
  let z0 : Int := (↑(List.length c1) : Int)
  let z1 : Int := z0 + z0
  let z2 : Nat := List.length c1
  (.br (!c0_0 == c0_0)
  (.ok ⟨lV, (((40 : Int), ()), ((c0_0, ((), ())), (c1, ())))⟩)
  (gd [inR z1] (.br (decide ((100000 : Int) < z1))
    (.ok ⟨lV, (((50 : Int), ()), ((c0_0, ((), ())), (c1, ())))⟩)
    (gd [decide ((z2 + z2) * 104 ≤ 140737488355328)] (.ok ⟨lV, (((0 : Int), ()), ((c0_0, ((), ())), (c1 ++ c1, ())))⟩)))))
theorem ahw (x : xN) (Q : gx.Y → Prop) : wpf te vX ax 1000 Try.f42 (gx.inp.inj x).tm (gx.inp.inj x).hp (fnK gx GK Q) (fun _ _ => False) = (A2 (x.2.1.1) (x.2.2.1)).wpR Q := by kernel_rfl
theorem QU (pre : xN → Bool) (F : xN → OT gx.Y) (hF : ∀ (x : xN) oy, pre x = true → (F x).run = some oy → (A2 (x.2.1.1) (x.2.2.1)).run = some oy) : ab Try.prog 42 (gx.aK pre F) :=
  aD av tv OR (f := 42) (fn := Try.f42) (c := ak Try.f42) (by kernel_rfl) (by kernel_rfl) (by kernel_rfl) (S := gx) (k := 2) (by kernel_rfl) (fun R hR => ae) (n := 1000) (sel := GK) (fun v o h => by cases h; rfl) (pre := pre) (F := F) (T := fun x => A2 (x.2.1.1) (x.2.2.1)) (fun x Q => ahw x Q) hF
def qK (x : xN) : Bool := decide (x.2.2.1.length ≤ 50000)
def UU (x : xN) : OT gx.Y := .ok ⟨lV, (((0 : Int), ()), ((x.2.1.1, ((), ())), (x.2.2.1 ++ x.2.2.1, ())))⟩
theorem adb : ab Try.prog 42 (gx.aK qK UU) := QU _ _ fun x oy hp ho => by
  rw [← ho]
  clear ho
  obtain ⟨⟨⟨⟩, ⟨⟩, ⟨⟩⟩, ⟨⟨c, ⟨⟩, ⟨⟩⟩, l, ⟨⟩⟩⟩ := x
  have hl : l.length ≤ 50000 := of_decide_eq_true hp
  show (A2 c l).run = some ⟨lV, (((0 : Int), ()), ((c, ((), ())), (l ++ l, ())))⟩
  refine (OT.ap (b := !(c == c)) (by rw [beq_self_eq_true]; rfl)).trans ((ai ?_).trans ((OT.ap (decide_eq_false (by omega))).trans ((ai ?_).trans rfl)))
  · simp only [List.all_cons, List.all_nil, Bool.and_true]
    exact bC (by omega)
  · simp only [List.all_cons, List.all_nil, Bool.and_true]
    exact decide_eq_true (by omega)
def sK : cI := (N7 (gx.aK qK UU) qL)
theorem MH : ab Try.prog 42 sK := (ae7 adb CD)
theorem MG : aJ sK := (R6 aA CC)
def vV : Env := az 42 sK vX
theorem tr : aV Try.prog vV := ag MH tv
theorem KD : aw vV := ac MG vW
theorem Ae : bg Try.prog te vV := aN follows av tr KD
def eH : aq := ⟨[.val false .int, .val false (.list (.prod .int (.prod .elem (.prod .elem (.prod .elem .bool)))))], [], true, 0, false⟩
abbrev xU : Type := ((Int) × (List ((Int × (aa × (aa × (aa × Bool)))))) × Unit) × (Unit)
def o3 : Shape := ⟨182, [(0, .val false .int), (1, .val false (.list (.prod .int (.prod .elem (.prod .elem (.prod .elem .bool)))))), (5, .ptr 0 0 0), (7, .ptr 1 0 0), (9, .own 2), (10, .own 3), (11, .ptr 4 0 0), (12, .val false .int)], [(0, .cells [.val false .int, .own 5]), (1, .cells [.val false .int, .own 6]), (2, .row (.prod .elem (.prod .elem (.prod .elem .bool)))), (3, .row (.prod .elem (.prod .elem (.prod .elem .bool)))), (4, .row .u64), (5, .row (.prod .elem (.prod .elem (.prod .elem .bool)))), (6, .row (.prod .elem (.prod .elem (.prod .elem .bool))))], 0, true⟩
abbrev ba : Type := ((Int) × (List ((Int × (aa × (aa × (aa × Bool)))))) × (Unit) × (Unit) × (Unit) × (Unit) × (Unit) × (Int) × Unit) × (((Int) × (Unit) × Unit) × ((Int) × (Unit) × Unit) × (List ((aa × (aa × (aa × Bool))))) × (List ((aa × (aa × (aa × Bool))))) × (List (UInt64)) × (List ((aa × (aa × (aa × Bool))))) × (List ((aa × (aa × (aa × Bool))))) × Unit)
def aU : Shape := ⟨182, [(4, .val false .bool)], [], 0, true⟩
abbrev iC : Type := ((Bool) × Unit) × (Unit)
def nl : Shape := ⟨182, [(0, .val false .int), (5, .ptr 0 0 0), (9, .own 1)], [(0, .cells [.val false .int, .own 2]), (1, .row (.prod .elem (.prod .elem (.prod .elem .bool)))), (2, .row (.prod .elem (.prod .elem (.prod .elem .bool))))], 0, true⟩
abbrev iD : Type := ((Int) × (Unit) × (Unit) × Unit) × (((Int) × (Unit) × Unit) × (List ((aa × (aa × (aa × Bool))))) × (List ((aa × (aa × (aa × Bool))))) × Unit)
def MT : SE → Option Shape := ku [(0, nl)] (some aU)
def CX (a0 : Int) (a1 : List ((Int × (aa × (aa × (aa × Bool)))))) (a12 : Int) (c0_0 : Int) (c1_0 : Int) (c2 : List ((aa × (aa × (aa × Bool))))) (c3 : List ((aa × (aa × (aa × Bool))))) (c4 : List (UInt64)) (c5 : List ((aa × (aa × (aa × Bool))))) (c6 : List ((aa × (aa × (aa × Bool))))) : OT (Sum ba aO) :=
  let z0 : Nat := List.length a1
  let z1 : Int := tL a0 (1 : Int)
  let z2 : aa := { w0 := 0, w1 := 0, w2 := 0, w3 := 0 }
  let z3 : Int × aa × aa × aa × Bool := List.getD a1 (Int.toNat a12) ((0 : Int), z2, z2, z2, false)
  let z4 := z3.snd
  let z5 := z4.fst
  let z6 : aa := { w0 := List.getD c4 0 0, w1 := List.getD c4 1 0, w2 := List.getD c4 2 0, w3 := List.getD c4 3 0 }
  let z7 := z3.fst
  let z8 := z4.snd
  let z9 : Bool := onB a0 z8
  let z10 : Nat := List.length c2
  let z11 : Bool := decide ((z10 + 1) * 104 ≤ 140737488355328)
  let z12 : PUnit × PUnit := ((), ())
  let z13 : PUnit × PUnit := ((), ())
  let z14 : Int × PUnit × PUnit := (c0_0, z13)
  let z15 : List (aa × aa × aa × Bool) := c5 ++ [(wJ c0_0 z5, z8)]
  let z16 : List (aa × aa × aa × Bool) := c2 ++ [(n0 (pS z1) z5 z6, z8)]
  let z17 : Int × PUnit × PUnit := (c1_0, z13)
  let z18 : Bool := ek (z12, z17, c6, ())
  let z19 : Bool := eo ((c6, c3, ()), ())
  let z20 : Bool := !decide (c6 = c3)
  let z21 : Bool := inR (a12 + (1 : Int))
  let z22 : (Int × PUnit × PUnit) × List (aa × aa × aa × Bool) × PUnit := (z14, c5, ())
  let z23 : Bool := ek (z12, z22)
  let z24 : Bool := eo ((c5, c2, ()), ())
  let z25 : List (aa × aa × aa × Bool) := kB c0_0 z5 c5
  let z26 : List (aa × aa × aa × Bool) := kB a0 z5 c2
  let z27 : Bool := qO ((c2, ()), ())
  let z28 : Nat := List.length c3
  let z29 : Bool := decide ((z10 + z28) * 104 ≤ 140737488355328)
  let z30 : Bool := decide ((z28 + 1) * 104 ≤ 140737488355328)
  let z31 : Bool := !decide (c5 = c2)
  let z32 : List (aa × aa × aa × Bool) := c6 ++ [(wJ c1_0 z5, z8)]
  let z33 : List (aa × aa × aa × Bool) := c3 ++ [(n0 (pS z1) z5 z6, z8)]
  (.br (decide (a12 < (↑z0 : Int)))
  (gd [inB a12 z0, decide (4 ≤ List.length c4), lK ((z1, z5, z6, ()), ())] (.br (z7 == (1 : Int))
    (.br (onB c0_0 z8)
      (.br (Ay c5)
        (.br (z9)
          (gd [z11, ek (z12, z14, z15, ()), eo ((z15, z16, ()), ())] (.br (!decide (z15 = z16))
            (.ok (.inr ⟨(.ret, aU), ((false, ()), ())⟩))
            (gd [z18, z19] (.br (z20)
              (.ok (.inr ⟨(.ret, aU), ((false, ()), ())⟩))
              (gd [z21] (.ok (.inl ((a0, (a1, ((), ((), ((), ((), ((), (a12 + (1 : Int), ())))))))), ((c0_0, ((), ())), ((c1_0, ((), ())), (z16, (c3, (c4, (z15, (c6, ())))))))))))))))
          (.ok (.inr ⟨(.ret, aU), ((false, ()), ())⟩)))
        (.br (z9)
          (gd [z11] (.ok (.inr ⟨(.ret, aU), ((false, ()), ())⟩)))
          (.ok (.inr ⟨(.ret, aU), ((false, ()), ())⟩))))
      (.br (z9)
        (gd [z11] (.ok (.inr ⟨(.ret, aU), ((false, ()), ())⟩)))
        (gd [z23, z24] (.br (!decide (c5 = c2))
          (.ok (.inr ⟨(.ret, aU), ((false, ()), ())⟩))
          (gd [z18, z19] (.br (z20)
            (.ok (.inr ⟨(.ret, aU), ((false, ()), ())⟩))
            (gd [z21] (.ok (.inl ((a0, (a1, ((), ((), ((), ((), ((), (a12 + (1 : Int), ())))))))), ((c0_0, ((), ())), ((c1_0, ((), ())), (c2, (c3, (c4, (c5, (c6, ())))))))))))))))))
    (.br (z7 == (2 : Int))
      (gd [qJ (((), z5, ()), z22), mO ((a0, c2, z5, ()), ()), ek (z12, z14, z25, ()), eo ((z25, z26, ()), ())] (.br (!decide (z25 = z26))
        (.ok (.inr ⟨(.ret, aU), ((false, ()), ())⟩))
        (gd [z18, z19] (.br (z20)
          (.ok (.inr ⟨(.ret, aU), ((false, ()), ())⟩))
          (gd [z21] (.ok (.inl ((a0, (a1, ((), ((), ((), ((), ((), (a12 + (1 : Int), ())))))))), ((c0_0, ((), ())), ((c1_0, ((), ())), (z26, (c3, (c4, (z25, (c6, ())))))))))))))))
      (.br (z7 == (3 : Int))
        (gd [uY (((), (), ()), (c0_0, (), ()), (c1_0, (), ()), c6, c5, ())] (.br (c1_0 == c0_0)
          (.br (ana c5 c6)
            (gd [z27, z29, ek (z12, z14, c5 ++ c6, ()), eo ((c5 ++ c6, c2 ++ c3, ()), ())] (.br (!decide (c5 ++ c6 = c2 ++ c3))
              (.ok (.inr ⟨(.ret, aU), ((false, ()), ())⟩))
              (gd [z18, z19] (.br (!decide (c6 = c3))
                (.ok (.inr ⟨(.ret, aU), ((false, ()), ())⟩))
                (gd [z21] (.ok (.inl ((a0, (a1, ((), ((), ((), ((), ((), (a12 + (1 : Int), ())))))))), ((c0_0, ((), ())), ((c1_0, ((), ())), (c2 ++ c3, (c3, (c4, (c5 ++ c6, (c6, ())))))))))))))))
            (gd [z27, z29] (.ok (.inr ⟨(.ret, aU), ((false, ()), ())⟩))))
          (gd [z27, z29] (.ok (.inr ⟨(.ret, aU), ((false, ()), ())⟩)))))
        (.br (z7 == (4 : Int))
          (.br (decide ((30 : Int) < (↑z10 : Int)))
            (gd [z21] (.ok (.inl ((a0, (a1, ((), ((), ((), ((), ((), (a12 + (1 : Int), ())))))))), ((c0_0, ((), ())), ((c1_0, ((), ())), (c2, (c3, (c4, (c5, (c6, ())))))))))))
            (gd [qK (((), (), ()), z22), z27, decide ((z10 + z10) * 104 ≤ 140737488355328), ek (z12, z14, c5 ++ c5, ()), eo ((c5 ++ c5, c2 ++ c2, ()), ())] (.br (!decide (c5 ++ c5 = c2 ++ c2))
              (.ok (.inr ⟨(.ret, aU), ((false, ()), ())⟩))
              (gd [z18, z19] (.br (z20)
                (.ok (.inr ⟨(.ret, aU), ((false, ()), ())⟩))
                (gd [z21] (.ok (.inl ((a0, (a1, ((), ((), ((), ((), ((), (a12 + (1 : Int), ())))))))), ((c0_0, ((), ())), ((c1_0, ((), ())), (c2 ++ c2, (c3, (c4, (c5 ++ c5, (c6, ()))))))))))))))))
          (.br (z7 == (5 : Int))
            (.br (onB c1_0 z8)
              (.br (Ay c6)
                (.br (z9)
                  (gd [z30, z23, z24] (.br (z31)
                    (.ok (.inr ⟨(.ret, aU), ((false, ()), ())⟩))
                    (gd [ek (z12, z17, z32, ()), eo ((z32, z33, ()), ())] (.br (!decide (z32 = z33))
                      (.ok (.inr ⟨(.ret, aU), ((false, ()), ())⟩))
                      (gd [z21] (.ok (.inl ((a0, (a1, ((), ((), ((), ((), ((), (a12 + (1 : Int), ())))))))), ((c0_0, ((), ())), ((c1_0, ((), ())), (c2, (z33, (c4, (c5, (z32, ())))))))))))))))
                  (.ok (.inr ⟨(.ret, aU), ((false, ()), ())⟩)))
                (.br (z9)
                  (gd [z30] (.ok (.inr ⟨(.ret, aU), ((false, ()), ())⟩)))
                  (.ok (.inr ⟨(.ret, aU), ((false, ()), ())⟩))))
              (.br (z9)
                (gd [z30] (.ok (.inr ⟨(.ret, aU), ((false, ()), ())⟩)))
                (gd [z23, z24] (.br (z31)
                  (.ok (.inr ⟨(.ret, aU), ((false, ()), ())⟩))
                  (gd [z18, z19] (.br (!decide (c6 = c3))
                    (.ok (.inr ⟨(.ret, aU), ((false, ()), ())⟩))
                    (gd [z21] (.ok (.inl ((a0, (a1, ((), ((), ((), ((), ((), (a12 + (1 : Int), ())))))))), ((c0_0, ((), ())), ((c1_0, ((), ())), (c2, (c3, (c4, (c5, (c6, ())))))))))))))))))
            (gd [z23, z24] (.br (z31)
              (.ok (.inr ⟨(.ret, aU), ((false, ()), ())⟩))
              (gd [z18, z19] (.br (z20)
                (.ok (.inr ⟨(.ret, aU), ((false, ()), ())⟩))
                (gd [z21] (.ok (.inl ((a0, (a1, ((), ((), ((), ((), ((), (a12 + (1 : Int), ())))))))), ((c0_0, ((), ())), ((c1_0, ((), ())), (c2, (c3, (c4, (c5, (c6, ())))))))))))))))))))))
  (.ok (.inr ⟨(.exit 0, nl), ((a0, ((), ((), ()))), ((c0_0, ((), ())), (c2, (c5, ()))))⟩)))
def l7 (s : ba) : OT (Sum ba aO) := CX (s.1.1) (s.1.2.1) (s.1.2.2.2.2.2.2.2.1) (s.2.1.1) (s.2.2.1.1) (s.2.2.2.1) (s.2.2.2.2.1) (s.2.2.2.2.2.1) (s.2.2.2.2.2.2.1) (s.2.2.2.2.2.2.2.1)
theorem adp (s : ba) (Q : Sum ba aO → Prop) : wps te vV ax 1000 (bG (ak Try.f13) 0) (o3.inj s) (cU o3 MT (Q : Sum o3.T aO → Prop)) = (l7 s).wpR Q := by kernel_rfl
def u0 (g0_r : ba → iC) (c0_r : ba → Bool) (g0_0 : ba → iD) (s : ba) : OT aO := (.br (c0_r s) (.ok ⟨(.ret, aU), g0_r s⟩) (.ok ⟨(.exit 0, nl), g0_0 s⟩))
def aY : ay := ⟨[.val false .bool], [], false⟩
def GY : SV → Option ay := fun _ => some aY
def A4 (ok0 : ba → Bool) (g0_r : ba → iC) (c0_r : ba → Bool) (g0_0 : ba → iD) (a0 : Int) (a1 : List ((Int × (aa × (aa × (aa × Bool)))))) : OT eH.Y :=
  let z0 : Nat := List.length a1
  let z1 : Bool := aj a0
  let z2 : Bool := decide (a0 < (0 : Int))
  let z3 : Bool := decide ((3 : Int) < a0)
  let z4 : PUnit × PUnit × PUnit × PUnit × PUnit × Int × PUnit := ((), (), (), (), (), (0 : Int), ())
  let z5 : (Int × PUnit × PUnit) × (Int × PUnit × PUnit) × List (aa × aa × aa × Bool) × List (aa × aa × aa × Bool) × List UInt64 × List (aa × aa × aa × Bool) × List (aa × aa × aa × Bool) × PUnit := ((a0, (), ()), (a0, (), ()), [], [], [(0 : UInt64), (0 : UInt64), (0 : UInt64), (0 : UInt64)], [], [], ())
  let z6 : (Int × List (Int × aa × aa × aa × Bool) × PUnit × PUnit × PUnit × PUnit × PUnit × Int × PUnit) × (Int × PUnit × PUnit) × (Int × PUnit × PUnit) × List (aa × aa × aa × Bool) × List (aa × aa × aa × Bool) × List UInt64 × List (aa × aa × aa × Bool) × List (aa × aa × aa × Bool) × PUnit := ((a0, List.drop 0 (List.take 30 a1), z4), z5)
  let z7 : (Int × PUnit × PUnit × PUnit) × (Int × PUnit × PUnit) × List (aa × aa × aa × Bool) × List (aa × aa × aa × Bool) × PUnit := g0_0 z6
  let z8 := z7.fst.fst
  let z9 := z7.snd
  let z10 := z9.snd
  let z11 := z10.fst
  let z12 : PUnit × PUnit := ((), ())
  let z13 := z9.fst.fst
  let z14 : PUnit × PUnit := ((), ())
  let z15 := z10.snd.fst
  let z16 : aa × aa × Bool := KM z13 z15
  let z17 := z16.fst
  let z18 : aa × aa × Bool := uh z8 z11
  let z19 := z18.fst
  let z20 := z16.snd
  let z21 := z20.fst
  let z22 := z18.snd
  let z23 := z22.fst
  let z24 : (Int × List (Int × aa × aa × aa × Bool) × PUnit × PUnit × PUnit × PUnit × PUnit × Int × PUnit) × (Int × PUnit × PUnit) × (Int × PUnit × PUnit) × List (aa × aa × aa × Bool) × List (aa × aa × aa × Bool) × List UInt64 × List (aa × aa × aa × Bool) × List (aa × aa × aa × Bool) × PUnit := ((a0, a1, z4), z5)
  let z25 : (Int × PUnit × PUnit × PUnit) × (Int × PUnit × PUnit) × List (aa × aa × aa × Bool) × List (aa × aa × aa × Bool) × PUnit := g0_0 z24
  let z26 := z25.fst.fst
  let z27 := z25.snd
  let z28 := z27.snd
  let z29 := z28.fst
  let z30 := z27.fst.fst
  let z31 := z28.snd.fst
  let z32 : aa × aa × Bool := KM z30 z31
  let z33 := z32.fst
  let z34 : aa × aa × Bool := uh z26 z29
  let z35 := z34.fst
  let z36 := z32.snd
  let z37 := z36.fst
  let z38 := z34.snd
  let z39 := z38.fst
  (.br (decide ((30 : Int) < (↑z0 : Int)))
  (gd [fI (0 : Int) (30 : Int) z0] (.br (z1)
    (.br (z1)
      (.br (z2)
        (.ok ⟨aY, ((false, ()), ())⟩)
        (.br (z3)
          (.ok ⟨aY, ((false, ()), ())⟩)
          (gd [ok0 z6] (.br (c0_r z6)
            (.ok ⟨aY, (((g0_r z6).fst.fst, ()), ())⟩)
            (.br (Da z8 z11)
              (.ok ⟨aY, ((true, ()), ())⟩)
              (gd [jn (z12, (z13, z14), z15, ())] (.ok ⟨aY, ((z17.w0 == z19.w0 && (z17.w1 == z19.w1 && (z17.w2 == z19.w2 && (z17.w3 == z19.w3 && true))) && (z21.w0 == z23.w0 && (z21.w1 == z23.w1 && (z21.w2 == z23.w2 && (z21.w3 == z23.w3 && true))) && (z20.snd == z22.snd && true)), ()), ())⟩)))))))
      (.br (z2)
        (.ok ⟨aY, ((false, ()), ())⟩)
        (.br (z3)
          (.ok ⟨aY, ((false, ()), ())⟩)
          (.ok ⟨aY, ((false, ()), ())⟩))))
    (.br (z1)
      (.br (z2)
        (.ok ⟨aY, ((false, ()), ())⟩)
        (.br (z3)
          (.ok ⟨aY, ((false, ()), ())⟩)
          (.ok ⟨aY, ((false, ()), ())⟩)))
      (.br (z2)
        (.ok ⟨aY, ((true, ()), ())⟩)
        (.br (z3)
          (.ok ⟨aY, ((true, ()), ())⟩)
          (.ok ⟨aY, ((false, ()), ())⟩))))))
  (.br (z1)
    (.br (z1)
      (.br (z2)
        (.ok ⟨aY, ((false, ()), ())⟩)
        (.br (z3)
          (.ok ⟨aY, ((false, ()), ())⟩)
          (gd [ok0 z24] (.br (c0_r z24)
            (.ok ⟨aY, (((g0_r z24).fst.fst, ()), ())⟩)
            (.br (Da z26 z29)
              (.ok ⟨aY, ((true, ()), ())⟩)
              (gd [jn (z12, (z30, z14), z31, ())] (.ok ⟨aY, ((z33.w0 == z35.w0 && (z33.w1 == z35.w1 && (z33.w2 == z35.w2 && (z33.w3 == z35.w3 && true))) && (z37.w0 == z39.w0 && (z37.w1 == z39.w1 && (z37.w2 == z39.w2 && (z37.w3 == z39.w3 && true))) && (z36.snd == z38.snd && true)), ()), ())⟩)))))))
      (.br (z2)
        (.ok ⟨aY, ((false, ()), ())⟩)
        (.br (z3)
          (.ok ⟨aY, ((false, ()), ())⟩)
          (.ok ⟨aY, ((false, ()), ())⟩))))
    (.br (z1)
      (.br (z2)
        (.ok ⟨aY, ((false, ()), ())⟩)
        (.br (z3)
          (.ok ⟨aY, ((false, ()), ())⟩)
          (.ok ⟨aY, ((false, ()), ())⟩)))
      (.br (z2)
        (.ok ⟨aY, ((true, ()), ())⟩)
        (.br (z3)
          (.ok ⟨aY, ((true, ()), ())⟩)
          (.ok ⟨aY, ((false, ()), ())⟩))))))
theorem ahG (ok0 : ba → Bool) (g0_r : ba → iC) (c0_r : ba → Bool) (g0_0 : ba → iD) (x : xU) (Q : eH.Y → Prop) : wpf te vV (bp 0 (dv o3 0 ok0 (u0 g0_r c0_r g0_0)) ax) 1000 Try.f13 (eH.inp.inj x).tm (eH.inp.inj x).hp (fnK eH GY Q) (fun _ _ => False) = (A4 ok0 g0_r c0_r g0_0 (x.1.1) (x.1.2.1)).wpR Q := by kernel_rfl
theorem Rc (ok0 : ba → Bool) (g0_r : ba → iC) (c0_r : ba → Bool) (g0_0 : ba → iD) (h0 : ∀ s : ba, ok0 s = true → ∃ m e, au (l7) m s = some e ∧ (u0 g0_r c0_r g0_0 s).run = some e) (pre : xU → Bool) (F : xU → OT eH.Y) (hF : ∀ (x : xU) oy, pre x = true → (F x).run = some oy → (A4 ok0 g0_r c0_r g0_0 (x.1.1) (x.1.2.1)).run = some oy) : ab Try.prog 13 (eH.aK pre F) :=
  aD av tr Ae (f := 13) (fn := Try.f13) (c := ak Try.f13) (by kernel_rfl) (by kernel_rfl) (by kernel_rfl) (S := eH) (k := 0) (by kernel_rfl) (fun R hR => (aI (c := (ak Try.f13)) (by kernel_rfl) (id := 0) (by kernel_rfl) (bw av tr Ae (sh := o3) hR (xs := MT) (aH (by kernel_rfl) (by kernel_rfl) hR) aW ae (n := 1000) (T := l7) (fun s Q => adp s Q) (ok := ok0) (f := u0 g0_r c0_r g0_0) h0) ae)) (n := 1000) (sel := GY) (fun v o h => by cases h; rfl) (pre := pre) (F := F) (T := fun x => A4 ok0 g0_r c0_r g0_0 (x.1.1) (x.1.2.1)) (fun x Q => ahG ok0 g0_r c0_r g0_0 x Q) hF
theorem nd {α : Type} [DecidableEq α] {a b : α} (h : a = b) : (!decide (a = b)) = false := by rw [decide_eq_true h]; rfl
theorem WB (s : Int) (l : List Tm) : BC s l = ja s l := by
  have e : Lf s l = dj s l := by
    funext k O
    unfold Lf dj
    rw [← add_same, ← UF]
  unfold BC ja
  rw [e]
theorem afL {s : Int} (hs : aj s = true) {l : List Tm} (ha : cP s l = true) (hl : l.length ≤ 100000) : KM s l = uh s l := by
  have e : uh s l = BC s l := by
    unfold uh
    rw [hs, ha, decide_eq_true hl]
    rfl
  obtain ⟨a1, a2⟩ := akW hs ha
  obtain ⟨b1, b2⟩ := FR hs ha
  rw [e, WB]
  exact aoj hs a1 b1 (a2.trans b2.symm)
abbrev OpX : Type := Int × (aa × (aa × (aa × Bool)))
def ao5 : OpX := (0, ⟨0, 0, 0, 0⟩, ⟨0, 0, 0, 0⟩, ⟨0, 0, 0, 0⟩, false)
def opT (c : Int) (t : OpX) : Tm := (wJ c t.2.1, t.2.2)
def dX (c : Int) (t : OpX) (q : List Tm × List Tm) : List Tm × List Tm :=
  cond (t.1 == 1) (cond (onB c t.2.2) (q.1 ++ [opT c t], q.2) q)
  (cond (t.1 == 2) (kB c t.2.1 q.1, q.2)
  (cond (t.1 == 3) (q.1 ++ q.2, q.2)
  (cond (t.1 == 4) (cond (decide ((30 : Int) < (q.1.length : Int))) q (q.1 ++ q.1, q.2))
  (cond (t.1 == 5) (cond (onB c t.2.2) (q.1, q.2 ++ [opT c t]) q) q))))
def XS (c : Int) (k : Nat) (q : List Tm × List Tm) : Prop := q.1.length ≤ 60 + 30 * k ∧ q.2.length ≤ k ∧ cP c q.1 = true ∧ cP c q.2 = true
theorem vy {c : Int} {l r : List Tm} (hl : cP c l = true) (hr : cP c r = true) : cP c (l ++ r) = true := by
  unfold cP at hl hr ⊢
  rw [List.all_append, hl, hr]
  rfl
theorem OC {c : Int} {t : Tm} (h : onB c t.2 = true) : cP c [t] = true := by
  unfold cP
  rw [List.all_cons, h]
  rfl
theorem Nd {c : Int} {k : Nat} (hk : k < 30) (t : OpX) {q : List Tm × List Tm} (h : XS c k q) : XS c (k + 1) (dX c t q) := by
  obtain ⟨h1, h2, h3, h4⟩ := h
  have h0 : XS c (k + 1) q := ⟨by omega, by omega, h3, h4⟩
  unfold dX
  cases t.1 == 1
  · cases t.1 == 2
    · cases t.1 == 3
      · cases t.1 == 4
        · cases t.1 == 5
          · exact h0
          · rcases (Bool.eq_false_or_eq_true (onB c t.2.2)).symm with h | h
            · rw [h]; exact h0
            · rw [h]
              refine ⟨by show q.1.length ≤ _; omega, ?_, h3, vy h4 (OC h)⟩
              show (q.2 ++ [opT c t]).length ≤ _
              rw [List.length_append]
              simp only [List.length_cons, List.length_nil]
              omega
        · by_cases h : (30 : Int) < (q.1.length : Int)
          · rw [decide_eq_true h]; exact h0
          · rw [decide_eq_false h]
            refine ⟨?_, by show q.2.length ≤ _; omega, vy h3 h3, h4⟩
            show (q.1 ++ q.1).length ≤ _
            rw [List.length_append]
            omega
      · refine ⟨?_, by show q.2.length ≤ _; omega, vy h3 h4, h4⟩
        show (q.1 ++ q.2).length ≤ _
        rw [List.length_append]
        omega
    · refine ⟨?_, by show q.2.length ≤ _; omega, (Sr t.2.1 q.1).trans h3, h4⟩
      show (kB c t.2.1 q.1).length ≤ _
      rw [kB, List.length_map]
      omega
  · rcases (Bool.eq_false_or_eq_true (onB c t.2.2)).symm with h | h
    · rw [h]; exact h0
    · rw [h]
      refine ⟨?_, by show q.2.length ≤ _; omega, vy h3 (OC h), h4⟩
      show (q.1 ++ [opT c t]).length ≤ _
      rw [List.length_append]
      simp only [List.length_cons, List.length_nil]
      omega
def ka (c : Int) (l : List OpX) (k : Int) (q : List Tm × List Tm) : ba := ((c, l, (), (), (), (), (), k, ()), ((c, (), ()), (c, (), ()), q.1, q.2, [0, 0, 0, 0], q.1, q.2, ()))
def jp (s : ba) : Bool := aj s.1.1 && decide (s.1.2.2.2.2.2.2.2.1 = 0 ∧ s.1.2.1.length ≤ 30 ∧ s.2.1.1 = s.1.1 ∧ s.2.2.1.1 = s.1.1 ∧ s.2.2.2.1 = [] ∧ s.2.2.2.2.1 = [] ∧ s.2.2.2.2.2.1 = [0, 0, 0, 0] ∧ s.2.2.2.2.2.2.1 = [] ∧ s.2.2.2.2.2.2.2.1 = [])
def xT (_ : ba) : iC := ((false, ()), ())
def CW (_ : ba) : Bool := false
def Bu (c : Int) (l : List OpX) : List Tm × List Tm := upto (fun k q => dX c (l.getD k ao5) q) ([], []) l.length
def CV (s : ba) : iD := ((s.1.1, (), (), ()), ((s.1.1, (), ()), (Bu s.1.1 s.1.2.1).1, (Bu s.1.1 s.1.2.1).1, ()))
theorem MV {c : Int} (hs : aj c = true) {l : List OpX} {k : Nat} (hk : k < l.length) (hk3 : k < 30) {t : OpX} (ht : l.getD k ao5 = t) {q : List Tm × List Tm} (h : XS c k q) :
    (l7 (ka c l (k : Int) q)).run = some (.inl (ka c l ((k : Int) + 1) (dX c t q))) := by
  obtain ⟨x, y⟩ := q
  obtain ⟨h1, h2, h3, h4⟩ := h
  have h1 : x.length ≤ 60 + 30 * k := h1
  have h2 : y.length ≤ k := h2
  obtain ⟨w, K, P⟩ := t
  have mt : ∀ l : List Tm, l.length ≤ 5000 → ek (((), ()), (c, (), ()), l, ()) = true := fun l hl => decide_eq_true (show l.length * 104 ≤ _ by omega)
  have ms : ∀ l r : List Tm, l.length ≤ 5000 → eo ((l, r, ()), ()) = true := fun l r hl => decide_eq_true (show l.length ≤ _ by omega)
  have mc : ∀ l : List Tm, l.length ≤ 5000 → qO ((l, ()), ()) = true := fun l hl => decide_eq_true (show l.length * 104 ≤ _ by omega)
  have hx : x.length ≤ 1000 := by omega
  have hy : y.length ≤ 1000 := by omega
  have lx1 : ∀ z : Tm, (x ++ [z]).length ≤ 5000 := fun z => by rw [List.length_append]; simp only [List.length_cons, List.length_nil]; omega
  have ly1 : ∀ z : Tm, (y ++ [z]).length ≤ 5000 := fun z => by rw [List.length_append]; simp only [List.length_cons, List.length_nil]; omega
  have lxy : (x ++ y).length ≤ 5000 := by rw [List.length_append]; omega
  have lxx : (x ++ x).length ≤ 5000 := by rw [List.length_append]; omega
  have i1 : inR ((k : Int) + 1) = true := bC (by omega)
  have rx : Ay x = true := decide_eq_true (by omega)
  have ry : Ay y = true := decide_eq_true (by omega)
  have g1 : decide ((x.length + 1) * 104 ≤ 140737488355328) = true := decide_eq_true (by omega)
  have g2 : decide ((y.length + 1) * 104 ≤ 140737488355328) = true := decide_eq_true (by omega)
  have g3 : decide ((x.length + y.length) * 104 ≤ 140737488355328) = true := decide_eq_true (by omega)
  have g4 : decide ((x.length + x.length) * 104 ≤ 140737488355328) = true := decide_eq_true (by omega)
  have tx := mt x (by omega)
  have ty := mt y (by omega)
  have sx := ms x x (by omega)
  have sy := ms y y (by omega)
  have cx := mc x (by omega)
  show (CX c l (k : Int) c c x y [0, 0, 0, 0] x y).run = some (.inl (ka c l ((k : Int) + 1) (dX c (w, K, P) (x, y))))
  have ht' : l.getD k ((0 : Int), (⟨0, 0, 0, 0⟩ : aa), (⟨0, 0, 0, 0⟩ : aa), (⟨0, 0, 0, 0⟩ : aa), false) = (w, K, P) := ht
  unfold CX
  dsimp only
  rw [Int.toNat_natCast, ht']
  dsimp only
  refine (OT.ao (decide_eq_true (by omega))).trans ((ai ?_).trans ?_)
  · simp only [List.all_cons, List.all_nil, Bool.and_true, Bool.and_eq_true]
    exact ⟨bJ (by omega), rfl, fJ hs⟩
  · rcases (Bool.eq_false_or_eq_true (w == 1)).symm with w1 | w1
    · refine (OT.ap w1).trans ?_
      rcases (Bool.eq_false_or_eq_true (w == 2)).symm with w2 | w2
      · refine (OT.ap w2).trans ?_
        rcases (Bool.eq_false_or_eq_true (w == 3)).symm with w3 | w3
        · refine (OT.ap w3).trans ?_
          rcases (Bool.eq_false_or_eq_true (w == 4)).symm with w4 | w4
          · refine (OT.ap w4).trans ?_
            rcases (Bool.eq_false_or_eq_true (w == 5)).symm with w5 | w5
            · have e : dX c (w, K, P) (x, y) = (x, y) := by unfold dX; dsimp only; rw [w1, w2, w3, w4, w5]; rfl
              rw [e]
              exact (OT.ap w5).trans ((ai (by rw [tx, sx]; rfl)).trans ((OT.ap (nd rfl)).trans ((ai (by rw [ty, sy]; rfl)).trans ((OT.ap (nd rfl)).trans ((ai (by rw [i1]; rfl)).trans rfl)))))
            · refine (OT.ao w5).trans ?_
              rcases (Bool.eq_false_or_eq_true (onB c P)).symm with o | o
              · have e : dX c (w, K, P) (x, y) = (x, y) := by unfold dX; dsimp only; rw [w1, w2, w3, w4, w5, o]; rfl
                rw [e]
                exact (OT.ap o).trans ((OT.ap o).trans ((ai (by rw [tx, sx]; rfl)).trans ((OT.ap (nd rfl)).trans ((ai (by rw [ty, sy]; rfl)).trans ((OT.ap (nd rfl)).trans ((ai (by rw [i1]; rfl)).trans rfl))))))
              · have e : dX c (w, K, P) (x, y) = (x, y ++ [opT c (w, K, P)]) := by unfold dX; dsimp only; rw [w1, w2, w3, w4, w5, o]; rfl
                rw [e]
                exact (OT.ao o).trans ((OT.ao ry).trans ((OT.ao o).trans ((ai (by rw [g2, tx, sx]; rfl)).trans ((OT.ap (nd rfl)).trans ((ai (by rw [mt _ (ly1 _), ms _ _ (ly1 _)]; rfl)).trans ((OT.ap (nd rfl)).trans ((ai (by rw [i1]; rfl)).trans rfl)))))))
          · refine (OT.ao w4).trans ?_
            by_cases hx3 : (30 : Int) < (x.length : Int)
            · have e : dX c (w, K, P) (x, y) = (x, y) := by unfold dX; dsimp only; rw [w1, w2, w3, w4, decide_eq_true hx3]; rfl
              rw [e]
              exact (OT.ao (decide_eq_true hx3)).trans ((ai (by rw [i1]; rfl)).trans rfl)
            · have e : dX c (w, K, P) (x, y) = (x ++ x, y) := by unfold dX; dsimp only; rw [w1, w2, w3, w4, decide_eq_false hx3]; rfl
              have j : qK (((), (), ()), (c, (), ()), x, ()) = true := decide_eq_true (show x.length ≤ 50000 by omega)
              rw [e]
              exact (OT.ap (decide_eq_false hx3)).trans ((ai (by rw [j, cx, g4, mt _ lxx, ms _ _ lxx]; rfl)).trans ((OT.ap (nd rfl)).trans ((ai (by rw [ty, sy]; rfl)).trans ((OT.ap (nd rfl)).trans ((ai (by rw [i1]; rfl)).trans rfl)))))
        · have e : dX c (w, K, P) (x, y) = (x ++ y, y) := by unfold dX; dsimp only; rw [w1, w2, w3]; rfl
          have j : uY (((), (), ()), (c, (), ()), (c, (), ()), y, x, ()) = true := decide_eq_true (show y.length + x.length ≤ _ by omega)
          have f : ana x y = true := decide_eq_true (by omega)
          rw [e]
          exact (OT.ao w3).trans ((ai (by rw [j]; rfl)).trans ((OT.ao (beq_self_eq_true c)).trans ((OT.ao f).trans ((ai (by rw [cx, g3, mt _ lxy, ms _ _ lxy]; rfl)).trans ((OT.ap (nd rfl)).trans ((ai (by rw [ty, sy]; rfl)).trans ((OT.ap (nd rfl)).trans ((ai (by rw [i1]; rfl)).trans rfl))))))))
      · have e : dX c (w, K, P) (x, y) = (kB c K x, y) := by unfold dX; dsimp only; rw [w1, w2]; rfl
        have ls : (kB c K x).length ≤ 5000 := by rw [kB, List.length_map]; omega
        have j1 : qJ (((), K, ()), (c, (), ()), x, ()) = true := (Bool.and_eq_true _ _).mpr ⟨hs, decide_eq_true (show x.length ≤ _ by omega)⟩
        have j2 : mO ((c, x, K, ()), ()) = true := (Bool.and_eq_true _ _).mpr ⟨hs, decide_eq_true (show x.length * 104 ≤ _ by omega)⟩
        rw [e]
        exact (OT.ao w2).trans ((ai (by rw [j1, j2, mt _ ls, ms _ _ ls]; rfl)).trans ((OT.ap (nd rfl)).trans ((ai (by rw [ty, sy]; rfl)).trans ((OT.ap (nd rfl)).trans ((ai (by rw [i1]; rfl)).trans rfl)))))
    · refine (OT.ao w1).trans ?_
      rcases (Bool.eq_false_or_eq_true (onB c P)).symm with o | o
      · have e : dX c (w, K, P) (x, y) = (x, y) := by unfold dX; dsimp only; rw [w1, o]; rfl
        rw [e]
        exact (OT.ap o).trans ((OT.ap o).trans ((ai (by rw [tx, sx]; rfl)).trans ((OT.ap (nd rfl)).trans ((ai (by rw [ty, sy]; rfl)).trans ((OT.ap (nd rfl)).trans ((ai (by rw [i1]; rfl)).trans rfl))))))
      · have e : dX c (w, K, P) (x, y) = (x ++ [opT c (w, K, P)], y) := by unfold dX; dsimp only; rw [w1, o]; rfl
        rw [e]
        exact (OT.ao o).trans ((OT.ao rx).trans ((OT.ao o).trans ((ai (by rw [g1, mt _ (lx1 _), ms _ _ (lx1 _)]; rfl)).trans ((OT.ap (nd rfl)).trans ((ai (by rw [ty, sy]; rfl)).trans ((OT.ap (nd rfl)).trans ((ai (by rw [i1]; rfl)).trans rfl)))))))
theorem G3 {c : Int} {l : List OpX} (hl : l.length ≤ 30) : ∀ n, n ≤ l.length → XS c n (upto (fun k q => dX c (l.getD k ao5) q) ([], []) n)
  | 0, _ => ⟨Nat.zero_le _, Nat.zero_le _, rfl, rfl⟩
  | n + 1, h => Nd (by omega) _ (G3 hl n (by omega))
theorem adr : ∀ s : ba, jp s = true → ∃ m e, au l7 m s = some e ∧ (u0 xT CW CV s).run = some e := by
  rintro ⟨⟨c, l, ⟨⟩, ⟨⟩, ⟨⟩, ⟨⟩, ⟨⟩, i, ⟨⟩⟩, ⟨⟨a, ⟨⟩, ⟨⟩⟩, ⟨b, ⟨⟩, ⟨⟩⟩, x, y, z, lx, ly, ⟨⟩⟩⟩ h
  simp only [jp, Bool.and_eq_true, decide_eq_true_eq] at h
  obtain ⟨hs, rfl, hl, rfl, rfl, rfl, rfl, rfl, rfl, rfl⟩ := h
  have := (bF (T := l7) (fun k q => ka b l (k : Int) q) (fun k q => dX b (l.getD k ao5) q)
    (fun q => (⟨(.exit 0, nl), ((b, (), (), ()), ((b, (), ()), q.1, q.1, ()))⟩ : aO)) l.length ([], []) (fun k q => XS b k q) ⟨Nat.zero_le _, Nat.zero_le _, rfl, rfl⟩ (fun k q hk hq => ⟨MV hs hk (by omega) rfl hq, Nd (by omega) _ hq⟩) (fun q _ => ?_)).1
  · obtain ⟨m, hm⟩ := this
    exact ⟨m, _, hm, rfl⟩
  · exact OT.ap (decide_eq_false (by dsimp only [ka]; omega))
def l5 (x : xU) : Bool := decide (x.1.2.1.length ≤ 140737488355328)
def U5 (_ : xU) : OT eH.Y := .ok ⟨aY, ((true, ()), ())⟩
def ak2 (P R : Pt) : Bool := (P.1.w0 == R.1.w0 && (P.1.w1 == R.1.w1 && (P.1.w2 == R.1.w2 && (P.1.w3 == R.1.w3 && true))) && (P.2.1.w0 == R.2.1.w0 && (P.2.1.w1 == R.2.1.w1 && (P.2.1.w2 == R.2.1.w2 && (P.2.1.w3 == R.2.1.w3 && true))) && (P.2.2 == R.2.2 && true)))
theorem agr {P R : Pt} (h : P = R) : ak2 P R = true := by
  rw [h]
  unfold ak2
  simp only [beq_self_eq_true, Bool.and_self]
theorem GZ {c : Int} (hs : aj c = true) {l : List OpX} (hl : l.length ≤ 30) {X : List Tm} (hX : (Bu c l).1 = X) : jn (((), ()), ((c, (), ()), X, ())) = true ∧ ak2 (KM c X) (uh c X) = true := by
  obtain ⟨h1, _, h3, _⟩ := G3 (c := c) hl l.length (Nat.le_refl _)
  have h1 : (Bu c l).1.length ≤ _ := h1
  have h3 : cP c (Bu c l).1 = true := h3
  rw [hX] at h1 h3
  exact ⟨decide_eq_true (show X.length ≤ _ by omega), agr (afL hs h3 (by omega))⟩
theorem adq : ab Try.prog 13 (eH.aK l5 U5) := Rc jp xT CW CV adr _ _ fun x oy hp ho => by
  rw [← ho]
  clear ho
  obtain ⟨⟨c, l, ⟨⟩⟩, ⟨⟩⟩ := x
  show (A4 jp xT CW CV c l).run = some ⟨aY, ((true, ()), ())⟩
  have hp : l.length ≤ 140737488355328 := of_decide_eq_true hp
  have bad : aj c = false → c < 0 ∨ 3 < c := fun hs => by
    simp only [aj, Bool.and_eq_false_iff, decide_eq_false_iff_not] at hs
    omega
  have good : aj c = true → ¬ c < 0 ∧ ¬ 3 < c := fun hs => by
    simp only [aj, Bool.and_eq_true, decide_eq_true_eq] at hs
    omega
  by_cases hl : (30 : Int) < (l.length : Int)
  · have hb : fI 0 30 l.length = true := Y7 (by omega)
    refine (OT.ao (decide_eq_true hl)).trans ((ai (by rw [hb]; rfl)).trans ?_)
    rcases (Bool.eq_false_or_eq_true (aj c)).symm with hs | hs
    · refine (OT.ap hs).trans ((OT.ap hs).trans ?_)
      by_cases h0 : c < 0
      · exact (OT.ao (decide_eq_true h0)).trans rfl
      · exact (OT.ap (decide_eq_false h0)).trans ((OT.ao (decide_eq_true (by have := bad hs; omega))).trans rfl)
    · obtain ⟨b1, b2⟩ := good hs
      have ht : (List.drop 0 (l.take 30)).length ≤ 30 := by rw [List.drop_zero, List.length_take]; omega
      have k0 : jp (ka c (List.drop 0 (l.take 30)) 0 ([], [])) = true := (Bool.and_eq_true _ _).mpr ⟨hs, decide_eq_true ⟨rfl, ht, rfl, rfl, rfl, rfl, rfl, rfl, rfl⟩⟩
      obtain ⟨e1, e2⟩ := GZ hs ht rfl
      refine (OT.ao hs).trans ((OT.ao hs).trans ((OT.ap (decide_eq_false b1)).trans ((OT.ap (decide_eq_false b2)).trans ((ai ?_).trans ((OT.ap rfl).trans ?_)))))
      · simp only [List.all_cons, List.all_nil, Bool.and_true]
        exact k0
      · rcases (Bool.eq_false_or_eq_true (Da c (Bu c (List.drop 0 (l.take 30))).1)).symm with g | g
        · refine (OT.ap g).trans ((ai ?_).trans ?_)
          · simp only [List.all_cons, List.all_nil, Bool.and_true]
            exact e1
          · exact congrArg (fun b : Bool => some (⟨aY, ((b, ()), ())⟩ : eH.Y)) e2
        · exact (OT.ao g).trans rfl
  · refine (OT.ap (decide_eq_false hl)).trans ?_
    rcases (Bool.eq_false_or_eq_true (aj c)).symm with hs | hs
    · refine (OT.ap hs).trans ((OT.ap hs).trans ?_)
      by_cases h0 : c < 0
      · exact (OT.ao (decide_eq_true h0)).trans rfl
      · exact (OT.ap (decide_eq_false h0)).trans ((OT.ao (decide_eq_true (by have := bad hs; omega))).trans rfl)
    · obtain ⟨b1, b2⟩ := good hs
      have ht : l.length ≤ 30 := by omega
      have k0 : jp (ka c l 0 ([], [])) = true := (Bool.and_eq_true _ _).mpr ⟨hs, decide_eq_true ⟨rfl, ht, rfl, rfl, rfl, rfl, rfl, rfl, rfl⟩⟩
      obtain ⟨e1, e2⟩ := GZ hs ht rfl
      refine (OT.ao hs).trans ((OT.ao hs).trans ((OT.ap (decide_eq_false b1)).trans ((OT.ap (decide_eq_false b2)).trans ((ai ?_).trans ((OT.ap rfl).trans ?_)))))
      · simp only [List.all_cons, List.all_nil, Bool.and_true]
        exact k0
      · rcases (Bool.eq_false_or_eq_true (Da c (Bu c l).1)).symm with g | g
        · refine (OT.ap g).trans ((ai ?_).trans ?_)
          · simp only [List.all_cons, List.all_nil, Bool.and_true]
            exact e1
          · exact congrArg (fun b : Bool => some (⟨aY, ((b, ()), ())⟩ : eH.Y)) e2
        · exact (OT.ao g).trans rfl
def Rb : cI := (eH.aK l5 U5)
theorem MU : ab Try.prog 13 Rb := adq
end Go.Proofs.Ytkedomfjjahjnaa

namespace Go.Proofs.Ytkedomfjjahjnaa
namespace Sx
open Go Go.RowKit Go.ChangeShapes Go.WideShapes Go.ChangeAt
theorem Rg {H : Type} {enc : TypeId × Value → H} {P : Program} {te : TE} (hte : kx P te) {w : World} {sp : Nat → Bool} {T e : TypeId} {ti ei : TI} (hT : te T = some ti) (hd : ti.desc = .slice e) (hei : te e = some ei) {t : Ty} {F : Ctx} {x : List t.T} {v : Value} {d : DataW H} {ps : List MemPlace}
    (hx : Rep F.F (.list t) x [v]) (h : DataW.Trod enc P w 0 sp true T v d ps) (hw : (d.weights P T).all (· ≤ reachBytes) = true) : x.length * ei.bytes ≤ reachBytes := by
  simp only [Rep] at hx
  obtain ⟨_, ad, cap, hv, _⟩ := hx
  cases hv
  exact Pv hte hT hd hei h fun n hn => by simpa using List.all_eq_true.1 hw n hn
end Sx
end Go.Proofs.Ytkedomfjjahjnaa
