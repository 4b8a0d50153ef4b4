/- A symbolic machine for Go code over plain data, and functions of the program as it shows them. No statement is proved in this file. -/
import Derived.KernelRfl
import Derived.Test.YtohjofabochgfaaXe
set_option linter.unusedSimpArgs false
set_option linter.unusedVariables false
set_option linter.unusedSectionVars false

namespace Go.Proofs.Ytohjofabochgfaa
open Sx Go
set_option maxRecDepth 100000
def gD : ao := ⟨[.val false .int, .val false (.list .elem), .val true .elem, .val false .int, .val true (.prod .elem (.prod .elem .bool))], [], true, 0, false⟩
abbrev zI : Type := ((Int) × (List (af)) × (af) × (Int) × ((af × (af × Bool))) × Unit) × (Unit)
def kb : Shape := ⟨167, [(0, .val false .int), (1, .val false (.list .elem)), (3, .val false .int), (7, .ptr 0 0 0), (9, .ptr 1 0 0), (11, .val false .int), (13, .ptr 2 0 0), (15, .ptr 3 0 0), (17, .val false .int)], [(0, .row .u64), (1, .cells [.val false .u64, .val false .u64, .val false .u64, .val false .u64, .val false .u64, .val false .u64, .val false .u64, .val false .u64, .val false .bool]), (2, .cells [.val false .int, .ifp 106 4, .own 5]), (3, .cells [.val false .int, .ifp 106 6, .own 7]), (4, .cells [.val false .int, .ptr 8 0 0]), (5, .row .u8), (6, .cells [.val false .int, .ptr 9 0 0]), (7, .row .u8), (8, .cells [.val false .int, .val false .u64, .val false .u64, .val false .u64, .val false .u64, .val false .u64, .val false .u64, .val false .u64, .val false .u64, .own 10, .val false .u64]), (9, .cells [.val false .int, .val false .u64, .val false .u64, .val false .u64, .val false .u64, .val false .u64, .val false .u64, .val false .u64, .val false .u64, .own 11, .val false .u64]), (10, .row .u8), (11, .row .u8)], 0, true⟩
abbrev bu : Type := ((Int) × (List (af)) × (Int) × (Unit) × (Unit) × (Int) × (Unit) × (Unit) × (Int) × Unit) × ((List (UInt64)) × ((UInt64) × (UInt64) × (UInt64) × (UInt64) × (UInt64) × (UInt64) × (UInt64) × (UInt64) × (Bool) × Unit) × ((Int) × (Unit) × (Unit) × Unit) × ((Int) × (Unit) × (Unit) × Unit) × ((Int) × (Unit) × Unit) × (List (UInt8)) × ((Int) × (Unit) × Unit) × (List (UInt8)) × ((Int) × (UInt64) × (UInt64) × (UInt64) × (UInt64) × (UInt64) × (UInt64) × (UInt64) × (UInt64) × (Unit) × (UInt64) × Unit) × ((Int) × (UInt64) × (UInt64) × (UInt64) × (UInt64) × (UInt64) × (UInt64) × (UInt64) × (UInt64) × (Unit) × (UInt64) × Unit) × (List (UInt8)) × (List (UInt8)) × Unit)
def nF : Shape := ⟨167, [(0, .val false .int), (1, .val false (.list .elem)), (3, .val false .int), (7, .ptr 0 0 0), (9, .ptr 1 0 0), (11, .val false .int), (13, .ptr 2 0 0), (15, .ptr 3 0 0)], [(0, .row .u64), (1, .cells [.val false .u64, .val false .u64, .val false .u64, .val false .u64, .val false .u64, .val false .u64, .val false .u64, .val false .u64, .val false .bool]), (2, .cells [.val false .int, .ifp 106 4, .own 5]), (3, .cells [.val false .int, .ifp 106 6, .own 7]), (4, .cells [.val false .int, .ptr 8 0 0]), (5, .row .u8), (6, .cells [.val false .int, .ptr 9 0 0]), (7, .row .u8), (8, .cells [.val false .int, .val false .u64, .val false .u64, .val false .u64, .val false .u64, .val false .u64, .val false .u64, .val false .u64, .val false .u64, .own 10, .val false .u64]), (9, .cells [.val false .int, .val false .u64, .val false .u64, .val false .u64, .val false .u64, .val false .u64, .val false .u64, .val false .u64, .val false .u64, .own 11, .val false .u64]), (10, .row .u8), (11, .row .u8)], 0, true⟩
abbrev eP : Type := ((Int) × (List (af)) × (Int) × (Unit) × (Unit) × (Int) × (Unit) × (Unit) × Unit) × ((List (UInt64)) × ((UInt64) × (UInt64) × (UInt64) × (UInt64) × (UInt64) × (UInt64) × (UInt64) × (UInt64) × (Bool) × Unit) × ((Int) × (Unit) × (Unit) × Unit) × ((Int) × (Unit) × (Unit) × Unit) × ((Int) × (Unit) × Unit) × (List (UInt8)) × ((Int) × (Unit) × Unit) × (List (UInt8)) × ((Int) × (UInt64) × (UInt64) × (UInt64) × (UInt64) × (UInt64) × (UInt64) × (UInt64) × (UInt64) × (Unit) × (UInt64) × Unit) × ((Int) × (UInt64) × (UInt64) × (UInt64) × (UInt64) × (UInt64) × (UInt64) × (UInt64) × (UInt64) × (Unit) × (UInt64) × Unit) × (List (UInt8)) × (List (UInt8)) × Unit)
def Qm : SE → Option Shape := iX [(2, nF)] none
def ahB (a0 : Int) (a1 : List (af)) (a3 : Int) (a11 : Int) (a17 : Int) (c0 : List (UInt64)) (c1_0 : UInt64) (c1_1 : UInt64) (c1_2 : UInt64) (c1_3 : UInt64) (c1_4 : UInt64) (c1_5 : UInt64) (c1_6 : UInt64) (c1_7 : UInt64) (c1_8 : Bool) (c2_0 : Int) (c3_0 : Int) (c4_0 : Int) (c5 : List (UInt8)) (c6_0 : Int) (c7 : List (UInt8)) (c8_0 : Int) (c8_1 : UInt64) (c8_2 : UInt64) (c8_3 : UInt64) (c8_4 : UInt64) (c8_5 : UInt64) (c8_6 : UInt64) (c8_7 : UInt64) (c8_8 : UInt64) (c8_10 : UInt64) (c9_0 : Int) (c9_1 : UInt64) (c9_2 : UInt64) (c9_3 : UInt64) (c9_4 : UInt64) (c9_5 : UInt64) (c9_6 : UInt64) (c9_7 : UInt64) (c9_8 : UInt64) (c9_10 : UInt64) (c10 : List (UInt8)) (c11 : List (UInt8)) : OT (Sum bu aJ) :=
  let z0 : Nat := List.length a1
  let z1 : Int := (↑z0 : Int)
  let z2 : af := { w0 := List.getD c0 0 0, w1 := List.getD c0 1 0, w2 := List.getD c0 2 0, w3 := List.getD c0 3 0 }
  let z3 : PUnit × PUnit × PUnit := ((), (), ())
  let z4 : Int × PUnit × PUnit × PUnit := (c3_0, z3)
  let z5 : PUnit × PUnit := ((), ())
  let z6 : Int × PUnit × PUnit := (c6_0, z5)
  let z7 : Int × UInt64 × UInt64 × UInt64 × UInt64 × UInt64 × UInt64 × UInt64 × UInt64 × PUnit × UInt64 × PUnit := (c9_0, c9_1, c9_2, c9_3, c9_4, c9_5, c9_6, c9_7, c9_8, (), c9_10, ())
  let z8 : (Int × PUnit × PUnit × PUnit) × (Int × PUnit × PUnit) × (Int × UInt64 × UInt64 × UInt64 × UInt64 × UInt64 × UInt64 × UInt64 × UInt64 × PUnit × UInt64 × PUnit) × List UInt8 × List UInt8 × PUnit := (z4, z6, z7, c7, c11, ())
  let z9 : Bool := decide (a17 < z1)
  let z10 : Bool := inB a17 z0
  let z11 : af := List.getD a1 (Int.toNat a17) { w0 := 0, w1 := 0, w2 := 0, w3 := 0 }
  let z12 : PUnit × af × PUnit := ((), z11, ())
  let z13 : Int × UInt64 × UInt64 × UInt64 × UInt64 × UInt64 × UInt64 × UInt64 × UInt64 × PUnit × UInt64 × PUnit := (c8_0, c8_1, c8_2, c8_3, c8_4, c8_5, c8_6, c8_7, c8_8, (), c8_10, ())
  let z14 : Bool := eR (z12, (c2_0, z3), (c4_0, z5), z13, c5, c10, ())
  let z15 : (Int × UInt64 × UInt64 × UInt64 × UInt64 × UInt64 × UInt64 × UInt64 × UInt64 × PUnit × UInt64 × PUnit) × List UInt8 := eM z7 c11 (2 : UInt8) (bI c3_0 z2)
  let z16 := z15.fst
  let z17 := z16.fst
  let z18 := z16.snd
  let z19 := z18.fst
  let z20 := z18.snd
  let z21 := z20.fst
  let z22 := z20.snd
  let z23 := z22.fst
  let z24 := z22.snd
  let z25 := z24.fst
  let z26 := z24.snd
  let z27 := z26.fst
  let z28 := z26.snd
  let z29 := z28.fst
  let z30 := z28.snd
  let z31 := z30.fst
  let z32 := z30.snd
  let z33 := z32.fst
  let z34 := z32.snd.snd.fst
  let z35 : Int × UInt64 × UInt64 × UInt64 × UInt64 × UInt64 × UInt64 × UInt64 × UInt64 × PUnit × UInt64 × PUnit := (z17, z19, z21, z23, z25, z27, z29, z31, z33, (), z34, ())
  let z36 := z15.snd
  let z37 : Bool := inR (a17 + (1 : Int))
  let z38 : List UInt8 := bI c2_0 z11
  let z39 : List UInt8 := c5 ++ z38
  let z40 : List UInt8 := bI c3_0 z11
  let z41 : List UInt8 := c7 ++ z40
  let z42 : (Int × UInt64 × UInt64 × UInt64 × UInt64 × UInt64 × UInt64 × UInt64 × UInt64 × PUnit × UInt64 × PUnit) × List UInt8 := eM z13 c10 (2 : UInt8) z38
  let z43 := z42.fst
  let z44 := z43.fst
  let z45 := z43.snd
  let z46 := z45.fst
  let z47 := z45.snd
  let z48 := z47.fst
  let z49 := z47.snd
  let z50 := z49.fst
  let z51 := z49.snd
  let z52 := z51.fst
  let z53 := z51.snd
  let z54 := z53.fst
  let z55 := z53.snd
  let z56 := z55.fst
  let z57 := z55.snd
  let z58 := z57.fst
  let z59 := z57.snd
  let z60 := z59.fst
  let z61 := z59.snd.snd.fst
  let z62 : (Int × UInt64 × UInt64 × UInt64 × UInt64 × UInt64 × UInt64 × UInt64 × UInt64 × PUnit × UInt64 × PUnit) × List UInt8 := eM z35 z36 (2 : UInt8) z40
  let z63 := z62.fst
  let z64 := z63.snd
  let z65 := z64.snd
  let z66 := z65.snd
  let z67 := z66.snd
  let z68 := z67.snd
  let z69 := z68.snd
  let z70 := z69.snd
  let z71 := z70.snd
  let z72 := z42.snd
  let z73 : (Int × UInt64 × UInt64 × UInt64 × UInt64 × UInt64 × UInt64 × UInt64 × UInt64 × PUnit × UInt64 × PUnit) × List UInt8 := eM z7 c11 (2 : UInt8) z40
  let z74 := z73.fst
  let z75 := z74.snd
  let z76 := z75.snd
  let z77 := z76.snd
  let z78 := z77.snd
  let z79 := z78.snd
  let z80 := z79.snd
  let z81 := z80.snd
  let z82 := z81.snd
  (.br (decide (a17 ≤ z1))
  (.br (a17 == a3)
    (gd [decide (4 ≤ List.length c0), mm (((), z2, ()), z8)] (.br (z9)
      (gd [z10, z14, z10, eR (z12, z4, z6, z35, c7, z36, ()), z37] (.ok (.inl ((a0, (a1, (a3, ((), ((), (a11, ((), ((), (a17 + (1 : Int), ()))))))))), (c0, ((c1_0, (c1_1, (c1_2, (c1_3, (c1_4, (c1_5, (c1_6, (c1_7, (c1_8, ()))))))))), ((c2_0, ((), ((), ()))), ((c3_0, ((), ((), ()))), ((c4_0, ((), ())), (z39, ((c6_0, ((), ())), (z41, ((z44, (z46, (z48, (z50, (z52, (z54, (z56, (z58, (z60, ((), (z61, ()))))))))))), ((z63.fst, (z64.fst, (z65.fst, (z66.fst, (z67.fst, (z68.fst, (z69.fst, (z70.fst, (z71.fst, ((), (z71.snd.snd.fst, ()))))))))))), (z72, (z62.snd, ()))))))))))))))))
      (gd [z37] (.ok (.inl ((a0, (a1, (a3, ((), ((), (a11, ((), ((), (a17 + (1 : Int), ()))))))))), (c0, ((c1_0, (c1_1, (c1_2, (c1_3, (c1_4, (c1_5, (c1_6, (c1_7, (c1_8, ()))))))))), ((c2_0, ((), ((), ()))), ((c3_0, ((), ((), ()))), ((c4_0, ((), ())), (c5, ((c6_0, ((), ())), (c7, ((c8_0, (c8_1, (c8_2, (c8_3, (c8_4, (c8_5, (c8_6, (c8_7, (c8_8, ((), (c8_10, ()))))))))))), ((z17, (z19, (z21, (z23, (z25, (z27, (z29, (z31, (z33, ((), (z34, ()))))))))))), (c10, (z36, ()))))))))))))))))))
    (.br (z9)
      (gd [z10, z14, z10, eR (z12, z8), z37] (.ok (.inl ((a0, (a1, (a3, ((), ((), (a11, ((), ((), (a17 + (1 : Int), ()))))))))), (c0, ((c1_0, (c1_1, (c1_2, (c1_3, (c1_4, (c1_5, (c1_6, (c1_7, (c1_8, ()))))))))), ((c2_0, ((), ((), ()))), ((c3_0, ((), ((), ()))), ((c4_0, ((), ())), (z39, ((c6_0, ((), ())), (z41, ((z44, (z46, (z48, (z50, (z52, (z54, (z56, (z58, (z60, ((), (z61, ()))))))))))), ((z74.fst, (z75.fst, (z76.fst, (z77.fst, (z78.fst, (z79.fst, (z80.fst, (z81.fst, (z82.fst, ((), (z82.snd.snd.fst, ()))))))))))), (z72, (z73.snd, ()))))))))))))))))
      (gd [z37] (.ok (.inl ((a0, (a1, (a3, ((), ((), (a11, ((), ((), (a17 + (1 : Int), ()))))))))), (c0, ((c1_0, (c1_1, (c1_2, (c1_3, (c1_4, (c1_5, (c1_6, (c1_7, (c1_8, ()))))))))), ((c2_0, ((), ((), ()))), ((c3_0, ((), ((), ()))), ((c4_0, ((), ())), (c5, ((c6_0, ((), ())), (c7, ((c8_0, (c8_1, (c8_2, (c8_3, (c8_4, (c8_5, (c8_6, (c8_7, (c8_8, ((), (c8_10, ()))))))))))), ((c9_0, (c9_1, (c9_2, (c9_3, (c9_4, (c9_5, (c9_6, (c9_7, (c9_8, ((), (c9_10, ()))))))))))), (c10, (c11, ()))))))))))))))))))
  (.ok (.inr ⟨(.exit 2, nF), ((a0, (a1, (a3, ((), ((), (a11, ((), ((), ())))))))), (c0, ((c1_0, (c1_1, (c1_2, (c1_3, (c1_4, (c1_5, (c1_6, (c1_7, (c1_8, ()))))))))), ((c2_0, ((), ((), ()))), ((c3_0, ((), ((), ()))), ((c4_0, ((), ())), (c5, ((c6_0, ((), ())), (c7, ((c8_0, (c8_1, (c8_2, (c8_3, (c8_4, (c8_5, (c8_6, (c8_7, (c8_8, ((), (c8_10, ()))))))))))), ((c9_0, (c9_1, (c9_2, (c9_3, (c9_4, (c9_5, (c9_6, (c9_7, (c9_8, ((), (c9_10, ()))))))))))), (c10, (c11, ())))))))))))))⟩)))
def mh (s : bu) : OT (Sum bu aJ) := ahB (s.1.1) (s.1.2.1) (s.1.2.2.1) (s.1.2.2.2.2.2.1) (s.1.2.2.2.2.2.2.2.2.1) (s.2.1) (s.2.2.1.1) (s.2.2.1.2.1) (s.2.2.1.2.2.1) (s.2.2.1.2.2.2.1) (s.2.2.1.2.2.2.2.1) (s.2.2.1.2.2.2.2.2.1) (s.2.2.1.2.2.2.2.2.2.1) (s.2.2.1.2.2.2.2.2.2.2.1) (s.2.2.1.2.2.2.2.2.2.2.2.1) (s.2.2.2.1.1) (s.2.2.2.2.1.1) (s.2.2.2.2.2.1.1) (s.2.2.2.2.2.2.1) (s.2.2.2.2.2.2.2.1.1) (s.2.2.2.2.2.2.2.2.1) (s.2.2.2.2.2.2.2.2.2.1.1) (s.2.2.2.2.2.2.2.2.2.1.2.1) (s.2.2.2.2.2.2.2.2.2.1.2.2.1) (s.2.2.2.2.2.2.2.2.2.1.2.2.2.1) (s.2.2.2.2.2.2.2.2.2.1.2.2.2.2.1) (s.2.2.2.2.2.2.2.2.2.1.2.2.2.2.2.1) (s.2.2.2.2.2.2.2.2.2.1.2.2.2.2.2.2.1) (s.2.2.2.2.2.2.2.2.2.1.2.2.2.2.2.2.2.1) (s.2.2.2.2.2.2.2.2.2.1.2.2.2.2.2.2.2.2.1) (s.2.2.2.2.2.2.2.2.2.1.2.2.2.2.2.2.2.2.2.2.1) (s.2.2.2.2.2.2.2.2.2.2.1.1) (s.2.2.2.2.2.2.2.2.2.2.1.2.1) (s.2.2.2.2.2.2.2.2.2.2.1.2.2.1) (s.2.2.2.2.2.2.2.2.2.2.1.2.2.2.1) (s.2.2.2.2.2.2.2.2.2.2.1.2.2.2.2.1) (s.2.2.2.2.2.2.2.2.2.2.1.2.2.2.2.2.1) (s.2.2.2.2.2.2.2.2.2.2.1.2.2.2.2.2.2.1) (s.2.2.2.2.2.2.2.2.2.2.1.2.2.2.2.2.2.2.1) (s.2.2.2.2.2.2.2.2.2.2.1.2.2.2.2.2.2.2.2.1) (s.2.2.2.2.2.2.2.2.2.2.1.2.2.2.2.2.2.2.2.2.2.1) (s.2.2.2.2.2.2.2.2.2.2.2.1) (s.2.2.2.2.2.2.2.2.2.2.2.2.1)
theorem ahy (s : bu) (Q : Sum bu aJ → Prop) : wps te uy au 1000 (bq (aj Try.f3) 2) (kb.inj s) (cE kb Qm (Q : Sum kb.T aJ → Prop)) = (mh s).wpR Q := by kernel_rfl
def wj (g2_2 : bu → eP) (s : bu) : OT aJ := (.ok ⟨(.exit 2, nF), ((s.1.1, (s.1.2.1, (s.1.2.2.1, ((g2_2 s).1.2.2.2.1, ((g2_2 s).1.2.2.2.2.1, (s.1.2.2.2.2.2.1, ((g2_2 s).1.2.2.2.2.2.2.1, ((g2_2 s).1.2.2.2.2.2.2.2.1, ())))))))), (g2_2 s).2)⟩)
def ia : Shape := ⟨167, [(0, .val false .int), (1, .val false (.list .elem)), (3, .val false .int), (7, .ptr 0 0 0), (9, .ptr 1 0 0), (11, .val false .int), (13, .ptr 2 0 0), (15, .ptr 3 0 0), (17, .val false .int)], [(0, .row .u64), (1, .cells [.val false .u64, .val false .u64, .val false .u64, .val false .u64, .val false .u64, .val false .u64, .val false .u64, .val false .u64, .val false .bool]), (2, .cells [.val false .int, .ifp 98 4, .own 5]), (3, .cells [.val false .int, .ifp 98 6, .own 7]), (4, .cells [.val false .int, .val false (.list .elem)]), (5, .row .u8), (6, .cells [.val false .int, .val false (.list .elem)]), (7, .row .u8)], 0, true⟩
abbrev bh : Type := ((Int) × (List (af)) × (Int) × (Unit) × (Unit) × (Int) × (Unit) × (Unit) × (Int) × Unit) × ((List (UInt64)) × ((UInt64) × (UInt64) × (UInt64) × (UInt64) × (UInt64) × (UInt64) × (UInt64) × (UInt64) × (Bool) × Unit) × ((Int) × (Unit) × (Unit) × Unit) × ((Int) × (Unit) × (Unit) × Unit) × ((Int) × (List (af)) × Unit) × (List (UInt8)) × ((Int) × (List (af)) × Unit) × (List (UInt8)) × Unit)
def k6 : Shape := ⟨167, [(0, .val false .int), (1, .val false (.list .elem)), (3, .val false .int), (7, .ptr 0 0 0), (9, .ptr 1 0 0), (11, .val false .int), (13, .ptr 2 0 0), (15, .ptr 3 0 0)], [(0, .row .u64), (1, .cells [.val false .u64, .val false .u64, .val false .u64, .val false .u64, .val false .u64, .val false .u64, .val false .u64, .val false .u64, .val false .bool]), (2, .cells [.val false .int, .ifp 98 4, .own 5]), (3, .cells [.val false .int, .ifp 98 6, .own 7]), (4, .cells [.val false .int, .val false (.list .elem)]), (5, .row .u8), (6, .cells [.val false .int, .val false (.list .elem)]), (7, .row .u8)], 0, true⟩
abbrev dX : Type := ((Int) × (List (af)) × (Int) × (Unit) × (Unit) × (Int) × (Unit) × (Unit) × Unit) × ((List (UInt64)) × ((UInt64) × (UInt64) × (UInt64) × (UInt64) × (UInt64) × (UInt64) × (UInt64) × (UInt64) × (Bool) × Unit) × ((Int) × (Unit) × (Unit) × Unit) × ((Int) × (Unit) × (Unit) × Unit) × ((Int) × (List (af)) × Unit) × (List (UInt8)) × ((Int) × (List (af)) × Unit) × (List (UInt8)) × Unit)
def JE : SE → Option Shape := iX [(2, k6)] none
def ace (a0 : Int) (a1 : List (af)) (a3 : Int) (a11 : Int) (a17 : Int) (c0 : List (UInt64)) (c1_0 : UInt64) (c1_1 : UInt64) (c1_2 : UInt64) (c1_3 : UInt64) (c1_4 : UInt64) (c1_5 : UInt64) (c1_6 : UInt64) (c1_7 : UInt64) (c1_8 : Bool) (c2_0 : Int) (c3_0 : Int) (c4_0 : Int) (c4_1 : List (af)) (c5 : List (UInt8)) (c6_0 : Int) (c6_1 : List (af)) (c7 : List (UInt8)) : OT (Sum bh aJ) :=
  let z0 : Nat := List.length a1
  let z1 : Int := (↑z0 : Int)
  let z2 : PUnit × PUnit × PUnit := ((), (), ())
  let z3 : (Int × PUnit × PUnit × PUnit) × (Int × List af × PUnit) × List UInt8 × PUnit := ((c3_0, z2), (c6_0, c6_1, ()), c7, ())
  let z4 : Bool := decide (a17 < z1)
  let z5 : Bool := inB a17 z0
  let z6 : af := List.getD a1 (Int.toNat a17) { w0 := 0, w1 := 0, w2 := 0, w3 := 0 }
  let z7 : PUnit × af × PUnit := ((), z6, ())
  let z8 : Bool := fC (z7, (c2_0, z2), (c4_0, c4_1, ()), c5, ())
  let z9 : Bool := fC (z7, z3)
  let z10 : Bool := inR (a17 + (1 : Int))
  let z11 : List UInt8 := c5 ++ bI c2_0 z6
  let z12 : List UInt8 := c7 ++ bI c3_0 z6
  (.br (decide (a17 ≤ z1))
  (.br (a17 == a3)
    (gd [decide (4 ≤ List.length c0), oB (((), { w0 := List.getD c0 0 0, w1 := List.getD c0 1 0, w2 := List.getD c0 2 0, w3 := List.getD c0 3 0 }, ()), z3)] (.br (z4)
      (gd [z5, z8, z5, z9, z10] (.ok (.inl ((a0, (a1, (a3, ((), ((), (a11, ((), ((), (a17 + (1 : Int), ()))))))))), (c0, ((c1_0, (c1_1, (c1_2, (c1_3, (c1_4, (c1_5, (c1_6, (c1_7, (c1_8, ()))))))))), ((c2_0, ((), ((), ()))), ((c3_0, ((), ((), ()))), ((c4_0, (c4_1, ())), (z11, ((c6_0, (c6_1, ())), (z12, ()))))))))))))
      (gd [z10] (.ok (.inl ((a0, (a1, (a3, ((), ((), (a11, ((), ((), (a17 + (1 : Int), ()))))))))), (c0, ((c1_0, (c1_1, (c1_2, (c1_3, (c1_4, (c1_5, (c1_6, (c1_7, (c1_8, ()))))))))), ((c2_0, ((), ((), ()))), ((c3_0, ((), ((), ()))), ((c4_0, (c4_1, ())), (c5, ((c6_0, (c6_1, ())), (c7, ()))))))))))))))
    (.br (z4)
      (gd [z5, z8, z5, z9, z10] (.ok (.inl ((a0, (a1, (a3, ((), ((), (a11, ((), ((), (a17 + (1 : Int), ()))))))))), (c0, ((c1_0, (c1_1, (c1_2, (c1_3, (c1_4, (c1_5, (c1_6, (c1_7, (c1_8, ()))))))))), ((c2_0, ((), ((), ()))), ((c3_0, ((), ((), ()))), ((c4_0, (c4_1, ())), (z11, ((c6_0, (c6_1, ())), (z12, ()))))))))))))
      (gd [z10] (.ok (.inl ((a0, (a1, (a3, ((), ((), (a11, ((), ((), (a17 + (1 : Int), ()))))))))), (c0, ((c1_0, (c1_1, (c1_2, (c1_3, (c1_4, (c1_5, (c1_6, (c1_7, (c1_8, ()))))))))), ((c2_0, ((), ((), ()))), ((c3_0, ((), ((), ()))), ((c4_0, (c4_1, ())), (c5, ((c6_0, (c6_1, ())), (c7, ()))))))))))))))
  (.ok (.inr ⟨(.exit 2, k6), ((a0, (a1, (a3, ((), ((), (a11, ((), ((), ())))))))), (c0, ((c1_0, (c1_1, (c1_2, (c1_3, (c1_4, (c1_5, (c1_6, (c1_7, (c1_8, ()))))))))), ((c2_0, ((), ((), ()))), ((c3_0, ((), ((), ()))), ((c4_0, (c4_1, ())), (c5, ((c6_0, (c6_1, ())), (c7, ())))))))))⟩)))
def jw (s : bh) : OT (Sum bh aJ) := ace (s.1.1) (s.1.2.1) (s.1.2.2.1) (s.1.2.2.2.2.2.1) (s.1.2.2.2.2.2.2.2.2.1) (s.2.1) (s.2.2.1.1) (s.2.2.1.2.1) (s.2.2.1.2.2.1) (s.2.2.1.2.2.2.1) (s.2.2.1.2.2.2.2.1) (s.2.2.1.2.2.2.2.2.1) (s.2.2.1.2.2.2.2.2.2.1) (s.2.2.1.2.2.2.2.2.2.2.1) (s.2.2.1.2.2.2.2.2.2.2.2.1) (s.2.2.2.1.1) (s.2.2.2.2.1.1) (s.2.2.2.2.2.1.1) (s.2.2.2.2.2.1.2.1) (s.2.2.2.2.2.2.1) (s.2.2.2.2.2.2.2.1.1) (s.2.2.2.2.2.2.2.1.2.1) (s.2.2.2.2.2.2.2.2.1)
theorem acb (s : bh) (Q : Sum bh aJ → Prop) : wps te uy au 1000 (bq (aj Try.f3) 2) (ia.inj s) (cE ia JE (Q : Sum ia.T aJ → Prop)) = (jw s).wpR Q := by kernel_rfl
def rq (g2b_2 : bh → dX) (s : bh) : OT aJ := (.ok ⟨(.exit 2, k6), ((s.1.1, (s.1.2.1, (s.1.2.2.1, ((g2b_2 s).1.2.2.2.1, ((g2b_2 s).1.2.2.2.2.1, (s.1.2.2.2.2.2.1, ((g2b_2 s).1.2.2.2.2.2.2.1, ((g2b_2 s).1.2.2.2.2.2.2.2.1, ())))))))), (g2b_2 s).2)⟩)
def aC : ar := ⟨[.val false .bool], [], false⟩
def JF : SV → Option ar := fun _ => some aC
def rr (ok2 : bu → Bool) (g2_2 : bu → eP) (ok2b : bh → Bool) (g2b_2 : bh → dX) (a0 : Int) (a1 : List (af)) (a2 : af) (a3 : Int) (a4 : (af × (af × Bool))) : OT gD.Y :=
  let z0 : Int := (↑(List.length a1) : Int)
  let z1 : PUnit × PUnit × Int × PUnit := ((), (), (0 : Int), ())
  let z2 : Int × List af × Int × PUnit × PUnit × Int × PUnit × PUnit × Int × PUnit := (a0, a1, a3, (), (), (0 : Int), z1)
  let z3 : PUnit × PUnit := ((), ())
  let z4 : PUnit × PUnit := ((), ())
  let z5 : Int := cp a0 (1 : Int)
  let z6 : UInt64 × PUnit := ((0 : UInt64), ())
  let z7 : (Int × PUnit × PUnit × PUnit) × (Int × PUnit × PUnit × PUnit) × (Int × PUnit × PUnit) × List UInt8 × (Int × PUnit × PUnit) × List UInt8 × (Int × UInt64 × UInt64 × UInt64 × UInt64 × UInt64 × UInt64 × UInt64 × UInt64 × PUnit × UInt64 × PUnit) × (Int × UInt64 × UInt64 × UInt64 × UInt64 × UInt64 × UInt64 × UInt64 × UInt64 × PUnit × UInt64 × PUnit) × List UInt8 × List UInt8 × PUnit := ((a0, (), z3), (a0, (), z4), (z5, (), ()), [], (z5, (), ()), [], ((64 : Int), (7640891576939301192 : UInt64), (13503953896175478587 : UInt64), (4354685564936845355 : UInt64), (11912009170470909681 : UInt64), (5840696475078001361 : UInt64), (11170449401992604703 : UInt64), (7924071207369364504 : UInt64), (3427420097777323800 : UInt64), (), z6), ((64 : Int), (7640891576939301192 : UInt64), (13503953896175478587 : UInt64), (4354685564936845355 : UInt64), (11912009170470909681 : UInt64), (5840696475078001361 : UInt64), (11170449401992604703 : UInt64), (7924071207369364504 : UInt64), (3427420097777323800 : UInt64), (), z6), [], [], ())
  let z8 : (Int × List af × Int × PUnit × PUnit × Int × PUnit × PUnit × Int × PUnit) × List UInt64 × (UInt64 × UInt64 × UInt64 × UInt64 × UInt64 × UInt64 × UInt64 × UInt64 × Bool × PUnit) × (Int × PUnit × PUnit × PUnit) × (Int × PUnit × PUnit × PUnit) × (Int × PUnit × PUnit) × List UInt8 × (Int × PUnit × PUnit) × List UInt8 × (Int × UInt64 × UInt64 × UInt64 × UInt64 × UInt64 × UInt64 × UInt64 × UInt64 × PUnit × UInt64 × PUnit) × (Int × UInt64 × UInt64 × UInt64 × UInt64 × UInt64 × UInt64 × UInt64 × UInt64 × PUnit × UInt64 × PUnit) × List UInt8 × List UInt8 × PUnit := (z2, [a2.w0, a2.w1, a2.w2, a2.w3], ((0 : UInt64), (0 : UInt64), (0 : UInt64), (0 : UInt64), (0 : UInt64), (0 : UInt64), (0 : UInt64), (0 : UInt64), true, ()), z7)
  let z9 := (g2_2 z8).snd
  let z10 := z9.snd
  let z11 := z10.fst
  let z12 := z11.fst
  let z13 := z11.snd
  let z14 := z13.fst
  let z15 := z13.snd
  let z16 := z15.fst
  let z17 := z15.snd
  let z18 := z17.fst
  let z19 := z17.snd
  let z20 := z19.fst
  let z21 := z19.snd
  let z22 := z21.fst
  let z23 := z21.snd
  let z24 := z23.fst
  let z25 := z23.snd
  let z26 := z25.fst
  let z27 := z25.snd.fst
  let z28 : af × af × Bool := ({ w0 := z12, w1 := z14, w2 := z16, w3 := z18 }, { w0 := z20, w1 := z22, w2 := z24, w3 := z26 }, z27)
  let z29 : PUnit × (af × af × Bool) × PUnit := ((), z28, ())
  let z30 := z10.snd
  let z31 := z30.fst.fst
  let z32 : PUnit × PUnit × PUnit := ((), (), ())
  let z33 : Int × PUnit × PUnit × PUnit := (z31, z32)
  let z34 := z30.snd
  let z35 := z34.snd
  let z36 : PUnit × PUnit := ((), ())
  let z37 : Int × PUnit × PUnit := (z35.fst.fst, z36)
  let z38 := z35.snd
  let z39 := z38.snd
  let z40 := z39.snd
  let z41 := z40.snd
  let z42 := z41.fst
  let z43 := z42.snd
  let z44 := z43.snd
  let z45 := z44.snd
  let z46 := z45.snd
  let z47 := z46.snd
  let z48 := z47.snd
  let z49 := z48.snd
  let z50 := z49.snd
  let z51 : Int × UInt64 × UInt64 × UInt64 × UInt64 × UInt64 × UInt64 × UInt64 × UInt64 × PUnit × UInt64 × PUnit := (z42.fst, z43.fst, z44.fst, z45.fst, z46.fst, z47.fst, z48.fst, z49.fst, z50.fst, (), z50.snd.snd.fst, ())
  let z52 := z38.fst
  let z53 := z41.snd
  let z54 := z53.snd
  let z55 := z54.fst
  let z56 := z34.fst.fst
  let z57 : Int × PUnit × PUnit × PUnit := (z56, z32)
  let z58 : Int × PUnit × PUnit := (z39.fst.fst, z36)
  let z59 := z53.fst
  let z60 := z59.snd
  let z61 := z60.snd
  let z62 := z61.snd
  let z63 := z62.snd
  let z64 := z63.snd
  let z65 := z64.snd
  let z66 := z65.snd
  let z67 := z66.snd
  let z68 : Int × UInt64 × UInt64 × UInt64 × UInt64 × UInt64 × UInt64 × UInt64 × UInt64 × PUnit × UInt64 × PUnit := (z59.fst, z60.fst, z61.fst, z62.fst, z63.fst, z64.fst, z65.fst, z66.fst, z67.fst, (), z67.snd.snd.fst, ())
  let z69 := z40.fst
  let z70 := z54.snd.fst
  let z71 : PUnit × PUnit := ((), ())
  let z72 : List UInt8 := gJ z31 z28
  let z73 : (Int × UInt64 × UInt64 × UInt64 × UInt64 × UInt64 × UInt64 × UInt64 × UInt64 × PUnit × UInt64 × PUnit) × List UInt8 := eM z51 z55 (1 : UInt8) z72
  let z74 := z73.fst
  let z75 := z74.snd
  let z76 := z75.snd
  let z77 := z76.snd
  let z78 := z77.snd
  let z79 := z78.snd
  let z80 := z79.snd
  let z81 := z80.snd
  let z82 := z81.snd
  let z83 : Int × UInt64 × UInt64 × UInt64 × UInt64 × UInt64 × UInt64 × UInt64 × UInt64 × PUnit × UInt64 × PUnit := (z74.fst, z75.fst, z76.fst, z77.fst, z78.fst, z79.fst, z80.fst, z81.fst, z82.fst, (), z82.snd.snd.fst, ())
  let z84 : List UInt8 := z52 ++ z72
  let z85 := z73.snd
  let z86 : List UInt8 := gJ z56 z28
  let z87 : (Int × UInt64 × UInt64 × UInt64 × UInt64 × UInt64 × UInt64 × UInt64 × UInt64 × PUnit × UInt64 × PUnit) × List UInt8 := eM z68 z70 (1 : UInt8) z86
  let z88 := z87.fst
  let z89 := z88.snd
  let z90 := z89.snd
  let z91 := z90.snd
  let z92 := z91.snd
  let z93 := z92.snd
  let z94 := z93.snd
  let z95 := z94.snd
  let z96 := z95.snd
  let z97 : Int × UInt64 × UInt64 × UInt64 × UInt64 × UInt64 × UInt64 × UInt64 × UInt64 × PUnit × UInt64 × PUnit := (z88.fst, z89.fst, z90.fst, z91.fst, z92.fst, z93.fst, z94.fst, z95.fst, z96.fst, (), z96.snd.snd.fst, ())
  let z98 : List UInt8 := z69 ++ z86
  let z99 := z87.snd
  let z100 : (Int × UInt64 × UInt64 × UInt64 × UInt64 × UInt64 × UInt64 × UInt64 × UInt64 × PUnit × UInt64 × PUnit) × List UInt8 := eM z83 z85 (0 : UInt8) []
  let z101 := z100.fst
  let z102 := z101.snd
  let z103 := z102.snd
  let z104 := z103.snd
  let z105 := z104.snd
  let z106 := z105.snd
  let z107 := z106.snd
  let z108 := z107.snd
  let z109 := z108.snd
  let z110 : (Int × UInt64 × UInt64 × UInt64 × UInt64 × UInt64 × UInt64 × UInt64 × UInt64 × PUnit × UInt64 × PUnit) × List UInt8 := eM z97 z99 (0 : UInt8) []
  let z111 := z110.fst
  let z112 := z111.snd
  let z113 := z112.snd
  let z114 := z113.snd
  let z115 := z114.snd
  let z116 := z115.snd
  let z117 := z116.snd
  let z118 := z117.snd
  let z119 := z118.snd
  let z120 : Int × List af × Int × PUnit × PUnit × Int × PUnit × PUnit × Int × PUnit := (a0, a1, a3, (), (), (0 : Int) + (1 : Int), z1)
  let z121 : af := { w0 := 3, w1 := 0, w2 := 0, w3 := 0 }
  let z122 : Int × List af × PUnit := (z5, [z121], ())
  let z123 : (Int × PUnit × PUnit × PUnit) × (Int × PUnit × PUnit × PUnit) × (Int × List af × PUnit) × List UInt8 × (Int × List af × PUnit) × List UInt8 × PUnit := ((a0, (), z3), (a0, (), z4), z122, [], z122, [], ())
  let z124 : (Int × List af × Int × PUnit × PUnit × Int × PUnit × PUnit × Int × PUnit) × List UInt64 × (UInt64 × UInt64 × UInt64 × UInt64 × UInt64 × UInt64 × UInt64 × UInt64 × Bool × PUnit) × (Int × PUnit × PUnit × PUnit) × (Int × PUnit × PUnit × PUnit) × (Int × List af × PUnit) × List UInt8 × (Int × List af × PUnit) × List UInt8 × PUnit := (z120, z9.fst, (z12, z14, z16, z18, z20, z22, z24, z26, z27, ()), z123)
  let z125 := (g2b_2 z124).snd.snd
  let z126 := z125.fst
  let z127 := z126.snd
  let z128 := z127.snd
  let z129 := z128.snd
  let z130 := z129.snd
  let z131 := z130.snd
  let z132 := z131.snd
  let z133 := z132.snd
  let z134 : af × af × Bool := ({ w0 := z126.fst, w1 := z127.fst, w2 := z128.fst, w3 := z129.fst }, { w0 := z130.fst, w1 := z131.fst, w2 := z132.fst, w3 := z133.fst }, z133.snd.fst)
  let z135 : PUnit × (af × af × Bool) × PUnit := ((), z134, ())
  let z136 := z125.snd
  let z137 := z136.fst.fst
  let z138 : PUnit × PUnit × PUnit := ((), (), ())
  let z139 : Int × PUnit × PUnit × PUnit := (z137, z138)
  let z140 := z136.snd
  let z141 := z140.snd
  let z142 := z141.fst
  let z143 := z142.fst
  let z144 := z142.snd.fst
  let z145 : Int × List af × PUnit := (z143, z144, ())
  let z146 := z141.snd
  let z147 := z146.fst
  let z148 := z140.fst.fst
  let z149 : Int × PUnit × PUnit × PUnit := (z148, z138)
  let z150 := z146.snd
  let z151 := z150.fst
  let z152 := z151.fst
  let z153 := z151.snd.fst
  let z154 : Int × List af × PUnit := (z152, z153, ())
  let z155 := z150.snd.fst
  let z156 : List UInt8 := z147 ++ gJ z137 z134
  let z157 : List UInt8 × PUnit := (z156, ())
  let z158 : List UInt8 := z155 ++ gJ z148 z134
  let z159 : List UInt8 × PUnit := (z158, ())
  let z160 : af × Int × List af := dA z144
  let z161 := z160.snd
  let z162 : af × Int × List af := dA z153
  let z163 := z162.snd
  let z164 : af := { w0 := 0, w1 := 0, w2 := 0, w3 := 0 }
  let z165 : af := su (pS z143) z160.fst z164
  let z166 := z165.w0
  let z167 : af := su (pS z152) z162.fst z164
  let z168 := z165.w1
  let z169 := z165.w2
  let z170 := z165.w3
  let z171 : Bool := iB ((z5, z121, ()), ())
  let z172 : af := ofP (pS z5) z121
  let z173 := z172.w0
  let z174 := z172.w1
  let z175 := z172.w2
  let z176 := z172.w3
  let z177 : Bool := !bf a0 ((0 : Int) + (1 : Int)) 1 == (0 : Int)
  let z178 : Bool := !bf a0 (0 : Int) 1 == (0 : Int)
  let z179 : (Int × List af × Int × PUnit × PUnit × Int × PUnit × PUnit × Int × PUnit) × List UInt64 × (UInt64 × UInt64 × UInt64 × UInt64 × UInt64 × UInt64 × UInt64 × UInt64 × Bool × PUnit) × (Int × PUnit × PUnit × PUnit) × (Int × PUnit × PUnit × PUnit) × (Int × PUnit × PUnit) × List UInt8 × (Int × PUnit × PUnit) × List UInt8 × (Int × UInt64 × UInt64 × UInt64 × UInt64 × UInt64 × UInt64 × UInt64 × UInt64 × PUnit × UInt64 × PUnit) × (Int × UInt64 × UInt64 × UInt64 × UInt64 × UInt64 × UInt64 × UInt64 × UInt64 × PUnit × UInt64 × PUnit) × List UInt8 × List UInt8 × PUnit := (z2, [a2.w0, a2.w1, a2.w2, a2.w3], (a4.fst.w0, a4.fst.w1, a4.fst.w2, a4.fst.w3, a4.snd.fst.w0, a4.snd.fst.w1, a4.snd.fst.w2, a4.snd.fst.w3, a4.snd.snd, ()), z7)
  let z180 := (g2_2 z179).snd
  let z181 := z180.snd
  let z182 := z181.fst
  let z183 := z182.fst
  let z184 := z182.snd
  let z185 := z184.fst
  let z186 := z184.snd
  let z187 := z186.fst
  let z188 := z186.snd
  let z189 := z188.fst
  let z190 := z188.snd
  let z191 := z190.fst
  let z192 := z190.snd
  let z193 := z192.fst
  let z194 := z192.snd
  let z195 := z194.fst
  let z196 := z194.snd
  let z197 := z196.fst
  let z198 := z196.snd.fst
  let z199 : af × af × Bool := ({ w0 := z183, w1 := z185, w2 := z187, w3 := z189 }, { w0 := z191, w1 := z193, w2 := z195, w3 := z197 }, z198)
  let z200 : PUnit × (af × af × Bool) × PUnit := ((), z199, ())
  let z201 := z181.snd
  let z202 := z201.fst.fst
  let z203 : Int × PUnit × PUnit × PUnit := (z202, z32)
  let z204 := z201.snd
  let z205 := z204.snd
  let z206 : Int × PUnit × PUnit := (z205.fst.fst, z36)
  let z207 := z205.snd
  let z208 := z207.snd
  let z209 := z208.snd
  let z210 := z209.snd
  let z211 := z210.fst
  let z212 := z211.snd
  let z213 := z212.snd
  let z214 := z213.snd
  let z215 := z214.snd
  let z216 := z215.snd
  let z217 := z216.snd
  let z218 := z217.snd
  let z219 := z218.snd
  let z220 : Int × UInt64 × UInt64 × UInt64 × UInt64 × UInt64 × UInt64 × UInt64 × UInt64 × PUnit × UInt64 × PUnit := (z211.fst, z212.fst, z213.fst, z214.fst, z215.fst, z216.fst, z217.fst, z218.fst, z219.fst, (), z219.snd.snd.fst, ())
  let z221 := z207.fst
  let z222 := z210.snd
  let z223 := z222.snd
  let z224 := z223.fst
  let z225 := z204.fst.fst
  let z226 : Int × PUnit × PUnit × PUnit := (z225, z32)
  let z227 : Int × PUnit × PUnit := (z208.fst.fst, z36)
  let z228 := z222.fst
  let z229 := z228.snd
  let z230 := z229.snd
  let z231 := z230.snd
  let z232 := z231.snd
  let z233 := z232.snd
  let z234 := z233.snd
  let z235 := z234.snd
  let z236 := z235.snd
  let z237 : Int × UInt64 × UInt64 × UInt64 × UInt64 × UInt64 × UInt64 × UInt64 × UInt64 × PUnit × UInt64 × PUnit := (z228.fst, z229.fst, z230.fst, z231.fst, z232.fst, z233.fst, z234.fst, z235.fst, z236.fst, (), z236.snd.snd.fst, ())
  let z238 := z209.fst
  let z239 := z223.snd.fst
  let z240 : List UInt8 := gJ z202 z199
  let z241 : (Int × UInt64 × UInt64 × UInt64 × UInt64 × UInt64 × UInt64 × UInt64 × UInt64 × PUnit × UInt64 × PUnit) × List UInt8 := eM z220 z224 (1 : UInt8) z240
  let z242 := z241.fst
  let z243 := z242.snd
  let z244 := z243.snd
  let z245 := z244.snd
  let z246 := z245.snd
  let z247 := z246.snd
  let z248 := z247.snd
  let z249 := z248.snd
  let z250 := z249.snd
  let z251 : Int × UInt64 × UInt64 × UInt64 × UInt64 × UInt64 × UInt64 × UInt64 × UInt64 × PUnit × UInt64 × PUnit := (z242.fst, z243.fst, z244.fst, z245.fst, z246.fst, z247.fst, z248.fst, z249.fst, z250.fst, (), z250.snd.snd.fst, ())
  let z252 : List UInt8 := z221 ++ z240
  let z253 := z241.snd
  let z254 : List UInt8 := gJ z225 z199
  let z255 : (Int × UInt64 × UInt64 × UInt64 × UInt64 × UInt64 × UInt64 × UInt64 × UInt64 × PUnit × UInt64 × PUnit) × List UInt8 := eM z237 z239 (1 : UInt8) z254
  let z256 := z255.fst
  let z257 := z256.snd
  let z258 := z257.snd
  let z259 := z258.snd
  let z260 := z259.snd
  let z261 := z260.snd
  let z262 := z261.snd
  let z263 := z262.snd
  let z264 := z263.snd
  let z265 : Int × UInt64 × UInt64 × UInt64 × UInt64 × UInt64 × UInt64 × UInt64 × UInt64 × PUnit × UInt64 × PUnit := (z256.fst, z257.fst, z258.fst, z259.fst, z260.fst, z261.fst, z262.fst, z263.fst, z264.fst, (), z264.snd.snd.fst, ())
  let z266 : List UInt8 := z238 ++ z254
  let z267 := z255.snd
  let z268 : (Int × UInt64 × UInt64 × UInt64 × UInt64 × UInt64 × UInt64 × UInt64 × UInt64 × PUnit × UInt64 × PUnit) × List UInt8 := eM z251 z253 (0 : UInt8) []
  let z269 := z268.fst
  let z270 := z269.snd
  let z271 := z270.snd
  let z272 := z271.snd
  let z273 := z272.snd
  let z274 := z273.snd
  let z275 := z274.snd
  let z276 := z275.snd
  let z277 := z276.snd
  let z278 : (Int × UInt64 × UInt64 × UInt64 × UInt64 × UInt64 × UInt64 × UInt64 × UInt64 × PUnit × UInt64 × PUnit) × List UInt8 := eM z265 z267 (0 : UInt8) []
  let z279 := z278.fst
  let z280 := z279.snd
  let z281 := z280.snd
  let z282 := z281.snd
  let z283 := z282.snd
  let z284 := z283.snd
  let z285 := z284.snd
  let z286 := z285.snd
  let z287 := z286.snd
  let z288 : (Int × List af × Int × PUnit × PUnit × Int × PUnit × PUnit × Int × PUnit) × List UInt64 × (UInt64 × UInt64 × UInt64 × UInt64 × UInt64 × UInt64 × UInt64 × UInt64 × Bool × PUnit) × (Int × PUnit × PUnit × PUnit) × (Int × PUnit × PUnit × PUnit) × (Int × List af × PUnit) × List UInt8 × (Int × List af × PUnit) × List UInt8 × PUnit := (z120, z180.fst, (z183, z185, z187, z189, z191, z193, z195, z197, z198, ()), z123)
  let z289 := (g2b_2 z288).snd.snd
  let z290 := z289.fst
  let z291 := z290.snd
  let z292 := z291.snd
  let z293 := z292.snd
  let z294 := z293.snd
  let z295 := z294.snd
  let z296 := z295.snd
  let z297 := z296.snd
  let z298 : af × af × Bool := ({ w0 := z290.fst, w1 := z291.fst, w2 := z292.fst, w3 := z293.fst }, { w0 := z294.fst, w1 := z295.fst, w2 := z296.fst, w3 := z297.fst }, z297.snd.fst)
  let z299 : PUnit × (af × af × Bool) × PUnit := ((), z298, ())
  let z300 := z289.snd
  let z301 := z300.fst.fst
  let z302 : Int × PUnit × PUnit × PUnit := (z301, z138)
  let z303 := z300.snd
  let z304 := z303.snd
  let z305 := z304.fst
  let z306 := z305.fst
  let z307 := z305.snd.fst
  let z308 : Int × List af × PUnit := (z306, z307, ())
  let z309 := z304.snd
  let z310 := z309.fst
  let z311 := z303.fst.fst
  let z312 : Int × PUnit × PUnit × PUnit := (z311, z138)
  let z313 := z309.snd
  let z314 := z313.fst
  let z315 := z314.fst
  let z316 := z314.snd.fst
  let z317 : Int × List af × PUnit := (z315, z316, ())
  let z318 := z313.snd.fst
  let z319 : List UInt8 := z310 ++ gJ z301 z298
  let z320 : List UInt8 × PUnit := (z319, ())
  let z321 : List UInt8 := z318 ++ gJ z311 z298
  let z322 : List UInt8 × PUnit := (z321, ())
  let z323 : af × Int × List af := dA z307
  let z324 := z323.snd
  let z325 : af × Int × List af := dA z316
  let z326 := z325.snd
  let z327 : af := su (pS z306) z323.fst z164
  let z328 := z327.w0
  let z329 : af := su (pS z315) z325.fst z164
  let z330 := z327.w1
  let z331 := z327.w2
  let z332 := z327.w3
  (.br (decide (a0 < (0 : Int)))
  (.ok ⟨aC, ((true, ()), ())⟩)
  (.br (decide ((3 : Int) < a0))
    (.ok ⟨aC, ((true, ()), ())⟩)
    (.br (decide ((40 : Int) < z0))
      (.ok ⟨aC, ((true, ()), ())⟩)
      (.br (decide (a3 < (0 : Int)))
        (.ok ⟨aC, ((true, ()), ())⟩)
        (.br (decide (z0 < a3))
          (.ok ⟨aC, ((true, ()), ())⟩)
          (.br (!onB a0 a4)
            (.br (bf a0 (0 : Int) 1 == (0 : Int))
              (.br (bf a0 (0 : Int) 1 == (0 : Int))
                (gd [ok2 z8, dm (z29, z33, z37, z51, z52, z55, ())] (.br (onB z31 z28)
                  (gd [dm (z29, z57, z58, z68, z69, z70, ())] (.br (onB z56 z28)
                    (gd [iH (z71, z33, z37, z83, z84, z85, ()), iH (z71, z57, z58, z97, z98, z99, ()), dp (z71, z33, z37, (z101.fst, z102.fst, z103.fst, z104.fst, z105.fst, z106.fst, z107.fst, z108.fst, z109.fst, (), z109.snd.snd.fst, ()), z84, z100.snd, ()), dp (z71, z57, z58, (z111.fst, z112.fst, z113.fst, z114.fst, z115.fst, z116.fst, z117.fst, z118.fst, z119.fst, (), z119.snd.snd.fst, ()), z98, z110.snd, ()), cl ((z84, z98, ()), ())] (.br (!decide (z84 = z98))
                      (.ok ⟨aC, ((false, ()), ())⟩)
                      (.br (bf a0 ((0 : Int) + (1 : Int)) 1 == (0 : Int))
                        (.br (bf a0 ((0 : Int) + (1 : Int)) 1 == (0 : Int))
                          (gd [ok2b z124, fH (z135, z139, z145, z147, ())] (.br (onB z137 z134)
                            (gd [fH (z135, z149, z154, z155, ())] (.br (onB z148 z134)
                              (gd [iu (z71, z139, z145, z157), iu (z71, z149, z154, z159)] (.br (!z161.fst == (0 : Int))
                                (.ok ⟨aC, ((false, ()), ())⟩)
                                (.br (!z163.fst == (0 : Int))
                                  (.ok ⟨aC, ((false, ()), ())⟩)
                                  (gd [dH (z71, z139, (z143, z161.snd, ()), z157), dH (z71, z149, (z152, z163.snd, ()), z159), cl ((z156, z158, ()), ())] (.br (!decide (z156 = z158))
                                    (.ok ⟨aC, ((false, ()), ())⟩)
                                    (.br (!(z166 == z167.w0 && (z168 == z167.w1 && (z169 == z167.w2 && (z170 == z167.w3 && true)))))
                                      (.ok ⟨aC, ((false, ()), ())⟩)
                                      (gd [z171] (.br (!(z166 == z173 && (z168 == z174 && (z169 == z175 && (z170 == z176 && true)))))
                                        (.ok ⟨aC, ((false, ()), ())⟩)
                                        (.ok ⟨aC, ((true, ()), ())⟩)))))))))
                              (.ok ⟨aC, ((false, ()), ())⟩)))
                            (.ok ⟨aC, ((false, ()), ())⟩)))
                          (.br (z177)
                            (.ok ⟨aC, ((false, ()), ())⟩)
                            (.ok ⟨aC, ((false, ()), ())⟩)))
                        (.br (bf a0 ((0 : Int) + (1 : Int)) 1 == (0 : Int))
                          (.br (z177)
                            (.ok ⟨aC, ((false, ()), ())⟩)
                            (.ok ⟨aC, ((false, ()), ())⟩))
                          (.br (z177)
                            (.ok ⟨aC, ((false, ()), ())⟩)
                            (.br (z177)
                              (.ok ⟨aC, ((false, ()), ())⟩)
                              (.ok ⟨aC, ((false, ()), ())⟩)))))))
                    (.ok ⟨aC, ((false, ()), ())⟩)))
                  (.ok ⟨aC, ((false, ()), ())⟩)))
                (.br (z178)
                  (.ok ⟨aC, ((false, ()), ())⟩)
                  (.ok ⟨aC, ((false, ()), ())⟩)))
              (.br (bf a0 (0 : Int) 1 == (0 : Int))
                (.br (z178)
                  (.ok ⟨aC, ((false, ()), ())⟩)
                  (.ok ⟨aC, ((false, ()), ())⟩))
                (.br (z178)
                  (.ok ⟨aC, ((false, ()), ())⟩)
                  (.br (z178)
                    (.ok ⟨aC, ((false, ()), ())⟩)
                    (.ok ⟨aC, ((false, ()), ())⟩)))))
            (.br (bf a0 (0 : Int) 1 == (0 : Int))
              (.br (bf a0 (0 : Int) 1 == (0 : Int))
                (gd [ok2 z179, dm (z200, z203, z206, z220, z221, z224, ())] (.br (onB z202 z199)
                  (gd [dm (z200, z226, z227, z237, z238, z239, ())] (.br (onB z225 z199)
                    (gd [iH (z71, z203, z206, z251, z252, z253, ()), iH (z71, z226, z227, z265, z266, z267, ()), dp (z71, z203, z206, (z269.fst, z270.fst, z271.fst, z272.fst, z273.fst, z274.fst, z275.fst, z276.fst, z277.fst, (), z277.snd.snd.fst, ()), z252, z268.snd, ()), dp (z71, z226, z227, (z279.fst, z280.fst, z281.fst, z282.fst, z283.fst, z284.fst, z285.fst, z286.fst, z287.fst, (), z287.snd.snd.fst, ()), z266, z278.snd, ()), cl ((z252, z266, ()), ())] (.br (!decide (z252 = z266))
                      (.ok ⟨aC, ((false, ()), ())⟩)
                      (.br (bf a0 ((0 : Int) + (1 : Int)) 1 == (0 : Int))
                        (.br (bf a0 ((0 : Int) + (1 : Int)) 1 == (0 : Int))
                          (gd [ok2b z288, fH (z299, z302, z308, z310, ())] (.br (onB z301 z298)
                            (gd [fH (z299, z312, z317, z318, ())] (.br (onB z311 z298)
                              (gd [iu (z71, z302, z308, z320), iu (z71, z312, z317, z322)] (.br (!z324.fst == (0 : Int))
                                (.ok ⟨aC, ((false, ()), ())⟩)
                                (.br (!z326.fst == (0 : Int))
                                  (.ok ⟨aC, ((false, ()), ())⟩)
                                  (gd [dH (z71, z302, (z306, z324.snd, ()), z320), dH (z71, z312, (z315, z326.snd, ()), z322), cl ((z319, z321, ()), ())] (.br (!decide (z319 = z321))
                                    (.ok ⟨aC, ((false, ()), ())⟩)
                                    (.br (!(z328 == z329.w0 && (z330 == z329.w1 && (z331 == z329.w2 && (z332 == z329.w3 && true)))))
                                      (.ok ⟨aC, ((false, ()), ())⟩)
                                      (gd [z171] (.br (!(z328 == z173 && (z330 == z174 && (z331 == z175 && (z332 == z176 && true)))))
                                        (.ok ⟨aC, ((false, ()), ())⟩)
                                        (.ok ⟨aC, ((true, ()), ())⟩)))))))))
                              (.ok ⟨aC, ((false, ()), ())⟩)))
                            (.ok ⟨aC, ((false, ()), ())⟩)))
                          (.br (z177)
                            (.ok ⟨aC, ((false, ()), ())⟩)
                            (.ok ⟨aC, ((false, ()), ())⟩)))
                        (.br (bf a0 ((0 : Int) + (1 : Int)) 1 == (0 : Int))
                          (.br (z177)
                            (.ok ⟨aC, ((false, ()), ())⟩)
                            (.ok ⟨aC, ((false, ()), ())⟩))
                          (.br (z177)
                            (.ok ⟨aC, ((false, ()), ())⟩)
                            (.br (z177)
                              (.ok ⟨aC, ((false, ()), ())⟩)
                              (.ok ⟨aC, ((false, ()), ())⟩)))))))
                    (.ok ⟨aC, ((false, ()), ())⟩)))
                  (.ok ⟨aC, ((false, ()), ())⟩)))
                (.br (z178)
                  (.ok ⟨aC, ((false, ()), ())⟩)
                  (.ok ⟨aC, ((false, ()), ())⟩)))
              (.br (bf a0 (0 : Int) 1 == (0 : Int))
                (.br (z178)
                  (.ok ⟨aC, ((false, ()), ())⟩)
                  (.ok ⟨aC, ((false, ()), ())⟩))
                (.br (z178)
                  (.ok ⟨aC, ((false, ()), ())⟩)
                  (.br (z178)
                    (.ok ⟨aC, ((false, ()), ())⟩)
                    (.ok ⟨aC, ((false, ()), ())⟩)))))))))))
theorem amv (ok2 : bu → Bool) (g2_2 : bu → eP) (ok2b : bh → Bool) (g2b_2 : bh → dX) (x : zI) (Q : gD.Y → Prop) : wpf te uy (JH 2 ia (cS ia 2 ok2b (rq g2b_2)) (JH 2 kb (cS kb 2 ok2 (wj g2_2)) au)) 1000 Try.f3 (gD.inp.inj x).tm (gD.inp.inj x).hp (fnK gD JF Q) (fun _ _ => False) = (rr ok2 g2_2 ok2b g2b_2 (x.1.1) (x.1.2.1) (x.1.2.2.1) (x.1.2.2.2.1) (x.1.2.2.2.2.1)).wpR Q := by kernel_rfl
theorem Vb (ok2 : bu → Bool) (g2_2 : bu → eP) (ok2b : bh → Bool) (g2b_2 : bh → dX) (h2 : ∀ s : bu, ok2 s = true → ∃ m e, ay (mh) m s = some e ∧ (wj g2_2 s).run = some e) (h2b : ∀ s : bh, ok2b s = true → ∃ m e, ay (jw) m s = some e ∧ (rq g2b_2 s).run = some e) (pre : zI → Bool) (F : zI → OT gD.Y) (hF : ∀ (x : zI) oy, pre x = true → (F x).run = some oy → (rr ok2 g2_2 ok2b g2b_2 (x.1.1) (x.1.2.1) (x.1.2.2.1) (x.1.2.2.2.1) (x.1.2.2.2.2.1)).run = some oy) : aa Try.prog 3 (gD.aE pre F) :=
  az ak mI ux (f := 3) (fn := Try.f3) (c := aj Try.f3) (by kernel_rfl) (by kernel_rfl) (by kernel_rfl) (S := gD) (k := 0) (by kernel_rfl) (fun R hR => (wk (c := (aj Try.f3)) (by kernel_rfl) (id := 2) (sh := ia) (by kernel_rfl) (bg ak mI ux (sh := ia) hR (xs := JE) (aF (by kernel_rfl) (by kernel_rfl) hR) aS ae (n := 1000) (T := jw) (fun s Q => acb s Q) (ok := ok2b) (f := rq g2b_2) h2b) (wk (c := (aj Try.f3)) (by kernel_rfl) (id := 2) (sh := kb) (by kernel_rfl) (bg ak mI ux (sh := kb) hR (xs := Qm) (aF (by kernel_rfl) (by kernel_rfl) hR) aS ae (n := 1000) (T := mh) (fun s Q => ahy s Q) (ok := ok2) (f := wj g2_2) h2) ae))) (n := 1000) (sel := JF) (fun v o h => by cases h; rfl) (pre := pre) (F := F) (T := fun x => rr ok2 g2_2 ok2b g2b_2 (x.1.1) (x.1.2.1) (x.1.2.2.1) (x.1.2.2.2.1) (x.1.2.2.2.2.1)) (fun x Q => amv ok2 g2_2 ok2b g2b_2 x Q) hF
abbrev B9 : Type := UInt64 × UInt64 × UInt64 × UInt64 × UInt64 × UInt64 × UInt64 × UInt64 × Bool × Unit
def wE (P : af × (af × Bool)) : B9 := (P.1.w0, P.1.w1, P.1.w2, P.1.w3, P.2.1.w0, P.2.1.w1, P.2.1.w2, P.2.1.w3, P.2.2, ())
abbrev DW : Type := Ig × List UInt8
abbrev BQ : Type := List UInt8 × (List UInt8 × (DW × DW))
def noE : af := ⟨0, 0, 0, 0⟩
def H4 (c : Int) (e : af) (a : Int) (k : Nat) (d : DW) : DW := cond ((k : Int) == a) (eM d.1 d.2 2 (bI c e)) d
def lg (c : Int) (l : List af) (e : af) (a : Int) (k : Nat) (q : BQ) : BQ :=
  cond (decide ((k : Int) < (l.length : Int))) (q.1 ++ bI c (l.getD k noE), q.2.1 ++ bI c (l.getD k noE), eM q.2.2.1.1 q.2.2.1.2 2 (bI c (l.getD k noE)), eM (H4 c e a k q.2.2.2).1 (H4 c e a k q.2.2.2).2 2 (bI c (l.getD k noE)))
    (q.1, q.2.1, q.2.2.1, H4 c e a k q.2.2.2)
def ah5 (k : Nat) (q : BQ) : Prop := q.1 = q.2.1 ∧ q.1.length ≤ 32 * k ∧ q.2.2.1.1.1 = 64 ∧ q.2.2.2.1.1 = 64 ∧ q.2.2.1.2.length ≤ 128 ∧ q.2.2.2.2.length ≤ 128
theorem atT {c : Int} {e : af} {a : Int} {k : Nat} {d : DW} (h1 : d.1.1 = 64) (h2 : d.2.length ≤ 128) : (H4 c e a k d).1.1 = 64 ∧ (H4 c e a k d).2.length ≤ 128 := by
  unfold H4
  cases (k : Int) == a
  · exact ⟨h1, h2⟩
  · exact ⟨h1, je _ _ _ _⟩
theorem QR {c : Int} {l : List af} {e : af} {a : Int} {k : Nat} {q : BQ} (h : ah5 k q) : ah5 (k + 1) (lg c l e a k q) := by
  obtain ⟨h1, h2, h3, h4, h5, h6⟩ := h
  obtain ⟨g1, g2⟩ := atT (c := c) (e := e) (a := a) (k := k) h4 h6
  unfold lg
  have hs := cO c (l.getD k noE)
  generalize bI c (l.getD k noE) = S at hs
  cases decide ((k : Int) < (l.length : Int))
  · exact ⟨h1, by show q.1.length ≤ _; omega, h3, g1, h5, g2⟩
  · refine ⟨?_, ?_, h3, g1, je _ _ _ _, je _ _ _ _⟩
    · show q.1 ++ S = q.2.1 ++ S
      rw [h1]
    · show (q.1 ++ S).length ≤ _
      rw [List.length_append]
      omega
def uj (c : Int) (l : List af) (e : af) (a : Int) (d d' : Ig) : BQ := upto (lg c l e a) ([], [], (d, []), (d', [])) (l.length + 1)
def ND (c : Int) (l : List af) (a m : Int) (e : af) (P : B9) (s s' : Int) (k : Int) (q : BQ) : bu := ((c, l, a, (), (), m, (), (), k, ()), (lst e, P, (c, (), (), ()), (c, (), (), ()), (s, (), ()), q.1, (s', (), ()), q.2.1, q.2.2.1.1, q.2.2.2.1, q.2.2.1.2, q.2.2.2.2, ()))
def rp (s : bu) : Bool := aA s.1.1 && decide (s.1.2.2.2.2.2.2.2.2.1 = 0 ∧ s.1.2.1.length ≤ 40 ∧ s.2.1.length = 4 ∧ s.2.2.2.1.1 = s.1.1 ∧ s.2.2.2.2.1.1 = s.1.1 ∧ s.2.2.2.2.2.2.1 = [] ∧ s.2.2.2.2.2.2.2.2.1 = [] ∧
  s.2.2.2.2.2.2.2.2.2.1.1 = 64 ∧ s.2.2.2.2.2.2.2.2.2.2.1.1 = 64 ∧ s.2.2.2.2.2.2.2.2.2.2.2.1 = [] ∧ s.2.2.2.2.2.2.2.2.2.2.2.2.1 = [])
def pi (s : bu) : eP :=
  ((s.1.1, s.1.2.1, s.1.2.2.1, (), (), s.1.2.2.2.2.2.1, (), (), ()), (s.2.1, s.2.2.1, s.2.2.2.1, s.2.2.2.2.1, s.2.2.2.2.2.1, (uj s.1.1 s.1.2.1 (elemOf s.2.1) s.1.2.2.1 s.2.2.2.2.2.2.2.2.2.1 s.2.2.2.2.2.2.2.2.2.2.1).1, s.2.2.2.2.2.2.2.1,
    (uj s.1.1 s.1.2.1 (elemOf s.2.1) s.1.2.2.1 s.2.2.2.2.2.2.2.2.2.1 s.2.2.2.2.2.2.2.2.2.2.1).2.1, (uj s.1.1 s.1.2.1 (elemOf s.2.1) s.1.2.2.1 s.2.2.2.2.2.2.2.2.2.1 s.2.2.2.2.2.2.2.2.2.2.1).2.2.1.1, (uj s.1.1 s.1.2.1 (elemOf s.2.1) s.1.2.2.1 s.2.2.2.2.2.2.2.2.2.1 s.2.2.2.2.2.2.2.2.2.2.1).2.2.2.1,
    (uj s.1.1 s.1.2.1 (elemOf s.2.1) s.1.2.2.1 s.2.2.2.2.2.2.2.2.2.1 s.2.2.2.2.2.2.2.2.2.2.1).2.2.1.2, (uj s.1.1 s.1.2.1 (elemOf s.2.1) s.1.2.2.1 s.2.2.2.2.2.2.2.2.2.1 s.2.2.2.2.2.2.2.2.2.2.1).2.2.2.2, ()))
theorem Va {c : Int} (hs : aA c = true) {l : List af} {a m : Int} {e : af} {P : B9} {s s' : Int} {k : Nat} (hk : k ≤ l.length) (hl : l.length ≤ 40) {q : BQ} (hq : ah5 k q) :
    (mh (ND c l a m e P s s' (k : Int) q)).run = some (.inl (ND c l a m e P s s' ((k : Int) + 1) (lg c l e a k q))) := by
  obtain ⟨ov, ow, ⟨dv, wv⟩, ⟨dw, ww⟩⟩ := q
  obtain ⟨h1, h2, h3, h4, h5, h6⟩ := hq
  have h1 : ov = ow := h1
  have h2 : ov.length ≤ 32 * k := h2
  have h5 : wv.length ≤ 128 := h5
  have h6 : ww.length ≤ 128 := h6
  subst h1
  have i1 : inR ((k : Int) + 1) = true := aK (by omega)
  have ho : ov.length ≤ 100000 := by omega
  have p1 : ∀ (x : af) (d : Ig) (w o : List UInt8) (t : Int), w.length ≤ 128 → o.length ≤ 100000 → eR (((), x, ()), ((c, (), (), ()), (t, (), ()), d, o, w, ())) = true := fun x d w o t hw ho => (Bool.and_eq_true _ _).mpr ⟨cB hs, decide_eq_true ⟨by show o.length ≤ _; omega, hw⟩⟩
  have p2 : mm (((), e, ()), ((c, (), (), ()), (s', (), ()), dw, ov, ww, ())) = true := (Bool.and_eq_true _ _).mpr ⟨cB hs, decide_eq_true h6⟩
  have b0 : ∀ b, (((k : Int) == a) = b) → (decide ((k : Int) ≤ (l.length : Int))) = true := fun _ _ => decide_eq_true (by omega)
  have c0 : decide ((k : Int) ≤ (l.length : Int)) = true := decide_eq_true (by omega)
  rcases (Bool.eq_false_or_eq_true ((k : Int) == a)).symm with ha | ha
  · have eh : H4 c e a k (dw, ww) = (dw, ww) := by unfold H4; rw [ha]; rfl
    by_cases hk2 : (k : Int) < (l.length : Int)
    · have hin : inB (k : Int) l.length = true := aI (by omega)
      have e1 : lg c l e a k (ov, ov, (dv, wv), (dw, ww)) = (ov ++ bI c (l.getD k noE), ov ++ bI c (l.getD k noE), eM dv wv 2 (bI c (l.getD k noE)), eM dw ww 2 (bI c (l.getD k noE))) := by
        unfold lg
        dsimp only
        rw [decide_eq_true hk2, eh]
        rfl
      rw [e1]
      refine (OT.aw c0).trans ((OT.al ha).trans ((OT.aw (decide_eq_true hk2)).trans ((ah ?_).trans rfl)))
      simp only [List.all_cons, List.all_nil, Bool.and_true, Bool.and_eq_true]
      exact ⟨hin, p1 _ _ _ _ _ h5 ho, hin, p1 _ _ _ _ _ h6 ho, i1⟩
    · have e1 : lg c l e a k (ov, ov, (dv, wv), (dw, ww)) = (ov, ov, (dv, wv), (dw, ww)) := by
        unfold lg
        dsimp only
        rw [decide_eq_false hk2, eh]
        rfl
      rw [e1]
      refine (OT.aw c0).trans ((OT.al ha).trans ((OT.al (decide_eq_false hk2)).trans ((ah ?_).trans rfl)))
      simp only [List.all_cons, List.all_nil, Bool.and_true]
      exact i1
  · have eh : H4 c e a k (dw, ww) = eM dw ww 2 (bI c e) := by unfold H4; rw [ha]; rfl
    by_cases hk2 : (k : Int) < (l.length : Int)
    · have hin : inB (k : Int) l.length = true := aI (by omega)
      have e1 : lg c l e a k (ov, ov, (dv, wv), (dw, ww)) = (ov ++ bI c (l.getD k noE), ov ++ bI c (l.getD k noE), eM dv wv 2 (bI c (l.getD k noE)), eM (eM dw ww 2 (bI c e)).1 (eM dw ww 2 (bI c e)).2 2 (bI c (l.getD k noE))) := by
        unfold lg
        dsimp only
        rw [decide_eq_true hk2, eh]
        rfl
      rw [e1]
      refine (OT.aw c0).trans ((OT.aw ha).trans ((ah ?_).trans ((OT.aw (decide_eq_true hk2)).trans ((ah ?_).trans rfl))))
      · simp only [List.all_cons, List.all_nil, Bool.and_true, Bool.and_eq_true]
        exact ⟨rfl, p2⟩
      · simp only [List.all_cons, List.all_nil, Bool.and_true, Bool.and_eq_true]
        exact ⟨hin, p1 _ _ _ _ _ h5 ho, hin, p1 _ _ _ _ _ (je _ _ _ _) ho, i1⟩
    · have e1 : lg c l e a k (ov, ov, (dv, wv), (dw, ww)) = (ov, ov, (dv, wv), eM dw ww 2 (bI c e)) := by
        unfold lg
        dsimp only
        rw [decide_eq_false hk2, eh]
        rfl
      rw [e1]
      refine (OT.aw c0).trans ((OT.aw ha).trans ((ah ?_).trans ((OT.al (decide_eq_false hk2)).trans ((ah ?_).trans rfl))))
      · simp only [List.all_cons, List.all_nil, Bool.and_true, Bool.and_eq_true]
        exact ⟨rfl, p2⟩
      · simp only [List.all_cons, List.all_nil, Bool.and_true]
        exact i1
theorem JR (c : Int) (l : List af) (e : af) (a : Int) {d d' : Ig} (hd : d.1 = 64) (hd' : d'.1 = 64) : ∀ n, ah5 n (upto (lg c l e a) ([], [], (d, []), (d', [])) n)
  | 0 => ⟨rfl, Nat.le_refl _, hd, hd', Nat.zero_le _, Nat.zero_le _⟩
  | n + 1 => QR (JR c l e a hd hd' n)
theorem ahA : ∀ s : bu, rp s = true → ∃ m e, ay mh m s = some e ∧ (wj pi s).run = some e := by
  rintro ⟨⟨c, l, a, ⟨⟩, ⟨⟩, m, ⟨⟩, ⟨⟩, i, ⟨⟩⟩, ⟨E, P, ⟨c2, ⟨⟩, ⟨⟩, ⟨⟩⟩, ⟨c3, ⟨⟩, ⟨⟩, ⟨⟩⟩, ⟨s, ⟨⟩, ⟨⟩⟩, ov, ⟨s', ⟨⟩, ⟨⟩⟩, ow, dv, dw, wv, ww, ⟨⟩⟩⟩ h
  obtain ⟨hs, h⟩ := (Bool.and_eq_true _ _).mp h
  obtain ⟨h0, hl, hE, h2, h3, h4, h5, h6, h7, h8, h9⟩ := of_decide_eq_true h
  dsimp only at h0 hl hE h2 h3 h4 h5 h6 h7 h8 h9 hs
  subst h0 h2 h4 h5 h8 h9
  subst h3
  obtain ⟨e, rfl⟩ : ∃ e, E = lst e := ⟨elemOf E, (bR hE).symm⟩
  have := (aT (T := mh) (fun k q => ND c3 l a m e P s s' (k : Int) q) (lg c3 l e a)
    (fun q => (⟨(.exit 2, nF), ((c3, l, a, (), (), m, (), (), ()), (lst e, P, (c3, (), (), ()), (c3, (), (), ()), (s, (), ()), q.1, (s', (), ()), q.2.1, q.2.2.1.1, q.2.2.2.1, q.2.2.1.2, q.2.2.2.2, ()))⟩ : aJ)) (l.length + 1) ([], [], (dv, []), (dw, [])) (fun k q => ah5 k q) ⟨rfl, Nat.le_refl _, h6, h7, Nat.zero_le _, Nat.zero_le _⟩
    (fun k q hk hq => ⟨Va hs (by omega) hl hq, QR hq⟩) (fun q _ => ?_)).1
  · obtain ⟨n, hn⟩ := this
    exact ⟨n, _, hn, rfl⟩
  · exact OT.al (decide_eq_false (by dsimp only [ND]; omega))
abbrev BR : Type := List UInt8 × List UInt8
def sK (c : Int) (l : List af) (k : Nat) (q : BR) : BR := cond (decide ((k : Int) < (l.length : Int))) (q.1 ++ bI c (l.getD k noE), q.2 ++ bI c (l.getD k noE)) q
def ah4 (k : Nat) (q : BR) : Prop := q.1 = q.2 ∧ q.1.length ≤ 32 * k
theorem JS {c : Int} {l : List af} {k : Nat} {q : BR} (h : ah4 k q) : ah4 (k + 1) (sK c l k q) := by
  obtain ⟨h1, h2⟩ := h
  unfold sK
  have hs := cO c (l.getD k noE)
  generalize bI c (l.getD k noE) = S at hs
  cases decide ((k : Int) < (l.length : Int))
  · exact ⟨h1, by show q.1.length ≤ _; omega⟩
  · refine ⟨?_, ?_⟩
    · show q.1 ++ S = q.2 ++ S
      rw [h1]
    · show (q.1 ++ S).length ≤ _
      rw [List.length_append]
      omega
def Wr (c : Int) (l : List af) : BR := upto (sK c l) ([], []) (l.length + 1)
def CW (c : Int) (l : List af) (a m : Int) (e : af) (P : B9) (s s' : Int) (t t' : List af) (k : Int) (q : BR) : bh := ((c, l, a, (), (), m, (), (), k, ()), (lst e, P, (c, (), (), ()), (c, (), (), ()), (s, t, ()), q.1, (s', t', ()), q.2, ()))
def nE (s : bh) : Bool := aA s.1.1 && decide (s.1.2.2.2.2.2.2.2.2.1 = 0 ∧ s.1.2.1.length ≤ 40 ∧ s.2.1.length = 4 ∧ s.2.2.2.1.1 = s.1.1 ∧ s.2.2.2.2.1.1 = s.1.1 ∧ s.2.2.2.2.2.2.1 = [] ∧ s.2.2.2.2.2.2.2.2.1 = [])
def mg (s : bh) : dX :=
  ((s.1.1, s.1.2.1, s.1.2.2.1, (), (), s.1.2.2.2.2.2.1, (), (), ()), (s.2.1, s.2.2.1, s.2.2.2.1, s.2.2.2.2.1, s.2.2.2.2.2.1, (Wr s.1.1 s.1.2.1).1, s.2.2.2.2.2.2.2.1, (Wr s.1.1 s.1.2.1).2, ()))
theorem Qn {c : Int} (hs : aA c = true) {l : List af} {a m : Int} {e : af} {P : B9} {s s' : Int} {t t' : List af} {k : Nat} (hk : k ≤ l.length) (hl : l.length ≤ 40) {q : BR} (hq : ah4 k q) :
    (jw (CW c l a m e P s s' t t' (k : Int) q)).run = some (.inl (CW c l a m e P s s' t t' ((k : Int) + 1) (sK c l k q))) := by
  obtain ⟨ov, ow⟩ := q
  obtain ⟨h1, h2⟩ := hq
  have h1 : ov = ow := h1
  have h2 : ov.length ≤ 32 * k := h2
  subst h1
  have i1 : inR ((k : Int) + 1) = true := aK (by omega)
  have ho : ov.length ≤ 100000 := by omega
  have p1 : ∀ (x : af) (t : List af) (o : List UInt8) (s : Int), o.length ≤ 100000 → fC (((), x, ()), ((c, (), (), ()), (s, t, ()), o, ())) = true := fun x t o s ho => (Bool.and_eq_true _ _).mpr ⟨cB hs, decide_eq_true (by show o.length ≤ _; omega)⟩
  have c0 : decide ((k : Int) ≤ (l.length : Int)) = true := decide_eq_true (by omega)
  by_cases hk2 : (k : Int) < (l.length : Int)
  · have hin : inB (k : Int) l.length = true := aI (by omega)
    have e1 : sK c l k (ov, ov) = (ov ++ bI c (l.getD k noE), ov ++ bI c (l.getD k noE)) := by
      unfold sK
      rw [decide_eq_true hk2]
      rfl
    rw [e1]
    rcases (Bool.eq_false_or_eq_true ((k : Int) == a)).symm with ha | ha
    · refine (OT.aw c0).trans ((OT.al ha).trans ((OT.aw (decide_eq_true hk2)).trans ((ah ?_).trans rfl)))
      simp only [List.all_cons, List.all_nil, Bool.and_true, Bool.and_eq_true]
      exact ⟨hin, p1 _ _ _ _ ho, hin, p1 _ _ _ _ ho, i1⟩
    · refine (OT.aw c0).trans ((OT.aw ha).trans ((ah ?_).trans ((OT.aw (decide_eq_true hk2)).trans ((ah ?_).trans rfl))))
      · simp only [List.all_cons, List.all_nil, Bool.and_true, Bool.and_eq_true]
        exact ⟨rfl, cB hs⟩
      · simp only [List.all_cons, List.all_nil, Bool.and_true, Bool.and_eq_true]
        exact ⟨hin, p1 _ _ _ _ ho, hin, p1 _ _ _ _ ho, i1⟩
  · have e1 : sK c l k (ov, ov) = (ov, ov) := by
      unfold sK
      rw [decide_eq_false hk2]
      rfl
    rw [e1]
    rcases (Bool.eq_false_or_eq_true ((k : Int) == a)).symm with ha | ha
    · refine (OT.aw c0).trans ((OT.al ha).trans ((OT.al (decide_eq_false hk2)).trans ((ah ?_).trans rfl)))
      simp only [List.all_cons, List.all_nil, Bool.and_true]
      exact i1
    · refine (OT.aw c0).trans ((OT.aw ha).trans ((ah ?_).trans ((OT.al (decide_eq_false hk2)).trans ((ah ?_).trans rfl))))
      · simp only [List.all_cons, List.all_nil, Bool.and_true, Bool.and_eq_true]
        exact ⟨rfl, cB hs⟩
      · simp only [List.all_cons, List.all_nil, Bool.and_true]
        exact i1
theorem Fi (c : Int) (l : List af) : ∀ n, ah4 n (upto (sK c l) ([], []) n)
  | 0 => ⟨rfl, Nat.le_refl _⟩
  | n + 1 => JS (Fi c l n)
theorem acd : ∀ s : bh, nE s = true → ∃ m e, ay jw m s = some e ∧ (rq mg s).run = some e := by
  rintro ⟨⟨c, l, a, ⟨⟩, ⟨⟩, m, ⟨⟩, ⟨⟩, i, ⟨⟩⟩, ⟨E, P, ⟨c2, ⟨⟩, ⟨⟩, ⟨⟩⟩, ⟨c3, ⟨⟩, ⟨⟩, ⟨⟩⟩, ⟨s, t, ⟨⟩⟩, ov, ⟨s', t', ⟨⟩⟩, ow, ⟨⟩⟩⟩ h
  obtain ⟨hs, h⟩ := (Bool.and_eq_true _ _).mp h
  obtain ⟨h0, hl, hE, h2, h3, h4, h5⟩ := of_decide_eq_true h
  dsimp only at h0 hl hE h2 h3 h4 h5 hs
  subst h0 h2 h4 h5
  subst h3
  obtain ⟨e, rfl⟩ : ∃ e, E = lst e := ⟨elemOf E, (bR hE).symm⟩
  have := (aT (T := jw) (fun k q => CW c3 l a m e P s s' t t' (k : Int) q) (sK c3 l)
    (fun q => (⟨(.exit 2, k6), ((c3, l, a, (), (), m, (), (), ()), (lst e, P, (c3, (), (), ()), (c3, (), (), ()), (s, t, ()), q.1, (s', t', ()), q.2, ()))⟩ : aJ)) (l.length + 1) ([], []) (fun k q => ah4 k q) ⟨rfl, Nat.le_refl _⟩
    (fun k q hk hq => ⟨Qn hs (by omega) hl hq, JS hq⟩) (fun q _ => ?_)).1
  · obtain ⟨n, hn⟩ := this
    exact ⟨n, _, hn, rfl⟩
  · exact OT.al (decide_eq_false (by dsimp only [CW]; omega))
theorem asW {c : Int} (hs : aA c = true) : onB c (⟨⟨0, 0, 0, 0⟩, ⟨0, 0, 0, 0⟩, true⟩ : af × (af × Bool)) = true := by
  rcases cC hs with rfl | rfl | rfl | rfl <;> decide +kernel
theorem ahh {c : Int} (hs : aA c = true) : (bf c 0 1 == 0) = true ∧ (bf c (0 + 1) 1 == 0) = true := by
  rcases cC hs with rfl | rfl | rfl | rfl <;> exact ⟨rfl, rfl⟩
theorem atm {c : Int} (hs : aA c = true) : su (pS (cp c 1)) ⟨3, 0, 0, 0⟩ ⟨0, 0, 0, 0⟩ = ofP (pS (cp c 1)) ⟨3, 0, 0, 0⟩ := by
  rcases cC hs with rfl | rfl | rfl | rfl <;> decide +kernel
def JG (_ : zI) : Bool := true
def Zw (_ : zI) : OT gD.Y := .ok ⟨aC, ((true, ()), ())⟩
theorem Vc {ok2 : bu → Bool} {g2 : bu → eP} {ok2b : bh → Bool} {g2b : bh → dX} {c a : Int} {l : List af} {e : af} {P : af × (af × Bool)} {O R : List UInt8} {d d' : Ig} {w w' : List UInt8}
    (hs : aA c = true) (hl : l.length ≤ 40) (ha : 0 ≤ a) (hal : a ≤ l.length) (hP : onB c P = true) (hd : d.1 = 64) (hd' : d'.1 = 64) (hw : w.length ≤ 128) (hw' : w'.length ≤ 128) (hO : O.length ≤ 2000) (hR : R.length ≤ 2000)
    (k2 : ok2 ((c, l, a, (), (), 0, (), (), 0, ()), (lst e, wE P, (c, (), (), ()), (c, (), (), ()), (cp c 1, (), ()), [], (cp c 1, (), ()), [], bn, bn, [], [], ())) = true)
    (e2 : (g2 ((c, l, a, (), (), 0, (), (), 0, ()), (lst e, wE P, (c, (), (), ()), (c, (), (), ()), (cp c 1, (), ()), [], (cp c 1, (), ()), [], bn, bn, [], [], ()))).2 = (lst e, wE P, (c, (), (), ()), (c, (), (), ()), (cp c 1, (), ()), O, (cp c 1, (), ()), O, d, d', w, w', ()))
    (k2b : ok2b ((c, l, a, (), (), 0 + 1, (), (), 0, ()), (lst e, wE P, (c, (), (), ()), (c, (), (), ()), (cp c 1, [⟨3, 0, 0, 0⟩], ()), [], (cp c 1, [⟨3, 0, 0, 0⟩], ()), [], ())) = true)
    (e2b : (g2b ((c, l, a, (), (), 0 + 1, (), (), 0, ()), (lst e, wE P, (c, (), (), ()), (c, (), (), ()), (cp c 1, [⟨3, 0, 0, 0⟩], ()), [], (cp c 1, [⟨3, 0, 0, 0⟩], ()), [], ()))).2 = (lst e, wE P, (c, (), (), ()), (c, (), (), ()), (cp c 1, [⟨3, 0, 0, 0⟩], ()), R, (cp c 1, [⟨3, 0, 0, 0⟩], ()), R, ())) :
    (rr ok2 g2 ok2b g2b c l e a P).run = some ⟨aC, ((true, ()), ())⟩ := by
  obtain ⟨f0, f1⟩ := ahh hs
  have hc : 0 ≤ c ∧ c < 4 := by simpa [aA] using hs
  have hon : onB c P = true := hP
  have hB := nM hon
  obtain ⟨e0, e1, e2', e3⟩ := e
  obtain ⟨⟨p0, p1, p2, p3⟩, ⟨p4, p5, p6, p7⟩, p8⟩ := P
  obtain ⟨n, d0, d1, d2, d3, d4, d5, d6, d7, ⟨⟩, dc, ⟨⟩⟩ := d
  obtain ⟨n', d0', d1', d2', d3', d4', d5', d6', d7', ⟨⟩, dc', ⟨⟩⟩ := d'
  have hd : n = 64 := hd
  have hd' : n' = 64 := hd'
  subst hd hd'
  dsimp only [wE, lst, bn] at k2 e2 k2b e2b
  refine (OT.al (decide_eq_false (by omega))).trans ((OT.al (decide_eq_false (by omega))).trans ((OT.al (decide_eq_false (by omega))).trans ((OT.al (decide_eq_false (by omega))).trans ((OT.al (decide_eq_false (by omega))).trans ((OT.al (by rw [hP]; rfl)).trans ((OT.aw f0).trans ((OT.aw f0).trans ?_)))))))
  simp only [e2, e2b]
  have q1 : dm = dm := rfl
  refine (ah ?_).trans ((OT.aw hon).trans ((ah ?_).trans ((OT.aw hon).trans ((ah ?_).trans ((OT.al (by simp only [decide_true, Bool.not_true])).trans ((OT.aw f1).trans ((OT.aw f1).trans ((ah ?_).trans ((OT.aw hon).trans ((ah ?_).trans ((OT.aw hon).trans ((ah ?_).trans ((OT.al rfl).trans ((OT.al rfl).trans ((ah ?_).trans ((OT.al (by simp only [decide_true, Bool.not_true])).trans ((OT.al ?_).trans ((ah ?_).trans ((OT.al ?_).trans rfl)))))))))))))))))))
  · simp only [List.all_cons, List.all_nil, Bool.and_true, Bool.and_eq_true]
    exact ⟨k2, decide_eq_true ⟨by show O.length ≤ _; omega, hw⟩⟩
  · simp only [List.all_cons, List.all_nil, Bool.and_true, Bool.and_eq_true]
    exact decide_eq_true ⟨by show O.length ≤ _; omega, hw'⟩
  · simp only [List.all_cons, List.all_nil, Bool.and_true, Bool.and_eq_true]
    have lo : decide ((O ++ gJ c ((⟨p0, p1, p2, p3⟩, ⟨p4, p5, p6, p7⟩, p8) : af × (af × Bool))).length ≤ 140737488355328) = true := decide_eq_true (by rw [List.length_append]; omega)
    exact ⟨(Bool.and_eq_true _ _).mpr ⟨cB hs, decide_eq_true ⟨rfl, je _ _ _ _⟩⟩, (Bool.and_eq_true _ _).mpr ⟨cB hs, decide_eq_true ⟨rfl, je _ _ _ _⟩⟩, lo, lo, lo⟩
  · simp only [List.all_cons, List.all_nil, Bool.and_true, Bool.and_eq_true]
    exact ⟨k2b, decide_eq_true (by show R.length ≤ _; omega)⟩
  · simp only [List.all_cons, List.all_nil, Bool.and_true, Bool.and_eq_true]
    exact decide_eq_true (by show R.length ≤ _; omega)
  · simp only [List.all_cons, List.all_nil, Bool.and_true, Bool.and_eq_true]
    exact ⟨(Bool.and_eq_true _ _).mpr ⟨cB hs, rfl⟩, (Bool.and_eq_true _ _).mpr ⟨cB hs, rfl⟩⟩
  · simp only [List.all_cons, List.all_nil, Bool.and_true, Bool.and_eq_true]
    have lo : decide ((R ++ gJ c ((⟨p0, p1, p2, p3⟩, ⟨p4, p5, p6, p7⟩, p8) : af × (af × Bool))).length ≤ 140737488355328) = true := decide_eq_true (by rw [List.length_append]; omega)
    exact ⟨lo, lo, lo⟩
  · simp only [beq_self_eq_true, Bool.and_self, Bool.not_true]
  · simp only [List.all_cons, List.all_nil, Bool.and_true]
    exact cB hs
  · have e3 : su (pS (cp c 1)) (dA [⟨3, 0, 0, 0⟩]).1 ⟨0, 0, 0, 0⟩ = ofP (pS (cp c 1)) ⟨3, 0, 0, 0⟩ := atm hs
    rw [e3]
    simp only [beq_self_eq_true, Bool.and_self, Bool.not_true]
theorem Qq {ok2 : bu → Bool} {g2 : bu → eP} {ok2b : bh → Bool} {g2b : bh → dX} {c a : Int} {l : List af} {e : af} {P : af × (af × Bool)} {O R : List UInt8} {d d' : Ig} {w w' : List UInt8}
    (hs : aA c = true) (hl : l.length ≤ 40) (ha : 0 ≤ a) (hal : a ≤ l.length) (hP : onB c P = false) (hd : d.1 = 64) (hd' : d'.1 = 64) (hw : w.length ≤ 128) (hw' : w'.length ≤ 128) (hO : O.length ≤ 2000) (hR : R.length ≤ 2000)
    (k2 : ok2 ((c, l, a, (), (), 0, (), (), 0, ()), (lst e, wE (⟨⟨0, 0, 0, 0⟩, ⟨0, 0, 0, 0⟩, true⟩ : af × (af × Bool)), (c, (), (), ()), (c, (), (), ()), (cp c 1, (), ()), [], (cp c 1, (), ()), [], bn, bn, [], [], ())) = true)
    (e2 : (g2 ((c, l, a, (), (), 0, (), (), 0, ()), (lst e, wE (⟨⟨0, 0, 0, 0⟩, ⟨0, 0, 0, 0⟩, true⟩ : af × (af × Bool)), (c, (), (), ()), (c, (), (), ()), (cp c 1, (), ()), [], (cp c 1, (), ()), [], bn, bn, [], [], ()))).2 = (lst e, wE (⟨⟨0, 0, 0, 0⟩, ⟨0, 0, 0, 0⟩, true⟩ : af × (af × Bool)), (c, (), (), ()), (c, (), (), ()), (cp c 1, (), ()), O, (cp c 1, (), ()), O, d, d', w, w', ()))
    (k2b : ok2b ((c, l, a, (), (), 0 + 1, (), (), 0, ()), (lst e, wE (⟨⟨0, 0, 0, 0⟩, ⟨0, 0, 0, 0⟩, true⟩ : af × (af × Bool)), (c, (), (), ()), (c, (), (), ()), (cp c 1, [⟨3, 0, 0, 0⟩], ()), [], (cp c 1, [⟨3, 0, 0, 0⟩], ()), [], ())) = true)
    (e2b : (g2b ((c, l, a, (), (), 0 + 1, (), (), 0, ()), (lst e, wE (⟨⟨0, 0, 0, 0⟩, ⟨0, 0, 0, 0⟩, true⟩ : af × (af × Bool)), (c, (), (), ()), (c, (), (), ()), (cp c 1, [⟨3, 0, 0, 0⟩], ()), [], (cp c 1, [⟨3, 0, 0, 0⟩], ()), [], ()))).2 = (lst e, wE (⟨⟨0, 0, 0, 0⟩, ⟨0, 0, 0, 0⟩, true⟩ : af × (af × Bool)), (c, (), (), ()), (c, (), (), ()), (cp c 1, [⟨3, 0, 0, 0⟩], ()), R, (cp c 1, [⟨3, 0, 0, 0⟩], ()), R, ())) :
    (rr ok2 g2 ok2b g2b c l e a P).run = some ⟨aC, ((true, ()), ())⟩ := by
  obtain ⟨f0, f1⟩ := ahh hs
  have hc : 0 ≤ c ∧ c < 4 := by simpa [aA] using hs
  have hon : onB c (⟨⟨0, 0, 0, 0⟩, ⟨0, 0, 0, 0⟩, true⟩ : af × (af × Bool)) = true := asW hs
  have hB := nM hon
  obtain ⟨e0, e1, e2', e3⟩ := e
  skip
  obtain ⟨n, d0, d1, d2, d3, d4, d5, d6, d7, ⟨⟩, dc, ⟨⟩⟩ := d
  obtain ⟨n', d0', d1', d2', d3', d4', d5', d6', d7', ⟨⟩, dc', ⟨⟩⟩ := d'
  have hd : n = 64 := hd
  have hd' : n' = 64 := hd'
  subst hd hd'
  dsimp only [wE, lst, bn] at k2 e2 k2b e2b
  refine (OT.al (decide_eq_false (by omega))).trans ((OT.al (decide_eq_false (by omega))).trans ((OT.al (decide_eq_false (by omega))).trans ((OT.al (decide_eq_false (by omega))).trans ((OT.al (decide_eq_false (by omega))).trans ((OT.aw (by rw [hP]; rfl)).trans ((OT.aw f0).trans ((OT.aw f0).trans ?_)))))))
  simp only [e2, e2b]
  have q1 : dm = dm := rfl
  refine (ah ?_).trans ((OT.aw hon).trans ((ah ?_).trans ((OT.aw hon).trans ((ah ?_).trans ((OT.al (by simp only [decide_true, Bool.not_true])).trans ((OT.aw f1).trans ((OT.aw f1).trans ((ah ?_).trans ((OT.aw hon).trans ((ah ?_).trans ((OT.aw hon).trans ((ah ?_).trans ((OT.al rfl).trans ((OT.al rfl).trans ((ah ?_).trans ((OT.al (by simp only [decide_true, Bool.not_true])).trans ((OT.al ?_).trans ((ah ?_).trans ((OT.al ?_).trans rfl)))))))))))))))))))
  · simp only [List.all_cons, List.all_nil, Bool.and_true, Bool.and_eq_true]
    exact ⟨k2, decide_eq_true ⟨by show O.length ≤ _; omega, hw⟩⟩
  · simp only [List.all_cons, List.all_nil, Bool.and_true, Bool.and_eq_true]
    exact decide_eq_true ⟨by show O.length ≤ _; omega, hw'⟩
  · simp only [List.all_cons, List.all_nil, Bool.and_true, Bool.and_eq_true]
    have lo : decide ((O ++ gJ c (⟨⟨0, 0, 0, 0⟩, ⟨0, 0, 0, 0⟩, true⟩ : af × (af × Bool))).length ≤ 140737488355328) = true := decide_eq_true (by rw [List.length_append]; omega)
    exact ⟨(Bool.and_eq_true _ _).mpr ⟨cB hs, decide_eq_true ⟨rfl, je _ _ _ _⟩⟩, (Bool.and_eq_true _ _).mpr ⟨cB hs, decide_eq_true ⟨rfl, je _ _ _ _⟩⟩, lo, lo, lo⟩
  · simp only [List.all_cons, List.all_nil, Bool.and_true, Bool.and_eq_true]
    exact ⟨k2b, decide_eq_true (by show R.length ≤ _; omega)⟩
  · simp only [List.all_cons, List.all_nil, Bool.and_true, Bool.and_eq_true]
    exact decide_eq_true (by show R.length ≤ _; omega)
  · simp only [List.all_cons, List.all_nil, Bool.and_true, Bool.and_eq_true]
    exact ⟨(Bool.and_eq_true _ _).mpr ⟨cB hs, rfl⟩, (Bool.and_eq_true _ _).mpr ⟨cB hs, rfl⟩⟩
  · simp only [List.all_cons, List.all_nil, Bool.and_true, Bool.and_eq_true]
    have lo : decide ((R ++ gJ c (⟨⟨0, 0, 0, 0⟩, ⟨0, 0, 0, 0⟩, true⟩ : af × (af × Bool))).length ≤ 140737488355328) = true := decide_eq_true (by rw [List.length_append]; omega)
    exact ⟨lo, lo, lo⟩
  · simp only [beq_self_eq_true, Bool.and_self, Bool.not_true]
  · simp only [List.all_cons, List.all_nil, Bool.and_true]
    exact cB hs
  · have e3 : su (pS (cp c 1)) (dA [⟨3, 0, 0, 0⟩]).1 ⟨0, 0, 0, 0⟩ = ofP (pS (cp c 1)) ⟨3, 0, 0, 0⟩ := atm hs
    rw [e3]
    simp only [beq_self_eq_true, Bool.and_self, Bool.not_true]
theorem ahz : aa Try.prog 3 (gD.aE JG Zw) := Vb rp pi nE mg ahA acd _ _ fun x oy hp ho => by
  rw [← ho]
  clear ho
  obtain ⟨⟨c, l, e, a, P, ⟨⟩⟩, ⟨⟩⟩ := x
  show (rr rp pi nE mg c l e a P).run = some ⟨aC, ((true, ()), ())⟩
  by_cases h1 : c < 0
  · exact (OT.aw (decide_eq_true h1)).trans rfl
  · by_cases h2 : 3 < c
    · exact (OT.al (decide_eq_false h1)).trans ((OT.aw (decide_eq_true h2)).trans rfl)
    · by_cases h3 : (40 : Int) < (l.length : Int)
      · exact (OT.al (decide_eq_false h1)).trans ((OT.al (decide_eq_false h2)).trans ((OT.aw (decide_eq_true h3)).trans rfl))
      · by_cases h4 : a < 0
        · exact (OT.al (decide_eq_false h1)).trans ((OT.al (decide_eq_false h2)).trans ((OT.al (decide_eq_false h3)).trans ((OT.aw (decide_eq_true h4)).trans rfl)))
        · by_cases h5 : (l.length : Int) < a
          · exact (OT.al (decide_eq_false h1)).trans ((OT.al (decide_eq_false h2)).trans ((OT.al (decide_eq_false h3)).trans ((OT.al (decide_eq_false h4)).trans ((OT.aw (decide_eq_true h5)).trans rfl))))
          · have hs : aA c = true := by
              simp only [aA, Bool.and_eq_true, decide_eq_true_eq]
              omega
            have hl : l.length ≤ 40 := by omega
            obtain ⟨g1, g2, g3, g4, g5, g6⟩ := JR c l e a (d := bn) (d' := bn) rfl rfl (l.length + 1)
            obtain ⟨r1, r2⟩ := Fi c l (l.length + 1)
            have g1 : (uj c l e a bn bn).1 = (uj c l e a bn bn).2.1 := g1
            have g2 : (uj c l e a bn bn).1.length ≤ 32 * (l.length + 1) := g2
            have r1 : (Wr c l).1 = (Wr c l).2 := r1
            have r2 : (Wr c l).1.length ≤ 32 * (l.length + 1) := r2
            have k2 : ∀ P : B9, rp ((c, l, a, (), (), 0, (), (), 0, ()), (lst e, P, (c, (), (), ()), (c, (), (), ()), (cp c 1, (), ()), [], (cp c 1, (), ()), [], bn, bn, [], [], ())) = true := fun P =>
              (Bool.and_eq_true _ _).mpr ⟨hs, decide_eq_true ⟨rfl, hl, rfl, rfl, rfl, rfl, rfl, rfl, rfl, rfl, rfl⟩⟩
            have k2b : ∀ P : B9, nE ((c, l, a, (), (), 0 + 1, (), (), 0, ()), (lst e, P, (c, (), (), ()), (c, (), (), ()), (cp c 1, [⟨3, 0, 0, 0⟩], ()), [], (cp c 1, [⟨3, 0, 0, 0⟩], ()), [], ())) = true := fun P =>
              (Bool.and_eq_true _ _).mpr ⟨hs, decide_eq_true ⟨rfl, hl, rfl, rfl, rfl, rfl, rfl⟩⟩
            have e2 : ∀ P : B9, (pi ((c, l, a, (), (), 0, (), (), 0, ()), (lst e, P, (c, (), (), ()), (c, (), (), ()), (cp c 1, (), ()), [], (cp c 1, (), ()), [], bn, bn, [], [], ()))).2 =
                (lst e, P, (c, (), (), ()), (c, (), (), ()), (cp c 1, (), ()), (uj c l e a bn bn).1, (cp c 1, (), ()), (uj c l e a bn bn).1, (uj c l e a bn bn).2.2.1.1, (uj c l e a bn bn).2.2.2.1, (uj c l e a bn bn).2.2.1.2, (uj c l e a bn bn).2.2.2.2, ()) := fun P => by
              unfold pi
              dsimp only
              rw [show elemOf (lst e) = e from rfl, ← g1]
            have e2b : ∀ P : B9, (mg ((c, l, a, (), (), 0 + 1, (), (), 0, ()), (lst e, P, (c, (), (), ()), (c, (), (), ()), (cp c 1, [⟨3, 0, 0, 0⟩], ()), [], (cp c 1, [⟨3, 0, 0, 0⟩], ()), [], ()))).2 =
                (lst e, P, (c, (), (), ()), (c, (), (), ()), (cp c 1, [⟨3, 0, 0, 0⟩], ()), (Wr c l).1, (cp c 1, [⟨3, 0, 0, 0⟩], ()), (Wr c l).1, ()) := fun P => by
              unfold mg
              dsimp only
              rw [← r1]
            rcases (Bool.eq_false_or_eq_true (onB c P)).symm with hP | hP
            · exact Qq hs hl (by omega) (by omega) hP g3 g4 g5 g6 (by omega) (by omega) (k2 _) (e2 _) (k2b _) (e2b _)
            · exact Vc hs hl (by omega) (by omega) hP g3 g4 g5 g6 (by omega) (by omega) (k2 _) (e2 _) (k2b _) (e2b _)
def tQ : bL := (gD.aE JG Zw)
theorem Qp : aa Try.prog 3 tQ := ahz
theorem Qo : aB tQ := ax
def se : Env := av 3 tQ uy
theorem n7 : aN Try.prog se := ag Qp mI
theorem xM : aq se := ab Qo BP
theorem B5 : aU Try.prog te se := aG follows ak n7 xM
def dM : ao := ⟨[.val true .elem, .val true .elem], [], true, 0, false⟩
abbrev ri : Type := ((af) × (af) × Unit) × (Unit)
def mc : Shape := ⟨24, [(2, .ptr 0 0 0), (3, .ptr 1 0 0), (5, .val false .int)], [(0, .row .u64), (1, .row .u64)], 0, true⟩
abbrev aQ : Type := ((Unit) × (Unit) × (Int) × Unit) × ((List (UInt64)) × (List (UInt64)) × Unit)
def iF : Shape := ⟨24, [(4, .val false .bool)], [], 0, true⟩
abbrev gy : Type := ((Bool) × Unit) × (Unit)
def kU : Shape := ⟨24, [], [], 0, true⟩
abbrev gz : Type := (Unit) × (Unit)
def Jp : SE → Option Shape := iX [(0, kU)] (some iF)
def abV (a5 : Int) (c0 : List (UInt64)) (c1 : List (UInt64)) : OT (Sum aQ aJ) :=
  let z0 : Bool := inB a5 4
  let z1 : Bool := decide (Int.toNat a5 + 0 < List.length c0)
  let z2 : Bool := decide (Int.toNat a5 + 0 < List.length c1)
  let z3 : UInt64 := List.getD c0 (Int.toNat a5 + 0) (0 : UInt64)
  let z4 : UInt64 := List.getD c1 (Int.toNat a5 + 0) (0 : UInt64)
  (.br (decide ((0 : Int) ≤ a5))
  (gd [z0, z1, z0, z2] (.br (!z3 == z4)
    (gd [z0, z1, z0, z2] (.ok (.inr ⟨(.ret, iF), ((decide (z3 < z4), ()), ())⟩)))
    (gd [inR (a5 - (1 : Int))] (.ok (.inl (((), ((), (a5 - (1 : Int), ()))), (c0, (c1, ()))))))))
  (.ok (.inr ⟨(.exit 0, kU), ((), ())⟩)))
def fg (s : aQ) : OT (Sum aQ aJ) := abV (s.1.2.2.1) (s.2.1) (s.2.2.1)
theorem abS (s : aQ) (Q : Sum aQ aJ → Prop) : wps te se au 1000 (bq (aj Try.f84) 0) (mc.inj s) (cE mc Jp (Q : Sum mc.T aJ → Prop)) = (fg s).wpR Q := by kernel_rfl
def md (g0_r : aQ → gy) (c0_r : aQ → Bool) (g0_0 : aQ → gz) (s : aQ) : OT aJ := (.br (c0_r s) (.ok ⟨(.ret, iF), g0_r s⟩) (.ok ⟨(.exit 0, kU), g0_0 s⟩))
def js : ar := ⟨[.val false .bool], [], false⟩
def EF : SV → Option ar := fun _ => some js
def EI (ok0 : aQ → Bool) (g0_r : aQ → gy) (c0_r : aQ → Bool) (g0_0 : aQ → gz) (a0 : af) (a1 : af) : OT dM.Y :=
  let z0 : (PUnit × PUnit × Int × PUnit) × List UInt64 × List UInt64 × PUnit := (((), (), (3 : Int), ()), [a0.w0, a0.w1, a0.w2, a0.w3], [a1.w0, a1.w1, a1.w2, a1.w3], ())
  (gd [ok0 z0] (.br (c0_r z0)
  (.ok ⟨js, (((g0_r z0).fst.fst, ()), ())⟩)
  (.ok ⟨js, ((false, ()), ())⟩)))
theorem ag6 (ok0 : aQ → Bool) (g0_r : aQ → gy) (c0_r : aQ → Bool) (g0_0 : aQ → gz) (x : ri) (Q : dM.Y → Prop) : wpf te se (bj 0 (cS mc 0 ok0 (md g0_r c0_r g0_0)) au) 1000 Try.f84 (dM.inp.inj x).tm (dM.inp.inj x).hp (fnK dM EF Q) (fun _ _ => False) = (EI ok0 g0_r c0_r g0_0 (x.1.1) (x.1.2.1)).wpR Q := by kernel_rfl
theorem P6 (ok0 : aQ → Bool) (g0_r : aQ → gy) (c0_r : aQ → Bool) (g0_0 : aQ → gz) (h0 : ∀ s : aQ, ok0 s = true → ∃ m e, ay (fg) m s = some e ∧ (md g0_r c0_r g0_0 s).run = some e) (pre : ri → Bool) (F : ri → OT dM.Y) (hF : ∀ (x : ri) oy, pre x = true → (F x).run = some oy → (EI ok0 g0_r c0_r g0_0 (x.1.1) (x.1.2.1)).run = some oy) : aa Try.prog 84 (dM.aE pre F) :=
  az ak n7 B5 (f := 84) (fn := Try.f84) (c := aj Try.f84) (by kernel_rfl) (by kernel_rfl) (by kernel_rfl) (S := dM) (k := 0) (by kernel_rfl) (fun R hR => (aH (c := (aj Try.f84)) (by kernel_rfl) (id := 0) (by kernel_rfl) (bg ak n7 B5 (sh := mc) hR (xs := Jp) (aF (by kernel_rfl) (by kernel_rfl) hR) aS ae (n := 1000) (T := fg) (fun s Q => abS s Q) (ok := ok0) (f := md g0_r c0_r g0_0) h0) ae)) (n := 1000) (sel := EF) (fun v o h => by cases h; rfl) (pre := pre) (F := F) (T := fun x => EI ok0 g0_r c0_r g0_0 (x.1.1) (x.1.2.1)) (fun x Q => ag6 ok0 g0_r c0_r g0_0 x Q) hF
def gW (a b : af) (i : Int) : aQ := (((), (), i, ()), (lst a, lst b, ()))
theorem CN (a b : af) (k : Nat) (hk : k < 4) (h : (lst a).getD k 0 = (lst b).getD k 0) : (fg (gW a b (k : Int))).run = some (.inl (gW a b ((k : Int) - 1))) := by
  refine (OT.aw (decide_eq_true (by dsimp only [gW]; omega))).trans ((ah ?_).trans ((OT.al ?_).trans ((ah ?_).trans rfl)))
  · simp only [gW, Int.toNat_natCast, Nat.add_zero, dl, List.all_cons, List.all_nil, Bool.and_true, Bool.and_eq_true]
    exact ⟨aI (by omega), decide_eq_true hk, aI (by omega), decide_eq_true hk⟩
  · simp only [gW, Int.toNat_natCast, Nat.add_zero, h, beq_self_eq_true, Bool.not_true]
  · simp only [gW, List.all_cons, List.all_nil, Bool.and_true]
    exact aK (by omega)
theorem rj (a b : af) (k : Nat) (hk : k < 4) (h : ¬ (lst a).getD k 0 = (lst b).getD k 0) : (fg (gW a b (k : Int))).run = some (.inr ⟨(.ret, iF), ((decide ((lst a).getD k 0 < (lst b).getD k 0), ()), ())⟩) := by
  refine (OT.aw (decide_eq_true (by dsimp only [gW]; omega))).trans ((ah ?_).trans ((OT.aw ?_).trans ((ah ?_).trans ?_)))
  · simp only [gW, Int.toNat_natCast, Nat.add_zero, dl, List.all_cons, List.all_nil, Bool.and_true, Bool.and_eq_true]
    exact ⟨aI (by omega), decide_eq_true hk, aI (by omega), decide_eq_true hk⟩
  · simp only [gW, Int.toNat_natCast, Nat.add_zero, beq_eq_false_iff_ne.2 h, Bool.not_false]
  · simp only [gW, Int.toNat_natCast, Nat.add_zero, dl, List.all_cons, List.all_nil, Bool.and_true, Bool.and_eq_true]
    exact ⟨aI (by omega), decide_eq_true hk, aI (by omega), decide_eq_true hk⟩
  · simp only [gW, Int.toNat_natCast, Nat.add_zero]
    rfl
def EH (s : aQ) : Bool := decide (s.1.2.2.1 = 3 ∧ s.2.1.length = 4 ∧ s.2.2.1.length = 4)
def zu (s : aQ) : gy := ((Nat.blt (elemOf s.2.1).nat (elemOf s.2.2.1).nat, ()), ())
def j8 (s : aQ) : Bool := !eqE (elemOf s.2.1) (elemOf s.2.2.1)
def zw (_ : aQ) : gz := ((), ())
theorem Mj {a b : af} (h : ¬ a = b) {r : Bool} (hr : r = Nat.blt a.nat b.nat) (hm : ∃ m, ay fg m (gW a b 3) = some ⟨(.ret, iF), ((r, ()), ())⟩) :
    ∃ m e, ay fg m (gW a b 3) = some e ∧ (md zu j8 zw (gW a b 3)).run = some e := by
  obtain ⟨m, hm⟩ := hm
  refine ⟨m, _, hm, ?_⟩
  have hc : j8 (gW a b 3) = true := by
    show (!eqE a b) = true
    rw [Bool.eq_false_iff.2 fun e => h (tZ.1 e)]
    rfl
  subst hr
  exact OT.aw hc
theorem abU : ∀ s : aQ, EH s = true → ∃ m e, ay fg m s = some e ∧ (md zu j8 zw s).run = some e := by
  rintro ⟨⟨⟨⟩, ⟨⟩, i, ⟨⟩⟩, ⟨l1, l2, ⟨⟩⟩⟩ h
  have h' := of_decide_eq_true h
  dsimp only at h'
  obtain ⟨rfl, h1, h2⟩ := h'
  obtain ⟨a, rfl⟩ : ∃ a, l1 = lst a := ⟨elemOf l1, (bR h1).symm⟩
  obtain ⟨b, rfl⟩ : ∃ a, l2 = lst a := ⟨elemOf l2, (bR h2).symm⟩
  have ha0 := a.w0.toNat_lt
  have hb0 := b.w0.toNat_lt
  have ha1 := a.w1.toNat_lt
  have hb1 := b.w1.toNat_lt
  have ha2 := a.w2.toNat_lt
  have hb2 := b.w2.toNat_lt
  by_cases h3 : a.w3 = b.w3
  · have s3 := CN a b 3 (by omega) h3
    by_cases h2 : a.w2 = b.w2
    · have s2 := CN a b 2 (by omega) h2
      by_cases h1 : a.w1 = b.w1
      · have s1 := CN a b 1 (by omega) h1
        by_cases h0 : a.w0 = b.w0
        · have s0 := CN a b 0 (by omega) h0
          have e : a = b := by cases a; cases b; simp_all
          have sx : (fg (gW a b (((0 : Nat) : Int) - 1))).run = some (.inr ⟨(.exit 0, kU), ((), ())⟩) := OT.al (decide_eq_false (by dsimp only [gW]; omega))
          refine ⟨_, _, aV s3 (aV s2 (aV s1 (aV s0 (bN sx)))), ?_⟩
          have hc : j8 (((), (), 3, ()), (lst a, lst b, ())) = false := by
            show (!eqE a b) = false
            rw [e, ZZ]
            rfl
          exact OT.al hc
        · refine Mj (fun e => h0 (by rw [e])) (p9 ?_) ⟨_, aV s3 (aV s2 (aV s1 (bN (rj a b 0 (by omega) h0))))⟩
          show a.nat < b.nat ↔ a.w0.toNat < b.w0.toNat
          unfold Sx.af.nat
          rw [h3, h2, h1]
          exact JB.1
      · refine Mj (fun e => h1 (by rw [e])) (p9 ?_) ⟨_, aV s3 (aV s2 (bN (rj a b 1 (by omega) h1)))⟩
        show a.nat < b.nat ↔ a.w1.toNat < b.w1.toNat
        unfold Sx.af.nat
        rw [h3, h2]
        have k := JB (x := a.w1.toNat) (y := b.w1.toNat) (N := b.w2.toNat + 18446744073709551616 * b.w3.toNat)
        exact (oe ha0 hb0 (k.2 (zC h1))).1.trans k.1
    · refine Mj (fun e => h2 (by rw [e])) (p9 ?_) ⟨_, aV s3 (bN (rj a b 2 (by omega) h2))⟩
      show a.nat < b.nat ↔ a.w2.toNat < b.w2.toNat
      unfold Sx.af.nat
      rw [h3]
      have k := JB (x := a.w2.toNat) (y := b.w2.toNat) (N := b.w3.toNat)
      have k1 := oe ha1 hb1 (k.2 (zC h2))
      exact (oe ha0 hb0 k1.2).1.trans (k1.1.trans k.1)
  · refine Mj (fun e => h3 (by rw [e])) (p9 ?_) ⟨_, bN (rj a b 3 (by omega) h3)⟩
    show a.nat < b.nat ↔ a.w3.toNat < b.w3.toNat
    unfold Sx.af.nat
    have k2 := oe ha2 hb2 (zC h3)
    have k1 := oe ha1 hb1 k2.2
    exact (oe ha0 hb0 k1.2).1.trans (k1.1.trans k2.1)
def EG (_ : ri) : Bool := true
def P7 (x : ri) : OT dM.Y := .ok ⟨js, ((Nat.blt x.1.1.nat x.1.2.1.nat, ()), ())⟩
theorem abT : aa Try.prog 84 (dM.aE EG P7) := P6 EH zu j8 zw abU _ _ fun x oy _ ho => by
  rw [← ho]
  clear ho
  obtain ⟨⟨a, b, ⟨⟩⟩, ⟨⟩⟩ := x
  refine (ah ?_).trans ?_
  · simp only [List.all_cons, List.all_nil, Bool.and_true]
    exact decide_eq_true ⟨rfl, rfl, rfl⟩
  · rcases (Bool.eq_false_or_eq_true (eqE a b)).symm with h | h
    · have hc : j8 (((), (), 3, ()), (lst a, lst b, ())) = true := by
        show (!eqE a b) = true
        rw [h]
        rfl
      exact OT.aw hc
    · have hc : j8 (((), (), 3, ()), (lst a, lst b, ())) = false := by
        show (!eqE a b) = false
        rw [h]
        rfl
      refine (OT.al hc).trans ?_
      have e : Nat.blt a.nat b.nat = false := by
        rw [tZ.1 h]
        cases hb : Nat.blt b.nat b.nat
        · rfl
        · exact absurd (dB hb) (Nat.lt_irrefl _)
      show (OT.ok ⟨js, ((false, ()), ())⟩ : OT dM.Y).run = (OT.ok ⟨js, ((Nat.blt a.nat b.nat, ()), ())⟩ : OT dM.Y).run
      rw [e]
def o9 : bL := (dM.aE EG P7)
theorem Mi : aa Try.prog 84 o9 := abT
theorem Mh : aB o9 := ax
def mQ : Env := av 84 o9 se
theorem lp : aN Try.prog mQ := ag Mi n7
theorem sW : aq mQ := ab Mh xM
theorem xL : aU Try.prog te mQ := aG follows ak lp sW
def eL : ao := ⟨[.val true .elem, .val true .elem], [], true, 0, false⟩
abbrev rh : Type := ((af) × (af) × Unit) × (Unit)
def l9 : Shape := ⟨41, [(2, .ptr 0 0 0), (3, .ptr 1 0 0), (4, .ptr 2 0 0), (5, .ptr 3 0 0), (6, .val false .u64), (7, .val false .int)], [(0, .row .u64), (1, .row .u64), (2, .row .u64), (3, .row .u64)], 0, true⟩
abbrev bx : Type := ((Unit) × (Unit) × (Unit) × (Unit) × (UInt64) × (Int) × Unit) × ((List (UInt64)) × (List (UInt64)) × (List (UInt64)) × (List (UInt64)) × Unit)
def kT : Shape := ⟨41, [(4, .ptr 0 0 0), (5, .ptr 1 0 0)], [(0, .row .u64), (1, .row .u64)], 0, true⟩
abbrev gw : Type := ((Unit) × (Unit) × Unit) × ((List (UInt64)) × (List (UInt64)) × Unit)
def Jk : SE → Option Shape := iX [(0, kT)] none
def abR (a6 : UInt64) (a7 : Int) (c0 : List (UInt64)) (c1 : List (UInt64)) (c2 : List (UInt64)) (c3 : List (UInt64)) : OT (Sum bx aJ) :=
  let z0 : Bool := inB a7 4
  let z1 : Bool := decide (Int.toNat a7 + 0 < List.length c0)
  let z2 : Bool := decide (Int.toNat a7 + 0 < List.length c1)
  let z3 : UInt64 := List.getD c0 (Int.toNat a7 + 0) (0 : UInt64)
  let z4 : UInt64 := List.getD c1 (Int.toNat a7 + 0) (0 : UInt64)
  let z5 : Bool := decide (Int.toNat a7 + 0 < List.length c3)
  let z6 : Bool := inR (a7 + (1 : Int))
  let z7 : UInt64 := z3 - z4
  let z8 : List UInt64 := List.set c3 (Int.toNat a7 + 0) (z7 - a6)
  (.br (decide (a7 < (4 : Int)))
  (gd [z0, z1, z0, z2, z0, z1, z0, z2] (.br (decide (z3 < z4))
    (gd [z0, z5, z6] (.ok (.inl (((), ((), ((), ((), ((1 : UInt64), (a7 + (1 : Int), ())))))), (c0, (c1, (c2, (z8, ()))))))))
    (.br (decide (z7 < a6))
      (gd [z0, z5, z6] (.ok (.inl (((), ((), ((), ((), ((1 : UInt64), (a7 + (1 : Int), ())))))), (c0, (c1, (c2, (z8, ()))))))))
      (gd [z0, z5, z6] (.ok (.inl (((), ((), ((), ((), ((0 : UInt64), (a7 + (1 : Int), ())))))), (c0, (c1, (c2, (z8, ())))))))))))
  (.ok (.inr ⟨(.exit 0, kT), (((), ((), ())), (c2, (c3, ())))⟩)))
def ma (s : bx) : OT (Sum bx aJ) := abR (s.1.2.2.2.2.1) (s.1.2.2.2.2.2.1) (s.2.1) (s.2.2.1) (s.2.2.2.1) (s.2.2.2.2.1)
theorem abO (s : bx) (Q : Sum bx aJ → Prop) : wps te mQ au 1000 (bq (aj Try.f85) 0) (l9.inj s) (cE l9 Jk (Q : Sum l9.T aJ → Prop)) = (ma s).wpR Q := by kernel_rfl
def rg (g0_0 : bx → gw) (s : bx) : OT aJ := (.ok ⟨(.exit 0, kT), g0_0 s⟩)
def zr : ar := ⟨[.val true .elem], [], false⟩
def Ez : SV → Option ar := fun _ => some zr
def EC (ok0 : bx → Bool) (g0_0 : bx → gw) (a0 : af) (a1 : af) : OT eL.Y :=
  let z0 : (PUnit × PUnit × PUnit × PUnit × UInt64 × Int × PUnit) × List UInt64 × List UInt64 × List UInt64 × List UInt64 × PUnit := (((), (), (), (), (0 : UInt64), (0 : Int), ()), [a0.w0, a0.w1, a0.w2, a0.w3], [a1.w0, a1.w1, a1.w2, a1.w3], [(0 : UInt64), (0 : UInt64), (0 : UInt64), (0 : UInt64)], [(0 : UInt64), (0 : UInt64), (0 : UInt64), (0 : UInt64)], ())
  let z1 := (g0_0 z0).snd
  let z2 := z1.snd.fst
  let z3 := z1.fst
  let z4 : List UInt64 := lay z3 z2 4 (0 : UInt64)
  (gd [ok0 z0, decide (4 ≤ List.length z2), decide ((4 / 1 : Nat) + 0 ≤ List.length z3), decide (4 ≤ List.length z4)] (.ok ⟨zr, (({ w0 := List.getD z4 0 0, w1 := List.getD z4 1 0, w2 := List.getD z4 2 0, w3 := List.getD z4 3 0 }, ()), ())⟩))
theorem ag1 (ok0 : bx → Bool) (g0_0 : bx → gw) (x : rh) (Q : eL.Y → Prop) : wpf te mQ (bj 0 (cS l9 0 ok0 (rg g0_0)) au) 1000 Try.f85 (eL.inp.inj x).tm (eL.inp.inj x).hp (fnK eL Ez Q) (fun _ _ => False) = (EC ok0 g0_0 (x.1.1) (x.1.2.1)).wpR Q := by kernel_rfl
theorem P1 (ok0 : bx → Bool) (g0_0 : bx → gw) (h0 : ∀ s : bx, ok0 s = true → ∃ m e, ay (ma) m s = some e ∧ (rg g0_0 s).run = some e) (pre : rh → Bool) (F : rh → OT eL.Y) (hF : ∀ (x : rh) oy, pre x = true → (F x).run = some oy → (EC ok0 g0_0 (x.1.1) (x.1.2.1)).run = some oy) : aa Try.prog 85 (eL.aE pre F) :=
  az ak lp xL (f := 85) (fn := Try.f85) (c := aj Try.f85) (by kernel_rfl) (by kernel_rfl) (by kernel_rfl) (S := eL) (k := 0) (by kernel_rfl) (fun R hR => (aH (c := (aj Try.f85)) (by kernel_rfl) (id := 0) (by kernel_rfl) (bg ak lp xL (sh := l9) hR (xs := Jk) (aF (by kernel_rfl) (by kernel_rfl) hR) aS ae (n := 1000) (T := ma) (fun s Q => abO s Q) (ok := ok0) (f := rg g0_0) h0) ae)) (n := 1000) (sel := Ez) (fun v o h => by cases h; rfl) (pre := pre) (F := F) (T := fun x => EC ok0 g0_0 (x.1.1) (x.1.2.1)) (fun x Q => ag1 ok0 g0_0 x Q) hF
def EB (s : bx) : Bool := decide (s.1.2.2.2.2.1 = 0 ∧ s.1.2.2.2.2.2.1 = 0 ∧ s.2.1.length = 4 ∧ s.2.2.1.length = 4 ∧ s.2.2.2.2.1 = [0, 0, 0, 0])
def Jl (s : bx) : gw := (((), (), ()), (s.2.2.2.1, (upto (sn s.2.1 s.2.2.1) ([0, 0, 0, 0], 0) 4).1, ()))
theorem abQ : ∀ s : bx, EB s = true → ∃ m e, ay ma m s = some e ∧ (rg Jl s).run = some e := by
  rintro ⟨⟨⟨⟩, ⟨⟩, ⟨⟩, ⟨⟩, c, i, ⟨⟩⟩, ⟨c0, c1, c2, c3, ⟨⟩⟩⟩ h
  have h' := of_decide_eq_true h
  dsimp only at h'
  obtain ⟨rfl, rfl, h0, h1, rfl⟩ := h'
  have := (aT (T := ma) (fun k s => ((((), (), (), (), s.2, (k : Int), ()), (c0, c1, c2, s.1, ())) : bx)) (sn c0 c1)
    (fun s => (⟨(.exit 0, kT), (((), (), ()), (c2, s.1, ()))⟩ : aJ)) 4 ([0, 0, 0, 0], 0) (fun _ s => s.1.length = 4 ∧ s.2.toNat ≤ 1) ⟨rfl, by decide⟩ (fun k s hk hs => ⟨?_, ?_⟩) (fun s hs => ?_)).1
  · obtain ⟨m, hm⟩ := this
    exact ⟨m, _, hm, rfl⟩
  · obtain ⟨o, c⟩ := s
    dsimp only at hs
    refine (OT.aw (decide_eq_true (by dsimp only; omega))).trans ((ah ?_).trans ?_)
    · simp only [Int.toNat_natCast, Nat.add_zero, h0, h1, hs.1, List.all_cons, List.all_nil, Bool.and_true, Bool.and_eq_true]
      exact ⟨aI (by omega), decide_eq_true (by omega), aI (by omega), decide_eq_true (by omega), aI (by omega), decide_eq_true (by omega), aI (by omega), decide_eq_true (by omega)⟩
    · have hi : ∀ z, (gd [inB (k : Int) 4, decide (Int.toNat (k : Int) + 0 < o.length), inR ((k : Int) + 1)] z : OT (Sum bx aJ)).run = z.run := fun z => ah (by
        simp only [List.all_cons, List.all_nil, Bool.and_true, Bool.and_eq_true, Int.toNat_natCast, Nat.add_zero]
        exact ⟨aI (by omega), decide_eq_true (by omega), aK (by omega)⟩)
      have hw := Jy (x := c0.getD k 0) (y := c1.getD k 0) hs.2
      by_cases hx : c0.getD k 0 < c1.getD k 0
      · have hk1 := Zp (c := c) hx
        refine (OT.aw (decide_eq_true ?_)).trans ((hi _).trans ?_)
        · simp only [Int.toNat_natCast, Nat.add_zero]; exact hx
        · simp only [OT.cn, Int.toNat_natCast, Nat.add_zero, sn, hw, hk1]
          rfl
      · refine (OT.al (decide_eq_false ?_)).trans ?_
        · simp only [Int.toNat_natCast, Nat.add_zero]; exact hx
        · by_cases hd : c0.getD k 0 - c1.getD k 0 < c
          · have hk2 := Zo hx hd
            refine (OT.aw (decide_eq_true ?_)).trans ((hi _).trans ?_)
            · simp only [Int.toNat_natCast, Nat.add_zero]; exact hd
            · simp only [OT.cn, Int.toNat_natCast, Nat.add_zero, sn, hw, hk2]
              rfl
          · have hk3 := Zn hx hd
            refine (OT.al (decide_eq_false ?_)).trans ((hi _).trans ?_)
            · simp only [Int.toNat_natCast, Nat.add_zero]; exact hd
            · simp only [OT.cn, Int.toNat_natCast, Nat.add_zero, sn, hw, hk3]
              rfl
  · exact ⟨by simp only [sn, List.length_set]; exact hs.1, tf⟩
  · exact OT.al (decide_eq_false (by dsimp only; omega))
def EA (_ : rh) : Bool := true
def ED (x : rh) : OT eL.Y := .ok ⟨zr, (((jn x.1.1 x.1.2.1).1, ()), ())⟩
theorem abP : aa Try.prog 85 (eL.aE EA ED) := P1 EB Jl abQ _ _ fun x oy hp ho => by
  rw [← ho]
  clear ho
  obtain ⟨⟨a, b, ⟨⟩⟩, ⟨⟩⟩ := x
  obtain ⟨_, hw⟩ := yw a b
  refine (ah ?_).trans ?_
  · simp only [List.all_cons, List.all_nil, Bool.and_true, Bool.and_eq_true]
    exact ⟨rfl, rfl, rfl, rfl⟩
  · simp only [ED, hw]
    rfl
def o6 : bL := (eL.aE EA ED)
theorem Mf : aa Try.prog 85 o6 := abP
theorem Me : aB o6 := ax
def mP : Env := av 85 o6 mQ
theorem ln : aN Try.prog mP := ag Mf lp
theorem sV : aq mP := ab Me sW
theorem xJ : aU Try.prog te mP := aG follows ak ln sV
def eK : ao := ⟨[.val true .elem], [], true, 0, false⟩
abbrev rb : Type := ((af) × Unit) × (Unit)
def l7 : Shape := ⟨27, [(1, .ptr 0 0 0), (2, .ptr 1 0 0), (4, .ptr 2 0 0), (5, .val false .u64), (6, .val false .int)], [(0, .row .u64), (1, .row .u64), (2, .row .u64)], 0, true⟩
abbrev bE : Type := ((Unit) × (Unit) × (Unit) × (UInt64) × (Int) × Unit) × ((List (UInt64)) × (List (UInt64)) × (List (UInt64)) × Unit)
def kS : Shape := ⟨27, [(2, .ptr 0 0 0), (4, .ptr 1 0 0), (5, .val false .u64)], [(0, .row .u64), (1, .row .u64)], 0, true⟩
abbrev gv : Type := ((Unit) × (Unit) × (UInt64) × Unit) × ((List (UInt64)) × (List (UInt64)) × Unit)
def Jh : SE → Option Shape := iX [(0, kS)] none
def abK (a5 : UInt64) (a6 : Int) (c0 : List (UInt64)) (c1 : List (UInt64)) (c2 : List (UInt64)) : OT (Sum bE aJ) :=
  let z0 : Bool := inB a6 4
  let z1 : Bool := decide (Int.toNat a6 + 0 < List.length c0)
  let z2 : UInt64 := List.getD c0 (Int.toNat a6 + 0) (0 : UInt64)
  (.br (decide (a6 < (4 : Int)))
  (gd [z0, z1, z0, decide (Int.toNat a6 + 0 < List.length c2), z0, z1, inR (a6 + (1 : Int))] (.ok (.inl (((), ((), ((), (aX z2 (63 : Int), (a6 + (1 : Int), ()))))), (c0, (c1, (List.set c2 (Int.toNat a6 + 0) (bH z2 (1 : Int) ||| a5), ())))))))
  (.ok (.inr ⟨(.exit 0, kS), (((), ((), (a5, ()))), (c1, (c2, ())))⟩)))
def l8 (s : bE) : OT (Sum bE aJ) := abK (s.1.2.2.2.1) (s.1.2.2.2.2.1) (s.2.1) (s.2.2.1) (s.2.2.2.1)
theorem abH (s : bE) (Q : Sum bE aJ → Prop) : wps te mP au 1000 (bq (aj Try.f83) 0) (l7.inj s) (cE l7 Jh (Q : Sum l7.T aJ → Prop)) = (l8 s).wpR Q := by kernel_rfl
def ra (g0_0 : bE → gv) (s : bE) : OT aJ := (.ok ⟨(.exit 0, kS), g0_0 s⟩)
def zo : ar := ⟨[.val true .elem, .val false .bool], [], false⟩
def Eu : SV → Option ar := fun _ => some zo
def Ex (ok0 : bE → Bool) (g0_0 : bE → gv) (a0 : af) : OT eK.Y :=
  let z0 : (PUnit × PUnit × PUnit × UInt64 × Int × PUnit) × List UInt64 × List UInt64 × List UInt64 × PUnit := (((), (), (), (0 : UInt64), (0 : Int), ()), [a0.w0, a0.w1, a0.w2, a0.w3], [(0 : UInt64), (0 : UInt64), (0 : UInt64), (0 : UInt64)], [(0 : UInt64), (0 : UInt64), (0 : UInt64), (0 : UInt64)], ())
  let z1 : (PUnit × PUnit × UInt64 × PUnit) × List UInt64 × List UInt64 × PUnit := g0_0 z0
  let z2 := z1.snd
  let z3 := z2.snd.fst
  let z4 := z2.fst
  let z5 : List UInt64 := lay z4 z3 4 (0 : UInt64)
  (gd [ok0 z0, decide (4 ≤ List.length z3), decide ((4 / 1 : Nat) + 0 ≤ List.length z4), decide (4 ≤ List.length z5)] (.ok ⟨zo, (({ w0 := List.getD z5 0 0, w1 := List.getD z5 1 0, w2 := List.getD z5 2 0, w3 := List.getD z5 3 0 }, (z1.fst.snd.snd.fst == (1 : UInt64), ())), ())⟩))
theorem agZ (ok0 : bE → Bool) (g0_0 : bE → gv) (x : rb) (Q : eK.Y → Prop) : wpf te mP (bj 0 (cS l7 0 ok0 (ra g0_0)) au) 1000 Try.f83 (eK.inp.inj x).tm (eK.inp.inj x).hp (fnK eK Eu Q) (fun _ _ => False) = (Ex ok0 g0_0 (x.1.1)).wpR Q := by kernel_rfl
theorem PX (ok0 : bE → Bool) (g0_0 : bE → gv) (h0 : ∀ s : bE, ok0 s = true → ∃ m e, ay (l8) m s = some e ∧ (ra g0_0 s).run = some e) (pre : rb → Bool) (F : rb → OT eK.Y) (hF : ∀ (x : rb) oy, pre x = true → (F x).run = some oy → (Ex ok0 g0_0 (x.1.1)).run = some oy) : aa Try.prog 83 (eK.aE pre F) :=
  az ak ln xJ (f := 83) (fn := Try.f83) (c := aj Try.f83) (by kernel_rfl) (by kernel_rfl) (by kernel_rfl) (S := eK) (k := 0) (by kernel_rfl) (fun R hR => (aH (c := (aj Try.f83)) (by kernel_rfl) (id := 0) (by kernel_rfl) (bg ak ln xJ (sh := l7) hR (xs := Jh) (aF (by kernel_rfl) (by kernel_rfl) hR) aS ae (n := 1000) (T := l8) (fun s Q => abH s Q) (ok := ok0) (f := ra g0_0) h0) ae)) (n := 1000) (sel := Eu) (fun v o h => by cases h; rfl) (pre := pre) (F := F) (T := fun x => Ex ok0 g0_0 (x.1.1)) (fun x Q => agZ ok0 g0_0 x Q) hF
def atH (a : List UInt64) (k : Nat) (s : List UInt64 × UInt64) : List UInt64 × UInt64 := (s.1.set k (bH (a.getD k 0) 1 ||| s.2), aX (a.getD k 0) 63)
def Ew (s : bE) : Bool := decide (s.1.2.2.2.1 = 0 ∧ s.1.2.2.2.2.1 = 0 ∧ s.2.1.length = 4 ∧ s.2.2.2.1 = [0, 0, 0, 0])
def Ji (s : bE) : gv := (((), (), (upto (atH s.2.1) ([0, 0, 0, 0], 0) 4).2, ()), (s.2.2.1, (upto (atH s.2.1) ([0, 0, 0, 0], 0) 4).1, ()))
theorem abJ : ∀ s : bE, Ew s = true → ∃ m e, ay l8 m s = some e ∧ (ra Ji s).run = some e := by
  rintro ⟨⟨⟨⟩, ⟨⟩, ⟨⟩, c, i, ⟨⟩⟩, ⟨a, r, o, ⟨⟩⟩⟩ h
  have h' := of_decide_eq_true h
  dsimp only at h'
  obtain ⟨rfl, rfl, ha, rfl⟩ := h'
  have := (aT (T := l8) (fun k s => ((((), (), (), s.2, (k : Int), ()), (a, r, s.1, ())) : bE)) (atH a)
    (fun s => (⟨(.exit 0, kS), (((), (), s.2, ()), (r, s.1, ()))⟩ : aJ)) 4 ([0, 0, 0, 0], 0) (fun _ s => s.1.length = 4) rfl (fun k s hk hs => ⟨?_, (List.length_set ..).trans hs⟩) (fun s hs => ?_)).1
  · obtain ⟨m, hm⟩ := this
    exact ⟨m, _, hm, rfl⟩
  · refine (OT.aw (decide_eq_true (by dsimp only; omega))).trans ((ah ?_).trans ?_)
    · simp only [Int.toNat_natCast, Nat.add_zero, ha, hs, List.all_cons, List.all_nil, Bool.and_true, Bool.and_eq_true]
      exact ⟨aI (by omega), decide_eq_true (by omega), aI (by omega), decide_eq_true (by omega), aI (by omega), decide_eq_true (by omega), aK (by omega)⟩
    · simp only [OT.cn, Int.toNat_natCast, Nat.add_zero]
      rfl
  · exact OT.al (decide_eq_false (by dsimp only; omega))
theorem ahf (x : UInt64) : x ||| 0 = x := by
  rw [← UInt64.toNat_inj, UInt64.toNat_or]
  exact Nat.or_zero _
def Ev (_ : rb) : Bool := true
def PY (x : rb) : OT eK.Y := .ok ⟨zo, (((aO x.1.1 0).1, ((aO x.1.1 0).2 == 1, ())), ())⟩
theorem abI : aa Try.prog 83 (eK.aE Ev PY) := PX Ew Ji abJ _ _ fun x oy hp ho => by
  rw [← ho]
  clear ho
  obtain ⟨⟨a, ⟨⟩⟩, ⟨⟩⟩ := x
  refine (ah ?_).trans rfl
  simp only [List.all_cons, List.all_nil, Bool.and_true, Bool.and_eq_true]
  exact ⟨rfl, rfl, rfl, rfl⟩
def o5 : bL := (eK.aE Ev PY)
theorem Mb : aa Try.prog 83 o5 := abI
theorem Ma : aB o5 := ax
def mO : Env := av 83 o5 mP
theorem lm : aN Try.prog mO := ag Mb ln
theorem sU : aq mO := ab Ma sV
theorem xI : aU Try.prog te mO := aG follows ak lm sU
def gx : ao := ⟨[.val true .elem], [], true, 0, false⟩
abbrev zt : Type := ((af) × Unit) × (Unit)
def o7 : Shape := ⟨28, [(1, .ptr 0 0 0), (3, .own 1), (4, .val false .int), (5, .val false .u64), (6, .val false .int)], [(0, .row .u64), (1, .row .int)], 0, true⟩
abbrev b6 : Type := ((Unit) × (Unit) × (Int) × (UInt64) × (Int) × Unit) × ((List (UInt64)) × (List (Int)) × Unit)
def nA : Shape := ⟨28, [(1, .ptr 0 0 0), (3, .own 1), (4, .val false .int)], [(0, .row .u64), (1, .row .int)], 0, true⟩
abbrev iE : Type := ((Unit) × (Unit) × (Int) × Unit) × ((List (UInt64)) × (List (Int)) × Unit)
def P2 : SE → Option Shape := iX [(2, nA)] none
def ag5 (a4 : Int) (a5 : UInt64) (a6 : Int) (c0 : List (UInt64)) (c1 : List (Int)) : OT (Sum b6 aJ) :=
  (.br (decide (a6 < (64 : Int)))
  (gd [decide ((List.length c1 + 1) * 8 ≤ 140737488355328), inR (a6 + (1 : Int))] (.ok (.inl (((), ((), (a4, (a5 / (2 : UInt64), (a6 + (1 : Int), ()))))), (c0, (c1 ++ [u2i (a5 % (2 : UInt64))], ()))))))
  (.ok (.inr ⟨(.exit 2, nA), (((), ((), (a4, ()))), (c0, (c1, ())))⟩)))
def o8 (s : b6) : OT (Sum b6 aJ) := ag5 (s.1.2.2.1) (s.1.2.2.2.1) (s.1.2.2.2.2.1) (s.2.1) (s.2.2.1)
theorem ag2 (s : b6) (Q : Sum b6 aJ → Prop) : wps te mO au 1000 (bq (aj Try.f82) 2) (o7.inj s) (cE o7 P2 (Q : Sum o7.T aJ → Prop)) = (o8 s).wpR Q := by kernel_rfl
def vZ (g2_2 : b6 → iE) (s : b6) : OT aJ := (.ok ⟨(.exit 2, nA), (((g2_2 s).1.1, ((g2_2 s).1.2.1, (s.1.2.2.1, ()))), (g2_2 s).2)⟩)
def EE : ar := ⟨[.own 0], [(0, .row .int)], false⟩
def Jm : SV → Option ar := fun _ => some EE
def Mg (ok2 : b6 → Bool) (g2_2 : b6 → iE) (a0 : af) : OT gx.Y :=
  let z0 : Int × PUnit := ((0 : Int), ())
  let z1 : (PUnit × PUnit × Int × UInt64 × Int × PUnit) × List UInt64 × List Int × PUnit := (((), (), (0 : Int), a0.w0, z0), [a0.w0, a0.w1, a0.w2, a0.w3], [], ())
  let z2 := (g2_2 z1).snd
  let z3 := z2.fst
  let z4 : (PUnit × PUnit × Int × UInt64 × Int × PUnit) × List UInt64 × List Int × PUnit := (((), (), (0 : Int) + (1 : Int), List.getD z3 (Int.toNat ((0 : Int) + (1 : Int)) + 0) (0 : UInt64), z0), z3, z2.snd.fst, ())
  let z5 := (g2_2 z4).snd
  let z6 := z5.fst
  let z7 : (PUnit × PUnit × Int × UInt64 × Int × PUnit) × List UInt64 × List Int × PUnit := (((), (), (0 : Int) + (1 : Int) + (1 : Int), List.getD z6 (Int.toNat ((0 : Int) + (1 : Int) + (1 : Int)) + 0) (0 : UInt64), z0), z6, z5.snd.fst, ())
  let z8 := (g2_2 z7).snd
  let z9 := z8.fst
  let z10 : (PUnit × PUnit × Int × UInt64 × Int × PUnit) × List UInt64 × List Int × PUnit := (((), (), (0 : Int) + (1 : Int) + (1 : Int) + (1 : Int), List.getD z9 (Int.toNat ((0 : Int) + (1 : Int) + (1 : Int) + (1 : Int)) + 0) (0 : UInt64), z0), z9, z8.snd.fst, ())
  (gd [ok2 z1, decide (Int.toNat ((0 : Int) + (1 : Int)) + 0 < List.length z3), ok2 z4, decide (Int.toNat ((0 : Int) + (1 : Int) + (1 : Int)) + 0 < List.length z6), ok2 z7, decide (Int.toNat ((0 : Int) + (1 : Int) + (1 : Int) + (1 : Int)) + 0 < List.length z9), ok2 z10] (.ok ⟨EE, (((), ()), ((g2_2 z10).snd.snd.fst, ()))⟩))
theorem amh (ok2 : b6 → Bool) (g2_2 : b6 → iE) (x : zt) (Q : gx.Y → Prop) : wpf te mO (bj 2 (cS o7 2 ok2 (vZ g2_2)) au) 1000 Try.f82 (gx.inp.inj x).tm (gx.inp.inj x).hp (fnK gx Jm Q) (fun _ _ => False) = (Mg ok2 g2_2 (x.1.1)).wpR Q := by kernel_rfl
theorem UY (ok2 : b6 → Bool) (g2_2 : b6 → iE) (h2 : ∀ s : b6, ok2 s = true → ∃ m e, ay (o8) m s = some e ∧ (vZ g2_2 s).run = some e) (pre : zt → Bool) (F : zt → OT gx.Y) (hF : ∀ (x : zt) oy, pre x = true → (F x).run = some oy → (Mg ok2 g2_2 (x.1.1)).run = some oy) : aa Try.prog 82 (gx.aE pre F) :=
  az ak lm xI (f := 82) (fn := Try.f82) (c := aj Try.f82) (by kernel_rfl) (by kernel_rfl) (by kernel_rfl) (S := gx) (k := 0) (by kernel_rfl) (fun R hR => (aH (c := (aj Try.f82)) (by kernel_rfl) (id := 2) (by kernel_rfl) (bg ak lm xI (sh := o7) hR (xs := P2) (aF (by kernel_rfl) (by kernel_rfl) hR) aS ae (n := 1000) (T := o8) (fun s Q => ag2 s Q) (ok := ok2) (f := vZ g2_2) h2) ae)) (n := 1000) (sel := Jm) (fun v o h => by cases h; rfl) (pre := pre) (F := F) (T := fun x => Mg ok2 g2_2 (x.1.1)) (fun x Q => amh ok2 g2_2 x Q) hF
def adt (_ : Nat) (q : List Int × UInt64) : List Int × UInt64 := (q.1 ++ [u2i (q.2 % 2)], q.2 / 2)
def fQ (v : UInt64) (n : Nat) : List Int := (List.range n).map fun j => ((v.toNat / 2 ^ j % 2 : Nat) : Int)
theorem cN (v : UInt64) (n : Nat) : (fQ v n).length = n := by rw [fQ, List.length_map, List.length_range]
theorem aqW (x : UInt64) : u2i (x % 2) = ((x.toNat % 2 : Nat) : Int) := by
  have e : (x % 2).toNat = x.toNat % 2 := by rw [UInt64.toNat_mod]; rfl
  unfold u2i
  rw [e]
  rcases Nat.mod_two_eq_zero_or_one x.toNat with h | h <;> rw [h] <;> rfl
theorem RY (o : List Int) (v : UInt64) : ∀ n, (upto adt (o, v) n).1 = o ++ fQ v n ∧ (upto adt (o, v) n).2.toNat = v.toNat / 2 ^ n
  | 0 => ⟨(List.append_nil o).symm, by show v.toNat = _; rw [Nat.pow_zero, Nat.div_one]⟩
  | n + 1 => by
    obtain ⟨h1, h2⟩ := RY o v n
    refine ⟨?_, ?_⟩
    · show (upto adt (o, v) n).1 ++ [u2i ((upto adt (o, v) n).2 % 2)] = _
      rw [aqW, h1, h2, List.append_assoc]
      unfold fQ
      rw [List.range_succ, List.map_append]
      rfl
    · show ((upto adt (o, v) n).2 / 2).toNat = _
      rw [UInt64.toNat_div, h2, Nat.pow_succ, ← Nat.div_div_eq_div_mul]
      rfl
def Jo (s : b6) : Bool := decide (s.1.2.2.2.2.1 = 0 ∧ s.2.2.1.length ≤ 1000)
def P5 (s : b6) : iE := (((), (), s.1.2.2.1, ()), (s.2.1, s.2.2.1 ++ fQ s.1.2.2.2.1 64, ()))
theorem ag4 : ∀ s : b6, Jo s = true → ∃ m e, ay o8 m s = some e ∧ (vZ P5 s).run = some e := by
  rintro ⟨⟨⟨⟩, ⟨⟩, i, v, j, ⟨⟩⟩, ⟨a, o, ⟨⟩⟩⟩ h
  have h' := of_decide_eq_true h
  dsimp only at h'
  obtain ⟨rfl, ho⟩ := h'
  have := (aT (T := o8) (fun k q => ((((), (), i, q.2, (k : Int), ()), (a, q.1, ())) : b6)) adt
    (fun q => (⟨(.exit 2, nA), (((), (), i, ()), (a, q.1, ()))⟩ : aJ)) 64 (o, v) (fun k q => q.1.length = o.length + k) rfl (fun k q hk hq => ⟨?_, ?_⟩) (fun q _ => ?_)).1
  · obtain ⟨m, hm⟩ := this
    rw [(RY o v 64).1] at hm
    exact ⟨m, _, hm, rfl⟩
  · have hq : q.1.length = o.length + k := hq
    refine (OT.aw (decide_eq_true (by dsimp only; omega))).trans ((ah ?_).trans rfl)
    simp only [List.all_cons, List.all_nil, Bool.and_true, Bool.and_eq_true]
    exact ⟨decide_eq_true (by omega), aK (by omega)⟩
  · show (q.1 ++ [u2i (q.2 % 2)]).length = _
    rw [List.length_append, show q.1.length = o.length + k from hq]
    rfl
  · exact OT.al (decide_eq_false (by dsimp only; omega))
def mC (a : af) : List Int := [] ++ fQ a.w0 64 ++ fQ a.w1 64 ++ fQ a.w2 64 ++ fQ a.w3 64
def Jn (_ : zt) : Bool := true
def Zc (x : zt) : OT gx.Y := .ok ⟨EE, (((), ()), (mC x.1.1, ()))⟩
theorem ag3 : aa Try.prog 82 (gx.aE Jn Zc) := UY Jo P5 ag4 _ _ fun x oy hp ho => by
  rw [← ho]
  clear ho
  obtain ⟨⟨a, ⟨⟩⟩, ⟨⟩⟩ := x
  have l1 : ([] ++ fQ a.w0 64).length = 64 := by rw [List.nil_append, cN]
  have l2 : ([] ++ fQ a.w0 64 ++ fQ a.w1 64).length = 128 := by rw [List.length_append, l1, cN]
  have l3 : ([] ++ fQ a.w0 64 ++ fQ a.w1 64 ++ fQ a.w2 64).length = 192 := by rw [List.length_append, l2, cN]
  refine (ah ?_).trans rfl
  simp only [List.all_cons, List.all_nil, Bool.and_true, Bool.and_eq_true]
  exact ⟨rfl, rfl, decide_eq_true ⟨rfl, by show ([] ++ fQ a.w0 64).length ≤ _; omega⟩, rfl, decide_eq_true ⟨rfl, by show ([] ++ fQ a.w0 64 ++ fQ a.w1 64).length ≤ _; omega⟩, rfl, decide_eq_true ⟨rfl, by show ([] ++ fQ a.w0 64 ++ fQ a.w1 64 ++ fQ a.w2 64).length ≤ _; omega⟩⟩
theorem pv {α : Type} (d : α) (x y : List α) (i : Nat) : (i < x.length → (x ++ y).getD i d = x.getD i d) ∧ (x.length ≤ i → (x ++ y).getD i d = y.getD (i - x.length) d) := by
  refine ⟨fun h => ?_, fun h => ?_⟩
  · rw [List.getD_eq_getElem?_getD, List.getD_eq_getElem?_getD, List.getElem?_append_left h]
  · rw [List.getD_eq_getElem?_getD, List.getD_eq_getElem?_getD, List.getElem?_append_right h]
theorem uX (v : UInt64) {j : Nat} (h : j < 64) : (fQ v 64).getD j 0 = ((v.toNat / 2 ^ j % 2 : Nat) : Int) := by
  unfold fQ
  rw [List.getD_eq_getElem?_getD, List.getElem?_map, List.getElem?_range h]
  rfl
theorem qa (a : af) : (mC a).length = 256 := by
  unfold mC
  rw [List.length_append, List.length_append, List.length_append, List.length_append, cN, cN, cN, cN]
  rfl
theorem ajp (a : af) {i : Nat} (h : i < 256) : (mC a).getD i 0 = ((a.nat / 2 ^ i % 2 : Nat) : Int) := by
  have l1 : ([] ++ fQ a.w0 64).length = 64 := by rw [List.nil_append, cN]
  have l2 : ([] ++ fQ a.w0 64 ++ fQ a.w1 64).length = 128 := by rw [List.length_append, l1, cN]
  have l3 : ([] ++ fQ a.w0 64 ++ fQ a.w1 64 ++ fQ a.w2 64).length = 192 := by rw [List.length_append, l2, cN]
  unfold mC
  by_cases h3 : 192 ≤ i
  · rw [(pv ..).2 (by omega), l3, uX _ (by omega)]
    have := rL (a := a) (q := 3) (r := i - 192) (by omega) (by omega)
    rw [show 64 * 3 + (i - 192) = i by omega] at this
    rw [← this]
    rfl
  · rw [(pv ..).1 (by omega)]
    by_cases h2 : 128 ≤ i
    · rw [(pv ..).2 (by omega), l2, uX _ (by omega)]
      have := rL (a := a) (q := 2) (r := i - 128) (by omega) (by omega)
      rw [show 64 * 2 + (i - 128) = i by omega] at this
      rw [← this]
      rfl
    · rw [(pv ..).1 (by omega)]
      by_cases h1 : 64 ≤ i
      · rw [(pv ..).2 (by omega), l1, uX _ (by omega)]
        have := rL (a := a) (q := 1) (r := i - 64) (by omega) (by omega)
        rw [show 64 * 1 + (i - 64) = i by omega] at this
        rw [← this]
        rfl
      · rw [(pv ..).1 (by omega), List.nil_append, uX _ (by omega)]
        have := rL (a := a) (q := 0) (r := i) (by omega) (by omega)
        rw [show 64 * 0 + i = i by omega] at this
        rw [← this]
        rfl
def tC : bL := (gx.aE Jn Zc)
theorem P4 : aa Try.prog 82 tC := ag3
theorem P3 : aB tC := ax
def sd : Env := av 82 tC mO
theorem n6 : aN Try.prog sd := ag P4 lm
theorem xK : aq sd := ab P3 sU
theorem B4 : aU Try.prog te sd := aG follows ak n6 xK
def iN : ao := ⟨[.val true .elem, .val true .elem, .val true .elem], [], true, 0, false⟩
abbrev Jj : Type := ((af) × (af) × (af) × Unit) × (Unit)
def vY : Shape := ⟨56, [(5, .ptr 0 0 0), (6, .ptr 1 0 0), (9, .own 2), (10, .ptr 3 0 0), (11, .val false .int)], [(0, .row .u64), (1, .row .u64), (2, .row .int), (3, .row .u64)], 0, true⟩
abbrev b9 : Type := ((Unit) × (Unit) × (Unit) × (Unit) × (Int) × Unit) × ((List (UInt64)) × (List (UInt64)) × (List (Int)) × (List (UInt64)) × Unit)
def re : Shape := ⟨56, [(6, .ptr 0 0 0), (10, .ptr 1 0 0)], [(0, .row .u64), (1, .row .u64)], 0, true⟩
abbrev hJ : Type := ((Unit) × (Unit) × Unit) × ((List (UInt64)) × (List (UInt64)) × Unit)
def Zb : SE → Option Shape := iX [(0, re)] none
def Md (a11 : Int) (c0 : List (UInt64)) (c1 : List (UInt64)) (c2 : List (Int)) (c3 : List (UInt64)) : OT (Sum b9 aJ) :=
  let z0 : Nat := List.length c3
  let z1 : Nat := List.length c2
  let z2 : Nat := Int.toNat a11
  let z3 : af × UInt64 := aO { w0 := List.getD c3 0 0, w1 := List.getD c3 1 0, w2 := List.getD c3 2 0, w3 := List.getD c3 3 0 } (0 : UInt64)
  let z4 : Bool := decide (4 ≤ List.length c0)
  let z5 : Bool := decide ((4 / 1 : Nat) + 0 ≤ z0)
  let z6 : Bool := inR (a11 - (1 : Int))
  let z7 := z3.fst
  let z8 := z7.w0
  let z9 := z7.w1
  let z10 := z7.w2
  let z11 := z7.w3
  let z12 : af := { w0 := z8 ||| (1 : UInt64), w1 := z9, w2 := z10, w3 := z11 }
  let z13 : af := { w0 := List.getD c0 0 0, w1 := List.getD c0 1 0, w2 := List.getD c0 2 0, w3 := List.getD c0 3 0 }
  let z14 := (jn z12 z13).fst
  let z15 : List UInt64 := List.set (List.set (List.set (List.set c3 0 z14.w0) 1 z14.w1) 2 z14.w2) 3 z14.w3
  let z16 : Nat := af.nat z13
  let z17 : Bool := decide ((4 / 1 : Nat) + 0 ≤ z0)
  let z18 := (jn z7 z13).fst
  let z19 : List UInt64 := List.set (List.set (List.set (List.set c3 0 z18.w0) 1 z18.w1) 2 z18.w2) 3 z18.w3
  (.br (decide ((0 : Int) ≤ a11))
  (gd [decide (4 ≤ z0), inB a11 z1, decide (z2 < z1)] (.br (List.getD c2 z2 (0 : Int) == (1 : Int))
    (.br (z3.snd == (1 : UInt64))
      (gd [z4, z5, z6] (.ok (.inl (((), ((), ((), ((), (a11 - (1 : Int), ()))))), (c0, (c1, (c2, (z15, ()))))))))
      (gd [z4] (.br (!Nat.blt (af.nat z12) z16)
        (gd [z4, z5, z6] (.ok (.inl (((), ((), ((), ((), (a11 - (1 : Int), ()))))), (c0, (c1, (c2, (z15, ()))))))))
        (gd [decide ((4 / 1 : Nat) + 0 ≤ z0), z6] (.ok (.inl (((), ((), ((), ((), (a11 - (1 : Int), ()))))), (c0, (c1, (c2, (List.set (List.set (List.set (List.set c3 0 (z8 ||| (1 : UInt64))) 1 z9) 2 z10) 3 z11, ())))))))))))
    (.br (z3.snd == (1 : UInt64))
      (gd [z4, z17, z6] (.ok (.inl (((), ((), ((), ((), (a11 - (1 : Int), ()))))), (c0, (c1, (c2, (z19, ()))))))))
      (gd [z4] (.br (!Nat.blt (af.nat z7) z16)
        (gd [z4, z17, z6] (.ok (.inl (((), ((), ((), ((), (a11 - (1 : Int), ()))))), (c0, (c1, (c2, (z19, ()))))))))
        (gd [decide ((4 / 1 : Nat) + 0 ≤ z0), z6] (.ok (.inl (((), ((), ((), ((), (a11 - (1 : Int), ()))))), (c0, (c1, (c2, (List.set (List.set (List.set (List.set c3 0 z8) 1 z9) 2 z10) 3 z11, ())))))))))))))
  (.ok (.inr ⟨(.exit 0, re), (((), ((), ())), (c1, (c3, ())))⟩)))
def rf (s : b9) : OT (Sum b9 aJ) := Md (s.1.2.2.2.2.1) (s.2.1) (s.2.2.1) (s.2.2.2.1) (s.2.2.2.2.1)
theorem ame (s : b9) (Q : Sum b9 aJ → Prop) : wps te sd au 1000 (bq (aj Try.f69) 0) (vY.inj s) (cE vY Zb (Q : Sum vY.T aJ → Prop)) = (rf s).wpR Q := by kernel_rfl
def CM (g0_0 : b9 → hJ) (s : b9) : OT aJ := (.ok ⟨(.exit 0, re), g0_0 s⟩)
def rc : ar := ⟨[.val true .elem, .val false .int], [], false⟩
def PZ : SV → Option ar := fun _ => some rc
def zq (ok0 : b9 → Bool) (g0_0 : b9 → hJ) (a0 : af) (a1 : af) (a2 : af) : OT iN.Y :=
  let z0 : (PUnit × PUnit × PUnit × PUnit × Int × PUnit) × List UInt64 × List UInt64 × List Int × List UInt64 × PUnit := (((), (), (), (), (511 : Int), ()), [a2.w0, a2.w1, a2.w2, a2.w3], [(0 : UInt64), (0 : UInt64), (0 : UInt64), (0 : UInt64)], mC a0 ++ mC a1, [(0 : UInt64), (0 : UInt64), (0 : UInt64), (0 : UInt64)], ())
  let z1 := (g0_0 z0).snd
  let z2 := z1.snd.fst
  let z3 := z1.fst
  let z4 : List UInt64 := lay z3 z2 4 (0 : UInt64)
  (.br (a2.w0 == (0 : UInt64) && (a2.w1 == (0 : UInt64) && (a2.w2 == (0 : UInt64) && (a2.w3 == (0 : UInt64) && true))))
  (.ok ⟨rc, (({ w0 := 0, w1 := 0, w2 := 0, w3 := 0 }, ((10 : Int), ())), ())⟩)
  (gd [ok0 z0, decide (4 ≤ List.length z2), decide ((4 / 1 : Nat) + 0 ≤ List.length z3), decide (4 ≤ List.length z4)] (.ok ⟨rc, (({ w0 := List.getD z4 0 0, w1 := List.getD z4 1 0, w2 := List.getD z4 2 0, w3 := List.getD z4 3 0 }, ((0 : Int), ())), ())⟩)))
theorem aqF (ok0 : b9 → Bool) (g0_0 : b9 → hJ) (x : Jj) (Q : iN.Y → Prop) : wpf te sd (bj 0 (cS vY 0 ok0 (CM g0_0)) au) 1000 Try.f69 (iN.inp.inj x).tm (iN.inp.inj x).hp (fnK iN PZ Q) (fun _ _ => False) = (zq ok0 g0_0 (x.1.1) (x.1.2.1) (x.1.2.2.1)).wpR Q := by kernel_rfl
theorem abM (ok0 : b9 → Bool) (g0_0 : b9 → hJ) (h0 : ∀ s : b9, ok0 s = true → ∃ m e, ay (rf) m s = some e ∧ (CM g0_0 s).run = some e) (pre : Jj → Bool) (F : Jj → OT iN.Y) (hF : ∀ (x : Jj) oy, pre x = true → (F x).run = some oy → (zq ok0 g0_0 (x.1.1) (x.1.2.1) (x.1.2.2.1)).run = some oy) : aa Try.prog 69 (iN.aE pre F) :=
  az ak n6 B4 (f := 69) (fn := Try.f69) (c := aj Try.f69) (by kernel_rfl) (by kernel_rfl) (by kernel_rfl) (S := iN) (k := 0) (by kernel_rfl) (fun R hR => (aH (c := (aj Try.f69)) (by kernel_rfl) (id := 0) (by kernel_rfl) (bg ak n6 B4 (sh := vY) hR (xs := Zb) (aF (by kernel_rfl) (by kernel_rfl) hR) aS ae (n := 1000) (T := rf) (fun s Q => ame s Q) (ok := ok0) (f := CM g0_0) h0) ae)) (n := 1000) (sel := PZ) (fun v o h => by cases h; rfl) (pre := pre) (F := F) (T := fun x => zq ok0 g0_0 (x.1.1) (x.1.2.1) (x.1.2.2.1)) (fun x Q => aqF ok0 g0_0 x Q) hF
def Wq (x : Int) : UInt64 := cond (x == 1) 1 0
def vD (m : af) (L : List Int) (k : Nat) (r : af) : af := CI m r (Wq (L.getD (511 - k) 0))
theorem K7 (r : af) (b : UInt64) : ((aO r b).2 == 1) = !((aO r b).2 == 0) := by
  have h : (aO r b).2.toNat ≤ 1 := DD _
  rcases (show (aO r b).2.toNat = 0 ∨ (aO r b).2.toNat = 1 by omega) with e | e
  · have e2 : (aO r b).2 = 0 := UInt64.toNat_inj.1 e
    rw [e2]; rfl
  · have e2 : (aO r b).2 = 1 := UInt64.toNat_inj.1 e
    rw [e2]; rfl
theorem vp (r : af) : (⟨(aO r 0).1.w0 ||| 1, (aO r 0).1.w1, (aO r 0).1.w2, (aO r 0).1.w3⟩ : af) = (aO r 1).1 := by
  unfold aO
  dsimp only
  rw [ahf]
def CL (m : af) (c1 : List UInt64) (L : List Int) (i : Int) (r : af) : b9 := (((), (), (), (), i, ()), (lst m, c1, L, lst r, ()))
theorem abL (m r : af) (c1 : List UInt64) {L : List Int} (hL : L.length = 512) {k : Nat} (hk : k < 512) : (rf (CL m c1 L ((511 : Int) - (k : Int)) r)).run = some (.inl (CL m c1 L ((511 : Int) - ((k + 1 : Nat) : Int)) (vD m L k r))) := by
  have e0 : (511 : Int) - (k : Int) = ((511 - k : Nat) : Int) := by omega
  have e1 : (511 : Int) - ((k + 1 : Nat) : Int) = ((511 - k : Nat) : Int) - 1 := by omega
  have hr : inR (((511 - k : Nat) : Int) - 1) = true := aK (by omega)
  rw [e1, e0]
  unfold vD
  show (Md ((511 - k : Nat) : Int) (lst m) c1 L (lst r)).run = _
  unfold Md
  simp only [Int.toNat_natCast]
  refine (OT.aw (decide_eq_true (by omega))).trans ((ah ?_).trans ?_)
  · simp only [List.all_cons, List.all_nil, Bool.and_true, Bool.and_eq_true]
    exact ⟨rfl, aI (by omega), decide_eq_true (by omega)⟩
  · rcases (Bool.eq_false_or_eq_true (L.getD (511 - k) 0 == 1)).symm with hb | hb
    · have eb : Wq (L.getD (511 - k) 0) = 0 := by unfold Wq; rw [hb]; rfl
      rw [eb]
      refine (OT.al hb).trans ?_
      rcases (Bool.eq_false_or_eq_true ((aO r 0).2 == 0)).symm with g | g
      · have e : CI m r 0 = (jn (aO r 0).1 m).1 := by unfold CI; rw [g]; rfl
        rw [e]
        exact (OT.aw (b := (aO r 0).2 == 1) (by rw [K7, g]; rfl)).trans ((ah (by rw [hr]; rfl)).trans rfl)
      · refine (OT.al (b := (aO r 0).2 == 1) (by rw [K7, g]; rfl)).trans ((ah rfl).trans ?_)
        rcases (Bool.eq_false_or_eq_true (jn (aO r 0).1 m).2).symm with u | u
        · have e : CI m r 0 = (jn (aO r 0).1 m).1 := by unfold CI; rw [g, u]; rfl
          rw [e]
          exact (OT.aw (b := !(jn (aO r 0).1 m).2) (by rw [u]; rfl)).trans ((ah (by rw [hr]; rfl)).trans rfl)
        · have e : CI m r 0 = (aO r 0).1 := by unfold CI; rw [g, u]; rfl
          rw [e]
          exact (OT.al (b := !(jn (aO r 0).1 m).2) (by rw [u]; rfl)).trans ((ah (by rw [hr]; rfl)).trans rfl)
    · have eb : Wq (L.getD (511 - k) 0) = 1 := by unfold Wq; rw [hb]; rfl
      rw [eb]
      refine (OT.aw hb).trans ?_
      rcases (Bool.eq_false_or_eq_true ((aO r 1).2 == 0)).symm with g | g
      · have e : CI m r 1 = (jn (aO r 1).1 m).1 := by unfold CI; rw [g]; rfl
        rw [e, ← vp]
        exact (OT.aw (b := (aO r 1).2 == 1) (by rw [K7, g]; rfl)).trans ((ah (by rw [hr]; rfl)).trans rfl)
      · refine (OT.al (b := (aO r 1).2 == 1) (by rw [K7, g]; rfl)).trans ((ah rfl).trans ?_)
        have u0 : (jn ⟨(aO r 0).1.w0 ||| 1, (aO r 0).1.w1, (aO r 0).1.w2, (aO r 0).1.w3⟩ m).2 = (jn (aO r 1).1 m).2 := by rw [vp]
        rcases (Bool.eq_false_or_eq_true (jn (aO r 1).1 m).2).symm with u | u
        · have e : CI m r 1 = (jn (aO r 1).1 m).1 := by unfold CI; rw [g, u]; rfl
          rw [e, ← vp]
          exact (OT.aw (b := !(jn ⟨(aO r 0).1.w0 ||| 1, (aO r 0).1.w1, (aO r 0).1.w2, (aO r 0).1.w3⟩ m).2) (by rw [u0, u]; rfl)).trans ((ah (by rw [hr]; rfl)).trans rfl)
        · have e : CI m r 1 = (aO r 1).1 := by unfold CI; rw [g, u]; rfl
          rw [e, ← vp]
          exact (OT.al (b := !(jn ⟨(aO r 0).1.w0 ||| 1, (aO r 0).1.w1, (aO r 0).1.w2, (aO r 0).1.w3⟩ m).2) (by rw [u0, u]; rfl)).trans ((ah (by rw [hr]; rfl)).trans rfl)
def Ey (s : b9) : Bool := decide (s.1.2.2.2.2.1 = 511 ∧ s.2.1.length = 4 ∧ s.2.2.2.1.length = 512 ∧ s.2.2.2.2.1.length = 4)
def Mc (s : b9) : hJ := (((), (), ()), (s.2.2.1, lst (upto (vD (elemOf s.2.1) s.2.2.2.1) (elemOf s.2.2.2.2.1) 512), ()))
theorem amg : ∀ s : b9, Ey s = true → ∃ m e, ay rf m s = some e ∧ (CM Mc s).run = some e := by
  rintro ⟨⟨⟨⟩, ⟨⟩, ⟨⟩, ⟨⟩, i, ⟨⟩⟩, ⟨c0, c1, L, c3, ⟨⟩⟩⟩ h
  have h' := of_decide_eq_true h
  dsimp only at h'
  obtain ⟨rfl, h0, hL, h3⟩ := h'
  obtain ⟨m, rfl⟩ : ∃ a, c0 = lst a := ⟨elemOf c0, (bR h0).symm⟩
  obtain ⟨r, rfl⟩ : ∃ a, c3 = lst a := ⟨elemOf c3, (bR h3).symm⟩
  have := (aT (T := rf) (fun k r => CL m c1 L ((511 : Int) - (k : Int)) r) (vD m L)
    (fun r => (⟨(.exit 0, re), (((), (), ()), (c1, lst r, ()))⟩ : aJ)) 512 r (fun _ _ => True) trivial (fun k r hk _ => ⟨abL m r c1 hL hk, trivial⟩) (fun r _ => ?_)).1
  · obtain ⟨n, hn⟩ := this
    exact ⟨n, _, hn, rfl⟩
  · exact OT.al (decide_eq_false (by dsimp only [CL]; omega))
theorem Dk {α : Type} {f g : Nat → α → α} (x : α) : ∀ n, (∀ k, k < n → f k = g k) → upto f x n = upto g x n
  | 0, _ => rfl
  | n + 1, h => by
    show f n (upto f x n) = g n (upto g x n)
    rw [Dk x n fun k hk => h k (by omega), h n (by omega)]
theorem Ow {α : Type} (f : Nat → α → α) (x : α) (a : Nat) : ∀ n, upto f x (a + n) = upto (fun k => f (a + k)) (upto f x a) n
  | 0 => rfl
  | n + 1 => by
    show f (a + n) (upto f x (a + n)) = f (a + n) (upto (fun k => f (a + k)) (upto f x a) n)
    rw [Ow f x a n]
theorem aoo (a : af) {i : Nat} (h : i < 256) : Wq ((mC a).getD i 0) = HE a i := by
  have h1 := aaq a h
  rw [ajp a h]
  unfold Wq
  rcases (show a.nat / 2 ^ i % 2 = 0 ∨ a.nat / 2 ^ i % 2 = 1 by omega) with e | e
  · rw [e] at h1 ⊢
    exact (UInt64.toNat_inj.1 h1).symm
  · rw [e] at h1 ⊢
    exact (UInt64.toNat_inj.1 h1).symm
theorem aqr (m lo hi : af) : upto (vD m (mC lo ++ mC hi)) ⟨0, 0, 0, 0⟩ 512 = Ue m lo (Ue m hi ⟨0, 0, 0, 0⟩ 256) 256 := by
  have l0 := qa lo
  have a1 : upto (vD m (mC lo ++ mC hi)) ⟨0, 0, 0, 0⟩ 256 = Ue m hi ⟨0, 0, 0, 0⟩ 256 := by
    unfold Ue
    refine Dk _ 256 fun k hk => ?_
    funext r
    unfold vD
    rw [(pv ..).2 (by omega), l0, show 511 - k - 256 = 255 - k by omega, aoo hi (by omega)]
  rw [show 512 = 256 + 256 from rfl, Ow, a1]
  unfold Ue
  refine Dk _ 256 fun k hk => ?_
  funext r
  unfold vD
  rw [(pv ..).1 (by omega), show 511 - (256 + k) = 255 - k by omega, aoo lo (by omega)]
def P0 (_ : Jj) : Bool := true
def ag0 (x : Jj) : OT iN.Y := .br (kY x.1.2.2.1) (.ok ⟨rc, ((⟨0, 0, 0, 0⟩, ((10 : Int), ())), ())⟩) (.ok ⟨rc, ((alX x.1.1 x.1.2.1 x.1.2.2.1, ((0 : Int), ())), ())⟩)
theorem abN {ok0 : b9 → Bool} {g0 : b9 → hJ} {a b m R : af} (h : kY m = false)
    (h1 : ok0 (((), (), (), (), 511, ()), (lst m, lst ⟨0, 0, 0, 0⟩, mC a ++ mC b, lst ⟨0, 0, 0, 0⟩, ())) = true)
    (e1 : (g0 (((), (), (), (), 511, ()), (lst m, lst ⟨0, 0, 0, 0⟩, mC a ++ mC b, lst ⟨0, 0, 0, 0⟩, ()))).2 = (lst ⟨0, 0, 0, 0⟩, lst R, ())) :
    (zq ok0 g0 a b m).run = some ⟨rc, ((R, ((0 : Int), ())), ())⟩ := by
  have l : ∀ e : af, lst e = [e.w0, e.w1, e.w2, e.w3] := fun _ => rfl
  rw [l m, l ⟨0, 0, 0, 0⟩] at h1 e1
  unfold zq
  simp only [e1, h1]
  exact (OT.al h).trans ((ah rfl).trans rfl)
theorem amf : aa Try.prog 69 (iN.aE P0 ag0) := abM Ey Mc amg _ _ fun x oy hp ho => by
  rw [← ho]
  clear ho
  obtain ⟨⟨a, b, m, ⟨⟩⟩, ⟨⟩⟩ := x
  show (zq Ey Mc a b m).run = (OT.br (kY m) _ _ : OT iN.Y).run
  rcases (Bool.eq_false_or_eq_true (kY m)).symm with h | h
  · have hl : (mC a ++ mC b).length = 512 := by rw [List.length_append, qa, qa]
    refine Eq.trans (abN (R := upto (vD m (mC a ++ mC b)) ⟨0, 0, 0, 0⟩ 512) h (decide_eq_true ⟨rfl, rfl, hl, rfl⟩) rfl) ?_
    rw [aqr, YR (Jx h), h]
    rfl
  · exact (OT.aw h).trans (OT.aw (b := kY m) h).symm
def zp : bL := (iN.aE P0 ag0)
theorem UX : aa Try.prog 69 zp := amf
theorem UW : aB zp := ax
def G2 : Env := av 69 zp sd
theorem AP : aN Try.prog G2 := ag UX n6
theorem B3 : aq G2 := ab UW xK
theorem WV : aU Try.prog te G2 := aG follows ak AP B3
def gl : ao := ⟨[.val false .int, .val false (.list .u8)], [], true, 0, false⟩
abbrev zd : Type := ((Int) × (List (UInt8)) × Unit) × (Unit)
def lQ : ar := ⟨[.val true .elem, .val false .int], [], false⟩
def I4 : SV → Option ar := fun _ => some lQ
def vS (a0 : Int) (a1 : List (UInt8)) : OT gl.Y :=
  let z0 : Nat := List.length a1
  let z1 : Int := (↑z0 : Int)
  let z2 : af := { w0 := 0, w1 := 0, w2 := 0, w3 := 0 }
  let z3 : List UInt8 := List.drop 0 (List.take 32 a1)
  let z4 : List UInt8 := List.drop 32 a1
  let z5 : af := (dk (Int.toNat a0)).fst
  (gd [q6 ((a0, ()), ())] (.br (!z1 == (64 : Int))
  (.ok ⟨lQ, ((z2, ((21 : Int), ())), ())⟩)
  (gd [cH (0 : Int) (32 : Int) z0, kP ((z3, ()), ()), cH (32 : Int) z1 z0, kP ((z4, ()), ())] (.br (kY z5)
    (.ok ⟨lQ, ((z2, ((10 : Int), ())), ())⟩)
    (.ok ⟨lQ, ((alX (adO z3) (adO z4) z5, ((0 : Int), ())), ())⟩)))))
theorem al6 (x : zd) (Q : gl.Y → Prop) : wpf te G2 au 1000 Try.f48 (gl.inp.inj x).tm (gl.inp.inj x).hp (fnK gl I4 Q) (fun _ _ => False) = (vS (x.1.1) (x.1.2.1)).wpR Q := by kernel_rfl
theorem Uu (pre : zd → Bool) (F : zd → OT gl.Y) (hF : ∀ (x : zd) oy, pre x = true → (F x).run = some oy → (vS (x.1.1) (x.1.2.1)).run = some oy) : aa Try.prog 48 (gl.aE pre F) :=
  az ak AP WV (f := 48) (fn := Try.f48) (c := aj Try.f48) (by kernel_rfl) (by kernel_rfl) (by kernel_rfl) (S := gl) (k := 0) (by kernel_rfl) (fun R hR => ae) (n := 1000) (sel := I4) (fun v o h => by cases h; rfl) (pre := pre) (F := F) (T := fun x => vS (x.1.1) (x.1.2.1)) (fun x Q => al6 x Q) hF
def zc (x : zd) : Bool := aA x.1.1 && so x.1.2.1
def Y2 (x : zd) : OT gl.Y := .ok ⟨lQ, ((s7 x.1.1 x.1.2.1, ((0 : Int), ())), ())⟩
theorem Uv {s : Int} {b : List UInt8} {W : af} (hW : alX (adO (List.drop 0 (b.take 32))) (adO (b.drop 32)) (dk s.toNat).1 = W) (hs : aA s = true) (hl : so b = true) : (vS s b).run = some ⟨lQ, ((W, ((0 : Int), ())), ())⟩ := by
  unfold vS
  simp only [hW]
  have hb : b.length = 64 := wi.1 hl
  refine (ah ?_).trans ((OT.al (b := !so b) (by rw [hl]; rfl)).trans ((ah ?_).trans (OT.al (Zk hs))))
  · simp only [List.all_cons, List.all_nil, Bool.and_true]
    exact hs
  · simp only [List.all_cons, List.all_nil, Bool.and_true, Bool.and_eq_true]
    exact ⟨dq (by omega), decide_eq_true (by show (List.drop 0 (b.take 32)).length = 32; rw [List.drop_zero, List.length_take]; omega), dq (by omega), decide_eq_true (by show (List.drop 32 b).length = 32; rw [List.length_drop]; omega)⟩
theorem agH : aa Try.prog 48 (gl.aE zc Y2) := Uu _ _ fun x oy hp ho => by
  rw [← ho]
  clear ho
  obtain ⟨⟨s, b, ⟨⟩⟩, ⟨⟩⟩ := x
  obtain ⟨hs, hl⟩ := (Bool.and_eq_true _ _).mp hp
  exact Uv rfl hs hl
def tz : bL := (gl.aE zc Y2)
theorem PF : aa Try.prog 48 tz := agH
theorem PE : aB tz := ax
def xE : Env := av 48 tz G2
theorem uF : aN Try.prog xE := ag PF AP
theorem xD : aq xE := ab PE B3
theorem SI : aU Try.prog te xE := aG follows ak uF xD
abbrev aa0 : Ty := (.prod .int (.prod (.prod .int (.list .elem)) (.prod (.list .u8) (.prod .int (.list .u8)))))
def eI : ao := ⟨[.val false .int, .val true (.prod .int (.list .elem)), .val false (.list .u8)], [], false, 0, false⟩
abbrev qX : Type := ((Int) × ((Int × List (af))) × (List (UInt8)) × Unit) × (Unit)
def eo : ar := ⟨[.val true (.prod .int (.prod (.prod .int (.list .elem)) (.prod (.list .u8) (.prod .int (.list .u8))))), .val false .int], [], false⟩
def D0 : SV → Option ar := fun _ => some eo
def oY (a0 : Int) (a1 : (Int × List (af))) (a2 : List (UInt8)) : OT eI.Y :=
  let z0 : Int × (Int × List af) × List UInt8 × Int × List UInt8 := ((0 : Int), ((0 : Int), []), [], (0 : Int), [])
  let z1 : Bool := decide ((100000 : Int) < (↑(List.length a1.snd) : Int))
  let z2 : Int × (Int × List af) × List UInt8 × Int × List UInt8 := (a0, a1, [], (0 : Int), a2)
  (.br (decide (a0 < (0 : Int)))
  (.ok ⟨eo, ((z0, ((40 : Int), ())), ())⟩)
  (.br (decide ((3 : Int) < a0))
    (.ok ⟨eo, ((z0, ((40 : Int), ())), ())⟩)
    (.br (!a1.fst == (0 : Int))
      (.br (!a1.fst == (1 : Int))
        (.ok ⟨eo, ((z0, ((80 : Int), ())), ())⟩)
        (.br (z1)
          (.ok ⟨eo, ((z0, ((81 : Int), ())), ())⟩)
          (.ok ⟨eo, ((z2, ((0 : Int), ())), ())⟩)))
      (.br (z1)
        (.ok ⟨eo, ((z0, ((81 : Int), ())), ())⟩)
        (.ok ⟨eo, ((z2, ((0 : Int), ())), ())⟩)))))
theorem agy (x : qX) (Q : eI.Y → Prop) : wpf te xE au 1000 Try.f18 (eI.inp.inj x).tm (eI.inp.inj x).hp (fnK eI D0 Q) (fun _ _ => False) = (oY (x.1.1) (x.1.2.1) (x.1.2.2.1)).wpR Q := by kernel_rfl
theorem Py (pre : qX → Bool) (F : qX → OT eI.Y) (hF : ∀ (x : qX) oy, pre x = true → (F x).run = some oy → (oY (x.1.1) (x.1.2.1) (x.1.2.2.1)).run = some oy) : aa Try.prog 18 (eI.aE pre F) :=
  az ak uF SI (f := 18) (fn := Try.f18) (c := aj Try.f18) (by kernel_rfl) (by kernel_rfl) (by kernel_rfl) (S := eI) (k := 0) (by kernel_rfl) (fun R hR => ae) (n := 1000) (sel := D0) (fun v o h => by cases h; rfl) (pre := pre) (F := F) (T := fun x => oY (x.1.1) (x.1.2.1) (x.1.2.2.1)) (fun x Q => agy x Q) hF
abbrev kB : Type := Int × ((Int × List af) × (List UInt8 × (Int × List UInt8)))
def Zl : kB := (0, (0, []), [], 0, [])
def D1 (_ : qX) : Bool := true
def vP (x : qX) : OT eI.Y := .br (bf x.1.1 x.1.2.1.1 x.1.2.1.2.length == 0) (.ok ⟨eo, (((x.1.1, x.1.2.1, [], 0, x.1.2.2.1), ((0 : Int), ())), ())⟩)
  (.ok ⟨eo, ((Zl, (bf x.1.1 x.1.2.1.1 x.1.2.1.2.length, ())), ())⟩)
theorem alH (c : Int) : aA c = (!decide (c < 0) && !decide (3 < c)) := by
  rw [Bool.eq_iff_iff]
  simp only [aA, Bool.and_eq_true, decide_eq_true_eq, Bool.not_eq_true', decide_eq_false_iff_not]
  omega
theorem abj : aa Try.prog 18 (eI.aE D1 vP) := Py _ _ fun x oy _ ho => by
  rw [← ho]
  clear ho
  obtain ⟨⟨c, ⟨m, l⟩, b, ⟨⟩⟩, ⟨⟩⟩ := x
  show (oY c (m, l) b).run = (vP ((c, (m, l), b, ()), ())).run
  unfold oY vP bf
  dsimp only
  rw [alH]
  generalize decide (c < 0) = p1
  generalize decide (3 < c) = p2
  generalize decide ((100000 : Int) < (l.length : Int)) = p5
  cases h3 : m == 0 <;> cases h4 : m == 1 <;> cases p1 <;> cases p2 <;> cases p5 <;> rfl
def oX : bL := (eI.aE D1 vP)
theorem LM : aa Try.prog 18 oX := abj
theorem LL : aB oX := ax
def qo : Env := av 18 oX xE
theorem qn : aN Try.prog qo := ag LM uF
theorem sQ : aq qo := ab LL xD
theorem NX : aU Try.prog te qo := aG follows ak qn sQ
end Go.Proofs.Ytohjofabochgfaa

namespace Go.Proofs.Ytohjofabochgfaa
namespace Sx
open Go
def JW (k : Nat) (s : bL) : bL := ⟨true, fun d args hp => match args.getD k .bT with
  | .own c e => match dF hp c e with
    | some (.row t xs) => (s.f d args (di hp [(c, ⟨e, .frz t xs⟩)])).map (Out.after [(c, ⟨e, .frz t xs⟩)])
    | some _ => s.f d args hp
    | none => .fail
  | _ => s.f d args hp⟩
theorem QU {P : Program} {f : FuncId} {s : bL} {k : Nat} (h : aa P f s) : aa P f (JW k s) := by
  refine ⟨fun R w d args vs out hm hr hrun => ?_⟩
  simp only [JW] at hrun
  split at hrun
  · rename_i c e hce
    split at hrun
    · rename_i t xs hc
      obtain ⟨out', h1, rfl⟩ := OT.run_map hrun
      obtain ⟨R1, ha⟩ := JY hm (b7 hc)
      rw [← show R1.hp = di R.hp [(c, ⟨e, .frz t xs⟩)] from ha.hp] at h1
      have hr1 : SV.bA R1 args vs := SV.cZ ha.ext _ _ hr
      have hpost : ∀ en w', io R1 out' en w' → io R (Out.after [(c, ⟨e, .frz t xs⟩)] out') en w' := fun en w' hp => by
        cases out' with
        | ret q =>
          obtain ⟨v, R', h2, h3, h4⟩ := hp
          exact ⟨v, R', h2, ha.trans h3, h4⟩
        | pan q u =>
          obtain ⟨v, R', h2, h3, h4⟩ := hp
          exact ⟨v, R', h2, ha.trans h3, h4⟩
      rcases h.calls R1 w d _ vs out' ha.mem hr1 h1 with ⟨fn, f1, f2, f3, hcl⟩ | ⟨v, w', hv, hp⟩
      · exact .inl ⟨fn, f1, f2, f3, hcl.mono hpost⟩
      · exact .inr ⟨v, w', hv, hpost _ _ hp⟩
    · exact h.calls R w d args vs out hm hr hrun
    · cases hrun
  · exact h.calls R w d args vs out hm hr hrun
theorem Fm {s : bL} {k : Nat} (h : aB s) : aB (JW k s) := fun d args hp hp' out hg hrun => by
  simp only [JW] at hrun ⊢
  split at hrun
  · split at hrun
    · rename_i t xs hc
      rw [bF hg hc]
      simp only
      obtain ⟨out', h1, rfl⟩ := OT.run_map hrun
      refine Mx (h d _ _ _ out' ⟨fun n ch hn => ?_, fun n hn hn0 => ?_⟩ h1)
      · simp only [di] at hn ⊢
        split
        · rename_i h2; rw [if_pos h2] at hn; exact hn
        · rename_i h2; rw [if_neg h2] at hn; exact hg.iO _ _ hn
      · simp only [di] at hn0 ⊢
        split
        · rename_i h2; rw [if_pos h2] at hn0; cases hn0
        · rename_i h2; rw [if_neg h2] at hn0; exact hg.free _ hn hn0
    · rename_i b hnr hc
      rw [bF hg hc]
      cases b <;> first | exact h _ _ _ _ _ hg hrun | exact absurd rfl (hnr _ _)
    · cases hrun
  · exact h _ _ _ _ _ hg hrun
end Sx
end Go.Proofs.Ytohjofabochgfaa

namespace Go.Proofs.Ytohjofabochgfaa
open Sx Go
set_option maxRecDepth 100000
def gh : ao := ⟨[.val true aa0, .val false .u8, .val false (.list .u8)], [], false, 0, false⟩
abbrev y6 : Type := (((Int × ((Int × List (af)) × (List (UInt8) × (Int × List (UInt8)))))) × (UInt8) × (List (UInt8)) × Unit) × (Unit)
def DY : ar := ⟨[.val true (.prod .int (.prod (.prod .int (.list .elem)) (.prod (.list .u8) (.prod .int (.list .u8)))))], [], false⟩
def IX : SV → Option ar := fun _ => some DY
def LG (a0 : (Int × ((Int × List (af)) × (List (UInt8) × (Int × List (UInt8)))))) (a1 : UInt8) (a2 : List (UInt8)) : OT gh.Y :=
  let z0 : List UInt8 := a0.snd.snd.fst ++ [a1]
  (gd [va ((a0.snd.snd.fst, ()), ()), decide ((List.length a0.snd.snd.fst + 1) * 1 ≤ 140737488355328), decide ((List.length z0 + List.length a2) * 1 ≤ 140737488355328)] (.ok ⟨DY, (((a0.fst, a0.snd.fst, z0 ++ a2, a0.snd.snd.snd), ()), ())⟩))
theorem al0 (x : y6) (Q : gh.Y → Prop) : wpf te qo au 1000 Try.f43 (gh.inp.inj x).tm (gh.inp.inj x).hp (fnK gh IX Q) (fun _ _ => False) = (LG (x.1.1) (x.1.2.1) (x.1.2.2.1)).wpR Q := by kernel_rfl
theorem Uj (pre : y6 → Bool) (F : y6 → OT gh.Y) (hF : ∀ (x : y6) oy, pre x = true → (F x).run = some oy → (LG (x.1.1) (x.1.2.1) (x.1.2.2.1)).run = some oy) : aa Try.prog 43 (gh.aE pre F) :=
  az ak qn NX (f := 43) (fn := Try.f43) (c := aj Try.f43) (by kernel_rfl) (by kernel_rfl) (by kernel_rfl) (S := gh) (k := 0) (by kernel_rfl) (fun R hR => ae) (n := 1000) (sel := IX) (fun v o h => by cases h; rfl) (pre := pre) (F := F) (T := fun x => LG (x.1.1) (x.1.2.1) (x.1.2.2.1)) (fun x Q => al0 x Q) hF
def iZ (t : kB) (m : UInt8) (b : List UInt8) : kB := (t.1, t.2.1, t.2.2.1 ++ [m] ++ b, t.2.2.2)
def jo (x : y6) : Bool := decide (x.1.1.2.2.1.length + x.1.2.2.1.length ≤ 1000000000000)
def YW (x : y6) : OT gh.Y := .ok ⟨DY, ((iZ x.1.1 x.1.2.1 x.1.2.2.1, ()), ())⟩
theorem agu : aa Try.prog 43 (gh.aE jo YW) := Uj _ _ fun x oy hp ho => by
  rw [← ho]
  clear ho
  obtain ⟨⟨⟨c, s, t, n, b⟩, m, a, ⟨⟩⟩, ⟨⟩⟩ := x
  have hp : t.length + a.length ≤ 1000000000000 := of_decide_eq_true hp
  refine (ah ?_).trans rfl
  simp only [List.all_cons, List.all_nil, Bool.and_true, Bool.and_eq_true]
  exact ⟨decide_eq_true (by show t.length ≤ _; omega), decide_eq_true (by omega), decide_eq_true (by rw [List.length_append]; simp only [List.length_cons, List.length_nil]; omega)⟩
def tu : bL := (JW 2 (gh.aE jo YW))
theorem Pp : aa Try.prog 43 tu := (QU agu)
theorem Po : aB tu := (Fm ax)
def xv : Env := av 43 tu qo
theorem uB : aN Try.prog xv := ag Pp qn
theorem xu : aq xv := ab Po sQ
theorem SC : aU Try.prog te xv := aG follows ak uB xu
def eH : ao := ⟨[.val true aa0, .val false (.list .u8)], [], false, 0, false⟩
abbrev qV : Type := (((Int × ((Int × List (af)) × (List (UInt8) × (Int × List (UInt8)))))) × (List (UInt8)) × Unit) × (Unit)
def y5 : ar := ⟨[.val true (.prod .int (.prod (.prod .int (.list .elem)) (.prod (.list .u8) (.prod .int (.list .u8)))))], [], false⟩
def DV : SV → Option ar := fun _ => some y5
def DX (a0 : (Int × ((Int × List (af)) × (List (UInt8) × (Int × List (UInt8)))))) (a1 : List (UInt8)) : OT eH.Y :=
  (gd [va ((a0.snd.snd.snd.snd, ()), ()), decide ((List.length a0.snd.snd.snd.snd + List.length a1) * 1 ≤ 140737488355328)] (.ok ⟨y5, (((a0.fst, a0.snd.fst, a0.snd.snd.fst, a0.snd.snd.snd.fst, a0.snd.snd.snd.snd ++ a1), ()), ())⟩))
theorem agt (x : qV) (Q : eH.Y → Prop) : wpf te xv au 1000 Try.f46 (eH.inp.inj x).tm (eH.inp.inj x).hp (fnK eH DV Q) (fun _ _ => False) = (DX (x.1.1) (x.1.2.1)).wpR Q := by kernel_rfl
theorem Pm (pre : qV → Bool) (F : qV → OT eH.Y) (hF : ∀ (x : qV) oy, pre x = true → (F x).run = some oy → (DX (x.1.1) (x.1.2.1)).run = some oy) : aa Try.prog 46 (eH.aE pre F) :=
  az ak uB SC (f := 46) (fn := Try.f46) (c := aj Try.f46) (by kernel_rfl) (by kernel_rfl) (by kernel_rfl) (S := eH) (k := 0) (by kernel_rfl) (fun R hR => ae) (n := 1000) (sel := DV) (fun v o h => by cases h; rfl) (pre := pre) (F := F) (T := fun x => DX (x.1.1) (x.1.2.1)) (fun x Q => agt x Q) hF
def Xd (t : kB) (b : List UInt8) : kB := (t.1, t.2.1, t.2.2.1, t.2.2.2.1, t.2.2.2.2 ++ b)
def nl (x : qV) : Bool := decide (x.1.1.2.2.2.2.length + x.1.2.1.length ≤ 1000000000000)
def Pn (x : qV) : OT eH.Y := .ok ⟨y5, ((Xd x.1.1 x.1.2.1, ()), ())⟩
theorem abg : aa Try.prog 46 (eH.aE nl Pn) := Pm _ _ fun x oy hp ho => by
  rw [← ho]
  clear ho
  obtain ⟨⟨⟨c, s, t, n, b⟩, a, ⟨⟩⟩, ⟨⟩⟩ := x
  have hp : b.length + a.length ≤ 1000000000000 := of_decide_eq_true hp
  refine (ah ?_).trans rfl
  simp only [List.all_cons, List.all_nil, Bool.and_true, Bool.and_eq_true]
  exact ⟨decide_eq_true (by show b.length ≤ _; omega), decide_eq_true (by omega)⟩
def oU : bL := (JW 1 (eH.aE nl Pn))
theorem LF : aa Try.prog 46 oU := (QU abg)
theorem LD : aB oU := (Fm ax)
def qj : Env := av 46 oU xv
theorem qi : aN Try.prog qj := ag LF uB
theorem sO : aq qj := ab LD xu
theorem NV : aU Try.prog te qj := aG follows ak qi sO
def gj : ao := ⟨[.val true aa0, .val true .elem], [], false, 0, false⟩
abbrev y7 : Type := (((Int × ((Int × List (af)) × (List (UInt8) × (Int × List (UInt8)))))) × (af) × Unit) × (Unit)
def vM : ar := ⟨[.val true (.prod .int (.prod (.prod .int (.list .elem)) (.prod (.list .u8) (.prod .int (.list .u8)))))], [], false⟩
def IZ : SV → Option ar := fun _ => some vM
def vN (a0 : (Int × ((Int × List (af)) × (List (UInt8) × (Int × List (UInt8)))))) (a1 : af) : OT gj.Y :=
  let z0 : Int := cp a0.fst (1 : Int)
  let z1 : List UInt8 := sr (ofP (pS z0) a1)
  (gd [iC ((z0, a1, ()), ()), jo ((a0, (2 : UInt8), z1, ()), ())] (.ok ⟨vM, ((iZ a0 (2 : UInt8) z1, ()), ())⟩))
theorem al1 (x : y7) (Q : gj.Y → Prop) : wpf te qj au 1000 Try.f20 (gj.inp.inj x).tm (gj.inp.inj x).hp (fnK gj IZ Q) (fun _ _ => False) = (vN (x.1.1) (x.1.2.1)).wpR Q := by kernel_rfl
theorem Ul (pre : y7 → Bool) (F : y7 → OT gj.Y) (hF : ∀ (x : y7) oy, pre x = true → (F x).run = some oy → (vN (x.1.1) (x.1.2.1)).run = some oy) : aa Try.prog 20 (gj.aE pre F) :=
  az ak qi NV (f := 20) (fn := Try.f20) (c := aj Try.f20) (by kernel_rfl) (by kernel_rfl) (by kernel_rfl) (S := gj) (k := 0) (by kernel_rfl) (fun R hR => ae) (n := 1000) (sel := IZ) (fun v o h => by cases h; rfl) (pre := pre) (F := F) (T := fun x => vN (x.1.1) (x.1.2.1)) (fun x Q => al1 x Q) hF
theorem YH (c : Int) (v : af) : sr (ofP (pS (cp c 1)) v) = bI c v := rfl
def jp (x : y7) : Bool := aA (cp x.1.1.1 1) && decide (x.1.1.2.2.1.length ≤ 100000000000)
def YX (x : y7) : OT gj.Y := .ok ⟨vM, ((iZ x.1.1 2 (bI x.1.1.1 x.1.2.1), ()), ())⟩
theorem Um {t : kB} {v : af} (hs : aA (cp t.1 1) = true) (hl : t.2.2.1.length ≤ 100000000000) : (vN t v).run = some ⟨vM, ((iZ t 2 (bI t.1 v), ()), ())⟩ := by
  have hb := cO t.1 v
  unfold vN
  dsimp only
  rw [YH]
  generalize bI t.1 v = B at hb
  refine (ah ?_).trans rfl
  simp only [List.all_cons, List.all_nil, Bool.and_true, Bool.and_eq_true]
  exact ⟨hs, decide_eq_true (by show t.2.2.1.length + B.length ≤ _; omega)⟩
theorem agw : aa Try.prog 20 (gj.aE jp YX) := Ul _ _ fun x oy hp ho => by
  rw [← ho]
  clear ho
  obtain ⟨⟨t, v, ⟨⟩⟩, ⟨⟩⟩ := x
  obtain ⟨hs, hl⟩ := (Bool.and_eq_true _ _).mp hp
  exact Um hs (of_decide_eq_true hl)
def tv : bL := (gj.aE jp YX)
theorem Pv : aa Try.prog 20 tv := agw
theorem Pu : aB tv := ax
def xx : Env := av 20 tv qj
theorem uC : aN Try.prog xx := ag Pv qi
theorem xw : aq xx := ab Pu sO
theorem SD : aU Try.prog te xx := aG follows ak uC xw
def eg : ao := ⟨[.val true aa0, .val true (.prod .elem (.prod .elem .bool))], [], false, 0, false⟩
abbrev qW : Type := (((Int × ((Int × List (af)) × (List (UInt8) × (Int × List (UInt8)))))) × ((af × (af × Bool))) × Unit) × (Unit)
def hI : ar := ⟨[.val true (.prod .int (.prod (.prod .int (.list .elem)) (.prod (.list .u8) (.prod .int (.list .u8))))), .val false .int], [], false⟩
def DZ : SV → Option ar := fun _ => some hI
def oW (a0 : (Int × ((Int × List (af)) × (List (UInt8) × (Int × List (UInt8)))))) (a1 : (af × (af × Bool))) : OT eg.Y :=
  let z0 : List UInt8 := gJ a0.fst a1
  let z1 : Int × (Int × List af) × List UInt8 × Int × List UInt8 := iZ a0 (1 : UInt8) z0
  (.br ((↑(List.length z0) : Int) == (0 : Int))
  (.ok ⟨hI, ((a0, ((41 : Int), ())), ())⟩)
  (gd [jo ((a0, (1 : UInt8), z0, ()), ()), nl ((z1, z0, ()), ())] (.ok ⟨hI, ((Xd z1 z0, ((0 : Int), ())), ())⟩)))
theorem agv (x : qW) (Q : eg.Y → Prop) : wpf te xx au 1000 Try.f21 (eg.inp.inj x).tm (eg.inp.inj x).hp (fnK eg DZ Q) (fun _ _ => False) = (oW (x.1.1) (x.1.2.1)).wpR Q := by kernel_rfl
theorem Pq (pre : qW → Bool) (F : qW → OT eg.Y) (hF : ∀ (x : qW) oy, pre x = true → (F x).run = some oy → (oW (x.1.1) (x.1.2.1)).run = some oy) : aa Try.prog 21 (eg.aE pre F) :=
  az ak uC SD (f := 21) (fn := Try.f21) (c := aj Try.f21) (by kernel_rfl) (by kernel_rfl) (by kernel_rfl) (S := eg) (k := 0) (by kernel_rfl) (fun R hR => ae) (n := 1000) (sel := DZ) (fun v o h => by cases h; rfl) (pre := pre) (F := F) (T := fun x => oW (x.1.1) (x.1.2.1)) (fun x Q => agv x Q) hF
def oj (t : kB) (m : UInt8) (b : List UInt8) : kB := Xd (iZ t m b) b
def hG (x : qW) : Bool := decide (x.1.1.2.2.1.length ≤ 100000000000 ∧ x.1.1.2.2.2.2.length ≤ 100000000000)
def Ps (x : qW) : OT eg.Y := .br (onB x.1.1.1 x.1.2.1) (.ok ⟨hI, ((oj x.1.1 1 (gJ x.1.1.1 x.1.2.1), ((0 : Int), ())), ())⟩) (.ok ⟨hI, ((x.1.1, ((41 : Int), ())), ())⟩)
theorem Pr {t : kB} {P : af × (af × Bool)} {B : List UInt8} (hB : gJ t.1 P = B) (h0 : onB t.1 P = false → B = []) (h1 : onB t.1 P = true → B.length = 32) (hl : t.2.2.1.length ≤ 100000000000) (hw : t.2.2.2.2.length ≤ 100000000000) :
    (oW t P).run = (OT.br (onB t.1 P) (.ok ⟨hI, ((oj t 1 B, ((0 : Int), ())), ())⟩) (.ok ⟨hI, ((t, ((41 : Int), ())), ())⟩) : OT eg.Y).run := by
  unfold oW
  simp only [hB]
  rcases (Bool.eq_false_or_eq_true (onB t.1 P)).symm with h | h
  · rw [h0 h]
    exact (OT.aw rfl).trans (OT.al (b := onB t.1 P) h).symm
  · have h2 := h1 h
    refine (OT.al ?_).trans (Eq.trans ((ah ?_).trans rfl) (OT.aw (b := onB t.1 P) h).symm)
    · rw [h2]; rfl
    · simp only [List.all_cons, List.all_nil, Bool.and_true, Bool.and_eq_true]
      exact ⟨decide_eq_true (by show t.2.2.1.length + B.length ≤ _; omega), decide_eq_true (by show t.2.2.2.2.length + B.length ≤ _; omega)⟩
theorem amY {c : Int} {P : af × (af × Bool)} (h : onB c P = false) : gJ c P = [] := by
  unfold gJ
  rw [h]
  rfl
theorem abi : aa Try.prog 21 (eg.aE hG Ps) := Pq _ _ fun x oy hp ho => by
  rw [← ho]
  clear ho
  obtain ⟨⟨t, P, ⟨⟩⟩, ⟨⟩⟩ := x
  obtain ⟨h1, h2⟩ := of_decide_eq_true hp
  have key := Pr (t := t) (P := P) (B := gJ t.1 P) (Eq.refl (gJ t.1 P)) amY nM h1 h2
  exact key
def oV : bL := (eg.aE hG Ps)
theorem LK : aa Try.prog 21 oV := abi
theorem LJ : aB oV := ax
def qm : Env := av 21 oV xx
theorem ql : aN Try.prog qm := ag LK uC
theorem sP : aq qm := ab LJ xw
theorem NW : aU Try.prog te qm := aG follows ak ql sP
def dI : ao := ⟨[.val true aa0, .val true .elem], [], false, 0, false⟩
abbrev lN : Type := (((Int × ((Int × List (af)) × (List (UInt8) × (Int × List (UInt8)))))) × (af) × Unit) × (Unit)
def np : ar := ⟨[.val true (.prod .int (.prod (.prod .int (.list .elem)) (.prod (.list .u8) (.prod .int (.list .u8)))))], [], false⟩
def Bi : SV → Option ar := fun _ => some np
def lM (a0 : (Int × ((Int × List (af)) × (List (UInt8) × (Int × List (UInt8)))))) (a1 : af) : OT dI.Y :=
  let z0 : Int := cp a0.fst (1 : Int)
  let z1 : List UInt8 := sr (ofP (pS z0) a1)
  let z2 : Int × (Int × List af) × List UInt8 × Int × List UInt8 := iZ a0 (2 : UInt8) z1
  (gd [iC ((z0, a1, ()), ()), jo ((a0, (2 : UInt8), z1, ()), ()), nl ((z2, z1, ()), ())] (.ok ⟨np, ((Xd z2 z1, ()), ())⟩))
theorem abh (x : lN) (Q : dI.Y → Prop) : wpf te qm au 1000 Try.f22 (dI.inp.inj x).tm (dI.inp.inj x).hp (fnK dI Bi Q) (fun _ _ => False) = (lM (x.1.1) (x.1.2.1)).wpR Q := by kernel_rfl
theorem LH (pre : lN → Bool) (F : lN → OT dI.Y) (hF : ∀ (x : lN) oy, pre x = true → (F x).run = some oy → (lM (x.1.1) (x.1.2.1)).run = some oy) : aa Try.prog 22 (dI.aE pre F) :=
  az ak ql NW (f := 22) (fn := Try.f22) (c := aj Try.f22) (by kernel_rfl) (by kernel_rfl) (by kernel_rfl) (S := dI) (k := 0) (by kernel_rfl) (fun R hR => ae) (n := 1000) (sel := Bi) (fun v o h => by cases h; rfl) (pre := pre) (F := F) (T := fun x => lM (x.1.1) (x.1.2.1)) (fun x Q => abh x Q) hF
def fJ (x : lN) : Bool := aA (cp x.1.1.1 1) && decide (x.1.1.2.2.1.length ≤ 100000000000 ∧ x.1.1.2.2.2.2.length ≤ 100000000000)
def IY (x : lN) : OT dI.Y := .ok ⟨np, ((oj x.1.1 2 (bI x.1.1.1 x.1.2.1), ()), ())⟩
theorem LI {t : kB} {v : af} (hs : aA (cp t.1 1) = true) (hl : t.2.2.1.length ≤ 100000000000) (hw : t.2.2.2.2.length ≤ 100000000000) : (lM t v).run = some ⟨np, ((oj t 2 (bI t.1 v), ()), ())⟩ := by
  have hb := cO t.1 v
  unfold lM
  dsimp only
  rw [YH]
  generalize bI t.1 v = B at hb
  refine (ah ?_).trans rfl
  simp only [List.all_cons, List.all_nil, Bool.and_true, Bool.and_eq_true]
  exact ⟨hs, decide_eq_true (by show t.2.2.1.length + B.length ≤ _; omega), decide_eq_true (by show t.2.2.2.2.length + B.length ≤ _; omega)⟩
theorem Uk : aa Try.prog 22 (dI.aE fJ IY) := LH _ _ fun x oy hp ho => by
  rw [← ho]
  clear ho
  obtain ⟨⟨t, v, ⟨⟩⟩, ⟨⟩⟩ := x
  obtain ⟨hs, hl⟩ := (Bool.and_eq_true _ _).mp hp
  obtain ⟨h1, h2⟩ := of_decide_eq_true hl
  exact LI hs h1 h2
def nn : bL := (dI.aE fJ IY)
theorem HL : aa Try.prog 22 nn := Uk
theorem HK : aB nn := ax
def mK : Env := av 22 nn qm
theorem n3 : aN Try.prog mK := ag HL ql
theorem qk : aq mK := ab HK sP
theorem Ib : aU Try.prog te mK := aG follows ak n3 qk
end Go.Proofs.Ytohjofabochgfaa

namespace Go.Proofs.Ytohjofabochgfaa
open Sx Go
theorem aqM {v : UInt64} {c : UInt8} (k : Nat) (hk : k ≤ 7) (hv : v.toNat < 2 ^ (8 * k)) :
    (v ||| bH c.toUInt64 (8 * (k : Int))).toNat = v.toNat + c.toNat * 2 ^ (8 * k) ∧ v.toNat + c.toNat * 2 ^ (8 * k) < 2 ^ (8 * (k + 1)) := by
  have hc : c.toNat < 256 := c.toNat_lt
  have h1 : c.toNat * 2 ^ (8 * k) ≤ 255 * 2 ^ (8 * k) := Nat.mul_le_mul_right _ (by omega)
  have h2 : 2 ^ (8 * (k + 1)) = 256 * 2 ^ (8 * k) := by rw [Nat.mul_add, Nat.pow_add]; omega
  have h3 : 2 ^ (8 * (k + 1)) ≤ 2 ^ 64 := Nat.pow_le_pow_right (by decide) (by omega)
  refine ⟨?_, by omega⟩
  have e1 : bH c.toUInt64 (8 * (k : Int)) = c.toUInt64 <<< UInt64.ofNat (8 * k) := by
    unfold bH
    rw [if_pos (by omega)]
    congr 2
  have e2 : (c.toUInt64 <<< UInt64.ofNat (8 * k)).toNat = c.toNat <<< (8 * k) := by
    rw [UInt64.toNat_shiftLeft, UInt8.toNat_toUInt64, UInt64.toNat_ofNat']
    have : 8 * k % 2 ^ 64 % 64 = 8 * k := by omega
    rw [this, Nat.shiftLeft_eq]
    exact Nat.mod_eq_of_lt (by omega)
  rw [e1, UInt64.toNat_or, e2, Nat.or_comm, ← Nat.shiftLeft_add_eq_or_of_lt hv, Nat.shiftLeft_eq]
  omega
theorem On (b : List UInt8) : ∀ k, k ≤ 8 → (iY b k).toNat = (List.range k).foldl (fun s i => s + (b.getD i 0).toNat * 2 ^ (8 * i)) 0 ∧ (iY b k).toNat < 2 ^ (8 * k)
  | 0, _ => ⟨rfl, by simp [iY]⟩
  | k + 1, h => by
    obtain ⟨h1, h2⟩ := On b k (by omega)
    have h3 := aqM (v := iY b k) (c := b.getD k 0) k (by omega) h2
    rw [Im]
    refine ⟨?_, by omega⟩
    rw [h3.1, List.range_succ, List.foldl_append, h1]
    rfl
theorem amp {v : UInt64} {c : UInt8} (k : Nat) (hk : k ≤ 7) (hv : v.toNat < 2 ^ (8 * k)) :
    (v * 256 + c.toUInt64).toNat = v.toNat * 256 + c.toNat ∧ v.toNat * 256 + c.toNat < 2 ^ (8 * (k + 1)) := by
  have hc : c.toNat < 256 := c.toNat_lt
  have h2 : 2 ^ (8 * (k + 1)) = 256 * 2 ^ (8 * k) := by rw [Nat.mul_add, Nat.pow_add]; omega
  have h3 : 2 ^ (8 * (k + 1)) ≤ 2 ^ 64 := Nat.pow_le_pow_right (by decide) (by omega)
  refine ⟨?_, by omega⟩
  rw [UInt64.toNat_add, UInt64.toNat_mul, UInt8.toNat_toUInt64, show (256 : UInt64).toNat = 256 from rfl]
  rw [Nat.mod_eq_of_lt (a := v.toNat * 256) (by omega), Nat.mod_eq_of_lt (by omega)]
theorem Xo (f : Nat → UInt8) : ∀ k, k ≤ 8 → (upto (fun k v => v * 256 + UInt8.toUInt64 (f (7 - k))) (0 : UInt64) k).toNat = (List.range k).foldl (fun s j => s * 256 + (f (7 - j)).toNat) 0 ∧
    (upto (fun k v => v * 256 + UInt8.toUInt64 (f (7 - k))) (0 : UInt64) k).toNat < 2 ^ (8 * k)
  | 0, _ => ⟨rfl, by simp [upto]⟩
  | k + 1, h => by
    obtain ⟨h1, h2⟩ := Xo f k (by omega)
    have h3 := amp (v := upto (fun k v => v * 256 + UInt8.toUInt64 (f (7 - k))) (0 : UInt64) k) (c := f (7 - k)) k (by omega) h2
    refine ⟨?_, by simp only [upto]; omega⟩
    simp only [upto]
    rw [h3.1, List.range_succ, List.foldl_append, h1]
    rfl
theorem alC (g : Nat → Nat) (c : Nat) : (List.range 8).foldl (fun s i => s + g i * c ^ i) 0 = (List.range 8).foldl (fun s j => s * c + g (7 - j)) 0 := by
  have r : List.range 8 = [0, 1, 2, 3, 4, 5, 6, 7] := by decide
  rw [r]
  simp only [List.foldl_cons, List.foldl_nil, Nat.reduceSub, Nat.sub_self, Nat.sub_zero, Nat.add_mul, Nat.mul_assoc, Nat.zero_mul, Nat.zero_add, Nat.mul_one, Nat.pow_succ, Nat.pow_zero, Nat.one_mul]
  ac_rfl
theorem ap7 (g : Nat → Nat) : (List.range 8).foldl (fun s i => s + g i * 2 ^ (8 * i)) 0 = (List.range 8).foldl (fun s j => s * 256 + g (7 - j)) 0 := by
  have h : ∀ i, 2 ^ (8 * i) = (2 ^ 8) ^ i := fun i => Nat.pow_mul 2 8 i
  have e : (fun s i => s + g i * 2 ^ (8 * i)) = (fun s i => s + g i * (2 ^ 8) ^ i) := by
    funext s i
    rw [h]
  rw [e]
  exact alC g (2 ^ 8)
theorem aj4 (f : Nat → UInt8) (b : List UInt8) (hb : ∀ i, i < 8 → b.getD i 0 = f i) : iY b 8 = upto (fun k v => v * 256 + UInt8.toUInt64 (f (7 - k))) 0 8 := by
  have hf : iY b 8 = iY ((List.range 8).map f) 8 := by
    unfold iY
    have : ∀ l : List Nat, (∀ i ∈ l, i < 8) → ∀ v, l.foldl (fun v (i : Nat) => v ||| bH (UInt8.toUInt64 (b.getD i 0)) (8 * (i : Int))) v = l.foldl (fun v (i : Nat) => v ||| bH (UInt8.toUInt64 (((List.range 8).map f).getD i 0)) (8 * (i : Int))) v := by
      intro l
      induction l with
      | nil => intro _ v; rfl
      | cons i r ih =>
        intro h v
        have hi : i < 8 := h i (by simp)
        have e : ((List.range 8).map f).getD i 0 = f i := by simp [List.getD_eq_getElem?_getD, hi]
        simp only [List.foldl_cons, hb i hi, e]
        exact ih (fun j hj => h j (by simp [hj])) _
    exact this _ (fun i hi => by simpa using hi) 0
  have e : ∀ i, i < 8 → ((List.range 8).map f).getD i 0 = f i := fun i hi => by simp [List.getD_eq_getElem?_getD, hi]
  rw [hf, ← UInt64.toNat_inj, (On _ 8 (Nat.le_refl _)).1, (Xo f 8 (Nat.le_refl _)).1, ← ap7 (fun i => (f i).toNat)]
  have : ∀ l : List Nat, (∀ i ∈ l, i < 8) → ∀ v, l.foldl (fun s (i : Nat) => s + (((List.range 8).map f).getD i 0).toNat * 2 ^ (8 * i)) v = l.foldl (fun s i => s + (f i).toNat * 2 ^ (8 * i)) v := by
    intro l
    induction l with
    | nil => intro _ v; rfl
    | cons i r ih =>
      intro h v
      simp only [List.foldl_cons, e i (h i (by simp))]
      exact ih (fun j hj => h j (by simp [hj])) _
  exact this _ (fun i hi => by simpa using hi) 0
end Go.Proofs.Ytohjofabochgfaa

namespace Go.Proofs.Ytohjofabochgfaa
open Sx Go
theorem Fk {w r : List UInt8} (n : Nat) (hw : w.length ≤ n) (hr : ∀ x ∈ r, x = 0) (i : Nat) : (w.take n ++ r).getD i 0 = w.getD i 0 := by
  rw [List.take_of_length_le hw]
  simp only [List.getD_eq_getElem?_getD, List.getElem?_append]
  split
  · rfl
  · rename_i h
    rw [List.getElem?_eq_none (by omega : w.length ≤ i)]
    cases hx : r[i - w.length]? with
    | none => rfl
    | some x => rw [hr x (List.mem_of_getElem? hx)]; rfl
theorem Og {n k : Nat} : ∀ x ∈ (List.replicate n (0 : UInt8)).drop k, x = 0 := fun x hx => List.eq_of_mem_replicate (List.mem_of_mem_drop hx)
theorem Vz {w : List UInt8} (h : w.length ≤ 128) (i : Nat) : (kX w).getD i 0 = w.getD i 0 := Fk 128 h Og i
theorem JU {w : List UInt8} (h : w.length ≤ 16) (i : Nat) : (HT w).getD i 0 = w.getD i 0 := Fk 16 h Og i
theorem U2 {w : List UInt8} (h : w.length = 128) : kX w = w := by
  unfold kX
  rw [List.take_of_length_le (by omega), List.drop_eq_nil_of_le (by simp [h]), List.append_nil]
theorem Ta {b c : List UInt8} (h : ∀ i, c.getD i 0 = b.getD i 0) (p : Nat) : iY ((c.drop p).take 8) 8 = gf b p :=
  aj4 (fun i => b.getD (p + i) 0) _ fun i hi => by
    rw [← h]
    simp only [List.getD_eq_getElem?_getD, List.getElem?_take, if_pos hi, List.getElem?_drop]
theorem Uh {b : List UInt8} (hb : b.length ≤ 128) : jb b = mW (kX b) := by
  unfold jb mW
  congr 1
  funext k m
  unfold ad5
  rw [Ta (Vz hb)]
theorem DU {h : List UInt64} {b : List UInt8} {t : UInt64} {l : Bool} (hb : b.length ≤ 128) : c8 h b t l = ss h (kX b) t l := by
  unfold c8 ss
  rw [Uh hb]
theorem aqp {p : List UInt8} {n : Int} (hp : p.length ≤ 16) : agd p n = ar0 p n := by
  unfold agd ar0
  have h0 : gf p 0 = iY ((HT p).take 8) 8 := (Ta (JU hp) 0).symm
  have h8 : gf p 8 = iY (((HT p).drop 8).take 8) 8 := (Ta (JU hp) 8).symm
  rw [h0, h8]
theorem MG (m : Nat) : i2u (m : Int) = UInt64.ofNat m := by
  unfold i2u
  rw [← UInt64.toNat_inj, UInt64.toNat_ofNat', UInt64.toNat_ofNat']
  omega
theorem ahI (a b : Nat) : i2u ((a + b : Nat) : Int) = i2u (a : Int) + i2u (b : Int) := by
  rw [MG, MG, MG, UInt64.ofNat_add]
theorem aiG (b : List UInt8) (h : List UInt64) : ∀ k, 128 * k ≤ b.length → upto (fun _ s => yo s) (h, 0, b) k = (lI b h k, i2u ((128 * k : Nat) : Int), b.drop (128 * k))
  | 0, _ => rfl
  | k + 1, hk => by
    have ih := aiG b h k (by omega)
    show yo (upto (fun _ s => yo s) (h, 0, b) k) = _
    rw [ih]
    have e1 : (b.take (128 * k + 128)).drop (128 * k) = (b.drop (128 * k)).take 128 := by rw [List.drop_take]; congr 1; omega
    have e2 : i2u ((128 * k + 128 : Nat) : Int) = i2u ((128 * k : Nat) : Int) + 128 := ahI _ 128
    have hl : ((b.drop (128 * k)).take 128).length = 128 := by simp; omega
    have e3 : lI b h (k + 1) = ss (lI b h k) ((b.drop (128 * k)).take 128) (i2u ((128 * k : Nat) : Int) + 128) false := by
      show c8 (lI b h k) ((b.take (128 * k + 128)).drop (128 * k)) (i2u ((128 * k + 128 : Nat) : Int)) false = _
      rw [e1, e2, DU (by omega), U2 hl]
    unfold yo
    rw [e3, List.drop_drop, show 128 * (k + 1) = 128 * k + 128 by omega, e2]
theorem afN {α : Type} (g : Nat → α) (d : α) (n : Nat) : ∀ m, m ≤ n → upto (fun k o => o.set k (g k)) (List.replicate n d) m = (List.range m).map g ++ List.replicate (n - m) d
  | 0, _ => by simp [upto]
  | m + 1, h => by
    have ih := afN g d n m (by omega)
    show (upto (fun k o => o.set k (g k)) (List.replicate n d) m).set m (g m) = _
    rw [ih, List.set_append_right _ _ (by simp), List.length_map, List.length_range, Nat.sub_self, show n - m = (n - (m + 1)) + 1 by omega, List.replicate_succ, List.set_cons_zero, List.range_succ, List.map_append]
    simp
theorem WD {α : Type} (g : Nat → α) : ∀ m, upto (fun k o => o ++ [g k]) [] m = (List.range m).map g
  | 0 => rfl
  | m + 1 => by
    show upto (fun k o => o ++ [g k]) [] m ++ [g m] = _
    rw [WD g m, List.range_succ, List.map_append]
    rfl
theorem aab (h : List UInt64) (n : Nat) : vC h n = CD h n := by
  unfold vC CD
  rw [WD, afN _ _ n n (Nat.le_refl _), Nat.sub_self, List.replicate_zero, List.append_nil]
  congr 1
  funext k
  have e : 8 * ((k % 8 : Nat) : Int) = ((8 * (k % 8) : Nat) : Int) := by omega
  rw [e, MG, UInt64.toNat_ofNat', Nat.mod_eq_of_lt (by omega)]
theorem YU {p : List UInt8} {n : Int} {b : List UInt8} (hp : p.length ≤ 16) : tr p n b = NB p n b := by
  unfold tr NB gU sI
  rw [aqp hp, aab]
  have hk : 128 * ((b.length - 1) / 128) ≤ b.length := by omega
  show _ = ajZ n (upto (fun _ s => yo s) (ar0 p n, 0, b) ((b.length - 1) / 128))
  rw [aiG b _ _ hk]
  unfold ajZ
  have hl : (b.drop (128 * ((b.length - 1) / 128))).length ≤ 128 := by simp only [List.length_drop]; omega
  have hc : i2u (b.length : Int) = i2u ((128 * ((b.length - 1) / 128) : Nat) : Int) + i2u ((b.drop (128 * ((b.length - 1) / 128))).length : Int) := by
    rw [← ahI, List.length_drop]
    congr 2
    omega
  rw [DU hl, hc]
theorem Xp {β : Type} (f : β → β) (s : β) (a : Nat) : ∀ b, upto (fun _ x => f x) (upto (fun _ x => f x) s a) b = upto (fun _ x => f x) s (a + b)
  | 0 => rfl
  | b + 1 => congrArg f (Xp f s a b)
theorem Z4 (h : List UInt64) (c : UInt64) (v b : List UInt8) : ∀ k, 128 * k ≤ v.length → upto (fun _ s => yo s) (h, c, v ++ b) k =
    ((upto (fun _ s => yo s) (h, c, v) k).1, (upto (fun _ s => yo s) (h, c, v) k).2.1, (upto (fun _ s => yo s) (h, c, v) k).2.2 ++ b)
  | 0, _ => rfl
  | k + 1, hk => by
    have ih := Z4 h c v b k (by omega)
    have hl := Na (h, c, v) k
    simp only at hl
    show yo (upto (fun _ s => yo s) (h, c, v ++ b) k) = _
    rw [ih]
    show _ = ((yo (upto (fun _ s => yo s) (h, c, v) k)).1, (yo (upto (fun _ s => yo s) (h, c, v) k)).2.1, (yo (upto (fun _ s => yo s) (h, c, v) k)).2.2 ++ b)
    generalize upto (fun _ s => yo s) (h, c, v) k = s at *
    simp only [yo]
    rw [List.take_append_of_le_length (by omega), List.drop_append_of_le_length (by omega)]
theorem S7 (s : List UInt64 × UInt64 × List UInt8) (a b : List UInt8) : gU (gU s a) b = gU s (a ++ b) := by
  obtain ⟨h, c, w⟩ := s
  have hk : 128 * (((w ++ a).length - 1) / 128) ≤ (w ++ a).length := by omega
  have e1 := Z4 h c (w ++ a) b _ hk
  have hl := Na (h, c, w ++ a) (((w ++ a).length - 1) / 128)
  simp only at hl
  show sI ((gU (h, c, w) a).1, (gU (h, c, w) a).2.1, (gU (h, c, w) a).2.2 ++ b) = sI (h, c, w ++ (a ++ b))
  have e2 : gU (h, c, w) a = upto (fun _ s => yo s) (h, c, w ++ a) (((w ++ a).length - 1) / 128) := rfl
  rw [e2, ← e1, ← List.append_assoc]
  unfold sI
  rw [Xp]
  congr 1
  rw [e1]
  simp only [List.length_append] at hl ⊢
  rw [hl]
  omega
theorem H3 (p : List UInt8) (n : Int) (b : List UInt8) : (NB p n b).length = n.toNat := by
  unfold NB ajZ
  rw [← aab]
  unfold vC
  rw [WD, List.length_map, List.length_range]
end Go.Proofs.Ytohjofabochgfaa

namespace Go.Proofs.Ytohjofabochgfaa
open Sx Go
set_option maxRecDepth 100000
def fe : ao := ⟨[.val true aa0], [], false, 0, false⟩
abbrev y8 : Type := (((Int × ((Int × List (af)) × (List (UInt8) × (Int × List (UInt8)))))) × Unit) × (Unit)
def gk : ar := ⟨[.val true (.prod .int (.prod (.prod .int (.list .elem)) (.prod (.list .u8) (.prod .int (.list .u8))))), .val true .elem, .val false .int], [], false⟩
def I0 : SV → Option ar := fun _ => some gk
def vO (a0 : (Int × ((Int × List (af)) × (List (UInt8) × (Int × List (UInt8)))))) : OT fe.Y :=
  let z0 : Nat := List.length a0.snd.fst.snd
  let z1 : af := { w0 := 0, w1 := 0, w2 := 0, w3 := 0 }
  let z2 : Int := cp a0.fst (1 : Int)
  let z3 : af := List.getD a0.snd.fst.snd (Int.toNat a0.snd.snd.snd.fst) z1
  let z4 : Int × (Int × List af) × List UInt8 × Int × List UInt8 := iZ a0 (0 : UInt8) []
  let z5 := z4.snd.snd.fst
  let z6 : Int := cp z4.fst (1 : Int)
  let z7 : List UInt8 := tr [(115 : UInt8), (105 : UInt8), (103 : UInt8), (105 : UInt8), (108 : UInt8), (45 : UInt8), (116 : UInt8), (114 : UInt8), (97 : UInt8), (110 : UInt8), (115 : UInt8), (99 : UInt8), (114 : UInt8), (105 : UInt8), (112 : UInt8), (116 : UInt8)] (64 : Int) z5
  (.br (a0.snd.fst.fst == (1 : Int))
  (.br (decide ((↑z0 : Int) ≤ a0.snd.snd.snd.fst))
    (.ok ⟨gk, ((a0, (z1, ((81 : Int), ()))), ())⟩)
    (gd [inB a0.snd.snd.snd.fst z0, iB ((z2, z3, ()), ()), inR (a0.snd.snd.snd.fst + (1 : Int))] (.ok ⟨gk, (((a0.fst, a0.snd.fst, a0.snd.snd.fst, a0.snd.snd.snd.fst + (1 : Int), a0.snd.snd.snd.snd), (ofP (pS z2) z3, ((0 : Int), ()))), ())⟩)))
  (gd [jo ((a0, (0 : UInt8), [], ()), ()), Ln (([(115 : UInt8), (105 : UInt8), (103 : UInt8), (105 : UInt8), (108 : UInt8), (45 : UInt8), (116 : UInt8), (114 : UInt8), (97 : UInt8), (110 : UInt8), (115 : UInt8), (99 : UInt8), (114 : UInt8), (105 : UInt8), (112 : UInt8), (116 : UInt8)], (64 : Int), z5, ()), ()), zc ((z6, z7, ()), ())] (.ok ⟨gk, ((z4, (s7 z6 z7, ((0 : Int), ()))), ())⟩)))
theorem al2 (x : y8) (Q : fe.Y → Prop) : wpf te mK au 1000 Try.f23 (fe.inp.inj x).tm (fe.inp.inj x).hp (fnK fe I0 Q) (fun _ _ => False) = (vO (x.1.1)).wpR Q := by kernel_rfl
theorem Un (pre : y8 → Bool) (F : y8 → OT fe.Y) (hF : ∀ (x : y8) oy, pre x = true → (F x).run = some oy → (vO (x.1.1)).run = some oy) : aa Try.prog 23 (fe.aE pre F) :=
  az ak n3 Ib (f := 23) (fn := Try.f23) (c := aj Try.f23) (by kernel_rfl) (by kernel_rfl) (by kernel_rfl) (S := fe) (k := 0) (by kernel_rfl) (fun R hR => ae) (n := 1000) (sel := I0) (fun v o h => by cases h; rfl) (pre := pre) (F := F) (T := fun x => vO (x.1.1)) (fun x Q => al2 x Q) hF
def eZ : List UInt8 := [115, 105, 103, 105, 108, 45, 116, 114, 97, 110, 115, 99, 114, 105, 112, 116]
def Be (t : List UInt8) : List UInt64 × UInt64 × List UInt8 := gU (ar0 eZ 64, 0, []) t
def HD (t : List UInt8) : Ig × List UInt8 := (arA 64 (Be t).1 (Be t).2.1, (Be t).2.2)
theorem alB (t : List UInt8) : (Be t).1.length = 8 := am1 _ rfl
theorem atg (t : List UInt8) : tH (HD t).1 (HD t).2 = Be t := ab0 (alB t)
theorem aiJ (t : List UInt8) (m : UInt8) (b : List UInt8) : eM (HD t).1 (HD t).2 m b = HD (t ++ [m] ++ b) := by
  have e : gU (Be t) ([m] ++ b) = Be (t ++ [m] ++ b) := by
    unfold Be
    rw [S7, List.append_assoc]
  unfold eM
  rw [atg, e]
  rfl
theorem atf (t : List UInt8) : ajZ (HD t).1.1 (tH (HD t).1 (HD t).2) = tr eZ 64 t := by
  rw [atg, YU (show eZ.length ≤ 16 by decide)]
  rfl
theorem arB (s : Int) (t : List UInt8) : VZ s (HD t).1 (HD t).2 = s7 s (tr eZ 64 (t ++ [0] ++ [])) := by
  unfold VZ
  rw [aiJ]
  exact congrArg (s7 s) (atf _)
theorem am5 : ((bn, []) : Ig × List UInt8) = HD [] := by kernel_rfl
theorem amo (t : List UInt8) : so (tr eZ 64 t) = true := wi.2 (by rw [YU (show eZ.length ≤ 16 by decide), H3]; rfl)
def jq (x : y8) : Bool := aA (cp x.1.1.1 1) && decide (x.1.1.2.2.1.length ≤ 100000000000 ∧ 0 ≤ x.1.1.2.2.2.1 ∧ x.1.1.2.2.2.1 ≤ 1000000000000)
def jk (t : kB) : kB × (af × Int) := cond (t.2.1.1 == 1) (cond (decide ((t.2.1.2.length : Int) ≤ t.2.2.2.1)) (t, ⟨0, 0, 0, 0⟩, 81)
  ((t.1, t.2.1, t.2.2.1, t.2.2.2.1 + 1, t.2.2.2.2), ofP (pS (cp t.1 1)) (t.2.1.2.getD t.2.2.2.1.toNat ⟨0, 0, 0, 0⟩), 0)) (iZ t 0 [], s7 (cp t.1 1) (tr eZ 64 (t.2.2.1 ++ [0] ++ [])), 0)
def YY (x : y8) : OT fe.Y := .ok ⟨gk, (((jk x.1.1).1, ((jk x.1.1).2.1, ((jk x.1.1).2.2, ()))), ())⟩
theorem Uo {t : kB} {R : List UInt8} {W : af} (hs : aA (cp t.1 1) = true) (hl : t.2.2.1.length ≤ 100000000000) (h0 : 0 ≤ t.2.2.2.1) (h1 : t.2.2.2.1 ≤ 1000000000000) (hR : tr eZ 64 (t.2.2.1 ++ [0] ++ []) = R) (h6 : so R = true) (hW : s7 (cp t.1 1) R = W) :
    (vO t).run = (OT.br (t.2.1.1 == 1) (.br (decide ((t.2.1.2.length : Int) ≤ t.2.2.2.1)) (.ok ⟨gk, ((t, (⟨0, 0, 0, 0⟩, ((81 : Int), ()))), ())⟩)
      (.ok ⟨gk, (((t.1, t.2.1, t.2.2.1, t.2.2.2.1 + 1, t.2.2.2.2), (ofP (pS (cp t.1 1)) (t.2.1.2.getD t.2.2.2.1.toNat ⟨0, 0, 0, 0⟩), ((0 : Int), ()))), ())⟩)) (.ok ⟨gk, ((iZ t 0 [], (W, ((0 : Int), ()))), ())⟩) : OT fe.Y).run := by
  have hR : tr [115, 105, 103, 105, 108, 45, 116, 114, 97, 110, 115, 99, 114, 105, 112, 116] 64 (iZ t 0 []).2.2.1 = R := hR
  have hW : s7 (cp (iZ t 0 []).1 1) R = W := hW
  unfold vO
  simp only [hR, hW]
  rcases (Bool.eq_false_or_eq_true (t.2.1.1 == 1)).symm with h | h
  · refine (OT.al h).trans (Eq.trans ((ah ?_).trans rfl) (OT.al (b := t.2.1.1 == 1) h).symm)
    simp only [List.all_cons, List.all_nil, Bool.and_true, Bool.and_eq_true]
    refine ⟨decide_eq_true (by show t.2.2.1.length + 0 ≤ _; omega), decide_eq_true ?_, (Bool.and_eq_true _ _).mpr ⟨hs, h6⟩⟩
    show (t.2.2.1 ++ [0] ++ []).length ≤ _
    rw [List.length_append, List.length_append]
    simp only [List.length_cons, List.length_nil]
    omega
  · refine (OT.aw h).trans (Eq.trans ?_ (OT.aw (b := t.2.1.1 == 1) h).symm)
    by_cases h2 : (t.2.1.2.length : Int) ≤ t.2.2.2.1
    · exact (OT.aw (decide_eq_true h2)).trans (OT.aw (b := decide ((t.2.1.2.length : Int) ≤ t.2.2.2.1)) (decide_eq_true h2)).symm
    · refine (OT.al (decide_eq_false h2)).trans (Eq.trans ((ah ?_).trans rfl) (OT.al (b := decide ((t.2.1.2.length : Int) ≤ t.2.2.2.1)) (decide_eq_false h2)).symm)
      simp only [List.all_cons, List.all_nil, Bool.and_true, Bool.and_eq_true]
      exact ⟨aI (by omega), hs, aK (by omega)⟩
theorem agx : aa Try.prog 23 (fe.aE jq YY) := Un _ _ fun x oy hp ho => by
  rw [← ho]
  clear ho
  obtain ⟨⟨t, ⟨⟩⟩, ⟨⟩⟩ := x
  obtain ⟨hs, hl⟩ := (Bool.and_eq_true _ _).mp hp
  obtain ⟨h1, h2, h3⟩ := of_decide_eq_true hl
  refine (Uo (t := t) hs h1 h2 h3 (Eq.refl _) (amo _) (Eq.refl _)).trans ?_
  show _ = some (⟨gk, (((jk t).1, ((jk t).2.1, ((jk t).2.2, ()))), ())⟩ : fe.Y)
  unfold jk
  generalize s7 (cp t.1 1) (tr eZ 64 (t.2.2.1 ++ [0] ++ [])) = W
  rcases (Bool.eq_false_or_eq_true (t.2.1.1 == 1)).symm with h | h
  · rw [h]; rfl
  · rw [h]
    rcases (Bool.eq_false_or_eq_true (decide ((t.2.1.2.length : Int) ≤ t.2.2.2.1))).symm with h2 | h2
    · rw [h2]; rfl
    · rw [h2]; rfl
def tw : bL := (fe.aE jq YY)
theorem Px : aa Try.prog 23 tw := agx
theorem Pw : aB tw := ax
def xA : Env := av 23 tw mK
theorem uD : aN Try.prog xA := ag Px n3
theorem xz : aq xA := ab Pw qk
theorem SF : aU Try.prog te xA := aG follows ak uD xz
abbrev at6 : Ty := .prod .int (.prod .elem (.prod .elem (.prod .elem .bool)))
def og : ao := ⟨[.val false (.list at6)], [], false, 0, false⟩
abbrev aca : Type := ((List ((Int × (af × (af × (af × Bool)))))) × Unit) × (Unit)
def E3 : ar := ⟨[.val false (.list (.prod .int (.prod .elem (.prod .elem (.prod .elem .bool)))))], [], false⟩
def Zt : SV → Option ar := fun _ => some E3
def Zv (a0 : List ((Int × (af × (af × (af × Bool)))))) : OT og.Y :=
  let z0 : Nat := List.length a0
  (.br (decide ((60 : Int) < (↑z0 : Int)))
  (gd [cH (0 : Int) (60 : Int) z0] (.ok ⟨E3, ((List.drop 0 (List.take 60 a0), ()), ())⟩))
  (.ok ⟨E3, ((a0, ()), ())⟩))
theorem asV (x : aca) (Q : og.Y → Prop) : wpf te xA au 1000 Try.f19 (og.inp.inj x).tm (og.inp.inj x).hp (fnK og Zt Q) (fun _ _ => False) = (Zv (x.1.1)).wpR Q := by kernel_rfl
theorem ahx (pre : aca → Bool) (F : aca → OT og.Y) (hF : ∀ (x : aca) oy, pre x = true → (F x).run = some oy → (Zv (x.1.1)).run = some oy) : aa Try.prog 19 (og.aE pre F) :=
  az ak uD SF (f := 19) (fn := Try.f19) (c := aj Try.f19) (by kernel_rfl) (by kernel_rfl) (by kernel_rfl) (S := og) (k := 0) (by kernel_rfl) (fun R hR => ae) (n := 1000) (sel := Zt) (fun v o h => by cases h; rfl) (pre := pre) (F := F) (T := fun x => Zv (x.1.1)) (fun x Q => asV x Q) hF
abbrev OpY : Type := Int × (af × (af × (af × Bool)))
def Zu (_ : aca) : Bool := true
def an8 (x : aca) : OT og.Y := .ok ⟨E3, ((x.1.1.take 60, ()), ())⟩
theorem aqX : aa Try.prog 19 (og.aE Zu an8) := ahx _ _ fun x oy hp ho => by
  rw [← ho]
  clear ho
  obtain ⟨⟨l, ⟨⟩⟩, ⟨⟩⟩ := x
  show (Zv l).run = some (⟨E3, ((l.take 60, ()), ())⟩ : og.Y)
  by_cases h : (60 : Int) < (l.length : Int)
  · refine (OT.aw (decide_eq_true h)).trans ((ah ?_).trans rfl)
    simp only [List.all_cons, List.all_nil, Bool.and_true]
    exact dq (by omega)
  · rw [List.take_of_length_le (by omega)]
    exact (OT.al (decide_eq_false h)).trans rfl
def EZ : bL := (og.aE Zu an8)
theorem ab9 : aa Try.prog 19 EZ := aqX
theorem ab8 : aB EZ := ax
def SL : Env := av 19 EZ xA
theorem G3 : aN Try.prog SL := ag ab9 uD
theorem G4 : aq SL := ab ab8 xz
theorem adH : aU Try.prog te SL := aG follows ak G3 G4
def fY : ao := ⟨[.ptr 0 0 0], [(0, .cells [.val false .int, .ifp 98 1, .own 2]), (1, .cells [.val false .int, .val false (.list .elem)]), (2, .row .u8)], false, 3, true⟩
abbrev yM : Type := ((Unit) × Unit) × (((Int) × (Unit) × (Unit) × Unit) × ((Int) × (List (af)) × Unit) × (List (UInt8)) × Unit)
def Dz : ar := ⟨[.val false .int], [(0, .cells [.val false .int, .ifp 98 1, .own 2]), (1, .cells [.val false .int, .val false (.list .elem)]), (2, .row .u8)], false⟩
def IF : SV → Option ar := fun _ => some Dz
def Lc (c0_0 : Int) (c1_0 : Int) (c1_1 : List (af)) (c2 : List (UInt8)) : OT fY.Y :=
  (.ok ⟨Dz, ((c0_0, ()), ((c0_0, ((), ((), ()))), ((c1_0, (c1_1, ())), (c2, ()))))⟩)
theorem aly (x : yM) (Q : fY.Y → Prop) : wpf te SL au 1000 Try.f24 (fY.inp.inj x).tm (fY.inp.inj x).hp (fnK fY IF Q) (fun _ _ => False) = (Lc (x.2.1.1) (x.2.2.1.1) (x.2.2.1.2.1) (x.2.2.2.1)).wpR Q := by kernel_rfl
theorem TM (pre : yM → Bool) (F : yM → OT fY.Y) (hF : ∀ (x : yM) oy, pre x = true → (F x).run = some oy → (Lc (x.2.1.1) (x.2.2.1.1) (x.2.2.1.2.1) (x.2.2.2.1)).run = some oy) : aa Try.prog 24 (fY.aE pre F) :=
  az ak G3 adH (f := 24) (fn := Try.f24) (c := aj Try.f24) (by kernel_rfl) (by kernel_rfl) (by kernel_rfl) (S := fY) (k := 3) (by kernel_rfl) (fun R hR => ae) (n := 1000) (sel := IF) (fun v o h => by cases h; rfl) (pre := pre) (F := F) (T := fun x => Lc (x.2.1.1) (x.2.2.1.1) (x.2.2.1.2.1) (x.2.2.2.1)) (fun x Q => aly x Q) hF
def IG (_ : yM) : Bool := true
def YD (x : yM) : OT fY.Y := .ok ⟨Dz, ((x.2.1.1, ()), x.2)⟩
theorem afG : aa Try.prog 24 (fY.aE IG YD) := TM _ _ fun x oy hp ho => by
  rw [← ho]
  rfl
def m4 : bL := (fY.aE IG YD)
theorem Ba : aa Try.prog 24 m4 := afG
theorem A9 : aB m4 := ax
def xo : Env := av 24 m4 SL
theorem uz : aN Try.prog xo := ag Ba G3
theorem xn : aq xo := ab A9 G4
theorem Sw : aU Try.prog te xo := aG follows ak uz xn
def gE : ao := ⟨[.ptr 0 0 0], [(0, .cells [.val false .int, .ifp 106 1, .own 3]), (1, .cells [.val false .int, .ptr 2 0 0]), (2, adP (.own 4)), (3, .row .u8), (4, .row .u8)], false, 5, true⟩
abbrev zR : Type := ((Unit) × Unit) × (((Int) × (Unit) × (Unit) × Unit) × ((Int) × (Unit) × Unit) × ((Int) × (UInt64) × (UInt64) × (UInt64) × (UInt64) × (UInt64) × (UInt64) × (UInt64) × (UInt64) × (Unit) × (UInt64) × Unit) × (List (UInt8)) × (List (UInt8)) × Unit)
def Fe : ar := ⟨[.val false .int], [(0, .cells [.val false .int, .ifp 106 1, .own 3]), (1, .cells [.val false .int, .ptr 2 0 0]), (2, .cells [.val false .int, .val false .u64, .val false .u64, .val false .u64, .val false .u64, .val false .u64, .val false .u64, .val false .u64, .val false .u64, .own 4, .val false .u64]), (3, .row .u8), (4, .row .u8)], false⟩
def JN : SV → Option ar := fun _ => some Fe
def MM (c0_0 : Int) (c1_0 : Int) (c2_0 : Int) (c2_1 : UInt64) (c2_2 : UInt64) (c2_3 : UInt64) (c2_4 : UInt64) (c2_5 : UInt64) (c2_6 : UInt64) (c2_7 : UInt64) (c2_8 : UInt64) (c2_10 : UInt64) (c3 : List (UInt8)) (c4 : List (UInt8)) : OT gE.Y :=
  (.ok ⟨Fe, ((c0_0, ()), ((c0_0, ((), ((), ()))), ((c1_0, ((), ())), ((c2_0, (c2_1, (c2_2, (c2_3, (c2_4, (c2_5, (c2_6, (c2_7, (c2_8, ((), (c2_10, ()))))))))))), (c3, (c4, ()))))))⟩)
theorem amE (x : zR) (Q : gE.Y → Prop) : wpf te xo au 1000 Try.f24 (gE.inp.inj x).tm (gE.inp.inj x).hp (fnK gE JN Q) (fun _ _ => False) = (MM (x.2.1.1) (x.2.2.1.1) (x.2.2.2.1.1) (x.2.2.2.1.2.1) (x.2.2.2.1.2.2.1) (x.2.2.2.1.2.2.2.1) (x.2.2.2.1.2.2.2.2.1) (x.2.2.2.1.2.2.2.2.2.1) (x.2.2.2.1.2.2.2.2.2.2.1) (x.2.2.2.1.2.2.2.2.2.2.2.1) (x.2.2.2.1.2.2.2.2.2.2.2.2.1) (x.2.2.2.1.2.2.2.2.2.2.2.2.2.2.1) (x.2.2.2.2.1) (x.2.2.2.2.2.1)).wpR Q := by kernel_rfl
theorem Vr (pre : zR → Bool) (F : zR → OT gE.Y) (hF : ∀ (x : zR) oy, pre x = true → (F x).run = some oy → (MM (x.2.1.1) (x.2.2.1.1) (x.2.2.2.1.1) (x.2.2.2.1.2.1) (x.2.2.2.1.2.2.1) (x.2.2.2.1.2.2.2.1) (x.2.2.2.1.2.2.2.2.1) (x.2.2.2.1.2.2.2.2.2.1) (x.2.2.2.1.2.2.2.2.2.2.1) (x.2.2.2.1.2.2.2.2.2.2.2.1) (x.2.2.2.1.2.2.2.2.2.2.2.2.1) (x.2.2.2.1.2.2.2.2.2.2.2.2.2.2.1) (x.2.2.2.2.1) (x.2.2.2.2.2.1)).run = some oy) : aa Try.prog 24 (gE.aE pre F) :=
  az ak uz Sw (f := 24) (fn := Try.f24) (c := aj Try.f24) (by kernel_rfl) (by kernel_rfl) (by kernel_rfl) (S := gE) (k := 5) (by kernel_rfl) (fun R hR => ae) (n := 1000) (sel := JN) (fun v o h => by cases h; rfl) (pre := pre) (F := F) (T := fun x => MM (x.2.1.1) (x.2.2.1.1) (x.2.2.2.1.1) (x.2.2.2.1.2.1) (x.2.2.2.1.2.2.1) (x.2.2.2.1.2.2.2.1) (x.2.2.2.1.2.2.2.2.1) (x.2.2.2.1.2.2.2.2.2.1) (x.2.2.2.1.2.2.2.2.2.2.1) (x.2.2.2.1.2.2.2.2.2.2.2.1) (x.2.2.2.1.2.2.2.2.2.2.2.2.1) (x.2.2.2.1.2.2.2.2.2.2.2.2.2.2.1) (x.2.2.2.2.1) (x.2.2.2.2.2.1)) (fun x Q => amE x Q) hF
def JO (_ : zR) : Bool := true
def ZE (x : zR) : OT gE.Y := .ok ⟨Fe, ((x.2.1.1, ()), x.2)⟩
theorem ahU : aa Try.prog 24 (gE.aE JO ZE) := Vr _ _ fun x oy hp ho => by
  rw [← ho]
  rfl
def tT : bL := (pU 0 1 98 m4 (gE.aE JO ZE))
theorem QK : aa Try.prog 24 tT := (kp Ba ahU)
theorem QJ : aB tT := (fG A9 ax)
def sf : Env := av 24 tT xo
theorem n8 : aN Try.prog sf := ag QK uz
theorem N5 : aq sf := ab QJ xn
theorem qv : aU Try.prog te sf := aG follows ak n8 N5
def dP : ao := ⟨[.val false .int, .val true (.prod .int (.list .elem)), .val false (.list at6)], [], true, 0, false⟩
abbrev rn : Type := ((Int) × ((Int × List (af))) × (List ((Int × (af × (af × (af × Bool)))))) × Unit) × (Unit)
def hY : Shape := ⟨141, [(0, .val false .int), (2, .val false (.list (.prod .int (.prod .elem (.prod .elem (.prod .elem .bool)))))), (7, .ptr 0 0 0), (9, .ptr 1 0 0), (11, .val false .int)], [(0, .cells [.val false .int, .ifp 98 2, .own 3]), (1, .cells [.val false .int, .val false .int, .val false (.list .elem), .val false (.list .u8), .val false .int, .val false (.list .u8)]), (2, .cells [.val false .int, .val false (.list .elem)]), (3, .row .u8)], 0, true⟩
abbrev aR : Type := ((Int) × (List ((Int × (af × (af × (af × Bool)))))) × (Unit) × (Unit) × (Int) × Unit) × (((Int) × (Unit) × (Unit) × Unit) × ((Int) × (Int) × (List (af)) × (List (UInt8)) × (Int) × (List (UInt8)) × Unit) × ((Int) × (List (af)) × Unit) × (List (UInt8)) × Unit)
def bD : Shape := ⟨141, [(6, .val false .bool)], [], 0, true⟩
abbrev gB : Type := ((Bool) × Unit) × (Unit)
def kZ : Shape := ⟨141, [], [], 0, true⟩
abbrev gC : Type := (Unit) × (Unit)
def JA : SE → Option Shape := iX [(0, kZ)] (some bD)
def zH (a0 : Int) (a2 : List ((Int × (af × (af × (af × Bool)))))) (a11 : Int) (c0_0 : Int) (c1_0 : Int) (c1_1 : Int) (c1_2 : List (af)) (c1_3 : List (UInt8)) (c1_4 : Int) (c1_5 : List (UInt8)) (c2_0 : Int) (c2_1 : List (af)) (c3 : List (UInt8)) : OT (Sum aR aJ) :=
  let z0 : Nat := List.length a2
  let z1 : af := { w0 := 0, w1 := 0, w2 := 0, w3 := 0 }
  let z2 : Int × af × af × af × Bool := List.getD a2 (Int.toNat a11) ((0 : Int), z1, z1, z1, false)
  let z3 := z2.fst
  let z4 := z2.snd
  let z5 := z4.fst
  let z6 : af × PUnit := (z5, ())
  let z7 : PUnit × af × PUnit := ((), z6)
  let z8 : Int × PUnit × PUnit × PUnit := (c0_0, (), (), ())
  let z9 : Int × List af × PUnit := (c2_0, c2_1, ())
  let z10 : List UInt8 × PUnit := (c3, ())
  let z11 : (Int × PUnit × PUnit × PUnit) × (Int × List af × PUnit) × List UInt8 × PUnit := (z8, z9, z10)
  let z12 : Int × (Int × List af) × List UInt8 × Int × List UInt8 := (c1_0, (c1_1, c1_2), c1_3, c1_4, c1_5)
  let z13 : (Int × (Int × List af) × List UInt8 × Int × List UInt8) × af × PUnit := (z12, z6)
  let z14 : PUnit × PUnit := ((), ())
  let z15 : Bool := dH (z14, z11)
  let z16 : List UInt8 := bI c1_0 z5
  let z17 : Int × (Int × List af) × List UInt8 × Int × List UInt8 := iZ z12 (2 : UInt8) z16
  let z18 := z17.snd
  let z19 := z18.snd
  let z20 := z19.snd
  let z21 := z20.snd
  let z22 : Bool := !c0_0 == a0
  let z23 : Bool := inR (a11 + (1 : Int))
  let z24 := z18.fst
  let z25 := z4.snd
  let z26 : (af × af × Bool) × PUnit := (z25, ())
  let z27 : Bool := fH (((), z26), z11)
  let z28 : Bool := onB c0_0 z25
  let z29 : List UInt8 := c3 ++ gJ c0_0 z25
  let z30 : Int × (Int × List af) × List UInt8 × Int × List UInt8 := oj z12 (1 : UInt8) (gJ c1_0 z25)
  let z31 := z30.snd
  let z32 := z31.snd
  let z33 := z32.snd
  let z34 := z33.snd
  let z35 := z31.fst
  let z36 : List UInt8 := c3 ++ bI c0_0 z5
  let z37 : Int × (Int × List af) × List UInt8 × Int × List UInt8 := oj z12 (2 : UInt8) z16
  let z38 := z37.snd
  let z39 := z38.snd
  let z40 := z39.snd
  let z41 := z40.snd
  let z42 := z38.fst
  let z43 : af × Int × List af := dA c2_1
  let z44 : af := su (pS c2_0) z43.fst z1
  let z45 : (Int × (Int × List af) × List UInt8 × Int × List UInt8) × af × Int := jk z12
  let z46 := z45.snd
  let z47 := z46.fst
  let z48 := z43.snd
  let z49 := z48.snd
  let z50 := z45.fst
  let z51 := z50.snd
  let z52 := z51.snd
  let z53 := z52.snd
  let z54 := z53.snd
  let z55 := z51.fst
  (.br (decide (a11 < (↑z0 : Int)))
  (gd [inB a11 z0] (.br (z3 == (1 : Int))
    (gd [oB (z7, z11), jp (z13, ()), z15, cl ((c3, z21, ()), ())] (.br (!decide (c3 = z21))
      (.ok (.inr ⟨(.ret, bD), ((false, ()), ())⟩))
      (.br (z22)
        (.ok (.inr ⟨(.ret, bD), ((false, ()), ())⟩))
        (gd [z23] (.ok (.inl ((a0, (a2, ((), ((), (a11 + (1 : Int), ()))))), ((c0_0, ((), ((), ()))), ((z17.fst, (z24.fst, (z24.snd, (z19.fst, (z20.fst, (z21, ())))))), ((c2_0, (c2_1, ())), (c3, ())))))))))))
    (.br (z3 == (2 : Int))
      (gd [hG ((z12, z26), ())] (.br (onB c1_0 z25)
        (gd [z27] (.br (z28)
          (gd [dH (z14, z8, z9, z29, ()), cl ((z29, z34, ()), ())] (.br (!decide (z29 = z34))
            (.ok (.inr ⟨(.ret, bD), ((false, ()), ())⟩))
            (.br (z22)
              (.ok (.inr ⟨(.ret, bD), ((false, ()), ())⟩))
              (gd [z23] (.ok (.inl ((a0, (a2, ((), ((), (a11 + (1 : Int), ()))))), ((c0_0, ((), ((), ()))), ((z30.fst, (z35.fst, (z35.snd, (z32.fst, (z33.fst, (z34, ())))))), ((c2_0, (c2_1, ())), (z29, ())))))))))))
          (.ok (.inr ⟨(.ret, bD), ((false, ()), ())⟩))))
        (gd [z27] (.br (z28)
          (.ok (.inr ⟨(.ret, bD), ((false, ()), ())⟩))
          (gd [z15, cl ((c3, c1_5, ()), ())] (.br (!decide (c3 = c1_5))
            (.ok (.inr ⟨(.ret, bD), ((false, ()), ())⟩))
            (.br (z22)
              (.ok (.inr ⟨(.ret, bD), ((false, ()), ())⟩))
              (gd [z23] (.ok (.inl ((a0, (a2, ((), ((), (a11 + (1 : Int), ()))))), ((c0_0, ((), ((), ()))), ((c1_0, (c1_1, (c1_2, (c1_3, (c1_4, (c1_5, ())))))), ((c2_0, (c2_1, ())), (c3, ())))))))))))))))
      (.br (z3 == (3 : Int))
        (gd [fC (z7, z11), fJ (z13, ()), dH (z14, z8, z9, z36, ()), cl ((z36, z41, ()), ())] (.br (!decide (z36 = z41))
          (.ok (.inr ⟨(.ret, bD), ((false, ()), ())⟩))
          (.br (z22)
            (.ok (.inr ⟨(.ret, bD), ((false, ()), ())⟩))
            (gd [z23] (.ok (.inl ((a0, (a2, ((), ((), (a11 + (1 : Int), ()))))), ((c0_0, ((), ((), ()))), ((z37.fst, (z42.fst, (z42.snd, (z39.fst, (z40.fst, (z41, ())))))), ((c2_0, (c2_1, ())), (z36, ())))))))))))
        (gd [jq ((z12, ()), ()), iu (z14, z11)] (.br (!(z44.w0 == z47.w0 && (z44.w1 == z47.w1 && (z44.w2 == z47.w2 && (z44.w3 == z47.w3 && true)))))
          (.ok (.inr ⟨(.ret, bD), ((false, ()), ())⟩))
          (.br (!z48.fst == z46.snd)
            (.ok (.inr ⟨(.ret, bD), ((false, ()), ())⟩))
            (gd [dH (z14, z8, (c2_0, z49, ()), z10), cl ((c3, z54, ()), ())] (.br (!decide (c3 = z54))
              (.ok (.inr ⟨(.ret, bD), ((false, ()), ())⟩))
              (.br (z22)
                (.ok (.inr ⟨(.ret, bD), ((false, ()), ())⟩))
                (gd [z23] (.ok (.inl ((a0, (a2, ((), ((), (a11 + (1 : Int), ()))))), ((c0_0, ((), ((), ()))), ((z50.fst, (z55.fst, (z55.snd, (z52.fst, (z53.fst, (z54, ())))))), ((c2_0, (z49, ())), (c3, ()))))))))))))))))))
  (.ok (.inr ⟨(.exit 0, kZ), ((), ())⟩)))
def jv (s : aR) : OT (Sum aR aJ) := zH (s.1.1) (s.1.2.1) (s.1.2.2.2.2.1) (s.2.1.1) (s.2.2.1.1) (s.2.2.1.2.1) (s.2.2.1.2.2.1) (s.2.2.1.2.2.2.1) (s.2.2.1.2.2.2.2.1) (s.2.2.1.2.2.2.2.2.1) (s.2.2.2.1.1) (s.2.2.2.1.2.1) (s.2.2.2.2.1)
theorem ab3 (s : aR) (Q : Sum aR aJ → Prop) : wps te sf au 1000 (bq (aj Try.f4) 0) (hY.inj s) (cE hY JA (Q : Sum hY.T aJ → Prop)) = (jv s).wpR Q := by kernel_rfl
def rm (g0_r : aR → gB) (c0_r : aR → Bool) (g0_0 : aR → gC) (s : aR) : OT aJ := (.br (c0_r s) (.ok ⟨(.ret, bD), g0_r s⟩) (.ok ⟨(.exit 0, kZ), g0_0 s⟩))
def fF : Shape := ⟨141, [(0, .val false .int), (2, .val false (.list (.prod .int (.prod .elem (.prod .elem (.prod .elem .bool)))))), (7, .ptr 0 0 0), (9, .ptr 1 0 0), (11, .val false .int)], [(0, .cells [.val false .int, .ifp 106 2, .own 3]), (1, .cells [.val false .int, .val false .int, .val false (.list .elem), .val false (.list .u8), .val false .int, .val false (.list .u8)]), (2, .cells [.val false .int, .ptr 4 0 0]), (3, .row .u8), (4, .cells [.val false .int, .val false .u64, .val false .u64, .val false .u64, .val false .u64, .val false .u64, .val false .u64, .val false .u64, .val false .u64, .own 5, .val false .u64]), (5, .row .u8)], 0, true⟩
abbrev aL : Type := ((Int) × (List ((Int × (af × (af × (af × Bool)))))) × (Unit) × (Unit) × (Int) × Unit) × (((Int) × (Unit) × (Unit) × Unit) × ((Int) × (Int) × (List (af)) × (List (UInt8)) × (Int) × (List (UInt8)) × Unit) × ((Int) × (Unit) × Unit) × (List (UInt8)) × ((Int) × (UInt64) × (UInt64) × (UInt64) × (UInt64) × (UInt64) × (UInt64) × (UInt64) × (UInt64) × (Unit) × (UInt64) × Unit) × (List (UInt8)) × Unit)
def bo : Shape := ⟨141, [(6, .val false .bool)], [], 0, true⟩
abbrev fq : Type := ((Bool) × Unit) × (Unit)
def jg : Shape := ⟨141, [], [], 0, true⟩
abbrev ft : Type := (Unit) × (Unit)
def ER : SE → Option Shape := iX [(0, jg)] (some bo)
def tP (a0 : Int) (a2 : List ((Int × (af × (af × (af × Bool)))))) (a11 : Int) (c0_0 : Int) (c1_0 : Int) (c1_1 : Int) (c1_2 : List (af)) (c1_3 : List (UInt8)) (c1_4 : Int) (c1_5 : List (UInt8)) (c2_0 : Int) (c3 : List (UInt8)) (c4_0 : Int) (c4_1 : UInt64) (c4_2 : UInt64) (c4_3 : UInt64) (c4_4 : UInt64) (c4_5 : UInt64) (c4_6 : UInt64) (c4_7 : UInt64) (c4_8 : UInt64) (c4_10 : UInt64) (c5 : List (UInt8)) : OT (Sum aL aJ) :=
  let z0 : Nat := List.length a2
  let z1 : af := { w0 := 0, w1 := 0, w2 := 0, w3 := 0 }
  let z2 : Int × af × af × af × Bool := List.getD a2 (Int.toNat a11) ((0 : Int), z1, z1, z1, false)
  let z3 := z2.fst
  let z4 := z2.snd
  let z5 := z4.fst
  let z6 : af × PUnit := (z5, ())
  let z7 : PUnit × af × PUnit := ((), z6)
  let z8 : Int × PUnit × PUnit × PUnit := (c0_0, (), (), ())
  let z9 : Int × PUnit × PUnit := (c2_0, (), ())
  let z10 : Int × UInt64 × UInt64 × UInt64 × UInt64 × UInt64 × UInt64 × UInt64 × UInt64 × PUnit × UInt64 × PUnit := (c4_0, c4_1, c4_2, c4_3, c4_4, c4_5, c4_6, c4_7, c4_8, (), c4_10, ())
  let z11 : (Int × PUnit × PUnit × PUnit) × (Int × PUnit × PUnit) × (Int × UInt64 × UInt64 × UInt64 × UInt64 × UInt64 × UInt64 × UInt64 × UInt64 × PUnit × UInt64 × PUnit) × List UInt8 × List UInt8 × PUnit := (z8, z9, z10, c3, c5, ())
  let z12 : Int × (Int × List af) × List UInt8 × Int × List UInt8 := (c1_0, (c1_1, c1_2), c1_3, c1_4, c1_5)
  let z13 : (Int × (Int × List af) × List UInt8 × Int × List UInt8) × af × PUnit := (z12, z6)
  let z14 : PUnit × PUnit := ((), ())
  let z15 : List UInt8 := bI c0_0 z5
  let z16 : (Int × UInt64 × UInt64 × UInt64 × UInt64 × UInt64 × UInt64 × UInt64 × UInt64 × PUnit × UInt64 × PUnit) × List UInt8 := eM z10 c5 (2 : UInt8) z15
  let z17 := z16.fst
  let z18 := z17.fst
  let z19 := z17.snd
  let z20 := z19.fst
  let z21 := z19.snd
  let z22 := z21.fst
  let z23 := z21.snd
  let z24 := z23.fst
  let z25 := z23.snd
  let z26 := z25.fst
  let z27 := z25.snd
  let z28 := z27.fst
  let z29 := z27.snd
  let z30 := z29.fst
  let z31 := z29.snd
  let z32 := z31.fst
  let z33 := z31.snd
  let z34 := z33.fst
  let z35 := z33.snd.snd.fst
  let z36 : Int × UInt64 × UInt64 × UInt64 × UInt64 × UInt64 × UInt64 × UInt64 × UInt64 × PUnit × UInt64 × PUnit := (z18, z20, z22, z24, z26, z28, z30, z32, z34, (), z35, ())
  let z37 := z16.snd
  let z38 : List UInt8 × PUnit := (z37, ())
  let z39 : List UInt8 := bI c1_0 z5
  let z40 : Int × (Int × List af) × List UInt8 × Int × List UInt8 := iZ z12 (2 : UInt8) z39
  let z41 := z40.snd
  let z42 := z41.snd
  let z43 := z42.snd
  let z44 := z43.snd
  let z45 : Bool := !c0_0 == a0
  let z46 : Bool := inR (a11 + (1 : Int))
  let z47 := z41.fst
  let z48 := z4.snd
  let z49 : (af × af × Bool) × PUnit := (z48, ())
  let z50 : Bool := dm (((), z49), z11)
  let z51 : Bool := onB c0_0 z48
  let z52 : List UInt8 := gJ c0_0 z48
  let z53 : (Int × UInt64 × UInt64 × UInt64 × UInt64 × UInt64 × UInt64 × UInt64 × UInt64 × PUnit × UInt64 × PUnit) × List UInt8 := eM z10 c5 (1 : UInt8) z52
  let z54 := z53.fst
  let z55 := z54.fst
  let z56 := z54.snd
  let z57 := z56.fst
  let z58 := z56.snd
  let z59 := z58.fst
  let z60 := z58.snd
  let z61 := z60.fst
  let z62 := z60.snd
  let z63 := z62.fst
  let z64 := z62.snd
  let z65 := z64.fst
  let z66 := z64.snd
  let z67 := z66.fst
  let z68 := z66.snd
  let z69 := z68.fst
  let z70 := z68.snd
  let z71 := z70.fst
  let z72 := z70.snd.snd.fst
  let z73 : List UInt8 := c3 ++ z52
  let z74 := z53.snd
  let z75 : Int × (Int × List af) × List UInt8 × Int × List UInt8 := oj z12 (1 : UInt8) (gJ c1_0 z48)
  let z76 := z75.snd
  let z77 := z76.snd
  let z78 := z77.snd
  let z79 := z78.snd
  let z80 := z76.fst
  let z81 : List UInt8 := c3 ++ z15
  let z82 : Int × (Int × List af) × List UInt8 × Int × List UInt8 := oj z12 (2 : UInt8) z39
  let z83 := z82.snd
  let z84 := z83.snd
  let z85 := z84.snd
  let z86 := z85.snd
  let z87 := z83.fst
  let z88 : af := VZ c2_0 z10 c5
  let z89 : (Int × (Int × List af) × List UInt8 × Int × List UInt8) × af × Int := jk z12
  let z90 := z89.snd
  let z91 := z90.fst
  let z92 : (Int × UInt64 × UInt64 × UInt64 × UInt64 × UInt64 × UInt64 × UInt64 × UInt64 × PUnit × UInt64 × PUnit) × List UInt8 := eM z10 c5 (0 : UInt8) []
  let z93 := z92.fst
  let z94 := z93.fst
  let z95 := z93.snd
  let z96 := z95.fst
  let z97 := z95.snd
  let z98 := z97.fst
  let z99 := z97.snd
  let z100 := z99.fst
  let z101 := z99.snd
  let z102 := z101.fst
  let z103 := z101.snd
  let z104 := z103.fst
  let z105 := z103.snd
  let z106 := z105.fst
  let z107 := z105.snd
  let z108 := z107.fst
  let z109 := z107.snd
  let z110 := z109.fst
  let z111 := z109.snd.snd.fst
  let z112 := z92.snd
  let z113 := z89.fst
  let z114 := z113.snd
  let z115 := z114.snd
  let z116 := z115.snd
  let z117 := z116.snd
  let z118 := z114.fst
  (.br (decide (a11 < (↑z0 : Int)))
  (gd [inB a11 z0] (.br (z3 == (1 : Int))
    (gd [mm (z7, z11), jp (z13, ()), dp (z14, z8, z9, z36, c3, z38), cl ((c3, z44, ()), ())] (.br (!decide (c3 = z44))
      (.ok (.inr ⟨(.ret, bo), ((false, ()), ())⟩))
      (.br (z45)
        (.ok (.inr ⟨(.ret, bo), ((false, ()), ())⟩))
        (gd [z46] (.ok (.inl ((a0, (a2, ((), ((), (a11 + (1 : Int), ()))))), ((c0_0, ((), ((), ()))), ((z40.fst, (z47.fst, (z47.snd, (z42.fst, (z43.fst, (z44, ())))))), ((c2_0, ((), ())), (c3, ((z18, (z20, (z22, (z24, (z26, (z28, (z30, (z32, (z34, ((), (z35, ()))))))))))), (z37, ())))))))))))))
    (.br (z3 == (2 : Int))
      (gd [hG ((z12, z49), ())] (.br (onB c1_0 z48)
        (gd [z50] (.br (z51)
          (gd [dp (z14, z8, z9, (z55, z57, z59, z61, z63, z65, z67, z69, z71, (), z72, ()), z73, z74, ()), cl ((z73, z79, ()), ())] (.br (!decide (z73 = z79))
            (.ok (.inr ⟨(.ret, bo), ((false, ()), ())⟩))
            (.br (z45)
              (.ok (.inr ⟨(.ret, bo), ((false, ()), ())⟩))
              (gd [z46] (.ok (.inl ((a0, (a2, ((), ((), (a11 + (1 : Int), ()))))), ((c0_0, ((), ((), ()))), ((z75.fst, (z80.fst, (z80.snd, (z77.fst, (z78.fst, (z79, ())))))), ((c2_0, ((), ())), (z73, ((z55, (z57, (z59, (z61, (z63, (z65, (z67, (z69, (z71, ((), (z72, ()))))))))))), (z74, ())))))))))))))
          (.ok (.inr ⟨(.ret, bo), ((false, ()), ())⟩))))
        (gd [z50] (.br (z51)
          (.ok (.inr ⟨(.ret, bo), ((false, ()), ())⟩))
          (gd [dp (z14, z11), cl ((c3, c1_5, ()), ())] (.br (!decide (c3 = c1_5))
            (.ok (.inr ⟨(.ret, bo), ((false, ()), ())⟩))
            (.br (z45)
              (.ok (.inr ⟨(.ret, bo), ((false, ()), ())⟩))
              (gd [z46] (.ok (.inl ((a0, (a2, ((), ((), (a11 + (1 : Int), ()))))), ((c0_0, ((), ((), ()))), ((c1_0, (c1_1, (c1_2, (c1_3, (c1_4, (c1_5, ())))))), ((c2_0, ((), ())), (c3, ((c4_0, (c4_1, (c4_2, (c4_3, (c4_4, (c4_5, (c4_6, (c4_7, (c4_8, ((), (c4_10, ()))))))))))), (c5, ())))))))))))))))))
      (.br (z3 == (3 : Int))
        (gd [eR (z7, z11), fJ (z13, ()), dp (z14, z8, z9, z36, z81, z38), cl ((z81, z86, ()), ())] (.br (!decide (z81 = z86))
          (.ok (.inr ⟨(.ret, bo), ((false, ()), ())⟩))
          (.br (z45)
            (.ok (.inr ⟨(.ret, bo), ((false, ()), ())⟩))
            (gd [z46] (.ok (.inl ((a0, (a2, ((), ((), (a11 + (1 : Int), ()))))), ((c0_0, ((), ((), ()))), ((z82.fst, (z87.fst, (z87.snd, (z84.fst, (z85.fst, (z86, ())))))), ((c2_0, ((), ())), (z81, ((z18, (z20, (z22, (z24, (z26, (z28, (z30, (z32, (z34, ((), (z35, ()))))))))))), (z37, ())))))))))))))
        (gd [jq ((z12, ()), ()), iH (z14, z11)] (.br (!(z88.w0 == z91.w0 && (z88.w1 == z91.w1 && (z88.w2 == z91.w2 && (z88.w3 == z91.w3 && true)))))
          (.ok (.inr ⟨(.ret, bo), ((false, ()), ())⟩))
          (.br (!(0 : Int) == z90.snd)
            (.ok (.inr ⟨(.ret, bo), ((false, ()), ())⟩))
            (gd [dp (z14, z8, z9, (z94, z96, z98, z100, z102, z104, z106, z108, z110, (), z111, ()), c3, z112, ()), cl ((c3, z117, ()), ())] (.br (!decide (c3 = z117))
              (.ok (.inr ⟨(.ret, bo), ((false, ()), ())⟩))
              (.br (z45)
                (.ok (.inr ⟨(.ret, bo), ((false, ()), ())⟩))
                (gd [z46] (.ok (.inl ((a0, (a2, ((), ((), (a11 + (1 : Int), ()))))), ((c0_0, ((), ((), ()))), ((z113.fst, (z118.fst, (z118.snd, (z115.fst, (z116.fst, (z117, ())))))), ((c2_0, ((), ())), (c3, ((z94, (z96, (z98, (z100, (z102, (z104, (z106, (z108, (z110, ((), (z111, ()))))))))))), (z112, ()))))))))))))))))))))
  (.ok (.inr ⟨(.exit 0, jg), ((), ())⟩)))
def hZ (s : aL) : OT (Sum aL aJ) := tP (s.1.1) (s.1.2.1) (s.1.2.2.2.2.1) (s.2.1.1) (s.2.2.1.1) (s.2.2.1.2.1) (s.2.2.1.2.2.1) (s.2.2.1.2.2.2.1) (s.2.2.1.2.2.2.2.1) (s.2.2.1.2.2.2.2.2.1) (s.2.2.2.1.1) (s.2.2.2.2.1) (s.2.2.2.2.2.1.1) (s.2.2.2.2.2.1.2.1) (s.2.2.2.2.2.1.2.2.1) (s.2.2.2.2.2.1.2.2.2.1) (s.2.2.2.2.2.1.2.2.2.2.1) (s.2.2.2.2.2.1.2.2.2.2.2.1) (s.2.2.2.2.2.1.2.2.2.2.2.2.1) (s.2.2.2.2.2.1.2.2.2.2.2.2.2.1) (s.2.2.2.2.2.1.2.2.2.2.2.2.2.2.1) (s.2.2.2.2.2.1.2.2.2.2.2.2.2.2.2.2.1) (s.2.2.2.2.2.2.1)
theorem U6 (s : aL) (Q : Sum aL aJ → Prop) : wps te sf au 1000 (bq (aj Try.f4) 0) (fF.inj s) (cE fF ER (Q : Sum fF.T aJ → Prop)) = (hZ s).wpR Q := by kernel_rfl
def nD (g0b_r : aL → fq) (c0b_r : aL → Bool) (g0b_0 : aL → ft) (s : aL) : OT aJ := (.br (c0b_r s) (.ok ⟨(.ret, bo), g0b_r s⟩) (.ok ⟨(.exit 0, jg), g0b_0 s⟩))
def bt : ar := ⟨[.val false .bool], [], false⟩
def ES : SV → Option ar := fun _ => some bt
def we (ok0 : aR → Bool) (g0_r : aR → gB) (c0_r : aR → Bool) (g0_0 : aR → gC) (ok0b : aL → Bool) (g0b_r : aL → fq) (c0b_r : aL → Bool) (g0b_0 : aL → ft) (a0 : Int) (a1 : (Int × List (af))) (a2 : List ((Int × (af × (af × (af × Bool)))))) : OT dP.Y :=
  let z0 : Int := bf a0 a1.fst (List.length a1.snd)
  let z1 : Int × List (Int × af × af × af × Bool) × PUnit × PUnit × Int × PUnit := (a0, List.take 60 a2, (), (), (0 : Int), ())
  let z2 : PUnit × PUnit := ((), ())
  let z3 : Int × PUnit × PUnit × PUnit := (a0, (), z2)
  let z4 : Int × Int × List af × List UInt8 × Int × List UInt8 × PUnit := (a0, a1.fst, a1.snd, [], (0 : Int), [], ())
  let z5 : Int := cp a0 (1 : Int)
  let z6 : (Int × List af × PUnit) × List UInt8 × PUnit := ((z5, a1.snd, ()), [], ())
  let z7 : (Int × List (Int × af × af × af × Bool) × PUnit × PUnit × Int × PUnit) × (Int × PUnit × PUnit × PUnit) × (Int × Int × List af × List UInt8 × Int × List UInt8 × PUnit) × (Int × List af × PUnit) × List UInt8 × PUnit := (z1, z3, z4, z6)
  let z8 : Bool := !(0 : Int) == z0
  let z9 : Int × Int × List af × List UInt8 × Int × List UInt8 × PUnit := ((0 : Int), (0 : Int), Zl.snd.fst.snd, Zl.snd.snd.fst, (0 : Int), Zl.snd.snd.snd.snd, ())
  let z10 : (Int × List (Int × af × af × af × Bool) × PUnit × PUnit × Int × PUnit) × (Int × PUnit × PUnit × PUnit) × (Int × Int × List af × List UInt8 × Int × List UInt8 × PUnit) × (Int × List af × PUnit) × List UInt8 × PUnit := (z1, z3, z9, z6)
  let z11 : Int × PUnit × PUnit × PUnit := (a0, (), z2)
  let z12 : (Int × PUnit × PUnit) × List UInt8 × (Int × UInt64 × UInt64 × UInt64 × UInt64 × UInt64 × UInt64 × UInt64 × UInt64 × PUnit × UInt64 × PUnit) × List UInt8 × PUnit := ((z5, (), ()), [], ((64 : Int), (7640891576939301192 : UInt64), (13503953896175478587 : UInt64), (4354685564936845355 : UInt64), (11912009170470909681 : UInt64), (5840696475078001361 : UInt64), (11170449401992604703 : UInt64), (7924071207369364504 : UInt64), (3427420097777323800 : UInt64), (), (0 : UInt64), ()), [], ())
  let z13 : (Int × List (Int × af × af × af × Bool) × PUnit × PUnit × Int × PUnit) × (Int × PUnit × PUnit × PUnit) × (Int × Int × List af × List UInt8 × Int × List UInt8 × PUnit) × (Int × PUnit × PUnit) × List UInt8 × (Int × UInt64 × UInt64 × UInt64 × UInt64 × UInt64 × UInt64 × UInt64 × UInt64 × PUnit × UInt64 × PUnit) × List UInt8 × PUnit := (z1, z11, z4, z12)
  let z14 : (Int × List (Int × af × af × af × Bool) × PUnit × PUnit × Int × PUnit) × (Int × PUnit × PUnit × PUnit) × (Int × Int × List af × List UInt8 × Int × List UInt8 × PUnit) × (Int × PUnit × PUnit) × List UInt8 × (Int × UInt64 × UInt64 × UInt64 × UInt64 × UInt64 × UInt64 × UInt64 × UInt64 × PUnit × UInt64 × PUnit) × List UInt8 × PUnit := (z1, z11, z9, z12)
  let z15 : Bool := !z0 == (0 : Int)
  let z16 : Bool := !(0 : Int) == (0 : Int)
  let z17 : Bool := z0 == z0
  (gd [nP ((a1, ()), ())] (.br (z0 == (0 : Int))
  (.br (a1.fst == (1 : Int))
    (.br (z0 == (0 : Int))
      (gd [ok0 z7] (.br (c0_r z7)
        (.ok ⟨bt, (((g0_r z7).fst.fst, ()), ())⟩)
        (.ok ⟨bt, ((true, ()), ())⟩)))
      (.br (z8)
        (.ok ⟨bt, ((false, ()), ())⟩)
        (gd [ok0 z10] (.br (c0_r z10)
          (.ok ⟨bt, (((g0_r z10).fst.fst, ()), ())⟩)
          (.ok ⟨bt, ((true, ()), ())⟩)))))
    (.br (z0 == (0 : Int))
      (gd [ok0b z13] (.br (c0b_r z13)
        (.ok ⟨bt, (((g0b_r z13).fst.fst, ()), ())⟩)
        (.ok ⟨bt, ((true, ()), ())⟩)))
      (.br (z8)
        (.ok ⟨bt, ((false, ()), ())⟩)
        (gd [ok0b z14] (.br (c0b_r z14)
          (.ok ⟨bt, (((g0b_r z14).fst.fst, ()), ())⟩)
          (.ok ⟨bt, ((true, ()), ())⟩))))))
  (.br (z0 == (0 : Int))
    (.br (z15)
      (.br (z0 == (0 : Int))
        (.ok ⟨bt, ((z16, ()), ())⟩)
        (.ok ⟨bt, ((false, ()), ())⟩))
      (.br (z0 == (0 : Int))
        (.ok ⟨bt, ((z16, ()), ())⟩)
        (.ok ⟨bt, ((false, ()), ())⟩)))
    (.br (!z17)
      (.br (z17)
        (.ok ⟨bt, ((z15, ()), ())⟩)
        (.ok ⟨bt, ((false, ()), ())⟩))
      (.br (z17)
        (.ok ⟨bt, ((z15, ()), ())⟩)
        (.ok ⟨bt, ((false, ()), ())⟩))))))
theorem ahv (ok0 : aR → Bool) (g0_r : aR → gB) (c0_r : aR → Bool) (g0_0 : aR → gC) (ok0b : aL → Bool) (g0b_r : aL → fq) (c0b_r : aL → Bool) (g0b_0 : aL → ft) (x : rn) (Q : dP.Y → Prop) : wpf te sf (JH 0 fF (cS fF 0 ok0b (nD g0b_r c0b_r g0b_0)) (JH 0 hY (cS hY 0 ok0 (rm g0_r c0_r g0_0)) au)) 1000 Try.f4 (dP.inp.inj x).tm (dP.inp.inj x).hp (fnK dP ES Q) (fun _ _ => False) = (we ok0 g0_r c0_r g0_0 ok0b g0b_r c0b_r g0b_0 (x.1.1) (x.1.2.1) (x.1.2.2.1)).wpR Q := by kernel_rfl
theorem Qj (ok0 : aR → Bool) (g0_r : aR → gB) (c0_r : aR → Bool) (g0_0 : aR → gC) (ok0b : aL → Bool) (g0b_r : aL → fq) (c0b_r : aL → Bool) (g0b_0 : aL → ft) (h0 : ∀ s : aR, ok0 s = true → ∃ m e, ay (jv) m s = some e ∧ (rm g0_r c0_r g0_0 s).run = some e) (h0b : ∀ s : aL, ok0b s = true → ∃ m e, ay (hZ) m s = some e ∧ (nD g0b_r c0b_r g0b_0 s).run = some e) (pre : rn → Bool) (F : rn → OT dP.Y) (hF : ∀ (x : rn) oy, pre x = true → (F x).run = some oy → (we ok0 g0_r c0_r g0_0 ok0b g0b_r c0b_r g0b_0 (x.1.1) (x.1.2.1) (x.1.2.2.1)).run = some oy) : aa Try.prog 4 (dP.aE pre F) :=
  az ak n8 qv (f := 4) (fn := Try.f4) (c := aj Try.f4) (by kernel_rfl) (by kernel_rfl) (by kernel_rfl) (S := dP) (k := 0) (by kernel_rfl) (fun R hR => (wk (c := (aj Try.f4)) (by kernel_rfl) (id := 0) (sh := fF) (by kernel_rfl) (bg ak n8 qv (sh := fF) hR (xs := ER) (aF (by kernel_rfl) (by kernel_rfl) hR) aS ae (n := 1000) (T := hZ) (fun s Q => U6 s Q) (ok := ok0b) (f := nD g0b_r c0b_r g0b_0) h0b) (wk (c := (aj Try.f4)) (by kernel_rfl) (id := 0) (sh := hY) (by kernel_rfl) (bg ak n8 qv (sh := hY) hR (xs := JA) (aF (by kernel_rfl) (by kernel_rfl) hR) aS ae (n := 1000) (T := jv) (fun s Q => ab3 s Q) (ok := ok0) (f := rm g0_r c0_r g0_0) h0) ae))) (n := 1000) (sel := ES) (fun v o h => by cases h; rfl) (pre := pre) (F := F) (T := fun x => we ok0 g0_r c0_r g0_0 ok0b g0b_r c0b_r g0b_0 (x.1.1) (x.1.2.1) (x.1.2.2.1)) (fun x Q => ahv ok0 g0_r c0_r g0_0 ok0b g0b_r c0b_r g0b_0 x Q) hF
def ata (t : kB) : Int × Int × List af × List UInt8 × Int × List UInt8 × Unit := (t.1, t.2.1.1, t.2.1.2, t.2.2.1, t.2.2.2.1, t.2.2.2.2, ())
def amm : OpY := (0, ⟨0, 0, 0, 0⟩, ⟨0, 0, 0, 0⟩, ⟨0, 0, 0, 0⟩, false)
theorem eC (p : Nat) (a : af) : su p a ⟨0, 0, 0, 0⟩ = ofP p a := by
  unfold su ofP
  rw [show (⟨0, 0, 0, 0⟩ : af).nat = 0 from rfl, Nat.add_zero]
theorem aqO (p : Nat) : ofP p ⟨0, 0, 0, 0⟩ = ⟨0, 0, 0, 0⟩ := by
  unfold ofP
  rw [show (⟨0, 0, 0, 0⟩ : af).nat = 0 from rfl, Nat.zero_mod]
  rfl
def nxT (o : OpY) (t : kB) : kB := cond (o.1 == 1) (iZ t 2 (bI t.1 o.2.1)) (cond (o.1 == 2) (cond (onB t.1 o.2.2) (oj t 1 (gJ t.1 o.2.2)) t) (cond (o.1 == 3) (oj t 2 (bI t.1 o.2.1)) (jk t).1))
theorem arF {t : kB} (h : (t.2.1.1 == 1) = false) : jk t = (iZ t 0 [], s7 (cp t.1 1) (tr eZ 64 (t.2.2.1 ++ [0] ++ [])), 0) := by
  unfold jk
  rw [h]
  rfl
def TX (A B : af) : Bool := A.w0 == B.w0 && (A.w1 == B.w1 && (A.w2 == B.w2 && (A.w3 == B.w3 && true)))
theorem Lk {A B : af} (h : A = B) : TX A B = true := by
  rw [h]
  unfold TX
  simp only [beq_self_eq_true, Bool.and_self]
theorem ajr {x y : Int} (h : x = y) : (!(x == y)) = false := by rw [h, beq_self_eq_true]; rfl
abbrev TQ : Type := kB × DW
def nxH (o : OpY) (q : TQ) : TQ := cond (o.1 == 1) (iZ q.1 2 (bI q.1.1 o.2.1), eM q.2.1 q.2.2 2 (bI q.1.1 o.2.1)) (cond (o.1 == 2) (cond (onB q.1.1 o.2.2) (oj q.1 1 (gJ q.1.1 o.2.2), eM q.2.1 q.2.2 1 (gJ q.1.1 o.2.2)) q)
  (cond (o.1 == 3) (oj q.1 2 (bI q.1.1 o.2.1), eM q.2.1 q.2.2 2 (bI q.1.1 o.2.1)) (iZ q.1 0 [], eM q.2.1 q.2.2 0 [])))
def JT (c : Int) (k : Nat) (q : TQ) : Prop := q.1.1 = c ∧ (q.1.2.1.1 == 1) = false ∧ q.1.2.2.2.1 = 0 ∧ q.1.2.2.1.length ≤ 40 * k ∧ q.1.2.2.2.2.length ≤ 40 * k ∧ q.2 = HD q.1.2.2.1
theorem amK {c : Int} {k : Nat} (o : OpY) {q : TQ} (h : JT c k q) : JT c (k + 1) (nxH o q) := by
  obtain ⟨⟨c', s, tk, at', b⟩, D⟩ := q
  obtain ⟨h1, h2, h3, h4, h5, h6⟩ := h
  have h1 : c' = c := h1
  have h6 : D = HD tk := h6
  have h4 : tk.length ≤ 40 * k := h4
  have h5 : b.length ≤ 40 * k := h5
  subst h1 h6
  have key : ∀ (m : UInt8) (B : List UInt8), B.length ≤ 32 → JT c' (k + 1) (iZ (c', s, tk, at', b) m B, eM (HD tk).1 (HD tk).2 m B) ∧ JT c' (k + 1) (oj (c', s, tk, at', b) m B, eM (HD tk).1 (HD tk).2 m B) := fun m B hB => by
    have l1 : (tk ++ [m] ++ B).length ≤ 40 * (k + 1) := by
      rw [List.length_append, List.length_append]
      simp only [List.length_cons, List.length_nil]
      omega
    have l2 : (b ++ B).length ≤ 40 * (k + 1) := by rw [List.length_append]; omega
    exact ⟨⟨rfl, h2, h3, l1, by show b.length ≤ _; omega, aiJ tk m B⟩, ⟨rfl, h2, h3, l1, l2, aiJ tk m B⟩⟩
  have hS := cO c' o.2.1
  have hP : onB c' o.2.2 = true → (gJ c' o.2.2).length = 32 := nM
  unfold nxH
  dsimp only
  generalize bI c' o.2.1 = S at hS
  generalize gJ c' o.2.2 = B at hP
  cases o.1 == 1
  · cases o.1 == 2
    · cases o.1 == 3
      · exact (key 0 [] (Nat.zero_le _)).1
      · exact (key 2 S (by omega)).2
    · rcases (Bool.eq_false_or_eq_true (onB c' o.2.2)).symm with g | g
      · rw [g]
        exact ⟨rfl, h2, h3, by show tk.length ≤ _; omega, by show b.length ≤ _; omega, rfl⟩
      · rw [g]
        exact (key 1 B (by have := hP g; omega)).2
  · exact (key 2 S (by omega)).1
def ad7 (c : Int) (l : List OpY) (k : Int) (q : TQ) : aL := ((c, l, (), (), k, ()), ((c, (), (), ()), ata q.1, (cp c 1, (), ()), q.1.2.2.2.2, q.2.1, q.2.2, ()))
theorem aoA {c : Int} (hs : aA c = true) {l : List OpY} {k : Nat} (hk : k < l.length) (hk3 : k < 60) {o : OpY} (ho : l.getD k amm = o) {q : TQ} (h : JT c k q) :
    (hZ (ad7 c l (k : Int) q)).run = some (.inl (ad7 c l ((k : Int) + 1) (nxH o q))) := by
  obtain ⟨⟨c', ⟨m, tp⟩, tk, at', b⟩, D⟩ := q
  obtain ⟨h1, h2, h3, h4, h5, h6⟩ := h
  have h1 : c' = c := h1
  have h2 : (m == 1) = false := h2
  have h3 : at' = 0 := h3
  have h6 : D = HD tk := h6
  have h4 : tk.length ≤ 40 * k := h4
  have h5 : b.length ≤ 40 * k := h5
  subst h1 h3
  obtain ⟨w, v, P⟩ := o
  obtain ⟨d, wt⟩ := D
  have hw : wt.length ≤ 128 := by
    have : wt = (HD tk).2 := congrArg Prod.snd h6
    rw [this]
    exact Kc _
  have hd : d.1 = 64 := by
    have : d = (HD tk).1 := congrArg Prod.fst h6
    rw [this]
    rfl
  have i1 : inR ((k : Int) + 1) = true := aK (by omega)
  have hso := cB hs
  have hS := cO c' v
  have hP : onB c' P = true → (gJ c' P).length = 32 := nM
  have tb : ∀ (o : List UInt8) (d : Ig) (w : List UInt8), o.length ≤ 100000 → dp (((), ()), ((c', (), (), ()), (cp c' 1, (), ()), d, o, w, ())) = true := fun o d w ho => decide_eq_true (show o.length ≤ _ by omega)
  have us : ∀ o r : List UInt8, o.length ≤ 100000 → cl ((o, r, ()), ()) = true := fun o r ho => decide_eq_true (show o.length ≤ _ by omega)
  have lb : b.length ≤ 100000 := by omega
  have lt : tk.length ≤ 100000 := by omega
  have bS : (b ++ bI c' v).length ≤ 100000 := by rw [List.length_append]; omega
  have ht' : l.getD k ((0 : Int), (⟨0, 0, 0, 0⟩ : af), (⟨0, 0, 0, 0⟩ : af), (⟨0, 0, 0, 0⟩ : af), false) = (w, v, P) := ho
  have z22 : (!(c' == c')) = false := by rw [beq_self_eq_true]; rfl
  have p1 : mm (((), v, ()), ((c', (), (), ()), (cp c' 1, (), ()), d, b, wt, ())) = true := (Bool.and_eq_true _ _).mpr ⟨hso, decide_eq_true hw⟩
  have p2 : jp (((c', (m, tp), tk, 0, b), v, ()), ()) = true := (Bool.and_eq_true _ _).mpr ⟨hso, decide_eq_true (show tk.length ≤ _ by omega)⟩
  have p3 : hG (((c', (m, tp), tk, 0, b), P, ()), ()) = true := decide_eq_true ⟨show tk.length ≤ _ by omega, show b.length ≤ _ by omega⟩
  have p4 : dm (((), P, ()), ((c', (), (), ()), (cp c' 1, (), ()), d, b, wt, ())) = true := decide_eq_true ⟨show b.length ≤ _ by omega, hw⟩
  have p5 : eR (((), v, ()), ((c', (), (), ()), (cp c' 1, (), ()), d, b, wt, ())) = true := (Bool.and_eq_true _ _).mpr ⟨hso, decide_eq_true ⟨show b.length ≤ _ by omega, hw⟩⟩
  have p6 : fJ (((c', (m, tp), tk, 0, b), v, ()), ()) = true := (Bool.and_eq_true _ _).mpr ⟨hso, decide_eq_true ⟨show tk.length ≤ _ by omega, show b.length ≤ _ by omega⟩⟩
  have p7 : jq (((c', (m, tp), tk, 0, b), ()), ()) = true := (Bool.and_eq_true _ _).mpr ⟨hso, decide_eq_true ⟨show tk.length ≤ _ by omega, show (0 : Int) ≤ 0 by omega, show (0 : Int) ≤ _ by omega⟩⟩
  have p8 : iH (((), ()), ((c', (), (), ()), (cp c' 1, (), ()), d, b, wt, ())) = true := (Bool.and_eq_true _ _).mpr ⟨hso, decide_eq_true ⟨hd, hw⟩⟩
  have ec : jk (c', (m, tp), tk, 0, b) = (iZ (c', (m, tp), tk, 0, b) 0 [], s7 (cp c' 1) (tr eZ 64 (tk ++ [0] ++ [])), 0) := arF h2
  have ex : VZ (cp c' 1) d wt = s7 (cp c' 1) (tr eZ 64 (tk ++ [0] ++ [])) := by
    have e1 : d = (HD tk).1 := congrArg Prod.fst h6
    have e2 : wt = (HD tk).2 := congrArg Prod.snd h6
    rw [e1, e2]
    exact arB _ _
  clear h6
  show (tP c' l (k : Int) c' c' m tp tk 0 b (cp c' 1) b d.1 d.2.1 d.2.2.1 d.2.2.2.1 d.2.2.2.2.1 d.2.2.2.2.2.1 d.2.2.2.2.2.2.1 d.2.2.2.2.2.2.2.1 d.2.2.2.2.2.2.2.2.1 d.2.2.2.2.2.2.2.2.2.2.1 wt).run = some (.inl (ad7 c' l ((k : Int) + 1) (nxH (w, v, P) ((c', (m, tp), tk, 0, b), (d, wt)))))
  obtain ⟨n, d0, d1, d2, d3, d4, d5, d6, d7, ⟨⟩, dc, ⟨⟩⟩ := d
  unfold tP
  dsimp only
  rw [Int.toNat_natCast, ht']
  dsimp only
  rw [ec, ex]
  generalize s7 (cp c' 1) (tr eZ 64 (tk ++ [0] ++ [])) = W
  refine (OT.aw (decide_eq_true (by omega))).trans ((ah (by rw [aI (show 0 ≤ (k : Int) ∧ (k : Int) < (l.length : Int) by omega)]; rfl)).trans ?_)
  rcases (Bool.eq_false_or_eq_true (w == 1)).symm with w1 | w1
  · refine (OT.al w1).trans ?_
    rcases (Bool.eq_false_or_eq_true (w == 2)).symm with w2 | w2
    · refine (OT.al w2).trans ?_
      rcases (Bool.eq_false_or_eq_true (w == 3)).symm with w3 | w3
      · have e : nxH (w, v, P) ((c', (m, tp), tk, 0, b), ((n, d0, d1, d2, d3, d4, d5, d6, d7, (), dc, ()), wt)) = (iZ (c', (m, tp), tk, 0, b) 0 [], eM (n, d0, d1, d2, d3, d4, d5, d6, d7, (), dc, ()) wt 0 []) := by unfold nxH; dsimp only; rw [w1, w2, w3]; rfl
        rw [e]
        have q1 := Lk (Eq.refl W)
        refine (OT.al w3).trans ((ah (by rw [p7, p8]; rfl)).trans ((OT.al (b := !TX W W) (by rw [q1]; rfl)).trans ((OT.al rfl).trans ((ah (by rw [tb b _ _ lb, us b _ lb]; rfl)).trans ((OT.al (ndT rfl)).trans ((OT.al z22).trans ((ah (by rw [i1]; rfl)).trans rfl)))))))
      · have e : nxH (w, v, P) ((c', (m, tp), tk, 0, b), ((n, d0, d1, d2, d3, d4, d5, d6, d7, (), dc, ()), wt)) = (oj (c', (m, tp), tk, 0, b) 2 (bI c' v), eM (n, d0, d1, d2, d3, d4, d5, d6, d7, (), dc, ()) wt 2 (bI c' v)) := by unfold nxH; dsimp only; rw [w1, w2, w3]; rfl
        rw [e]
        generalize bI c' v = S at bS
        exact (OT.aw w3).trans ((ah (by rw [p5, p6, tb _ _ _ bS, us _ _ bS]; rfl)).trans ((OT.al (ndT rfl)).trans ((OT.al z22).trans ((ah (by rw [i1]; rfl)).trans rfl))))
    · refine (OT.aw w2).trans ((ah (by rw [p3]; rfl)).trans ?_)
      rcases (Bool.eq_false_or_eq_true (onB c' P)).symm with g | g
      · have e : nxH (w, v, P) ((c', (m, tp), tk, 0, b), ((n, d0, d1, d2, d3, d4, d5, d6, d7, (), dc, ()), wt)) = ((c', (m, tp), tk, 0, b), ((n, d0, d1, d2, d3, d4, d5, d6, d7, (), dc, ()), wt)) := by unfold nxH; dsimp only; rw [w1, w2, g]; rfl
        rw [e]
        exact (OT.al g).trans ((ah (by rw [p4]; rfl)).trans ((OT.al g).trans ((ah (by rw [tb b _ _ lb, us b _ lb]; rfl)).trans ((OT.al (ndT rfl)).trans ((OT.al z22).trans ((ah (by rw [i1]; rfl)).trans rfl))))))
      · have e : nxH (w, v, P) ((c', (m, tp), tk, 0, b), ((n, d0, d1, d2, d3, d4, d5, d6, d7, (), dc, ()), wt)) = (oj (c', (m, tp), tk, 0, b) 1 (gJ c' P), eM (n, d0, d1, d2, d3, d4, d5, d6, d7, (), dc, ()) wt 1 (gJ c' P)) := by unfold nxH; dsimp only; rw [w1, w2, g]; rfl
        rw [e]
        have bP : (b ++ gJ c' P).length ≤ 100000 := by rw [List.length_append, hP g]; omega
        generalize gJ c' P = B at bP
        exact (OT.aw g).trans ((ah (by rw [p4]; rfl)).trans ((OT.aw g).trans ((ah (by rw [tb _ _ _ bP, us _ _ bP]; rfl)).trans ((OT.al (ndT rfl)).trans ((OT.al z22).trans ((ah (by rw [i1]; rfl)).trans rfl))))))
  · have e : nxH (w, v, P) ((c', (m, tp), tk, 0, b), ((n, d0, d1, d2, d3, d4, d5, d6, d7, (), dc, ()), wt)) = (iZ (c', (m, tp), tk, 0, b) 2 (bI c' v), eM (n, d0, d1, d2, d3, d4, d5, d6, d7, (), dc, ()) wt 2 (bI c' v)) := by unfold nxH; dsimp only; rw [w1]; rfl
    rw [e]
    generalize bI c' v = S
    exact (OT.aw w1).trans ((ah (by rw [p1, p2, tb b _ _ lb, us b _ lb]; rfl)).trans ((OT.al (ndT rfl)).trans ((OT.al z22).trans ((ah (by rw [i1]; rfl)).trans rfl))))
def HY (c : Int) (k : Nat) (t : kB) : Prop := t.1 = c ∧ (t.2.1.1 == 1) = true ∧ 0 ≤ t.2.2.2.1 ∧ t.2.2.2.1 ≤ k ∧ t.2.2.1.length ≤ 40 * k ∧ t.2.2.2.2.length ≤ 40 * k ∧ t.2.1.2.length ≤ 100000
theorem aiS {t : kB} (h : (t.2.1.1 == 1) = true) : jk t = cond (decide ((t.2.1.2.length : Int) ≤ t.2.2.2.1)) (t, ⟨0, 0, 0, 0⟩, 81) ((t.1, t.2.1, t.2.2.1, t.2.2.2.1 + 1, t.2.2.2.2), ofP (pS (cp t.1 1)) (t.2.1.2.getD t.2.2.2.1.toNat ⟨0, 0, 0, 0⟩), 0) := by
  unfold jk
  rw [h]
  rfl
theorem amJ {c : Int} {k : Nat} (o : OpY) {t : kB} (h : HY c k t) : HY c (k + 1) (nxT o t) := by
  obtain ⟨c', ⟨m, tp⟩, tk, at', b⟩ := t
  obtain ⟨h1, h2, h3, h3', h4, h5, h6⟩ := h
  have h1 : c' = c := h1
  have h3 : 0 ≤ at' := h3
  have h3' : at' ≤ k := h3'
  have h4 : tk.length ≤ 40 * k := h4
  have h5 : b.length ≤ 40 * k := h5
  subst h1
  have key : ∀ (n : UInt8) (B : List UInt8), B.length ≤ 32 → HY c' (k + 1) (iZ (c', (m, tp), tk, at', b) n B) ∧ HY c' (k + 1) (oj (c', (m, tp), tk, at', b) n B) := fun n B hB => by
    have l1 : (tk ++ [n] ++ B).length ≤ 40 * (k + 1) := by
      rw [List.length_append, List.length_append]
      simp only [List.length_cons, List.length_nil]
      omega
    have l2 : (b ++ B).length ≤ 40 * (k + 1) := by rw [List.length_append]; omega
    exact ⟨⟨rfl, h2, h3, by show at' ≤ _; omega, l1, by show b.length ≤ _; omega, h6⟩, ⟨rfl, h2, h3, by show at' ≤ _; omega, l1, l2, h6⟩⟩
  have hS := cO c' o.2.1
  have hP : onB c' o.2.2 = true → (gJ c' o.2.2).length = 32 := nM
  unfold nxT
  dsimp only
  generalize bI c' o.2.1 = S at hS
  generalize gJ c' o.2.2 = B at hP
  have same : HY c' (k + 1) (c', (m, tp), tk, at', b) := ⟨rfl, h2, h3, by show at' ≤ _; omega, by show tk.length ≤ _; omega, by show b.length ≤ _; omega, h6⟩
  cases o.1 == 1
  · cases o.1 == 2
    · cases o.1 == 3
      · show HY c' (k + 1) (jk (c', (m, tp), tk, at', b)).1
        rw [aiS h2]
        dsimp only
        cases decide ((tp.length : Int) ≤ at')
        · exact ⟨rfl, h2, by show 0 ≤ at' + 1; omega, by show at' + 1 ≤ _; omega, by show tk.length ≤ _; omega, by show b.length ≤ _; omega, h6⟩
        · exact same
      · exact (key 2 S (by omega)).2
    · rcases (Bool.eq_false_or_eq_true (onB c' o.2.2)).symm with g | g
      · rw [g]
        exact same
      · rw [g]
        exact (key 1 B (by have := hP g; omega)).2
  · exact (key 2 S (by omega)).1
theorem am7 {l : List af} {j : Nat} (h : l.length ≤ j) : l.drop j = [] := List.drop_eq_nil_of_le h
theorem arE {l : List af} {j : Nat} (h : j < l.length) : dA (l.drop j) = (l.getD j ⟨0, 0, 0, 0⟩, 0, l.drop (j + 1)) := by
  rw [List.drop_eq_getElem_cons h, List.getD_eq_getElem?_getD, List.getElem?_eq_getElem h]
  rfl
def adQ (c : Int) (l : List OpY) (k : Int) (t : kB) : aR := ((c, l, (), (), k, ()), ((c, (), (), ()), ata t, (cp c 1, t.2.1.2.drop t.2.2.2.1.toNat, ()), t.2.2.2.2, ()))
theorem aor {c : Int} (hs : aA c = true) {l : List OpY} {k : Nat} (hk : k < l.length) (hk3 : k < 60) {o : OpY} (ho : l.getD k amm = o) {t : kB} (h : HY c k t) :
    (jv (adQ c l (k : Int) t)).run = some (.inl (adQ c l ((k : Int) + 1) (nxT o t))) := by
  obtain ⟨c', ⟨m, tp⟩, tk, at', b⟩ := t
  obtain ⟨h1, h2, h3, h3', h4, h5, h6⟩ := h
  have h1 : c' = c := h1
  have h2 : (m == 1) = true := h2
  have h3 : 0 ≤ at' := h3
  have h3' : at' ≤ k := h3'
  have h4 : tk.length ≤ 40 * k := h4
  have h5 : b.length ≤ 40 * k := h5
  have h6 : tp.length ≤ 100000 := h6
  obtain ⟨j, rfl⟩ : ∃ j : Nat, at' = (j : Int) := ⟨at'.toNat, by omega⟩
  subst h1
  obtain ⟨w, v, P⟩ := o
  have i1 : inR ((k : Int) + 1) = true := aK (by omega)
  have hso := cB hs
  have hS := cO c' v
  have hP : onB c' P = true → (gJ c' P).length = 32 := nM
  have tb : ∀ (o : List UInt8) (t : List af), o.length ≤ 100000 → dH (((), ()), ((c', (), (), ()), (cp c' 1, t, ()), o, ())) = true := fun o t ho => decide_eq_true (show o.length ≤ _ by omega)
  have us : ∀ o r : List UInt8, o.length ≤ 100000 → cl ((o, r, ()), ()) = true := fun o r ho => decide_eq_true (show o.length ≤ _ by omega)
  have lb : b.length ≤ 100000 := by omega
  have bS : (b ++ bI c' v).length ≤ 100000 := by rw [List.length_append]; omega
  have ht' : l.getD k ((0 : Int), (⟨0, 0, 0, 0⟩ : af), (⟨0, 0, 0, 0⟩ : af), (⟨0, 0, 0, 0⟩ : af), false) = (w, v, P) := ho
  have z22 : (!(c' == c')) = false := by rw [beq_self_eq_true]; rfl
  have ld : (tp.drop j).length ≤ 100000 := by rw [List.length_drop]; omega
  have p1 : oB (((), v, ()), ((c', (), (), ()), (cp c' 1, tp.drop j, ()), b, ())) = true := hso
  have p2 : jp (((c', (m, tp), tk, (j : Int), b), v, ()), ()) = true := (Bool.and_eq_true _ _).mpr ⟨hso, decide_eq_true (show tk.length ≤ _ by omega)⟩
  have p3 : hG (((c', (m, tp), tk, (j : Int), b), P, ()), ()) = true := decide_eq_true ⟨show tk.length ≤ _ by omega, show b.length ≤ _ by omega⟩
  have p4 : fH (((), P, ()), ((c', (), (), ()), (cp c' 1, tp.drop j, ()), b, ())) = true := decide_eq_true (show b.length ≤ _ by omega)
  have p5 : fC (((), v, ()), ((c', (), (), ()), (cp c' 1, tp.drop j, ()), b, ())) = true := (Bool.and_eq_true _ _).mpr ⟨hso, decide_eq_true (show b.length ≤ _ by omega)⟩
  have p6 : fJ (((c', (m, tp), tk, (j : Int), b), v, ()), ()) = true := (Bool.and_eq_true _ _).mpr ⟨hso, decide_eq_true ⟨show tk.length ≤ _ by omega, show b.length ≤ _ by omega⟩⟩
  have p7 : jq (((c', (m, tp), tk, (j : Int), b), ()), ()) = true := (Bool.and_eq_true _ _).mpr ⟨hso, decide_eq_true ⟨show tk.length ≤ _ by omega, show (0 : Int) ≤ (j : Int) by omega, show (j : Int) ≤ _ by omega⟩⟩
  have p8 : iu (((), ()), ((c', (), (), ()), (cp c' 1, tp.drop j, ()), b, ())) = true := (Bool.and_eq_true _ _).mpr ⟨hso, decide_eq_true (show (tp.drop j).length ≤ _ by omega)⟩
  have ec0 : jk (c', (m, tp), tk, (j : Int), b) = cond (decide ((tp.length : Int) ≤ (j : Int))) ((c', (m, tp), tk, (j : Int), b), ⟨0, 0, 0, 0⟩, 81) ((c', (m, tp), tk, (j : Int) + 1, b), ofP (pS (cp c' 1)) (tp.getD (j : Int).toNat ⟨0, 0, 0, 0⟩), 0) := aiS h2
  rw [Int.toNat_natCast] at ec0
  show (zH c' l (k : Int) c' c' m tp tk (j : Int) b (cp c' 1) (tp.drop (j : Int).toNat) b).run = some (.inl (adQ c' l ((k : Int) + 1) (nxT (w, v, P) (c', (m, tp), tk, (j : Int), b))))
  rw [Int.toNat_natCast]
  unfold zH
  dsimp only
  rw [Int.toNat_natCast, ht']
  dsimp only
  refine (OT.aw (decide_eq_true (by omega))).trans ((ah (by rw [aI (show 0 ≤ (k : Int) ∧ (k : Int) < (l.length : Int) by omega)]; rfl)).trans ?_)
  rcases (Bool.eq_false_or_eq_true (w == 1)).symm with w1 | w1
  · refine (OT.al w1).trans ?_
    rcases (Bool.eq_false_or_eq_true (w == 2)).symm with w2 | w2
    · refine (OT.al w2).trans ?_
      rcases (Bool.eq_false_or_eq_true (w == 3)).symm with w3 | w3
      · have e : nxT (w, v, P) (c', (m, tp), tk, (j : Int), b) = (jk (c', (m, tp), tk, (j : Int), b)).1 := by unfold nxT; dsimp only; rw [w1, w2, w3]; rfl
        rw [e]
        refine (OT.al w3).trans ((ah (by rw [p7, p8]; rfl)).trans ?_)
        by_cases hj : tp.length ≤ j
        · rw [decide_eq_true (show (tp.length : Int) ≤ (j : Int) by omega)] at ec0
          have ed := am7 hj
          have q0 : su (pS (cp c' 1)) (dA (tp.drop j)).1 ⟨0, 0, 0, 0⟩ = ⟨0, 0, 0, 0⟩ := by rw [ed, eC]; exact aqO _
          have q1 : TX (su (pS (cp c' 1)) (dA (tp.drop j)).1 ⟨0, 0, 0, 0⟩) (jk (c', (m, tp), tk, (j : Int), b)).2.1 = true := Lk (by rw [q0, ec0]; rfl)
          have q2 : (!((dA (tp.drop j)).2.1 == (jk (c', (m, tp), tk, (j : Int), b)).2.2)) = false := ajr (by rw [ed, ec0]; rfl)
          have q3 : (jk (c', (m, tp), tk, (j : Int), b)).1 = (c', (m, tp), tk, (j : Int), b) := by rw [ec0]; rfl
          have q4 : (dA (tp.drop j)).2.2 = tp.drop j := by rw [ed]; rfl
          rw [q3, q4]
          exact (OT.al (b := !TX _ _) (by rw [q1]; rfl)).trans ((OT.al q2).trans ((ah (by rw [tb b _ lb, us b _ lb]; rfl)).trans ((OT.al (ndT rfl)).trans ((OT.al z22).trans ((ah (by rw [i1]; rfl)).trans rfl)))))
        · rw [decide_eq_false (show ¬ (tp.length : Int) ≤ (j : Int) by omega)] at ec0
          have ed := arE (l := tp) (j := j) (by omega)
          have q1 : TX (su (pS (cp c' 1)) (dA (tp.drop j)).1 ⟨0, 0, 0, 0⟩) (jk (c', (m, tp), tk, (j : Int), b)).2.1 = true := Lk (by rw [ed, eC, ec0]; rfl)
          have q2 : (!((dA (tp.drop j)).2.1 == (jk (c', (m, tp), tk, (j : Int), b)).2.2)) = false := ajr (by rw [ed, ec0]; rfl)
          have q3 : (jk (c', (m, tp), tk, (j : Int), b)).1 = (c', (m, tp), tk, (j : Int) + 1, b) := by rw [ec0]; rfl
          have q4 : (dA (tp.drop j)).2.2 = tp.drop (j + 1) := by rw [ed]
          rw [q3, q4]
          exact (OT.al (b := !TX _ _) (by rw [q1]; rfl)).trans ((OT.al q2).trans ((ah (by rw [tb b _ lb, us b _ lb]; rfl)).trans ((OT.al (ndT rfl)).trans ((OT.al z22).trans ((ah (by rw [i1]; rfl)).trans rfl)))))
      · have e : nxT (w, v, P) (c', (m, tp), tk, (j : Int), b) = oj (c', (m, tp), tk, (j : Int), b) 2 (bI c' v) := by unfold nxT; dsimp only; rw [w1, w2, w3]; rfl
        rw [e]
        generalize bI c' v = S at bS
        exact (OT.aw w3).trans ((ah (by rw [p5, p6, tb _ _ bS, us _ _ bS]; rfl)).trans ((OT.al (ndT rfl)).trans ((OT.al z22).trans ((ah (by rw [i1]; rfl)).trans rfl))))
    · refine (OT.aw w2).trans ((ah (by rw [p3]; rfl)).trans ?_)
      rcases (Bool.eq_false_or_eq_true (onB c' P)).symm with g | g
      · have e : nxT (w, v, P) (c', (m, tp), tk, (j : Int), b) = (c', (m, tp), tk, (j : Int), b) := by unfold nxT; dsimp only; rw [w1, w2, g]; rfl
        rw [e]
        exact (OT.al g).trans ((ah (by rw [p4]; rfl)).trans ((OT.al g).trans ((ah (by rw [tb b _ lb, us b _ lb]; rfl)).trans ((OT.al (ndT rfl)).trans ((OT.al z22).trans ((ah (by rw [i1]; rfl)).trans rfl))))))
      · have e : nxT (w, v, P) (c', (m, tp), tk, (j : Int), b) = oj (c', (m, tp), tk, (j : Int), b) 1 (gJ c' P) := by unfold nxT; dsimp only; rw [w1, w2, g]; rfl
        rw [e]
        have bP : (b ++ gJ c' P).length ≤ 100000 := by rw [List.length_append, hP g]; omega
        generalize gJ c' P = B at bP
        exact (OT.aw g).trans ((ah (by rw [p4]; rfl)).trans ((OT.aw g).trans ((ah (by rw [tb _ _ bP, us _ _ bP]; rfl)).trans ((OT.al (ndT rfl)).trans ((OT.al z22).trans ((ah (by rw [i1]; rfl)).trans rfl))))))
  · have e : nxT (w, v, P) (c', (m, tp), tk, (j : Int), b) = iZ (c', (m, tp), tk, (j : Int), b) 2 (bI c' v) := by unfold nxT; dsimp only; rw [w1]; rfl
    rw [e]
    generalize bI c' v = S
    exact (OT.aw w1).trans ((ah (by rw [p1, p2, tb b _ lb, us b _ lb]; rfl)).trans ((OT.al (ndT rfl)).trans ((OT.al z22).trans ((ah (by rw [i1]; rfl)).trans rfl))))
def tL (s : aR) : Bool := aA s.1.1 && decide (s.1.2.2.2.2.1 = 0 ∧ s.1.2.1.length ≤ 60 ∧ s.2.1.1 = s.1.1 ∧ s.2.2.1.1 = s.1.1 ∧ s.2.2.1.2.1 = 1 ∧ s.2.2.1.2.2.1.length ≤ 100000 ∧ s.2.2.1.2.2.2.1 = [] ∧ s.2.2.1.2.2.2.2.1 = 0 ∧ s.2.2.1.2.2.2.2.2.1 = [] ∧ s.2.2.2.1.1 = cp s.1.1 1 ∧ s.2.2.2.1.2.1 = s.2.2.1.2.2.1 ∧ s.2.2.2.2.1 = [])
def zE (_ : aR) : gB := ((false, ()), ())
def zG (_ : aR) : Bool := false
def zF (_ : aR) : gC := ((), ())
theorem ab5 : ∀ s : aR, tL s = true → ∃ m e, ay jv m s = some e ∧ (rm zE zG zF s).run = some e := by
  rintro ⟨⟨c, l, ⟨⟩, ⟨⟩, i, ⟨⟩⟩, ⟨⟨cw, ⟨⟩, ⟨⟩, ⟨⟩⟩, ⟨ct, m, tp, tk, at', b, ⟨⟩⟩, ⟨s, co, ⟨⟩⟩, o, ⟨⟩⟩⟩ h
  obtain ⟨hs, h⟩ := (Bool.and_eq_true _ _).mp h
  obtain ⟨h0, hl, h1, h2, h3, h4, h5, h6, h7, h8, h9, h10⟩ := of_decide_eq_true h
  dsimp only at h0 hl h1 h2 h3 h4 h5 h6 h7 h8 h9 h10 hs
  subst h0 h3 h5 h6 h7 h8 h9 h10
  subst h1
  subst h2
  have g0 : ∀ q, HY ct 0 q → HY ct 0 q := fun _ h => h
  have := (aT (T := jv) (fun k t => adQ ct l (k : Int) t) (fun k t => nxT (l.getD k amm) t)
    (fun _ => (⟨(.exit 0, kZ), ((), ())⟩ : aJ)) l.length (ct, (1, co), [], 0, []) (fun k t => HY ct k t) ⟨rfl, rfl, Int.le_refl _, Int.le_refl _, Nat.zero_le _, Nat.zero_le _, h4⟩
    (fun k t hk ht => ⟨aor hs hk (by omega) rfl ht, amJ _ ht⟩) (fun t _ => ?_)).1
  · obtain ⟨n, hn⟩ := this
    exact ⟨n, _, hn, rfl⟩
  · exact OT.al (decide_eq_false (by dsimp only [adQ]; omega))
def aiI (d : Ig) : List UInt64 := [d.2.1, d.2.2.1, d.2.2.2.1, d.2.2.2.2.1, d.2.2.2.2.2.1, d.2.2.2.2.2.2.1, d.2.2.2.2.2.2.2.1, d.2.2.2.2.2.2.2.2.1, d.2.2.2.2.2.2.2.2.2.2.1]
theorem am4 {d e : Ig} (h : d.1 = e.1) (hw : aiI d = aiI e) : d = e := by
  obtain ⟨n, d0, d1, d2, d3, d4, d5, d6, d7, ⟨⟩, dc, ⟨⟩⟩ := d
  obtain ⟨n', e0, e1, e2, e3, e4, e5, e6, e7, ⟨⟩, ec, ⟨⟩⟩ := e
  simp only [aiI, List.cons.injEq] at h hw
  obtain ⟨g0, g1, g2, g3, g4, g5, g6, g7, g8, _⟩ := hw
  subst h g0 g1 g2 g3 g4 g5 g6 g7 g8
  rfl
def ph (s : aL) : Bool := aA s.1.1 && decide (s.1.2.2.2.2.1 = 0 ∧ s.1.2.1.length ≤ 60 ∧ s.2.1.1 = s.1.1 ∧ s.2.2.1.1 = s.1.1 ∧ (s.2.2.1.2.1 == 1) = false ∧ s.2.2.1.2.2.2.1 = [] ∧ s.2.2.1.2.2.2.2.1 = 0 ∧ s.2.2.1.2.2.2.2.2.1 = [] ∧ s.2.2.2.1.1 = cp s.1.1 1 ∧ s.2.2.2.2.1 = [] ∧ s.2.2.2.2.2.1.1 = bn.1 ∧ aiI s.2.2.2.2.2.1 = aiI bn ∧ s.2.2.2.2.2.2.1 = [])
def tM (_ : aL) : fq := ((false, ()), ())
def tO (_ : aL) : Bool := false
def tN (_ : aL) : ft := ((), ())
theorem U7 : ∀ s : aL, ph s = true → ∃ m e, ay hZ m s = some e ∧ (nD tM tO tN s).run = some e := by
  rintro ⟨⟨c, l, ⟨⟩, ⟨⟩, i, ⟨⟩⟩, ⟨⟨cw, ⟨⟩, ⟨⟩, ⟨⟩⟩, ⟨ct, m, tp, tk, at', b, ⟨⟩⟩, ⟨s, ⟨⟩, ⟨⟩⟩, o, d, w, ⟨⟩⟩⟩ h
  obtain ⟨hs, h⟩ := (Bool.and_eq_true _ _).mp h
  obtain ⟨h0, hl, h1, h2, h3, h5, h6, h7, h8, h10, h11, h11', h12⟩ := of_decide_eq_true h
  have hdd : d = bn := am4 h11 h11'
  clear h11 h11'
  dsimp only at h0 hl h1 h2 h3 h5 h6 h7 h8 h10 h12 hs
  subst h0 h5 h6 h7 h8 h10 h12
  subst h1
  subst h2
  subst hdd
  have := (aT (T := hZ) (fun k q => ad7 ct l (k : Int) q) (fun k q => nxH (l.getD k amm) q)
    (fun _ => (⟨(.exit 0, jg), ((), ())⟩ : aJ)) l.length ((ct, (m, tp), [], 0, []), (bn, [])) (fun k q => JT ct k q) ⟨rfl, h3, rfl, Nat.zero_le _, Nat.zero_le _, am5⟩
    (fun k q hk hq => ⟨aoA hs hk (by omega) rfl hq, amK _ hq⟩) (fun q _ => ?_)).1
  · obtain ⟨n, hn⟩ := this
    exact ⟨n, _, hn, rfl⟩
  · exact OT.al (decide_eq_false (by dsimp only [ad7]; omega))
def ka (x : rn) : Bool := decide (x.1.2.1.2.length * 32 ≤ 140737488355328)
def Qk (_ : rn) : OT dP.Y := .ok ⟨bt, ((true, ()), ())⟩
theorem ahi {c m : Int} {n : Nat} (h : (bf c m n == 0) = true) : aA c = true ∧ n ≤ 100000 := by
  unfold bf at h
  cases hs : aA c
  · rw [hs] at h; cases h
  · refine ⟨rfl, ?_⟩
    rw [hs] at h
    cases hm : ((m == 0) || (m == 1))
    · rw [hm] at h; cases h
    · rw [hm] at h
      by_cases hn : (100000 : Int) < (n : Int)
      · rw [decide_eq_true hn] at h; cases h
      · omega
theorem ab4 : aa Try.prog 4 (dP.aE ka Qk) := Qj tL zE zG zF ph tM tO tN ab5 U7 _ _ fun x oy hp ho => by
  rw [← ho]
  clear ho
  obtain ⟨⟨c, ⟨m, tp⟩, l, ⟨⟩⟩, ⟨⟩⟩ := x
  show (we tL zE zG zF ph tM tO tN c (m, tp) l).run = some ⟨bt, ((true, ()), ())⟩
  have hp : nP (((m, tp), ()), ()) = true := hp
  have lt : (l.take 60).length ≤ 60 := by rw [List.length_take]; omega
  refine (ah (by rw [hp]; rfl)).trans ?_
  rcases (Bool.eq_false_or_eq_true (bf c m tp.length == 0)).symm with h | h
  · have q1 : (!(bf c m tp.length == bf c m tp.length)) = false := by rw [beq_self_eq_true]; rfl
    refine (OT.al h).trans ((OT.al h).trans ((OT.al q1).trans ((OT.aw (beq_self_eq_true (bf c m tp.length))).trans ?_)))
    have e : (!(bf c m tp.length == 0)) = true := by rw [h]; rfl
    exact congrArg (fun b : Bool => some (⟨bt, ((b, ()), ())⟩ : dP.Y)) e
  · obtain ⟨hs, hn⟩ := ahi h
    refine (OT.aw h).trans ?_
    rcases (Bool.eq_false_or_eq_true (m == 1)).symm with g | g
    · refine (OT.al g).trans ((OT.aw h).trans ((ah ?_).trans ((OT.al rfl).trans rfl)))
      simp only [List.all_cons, List.all_nil, Bool.and_true]
      exact (Bool.and_eq_true _ _).mpr ⟨hs, decide_eq_true ⟨rfl, lt, rfl, rfl, g, rfl, rfl, rfl, rfl, rfl, rfl, rfl, rfl⟩⟩
    · refine (OT.aw g).trans ((OT.aw h).trans ((ah ?_).trans ((OT.al rfl).trans rfl)))
      simp only [List.all_cons, List.all_nil, Bool.and_true]
      have g' : m = 1 := by simpa using g
      exact (Bool.and_eq_true _ _).mpr ⟨hs, decide_eq_true ⟨rfl, lt, rfl, rfl, g', hn, rfl, rfl, rfl, rfl, rfl, rfl⟩⟩
def Qi : bL := (dP.aE ka Qk)
theorem Mz : aa Try.prog 4 Qi := ab4
end Go.Proofs.Ytohjofabochgfaa

namespace Go.Proofs.Ytohjofabochgfaa
namespace Sx
open Go Go.RowKit Go.ChangeShapes Go.WideShapes Go.ChangeAt
theorem abX {H : Type} {enc : TypeId × Value → H} {P : Program} {w : World} {sp : Nat → Bool} {T : TypeId} {fs : Array Field} {f0 f1 : Field} (hu : P.underlying T = some (.struct fs)) (hfs : fs.toList = [f0, f1]) (ho : f1.offset = 1) (hc : P.cellsOf f1.type = 1)
    {v c0 c1 : Value} (hv : v.cells.toList = [c0, c1]) (h1 : c1.cells.toList = [c1]) {d : DataW H} {ps : List MemPlace} (h : DataW.Trod enc P w 0 sp true T v d ps) (hw : ∀ n ∈ d.weights P T, n ≤ reachBytes) :
    ∃ d1 p1, DataW.Trod enc P w 0 sp true f1.type c1 d1 p1 ∧ ∀ n ∈ d1.weights P f1.type, n ≤ reachBytes := by
  obtain ⟨fuel, hr⟩ := h
  rw [hv] at hr
  cases fuel with
  | zero => simp [DataW.trod] at hr
  | succ fuel =>
    simp only [DataW.trod, hu, hfs] at hr
    split at hr
    · simp only [List.mapM_cons, List.mapM_nil, Option.map_eq_some_iff, Option.bind_eq_bind, Option.bind_eq_some_iff, Option.pure_def] at hr
      obtain ⟨xs, ⟨x0, _, ys, ⟨x1, hx1, zs, hz, hy⟩, hxs⟩, hd⟩ := hr
      cases hz
      cases hy
      cases hxs
      cases hd
      refine ⟨x1.1, x1.2, ⟨fuel, ?_⟩, fun n hn => hw n ?_⟩
      · rw [h1]
        rw [ho, hc] at hx1
        exact hx1
      · simp only [DataW.weights, hu, hfs, List.map_cons, List.map_nil, DataW.weightsEach, List.append_nil, List.mem_append]
        exact .inr hn
    · cases hr
def asM (P : Program) (T T1 : TypeId) : Bool := match P.underlying T with
  | some (.struct fs) => match fs.toList with
    | [_, f1] => Nat.beq f1.offset 1 && (Nat.beq f1.type T1 && Nat.beq (P.cellsOf T1) 1)
    | _ => false
  | _ => false
theorem aqK {H : Type} {enc : TypeId × Value → H} {P : Program} {w : World} {sp : Nat → Bool} {T T1 : TypeId} (hb : asM P T T1 = true)
    {v c0 c1 : Value} (hv : v.cells.toList = [c0, c1]) (h1 : c1.cells.toList = [c1]) {d : DataW H} {ps : List MemPlace} (h : DataW.Trod enc P w 0 sp true T v d ps) (hw : ∀ n ∈ d.weights P T, n ≤ reachBytes) :
    ∃ d1 p1, DataW.Trod enc P w 0 sp true T1 c1 d1 p1 ∧ ∀ n ∈ d1.weights P T1, n ≤ reachBytes := by
  unfold asM at hb
  split at hb
  · rename_i fs hu
    split at hb
    · rename_i f0 f1 hfs
      simp only [Bool.and_eq_true] at hb
      have h0 := Nat.eq_of_beq_eq_true hb.1
      have h2 : f1.type = T1 := Nat.eq_of_beq_eq_true hb.2.1
      have h3 := Nat.eq_of_beq_eq_true hb.2.2
      subst h2
      exact abX hu hfs h0 h3 hv h1 h hw
    · cases hb
  · cases hb
end Sx
end Go.Proofs.Ytohjofabochgfaa
