/- A symbolic machine for Go code over plain data, and functions of the program as it shows them. No statement is proved in this file. -/
import Derived.KernelRfl
import Derived.Test.YtkedomfjjahjnaaXe
set_option linter.unusedSimpArgs false
set_option linter.unusedVariables false
set_option linter.unusedSectionVars false

namespace Go.Proofs.Ytkedomfjjahjnaa
open Sx Go
set_option maxRecDepth 100000
def du : ap := ⟨[.val false .int, .val false (.list iW), .val false .int], [], true, 0, false⟩
abbrev lm : Type := ((Int) × (List ((aa × (aa × (aa × Bool))))) × (Int) × Unit) × (Unit)
def jA : Shape := ⟨74, [(0, .val false .int), (1, .val false (.list (.prod .elem (.prod .elem (.prod .elem .bool))))), (2, .val false .int), (6, .ptr 0 0 0), (7, .ptr 1 0 0), (16, .val false .int)], [(0, .cells [.val false .u64, .val false .u64, .val false .u64, .val false .u64, .val false .u64, .val false .u64, .val false .u64, .val false .u64, .val false .bool]), (1, .row (.prod .elem (.prod .elem .bool)))], 0, true⟩
abbrev be : Type := ((Int) × (List ((aa × (aa × (aa × Bool))))) × (Int) × (Unit) × (Unit) × (Int) × Unit) × (((UInt64) × (UInt64) × (UInt64) × (UInt64) × (UInt64) × (UInt64) × (UInt64) × (UInt64) × (Bool) × Unit) × (List ((aa × (aa × Bool)))) × Unit)
def iI : Shape := ⟨74, [(0, .val false .int), (1, .val false (.list (.prod .elem (.prod .elem (.prod .elem .bool))))), (2, .val false .int), (6, .ptr 0 0 0), (7, .ptr 1 0 0)], [(0, .cells [.val false .u64, .val false .u64, .val false .u64, .val false .u64, .val false .u64, .val false .u64, .val false .u64, .val false .u64, .val false .bool]), (1, .row (.prod .elem (.prod .elem .bool)))], 0, true⟩
abbrev ee : Type := ((Int) × (List ((aa × (aa × (aa × Bool))))) × (Int) × (Unit) × (Unit) × Unit) × (((UInt64) × (UInt64) × (UInt64) × (UInt64) × (UInt64) × (UInt64) × (UInt64) × (UInt64) × (Bool) × Unit) × (List ((aa × (aa × Bool)))) × Unit)
def A3 : SE → Option Shape := ku [(0, iI)] none
def OE (a0 : Int) (a1 : List ((aa × (aa × (aa × Bool))))) (a2 : Int) (a16 : Int) (c0_0 : UInt64) (c0_1 : UInt64) (c0_2 : UInt64) (c0_3 : UInt64) (c0_4 : UInt64) (c0_5 : UInt64) (c0_6 : UInt64) (c0_7 : UInt64) (c0_8 : Bool) (c1 : List ((aa × (aa × Bool)))) : OT (Sum be aQ) :=
  let z0 : aa := { w0 := 0, w1 := 0, w2 := 0, w3 := 0 }
  (.br (decide (a16 < (15 : Int)))
  (gd [inB a16 15, decide (Int.toNat a16 + 0 < List.length c1), inR (a16 + (1 : Int))] (.ok (.inl ((a0, (a1, (a2, ((), ((), (a16 + (1 : Int), ())))))), ((c0_0, (c0_1, (c0_2, (c0_3, (c0_4, (c0_5, (c0_6, (c0_7, (c0_8, ()))))))))), (List.set c1 (Int.toNat a16 + 0) (z0, z0, true), ()))))))
  (.ok (.inr ⟨(.exit 0, iI), ((a0, (a1, (a2, ((), ((), ()))))), ((c0_0, (c0_1, (c0_2, (c0_3, (c0_4, (c0_5, (c0_6, (c0_7, (c0_8, ()))))))))), (c1, ())))⟩)))
def jD (s : be) : OT (Sum be aQ) := OE (s.1.1) (s.1.2.1) (s.1.2.2.1) (s.1.2.2.2.2.2.1) (s.2.1.1) (s.2.1.2.1) (s.2.1.2.2.1) (s.2.1.2.2.2.1) (s.2.1.2.2.2.2.1) (s.2.1.2.2.2.2.2.1) (s.2.1.2.2.2.2.2.2.1) (s.2.1.2.2.2.2.2.2.2.1) (s.2.1.2.2.2.2.2.2.2.2.1) (s.2.2.1)
theorem Ow (s : be) (Q : Sum be aQ → Prop) : wps te uE ay 1000 (bJ (al Try.f96) 0) (jA.inj s) (cW jA A3 (Q : Sum jA.T aQ → Prop)) = (jD s).wpR Q := by kernel_rfl
def mB (g0_0 : be → ee) (s : be) : OT aQ := (.ok ⟨(.exit 0, iI), g0_0 s⟩)
def jz : Shape := ⟨74, [(0, .val false .int), (2, .val false .int), (6, .ptr 0 0 0), (7, .ptr 1 0 0), (23, .val false (.list (.prod .elem (.prod .elem (.prod .elem .bool))))), (24, .val false .int), (25, .val false .int)], [(0, .cells [.val false .u64, .val false .u64, .val false .u64, .val false .u64, .val false .u64, .val false .u64, .val false .u64, .val false .u64, .val false .bool]), (1, .row (.prod .elem (.prod .elem .bool)))], 0, true⟩
abbrev bc : Type := ((Int) × (Int) × (Unit) × (Unit) × (List ((aa × (aa × (aa × Bool))))) × (Int) × (Int) × Unit) × (((UInt64) × (UInt64) × (UInt64) × (UInt64) × (UInt64) × (UInt64) × (UInt64) × (UInt64) × (Bool) × Unit) × (List ((aa × (aa × Bool)))) × Unit)
def jy : Shape := ⟨74, [(0, .val false .int), (2, .val false .int), (6, .ptr 0 0 0), (7, .ptr 1 0 0), (10, .ptr 2 0 0), (11, .val false .int), (23, .val false (.list (.prod .elem (.prod .elem (.prod .elem .bool))))), (24, .val false .int), (25, .val false .int), (29, .val false .int)], [(0, .cells [.val false .u64, .val false .u64, .val false .u64, .val false .u64, .val false .u64, .val false .u64, .val false .u64, .val false .u64, .val false .bool]), (1, .row (.prod .elem (.prod .elem .bool))), (2, .cells [.val false .u64, .val false .u64, .val false .u64, .val false .u64, .val false .u64, .val false .u64, .val false .u64, .val false .u64, .val false .u64, .val false .u64, .val false .u64, .val false .u64, .val false .bool])], 0, true⟩
abbrev aJ : Type := ((Int) × (Int) × (Unit) × (Unit) × (Unit) × (Int) × (List ((aa × (aa × (aa × Bool))))) × (Int) × (Int) × (Int) × Unit) × (((UInt64) × (UInt64) × (UInt64) × (UInt64) × (UInt64) × (UInt64) × (UInt64) × (UInt64) × (Bool) × Unit) × (List ((aa × (aa × Bool)))) × ((UInt64) × (UInt64) × (UInt64) × (UInt64) × (UInt64) × (UInt64) × (UInt64) × (UInt64) × (UInt64) × (UInt64) × (UInt64) × (UInt64) × (Bool) × Unit) × Unit)
def iG : Shape := ⟨74, [(0, .val false .int), (2, .val false .int), (6, .ptr 0 0 0), (7, .ptr 1 0 0), (10, .ptr 2 0 0), (11, .val false .int), (23, .val false (.list (.prod .elem (.prod .elem (.prod .elem .bool))))), (24, .val false .int), (25, .val false .int)], [(0, .cells [.val false .u64, .val false .u64, .val false .u64, .val false .u64, .val false .u64, .val false .u64, .val false .u64, .val false .u64, .val false .bool]), (1, .row (.prod .elem (.prod .elem .bool))), (2, .cells [.val false .u64, .val false .u64, .val false .u64, .val false .u64, .val false .u64, .val false .u64, .val false .u64, .val false .u64, .val false .u64, .val false .u64, .val false .u64, .val false .u64, .val false .bool])], 0, true⟩
abbrev cf : Type := ((Int) × (Int) × (Unit) × (Unit) × (Unit) × (Int) × (List ((aa × (aa × (aa × Bool))))) × (Int) × (Int) × Unit) × (((UInt64) × (UInt64) × (UInt64) × (UInt64) × (UInt64) × (UInt64) × (UInt64) × (UInt64) × (Bool) × Unit) × (List ((aa × (aa × Bool)))) × ((UInt64) × (UInt64) × (UInt64) × (UInt64) × (UInt64) × (UInt64) × (UInt64) × (UInt64) × (UInt64) × (UInt64) × (UInt64) × (UInt64) × (Bool) × Unit) × Unit)
def A1 : SE → Option Shape := ku [(4, iG)] none
def OD (a0 : Int) (a2 : Int) (a11 : Int) (a23 : List ((aa × (aa × (aa × Bool))))) (a24 : Int) (a25 : Int) (a29 : Int) (c0_0 : UInt64) (c0_1 : UInt64) (c0_2 : UInt64) (c0_3 : UInt64) (c0_4 : UInt64) (c0_5 : UInt64) (c0_6 : UInt64) (c0_7 : UInt64) (c0_8 : Bool) (c1 : List ((aa × (aa × Bool)))) (c2_0 : UInt64) (c2_1 : UInt64) (c2_2 : UInt64) (c2_3 : UInt64) (c2_4 : UInt64) (c2_5 : UInt64) (c2_6 : UInt64) (c2_7 : UInt64) (c2_8 : UInt64) (c2_9 : UInt64) (c2_10 : UInt64) (c2_11 : UInt64) (c2_12 : Bool) : OT (Sum aJ aQ) :=
  let z0 : Bool := inR (a29 + (1 : Int))
  (.br (decide (a29 < (4 : Int)))
  (gd [inR (a2 + a29)] (.br (nd { w0 := c2_0, w1 := c2_1, w2 := c2_2, w3 := c2_3 } (a2 + a29))
    (gd [decide ((0 : Int) ≤ a29), z0] (.ok (.inl ((a0, (a2, ((), ((), ((), (ior a11 (alZ (1 : Int) a29), (a23, (a24, (a25, (a29 + (1 : Int), ())))))))))), ((c0_0, (c0_1, (c0_2, (c0_3, (c0_4, (c0_5, (c0_6, (c0_7, (c0_8, ()))))))))), (c1, ((c2_0, (c2_1, (c2_2, (c2_3, (c2_4, (c2_5, (c2_6, (c2_7, (c2_8, (c2_9, (c2_10, (c2_11, (c2_12, ()))))))))))))), ())))))))
    (gd [z0] (.ok (.inl ((a0, (a2, ((), ((), ((), (a11, (a23, (a24, (a25, (a29 + (1 : Int), ())))))))))), ((c0_0, (c0_1, (c0_2, (c0_3, (c0_4, (c0_5, (c0_6, (c0_7, (c0_8, ()))))))))), (c1, ((c2_0, (c2_1, (c2_2, (c2_3, (c2_4, (c2_5, (c2_6, (c2_7, (c2_8, (c2_9, (c2_10, (c2_11, (c2_12, ()))))))))))))), ())))))))))
  (.ok (.inr ⟨(.exit 4, iG), ((a0, (a2, ((), ((), ((), (a11, (a23, (a24, (a25, ()))))))))), ((c0_0, (c0_1, (c0_2, (c0_3, (c0_4, (c0_5, (c0_6, (c0_7, (c0_8, ()))))))))), (c1, ((c2_0, (c2_1, (c2_2, (c2_3, (c2_4, (c2_5, (c2_6, (c2_7, (c2_8, (c2_9, (c2_10, (c2_11, (c2_12, ()))))))))))))), ()))))⟩)))
def jC (s : aJ) : OT (Sum aJ aQ) := OD (s.1.1) (s.1.2.1) (s.1.2.2.2.2.2.1) (s.1.2.2.2.2.2.2.1) (s.1.2.2.2.2.2.2.2.1) (s.1.2.2.2.2.2.2.2.2.1) (s.1.2.2.2.2.2.2.2.2.2.1) (s.2.1.1) (s.2.1.2.1) (s.2.1.2.2.1) (s.2.1.2.2.2.1) (s.2.1.2.2.2.2.1) (s.2.1.2.2.2.2.2.1) (s.2.1.2.2.2.2.2.2.1) (s.2.1.2.2.2.2.2.2.2.1) (s.2.1.2.2.2.2.2.2.2.2.1) (s.2.2.1) (s.2.2.2.1.1) (s.2.2.2.1.2.1) (s.2.2.2.1.2.2.1) (s.2.2.2.1.2.2.2.1) (s.2.2.2.1.2.2.2.2.1) (s.2.2.2.1.2.2.2.2.2.1) (s.2.2.2.1.2.2.2.2.2.2.1) (s.2.2.2.1.2.2.2.2.2.2.2.1) (s.2.2.2.1.2.2.2.2.2.2.2.2.1) (s.2.2.2.1.2.2.2.2.2.2.2.2.2.1) (s.2.2.2.1.2.2.2.2.2.2.2.2.2.2.1) (s.2.2.2.1.2.2.2.2.2.2.2.2.2.2.2.1) (s.2.2.2.1.2.2.2.2.2.2.2.2.2.2.2.2.1)
theorem Ou (s : aJ) (Q : Sum aJ aQ → Prop) : wps te uE ay 1000 (bJ (bJ (al Try.f96) 2) 4) (jy.inj s) (cW jy A1 (Q : Sum jy.T aQ → Prop)) = (jC s).wpR Q := by kernel_rfl
def mz (g4_4 : aJ → cf) (s : aJ) : OT aQ := (.ok ⟨(.exit 4, iG), g4_4 s⟩)
def iH : Shape := ⟨74, [(0, .val false .int), (6, .ptr 0 0 0), (7, .ptr 1 0 0)], [(0, .cells [.val false .u64, .val false .u64, .val false .u64, .val false .u64, .val false .u64, .val false .u64, .val false .u64, .val false .u64, .val false .bool]), (1, .row (.prod .elem (.prod .elem .bool)))], 0, true⟩
abbrev ec : Type := ((Int) × (Unit) × (Unit) × Unit) × (((UInt64) × (UInt64) × (UInt64) × (UInt64) × (UInt64) × (UInt64) × (UInt64) × (UInt64) × (Bool) × Unit) × (List ((aa × (aa × Bool)))) × Unit)
def A2 : SE → Option Shape := ku [(2, iH)] none
def A7 (ok4 : aJ → Bool) (g4_4 : aJ → cf) (a0 : Int) (a2 : Int) (a23 : List ((aa × (aa × (aa × Bool))))) (a24 : Int) (a25 : Int) (c0_0 : UInt64) (c0_1 : UInt64) (c0_2 : UInt64) (c0_3 : UInt64) (c0_4 : UInt64) (c0_5 : UInt64) (c0_6 : UInt64) (c0_7 : UInt64) (c0_8 : Bool) (c1 : List ((aa × (aa × Bool)))) : OT (Sum bc aQ) :=
  let z0 : aa := { w0 := 0, w1 := 0, w2 := 0, w3 := 0 }
  let z1 : aa × aa × Bool := (z0, z0, false)
  let z2 : aa × aa × aa × Bool := List.getD a23 (Int.toNat a25) (z0, z1)
  let z3 := z2.fst
  let z4 := z2.snd
  let z5 := z4.fst
  let z6 := z4.snd
  let z7 := z6.fst
  let z8 : (Int × Int × PUnit × PUnit × PUnit × Int × List (aa × aa × aa × Bool) × Int × Int × Int × PUnit) × (UInt64 × UInt64 × UInt64 × UInt64 × UInt64 × UInt64 × UInt64 × UInt64 × Bool × PUnit) × List (aa × aa × Bool) × (UInt64 × UInt64 × UInt64 × UInt64 × UInt64 × UInt64 × UInt64 × UInt64 × UInt64 × UInt64 × UInt64 × UInt64 × Bool × PUnit) × PUnit := ((a0, a2, (), (), (), (0 : Int), a23, a24, a25, (0 : Int), ()), (c0_0, c0_1, c0_2, c0_3, c0_4, c0_5, c0_6, c0_7, c0_8, ()), c1, (z3.w0, z3.w1, z3.w2, z3.w3, z5.w0, z5.w1, z5.w2, z5.w3, z7.w0, z7.w1, z7.w2, z7.w3, z6.snd, ()), ())
  let z9 : (Int × Int × PUnit × PUnit × PUnit × Int × List (aa × aa × aa × Bool) × Int × Int × PUnit) × (UInt64 × UInt64 × UInt64 × UInt64 × UInt64 × UInt64 × UInt64 × UInt64 × Bool × PUnit) × List (aa × aa × Bool) × (UInt64 × UInt64 × UInt64 × UInt64 × UInt64 × UInt64 × UInt64 × UInt64 × UInt64 × UInt64 × UInt64 × UInt64 × Bool × PUnit) × PUnit := g4_4 z8
  let z10 := z9.fst
  let z11 := z10.snd
  let z12 := z11.snd.snd.snd.snd
  let z13 := z12.fst
  let z14 : Bool := inR (z13 - (1 : Int))
  let z15 : Bool := inB (z13 - (1 : Int)) 15
  let z16 := z9.snd
  let z17 := z16.snd
  let z18 := z17.fst
  let z19 : Bool := decide (Int.toNat (z13 - (1 : Int)) + 0 < List.length z18)
  let z20 := z12.snd
  let z21 := z20.snd
  let z22 : Bool := inR (z21.snd.fst + (1 : Int))
  let z23 := z10.fst
  let z24 := z11.fst
  let z25 := z20.fst
  let z26 := z21.fst
  let z27 := z16.fst
  let z28 := z27.fst
  let z29 := z27.snd
  let z30 := z29.fst
  let z31 := z29.snd
  let z32 := z31.fst
  let z33 := z31.snd
  let z34 := z33.fst
  let z35 := z33.snd
  let z36 := z35.fst
  let z37 := z35.snd
  let z38 := z37.fst
  let z39 := z37.snd
  let z40 := z39.fst
  let z41 := z39.snd
  let z42 := z41.fst
  let z43 := z41.snd.fst
  let z44 := z17.snd.fst.snd.snd.snd.snd
  let z45 := z44.snd
  let z46 := z45.snd
  let z47 := z46.snd
  let z48 := z47.snd
  let z49 := z48.snd
  let z50 := z49.snd
  let z51 := z50.snd
  (.br (decide (a25 < a24))
  (gd [inB a25 (List.length a23), ok4 z8] (.br (decide ((0 : Int) < z13))
    (gd [z14, z14, z15, z19, z15, z19, z22] (.ok (.inl ((z23, (z24, ((), ((), (z25, (z26, (z21.snd.fst + (1 : Int), ()))))))), ((z28, (z30, (z32, (z34, (z36, (z38, (z40, (z42, (z43, ()))))))))), (List.set z18 (Int.toNat (z13 - (1 : Int)) + 0) (dY z23 (List.getD z18 (Int.toNat (z13 - (1 : Int)) + 0) z1) ({ w0 := z44.fst, w1 := z45.fst, w2 := z46.fst, w3 := z47.fst }, { w0 := z48.fst, w1 := z49.fst, w2 := z50.fst, w3 := z51.fst }, z51.snd.fst)), ()))))))
    (gd [z22] (.ok (.inl ((z23, (z24, ((), ((), (z25, (z26, (z21.snd.fst + (1 : Int), ()))))))), ((z28, (z30, (z32, (z34, (z36, (z38, (z40, (z42, (z43, ()))))))))), (z18, ()))))))))
  (.ok (.inr ⟨(.exit 2, iH), ((a0, ((), ((), ()))), ((c0_0, (c0_1, (c0_2, (c0_3, (c0_4, (c0_5, (c0_6, (c0_7, (c0_8, ()))))))))), (c1, ())))⟩)))
def fu (ok4 : aJ → Bool) (g4_4 : aJ → cf) (s : bc) : OT (Sum bc aQ) := A7 ok4 g4_4 (s.1.1) (s.1.2.1) (s.1.2.2.2.2.1) (s.1.2.2.2.2.2.1) (s.1.2.2.2.2.2.2.1) (s.2.1.1) (s.2.1.2.1) (s.2.1.2.2.1) (s.2.1.2.2.2.1) (s.2.1.2.2.2.2.1) (s.2.1.2.2.2.2.2.1) (s.2.1.2.2.2.2.2.2.1) (s.2.1.2.2.2.2.2.2.2.1) (s.2.1.2.2.2.2.2.2.2.2.1) (s.2.2.1)
theorem Ov (ok4 : aJ → Bool) (g4_4 : aJ → cf) (s : bc) (Q : Sum bc aQ → Prop) : wps te uE (bx 4 (dw jy 4 ok4 (mz g4_4)) ay) 1000 (bJ (al Try.f96) 2) (jz.inj s) (cW jz A2 (Q : Sum jz.T aQ → Prop)) = (fu ok4 g4_4 s).wpR Q := by kernel_rfl
def mA (g2_2 : bc → ec) (s : bc) : OT aQ := (.ok ⟨(.exit 2, iH), g2_2 s⟩)
def jx : Shape := ⟨74, [(0, .val false .int), (6, .ptr 0 0 0), (7, .ptr 1 0 0), (13, .ptr 2 0 0), (14, .ptr 3 0 0), (15, .val false .int)], [(0, .cells [.val false .u64, .val false .u64, .val false .u64, .val false .u64, .val false .u64, .val false .u64, .val false .u64, .val false .u64, .val false .bool]), (1, .row (.prod .elem (.prod .elem .bool))), (2, .cells [.val false .u64, .val false .u64, .val false .u64, .val false .u64, .val false .u64, .val false .u64, .val false .u64, .val false .u64, .val false .bool]), (3, .cells [.val false .u64, .val false .u64, .val false .u64, .val false .u64, .val false .u64, .val false .u64, .val false .u64, .val false .u64, .val false .bool])], 0, true⟩
abbrev ba : Type := ((Int) × (Unit) × (Unit) × (Unit) × (Unit) × (Int) × Unit) × (((UInt64) × (UInt64) × (UInt64) × (UInt64) × (UInt64) × (UInt64) × (UInt64) × (UInt64) × (Bool) × Unit) × (List ((aa × (aa × Bool)))) × ((UInt64) × (UInt64) × (UInt64) × (UInt64) × (UInt64) × (UInt64) × (UInt64) × (UInt64) × (Bool) × Unit) × ((UInt64) × (UInt64) × (UInt64) × (UInt64) × (UInt64) × (UInt64) × (UInt64) × (UInt64) × (Bool) × Unit) × Unit)
def iF : Shape := ⟨74, [(6, .ptr 0 0 0), (14, .ptr 1 0 0)], [(0, .cells [.val false .u64, .val false .u64, .val false .u64, .val false .u64, .val false .u64, .val false .u64, .val false .u64, .val false .u64, .val false .bool]), (1, .cells [.val false .u64, .val false .u64, .val false .u64, .val false .u64, .val false .u64, .val false .u64, .val false .u64, .val false .u64, .val false .bool])], 0, true⟩
abbrev eb : Type := ((Unit) × (Unit) × Unit) × (((UInt64) × (UInt64) × (UInt64) × (UInt64) × (UInt64) × (UInt64) × (UInt64) × (UInt64) × (Bool) × Unit) × ((UInt64) × (UInt64) × (UInt64) × (UInt64) × (UInt64) × (UInt64) × (UInt64) × (UInt64) × (Bool) × Unit) × Unit)
def A0 : SE → Option Shape := ku [(6, iF)] none
def OC (a0 : Int) (a15 : Int) (c0_0 : UInt64) (c0_1 : UInt64) (c0_2 : UInt64) (c0_3 : UInt64) (c0_4 : UInt64) (c0_5 : UInt64) (c0_6 : UInt64) (c0_7 : UInt64) (c0_8 : Bool) (c1 : List ((aa × (aa × Bool)))) (c2_0 : UInt64) (c2_1 : UInt64) (c2_2 : UInt64) (c2_3 : UInt64) (c2_4 : UInt64) (c2_5 : UInt64) (c2_6 : UInt64) (c2_7 : UInt64) (c2_8 : Bool) (c3_0 : UInt64) (c3_1 : UInt64) (c3_2 : UInt64) (c3_3 : UInt64) (c3_4 : UInt64) (c3_5 : UInt64) (c3_6 : UInt64) (c3_7 : UInt64) (c3_8 : Bool) : OT (Sum ba aQ) :=
  let z0 : aa := { w0 := 0, w1 := 0, w2 := 0, w3 := 0 }
  let z1 : aa × aa × Bool := dY a0 ({ w0 := c2_0, w1 := c2_1, w2 := c2_2, w3 := c2_3 }, { w0 := c2_4, w1 := c2_5, w2 := c2_6, w3 := c2_7 }, c2_8) (List.getD c1 (Int.toNat a15 + 0) (z0, z0, false))
  let z2 := z1.fst
  let z3 := z1.snd
  let z4 := z3.fst
  let z5 : aa × aa × Bool := dY a0 ({ w0 := c3_0, w1 := c3_1, w2 := c3_2, w3 := c3_3 }, { w0 := c3_4, w1 := c3_5, w2 := c3_6, w3 := c3_7 }, c3_8) z1
  let z6 := z5.fst
  let z7 := z5.snd
  let z8 := z7.fst
  (.br (decide ((0 : Int) ≤ a15))
  (gd [inB a15 15, decide (Int.toNat a15 + 0 < List.length c1), inR (a15 - (1 : Int))] (.ok (.inl ((a0, ((), ((), ((), ((), (a15 - (1 : Int), ())))))), ((c0_0, (c0_1, (c0_2, (c0_3, (c0_4, (c0_5, (c0_6, (c0_7, (c0_8, ()))))))))), (c1, ((z2.w0, (z2.w1, (z2.w2, (z2.w3, (z4.w0, (z4.w1, (z4.w2, (z4.w3, (z3.snd, ()))))))))), ((z6.w0, (z6.w1, (z6.w2, (z6.w3, (z8.w0, (z8.w1, (z8.w2, (z8.w3, (z7.snd, ()))))))))), ()))))))))
  (.ok (.inr ⟨(.exit 6, iF), (((), ((), ())), ((c0_0, (c0_1, (c0_2, (c0_3, (c0_4, (c0_5, (c0_6, (c0_7, (c0_8, ()))))))))), ((c3_0, (c3_1, (c3_2, (c3_3, (c3_4, (c3_5, (c3_6, (c3_7, (c3_8, ()))))))))), ())))⟩)))
def jB (s : ba) : OT (Sum ba aQ) := OC (s.1.1) (s.1.2.2.2.2.2.1) (s.2.1.1) (s.2.1.2.1) (s.2.1.2.2.1) (s.2.1.2.2.2.1) (s.2.1.2.2.2.2.1) (s.2.1.2.2.2.2.2.1) (s.2.1.2.2.2.2.2.2.1) (s.2.1.2.2.2.2.2.2.2.1) (s.2.1.2.2.2.2.2.2.2.2.1) (s.2.2.1) (s.2.2.2.1.1) (s.2.2.2.1.2.1) (s.2.2.2.1.2.2.1) (s.2.2.2.1.2.2.2.1) (s.2.2.2.1.2.2.2.2.1) (s.2.2.2.1.2.2.2.2.2.1) (s.2.2.2.1.2.2.2.2.2.2.1) (s.2.2.2.1.2.2.2.2.2.2.2.1) (s.2.2.2.1.2.2.2.2.2.2.2.2.1) (s.2.2.2.2.1.1) (s.2.2.2.2.1.2.1) (s.2.2.2.2.1.2.2.1) (s.2.2.2.2.1.2.2.2.1) (s.2.2.2.2.1.2.2.2.2.1) (s.2.2.2.2.1.2.2.2.2.2.1) (s.2.2.2.2.1.2.2.2.2.2.2.1) (s.2.2.2.2.1.2.2.2.2.2.2.2.1) (s.2.2.2.2.1.2.2.2.2.2.2.2.2.1)
theorem Ot (s : ba) (Q : Sum ba aQ → Prop) : wps te uE ay 1000 (bJ (al Try.f96) 6) (jx.inj s) (cW jx A0 (Q : Sum jx.T aQ → Prop)) = (jB s).wpR Q := by kernel_rfl
def my (g6_6 : ba → eb) (s : ba) : OT aQ := (.ok ⟨(.exit 6, iF), g6_6 s⟩)
def mv : az := ⟨[.val true (.prod .elem (.prod .elem .bool))], [], false⟩
def xM : SV → Option az := fun _ => some mv
def lk (ok0 : be → Bool) (g0_0 : be → ee) (ok4 : aJ → Bool) (g4_4 : aJ → cf) (ok2 : bc → Bool) (g2_2 : bc → ec) (ok6 : ba → Bool) (g6_6 : ba → eb) (a0 : Int) (a1 : List ((aa × (aa × (aa × Bool))))) (a2 : Int) : OT du.Y :=
  let z0 : aa := { w0 := 0, w1 := 0, w2 := 0, w3 := 0 }
  let z1 : aa × aa × Bool := (z0, z0, false)
  let z2 : (Int × List (aa × aa × aa × Bool) × Int × PUnit × PUnit × Int × PUnit) × (UInt64 × UInt64 × UInt64 × UInt64 × UInt64 × UInt64 × UInt64 × UInt64 × Bool × PUnit) × List (aa × aa × Bool) × PUnit := ((a0, a1, a2, (), (), (0 : Int), ()), ((0 : UInt64), (0 : UInt64), (0 : UInt64), (0 : UInt64), (0 : UInt64), (0 : UInt64), (0 : UInt64), (0 : UInt64), false, ()), [z1, z1, z1, z1, z1, z1, z1, z1, z1, z1, z1, z1, z1, z1, z1], ())
  let z3 : (Int × List (aa × aa × aa × Bool) × Int × PUnit × PUnit × PUnit) × (UInt64 × UInt64 × UInt64 × UInt64 × UInt64 × UInt64 × UInt64 × UInt64 × Bool × PUnit) × List (aa × aa × Bool) × PUnit := g0_0 z2
  let z4 := z3.fst
  let z5 := z4.snd
  let z6 := z5.fst
  let z7 := z3.snd
  let z8 := z7.fst
  let z9 := z8.snd
  let z10 := z9.snd
  let z11 := z10.snd
  let z12 := z11.snd
  let z13 := z12.snd
  let z14 := z13.snd
  let z15 := z14.snd
  let z16 : (Int × Int × PUnit × PUnit × List (aa × aa × aa × Bool) × Int × Int × PUnit) × (UInt64 × UInt64 × UInt64 × UInt64 × UInt64 × UInt64 × UInt64 × UInt64 × Bool × PUnit) × List (aa × aa × Bool) × PUnit := ((z4.fst, z5.snd.fst, (), (), z6, (↑(List.length z6) : Int), (0 : Int), ()), (z8.fst, z9.fst, z10.fst, z11.fst, z12.fst, z13.fst, z14.fst, z15.fst, z15.snd.fst, ()), z7.snd.fst, ())
  let z17 : (Int × PUnit × PUnit × PUnit) × (UInt64 × UInt64 × UInt64 × UInt64 × UInt64 × UInt64 × UInt64 × UInt64 × Bool × PUnit) × List (aa × aa × Bool) × PUnit := g2_2 z16
  let z18 := z17.snd
  let z19 := z18.fst
  let z20 := z19.snd
  let z21 := z20.snd
  let z22 := z21.snd
  let z23 := z22.snd
  let z24 := z23.snd
  let z25 := z24.snd
  let z26 := z25.snd
  let z27 : UInt64 × UInt64 × UInt64 × UInt64 × UInt64 × UInt64 × UInt64 × UInt64 × Bool × PUnit := ((0 : UInt64), (0 : UInt64), (0 : UInt64), (0 : UInt64), (0 : UInt64), (0 : UInt64), (0 : UInt64), (0 : UInt64), true, ())
  let z28 : (Int × PUnit × PUnit × PUnit × PUnit × Int × PUnit) × (UInt64 × UInt64 × UInt64 × UInt64 × UInt64 × UInt64 × UInt64 × UInt64 × Bool × PUnit) × List (aa × aa × Bool) × (UInt64 × UInt64 × UInt64 × UInt64 × UInt64 × UInt64 × UInt64 × UInt64 × Bool × PUnit) × (UInt64 × UInt64 × UInt64 × UInt64 × UInt64 × UInt64 × UInt64 × UInt64 × Bool × PUnit) × PUnit := ((z17.fst.fst, (), (), (), (), (14 : Int), ()), (z19.fst, z20.fst, z21.fst, z22.fst, z23.fst, z24.fst, z25.fst, z26.fst, z26.snd.fst, ()), z18.snd.fst, z27, z27, ())
  let z29 := (g6_6 z28).snd.snd.fst
  let z30 := z29.snd
  let z31 := z30.snd
  let z32 := z31.snd
  let z33 := z32.snd
  let z34 := z33.snd
  let z35 := z34.snd
  let z36 := z35.snd
  (gd [ok0 z2, ok2 z16, ok6 z28] (.ok ⟨mv, ((({ w0 := z29.fst, w1 := z30.fst, w2 := z31.fst, w3 := z32.fst }, { w0 := z33.fst, w1 := z34.fst, w2 := z35.fst, w3 := z36.fst }, z36.snd.fst), ()), ())⟩))
theorem U1 (ok0 : be → Bool) (g0_0 : be → ee) (ok4 : aJ → Bool) (g4_4 : aJ → cf) (ok2 : bc → Bool) (g2_2 : bc → ec) (ok6 : ba → Bool) (g6_6 : ba → eb) (x : lm) (Q : du.Y → Prop) : wpf te uE (bx 6 (dw jx 6 ok6 (my g6_6)) (bx 2 (dw jz 2 ok2 (mA g2_2)) (bx 0 (dw jA 0 ok0 (mB g0_0)) ay))) 1000 Try.f96 (du.inp.inj x).tm (du.inp.inj x).hp (fnK du xM Q) (fun _ _ => False) = (lk ok0 g0_0 ok4 g4_4 ok2 g2_2 ok6 g6_6 (x.1.1) (x.1.2.1) (x.1.2.2.1)).wpR Q := by kernel_rfl
theorem Hc (ok0 : be → Bool) (g0_0 : be → ee) (ok4 : aJ → Bool) (g4_4 : aJ → cf) (ok2 : bc → Bool) (g2_2 : bc → ec) (ok6 : ba → Bool) (g6_6 : ba → eb) (h0 : ∀ s : be, ok0 s = true → ∃ m e, aq (jD) m s = some e ∧ (mB g0_0 s).run = some e) (h4 : ∀ s : aJ, ok4 s = true → ∃ m e, aq (jC) m s = some e ∧ (mz g4_4 s).run = some e) (h2 : ∀ s : bc, ok2 s = true → ∃ m e, aq (fu ok4 g4_4) m s = some e ∧ (mA g2_2 s).run = some e) (h6 : ∀ s : ba, ok6 s = true → ∃ m e, aq (jB) m s = some e ∧ (my g6_6 s).run = some e) (pre : lm → Bool) (F : lm → OT du.Y) (hF : ∀ (x : lm) oy, pre x = true → (F x).run = some oy → (lk ok0 g0_0 ok4 g4_4 ok2 g2_2 ok6 g6_6 (x.1.1) (x.1.2.1) (x.1.2.2.1)).run = some oy) : ab Try.prog 96 (du.aK pre F) :=
  aE au jW lR (f := 96) (fn := Try.f96) (c := al Try.f96) (by kernel_rfl) (by kernel_rfl) (by kernel_rfl) (S := du) (k := 0) (by kernel_rfl) (fun R hR => (aI (c := (al Try.f96)) (by kernel_rfl) (id := 6) (by kernel_rfl) (bA au jW lR (sh := jx) hR (xs := A0) (aH (by kernel_rfl) (by kernel_rfl) hR) aX af (n := 1000) (T := jB) (fun s Q => Ot s Q) (ok := ok6) (f := my g6_6) h6) (aI (c := (al Try.f96)) (by kernel_rfl) (id := 2) (by kernel_rfl) (bA au jW lR (sh := jz) hR (xs := A2) (aH (by kernel_rfl) (by kernel_rfl) hR) aX (aI (c := (bJ (al Try.f96) 2)) (by kernel_rfl) (id := 4) (by kernel_rfl) (bA au jW lR (sh := jy) hR (xs := A1) (aH (by kernel_rfl) (by kernel_rfl) hR) aX af (n := 1000) (T := jC) (fun s Q => Ou s Q) (ok := ok4) (f := mz g4_4) h4) af) (n := 1000) (T := fu ok4 g4_4) (fun s Q => Ov ok4 g4_4 s Q) (ok := ok2) (f := mA g2_2) h2) (aI (c := (al Try.f96)) (by kernel_rfl) (id := 0) (by kernel_rfl) (bA au jW lR (sh := jA) hR (xs := A3) (aH (by kernel_rfl) (by kernel_rfl) hR) aX af (n := 1000) (T := jD) (fun s Q => Ow s Q) (ok := ok0) (f := mB g0_0) h0) af)))) (n := 1000) (sel := xM) (fun v o h => by cases h; rfl) (pre := pre) (F := F) (T := fun x => lk ok0 g0_0 ok4 g4_4 ok2 g2_2 ok6 g6_6 (x.1.1) (x.1.2.1) (x.1.2.2.1)) (fun x Q => U1 ok0 g0_0 ok4 g4_4 ok2 g2_2 ok6 g6_6 x Q) hF
abbrev C13 : Type := UInt64 × UInt64 × UInt64 × UInt64 × UInt64 × UInt64 × UInt64 × UInt64 × UInt64 × UInt64 × UInt64 × UInt64 × Bool × Unit
def SJ (t : Tm) : C13 := (t.1.w0, t.1.w1, t.1.w2, t.1.w3, t.2.1.w0, t.2.1.w1, t.2.1.w2, t.2.1.w3, t.2.2.1.w0, t.2.2.1.w1, t.2.2.1.w2, t.2.2.1.w3, t.2.2.2, ())
theorem YD {α : Type} (x : α) (l : List α) : ∀ n, n ≤ l.length → upto (fun k (o : List α) => o.set k x) l n = List.replicate n x ++ l.drop n
  | 0, _ => rfl
  | n + 1, h => by
    show (upto (fun k (o : List α) => o.set k x) l n).set n x = _
    rw [YD x l n (by omega), List.set_append_right _ _ (by rw [List.length_replicate]; omega), List.length_replicate, Nat.sub_self, List.drop_eq_getElem_cons (by omega), List.set_cons_zero, List.replicate_succ', List.append_assoc]
    rfl
def xP (s : be) : Bool := decide (s.1.2.2.2.2.2.1 = 0 ∧ s.2.2.1.length = 15)
def A6 (s : be) : ee := ((s.1.1, s.1.2.1, s.1.2.2.1, (), (), ()), (s.2.1, List.replicate 15 aB, ()))
theorem OB : ∀ s : be, xP s = true → ∃ m e, aq jD m s = some e ∧ (mB A6 s).run = some e := by
  rintro ⟨⟨c, l, at', ⟨⟩, ⟨⟩, i, ⟨⟩⟩, ⟨c0, S, ⟨⟩⟩⟩ h
  have h' := of_decide_eq_true h
  dsimp only at h'
  obtain ⟨rfl, hS⟩ := h'
  have := (bI (T := jD) (fun i o => (((c, l, at', (), (), (i : Int), ()), (c0, o, ())) : be)) (fun k (o : List Pt) => o.set k aB)
    (fun o => (⟨(.exit 0, iI), ((c, l, at', (), (), ()), (c0, o, ()))⟩ : aQ)) 15 S (fun _ o => o.length = 15) hS (fun k o hk ho => ⟨?_, (List.length_set ..).trans ho⟩) (fun o ho => ?_)).1
  · obtain ⟨m, hm⟩ := this
    rw [YD aB S 15 (by omega), List.drop_eq_nil_of_le (by omega), List.append_nil] at hm
    exact ⟨m, _, hm, rfl⟩
  · refine (OT.ao (decide_eq_true (by dsimp only; omega))).trans ((ai ?_).trans ?_)
    · simp only [ho, Int.toNat_natCast, Nat.add_zero, List.all_cons, List.all_nil, Bool.and_true, Bool.and_eq_true]
      exact ⟨bU (by omega), decide_eq_true (by omega), bC (by omega)⟩
    · simp only [OT.j4, Int.toNat_natCast, Nat.add_zero]
      rfl
  · exact OT.ax (decide_eq_false (by dsimp only; omega))
def oB (k : aa) (a : Int) (n : Nat) (d : Int) : Int := cond (nd k (a + (n : Int))) (ior d (alZ 1 (n : Int))) d
def Lm (k : aa) (a : Int) : Int := upto (oB k a) 0 4
def agp (b : Bool) : Int := cond b 1 0
theorem abF (k : aa) (a : Int) : Lm k a = agp (nd k a) + 2 * agp (nd k (a + 1)) + 4 * agp (nd k (a + 2)) + 8 * agp (nd k (a + 3)) := by
  have e0 : a + ((0 : Nat) : Int) = a := by omega
  show oB k a 3 (oB k a 2 (oB k a 1 (oB k a 0 0))) = _
  unfold oB
  rw [e0, show a + ((1 : Nat) : Int) = a + 1 by omega, show a + ((2 : Nat) : Int) = a + 2 by omega, show a + ((3 : Nat) : Int) = a + 3 by omega]
  generalize nd k a = b0
  generalize nd k (a + 1) = b1
  generalize nd k (a + 2) = b2
  generalize nd k (a + 3) = b3
  cases b0 <;> cases b1 <;> cases b2 <;> cases b3 <;> decide +kernel
theorem abE (k : aa) (a : Int) : 0 ≤ Lm k a ∧ Lm k a ≤ 15 := by
  rw [abF]
  have h : ∀ b, 0 ≤ agp b ∧ agp b ≤ 1 := fun b => by cases b <;> decide
  have h0 := h (nd k a)
  have h1 := h (nd k (a + 1))
  have h2 := h (nd k (a + 2))
  have h3 := h (nd k (a + 3))
  omega
def PB (c at' d : Int) (l : List Tm) (n i : Int) (b : Int) (c0 : C9) (S : List Pt) (t : C13) : aJ := ((c, at', (), (), (), d, l, n, i, b, ()), (c0, S, t, ()))
def keyOf (t : C13) : aa := ⟨t.1, t.2.1, t.2.2.1, t.2.2.2.1⟩
def ki (s : aJ) : Bool := decide (s.1.2.2.2.2.2.1 = 0 ∧ s.1.2.2.2.2.2.2.2.2.2.1 = 0 ∧ 0 ≤ s.1.2.1 ∧ s.1.2.1 ≤ 1000)
def mw (s : aJ) : cf := ((s.1.1, s.1.2.1, (), (), (), Lm (keyOf s.2.2.2.1) s.1.2.1, s.1.2.2.2.2.2.2.1, s.1.2.2.2.2.2.2.2.1, s.1.2.2.2.2.2.2.2.2.1, ()), s.2)
theorem Oz : ∀ s : aJ, ki s = true → ∃ m e, aq jC m s = some e ∧ (mz mw s).run = some e := by
  rintro ⟨⟨c, at', ⟨⟩, ⟨⟩, ⟨⟩, d, l, n, i, b, ⟨⟩⟩, ⟨c0, S, t, ⟨⟩⟩⟩ h
  have h' := of_decide_eq_true h
  dsimp only at h'
  obtain ⟨rfl, rfl, ha0, ha1⟩ := h'
  have := (bI (T := jC) (fun b d => (((c, at', (), (), (), d, l, n, i, (b : Int), ()), (c0, S, t, ())) : aJ)) (oB (keyOf t) at')
    (fun d => (⟨(.exit 4, iG), ((c, at', (), (), (), d, l, n, i, ()), (c0, S, t, ()))⟩ : aQ)) 4 0 (fun _ _ => True) trivial (fun k d hk _ => ⟨?_, trivial⟩) (fun d _ => ?_)).1
  · obtain ⟨m, hm⟩ := this
    exact ⟨m, _, hm, rfl⟩
  · have hr : inR ((k : Int) + 1) = true := bC (by omega)
    have hgr : ∀ z : OT (Sum aJ aQ), (gd [inR ((k : Int) + 1)] z).run = z.run := fun z => ai (by rw [hr]; rfl)
    refine (OT.ao (decide_eq_true (by dsimp only; omega))).trans ((ai ?_).trans ?_)
    · simp only [List.all_cons, List.all_nil, Bool.and_true]
      exact bC (by omega)
    · unfold oB
      rcases (Bool.eq_false_or_eq_true (nd (keyOf t) (at' + (k : Int)))).symm with hb | hb
      · rw [hb]
        exact (OT.ax hb).trans ((hgr _).trans rfl)
      · rw [hb]
        refine (OT.ao hb).trans ((ai ?_).trans rfl)
        simp only [List.all_cons, List.all_nil, Bool.and_true, Bool.and_eq_true]
        exact ⟨decide_eq_true (by omega), hr⟩
  · exact OT.ax (decide_eq_false (by dsimp only; omega))
def dq (c a : Int) (l : List Tm) (k : Nat) (S : List Pt) : List Pt := cond (decide (0 < Lm (l.getD k eE).1 a))
  (S.set (Lm (l.getD k eE).1 a - 1).toNat (dY c (S.getD (Lm (l.getD k eE).1 a - 1).toNat gA) (l.getD k eE).2)) S
theorem jP (c a : Int) (l : List Tm) (k : Nat) (S : List Pt) : (dq c a l k S).length = S.length := by
  unfold dq
  cases decide (0 < Lm (l.getD k eE).1 a)
  · rfl
  · exact List.length_set ..
def ah0 (c a : Int) (l : List Tm) (S : List Pt) : List Pt := upto (dq c a l) S l.length
def xO (s : bc) : Bool := decide (s.1.2.2.2.2.2.1 = (s.1.2.2.2.2.1.length : Int) ∧ s.1.2.2.2.2.2.2.1 = 0 ∧ s.2.2.1.length = 15 ∧ (0 ≤ s.1.2.1 ∧ s.1.2.1 ≤ 1000) ∧ s.1.2.2.2.2.1.length ≤ 140737488355328)
def A5 (s : bc) : ec := ((s.1.1, (), (), ()), (s.2.1, ah0 s.1.1 s.1.2.1 s.1.2.2.2.2.1 s.2.2.1, ()))
theorem ajQ {ok4 : aJ → Bool} {g4 : aJ → cf} {c a : Int} {l : List Tm} {k : Nat} {c0 : C9} {S : List Pt} {t : Tm} {d : Int} (ht : l.getD k eE = t) (hk : k < l.length) (hl : l.length ≤ 140737488355328) (hS : S.length = 15) (hd : 0 ≤ d ∧ d ≤ 15)
    (h4 : ok4 (PB c a 0 l (l.length : Int) (k : Int) 0 c0 S (SJ t)) = true)
    (e4 : g4 (PB c a 0 l (l.length : Int) (k : Int) 0 c0 S (SJ t)) = ((c, a, (), (), (), d, l, (l.length : Int), (k : Int), ()), (c0, S, SJ t, ()))) :
    (fu ok4 g4 ((c, a, (), (), l, (l.length : Int), (k : Int), ()), (c0, S, ()))).run = some (.inl ((c, a, (), (), l, (l.length : Int), ((k + 1 : Nat) : Int), ()), (c0, cond (decide (0 < d)) (S.set (d - 1).toNat (dY c (S.getD (d - 1).toNat gA) t.2)) S, ()))) := by
  have hr : inR ((k : Int) + 1) = true := bC (by omega)
  unfold PB at h4 e4
  unfold fu A7
  have ht' : List.getD l (Int.toNat (k : Int)) (⟨0, 0, 0, 0⟩, ⟨0, 0, 0, 0⟩, ⟨0, 0, 0, 0⟩, false) = t := by rw [Int.toNat_natCast]; exact ht
  simp only [ht']
  refine (OT.ao (decide_eq_true (by omega))).trans ((ai ?_).trans ?_)
  · simp only [List.all_cons, List.all_nil, Bool.and_true, Bool.and_eq_true]
    exact ⟨bU (by omega), h4⟩
  · have e4' : g4 ((c, a, (), (), (), 0, l, (l.length : Int), (k : Int), 0, ()), (c0.1, c0.2.1, c0.2.2.1, c0.2.2.2.1, c0.2.2.2.2.1, c0.2.2.2.2.2.1, c0.2.2.2.2.2.2.1, c0.2.2.2.2.2.2.2.1, c0.2.2.2.2.2.2.2.2.1, ()), S, (t.1.w0, t.1.w1, t.1.w2, t.1.w3, t.2.1.w0, t.2.1.w1, t.2.1.w2, t.2.1.w3, t.2.2.1.w0, t.2.2.1.w1, t.2.2.1.w2, t.2.2.1.w3, t.2.2.2, ()), ()) = ((c, a, (), (), (), d, l, (l.length : Int), (k : Int), ()), (c0, S, SJ t, ())) := e4
    simp only [e4']
    by_cases h0 : 0 < d
    · rw [decide_eq_true h0]
      refine (OT.ao rfl).trans ((ai ?_).trans ?_)
      · simp only [hS, Nat.add_zero, hr, List.all_cons, List.all_nil, Bool.and_true, Bool.and_eq_true]
        have i1 : inR (d - 1) = true := bC (by omega)
        have i2 : inB (d - 1) 15 = true := bU (by omega)
        have i3 : decide ((d - 1).toNat < 15) = true := decide_eq_true (by omega)
        exact ⟨i1, i1, i2, i3, i2, i3⟩
      · rfl
    · rw [decide_eq_false h0]
      refine (OT.ax rfl).trans ((ai ?_).trans rfl)
      simp only [hr, List.all_cons, List.all_nil, Bool.and_true]
theorem OA : ∀ s : bc, xO s = true → ∃ m e, aq (fu ki mw) m s = some e ∧ (mA A5 s).run = some e := by
  rintro ⟨⟨c, at', ⟨⟩, ⟨⟩, l, n, i, ⟨⟩⟩, ⟨c0, S, ⟨⟩⟩⟩ h
  have h' := of_decide_eq_true h
  dsimp only at h'
  obtain ⟨rfl, rfl, hS, ⟨ha0, ha1⟩, hl⟩ := h'
  have := (bI (T := fu ki mw) (fun i o => (((c, at', (), (), l, (l.length : Int), (i : Int), ()), (c0, o, ())) : bc)) (dq c at' l)
    (fun o => (⟨(.exit 2, iH), ((c, (), (), ()), (c0, o, ()))⟩ : aQ)) l.length S (fun _ o => o.length = 15) hS (fun k o hk ho => ⟨?_, (jP c at' l k o).trans ho⟩) (fun o ho => ?_)).1
  · obtain ⟨m, hm⟩ := this
    exact ⟨m, _, hm, rfl⟩
  · exact ajQ rfl hk hl ho (abE _ _) (decide_eq_true ⟨rfl, rfl, ha0, ha1⟩) rfl
  · exact OT.ax (decide_eq_false (by dsimp only; omega))
def eY (c : Int) (S : List Pt) (n : Nat) (w : Pt × Pt) : Pt × Pt := (dY c w.1 (S.getD (14 - n) gA), dY c w.2 (dY c w.1 (S.getD (14 - n) gA)))
def alU (c : Int) (S : List Pt) : Pt × Pt := upto (eY c S) (aB, aB) 15
def xN (s : ba) : Bool := decide (s.1.2.2.2.2.2.1 = 14 ∧ s.2.2.1.length = 15 ∧ kE s.2.2.2.1 = aB ∧ kE s.2.2.2.2.1 = aB)
def A4 (s : ba) : eb := (((), (), ()), (s.2.1, aV (alU s.1.1 s.2.2.1).2, ()))
theorem Oy : ∀ s : ba, xN s = true → ∃ m e, aq jB m s = some e ∧ (my A4 s).run = some e := by
  rintro ⟨⟨c, ⟨⟩, ⟨⟩, ⟨⟩, ⟨⟩, i, ⟨⟩⟩, ⟨c0, S, r, a, ⟨⟩⟩⟩ h
  have h' := of_decide_eq_true h
  dsimp only at h'
  obtain ⟨rfl, hS, hr, ha⟩ := h'
  have hr2 : r = aV aB := by rw [← hr]; rfl
  have ha2 : a = aV aB := by rw [← ha]; rfl
  subst hr2 ha2
  have := (bI (T := jB) (fun n w => (((c, (), (), (), (), 14 - (n : Int), ()), (c0, S, aV w.1, aV w.2, ())) : ba)) (eY c S)
    (fun w => (⟨(.exit 6, iF), (((), (), ()), (c0, aV w.2, ()))⟩ : aQ)) 15 (aB, aB) (fun _ _ => True) trivial (fun n w hn _ => ⟨?_, trivial⟩) (fun w _ => ?_)).1
  · obtain ⟨m, hm⟩ := this
    exact ⟨m, _, hm, rfl⟩
  · have e1 : ((14 : Int) - (n : Int)).toNat = 14 - n := by omega
    have e2 : (14 : Int) - (n : Int) - 1 = 14 - ((n + 1 : Nat) : Int) := by omega
    refine (OT.ao (decide_eq_true (by dsimp only; omega))).trans ((ai ?_).trans ?_)
    · simp only [e1, hS, Nat.add_zero, List.all_cons, List.all_nil, Bool.and_true, Bool.and_eq_true]
      exact ⟨bU (by omega), decide_eq_true (by omega), bC (by omega)⟩
    · rw [← e2]
      simp only [OT.j4, e1, Nat.add_zero]
      rfl
  · exact OT.ax (decide_eq_false (by dsimp only; omega))
def PC (c : Int) (l : List Tm) (a : Int) : Pt := (alU c (ah0 c a l (List.replicate 15 aB))).2
theorem Hd {ok4 : aJ → Bool} {g4 : aJ → cf} {ok0 : be → Bool} {g0 : be → ee} {ok2 : bc → Bool} {g2 : bc → ec} {ok6 : ba → Bool} {g6 : ba → eb} {c a : Int} {l : List Tm} {S0 S : List Pt} {R : Pt} {z : C9}
    (h0 : ok0 ((c, l, a, (), (), 0, ()), (aV gA, List.replicate 15 gA, ())) = true) (e0 : g0 ((c, l, a, (), (), 0, ()), (aV gA, List.replicate 15 gA, ())) = ((c, l, a, (), (), ()), (aV gA, S0, ())))
    (h2 : ok2 ((c, a, (), (), l, (l.length : Int), 0, ()), (aV gA, S0, ())) = true) (e2 : g2 ((c, a, (), (), l, (l.length : Int), 0, ()), (aV gA, S0, ())) = ((c, (), (), ()), (aV gA, S, ())))
    (h6 : ok6 ((c, (), (), (), (), 14, ()), (aV gA, S, aV aB, aV aB, ())) = true) (e6 : g6 ((c, (), (), (), (), 14, ()), (aV gA, S, aV aB, aV aB, ())) = (((), (), ()), (z, aV R, ()))) :
    (lk ok0 g0 ok4 g4 ok2 g2 ok6 g6 c l a).run = some ⟨mv, ((R, ()), ())⟩ := by
  have e0' : g0 ((c, l, a, (), (), 0, ()), ((0, 0, 0, 0, 0, 0, 0, 0, false, ()), [((⟨0, 0, 0, 0⟩, ⟨0, 0, 0, 0⟩, false) : Pt), ((⟨0, 0, 0, 0⟩, ⟨0, 0, 0, 0⟩, false) : Pt), ((⟨0, 0, 0, 0⟩, ⟨0, 0, 0, 0⟩, false) : Pt), ((⟨0, 0, 0, 0⟩, ⟨0, 0, 0, 0⟩, false) : Pt), ((⟨0, 0, 0, 0⟩, ⟨0, 0, 0, 0⟩, false) : Pt), ((⟨0, 0, 0, 0⟩, ⟨0, 0, 0, 0⟩, false) : Pt), ((⟨0, 0, 0, 0⟩, ⟨0, 0, 0, 0⟩, false) : Pt), ((⟨0, 0, 0, 0⟩, ⟨0, 0, 0, 0⟩, false) : Pt), ((⟨0, 0, 0, 0⟩, ⟨0, 0, 0, 0⟩, false) : Pt), ((⟨0, 0, 0, 0⟩, ⟨0, 0, 0, 0⟩, false) : Pt), ((⟨0, 0, 0, 0⟩, ⟨0, 0, 0, 0⟩, false) : Pt), ((⟨0, 0, 0, 0⟩, ⟨0, 0, 0, 0⟩, false) : Pt), ((⟨0, 0, 0, 0⟩, ⟨0, 0, 0, 0⟩, false) : Pt), ((⟨0, 0, 0, 0⟩, ⟨0, 0, 0, 0⟩, false) : Pt), ((⟨0, 0, 0, 0⟩, ⟨0, 0, 0, 0⟩, false) : Pt)], ())) = ((c, l, a, (), (), ()), (aV gA, S0, ())) := e0
  have e2' : g2 ((c, a, (), (), l, (l.length : Int), 0, ()), ((aV gA).1, (aV gA).2.1, (aV gA).2.2.1, (aV gA).2.2.2.1, (aV gA).2.2.2.2.1, (aV gA).2.2.2.2.2.1, (aV gA).2.2.2.2.2.2.1, (aV gA).2.2.2.2.2.2.2.1, (aV gA).2.2.2.2.2.2.2.2.1, ()), S0, ()) = ((c, (), (), ()), (aV gA, S, ())) := e2
  have e6' : g6 ((c, (), (), (), (), 14, ()), ((aV gA).1, (aV gA).2.1, (aV gA).2.2.1, (aV gA).2.2.2.1, (aV gA).2.2.2.2.1, (aV gA).2.2.2.2.2.1, (aV gA).2.2.2.2.2.2.1, (aV gA).2.2.2.2.2.2.2.1, (aV gA).2.2.2.2.2.2.2.2.1, ()), S, (0, 0, 0, 0, 0, 0, 0, 0, true, ()), (0, 0, 0, 0, 0, 0, 0, 0, true, ()), ()) = (((), (), ()), (z, aV R, ())) := e6
  unfold lk
  simp only [e0', e2', e6']
  refine (ai ?_).trans rfl
  simp only [List.all_cons, List.all_nil, Bool.and_true, Bool.and_eq_true]
  exact ⟨h0, h2, h6⟩
theorem zL (c a : Int) (l : List Tm) (S : List Pt) : ∀ n, (upto (dq c a l) S n).length = S.length
  | 0 => rfl
  | n + 1 => (jP c a l n _).trans (zL c a l S n)
def n5 (x : lm) : Bool := decide ((0 ≤ x.1.2.2.1 ∧ x.1.2.2.1 ≤ 1000) ∧ x.1.2.1.length ≤ 140737488355328)
def EU (x : lm) : OT du.Y := .ok ⟨mv, ((PC x.1.1 x.1.2.1 x.1.2.2.1, ()), ())⟩
theorem Ox : ab Try.prog 96 (du.aK n5 EU) := Hc xP A6 ki mw xO A5 xN A4 OB Oz OA Oy _ _ fun x oy hp ho => by
  rw [← ho]
  clear ho
  obtain ⟨⟨c, l, a, ⟨⟩⟩, ⟨⟩⟩ := x
  obtain ⟨ha, hl⟩ := of_decide_eq_true hp
  exact Hd (S0 := List.replicate 15 aB) (S := ah0 c a l (List.replicate 15 aB)) (R := PC c l a) (z := aV gA) (decide_eq_true ⟨rfl, rfl⟩) rfl
    (decide_eq_true ⟨rfl, rfl, rfl, ha, hl⟩) rfl (decide_eq_true ⟨rfl, zL c a l _ l.length, rfl, rfl⟩) rfl
def mu : cK := (du.aK n5 EU)
theorem DP : ab Try.prog 96 mu := Ox
theorem DO : aL mu := aD
def gR : Env := aA 96 mu uE
theorem gz : aW Try.prog gR := ag DP jW
theorem oW : av gR := ac DO CV
theorem kG : bm Try.prog te gR := aP follows au gz oW
def jw : ap := ⟨[.val false .int, .val false (.list iW)], [], true, 0, false⟩
abbrev EJ : Type := ((Int) × (List ((aa × (aa × (aa × Bool))))) × Unit) × (Unit)
def tB : Shape := ⟨39, [(0, .val false .int), (1, .val false (.list (.prod .elem (.prod .elem (.prod .elem .bool))))), (4, .ptr 0 0 0), (5, .ptr 1 0 0), (6, .val false .int)], [(0, .cells [.val false .u64, .val false .u64, .val false .u64, .val false .u64, .val false .u64, .val false .u64, .val false .u64, .val false .u64, .val false .bool]), (1, .cells [.val false .u64, .val false .u64, .val false .u64, .val false .u64, .val false .u64, .val false .u64, .val false .u64, .val false .u64, .val false .bool])], 0, true⟩
abbrev b7 : Type := ((Int) × (List ((aa × (aa × (aa × Bool))))) × (Unit) × (Unit) × (Int) × Unit) × (((UInt64) × (UInt64) × (UInt64) × (UInt64) × (UInt64) × (UInt64) × (UInt64) × (UInt64) × (Bool) × Unit) × ((UInt64) × (UInt64) × (UInt64) × (UInt64) × (UInt64) × (UInt64) × (UInt64) × (UInt64) × (Bool) × Unit) × Unit)
def tA : Shape := ⟨39, [(0, .val false .int), (1, .val false (.list (.prod .elem (.prod .elem (.prod .elem .bool))))), (4, .ptr 0 0 0), (5, .ptr 1 0 0), (6, .val false .int), (24, .val false .int)], [(0, .cells [.val false .u64, .val false .u64, .val false .u64, .val false .u64, .val false .u64, .val false .u64, .val false .u64, .val false .u64, .val false .bool]), (1, .cells [.val false .u64, .val false .u64, .val false .u64, .val false .u64, .val false .u64, .val false .u64, .val false .u64, .val false .u64, .val false .bool])], 0, true⟩
abbrev bl : Type := ((Int) × (List ((aa × (aa × (aa × Bool))))) × (Unit) × (Unit) × (Int) × (Int) × Unit) × (((UInt64) × (UInt64) × (UInt64) × (UInt64) × (UInt64) × (UInt64) × (UInt64) × (UInt64) × (Bool) × Unit) × ((UInt64) × (UInt64) × (UInt64) × (UInt64) × (UInt64) × (UInt64) × (UInt64) × (UInt64) × (Bool) × Unit) × Unit)
def pC : Shape := ⟨39, [(0, .val false .int), (1, .val false (.list (.prod .elem (.prod .elem (.prod .elem .bool))))), (4, .ptr 0 0 0), (5, .ptr 1 0 0), (6, .val false .int)], [(0, .cells [.val false .u64, .val false .u64, .val false .u64, .val false .u64, .val false .u64, .val false .u64, .val false .u64, .val false .u64, .val false .bool]), (1, .cells [.val false .u64, .val false .u64, .val false .u64, .val false .u64, .val false .u64, .val false .u64, .val false .u64, .val false .u64, .val false .bool])], 0, true⟩
abbrev dj : Type := ((Int) × (List ((aa × (aa × (aa × Bool))))) × (Unit) × (Unit) × (Int) × Unit) × (((UInt64) × (UInt64) × (UInt64) × (UInt64) × (UInt64) × (UInt64) × (UInt64) × (UInt64) × (Bool) × Unit) × ((UInt64) × (UInt64) × (UInt64) × (UInt64) × (UInt64) × (UInt64) × (UInt64) × (UInt64) × (Bool) × Unit) × Unit)
def RZ : SE → Option Shape := ku [(2, pC)] none
def aex (a0 : Int) (a1 : List ((aa × (aa × (aa × Bool))))) (a6 : Int) (a24 : Int) (c0_0 : UInt64) (c0_1 : UInt64) (c0_2 : UInt64) (c0_3 : UInt64) (c0_4 : UInt64) (c0_5 : UInt64) (c0_6 : UInt64) (c0_7 : UInt64) (c0_8 : Bool) (c1_0 : UInt64) (c1_1 : UInt64) (c1_2 : UInt64) (c1_3 : UInt64) (c1_4 : UInt64) (c1_5 : UInt64) (c1_6 : UInt64) (c1_7 : UInt64) (c1_8 : Bool) : OT (Sum bl aQ) :=
  let z0 : aa × aa × Bool := ({ w0 := c1_0, w1 := c1_1, w2 := c1_2, w3 := c1_3 }, { w0 := c1_4, w1 := c1_5, w2 := c1_6, w3 := c1_7 }, c1_8)
  let z1 : aa × aa × Bool := dY a0 z0 z0
  let z2 := z1.fst
  let z3 := z1.snd
  let z4 := z3.fst
  (.br (decide (a24 < (4 : Int)))
  (gd [inR (a24 + (1 : Int))] (.ok (.inl ((a0, (a1, ((), ((), (a6, (a24 + (1 : Int), ())))))), ((c0_0, (c0_1, (c0_2, (c0_3, (c0_4, (c0_5, (c0_6, (c0_7, (c0_8, ()))))))))), ((z2.w0, (z2.w1, (z2.w2, (z2.w3, (z4.w0, (z4.w1, (z4.w2, (z4.w3, (z3.snd, ()))))))))), ()))))))
  (.ok (.inr ⟨(.exit 2, pC), ((a0, (a1, ((), ((), (a6, ()))))), ((c0_0, (c0_1, (c0_2, (c0_3, (c0_4, (c0_5, (c0_6, (c0_7, (c0_8, ()))))))))), ((c1_0, (c1_1, (c1_2, (c1_3, (c1_4, (c1_5, (c1_6, (c1_7, (c1_8, ()))))))))), ())))⟩)))
def tE (s : bl) : OT (Sum bl aQ) := aex (s.1.1) (s.1.2.1) (s.1.2.2.2.2.1) (s.1.2.2.2.2.2.1) (s.2.1.1) (s.2.1.2.1) (s.2.1.2.2.1) (s.2.1.2.2.2.1) (s.2.1.2.2.2.2.1) (s.2.1.2.2.2.2.2.1) (s.2.1.2.2.2.2.2.2.1) (s.2.1.2.2.2.2.2.2.2.1) (s.2.1.2.2.2.2.2.2.2.2.1) (s.2.2.1.1) (s.2.2.1.2.1) (s.2.2.1.2.2.1) (s.2.2.1.2.2.2.1) (s.2.2.1.2.2.2.2.1) (s.2.2.1.2.2.2.2.2.1) (s.2.2.1.2.2.2.2.2.2.1) (s.2.2.1.2.2.2.2.2.2.2.1) (s.2.2.1.2.2.2.2.2.2.2.2.1)
theorem aes (s : bl) (Q : Sum bl aQ → Prop) : wps te gR ay 1000 (bJ (bJ (al Try.f66) 0) 2) (tA.inj s) (cW tA RZ (Q : Sum tA.T aQ → Prop)) = (tE s).wpR Q := by kernel_rfl
def zi (g2_2 : bl → dj) (s : bl) : OT aQ := (.ok ⟨(.exit 2, pC), g2_2 s⟩)
def pD : Shape := ⟨39, [(4, .ptr 0 0 0), (5, .ptr 1 0 0)], [(0, .cells [.val false .u64, .val false .u64, .val false .u64, .val false .u64, .val false .u64, .val false .u64, .val false .u64, .val false .u64, .val false .bool]), (1, .cells [.val false .u64, .val false .u64, .val false .u64, .val false .u64, .val false .u64, .val false .u64, .val false .u64, .val false .u64, .val false .bool])], 0, true⟩
abbrev gJ : Type := ((Unit) × (Unit) × Unit) × (((UInt64) × (UInt64) × (UInt64) × (UInt64) × (UInt64) × (UInt64) × (UInt64) × (UInt64) × (Bool) × Unit) × ((UInt64) × (UInt64) × (UInt64) × (UInt64) × (UInt64) × (UInt64) × (UInt64) × (UInt64) × (Bool) × Unit) × Unit)
def R0 : SE → Option Shape := ku [(0, pD)] none
def R3 (ok2 : bl → Bool) (g2_2 : bl → dj) (a0 : Int) (a1 : List ((aa × (aa × (aa × Bool))))) (a6 : Int) (c0_0 : UInt64) (c0_1 : UInt64) (c0_2 : UInt64) (c0_3 : UInt64) (c0_4 : UInt64) (c0_5 : UInt64) (c0_6 : UInt64) (c0_7 : UInt64) (c0_8 : Bool) (c1_0 : UInt64) (c1_1 : UInt64) (c1_2 : UInt64) (c1_3 : UInt64) (c1_4 : UInt64) (c1_5 : UInt64) (c1_6 : UInt64) (c1_7 : UInt64) (c1_8 : Bool) : OT (Sum b7 aQ) :=
  let z0 : (Int × List (aa × aa × aa × Bool) × PUnit × PUnit × Int × Int × PUnit) × (UInt64 × UInt64 × UInt64 × UInt64 × UInt64 × UInt64 × UInt64 × UInt64 × Bool × PUnit) × (UInt64 × UInt64 × UInt64 × UInt64 × UInt64 × UInt64 × UInt64 × UInt64 × Bool × PUnit) × PUnit := ((a0, a1, (), (), a6, (0 : Int), ()), (c0_0, c0_1, c0_2, c0_3, c0_4, c0_5, c0_6, c0_7, c0_8, ()), (c1_0, c1_1, c1_2, c1_3, c1_4, c1_5, c1_6, c1_7, c1_8, ()), ())
  let z1 : (Int × List (aa × aa × aa × Bool) × PUnit × PUnit × Int × PUnit) × (UInt64 × UInt64 × UInt64 × UInt64 × UInt64 × UInt64 × UInt64 × UInt64 × Bool × PUnit) × (UInt64 × UInt64 × UInt64 × UInt64 × UInt64 × UInt64 × UInt64 × UInt64 × Bool × PUnit) × PUnit := g2_2 z0
  let z2 := z1.fst
  let z3 := z2.fst
  let z4 := z2.snd
  let z5 := z4.fst
  let z6 := z4.snd.snd.snd.fst
  let z7 := z1.snd
  let z8 := z7.fst
  let z9 := z8.snd
  let z10 := z9.snd
  let z11 := z10.snd
  let z12 := z11.snd
  let z13 := z12.snd
  let z14 := z13.snd
  let z15 := z14.snd
  let z16 := z7.snd.fst
  let z17 := z16.snd
  let z18 := z17.snd
  let z19 := z18.snd
  let z20 := z19.snd
  let z21 := z20.snd
  let z22 := z21.snd
  let z23 := z22.snd
  let z24 : aa × aa × Bool := dY z3 ({ w0 := z16.fst, w1 := z17.fst, w2 := z18.fst, w3 := z19.fst }, { w0 := z20.fst, w1 := z21.fst, w2 := z22.fst, w3 := z23.fst }, z23.snd.fst) (PC z3 z5 z6)
  let z25 := z24.fst
  let z26 := z24.snd
  let z27 := z26.fst
  (.br (decide ((0 : Int) ≤ a6))
  (gd [ok2 z0, n5 ((z3, z5, z6, ()), ()), inR (z6 - (4 : Int))] (.ok (.inl ((z3, (z5, ((), ((), (z6 - (4 : Int), ()))))), ((z8.fst, (z9.fst, (z10.fst, (z11.fst, (z12.fst, (z13.fst, (z14.fst, (z15.fst, (z15.snd.fst, ()))))))))), ((z25.w0, (z25.w1, (z25.w2, (z25.w3, (z27.w0, (z27.w1, (z27.w2, (z27.w3, (z26.snd, ()))))))))), ()))))))
  (.ok (.inr ⟨(.exit 0, pD), (((), ((), ())), ((c0_0, (c0_1, (c0_2, (c0_3, (c0_4, (c0_5, (c0_6, (c0_7, (c0_8, ()))))))))), ((c1_0, (c1_1, (c1_2, (c1_3, (c1_4, (c1_5, (c1_6, (c1_7, (c1_8, ()))))))))), ())))⟩)))
def mq (ok2 : bl → Bool) (g2_2 : bl → dj) (s : b7) : OT (Sum b7 aQ) := R3 ok2 g2_2 (s.1.1) (s.1.2.1) (s.1.2.2.2.2.1) (s.2.1.1) (s.2.1.2.1) (s.2.1.2.2.1) (s.2.1.2.2.2.1) (s.2.1.2.2.2.2.1) (s.2.1.2.2.2.2.2.1) (s.2.1.2.2.2.2.2.2.1) (s.2.1.2.2.2.2.2.2.2.1) (s.2.1.2.2.2.2.2.2.2.2.1) (s.2.2.1.1) (s.2.2.1.2.1) (s.2.2.1.2.2.1) (s.2.2.1.2.2.2.1) (s.2.2.1.2.2.2.2.1) (s.2.2.1.2.2.2.2.2.1) (s.2.2.1.2.2.2.2.2.2.1) (s.2.2.1.2.2.2.2.2.2.2.1) (s.2.2.1.2.2.2.2.2.2.2.2.1)
theorem aet (ok2 : bl → Bool) (g2_2 : bl → dj) (s : b7) (Q : Sum b7 aQ → Prop) : wps te gR (bx 2 (dw tA 2 ok2 (zi g2_2)) ay) 1000 (bJ (al Try.f66) 0) (tB.inj s) (cW tB R0 (Q : Sum tB.T aQ → Prop)) = (mq ok2 g2_2 s).wpR Q := by kernel_rfl
def zj (g0_0 : b7 → gJ) (s : b7) : OT aQ := (.ok ⟨(.exit 0, pD), g0_0 s⟩)
def pB : az := ⟨[.val true (.prod .elem (.prod .elem .bool))], [], false⟩
def Kj : SV → Option az := fun _ => some pB
def v5 (ok2 : bl → Bool) (g2_2 : bl → dj) (ok0 : b7 → Bool) (g0_0 : b7 → gJ) (a0 : Int) (a1 : List ((aa × (aa × (aa × Bool))))) : OT jw.Y :=
  let z0 : Int := Int.tdiv ((↑(MJ a1) : Int) + (4 : Int) - (1 : Int)) (4 : Int)
  let z1 : (Int × List (aa × aa × aa × Bool) × PUnit × PUnit × Int × PUnit) × (UInt64 × UInt64 × UInt64 × UInt64 × UInt64 × UInt64 × UInt64 × UInt64 × Bool × PUnit) × (UInt64 × UInt64 × UInt64 × UInt64 × UInt64 × UInt64 × UInt64 × UInt64 × Bool × PUnit) × PUnit := ((a0, a1, (), (), z0 * (4 : Int), ()), ((0 : UInt64), (0 : UInt64), (0 : UInt64), (0 : UInt64), (0 : UInt64), (0 : UInt64), (0 : UInt64), (0 : UInt64), false, ()), ((0 : UInt64), (0 : UInt64), (0 : UInt64), (0 : UInt64), (0 : UInt64), (0 : UInt64), (0 : UInt64), (0 : UInt64), true, ()), ())
  let z2 := (g0_0 z1).snd.snd.fst
  let z3 := z2.snd
  let z4 := z3.snd
  let z5 := z4.snd
  let z6 := z5.snd
  let z7 := z6.snd
  let z8 := z7.snd
  let z9 := z8.snd
  (.br (decide ((↑(List.length a1) : Int) < (24 : Int)))
  (gd [ry ((a0, a1, ()), ())] (.ok ⟨pB, ((l7 a0 a1, ()), ())⟩))
  (gd [GS ((a1, ()), ()), inR ((↑(MJ a1) : Int) + (4 : Int)), inR ((↑(MJ a1) : Int) + (4 : Int) - (1 : Int)), true && inR z0, inR (z0 * (4 : Int)), ok0 z1] (.ok ⟨pB, ((({ w0 := z2.fst, w1 := z3.fst, w2 := z4.fst, w3 := z5.fst }, { w0 := z6.fst, w1 := z7.fst, w2 := z8.fst, w3 := z9.fst }, z9.snd.fst), ()), ())⟩)))
theorem aiT (ok2 : bl → Bool) (g2_2 : bl → dj) (ok0 : b7 → Bool) (g0_0 : b7 → gJ) (x : EJ) (Q : jw.Y → Prop) : wpf te gR (bx 0 (dw tB 0 ok0 (zj g0_0)) ay) 1000 Try.f66 (jw.inp.inj x).tm (jw.inp.inj x).hp (fnK jw Kj Q) (fun _ _ => False) = (v5 ok2 g2_2 ok0 g0_0 (x.1.1) (x.1.2.1)).wpR Q := by kernel_rfl
theorem UK (ok2 : bl → Bool) (g2_2 : bl → dj) (ok0 : b7 → Bool) (g0_0 : b7 → gJ) (h2 : ∀ s : bl, ok2 s = true → ∃ m e, aq (tE) m s = some e ∧ (zi g2_2 s).run = some e) (h0 : ∀ s : b7, ok0 s = true → ∃ m e, aq (mq ok2 g2_2) m s = some e ∧ (zj g0_0 s).run = some e) (pre : EJ → Bool) (F : EJ → OT jw.Y) (hF : ∀ (x : EJ) oy, pre x = true → (F x).run = some oy → (v5 ok2 g2_2 ok0 g0_0 (x.1.1) (x.1.2.1)).run = some oy) : ab Try.prog 66 (jw.aK pre F) :=
  aE au gz kG (f := 66) (fn := Try.f66) (c := al Try.f66) (by kernel_rfl) (by kernel_rfl) (by kernel_rfl) (S := jw) (k := 0) (by kernel_rfl) (fun R hR => (aI (c := (al Try.f66)) (by kernel_rfl) (id := 0) (by kernel_rfl) (bA au gz kG (sh := tB) hR (xs := R0) (aH (by kernel_rfl) (by kernel_rfl) hR) aX (aI (c := (bJ (al Try.f66) 0)) (by kernel_rfl) (id := 2) (by kernel_rfl) (bA au gz kG (sh := tA) hR (xs := RZ) (aH (by kernel_rfl) (by kernel_rfl) hR) aX af (n := 1000) (T := tE) (fun s Q => aes s Q) (ok := ok2) (f := zi g2_2) h2) af) (n := 1000) (T := mq ok2 g2_2) (fun s Q => aet ok2 g2_2 s Q) (ok := ok0) (f := zj g0_0) h0) af)) (n := 1000) (sel := Kj) (fun v o h => by cases h; rfl) (pre := pre) (F := F) (T := fun x => v5 ok2 g2_2 ok0 g0_0 (x.1.1) (x.1.2.1)) (fun x Q => aiT ok2 g2_2 ok0 g0_0 x Q) hF
theorem MR (l : List Tm) : ∀ n, WL l n ≤ n
  | 0 => Nat.le_refl _
  | n + 1 => by
    unfold WL
    cases akd l (n : Int)
    · exact Nat.le_succ_of_le (MR l n)
    · exact Nat.le_refl _
def alw (c : Int) (O : Pt) : Pt := upto (fun _ o => dY c o o) O 4
def nV (s : bl) : Bool := decide (s.1.2.2.2.2.2.1 = 0)
def tD (s : bl) : dj := ((s.1.1, s.1.2.1, (), (), s.1.2.2.2.2.1, ()), (s.2.1, aV (alw s.1.1 (kE s.2.2.1)), ()))
theorem aev : ∀ s : bl, nV s = true → ∃ m e, aq tE m s = some e ∧ (zi tD s).run = some e := by
  rintro ⟨⟨c, l, ⟨⟩, ⟨⟩, a, i, ⟨⟩⟩, ⟨c0, c1, ⟨⟩⟩⟩ h
  have h' := of_decide_eq_true h
  dsimp only at h'
  subst h'
  have := (bI (T := tE) (fun i O => (((c, l, (), (), a, (i : Int), ()), (c0, aV O, ())) : bl)) (fun _ o => dY c o o)
    (fun O => (⟨(.exit 2, pC), ((c, l, (), (), a, ()), (c0, aV O, ()))⟩ : aQ)) 4 (kE c1) (fun _ _ => True) trivial (fun k O hk _ => ⟨?_, trivial⟩) (fun O _ => ?_)).1
  · obtain ⟨m, hm⟩ := this
    exact ⟨m, _, hm, rfl⟩
  · refine (OT.ao (decide_eq_true (by dsimp only; omega))).trans ((ai ?_).trans rfl)
    simp only [List.all_cons, List.all_nil, Bool.and_true]
    exact bC (by omega)
  · exact OT.ax (decide_eq_false (by dsimp only; omega))
def kv (c : Int) (l : List Tm) (W n : Nat) (O : Pt) : Pt := dY c (alw c O) (PC c l (4 * (W : Int) - 4 * (n : Int)))
def mW (l : List Tm) : Nat := (MJ l + 3) / 4
def alP (c : Int) (l : List Tm) : Pt := upto (kv c l (mW l)) aB (mW l + 1)
def WV (c : Int) (l : List Tm) (a : Int) (c0 : C9) (O : Pt) : bl := ((c, l, (), (), a, 0, ()), (c0, aV O, ()))
theorem akh {ok2 : bl → Bool} {g2 : bl → dj} {c a : Int} {l : List Tm} {c0 : C9} {O D : Pt} (h0 : 0 ≤ a) (h1 : a ≤ 1000) (hl : l.length ≤ 140737488355328) (hok : ok2 (WV c l a c0 O) = true)
    (e2 : g2 (WV c l a c0 O) = ((c, l, (), (), a, ()), (c0, aV D, ()))) :
    (mq ok2 g2 ((c, l, (), (), a, ()), (c0, aV O, ()))).run = some (.inl ((c, l, (), (), a - 4, ()), (c0, aV (dY c D (PC c l a)), ()))) := by
  unfold WV at hok e2
  have e2' : g2 ((c, l, (), (), a, 0, ()), (c0.1, c0.2.1, c0.2.2.1, c0.2.2.2.1, c0.2.2.2.2.1, c0.2.2.2.2.2.1, c0.2.2.2.2.2.2.1, c0.2.2.2.2.2.2.2.1, c0.2.2.2.2.2.2.2.2.1, ()), ((aV O).1, (aV O).2.1, (aV O).2.2.1, (aV O).2.2.2.1, (aV O).2.2.2.2.1, (aV O).2.2.2.2.2.1, (aV O).2.2.2.2.2.2.1, (aV O).2.2.2.2.2.2.2.1, (aV O).2.2.2.2.2.2.2.2.1, ()), ()) = ((c, l, (), (), a, ()), (c0, aV D, ())) := e2
  unfold mq R3
  simp only [e2']
  refine (OT.ao (decide_eq_true h0)).trans ((ai ?_).trans rfl)
  simp only [List.all_cons, List.all_nil, Bool.and_true, Bool.and_eq_true]
  exact ⟨hok, decide_eq_true ⟨⟨h0, h1⟩, hl⟩, bC (by omega)⟩
def AM (s : b7) : Bool := decide (s.1.2.2.2.2.1 = 4 * (mW s.1.2.1 : Int) ∧ kE s.2.2.1 = aB ∧ s.1.2.1.length ≤ 140737488355328)
def G0 (s : b7) : gJ := (((), (), ()), (s.2.1, aV (alP s.1.1 s.1.2.1), ()))
theorem aew : ∀ s : b7, AM s = true → ∃ m e, aq (mq nV tD) m s = some e ∧ (zj G0 s).run = some e := by
  rintro ⟨⟨c, l, ⟨⟩, ⟨⟩, a, ⟨⟩⟩, ⟨c0, c1, ⟨⟩⟩⟩ h
  have h' := of_decide_eq_true h
  dsimp only at h'
  obtain ⟨rfl, hO, hl⟩ := h'
  have hO2 : c1 = aV aB := by rw [← hO]; rfl
  subst hO2
  have hW : mW l ≤ 64 := by
    have := MR l 256
    unfold mW MJ
    omega
  have := (bI (T := mq nV tD) (fun n O => (((c, l, (), (), 4 * (mW l : Int) - 4 * (n : Int), ()), (c0, aV O, ())) : b7)) (kv c l (mW l))
    (fun O => (⟨(.exit 0, pD), (((), (), ()), (c0, aV O, ()))⟩ : aQ)) (mW l + 1) aB (fun _ _ => True) trivial (fun n O hn _ => ⟨?_, trivial⟩) (fun O _ => ?_)).1
  · obtain ⟨m, hm⟩ := this
    refine ⟨m, _, ?_, rfl⟩
    have e : 4 * (mW l : Int) - 4 * ((0 : Nat) : Int) = 4 * (mW l : Int) := by omega
    rw [e] at hm
    exact hm
  · have e : 4 * (mW l : Int) - 4 * ((n + 1 : Nat) : Int) = 4 * (mW l : Int) - 4 * (n : Int) - 4 := by omega
    rw [e]
    exact akh (D := alw c O) (by omega) (by omega) hl (decide_eq_true rfl) rfl
  · exact OT.ax (decide_eq_false (by dsimp only; omega))
def al1 (l : List Tm) : Bool := decide ((l.length : Int) < 24)
def yK (c : Int) (l : List Tm) : Pt := cond (al1 l) (l7 c l) (alP c l)
def tC (x : EJ) : Bool := decide (x.1.2.1.length ≤ 140737488355328)
def aae (x : EJ) : OT jw.Y := .ok ⟨pB, ((yK x.1.1 x.1.2.1, ()), ())⟩
theorem UL {ok2 : bl → Bool} {g2 : bl → dj} {ok0 : b7 → Bool} {g0 : b7 → gJ} {c : Int} {l : List Tm} {R : Pt} (hl : l.length ≤ 140737488355328) (hf : al1 l = false)
    (h0 : ok0 ((c, l, (), (), 4 * (mW l : Int), ()), (aV gA, aV aB, ())) = true) (e0 : g0 ((c, l, (), (), 4 * (mW l : Int), ()), (aV gA, aV aB, ())) = (((), (), ()), (aV gA, aV R, ()))) :
    (v5 ok2 g2 ok0 g0 c l).run = some ⟨pB, ((R, ()), ())⟩ := by
  have ht : Int.tdiv ((MJ l : Int) + 4 - 1) 4 = (mW l : Int) := by
    unfold mW
    rw [Int.tdiv_eq_ediv_of_nonneg (by omega)]
    omega
  have hW := MR l 256
  have hW : MJ l ≤ 256 := hW
  have hW2 : mW l ≤ 64 := by unfold mW; omega
  have e1 : (mW l : Int) * 4 = 4 * (mW l : Int) := Int.mul_comm _ _
  unfold v5
  have e0' : g0 ((c, l, (), (), 4 * (mW l : Int), ()), (0, 0, 0, 0, 0, 0, 0, 0, false, ()), (0, 0, 0, 0, 0, 0, 0, 0, true, ()), ()) = (((), (), ()), (aV gA, aV R, ())) := e0
  simp only [ht, e1, e0']
  refine (OT.ax hf).trans ((ai ?_).trans rfl)
  simp only [List.all_cons, List.all_nil, Bool.and_true, Bool.true_and, Bool.and_eq_true]
  exact ⟨decide_eq_true hl, bC (by omega), bC (by omega), bC (by omega), bC (by omega), h0⟩
theorem aeu : ab Try.prog 66 (jw.aK tC aae) := UK nV tD AM G0 aev aew _ _ fun x oy hp ho => by
  rw [← ho]
  clear ho
  obtain ⟨⟨c, l, ⟨⟩⟩, ⟨⟩⟩ := x
  have hl : l.length ≤ 140737488355328 := of_decide_eq_true hp
  show (v5 nV tD AM G0 c l).run = some ⟨pB, ((yK c l, ()), ())⟩
  rcases (Bool.eq_false_or_eq_true (al1 l)).symm with hf | hf
  · have e : yK c l = alP c l := by unfold yK; rw [hf]; rfl
    rw [e]
    exact UL (R := alP c l) hl hf (decide_eq_true ⟨rfl, rfl, hl⟩) rfl
  · have e : yK c l = l7 c l := by unfold yK; rw [hf]; rfl
    rw [e]
    refine (OT.ao hf).trans ((ai ?_).trans rfl)
    simp only [List.all_cons, List.all_nil, Bool.and_true]
    exact hp
def vZ : cK := (jw.aK tC aae)
theorem Ok : ab Try.prog 66 vZ := aeu
theorem Oj : aL vZ := aD
def CZ : Env := aA 66 vZ gR
theorem xj : aW Try.prog CZ := ag Ok gz
theorem yu : av CZ := ac Oj oW
theorem Qb : bm Try.prog te CZ := aP follows au xj yu
def fV : ap := ⟨[.ptr 0 0 0], [(0, alY (.own 1)), (1, .row iW)], false, 2, true⟩
abbrev vU : Type := ((Unit) × Unit) × (((Int) × (Unit) × Unit) × (List ((aa × (aa × (aa × Bool))))) × Unit)
def AD : az := ⟨[.val true (.prod .elem (.prod .elem .bool))], [(0, .cells [.val false .int, .own 1]), (1, .row (.prod .elem (.prod .elem (.prod .elem .bool))))], false⟩
def EG : SV → Option az := fun _ => some AD
def GQ (c0_0 : Int) (c1 : List ((aa × (aa × (aa × Bool))))) : OT fV.Y :=
  (gd [tC ((c0_0, c1, ()), ())] (.ok ⟨AD, ((yK c0_0 c1, ()), ((c0_0, ((), ())), (c1, ())))⟩))
theorem aen (x : vU) (Q : fV.Y → Prop) : wpf te CZ ay 1000 Try.f33 (fV.inp.inj x).tm (fV.inp.inj x).hp (fnK fV EG Q) (fun _ _ => False) = (GQ (x.2.1.1) (x.2.2.1)).wpR Q := by kernel_rfl
theorem Oc (pre : vU → Bool) (F : vU → OT fV.Y) (hF : ∀ (x : vU) oy, pre x = true → (F x).run = some oy → (GQ (x.2.1.1) (x.2.2.1)).run = some oy) : ab Try.prog 33 (fV.aK pre F) :=
  aE au xj Qb (f := 33) (fn := Try.f33) (c := al Try.f33) (by kernel_rfl) (by kernel_rfl) (by kernel_rfl) (S := fV) (k := 2) (by kernel_rfl) (fun R hR => af) (n := 1000) (sel := EG) (fun v o h => by cases h; rfl) (pre := pre) (F := F) (T := fun x => GQ (x.2.1.1) (x.2.2.1)) (fun x Q => aen x Q) hF
def k9 (x : vU) : Bool := tC ((x.2.1.1, x.2.2.1, ()), ())
def RR (x : vU) : OT fV.Y := .ok ⟨AD, ((yK x.2.1.1 x.2.2.1, ()), ((x.2.1.1, ((), ())), (x.2.2.1, ())))⟩
theorem ZZ : ab Try.prog 33 (fV.aK k9 RR) := Oc _ _ fun x oy hp ho => by
  rw [← ho]
  clear ho
  refine (ai ?_).trans rfl
  simp only [List.all_cons, List.all_nil, Bool.and_true]
  exact hp
def rq : cK := (fV.aK k9 RR)
theorem Ke : ab Try.prog 33 rq := ZZ
theorem Kd : aL rq := aD
def ql : Env := aA 33 rq CZ
theorem mQ : aW Try.prog ql := ag Ke xj
theorem uD : av ql := ac Kd yu
theorem yp : bm Try.prog te ql := aP follows au mQ uD
def m6 : ap := ⟨[.val false .int, .val false (.list iW)], [], true, 0, false⟩
abbrev UJ : Type := ((Int) × (List ((aa × (aa × (aa × Bool))))) × Unit) × (Unit)
def AL : Shape := ⟨45, [(4, .ptr 0 0 0), (6, .ptr 1 0 0), (26, .val false (.list (.prod .elem (.prod .elem (.prod .elem .bool))))), (27, .val false .int), (28, .val false .int)], [(0, .cells [.val false .u64, .val false .u64, .val false .u64, .val false .u64, .val false .u64, .val false .u64, .val false .u64, .val false .u64, .val false .bool]), (1, .cells [.val false .int, .own 2]), (2, .row (.prod .elem (.prod .elem (.prod .elem .bool))))], 0, true⟩
abbrev bE : Type := ((Unit) × (Unit) × (List ((aa × (aa × (aa × Bool))))) × (Int) × (Int) × Unit) × (((UInt64) × (UInt64) × (UInt64) × (UInt64) × (UInt64) × (UInt64) × (UInt64) × (UInt64) × (Bool) × Unit) × ((Int) × (Unit) × Unit) × (List ((aa × (aa × (aa × Bool))))) × Unit)
def jv : Shape := ⟨45, [(4, .ptr 0 0 0), (5, .val false .int)], [(0, .cells [.val false .u64, .val false .u64, .val false .u64, .val false .u64, .val false .u64, .val false .u64, .val false .u64, .val false .u64, .val false .bool])], 0, true⟩
abbrev lc : Type := ((Unit) × (Int) × Unit) × (((UInt64) × (UInt64) × (UInt64) × (UInt64) × (UInt64) × (UInt64) × (UInt64) × (UInt64) × (Bool) × Unit) × Unit)
def tz : Shape := ⟨45, [(4, .ptr 0 0 0), (6, .ptr 1 0 0)], [(0, .cells [.val false .u64, .val false .u64, .val false .u64, .val false .u64, .val false .u64, .val false .u64, .val false .u64, .val false .u64, .val false .bool]), (1, .cells [.val false .int, .own 2]), (2, .row (.prod .elem (.prod .elem (.prod .elem .bool))))], 0, true⟩
abbrev ld : Type := ((Unit) × (Unit) × Unit) × (((UInt64) × (UInt64) × (UInt64) × (UInt64) × (UInt64) × (UInt64) × (UInt64) × (UInt64) × (Bool) × Unit) × ((Int) × (Unit) × Unit) × (List ((aa × (aa × (aa × Bool))))) × Unit)
def aac : SE → Option Shape := ku [(1, tz)] (some jv)
def aiS (a26 : List ((aa × (aa × (aa × Bool))))) (a27 : Int) (a28 : Int) (c0_0 : UInt64) (c0_1 : UInt64) (c0_2 : UInt64) (c0_3 : UInt64) (c0_4 : UInt64) (c0_5 : UInt64) (c0_6 : UInt64) (c0_7 : UInt64) (c0_8 : Bool) (c1_0 : Int) (c2 : List ((aa × (aa × (aa × Bool))))) : OT (Sum bE aQ) :=
  let z0 : aa := { w0 := 0, w1 := 0, w2 := 0, w3 := 0 }
  let z1 : aa × aa × aa × Bool := List.getD a26 (Int.toNat a28) (z0, z0, z0, false)
  let z2 := z1.snd
  (.br (decide (a28 < a27))
  (gd [inB a28 (List.length a26)] (.br (onB c1_0 z2)
    (.br (sX c2)
      (gd [inR (a28 + (1 : Int))] (.ok (.inl (((), ((), (a26, (a27, (a28 + (1 : Int), ()))))), ((c0_0, (c0_1, (c0_2, (c0_3, (c0_4, (c0_5, (c0_6, (c0_7, (c0_8, ()))))))))), ((c1_0, ((), ())), (c2 ++ [(qt c1_0 z1.fst, z2)], ())))))))
      (.ok (.inr ⟨(.ret, jv), (((), ((50 : Int), ())), (((0 : UInt64), ((0 : UInt64), ((0 : UInt64), ((0 : UInt64), ((0 : UInt64), ((0 : UInt64), ((0 : UInt64), ((0 : UInt64), (false, ()))))))))), ()))⟩)))
    (.ok (.inr ⟨(.ret, jv), (((), ((41 : Int), ())), (((0 : UInt64), ((0 : UInt64), ((0 : UInt64), ((0 : UInt64), ((0 : UInt64), ((0 : UInt64), ((0 : UInt64), ((0 : UInt64), (false, ()))))))))), ()))⟩))))
  (.ok (.inr ⟨(.exit 1, tz), (((), ((), ())), ((c0_0, (c0_1, (c0_2, (c0_3, (c0_4, (c0_5, (c0_6, (c0_7, (c0_8, ()))))))))), ((c1_0, ((), ())), (c2, ()))))⟩)))
def vY (s : bE) : OT (Sum bE aQ) := aiS (s.1.2.2.1) (s.1.2.2.2.1) (s.1.2.2.2.2.1) (s.2.1.1) (s.2.1.2.1) (s.2.1.2.2.1) (s.2.1.2.2.2.1) (s.2.1.2.2.2.2.1) (s.2.1.2.2.2.2.2.1) (s.2.1.2.2.2.2.2.2.1) (s.2.1.2.2.2.2.2.2.2.1) (s.2.1.2.2.2.2.2.2.2.2.1) (s.2.2.1.1) (s.2.2.2.1)
theorem aiP (s : bE) (Q : Sum bE aQ → Prop) : wps te ql ay 1000 (bJ (al Try.f18) 1) (AL.inj s) (cW AL aac (Q : Sum AL.T aQ → Prop)) = (vY s).wpR Q := by kernel_rfl
def GZ (g1_r : bE → lc) (c1_r : bE → Bool) (g1_1 : bE → ld) (s : bE) : OT aQ := (.br (c1_r s) (.ok ⟨(.ret, jv), g1_r s⟩) (.ok ⟨(.exit 1, tz), g1_1 s⟩))
def gI : az := ⟨[.val true (.prod .elem (.prod .elem .bool)), .val false .int], [], false⟩
def RW : SV → Option az := fun _ => some gI
def RY (ok1 : bE → Bool) (g1_r : bE → lc) (c1_r : bE → Bool) (g1_1 : bE → ld) (a0 : Int) (a1 : List ((aa × (aa × (aa × Bool))))) : OT m6.Y :=
  let z0 : Int := (↑(List.length a1) : Int)
  let z1 : aa := { w0 := 0, w1 := 0, w2 := 0, w3 := 0 }
  let z2 : aa × aa × Bool := (z1, z1, false)
  let z3 : (PUnit × PUnit × List (aa × aa × aa × Bool) × Int × Int × PUnit) × (UInt64 × UInt64 × UInt64 × UInt64 × UInt64 × UInt64 × UInt64 × UInt64 × Bool × PUnit) × (Int × PUnit × PUnit) × List (aa × aa × aa × Bool) × PUnit := (((), (), a1, z0, (0 : Int), ()), ((0 : UInt64), (0 : UInt64), (0 : UInt64), (0 : UInt64), (0 : UInt64), (0 : UInt64), (0 : UInt64), (0 : UInt64), false, ()), (a0, (), ()), [], ())
  let z4 : (PUnit × Int × PUnit) × (UInt64 × UInt64 × UInt64 × UInt64 × UInt64 × UInt64 × UInt64 × UInt64 × Bool × PUnit) × PUnit := g1_r z3
  let z5 := z4.snd.fst
  let z6 := z5.snd
  let z7 := z6.snd
  let z8 := z7.snd
  let z9 := z8.snd
  let z10 := z9.snd
  let z11 := z10.snd
  let z12 := z11.snd
  let z13 := (g1_1 z3).snd.snd
  let z14 := z13.fst.fst
  let z15 := z13.snd.fst
  (.br (aj a0)
  (.br (decide ((100000 : Int) < z0))
    (.ok ⟨gI, ((z2, ((50 : Int), ())), ())⟩)
    (gd [ok1 z3] (.br (c1_r z3)
      (.ok ⟨gI, ((({ w0 := z5.fst, w1 := z6.fst, w2 := z7.fst, w3 := z8.fst }, { w0 := z9.fst, w1 := z10.fst, w2 := z11.fst, w3 := z12.fst }, z12.snd.fst), (z4.fst.snd.fst, ())), ())⟩)
      (gd [k9 (((), ()), (z14, (), ()), z15, ())] (.ok ⟨gI, ((yK z14 z15, ((0 : Int), ())), ())⟩)))))
  (.ok ⟨gI, ((z2, ((40 : Int), ())), ())⟩))
theorem akV (ok1 : bE → Bool) (g1_r : bE → lc) (c1_r : bE → Bool) (g1_1 : bE → ld) (x : UJ) (Q : m6.Y → Prop) : wpf te ql (bx 1 (dw AL 1 ok1 (GZ g1_r c1_r g1_1)) ay) 1000 Try.f18 (m6.inp.inj x).tm (m6.inp.inj x).hp (fnK m6 RW Q) (fun _ _ => False) = (RY ok1 g1_r c1_r g1_1 (x.1.1) (x.1.2.1)).wpR Q := by kernel_rfl
theorem aad (ok1 : bE → Bool) (g1_r : bE → lc) (c1_r : bE → Bool) (g1_1 : bE → ld) (h1 : ∀ s : bE, ok1 s = true → ∃ m e, aq (vY) m s = some e ∧ (GZ g1_r c1_r g1_1 s).run = some e) (pre : UJ → Bool) (F : UJ → OT m6.Y) (hF : ∀ (x : UJ) oy, pre x = true → (F x).run = some oy → (RY ok1 g1_r c1_r g1_1 (x.1.1) (x.1.2.1)).run = some oy) : ab Try.prog 18 (m6.aK pre F) :=
  aE au mQ yp (f := 18) (fn := Try.f18) (c := al Try.f18) (by kernel_rfl) (by kernel_rfl) (by kernel_rfl) (S := m6) (k := 0) (by kernel_rfl) (fun R hR => (aI (c := (al Try.f18)) (by kernel_rfl) (id := 1) (by kernel_rfl) (bA au mQ yp (sh := AL) hR (xs := aac) (aH (by kernel_rfl) (by kernel_rfl) hR) aX af (n := 1000) (T := vY) (fun s Q => aiP s Q) (ok := ok1) (f := GZ g1_r c1_r g1_1) h1) af)) (n := 1000) (sel := RW) (fun v o h => by cases h; rfl) (pre := pre) (F := F) (T := fun x => RY ok1 g1_r c1_r g1_1 (x.1.1) (x.1.2.1)) (fun x Q => akV ok1 g1_r c1_r g1_1 x Q) hF
def kK (c : Int) (l : List Tm) : List Tm := l.map fun t => (qt c t.1, t.2)
def dE (c : Int) (l : List Tm) : Bool := l.all fun t => onB c t.2
def GX (s : bE) : Bool := decide (s.1.2.2.2.1 = (s.1.2.2.1.length : Int) ∧ s.1.2.2.2.2.1 = 0 ∧ s.2.2.2.1 = [] ∧ s.1.2.2.1.length ≤ 100000)
def GY (_ : bE) : lc := (((), (41 : Int), ()), (aV gA, ()))
def Oi (s : bE) : Bool := !dE s.2.2.1.1 s.1.2.2.1
def Oh (s : bE) : ld := (((), (), ()), (s.2.1, (s.2.2.1.1, (), ()), kK s.2.2.1.1 s.1.2.2.1, ()))
def IV (c : Int) (l : List Tm) (c0 : C9) (k : Int) (o : List Tm) : bE := (((), (), l, (l.length : Int), k, ()), (c0, (c, (), ()), o, ()))
theorem Q7 (c : Int) (l : List Tm) (c0 : C9) (hl : l.length ≤ 100000) : ∀ d k : Nat, k + d = l.length →
    ∃ m, aq vY m (IV c l c0 (k : Int) (kK c (l.take k))) = some (cond (dE c (l.drop k)) ⟨(.exit 1, tz), (((), (), ()), (c0, (c, (), ()), kK c l, ()))⟩ ⟨(.ret, jv), (((), (41 : Int), ()), (aV gA, ()))⟩)
  | 0, k, h => by
    rw [List.drop_eq_nil_of_le (by omega), List.take_of_length_le (by omega)]
    exact ⟨1, aT (OT.ax (decide_eq_false (by dsimp only [IV]; omega)))⟩
  | d + 1, k, h => by
    have hk : k < l.length := by omega
    have e1 : l.drop k = l[k] :: l.drop (k + 1) := List.drop_eq_getElem_cons hk
    have e2 : l.take (k + 1) = l.take k ++ [l[k]] := (List.take_append_getElem hk).symm
    have e3 : l.getD k eE = l[k] := by rw [List.getD_eq_getElem?_getD, List.getElem?_eq_getElem hk]; rfl
    have hgd : ∀ z : OT (Sum bE aQ), (gd [inB (k : Int) l.length] z).run = z.run := fun z => ai (by rw [bU (by omega)]; rfl)
    have ea : dE c (l.drop k) = (onB c l[k].2 && dE c (l.drop (k + 1))) := by rw [e1]; rfl
    rw [ea]
    have hr : sX (kK c (l.take k)) = true := decide_eq_true (by rw [kK, List.length_map, List.length_take]; omega)
    have first : ∀ e : aQ ⊕ Unit, (vY (IV c l c0 (k : Int) (kK c (l.take k)))).run = (OT.br (onB c (l.getD k eE).2) (.br (sX (kK c (l.take k))) (gd [inR ((k : Int) + 1)] (.ok (.inl (IV c l c0 ((k : Int) + 1) (kK c (l.take k) ++ [(qt c (l.getD k eE).1, (l.getD k eE).2)])))))
        (.ok (.inr ⟨(.ret, jv), (((), (50 : Int), ()), (aV gA, ()))⟩))) (.ok (.inr ⟨(.ret, jv), (((), (41 : Int), ()), (aV gA, ()))⟩)) : OT (Sum bE aQ)).run := fun _ =>
      (OT.ao (decide_eq_true (by dsimp only [IV]; omega))).trans ((hgd _).trans rfl)
    have first := first (.inr ())
    rw [e3] at first
    rcases (Bool.eq_false_or_eq_true (onB c l[k].2)).symm with hb | hb
    · rw [hb]
      exact ⟨1, aT (first.trans (OT.ax hb))⟩
    · rw [hb]
      obtain ⟨m, hm⟩ := Q7 c l c0 hl d (k + 1) (by omega)
      refine ⟨m + 1, aO ?_ hm⟩
      refine first.trans ((OT.ao hb).trans ((OT.ao hr).trans ((ai ?_).trans ?_)))
      · simp only [List.all_cons, List.all_nil, Bool.and_true]
        exact bC (by omega)
      · rw [e2]
        simp only [kK, List.map_append, List.map_cons, List.map_nil]
        rfl
theorem aiR : ∀ s : bE, GX s = true → ∃ m e, aq vY m s = some e ∧ (GZ GY Oi Oh s).run = some e := by
  rintro ⟨⟨⟨⟩, ⟨⟩, l, n, k, ⟨⟩⟩, ⟨c0, ⟨c, ⟨⟩, ⟨⟩⟩, o, ⟨⟩⟩⟩ h
  have h' := of_decide_eq_true h
  dsimp only at h'
  obtain ⟨rfl, rfl, rfl, hl⟩ := h'
  obtain ⟨m, hm⟩ := Q7 c l c0 hl l.length 0 (by omega)
  refine ⟨m, _, hm, ?_⟩
  show (OT.br (!dE c l) _ _ : OT aQ).run = some (cond (dE c l) _ _)
  cases dE c l <;> rfl
def RX (_ : UJ) : Bool := true
def afZ (x : UJ) : OT m6.Y := .br (aj x.1.1) (.br (decide (x.1.2.1.length ≤ 100000)) (.br (dE x.1.1 x.1.2.1) (.ok ⟨gI, ((yK x.1.1 (kK x.1.1 x.1.2.1), ((0 : Int), ())), ())⟩)
  (.ok ⟨gI, ((gA, ((41 : Int), ())), ())⟩)) (.ok ⟨gI, ((gA, ((50 : Int), ())), ())⟩)) (.ok ⟨gI, ((gA, ((40 : Int), ())), ())⟩)
theorem aiQ : ab Try.prog 18 (m6.aK RX afZ) := aad GX GY Oi Oh aiR _ _ fun x oy hp ho => by
  rw [← ho]
  clear ho
  obtain ⟨⟨c, l, ⟨⟩⟩, ⟨⟩⟩ := x
  show (RY GX GY Oi Oh c l).run = (OT.br (aj c) (.br (decide (l.length ≤ 100000)) (.br (dE c l) (.ok ⟨gI, ((yK c (kK c l), ((0 : Int), ())), ())⟩)
    (.ok ⟨gI, ((gA, ((41 : Int), ())), ())⟩)) (.ok ⟨gI, ((gA, ((50 : Int), ())), ())⟩)) (.ok ⟨gI, ((gA, ((40 : Int), ())), ())⟩) : OT m6.Y).run
  rcases (Bool.eq_false_or_eq_true (aj c)).symm with hs | hs
  · exact (OT.ax hs).trans (OT.ax (b := aj c) hs).symm
  · refine (OT.ao hs).trans (Eq.trans ?_ (OT.ao (b := aj c) hs).symm)
    by_cases hl : l.length ≤ 100000
    · refine (OT.ax (decide_eq_false (by omega))).trans (Eq.trans ?_ (OT.ao (b := decide (l.length ≤ 100000)) (decide_eq_true hl)).symm)
      refine (ai ?_).trans ?_
      · simp only [List.all_cons, List.all_nil, Bool.and_true]
        exact decide_eq_true ⟨rfl, rfl, rfl, hl⟩
      · rcases (Bool.eq_false_or_eq_true (dE c l)).symm with ha | ha
        · exact (OT.ao (b := !dE c l) (by rw [ha]; rfl)).trans (OT.ax (b := dE c l) ha).symm
        · refine (OT.ax (b := !dE c l) (by rw [ha]; rfl)).trans (Eq.trans ?_ (OT.ao (b := dE c l) ha).symm)
          refine (ai ?_).trans rfl
          simp only [List.all_cons, List.all_nil, Bool.and_true]
          refine decide_eq_true ?_
          show (kK c l).length ≤ _
          rw [kK, List.length_map]
          omega
    · exact (OT.ao (decide_eq_true (by omega))).trans (OT.ax (b := decide (l.length ≤ 100000)) (decide_eq_false hl)).symm
def AK : cK := (m6.aK RX afZ)
theorem UI : ab Try.prog 18 AK := aiQ
theorem UH : aL AK := aD
def Mm : Env := aA 18 AK ql
theorem CX : aW Try.prog Mm := ag UI mQ
theorem CY : av Mm := ac UH uD
theorem Wx : bm Try.prog te Mm := aP follows au CX CY
def gf : ap := ⟨[.val false (.list iW)], [], true, 0, false⟩
abbrev wa : Type := ((List ((aa × (aa × (aa × Bool))))) × Unit) × (Unit)
def AY : az := ⟨[.own 0], [(0, .row (.prod .elem (.prod .elem (.prod .elem .bool))))], false⟩
def ER : SV → Option az := fun _ => some AY
def G9 (a0 : List ((aa × (aa × (aa × Bool))))) : OT gf.Y :=
  (gd [decide ((0 + List.length a0) * 104 ≤ 140737488355328)] (.ok ⟨AY, (((), ()), ([] ++ a0, ()))⟩))
theorem aeD (x : wa) (Q : gf.Y → Prop) : wpf te Mm ay 1000 Try.f19 (gf.inp.inj x).tm (gf.inp.inj x).hp (fnK gf ER Q) (fun _ _ => False) = (G9 (x.1.1)).wpR Q := by kernel_rfl
theorem On (pre : wa → Bool) (F : wa → OT gf.Y) (hF : ∀ (x : wa) oy, pre x = true → (F x).run = some oy → (G9 (x.1.1)).run = some oy) : ab Try.prog 19 (gf.aK pre F) :=
  aE au CX Wx (f := 19) (fn := Try.f19) (c := al Try.f19) (by kernel_rfl) (by kernel_rfl) (by kernel_rfl) (S := gf) (k := 0) (by kernel_rfl) (fun R hR => af) (n := 1000) (sel := ER) (fun v o h => by cases h; rfl) (pre := pre) (F := F) (T := fun x => G9 (x.1.1)) (fun x Q => aeD x Q) hF
def fC (x : wa) : Bool := decide (x.1.1.length * 104 ≤ 140737488355328)
def R8 (x : wa) : OT gf.Y := .ok ⟨AY, (((), ()), (x.1.1, ()))⟩
theorem aar : ab Try.prog 19 (gf.aK fC R8) := On _ _ fun x oy hp ho => by
  rw [← ho]
  have hp' : x.1.1.length * 104 ≤ 140737488355328 := of_decide_eq_true hp
  refine (ai ?_).trans rfl
  simp only [List.all_cons, List.all_nil, Bool.and_true]
  exact decide_eq_true (by omega)
def rB : cK := (gf.aK fC R8)
theorem Kv : ab Try.prog 19 rB := aar
theorem Ku : aL rB := aD
def uH : Env := aA 19 rB Mm
theorem sg : aW Try.prog uH := ag Kv CX
theorem uG : av uH := ac Ku CY
theorem Mo : bm Try.prog te uH := aP follows au sg uG
def eJ : ap := ⟨[], [], true, 0, false⟩
abbrev qa : Type := (Unit) × (Unit)
def p9 : az := ⟨[.val false .bool], [], false⟩
def Cl : SV → Option az := fun _ => some p9
def uc : OT eJ.Y :=
  (.ok ⟨p9, ((true, ()), ())⟩)
theorem acf (x : qa) (Q : eJ.Y → Prop) : wpf te uH ay 1000 Try.f17 (eJ.inp.inj x).tm (eJ.inp.inj x).hp (fnK eJ Cl Q) (fun _ _ => False) = (uc).wpR Q := by kernel_rfl
theorem LG (pre : qa → Bool) (F : qa → OT eJ.Y) (hF : ∀ (x : qa) oy, pre x = true → (F x).run = some oy → (uc).run = some oy) : ab Try.prog 17 (eJ.aK pre F) :=
  aE au sg Mo (f := 17) (fn := Try.f17) (c := al Try.f17) (by kernel_rfl) (by kernel_rfl) (by kernel_rfl) (S := eJ) (k := 0) (by kernel_rfl) (fun R hR => af) (n := 1000) (sel := Cl) (fun v o h => by cases h; rfl) (pre := pre) (F := F) (T := fun x => uc) (fun x Q => acf x Q) hF
def Cm (_ : qa) : Bool := true
def LH (_ : qa) : OT eJ.Y := .ok ⟨p9, ((true, ()), ())⟩
theorem Wm : ab Try.prog 17 (eJ.aK Cm LH) := LG _ _ fun x oy hp ho => by
  rw [← ho]
  clear ho
  show uc.run = some ⟨p9, ((true, ()), ())⟩
  kernel_rfl
def oJ : cK := (eJ.aK Cm LH)
theorem H2 : ab Try.prog 17 oJ := Wm
theorem HZ : aL oJ := aD
def lT : Env := aA 17 oJ uH
theorem kt : aW Try.prog lT := ag H2 sg
theorem qQ : av lT := ac HZ uG
theorem uX : bm Try.prog te lT := aP follows au kt qQ
def fY : ap := ⟨[.ptr 0 0 0, .val true .elem], [(0, alY (.own 1)), (1, .row iW)], false, 2, true⟩
abbrev v9 : Type := ((Unit) × (aa) × Unit) × (((Int) × (Unit) × Unit) × (List ((aa × (aa × (aa × Bool))))) × Unit)
def nX : Shape := ⟨36, [(0, .ptr 0 0 0), (3, .ptr 2 0 0), (9, .val false .int), (10, .val false .int)], [(0, .cells [.val false .int, .own 1]), (1, .row (.prod .elem (.prod .elem (.prod .elem .bool)))), (2, .row .u64)], 2, true⟩
abbrev bZ : Type := ((Unit) × (Unit) × (Int) × (Int) × Unit) × (((Int) × (Unit) × Unit) × (List ((aa × (aa × (aa × Bool))))) × (List (UInt64)) × Unit)
def mr : Shape := ⟨36, [], [(0, .cells [.val false .int, .own 1]), (1, .row (.prod .elem (.prod .elem (.prod .elem .bool))))], 2, true⟩
abbrev hJ : Type := (Unit) × (((Int) × (Unit) × Unit) × (List ((aa × (aa × (aa × Bool))))) × Unit)
def Km : SE → Option Shape := ku [(0, mr)] none
def aaj (a9 : Int) (a10 : Int) (c0_0 : Int) (c1 : List ((aa × (aa × (aa × Bool))))) (c2 : List (UInt64)) : OT (Sum bZ aQ) :=
  let z0 : Nat := List.length c1
  let z1 : Bool := inB a10 z0
  let z2 : Nat := Int.toNat a10
  let z3 : Bool := decide (z2 < z0)
  let z4 : Int := qv c0_0 (1 : Int)
  let z5 : Bool := inR (a10 + (1 : Int))
  let z6 : aa := { w0 := 0, w1 := 0, w2 := 0, w3 := 0 }
  let z7 : aa × aa × aa × Bool := List.getD c1 z2 (z6, z6, z6, false)
  let z8 := z7.snd
  (.br (decide (a10 < a9))
  (gd [z1, z3, decide (4 ≤ List.length c2)] (.br (aj z4)
    (gd [z1, z3, z5] (.ok (.inl (((), ((), (a9, (a10 + (1 : Int), ())))), ((c0_0, ((), ())), (List.set c1 z2 (aN (pS z4) z7.fst { w0 := List.getD c2 0 0, w1 := List.getD c2 1 0, w2 := List.getD c2 2 0, w3 := List.getD c2 3 0 }, z8), (c2, ())))))))
    (gd [z1, z3, z5] (.ok (.inl (((), ((), (a9, (a10 + (1 : Int), ())))), ((c0_0, ((), ())), (List.set c1 z2 (z6, z8), (c2, ())))))))))
  (.ok (.inr ⟨(.exit 0, mr), ((), ((c0_0, ((), ())), (c1, ())))⟩)))
def nY (s : bZ) : OT (Sum bZ aQ) := aaj (s.1.2.2.1) (s.1.2.2.2.1) (s.2.1.1) (s.2.2.1) (s.2.2.2.1)
theorem aag (s : bZ) (Q : Sum bZ aQ → Prop) : wps te lT ay 1000 (bJ (al Try.f32) 0) (nX.inj s) (cW nX Km (Q : Sum nX.T aQ → Prop)) = (nY s).wpR Q := by kernel_rfl
def tF (g0_0 : bZ → hJ) (s : bZ) : OT aQ := (.ok ⟨(.exit 0, mr), g0_0 s⟩)
def AQ : az := ⟨[], [(0, .cells [.val false .int, .own 1]), (1, .row (.prod .elem (.prod .elem (.prod .elem .bool))))], false⟩
def EM : SV → Option az := fun _ => some AQ
def G3 (ok0 : bZ → Bool) (g0_0 : bZ → hJ) (a1 : aa) (c0_0 : Int) (c1 : List ((aa × (aa × (aa × Bool))))) : OT fY.Y :=
  let z0 : (PUnit × PUnit × Int × Int × PUnit) × (Int × PUnit × PUnit) × List (aa × aa × aa × Bool) × List UInt64 × PUnit := (((), (), (↑(List.length c1) : Int), (0 : Int), ()), (c0_0, (), ()), c1, [a1.w0, a1.w1, a1.w2, a1.w3], ())
  let z1 := (g0_0 z0).snd
  (gd [ok0 z0] (.ok ⟨AQ, ((), ((z1.fst.fst, ((), ())), (z1.snd.fst, ())))⟩))
theorem aey (ok0 : bZ → Bool) (g0_0 : bZ → hJ) (x : v9) (Q : fY.Y → Prop) : wpf te lT (bx 0 (dw nX 0 ok0 (tF g0_0)) ay) 1000 Try.f32 (fY.inp.inj x).tm (fY.inp.inj x).hp (fnK fY EM Q) (fun _ _ => False) = (G3 ok0 g0_0 (x.1.2.1) (x.2.1.1) (x.2.2.1)).wpR Q := by kernel_rfl
theorem Ol (ok0 : bZ → Bool) (g0_0 : bZ → hJ) (h0 : ∀ s : bZ, ok0 s = true → ∃ m e, aq (nY) m s = some e ∧ (tF g0_0 s).run = some e) (pre : v9 → Bool) (F : v9 → OT fY.Y) (hF : ∀ (x : v9) oy, pre x = true → (F x).run = some oy → (G3 ok0 g0_0 (x.1.2.1) (x.2.1.1) (x.2.2.1)).run = some oy) : ab Try.prog 32 (fY.aK pre F) :=
  aE au kt uX (f := 32) (fn := Try.f32) (c := al Try.f32) (by kernel_rfl) (by kernel_rfl) (by kernel_rfl) (S := fY) (k := 2) (by kernel_rfl) (fun R hR => (aI (c := (al Try.f32)) (by kernel_rfl) (id := 0) (by kernel_rfl) (bA au kt uX (sh := nX) hR (xs := Km) (aH (by kernel_rfl) (by kernel_rfl) hR) aX af (n := 1000) (T := nY) (fun s Q => aag s Q) (ok := ok0) (f := tF g0_0) h0) af)) (n := 1000) (sel := EM) (fun v o h => by cases h; rfl) (pre := pre) (F := F) (T := fun x => G3 ok0 g0_0 (x.1.2.1) (x.2.1.1) (x.2.2.1)) (fun x Q => aey ok0 g0_0 x Q) hF
theorem YC {α : Type} (f : α → α) (d : α) (l : List α) : ∀ n, n ≤ l.length → upto (fun k (o : List α) => o.set k (f (o.getD k d))) l n = (l.take n).map f ++ l.drop n
  | 0, _ => rfl
  | n + 1, h => by
    have hn : n < l.length := by omega
    show (upto (fun k (o : List α) => o.set k (f (o.getD k d))) l n).set n (f ((upto (fun k (o : List α) => o.set k (f (o.getD k d))) l n).getD n d)) = _
    rw [YC f d l n (by omega)]
    have hl : ((l.take n).map f).length = n := by rw [List.length_map, List.length_take]; omega
    have hg : ((l.take n).map f ++ l.drop n).getD n d = l[n] := by
      rw [List.getD_eq_getElem?_getD, List.getElem?_append_right (by omega), hl, Nat.sub_self, List.drop_eq_getElem_cons hn]
      rfl
    rw [hg, List.set_append_right _ _ (by omega), hl, Nat.sub_self, List.drop_eq_getElem_cons hn, List.set_cons_zero, ← List.take_append_getElem hn, List.map_append, List.append_assoc]
    rfl
def afN (c : Int) (k : aa) (t : Tm) : Tm := (aN (pS (qv c 1)) t.1 k, t.2)
def iZ (c : Int) (k : aa) (l : List Tm) : List Tm := l.map (afN c k)
def v8 (s : bZ) : Bool := aj (qv s.2.1.1 1) && decide (s.1.2.2.1 = (s.2.2.1.length : Int) ∧ s.1.2.2.2.1 = 0 ∧ s.2.2.2.1.length = 4 ∧ s.2.2.1.length ≤ 140737488355328)
def Kq (s : bZ) : hJ := ((), (s.2.1, iZ s.2.1.1 (elemOf s.2.2.2.1) s.2.2.1, ()))
theorem aai : ∀ s : bZ, v8 s = true → ∃ m e, aq nY m s = some e ∧ (tF Kq s).run = some e := by
  rintro ⟨⟨⟨⟩, ⟨⟩, n, i, ⟨⟩⟩, ⟨⟨c, ⟨⟩, ⟨⟩⟩, l, k, ⟨⟩⟩⟩ h
  simp only [v8, Bool.and_eq_true, decide_eq_true_eq] at h
  obtain ⟨hs, rfl, rfl, hk, hl⟩ := h
  obtain ⟨a, rfl⟩ : ∃ a, k = lst a := ⟨elemOf k, (aZ hk).symm⟩
  have := (bI (T := nY) (fun i o => ((((), (), (l.length : Int), (i : Int), ()), ((c, (), ()), o, lst a, ())) : bZ)) (fun k (o : List Tm) => o.set k (afN c a (o.getD k eE)))
    (fun o => (⟨(.exit 0, mr), ((), ((c, (), ()), o, ()))⟩ : aQ)) l.length l (fun _ o => o.length = l.length) rfl (fun i o hi ho => ⟨?_, (List.length_set ..).trans ho⟩) (fun o ho => ?_)).1
  · obtain ⟨m, hm⟩ := this
    rw [YC _ _ _ _ (Nat.le_refl _), List.take_length, List.drop_length, List.append_nil] at hm
    exact ⟨m, _, hm, rfl⟩
  · have i1 : inB (i : Int) o.length = true := by rw [ho]; exact bU (by omega)
    have i2 : decide (Int.toNat (i : Int) < o.length) = true := decide_eq_true (by rw [Int.toNat_natCast, ho]; exact hi)
    have i3 : inR ((i : Int) + 1) = true := bC (by omega)
    refine (OT.ao (decide_eq_true (by dsimp only; omega))).trans ((ai ?_).trans ((OT.ao hs).trans ((ai ?_).trans rfl)))
    · simp only [List.all_cons, List.all_nil, Bool.and_true, Bool.and_eq_true]
      exact ⟨i1, i2, rfl⟩
    · simp only [List.all_cons, List.all_nil, Bool.and_true, Bool.and_eq_true]
      exact ⟨i1, i2, i3⟩
  · exact OT.ax (decide_eq_false (by dsimp only; omega))
def pG (x : v9) : Bool := aj x.2.1.1 && decide (x.2.2.1.length ≤ 140737488355328)
def R4 (x : v9) : OT fY.Y := .ok ⟨AQ, ((), ((x.2.1.1, ((), ())), (iZ x.2.1.1 x.1.2.1 x.2.2.1, ())))⟩
theorem aah : ab Try.prog 32 (fY.aK pG R4) := Ol v8 Kq aai _ _ fun x oy hp ho => by
  rw [← ho]
  clear ho
  obtain ⟨⟨⟨⟩, k, ⟨⟩⟩, ⟨⟨c, ⟨⟩, ⟨⟩⟩, l, ⟨⟩⟩⟩ := x
  obtain ⟨hs, hl⟩ := (Bool.and_eq_true _ _).mp hp
  refine (ai ?_).trans rfl
  simp only [List.all_cons, List.all_nil, Bool.and_true]
  exact (Bool.and_eq_true _ _).mpr ⟨fv hs, decide_eq_true ⟨rfl, rfl, rfl, of_decide_eq_true hl⟩⟩
def rz : cK := (fY.aK pG R4)
theorem Ko : ab Try.prog 32 rz := aah
theorem Kn : aL rz := aD
def qo : Env := aA 32 rz lT
theorem mS : aW Try.prog qo := ag Ko kt
theorem Ix : av qo := ac Kn qQ
theorem oR : bm Try.prog te qo := aP follows au mS Ix
end Go.Proofs.Ytkedomfjjahjnaa

namespace Go.Proofs.Ytkedomfjjahjnaa
open Sx Go
section
variable {s : Int} (hs : aj s = true)
abbrev Gs (hs : aj s = true) : Type := Gp (bg hs)
noncomputable def tG (l : List Tm) : List (Nat × Gs hs) := l.map fun t => (t.1.nat, gp (bg hs) t.2)
theorem wq {α : Type} {l : List α} {k : Nat} (h : k < l.length) (d : α) : l.getD k d = l[k] := by rw [List.getD_eq_getElem?_getD, List.getElem?_eq_getElem h]; rfl
theorem acC {c : Int} {l : List Tm} (ha : dE c l = true) {k : Nat} (h : k < l.length) : onB c l[k].2 = true := List.all_eq_true.1 ha _ (List.getElem_mem h)
theorem zM {l : List Tm} (ha : dE s l = true) : ∀ n, n ≤ l.length → onB s (upto (dZ s l) aB n) = true ∧ gp (bg hs) (upto (dZ s l) aB n) = ng (tG hs (l.take n))
  | 0, _ => ⟨tM hs, KS hs⟩
  | n + 1, h => by
    obtain ⟨h1, h2⟩ := zM ha n (by omega)
    have hk : n < l.length := by omega
    show onB s (dZ s l n (upto (dZ s l) aB n)) = true ∧ gp (bg hs) (dZ s l n (upto (dZ s l) aB n)) = _
    generalize upto (dZ s l) aB n = O at *
    unfold dZ
    rw [wq hk]
    have hp := acC ha hk
    have hm := (GR l[n].1 hp).2
    refine ⟨(kp h1 hm).2, ?_⟩
    rw [Bp hs h1 hm, af6 hs _ hp, h2, ← List.take_append_getElem hk, tG, tG, List.map_append, qS]
    congr 1
    exact (Br _).symm
theorem TV {l : List Tm} (ha : dE s l = true) : onB s (l7 s l) = true ∧ gp (bg hs) (l7 s l) = ng (tG hs l) := by
  have h := zM hs ha l.length (Nat.le_refl _)
  rw [List.take_length] at h
  exact h
noncomputable def IH : List Pt → Gs hs
  | [] => 0
  | P :: r => gp (bg hs) P + IH r
noncomputable def TM : List Pt → Gs hs
  | [] => 0
  | P :: r => TM r + IH hs (P :: r)
theorem Gc {P R : Pt} (hR : onB s R = true) : ∀ (S : List Pt) (d : Nat), d < S.length → onB s (S.getD d gA) = true → P = dY s (S.getD d gA) R → IH hs (S.set d P) = IH hs S + gp (bg hs) R
  | [], d, h, _, _ => by cases h
  | X :: S, 0, _, ho, e => by
    subst e
    have ho : onB s X = true := ho
    show gp (bg hs) (dY s X R) + IH hs S = gp (bg hs) X + IH hs S + gp (bg hs) R
    rw [Bp hs ho hR]
    ac_rfl
  | X :: S, d + 1, h, ho, e => by
    have ih := Gc hR S d (by simpa using h) ho e
    show gp (bg hs) X + IH hs (S.set d P) = gp (bg hs) X + IH hs S + gp (bg hs) R
    rw [ih]
    ac_rfl
theorem Qu {P R : Pt} (hR : onB s R = true) : ∀ (S : List Pt) (d : Nat), d < S.length → onB s (S.getD d gA) = true → P = dY s (S.getD d gA) R → TM hs (S.set d P) = TM hs S + sm (d + 1) (gp (bg hs) R)
  | [], d, h, _, _ => by cases h
  | X :: S, 0, h, ho, e => by
    have hr := Gc hs hR (X :: S) 0 h ho e
    show TM hs S + IH hs (P :: S) = TM hs S + IH hs (X :: S) + sm 1 (gp (bg hs) R)
    have hr : IH hs (P :: S) = _ := hr
    rw [hr, afK]
    ac_rfl
  | X :: S, d + 1, h, ho, e => by
    have hr := Gc hs hR (X :: S) (d + 1) h ho e
    have ih := Qu hR S d (by simpa using h) ho e
    show TM hs (S.set d P) + IH hs ((X :: S).set (d + 1) P) = TM hs S + IH hs (X :: S) + sm (d + 1 + 1) (gp (bg hs) R)
    rw [hr, ih, ah2 (d + 1)]
    ac_rfl
def ajV (s : Int) (S : List Pt) : Prop := ∀ k, k < S.length → onB s (S.getD k gA) = true
theorem aft {S : List Pt} (h : ajV s S) {d : Nat} {P : Pt} (hP : onB s P = true) : ajV s (S.set d P) := fun k hk => by
  rw [List.length_set] at hk
  by_cases e : d = k
  · subst e
    rw [List.getD_eq_getElem?_getD, List.getElem?_set_self hk]
    exact hP
  · rw [List.getD_eq_getElem?_getD, List.getElem?_set_ne e, ← List.getD_eq_getElem?_getD]
    exact h k hk
theorem Rh {S : List Pt} (hS : S.length = 15) (hp : ajV s S) : ∀ n, n ≤ 15 →
    (onB s (upto (eY s S) (aB, aB) n).1 = true ∧ onB s (upto (eY s S) (aB, aB) n).2 = true) ∧
    gp (bg hs) (upto (eY s S) (aB, aB) n).1 = IH hs (S.drop (15 - n)) ∧ gp (bg hs) (upto (eY s S) (aB, aB) n).2 = TM hs (S.drop (15 - n))
  | 0, _ => by
    rw [List.drop_eq_nil_of_le (by omega)]
    exact ⟨⟨tM hs, tM hs⟩, KS hs, KS hs⟩
  | n + 1, h => by
    obtain ⟨⟨h1, h2⟩, h3, h4⟩ := Rh hS hp n (by omega)
    show (onB s (eY s S n (upto (eY s S) (aB, aB) n)).1 = true ∧ onB s (eY s S n (upto (eY s S) (aB, aB) n)).2 = true) ∧
      gp (bg hs) (eY s S n (upto (eY s S) (aB, aB) n)).1 = _ ∧ gp (bg hs) (eY s S n (upto (eY s S) (aB, aB) n)).2 = _
    generalize upto (eY s S) (aB, aB) n = w at *
    have hk : 14 - n < S.length := by omega
    have ho := hp (14 - n) hk
    have e1 : S.drop (15 - (n + 1)) = S.getD (14 - n) gA :: S.drop (15 - n) := by
      rw [wq hk, show 15 - (n + 1) = 14 - n by omega, List.drop_eq_getElem_cons hk, show 14 - n + 1 = 15 - n by omega]
    rw [e1]
    unfold eY
    dsimp only
    have o1 := (kp h1 ho).2
    have o2 := (kp h2 o1).2
    have e2 : gp (bg hs) (dY s w.1 (S.getD (14 - n) gA)) = IH hs (S.getD (14 - n) gA :: S.drop (15 - n)) := by
      rw [Bp hs h1 ho, h3]
      exact alf _ _
    refine ⟨⟨o1, o2⟩, e2, ?_⟩
    rw [Bp hs h2 o1, h4, e2]
    rfl
theorem ah8 {S : List Pt} (hS : S.length = 15) (hp : ajV s S) : onB s (alU s S).2 = true ∧ gp (bg hs) (alU s S).2 = TM hs S := by
  obtain ⟨⟨_, h2⟩, _, h4⟩ := Rh hs hS hp 15 (Nat.le_refl _)
  exact ⟨h2, h4⟩
theorem Jb : ∀ n, IH hs (List.replicate n aB) = 0
  | 0 => rfl
  | n + 1 => by
    rw [List.replicate_succ]
    show gp (bg hs) aB + IH hs (List.replicate n aB) = 0
    rw [Jb n, KS hs, Br]
theorem IP : ∀ n, TM hs (List.replicate n aB) = 0
  | 0 => rfl
  | n + 1 => by
    have h := Jb hs (n + 1)
    rw [List.replicate_succ] at h ⊢
    show TM hs (List.replicate n aB) + IH hs (aB :: List.replicate n aB) = 0
    rw [h, IP n, Br]
theorem acD (hs : aj s = true) (n : Nat) : ajV s (List.replicate n aB) := fun k hk => by
  rw [wq hk, List.getElem_replicate]
  exact tM hs
noncomputable def dG (a : Int) (l : List Tm) : List (Nat × Gs hs) := l.map fun t => ((Lm t.1 a).toNat, gp (bg hs) t.2)
theorem LI {l : List Tm} (ha : dE s l = true) (a : Int) : ∀ n, n ≤ l.length → (upto (dq s a l) (List.replicate 15 aB) n).length = 15 ∧ ajV s (upto (dq s a l) (List.replicate 15 aB) n) ∧
    TM hs (upto (dq s a l) (List.replicate 15 aB) n) = ng (dG hs a (l.take n))
  | 0, _ => ⟨rfl, acD hs 15, IP hs 15⟩
  | n + 1, h => by
    obtain ⟨h1, h2, h3⟩ := LI ha a n (by omega)
    have hk : n < l.length := by omega
    show (dq s a l n (upto (dq s a l) (List.replicate 15 aB) n)).length = 15 ∧ ajV s (dq s a l n (upto (dq s a l) (List.replicate 15 aB) n)) ∧ TM hs (dq s a l n (upto (dq s a l) (List.replicate 15 aB) n)) = _
    generalize upto (dq s a l) (List.replicate 15 aB) n = S at *
    have hp := acC ha hk
    refine ⟨(jP s a l n S).trans h1, ?_⟩
    have ed : ng (dG hs a (l.take (n + 1))) = ng (dG hs a (l.take n)) + sm (Lm l[n].1 a).toNat (gp (bg hs) l[n].2) := by
      rw [← List.take_append_getElem hk, dG, dG, List.map_append, qS]
      congr 1
      exact Br _
    rw [ed]
    unfold dq
    rw [wq hk]
    have hd := abE l[n].1 a
    by_cases h0 : 0 < Lm l[n].1 a
    · rw [decide_eq_true h0]
      simp only [cond_true]
      have hlt : (Lm l[n].1 a - 1).toNat < S.length := by omega
      have ho := h2 _ hlt
      refine ⟨aft h2 (kp ho hp).2, ?_⟩
      rw [Qu hs hp S _ hlt ho rfl, h3, show (Lm l[n].1 a - 1).toNat + 1 = (Lm l[n].1 a).toNat by omega]
    · rw [decide_eq_false h0]
      simp only [cond_false]
      refine ⟨h2, ?_⟩
      rw [h3, show (Lm l[n].1 a).toNat = 0 by omega, Yz, Br]
theorem afm {l : List Tm} (ha : dE s l = true) (a : Int) : onB s (PC s l a) = true ∧ gp (bg hs) (PC s l a) = ng (dG hs a l) := by
  obtain ⟨h1, h2, h3⟩ := LI hs ha a l.length (Nat.le_refl _)
  rw [List.take_length] at h3
  obtain ⟨h4, h5⟩ := ah8 hs h1 h2
  exact ⟨h4, h5.trans h3⟩
noncomputable def vG (a : Nat) (l : List Tm) : List (Nat × Gs hs) := l.map fun t => (t.1.nat / 2 ^ a, gp (bg hs) t.2)
theorem uf (k : aa) (i : Nat) : agp (nd k (i : Int)) = ((k.nat / 2 ^ i % 2 : Nat) : Int) := by
  unfold nd
  rw [decide_eq_true (show (0 : Int) ≤ (i : Int) by omega), Int.toNat_natCast]
  by_cases h : (i : Int) < 256
  · rw [decide_eq_true h]
    show agp (yX k.nat i) = _
    unfold yX
    have h2 : k.nat / 2 ^ i % 2 = 0 ∨ k.nat / 2 ^ i % 2 = 1 := by omega
    rcases h2 with h2 | h2 <;> rw [h2] <;> rfl
  · rw [decide_eq_false h]
    have hlt := fU k
    have : k.nat / 2 ^ i = 0 := Nat.div_eq_of_lt (Nat.lt_of_lt_of_le hlt (by
      have : 2 ^ 256 ≤ 2 ^ i := Nat.pow_le_pow_right (by decide) (by omega)
      exact this))
    rw [this]
    rfl
theorem ae7 (k : aa) (a : Nat) : (Lm k (a : Int)).toNat = k.nat / 2 ^ a % 16 := by
  rw [abF, show (a : Int) + 1 = ((a + 1 : Nat) : Int) by omega, show (a : Int) + 2 = ((a + 2 : Nat) : Int) by omega, show (a : Int) + 3 = ((a + 3 : Nat) : Int) by omega]
  rw [uf, uf, uf, uf]
  have e1 : k.nat / 2 ^ (a + 1) = k.nat / 2 ^ a / 2 := by rw [Nat.pow_succ, Nat.div_div_eq_div_mul]
  have e2 : k.nat / 2 ^ (a + 2) = k.nat / 2 ^ a / 2 / 2 := by rw [show a + 2 = (a + 1) + 1 by omega, Nat.pow_succ, ← Nat.div_div_eq_div_mul, e1]
  have e3 : k.nat / 2 ^ (a + 3) = k.nat / 2 ^ a / 2 / 2 / 2 := by rw [show a + 3 = (a + 2) + 1 by omega, Nat.pow_succ, ← Nat.div_div_eq_div_mul, e2]
  rw [e1, e2, e3]
  omega
theorem agC (l : List Tm) (a : Nat) : sm 16 (ng (vG hs (a + 4) l)) + ng (dG hs (a : Int) l) = ng (vG hs a l) := by
  induction l with
  | nil => exact (Br _).trans (YB 16)
  | cons t l ih =>
    show sm 16 (sm (t.1.nat / 2 ^ (a + 4)) (gp (bg hs) t.2) + ng (vG hs (a + 4) l)) + (sm (Lm t.1 (a : Int)).toNat (gp (bg hs) t.2) + ng (dG hs (a : Int) l)) = sm (t.1.nat / 2 ^ a) (gp (bg hs) t.2) + ng (vG hs a l)
    rw [← ih, afM, ← Q8, ae7]
    have e : t.1.nat / 2 ^ a = 16 * (t.1.nat / 2 ^ (a + 4)) + t.1.nat / 2 ^ a % 16 := by
      rw [Nat.pow_add, ← Nat.div_div_eq_div_mul]
      have : 2 ^ 4 = 16 := rfl
      rw [this]
      omega
    have e2 : sm (t.1.nat / 2 ^ a) (gp (bg hs) t.2) = sm (16 * (t.1.nat / 2 ^ (a + 4))) (gp (bg hs) t.2) + sm (t.1.nat / 2 ^ a % 16) (gp (bg hs) t.2) := by
      rw [← YA, ← e]
    rw [e2]
    ac_rfl
theorem agB (l : List Tm) : ng (vG hs 0 l) = ng (tG hs l) := by
  unfold vG tG
  congr 1
  apply List.map_congr_left
  intro t _
  rw [Nat.pow_zero, Nat.div_one]
theorem ae8 {O : Pt} (h : onB s O = true) : onB s (alw s O) = true ∧ gp (bg hs) (alw s O) = sm 16 (gp (bg hs) O) := by
  have step : ∀ {P : Pt} {n : Nat}, onB s P = true ∧ gp (bg hs) P = sm n (gp (bg hs) O) → onB s (dY s P P) = true ∧ gp (bg hs) (dY s P P) = sm (n + n) (gp (bg hs) O) := fun ⟨o, e⟩ =>
    ⟨(kp o o).2, by rw [Bp hs o o, e, ← YA]⟩
  exact step (step (step (step (n := 1) ⟨h, (afK _).symm⟩)))
theorem ajU {l : List Tm} {i n k : Nat} (h : lC l (i : Int) n k < 0) : ∀ j, k ≤ j → j < k + n → nd (l.getD j eE).1 (i : Int) = false := by
  induction n generalizing k with
  | zero => intro j h1 h2; omega
  | succ n ih =>
    intro j h1 h2
    unfold lC at h
    cases hb : nd (l.getD k eE).1 (i : Int)
    · rw [hb] at h
      by_cases e : j = k
      · rw [e]; exact hb
      · exact ih h j (by omega) (by omega)
    · rw [hb] at h
      have h : (k : Int) < 0 := h
      omega
theorem IQ (l : List Tm) : ∀ n, (∀ j, j < l.length → (l.getD j eE).1.nat < 2 ^ n) → ∀ j, j < l.length → (l.getD j eE).1.nat < 2 ^ WL l n
  | 0, h => h
  | n + 1, h => by
    unfold WL
    cases ha : akd l (n : Int)
    · simp only [cond_false]
      refine IQ l n fun j hj => ?_
      have hf : lC l (n : Int) l.length 0 < 0 := by
        have : ¬ (0 : Int) ≤ gM l (n : Int) := of_decide_eq_false ha
        have : ¬ (0 : Int) ≤ lC l (n : Int) l.length 0 := this
        omega
      have hb := ajU hf j (by omega) (by omega)
      have h2 := uf (l.getD j eE).1 n
      rw [hb] at h2
      have h3 : (l.getD j eE).1.nat / 2 ^ n % 2 = 0 := by
        have h2 : ((0 : Nat) : Int) = (((l.getD j eE).1.nat / 2 ^ n % 2 : Nat) : Int) := h2
        exact (Int.ofNat_inj.1 h2).symm
      have h4 := h j hj
      rw [Nat.pow_succ] at h4
      have h5 : (l.getD j eE).1.nat / 2 ^ n < 2 := Nat.div_lt_of_lt_mul h4
      have h6 : (l.getD j eE).1.nat / 2 ^ n = 0 := by
        generalize (l.getD j eE).1.nat / 2 ^ n = q at h3 h5
        omega
      rcases Nat.div_eq_zero_iff.1 h6 with h7 | h7
      · have := Nat.two_pow_pos n; omega
      · exact h7
    · exact h
theorem akk (l : List Tm) {a : Nat} (h : MJ l ≤ a) : ng (vG hs a l) = 0 := by
  have hall := IQ l 256 fun j _ => fU _
  have hz : ∀ t ∈ l, t.1.nat / 2 ^ a = 0 := fun t ht => by
    obtain ⟨j, hj, rfl⟩ := List.getElem_of_mem ht
    have := hall j hj
    rw [wq hj] at this
    exact Nat.div_eq_of_lt (Nat.lt_of_lt_of_le this (Nat.pow_le_pow_right (by decide) h))
  clear hall h
  induction l with
  | nil => rfl
  | cons t l ih =>
    show sm (t.1.nat / 2 ^ a) (gp (bg hs) t.2) + ng (vG hs a l) = 0
    rw [hz t (List.mem_cons_self ..), Yz, ih fun u hu => hz u (List.mem_cons_of_mem _ hu), Br]
theorem Qr {l : List Tm} (ha : dE s l = true) : ∀ n, n ≤ mW l + 1 → onB s (upto (kv s l (mW l)) aB n) = true ∧ gp (bg hs) (upto (kv s l (mW l)) aB n) = ng (vG hs (4 * (mW l + 1 - n)) l)
  | 0, _ => by
    refine ⟨tM hs, (KS hs).trans (akk hs l ?_).symm⟩
    unfold mW
    omega
  | n + 1, h => by
    obtain ⟨h1, h2⟩ := Qr ha n (by omega)
    show onB s (kv s l (mW l) n (upto (kv s l (mW l)) aB n)) = true ∧ gp (bg hs) (kv s l (mW l) n (upto (kv s l (mW l)) aB n)) = _
    generalize upto (kv s l (mW l)) aB n = O at *
    unfold kv
    have e : 4 * (mW l : Int) - 4 * (n : Int) = ((4 * (mW l + 1 - (n + 1)) : Nat) : Int) := by omega
    rw [e]
    obtain ⟨d1, d2⟩ := ae8 hs h1
    obtain ⟨b1, b2⟩ := afm hs ha ((4 * (mW l + 1 - (n + 1)) : Nat) : Int)
    refine ⟨(kp d1 b1).2, ?_⟩
    rw [Bp hs d1 b1, d2, b2, h2, ← agC hs l (4 * (mW l + 1 - (n + 1))), show 4 * (mW l + 1 - n) = 4 * (mW l + 1 - (n + 1)) + 4 by omega]
theorem Yt {l : List Tm} (ha : dE s l = true) : onB s (yK s l) = true ∧ gp (bg hs) (yK s l) = ng (tG hs l) := by
  unfold yK
  cases al1 l
  · obtain ⟨h1, h2⟩ := Qr hs ha (mW l + 1) (Nat.le_refl _)
    rw [Nat.sub_self, Nat.mul_zero, agB] at h2
    exact ⟨h1, h2⟩
  · exact TV hs ha
end
end Go.Proofs.Ytkedomfjjahjnaa

namespace Go.Proofs.Ytkedomfjjahjnaa
open Sx Go
section
variable {s : Int} (hs : aj s = true)
theorem adC (k : aa) (x : Gs hs) : sm (qt s k).nat x = sm k.nat x := by
  rw [I9 hs, show (ofP (pS (qv s 1)) k).nat = k.nat % pS (qv s 1) from cv (fc (fv hs)), afL hs]
theorem Cr (l : List Tm) : dE s (kK s l) = dE s l := by
  unfold dE kK
  rw [List.all_map]
  rfl
theorem Yr (l : List Tm) : ng (tG hs (kK s l)) = ng (tG hs l) := by
  induction l with
  | nil => rfl
  | cons t l ih =>
    show sm (qt s t.1).nat (gp (bg hs) t.2) + ng (tG hs (kK s l)) = sm t.1.nat (gp (bg hs) t.2) + ng (tG hs l)
    rw [ih, adC hs]
theorem Je {l : List Tm} (ha : dE s l = true) : onB s (yK s (kK s l)) = true ∧ gp (bg hs) (yK s (kK s l)) = ng (tG hs l) := by
  obtain ⟨h1, h2⟩ := Yt hs (l := kK s l) (by rw [Cr]; exact ha)
  exact ⟨h1, h2.trans (Yr hs l)⟩
theorem Mc (l r : List Tm) : dE s (l ++ r) = (dE s l && dE s r) := List.all_append
theorem Ys (l r : List Tm) : ng (tG hs (l ++ r)) = ng (tG hs l) + ng (tG hs r) := by
  unfold tG
  rw [List.map_append, qS]
end
end Go.Proofs.Ytkedomfjjahjnaa

namespace Go.Proofs.Ytkedomfjjahjnaa
open Sx Go
section
variable {s : Int} (hs : aj s = true)
theorem PR (k : aa) (l : List Tm) : dE s (iZ s k l) = dE s l := by
  unfold dE iZ
  rw [List.all_map]
  rfl
theorem adx (k : aa) (l : List Tm) : ng (tG hs (iZ s k l)) = sm k.nat (ng (tG hs l)) := by
  induction l with
  | nil => exact (YB k.nat).symm
  | cons t l ih =>
    show sm (aN (pS (qv s 1)) t.1 k).nat (gp (bg hs) t.2) + ng (tG hs (iZ s k l)) = sm k.nat (sm t.1.nat (gp (bg hs) t.2) + ng (tG hs l))
    have e : (aN (pS (qv s 1)) t.1 k).nat = t.1.nat * k.nat % pS (qv s 1) := cv (fc (fv hs))
    rw [ih, afM, e, afL hs, ← Q8, Nat.mul_comm]
include hs in
theorem Vc (k : aa) {x y : List Tm} (hx : dE s x = true) (hy : dE s y = true) :
    yK s (iZ s k (kK s x) ++ kK s y) = dY s (ni s k (yK s (kK s x))) (yK s (kK s y)) := by
  obtain ⟨x1, x2⟩ := Je hs hx
  obtain ⟨y1, y2⟩ := Je hs hy
  obtain ⟨l1, l2⟩ := Yt hs (l := iZ s k (kK s x) ++ kK s y) (by rw [Mc, PR, Cr, Cr, hx, hy]; rfl)
  have ok := (GR k x1).2
  refine alc hs l1 (kp ok y1).2 ?_
  rw [l2, Ys, adx, Yr, Yr, Bp hs ok y1, af6 hs k x1, x2, y2]
end
end Go.Proofs.Ytkedomfjjahjnaa

namespace Go.Proofs.Ytkedomfjjahjnaa
open Sx Go
set_option maxRecDepth 100000
def dA : ap := ⟨[.val false .int, .val false (.list iW), .val false (.list iW), .val true .elem], [], true, 0, false⟩
abbrev pM : Type := ((Int) × (List ((aa × (aa × (aa × Bool))))) × (List ((aa × (aa × (aa × Bool))))) × (aa) × Unit) × (Unit)
def lp : Shape := ⟨112, [(0, .val false .int), (1, .val false (.list (.prod .elem (.prod .elem (.prod .elem .bool))))), (2, .val false (.list (.prod .elem (.prod .elem (.prod .elem .bool))))), (7, .ptr 0 0 0), (9, .ptr 1 0 0), (11, .ptr 2 0 0), (13, .ptr 3 0 0), (15, .val false .int)], [(0, .row .u64), (1, .cells [.val false .u64, .val false .u64, .val false .u64, .val false .u64, .val false .u64, .val false .u64, .val false .u64, .val false .u64, .val false .bool]), (2, .cells [.val false .u64, .val false .u64, .val false .u64, .val false .u64, .val false .u64, .val false .u64, .val false .u64, .val false .u64, .val false .bool]), (3, .cells [.val false .int, .own 4]), (4, .row (.prod .elem (.prod .elem (.prod .elem .bool))))], 0, true⟩
abbrev bj : Type := ((Int) × (List ((aa × (aa × (aa × Bool))))) × (List ((aa × (aa × (aa × Bool))))) × (Unit) × (Unit) × (Unit) × (Unit) × (Int) × Unit) × ((List (UInt64)) × ((UInt64) × (UInt64) × (UInt64) × (UInt64) × (UInt64) × (UInt64) × (UInt64) × (UInt64) × (Bool) × Unit) × ((UInt64) × (UInt64) × (UInt64) × (UInt64) × (UInt64) × (UInt64) × (UInt64) × (UInt64) × (Bool) × Unit) × ((Int) × (Unit) × Unit) × (List ((aa × (aa × (aa × Bool))))) × Unit)
def kk : Shape := ⟨112, [(0, .val false .int), (1, .val false (.list (.prod .elem (.prod .elem (.prod .elem .bool))))), (2, .val false (.list (.prod .elem (.prod .elem (.prod .elem .bool))))), (7, .ptr 0 0 0), (9, .ptr 1 0 0), (11, .ptr 2 0 0), (13, .ptr 3 0 0)], [(0, .row .u64), (1, .cells [.val false .u64, .val false .u64, .val false .u64, .val false .u64, .val false .u64, .val false .u64, .val false .u64, .val false .u64, .val false .bool]), (2, .cells [.val false .u64, .val false .u64, .val false .u64, .val false .u64, .val false .u64, .val false .u64, .val false .u64, .val false .u64, .val false .bool]), (3, .cells [.val false .int, .own 4]), (4, .row (.prod .elem (.prod .elem (.prod .elem .bool))))], 0, true⟩
abbrev dM : Type := ((Int) × (List ((aa × (aa × (aa × Bool))))) × (List ((aa × (aa × (aa × Bool))))) × (Unit) × (Unit) × (Unit) × (Unit) × Unit) × ((List (UInt64)) × ((UInt64) × (UInt64) × (UInt64) × (UInt64) × (UInt64) × (UInt64) × (UInt64) × (UInt64) × (Bool) × Unit) × ((UInt64) × (UInt64) × (UInt64) × (UInt64) × (UInt64) × (UInt64) × (UInt64) × (UInt64) × (Bool) × Unit) × ((Int) × (Unit) × Unit) × (List ((aa × (aa × (aa × Bool))))) × Unit)
def EX : SE → Option Shape := ku [(0, kk)] none
def Vb (a0 : Int) (a1 : List ((aa × (aa × (aa × Bool))))) (a2 : List ((aa × (aa × (aa × Bool))))) (a15 : Int) (c0 : List (UInt64)) (c1_0 : UInt64) (c1_1 : UInt64) (c1_2 : UInt64) (c1_3 : UInt64) (c1_4 : UInt64) (c1_5 : UInt64) (c1_6 : UInt64) (c1_7 : UInt64) (c1_8 : Bool) (c2_0 : UInt64) (c2_1 : UInt64) (c2_2 : UInt64) (c2_3 : UInt64) (c2_4 : UInt64) (c2_5 : UInt64) (c2_6 : UInt64) (c2_7 : UInt64) (c2_8 : Bool) (c3_0 : Int) (c4 : List ((aa × (aa × (aa × Bool))))) : OT (Sum bj aQ) :=
  let z0 : Nat := List.length a1
  let z1 : Bool := inB a15 z0
  let z2 : aa := { w0 := 0, w1 := 0, w2 := 0, w3 := 0 }
  let z3 : aa × aa × aa × Bool := List.getD a1 (Int.toNat a15) (z2, z2, z2, false)
  let z4 := z3.snd
  let z5 : Bool := inR (a15 + (1 : Int))
  (.br (decide (a15 < (↑z0 : Int)))
  (gd [z1, z1] (.br (onB c3_0 z4)
    (.br (sX c4)
      (gd [z5] (.ok (.inl ((a0, (a1, (a2, ((), ((), ((), ((), (a15 + (1 : Int), ())))))))), (c0, ((c1_0, (c1_1, (c1_2, (c1_3, (c1_4, (c1_5, (c1_6, (c1_7, (c1_8, ()))))))))), ((c2_0, (c2_1, (c2_2, (c2_3, (c2_4, (c2_5, (c2_6, (c2_7, (c2_8, ()))))))))), ((c3_0, ((), ())), (c4 ++ [(qt c3_0 z3.fst, z4)], ())))))))))
      (gd [z5] (.ok (.inl ((a0, (a1, (a2, ((), ((), ((), ((), (a15 + (1 : Int), ())))))))), (c0, ((c1_0, (c1_1, (c1_2, (c1_3, (c1_4, (c1_5, (c1_6, (c1_7, (c1_8, ()))))))))), ((c2_0, (c2_1, (c2_2, (c2_3, (c2_4, (c2_5, (c2_6, (c2_7, (c2_8, ()))))))))), ((c3_0, ((), ())), (c4, ()))))))))))
    (gd [z5] (.ok (.inl ((a0, (a1, (a2, ((), ((), ((), ((), (a15 + (1 : Int), ())))))))), (c0, ((c1_0, (c1_1, (c1_2, (c1_3, (c1_4, (c1_5, (c1_6, (c1_7, (c1_8, ()))))))))), ((c2_0, (c2_1, (c2_2, (c2_3, (c2_4, (c2_5, (c2_6, (c2_7, (c2_8, ()))))))))), ((c3_0, ((), ())), (c4, ())))))))))))
  (.ok (.inr ⟨(.exit 0, kk), ((a0, (a1, (a2, ((), ((), ((), ((), ()))))))), (c0, ((c1_0, (c1_1, (c1_2, (c1_3, (c1_4, (c1_5, (c1_6, (c1_7, (c1_8, ()))))))))), ((c2_0, (c2_1, (c2_2, (c2_3, (c2_4, (c2_5, (c2_6, (c2_7, (c2_8, ()))))))))), ((c3_0, ((), ())), (c4, ()))))))⟩)))
def lu (s : bj) : OT (Sum bj aQ) := Vb (s.1.1) (s.1.2.1) (s.1.2.2.1) (s.1.2.2.2.2.2.2.2.1) (s.2.1) (s.2.2.1.1) (s.2.2.1.2.1) (s.2.2.1.2.2.1) (s.2.2.1.2.2.2.1) (s.2.2.1.2.2.2.2.1) (s.2.2.1.2.2.2.2.2.1) (s.2.2.1.2.2.2.2.2.2.1) (s.2.2.1.2.2.2.2.2.2.2.1) (s.2.2.1.2.2.2.2.2.2.2.2.1) (s.2.2.2.1.1) (s.2.2.2.1.2.1) (s.2.2.2.1.2.2.1) (s.2.2.2.1.2.2.2.1) (s.2.2.2.1.2.2.2.2.1) (s.2.2.2.1.2.2.2.2.2.1) (s.2.2.2.1.2.2.2.2.2.2.1) (s.2.2.2.1.2.2.2.2.2.2.2.1) (s.2.2.2.1.2.2.2.2.2.2.2.2.1) (s.2.2.2.2.1.1) (s.2.2.2.2.2.1)
theorem U6 (s : bj) (Q : Sum bj aQ → Prop) : wps te qo ay 1000 (bJ (al Try.f9) 0) (lp.inj s) (cW lp EX (Q : Sum lp.T aQ → Prop)) = (lu s).wpR Q := by kernel_rfl
def pL (g0_0 : bj → dM) (s : bj) : OT aQ := (.ok ⟨(.exit 0, kk), g0_0 s⟩)
def ln : Shape := ⟨112, [(0, .val false .int), (1, .val false (.list (.prod .elem (.prod .elem (.prod .elem .bool))))), (2, .val false (.list (.prod .elem (.prod .elem (.prod .elem .bool))))), (7, .ptr 0 0 0), (9, .ptr 1 0 0), (11, .ptr 2 0 0), (13, .ptr 3 0 0), (16, .val false .int)], [(0, .row .u64), (1, .cells [.val false .u64, .val false .u64, .val false .u64, .val false .u64, .val false .u64, .val false .u64, .val false .u64, .val false .u64, .val false .bool]), (2, .cells [.val false .u64, .val false .u64, .val false .u64, .val false .u64, .val false .u64, .val false .u64, .val false .u64, .val false .u64, .val false .bool]), (3, .cells [.val false .int, .own 4]), (4, .row (.prod .elem (.prod .elem (.prod .elem .bool))))], 0, true⟩
abbrev bi : Type := ((Int) × (List ((aa × (aa × (aa × Bool))))) × (List ((aa × (aa × (aa × Bool))))) × (Unit) × (Unit) × (Unit) × (Unit) × (Int) × Unit) × ((List (UInt64)) × ((UInt64) × (UInt64) × (UInt64) × (UInt64) × (UInt64) × (UInt64) × (UInt64) × (UInt64) × (Bool) × Unit) × ((UInt64) × (UInt64) × (UInt64) × (UInt64) × (UInt64) × (UInt64) × (UInt64) × (UInt64) × (Bool) × Unit) × ((Int) × (Unit) × Unit) × (List ((aa × (aa × (aa × Bool))))) × Unit)
def kj : Shape := ⟨112, [(0, .val false .int), (1, .val false (.list (.prod .elem (.prod .elem (.prod .elem .bool))))), (2, .val false (.list (.prod .elem (.prod .elem (.prod .elem .bool))))), (7, .ptr 0 0 0), (9, .ptr 1 0 0), (11, .ptr 2 0 0), (13, .ptr 3 0 0)], [(0, .row .u64), (1, .cells [.val false .u64, .val false .u64, .val false .u64, .val false .u64, .val false .u64, .val false .u64, .val false .u64, .val false .u64, .val false .bool]), (2, .cells [.val false .u64, .val false .u64, .val false .u64, .val false .u64, .val false .u64, .val false .u64, .val false .u64, .val false .u64, .val false .bool]), (3, .cells [.val false .int, .own 4]), (4, .row (.prod .elem (.prod .elem (.prod .elem .bool))))], 0, true⟩
abbrev dL : Type := ((Int) × (List ((aa × (aa × (aa × Bool))))) × (List ((aa × (aa × (aa × Bool))))) × (Unit) × (Unit) × (Unit) × (Unit) × Unit) × ((List (UInt64)) × ((UInt64) × (UInt64) × (UInt64) × (UInt64) × (UInt64) × (UInt64) × (UInt64) × (UInt64) × (Bool) × Unit) × ((UInt64) × (UInt64) × (UInt64) × (UInt64) × (UInt64) × (UInt64) × (UInt64) × (UInt64) × (Bool) × Unit) × ((Int) × (Unit) × Unit) × (List ((aa × (aa × (aa × Bool))))) × Unit)
def EW : SE → Option Shape := ku [(2, kj)] none
def Va (a0 : Int) (a1 : List ((aa × (aa × (aa × Bool))))) (a2 : List ((aa × (aa × (aa × Bool))))) (a16 : Int) (c0 : List (UInt64)) (c1_0 : UInt64) (c1_1 : UInt64) (c1_2 : UInt64) (c1_3 : UInt64) (c1_4 : UInt64) (c1_5 : UInt64) (c1_6 : UInt64) (c1_7 : UInt64) (c1_8 : Bool) (c2_0 : UInt64) (c2_1 : UInt64) (c2_2 : UInt64) (c2_3 : UInt64) (c2_4 : UInt64) (c2_5 : UInt64) (c2_6 : UInt64) (c2_7 : UInt64) (c2_8 : Bool) (c3_0 : Int) (c4 : List ((aa × (aa × (aa × Bool))))) : OT (Sum bi aQ) :=
  let z0 : Nat := List.length a2
  let z1 : Bool := inB a16 z0
  let z2 : aa := { w0 := 0, w1 := 0, w2 := 0, w3 := 0 }
  let z3 : aa × aa × aa × Bool := List.getD a2 (Int.toNat a16) (z2, z2, z2, false)
  let z4 := z3.snd
  let z5 : Bool := inR (a16 + (1 : Int))
  (.br (decide (a16 < (↑z0 : Int)))
  (gd [z1, z1] (.br (onB c3_0 z4)
    (.br (sX c4)
      (gd [z5] (.ok (.inl ((a0, (a1, (a2, ((), ((), ((), ((), (a16 + (1 : Int), ())))))))), (c0, ((c1_0, (c1_1, (c1_2, (c1_3, (c1_4, (c1_5, (c1_6, (c1_7, (c1_8, ()))))))))), ((c2_0, (c2_1, (c2_2, (c2_3, (c2_4, (c2_5, (c2_6, (c2_7, (c2_8, ()))))))))), ((c3_0, ((), ())), (c4 ++ [(qt c3_0 z3.fst, z4)], ())))))))))
      (gd [z5] (.ok (.inl ((a0, (a1, (a2, ((), ((), ((), ((), (a16 + (1 : Int), ())))))))), (c0, ((c1_0, (c1_1, (c1_2, (c1_3, (c1_4, (c1_5, (c1_6, (c1_7, (c1_8, ()))))))))), ((c2_0, (c2_1, (c2_2, (c2_3, (c2_4, (c2_5, (c2_6, (c2_7, (c2_8, ()))))))))), ((c3_0, ((), ())), (c4, ()))))))))))
    (gd [z5] (.ok (.inl ((a0, (a1, (a2, ((), ((), ((), ((), (a16 + (1 : Int), ())))))))), (c0, ((c1_0, (c1_1, (c1_2, (c1_3, (c1_4, (c1_5, (c1_6, (c1_7, (c1_8, ()))))))))), ((c2_0, (c2_1, (c2_2, (c2_3, (c2_4, (c2_5, (c2_6, (c2_7, (c2_8, ()))))))))), ((c3_0, ((), ())), (c4, ())))))))))))
  (.ok (.inr ⟨(.exit 2, kj), ((a0, (a1, (a2, ((), ((), ((), ((), ()))))))), (c0, ((c1_0, (c1_1, (c1_2, (c1_3, (c1_4, (c1_5, (c1_6, (c1_7, (c1_8, ()))))))))), ((c2_0, (c2_1, (c2_2, (c2_3, (c2_4, (c2_5, (c2_6, (c2_7, (c2_8, ()))))))))), ((c3_0, ((), ())), (c4, ()))))))⟩)))
def lq (s : bi) : OT (Sum bi aQ) := Va (s.1.1) (s.1.2.1) (s.1.2.2.1) (s.1.2.2.2.2.2.2.2.1) (s.2.1) (s.2.2.1.1) (s.2.2.1.2.1) (s.2.2.1.2.2.1) (s.2.2.1.2.2.2.1) (s.2.2.1.2.2.2.2.1) (s.2.2.1.2.2.2.2.2.1) (s.2.2.1.2.2.2.2.2.2.1) (s.2.2.1.2.2.2.2.2.2.2.1) (s.2.2.1.2.2.2.2.2.2.2.2.1) (s.2.2.2.1.1) (s.2.2.2.1.2.1) (s.2.2.2.1.2.2.1) (s.2.2.2.1.2.2.2.1) (s.2.2.2.1.2.2.2.2.1) (s.2.2.2.1.2.2.2.2.2.1) (s.2.2.2.1.2.2.2.2.2.2.1) (s.2.2.2.1.2.2.2.2.2.2.2.1) (s.2.2.2.1.2.2.2.2.2.2.2.2.1) (s.2.2.2.2.1.1) (s.2.2.2.2.2.1)
theorem U5 (s : bi) (Q : Sum bi aQ → Prop) : wps te qo ay 1000 (bJ (al Try.f9) 2) (ln.inj s) (cW ln EW (Q : Sum ln.T aQ → Prop)) = (lq s).wpR Q := by kernel_rfl
def pK (g2_2 : bi → dL) (s : bi) : OT aQ := (.ok ⟨(.exit 2, kj), g2_2 s⟩)
def bo : az := ⟨[.val false .bool], [], false⟩
def Bg : SV → Option az := fun _ => some bo
def lv (ok0 : bj → Bool) (g0_0 : bj → dM) (ok2 : bi → Bool) (g2_2 : bi → dL) (a0 : Int) (a1 : List ((aa × (aa × (aa × Bool))))) (a2 : List ((aa × (aa × (aa × Bool))))) (a3 : aa) : OT dA.Y :=
  let z0 : Int := (↑(List.length a1) : Int) + (↑(List.length a2) : Int)
  let z1 : Bool := aj a0
  let z2 : Bool := fC ((a2, ()), ())
  let z3 : Bool := decide (List.length a2 ≤ 100000)
  let z4 : Bool := dE a0 a2
  let z5 : aa × aa × Bool := yK a0 (kK a0 a1)
  let z6 := z5.fst
  let z7 := z5.snd
  let z8 := z7.fst
  let z9 : aa × aa × Bool := yK a0 (kK a0 a2)
  let z10 := z9.fst
  let z11 := z9.snd
  let z12 := z11.fst
  let z13 : PUnit × PUnit := ((), ())
  let z14 : (Int × List (aa × aa × aa × Bool) × List (aa × aa × aa × Bool) × PUnit × PUnit × PUnit × PUnit × Int × PUnit) × List UInt64 × (UInt64 × UInt64 × UInt64 × UInt64 × UInt64 × UInt64 × UInt64 × UInt64 × Bool × PUnit) × (UInt64 × UInt64 × UInt64 × UInt64 × UInt64 × UInt64 × UInt64 × UInt64 × Bool × PUnit) × (Int × PUnit × PUnit) × List (aa × aa × aa × Bool) × PUnit := ((a0, a1, a2, (), (), (), (), (0 : Int), ()), [a3.w0, a3.w1, a3.w2, a3.w3], (z6.w0, z6.w1, z6.w2, z6.w3, z8.w0, z8.w1, z8.w2, z8.w3, z7.snd, ()), (z10.w0, z10.w1, z10.w2, z10.w3, z12.w0, z12.w1, z12.w2, z12.w3, z11.snd, ()), (a0, z13), [], ())
  let z15 : (Int × List (aa × aa × aa × Bool) × List (aa × aa × aa × Bool) × PUnit × PUnit × PUnit × PUnit × PUnit) × List UInt64 × (UInt64 × UInt64 × UInt64 × UInt64 × UInt64 × UInt64 × UInt64 × UInt64 × Bool × PUnit) × (UInt64 × UInt64 × UInt64 × UInt64 × UInt64 × UInt64 × UInt64 × UInt64 × Bool × PUnit) × (Int × PUnit × PUnit) × List (aa × aa × aa × Bool) × PUnit := g0_0 z14
  let z16 := z15.snd
  let z17 := z16.fst
  let z18 : aa := { w0 := List.getD z17 0 0, w1 := List.getD z17 1 0, w2 := List.getD z17 2 0, w3 := List.getD z17 3 0 }
  let z19 := z16.snd
  let z20 := z19.snd
  let z21 := z20.snd
  let z22 := z21.fst.fst
  let z23 : PUnit × PUnit := ((), ())
  let z24 := z21.snd.fst
  let z25 := z15.fst
  let z26 := z25.snd
  let z27 := z19.fst
  let z28 := z27.snd
  let z29 := z28.snd
  let z30 := z29.snd
  let z31 := z30.snd
  let z32 := z31.snd
  let z33 := z32.snd
  let z34 := z33.snd
  let z35 := z20.fst
  let z36 := z35.snd
  let z37 := z36.snd
  let z38 := z37.snd
  let z39 := z38.snd
  let z40 := z39.snd
  let z41 := z40.snd
  let z42 := z41.snd
  let z43 : (Int × List (aa × aa × aa × Bool) × List (aa × aa × aa × Bool) × PUnit × PUnit × PUnit × PUnit × Int × PUnit) × List UInt64 × (UInt64 × UInt64 × UInt64 × UInt64 × UInt64 × UInt64 × UInt64 × UInt64 × Bool × PUnit) × (UInt64 × UInt64 × UInt64 × UInt64 × UInt64 × UInt64 × UInt64 × UInt64 × Bool × PUnit) × (Int × PUnit × PUnit) × List (aa × aa × aa × Bool) × PUnit := ((z25.fst, z26.fst, z26.snd.fst, (), (), (), (), (0 : Int), ()), z17, (z27.fst, z28.fst, z29.fst, z30.fst, z31.fst, z32.fst, z33.fst, z34.fst, z34.snd.fst, ()), (z35.fst, z36.fst, z37.fst, z38.fst, z39.fst, z40.fst, z41.fst, z42.fst, z42.snd.fst, ()), (z22, z13), iZ z22 z18 z24, ())
  let z44 : PUnit × PUnit := ((), ())
  let z45 : (Int × List (aa × aa × aa × Bool) × List (aa × aa × aa × Bool) × PUnit × PUnit × PUnit × PUnit × PUnit) × List UInt64 × (UInt64 × UInt64 × UInt64 × UInt64 × UInt64 × UInt64 × UInt64 × UInt64 × Bool × PUnit) × (UInt64 × UInt64 × UInt64 × UInt64 × UInt64 × UInt64 × UInt64 × UInt64 × Bool × PUnit) × (Int × PUnit × PUnit) × List (aa × aa × aa × Bool) × PUnit := g2_2 z43
  let z46 := z45.snd
  let z47 := z46.snd
  let z48 := z47.snd
  let z49 := z48.snd
  let z50 := z49.fst.fst
  let z51 := z49.snd.fst
  let z52 : (Int × PUnit × PUnit) × List (aa × aa × aa × Bool) × PUnit := ((z50, z23), z51, ())
  let z53 := z46.fst
  let z54 : aa × aa × Bool := yK z50 z51
  let z55 := z54.fst
  let z56 := z45.fst
  let z57 := z56.fst
  let z58 := z47.fst
  let z59 := z58.snd
  let z60 := z59.snd
  let z61 := z60.snd
  let z62 := z61.snd
  let z63 := z62.snd
  let z64 := z63.snd
  let z65 := z64.snd
  let z66 := z48.fst
  let z67 := z66.snd
  let z68 := z67.snd
  let z69 := z68.snd
  let z70 := z69.snd
  let z71 := z70.snd
  let z72 := z71.snd
  let z73 := z72.snd
  let z74 : aa × aa × Bool := dY z57 (ni z57 { w0 := List.getD z53 0 0, w1 := List.getD z53 1 0, w2 := List.getD z53 2 0, w3 := List.getD z53 3 0 } ({ w0 := z58.fst, w1 := z59.fst, w2 := z60.fst, w3 := z61.fst }, { w0 := z62.fst, w1 := z63.fst, w2 := z64.fst, w3 := z65.fst }, z65.snd.fst)) ({ w0 := z66.fst, w1 := z67.fst, w2 := z68.fst, w3 := z69.fst }, { w0 := z70.fst, w1 := z71.fst, w2 := z72.fst, w3 := z73.fst }, z73.snd.fst)
  let z75 := z74.fst
  let z76 := z54.snd
  let z77 := z76.fst
  let z78 := z74.snd
  let z79 := z78.fst
  let z80 := z56.snd
  let z81 : Int := (↑(List.length z80.fst) : Int) + (↑(List.length z80.snd.fst) : Int)
  (gd [inR z0] (.br (decide ((60 : Int) < z0))
  (.ok ⟨bo, ((true, ()), ())⟩)
  (gd [fC ((a1, ()), ())] (.br (z1)
    (.br (decide (List.length a1 ≤ 100000))
      (.br (dE a0 a1)
        (gd [z2] (.br (z1)
          (.br (z3)
            (.br (z4)
              (.br (z1)
                (gd [ok0 z14, decide (4 ≤ List.length z17), pG (((), z18, ()), (z22, z23), z24, ()), ok2 z43, k9 (z44, z52), decide (4 ≤ List.length z53)] (.br (z55.w0 == z75.w0 && (z55.w1 == z75.w1 && (z55.w2 == z75.w2 && (z55.w3 == z75.w3 && true))) && (z77.w0 == z79.w0 && (z77.w1 == z79.w1 && (z77.w2 == z79.w2 && (z77.w3 == z79.w3 && true))) && (z76.snd == z78.snd && true)))
                  (gd [vW (z44, z52), inR z81] (.ok ⟨bo, (((↑(List.length z51) : Int) == z81, ()), ())⟩))
                  (.ok ⟨bo, ((false, ()), ())⟩)))
                (.ok ⟨bo, ((false, ()), ())⟩))
              (.ok ⟨bo, ((true, ()), ())⟩))
            (.ok ⟨bo, ((true, ()), ())⟩))
          (.ok ⟨bo, ((true, ()), ())⟩)))
        (gd [z2] (.br (z1)
          (.br (z3)
            (.br (z4)
              (.ok ⟨bo, ((true, ()), ())⟩)
              (.ok ⟨bo, ((true, ()), ())⟩))
            (.ok ⟨bo, ((true, ()), ())⟩))
          (.ok ⟨bo, ((true, ()), ())⟩))))
      (gd [z2] (.br (z1)
        (.br (z3)
          (.br (z4)
            (.ok ⟨bo, ((true, ()), ())⟩)
            (.ok ⟨bo, ((true, ()), ())⟩))
          (.ok ⟨bo, ((true, ()), ())⟩))
        (.ok ⟨bo, ((true, ()), ())⟩))))
    (gd [z2] (.br (z1)
      (.br (z3)
        (.br (z4)
          (.ok ⟨bo, ((true, ()), ())⟩)
          (.ok ⟨bo, ((true, ()), ())⟩))
        (.ok ⟨bo, ((true, ()), ())⟩))
      (.ok ⟨bo, ((true, ()), ())⟩)))))))
theorem aax (ok0 : bj → Bool) (g0_0 : bj → dM) (ok2 : bi → Bool) (g2_2 : bi → dL) (x : pM) (Q : dA.Y → Prop) : wpf te qo (bx 2 (dw ln 2 ok2 (pK g2_2)) (bx 0 (dw lp 0 ok0 (pL g0_0)) ay)) 1000 Try.f9 (dA.inp.inj x).tm (dA.inp.inj x).hp (fnK dA Bg Q) (fun _ _ => False) = (lv ok0 g0_0 ok2 g2_2 (x.1.1) (x.1.2.1) (x.1.2.2.1) (x.1.2.2.2.1)).wpR Q := by kernel_rfl
theorem KC (ok0 : bj → Bool) (g0_0 : bj → dM) (ok2 : bi → Bool) (g2_2 : bi → dL) (h0 : ∀ s : bj, ok0 s = true → ∃ m e, aq (lu) m s = some e ∧ (pL g0_0 s).run = some e) (h2 : ∀ s : bi, ok2 s = true → ∃ m e, aq (lq) m s = some e ∧ (pK g2_2 s).run = some e) (pre : pM → Bool) (F : pM → OT dA.Y) (hF : ∀ (x : pM) oy, pre x = true → (F x).run = some oy → (lv ok0 g0_0 ok2 g2_2 (x.1.1) (x.1.2.1) (x.1.2.2.1) (x.1.2.2.2.1)).run = some oy) : ab Try.prog 9 (dA.aK pre F) :=
  aE au mS oR (f := 9) (fn := Try.f9) (c := al Try.f9) (by kernel_rfl) (by kernel_rfl) (by kernel_rfl) (S := dA) (k := 0) (by kernel_rfl) (fun R hR => (aI (c := (al Try.f9)) (by kernel_rfl) (id := 2) (by kernel_rfl) (bA au mS oR (sh := ln) hR (xs := EW) (aH (by kernel_rfl) (by kernel_rfl) hR) aX af (n := 1000) (T := lq) (fun s Q => U5 s Q) (ok := ok2) (f := pK g2_2) h2) (aI (c := (al Try.f9)) (by kernel_rfl) (id := 0) (by kernel_rfl) (bA au mS oR (sh := lp) hR (xs := EX) (aH (by kernel_rfl) (by kernel_rfl) hR) aX af (n := 1000) (T := lu) (fun s Q => U6 s Q) (ok := ok0) (f := pL g0_0) h0) af))) (n := 1000) (sel := Bg) (fun v o h => by cases h; rfl) (pre := pre) (F := F) (T := fun x => lv ok0 g0_0 ok2 g2_2 (x.1.1) (x.1.2.1) (x.1.2.2.1) (x.1.2.2.2.1)) (fun x Q => aax ok0 g0_0 ok2 g2_2 x Q) hF
def rF (s : bj) : Bool := decide (s.1.2.2.2.2.2.2.2.1 = 0 ∧ s.1.2.1.length ≤ 60)
def wh (s : bj) : dM := ((s.1.1, s.1.2.1, s.1.2.2.1, (), (), (), (), ()), (s.2.1, s.2.2.1, s.2.2.2.1, s.2.2.2.2.1, upto (eK s.2.2.2.2.1.1 s.1.2.1) s.2.2.2.2.2.1 s.1.2.1.length, ()))
theorem U9 : ∀ s : bj, rF s = true → ∃ m e, aq lu m s = some e ∧ (pL wh s).run = some e := by
  rintro ⟨⟨a, l, m, ⟨⟩, ⟨⟩, ⟨⟩, ⟨⟩, k, ⟨⟩⟩, ⟨w, P, Q, ⟨c, ⟨⟩, ⟨⟩⟩, o, ⟨⟩⟩⟩ h
  have h' := of_decide_eq_true h
  dsimp only at h'
  obtain ⟨rfl, hl⟩ := h'
  have := (bI (T := lu) (fun k o => (((a, l, m, (), (), (), (), (k : Int), ()), (w, P, Q, (c, (), ()), o, ())) : bj)) (eK c l)
    (fun o => (⟨(.exit 0, kk), ((a, l, m, (), (), (), (), ()), (w, P, Q, (c, (), ()), o, ()))⟩ : aQ)) l.length o (fun _ _ => True) trivial (fun k o hk _ => ⟨?_, trivial⟩) (fun o _ => ?_)).1
  · obtain ⟨m, hm⟩ := this
    exact ⟨m, _, hm, rfl⟩
  · have hin : inB (k : Int) l.length = true := bU (by omega)
    have hgd : ∀ z : OT (Sum bj aQ), (gd [inB (k : Int) l.length, inB (k : Int) l.length] z).run = z.run := fun z => ai (by rw [hin]; rfl)
    have hr : inR ((k : Int) + 1) = true := bC (by omega)
    have hgr : ∀ z : OT (Sum bj aQ), (gd [inR ((k : Int) + 1)] z).run = z.run := fun z => ai (by rw [hr]; rfl)
    refine (OT.ao (decide_eq_true (by dsimp only; omega))).trans ((hgd _).trans ?_)
    unfold eK
    rcases (Bool.eq_false_or_eq_true (onB c (l.getD k eE).2)).symm with h1 | h1
    · rw [h1]
      exact (OT.ax h1).trans ((hgr _).trans rfl)
    · rcases (Bool.eq_false_or_eq_true (sX o)).symm with h2 | h2
      · rw [h1, h2]
        exact (OT.ao h1).trans ((OT.ax rfl).trans ((hgr _).trans rfl))
      · rw [h1, h2]
        exact (OT.ao h1).trans ((OT.ao rfl).trans ((hgr _).trans rfl))
  · exact OT.ax (decide_eq_false (by dsimp only; omega))
def rE (s : bi) : Bool := decide (s.1.2.2.2.2.2.2.2.1 = 0 ∧ s.1.2.2.1.length ≤ 60)
def wg (s : bi) : dL := ((s.1.1, s.1.2.1, s.1.2.2.1, (), (), (), (), ()), (s.2.1, s.2.2.1, s.2.2.2.1, s.2.2.2.2.1, upto (eK s.2.2.2.2.1.1 s.1.2.2.1) s.2.2.2.2.2.1 s.1.2.2.1.length, ()))
theorem U8 : ∀ s : bi, rE s = true → ∃ m e, aq lq m s = some e ∧ (pK wg s).run = some e := by
  rintro ⟨⟨a, l, m, ⟨⟩, ⟨⟩, ⟨⟩, ⟨⟩, k, ⟨⟩⟩, ⟨w, P, Q, ⟨c, ⟨⟩, ⟨⟩⟩, o, ⟨⟩⟩⟩ h
  have h' := of_decide_eq_true h
  dsimp only at h'
  obtain ⟨rfl, hl⟩ := h'
  have := (bI (T := lq) (fun k o => (((a, l, m, (), (), (), (), (k : Int), ()), (w, P, Q, (c, (), ()), o, ())) : bi)) (eK c m)
    (fun o => (⟨(.exit 2, kj), ((a, l, m, (), (), (), (), ()), (w, P, Q, (c, (), ()), o, ()))⟩ : aQ)) m.length o (fun _ _ => True) trivial (fun k o hk _ => ⟨?_, trivial⟩) (fun o _ => ?_)).1
  · obtain ⟨m, hm⟩ := this
    exact ⟨m, _, hm, rfl⟩
  · have hin : inB (k : Int) m.length = true := bU (by omega)
    have hgd : ∀ z : OT (Sum bi aQ), (gd [inB (k : Int) m.length, inB (k : Int) m.length] z).run = z.run := fun z => ai (by rw [hin]; rfl)
    have hr : inR ((k : Int) + 1) = true := bC (by omega)
    have hgr : ∀ z : OT (Sum bi aQ), (gd [inR ((k : Int) + 1)] z).run = z.run := fun z => ai (by rw [hr]; rfl)
    refine (OT.ao (decide_eq_true (by dsimp only; omega))).trans ((hgd _).trans ?_)
    unfold eK
    rcases (Bool.eq_false_or_eq_true (onB c (m.getD k eE).2)).symm with h1 | h1
    · rw [h1]
      exact (OT.ax h1).trans ((hgr _).trans rfl)
    · rcases (Bool.eq_false_or_eq_true (sX o)).symm with h2 | h2
      · rw [h1, h2]
        exact (OT.ao h1).trans ((OT.ax rfl).trans ((hgr _).trans rfl))
      · rw [h1, h2]
        exact (OT.ao h1).trans ((OT.ao rfl).trans ((hgr _).trans rfl))
  · exact OT.ax (decide_eq_false (by dsimp only; omega))
theorem PS {c : Int} {l : List Tm} (hl : dE c l = true) {o : List Tm} (ho : o.length + l.length < 100000) : ∀ n, n ≤ l.length → upto (eK c l) o n = o ++ kK c (l.take n)
  | 0, _ => (List.append_nil o).symm
  | n + 1, h => by
    have hn : n < l.length := by omega
    have hd : l.getD n eE = l[n] := wq hn _
    have h1 : onB c (l.getD n eE).2 = true := by
      rw [hd]
      exact List.all_eq_true.1 hl _ (List.getElem_mem hn)
    have e := PS hl ho n (by omega)
    have h2 : sX (upto (eK c l) o n) = true := by
      rw [e]
      refine decide_eq_true ?_
      unfold kK
      rw [List.length_append, List.length_map, List.length_take]
      omega
    show eK c l n (upto (eK c l) o n) = _
    have e2 : eK c l n (upto (eK c l) o n) = upto (eK c l) o n ++ [(qt c (l.getD n eE).1, (l.getD n eE).2)] := by
      generalize upto (eK c l) o n = u at h2 ⊢
      unfold eK
      rw [h1, h2, cond_true, cond_true]
    rw [e2, e, hd, ← List.take_append_getElem hn, List.append_assoc]
    unfold kK
    rw [List.map_append]
    rfl
def jE (x : pM) : Bool := decide (x.1.2.1.length ≤ 140737488355328 ∧ x.1.2.2.1.length ≤ 140737488355328)
def KE (_ : pM) : OT dA.Y := .ok ⟨bo, ((true, ()), ())⟩
theorem KD {ok0 : bj → Bool} {g0 : bj → dM} {ok2 : bi → Bool} {g2 : bi → dL} {c : Int} {x y X O : List Tm} {k : aa} {P Q R : Pt} (hxy : x.length + y.length ≤ 60) (hs : aj c = true) (hx : dE c x = true) (hy : dE c y = true)
    (hP : yK c (kK c x) = P) (hQ : yK c (kK c y) = Q) (hX : X.length = x.length)
    (h0 : ok0 ((c, x, y, (), (), (), (), 0, ()), (lst k, aV P, aV Q, (c, (), ()), [], ())) = true)
    (e0 : g0 ((c, x, y, (), (), (), (), 0, ()), (lst k, aV P, aV Q, (c, (), ()), [], ())) = ((c, x, y, (), (), (), (), ()), (lst k, aV P, aV Q, (c, (), ()), X, ())))
    (h2 : ok2 ((c, x, y, (), (), (), (), 0, ()), (lst k, aV P, aV Q, (c, (), ()), iZ c k X, ())) = true)
    (e2 : g2 ((c, x, y, (), (), (), (), 0, ()), (lst k, aV P, aV Q, (c, (), ()), iZ c k X, ())) = ((c, x, y, (), (), (), (), ()), (lst k, aV P, aV Q, (c, (), ()), O, ())))
    (hO : O.length = x.length + y.length) (h3 : yK c O = R) (h4 : dY c (ni c k P) Q = R) :
    (lv ok0 g0 ok2 g2 c x y k).run = some ⟨bo, ((true, ()), ())⟩ := by
  obtain ⟨k0, k1, k2, k3⟩ := k
  obtain ⟨⟨p0, p1, p2, p3⟩, ⟨p4, p5, p6, p7⟩, p8⟩ := P
  obtain ⟨⟨q0, q1, q2, q3⟩, ⟨q4, q5, q6, q7⟩, q8⟩ := Q
  obtain ⟨⟨r0, r1, r2, r3⟩, ⟨r4, r5, r6, r7⟩, r8⟩ := R
  dsimp only [aV, lst] at h0 e0 h2 e2
  unfold lv
  simp only [hP, hQ, e0, List.getD_cons_zero, List.getD_cons_succ, e2, h3, h4]
  have i1 : inR ((x.length : Int) + (y.length : Int)) = true := bC (by omega)
  have i2 : fC ((x, ()), ()) = true := decide_eq_true (show x.length * 104 ≤ _ by omega)
  have i3 : fC ((y, ()), ()) = true := decide_eq_true (show y.length * 104 ≤ _ by omega)
  refine (ai (by rw [i1]; rfl)).trans ((OT.ax (decide_eq_false (by omega))).trans ((ai (by rw [i2]; rfl)).trans ((OT.ao hs).trans ((OT.ao (decide_eq_true (by omega))).trans ((OT.ao hx).trans ((ai (by rw [i3]; rfl)).trans
    ((OT.ao hs).trans ((OT.ao (decide_eq_true (by omega))).trans ((OT.ao hy).trans ((OT.ao hs).trans ((ai ?_).trans ((OT.ao ?_).trans ((ai ?_).trans ?_)))))))))))))
  · simp only [List.all_cons, List.all_nil, Bool.and_true, Bool.and_eq_true]
    have j1 : pG (((), ⟨k0, k1, k2, k3⟩, ()), (c, (), ()), X, ()) = true := (Bool.and_eq_true _ _).mpr ⟨hs, decide_eq_true (show X.length ≤ _ by omega)⟩
    have j2 : k9 (((), ()), ((c, (), ()), O, ())) = true := decide_eq_true (show O.length ≤ _ by omega)
    exact ⟨h0, rfl, j1, h2, j2, rfl⟩
  · simp only [beq_self_eq_true, Bool.and_self]
  · simp only [List.all_cons, List.all_nil, Bool.and_true, Bool.and_eq_true]
    exact ⟨decide_eq_true (show O.length * 104 ≤ _ by omega), i1⟩
  · have e : ((O.length : Int) == (x.length : Int) + (y.length : Int)) = true := by
      rw [beq_iff_eq]
      omega
    exact congrArg (fun b : Bool => some (⟨bo, ((b, ()), ())⟩ : dA.Y)) e
theorem U7 : ab Try.prog 9 (dA.aK jE KE) := KC rF wh rE wg U9 U8 _ _ fun x oy hp ho => by
  rw [← ho]
  clear ho
  obtain ⟨⟨c, x, y, k, ⟨⟩⟩, ⟨⟩⟩ := x
  show (lv rF wh rE wg c x y k).run = some ⟨bo, ((true, ()), ())⟩
  have hp : x.length ≤ 140737488355328 ∧ y.length ≤ 140737488355328 := of_decide_eq_true hp
  have i1 : inR ((x.length : Int) + (y.length : Int)) = true := bC (by omega)
  by_cases hl : (60 : Int) < (x.length : Int) + (y.length : Int)
  · exact (ai (by rw [i1]; rfl)).trans ((OT.ao (decide_eq_true hl)).trans rfl)
  · have i2 : fC ((x, ()), ()) = true := decide_eq_true (show x.length * 104 ≤ _ by omega)
    have i3 : fC ((y, ()), ()) = true := decide_eq_true (show y.length * 104 ≤ _ by omega)
    have d1 : decide (x.length ≤ 100000) = true := decide_eq_true (by omega)
    have d2 : decide (y.length ≤ 100000) = true := decide_eq_true (by omega)
    rcases (Bool.eq_false_or_eq_true (aj c)).symm with hs | hs
    · exact (ai (by rw [i1]; rfl)).trans ((OT.ax (decide_eq_false hl)).trans ((ai (by rw [i2]; rfl)).trans ((OT.ax hs).trans ((ai (by rw [i3]; rfl)).trans ((OT.ax hs).trans rfl)))))
    · rcases (Bool.eq_false_or_eq_true (dE c x)).symm with hx | hx
      · refine (ai (by rw [i1]; rfl)).trans ((OT.ax (decide_eq_false hl)).trans ((ai (by rw [i2]; rfl)).trans ((OT.ao hs).trans ((OT.ao d1).trans ((OT.ax hx).trans ((ai (by rw [i3]; rfl)).trans ((OT.ao hs).trans ((OT.ao d2).trans ?_))))))))
        rcases (Bool.eq_false_or_eq_true (dE c y)).symm with hy | hy
        · exact (OT.ax hy).trans rfl
        · exact (OT.ao hy).trans rfl
      · rcases (Bool.eq_false_or_eq_true (dE c y)).symm with hy | hy
        · exact (ai (by rw [i1]; rfl)).trans ((OT.ax (decide_eq_false hl)).trans ((ai (by rw [i2]; rfl)).trans ((OT.ao hs).trans ((OT.ao d1).trans ((OT.ao hx).trans ((ai (by rw [i3]; rfl)).trans ((OT.ao hs).trans ((OT.ao d2).trans ((OT.ax hy).trans rfl)))))))))
        · have a1 : upto (eK c x) [] x.length = kK c x := by
            rw [PS hx (by simp only [List.length_nil]; omega) _ (Nat.le_refl _), List.take_length, List.nil_append]
          have l1 : (iZ c k (kK c x)).length = x.length := (List.length_map ..).trans (List.length_map ..)
          have a2 : upto (eK c y) (iZ c k (kK c x)) y.length = iZ c k (kK c x) ++ kK c y := by
            rw [PS hy (by rw [l1]; omega) _ (Nat.le_refl _), List.take_length]
          refine KD (X := kK c x) (O := iZ c k (kK c x) ++ kK c y) (by omega) hs hx hy rfl rfl (List.length_map ..) (decide_eq_true ⟨rfl, (by show x.length ≤ 60; omega)⟩) ?_ (decide_eq_true ⟨rfl, (by show y.length ≤ 60; omega)⟩) ?_ ?_ (Vc hs k hx hy) rfl
          · show (_ : dM) = _
            rw [← a1]
            rfl
          · show (_ : dL) = _
            rw [← a2]
            rfl
          · rw [List.length_append, l1]
            exact congrArg (x.length + ·) (List.length_map ..)
def KB : cK := (dA.aK jE KE)
theorem Hh : ab Try.prog 9 KB := U7
end Go.Proofs.Ytkedomfjjahjnaa

namespace Go.Proofs.Ytkedomfjjahjnaa
namespace Sx
open Go Go.RowKit Go.ChangeShapes Go.WideShapes Go.ChangeAt
theorem Bh {H : Type} {enc : TypeId × Value → H} {P : Program} {te : TE} (hte : jZ P te) {w : World} {sp : Nat → Bool} {T e : TypeId} {ti ei : TI} (hT : te T = some ti) (hd : ti.desc = .slice e) (hei : te e = some ei) {t : Ty} {F : Ctx} {x : List t.T} {v : Value} {d : DataW H} {ps : List MemPlace}
    (hx : Rep F.F (.list t) x [v]) (h : DataW.Trod enc P w 0 sp true T v d ps) (hw : (d.weights P T).all (· ≤ reachBytes) = true) : x.length * ei.bytes ≤ reachBytes := by
  simp only [Rep] at hx
  obtain ⟨_, ad, cap, hv, _⟩ := hx
  cases hv
  exact MX hte hT hd hei h fun n hn => by simpa using List.all_eq_true.1 hw n hn
end Sx
end Go.Proofs.Ytkedomfjjahjnaa
