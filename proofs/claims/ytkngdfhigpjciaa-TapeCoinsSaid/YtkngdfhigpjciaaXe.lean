/- A symbolic machine for Go code over plain data, and functions of the program as it shows them. No statement is proved in this file. -/
import Derived.KernelRfl
import Derived.Test.YtkngdfhigpjciaaXd
set_option linter.unusedSimpArgs false
set_option linter.unusedVariables false
set_option linter.unusedSectionVars false
/- The function sigil/sigilref03.block: what it makes of its arguments. No statement of a seat is proved here. -/
namespace Go.Proofs.Ytkngdfhigpjciaa
open Sx Go
set_option maxRecDepth 100000

def rblock_S : FnSpec := ⟨[.val true (.arr 8 .u64), .val false (.list .u8), .val false .u64, .val false .bool], [], true, 0, false⟩

abbrev rblockX : Type := ((List (UInt64)) × (List (UInt8)) × (UInt64) × (Bool) × Unit) × (Unit)

def rblock_s0 : Shape := ⟨163, [(1, .val false (.list .u8)), (2, .val false .u64), (3, .val false .bool), (4, .ptr 0 0 0), (8, .ptr 1 0 0), (9, .ptr 2 0 0), (10, .ptr 3 0 0), (11, .val false .int)], [(0, .row .u64), (1, .row .u64), (2, .row .u64), (3, .row .u64)], 0, true⟩

abbrev rblock_s0X : Type := ((List (UInt8)) × (UInt64) × (Bool) × (Unit) × (Unit) × (Unit) × (Unit) × (Int) × Unit) × ((List (UInt64)) × (List (UInt64)) × (List (UInt64)) × (List (UInt64)) × Unit)

def rblock_e0_0 : Shape := ⟨163, [(1, .val false (.list .u8)), (2, .val false .u64), (3, .val false .bool), (4, .ptr 0 0 0), (8, .ptr 1 0 0), (10, .ptr 2 0 0)], [(0, .row .u64), (1, .row .u64), (2, .row .u64)], 0, true⟩

abbrev rblock_e0_0X : Type := ((List (UInt8)) × (UInt64) × (Bool) × (Unit) × (Unit) × (Unit) × Unit) × ((List (UInt64)) × (List (UInt64)) × (List (UInt64)) × Unit)

def rblock_x0 : SE → Option Shape := xsMk [(0, rblock_e0_0)] none

def rblock_T0 (a1 : List (UInt8)) (a2 : UInt64) (a3 : Bool) (a11 : Int) (c0 : List (UInt64)) (c1 : List (UInt64)) (c2 : List (UInt64)) (c3 : List (UInt64)) : OT (Sum rblock_s0X LEnd) :=
  let z0 : Bool := inB a11 (8 : Nat)
  let z1 : List UInt64 := List.set c3 (Int.toNat a11 + (0 : Nat)) (List.getD c0 (Int.toNat a11 + (0 : Nat)) (0 : UInt64))
  (.br (decide (a11 < (8 : Int)))
  (gd [z0, decide (Int.toNat a11 + (0 : Nat) < List.length c0), inB a11 (16 : Nat), decide (Int.toNat a11 + (0 : Nat) < List.length c3), inR (a11 + (8 : Int)), z0, decide (Int.toNat a11 + (0 : Nat) < List.length c2), inB (a11 + (8 : Int)) (16 : Nat), decide (Int.toNat (a11 + (8 : Int)) + (0 : Nat) < List.length z1), inR (a11 + (1 : Int))] (.ok (.inl ((a1, (a2, (a3, ((), ((), ((), ((), (a11 + (1 : Int), ())))))))), (c0, (c1, (c2, (List.set z1 (Int.toNat (a11 + (8 : Int)) + (0 : Nat)) (List.getD c2 (Int.toNat a11 + (0 : Nat)) (0 : UInt64)), ()))))))))
  (.ok (.inr ⟨(.exit 0, rblock_e0_0), ((a1, (a2, (a3, ((), ((), ((), ())))))), (c0, (c1, (c3, ()))))⟩)))

def rblock_U0 (s : rblock_s0X) : OT (Sum rblock_s0X LEnd) := rblock_T0 (s.1.1) (s.1.2.1) (s.1.2.2.1) (s.1.2.2.2.2.2.2.2.1) (s.2.1) (s.2.2.1) (s.2.2.2.1) (s.2.2.2.2.1)

theorem rblock_q0 (s : rblock_s0X) (Q : Sum rblock_s0X LEnd → Prop) : wps te E_rmix lamNil 1000 (loopOf (codeOf Try.f22) 0) (rblock_s0.inj s) (stepK rblock_s0 rblock_x0 (Q : Sum rblock_s0.T LEnd → Prop)) = (rblock_U0 s).wpR Q := by kernel_rfl

def rblock_f0 (g0_0 : rblock_s0X → rblock_e0_0X) (s : rblock_s0X) : OT LEnd := (.ok ⟨(.exit 0, rblock_e0_0), g0_0 s⟩)

def rblock_s2 : Shape := ⟨163, [(1, .val false (.list .u8)), (4, .ptr 0 0 0), (8, .ptr 1 0 0), (10, .ptr 2 0 0), (12, .ptr 3 0 0), (13, .val false .int)], [(0, .row .u64), (1, .row .u64), (2, .row .u64), (3, .row .u64)], 0, true⟩

abbrev rblock_s2X : Type := ((List (UInt8)) × (Unit) × (Unit) × (Unit) × (Unit) × (Int) × Unit) × ((List (UInt64)) × (List (UInt64)) × (List (UInt64)) × (List (UInt64)) × Unit)

def rblock_e2_2 : Shape := ⟨163, [(4, .ptr 0 0 0), (8, .ptr 1 0 0), (10, .ptr 2 0 0), (12, .ptr 3 0 0)], [(0, .row .u64), (1, .row .u64), (2, .row .u64), (3, .row .u64)], 0, true⟩

abbrev rblock_e2_2X : Type := ((Unit) × (Unit) × (Unit) × (Unit) × Unit) × ((List (UInt64)) × (List (UInt64)) × (List (UInt64)) × (List (UInt64)) × Unit)

def rblock_x2 : SE → Option Shape := xsMk [(2, rblock_e2_2)] none

def rblock_T2 (a1 : List (UInt8)) (a13 : Int) (c0 : List (UInt64)) (c1 : List (UInt64)) (c2 : List (UInt64)) (c3 : List (UInt64)) : OT (Sum rblock_s2X LEnd) :=
  (.br (decide (a13 < (16 : Int)))
  (gd [inR ((8 : Int) * a13), rword_pre ((a1, (8 : Int) * a13, ()), ()), inB a13 (16 : Nat), decide (Int.toNat a13 + (0 : Nat) < List.length c3), inR (a13 + (1 : Int))] (.ok (.inl ((a1, ((), ((), ((), ((), (a13 + (1 : Int), ())))))), (c0, (c1, (c2, (List.set c3 (Int.toNat a13 + (0 : Nat)) (refWord a1 (Int.toNat ((8 : Int) * a13))), ()))))))))
  (.ok (.inr ⟨(.exit 2, rblock_e2_2), (((), ((), ((), ((), ())))), (c0, (c1, (c2, (c3, ())))))⟩)))

def rblock_U2 (s : rblock_s2X) : OT (Sum rblock_s2X LEnd) := rblock_T2 (s.1.1) (s.1.2.2.2.2.2.1) (s.2.1) (s.2.2.1) (s.2.2.2.1) (s.2.2.2.2.1)

theorem rblock_q2 (s : rblock_s2X) (Q : Sum rblock_s2X LEnd → Prop) : wps te E_rmix lamNil 1000 (loopOf (codeOf Try.f22) 2) (rblock_s2.inj s) (stepK rblock_s2 rblock_x2 (Q : Sum rblock_s2.T LEnd → Prop)) = (rblock_U2 s).wpR Q := by kernel_rfl

def rblock_f2 (g2_2 : rblock_s2X → rblock_e2_2X) (s : rblock_s2X) : OT LEnd := (.ok ⟨(.exit 2, rblock_e2_2), g2_2 s⟩)

def rblock_s4 : Shape := ⟨163, [(4, .ptr 0 0 0), (8, .ptr 1 0 0), (10, .ptr 2 0 0), (12, .ptr 3 0 0), (14, .ptr 4 0 0), (15, .val false .int)], [(0, .row .u64), (1, .row .u64), (2, .row .u64), (3, .row .u64), (4, .row (.arr 16 .int))], 0, true⟩

abbrev rblock_s4X : Type := ((Unit) × (Unit) × (Unit) × (Unit) × (Unit) × (Int) × Unit) × ((List (UInt64)) × (List (UInt64)) × (List (UInt64)) × (List (UInt64)) × (List (List (Int))) × Unit)

def rblock_e4_4 : Shape := ⟨163, [(4, .ptr 0 0 0), (8, .ptr 1 0 0), (10, .ptr 2 0 0)], [(0, .row .u64), (1, .row .u64), (2, .row .u64)], 0, true⟩

abbrev rblock_e4_4X : Type := ((Unit) × (Unit) × (Unit) × Unit) × ((List (UInt64)) × (List (UInt64)) × (List (UInt64)) × Unit)

def rblock_x4 : SE → Option Shape := xsMk [(4, rblock_e4_4)] none

def rblock_T4 (a15 : Int) (c0 : List (UInt64)) (c1 : List (UInt64)) (c2 : List (UInt64)) (c3 : List (UInt64)) (c4 : List (List (Int))) : OT (Sum rblock_s4X LEnd) :=
  let z0 : Int := Int.tmod a15 (10 : Int)
  let z1 : Nat := List.length c2
  let z2 : List Int := List.getD c4 (Int.toNat z0 + (0 : Nat)) [(0 : Int), (0 : Int), (0 : Int), (0 : Int), (0 : Int), (0 : Int), (0 : Int), (0 : Int), (0 : Int), (0 : Int), (0 : Int), (0 : Int), (0 : Int), (0 : Int), (0 : Int), (0 : Int)]
  let z3 : Int := List.getD z2 (0 : Nat) (0 : Int)
  let z4 : Nat := List.length c3
  let z5 : Int := List.getD z2 (1 : Nat) (0 : Int)
  let z6 : Nat := Int.toNat (0 : Int)
  let z7 : Nat := Int.toNat (4 : Int)
  let z8 : Nat := Int.toNat (8 : Int)
  let z9 : Nat := Int.toNat (12 : Int)
  let z10 : List UInt64 := lay c2 (gmix (tab c2 (16 : Nat) (0 : UInt64)) z6 z7 z8 z9 (List.getD c3 (Int.toNat z3 + (0 : Nat)) (0 : UInt64)) (List.getD c3 (Int.toNat z5 + (0 : Nat)) (0 : UInt64))) (16 : Nat) (0 : UInt64)
  let z11 : Nat := List.length z10
  let z12 : Int := List.getD z2 (2 : Nat) (0 : Int)
  let z13 : Int := List.getD z2 (3 : Nat) (0 : Int)
  let z14 : Nat := Int.toNat (1 : Int)
  let z15 : Nat := Int.toNat (5 : Int)
  let z16 : Nat := Int.toNat (9 : Int)
  let z17 : Nat := Int.toNat (13 : Int)
  let z18 : List UInt64 := lay z10 (gmix (tab z10 (16 : Nat) (0 : UInt64)) z14 z15 z16 z17 (List.getD c3 (Int.toNat z12 + (0 : Nat)) (0 : UInt64)) (List.getD c3 (Int.toNat z13 + (0 : Nat)) (0 : UInt64))) (16 : Nat) (0 : UInt64)
  let z19 : Nat := List.length z18
  let z20 : Int := List.getD z2 (4 : Nat) (0 : Int)
  let z21 : Int := List.getD z2 (5 : Nat) (0 : Int)
  let z22 : Nat := Int.toNat (2 : Int)
  let z23 : Nat := Int.toNat (6 : Int)
  let z24 : Nat := Int.toNat (10 : Int)
  let z25 : Nat := Int.toNat (14 : Int)
  let z26 : List UInt64 := lay z18 (gmix (tab z18 (16 : Nat) (0 : UInt64)) z22 z23 z24 z25 (List.getD c3 (Int.toNat z20 + (0 : Nat)) (0 : UInt64)) (List.getD c3 (Int.toNat z21 + (0 : Nat)) (0 : UInt64))) (16 : Nat) (0 : UInt64)
  let z27 : Nat := List.length z26
  let z28 : Int := List.getD z2 (6 : Nat) (0 : Int)
  let z29 : Int := List.getD z2 (7 : Nat) (0 : Int)
  let z30 : Nat := Int.toNat (3 : Int)
  let z31 : Nat := Int.toNat (7 : Int)
  let z32 : Nat := Int.toNat (11 : Int)
  let z33 : Nat := Int.toNat (15 : Int)
  let z34 : List UInt64 := lay z26 (gmix (tab z26 (16 : Nat) (0 : UInt64)) z30 z31 z32 z33 (List.getD c3 (Int.toNat z28 + (0 : Nat)) (0 : UInt64)) (List.getD c3 (Int.toNat z29 + (0 : Nat)) (0 : UInt64))) (16 : Nat) (0 : UInt64)
  let z35 : Nat := List.length z34
  let z36 : Int := List.getD z2 (8 : Nat) (0 : Int)
  let z37 : Int := List.getD z2 (9 : Nat) (0 : Int)
  let z38 : List UInt64 := lay z34 (gmix (tab z34 (16 : Nat) (0 : UInt64)) z6 z15 z24 z33 (List.getD c3 (Int.toNat z36 + (0 : Nat)) (0 : UInt64)) (List.getD c3 (Int.toNat z37 + (0 : Nat)) (0 : UInt64))) (16 : Nat) (0 : UInt64)
  let z39 : Nat := List.length z38
  let z40 : Int := List.getD z2 (10 : Nat) (0 : Int)
  let z41 : Int := List.getD z2 (11 : Nat) (0 : Int)
  let z42 : List UInt64 := lay z38 (gmix (tab z38 (16 : Nat) (0 : UInt64)) z14 z23 z32 z9 (List.getD c3 (Int.toNat z40 + (0 : Nat)) (0 : UInt64)) (List.getD c3 (Int.toNat z41 + (0 : Nat)) (0 : UInt64))) (16 : Nat) (0 : UInt64)
  let z43 : Nat := List.length z42
  let z44 : Int := List.getD z2 (12 : Nat) (0 : Int)
  let z45 : Int := List.getD z2 (13 : Nat) (0 : Int)
  let z46 : List UInt64 := lay z42 (gmix (tab z42 (16 : Nat) (0 : UInt64)) z22 z31 z8 z17 (List.getD c3 (Int.toNat z44 + (0 : Nat)) (0 : UInt64)) (List.getD c3 (Int.toNat z45 + (0 : Nat)) (0 : UInt64))) (16 : Nat) (0 : UInt64)
  let z47 : Nat := List.length z46
  let z48 : Int := List.getD z2 (14 : Nat) (0 : Int)
  let z49 : Int := List.getD z2 (15 : Nat) (0 : Int)
  (.br (decide (a15 < (12 : Int)))
  (gd [inB z0 (10 : Nat), decide (Int.toNat z0 + (0 : Nat) < List.length c4), decide ((16 : Nat) ≤ z1), inB z3 (16 : Nat), decide (Int.toNat z3 + (0 : Nat) < z4), inB z5 (16 : Nat), decide (Int.toNat z5 + (0 : Nat) < z4), decide ((16 / 1 : Nat) + (0 : Nat) ≤ z1), decide ((16 : Nat) ≤ z11), inB z12 (16 : Nat), decide (Int.toNat z12 + (0 : Nat) < z4), inB z13 (16 : Nat), decide (Int.toNat z13 + (0 : Nat) < z4), decide ((16 / 1 : Nat) + (0 : Nat) ≤ z11), decide ((16 : Nat) ≤ z19), inB z20 (16 : Nat), decide (Int.toNat z20 + (0 : Nat) < z4), inB z21 (16 : Nat), decide (Int.toNat z21 + (0 : Nat) < z4), decide ((16 / 1 : Nat) + (0 : Nat) ≤ z19), decide ((16 : Nat) ≤ z27), inB z28 (16 : Nat), decide (Int.toNat z28 + (0 : Nat) < z4), inB z29 (16 : Nat), decide (Int.toNat z29 + (0 : Nat) < z4), decide ((16 / 1 : Nat) + (0 : Nat) ≤ z27), decide ((16 : Nat) ≤ z35), inB z36 (16 : Nat), decide (Int.toNat z36 + (0 : Nat) < z4), inB z37 (16 : Nat), decide (Int.toNat z37 + (0 : Nat) < z4), decide ((16 / 1 : Nat) + (0 : Nat) ≤ z35), decide ((16 : Nat) ≤ z39), inB z40 (16 : Nat), decide (Int.toNat z40 + (0 : Nat) < z4), inB z41 (16 : Nat), decide (Int.toNat z41 + (0 : Nat) < z4), decide ((16 / 1 : Nat) + (0 : Nat) ≤ z39), decide ((16 : Nat) ≤ z43), inB z44 (16 : Nat), decide (Int.toNat z44 + (0 : Nat) < z4), inB z45 (16 : Nat), decide (Int.toNat z45 + (0 : Nat) < z4), decide ((16 / 1 : Nat) + (0 : Nat) ≤ z43), decide ((16 : Nat) ≤ z47), inB z48 (16 : Nat), decide (Int.toNat z48 + (0 : Nat) < z4), inB z49 (16 : Nat), decide (Int.toNat z49 + (0 : Nat) < z4), decide ((16 / 1 : Nat) + (0 : Nat) ≤ z47), inR (a15 + (1 : Int))] (.ok (.inl (((), ((), ((), ((), ((), (a15 + (1 : Int), ())))))), (c0, (c1, (lay z46 (gmix (tab z46 (16 : Nat) (0 : UInt64)) z30 z7 z16 z25 (List.getD c3 (Int.toNat z48 + (0 : Nat)) (0 : UInt64)) (List.getD c3 (Int.toNat z49 + (0 : Nat)) (0 : UInt64))) (16 : Nat) (0 : UInt64), (c3, (c4, ())))))))))
  (.ok (.inr ⟨(.exit 4, rblock_e4_4), (((), ((), ((), ()))), (c0, (c1, (c2, ()))))⟩)))

def rblock_U4 (s : rblock_s4X) : OT (Sum rblock_s4X LEnd) := rblock_T4 (s.1.2.2.2.2.2.1) (s.2.1) (s.2.2.1) (s.2.2.2.1) (s.2.2.2.2.1) (s.2.2.2.2.2.1)

theorem rblock_q4 (s : rblock_s4X) (Q : Sum rblock_s4X LEnd → Prop) : wps te E_rmix lamNil 1000 (loopOf (codeOf Try.f22) 4) (rblock_s4.inj s) (stepK rblock_s4 rblock_x4 (Q : Sum rblock_s4.T LEnd → Prop)) = (rblock_U4 s).wpR Q := by kernel_rfl

def rblock_f4 (g4_4 : rblock_s4X → rblock_e4_4X) (s : rblock_s4X) : OT LEnd := (.ok ⟨(.exit 4, rblock_e4_4), g4_4 s⟩)

def rblock_s6 : Shape := ⟨163, [(4, .ptr 0 0 0), (8, .ptr 1 0 0), (10, .ptr 2 0 0), (17, .val false .int)], [(0, .row .u64), (1, .row .u64), (2, .row .u64)], 0, true⟩

abbrev rblock_s6X : Type := ((Unit) × (Unit) × (Unit) × (Int) × Unit) × ((List (UInt64)) × (List (UInt64)) × (List (UInt64)) × Unit)

def rblock_e6_6 : Shape := ⟨163, [(4, .ptr 0 0 0), (8, .ptr 1 0 0)], [(0, .row .u64), (1, .row .u64)], 0, true⟩

abbrev rblock_e6_6X : Type := ((Unit) × (Unit) × Unit) × ((List (UInt64)) × (List (UInt64)) × Unit)

def rblock_x6 : SE → Option Shape := xsMk [(6, rblock_e6_6)] none

def rblock_T6 (a17 : Int) (c0 : List (UInt64)) (c1 : List (UInt64)) (c2 : List (UInt64)) : OT (Sum rblock_s6X LEnd) :=
  let z0 : Bool := inB a17 (8 : Nat)
  let z1 : Bool := decide (Int.toNat a17 + (0 : Nat) < List.length c0)
  let z2 : Nat := List.length c2
  (.br (decide (a17 < (8 : Int)))
  (gd [z0, z1, inB a17 (16 : Nat), decide (Int.toNat a17 + (0 : Nat) < z2), inR (a17 + (8 : Int)), inB (a17 + (8 : Int)) (16 : Nat), decide (Int.toNat (a17 + (8 : Int)) + (0 : Nat) < z2), z0, z1, inR (a17 + (1 : Int))] (.ok (.inl (((), ((), ((), (a17 + (1 : Int), ())))), (List.set c0 (Int.toNat a17 + (0 : Nat)) (List.getD c0 (Int.toNat a17 + (0 : Nat)) (0 : UInt64) ^^^ (List.getD c2 (Int.toNat a17 + (0 : Nat)) (0 : UInt64) ^^^ List.getD c2 (Int.toNat (a17 + (8 : Int)) + (0 : Nat)) (0 : UInt64))), (c1, (c2, ())))))))
  (.ok (.inr ⟨(.exit 6, rblock_e6_6), (((), ((), ())), (c0, (c1, ())))⟩)))

def rblock_U6 (s : rblock_s6X) : OT (Sum rblock_s6X LEnd) := rblock_T6 (s.1.2.2.2.1) (s.2.1) (s.2.2.1) (s.2.2.2.1)

theorem rblock_q6 (s : rblock_s6X) (Q : Sum rblock_s6X LEnd → Prop) : wps te E_rmix lamNil 1000 (loopOf (codeOf Try.f22) 6) (rblock_s6.inj s) (stepK rblock_s6 rblock_x6 (Q : Sum rblock_s6.T LEnd → Prop)) = (rblock_U6 s).wpR Q := by kernel_rfl

def rblock_f6 (g6_6 : rblock_s6X → rblock_e6_6X) (s : rblock_s6X) : OT LEnd := (.ok ⟨(.exit 6, rblock_e6_6), g6_6 s⟩)

def rblock_o0 : OutSh := ⟨[.val true (.arr 8 .u64)], [], false⟩

def rblock_sel : SV → Option OutSh := fun _ => some rblock_o0

def rblock_T (ok0 : rblock_s0X → Bool) (g0_0 : rblock_s0X → rblock_e0_0X) (ok2 : rblock_s2X → Bool) (g2_2 : rblock_s2X → rblock_e2_2X) (ok4 : rblock_s4X → Bool) (g4_4 : rblock_s4X → rblock_e4_4X) (ok6 : rblock_s6X → Bool) (g6_6 : rblock_s6X → rblock_e6_6X) (a0 : List (UInt64)) (a1 : List (UInt8)) (a2 : UInt64) (a3 : Bool) : OT rblock_S.Y :=
  let z0 : List UInt64 × PUnit := ([(0 : UInt64), (0 : UInt64), (0 : UInt64), (0 : UInt64), (0 : UInt64), (0 : UInt64), (0 : UInt64), (0 : UInt64), (0 : UInt64), (0 : UInt64), (0 : UInt64), (0 : UInt64), (0 : UInt64), (0 : UInt64), (0 : UInt64), (0 : UInt64)], ())
  let z1 : (List UInt8 × UInt64 × Bool × PUnit × PUnit × PUnit × PUnit × Int × PUnit) × List UInt64 × List UInt64 × List UInt64 × List UInt64 × PUnit := ((a1, a2, a3, (), (), (), (), (0 : Int), ()), tab a0 (8 : Nat) (0 : UInt64), [(0 : UInt64), (0 : UInt64), (0 : UInt64), (0 : UInt64), (0 : UInt64), (0 : UInt64), (0 : UInt64), (0 : UInt64)], [(7640891576956012808 : UInt64), (13503953896175478587 : UInt64), (4354685564936845355 : UInt64), (11912009170470909681 : UInt64), (5840696475078001361 : UInt64), (11170449401992604703 : UInt64), (2270897969802886507 : UInt64), (6620516959819538809 : UInt64)], z0)
  let z2 : (List UInt8 × UInt64 × Bool × PUnit × PUnit × PUnit × PUnit) × List UInt64 × List UInt64 × List UInt64 × PUnit := g0_0 z1
  let z3 : List UInt64 × List UInt64 × List UInt64 × PUnit := z2.snd
  let z4 : List UInt64 × List UInt64 × PUnit := z3.snd
  let z5 : List UInt64 := z4.snd.fst
  let z6 : Bool := decide ((12 : Nat) < List.length z5)
  let z7 : List UInt8 × UInt64 × Bool × PUnit × PUnit × PUnit × PUnit := z2.fst
  let z8 : UInt64 × Bool × PUnit × PUnit × PUnit × PUnit := z7.snd
  let z9 : List UInt64 := List.set z5 (12 : Nat) (List.getD z5 (12 : Nat) (0 : UInt64) ^^^ z8.fst)
  let z10 : Bool := decide ((14 : Nat) < List.length z9)
  let z11 : List UInt8 × PUnit × PUnit × PUnit × PUnit × Int × PUnit := (z7.fst, (), (), (), (), (0 : Int), ())
  let z12 : List UInt64 := z3.fst
  let z13 : List UInt64 := z4.fst
  let z14 : (List UInt8 × PUnit × PUnit × PUnit × PUnit × Int × PUnit) × List UInt64 × List UInt64 × List UInt64 × List UInt64 × PUnit := (z11, z12, z13, List.set z9 (14 : Nat) (List.getD z9 (14 : Nat) (0 : UInt64) ^^^ (18446744073709551615 : UInt64)), z0)
  let z15 : PUnit × PUnit × PUnit × PUnit × PUnit × Int × PUnit := ((), (), (), (), (), (0 : Int), ())
  let z16 : List UInt64 × List UInt64 × List UInt64 × List UInt64 × PUnit := (g2_2 z14).snd
  let z17 : List UInt64 × List UInt64 × List UInt64 × PUnit := z16.snd
  let z18 : List UInt64 × List UInt64 × PUnit := z17.snd
  let z19 : List (List Int) × PUnit := ([[(0 : Int), (1 : Int), (2 : Int), (3 : Int), (4 : Int), (5 : Int), (6 : Int), (7 : Int), (8 : Int), (9 : Int), (10 : Int), (11 : Int), (12 : Int), (13 : Int), (14 : Int), (15 : Int)], [(14 : Int), (10 : Int), (4 : Int), (8 : Int), (9 : Int), (15 : Int), (13 : Int), (6 : Int), (1 : Int), (12 : Int), (0 : Int), (2 : Int), (11 : Int), (7 : Int), (5 : Int), (3 : Int)], [(11 : Int), (8 : Int), (12 : Int), (0 : Int), (5 : Int), (2 : Int), (15 : Int), (13 : Int), (10 : Int), (14 : Int), (3 : Int), (6 : Int), (7 : Int), (1 : Int), (9 : Int), (4 : Int)], [(7 : Int), (9 : Int), (3 : Int), (1 : Int), (13 : Int), (12 : Int), (11 : Int), (14 : Int), (2 : Int), (6 : Int), (5 : Int), (10 : Int), (4 : Int), (0 : Int), (15 : Int), (8 : Int)], [(9 : Int), (0 : Int), (5 : Int), (7 : Int), (2 : Int), (4 : Int), (10 : Int), (15 : Int), (14 : Int), (1 : Int), (11 : Int), (12 : Int), (6 : Int), (8 : Int), (3 : Int), (13 : Int)], [(2 : Int), (12 : Int), (6 : Int), (10 : Int), (0 : Int), (11 : Int), (8 : Int), (3 : Int), (4 : Int), (13 : Int), (7 : Int), (5 : Int), (15 : Int), (14 : Int), (1 : Int), (9 : Int)], [(12 : Int), (5 : Int), (1 : Int), (15 : Int), (14 : Int), (13 : Int), (4 : Int), (10 : Int), (0 : Int), (7 : Int), (6 : Int), (3 : Int), (9 : Int), (2 : Int), (8 : Int), (11 : Int)], [(13 : Int), (11 : Int), (7 : Int), (14 : Int), (12 : Int), (1 : Int), (3 : Int), (9 : Int), (5 : Int), (0 : Int), (15 : Int), (4 : Int), (8 : Int), (6 : Int), (2 : Int), (10 : Int)], [(6 : Int), (15 : Int), (14 : Int), (9 : Int), (11 : Int), (3 : Int), (0 : Int), (8 : Int), (12 : Int), (2 : Int), (13 : Int), (7 : Int), (1 : Int), (4 : Int), (10 : Int), (5 : Int)], [(10 : Int), (2 : Int), (8 : Int), (4 : Int), (7 : Int), (6 : Int), (1 : Int), (5 : Int), (15 : Int), (11 : Int), (9 : Int), (14 : Int), (3 : Int), (12 : Int), (13 : Int), (0 : Int)]], ())
  let z20 : (PUnit × PUnit × PUnit × PUnit × PUnit × Int × PUnit) × List UInt64 × List UInt64 × List UInt64 × List UInt64 × List (List Int) × PUnit := (z15, z16.fst, z17.fst, z18.fst, z18.snd.fst, z19)
  let z21 : PUnit × PUnit × PUnit × Int × PUnit := ((), (), (), (0 : Int), ())
  let z22 : List UInt64 × List UInt64 × List UInt64 × PUnit := (g4_4 z20).snd
  let z23 : List UInt64 × List UInt64 × PUnit := z22.snd
  let z24 : (PUnit × PUnit × PUnit × Int × PUnit) × List UInt64 × List UInt64 × List UInt64 × PUnit := (z21, z22.fst, z23.fst, z23.snd.fst, ())
  let z25 : List UInt64 × List UInt64 × PUnit := (g6_6 z24).snd
  let z26 : List UInt64 := z25.fst
  let z27 : List UInt64 := z25.snd.fst
  let z28 : List UInt64 := lay z27 z26 (8 : Nat) (0 : UInt64)
  let z29 : (List UInt8 × PUnit × PUnit × PUnit × PUnit × Int × PUnit) × List UInt64 × List UInt64 × List UInt64 × List UInt64 × PUnit := (z11, z12, z13, z9, z0)
  let z30 : List UInt64 × List UInt64 × List UInt64 × List UInt64 × PUnit := (g2_2 z29).snd
  let z31 : List UInt64 × List UInt64 × List UInt64 × PUnit := z30.snd
  let z32 : List UInt64 × List UInt64 × PUnit := z31.snd
  let z33 : (PUnit × PUnit × PUnit × PUnit × PUnit × Int × PUnit) × List UInt64 × List UInt64 × List UInt64 × List UInt64 × List (List Int) × PUnit := (z15, z30.fst, z31.fst, z32.fst, z32.snd.fst, z19)
  let z34 : List UInt64 × List UInt64 × List UInt64 × PUnit := (g4_4 z33).snd
  let z35 : List UInt64 × List UInt64 × PUnit := z34.snd
  let z36 : (PUnit × PUnit × PUnit × Int × PUnit) × List UInt64 × List UInt64 × List UInt64 × PUnit := (z21, z34.fst, z35.fst, z35.snd.fst, ())
  let z37 : List UInt64 × List UInt64 × PUnit := (g6_6 z36).snd
  let z38 : List UInt64 := z37.fst
  let z39 : List UInt64 := z37.snd.fst
  let z40 : List UInt64 := lay z39 z38 (8 : Nat) (0 : UInt64)
  (gd [ok0 z1, z6, z6] (.br (z8.snd.fst)
  (gd [z10, z10, ok2 z14, ok4 z20, ok6 z24, decide ((8 : Nat) ≤ List.length z26), decide ((8 / 1 : Nat) + (0 : Nat) ≤ List.length z27), decide ((8 : Nat) ≤ List.length z28)] (.ok ⟨rblock_o0, ((tab z28 (8 : Nat) (0 : UInt64), ()), ())⟩))
  (gd [ok2 z29, ok4 z33, ok6 z36, decide ((8 : Nat) ≤ List.length z38), decide ((8 / 1 : Nat) + (0 : Nat) ≤ List.length z39), decide ((8 : Nat) ≤ List.length z40)] (.ok ⟨rblock_o0, ((tab z40 (8 : Nat) (0 : UInt64), ()), ())⟩))))

theorem rblock_q (ok0 : rblock_s0X → Bool) (g0_0 : rblock_s0X → rblock_e0_0X) (ok2 : rblock_s2X → Bool) (g2_2 : rblock_s2X → rblock_e2_2X) (ok4 : rblock_s4X → Bool) (g4_4 : rblock_s4X → rblock_e4_4X) (ok6 : rblock_s6X → Bool) (g6_6 : rblock_s6X → rblock_e6_6X) (x : rblockX) (Q : rblock_S.Y → Prop) : wpf te E_rmix (lamCons 6 (loopF rblock_s6 6 ok6 (rblock_f6 g6_6)) (lamCons 4 (loopF rblock_s4 4 ok4 (rblock_f4 g4_4)) (lamCons 2 (loopF rblock_s2 2 ok2 (rblock_f2 g2_2)) (lamCons 0 (loopF rblock_s0 0 ok0 (rblock_f0 g0_0)) lamNil)))) 1000 Try.f22 (rblock_S.inp.inj x).tm (rblock_S.inp.inj x).hp (fnK rblock_S rblock_sel Q) (fun _ _ => False) = (rblock_T ok0 g0_0 ok2 g2_2 ok4 g4_4 ok6 g6_6 (x.1.1) (x.1.2.1) (x.1.2.2.1) (x.1.2.2.2.1)).wpR Q := by kernel_rfl

theorem rblock_main (ok0 : rblock_s0X → Bool) (g0_0 : rblock_s0X → rblock_e0_0X) (ok2 : rblock_s2X → Bool) (g2_2 : rblock_s2X → rblock_e2_2X) (ok4 : rblock_s4X → Bool) (g4_4 : rblock_s4X → rblock_e4_4X) (ok6 : rblock_s6X → Bool) (g6_6 : rblock_s6X → rblock_e6_6X) (h0 : ∀ s : rblock_s0X, ok0 s = true → ∃ m e, loopRun (rblock_U0) m s = some e ∧ (rblock_f0 g0_0 s).run = some e) (h2 : ∀ s : rblock_s2X, ok2 s = true → ∃ m e, loopRun (rblock_U2) m s = some e ∧ (rblock_f2 g2_2 s).run = some e) (h4 : ∀ s : rblock_s4X, ok4 s = true → ∃ m e, loopRun (rblock_U4) m s = some e ∧ (rblock_f4 g4_4 s).run = some e) (h6 : ∀ s : rblock_s6X, ok6 s = true → ∃ m e, loopRun (rblock_U6) m s = some e ∧ (rblock_f6 g6_6 s).run = some e) (pre : rblockX → Bool) (F : rblockX → OT rblock_S.Y) (hF : ∀ (x : rblockX) oy, pre x = true → (F x).run = some oy → (rblock_T ok0 g0_0 ok2 g2_2 ok4 g4_4 ok6 g6_6 (x.1.1) (x.1.2.1) (x.1.2.2.1) (x.1.2.2.2.1)).run = some oy) : SummOk Try.prog 22 (rblock_S.summ pre F) :=
  fn_tree te_ok E_rmix_ok E_rmix_any (f := 22) (fn := Try.f22) (c := codeOf Try.f22) (by kernel_rfl) (by kernel_rfl) (by kernel_rfl) (S := rblock_S) (k := 0) (by kernel_rfl) (fun R hR => (lamOk_cons (c := (codeOf Try.f22)) (by kernel_rfl) (id := 6) (by kernel_rfl) (loop_ok te_ok E_rmix_ok E_rmix_any (sh := rblock_s6) hR (xs := rblock_x6) (xsMk_small (by kernel_rfl) (by kernel_rfl) hR) xsMk_pan lamOk_nil (n := 1000) (T := rblock_U6) (fun s Q => rblock_q6 s Q) (ok := ok6) (f := rblock_f6 g6_6) h6) (lamOk_cons (c := (codeOf Try.f22)) (by kernel_rfl) (id := 4) (by kernel_rfl) (loop_ok te_ok E_rmix_ok E_rmix_any (sh := rblock_s4) hR (xs := rblock_x4) (xsMk_small (by kernel_rfl) (by kernel_rfl) hR) xsMk_pan lamOk_nil (n := 1000) (T := rblock_U4) (fun s Q => rblock_q4 s Q) (ok := ok4) (f := rblock_f4 g4_4) h4) (lamOk_cons (c := (codeOf Try.f22)) (by kernel_rfl) (id := 2) (by kernel_rfl) (loop_ok te_ok E_rmix_ok E_rmix_any (sh := rblock_s2) hR (xs := rblock_x2) (xsMk_small (by kernel_rfl) (by kernel_rfl) hR) xsMk_pan lamOk_nil (n := 1000) (T := rblock_U2) (fun s Q => rblock_q2 s Q) (ok := ok2) (f := rblock_f2 g2_2) h2) (lamOk_cons (c := (codeOf Try.f22)) (by kernel_rfl) (id := 0) (by kernel_rfl) (loop_ok te_ok E_rmix_ok E_rmix_any (sh := rblock_s0) hR (xs := rblock_x0) (xsMk_small (by kernel_rfl) (by kernel_rfl) hR) xsMk_pan lamOk_nil (n := 1000) (T := rblock_U0) (fun s Q => rblock_q0 s Q) (ok := ok0) (f := rblock_f0 g0_0) h0) lamOk_nil))))) (n := 1000) (sel := rblock_sel) (fun v o h => by cases h; rfl) (pre := pre) (F := F) (T := fun x => rblock_T ok0 g0_0 ok2 g2_2 ok4 g4_4 ok6 g6_6 (x.1.1) (x.1.2.1) (x.1.2.2.1) (x.1.2.2.2.1)) (fun x Q => rblock_q ok0 g0_0 ok2 g2_2 ok4 g4_4 ok6 g6_6 x Q) hF

theorem laid_eq {h : List UInt64} (hh : h.length = 8) : upto (fun k v => (v.set k (h.getD k 0)).set (k + 8) (bIV.getD k 0)) (List.replicate 16 0) 8 = h ++ bIV := by
  have e := tab_eq (x := h) (n := 8) (d := 0) hh
  rw [← e]
  rfl

def rblock_ok0 (s : rblock_s0X) : Bool := decide (s.1.2.2.2.2.2.2.2.1 = 0 ∧ s.2.1.length = 8 ∧ s.2.2.2.1 = bIV ∧ s.2.2.2.2.1 = List.replicate 16 0)
def rblock_g0 (s : rblock_s0X) : rblock_e0_0X := ((s.1.1, s.1.2.1, s.1.2.2.1, (), (), (), ()), (s.2.1, s.2.2.1, s.2.1 ++ bIV, ()))
theorem rblock_h0 : ∀ s : rblock_s0X, rblock_ok0 s = true → ∃ m e, loopRun rblock_U0 m s = some e ∧ (rblock_f0 rblock_g0 s).run = some e := by
  rintro ⟨⟨b, t, l, ⟨⟩, ⟨⟩, ⟨⟩, ⟨⟩, i, ⟨⟩⟩, ⟨h, c1, c2, c3, ⟨⟩⟩⟩ hh
  have h' := of_decide_eq_true hh
  dsimp only at h'
  obtain ⟨rfl, hl, rfl, rfl⟩ := h'
  have := (loop_upto (T := rblock_U0) (fun k v => (((b, t, l, (), (), (), (), (k : Int), ()), (h, c1, bIV, v, ())) : rblock_s0X)) (fun k v => (v.set k (h.getD k 0)).set (k + 8) (bIV.getD k 0))
    (fun v => (⟨(.exit 0, rblock_e0_0), ((b, t, l, (), (), (), ()), (h, c1, v, ()))⟩ : LEnd)) 8 (List.replicate 16 0) (fun _ v => v.length = 16) (by simp) (fun k v hk hv => ⟨?_, by rw [List.length_set, List.length_set]; exact hv⟩) (fun v hv => ?_)).1
  · obtain ⟨m, hm⟩ := this
    rw [laid_eq hl] at hm
    exact ⟨m, _, hm, rfl⟩
  · have e1 : ((k : Int) + 8).toNat = k + 8 := by omega
    refine (OT.run_t (decide_eq_true (by dsimp only; omega))).trans ((gd_run ?_).trans ?_)
    · simp only [e1, List.length_set, hl, hv, List.all_cons, List.all_nil, Bool.and_true, Bool.and_eq_true]
      exact ⟨inB_of (by omega), decide_eq_true (by omega), inB_of (by omega), decide_eq_true (by omega), inR_of (by omega), inB_of (by omega), decide_eq_true (show k + 0 < 8 by omega), inB_of (by omega), decide_eq_true (by omega), inR_of (by omega)⟩
    · simp only [OT.run_ok, e1, Nat.add_zero]
      rfl
  · exact OT.run_f (decide_eq_false (by dsimp only; omega))

def refWords (b : List UInt8) : List UInt64 := upto (fun k m => m.set k (refWord b (8 * k))) (List.replicate 16 0) 16
theorem refWords_length (b : List UInt8) : (refWords b).length = 16 := by
  unfold refWords; rw [upto_length (fun k v => List.length_set)]; rfl

def rblock_ok2 (s : rblock_s2X) : Bool := decide (s.1.2.2.2.2.2.1 = 0 ∧ s.2.2.2.2.1 = List.replicate 16 0)
def rblock_g2 (s : rblock_s2X) : rblock_e2_2X := (((), (), (), (), ()), (s.2.1, s.2.2.1, s.2.2.2.1, refWords s.1.1, ()))
theorem rblock_h2 : ∀ s : rblock_s2X, rblock_ok2 s = true → ∃ m e, loopRun rblock_U2 m s = some e ∧ (rblock_f2 rblock_g2 s).run = some e := by
  rintro ⟨⟨b, ⟨⟩, ⟨⟩, ⟨⟩, ⟨⟩, i, ⟨⟩⟩, ⟨c0, c1, c2, c3, ⟨⟩⟩⟩ hh
  have h' := of_decide_eq_true hh
  dsimp only at h'
  obtain ⟨rfl, rfl⟩ := h'
  have := (loop_upto (T := rblock_U2) (fun k m => (((b, (), (), (), (), (k : Int), ()), (c0, c1, c2, m, ())) : rblock_s2X)) (fun k m => m.set k (refWord b (8 * k)))
    (fun m => (⟨(.exit 2, rblock_e2_2), (((), (), (), (), ()), (c0, c1, c2, m, ()))⟩ : LEnd)) 16 (List.replicate 16 0) (fun _ m => m.length = 16) (by simp) (fun k m hk hm => ⟨?_, by rw [List.length_set]; exact hm⟩) (fun m hm => ?_)).1
  · obtain ⟨n, hn⟩ := this
    exact ⟨n, _, hn, rfl⟩
  · have e1 : (8 * (k : Int)).toNat = 8 * k := by omega
    refine (OT.run_t (decide_eq_true (by dsimp only; omega))).trans ((gd_run ?_).trans ?_)
    · simp only [e1, hm, List.all_cons, List.all_nil, Bool.and_true, Bool.and_eq_true]
      exact ⟨inR_of (by omega), decide_eq_true (by dsimp only; omega), inB_of (by omega), decide_eq_true (by omega), inR_of (by omega)⟩
    · simp only [OT.run_ok, e1, Nat.add_zero]
      rfl
  · exact OT.run_f (decide_eq_false (by dsimp only; omega))

def rowR (k : Nat) : List Int := bRows.getD (k % 10) (List.replicate 16 0)
theorem rowR_at (k : Nat) {j : Nat} (hj : j < 16) : nib ((rowAt k).getD j 0) = (rowR k).getD j 0 ∧ inB ((rowR k).getD j 0) 16 = true := by
  have hk : k % 10 < 10 := Nat.mod_lt _ (by decide)
  unfold rowAt rowR
  generalize k % 10 = r at hk
  have h : ∀ r : Fin 10, ∀ j : Fin 16, nib ((bSched.getD r.val []).getD j.val 0) = (bRows.getD r.val (List.replicate 16 0)).getD j.val 0 ∧ inB ((bRows.getD r.val (List.replicate 16 0)).getD j.val 0) 16 = true := by decide +kernel
  exact h ⟨r, hk⟩ ⟨j, hj⟩
theorem at_row (m : List UInt64) (k : Nat) {j : Nat} (hj : j < 16) : atF m (rowAt k) (j : Int) = m.getD ((rowR k).getD j 0).toNat 0 := by
  unfold atF
  rw [Int.toNat_natCast, (rowR_at k hj).1]

theorem lay_mix {v : List UInt64} (hv : v.length = 16) (a b c d : Nat) (x y : UInt64) : lay v (gmix (tab v 16 0) a b c d x y) 16 0 = gmix v a b c d x y := by
  rw [tab_eq hv]
  exact lay_eq hv (by rw [gmix_length]; exact hv)

/-- A round, as the document has it. -/
def refRound (m : List UInt64) (k : Nat) (v : List UInt64) : List UInt64 :=
  let g := fun j => m.getD ((rowR k).getD j 0).toNat 0
  gmix (gmix (gmix (gmix (gmix (gmix (gmix (gmix v 0 4 8 12 (g 0) (g 1)) 1 5 9 13 (g 2) (g 3)) 2 6 10 14 (g 4) (g 5)) 3 7 11 15 (g 6) (g 7)) 0 5 10 15 (g 8) (g 9)) 1 6 11 12 (g 10) (g 11)) 2 7 8 13 (g 12) (g 13)) 3 4 9 14 (g 14) (g 15)

theorem round_eq (m : List UInt64) (k : Nat) (v : List UInt64) : half2 m (rowAt k) (half1 m (rowAt k) v) = refRound m k v := by
  have h := fun {j : Nat} (hj : j < 16) => at_row m k hj
  have a0 : atF m (rowAt k) (2 * ((0 : Nat) : Int)) = m.getD ((rowR k).getD 0 0).toNat 0 := h (j := 0) (by decide)
  have a1 : atF m (rowAt k) (2 * ((0 : Nat) : Int) + 1) = m.getD ((rowR k).getD 1 0).toNat 0 := h (j := 1) (by decide)
  have a2 : atF m (rowAt k) (2 * ((1 : Nat) : Int)) = m.getD ((rowR k).getD 2 0).toNat 0 := h (j := 2) (by decide)
  have a3 : atF m (rowAt k) (2 * ((1 : Nat) : Int) + 1) = m.getD ((rowR k).getD 3 0).toNat 0 := h (j := 3) (by decide)
  have a4 : atF m (rowAt k) (2 * ((2 : Nat) : Int)) = m.getD ((rowR k).getD 4 0).toNat 0 := h (j := 4) (by decide)
  have a5 : atF m (rowAt k) (2 * ((2 : Nat) : Int) + 1) = m.getD ((rowR k).getD 5 0).toNat 0 := h (j := 5) (by decide)
  have a6 : atF m (rowAt k) (2 * ((3 : Nat) : Int)) = m.getD ((rowR k).getD 6 0).toNat 0 := h (j := 6) (by decide)
  have a7 : atF m (rowAt k) (2 * ((3 : Nat) : Int) + 1) = m.getD ((rowR k).getD 7 0).toNat 0 := h (j := 7) (by decide)
  have a8 : atF m (rowAt k) (8 + 2 * ((0 : Nat) : Int)) = m.getD ((rowR k).getD 8 0).toNat 0 := h (j := 8) (by decide)
  have a9 : atF m (rowAt k) (9 + 2 * ((0 : Nat) : Int)) = m.getD ((rowR k).getD 9 0).toNat 0 := h (j := 9) (by decide)
  have a10 : atF m (rowAt k) (8 + 2 * ((1 : Nat) : Int)) = m.getD ((rowR k).getD 10 0).toNat 0 := h (j := 10) (by decide)
  have a11 : atF m (rowAt k) (9 + 2 * ((1 : Nat) : Int)) = m.getD ((rowR k).getD 11 0).toNat 0 := h (j := 11) (by decide)
  have a12 : atF m (rowAt k) (8 + 2 * ((2 : Nat) : Int)) = m.getD ((rowR k).getD 12 0).toNat 0 := h (j := 12) (by decide)
  have a13 : atF m (rowAt k) (9 + 2 * ((2 : Nat) : Int)) = m.getD ((rowR k).getD 13 0).toNat 0 := h (j := 13) (by decide)
  have a14 : atF m (rowAt k) (8 + 2 * ((3 : Nat) : Int)) = m.getD ((rowR k).getD 14 0).toNat 0 := h (j := 14) (by decide)
  have a15 : atF m (rowAt k) (9 + 2 * ((3 : Nat) : Int)) = m.getD ((rowR k).getD 15 0).toNat 0 := h (j := 15) (by decide)
  simp only [half1, half2, upto, a0, a1, a2, a3, a4, a5, a6, a7, a8, a9, a10, a11, a12, a13, a14, a15, Nat.reduceAdd, Nat.reduceMod, refRound]

def rblock_ok4 (s : rblock_s4X) : Bool := decide (s.1.2.2.2.2.2.1 = 0 ∧ s.2.2.2.1.length = 16 ∧ s.2.2.2.2.1.length = 16 ∧ s.2.2.2.2.2.1 = bRows)
def rblock_g4 (s : rblock_s4X) : rblock_e4_4X := (((), (), (), ()), (s.2.1, s.2.2.1, roundsOf s.2.2.2.2.1 s.2.2.2.1, ()))
theorem rblock_h4 : ∀ s : rblock_s4X, rblock_ok4 s = true → ∃ m e, loopRun rblock_U4 m s = some e ∧ (rblock_f4 rblock_g4 s).run = some e := by
  rintro ⟨⟨⟨⟩, ⟨⟩, ⟨⟩, ⟨⟩, ⟨⟩, i, ⟨⟩⟩, ⟨c0, c1, v, m, c4, ⟨⟩⟩⟩ hh
  have h' := of_decide_eq_true hh
  dsimp only at h'
  obtain ⟨rfl, hv, hm, rfl⟩ := h'
  have := (loop_upto (T := rblock_U4) (fun k v => ((((), (), (), (), (), (k : Int), ()), (c0, c1, v, m, bRows, ())) : rblock_s4X)) (fun k v => half2 m (rowAt k) (half1 m (rowAt k) v))
    (fun v => (⟨(.exit 4, rblock_e4_4), (((), (), (), ()), (c0, c1, v, ()))⟩ : LEnd)) 12 v (fun _ v => v.length = 16) hv (fun k v hk hv => ⟨?_, by rw [half2_length, half1_length]; exact hv⟩) (fun v hv => ?_)).1
  · obtain ⟨n, hn⟩ := this
    exact ⟨n, _, hn, rfl⟩
  · have t1 : Int.tmod (k : Int) 10 = ((k % 10 : Nat) : Int) := by rw [Int.tmod_eq_emod_of_nonneg (by omega)]; omega
    have e1 : ((k % 10 : Nat) : Int).toNat = k % 10 := by omega
    have hrow : bRows.getD (k % 10) [0, 0, 0, 0, 0, 0, 0, 0, 0, 0, 0, 0, 0, 0, 0, 0] = rowR k := rfl
    have hb := fun {j : Nat} (hj : j < 16) => (rowR_at k hj).2
    have hn := fun {j : Nat} (hj : j < 16) => inB_lt (rowR_at k hj).2
    refine (OT.run_t (decide_eq_true (by dsimp only; omega))).trans ((gd_run ?_).trans ?_)
    · simp only [t1, e1, Nat.add_zero, hrow, lay_mix, lay_length, gmix_length, hv, hm, hb, hn, List.all_cons, List.all_nil, Bool.and_true, Bool.and_eq_true, decide_true, Nat.le_refl, Nat.reduceLT, true_and, Nat.reduceDiv]
      exact ⟨inB_of (by omega), decide_eq_true (show k % 10 < 10 by omega), inR_of (by omega)⟩
    · simp only [OT.run_ok, t1, e1, Nat.add_zero, hrow, lay_mix, lay_length, gmix_length, hv, round_eq]
      rfl
  · exact OT.run_f (decide_eq_false (by dsimp only; omega))

def rblock_ok6 (s : rblock_s6X) : Bool := decide (s.1.2.2.2.1 = 0 ∧ s.2.1.length = 8 ∧ s.2.2.2.1.length = 16)
def rblock_g6 (s : rblock_s6X) : rblock_e6_6X := (((), (), ()), (mergeH s.2.1 s.2.2.2.1, s.2.2.1, ()))
theorem rblock_h6 : ∀ s : rblock_s6X, rblock_ok6 s = true → ∃ m e, loopRun rblock_U6 m s = some e ∧ (rblock_f6 rblock_g6 s).run = some e := by
  rintro ⟨⟨⟨⟩, ⟨⟩, ⟨⟩, i, ⟨⟩⟩, ⟨h, c1, v, ⟨⟩⟩⟩ hh
  have h' := of_decide_eq_true hh
  dsimp only at h'
  obtain ⟨rfl, hl, hv⟩ := h'
  have := (loop_upto (T := rblock_U6) (fun k h => ((((), (), (), (k : Int), ()), (h, c1, v, ())) : rblock_s6X)) (fun k h => h.set k (h.getD k 0 ^^^ (v.getD k 0 ^^^ v.getD (k + 8) 0)))
    (fun h => (⟨(.exit 6, rblock_e6_6), (((), (), ()), (h, c1, ()))⟩ : LEnd)) 8 h (fun _ h => h.length = 8) hl (fun k h hk hl => ⟨?_, by rw [List.length_set]; exact hl⟩) (fun h hl => ?_)).1
  · obtain ⟨n, hn⟩ := this
    exact ⟨n, _, hn, rfl⟩
  · have e1 : ((k : Int) + 8).toNat = k + 8 := by omega
    refine (OT.run_t (decide_eq_true (by dsimp only; omega))).trans ((gd_run ?_).trans ?_)
    · simp only [e1, hl, hv, List.all_cons, List.all_nil, Bool.and_true, Bool.and_eq_true]
      exact ⟨inB_of (by omega), decide_eq_true (by omega), inB_of (by omega), decide_eq_true (by omega), inR_of (by omega), inB_of (by omega), decide_eq_true (by omega), inB_of (by omega), decide_eq_true (by omega), inR_of (by omega)⟩
    · simp only [OT.run_ok, e1, Nat.add_zero]
      rfl
  · exact OT.run_f (decide_eq_false (by dsimp only; omega))

theorem xorAll (x : UInt64) : x ^^^ 18446744073709551615 = ~~~x := by
  rw [← UInt64.toBitVec_inj]
  show x.toBitVec ^^^ BitVec.allOnes 64 = ~~~ x.toBitVec
  exact BitVec.xor_allOnes

theorem rblock_ok0_of {b : List UInt8} {t : UInt64} {l : Bool} {h c1 : List UInt64} (hh : h.length = 8) : rblock_ok0 ((b, t, l, (), (), (), (), 0, ()), (h, c1, bIV, [0, 0, 0, 0, 0, 0, 0, 0, 0, 0, 0, 0, 0, 0, 0, 0], ())) = true := decide_eq_true ⟨rfl, hh, rfl, rfl⟩
theorem rblock_ok2_of {b : List UInt8} {c0 c1 c2 : List UInt64} : rblock_ok2 ((b, (), (), (), (), 0, ()), (c0, c1, c2, [0, 0, 0, 0, 0, 0, 0, 0, 0, 0, 0, 0, 0, 0, 0, 0], ())) = true := decide_eq_true ⟨rfl, rfl⟩
theorem rblock_ok4_of {c0 c1 v m : List UInt64} (hv : v.length = 16) (hm : m.length = 16) : rblock_ok4 (((), (), (), (), (), 0, ()), (c0, c1, v, m, bRows, ())) = true := decide_eq_true ⟨rfl, hv, hm, rfl⟩
theorem rblock_ok6_of {c0 c1 v : List UInt64} (h0 : c0.length = 8) (hv : v.length = 16) : rblock_ok6 (((), (), (), 0, ()), (c0, c1, v, ())) = true := decide_eq_true ⟨rfl, h0, hv⟩

/-- The state behind a block, as the document has it. -/
def refBlock (h : List UInt64) (b : List UInt8) (t : UInt64) (last : Bool) : List UInt64 := mergeH h (roundsOf (refWords b) (laidV h t last))

def rblock_pre (x : rblockX) : Bool := decide (x.1.1.length = 8)
def rblock_F (x : rblockX) : OT rblock_S.Y := .ok ⟨rblock_o0, ((refBlock x.1.1 x.1.2.1 x.1.2.2.1 x.1.2.2.2.1, ()), ())⟩

theorem rblock_ok : SummOk Try.prog 22 (rblock_S.summ rblock_pre rblock_F) := rblock_main rblock_ok0 rblock_g0 rblock_ok2 rblock_g2 rblock_ok4 rblock_g4 rblock_ok6 rblock_g6 rblock_h0 rblock_h2 rblock_h4 rblock_h6 _ _ fun x oy hp ho => by
  rw [← ho]
  clear ho
  obtain ⟨⟨h, b, t, last, ⟨⟩⟩, ⟨⟩⟩ := x
  have hh : h.length = 8 := of_decide_eq_true hp
  have t1 : tab h 8 0 = h := tab_eq hh
  have hv : ∀ c l, (laidV h c l).length = 16 := fun c l => by
    unfold laidV
    cases l <;> simp [hh] <;> rfl
  have hm : (refWords b).length = 16 := refWords_length b
  have hr : ∀ c l, (roundsOf (refWords b) (laidV h c l)).length = 16 := fun c l => by rw [roundsOf_length]; exact hv c l
  have hM : ∀ c l, (refBlock h b c l).length = 8 := fun c l => by unfold refBlock; rw [mergeH_length]; exact hh
  have hi : (h ++ bIV).length = 16 := by simp [hh]; rfl
  have e8 : [(7640891576956012808 : UInt64), 13503953896175478587, 4354685564936845355, 11912009170470909681, 5840696475078001361, 11170449401992604703, 2270897969802886507, 6620516959819538809] = bIV := rfl
  have key : ∀ M : List UInt64, M.length = 8 → tab (lay [(0 : UInt64), 0, 0, 0, 0, 0, 0, 0] M 8 0) 8 0 = M := fun M hM => by rw [lay_eq (n := 8) rfl hM, tab_eq hM]
  have l1 : List.set (h ++ bIV) 12 ((h ++ bIV).getD 12 0 ^^^ t) = laidV h t false := rfl
  have l2 : List.set (laidV h t false) 14 (~~~(laidV h t false).getD 14 0) = laidV h t true := rfl
  have l3 : ∀ c l, mergeH h (roundsOf (refWords b) (laidV h c l)) = refBlock h b c l := fun _ _ => rfl
  have l4 : tab bRows 10 (List.replicate 16 0) = bRows := tab_eq rfl
  refine (gd_run ?_).trans ?_
  · simp only [t1, List.all_cons, List.all_nil, Bool.and_true, Bool.and_eq_true]
    rw [e8]
    simp only [rblock_g0, hi]
    exact ⟨rblock_ok0_of hh, rfl, rfl⟩
  · cases last
    · refine (OT.run_f rfl).trans ((gd_run ?_).trans ?_)
      · simp only [t1, List.all_cons, List.all_nil, Bool.and_true, Bool.and_eq_true]
        rw [e8]
        simp only [rblock_g0, rblock_g2, rblock_g4, rblock_g6, l1, l3, lay_length, hM]
        exact ⟨rblock_ok2_of, rblock_ok4_of (hv _ _) hm, rblock_ok6_of hh (hr _ _), rfl, rfl, rfl⟩
      · simp only [t1]
        rw [e8]
        simp only [rblock_g0, rblock_g2, rblock_g4, rblock_g6, l1, l3]
        rw [key _ (hM _ _)]
        rfl
    · refine (OT.run_t rfl).trans ((gd_run ?_).trans ?_)
      · simp only [t1, List.all_cons, List.all_nil, Bool.and_true, Bool.and_eq_true]
        rw [e8]
        simp only [rblock_g0, rblock_g2, rblock_g4, rblock_g6, l1, xorAll, l2, l3, lay_length, hM, hv]
        exact ⟨rfl, rfl, rblock_ok2_of, rblock_ok4_of (hv _ _) hm, rblock_ok6_of hh (hr _ _), rfl, rfl, rfl⟩
      · simp only [t1]
        rw [e8]
        simp only [rblock_g0, rblock_g2, rblock_g4, rblock_g6, l1, xorAll, l2, l3]
        rw [key _ (hM _ _)]
        rfl

def rblock_summ : Summ := (rblock_S.summ rblock_pre rblock_F)
theorem rblock_known : SummOk Try.prog 22 rblock_summ := rblock_ok
theorem rblock_smono : MonoOk rblock_summ := fn_mono

def E_rblock : Env := envCons 22 rblock_summ E_rmix
theorem E_rblock_ok : EnvOk Try.prog E_rblock := envOk_cons rblock_known E_rmix_ok
theorem E_rblock_mono : EnvMono E_rblock := envMono_cons rblock_smono E_rmix_mono
theorem E_rblock_any : AnyOk Try.prog te E_rblock := any_ok follows te_ok E_rblock_ok E_rblock_mono

end Go.Proofs.Ytkngdfhigpjciaa

/- The function sigil/sigilref03.Sum: what it makes of its arguments. No statement of a seat is proved here. -/
namespace Go.Proofs.Ytkngdfhigpjciaa
open Sx Go
set_option maxRecDepth 100000

def rsum_S : FnSpec := ⟨[.val false .str, .val false .int, .val false (.list .u8)], [], true, 0, false⟩

abbrev rsumX : Type := ((List UInt8) × (Int) × (List (UInt8)) × Unit) × (Unit)

def rsum_s0 : Shape := ⟨90, [(1, .val false .int), (2, .val false (.list .u8)), (8, .ptr 0 0 0), (9, .val false .int)], [(0, .row .u64)], 0, true⟩

abbrev rsum_s0X : Type := ((Int) × (List (UInt8)) × (Unit) × (Int) × Unit) × ((List (UInt64)) × Unit)

def rsum_e0_0 : Shape := ⟨90, [(1, .val false .int), (2, .val false (.list .u8)), (8, .ptr 0 0 0), (9, .val false .int)], [(0, .row .u64)], 0, true⟩

abbrev rsum_e0_0X : Type := ((Int) × (List (UInt8)) × (Unit) × (Int) × Unit) × ((List (UInt64)) × Unit)

def rsum_x0 : SE → Option Shape := xsMk [(0, rsum_e0_0)] none

def rsum_T0 (a1 : Int) (a2 : List (UInt8)) (a9 : Int) (c0 : List (UInt64)) : OT (Sum rsum_s0X LEnd) :=
  let z0 : Nat := List.length a2
  let z1 : Nat := List.length c0
  let z2 : Bool := inR (a9 + (128 : Int))
  (gd [inR ((↑z0 : Int) - a9)] (.br (decide ((128 : Int) < (↑z0 : Int) - a9))
  (gd [decide ((8 : Nat) ≤ z1), z2, between a9 (a9 + (128 : Int)) z0, z2, decide ((8 / 1 : Nat) + (0 : Nat) ≤ z1), z2] (.ok (.inl ((a1, (a2, ((), (a9 + (128 : Int), ())))), (lay c0 (refBlock (tab c0 (8 : Nat) (0 : UInt64)) (List.drop (Int.toNat a9) (List.take (Int.toNat (a9 + (128 : Int))) a2)) (i2u (a9 + (128 : Int))) false) (8 : Nat) (0 : UInt64), ())))))
  (.ok (.inr ⟨(.exit 0, rsum_e0_0), ((a1, (a2, ((), (a9, ())))), (c0, ()))⟩))))

def rsum_U0 (s : rsum_s0X) : OT (Sum rsum_s0X LEnd) := rsum_T0 (s.1.1) (s.1.2.1) (s.1.2.2.2.1) (s.2.1)

theorem rsum_q0 (s : rsum_s0X) (Q : Sum rsum_s0X LEnd → Prop) : wps te E_rblock lamNil 1000 (loopOf (codeOf Try.f10) 0) (rsum_s0.inj s) (stepK rsum_s0 rsum_x0 (Q : Sum rsum_s0.T LEnd → Prop)) = (rsum_U0 s).wpR Q := by kernel_rfl

def rsum_f0 (g0_0 : rsum_s0X → rsum_e0_0X) (s : rsum_s0X) : OT LEnd := (.ok ⟨(.exit 0, rsum_e0_0), g0_0 s⟩)

def rsum_s2 : Shape := ⟨90, [(1, .val false .int), (8, .ptr 0 0 0), (10, .own 1), (11, .val false .int)], [(0, .row .u64), (1, .row .u8)], 0, true⟩

abbrev rsum_s2X : Type := ((Int) × (Unit) × (Unit) × (Int) × Unit) × ((List (UInt64)) × (List (UInt8)) × Unit)

def rsum_e2_2 : Shape := ⟨90, [(10, .own 0)], [(0, .row .u8)], 0, true⟩

abbrev rsum_e2_2X : Type := ((Unit) × Unit) × ((List (UInt8)) × Unit)

def rsum_x2 : SE → Option Shape := xsMk [(2, rsum_e2_2)] none

def rsum_T2 (a1 : Int) (a11 : Int) (c0 : List (UInt64)) (c1 : List (UInt8)) : OT (Sum rsum_s2X LEnd) :=
  let z0 : Int := Int.tdiv a11 (8 : Int)
  let z1 : Int := (8 : Int) * Int.tmod a11 (8 : Int)
  (.br (decide (a11 < a1))
  (gd [true && inR z0, inB z0 (8 : Nat), decide (Int.toNat z0 + (0 : Nat) < List.length c0), inR z1, decide ((List.length c1 + (1 : Nat)) * (1 : Nat) ≤ (140737488355328 : Nat)), inR (a11 + (1 : Int))] (.ok (.inl ((a1, ((), ((), (a11 + (1 : Int), ())))), (c0, (c1 ++ [UInt64.toUInt8 (shr64 (List.getD c0 (Int.toNat z0 + (0 : Nat)) (0 : UInt64)) (↑(UInt64.toNat (i2u z1)) : Int))], ()))))))
  (.ok (.inr ⟨(.exit 2, rsum_e2_2), (((), ()), (c1, ()))⟩)))

def rsum_U2 (s : rsum_s2X) : OT (Sum rsum_s2X LEnd) := rsum_T2 (s.1.1) (s.1.2.2.2.1) (s.2.1) (s.2.2.1)

theorem rsum_q2 (s : rsum_s2X) (Q : Sum rsum_s2X LEnd → Prop) : wps te E_rblock lamNil 1000 (loopOf (codeOf Try.f10) 2) (rsum_s2.inj s) (stepK rsum_s2 rsum_x2 (Q : Sum rsum_s2.T LEnd → Prop)) = (rsum_U2 s).wpR Q := by kernel_rfl

def rsum_f2 (g2_2 : rsum_s2X → rsum_e2_2X) (s : rsum_s2X) : OT LEnd := (.ok ⟨(.exit 2, rsum_e2_2), g2_2 s⟩)

def rsum_o0 : OutSh := ⟨[.own 0, .val false .int], [(0, .row .u8)], false⟩

def rsum_sel : SV → Option OutSh := fun _ => some rsum_o0

def rsum_T (ok0 : rsum_s0X → Bool) (g0_0 : rsum_s0X → rsum_e0_0X) (ok2 : rsum_s2X → Bool) (g2_2 : rsum_s2X → rsum_e2_2X) (a0 : List UInt8) (a1 : Int) (a2 : List (UInt8)) : OT rsum_S.Y :=
  let z0 : (Int × List UInt8 × PUnit × Int × PUnit) × List UInt64 × PUnit := ((a1, a2, (), (0 : Int), ()), [(7640891576956012808 : UInt64) ^^^ (16842752 : UInt64) + i2u a1, (13503953896175478587 : UInt64), (4354685564936845355 : UInt64), (11912009170470909681 : UInt64), (5840696475078001361 : UInt64), (11170449401992604703 : UInt64), (2270897969802886507 : UInt64) ^^^ refWord a0 (Int.toNat (0 : Int)), (6620516959819538809 : UInt64) ^^^ refWord a0 (Int.toNat (8 : Int))], ())
  let z1 : (Int × List UInt8 × PUnit × Int × PUnit) × List UInt64 × PUnit := g0_0 z0
  let z2 : List UInt64 := z1.snd.fst
  let z3 : Nat := List.length z2
  let z4 : Int × List UInt8 × PUnit × Int × PUnit := z1.fst
  let z5 : List UInt8 × PUnit × Int × PUnit := z4.snd
  let z6 : Int := z5.snd.snd.fst
  let z7 : List UInt8 := z5.fst
  let z8 : Nat := List.length z7
  let z9 : Int := (↑z8 : Int)
  let z10 : (Int × PUnit × PUnit × Int × PUnit) × List UInt64 × List UInt8 × PUnit := ((z4.fst, (), (), (0 : Int), ()), lay z2 (refBlock (tab z2 (8 : Nat) (0 : UInt64)) (List.drop (Int.toNat z6) z7) (i2u z9) true) (8 : Nat) (0 : UInt64), [], ())
  (.br (decide ((16 : Int) < (↑(List.length a0) : Int)))
  (.ok ⟨rsum_o0, (((), ((30 : Int), ())), ([], ()))⟩)
  (.br (decide (a1 < (1 : Int)))
    (.ok ⟨rsum_o0, (((), ((30 : Int), ())), ([], ()))⟩)
    (.br (decide ((64 : Int) < a1))
      (.ok ⟨rsum_o0, (((), ((30 : Int), ())), ([], ()))⟩)
      (gd [ok0 z0, decide ((8 : Nat) ≤ z3), between z6 z9 z8, decide ((8 / 1 : Nat) + (0 : Nat) ≤ z3), ok2 z10] (.ok ⟨rsum_o0, (((), ((0 : Int), ())), ((g2_2 z10).snd.fst, ()))⟩)))))

theorem rsum_q (ok0 : rsum_s0X → Bool) (g0_0 : rsum_s0X → rsum_e0_0X) (ok2 : rsum_s2X → Bool) (g2_2 : rsum_s2X → rsum_e2_2X) (x : rsumX) (Q : rsum_S.Y → Prop) : wpf te E_rblock (lamCons 2 (loopF rsum_s2 2 ok2 (rsum_f2 g2_2)) (lamCons 0 (loopF rsum_s0 0 ok0 (rsum_f0 g0_0)) lamNil)) 1000 Try.f10 (rsum_S.inp.inj x).tm (rsum_S.inp.inj x).hp (fnK rsum_S rsum_sel Q) (fun _ _ => False) = (rsum_T ok0 g0_0 ok2 g2_2 (x.1.1) (x.1.2.1) (x.1.2.2.1)).wpR Q := by kernel_rfl

theorem rsum_main (ok0 : rsum_s0X → Bool) (g0_0 : rsum_s0X → rsum_e0_0X) (ok2 : rsum_s2X → Bool) (g2_2 : rsum_s2X → rsum_e2_2X) (h0 : ∀ s : rsum_s0X, ok0 s = true → ∃ m e, loopRun (rsum_U0) m s = some e ∧ (rsum_f0 g0_0 s).run = some e) (h2 : ∀ s : rsum_s2X, ok2 s = true → ∃ m e, loopRun (rsum_U2) m s = some e ∧ (rsum_f2 g2_2 s).run = some e) (pre : rsumX → Bool) (F : rsumX → OT rsum_S.Y) (hF : ∀ (x : rsumX) oy, pre x = true → (F x).run = some oy → (rsum_T ok0 g0_0 ok2 g2_2 (x.1.1) (x.1.2.1) (x.1.2.2.1)).run = some oy) : SummOk Try.prog 10 (rsum_S.summ pre F) :=
  fn_tree te_ok E_rblock_ok E_rblock_any (f := 10) (fn := Try.f10) (c := codeOf Try.f10) (by kernel_rfl) (by kernel_rfl) (by kernel_rfl) (S := rsum_S) (k := 0) (by kernel_rfl) (fun R hR => (lamOk_cons (c := (codeOf Try.f10)) (by kernel_rfl) (id := 2) (by kernel_rfl) (loop_ok te_ok E_rblock_ok E_rblock_any (sh := rsum_s2) hR (xs := rsum_x2) (xsMk_small (by kernel_rfl) (by kernel_rfl) hR) xsMk_pan lamOk_nil (n := 1000) (T := rsum_U2) (fun s Q => rsum_q2 s Q) (ok := ok2) (f := rsum_f2 g2_2) h2) (lamOk_cons (c := (codeOf Try.f10)) (by kernel_rfl) (id := 0) (by kernel_rfl) (loop_ok te_ok E_rblock_ok E_rblock_any (sh := rsum_s0) hR (xs := rsum_x0) (xsMk_small (by kernel_rfl) (by kernel_rfl) hR) xsMk_pan lamOk_nil (n := 1000) (T := rsum_U0) (fun s Q => rsum_q0 s Q) (ok := ok0) (f := rsum_f0 g0_0) h0) lamOk_nil))) (n := 1000) (sel := rsum_sel) (fun v o h => by cases h; rfl) (pre := pre) (F := F) (T := fun x => rsum_T ok0 g0_0 ok2 g2_2 (x.1.1) (x.1.2.1) (x.1.2.2.1)) (fun x Q => rsum_q ok0 g0_0 ok2 g2_2 x Q) hF

/-- All blocks but the last are taken, as the document has it. -/
def refEat (b : List UInt8) (h : List UInt64) (n : Nat) : List UInt64 := upto (fun k h => refBlock h ((b.take (128 * k + 128)).drop (128 * k)) (i2u ((128 * k + 128 : Nat) : Int)) false) h n
/-- A state's bytes, one behind the other. -/
def refBytes (h : List UInt64) (n : Nat) : List UInt8 := upto (fun k o => o ++ [UInt64.toUInt8 (shr64 (h.getD (k / 8) 0) ((i2u (8 * ((k % 8 : Nat) : Int))).toNat : Int))]) [] n

theorem refBlock_length {h : List UInt64} {b : List UInt8} {t : UInt64} {l : Bool} (hh : h.length = 8) : (refBlock h b t l).length = 8 := by unfold refBlock; rw [mergeH_length]; exact hh

def rsum_ok0 (s : rsum_s0X) : Bool := decide (s.1.2.2.2.1 = 0 ∧ s.2.1.length = 8 ∧ s.1.2.1.length ≤ 1000000000000)
def rsum_g0 (s : rsum_s0X) : rsum_e0_0X := ((s.1.1, s.1.2.1, (), ((128 * ((s.1.2.1.length - 1) / 128) : Nat) : Int), ()), (refEat s.1.2.1 s.2.1 ((s.1.2.1.length - 1) / 128), ()))
theorem rsum_h0 : ∀ s : rsum_s0X, rsum_ok0 s = true → ∃ m e, loopRun rsum_U0 m s = some e ∧ (rsum_f0 rsum_g0 s).run = some e := by
  rintro ⟨⟨n, b, ⟨⟩, i, ⟨⟩⟩, ⟨h, ⟨⟩⟩⟩ hh
  have h' := of_decide_eq_true hh
  dsimp only at h'
  obtain ⟨rfl, hl, hb⟩ := h'
  have := (loop_upto (T := rsum_U0) (fun k h => (((n, b, (), ((128 * k : Nat) : Int), ()), (h, ())) : rsum_s0X)) (fun k h => refBlock h ((b.take (128 * k + 128)).drop (128 * k)) (i2u ((128 * k + 128 : Nat) : Int)) false)
    (fun h => (⟨(.exit 0, rsum_e0_0), ((n, b, (), ((128 * ((b.length - 1) / 128) : Nat) : Int), ()), (h, ()))⟩ : LEnd)) ((b.length - 1) / 128) h (fun _ h => h.length = 8) hl (fun k h hk hl => ⟨?_, refBlock_length hl⟩) (fun h hl => ?_)).1
  · obtain ⟨m, hm⟩ := this
    exact ⟨m, _, hm, rfl⟩
  · have e1 : (((128 * k : Nat) : Int) + 128).toNat = 128 * k + 128 := by omega
    have e2 : (((128 * k : Nat) : Int)).toNat = 128 * k := by omega
    have e3 : ((128 * k : Nat) : Int) + 128 = ((128 * k + 128 : Nat) : Int) := by omega
    have e4 : ((128 * (k + 1) : Nat) : Int) = ((128 * k + 128 : Nat) : Int) := by omega
    have t1 : tab h 8 0 = h := tab_eq hl
    have t2 : ∀ c l t, lay h (refBlock h c t l) 8 0 = refBlock h c t l := fun c l t => lay_eq hl (refBlock_length hl)
    refine (gd_run (by simp only [List.all_cons, List.all_nil, Bool.and_true]; exact inR_of (by omega))).trans ((OT.run_t (decide_eq_true (by dsimp only; omega))).trans ((gd_run ?_).trans ?_))
    · simp only [hl, List.all_cons, List.all_nil, Bool.and_true, Bool.and_eq_true]
      exact ⟨rfl, inR_of (by omega), between_of (by omega), inR_of (by omega), rfl, inR_of (by omega)⟩
    · simp only [OT.run_ok, e2, e3, e4, t1, t2, Int.toNat_natCast]
  · refine (gd_run (by simp only [List.all_cons, List.all_nil, Bool.and_true]; exact inR_of (by omega))).trans (OT.run_f (decide_eq_false (by dsimp only; omega)))

def rsum_ok2 (s : rsum_s2X) : Bool := decide (s.1.2.2.2.1 = 0 ∧ s.2.1.length = 8 ∧ s.1.1 ≤ 64 ∧ 0 ≤ s.1.1 ∧ s.2.2.1 = [])
def rsum_g2 (s : rsum_s2X) : rsum_e2_2X := (((), ()), (refBytes s.2.1 s.1.1.toNat, ()))
theorem rsum_h2 : ∀ s : rsum_s2X, rsum_ok2 s = true → ∃ m e, loopRun rsum_U2 m s = some e ∧ (rsum_f2 rsum_g2 s).run = some e := by
  rintro ⟨⟨n, ⟨⟩, ⟨⟩, i, ⟨⟩⟩, ⟨h, o, ⟨⟩⟩⟩ hh
  have h' := of_decide_eq_true hh
  dsimp only at h'
  obtain ⟨rfl, hl, hn, hn0, rfl⟩ := h'
  obtain ⟨k, rfl⟩ : ∃ k : Nat, n = (k : Int) := ⟨n.toNat, by omega⟩
  have := (loop_upto (T := rsum_U2) (fun i o => ((((k : Int), (), (), (i : Int), ()), (h, o, ())) : rsum_s2X)) (fun k o => o ++ [UInt64.toUInt8 (shr64 (h.getD (k / 8) 0) ((i2u (8 * ((k % 8 : Nat) : Int))).toNat : Int))])
    (fun o => (⟨(.exit 2, rsum_e2_2), (((), ()), (o, ()))⟩ : LEnd)) k [] (fun i o => o.length = i) rfl (fun i o hi ho => ⟨?_, by simp [ho]⟩) (fun o ho => ?_)).1
  · obtain ⟨m, hm⟩ := this
    exact ⟨m, _, hm, rfl⟩
  · have t1 : Int.tdiv (i : Int) 8 = ((i / 8 : Nat) : Int) := by rw [Int.tdiv_eq_ediv_of_nonneg (by omega)]; omega
    have t2 : Int.tmod (i : Int) 8 = ((i % 8 : Nat) : Int) := by rw [Int.tmod_eq_emod_of_nonneg (by omega)]; omega
    refine (OT.run_t (decide_eq_true (by dsimp only; omega))).trans ((gd_run ?_).trans ?_)
    · simp only [t1, t2, hl, ho, Int.toNat_natCast, List.all_cons, List.all_nil, Bool.and_true, Bool.and_eq_true]
      exact ⟨⟨trivial, inR_of (by omega)⟩, inB_of (by omega), decide_eq_true (by omega), inR_of (by omega), decide_eq_true (by omega), inR_of (by omega)⟩
    · simp only [OT.run_ok, t1, t2, Int.toNat_natCast, Nat.add_zero]
      rfl
  · exact OT.run_f (decide_eq_false (by dsimp only; omega))

/-- The state that a digest begins with, as the document has it. -/
def refH (p : List UInt8) (n : Int) : List UInt64 := [0x6a09e667f3bcc908 ^^^ (16842752 + i2u n), 0xbb67ae8584caa73b, 0x3c6ef372fe94f82b, 0xa54ff53a5f1d36f1, 0x510e527fade682d1, 0x9b05688c2b3e6c1f, 0x1f83d9abfb41bd6b ^^^ refWord p 0, 0x5be0cd19137e2179 ^^^ refWord p 8]
/-- The document's digest. -/
def refOf (p : List UInt8) (n : Int) (b : List UInt8) : List UInt8 :=
  refBytes (refBlock (refEat b (refH p n) ((b.length - 1) / 128)) (b.drop (128 * ((b.length - 1) / 128))) (i2u (b.length : Int)) true) n.toNat

def rsum_pre (x : rsumX) : Bool := decide (x.1.2.2.1.length ≤ 1000000000000)
def rsum_F (x : rsumX) : OT rsum_S.Y := .br (badKey x.1.1 x.1.2.1) (.ok ⟨rsum_o0, (((), ((30 : Int), ())), ([], ()))⟩) (.ok ⟨rsum_o0, (((), ((0 : Int), ())), (refOf x.1.1 x.1.2.1 x.1.2.2.1, ()))⟩)

theorem rsum_ok0_of {n : Int} {b : List UInt8} {h : List UInt64} (hh : h.length = 8) (hb : b.length ≤ 1000000000000) : rsum_ok0 ((n, b, (), 0, ()), (h, ())) = true := decide_eq_true ⟨rfl, hh, hb⟩
theorem rsum_ok2_of {n : Int} {h : List UInt64} (hh : h.length = 8) (hn0 : 0 ≤ n) (hn : n ≤ 64) : rsum_ok2 ((n, (), (), 0, ()), (h, [], ())) = true := decide_eq_true ⟨rfl, hh, hn, hn0, rfl⟩
theorem refEat_length {b : List UInt8} {h : List UInt64} (hh : h.length = 8) : ∀ n, (refEat b h n).length = 8
  | 0 => hh
  | n + 1 => refBlock_length (refEat_length hh n)

theorem rsum_ok : SummOk Try.prog 10 (rsum_S.summ rsum_pre rsum_F) := rsum_main rsum_ok0 rsum_g0 rsum_ok2 rsum_g2 rsum_h0 rsum_h2 _ _ fun x oy hp ho => by
  rw [← ho]
  obtain ⟨⟨p, n, b, ⟨⟩⟩, ⟨⟩⟩ := x
  clear ho
  have hb : b.length ≤ 1000000000000 := of_decide_eq_true hp
  by_cases h1 : 16 < (p.length : Int)
  · have e1 : decide (16 < (p.length : Int)) = true := decide_eq_true h1
    have eb : badKey p n = true := by simp only [badKey, e1, Bool.true_or]
    simp only [rsum_F, rsum_T, e1, eb]
    rfl
  · have e1 : decide (16 < (p.length : Int)) = false := decide_eq_false h1
    by_cases h2 : n < 1
    · have e2 : decide (n < 1) = true := decide_eq_true h2
      have eb : badKey p n = true := by simp only [badKey, e1, e2, Bool.true_or, Bool.false_or]
      simp only [rsum_F, rsum_T, e1, e2, eb]
      rfl
    · have e2 : decide (n < 1) = false := decide_eq_false h2
      by_cases h3 : 64 < n
      · have e3 : decide (64 < n) = true := decide_eq_true h3
        have eb : badKey p n = true := by simp only [badKey, e1, e2, e3, Bool.false_or]
        simp only [rsum_F, rsum_T, e1, e2, e3, eb]
        rfl
      · have e3 : decide (64 < n) = false := decide_eq_false h3
        have eb : badKey p n = false := by simp only [badKey, e1, e2, e3, Bool.false_or]
        have hH : (refH p n).length = 8 := rfl
        have hE : ∀ k, (refEat b (refH p n) k).length = 8 := fun k => refEat_length hH k
        have l1 : [(7640891576956012808 : UInt64) ^^^ 16842752 + i2u n, 13503953896175478587, 4354685564936845355, 11912009170470909681, 5840696475078001361, 11170449401992604703, 2270897969802886507 ^^^ refWord p (Int.toNat 0), 6620516959819538809 ^^^ refWord p (Int.toNat 8)] = refH p n := rfl
        have t1 : ∀ k, tab (refEat b (refH p n) k) 8 0 = refEat b (refH p n) k := fun k => tab_eq (hE k)
        have t2 : ∀ k c l t, lay (refEat b (refH p n) k) (refBlock (refEat b (refH p n) k) c t l) 8 0 = refBlock (refEat b (refH p n) k) c t l := fun k c l t => lay_eq (hE k) (refBlock_length (hE k))
        simp only [rsum_F, rsum_T, e1, e2, e3, eb, rsum_g0, l1, t1, t2, hE, Int.toNat_natCast]
        refine (gd_run ?_).trans rfl
        simp only [List.all_cons, List.all_nil, Bool.and_true, Bool.and_eq_true]
        exact ⟨rsum_ok0_of hH hb, rfl, between_of (by omega), rfl, rsum_ok2_of (refBlock_length (hE _)) (by omega) (by omega)⟩

def rsum_summ : Summ := (rsum_S.summ rsum_pre rsum_F)
theorem rsum_known : SummOk Try.prog 10 rsum_summ := rsum_ok
theorem rsum_smono : MonoOk rsum_summ := fn_mono

def E_rsum : Env := envCons 10 rsum_summ E_rblock
theorem E_rsum_ok : EnvOk Try.prog E_rsum := envOk_cons rsum_known E_rblock_ok
theorem E_rsum_mono : EnvMono E_rsum := envMono_cons rsum_smono E_rblock_mono
theorem E_rsum_any : AnyOk Try.prog te E_rsum := any_ok follows te_ok E_rsum_ok E_rsum_mono

end Go.Proofs.Ytkngdfhigpjciaa

/- The function sigil/sigillaw03.alive: what it makes of its arguments. No statement of a seat is proved here. -/
namespace Go.Proofs.Ytkngdfhigpjciaa
open Sx Go
set_option maxRecDepth 100000

def balive_S : FnSpec := ⟨[], [], true, 0, false⟩

abbrev baliveX : Type := (Unit) × (Unit)

def balive_o0 : OutSh := ⟨[.val false .bool], [], false⟩

def balive_sel : SV → Option OutSh := fun _ => some balive_o0

def balive_T : OT balive_S.Y :=
  (.ok ⟨balive_o0, ((true, ()), ())⟩)

theorem balive_q (x : baliveX) (Q : balive_S.Y → Prop) : wpf te E_rsum lamNil 1000 Try.f7 (balive_S.inp.inj x).tm (balive_S.inp.inj x).hp (fnK balive_S balive_sel Q) (fun _ _ => False) = (balive_T).wpR Q := by kernel_rfl

theorem balive_main (pre : baliveX → Bool) (F : baliveX → OT balive_S.Y) (hF : ∀ (x : baliveX) oy, pre x = true → (F x).run = some oy → (balive_T).run = some oy) : SummOk Try.prog 7 (balive_S.summ pre F) :=
  fn_tree te_ok E_rsum_ok E_rsum_any (f := 7) (fn := Try.f7) (c := codeOf Try.f7) (by kernel_rfl) (by kernel_rfl) (by kernel_rfl) (S := balive_S) (k := 0) (by kernel_rfl) (fun R hR => lamOk_nil) (n := 1000) (sel := balive_sel) (fun v o h => by cases h; rfl) (pre := pre) (F := F) (T := fun x => balive_T) (fun x Q => balive_q x Q) hF

def balive_pre (_ : baliveX) : Bool := true
def balive_F (_ : baliveX) : OT balive_S.Y := .ok ⟨balive_o0, ((true, ()), ())⟩
theorem balive_ok : SummOk Try.prog 7 (balive_S.summ balive_pre balive_F) := balive_main _ _ fun x oy _ ho => ho

def balive_summ : Summ := (balive_S.summ balive_pre balive_F)
theorem balive_known : SummOk Try.prog 7 balive_summ := balive_ok
theorem balive_smono : MonoOk balive_summ := fn_mono

def E_balive : Env := envCons 7 balive_summ E_rsum
theorem E_balive_ok : EnvOk Try.prog E_balive := envOk_cons balive_known E_rsum_ok
theorem E_balive_mono : EnvMono E_balive := envMono_cons balive_smono E_rsum_mono
theorem E_balive_any : AnyOk Try.prog te E_balive := any_ok follows te_ok E_balive_ok E_balive_mono

end Go.Proofs.Ytkngdfhigpjciaa

/- Plain words for digests: a word out of eight bytes, in two ways. No statement of a seat is proved here. -/
namespace Go.Proofs.Ytkngdfhigpjciaa
open Sx Go

theorem or_step {v : UInt64} {c : UInt8} (k : Nat) (hk : k ≤ 7) (hv : v.toNat < 2 ^ (8 * k)) :
    (v ||| shl64 c.toUInt64 (8 * (k : Int))).toNat = v.toNat + c.toNat * 2 ^ (8 * k) ∧ v.toNat + c.toNat * 2 ^ (8 * k) < 2 ^ (8 * (k + 1)) := by
  have hc : c.toNat < 256 := c.toNat_lt
  have h1 : c.toNat * 2 ^ (8 * k) ≤ 255 * 2 ^ (8 * k) := Nat.mul_le_mul_right _ (by omega)
  have h2 : 2 ^ (8 * (k + 1)) = 256 * 2 ^ (8 * k) := by rw [Nat.mul_add, Nat.pow_add]; omega
  have h3 : 2 ^ (8 * (k + 1)) ≤ 2 ^ 64 := Nat.pow_le_pow_right (by decide) (by omega)
  refine ⟨?_, by omega⟩
  have e1 : shl64 c.toUInt64 (8 * (k : Int)) = c.toUInt64 <<< UInt64.ofNat (8 * k) := by
    unfold shl64
    rw [if_pos (by omega)]
    congr 2
  have e2 : (c.toUInt64 <<< UInt64.ofNat (8 * k)).toNat = c.toNat <<< (8 * k) := by
    rw [UInt64.toNat_shiftLeft, UInt8.toNat_toUInt64, UInt64.toNat_ofNat']
    have : 8 * k % 2 ^ 64 % 64 = 8 * k := by omega
    rw [this, Nat.shiftLeft_eq]
    exact Nat.mod_eq_of_lt (by omega)
  rw [e1, UInt64.toNat_or, e2, Nat.or_comm, ← Nat.shiftLeft_add_eq_or_of_lt hv, Nat.shiftLeft_eq]
  omega

theorem wordK_nat (b : List UInt8) : ∀ k, k ≤ 8 → (wordK b k).toNat = (List.range k).foldl (fun s i => s + (b.getD i 0).toNat * 2 ^ (8 * i)) 0 ∧ (wordK b k).toNat < 2 ^ (8 * k)
  | 0, _ => ⟨rfl, by simp [wordK]⟩
  | k + 1, h => by
    obtain ⟨h1, h2⟩ := wordK_nat b k (by omega)
    have h3 := or_step (v := wordK b k) (c := b.getD k 0) k (by omega) h2
    rw [wordK_succ]
    refine ⟨?_, by omega⟩
    rw [h3.1, List.range_succ, List.foldl_append, h1]
    rfl

theorem mul_step {v : UInt64} {c : UInt8} (k : Nat) (hk : k ≤ 7) (hv : v.toNat < 2 ^ (8 * k)) :
    (v * 256 + c.toUInt64).toNat = v.toNat * 256 + c.toNat ∧ v.toNat * 256 + c.toNat < 2 ^ (8 * (k + 1)) := by
  have hc : c.toNat < 256 := c.toNat_lt
  have h2 : 2 ^ (8 * (k + 1)) = 256 * 2 ^ (8 * k) := by rw [Nat.mul_add, Nat.pow_add]; omega
  have h3 : 2 ^ (8 * (k + 1)) ≤ 2 ^ 64 := Nat.pow_le_pow_right (by decide) (by omega)
  refine ⟨?_, by omega⟩
  rw [UInt64.toNat_add, UInt64.toNat_mul, UInt8.toNat_toUInt64, show (256 : UInt64).toNat = 256 from rfl]
  rw [Nat.mod_eq_of_lt (a := v.toNat * 256) (by omega), Nat.mod_eq_of_lt (by omega)]

theorem upto_nat (f : Nat → UInt8) : ∀ k, k ≤ 8 → (upto (fun k v => v * 256 + UInt8.toUInt64 (f (7 - k))) (0 : UInt64) k).toNat = (List.range k).foldl (fun s j => s * 256 + (f (7 - j)).toNat) 0 ∧
    (upto (fun k v => v * 256 + UInt8.toUInt64 (f (7 - k))) (0 : UInt64) k).toNat < 2 ^ (8 * k)
  | 0, _ => ⟨rfl, by simp [upto]⟩
  | k + 1, h => by
    obtain ⟨h1, h2⟩ := upto_nat f k (by omega)
    have h3 := mul_step (v := upto (fun k v => v * 256 + UInt8.toUInt64 (f (7 - k))) (0 : UInt64) k) (c := f (7 - k)) k (by omega) h2
    refine ⟨?_, by simp only [upto]; omega⟩
    simp only [upto]
    rw [h3.1, List.range_succ, List.foldl_append, h1]
    rfl

theorem sums_gen (g : Nat → Nat) (c : Nat) : (List.range 8).foldl (fun s i => s + g i * c ^ i) 0 = (List.range 8).foldl (fun s j => s * c + g (7 - j)) 0 := by
  have r : List.range 8 = [0, 1, 2, 3, 4, 5, 6, 7] := by decide
  rw [r]
  simp only [List.foldl_cons, List.foldl_nil, Nat.reduceSub, Nat.sub_self, Nat.sub_zero, Nat.add_mul, Nat.mul_assoc, Nat.zero_mul, Nat.zero_add, Nat.mul_one, Nat.pow_succ, Nat.pow_zero, Nat.one_mul]
  ac_rfl

theorem sums_eq (g : Nat → Nat) : (List.range 8).foldl (fun s i => s + g i * 2 ^ (8 * i)) 0 = (List.range 8).foldl (fun s j => s * 256 + g (7 - j)) 0 := by
  have h : ∀ i, 2 ^ (8 * i) = (2 ^ 8) ^ i := fun i => Nat.pow_mul 2 8 i
  have e : (fun s i => s + g i * 2 ^ (8 * i)) = (fun s i => s + g i * (2 ^ 8) ^ i) := by
    funext s i
    rw [h]
  rw [e]
  exact sums_gen g (2 ^ 8)

/-- The two ways to make a word of eight bytes. -/
theorem words_eq (f : Nat → UInt8) (b : List UInt8) (hb : ∀ i, i < 8 → b.getD i 0 = f i) : wordK b 8 = upto (fun k v => v * 256 + UInt8.toUInt64 (f (7 - k))) 0 8 := by
  have hf : wordK b 8 = wordK ((List.range 8).map f) 8 := by
    unfold wordK
    have : ∀ l : List Nat, (∀ i ∈ l, i < 8) → ∀ v, l.foldl (fun v (i : Nat) => v ||| shl64 (UInt8.toUInt64 (b.getD i 0)) (8 * (i : Int))) v = l.foldl (fun v (i : Nat) => v ||| shl64 (UInt8.toUInt64 (((List.range 8).map f).getD i 0)) (8 * (i : Int))) v := by
      intro l
      induction l with
      | nil => intro _ v; rfl
      | cons i r ih =>
        intro h v
        have hi : i < 8 := h i (by simp)
        have e : ((List.range 8).map f).getD i 0 = f i := by simp [List.getD_eq_getElem?_getD, hi]
        simp only [List.foldl_cons, hb i hi, e]
        exact ih (fun j hj => h j (by simp [hj])) _
    exact this _ (fun i hi => by simpa using hi) 0
  have e : ∀ i, i < 8 → ((List.range 8).map f).getD i 0 = f i := fun i hi => by simp [List.getD_eq_getElem?_getD, hi]
  rw [hf, ← UInt64.toNat_inj, (wordK_nat _ 8 (Nat.le_refl _)).1, (upto_nat f 8 (Nat.le_refl _)).1, ← sums_eq (fun i => (f i).toNat)]
  have : ∀ l : List Nat, (∀ i ∈ l, i < 8) → ∀ v, l.foldl (fun s (i : Nat) => s + (((List.range 8).map f).getD i 0).toNat * 2 ^ (8 * i)) v = l.foldl (fun s i => s + (f i).toNat * 2 ^ (8 * i)) v := by
    intro l
    induction l with
    | nil => intro _ v; rfl
    | cons i r ih =>
      intro h v
      simp only [List.foldl_cons, e i (h i (by simp))]
      exact ih (fun j hj => h j (by simp [hj])) _
  exact this _ (fun i hi => by simpa using hi) 0

end Go.Proofs.Ytkngdfhigpjciaa

/- Plain law: the program's digest is the document's. No statement of a seat is proved here. -/
namespace Go.Proofs.Ytkngdfhigpjciaa
open Sx Go

theorem getD_padded {w r : List UInt8} (n : Nat) (hw : w.length ≤ n) (hr : ∀ x ∈ r, x = 0) (i : Nat) : (w.take n ++ r).getD i 0 = w.getD i 0 := by
  rw [List.take_of_length_le hw]
  simp only [List.getD_eq_getElem?_getD, List.getElem?_append]
  split
  · rfl
  · rename_i h
    rw [List.getElem?_eq_none (by omega : w.length ≤ i)]
    cases hx : r[i - w.length]? with
    | none => rfl
    | some x => rw [hr x (List.mem_of_getElem? hx)]; rfl

theorem zeros_mem {n k : Nat} : ∀ x ∈ (List.replicate n (0 : UInt8)).drop k, x = 0 := fun x hx => List.eq_of_mem_replicate (List.mem_of_mem_drop hx)

theorem getD_pad128 {w : List UInt8} (h : w.length ≤ 128) (i : Nat) : (pad128 w).getD i 0 = w.getD i 0 := getD_padded 128 h zeros_mem i
theorem getD_pad16 {w : List UInt8} (h : w.length ≤ 16) (i : Nat) : (pad16 w).getD i 0 = w.getD i 0 := getD_padded 16 h zeros_mem i

theorem pad128_full {w : List UInt8} (h : w.length = 128) : pad128 w = w := by
  unfold pad128
  rw [List.take_of_length_le (by omega), List.drop_eq_nil_of_le (by simp [h]), List.append_nil]

theorem word_at {b c : List UInt8} (h : ∀ i, c.getD i 0 = b.getD i 0) (p : Nat) : wordK ((c.drop p).take 8) 8 = refWord b p :=
  words_eq (fun i => b.getD (p + i) 0) _ fun i hi => by
    rw [← h]
    simp only [List.getD_eq_getElem?_getD, List.getElem?_take, if_pos hi, List.getElem?_drop]

theorem refWords_eq {b : List UInt8} (hb : b.length ≤ 128) : refWords b = wordsOf (pad128 b) := by
  unfold refWords wordsOf
  congr 1
  funext k m
  unfold wordAt
  rw [word_at (getD_pad128 hb)]

theorem refBlock_eq {h : List UInt64} {b : List UInt8} {t : UInt64} {l : Bool} (hb : b.length ≤ 128) : refBlock h b t l = compr h (pad128 b) t l := by
  unfold refBlock compr
  rw [refWords_eq hb]

theorem refH_eq {p : List UInt8} {n : Int} (hp : p.length ≤ 16) : refH p n = newH p n := by
  unfold refH newH
  have h0 : refWord p 0 = wordK ((pad16 p).take 8) 8 := (word_at (getD_pad16 hp) 0).symm
  have h8 : refWord p 8 = wordK (((pad16 p).drop 8).take 8) 8 := (word_at (getD_pad16 hp) 8).symm
  rw [h0, h8]

theorem i2u_nat (m : Nat) : i2u (m : Int) = UInt64.ofNat m := by
  unfold i2u
  rw [← UInt64.toNat_inj, UInt64.toNat_ofNat', UInt64.toNat_ofNat']
  omega

theorem i2u_add (a b : Nat) : i2u ((a + b : Nat) : Int) = i2u (a : Int) + i2u (b : Int) := by
  rw [i2u_nat, i2u_nat, i2u_nat, UInt64.ofNat_add]

theorem eat_ref (b : List UInt8) (h : List UInt64) : ∀ k, 128 * k ≤ b.length → upto (fun _ s => eat1 s) (h, 0, b) k = (refEat b h k, i2u ((128 * k : Nat) : Int), b.drop (128 * k))
  | 0, _ => rfl
  | k + 1, hk => by
    have ih := eat_ref b h k (by omega)
    show eat1 (upto (fun _ s => eat1 s) (h, 0, b) k) = _
    rw [ih]
    have e1 : (b.take (128 * k + 128)).drop (128 * k) = (b.drop (128 * k)).take 128 := by rw [List.drop_take]; congr 1; omega
    have e2 : i2u ((128 * k + 128 : Nat) : Int) = i2u ((128 * k : Nat) : Int) + 128 := i2u_add _ 128
    have hl : ((b.drop (128 * k)).take 128).length = 128 := by simp; omega
    have e3 : refEat b h (k + 1) = compr (refEat b h k) ((b.drop (128 * k)).take 128) (i2u ((128 * k : Nat) : Int) + 128) false := by
      show refBlock (refEat b h k) ((b.take (128 * k + 128)).drop (128 * k)) (i2u ((128 * k + 128 : Nat) : Int)) false = _
      rw [e1, e2, refBlock_eq (by omega), pad128_full hl]
    unfold eat1
    rw [e3, List.drop_drop, show 128 * (k + 1) = 128 * k + 128 by omega, e2]

theorem set_all {α : Type} (g : Nat → α) (d : α) (n : Nat) : ∀ m, m ≤ n → upto (fun k o => o.set k (g k)) (List.replicate n d) m = (List.range m).map g ++ List.replicate (n - m) d
  | 0, _ => by simp [upto]
  | m + 1, h => by
    have ih := set_all g d n m (by omega)
    show (upto (fun k o => o.set k (g k)) (List.replicate n d) m).set m (g m) = _
    rw [ih, List.set_append_right _ _ (by simp), List.length_map, List.length_range, Nat.sub_self, show n - m = (n - (m + 1)) + 1 by omega, List.replicate_succ, List.set_cons_zero, List.range_succ, List.map_append]
    simp

theorem app_all {α : Type} (g : Nat → α) : ∀ m, upto (fun k o => o ++ [g k]) [] m = (List.range m).map g
  | 0 => rfl
  | m + 1 => by
    show upto (fun k o => o ++ [g k]) [] m ++ [g m] = _
    rw [app_all g m, List.range_succ, List.map_append]
    rfl

theorem bytes_eq (h : List UInt64) (n : Nat) : refBytes h n = sumBytes h n := by
  unfold refBytes sumBytes
  rw [app_all, set_all _ _ n n (Nat.le_refl _), Nat.sub_self, List.replicate_zero, List.append_nil]
  congr 1
  funext k
  have e : 8 * ((k % 8 : Nat) : Int) = ((8 * (k % 8) : Nat) : Int) := by omega
  rw [e, i2u_nat, UInt64.toNat_ofNat', Nat.mod_eq_of_lt (by omega)]

/-- The document's digest is the program's. -/
theorem refOf_eq {p : List UInt8} {n : Int} {b : List UInt8} (hp : p.length ≤ 16) : refOf p n b = blakeOf p n b := by
  unfold refOf blakeOf writeS eatAll
  rw [refH_eq hp, bytes_eq]
  have hk : 128 * ((b.length - 1) / 128) ≤ b.length := by omega
  show _ = sumS n (upto (fun _ s => eat1 s) (newH p n, 0, b) ((b.length - 1) / 128))
  rw [eat_ref b _ _ hk]
  unfold sumS
  have hl : (b.drop (128 * ((b.length - 1) / 128))).length ≤ 128 := by simp only [List.length_drop]; omega
  have hc : i2u (b.length : Int) = i2u ((128 * ((b.length - 1) / 128) : Nat) : Int) + i2u ((b.drop (128 * ((b.length - 1) / 128))).length : Int) := by
    rw [← i2u_add, List.length_drop]
    congr 2
    omega
  rw [refBlock_eq hl, hc]

theorem upto_add {β : Type} (f : β → β) (s : β) (a : Nat) : ∀ b, upto (fun _ x => f x) (upto (fun _ x => f x) s a) b = upto (fun _ x => f x) s (a + b)
  | 0 => rfl
  | b + 1 => congrArg f (upto_add f s a b)

theorem eat_more (h : List UInt64) (c : UInt64) (v b : List UInt8) : ∀ k, 128 * k ≤ v.length → upto (fun _ s => eat1 s) (h, c, v ++ b) k =
    ((upto (fun _ s => eat1 s) (h, c, v) k).1, (upto (fun _ s => eat1 s) (h, c, v) k).2.1, (upto (fun _ s => eat1 s) (h, c, v) k).2.2 ++ b)
  | 0, _ => rfl
  | k + 1, hk => by
    have ih := eat_more h c v b k (by omega)
    have hl := eat_len (h, c, v) k
    simp only at hl
    show eat1 (upto (fun _ s => eat1 s) (h, c, v ++ b) k) = _
    rw [ih]
    show _ = ((eat1 (upto (fun _ s => eat1 s) (h, c, v) k)).1, (eat1 (upto (fun _ s => eat1 s) (h, c, v) k)).2.1, (eat1 (upto (fun _ s => eat1 s) (h, c, v) k)).2.2 ++ b)
    generalize upto (fun _ s => eat1 s) (h, c, v) k = s at *
    simp only [eat1]
    rw [List.take_append_of_le_length (by omega), List.drop_append_of_le_length (by omega)]

/-- What is written in pieces is what is written at once. -/
theorem write_write (s : List UInt64 × UInt64 × List UInt8) (a b : List UInt8) : writeS (writeS s a) b = writeS s (a ++ b) := by
  obtain ⟨h, c, w⟩ := s
  have hk : 128 * (((w ++ a).length - 1) / 128) ≤ (w ++ a).length := by omega
  have e1 := eat_more h c (w ++ a) b _ hk
  have hl := eat_len (h, c, w ++ a) (((w ++ a).length - 1) / 128)
  simp only at hl
  show eatAll ((writeS (h, c, w) a).1, (writeS (h, c, w) a).2.1, (writeS (h, c, w) a).2.2 ++ b) = eatAll (h, c, w ++ (a ++ b))
  have e2 : writeS (h, c, w) a = upto (fun _ s => eat1 s) (h, c, w ++ a) (((w ++ a).length - 1) / 128) := rfl
  rw [e2, ← e1, ← List.append_assoc]
  unfold eatAll
  rw [upto_add]
  congr 1
  rw [e1]
  simp only [List.length_append] at hl ⊢
  rw [hl]
  omega

theorem blakeOf_length (p : List UInt8) (n : Int) (b : List UInt8) : (blakeOf p n b).length = n.toNat := by
  unfold blakeOf sumS
  rw [← bytes_eq]
  unfold refBytes
  rw [app_all, List.length_map, List.length_range]

end Go.Proofs.Ytkngdfhigpjciaa

/- The function sigil/sigillaw03.BlakeSums: what it makes of its arguments. No statement of a seat is proved here. -/
namespace Go.Proofs.Ytkngdfhigpjciaa
open Sx Go
set_option maxRecDepth 100000

def lsums_S : FnSpec := ⟨[.val false .str, .val false .int, .val false (.list .u8)], [], true, 0, false⟩

abbrev lsumsX : Type := ((List UInt8) × (Int) × (List (UInt8)) × Unit) × (Unit)

def lsums_o0 : OutSh := ⟨[.val false .bool], [], false⟩

def lsums_sel : SV → Option OutSh := fun _ => some lsums_o0

def lsums_T (a0 : List UInt8) (a1 : Int) (a2 : List (UInt8)) : OT lsums_S.Y :=
  let z0 : Int := (↑(List.length a2) : Int)
  let z1 : Bool := uspare_pre ((a2, ()), ())
  let z2 : List UInt8 := spareOf a2
  let z3 : List UInt8 := List.take (Int.toNat (z0 - (0 : Int))) (List.drop (0 : Nat) z2)
  let z4 : Bool := badKey a0 a1
  let z5 : Bool := rsum_pre ((a0, a1, a2, ()), ())
  let z6 : Bool := usame_pre ((z2, z2, ()), ())
  let z7 : Bool := decide (z2 = z2)
  let z8 : List UInt8 := refOf a0 a1 a2
  let z9 : List UInt8 := blakeOf a0 a1 z3
  (.br (decide ((5000 : Int) < z0))
  (.ok ⟨lsums_o0, ((true, ()), ())⟩)
  (gd [z1, between (0 : Int) z0 (List.length z2), bsumf_pre ((a0, a1, z3, ()), ())] (.br (z4)
    (gd [z5] (.br (z4)
      (gd [z1, z6] (.ok ⟨lsums_o0, ((z7, ()), ())⟩))
      (.br (decide ([] = z8))
        (.ok ⟨lsums_o0, ((false, ()), ())⟩)
        (.ok ⟨lsums_o0, ((false, ()), ())⟩))))
    (gd [z5] (.br (z4)
      (gd [usame_pre ((z9, [], ()), ())] (.br (decide (z9 = []))
        (.ok ⟨lsums_o0, ((false, ()), ())⟩)
        (.ok ⟨lsums_o0, ((false, ()), ())⟩)))
      (gd [usame_pre ((z9, z8, ()), ())] (.br (decide (z9 = z8))
        (gd [z1, z6] (.ok ⟨lsums_o0, ((z7, ()), ())⟩))
        (.ok ⟨lsums_o0, ((false, ()), ())⟩))))))))

theorem lsums_q (x : lsumsX) (Q : lsums_S.Y → Prop) : wpf te E_balive lamNil 1000 Try.f3 (lsums_S.inp.inj x).tm (lsums_S.inp.inj x).hp (fnK lsums_S lsums_sel Q) (fun _ _ => False) = (lsums_T (x.1.1) (x.1.2.1) (x.1.2.2.1)).wpR Q := by kernel_rfl

theorem lsums_main (pre : lsumsX → Bool) (F : lsumsX → OT lsums_S.Y) (hF : ∀ (x : lsumsX) oy, pre x = true → (F x).run = some oy → (lsums_T (x.1.1) (x.1.2.1) (x.1.2.2.1)).run = some oy) : SummOk Try.prog 3 (lsums_S.summ pre F) :=
  fn_tree te_ok E_balive_ok E_balive_any (f := 3) (fn := Try.f3) (c := codeOf Try.f3) (by kernel_rfl) (by kernel_rfl) (by kernel_rfl) (S := lsums_S) (k := 0) (by kernel_rfl) (fun R hR => lamOk_nil) (n := 1000) (sel := lsums_sel) (fun v o h => by cases h; rfl) (pre := pre) (F := F) (T := fun x => lsums_T (x.1.1) (x.1.2.1) (x.1.2.2.1)) (fun x Q => lsums_q x Q) hF

theorem spare_app (b : List UInt8) : spareOf b = b ++ (List.range 8).map fun (k : Nat) => i2b (201 + (k : Int)) := by
  unfold spareOf
  have h : ∀ n, upto (fun (k : Nat) (l : List UInt8) => l ++ [i2b (201 + (k : Int))]) b n = b ++ (List.range n).map fun (k : Nat) => i2b (201 + (k : Int)) := fun n => by
    induction n with
    | zero => simp [upto]
    | succ n ih =>
      show upto (fun (k : Nat) (l : List UInt8) => l ++ [i2b (201 + (k : Int))]) b n ++ [_] = _
      rw [ih, List.range_succ, List.map_append, List.append_assoc]
      rfl
  exact h 8
theorem spare_length (b : List UInt8) : (spareOf b).length = b.length + 8 := by rw [spare_app]; simp
theorem spare_take (b : List UInt8) : (spareOf b).take b.length = b := by rw [spare_app, List.take_left]

def lsums_pre (_ : lsumsX) : Bool := true
def lsums_F (_ : lsumsX) : OT lsums_S.Y := .ok ⟨lsums_o0, ((true, ()), ())⟩

theorem lsums_ok : SummOk Try.prog 3 (lsums_S.summ lsums_pre lsums_F) := lsums_main _ _ fun x oy _ ho => by
  rw [← ho]
  clear ho
  obtain ⟨⟨p, n, b, ⟨⟩⟩, ⟨⟩⟩ := x
  unfold lsums_T
  by_cases hb : (5000 : Int) < (b.length : Int)
  · exact OT.run_t (decide_eq_true hb)
  · refine (OT.run_f (decide_eq_false hb)).trans ?_
    have e3 : List.take (Int.toNat ((b.length : Int) - (0 : Int))) (List.drop (0 : Nat) (spareOf b)) = b := by
      rw [List.drop_zero, show Int.toNat ((b.length : Int) - (0 : Int)) = b.length by omega]
      exact spare_take b
    have hl := spare_length b
    have h1 : uspare_pre ((b, ()), ()) = true := decide_eq_true (show b.length ≤ 140737488355320 by omega)
    have h5 : rsum_pre ((p, n, b, ()), ()) = true := decide_eq_true (show b.length ≤ 1000000000000 by omega)
    have hbs : bsumf_pre ((p, n, b, ()), ()) = true := decide_eq_true (show b.length ≤ 140737488355328 by omega)
    have h6 : usame_pre ((spareOf b, spareOf b, ()), ()) = true := decide_eq_true (show (spareOf b).length ≤ 140737488355328 by omega)
    simp only [e3]
    refine (gd_run ?_).trans ?_
    · simp only [List.all_cons, List.all_nil, Bool.and_true, Bool.and_eq_true]
      exact ⟨h1, between_of (by omega), hbs⟩
    · have hend : (gd [uspare_pre ((b, ()), ()), usame_pre ((spareOf b, spareOf b, ()), ())] (.ok (⟨lsums_o0, ((decide True, ()), ())⟩ : lsums_S.Y))).run = (lsums_F ((p, n, b, ()), ())).run := by
        refine (gd_run ?_).trans ?_
        · simp only [List.all_cons, List.all_nil, Bool.and_true, Bool.and_eq_true]
          exact ⟨h1, h6⟩
        · rfl
      cases hk : badKey p n
      · refine (OT.run_f rfl).trans ((gd_run ?_).trans ((OT.run_f rfl).trans ((gd_run ?_).trans ?_)))
        · simp only [List.all_cons, List.all_nil, Bool.and_true]; exact h5
        · simp only [List.all_cons, List.all_nil, Bool.and_true]
          refine decide_eq_true (show (blakeOf p n b).length ≤ 140737488355328 from ?_)
          rw [blakeOf_length]
          simp only [badKey, Bool.or_eq_false_iff, decide_eq_false_iff_not] at hk
          omega
        · have hp : p.length ≤ 16 := by
            simp only [badKey, Bool.or_eq_false_iff, decide_eq_false_iff_not] at hk
            omega
          have h12 : decide (blakeOf p n b = refOf p n b) = true := decide_eq_true (refOf_eq hp).symm
          exact (OT.run_t h12).trans hend
      · refine (OT.run_t rfl).trans ((gd_run ?_).trans ((OT.run_t rfl).trans hend))
        simp only [List.all_cons, List.all_nil, Bool.and_true]; exact h5

def lsums_summ : Summ := (lsums_S.summ lsums_pre lsums_F)
theorem lsums_known : SummOk Try.prog 3 lsums_summ := lsums_ok
theorem lsums_smono : MonoOk lsums_summ := fn_mono

def E_lsums : Env := envCons 3 lsums_summ E_balive
theorem E_lsums_ok : EnvOk Try.prog E_lsums := envOk_cons lsums_known E_balive_ok
theorem E_lsums_mono : EnvMono E_lsums := envMono_cons lsums_smono E_balive_mono
theorem E_lsums_any : AnyOk Try.prog te E_lsums := any_ok follows te_ok E_lsums_ok E_lsums_mono

end Go.Proofs.Ytkngdfhigpjciaa

/- The function sigil/sigillaw03.BlakePieces: what it makes of its arguments. No statement of a seat is proved here. -/
namespace Go.Proofs.Ytkngdfhigpjciaa
open Sx Go
set_option maxRecDepth 100000

def lpieces_S : FnSpec := ⟨[.val false .str, .val false .int, .val false (.list (.list .u8))], [], true, 0, false⟩

abbrev lpiecesX : Type := ((List UInt8) × (Int) × (List (List (UInt8))) × Unit) × (Unit)

def lpieces_s0 : Shape := ⟨128, [(0, .val false .str), (1, .val false .int), (2, .val false (.list (.list .u8))), (7, .ptr 0 0 0), (11, .own 1), (12, .val false .int)], [(0, .cells [.val false .int, .val false .u64, .val false .u64, .val false .u64, .val false .u64, .val false .u64, .val false .u64, .val false .u64, .val false .u64, .own 2, .val false .u64]), (1, .row .u8), (2, .row .u8)], 0, true⟩

abbrev lpieces_s0X : Type := ((List UInt8) × (Int) × (List (List (UInt8))) × (Unit) × (Unit) × (Int) × Unit) × (((Int) × (UInt64) × (UInt64) × (UInt64) × (UInt64) × (UInt64) × (UInt64) × (UInt64) × (UInt64) × (Unit) × (UInt64) × Unit) × (List (UInt8)) × (List (UInt8)) × Unit)

def lpieces_s2 : Shape := ⟨128, [(0, .val false .str), (1, .val false .int), (2, .val false (.list (.list .u8))), (7, .ptr 0 0 0), (11, .own 1), (12, .val false .int), (13, .own 2), (14, .val false .int)], [(0, .cells [.val false .int, .val false .u64, .val false .u64, .val false .u64, .val false .u64, .val false .u64, .val false .u64, .val false .u64, .val false .u64, .own 3, .val false .u64]), (1, .row .u8), (2, .row .u8), (3, .row .u8)], 0, true⟩

abbrev lpieces_s2X : Type := ((List UInt8) × (Int) × (List (List (UInt8))) × (Unit) × (Unit) × (Int) × (Unit) × (Int) × Unit) × (((Int) × (UInt64) × (UInt64) × (UInt64) × (UInt64) × (UInt64) × (UInt64) × (UInt64) × (UInt64) × (Unit) × (UInt64) × Unit) × (List (UInt8)) × (List (UInt8)) × (List (UInt8)) × Unit)

def lpieces_e2_2 : Shape := ⟨128, [(0, .val false .str), (1, .val false .int), (2, .val false (.list (.list .u8))), (7, .ptr 0 0 0), (11, .own 1), (12, .val false .int)], [(0, .cells [.val false .int, .val false .u64, .val false .u64, .val false .u64, .val false .u64, .val false .u64, .val false .u64, .val false .u64, .val false .u64, .own 2, .val false .u64]), (1, .row .u8), (2, .row .u8)], 0, true⟩

abbrev lpieces_e2_2X : Type := ((List UInt8) × (Int) × (List (List (UInt8))) × (Unit) × (Unit) × (Int) × Unit) × (((Int) × (UInt64) × (UInt64) × (UInt64) × (UInt64) × (UInt64) × (UInt64) × (UInt64) × (UInt64) × (Unit) × (UInt64) × Unit) × (List (UInt8)) × (List (UInt8)) × Unit)

def lpieces_x2 : SE → Option Shape := xsMk [(2, lpieces_e2_2)] none

def lpieces_T2 (a0 : List UInt8) (a1 : Int) (a2 : List (List (UInt8))) (a12 : Int) (a14 : Int) (c0_0 : Int) (c0_1 : UInt64) (c0_2 : UInt64) (c0_3 : UInt64) (c0_4 : UInt64) (c0_5 : UInt64) (c0_6 : UInt64) (c0_7 : UInt64) (c0_8 : UInt64) (c0_10 : UInt64) (c1 : List (UInt8)) (c2 : List (UInt8)) (c3 : List (UInt8)) : OT (Sum lpieces_s2X LEnd) :=
  let z0 : Nat := List.length c2
  let z1 : Nat := Int.toNat a14
  (.br (decide (a14 < (↑z0 : Int)))
  (gd [inB a14 z0, decide (z1 < z0), inR (a14 + (1 : Int))] (.ok (.inl ((a0, (a1, (a2, ((), ((), (a12, ((), (a14 + (1 : Int), ())))))))), ((c0_0, (c0_1, (c0_2, (c0_3, (c0_4, (c0_5, (c0_6, (c0_7, (c0_8, ((), (c0_10, ()))))))))))), (c1, (List.set c2 z1 (9 : UInt8), (c3, ()))))))))
  (.ok (.inr ⟨(.exit 2, lpieces_e2_2), ((a0, (a1, (a2, ((), ((), (a12, ())))))), ((c0_0, (c0_1, (c0_2, (c0_3, (c0_4, (c0_5, (c0_6, (c0_7, (c0_8, ((), (c0_10, ()))))))))))), (c1, (c3, ()))))⟩)))

def lpieces_U2 (s : lpieces_s2X) : OT (Sum lpieces_s2X LEnd) := lpieces_T2 (s.1.1) (s.1.2.1) (s.1.2.2.1) (s.1.2.2.2.2.2.1) (s.1.2.2.2.2.2.2.2.1) (s.2.1.1) (s.2.1.2.1) (s.2.1.2.2.1) (s.2.1.2.2.2.1) (s.2.1.2.2.2.2.1) (s.2.1.2.2.2.2.2.1) (s.2.1.2.2.2.2.2.2.1) (s.2.1.2.2.2.2.2.2.2.1) (s.2.1.2.2.2.2.2.2.2.2.1) (s.2.1.2.2.2.2.2.2.2.2.2.2.1) (s.2.2.1) (s.2.2.2.1) (s.2.2.2.2.1)

theorem lpieces_q2 (s : lpieces_s2X) (Q : Sum lpieces_s2X LEnd → Prop) : wps te E_lsums lamNil 1000 (loopOf (loopOf (codeOf Try.f4) 0) 2) (lpieces_s2.inj s) (stepK lpieces_s2 lpieces_x2 (Q : Sum lpieces_s2.T LEnd → Prop)) = (lpieces_U2 s).wpR Q := by kernel_rfl

def lpieces_f2 (g2_2 : lpieces_s2X → lpieces_e2_2X) (s : lpieces_s2X) : OT LEnd := (.ok ⟨(.exit 2, lpieces_e2_2), g2_2 s⟩)

def lpieces_s4 : Shape := ⟨128, [(0, .val false .str), (1, .val false .int), (2, .val false (.list (.list .u8))), (7, .ptr 0 0 0), (11, .own 1), (12, .val false .int), (15, .own 2), (18, .val false .int)], [(0, .cells [.val false .int, .val false .u64, .val false .u64, .val false .u64, .val false .u64, .val false .u64, .val false .u64, .val false .u64, .val false .u64, .own 3, .val false .u64]), (1, .row .u8), (2, .row .u8), (3, .row .u8)], 0, true⟩

abbrev lpieces_s4X : Type := ((List UInt8) × (Int) × (List (List (UInt8))) × (Unit) × (Unit) × (Int) × (Unit) × (Int) × Unit) × (((Int) × (UInt64) × (UInt64) × (UInt64) × (UInt64) × (UInt64) × (UInt64) × (UInt64) × (UInt64) × (Unit) × (UInt64) × Unit) × (List (UInt8)) × (List (UInt8)) × (List (UInt8)) × Unit)

def lpieces_e4_4 : Shape := ⟨128, [(0, .val false .str), (1, .val false .int), (2, .val false (.list (.list .u8))), (7, .ptr 0 0 0), (11, .own 1), (12, .val false .int)], [(0, .cells [.val false .int, .val false .u64, .val false .u64, .val false .u64, .val false .u64, .val false .u64, .val false .u64, .val false .u64, .val false .u64, .own 2, .val false .u64]), (1, .row .u8), (2, .row .u8)], 0, true⟩

abbrev lpieces_e4_4X : Type := ((List UInt8) × (Int) × (List (List (UInt8))) × (Unit) × (Unit) × (Int) × Unit) × (((Int) × (UInt64) × (UInt64) × (UInt64) × (UInt64) × (UInt64) × (UInt64) × (UInt64) × (UInt64) × (Unit) × (UInt64) × Unit) × (List (UInt8)) × (List (UInt8)) × Unit)

def lpieces_x4 : SE → Option Shape := xsMk [(4, lpieces_e4_4)] none

def lpieces_T4 (a0 : List UInt8) (a1 : Int) (a2 : List (List (UInt8))) (a12 : Int) (a18 : Int) (c0_0 : Int) (c0_1 : UInt64) (c0_2 : UInt64) (c0_3 : UInt64) (c0_4 : UInt64) (c0_5 : UInt64) (c0_6 : UInt64) (c0_7 : UInt64) (c0_8 : UInt64) (c0_10 : UInt64) (c1 : List (UInt8)) (c2 : List (UInt8)) (c3 : List (UInt8)) : OT (Sum lpieces_s4X LEnd) :=
  let z0 : Nat := List.length c2
  let z1 : Nat := Int.toNat a18
  (.br (decide (a18 < (↑z0 : Int)))
  (gd [inB a18 z0, decide (z1 < z0), inR (a18 + (1 : Int))] (.ok (.inl ((a0, (a1, (a2, ((), ((), (a12, ((), (a18 + (1 : Int), ())))))))), ((c0_0, (c0_1, (c0_2, (c0_3, (c0_4, (c0_5, (c0_6, (c0_7, (c0_8, ((), (c0_10, ()))))))))))), (c1, (List.set c2 z1 (7 : UInt8), (c3, ()))))))))
  (.ok (.inr ⟨(.exit 4, lpieces_e4_4), ((a0, (a1, (a2, ((), ((), (a12, ())))))), ((c0_0, (c0_1, (c0_2, (c0_3, (c0_4, (c0_5, (c0_6, (c0_7, (c0_8, ((), (c0_10, ()))))))))))), (c1, (c3, ()))))⟩)))

def lpieces_U4 (s : lpieces_s4X) : OT (Sum lpieces_s4X LEnd) := lpieces_T4 (s.1.1) (s.1.2.1) (s.1.2.2.1) (s.1.2.2.2.2.2.1) (s.1.2.2.2.2.2.2.2.1) (s.2.1.1) (s.2.1.2.1) (s.2.1.2.2.1) (s.2.1.2.2.2.1) (s.2.1.2.2.2.2.1) (s.2.1.2.2.2.2.2.1) (s.2.1.2.2.2.2.2.2.1) (s.2.1.2.2.2.2.2.2.2.1) (s.2.1.2.2.2.2.2.2.2.2.1) (s.2.1.2.2.2.2.2.2.2.2.2.2.1) (s.2.2.1) (s.2.2.2.1) (s.2.2.2.2.1)

theorem lpieces_q4 (s : lpieces_s4X) (Q : Sum lpieces_s4X LEnd → Prop) : wps te E_lsums lamNil 1000 (loopOf (loopOf (codeOf Try.f4) 0) 4) (lpieces_s4.inj s) (stepK lpieces_s4 lpieces_x4 (Q : Sum lpieces_s4.T LEnd → Prop)) = (lpieces_U4 s).wpR Q := by kernel_rfl

def lpieces_f4 (g4_4 : lpieces_s4X → lpieces_e4_4X) (s : lpieces_s4X) : OT LEnd := (.ok ⟨(.exit 4, lpieces_e4_4), g4_4 s⟩)

def lpieces_e0_r : Shape := ⟨128, [(6, .val false .bool)], [], 0, true⟩

abbrev lpieces_e0_rX : Type := ((Bool) × Unit) × (Unit)

def lpieces_e0_0 : Shape := ⟨128, [(0, .val false .str), (1, .val false .int), (7, .ptr 0 0 0), (11, .own 1)], [(0, .cells [.val false .int, .val false .u64, .val false .u64, .val false .u64, .val false .u64, .val false .u64, .val false .u64, .val false .u64, .val false .u64, .own 2, .val false .u64]), (1, .row .u8), (2, .row .u8)], 0, true⟩

abbrev lpieces_e0_0X : Type := ((List UInt8) × (Int) × (Unit) × (Unit) × Unit) × (((Int) × (UInt64) × (UInt64) × (UInt64) × (UInt64) × (UInt64) × (UInt64) × (UInt64) × (UInt64) × (Unit) × (UInt64) × Unit) × (List (UInt8)) × (List (UInt8)) × Unit)

def lpieces_x0 : SE → Option Shape := xsMk [(0, lpieces_e0_0)] (some lpieces_e0_r)

def lpieces_T0 (ok2 : lpieces_s2X → Bool) (g2_2 : lpieces_s2X → lpieces_e2_2X) (ok4 : lpieces_s4X → Bool) (g4_4 : lpieces_s4X → lpieces_e4_4X) (a0 : List UInt8) (a1 : Int) (a2 : List (List (UInt8))) (a12 : Int) (c0_0 : Int) (c0_1 : UInt64) (c0_2 : UInt64) (c0_3 : UInt64) (c0_4 : UInt64) (c0_5 : UInt64) (c0_6 : UInt64) (c0_7 : UInt64) (c0_8 : UInt64) (c0_10 : UInt64) (c1 : List (UInt8)) (c2 : List (UInt8)) : OT (Sum lpieces_s0X LEnd) :=
  let z0 : Nat := List.length a2
  let z1 : Bool := inB a12 z0
  let z2 : List UInt8 := List.getD a2 (Int.toNat a12) []
  let z3 : Int := (↑(List.length c1) : Int) + (↑(List.length z2) : Int)
  let z4 : Int × UInt64 × UInt64 × UInt64 × UInt64 × UInt64 × UInt64 × UInt64 × UInt64 × PUnit × UInt64 × PUnit := (c0_0, c0_1, c0_2, c0_3, c0_4, c0_5, c0_6, c0_7, c0_8, (), c0_10, ())
  let z5 : List UInt64 × UInt64 × List UInt8 := writeS (ofDig z4 c2) z2
  let z6 : UInt64 × List UInt8 := z5.snd
  let z7 : Int × UInt64 × UInt64 × UInt64 × UInt64 × UInt64 × UInt64 × UInt64 × UInt64 × PUnit × UInt64 × PUnit := digT c0_0 z5.fst z6.fst
  let z8 : UInt64 × UInt64 × UInt64 × UInt64 × UInt64 × UInt64 × UInt64 × UInt64 × PUnit × UInt64 × PUnit := z7.snd
  let z9 : UInt64 × UInt64 × UInt64 × UInt64 × UInt64 × UInt64 × UInt64 × PUnit × UInt64 × PUnit := z8.snd
  let z10 : UInt64 × UInt64 × UInt64 × UInt64 × UInt64 × UInt64 × PUnit × UInt64 × PUnit := z9.snd
  let z11 : UInt64 × UInt64 × UInt64 × UInt64 × UInt64 × PUnit × UInt64 × PUnit := z10.snd
  let z12 : UInt64 × UInt64 × UInt64 × UInt64 × PUnit × UInt64 × PUnit := z11.snd
  let z13 : UInt64 × UInt64 × UInt64 × PUnit × UInt64 × PUnit := z12.snd
  let z14 : UInt64 × UInt64 × PUnit × UInt64 × PUnit := z13.snd
  let z15 : UInt64 × PUnit × UInt64 × PUnit := z14.snd
  let z16 : (List UInt8 × Int × List (List UInt8) × PUnit × PUnit × Int × PUnit × Int × PUnit) × (Int × UInt64 × UInt64 × UInt64 × UInt64 × UInt64 × UInt64 × UInt64 × UInt64 × PUnit × UInt64 × PUnit) × List UInt8 × List UInt8 × List UInt8 × PUnit := ((a0, a1, a2, (), (), a12, (), (0 : Int), ()), (z7.fst, z8.fst, z9.fst, z10.fst, z11.fst, z12.fst, z13.fst, z14.fst, z15.fst, (), z15.snd.snd.fst, ()), c1, z2, z6.snd, ())
  let z17 : (List UInt8 × Int × List (List UInt8) × PUnit × PUnit × Int × PUnit) × (Int × UInt64 × UInt64 × UInt64 × UInt64 × UInt64 × UInt64 × UInt64 × UInt64 × PUnit × UInt64 × PUnit) × List UInt8 × List UInt8 × PUnit := g2_2 z16
  let z18 : List UInt8 × Int × List (List UInt8) × PUnit × PUnit × Int × PUnit := z17.fst
  let z19 : Int × List (List UInt8) × PUnit × PUnit × Int × PUnit := z18.snd
  let z20 : List (List UInt8) × PUnit × PUnit × Int × PUnit := z19.snd
  let z21 : Int := z20.snd.snd.snd.fst
  let z22 : List (List UInt8) := z20.fst
  let z23 : (Int × UInt64 × UInt64 × UInt64 × UInt64 × UInt64 × UInt64 × UInt64 × UInt64 × PUnit × UInt64 × PUnit) × List UInt8 × List UInt8 × PUnit := z17.snd
  let z24 : List UInt8 × List UInt8 × PUnit := z23.snd
  let z25 : List UInt8 := z24.fst
  let z26 : List UInt8 := List.getD z22 (Int.toNat z21) []
  let z27 : Int × UInt64 × UInt64 × UInt64 × UInt64 × UInt64 × UInt64 × UInt64 × UInt64 × PUnit × UInt64 × PUnit := z23.fst
  let z28 : Int := z27.fst
  let z29 : UInt64 × UInt64 × UInt64 × UInt64 × UInt64 × UInt64 × UInt64 × UInt64 × PUnit × UInt64 × PUnit := z27.snd
  let z30 : UInt64 := z29.fst
  let z31 : UInt64 × UInt64 × UInt64 × UInt64 × UInt64 × UInt64 × UInt64 × PUnit × UInt64 × PUnit := z29.snd
  let z32 : UInt64 := z31.fst
  let z33 : UInt64 × UInt64 × UInt64 × UInt64 × UInt64 × UInt64 × PUnit × UInt64 × PUnit := z31.snd
  let z34 : UInt64 := z33.fst
  let z35 : UInt64 × UInt64 × UInt64 × UInt64 × UInt64 × PUnit × UInt64 × PUnit := z33.snd
  let z36 : UInt64 := z35.fst
  let z37 : UInt64 × UInt64 × UInt64 × UInt64 × PUnit × UInt64 × PUnit := z35.snd
  let z38 : UInt64 := z37.fst
  let z39 : UInt64 × UInt64 × UInt64 × PUnit × UInt64 × PUnit := z37.snd
  let z40 : UInt64 := z39.fst
  let z41 : UInt64 × UInt64 × PUnit × UInt64 × PUnit := z39.snd
  let z42 : UInt64 := z41.fst
  let z43 : UInt64 × PUnit × UInt64 × PUnit := z41.snd
  let z44 : UInt64 := z43.fst
  let z45 : UInt64 × PUnit := (z43.snd.snd.fst, ())
  let z46 : Int × UInt64 × UInt64 × UInt64 × UInt64 × UInt64 × UInt64 × UInt64 × UInt64 × PUnit × UInt64 × PUnit := (z28, z30, z32, z34, z36, z38, z40, z42, z44, (), z45)
  let z47 : List UInt8 := z24.snd.fst
  let z48 : List UInt8 := z18.fst
  let z49 : Int := z19.fst
  let z50 : List UInt8 := z25 ++ z26
  let z51 : List UInt8 := sumS z28 (ofDig z46 z47)
  let z52 : (List UInt8 × Int × List (List UInt8) × PUnit × PUnit × Int × PUnit × Int × PUnit) × (Int × UInt64 × UInt64 × UInt64 × UInt64 × UInt64 × UInt64 × UInt64 × UInt64 × PUnit × UInt64 × PUnit) × List UInt8 × List UInt8 × List UInt8 × PUnit := ((z48, z49, z22, (), (), z21, (), (0 : Int), ()), (z28, z30, z32, z34, z36, z38, z40, z42, z44, (), z45), z50, z51, z47, ())
  let z53 : Bool := ok4 z52
  let z54 : (List UInt8 × Int × List (List UInt8) × PUnit × PUnit × Int × PUnit) × (Int × UInt64 × UInt64 × UInt64 × UInt64 × UInt64 × UInt64 × UInt64 × UInt64 × PUnit × UInt64 × PUnit) × List UInt8 × List UInt8 × PUnit := g4_4 z52
  let z55 : List UInt8 × Int × List (List UInt8) × PUnit × PUnit × Int × PUnit := z54.fst
  let z56 : Int × List (List UInt8) × PUnit × PUnit × Int × PUnit := z55.snd
  let z57 : List (List UInt8) × PUnit × PUnit × Int × PUnit := z56.snd
  let z58 : Bool := inR (z57.snd.snd.snd.fst + (1 : Int))
  let z59 : List UInt8 := z55.fst
  let z60 : Int := z56.fst
  let z61 : List (List UInt8) := z57.fst
  let z62 : (Int × UInt64 × UInt64 × UInt64 × UInt64 × UInt64 × UInt64 × UInt64 × UInt64 × PUnit × UInt64 × PUnit) × List UInt8 × List UInt8 × PUnit := z54.snd
  let z63 : Int × UInt64 × UInt64 × UInt64 × UInt64 × UInt64 × UInt64 × UInt64 × UInt64 × PUnit × UInt64 × PUnit := z62.fst
  let z64 : Int := z63.fst
  let z65 : UInt64 × UInt64 × UInt64 × UInt64 × UInt64 × UInt64 × UInt64 × UInt64 × PUnit × UInt64 × PUnit := z63.snd
  let z66 : UInt64 := z65.fst
  let z67 : UInt64 × UInt64 × UInt64 × UInt64 × UInt64 × UInt64 × UInt64 × PUnit × UInt64 × PUnit := z65.snd
  let z68 : UInt64 := z67.fst
  let z69 : UInt64 × UInt64 × UInt64 × UInt64 × UInt64 × UInt64 × PUnit × UInt64 × PUnit := z67.snd
  let z70 : UInt64 := z69.fst
  let z71 : UInt64 × UInt64 × UInt64 × UInt64 × UInt64 × PUnit × UInt64 × PUnit := z69.snd
  let z72 : UInt64 := z71.fst
  let z73 : UInt64 × UInt64 × UInt64 × UInt64 × PUnit × UInt64 × PUnit := z71.snd
  let z74 : UInt64 := z73.fst
  let z75 : UInt64 × UInt64 × UInt64 × PUnit × UInt64 × PUnit := z73.snd
  let z76 : UInt64 := z75.fst
  let z77 : UInt64 × UInt64 × PUnit × UInt64 × PUnit := z75.snd
  let z78 : UInt64 := z77.fst
  let z79 : UInt64 × PUnit × UInt64 × PUnit := z77.snd
  let z80 : UInt64 := z79.fst
  let z81 : UInt64 := z79.snd.snd.fst
  let z82 : List UInt8 × List UInt8 × PUnit := z62.snd
  let z83 : List UInt8 := z82.fst
  let z84 : List UInt8 := z82.snd.fst
  let z85 : List UInt8 := refOf z48 z49 z50
  (.br (decide (a12 < (↑z0 : Int)))
  (gd [z1, inR z3] (.br (decide ((5000 : Int) < z3))
    (.ok (.inr ⟨(.ret, lpieces_e0_r), ((true, ()), ())⟩))
    (gd [z1, ucopy_pre ((z2, ()), ()), bwrite_pre (((), z2, ()), z4, c2, ()), ok2 z16, inB z21 (List.length z22), decide ((List.length z25 + List.length z26) * (1 : Nat) ≤ (140737488355328 : Nat)), bsum_pre (((), ()), z46, z47, ()), rsum_pre ((z48, z49, z50, ()), ())] (.br (badKey z48 z49)
      (gd [usame_pre ((z51, [], ()), ())] (.br (!decide (z51 = []))
        (.ok (.inr ⟨(.ret, lpieces_e0_r), ((false, ()), ())⟩))
        (gd [z53, z58] (.ok (.inl ((z59, (z60, (z61, ((), ((), (z57.snd.snd.snd.fst + (1 : Int), ())))))), ((z64, (z66, (z68, (z70, (z72, (z74, (z76, (z78, (z80, ((), (z81, ()))))))))))), (z83, (z84, ())))))))))
      (gd [usame_pre ((z51, z85, ()), ())] (.br (!decide (z51 = z85))
        (.ok (.inr ⟨(.ret, lpieces_e0_r), ((false, ()), ())⟩))
        (gd [z53, z58] (.ok (.inl ((z59, (z60, (z61, ((), ((), (z57.snd.snd.snd.fst + (1 : Int), ())))))), ((z64, (z66, (z68, (z70, (z72, (z74, (z76, (z78, (z80, ((), (z81, ()))))))))))), (z83, (z84, ())))))))))))))
  (.ok (.inr ⟨(.exit 0, lpieces_e0_0), ((a0, (a1, ((), ((), ())))), ((c0_0, (c0_1, (c0_2, (c0_3, (c0_4, (c0_5, (c0_6, (c0_7, (c0_8, ((), (c0_10, ()))))))))))), (c1, (c2, ()))))⟩)))

def lpieces_U0 (ok2 : lpieces_s2X → Bool) (g2_2 : lpieces_s2X → lpieces_e2_2X) (ok4 : lpieces_s4X → Bool) (g4_4 : lpieces_s4X → lpieces_e4_4X) (s : lpieces_s0X) : OT (Sum lpieces_s0X LEnd) := lpieces_T0 ok2 g2_2 ok4 g4_4 (s.1.1) (s.1.2.1) (s.1.2.2.1) (s.1.2.2.2.2.2.1) (s.2.1.1) (s.2.1.2.1) (s.2.1.2.2.1) (s.2.1.2.2.2.1) (s.2.1.2.2.2.2.1) (s.2.1.2.2.2.2.2.1) (s.2.1.2.2.2.2.2.2.1) (s.2.1.2.2.2.2.2.2.2.1) (s.2.1.2.2.2.2.2.2.2.2.1) (s.2.1.2.2.2.2.2.2.2.2.2.2.1) (s.2.2.1) (s.2.2.2.1)

theorem lpieces_q0 (ok2 : lpieces_s2X → Bool) (g2_2 : lpieces_s2X → lpieces_e2_2X) (ok4 : lpieces_s4X → Bool) (g4_4 : lpieces_s4X → lpieces_e4_4X) (s : lpieces_s0X) (Q : Sum lpieces_s0X LEnd → Prop) : wps te E_lsums (lamCons 4 (loopF lpieces_s4 4 ok4 (lpieces_f4 g4_4)) (lamCons 2 (loopF lpieces_s2 2 ok2 (lpieces_f2 g2_2)) lamNil)) 1000 (loopOf (codeOf Try.f4) 0) (lpieces_s0.inj s) (stepK lpieces_s0 lpieces_x0 (Q : Sum lpieces_s0.T LEnd → Prop)) = (lpieces_U0 ok2 g2_2 ok4 g4_4 s).wpR Q := by kernel_rfl

def lpieces_f0 (g0_r : lpieces_s0X → lpieces_e0_rX) (c0_r : lpieces_s0X → Bool) (g0_0 : lpieces_s0X → lpieces_e0_0X) (s : lpieces_s0X) : OT LEnd := (.br (c0_r s) (.ok ⟨(.ret, lpieces_e0_r), g0_r s⟩) (.ok ⟨(.exit 0, lpieces_e0_0), g0_0 s⟩))

def lpieces_o0 : OutSh := ⟨[.val false .bool], [], false⟩

def lpieces_sel : SV → Option OutSh := fun _ => some lpieces_o0

def lpieces_T (ok2 : lpieces_s2X → Bool) (g2_2 : lpieces_s2X → lpieces_e2_2X) (ok4 : lpieces_s4X → Bool) (g4_4 : lpieces_s4X → lpieces_e4_4X) (ok0 : lpieces_s0X → Bool) (g0_r : lpieces_s0X → lpieces_e0_rX) (c0_r : lpieces_s0X → Bool) (g0_0 : lpieces_s0X → lpieces_e0_0X) (a0 : List UInt8) (a1 : Int) (a2 : List (List (UInt8))) : OT lpieces_S.Y :=
  let z0 : Bool := badKey a0 a1
  let z1 : Int × UInt64 × UInt64 × UInt64 × UInt64 × UInt64 × UInt64 × UInt64 × UInt64 × PUnit × UInt64 × PUnit := digT a1 (newH a0 a1) (0 : UInt64)
  let z2 : UInt64 × UInt64 × UInt64 × UInt64 × UInt64 × UInt64 × UInt64 × UInt64 × PUnit × UInt64 × PUnit := z1.snd
  let z3 : UInt64 × UInt64 × UInt64 × UInt64 × UInt64 × UInt64 × UInt64 × PUnit × UInt64 × PUnit := z2.snd
  let z4 : UInt64 × UInt64 × UInt64 × UInt64 × UInt64 × UInt64 × PUnit × UInt64 × PUnit := z3.snd
  let z5 : UInt64 × UInt64 × UInt64 × UInt64 × UInt64 × PUnit × UInt64 × PUnit := z4.snd
  let z6 : UInt64 × UInt64 × UInt64 × UInt64 × PUnit × UInt64 × PUnit := z5.snd
  let z7 : UInt64 × UInt64 × UInt64 × PUnit × UInt64 × PUnit := z6.snd
  let z8 : UInt64 × UInt64 × PUnit × UInt64 × PUnit := z7.snd
  let z9 : UInt64 × PUnit × UInt64 × PUnit := z8.snd
  let z10 : (List UInt8 × Int × List (List UInt8) × PUnit × PUnit × Int × PUnit) × (Int × UInt64 × UInt64 × UInt64 × UInt64 × UInt64 × UInt64 × UInt64 × UInt64 × PUnit × UInt64 × PUnit) × List UInt8 × List UInt8 × PUnit := ((a0, a1, a2, (), (), (0 : Int), ()), (z1.fst, z2.fst, z3.fst, z4.fst, z5.fst, z6.fst, z7.fst, z8.fst, z9.fst, (), z9.snd.snd.fst, ()), [], [], ())
  let z11 : (List UInt8 × Int × PUnit × PUnit × PUnit) × (Int × UInt64 × UInt64 × UInt64 × UInt64 × UInt64 × UInt64 × UInt64 × UInt64 × PUnit × UInt64 × PUnit) × List UInt8 × List UInt8 × PUnit := g0_0 z10
  let z12 : List UInt8 × Int × PUnit × PUnit × PUnit := z11.fst
  let z13 : List UInt8 := z12.fst
  let z14 : Int := z12.snd.fst
  let z15 : (Int × UInt64 × UInt64 × UInt64 × UInt64 × UInt64 × UInt64 × UInt64 × UInt64 × PUnit × UInt64 × PUnit) × List UInt8 × List UInt8 × PUnit := z11.snd
  let z16 : List UInt8 × List UInt8 × PUnit := z15.snd
  let z17 : List UInt8 := z16.fst
  let z18 : Int × UInt64 × UInt64 × UInt64 × UInt64 × UInt64 × UInt64 × UInt64 × UInt64 × PUnit × UInt64 × PUnit := z15.fst
  let z19 : Int := z18.fst
  let z20 : UInt64 × UInt64 × UInt64 × UInt64 × UInt64 × UInt64 × UInt64 × UInt64 × PUnit × UInt64 × PUnit := z18.snd
  let z21 : UInt64 × UInt64 × UInt64 × UInt64 × UInt64 × UInt64 × UInt64 × PUnit × UInt64 × PUnit := z20.snd
  let z22 : UInt64 × UInt64 × UInt64 × UInt64 × UInt64 × UInt64 × PUnit × UInt64 × PUnit := z21.snd
  let z23 : UInt64 × UInt64 × UInt64 × UInt64 × UInt64 × PUnit × UInt64 × PUnit := z22.snd
  let z24 : UInt64 × UInt64 × UInt64 × UInt64 × PUnit × UInt64 × PUnit := z23.snd
  let z25 : UInt64 × UInt64 × UInt64 × PUnit × UInt64 × PUnit := z24.snd
  let z26 : UInt64 × UInt64 × PUnit × UInt64 × PUnit := z25.snd
  let z27 : UInt64 × PUnit × UInt64 × PUnit := z26.snd
  let z28 : Int × UInt64 × UInt64 × UInt64 × UInt64 × UInt64 × UInt64 × UInt64 × UInt64 × PUnit × UInt64 × PUnit := (z19, z20.fst, z21.fst, z22.fst, z23.fst, z24.fst, z25.fst, z26.fst, z27.fst, (), z27.snd.snd.fst, ())
  let z29 : List UInt8 := z16.snd.fst
  let z30 : Bool := bsum_pre (((), ()), z28, z29, ())
  let z31 : List UInt8 := sumS z19 (ofDig z28 z29)
  let z32 : List UInt8 := refOf z13 z14 z17
  (.br (decide ((50 : Int) < (↑(List.length a2) : Int)))
  (.ok ⟨lpieces_o0, ((true, ()), ())⟩)
  (.br (z0)
    (.br (z0)
      (.ok ⟨lpieces_o0, ((true, ()), ())⟩)
      (.ok ⟨lpieces_o0, ((false, ()), ())⟩))
    (.br (z0)
      (.ok ⟨lpieces_o0, ((false, ()), ())⟩)
      (gd [ok0 z10] (.br (c0_r z10)
        (.ok ⟨lpieces_o0, (((g0_r z10).fst.fst, ()), ())⟩)
        (gd [rsum_pre ((z13, z14, z17, ()), ())] (.br (badKey z13 z14)
          (gd [z30, usame_pre ((z31, [], ()), ())] (.ok ⟨lpieces_o0, ((decide (z31 = []), ()), ())⟩))
          (gd [z30, usame_pre ((z31, z32, ()), ())] (.ok ⟨lpieces_o0, ((decide (z31 = z32), ()), ())⟩)))))))))

theorem lpieces_q (ok2 : lpieces_s2X → Bool) (g2_2 : lpieces_s2X → lpieces_e2_2X) (ok4 : lpieces_s4X → Bool) (g4_4 : lpieces_s4X → lpieces_e4_4X) (ok0 : lpieces_s0X → Bool) (g0_r : lpieces_s0X → lpieces_e0_rX) (c0_r : lpieces_s0X → Bool) (g0_0 : lpieces_s0X → lpieces_e0_0X) (x : lpiecesX) (Q : lpieces_S.Y → Prop) : wpf te E_lsums (lamCons 0 (loopF lpieces_s0 0 ok0 (lpieces_f0 g0_r c0_r g0_0)) lamNil) 1000 Try.f4 (lpieces_S.inp.inj x).tm (lpieces_S.inp.inj x).hp (fnK lpieces_S lpieces_sel Q) (fun _ _ => False) = (lpieces_T ok2 g2_2 ok4 g4_4 ok0 g0_r c0_r g0_0 (x.1.1) (x.1.2.1) (x.1.2.2.1)).wpR Q := by kernel_rfl

theorem lpieces_main (ok2 : lpieces_s2X → Bool) (g2_2 : lpieces_s2X → lpieces_e2_2X) (ok4 : lpieces_s4X → Bool) (g4_4 : lpieces_s4X → lpieces_e4_4X) (ok0 : lpieces_s0X → Bool) (g0_r : lpieces_s0X → lpieces_e0_rX) (c0_r : lpieces_s0X → Bool) (g0_0 : lpieces_s0X → lpieces_e0_0X) (h2 : ∀ s : lpieces_s2X, ok2 s = true → ∃ m e, loopRun (lpieces_U2) m s = some e ∧ (lpieces_f2 g2_2 s).run = some e) (h4 : ∀ s : lpieces_s4X, ok4 s = true → ∃ m e, loopRun (lpieces_U4) m s = some e ∧ (lpieces_f4 g4_4 s).run = some e) (h0 : ∀ s : lpieces_s0X, ok0 s = true → ∃ m e, loopRun (lpieces_U0 ok2 g2_2 ok4 g4_4) m s = some e ∧ (lpieces_f0 g0_r c0_r g0_0 s).run = some e) (pre : lpiecesX → Bool) (F : lpiecesX → OT lpieces_S.Y) (hF : ∀ (x : lpiecesX) oy, pre x = true → (F x).run = some oy → (lpieces_T ok2 g2_2 ok4 g4_4 ok0 g0_r c0_r g0_0 (x.1.1) (x.1.2.1) (x.1.2.2.1)).run = some oy) : SummOk Try.prog 4 (lpieces_S.summ pre F) :=
  fn_tree te_ok E_lsums_ok E_lsums_any (f := 4) (fn := Try.f4) (c := codeOf Try.f4) (by kernel_rfl) (by kernel_rfl) (by kernel_rfl) (S := lpieces_S) (k := 0) (by kernel_rfl) (fun R hR => (lamOk_cons (c := (codeOf Try.f4)) (by kernel_rfl) (id := 0) (by kernel_rfl) (loop_ok te_ok E_lsums_ok E_lsums_any (sh := lpieces_s0) hR (xs := lpieces_x0) (xsMk_small (by kernel_rfl) (by kernel_rfl) hR) xsMk_pan (lamOk_cons (c := (loopOf (codeOf Try.f4) 0)) (by kernel_rfl) (id := 4) (by kernel_rfl) (loop_ok te_ok E_lsums_ok E_lsums_any (sh := lpieces_s4) hR (xs := lpieces_x4) (xsMk_small (by kernel_rfl) (by kernel_rfl) hR) xsMk_pan lamOk_nil (n := 1000) (T := lpieces_U4) (fun s Q => lpieces_q4 s Q) (ok := ok4) (f := lpieces_f4 g4_4) h4) (lamOk_cons (c := (loopOf (codeOf Try.f4) 0)) (by kernel_rfl) (id := 2) (by kernel_rfl) (loop_ok te_ok E_lsums_ok E_lsums_any (sh := lpieces_s2) hR (xs := lpieces_x2) (xsMk_small (by kernel_rfl) (by kernel_rfl) hR) xsMk_pan lamOk_nil (n := 1000) (T := lpieces_U2) (fun s Q => lpieces_q2 s Q) (ok := ok2) (f := lpieces_f2 g2_2) h2) lamOk_nil)) (n := 1000) (T := lpieces_U0 ok2 g2_2 ok4 g4_4) (fun s Q => lpieces_q0 ok2 g2_2 ok4 g4_4 s Q) (ok := ok0) (f := lpieces_f0 g0_r c0_r g0_0) h0) lamOk_nil)) (n := 1000) (sel := lpieces_sel) (fun v o h => by cases h; rfl) (pre := pre) (F := F) (T := fun x => lpieces_T ok2 g2_2 ok4 g4_4 ok0 g0_r c0_r g0_0 (x.1.1) (x.1.2.1) (x.1.2.2.1)) (fun x Q => lpieces_q ok2 g2_2 ok4 g4_4 ok0 g0_r c0_r g0_0 x Q) hF

theorem upto_len {f : Nat → List UInt8 → List UInt8} (hf : ∀ k v, (f k v).length = v.length) (v : List UInt8) : ∀ n, (upto f v n).length = v.length
  | 0 => rfl
  | n + 1 => by simp only [upto, hf, upto_len hf v n]

def lpieces_ok2 (s : lpieces_s2X) : Bool := decide (s.1.2.2.2.2.2.2.2.1 = 0 ∧ s.2.2.2.1.length ≤ 140737488355328)
def lpieces_g2 (s : lpieces_s2X) : lpieces_e2_2X := ((s.1.1, s.1.2.1, s.1.2.2.1, (), (), s.1.2.2.2.2.2.1, ()), (s.2.1, s.2.2.1, s.2.2.2.2.1, ()))
theorem lpieces_h2 : ∀ s : lpieces_s2X, lpieces_ok2 s = true → ∃ m e, loopRun lpieces_U2 m s = some e ∧ (lpieces_f2 lpieces_g2 s).run = some e := by
  rintro ⟨⟨p, n, ps, ⟨⟩, ⟨⟩, i, ⟨⟩, j, ⟨⟩⟩, ⟨d, c1, c2, c3, ⟨⟩⟩⟩ h
  have h' := of_decide_eq_true h
  dsimp only at h'
  obtain ⟨rfl, hl⟩ := h'
  have := (loop_upto (T := lpieces_U2) (fun k o => (((p, n, ps, (), (), i, (), (k : Int), ()), (d, c1, o, c3, ())) : lpieces_s2X)) (fun k o => o.set k 9)
    (fun o => (⟨(.exit 2, lpieces_e2_2), ((p, n, ps, (), (), i, ()), (d, c1, c3, ()))⟩ : LEnd)) c2.length c2 (fun _ o => o.length = c2.length) rfl (fun k o hk ho => ⟨?_, by rw [List.length_set]; exact ho⟩) (fun o ho => ?_)).1
  · obtain ⟨m, hm⟩ := this
    exact ⟨m, _, hm, rfl⟩
  · refine (OT.run_t (decide_eq_true (by dsimp only; omega))).trans ((gd_run ?_).trans ?_)
    · simp only [ho, Int.toNat_natCast, List.all_cons, List.all_nil, Bool.and_true, Bool.and_eq_true]
      exact ⟨inB_of (by omega), decide_eq_true (by omega), inR_of (by omega)⟩
    · simp only [OT.run_ok, Int.toNat_natCast]
      rfl
  · exact OT.run_f (decide_eq_false (by dsimp only; omega))

def lpieces_ok4 (s : lpieces_s4X) : Bool := decide (s.1.2.2.2.2.2.2.2.1 = 0 ∧ s.2.2.2.1.length ≤ 140737488355328)
def lpieces_g4 (s : lpieces_s4X) : lpieces_e4_4X := ((s.1.1, s.1.2.1, s.1.2.2.1, (), (), s.1.2.2.2.2.2.1, ()), (s.2.1, s.2.2.1, s.2.2.2.2.1, ()))
theorem lpieces_h4 : ∀ s : lpieces_s4X, lpieces_ok4 s = true → ∃ m e, loopRun lpieces_U4 m s = some e ∧ (lpieces_f4 lpieces_g4 s).run = some e := by
  rintro ⟨⟨p, n, ps, ⟨⟩, ⟨⟩, i, ⟨⟩, j, ⟨⟩⟩, ⟨d, c1, c2, c3, ⟨⟩⟩⟩ h
  have h' := of_decide_eq_true h
  dsimp only at h'
  obtain ⟨rfl, hl⟩ := h'
  have := (loop_upto (T := lpieces_U4) (fun k o => (((p, n, ps, (), (), i, (), (k : Int), ()), (d, c1, o, c3, ())) : lpieces_s4X)) (fun k o => o.set k 7)
    (fun o => (⟨(.exit 4, lpieces_e4_4), ((p, n, ps, (), (), i, ()), (d, c1, c3, ()))⟩ : LEnd)) c2.length c2 (fun _ o => o.length = c2.length) rfl (fun k o hk ho => ⟨?_, by rw [List.length_set]; exact ho⟩) (fun o ho => ?_)).1
  · obtain ⟨m, hm⟩ := this
    exact ⟨m, _, hm, rfl⟩
  · refine (OT.run_t (decide_eq_true (by dsimp only; omega))).trans ((gd_run ?_).trans ?_)
    · simp only [ho, Int.toNat_natCast, List.all_cons, List.all_nil, Bool.and_true, Bool.and_eq_true]
      exact ⟨inB_of (by omega), decide_eq_true (by omega), inR_of (by omega)⟩
    · simp only [OT.run_ok, Int.toNat_natCast]
      rfl
  · exact OT.run_f (decide_eq_false (by dsimp only; omega))

/-- The digest's state behind these bytes. -/
def stOf (p : List UInt8) (n : Int) (b : List UInt8) : List UInt64 × UInt64 × List UInt8 := writeS (newH p n, 0, []) b
theorem stOf_h (p : List UInt8) (n : Int) (b : List UInt8) : (stOf p n b).1.length = 8 := eatAll_h _ rfl
theorem stOf_w (p : List UInt8) (n : Int) (b : List UInt8) : (stOf p n b).2.2.length ≤ 128 := eatAll_len _
theorem stOf_nil (p : List UInt8) (n : Int) : stOf p n [] = (newH p n, 0, []) := by
  show upto (fun _ s => eat1 s) (newH p n, 0, []) ((([] : List UInt8).length - 1) / 128) = _
  have : (([] : List UInt8).length - 1) / 128 = 0 := by decide
  rw [this]
  rfl
theorem stOf_more (p : List UInt8) (n : Int) (a b : List UInt8) : writeS (ofDig (digT n (stOf p n a).1 (stOf p n a).2.1) (stOf p n a).2.2) b = stOf p n (a ++ b) := by
  rw [ofDig_digT (stOf_h p n a)]
  exact write_write _ a b
theorem stOf_sum {p : List UInt8} {n : Int} {b : List UInt8} (hp : p.length ≤ 16) : sumS n (ofDig (digT n (stOf p n b).1 (stOf p n b).2.1) (stOf p n b).2.2) = refOf p n b := by
  rw [ofDig_digT (stOf_h p n b), refOf_eq hp]
  rfl

/-- Do the pieces' lengths, summed up to one of them, pass the law's bound? -/
def over : Nat → List (List UInt8) → Bool
  | _, [] => false
  | a, x :: r => if 5000 < a + x.length then true else over (a + x.length) r

def pst (p : List UInt8) (n : Int) (ps : List (List UInt8)) (i : Nat) (all : List UInt8) : lpieces_s0X := ((p, n, ps, (), (), (i : Int), ()), (digT n (stOf p n all).1 (stOf p n all).2.1, all, (stOf p n all).2.2, ()))
def pfin (p : List UInt8) (n : Int) (all : List UInt8) : lpieces_e0_0X := ((p, n, (), (), ()), (digT n (stOf p n all).1 (stOf p n all).2.1, all, (stOf p n all).2.2, ()))

theorem goodKey {p : List UInt8} {n : Int} (h : badKey p n = false) : p.length ≤ 16 ∧ 1 ≤ n ∧ n ≤ 64 := by
  simp only [badKey, Bool.or_eq_false_iff, decide_eq_false_iff_not] at h
  omega

theorem bsum_pre_of {p : List UInt8} {n : Int} {b : List UInt8} (h : badKey p n = false) : bsum_pre (((), ()), digT n (stOf p n b).1 (stOf p n b).2.1, (stOf p n b).2.2, ()) = true := by
  have := goodKey h
  exact decide_eq_true ⟨show 0 ≤ n by omega, show n ≤ 64 by omega, stOf_w p n b⟩
theorem bwrite_pre_of {p : List UInt8} {n : Int} {b x : List UInt8} (h : x.length ≤ 5000) : bwrite_pre (((), x, ()), digT n (stOf p n b).1 (stOf p n b).2.1, (stOf p n b).2.2, ()) = true := by
  have := stOf_w p n b
  exact decide_eq_true (show (stOf p n b).2.2.length + x.length ≤ 140737488355328 by omega)
theorem usame_pre_of {a b : List UInt8} (h : a.length ≤ 140737488355328) : usame_pre ((a, b, ()), ()) = true := decide_eq_true h
theorem rsum_pre_of {p : List UInt8} {n : Int} {b : List UInt8} (h : b.length ≤ 1000000000000) : rsum_pre ((p, n, b, ()), ()) = true := decide_eq_true h
theorem ucopy_pre_of {x : List UInt8} (h : x.length ≤ 140737488355328) : ucopy_pre ((x, ()), ()) = true := by
  first | exact decide_eq_true h | rfl

theorem refOf_length {p : List UInt8} {n : Int} {b : List UInt8} (hp : p.length ≤ 16) : (refOf p n b).length = n.toNat := by rw [refOf_eq hp, blakeOf_length]

theorem lpieces_loop {p : List UInt8} {n : Int} {ps : List (List UInt8)} (hk : badKey p n = false) (hps : ps.length ≤ 50) : ∀ (d i : Nat) (all : List UInt8), i + d = ps.length → all.length ≤ 5000 → (∀ x ∈ ps, x.length ≤ 140737488355328) →
    ∃ m, loopRun (lpieces_U0 lpieces_ok2 lpieces_g2 lpieces_ok4 lpieces_g4) m (pst p n ps i all) = some (cond (over all.length (ps.drop i)) ⟨(.ret, lpieces_e0_r), ((true, ()), ())⟩ ⟨(.exit 0, lpieces_e0_0), pfin p n (all ++ (ps.drop i).flatten)⟩)
  | 0, i, all, hi, hl, _ => by
    refine ⟨1, ?_⟩
    have h1 : ps.drop i = [] := List.drop_eq_nil_of_le (by omega)
    rw [h1]
    simp only [over, cond_false, List.flatten_nil, List.append_nil]
    exact loopRun_out (OT.run_f (decide_eq_false (by dsimp only [pst]; omega)))
  | d + 1, i, all, hi, hl, hx => by
    have hlt : i < ps.length := by omega
    have e1 : ps.drop i = ps[i] :: ps.drop (i + 1) := List.drop_eq_getElem_cons hlt
    have g1 : ps.getD i [] = ps[i] := by simp [List.getD_eq_getElem?_getD, hlt]
    have hxl : (ps[i]).length ≤ 140737488355328 := hx _ (List.getElem_mem _)
    have hb : inB (i : Int) ps.length = true := inB_of (by omega)
    have hg := goodKey hk
    generalize hxe : ps[i] = x at *
    have hU : lpieces_U0 lpieces_ok2 lpieces_g2 lpieces_ok4 lpieces_g4 (pst p n ps i all) = lpieces_T0 lpieces_ok2 lpieces_g2 lpieces_ok4 lpieces_g4 p n ps (i : Int) n ((stOf p n all).1.getD 0 0) ((stOf p n all).1.getD 1 0) ((stOf p n all).1.getD 2 0) ((stOf p n all).1.getD 3 0) ((stOf p n all).1.getD 4 0) ((stOf p n all).1.getD 5 0) ((stOf p n all).1.getD 6 0) ((stOf p n all).1.getD 7 0) (stOf p n all).2.1 all (stOf p n all).2.2 := rfl
    by_cases ho : 5000 < all.length + x.length
    · refine ⟨1, ?_⟩
      have hov : over all.length (ps.drop i) = true := by rw [e1]; simp only [over, if_pos ho]
      rw [hov]
      refine loopRun_out ?_
      rw [hU]
      unfold lpieces_T0
      simp only [Int.toNat_natCast, g1]
      refine (OT.run_t (decide_eq_true (by omega))).trans ((gd_run ?_).trans ((OT.run_t (decide_eq_true (by omega))).trans rfl))
      simp only [List.all_cons, List.all_nil, Bool.and_true, Bool.and_eq_true]
      exact ⟨hb, inR_of (by omega)⟩
    · obtain ⟨m, hm⟩ := lpieces_loop hk hps d (i + 1) (all ++ x) (by omega) (by rw [List.length_append]; omega) hx
      have hov : over all.length (ps.drop i) = over (all ++ x).length (ps.drop (i + 1)) := by rw [e1]; simp only [over, if_neg ho, List.length_append]
      have hfl : all ++ (ps.drop i).flatten = (all ++ x) ++ (ps.drop (i + 1)).flatten := by rw [e1, List.flatten_cons, List.append_assoc]
      rw [hov, hfl]
      refine ⟨m + 1, loopRun_more ?_ hm⟩
      have hst := stOf_more p n all x
      rw [hU]
      unfold lpieces_T0
      have hW : writeS (ofDig (n, (stOf p n all).1.getD 0 0, (stOf p n all).1.getD 1 0, (stOf p n all).1.getD 2 0, (stOf p n all).1.getD 3 0, (stOf p n all).1.getD 4 0, (stOf p n all).1.getD 5 0, (stOf p n all).1.getD 6 0, (stOf p n all).1.getD 7 0, (), (stOf p n all).2.1, ()) (stOf p n all).2.2) x = stOf p n (all ++ x) := hst
      have hsum := stOf_sum (n := n) (b := all ++ x) hg.1
      have hl2 : (all ++ x).length ≤ 5000 := by rw [List.length_append]; omega
      have hr := refOf_length (n := n) (b := all ++ x) hg.1
      simp only [Int.toNat_natCast, g1, hW]
      refine (OT.run_t (decide_eq_true (by omega))).trans ((gd_run ?_).trans ((OT.run_f (decide_eq_false (by omega))).trans ((gd_run ?_).trans ((OT.run_f hk).trans ((gd_run ?_).trans ((OT.run_f ?_).trans ((gd_run ?_).trans ?_)))))))
      · simp only [List.all_cons, List.all_nil, Bool.and_true, Bool.and_eq_true]
        exact ⟨hb, inR_of (by omega)⟩
      · simp only [List.all_cons, List.all_nil, Bool.and_true, Bool.and_eq_true]
        refine ⟨hb, ucopy_pre_of hxl, bwrite_pre_of (by omega), decide_eq_true ⟨rfl, hxl⟩, hb, decide_eq_true ?_, bsum_pre_of hk, rsum_pre_of ?_⟩
        · show ((all.length + (ps.getD (i : Int).toNat []).length) * 1 ≤ 140737488355328)
          rw [Int.toNat_natCast, g1]; omega
        · show ((all ++ ps.getD (i : Int).toNat []).length ≤ 1000000000000)
          rw [Int.toNat_natCast, g1]; omega
      · simp only [List.all_cons, List.all_nil, Bool.and_true]
        refine usame_pre_of ?_
        show (sumS n (ofDig (digT n (stOf p n (all ++ x)).1 (stOf p n (all ++ x)).2.1) (stOf p n (all ++ x)).2.2)).length ≤ _
        rw [hsum, hr]; omega
      · show (!decide (sumS n (ofDig (digT n (stOf p n (all ++ x)).1 (stOf p n (all ++ x)).2.1) (stOf p n (all ++ x)).2.2) = refOf p n (all ++ ps.getD (i : Int).toNat []))) = false
        rw [Int.toNat_natCast, g1, hsum]
        simp
      · simp only [List.all_cons, List.all_nil, Bool.and_true, Bool.and_eq_true]
        refine ⟨decide_eq_true ⟨rfl, ?_⟩, inR_of ?_⟩
        · show (sumS n (ofDig (digT n (stOf p n (all ++ x)).1 (stOf p n (all ++ x)).2.1) (stOf p n (all ++ x)).2.2)).length ≤ _
          rw [hsum, hr]; omega
        · show -9223372036854775808 ≤ (i : Int) + 1 ∧ (i : Int) + 1 ≤ 9223372036854775807
          omega
      · show some (Sum.inl (((p, n, ps, (), (), (i : Int) + 1, ()), (digT n (stOf p n (all ++ x)).1 (stOf p n (all ++ x)).2.1, all ++ ps.getD (i : Int).toNat [], (stOf p n (all ++ x)).2.2, ())) : lpieces_s0X)) = _
        rw [Int.toNat_natCast, g1]
        rfl

noncomputable def lpieces_ok0 (s : lpieces_s0X) : Bool := yes (s.1.2.2.2.2.2.1 = 0 ∧ s.2.1 = digT s.1.2.1 (newH s.1.1 s.1.2.1) 0 ∧ s.2.2.1 = [] ∧ s.2.2.2.1 = [] ∧ badKey s.1.1 s.1.2.1 = false ∧ s.1.2.2.1.length ≤ 50 ∧ ∀ x ∈ s.1.2.2.1, x.length ≤ 140737488355328)
def lpieces_g0r (_ : lpieces_s0X) : lpieces_e0_rX := ((true, ()), ())
def lpieces_c0 (s : lpieces_s0X) : Bool := over 0 s.1.2.2.1
def lpieces_g0 (s : lpieces_s0X) : lpieces_e0_0X := pfin s.1.1 s.1.2.1 s.1.2.2.1.flatten
theorem lpieces_h0 : ∀ s : lpieces_s0X, lpieces_ok0 s = true → ∃ m e, loopRun (lpieces_U0 lpieces_ok2 lpieces_g2 lpieces_ok4 lpieces_g4) m s = some e ∧ (lpieces_f0 lpieces_g0r lpieces_c0 lpieces_g0 s).run = some e := by
  rintro ⟨⟨p, n, ps, ⟨⟩, ⟨⟩, i, ⟨⟩⟩, ⟨c0, c1, c2, ⟨⟩⟩⟩ h
  have h' := of_yes h
  dsimp only at h'
  obtain ⟨rfl, rfl, rfl, rfl, hk, hl, hx⟩ := h'
  obtain ⟨m, hm⟩ := lpieces_loop hk hl ps.length 0 [] (by omega) (by simp) hx
  have e0 : pst p n ps 0 [] = ((p, n, ps, (), (), 0, ()), (digT n (newH p n) 0, [], [], ())) := by
    simp only [pst, stOf_nil]
    rfl
  rw [e0] at hm
  refine ⟨m, _, hm, ?_⟩
  simp only [List.drop_zero, List.length_nil, List.nil_append]
  cases hv : over 0 ps
  · refine (OT.run_f hv).trans ?_
    rfl
  · exact (OT.run_t hv).trans rfl

theorem lpieces_ok0_of {p : List UInt8} {n : Int} {ps : List (List UInt8)} (hk : badKey p n = false) (hl : ps.length ≤ 50) (hx : ∀ x ∈ ps, x.length ≤ 140737488355328) : lpieces_ok0 ((p, n, ps, (), (), (0 : Int), ()), (digT n (newH p n) 0, [], [], ())) = true :=
  yes_of ⟨rfl, rfl, rfl, rfl, hk, hl, hx⟩

/-- Where the lengths do not pass the bound, all bytes together are few. -/
theorem over_few : ∀ (a : Nat) (ps : List (List UInt8)), a ≤ 5000 → over a ps = false → a + ps.flatten.length ≤ 5000
  | a, [], h, _ => by simpa using h
  | a, x :: r, h, ho => by
    simp only [over] at ho
    split at ho
    · cases ho
    · have := over_few (a + x.length) r (by omega) ho
      rw [List.flatten_cons, List.length_append]
      omega

def lpieces_pre (x : lpiecesX) : Bool := x.1.2.2.1.all fun l => decide (l.length ≤ 140737488355328)
def lpieces_F (_ : lpiecesX) : OT lpieces_S.Y := .ok ⟨lpieces_o0, ((true, ()), ())⟩

theorem lpieces_ok : SummOk Try.prog 4 (lpieces_S.summ lpieces_pre lpieces_F) := lpieces_main lpieces_ok2 lpieces_g2 lpieces_ok4 lpieces_g4 lpieces_ok0 lpieces_g0r lpieces_c0 lpieces_g0 lpieces_h2 lpieces_h4 lpieces_h0 _ _ fun x oy hp ho => by
  rw [← ho]
  clear ho
  obtain ⟨⟨p, n, ps, ⟨⟩⟩, ⟨⟩⟩ := x
  have hx : ∀ x ∈ ps, x.length ≤ 140737488355328 := fun x h => of_decide_eq_true (List.all_eq_true.1 hp x h)
  unfold lpieces_T
  by_cases hl : (50 : Int) < (ps.length : Int)
  · exact OT.run_t (decide_eq_true hl)
  · refine (OT.run_f (decide_eq_false hl)).trans ?_
    cases hk : badKey p n
    · have hg := goodKey hk
      refine (OT.run_f rfl).trans ((OT.run_f rfl).trans ((gd_run ?_).trans ?_))
      · simp only [List.all_cons, List.all_nil, Bool.and_true]
        exact lpieces_ok0_of hk (by omega) hx
      · cases hv : over 0 ps
        · have hf := over_few 0 ps (by omega) hv
          have hsum := stOf_sum (n := n) (b := ps.flatten) hg.1
          have hr := refOf_length (n := n) (b := ps.flatten) hg.1
          refine (OT.run_f hv).trans ((gd_run ?_).trans ((OT.run_f hk).trans ((gd_run ?_).trans ?_)))
          · simp only [List.all_cons, List.all_nil, Bool.and_true]
            refine rsum_pre_of ?_
            show ps.flatten.length ≤ _
            omega
          · simp only [List.all_cons, List.all_nil, Bool.and_true, Bool.and_eq_true]
            refine ⟨bsum_pre_of hk, usame_pre_of ?_⟩
            show (sumS n (ofDig (digT n (stOf p n ps.flatten).1 (stOf p n ps.flatten).2.1) (stOf p n ps.flatten).2.2)).length ≤ _
            rw [hsum, hr]; omega
          · have hd : decide (sumS n (ofDig (digT n (stOf p n ps.flatten).1 (stOf p n ps.flatten).2.1) (stOf p n ps.flatten).2.2) = refOf p n ps.flatten) = true := decide_eq_true hsum
            show some (⟨lpieces_o0, ((decide (sumS n (ofDig (digT n (stOf p n ps.flatten).1 (stOf p n ps.flatten).2.1) (stOf p n ps.flatten).2.2) = refOf p n ps.flatten), ()), ())⟩ : lpieces_S.Y) = _
            rw [hd]
            rfl
        · exact (OT.run_t hv).trans rfl
    · exact (OT.run_t rfl).trans ((OT.run_t rfl).trans rfl)

def lpieces_summ : Summ := (lpieces_S.summ lpieces_pre lpieces_F)
theorem lpieces_known : SummOk Try.prog 4 lpieces_summ := lpieces_ok
theorem lpieces_smono : MonoOk lpieces_summ := fn_mono

def E_lpieces : Env := envCons 4 lpieces_summ E_lsums
theorem E_lpieces_ok : EnvOk Try.prog E_lpieces := envOk_cons lpieces_known E_lsums_ok
theorem E_lpieces_mono : EnvMono E_lpieces := envMono_cons lpieces_smono E_lsums_mono
theorem E_lpieces_any : AnyOk Try.prog te E_lpieces := any_ok follows te_ok E_lpieces_ok E_lpieces_mono

end Go.Proofs.Ytkngdfhigpjciaa

/- The function sigil/sigillaw03.BlakeTwo: what it makes of its arguments. No statement of a seat is proved here. -/
namespace Go.Proofs.Ytkngdfhigpjciaa
open Sx Go
set_option maxRecDepth 100000

def ltwo_S : FnSpec := ⟨[.val false (.list .u8), .val false (.list .u8), .val false .str], [], true, 0, false⟩

abbrev ltwoX : Type := ((List (UInt8)) × (List (UInt8)) × (List UInt8) × Unit) × (Unit)

def ltwo_o0 : OutSh := ⟨[.val false .bool], [], false⟩

def ltwo_sel : SV → Option OutSh := fun _ => some ltwo_o0

def ltwo_T (a0 : List (UInt8)) (a1 : List (UInt8)) (a2 : List UInt8) : OT ltwo_S.Y :=
  let z0 : Nat := List.length a0
  let z1 : Nat := List.length a1
  let z2 : Int := (↑z0 : Int) + (↑z1 : Int)
  let z3 : Bool := badKey a2 (32 : Int)
  let z4 : Bool := ucopy_pre ((a0, ()), ())
  let z5 : Int × UInt64 × UInt64 × UInt64 × UInt64 × UInt64 × UInt64 × UInt64 × UInt64 × PUnit × UInt64 × PUnit := digT (32 : Int) (newH a2 (32 : Int)) (0 : UInt64)
  let z6 : Int := z5.fst
  let z7 : UInt64 × UInt64 × UInt64 × UInt64 × UInt64 × UInt64 × UInt64 × UInt64 × PUnit × UInt64 × PUnit := z5.snd
  let z8 : UInt64 × UInt64 × UInt64 × UInt64 × UInt64 × UInt64 × UInt64 × PUnit × UInt64 × PUnit := z7.snd
  let z9 : UInt64 × UInt64 × UInt64 × UInt64 × UInt64 × UInt64 × PUnit × UInt64 × PUnit := z8.snd
  let z10 : UInt64 × UInt64 × UInt64 × UInt64 × UInt64 × PUnit × UInt64 × PUnit := z9.snd
  let z11 : UInt64 × UInt64 × UInt64 × UInt64 × PUnit × UInt64 × PUnit := z10.snd
  let z12 : UInt64 × UInt64 × UInt64 × PUnit × UInt64 × PUnit := z11.snd
  let z13 : UInt64 × UInt64 × PUnit × UInt64 × PUnit := z12.snd
  let z14 : UInt64 × PUnit × UInt64 × PUnit := z13.snd
  let z15 : Int × UInt64 × UInt64 × UInt64 × UInt64 × UInt64 × UInt64 × UInt64 × UInt64 × PUnit × UInt64 × PUnit := (z6, z7.fst, z8.fst, z9.fst, z10.fst, z11.fst, z12.fst, z13.fst, z14.fst, (), z14.snd.snd.fst, ())
  let z16 : (Int × UInt64 × UInt64 × UInt64 × UInt64 × UInt64 × UInt64 × UInt64 × UInt64 × PUnit × UInt64 × PUnit) × List UInt8 × PUnit := (z15, [], ())
  let z17 : Bool := ucopy_pre ((a1, ()), ())
  let z18 : PUnit × List UInt8 × PUnit := ((), a1, ())
  let z19 : List UInt64 × UInt64 × List UInt8 := ofDig z15 []
  let z20 : List UInt64 × UInt64 × List UInt8 := writeS z19 a0
  let z21 : UInt64 × List UInt8 := z20.snd
  let z22 : Int × UInt64 × UInt64 × UInt64 × UInt64 × UInt64 × UInt64 × UInt64 × UInt64 × PUnit × UInt64 × PUnit := digT z6 z20.fst z21.fst
  let z23 : Int := z22.fst
  let z24 : UInt64 × UInt64 × UInt64 × UInt64 × UInt64 × UInt64 × UInt64 × UInt64 × PUnit × UInt64 × PUnit := z22.snd
  let z25 : UInt64 × UInt64 × UInt64 × UInt64 × UInt64 × UInt64 × UInt64 × PUnit × UInt64 × PUnit := z24.snd
  let z26 : UInt64 × UInt64 × UInt64 × UInt64 × UInt64 × UInt64 × PUnit × UInt64 × PUnit := z25.snd
  let z27 : UInt64 × UInt64 × UInt64 × UInt64 × UInt64 × PUnit × UInt64 × PUnit := z26.snd
  let z28 : UInt64 × UInt64 × UInt64 × UInt64 × PUnit × UInt64 × PUnit := z27.snd
  let z29 : UInt64 × UInt64 × UInt64 × PUnit × UInt64 × PUnit := z28.snd
  let z30 : UInt64 × UInt64 × PUnit × UInt64 × PUnit := z29.snd
  let z31 : UInt64 × PUnit × UInt64 × PUnit := z30.snd
  let z32 : Int × UInt64 × UInt64 × UInt64 × UInt64 × UInt64 × UInt64 × UInt64 × UInt64 × PUnit × UInt64 × PUnit := (z23, z24.fst, z25.fst, z26.fst, z27.fst, z28.fst, z29.fst, z30.fst, z31.fst, (), z31.snd.snd.fst, ())
  let z33 : List UInt8 := z21.snd
  let z34 : Bool := decide ((z0 + z1) * (1 : Nat) ≤ (140737488355328 : Nat))
  let z35 : Bool := bsumf_pre ((a2, (32 : Int), a0 ++ a1, ()), ())
  let z36 : PUnit × PUnit := ((), ())
  let z37 : List UInt64 × UInt64 × List UInt8 := writeS z19 a1
  let z38 : UInt64 × List UInt8 := z37.snd
  let z39 : Int × UInt64 × UInt64 × UInt64 × UInt64 × UInt64 × UInt64 × UInt64 × UInt64 × PUnit × UInt64 × PUnit := digT z6 z37.fst z38.fst
  let z40 : Int := z39.fst
  let z41 : UInt64 × UInt64 × UInt64 × UInt64 × UInt64 × UInt64 × UInt64 × UInt64 × PUnit × UInt64 × PUnit := z39.snd
  let z42 : UInt64 × UInt64 × UInt64 × UInt64 × UInt64 × UInt64 × UInt64 × PUnit × UInt64 × PUnit := z41.snd
  let z43 : UInt64 × UInt64 × UInt64 × UInt64 × UInt64 × UInt64 × PUnit × UInt64 × PUnit := z42.snd
  let z44 : UInt64 × UInt64 × UInt64 × UInt64 × UInt64 × PUnit × UInt64 × PUnit := z43.snd
  let z45 : UInt64 × UInt64 × UInt64 × UInt64 × PUnit × UInt64 × PUnit := z44.snd
  let z46 : UInt64 × UInt64 × UInt64 × PUnit × UInt64 × PUnit := z45.snd
  let z47 : UInt64 × UInt64 × PUnit × UInt64 × PUnit := z46.snd
  let z48 : UInt64 × PUnit × UInt64 × PUnit := z47.snd
  let z49 : Int × UInt64 × UInt64 × UInt64 × UInt64 × UInt64 × UInt64 × UInt64 × UInt64 × PUnit × UInt64 × PUnit := (z40, z41.fst, z42.fst, z43.fst, z44.fst, z45.fst, z46.fst, z47.fst, z48.fst, (), z48.snd.snd.fst, ())
  let z50 : List UInt8 := z38.snd
  let z51 : Bool := bsum_pre (z36, z49, z50, ())
  let z52 : List UInt8 := blakeOf a2 (32 : Int) a1
  let z53 : Bool := decide (sumS z40 (ofDig z49 z50) = z52)
  let z54 : List UInt64 × UInt64 × List UInt8 := writeS (ofDig z32 z33) a1
  let z55 : UInt64 × List UInt8 := z54.snd
  let z56 : Int × UInt64 × UInt64 × UInt64 × UInt64 × UInt64 × UInt64 × UInt64 × UInt64 × PUnit × UInt64 × PUnit := digT z23 z54.fst z55.fst
  let z57 : Int := z56.fst
  let z58 : UInt64 × UInt64 × UInt64 × UInt64 × UInt64 × UInt64 × UInt64 × UInt64 × PUnit × UInt64 × PUnit := z56.snd
  let z59 : UInt64 × UInt64 × UInt64 × UInt64 × UInt64 × UInt64 × UInt64 × PUnit × UInt64 × PUnit := z58.snd
  let z60 : UInt64 × UInt64 × UInt64 × UInt64 × UInt64 × UInt64 × PUnit × UInt64 × PUnit := z59.snd
  let z61 : UInt64 × UInt64 × UInt64 × UInt64 × UInt64 × PUnit × UInt64 × PUnit := z60.snd
  let z62 : UInt64 × UInt64 × UInt64 × UInt64 × PUnit × UInt64 × PUnit := z61.snd
  let z63 : UInt64 × UInt64 × UInt64 × PUnit × UInt64 × PUnit := z62.snd
  let z64 : UInt64 × UInt64 × PUnit × UInt64 × PUnit := z63.snd
  let z65 : UInt64 × PUnit × UInt64 × PUnit := z64.snd
  let z66 : Int × UInt64 × UInt64 × UInt64 × UInt64 × UInt64 × UInt64 × UInt64 × UInt64 × PUnit × UInt64 × PUnit := (z57, z58.fst, z59.fst, z60.fst, z61.fst, z62.fst, z63.fst, z64.fst, z65.fst, (), z65.snd.snd.fst, ())
  let z67 : List UInt8 := z55.snd
  let z68 : Bool := bsum_pre (z36, z66, z67, ())
  (.br (decide ((16 : Int) < (↑(List.length a2) : Int)))
  (.ok ⟨ltwo_o0, ((true, ()), ())⟩)
  (gd [inR z2] (.br (decide ((5000 : Int) < z2))
    (.ok ⟨ltwo_o0, ((true, ()), ())⟩)
    (.br (z3)
      (.br (z3)
        (.ok ⟨ltwo_o0, ((false, ()), ())⟩)
        (.ok ⟨ltwo_o0, ((false, ()), ())⟩))
      (.br (z3)
        (.ok ⟨ltwo_o0, ((false, ()), ())⟩)
        (gd [z4, bwrite_pre (((), a0, ()), z16), z17, bwrite_pre (z18, z16), z17, bwrite_pre (z18, z32, z33, ()), z17, bsumf_pre ((a2, (32 : Int), a1, ()), ())] (.br (z3)
          (gd [z4, z34, z35] (.br (z3)
            (gd [z51] (.ok ⟨ltwo_o0, ((false, ()), ())⟩))
            (gd [z51] (.ok ⟨ltwo_o0, ((false, ()), ())⟩))))
          (gd [z4, z34, z35] (.br (z3)
            (gd [z51] (.br (z53)
              (gd [z68] (.ok ⟨ltwo_o0, ((false, ()), ())⟩))
              (.ok ⟨ltwo_o0, ((false, ()), ())⟩)))
            (gd [z51] (.br (z53)
              (gd [z68] (.br (decide (sumS z57 (ofDig z66 z67) = blakeOf a2 (32 : Int) (a0 ++ a1)))
                (.ok ⟨ltwo_o0, (((↑(List.length z52) : Int) == (32 : Int), ()), ())⟩)
                (.ok ⟨ltwo_o0, ((false, ()), ())⟩)))
              (.ok ⟨ltwo_o0, ((false, ()), ())⟩))))))))))))

theorem ltwo_q (x : ltwoX) (Q : ltwo_S.Y → Prop) : wpf te E_lpieces lamNil 1000 Try.f5 (ltwo_S.inp.inj x).tm (ltwo_S.inp.inj x).hp (fnK ltwo_S ltwo_sel Q) (fun _ _ => False) = (ltwo_T (x.1.1) (x.1.2.1) (x.1.2.2.1)).wpR Q := by kernel_rfl

theorem ltwo_main (pre : ltwoX → Bool) (F : ltwoX → OT ltwo_S.Y) (hF : ∀ (x : ltwoX) oy, pre x = true → (F x).run = some oy → (ltwo_T (x.1.1) (x.1.2.1) (x.1.2.2.1)).run = some oy) : SummOk Try.prog 5 (ltwo_S.summ pre F) :=
  fn_tree te_ok E_lpieces_ok E_lpieces_any (f := 5) (fn := Try.f5) (c := codeOf Try.f5) (by kernel_rfl) (by kernel_rfl) (by kernel_rfl) (S := ltwo_S) (k := 0) (by kernel_rfl) (fun R hR => lamOk_nil) (n := 1000) (sel := ltwo_sel) (fun v o h => by cases h; rfl) (pre := pre) (F := F) (T := fun x => ltwo_T (x.1.1) (x.1.2.1) (x.1.2.2.1)) (fun x Q => ltwo_q x Q) hF

def ltwo_pre (x : ltwoX) : Bool := decide (x.1.1.length ≤ 140737488355328 ∧ x.1.2.1.length ≤ 140737488355328)
def ltwo_F (_ : ltwoX) : OT ltwo_S.Y := .ok ⟨ltwo_o0, ((true, ()), ())⟩

theorem st_new (p : List UInt8) (n : Int) (b : List UInt8) : writeS (ofDig (digT n (newH p n) 0) []) b = stOf p n b := by
  rw [ofDig_digT (newH_length p n)]
  rfl
theorem bwrite_new {p : List UInt8} {n : Int} {x : List UInt8} (h : x.length ≤ 5000) : bwrite_pre (((), x, ()), digT n (newH p n) 0, [], ()) = true :=
  decide_eq_true (show ([] : List UInt8).length + x.length ≤ 140737488355328 by simp only [List.length_nil]; omega)
theorem st_blake {p : List UInt8} {n : Int} {b : List UInt8} : sumS n (ofDig (digT n (stOf p n b).1 (stOf p n b).2.1) (stOf p n b).2.2) = blakeOf p n b := by
  rw [ofDig_digT (stOf_h p n b)]
  rfl
theorem badKey32 {p : List UInt8} (h : p.length ≤ 16) : badKey p 32 = false := by
  unfold badKey
  rw [decide_eq_false (by omega : ¬ (16 : Int) < (p.length : Int))]
  rfl

/-- A digest on its way, as the walk has it. -/
abbrev onWay (p : List UInt8) (a : List UInt8) : List UInt64 × UInt64 × List UInt8 := writeS (ofDig (digT 32 (newH p 32) 0) []) a
abbrev onWay2 (p : List UInt8) (a b : List UInt8) : List UInt64 × UInt64 × List UInt8 := writeS (ofDig (digT 32 (onWay p a).1 (onWay p a).2.1) (onWay p a).2.2) b

theorem ltwo_ok : SummOk Try.prog 5 (ltwo_S.summ ltwo_pre ltwo_F) := ltwo_main _ _ fun x oy hp ho => by
  rw [← ho]
  clear ho
  obtain ⟨⟨a, b, p, ⟨⟩⟩, ⟨⟩⟩ := x
  obtain ⟨ha, hb⟩ := of_decide_eq_true hp
  dsimp only at ha hb
  unfold ltwo_T
  by_cases h1 : (16 : Int) < (p.length : Int)
  · exact OT.run_t (decide_eq_true h1)
  · refine (OT.run_f (decide_eq_false h1)).trans ?_
    have hk : badKey p 32 = false := badKey32 (by omega)
    by_cases h2 : (5000 : Int) < (a.length : Int) + (b.length : Int)
    · refine (gd_run ?_).trans (OT.run_t (decide_eq_true h2))
      simp only [List.all_cons, List.all_nil, Bool.and_true]
      exact inR_of (by omega)
    · have e1 : onWay p b = stOf p 32 b := st_new p 32 b
      have e2 : onWay p a = stOf p 32 a := st_new p 32 a
      have e3 : onWay2 p a b = stOf p 32 (a ++ b) := by
        unfold onWay2
        rw [e2]
        exact stOf_more p 32 a b
      have hwrite : bwrite_pre (((), b, ()), digT 32 (onWay p a).1 (onWay p a).2.1, (onWay p a).2.2, ()) = true := by
        rw [e2]
        exact bwrite_pre_of (by omega)
      have hs1 : bsum_pre (((), ()), digT 32 (onWay p b).1 (onWay p b).2.1, (onWay p b).2.2, ()) = true := by
        rw [e1]
        exact bsum_pre_of hk
      have hs2 : bsum_pre (((), ()), digT 32 (onWay2 p a b).1 (onWay2 p a b).2.1, (onWay2 p a b).2.2, ()) = true := by
        rw [e3]
        exact bsum_pre_of hk
      have h53 : decide (sumS 32 (ofDig (digT 32 (onWay p b).1 (onWay p b).2.1) (onWay p b).2.2) = blakeOf p 32 b) = true := by
        rw [e1]
        exact decide_eq_true st_blake
      have h70 : decide (sumS 32 (ofDig (digT 32 (onWay2 p a b).1 (onWay2 p a b).2.1) (onWay2 p a b).2.2) = blakeOf p 32 (a ++ b)) = true := by
        rw [e3]
        exact decide_eq_true st_blake
      have hl : (((blakeOf p 32 b).length : Int) == 32) = true := by
        rw [blakeOf_length]
        rfl
      have hf : bsumf_pre ((p, 32, b, ()), ()) = true := decide_eq_true (show b.length ≤ 140737488355328 by omega)
      have hf2 : bsumf_pre ((p, 32, a ++ b, ()), ()) = true := decide_eq_true (show (a ++ b).length ≤ 140737488355328 by rw [List.length_append]; omega)
      refine (gd_run ?_).trans ((OT.run_f (decide_eq_false h2)).trans ((OT.run_f hk).trans ((OT.run_f hk).trans ((gd_run ?_).trans ((OT.run_f hk).trans ((gd_run ?_).trans ((OT.run_f hk).trans ((gd_run ?_).trans ((OT.run_t h53).trans ((gd_run ?_).trans ((OT.run_t h70).trans ?_)))))))))))
      · simp only [List.all_cons, List.all_nil, Bool.and_true]
        exact inR_of (by omega)
      · simp only [List.all_cons, List.all_nil, Bool.and_true, Bool.and_eq_true]
        exact ⟨ucopy_pre_of ha, bwrite_new (by omega), ucopy_pre_of hb, bwrite_new (by omega), ucopy_pre_of hb, hwrite, ucopy_pre_of hb, hf⟩
      · simp only [List.all_cons, List.all_nil, Bool.and_true, Bool.and_eq_true]
        exact ⟨ucopy_pre_of ha, decide_eq_true (by omega), hf2⟩
      · simp only [List.all_cons, List.all_nil, Bool.and_true]
        exact hs1
      · simp only [List.all_cons, List.all_nil, Bool.and_true]
        exact hs2
      · show some (⟨ltwo_o0, ((((blakeOf p 32 b).length : Int) == 32, ()), ())⟩ : ltwo_S.Y) = _
        rw [hl]
        rfl

def ltwo_summ : Summ := (ltwo_S.summ ltwo_pre ltwo_F)
theorem ltwo_known : SummOk Try.prog 5 ltwo_summ := ltwo_ok
theorem ltwo_smono : MonoOk ltwo_summ := fn_mono

def E_ltwo : Env := envCons 5 ltwo_summ E_lpieces
theorem E_ltwo_ok : EnvOk Try.prog E_ltwo := envOk_cons ltwo_known E_lpieces_ok
theorem E_ltwo_mono : EnvMono E_ltwo := envMono_cons ltwo_smono E_lpieces_mono
theorem E_ltwo_any : AnyOk Try.prog te E_ltwo := any_ok follows te_ok E_ltwo_ok E_ltwo_mono

end Go.Proofs.Ytkngdfhigpjciaa

/- The function sigil/field.Encode: what it makes of its arguments. No statement of a seat is proved here. -/
namespace Go.Proofs.Ytkngdfhigpjciaa
open Sx Go
set_option maxRecDepth 100000

def fencode_S : FnSpec := ⟨[.val false .int, .val true .elem], [], true, 0, false⟩

abbrev fencodeX : Type := ((Int) × (Elem) × Unit) × (Unit)

def fencode_s0 : Shape := ⟨39, [(3, .ptr 0 0 0), (7, .own 1), (21, .val false .int), (22, .val false .int)], [(0, .row .u64), (1, .row .u8)], 0, true⟩

abbrev fencode_s0X : Type := ((Unit) × (Unit) × (Int) × (Int) × Unit) × ((List (UInt64)) × (List (UInt8)) × Unit)

def fencode_e0_0 : Shape := ⟨39, [(7, .own 0)], [(0, .row .u8)], 0, true⟩

abbrev fencode_e0_0X : Type := ((Unit) × Unit) × ((List (UInt8)) × Unit)

def fencode_x0 : SE → Option Shape := xsMk [(0, fencode_e0_0)] none

def fencode_T0 (a21 : Int) (a22 : Int) (c0 : List (UInt64)) (c1 : List (UInt8)) : OT (Sum fencode_s0X LEnd) :=
  let z0 : Int := Int.tdiv a22 (8 : Int)
  let z1 : Int := (8 : Int) * Int.tmod a22 (8 : Int)
  let z2 : Nat := List.length c1
  let z3 : Nat := Int.toNat a22
  (.br (decide (a22 < a21))
  (gd [true && inR z0, inB z0 (4 : Nat), decide (Int.toNat z0 + (0 : Nat) < List.length c0), inR z1, decide ((0 : Int) ≤ z1), inB a22 z2, decide (z3 < z2), inR (a22 + (1 : Int))] (.ok (.inl (((), ((), (a21, (a22 + (1 : Int), ())))), (c0, (List.set c1 z3 (UInt64.toUInt8 (shr64 (List.getD c0 (Int.toNat z0 + (0 : Nat)) (0 : UInt64)) z1)), ()))))))
  (.ok (.inr ⟨(.exit 0, fencode_e0_0), (((), ()), (c1, ()))⟩)))

def fencode_U0 (s : fencode_s0X) : OT (Sum fencode_s0X LEnd) := fencode_T0 (s.1.2.2.1) (s.1.2.2.2.1) (s.2.1) (s.2.2.1)

theorem fencode_q0 (s : fencode_s0X) (Q : Sum fencode_s0X LEnd → Prop) : wps te E_ltwo lamNil 1000 (loopOf (codeOf Try.f40) 0) (fencode_s0.inj s) (stepK fencode_s0 fencode_x0 (Q : Sum fencode_s0.T LEnd → Prop)) = (fencode_U0 s).wpR Q := by kernel_rfl

def fencode_f0 (g0_0 : fencode_s0X → fencode_e0_0X) (s : fencode_s0X) : OT LEnd := (.ok ⟨(.exit 0, fencode_e0_0), g0_0 s⟩)

def fencode_o0 : OutSh := ⟨[.own 0], [(0, .row .u8)], false⟩

def fencode_sel : SV → Option OutSh := fun _ => some fencode_o0

def fencode_T (ok0 : fencode_s0X → Bool) (g0_0 : fencode_s0X → fencode_e0_0X) (a0 : Int) (a1 : Elem) : OT fencode_S.Y :=
  let z0 : Elem × Int × UInt64 × UInt64 × Elem := numOf (Int.toNat a0)
  let z1 : Elem := ofN (Elem.nat a1 % Elem.nat z0.fst)
  let z2 : (PUnit × PUnit × Int × Int × PUnit) × List UInt64 × List UInt8 × PUnit := (((), (), (32 : Int), (0 : Int), ()), [z1.w0, z1.w1, z1.w2, z1.w3], List.replicate (32 : Nat) (0 : UInt8), ())
  (.br (sortOk a0)
  (gd [fred_pre ((z0, a1, ()), ()), ok0 z2] (.ok ⟨fencode_o0, (((), ()), ((g0_0 z2).snd.fst, ()))⟩))
  (.ok ⟨fencode_o0, (((), ()), ([], ()))⟩))

theorem fencode_q (ok0 : fencode_s0X → Bool) (g0_0 : fencode_s0X → fencode_e0_0X) (x : fencodeX) (Q : fencode_S.Y → Prop) : wpf te E_ltwo (lamCons 0 (loopF fencode_s0 0 ok0 (fencode_f0 g0_0)) lamNil) 1000 Try.f40 (fencode_S.inp.inj x).tm (fencode_S.inp.inj x).hp (fnK fencode_S fencode_sel Q) (fun _ _ => False) = (fencode_T ok0 g0_0 (x.1.1) (x.1.2.1)).wpR Q := by kernel_rfl

theorem fencode_main (ok0 : fencode_s0X → Bool) (g0_0 : fencode_s0X → fencode_e0_0X) (h0 : ∀ s : fencode_s0X, ok0 s = true → ∃ m e, loopRun (fencode_U0) m s = some e ∧ (fencode_f0 g0_0 s).run = some e) (pre : fencodeX → Bool) (F : fencodeX → OT fencode_S.Y) (hF : ∀ (x : fencodeX) oy, pre x = true → (F x).run = some oy → (fencode_T ok0 g0_0 (x.1.1) (x.1.2.1)).run = some oy) : SummOk Try.prog 40 (fencode_S.summ pre F) :=
  fn_tree te_ok E_ltwo_ok E_ltwo_any (f := 40) (fn := Try.f40) (c := codeOf Try.f40) (by kernel_rfl) (by kernel_rfl) (by kernel_rfl) (S := fencode_S) (k := 0) (by kernel_rfl) (fun R hR => (lamOk_cons (c := (codeOf Try.f40)) (by kernel_rfl) (id := 0) (by kernel_rfl) (loop_ok te_ok E_ltwo_ok E_ltwo_any (sh := fencode_s0) hR (xs := fencode_x0) (xsMk_small (by kernel_rfl) (by kernel_rfl) hR) xsMk_pan lamOk_nil (n := 1000) (T := fencode_U0) (fun s Q => fencode_q0 s Q) (ok := ok0) (f := fencode_f0 g0_0) h0) lamOk_nil)) (n := 1000) (sel := fencode_sel) (fun v o h => by cases h; rfl) (pre := pre) (F := F) (T := fun x => fencode_T ok0 g0_0 (x.1.1) (x.1.2.1)) (fun x Q => fencode_q ok0 g0_0 x Q) hF

/-- A number's bytes, the least first. -/
def encB (e : Elem) : List UInt8 := upto (fun k o => o.set k (UInt64.toUInt8 (shr64 ((lst e).getD (k / 8) 0) (8 * ((k % 8 : Nat) : Int))))) (List.replicate 32 0) 32

def fencode_ok0 (s : fencode_s0X) : Bool := decide (s.1.2.2.1 = 32 ∧ s.1.2.2.2.1 = 0 ∧ s.2.1.length = 4 ∧ s.2.2.1 = List.replicate 32 0)
def fencode_g0 (s : fencode_s0X) : fencode_e0_0X := (((), ()), (encB (elemOf s.2.1), ()))
theorem fencode_h0 : ∀ s : fencode_s0X, fencode_ok0 s = true → ∃ m e, loopRun fencode_U0 m s = some e ∧ (fencode_f0 fencode_g0 s).run = some e := by
  rintro ⟨⟨⟨⟩, ⟨⟩, n, i, ⟨⟩⟩, ⟨h, o, ⟨⟩⟩⟩ hh
  have h' := of_decide_eq_true hh
  dsimp only at h'
  obtain ⟨rfl, rfl, hl, rfl⟩ := h'
  obtain ⟨e, rfl⟩ : ∃ e, h = lst e := ⟨elemOf h, (lst_elemOf hl).symm⟩
  have := (loop_upto (T := fencode_U0) (fun i o => ((((), (), (32 : Int), (i : Int), ()), (lst e, o, ())) : fencode_s0X)) (fun k o => o.set k (UInt64.toUInt8 (shr64 ((lst e).getD (k / 8) 0) (8 * ((k % 8 : Nat) : Int)))))
    (fun o => (⟨(.exit 0, fencode_e0_0), (((), ()), (o, ()))⟩ : LEnd)) 32 (List.replicate 32 0) (fun _ o => o.length = 32) (by simp) (fun i o hi ho => ⟨?_, by rw [List.length_set]; exact ho⟩) (fun o ho => ?_)).1
  · obtain ⟨m, hm⟩ := this
    exact ⟨m, _, hm, rfl⟩
  · have t1 : Int.tdiv (i : Int) 8 = ((i / 8 : Nat) : Int) := by rw [Int.tdiv_eq_ediv_of_nonneg (by omega)]; omega
    have t2 : Int.tmod (i : Int) 8 = ((i % 8 : Nat) : Int) := by rw [Int.tmod_eq_emod_of_nonneg (by omega)]; omega
    refine (OT.run_t (decide_eq_true (by dsimp only; omega))).trans ((gd_run ?_).trans ?_)
    · simp only [t1, t2, lst_length, ho, Int.toNat_natCast, List.all_cons, List.all_nil, Bool.and_true, Bool.and_eq_true]
      exact ⟨⟨trivial, inR_of (by omega)⟩, inB_of (by omega), decide_eq_true (by omega), inR_of (by omega), decide_eq_true (by omega), inB_of (by omega), decide_eq_true (by omega), inR_of (by omega)⟩
    · simp only [OT.run_ok, t1, t2, Int.toNat_natCast, Nat.add_zero]
      rfl
  · exact OT.run_f (decide_eq_false (by dsimp only; omega))

theorem fencode_ok0_of (e : Elem) : fencode_ok0 (((), (), 32, 0, ()), (lst e, List.replicate 32 0, ())) = true := decide_eq_true ⟨rfl, rfl, rfl, rfl⟩

theorem fencode_fin (z : Elem) : (OT.ok ⟨fencode_o0, (((), ()), ((fencode_g0 (((), (), 32, 0, ()), ([z.w0, z.w1, z.w2, z.w3], List.replicate 32 0, ()))).2.1, ()))⟩ : OT fencode_S.Y) = .ok ⟨fencode_o0, (((), ()), (encB z, ()))⟩ := by
  have e : elemOf [z.w0, z.w1, z.w2, z.w3] = z := rfl
  simp only [fencode_g0, e]

def fencode_pre (_ : fencodeX) : Bool := true
def fencode_F (x : fencodeX) : OT fencode_S.Y := .br (sortOk x.1.1) (.ok ⟨fencode_o0, (((), ()), (encB (ofN (x.1.2.1.nat % (numOf x.1.1.toNat).1.nat)), ()))⟩) (.ok ⟨fencode_o0, (((), ()), ([], ()))⟩)
theorem fencode_ok : SummOk Try.prog 40 (fencode_S.summ fencode_pre fencode_F) := fencode_main fencode_ok0 fencode_g0 fencode_h0 _ _ fun x oy hp ho => by
  rw [← ho]
  clear ho
  obtain ⟨⟨s, a, ⟨⟩⟩, ⟨⟩⟩ := x
  cases hs : sortOk s
  · exact (OT.run_f hs).trans (OT.run_f (b := sortOk s) hs).symm
  · refine (OT.run_t hs).trans ((gd_run ?_).trans ?_)
    · simp only [List.all_cons, List.all_nil, Bool.and_true, Bool.and_eq_true]
      exact ⟨numOk_of hs, fencode_ok0_of _⟩
    · refine Eq.trans ?_ (OT.run_t (b := sortOk s) hs).symm
      exact congrArg OT.run (fencode_fin (ofN (a.nat % (numOf s.toNat).1.nat)))

def fencode_summ : Summ := (fencode_S.summ fencode_pre fencode_F)
theorem fencode_known : SummOk Try.prog 40 fencode_summ := fencode_ok
theorem fencode_smono : MonoOk fencode_summ := fn_mono

def E_fencode : Env := envCons 40 fencode_summ E_ltwo
theorem E_fencode_ok : EnvOk Try.prog E_fencode := envOk_cons fencode_known E_ltwo_ok
theorem E_fencode_mono : EnvMono E_fencode := envMono_cons fencode_smono E_ltwo_mono
theorem E_fencode_any : AnyOk Try.prog te E_fencode := any_ok follows te_ok E_fencode_ok E_fencode_mono

end Go.Proofs.Ytkngdfhigpjciaa

/- The function sigil/sigilref00.CopyElems: what it makes of its arguments. No statement of a seat is proved here. -/
namespace Go.Proofs.Ytkngdfhigpjciaa
open Sx Go
set_option maxRecDepth 100000

def ucopye_S : FnSpec := ⟨[.val false (.list .elem)], [], true, 0, false⟩

abbrev ucopyeX : Type := ((List (Elem)) × Unit) × (Unit)

def ucopye_o0 : OutSh := ⟨[.own 0], [(0, .row .elem)], false⟩

def ucopye_sel : SV → Option OutSh := fun _ => some ucopye_o0

def ucopye_T (a0 : List (Elem)) : OT ucopye_S.Y :=
  (gd [decide (((0 : Nat) + List.length a0) * (32 : Nat) ≤ (140737488355328 : Nat))] (.ok ⟨ucopye_o0, (((), ()), ([] ++ a0, ()))⟩))

theorem ucopye_q (x : ucopyeX) (Q : ucopye_S.Y → Prop) : wpf te E_fencode lamNil 1000 Try.f17 (ucopye_S.inp.inj x).tm (ucopye_S.inp.inj x).hp (fnK ucopye_S ucopye_sel Q) (fun _ _ => False) = (ucopye_T (x.1.1)).wpR Q := by kernel_rfl

theorem ucopye_main (pre : ucopyeX → Bool) (F : ucopyeX → OT ucopye_S.Y) (hF : ∀ (x : ucopyeX) oy, pre x = true → (F x).run = some oy → (ucopye_T (x.1.1)).run = some oy) : SummOk Try.prog 17 (ucopye_S.summ pre F) :=
  fn_tree te_ok E_fencode_ok E_fencode_any (f := 17) (fn := Try.f17) (c := codeOf Try.f17) (by kernel_rfl) (by kernel_rfl) (by kernel_rfl) (S := ucopye_S) (k := 0) (by kernel_rfl) (fun R hR => lamOk_nil) (n := 1000) (sel := ucopye_sel) (fun v o h => by cases h; rfl) (pre := pre) (F := F) (T := fun x => ucopye_T (x.1.1)) (fun x Q => ucopye_q x Q) hF

def ucopye_pre (x : ucopyeX) : Bool := decide (x.1.1.length * 32 ≤ 140737488355328)
def ucopye_F (x : ucopyeX) : OT ucopye_S.Y := .ok ⟨ucopye_o0, (((), ()), (x.1.1, ()))⟩
theorem ucopye_ok : SummOk Try.prog 17 (ucopye_S.summ ucopye_pre ucopye_F) := ucopye_main _ _ fun x oy hp ho => by
  rw [← ho]
  have hp' : x.1.1.length * 32 ≤ 140737488355328 := of_decide_eq_true hp
  refine (gd_run ?_).trans rfl
  simp only [List.all_cons, List.all_nil, Bool.and_true]
  exact decide_eq_true (by omega)

def ucopye_summ : Summ := (ucopye_S.summ ucopye_pre ucopye_F)
theorem ucopye_known : SummOk Try.prog 17 ucopye_summ := ucopye_ok
theorem ucopye_smono : MonoOk ucopye_summ := fn_mono

def E_ucopye : Env := envCons 17 ucopye_summ E_fencode
theorem E_ucopye_ok : EnvOk Try.prog E_ucopye := envOk_cons ucopye_known E_fencode_ok
theorem E_ucopye_mono : EnvMono E_ucopye := envMono_cons ucopye_smono E_fencode_mono
theorem E_ucopye_any : AnyOk Try.prog te E_ucopye := any_ok follows te_ok E_ucopye_ok E_ucopye_mono

end Go.Proofs.Ytkngdfhigpjciaa

/- The function slices.Clone[[]sigil/api.Elem,sigil/api.Elem]: what it makes of its arguments. No statement of a seat is proved here. -/
namespace Go.Proofs.Ytkngdfhigpjciaa
open Sx Go
set_option maxRecDepth 100000

def eclone_S : FnSpec := ⟨[.val false (.list .elem)], [], true, 0, false⟩

abbrev ecloneX : Type := ((List (Elem)) × Unit) × (Unit)

def eclone_o0 : OutSh := ⟨[.own 0], [(0, .row .elem)], false⟩

def eclone_sel : SV → Option OutSh := fun _ => some eclone_o0

def eclone_T (a0 : List (Elem)) : OT eclone_S.Y :=
  (gd [decide (((0 : Nat) + List.length a0) * (32 : Nat) ≤ (140737488355328 : Nat))] (.ok ⟨eclone_o0, (((), ()), ([] ++ a0, ()))⟩))
def eclone_T' : OT eclone_S.Y := .ok ⟨eclone_o0, (((), ()), ([], ()))⟩

theorem eclone_q (x : ecloneX) (Q : eclone_S.Y → Prop) : wpf te E_ucopye lamNil 1000 Try.f31 (eclone_S.inp.inj x).tm (eclone_S.inp.inj x).hp (fnK eclone_S eclone_sel Q) (fun _ _ => False) =
    Bool.rec (motive := fun _ => Prop) ((eclone_T x.1.1).wpR Q) (eclone_T'.wpR Q ∧ (eclone_T x.1.1).wpR Q) (List.isEmpty x.1.1) := by kernel_rfl

def eclone_pre (x : ecloneX) : Bool := decide (x.1.1.length * 32 ≤ 140737488355328)
def eclone_F (x : ecloneX) : OT eclone_S.Y := .ok ⟨eclone_o0, (((), ()), (x.1.1, ()))⟩

theorem eclone_ok : SummOk Try.prog 31 (eclone_S.summ eclone_pre eclone_F) := by
  refine fn_ok te_ok E_ucopye_ok E_ucopye_any (f := 31) (fn := Try.f31) (c := codeOf Try.f31) (by kernel_rfl) (by kernel_rfl) (by kernel_rfl) (S := eclone_S) (k := 0) (by kernel_rfl) (Λ := lamNil) (fun R hR => lamOk_nil) (n := 1000) fun x oy hp hr => ⟨fnK eclone_S eclone_sel (fun z => z = oy), fun _ _ => False, ?_, fun v hp hq => ?_, fun _ _ hq => hq.elim⟩
  · refine (eclone_q x _).mpr ?_
    cases hr
    have hp' : x.1.1.length * 32 ≤ 140737488355328 := of_decide_eq_true hp
    have h1 : (eclone_T x.1.1).wpR (fun z => z = ⟨eclone_o0, (((), ()), (x.1.1, ()))⟩) := by
      rw [OT.wpR_eq]
      refine OT.wp_of_run (gd_run ?_) rfl
      simp only [List.all_cons, List.all_nil, Bool.and_true]
      exact decide_eq_true (by omega)
    cases hb : List.isEmpty x.1.1
    · exact h1
    · refine ⟨?_, h1⟩
      rw [List.isEmpty_iff.1 hb]
      rfl
  · unfold fnK at hq
    split at hq
    · rename_i o ho
      split at hq
      · rename_i y hy
        subst hq
        exact ⟨by cases ho; rfl, hy⟩
      · exact hq.elim
    · exact hq.elim

def eclone_summ : Summ := (eclone_S.summ eclone_pre eclone_F)
theorem eclone_known : SummOk Try.prog 31 eclone_summ := eclone_ok
theorem eclone_smono : MonoOk eclone_summ := fn_mono

def E_eclone : Env := envCons 31 eclone_summ E_ucopye
theorem E_eclone_ok : EnvOk Try.prog E_eclone := envOk_cons eclone_known E_ucopye_ok
theorem E_eclone_mono : EnvMono E_eclone := envMono_cons eclone_smono E_ucopye_mono
theorem E_eclone_any : AnyOk Try.prog te E_eclone := any_ok follows te_ok E_eclone_ok E_eclone_mono

end Go.Proofs.Ytkngdfhigpjciaa

/- The function sigil/tape.Purse: what it makes of its arguments. No statement of a seat is proved here. -/
namespace Go.Proofs.Ytkngdfhigpjciaa
open Sx Go
set_option maxRecDepth 100000

def tpurse_S : FnSpec := ⟨[.val false (.list .elem)], [], true, 0, false⟩

abbrev tpurseX : Type := ((List (Elem)) × Unit) × (Unit)

def tpurse_o0 : OutSh := ⟨[.ptr 0 0 0], [(0, .cells [.own 1]), (1, .row .elem)], false⟩

def tpurse_sel : SV → Option OutSh := fun _ => some tpurse_o0

def tpurse_T (a0 : List (Elem)) : OT tpurse_S.Y :=
  (gd [eclone_pre ((a0, ()), ())] (.ok ⟨tpurse_o0, (((), ()), (((), ()), (a0, ())))⟩))

theorem tpurse_q (x : tpurseX) (Q : tpurse_S.Y → Prop) : wpf te E_eclone lamNil 1000 Try.f18 (tpurse_S.inp.inj x).tm (tpurse_S.inp.inj x).hp (fnK tpurse_S tpurse_sel Q) (fun _ _ => False) = (tpurse_T (x.1.1)).wpR Q := by kernel_rfl

theorem tpurse_main (pre : tpurseX → Bool) (F : tpurseX → OT tpurse_S.Y) (hF : ∀ (x : tpurseX) oy, pre x = true → (F x).run = some oy → (tpurse_T (x.1.1)).run = some oy) : SummOk Try.prog 18 (tpurse_S.summ pre F) :=
  fn_tree te_ok E_eclone_ok E_eclone_any (f := 18) (fn := Try.f18) (c := codeOf Try.f18) (by kernel_rfl) (by kernel_rfl) (by kernel_rfl) (S := tpurse_S) (k := 0) (by kernel_rfl) (fun R hR => lamOk_nil) (n := 1000) (sel := tpurse_sel) (fun v o h => by cases h; rfl) (pre := pre) (F := F) (T := fun x => tpurse_T (x.1.1)) (fun x Q => tpurse_q x Q) hF

def tpurse_pre (x : tpurseX) : Bool := decide (x.1.1.length * 32 ≤ 140737488355328)
def tpurse_F (x : tpurseX) : OT tpurse_S.Y := .ok ⟨tpurse_o0, (((), ()), (((), ()), (x.1.1, ())))⟩
theorem tpurse_ok : SummOk Try.prog 18 (tpurse_S.summ tpurse_pre tpurse_F) := tpurse_main _ _ fun x oy hp ho => by
  rw [← ho]
  have hp' : x.1.1.length * 32 ≤ 140737488355328 := of_decide_eq_true hp
  refine (gd_run ?_).trans rfl
  simp only [List.all_cons, List.all_nil, Bool.and_true]
  exact decide_eq_true hp'

def tpurse_summ : Summ := (thawOut [] 0 (tpurse_S.summ tpurse_pre tpurse_F))
theorem tpurse_known : SummOk Try.prog 18 tpurse_summ := (thawOut_ok tpurse_ok)
theorem tpurse_smono : MonoOk tpurse_summ := (thawOut_mono fn_mono)

def E_tpurse : Env := envCons 18 tpurse_summ E_eclone
theorem E_tpurse_ok : EnvOk Try.prog E_tpurse := envOk_cons tpurse_known E_eclone_ok
theorem E_tpurse_mono : EnvMono E_tpurse := envMono_cons tpurse_smono E_eclone_mono
theorem E_tpurse_any : AnyOk Try.prog te E_tpurse := any_ok follows te_ok E_tpurse_ok E_tpurse_mono

end Go.Proofs.Ytkngdfhigpjciaa

/- The function (*sigil/tape.Coins).Next: what it makes of its arguments. No statement of a seat is proved here. -/
namespace Go.Proofs.Ytkngdfhigpjciaa
open Sx Go
set_option maxRecDepth 100000

def tnext_S : FnSpec := ⟨[.ptr 0 0 0], [(0, .cells [.val false (.list .elem)])], false, 1, true⟩

abbrev tnextX : Type := ((Unit) × Unit) × (((List (Elem)) × Unit) × Unit)

def tnext_o0 : OutSh := ⟨[.val true .elem, .val false .int], [(0, .cells [.val false (.list .elem)])], false⟩

def tnext_sel : SV → Option OutSh := fun _ => some tnext_o0

def tnext_T (c0_0 : List (Elem)) : OT tnext_S.Y :=
  let z0 : Nat := List.length c0_0
  let z1 : Int := (↑z0 : Int)
  let z2 : Elem := { w0 := (0 : UInt64), w1 := (0 : UInt64), w2 := (0 : UInt64), w3 := (0 : UInt64) }
  (.br (z1 == (0 : Int))
  (.ok ⟨tnext_o0, ((z2, ((81 : Int), ())), ((c0_0, ()), ()))⟩)
  (gd [inB (0 : Int) z0, between (1 : Int) z1 z0] (.ok ⟨tnext_o0, ((List.getD c0_0 (0 : Nat) z2, ((0 : Int), ())), ((List.drop (1 : Nat) c0_0, ()), ()))⟩)))

theorem tnext_q (x : tnextX) (Q : tnext_S.Y → Prop) : wpf te E_tpurse lamNil 1000 Try.f19 (tnext_S.inp.inj x).tm (tnext_S.inp.inj x).hp (fnK tnext_S tnext_sel Q) (fun _ _ => False) = (tnext_T (x.2.1.1)).wpR Q := by kernel_rfl

theorem tnext_main (pre : tnextX → Bool) (F : tnextX → OT tnext_S.Y) (hF : ∀ (x : tnextX) oy, pre x = true → (F x).run = some oy → (tnext_T (x.2.1.1)).run = some oy) : SummOk Try.prog 19 (tnext_S.summ pre F) :=
  fn_tree te_ok E_tpurse_ok E_tpurse_any (f := 19) (fn := Try.f19) (c := codeOf Try.f19) (by kernel_rfl) (by kernel_rfl) (by kernel_rfl) (S := tnext_S) (k := 1) (by kernel_rfl) (fun R hR => lamOk_nil) (n := 1000) (sel := tnext_sel) (fun v o h => by cases h; rfl) (pre := pre) (F := F) (T := fun x => tnext_T (x.2.1.1)) (fun x Q => tnext_q x Q) hF

/-- A list's next coin: it, the error, and those behind it. -/
def coinOf (l : List Elem) : Elem × Int × List Elem := match l with
  | [] => (⟨0, 0, 0, 0⟩, 81, [])
  | x :: r => (x, 0, r)

def tnext_pre (x : tnextX) : Bool := decide (x.2.1.1.length ≤ 140737488355328)
def tnext_F (x : tnextX) : OT tnext_S.Y := .ok ⟨tnext_o0, (((coinOf x.2.1.1).1, ((coinOf x.2.1.1).2.1, ())), (((coinOf x.2.1.1).2.2, ()), ()))⟩
theorem tnext_ok : SummOk Try.prog 19 (tnext_S.summ tnext_pre tnext_F) := tnext_main _ _ fun x oy hp ho => by
  rw [← ho]
  clear ho
  obtain ⟨⟨⟨⟩, ⟨⟩⟩, ⟨⟨l, ⟨⟩⟩, ⟨⟩⟩⟩ := x
  have hl : l.length ≤ 140737488355328 := of_decide_eq_true hp
  cases l with
  | nil => rfl
  | cons y r =>
    have h0 : (((y :: r).length : Int) == 0) = false := by simp; omega
    refine (OT.run_f h0).trans ((gd_run ?_).trans rfl)
    simp only [List.length_cons] at hl ⊢
    simp only [List.all_cons, List.all_nil, Bool.and_true, Bool.and_eq_true]
    exact ⟨inB_of (by omega), between_of (by omega)⟩

def tnext_summ : Summ := (tnext_S.summ tnext_pre tnext_F)
theorem tnext_known : SummOk Try.prog 19 tnext_summ := tnext_ok
theorem tnext_smono : MonoOk tnext_summ := fn_mono

def E_tnext : Env := envCons 19 tnext_summ E_tpurse
theorem E_tnext_ok : EnvOk Try.prog E_tnext := envOk_cons tnext_known E_tpurse_ok
theorem E_tnext_mono : EnvMono E_tnext := envMono_cons tnext_smono E_tpurse_mono
theorem E_tnext_any : AnyOk Try.prog te E_tnext := any_ok follows te_ok E_tnext_ok E_tnext_mono

end Go.Proofs.Ytkngdfhigpjciaa

/- The function (*sigil/tape.Coins).Next: what it makes of its arguments. No statement of a seat is proved here. -/
namespace Go.Proofs.Ytkngdfhigpjciaa
open Sx Go
set_option maxRecDepth 100000

def tnextb_S : FnSpec := ⟨[.ptr 0 0 1], [(0, .cells [.val false .int, .val false (.list .elem)])], false, 1, true⟩

abbrev tnextbX : Type := ((Unit) × Unit) × (((Int) × (List (Elem)) × Unit) × Unit)

def tnextb_o0 : OutSh := ⟨[.val true .elem, .val false .int], [(0, .cells [.val false .int, .val false (.list .elem)])], false⟩

def tnextb_sel : SV → Option OutSh := fun _ => some tnextb_o0

def tnextb_T (c0_0 : Int) (c0_1 : List (Elem)) : OT tnextb_S.Y :=
  let z0 : Nat := List.length c0_1
  let z1 : Int := (↑z0 : Int)
  let z2 : Elem := { w0 := (0 : UInt64), w1 := (0 : UInt64), w2 := (0 : UInt64), w3 := (0 : UInt64) }
  (.br (z1 == (0 : Int))
  (.ok ⟨tnextb_o0, ((z2, ((81 : Int), ())), ((c0_0, (c0_1, ())), ()))⟩)
  (gd [inB (0 : Int) z0, between (1 : Int) z1 z0] (.ok ⟨tnextb_o0, ((List.getD c0_1 (0 : Nat) z2, ((0 : Int), ())), ((c0_0, (List.drop (1 : Nat) c0_1, ())), ()))⟩)))

theorem tnextb_q (x : tnextbX) (Q : tnextb_S.Y → Prop) : wpf te E_tnext lamNil 1000 Try.f19 (tnextb_S.inp.inj x).tm (tnextb_S.inp.inj x).hp (fnK tnextb_S tnextb_sel Q) (fun _ _ => False) = (tnextb_T (x.2.1.1) (x.2.1.2.1)).wpR Q := by kernel_rfl

theorem tnextb_main (pre : tnextbX → Bool) (F : tnextbX → OT tnextb_S.Y) (hF : ∀ (x : tnextbX) oy, pre x = true → (F x).run = some oy → (tnextb_T (x.2.1.1) (x.2.1.2.1)).run = some oy) : SummOk Try.prog 19 (tnextb_S.summ pre F) :=
  fn_tree te_ok E_tnext_ok E_tnext_any (f := 19) (fn := Try.f19) (c := codeOf Try.f19) (by kernel_rfl) (by kernel_rfl) (by kernel_rfl) (S := tnextb_S) (k := 1) (by kernel_rfl) (fun R hR => lamOk_nil) (n := 1000) (sel := tnextb_sel) (fun v o h => by cases h; rfl) (pre := pre) (F := F) (T := fun x => tnextb_T (x.2.1.1) (x.2.1.2.1)) (fun x Q => tnextb_q x Q) hF

def tnextb_pre (x : tnextbX) : Bool := decide (x.2.1.2.1.length ≤ 140737488355328)
def tnextb_F (x : tnextbX) : OT tnextb_S.Y := .ok ⟨tnextb_o0, (((coinOf x.2.1.2.1).1, ((coinOf x.2.1.2.1).2.1, ())), ((x.2.1.1, ((coinOf x.2.1.2.1).2.2, ())), ()))⟩
theorem tnextb_ok : SummOk Try.prog 19 (tnextb_S.summ tnextb_pre tnextb_F) := tnextb_main _ _ fun x oy hp ho => by
  rw [← ho]
  clear ho
  obtain ⟨⟨⟨⟩, ⟨⟩⟩, ⟨⟨s, l, ⟨⟩⟩, ⟨⟩⟩⟩ := x
  have hl : l.length ≤ 140737488355328 := of_decide_eq_true hp
  cases l with
  | nil => rfl
  | cons y r =>
    have h0 : (((y :: r).length : Int) == 0) = false := by simp; omega
    refine (OT.run_f h0).trans ((gd_run ?_).trans rfl)
    simp only [List.length_cons] at hl ⊢
    simp only [List.all_cons, List.all_nil, Bool.and_true, Bool.and_eq_true]
    exact ⟨inB_of (by omega), between_of (by omega)⟩

def tnextb_summ : Summ := (byOff tnext_summ (tnextb_S.summ tnextb_pre tnextb_F))
theorem tnextb_known : SummOk Try.prog 19 tnextb_summ := (byOff_ok tnext_known tnextb_ok)
theorem tnextb_smono : MonoOk tnextb_summ := (byOff_mono tnext_smono fn_mono)

def E_tnextb : Env := envCons 19 tnextb_summ E_tnext
theorem E_tnextb_ok : EnvOk Try.prog E_tnextb := envOk_cons tnextb_known E_tnext_ok
theorem E_tnextb_mono : EnvMono E_tnextb := envMono_cons tnextb_smono E_tnext_mono
theorem E_tnextb_any : AnyOk Try.prog te E_tnextb := any_ok follows te_ok E_tnextb_ok E_tnextb_mono

end Go.Proofs.Ytkngdfhigpjciaa

/- The function (*sigil/tape.taped).take: what it makes of its arguments. No statement of a seat is proved here. -/
namespace Go.Proofs.Ytkngdfhigpjciaa
open Sx Go
set_option maxRecDepth 100000

def ttake_S : FnSpec := ⟨[.ptr 0 0 0, .val false .u8, .val false (.list .u8)], [(0, .cells [.val false .int, .val false (.list .elem)])], false, 1, true⟩

abbrev ttakeX : Type := ((Unit) × (UInt8) × (List (UInt8)) × Unit) × (((Int) × (List (Elem)) × Unit) × Unit)

def ttake_o0 : OutSh := ⟨[], [(0, .cells [.val false .int, .val false (.list .elem)])], false⟩

def ttake_sel : SV → Option OutSh := fun _ => some ttake_o0

def ttake_T (a1 : UInt8) (a2 : List (UInt8)) (c0_0 : Int) (c0_1 : List (Elem)) : OT ttake_S.Y :=
  (.ok ⟨ttake_o0, ((), ((c0_0, (c0_1, ())), ()))⟩)

theorem ttake_q (x : ttakeX) (Q : ttake_S.Y → Prop) : wpf te E_tnextb lamNil 1000 Try.f68 (ttake_S.inp.inj x).tm (ttake_S.inp.inj x).hp (fnK ttake_S ttake_sel Q) (fun _ _ => False) = (ttake_T (x.1.2.1) (x.1.2.2.1) (x.2.1.1) (x.2.1.2.1)).wpR Q := by kernel_rfl

theorem ttake_main (pre : ttakeX → Bool) (F : ttakeX → OT ttake_S.Y) (hF : ∀ (x : ttakeX) oy, pre x = true → (F x).run = some oy → (ttake_T (x.1.2.1) (x.1.2.2.1) (x.2.1.1) (x.2.1.2.1)).run = some oy) : SummOk Try.prog 68 (ttake_S.summ pre F) :=
  fn_tree te_ok E_tnextb_ok E_tnextb_any (f := 68) (fn := Try.f68) (c := codeOf Try.f68) (by kernel_rfl) (by kernel_rfl) (by kernel_rfl) (S := ttake_S) (k := 1) (by kernel_rfl) (fun R hR => lamOk_nil) (n := 1000) (sel := ttake_sel) (fun v o h => by cases h; rfl) (pre := pre) (F := F) (T := fun x => ttake_T (x.1.2.1) (x.1.2.2.1) (x.2.1.1) (x.2.1.2.1)) (fun x Q => ttake_q x Q) hF

def ttake_pre (_ : ttakeX) : Bool := true
def ttake_F (x : ttakeX) : OT ttake_S.Y := .ok ⟨ttake_o0, ((), ((x.2.1.1, (x.2.1.2.1, ())), ()))⟩
theorem ttake_ok : SummOk Try.prog 68 (ttake_S.summ ttake_pre ttake_F) := ttake_main _ _ fun x oy hp ho => ho

def ttake_summ : Summ := (ttake_S.summ ttake_pre ttake_F)
theorem ttake_known : SummOk Try.prog 68 ttake_summ := ttake_ok
theorem ttake_smono : MonoOk ttake_summ := fn_mono

def E_ttake : Env := envCons 68 ttake_summ E_tnextb
theorem E_ttake_ok : EnvOk Try.prog E_ttake := envOk_cons ttake_known E_tnextb_ok
theorem E_ttake_mono : EnvMono E_ttake := envMono_cons ttake_smono E_tnextb_mono
theorem E_ttake_any : AnyOk Try.prog te E_ttake := any_ok follows te_ok E_ttake_ok E_ttake_mono

end Go.Proofs.Ytkngdfhigpjciaa

/- The function (*sigil/tape.taped).next: what it makes of its arguments. No statement of a seat is proved here. -/
namespace Go.Proofs.Ytkngdfhigpjciaa
open Sx Go
set_option maxRecDepth 100000

def tnext2_S : FnSpec := ⟨[.ptr 0 0 0], [(0, .cells [.val false .int, .val false (.list .elem)])], false, 1, true⟩

abbrev tnext2X : Type := ((Unit) × Unit) × (((Int) × (List (Elem)) × Unit) × Unit)

def tnext2_o0 : OutSh := ⟨[.val true .elem, .val false .int], [(0, .cells [.val false .int, .val false (.list .elem)])], false⟩

def tnext2_sel : SV → Option OutSh := fun _ => some tnext2_o0

def tnext2_T (c0_0 : Int) (c0_1 : List (Elem)) : OT tnext2_S.Y :=
  let z0 : Elem × Int × List Elem := coinOf c0_1
  let z1 : Elem := { w0 := (0 : UInt64), w1 := (0 : UInt64), w2 := (0 : UInt64), w3 := (0 : UInt64) }
  let z2 : Int × List Elem := z0.snd
  let z3 : Int := z2.fst
  let z4 : List Elem := z2.snd
  (gd [tnextb_pre (((), ()), (c0_0, c0_1, ()), ())] (.br (sortOk c0_0)
  (.ok ⟨tnext2_o0, ((addP (pS c0_0) z0.fst z1, (z3, ())), ((c0_0, (z4, ())), ()))⟩)
  (.ok ⟨tnext2_o0, ((z1, (z3, ())), ((c0_0, (z4, ())), ()))⟩)))

theorem tnext2_q (x : tnext2X) (Q : tnext2_S.Y → Prop) : wpf te E_ttake lamNil 1000 Try.f67 (tnext2_S.inp.inj x).tm (tnext2_S.inp.inj x).hp (fnK tnext2_S tnext2_sel Q) (fun _ _ => False) = (tnext2_T (x.2.1.1) (x.2.1.2.1)).wpR Q := by kernel_rfl

theorem tnext2_main (pre : tnext2X → Bool) (F : tnext2X → OT tnext2_S.Y) (hF : ∀ (x : tnext2X) oy, pre x = true → (F x).run = some oy → (tnext2_T (x.2.1.1) (x.2.1.2.1)).run = some oy) : SummOk Try.prog 67 (tnext2_S.summ pre F) :=
  fn_tree te_ok E_ttake_ok E_ttake_any (f := 67) (fn := Try.f67) (c := codeOf Try.f67) (by kernel_rfl) (by kernel_rfl) (by kernel_rfl) (S := tnext2_S) (k := 1) (by kernel_rfl) (fun R hR => lamOk_nil) (n := 1000) (sel := tnext2_sel) (fun v o h => by cases h; rfl) (pre := pre) (F := F) (T := fun x => tnext2_T (x.2.1.1) (x.2.1.2.1)) (fun x Q => tnext2_q x Q) hF

def tnext2_pre (x : tnext2X) : Bool := sortOk x.2.1.1 && decide (x.2.1.2.1.length ≤ 140737488355328)
def tnext2_F (x : tnext2X) : OT tnext2_S.Y := .ok ⟨tnext2_o0, ((addP (pS x.2.1.1) (coinOf x.2.1.2.1).1 ⟨0, 0, 0, 0⟩, ((coinOf x.2.1.2.1).2.1, ())), ((x.2.1.1, ((coinOf x.2.1.2.1).2.2, ())), ()))⟩
theorem tnext2_ok : SummOk Try.prog 67 (tnext2_S.summ tnext2_pre tnext2_F) := tnext2_main _ _ fun x oy hp ho => by
  rw [← ho]
  clear ho
  obtain ⟨⟨⟨⟩, ⟨⟩⟩, ⟨⟨s, l, ⟨⟩⟩, ⟨⟩⟩⟩ := x
  have hp' : (sortOk s && decide (l.length ≤ 140737488355328)) = true := hp
  rw [Bool.and_eq_true] at hp'
  refine (gd_run ?_).trans ((OT.run_t hp'.1).trans rfl)
  simp only [List.all_cons, List.all_nil, Bool.and_true]
  exact hp'.2

def tnext2_summ : Summ := (tnext2_S.summ tnext2_pre tnext2_F)
theorem tnext2_known : SummOk Try.prog 67 tnext2_summ := tnext2_ok
theorem tnext2_smono : MonoOk tnext2_summ := fn_mono

def E_tnext2 : Env := envCons 67 tnext2_summ E_ttake
theorem E_tnext2_ok : EnvOk Try.prog E_tnext2 := envOk_cons tnext2_known E_ttake_ok
theorem E_tnext2_mono : EnvMono E_tnext2 := envMono_cons tnext2_smono E_ttake_mono
theorem E_tnext2_any : AnyOk Try.prog te E_tnext2 := any_ok follows te_ok E_tnext2_ok E_tnext2_mono

end Go.Proofs.Ytkngdfhigpjciaa

/- The function sigil/tape.open: what it makes of its arguments. No statement of a seat is proved here. -/
namespace Go.Proofs.Ytkngdfhigpjciaa
open Sx Go
set_option maxRecDepth 100000

def topen_S : FnSpec := ⟨[.val false .int, .val true (.prod .int (.list .elem))], [], true, 0, false⟩

abbrev topenX : Type := ((Int) × ((Int × List (Elem))) × Unit) × (Unit)

def topen_o0 : OutSh := ⟨[.niface, .val false .int], [], false⟩

def topen_o1 : OutSh := ⟨[.ifp 93 0, .val false .int], [(0, .cells [.val false .int, .own 1]), (1, .row .elem)], false⟩

def topen_o2 : OutSh := ⟨[.ifp 96 0, .val false .int], [(0, .cells [.val false .int, .ptr 1 0 0]), (1, .cells [.val false .int, .val false .u64, .val false .u64, .val false .u64, .val false .u64, .val false .u64, .val false .u64, .val false .u64, .val false .u64, .own 2, .val false .u64]), (2, .row .u8)], false⟩

def topen_outs : List OutSh := [topen_o0, topen_o1, topen_o2]

def topen_T (a0 : Int) (a1 : (Int × List (Elem))) : OT topen_S.Y :=
  let z0 : Bool := decide ((100000 : Int) < (↑(List.length a1.snd) : Int))
  let z1 : Bool := eclone_pre ((a1.snd, ()), ())
  let z2 : Int := ixor a0 (1 : Int)
  (.br (decide (a0 < (0 : Int)))
  (.ok ⟨topen_o0, (((), ((40 : Int), ())), ())⟩)
  (.br (decide ((3 : Int) < a0))
    (.ok ⟨topen_o0, (((), ((40 : Int), ())), ())⟩)
    (.br (!a1.fst == (0 : Int))
      (.br (!a1.fst == (1 : Int))
        (.ok ⟨topen_o0, (((), ((80 : Int), ())), ())⟩)
        (.br (z0)
          (.ok ⟨topen_o0, (((), ((81 : Int), ())), ())⟩)
          (.br (a1.fst == (1 : Int))
            (gd [z1] (.ok ⟨topen_o1, (((), ((0 : Int), ())), ((z2, ((), ())), (a1.snd, ())))⟩))
            (.ok ⟨topen_o2, (((), ((0 : Int), ())), ((z2, ((), ())), (((64 : Int), ((7640891576939301192 : UInt64), ((13503953896175478587 : UInt64), ((4354685564936845355 : UInt64), ((11912009170470909681 : UInt64), ((5840696475078001361 : UInt64), ((11170449401992604703 : UInt64), ((7924071207369364504 : UInt64), ((3427420097777323800 : UInt64), ((), ((0 : UInt64), ()))))))))))), ([], ()))))⟩))))
      (.br (z0)
        (.ok ⟨topen_o0, (((), ((81 : Int), ())), ())⟩)
        (.br (a1.fst == (1 : Int))
          (gd [z1] (.ok ⟨topen_o1, (((), ((0 : Int), ())), ((z2, ((), ())), (a1.snd, ())))⟩))
          (.ok ⟨topen_o2, (((), ((0 : Int), ())), ((z2, ((), ())), (((64 : Int), ((7640891576939301192 : UInt64), ((13503953896175478587 : UInt64), ((4354685564936845355 : UInt64), ((11912009170470909681 : UInt64), ((5840696475078001361 : UInt64), ((11170449401992604703 : UInt64), ((7924071207369364504 : UInt64), ((3427420097777323800 : UInt64), ((), ((0 : UInt64), ()))))))))))), ([], ()))))⟩))))))

theorem topen_q (x : topenX) (Q : topen_S.Y → Prop) : wpf te E_tnext2 lamNil 1000 Try.f38 (topen_S.inp.inj x).tm (topen_S.inp.inj x).hp (fnKL topen_S topen_outs Q) (fun _ _ => False) = (topen_T (x.1.1) (x.1.2.1)).wpR Q := by kernel_rfl

theorem topen_main (pre : topenX → Bool) (F : topenX → OT topen_S.Y) (hF : ∀ (x : topenX) oy, pre x = true → (F x).run = some oy → (topen_T (x.1.1) (x.1.2.1)).run = some oy) : SummOk Try.prog 38 (topen_S.summ pre F) :=
  fn_treeL te_ok E_tnext2_ok E_tnext2_any (f := 38) (fn := Try.f38) (c := codeOf Try.f38) (by kernel_rfl) (by kernel_rfl) (by kernel_rfl) (S := topen_S) (k := 0) (by kernel_rfl) (fun R hR => lamOk_nil) (n := 1000) (outs := topen_outs) (by kernel_rfl) (pre := pre) (F := F) (T := fun x => topen_T (x.1.1) (x.1.2.1)) (fun x Q => topen_q x Q) hF

/-- The error of a talk that is begun. -/
def openErr (c mode : Int) (n : Nat) : Int := cond (sortOk c) (cond ((mode == 0) || (mode == 1)) (cond (decide ((100000 : Int) < (n : Int))) 81 0) 80) 40
def tapeDig : Int × UInt64 × UInt64 × UInt64 × UInt64 × UInt64 × UInt64 × UInt64 × UInt64 × Unit × UInt64 × Unit := (64, 7640891576939301192, 13503953896175478587, 4354685564936845355, 11912009170470909681, 5840696475078001361, 11170449401992604703, 7924071207369364504, 3427420097777323800, (), 0, ())
def topen_pre (_ : topenX) : Bool := true
def topen_F (x : topenX) : OT topen_S.Y := .br (openErr x.1.1 x.1.2.1.1 x.1.2.1.2.length == 0)
  (.br (x.1.2.1.1 == 1) (.ok ⟨topen_o1, (((), ((0 : Int), ())), ((ixor x.1.1 1, ((), ())), (x.1.2.1.2, ())))⟩) (.ok ⟨topen_o2, (((), ((0 : Int), ())), ((ixor x.1.1 1, ((), ())), (tapeDig, ([], ()))))⟩))
  (.ok ⟨topen_o0, (((), (openErr x.1.1 x.1.2.1.1 x.1.2.1.2.length, ())), ())⟩)

theorem topen_ok : SummOk Try.prog 38 (topen_S.summ topen_pre topen_F) := topen_main _ _ fun x oy _ ho => by
  rw [← ho]
  clear ho
  obtain ⟨⟨c, ⟨mode, l⟩, ⟨⟩⟩, ⟨⟩⟩ := x
  unfold topen_T
  cases hs : sortOk c
  · have he : openErr c mode l.length = 40 := by unfold openErr; rw [hs]; rfl
    have hF : (topen_F ((c, (mode, l), ()), ())).run = some ⟨topen_o0, (((), ((40 : Int), ())), ())⟩ := by
      unfold topen_F
      rw [he]
      rfl
    rw [hF]
    by_cases h1 : c < 0
    · exact OT.run_t (decide_eq_true h1)
    · refine (OT.run_f (decide_eq_false h1)).trans (OT.run_t (decide_eq_true ?_))
      by_cases h2 : 3 < c
      · exact h2
      · have : sortOk c = true := by
          simp only [sortOk, Bool.and_eq_true, decide_eq_true_eq]
          omega
        rw [this] at hs; cases hs
  · have hc : 0 ≤ c ∧ c < 4 := by simpa [sortOk] using hs
    refine (OT.run_f (decide_eq_false (by dsimp only; omega))).trans ((OT.run_f (decide_eq_false (by dsimp only; omega))).trans ?_)
    by_cases h0 : mode = 0
    · subst h0
      refine (OT.run_f rfl).trans ?_
      cases hl : decide ((100000 : Int) < (l.length : Int))
      · have he : openErr c 0 l.length = 0 := by unfold openErr; rw [hs, hl]; rfl
        have hF : (topen_F ((c, (0, l), ()), ())).run = some ⟨topen_o2, (((), ((0 : Int), ())), ((ixor c 1, ((), ())), (tapeDig, ([], ()))))⟩ := by
          unfold topen_F
          rw [he]
          rfl
        rw [hF]
        exact (OT.run_f rfl).trans ((OT.run_f rfl).trans rfl)
      · have he : openErr c 0 l.length = 81 := by unfold openErr; rw [hs, hl]; rfl
        have hF : (topen_F ((c, (0, l), ()), ())).run = some ⟨topen_o0, (((), ((81 : Int), ())), ())⟩ := by
          unfold topen_F
          rw [he]
          rfl
        rw [hF]
        exact (OT.run_t rfl).trans rfl
    · by_cases h1 : mode = 1
      · subst h1
        refine (OT.run_t rfl).trans ((OT.run_f rfl).trans ?_)
        cases hl : decide ((100000 : Int) < (l.length : Int))
        · have he : openErr c 1 l.length = 0 := by unfold openErr; rw [hs, hl]; rfl
          have hF : (topen_F ((c, (1, l), ()), ())).run = some ⟨topen_o1, (((), ((0 : Int), ())), ((ixor c 1, ((), ())), (l, ())))⟩ := by
            unfold topen_F
            rw [he]
            rfl
          rw [hF]
          refine (OT.run_f rfl).trans ((OT.run_t rfl).trans ((gd_run ?_).trans rfl))
          have hl' : ¬ (100000 : Int) < (l.length : Int) := of_decide_eq_false hl
          simp only [List.all_cons, List.all_nil, Bool.and_true]
          exact decide_eq_true (show l.length * 32 ≤ 140737488355328 by omega)
        · have he : openErr c 1 l.length = 81 := by unfold openErr; rw [hs, hl]; rfl
          have hF : (topen_F ((c, (1, l), ()), ())).run = some ⟨topen_o0, (((), ((81 : Int), ())), ())⟩ := by
            unfold topen_F
            rw [he]
            rfl
          rw [hF]
          exact (OT.run_t rfl).trans rfl
      · have b0 : (mode == 0) = false := by simpa using h0
        have b1 : (mode == 1) = false := by simpa using h1
        have he : openErr c mode l.length = 80 := by unfold openErr; rw [hs, b0, b1]; rfl
        have hF : (topen_F ((c, (mode, l), ()), ())).run = some ⟨topen_o0, (((), ((80 : Int), ())), ())⟩ := by
          unfold topen_F
          rw [he]
          rfl
        rw [hF]
        exact (OT.run_t (by simp [b0])).trans ((OT.run_t (by simp [b1])).trans rfl)

def topen_summ : Summ := (topen_S.summ topen_pre topen_F)
theorem topen_known : SummOk Try.prog 38 topen_summ := topen_ok
theorem topen_smono : MonoOk topen_summ := fn_mono

def E_topen : Env := envCons 38 topen_summ E_tnext2
theorem E_topen_ok : EnvOk Try.prog E_topen := envOk_cons topen_known E_tnext2_ok
theorem E_topen_mono : EnvMono E_topen := envMono_cons topen_smono E_tnext2_mono
theorem E_topen_any : AnyOk Try.prog te E_topen := any_ok follows te_ok E_topen_ok E_topen_mono

end Go.Proofs.Ytkngdfhigpjciaa

/- The function sigil/tape.Write: what it makes of its arguments. No statement of a seat is proved here. -/
namespace Go.Proofs.Ytkngdfhigpjciaa
open Sx Go
set_option maxRecDepth 100000

def twrite_S : FnSpec := ⟨[.val false .int, .val true (.prod .int (.list .elem))], [], true, 0, false⟩

abbrev twriteX : Type := ((Int) × ((Int × List (Elem))) × Unit) × (Unit)

def twrite_o0 : OutSh := ⟨[.ptr 0 0 0, .val false .int], [(0, .cells [.val false .int, .ifp 93 1, .own 2]), (1, .cells [.val false .int, .own 3]), (2, .row .u8), (3, .row .elem)], false⟩

def twrite_o1 : OutSh := ⟨[.ptr 0 0 0, .val false .int], [(0, .cells [.val false .int, .ifp 96 1, .own 2]), (1, .cells [.val false .int, .ptr 3 0 0]), (2, .row .u8), (3, .cells [.val false .int, .val false .u64, .val false .u64, .val false .u64, .val false .u64, .val false .u64, .val false .u64, .val false .u64, .val false .u64, .own 4, .val false .u64]), (4, .row .u8)], false⟩

def twrite_o2 : OutSh := ⟨[.nilp, .val false .int], [], false⟩

def twrite_o3 : OutSh := ⟨[.ptr 0 0 0, .val false .int], [(0, .cells [.val false .int, .niface, .own 1]), (1, .row .u8)], false⟩

def twrite_outs : List OutSh := [twrite_o0, twrite_o1, twrite_o2, twrite_o3]

def twrite_T (a0 : Int) (a1 : (Int × List (Elem))) : OT twrite_S.Y :=
  let z0 : Int := openErr a0 a1.fst (List.length a1.snd)
  let z1 : Int := ixor a0 (1 : Int)
  (.br (z0 == (0 : Int))
  (.br (a1.fst == (1 : Int))
    (.ok ⟨twrite_o0, (((), ((0 : Int), ())), ((a0, ((), ((), ()))), ((z1, ((), ())), ([], (a1.snd, ())))))⟩)
    (.ok ⟨twrite_o1, (((), ((0 : Int), ())), ((a0, ((), ((), ()))), ((z1, ((), ())), ([], (((64 : Int), ((7640891576939301192 : UInt64), ((13503953896175478587 : UInt64), ((4354685564936845355 : UInt64), ((11912009170470909681 : UInt64), ((5840696475078001361 : UInt64), ((11170449401992604703 : UInt64), ((7924071207369364504 : UInt64), ((3427420097777323800 : UInt64), ((), ((0 : UInt64), ()))))))))))), ([], ()))))))⟩))
  (.br (!z0 == (0 : Int))
    (.ok ⟨twrite_o2, (((), (z0, ())), ())⟩)
    (.ok ⟨twrite_o3, (((), ((0 : Int), ())), ((a0, ((), ((), ()))), ([], ())))⟩)))

theorem twrite_q (x : twriteX) (Q : twrite_S.Y → Prop) : wpf te E_topen lamNil 1000 Try.f27 (twrite_S.inp.inj x).tm (twrite_S.inp.inj x).hp (fnKL twrite_S twrite_outs Q) (fun _ _ => False) = (twrite_T (x.1.1) (x.1.2.1)).wpR Q := by kernel_rfl

theorem twrite_main (pre : twriteX → Bool) (F : twriteX → OT twrite_S.Y) (hF : ∀ (x : twriteX) oy, pre x = true → (F x).run = some oy → (twrite_T (x.1.1) (x.1.2.1)).run = some oy) : SummOk Try.prog 27 (twrite_S.summ pre F) :=
  fn_treeL te_ok E_topen_ok E_topen_any (f := 27) (fn := Try.f27) (c := codeOf Try.f27) (by kernel_rfl) (by kernel_rfl) (by kernel_rfl) (S := twrite_S) (k := 0) (by kernel_rfl) (fun R hR => lamOk_nil) (n := 1000) (outs := twrite_outs) (by kernel_rfl) (pre := pre) (F := F) (T := fun x => twrite_T (x.1.1) (x.1.2.1)) (fun x Q => twrite_q x Q) hF

def twrite_pre (_ : twriteX) : Bool := true
def twrite_F (x : twriteX) : OT twrite_S.Y := .br (openErr x.1.1 x.1.2.1.1 x.1.2.1.2.length == 0)
  (.br (x.1.2.1.1 == 1) (.ok ⟨twrite_o0, (((), ((0 : Int), ())), ((x.1.1, ((), ((), ()))), ((ixor x.1.1 1, ((), ())), ([], (x.1.2.1.2, ())))))⟩)
    (.ok ⟨twrite_o1, (((), ((0 : Int), ())), ((x.1.1, ((), ((), ()))), ((ixor x.1.1 1, ((), ())), ([], (tapeDig, ([], ()))))))⟩))
  (.ok ⟨twrite_o2, (((), (openErr x.1.1 x.1.2.1.1 x.1.2.1.2.length, ())), ())⟩)
theorem twrite_ok : SummOk Try.prog 27 (twrite_S.summ twrite_pre twrite_F) := twrite_main _ _ fun x oy _ ho => by
  rw [← ho]
  clear ho
  obtain ⟨⟨c, ⟨mode, l⟩, ⟨⟩⟩, ⟨⟩⟩ := x
  unfold twrite_T twrite_F
  by_cases he : (openErr c mode l.length == 0) = true
  · refine (OT.run_t he).trans (Eq.trans ?_ (OT.run_t he).symm)
    by_cases hm : (mode == 1) = true
    · exact (OT.run_t hm).trans (OT.run_t hm).symm
    · have hm := Bool.eq_false_iff.2 hm
      exact (OT.run_f hm).trans (OT.run_f hm).symm
  · have he := Bool.eq_false_iff.2 he
    exact (OT.run_f he).trans ((OT.run_t (by show (!(openErr c mode l.length == 0)) = true; rw [he]; rfl)).trans (OT.run_f he).symm)

def twrite_summ : Summ := (thawOut [1] 1 (twrite_S.summ twrite_pre twrite_F))
theorem twrite_known : SummOk Try.prog 27 twrite_summ := (thawOut_ok twrite_ok)
theorem twrite_smono : MonoOk twrite_summ := (thawOut_mono fn_mono)

def E_twrite : Env := envCons 27 twrite_summ E_topen
theorem E_twrite_ok : EnvOk Try.prog E_twrite := envOk_cons twrite_known E_topen_ok
theorem E_twrite_mono : EnvMono E_twrite := envMono_cons twrite_smono E_topen_mono
theorem E_twrite_any : AnyOk Try.prog te E_twrite := any_ok follows te_ok E_twrite_ok E_twrite_mono

end Go.Proofs.Ytkngdfhigpjciaa

/- The function (*sigil/tape.talk).Challenge: what it makes of its arguments. No statement of a seat is proved here. -/
namespace Go.Proofs.Ytkngdfhigpjciaa
open Sx Go
set_option maxRecDepth 100000

def tchal_S : FnSpec := ⟨[.ptr 0 0 0], [(0, .cells [.val false .int, .ifp 93 1, .own 2]), (1, .cells [.val false .int, .val false (.list .elem)]), (2, .row .u8)], false, 3, true⟩

abbrev tchalX : Type := ((Unit) × Unit) × (((Int) × (Unit) × (Unit) × Unit) × ((Int) × (List (Elem)) × Unit) × (List (UInt8)) × Unit)

def tchal_o0 : OutSh := ⟨[.val true .elem, .val false .int], [(0, .cells [.val false .int, .ifp 93 1, .own 2]), (1, .cells [.val false .int, .val false (.list .elem)]), (2, .row .u8)], false⟩

def tchal_sel : SV → Option OutSh := fun _ => some tchal_o0

def tchal_T (c0_0 : Int) (c1_0 : Int) (c1_1 : List (Elem)) (c2 : List (UInt8)) : OT tchal_S.Y :=
  let z0 : Elem × Int × List Elem := coinOf c1_1
  let z1 : Int × List Elem := z0.snd
  (gd [tnext2_pre (((), ()), (c1_0, c1_1, ()), ())] (.ok ⟨tchal_o0, ((addP (pS c1_0) z0.fst { w0 := (0 : UInt64), w1 := (0 : UInt64), w2 := (0 : UInt64), w3 := (0 : UInt64) }, (z1.fst, ())), ((c0_0, ((), ((), ()))), ((c1_0, (z1.snd, ())), (c2, ()))))⟩))

theorem tchal_q (x : tchalX) (Q : tchal_S.Y → Prop) : wpf te E_twrite lamNil 1000 Try.f28 (tchal_S.inp.inj x).tm (tchal_S.inp.inj x).hp (fnK tchal_S tchal_sel Q) (fun _ _ => False) = (tchal_T (x.2.1.1) (x.2.2.1.1) (x.2.2.1.2.1) (x.2.2.2.1)).wpR Q := by kernel_rfl

theorem tchal_main (pre : tchalX → Bool) (F : tchalX → OT tchal_S.Y) (hF : ∀ (x : tchalX) oy, pre x = true → (F x).run = some oy → (tchal_T (x.2.1.1) (x.2.2.1.1) (x.2.2.1.2.1) (x.2.2.2.1)).run = some oy) : SummOk Try.prog 28 (tchal_S.summ pre F) :=
  fn_tree te_ok E_twrite_ok E_twrite_any (f := 28) (fn := Try.f28) (c := codeOf Try.f28) (by kernel_rfl) (by kernel_rfl) (by kernel_rfl) (S := tchal_S) (k := 3) (by kernel_rfl) (fun R hR => lamOk_nil) (n := 1000) (sel := tchal_sel) (fun v o h => by cases h; rfl) (pre := pre) (F := F) (T := fun x => tchal_T (x.2.1.1) (x.2.2.1.1) (x.2.2.1.2.1) (x.2.2.2.1)) (fun x Q => tchal_q x Q) hF

def tchal_pre (x : tchalX) : Bool := sortOk x.2.2.1.1 && decide (x.2.2.1.2.1.length ≤ 140737488355328)
def tchal_F (x : tchalX) : OT tchal_S.Y := .ok ⟨tchal_o0, ((addP (pS x.2.2.1.1) (coinOf x.2.2.1.2.1).1 ⟨0, 0, 0, 0⟩, ((coinOf x.2.2.1.2.1).2.1, ())), ((x.2.1.1, ((), ((), ()))), ((x.2.2.1.1, ((coinOf x.2.2.1.2.1).2.2, ())), (x.2.2.2.1, ()))))⟩
theorem tchal_ok : SummOk Try.prog 28 (tchal_S.summ tchal_pre tchal_F) := tchal_main _ _ fun x oy hp ho => by
  rw [← ho]
  clear ho
  obtain ⟨⟨⟨⟩, ⟨⟩⟩, ⟨⟨c, ⟨⟩, ⟨⟩, ⟨⟩⟩, ⟨s, l, ⟨⟩⟩, o, ⟨⟩⟩⟩ := x
  refine (gd_run ?_).trans rfl
  simp only [List.all_cons, List.all_nil, Bool.and_true]
  exact hp

def tchal_summ : Summ := (tchal_S.summ tchal_pre tchal_F)
theorem tchal_known : SummOk Try.prog 28 tchal_summ := tchal_ok
theorem tchal_smono : MonoOk tchal_summ := fn_mono

def E_tchal : Env := envCons 28 tchal_summ E_twrite
theorem E_tchal_ok : EnvOk Try.prog E_tchal := envOk_cons tchal_known E_twrite_ok
theorem E_tchal_mono : EnvMono E_tchal := envMono_cons tchal_smono E_twrite_mono
theorem E_tchal_any : AnyOk Try.prog te E_tchal := any_ok follows te_ok E_tchal_ok E_tchal_mono

end Go.Proofs.Ytkngdfhigpjciaa

/- The function (*sigil/tape.Writer).say: what it makes of its arguments. No statement of a seat is proved here. -/
namespace Go.Proofs.Ytkngdfhigpjciaa
open Sx Go
set_option maxRecDepth 100000

def tsay_S : FnSpec := ⟨[.ptr 0 0 0, .val false .u8, .val false (.list .u8)], [(0, .cells [.val false .int, .ifp 93 1, .own 2]), (1, .cells [.val false .int, .val false (.list .elem)]), (2, .row .u8)], false, 2, true⟩

abbrev tsayX : Type := ((Unit) × (UInt8) × (List (UInt8)) × Unit) × (((Int) × (Unit) × (Unit) × Unit) × ((Int) × (List (Elem)) × Unit) × (List (UInt8)) × Unit)

def tsay_o0 : OutSh := ⟨[], [(0, .cells [.val false .int, .ifp 93 1, .own 2]), (1, .cells [.val false .int, .val false (.list .elem)]), (2, .row .u8)], false⟩

def tsay_sel : SV → Option OutSh := fun _ => some tsay_o0

def tsay_T (a1 : UInt8) (a2 : List (UInt8)) (c0_0 : Int) (c1_0 : Int) (c1_1 : List (Elem)) (c2 : List (UInt8)) : OT tsay_S.Y :=
  (gd [decide ((List.length c2 + List.length a2) * (1 : Nat) ≤ (140737488355328 : Nat))] (.ok ⟨tsay_o0, ((), ((c0_0, ((), ((), ()))), ((c1_0, (c1_1, ())), (c2 ++ a2, ()))))⟩))

theorem tsay_q (x : tsayX) (Q : tsay_S.Y → Prop) : wpf te E_tchal lamNil 1000 Try.f39 (tsay_S.inp.inj x).tm (tsay_S.inp.inj x).hp (fnK tsay_S tsay_sel Q) (fun _ _ => False) = (tsay_T (x.1.2.1) (x.1.2.2.1) (x.2.1.1) (x.2.2.1.1) (x.2.2.1.2.1) (x.2.2.2.1)).wpR Q := by kernel_rfl

theorem tsay_main (pre : tsayX → Bool) (F : tsayX → OT tsay_S.Y) (hF : ∀ (x : tsayX) oy, pre x = true → (F x).run = some oy → (tsay_T (x.1.2.1) (x.1.2.2.1) (x.2.1.1) (x.2.2.1.1) (x.2.2.1.2.1) (x.2.2.2.1)).run = some oy) : SummOk Try.prog 39 (tsay_S.summ pre F) :=
  fn_tree te_ok E_tchal_ok E_tchal_any (f := 39) (fn := Try.f39) (c := codeOf Try.f39) (by kernel_rfl) (by kernel_rfl) (by kernel_rfl) (S := tsay_S) (k := 3) (by kernel_rfl) (fun R hR => lamOk_nil) (n := 1000) (sel := tsay_sel) (fun v o h => by cases h; rfl) (pre := pre) (F := F) (T := fun x => tsay_T (x.1.2.1) (x.1.2.2.1) (x.2.1.1) (x.2.2.1.1) (x.2.2.1.2.1) (x.2.2.2.1)) (fun x Q => tsay_q x Q) hF

def tsay_pre (x : tsayX) : Bool := decide (x.2.2.2.1.length + x.1.2.2.1.length ≤ 140737488355328)
def tsay_F (x : tsayX) : OT tsay_S.Y := .ok ⟨tsay_o0, ((), ((x.2.1.1, ((), ((), ()))), ((x.2.2.1.1, (x.2.2.1.2.1, ())), (x.2.2.2.1 ++ x.1.2.2.1, ()))))⟩
theorem tsay_ok : SummOk Try.prog 39 (tsay_S.summ tsay_pre tsay_F) := tsay_main _ _ fun x oy hp ho => by
  rw [← ho]
  clear ho
  obtain ⟨⟨⟨⟩, m, b, ⟨⟩⟩, ⟨⟨c, ⟨⟩, ⟨⟩, ⟨⟩⟩, ⟨s, l, ⟨⟩⟩, o, ⟨⟩⟩⟩ := x
  have hp' : o.length + b.length ≤ 140737488355328 := of_decide_eq_true hp
  refine (gd_run ?_).trans rfl
  simp only [List.all_cons, List.all_nil, Bool.and_true]
  exact decide_eq_true (by omega)

def tsay_summ : Summ := (thawArg 2 (tsay_S.summ tsay_pre tsay_F))
theorem tsay_known : SummOk Try.prog 39 tsay_summ := (thawArg_ok tsay_ok)
theorem tsay_smono : MonoOk tsay_summ := (thawArg_mono fn_mono)

def E_tsay : Env := envCons 39 tsay_summ E_tchal
theorem E_tsay_ok : EnvOk Try.prog E_tsay := envOk_cons tsay_known E_tchal_ok
theorem E_tsay_mono : EnvMono E_tsay := envMono_cons tsay_smono E_tchal_mono
theorem E_tsay_any : AnyOk Try.prog te E_tsay := any_ok follows te_ok E_tsay_ok E_tsay_mono

end Go.Proofs.Ytkngdfhigpjciaa

/- The function (*sigil/tape.Writer).Scalar: what it makes of its arguments. No statement of a seat is proved here. -/
namespace Go.Proofs.Ytkngdfhigpjciaa
open Sx Go
set_option maxRecDepth 100000

def tscalar_S : FnSpec := ⟨[.ptr 0 0 0, .val true .elem], [(0, .cells [.val false .int, .ifp 93 1, .own 2]), (1, .cells [.val false .int, .val false (.list .elem)]), (2, .row .u8)], false, 2, true⟩

abbrev tscalarX : Type := ((Unit) × (Elem) × Unit) × (((Int) × (Unit) × (Unit) × Unit) × ((Int) × (List (Elem)) × Unit) × (List (UInt8)) × Unit)

def tscalar_o0 : OutSh := ⟨[], [(0, .cells [.val false .int, .ifp 93 1, .own 2]), (1, .cells [.val false .int, .val false (.list .elem)]), (2, .row .u8)], false⟩

def tscalar_sel : SV → Option OutSh := fun _ => some tscalar_o0

def tscalar_T (a1 : Elem) (c0_0 : Int) (c1_0 : Int) (c1_1 : List (Elem)) (c2 : List (UInt8)) : OT tscalar_S.Y :=
  let z0 : Int := ixor c0_0 (1 : Int)
  let z1 : List UInt8 := encB (ofN (Elem.nat a1 % Elem.nat (numOf (Int.toNat z0)).fst))
  let z2 : (Int × PUnit × PUnit × PUnit) × (Int × List Elem × PUnit) × List UInt8 × PUnit := ((c0_0, (), (), ()), (c1_0, c1_1, ()), c2, ())
  (.br (sortOk z0)
  (gd [tsay_pre (((), (2 : UInt8), z1, ()), z2)] (.ok ⟨tscalar_o0, ((), ((c0_0, ((), ((), ()))), ((c1_0, (c1_1, ())), (c2 ++ z1, ()))))⟩))
  (gd [tsay_pre (((), (2 : UInt8), [], ()), z2)] (.ok ⟨tscalar_o0, ((), ((c0_0, ((), ((), ()))), ((c1_0, (c1_1, ())), (c2 ++ [], ()))))⟩)))

theorem tscalar_q (x : tscalarX) (Q : tscalar_S.Y → Prop) : wpf te E_tsay lamNil 1000 Try.f29 (tscalar_S.inp.inj x).tm (tscalar_S.inp.inj x).hp (fnK tscalar_S tscalar_sel Q) (fun _ _ => False) = (tscalar_T (x.1.2.1) (x.2.1.1) (x.2.2.1.1) (x.2.2.1.2.1) (x.2.2.2.1)).wpR Q := by kernel_rfl

theorem tscalar_main (pre : tscalarX → Bool) (F : tscalarX → OT tscalar_S.Y) (hF : ∀ (x : tscalarX) oy, pre x = true → (F x).run = some oy → (tscalar_T (x.1.2.1) (x.2.1.1) (x.2.2.1.1) (x.2.2.1.2.1) (x.2.2.2.1)).run = some oy) : SummOk Try.prog 29 (tscalar_S.summ pre F) :=
  fn_tree te_ok E_tsay_ok E_tsay_any (f := 29) (fn := Try.f29) (c := codeOf Try.f29) (by kernel_rfl) (by kernel_rfl) (by kernel_rfl) (S := tscalar_S) (k := 3) (by kernel_rfl) (fun R hR => lamOk_nil) (n := 1000) (sel := tscalar_sel) (fun v o h => by cases h; rfl) (pre := pre) (F := F) (T := fun x => tscalar_T (x.1.2.1) (x.2.1.1) (x.2.2.1.1) (x.2.2.1.2.1) (x.2.2.2.1)) (fun x Q => tscalar_q x Q) hF

theorem encB_length (e : Elem) : (encB e).length = 32 := by
  unfold encB
  have h : ∀ (f : Nat → UInt8) (v : List UInt8) (n : Nat), (upto (fun k o => o.set k (f k)) v n).length = v.length := fun f v n => by
    induction n with
    | zero => rfl
    | succ n ih => simp only [upto, List.length_set, ih]
  rw [h, List.length_replicate]

/-- What a scalar is written as. -/
def saidS (c : Int) (v : Elem) : List UInt8 := encB (ofN (v.nat % (numOf (ixor c 1).toNat).1.nat))

def tscalar_pre (x : tscalarX) : Bool := sortOk (ixor x.2.1.1 1) && decide (x.2.2.2.1.length ≤ 140737488350000)
def tscalar_F (x : tscalarX) : OT tscalar_S.Y := .ok ⟨tscalar_o0, ((), ((x.2.1.1, ((), ((), ()))), ((x.2.2.1.1, (x.2.2.1.2.1, ())), (x.2.2.2.1 ++ saidS x.2.1.1 x.1.2.1, ()))))⟩
theorem tscalar_say (c s : Int) (l : List Elem) (o b : List UInt8) (k : Bool) (hk : k = true) (hb : b.length = 32) (ho : o.length ≤ 140737488350000) :
    (OT.br k (gd [tsay_pre (((), (2 : UInt8), b, ()), ((c, (), (), ()), (s, l, ()), o, ()))] (.ok ⟨tscalar_o0, ((), ((c, ((), ((), ()))), ((s, (l, ())), (o ++ b, ()))))⟩))
      (gd [tsay_pre (((), (2 : UInt8), [], ()), ((c, (), (), ()), (s, l, ()), o, ()))] (.ok ⟨tscalar_o0, ((), ((c, ((), ((), ()))), ((s, (l, ())), (o ++ [], ()))))⟩)) : OT tscalar_S.Y).run
    = (OT.ok ⟨tscalar_o0, ((), ((c, ((), ((), ()))), ((s, (l, ())), (o ++ b, ()))))⟩ : OT tscalar_S.Y).run := by
  refine (OT.run_t hk).trans (gd_run ?_)
  simp only [List.all_cons, List.all_nil, Bool.and_true]
  exact decide_eq_true (by dsimp only; omega)
theorem tscalar_ok : SummOk Try.prog 29 (tscalar_S.summ tscalar_pre tscalar_F) := tscalar_main _ _ fun x oy hp ho => by
  rw [← ho]
  clear ho
  obtain ⟨⟨⟨⟩, v, ⟨⟩⟩, ⟨⟨c, ⟨⟩, ⟨⟩, ⟨⟩⟩, ⟨s, l, ⟨⟩⟩, o, ⟨⟩⟩⟩ := x
  have hp' : (sortOk (ixor c 1) && decide (o.length ≤ 140737488350000)) = true := hp
  rw [Bool.and_eq_true] at hp'
  have ho' := of_decide_eq_true hp'.2
  exact tscalar_say c s l o (saidS c v) (sortOk (ixor c 1)) hp'.1 (encB_length _) ho'

def tscalar_summ : Summ := (tscalar_S.summ tscalar_pre tscalar_F)
theorem tscalar_known : SummOk Try.prog 29 tscalar_summ := tscalar_ok
theorem tscalar_smono : MonoOk tscalar_summ := fn_mono

def E_tscalar : Env := envCons 29 tscalar_summ E_tsay
theorem E_tscalar_ok : EnvOk Try.prog E_tscalar := envOk_cons tscalar_known E_tsay_ok
theorem E_tscalar_mono : EnvMono E_tscalar := envMono_cons tscalar_smono E_tsay_mono
theorem E_tscalar_any : AnyOk Try.prog te E_tscalar := any_ok follows te_ok E_tscalar_ok E_tscalar_mono

end Go.Proofs.Ytkngdfhigpjciaa

/- The function (*sigil/tape.Writer).Bytes: what it makes of its arguments. No statement of a seat is proved here. -/
namespace Go.Proofs.Ytkngdfhigpjciaa
open Sx Go
set_option maxRecDepth 100000

def tbytes_S : FnSpec := ⟨[.ptr 0 0 0], [(0, .cells [.val false .int, .ifp 93 1, .own 2]), (1, .cells [.val false .int, .val false (.list .elem)]), (2, .row .u8)], false, 3, true⟩

abbrev tbytesX : Type := ((Unit) × Unit) × (((Int) × (Unit) × (Unit) × Unit) × ((Int) × (List (Elem)) × Unit) × (List (UInt8)) × Unit)

def tbytes_o0 : OutSh := ⟨[.own 3], [(0, .cells [.val false .int, .ifp 93 1, .own 2]), (1, .cells [.val false .int, .val false (.list .elem)]), (2, .row .u8), (3, .row .u8)], false⟩

def tbytes_sel : SV → Option OutSh := fun _ => some tbytes_o0

def tbytes_T (c0_0 : Int) (c1_0 : Int) (c1_1 : List (Elem)) (c2 : List (UInt8)) : OT tbytes_S.Y :=
  (gd [bclone_pre ((c2, ()), ())] (.ok ⟨tbytes_o0, (((), ()), ((c0_0, ((), ((), ()))), ((c1_0, (c1_1, ())), (c2, (c2, ())))))⟩))

theorem tbytes_q (x : tbytesX) (Q : tbytes_S.Y → Prop) : wpf te E_tscalar lamNil 1000 Try.f30 (tbytes_S.inp.inj x).tm (tbytes_S.inp.inj x).hp (fnK tbytes_S tbytes_sel Q) (fun _ _ => False) = (tbytes_T (x.2.1.1) (x.2.2.1.1) (x.2.2.1.2.1) (x.2.2.2.1)).wpR Q := by kernel_rfl

theorem tbytes_main (pre : tbytesX → Bool) (F : tbytesX → OT tbytes_S.Y) (hF : ∀ (x : tbytesX) oy, pre x = true → (F x).run = some oy → (tbytes_T (x.2.1.1) (x.2.2.1.1) (x.2.2.1.2.1) (x.2.2.2.1)).run = some oy) : SummOk Try.prog 30 (tbytes_S.summ pre F) :=
  fn_tree te_ok E_tscalar_ok E_tscalar_any (f := 30) (fn := Try.f30) (c := codeOf Try.f30) (by kernel_rfl) (by kernel_rfl) (by kernel_rfl) (S := tbytes_S) (k := 3) (by kernel_rfl) (fun R hR => lamOk_nil) (n := 1000) (sel := tbytes_sel) (fun v o h => by cases h; rfl) (pre := pre) (F := F) (T := fun x => tbytes_T (x.2.1.1) (x.2.2.1.1) (x.2.2.1.2.1) (x.2.2.2.1)) (fun x Q => tbytes_q x Q) hF

def tbytes_pre (x : tbytesX) : Bool := bclone_pre ((x.2.2.2.1, ()), ())
def tbytes_F (x : tbytesX) : OT tbytes_S.Y := .ok ⟨tbytes_o0, (((), ()), ((x.2.1.1, ((), ((), ()))), ((x.2.2.1.1, (x.2.2.1.2.1, ())), (x.2.2.2.1, (x.2.2.2.1, ())))))⟩
theorem tbytes_ok : SummOk Try.prog 30 (tbytes_S.summ tbytes_pre tbytes_F) := tbytes_main _ _ fun x oy hp ho => by
  rw [← ho]
  clear ho
  obtain ⟨⟨⟨⟩, ⟨⟩⟩, ⟨⟨c, ⟨⟩, ⟨⟩, ⟨⟩⟩, ⟨s, l, ⟨⟩⟩, o, ⟨⟩⟩⟩ := x
  refine gd_run ?_
  simp only [List.all_cons, List.all_nil, Bool.and_true]
  exact hp

def tbytes_summ : Summ := (tbytes_S.summ tbytes_pre tbytes_F)
theorem tbytes_known : SummOk Try.prog 30 tbytes_summ := tbytes_ok
theorem tbytes_smono : MonoOk tbytes_summ := fn_mono

def E_tbytes : Env := envCons 30 tbytes_summ E_tscalar
theorem E_tbytes_ok : EnvOk Try.prog E_tbytes := envOk_cons tbytes_known E_tscalar_ok
theorem E_tbytes_mono : EnvMono E_tbytes := envMono_cons tbytes_smono E_tscalar_mono
theorem E_tbytes_any : AnyOk Try.prog te E_tbytes := any_ok follows te_ok E_tbytes_ok E_tbytes_mono

end Go.Proofs.Ytkngdfhigpjciaa

/- The function sigil/sigillaw08.alive: what it makes of its arguments. No statement of a seat is proved here. -/
namespace Go.Proofs.Ytkngdfhigpjciaa
open Sx Go
set_option maxRecDepth 100000

def tlive_S : FnSpec := ⟨[], [], true, 0, false⟩

abbrev tliveX : Type := (Unit) × (Unit)

def tlive_o0 : OutSh := ⟨[.val false .bool], [], false⟩

def tlive_sel : SV → Option OutSh := fun _ => some tlive_o0

def tlive_T : OT tlive_S.Y :=
  (.ok ⟨tlive_o0, ((true, ()), ())⟩)

theorem tlive_q (x : tliveX) (Q : tlive_S.Y → Prop) : wpf te E_tbytes lamNil 1000 Try.f16 (tlive_S.inp.inj x).tm (tlive_S.inp.inj x).hp (fnK tlive_S tlive_sel Q) (fun _ _ => False) = (tlive_T).wpR Q := by kernel_rfl

theorem tlive_main (pre : tliveX → Bool) (F : tliveX → OT tlive_S.Y) (hF : ∀ (x : tliveX) oy, pre x = true → (F x).run = some oy → (tlive_T).run = some oy) : SummOk Try.prog 16 (tlive_S.summ pre F) :=
  fn_tree te_ok E_tbytes_ok E_tbytes_any (f := 16) (fn := Try.f16) (c := codeOf Try.f16) (by kernel_rfl) (by kernel_rfl) (by kernel_rfl) (S := tlive_S) (k := 0) (by kernel_rfl) (fun R hR => lamOk_nil) (n := 1000) (sel := tlive_sel) (fun v o h => by cases h; rfl) (pre := pre) (F := F) (T := fun x => tlive_T) (fun x Q => tlive_q x Q) hF

def tlive_pre (_ : tliveX) : Bool := true
def tlive_F (_ : tliveX) : OT tlive_S.Y := .ok ⟨tlive_o0, ((true, ()), ())⟩
theorem tlive_ok : SummOk Try.prog 16 (tlive_S.summ tlive_pre tlive_F) := tlive_main _ _ fun x oy hp ho => by
  rw [← ho]
  clear ho
  rfl

def tlive_summ : Summ := (tlive_S.summ tlive_pre tlive_F)
theorem tlive_known : SummOk Try.prog 16 tlive_summ := tlive_ok
theorem tlive_smono : MonoOk tlive_summ := fn_mono

def E_tlive : Env := envCons 16 tlive_summ E_tbytes
theorem E_tlive_ok : EnvOk Try.prog E_tlive := envOk_cons tlive_known E_tbytes_ok
theorem E_tlive_mono : EnvMono E_tlive := envMono_cons tlive_smono E_tbytes_mono
theorem E_tlive_any : AnyOk Try.prog te E_tlive := any_ok follows te_ok E_tlive_ok E_tlive_mono

end Go.Proofs.Ytkngdfhigpjciaa

/- The function sigil/sigillaw08.TapeCoins: what it makes of its arguments. No statement of a seat is proved here. -/
namespace Go.Proofs.Ytkngdfhigpjciaa
open Sx Go
set_option maxRecDepth 100000

def lcoins_S : FnSpec := ⟨[.val false (.list .elem)], [], true, 0, false⟩

abbrev lcoinsX : Type := ((List (Elem)) × Unit) × (Unit)

def lcoins_s0 : Shape := ⟨73, [(0, .val false (.list .elem)), (3, .own 0), (4, .ptr 1 0 0), (5, .val false .int)], [(0, .row .elem), (1, .cells [.val false (.list .elem)])], 0, true⟩

abbrev lcoins_s0X : Type := ((List (Elem)) × (Unit) × (Unit) × (Int) × Unit) × ((List (Elem)) × ((List (Elem)) × Unit) × Unit)

def lcoins_e0_0 : Shape := ⟨73, [(0, .val false (.list .elem)), (4, .ptr 0 0 0)], [(0, .cells [.val false (.list .elem)])], 0, true⟩

abbrev lcoins_e0_0X : Type := ((List (Elem)) × (Unit) × Unit) × (((List (Elem)) × Unit) × Unit)

def lcoins_x0 : SE → Option Shape := xsMk [(0, lcoins_e0_0)] none

def lcoins_T0 (a0 : List (Elem)) (a5 : Int) (c0 : List (Elem)) (c1_0 : List (Elem)) : OT (Sum lcoins_s0X LEnd) :=
  let z0 : Nat := List.length c0
  let z1 : Nat := Int.toNat a5
  (.br (decide (a5 < (↑z0 : Int)))
  (gd [inB a5 z0, decide (z1 < z0), inR (a5 + (1 : Int))] (.ok (.inl ((a0, ((), ((), (a5 + (1 : Int), ())))), (List.set c0 z1 { w0 := (9 : UInt64), w1 := (9 : UInt64), w2 := (0 : UInt64), w3 := (0 : UInt64) }, ((c1_0, ()), ()))))))
  (.ok (.inr ⟨(.exit 0, lcoins_e0_0), ((a0, ((), ())), ((c1_0, ()), ()))⟩)))

def lcoins_U0 (s : lcoins_s0X) : OT (Sum lcoins_s0X LEnd) := lcoins_T0 (s.1.1) (s.1.2.2.2.1) (s.2.1) (s.2.2.1.1)

theorem lcoins_q0 (s : lcoins_s0X) (Q : Sum lcoins_s0X LEnd → Prop) : wps te E_tlive lamNil 1000 (loopOf (codeOf Try.f6) 0) (lcoins_s0.inj s) (stepK lcoins_s0 lcoins_x0 (Q : Sum lcoins_s0.T LEnd → Prop)) = (lcoins_U0 s).wpR Q := by kernel_rfl

def lcoins_f0 (g0_0 : lcoins_s0X → lcoins_e0_0X) (s : lcoins_s0X) : OT LEnd := (.ok ⟨(.exit 0, lcoins_e0_0), g0_0 s⟩)

def lcoins_s2 : Shape := ⟨73, [(0, .val false (.list .elem)), (4, .ptr 0 0 0), (6, .val false .int)], [(0, .cells [.val false (.list .elem)])], 0, true⟩

abbrev lcoins_s2X : Type := ((List (Elem)) × (Unit) × (Int) × Unit) × (((List (Elem)) × Unit) × Unit)

def lcoins_e2_r : Shape := ⟨73, [(2, .val false .bool)], [], 0, true⟩

abbrev lcoins_e2_rX : Type := ((Bool) × Unit) × (Unit)

def lcoins_e2_2 : Shape := ⟨73, [(4, .ptr 0 0 0)], [(0, .cells [.val false (.list .elem)])], 0, true⟩

abbrev lcoins_e2_2X : Type := ((Unit) × Unit) × (((List (Elem)) × Unit) × Unit)

def lcoins_x2 : SE → Option Shape := xsMk [(2, lcoins_e2_2)] (some lcoins_e2_r)

def lcoins_T2 (a0 : List (Elem)) (a6 : Int) (c0_0 : List (Elem)) : OT (Sum lcoins_s2X LEnd) :=
  let z0 : Nat := List.length a0
  let z1 : Elem × Int × List Elem := coinOf c0_0
  let z2 : Elem := z1.fst
  let z3 : Elem := List.getD a0 (Int.toNat a6) { w0 := (0 : UInt64), w1 := (0 : UInt64), w2 := (0 : UInt64), w3 := (0 : UInt64) }
  let z4 : Int × List Elem := z1.snd
  (.br (decide (a6 < (↑z0 : Int)))
  (gd [tnext_pre (((), ()), (c0_0, ()), ()), inB a6 z0] (.br (!(z2.w0 == z3.w0 && (z2.w1 == z3.w1 && (z2.w2 == z3.w2 && (z2.w3 == z3.w3 && true)))))
    (.ok (.inr ⟨(.ret, lcoins_e2_r), ((false, ()), ())⟩))
    (.br (!z4.fst == (0 : Int))
      (.ok (.inr ⟨(.ret, lcoins_e2_r), ((false, ()), ())⟩))
      (gd [inR (a6 + (1 : Int))] (.ok (.inl ((a0, ((), (a6 + (1 : Int), ()))), ((z4.snd, ()), ()))))))))
  (.ok (.inr ⟨(.exit 2, lcoins_e2_2), (((), ()), ((c0_0, ()), ()))⟩)))

def lcoins_U2 (s : lcoins_s2X) : OT (Sum lcoins_s2X LEnd) := lcoins_T2 (s.1.1) (s.1.2.2.1) (s.2.1.1)

theorem lcoins_q2 (s : lcoins_s2X) (Q : Sum lcoins_s2X LEnd → Prop) : wps te E_tlive lamNil 1000 (loopOf (codeOf Try.f6) 2) (lcoins_s2.inj s) (stepK lcoins_s2 lcoins_x2 (Q : Sum lcoins_s2.T LEnd → Prop)) = (lcoins_U2 s).wpR Q := by kernel_rfl

def lcoins_f2 (g2_r : lcoins_s2X → lcoins_e2_rX) (c2_r : lcoins_s2X → Bool) (g2_2 : lcoins_s2X → lcoins_e2_2X) (s : lcoins_s2X) : OT LEnd := (.br (c2_r s) (.ok ⟨(.ret, lcoins_e2_r), g2_r s⟩) (.ok ⟨(.exit 2, lcoins_e2_2), g2_2 s⟩))

def lcoins_o0 : OutSh := ⟨[.val false .bool], [], false⟩

def lcoins_sel : SV → Option OutSh := fun _ => some lcoins_o0

def lcoins_T (ok0 : lcoins_s0X → Bool) (g0_0 : lcoins_s0X → lcoins_e0_0X) (ok2 : lcoins_s2X → Bool) (g2_r : lcoins_s2X → lcoins_e2_rX) (c2_r : lcoins_s2X → Bool) (g2_2 : lcoins_s2X → lcoins_e2_2X) (a0 : List (Elem)) : OT lcoins_S.Y :=
  let z0 : List Elem × PUnit := (a0, ())
  let z1 : (List Elem × PUnit × PUnit × Int × PUnit) × List Elem × (List Elem × PUnit) × PUnit := ((a0, (), (), (0 : Int), ()), a0, (a0, ()), ())
  let z2 : (List Elem × PUnit × PUnit) × (List Elem × PUnit) × PUnit := g0_0 z1
  let z3 : (List Elem × PUnit × Int × PUnit) × (List Elem × PUnit) × PUnit := ((z2.fst.fst, (), (0 : Int), ()), (z2.snd.fst.fst, ()), ())
  let z4 : PUnit × PUnit := ((), ())
  let z5 : List Elem := (g2_2 z3).snd.fst.fst
  let z6 : Elem × Int × List Elem := coinOf z5
  let z7 : Int × List Elem := z6.snd
  let z8 : List Elem := z7.snd
  let z9 : Elem := z6.fst
  (gd [ucopye_pre (z0, ()), tpurse_pre (z0, ()), ok0 z1, ok2 z3] (.br (c2_r z3)
  (.ok ⟨lcoins_o0, (((g2_r z3).fst.fst, ()), ())⟩)
  (gd [tnext_pre (z4, (z5, ()), ()), tnext_pre (z4, (z8, ()), ())] (.br (z9.w0 == (0 : UInt64) && (z9.w1 == (0 : UInt64) && (z9.w2 == (0 : UInt64) && (z9.w3 == (0 : UInt64) && true))))
    (.br (z7.fst == (81 : Int))
      (.ok ⟨lcoins_o0, (((coinOf z8).snd.fst == (81 : Int), ()), ())⟩)
      (.ok ⟨lcoins_o0, ((false, ()), ())⟩))
    (.ok ⟨lcoins_o0, ((false, ()), ())⟩)))))

theorem lcoins_q (ok0 : lcoins_s0X → Bool) (g0_0 : lcoins_s0X → lcoins_e0_0X) (ok2 : lcoins_s2X → Bool) (g2_r : lcoins_s2X → lcoins_e2_rX) (c2_r : lcoins_s2X → Bool) (g2_2 : lcoins_s2X → lcoins_e2_2X) (x : lcoinsX) (Q : lcoins_S.Y → Prop) : wpf te E_tlive (lamCons 2 (loopF lcoins_s2 2 ok2 (lcoins_f2 g2_r c2_r g2_2)) (lamCons 0 (loopF lcoins_s0 0 ok0 (lcoins_f0 g0_0)) lamNil)) 1000 Try.f6 (lcoins_S.inp.inj x).tm (lcoins_S.inp.inj x).hp (fnK lcoins_S lcoins_sel Q) (fun _ _ => False) = (lcoins_T ok0 g0_0 ok2 g2_r c2_r g2_2 (x.1.1)).wpR Q := by kernel_rfl

theorem lcoins_main (ok0 : lcoins_s0X → Bool) (g0_0 : lcoins_s0X → lcoins_e0_0X) (ok2 : lcoins_s2X → Bool) (g2_r : lcoins_s2X → lcoins_e2_rX) (c2_r : lcoins_s2X → Bool) (g2_2 : lcoins_s2X → lcoins_e2_2X) (h0 : ∀ s : lcoins_s0X, ok0 s = true → ∃ m e, loopRun (lcoins_U0) m s = some e ∧ (lcoins_f0 g0_0 s).run = some e) (h2 : ∀ s : lcoins_s2X, ok2 s = true → ∃ m e, loopRun (lcoins_U2) m s = some e ∧ (lcoins_f2 g2_r c2_r g2_2 s).run = some e) (pre : lcoinsX → Bool) (F : lcoinsX → OT lcoins_S.Y) (hF : ∀ (x : lcoinsX) oy, pre x = true → (F x).run = some oy → (lcoins_T ok0 g0_0 ok2 g2_r c2_r g2_2 (x.1.1)).run = some oy) : SummOk Try.prog 6 (lcoins_S.summ pre F) :=
  fn_tree te_ok E_tlive_ok E_tlive_any (f := 6) (fn := Try.f6) (c := codeOf Try.f6) (by kernel_rfl) (by kernel_rfl) (by kernel_rfl) (S := lcoins_S) (k := 0) (by kernel_rfl) (fun R hR => (lamOk_cons (c := (codeOf Try.f6)) (by kernel_rfl) (id := 2) (by kernel_rfl) (loop_ok te_ok E_tlive_ok E_tlive_any (sh := lcoins_s2) hR (xs := lcoins_x2) (xsMk_small (by kernel_rfl) (by kernel_rfl) hR) xsMk_pan lamOk_nil (n := 1000) (T := lcoins_U2) (fun s Q => lcoins_q2 s Q) (ok := ok2) (f := lcoins_f2 g2_r c2_r g2_2) h2) (lamOk_cons (c := (codeOf Try.f6)) (by kernel_rfl) (id := 0) (by kernel_rfl) (loop_ok te_ok E_tlive_ok E_tlive_any (sh := lcoins_s0) hR (xs := lcoins_x0) (xsMk_small (by kernel_rfl) (by kernel_rfl) hR) xsMk_pan lamOk_nil (n := 1000) (T := lcoins_U0) (fun s Q => lcoins_q0 s Q) (ok := ok0) (f := lcoins_f0 g0_0) h0) lamOk_nil))) (n := 1000) (sel := lcoins_sel) (fun v o h => by cases h; rfl) (pre := pre) (F := F) (T := fun x => lcoins_T ok0 g0_0 ok2 g2_r c2_r g2_2 (x.1.1)) (fun x Q => lcoins_q ok0 g0_0 ok2 g2_r c2_r g2_2 x Q) hF

def lcoins_ok0 (s : lcoins_s0X) : Bool := decide (s.1.2.2.2.1 = 0 ∧ s.2.1.length ≤ 140737488355328)
def lcoins_g0 (s : lcoins_s0X) : lcoins_e0_0X := ((s.1.1, (), ()), (s.2.2.1, ()))
theorem lcoins_h0 : ∀ s : lcoins_s0X, lcoins_ok0 s = true → ∃ m e, loopRun lcoins_U0 m s = some e ∧ (lcoins_f0 lcoins_g0 s).run = some e := by
  rintro ⟨⟨l, ⟨⟩, ⟨⟩, i, ⟨⟩⟩, ⟨c0, ⟨c1, ⟨⟩⟩, ⟨⟩⟩⟩ h
  have h' := of_decide_eq_true h
  dsimp only at h'
  obtain ⟨rfl, hl⟩ := h'
  have := (loop_upto (T := lcoins_U0) (fun k o => (((l, (), (), (k : Int), ()), (o, (c1, ()), ())) : lcoins_s0X)) (fun k o => o.set k ⟨9, 9, 0, 0⟩)
    (fun o => (⟨(.exit 0, lcoins_e0_0), ((l, (), ()), ((c1, ()), ()))⟩ : LEnd)) c0.length c0 (fun _ o => o.length = c0.length) rfl (fun k o hk ho => ⟨?_, by rw [List.length_set]; exact ho⟩) (fun o ho => ?_)).1
  · obtain ⟨m, hm⟩ := this
    exact ⟨m, _, hm, rfl⟩
  · refine (OT.run_t (decide_eq_true (by dsimp only; omega))).trans ((gd_run ?_).trans ?_)
    · simp only [ho, Int.toNat_natCast, List.all_cons, List.all_nil, Bool.and_true, Bool.and_eq_true]
      exact ⟨inB_of (by omega), decide_eq_true (by omega), inR_of (by omega)⟩
    · simp only [OT.run_ok, Int.toNat_natCast]
      rfl
  · exact OT.run_f (decide_eq_false (by dsimp only; omega))

def lcoins_ok2 (s : lcoins_s2X) : Bool := decide (s.1.2.2.1 = 0 ∧ s.1.1.length ≤ 140737488355328 ∧ s.2.1.1 = s.1.1)
def lcoins_gr2 (_ : lcoins_s2X) : lcoins_e2_rX := ((false, ()), ())
def lcoins_c2 (_ : lcoins_s2X) : Bool := false
def lcoins_g2 (_ : lcoins_s2X) : lcoins_e2_2X := (((), ()), (([], ()), ()))
theorem elem_same (e : Elem) : (!(e.w0 == e.w0 && (e.w1 == e.w1 && (e.w2 == e.w2 && (e.w3 == e.w3 && true))))) = false := by
  simp only [beq_self_eq_true, Bool.and_self, Bool.not_true]
theorem lcoins_h2 : ∀ s : lcoins_s2X, lcoins_ok2 s = true → ∃ m e, loopRun lcoins_U2 m s = some e ∧ (lcoins_f2 lcoins_gr2 lcoins_c2 lcoins_g2 s).run = some e := by
  rintro ⟨⟨l, ⟨⟩, i, ⟨⟩⟩, ⟨⟨c, ⟨⟩⟩, ⟨⟩⟩⟩ h
  have h' := of_decide_eq_true h
  dsimp only at h'
  obtain ⟨rfl, hl, rfl⟩ := h'
  have := (loop_upto (T := lcoins_U2) (fun k o => (((c, (), (k : Int), ()), ((o, ()), ())) : lcoins_s2X)) (fun k _ => c.drop (k + 1))
    (fun o => (⟨(.exit 2, lcoins_e2_2), (((), ()), ((o, ()), ()))⟩ : LEnd)) c.length c (fun k o => o = c.drop k) rfl (fun k o hk ho => ⟨?_, rfl⟩) (fun o ho => ?_))
  · obtain ⟨⟨m, hm⟩, he⟩ := this
    rw [he, List.drop_length] at hm
    exact ⟨m, _, hm, rfl⟩
  · subst ho
    have e1 : c.drop k = c[k] :: c.drop (k + 1) := List.drop_eq_getElem_cons hk
    have e2 : coinOf (c.drop k) = (c[k], 0, c.drop (k + 1)) := by rw [e1]; rfl
    have e3 : ∀ d, c.getD k d = c[k] := fun d => by rw [List.getD_eq_getElem?_getD, List.getElem?_eq_getElem hk]; rfl
    refine (OT.run_t (decide_eq_true (by dsimp only; omega))).trans ((gd_run ?_).trans ?_)
    · simp only [List.all_cons, List.all_nil, Bool.and_true, Bool.and_eq_true]
      refine ⟨decide_eq_true (show (c.drop k).length ≤ _ from ?_), inB_of (by omega)⟩
      rw [List.length_drop]
      omega
    · simp only [e2, Int.toNat_natCast, e3]
      refine (OT.run_f (elem_same _)).trans ((OT.run_f (by rfl)).trans ((gd_run ?_).trans rfl))
      simp only [List.all_cons, List.all_nil, Bool.and_true]
      exact inR_of (by omega)
  · exact OT.run_f (decide_eq_false (by dsimp only; omega))

def lcoins_pre (x : lcoinsX) : Bool := decide (x.1.1.length * 32 ≤ 140737488355328)
def lcoins_F (_ : lcoinsX) : OT lcoins_S.Y := .ok ⟨lcoins_o0, ((true, ()), ())⟩
theorem lcoins_ok : SummOk Try.prog 6 (lcoins_S.summ lcoins_pre lcoins_F) := lcoins_main lcoins_ok0 lcoins_g0 lcoins_ok2 lcoins_gr2 lcoins_c2 lcoins_g2 lcoins_h0 lcoins_h2 _ _ fun x oy hp ho => by
  rw [← ho]
  clear ho
  obtain ⟨⟨l, ⟨⟩⟩, ⟨⟩⟩ := x
  have hp' : l.length * 32 ≤ 140737488355328 := of_decide_eq_true hp
  refine (gd_run ?_).trans ((OT.run_f rfl).trans ((gd_run ?_).trans ((OT.run_t rfl).trans (OT.run_t rfl))))
  · simp only [List.all_cons, List.all_nil, Bool.and_true, Bool.and_eq_true]
    refine ⟨hp, hp, decide_eq_true ⟨rfl, ?_⟩, decide_eq_true ⟨rfl, ?_, rfl⟩⟩
    · show l.length ≤ _
      omega
    · show l.length ≤ _
      omega
  · rfl

def lcoins_summ : Summ := (lcoins_S.summ lcoins_pre lcoins_F)
theorem lcoins_known : SummOk Try.prog 6 lcoins_summ := lcoins_ok
theorem lcoins_smono : MonoOk lcoins_summ := fn_mono

def E_lcoins : Env := envCons 6 lcoins_summ E_tlive
theorem E_lcoins_ok : EnvOk Try.prog E_lcoins := envOk_cons lcoins_known E_tlive_ok
theorem E_lcoins_mono : EnvMono E_lcoins := envMono_cons lcoins_smono E_tlive_mono
theorem E_lcoins_any : AnyOk Try.prog te E_lcoins := any_ok follows te_ok E_lcoins_ok E_lcoins_mono

end Go.Proofs.Ytkngdfhigpjciaa

/- A list among a law's arguments takes no more memory than there is. No statement of a seat is proved here. -/
namespace Go.Proofs.Ytkngdfhigpjciaa
namespace Sx
open Go Go.RowKit Go.ChangeShapes Go.WideShapes Go.ChangeAt

section
variable {H : Type} {enc : TypeId × Value → H} {P : Program} {te : TE} (hte : TeOk P te) {w : World} {sp : Nat → Bool}
include hte

theorem slice_bytes {T e : TypeId} {ti ei : TI} (hT : te T = some ti) (hd : ti.desc = .slice e) (hei : te e = some ei) {ad : Option Addr} {n cap : Nat} {d : DataW H} {ps : List MemPlace}
    (h : DataW.Trod enc P w 0 sp true T (.slice ad n cap) d ps) (hw : ∀ n ∈ d.weights P T, n ≤ reachBytes) : n * ei.bytes ≤ reachBytes := by
  obtain ⟨fuel, hr⟩ := h
  obtain ⟨ds, hu, hds⟩ := (hte T ti hT).desc
  rw [hd] at hds
  simp only at hds
  subst hds
  cases fuel with
  | zero => simp [DataW.trod] at hr
  | succ fuel =>
    have hone : (Value.slice ad n cap).cells.toList = [.slice ad n cap] := rfl
    rw [hone] at hr
    simp only [DataW.trod, hu] at hr
    cases ad with
    | none =>
      rcases n with _ | n
      · rw [Nat.zero_mul]; exact Nat.zero_le _
      · cases cap <;> cases hr
    | some a =>
      simp only at hr
      split at hr
      · simp only [Option.bind_eq_some_iff, Option.map_eq_some_iff] at hr
        obtain ⟨elems, hm, rest, _, hx⟩ := hr
        cases hx
        obtain ⟨m1, _⟩ := mapM_at hm
        rw [List.length_range] at m1
        have hwt := hw ((elems.length + rest.length) * P.bytesOf e) (by simp [DataW.weights, hu])
        rw [bytesOf_te hte hei] at hwt
        refine Nat.le_trans (Nat.mul_le_mul_right _ ?_) hwt
        omega
      · cases hr

/-- The first argument, a list: its length in bytes. -/
theorem list_bytes {T e : TypeId} {ti ei : TI} (hT : te T = some ti) (hd : ti.desc = .slice e) (hei : te e = some ei) {t : Ty} {F : Ctx} {x : List t.T} {v : Value} {d : DataW H} {ps : List MemPlace} {ts : List TypeId} {ds : List (DataW H)}
    (hx : Rep F.F (.list t) x [v]) (h : DataW.Trod enc P w 0 sp true T v d ps) (hw : (DataW.weightsEach P (T :: ts) (d :: ds)).all (· ≤ reachBytes) = true) : x.length * ei.bytes ≤ reachBytes := by
  simp only [Rep] at hx
  obtain ⟨_, ad, cap, hv, _⟩ := hx
  cases hv
  simp only [DataW.weightsEach, List.all_append, Bool.and_eq_true] at hw
  exact slice_bytes hte hT hd hei h fun n hn => by simpa using List.all_eq_true.1 hw.1 n hn

end
end Sx
end Go.Proofs.Ytkngdfhigpjciaa
