/- A symbolic machine for Go code over plain data, and functions of the program as it shows them. No statement is proved in this file. -/
import Derived.KernelRfl
import Derived.Laws.Externs
import Derived.Lib.Mul64
import Derived.Test.YtkngdfhigpjciaaXc
set_option linter.unusedSimpArgs false
set_option linter.unusedVariables false
set_option linter.unusedSectionVars false
/- The function sigil/blake.compress: what it makes of its arguments. No statement of a seat is proved here. -/
namespace Go.Proofs.Ytkngdfhigpjciaa
open Sx Go
set_option maxRecDepth 100000

def bcomp_S : FnSpec := ⟨[.val true (.arr 8 .u64), .val true (.arr 128 .u8), .val false .u64, .val false .bool], [], true, 0, false⟩

abbrev bcompX : Type := ((List (UInt64)) × (List (UInt8)) × (UInt64) × (Bool) × Unit) × (Unit)

def bcomp_s0 : Shape := ⟨127, [(4, .ptr 0 0 0), (5, .ptr 1 0 0), (8, .ptr 2 0 0), (9, .ptr 3 0 0), (11, .ptr 4 0 0), (37, .val false .int)], [(0, .row .u64), (1, .row .u8), (2, .row .u64), (3, .row .u64), (4, .row .u64)], 0, true⟩

abbrev bcomp_s0X : Type := ((Unit) × (Unit) × (Unit) × (Unit) × (Unit) × (Int) × Unit) × ((List (UInt64)) × (List (UInt8)) × (List (UInt64)) × (List (UInt64)) × (List (UInt64)) × Unit)

def bcomp_e0_0 : Shape := ⟨127, [(4, .ptr 0 0 0), (8, .ptr 1 0 0), (9, .ptr 2 0 0), (11, .ptr 3 0 0)], [(0, .row .u64), (1, .row .u64), (2, .row .u64), (3, .row .u64)], 0, true⟩

abbrev bcomp_e0_0X : Type := ((Unit) × (Unit) × (Unit) × (Unit) × Unit) × ((List (UInt64)) × (List (UInt64)) × (List (UInt64)) × (List (UInt64)) × Unit)

def bcomp_x0 : SE → Option Shape := xsMk [(0, bcomp_e0_0)] none

def bcomp_T0 (a37 : Int) (c0 : List (UInt64)) (c1 : List (UInt8)) (c2 : List (UInt64)) (c3 : List (UInt64)) (c4 : List (UInt64)) : OT (Sum bcomp_s0X LEnd) :=
  let z0 : Bool := inR ((8 : Int) * a37)
  let z1 : List UInt8 := List.take (Int.toNat ((8 : Int) * a37 + (8 : Int) - (8 : Int) * a37)) (List.drop (Int.toNat ((8 : Int) * a37)) c1)
  (.br (decide (a37 < (16 : Int)))
  (gd [z0, z0, inR ((8 : Int) * a37 + (8 : Int)), decide ((128 : Nat) ≤ List.length c1) && between ((8 : Int) * a37) ((8 : Int) * a37 + (8 : Int)) (128 : Nat), bword_pre ((z1, ()), ()), inB a37 (16 : Nat), decide (Int.toNat a37 + (0 : Nat) < List.length c4), inR (a37 + (1 : Int))] (.ok (.inl (((), ((), ((), ((), ((), (a37 + (1 : Int), ())))))), (c0, (c1, (c2, (c3, (List.set c4 (Int.toNat a37 + (0 : Nat)) (wordK z1 (List.length z1)), ())))))))))
  (.ok (.inr ⟨(.exit 0, bcomp_e0_0), (((), ((), ((), ((), ())))), (c0, (c2, (c3, (c4, ())))))⟩)))

def bcomp_U0 (s : bcomp_s0X) : OT (Sum bcomp_s0X LEnd) := bcomp_T0 (s.1.2.2.2.2.2.1) (s.2.1) (s.2.2.1) (s.2.2.2.1) (s.2.2.2.2.1) (s.2.2.2.2.2.1)

theorem bcomp_q0 (s : bcomp_s0X) (Q : Sum bcomp_s0X LEnd → Prop) : wps te E_bat lamNil 1000 (loopOf (codeOf Try.f25) 0) (bcomp_s0.inj s) (stepK bcomp_s0 bcomp_x0 (Q : Sum bcomp_s0.T LEnd → Prop)) = (bcomp_U0 s).wpR Q := by kernel_rfl

def bcomp_f0 (g0_0 : bcomp_s0X → bcomp_e0_0X) (s : bcomp_s0X) : OT LEnd := (.ok ⟨(.exit 0, bcomp_e0_0), g0_0 s⟩)

def bcomp_s2 : Shape := ⟨127, [(4, .ptr 0 0 0), (8, .ptr 1 0 0), (9, .ptr 2 0 0), (11, .ptr 3 0 0), (13, .ptr 4 0 0), (51, .val false .int)], [(0, .row .u64), (1, .row .u64), (2, .row .u64), (3, .row .u64), (4, .row .str)], 0, true⟩

abbrev bcomp_s2X : Type := ((Unit) × (Unit) × (Unit) × (Unit) × (Unit) × (Int) × Unit) × ((List (UInt64)) × (List (UInt64)) × (List (UInt64)) × (List (UInt64)) × (List (List UInt8)) × Unit)

def bcomp_s4 : Shape := ⟨127, [(4, .ptr 0 0 0), (8, .ptr 1 0 0), (9, .ptr 2 0 0), (11, .ptr 3 0 0), (13, .ptr 4 0 0), (16, .fn 35 [3, 5]), (51, .val false .int), (59, .val false .int)], [(0, .row .u64), (1, .row .u64), (2, .row .u64), (3, .row .u64), (4, .row .str), (5, .cells [.val false .str])], 0, true⟩

abbrev bcomp_s4X : Type := ((Unit) × (Unit) × (Unit) × (Unit) × (Unit) × (Unit) × (Int) × (Int) × Unit) × ((List (UInt64)) × (List (UInt64)) × (List (UInt64)) × (List (UInt64)) × (List (List UInt8)) × ((List UInt8) × Unit) × Unit)

def bcomp_e4_4 : Shape := ⟨127, [(4, .ptr 0 0 0), (8, .ptr 1 0 0), (9, .ptr 2 0 0), (11, .ptr 3 0 0), (13, .ptr 4 0 0), (16, .fn 35 [3, 5]), (51, .val false .int)], [(0, .row .u64), (1, .row .u64), (2, .row .u64), (3, .row .u64), (4, .row .str), (5, .cells [.val false .str])], 0, true⟩

abbrev bcomp_e4_4X : Type := ((Unit) × (Unit) × (Unit) × (Unit) × (Unit) × (Unit) × (Int) × Unit) × ((List (UInt64)) × (List (UInt64)) × (List (UInt64)) × (List (UInt64)) × (List (List UInt8)) × ((List UInt8) × Unit) × Unit)

def bcomp_x4 : SE → Option Shape := xsMk [(4, bcomp_e4_4)] none

def bcomp_T4 (a51 : Int) (a59 : Int) (c0 : List (UInt64)) (c1 : List (UInt64)) (c2 : List (UInt64)) (c3 : List (UInt64)) (c4 : List (List UInt8)) (c5_0 : List UInt8) : OT (Sum bcomp_s4X LEnd) :=
  let z0 : Bool := inR ((2 : Int) * a59)
  let z1 : PUnit × PUnit × PUnit := ((), (), ())
  let z2 : List UInt64 × (List UInt8 × PUnit) × PUnit := (c3, (c5_0, ()), ())
  let z3 : UInt64 := atF c3 c5_0 ((2 : Int) * a59)
  let z4 : UInt64 := atF c3 c5_0 ((2 : Int) * a59 + (1 : Int))
  (.br (decide (a59 < (4 : Int)))
  (gd [inR ((4 : Int) + a59), inR ((8 : Int) + a59), inR ((12 : Int) + a59), z0, bat_pre (((2 : Int) * a59, z1), z2), z0, inR ((2 : Int) * a59 + (1 : Int)), bat_pre (((2 : Int) * a59 + (1 : Int), z1), z2), bmix_pre (((), a59, (4 : Int) + a59, (8 : Int) + a59, (12 : Int) + a59, z3, z4, ()), c2, ()), inR (a59 + (1 : Int))] (.ok (.inl (((), ((), ((), ((), ((), ((), (a51, (a59 + (1 : Int), ())))))))), (c0, (c1, (gmix c2 (Int.toNat a59) (Int.toNat ((4 : Int) + a59)) (Int.toNat ((8 : Int) + a59)) (Int.toNat ((12 : Int) + a59)) z3 z4, (c3, (c4, ((c5_0, ()), ()))))))))))
  (.ok (.inr ⟨(.exit 4, bcomp_e4_4), (((), ((), ((), ((), ((), ((), (a51, ()))))))), (c0, (c1, (c2, (c3, (c4, ((c5_0, ()), ())))))))⟩)))

def bcomp_U4 (s : bcomp_s4X) : OT (Sum bcomp_s4X LEnd) := bcomp_T4 (s.1.2.2.2.2.2.2.1) (s.1.2.2.2.2.2.2.2.1) (s.2.1) (s.2.2.1) (s.2.2.2.1) (s.2.2.2.2.1) (s.2.2.2.2.2.1) (s.2.2.2.2.2.2.1.1)

theorem bcomp_q4 (s : bcomp_s4X) (Q : Sum bcomp_s4X LEnd → Prop) : wps te E_bat lamNil 1000 (loopOf (loopOf (codeOf Try.f25) 2) 4) (bcomp_s4.inj s) (stepK bcomp_s4 bcomp_x4 (Q : Sum bcomp_s4.T LEnd → Prop)) = (bcomp_U4 s).wpR Q := by kernel_rfl

def bcomp_f4 (g4_4 : bcomp_s4X → bcomp_e4_4X) (s : bcomp_s4X) : OT LEnd := (.ok ⟨(.exit 4, bcomp_e4_4), g4_4 s⟩)

def bcomp_s6 : Shape := ⟨127, [(4, .ptr 0 0 0), (8, .ptr 1 0 0), (9, .ptr 2 0 0), (11, .ptr 3 0 0), (13, .ptr 4 0 0), (16, .fn 35 [3, 5]), (51, .val false .int), (80, .val false .int)], [(0, .row .u64), (1, .row .u64), (2, .row .u64), (3, .row .u64), (4, .row .str), (5, .cells [.val false .str])], 0, true⟩

abbrev bcomp_s6X : Type := ((Unit) × (Unit) × (Unit) × (Unit) × (Unit) × (Unit) × (Int) × (Int) × Unit) × ((List (UInt64)) × (List (UInt64)) × (List (UInt64)) × (List (UInt64)) × (List (List UInt8)) × ((List UInt8) × Unit) × Unit)

def bcomp_e6_6 : Shape := ⟨127, [(4, .ptr 0 0 0), (8, .ptr 1 0 0), (9, .ptr 2 0 0), (11, .ptr 3 0 0), (13, .ptr 4 0 0), (51, .val false .int)], [(0, .row .u64), (1, .row .u64), (2, .row .u64), (3, .row .u64), (4, .row .str)], 0, true⟩

abbrev bcomp_e6_6X : Type := ((Unit) × (Unit) × (Unit) × (Unit) × (Unit) × (Int) × Unit) × ((List (UInt64)) × (List (UInt64)) × (List (UInt64)) × (List (UInt64)) × (List (List UInt8)) × Unit)

def bcomp_x6 : SE → Option Shape := xsMk [(6, bcomp_e6_6)] none

def bcomp_T6 (a51 : Int) (a80 : Int) (c0 : List (UInt64)) (c1 : List (UInt64)) (c2 : List (UInt64)) (c3 : List (UInt64)) (c4 : List (List UInt8)) (c5_0 : List UInt8) : OT (Sum bcomp_s6X LEnd) :=
  let z0 : Bool := inR (a80 + (1 : Int))
  let z1 : Int := (4 : Int) + Int.tmod (a80 + (1 : Int)) (4 : Int)
  let z2 : Int := (8 : Int) + Int.tmod (a80 + (2 : Int)) (4 : Int)
  let z3 : Int := (12 : Int) + Int.tmod (a80 + (3 : Int)) (4 : Int)
  let z4 : Bool := inR ((2 : Int) * a80)
  let z5 : PUnit × PUnit × PUnit := ((), (), ())
  let z6 : List UInt64 × (List UInt8 × PUnit) × PUnit := (c3, (c5_0, ()), ())
  let z7 : UInt64 := atF c3 c5_0 ((8 : Int) + (2 : Int) * a80)
  let z8 : UInt64 := atF c3 c5_0 ((9 : Int) + (2 : Int) * a80)
  (.br (decide (a80 < (4 : Int)))
  (gd [z0, inR z1, inR (a80 + (2 : Int)), inR z2, inR (a80 + (3 : Int)), inR z3, z4, inR ((8 : Int) + (2 : Int) * a80), bat_pre (((8 : Int) + (2 : Int) * a80, z5), z6), z4, inR ((9 : Int) + (2 : Int) * a80), bat_pre (((9 : Int) + (2 : Int) * a80, z5), z6), bmix_pre (((), a80, z1, z2, z3, z7, z8, ()), c2, ()), z0] (.ok (.inl (((), ((), ((), ((), ((), ((), (a51, (a80 + (1 : Int), ())))))))), (c0, (c1, (gmix c2 (Int.toNat a80) (Int.toNat z1) (Int.toNat z2) (Int.toNat z3) z7 z8, (c3, (c4, ((c5_0, ()), ()))))))))))
  (.ok (.inr ⟨(.exit 6, bcomp_e6_6), (((), ((), ((), ((), ((), (a51, ())))))), (c0, (c1, (c2, (c3, (c4, ()))))))⟩)))

def bcomp_U6 (s : bcomp_s6X) : OT (Sum bcomp_s6X LEnd) := bcomp_T6 (s.1.2.2.2.2.2.2.1) (s.1.2.2.2.2.2.2.2.1) (s.2.1) (s.2.2.1) (s.2.2.2.1) (s.2.2.2.2.1) (s.2.2.2.2.2.1) (s.2.2.2.2.2.2.1.1)

theorem bcomp_q6 (s : bcomp_s6X) (Q : Sum bcomp_s6X LEnd → Prop) : wps te E_bat lamNil 1000 (loopOf (loopOf (codeOf Try.f25) 2) 6) (bcomp_s6.inj s) (stepK bcomp_s6 bcomp_x6 (Q : Sum bcomp_s6.T LEnd → Prop)) = (bcomp_U6 s).wpR Q := by kernel_rfl

def bcomp_f6 (g6_6 : bcomp_s6X → bcomp_e6_6X) (s : bcomp_s6X) : OT LEnd := (.ok ⟨(.exit 6, bcomp_e6_6), g6_6 s⟩)

def bcomp_e2_2 : Shape := ⟨127, [(4, .ptr 0 0 0), (8, .ptr 1 0 0), (9, .ptr 2 0 0)], [(0, .row .u64), (1, .row .u64), (2, .row .u64)], 0, true⟩

abbrev bcomp_e2_2X : Type := ((Unit) × (Unit) × (Unit) × Unit) × ((List (UInt64)) × (List (UInt64)) × (List (UInt64)) × Unit)

def bcomp_x2 : SE → Option Shape := xsMk [(2, bcomp_e2_2)] none

def bcomp_T2 (ok4 : bcomp_s4X → Bool) (g4_4 : bcomp_s4X → bcomp_e4_4X) (ok6 : bcomp_s6X → Bool) (g6_6 : bcomp_s6X → bcomp_e6_6X) (a51 : Int) (c0 : List (UInt64)) (c1 : List (UInt64)) (c2 : List (UInt64)) (c3 : List (UInt64)) (c4 : List (List UInt8)) : OT (Sum bcomp_s2X LEnd) :=
  let z0 : Int := Int.tmod a51 (10 : Int)
  let z1 : (PUnit × PUnit × PUnit × PUnit × PUnit × PUnit × Int × Int × PUnit) × List UInt64 × List UInt64 × List UInt64 × List UInt64 × List (List UInt8) × (List UInt8 × PUnit) × PUnit := (((), (), (), (), (), (), a51, (0 : Int), ()), c0, c1, c2, c3, c4, (List.getD c4 (Int.toNat z0 + (0 : Nat)) [], ()), ())
  let z2 : (PUnit × PUnit × PUnit × PUnit × PUnit × PUnit × Int × PUnit) × List UInt64 × List UInt64 × List UInt64 × List UInt64 × List (List UInt8) × (List UInt8 × PUnit) × PUnit := g4_4 z1
  let z3 : List UInt64 × List UInt64 × List UInt64 × List UInt64 × List (List UInt8) × (List UInt8 × PUnit) × PUnit := z2.snd
  let z4 : List UInt64 × List UInt64 × List UInt64 × List (List UInt8) × (List UInt8 × PUnit) × PUnit := z3.snd
  let z5 : List UInt64 × List UInt64 × List (List UInt8) × (List UInt8 × PUnit) × PUnit := z4.snd
  let z6 : List UInt64 × List (List UInt8) × (List UInt8 × PUnit) × PUnit := z5.snd
  let z7 : List (List UInt8) × (List UInt8 × PUnit) × PUnit := z6.snd
  let z8 : (PUnit × PUnit × PUnit × PUnit × PUnit × PUnit × Int × Int × PUnit) × List UInt64 × List UInt64 × List UInt64 × List UInt64 × List (List UInt8) × (List UInt8 × PUnit) × PUnit := (((), (), (), (), (), (), z2.fst.snd.snd.snd.snd.snd.snd.fst, (0 : Int), ()), z3.fst, z4.fst, z5.fst, z6.fst, z7.fst, (z7.snd.fst.fst, ()), ())
  let z9 : (PUnit × PUnit × PUnit × PUnit × PUnit × Int × PUnit) × List UInt64 × List UInt64 × List UInt64 × List UInt64 × List (List UInt8) × PUnit := g6_6 z8
  let z10 : List UInt64 × List UInt64 × List UInt64 × List UInt64 × List (List UInt8) × PUnit := z9.snd
  let z11 : List UInt64 × List UInt64 × List UInt64 × List (List UInt8) × PUnit := z10.snd
  let z12 : List UInt64 × List UInt64 × List (List UInt8) × PUnit := z11.snd
  let z13 : List UInt64 × List (List UInt8) × PUnit := z12.snd
  (.br (decide (a51 < (12 : Int)))
  (gd [inB z0 (10 : Nat), decide (Int.toNat z0 + (0 : Nat) < List.length c4), ok4 z1, ok6 z8, inR (z9.fst.snd.snd.snd.snd.snd.fst + (1 : Int))] (.ok (.inl (((), ((), ((), ((), ((), (z9.fst.snd.snd.snd.snd.snd.fst + (1 : Int), ())))))), (z10.fst, (z11.fst, (z12.fst, (z13.fst, (z13.snd.fst, ())))))))))
  (.ok (.inr ⟨(.exit 2, bcomp_e2_2), (((), ((), ((), ()))), (c0, (c1, (c2, ()))))⟩)))

def bcomp_U2 (ok4 : bcomp_s4X → Bool) (g4_4 : bcomp_s4X → bcomp_e4_4X) (ok6 : bcomp_s6X → Bool) (g6_6 : bcomp_s6X → bcomp_e6_6X) (s : bcomp_s2X) : OT (Sum bcomp_s2X LEnd) := bcomp_T2 ok4 g4_4 ok6 g6_6 (s.1.2.2.2.2.2.1) (s.2.1) (s.2.2.1) (s.2.2.2.1) (s.2.2.2.2.1) (s.2.2.2.2.2.1)

theorem bcomp_q2 (ok4 : bcomp_s4X → Bool) (g4_4 : bcomp_s4X → bcomp_e4_4X) (ok6 : bcomp_s6X → Bool) (g6_6 : bcomp_s6X → bcomp_e6_6X) (s : bcomp_s2X) (Q : Sum bcomp_s2X LEnd → Prop) : wps te E_bat (lamCons 6 (loopF bcomp_s6 6 ok6 (bcomp_f6 g6_6)) (lamCons 4 (loopF bcomp_s4 4 ok4 (bcomp_f4 g4_4)) lamNil)) 1000 (loopOf (codeOf Try.f25) 2) (bcomp_s2.inj s) (stepK bcomp_s2 bcomp_x2 (Q : Sum bcomp_s2.T LEnd → Prop)) = (bcomp_U2 ok4 g4_4 ok6 g6_6 s).wpR Q := by kernel_rfl

def bcomp_f2 (g2_2 : bcomp_s2X → bcomp_e2_2X) (s : bcomp_s2X) : OT LEnd := (.ok ⟨(.exit 2, bcomp_e2_2), g2_2 s⟩)

def bcomp_s8 : Shape := ⟨127, [(4, .ptr 0 0 0), (8, .ptr 1 0 0), (9, .ptr 2 0 0), (109, .val false .int)], [(0, .row .u64), (1, .row .u64), (2, .row .u64)], 0, true⟩

abbrev bcomp_s8X : Type := ((Unit) × (Unit) × (Unit) × (Int) × Unit) × ((List (UInt64)) × (List (UInt64)) × (List (UInt64)) × Unit)

def bcomp_e8_8 : Shape := ⟨127, [(4, .ptr 0 0 0), (8, .ptr 1 0 0)], [(0, .row .u64), (1, .row .u64)], 0, true⟩

abbrev bcomp_e8_8X : Type := ((Unit) × (Unit) × Unit) × ((List (UInt64)) × (List (UInt64)) × Unit)

def bcomp_x8 : SE → Option Shape := xsMk [(8, bcomp_e8_8)] none

def bcomp_T8 (a109 : Int) (c0 : List (UInt64)) (c1 : List (UInt64)) (c2 : List (UInt64)) : OT (Sum bcomp_s8X LEnd) :=
  let z0 : Bool := inB a109 (8 : Nat)
  let z1 : Bool := decide (Int.toNat a109 + (0 : Nat) < List.length c0)
  let z2 : Nat := List.length c2
  (.br (decide (a109 < (8 : Int)))
  (gd [z0, z1, inB a109 (16 : Nat), decide (Int.toNat a109 + (0 : Nat) < z2), inR (a109 + (8 : Int)), inB (a109 + (8 : Int)) (16 : Nat), decide (Int.toNat (a109 + (8 : Int)) + (0 : Nat) < z2), z0, z1, inR (a109 + (1 : Int))] (.ok (.inl (((), ((), ((), (a109 + (1 : Int), ())))), (List.set c0 (Int.toNat a109 + (0 : Nat)) (List.getD c0 (Int.toNat a109 + (0 : Nat)) (0 : UInt64) ^^^ (List.getD c2 (Int.toNat a109 + (0 : Nat)) (0 : UInt64) ^^^ List.getD c2 (Int.toNat (a109 + (8 : Int)) + (0 : Nat)) (0 : UInt64))), (c1, (c2, ())))))))
  (.ok (.inr ⟨(.exit 8, bcomp_e8_8), (((), ((), ())), (c0, (c1, ())))⟩)))

def bcomp_U8 (s : bcomp_s8X) : OT (Sum bcomp_s8X LEnd) := bcomp_T8 (s.1.2.2.2.1) (s.2.1) (s.2.2.1) (s.2.2.2.1)

theorem bcomp_q8 (s : bcomp_s8X) (Q : Sum bcomp_s8X LEnd → Prop) : wps te E_bat lamNil 1000 (loopOf (codeOf Try.f25) 8) (bcomp_s8.inj s) (stepK bcomp_s8 bcomp_x8 (Q : Sum bcomp_s8.T LEnd → Prop)) = (bcomp_U8 s).wpR Q := by kernel_rfl

def bcomp_f8 (g8_8 : bcomp_s8X → bcomp_e8_8X) (s : bcomp_s8X) : OT LEnd := (.ok ⟨(.exit 8, bcomp_e8_8), g8_8 s⟩)

def bcomp_o0 : OutSh := ⟨[.val true (.arr 8 .u64)], [], false⟩

def bcomp_sel : SV → Option OutSh := fun _ => some bcomp_o0

def bcomp_T (ok0 : bcomp_s0X → Bool) (g0_0 : bcomp_s0X → bcomp_e0_0X) (ok4 : bcomp_s4X → Bool) (g4_4 : bcomp_s4X → bcomp_e4_4X) (ok6 : bcomp_s6X → Bool) (g6_6 : bcomp_s6X → bcomp_e6_6X) (ok2 : bcomp_s2X → Bool) (g2_2 : bcomp_s2X → bcomp_e2_2X) (ok8 : bcomp_s8X → Bool) (g8_8 : bcomp_s8X → bcomp_e8_8X) (a0 : List (UInt64)) (a1 : List (UInt8)) (a2 : UInt64) (a3 : Bool) : OT bcomp_S.Y :=
  let z0 : PUnit × PUnit × PUnit × PUnit × PUnit × Int × PUnit := ((), (), (), (), (), (0 : Int), ())
  let z1 : List UInt64 := tab a0 (8 : Nat) (0 : UInt64)
  let z2 : List UInt8 := tab a1 (128 : Nat) (0 : UInt8)
  let z3 : List UInt64 := [] ++ (List.take (8 : Nat) z1 ++ List.drop ((0 : Nat) + min (List.length z1) (8 : Nat)) [(0 : UInt64), (0 : UInt64), (0 : UInt64), (0 : UInt64), (0 : UInt64), (0 : UInt64), (0 : UInt64), (0 : UInt64), (0 : UInt64), (0 : UInt64), (0 : UInt64), (0 : UInt64), (0 : UInt64), (0 : UInt64), (0 : UInt64), (0 : UInt64)])
  let z4 : List UInt64 := List.take (8 : Nat) z3 ++ ([(7640891576956012808 : UInt64), (13503953896175478587 : UInt64), (4354685564936845355 : UInt64), (11912009170470909681 : UInt64), (5840696475078001361 : UInt64), (11170449401992604703 : UInt64), (2270897969802886507 : UInt64), (6620516959819538809 : UInt64)] ++ List.drop (16 : Nat) z3)
  let z5 : List UInt64 := List.set z4 (12 : Nat) (List.getD z4 (12 : Nat) (0 : UInt64) ^^^ a2)
  let z6 : List UInt64 × PUnit := ([(0 : UInt64), (0 : UInt64), (0 : UInt64), (0 : UInt64), (0 : UInt64), (0 : UInt64), (0 : UInt64), (0 : UInt64), (0 : UInt64), (0 : UInt64), (0 : UInt64), (0 : UInt64), (0 : UInt64), (0 : UInt64), (0 : UInt64), (0 : UInt64)], ())
  let z7 : (PUnit × PUnit × PUnit × PUnit × PUnit × Int × PUnit) × List UInt64 × List UInt8 × List UInt64 × List UInt64 × List UInt64 × PUnit := (z0, z1, z2, [(0 : UInt64), (0 : UInt64), (0 : UInt64), (0 : UInt64), (0 : UInt64), (0 : UInt64), (0 : UInt64), (0 : UInt64)], List.set z5 (14 : Nat) (~~~List.getD z5 (14 : Nat) (0 : UInt64)), z6)
  let z8 : PUnit × PUnit × PUnit × PUnit × PUnit × Int × PUnit := ((), (), (), (), (), (0 : Int), ())
  let z9 : List UInt64 × List UInt64 × List UInt64 × List UInt64 × PUnit := (g0_0 z7).snd
  let z10 : List UInt64 × List UInt64 × List UInt64 × PUnit := z9.snd
  let z11 : List UInt64 × List UInt64 × PUnit := z10.snd
  let z12 : List (List UInt8) × PUnit := ([List.getD bSched (0 : Nat) [], List.getD bSched (1 : Nat) [], List.getD bSched (2 : Nat) [], List.getD bSched (3 : Nat) [], List.getD bSched (4 : Nat) [], List.getD bSched (5 : Nat) [], List.getD bSched (6 : Nat) [], List.getD bSched (7 : Nat) [], List.getD bSched (8 : Nat) [], List.getD bSched (9 : Nat) []], ())
  let z13 : (PUnit × PUnit × PUnit × PUnit × PUnit × Int × PUnit) × List UInt64 × List UInt64 × List UInt64 × List UInt64 × List (List UInt8) × PUnit := (z8, z9.fst, z10.fst, z11.fst, z11.snd.fst, z12)
  let z14 : PUnit × PUnit × PUnit × Int × PUnit := ((), (), (), (0 : Int), ())
  let z15 : List UInt64 × List UInt64 × List UInt64 × PUnit := (g2_2 z13).snd
  let z16 : List UInt64 × List UInt64 × PUnit := z15.snd
  let z17 : (PUnit × PUnit × PUnit × Int × PUnit) × List UInt64 × List UInt64 × List UInt64 × PUnit := (z14, z15.fst, z16.fst, z16.snd.fst, ())
  let z18 : List UInt64 × List UInt64 × PUnit := (g8_8 z17).snd
  let z19 : List UInt64 := z18.fst
  let z20 : List UInt64 := z18.snd.fst
  let z21 : List UInt64 := lay z20 z19 (8 : Nat) (0 : UInt64)
  let z22 : (PUnit × PUnit × PUnit × PUnit × PUnit × Int × PUnit) × List UInt64 × List UInt8 × List UInt64 × List UInt64 × List UInt64 × PUnit := (z0, z1, z2, [(0 : UInt64), (0 : UInt64), (0 : UInt64), (0 : UInt64), (0 : UInt64), (0 : UInt64), (0 : UInt64), (0 : UInt64)], z5, z6)
  let z23 : List UInt64 × List UInt64 × List UInt64 × List UInt64 × PUnit := (g0_0 z22).snd
  let z24 : List UInt64 × List UInt64 × List UInt64 × PUnit := z23.snd
  let z25 : List UInt64 × List UInt64 × PUnit := z24.snd
  let z26 : (PUnit × PUnit × PUnit × PUnit × PUnit × Int × PUnit) × List UInt64 × List UInt64 × List UInt64 × List UInt64 × List (List UInt8) × PUnit := (z8, z23.fst, z24.fst, z25.fst, z25.snd.fst, z12)
  let z27 : List UInt64 × List UInt64 × List UInt64 × PUnit := (g2_2 z26).snd
  let z28 : List UInt64 × List UInt64 × PUnit := z27.snd
  let z29 : (PUnit × PUnit × PUnit × Int × PUnit) × List UInt64 × List UInt64 × List UInt64 × PUnit := (z14, z27.fst, z28.fst, z28.snd.fst, ())
  let z30 : List UInt64 × List UInt64 × PUnit := (g8_8 z29).snd
  let z31 : List UInt64 := z30.fst
  let z32 : List UInt64 := z30.snd.fst
  let z33 : List UInt64 := lay z32 z31 (8 : Nat) (0 : UInt64)
  (.br (a3)
  (gd [ok0 z7, ok2 z13, ok8 z17, decide ((8 : Nat) ≤ List.length z19), decide ((8 / 1 : Nat) + (0 : Nat) ≤ List.length z20), decide ((8 : Nat) ≤ List.length z21)] (.ok ⟨bcomp_o0, ((tab z21 (8 : Nat) (0 : UInt64), ()), ())⟩))
  (gd [ok0 z22, ok2 z26, ok8 z29, decide ((8 : Nat) ≤ List.length z31), decide ((8 / 1 : Nat) + (0 : Nat) ≤ List.length z32), decide ((8 : Nat) ≤ List.length z33)] (.ok ⟨bcomp_o0, ((tab z33 (8 : Nat) (0 : UInt64), ()), ())⟩)))

theorem bcomp_q (ok0 : bcomp_s0X → Bool) (g0_0 : bcomp_s0X → bcomp_e0_0X) (ok4 : bcomp_s4X → Bool) (g4_4 : bcomp_s4X → bcomp_e4_4X) (ok6 : bcomp_s6X → Bool) (g6_6 : bcomp_s6X → bcomp_e6_6X) (ok2 : bcomp_s2X → Bool) (g2_2 : bcomp_s2X → bcomp_e2_2X) (ok8 : bcomp_s8X → Bool) (g8_8 : bcomp_s8X → bcomp_e8_8X) (x : bcompX) (Q : bcomp_S.Y → Prop) : wpf te E_bat (lamCons 8 (loopF bcomp_s8 8 ok8 (bcomp_f8 g8_8)) (lamCons 2 (loopF bcomp_s2 2 ok2 (bcomp_f2 g2_2)) (lamCons 0 (loopF bcomp_s0 0 ok0 (bcomp_f0 g0_0)) lamNil))) 1000 Try.f25 (bcomp_S.inp.inj x).tm (bcomp_S.inp.inj x).hp (fnK bcomp_S bcomp_sel Q) (fun _ _ => False) = (bcomp_T ok0 g0_0 ok4 g4_4 ok6 g6_6 ok2 g2_2 ok8 g8_8 (x.1.1) (x.1.2.1) (x.1.2.2.1) (x.1.2.2.2.1)).wpR Q := by kernel_rfl

theorem bcomp_main (ok0 : bcomp_s0X → Bool) (g0_0 : bcomp_s0X → bcomp_e0_0X) (ok4 : bcomp_s4X → Bool) (g4_4 : bcomp_s4X → bcomp_e4_4X) (ok6 : bcomp_s6X → Bool) (g6_6 : bcomp_s6X → bcomp_e6_6X) (ok2 : bcomp_s2X → Bool) (g2_2 : bcomp_s2X → bcomp_e2_2X) (ok8 : bcomp_s8X → Bool) (g8_8 : bcomp_s8X → bcomp_e8_8X) (h0 : ∀ s : bcomp_s0X, ok0 s = true → ∃ m e, loopRun (bcomp_U0) m s = some e ∧ (bcomp_f0 g0_0 s).run = some e) (h4 : ∀ s : bcomp_s4X, ok4 s = true → ∃ m e, loopRun (bcomp_U4) m s = some e ∧ (bcomp_f4 g4_4 s).run = some e) (h6 : ∀ s : bcomp_s6X, ok6 s = true → ∃ m e, loopRun (bcomp_U6) m s = some e ∧ (bcomp_f6 g6_6 s).run = some e) (h2 : ∀ s : bcomp_s2X, ok2 s = true → ∃ m e, loopRun (bcomp_U2 ok4 g4_4 ok6 g6_6) m s = some e ∧ (bcomp_f2 g2_2 s).run = some e) (h8 : ∀ s : bcomp_s8X, ok8 s = true → ∃ m e, loopRun (bcomp_U8) m s = some e ∧ (bcomp_f8 g8_8 s).run = some e) (pre : bcompX → Bool) (F : bcompX → OT bcomp_S.Y) (hF : ∀ (x : bcompX) oy, pre x = true → (F x).run = some oy → (bcomp_T ok0 g0_0 ok4 g4_4 ok6 g6_6 ok2 g2_2 ok8 g8_8 (x.1.1) (x.1.2.1) (x.1.2.2.1) (x.1.2.2.2.1)).run = some oy) : SummOk Try.prog 25 (bcomp_S.summ pre F) :=
  fn_tree te_ok E_bat_ok E_bat_any (f := 25) (fn := Try.f25) (c := codeOf Try.f25) (by kernel_rfl) (by kernel_rfl) (by kernel_rfl) (S := bcomp_S) (k := 0) (by kernel_rfl) (fun R hR => (lamOk_cons (c := (codeOf Try.f25)) (by kernel_rfl) (id := 8) (by kernel_rfl) (loop_ok te_ok E_bat_ok E_bat_any (sh := bcomp_s8) hR (xs := bcomp_x8) (xsMk_small (by kernel_rfl) (by kernel_rfl) hR) xsMk_pan lamOk_nil (n := 1000) (T := bcomp_U8) (fun s Q => bcomp_q8 s Q) (ok := ok8) (f := bcomp_f8 g8_8) h8) (lamOk_cons (c := (codeOf Try.f25)) (by kernel_rfl) (id := 2) (by kernel_rfl) (loop_ok te_ok E_bat_ok E_bat_any (sh := bcomp_s2) hR (xs := bcomp_x2) (xsMk_small (by kernel_rfl) (by kernel_rfl) hR) xsMk_pan (lamOk_cons (c := (loopOf (codeOf Try.f25) 2)) (by kernel_rfl) (id := 6) (by kernel_rfl) (loop_ok te_ok E_bat_ok E_bat_any (sh := bcomp_s6) hR (xs := bcomp_x6) (xsMk_small (by kernel_rfl) (by kernel_rfl) hR) xsMk_pan lamOk_nil (n := 1000) (T := bcomp_U6) (fun s Q => bcomp_q6 s Q) (ok := ok6) (f := bcomp_f6 g6_6) h6) (lamOk_cons (c := (loopOf (codeOf Try.f25) 2)) (by kernel_rfl) (id := 4) (by kernel_rfl) (loop_ok te_ok E_bat_ok E_bat_any (sh := bcomp_s4) hR (xs := bcomp_x4) (xsMk_small (by kernel_rfl) (by kernel_rfl) hR) xsMk_pan lamOk_nil (n := 1000) (T := bcomp_U4) (fun s Q => bcomp_q4 s Q) (ok := ok4) (f := bcomp_f4 g4_4) h4) lamOk_nil)) (n := 1000) (T := bcomp_U2 ok4 g4_4 ok6 g6_6) (fun s Q => bcomp_q2 ok4 g4_4 ok6 g6_6 s Q) (ok := ok2) (f := bcomp_f2 g2_2) h2) (lamOk_cons (c := (codeOf Try.f25)) (by kernel_rfl) (id := 0) (by kernel_rfl) (loop_ok te_ok E_bat_ok E_bat_any (sh := bcomp_s0) hR (xs := bcomp_x0) (xsMk_small (by kernel_rfl) (by kernel_rfl) hR) xsMk_pan lamOk_nil (n := 1000) (T := bcomp_U0) (fun s Q => bcomp_q0 s Q) (ok := ok0) (f := bcomp_f0 g0_0) h0) lamOk_nil)))) (n := 1000) (sel := bcomp_sel) (fun v o h => by cases h; rfl) (pre := pre) (F := F) (T := fun x => bcomp_T ok0 g0_0 ok4 g4_4 ok6 g6_6 ok2 g2_2 ok8 g8_8 (x.1.1) (x.1.2.1) (x.1.2.2.1) (x.1.2.2.2.1)) (fun x Q => bcomp_q ok0 g0_0 ok4 g4_4 ok6 g6_6 ok2 g2_2 ok8 g8_8 x Q) hF

/-- The words of a block. -/
def wordAt (b : List UInt8) (i : Nat) : UInt64 := wordK ((b.drop (8 * i)).take 8) 8
def wordsOf (b : List UInt8) : List UInt64 := upto (fun k m => m.set k (wordAt b k)) (List.replicate 16 0) 16

def rowOk (row : List UInt8) : Bool := decide (row.length = 16) && (List.range 16).all fun i => inB (nib (row.getD i 0)) 16

theorem rowOk_get {row : List UInt8} (h : rowOk row = true) {i : Nat} (hi : i < 16) : inB (nib (row.getD i 0)) 16 = true := by
  simp only [rowOk, Bool.and_eq_true, List.all_eq_true] at h
  exact h.2 i (by simpa using hi)

theorem bat_pre_of {m : List UInt64} {row : List UInt8} (hm : m.length = 16) (hr : rowOk row = true) {i : Int} (h0 : 0 ≤ i) (h1 : i < 16) (u : Unit × Unit × Unit) (u2 : Unit) (u3 : Unit) : bat_pre ((i, u), (m, ((row, u2), u3))) = true := by
  have hl : row.length = 16 := by
    simp only [rowOk, Bool.and_eq_true, decide_eq_true_eq] at hr
    exact hr.1
  have := rowOk_get hr (i := i.toNat) (by omega)
  simp only [bat_pre, Bool.and_eq_true, decide_eq_true_eq]
  exact ⟨⟨inB_of (by omega), this⟩, hm⟩

theorem bmix_pre_of {v : List UInt64} (hv : v.length = 16) {a b c d : Int} (ha : 0 ≤ a ∧ a < 16) (hb : 0 ≤ b ∧ b < 16) (hc : 0 ≤ c ∧ c < 16) (hd : 0 ≤ d ∧ d < 16) (x y : UInt64) (u1 u2 u3 : Unit) : bmix_pre ((u1, a, b, c, d, x, y, u2), (v, u3)) = true := by
  simp only [bmix_pre, Bool.and_eq_true, decide_eq_true_eq]
  exact ⟨⟨⟨⟨inB_of ha, inB_of hb⟩, inB_of hc⟩, inB_of hd⟩, hv⟩

def bcomp_ok0 (s : bcomp_s0X) : Bool := decide (s.1.2.2.2.2.2.1 = 0 ∧ s.2.2.1.length = 128 ∧ s.2.2.2.2.2.1 = List.replicate 16 0)
def bcomp_g0 (s : bcomp_s0X) : bcomp_e0_0X := (((), (), (), (), ()), (s.2.1, s.2.2.2.1, s.2.2.2.2.1, wordsOf s.2.2.1, ()))
theorem bcomp_h0 : ∀ s : bcomp_s0X, bcomp_ok0 s = true → ∃ m e, loopRun bcomp_U0 m s = some e ∧ (bcomp_f0 bcomp_g0 s).run = some e := by
  rintro ⟨⟨⟨⟩, ⟨⟩, ⟨⟩, ⟨⟩, ⟨⟩, i, ⟨⟩⟩, ⟨c0, c1, c2, c3, c4, ⟨⟩⟩⟩ h
  have h' := of_decide_eq_true h
  dsimp only at h'
  obtain ⟨rfl, hl, rfl⟩ := h'
  have := (loop_upto (T := bcomp_U0) (fun k m => ((((), (), (), (), (), (k : Int), ()), (c0, c1, c2, c3, m, ())) : bcomp_s0X)) (fun k m => m.set k (wordAt c1 k))
    (fun m => (⟨(.exit 0, bcomp_e0_0), (((), (), (), (), ()), (c0, c2, c3, m, ()))⟩ : LEnd)) 16 (List.replicate 16 0) (fun _ m => m.length = 16) (by simp) (fun k m hk hm => ⟨?_, by rw [List.length_set]; exact hm⟩) (fun m hm => ?_)).1
  · obtain ⟨n, hn⟩ := this
    exact ⟨n, _, hn, rfl⟩
  · have e1 : (8 * (k : Int) + 8 - 8 * (k : Int)).toNat = 8 := by omega
    have e2 : (8 * (k : Int)).toNat = 8 * k := by omega
    have hw : ((c1.drop (8 * k)).take 8).length = 8 := by simp; omega
    refine (OT.run_t (decide_eq_true (by dsimp only; omega))).trans ((gd_run ?_).trans ?_)
    · simp only [e1, e2, hl, hm, List.all_cons, List.all_nil, Bool.and_true, Bool.and_eq_true]
      refine ⟨inR_of (by omega), inR_of (by omega), inR_of (by omega), ⟨by decide, between_of (by omega)⟩, ?_, inB_of (by omega), decide_eq_true (by omega), inR_of (by omega)⟩
      simp only [bword_pre, hw]
      decide
    · simp only [OT.run_ok, e1, e2, hw, Nat.add_zero]
      rfl
  · exact OT.run_f (decide_eq_false (by dsimp only; omega))

/-- Half a round: the columns. -/
def half1 (m : List UInt64) (row : List UInt8) (v : List UInt64) : List UInt64 := upto (fun k v => gmix v k (4 + k) (8 + k) (12 + k) (atF m row (2 * (k : Int))) (atF m row (2 * (k : Int) + 1))) v 4
/-- The other half: the diagonals. -/
def half2 (m : List UInt64) (row : List UInt8) (v : List UInt64) : List UInt64 := upto (fun k v => gmix v k (4 + (k + 1) % 4) (8 + (k + 2) % 4) (12 + (k + 3) % 4) (atF m row (8 + 2 * (k : Int))) (atF m row (9 + 2 * (k : Int)))) v 4

theorem half1_length (m : List UInt64) (row : List UInt8) (v : List UInt64) : (half1 m row v).length = v.length := by simp only [half1, upto, gmix_length]
theorem half2_length (m : List UInt64) (row : List UInt8) (v : List UInt64) : (half2 m row v).length = v.length := by simp only [half2, upto, gmix_length]

def bcomp_ok4 (s : bcomp_s4X) : Bool := decide (s.1.2.2.2.2.2.2.2.1 = 0 ∧ s.2.2.2.1.length = 16 ∧ s.2.2.2.2.1.length = 16) && rowOk s.2.2.2.2.2.2.1.1
def bcomp_g4 (s : bcomp_s4X) : bcomp_e4_4X := (((), (), (), (), (), (), s.1.2.2.2.2.2.2.1, ()), (s.2.1, s.2.2.1, half1 s.2.2.2.2.1 s.2.2.2.2.2.2.1.1 s.2.2.2.1, s.2.2.2.2.1, s.2.2.2.2.2.1, (s.2.2.2.2.2.2.1.1, ()), ()))
theorem bcomp_h4 : ∀ s : bcomp_s4X, bcomp_ok4 s = true → ∃ m e, loopRun bcomp_U4 m s = some e ∧ (bcomp_f4 bcomp_g4 s).run = some e := by
  rintro ⟨⟨⟨⟩, ⟨⟩, ⟨⟩, ⟨⟩, ⟨⟩, ⟨⟩, r, i, ⟨⟩⟩, ⟨c0, c1, v, m, c4, ⟨row, ⟨⟩⟩, ⟨⟩⟩⟩ h
  simp only [bcomp_ok4, Bool.and_eq_true, decide_eq_true_eq] at h
  obtain ⟨⟨rfl, hv, hm⟩, hr⟩ := h
  have := (loop_upto (T := bcomp_U4) (fun k v => ((((), (), (), (), (), (), r, (k : Int), ()), (c0, c1, v, m, c4, (row, ()), ())) : bcomp_s4X)) (fun k v => gmix v k (4 + k) (8 + k) (12 + k) (atF m row (2 * (k : Int))) (atF m row (2 * (k : Int) + 1)))
    (fun v => (⟨(.exit 4, bcomp_e4_4), (((), (), (), (), (), (), r, ()), (c0, c1, v, m, c4, (row, ()), ()))⟩ : LEnd)) 4 v (fun _ v => v.length = 16) hv (fun k v hk hv => ⟨?_, by rw [gmix_length]; exact hv⟩) (fun v hv => ?_)).1
  · obtain ⟨n, hn⟩ := this
    exact ⟨n, _, hn, rfl⟩
  · have e1 : (4 + (k : Int)).toNat = 4 + k := by omega
    have e2 : (8 + (k : Int)).toNat = 8 + k := by omega
    have e3 : (12 + (k : Int)).toNat = 12 + k := by omega
    refine (OT.run_t (decide_eq_true (by dsimp only; omega))).trans ((gd_run ?_).trans ?_)
    · simp only [List.all_cons, List.all_nil, Bool.and_true, Bool.and_eq_true]
      exact ⟨inR_of (by omega), inR_of (by omega), inR_of (by omega), inR_of (by omega), bat_pre_of hm hr (by omega) (by omega) _ _ _, inR_of (by omega), inR_of (by omega), bat_pre_of hm hr (by omega) (by omega) _ _ _, bmix_pre_of hv (by omega) (by omega) (by omega) (by omega) _ _ _ _ _, inR_of (by omega)⟩
    · simp only [OT.run_ok, e1, e2, e3]
      rfl
  · exact OT.run_f (decide_eq_false (by dsimp only; omega))

def bcomp_ok6 (s : bcomp_s6X) : Bool := decide (s.1.2.2.2.2.2.2.2.1 = 0 ∧ s.2.2.2.1.length = 16 ∧ s.2.2.2.2.1.length = 16) && rowOk s.2.2.2.2.2.2.1.1
def bcomp_g6 (s : bcomp_s6X) : bcomp_e6_6X := (((), (), (), (), (), s.1.2.2.2.2.2.2.1, ()), (s.2.1, s.2.2.1, half2 s.2.2.2.2.1 s.2.2.2.2.2.2.1.1 s.2.2.2.1, s.2.2.2.2.1, s.2.2.2.2.2.1, ()))
theorem bcomp_h6 : ∀ s : bcomp_s6X, bcomp_ok6 s = true → ∃ m e, loopRun bcomp_U6 m s = some e ∧ (bcomp_f6 bcomp_g6 s).run = some e := by
  rintro ⟨⟨⟨⟩, ⟨⟩, ⟨⟩, ⟨⟩, ⟨⟩, ⟨⟩, r, i, ⟨⟩⟩, ⟨c0, c1, v, m, c4, ⟨row, ⟨⟩⟩, ⟨⟩⟩⟩ h
  simp only [bcomp_ok6, Bool.and_eq_true, decide_eq_true_eq] at h
  obtain ⟨⟨rfl, hv, hm⟩, hr⟩ := h
  have := (loop_upto (T := bcomp_U6) (fun k v => ((((), (), (), (), (), (), r, (k : Int), ()), (c0, c1, v, m, c4, (row, ()), ())) : bcomp_s6X)) (fun k v => gmix v k (4 + (k + 1) % 4) (8 + (k + 2) % 4) (12 + (k + 3) % 4) (atF m row (8 + 2 * (k : Int))) (atF m row (9 + 2 * (k : Int))))
    (fun v => (⟨(.exit 6, bcomp_e6_6), (((), (), (), (), (), r, ()), (c0, c1, v, m, c4, ()))⟩ : LEnd)) 4 v (fun _ v => v.length = 16) hv (fun k v hk hv => ⟨?_, by rw [gmix_length]; exact hv⟩) (fun v hv => ?_)).1
  · obtain ⟨n, hn⟩ := this
    exact ⟨n, _, hn, rfl⟩
  · have t1 : Int.tmod ((k : Int) + 1) 4 = (((k + 1) % 4 : Nat) : Int) := by rw [Int.tmod_eq_emod_of_nonneg (by omega)]; omega
    have t2 : Int.tmod ((k : Int) + 2) 4 = (((k + 2) % 4 : Nat) : Int) := by rw [Int.tmod_eq_emod_of_nonneg (by omega)]; omega
    have t3 : Int.tmod ((k : Int) + 3) 4 = (((k + 3) % 4 : Nat) : Int) := by rw [Int.tmod_eq_emod_of_nonneg (by omega)]; omega
    have e1 : (4 + (((k + 1) % 4 : Nat) : Int)).toNat = 4 + (k + 1) % 4 := by omega
    have e2 : (8 + (((k + 2) % 4 : Nat) : Int)).toNat = 8 + (k + 2) % 4 := by omega
    have e3 : (12 + (((k + 3) % 4 : Nat) : Int)).toNat = 12 + (k + 3) % 4 := by omega
    refine (OT.run_t (decide_eq_true (by dsimp only; omega))).trans ((gd_run ?_).trans ?_)
    · simp only [t1, t2, t3, List.all_cons, List.all_nil, Bool.and_true, Bool.and_eq_true]
      exact ⟨inR_of (by omega), inR_of (by omega), inR_of (by omega), inR_of (by omega), inR_of (by omega), inR_of (by omega), inR_of (by omega), inR_of (by omega), bat_pre_of hm hr (by omega) (by omega) _ _ _, inR_of (by omega), inR_of (by omega), bat_pre_of hm hr (by omega) (by omega) _ _ _, bmix_pre_of hv (by omega) (by omega) (by omega) (by omega) _ _ _ _ _, inR_of (by omega)⟩
    · simp only [OT.run_ok, t1, t2, t3, e1, e2, e3]
      rfl
  · exact OT.run_f (decide_eq_false (by dsimp only; omega))

def rowAt (k : Nat) : List UInt8 := bSched.getD (k % 10) []
theorem rowAt_ok (k : Nat) : rowOk (rowAt k) = true := by
  have : k % 10 < 10 := Nat.mod_lt _ (by decide)
  unfold rowAt
  generalize k % 10 = j at this
  have h : ∀ j : Fin 10, rowOk (bSched.getD j.val []) = true := by decide +kernel
  exact h ⟨j, this⟩

def roundsOf (m : List UInt64) (v : List UInt64) : List UInt64 := upto (fun k v => half2 m (rowAt k) (half1 m (rowAt k) v)) v 12
theorem upto_length {f : Nat → List UInt64 → List UInt64} (hf : ∀ k v, (f k v).length = v.length) (v : List UInt64) : ∀ n, (upto f v n).length = v.length
  | 0 => rfl
  | n + 1 => by simp only [upto, hf, upto_length hf v n]

def bcomp_ok2 (s : bcomp_s2X) : Bool := decide (s.1.2.2.2.2.2.1 = 0 ∧ s.2.2.2.1.length = 16 ∧ s.2.2.2.2.1.length = 16 ∧ s.2.2.2.2.2.1 = bSched)
def bcomp_g2 (s : bcomp_s2X) : bcomp_e2_2X := (((), (), (), ()), (s.2.1, s.2.2.1, roundsOf s.2.2.2.2.1 s.2.2.2.1, ()))
theorem bcomp_h2 : ∀ s : bcomp_s2X, bcomp_ok2 s = true → ∃ m e, loopRun (bcomp_U2 bcomp_ok4 bcomp_g4 bcomp_ok6 bcomp_g6) m s = some e ∧ (bcomp_f2 bcomp_g2 s).run = some e := by
  rintro ⟨⟨⟨⟩, ⟨⟩, ⟨⟩, ⟨⟩, ⟨⟩, i, ⟨⟩⟩, ⟨c0, c1, v, m, c4, ⟨⟩⟩⟩ h
  have h' := of_decide_eq_true h
  dsimp only at h'
  obtain ⟨rfl, hv, hm, rfl⟩ := h'
  have := (loop_upto (T := bcomp_U2 bcomp_ok4 bcomp_g4 bcomp_ok6 bcomp_g6) (fun k v => ((((), (), (), (), (), (k : Int), ()), (c0, c1, v, m, bSched, ())) : bcomp_s2X)) (fun k v => half2 m (rowAt k) (half1 m (rowAt k) v))
    (fun v => (⟨(.exit 2, bcomp_e2_2), (((), (), (), ()), (c0, c1, v, ()))⟩ : LEnd)) 12 v (fun _ v => v.length = 16) hv (fun k v hk hv => ⟨?_, by rw [half2_length, half1_length]; exact hv⟩) (fun v hv => ?_)).1
  · obtain ⟨n, hn⟩ := this
    exact ⟨n, _, hn, rfl⟩
  · have t1 : Int.tmod (k : Int) 10 = ((k % 10 : Nat) : Int) := by rw [Int.tmod_eq_emod_of_nonneg (by omega)]; omega
    have e1 : ((k % 10 : Nat) : Int).toNat = k % 10 := by omega
    have hr : rowOk (bSched.getD (k % 10) []) = true := rowAt_ok k
    refine (OT.run_t (decide_eq_true (by dsimp only; omega))).trans ((gd_run ?_).trans ?_)
    · simp only [t1, e1, List.all_cons, List.all_nil, Bool.and_true, Bool.and_eq_true]
      refine ⟨inB_of (by omega), decide_eq_true (show k % 10 + 0 < 10 by omega), ?_, ?_, ?_⟩
      · simp only [bcomp_ok4, Bool.and_eq_true, decide_eq_true_eq]
        exact ⟨⟨trivial, hv, hm⟩, hr⟩
      · simp only [bcomp_ok6, bcomp_g4, Bool.and_eq_true, decide_eq_true_eq]
        exact ⟨⟨trivial, by rw [half1_length]; exact hv, hm⟩, hr⟩
      · exact inR_of (by simp only [bcomp_g6, bcomp_g4]; omega)
    · have hrow : bSched.getD (k % 10) [] = rowAt k := rfl
      simp only [OT.run_ok, t1, e1, Nat.add_zero, bcomp_g6, bcomp_g4, hrow]
      rfl
  · exact OT.run_f (decide_eq_false (by dsimp only; omega))

def mergeH (h v : List UInt64) : List UInt64 := upto (fun k h => h.set k (h.getD k 0 ^^^ (v.getD k 0 ^^^ v.getD (k + 8) 0))) h 8

def bcomp_ok8 (s : bcomp_s8X) : Bool := decide (s.1.2.2.2.1 = 0 ∧ s.2.1.length = 8 ∧ s.2.2.2.1.length = 16)
def bcomp_g8 (s : bcomp_s8X) : bcomp_e8_8X := (((), (), ()), (mergeH s.2.1 s.2.2.2.1, s.2.2.1, ()))
theorem bcomp_h8 : ∀ s : bcomp_s8X, bcomp_ok8 s = true → ∃ m e, loopRun bcomp_U8 m s = some e ∧ (bcomp_f8 bcomp_g8 s).run = some e := by
  rintro ⟨⟨⟨⟩, ⟨⟩, ⟨⟩, i, ⟨⟩⟩, ⟨h, c1, v, ⟨⟩⟩⟩ hh
  have h' := of_decide_eq_true hh
  dsimp only at h'
  obtain ⟨rfl, hl, hv⟩ := h'
  have := (loop_upto (T := bcomp_U8) (fun k h => ((((), (), (), (k : Int), ()), (h, c1, v, ())) : bcomp_s8X)) (fun k h => h.set k (h.getD k 0 ^^^ (v.getD k 0 ^^^ v.getD (k + 8) 0)))
    (fun h => (⟨(.exit 8, bcomp_e8_8), (((), (), ()), (h, c1, ()))⟩ : LEnd)) 8 h (fun _ h => h.length = 8) hl (fun k h hk hl => ⟨?_, by rw [List.length_set]; exact hl⟩) (fun h hl => ?_)).1
  · obtain ⟨n, hn⟩ := this
    exact ⟨n, _, hn, rfl⟩
  · have e1 : ((k : Int) + 8).toNat = k + 8 := by omega
    refine (OT.run_t (decide_eq_true (by dsimp only; omega))).trans ((gd_run ?_).trans ?_)
    · simp only [e1, hl, hv, List.all_cons, List.all_nil, Bool.and_true, Bool.and_eq_true]
      exact ⟨inB_of (by omega), decide_eq_true (by omega), inB_of (by omega), decide_eq_true (by omega), inR_of (by omega), inB_of (by omega), decide_eq_true (by omega), inB_of (by omega), decide_eq_true (by omega), inR_of (by omega)⟩
    · simp only [OT.run_ok, e1, Nat.add_zero]
      rfl
  · exact OT.run_f (decide_eq_false (by dsimp only; omega))

/-- The work on a block, ahead of the rounds. -/
def laidV (h : List UInt64) (count : UInt64) (last : Bool) : List UInt64 :=
  let v := (h ++ bIV).set 12 ((h ++ bIV).getD 12 0 ^^^ count)
  cond last (v.set 14 (~~~v.getD 14 0)) v

/-- A block taken into the state. -/
def compr (h : List UInt64) (b : List UInt8) (count : UInt64) (last : Bool) : List UInt64 := mergeH h (roundsOf (wordsOf b) (laidV h count last))

theorem wordsOf_length (b : List UInt8) : (wordsOf b).length = 16 := by
  unfold wordsOf; rw [upto_length (fun k v => List.length_set)]; rfl
theorem roundsOf_length (m v : List UInt64) : (roundsOf m v).length = v.length := upto_length (fun k v => by rw [half2_length, half1_length]) v 12
theorem mergeH_length (h v : List UInt64) : (mergeH h v).length = h.length := upto_length (fun k v => List.length_set) h 8

theorem bcomp_ok0_of {b : List UInt8} {c0 c2 c3 : List UInt64} (hb : b.length = 128) : bcomp_ok0 (((), (), (), (), (), 0, ()), (c0, b, c2, c3, [0, 0, 0, 0, 0, 0, 0, 0, 0, 0, 0, 0, 0, 0, 0, 0], ())) = true := decide_eq_true ⟨rfl, hb, rfl⟩
theorem bcomp_ok2_of {c0 c1 v m : List UInt64} (hv : v.length = 16) (hm : m.length = 16) : bcomp_ok2 (((), (), (), (), (), 0, ()), (c0, c1, v, m, bSched, ())) = true := decide_eq_true ⟨rfl, hv, hm, rfl⟩
theorem bcomp_ok8_of {c0 c1 v : List UInt64} (h0 : c0.length = 8) (hv : v.length = 16) : bcomp_ok8 (((), (), (), 0, ()), (c0, c1, v, ())) = true := decide_eq_true ⟨rfl, h0, hv⟩

def bcomp_pre (x : bcompX) : Bool := decide (x.1.1.length = 8 ∧ x.1.2.1.length = 128)
def bcomp_F (x : bcompX) : OT bcomp_S.Y := .ok ⟨bcomp_o0, ((compr x.1.1 x.1.2.1 x.1.2.2.1 x.1.2.2.2.1, ()), ())⟩

theorem bcomp_ok : SummOk Try.prog 25 (bcomp_S.summ bcomp_pre bcomp_F) := bcomp_main bcomp_ok0 bcomp_g0 bcomp_ok4 bcomp_g4 bcomp_ok6 bcomp_g6 bcomp_ok2 bcomp_g2 bcomp_ok8 bcomp_g8 bcomp_h0 bcomp_h4 bcomp_h6 bcomp_h2 bcomp_h8 _ _ fun x oy hp ho => by
  rw [← ho]
  obtain ⟨⟨h, b, count, last, ⟨⟩⟩, ⟨⟩⟩ := x
  simp only [bcomp_pre, decide_eq_true_eq] at hp
  obtain ⟨hh, hb⟩ := hp
  have t1 : tab h 8 0 = h := tab_eq hh
  have t2 : tab b 128 0 = b := tab_eq hb
  have t3 : tab bSched 10 [] = bSched := tab_eq rfl
  have v1 : [] ++ (List.take 8 h ++ List.drop (0 + min h.length 8) [(0 : UInt64), 0, 0, 0, 0, 0, 0, 0, 0, 0, 0, 0, 0, 0, 0, 0]) = h ++ List.replicate 8 0 := by
    rw [hh, List.nil_append, List.take_of_length_le (by omega)]; rfl
  have v2 : List.take 8 (h ++ List.replicate 8 (0 : UInt64)) ++ (bIV ++ List.drop 16 (h ++ List.replicate 8 (0 : UInt64))) = h ++ bIV := by
    rw [List.take_append_of_le_length (by omega), List.take_of_length_le (by omega), List.drop_eq_nil_of_le (by simp; omega), List.append_nil]
  have hv : ∀ c l, (laidV h c l).length = 16 := fun c l => by
    unfold laidV
    cases l <;> simp [hh] <;> rfl
  have hm : (wordsOf b).length = 16 := wordsOf_length b
  have hr : ∀ c l, (roundsOf (wordsOf b) (laidV h c l)).length = 16 := fun c l => by rw [roundsOf_length]; exact hv c l
  have hM : ∀ c l, (compr h b c l).length = 8 := fun c l => by unfold compr; rw [mergeH_length]; exact hh
  have e8 : [(7640891576956012808 : UInt64), 13503953896175478587, 4354685564936845355, 11912009170470909681, 5840696475078001361, 11170449401992604703, 2270897969802886507, 6620516959819538809] = bIV := rfl
  have key : ∀ M : List UInt64, M.length = 8 → tab (lay [(0 : UInt64), 0, 0, 0, 0, 0, 0, 0] M 8 0) 8 0 = M := fun M hM => by rw [lay_eq (n := 8) rfl hM, tab_eq hM]
  have l1 : List.set (h ++ bIV) 12 ((h ++ bIV).getD 12 0 ^^^ count) = laidV h count false := rfl
  have l2 : List.set (laidV h count false) 14 (~~~(laidV h count false).getD 14 0) = laidV h count true := rfl
  have l3 : ∀ c l, mergeH h (roundsOf (wordsOf b) (laidV h c l)) = compr h b c l := fun _ _ => rfl
  cases last
  · refine (OT.run_f rfl).trans ((gd_run ?_).trans ?_)
    · simp only [t1, t2, t3, v1, List.all_cons, List.all_nil, Bool.and_true, Bool.and_eq_true]
      rw [e8]
      simp only [v2, bcomp_g0, bcomp_g2, bcomp_g8, l1, l3, lay_length, hM]
      exact ⟨bcomp_ok0_of hb, bcomp_ok2_of (hv _ _) hm, bcomp_ok8_of hh (hr _ _), rfl, rfl, rfl⟩
    · simp only [t1, t2, t3, v1]
      rw [e8]
      simp only [v2, bcomp_g0, bcomp_g2, bcomp_g8, l1, l3]
      rw [key _ (hM _ _)]
      rfl
  · refine (OT.run_t rfl).trans ((gd_run ?_).trans ?_)
    · simp only [t1, t2, t3, v1, List.all_cons, List.all_nil, Bool.and_true, Bool.and_eq_true]
      rw [e8]
      simp only [v2, bcomp_g0, bcomp_g2, bcomp_g8, l1, l2, l3, lay_length, hM]
      exact ⟨bcomp_ok0_of hb, bcomp_ok2_of (hv _ _) hm, bcomp_ok8_of hh (hr _ _), rfl, rfl, rfl⟩
    · simp only [t1, t2, t3, v1]
      rw [e8]
      simp only [v2, bcomp_g0, bcomp_g2, bcomp_g8, l1, l2, l3]
      rw [key _ (hM _ _)]
      rfl

def bcomp_summ : Summ := (bcomp_S.summ bcomp_pre bcomp_F)
theorem bcomp_known : SummOk Try.prog 25 bcomp_summ := bcomp_ok
theorem bcomp_smono : MonoOk bcomp_summ := fn_mono

def E_bcomp : Env := envCons 25 bcomp_summ E_bat
theorem E_bcomp_ok : EnvOk Try.prog E_bcomp := envOk_cons bcomp_known E_bat_ok
theorem E_bcomp_mono : EnvMono E_bcomp := envMono_cons bcomp_smono E_bat_mono
theorem E_bcomp_any : AnyOk Try.prog te E_bcomp := any_ok follows te_ok E_bcomp_ok E_bcomp_mono

end Go.Proofs.Ytkngdfhigpjciaa

/- The function slices.Clone[[]byte,byte]: what it makes of its arguments. No statement of a seat is proved here. -/
namespace Go.Proofs.Ytkngdfhigpjciaa
open Sx Go
set_option maxRecDepth 100000

def bclone_S : FnSpec := ⟨[.val false (.list .u8)], [], true, 0, false⟩

abbrev bcloneX : Type := ((List (UInt8)) × Unit) × (Unit)

def bclone_o0 : OutSh := ⟨[.own 0], [(0, .row .u8)], false⟩

def bclone_sel : SV → Option OutSh := fun _ => some bclone_o0

def bclone_T (a0 : List (UInt8)) : OT bclone_S.Y :=
  (gd [decide (((0 : Nat) + List.length a0) * (1 : Nat) ≤ (140737488355328 : Nat))] (.ok ⟨bclone_o0, (((), ()), ([] ++ a0, ()))⟩))
def bclone_T' : OT bclone_S.Y := .ok ⟨bclone_o0, (((), ()), ([], ()))⟩

theorem bclone_q (x : bcloneX) (Q : bclone_S.Y → Prop) : wpf te E_bcomp lamNil 1000 Try.f26 (bclone_S.inp.inj x).tm (bclone_S.inp.inj x).hp (fnK bclone_S bclone_sel Q) (fun _ _ => False) =
    Bool.rec (motive := fun _ => Prop) ((bclone_T x.1.1).wpR Q) (bclone_T'.wpR Q ∧ (bclone_T x.1.1).wpR Q) (List.isEmpty x.1.1) := by kernel_rfl

def bclone_pre (x : bcloneX) : Bool := decide (x.1.1.length ≤ 140737488355328)
def bclone_F (x : bcloneX) : OT bclone_S.Y := .ok ⟨bclone_o0, (((), ()), (x.1.1, ()))⟩

theorem bclone_ok : SummOk Try.prog 26 (bclone_S.summ bclone_pre bclone_F) := by
  refine fn_ok te_ok E_bcomp_ok E_bcomp_any (f := 26) (fn := Try.f26) (c := codeOf Try.f26) (by kernel_rfl) (by kernel_rfl) (by kernel_rfl) (S := bclone_S) (k := 0) (by kernel_rfl) (Λ := lamNil) (fun R hR => lamOk_nil) (n := 1000) fun x oy hp hr => ⟨fnK bclone_S bclone_sel (fun z => z = oy), fun _ _ => False, ?_, fun v hp hq => ?_, fun _ _ hq => hq.elim⟩
  · refine (bclone_q x _).mpr ?_
    cases hr
    have hp' : x.1.1.length ≤ 140737488355328 := of_decide_eq_true hp
    have h1 : (bclone_T x.1.1).wpR (fun z => z = ⟨bclone_o0, (((), ()), (x.1.1, ()))⟩) := by
      rw [OT.wpR_eq]
      refine OT.wp_of_run (gd_run ?_) rfl
      simp only [List.all_cons, List.all_nil, Bool.and_true]
      exact decide_eq_true (by omega)
    cases hb : List.isEmpty x.1.1
    · exact h1
    · refine ⟨?_, h1⟩
      rw [List.isEmpty_iff.1 hb]
      rfl
  · unfold fnK at hq
    split at hq
    · rename_i o ho
      split at hq
      · rename_i y hy
        subst hq
        exact ⟨by cases ho; rfl, hy⟩
      · exact hq.elim
    · exact hq.elim

def bclone_summ : Summ := (bclone_S.summ bclone_pre bclone_F)
theorem bclone_known : SummOk Try.prog 26 bclone_summ := bclone_ok
theorem bclone_smono : MonoOk bclone_summ := fn_mono

def E_bclone : Env := envCons 26 bclone_summ E_bcomp
theorem E_bclone_ok : EnvOk Try.prog E_bclone := envOk_cons bclone_known E_bcomp_ok
theorem E_bclone_mono : EnvMono E_bclone := envMono_cons bclone_smono E_bcomp_mono
theorem E_bclone_any : AnyOk Try.prog te E_bclone := any_ok follows te_ok E_bclone_ok E_bclone_mono

end Go.Proofs.Ytkngdfhigpjciaa

/- The function sigil/blake.New: what it makes of its arguments. No statement of a seat is proved here. -/
namespace Go.Proofs.Ytkngdfhigpjciaa
open Sx Go
set_option maxRecDepth 100000

def bnew_S : FnSpec := ⟨[.val false .str, .val false .int], [], true, 0, false⟩

abbrev bnewX : Type := ((List UInt8) × (Int) × Unit) × (Unit)

def bnew_o0 : OutSh := ⟨[.nilp, .val false .int], [], false⟩

def bnew_o1 : OutSh := ⟨[.ptr 0 0 0, .val false .int], [(0, .cells [.val false .int, .val false .u64, .val false .u64, .val false .u64, .val false .u64, .val false .u64, .val false .u64, .val false .u64, .val false .u64, .own 1, .val false .u64]), (1, .row .u8)], false⟩

def bnew_outs : List OutSh := [bnew_o0, bnew_o1]

def bnew_T (a0 : List UInt8) (a1 : Int) : OT bnew_S.Y :=
  let z0 : List UInt8 := List.take (16 : Nat) a0 ++ List.drop (List.length a0) [(0 : UInt8), (0 : UInt8), (0 : UInt8), (0 : UInt8), (0 : UInt8), (0 : UInt8), (0 : UInt8), (0 : UInt8), (0 : UInt8), (0 : UInt8), (0 : UInt8), (0 : UInt8), (0 : UInt8), (0 : UInt8), (0 : UInt8), (0 : UInt8)]
  let z1 : Bool := decide ((16 : Nat) ≤ List.length z0) && true
  let z2 : List UInt8 := List.take (8 : Nat) (List.drop (0 : Nat) z0)
  let z3 : List UInt8 := List.take (8 : Nat) (List.drop (8 : Nat) z0)
  (.br (decide ((16 : Int) < (↑(List.length a0) : Int)))
  (.ok ⟨bnew_o0, (((), ((30 : Int), ())), ())⟩)
  (.br (decide (a1 < (1 : Int)))
    (.ok ⟨bnew_o0, (((), ((30 : Int), ())), ())⟩)
    (.br (decide ((64 : Int) < a1))
      (.ok ⟨bnew_o0, (((), ((30 : Int), ())), ())⟩)
      (gd [z1, bword_pre ((z2, ()), ()), z1, bword_pre ((z3, ()), ())] (.ok ⟨bnew_o1, (((), ((0 : Int), ())), ((a1, ((7640891576956012808 : UInt64) ^^^ (16842752 : UInt64) + i2u a1, ((13503953896175478587 : UInt64), ((4354685564936845355 : UInt64), ((11912009170470909681 : UInt64), ((5840696475078001361 : UInt64), ((11170449401992604703 : UInt64), ((2270897969802886507 : UInt64) ^^^ wordK z2 (List.length z2), ((6620516959819538809 : UInt64) ^^^ wordK z3 (List.length z3), ((), ((0 : UInt64), ()))))))))))), ([], ())))⟩)))))

theorem bnew_q (x : bnewX) (Q : bnew_S.Y → Prop) : wpf te E_bclone lamNil 1000 Try.f12 (bnew_S.inp.inj x).tm (bnew_S.inp.inj x).hp (fnKL bnew_S bnew_outs Q) (fun _ _ => False) = (bnew_T (x.1.1) (x.1.2.1)).wpR Q := by kernel_rfl

theorem bnew_main (pre : bnewX → Bool) (F : bnewX → OT bnew_S.Y) (hF : ∀ (x : bnewX) oy, pre x = true → (F x).run = some oy → (bnew_T (x.1.1) (x.1.2.1)).run = some oy) : SummOk Try.prog 12 (bnew_S.summ pre F) :=
  fn_treeL te_ok E_bclone_ok E_bclone_any (f := 12) (fn := Try.f12) (c := codeOf Try.f12) (by kernel_rfl) (by kernel_rfl) (by kernel_rfl) (S := bnew_S) (k := 0) (by kernel_rfl) (fun R hR => lamOk_nil) (n := 1000) (outs := bnew_outs) (by kernel_rfl) (pre := pre) (F := F) (T := fun x => bnew_T (x.1.1) (x.1.2.1)) (fun x Q => bnew_q x Q) hF

/-- The person, with bytes 0 behind it. -/
def pad16 (p : List UInt8) : List UInt8 := p.take 16 ++ (List.replicate 16 (0 : UInt8)).drop p.length
def badKey (p : List UInt8) (n : Int) : Bool := decide (16 < (p.length : Int)) || decide (n < 1) || decide (64 < n)

theorem pad16_length {p : List UInt8} (h : p.length ≤ 16) : (pad16 p).length = 16 := by
  simp only [pad16, List.length_append, List.length_take, List.length_drop, List.length_replicate]
  omega

/-- A digest as data: so many bytes long, its state, so many bytes counted. -/
abbrev DigX : Type := Int × UInt64 × UInt64 × UInt64 × UInt64 × UInt64 × UInt64 × UInt64 × UInt64 × Unit × UInt64 × Unit
def digT (n : Int) (h : List UInt64) (c : UInt64) : DigX := (n, h.getD 0 0, h.getD 1 0, h.getD 2 0, h.getD 3 0, h.getD 4 0, h.getD 5 0, h.getD 6 0, h.getD 7 0, (), c, ())

/-- The state that a digest begins with. -/
def newH (p : List UInt8) (n : Int) : List UInt64 := [0x6a09e667f3bcc908 ^^^ (16842752 + i2u n), 0xbb67ae8584caa73b, 0x3c6ef372fe94f82b, 0xa54ff53a5f1d36f1, 0x510e527fade682d1, 0x9b05688c2b3e6c1f,
  0x1f83d9abfb41bd6b ^^^ wordK ((pad16 p).take 8) 8, 0x5be0cd19137e2179 ^^^ wordK (((pad16 p).drop 8).take 8) 8]

def bnew_pre (_ : bnewX) : Bool := true
def bnew_F (x : bnewX) : OT bnew_S.Y := .br (badKey x.1.1 x.1.2.1) (.ok ⟨bnew_o0, (((), ((30 : Int), ())), ())⟩)
  (.ok ⟨bnew_o1, (((), ((0 : Int), ())), (digT x.1.2.1 (newH x.1.1 x.1.2.1) 0, ([], ())))⟩)

theorem bnew_ok : SummOk Try.prog 12 (bnew_S.summ bnew_pre bnew_F) := bnew_main _ _ fun x oy _ ho => by
  rw [← ho]
  obtain ⟨⟨p, n, ⟨⟩⟩, ⟨⟩⟩ := x
  clear ho
  by_cases h1 : 16 < (p.length : Int)
  · have e1 : decide (16 < (p.length : Int)) = true := decide_eq_true h1
    have eb : badKey p n = true := by simp only [badKey, e1, Bool.true_or]
    simp only [bnew_F, bnew_T, e1, eb]
    rfl
  · have e1 : decide (16 < (p.length : Int)) = false := decide_eq_false h1
    by_cases h2 : n < 1
    · have e2 : decide (n < 1) = true := decide_eq_true h2
      have eb : badKey p n = true := by simp only [badKey, e1, e2, Bool.true_or, Bool.false_or]
      simp only [bnew_F, bnew_T, e1, e2, eb]
      rfl
    · have e2 : decide (n < 1) = false := decide_eq_false h2
      by_cases h3 : 64 < n
      · have e3 : decide (64 < n) = true := decide_eq_true h3
        have eb : badKey p n = true := by simp only [badKey, e1, e2, e3, Bool.false_or]
        simp only [bnew_F, bnew_T, e1, e2, e3, eb]
        rfl
      · have e3 : decide (64 < n) = false := decide_eq_false h3
        have eb : badKey p n = false := by simp only [badKey, e1, e2, e3, Bool.false_or]
        have hl := pad16_length (p := p) (by omega)
        have hp : p.take 16 ++ List.drop p.length [(0 : UInt8), 0, 0, 0, 0, 0, 0, 0, 0, 0, 0, 0, 0, 0, 0, 0] = pad16 p := rfl
        have l1 : ((pad16 p).take 8).length = 8 := by simp only [List.length_take, hl]; omega
        have l2 : (((pad16 p).drop 8).take 8).length = 8 := by simp only [List.length_take, List.length_drop, hl]; omega
        simp only [bnew_F, bnew_T, e1, e2, e3, eb, hp, List.drop_zero, l1, l2]
        refine (gd_run ?_).trans rfl
        simp only [bword_pre, hl, l1, l2]
        decide

def bnew_summ : Summ := (bnew_S.summ bnew_pre bnew_F)
theorem bnew_known : SummOk Try.prog 12 bnew_summ := bnew_ok
theorem bnew_smono : MonoOk bnew_summ := fn_mono

def E_bnew : Env := envCons 12 bnew_summ E_bclone
theorem E_bnew_ok : EnvOk Try.prog E_bnew := envOk_cons bnew_known E_bclone_ok
theorem E_bnew_mono : EnvMono E_bnew := envMono_cons bnew_smono E_bclone_mono
theorem E_bnew_any : AnyOk Try.prog te E_bnew := any_ok follows te_ok E_bnew_ok E_bnew_mono

end Go.Proofs.Ytkngdfhigpjciaa

/- The function (*sigil/blake.Digest).Write: what it makes of its arguments. No statement of a seat is proved here. -/
namespace Go.Proofs.Ytkngdfhigpjciaa
open Sx Go
set_option maxRecDepth 100000

/-- A digest's cells: its length, its state, what waits, how many bytes there were. -/
def digC (w : Sh) : CSh := .cells [.val false .int, .val false .u64, .val false .u64, .val false .u64, .val false .u64, .val false .u64, .val false .u64, .val false .u64, .val false .u64, w, .val false .u64]
def bwrite_S : FnSpec := ⟨[.ptr 0 0 0, .val false (.list .u8)], [(0, digC (.own 1)), (1, .row .u8)], true, 1, true⟩
def bwrite_s0 : Shape := ⟨61, [(0, .ptr 0 0 0)], [(0, digC (.val false (.list .u8))), (1, .gone)], 2, true⟩
def bwrite_e0_0 : Shape := bwrite_s0

abbrev bwriteX : Type := ((Unit) × (List (UInt8)) × Unit) × (((Int) × (UInt64) × (UInt64) × (UInt64) × (UInt64) × (UInt64) × (UInt64) × (UInt64) × (UInt64) × (Unit) × (UInt64) × Unit) × (List (UInt8)) × Unit)

abbrev bwrite_s0X : Type := ((Unit) × Unit) × (((Int) × (UInt64) × (UInt64) × (UInt64) × (UInt64) × (UInt64) × (UInt64) × (UInt64) × (UInt64) × (List (UInt8)) × (UInt64) × Unit) × (Unit) × Unit)

abbrev bwrite_e0_0X : Type := ((Unit) × Unit) × (((Int) × (UInt64) × (UInt64) × (UInt64) × (UInt64) × (UInt64) × (UInt64) × (UInt64) × (UInt64) × (List (UInt8)) × (UInt64) × Unit) × (Unit) × Unit)

def bwrite_x0 : SE → Option Shape := xsMk [(0, bwrite_e0_0)] none

def bwrite_T0 (c0_0 : Int) (c0_1 : UInt64) (c0_2 : UInt64) (c0_3 : UInt64) (c0_4 : UInt64) (c0_5 : UInt64) (c0_6 : UInt64) (c0_7 : UInt64) (c0_8 : UInt64) (c0_9 : List (UInt8)) (c0_10 : UInt64) : OT (Sum bwrite_s0X LEnd) :=
  let z0 : Nat := List.length c0_9
  let z1 : Int := (↑z0 : Int)
  let z2 : List UInt8 := List.drop (0 : Nat) (List.take (128 : Nat) c0_9)
  let z3 : Nat := List.length z2
  let z4 : List UInt64 := compr [c0_1, c0_2, c0_3, c0_4, c0_5, c0_6, c0_7, c0_8] (tab z2 (128 : Nat) (0 : UInt8)) (c0_10 + (128 : UInt64)) false
  (.br (decide ((128 : Int) < z1))
  (gd [between (0 : Int) (128 : Int) z0, decide ((128 : Nat) ≤ z3), decide ((128 : Nat) ≤ z3), between (128 : Int) z1 z0] (.ok (.inl (((), ()), ((c0_0, (List.getD z4 (0 : Nat) (0 : UInt64), (List.getD z4 (1 : Nat) (0 : UInt64), (List.getD z4 (2 : Nat) (0 : UInt64), (List.getD z4 (3 : Nat) (0 : UInt64), (List.getD z4 (4 : Nat) (0 : UInt64), (List.getD z4 (5 : Nat) (0 : UInt64), (List.getD z4 (6 : Nat) (0 : UInt64), (List.getD z4 (7 : Nat) (0 : UInt64), (List.drop (128 : Nat) c0_9, (c0_10 + (128 : UInt64), ()))))))))))), ((), ()))))))
  (.ok (.inr ⟨(.exit 0, bwrite_e0_0), (((), ()), ((c0_0, (c0_1, (c0_2, (c0_3, (c0_4, (c0_5, (c0_6, (c0_7, (c0_8, (c0_9, (c0_10, ()))))))))))), ((), ())))⟩)))

def bwrite_U0 (s : bwrite_s0X) : OT (Sum bwrite_s0X LEnd) := bwrite_T0 (s.2.1.1) (s.2.1.2.1) (s.2.1.2.2.1) (s.2.1.2.2.2.1) (s.2.1.2.2.2.2.1) (s.2.1.2.2.2.2.2.1) (s.2.1.2.2.2.2.2.2.1) (s.2.1.2.2.2.2.2.2.2.1) (s.2.1.2.2.2.2.2.2.2.2.1) (s.2.1.2.2.2.2.2.2.2.2.2.1) (s.2.1.2.2.2.2.2.2.2.2.2.2.1)

theorem bwrite_q0 (s : bwrite_s0X) (Q : Sum bwrite_s0X LEnd → Prop) : wps te E_bnew lamNil 1000 (loopOf (codeOf Try.f14) 0) (bwrite_s0.inj s) (stepK bwrite_s0 bwrite_x0 (Q : Sum bwrite_s0.T LEnd → Prop)) = (bwrite_U0 s).wpR Q := by kernel_rfl

def bwrite_f0 (g0_0 : bwrite_s0X → bwrite_e0_0X) (s : bwrite_s0X) : OT LEnd := (.ok ⟨(.exit 0, bwrite_e0_0), g0_0 s⟩)

def bwrite_o0 : OutSh := ⟨[], [(0, .cells [.val false .int, .val false .u64, .val false .u64, .val false .u64, .val false .u64, .val false .u64, .val false .u64, .val false .u64, .val false .u64, .own 1, .val false .u64]), (1, .row .u8)], false⟩

def bwrite_sel : SV → Option OutSh := fun _ => some bwrite_o0

def bwrite_T (ok0 : bwrite_s0X → Bool) (g0_0 : bwrite_s0X → bwrite_e0_0X) (a1 : List (UInt8)) (c0_0 : Int) (c0_1 : UInt64) (c0_2 : UInt64) (c0_3 : UInt64) (c0_4 : UInt64) (c0_5 : UInt64) (c0_6 : UInt64) (c0_7 : UInt64) (c0_8 : UInt64) (c0_10 : UInt64) (c1 : List (UInt8)) : OT bwrite_S.Y :=
  let z0 : (PUnit × PUnit) × (Int × UInt64 × UInt64 × UInt64 × UInt64 × UInt64 × UInt64 × UInt64 × UInt64 × List UInt8 × UInt64 × PUnit) × PUnit × PUnit := (((), ()), (c0_0, c0_1, c0_2, c0_3, c0_4, c0_5, c0_6, c0_7, c0_8, c1 ++ a1, c0_10, ()), (), ())
  let z1 : Int × UInt64 × UInt64 × UInt64 × UInt64 × UInt64 × UInt64 × UInt64 × UInt64 × List UInt8 × UInt64 × PUnit := (g0_0 z0).snd.fst
  let z2 : UInt64 × UInt64 × UInt64 × UInt64 × UInt64 × UInt64 × UInt64 × UInt64 × List UInt8 × UInt64 × PUnit := z1.snd
  let z3 : UInt64 × UInt64 × UInt64 × UInt64 × UInt64 × UInt64 × UInt64 × List UInt8 × UInt64 × PUnit := z2.snd
  let z4 : UInt64 × UInt64 × UInt64 × UInt64 × UInt64 × UInt64 × List UInt8 × UInt64 × PUnit := z3.snd
  let z5 : UInt64 × UInt64 × UInt64 × UInt64 × UInt64 × List UInt8 × UInt64 × PUnit := z4.snd
  let z6 : UInt64 × UInt64 × UInt64 × UInt64 × List UInt8 × UInt64 × PUnit := z5.snd
  let z7 : UInt64 × UInt64 × UInt64 × List UInt8 × UInt64 × PUnit := z6.snd
  let z8 : UInt64 × UInt64 × List UInt8 × UInt64 × PUnit := z7.snd
  let z9 : UInt64 × List UInt8 × UInt64 × PUnit := z8.snd
  let z10 : List UInt8 × UInt64 × PUnit := z9.snd
  let z11 : List UInt8 := z10.fst
  (gd [decide ((List.length c1 + List.length a1) * (1 : Nat) ≤ (140737488355328 : Nat)), ok0 z0, bclone_pre ((z11, ()), ())] (.ok ⟨bwrite_o0, ((), ((z1.fst, (z2.fst, (z3.fst, (z4.fst, (z5.fst, (z6.fst, (z7.fst, (z8.fst, (z9.fst, ((), (z10.snd.fst, ()))))))))))), (z11, ())))⟩))

theorem bwrite_q (ok0 : bwrite_s0X → Bool) (g0_0 : bwrite_s0X → bwrite_e0_0X) (x : bwriteX) (Q : bwrite_S.Y → Prop) : wpf te E_bnew (lamCons 0 (loopF bwrite_s0 0 ok0 (bwrite_f0 g0_0)) lamNil) 1000 Try.f14 (bwrite_S.inp.inj x).tm (bwrite_S.inp.inj x).hp (fnK bwrite_S bwrite_sel Q) (fun _ _ => False) = (bwrite_T ok0 g0_0 (x.1.2.1) (x.2.1.1) (x.2.1.2.1) (x.2.1.2.2.1) (x.2.1.2.2.2.1) (x.2.1.2.2.2.2.1) (x.2.1.2.2.2.2.2.1) (x.2.1.2.2.2.2.2.2.1) (x.2.1.2.2.2.2.2.2.2.1) (x.2.1.2.2.2.2.2.2.2.2.1) (x.2.1.2.2.2.2.2.2.2.2.2.2.1) (x.2.2.1)).wpR Q := by kernel_rfl

theorem bwrite_main (ok0 : bwrite_s0X → Bool) (g0_0 : bwrite_s0X → bwrite_e0_0X) (h0 : ∀ s : bwrite_s0X, ok0 s = true → ∃ m e, loopRun (bwrite_U0) m s = some e ∧ (bwrite_f0 g0_0 s).run = some e) (pre : bwriteX → Bool) (F : bwriteX → OT bwrite_S.Y) (hF : ∀ (x : bwriteX) oy, pre x = true → (F x).run = some oy → (bwrite_T ok0 g0_0 (x.1.2.1) (x.2.1.1) (x.2.1.2.1) (x.2.1.2.2.1) (x.2.1.2.2.2.1) (x.2.1.2.2.2.2.1) (x.2.1.2.2.2.2.2.1) (x.2.1.2.2.2.2.2.2.1) (x.2.1.2.2.2.2.2.2.2.1) (x.2.1.2.2.2.2.2.2.2.2.1) (x.2.1.2.2.2.2.2.2.2.2.2.2.1) (x.2.2.1)).run = some oy) : SummOk Try.prog 14 (bwrite_S.summ pre F) :=
  fn_tree te_ok E_bnew_ok E_bnew_any (f := 14) (fn := Try.f14) (c := codeOf Try.f14) (by kernel_rfl) (by kernel_rfl) (by kernel_rfl) (S := bwrite_S) (k := 2) (by kernel_rfl) (fun R hR => (lamOk_cons (c := (codeOf Try.f14)) (by kernel_rfl) (id := 0) (by kernel_rfl) (loop_ok te_ok E_bnew_ok E_bnew_any (sh := bwrite_s0) hR (xs := bwrite_x0) (xsMk_small (by kernel_rfl) (by kernel_rfl) hR) xsMk_pan lamOk_nil (n := 1000) (T := bwrite_U0) (fun s Q => bwrite_q0 s Q) (ok := ok0) (f := bwrite_f0 g0_0) h0) lamOk_nil)) (n := 1000) (sel := bwrite_sel) (fun v o h => by cases h; rfl) (pre := pre) (F := F) (T := fun x => bwrite_T ok0 g0_0 (x.1.2.1) (x.2.1.1) (x.2.1.2.1) (x.2.1.2.2.1) (x.2.1.2.2.2.1) (x.2.1.2.2.2.2.1) (x.2.1.2.2.2.2.2.1) (x.2.1.2.2.2.2.2.2.1) (x.2.1.2.2.2.2.2.2.2.1) (x.2.1.2.2.2.2.2.2.2.2.1) (x.2.1.2.2.2.2.2.2.2.2.2.2.1) (x.2.2.1)) (fun x Q => bwrite_q ok0 g0_0 x Q) hF

/-- A block is taken. -/
def eat1 (s : List UInt64 × UInt64 × List UInt8) : List UInt64 × UInt64 × List UInt8 := (compr s.1 (s.2.2.take 128) (s.2.1 + 128) false, s.2.1 + 128, s.2.2.drop 128)
/-- All blocks but the last are taken. -/
def eatAll (s : List UInt64 × UInt64 × List UInt8) : List UInt64 × UInt64 × List UInt8 := upto (fun _ s => eat1 s) s ((s.2.2.length - 1) / 128)

abbrev DigWX : Type := Int × UInt64 × UInt64 × UInt64 × UInt64 × UInt64 × UInt64 × UInt64 × UInt64 × List UInt8 × UInt64 × Unit
def digW (n : Int) (s : List UInt64 × UInt64 × List UInt8) : DigWX := (n, s.1.getD 0 0, s.1.getD 1 0, s.1.getD 2 0, s.1.getD 3 0, s.1.getD 4 0, s.1.getD 5 0, s.1.getD 6 0, s.1.getD 7 0, s.2.2, s.2.1, ())

def ofDigW (x : DigWX) : List UInt64 × UInt64 × List UInt8 := ([x.2.1, x.2.2.1, x.2.2.2.1, x.2.2.2.2.1, x.2.2.2.2.2.1, x.2.2.2.2.2.2.1, x.2.2.2.2.2.2.2.1, x.2.2.2.2.2.2.2.2.1], x.2.2.2.2.2.2.2.2.2.2.1, x.2.2.2.2.2.2.2.2.2.1)

theorem compr_length {h : List UInt64} {b : List UInt8} {c : UInt64} {l : Bool} (hh : h.length = 8) : (compr h b c l).length = 8 := by unfold compr; rw [mergeH_length]; exact hh

def bwrite_ok0 (_ : bwrite_s0X) : Bool := true
def bwrite_g0 (s : bwrite_s0X) : bwrite_e0_0X := (((), ()), (digW s.2.1.1 (eatAll (ofDigW s.2.1)), (), ()))
theorem bwrite_h0 : ∀ s : bwrite_s0X, bwrite_ok0 s = true → ∃ m e, loopRun bwrite_U0 m s = some e ∧ (bwrite_f0 bwrite_g0 s).run = some e := by
  rintro ⟨⟨⟨⟩, ⟨⟩⟩, ⟨⟨n, h0, h1, h2, h3, h4, h5, h6, h7, w, c, ⟨⟩⟩, ⟨⟩, ⟨⟩⟩⟩ _
  have := (loop_upto (T := bwrite_U0) (fun _ s => ((((), ()), (digW n s, (), ())) : bwrite_s0X)) (fun _ s => eat1 s) (fun s => (⟨(.exit 0, bwrite_e0_0), (((), ()), (digW n s, (), ()))⟩ : LEnd)) ((w.length - 1) / 128) ([h0, h1, h2, h3, h4, h5, h6, h7], c, w)
    (fun k s => s.1.length = 8 ∧ s.2.2.length + 128 * k = w.length) ⟨rfl, by simp⟩ (fun k s hk hs => ⟨?_, ?_⟩) (fun s hs => ?_)).1
  · obtain ⟨m, hm⟩ := this
    exact ⟨m, _, hm, rfl⟩
  · obtain ⟨h, c, v⟩ := s
    obtain ⟨a1, a2⟩ := hs
    dsimp only at a1 a2
    have hv : 128 < v.length := by omega
    have t1 : [h.getD 0 0, h.getD 1 0, h.getD 2 0, h.getD 3 0, h.getD 4 0, h.getD 5 0, h.getD 6 0, h.getD 7 0] = h := (rfl : _ = tab h 8 0).trans (tab_eq a1)
    have t2 : tab (v.take 128) 128 0 = v.take 128 := tab_eq (by simp; omega)
    have t3 : (v.take 128).length = 128 := by simp; omega
    refine (OT.run_t (decide_eq_true (by dsimp only [digW]; omega))).trans ((gd_run ?_).trans ?_)
    · simp only [digW, List.drop_zero, t3, List.all_cons, List.all_nil, Bool.and_true, Bool.and_eq_true]
      exact ⟨between_of (by omega), rfl, rfl, between_of (by omega)⟩
    · simp only [OT.run_ok, digW, List.drop_zero, t1, t2]
      rfl
  · obtain ⟨h, c, v⟩ := s
    obtain ⟨a1, a2⟩ := hs
    dsimp only at a1 a2
    refine ⟨compr_length a1, ?_⟩
    simp only [eat1, List.length_drop]
    omega
  · obtain ⟨h, c, v⟩ := s
    obtain ⟨a1, a2⟩ := hs
    dsimp only at a1 a2
    exact OT.run_f (decide_eq_false (by dsimp only [digW]; omega))

/-- What is told of a digest in memory. -/
def ofDig (x : DigX) (w : List UInt8) : List UInt64 × UInt64 × List UInt8 := ([x.2.1, x.2.2.1, x.2.2.2.1, x.2.2.2.2.1, x.2.2.2.2.2.1, x.2.2.2.2.2.2.1, x.2.2.2.2.2.2.2.1, x.2.2.2.2.2.2.2.2.1], x.2.2.2.2.2.2.2.2.2.2.1, w)

def writeS (s : List UInt64 × UInt64 × List UInt8) (b : List UInt8) : List UInt64 × UInt64 × List UInt8 := eatAll (s.1, s.2.1, s.2.2 ++ b)

theorem eat_wait (s : List UInt64 × UInt64 × List UInt8) : ∀ k, (upto (fun _ s => eat1 s) s k).2.2.length ≤ s.2.2.length
  | 0 => Nat.le_refl _
  | k + 1 => by
    have := eat_wait s k
    show (List.drop 128 (upto (fun _ s => eat1 s) s k).2.2).length ≤ _
    rw [List.length_drop]
    omega

def bwrite_pre (x : bwriteX) : Bool := decide (x.2.2.1.length + x.1.2.1.length ≤ 140737488355328)
def bwrite_F (x : bwriteX) : OT bwrite_S.Y := .ok ⟨bwrite_o0, ((), (digT x.2.1.1 (writeS (ofDig x.2.1 x.2.2.1) x.1.2.1).1 (writeS (ofDig x.2.1 x.2.2.1) x.1.2.1).2.1, ((writeS (ofDig x.2.1 x.2.2.1) x.1.2.1).2.2, ())))⟩

theorem bwrite_ok : SummOk Try.prog 14 (bwrite_S.summ bwrite_pre bwrite_F) := bwrite_main bwrite_ok0 bwrite_g0 bwrite_h0 _ _ fun x oy hp ho => by
  rw [← ho]
  clear ho
  obtain ⟨⟨⟨⟩, b, ⟨⟩⟩, ⟨⟨n, h0, h1, h2, h3, h4, h5, h6, h7, ⟨⟩, c, ⟨⟩⟩, w, ⟨⟩⟩⟩ := x
  have hp' := of_decide_eq_true hp
  dsimp only at hp'
  refine (gd_run ?_).trans rfl
  simp only [List.all_cons, List.all_nil, Bool.and_true, Bool.and_eq_true]
  refine ⟨decide_eq_true (by omega), rfl, decide_eq_true ?_⟩
  have := eat_wait ([h0, h1, h2, h3, h4, h5, h6, h7], c, w ++ b) (((w ++ b).length - 1) / 128)
  show (eatAll ([h0, h1, h2, h3, h4, h5, h6, h7], c, w ++ b)).2.2.length ≤ _
  refine Nat.le_trans this ?_
  show (w ++ b).length ≤ _
  rw [List.length_append]
  exact hp'

def bwrite_summ : Summ := (bwrite_S.summ bwrite_pre bwrite_F)
theorem bwrite_known : SummOk Try.prog 14 bwrite_summ := bwrite_ok
theorem bwrite_smono : MonoOk bwrite_summ := fn_mono

def E_bwrite : Env := envCons 14 bwrite_summ E_bnew
theorem E_bwrite_ok : EnvOk Try.prog E_bwrite := envOk_cons bwrite_known E_bnew_ok
theorem E_bwrite_mono : EnvMono E_bwrite := envMono_cons bwrite_smono E_bnew_mono
theorem E_bwrite_any : AnyOk Try.prog te E_bwrite := any_ok follows te_ok E_bwrite_ok E_bwrite_mono

end Go.Proofs.Ytkngdfhigpjciaa

/- The function (*sigil/blake.Digest).Sum: what it makes of its arguments. No statement of a seat is proved here. -/
namespace Go.Proofs.Ytkngdfhigpjciaa
open Sx Go
set_option maxRecDepth 100000

def bsum_S : FnSpec := ⟨[.ptr 0 0 0], [(0, digC (.own 1)), (1, .row .u8)], false, 2, true⟩

abbrev bsumX : Type := ((Unit) × Unit) × (((Int) × (UInt64) × (UInt64) × (UInt64) × (UInt64) × (UInt64) × (UInt64) × (UInt64) × (UInt64) × (Unit) × (UInt64) × Unit) × (List (UInt8)) × Unit)

def bsum_s0 : Shape := ⟨51, [(5, .ptr 2 0 0), (6, .own 3), (33, .val false .int), (34, .val false .int)], [(0, .cells [.val false .int, .val false .u64, .val false .u64, .val false .u64, .val false .u64, .val false .u64, .val false .u64, .val false .u64, .val false .u64, .own 1, .val false .u64]), (1, .row .u8), (2, .row .u64), (3, .row .u8)], 2, true⟩

abbrev bsum_s0X : Type := ((Unit) × (Unit) × (Int) × (Int) × Unit) × (((Int) × (UInt64) × (UInt64) × (UInt64) × (UInt64) × (UInt64) × (UInt64) × (UInt64) × (UInt64) × (Unit) × (UInt64) × Unit) × (List (UInt8)) × (List (UInt64)) × (List (UInt8)) × Unit)

def bsum_e0_0 : Shape := ⟨51, [(6, .own 2)], [(0, .cells [.val false .int, .val false .u64, .val false .u64, .val false .u64, .val false .u64, .val false .u64, .val false .u64, .val false .u64, .val false .u64, .own 1, .val false .u64]), (1, .row .u8), (2, .row .u8)], 2, true⟩

abbrev bsum_e0_0X : Type := ((Unit) × Unit) × (((Int) × (UInt64) × (UInt64) × (UInt64) × (UInt64) × (UInt64) × (UInt64) × (UInt64) × (UInt64) × (Unit) × (UInt64) × Unit) × (List (UInt8)) × (List (UInt8)) × Unit)

def bsum_x0 : SE → Option Shape := xsMk [(0, bsum_e0_0)] none

def bsum_T0 (a33 : Int) (a34 : Int) (c0_0 : Int) (c0_1 : UInt64) (c0_2 : UInt64) (c0_3 : UInt64) (c0_4 : UInt64) (c0_5 : UInt64) (c0_6 : UInt64) (c0_7 : UInt64) (c0_8 : UInt64) (c0_10 : UInt64) (c1 : List (UInt8)) (c2 : List (UInt64)) (c3 : List (UInt8)) : OT (Sum bsum_s0X LEnd) :=
  let z0 : Int := Int.tdiv a34 (8 : Int)
  let z1 : Int := (8 : Int) * Int.tmod a34 (8 : Int)
  let z2 : Nat := List.length c3
  let z3 : Nat := Int.toNat a34
  (.br (decide (a34 < a33))
  (gd [true && inR z0, inB z0 (8 : Nat), decide (Int.toNat z0 + (0 : Nat) < List.length c2), inR z1, decide ((0 : Int) ≤ z1), inB a34 z2, decide (z3 < z2), inR (a34 + (1 : Int))] (.ok (.inl (((), ((), (a33, (a34 + (1 : Int), ())))), ((c0_0, (c0_1, (c0_2, (c0_3, (c0_4, (c0_5, (c0_6, (c0_7, (c0_8, ((), (c0_10, ()))))))))))), (c1, (c2, (List.set c3 z3 (UInt64.toUInt8 (shr64 (List.getD c2 (Int.toNat z0 + (0 : Nat)) (0 : UInt64)) z1)), ()))))))))
  (.ok (.inr ⟨(.exit 0, bsum_e0_0), (((), ()), ((c0_0, (c0_1, (c0_2, (c0_3, (c0_4, (c0_5, (c0_6, (c0_7, (c0_8, ((), (c0_10, ()))))))))))), (c1, (c3, ()))))⟩)))

def bsum_U0 (s : bsum_s0X) : OT (Sum bsum_s0X LEnd) := bsum_T0 (s.1.2.2.1) (s.1.2.2.2.1) (s.2.1.1) (s.2.1.2.1) (s.2.1.2.2.1) (s.2.1.2.2.2.1) (s.2.1.2.2.2.2.1) (s.2.1.2.2.2.2.2.1) (s.2.1.2.2.2.2.2.2.1) (s.2.1.2.2.2.2.2.2.2.1) (s.2.1.2.2.2.2.2.2.2.2.1) (s.2.1.2.2.2.2.2.2.2.2.2.2.1) (s.2.2.1) (s.2.2.2.1) (s.2.2.2.2.1)

theorem bsum_q0 (s : bsum_s0X) (Q : Sum bsum_s0X LEnd → Prop) : wps te E_bwrite lamNil 1000 (loopOf (codeOf Try.f15) 0) (bsum_s0.inj s) (stepK bsum_s0 bsum_x0 (Q : Sum bsum_s0.T LEnd → Prop)) = (bsum_U0 s).wpR Q := by kernel_rfl

def bsum_f0 (g0_0 : bsum_s0X → bsum_e0_0X) (s : bsum_s0X) : OT LEnd := (.ok ⟨(.exit 0, bsum_e0_0), g0_0 s⟩)

def bsum_o0 : OutSh := ⟨[.own 2], [(0, .cells [.val false .int, .val false .u64, .val false .u64, .val false .u64, .val false .u64, .val false .u64, .val false .u64, .val false .u64, .val false .u64, .own 1, .val false .u64]), (1, .row .u8), (2, .row .u8)], false⟩

def bsum_sel : SV → Option OutSh := fun _ => some bsum_o0

def bsum_T (ok0 : bsum_s0X → Bool) (g0_0 : bsum_s0X → bsum_e0_0X) (c0_0 : Int) (c0_1 : UInt64) (c0_2 : UInt64) (c0_3 : UInt64) (c0_4 : UInt64) (c0_5 : UInt64) (c0_6 : UInt64) (c0_7 : UInt64) (c0_8 : UInt64) (c0_10 : UInt64) (c1 : List (UInt8)) : OT bsum_S.Y :=
  let z0 : Nat := List.length c1
  let z1 : List UInt8 := List.take (128 : Nat) c1 ++ List.drop z0 (List.replicate (128 : Nat) (0 : UInt8))
  let z2 : List UInt8 := List.replicate (Int.toNat c0_0) (0 : UInt8)
  let z3 : List UInt64 := compr [c0_1, c0_2, c0_3, c0_4, c0_5, c0_6, c0_7, c0_8] (tab z1 (128 : Nat) (0 : UInt8)) (c0_10 + i2u (↑(min z0 (128 : Nat)) : Int)) true
  let z4 : (PUnit × PUnit × Int × Int × PUnit) × (Int × UInt64 × UInt64 × UInt64 × UInt64 × UInt64 × UInt64 × UInt64 × UInt64 × PUnit × UInt64 × PUnit) × List UInt8 × List UInt64 × List UInt8 × PUnit := (((), (), (↑(List.length z2) : Int), (0 : Int), ()), (c0_0, c0_1, c0_2, c0_3, c0_4, c0_5, c0_6, c0_7, c0_8, (), c0_10, ()), c1, [List.getD z3 (0 : Nat) (0 : UInt64), List.getD z3 (1 : Nat) (0 : UInt64), List.getD z3 (2 : Nat) (0 : UInt64), List.getD z3 (3 : Nat) (0 : UInt64), List.getD z3 (4 : Nat) (0 : UInt64), List.getD z3 (5 : Nat) (0 : UInt64), List.getD z3 (6 : Nat) (0 : UInt64), List.getD z3 (7 : Nat) (0 : UInt64)], z2, ())
  let z5 : (Int × UInt64 × UInt64 × UInt64 × UInt64 × UInt64 × UInt64 × UInt64 × UInt64 × PUnit × UInt64 × PUnit) × List UInt8 × List UInt8 × PUnit := (g0_0 z4).snd
  let z6 : Int × UInt64 × UInt64 × UInt64 × UInt64 × UInt64 × UInt64 × UInt64 × UInt64 × PUnit × UInt64 × PUnit := z5.fst
  let z7 : UInt64 × UInt64 × UInt64 × UInt64 × UInt64 × UInt64 × UInt64 × UInt64 × PUnit × UInt64 × PUnit := z6.snd
  let z8 : UInt64 × UInt64 × UInt64 × UInt64 × UInt64 × UInt64 × UInt64 × PUnit × UInt64 × PUnit := z7.snd
  let z9 : UInt64 × UInt64 × UInt64 × UInt64 × UInt64 × UInt64 × PUnit × UInt64 × PUnit := z8.snd
  let z10 : UInt64 × UInt64 × UInt64 × UInt64 × UInt64 × PUnit × UInt64 × PUnit := z9.snd
  let z11 : UInt64 × UInt64 × UInt64 × UInt64 × PUnit × UInt64 × PUnit := z10.snd
  let z12 : UInt64 × UInt64 × UInt64 × PUnit × UInt64 × PUnit := z11.snd
  let z13 : UInt64 × UInt64 × PUnit × UInt64 × PUnit := z12.snd
  let z14 : UInt64 × PUnit × UInt64 × PUnit := z13.snd
  let z15 : List UInt8 × List UInt8 × PUnit := z5.snd
  (gd [decide ((128 : Nat) ≤ List.length z1), decide ((0 : Int) ≤ c0_0) && decide (c0_0 ≤ c0_0) && decide (c0_0 * (1 : Int) ≤ (140737488355328 : Int)) && decide (c0_0 ≤ (140737488355328 : Int)), ok0 z4] (.ok ⟨bsum_o0, (((), ()), ((z6.fst, (z7.fst, (z8.fst, (z9.fst, (z10.fst, (z11.fst, (z12.fst, (z13.fst, (z14.fst, ((), (z14.snd.snd.fst, ()))))))))))), (z15.fst, (z15.snd.fst, ()))))⟩))

theorem bsum_q (ok0 : bsum_s0X → Bool) (g0_0 : bsum_s0X → bsum_e0_0X) (x : bsumX) (Q : bsum_S.Y → Prop) : wpf te E_bwrite (lamCons 0 (loopF bsum_s0 0 ok0 (bsum_f0 g0_0)) lamNil) 1000 Try.f15 (bsum_S.inp.inj x).tm (bsum_S.inp.inj x).hp (fnK bsum_S bsum_sel Q) (fun _ _ => False) = (bsum_T ok0 g0_0 (x.2.1.1) (x.2.1.2.1) (x.2.1.2.2.1) (x.2.1.2.2.2.1) (x.2.1.2.2.2.2.1) (x.2.1.2.2.2.2.2.1) (x.2.1.2.2.2.2.2.2.1) (x.2.1.2.2.2.2.2.2.2.1) (x.2.1.2.2.2.2.2.2.2.2.1) (x.2.1.2.2.2.2.2.2.2.2.2.2.1) (x.2.2.1)).wpR Q := by kernel_rfl

theorem bsum_main (ok0 : bsum_s0X → Bool) (g0_0 : bsum_s0X → bsum_e0_0X) (h0 : ∀ s : bsum_s0X, ok0 s = true → ∃ m e, loopRun (bsum_U0) m s = some e ∧ (bsum_f0 g0_0 s).run = some e) (pre : bsumX → Bool) (F : bsumX → OT bsum_S.Y) (hF : ∀ (x : bsumX) oy, pre x = true → (F x).run = some oy → (bsum_T ok0 g0_0 (x.2.1.1) (x.2.1.2.1) (x.2.1.2.2.1) (x.2.1.2.2.2.1) (x.2.1.2.2.2.2.1) (x.2.1.2.2.2.2.2.1) (x.2.1.2.2.2.2.2.2.1) (x.2.1.2.2.2.2.2.2.2.1) (x.2.1.2.2.2.2.2.2.2.2.1) (x.2.1.2.2.2.2.2.2.2.2.2.2.1) (x.2.2.1)).run = some oy) : SummOk Try.prog 15 (bsum_S.summ pre F) :=
  fn_tree te_ok E_bwrite_ok E_bwrite_any (f := 15) (fn := Try.f15) (c := codeOf Try.f15) (by kernel_rfl) (by kernel_rfl) (by kernel_rfl) (S := bsum_S) (k := 2) (by kernel_rfl) (fun R hR => (lamOk_cons (c := (codeOf Try.f15)) (by kernel_rfl) (id := 0) (by kernel_rfl) (loop_ok te_ok E_bwrite_ok E_bwrite_any (sh := bsum_s0) hR (xs := bsum_x0) (xsMk_small (by kernel_rfl) (by kernel_rfl) hR) xsMk_pan lamOk_nil (n := 1000) (T := bsum_U0) (fun s Q => bsum_q0 s Q) (ok := ok0) (f := bsum_f0 g0_0) h0) lamOk_nil)) (n := 1000) (sel := bsum_sel) (fun v o h => by cases h; rfl) (pre := pre) (F := F) (T := fun x => bsum_T ok0 g0_0 (x.2.1.1) (x.2.1.2.1) (x.2.1.2.2.1) (x.2.1.2.2.2.1) (x.2.1.2.2.2.2.1) (x.2.1.2.2.2.2.2.1) (x.2.1.2.2.2.2.2.2.1) (x.2.1.2.2.2.2.2.2.2.1) (x.2.1.2.2.2.2.2.2.2.2.1) (x.2.1.2.2.2.2.2.2.2.2.2.2.1) (x.2.2.1)) (fun x Q => bsum_q ok0 g0_0 x Q) hF

/-- A state's bytes, the first n. -/
def sumBytes (h : List UInt64) (n : Nat) : List UInt8 := upto (fun k o => o.set k (UInt64.toUInt8 (shr64 (h.getD (k / 8) 0) (8 * ((k % 8 : Nat) : Int))))) (List.replicate n 0) n

def bsum_ok0 (s : bsum_s0X) : Bool := decide (s.1.2.2.2.1 = 0 ∧ s.2.2.2.1.length = 8 ∧ s.1.2.2.1 ≤ 64 ∧ 0 ≤ s.1.2.2.1 ∧ s.2.2.2.2.1 = List.replicate s.1.2.2.1.toNat 0)
def bsum_g0 (s : bsum_s0X) : bsum_e0_0X := (((), ()), (s.2.1, s.2.2.1, sumBytes s.2.2.2.1 s.1.2.2.1.toNat, ()))
theorem bsum_h0 : ∀ s : bsum_s0X, bsum_ok0 s = true → ∃ m e, loopRun bsum_U0 m s = some e ∧ (bsum_f0 bsum_g0 s).run = some e := by
  rintro ⟨⟨⟨⟩, ⟨⟩, n, i, ⟨⟩⟩, ⟨d, w, h, o, ⟨⟩⟩⟩ hh
  have h' := of_decide_eq_true hh
  dsimp only at h'
  obtain ⟨rfl, hl, hn, hn0, rfl⟩ := h'
  obtain ⟨k, rfl⟩ : ∃ k : Nat, n = (k : Int) := ⟨n.toNat, by omega⟩
  have := (loop_upto (T := bsum_U0) (fun i o => ((((), (), (k : Int), (i : Int), ()), (d, w, h, o, ())) : bsum_s0X)) (fun k o => o.set k (UInt64.toUInt8 (shr64 (h.getD (k / 8) 0) (8 * ((k % 8 : Nat) : Int)))))
    (fun o => (⟨(.exit 0, bsum_e0_0), (((), ()), (d, w, o, ()))⟩ : LEnd)) k (List.replicate k 0) (fun _ o => o.length = k) (by simp) (fun i o hi ho => ⟨?_, by rw [List.length_set]; exact ho⟩) (fun o ho => ?_)).1
  · obtain ⟨m, hm⟩ := this
    exact ⟨m, _, hm, rfl⟩
  · have t1 : Int.tdiv (i : Int) 8 = ((i / 8 : Nat) : Int) := by rw [Int.tdiv_eq_ediv_of_nonneg (by omega)]; omega
    have t2 : Int.tmod (i : Int) 8 = ((i % 8 : Nat) : Int) := by rw [Int.tmod_eq_emod_of_nonneg (by omega)]; omega
    refine (OT.run_t (decide_eq_true (by dsimp only; omega))).trans ((gd_run ?_).trans ?_)
    · simp only [t1, t2, hl, ho, Int.toNat_natCast, List.all_cons, List.all_nil, Bool.and_true, Bool.and_eq_true]
      exact ⟨⟨trivial, inR_of (by omega)⟩, inB_of (by omega), decide_eq_true (by omega), inR_of (by omega), decide_eq_true (by omega), inB_of (by omega), decide_eq_true (by omega), inR_of (by omega)⟩
    · simp only [OT.run_ok, t1, t2, Int.toNat_natCast, Nat.add_zero]
      rfl
  · exact OT.run_f (decide_eq_false (by dsimp only; omega))

/-- What waits, with bytes 0 behind it. -/
def pad128 (w : List UInt8) : List UInt8 := w.take 128 ++ (List.replicate 128 (0 : UInt8)).drop w.length
theorem pad128_length {w : List UInt8} (h : w.length ≤ 128) : (pad128 w).length = 128 := by
  simp only [pad128, List.length_append, List.length_take, List.length_drop, List.length_replicate]
  omega

/-- The digest of what was written. -/
def sumS (n : Int) (s : List UInt64 × UInt64 × List UInt8) : List UInt8 := sumBytes (compr s.1 (pad128 s.2.2) (s.2.1 + i2u (s.2.2.length : Int)) true) n.toNat

theorem bsum_ok0_of {n : Int} {d : DigX} {w : List UInt8} {h : List UInt64} (hh : h.length = 8) (hn0 : 0 ≤ n) (hn : n ≤ 64) : bsum_ok0 (((), (), n, 0, ()), (d, w, h, List.replicate n.toNat 0, ())) = true := decide_eq_true ⟨rfl, hh, hn, hn0, rfl⟩

def bsum_pre (x : bsumX) : Bool := decide (0 ≤ x.2.1.1 ∧ x.2.1.1 ≤ 64 ∧ x.2.2.1.length ≤ 128)
def bsum_F (x : bsumX) : OT bsum_S.Y := .ok ⟨bsum_o0, (((), ()), (x.2.1, (x.2.2.1, (sumS x.2.1.1 (ofDig x.2.1 x.2.2.1), ()))))⟩

theorem bsum_ok : SummOk Try.prog 15 (bsum_S.summ bsum_pre bsum_F) := bsum_main bsum_ok0 bsum_g0 bsum_h0 _ _ fun x oy hp ho => by
  rw [← ho]
  clear ho
  obtain ⟨⟨⟨⟩, ⟨⟩⟩, ⟨⟨n, h0, h1, h2, h3, h4, h5, h6, h7, ⟨⟩, c, ⟨⟩⟩, w, ⟨⟩⟩⟩ := x
  have hp' := of_decide_eq_true hp
  dsimp only at hp'
  obtain ⟨hn0, hn, hw⟩ := hp'
  have t1 : w.take 128 ++ List.drop w.length (List.replicate 128 (0 : UInt8)) = pad128 w := rfl
  have t2 : tab (pad128 w) 128 0 = pad128 w := tab_eq (pad128_length hw)
  have t3 : min w.length 128 = w.length := by omega
  have hc : ∀ c, (compr [h0, h1, h2, h3, h4, h5, h6, h7] (pad128 w) c true).length = 8 := fun c => compr_length rfl
  have t4 : ∀ c, tab (compr [h0, h1, h2, h3, h4, h5, h6, h7] (pad128 w) c true) 8 0 = compr [h0, h1, h2, h3, h4, h5, h6, h7] (pad128 w) c true := fun c => tab_eq (hc c)
  have t5 : ((List.replicate n.toNat (0 : UInt8)).length : Int) = n := by simp; omega
  refine (gd_run ?_).trans ?_
  · simp only [t1, t2, t3, t4, t5, pad128_length hw, List.all_cons, List.all_nil, Bool.and_true, Bool.and_eq_true]
    exact ⟨rfl, ⟨⟨⟨decide_eq_true hn0, decide_eq_true (Int.le_refl _)⟩, decide_eq_true (by omega)⟩, decide_eq_true (by omega)⟩, bsum_ok0_of (hc _) hn0 hn⟩
  · simp only [t1, t2, t3, t4, t5, bsum_g0]
    rfl

def bsum_summ : Summ := (bsum_S.summ bsum_pre bsum_F)
theorem bsum_known : SummOk Try.prog 15 bsum_summ := bsum_ok
theorem bsum_smono : MonoOk bsum_summ := fn_mono

def E_bsum : Env := envCons 15 bsum_summ E_bwrite
theorem E_bsum_ok : EnvOk Try.prog E_bsum := envOk_cons bsum_known E_bwrite_ok
theorem E_bsum_mono : EnvMono E_bsum := envMono_cons bsum_smono E_bwrite_mono
theorem E_bsum_any : AnyOk Try.prog te E_bsum := any_ok follows te_ok E_bsum_ok E_bsum_mono

end Go.Proofs.Ytkngdfhigpjciaa

/- The function sigil/blake.Sum: what it makes of its arguments. No statement of a seat is proved here. -/
namespace Go.Proofs.Ytkngdfhigpjciaa
open Sx Go
set_option maxRecDepth 100000

def bsumf_S : FnSpec := ⟨[.val false .str, .val false .int, .val false (.list .u8)], [], true, 0, false⟩

abbrev bsumfX : Type := ((List UInt8) × (Int) × (List (UInt8)) × Unit) × (Unit)

def bsumf_o0 : OutSh := ⟨[.own 0, .val false .int], [(0, .row .u8)], false⟩

def bsumf_sel : SV → Option OutSh := fun _ => some bsumf_o0

def bsumf_T (a0 : List UInt8) (a1 : Int) (a2 : List (UInt8)) : OT bsumf_S.Y :=
  let z0 : Int × UInt64 × UInt64 × UInt64 × UInt64 × UInt64 × UInt64 × UInt64 × UInt64 × PUnit × UInt64 × PUnit := digT a1 (newH a0 a1) (0 : UInt64)
  let z1 : Int := z0.fst
  let z2 : UInt64 × UInt64 × UInt64 × UInt64 × UInt64 × UInt64 × UInt64 × UInt64 × PUnit × UInt64 × PUnit := z0.snd
  let z3 : UInt64 × UInt64 × UInt64 × UInt64 × UInt64 × UInt64 × UInt64 × PUnit × UInt64 × PUnit := z2.snd
  let z4 : UInt64 × UInt64 × UInt64 × UInt64 × UInt64 × UInt64 × PUnit × UInt64 × PUnit := z3.snd
  let z5 : UInt64 × UInt64 × UInt64 × UInt64 × UInt64 × PUnit × UInt64 × PUnit := z4.snd
  let z6 : UInt64 × UInt64 × UInt64 × UInt64 × PUnit × UInt64 × PUnit := z5.snd
  let z7 : UInt64 × UInt64 × UInt64 × PUnit × UInt64 × PUnit := z6.snd
  let z8 : UInt64 × UInt64 × PUnit × UInt64 × PUnit := z7.snd
  let z9 : UInt64 × PUnit × UInt64 × PUnit := z8.snd
  let z10 : Int × UInt64 × UInt64 × UInt64 × UInt64 × UInt64 × UInt64 × UInt64 × UInt64 × PUnit × UInt64 × PUnit := (z1, z2.fst, z3.fst, z4.fst, z5.fst, z6.fst, z7.fst, z8.fst, z9.fst, (), z9.snd.snd.fst, ())
  let z11 : List UInt64 × UInt64 × List UInt8 := writeS (ofDig z10 []) a2
  let z12 : UInt64 × List UInt8 := z11.snd
  let z13 : Int × UInt64 × UInt64 × UInt64 × UInt64 × UInt64 × UInt64 × UInt64 × UInt64 × PUnit × UInt64 × PUnit := digT z1 z11.fst z12.fst
  let z14 : Int := z13.fst
  let z15 : UInt64 × UInt64 × UInt64 × UInt64 × UInt64 × UInt64 × UInt64 × UInt64 × PUnit × UInt64 × PUnit := z13.snd
  let z16 : UInt64 × UInt64 × UInt64 × UInt64 × UInt64 × UInt64 × UInt64 × PUnit × UInt64 × PUnit := z15.snd
  let z17 : UInt64 × UInt64 × UInt64 × UInt64 × UInt64 × UInt64 × PUnit × UInt64 × PUnit := z16.snd
  let z18 : UInt64 × UInt64 × UInt64 × UInt64 × UInt64 × PUnit × UInt64 × PUnit := z17.snd
  let z19 : UInt64 × UInt64 × UInt64 × UInt64 × PUnit × UInt64 × PUnit := z18.snd
  let z20 : UInt64 × UInt64 × UInt64 × PUnit × UInt64 × PUnit := z19.snd
  let z21 : UInt64 × UInt64 × PUnit × UInt64 × PUnit := z20.snd
  let z22 : UInt64 × PUnit × UInt64 × PUnit := z21.snd
  let z23 : Int × UInt64 × UInt64 × UInt64 × UInt64 × UInt64 × UInt64 × UInt64 × UInt64 × PUnit × UInt64 × PUnit := (z14, z15.fst, z16.fst, z17.fst, z18.fst, z19.fst, z20.fst, z21.fst, z22.fst, (), z22.snd.snd.fst, ())
  let z24 : List UInt8 := z12.snd
  (.br (badKey a0 a1)
  (.ok ⟨bsumf_o0, (((), ((30 : Int), ())), ([], ()))⟩)
  (gd [bwrite_pre (((), a2, ()), z10, [], ()), bsum_pre (((), ()), z23, z24, ())] (.ok ⟨bsumf_o0, (((), ((0 : Int), ())), (sumS z14 (ofDig z23 z24), ()))⟩)))

theorem bsumf_q (x : bsumfX) (Q : bsumf_S.Y → Prop) : wpf te E_bsum lamNil 1000 Try.f9 (bsumf_S.inp.inj x).tm (bsumf_S.inp.inj x).hp (fnK bsumf_S bsumf_sel Q) (fun _ _ => False) = (bsumf_T (x.1.1) (x.1.2.1) (x.1.2.2.1)).wpR Q := by kernel_rfl

theorem bsumf_main (pre : bsumfX → Bool) (F : bsumfX → OT bsumf_S.Y) (hF : ∀ (x : bsumfX) oy, pre x = true → (F x).run = some oy → (bsumf_T (x.1.1) (x.1.2.1) (x.1.2.2.1)).run = some oy) : SummOk Try.prog 9 (bsumf_S.summ pre F) :=
  fn_tree te_ok E_bsum_ok E_bsum_any (f := 9) (fn := Try.f9) (c := codeOf Try.f9) (by kernel_rfl) (by kernel_rfl) (by kernel_rfl) (S := bsumf_S) (k := 0) (by kernel_rfl) (fun R hR => lamOk_nil) (n := 1000) (sel := bsumf_sel) (fun v o h => by cases h; rfl) (pre := pre) (F := F) (T := fun x => bsumf_T (x.1.1) (x.1.2.1) (x.1.2.2.1)) (fun x Q => bsumf_q x Q) hF

theorem ofDig_digT {n : Int} {h : List UInt64} {c : UInt64} {w : List UInt8} (hh : h.length = 8) : ofDig (digT n h c) w = (h, c, w) := by
  have : [h.getD 0 0, h.getD 1 0, h.getD 2 0, h.getD 3 0, h.getD 4 0, h.getD 5 0, h.getD 6 0, h.getD 7 0] = h := (rfl : _ = tab h 8 0).trans (tab_eq hh)
  simp only [ofDig, digT, this]

theorem eat_h (s : List UInt64 × UInt64 × List UInt8) (hs : s.1.length = 8) : ∀ k, (upto (fun _ s => eat1 s) s k).1.length = 8
  | 0 => hs
  | k + 1 => compr_length (eat_h s hs k)

theorem eat_len (s : List UInt64 × UInt64 × List UInt8) : ∀ k, (upto (fun _ s => eat1 s) s k).2.2.length = s.2.2.length - 128 * k
  | 0 => rfl
  | k + 1 => by
    have := eat_len s k
    show (List.drop 128 (upto (fun _ s => eat1 s) s k).2.2).length = _
    rw [List.length_drop, this]
    omega

theorem eatAll_h (s : List UInt64 × UInt64 × List UInt8) (hs : s.1.length = 8) : (eatAll s).1.length = 8 := eat_h s hs _
theorem eatAll_len (s : List UInt64 × UInt64 × List UInt8) : (eatAll s).2.2.length ≤ 128 := by
  unfold eatAll
  rw [eat_len]
  omega

/-- The digest of bytes. -/
def blakeOf (p : List UInt8) (n : Int) (b : List UInt8) : List UInt8 := sumS n (writeS (newH p n, 0, []) b)

def bsumf_pre (x : bsumfX) : Bool := decide (x.1.2.2.1.length ≤ 140737488355328)
def bsumf_F (x : bsumfX) : OT bsumf_S.Y := .br (badKey x.1.1 x.1.2.1) (.ok ⟨bsumf_o0, (((), ((30 : Int), ())), ([], ()))⟩) (.ok ⟨bsumf_o0, (((), ((0 : Int), ())), (blakeOf x.1.1 x.1.2.1 x.1.2.2.1, ()))⟩)

theorem newH_length (p : List UInt8) (n : Int) : (newH p n).length = 8 := rfl

theorem bsumf_ok : SummOk Try.prog 9 (bsumf_S.summ bsumf_pre bsumf_F) := bsumf_main _ _ fun x oy hp ho => by
  rw [← ho]
  clear ho
  obtain ⟨⟨p, n, b, ⟨⟩⟩, ⟨⟩⟩ := x
  have hp' := of_decide_eq_true hp
  dsimp only at hp'
  cases hk : badKey p n
  · refine (OT.run_f hk).trans ?_
    have e1 : ofDig (digT n (newH p n) 0) [] = (newH p n, 0, []) := ofDig_digT rfl
    have e2 : ∀ c w, ofDig (digT n (writeS (newH p n, 0, []) b).1 c) w = ((writeS (newH p n, 0, []) b).1, c, w) := fun c w => ofDig_digT (eatAll_h _ rfl)
    have hn : 0 ≤ n ∧ n ≤ 64 := by
      simp only [badKey, Bool.or_eq_false_iff, decide_eq_false_iff_not] at hk
      omega
    refine (gd_run ?_).trans ?_
    · simp only [List.all_cons, List.all_nil, Bool.and_true, Bool.and_eq_true]
      refine ⟨decide_eq_true (by simp only [List.length_nil]; omega), decide_eq_true ⟨hn.1, hn.2, ?_⟩⟩
      exact eatAll_len _
    · have key : sumS n (ofDig (digT n (writeS (ofDig (digT n (newH p n) 0) []) b).1 (writeS (ofDig (digT n (newH p n) 0) []) b).2.1) (writeS (ofDig (digT n (newH p n) 0) []) b).2.2) = blakeOf p n b := by
        rw [e1, e2]
        rfl
      simp only [bsumf_F, hk]
      exact congrArg (fun l => some (⟨bsumf_o0, (((), ((0 : Int), ())), (l, ()))⟩ : bsumf_S.Y)) key
  · refine (OT.run_t hk).trans ?_
    simp only [bsumf_F, hk]
    rfl

def bsumf_summ : Summ := (bsumf_S.summ bsumf_pre bsumf_F)
theorem bsumf_known : SummOk Try.prog 9 bsumf_summ := bsumf_ok
theorem bsumf_smono : MonoOk bsumf_summ := fn_mono

def E_bsumf : Env := envCons 9 bsumf_summ E_bsum
theorem E_bsumf_ok : EnvOk Try.prog E_bsumf := envOk_cons bsumf_known E_bsum_ok
theorem E_bsumf_mono : EnvMono E_bsumf := envMono_cons bsumf_smono E_bsum_mono
theorem E_bsumf_any : AnyOk Try.prog te E_bsumf := any_ok follows te_ok E_bsumf_ok E_bsumf_mono

end Go.Proofs.Ytkngdfhigpjciaa

/- Plain numbers: four words as a number. No statement of a seat is proved here. -/
namespace Go.Proofs.Ytkngdfhigpjciaa
open Sx Go

/-- The number of four words, the least first. -/
def Sx.Elem.nat (e : Elem) : Nat := e.w0.toNat + 18446744073709551616 * (e.w1.toNat + 18446744073709551616 * (e.w2.toNat + 18446744073709551616 * e.w3.toNat))
/-- Four words of a number. -/
def ofN (n : Nat) : Elem := ⟨UInt64.ofNat n, UInt64.ofNat (n / 18446744073709551616), UInt64.ofNat (n / 18446744073709551616 / 18446744073709551616), UInt64.ofNat (n / 18446744073709551616 / 18446744073709551616 / 18446744073709551616)⟩

/-- A sum with a carry. -/
def addC (x y c : UInt64) : UInt64 := UInt64.ofNat ((x.toNat + y.toNat + c.toNat) % 18446744073709551616)
def addK (x y c : UInt64) : UInt64 := UInt64.ofNat ((x.toNat + y.toNat + c.toNat) / 18446744073709551616)
def subC (x y c : UInt64) : UInt64 := UInt64.ofNat ((x.toNat + 18446744073709551616 - y.toNat - c.toNat) % 18446744073709551616)
def subK (x y c : UInt64) : UInt64 := UInt64.ofNat (if x.toNat < y.toNat + c.toNat then 1 else 0)


/-- A product's upper half. -/
def mulH (x y : UInt64) : UInt64 := UInt64.ofNat (x.toNat * y.toNat / 18446744073709551616)

theorem shr64_nat (x : UInt64) (k : Nat) (hk : k < 64) : (shr64 x (k : Int)).toNat = x.toNat / 2 ^ k := by
  unfold shr64
  rw [if_pos (by omega), UInt64.toNat_shiftRight, UInt64.toNat_ofNat', Int.toNat_natCast, Nat.shiftRight_eq_div_pow]
  congr 2
  omega

theorem shl64_nat (x : UInt64) (k : Nat) (hk : k < 64) : (shl64 x (k : Int)).toNat = x.toNat * 2 ^ k % 2 ^ 64 := by
  unfold shl64
  rw [if_pos (by omega), UInt64.toNat_shiftLeft, UInt64.toNat_ofNat', Int.toNat_natCast, Nat.shiftLeft_eq]
  congr 3
  omega

theorem and_mask32 (x : UInt64) : (x &&& 4294967295).toNat = x.toNat % 4294967296 := by
  rw [UInt64.toNat_and]
  exact Nat.and_two_pow_sub_one_eq_mod x.toNat 32

theorem mul_hi (a b : UInt64) : shr64 a 32 * shr64 b 32 + shr64 (shr64 a 32 * (b &&& 4294967295) + shr64 ((a &&& 4294967295) * (b &&& 4294967295)) 32) 32 +
    shr64 (((shr64 a 32 * (b &&& 4294967295) + shr64 ((a &&& 4294967295) * (b &&& 4294967295)) 32) &&& 4294967295) + (a &&& 4294967295) * shr64 b 32) 32 = mulH a b := by
  have ha := a.toNat_lt
  have hb := b.toNat_lt
  obtain ⟨h1, h2, h3, h4⟩ := Lib.mul64_hi a.toNat b.toNat ha hb
  have s32 : ∀ x : UInt64, (shr64 x 32).toNat = x.toNat / 4294967296 := fun x => shr64_nat x 32 (by omega)
  have hx := Lib.half_mul_le (a := a.toNat / 4294967296) (b := b.toNat / 4294967296) (by omega) (by omega)
  have hy := Lib.half_mul_le (a := a.toNat / 4294967296) (b := b.toNat % 4294967296) (by omega) (by omega)
  have hz := Lib.half_mul_le (a := a.toNat % 4294967296) (b := b.toNat / 4294967296) (by omega) (by omega)
  have e0 : ((a &&& 4294967295) * (b &&& 4294967295)).toNat = a.toNat % 4294967296 * (b.toNat % 4294967296) := by
    rw [UInt64.toNat_mul, and_mask32, and_mask32, Nat.mod_eq_of_lt h1]
  have e1 : (shr64 a 32 * (b &&& 4294967295) + shr64 ((a &&& 4294967295) * (b &&& 4294967295)) 32).toNat = a.toNat / 4294967296 * (b.toNat % 4294967296) + a.toNat % 4294967296 * (b.toNat % 4294967296) / 4294967296 := by
    rw [UInt64.toNat_add, UInt64.toNat_mul, s32, s32, and_mask32, e0, Nat.mod_eq_of_lt (a := a.toNat / 4294967296 * (b.toNat % 4294967296)) (by omega), Nat.mod_eq_of_lt h2]
  have e2 : (((shr64 a 32 * (b &&& 4294967295) + shr64 ((a &&& 4294967295) * (b &&& 4294967295)) 32) &&& 4294967295) + (a &&& 4294967295) * shr64 b 32).toNat =
      (a.toNat / 4294967296 * (b.toNat % 4294967296) + a.toNat % 4294967296 * (b.toNat % 4294967296) / 4294967296) % 4294967296 + a.toNat % 4294967296 * (b.toNat / 4294967296) := by
    rw [UInt64.toNat_add, UInt64.toNat_mul, and_mask32, and_mask32, s32, e1, Nat.mod_eq_of_lt (a := a.toNat % 4294967296 * (b.toNat / 4294967296)) (by omega), Nat.mod_eq_of_lt h3]
  have hq : a.toNat * b.toNat / 18446744073709551616 < 18446744073709551616 := by
    rw [Nat.div_lt_iff_lt_mul (by omega)]
    exact Nat.mul_lt_mul'' ha hb
  rw [← UInt64.toNat_inj, UInt64.toNat_add, UInt64.toNat_add, UInt64.toNat_mul, s32, s32, s32, s32, e1, e2]
  have e3 : (mulH a b).toNat = a.toNat * b.toNat / 18446744073709551616 := by
    unfold mulH
    rw [UInt64.toNat_ofNat', Nat.mod_eq_of_lt hq]
  rw [e3, ← h4]
  rw [← h4] at hq
  omega

/-- Two words by one: the quotient's lower word, and the remainder. -/
def divQ (h l y : UInt64) : UInt64 := UInt64.ofNat ((h.toNat * 18446744073709551616 + l.toNat) / y.toNat)
def divR (h l y : UInt64) : UInt64 := UInt64.ofNat ((h.toNat * 18446744073709551616 + l.toNat) % y.toNat)

theorem div_part {m A B N : Nat} (hm : 0 < m) (e : N = A + m * B) : N / m = B + A / m ∧ N % m = A % m := by
  subst e
  exact ⟨by rw [Nat.add_mul_div_left _ _ hm, Nat.add_comm], Nat.add_mul_mod_self_left ..⟩

/-- Long division as the words do it: K is 2^24, L is 2^8, so that L K is 2^32. -/
theorem div_words_gen {m N u t q r K L : Nat} (hm : 0 < m) (hL : 0 < L) (hu : N = u * K + t) (hq : u = q * (m * L) + r) :
    N / m = q * (L * K) + ((r * K + t) * L) / (m * L) ∧ N % m = ((r * K + t) * L) % (m * L) / L := by
  have e : N = (r * K + t) + m * (q * (L * K)) := by
    have h1 : q * (m * L) * K = m * (q * (L * K)) := by
      rw [Nat.mul_assoc q, Nat.mul_assoc m, Nat.mul_left_comm m q]
    rw [hu, hq, Nat.add_mul, h1]
    omega
  obtain ⟨h1, h2⟩ := div_part hm e
  rw [h1, h2, Nat.mul_div_mul_right _ _ hL, Nat.mul_mod_mul_right, Nat.mul_div_cancel _ hL]
  exact ⟨rfl, rfl⟩

theorem addC_step (x y c : UInt64) : x.toNat + y.toNat + c.toNat = (addC x y c).toNat + 18446744073709551616 * (addK x y c).toNat := by
  have hx := x.toNat_lt
  have hy := y.toNat_lt
  have hc := c.toNat_lt
  unfold addC addK
  rw [UInt64.toNat_ofNat', UInt64.toNat_ofNat', Nat.mod_eq_of_lt (b := 2 ^ 64) (by omega), Nat.mod_eq_of_lt (b := 2 ^ 64) (by omega)]
  omega
theorem addK_le {x y c : UInt64} (hc : c.toNat ≤ 1) : (addK x y c).toNat ≤ 1 := by
  have hx := x.toNat_lt
  have hy := y.toNat_lt
  unfold addK
  rw [UInt64.toNat_ofNat', Nat.mod_eq_of_lt (by omega)]
  omega
theorem subK_nat (x y c : UInt64) : (subK x y c).toNat = if x.toNat < y.toNat + c.toNat then 1 else 0 := by
  unfold subK
  rw [UInt64.toNat_ofNat']
  split <;> rfl
theorem subK_le {x y c : UInt64} : (subK x y c).toNat ≤ 1 := by
  rw [subK_nat]
  split <;> omega
theorem subC_step {x y c : UInt64} (hc : c.toNat ≤ 1) : x.toNat + 18446744073709551616 * (subK x y c).toNat = (subC x y c).toNat + y.toNat + c.toNat := by
  have hx := x.toNat_lt
  have hy := y.toNat_lt
  rw [subK_nat]
  unfold subC
  rw [UInt64.toNat_ofNat', Nat.mod_eq_of_lt (b := 2 ^ 64) (by omega)]
  split <;> omega

theorem nat_lt (e : Elem) : e.nat < 115792089237316195423570985008687907853269984665640564039457584007913129639936 := by
  have h0 := e.w0.toNat_lt
  have h1 := e.w1.toNat_lt
  have h2 := e.w2.toNat_lt
  have h3 := e.w3.toNat_lt
  unfold Sx.Elem.nat
  omega

theorem word_split {a b X Y : Nat} (ha : a < 18446744073709551616) (hb : b < 18446744073709551616) (h : a + 18446744073709551616 * X = b + 18446744073709551616 * Y) : a = b ∧ X = Y := by
  omega

theorem nat_inj {e f : Elem} (h : e.nat = f.nat) : e = f := by
  unfold Sx.Elem.nat at h
  obtain ⟨h0, h⟩ := word_split e.w0.toNat_lt f.w0.toNat_lt h
  obtain ⟨h1, h⟩ := word_split e.w1.toNat_lt f.w1.toNat_lt h
  obtain ⟨h2, h3⟩ := word_split e.w2.toNat_lt f.w2.toNat_lt h
  obtain ⟨a, b, c, d⟩ := e
  obtain ⟨a', b', c', d'⟩ := f
  simp only at h0 h1 h2 h3
  rw [UInt64.toNat_inj.1 h0, UInt64.toNat_inj.1 h1, UInt64.toNat_inj.1 h2, UInt64.toNat_inj.1 h3]

theorem div_eq {n a b : Nat} (ha : a < 18446744073709551616) (h : n = a + 18446744073709551616 * b) : n / 18446744073709551616 = b ∧ n % 18446744073709551616 = a := by
  omega

/-- Words that make a number, but for what is above 2^256. -/
theorem ofN_eq {n : Nat} {a b c d : UInt64} {k : Nat} (h : n = a.toNat + 18446744073709551616 * (b.toNat + 18446744073709551616 * (c.toNat + 18446744073709551616 * (d.toNat + 18446744073709551616 * k)))) : ofN n = ⟨a, b, c, d⟩ := by
  obtain ⟨h1, h0⟩ := div_eq a.toNat_lt h
  obtain ⟨h2, h3⟩ := div_eq b.toNat_lt h1
  obtain ⟨h4, h5⟩ := div_eq c.toNat_lt h2
  have h6 : n / 18446744073709551616 / 18446744073709551616 / 18446744073709551616 % 18446744073709551616 = d.toNat := by
    rw [h4]
    have := d.toNat_lt
    omega
  unfold ofN
  have e : ∀ (m : Nat) (x : UInt64), m % 18446744073709551616 = x.toNat → UInt64.ofNat m = x := fun m x hm => by
    rw [← UInt64.toNat_inj, UInt64.toNat_ofNat']
    exact hm
  rw [e _ a h0, e _ b h3, e _ c h5, e _ d h6]

theorem ofN_nat (n : Nat) : (ofN n).nat = n % 115792089237316195423570985008687907853269984665640564039457584007913129639936 := by
  unfold ofN Elem.nat
  simp only [UInt64.toNat_ofNat']
  rw [show (2 : Nat) ^ 64 = 18446744073709551616 from rfl]
  omega

theorem nat_ofN {n : Nat} (h : n < 115792089237316195423570985008687907853269984665640564039457584007913129639936) : (ofN n).nat = n := by
  rw [ofN_nat]
  exact Nat.mod_eq_of_lt h

theorem ofN_self (e : Elem) : ofN e.nat = e := nat_inj (nat_ofN (nat_lt e))

/-- A sum, and whether it is too great. -/
def wsum (a b : Elem) : Elem × Bool := (ofN (a.nat + b.nat), Nat.ble 115792089237316195423570985008687907853269984665640564039457584007913129639936 (a.nat + b.nat))
/-- A difference, and whether it is below 0. -/
def wdif (a b : Elem) : Elem × Bool := (ofN (a.nat + 115792089237316195423570985008687907853269984665640564039457584007913129639936 - b.nat), Nat.blt a.nat b.nat)

theorem add_join {x y c s k X Y R : Nat} (h1 : x + y + c = s + 18446744073709551616 * k) (h2 : X + Y + k = R) : (x + 18446744073709551616 * X) + (y + 18446744073709551616 * Y) + c = s + 18446744073709551616 * R := by
  omega
theorem sub_join {x y c s k X Y R Q : Nat} (h1 : x + 18446744073709551616 * k = s + y + c) (h2 : X + 18446744073709551616 * Q = R + Y + k) : (x + 18446744073709551616 * X) + 18446744073709551616 * (18446744073709551616 * Q) = s + 18446744073709551616 * R + (y + 18446744073709551616 * Y) + c := by
  omega

theorem wsum_words (a b : Elem) : let k0 := addK a.w0 b.w0 0; let k1 := addK a.w1 b.w1 k0; let k2 := addK a.w2 b.w2 k1; let k3 := addK a.w3 b.w3 k2
    (k0.toNat ≤ 1 ∧ k1.toNat ≤ 1 ∧ k2.toNat ≤ 1) ∧ wsum a b = (⟨addC a.w0 b.w0 0, addC a.w1 b.w1 k0, addC a.w2 b.w2 k1, addC a.w3 b.w3 k2⟩, !(k3 == 0)) := by
  intro k0 k1 k2 k3
  have l0 : k0.toNat ≤ 1 := addK_le (by decide)
  have l1 : k1.toNat ≤ 1 := addK_le l0
  have l2 : k2.toNat ≤ 1 := addK_le l1
  have l3 : k3.toNat ≤ 1 := addK_le l2
  refine ⟨⟨l0, l1, l2⟩, ?_⟩
  have h := add_join (addC_step a.w0 b.w0 0) (add_join (addC_step a.w1 b.w1 k0) (add_join (addC_step a.w2 b.w2 k1) (addC_step a.w3 b.w3 k2)))
  rw [show (0 : UInt64).toNat = 0 from rfl, Nat.add_zero] at h
  unfold wsum
  have hn : a.nat + b.nat = (addC a.w0 b.w0 0).toNat + 18446744073709551616 * ((addC a.w1 b.w1 k0).toNat + 18446744073709551616 * ((addC a.w2 b.w2 k1).toNat + 18446744073709551616 * ((addC a.w3 b.w3 k2).toNat + 18446744073709551616 * k3.toNat))) := h
  rw [ofN_eq hn]
  congr 1
  have hs := nat_lt ⟨addC a.w0 b.w0 0, addC a.w1 b.w1 k0, addC a.w2 b.w2 k1, addC a.w3 b.w3 k2⟩
  unfold Sx.Elem.nat at hs
  simp only at hs
  have hk : k3.toNat = 0 ∨ k3.toNat = 1 := by omega
  rcases hk with hk | hk
  · have e : k3 = 0 := UInt64.toNat_inj.1 hk
    rw [hk] at hn
    rw [e]
    cases hb : Nat.ble 115792089237316195423570985008687907853269984665640564039457584007913129639936 (a.nat + b.nat)
    · rfl
    · have := Nat.le_of_ble_eq_true hb
      omega
  · have e : (k3 == 0) = false := by
      have : ¬ k3 = 0 := fun e => by rw [e] at hk; cases hk
      simpa using this
    rw [hk] at hn
    rw [e]
    exact Nat.ble_eq_true_of_le (by omega)

theorem wdif_words (a b : Elem) : let k0 := subK a.w0 b.w0 0; let k1 := subK a.w1 b.w1 k0; let k2 := subK a.w2 b.w2 k1; let k3 := subK a.w3 b.w3 k2
    (k0.toNat ≤ 1 ∧ k1.toNat ≤ 1 ∧ k2.toNat ≤ 1) ∧ wdif a b = (⟨subC a.w0 b.w0 0, subC a.w1 b.w1 k0, subC a.w2 b.w2 k1, subC a.w3 b.w3 k2⟩, !(k3 == 0)) := by
  intro k0 k1 k2 k3
  have l0 : k0.toNat ≤ 1 := subK_le
  have l1 : k1.toNat ≤ 1 := subK_le
  have l2 : k2.toNat ≤ 1 := subK_le
  have l3 : k3.toNat ≤ 1 := subK_le
  refine ⟨⟨l0, l1, l2⟩, ?_⟩
  have h := sub_join (subC_step (x := a.w0) (y := b.w0) (c := 0) (by decide)) (sub_join (subC_step (x := a.w1) (y := b.w1) l0) (sub_join (subC_step (x := a.w2) (y := b.w2) l1) (subC_step (x := a.w3) (y := b.w3) l2)))
  rw [show (0 : UInt64).toNat = 0 from rfl, Nat.add_zero] at h
  unfold wdif
  have hs := nat_lt ⟨subC a.w0 b.w0 0, subC a.w1 b.w1 k0, subC a.w2 b.w2 k1, subC a.w3 b.w3 k2⟩
  have h' : a.nat + 18446744073709551616 * (18446744073709551616 * (18446744073709551616 * (18446744073709551616 * k3.toNat))) = Elem.nat ⟨subC a.w0 b.w0 0, subC a.w1 b.w1 k0, subC a.w2 b.w2 k1, subC a.w3 b.w3 k2⟩ + b.nat := h
  have ha := nat_lt a
  have hb := nat_lt b
  have hS := nat_lt ⟨subC a.w0 b.w0 0, subC a.w1 b.w1 k0, subC a.w2 b.w2 k1, subC a.w3 b.w3 k2⟩
  have e1 : ofN (a.nat + 115792089237316195423570985008687907853269984665640564039457584007913129639936 - b.nat) = ⟨subC a.w0 b.w0 0, subC a.w1 b.w1 k0, subC a.w2 b.w2 k1, subC a.w3 b.w3 k2⟩ := by
    apply nat_inj
    rw [ofN_nat]
    generalize Elem.nat ⟨subC a.w0 b.w0 0, subC a.w1 b.w1 k0, subC a.w2 b.w2 k1, subC a.w3 b.w3 k2⟩ = S at *
    omega
  rw [e1]
  congr 1
  generalize Elem.nat ⟨subC a.w0 b.w0 0, subC a.w1 b.w1 k0, subC a.w2 b.w2 k1, subC a.w3 b.w3 k2⟩ = S at *
  have hk : k3.toNat = 0 ∨ k3.toNat = 1 := by omega
  rcases hk with hk | hk
  · have e : k3 = 0 := UInt64.toNat_inj.1 hk
    rw [hk] at h'
    rw [e]
    cases hq : Nat.blt a.nat b.nat
    · rfl
    · have := blt_of hq
      omega
  · have e : (k3 == 0) = false := by
      have : ¬ k3 = 0 := fun e => by rw [e] at hk; cases hk
      simpa using this
    rw [hk] at h'
    rw [e]
    exact Nat.ble_eq_true_of_le (show a.nat + 1 ≤ b.nat by omega)

def lst (e : Elem) : List UInt64 := [e.w0, e.w1, e.w2, e.w3]
def elemOf (l : List UInt64) : Elem := ⟨l.getD 0 0, l.getD 1 0, l.getD 2 0, l.getD 3 0⟩
theorem lst_elemOf {l : List UInt64} (h : l.length = 4) : lst (elemOf l) = l := by
  match l, h with
  | [a, b, c, d], _ => rfl
theorem elemOf_lst (e : Elem) : elemOf (lst e) = e := rfl
theorem lst_length (e : Elem) : (lst e).length = 4 := rfl

theorem divR_nat {h l y : UInt64} (hy : 0 < y.toNat) : (divR h l y).toNat = (h.toNat * 18446744073709551616 + l.toNat) % y.toNat := by
  unfold divR
  rw [UInt64.toNat_ofNat']
  exact Nat.mod_eq_of_lt (Nat.lt_trans (Nat.mod_lt _ hy) y.toNat_lt)

theorem mod_step (r x m : Nat) : (r % m * 18446744073709551616 + x) % m = (r * 18446744073709551616 + x) % m := by
  rw [Nat.add_mod, Nat.mul_mod, Nat.mod_mod, ← Nat.mul_mod, ← Nat.add_mod]

theorem wdif_blt (a b : Elem) : (wdif a b).2 = Nat.blt a.nat b.nat := rfl
theorem wdif_nat {a b : Elem} (h : b.nat ≤ a.nat) : (wdif a b).1.nat = a.nat - b.nat := by
  have ha := nat_lt a
  show (ofN _).nat = _
  rw [ofN_nat]
  omega

end Go.Proofs.Ytkngdfhigpjciaa

/- The function math/bits.Add64: what it makes of its arguments. No statement of a seat is proved here. -/
namespace Go.Proofs.Ytkngdfhigpjciaa
open Sx Go
set_option maxRecDepth 100000

def badd64_S : FnSpec := ⟨[.val false .u64, .val false .u64, .val false .u64], [], true, 0, false⟩

abbrev badd64X : Type := ((UInt64) × (UInt64) × (UInt64) × Unit) × (Unit)
def badd64_o0 : OutSh := ⟨[.val false .u64, .val false .u64], [], false⟩
def badd64_pre (x : badd64X) : Bool := decide (x.1.2.2.1.toNat ≤ 1)
def badd64_F (x : badd64X) : OT badd64_S.Y := .ok ⟨badd64_o0, ((addC x.1.1 x.1.2.1 x.1.2.2.1, addK x.1.1 x.1.2.1 x.1.2.2.1, ()), ())⟩

theorem badd64_run (a b c : UInt64) (hc : c.toNat ≤ 1) (w : World) : (callFunc 72 #[vu64 a, vu64 b, vu64 c]).run Try.prog w = .ok (.value (.tuple #[vu64 (addC a b c), vu64 (addK a b c)])) w := by
  unfold vu64
  rw [run_callFunc_extern Try.func72 (by kernel_rfl) (by kernel_rfl) (by kernel_rfl) (e := add64Entry) (by kernel_rfl), run_add64 (a.toNat : Int) (b.toNat : Int) (c.toNat : Int) (by omega) (by omega) (by omega) (by omega)]
  have ha := a.toNat_lt
  have hb := b.toNat_lt
  have e1 : (((addC a b c).toNat : Nat) : Int) = ((a.toNat : Int) + b.toNat + c.toNat) % 18446744073709551616 := by
    unfold addC
    rw [UInt64.toNat_ofNat', Nat.mod_eq_of_lt (by omega)]
    omega
  have e2 : (((addK a b c).toNat : Nat) : Int) = ((a.toNat : Int) + b.toNat + c.toNat) / 18446744073709551616 := by
    unfold addK
    rw [UInt64.toNat_ofNat', Nat.mod_eq_of_lt (by omega)]
    omega
  rw [e1, e2]
  rfl

theorem badd64_ok : SummOk Try.prog 72 (badd64_S.summ badd64_pre badd64_F) := by
  refine fn_ext (k := 0) (by kernel_rfl) fun x oy vs N w hp ho hr => ?_
  obtain ⟨⟨a, b, c, ⟨⟩⟩, ⟨⟩⟩ := x
  cases ho
  have hc : c.toNat ≤ 1 := of_decide_eq_true hp
  have hr' : SV.relL N [.u64 a, .u64 b, .u64 c] vs := hr
  simp only [SV.relL, SV.rel] at hr'
  obtain ⟨_, _, rfl, rfl, _, _, rfl, rfl, _, _, rfl, rfl, rfl⟩ := hr'
  refine ⟨.tup [.u64 (addC a b c), .u64 (addK a b c)], _, badd64_run a b c hc w, ?_, ⟨rfl, by kernel_rfl⟩⟩
  simp only [SV.rel]
  exact ⟨_, rfl, by simp only [SV.relL, SV.rel]; exact ⟨_, _, rfl, rfl, _, _, rfl, rfl, rfl⟩⟩

def badd64_summ : Summ := (badd64_S.summ badd64_pre badd64_F)
theorem badd64_known : SummOk Try.prog 72 badd64_summ := badd64_ok
theorem badd64_smono : MonoOk badd64_summ := fn_mono

def E_badd64 : Env := envCons 72 badd64_summ E_bsumf
theorem E_badd64_ok : EnvOk Try.prog E_badd64 := envOk_cons badd64_known E_bsumf_ok
theorem E_badd64_mono : EnvMono E_badd64 := envMono_cons badd64_smono E_bsumf_mono
theorem E_badd64_any : AnyOk Try.prog te E_badd64 := any_ok follows te_ok E_badd64_ok E_badd64_mono

end Go.Proofs.Ytkngdfhigpjciaa

/- The function math/bits.Sub64: what it makes of its arguments. No statement of a seat is proved here. -/
namespace Go.Proofs.Ytkngdfhigpjciaa
open Sx Go
set_option maxRecDepth 100000

def bsub64_S : FnSpec := ⟨[.val false .u64, .val false .u64, .val false .u64], [], true, 0, false⟩

abbrev bsub64X : Type := ((UInt64) × (UInt64) × (UInt64) × Unit) × (Unit)
def bsub64_o0 : OutSh := ⟨[.val false .u64, .val false .u64], [], false⟩
def bsub64_pre (x : bsub64X) : Bool := decide (x.1.2.2.1.toNat ≤ 1)
def bsub64_F (x : bsub64X) : OT bsub64_S.Y := .ok ⟨bsub64_o0, ((subC x.1.1 x.1.2.1 x.1.2.2.1, subK x.1.1 x.1.2.1 x.1.2.2.1, ()), ())⟩

def sub64E : Array Value → Sem Value := fun args => do
  let (x, y, b) ← Extern.MathBitsCarry.three "Sub64" args
  pure (Extern.MathBitsCarry.pair ((x + Extern.MathBitsCarry.m64 - y - b) % Extern.MathBitsCarry.m64) (if x < y + b then 1 else 0))

theorem run_sub64E {P : Program} (x y b : Nat) (hb : b ≤ 1) (w : World) :
    (sub64E #[.int .u64 x, .int .u64 y, .int .u64 b]).run P w =
      .ok (.tuple #[.int .u64 (((x + 18446744073709551616 - y - b) % 18446744073709551616 : Nat) : Int), .int .u64 ((if x < y + b then 1 else 0 : Nat) : Int)]) w := by
  have : b = 0 ∨ b = 1 := by omega
  rcases this with rfl | rfl <;> rfl

theorem bsub64_run (a b c : UInt64) (hc : c.toNat ≤ 1) (w : World) : (callFunc 48 #[vu64 a, vu64 b, vu64 c]).run Try.prog w = .ok (.value (.tuple #[vu64 (subC a b c), vu64 (subK a b c)])) w := by
  unfold vu64
  rw [run_callFunc_extern Try.func48 (by kernel_rfl) (by kernel_rfl) (by kernel_rfl) (e := sub64E) (by kernel_rfl), run_sub64E a.toNat b.toNat c.toNat (by omega)]
  have ha := a.toNat_lt
  have hb := b.toNat_lt
  have e1 : (subC a b c).toNat = (a.toNat + 18446744073709551616 - b.toNat - c.toNat) % 18446744073709551616 := by
    unfold subC
    rw [UInt64.toNat_ofNat', Nat.mod_eq_of_lt (by omega)]
  have e2 : (subK a b c).toNat = if a.toNat < b.toNat + c.toNat then 1 else 0 := by
    unfold subK
    rw [UInt64.toNat_ofNat', Nat.mod_eq_of_lt (by split <;> omega)]
  rw [e1, e2]
  rfl

theorem bsub64_ok : SummOk Try.prog 48 (bsub64_S.summ bsub64_pre bsub64_F) := by
  refine fn_ext (k := 0) (by kernel_rfl) fun x oy vs N w hp ho hr => ?_
  obtain ⟨⟨a, b, c, ⟨⟩⟩, ⟨⟩⟩ := x
  cases ho
  have hc : c.toNat ≤ 1 := of_decide_eq_true hp
  have hr' : SV.relL N [.u64 a, .u64 b, .u64 c] vs := hr
  simp only [SV.relL, SV.rel] at hr'
  obtain ⟨_, _, rfl, rfl, _, _, rfl, rfl, _, _, rfl, rfl, rfl⟩ := hr'
  refine ⟨.tup [.u64 (subC a b c), .u64 (subK a b c)], _, bsub64_run a b c hc w, ?_, ⟨rfl, by kernel_rfl⟩⟩
  simp only [SV.rel]
  exact ⟨_, rfl, by simp only [SV.relL, SV.rel]; exact ⟨_, _, rfl, rfl, _, _, rfl, rfl, rfl⟩⟩

def bsub64_summ : Summ := (bsub64_S.summ bsub64_pre bsub64_F)
theorem bsub64_known : SummOk Try.prog 48 bsub64_summ := bsub64_ok
theorem bsub64_smono : MonoOk bsub64_summ := fn_mono

def E_bsub64 : Env := envCons 48 bsub64_summ E_badd64
theorem E_bsub64_ok : EnvOk Try.prog E_bsub64 := envOk_cons bsub64_known E_badd64_ok
theorem E_bsub64_mono : EnvMono E_bsub64 := envMono_cons bsub64_smono E_badd64_mono
theorem E_bsub64_any : AnyOk Try.prog te E_bsub64 := any_ok follows te_ok E_bsub64_ok E_bsub64_mono

end Go.Proofs.Ytkngdfhigpjciaa

/- The function math/bits.Len64: what it makes of its arguments. No statement of a seat is proved here. -/
namespace Go.Proofs.Ytkngdfhigpjciaa
open Sx Go
set_option maxRecDepth 100000

def blen64_S : FnSpec := ⟨[.val false .u64], [], true, 0, false⟩

abbrev blen64X : Type := ((UInt64) × Unit) × (Unit)

def blen64_o0 : OutSh := ⟨[.val false .int], [], false⟩

def blen64_sel : SV → Option OutSh := fun _ => some blen64_o0

def blen64_T (a0 : UInt64) : OT blen64_S.Y :=
  let z0 : UInt64 := shr64 a0 (32 : Int)
  let z1 : UInt64 := shr64 z0 (16 : Int)
  let z2 : Int := (↑(UInt8.toNat (UInt64.toUInt8 (shr64 z1 (8 : Int)))) : Int)
  let z3 : List UInt8 := List.replicate (64 : Nat) (8 : UInt8)
  let z4 : List UInt8 := List.append (List.append [(0 : UInt8), (1 : UInt8), (2 : UInt8), (2 : UInt8), (3 : UInt8), (3 : UInt8), (3 : UInt8), (3 : UInt8), (4 : UInt8), (4 : UInt8), (4 : UInt8), (4 : UInt8), (4 : UInt8), (4 : UInt8), (4 : UInt8), (4 : UInt8), (5 : UInt8), (5 : UInt8), (5 : UInt8), (5 : UInt8), (5 : UInt8), (5 : UInt8), (5 : UInt8), (5 : UInt8), (5 : UInt8), (5 : UInt8), (5 : UInt8), (5 : UInt8), (5 : UInt8), (5 : UInt8), (5 : UInt8), (5 : UInt8), (6 : UInt8), (6 : UInt8), (6 : UInt8), (6 : UInt8), (6 : UInt8), (6 : UInt8), (6 : UInt8), (6 : UInt8), (6 : UInt8), (6 : UInt8), (6 : UInt8), (6 : UInt8), (6 : UInt8), (6 : UInt8), (6 : UInt8), (6 : UInt8), (6 : UInt8), (6 : UInt8), (6 : UInt8), (6 : UInt8), (6 : UInt8), (6 : UInt8), (6 : UInt8), (6 : UInt8), (6 : UInt8), (6 : UInt8), (6 : UInt8), (6 : UInt8), (6 : UInt8), (6 : UInt8), (6 : UInt8), (6 : UInt8)] (List.replicate (64 : Nat) (7 : UInt8))) (List.append z3 z3)
  let z5 : Int := (56 : Int) + (↑(UInt8.toNat (List.getD z4 (Int.toNat z2) (0 : UInt8))) : Int)
  let z6 : Int := (↑(UInt8.toNat (UInt64.toUInt8 z1)) : Int)
  let z7 : Int := (48 : Int) + (↑(UInt8.toNat (List.getD z4 (Int.toNat z6) (0 : UInt8))) : Int)
  let z8 : Int := (↑(UInt8.toNat (UInt64.toUInt8 (shr64 z0 (8 : Int)))) : Int)
  let z9 : Int := (40 : Int) + (↑(UInt8.toNat (List.getD z4 (Int.toNat z8) (0 : UInt8))) : Int)
  let z10 : Int := (↑(UInt8.toNat (UInt64.toUInt8 z0)) : Int)
  let z11 : Int := (32 : Int) + (↑(UInt8.toNat (List.getD z4 (Int.toNat z10) (0 : UInt8))) : Int)
  let z12 : UInt64 := shr64 a0 (16 : Int)
  let z13 : Int := (↑(UInt8.toNat (UInt64.toUInt8 (shr64 z12 (8 : Int)))) : Int)
  let z14 : Int := (24 : Int) + (↑(UInt8.toNat (List.getD z4 (Int.toNat z13) (0 : UInt8))) : Int)
  let z15 : Int := (↑(UInt8.toNat (UInt64.toUInt8 z12)) : Int)
  let z16 : Int := (16 : Int) + (↑(UInt8.toNat (List.getD z4 (Int.toNat z15) (0 : UInt8))) : Int)
  let z17 : Int := (↑(UInt8.toNat (UInt64.toUInt8 (shr64 a0 (8 : Int)))) : Int)
  let z18 : Int := (8 : Int) + (↑(UInt8.toNat (List.getD z4 (Int.toNat z17) (0 : UInt8))) : Int)
  let z19 : Int := (↑(UInt8.toNat (UInt64.toUInt8 a0)) : Int)
  let z20 : Int := (0 : Int) + (↑(UInt8.toNat (List.getD z4 (Int.toNat z19) (0 : UInt8))) : Int)
  (.br (decide ((4294967296 : UInt64) ≤ a0))
  (.br (decide ((65536 : UInt64) ≤ z0))
    (.br (decide ((256 : UInt64) ≤ z1))
      (gd [inB z2 (256 : Nat), inR z5] (.ok ⟨blen64_o0, ((z5, ()), ())⟩))
      (gd [inB z6 (256 : Nat), inR z7] (.ok ⟨blen64_o0, ((z7, ()), ())⟩)))
    (.br (decide ((256 : UInt64) ≤ z0))
      (gd [inB z8 (256 : Nat), inR z9] (.ok ⟨blen64_o0, ((z9, ()), ())⟩))
      (gd [inB z10 (256 : Nat), inR z11] (.ok ⟨blen64_o0, ((z11, ()), ())⟩))))
  (.br (decide ((65536 : UInt64) ≤ a0))
    (.br (decide ((256 : UInt64) ≤ z12))
      (gd [inB z13 (256 : Nat), inR z14] (.ok ⟨blen64_o0, ((z14, ()), ())⟩))
      (gd [inB z15 (256 : Nat), inR z16] (.ok ⟨blen64_o0, ((z16, ()), ())⟩)))
    (.br (decide ((256 : UInt64) ≤ a0))
      (gd [inB z17 (256 : Nat), inR z18] (.ok ⟨blen64_o0, ((z18, ()), ())⟩))
      (gd [inB z19 (256 : Nat), inR z20] (.ok ⟨blen64_o0, ((z20, ()), ())⟩)))))

theorem blen64_q (x : blen64X) (Q : blen64_S.Y → Prop) : wpf te E_bsub64 lamNil 1000 Try.f49 (blen64_S.inp.inj x).tm (blen64_S.inp.inj x).hp (fnK blen64_S blen64_sel Q) (fun _ _ => False) = (blen64_T (x.1.1)).wpR Q := by kernel_rfl

theorem blen64_main (pre : blen64X → Bool) (F : blen64X → OT blen64_S.Y) (hF : ∀ (x : blen64X) oy, pre x = true → (F x).run = some oy → (blen64_T (x.1.1)).run = some oy) : SummOk Try.prog 49 (blen64_S.summ pre F) :=
  fn_tree te_ok E_bsub64_ok E_bsub64_any (f := 49) (fn := Try.f49) (c := codeOf Try.f49) (by kernel_rfl) (by kernel_rfl) (by kernel_rfl) (S := blen64_S) (k := 0) (by kernel_rfl) (fun R hR => lamOk_nil) (n := 1000) (sel := blen64_sel) (fun v o h => by cases h; rfl) (pre := pre) (F := F) (T := fun x => blen64_T (x.1.1)) (fun x Q => blen64_q x Q) hF

/-- A little field's modulus. -/
def isSmall (x : UInt64) : Bool := (x == 16513537) || (x == 16521217)
theorem isSmall_cases {x : UInt64} (h : isSmall x = true) : x = 16513537 ∨ x = 16521217 := by
  simpa [isSmall] using h

def blen64_pre (x : blen64X) : Bool := isSmall x.1.1
def blen64_F (_ : blen64X) : OT blen64_S.Y := .ok ⟨blen64_o0, (((24 : Int), ()), ())⟩
theorem blen64_at : (blen64_T 16513537).run = some ⟨blen64_o0, (((24 : Int), ()), ())⟩ ∧ (blen64_T 16521217).run = some ⟨blen64_o0, (((24 : Int), ()), ())⟩ := ⟨by kernel_rfl, by kernel_rfl⟩
theorem blen64_ok : SummOk Try.prog 49 (blen64_S.summ blen64_pre blen64_F) := blen64_main _ _ fun x oy hp ho => by
  rw [← ho]
  clear ho
  obtain ⟨⟨x, ⟨⟩⟩, ⟨⟩⟩ := x
  rcases isSmall_cases hp with h | h
  · have h : x = 16513537 := h
    subst h
    exact blen64_at.1
  · have h : x = 16521217 := h
    subst h
    exact blen64_at.2

def blen64_summ : Summ := (blen64_S.summ blen64_pre blen64_F)
theorem blen64_known : SummOk Try.prog 49 blen64_summ := blen64_ok
theorem blen64_smono : MonoOk blen64_summ := fn_mono

def E_blen64 : Env := envCons 49 blen64_summ E_bsub64
theorem E_blen64_ok : EnvOk Try.prog E_blen64 := envOk_cons blen64_known E_bsub64_ok
theorem E_blen64_mono : EnvMono E_blen64 := envMono_cons blen64_smono E_bsub64_mono
theorem E_blen64_any : AnyOk Try.prog te E_blen64 := any_ok follows te_ok E_blen64_ok E_blen64_mono

end Go.Proofs.Ytkngdfhigpjciaa

/- The function math/bits.LeadingZeros64: what it makes of its arguments. No statement of a seat is proved here. -/
namespace Go.Proofs.Ytkngdfhigpjciaa
open Sx Go
set_option maxRecDepth 100000

def blz64_S : FnSpec := ⟨[.val false .u64], [], true, 0, false⟩

abbrev blz64X : Type := ((UInt64) × Unit) × (Unit)

def blz64_o0 : OutSh := ⟨[.val false .int], [], false⟩

def blz64_sel : SV → Option OutSh := fun _ => some blz64_o0

def blz64_T (a0 : UInt64) : OT blz64_S.Y :=
  (gd [blen64_pre ((a0, ()), ())] (.ok ⟨blz64_o0, (((40 : Int), ()), ())⟩))

theorem blz64_q (x : blz64X) (Q : blz64_S.Y → Prop) : wpf te E_blen64 lamNil 1000 Try.f47 (blz64_S.inp.inj x).tm (blz64_S.inp.inj x).hp (fnK blz64_S blz64_sel Q) (fun _ _ => False) = (blz64_T (x.1.1)).wpR Q := by kernel_rfl

theorem blz64_main (pre : blz64X → Bool) (F : blz64X → OT blz64_S.Y) (hF : ∀ (x : blz64X) oy, pre x = true → (F x).run = some oy → (blz64_T (x.1.1)).run = some oy) : SummOk Try.prog 47 (blz64_S.summ pre F) :=
  fn_tree te_ok E_blen64_ok E_blen64_any (f := 47) (fn := Try.f47) (c := codeOf Try.f47) (by kernel_rfl) (by kernel_rfl) (by kernel_rfl) (S := blz64_S) (k := 0) (by kernel_rfl) (fun R hR => lamOk_nil) (n := 1000) (sel := blz64_sel) (fun v o h => by cases h; rfl) (pre := pre) (F := F) (T := fun x => blz64_T (x.1.1)) (fun x Q => blz64_q x Q) hF

def blz64_pre (x : blz64X) : Bool := isSmall x.1.1
def blz64_F (_ : blz64X) : OT blz64_S.Y := .ok ⟨blz64_o0, (((40 : Int), ()), ())⟩
theorem blz64_ok : SummOk Try.prog 47 (blz64_S.summ blz64_pre blz64_F) := blz64_main _ _ fun x oy hp ho => by
  rw [← ho]
  clear ho
  obtain ⟨⟨x, ⟨⟩⟩, ⟨⟩⟩ := x
  have hp : isSmall x = true := hp
  refine (gd_run ?_).trans rfl
  simp only [List.all_cons, List.all_nil, Bool.and_true, Bool.and_eq_true]
  first | exact hp | exact ⟨hp, rfl⟩

def blz64_summ : Summ := (blz64_S.summ blz64_pre blz64_F)
theorem blz64_known : SummOk Try.prog 47 blz64_summ := blz64_ok
theorem blz64_smono : MonoOk blz64_summ := fn_mono

def E_blz64 : Env := envCons 47 blz64_summ E_blen64
theorem E_blz64_ok : EnvOk Try.prog E_blz64 := envOk_cons blz64_known E_blen64_ok
theorem E_blz64_mono : EnvMono E_blz64 := envMono_cons blz64_smono E_blen64_mono
theorem E_blz64_any : AnyOk Try.prog te E_blz64 := any_ok follows te_ok E_blz64_ok E_blz64_mono

end Go.Proofs.Ytkngdfhigpjciaa

/- The function math/bits.Div64: what it makes of its arguments. No statement of a seat is proved here. -/
namespace Go.Proofs.Ytkngdfhigpjciaa
open Sx Go
set_option maxRecDepth 100000

def bdiv64_S : FnSpec := ⟨[.val false .u64, .val false .u64, .val false .u64], [], true, 0, false⟩

abbrev bdiv64X : Type := ((UInt64) × (UInt64) × (UInt64) × Unit) × (Unit)

def bdiv64_s0 : Shape := ⟨135, [(2, .val false .u64), (8, .val false .u64), (9, .val false .u64), (10, .val false .u64), (11, .val false .u64), (13, .val false .u64), (14, .val false .u64), (15, .val false .u64), (16, .val false .u64)], [], 0, true⟩

abbrev bdiv64_s0X : Type := ((UInt64) × (UInt64) × (UInt64) × (UInt64) × (UInt64) × (UInt64) × (UInt64) × (UInt64) × (UInt64) × Unit) × (Unit)

def bdiv64_e0_0 : Shape := ⟨135, [(2, .val false .u64), (8, .val false .u64), (9, .val false .u64), (10, .val false .u64), (11, .val false .u64), (13, .val false .u64), (14, .val false .u64), (15, .val false .u64)], [], 0, true⟩

abbrev bdiv64_e0_0X : Type := ((UInt64) × (UInt64) × (UInt64) × (UInt64) × (UInt64) × (UInt64) × (UInt64) × (UInt64) × Unit) × (Unit)

def bdiv64_x0 : SE → Option Shape := xsMk [(0, bdiv64_e0_0)] none

def bdiv64_T0 (a2 : UInt64) (a8 : UInt64) (a9 : UInt64) (a10 : UInt64) (a11 : UInt64) (a13 : UInt64) (a14 : UInt64) (a15 : UInt64) (a16 : UInt64) : OT (Sum bdiv64_s0X LEnd) :=
  let z0 : Bool := decide ((4294967296 : UInt64) ≤ a16 + a9)
  (.br (decide ((4294967296 : UInt64) ≤ a15))
  (.br (z0)
    (.ok (.inr ⟨(.exit 0, bdiv64_e0_0), ((a2, (a8, (a9, (a10, (a11, (a13, (a14, (a15 - (1 : UInt64), ())))))))), ())⟩))
    (.ok (.inl ((a2, (a8, (a9, (a10, (a11, (a13, (a14, (a15 - (1 : UInt64), (a16 + a9, ()))))))))), ()))))
  (.br (decide ((4294967296 : UInt64) * a16 + a13 < a15 * a10))
    (.br (z0)
      (.ok (.inr ⟨(.exit 0, bdiv64_e0_0), ((a2, (a8, (a9, (a10, (a11, (a13, (a14, (a15 - (1 : UInt64), ())))))))), ())⟩))
      (.ok (.inl ((a2, (a8, (a9, (a10, (a11, (a13, (a14, (a15 - (1 : UInt64), (a16 + a9, ()))))))))), ()))))
    (.ok (.inr ⟨(.exit 0, bdiv64_e0_0), ((a2, (a8, (a9, (a10, (a11, (a13, (a14, (a15, ())))))))), ())⟩))))

def bdiv64_U0 (s : bdiv64_s0X) : OT (Sum bdiv64_s0X LEnd) := bdiv64_T0 (s.1.1) (s.1.2.1) (s.1.2.2.1) (s.1.2.2.2.1) (s.1.2.2.2.2.1) (s.1.2.2.2.2.2.1) (s.1.2.2.2.2.2.2.1) (s.1.2.2.2.2.2.2.2.1) (s.1.2.2.2.2.2.2.2.2.1)

theorem bdiv64_q0 (s : bdiv64_s0X) (Q : Sum bdiv64_s0X LEnd → Prop) : wps te E_blz64 lamNil 1000 (loopOf (codeOf Try.f45) 0) (bdiv64_s0.inj s) (stepK bdiv64_s0 bdiv64_x0 (Q : Sum bdiv64_s0.T LEnd → Prop)) = (bdiv64_U0 s).wpR Q := by kernel_rfl

def bdiv64_f0 (g0_0 : bdiv64_s0X → bdiv64_e0_0X) (s : bdiv64_s0X) : OT LEnd := (.ok ⟨(.exit 0, bdiv64_e0_0), g0_0 s⟩)

def bdiv64_s2 : Shape := ⟨135, [(2, .val false .u64), (8, .val false .u64), (9, .val false .u64), (10, .val false .u64), (14, .val false .u64), (15, .val false .u64), (16, .val false .u64), (17, .val false .u64), (18, .val false .u64)], [], 0, true⟩

abbrev bdiv64_s2X : Type := ((UInt64) × (UInt64) × (UInt64) × (UInt64) × (UInt64) × (UInt64) × (UInt64) × (UInt64) × (UInt64) × Unit) × (Unit)

def bdiv64_e2_2 : Shape := ⟨135, [(2, .val false .u64), (8, .val false .u64), (14, .val false .u64), (15, .val false .u64), (17, .val false .u64), (18, .val false .u64)], [], 0, true⟩

abbrev bdiv64_e2_2X : Type := ((UInt64) × (UInt64) × (UInt64) × (UInt64) × (UInt64) × (UInt64) × Unit) × (Unit)

def bdiv64_x2 : SE → Option Shape := xsMk [(2, bdiv64_e2_2)] none

def bdiv64_T2 (a2 : UInt64) (a8 : UInt64) (a9 : UInt64) (a10 : UInt64) (a14 : UInt64) (a15 : UInt64) (a16 : UInt64) (a17 : UInt64) (a18 : UInt64) : OT (Sum bdiv64_s2X LEnd) :=
  let z0 : Bool := decide ((4294967296 : UInt64) ≤ a16 + a9)
  (.br (decide ((4294967296 : UInt64) ≤ a18))
  (.br (z0)
    (.ok (.inr ⟨(.exit 2, bdiv64_e2_2), ((a2, (a8, (a14, (a15, (a17, (a18 - (1 : UInt64), ())))))), ())⟩))
    (.ok (.inl ((a2, (a8, (a9, (a10, (a14, (a15, (a16 + a9, (a17, (a18 - (1 : UInt64), ()))))))))), ()))))
  (.br (decide ((4294967296 : UInt64) * a16 + a14 < a18 * a10))
    (.br (z0)
      (.ok (.inr ⟨(.exit 2, bdiv64_e2_2), ((a2, (a8, (a14, (a15, (a17, (a18 - (1 : UInt64), ())))))), ())⟩))
      (.ok (.inl ((a2, (a8, (a9, (a10, (a14, (a15, (a16 + a9, (a17, (a18 - (1 : UInt64), ()))))))))), ()))))
    (.ok (.inr ⟨(.exit 2, bdiv64_e2_2), ((a2, (a8, (a14, (a15, (a17, (a18, ())))))), ())⟩))))

def bdiv64_U2 (s : bdiv64_s2X) : OT (Sum bdiv64_s2X LEnd) := bdiv64_T2 (s.1.1) (s.1.2.1) (s.1.2.2.1) (s.1.2.2.2.1) (s.1.2.2.2.2.1) (s.1.2.2.2.2.2.1) (s.1.2.2.2.2.2.2.1) (s.1.2.2.2.2.2.2.2.1) (s.1.2.2.2.2.2.2.2.2.1)

theorem bdiv64_q2 (s : bdiv64_s2X) (Q : Sum bdiv64_s2X LEnd → Prop) : wps te E_blz64 lamNil 1000 (loopOf (codeOf Try.f45) 2) (bdiv64_s2.inj s) (stepK bdiv64_s2 bdiv64_x2 (Q : Sum bdiv64_s2.T LEnd → Prop)) = (bdiv64_U2 s).wpR Q := by kernel_rfl

def bdiv64_f2 (g2_2 : bdiv64_s2X → bdiv64_e2_2X) (s : bdiv64_s2X) : OT LEnd := (.ok ⟨(.exit 2, bdiv64_e2_2), g2_2 s⟩)

def bdiv64_o0 : OutSh := ⟨[.val false .u64, .val false .u64], [], false⟩

def bdiv64_sel : SV → Option OutSh := fun _ => some bdiv64_o0

def bdiv64_T (ok0 : bdiv64_s0X → Bool) (g0_0 : bdiv64_s0X → bdiv64_e0_0X) (ok2 : bdiv64_s2X → Bool) (g2_2 : bdiv64_s2X → bdiv64_e2_2X) (a0 : UInt64) (a1 : UInt64) (a2 : UInt64) : OT bdiv64_S.Y :=
  let z0 : Bool := !a2 == (0 : UInt64)
  let z1 : UInt64 := shl64 a2 (40 : Int)
  let z2 : UInt64 := shr64 z1 (32 : Int)
  let z3 : UInt64 := shl64 a0 (40 : Int) ||| shr64 a1 (24 : Int)
  let z4 : UInt64 := shl64 a1 (40 : Int)
  let z5 : UInt64 := z3 / z2
  let z6 : (UInt64 × UInt64 × UInt64 × UInt64 × UInt64 × UInt64 × UInt64 × UInt64 × UInt64 × PUnit) × PUnit := ((z1, (40 : UInt64), z2, z1 &&& (4294967295 : UInt64), z3, shr64 z4 (32 : Int), z4 &&& (4294967295 : UInt64), z5, z3 - z5 * z2, ()), ())
  let z7 : UInt64 × UInt64 × UInt64 × UInt64 × UInt64 × UInt64 × UInt64 × UInt64 × PUnit := (g0_0 z6).fst
  let z8 : UInt64 × UInt64 × UInt64 × UInt64 × UInt64 × UInt64 × UInt64 × PUnit := z7.snd
  let z9 : UInt64 × UInt64 × UInt64 × UInt64 × UInt64 × UInt64 × PUnit := z8.snd
  let z10 : UInt64 := z9.fst
  let z11 : UInt64 := z7.fst
  let z12 : UInt64 × UInt64 × UInt64 × UInt64 × UInt64 × PUnit := z9.snd
  let z13 : UInt64 × UInt64 × UInt64 × UInt64 × PUnit := z12.snd
  let z14 : UInt64 × UInt64 × UInt64 × PUnit := z13.snd
  let z15 : UInt64 × UInt64 × PUnit := z14.snd
  let z16 : UInt64 := z15.snd.fst
  let z17 : UInt64 := z13.fst * (4294967296 : UInt64) + z14.fst - z16 * z11
  let z18 : UInt64 := z17 / z10
  let z19 : (UInt64 × UInt64 × UInt64 × UInt64 × UInt64 × UInt64 × UInt64 × UInt64 × UInt64 × PUnit) × PUnit := ((z11, z8.fst, z10, z12.fst, z15.fst, z16, z17 - z18 * z10, z17, z18, ()), ())
  let z20 : UInt64 × UInt64 × UInt64 × UInt64 × UInt64 × UInt64 × PUnit := (g2_2 z19).fst
  let z21 : UInt64 × UInt64 × UInt64 × UInt64 × UInt64 × PUnit := z20.snd
  let z22 : UInt64 × UInt64 × UInt64 × UInt64 × PUnit := z21.snd
  let z23 : UInt64 × UInt64 × UInt64 × PUnit := z22.snd
  let z24 : UInt64 × UInt64 × PUnit := z23.snd
  let z25 : UInt64 := z24.snd.fst
  (.br (a2 == (0 : UInt64))
  .fail
  (.br (decide (a2 ≤ a0))
    .fail
    (.br (a0 == (0 : UInt64))
      (gd [z0, z0] (.ok ⟨bdiv64_o0, ((a1 / a2, (a1 % a2, ())), ())⟩))
      (gd [blz64_pre ((a2, ()), ()), !z2 == (0 : UInt64), ok0 z6, !z10 == (0 : UInt64), ok2 z19] (.ok ⟨bdiv64_o0, ((z23.fst * (4294967296 : UInt64) + z25, (shr64 (z24.fst * (4294967296 : UInt64) + z22.fst - z25 * z20.fst) (↑(UInt64.toNat z21.fst) : Int), ())), ())⟩)))))

theorem bdiv64_q (ok0 : bdiv64_s0X → Bool) (g0_0 : bdiv64_s0X → bdiv64_e0_0X) (ok2 : bdiv64_s2X → Bool) (g2_2 : bdiv64_s2X → bdiv64_e2_2X) (x : bdiv64X) (Q : bdiv64_S.Y → Prop) : wpf te E_blz64 (lamCons 2 (loopF bdiv64_s2 2 ok2 (bdiv64_f2 g2_2)) (lamCons 0 (loopF bdiv64_s0 0 ok0 (bdiv64_f0 g0_0)) lamNil)) 1000 Try.f45 (bdiv64_S.inp.inj x).tm (bdiv64_S.inp.inj x).hp (fnK bdiv64_S bdiv64_sel Q) (fun _ _ => False) = (bdiv64_T ok0 g0_0 ok2 g2_2 (x.1.1) (x.1.2.1) (x.1.2.2.1)).wpR Q := by kernel_rfl

theorem bdiv64_main (ok0 : bdiv64_s0X → Bool) (g0_0 : bdiv64_s0X → bdiv64_e0_0X) (ok2 : bdiv64_s2X → Bool) (g2_2 : bdiv64_s2X → bdiv64_e2_2X) (h0 : ∀ s : bdiv64_s0X, ok0 s = true → ∃ m e, loopRun (bdiv64_U0) m s = some e ∧ (bdiv64_f0 g0_0 s).run = some e) (h2 : ∀ s : bdiv64_s2X, ok2 s = true → ∃ m e, loopRun (bdiv64_U2) m s = some e ∧ (bdiv64_f2 g2_2 s).run = some e) (pre : bdiv64X → Bool) (F : bdiv64X → OT bdiv64_S.Y) (hF : ∀ (x : bdiv64X) oy, pre x = true → (F x).run = some oy → (bdiv64_T ok0 g0_0 ok2 g2_2 (x.1.1) (x.1.2.1) (x.1.2.2.1)).run = some oy) : SummOk Try.prog 45 (bdiv64_S.summ pre F) :=
  fn_tree te_ok E_blz64_ok E_blz64_any (f := 45) (fn := Try.f45) (c := codeOf Try.f45) (by kernel_rfl) (by kernel_rfl) (by kernel_rfl) (S := bdiv64_S) (k := 0) (by kernel_rfl) (fun R hR => (lamOk_cons (c := (codeOf Try.f45)) (by kernel_rfl) (id := 2) (by kernel_rfl) (loop_ok te_ok E_blz64_ok E_blz64_any (sh := bdiv64_s2) hR (xs := bdiv64_x2) (xsMk_small (by kernel_rfl) (by kernel_rfl) hR) xsMk_pan lamOk_nil (n := 1000) (T := bdiv64_U2) (fun s Q => bdiv64_q2 s Q) (ok := ok2) (f := bdiv64_f2 g2_2) h2) (lamOk_cons (c := (codeOf Try.f45)) (by kernel_rfl) (id := 0) (by kernel_rfl) (loop_ok te_ok E_blz64_ok E_blz64_any (sh := bdiv64_s0) hR (xs := bdiv64_x0) (xsMk_small (by kernel_rfl) (by kernel_rfl) hR) xsMk_pan lamOk_nil (n := 1000) (T := bdiv64_U0) (fun s Q => bdiv64_q0 s Q) (ok := ok0) (f := bdiv64_f0 g0_0) h0) lamOk_nil))) (n := 1000) (sel := bdiv64_sel) (fun v o h => by cases h; rfl) (pre := pre) (F := F) (T := fun x => bdiv64_T ok0 g0_0 ok2 g2_2 (x.1.1) (x.1.2.1) (x.1.2.2.1)) (fun x Q => bdiv64_q ok0 g0_0 ok2 g2_2 x Q) hF

def bdiv64_ok0 (s : bdiv64_s0X) : Bool := decide (s.1.2.2.2.1 = 0 ∧ s.1.2.2.2.2.2.2.2.1 < 4294967296)
def bdiv64_g0 (s : bdiv64_s0X) : bdiv64_e0_0X := ((s.1.1, s.1.2.1, s.1.2.2.1, s.1.2.2.2.1, s.1.2.2.2.2.1, s.1.2.2.2.2.2.1, s.1.2.2.2.2.2.2.1, s.1.2.2.2.2.2.2.2.1, ()), ())
theorem not_le_of {a b : UInt64} (h : b < a) : decide (a ≤ b) = false := decide_eq_false (by rw [UInt64.le_iff_toNat_le, UInt64.lt_iff_toNat_lt] at *; omega)
theorem not_lt_zero {a b : UInt64} : decide (a < b * 0) = false := decide_eq_false (by
  have : b * 0 = 0 := by rw [← UInt64.toNat_inj]; simp
  rw [this, UInt64.lt_iff_toNat_lt]
  exact Nat.not_lt_zero _)
theorem bdiv64_h0 : ∀ s : bdiv64_s0X, bdiv64_ok0 s = true → ∃ m e, loopRun bdiv64_U0 m s = some e ∧ (bdiv64_f0 bdiv64_g0 s).run = some e := by
  rintro ⟨⟨a2, a8, a9, a10, a11, a13, a14, a15, a16, ⟨⟩⟩, ⟨⟩⟩ h
  have h' := of_decide_eq_true h
  dsimp only at h'
  obtain ⟨rfl, hl⟩ := h'
  exact ⟨1, _, loopRun_out ((OT.run_f (not_le_of hl)).trans (OT.run_f not_lt_zero)), rfl⟩

def bdiv64_ok2 (s : bdiv64_s2X) : Bool := decide (s.1.2.2.2.1 = 0 ∧ s.1.2.2.2.2.2.2.2.2.1 < 4294967296)
def bdiv64_g2 (s : bdiv64_s2X) : bdiv64_e2_2X := ((s.1.1, s.1.2.1, s.1.2.2.2.2.1, s.1.2.2.2.2.2.1, s.1.2.2.2.2.2.2.2.1, s.1.2.2.2.2.2.2.2.2.1, ()), ())
theorem bdiv64_h2 : ∀ s : bdiv64_s2X, bdiv64_ok2 s = true → ∃ m e, loopRun bdiv64_U2 m s = some e ∧ (bdiv64_f2 bdiv64_g2 s).run = some e := by
  rintro ⟨⟨a2, a8, a9, a10, a14, a15, a16, a17, a18, ⟨⟩⟩, ⟨⟩⟩ h
  have h' := of_decide_eq_true h
  dsimp only at h'
  obtain ⟨rfl, hl⟩ := h'
  exact ⟨1, _, loopRun_out ((OT.run_f (not_le_of hl)).trans (OT.run_f not_lt_zero)), rfl⟩

def bdiv64_pre (x : bdiv64X) : Bool := isSmall x.1.2.2.1 && decide (x.1.1 < x.1.2.2.1)
def bdiv64_F (x : bdiv64X) : OT bdiv64_S.Y := .ok ⟨bdiv64_o0, ((divQ x.1.1 x.1.2.1 x.1.2.2.1, divR x.1.1 x.1.2.1 x.1.2.2.1, ()), ())⟩

theorem word_join {v z : Nat} (hv : v < 4294967296) (hz : z < 4294967296) : (v * 4294967296 % 2 ^ 64 + z) % 2 ^ 64 = (v * (256 * 16777216) + z) % 2 ^ 64 := by
  rw [Nat.mod_eq_of_lt (a := v * 4294967296) (by omega)]

theorem word_rem {s : Nat} (hs : s < 4294967296) : s * 4294967296 / 2 ^ 40 = s / 256 % 2 ^ 64 := by
  rw [Nat.mod_eq_of_lt (by omega), show (2 : Nat) ^ 40 = 256 * 4294967296 from rfl, Nat.mul_div_mul_right _ _ (by omega)]

/-- What the words come to. -/
theorem bdiv64_words {h l y : UInt64} {m : Nat} (hm : y.toNat = m) (hy : (shl64 y 40).toNat = m * 1099511627776) (hy1 : (shr64 (shl64 y 40) 32).toNat = m * 256) (hy0 : shl64 y 40 &&& 4294967295 = 0) (hm0 : 0 < m) (hm1 : m < 16777216) (hh : h.toNat < m) :
    let u := shl64 h 40 ||| shr64 l 24
    let q1 := u / shr64 (shl64 y 40) 32
    let un21 := u * 4294967296 + shr64 (shl64 l 40) 32 - q1 * shl64 y 40
    let q0 := un21 / shr64 (shl64 y 40) 32
    q1 < 4294967296 ∧ q0 < 4294967296 ∧ q1 * 4294967296 + q0 = divQ h l y ∧ shr64 (un21 * 4294967296 + (shl64 l 40 &&& 4294967295) - q0 * shl64 y 40) 40 = divR h l y := by
  intro u q1 un21 q0
  have hl := l.toNat_lt
  have hu : u.toNat = h.toNat * 1099511627776 + l.toNat / 16777216 := by
    have e1 : (shl64 h 40).toNat = h.toNat * 1099511627776 := by
      rw [show ((40 : Int)) = ((40 : Nat) : Int) from rfl, shl64_nat _ _ (by omega)]
      exact Nat.mod_eq_of_lt (by omega)
    have e2 : (shr64 l 24).toNat = l.toNat / 16777216 := shr64_nat l 24 (by omega)
    simp only [u]
    rw [UInt64.toNat_or, e1, e2, Nat.mul_comm]
    have := Nat.two_pow_add_eq_or_of_lt (i := 40) (b := l.toNat / 16777216) (by omega) h.toNat
    exact this.symm
  have hun1 : (shr64 (shl64 l 40) 32).toNat = l.toNat % 16777216 * 256 := by
    rw [show ((32 : Int)) = ((32 : Nat) : Int) from rfl, shr64_nat _ _ (by omega), show ((40 : Int)) = ((40 : Nat) : Int) from rfl, shl64_nat _ _ (by omega)]
    omega
  have hun0 : shl64 l 40 &&& 4294967295 = 0 := by
    rw [← UInt64.toNat_inj, and_mask32, show ((40 : Int)) = ((40 : Nat) : Int) from rfl, shl64_nat _ _ (by omega)]
    show l.toNat * 2 ^ 40 % 2 ^ 64 % 4294967296 = 0
    omega
  have hq1 : q1.toNat = u.toNat / (m * 256) := by simp only [q1]; rw [UInt64.toNat_div, hy1]
  have hN : h.toNat * 18446744073709551616 + l.toNat = u.toNat * 16777216 + l.toNat % 16777216 := by rw [hu]; omega
  have hqr : u.toNat = q1.toNat * (m * 256) + u.toNat % (m * 256) := by
    rw [hq1, Nat.mul_comm]
    exact (Nat.div_add_mod _ _).symm
  have hr : u.toNat % (m * 256) < m * 256 := Nat.mod_lt _ (by omega)
  have hul : u.toNat < m * 256 * 4294967296 := by rw [hu]; omega
  have hq1l : q1.toNat < 4294967296 := by rw [hq1]; exact Nat.div_lt_of_lt_mul hul
  generalize hrr : u.toNat % (m * 256) = r at *
  have hprod : q1.toNat * (m * 1099511627776) = q1.toNat * (m * 256) * 4294967296 := by
    rw [Nat.mul_assoc, Nat.mul_assoc]
  have h21 : un21.toNat = r * 4294967296 + l.toNat % 16777216 * 256 := by
    simp only [un21]
    rw [UInt64.toNat_sub, UInt64.toNat_add, UInt64.toNat_mul, UInt64.toNat_mul, hun1, hy, hprod, show (4294967296 : UInt64).toNat = 4294967296 from rfl]
    generalize q1.toNat * (m * 256) = A at *
    omega
  have hq0 : q0.toNat = un21.toNat / (m * 256) := by simp only [q0]; rw [UInt64.toNat_div, hy1]
  have h21l : un21.toNat < m * 256 * 4294967296 := by rw [h21]; omega
  have hq0l : q0.toNat < 4294967296 := by rw [hq0]; exact Nat.div_lt_of_lt_mul h21l
  have hqr0 : un21.toNat = q0.toNat * (m * 256) + un21.toNat % (m * 256) := by
    rw [hq0, Nat.mul_comm]
    exact (Nat.div_add_mod _ _).symm
  have hr0 : un21.toNat % (m * 256) < m * 256 := Nat.mod_lt _ (by omega)
  obtain ⟨d1, d2⟩ := div_words_gen (K := 16777216) (L := 256) hm0 (by omega) hN hqr
  have e21 : (r * 16777216 + l.toNat % 16777216) * 256 = un21.toNat := by rw [h21]; omega
  rw [e21] at d1 d2
  refine ⟨by rw [UInt64.lt_iff_toNat_lt]; exact hq1l, by rw [UInt64.lt_iff_toNat_lt]; exact hq0l, ?_, ?_⟩
  · rw [← UInt64.toNat_inj, UInt64.toNat_add, UInt64.toNat_mul, show (4294967296 : UInt64).toNat = 4294967296 from rfl, hq0]
    unfold divQ
    rw [hm, UInt64.toNat_ofNat', d1, ← hq0]
    exact word_join hq1l hq0l
  · have hprod0 : q0.toNat * (m * 1099511627776) = q0.toNat * (m * 256) * 4294967296 := by
      rw [Nat.mul_assoc, Nat.mul_assoc]
    have e3 : (un21 * 4294967296 + (shl64 l 40 &&& 4294967295) - q0 * shl64 y 40).toNat = (un21.toNat % (m * 256)) * 4294967296 := by
      rw [hun0, UInt64.toNat_sub, UInt64.toNat_add, UInt64.toNat_mul, UInt64.toNat_mul, hy, hprod0, show (4294967296 : UInt64).toNat = 4294967296 from rfl, show (0 : UInt64).toNat = 0 from rfl]
      generalize un21.toNat % (m * 256) = s at *
      generalize q0.toNat * (m * 256) = A at *
      omega
    rw [← UInt64.toNat_inj, show ((40 : Int)) = ((40 : Nat) : Int) from rfl, shr64_nat _ _ (by omega), show ((40 : Nat) : Int) = 40 from rfl, e3]
    unfold divR
    rw [hm, UInt64.toNat_ofNat', d2]
    exact word_rem (by omega)

theorem small_facts {y : UInt64} (h : isSmall y = true) : ∃ m, y.toNat = m ∧ (shl64 y 40).toNat = m * 1099511627776 ∧ (shr64 (shl64 y 40) 32).toNat = m * 256 ∧ shl64 y 40 &&& 4294967295 = 0 ∧ 0 < m ∧ m < 16777216 := by
  rcases isSmall_cases h with rfl | rfl
  · exact ⟨16513537, rfl, by decide +kernel, by decide +kernel, by decide +kernel, by omega, by omega⟩
  · exact ⟨16521217, rfl, by decide +kernel, by decide +kernel, by decide +kernel, by omega, by omega⟩

theorem bdiv64_ok : SummOk Try.prog 45 (bdiv64_S.summ bdiv64_pre bdiv64_F) := bdiv64_main bdiv64_ok0 bdiv64_g0 bdiv64_ok2 bdiv64_g2 bdiv64_h0 bdiv64_h2 _ _ fun x oy hp ho => by
  rw [← ho]
  clear ho
  obtain ⟨⟨h, l, y, ⟨⟩⟩, ⟨⟩⟩ := x
  have hp' : (isSmall y && decide (h < y)) = true := hp
  rw [Bool.and_eq_true] at hp'
  obtain ⟨hs, hlt⟩ := hp'
  have hlt := of_decide_eq_true hlt
  obtain ⟨m, f1, f2, f3, f4, f5, f6⟩ := small_facts hs
  have hh : h.toNat < m := by rw [← f1]; exact UInt64.lt_iff_toNat_lt.1 hlt
  have hy0 : ¬ y = 0 := fun e => by rw [e] at f1; simp at f1; omega
  have hyb : (y == 0) = false := by simpa using hy0
  have hle : decide (y ≤ h) = false := not_le_of hlt
  unfold bdiv64_T
  refine (OT.run_f hyb).trans ((OT.run_f hle).trans ?_)
  by_cases h0 : h = 0
  · subst h0
    refine (OT.run_t rfl).trans ((gd_run ?_).trans ?_)
    · simp only [hyb, List.all_cons, List.all_nil, Bool.and_true, Bool.not_false]
    · have e1 : divQ 0 l y = l / y := by
        rw [← UInt64.toNat_inj]
        unfold divQ
        rw [UInt64.toNat_ofNat', UInt64.toNat_div, show (0 : UInt64).toNat = 0 from rfl, Nat.zero_mul, Nat.zero_add]
        exact Nat.mod_eq_of_lt (Nat.lt_of_le_of_lt (Nat.div_le_self _ _) l.toNat_lt)
      have e2 : divR 0 l y = l % y := by
        rw [← UInt64.toNat_inj]
        unfold divR
        rw [UInt64.toNat_ofNat', UInt64.toNat_mod, show (0 : UInt64).toNat = 0 from rfl, Nat.zero_mul, Nat.zero_add]
        exact Nat.mod_eq_of_lt (Nat.lt_of_le_of_lt (Nat.mod_le _ _) l.toNat_lt)
      simp only [bdiv64_F, e1, e2]
  · have hb : (h == 0) = false := by simpa using h0
    obtain ⟨w1, w2, w3, w4⟩ := bdiv64_words (l := l) f1 f2 f3 f4 f5 f6 hh
    have hz : (!(shr64 (shl64 y 40) 32 == 0)) = true := by
      have : ¬ shr64 (shl64 y 40) 32 = 0 := fun e => by rw [e] at f3; simp at f3; omega
      simpa using this
    refine (OT.run_f hb).trans ((gd_run ?_).trans ?_)
    · simp only [List.all_cons, List.all_nil, Bool.and_true, Bool.and_eq_true]
      exact ⟨hs, hz, decide_eq_true ⟨f4, w1⟩, hz, decide_eq_true ⟨f4, w2⟩⟩
    · show some (⟨bdiv64_o0, ((_, shr64 _ ((40 : UInt64).toNat : Int), ()), ())⟩ : bdiv64_S.Y) = some ⟨bdiv64_o0, ((divQ h l y, divR h l y, ()), ())⟩
      rw [← w3, ← w4]
      rfl

def bdiv64_summ : Summ := (bdiv64_S.summ bdiv64_pre bdiv64_F)
theorem bdiv64_known : SummOk Try.prog 45 bdiv64_summ := bdiv64_ok
theorem bdiv64_smono : MonoOk bdiv64_summ := fn_mono

def E_bdiv64 : Env := envCons 45 bdiv64_summ E_blz64
theorem E_bdiv64_ok : EnvOk Try.prog E_bdiv64 := envOk_cons bdiv64_known E_blz64_ok
theorem E_bdiv64_mono : EnvMono E_bdiv64 := envMono_cons bdiv64_smono E_blz64_mono
theorem E_bdiv64_any : AnyOk Try.prog te E_bdiv64 := any_ok follows te_ok E_bdiv64_ok E_bdiv64_mono

end Go.Proofs.Ytkngdfhigpjciaa

/- The function sigil/word.Add: what it makes of its arguments. No statement of a seat is proved here. -/
namespace Go.Proofs.Ytkngdfhigpjciaa
open Sx Go
set_option maxRecDepth 100000

def wadd_S : FnSpec := ⟨[.val true .elem, .val true .elem], [], true, 0, false⟩

abbrev waddX : Type := ((Elem) × (Elem) × Unit) × (Unit)

def wadd_s0 : Shape := ⟨29, [(2, .ptr 0 0 0), (3, .ptr 1 0 0), (4, .ptr 2 0 0), (6, .ptr 3 0 0), (7, .val false .u64), (9, .val false .int)], [(0, .row .u64), (1, .row .u64), (2, .row .u64), (3, .row .u64)], 0, true⟩

abbrev wadd_s0X : Type := ((Unit) × (Unit) × (Unit) × (Unit) × (UInt64) × (Int) × Unit) × ((List (UInt64)) × (List (UInt64)) × (List (UInt64)) × (List (UInt64)) × Unit)

def wadd_e0_0 : Shape := ⟨29, [(4, .ptr 0 0 0), (6, .ptr 1 0 0), (7, .val false .u64)], [(0, .row .u64), (1, .row .u64)], 0, true⟩

abbrev wadd_e0_0X : Type := ((Unit) × (Unit) × (UInt64) × Unit) × ((List (UInt64)) × (List (UInt64)) × Unit)

def wadd_x0 : SE → Option Shape := xsMk [(0, wadd_e0_0)] none

def wadd_T0 (a7 : UInt64) (a9 : Int) (c0 : List (UInt64)) (c1 : List (UInt64)) (c2 : List (UInt64)) (c3 : List (UInt64)) : OT (Sum wadd_s0X LEnd) :=
  let z0 : Bool := inB a9 (4 : Nat)
  let z1 : UInt64 := List.getD c0 (Int.toNat a9 + (0 : Nat)) (0 : UInt64)
  let z2 : UInt64 := List.getD c1 (Int.toNat a9 + (0 : Nat)) (0 : UInt64)
  (.br (decide (a9 < (4 : Int)))
  (gd [z0, decide (Int.toNat a9 + (0 : Nat) < List.length c0), z0, decide (Int.toNat a9 + (0 : Nat) < List.length c1), badd64_pre ((z1, z2, a7, ()), ()), z0, decide (Int.toNat a9 + (0 : Nat) < List.length c3), inR (a9 + (1 : Int))] (.ok (.inl (((), ((), ((), ((), (addK z1 z2 a7, (a9 + (1 : Int), ())))))), (c0, (c1, (c2, (List.set c3 (Int.toNat a9 + (0 : Nat)) (addC z1 z2 a7), ()))))))))
  (.ok (.inr ⟨(.exit 0, wadd_e0_0), (((), ((), (a7, ()))), (c2, (c3, ())))⟩)))

def wadd_U0 (s : wadd_s0X) : OT (Sum wadd_s0X LEnd) := wadd_T0 (s.1.2.2.2.2.1) (s.1.2.2.2.2.2.1) (s.2.1) (s.2.2.1) (s.2.2.2.1) (s.2.2.2.2.1)

theorem wadd_q0 (s : wadd_s0X) (Q : Sum wadd_s0X LEnd → Prop) : wps te E_bdiv64 lamNil 1000 (loopOf (codeOf Try.f71) 0) (wadd_s0.inj s) (stepK wadd_s0 wadd_x0 (Q : Sum wadd_s0.T LEnd → Prop)) = (wadd_U0 s).wpR Q := by kernel_rfl

def wadd_f0 (g0_0 : wadd_s0X → wadd_e0_0X) (s : wadd_s0X) : OT LEnd := (.ok ⟨(.exit 0, wadd_e0_0), g0_0 s⟩)

def wadd_o0 : OutSh := ⟨[.val true .elem, .val false .bool], [], false⟩

def wadd_sel : SV → Option OutSh := fun _ => some wadd_o0

def wadd_T (ok0 : wadd_s0X → Bool) (g0_0 : wadd_s0X → wadd_e0_0X) (a0 : Elem) (a1 : Elem) : OT wadd_S.Y :=
  let z0 : (PUnit × PUnit × PUnit × PUnit × UInt64 × Int × PUnit) × List UInt64 × List UInt64 × List UInt64 × List UInt64 × PUnit := (((), (), (), (), (0 : UInt64), (0 : Int), ()), [a0.w0, a0.w1, a0.w2, a0.w3], [a1.w0, a1.w1, a1.w2, a1.w3], [(0 : UInt64), (0 : UInt64), (0 : UInt64), (0 : UInt64)], [(0 : UInt64), (0 : UInt64), (0 : UInt64), (0 : UInt64)], ())
  let z1 : (PUnit × PUnit × UInt64 × PUnit) × List UInt64 × List UInt64 × PUnit := g0_0 z0
  let z2 : List UInt64 × List UInt64 × PUnit := z1.snd
  let z3 : List UInt64 := z2.snd.fst
  let z4 : List UInt64 := z2.fst
  let z5 : List UInt64 := lay z4 z3 (4 : Nat) (0 : UInt64)
  (gd [ok0 z0, decide ((4 : Nat) ≤ List.length z3), decide ((4 / 1 : Nat) + (0 : Nat) ≤ List.length z4), decide ((4 : Nat) ≤ List.length z5)] (.ok ⟨wadd_o0, (({ w0 := List.getD z5 (0 : Nat) (0 : UInt64), w1 := List.getD z5 (1 : Nat) (0 : UInt64), w2 := List.getD z5 (2 : Nat) (0 : UInt64), w3 := List.getD z5 (3 : Nat) (0 : UInt64) }, (!z1.fst.snd.snd.fst == (0 : UInt64), ())), ())⟩))

theorem wadd_q (ok0 : wadd_s0X → Bool) (g0_0 : wadd_s0X → wadd_e0_0X) (x : waddX) (Q : wadd_S.Y → Prop) : wpf te E_bdiv64 (lamCons 0 (loopF wadd_s0 0 ok0 (wadd_f0 g0_0)) lamNil) 1000 Try.f71 (wadd_S.inp.inj x).tm (wadd_S.inp.inj x).hp (fnK wadd_S wadd_sel Q) (fun _ _ => False) = (wadd_T ok0 g0_0 (x.1.1) (x.1.2.1)).wpR Q := by kernel_rfl

theorem wadd_main (ok0 : wadd_s0X → Bool) (g0_0 : wadd_s0X → wadd_e0_0X) (h0 : ∀ s : wadd_s0X, ok0 s = true → ∃ m e, loopRun (wadd_U0) m s = some e ∧ (wadd_f0 g0_0 s).run = some e) (pre : waddX → Bool) (F : waddX → OT wadd_S.Y) (hF : ∀ (x : waddX) oy, pre x = true → (F x).run = some oy → (wadd_T ok0 g0_0 (x.1.1) (x.1.2.1)).run = some oy) : SummOk Try.prog 71 (wadd_S.summ pre F) :=
  fn_tree te_ok E_bdiv64_ok E_bdiv64_any (f := 71) (fn := Try.f71) (c := codeOf Try.f71) (by kernel_rfl) (by kernel_rfl) (by kernel_rfl) (S := wadd_S) (k := 0) (by kernel_rfl) (fun R hR => (lamOk_cons (c := (codeOf Try.f71)) (by kernel_rfl) (id := 0) (by kernel_rfl) (loop_ok te_ok E_bdiv64_ok E_bdiv64_any (sh := wadd_s0) hR (xs := wadd_x0) (xsMk_small (by kernel_rfl) (by kernel_rfl) hR) xsMk_pan lamOk_nil (n := 1000) (T := wadd_U0) (fun s Q => wadd_q0 s Q) (ok := ok0) (f := wadd_f0 g0_0) h0) lamOk_nil)) (n := 1000) (sel := wadd_sel) (fun v o h => by cases h; rfl) (pre := pre) (F := F) (T := fun x => wadd_T ok0 g0_0 (x.1.1) (x.1.2.1)) (fun x Q => wadd_q ok0 g0_0 x Q) hF

def addSt (a b : List UInt64) (k : Nat) (s : List UInt64 × UInt64) : List UInt64 × UInt64 := (s.1.set k (addC (a.getD k 0) (b.getD k 0) s.2), addK (a.getD k 0) (b.getD k 0) s.2)
def wadd_ok0 (s : wadd_s0X) : Bool := decide (s.1.2.2.2.2.1 = 0 ∧ s.1.2.2.2.2.2.1 = 0 ∧ s.2.1.length = 4 ∧ s.2.2.1.length = 4 ∧ s.2.2.2.2.1 = [0, 0, 0, 0])
def wadd_g0 (s : wadd_s0X) : wadd_e0_0X := (((), (), (upto (addSt s.2.1 s.2.2.1) ([0, 0, 0, 0], 0) 4).2, ()), (s.2.2.2.1, (upto (addSt s.2.1 s.2.2.1) ([0, 0, 0, 0], 0) 4).1, ()))
theorem wadd_h0 : ∀ s : wadd_s0X, wadd_ok0 s = true → ∃ m e, loopRun wadd_U0 m s = some e ∧ (wadd_f0 wadd_g0 s).run = some e := by
  rintro ⟨⟨⟨⟩, ⟨⟩, ⟨⟩, ⟨⟩, c, i, ⟨⟩⟩, ⟨c0, c1, c2, c3, ⟨⟩⟩⟩ h
  have h' := of_decide_eq_true h
  dsimp only at h'
  obtain ⟨rfl, rfl, h0, h1, rfl⟩ := h'
  have := (loop_upto (T := wadd_U0) (fun k s => ((((), (), (), (), s.2, (k : Int), ()), (c0, c1, c2, s.1, ())) : wadd_s0X)) (addSt c0 c1)
    (fun s => (⟨(.exit 0, wadd_e0_0), (((), (), s.2, ()), (c2, s.1, ()))⟩ : LEnd)) 4 ([0, 0, 0, 0], 0) (fun _ s => s.1.length = 4 ∧ s.2.toNat ≤ 1) ⟨rfl, by decide⟩ (fun k s hk hs => ⟨?_, ?_⟩) (fun s hs => ?_)).1
  · obtain ⟨m, hm⟩ := this
    exact ⟨m, _, hm, rfl⟩
  · refine (OT.run_t (decide_eq_true (by dsimp only; omega))).trans ((gd_run ?_).trans ?_)
    · simp only [Int.toNat_natCast, Nat.add_zero, h0, h1, hs.1, List.all_cons, List.all_nil, Bool.and_true, Bool.and_eq_true]
      exact ⟨inB_of (by omega), decide_eq_true (by omega), inB_of (by omega), decide_eq_true (by omega), decide_eq_true hs.2, inB_of (by omega), decide_eq_true (by omega), inR_of (by omega)⟩
    · simp only [OT.run_ok, Int.toNat_natCast, Nat.add_zero]
      rfl
  · exact ⟨by simp only [addSt, List.length_set]; exact hs.1, addK_le hs.2⟩
  · exact OT.run_f (decide_eq_false (by dsimp only; omega))

theorem lay4 (x y : List UInt64) (hx : x.length = 4) (hy : y.length = 4) : lay x y 4 0 = y := lay_eq hx hy

def wadd_pre (_ : waddX) : Bool := true
def wadd_F (x : waddX) : OT wadd_S.Y := .ok ⟨wadd_o0, (((wsum x.1.1 x.1.2.1).1, ((wsum x.1.1 x.1.2.1).2, ())), ())⟩
theorem wadd_ok : SummOk Try.prog 71 (wadd_S.summ wadd_pre wadd_F) := wadd_main wadd_ok0 wadd_g0 wadd_h0 _ _ fun x oy hp ho => by
  rw [← ho]
  clear ho
  obtain ⟨⟨a, b, ⟨⟩⟩, ⟨⟩⟩ := x
  obtain ⟨_, hw⟩ := wsum_words a b
  refine (gd_run ?_).trans ?_
  · simp only [List.all_cons, List.all_nil, Bool.and_true, Bool.and_eq_true]
    exact ⟨rfl, rfl, rfl, rfl⟩
  · simp only [wadd_F, hw]
    rfl

def wadd_summ : Summ := (wadd_S.summ wadd_pre wadd_F)
theorem wadd_known : SummOk Try.prog 71 wadd_summ := wadd_ok
theorem wadd_smono : MonoOk wadd_summ := fn_mono

def E_wadd : Env := envCons 71 wadd_summ E_bdiv64
theorem E_wadd_ok : EnvOk Try.prog E_wadd := envOk_cons wadd_known E_bdiv64_ok
theorem E_wadd_mono : EnvMono E_wadd := envMono_cons wadd_smono E_bdiv64_mono
theorem E_wadd_any : AnyOk Try.prog te E_wadd := any_ok follows te_ok E_wadd_ok E_wadd_mono

end Go.Proofs.Ytkngdfhigpjciaa

/- The function sigil/word.Sub: what it makes of its arguments. No statement of a seat is proved here. -/
namespace Go.Proofs.Ytkngdfhigpjciaa
open Sx Go
set_option maxRecDepth 100000

def wsub_S : FnSpec := ⟨[.val true .elem, .val true .elem], [], true, 0, false⟩

abbrev wsubX : Type := ((Elem) × (Elem) × Unit) × (Unit)

def wsub_s0 : Shape := ⟨29, [(2, .ptr 0 0 0), (3, .ptr 1 0 0), (4, .ptr 2 0 0), (6, .ptr 3 0 0), (7, .val false .u64), (9, .val false .int)], [(0, .row .u64), (1, .row .u64), (2, .row .u64), (3, .row .u64)], 0, true⟩

abbrev wsub_s0X : Type := ((Unit) × (Unit) × (Unit) × (Unit) × (UInt64) × (Int) × Unit) × ((List (UInt64)) × (List (UInt64)) × (List (UInt64)) × (List (UInt64)) × Unit)

def wsub_e0_0 : Shape := ⟨29, [(4, .ptr 0 0 0), (6, .ptr 1 0 0), (7, .val false .u64)], [(0, .row .u64), (1, .row .u64)], 0, true⟩

abbrev wsub_e0_0X : Type := ((Unit) × (Unit) × (UInt64) × Unit) × ((List (UInt64)) × (List (UInt64)) × Unit)

def wsub_x0 : SE → Option Shape := xsMk [(0, wsub_e0_0)] none

def wsub_T0 (a7 : UInt64) (a9 : Int) (c0 : List (UInt64)) (c1 : List (UInt64)) (c2 : List (UInt64)) (c3 : List (UInt64)) : OT (Sum wsub_s0X LEnd) :=
  let z0 : Bool := inB a9 (4 : Nat)
  let z1 : UInt64 := List.getD c0 (Int.toNat a9 + (0 : Nat)) (0 : UInt64)
  let z2 : UInt64 := List.getD c1 (Int.toNat a9 + (0 : Nat)) (0 : UInt64)
  (.br (decide (a9 < (4 : Int)))
  (gd [z0, decide (Int.toNat a9 + (0 : Nat) < List.length c0), z0, decide (Int.toNat a9 + (0 : Nat) < List.length c1), bsub64_pre ((z1, z2, a7, ()), ()), z0, decide (Int.toNat a9 + (0 : Nat) < List.length c3), inR (a9 + (1 : Int))] (.ok (.inl (((), ((), ((), ((), (subK z1 z2 a7, (a9 + (1 : Int), ())))))), (c0, (c1, (c2, (List.set c3 (Int.toNat a9 + (0 : Nat)) (subC z1 z2 a7), ()))))))))
  (.ok (.inr ⟨(.exit 0, wsub_e0_0), (((), ((), (a7, ()))), (c2, (c3, ())))⟩)))

def wsub_U0 (s : wsub_s0X) : OT (Sum wsub_s0X LEnd) := wsub_T0 (s.1.2.2.2.2.1) (s.1.2.2.2.2.2.1) (s.2.1) (s.2.2.1) (s.2.2.2.1) (s.2.2.2.2.1)

theorem wsub_q0 (s : wsub_s0X) (Q : Sum wsub_s0X LEnd → Prop) : wps te E_wadd lamNil 1000 (loopOf (codeOf Try.f46) 0) (wsub_s0.inj s) (stepK wsub_s0 wsub_x0 (Q : Sum wsub_s0.T LEnd → Prop)) = (wsub_U0 s).wpR Q := by kernel_rfl

def wsub_f0 (g0_0 : wsub_s0X → wsub_e0_0X) (s : wsub_s0X) : OT LEnd := (.ok ⟨(.exit 0, wsub_e0_0), g0_0 s⟩)

def wsub_o0 : OutSh := ⟨[.val true .elem, .val false .bool], [], false⟩

def wsub_sel : SV → Option OutSh := fun _ => some wsub_o0

def wsub_T (ok0 : wsub_s0X → Bool) (g0_0 : wsub_s0X → wsub_e0_0X) (a0 : Elem) (a1 : Elem) : OT wsub_S.Y :=
  let z0 : (PUnit × PUnit × PUnit × PUnit × UInt64 × Int × PUnit) × List UInt64 × List UInt64 × List UInt64 × List UInt64 × PUnit := (((), (), (), (), (0 : UInt64), (0 : Int), ()), [a0.w0, a0.w1, a0.w2, a0.w3], [a1.w0, a1.w1, a1.w2, a1.w3], [(0 : UInt64), (0 : UInt64), (0 : UInt64), (0 : UInt64)], [(0 : UInt64), (0 : UInt64), (0 : UInt64), (0 : UInt64)], ())
  let z1 : (PUnit × PUnit × UInt64 × PUnit) × List UInt64 × List UInt64 × PUnit := g0_0 z0
  let z2 : List UInt64 × List UInt64 × PUnit := z1.snd
  let z3 : List UInt64 := z2.snd.fst
  let z4 : List UInt64 := z2.fst
  let z5 : List UInt64 := lay z4 z3 (4 : Nat) (0 : UInt64)
  (gd [ok0 z0, decide ((4 : Nat) ≤ List.length z3), decide ((4 / 1 : Nat) + (0 : Nat) ≤ List.length z4), decide ((4 : Nat) ≤ List.length z5)] (.ok ⟨wsub_o0, (({ w0 := List.getD z5 (0 : Nat) (0 : UInt64), w1 := List.getD z5 (1 : Nat) (0 : UInt64), w2 := List.getD z5 (2 : Nat) (0 : UInt64), w3 := List.getD z5 (3 : Nat) (0 : UInt64) }, (!z1.fst.snd.snd.fst == (0 : UInt64), ())), ())⟩))

theorem wsub_q (ok0 : wsub_s0X → Bool) (g0_0 : wsub_s0X → wsub_e0_0X) (x : wsubX) (Q : wsub_S.Y → Prop) : wpf te E_wadd (lamCons 0 (loopF wsub_s0 0 ok0 (wsub_f0 g0_0)) lamNil) 1000 Try.f46 (wsub_S.inp.inj x).tm (wsub_S.inp.inj x).hp (fnK wsub_S wsub_sel Q) (fun _ _ => False) = (wsub_T ok0 g0_0 (x.1.1) (x.1.2.1)).wpR Q := by kernel_rfl

theorem wsub_main (ok0 : wsub_s0X → Bool) (g0_0 : wsub_s0X → wsub_e0_0X) (h0 : ∀ s : wsub_s0X, ok0 s = true → ∃ m e, loopRun (wsub_U0) m s = some e ∧ (wsub_f0 g0_0 s).run = some e) (pre : wsubX → Bool) (F : wsubX → OT wsub_S.Y) (hF : ∀ (x : wsubX) oy, pre x = true → (F x).run = some oy → (wsub_T ok0 g0_0 (x.1.1) (x.1.2.1)).run = some oy) : SummOk Try.prog 46 (wsub_S.summ pre F) :=
  fn_tree te_ok E_wadd_ok E_wadd_any (f := 46) (fn := Try.f46) (c := codeOf Try.f46) (by kernel_rfl) (by kernel_rfl) (by kernel_rfl) (S := wsub_S) (k := 0) (by kernel_rfl) (fun R hR => (lamOk_cons (c := (codeOf Try.f46)) (by kernel_rfl) (id := 0) (by kernel_rfl) (loop_ok te_ok E_wadd_ok E_wadd_any (sh := wsub_s0) hR (xs := wsub_x0) (xsMk_small (by kernel_rfl) (by kernel_rfl) hR) xsMk_pan lamOk_nil (n := 1000) (T := wsub_U0) (fun s Q => wsub_q0 s Q) (ok := ok0) (f := wsub_f0 g0_0) h0) lamOk_nil)) (n := 1000) (sel := wsub_sel) (fun v o h => by cases h; rfl) (pre := pre) (F := F) (T := fun x => wsub_T ok0 g0_0 (x.1.1) (x.1.2.1)) (fun x Q => wsub_q ok0 g0_0 x Q) hF

def subSt (a b : List UInt64) (k : Nat) (s : List UInt64 × UInt64) : List UInt64 × UInt64 := (s.1.set k (subC (a.getD k 0) (b.getD k 0) s.2), subK (a.getD k 0) (b.getD k 0) s.2)
def wsub_ok0 (s : wsub_s0X) : Bool := decide (s.1.2.2.2.2.1 = 0 ∧ s.1.2.2.2.2.2.1 = 0 ∧ s.2.1.length = 4 ∧ s.2.2.1.length = 4 ∧ s.2.2.2.2.1 = [0, 0, 0, 0])
def wsub_g0 (s : wsub_s0X) : wsub_e0_0X := (((), (), (upto (subSt s.2.1 s.2.2.1) ([0, 0, 0, 0], 0) 4).2, ()), (s.2.2.2.1, (upto (subSt s.2.1 s.2.2.1) ([0, 0, 0, 0], 0) 4).1, ()))
theorem wsub_h0 : ∀ s : wsub_s0X, wsub_ok0 s = true → ∃ m e, loopRun wsub_U0 m s = some e ∧ (wsub_f0 wsub_g0 s).run = some e := by
  rintro ⟨⟨⟨⟩, ⟨⟩, ⟨⟩, ⟨⟩, c, i, ⟨⟩⟩, ⟨c0, c1, c2, c3, ⟨⟩⟩⟩ h
  have h' := of_decide_eq_true h
  dsimp only at h'
  obtain ⟨rfl, rfl, h0, h1, rfl⟩ := h'
  have := (loop_upto (T := wsub_U0) (fun k s => ((((), (), (), (), s.2, (k : Int), ()), (c0, c1, c2, s.1, ())) : wsub_s0X)) (subSt c0 c1)
    (fun s => (⟨(.exit 0, wsub_e0_0), (((), (), s.2, ()), (c2, s.1, ()))⟩ : LEnd)) 4 ([0, 0, 0, 0], 0) (fun _ s => s.1.length = 4 ∧ s.2.toNat ≤ 1) ⟨rfl, by decide⟩ (fun k s hk hs => ⟨?_, ?_⟩) (fun s hs => ?_)).1
  · obtain ⟨m, hm⟩ := this
    exact ⟨m, _, hm, rfl⟩
  · refine (OT.run_t (decide_eq_true (by dsimp only; omega))).trans ((gd_run ?_).trans ?_)
    · simp only [Int.toNat_natCast, Nat.add_zero, h0, h1, hs.1, List.all_cons, List.all_nil, Bool.and_true, Bool.and_eq_true]
      exact ⟨inB_of (by omega), decide_eq_true (by omega), inB_of (by omega), decide_eq_true (by omega), decide_eq_true hs.2, inB_of (by omega), decide_eq_true (by omega), inR_of (by omega)⟩
    · simp only [OT.run_ok, Int.toNat_natCast, Nat.add_zero]
      rfl
  · exact ⟨by simp only [subSt, List.length_set]; exact hs.1, subK_le⟩
  · exact OT.run_f (decide_eq_false (by dsimp only; omega))


def wsub_pre (_ : wsubX) : Bool := true
def wsub_F (x : wsubX) : OT wsub_S.Y := .ok ⟨wsub_o0, (((wdif x.1.1 x.1.2.1).1, ((wdif x.1.1 x.1.2.1).2, ())), ())⟩
theorem wsub_ok : SummOk Try.prog 46 (wsub_S.summ wsub_pre wsub_F) := wsub_main wsub_ok0 wsub_g0 wsub_h0 _ _ fun x oy hp ho => by
  rw [← ho]
  clear ho
  obtain ⟨⟨a, b, ⟨⟩⟩, ⟨⟩⟩ := x
  obtain ⟨_, hw⟩ := wdif_words a b
  refine (gd_run ?_).trans ?_
  · simp only [List.all_cons, List.all_nil, Bool.and_true, Bool.and_eq_true]
    exact ⟨rfl, rfl, rfl, rfl⟩
  · simp only [wsub_F, hw]
    rfl

def wsub_summ : Summ := (wsub_S.summ wsub_pre wsub_F)
theorem wsub_known : SummOk Try.prog 46 wsub_summ := wsub_ok
theorem wsub_smono : MonoOk wsub_summ := fn_mono

def E_wsub : Env := envCons 46 wsub_summ E_wadd
theorem E_wsub_ok : EnvOk Try.prog E_wsub := envOk_cons wsub_known E_wadd_ok
theorem E_wsub_mono : EnvMono E_wsub := envMono_cons wsub_smono E_wadd_mono
theorem E_wsub_any : AnyOk Try.prog te E_wsub := any_ok follows te_ok E_wsub_ok E_wsub_mono

end Go.Proofs.Ytkngdfhigpjciaa

/- The function sigil/field.of: what it makes of its arguments. No statement of a seat is proved here. -/
namespace Go.Proofs.Ytkngdfhigpjciaa
open Sx Go
set_option maxRecDepth 100000

def fof_S : FnSpec := ⟨[.val false .int], [], true, 0, false⟩

abbrev fofX : Type := ((Int) × Unit) × (Unit)

def fof_o0 : OutSh := ⟨[.val true (.prod .elem (.prod .int (.prod .u64 (.prod .u64 .elem)))), .val false .int], [], false⟩

def fof_sel : SV → Option OutSh := fun _ => some fof_o0

def fof_T (a0 : Int) : OT fof_S.Y :=
  let z0 : Elem := { w0 := (0 : UInt64), w1 := (0 : UInt64), w2 := (0 : UInt64), w3 := (0 : UInt64) }
  let z1 : UInt64 × Elem := ((0 : UInt64), z0)
  (.br (a0 == (0 : Int))
  (.ok ⟨fof_o0, ((({ w0 := (16513537 : UInt64), w1 := (0 : UInt64), w2 := (0 : UInt64), w3 := (0 : UInt64) }, (9 : Int), (16513537 : UInt64), z1), ((0 : Int), ())), ())⟩)
  (.br (a0 == (1 : Int))
    (.ok ⟨fof_o0, ((({ w0 := (16521217 : UInt64), w1 := (0 : UInt64), w2 := (0 : UInt64), w3 := (0 : UInt64) }, (11 : Int), (16521217 : UInt64), z1), ((0 : Int), ())), ())⟩)
    (.br (a0 == (2 : Int))
      (.ok ⟨fof_o0, ((({ w0 := (11037532056220336129 : UInt64), w1 := (2469829653914515739 : UInt64), w2 := (0 : UInt64), w3 := (4611686018427387904 : UInt64) }, (32 : Int), (0 : UInt64), (11037532056220336127 : UInt64), { w0 := (10122100416058490895 : UInt64), w1 := (15551789045973377255 : UInt64), w2 := (8617542898466512152 : UInt64), w3 := (679271340751763220 : UInt64) }), ((0 : Int), ())), ())⟩)
      (.br (a0 == (3 : Int))
        (.ok ⟨fof_o0, ((({ w0 := (10108024940646105089 : UInt64), w1 := (2469829653919213789 : UInt64), w2 := (0 : UInt64), w3 := (4611686018427387904 : UInt64) }, (32 : Int), (0 : UInt64), (10108024940646105087 : UInt64), { w0 := (18200867980676431887 : UInt64), w1 := (7474641938123724515 : UInt64), w2 := (9200329640471491984 : UInt64), w3 := (679271340771891881 : UInt64) }), ((0 : Int), ())), ())⟩)
        (.ok ⟨fof_o0, (((z0, (0 : Int), (0 : UInt64), z1), ((20 : Int), ())), ())⟩)))))

theorem fof_q (x : fofX) (Q : fof_S.Y → Prop) : wpf te E_wsub lamNil 1000 Try.f43 (fof_S.inp.inj x).tm (fof_S.inp.inj x).hp (fnK fof_S fof_sel Q) (fun _ _ => False) = (fof_T (x.1.1)).wpR Q := by kernel_rfl

theorem fof_main (pre : fofX → Bool) (F : fofX → OT fof_S.Y) (hF : ∀ (x : fofX) oy, pre x = true → (F x).run = some oy → (fof_T (x.1.1)).run = some oy) : SummOk Try.prog 43 (fof_S.summ pre F) :=
  fn_tree te_ok E_wsub_ok E_wsub_any (f := 43) (fn := Try.f43) (c := codeOf Try.f43) (by kernel_rfl) (by kernel_rfl) (by kernel_rfl) (S := fof_S) (k := 0) (by kernel_rfl) (fun R hR => lamOk_nil) (n := 1000) (sel := fof_sel) (fun v o h => by cases h; rfl) (pre := pre) (F := F) (T := fun x => fof_T (x.1.1)) (fun x Q => fof_q x Q) hF

/-- A field's numbers: the modulus, how often 2 divides it less 1, the modulus if it is little, -1 by it, 2^512 by it. -/
abbrev NumX : Type := Elem × Int × UInt64 × UInt64 × Elem
def noNum : NumX := (⟨0, 0, 0, 0⟩, 0, 0, 0, ⟨0, 0, 0, 0⟩)
def numOf : Nat → NumX
  | 0 => (⟨16513537, 0, 0, 0⟩, 9, 16513537, 0, ⟨0, 0, 0, 0⟩)
  | 1 => (⟨16521217, 0, 0, 0⟩, 11, 16521217, 0, ⟨0, 0, 0, 0⟩)
  | 2 => (⟨11037532056220336129, 2469829653914515739, 0, 4611686018427387904⟩, 32, 0, 11037532056220336127, ⟨10122100416058490895, 15551789045973377255, 8617542898466512152, 679271340751763220⟩)
  | 3 => (⟨10108024940646105089, 2469829653919213789, 0, 4611686018427387904⟩, 32, 0, 10108024940646105087, ⟨18200867980676431887, 7474641938123724515, 9200329640471491984, 679271340771891881⟩)
  | _ => noNum
/-- Is it a sort (a field, a curve)? -/
def sortOk (s : Int) : Bool := decide (0 ≤ s) && decide (s < 4)
theorem sortOk_cases {s : Int} (h : sortOk s = true) : s = 0 ∨ s = 1 ∨ s = 2 ∨ s = 3 := by
  simp only [sortOk, Bool.and_eq_true, decide_eq_true_eq] at h
  omega
theorem sortOk_not {s : Int} (h : sortOk s = false) : (s == 0) = false ∧ (s == 1) = false ∧ (s == 2) = false ∧ (s == 3) = false := by
  have hn : ∀ k : Int, 0 ≤ k → k < 4 → (s == k) = false := fun k h0 h1 => by
    cases hb : s == k
    · rfl
    · have : s = k := by simpa using hb
      subst this
      simp only [sortOk, decide_eq_true h0, decide_eq_true h1, Bool.and_self] at h
      cases h
  exact ⟨hn 0 (by decide) (by decide), hn 1 (by decide) (by decide), hn 2 (by decide) (by decide), hn 3 (by decide) (by decide)⟩

def fof_pre (_ : fofX) : Bool := true
def fof_F (x : fofX) : OT fof_S.Y := .br (sortOk x.1.1) (.ok ⟨fof_o0, ((numOf x.1.1.toNat, ((0 : Int), ())), ())⟩) (.ok ⟨fof_o0, ((noNum, ((20 : Int), ())), ())⟩)
theorem fof_ok : SummOk Try.prog 43 (fof_S.summ fof_pre fof_F) := fof_main _ _ fun x oy _ ho => by
  rw [← ho]
  clear ho
  obtain ⟨⟨s, ⟨⟩⟩, ⟨⟩⟩ := x
  cases hs : sortOk s
  · obtain ⟨h0, h1, h2, h3⟩ := sortOk_not hs
    exact (OT.run_f h0).trans ((OT.run_f h1).trans ((OT.run_f h2).trans ((OT.run_f h3).trans (OT.run_f (b := sortOk s) hs).symm)))
  · rcases sortOk_cases hs with h | h | h | h
    all_goals
      have h : s = _ := h
      subst h
      rfl

def fof_summ : Summ := (fof_S.summ fof_pre fof_F)
theorem fof_known : SummOk Try.prog 43 fof_summ := fof_ok
theorem fof_smono : MonoOk fof_summ := fn_mono

def E_fof : Env := envCons 43 fof_summ E_wsub
theorem E_fof_ok : EnvOk Try.prog E_fof := envOk_cons fof_known E_wsub_ok
theorem E_fof_mono : EnvMono E_fof := envMono_cons fof_smono E_wsub_mono
theorem E_fof_any : AnyOk Try.prog te E_fof := any_ok follows te_ok E_fof_ok E_fof_mono

end Go.Proofs.Ytkngdfhigpjciaa

/- The function (sigil/field.numbers).reduce: what it makes of its arguments. No statement of a seat is proved here. -/
namespace Go.Proofs.Ytkngdfhigpjciaa
open Sx Go
set_option maxRecDepth 100000

def fred_S : FnSpec := ⟨[.val true (.prod .elem (.prod .int (.prod .u64 (.prod .u64 .elem)))), .val true .elem], [], true, 0, false⟩

abbrev fredX : Type := (((Elem × (Int × (UInt64 × (UInt64 × Elem))))) × (Elem) × Unit) × (Unit)

def fred_s0 : Shape := ⟨53, [(2, .ptr 0 0 0), (3, .ptr 1 0 0), (4, .ptr 2 0 0), (5, .val false .u64), (6, .val false .int)], [(0, .cells [.val false .u64, .val false .u64, .val false .u64, .val false .u64, .val false .int, .val false .u64, .val false .u64, .val false .u64, .val false .u64, .val false .u64, .val false .u64]), (1, .row .u64), (2, .row .u64)], 0, true⟩

abbrev fred_s0X : Type := ((Unit) × (Unit) × (Unit) × (UInt64) × (Int) × Unit) × (((UInt64) × (UInt64) × (UInt64) × (UInt64) × (Int) × (UInt64) × (UInt64) × (UInt64) × (UInt64) × (UInt64) × (UInt64) × Unit) × (List (UInt64)) × (List (UInt64)) × Unit)

def fred_e0_0 : Shape := ⟨53, [(4, .ptr 0 0 0), (5, .val false .u64)], [(0, .row .u64)], 0, true⟩

abbrev fred_e0_0X : Type := ((Unit) × (UInt64) × Unit) × ((List (UInt64)) × Unit)

def fred_x0 : SE → Option Shape := xsMk [(0, fred_e0_0)] none

def fred_T0 (a5 : UInt64) (a6 : Int) (c0_0 : UInt64) (c0_1 : UInt64) (c0_2 : UInt64) (c0_3 : UInt64) (c0_4 : Int) (c0_5 : UInt64) (c0_6 : UInt64) (c0_7 : UInt64) (c0_8 : UInt64) (c0_9 : UInt64) (c0_10 : UInt64) (c1 : List (UInt64)) (c2 : List (UInt64)) : OT (Sum fred_s0X LEnd) :=
  let z0 : UInt64 := List.getD c1 (Int.toNat a6 + (0 : Nat)) (0 : UInt64)
  (.br (decide ((0 : Int) ≤ a6))
  (gd [inB a6 (4 : Nat), decide (Int.toNat a6 + (0 : Nat) < List.length c1), bdiv64_pre ((a5, z0, c0_5, ()), ()), inR (a6 - (1 : Int))] (.ok (.inl (((), ((), ((), (divR a5 z0 c0_5, (a6 - (1 : Int), ()))))), ((c0_0, (c0_1, (c0_2, (c0_3, (c0_4, (c0_5, (c0_6, (c0_7, (c0_8, (c0_9, (c0_10, ()))))))))))), (c1, (c2, ())))))))
  (.ok (.inr ⟨(.exit 0, fred_e0_0), (((), (a5, ())), (c2, ()))⟩)))

def fred_U0 (s : fred_s0X) : OT (Sum fred_s0X LEnd) := fred_T0 (s.1.2.2.2.1) (s.1.2.2.2.2.1) (s.2.1.1) (s.2.1.2.1) (s.2.1.2.2.1) (s.2.1.2.2.2.1) (s.2.1.2.2.2.2.1) (s.2.1.2.2.2.2.2.1) (s.2.1.2.2.2.2.2.2.1) (s.2.1.2.2.2.2.2.2.2.1) (s.2.1.2.2.2.2.2.2.2.2.1) (s.2.1.2.2.2.2.2.2.2.2.2.1) (s.2.1.2.2.2.2.2.2.2.2.2.2.1) (s.2.2.1) (s.2.2.2.1)

theorem fred_q0 (s : fred_s0X) (Q : Sum fred_s0X LEnd → Prop) : wps te E_fof lamNil 1000 (loopOf (codeOf Try.f44) 0) (fred_s0.inj s) (stepK fred_s0 fred_x0 (Q : Sum fred_s0.T LEnd → Prop)) = (fred_U0 s).wpR Q := by kernel_rfl

def fred_f0 (g0_0 : fred_s0X → fred_e0_0X) (s : fred_s0X) : OT LEnd := (.ok ⟨(.exit 0, fred_e0_0), g0_0 s⟩)

def fred_s2 : Shape := ⟨53, [(2, .ptr 0 0 0), (3, .ptr 1 0 0), (4, .ptr 2 0 0)], [(0, .cells [.val false .u64, .val false .u64, .val false .u64, .val false .u64, .val false .int, .val false .u64, .val false .u64, .val false .u64, .val false .u64, .val false .u64, .val false .u64]), (1, .row .u64), (2, .row .u64)], 0, true⟩

abbrev fred_s2X : Type := ((Unit) × (Unit) × (Unit) × Unit) × (((UInt64) × (UInt64) × (UInt64) × (UInt64) × (Int) × (UInt64) × (UInt64) × (UInt64) × (UInt64) × (UInt64) × (UInt64) × Unit) × (List (UInt64)) × (List (UInt64)) × Unit)

def fred_e2_r : Shape := ⟨53, [(4, .ptr 0 0 0)], [(0, .row .u64)], 0, true⟩

abbrev fred_e2_rX : Type := ((Unit) × Unit) × ((List (UInt64)) × Unit)

def fred_x2 : SE → Option Shape := xsMk [] (some fred_e2_r)

def fred_T2 (c0_0 : UInt64) (c0_1 : UInt64) (c0_2 : UInt64) (c0_3 : UInt64) (c0_4 : Int) (c0_5 : UInt64) (c0_6 : UInt64) (c0_7 : UInt64) (c0_8 : UInt64) (c0_9 : UInt64) (c0_10 : UInt64) (c1 : List (UInt64)) (c2 : List (UInt64)) : OT (Sum fred_s2X LEnd) :=
  let z0 : Nat := List.length c1
  let z1 : Bool := decide ((4 : Nat) ≤ z0)
  let z2 : Elem × Bool := wdif { w0 := List.getD c1 (0 : Nat) (0 : UInt64), w1 := List.getD c1 (1 : Nat) (0 : UInt64), w2 := List.getD c1 (2 : Nat) (0 : UInt64), w3 := List.getD c1 (3 : Nat) (0 : UInt64) } { w0 := c0_0, w1 := c0_1, w2 := c0_2, w3 := c0_3 }
  let z3 : Elem := z2.fst
  (gd [z1] (.br (z2.snd)
  (gd [z1, decide ((4 / 1 : Nat) + (0 : Nat) ≤ List.length c2)] (.ok (.inr ⟨(.ret, fred_e2_r), (((), ()), (lay c2 c1 (4 : Nat) (0 : UInt64), ()))⟩)))
  (gd [decide ((4 / 1 : Nat) + (0 : Nat) ≤ z0)] (.ok (.inl (((), ((), ((), ()))), ((c0_0, (c0_1, (c0_2, (c0_3, (c0_4, (c0_5, (c0_6, (c0_7, (c0_8, (c0_9, (c0_10, ()))))))))))), (List.set (List.set (List.set (List.set c1 (0 : Nat) z3.w0) (1 : Nat) z3.w1) (2 : Nat) z3.w2) (3 : Nat) z3.w3, (c2, ())))))))))

def fred_U2 (s : fred_s2X) : OT (Sum fred_s2X LEnd) := fred_T2 (s.2.1.1) (s.2.1.2.1) (s.2.1.2.2.1) (s.2.1.2.2.2.1) (s.2.1.2.2.2.2.1) (s.2.1.2.2.2.2.2.1) (s.2.1.2.2.2.2.2.2.1) (s.2.1.2.2.2.2.2.2.2.1) (s.2.1.2.2.2.2.2.2.2.2.1) (s.2.1.2.2.2.2.2.2.2.2.2.1) (s.2.1.2.2.2.2.2.2.2.2.2.2.1) (s.2.2.1) (s.2.2.2.1)

theorem fred_q2 (s : fred_s2X) (Q : Sum fred_s2X LEnd → Prop) : wps te E_fof lamNil 1000 (loopOf (codeOf Try.f44) 2) (fred_s2.inj s) (stepK fred_s2 fred_x2 (Q : Sum fred_s2.T LEnd → Prop)) = (fred_U2 s).wpR Q := by kernel_rfl

def fred_f2 (g2_r : fred_s2X → fred_e2_rX) (s : fred_s2X) : OT LEnd := (.ok ⟨(.ret, fred_e2_r), g2_r s⟩)

def fred_o0 : OutSh := ⟨[.val true .elem], [], false⟩

def fred_sel : SV → Option OutSh := fun _ => some fred_o0

def fred_T (ok0 : fred_s0X → Bool) (g0_0 : fred_s0X → fred_e0_0X) (ok2 : fred_s2X → Bool) (g2_r : fred_s2X → fred_e2_rX) (a0 : (Elem × (Int × (UInt64 × (UInt64 × Elem))))) (a1 : Elem) : OT fred_S.Y :=
  let z0 : Bool := !a0.snd.snd.fst == (0 : UInt64)
  let z1 : (UInt64 × UInt64 × UInt64 × UInt64 × Int × UInt64 × UInt64 × UInt64 × UInt64 × UInt64 × UInt64 × PUnit) × List UInt64 × List UInt64 × PUnit := ((a0.fst.w0, a0.fst.w1, a0.fst.w2, a0.fst.w3, a0.snd.fst, a0.snd.snd.fst, a0.snd.snd.snd.fst, a0.snd.snd.snd.snd.w0, a0.snd.snd.snd.snd.w1, a0.snd.snd.snd.snd.w2, a0.snd.snd.snd.snd.w3, ()), [a1.w0, a1.w1, a1.w2, a1.w3], [(0 : UInt64), (0 : UInt64), (0 : UInt64), (0 : UInt64)], ())
  let z2 : (PUnit × PUnit × PUnit × UInt64 × Int × PUnit) × (UInt64 × UInt64 × UInt64 × UInt64 × Int × UInt64 × UInt64 × UInt64 × UInt64 × UInt64 × UInt64 × PUnit) × List UInt64 × List UInt64 × PUnit := (((), (), (), (0 : UInt64), (3 : Int), ()), z1)
  let z3 : (PUnit × UInt64 × PUnit) × List UInt64 × PUnit := g0_0 z2
  let z4 : List UInt64 := z3.snd.fst
  let z5 : List UInt64 := List.set (List.set (List.set (List.set z4 (0 : Nat) z3.fst.snd.fst) (1 : Nat) (0 : UInt64)) (2 : Nat) (0 : UInt64)) (3 : Nat) (0 : UInt64)
  let z6 : (PUnit × PUnit × PUnit × PUnit) × (UInt64 × UInt64 × UInt64 × UInt64 × Int × UInt64 × UInt64 × UInt64 × UInt64 × UInt64 × UInt64 × PUnit) × List UInt64 × List UInt64 × PUnit := (((), (), (), ()), z1)
  let z7 : List UInt64 := (g2_r z6).snd.fst
  (.br (z0)
  (.br (a1.w1 ||| a1.w2 ||| a1.w3 == (0 : UInt64))
    (gd [z0] (.ok ⟨fred_o0, (({ w0 := a1.w0 % a0.snd.snd.fst, w1 := (0 : UInt64), w2 := (0 : UInt64), w3 := (0 : UInt64) }, ()), ())⟩))
    (gd [ok0 z2, decide ((4 / 1 : Nat) + (0 : Nat) ≤ List.length z4), decide ((4 : Nat) ≤ List.length z5)] (.ok ⟨fred_o0, (({ w0 := List.getD z5 (0 : Nat) (0 : UInt64), w1 := List.getD z5 (1 : Nat) (0 : UInt64), w2 := List.getD z5 (2 : Nat) (0 : UInt64), w3 := List.getD z5 (3 : Nat) (0 : UInt64) }, ()), ())⟩)))
  (gd [ok2 z6, decide ((4 : Nat) ≤ List.length z7)] (.ok ⟨fred_o0, (({ w0 := List.getD z7 (0 : Nat) (0 : UInt64), w1 := List.getD z7 (1 : Nat) (0 : UInt64), w2 := List.getD z7 (2 : Nat) (0 : UInt64), w3 := List.getD z7 (3 : Nat) (0 : UInt64) }, ()), ())⟩)))

theorem fred_q (ok0 : fred_s0X → Bool) (g0_0 : fred_s0X → fred_e0_0X) (ok2 : fred_s2X → Bool) (g2_r : fred_s2X → fred_e2_rX) (x : fredX) (Q : fred_S.Y → Prop) : wpf te E_fof (lamCons 2 (loopF fred_s2 2 ok2 (fred_f2 g2_r)) (lamCons 0 (loopF fred_s0 0 ok0 (fred_f0 g0_0)) lamNil)) 1000 Try.f44 (fred_S.inp.inj x).tm (fred_S.inp.inj x).hp (fnK fred_S fred_sel Q) (fun _ _ => False) = (fred_T ok0 g0_0 ok2 g2_r (x.1.1) (x.1.2.1)).wpR Q := by kernel_rfl

theorem fred_main (ok0 : fred_s0X → Bool) (g0_0 : fred_s0X → fred_e0_0X) (ok2 : fred_s2X → Bool) (g2_r : fred_s2X → fred_e2_rX) (h0 : ∀ s : fred_s0X, ok0 s = true → ∃ m e, loopRun (fred_U0) m s = some e ∧ (fred_f0 g0_0 s).run = some e) (h2 : ∀ s : fred_s2X, ok2 s = true → ∃ m e, loopRun (fred_U2) m s = some e ∧ (fred_f2 g2_r s).run = some e) (pre : fredX → Bool) (F : fredX → OT fred_S.Y) (hF : ∀ (x : fredX) oy, pre x = true → (F x).run = some oy → (fred_T ok0 g0_0 ok2 g2_r (x.1.1) (x.1.2.1)).run = some oy) : SummOk Try.prog 44 (fred_S.summ pre F) :=
  fn_tree te_ok E_fof_ok E_fof_any (f := 44) (fn := Try.f44) (c := codeOf Try.f44) (by kernel_rfl) (by kernel_rfl) (by kernel_rfl) (S := fred_S) (k := 0) (by kernel_rfl) (fun R hR => (lamOk_cons (c := (codeOf Try.f44)) (by kernel_rfl) (id := 2) (by kernel_rfl) (loop_ok te_ok E_fof_ok E_fof_any (sh := fred_s2) hR (xs := fred_x2) (xsMk_small (by kernel_rfl) (by kernel_rfl) hR) xsMk_pan lamOk_nil (n := 1000) (T := fred_U2) (fun s Q => fred_q2 s Q) (ok := ok2) (f := fred_f2 g2_r) h2) (lamOk_cons (c := (codeOf Try.f44)) (by kernel_rfl) (id := 0) (by kernel_rfl) (loop_ok te_ok E_fof_ok E_fof_any (sh := fred_s0) hR (xs := fred_x0) (xsMk_small (by kernel_rfl) (by kernel_rfl) hR) xsMk_pan lamOk_nil (n := 1000) (T := fred_U0) (fun s Q => fred_q0 s Q) (ok := ok0) (f := fred_f0 g0_0) h0) lamOk_nil))) (n := 1000) (sel := fred_sel) (fun v o h => by cases h; rfl) (pre := pre) (F := F) (T := fun x => fred_T ok0 g0_0 ok2 g2_r (x.1.1) (x.1.2.1)) (fun x Q => fred_q ok0 g0_0 ok2 g2_r x Q) hF

def numOk (n : NumX) : Bool := decide (n = numOf 0) || (decide (n = numOf 1) || (decide (n = numOf 2) || decide (n = numOf 3)))
theorem numOk_cases {n : NumX} (h : numOk n = true) : n = numOf 0 ∨ n = numOf 1 ∨ n = numOf 2 ∨ n = numOf 3 := by
  simpa [numOk] using h
theorem numOk_of {s : Int} (h : sortOk s = true) : numOk (numOf s.toNat) = true := by
  rcases sortOk_cases h with rfl | rfl | rfl | rfl <;> decide +kernel

/-- The words' remainder, the highest first. -/
def remL (c : List UInt64) (m : UInt64) : UInt64 := upto (fun k r => divR r (c.getD (3 - k) 0) m) 0 4

theorem small_pos {m : UInt64} (h : isSmall m = true) : 0 < m.toNat := by
  rcases isSmall_cases h with rfl | rfl <;> decide

theorem remL_nat {a : Elem} {m : UInt64} (h : isSmall m = true) : remL (lst a) m = UInt64.ofNat (a.nat % m.toNat) := by
  have hm := small_pos h
  rw [← UInt64.toNat_inj, UInt64.toNat_ofNat', Nat.mod_eq_of_lt (b := 2 ^ 64) (Nat.lt_trans (Nat.mod_lt _ hm) m.toNat_lt)]
  show (divR (divR (divR (divR 0 a.w3 m) a.w2 m) a.w1 m) a.w0 m).toNat = _
  rw [divR_nat hm, divR_nat hm, divR_nat hm, divR_nat hm, mod_step _ a.w2.toNat, mod_step _ a.w1.toNat, mod_step _ a.w0.toNat, show (0 : UInt64).toNat = 0 from rfl]
  congr 1
  unfold Sx.Elem.nat
  omega

def fred_ok0 (s : fred_s0X) : Bool := decide (s.1.2.2.2.1 = 0 ∧ s.1.2.2.2.2.1 = 3 ∧ s.2.2.1.length = 4) && isSmall s.2.1.2.2.2.2.2.1
def fred_g0 (s : fred_s0X) : fred_e0_0X := (((), remL s.2.2.1 s.2.1.2.2.2.2.2.1, ()), (s.2.2.2.1, ()))
theorem fred_h0 : ∀ s : fred_s0X, fred_ok0 s = true → ∃ m e, loopRun fred_U0 m s = some e ∧ (fred_f0 fred_g0 s).run = some e := by
  rintro ⟨⟨⟨⟩, ⟨⟩, ⟨⟩, r, i, ⟨⟩⟩, ⟨⟨x0, x1, x2, x3, x4, sm, x6, x7, x8, x9, x10, ⟨⟩⟩, c1, c2, ⟨⟩⟩⟩ h
  simp only [fred_ok0, Bool.and_eq_true, decide_eq_true_eq] at h
  obtain ⟨⟨rfl, rfl, hl⟩, hs⟩ := h
  have hm := small_pos hs
  have := (loop_upto (T := fred_U0) (fun k r => ((((), (), (), r, 3 - (k : Int), ()), ((x0, x1, x2, x3, x4, sm, x6, x7, x8, x9, x10, ()), c1, c2, ())) : fred_s0X)) (fun k r => divR r (c1.getD (3 - k) 0) sm)
    (fun r => (⟨(.exit 0, fred_e0_0), (((), r, ()), (c2, ()))⟩ : LEnd)) 4 0 (fun _ r => r.toNat < sm.toNat) hm (fun k r hk hr => ⟨?_, ?_⟩) (fun r hr => ?_)).1
  · obtain ⟨m, hm⟩ := this
    exact ⟨m, _, hm, rfl⟩
  · have e1 : (3 - (k : Int)).toNat = 3 - k := by omega
    have e2 : (3 : Int) - (k : Int) - 1 = 3 - ((k + 1 : Nat) : Int) := by omega
    refine (OT.run_t (decide_eq_true (by dsimp only; omega))).trans ((gd_run ?_).trans ?_)
    · simp only [e1, Nat.add_zero, hl, List.all_cons, List.all_nil, Bool.and_true, Bool.and_eq_true]
      refine ⟨inB_of (by omega), decide_eq_true (by omega), ?_, inR_of (by omega)⟩
      simp only [bdiv64_pre, Bool.and_eq_true]
      exact ⟨hs, decide_eq_true (UInt64.lt_iff_toNat_lt.2 hr)⟩
    · simp only [OT.run_ok, e1, e2, Nat.add_zero]
  · rw [divR_nat hm]
    exact Nat.mod_lt _ hm
  · exact OT.run_f (decide_eq_false (by dsimp only; omega))

/-- The modulus among the cells. -/
def cMod (s : fred_s2X) : Elem := ⟨s.2.1.1, s.2.1.2.1, s.2.1.2.2.1, s.2.1.2.2.2.1⟩
def fred_ok2 (s : fred_s2X) : Bool := decide (s.2.2.1.length = 4 ∧ s.2.2.2.1.length = 4 ∧ 0 < (cMod s).nat)
def fred_g2 (s : fred_s2X) : fred_e2_rX := (((), ()), (lst (ofN ((elemOf s.2.2.1).nat % (cMod s).nat)), ()))

theorem fred_loop2 {x0 x1 x2 x3 x5 x6 x7 x8 x9 x10 : UInt64} {x4 : Int} {c2 : List UInt64} (hc : c2.length = 4) (hm : 0 < (Elem.mk x0 x1 x2 x3).nat) : ∀ (n : Nat) (a : Elem), a.nat = n →
    ∃ m, loopRun fred_U2 m (((), (), (), ()), ((x0, x1, x2, x3, x4, x5, x6, x7, x8, x9, x10, ()), lst a, c2, ())) = some ⟨(.ret, fred_e2_r), (((), ()), (lst (ofN (a.nat % (Elem.mk x0 x1 x2 x3).nat)), ()))⟩ := by
  intro n
  induction n using Nat.strongRecOn with
  | _ n ih =>
    intro a hn
    cases hb : Nat.blt a.nat (Elem.mk x0 x1 x2 x3).nat
    · have hle : (Elem.mk x0 x1 x2 x3).nat ≤ a.nat := by
        rcases Nat.lt_or_ge a.nat (Elem.mk x0 x1 x2 x3).nat with h | h
        · have : Nat.blt a.nat (Elem.mk x0 x1 x2 x3).nat = true := Nat.ble_eq_true_of_le h
          rw [this] at hb; cases hb
        · exact h
      have hd := wdif_nat hle
      obtain ⟨m, hm2⟩ := ih (a.nat - (Elem.mk x0 x1 x2 x3).nat) (by omega) (wdif a ⟨x0, x1, x2, x3⟩).1 hd
      rw [hd, ← Nat.mod_eq_sub_mod hle] at hm2
      refine ⟨m + 1, loopRun_more ?_ hm2⟩
      refine (gd_run ?_).trans ((OT.run_f hb).trans ((gd_run ?_).trans rfl))
      · rfl
      · rfl
    · have hlt := blt_of hb
      rw [Nat.mod_eq_of_lt hlt, ofN_self]
      refine ⟨1, loopRun_out ?_⟩
      refine (gd_run ?_).trans ((OT.run_t hb).trans ((gd_run ?_).trans ?_))
      · rfl
      · simp only [hc, List.all_cons, List.all_nil, Bool.and_true, Bool.and_eq_true]
        exact ⟨rfl, rfl⟩
      · show some (Sum.inr (⟨(.ret, fred_e2_r), (((), ()), (lay c2 (lst a) 4 0, ()))⟩ : LEnd)) = _
        rw [lay_eq hc (lst_length a)]

theorem fred_h2 : ∀ s : fred_s2X, fred_ok2 s = true → ∃ m e, loopRun fred_U2 m s = some e ∧ (fred_f2 fred_g2 s).run = some e := by
  rintro ⟨⟨⟨⟩, ⟨⟩, ⟨⟩, ⟨⟩⟩, ⟨⟨x0, x1, x2, x3, x4, x5, x6, x7, x8, x9, x10, ⟨⟩⟩, c1, c2, ⟨⟩⟩⟩ h
  have h' := of_decide_eq_true h
  dsimp only [cMod] at h'
  obtain ⟨h1, h2, h3⟩ := h'
  obtain ⟨m, hm⟩ := fred_loop2 (x4 := x4) (x5 := x5) (x6 := x6) (x7 := x7) (x8 := x8) (x9 := x9) (x10 := x10) h2 h3 _ (elemOf c1) rfl
  rw [lst_elemOf h1] at hm
  exact ⟨m, _, hm, rfl⟩

def fred_pre (x : fredX) : Bool := numOk x.1.1
def fred_F (x : fredX) : OT fred_S.Y := .ok ⟨fred_o0, ((ofN (x.1.2.1.nat % x.1.1.1.nat), ()), ())⟩

theorem ofN_small {n : Nat} (h : n < 18446744073709551616) : ofN n = ⟨UInt64.ofNat n, 0, 0, 0⟩ := by
  refine ofN_eq (k := 0) ?_
  rw [UInt64.toNat_ofNat', Nat.mod_eq_of_lt (by omega)]
  simp

theorem fred_little {n : NumX} {a : Elem} {m : UInt64} (h1 : n.1 = ⟨m, 0, 0, 0⟩) (h2 : n.2.2.1 = m) (hs : isSmall m = true) : (fred_T fred_ok0 fred_g0 fred_ok2 fred_g2 n a).run = some ⟨fred_o0, ((ofN (a.nat % n.1.nat), ()), ())⟩ := by
  have hm := small_pos hs
  have hn : n.1.nat = m.toNat := by rw [h1]; show m.toNat + _ * (0 + _ * (0 + _ * 0)) = _; omega
  have hz : (!(n.2.2.1 == 0)) = true := by
    rw [h2]
    rcases isSmall_cases hs with rfl | rfl <;> rfl
  have hlt : a.nat % m.toNat < 18446744073709551616 := Nat.lt_trans (Nat.mod_lt _ hm) m.toNat_lt
  rw [hn, ofN_small hlt]
  unfold fred_T
  refine (OT.run_t hz).trans ?_
  cases hb : (a.w1 ||| a.w2 ||| a.w3 == 0)
  · refine (OT.run_f rfl).trans ((gd_run ?_).trans ?_)
    · simp only [List.all_cons, List.all_nil, Bool.and_true, Bool.and_eq_true]
      refine ⟨?_, rfl, rfl⟩
      show (decide _ && isSmall n.2.2.1) = true
      rw [h2, hs, Bool.and_true]
      exact decide_eq_true ⟨rfl, rfl, rfl⟩
    · show some (⟨fred_o0, ((⟨remL (lst a) n.2.2.1, 0, 0, 0⟩, ()), ())⟩ : fred_S.Y) = _
      rw [h2, remL_nat hs]
  · refine (OT.run_t rfl).trans ((gd_run ?_).trans ?_)
    · simp only [hz, List.all_cons, List.all_nil, Bool.and_true]
    · have hw : a.w1 = 0 ∧ a.w2 = 0 ∧ a.w3 = 0 := by
        have : a.w1 ||| a.w2 ||| a.w3 = 0 := by simpa using hb
        simpa [UInt64.or_eq_zero_iff, and_assoc] using this
      have ha : a.nat = a.w0.toNat := by
        unfold Sx.Elem.nat
        rw [hw.1, hw.2.1, hw.2.2]
        show _ + _ * (0 + _ * (0 + _ * 0)) = _
        omega
      show some (⟨fred_o0, ((⟨a.w0 % n.2.2.1, 0, 0, 0⟩, ()), ())⟩ : fred_S.Y) = _
      have e : a.w0 % n.2.2.1 = UInt64.ofNat (a.nat % m.toNat) := by
        rw [h2, ha, ← UInt64.toNat_inj, UInt64.toNat_mod, UInt64.toNat_ofNat']
        exact (Nat.mod_eq_of_lt (by rw [← ha]; omega)).symm
      rw [e]

theorem fred_great {n : NumX} {a : Elem} (h2 : n.2.2.1 = 0) (hs : 0 < n.1.nat) : (fred_T fred_ok0 fred_g0 fred_ok2 fred_g2 n a).run = some ⟨fred_o0, ((ofN (a.nat % n.1.nat), ()), ())⟩ := by
  unfold fred_T
  refine (OT.run_f (by rw [h2]; rfl)).trans ((gd_run ?_).trans ?_)
  · simp only [List.all_cons, List.all_nil, Bool.and_true, Bool.and_eq_true]
    exact ⟨decide_eq_true ⟨rfl, rfl, hs⟩, rfl⟩
  · rfl

theorem pos2 : 0 < (numOf 2).1.nat := by decide +kernel
theorem pos3 : 0 < (numOf 3).1.nat := by decide +kernel

theorem fred_ok : SummOk Try.prog 44 (fred_S.summ fred_pre fred_F) := fred_main fred_ok0 fred_g0 fred_ok2 fred_g2 fred_h0 fred_h2 _ _ fun x oy hp ho => by
  rw [← ho]
  clear ho
  obtain ⟨⟨n, a, ⟨⟩⟩, ⟨⟩⟩ := x
  have hp' : numOk n = true := hp
  rcases numOk_cases hp' with rfl | rfl | rfl | rfl
  · exact fred_little (m := 16513537) rfl rfl rfl
  · exact fred_little (m := 16521217) rfl rfl rfl
  · exact fred_great rfl pos2
  · exact fred_great rfl pos3

def fred_summ : Summ := (fred_S.summ fred_pre fred_F)
theorem fred_known : SummOk Try.prog 44 fred_summ := fred_ok
theorem fred_smono : MonoOk fred_summ := fn_mono

def E_fred : Env := envCons 44 fred_summ E_fof
theorem E_fred_ok : EnvOk Try.prog E_fred := envOk_cons fred_known E_fof_ok
theorem E_fred_mono : EnvMono E_fred := envMono_cons fred_smono E_fof_mono
theorem E_fred_any : AnyOk Try.prog te E_fred := any_ok follows te_ok E_fred_ok E_fred_mono

end Go.Proofs.Ytkngdfhigpjciaa

/- The function (sigil/field.numbers).add: what it makes of its arguments. No statement of a seat is proved here. -/
namespace Go.Proofs.Ytkngdfhigpjciaa
open Sx Go
set_option maxRecDepth 100000

def fadd0_S : FnSpec := ⟨[.val true (.prod .elem (.prod .int (.prod .u64 (.prod .u64 .elem)))), .val true .elem, .val true .elem], [], true, 0, false⟩

abbrev fadd0X : Type := (((Elem × (Int × (UInt64 × (UInt64 × Elem))))) × (Elem) × (Elem) × Unit) × (Unit)

def fadd0_o0 : OutSh := ⟨[.val true .elem], [], false⟩

def fadd0_sel : SV → Option OutSh := fun _ => some fadd0_o0

def fadd0_T (a0 : (Elem × (Int × (UInt64 × (UInt64 × Elem))))) (a1 : Elem) (a2 : Elem) : OT fadd0_S.Y :=
  let z0 : Nat := Elem.nat a0.fst
  let z1 : Elem := (wsum (ofN (Elem.nat a1 % z0)) (ofN (Elem.nat a2 % z0))).fst
  (gd [fred_pre ((a0, a1, ()), ()), fred_pre ((a0, a2, ()), ()), fred_pre ((a0, z1, ()), ())] (.ok ⟨fadd0_o0, ((ofN (Elem.nat z1 % z0), ()), ())⟩))

theorem fadd0_q (x : fadd0X) (Q : fadd0_S.Y → Prop) : wpf te E_fred lamNil 1000 Try.f70 (fadd0_S.inp.inj x).tm (fadd0_S.inp.inj x).hp (fnK fadd0_S fadd0_sel Q) (fun _ _ => False) = (fadd0_T (x.1.1) (x.1.2.1) (x.1.2.2.1)).wpR Q := by kernel_rfl

theorem fadd0_main (pre : fadd0X → Bool) (F : fadd0X → OT fadd0_S.Y) (hF : ∀ (x : fadd0X) oy, pre x = true → (F x).run = some oy → (fadd0_T (x.1.1) (x.1.2.1) (x.1.2.2.1)).run = some oy) : SummOk Try.prog 70 (fadd0_S.summ pre F) :=
  fn_tree te_ok E_fred_ok E_fred_any (f := 70) (fn := Try.f70) (c := codeOf Try.f70) (by kernel_rfl) (by kernel_rfl) (by kernel_rfl) (S := fadd0_S) (k := 0) (by kernel_rfl) (fun R hR => lamOk_nil) (n := 1000) (sel := fadd0_sel) (fun v o h => by cases h; rfl) (pre := pre) (F := F) (T := fun x => fadd0_T (x.1.1) (x.1.2.1) (x.1.2.2.1)) (fun x Q => fadd0_q x Q) hF

theorem numOk_pos {n : NumX} (h : numOk n = true) : 0 < n.1.nat ∧ n.1.nat < 57896044618658097711785492504343953926634992332820282019728792003956564819968 := by
  rcases numOk_cases h with rfl | rfl | rfl | rfl
  · exact ⟨by decide +kernel, by decide +kernel⟩
  · exact ⟨by decide +kernel, by decide +kernel⟩
  · exact ⟨by decide +kernel, by decide +kernel⟩
  · exact ⟨by decide +kernel, by decide +kernel⟩

/-- The modulus of a sort. -/
def pS (s : Int) : Nat := (numOf s.toNat).1.nat
theorem pS_pos {s : Int} (h : sortOk s = true) : 0 < pS s ∧ pS s < 57896044618658097711785492504343953926634992332820282019728792003956564819968 := numOk_pos (numOk_of h)

/-- A sum, a negative, by a modulus. -/
def addP (p : Nat) (a b : Elem) : Elem := ofN ((a.nat + b.nat) % p)
def negP (p : Nat) (a : Elem) : Elem := ofN ((p - a.nat % p) % p)
def mulP (p : Nat) (a b : Elem) : Elem := ofN (a.nat * b.nat % p)

theorem rem_nat {p n : Nat} (h : 0 < p ∧ p < 57896044618658097711785492504343953926634992332820282019728792003956564819968) : (ofN (n % p)).nat = n % p := by
  have := Nat.mod_lt n h.1
  exact nat_ofN (by omega)

theorem addP_eq {p : Nat} (h : 0 < p ∧ p < 57896044618658097711785492504343953926634992332820282019728792003956564819968) (a b : Elem) : ofN ((wsum (ofN (a.nat % p)) (ofN (b.nat % p))).1.nat % p) = addP p a b := by
  have ha := Nat.mod_lt a.nat h.1
  have hb := Nat.mod_lt b.nat h.1
  have e : (wsum (ofN (a.nat % p)) (ofN (b.nat % p))).1.nat = a.nat % p + b.nat % p := by
    show (ofN _).nat = _
    rw [rem_nat h, rem_nat h]
    exact nat_ofN (by omega)
  unfold addP
  rw [e, ← Nat.add_mod]

def fadd0_pre (x : fadd0X) : Bool := numOk x.1.1
def fadd0_F (x : fadd0X) : OT fadd0_S.Y := .ok ⟨fadd0_o0, ((addP x.1.1.1.nat x.1.2.1 x.1.2.2.1, ()), ())⟩
theorem fadd0_ok : SummOk Try.prog 70 (fadd0_S.summ fadd0_pre fadd0_F) := fadd0_main _ _ fun x oy hp ho => by
  rw [← ho]
  clear ho
  obtain ⟨⟨n, a, b, ⟨⟩⟩, ⟨⟩⟩ := x
  have hp' : numOk n = true := hp
  refine (gd_run ?_).trans ?_
  · simp only [List.all_cons, List.all_nil, Bool.and_true, Bool.and_eq_true]
    exact ⟨hp', hp', hp'⟩
  · simp only [fadd0_F, addP_eq (numOk_pos hp')]

def fadd0_summ : Summ := (fadd0_S.summ fadd0_pre fadd0_F)
theorem fadd0_known : SummOk Try.prog 70 fadd0_summ := fadd0_ok
theorem fadd0_smono : MonoOk fadd0_summ := fn_mono

def E_fadd0 : Env := envCons 70 fadd0_summ E_fred
theorem E_fadd0_ok : EnvOk Try.prog E_fadd0 := envOk_cons fadd0_known E_fred_ok
theorem E_fadd0_mono : EnvMono E_fadd0 := envMono_cons fadd0_smono E_fred_mono
theorem E_fadd0_any : AnyOk Try.prog te E_fadd0 := any_ok follows te_ok E_fadd0_ok E_fadd0_mono

end Go.Proofs.Ytkngdfhigpjciaa

/- The function sigil/field.Add: what it makes of its arguments. No statement of a seat is proved here. -/
namespace Go.Proofs.Ytkngdfhigpjciaa
open Sx Go
set_option maxRecDepth 100000

def fadd_S : FnSpec := ⟨[.val false .int, .val true .elem, .val true .elem], [], true, 0, false⟩

abbrev faddX : Type := ((Int) × (Elem) × (Elem) × Unit) × (Unit)

def fadd_o0 : OutSh := ⟨[.val true .elem], [], false⟩

def fadd_sel : SV → Option OutSh := fun _ => some fadd_o0

def fadd_T (a0 : Int) (a1 : Elem) (a2 : Elem) : OT fadd_S.Y :=
  let z0 : Elem × Int × UInt64 × UInt64 × Elem := numOf (Int.toNat a0)
  (.br (sortOk a0)
  (gd [fadd0_pre ((z0, a1, a2, ()), ())] (.ok ⟨fadd_o0, ((addP (Elem.nat z0.fst) a1 a2, ()), ())⟩))
  (.ok ⟨fadd_o0, (({ w0 := (0 : UInt64), w1 := (0 : UInt64), w2 := (0 : UInt64), w3 := (0 : UInt64) }, ()), ())⟩))

theorem fadd_q (x : faddX) (Q : fadd_S.Y → Prop) : wpf te E_fadd0 lamNil 1000 Try.f69 (fadd_S.inp.inj x).tm (fadd_S.inp.inj x).hp (fnK fadd_S fadd_sel Q) (fun _ _ => False) = (fadd_T (x.1.1) (x.1.2.1) (x.1.2.2.1)).wpR Q := by kernel_rfl

theorem fadd_main (pre : faddX → Bool) (F : faddX → OT fadd_S.Y) (hF : ∀ (x : faddX) oy, pre x = true → (F x).run = some oy → (fadd_T (x.1.1) (x.1.2.1) (x.1.2.2.1)).run = some oy) : SummOk Try.prog 69 (fadd_S.summ pre F) :=
  fn_tree te_ok E_fadd0_ok E_fadd0_any (f := 69) (fn := Try.f69) (c := codeOf Try.f69) (by kernel_rfl) (by kernel_rfl) (by kernel_rfl) (S := fadd_S) (k := 0) (by kernel_rfl) (fun R hR => lamOk_nil) (n := 1000) (sel := fadd_sel) (fun v o h => by cases h; rfl) (pre := pre) (F := F) (T := fun x => fadd_T (x.1.1) (x.1.2.1) (x.1.2.2.1)) (fun x Q => fadd_q x Q) hF

def fadd_pre (_ : faddX) : Bool := true
def fadd_F (x : faddX) : OT fadd_S.Y := .br (sortOk x.1.1) (.ok ⟨fadd_o0, ((addP (pS x.1.1) x.1.2.1 x.1.2.2.1, ()), ())⟩) (.ok ⟨fadd_o0, ((⟨0, 0, 0, 0⟩, ()), ())⟩)
theorem fadd_ok : SummOk Try.prog 69 (fadd_S.summ fadd_pre fadd_F) := fadd_main _ _ fun x oy hp ho => by
  rw [← ho]
  clear ho
  obtain ⟨⟨s, a, b, ⟨⟩⟩, ⟨⟩⟩ := x
  cases hs : sortOk s
  · exact (OT.run_f hs).trans (OT.run_f (b := sortOk s) hs).symm
  · refine (OT.run_t hs).trans ((gd_run ?_).trans (OT.run_t (b := sortOk s) hs).symm)
    simp only [List.all_cons, List.all_nil, Bool.and_true]
    exact numOk_of hs

def fadd_summ : Summ := (fadd_S.summ fadd_pre fadd_F)
theorem fadd_known : SummOk Try.prog 69 fadd_summ := fadd_ok
theorem fadd_smono : MonoOk fadd_summ := fn_mono

def E_fadd : Env := envCons 69 fadd_summ E_fadd0
theorem E_fadd_ok : EnvOk Try.prog E_fadd := envOk_cons fadd_known E_fadd0_ok
theorem E_fadd_mono : EnvMono E_fadd := envMono_cons fadd_smono E_fadd0_mono
theorem E_fadd_any : AnyOk Try.prog te E_fadd := any_ok follows te_ok E_fadd_ok E_fadd_mono

end Go.Proofs.Ytkngdfhigpjciaa

/- The function sigil/sigilref00.CopyBytes: what it makes of its arguments. No statement of a seat is proved here. -/
namespace Go.Proofs.Ytkngdfhigpjciaa
open Sx Go
set_option maxRecDepth 100000

def ucopy_S : FnSpec := ⟨[.val false (.list .u8)], [], true, 0, false⟩

abbrev ucopyX : Type := ((List (UInt8)) × Unit) × (Unit)

def ucopy_o0 : OutSh := ⟨[.own 0], [(0, .row .u8)], false⟩

def ucopy_sel : SV → Option OutSh := fun _ => some ucopy_o0

def ucopy_T (a0 : List (UInt8)) : OT ucopy_S.Y :=
  (gd [decide (((0 : Nat) + List.length a0) * (1 : Nat) ≤ (140737488355328 : Nat))] (.ok ⟨ucopy_o0, (((), ()), ([] ++ a0, ()))⟩))

theorem ucopy_q (x : ucopyX) (Q : ucopy_S.Y → Prop) : wpf te E_fadd lamNil 1000 Try.f13 (ucopy_S.inp.inj x).tm (ucopy_S.inp.inj x).hp (fnK ucopy_S ucopy_sel Q) (fun _ _ => False) = (ucopy_T (x.1.1)).wpR Q := by kernel_rfl

theorem ucopy_main (pre : ucopyX → Bool) (F : ucopyX → OT ucopy_S.Y) (hF : ∀ (x : ucopyX) oy, pre x = true → (F x).run = some oy → (ucopy_T (x.1.1)).run = some oy) : SummOk Try.prog 13 (ucopy_S.summ pre F) :=
  fn_tree te_ok E_fadd_ok E_fadd_any (f := 13) (fn := Try.f13) (c := codeOf Try.f13) (by kernel_rfl) (by kernel_rfl) (by kernel_rfl) (S := ucopy_S) (k := 0) (by kernel_rfl) (fun R hR => lamOk_nil) (n := 1000) (sel := ucopy_sel) (fun v o h => by cases h; rfl) (pre := pre) (F := F) (T := fun x => ucopy_T (x.1.1)) (fun x Q => ucopy_q x Q) hF

def ucopy_pre (x : ucopyX) : Bool := decide (x.1.1.length ≤ 140737488355328)
def ucopy_F (x : ucopyX) : OT ucopy_S.Y := .ok ⟨ucopy_o0, (((), ()), (x.1.1, ()))⟩
theorem ucopy_ok : SummOk Try.prog 13 (ucopy_S.summ ucopy_pre ucopy_F) := ucopy_main _ _ fun x oy hp ho => by
  rw [← ho]
  have hp' : x.1.1.length ≤ 140737488355328 := of_decide_eq_true hp
  refine (gd_run ?_).trans rfl
  simp only [List.all_cons, List.all_nil, Bool.and_true]
  exact decide_eq_true (by omega)

def ucopy_summ : Summ := (ucopy_S.summ ucopy_pre ucopy_F)
theorem ucopy_known : SummOk Try.prog 13 ucopy_summ := ucopy_ok
theorem ucopy_smono : MonoOk ucopy_summ := fn_mono

def E_ucopy : Env := envCons 13 ucopy_summ E_fadd
theorem E_ucopy_ok : EnvOk Try.prog E_ucopy := envOk_cons ucopy_known E_fadd_ok
theorem E_ucopy_mono : EnvMono E_ucopy := envMono_cons ucopy_smono E_fadd_mono
theorem E_ucopy_any : AnyOk Try.prog te E_ucopy := any_ok follows te_ok E_ucopy_ok E_ucopy_mono

end Go.Proofs.Ytkngdfhigpjciaa

/- The function sigil/sigilref00.Spare: what it makes of its arguments. No statement of a seat is proved here. -/
namespace Go.Proofs.Ytkngdfhigpjciaa
open Sx Go
set_option maxRecDepth 100000

def uspare_S : FnSpec := ⟨[.val false (.list .u8)], [], true, 0, false⟩

abbrev uspareX : Type := ((List (UInt8)) × Unit) × (Unit)

def uspare_s0 : Shape := ⟨18, [(3, .own 0), (4, .val false .int)], [(0, .row .u8)], 0, true⟩

abbrev uspare_s0X : Type := ((Unit) × (Int) × Unit) × ((List (UInt8)) × Unit)

def uspare_e0_0 : Shape := ⟨18, [(3, .own 0)], [(0, .row .u8)], 0, true⟩

abbrev uspare_e0_0X : Type := ((Unit) × Unit) × ((List (UInt8)) × Unit)

def uspare_x0 : SE → Option Shape := xsMk [(0, uspare_e0_0)] none

def uspare_T0 (a4 : Int) (c0 : List (UInt8)) : OT (Sum uspare_s0X LEnd) :=
  (.br (decide (a4 < (8 : Int)))
  (gd [inR ((201 : Int) + a4), decide ((List.length c0 + (1 : Nat)) * (1 : Nat) ≤ (140737488355328 : Nat)), inR (a4 + (1 : Int))] (.ok (.inl (((), (a4 + (1 : Int), ())), (c0 ++ [i2b ((201 : Int) + a4)], ())))))
  (.ok (.inr ⟨(.exit 0, uspare_e0_0), (((), ()), (c0, ()))⟩)))

def uspare_U0 (s : uspare_s0X) : OT (Sum uspare_s0X LEnd) := uspare_T0 (s.1.2.1) (s.2.1)

theorem uspare_q0 (s : uspare_s0X) (Q : Sum uspare_s0X LEnd → Prop) : wps te E_ucopy lamNil 1000 (loopOf (codeOf Try.f8) 0) (uspare_s0.inj s) (stepK uspare_s0 uspare_x0 (Q : Sum uspare_s0.T LEnd → Prop)) = (uspare_U0 s).wpR Q := by kernel_rfl

def uspare_f0 (g0_0 : uspare_s0X → uspare_e0_0X) (s : uspare_s0X) : OT LEnd := (.ok ⟨(.exit 0, uspare_e0_0), g0_0 s⟩)

def uspare_o0 : OutSh := ⟨[.own 0], [(0, .row .u8)], false⟩

def uspare_sel : SV → Option OutSh := fun _ => some uspare_o0

def uspare_T (ok0 : uspare_s0X → Bool) (g0_0 : uspare_s0X → uspare_e0_0X) (a0 : List (UInt8)) : OT uspare_S.Y :=
  let z0 : (PUnit × Int × PUnit) × List UInt8 × PUnit := (((), (0 : Int), ()), a0, ())
  (gd [ucopy_pre ((a0, ()), ()), ok0 z0] (.ok ⟨uspare_o0, (((), ()), ((g0_0 z0).snd.fst, ()))⟩))

theorem uspare_q (ok0 : uspare_s0X → Bool) (g0_0 : uspare_s0X → uspare_e0_0X) (x : uspareX) (Q : uspare_S.Y → Prop) : wpf te E_ucopy (lamCons 0 (loopF uspare_s0 0 ok0 (uspare_f0 g0_0)) lamNil) 1000 Try.f8 (uspare_S.inp.inj x).tm (uspare_S.inp.inj x).hp (fnK uspare_S uspare_sel Q) (fun _ _ => False) = (uspare_T ok0 g0_0 (x.1.1)).wpR Q := by kernel_rfl

theorem uspare_main (ok0 : uspare_s0X → Bool) (g0_0 : uspare_s0X → uspare_e0_0X) (h0 : ∀ s : uspare_s0X, ok0 s = true → ∃ m e, loopRun (uspare_U0) m s = some e ∧ (uspare_f0 g0_0 s).run = some e) (pre : uspareX → Bool) (F : uspareX → OT uspare_S.Y) (hF : ∀ (x : uspareX) oy, pre x = true → (F x).run = some oy → (uspare_T ok0 g0_0 (x.1.1)).run = some oy) : SummOk Try.prog 8 (uspare_S.summ pre F) :=
  fn_tree te_ok E_ucopy_ok E_ucopy_any (f := 8) (fn := Try.f8) (c := codeOf Try.f8) (by kernel_rfl) (by kernel_rfl) (by kernel_rfl) (S := uspare_S) (k := 0) (by kernel_rfl) (fun R hR => (lamOk_cons (c := (codeOf Try.f8)) (by kernel_rfl) (id := 0) (by kernel_rfl) (loop_ok te_ok E_ucopy_ok E_ucopy_any (sh := uspare_s0) hR (xs := uspare_x0) (xsMk_small (by kernel_rfl) (by kernel_rfl) hR) xsMk_pan lamOk_nil (n := 1000) (T := uspare_U0) (fun s Q => uspare_q0 s Q) (ok := ok0) (f := uspare_f0 g0_0) h0) lamOk_nil)) (n := 1000) (sel := uspare_sel) (fun v o h => by cases h; rfl) (pre := pre) (F := F) (T := fun x => uspare_T ok0 g0_0 (x.1.1)) (fun x Q => uspare_q ok0 g0_0 x Q) hF

/-- Bytes with eight marks behind them. -/
def spareOf (b : List UInt8) : List UInt8 := upto (fun k l => l ++ [i2b (201 + (k : Int))]) b 8

def uspare_ok0 (s : uspare_s0X) : Bool := decide (s.1.2.1 = 0 ∧ s.2.1.length ≤ 140737488355320)
def uspare_g0 (s : uspare_s0X) : uspare_e0_0X := (((), ()), (spareOf s.2.1, ()))
theorem uspare_h0 : ∀ s : uspare_s0X, uspare_ok0 s = true → ∃ m e, loopRun uspare_U0 m s = some e ∧ (uspare_f0 uspare_g0 s).run = some e := by
  rintro ⟨⟨⟨⟩, i, ⟨⟩⟩, ⟨b, ⟨⟩⟩⟩ h
  have h' := of_decide_eq_true h
  dsimp only at h'
  obtain ⟨rfl, hl⟩ := h'
  have := (loop_upto (T := uspare_U0) (fun i l => ((((), (i : Int), ()), (l, ())) : uspare_s0X)) (fun k l => l ++ [i2b (201 + (k : Int))])
    (fun l => (⟨(.exit 0, uspare_e0_0), (((), ()), (l, ()))⟩ : LEnd)) 8 b (fun k l => l.length = b.length + k) rfl (fun i l hi hl' => ⟨?_, by simp [hl']; omega⟩) (fun l hl' => ?_)).1
  · obtain ⟨m, hm⟩ := this
    exact ⟨m, _, hm, rfl⟩
  · refine (OT.run_t (decide_eq_true (by dsimp only; omega))).trans ((gd_run ?_).trans rfl)
    simp only [hl', List.all_cons, List.all_nil, Bool.and_true, Bool.and_eq_true]
    exact ⟨inR_of (by omega), decide_eq_true (by omega), inR_of (by omega)⟩
  · exact OT.run_f (decide_eq_false (by dsimp only; omega))

def uspare_pre (x : uspareX) : Bool := decide (x.1.1.length ≤ 140737488355320)
def uspare_F (x : uspareX) : OT uspare_S.Y := .ok ⟨uspare_o0, (((), ()), (spareOf x.1.1, ()))⟩
theorem uspare_ok : SummOk Try.prog 8 (uspare_S.summ uspare_pre uspare_F) := uspare_main uspare_ok0 uspare_g0 uspare_h0 _ _ fun x oy hp ho => by
  rw [← ho]
  have hp' : x.1.1.length ≤ 140737488355320 := of_decide_eq_true hp
  refine (gd_run ?_).trans rfl
  simp only [List.all_cons, List.all_nil, Bool.and_true, Bool.and_eq_true]
  exact ⟨decide_eq_true (show x.1.1.length ≤ 140737488355328 by omega), decide_eq_true ⟨rfl, hp'⟩⟩

def uspare_summ : Summ := (uspare_S.summ uspare_pre uspare_F)
theorem uspare_known : SummOk Try.prog 8 uspare_summ := uspare_ok
theorem uspare_smono : MonoOk uspare_summ := fn_mono

def E_uspare : Env := envCons 8 uspare_summ E_ucopy
theorem E_uspare_ok : EnvOk Try.prog E_uspare := envOk_cons uspare_known E_ucopy_ok
theorem E_uspare_mono : EnvMono E_uspare := envMono_cons uspare_smono E_ucopy_mono
theorem E_uspare_any : AnyOk Try.prog te E_uspare := any_ok follows te_ok E_uspare_ok E_uspare_mono

end Go.Proofs.Ytkngdfhigpjciaa

/- The function sigil/sigilref00.SameBytes: what it makes of its arguments. No statement of a seat is proved here. -/
namespace Go.Proofs.Ytkngdfhigpjciaa
open Sx Go
set_option maxRecDepth 100000

def usame_S : FnSpec := ⟨[.val false (.list .u8), .val false (.list .u8)], [], true, 0, false⟩

abbrev usameX : Type := ((List (UInt8)) × (List (UInt8)) × Unit) × (Unit)

def usame_s0 : Shape := ⟨26, [(0, .val false (.list .u8)), (1, .val false (.list .u8)), (5, .val false .int)], [], 0, true⟩

abbrev usame_s0X : Type := ((List (UInt8)) × (List (UInt8)) × (Int) × Unit) × (Unit)

def usame_e0_r : Shape := ⟨26, [(4, .val false .bool)], [], 0, true⟩

abbrev usame_e0_rX : Type := ((Bool) × Unit) × (Unit)

def usame_e0_0 : Shape := ⟨26, [], [], 0, true⟩

abbrev usame_e0_0X : Type := (Unit) × (Unit)

def usame_x0 : SE → Option Shape := xsMk [(0, usame_e0_0)] (some usame_e0_r)

def usame_T0 (a0 : List (UInt8)) (a1 : List (UInt8)) (a5 : Int) : OT (Sum usame_s0X LEnd) :=
  let z0 : Nat := List.length a0
  let z1 : Nat := Int.toNat a5
  (.br (decide (a5 < (↑z0 : Int)))
  (gd [inB a5 z0, inB a5 (List.length a1)] (.br (!List.getD a0 z1 (0 : UInt8) == List.getD a1 z1 (0 : UInt8))
    (.ok (.inr ⟨(.ret, usame_e0_r), ((false, ()), ())⟩))
    (gd [inR (a5 + (1 : Int))] (.ok (.inl ((a0, (a1, (a5 + (1 : Int), ()))), ()))))))
  (.ok (.inr ⟨(.exit 0, usame_e0_0), ((), ())⟩)))

def usame_U0 (s : usame_s0X) : OT (Sum usame_s0X LEnd) := usame_T0 (s.1.1) (s.1.2.1) (s.1.2.2.1)

theorem usame_q0 (s : usame_s0X) (Q : Sum usame_s0X LEnd → Prop) : wps te E_uspare lamNil 1000 (loopOf (codeOf Try.f11) 0) (usame_s0.inj s) (stepK usame_s0 usame_x0 (Q : Sum usame_s0.T LEnd → Prop)) = (usame_U0 s).wpR Q := by kernel_rfl

def usame_f0 (g0_r : usame_s0X → usame_e0_rX) (c0_r : usame_s0X → Bool) (g0_0 : usame_s0X → usame_e0_0X) (s : usame_s0X) : OT LEnd := (.br (c0_r s) (.ok ⟨(.ret, usame_e0_r), g0_r s⟩) (.ok ⟨(.exit 0, usame_e0_0), g0_0 s⟩))

def usame_o0 : OutSh := ⟨[.val false .bool], [], false⟩

def usame_sel : SV → Option OutSh := fun _ => some usame_o0

def usame_T (ok0 : usame_s0X → Bool) (g0_r : usame_s0X → usame_e0_rX) (c0_r : usame_s0X → Bool) (g0_0 : usame_s0X → usame_e0_0X) (a0 : List (UInt8)) (a1 : List (UInt8)) : OT usame_S.Y :=
  let z0 : (List UInt8 × List UInt8 × Int × PUnit) × PUnit := ((a0, a1, (0 : Int), ()), ())
  (.br (!(↑(List.length a0) : Int) == (↑(List.length a1) : Int))
  (.ok ⟨usame_o0, ((false, ()), ())⟩)
  (gd [ok0 z0] (.br (c0_r z0)
    (.ok ⟨usame_o0, (((g0_r z0).fst.fst, ()), ())⟩)
    (.ok ⟨usame_o0, ((true, ()), ())⟩))))

theorem usame_q (ok0 : usame_s0X → Bool) (g0_r : usame_s0X → usame_e0_rX) (c0_r : usame_s0X → Bool) (g0_0 : usame_s0X → usame_e0_0X) (x : usameX) (Q : usame_S.Y → Prop) : wpf te E_uspare (lamCons 0 (loopF usame_s0 0 ok0 (usame_f0 g0_r c0_r g0_0)) lamNil) 1000 Try.f11 (usame_S.inp.inj x).tm (usame_S.inp.inj x).hp (fnK usame_S usame_sel Q) (fun _ _ => False) = (usame_T ok0 g0_r c0_r g0_0 (x.1.1) (x.1.2.1)).wpR Q := by kernel_rfl

theorem usame_main (ok0 : usame_s0X → Bool) (g0_r : usame_s0X → usame_e0_rX) (c0_r : usame_s0X → Bool) (g0_0 : usame_s0X → usame_e0_0X) (h0 : ∀ s : usame_s0X, ok0 s = true → ∃ m e, loopRun (usame_U0) m s = some e ∧ (usame_f0 g0_r c0_r g0_0 s).run = some e) (pre : usameX → Bool) (F : usameX → OT usame_S.Y) (hF : ∀ (x : usameX) oy, pre x = true → (F x).run = some oy → (usame_T ok0 g0_r c0_r g0_0 (x.1.1) (x.1.2.1)).run = some oy) : SummOk Try.prog 11 (usame_S.summ pre F) :=
  fn_tree te_ok E_uspare_ok E_uspare_any (f := 11) (fn := Try.f11) (c := codeOf Try.f11) (by kernel_rfl) (by kernel_rfl) (by kernel_rfl) (S := usame_S) (k := 0) (by kernel_rfl) (fun R hR => (lamOk_cons (c := (codeOf Try.f11)) (by kernel_rfl) (id := 0) (by kernel_rfl) (loop_ok te_ok E_uspare_ok E_uspare_any (sh := usame_s0) hR (xs := usame_x0) (xsMk_small (by kernel_rfl) (by kernel_rfl) hR) xsMk_pan lamOk_nil (n := 1000) (T := usame_U0) (fun s Q => usame_q0 s Q) (ok := ok0) (f := usame_f0 g0_r c0_r g0_0) h0) lamOk_nil)) (n := 1000) (sel := usame_sel) (fun v o h => by cases h; rfl) (pre := pre) (F := F) (T := fun x => usame_T ok0 g0_r c0_r g0_0 (x.1.1) (x.1.2.1)) (fun x Q => usame_q ok0 g0_r c0_r g0_0 x Q) hF

def usame_ok0 (s : usame_s0X) : Bool := decide (s.1.2.2.1 = 0 ∧ s.1.1.length = s.1.2.1.length ∧ s.1.1.length ≤ 140737488355328)
def usame_g0r (_ : usame_s0X) : usame_e0_rX := ((false, ()), ())
def usame_c0 (s : usame_s0X) : Bool := !decide (s.1.1 = s.1.2.1)
def usame_g0 (_ : usame_s0X) : usame_e0_0X := ((), ())

theorem usame_loop {a b : List UInt8} (hab : a.length = b.length) (hl : a.length ≤ 140737488355328) : ∀ d i, i + d = a.length →
    ∃ m, loopRun usame_U0 m ((a, b, (i : Int), ()), ()) = some (cond (decide (a.drop i = b.drop i)) ⟨(.exit 0, usame_e0_0), ((), ())⟩ ⟨(.ret, usame_e0_r), ((false, ()), ())⟩)
  | 0, i, h => by
    refine ⟨1, ?_⟩
    have h1 : a.drop i = [] := List.drop_eq_nil_of_le (by omega)
    have h2 : b.drop i = [] := List.drop_eq_nil_of_le (by omega)
    rw [h1, h2, decide_eq_true rfl]
    exact loopRun_out (OT.run_f (decide_eq_false (by dsimp only; omega)))
  | d + 1, i, h => by
    have hi : i < a.length := by omega
    have hi' : i < b.length := by omega
    have e1 : a.drop i = a[i] :: a.drop (i + 1) := List.drop_eq_getElem_cons hi
    have e2 : b.drop i = b[i] :: b.drop (i + 1) := List.drop_eq_getElem_cons hi'
    have g1 : a.getD i 0 = a[i] := by simp [List.getD_eq_getElem?_getD, hi]
    have g2 : b.getD i 0 = b[i] := by simp [List.getD_eq_getElem?_getD, hi']
    have hg : ∀ x : OT (Sum usame_s0X LEnd), (gd [inB (i : Int) a.length, inB (i : Int) b.length] x).run = x.run := fun x => gd_run (by simp only [List.all_cons, List.all_nil, Bool.and_true, Bool.and_eq_true]; exact ⟨inB_of (by omega), inB_of (by omega)⟩)
    by_cases hx : a[i] = b[i]
    · obtain ⟨m, hm⟩ := usame_loop hab hl d (i + 1) (by omega)
      refine ⟨m + 1, loopRun_more (s' := ((a, b, ((i + 1 : Nat) : Int), ()), ())) ?_ ?_⟩
      · refine (OT.run_t (decide_eq_true (by dsimp only; omega))).trans ((hg _).trans ((OT.run_f ?_).trans ((gd_run ?_).trans rfl)))
        · simp only [Int.toNat_natCast, g1, g2, hx]
          simp
        · simp only [List.all_cons, List.all_nil, Bool.and_true]
          exact inR_of (by omega)
      · rw [hm, e1, e2, hx]
        simp only [List.cons.injEq, true_and]
    · refine ⟨1, ?_⟩
      have : decide (a.drop i = b.drop i) = false := decide_eq_false (by rw [e1, e2]; intro h; exact hx (List.cons.inj h).1)
      rw [this]
      refine loopRun_out ((OT.run_t (decide_eq_true (by dsimp only; omega))).trans ((hg _).trans ((OT.run_t ?_).trans rfl)))
      simp only [Int.toNat_natCast, g1, g2]
      simp [hx]

theorem usame_h0 : ∀ s : usame_s0X, usame_ok0 s = true → ∃ m e, loopRun usame_U0 m s = some e ∧ (usame_f0 usame_g0r usame_c0 usame_g0 s).run = some e := by
  rintro ⟨⟨a, b, i, ⟨⟩⟩, ⟨⟩⟩ h
  have h' := of_decide_eq_true h
  dsimp only at h'
  obtain ⟨rfl, hab, hl⟩ := h'
  obtain ⟨m, hm⟩ := usame_loop hab hl a.length 0 (by omega)
  refine ⟨m, _, hm, ?_⟩
  simp only [List.drop_zero]
  by_cases hx : a = b
  · simp only [usame_f0, usame_c0, hx, decide_true, Bool.not_true]
    rfl
  · have : decide (a = b) = false := decide_eq_false hx
    simp only [usame_f0, usame_c0, this, Bool.not_false]
    rfl

def usame_pre (x : usameX) : Bool := decide (x.1.1.length ≤ 140737488355328)
def usame_F (x : usameX) : OT usame_S.Y := .ok ⟨usame_o0, ((decide (x.1.1 = x.1.2.1), ()), ())⟩
theorem usame_ok : SummOk Try.prog 11 (usame_S.summ usame_pre usame_F) := usame_main usame_ok0 usame_g0r usame_c0 usame_g0 usame_h0 _ _ fun x oy hp ho => by
  rw [← ho]
  clear ho
  obtain ⟨⟨a, b, ⟨⟩⟩, ⟨⟩⟩ := x
  have hp' : a.length ≤ 140737488355328 := of_decide_eq_true hp
  by_cases hab : a.length = b.length
  · refine (OT.run_f (by simp [hab])).trans ((gd_run ?_).trans ?_)
    · simp only [List.all_cons, List.all_nil, Bool.and_true]
      exact decide_eq_true ⟨rfl, hab, hp'⟩
    · by_cases hx : a = b
      · refine (OT.run_f (by simp [usame_c0, hx])).trans ?_
        simp only [usame_F, hx, decide_true]
      · refine (OT.run_t (by simp [usame_c0, hx])).trans ?_
        have : decide (a = b) = false := decide_eq_false hx
        simp only [usame_F, this]
        rfl
  · refine (OT.run_t (by simp; omega)).trans ?_
    have : decide (a = b) = false := decide_eq_false fun e => hab (by rw [e])
    simp only [usame_F, this]

def usame_summ : Summ := (usame_S.summ usame_pre usame_F)
theorem usame_known : SummOk Try.prog 11 usame_summ := usame_ok
theorem usame_smono : MonoOk usame_summ := fn_mono

def E_usame : Env := envCons 11 usame_summ E_uspare
theorem E_usame_ok : EnvOk Try.prog E_usame := envOk_cons usame_known E_uspare_ok
theorem E_usame_mono : EnvMono E_usame := envMono_cons usame_smono E_uspare_mono
theorem E_usame_any : AnyOk Try.prog te E_usame := any_ok follows te_ok E_usame_ok E_usame_mono

end Go.Proofs.Ytkngdfhigpjciaa

/- The function sigil/sigilref03.iv: what it makes of its arguments. No statement of a seat is proved here. -/
namespace Go.Proofs.Ytkngdfhigpjciaa
open Sx Go
set_option maxRecDepth 100000

def riv_S : FnSpec := ⟨[], [], true, 0, false⟩

abbrev rivX : Type := (Unit) × (Unit)

def riv_o0 : OutSh := ⟨[.val true (.arr 8 .u64)], [], false⟩

def riv_sel : SV → Option OutSh := fun _ => some riv_o0

def riv_T : OT riv_S.Y :=
  (.ok ⟨riv_o0, (([(7640891576956012808 : UInt64), (13503953896175478587 : UInt64), (4354685564936845355 : UInt64), (11912009170470909681 : UInt64), (5840696475078001361 : UInt64), (11170449401992604703 : UInt64), (2270897969802886507 : UInt64), (6620516959819538809 : UInt64)], ()), ())⟩)

theorem riv_q (x : rivX) (Q : riv_S.Y → Prop) : wpf te E_usame lamNil 1000 Try.f20 (riv_S.inp.inj x).tm (riv_S.inp.inj x).hp (fnK riv_S riv_sel Q) (fun _ _ => False) = (riv_T).wpR Q := by kernel_rfl

theorem riv_main (pre : rivX → Bool) (F : rivX → OT riv_S.Y) (hF : ∀ (x : rivX) oy, pre x = true → (F x).run = some oy → (riv_T).run = some oy) : SummOk Try.prog 20 (riv_S.summ pre F) :=
  fn_tree te_ok E_usame_ok E_usame_any (f := 20) (fn := Try.f20) (c := codeOf Try.f20) (by kernel_rfl) (by kernel_rfl) (by kernel_rfl) (S := riv_S) (k := 0) (by kernel_rfl) (fun R hR => lamOk_nil) (n := 1000) (sel := riv_sel) (fun v o h => by cases h; rfl) (pre := pre) (F := F) (T := fun x => riv_T) (fun x Q => riv_q x Q) hF

def riv_pre (_ : rivX) : Bool := true
def riv_F (_ : rivX) : OT riv_S.Y := .ok ⟨riv_o0, ((bIV, ()), ())⟩
theorem riv_ok : SummOk Try.prog 20 (riv_S.summ riv_pre riv_F) := riv_main _ _ fun x oy _ ho => ho

def riv_summ : Summ := (riv_S.summ riv_pre riv_F)
theorem riv_known : SummOk Try.prog 20 riv_summ := riv_ok
theorem riv_smono : MonoOk riv_summ := fn_mono

def E_riv : Env := envCons 20 riv_summ E_usame
theorem E_riv_ok : EnvOk Try.prog E_riv := envOk_cons riv_known E_usame_ok
theorem E_riv_mono : EnvMono E_riv := envMono_cons riv_smono E_usame_mono
theorem E_riv_any : AnyOk Try.prog te E_riv := any_ok follows te_ok E_riv_ok E_riv_mono

end Go.Proofs.Ytkngdfhigpjciaa

/- The function sigil/sigilref03.word: what it makes of its arguments. No statement of a seat is proved here. -/
namespace Go.Proofs.Ytkngdfhigpjciaa
open Sx Go
set_option maxRecDepth 100000

def rword_S : FnSpec := ⟨[.val false (.list .u8), .val false .int], [], true, 0, false⟩

abbrev rwordX : Type := ((List (UInt8)) × (Int) × Unit) × (Unit)

def rword_s0 : Shape := ⟨29, [(0, .val false (.list .u8)), (1, .val false .int), (5, .val false .u64), (6, .val false .int)], [], 0, true⟩

abbrev rword_s0X : Type := ((List (UInt8)) × (Int) × (UInt64) × (Int) × Unit) × (Unit)

def rword_e0_0 : Shape := ⟨29, [(5, .val false .u64)], [], 0, true⟩

abbrev rword_e0_0X : Type := ((UInt64) × Unit) × (Unit)

def rword_x0 : SE → Option Shape := xsMk [(0, rword_e0_0)] none

def rword_T0 (a0 : List (UInt8)) (a1 : Int) (a5 : UInt64) (a6 : Int) : OT (Sum rword_s0X LEnd) :=
  let z0 : Bool := inR (a1 + a6)
  let z1 : Nat := List.length a0
  let z2 : Bool := inR (a6 - (1 : Int))
  (.br (decide ((0 : Int) ≤ a6))
  (gd [z0] (.br (decide (a1 + a6 < (↑z1 : Int)))
    (gd [z0, inB (a1 + a6) z1, z2] (.ok (.inl ((a0, (a1, (a5 * (256 : UInt64) + UInt8.toUInt64 (List.getD a0 (Int.toNat (a1 + a6)) (0 : UInt8)), (a6 - (1 : Int), ())))), ()))))
    (gd [z2] (.ok (.inl ((a0, (a1, (a5 * (256 : UInt64), (a6 - (1 : Int), ())))), ()))))))
  (.ok (.inr ⟨(.exit 0, rword_e0_0), ((a5, ()), ())⟩)))

def rword_U0 (s : rword_s0X) : OT (Sum rword_s0X LEnd) := rword_T0 (s.1.1) (s.1.2.1) (s.1.2.2.1) (s.1.2.2.2.1)

theorem rword_q0 (s : rword_s0X) (Q : Sum rword_s0X LEnd → Prop) : wps te E_riv lamNil 1000 (loopOf (codeOf Try.f21) 0) (rword_s0.inj s) (stepK rword_s0 rword_x0 (Q : Sum rword_s0.T LEnd → Prop)) = (rword_U0 s).wpR Q := by kernel_rfl

def rword_f0 (g0_0 : rword_s0X → rword_e0_0X) (s : rword_s0X) : OT LEnd := (.ok ⟨(.exit 0, rword_e0_0), g0_0 s⟩)

def rword_o0 : OutSh := ⟨[.val false .u64], [], false⟩

def rword_sel : SV → Option OutSh := fun _ => some rword_o0

def rword_T (ok0 : rword_s0X → Bool) (g0_0 : rword_s0X → rword_e0_0X) (a0 : List (UInt8)) (a1 : Int) : OT rword_S.Y :=
  let z0 : (List UInt8 × Int × UInt64 × Int × PUnit) × PUnit := ((a0, a1, (0 : UInt64), (7 : Int), ()), ())
  (gd [ok0 z0] (.ok ⟨rword_o0, (((g0_0 z0).fst.fst, ()), ())⟩))

theorem rword_q (ok0 : rword_s0X → Bool) (g0_0 : rword_s0X → rword_e0_0X) (x : rwordX) (Q : rword_S.Y → Prop) : wpf te E_riv (lamCons 0 (loopF rword_s0 0 ok0 (rword_f0 g0_0)) lamNil) 1000 Try.f21 (rword_S.inp.inj x).tm (rword_S.inp.inj x).hp (fnK rword_S rword_sel Q) (fun _ _ => False) = (rword_T ok0 g0_0 (x.1.1) (x.1.2.1)).wpR Q := by kernel_rfl

theorem rword_main (ok0 : rword_s0X → Bool) (g0_0 : rword_s0X → rword_e0_0X) (h0 : ∀ s : rword_s0X, ok0 s = true → ∃ m e, loopRun (rword_U0) m s = some e ∧ (rword_f0 g0_0 s).run = some e) (pre : rwordX → Bool) (F : rwordX → OT rword_S.Y) (hF : ∀ (x : rwordX) oy, pre x = true → (F x).run = some oy → (rword_T ok0 g0_0 (x.1.1) (x.1.2.1)).run = some oy) : SummOk Try.prog 21 (rword_S.summ pre F) :=
  fn_tree te_ok E_riv_ok E_riv_any (f := 21) (fn := Try.f21) (c := codeOf Try.f21) (by kernel_rfl) (by kernel_rfl) (by kernel_rfl) (S := rword_S) (k := 0) (by kernel_rfl) (fun R hR => (lamOk_cons (c := (codeOf Try.f21)) (by kernel_rfl) (id := 0) (by kernel_rfl) (loop_ok te_ok E_riv_ok E_riv_any (sh := rword_s0) hR (xs := rword_x0) (xsMk_small (by kernel_rfl) (by kernel_rfl) hR) xsMk_pan lamOk_nil (n := 1000) (T := rword_U0) (fun s Q => rword_q0 s Q) (ok := ok0) (f := rword_f0 g0_0) h0) lamOk_nil)) (n := 1000) (sel := rword_sel) (fun v o h => by cases h; rfl) (pre := pre) (F := F) (T := fun x => rword_T ok0 g0_0 (x.1.1) (x.1.2.1)) (fun x Q => rword_q ok0 g0_0 x Q) hF

/-- Eight bytes as a word; those that aren't there are 0. -/
def refWord (b : List UInt8) (p : Nat) : UInt64 := upto (fun k v => v * 256 + UInt8.toUInt64 (b.getD (p + (7 - k)) 0)) 0 8

def rword_ok0 (s : rword_s0X) : Bool := decide (s.1.2.2.1 = 0 ∧ s.1.2.2.2.1 = 7 ∧ 0 ≤ s.1.2.1 ∧ s.1.2.1 ≤ 1000000000000)
def rword_g0 (s : rword_s0X) : rword_e0_0X := ((refWord s.1.1 s.1.2.1.toNat, ()), ())
theorem rword_h0 : ∀ s : rword_s0X, rword_ok0 s = true → ∃ m e, loopRun rword_U0 m s = some e ∧ (rword_f0 rword_g0 s).run = some e := by
  rintro ⟨⟨b, p, v, i, ⟨⟩⟩, ⟨⟩⟩ h
  have h' := of_decide_eq_true h
  dsimp only at h'
  obtain ⟨rfl, rfl, hp0, hp⟩ := h'
  obtain ⟨p, rfl⟩ : ∃ q : Nat, p = (q : Int) := ⟨p.toNat, by omega⟩
  have := (loop_upto (T := rword_U0) (fun k v => (((b, (p : Int), v, 7 - (k : Int), ()), ()) : rword_s0X)) (fun k v => v * 256 + UInt8.toUInt64 (b.getD (p + (7 - k)) 0))
    (fun v => (⟨(.exit 0, rword_e0_0), ((v, ()), ())⟩ : LEnd)) 8 0 (fun _ _ => True) trivial (fun k v hk _ => ⟨?_, trivial⟩) (fun v _ => ?_)).1
  · obtain ⟨m, hm⟩ := this
    exact ⟨m, _, hm, rfl⟩
  · have e1 : ((p : Int) + (7 - (k : Int))).toNat = p + (7 - k) := by omega
    have e2 : (7 : Int) - ((k : Int)) - 1 = 7 - ((k + 1 : Nat) : Int) := by omega
    refine (OT.run_t (decide_eq_true (by dsimp only; omega))).trans ((gd_run ?_).trans ?_)
    · simp only [List.all_cons, List.all_nil, Bool.and_true]
      exact inR_of (by omega)
    · by_cases hx : (p : Int) + (7 - (k : Int)) < (b.length : Int)
      · refine (OT.run_t (decide_eq_true hx)).trans ((gd_run ?_).trans ?_)
        · simp only [List.all_cons, List.all_nil, Bool.and_true, Bool.and_eq_true]
          exact ⟨inR_of (by omega), inB_of (by omega), inR_of (by omega)⟩
        · simp only [OT.run_ok, e1, e2]
      · refine (OT.run_f (decide_eq_false hx)).trans ((gd_run ?_).trans ?_)
        · simp only [List.all_cons, List.all_nil, Bool.and_true]
          exact inR_of (by omega)
        · have e3 : b.getD (p + (7 - k)) 0 = 0 := by
            rw [List.getD_eq_getElem?_getD, List.getElem?_eq_none (by omega)]; rfl
          have e4 : v * 256 + UInt8.toUInt64 0 = v * 256 := by
            show v * 256 + 0 = v * 256
            rw [UInt64.add_zero]
          simp only [OT.run_ok, e2, e3, e4]
  · exact OT.run_f (decide_eq_false (by dsimp only; omega))

def rword_pre (x : rwordX) : Bool := decide (0 ≤ x.1.2.1 ∧ x.1.2.1 ≤ 1000000000000)
def rword_F (x : rwordX) : OT rword_S.Y := .ok ⟨rword_o0, ((refWord x.1.1 x.1.2.1.toNat, ()), ())⟩
theorem rword_ok : SummOk Try.prog 21 (rword_S.summ rword_pre rword_F) := rword_main rword_ok0 rword_g0 rword_h0 _ _ fun x oy hp ho => by
  rw [← ho]
  have hp' := of_decide_eq_true hp
  refine (gd_run ?_).trans rfl
  simp only [List.all_cons, List.all_nil, Bool.and_true]
  exact decide_eq_true ⟨rfl, rfl, hp'.1, hp'.2⟩

def rword_summ : Summ := (rword_S.summ rword_pre rword_F)
theorem rword_known : SummOk Try.prog 21 rword_summ := rword_ok
theorem rword_smono : MonoOk rword_summ := fn_mono

def E_rword : Env := envCons 21 rword_summ E_riv
theorem E_rword_ok : EnvOk Try.prog E_rword := envOk_cons rword_known E_riv_ok
theorem E_rword_mono : EnvMono E_rword := envMono_cons rword_smono E_riv_mono
theorem E_rword_any : AnyOk Try.prog te E_rword := any_ok follows te_ok E_rword_ok E_rword_mono

end Go.Proofs.Ytkngdfhigpjciaa

/- The function sigil/sigilref03.rows: what it makes of its arguments. No statement of a seat is proved here. -/
namespace Go.Proofs.Ytkngdfhigpjciaa
open Sx Go
set_option maxRecDepth 100000

def rrows_S : FnSpec := ⟨[], [], true, 0, false⟩

abbrev rrowsX : Type := (Unit) × (Unit)

def rrows_o0 : OutSh := ⟨[.val true (.arr 10 (.arr 16 .int))], [], false⟩

def rrows_sel : SV → Option OutSh := fun _ => some rrows_o0

def rrows_T : OT rrows_S.Y :=
  (.ok ⟨rrows_o0, (([[(0 : Int), (1 : Int), (2 : Int), (3 : Int), (4 : Int), (5 : Int), (6 : Int), (7 : Int), (8 : Int), (9 : Int), (10 : Int), (11 : Int), (12 : Int), (13 : Int), (14 : Int), (15 : Int)], [(14 : Int), (10 : Int), (4 : Int), (8 : Int), (9 : Int), (15 : Int), (13 : Int), (6 : Int), (1 : Int), (12 : Int), (0 : Int), (2 : Int), (11 : Int), (7 : Int), (5 : Int), (3 : Int)], [(11 : Int), (8 : Int), (12 : Int), (0 : Int), (5 : Int), (2 : Int), (15 : Int), (13 : Int), (10 : Int), (14 : Int), (3 : Int), (6 : Int), (7 : Int), (1 : Int), (9 : Int), (4 : Int)], [(7 : Int), (9 : Int), (3 : Int), (1 : Int), (13 : Int), (12 : Int), (11 : Int), (14 : Int), (2 : Int), (6 : Int), (5 : Int), (10 : Int), (4 : Int), (0 : Int), (15 : Int), (8 : Int)], [(9 : Int), (0 : Int), (5 : Int), (7 : Int), (2 : Int), (4 : Int), (10 : Int), (15 : Int), (14 : Int), (1 : Int), (11 : Int), (12 : Int), (6 : Int), (8 : Int), (3 : Int), (13 : Int)], [(2 : Int), (12 : Int), (6 : Int), (10 : Int), (0 : Int), (11 : Int), (8 : Int), (3 : Int), (4 : Int), (13 : Int), (7 : Int), (5 : Int), (15 : Int), (14 : Int), (1 : Int), (9 : Int)], [(12 : Int), (5 : Int), (1 : Int), (15 : Int), (14 : Int), (13 : Int), (4 : Int), (10 : Int), (0 : Int), (7 : Int), (6 : Int), (3 : Int), (9 : Int), (2 : Int), (8 : Int), (11 : Int)], [(13 : Int), (11 : Int), (7 : Int), (14 : Int), (12 : Int), (1 : Int), (3 : Int), (9 : Int), (5 : Int), (0 : Int), (15 : Int), (4 : Int), (8 : Int), (6 : Int), (2 : Int), (10 : Int)], [(6 : Int), (15 : Int), (14 : Int), (9 : Int), (11 : Int), (3 : Int), (0 : Int), (8 : Int), (12 : Int), (2 : Int), (13 : Int), (7 : Int), (1 : Int), (4 : Int), (10 : Int), (5 : Int)], [(10 : Int), (2 : Int), (8 : Int), (4 : Int), (7 : Int), (6 : Int), (1 : Int), (5 : Int), (15 : Int), (11 : Int), (9 : Int), (14 : Int), (3 : Int), (12 : Int), (13 : Int), (0 : Int)]], ()), ())⟩)

theorem rrows_q (x : rrowsX) (Q : rrows_S.Y → Prop) : wpf te E_rword lamNil 1000 Try.f32 (rrows_S.inp.inj x).tm (rrows_S.inp.inj x).hp (fnK rrows_S rrows_sel Q) (fun _ _ => False) = (rrows_T).wpR Q := by kernel_rfl

theorem rrows_main (pre : rrowsX → Bool) (F : rrowsX → OT rrows_S.Y) (hF : ∀ (x : rrowsX) oy, pre x = true → (F x).run = some oy → (rrows_T).run = some oy) : SummOk Try.prog 32 (rrows_S.summ pre F) :=
  fn_tree te_ok E_rword_ok E_rword_any (f := 32) (fn := Try.f32) (c := codeOf Try.f32) (by kernel_rfl) (by kernel_rfl) (by kernel_rfl) (S := rrows_S) (k := 0) (by kernel_rfl) (fun R hR => lamOk_nil) (n := 1000) (sel := rrows_sel) (fun v o h => by cases h; rfl) (pre := pre) (F := F) (T := fun x => rrows_T) (fun x Q => rrows_q x Q) hF

def bRows : List (List Int) := [[0, 1, 2, 3, 4, 5, 6, 7, 8, 9, 10, 11, 12, 13, 14, 15],
  [14, 10, 4, 8, 9, 15, 13, 6, 1, 12, 0, 2, 11, 7, 5, 3],
  [11, 8, 12, 0, 5, 2, 15, 13, 10, 14, 3, 6, 7, 1, 9, 4],
  [7, 9, 3, 1, 13, 12, 11, 14, 2, 6, 5, 10, 4, 0, 15, 8],
  [9, 0, 5, 7, 2, 4, 10, 15, 14, 1, 11, 12, 6, 8, 3, 13],
  [2, 12, 6, 10, 0, 11, 8, 3, 4, 13, 7, 5, 15, 14, 1, 9],
  [12, 5, 1, 15, 14, 13, 4, 10, 0, 7, 6, 3, 9, 2, 8, 11],
  [13, 11, 7, 14, 12, 1, 3, 9, 5, 0, 15, 4, 8, 6, 2, 10],
  [6, 15, 14, 9, 11, 3, 0, 8, 12, 2, 13, 7, 1, 4, 10, 5],
  [10, 2, 8, 4, 7, 6, 1, 5, 15, 11, 9, 14, 3, 12, 13, 0]]
def rrows_pre (_ : rrowsX) : Bool := true
def rrows_F (_ : rrowsX) : OT rrows_S.Y := .ok ⟨rrows_o0, ((bRows, ()), ())⟩
theorem rrows_ok : SummOk Try.prog 32 (rrows_S.summ rrows_pre rrows_F) := rrows_main _ _ fun x oy _ ho => ho

def rrows_summ : Summ := (rrows_S.summ rrows_pre rrows_F)
theorem rrows_known : SummOk Try.prog 32 rrows_summ := rrows_ok
theorem rrows_smono : MonoOk rrows_summ := fn_mono

def E_rrows : Env := envCons 32 rrows_summ E_rword
theorem E_rrows_ok : EnvOk Try.prog E_rrows := envOk_cons rrows_known E_rword_ok
theorem E_rrows_mono : EnvMono E_rrows := envMono_cons rrows_smono E_rword_mono
theorem E_rrows_any : AnyOk Try.prog te E_rrows := any_ok follows te_ok E_rrows_ok E_rrows_mono

end Go.Proofs.Ytkngdfhigpjciaa

/- The function sigil/sigilref03.turn: what it makes of its arguments. No statement of a seat is proved here. -/
namespace Go.Proofs.Ytkngdfhigpjciaa
open Sx Go
set_option maxRecDepth 100000

def rturn_S : FnSpec := ⟨[.val false .u64, .val false .u64], [], true, 0, false⟩

abbrev rturnX : Type := ((UInt64) × (UInt64) × Unit) × (Unit)

def rturn_o0 : OutSh := ⟨[.val false .u64], [], false⟩

def rturn_sel : SV → Option OutSh := fun _ => some rturn_o0

def rturn_T (a0 : UInt64) (a1 : UInt64) : OT rturn_S.Y :=
  (.ok ⟨rturn_o0, ((shr64 a0 (↑(UInt64.toNat a1) : Int) ||| shl64 a0 (↑(UInt64.toNat ((64 : UInt64) - a1)) : Int), ()), ())⟩)

theorem rturn_q (x : rturnX) (Q : rturn_S.Y → Prop) : wpf te E_rrows lamNil 1000 Try.f41 (rturn_S.inp.inj x).tm (rturn_S.inp.inj x).hp (fnK rturn_S rturn_sel Q) (fun _ _ => False) = (rturn_T (x.1.1) (x.1.2.1)).wpR Q := by kernel_rfl

theorem rturn_main (pre : rturnX → Bool) (F : rturnX → OT rturn_S.Y) (hF : ∀ (x : rturnX) oy, pre x = true → (F x).run = some oy → (rturn_T (x.1.1) (x.1.2.1)).run = some oy) : SummOk Try.prog 41 (rturn_S.summ pre F) :=
  fn_tree te_ok E_rrows_ok E_rrows_any (f := 41) (fn := Try.f41) (c := codeOf Try.f41) (by kernel_rfl) (by kernel_rfl) (by kernel_rfl) (S := rturn_S) (k := 0) (by kernel_rfl) (fun R hR => lamOk_nil) (n := 1000) (sel := rturn_sel) (fun v o h => by cases h; rfl) (pre := pre) (F := F) (T := fun x => rturn_T (x.1.1) (x.1.2.1)) (fun x Q => rturn_q x Q) hF

def turnR (a n : UInt64) : UInt64 := shr64 a (UInt64.toNat n : Int) ||| shl64 a (UInt64.toNat (64 - n) : Int)
def rturn_pre (_ : rturnX) : Bool := true
def rturn_F (x : rturnX) : OT rturn_S.Y := .ok ⟨rturn_o0, ((turnR x.1.1 x.1.2.1, ()), ())⟩
theorem rturn_ok : SummOk Try.prog 41 (rturn_S.summ rturn_pre rturn_F) := rturn_main _ _ fun x oy _ ho => ho

def rturn_summ : Summ := (rturn_S.summ rturn_pre rturn_F)
theorem rturn_known : SummOk Try.prog 41 rturn_summ := rturn_ok
theorem rturn_smono : MonoOk rturn_summ := fn_mono

def E_rturn : Env := envCons 41 rturn_summ E_rrows
theorem E_rturn_ok : EnvOk Try.prog E_rturn := envOk_cons rturn_known E_rrows_ok
theorem E_rturn_mono : EnvMono E_rturn := envMono_cons rturn_smono E_rrows_mono
theorem E_rturn_any : AnyOk Try.prog te E_rturn := any_ok follows te_ok E_rturn_ok E_rturn_mono

end Go.Proofs.Ytkngdfhigpjciaa

/- The function sigil/sigilref03.mix: what it makes of its arguments. No statement of a seat is proved here. -/
namespace Go.Proofs.Ytkngdfhigpjciaa
open Sx Go
set_option maxRecDepth 100000

def rmix_S : FnSpec := ⟨[.val true (.arr 16 .u64), .val false .int, .val false .int, .val false .int, .val false .int, .val false .u64, .val false .u64], [], true, 0, false⟩

abbrev rmixX : Type := ((List (UInt64)) × (Int) × (Int) × (Int) × (Int) × (UInt64) × (UInt64) × Unit) × (Unit)

def rmix_o0 : OutSh := ⟨[.val true (.arr 16 .u64)], [], false⟩

def rmix_sel : SV → Option OutSh := fun _ => some rmix_o0

def rmix_T (a0 : List (UInt64)) (a1 : Int) (a2 : Int) (a3 : Int) (a4 : Int) (a5 : UInt64) (a6 : UInt64) : OT rmix_S.Y :=
  let z0 : Bool := inB a1 (16 : Nat)
  let z1 : List UInt64 := tab a0 (16 : Nat) (0 : UInt64)
  let z2 : Nat := List.length z1
  let z3 : Bool := decide (Int.toNat a1 + (0 : Nat) < z2)
  let z4 : Bool := inB a2 (16 : Nat)
  let z5 : Bool := inB a4 (16 : Nat)
  let z6 : List UInt64 := List.set z1 (Int.toNat a1 + (0 : Nat)) (List.getD z1 (Int.toNat a1 + (0 : Nat)) (0 : UInt64) + List.getD z1 (Int.toNat a2 + (0 : Nat)) (0 : UInt64) + a5)
  let z7 : Nat := List.length z6
  let z8 : Bool := decide (Int.toNat a4 + (0 : Nat) < z7)
  let z9 : Bool := inB a3 (16 : Nat)
  let z10 : List UInt64 := List.set z6 (Int.toNat a4 + (0 : Nat)) (turnR (List.getD z6 (Int.toNat a4 + (0 : Nat)) (0 : UInt64) ^^^ List.getD z6 (Int.toNat a1 + (0 : Nat)) (0 : UInt64)) (32 : UInt64))
  let z11 : Nat := List.length z10
  let z12 : Bool := decide (Int.toNat a3 + (0 : Nat) < z11)
  let z13 : List UInt64 := List.set z10 (Int.toNat a3 + (0 : Nat)) (List.getD z10 (Int.toNat a3 + (0 : Nat)) (0 : UInt64) + List.getD z10 (Int.toNat a4 + (0 : Nat)) (0 : UInt64))
  let z14 : Nat := List.length z13
  let z15 : Bool := decide (Int.toNat a2 + (0 : Nat) < z14)
  let z16 : List UInt64 := List.set z13 (Int.toNat a2 + (0 : Nat)) (turnR (List.getD z13 (Int.toNat a2 + (0 : Nat)) (0 : UInt64) ^^^ List.getD z13 (Int.toNat a3 + (0 : Nat)) (0 : UInt64)) (24 : UInt64))
  let z17 : Nat := List.length z16
  let z18 : Bool := decide (Int.toNat a1 + (0 : Nat) < z17)
  let z19 : List UInt64 := List.set z16 (Int.toNat a1 + (0 : Nat)) (List.getD z16 (Int.toNat a1 + (0 : Nat)) (0 : UInt64) + List.getD z16 (Int.toNat a2 + (0 : Nat)) (0 : UInt64) + a6)
  let z20 : Nat := List.length z19
  let z21 : Bool := decide (Int.toNat a4 + (0 : Nat) < z20)
  let z22 : List UInt64 := List.set z19 (Int.toNat a4 + (0 : Nat)) (turnR (List.getD z19 (Int.toNat a4 + (0 : Nat)) (0 : UInt64) ^^^ List.getD z19 (Int.toNat a1 + (0 : Nat)) (0 : UInt64)) (16 : UInt64))
  let z23 : Nat := List.length z22
  let z24 : Bool := decide (Int.toNat a3 + (0 : Nat) < z23)
  let z25 : List UInt64 := List.set z22 (Int.toNat a3 + (0 : Nat)) (List.getD z22 (Int.toNat a3 + (0 : Nat)) (0 : UInt64) + List.getD z22 (Int.toNat a4 + (0 : Nat)) (0 : UInt64))
  let z26 : Nat := List.length z25
  let z27 : Bool := decide (Int.toNat a2 + (0 : Nat) < z26)
  let z28 : List UInt64 := List.set z25 (Int.toNat a2 + (0 : Nat)) (turnR (List.getD z25 (Int.toNat a2 + (0 : Nat)) (0 : UInt64) ^^^ List.getD z25 (Int.toNat a3 + (0 : Nat)) (0 : UInt64)) (63 : UInt64))
  (gd [z0, z3, z4, decide (Int.toNat a2 + (0 : Nat) < z2), z0, z3, z5, z8, z0, decide (Int.toNat a1 + (0 : Nat) < z7), z5, z8, z9, z12, z5, decide (Int.toNat a4 + (0 : Nat) < z11), z9, z12, z4, z15, z9, decide (Int.toNat a3 + (0 : Nat) < z14), z4, z15, z0, z18, z4, decide (Int.toNat a2 + (0 : Nat) < z17), z0, z18, z5, z21, z0, decide (Int.toNat a1 + (0 : Nat) < z20), z5, z21, z9, z24, z5, decide (Int.toNat a4 + (0 : Nat) < z23), z9, z24, z4, z27, z9, decide (Int.toNat a3 + (0 : Nat) < z26), z4, z27, decide ((16 : Nat) ≤ List.length z28)] (.ok ⟨rmix_o0, ((tab z28 (16 : Nat) (0 : UInt64), ()), ())⟩))

theorem rmix_q (x : rmixX) (Q : rmix_S.Y → Prop) : wpf te E_rturn lamNil 1000 Try.f33 (rmix_S.inp.inj x).tm (rmix_S.inp.inj x).hp (fnK rmix_S rmix_sel Q) (fun _ _ => False) = (rmix_T (x.1.1) (x.1.2.1) (x.1.2.2.1) (x.1.2.2.2.1) (x.1.2.2.2.2.1) (x.1.2.2.2.2.2.1) (x.1.2.2.2.2.2.2.1)).wpR Q := by kernel_rfl

theorem rmix_main (pre : rmixX → Bool) (F : rmixX → OT rmix_S.Y) (hF : ∀ (x : rmixX) oy, pre x = true → (F x).run = some oy → (rmix_T (x.1.1) (x.1.2.1) (x.1.2.2.1) (x.1.2.2.2.1) (x.1.2.2.2.2.1) (x.1.2.2.2.2.2.1) (x.1.2.2.2.2.2.2.1)).run = some oy) : SummOk Try.prog 33 (rmix_S.summ pre F) :=
  fn_tree te_ok E_rturn_ok E_rturn_any (f := 33) (fn := Try.f33) (c := codeOf Try.f33) (by kernel_rfl) (by kernel_rfl) (by kernel_rfl) (S := rmix_S) (k := 0) (by kernel_rfl) (fun R hR => lamOk_nil) (n := 1000) (sel := rmix_sel) (fun v o h => by cases h; rfl) (pre := pre) (F := F) (T := fun x => rmix_T (x.1.1) (x.1.2.1) (x.1.2.2.1) (x.1.2.2.2.1) (x.1.2.2.2.2.1) (x.1.2.2.2.2.2.1) (x.1.2.2.2.2.2.2.1)) (fun x Q => rmix_q x Q) hF

theorem turn32 (a : UInt64) : turnR a 32 = rotl a (-32) := by
  unfold turnR rotl
  rw [show (UInt64.toNat (i2u (-32) &&& 63) : Int) = 32 from by decide, show (UInt64.toNat (64 - (i2u (-32) &&& 63)) : Int) = 32 from by decide, show (UInt64.toNat 32 : Int) = 32 from by decide, show (UInt64.toNat (64 - 32) : Int) = 32 from by decide, UInt64.or_comm]
theorem turn24 (a : UInt64) : turnR a 24 = rotl a (-24) := by
  unfold turnR rotl
  rw [show (UInt64.toNat (i2u (-24) &&& 63) : Int) = 40 from by decide, show (UInt64.toNat (64 - (i2u (-24) &&& 63)) : Int) = 24 from by decide, show (UInt64.toNat 24 : Int) = 24 from by decide, show (UInt64.toNat (64 - 24) : Int) = 40 from by decide, UInt64.or_comm]
theorem turn16 (a : UInt64) : turnR a 16 = rotl a (-16) := by
  unfold turnR rotl
  rw [show (UInt64.toNat (i2u (-16) &&& 63) : Int) = 48 from by decide, show (UInt64.toNat (64 - (i2u (-16) &&& 63)) : Int) = 16 from by decide, show (UInt64.toNat 16 : Int) = 16 from by decide, show (UInt64.toNat (64 - 16) : Int) = 48 from by decide, UInt64.or_comm]
theorem turn63 (a : UInt64) : turnR a 63 = rotl a (-63) := by
  unfold turnR rotl
  rw [show (UInt64.toNat (i2u (-63) &&& 63) : Int) = 1 from by decide, show (UInt64.toNat (64 - (i2u (-63) &&& 63)) : Int) = 63 from by decide, show (UInt64.toNat 63 : Int) = 63 from by decide, show (UInt64.toNat (64 - 63) : Int) = 1 from by decide, UInt64.or_comm]

def rmix_pre (x : rmixX) : Bool := inB x.1.2.1 16 && inB x.1.2.2.1 16 && inB x.1.2.2.2.1 16 && inB x.1.2.2.2.2.1 16 && decide (x.1.1.length = 16)
def rmix_F (x : rmixX) : OT rmix_S.Y := .ok ⟨rmix_o0, ((gmix x.1.1 x.1.2.1.toNat x.1.2.2.1.toNat x.1.2.2.2.1.toNat x.1.2.2.2.2.1.toNat x.1.2.2.2.2.2.1 x.1.2.2.2.2.2.2.1, ()), ())⟩
theorem rmix_ok : SummOk Try.prog 33 (rmix_S.summ rmix_pre rmix_F) := rmix_main _ _ fun x oy hp ho => by
  rw [← ho]
  clear ho
  obtain ⟨⟨v, a, b, c, d, x, y, ⟨⟩⟩, ⟨⟩⟩ := x
  simp only [rmix_pre, Bool.and_eq_true, decide_eq_true_eq] at hp
  obtain ⟨⟨⟨⟨ha, hb⟩, hc⟩, hd⟩, hv⟩ := hp
  have na := inB_lt ha
  have nb := inB_lt hb
  have nc := inB_lt hc
  have nd := inB_lt hd
  have t1 : tab v 16 0 = v := tab_eq hv
  refine (gd_run ?_).trans ?_
  · simp only [t1, List.length_set, hv, ha, hb, hc, hd, Nat.add_zero, na, nb, nc, nd, Nat.le_refl, decide_true, List.all_cons, List.all_nil, Bool.and_self]
  · have hl : (gmix v a.toNat b.toNat c.toNat d.toNat x y).length = 16 := by rw [gmix_length]; exact hv
    simp only [t1, turn32, turn24, turn16, turn63, UInt64.add_assoc, Nat.add_zero]
    exact congrArg (fun l => some (⟨rmix_o0, ((l, ()), ())⟩ : rmix_S.Y)) (tab_eq hl)

def rmix_summ : Summ := (rmix_S.summ rmix_pre rmix_F)
theorem rmix_known : SummOk Try.prog 33 rmix_summ := rmix_ok
theorem rmix_smono : MonoOk rmix_summ := fn_mono

def E_rmix : Env := envCons 33 rmix_summ E_rturn
theorem E_rmix_ok : EnvOk Try.prog E_rmix := envOk_cons rmix_known E_rturn_ok
theorem E_rmix_mono : EnvMono E_rmix := envMono_cons rmix_smono E_rturn_mono
theorem E_rmix_any : AnyOk Try.prog te E_rmix := any_ok follows te_ok E_rmix_ok E_rmix_mono

end Go.Proofs.Ytkngdfhigpjciaa
