/- A symbolic machine for Go code over plain data, and functions of the program as it shows them. No statement is proved in this file. -/
import Derived.KernelRfl
import Derived.Test.YtkedomfjjahjnaaXd
set_option linter.unusedSimpArgs false
set_option linter.unusedVariables false
set_option linter.unusedSectionVars false

namespace Go.Proofs.Ytkedomfjjahjnaa
open Sx Go
set_option maxRecDepth 100000
def iI : aq := ⟨[.val false .int, .val true (.prod .elem (.prod .elem .bool)), .val true (.prod .elem (.prod .elem .bool))], [], true, 0, false⟩
abbrev FZ : Type := ((Int) × ((aa × (aa × Bool))) × ((aa × (aa × Bool))) × Unit) × (Unit)
def kF : ay := ⟨[.val true (.prod .elem (.prod .elem .bool))], [], false⟩
def Lm : SV → Option ay := fun _ => some kF
def PD (a0 : Int) (a1 : (aa × (aa × Bool))) (a2 : (aa × (aa × Bool))) : OT iI.Y :=
  let z0 : aa × PUnit := (a1.snd.fst, ())
  let z1 : aa × PUnit := (a1.fst, ())
  let z2 : aa := { w0 := 0, w1 := 0, w2 := 0, w3 := 0 }
  let z3 : aa := { w0 := 3, w1 := 0, w2 := 0, w3 := 0 }
  let z4 : Nat := pS a0
  let z5 : aa := aQ z4 a1.fst a1.fst
  let z6 : aa := aQ z4 z3 z5
  let z7 : aa := n0 z4 a1.snd.fst a1.snd.fst
  let z8 : aa := byP z4 z6 z7
  let z9 : aa := aQ z4 z8 z8
  let z10 : aa := eZ z4 z9 a1.fst
  let z11 : aa × PUnit := (a2.fst, ())
  let z12 : aa := eZ z4 z10 a2.fst
  let z13 : aa := eZ z4 a1.fst z12
  let z14 : aa := aQ z4 z8 z13
  let z15 : aa := eZ z4 a2.snd.fst a1.snd.fst
  let z16 : aa := eZ z4 a2.fst a1.fst
  let z17 : aa := byP z4 z15 z16
  let z18 : aa := aQ z4 z17 z17
  let z19 : aa := eZ z4 z18 a1.fst
  let z20 : aa := eZ z4 z19 a2.fst
  let z21 : aa := eZ z4 a1.fst z20
  let z22 : aa := aQ z4 z17 z21
  (.br (a1.snd.snd)
  (.ok ⟨kF, ((a2, ()), ())⟩)
  (.br (a2.snd.snd)
    (.ok ⟨kF, ((a1, ()), ())⟩)
    (gd [ec ((a0, a2.snd.fst, z0), ()), ec ((a0, a2.fst, z1), ())] (.br (a1.fst.w0 == a2.fst.w0 && (a1.fst.w1 == a2.fst.w1 && (a1.fst.w2 == a2.fst.w2 && (a1.fst.w3 == a2.fst.w3 && true))))
      (.br (!(a1.snd.fst.w0 == a2.snd.fst.w0 && (a1.snd.fst.w1 == a2.snd.fst.w1 && (a1.snd.fst.w2 == a2.snd.fst.w2 && (a1.snd.fst.w3 == a2.snd.fst.w3 && true)))))
        (.ok ⟨kF, (((z2, z2, true), ()), ())⟩)
        (gd [bX ((a0, a1.fst, z1), ()), bX ((a0, z3, z5, ()), ()), lK ((a0, a1.snd.fst, z0), ()), AY ((a0, z6, z7, ()), ()), bX ((a0, z8, z8, ()), ()), ec ((a0, z9, z1), ()), ec ((a0, z10, z11), ()), ec ((a0, a1.fst, z12, ()), ()), bX ((a0, z8, z13, ()), ()), ec ((a0, z14, z0), ())] (.ok ⟨kF, (((z12, eZ z4 z14 a1.snd.fst, false), ()), ())⟩)))
      (gd [AY ((a0, z15, z16, ()), ()), bX ((a0, z17, z17, ()), ()), ec ((a0, z18, z1), ()), ec ((a0, z19, z11), ()), ec ((a0, a1.fst, z20, ()), ()), bX ((a0, z17, z21, ()), ()), ec ((a0, z22, z0), ())] (.ok ⟨kF, (((z20, eZ z4 z22 a1.snd.fst, false), ()), ())⟩))))))
theorem ak8 (x : FZ) (Q : iI.Y → Prop) : wpf te OJ ax 1000 Try.f55 (iI.inp.inj x).tm (iI.inp.inj x).hp (fnK iI Lm Q) (fun _ _ => False) = (PD (x.1.1) (x.1.2.1) (x.1.2.2.1)).wpR Q := by kernel_rfl
theorem WL (pre : FZ → Bool) (F : FZ → OT iI.Y) (hF : ∀ (x : FZ) oy, pre x = true → (F x).run = some oy → (PD (x.1.1) (x.1.2.1) (x.1.2.2.1)).run = some oy) : ab Try.prog 55 (iI.aK pre F) :=
  aD av Em Ze (f := 55) (fn := Try.f55) (c := ak Try.f55) (by kernel_rfl) (by kernel_rfl) (by kernel_rfl) (S := iI) (k := 0) (by kernel_rfl) (fun R hR => ae) (n := 1000) (sel := Lm) (fun v o h => by cases h; rfl) (pre := pre) (F := F) (T := fun x => PD (x.1.1) (x.1.2.1) (x.1.2.2.1)) (fun x Q => ak8 x Q) hF
def xV (p : Nat) (X Y X2 s : aa) : Pt := (eZ p (eZ p (aQ p s s) X) X2, eZ p (aQ p s (eZ p X (eZ p (eZ p (aQ p s s) X) X2))) Y, false)
def dS (p : Nat) (P Q : Pt) : Pt := cond P.2.2 Q (cond Q.2.2 P (cond (eqE P.1 Q.1)
  (cond (eqE P.2.1 Q.2.1) (xV p P.1 P.2.1 Q.1 (byP p (aQ p ⟨3, 0, 0, 0⟩ (aQ p P.1 P.1)) (n0 p P.2.1 P.2.1))) aC)
  (xV p P.1 P.2.1 Q.1 (byP p (eZ p Q.2.1 P.2.1) (eZ p Q.1 P.1)))))
def oo (x : FZ) : Bool := aj x.1.1
def aby (x : FZ) : OT iI.Y := .ok ⟨kF, ((dS (pS x.1.1) x.1.2.1 x.1.2.2.1, ()), ())⟩
theorem agC : ab Try.prog 55 (iI.aK oo aby) := WL _ _ fun x oy hp ho => by
  rw [← ho]
  clear ho
  obtain ⟨⟨c, ⟨X, Y, i⟩, ⟨X2, Y2, i2⟩, ⟨⟩⟩, ⟨⟩⟩ := x
  have hs : aj c = true := hp
  show _ = (OT.ok ⟨kF, ((dS (pS c) (X, Y, i) (X2, Y2, i2), ()), ())⟩ : OT iI.Y).run
  cases i
  · refine (OT.ap rfl).trans ?_
    cases i2
    · refine (OT.ap rfl).trans ((ai ?_).trans ?_)
      · simp only [List.all_cons, List.all_nil, Bool.and_true, Bool.and_eq_true]
        exact ⟨hs, hs⟩
      · rcases (Bool.eq_false_or_eq_true (eqE X X2)).symm with h | h
        · have e : dS (pS c) (X, Y, false) (X2, Y2, false) = xV (pS c) X Y X2 (byP (pS c) (eZ (pS c) Y2 Y) (eZ (pS c) X2 X)) := by unfold dS; simp only [cond_false, h]
          rw [e]
          refine (OT.ap h).trans ((ai ?_).trans rfl)
          simp only [List.all_cons, List.all_nil, Bool.and_true, Bool.and_eq_true]
          exact ⟨hs, hs, hs, hs, hs, hs, hs⟩
        · refine (OT.ao h).trans ?_
          rcases (Bool.eq_false_or_eq_true (eqE Y Y2)).symm with h2 | h2
          · have e : dS (pS c) (X, Y, false) (X2, Y2, false) = aC := by unfold dS; simp only [cond_false, cond_true, h, h2]
            rw [e]
            exact OT.ao (b := !eqE Y Y2) (by rw [h2]; rfl)
          · have e : dS (pS c) (X, Y, false) (X2, Y2, false) = xV (pS c) X Y X2 (byP (pS c) (aQ (pS c) ⟨3, 0, 0, 0⟩ (aQ (pS c) X X)) (n0 (pS c) Y Y)) := by unfold dS; simp only [cond_false, cond_true, h, h2]
            rw [e]
            refine (OT.ap (b := !eqE Y Y2) (by rw [h2]; rfl)).trans ((ai ?_).trans rfl)
            simp only [List.all_cons, List.all_nil, Bool.and_true, Bool.and_eq_true]
            exact ⟨hs, hs, hs, hs, hs, hs, hs, hs, hs, hs⟩
    · have e : dS (pS c) (X, Y, false) (X2, Y2, true) = (X, Y, false) := by unfold dS; simp only [cond_false, cond_true]
      rw [e]
      exact OT.ao rfl
  · have e : dS (pS c) (X, Y, true) (X2, Y2, i2) = (X2, Y2, i2) := by unfold dS; simp only [cond_true]
    rw [e]
    exact OT.ao rfl
def wP : cI := (iI.aK oo aby)
theorem PC : ab Try.prog 55 wP := agC
theorem PB : aJ wP := aA
def El : Env := az 55 wP OJ
theorem yJ : aV Try.prog El := ag PC Em
theorem zK : aw El := ac PB En
theorem SA : bg Try.prog te El := aN follows av yJ zK
def iK : aq := ⟨[.val false .int, .val true (.prod .elem (.prod .elem .bool)), .val true (.prod .elem (.prod .elem .bool))], [], true, 0, false⟩
abbrev F5 : Type := ((Int) × ((aa × (aa × Bool))) × ((aa × (aa × Bool))) × Unit) × (Unit)
def qo : ay := ⟨[.val true (.prod .elem (.prod .elem .bool))], [], false⟩
def Ly : SV → Option ay := fun _ => some qo
def PP (a0 : Int) (a1 : (aa × (aa × Bool))) (a2 : (aa × (aa × Bool))) : OT iK.Y :=
  let z0 : aa := { w0 := 0, w1 := 0, w2 := 0, w3 := 0 }
  let z1 : aa × aa × Bool := (z0, z0, true)
  (.br (!onB a0 a1)
  (.ok ⟨qo, ((z1, ()), ())⟩)
  (.br (!onB a0 a2)
    (.ok ⟨qo, ((z1, ()), ())⟩)
    (gd [oo ((a0, a1, a2, ()), ())] (.ok ⟨qo, ((dS (pS a0) a1 a2, ()), ())⟩))))
theorem ald (x : F5) (Q : iK.Y → Prop) : wpf te El ax 1000 Try.f26 (iK.inp.inj x).tm (iK.inp.inj x).hp (fnK iK Ly Q) (fun _ _ => False) = (PP (x.1.1) (x.1.2.1) (x.1.2.2.1)).wpR Q := by kernel_rfl
theorem WS (pre : F5 → Bool) (F : F5 → OT iK.Y) (hF : ∀ (x : F5) oy, pre x = true → (F x).run = some oy → (PP (x.1.1) (x.1.2.1) (x.1.2.2.1)).run = some oy) : ab Try.prog 26 (iK.aK pre F) :=
  aD av yJ SA (f := 26) (fn := Try.f26) (c := ak Try.f26) (by kernel_rfl) (by kernel_rfl) (by kernel_rfl) (S := iK) (k := 0) (by kernel_rfl) (fun R hR => ae) (n := 1000) (sel := Ly) (fun v o h => by cases h; rfl) (pre := pre) (F := F) (T := fun x => PP (x.1.1) (x.1.2.1) (x.1.2.2.1)) (fun x Q => ald x Q) hF
def Au (c : Int) (P Q : Pt) : Pt := cond (onB c P) (cond (onB c Q) (dS (pS c) P Q) aC) aC
def Lz (_ : F5) : Bool := true
def abM (x : F5) : OT iK.Y := .ok ⟨qo, ((Au x.1.1 x.1.2.1 x.1.2.2.1, ()), ())⟩
theorem agO : ab Try.prog 26 (iK.aK Lz abM) := WS _ _ fun x oy _ ho => by
  rw [← ho]
  clear ho
  obtain ⟨⟨c, P, Q, ⟨⟩⟩, ⟨⟩⟩ := x
  show _ = (OT.ok ⟨qo, ((Au c P Q, ()), ())⟩ : OT iK.Y).run
  rcases (Bool.eq_false_or_eq_true (onB c P)).symm with h1 | h1
  · have e : Au c P Q = aC := by unfold Au; rw [h1]; rfl
    rw [e]
    exact OT.ao (b := !onB c P) (by rw [h1]; rfl)
  · have hs := mZ h1
    refine (OT.ap (b := !onB c P) (by rw [h1]; rfl)).trans ?_
    rcases (Bool.eq_false_or_eq_true (onB c Q)).symm with h2 | h2
    · have e : Au c P Q = aC := by unfold Au; rw [h1, h2]; rfl
      rw [e]
      exact OT.ao (b := !onB c Q) (by rw [h2]; rfl)
    · have e : Au c P Q = dS (pS c) P Q := by unfold Au; rw [h1, h2]; rfl
      rw [e]
      refine (OT.ap (b := !onB c Q) (by rw [h2]; rfl)).trans ((ai ?_).trans rfl)
      simp only [List.all_cons, List.all_nil, Bool.and_true]
      exact hs
def wV : cI := (iK.aK Lz abM)
theorem PO : ab Try.prog 26 wV := agO
theorem PN : aJ wV := aA
def tj : Env := az 26 wV El
theorem my : aV Try.prog tj := ag PO yJ
theorem zN : aw tj := ac PN zK
theorem th : bg Try.prog te tj := aN follows av my zN
def iJ : aq := ⟨[.val false .int, .val true .elem, .val true (.prod .elem (.prod .elem .bool))], [], true, 0, false⟩
abbrev F2 : Type := ((Int) × (aa) × ((aa × (aa × Bool))) × Unit) × (Unit)
def ur : Shape := ⟨60, [(0, .val false .int), (4, .ptr 0 0 0), (5, .ptr 1 0 0), (6, .ptr 2 0 0), (7, .ptr 3 0 0), (8, .val false .int)], [(0, .row .u64), (1, .cells [.val false .u64, .val false .u64, .val false .u64, .val false .u64, .val false .u64, .val false .u64, .val false .u64, .val false .u64, .val false .bool]), (2, .cells [.val false .u64, .val false .u64, .val false .u64, .val false .u64, .val false .u64, .val false .u64, .val false .u64, .val false .u64, .val false .bool]), (3, .cells [.val false .u64, .val false .u64, .val false .u64, .val false .u64, .val false .u64, .val false .u64, .val false .u64, .val false .u64, .val false .bool])], 0, true⟩
abbrev cz : Type := ((Int) × (Unit) × (Unit) × (Unit) × (Unit) × (Int) × Unit) × ((List (UInt64)) × ((UInt64) × (UInt64) × (UInt64) × (UInt64) × (UInt64) × (UInt64) × (UInt64) × (UInt64) × (Bool) × Unit) × ((UInt64) × (UInt64) × (UInt64) × (UInt64) × (UInt64) × (UInt64) × (UInt64) × (UInt64) × (Bool) × Unit) × ((UInt64) × (UInt64) × (UInt64) × (UInt64) × (UInt64) × (UInt64) × (UInt64) × (UInt64) × (Bool) × Unit) × Unit)
def lA : Shape := ⟨60, [(0, .val false .int), (4, .ptr 0 0 0), (5, .ptr 1 0 0), (6, .ptr 2 0 0), (7, .ptr 3 0 0), (8, .val false .int)], [(0, .row .u64), (1, .cells [.val false .u64, .val false .u64, .val false .u64, .val false .u64, .val false .u64, .val false .u64, .val false .u64, .val false .u64, .val false .bool]), (2, .cells [.val false .u64, .val false .u64, .val false .u64, .val false .u64, .val false .u64, .val false .u64, .val false .u64, .val false .u64, .val false .bool]), (3, .cells [.val false .u64, .val false .u64, .val false .u64, .val false .u64, .val false .u64, .val false .u64, .val false .u64, .val false .u64, .val false .bool])], 0, true⟩
abbrev jH : Type := ((Int) × (Unit) × (Unit) × (Unit) × (Unit) × (Int) × Unit) × ((List (UInt64)) × ((UInt64) × (UInt64) × (UInt64) × (UInt64) × (UInt64) × (UInt64) × (UInt64) × (UInt64) × (Bool) × Unit) × ((UInt64) × (UInt64) × (UInt64) × (UInt64) × (UInt64) × (UInt64) × (UInt64) × (UInt64) × (Bool) × Unit) × ((UInt64) × (UInt64) × (UInt64) × (UInt64) × (UInt64) × (UInt64) × (UInt64) × (UInt64) × (Bool) × Unit) × Unit)
def T9 : SE → Option Shape := ku [(0, lA)] none
def agK (a0 : Int) (a8 : Int) (c0 : List (UInt64)) (c1_0 : UInt64) (c1_1 : UInt64) (c1_2 : UInt64) (c1_3 : UInt64) (c1_4 : UInt64) (c1_5 : UInt64) (c1_6 : UInt64) (c1_7 : UInt64) (c1_8 : Bool) (c2_0 : UInt64) (c2_1 : UInt64) (c2_2 : UInt64) (c2_3 : UInt64) (c2_4 : UInt64) (c2_5 : UInt64) (c2_6 : UInt64) (c2_7 : UInt64) (c2_8 : Bool) (c3_0 : UInt64) (c3_1 : UInt64) (c3_2 : UInt64) (c3_3 : UInt64) (c3_4 : UInt64) (c3_5 : UInt64) (c3_6 : UInt64) (c3_7 : UInt64) (c3_8 : Bool) : OT (Sum cz aO) :=
  let z0 : Int := Int.tdiv a8 (64 : Int)
  (.br (decide ((0 : Int) ≤ a8))
  (gd [true && inR z0, inB z0 4, decide (Int.toNat z0 + 0 < List.length c0)] (.br (bu (List.getD c0 (Int.toNat z0 + 0) (0 : UInt64)) (↑(UInt64.toNat (i2u (Int.tmod a8 (64 : Int)))) : Int) &&& (1 : UInt64) == (0 : UInt64))
    (gd [inR (a8 - (1 : Int))] (.ok (.inl ((a0, ((), ((), ((), ((), (a8 - (1 : Int), ())))))), (c0, ((c1_0, (c1_1, (c1_2, (c1_3, (c1_4, (c1_5, (c1_6, (c1_7, (c1_8, ()))))))))), ((c2_0, (c2_1, (c2_2, (c2_3, (c2_4, (c2_5, (c2_6, (c2_7, (c2_8, ()))))))))), ((c3_0, (c3_1, (c3_2, (c3_3, (c3_4, (c3_5, (c3_6, (c3_7, (c3_8, ()))))))))), ()))))))))
    (.ok (.inr ⟨(.exit 0, lA), ((a0, ((), ((), ((), ((), (a8, ())))))), (c0, ((c1_0, (c1_1, (c1_2, (c1_3, (c1_4, (c1_5, (c1_6, (c1_7, (c1_8, ()))))))))), ((c2_0, (c2_1, (c2_2, (c2_3, (c2_4, (c2_5, (c2_6, (c2_7, (c2_8, ()))))))))), ((c3_0, (c3_1, (c3_2, (c3_3, (c3_4, (c3_5, (c3_6, (c3_7, (c3_8, ()))))))))), ())))))⟩))))
  (.ok (.inr ⟨(.exit 0, lA), ((a0, ((), ((), ((), ((), (a8, ())))))), (c0, ((c1_0, (c1_1, (c1_2, (c1_3, (c1_4, (c1_5, (c1_6, (c1_7, (c1_8, ()))))))))), ((c2_0, (c2_1, (c2_2, (c2_3, (c2_4, (c2_5, (c2_6, (c2_7, (c2_8, ()))))))))), ((c3_0, (c3_1, (c3_2, (c3_3, (c3_4, (c3_5, (c3_6, (c3_7, (c3_8, ()))))))))), ())))))⟩)))
def uv (s : cz) : OT (Sum cz aO) := agK (s.1.1) (s.1.2.2.2.2.2.1) (s.2.1) (s.2.2.1.1) (s.2.2.1.2.1) (s.2.2.1.2.2.1) (s.2.2.1.2.2.2.1) (s.2.2.1.2.2.2.2.1) (s.2.2.1.2.2.2.2.2.1) (s.2.2.1.2.2.2.2.2.2.1) (s.2.2.1.2.2.2.2.2.2.2.1) (s.2.2.1.2.2.2.2.2.2.2.2.1) (s.2.2.2.1.1) (s.2.2.2.1.2.1) (s.2.2.2.1.2.2.1) (s.2.2.2.1.2.2.2.1) (s.2.2.2.1.2.2.2.2.1) (s.2.2.2.1.2.2.2.2.2.1) (s.2.2.2.1.2.2.2.2.2.2.1) (s.2.2.2.1.2.2.2.2.2.2.2.1) (s.2.2.2.1.2.2.2.2.2.2.2.2.1) (s.2.2.2.2.1.1) (s.2.2.2.2.1.2.1) (s.2.2.2.2.1.2.2.1) (s.2.2.2.2.1.2.2.2.1) (s.2.2.2.2.1.2.2.2.2.1) (s.2.2.2.2.1.2.2.2.2.2.1) (s.2.2.2.2.1.2.2.2.2.2.2.1) (s.2.2.2.2.1.2.2.2.2.2.2.2.1) (s.2.2.2.2.1.2.2.2.2.2.2.2.2.1)
theorem agF (s : cz) (Q : Sum cz aO → Prop) : wps te tj ax 1000 (bG (ak Try.f16) 0) (ur.inj s) (cU ur T9 (Q : Sum ur.T aO → Prop)) = (uv s).wpR Q := by kernel_rfl
def AS (g0_0 : cz → jH) (s : cz) : OT aO := (.ok ⟨(.exit 0, lA), g0_0 s⟩)
def uq : Shape := ⟨60, [(0, .val false .int), (4, .ptr 0 0 0), (5, .ptr 1 0 0), (6, .ptr 2 0 0), (7, .ptr 3 0 0), (9, .val false .int)], [(0, .row .u64), (1, .cells [.val false .u64, .val false .u64, .val false .u64, .val false .u64, .val false .u64, .val false .u64, .val false .u64, .val false .u64, .val false .bool]), (2, .cells [.val false .u64, .val false .u64, .val false .u64, .val false .u64, .val false .u64, .val false .u64, .val false .u64, .val false .u64, .val false .bool]), (3, .cells [.val false .u64, .val false .u64, .val false .u64, .val false .u64, .val false .u64, .val false .u64, .val false .u64, .val false .u64, .val false .bool])], 0, true⟩
abbrev cJ : Type := ((Int) × (Unit) × (Unit) × (Unit) × (Unit) × (Int) × Unit) × ((List (UInt64)) × ((UInt64) × (UInt64) × (UInt64) × (UInt64) × (UInt64) × (UInt64) × (UInt64) × (UInt64) × (Bool) × Unit) × ((UInt64) × (UInt64) × (UInt64) × (UInt64) × (UInt64) × (UInt64) × (UInt64) × (UInt64) × (Bool) × Unit) × ((UInt64) × (UInt64) × (UInt64) × (UInt64) × (UInt64) × (UInt64) × (UInt64) × (UInt64) × (Bool) × Unit) × Unit)
def ql : Shape := ⟨60, [(6, .ptr 0 0 0), (7, .ptr 1 0 0)], [(0, .cells [.val false .u64, .val false .u64, .val false .u64, .val false .u64, .val false .u64, .val false .u64, .val false .u64, .val false .u64, .val false .bool]), (1, .cells [.val false .u64, .val false .u64, .val false .u64, .val false .u64, .val false .u64, .val false .u64, .val false .u64, .val false .u64, .val false .bool])], 0, true⟩
abbrev jG : Type := ((Unit) × (Unit) × Unit) × (((UInt64) × (UInt64) × (UInt64) × (UInt64) × (UInt64) × (UInt64) × (UInt64) × (UInt64) × (Bool) × Unit) × ((UInt64) × (UInt64) × (UInt64) × (UInt64) × (UInt64) × (UInt64) × (UInt64) × (UInt64) × (Bool) × Unit) × Unit)
def T8 : SE → Option Shape := ku [(2, ql)] none
def agJ (a0 : Int) (a9 : Int) (c0 : List (UInt64)) (c1_0 : UInt64) (c1_1 : UInt64) (c1_2 : UInt64) (c1_3 : UInt64) (c1_4 : UInt64) (c1_5 : UInt64) (c1_6 : UInt64) (c1_7 : UInt64) (c1_8 : Bool) (c2_0 : UInt64) (c2_1 : UInt64) (c2_2 : UInt64) (c2_3 : UInt64) (c2_4 : UInt64) (c2_5 : UInt64) (c2_6 : UInt64) (c2_7 : UInt64) (c2_8 : Bool) (c3_0 : UInt64) (c3_1 : UInt64) (c3_2 : UInt64) (c3_3 : UInt64) (c3_4 : UInt64) (c3_5 : UInt64) (c3_6 : UInt64) (c3_7 : UInt64) (c3_8 : Bool) : OT (Sum cJ aO) :=
  let z0 : aa × aa × Bool := ({ w0 := c3_0, w1 := c3_1, w2 := c3_2, w3 := c3_3 }, { w0 := c3_4, w1 := c3_5, w2 := c3_6, w3 := c3_7 }, c3_8)
  let z1 : Int := Int.tdiv a9 (64 : Int)
  let z2 : Nat := pS a0
  let z3 : aa × aa × Bool := dS z2 z0 z0
  let z4 : aa × aa × Bool := ({ w0 := c1_0, w1 := c1_1, w2 := c1_2, w3 := c1_3 }, { w0 := c1_4, w1 := c1_5, w2 := c1_6, w3 := c1_7 }, c1_8)
  let z5 : Bool := inR (a9 - (1 : Int))
  let z6 : aa × aa × Bool := dS z2 z3 z4
  let z7 := z6.fst
  let z8 := z6.snd
  let z9 := z8.fst
  let z10 := z3.fst
  let z11 := z3.snd
  let z12 := z11.fst
  (.br (decide ((0 : Int) ≤ a9))
  (gd [oo ((a0, z0, z0, ()), ()), true && inR z1, inB z1 4, decide (Int.toNat z1 + 0 < List.length c0)] (.br (bu (List.getD c0 (Int.toNat z1 + 0) (0 : UInt64)) (↑(UInt64.toNat (i2u (Int.tmod a9 (64 : Int)))) : Int) &&& (1 : UInt64) == (1 : UInt64))
    (gd [oo ((a0, z3, z4, ()), ()), z5] (.ok (.inl ((a0, ((), ((), ((), ((), (a9 - (1 : Int), ())))))), (c0, ((c1_0, (c1_1, (c1_2, (c1_3, (c1_4, (c1_5, (c1_6, (c1_7, (c1_8, ()))))))))), ((c2_0, (c2_1, (c2_2, (c2_3, (c2_4, (c2_5, (c2_6, (c2_7, (c2_8, ()))))))))), ((z7.w0, (z7.w1, (z7.w2, (z7.w3, (z9.w0, (z9.w1, (z9.w2, (z9.w3, (z8.snd, ()))))))))), ()))))))))
    (gd [z5] (.ok (.inl ((a0, ((), ((), ((), ((), (a9 - (1 : Int), ())))))), (c0, ((c1_0, (c1_1, (c1_2, (c1_3, (c1_4, (c1_5, (c1_6, (c1_7, (c1_8, ()))))))))), ((c2_0, (c2_1, (c2_2, (c2_3, (c2_4, (c2_5, (c2_6, (c2_7, (c2_8, ()))))))))), ((z10.w0, (z10.w1, (z10.w2, (z10.w3, (z12.w0, (z12.w1, (z12.w2, (z12.w3, (z11.snd, ()))))))))), ()))))))))))
  (.ok (.inr ⟨(.exit 2, ql), (((), ((), ())), ((c2_0, (c2_1, (c2_2, (c2_3, (c2_4, (c2_5, (c2_6, (c2_7, (c2_8, ()))))))))), ((c3_0, (c3_1, (c3_2, (c3_3, (c3_4, (c3_5, (c3_6, (c3_7, (c3_8, ()))))))))), ())))⟩)))
def qm (s : cJ) : OT (Sum cJ aO) := agJ (s.1.1) (s.1.2.2.2.2.2.1) (s.2.1) (s.2.2.1.1) (s.2.2.1.2.1) (s.2.2.1.2.2.1) (s.2.2.1.2.2.2.1) (s.2.2.1.2.2.2.2.1) (s.2.2.1.2.2.2.2.2.1) (s.2.2.1.2.2.2.2.2.2.1) (s.2.2.1.2.2.2.2.2.2.2.1) (s.2.2.1.2.2.2.2.2.2.2.2.1) (s.2.2.2.1.1) (s.2.2.2.1.2.1) (s.2.2.2.1.2.2.1) (s.2.2.2.1.2.2.2.1) (s.2.2.2.1.2.2.2.2.1) (s.2.2.2.1.2.2.2.2.2.1) (s.2.2.2.1.2.2.2.2.2.2.1) (s.2.2.2.1.2.2.2.2.2.2.2.1) (s.2.2.2.1.2.2.2.2.2.2.2.2.1) (s.2.2.2.2.1.1) (s.2.2.2.2.1.2.1) (s.2.2.2.2.1.2.2.1) (s.2.2.2.2.1.2.2.2.1) (s.2.2.2.2.1.2.2.2.2.1) (s.2.2.2.2.1.2.2.2.2.2.1) (s.2.2.2.2.1.2.2.2.2.2.2.1) (s.2.2.2.2.1.2.2.2.2.2.2.2.1) (s.2.2.2.2.1.2.2.2.2.2.2.2.2.1)
theorem agE (s : cJ) (Q : Sum cJ aO → Prop) : wps te tj ax 1000 (bG (ak Try.f16) 2) (uq.inj s) (cU uq T8 (Q : Sum uq.T aO → Prop)) = (qm s).wpR Q := by kernel_rfl
def AR (g2_2 : cJ → jG) (s : cJ) : OT aO := (.ok ⟨(.exit 2, ql), g2_2 s⟩)
def uu : ay := ⟨[.val true (.prod .elem (.prod .elem .bool))], [], false⟩
def Lr : SV → Option ay := fun _ => some uu
def PH (ok0 : cz → Bool) (g0_0 : cz → jH) (ok2 : cJ → Bool) (g2_2 : cJ → jG) (a0 : Int) (a1 : aa) (a2 : (aa × (aa × Bool))) : OT iJ.Y :=
  let z0 : aa := { w0 := 0, w1 := 0, w2 := 0, w3 := 0 }
  let z1 : Int := tL a0 (1 : Int)
  let z2 : aa := ofP (pS z1) a1
  let z3 : (Int × PUnit × PUnit × PUnit × PUnit × Int × PUnit) × List UInt64 × (UInt64 × UInt64 × UInt64 × UInt64 × UInt64 × UInt64 × UInt64 × UInt64 × Bool × PUnit) × (UInt64 × UInt64 × UInt64 × UInt64 × UInt64 × UInt64 × UInt64 × UInt64 × Bool × PUnit) × (UInt64 × UInt64 × UInt64 × UInt64 × UInt64 × UInt64 × UInt64 × UInt64 × Bool × PUnit) × PUnit := ((a0, (), (), (), (), (255 : Int), ()), [z2.w0, z2.w1, z2.w2, z2.w3], (a2.fst.w0, a2.fst.w1, a2.fst.w2, a2.fst.w3, a2.snd.fst.w0, a2.snd.fst.w1, a2.snd.fst.w2, a2.snd.fst.w3, a2.snd.snd, ()), ((0 : UInt64), (0 : UInt64), (0 : UInt64), (0 : UInt64), (0 : UInt64), (0 : UInt64), (0 : UInt64), (0 : UInt64), false, ()), ((0 : UInt64), (0 : UInt64), (0 : UInt64), (0 : UInt64), (0 : UInt64), (0 : UInt64), (0 : UInt64), (0 : UInt64), true, ()), ())
  let z4 : (Int × PUnit × PUnit × PUnit × PUnit × Int × PUnit) × List UInt64 × (UInt64 × UInt64 × UInt64 × UInt64 × UInt64 × UInt64 × UInt64 × UInt64 × Bool × PUnit) × (UInt64 × UInt64 × UInt64 × UInt64 × UInt64 × UInt64 × UInt64 × UInt64 × Bool × PUnit) × (UInt64 × UInt64 × UInt64 × UInt64 × UInt64 × UInt64 × UInt64 × UInt64 × Bool × PUnit) × PUnit := g0_0 z3
  let z5 := z4.fst
  let z6 := z4.snd
  let z7 := z6.snd
  let z8 := z7.fst
  let z9 := z8.snd
  let z10 := z9.snd
  let z11 := z10.snd
  let z12 := z11.snd
  let z13 := z12.snd
  let z14 := z13.snd
  let z15 := z14.snd
  let z16 := z7.snd
  let z17 := z16.fst
  let z18 := z17.snd
  let z19 := z18.snd
  let z20 := z19.snd
  let z21 := z20.snd
  let z22 := z21.snd
  let z23 := z22.snd
  let z24 := z23.snd
  let z25 := z16.snd.fst
  let z26 := z25.snd
  let z27 := z26.snd
  let z28 := z27.snd
  let z29 := z28.snd
  let z30 := z29.snd
  let z31 := z30.snd
  let z32 := z31.snd
  let z33 : (Int × PUnit × PUnit × PUnit × PUnit × Int × PUnit) × List UInt64 × (UInt64 × UInt64 × UInt64 × UInt64 × UInt64 × UInt64 × UInt64 × UInt64 × Bool × PUnit) × (UInt64 × UInt64 × UInt64 × UInt64 × UInt64 × UInt64 × UInt64 × UInt64 × Bool × PUnit) × (UInt64 × UInt64 × UInt64 × UInt64 × UInt64 × UInt64 × UInt64 × UInt64 × Bool × PUnit) × PUnit := ((z5.fst, (), (), (), (), z5.snd.snd.snd.snd.snd.fst, ()), z6.fst, (z8.fst, z9.fst, z10.fst, z11.fst, z12.fst, z13.fst, z14.fst, z15.fst, z15.snd.fst, ()), (z17.fst, z18.fst, z19.fst, z20.fst, z21.fst, z22.fst, z23.fst, z24.fst, z24.snd.fst, ()), (z25.fst, z26.fst, z27.fst, z28.fst, z29.fst, z30.fst, z31.fst, z32.fst, z32.snd.fst, ()), ())
  let z34 := (g2_2 z33).snd.snd.fst
  let z35 := z34.snd
  let z36 := z35.snd
  let z37 := z36.snd
  let z38 := z37.snd
  let z39 := z38.snd
  let z40 := z39.snd
  let z41 := z40.snd
  (.br (!onB a0 a2)
  (.ok ⟨uu, (((z0, z0, true), ()), ())⟩)
  (gd [iw ((z1, a1, ()), ()), ok0 z3, ok2 z33] (.ok ⟨uu, ((({ w0 := z34.fst, w1 := z35.fst, w2 := z36.fst, w3 := z37.fst }, { w0 := z38.fst, w1 := z39.fst, w2 := z40.fst, w3 := z41.fst }, z41.snd.fst), ()), ())⟩)))
theorem ala (ok0 : cz → Bool) (g0_0 : cz → jH) (ok2 : cJ → Bool) (g2_2 : cJ → jG) (x : F2) (Q : iJ.Y → Prop) : wpf te tj (bp 2 (dv uq 2 ok2 (AR g2_2)) (bp 0 (dv ur 0 ok0 (AS g0_0)) ax)) 1000 Try.f16 (iJ.inp.inj x).tm (iJ.inp.inj x).hp (fnK iJ Lr Q) (fun _ _ => False) = (PH ok0 g0_0 ok2 g2_2 (x.1.1) (x.1.2.1) (x.1.2.2.1)).wpR Q := by kernel_rfl
theorem WQ (ok0 : cz → Bool) (g0_0 : cz → jH) (ok2 : cJ → Bool) (g2_2 : cJ → jG) (h0 : ∀ s : cz, ok0 s = true → ∃ m e, au (uv) m s = some e ∧ (AS g0_0 s).run = some e) (h2 : ∀ s : cJ, ok2 s = true → ∃ m e, au (qm) m s = some e ∧ (AR g2_2 s).run = some e) (pre : F2 → Bool) (F : F2 → OT iJ.Y) (hF : ∀ (x : F2) oy, pre x = true → (F x).run = some oy → (PH ok0 g0_0 ok2 g2_2 (x.1.1) (x.1.2.1) (x.1.2.2.1)).run = some oy) : ab Try.prog 16 (iJ.aK pre F) :=
  aD av my th (f := 16) (fn := Try.f16) (c := ak Try.f16) (by kernel_rfl) (by kernel_rfl) (by kernel_rfl) (S := iJ) (k := 0) (by kernel_rfl) (fun R hR => (aI (c := (ak Try.f16)) (by kernel_rfl) (id := 2) (by kernel_rfl) (bw av my th (sh := uq) hR (xs := T8) (aH (by kernel_rfl) (by kernel_rfl) hR) aW ae (n := 1000) (T := qm) (fun s Q => agE s Q) (ok := ok2) (f := AR g2_2) h2) (aI (c := (ak Try.f16)) (by kernel_rfl) (id := 0) (by kernel_rfl) (bw av my th (sh := ur) hR (xs := T9) (aH (by kernel_rfl) (by kernel_rfl) hR) aW ae (n := 1000) (T := uv) (fun s Q => agF s Q) (ok := ok0) (f := AS g0_0) h0) ae))) (n := 1000) (sel := Lr) (fun v o h => by cases h; rfl) (pre := pre) (F := F) (T := fun x => PH ok0 g0_0 ok2 g2_2 (x.1.1) (x.1.2.1) (x.1.2.2.1)) (fun x Q => ala ok0 g0_0 ok2 g2_2 x Q) hF
def bf (P : Pt) : C9 := (P.1.w0, P.1.w1, P.1.w2, P.1.w3, P.2.1.w0, P.2.1.w1, P.2.1.w2, P.2.1.w3, P.2.2, ())
def cq (p k : Nat) (P : Pt) (n : Nat) (O : Pt) : Pt := cond (AK k (255 - n)) (dS p (dS p O O) P) (dS p O O)
def BD (p k : Nat) (P : Pt) : Pt := upto (cq p k P) aC 256
theorem T0 {p k t : Nat} {P : Pt} (ht : t ≤ 256) (hk : k / 2 ^ t = 0) : ∀ n, n ≤ 256 - t → upto (cq p k P) aC n = aC
  | 0, _ => rfl
  | n + 1, hn => by
    show cq p k P n (upto (cq p k P) aC n) = _
    rw [T0 ht hk n (by omega)]
    have hb : AK k (255 - n) = false := by
      unfold AK
      rw [show 255 - n = t + (255 - n - t) by omega, Nat.pow_add, ← Nat.div_div_eq_div_mul, hk, Nat.zero_div]
      rfl
    unfold cq
    rw [hb]
    rfl
def Az (s : Int) (B : aa) (P : C9) (Q : C9) (O : C9) (i : Int) : cz := ((s, (), (), (), (), i, ()), (lst B, P, Q, O, ()))
theorem TV (s : Int) (B : aa) (P Q O : C9) : ∀ n : Nat, n ≤ 256 → ∃ m, au uv m (Az s B P Q O ((n : Int) - 1)) = some ⟨(.exit 0, lA), Az s B P Q O (Wv B.nat n)⟩
  | 0, _ => ⟨1, aR (OT.ap (decide_eq_false (by dsimp only [Az]; omega)))⟩
  | n + 1, hn => by
    have e1 : ((n + 1 : Nat) : Int) - 1 = (n : Int) := by omega
    rw [e1]
    have hb := apa (b := B) (k := n) (by omega)
    unfold Wv
    rcases (Bool.eq_false_or_eq_true (AK B.nat n)).symm with h | h
    · obtain ⟨m, hm⟩ := TV s B P Q O n (by omega)
      rw [h] at hb ⊢
      refine ⟨m + 1, aM ?_ hm⟩
      refine (OT.ao (decide_eq_true (by dsimp only [Az]; omega))).trans ((ah2 (B := B) (k := n) (by omega) _).trans ((OT.ao ?_).trans ((ai ?_).trans rfl)))
      · exact (Wc _).trans (congrArg Bool.not hb)
      · simp only [List.all_cons, List.all_nil, Bool.and_true]
        exact bC (by dsimp only [Az]; omega)
    · rw [h] at hb ⊢
      refine ⟨1, aR ?_⟩
      refine (OT.ao (decide_eq_true (by dsimp only [Az]; omega))).trans ((ah2 (B := B) (k := n) (by omega) _).trans ((OT.ap ?_).trans rfl))
      exact (Wc _).trans (congrArg Bool.not hb)
def Lt (s : cz) : Bool := decide (s.1.2.2.2.2.2.1 = 255 ∧ s.2.1.length = 4)
def Ub (s : cz) : jH := ((s.1.1, (), (), (), (), Wv (elemOf s.2.1).nat 256, ()), s.2)
theorem agI : ∀ s : cz, Lt s = true → ∃ m e, au uv m s = some e ∧ (AS Ub s).run = some e := by
  rintro ⟨⟨s, ⟨⟩, ⟨⟩, ⟨⟩, ⟨⟩, i, ⟨⟩⟩, ⟨l, P, Q, O, ⟨⟩⟩⟩ h
  have h' := of_decide_eq_true h
  dsimp only at h'
  obtain ⟨rfl, hl⟩ := h'
  obtain ⟨B, rfl⟩ : ∃ a, l = lst a := ⟨elemOf l, (bc hl).symm⟩
  obtain ⟨m, hm⟩ := TV s B P Q O 256 (by omega)
  exact ⟨m, _, hm, rfl⟩
theorem ak3 {s : Int} (hs : aj s = true) (B : aa) (P Q : C9) (O : Pt) {k : Nat} (hk : k < 256) :
    (qm (Az s B P Q (bf O) (k : Int))).run = some (.inl (Az s B P Q (bf (cq (pS s) B.nat (kl P) (255 - k) O)) ((k : Int) - 1))) := by
  have hb := apa (b := B) (k := k) hk
  have t1 : Int.tdiv (k : Int) 64 = ((k / 64 : Nat) : Int) := by rw [Int.tdiv_eq_ediv_of_nonneg (by omega)]; omega
  have hi : inR ((k : Int) - 1) = true := bC (by omega)
  refine (OT.ao (decide_eq_true (by dsimp only [Az]; omega))).trans ((ai ?_).trans ?_)
  · simp only [Az, t1, Int.toNat_natCast, Nat.add_zero, cV, List.all_cons, List.all_nil, Bool.and_true, Bool.true_and, Bool.and_eq_true]
    exact ⟨hs, bC (by omega), bJ (by omega), decide_eq_true (by omega)⟩
  · rcases (Bool.eq_false_or_eq_true (AK B.nat k)).symm with h | h
    · have e : cq (pS s) B.nat (kl P) (255 - k) O = dS (pS s) O O := by unfold cq; rw [show 255 - (255 - k) = k by omega, h]; rfl
      rw [e]
      rw [h] at hb
      refine (OT.ap hb).trans ((ai ?_).trans rfl)
      simp only [List.all_cons, List.all_nil, Bool.and_true]
      exact hi
    · have e : cq (pS s) B.nat (kl P) (255 - k) O = dS (pS s) (dS (pS s) O O) (kl P) := by unfold cq; rw [show 255 - (255 - k) = k by omega, h]; rfl
      rw [e]
      rw [h] at hb
      refine (OT.ao hb).trans ((ai ?_).trans rfl)
      simp only [List.all_cons, List.all_nil, Bool.and_true, Bool.and_eq_true]
      exact ⟨hs, hi⟩
theorem TU {s : Int} (hs : aj s = true) (B : aa) (P Q : C9) : ∀ (n : Nat) (O : Pt), n ≤ 256 → O = upto (cq (pS s) B.nat (kl P)) aC (256 - n) →
    ∃ m, au qm m (Az s B P Q (bf O) ((n : Int) - 1)) = some ⟨(.exit 2, ql), (((), (), ()), (Q, bf (BD (pS s) B.nat (kl P)), ()))⟩
  | 0, O, _, hO => by
    have e : BD (pS s) B.nat (kl P) = O := hO.symm
    rw [e]
    exact ⟨1, aR (OT.ap (decide_eq_false (by dsimp only [Az]; omega)))⟩
  | n + 1, O, hn, hO => by
    obtain ⟨m, hm⟩ := TU hs B P Q n (cq (pS s) B.nat (kl P) (255 - n) O) (by omega) (by
      rw [show 256 - n = (255 - n) + 1 by omega, hO, show 256 - (n + 1) = 255 - n by omega]
      rfl)
    rw [show ((n + 1 : Nat) : Int) - 1 = (n : Int) by omega]
    exact ⟨m + 1, aM (ak3 hs B P Q O (by omega)) hm⟩
def BM (s : cJ) : Bool := aj s.1.1 && decide (s.1.2.2.2.2.2.1 = Wv (elemOf s.2.1).nat 256 ∧ s.2.1.length = 4 ∧ kl s.2.2.2.2.1 = aC)
def Ua (s : cJ) : jG := (((), (), ()), (s.2.2.2.1, bf (BD (pS s.1.1) (elemOf s.2.1).nat (kl s.2.2.1)), ()))
theorem agH : ∀ s : cJ, BM s = true → ∃ m e, au qm m s = some e ∧ (AR Ua s).run = some e := by
  rintro ⟨⟨s, ⟨⟩, ⟨⟩, ⟨⟩, ⟨⟩, i, ⟨⟩⟩, ⟨l, P, Q, O, ⟨⟩⟩⟩ h
  simp only [BM, Bool.and_eq_true, decide_eq_true_eq] at h
  obtain ⟨hs, rfl, hl, hO⟩ := h
  have hO2 : O = bf aC := by rw [← hO]; rfl
  subst hO2
  obtain ⟨B, rfl⟩ : ∃ a, l = lst a := ⟨elemOf l, (bc hl).symm⟩
  obtain ⟨t, e1, e2, e3⟩ := Bq B.nat 256 (Nat.div_eq_of_lt (gn B))
  obtain ⟨m, hm⟩ := TU hs B P Q t aC e2 (T0 e2 e3 _ (Nat.le_refl _)).symm
  rw [← e1] at hm
  exact ⟨m, _, hm, rfl⟩
def oM (c : Int) (k : aa) (P : Pt) : Pt := cond (onB c P) (BD (pS c) (ofP (pS (tL c 1)) k).nat P) aC
def Ls (_ : F2) : Bool := true
def abF (x : F2) : OT iJ.Y := .ok ⟨uu, ((oM x.1.1 x.1.2.1 x.1.2.2.1, ()), ())⟩
theorem agG : ab Try.prog 16 (iJ.aK Ls abF) := WQ Lt Ub BM Ua agI agH _ _ fun x oy _ ho => by
  rw [← ho]
  clear ho
  obtain ⟨⟨c, k, P, ⟨⟩⟩, ⟨⟩⟩ := x
  show _ = (OT.ok ⟨uu, ((oM c k P, ()), ())⟩ : OT iJ.Y).run
  rcases (Bool.eq_false_or_eq_true (onB c P)).symm with h1 | h1
  · have e : oM c k P = aC := by unfold oM; rw [h1]; rfl
    rw [e]
    exact OT.ao (b := !onB c P) (by rw [h1]; rfl)
  · have hs := mZ h1
    have e : oM c k P = BD (pS c) (ofP (pS (tL c 1)) k).nat P := by unfold oM; rw [h1]; rfl
    rw [e]
    refine (OT.ap (b := !onB c P) (by rw [h1]; rfl)).trans ((ai ?_).trans rfl)
    simp only [List.all_cons, List.all_nil, Bool.and_true, Bool.and_eq_true]
    refine ⟨fJ hs, decide_eq_true (p := (255 : Int) = 255 ∧ (lst (ofP (pS (tL c 1)) k)).length = 4) ⟨rfl, rfl⟩, ?_⟩
    refine (Bool.and_eq_true _ _).mpr ⟨hs, ?_⟩
    exact decide_eq_true (p := Wv (ofP (pS (tL c 1)) k).nat 256 = Wv (ofP (pS (tL c 1)) k).nat 256 ∧ (lst (ofP (pS (tL c 1)) k)).length = 4 ∧ aC = aC) ⟨rfl, rfl, rfl⟩
def wS : cI := (iJ.aK Ls abF)
theorem PG : ab Try.prog 16 wS := agG
theorem PF : aJ wS := aA
def tf : Env := az 16 wS tj
theorem mw : aV Try.prog tf := ag PG my
theorem zL : aw tf := ac PF zN
theorem td : bg Try.prog te tf := aN follows av mw zL
def fx : aq := ⟨[.val false .int, .val true .elem], [], true, 0, false⟩
abbrev wZ : Type := ((Int) × (aa) × Unit) × (Unit)
def ou : Shape := ⟨114, [(0, .val false .int), (4, .ptr 0 0 0), (10, .ptr 1 0 0), (14, .ptr 2 0 0), (15, .ptr 3 0 0), (16, .ptr 4 0 0), (17, .val false .int)], [(0, .row .u64), (1, .row .u64), (2, .row .u64), (3, .row .u64), (4, .row .u64)], 0, true⟩
abbrev cb : Type := ((Int) × (Unit) × (Unit) × (Unit) × (Unit) × (Unit) × (Int) × Unit) × ((List (UInt64)) × (List (UInt64)) × (List (UInt64)) × (List (UInt64)) × (List (UInt64)) × Unit)
def ot : Shape := ⟨114, [(0, .val false .int), (4, .ptr 0 0 0), (10, .ptr 1 0 0), (14, .ptr 2 0 0), (15, .ptr 3 0 0), (16, .ptr 4 0 0), (17, .val false .int), (18, .ptr 5 0 0), (19, .val false .int)], [(0, .row .u64), (1, .row .u64), (2, .row .u64), (3, .row .u64), (4, .row .u64), (5, .row .u64)], 0, true⟩
abbrev bq : Type := ((Int) × (Unit) × (Unit) × (Unit) × (Unit) × (Unit) × (Int) × (Unit) × (Int) × Unit) × ((List (UInt64)) × (List (UInt64)) × (List (UInt64)) × (List (UInt64)) × (List (UInt64)) × (List (UInt64)) × Unit)
def mQ : Shape := ⟨114, [(0, .val false .int), (4, .ptr 0 0 0), (10, .ptr 1 0 0), (14, .ptr 2 0 0), (15, .ptr 3 0 0), (16, .ptr 4 0 0), (17, .val false .int), (18, .ptr 5 0 0)], [(0, .row .u64), (1, .row .u64), (2, .row .u64), (3, .row .u64), (4, .row .u64), (5, .row .u64)], 0, true⟩
abbrev dQ : Type := ((Int) × (Unit) × (Unit) × (Unit) × (Unit) × (Unit) × (Int) × (Unit) × Unit) × ((List (UInt64)) × (List (UInt64)) × (List (UInt64)) × (List (UInt64)) × (List (UInt64)) × (List (UInt64)) × Unit)
def LB : SE → Option Shape := ku [(2, mQ)] none
def abT (a0 : Int) (a17 : Int) (a19 : Int) (c0 : List (UInt64)) (c1 : List (UInt64)) (c2 : List (UInt64)) (c3 : List (UInt64)) (c4 : List (UInt64)) (c5 : List (UInt64)) : OT (Sum bq aO) :=
  let z0 : Nat := List.length c5
  let z1 : Bool := decide (4 ≤ z0)
  let z2 : aa := { w0 := List.getD c5 0 0, w1 := List.getD c5 1 0, w2 := List.getD c5 2 0, w3 := List.getD c5 3 0 }
  let z3 : aa := aQ (pS a0) z2 z2
  (.br (decide (a19 < a17))
  (gd [z1, z1, bX ((a0, z2, z2, ()), ()), decide ((4 / 1 : Nat) + 0 ≤ z0), inR (a19 + (1 : Int))] (.ok (.inl ((a0, ((), ((), ((), ((), ((), (a17, ((), (a19 + (1 : Int), ()))))))))), (c0, (c1, (c2, (c3, (c4, (List.set (List.set (List.set (List.set c5 0 z3.w0) 1 z3.w1) 2 z3.w2) 3 z3.w3, ()))))))))))
  (.ok (.inr ⟨(.exit 2, mQ), ((a0, ((), ((), ((), ((), ((), (a17, ((), ())))))))), (c0, (c1, (c2, (c3, (c4, (c5, ())))))))⟩)))
def ov (s : bq) : OT (Sum bq aO) := abT (s.1.1) (s.1.2.2.2.2.2.2.1) (s.1.2.2.2.2.2.2.2.2.1) (s.2.1) (s.2.2.1) (s.2.2.2.1) (s.2.2.2.2.1) (s.2.2.2.2.2.1) (s.2.2.2.2.2.2.1)
theorem abO (s : bq) (Q : Sum bq aO → Prop) : wps te tf ax 1000 (bG (bG (ak Try.f71) 0) 2) (ot.inj s) (cU ot LB (Q : Sum ot.T aO → Prop)) = (ov s).wpR Q := by kernel_rfl
def ux (g2_2 : bq → dQ) (s : bq) : OT aO := (.ok ⟨(.exit 2, mQ), g2_2 s⟩)
def mR : Shape := ⟨114, [(0, .val false .int), (4, .ptr 0 0 0), (14, .ptr 1 0 0)], [(0, .row .u64), (1, .row .u64)], 0, true⟩
abbrev ir : Type := ((Int) × (Unit) × (Unit) × Unit) × ((List (UInt64)) × (List (UInt64)) × Unit)
def LC : SE → Option Shape := ku [(0, mR)] none
def BP (ok2 : bq → Bool) (g2_2 : bq → dQ) (a0 : Int) (a17 : Int) (c0 : List (UInt64)) (c1 : List (UInt64)) (c2 : List (UInt64)) (c3 : List (UInt64)) (c4 : List (UInt64)) : OT (Sum cb aO) :=
  let z0 : (Int × PUnit × PUnit × PUnit × PUnit × PUnit × Int × PUnit × Int × PUnit) × List UInt64 × List UInt64 × List UInt64 × List UInt64 × List UInt64 × List UInt64 × PUnit := ((a0, (), (), (), (), (), a17, (), (1 : Int), ()), c0, c1, c2, c3, c4, [List.getD c3 0 0, List.getD c3 1 0, List.getD c3 2 0, List.getD c3 3 0], ())
  let z1 : (Int × PUnit × PUnit × PUnit × PUnit × PUnit × Int × PUnit × PUnit) × List UInt64 × List UInt64 × List UInt64 × List UInt64 × List UInt64 × List UInt64 × PUnit := g2_2 z0
  let z2 := z1.snd
  let z3 := z2.snd
  let z4 := z3.snd
  let z5 := z4.snd
  let z6 := z5.snd
  let z7 := z6.snd.fst
  let z8 := z3.fst
  let z9 := z4.fst
  let z10 : Nat := List.length z9
  let z11 := z6.fst
  let z12 : Nat := List.length z11
  let z13 : Bool := decide (4 ≤ z12)
  let z14 := z1.fst
  let z15 := z14.fst
  let z16 : aa := { w0 := List.getD z9 0 0, w1 := List.getD z9 1 0, w2 := List.getD z9 2 0, w3 := List.getD z9 3 0 }
  let z17 : aa := { w0 := List.getD z11 0 0, w1 := List.getD z11 1 0, w2 := List.getD z11 2 0, w3 := List.getD z11 3 0 }
  let z18 : aa × PUnit := (z17, ())
  let z19 := z5.fst
  let z20 : Nat := List.length z19
  let z21 : Bool := bX ((z15, z17, z18), ())
  let z22 : aa := { w0 := List.getD z19 0 0, w1 := List.getD z19 1 0, w2 := List.getD z19 2 0, w3 := List.getD z19 3 0 }
  let z23 : Nat := pS z15
  let z24 : aa := aQ z23 z17 z17
  let z25 : Bool := decide ((4 / 1 : Nat) + 0 ≤ z12)
  let z26 : Bool := inR (z14.snd.snd.snd.snd.snd.snd.fst - (1 : Int))
  let z27 := z2.fst
  let z28 : aa := aQ z23 z16 z17
  let z29 : aa := aQ z23 z22 z24
  let z30 : List UInt64 := List.set (List.set (List.set (List.set z11 0 z24.w0) 1 z24.w1) 2 z24.w2) 3 z24.w3
  (.br (decide ((1 : Int) ≤ a17))
  (gd [decide (4 ≤ List.length c3), ok2 z0, decide (4 ≤ List.length z7), decide (4 ≤ List.length z8)] (.br (!(List.getD z7 0 0 == List.getD z8 0 0 && (List.getD z7 1 0 == List.getD z8 1 0 && (List.getD z7 2 0 == List.getD z8 2 0 && (List.getD z7 3 0 == List.getD z8 3 0 && true)))))
    (gd [decide (4 ≤ z10), z13, bX ((z15, z16, z18), ()), decide ((4 / 1 : Nat) + 0 ≤ z10), decide (4 ≤ z20), z13, z13, z21, bX ((z15, z22, z24, ()), ()), decide ((4 / 1 : Nat) + 0 ≤ z20), z13, z13, z21, z25, z26] (.ok (.inl ((z15, ((), ((), ((), ((), ((), (z14.snd.snd.snd.snd.snd.snd.fst - (1 : Int), ()))))))), (z27, (z8, (List.set (List.set (List.set (List.set z9 0 z28.w0) 1 z28.w1) 2 z28.w2) 3 z28.w3, (List.set (List.set (List.set (List.set z19 0 z29.w0) 1 z29.w1) 2 z29.w2) 3 z29.w3, (z30, ())))))))))
    (gd [z13, z13, z21, z25, z26] (.ok (.inl ((z15, ((), ((), ((), ((), ((), (z14.snd.snd.snd.snd.snd.snd.fst - (1 : Int), ()))))))), (z27, (z8, (z9, (z19, (z30, ())))))))))))
  (.ok (.inr ⟨(.exit 0, mR), ((a0, ((), ((), ()))), (c0, (c2, ())))⟩)))
def lB (ok2 : bq → Bool) (g2_2 : bq → dQ) (s : cb) : OT (Sum cb aO) := BP ok2 g2_2 (s.1.1) (s.1.2.2.2.2.2.2.1) (s.2.1) (s.2.2.1) (s.2.2.2.1) (s.2.2.2.2.1) (s.2.2.2.2.2.1)
theorem abP (ok2 : bq → Bool) (g2_2 : bq → dQ) (s : cb) (Q : Sum cb aO → Prop) : wps te tf (bp 2 (dv ot 2 ok2 (ux g2_2)) ax) 1000 (bG (ak Try.f71) 0) (ou.inj s) (cU ou LC (Q : Sum ou.T aO → Prop)) = (lB ok2 g2_2 s).wpR Q := by kernel_rfl
def uy (g0_0 : cb → ir) (s : cb) : OT aO := (.ok ⟨(.exit 0, mR), g0_0 s⟩)
def eQ : ay := ⟨[.val true .elem, .val false .int], [], false⟩
def F7 : SV → Option ay := fun _ => some eQ
def Iv (ok2 : bq → Bool) (g2_2 : bq → dQ) (ok0 : cb → Bool) (g0_0 : cb → ir) (a0 : Int) (a1 : aa) : OT fx.Y :=
  let z0 : Int × PUnit := (a0, ())
  let z1 : Nat := pS a0
  let z2 : aa := ofP z1 a1
  let z3 : aa := { w0 := 0, w1 := 0, w2 := 0, w3 := 0 }
  let z4 : aa × Int × UInt64 × UInt64 × aa := bQ (Int.toNat a0)
  let z5 : aa := { w0 := 1, w1 := 0, w2 := 0, w3 := 0 }
  let z6 : aa := (lb z4.fst z5).fst
  let z7 : aa := fm z6
  let z8 : aa := wA z1 z2 z7
  let z9 := z4.snd.fst
  let z10 : aa := eW z6 (Int.toNat z9)
  let z11 : aa := fm (tO z10 z5).fst
  let z12 : aa × PUnit := (z10, ())
  let z13 : aa := { w0 := 5, w1 := 0, w2 := 0, w3 := 0 }
  let z14 : aa := wA z1 z2 z11
  let z15 : aa := wA z1 z2 z10
  let z16 : aa := wA z1 z13 z10
  let z17 : (Int × PUnit × PUnit × PUnit × PUnit × PUnit × Int × PUnit) × List UInt64 × List UInt64 × List UInt64 × List UInt64 × List UInt64 × PUnit := ((a0, (), (), (), (), (), z9 - (1 : Int), ()), [(0 : UInt64), (0 : UInt64), (0 : UInt64), (0 : UInt64)], [(1 : UInt64), (0 : UInt64), (0 : UInt64), (0 : UInt64)], [z14.w0, z14.w1, z14.w2, z14.w3], [z15.w0, z15.w1, z15.w2, z15.w3], [z16.w0, z16.w1, z16.w2, z16.w3], ())
  let z18 : (Int × PUnit × PUnit × PUnit) × List UInt64 × List UInt64 × PUnit := g0_0 z17
  let z19 := z18.snd
  let z20 := z19.snd.fst
  let z21 : Nat := List.length z20
  let z22 : UInt64 := List.getD z20 0 0
  let z23 : Bool := decide (4 ≤ z21)
  let z24 := z18.fst.fst
  let z25 : aa := { w0 := z22, w1 := List.getD z20 1 0, w2 := List.getD z20 2 0, w3 := List.getD z20 3 0 }
  let z26 : aa := Ck (pS z24) z25
  let z27 : List UInt64 := List.set (List.set (List.set (List.set z20 0 z26.w0) 1 z26.w1) 2 z26.w2) 3 z26.w3
  let z28 := z19.fst
  let z29 : Nat := List.length z28
  let z30 : List UInt64 := lay z28 z27 4 (0 : UInt64)
  let z31 : List UInt64 := lay z28 z20 4 (0 : UInt64)
  (gd [xf (z0, ()), iw ((a0, a1, ()), ())] (.br (z2.w0 == (0 : UInt64) && (z2.w1 == (0 : UInt64) && (z2.w2 == (0 : UInt64) && (z2.w3 == (0 : UInt64) && true))))
  (.ok ⟨eQ, ((z3, ((0 : Int), ())), ())⟩)
  (gd [jQ ((a0, z2, z7, ()), ())] (.br (!(z8.w0 == (1 : UInt64) && (z8.w1 == (0 : UInt64) && (z8.w2 == (0 : UInt64) && (z8.w3 == (0 : UInt64) && true)))))
    (.ok ⟨eQ, ((z3, ((22 : Int), ())), ())⟩)
    (gd [xq (z0, ()), oB ((z6, z9, ()), ()), jQ ((a0, z2, z11, ()), ()), jQ ((a0, z2, z12), ()), jQ ((a0, z13, z12), ()), inR (z9 - (1 : Int)), ok0 z17, decide (0 < z21)] (.br (z22 % (2 : UInt64) == (1 : UInt64))
      (gd [z23, oz ((z24, z25, ()), ()), decide ((4 / 1 : Nat) + 0 ≤ z21), decide (4 ≤ List.length z27), decide ((4 / 1 : Nat) + 0 ≤ z29), decide (4 ≤ List.length z30)] (.ok ⟨eQ, (({ w0 := List.getD z30 0 0, w1 := List.getD z30 1 0, w2 := List.getD z30 2 0, w3 := List.getD z30 3 0 }, ((0 : Int), ())), ())⟩))
      (gd [z23, decide ((4 / 1 : Nat) + 0 ≤ z29), decide (4 ≤ List.length z31)] (.ok ⟨eQ, (({ w0 := List.getD z31 0 0, w1 := List.getD z31 1 0, w2 := List.getD z31 2 0, w3 := List.getD z31 3 0 }, ((0 : Int), ())), ())⟩))))))))
theorem agQ (ok2 : bq → Bool) (g2_2 : bq → dQ) (ok0 : cb → Bool) (g0_0 : cb → ir) (x : wZ) (Q : fx.Y → Prop) : wpf te tf (bp 0 (dv ou 0 ok0 (uy g0_0)) ax) 1000 Try.f71 (fx.inp.inj x).tm (fx.inp.inj x).hp (fnK fx F7 Q) (fun _ _ => False) = (Iv ok2 g2_2 ok0 g0_0 (x.1.1) (x.1.2.1)).wpR Q := by kernel_rfl
theorem PT (ok2 : bq → Bool) (g2_2 : bq → dQ) (ok0 : cb → Bool) (g0_0 : cb → ir) (h2 : ∀ s : bq, ok2 s = true → ∃ m e, au (ov) m s = some e ∧ (ux g2_2 s).run = some e) (h0 : ∀ s : cb, ok0 s = true → ∃ m e, au (lB ok2 g2_2) m s = some e ∧ (uy g0_0 s).run = some e) (pre : wZ → Bool) (F : wZ → OT fx.Y) (hF : ∀ (x : wZ) oy, pre x = true → (F x).run = some oy → (Iv ok2 g2_2 ok0 g0_0 (x.1.1) (x.1.2.1)).run = some oy) : ab Try.prog 71 (fx.aK pre F) :=
  aD av mw td (f := 71) (fn := Try.f71) (c := ak Try.f71) (by kernel_rfl) (by kernel_rfl) (by kernel_rfl) (S := fx) (k := 0) (by kernel_rfl) (fun R hR => (aI (c := (ak Try.f71)) (by kernel_rfl) (id := 0) (by kernel_rfl) (bw av mw td (sh := ou) hR (xs := LC) (aH (by kernel_rfl) (by kernel_rfl) hR) aW (aI (c := (bG (ak Try.f71) 0)) (by kernel_rfl) (id := 2) (by kernel_rfl) (bw av mw td (sh := ot) hR (xs := LB) (aH (by kernel_rfl) (by kernel_rfl) hR) aW ae (n := 1000) (T := ov) (fun s Q => abO s Q) (ok := ok2) (f := ux g2_2) h2) ae) (n := 1000) (T := lB ok2 g2_2) (fun s Q => abP ok2 g2_2 s Q) (ok := ok0) (f := uy g0_0) h0) ae)) (n := 1000) (sel := F7) (fun v o h => by cases h; rfl) (pre := pre) (F := F) (T := fun x => Iv ok2 g2_2 ok0 g0_0 (x.1.1) (x.1.2.1)) (fun x Q => agQ ok2 g2_2 ok0 g0_0 x Q) hF
def sB : aa := ⟨1, 0, 0, 0⟩
def sqN (p : Nat) (b : aa) (n : Nat) : aa := upto (fun _ e => aQ p e e) b n
def fL (s : bq) : Bool := aj s.1.1 && decide (s.1.2.2.2.2.2.2.2.2.1 = 1 ∧ s.1.2.2.2.2.2.2.1 ≤ 1000 ∧ s.2.2.2.2.2.2.1.length = 4)
def jK (s : bq) : dQ := ((s.1.1, (), (), (), (), (), s.1.2.2.2.2.2.2.1, (), ()), (s.2.1, s.2.2.1, s.2.2.2.1, s.2.2.2.2.1, s.2.2.2.2.2.1, lst (sqN (pS s.1.1) (elemOf s.2.2.2.2.2.2.1) (s.1.2.2.2.2.2.2.1 - 1).toNat), ()))
theorem abR : ∀ s : bq, fL s = true → ∃ m e, au ov m s = some e ∧ (ux jK s).run = some e := by
  rintro ⟨⟨s, ⟨⟩, ⟨⟩, ⟨⟩, ⟨⟩, ⟨⟩, i, ⟨⟩, j, ⟨⟩⟩, ⟨c0, c1, c2, c3, c4, c5, ⟨⟩⟩⟩ h
  simp only [fL, Bool.and_eq_true, decide_eq_true_eq] at h
  obtain ⟨hs, rfl, hi, hl⟩ := h
  obtain ⟨t, rfl⟩ : ∃ a, c5 = lst a := ⟨elemOf c5, (bc hl).symm⟩
  have := (bF (T := ov) (fun k t => (((s, (), (), (), (), (), i, (), 1 + (k : Int), ()), (c0, c1, c2, c3, c4, lst t, ())) : bq)) (fun _ e => aQ (pS s) e e)
    (fun t => (⟨(.exit 2, mQ), ((s, (), (), (), (), (), i, (), ()), (c0, c1, c2, c3, c4, lst t, ()))⟩ : aO)) (i - 1).toNat t (fun _ _ => True) trivial (fun k t hk _ => ⟨?_, trivial⟩) (fun t _ => ?_)).1
  · obtain ⟨m, hm⟩ := this
    exact ⟨m, _, hm, rfl⟩
  · have e2 : (1 : Int) + (k : Int) + 1 = 1 + ((k + 1 : Nat) : Int) := by omega
    rw [← e2]
    refine (OT.ao (decide_eq_true (by dsimp only; omega))).trans ((ai ?_).trans rfl)
    simp only [List.all_cons, List.all_nil, Bool.and_true, Bool.and_eq_true]
    exact ⟨rfl, rfl, hs, rfl, bC (by omega)⟩
  · exact OT.ap (decide_eq_false (by dsimp only; omega))
abbrev Ton : Type := aa × aa × aa
def H2 (p m : Nat) (k : Nat) (w : Ton) : Ton := cond (eqE (sqN p w.2.1 (m - k - 1)) sB) (w.1, w.2.1, aQ p w.2.2 w.2.2) (aQ p w.1 w.2.2, aQ p w.2.1 (aQ p w.2.2 w.2.2), aQ p w.2.2 w.2.2)
def KW (s : Int) (c0 : List UInt64) (i : Int) (w : Ton) : cb := ((s, (), (), (), (), (), i, ()), (c0, lst sB, lst w.1, lst w.2.1, lst w.2.2, ()))
theorem afN {s : Int} (hs : aj s = true) (c0 : List UInt64) {m k : Nat} (hm : m ≤ 1000) (hk : k < m) (w : Ton) :
    (lB fL jK (KW s c0 ((m : Int) - (k : Int)) w)).run = some (.inl (KW s c0 ((m : Int) - ((k + 1 : Nat) : Int)) (H2 (pS s) m k w))) := by
  obtain ⟨x, b, z⟩ := w
  have e2 : (m : Int) - ((k + 1 : Nat) : Int) = (m : Int) - (k : Int) - 1 := by omega
  have hi : inR ((m : Int) - (k : Int) - 1) = true := bC (by omega)
  have hk2 : ((m : Int) - (k : Int) - 1).toNat = m - k - 1 := by omega
  have hg : jK ((s, (), (), (), (), (), (m : Int) - (k : Int), (), 1, ()), (c0, lst sB, lst x, lst b, lst z, lst b, ())) = ((s, (), (), (), (), (), (m : Int) - (k : Int), (), ()), (c0, lst sB, lst x, lst b, lst z, lst (sqN (pS s) b (m - k - 1)), ())) := by
    show ((s, (), (), (), (), (), (m : Int) - (k : Int), (), ()), (c0, lst sB, lst x, lst b, lst z, lst (sqN (pS s) b ((m : Int) - (k : Int) - 1).toNat), ())) = _
    rw [hk2]
  have hok : fL ((s, (), (), (), (), (), (m : Int) - (k : Int), (), 1, ()), (c0, lst sB, lst x, lst b, lst z, lst b, ())) = true :=
    (Bool.and_eq_true _ _).mpr ⟨hs, decide_eq_true (p := (1 : Int) = 1 ∧ (m : Int) - (k : Int) ≤ 1000 ∧ (lst b).length = 4) ⟨rfl, by omega, rfl⟩⟩
  have hb : [List.getD (lst b) 0 0, List.getD (lst b) 1 0, List.getD (lst b) 2 0, List.getD (lst b) 3 0] = lst b := rfl
  have hpre : ∀ x y, bX ((s, x, y, ()), ()) = true := fun _ _ => hs
  show (BP fL jK s ((m : Int) - (k : Int)) c0 (lst sB) (lst x) (lst b) (lst z)).run = _
  unfold BP
  simp only [hb, hg, hok]
  refine (OT.ao (decide_eq_true (by omega))).trans ((ai rfl).trans ?_)
  unfold H2
  dsimp only
  rw [e2]
  generalize sqN (pS s) b (m - k - 1) = t
  rcases (Bool.eq_false_or_eq_true (eqE t sB)).symm with h | h
  · refine (OT.ao (b := !eqE t sB) (by rw [h]; rfl)).trans ((ai ?_).trans ?_)
    · simp only [am0, am7, cV, hpre, hi, List.all_cons, List.all_nil, Bool.and_true, Bool.and_eq_true]
      exact ⟨rfl, rfl, trivial, rfl, rfl, rfl, rfl, trivial, trivial, rfl, rfl, rfl, trivial, rfl⟩
    · rw [h]
      simp only [am0, am7]
      rfl
  · refine (OT.ap (b := !eqE t sB) (by rw [h]; rfl)).trans ((ai ?_).trans ?_)
    · simp only [am0, am7, cV, hpre, hi, List.all_cons, List.all_nil, Bool.and_true, Bool.and_eq_true]
      exact ⟨rfl, rfl, trivial, rfl⟩
    · rw [h]
      simp only [am0, am7]
      rfl
def aoZ (p m : Nat) (w : Ton) : Ton := upto (H2 p m) w m
def wY (s : cb) : Bool := aj s.1.1 && decide (0 ≤ s.1.2.2.2.2.2.2.1 ∧ s.1.2.2.2.2.2.2.1 ≤ 1000 ∧ s.2.2.1 = [1, 0, 0, 0] ∧ s.2.2.2.1.length = 4 ∧ s.2.2.2.2.1.length = 4 ∧ s.2.2.2.2.2.1.length = 4)
def BO (s : cb) : ir := ((s.1.1, (), (), ()), (s.2.1, lst (aoZ (pS s.1.1) s.1.2.2.2.2.2.2.1.toNat (elemOf s.2.2.2.1, elemOf s.2.2.2.2.1, elemOf s.2.2.2.2.2.1)).1, ()))
theorem abS : ∀ s : cb, wY s = true → ∃ m e, au (lB fL jK) m s = some e ∧ (uy BO s).run = some e := by
  rintro ⟨⟨s, ⟨⟩, ⟨⟩, ⟨⟩, ⟨⟩, ⟨⟩, i, ⟨⟩⟩, ⟨c0, c1, c2, c3, c4, ⟨⟩⟩⟩ h
  simp only [wY, Bool.and_eq_true, decide_eq_true_eq] at h
  obtain ⟨hs, h0, h1, rfl, h2, h3, h4⟩ := h
  obtain ⟨x, rfl⟩ : ∃ a, c2 = lst a := ⟨elemOf c2, (bc h2).symm⟩
  obtain ⟨b, rfl⟩ : ∃ a, c3 = lst a := ⟨elemOf c3, (bc h3).symm⟩
  obtain ⟨z, rfl⟩ : ∃ a, c4 = lst a := ⟨elemOf c4, (bc h4).symm⟩
  obtain ⟨m, rfl⟩ : ∃ m : Nat, i = (m : Int) := ⟨i.toNat, by omega⟩
  have := (bF (T := lB fL jK) (fun k w => KW s c0 ((m : Int) - (k : Int)) w) (H2 (pS s) m)
    (fun w => (⟨(.exit 0, mR), ((s, (), (), ()), (c0, lst w.1, ()))⟩ : aO)) m (x, b, z) (fun _ _ => True) trivial (fun k w hk _ => ⟨afN hs c0 (by omega) hk w, trivial⟩) (fun w _ => ?_)).1
  · obtain ⟨n, hn⟩ := this
    refine ⟨n, _, ?_, rfl⟩
    have e : KW s c0 ((m : Int) - ((0 : Nat) : Int)) (x, b, z) = ((s, (), (), (), (), (), (m : Int), ()), (c0, [1, 0, 0, 0], lst x, lst b, lst z, ())) := by
      rw [show (m : Int) - ((0 : Nat) : Int) = (m : Int) by omega]
      rfl
    rw [e] at hn
    exact hn
  · exact OT.ap (decide_eq_false (by dsimp only [KW]; omega))
def WA (s : Int) (a : aa) : aa := (aoZ (pS s) ((bQ s.toNat).2.1 - 1).toNat
  (wA (pS s) a (fm (tO (eW (lb (bQ s.toNat).1 sB).1 (bQ s.toNat).2.1.toNat) sB).1), wA (pS s) a (eW (lb (bQ s.toNat).1 sB).1 (bQ s.toNat).2.1.toNat), wA (pS s) ⟨5, 0, 0, 0⟩ (eW (lb (bQ s.toNat).1 sB).1 (bQ s.toNat).2.1.toNat))).1
def NC (p : Nat) (x : aa) : aa := cond (x.w0 % 2 == 1) (Ck p x) x
def wX (x : wZ) : Bool := aj x.1.1
def Ud (x : wZ) : OT fx.Y := .br (cr (ofP (pS x.1.1) x.1.2.1)) (.ok ⟨eQ, ((⟨0, 0, 0, 0⟩, ((0 : Int), ())), ())⟩)
  (.br (eqE (wA (pS x.1.1) (ofP (pS x.1.1) x.1.2.1) (fm (lb (bQ x.1.1.toNat).1 sB).1)) sB) (.ok ⟨eQ, ((NC (pS x.1.1) (WA x.1.1 (ofP (pS x.1.1) x.1.2.1)), ((0 : Int), ())), ())⟩) (.ok ⟨eQ, ((⟨0, 0, 0, 0⟩, ((22 : Int), ())), ())⟩))
theorem aoS {s : Int} (hs : aj s = true) : 1 ≤ (bQ s.toNat).2.1 ∧ (bQ s.toNat).2.1 ≤ 32 := by
  rcases cu hs with rfl | rfl | rfl | rfl <;> decide
theorem abQ : ab Try.prog 71 (fx.aK wX Ud) := PT fL jK wY BO abR abS _ _ fun x oy hp ho => by
  rw [← ho]
  clear ho
  obtain ⟨⟨s, a, ⟨⟩⟩, ⟨⟩⟩ := x
  have hs : aj s = true := hp
  have had := aoS hs
  show _ = (OT.br (cr (ofP (pS s) a)) (.ok ⟨eQ, ((⟨0, 0, 0, 0⟩, ((0 : Int), ())), ())⟩) (.br (eqE (wA (pS s) (ofP (pS s) a) (fm (lb (bQ s.toNat).1 sB).1)) sB) (.ok ⟨eQ, ((NC (pS s) (WA s (ofP (pS s) a)), ((0 : Int), ())), ())⟩) (.ok ⟨eQ, ((⟨0, 0, 0, 0⟩, ((22 : Int), ())), ())⟩)) : OT fx.Y).run
  refine (ai ?_).trans ?_
  · simp only [List.all_cons, List.all_nil, Bool.and_true, Bool.and_eq_true]
    exact ⟨hs, hs⟩
  generalize hA : ofP (pS s) a = A
  rcases (Bool.eq_false_or_eq_true (cr A)).symm with hz | hz
  · refine Eq.trans ?_ (OT.ap (b := cr A) hz).symm
    refine (OT.ap hz).trans ((ai ?_).trans ?_)
    · simp only [List.all_cons, List.all_nil, Bool.and_true]
      exact hs
    · rcases (Bool.eq_false_or_eq_true (eqE (wA (pS s) A (fm (lb (bQ s.toNat).1 sB).1)) sB)).symm with h1 | h1
      · refine Eq.trans ?_ (OT.ap h1).symm
        exact OT.ao (b := !eqE (wA (pS s) A (fm (lb (bQ s.toNat).1 sB).1)) sB) (by rw [h1]; rfl)
      · refine Eq.trans ?_ (OT.ao h1).symm
        refine (OT.ap (b := !eqE (wA (pS s) A (fm (lb (bQ s.toNat).1 sB).1)) sB) (by rw [h1]; rfl)).trans ((ai ?_).trans ?_)
        · simp only [List.all_cons, List.all_nil, Bool.and_true, Bool.and_eq_true]
          refine ⟨hs, decide_eq_true ⟨(by show 0 ≤ (bQ s.toNat).2.1; omega), (by show (bQ s.toNat).2.1 ≤ 1000000; omega)⟩, hs, hs, hs, bC (by omega), (Bool.and_eq_true _ _).mpr ⟨hs, ?_⟩, rfl⟩
          exact decide_eq_true ⟨(by show 0 ≤ (bQ s.toNat).2.1 - 1; omega), (by show (bQ s.toNat).2.1 - 1 ≤ 1000; omega), rfl, rfl, rfl, rfl⟩
        · have hg : ∀ w x b z : aa, (BO ((s, (), (), (), (), (), (bQ s.toNat).2.1 - 1, ()), ([0, 0, 0, 0], [1, 0, 0, 0], [x.w0, x.w1, x.w2, x.w3], [b.w0, b.w1, b.w2, b.w3], [z.w0, z.w1, z.w2, z.w3], ()))) = ((s, (), (), ()), ([0, 0, 0, 0], lst (aoZ (pS s) ((bQ s.toNat).2.1 - 1).toNat (x, b, z)).1, ())) := fun _ _ _ _ => rfl
          simp only [hg sB]
          have hR : (aoZ (pS s) ((bQ s.toNat).2.1 - 1).toNat (wA (pS s) A (fm (tO (eW (lb (bQ s.toNat).1 ⟨1, 0, 0, 0⟩).1 (bQ s.toNat).2.1.toNat) ⟨1, 0, 0, 0⟩).1), wA (pS s) A (eW (lb (bQ s.toNat).1 ⟨1, 0, 0, 0⟩).1 (bQ s.toNat).2.1.toNat), wA (pS s) ⟨5, 0, 0, 0⟩ (eW (lb (bQ s.toNat).1 ⟨1, 0, 0, 0⟩).1 (bQ s.toNat).2.1.toNat))).1 = WA s A := rfl
          simp only [hR]
          generalize WA s A = R
          rcases (Bool.eq_false_or_eq_true (R.w0 % 2 == 1)).symm with h2 | h2
          · have e : NC (pS s) R = R := by unfold NC; rw [h2]; rfl
            rw [e]
            exact (OT.ap h2).trans ((ai rfl).trans rfl)
          · have e : NC (pS s) R = Ck (pS s) R := by unfold NC; rw [h2]; rfl
            rw [e]
            refine (OT.ao h2).trans ((ai ?_).trans rfl)
            simp only [List.all_cons, List.all_nil, Bool.and_true, Bool.and_eq_true]
            exact ⟨rfl, hs, rfl, rfl, rfl, rfl⟩
  · exact (OT.ao hz).trans (OT.ao (b := cr A) hz).symm
def sf : cI := (fx.aK wX Ud)
theorem LF : ab Try.prog 71 sf := abQ
theorem LD : aJ sf := aA
def vI : Env := az 71 sf tf
theorem tk : aV Try.prog vI := ag LF mw
theorem vH : aw vI := ac LD zL
theorem OL : bg Try.prog te vI := aN follows av tk vH
def iO : aq := ⟨[.val false .int, .val false .int], [], true, 0, false⟩
abbrev Gh : Type := ((Int) × (Int) × Unit) × (Unit)
def uE : ay := ⟨[.val true .elem], [], false⟩
def LX : SV → Option ay := fun _ => some uE
def Qj (a0 : Int) (a1 : Int) : OT iO.Y :=
  let z0 : UInt64 := i2u a1
  let z1 : aa := { w0 := z0, w1 := 0, w2 := 0, w3 := 0 }
  let z2 : Nat := pS a0
  let z3 : aa := { w0 := 0 - z0, w1 := 0, w2 := 0, w3 := 0 }
  (.br (decide ((0 : Int) ≤ a1))
  (gd [iw ((a0, z1, ()), ())] (.ok ⟨uE, ((ofP z2 z1, ()), ())⟩))
  (gd [oz ((a0, z3, ()), ())] (.ok ⟨uE, ((Ck z2 z3, ()), ())⟩)))
theorem alr (x : Gh) (Q : iO.Y → Prop) : wpf te vI ax 1000 Try.f74 (iO.inp.inj x).tm (iO.inp.inj x).hp (fnK iO LX Q) (fun _ _ => False) = (Qj (x.1.1) (x.1.2.1)).wpR Q := by kernel_rfl
theorem W6 (pre : Gh → Bool) (F : Gh → OT iO.Y) (hF : ∀ (x : Gh) oy, pre x = true → (F x).run = some oy → (Qj (x.1.1) (x.1.2.1)).run = some oy) : ab Try.prog 74 (iO.aK pre F) :=
  aD av tk OL (f := 74) (fn := Try.f74) (c := ak Try.f74) (by kernel_rfl) (by kernel_rfl) (by kernel_rfl) (S := iO) (k := 0) (by kernel_rfl) (fun R hR => ae) (n := 1000) (sel := LX) (fun v o h => by cases h; rfl) (pre := pre) (F := F) (T := fun x => Qj (x.1.1) (x.1.2.1)) (fun x Q => alr x Q) hF
def an9 (p : Nat) (n : Int) : aa := cond (decide (0 ≤ n)) (ofP p ⟨i2u n, 0, 0, 0⟩) (Ck p ⟨0 - i2u n, 0, 0, 0⟩)
def B3 (x : Gh) : Bool := aj x.1.1
def acb (x : Gh) : OT iO.Y := .ok ⟨uE, ((an9 (pS x.1.1) x.1.2.1, ()), ())⟩
theorem agZ : ab Try.prog 74 (iO.aK B3 acb) := W6 _ _ fun x oy hp ho => by
  rw [← ho]
  clear ho
  obtain ⟨⟨s, n, ⟨⟩⟩, ⟨⟩⟩ := x
  have hs : aj s = true := hp
  show _ = some (⟨uE, ((an9 (pS s) n, ()), ())⟩ : iO.Y)
  unfold an9
  rcases (Bool.eq_false_or_eq_true (decide ((0 : Int) ≤ n))).symm with h | h
  · rw [h]
    refine (OT.ap h).trans ((ai ?_).trans rfl)
    simp only [List.all_cons, List.all_nil, Bool.and_true]
    exact hs
  · rw [h]
    refine (OT.ao h).trans ((ai ?_).trans rfl)
    simp only [List.all_cons, List.all_nil, Bool.and_true]
    exact hs
def xk : cI := (iO.aK B3 acb)
theorem Qi : ab Try.prog 74 xk := agZ
theorem Qh : aJ xk := aA
def yR : Env := az 74 xk vI
theorem rn : aV Try.prog yR := ag Qi tk
theorem zV : aw yR := ac Qh vH
theorem Ey : bg Try.prog te yR := aN follows av rn zV
def fZ : aq := ⟨[.val false .int, .val false .int], [], true, 0, false⟩
abbrev wR : Type := ((Int) × (Int) × Unit) × (Unit)
def oq : Shape := ⟨38, [(0, .val false .int), (1, .val false .int), (4, .ptr 0 0 0)], [(0, .cells [.val false .u64, .val false .u64, .val false .u64, .val false .u64, .val false .u64, .val false .u64, .val false .u64, .val false .u64, .val false .bool])], 0, true⟩
abbrev bU : Type := ((Int) × (Int) × (Unit) × Unit) × (((UInt64) × (UInt64) × (UInt64) × (UInt64) × (UInt64) × (UInt64) × (UInt64) × (UInt64) × (Bool) × Unit) × Unit)
def gV : Shape := ⟨38, [(4, .ptr 0 0 0)], [(0, .cells [.val false .u64, .val false .u64, .val false .u64, .val false .u64, .val false .u64, .val false .u64, .val false .u64, .val false .u64, .val false .bool])], 0, true⟩
abbrev iq : Type := ((Unit) × Unit) × (((UInt64) × (UInt64) × (UInt64) × (UInt64) × (UInt64) × (UInt64) × (UInt64) × (UInt64) × (Bool) × Unit) × Unit)
def Ln : SE → Option Shape := ku [] (some gV)
def abC (a0 : Int) (a1 : Int) (c0_0 : UInt64) (c0_1 : UInt64) (c0_2 : UInt64) (c0_3 : UInt64) (c0_4 : UInt64) (c0_5 : UInt64) (c0_6 : UInt64) (c0_7 : UInt64) (c0_8 : Bool) : OT (Sum bU aO) :=
  let z0 : Nat := pS a0
  let z1 : aa := an9 z0 a1
  let z2 : aa := AD z0 z1 (bS a0)
  let z3 : aa := ofP z0 z2
  let z4 : Bool := inR (a1 + (1 : Int))
  let z5 : aa := NC z0 (WA a0 z3)
  let z6 := z5.w0
  let z7 := z5.w1
  let z8 := z5.w2
  let z9 := z5.w3
  let z10 := z1.w0
  let z11 := z1.w1
  let z12 := z1.w2
  let z13 := z1.w3
  (gd [B3 ((a0, a1, ()), ()), qn ((a0, z1, ()), ()), wX ((a0, z2, ()), ())] (.br (cr z3)
  (gd [z4] (.ok (.inl ((a0, (a1 + (1 : Int), ((), ()))), ((c0_0, (c0_1, (c0_2, (c0_3, (c0_4, (c0_5, (c0_6, (c0_7, (c0_8, ()))))))))), ())))))
  (.br (eqE (wA z0 z3 (fm (lb (bQ (Int.toNat a0)).fst sB).fst)) sB)
    (.br (!(z6 == (0 : UInt64) && (z7 == (0 : UInt64) && (z8 == (0 : UInt64) && (z9 == (0 : UInt64) && true)))))
      (.br (!(z10 == (0 : UInt64) && (z11 == (0 : UInt64) && (z12 == (0 : UInt64) && (z13 == (0 : UInt64) && true)))))
        (.ok (.inr ⟨(.ret, gV), (((), ()), ((z10, (z11, (z12, (z13, (z6, (z7, (z8, (z9, (false, ()))))))))), ()))⟩))
        (gd [z4] (.ok (.inl ((a0, (a1 + (1 : Int), ((), ()))), ((c0_0, (c0_1, (c0_2, (c0_3, (c0_4, (c0_5, (c0_6, (c0_7, (c0_8, ()))))))))), ()))))))
      (gd [z4] (.ok (.inl ((a0, (a1 + (1 : Int), ((), ()))), ((c0_0, (c0_1, (c0_2, (c0_3, (c0_4, (c0_5, (c0_6, (c0_7, (c0_8, ()))))))))), ()))))))
    (gd [z4] (.ok (.inl ((a0, (a1 + (1 : Int), ((), ()))), ((c0_0, (c0_1, (c0_2, (c0_3, (c0_4, (c0_5, (c0_6, (c0_7, (c0_8, ()))))))))), ()))))))))
def lv (s : bU) : OT (Sum bU aO) := abC (s.1.1) (s.1.2.1) (s.2.1.1) (s.2.1.2.1) (s.2.1.2.2.1) (s.2.1.2.2.2.1) (s.2.1.2.2.2.2.1) (s.2.1.2.2.2.2.2.1) (s.2.1.2.2.2.2.2.2.1) (s.2.1.2.2.2.2.2.2.2.1) (s.2.1.2.2.2.2.2.2.2.2.1)
theorem abz (s : bU) (Q : Sum bU aO → Prop) : wps te yR ax 1000 (bG (ak Try.f41) 0) (oq.inj s) (cU oq Ln (Q : Sum oq.T aO → Prop)) = (lv s).wpR Q := by kernel_rfl
def uo (g0_r : bU → iq) (s : bU) : OT aO := (.ok ⟨(.ret, gV), g0_r s⟩)
def BK : ay := ⟨[.val true (.prod .elem (.prod .elem .bool))], [], false⟩
def F0 : SV → Option ay := fun _ => some BK
def Iq (ok0 : bU → Bool) (g0_r : bU → iq) (a0 : Int) (a1 : Int) : OT fZ.Y :=
  let z0 : (Int × Int × PUnit × PUnit) × (UInt64 × UInt64 × UInt64 × UInt64 × UInt64 × UInt64 × UInt64 × UInt64 × Bool × PUnit) × PUnit := ((a0, a1, (), ()), ((0 : UInt64), (0 : UInt64), (0 : UInt64), (0 : UInt64), (0 : UInt64), (0 : UInt64), (0 : UInt64), (0 : UInt64), false, ()), ())
  let z1 := (g0_r z0).snd.fst
  let z2 := z1.snd
  let z3 := z2.snd
  let z4 := z3.snd
  let z5 := z4.snd
  let z6 := z5.snd
  let z7 := z6.snd
  let z8 := z7.snd
  (gd [ok0 z0] (.ok ⟨BK, ((({ w0 := z1.fst, w1 := z2.fst, w2 := z3.fst, w3 := z4.fst }, { w0 := z5.fst, w1 := z6.fst, w2 := z7.fst, w3 := z8.fst }, z8.snd.fst), ()), ())⟩))
theorem agD (ok0 : bU → Bool) (g0_r : bU → iq) (x : wR) (Q : fZ.Y → Prop) : wpf te yR (bp 0 (dv oq 0 ok0 (uo g0_r)) ax) 1000 Try.f41 (fZ.inp.inj x).tm (fZ.inp.inj x).hp (fnK fZ F0 Q) (fun _ _ => False) = (Iq ok0 g0_r (x.1.1) (x.1.2.1)).wpR Q := by kernel_rfl
theorem PE (ok0 : bU → Bool) (g0_r : bU → iq) (h0 : ∀ s : bU, ok0 s = true → ∃ m e, au (lv) m s = some e ∧ (uo g0_r s).run = some e) (pre : wR → Bool) (F : wR → OT fZ.Y) (hF : ∀ (x : wR) oy, pre x = true → (F x).run = some oy → (Iq ok0 g0_r (x.1.1) (x.1.2.1)).run = some oy) : ab Try.prog 41 (fZ.aK pre F) :=
  aD av rn Ey (f := 41) (fn := Try.f41) (c := ak Try.f41) (by kernel_rfl) (by kernel_rfl) (by kernel_rfl) (S := fZ) (k := 0) (by kernel_rfl) (fun R hR => (aI (c := (ak Try.f41)) (by kernel_rfl) (id := 0) (by kernel_rfl) (bw av rn Ey (sh := oq) hR (xs := Ln) (aH (by kernel_rfl) (by kernel_rfl) hR) aW ae (n := 1000) (T := lv) (fun s Q => abz s Q) (ok := ok0) (f := uo g0_r) h0) ae)) (n := 1000) (sel := F0) (fun v o h => by cases h; rfl) (pre := pre) (F := F) (T := fun x => Iq ok0 g0_r (x.1.1) (x.1.2.1)) (fun x Q => agD ok0 g0_r x Q) hF
def Ww (s n : Int) : aa := an9 (pS s) n
def Ps (s n : Int) : aa := ofP (pS s) (AD (pS s) (Ww s n) (bS s))
def abc (s n : Int) : aa := NC (pS s) (WA s (Ps s n))
def H6 (s n : Int) : Option Pt := cond (cr (Ps s n)) none (cond (eqE (wA (pS s) (Ps s n) (fm (lb (bQ s.toNat).1 sB).1)) sB)
  (cond (cr (abc s n)) none (cond (cr (Ww s n)) none (some (Ww s n, abc s n, false)))) none)
def mM (s : Int) : Nat → Int → Option Pt
  | 0, _ => none
  | k + 1, n => match H6 s n with
    | some P => some P
    | none => mM s k (n + 1)
def Pq (s n : Int) (c : C9) : bU := ((s, n, (), ()), (c, ()))
theorem abb {s n : Int} (hs : aj s = true) (h0 : 0 ≤ n) (h1 : n ≤ 1000000) (c : C9) :
    (lv (Pq s n c)).run = match H6 s n with
      | some P => some (.inr ⟨(.ret, gV), (((), ()), (bf P, ()))⟩)
      | none => some (.inl (Pq s (n + 1) c)) := by
  have hi : inR (n + 1) = true := bC (by omega)
  have hgd : ∀ z : OT (Sum bU aO), (gd [inR (n + 1)] z).run = z.run := fun z => ai (by simp only [hi, List.all_cons, List.all_nil, Bool.and_true])
  refine (ai (by simp only [List.all_cons, List.all_nil, Bool.and_true, Bool.and_eq_true]; exact ⟨hs, hs, hs⟩)).trans ?_
  unfold H6
  rcases (Bool.eq_false_or_eq_true (cr (Ps s n))).symm with h1 | h1
  · refine (OT.ap (b := cr (Ps s n)) h1).trans ?_
    rcases (Bool.eq_false_or_eq_true (eqE (wA (pS s) (Ps s n) (fm (lb (bQ s.toNat).1 sB).1)) sB)).symm with h2 | h2
    · rw [h1, h2]
      exact (OT.ap h2).trans (hgd _)
    · refine (OT.ao h2).trans ?_
      rcases (Bool.eq_false_or_eq_true (cr (abc s n))).symm with h3 | h3
      · refine (OT.ao (b := !cr (abc s n)) (by rw [h3]; rfl)).trans ?_
        rcases (Bool.eq_false_or_eq_true (cr (Ww s n))).symm with h4 | h4
        · rw [h1, h2, h3, h4]
          exact OT.ao (b := !cr (Ww s n)) (by rw [h4]; rfl)
        · rw [h1, h2, h3, h4]
          exact (OT.ap (b := !cr (Ww s n)) (by rw [h4]; rfl)).trans (hgd _)
      · rw [h1, h2, h3]
        exact (OT.ap (b := !cr (abc s n)) (by rw [h3]; rfl)).trans (hgd _)
  · rw [h1]
    exact (OT.ao (b := cr (Ps s n)) h1).trans (hgd _)
theorem K1 {s : Int} (hs : aj s = true) (c : C9) {P : Pt} : ∀ (k : Nat) (n : Int), 0 ≤ n → n + k ≤ 1000000 → mM s k n = some P →
    ∃ m, au lv m (Pq s n c) = some ⟨(.ret, gV), (((), ()), (bf P, ()))⟩
  | 0, _, _, _, h => by cases h
  | k + 1, n, h0, h1, h => by
    have hst := abb hs h0 (by omega) c
    unfold mM at h
    cases ho : H6 s n with
    | some Q =>
      rw [ho] at h hst
      obtain rfl := Option.some.inj h
      exact ⟨1, aR hst⟩
    | none =>
      rw [ho] at h hst
      obtain ⟨m, hm⟩ := K1 hs c k (n + 1) (by omega) (by omega) h
      exact ⟨m + 1, aM hst hm⟩
def tZ : Nat := 2000
def wQ (s : bU) : Bool := aj s.1.1 && decide (0 ≤ s.1.2.1 ∧ s.1.2.1 ≤ 2000) && (mM s.1.1 tZ s.1.2.1).isSome
def aiK (s n : Int) : Pt := (mM s tZ n).getD aC
def Lq (s : bU) : iq := (((), ()), (bf (aiK s.1.1 s.1.2.1), ()))
theorem abB : ∀ s : bU, wQ s = true → ∃ m e, au lv m s = some e ∧ (uo Lq s).run = some e := by
  rintro ⟨⟨s, n, ⟨⟩, ⟨⟩⟩, ⟨c, ⟨⟩⟩⟩ h
  simp only [wQ, Bool.and_eq_true, decide_eq_true_eq] at h
  obtain ⟨⟨hs, h0, h1⟩, h2⟩ := h
  obtain ⟨P, hP⟩ := Option.isSome_iff_exists.1 h2
  obtain ⟨m, hm⟩ := K1 hs c tZ n h0 (by show n + ((2000 : Nat) : Int) ≤ _; omega) hP
  refine ⟨m, _, hm, ?_⟩
  show some (⟨(.ret, gV), (((), ()), (bf ((mM s tZ n).getD aC), ()))⟩ : aO) = _
  rw [hP]
  rfl
def F1 (x : wR) : Bool := aj x.1.1 && decide (0 ≤ x.1.2.1 ∧ x.1.2.1 ≤ 2000) && (mM x.1.1 tZ x.1.2.1).isSome
def T5 (x : wR) : OT fZ.Y := .ok ⟨BK, ((aiK x.1.1 x.1.2.1, ()), ())⟩
theorem abA : ab Try.prog 41 (fZ.aK F1 T5) := PE wQ Lq abB _ _ fun x oy hp ho => by
  rw [← ho]
  clear ho
  obtain ⟨⟨s, n, ⟨⟩⟩, ⟨⟩⟩ := x
  refine (ai ?_).trans rfl
  simp only [List.all_cons, List.all_nil, Bool.and_true]
  exact hp
def sd : cI := (fZ.aK F1 T5)
theorem Lp : ab Try.prog 41 sd := abA
theorem Lo : aJ sd := aA
def vD : Env := az 41 sd yR
theorem tc : aV Try.prog vD := ag Lp rn
theorem vC : aw vD := ac Lo zV
theorem OI : bg Try.prog te vD := aN follows av tc vC
end Go.Proofs.Ytkedomfjjahjnaa

namespace Go.Proofs.Ytkedomfjjahjnaa
theorem Ce {α : Type} [BEq α] [LawfulBEq α] : ∀ {l1 l2 : List α}, l1.Nodup → (∀ x ∈ l1, x ∈ l2) → l2.length ≤ l1.length → l1.Perm l2
  | [], l2, _, _, h => by
    have : l2 = [] := List.length_eq_zero_iff.1 (Nat.le_zero.1 h)
    rw [this]
  | a :: t, l2, hn, hs, hl => by
    have ha : a ∈ l2 := hs a (List.mem_cons_self ..)
    have hp : l2.Perm (a :: l2.erase a) := List.perm_cons_erase ha
    rw [List.nodup_cons] at hn
    have hl2 := List.length_erase_of_mem ha
    have hpos : 0 < l2.length := List.length_pos_of_mem ha
    have ih : t.Perm (l2.erase a) := Ce hn.2 (fun x hx => by
      have hne : x ≠ a := fun e => hn.1 (e ▸ hx)
      exact (List.mem_erase_of_ne hne).2 (hs x (List.mem_cons_of_mem _ hx))) (by rw [List.length_cons] at hl; omega)
    exact (ih.cons a).trans hp.symm
theorem u3 {α : Type} [BEq α] [LawfulBEq α] : ∀ {l1 l2 : List α}, l1.Nodup → (∀ x ∈ l1, x ∈ l2) → l1.length ≤ l2.length
  | [], l2, _, _ => Nat.zero_le _
  | a :: t, l2, hn, hs => by
    have ha : a ∈ l2 := hs a (List.mem_cons_self ..)
    rw [List.nodup_cons] at hn
    have hl2 := List.length_erase_of_mem ha
    have hpos : 0 < l2.length := List.length_pos_of_mem ha
    have ih := u3 (l2 := l2.erase a) hn.2 (fun x hx => by
      have hne : x ≠ a := fun e => hn.1 (e ▸ hx)
      exact (List.mem_erase_of_ne hne).2 (hs x (List.mem_cons_of_mem _ hx)))
    rw [List.length_cons]
    omega
def Pr (p : Nat) : Prop := 2 ≤ p ∧ ∀ d, d ∣ p → d = 1 ∨ d = p
theorem Pr.pos {p : Nat} (h : Pr p) : 0 < p := by have := h.1; omega
theorem Pr.cop {p a : Nat} (h : Pr p) (ha : ¬ p ∣ a) : Nat.Coprime p a := by
  rcases h.2 (Nat.gcd p a) (Nat.gcd_dvd_left ..) with e | e
  · exact e
  · exact absurd (e ▸ Nat.gcd_dvd_right p a) ha
theorem Pr.VI {p a b : Nat} (h : Pr p) (hd : p ∣ a * b) : p ∣ a ∨ p ∣ b := by
  by_cases ha : p ∣ a
  · exact .inl ha
  · exact .inr ((h.cop ha).dvd_of_dvd_mul_left hd)
def rD : List Nat → Nat
  | [] => 1
  | a :: l => a * rD l
theorem Xj {l1 l2 : List Nat} (h : l1.Perm l2) : rD l1 = rD l2 := by
  induction h with
  | nil => rfl
  | cons x _ ih => simp only [rD, ih]
  | swap x y l => simp only [rD]; rw [← Nat.mul_assoc, ← Nat.mul_assoc, Nat.mul_comm x y]
  | trans _ _ a b => exact a.trans b
theorem Mf (p a : Nat) : ∀ l : List Nat, rD (l.map fun x => a * x % p) % p = a ^ l.length * rD l % p
  | [] => by simp [rD]
  | x :: l => by
    have ih := Mf p a l
    simp only [List.map_cons, rD, List.length_cons]
    rw [Nat.mul_mod, Nat.mod_mod, ih, ← Nat.mul_mod, Nat.pow_succ]
    congr 1
    rw [Nat.mul_assoc, Nat.mul_assoc, Nat.mul_left_comm x]
    rw [Nat.mul_left_comm a]
theorem Me {p : Nat} (h : Pr p) : ∀ l : List Nat, (∀ x ∈ l, ¬ p ∣ x) → ¬ p ∣ rD l
  | [], _, hd => by
    have := Nat.le_of_dvd (by decide) hd
    have := h.1
    simp only [rD] at *
    omega
  | x :: l, hx, hd => by
    rcases h.VI hd with h1 | h1
    · exact hx x (List.mem_cons_self ..) h1
    · exact Me h l (fun y hy => hx y (List.mem_cons_of_mem _ hy)) h1
theorem XB {p a b : Nat} (hab : a ≤ b) (h : a % p = b % p) : p ∣ b - a := by
  have h1 := Nat.div_add_mod a p
  have h2 := Nat.div_add_mod b p
  refine ⟨b / p - a / p, ?_⟩
  rw [Nat.mul_sub]
  omega
theorem m4 {p x : Nat} (h0 : 0 < x) (h1 : x < p) : ¬ p ∣ x := fun h => by
  have := Nat.le_of_dvd h0 h
  omega
theorem adD {p a : Nat} (h : Pr p) (ha : ¬ p ∣ a) {x y : Nat} (hx : x < p) (hy : y < p) (e : a * x % p = a * y % p) : x = y := by
  have aux : ∀ {x y : Nat}, x < p → y < p → x ≤ y → a * x % p = a * y % p → x = y := fun {x y} hx hy hxy e => by
    have hd := XB (Nat.mul_le_mul_left a hxy) e
    rw [← Nat.mul_sub] at hd
    rcases h.VI hd with h1 | h1
    · exact absurd h1 ha
    · by_cases h0 : y - x = 0
      · omega
      · exact absurd h1 (m4 (by omega) (by omega))
  rcases Nat.le_total x y with hxy | hxy
  · exact aux hx hy hxy e
  · exact (aux hy hx hxy e.symm).symm
theorem oL {α β : Type} {f : α → β} : ∀ {l : List α}, l.Nodup → (∀ x ∈ l, ∀ y ∈ l, f x = f y → x = y) → (l.map f).Nodup
  | [], _, _ => List.nodup_nil
  | a :: l, hn, hi => by
    rw [List.nodup_cons] at hn
    rw [List.map_cons, List.nodup_cons]
    refine ⟨fun hm => ?_, oL hn.2 fun x hx y hy => hi x (List.mem_cons_of_mem _ hx) y (List.mem_cons_of_mem _ hy)⟩
    obtain ⟨b, hb, e⟩ := List.mem_map.1 hm
    have := hi a (List.mem_cons_self ..) b (List.mem_cons_of_mem _ hb) e.symm
    exact hn.1 (this ▸ hb)
theorem VA {p a : Nat} (h : Pr p) (ha : ¬ p ∣ a) : a ^ (p - 1) % p = 1 := by
  have hp := h.1
  have hn : (List.range' 1 (p - 1)).Nodup := List.nodup_range' ..
  have hm : ((List.range' 1 (p - 1)).map fun x => a * x % p).Nodup := oL hn fun x hx y hy e => by
    rw [List.mem_range'_1] at hx hy
    exact adD h ha (by omega) (by omega) e
  have hperm := Ce (l2 := List.range' 1 (p - 1)) hm (fun y hy => by
    obtain ⟨x, hx, rfl⟩ := List.mem_map.1 hy
    rw [List.mem_range'_1] at hx ⊢
    have hlt := Nat.mod_lt (a * x) h.pos
    have hne : a * x % p ≠ 0 := fun e => by
      rcases h.VI (Nat.dvd_of_mod_eq_zero e) with h1 | h1
      · exact ha h1
      · exact m4 (by omega) (by omega) h1
    omega) (by rw [List.length_map]; exact Nat.le_refl _)
  have e := Mf p a (List.range' 1 (p - 1))
  rw [Xj hperm, List.length_range'] at e
  have hnot : ¬ p ∣ rD (List.range' 1 (p - 1)) := Me h _ fun x hx => by
    rw [List.mem_range'_1] at hx
    exact m4 (by omega) (by omega)
  have hmul : ∀ z, z * rD (List.range' 1 (p - 1)) % p = rD (List.range' 1 (p - 1)) * (z % p) % p := fun z => by
    rw [Nat.mul_comm, Nat.mul_mod_mod]
  rw [hmul] at e
  have e1 : rD (List.range' 1 (p - 1)) % p = rD (List.range' 1 (p - 1)) * 1 % p := by rw [Nat.mul_one]
  rw [e1] at e
  exact (adD h hnot (by omega) (Nat.mod_lt _ h.pos) e).symm
theorem C2 : ∀ (k n : Nat), 2 ≤ n → n ≤ k → ∃ r, Pr r ∧ r ∣ n
  | 0, n, h2, hk => by omega
  | k + 1, n, h2, hk => by
    by_cases hp : Pr n
    · exact ⟨n, hp, Nat.dvd_refl _⟩
    · have : ∃ d, d ∣ n ∧ d ≠ 1 ∧ d ≠ n := by
        apply Classical.byContradiction
        intro hc
        refine hp ⟨h2, fun d hd => ?_⟩
        apply Classical.byContradiction
        intro hd2
        exact hc ⟨d, hd, fun e => hd2 (.inl e), fun e => hd2 (.inr e)⟩
      obtain ⟨d, hd, h1, h3⟩ := this
      have hle := Nat.le_of_dvd (by omega) hd
      have h0 : d ≠ 0 := fun e => by subst e; have := Nat.eq_zero_of_zero_dvd hd; omega
      obtain ⟨r, hr, hrd⟩ := C2 k d (by omega) (by omega)
      exact ⟨r, hr, Nat.dvd_trans hrd hd⟩
theorem K2 {n : Nat} (h2 : 2 ≤ n) (hp : ¬ Pr n) : ∃ r, Pr r ∧ r ∣ n ∧ r * r ≤ n := by
  have : ∃ d, d ∣ n ∧ d ≠ 1 ∧ d ≠ n := by
    apply Classical.byContradiction
    intro hc
    refine hp ⟨h2, fun d hd => ?_⟩
    apply Classical.byContradiction
    intro hd2
    exact hc ⟨d, hd, fun e => hd2 (.inl e), fun e => hd2 (.inr e)⟩
  obtain ⟨d, ⟨e, rfl⟩, h1, h3⟩ := this
  have hd0 : d ≠ 0 := fun e' => by subst e'; omega
  have he0 : e ≠ 0 := fun e' => by subst e'; omega
  have he1 : e ≠ 1 := fun e' => by subst e'; omega
  rcases Nat.le_total d e with hde | hde
  · obtain ⟨r, hr, hrd⟩ := C2 d d (by omega) (Nat.le_refl _)
    have hle := Nat.le_of_dvd (by omega) hrd
    exact ⟨r, hr, Nat.dvd_trans hrd (Nat.dvd_mul_right ..), Nat.le_trans (Nat.mul_le_mul hle hle) (Nat.mul_le_mul_left d hde)⟩
  · obtain ⟨r, hr, hrd⟩ := C2 e e (by omega) (Nat.le_refl _)
    have hle := Nat.le_of_dvd (by omega) hrd
    exact ⟨r, hr, Nat.dvd_trans hrd (Nat.dvd_mul_left ..), Nat.le_trans (Nat.mul_le_mul hle hle) (Nat.mul_le_mul_right e hde)⟩
theorem aly {r a : Nat} (hr : 2 ≤ r) (m k : Nat) : a ^ m % r = 1 → a ^ k % r = 1 → a ^ Nat.gcd m k % r = 1 := by
  induction m, k using Nat.gcd.induction with
  | H0 n => intro _ h; rw [Nat.gcd_zero_left]; exact h
  | H1 m n hm ih =>
    intro h1 h2
    rw [Nat.gcd_rec]
    refine ih ?_ h1
    have e : a ^ n % r = a ^ (n % m) % r := by
      conv => lhs; rw [← Nat.div_add_mod n m, Nat.pow_add, Nat.pow_mul, Nat.mul_mod, Nat.pow_mod, h1, Nat.one_pow, Nat.mod_eq_of_lt (show 1 < r by omega), Nat.one_mul, Nat.mod_mod]
    rw [← e]
    exact h2
theorem ahc {n q e a m : Nat} (hn2 : 2 ≤ n) (hq : Pr q) (he : n - 1 = q ^ (e + 1) * m) (h1 : a ^ (n - 1) % n = 1) (h2 : Nat.gcd (a ^ (q ^ e * m) % n + n - 1) n = 1)
    {r : Nat} (hr : Pr r) (hd : r ∣ n) : q ^ (e + 1) ∣ r - 1 := by
  have hr2 := hr.1
  have ha1 : a ^ (n - 1) % r = 1 := by
    have := congrArg (· % r) h1
    simp only [Nat.mod_mod_of_dvd _ hd] at this
    rw [this, Nat.mod_eq_of_lt (by omega)]
  have hna : ¬ r ∣ a := fun h => by
    have : r ∣ a ^ (n - 1) := Nat.dvd_trans h (by
      have := Nat.pow_dvd_pow a (show 1 ≤ n - 1 by omega)
      rwa [Nat.pow_one] at this)
    rw [Nat.mod_eq_zero_of_dvd this] at ha1
    omega
  have hg := aly hr2 _ _ ha1 (VA hr hna)
  obtain ⟨h, hh⟩ := Nat.gcd_dvd_left (n - 1) (r - 1)
  by_cases hqh : q ∣ h
  · obtain ⟨k, rfl⟩ := hqh
    have hk : q ^ e * m = Nat.gcd (n - 1) (r - 1) * k := by
      have : q * (q ^ e * m) = q * (Nat.gcd (n - 1) (r - 1) * k) := by
        rw [← Nat.mul_assoc, ← Nat.pow_succ', ← he, Nat.mul_left_comm q, ← hh]
      exact Nat.eq_of_mul_eq_mul_left hq.pos this
    have hone : a ^ (q ^ e * m) % r = 1 := by
      rw [hk, Nat.pow_mul, Nat.pow_mod, hg, Nat.one_pow, Nat.mod_eq_of_lt (by omega)]
    have hmn : a ^ (q ^ e * m) % n % r = 1 := by rw [Nat.mod_mod_of_dvd _ hd, hone]
    have hdv : r ∣ a ^ (q ^ e * m) % n + n - 1 := by
      obtain ⟨c, rfl⟩ := hd
      have := Nat.div_add_mod (a ^ (q ^ e * m) % (r * c)) r
      refine ⟨a ^ (q ^ e * m) % (r * c) / r + c, ?_⟩
      rw [Nat.mul_add]
      omega
    have := Nat.dvd_gcd hdv hd
    rw [h2] at this
    have := Nat.le_of_dvd (by decide) this
    omega
  · have hc : Nat.Coprime (q ^ (e + 1)) h := Nat.Coprime.pow_left _ (hq.cop hqh)
    have hdg : q ^ (e + 1) ∣ Nat.gcd (n - 1) (r - 1) * h := by rw [← hh, he]; exact Nat.dvd_mul_right ..
    exact Nat.dvd_trans (hc.dvd_of_dvd_mul_right hdg) (Nat.gcd_dvd_right ..)
theorem ahd {n F : Nat} (h2 : 2 ≤ n) (hF : n < F * F) (h : ∀ r, Pr r → r ∣ n → F ∣ r - 1) : Pr n := by
  apply Classical.byContradiction
  intro hp
  obtain ⟨r, hr, hd, hle⟩ := K2 h2 hp
  have h1 := hr.1
  have := Nat.le_of_dvd (by omega) (h r hr hd)
  have : F * F ≤ r * r := Nat.mul_le_mul (by omega) (by omega)
  omega
def Nl {α : Type} (n : Nat) (f : Nat → α) : α := match n with
  | 0 => f 0
  | k + 1 => f (k + 1)
theorem Nk {α : Type} (n : Nat) (f : Nat → α) : Nl n f = f n := by cases n <;> rfl
def pw (n : Nat) : Nat → Nat → Nat → Nat → Nat
  | 0, o, _, _ => o
  | f + 1, o, x, k => Nl k fun k => cond (Nat.beq k 0) o (Nl (x * x % n) fun y => Nl (cond (Nat.beq (k % 2) 1) (o * x % n) o) fun o => pw n f o y (k / 2))
theorem alw {p : Nat} : ∀ (n o x k : Nat), k < 2 ^ n → o < p → pw p n o x k = o * x ^ k % p
  | 0, o, x, k, hk, ho => by
    have : k = 0 := by omega
    subst this
    show o = _
    rw [Nat.pow_zero, Nat.mul_one, Nat.mod_eq_of_lt ho]
  | n + 1, o, x, k, hk, ho => by
    unfold pw
    simp only [Nk]
    rw [Nat.pow_succ] at hk
    cases h0 : Nat.beq k 0
    · simp only [cond_false]
      have hsq : (x * x % p) ^ (k / 2) % p = x ^ (2 * (k / 2)) % p := by
        rw [← Nat.pow_mod, Nat.pow_mul, Nat.pow_two]
      cases h1 : Nat.beq (k % 2) 1
      · have h1' : ¬ k % 2 = 1 := fun e => by rw [e] at h1; cases h1
        simp only [cond_false]
        rw [alw n _ _ _ (by omega) ho, Nat.mul_mod, hsq, ← Nat.mul_mod, show 2 * (k / 2) = k by omega]
      · have h1 := Nat.eq_of_beq_eq_true h1
        simp only [cond_true]
        rw [alw n _ _ _ (by omega) (Nat.mod_lt _ (by omega)), Nat.mul_mod, hsq, Nat.mod_mod, ← Nat.mul_mod, Nat.mul_assoc, ← Nat.pow_succ', show (2 * (k / 2)).succ = k by omega]
    · have h0 := Nat.eq_of_beq_eq_true h0
      subst h0
      simp only [cond_true]
      rw [Nat.pow_zero, Nat.mul_one, Nat.mod_eq_of_lt ho]
def pwm (n a k : Nat) : Nat := pw n 256 1 (a % n) k
theorem acp {n : Nat} (hn : 2 ≤ n) {a k : Nat} (hk : Nat.blt k (2 ^ 256) = true) : pwm n a k = a ^ k % n := by
  have hk' : k < 2 ^ 256 := Nat.le_of_ble_eq_true hk
  unfold pwm
  rw [alw 256 1 _ _ hk' (by omega), Nat.one_mul, ← Nat.pow_mod]
def anP (n q e a m : Nat) : Bool := Nat.beq (n - 1) (q ^ (e + 1) * m) && (Nat.blt n (2 ^ 256) && (Nat.beq (pwm n a (n - 1)) 1 && Nat.beq (Nat.gcd (pwm n a (q ^ e * m) + n - 1) n) 1))
theorem eG {n q e a m : Nat} (h2 : 2 ≤ n) (hq : Pr q) (h : anP n q e a m = true) {r : Nat} (hr : Pr r) (hd : r ∣ n) : q ^ (e + 1) ∣ r - 1 := by
  simp only [anP, Bool.and_eq_true] at h
  obtain ⟨h1, h3, h4, h5⟩ := h
  have h1 := Nat.eq_of_beq_eq_true h1
  have h3 : n < 2 ^ 256 := Nat.le_of_ble_eq_true h3
  have hm : q ^ e * m ≤ n - 1 := by
    rw [h1, Nat.pow_succ, Nat.mul_right_comm]
    exact Nat.le_mul_of_pos_right _ hq.pos
  rw [acp h2 (Nat.ble_eq_true_of_le (show n - 1 + 1 ≤ 2 ^ 256 by omega))] at h4
  rw [acp h2 (Nat.ble_eq_true_of_le (show q ^ e * m + 1 ≤ 2 ^ 256 by omega))] at h5
  exact ahc h2 hq h1 (Nat.eq_of_beq_eq_true h4) (Nat.eq_of_beq_eq_true h5) hr hd
def aoY (n : Nat) : Nat → Nat → Bool
  | 0, _ => false
  | f + 1, d => Nl d fun d => cond (Nat.blt n (d * d)) true (cond (Nat.beq (n % d) 0) false (aoY n f (d + 1)))
theorem ZN {n : Nat} : ∀ (f d : Nat), aoY n f d = true → 0 < d → (∀ x, 1 < x → x < d → ¬ x ∣ n) → ∀ x, 1 < x → x * x ≤ n → ¬ x ∣ n
  | 0, d, h, _, _ => by cases h
  | f + 1, d, h, hd0, hb => by
    unfold aoY at h
    rw [Nk] at h
    cases h1 : Nat.blt n (d * d)
    · rw [h1] at h
      cases h2 : Nat.beq (n % d) 0
      · rw [h2] at h
        refine ZN f (d + 1) h (by omega) fun x hx hxd hdv => ?_
        by_cases hxd2 : x = d
        · subst hxd2
          rw [Nat.mod_eq_zero_of_dvd hdv] at h2
          cases h2
        · exact hb x hx (by omega) hdv
      · rw [h2] at h; cases h
    · have h1 : n < d * d := Nat.le_of_ble_eq_true h1
      intro x hx hxx
      refine hb x hx ?_
      apply Classical.byContradiction
      intro hc
      have := Nat.mul_le_mul (show d ≤ x by omega) (show d ≤ x by omega)
      omega
theorem tV {n : Nat} (f : Nat) (h2 : 2 ≤ n) (h : aoY n f 2 = true) : Pr n := by
  apply Classical.byContradiction
  intro hp
  obtain ⟨r, hr, hd, hle⟩ := K2 h2 hp
  have := hr.1
  exact ZN f 2 h (by decide) (fun x a b => by omega) r (by omega) hle hd
end Go.Proofs.Ytkedomfjjahjnaa

set_option maxRecDepth 100000
namespace Go.Proofs.Ytkedomfjjahjnaa
theorem su : Pr 16513537 := tV 4065 (by decide) (by decide +kernel)
theorem ss : Pr 16521217 := tV 4066 (by decide) (by decide +kernel)
theorem acu : Pr 772231 := tV 880 (by decide) (by decide +kernel)
theorem acv : Pr 413527 := tV 645 (by decide) (by decide +kernel)
theorem uJ : Pr 325086459374267 := ahd (F := 319338368737) (by decide) (by decide +kernel) fun r hr hd => by
  have h0 : 772231 ∣ r - 1 := eG (n := 325086459374267) (q := 772231) (e := 0) (a := 2) (m := 420970486) (by decide) acu (by decide +kernel) hr hd
  have h1 : 413527 ∣ r - 1 := eG (n := 325086459374267) (q := 413527) (e := 0) (a := 2) (m := 786131158) (by decide) acv (by decide +kernel) hr hd
  have k1 : 319338368737 ∣ r - 1 := Nat.Coprime.mul_dvd_of_dvd_of_dvd (m := 772231) (n := 413527) (show Nat.gcd 772231 413527 = 1 by decide +kernel) h0 h1
  exact k1
theorem Xk : Pr 6942563 := tV 2636 (by decide) (by decide +kernel)
theorem QB : Pr 41655379 := ahd (F := 6942563) (by decide) (by decide +kernel) fun r hr hd => by
  have h0 : 6942563 ∣ r - 1 := eG (n := 41655379) (q := 6942563) (e := 0) (a := 2) (m := 6) (by decide) Xk (by decide +kernel) hr hd
  exact h0
theorem Fy : Pr 22160661629 := ahd (F := 41655379) (by decide) (by decide +kernel) fun r hr hd => by
  have h0 : 41655379 ∣ r - 1 := eG (n := 22160661629) (q := 41655379) (e := 0) (a := 2) (m := 532) (by decide) QB (by decide +kernel) hr hd
  exact h0
theorem dF : Pr 8999194758858563409123804352480028797519453 := ahd (F := 7204131026362786056900943) (by decide) (by decide +kernel) fun r hr hd => by
  have h0 : 325086459374267 ∣ r - 1 := eG (n := 8999194758858563409123804352480028797519453) (q := 325086459374267) (e := 0) (a := 2) (m := 27682465692912573825889481556) (by decide) uJ (by decide +kernel) hr hd
  have h1 : 22160661629 ∣ r - 1 := eG (n := 8999194758858563409123804352480028797519453) (q := 22160661629) (e := 0) (a := 2) (m := 406088721966766121824069856270988) (by decide) Fy (by decide +kernel) hr hd
  have k1 : 7204131026362786056900943 ∣ r - 1 := Nat.Coprime.mul_dvd_of_dvd_of_dvd (m := 325086459374267) (n := 22160661629) (show Nat.gcd 325086459374267 22160661629 = 1 by decide +kernel) h0 h1
  exact k1
theorem aG : Pr 28948022309329048855892746252171976963363056481941560715954676764349967630337 := ahd (F := 8999194758858563409123804352480028797519453) (by decide) (by decide +kernel) fun r hr hd => by
  have h0 : 8999194758858563409123804352480028797519453 ∣ r - 1 := eG (n := 28948022309329048855892746252171976963363056481941560715954676764349967630337) (q := 8999194758858563409123804352480028797519453) (e := 0) (a := 2) (m := 3216734728497058061019394250637312) (by decide) dF (by decide +kernel) hr hd
  exact h0
theorem ag9 : Pr 31649 := tV 179 (by decide) (by decide +kernel)
theorem aha : Pr 12149 := tV 112 (by decide) (by decide +kernel)
theorem AB : Pr 5239247429827 := ahd (F := 384503701) (by decide) (by decide +kernel) fun r hr hd => by
  have h0 : 31649 ∣ r - 1 := eG (n := 5239247429827) (q := 31649) (e := 0) (a := 2) (m := 165542274) (by decide) ag9 (by decide +kernel) hr hd
  have h1 : 12149 ∣ r - 1 := eG (n := 5239247429827) (q := 12149) (e := 0) (a := 2) (m := 431249274) (by decide) aha (by decide +kernel) hr hd
  have k1 : 384503701 ∣ r - 1 := Nat.Coprime.mul_dvd_of_dvd_of_dvd (m := 31649) (n := 12149) (show Nat.gcd 31649 12149 = 1 by decide +kernel) h0 h1
  exact k1
theorem Xl : Pr 5701177 := tV 2389 (by decide) (by decide +kernel)
theorem Mh : Pr 399082391 := ahd (F := 5701177) (by decide) (by decide +kernel) fun r hr hd => by
  have h0 : 5701177 ∣ r - 1 := eG (n := 399082391) (q := 5701177) (e := 0) (a := 2) (m := 70) (by decide) Xl (by decide +kernel) hr hd
  exact h0
theorem fe : Pr 10427374428728808478656897599072717 := ahd (F := 2090891391335963876357) (by decide) (by decide +kernel) fun r hr hd => by
  have h0 : 5239247429827 ∣ r - 1 := eG (n := 10427374428728808478656897599072717) (q := 5239247429827) (e := 0) (a := 2) (m := 1990242791238649418308) (by decide) AB (by decide +kernel) hr hd
  have h1 : 399082391 ∣ r - 1 := eG (n := 10427374428728808478656897599072717) (q := 399082391) (e := 0) (a := 2) (m := 26128375152309860944621076) (by decide) Mh (by decide +kernel) hr hd
  have k1 : 2090891391335963876357 ∣ r - 1 := Nat.Coprime.mul_dvd_of_dvd_of_dvd (m := 5239247429827) (n := 399082391) (show Nat.gcd 5239247429827 399082391 = 1 by decide +kernel) h0 h1
  exact k1
theorem apY : Pr 2 := tV 3 (by decide) (by decide +kernel)
theorem aF : Pr 28948022309329048855892746252171976963363056481941647379679742748393362948097 := ahd (F := 44785232154536915268878889192838239440863232) (by decide) (by decide +kernel) fun r hr hd => by
  have h0 : 10427374428728808478656897599072717 ∣ r - 1 := eG (n := 28948022309329048855892746252171976963363056481941647379679742748393362948097) (q := 10427374428728808478656897599072717) (e := 0) (a := 2) (m := 2776156405161148062854777934377771323097088) (by decide) fe (by decide +kernel) hr hd
  have h1 : 4294967296 ∣ r - 1 := eG (n := 28948022309329048855892746252171976963363056481941647379679742748393362948097) (q := 2) (e := 31) (a := 5) (m := 6739986666787659948666753771754907668419893943225417141728043264801) (by decide) apY (by decide +kernel) hr hd
  have k1 : 44785232154536915268878889192838239440863232 ∣ r - 1 := Nat.Coprime.mul_dvd_of_dvd_of_dvd (m := 10427374428728808478656897599072717) (n := 4294967296) (show Nat.gcd 10427374428728808478656897599072717 4294967296 = 1 by decide +kernel) h0 h1
  exact k1
end Go.Proofs.Ytkedomfjjahjnaa

namespace Go.Proofs.Ytkedomfjjahjnaa
set_option maxRecDepth 100000
theorem dz (p : Int) : p ∣ 0 := Int.dvd_zero p
theorem dc {p a b : Int} (c : Int) (h : p ∣ a) (k : p ∣ b) : p ∣ c * a + b := Int.dvd_add (Int.dvd_trans h (Int.dvd_mul_left ..)) k
theorem dk {p a K : Int} (h : p ∣ a) (e : K = a) : p ∣ K := e ▸ h
theorem anu {p y3 x3 b y1 y2 x1 x2 l : Int} (h0 : p ∣ y3-(l*(x1-x3)-y1)) (h1 : p ∣ x3-(l*l-x1-x2)) (h2 : p ∣ l*(x1-x2)-(y1-y2)) (h3 : p ∣ l*(y1+y2)-(x1*x1+x1*x2+x2*x2)) (h4 : p ∣ y1*y1-x1*x1*x1-b) : p ∣ (y3*y3-x3*x3*x3-b) :=
  dk (dc (y3 - x3*l + x1*l - y1) h0 (dc (-x3*x3 + x3*x1 + x3*x2 - x1*l*l + x2*l*l - x1*x1 - 2*x1*x2 - x2*x2 + 2*y1*l) h1 (dc (-l*l*l + 2*x1*l + x2*l) h2 (dc (l*l - 2*x1 - x2) h3 (dc (1) h4 (dz p)))))) (by clear h0 h1 h2 h3 h4; grind)
theorem ajB {p y3 x3 y1 y2 x1 x2 l : Int} (h0 : p ∣ y3-(l*(x1-x3)-y1)) (h1 : p ∣ l*(x1-x2)-(y1-y2)) : p ∣ (y3-(l*(x2-x3)-y2)) :=
  dk (dc (1) h0 (dc (1) h1 (dz p))) (by clear h0 h1; grind)
theorem aoN {p y3 x3 y1 y2 x1 x2 l : Int} (h0 : p ∣ y3-(l*(x1-x3)-y1)) (h1 : p ∣ x3-(l*l-x1-x2)) (h2 : p ∣ l*(x1-x2)-(y1-y2)) (h3 : p ∣ l*(y1+y2)-(x1*x1+x1*x2+x2*x2)) : p ∣ ((-l)*((-y1)+y3)-(x1*x1+x1*x3+x3*x3)) :=
  dk (dc (-l) h0 (dc (-x3 + x2) h1 (dc (-l) h2 (dc (1) h3 (dz p))))) (by clear h0 h1 h2 h3; grind)
theorem aeW {p b y1 y2 x1 x2 l : Int} (h0 : p ∣ y1*y1-x1*x1*x1-b) (h1 : p ∣ y2*y2-x2*x2*x2-b) (h2 : p ∣ l*(x1-x2)-(y1-y2)) : p ∣ (x1-x2) * (l*(y1+y2)-(x1*x1+x1*x2+x2*x2)) :=
  dk (dc (1) h0 (dc (-1) h1 (dc (y1 + y2) h2 (dz p)))) (by clear h0 h1 h2; grind)
theorem aoP {p x7 x5 yt xt ys xs y1 y3 L M l m x1 x3 y2 x2 : Int} (h0 : p ∣ l*(x1-x2)-(y1-y2)) (h1 : p ∣ m*(x2-x3)-(y2-y3)) (h2 : p ∣ xs-(l*l-x1-x2)) (h3 : p ∣ ys-(l*(x1-xs)-y1)) (h4 : p ∣ xt-(m*m-x2-x3)) (h5 : p ∣ yt-(m*(x2-xt)-y2)) (h6 : p ∣ x5-(L*L-xs-x3)) (h7 : p ∣ x7-(M*M-x1-xt)) (h8 : p ∣ l*(y1+y2)-(x1*x1+x1*x2+x2*x2)) (h9 : p ∣ m*(y2+y3)-(x2*x2+x2*x3+x3*x3)) (h10 : p ∣ L*(xs-x3)-(ys-y3)) (h11 : p ∣ M*(x1-xt)-(y1-yt)) : p ∣ ((xs-x3)*(x1-xt)) * (x5-x7) :=
  dk (dc (-L*l*l - l*l*l - L*l*m - M*l*m - l*l*m - L*m*m + L*x1 - M*x1 + 2*l*x1 + 2*m*x1 + L*x3 - M*x3 + L*x2 - M*x2 + l*x2 + m*x2) h0 (dc (-L*l*m - M*l*m - l*l*m - M*m*m - l*m*m - m*m*m - L*x1 + m*x1 - L*x3 + l*x3 + 2*m*x3 - L*x2 + 2*l*x2 + 3*m*x2 - 2*y2) h1 (dc (x7*xt - x7*x1 - x5*xt + x5*x1 + L*L*m*m - L*L*x1 - L*l*x1 - l*l*x1 - L*m*x1 - l*m*x1 - m*m*x1 - L*L*x3 - m*m*x3 - L*L*x2 + L*l*x2 + l*l*x2 + L*m*x2 + l*m*x2 - m*m*x2 + x1*x1 + 2*x1*x3 + x3*x3 - 2*L*y2 - 2*l*y2 + 2*x1*x2 + 2*x3*x2 + x2*x2) h2 (dc (-L*m*m + l*m*m + L*x1 + m*x1 + L*x3 - l*x3 + L*x2 - 2*l*x2 - m*x2 + 2*y2) h3 (dc (x7*l*l - x7*x1 - x7*x3 - x7*x2 - x5*l*l + x5*x1 + x5*x3 + x5*x2 - M*M*l*l + M*M*x1 + l*l*x1 + M*M*x3 + M*l*x3 + l*l*x3 + M*m*x3 + l*m*x3 + m*m*x3 + M*M*x2 - M*l*x2 + l*l*x2 - M*m*x2 - l*m*x2 - m*m*x2 - x1*x1 - 2*x1*x3 - x3*x3 + 2*M*y2 + 2*m*y2 - 2*x1*x2 - 2*x3*x2 - x2*x2) h4 (dc (M*l*l - l*l*m - M*x1 + m*x1 - M*x3 - l*x3 - M*x2 + l*x2 + 2*m*x2 - 2*y2) h5 (dc (-l*l*m*m + l*l*x1 + m*m*x1 + l*l*x3 + m*m*x3 + l*l*x2 + m*m*x2 - x1*x1 - 2*x1*x3 - x3*x3 - 2*x1*x2 - 2*x3*x2 - x2*x2) h6 (dc (l*l*m*m - l*l*x1 - m*m*x1 - l*l*x3 - m*m*x3 - l*l*x2 - m*m*x2 + x1*x1 + 2*x1*x3 + x3*x3 + 2*x1*x2 + 2*x3*x2 + x2*x2) h7 (dc (-L*l - M*l - l*l - L*m - M*m - m*m + 2*x1 + 2*x3 + 2*x2) h8 (dc (L*l + M*l + l*l + L*m + M*m + m*m - 2*x1 - 2*x3 - 2*x2) h9 (dc (-L*m*m + l*m*m + L*x1 + m*x1 + L*x3 - l*x3 + L*x2 - 2*l*x2 - m*x2 + 2*y2) h10 (dc (-M*l*l + l*l*m + M*x1 - m*x1 + M*x3 + l*x3 + M*x2 - l*x2 - 2*m*x2 + 2*y2) h11 (dz p))))))))))))) (by clear h0 h1 h2 h3 h4 h5 h6 h7 h8 h9 h10 h11; grind)
theorem aoO {p y7 x7 y5 x5 yt xt ys xs y1 y3 L M l m x1 x3 y2 x2 : Int} (h0 : p ∣ l*(x1-x2)-(y1-y2)) (h1 : p ∣ m*(x2-x3)-(y2-y3)) (h2 : p ∣ xs-(l*l-x1-x2)) (h3 : p ∣ ys-(l*(x1-xs)-y1)) (h4 : p ∣ xt-(m*m-x2-x3)) (h5 : p ∣ yt-(m*(x2-xt)-y2)) (h6 : p ∣ x5-(L*L-xs-x3)) (h7 : p ∣ y5-(L*(xs-x5)-ys)) (h8 : p ∣ x7-(M*M-x1-xt)) (h9 : p ∣ y7-(M*(x1-x7)-y1)) (h10 : p ∣ l*(y1+y2)-(x1*x1+x1*x2+x2*x2)) (h11 : p ∣ m*(y2+y3)-(x2*x2+x2*x3+x3*x3)) (h12 : p ∣ L*(xs-x3)-(ys-y3)) (h13 : p ∣ M*(x1-xt)-(y1-yt)) (h14 : p ∣ x5-x7) : p ∣ ((xs-x3)*(x1-xt)) * (y5-y7) :=
  dk (dc (-L*L*L*l + L*M*M*l - 2*L*L*l*l - L*M*l*l + M*M*l*l - M*l*l*l + l*l*l*l - L*L*l*m - L*M*l*m + M*M*l*m - 2*L*l*l*m - M*l*l*m - l*l*l*m + L*L*m*m - 3*L*l*m*m + M*l*m*m - 3*l*l*m*m - M*l*x1 - 2*l*l*x1 + L*m*x1 + l*m*x1 + 2*m*m*x1 - L*L*x3 + M*M*x3 + 2*L*l*x3 - 3*M*l*x3 + 3*l*l*x3 - L*m*x3 - 2*M*m*x3 + l*m*x3 - m*m*x3 - 2*L*L*x2 + 2*M*M*x2 + L*l*x2 - 2*M*l*x2 + 2*l*l*x2 - M*m*x2 - 2*l*m*x2 - 4*m*m*x2 + 2*x1*x1 + 2*x3*x3 + 6*m*y2 - x1*x2 + 5*x3*x2 + x2*x2) h0 (dc (L*L*l*m - L*M*l*m - M*M*l*m - M*l*l*m - l*l*l*m - L*M*m*m - M*M*m*m - L*l*m*m - 2*M*l*m*m - 2*l*l*m*m - L*m*m*m - l*m*m*m + m*m*m*m + M*M*x1 - 2*L*l*x1 - M*l*x1 - 2*L*m*x1 - 2*M*m*x1 + 3*l*m*x1 + L*L*x3 - L*l*x3 - l*l*x3 - L*m*x3 - M*m*x3 + 2*L*L*x2 - M*M*x2 + M*l*x2 - 2*l*l*x2 + 3*x1*x3 - 2*L*y2 - 2*M*y2 + 2*m*y2 + 6*x1*x2 + 3*x2*x2) h1 (dc (y7*xt - y7*x1 - y5*xt + y5*x1 - L*L*L*m*m + L*M*M*x1 - 2*L*L*l*x1 - L*M*l*x1 + M*M*l*x1 - M*l*l*x1 + l*l*l*x1 - L*L*m*x1 - L*M*m*x1 - 2*L*l*m*x1 - M*l*m*x1 - l*l*m*x1 - 2*L*m*m*x1 - 3*l*m*m*x1 + L*L*L*x3 + 2*L*m*m*x3 + l*m*m*x3 + 2*L*L*L*x2 - L*M*M*x2 + 2*L*L*l*x2 + L*M*l*x2 - M*M*l*x2 + M*l*l*x2 - l*l*l*x2 + L*L*m*x2 + L*M*m*x2 + 2*L*l*m*x2 + M*l*m*x2 + l*l*m*x2 + 3*L*m*m*x2 + 2*l*m*m*x2 - 2*L*x1*x1 - l*x1*x1 + 3*l*x1*x3 + m*x1*x3 - 2*L*x3*x3 - l*x3*x3 - 2*L*L*y2 - 2*L*M*y2 - 2*M*l*y2 + 2*l*l*y2 - 4*L*m*y2 + L*x1*x2 + 2*l*x1*x2 - m*x1*x2 - 5*L*x3*x2 - 4*l*x3*x2 - m*x3*x2 - L*x2*x2 - 5*l*x2*x2 - 5*m*x2*x2 + 2*x1*y2 + 4*x3*y2 + 6*y2*x2) h2 (dc (L*L*m*m - L*l*m*m - M*M*x1 + 2*L*l*x1 + M*l*x1 - l*l*x1 + L*m*x1 + M*m*x1 + l*m*x1 + 3*m*m*x1 - L*L*x3 + L*l*x3 - m*m*x3 - 2*L*L*x2 + M*M*x2 - M*l*x2 + l*l*x2 - L*m*x2 - M*m*x2 - l*m*x2 - 2*m*m*x2 + x1*x1 - x1*x3 + x3*x3 + 2*L*y2 + 2*M*y2 + 4*m*y2 - 4*x1*x2 + 2*x3*x2 - 2*x2*x2) h3 (dc (y7*l*l - y7*x1 - y7*x3 - y7*x2 - y5*l*l + y5*x1 + y5*x3 + y5*x2 + M*M*M*l*l - M*M*M*x1 - M*l*l*x1 - M*M*M*x3 + L*M*l*x3 + M*M*l*x3 + M*l*l*x3 + L*M*m*x3 + M*M*m*x3 + L*l*m*x3 + 2*M*l*m*x3 + 2*l*l*m*x3 + L*m*m*x3 + l*m*m*x3 - m*m*m*x3 - M*M*M*x2 - L*M*l*x2 - M*M*l*x2 - 3*M*l*l*x2 - L*M*m*x2 - M*M*m*x2 - L*l*m*x2 - 2*M*l*m*x2 - 2*l*l*m*x2 - L*m*m*x2 - l*m*m*x2 + m*m*m*x2 + M*x1*x1 - L*x1*x3 + 3*M*x1*x3 - 2*l*x1*x3 + M*x3*x3 + 2*L*M*y2 + 2*M*M*y2 - 2*L*l*y2 + 6*M*l*y2 - 2*l*l*y2 + 2*L*m*y2 + 2*l*m*y2 - 2*m*m*y2 + L*x1*x2 + M*x1*x2 + 2*l*x1*x2 + L*x3*x2 + M*x3*x2 + 2*l*x3*x2 + 2*L*x2*x2 - M*x2*x2 + 7*l*x2*x2 + 3*m*x2*x2 - 2*x1*y2 - 4*x3*y2 - 6*y2*x2) h4 (dc (-M*M*l*l + M*l*l*m + M*M*x1 - M*m*x1 + M*M*x3 - L*l*x3 - M*l*x3 - 2*l*l*x3 - L*m*x3 - 2*M*m*x3 - l*m*x3 + m*m*x3 + M*M*x2 + L*l*x2 + M*l*x2 + 2*l*l*x2 + L*m*x2 + l*m*x2 - m*m*x2 - x1*x3 - 2*L*y2 - 2*M*y2 - 6*l*y2 + 2*m*y2 + x1*x2 + x3*x2 + 2*x2*x2) h5 (dc (L*l*l*m*m - L*l*l*x1 - L*m*m*x1 - L*l*l*x3 - L*m*m*x3 - L*l*l*x2 - L*m*m*x2 + L*x1*x1 + L*x1*x3 - 2*l*x1*x3 - m*x1*x3 + L*x3*x3 - 2*L*l*y2 - 2*l*l*y2 - 4*l*m*y2 + 3*L*x1*x2 + 2*l*x1*x2 + m*x1*x2 + 3*L*x3*x2 + 2*l*x3*x2 + m*x3*x2 + 3*L*x2*x2 + 7*l*x2*x2 + 5*m*x2*x2 - 2*x1*y2 - 4*x3*y2 - 6*y2*x2) h6 (dc (-l*l*m*m + l*l*x1 + m*m*x1 + l*l*x3 + m*m*x3 + l*l*x2 + m*m*x2 - x1*x1 - 2*x1*x3 - x3*x3 - 2*x1*x2 - 2*x3*x2 - x2*x2) h7 (dc (-M*l*l*m*m + M*l*l*x1 + M*m*m*x1 + M*l*l*x3 + M*m*m*x3 + M*l*l*x2 + M*m*m*x2 - M*x1*x1 + L*x1*x3 - 2*M*x1*x3 + 2*l*x1*x3 + m*x1*x3 - M*x3*x3 + 2*L*l*y2 + 2*l*l*y2 + 4*l*m*y2 - L*x1*x2 - 2*M*x1*x2 - 2*l*x1*x2 - m*x1*x2 - L*x3*x2 - 2*M*x3*x2 - 2*l*x3*x2 - m*x3*x2 - 2*L*x2*x2 - M*x2*x2 - 7*l*x2*x2 - 5*m*x2*x2 + 2*x1*y2 + 4*x3*y2 + 6*y2*x2) h8 (dc (l*l*m*m - l*l*x1 - m*m*x1 - l*l*x3 - m*m*x3 - l*l*x2 - m*m*x2 + x1*x1 + 2*x1*x3 + x3*x3 + 2*x1*x2 + 2*x3*x2 + x2*x2) h9 (dc (-L*L*L + L*M*M - 2*L*L*l - L*M*l + 2*M*M*l - M*l*l + l*l*l - L*L*m - L*M*m + M*M*m - 2*L*l*m - 2*M*l*m - l*l*m - 2*L*m*m + M*m*m - 4*l*m*m - 2*L*x1 - 2*M*x1 + 2*L*x3 - 2*M*x3 + 6*l*x3 + 2*m*x3 - 2*M*x2 - 2*m*x2 + 6*y2) h10 (dc (-L*L*l + L*M*l + M*M*l + M*l*l + l*l*l - L*L*m + L*M*m + M*M*m + 2*L*l*m + 2*M*l*m + 3*l*l*m + L*m*m + l*m*m - m*m*m + L*x1 + M*x1 - 4*l*x1 - 4*m*x1 + L*x3 + M*x3 + L*x2 + M*x2 + l*x2 + m*x2 - 6*y2) h11 (dc (L*L*m*m - L*l*m*m - l*l*m*m - M*M*x1 + 2*L*l*x1 + M*l*x1 + L*m*x1 + M*m*x1 + l*m*x1 + 4*m*m*x1 - L*L*x3 + L*l*x3 + l*l*x3 - 2*L*L*x2 + M*M*x2 - M*l*x2 + 2*l*l*x2 - L*m*x2 - M*m*x2 - l*m*x2 - m*m*x2 - 3*x1*x3 + 2*L*y2 + 2*M*y2 + 4*m*y2 - 6*x1*x2 - 3*x2*x2) h12 (dc (M*M*l*l - M*l*l*m - M*M*x1 + M*m*x1 - M*M*x3 + L*l*x3 + M*l*x3 + 2*l*l*x3 + L*m*x3 + 2*M*m*x3 + l*m*x3 - m*m*x3 - M*M*x2 - L*l*x2 - M*l*x2 - 2*l*l*x2 - L*m*x2 - l*m*x2 + m*m*x2 + x1*x3 + 2*L*y2 + 2*M*y2 + 6*l*y2 - 2*m*y2 - x1*x2 - x3*x2 - 2*x2*x2) h13 (dc (L*x1*x3 + 2*l*x1*x3 + m*x1*x3 + 2*L*l*y2 + 2*l*l*y2 + 4*l*m*y2 - L*x1*x2 - 2*l*x1*x2 - m*x1*x2 - L*x3*x2 - 2*l*x3*x2 - m*x3*x2 - 2*L*x2*x2 - 7*l*x2*x2 - 5*m*x2*x2 + 2*x1*y2 + 4*x3*y2 + 6*y2*x2) h14 (dz p)))))))))))))))) (by clear h0 h1 h2 h3 h4 h5 h6 h7 h8 h9 h10 h11 h12 h13 h14; grind)
theorem aoR {p x7 x5 yt xt ys xs y1 y3 L M l m x1 x3 y2 x2 : Int} (h0 : p ∣ l*(x1-x2)-(y1-y2)) (h1 : p ∣ m*(x2-x3)-(y2-y3)) (h2 : p ∣ xs-(l*l-x1-x2)) (h3 : p ∣ ys-(l*(x1-xs)-y1)) (h4 : p ∣ xt-(m*m-x2-x3)) (h5 : p ∣ yt-(m*(x2-xt)-y2)) (h6 : p ∣ x5-(L*L-xs-x3)) (h7 : p ∣ x7-(M*M-x1-xt)) (h8 : p ∣ l*(y1+y2)-(x1*x1+x1*x2+x2*x2)) (h9 : p ∣ m*(y2+y3)-(x2*x2+x2*x3+x3*x3)) (h10 : p ∣ L*(xs-x3)-(ys-y3)) (h11 : p ∣ L*(ys+y3)-(xs*xs+xs*x3+x3*x3)) (h12 : p ∣ M*(x1-xt)-(y1-yt)) (h13 : p ∣ xs-x3) : p ∣ 4 * (y2*y3) * (x5-x7) :=
  dk (dc (L*M*l*x3 + M*M*l*x3 - 2*L*l*l*x3 - 2*M*l*l*x3 + 2*L*M*m*x3 - L*l*m*x3 - 2*M*l*m*x3 + 2*l*l*m*x3 - M*m*m*x3 + l*m*m*x3 + m*m*m*x3 - L*M*l*x2 - M*M*l*x2 + 2*L*l*l*x2 + 2*M*l*l*x2 - 2*L*M*m*x2 + L*l*m*x2 + 2*M*l*m*x2 - 2*l*l*m*x2 + M*m*m*x2 - l*m*m*x2 - m*m*m*x2 + L*x1*x3 + M*x1*x3 + 3*L*x3*x3 - 5*m*x3*x3 - 2*M*M*y2 + 2*L*l*y2 - 2*l*l*y2 + 2*L*m*y2 + 2*M*m*y2 - 2*l*m*y2 - 4*m*m*y2 - L*x1*x2 - M*x1*x2 - L*x3*x2 - M*x3*x2 + 4*m*x3*x2 - 2*L*x2*x2 - 2*M*x2*x2 + 4*m*x2*x2 + 4*x1*y2 - 4*x3*y2) h0 (dc (-4*x7*y2 + 4*x5*y2 + 2*L*M*l*x3 + M*l*l*x3 + L*M*m*x3 + M*M*m*x3 - M*l*m*x3 + l*l*m*x3 + L*m*m*x3 - M*m*m*x3 + l*m*m*x3 - 2*m*m*m*x3 - 2*L*M*l*x2 - M*l*l*x2 - L*M*m*x2 - M*M*m*x2 + M*l*m*x2 - l*l*m*x2 - L*m*m*x2 + M*m*m*x2 - l*m*m*x2 + 2*m*m*m*x2 - L*x1*x3 - M*x1*x3 - 2*L*x3*x3 + M*x3*x3 + 3*m*x3*x3 - 4*L*L*y2 + 2*M*M*y2 + 2*L*l*y2 + 2*l*l*y2 - 4*l*m*y2 - 2*m*m*y2 + L*x1*x2 + M*x1*x2 - L*x3*x2 - M*x3*x2 + 3*L*x2*x2 + 3*M*x2*x2 - 6*m*x2*x2 - 4*x1*y2 + 2*x3*y2 + 2*y2*x2) h1 (dc (-xs*M*l*x3 - xs*M*m*x3 - xs*l*m*x3 - xs*m*m*x3 + xs*M*l*x2 + xs*M*m*x2 + xs*l*m*x2 + xs*m*m*x2 + 2*xs*L*y2 - 2*xs*l*y2 + L*M*x1*x3 + M*M*x1*x3 - 2*L*l*x1*x3 - M*l*x1*x3 - L*m*x1*x3 - 2*M*m*x1*x3 + 3*l*m*x1*x3 + m*m*x1*x3 - L*M*x1*x2 - M*M*x1*x2 + 2*L*l*x1*x2 + M*l*x1*x2 + L*m*x1*x2 + 2*M*m*x1*x2 - 3*l*m*x1*x2 - m*m*x1*x2 - L*M*x3*x2 - M*M*x3*x2 + 2*L*l*x3*x2 + 2*M*l*x3*x2 + L*m*x3*x2 + 3*M*m*x3*x2 - 2*l*m*x3*x2 + L*M*x2*x2 + M*M*x2*x2 - 2*L*l*x2*x2 - 2*M*l*x2*x2 - L*m*x2*x2 - 3*M*m*x2*x2 + 2*l*m*x2*x2 - 4*m*x1*y2 - 4*L*x3*y2 - 4*M*x3*y2 + 4*m*x3*y2 + 2*L*y2*x2 + 4*M*y2*x2 + 2*l*y2*x2 - 4*y2*y2) h2 (dc (-M*l*l*x3 + 2*L*M*m*x3 - l*l*m*x3 - M*m*m*x3 + m*m*m*x3 + M*l*l*x2 - 2*L*M*m*x2 + l*l*m*x2 + M*m*m*x2 - m*m*m*x2 + L*x1*x3 + M*x1*x3 + 2*L*x3*x3 - M*x3*x3 - 3*m*x3*x3 - 2*M*M*y2 + 2*L*l*y2 - 2*l*l*y2 + 2*L*m*y2 + 2*M*m*y2 + 2*l*m*y2 - 4*m*m*y2 - L*x1*x2 - M*x1*x2 + L*x3*x2 + M*x3*x2 - 3*L*x2*x2 - 3*M*x2*x2 + 6*m*x2*x2 + 4*x1*y2 - 2*x3*y2 - 2*y2*x2) h3 (dc (-L*M*x3*x3 - M*M*x3*x3 - L*m*x3*x3 + M*m*x3*x3 + 2*m*m*x3*x3 + 2*L*M*x3*x2 + 2*M*M*x3*x2 + 2*L*m*x3*x2 - 2*M*m*x3*x2 - 4*m*m*x3*x2 - L*M*x2*x2 - M*M*x2*x2 - L*m*x2*x2 + M*m*x2*x2 + 2*m*m*x2*x2 + 2*M*x3*y2 + 6*m*x3*y2 - 2*M*y2*x2 - 6*m*y2*x2 + 4*y2*y2) h4 (dc (L*x3*x3 + M*x3*x3 - 2*m*x3*x3 - 2*L*x3*x2 - 2*M*x3*x2 + 4*m*x3*x2 + L*x2*x2 + M*x2*x2 - 2*m*x2*x2 - 2*x3*y2 + 2*y2*x2) h5 (dc (4*m*x3*y2 - 4*m*y2*x2 + 4*y2*y2) h6 (dc (-4*m*x3*y2 + 4*m*y2*x2 - 4*y2*y2) h7 (dc (L*M*x3 + M*M*x3 - 2*L*l*x3 - M*l*x3 - L*m*x3 - 2*M*m*x3 + 3*l*m*x3 + m*m*x3 - L*M*x2 - M*M*x2 + 2*L*l*x2 + M*l*x2 + L*m*x2 + 2*M*m*x2 - 3*l*m*x2 - m*m*x2 - 4*m*y2) h8 (dc (-L*M*x3 - M*M*x3 + 2*L*l*x3 + M*l*x3 + L*m*x3 + 2*M*m*x3 - l*m*x3 + m*m*x3 + L*M*x2 + M*M*x2 - 2*L*l*x2 - M*l*x2 - L*m*x2 - 2*M*m*x2 + l*m*x2 - m*m*x2 - 2*L*y2 - 2*M*y2 + 2*l*y2 + 6*m*y2) h9 (dc (-L*M*l*x3 - M*l*l*x3 + L*M*m*x3 - L*l*m*x3 - l*l*m*x3 - L*m*m*x3 - M*m*m*x3 + m*m*m*x3 + L*M*l*x2 + M*l*l*x2 - L*M*m*x2 + L*l*m*x2 + l*l*m*x2 + L*m*m*x2 + M*m*m*x2 - m*m*m*x2 + L*x1*x3 + M*x1*x3 + 2*L*x3*x3 - M*x3*x3 - 3*m*x3*x3 + 2*L*L*y2 - 2*M*M*y2 - 2*l*l*y2 + 2*L*m*y2 + 2*M*m*y2 + 2*l*m*y2 - 4*m*m*y2 - L*x1*x2 - M*x1*x2 + L*x3*x2 + M*x3*x2 - 3*L*x2*x2 - 3*M*x2*x2 + 6*m*x2*x2 + 4*x1*y2 - 2*x3*y2 - 2*y2*x2) h10 (dc (-M*l*x3 - M*m*x3 - l*m*x3 - m*m*x3 + M*l*x2 + M*m*x2 + l*m*x2 + m*m*x2 + 2*L*y2 - 2*l*y2) h11 (dc (-L*x3*x3 - M*x3*x3 + 2*m*x3*x3 + 2*L*x3*x2 + 2*M*x3*x2 - 4*m*x3*x2 - L*x2*x2 - M*x2*x2 + 2*m*x2*x2 + 2*x3*y2 - 2*y2*x2) h12 (dc (L*L*M*l*x3 + L*M*l*l*x3 - L*L*M*m*x3 + L*L*l*m*x3 - 2*L*M*l*m*x3 + L*l*l*m*x3 - M*l*l*m*x3 + L*L*m*m*x3 + L*M*m*m*x3 + M*l*m*m*x3 - l*l*m*m*x3 - L*m*m*m*x3 - l*m*m*m*x3 - L*L*M*l*x2 - L*M*l*l*x2 + L*L*M*m*x2 - L*L*l*m*x2 + 2*L*M*l*m*x2 - L*l*l*m*x2 + M*l*l*m*x2 - L*L*m*m*x2 - L*M*m*m*x2 - M*l*m*m*x2 + l*l*m*m*x2 + L*m*m*m*x2 + l*m*m*m*x2 - L*L*x1*x3 - 2*L*M*x1*x3 - M*M*x1*x3 + L*l*x1*x3 + M*l*x1*x3 + L*m*x1*x3 + 3*M*m*x1*x3 - 2*l*m*x1*x3 - 2*L*L*x3*x3 + L*M*x3*x3 - 2*L*l*x3*x3 + 3*L*m*x3*x3 - M*m*x3*x3 + 2*l*m*x3*x3 - m*m*x3*x3 - 2*L*L*L*y2 + 2*L*M*M*y2 + 2*M*M*l*y2 + 2*L*l*l*y2 - 2*L*L*m*y2 - 2*L*M*m*y2 - 4*L*l*m*y2 - 2*M*l*m*y2 - 2*l*l*m*y2 + 4*L*m*m*y2 + 4*l*m*m*y2 + L*L*x1*x2 + 2*L*M*x1*x2 + M*M*x1*x2 - L*l*x1*x2 - M*l*x1*x2 - L*m*x1*x2 - 3*M*m*x1*x2 + 2*l*m*x1*x2 - L*L*x3*x2 + M*M*x3*x2 - 3*L*l*x3*x2 - M*l*x3*x2 - L*m*x3*x2 - M*m*x3*x2 + 4*l*m*x3*x2 + 2*m*m*x3*x2 + 3*L*L*x2*x2 + 2*L*M*x2*x2 - M*M*x2*x2 + 5*L*l*x2*x2 + 4*M*l*x2*x2 - 5*L*m*x2*x2 + 2*M*m*x2*x2 - 9*l*m*x2*x2 - m*m*x2*x2 - 6*L*x1*y2 - 2*l*x1*y2 + 4*m*x1*y2 + 8*L*x3*y2 + 4*M*x3*y2 - 8*m*x3*y2 - 2*L*y2*x2 - 4*M*y2*x2 + 2*l*y2*x2 + 4*m*y2*x2) h13 (dz p))))))))))))))) (by clear h0 h1 h2 h3 h4 h5 h6 h7 h8 h9 h10 h11 h12 h13; grind)
theorem aoQ {p y7 x7 y5 x5 yt xt ys xs y1 y3 L M l m x1 x3 y2 x2 : Int} (h0 : p ∣ l*(x1-x2)-(y1-y2)) (h1 : p ∣ m*(x2-x3)-(y2-y3)) (h2 : p ∣ xs-(l*l-x1-x2)) (h3 : p ∣ ys-(l*(x1-xs)-y1)) (h4 : p ∣ xt-(m*m-x2-x3)) (h5 : p ∣ yt-(m*(x2-xt)-y2)) (h6 : p ∣ y5-(L*(xs-x5)-ys)) (h7 : p ∣ x7-(M*M-x1-xt)) (h8 : p ∣ y7-(M*(x1-x7)-y1)) (h9 : p ∣ l*(y1+y2)-(x1*x1+x1*x2+x2*x2)) (h10 : p ∣ m*(y2+y3)-(x2*x2+x2*x3+x3*x3)) (h11 : p ∣ L*(xs-x3)-(ys-y3)) (h12 : p ∣ L*(ys+y3)-(xs*xs+xs*x3+x3*x3)) (h13 : p ∣ M*(x1-xt)-(y1-yt)) (h14 : p ∣ xs-x3) (h15 : p ∣ x5-x7) : p ∣ 4 * (y2*y3) * (y5-y7) :=
  dk (dc (-M*M*M*l*x3 + M*M*l*l*x3 + 2*L*M*l*m*x3 + 2*M*M*l*m*x3 - 4*L*l*l*m*x3 - 4*M*l*l*m*x3 + 4*L*M*m*m*x3 - 2*L*l*m*m*x3 - 2*M*l*m*m*x3 + 2*l*l*m*m*x3 - 2*M*m*m*m*x3 + 2*l*m*m*m*x3 + 2*m*m*m*m*x3 + M*M*M*l*x2 - M*M*l*l*x2 - 2*L*M*l*m*x2 - 2*M*M*l*m*x2 + 4*L*l*l*m*x2 + 4*M*l*l*m*x2 - 4*L*M*m*m*x2 + 2*L*l*m*m*x2 + 2*M*l*m*m*x2 - 2*l*l*m*m*x2 + 2*M*m*m*m*x2 - 2*l*m*m*m*x2 - 2*m*m*m*m*x2 + 2*L*m*x1*x3 + 2*M*m*x1*x3 - M*M*x3*x3 - 2*M*l*x3*x3 + 2*l*l*x3*x3 + 6*L*m*x3*x3 - 8*m*m*x3*x3 + 2*M*M*M*y2 + 2*L*M*l*y2 + 4*L*l*l*y2 + 4*L*M*m*y2 - 2*M*M*m*y2 + 6*L*l*m*y2 - 2*M*l*m*y2 - 4*l*l*m*y2 + 8*L*m*m*y2 - 2*M*m*m*y2 - 6*l*m*m*y2 - 8*m*m*m*y2 - 2*L*m*x1*x2 - 2*M*m*x1*x2 + 2*M*M*x3*x2 + M*l*x3*x2 - l*l*x3*x2 - 2*L*m*x3*x2 - 2*M*m*x3*x2 + 4*m*m*x3*x2 + 2*M*M*x2*x2 + 4*M*l*x2*x2 - l*l*x2*x2 - 4*L*m*x2*x2 - 4*M*m*x2*x2 + 3*l*m*x2*x2 + 4*m*m*x2*x2 - 2*x3*x3*x3 - 6*L*x1*y2 - 2*M*x1*y2 + 6*m*x1*y2 - 2*L*x3*y2 + 4*M*x3*y2 + 2*l*x3*y2 - 2*m*x3*y2 + 3*x3*x3*x2 - 4*L*y2*x2 + 4*M*y2*x2 - 2*l*y2*x2 + 8*m*y2*x2 - 3*x1*x2*x2 + 9*x3*x2*x2 + 2*x2*x2*x2 - 4*y2*y2) h0 (dc (-4*y7*y2 + 4*y5*y2 - M*M*M*m*x3 + 4*L*M*l*m*x3 + 2*M*l*l*m*x3 + 2*L*M*m*m*x3 + M*M*m*m*x3 - 2*M*l*m*m*x3 + 2*l*l*m*m*x3 + 2*L*m*m*m*x3 + 2*l*m*m*m*x3 - 2*m*m*m*m*x3 + M*M*M*m*x2 - 4*L*M*l*m*x2 - 2*M*l*l*m*x2 - 2*L*M*m*m*x2 - M*M*m*m*x2 + 2*M*l*m*m*x2 - 2*l*l*m*m*x2 - 2*L*m*m*m*x2 - 2*l*m*m*m*x2 + 2*m*m*m*m*x2 - 2*L*m*x1*x3 - 2*M*m*x1*x3 - 4*L*m*x3*x3 + 4*m*m*x3*x3 + 4*L*M*M*y2 - 2*M*M*M*y2 + 4*L*M*l*y2 + 2*M*M*l*y2 + 2*M*l*l*y2 + 2*L*M*m*y2 + 8*L*l*m*y2 - 2*M*l*m*y2 + 2*l*l*m*y2 - 2*L*m*m*y2 + 4*M*m*m*y2 - 8*l*m*m*y2 + 2*m*m*m*y2 + 2*L*m*x1*x2 + 2*M*m*x1*x2 - 2*L*m*x3*x2 - M*m*x3*x2 + m*m*x3*x2 - 3*M*M*x2*x2 + 6*L*m*x2*x2 + 10*M*m*x2*x2 - 2*m*m*x2*x2 - 2*L*x1*y2 + 2*M*x1*y2 - 4*l*x1*y2 - 4*m*x1*y2 + 8*L*x3*y2 - 2*M*x3*y2 + 2*l*x3*y2 - 12*m*x3*y2 + 6*L*y2*x2 - 6*M*y2*x2 + 2*l*y2*x2 - 2*m*y2*x2 + 3*x1*x2*x2 - 6*x3*x2*x2 - 6*x2*x2*x2) h1 (dc (-2*xs*M*l*m*x3 - 2*xs*M*m*m*x3 - 2*xs*l*m*m*x3 - 2*xs*m*m*m*x3 + 2*xs*M*l*m*x2 + 2*xs*M*m*m*x2 + 2*xs*l*m*m*x2 + 2*xs*m*m*m*x2 - 2*xs*M*M*y2 - 2*xs*M*l*y2 - 2*xs*M*m*y2 - 2*xs*l*m*y2 + 4*xs*x1*y2 - 2*xs*x3*y2 - 2*xs*y2*x2 - M*M*M*x1*x3 + M*M*l*x1*x3 + 2*L*M*m*x1*x3 + 2*M*M*m*x1*x3 - 4*L*l*m*x1*x3 - 2*M*l*m*x1*x3 - 2*L*m*m*x1*x3 - 2*M*m*m*x1*x3 + 4*l*m*m*x1*x3 + 2*m*m*m*x1*x3 + M*M*M*x1*x2 - M*M*l*x1*x2 - 2*L*M*m*x1*x2 - 2*M*M*m*x1*x2 + 4*L*l*m*x1*x2 + 2*M*l*m*x1*x2 + 2*L*m*m*x1*x2 + 2*M*m*m*x1*x2 - 4*l*m*m*x1*x2 - 2*m*m*m*x1*x2 + M*M*M*x3*x2 - M*M*l*x3*x2 - 2*L*M*m*x3*x2 - 2*M*M*m*x3*x2 + 4*L*l*m*x3*x2 + 4*M*l*m*x3*x2 + 2*L*m*m*x3*x2 + 4*M*m*m*x3*x2 - 2*l*m*m*x3*x2 - M*M*M*x2*x2 + M*M*l*x2*x2 + 2*L*M*m*x2*x2 + 2*M*M*m*x2*x2 - 4*L*l*m*x2*x2 - 4*M*l*m*x2*x2 - 2*L*m*m*x2*x2 - 4*M*m*m*x2*x2 + 2*l*m*m*x2*x2 - 2*M*x1*x3*x3 + 2*l*x1*x3*x3 + 2*L*M*x1*y2 + 2*M*M*x1*y2 + 4*L*l*x1*y2 + 2*M*l*x1*y2 + 6*L*m*x1*y2 - 2*M*m*x1*y2 - 2*l*m*x1*y2 - 8*m*m*x1*y2 + 2*M*M*x3*y2 - 8*L*m*x3*y2 - 8*M*m*x3*y2 + 4*m*m*x3*y2 + M*x1*x3*x2 - l*x1*x3*x2 + 2*M*x3*x3*x2 - 2*l*x3*x3*x2 - 2*L*M*y2*x2 - 2*M*M*y2*x2 - 4*L*l*y2*x2 + 2*L*m*y2*x2 + 12*M*m*y2*x2 + 4*l*m*y2*x2 + 4*m*m*y2*x2 + 4*M*x1*x2*x2 - l*x1*x2*x2 + 3*m*x1*x2*x2 - M*x3*x2*x2 + l*x3*x2*x2 - 4*M*x2*x2*x2 + l*x2*x2*x2 - 3*m*x2*x2*x2 - 4*x1*x1*y2 + 4*x1*x3*y2 + 4*x3*x3*y2 + 8*L*y2*y2 - 8*m*y2*y2 - 4*x3*y2*x2) h2 (dc (-2*M*l*l*m*x3 + 4*L*M*m*m*x3 - 2*l*l*m*m*x3 - 2*M*m*m*m*x3 + 2*m*m*m*m*x3 + 2*M*l*l*m*x2 - 4*L*M*m*m*x2 + 2*l*l*m*m*x2 + 2*M*m*m*m*x2 - 2*m*m*m*m*x2 + 2*L*m*x1*x3 + 2*M*m*x1*x3 + 4*L*m*x3*x3 - 2*M*m*x3*x3 - 6*m*m*x3*x3 + 2*M*M*M*y2 - 2*M*M*l*y2 - 2*M*l*l*y2 + 4*L*M*m*y2 - 2*M*M*m*y2 - 2*l*l*m*y2 + 8*L*m*m*y2 - 2*M*m*m*y2 + 2*l*m*m*y2 - 8*m*m*m*y2 - 2*L*m*x1*x2 - 2*M*m*x1*x2 + 2*L*m*x3*x2 + 2*M*m*x3*x2 + 3*M*M*x2*x2 - 6*L*m*x2*x2 - 6*M*m*x2*x2 + 6*m*m*x2*x2 - 6*L*x1*y2 - 2*M*x1*y2 + 4*l*x1*y2 + 6*m*x1*y2 - 4*L*x3*y2 + 2*M*x3*y2 - 2*l*x3*y2 + 4*m*x3*y2 - 2*L*y2*x2 + 6*M*y2*x2 - 2*l*y2*x2 + 2*m*y2*x2 - 3*x1*x2*x2 + 6*x3*x2*x2 + 6*x2*x2*x2 - 4*y2*y2) h3 (dc (M*M*M*x3*x3 - 2*L*M*m*x3*x3 - M*M*m*x3*x3 - 2*L*m*m*x3*x3 + 2*m*m*m*x3*x3 - 2*M*M*M*x3*x2 + 4*L*M*m*x3*x2 + 2*M*M*m*x3*x2 + 4*L*m*m*x3*x2 - 4*m*m*m*x3*x2 + M*M*M*x2*x2 - 2*L*M*m*x2*x2 - M*M*m*x2*x2 - 2*L*m*m*x2*x2 + 2*m*m*m*x2*x2 + 2*M*x3*x3*x3 + 2*m*x3*x3*x3 - 2*L*M*x3*y2 - 2*M*M*x3*y2 + 2*L*m*x3*y2 - 4*M*m*x3*y2 + 2*m*m*x3*y2 - 3*M*x3*x3*x2 - 3*m*x3*x3*x2 + 2*L*M*y2*x2 + 2*M*M*y2*x2 - 2*L*m*y2*x2 + 4*M*m*y2*x2 - 2*m*m*y2*x2 - 3*M*x3*x2*x2 - 3*m*x3*x2*x2 + 4*M*x2*x2*x2 + 4*m*x2*x2*x2 + 4*L*y2*y2 - 8*M*y2*y2 - 4*m*y2*y2) h4 (dc (-M*M*x3*x3 + 2*L*m*x3*x3 + 2*M*m*x3*x3 - 2*m*m*x3*x3 + 2*M*M*x3*x2 - 4*L*m*x3*x2 - 4*M*m*x3*x2 + 4*m*m*x3*x2 - M*M*x2*x2 + 2*L*m*x2*x2 + 2*M*m*x2*x2 - 2*m*m*x2*x2 - 2*x3*x3*x3 + 2*L*x3*y2 + 2*M*x3*y2 - 2*m*x3*y2 + 3*x3*x3*x2 - 2*L*y2*x2 - 2*M*y2*x2 + 2*m*y2*x2 + 3*x3*x2*x2 - 4*x2*x2*x2 + 4*y2*y2) h5 (dc (4*m*x3*y2 - 4*m*y2*x2 + 4*y2*y2) h6 (dc (-4*L*m*x3*y2 + 4*M*m*x3*y2 + 4*L*m*y2*x2 - 4*M*m*y2*x2 - 4*L*y2*y2 + 4*M*y2*y2) h7 (dc (-4*m*x3*y2 + 4*m*y2*x2 - 4*y2*y2) h8 (dc (-M*M*M*x3 + M*M*l*x3 + 2*L*M*m*x3 + 2*M*M*m*x3 - 4*L*l*m*x3 - 2*M*l*m*x3 - 2*L*m*m*x3 - 2*M*m*m*x3 + 4*l*m*m*x3 + 2*m*m*m*x3 + M*M*M*x2 - M*M*l*x2 - 2*L*M*m*x2 - 2*M*M*m*x2 + 4*L*l*m*x2 + 2*M*l*m*x2 + 2*L*m*m*x2 + 2*M*m*m*x2 - 4*l*m*m*x2 - 2*m*m*m*x2 - 2*M*x3*x3 + 2*l*x3*x3 + 2*L*M*y2 + 2*M*M*y2 + 4*L*l*y2 + 2*M*l*y2 + 6*L*m*y2 - 2*M*m*y2 - 2*l*m*y2 - 8*m*m*y2 + M*x3*x2 - l*x3*x2 + 4*M*x2*x2 - l*x2*x2 + 3*m*x2*x2 - 4*x1*y2 + 4*x3*y2) h9 (dc (M*M*M*x3 - 2*L*M*m*x3 - M*M*m*x3 + 4*L*l*m*x3 + 2*M*l*m*x3 + 2*L*m*m*x3 + 2*M*m*m*x3 - 2*l*m*m*x3 - M*M*M*x2 + 2*L*M*m*x2 + M*M*m*x2 - 4*L*l*m*x2 - 2*M*l*m*x2 - 2*L*m*m*x2 - 2*M*m*m*x2 + 2*l*m*m*x2 + 2*M*x3*x3 + 2*m*x3*x3 - 2*L*M*y2 + 2*M*M*y2 - 4*L*l*y2 + 2*M*l*y2 - 6*L*m*y2 - 2*M*m*y2 + 6*l*m*y2 + 6*m*m*y2 - M*x3*x2 - m*x3*x2 - 4*M*x2*x2 - 4*m*x2*x2 - 2*x1*y2 + 4*x3*y2 + 4*y2*x2) h10 (dc (-2*L*M*l*m*x3 - 2*M*l*l*m*x3 + 2*L*M*m*m*x3 - 2*L*l*m*m*x3 - 2*l*l*m*m*x3 - 2*L*m*m*m*x3 - 2*M*m*m*m*x3 + 2*m*m*m*m*x3 + 2*L*M*l*m*x2 + 2*M*l*l*m*x2 - 2*L*M*m*m*x2 + 2*L*l*m*m*x2 + 2*l*l*m*m*x2 + 2*L*m*m*m*x2 + 2*M*m*m*m*x2 - 2*m*m*m*m*x2 + 2*L*m*x1*x3 + 2*M*m*x1*x3 + 4*L*m*x3*x3 - 2*M*m*x3*x3 - 6*m*m*x3*x3 - 2*L*M*M*y2 + 2*M*M*M*y2 - 2*L*M*l*y2 - 2*M*M*l*y2 - 2*M*l*l*y2 + 2*L*M*m*y2 - 2*M*M*m*y2 - 2*L*l*m*y2 - 2*l*l*m*y2 + 8*L*m*m*y2 - 2*M*m*m*y2 + 2*l*m*m*y2 - 8*m*m*m*y2 - 2*L*m*x1*x2 - 2*M*m*x1*x2 + 2*L*m*x3*x2 + 2*M*m*x3*x2 + 3*M*M*x2*x2 - 6*L*m*x2*x2 - 6*M*m*x2*x2 + 6*m*m*x2*x2 - 2*L*x1*y2 - 2*M*x1*y2 + 4*l*x1*y2 + 6*m*x1*y2 - 6*L*x3*y2 + 2*M*x3*y2 - 2*l*x3*y2 + 8*m*x3*y2 - 4*L*y2*x2 + 6*M*y2*x2 - 2*l*y2*x2 - 2*m*y2*x2 - 3*x1*x2*x2 + 6*x3*x2*x2 + 6*x2*x2*x2) h11 (dc (-2*M*l*m*x3 - 2*M*m*m*x3 - 2*l*m*m*x3 - 2*m*m*m*x3 + 2*M*l*m*x2 + 2*M*m*m*x2 + 2*l*m*m*x2 + 2*m*m*m*x2 - 2*M*M*y2 - 2*M*l*y2 - 2*M*m*y2 - 2*l*m*y2 + 4*x1*y2 - 2*x3*y2 - 2*y2*x2) h12 (dc (M*M*x3*x3 - 2*L*m*x3*x3 - 2*M*m*x3*x3 + 2*m*m*x3*x3 - 2*M*M*x3*x2 + 4*L*m*x3*x2 + 4*M*m*x3*x2 - 4*m*m*x3*x2 + M*M*x2*x2 - 2*L*m*x2*x2 - 2*M*m*x2*x2 + 2*m*m*x2*x2 + 2*x3*x3*x3 - 2*L*x3*y2 - 2*M*x3*y2 + 2*m*x3*y2 - 3*x3*x3*x2 + 2*L*y2*x2 + 2*M*y2*x2 - 2*m*y2*x2 - 3*x3*x2*x2 + 4*x2*x2*x2 - 4*y2*y2) h13 (dc (2*L*L*M*l*m*x3 + 2*L*M*l*l*m*x3 - 2*L*L*M*m*m*x3 + 2*L*L*l*m*m*x3 - 4*L*M*l*m*m*x3 + 2*L*l*l*m*m*x3 - 2*M*l*l*m*m*x3 + 2*L*L*m*m*m*x3 + 2*L*M*m*m*m*x3 + 2*M*l*m*m*m*x3 - 2*l*l*m*m*m*x3 - 2*L*m*m*m*m*x3 - 2*l*m*m*m*m*x3 - 2*L*L*M*l*m*x2 - 2*L*M*l*l*m*x2 + 2*L*L*M*m*m*x2 - 2*L*L*l*m*m*x2 + 4*L*M*l*m*m*x2 - 2*L*l*l*m*m*x2 + 2*M*l*l*m*m*x2 - 2*L*L*m*m*m*x2 - 2*L*M*m*m*m*x2 - 2*M*l*m*m*m*x2 + 2*l*l*m*m*m*x2 + 2*L*m*m*m*m*x2 + 2*l*m*m*m*m*x2 + M*M*M*x1*x3 - M*M*l*x1*x3 - 2*L*L*m*x1*x3 - 4*L*M*m*x1*x3 - 2*M*M*m*x1*x3 + 2*L*l*m*x1*x3 + 2*M*l*m*x1*x3 + 2*L*m*m*x1*x3 + 4*M*m*m*x1*x3 - 2*l*m*m*x1*x3 - 4*L*L*m*x3*x3 + 2*L*M*m*x3*x3 - 4*L*l*m*x3*x3 + 6*L*m*m*x3*x3 - 2*M*m*m*x3*x3 + 4*l*m*m*x3*x3 - 2*m*m*m*x3*x3 + 2*L*L*M*M*y2 - 2*L*M*M*M*y2 + 2*L*L*M*l*y2 + 2*L*M*M*l*y2 - 2*M*M*M*l*y2 + 2*L*M*l*l*y2 - 2*L*L*M*m*y2 + 2*L*M*M*m*y2 + 2*L*L*l*m*y2 - 4*L*M*l*m*y2 + 2*M*M*l*m*y2 + 2*L*l*l*m*y2 - 2*M*l*l*m*y2 - 8*L*L*m*m*y2 + 2*L*M*m*m*y2 - 10*L*l*m*m*y2 + 2*M*l*m*m*y2 - 2*l*l*m*m*y2 + 8*L*m*m*m*y2 + 8*l*m*m*m*y2 - M*M*M*x1*x2 + M*M*l*x1*x2 + 2*L*L*m*x1*x2 + 4*L*M*m*x1*x2 + 2*M*M*m*x1*x2 - 2*L*l*m*x1*x2 - 2*M*l*m*x1*x2 - 2*L*m*m*x1*x2 - 4*M*m*m*x1*x2 + 2*l*m*m*x1*x2 - M*M*M*x3*x2 + M*M*l*x3*x2 - 2*L*L*m*x3*x2 + 2*M*M*m*x3*x2 - 6*L*l*m*x3*x2 - 2*M*l*m*x3*x2 - 2*L*m*m*x3*x2 + 6*l*m*m*x3*x2 + 4*m*m*m*x3*x2 - 3*L*M*M*x2*x2 + M*M*M*x2*x2 - 4*M*M*l*x2*x2 + 6*L*L*m*x2*x2 + 4*L*M*m*x2*x2 - 2*M*M*m*x2*x2 + 10*L*l*m*x2*x2 + 8*M*l*m*x2*x2 - 4*L*m*m*x2*x2 + 2*M*m*m*x2*x2 - 10*l*m*m*x2*x2 - 2*m*m*m*x2*x2 + 2*M*x1*x3*x3 - 2*l*x1*x3*x3 + 2*L*L*x1*y2 - 2*L*l*x1*y2 + 2*M*l*x1*y2 - 12*L*m*x1*y2 + 4*M*m*x1*y2 - 2*l*m*x1*y2 + 8*m*m*x1*y2 + 6*L*L*x3*y2 - 2*L*M*x3*y2 - 4*M*M*x3*y2 + 6*L*l*x3*y2 - 4*M*l*x3*y2 + 4*L*m*x3*y2 + 6*M*m*x3*y2 - 6*l*m*x3*y2 - 4*m*m*x3*y2 - M*x1*x3*x2 + l*x1*x3*x2 - 2*M*x3*x3*x2 + 2*l*x3*x3*x2 + 4*L*L*y2*x2 - 4*L*M*y2*x2 + 4*M*M*y2*x2 + 8*L*l*y2*x2 - 4*M*l*y2*x2 - 4*L*m*y2*x2 - 10*M*m*y2*x2 - 4*l*m*y2*x2 - 4*m*m*y2*x2 + 3*L*x1*x2*x2 - 4*M*x1*x2*x2 + 4*l*x1*x2*x2 - 3*m*x1*x2*x2 - 6*L*x3*x2*x2 + M*x3*x2*x2 - 7*l*x3*x2*x2 - 6*L*x2*x2*x2 + 4*M*x2*x2*x2 - 7*l*x2*x2*x2 + 3*m*x2*x2*x2 + 2*x1*x3*y2 - 6*x3*x3*y2 - 4*L*y2*y2 + 4*l*y2*y2 + 8*m*y2*y2 - 2*x1*y2*x2 + 4*x3*y2*x2 + 2*y2*x2*x2) h14 (dc (-4*L*m*x3*y2 + 4*L*m*y2*x2 - 4*L*y2*y2) h15 (dz p))))))))))))))))) (by clear h0 h1 h2 h3 h4 h5 h6 h7 h8 h9 h10 h11 h12 h13 h14 h15; grind)
end Go.Proofs.Ytkedomfjjahjnaa

namespace Go.Proofs.Ytkedomfjjahjnaa
theorem Pr.dP {p : Nat} (h : Pr p) {a b : Int} (hd : (p : Int) ∣ a * b) : (p : Int) ∣ a ∨ (p : Int) ∣ b := by
  rw [Int.ofNat_dvd_left, Int.natAbs_mul] at hd
  rcases h.VI hd with h1 | h1
  · exact .inl (Int.ofNat_dvd_left.2 h1)
  · exact .inr (Int.ofNat_dvd_left.2 h1)
def nm (p : Nat) (z : Int) : Nat := (z % (p : Int)).toNat
theorem acJ {p : Nat} (hp : 0 < p) (z : Int) : ((nm p z : Nat) : Int) = z % (p : Int) := by
  unfold nm
  have := Int.emod_nonneg z (show (p : Int) ≠ 0 by omega)
  omega
theorem nO {p : Nat} (hp : 0 < p) (z : Int) : (p : Int) ∣ ((nm p z : Nat) : Int) - z := by
  rw [acJ hp]
  have := Int.emod_add_mul_ediv z p
  exact ⟨-(z / p), by grind⟩
theorem Cj {p : Nat} (hp : 0 < p) (z : Int) : nm p z < p := by
  have h := acJ hp z
  have := Int.emod_lt_of_pos z (show (0 : Int) < p by omega)
  omega
theorem fD {p a b : Nat} (ha : a < p) (hb : b < p) (h : (p : Int) ∣ (a : Int) - (b : Int)) : a = b := by
  obtain ⟨k, hk⟩ := h
  have hpk : (p : Int) * k < p * 1 ∧ (p : Int) * (-1) < p * k := by constructor <;> omega
  have h1 := Int.lt_of_mul_lt_mul_left hpk.1 (by omega)
  have h2 := Int.lt_of_mul_lt_mul_left hpk.2 (by omega)
  have : k = 0 := by omega
  subst this
  omega
theorem acI {p a : Nat} {z : Int} (ha : a < p) (h : (p : Int) ∣ (a : Int) - z) : nm p z = a := by
  have hp : 0 < p := by omega
  refine fD (Cj hp z) ha ?_
  obtain ⟨k, hk⟩ := h
  obtain ⟨k2, h2⟩ := nO hp z
  exact ⟨k2 - k, by grind⟩
def am3 (p : Nat) (a : Int) : Int := ((nm p a ^ (p - 2) : Nat) : Int)
theorem adA {p : Nat} (h : Pr p) {a : Int} (ha : ¬ (p : Int) ∣ a) : (p : Int) ∣ a * am3 p a - 1 := by
  have hp := h.pos
  have h2 := h.1
  obtain ⟨k, hk⟩ := nO hp a
  have hn : ¬ p ∣ nm p a := fun hd => by
    obtain ⟨c, hc⟩ := Int.natCast_dvd_natCast.2 hd
    exact ha ⟨c - k, by grind⟩
  have hf := VA h hn
  have e : nm p a ^ (p - 1) = nm p a * nm p a ^ (p - 2) := by
    rw [show p - 1 = (p - 2) + 1 by omega, Nat.pow_succ, Nat.mul_comm]
  rw [e] at hf
  have hd := Nat.div_add_mod (nm p a * nm p a ^ (p - 2)) p
  rw [hf] at hd
  unfold am3
  generalize nm p a ^ (p - 2) = i at *
  have hd2 : ((p : Nat) : Int) * ((nm p a * i / p : Nat) : Int) + 1 = (nm p a : Int) * (i : Int) := by
    have := congrArg (fun n : Nat => (n : Int)) hd
    simp only [Int.natCast_add, Int.natCast_mul] at this
    exact this
  exact ⟨((nm p a * i / p : Nat) : Int) - k * i, by grind⟩
structure Cur (p b : Nat) : Prop where
  pr : Pr p
  big : 5 ≤ p
  n2 : ∀ x : Int, ¬ (p : Int) ∣ x * x * x + b
theorem Cur.pos {p b : Nat} (c : Cur p b) : 0 < p := c.pr.pos
theorem Cur.no2 {p b : Nat} (c : Cur p b) : ¬ (p : Int) ∣ 2 := fun h => by
  have := Int.le_of_dvd (by decide) h
  have := c.big
  omega
theorem Cur.no4 {p b : Nat} (c : Cur p b) : ¬ (p : Int) ∣ 4 := fun h => by
  have := Int.le_of_dvd (by decide) h
  have := c.big
  omega
abbrev Cv (p b : Nat) (x y : Int) : Prop := (p : Int) ∣ y * y - x * x * x - b
theorem Cur.yne {p b : Nat} (c : Cur p b) {x y : Int} (h : Cv p b x y) : ¬ (p : Int) ∣ y := fun hy => by
  obtain ⟨k, hk⟩ := h
  obtain ⟨m, hm⟩ := hy
  exact c.n2 x ⟨m * y - k, by grind⟩
abbrev PtQ : Type := Option (Nat × Nat)
def OnQ (p b : Nat) : PtQ → Prop
  | none => True
  | some P => P.1 < p ∧ P.2 < p ∧ Cv p b P.1 P.2
structure Lin (p : Nat) (x1 y1 x2 y2 l : Int) : Prop where
  a : (p : Int) ∣ l * (x1 - x2) - (y1 - y2)
  b : (p : Int) ∣ l * (y1 + y2) - (x1 * x1 + x1 * x2 + x2 * x2)
structure Thd (p : Nat) (x1 y1 x2 l x3 y3 : Int) : Prop where
  x : (p : Int) ∣ x3 - (l * l - x1 - x2)
  y : (p : Int) ∣ y3 - (l * (x1 - x3) - y1)
def nL (p : Nat) (P R : Nat × Nat) : Int := if P.1 = R.1 then 3 * P.1 * P.1 * am3 p (P.2 + P.2) else ((R.2 : Int) - P.2) * am3 p ((R.1 : Int) - P.1)
def rF (p : Nat) (P R : Nat × Nat) (l : Int) : Nat × Nat := (nm p (l * l - P.1 - R.1), nm p (l * (P.1 - nm p (l * l - P.1 - R.1)) - P.2))
def cQ (p : Nat) : PtQ → PtQ → PtQ
  | none, R => R
  | some P, none => some P
  | some P, some R => if P.1 = R.1 ∧ P.2 ≠ R.2 then none else some (rF p P R (nL p P R))
def IY (p : Nat) : PtQ → PtQ
  | none => none
  | some P => some (P.1, nm p (-P.2))
variable {p b : Nat}
theorem K5 (c : Cur p b) {P R : Nat × Nat} (hP : OnQ p b (some P)) (hR : OnQ p b (some R)) (h : ¬(P.1 = R.1 ∧ P.2 ≠ R.2)) : Lin p P.1 P.2 R.1 R.2 (nL p P R) := by
  obtain ⟨x1, y1⟩ := P
  obtain ⟨x2, y2⟩ := R
  obtain ⟨hx1, hy1, hc1⟩ := hP
  obtain ⟨hx2, hy2, hc2⟩ := hR
  dsimp only at *
  unfold nL
  dsimp only
  by_cases e : x1 = x2
  · have e2 : y1 = y2 := Classical.byContradiction fun h2 => h ⟨e, h2⟩
    subst e e2
    rw [if_pos rfl]
    have hn : ¬ (p : Int) ∣ (y1 : Int) + y1 := fun hd => by
      rw [← Int.two_mul] at hd
      rcases c.pr.dP hd with h1 | h1
      · exact c.no2 h1
      · exact c.yne hc1 h1
    obtain ⟨k, hk⟩ := adA c.pr hn
    generalize am3 p ((y1 : Int) + y1) = i at *
    exact ⟨⟨0, by grind⟩, ⟨3 * x1 * x1 * k, by grind⟩⟩
  · rw [if_neg e]
    have hn : ¬ (p : Int) ∣ (x2 : Int) - x1 := fun hd => e (fD hx2 hx1 hd).symm
    have hn' : ¬ (p : Int) ∣ (x1 : Int) - x2 := fun ⟨k, hk⟩ => hn ⟨-k, by grind⟩
    obtain ⟨k, hk⟩ := adA c.pr hn
    generalize am3 p ((x2 : Int) - x1) = i at *
    have ha : (p : Int) ∣ ((y2 : Int) - y1) * i * ((x1 : Int) - x2) - (y1 - y2) := ⟨(y1 - y2) * k, by grind⟩
    refine ⟨ha, ?_⟩
    have hc1' : (p : Int) ∣ (y1 : Int) * y1 - x1 * x1 * x1 - b := hc1
    have hc2' : (p : Int) ∣ (y2 : Int) * y2 - x2 * x2 * x2 - b := hc2
    rcases c.pr.dP (aeW hc1' hc2' ha) with h1 | h1
    · exact absurd h1 hn'
    · exact h1
theorem ahJ (c : Cur p b) {x1 y1 x2 y2 l m : Int} (hy : ¬ (p : Int) ∣ y1) (h1 : Lin p x1 y1 x2 y2 l) (h2 : Lin p x1 y1 x2 y2 m) : (p : Int) ∣ l - m := by
  obtain ⟨k1, e1⟩ := h1.a
  obtain ⟨k2, e2⟩ := h2.a
  obtain ⟨k3, e3⟩ := h1.b
  obtain ⟨k4, e4⟩ := h2.b
  rcases c.pr.dP (a := l - m) (b := x1 - x2) ⟨k1 - k2, by grind⟩ with h | h
  · exact h
  · rcases c.pr.dP (a := l - m) (b := y1 + y2) ⟨k3 - k4, by grind⟩ with h' | h'
    · exact h'
    · obtain ⟨m1, f1⟩ := h
      obtain ⟨m2, f2⟩ := h'
      rcases c.pr.dP (a := 2) (b := y1) ⟨l * m1 - k1 + m2, by grind⟩ with h3 | h3
      · exact absurd h3 c.no2
      · exact absurd h3 hy
theorem TR (c : Cur p b) {P R S : Nat × Nat} {l : Int} (hP : OnQ p b (some P)) (hR : OnQ p b (some R)) (hl : Lin p P.1 P.2 R.1 R.2 l) (hS1 : S.1 < p) (hS2 : S.2 < p)
    (ht : Thd p P.1 P.2 R.1 l S.1 S.2) : cQ p (some P) (some R) = some S := by
  have hn : ¬(P.1 = R.1 ∧ P.2 ≠ R.2) := fun ⟨e1, e2⟩ => by
    obtain ⟨k, hk⟩ := hl.a
    rw [e1] at hk
    exact e2 (fD hP.2.1 hR.2.1 ⟨-k, by grind⟩)
  have hs := K5 c hP hR hn
  obtain ⟨k, hk⟩ := ahJ c (c.yne hP.2.2) hs hl
  have : cQ p (some P) (some R) = some (rF p P R (nL p P R)) := if_neg hn
  rw [this]
  congr 1
  generalize nL p P R = s at *
  obtain ⟨k1, h1⟩ := ht.x
  obtain ⟨k2, h2⟩ := ht.y
  have ex : nm p (s * s - P.1 - R.1) = S.1 := acI hS1 ⟨k1 - k * (s + l), by grind⟩
  unfold rF
  rw [ex]
  have ey : nm p (s * ((P.1 : Int) - S.1) - P.2) = S.2 := acI hS2 ⟨k2 - k * (P.1 - S.1), by grind⟩
  rw [ey]
theorem kL (c : Cur p b) {P R S : Nat × Nat} (hP : OnQ p b (some P)) (hR : OnQ p b (some R)) (h : cQ p (some P) (some R) = some S) :
    S.1 < p ∧ S.2 < p ∧ ∃ l, Lin p P.1 P.2 R.1 R.2 l ∧ Thd p P.1 P.2 R.1 l S.1 S.2 := by
  by_cases hn : P.1 = R.1 ∧ P.2 ≠ R.2
  · have : cQ p (some P) (some R) = none := if_pos hn
    rw [this] at h
    cases h
  · have hs := K5 c hP hR hn
    have : cQ p (some P) (some R) = some (rF p P R (nL p P R)) := if_neg hn
    rw [this] at h
    cases h
    exact ⟨Cj c.pos _, Cj c.pos _, _, hs, nO c.pos _, nO c.pos _⟩
theorem zr (c : Cur p b) {P : PtQ} (h : OnQ p b P) : OnQ p b (IY p P) := by
  cases P with
  | none => trivial
  | some P =>
    obtain ⟨k, hk⟩ := nO c.pos (-(P.2 : Int))
    obtain ⟨m, hm⟩ := h.2.2
    exact ⟨h.1, Cj c.pos _, ⟨m + k * ((nm p (-(P.2 : Int)) : Int) - P.2), by show ((nm p (-(P.2 : Int)) : Nat) : Int) * (nm p (-(P.2 : Int)) : Nat) - (P.1 : Int) * P.1 * P.1 - b = _; grind⟩⟩
theorem fO (c : Cur p b) {P R : PtQ} (hP : OnQ p b P) (hR : OnQ p b R) : OnQ p b (cQ p P R) := by
  cases P with
  | none => exact hR
  | some P =>
    cases R with
    | none => exact hP
    | some R =>
      cases h : cQ p (some P) (some R) with
      | none => trivial
      | some S =>
        obtain ⟨h1, h2, l, hl, ht⟩ := kL c hP hR h
        exact ⟨h1, h2, anu ht.y ht.x hl.a hl.b hP.2.2⟩
theorem acE (c : Cur p b) {P R : Nat × Nat} (hP : OnQ p b (some P)) (hR : OnQ p b (some R)) (h : P.1 = R.1 ∧ P.2 ≠ R.2) : some R = IY p (some P) := by
  obtain ⟨x1, y1⟩ := P
  obtain ⟨x2, y2⟩ := R
  obtain ⟨hx1, hy1, hc1⟩ := hP
  obtain ⟨hx2, hy2, hc2⟩ := hR
  dsimp only at *
  obtain ⟨rfl, hne⟩ := h
  obtain ⟨k1, e1⟩ := hc1
  obtain ⟨k2, e2⟩ := hc2
  rcases c.pr.dP (a := (y1 : Int) - y2) (b := (y1 : Int) + y2) ⟨k1 - k2, by grind⟩ with h | h
  · exact absurd (fD hy1 hy2 h) hne
  · obtain ⟨k, hk⟩ := h
    have : nm p (-(y1 : Int)) = y2 := acI hy2 ⟨k, by grind⟩
    show _ = some (x1, nm p (-(y1 : Int)))
    rw [this]
theorem bW (P : PtQ) : cQ p P none = P := by cases P <;> rfl
theorem UD (P : PtQ) : cQ p none P = P := rfl
theorem add_neg (c : Cur p b) {P : PtQ} (hP : OnQ p b P) : cQ p P (IY p P) = none := by
  cases P with
  | none => rfl
  | some P =>
    refine if_pos ⟨rfl, fun e => ?_⟩
    have e : P.2 = nm p (-(P.2 : Int)) := e
    obtain ⟨k, hk⟩ := nO c.pos (-(P.2 : Int))
    rw [← e] at hk
    rcases c.pr.dP (a := 2) (b := (P.2 : Int)) ⟨k, by grind⟩ with h | h
    · exact c.no2 h
    · exact c.yne hP.2.2 h
theorem neg_neg (c : Cur p b) {P : PtQ} (hP : OnQ p b P) : IY p (IY p P) = P := by
  cases P with
  | none => rfl
  | some P =>
    obtain ⟨k, hk⟩ := nO c.pos (-(P.2 : Int))
    have : nm p (-((nm p (-(P.2 : Int)) : Nat) : Int)) = P.2 := acI hP.2.1 ⟨k, by grind⟩
    show some (P.1, nm p (-((nm p (-(P.2 : Int)) : Nat) : Int))) = _
    rw [this]
theorem add_comm (c : Cur p b) {P R : PtQ} (hP : OnQ p b P) (hR : OnQ p b R) : cQ p P R = cQ p R P := by
  cases P with
  | none => exact (bW R).symm
  | some P =>
    cases R with
    | none => rfl
    | some R =>
      cases h : cQ p (some P) (some R) with
      | none =>
        by_cases hn : P.1 = R.1 ∧ P.2 ≠ R.2
        · exact (if_pos ⟨hn.1.symm, fun e => hn.2 e.symm⟩).symm
        · have : cQ p (some P) (some R) = some (rF p P R (nL p P R)) := if_neg hn
          rw [this] at h
          cases h
      | some S =>
        obtain ⟨h1, h2, l, hl, ht⟩ := kL c hP hR h
        obtain ⟨k1, e1⟩ := hl.a
        obtain ⟨k2, e2⟩ := hl.b
        obtain ⟨k3, e3⟩ := ht.x
        exact (TR c hR hP (l := l) ⟨⟨-k1, by grind⟩, ⟨k2, by grind⟩⟩ h1 h2 ⟨⟨k3, by grind⟩, ajB ht.y hl.a⟩).symm
theorem apn {p l x1 x2 y1 y2 z1 z2 k2 k5 k6 : Int} (e2 : l * (y1 + y2) - (x1 * x1 + x1 * x2 + x2 * x2) = p * k2) (e5 : z1 - -y1 = p * k5) (e6 : z2 - -y2 = p * k6) :
    -l * (z1 + z2) - (x1 * x1 + x1 * x2 + x2 * x2) = p * (k2 - l * (k5 + k6)) := by grind
theorem aoM {p l x1 x3 y1 y3 z1 k2 k5 : Int} (e2 : -l * (-y1 + y3) - (x1 * x1 + x1 * x3 + x3 * x3) = p * k2) (e5 : z1 - -y1 = p * k5) :
    -l * (z1 + y3) - (x1 * x1 + x1 * x3 + x3 * x3) = p * (k2 - l * k5) := by grind
theorem neg_add (c : Cur p b) {P R : PtQ} (hP : OnQ p b P) (hR : OnQ p b R) : IY p (cQ p P R) = cQ p (IY p P) (IY p R) := by
  cases P with
  | none => rfl
  | some P =>
    cases R with
    | none => rfl
    | some R =>
      have hP' := zr c hP
      have hR' := zr c hR
      obtain ⟨k5, e5⟩ := nO c.pos (-(P.2 : Int))
      obtain ⟨k6, e6⟩ := nO c.pos (-(R.2 : Int))
      cases h : cQ p (some P) (some R) with
      | none =>
        by_cases hn : P.1 = R.1 ∧ P.2 ≠ R.2
        · have := acE c hP hR hn
          rw [this, add_neg c hP']
          rfl
        · have : cQ p (some P) (some R) = some (rF p P R (nL p P R)) := if_neg hn
          rw [this] at h
          cases h
      | some S =>
        obtain ⟨h1, h2, l, hl, ht⟩ := kL c hP hR h
        obtain ⟨k1, e1⟩ := hl.a
        obtain ⟨k2, e2⟩ := hl.b
        obtain ⟨k3, e3⟩ := ht.x
        obtain ⟨k4, e4⟩ := ht.y
        obtain ⟨k7, e7⟩ := nO c.pos (-(S.2 : Int))
        have g1 : Lin p ((P.1 : Nat) : Int) ((nm p (-(P.2 : Int)) : Nat) : Int) ((R.1 : Nat) : Int) ((nm p (-(R.2 : Int)) : Nat) : Int) (-l) :=
          ⟨⟨-k1 - k5 + k6, by grind⟩, ⟨k2 - l * (k5 + k6), apn e2 e5 e6⟩⟩
        have g2 : Thd p ((P.1 : Nat) : Int) ((nm p (-(P.2 : Int)) : Nat) : Int) ((R.1 : Nat) : Int) (-l) ((S.1 : Nat) : Int) ((nm p (-(S.2 : Int)) : Nat) : Int) :=
          ⟨⟨k3, by grind⟩, ⟨-k4 + k7 + k5, by grind⟩⟩
        exact (TR c (P := (P.1, nm p (-(P.2 : Int)))) (R := (R.1, nm p (-(R.2 : Int)))) (S := (S.1, nm p (-(S.2 : Int)))) hP' hR' g1 h1 (Cj c.pos _) g2).symm
theorem cancel (c : Cur p b) {P R : PtQ} (hP : OnQ p b P) (hR : OnQ p b R) : cQ p (IY p P) (cQ p P R) = R := by
  cases P with
  | none => rfl
  | some P =>
    have hP' := zr c hP
    cases R with
    | none =>
      rw [bW, add_comm c hP' hP, add_neg c hP]
    | some R =>
      cases h : cQ p (some P) (some R) with
      | none =>
        by_cases hn : P.1 = R.1 ∧ P.2 ≠ R.2
        · rw [bW]
          exact (acE c hP hR hn).symm
        · have : cQ p (some P) (some R) = some (rF p P R (nL p P R)) := if_neg hn
          rw [this] at h
          cases h
      | some S =>
        have hS := fO c hP hR
        rw [h] at hS
        obtain ⟨h1, h2, l, hl, ht⟩ := kL c hP hR h
        obtain ⟨k1, e1⟩ := hl.a
        obtain ⟨k2, e2⟩ := aoN ht.y ht.x hl.a hl.b
        obtain ⟨k3, e3⟩ := ht.x
        obtain ⟨k4, e4⟩ := ht.y
        obtain ⟨k5, e5⟩ := nO c.pos (-(P.2 : Int))
        have g1 : Lin p ((P.1 : Nat) : Int) ((nm p (-(P.2 : Int)) : Nat) : Int) ((S.1 : Nat) : Int) ((S.2 : Nat) : Int) (-l) :=
          ⟨⟨k4 - k5, by grind⟩, ⟨k2 - l * k5, aoM e2 e5⟩⟩
        have g2 : Thd p ((P.1 : Nat) : Int) ((nm p (-(P.2 : Int)) : Nat) : Int) ((S.1 : Nat) : Int) (-l) ((R.1 : Nat) : Int) ((R.2 : Nat) : Int) :=
          ⟨⟨k3, by grind⟩, ⟨k1 + k5, by grind⟩⟩
        exact TR c (P := (P.1, nm p (-(P.2 : Int)))) hP' hS g1 hR.1 hR.2.1 g2
theorem Ci (c : Cur p b) {P R : PtQ} (hP : OnQ p b P) (hR : OnQ p b R) (h : cQ p P R = none) : R = IY p P := by
  have := cancel c hP hR
  rw [h, bW] at this
  exact this.symm
theorem IM (c : Cur p b) {u v z : Int} (hu : ¬ (p : Int) ∣ u) (hv : ¬ (p : Int) ∣ v) (h : (p : Int) ∣ u * v * z) : (p : Int) ∣ z := by
  rcases c.pr.dP h with h | h
  · rcases c.pr.dP h with h | h
    · exact absurd h hu
    · exact absurd h hv
  · exact h
theorem UA (c : Cur p b) {z : Int} (h : (p : Int) ∣ 4 * z) : (p : Int) ∣ z := (c.pr.dP h).resolve_left c.no4
theorem acy {X Y : Nat × Nat} (h1 : X.1 = Y.1) (h2 : X.2 = Y.2) : X = Y := by
  obtain ⟨X1, X2⟩ := X
  obtain ⟨Y1, Y2⟩ := Y
  dsimp only at h1 h2
  rw [h1, h2]
theorem HE (c : Cur p b) {P1 P2 P3 S T X Y : Nat × Nat} (h1 : OnQ p b (some P1)) (h2 : OnQ p b (some P2)) (h3 : OnQ p b (some P3)) (hS : cQ p (some P1) (some P2) = some S) (hT : cQ p (some P2) (some P3) = some T)
    (hX : cQ p (some S) (some P3) = some X) (hY : cQ p (some P1) (some T) = some Y) (d1 : (p : Int) ∣ (S.1 : Int) - P3.1) : X = Y := by
  have oS := fO c h1 h2
  have oT := fO c h2 h3
  rw [hS] at oS
  rw [hT] at oT
  obtain ⟨hS1, hS2, l, l1, l2⟩ := kL c h1 h2 hS
  obtain ⟨hT1, hT2, m, m1, m2⟩ := kL c h2 h3 hT
  obtain ⟨hX1, hX2, L, L1, L2⟩ := kL c oS h3 hX
  obtain ⟨hY1, hY2, M, M1, M2⟩ := kL c h1 oT hY
  have n2 := c.yne h2.2.2
  have n3 := c.yne h3.2.2
  have hx := IM c n2 n3 (UA c (by rw [← Int.mul_assoc]; exact aoR l1.a m1.a l2.x l2.y m2.x m2.y L2.x M2.x l1.b m1.b L1.a L1.b M1.a d1))
  have hy := IM c n2 n3 (UA c (by rw [← Int.mul_assoc]; exact aoQ l1.a m1.a l2.x l2.y m2.x m2.y L2.y M2.x M2.y l1.b m1.b L1.a L1.b M1.a d1 hx))
  exact acy (fD hX1 hY1 hx) (fD hX2 hY2 hy)
theorem add_assoc (c : Cur p b) {P R T : PtQ} (hP : OnQ p b P) (hR : OnQ p b R) (hT : OnQ p b T) : cQ p (cQ p P R) T = cQ p P (cQ p R T) := by
  have hPR := fO c hP hR
  have hRT := fO c hR hT
  have nP := zr c hP
  have nR := zr c hR
  have nT := zr c hT
  by_cases hA : cQ p P R = none
  · rw [hA, UD]
    have e := Ci c hP hR hA
    have e2 : P = IY p R := by rw [e, neg_neg c hP]
    rw [e2, cancel c hR hT]
  by_cases hB : cQ p R T = none
  · rw [hB, bW]
    have e := Ci c hR hT hB
    rw [e, add_comm c hPR nR, add_comm c hP hR, cancel c hR hP]
  by_cases hC : cQ p (cQ p P R) T = none
  · rw [hC]
    have e := Ci c hPR hT hC
    rw [e, neg_add c hP hR, add_comm c nP nR]
    have := cancel c nR nP
    rw [neg_neg c hR] at this
    rw [this, add_neg c hP]
  by_cases hD : cQ p P (cQ p R T) = none
  · rw [hD]
    have e := Ci c hRT hP (by rw [add_comm c hRT hP]; exact hD)
    rw [e, neg_add c hR hT]
    have h3 := cancel c nR nT
    rw [neg_neg c hR] at h3
    rw [add_comm c (fO c nR nT) hR, h3, add_comm c nT hT, add_neg c hT]
  cases P with
  | none => rfl
  | some P1 =>
  cases R with
  | none => rw [bW, UD]
  | some P2 =>
  cases T with
  | none => rw [bW, bW]
  | some P3 =>
  cases hS : cQ p (some P1) (some P2) with
  | none => exact absurd hS hA
  | some S =>
  cases hT' : cQ p (some P2) (some P3) with
  | none => exact absurd hT' hB
  | some T =>
  rw [hS] at hPR hC
  rw [hT'] at hRT hD
  cases hX : cQ p (some S) (some P3) with
  | none => exact absurd hX hC
  | some X =>
  cases hY : cQ p (some P1) (some T) with
  | none => exact absurd hY hD
  | some Y =>
  obtain ⟨hS1, hS2, l, l1, l2⟩ := kL c hP hR hS
  obtain ⟨hT1, hT2, m, m1, m2⟩ := kL c hR hT hT'
  obtain ⟨hX1, hX2, L, L1, L2⟩ := kL c hPR hT hX
  obtain ⟨hY1, hY2, M, M1, M2⟩ := kL c hP hRT hY
  congr 1
  by_cases d1 : (p : Int) ∣ (S.1 : Int) - P3.1
  · exact HE c hP hR hT hS hT' hX hY d1
  by_cases d2 : (p : Int) ∣ (P1.1 : Int) - T.1
  · rw [add_comm c hR hT] at hT'
    rw [add_comm c hP hR] at hS
    rw [add_comm c hPR hT] at hX
    rw [add_comm c hP hRT] at hY
    exact (HE c hT hR hP hT' hS hY hX (by obtain ⟨k, hk⟩ := d2; exact ⟨-k, by rw [Int.mul_neg, ← hk]; omega⟩)).symm
  · have hx := IM c d1 d2 (aoP l1.a m1.a l2.x l2.y m2.x m2.y L2.x M2.x l1.b m1.b L1.a M1.a)
    have hy := IM c d1 d2 (aoO l1.a m1.a l2.x l2.y m2.x m2.y L2.x L2.y M2.x M2.y l1.b m1.b L1.a M1.a hx)
    exact acy (fD hX1 hY1 hx) (fD hX2 hY2 hy)
end Go.Proofs.Ytkedomfjjahjnaa

namespace Go.Proofs.Ytkedomfjjahjnaa
set_option maxRecDepth 100000
theorem apx {p xs z3 yz x3 s2 mm m b1 s a1 yy Y X l y x z : Int} (h0 : p ∣ xs-(l*l-x-x)) (h1 : p ∣ l*(y+y)-(x*x+x*x+x*x)) (h2 : p ∣ z3-(yz*2)) (h3 : p ∣ yz-(Y*z)) (h4 : p ∣ x3-(mm-s2)) (h5 : p ∣ s2-(s*2)) (h6 : p ∣ mm-(m*m)) (h7 : p ∣ m-(b1*3)) (h8 : p ∣ b1-(X*X)) (h9 : p ∣ s-(a1*4)) (h10 : p ∣ a1-(X*yy)) (h11 : p ∣ yy-(Y*Y)) (h12 : p ∣ X-x*(z*z)) (h13 : p ∣ Y-y*(z*z*z)) : p ∣ (x3-xs*(z3*z3)) :=
  dk (dc (-z3*z3) h0 (dc (-2*Y*l*z*z*z*z*z - 3*x*x*z*z*z*z*z*z*z*z) h1 (dc (-z3*l*l + 2*z3*x - 2*yz*l*l + 4*yz*x) h2 (dc (-4*yz*l*l + 8*yz*x - 4*Y*l*l*z + 8*Y*x*z) h3 (dc (1) h4 (dc (-1) h5 (dc (1) h6 (dc (m + 3*b1) h7 (dc (9*b1 + 9*X*X) h8 (dc (-2) h9 (dc (-8) h10 (dc (-8*X) h11 (dc (-8*Y*Y + 9*X*X*X + 9*X*X*x*z*z + 9*X*x*x*z*z*z*z + 9*x*x*x*z*z*z*z*z*z) h12 (dc (-4*Y*l*l*z*z - 6*l*x*x*z*z*z*z*z) h13 (dz p))))))))))))))) (by clear h0 h1 h2 h3 h4 h5 h6 h7 h8 h9 h10 h11 h12 h13; grind)
theorem apw {p ys xs z3 yz y3 y8 y4 md d x3 s2 mm m b1 s a1 yy Y X l y x z : Int} (h0 : p ∣ ys-(l*(x-xs)-y)) (h1 : p ∣ xs-(l*l-x-x)) (h2 : p ∣ l*(y+y)-(x*x+x*x+x*x)) (h3 : p ∣ z3-(yz*2)) (h4 : p ∣ yz-(Y*z)) (h5 : p ∣ y3-(md-y8)) (h6 : p ∣ y8-(y4*8)) (h7 : p ∣ y4-(yy*yy)) (h8 : p ∣ md-(m*d)) (h9 : p ∣ d-(s-x3)) (h10 : p ∣ x3-(mm-s2)) (h11 : p ∣ s2-(s*2)) (h12 : p ∣ mm-(m*m)) (h13 : p ∣ m-(b1*3)) (h14 : p ∣ b1-(X*X)) (h15 : p ∣ s-(a1*4)) (h16 : p ∣ a1-(X*yy)) (h17 : p ∣ yy-(Y*Y)) (h18 : p ∣ X-x*(z*z)) (h19 : p ∣ Y-y*(z*z*z)) : p ∣ (y3-ys*(z3*z3*z3)) :=
  dk (dc (-z3*z3*z3) h0 (dc (z3*z3*z3*l) h1 (dc (4*Y*Y*l*l*z*z*z*z*z*z - 12*Y*Y*x*z*z*z*z*z*z + 6*Y*l*x*x*z*z*z*z*z*z*z*z*z + 9*x*x*x*x*z*z*z*z*z*z*z*z*z*z*z*z) h2 (dc (z3*z3*l*l*l - 3*z3*z3*l*x + z3*z3*y + 2*z3*yz*l*l*l - 6*z3*yz*l*x + 2*z3*yz*y + 4*yz*yz*l*l*l - 12*yz*yz*l*x + 4*yz*yz*y) h3 (dc (8*yz*yz*l*l*l - 24*yz*yz*l*x + 8*yz*yz*y + 8*yz*Y*l*l*l*z - 24*yz*Y*l*x*z + 8*yz*Y*y*z + 8*Y*Y*l*l*l*z*z - 24*Y*Y*l*x*z*z + 8*Y*Y*y*z*z) h4 (dc (1) h5 (dc (-1) h6 (dc (-8) h7 (dc (1) h8 (dc (m) h9 (dc (-m) h10 (dc (m) h11 (dc (-m) h12 (dc (-m*m - 3*m*b1 - 9*b1*b1 + 3*s) h13 (dc (-27*b1*b1 - 27*b1*X*X + 9*s - 27*X*X*X*X) h14 (dc (9*X*X) h15 (dc (36*X*X) h16 (dc (-8*yy - 8*Y*Y + 36*X*X*X) h17 (dc (36*Y*Y*X*X + 36*Y*Y*X*x*z*z + 36*Y*Y*x*x*z*z*z*z - 27*X*X*X*X*X - 27*X*X*X*X*x*z*z - 27*X*X*X*x*x*z*z*z*z - 27*X*X*x*x*x*z*z*z*z*z*z - 27*X*x*x*x*x*z*z*z*z*z*z*z*z - 27*x*x*x*x*x*z*z*z*z*z*z*z*z*z*z) h18 (dc (-8*Y*Y*Y + 8*Y*Y*l*l*l*z*z*z - 24*Y*Y*l*x*z*z*z + 12*Y*l*l*x*x*z*z*z*z*z*z + 18*l*x*x*x*x*z*z*z*z*z*z*z*z*z) h19 (dz p))))))))))))))))))))) (by clear h0 h1 h2 h3 h4 h5 h6 h7 h8 h9 h10 h11 h12 h13 h14 h15 h16 h17 h18 h19; grind)
theorem apv {p z3 yz Y y z : Int} (h0 : p ∣ z3-(yz*2)) (h1 : p ∣ yz-(Y*z)) (h2 : p ∣ Y-y*(z*z*z)) : p ∣ (z3-2*(y*(z*(z*(z*z))))) :=
  dk (dc (1) h0 (dc (2) h1 (dc (2*z) h2 (dz p)))) (by clear h0 h1 h2; grind)
theorem apJ {p h v u qz pz X2 X1 x1 x2 z1 z2 : Int} (h0 : p ∣ h-(v-u)) (h1 : p ∣ v-(X2*pz)) (h2 : p ∣ u-(X1*qz)) (h3 : p ∣ qz-(z2*z2)) (h4 : p ∣ pz-(z1*z1)) (h5 : p ∣ X1-x1*(z1*z1)) (h6 : p ∣ X2-x2*(z2*z2)) : p ∣ (h-(x2-x1)*(z1*z1*(z2*z2))) :=
  dk (dc (1) h0 (dc (1) h1 (dc (-1) h2 (dc (-X1) h3 (dc (X2) h4 (dc (-z2*z2) h5 (dc (z1*z1) h6 (dz p)))))))) (by clear h0 h1 h2 h3 h4 h5 h6; grind)
theorem apI {p r t p3 s q3 qz pz Y2 Y1 y1 y2 z1 z2 : Int} (h0 : p ∣ r-(t-s)) (h1 : p ∣ t-(Y2*p3)) (h2 : p ∣ p3-(pz*z1)) (h3 : p ∣ s-(Y1*q3)) (h4 : p ∣ q3-(qz*z2)) (h5 : p ∣ qz-(z2*z2)) (h6 : p ∣ pz-(z1*z1)) (h7 : p ∣ Y1-y1*(z1*z1*z1)) (h8 : p ∣ Y2-y2*(z2*z2*z2)) : p ∣ (r-(y2-y1)*(z1*z1*z1*(z2*z2*z2))) :=
  dk (dc (1) h0 (dc (1) h1 (dc (Y2) h2 (dc (-1) h3 (dc (-Y1) h4 (dc (-Y1*z2) h5 (dc (Y2*z1) h6 (dc (-z2*z2*z2) h7 (dc (z1*z1*z1) h8 (dz p)))))))))) (by clear h0 h1 h2 h3 h4 h5 h6 h7 h8; grind)
theorem apH {p xs z3 zz x3 c2 rh rr cc hhh hh r t p3 h v s q3 u qz pz Y2 X2 Y1 X1 y2 y1 l x1 x2 z1 z2 : Int} (h0 : p ∣ xs-(l*l-x1-x2)) (h1 : p ∣ l*(x1-x2)-(y1-y2)) (h2 : p ∣ z3-(h*zz)) (h3 : p ∣ zz-(z1*z2)) (h4 : p ∣ x3-(rh-c2)) (h5 : p ∣ c2-(cc*2)) (h6 : p ∣ rh-(rr-hhh)) (h7 : p ∣ rr-(r*r)) (h8 : p ∣ cc-(u*hh)) (h9 : p ∣ hhh-(hh*h)) (h10 : p ∣ hh-(h*h)) (h11 : p ∣ r-(t-s)) (h12 : p ∣ t-(Y2*p3)) (h13 : p ∣ p3-(pz*z1)) (h14 : p ∣ h-(v-u)) (h15 : p ∣ v-(X2*pz)) (h16 : p ∣ s-(Y1*q3)) (h17 : p ∣ q3-(qz*z2)) (h18 : p ∣ u-(X1*qz)) (h19 : p ∣ qz-(z2*z2)) (h20 : p ∣ pz-(z1*z1)) (h21 : p ∣ X1-x1*(z1*z1)) (h22 : p ∣ Y1-y1*(z1*z1*z1)) (h23 : p ∣ X2-x2*(z2*z2)) (h24 : p ∣ Y2-y2*(z2*z2*z2)) : p ∣ (x3-xs*(z3*z3)) :=
  dk (dc (-z3*z3) h0 (dc (Y2*z1*z1*z1*z1*z1*z1*z2*z2*z2 - l*x1*z1*z1*z1*z1*z1*z1*z2*z2*z2*z2*z2*z2 + l*x2*z1*z1*z1*z1*z1*z1*z2*z2*z2*z2*z2*z2 - y1*z1*z1*z1*z1*z1*z1*z2*z2*z2*z2*z2*z2) h1 (dc (-z3*l*l + z3*x1 + z3*x2 - zz*h*l*l + zz*h*x1 + zz*h*x2) h2 (dc (-zz*h*h*l*l + zz*h*h*x1 + zz*h*h*x2 - h*h*l*l*z1*z2 + h*h*x1*z1*z2 + h*h*x2*z1*z2) h3 (dc (1) h4 (dc (-1) h5 (dc (1) h6 (dc (1) h7 (dc (-2) h8 (dc (-1) h9 (dc (-h - 2*u) h10 (dc (r + t - s) h11 (dc (t + p3*Y2 - 2*s) h12 (dc (p3*Y2*Y2 - 2*s*Y2 + pz*Y2*Y2*z1) h13 (dc (-h*h - h*v - h*u - h*l*l*z1*z1*z2*z2 + h*x1*z1*z1*z2*z2 + h*x2*z1*z1*z2*z2 - v*v - v*l*l*z1*z1*z2*z2 + v*x1*z1*z1*z2*z2 + v*x2*z1*z1*z2*z2 + u*u + u*l*l*z1*z1*z2*z2 - u*x1*z1*z1*z2*z2 - u*x2*z1*z1*z2*z2) h14 (dc (-v*v + v*u - v*pz*X2 - v*l*l*z1*z1*z2*z2 + v*x1*z1*z1*z2*z2 + v*x2*z1*z1*z2*z2 + u*u + u*pz*X2 + 2*u*l*l*z1*z1*z2*z2 - 2*u*x1*z1*z1*z2*z2 - 2*u*x2*z1*z1*z2*z2 - pz*pz*X2*X2 - pz*X2*l*l*z1*z1*z2*z2 + pz*X2*x1*z1*z1*z2*z2 + pz*X2*x2*z1*z1*z2*z2) h15 (dc (s + q3*Y1 - 2*pz*Y2*z1) h16 (dc (q3*Y1*Y1 + qz*Y1*Y1*z2 - 2*pz*Y2*Y1*z1) h17 (dc (-u*u - u*qz*X1 + u*pz*X2 - u*l*l*z1*z1*z2*z2 + u*x1*z1*z1*z2*z2 + u*x2*z1*z1*z2*z2 - qz*qz*X1*X1 + qz*pz*X2*X1 - qz*X1*l*l*z1*z1*z2*z2 + qz*X1*x1*z1*z1*z2*z2 + qz*X1*x2*z1*z1*z2*z2 + pz*pz*X2*X2 + 2*pz*X2*l*l*z1*z1*z2*z2 - 2*pz*X2*x1*z1*z1*z2*z2 - 2*pz*X2*x2*z1*z1*z2*z2) h18 (dc (-qz*qz*X1*X1*X1 + qz*pz*X2*X1*X1 + qz*Y1*Y1*z2*z2 - qz*X1*X1*X1*z2*z2 - qz*X1*X1*l*l*z1*z1*z2*z2 + qz*X1*X1*x1*z1*z1*z2*z2 + qz*X1*X1*x2*z1*z1*z2*z2 + pz*pz*X2*X2*X1 - 2*pz*Y2*Y1*z1*z2 + pz*X2*X1*X1*z2*z2 + 2*pz*X2*X1*l*l*z1*z1*z2*z2 - 2*pz*X2*X1*x1*z1*z1*z2*z2 - 2*pz*X2*X1*x2*z1*z1*z2*z2 + Y1*Y1*z2*z2*z2*z2 - X1*X1*X1*z2*z2*z2*z2 - X1*X1*l*l*z1*z1*z2*z2*z2*z2 + X1*X1*x1*z1*z1*z2*z2*z2*z2 + X1*X1*x2*z1*z1*z2*z2*z2*z2) h19 (dc (-pz*pz*X2*X2*X2 + pz*Y2*Y2*z1*z1 - pz*X2*X2*X2*z1*z1 + pz*X2*X2*X1*z2*z2 - pz*X2*X2*l*l*z1*z1*z2*z2 + pz*X2*X2*x1*z1*z1*z2*z2 + pz*X2*X2*x2*z1*z1*z2*z2 + Y2*Y2*z1*z1*z1*z1 - 2*Y2*Y1*z1*z2*z2*z2 - X2*X2*X2*z1*z1*z1*z1 + X2*X2*X1*z1*z1*z2*z2 - X2*X2*l*l*z1*z1*z1*z1*z2*z2 + X2*X2*x1*z1*z1*z1*z1*z2*z2 + X2*X2*x2*z1*z1*z1*z1*z2*z2 + X2*X1*X1*z2*z2*z2*z2 + 2*X2*X1*l*l*z1*z1*z2*z2*z2*z2 - 2*X2*X1*x1*z1*z1*z2*z2*z2*z2 - 2*X2*X1*x2*z1*z1*z2*z2*z2*z2) h20 (dc (X2*X2*z1*z1*z1*z1*z2*z2 + X2*X1*z1*z1*z2*z2*z2*z2 + 2*X2*l*l*z1*z1*z1*z1*z2*z2*z2*z2 - X2*x1*z1*z1*z1*z1*z2*z2*z2*z2 - 2*X2*x2*z1*z1*z1*z1*z2*z2*z2*z2 - X1*X1*z2*z2*z2*z2*z2*z2 - X1*l*l*z1*z1*z2*z2*z2*z2*z2*z2 + X1*x2*z1*z1*z2*z2*z2*z2*z2*z2 - l*l*x1*z1*z1*z1*z1*z2*z2*z2*z2*z2*z2 + x1*x2*z1*z1*z1*z1*z2*z2*z2*z2*z2*z2) h21 (dc (-2*Y2*z1*z1*z1*z2*z2*z2 + Y1*z2*z2*z2*z2*z2*z2 + y1*z1*z1*z1*z2*z2*z2*z2*z2*z2) h22 (dc (-X2*X2*z1*z1*z1*z1*z1*z1 - X2*l*l*z1*z1*z1*z1*z1*z1*z2*z2 + 2*X2*x1*z1*z1*z1*z1*z1*z1*z2*z2 + 2*l*l*x1*z1*z1*z1*z1*z1*z1*z2*z2*z2*z2 - l*l*x2*z1*z1*z1*z1*z1*z1*z2*z2*z2*z2 - x1*x1*z1*z1*z1*z1*z1*z1*z2*z2*z2*z2) h23 (dc (Y2*z1*z1*z1*z1*z1*z1 - l*x1*z1*z1*z1*z1*z1*z1*z2*z2*z2 + l*x2*z1*z1*z1*z1*z1*z1*z2*z2*z2 - y1*z1*z1*z1*z1*z1*z1*z2*z2*z2) h24 (dz p)))))))))))))))))))))))))) (by clear h0 h1 h2 h3 h4 h5 h6 h7 h8 h9 h10 h11 h12 h13 h14 h15 h16 h17 h18 h19 h20 h21 h22 h23 h24; grind)
theorem apG {p ys xs z3 zz y3 sh rd d x3 c2 rh rr cc hhh hh r t p3 h v s q3 u qz pz Y2 X2 Y1 X1 y2 y1 l x1 x2 z1 z2 : Int} (h0 : p ∣ ys-(l*(x1-xs)-y1)) (h1 : p ∣ xs-(l*l-x1-x2)) (h2 : p ∣ l*(x1-x2)-(y1-y2)) (h3 : p ∣ z3-(h*zz)) (h4 : p ∣ zz-(z1*z2)) (h5 : p ∣ y3-(rd-sh)) (h6 : p ∣ sh-(s*hhh)) (h7 : p ∣ rd-(r*d)) (h8 : p ∣ d-(cc-x3)) (h9 : p ∣ x3-(rh-c2)) (h10 : p ∣ c2-(cc*2)) (h11 : p ∣ rh-(rr-hhh)) (h12 : p ∣ rr-(r*r)) (h13 : p ∣ cc-(u*hh)) (h14 : p ∣ hhh-(hh*h)) (h15 : p ∣ hh-(h*h)) (h16 : p ∣ r-(t-s)) (h17 : p ∣ t-(Y2*p3)) (h18 : p ∣ p3-(pz*z1)) (h19 : p ∣ h-(v-u)) (h20 : p ∣ v-(X2*pz)) (h21 : p ∣ s-(Y1*q3)) (h22 : p ∣ q3-(qz*z2)) (h23 : p ∣ u-(X1*qz)) (h24 : p ∣ qz-(z2*z2)) (h25 : p ∣ pz-(z1*z1)) (h26 : p ∣ X1-x1*(z1*z1)) (h27 : p ∣ Y1-y1*(z1*z1*z1)) (h28 : p ∣ X2-x2*(z2*z2)) (h29 : p ∣ Y2-y2*(z2*z2*z2)) : p ∣ (y3-ys*(z3*z3*z3)) :=
  dk (dc (-z3*z3*z3) h0 (dc (z3*z3*z3*l) h1 (dc (-Y2*Y2*z1*z1*z1*z1*z1*z1*z1*z1*z1*z2*z2*z2 + Y2*l*x1*z1*z1*z1*z1*z1*z1*z1*z1*z1*z2*z2*z2*z2*z2*z2 - Y2*l*x2*z1*z1*z1*z1*z1*z1*z1*z1*z1*z2*z2*z2*z2*z2*z2 + 2*Y2*y1*z1*z1*z1*z1*z1*z1*z1*z1*z1*z2*z2*z2*z2*z2*z2 - l*l*x1*x1*z1*z1*z1*z1*z1*z1*z1*z1*z1*z2*z2*z2*z2*z2*z2*z2*z2*z2 + 2*l*l*x1*x2*z1*z1*z1*z1*z1*z1*z1*z1*z1*z2*z2*z2*z2*z2*z2*z2*z2*z2 - l*l*x2*x2*z1*z1*z1*z1*z1*z1*z1*z1*z1*z2*z2*z2*z2*z2*z2*z2*z2*z2 - y1*l*x1*z1*z1*z1*z1*z1*z1*z1*z1*z1*z2*z2*z2*z2*z2*z2*z2*z2*z2 + 2*x1*x1*x1*z1*z1*z1*z1*z1*z1*z1*z1*z1*z2*z2*z2*z2*z2*z2*z2*z2*z2 + y1*l*x2*z1*z1*z1*z1*z1*z1*z1*z1*z1*z2*z2*z2*z2*z2*z2*z2*z2*z2 - 3*x1*x1*x2*z1*z1*z1*z1*z1*z1*z1*z1*z1*z2*z2*z2*z2*z2*z2*z2*z2*z2 + x2*x2*x2*z1*z1*z1*z1*z1*z1*z1*z1*z1*z2*z2*z2*z2*z2*z2*z2*z2*z2 - y1*y1*z1*z1*z1*z1*z1*z1*z1*z1*z1*z2*z2*z2*z2*z2*z2*z2*z2*z2) h2 (dc (z3*z3*l*l*l - 2*z3*z3*l*x1 - z3*z3*l*x2 + z3*z3*y1 + z3*zz*h*l*l*l - 2*z3*zz*h*l*x1 - z3*zz*h*l*x2 + z3*zz*h*y1 + zz*zz*h*h*l*l*l - 2*zz*zz*h*h*l*x1 - zz*zz*h*h*l*x2 + zz*zz*h*h*y1) h3 (dc (zz*zz*h*h*h*l*l*l - 2*zz*zz*h*h*h*l*x1 - zz*zz*h*h*h*l*x2 + zz*zz*h*h*h*y1 + zz*h*h*h*l*l*l*z1*z2 - 2*zz*h*h*h*l*x1*z1*z2 - zz*h*h*h*l*x2*z1*z2 + zz*h*h*h*y1*z1*z2 + h*h*h*l*l*l*z1*z1*z2*z2 - 2*h*h*h*l*x1*z1*z1*z2*z2 - h*h*h*l*x2*z1*z1*z2*z2 + h*h*h*y1*z1*z1*z2*z2) h4 (dc (1) h5 (dc (-1) h6 (dc (1) h7 (dc (r) h8 (dc (-r) h9 (dc (r) h10 (dc (-r) h11 (dc (-r) h12 (dc (3*r) h13 (dc (r - s) h14 (dc (r*h + 3*r*u - h*s) h15 (dc (-r*r - r*t + r*s - t*t + 2*t*s + h*h*h + 3*h*h*u - s*s) h16 (dc (-t*t - t*p3*Y2 + 3*t*s - p3*p3*Y2*Y2 + 3*p3*s*Y2 + h*h*h + 3*h*h*u - 3*s*s) h17 (dc (-p3*p3*Y2*Y2*Y2 + 3*p3*s*Y2*Y2 - p3*pz*Y2*Y2*Y2*z1 + h*h*h*Y2 + 3*h*h*u*Y2 - 3*s*s*Y2 + 3*s*pz*Y2*Y2*z1 - pz*pz*Y2*Y2*Y2*z1*z1) h18 (dc (-2*h*h*s + h*h*pz*Y2*z1 + h*h*l*l*l*z1*z1*z1*z2*z2*z2 - 2*h*h*l*x1*z1*z1*z1*z2*z2*z2 - h*h*l*x2*z1*z1*z1*z2*z2*z2 + h*h*y1*z1*z1*z1*z2*z2*z2 - 2*h*v*s + h*v*pz*Y2*z1 + h*v*l*l*l*z1*z1*z1*z2*z2*z2 - 2*h*v*l*x1*z1*z1*z1*z2*z2*z2 - h*v*l*x2*z1*z1*z1*z2*z2*z2 + h*v*y1*z1*z1*z1*z2*z2*z2 - h*s*u + 2*h*u*pz*Y2*z1 - h*u*l*l*l*z1*z1*z1*z2*z2*z2 + 2*h*u*l*x1*z1*z1*z1*z2*z2*z2 + h*u*l*x2*z1*z1*z1*z2*z2*z2 - h*u*y1*z1*z1*z1*z2*z2*z2 - 2*v*v*s + v*v*pz*Y2*z1 + v*v*l*l*l*z1*z1*z1*z2*z2*z2 - 2*v*v*l*x1*z1*z1*z1*z2*z2*z2 - v*v*l*x2*z1*z1*z1*z2*z2*z2 + v*v*y1*z1*z1*z1*z2*z2*z2 + v*s*u + v*u*pz*Y2*z1 - 2*v*u*l*l*l*z1*z1*z1*z2*z2*z2 + 4*v*u*l*x1*z1*z1*z1*z2*z2*z2 + 2*v*u*l*x2*z1*z1*z1*z2*z2*z2 - 2*v*u*y1*z1*z1*z1*z2*z2*z2 + s*u*u - 2*u*u*pz*Y2*z1 + u*u*l*l*l*z1*z1*z1*z2*z2*z2 - 2*u*u*l*x1*z1*z1*z1*z2*z2*z2 - u*u*l*x2*z1*z1*z1*z2*z2*z2 + u*u*y1*z1*z1*z1*z2*z2*z2) h19 (dc (-2*v*v*s + v*v*pz*Y2*z1 + v*v*l*l*l*z1*z1*z1*z2*z2*z2 - 2*v*v*l*x1*z1*z1*z1*z2*z2*z2 - v*v*l*x2*z1*z1*z1*z2*z2*z2 + v*v*y1*z1*z1*z1*z2*z2*z2 + 3*v*s*u - 2*v*s*pz*X2 - 3*v*u*l*l*l*z1*z1*z1*z2*z2*z2 + 6*v*u*l*x1*z1*z1*z1*z2*z2*z2 + 3*v*u*l*x2*z1*z1*z1*z2*z2*z2 - 3*v*u*y1*z1*z1*z1*z2*z2*z2 + v*pz*pz*Y2*X2*z1 + v*pz*X2*l*l*l*z1*z1*z1*z2*z2*z2 - 2*v*pz*X2*l*x1*z1*z1*z1*z2*z2*z2 - v*pz*X2*l*x2*z1*z1*z1*z2*z2*z2 + v*pz*X2*y1*z1*z1*z1*z2*z2*z2 + 3*s*u*pz*X2 - 2*s*pz*pz*X2*X2 - 3*u*u*pz*Y2*z1 + 3*u*u*l*l*l*z1*z1*z1*z2*z2*z2 - 6*u*u*l*x1*z1*z1*z1*z2*z2*z2 - 3*u*u*l*x2*z1*z1*z1*z2*z2*z2 + 3*u*u*y1*z1*z1*z1*z2*z2*z2 - 3*u*pz*X2*l*l*l*z1*z1*z1*z2*z2*z2 + 6*u*pz*X2*l*x1*z1*z1*z1*z2*z2*z2 + 3*u*pz*X2*l*x2*z1*z1*z1*z2*z2*z2 - 3*u*pz*X2*y1*z1*z1*z1*z2*z2*z2 + pz*pz*pz*Y2*X2*X2*z1 + pz*pz*X2*X2*l*l*l*z1*z1*z1*z2*z2*z2 - 2*pz*pz*X2*X2*l*x1*z1*z1*z1*z2*z2*z2 - pz*pz*X2*X2*l*x2*z1*z1*z1*z2*z2*z2 + pz*pz*X2*X2*y1*z1*z1*z1*z2*z2*z2) h20 (dc (s*s + s*q3*Y1 - 3*s*pz*Y2*z1 + q3*q3*Y1*Y1 - 3*q3*pz*Y2*Y1*z1 - u*u*u + 3*u*pz*pz*X2*X2 - 2*pz*pz*pz*X2*X2*X2 + 3*pz*pz*Y2*Y2*z1*z1) h21 (dc (q3*q3*Y1*Y1*Y1 + q3*qz*Y1*Y1*Y1*z2 - 3*q3*pz*Y2*Y1*Y1*z1 - u*u*u*Y1 + 3*u*pz*pz*X2*X2*Y1 + qz*qz*Y1*Y1*Y1*z2*z2 - 3*qz*pz*Y2*Y1*Y1*z1*z2 - 2*pz*pz*pz*X2*X2*X2*Y1 + 3*pz*pz*Y2*Y2*Y1*z1*z1) h22 (dc (-u*u*qz*Y1*z2 + 2*u*u*pz*Y2*z1 - u*u*l*l*l*z1*z1*z1*z2*z2*z2 + 2*u*u*l*x1*z1*z1*z1*z2*z2*z2 + u*u*l*x2*z1*z1*z1*z2*z2*z2 - u*u*y1*z1*z1*z1*z2*z2*z2 - u*qz*qz*Y1*X1*z2 + 2*u*qz*pz*Y2*X1*z1 - u*qz*X1*l*l*l*z1*z1*z1*z2*z2*z2 + 2*u*qz*X1*l*x1*z1*z1*z1*z2*z2*z2 + u*qz*X1*l*x2*z1*z1*z1*z2*z2*z2 - u*qz*X1*y1*z1*z1*z1*z2*z2*z2 - 3*u*pz*pz*Y2*X2*z1 + 3*u*pz*X2*l*l*l*z1*z1*z1*z2*z2*z2 - 6*u*pz*X2*l*x1*z1*z1*z1*z2*z2*z2 - 3*u*pz*X2*l*x2*z1*z1*z1*z2*z2*z2 + 3*u*pz*X2*y1*z1*z1*z1*z2*z2*z2 - qz*qz*qz*Y1*X1*X1*z2 + 2*qz*qz*pz*Y2*X1*X1*z1 - qz*qz*X1*X1*l*l*l*z1*z1*z1*z2*z2*z2 + 2*qz*qz*X1*X1*l*x1*z1*z1*z1*z2*z2*z2 + qz*qz*X1*X1*l*x2*z1*z1*z1*z2*z2*z2 - qz*qz*X1*X1*y1*z1*z1*z1*z2*z2*z2 - 3*qz*pz*pz*Y2*X2*X1*z1 + 3*qz*pz*pz*X2*X2*Y1*z2 + 3*qz*pz*X2*X1*l*l*l*z1*z1*z1*z2*z2*z2 - 6*qz*pz*X2*X1*l*x1*z1*z1*z1*z2*z2*z2 - 3*qz*pz*X2*X1*l*x2*z1*z1*z1*z2*z2*z2 + 3*qz*pz*X2*X1*y1*z1*z1*z1*z2*z2*z2 - 3*pz*pz*X2*X2*l*l*l*z1*z1*z1*z2*z2*z2 + 6*pz*pz*X2*X2*l*x1*z1*z1*z1*z2*z2*z2 + 3*pz*pz*X2*X2*l*x2*z1*z1*z1*z2*z2*z2 - 3*pz*pz*X2*X2*y1*z1*z1*z1*z2*z2*z2) h23 (dc (-qz*qz*qz*Y1*X1*X1*X1*z2 + 2*qz*qz*pz*Y2*X1*X1*X1*z1 + qz*qz*Y1*Y1*Y1*z2*z2*z2 - qz*qz*Y1*X1*X1*X1*z2*z2*z2 - qz*qz*X1*X1*X1*l*l*l*z1*z1*z1*z2*z2*z2 + 2*qz*qz*X1*X1*X1*l*x1*z1*z1*z1*z2*z2*z2 + qz*qz*X1*X1*X1*l*x2*z1*z1*z1*z2*z2*z2 - qz*qz*X1*X1*X1*y1*z1*z1*z1*z2*z2*z2 - 3*qz*pz*pz*Y2*X2*X1*X1*z1 + 3*qz*pz*pz*X2*X2*Y1*X1*z2 - 3*qz*pz*Y2*Y1*Y1*z1*z2*z2 + 2*qz*pz*Y2*X1*X1*X1*z1*z2*z2 + 3*qz*pz*X2*X1*X1*l*l*l*z1*z1*z1*z2*z2*z2 - 6*qz*pz*X2*X1*X1*l*x1*z1*z1*z1*z2*z2*z2 - 3*qz*pz*X2*X1*X1*l*x2*z1*z1*z1*z2*z2*z2 + 3*qz*pz*X2*X1*X1*y1*z1*z1*z1*z2*z2*z2 + qz*Y1*Y1*Y1*z2*z2*z2*z2*z2 - qz*Y1*X1*X1*X1*z2*z2*z2*z2*z2 - qz*X1*X1*X1*l*l*l*z1*z1*z1*z2*z2*z2*z2*z2 + 2*qz*X1*X1*X1*l*x1*z1*z1*z1*z2*z2*z2*z2*z2 + qz*X1*X1*X1*l*x2*z1*z1*z1*z2*z2*z2*z2*z2 - qz*X1*X1*X1*y1*z1*z1*z1*z2*z2*z2*z2*z2 - 2*pz*pz*pz*X2*X2*X2*Y1*z2 + 3*pz*pz*Y2*Y2*Y1*z1*z1*z2 - 3*pz*pz*Y2*X2*X1*X1*z1*z2*z2 + 3*pz*pz*X2*X2*Y1*X1*z2*z2*z2 - 3*pz*pz*X2*X2*X1*l*l*l*z1*z1*z1*z2*z2*z2 + 6*pz*pz*X2*X2*X1*l*x1*z1*z1*z1*z2*z2*z2 + 3*pz*pz*X2*X2*X1*l*x2*z1*z1*z1*z2*z2*z2 - 3*pz*pz*X2*X2*X1*y1*z1*z1*z1*z2*z2*z2 - 3*pz*Y2*Y1*Y1*z1*z2*z2*z2*z2 + 2*pz*Y2*X1*X1*X1*z1*z2*z2*z2*z2 + 3*pz*X2*X1*X1*l*l*l*z1*z1*z1*z2*z2*z2*z2*z2 - 6*pz*X2*X1*X1*l*x1*z1*z1*z1*z2*z2*z2*z2*z2 - 3*pz*X2*X1*X1*l*x2*z1*z1*z1*z2*z2*z2*z2*z2 + 3*pz*X2*X1*X1*y1*z1*z1*z1*z2*z2*z2*z2*z2 + Y1*Y1*Y1*z2*z2*z2*z2*z2*z2*z2 - Y1*X1*X1*X1*z2*z2*z2*z2*z2*z2*z2 - X1*X1*X1*l*l*l*z1*z1*z1*z2*z2*z2*z2*z2*z2*z2 + 2*X1*X1*X1*l*x1*z1*z1*z1*z2*z2*z2*z2*z2*z2*z2 + X1*X1*X1*l*x2*z1*z1*z1*z2*z2*z2*z2*z2*z2*z2 - X1*X1*X1*y1*z1*z1*z1*z2*z2*z2*z2*z2*z2*z2) h24 (dc (pz*pz*pz*Y2*X2*X2*X2*z1 - pz*pz*Y2*Y2*Y2*z1*z1*z1 + pz*pz*Y2*X2*X2*X2*z1*z1*z1 - 2*pz*pz*X2*X2*X2*Y1*z2*z2*z2 + pz*pz*X2*X2*X2*l*l*l*z1*z1*z1*z2*z2*z2 - 2*pz*pz*X2*X2*X2*l*x1*z1*z1*z1*z2*z2*z2 - pz*pz*X2*X2*X2*l*x2*z1*z1*z1*z2*z2*z2 + pz*pz*X2*X2*X2*y1*z1*z1*z1*z2*z2*z2 - pz*Y2*Y2*Y2*z1*z1*z1*z1*z1 + 3*pz*Y2*Y2*Y1*z1*z1*z2*z2*z2 + pz*Y2*X2*X2*X2*z1*z1*z1*z1*z1 - 3*pz*Y2*X2*X1*X1*z1*z2*z2*z2*z2 - 2*pz*X2*X2*X2*Y1*z1*z1*z2*z2*z2 + pz*X2*X2*X2*l*l*l*z1*z1*z1*z1*z1*z2*z2*z2 - 2*pz*X2*X2*X2*l*x1*z1*z1*z1*z1*z1*z2*z2*z2 - pz*X2*X2*X2*l*x2*z1*z1*z1*z1*z1*z2*z2*z2 + pz*X2*X2*X2*y1*z1*z1*z1*z1*z1*z2*z2*z2 + 3*pz*X2*X2*Y1*X1*z2*z2*z2*z2*z2 - 3*pz*X2*X2*X1*l*l*l*z1*z1*z1*z2*z2*z2*z2*z2 + 6*pz*X2*X2*X1*l*x1*z1*z1*z1*z2*z2*z2*z2*z2 + 3*pz*X2*X2*X1*l*x2*z1*z1*z1*z2*z2*z2*z2*z2 - 3*pz*X2*X2*X1*y1*z1*z1*z1*z2*z2*z2*z2*z2 - Y2*Y2*Y2*z1*z1*z1*z1*z1*z1*z1 + 3*Y2*Y2*Y1*z1*z1*z1*z1*z2*z2*z2 + Y2*X2*X2*X2*z1*z1*z1*z1*z1*z1*z1 - 3*Y2*X2*X1*X1*z1*z1*z1*z2*z2*z2*z2 - 3*Y2*Y1*Y1*z1*z2*z2*z2*z2*z2*z2 + 2*Y2*X1*X1*X1*z1*z2*z2*z2*z2*z2*z2 - 2*X2*X2*X2*Y1*z1*z1*z1*z1*z2*z2*z2 + X2*X2*X2*l*l*l*z1*z1*z1*z1*z1*z1*z1*z2*z2*z2 - 2*X2*X2*X2*l*x1*z1*z1*z1*z1*z1*z1*z1*z2*z2*z2 - X2*X2*X2*l*x2*z1*z1*z1*z1*z1*z1*z1*z2*z2*z2 + X2*X2*X2*y1*z1*z1*z1*z1*z1*z1*z1*z2*z2*z2 + 3*X2*X2*Y1*X1*z1*z1*z2*z2*z2*z2*z2 - 3*X2*X2*X1*l*l*l*z1*z1*z1*z1*z1*z2*z2*z2*z2*z2 + 6*X2*X2*X1*l*x1*z1*z1*z1*z1*z1*z2*z2*z2*z2*z2 + 3*X2*X2*X1*l*x2*z1*z1*z1*z1*z1*z2*z2*z2*z2*z2 - 3*X2*X2*X1*y1*z1*z1*z1*z1*z1*z2*z2*z2*z2*z2 + 3*X2*X1*X1*l*l*l*z1*z1*z1*z2*z2*z2*z2*z2*z2*z2 - 6*X2*X1*X1*l*x1*z1*z1*z1*z2*z2*z2*z2*z2*z2*z2 - 3*X2*X1*X1*l*x2*z1*z1*z1*z2*z2*z2*z2*z2*z2*z2 + 3*X2*X1*X1*y1*z1*z1*z1*z2*z2*z2*z2*z2*z2*z2) h25 (dc (-3*Y2*X2*X1*z1*z1*z1*z1*z1*z2*z2*z2*z2 - 3*Y2*X2*x1*z1*z1*z1*z1*z1*z1*z1*z2*z2*z2*z2 + 2*Y2*X1*X1*z1*z1*z1*z2*z2*z2*z2*z2*z2 + 2*Y2*X1*x1*z1*z1*z1*z1*z1*z2*z2*z2*z2*z2*z2 + 2*Y2*x1*x1*z1*z1*z1*z1*z1*z1*z1*z2*z2*z2*z2*z2*z2 + 3*X2*X2*Y1*z1*z1*z1*z1*z2*z2*z2*z2*z2 - 3*X2*X2*l*l*l*z1*z1*z1*z1*z1*z1*z1*z2*z2*z2*z2*z2 + 6*X2*X2*l*x1*z1*z1*z1*z1*z1*z1*z1*z2*z2*z2*z2*z2 + 3*X2*X2*l*x2*z1*z1*z1*z1*z1*z1*z1*z2*z2*z2*z2*z2 - 3*X2*X2*y1*z1*z1*z1*z1*z1*z1*z1*z2*z2*z2*z2*z2 + 3*X2*X1*l*l*l*z1*z1*z1*z1*z1*z2*z2*z2*z2*z2*z2*z2 - 6*X2*X1*l*x1*z1*z1*z1*z1*z1*z2*z2*z2*z2*z2*z2*z2 - 3*X2*X1*l*x2*z1*z1*z1*z1*z1*z2*z2*z2*z2*z2*z2*z2 + 3*X2*X1*y1*z1*z1*z1*z1*z1*z2*z2*z2*z2*z2*z2*z2 + 3*X2*l*l*l*x1*z1*z1*z1*z1*z1*z1*z1*z2*z2*z2*z2*z2*z2*z2 - 6*X2*l*x1*x1*z1*z1*z1*z1*z1*z1*z1*z2*z2*z2*z2*z2*z2*z2 - 3*X2*l*x1*x2*z1*z1*z1*z1*z1*z1*z1*z2*z2*z2*z2*z2*z2*z2 + 3*X2*y1*x1*z1*z1*z1*z1*z1*z1*z1*z2*z2*z2*z2*z2*z2*z2 - Y1*X1*X1*z2*z2*z2*z2*z2*z2*z2*z2*z2 - Y1*X1*x1*z1*z1*z2*z2*z2*z2*z2*z2*z2*z2*z2 - Y1*x1*x1*z1*z1*z1*z1*z2*z2*z2*z2*z2*z2*z2*z2*z2 - X1*X1*l*l*l*z1*z1*z1*z2*z2*z2*z2*z2*z2*z2*z2*z2 + 2*X1*X1*l*x1*z1*z1*z1*z2*z2*z2*z2*z2*z2*z2*z2*z2 + X1*X1*l*x2*z1*z1*z1*z2*z2*z2*z2*z2*z2*z2*z2*z2 - X1*X1*y1*z1*z1*z1*z2*z2*z2*z2*z2*z2*z2*z2*z2 - X1*l*l*l*x1*z1*z1*z1*z1*z1*z2*z2*z2*z2*z2*z2*z2*z2*z2 + 2*X1*l*x1*x1*z1*z1*z1*z1*z1*z2*z2*z2*z2*z2*z2*z2*z2*z2 + X1*l*x1*x2*z1*z1*z1*z1*z1*z2*z2*z2*z2*z2*z2*z2*z2*z2 - X1*y1*x1*z1*z1*z1*z1*z1*z2*z2*z2*z2*z2*z2*z2*z2*z2 - l*l*l*x1*x1*z1*z1*z1*z1*z1*z1*z1*z2*z2*z2*z2*z2*z2*z2*z2*z2 + 2*l*x1*x1*x1*z1*z1*z1*z1*z1*z1*z1*z2*z2*z2*z2*z2*z2*z2*z2*z2 + l*x1*x1*x2*z1*z1*z1*z1*z1*z1*z1*z2*z2*z2*z2*z2*z2*z2*z2*z2 - y1*x1*x1*z1*z1*z1*z1*z1*z1*z1*z2*z2*z2*z2*z2*z2*z2*z2*z2) h26 (dc (3*Y2*Y2*z1*z1*z1*z1*z1*z1*z2*z2*z2 - 3*Y2*Y1*z1*z1*z1*z2*z2*z2*z2*z2*z2 - 3*Y2*y1*z1*z1*z1*z1*z1*z1*z2*z2*z2*z2*z2*z2 - 2*X2*X2*X2*z1*z1*z1*z1*z1*z1*z2*z2*z2 + 3*X2*X2*x1*z1*z1*z1*z1*z1*z1*z2*z2*z2*z2*z2 + Y1*Y1*z2*z2*z2*z2*z2*z2*z2*z2*z2 + Y1*y1*z1*z1*z1*z2*z2*z2*z2*z2*z2*z2*z2*z2 - x1*x1*x1*z1*z1*z1*z1*z1*z1*z2*z2*z2*z2*z2*z2*z2*z2*z2 + y1*y1*z1*z1*z1*z1*z1*z1*z2*z2*z2*z2*z2*z2*z2*z2*z2) h27 (dc (Y2*X2*X2*z1*z1*z1*z1*z1*z1*z1*z1*z1 + Y2*X2*x2*z1*z1*z1*z1*z1*z1*z1*z1*z1*z2*z2 - 3*Y2*x1*x1*z1*z1*z1*z1*z1*z1*z1*z1*z1*z2*z2*z2*z2 + Y2*x2*x2*z1*z1*z1*z1*z1*z1*z1*z1*z1*z2*z2*z2*z2 + X2*X2*l*l*l*z1*z1*z1*z1*z1*z1*z1*z1*z1*z2*z2*z2 - 2*X2*X2*l*x1*z1*z1*z1*z1*z1*z1*z1*z1*z1*z2*z2*z2 - X2*X2*l*x2*z1*z1*z1*z1*z1*z1*z1*z1*z1*z2*z2*z2 - X2*X2*y1*z1*z1*z1*z1*z1*z1*z1*z1*z1*z2*z2*z2 - 3*X2*l*l*l*x1*z1*z1*z1*z1*z1*z1*z1*z1*z1*z2*z2*z2*z2*z2 + X2*l*l*l*x2*z1*z1*z1*z1*z1*z1*z1*z1*z1*z2*z2*z2*z2*z2 + 6*X2*l*x1*x1*z1*z1*z1*z1*z1*z1*z1*z1*z1*z2*z2*z2*z2*z2 + X2*l*x1*x2*z1*z1*z1*z1*z1*z1*z1*z1*z1*z2*z2*z2*z2*z2 - X2*l*x2*x2*z1*z1*z1*z1*z1*z1*z1*z1*z1*z2*z2*z2*z2*z2 - X2*y1*x2*z1*z1*z1*z1*z1*z1*z1*z1*z1*z2*z2*z2*z2*z2 + 3*l*l*l*x1*x1*z1*z1*z1*z1*z1*z1*z1*z1*z1*z2*z2*z2*z2*z2*z2*z2 - 3*l*l*l*x1*x2*z1*z1*z1*z1*z1*z1*z1*z1*z1*z2*z2*z2*z2*z2*z2*z2 + l*l*l*x2*x2*z1*z1*z1*z1*z1*z1*z1*z1*z1*z2*z2*z2*z2*z2*z2*z2 - 6*l*x1*x1*x1*z1*z1*z1*z1*z1*z1*z1*z1*z1*z2*z2*z2*z2*z2*z2*z2 + 3*l*x1*x1*x2*z1*z1*z1*z1*z1*z1*z1*z1*z1*z2*z2*z2*z2*z2*z2*z2 + l*x1*x2*x2*z1*z1*z1*z1*z1*z1*z1*z1*z1*z2*z2*z2*z2*z2*z2*z2 - l*x2*x2*x2*z1*z1*z1*z1*z1*z1*z1*z1*z1*z2*z2*z2*z2*z2*z2*z2 + 3*y1*x1*x1*z1*z1*z1*z1*z1*z1*z1*z1*z1*z2*z2*z2*z2*z2*z2*z2 - y1*x2*x2*z1*z1*z1*z1*z1*z1*z1*z1*z1*z2*z2*z2*z2*z2*z2*z2) h28 (dc (-Y2*Y2*z1*z1*z1*z1*z1*z1*z1*z1*z1 + Y2*l*x1*z1*z1*z1*z1*z1*z1*z1*z1*z1*z2*z2*z2 - Y2*l*x2*z1*z1*z1*z1*z1*z1*z1*z1*z1*z2*z2*z2 + 2*Y2*y1*z1*z1*z1*z1*z1*z1*z1*z1*z1*z2*z2*z2 - l*l*x1*x1*z1*z1*z1*z1*z1*z1*z1*z1*z1*z2*z2*z2*z2*z2*z2 + 2*l*l*x1*x2*z1*z1*z1*z1*z1*z1*z1*z1*z1*z2*z2*z2*z2*z2*z2 - l*l*x2*x2*z1*z1*z1*z1*z1*z1*z1*z1*z1*z2*z2*z2*z2*z2*z2 - y1*l*x1*z1*z1*z1*z1*z1*z1*z1*z1*z1*z2*z2*z2*z2*z2*z2 + 2*x1*x1*x1*z1*z1*z1*z1*z1*z1*z1*z1*z1*z2*z2*z2*z2*z2*z2 + y1*l*x2*z1*z1*z1*z1*z1*z1*z1*z1*z1*z2*z2*z2*z2*z2*z2 - 3*x1*x1*x2*z1*z1*z1*z1*z1*z1*z1*z1*z1*z2*z2*z2*z2*z2*z2 + x2*x2*x2*z1*z1*z1*z1*z1*z1*z1*z1*z1*z2*z2*z2*z2*z2*z2 - y1*y1*z1*z1*z1*z1*z1*z1*z1*z1*z1*z2*z2*z2*z2*z2*z2) h29 (dz p))))))))))))))))))))))))))))))) (by clear h0 h1 h2 h3 h4 h5 h6 h7 h8 h9 h10 h11 h12 h13 h14 h15 h16 h17 h18 h19 h20 h21 h22 h23 h24 h25 h26 h27 h28 h29; grind)
theorem app {p x3 s2 X x z i : Int} (h0 : p ∣ x3-(X*s2)) (h1 : p ∣ s2-(i*i)) (h2 : p ∣ X-x*(z*z)) (h3 : p ∣ z*i-1) : p ∣ (x3-x) :=
  dk (dc (1) h0 (dc (X) h1 (dc (i*i) h2 (dc (x*z*i + x) h3 (dz p))))) (by clear h0 h1 h2 h3; grind)
theorem apo {p y3 s3 s2 Y y z i : Int} (h0 : p ∣ y3-(Y*s3)) (h1 : p ∣ s3-(s2*i)) (h2 : p ∣ s2-(i*i)) (h3 : p ∣ Y-y*(z*z*z)) (h4 : p ∣ z*i-1) : p ∣ (y3-y) :=
  dk (dc (1) h0 (dc (Y) h1 (dc (Y*i) h2 (dc (i*i*i) h3 (dc (y*z*z*i*i + y*z*i + y) h4 (dz p)))))) (by clear h0 h1 h2 h3 h4; grind)
theorem apf {p s x3 xx dx x y iv : Int} (h0 : p ∣ s-(x3*iv)) (h1 : p ∣ x3-(3*xx)) (h2 : p ∣ xx-(x*x)) (h3 : p ∣ dx-(y+y)) (h4 : p ∣ dx*iv-1) : p ∣ (s*(y+y)-(x*x+x*x+x*x)) :=
  dk (dc (2*y) h0 (dc (2*y*iv) h1 (dc (6*y*iv) h2 (dc (-3*x*x*iv) h3 (dc (3*x*x) h4 (dz p)))))) (by clear h0 h1 h2 h3 h4; grind)
theorem apC {p s dy dx x1 x2 y1 y2 iv : Int} (h0 : p ∣ s-(dy*iv)) (h1 : p ∣ dy-(y2-y1)) (h2 : p ∣ dx-(x2-x1)) (h3 : p ∣ dx*iv-1) : p ∣ (s*(x1-x2)-(y1-y2)) :=
  dk (dc (x1 - x2) h0 (dc (x1*iv - x2*iv) h1 (dc (-y1*iv + y2*iv) h2 (dc (y1 - y2) h3 (dz p))))) (by clear h0 h1 h2 h3; grind)
theorem apd {p y3 e d x y1 x1 t : Int} (h0 : p ∣ y3-(e-y1)) (h1 : p ∣ e-(t*d)) (h2 : p ∣ d-(x1-x)) : p ∣ (y3-(t*(x1-x)-y1)) :=
  dk (dc (1) h0 (dc (1) h1 (dc (t) h2 (dz p)))) (by clear h0 h1 h2; grind)
theorem ape {p x d a x1 x2 t : Int} (h0 : p ∣ x-(d-x2)) (h1 : p ∣ d-(a-x1)) (h2 : p ∣ a-(t*t)) : p ∣ (x-(t*t-x1-x2)) :=
  dk (dc (1) h0 (dc (1) h1 (dc (1) h2 (dz p)))) (by clear h0 h1 h2; grind)
theorem apA {p z xxx xx y x b : Int} (h0 : p ∣ z-(y*y)) (h1 : p ∣ z-(xxx+b)) (h2 : p ∣ xxx-(xx*x)) (h3 : p ∣ xx-(x*x)) : p ∣ (y*y-x*x*x-b) :=
  dk (dc (-1) h0 (dc (1) h1 (dc (1) h2 (dc (x) h3 (dz p))))) (by clear h0 h1 h2 h3; grind)
theorem apz {p u z xxx xx y x b : Int} (h0 : p ∣ u-(y*y)) (h1 : p ∣ z-(xxx+b)) (h2 : p ∣ xxx-(xx*x)) (h3 : p ∣ xx-(x*x)) (h4 : p ∣ y*y-x*x*x-b) : p ∣ (u-z) :=
  dk (dc (1) h0 (dc (-1) h1 (dc (-1) h2 (dc (-x) h3 (dc (1) h4 (dz p)))))) (by clear h0 h1 h2 h3 h4; grind)
end Go.Proofs.Ytkedomfjjahjnaa

namespace Go.Proofs.Ytkedomfjjahjnaa
open Sx Go
abbrev Sm (p : Nat) : Prop := 0 < p ∧ p < 57896044618658097711785492504343953926634992332820282019728792003956564819968
theorem aoA {p a b : Int} (h2 : p ∣ a) (h1 : p ∣ a - b) : p ∣ b := by
  obtain ⟨k, hk⟩ := h1
  obtain ⟨m, hm⟩ := h2
  exact ⟨m - k, by rw [Int.mul_sub]; omega⟩
theorem aiY {p : Nat} (n : Nat) : (p : Int) ∣ ((n % p : Nat) : Int) - (n : Int) := by
  have := Nat.div_add_mod n p
  refine ⟨-((n / p : Nat) : Int), ?_⟩
  have h : ((p * (n / p) + n % p : Nat) : Int) = (n : Int) := by rw [this]
  rw [Int.natCast_add, Int.natCast_mul] at h
  rw [Int.mul_neg]
  omega
variable {p : Nat}
theorem bY (hp : Sm p) (a b : aa) : (p : Int) ∣ ((aQ p a b).nat : Int) - ((a.nat : Int) * (b.nat : Int)) := by
  have e : (aQ p a b).nat = a.nat * b.nat % p := cM hp
  rw [e]
  have := aiY (p := p) (a.nat * b.nat)
  rwa [Int.natCast_mul] at this
theorem Wd (hp : Sm p) (a b : aa) : (p : Int) ∣ ((n0 p a b).nat : Int) - ((a.nat : Int) + (b.nat : Int)) := by
  have e : (n0 p a b).nat = (a.nat + b.nat) % p := cM hp
  rw [e]
  have := aiY (p := p) (a.nat + b.nat)
  rwa [Int.natCast_add] at this
theorem anY (hp : Sm p) (a : aa) : (p : Int) ∣ ((Ck p a).nat : Int) - -(a.nat : Int) := by
  have e : (Ck p a).nat = (p - a.nat % p) % p := cM hp
  rw [e]
  obtain ⟨k, hk⟩ := aiY (p := p) (p - a.nat % p)
  obtain ⟨m, hm⟩ := aiY (p := p) a.nat
  have hlt := Nat.mod_lt a.nat hp.1
  have e2 : ((p - a.nat % p : Nat) : Int) = (p : Int) - ((a.nat % p : Nat) : Int) := by omega
  rw [e2] at hk
  generalize (((p - a.nat % p) % p : Nat) : Int) = u at *
  generalize ((a.nat % p : Nat) : Int) = v at *
  exact ⟨k + 1 - m, by grind⟩
theorem jx (hp : Sm p) (a b : aa) : (p : Int) ∣ ((eZ p a b).nat : Int) - ((a.nat : Int) - (b.nat : Int)) := by
  obtain ⟨k, hk⟩ := Wd hp a (Ck p b)
  obtain ⟨m, hm⟩ := anY hp b
  unfold eZ
  generalize ((n0 p a (Ck p b)).nat : Int) = u at *
  exact ⟨k + m, by grind⟩
theorem Cm (hp : Sm p) (a b : aa) : (aQ p a b).nat < p := by
  rw [show (aQ p a b).nat = a.nat * b.nat % p from cM hp]
  exact Nat.mod_lt _ hp.1
theorem afu (hp : Sm p) (a b : aa) : (n0 p a b).nat < p := by
  rw [show (n0 p a b).nat = (a.nat + b.nat) % p from cM hp]
  exact Nat.mod_lt _ hp.1
theorem H5 (hp : Sm p) (a b : aa) : (eZ p a b).nat < p := afu hp _ _
theorem adB (hp : Sm p) (pr : Pr p) {z : aa} (hz : ¬ (p : Int) ∣ (z.nat : Int)) : (p : Int) ∣ (z.nat : Int) * ((tM p z).nat : Int) - 1 := by
  have h2 := pr.1
  have hz' : ¬ p ∣ z.nat := fun h => hz (Int.natCast_dvd_natCast.2 h)
  have e : Nat.beq (z.nat % p) 0 = false := by
    cases h : Nat.beq (z.nat % p) 0
    · rfl
    · exact absurd (Nat.dvd_of_mod_eq_zero (Nat.eq_of_beq_eq_true h)) hz'
  have e2 : (tM p z).nat = z.nat ^ (p - 2) % p := by
    unfold tM afG
    rw [e]
    simp only [cond_false]
    have hb : p - 2 < 2 ^ 256 := by have := hp.2; omega
    rw [IL 256 1 _ _ hb (by omega), Nat.one_mul, ← Nat.pow_mod]
    exact cM hp
  rw [e2]
  have hf := VA pr hz'
  have e3 : z.nat ^ (p - 1) = z.nat * z.nat ^ (p - 2) := by
    rw [show p - 1 = (p - 2) + 1 by omega, Nat.pow_succ, Nat.mul_comm]
  rw [e3] at hf
  obtain ⟨k, hk⟩ := aiY (p := p) (z.nat ^ (p - 2))
  obtain ⟨m, hm⟩ := aiY (p := p) (z.nat * z.nat ^ (p - 2))
  rw [hf] at hm
  rw [Int.natCast_mul] at hm
  generalize ((z.nat ^ (p - 2) % p : Nat) : Int) = u at *
  generalize ((z.nat ^ (p - 2) : Nat) : Int) = v at *
  have hm : (1 : Int) - (z.nat : Int) * v = (p : Int) * m := hm
  exact ⟨(z.nat : Int) * k - m, by grind⟩
def toQ (P : Pt) : PtQ := cond P.2.2 none (some (P.1.nat, P.2.1.nat))
theorem ads (hp : Sm p) (X Y X2 s : aa) : Thd p X.nat Y.nat X2.nat s.nat (xV p X Y X2 s).1.nat (xV p X Y X2 s).2.1.nat := by
  unfold xV
  dsimp only
  have h1 := bY hp s s
  have h2 := jx hp (aQ p s s) X
  have h3 := jx hp (eZ p (aQ p s s) X) X2
  generalize eZ p (eZ p (aQ p s s) X) X2 = x3 at *
  have h4 := jx hp X x3
  have h5 := bY hp s (eZ p X x3)
  have h6 := jx hp (aQ p s (eZ p X x3)) Y
  exact ⟨ape h3 h2 h1, apd h6 h5 h4⟩
theorem U7 {b : Nat} (c : Cur p b) (hp : Sm p) {X Y X2 Y2 s : aa} (hP : OnQ p b (some (X.nat, Y.nat))) (hR : OnQ p b (some (X2.nat, Y2.nat))) (hl : Lin p X.nat Y.nat X2.nat Y2.nat s.nat) :
    toQ (xV p X Y X2 s) = cQ p (some (X.nat, Y.nat)) (some (X2.nat, Y2.nat)) := by
  have h := ads hp X Y X2 s
  exact (TR c (P := (X.nat, Y.nat)) (R := (X2.nat, Y2.nat)) (S := ((xV p X Y X2 s).1.nat, (xV p X Y X2 s).2.1.nat)) hP hR hl (H5 hp _ _) (H5 hp _ _) h).symm
theorem KX : (aa.mk 3 0 0 0).nat = 3 := by decide
theorem Bs {b : Nat} (c : Cur p b) (hp : Sm p) {P R : Pt} (hP : OnQ p b (toQ P)) (hR : OnQ p b (toQ R)) : toQ (dS p P R) = cQ p (toQ P) (toQ R) := by
  obtain ⟨X, Y, i⟩ := P
  obtain ⟨X2, Y2, j⟩ := R
  cases i
  · cases j
    · have hP' : OnQ p b (some (X.nat, Y.nat)) := hP
      have hR' : OnQ p b (some (X2.nat, Y2.nat)) := hR
      have n1 : ¬ (p : Int) ∣ (Y.nat : Int) := c.yne hP'.2.2
      show toQ (dS p (X, Y, false) (X2, Y2, false)) = cQ p (some (X.nat, Y.nat)) (some (X2.nat, Y2.nat))
      rcases (Bool.eq_false_or_eq_true (eqE X X2)).symm with h | h
      · have e : dS p (X, Y, false) (X2, Y2, false) = xV p X Y X2 (byP p (eZ p Y2 Y) (eZ p X2 X)) := by unfold dS; simp only [cond_false, h]
        rw [e]
        refine U7 c hp hP' hR' ?_
        have hx : X.nat ≠ X2.nat := fun e => by rw [jV e, JR] at h; cases h
        have hd := jx hp X2 X
        have hn : ¬ (p : Int) ∣ ((eZ p X2 X).nat : Int) := fun hn => by
          obtain ⟨k, hk⟩ := hd
          obtain ⟨m, hm⟩ := hn
          exact hx (fD hP'.1 hR'.1 ⟨k - m, by grind⟩)
        have hi := adB hp c.pr hn
        have hm := bY hp (eZ p Y2 Y) (tM p (eZ p X2 X))
        have hy := jx hp Y2 Y
        unfold byP
        generalize eZ p X2 X = dx at *
        generalize tM p dx = iv at *
        generalize eZ p Y2 Y = dy at *
        generalize aQ p dy iv = s at *
        have ha : (p : Int) ∣ (s.nat : Int) * ((X.nat : Int) - X2.nat) - ((Y.nat : Int) - Y2.nat) := apC hm hy hd hi
        refine ⟨ha, ?_⟩
        have hn' : ¬ (p : Int) ∣ (X.nat : Int) - X2.nat := fun hh => hx (fD hP'.1 hR'.1 hh)
        have hc1 : (p : Int) ∣ (Y.nat : Int) * Y.nat - X.nat * X.nat * X.nat - b := hP'.2.2
        have hc2 : (p : Int) ∣ (Y2.nat : Int) * Y2.nat - X2.nat * X2.nat * X2.nat - b := hR'.2.2
        exact (c.pr.dP (aeW hc1 hc2 ha)).resolve_left hn'
      · rcases (Bool.eq_false_or_eq_true (eqE Y Y2)).symm with h2 | h2
        · have e : dS p (X, Y, false) (X2, Y2, false) = aC := by unfold dS; simp only [cond_false, cond_true, h, h2]
          rw [e]
          refine (if_pos ⟨?_, fun e => ?_⟩).symm
          · show X.nat = X2.nat
            rw [li.1 h]
          · rw [jV e, JR] at h2
            cases h2
        · have e : dS p (X, Y, false) (X2, Y2, false) = xV p X Y X2 (byP p (aQ p ⟨3, 0, 0, 0⟩ (aQ p X X)) (n0 p Y Y)) := by unfold dS; simp only [cond_false, cond_true, h, h2]
          rw [e]
          refine U7 c hp hP' hR' ?_
          obtain rfl := li.1 h
          obtain rfl := li.1 h2
          have hd := Wd hp Y Y
          have hn : ¬ (p : Int) ∣ ((n0 p Y Y).nat : Int) := fun hn => by
            obtain ⟨k, hk⟩ := hd
            obtain ⟨m, hm⟩ := hn
            rcases c.pr.dP (a := 2) (b := (Y.nat : Int)) ⟨m - k, by grind⟩ with h | h
            · exact c.no2 h
            · exact n1 h
          have hi := adB hp c.pr hn
          have hm := bY hp (aQ p ⟨3, 0, 0, 0⟩ (aQ p X X)) (tM p (n0 p Y Y))
          have h3 := bY hp ⟨3, 0, 0, 0⟩ (aQ p X X)
          have h4 := bY hp X X
          rw [KX] at h3
          unfold byP
          generalize n0 p Y Y = dx at *
          generalize tM p dx = iv at *
          generalize aQ p X X = xx at *
          generalize aQ p ⟨3, 0, 0, 0⟩ xx = x3 at *
          generalize aQ p x3 iv = s at *
          exact ⟨⟨0, by rw [Int.sub_self, Int.sub_self, Int.mul_zero, Int.mul_zero]; rfl⟩, apf hm h3 h4 hd hi⟩
    · show toQ (dS p (X, Y, false) (X2, Y2, true)) = _
      have e : dS p (X, Y, false) (X2, Y2, true) = (X, Y, false) := by unfold dS; simp only [cond_false, cond_true]
      rw [e]
      rfl
  · have e : dS p (X, Y, true) (X2, Y2, j) = (X2, Y2, j) := by unfold dS; simp only [cond_true]
    rw [e]
    rfl
theorem Pl : (aa.mk 2 0 0 0).nat = 2 := by decide
theorem ahT : (aa.mk 4 0 0 0).nat = 4 := by decide
theorem aev : (aa.mk 8 0 0 0).nat = 8 := by decide
theorem IQ : (aa.mk 1 0 0 0).nat = 1 := by decide
theorem lM : (aa.mk 0 0 0 0).nat = 0 := by decide
def aix (p : Nat) (w : Bg) : PtQ → Prop
  | none => w.2.2.nat = 0
  | some P => w.2.2.nat < p ∧ ¬ (p : Int) ∣ (w.2.2.nat : Int) ∧ (p : Int) ∣ (w.1.nat : Int) - (P.1 : Int) * ((w.2.2.nat : Int) * (w.2.2.nat : Int)) ∧
      (p : Int) ∣ (w.2.1.nat : Int) - (P.2 : Int) * ((w.2.2.nat : Int) * (w.2.2.nat : Int) * (w.2.2.nat : Int))
theorem HW {e : aa} (h : e.nat = 0) : cr e = true := by rw [fo, h]; rfl
theorem pY {e : aa} (h : ¬ (p : Int) ∣ (e.nat : Int)) : cr e = false := by
  rw [fo]
  cases hb : Nat.beq e.nat 0
  · rfl
  · exact absurd ⟨0, by rw [Nat.eq_of_beq_eq_true hb]; rfl⟩ h
variable {b : Nat}
theorem aez (c : Cur p b) (hp : Sm p) {w : Bg} {P : PtQ} (hP : OnQ p b P) (h : aix p w P) : aix p (RN p w) (cQ p P P) := by
  obtain ⟨X, Y, Z⟩ := w
  cases P with
  | none =>
    have e : RN p (X, Y, Z) = (X, Y, Z) := by unfold RN; rw [HW (e := Z) h]; rfl
    rw [e]
    exact h
  | some P =>
    obtain ⟨hz, hzn, hX, hY⟩ := h
    have e : RN p (X, Y, Z) = apy p X Y Z := by unfold RN; rw [pY (e := Z) hzn]; rfl
    rw [e]
    cases hs : cQ p (some P) (some P) with
    | none =>
      have : cQ p (some P) (some P) = some (rF p P P (nL p P P)) := if_neg fun h => h.2 rfl
      rw [this] at hs
      cases hs
    | some S =>
      obtain ⟨hS1, hS2, l, hl, ht⟩ := kL c hP hP hs
      have hyy := bY hp Y Y
      have ha := bY hp X (aQ p Y Y)
      have hs := bY hp (aQ p X (aQ p Y Y)) ⟨4, 0, 0, 0⟩
      have hb := bY hp X X
      have hm := bY hp (aQ p X X) ⟨3, 0, 0, 0⟩
      unfold apy jw
      dsimp only
      rw [ahT] at hs
      rw [KX] at hm
      generalize aQ p (aQ p X X) ⟨3, 0, 0, 0⟩ = m at *
      generalize aQ p (aQ p X (aQ p Y Y)) ⟨4, 0, 0, 0⟩ = s at *
      have hmm := bY hp m m
      have hs2 := bY hp s ⟨2, 0, 0, 0⟩
      rw [Pl] at hs2
      have hx3 := jx hp (aQ p m m) (aQ p s ⟨2, 0, 0, 0⟩)
      generalize eZ p (aQ p m m) (aQ p s ⟨2, 0, 0, 0⟩) = x3 at *
      have hd := jx hp s x3
      have hmd := bY hp m (eZ p s x3)
      have hy4 := bY hp (aQ p Y Y) (aQ p Y Y)
      have hy8 := bY hp (aQ p (aQ p Y Y) (aQ p Y Y)) ⟨8, 0, 0, 0⟩
      rw [aev] at hy8
      have hy3 := jx hp (aQ p m (eZ p s x3)) (aQ p (aQ p (aQ p Y Y) (aQ p Y Y)) ⟨8, 0, 0, 0⟩)
      have hyz := bY hp Y Z
      have hz3 := bY hp (aQ p Y Z) ⟨2, 0, 0, 0⟩
      rw [Pl] at hz3
      have hzz := apv hz3 hyz hY
      refine ⟨Cm hp _ _, fun hn => ?_, apx ht.x hl.b hz3 hyz hx3 hs2 hmm hm hb hs ha hyy hX hY, apw ht.y ht.x hl.b hz3 hyz hy3 hy8 hy4 hmd hd hx3 hs2 hmm hm hb hs ha hyy hX hY⟩
      have h2 : (p : Int) ∣ 2 * ((P.2 : Int) * ((Z.nat : Int) * ((Z.nat : Int) * ((Z.nat : Int) * Z.nat)))) := aoA hn hzz
      rcases c.pr.dP h2 with h | h
      · exact c.no2 h
      · rcases c.pr.dP h with h | h
        · exact c.yne hP.2.2 h
        · rcases c.pr.dP h with h | h
          · exact hzn h
          · rcases c.pr.dP h with h | h
            · exact hzn h
            · rcases c.pr.dP h with h | h <;> exact hzn h
end Go.Proofs.Ytkedomfjjahjnaa

namespace Go.Proofs.Ytkedomfjjahjnaa
open Sx Go
theorem Ss {p b : Nat} (c : Cur p b) (hp : Sm p) {w v : Bg} {P R : PtQ} (hP : OnQ p b P) (hR : OnQ p b R) (h : aix p w P) (k : aix p v R) : aix p (OD p w v) (cQ p P R) := by
  obtain ⟨X1, Y1, Z1⟩ := w
  obtain ⟨X2, Y2, Z2⟩ := v
  cases P with
  | none =>
    have e : OD p (X1, Y1, Z1) (X2, Y2, Z2) = (X2, Y2, Z2) := by unfold OD; rw [HW (e := Z1) h]; rfl
    rw [e]
    exact k
  | some P =>
  cases R with
  | none =>
    have e : OD p (X1, Y1, Z1) (X2, Y2, Z2) = (X1, Y1, Z1) := by unfold OD; rw [pY (e := Z1) h.2.1, HW (e := Z2) k]; rfl
    rw [e]
    exact h
  | some R =>
    have hw := h
    obtain ⟨hz, hzn, hX, hY⟩ := h
    obtain ⟨kz, kzn, kX, kY⟩ := k
    have e : OD p (X1, Y1, Z1) (X2, Y2, Z2) = apc p (X1, Y1, Z1) (X2, Y2, Z2) := by unfold OD; rw [pY (e := Z1) hzn, pY (e := Z2) kzn]; rfl
    rw [e]
    unfold apc
    dsimp only at *
    have hpz := bY hp Z1 Z1
    have hqz := bY hp Z2 Z2
    have hu := bY hp X1 (aQ p Z2 Z2)
    have hq3 := bY hp (aQ p Z2 Z2) Z2
    have hs := bY hp Y1 (aQ p (aQ p Z2 Z2) Z2)
    have hv := bY hp X2 (aQ p Z1 Z1)
    have hp3 := bY hp (aQ p Z1 Z1) Z1
    have ht := bY hp Y2 (aQ p (aQ p Z1 Z1) Z1)
    generalize aQ p X1 (aQ p Z2 Z2) = u at *
    generalize aQ p Y1 (aQ p (aQ p Z2 Z2) Z2) = s at *
    generalize aQ p X2 (aQ p Z1 Z1) = v at *
    generalize aQ p Y2 (aQ p (aQ p Z1 Z1) Z1) = t at *
    have hh := jx hp v u
    have hr := jx hp t s
    have lh := H5 hp v u
    have lr := H5 hp t s
    generalize eZ p v u = H at *
    generalize eZ p t s = r at *
    have ah := apJ hh hv hu hqz hpz hX kX
    have ar := apI hr ht hp3 hs hq3 hqz hpz hY kY
    have out : ∀ {a z : Int}, ¬ (p : Int) ∣ z → (p : Int) ∣ a * z → (p : Int) ∣ a := fun hz h => (c.pr.dP h).resolve_right hz
    have mul : ∀ {a z : Int}, ¬ (p : Int) ∣ a → ¬ (p : Int) ∣ z → ¬ (p : Int) ∣ a * z := fun ha hz h => (c.pr.dP h).elim ha hz
    have n4 := mul (mul hzn hzn) (mul kzn kzn)
    have n6 := mul (mul (mul hzn hzn) hzn) (mul (mul kzn kzn) kzn)
    unfold apK
    rcases (Bool.eq_false_or_eq_true (cr H)).symm with h1 | h1
    · rw [h1]
      simp only [cond_false]
      have hHn : ¬ (p : Int) ∣ (H.nat : Int) := fun hd => by
        rw [fo] at h1
        have := Nat.eq_zero_of_dvd_of_lt (Int.natCast_dvd_natCast.1 hd) lh
        rw [this] at h1
        cases h1
      have hxn : P.1 ≠ R.1 := fun hx => hHn (by
        rw [hx, Int.sub_self, Int.zero_mul, Int.sub_zero] at ah
        exact ah)
      cases hS : cQ p (some P) (some R) with
      | none =>
        have : cQ p (some P) (some R) = some (rF p P R (nL p P R)) := if_neg fun h => hxn h.1
        rw [this] at hS
        cases hS
      | some S =>
        obtain ⟨hS1, hS2, l, hl, hT⟩ := kL c hP hR hS
        unfold apV jw
        dsimp only
        have hhh := bY hp H H
        have hhhh := bY hp (aQ p H H) H
        have hcc := bY hp u (aQ p H H)
        have hrr := bY hp r r
        have hrh := jx hp (aQ p r r) (aQ p (aQ p H H) H)
        have hc2 := bY hp (aQ p u (aQ p H H)) ⟨2, 0, 0, 0⟩
        rw [Pl] at hc2
        have hx3 := jx hp (eZ p (aQ p r r) (aQ p (aQ p H H) H)) (aQ p (aQ p u (aQ p H H)) ⟨2, 0, 0, 0⟩)
        generalize eZ p (eZ p (aQ p r r) (aQ p (aQ p H H) H)) (aQ p (aQ p u (aQ p H H)) ⟨2, 0, 0, 0⟩) = x3 at *
        have hd := jx hp (aQ p u (aQ p H H)) x3
        have hrd := bY hp r (eZ p (aQ p u (aQ p H H)) x3)
        have hsh := bY hp s (aQ p (aQ p H H) H)
        have hy3 := jx hp (aQ p r (eZ p (aQ p u (aQ p H H)) x3)) (aQ p s (aQ p (aQ p H H) H))
        have hzz := bY hp Z1 Z2
        have hz3 := bY hp H (aQ p Z1 Z2)
        refine ⟨Cm hp _ _, fun hn => ?_, apH hT.x hl.a hz3 hzz hx3 hc2 hrh hrr hcc hhhh hhh hr ht hp3 hh hv hs hq3 hu hqz hpz hX hY kX kY,
          apG hT.y hT.x hl.a hz3 hzz hy3 hsh hrd hd hx3 hc2 hrh hrr hcc hhhh hhh hr ht hp3 hh hv hs hq3 hu hqz hpz hX hY kX kY⟩
        have h2 := aoA hn hz3
        rcases c.pr.dP h2 with h | h
        · exact hHn h
        · have h3 := aoA h hzz
          exact mul hzn kzn h3
    · rw [h1]
      simp only [cond_true]
      have hH : H.nat = 0 := by rw [fo] at h1; exact Nat.eq_of_beq_eq_true h1
      have hx : P.1 = R.1 := by
        rw [hH] at ah
        have : (p : Int) ∣ ((R.1 : Int) - P.1) * ((Z1.nat : Int) * Z1.nat * (Z2.nat * Z2.nat)) := aoA (Int.dvd_zero _) ah
        exact (fD hR.1 hP.1 (out n4 this)).symm
      rcases (Bool.eq_false_or_eq_true (cr r)).symm with h2 | h2
      · rw [h2]
        simp only [cond_false]
        have hy : P.2 ≠ R.2 := fun hy => by
          rw [hy, Int.sub_self, Int.zero_mul, Int.sub_zero] at ar
          rw [fo] at h2
          have := Nat.eq_zero_of_dvd_of_lt (Int.natCast_dvd_natCast.1 ar) lr
          rw [this] at h2
          cases h2
        have : cQ p (some P) (some R) = none := if_pos ⟨hx, hy⟩
        rw [this]
        exact lM
      · rw [h2]
        simp only [cond_true]
        have hr0 : r.nat = 0 := by rw [fo] at h2; exact Nat.eq_of_beq_eq_true h2
        have hy : P.2 = R.2 := by
          rw [hr0] at ar
          have : (p : Int) ∣ ((R.2 : Int) - P.2) * ((Z1.nat : Int) * Z1.nat * Z1.nat * (Z2.nat * Z2.nat * Z2.nat)) := aoA (Int.dvd_zero _) ar
          exact (fD hR.2.1 hP.2.1 (out n6 this)).symm
        have : R = P := by
          obtain ⟨P1, P2⟩ := P
          obtain ⟨R1, R2⟩ := R
          dsimp only at hx hy
          rw [hx, hy]
        rw [this]
        exact aez c hp hP hw
def Can (P : Pt) : Prop := P.2.2 = true → P = aC
theorem J6 {P R : Pt} (hP : Can P) (hR : Can R) (h : toQ P = toQ R) : P = R := by
  obtain ⟨X, Y, i⟩ := P
  obtain ⟨X2, Y2, j⟩ := R
  cases i <;> cases j
  · have h : some (X.nat, Y.nat) = some (X2.nat, Y2.nat) := h
    simp only [Option.some.injEq, Prod.mk.injEq] at h
    rw [jV h.1, jV h.2]
  · cases h
  · cases h
  · rw [hP rfl, hR rfl]
theorem xC {p b : Nat} (c : Cur p b) (hp : Sm p) {w : Bg} {P : PtQ} (hP : OnQ p b P) (h : aix p w P) : toQ (eT p w) = P ∧ Can (eT p w) := by
  obtain ⟨X, Y, Z⟩ := w
  cases P with
  | none =>
    have e : eT p (X, Y, Z) = aC := by unfold eT; rw [HW (e := Z) h]; rfl
    rw [e]
    exact ⟨rfl, fun _ => rfl⟩
  | some P =>
    obtain ⟨hz, hzn, hX, hY⟩ := h
    have e : eT p (X, Y, Z) = QH p X Y (tM p Z) := by unfold eT; rw [pY (e := Z) hzn]; rfl
    rw [e]
    refine ⟨?_, fun h => by cases h⟩
    have hi := adB hp c.pr hzn
    unfold QH
    have h2 := bY hp (tM p Z) (tM p Z)
    have h3 := bY hp (aQ p (tM p Z) (tM p Z)) (tM p Z)
    have hx := bY hp X (aQ p (tM p Z) (tM p Z))
    have hy := bY hp Y (aQ p (aQ p (tM p Z) (tM p Z)) (tM p Z))
    have ex := fD (Cm hp _ _) hP.1 (app hx h2 hX hi)
    have ey := fD (Cm hp _ _) hP.2.1 (apo hy h3 h2 hY hi)
    show some ((aQ p X (aQ p (tM p Z) (tM p Z))).nat, (aQ p Y (aQ p (aQ p (tM p Z) (tM p Z)) (tM p Z))).nat) = some P
    rw [ex, ey]
theorem oa {p b : Nat} (c : Cur p b) {P : Pt} : aix p (eK P) (toQ P) := by
  obtain ⟨X, Y, i⟩ := P
  cases i
  · have h1 := c.big
    refine ⟨?_, fun h => ?_, ?_, ?_⟩
    · show (aa.mk 1 0 0 0).nat < p
      rw [IQ]
      omega
    · have h : (p : Int) ∣ (((aa.mk 1 0 0 0).nat : Nat) : Int) := h
      rw [IQ] at h
      have := Int.le_of_dvd (by decide) h
      omega
    · show (p : Int) ∣ (X.nat : Int) - (X.nat : Int) * ((((aa.mk 1 0 0 0).nat : Nat) : Int) * (((aa.mk 1 0 0 0).nat : Nat) : Int))
      rw [IQ]
      exact ⟨0, by simp⟩
    · show (p : Int) ∣ (Y.nat : Int) - (Y.nat : Int) * ((((aa.mk 1 0 0 0).nat : Nat) : Int) * (((aa.mk 1 0 0 0).nat : Nat) : Int) * (((aa.mk 1 0 0 0).nat : Nat) : Int))
      rw [IQ]
      exact ⟨0, by simp⟩
  · exact lM
theorem V1 {p : Nat} (X Y X2 s : aa) : Can (xV p X Y X2 s) := fun h => by cases h
theorem R0 {p : Nat} {P R : Pt} (hP : Can P) (hR : Can R) : Can (dS p P R) := by
  obtain ⟨X, Y, i⟩ := P
  obtain ⟨X2, Y2, j⟩ := R
  unfold dS
  cases i
  · cases j
    · simp only [cond_false]
      cases eqE X X2
      · exact V1 _ _ _ _
      · cases eqE Y Y2
        · exact fun _ => rfl
        · exact V1 _ _ _ _
    · exact hP
  · exact hR
theorem amT (k : aa) {n : Nat} (h : n < 256) : nZ k (255 - (n : Int)) = AK k.nat (255 - n) := by
  unfold nZ
  rw [decide_eq_true (show (0 : Int) ≤ 255 - (n : Int) by omega), decide_eq_true (show (255 : Int) - (n : Int) < 256 by omega), show ((255 : Int) - (n : Int)).toNat = 255 - n by omega]
  rfl
theorem AZ {p b : Nat} (c : Cur p b) (hp : Sm p) (k : aa) {P : Pt} (hP : OnQ p b (toQ P)) (hc : Can P) : ∀ n, n ≤ 256 →
    aix p (upto (gZ p k (eK P)) ZD n) (toQ (upto (cq p k.nat P) aC n)) ∧ OnQ p b (toQ (upto (cq p k.nat P) aC n)) ∧ Can (upto (cq p k.nat P) aC n)
  | 0, _ => ⟨lM, trivial, fun _ => rfl⟩
  | n + 1, h => by
    obtain ⟨h1, h2, h3⟩ := AZ c hp k hP hc n (by omega)
    show aix p (gZ p k (eK P) n (upto (gZ p k (eK P)) ZD n)) (toQ (cq p k.nat P n (upto (cq p k.nat P) aC n))) ∧ OnQ p b (toQ (cq p k.nat P n (upto (cq p k.nat P) aC n))) ∧ Can (cq p k.nat P n (upto (cq p k.nat P) aC n))
    generalize upto (gZ p k (eK P)) ZD n = w at *
    generalize upto (cq p k.nat P) aC n = Q at *
    have d1 := aez c hp h2 h1
    have d2 := Bs c hp h2 h2
    have d3 := fO c h2 h2
    rw [← d2] at d1 d3
    have d4 := R0 (p := p) h3 h3
    unfold gZ cq
    rw [amT k (by omega)]
    cases AK k.nat (255 - n)
    · exact ⟨d1, d3, d4⟩
    · simp only [cond_true]
      have e2 := Bs c hp d3 hP
      refine ⟨?_, ?_, R0 d4 hc⟩
      · rw [e2]
        exact Ss c hp d3 hP d1 (oa c)
      · rw [e2]
        exact fO c d3 hP
theorem IV {p b m : Nat} (pr : Pr p) (h3 : p = 3 * m + 1) (hb0 : 0 < b) (hb : b < p) (hm : Nat.blt m (2 ^ 256) = true) (hk : Nat.beq (pwm p (p - b) m) 1 = false) (x : Int) : ¬ (p : Int) ∣ x * x * x + b := fun hd => by
  have h2 := pr.1
  rw [acp h2 hm] at hk
  obtain ⟨k, hk1⟩ := hd
  obtain ⟨j, hj⟩ := nO pr.pos x
  have hn : p ∣ nm p x * nm p x * nm p x + b := Int.natCast_dvd_natCast.1 (by
    rw [Int.natCast_add, Int.natCast_mul, Int.natCast_mul]
    generalize ((nm p x : Nat) : Int) = n at *
    exact ⟨k + j * (n * n + n * x + x * x), by grind⟩)
  generalize nm p x = n at *
  have hpn : ¬ p ∣ n := fun hd => by
    have h1 : p ∣ n * n * n := Nat.dvd_trans hd (Nat.dvd_mul_left ..)
    have := (Nat.dvd_add_right h1).1 hn
    have := Nat.le_of_dvd hb0 this
    omega
  have hf := VA pr hpn
  have e : n ^ 3 % p = (p - b) % p := by
    obtain ⟨c, hc⟩ := hn
    have hc0 : c ≠ 0 := fun e => by rw [e] at hc; omega
    obtain ⟨d, rfl⟩ : ∃ d, c = d + 1 := ⟨c - 1, by omega⟩
    have : n ^ 3 = (p - b) + p * d := by
      rw [show n ^ 3 = n * n * n by rw [Nat.pow_succ, Nat.pow_succ, Nat.pow_one]]
      rw [Nat.mul_succ] at hc
      omega
    rw [this, Nat.add_mul_mod_self_left]
  have : (p - b) ^ m % p = 1 := by
    rw [Nat.pow_mod, ← e, ← Nat.pow_mod, ← Nat.pow_mul, show 3 * m = p - 1 by omega]
    exact hf
  rw [this] at hk
  cases hk
theorem bz {s : Int} (h : aj s = true) : Cur (pS s) (bS s).nat := by
  rcases cu h with rfl | rfl | rfl | rfl
  · have e : pS 0 = 16513537 := by decide +kernel
    have e2 : (bS 0).nat = 23 := by decide +kernel
    rw [e, e2]
    exact ⟨su, by decide, IV (m := 5504512) su (by decide) (by decide) (by decide) (by decide +kernel) (by decide +kernel)⟩
  · have e : pS 1 = 16521217 := by decide +kernel
    have e2 : (bS 1).nat = 21 := by decide +kernel
    rw [e, e2]
    exact ⟨ss, by decide, IV (m := 5507072) ss (by decide) (by decide) (by decide) (by decide +kernel) (by decide +kernel)⟩
  · have e : pS 2 = 28948022309329048855892746252171976963363056481941560715954676764349967630337 := by decide +kernel
    have e2 : (bS 2).nat = 5 := by decide +kernel
    rw [e, e2]
    exact ⟨aG, by decide, IV (m := 9649340769776349618630915417390658987787685493980520238651558921449989210112) aG (by decide) (by decide) (by decide) (by decide +kernel) (by decide +kernel)⟩
  · have e : pS 3 = 28948022309329048855892746252171976963363056481941647379679742748393362948097 := by decide +kernel
    have e2 : (bS 3).nat = 5 := by decide +kernel
    rw [e, e2]
    exact ⟨aF, by decide, IV (m := 9649340769776349618630915417390658987787685493980549126559914249464454316032) aF (by decide) (by decide) (by decide) (by decide +kernel) (by decide +kernel)⟩
theorem du {s : Int} {P : Pt} (h : onB s P = true) : aj s = true ∧ OnQ (pS s) (bS s).nat (toQ P) ∧ Can P := by
  have hs := mZ h
  have hp : Sm (pS s) := fN hs
  obtain ⟨X, Y, i⟩ := P
  refine ⟨hs, ?_⟩
  unfold onB at h
  rw [hs] at h
  simp only [cond_true] at h
  cases i
  · simp only [cond_false] at h
    refine ⟨?_, fun h => by cases h⟩
    rcases (Bool.eq_false_or_eq_true (Nat.blt X.nat (pS s))).symm with h1 | h1
    · rw [h1] at h; cases h
    · rcases (Bool.eq_false_or_eq_true (Nat.blt Y.nat (pS s))).symm with h2 | h2
      · rw [h1, h2] at h; cases h
      · rw [h1, h2] at h
        simp only [cond_true] at h
        have e := li.1 h
        have hx : X.nat < pS s := cL h1
        have hy : Y.nat < pS s := cL h2
        refine ⟨hx, hy, ?_⟩
        have e1 := bY hp Y Y
        have e2 := bY hp X X
        have e3 := bY hp (aQ (pS s) X X) X
        have e4 := Wd hp (aQ (pS s) (aQ (pS s) X X) X) (bS s)
        rw [e] at e1
        unfold AD at e1
        show ((pS s : Nat) : Int) ∣ (Y.nat : Int) * Y.nat - X.nat * X.nat * X.nat - (bS s).nat
        exact apA e1 e4 e3 e2
  · simp only [cond_true, Bool.and_eq_true] at h
    refine ⟨trivial, fun _ => ?_⟩
    have z : ∀ {e : aa}, cr e = true → e = ⟨0, 0, 0, 0⟩ := fun {e} h => jV (by rw [fo] at h; rw [Nat.eq_of_beq_eq_true h]; exact lM.symm)
    rw [z h.1, z h.2.1]
    rfl
theorem abi {s : Int} (h : aj s = true) (k : aa) : (wJ s k).nat = (ofP (pS (tL s 1)) k).nat := by
  have hp := fN (fJ h)
  unfold wJ
  rw [show (n0 (pS (tL s 1)) k ⟨0, 0, 0, 0⟩).nat = (k.nat + (aa.mk 0 0 0 0).nat) % pS (tL s 1) from cM hp, lM, Nat.add_zero]
  exact (cM hp).symm
theorem UF (s : Int) (k : aa) (P : Pt) : sE s k P = oM s k P := by
  unfold sE oM
  rcases (Bool.eq_false_or_eq_true (onB s P)).symm with h | h
  · rw [h]
    rfl
  · rw [h]
    simp only [cond_true]
    obtain ⟨hs, hP, hc⟩ := du h
    have c := bz hs
    have hp : Sm (pS s) := fN hs
    obtain ⟨h1, h2, h3⟩ := AZ c hp (wJ s k) hP hc 256 (Nat.le_refl _)
    obtain ⟨n1, n2⟩ := xC c hp h2 h1
    rw [← abi hs]
    exact J6 n2 h3 n1
theorem add_same (s : Int) (P R : Pt) : eD s P R = Au s P R := by
  unfold eD Au
  rcases (Bool.eq_false_or_eq_true (onB s P)).symm with h | h
  · rw [h]
    rfl
  · rcases (Bool.eq_false_or_eq_true (onB s R)).symm with h' | h'
    · rw [h, h']
      rfl
    · rw [h, h']
      simp only [cond_true]
      obtain ⟨hs, hP, hc⟩ := du h
      obtain ⟨_, hR, hc'⟩ := du h'
      have c := bz hs
      have hp : Sm (pS s) := fN hs
      obtain ⟨n1, n2⟩ := xC c hp (fO c hP hR) (Ss c hp hP hR (oa c) (oa c))
      refine J6 n2 (R0 hc hc') ?_
      rw [n1, Bs c hp hP hR]
end Go.Proofs.Ytkedomfjjahjnaa

namespace Go.Proofs.Ytkedomfjjahjnaa
open Sx Go
abbrev ff : Pt := (⟨0, 0, 0, 0⟩, ⟨0, 0, 0, 0⟩, false)
end Go.Proofs.Ytkedomfjjahjnaa

namespace Go.Proofs.Ytkedomfjjahjnaa
def c9 (p : Nat) : Nat → PtQ → PtQ
  | 0, _ => none
  | n + 1, P => cQ p P (c9 p n P)
variable {p b : Nat}
theorem nN (c : Cur p b) {P : PtQ} (hP : OnQ p b P) : ∀ n, OnQ p b (c9 p n P)
  | 0 => trivial
  | n + 1 => fO c hP (nN c hP n)
theorem mul_one (P : PtQ) : c9 p 1 P = P := bW P
theorem qD : ∀ n, c9 p n none = none
  | 0 => rfl
  | n + 1 => qD n
theorem fA (c : Cur p b) {P : PtQ} (hP : OnQ p b P) (m : Nat) : ∀ n, c9 p (n + m) P = cQ p (c9 p n P) (c9 p m P)
  | 0 => by rw [Nat.zero_add]; rfl
  | n + 1 => by
    rw [show n + 1 + m = (n + m) + 1 by omega]
    show cQ p P (c9 p (n + m) P) = cQ p (cQ p P (c9 p n P)) (c9 p m P)
    rw [fA c hP m n, add_assoc c hP (nN c hP n) (nN c hP m)]
theorem jW (c : Cur p b) {P : PtQ} (hP : OnQ p b P) (m : Nat) : ∀ n, c9 p (n * m) P = c9 p n (c9 p m P)
  | 0 => by rw [Nat.zero_mul]; rfl
  | n + 1 => by
    rw [show (n + 1) * m = m + n * m by rw [Nat.succ_mul, Nat.add_comm], fA c hP, jW c hP m n]
    rfl
theorem mul_comm (c : Cur p b) {P : PtQ} (hP : OnQ p b P) (m n : Nat) : c9 p n (c9 p m P) = c9 p m (c9 p n P) := by
  rw [← jW c hP, ← jW c hP, Nat.mul_comm]
theorem Ko (c : Cur p b) {A B C D : PtQ} (hA : OnQ p b A) (hB : OnQ p b B) (hC : OnQ p b C) (hD : OnQ p b D) :
    cQ p (cQ p A B) (cQ p C D) = cQ p (cQ p A C) (cQ p B D) := by
  rw [add_assoc c hA hB (fO c hC hD), ← add_assoc c hB hC hD, add_comm c hB hC, add_assoc c hC hB hD, ← add_assoc c hA hC (fO c hB hD)]
theorem mul_add (c : Cur p b) {P R : PtQ} (hP : OnQ p b P) (hR : OnQ p b R) : ∀ n, c9 p n (cQ p P R) = cQ p (c9 p n P) (c9 p n R)
  | 0 => rfl
  | n + 1 => by
    show cQ p (cQ p P R) (c9 p n (cQ p P R)) = cQ p (cQ p P (c9 p n P)) (cQ p R (c9 p n R))
    rw [mul_add c hP hR n, Ko c hP hR (nN c hP n) (nN c hR n)]
theorem mul_neg (c : Cur p b) {P : PtQ} (hP : OnQ p b P) : ∀ n, c9 p n (IY p P) = IY p (c9 p n P)
  | 0 => rfl
  | n + 1 => by
    show cQ p (IY p P) (c9 p n (IY p P)) = IY p (cQ p P (c9 p n P))
    rw [mul_neg c hP n, neg_add c hP (nN c hP n)]
theorem yF (c : Cur p b) {P R T : PtQ} (hP : OnQ p b P) (hR : OnQ p b R) (hT : OnQ p b T) (h : cQ p P R = cQ p P T) : R = T := by
  rw [← cancel c hP hR, h, cancel c hP hT]
theorem afM (c : Cur p b) {P : PtQ} (h : cQ p P P = none) : P = none := by
  cases P with
  | none => rfl
  | some P =>
    have : cQ p (some P) (some P) = some (rF p P P (nL p P P)) := if_neg fun h => h.2 rfl
    rw [this] at h
    cases h
theorem mul_gcd (c : Cur p b) {P : PtQ} (hP : OnQ p b P) (m k : Nat) : c9 p m P = none → c9 p k P = none → c9 p (Nat.gcd m k) P = none := by
  induction m, k using Nat.gcd.induction with
  | H0 n => intro _ h; rw [Nat.gcd_zero_left]; exact h
  | H1 m n hm ih =>
    intro h1 h2
    rw [Nat.gcd_rec]
    refine ih ?_ h1
    have e := Nat.div_add_mod n m
    rw [← e, Nat.mul_comm, fA c hP, jW c hP, h1, qD] at h2
    exact h2
theorem mul_mod (c : Cur p b) {P : PtQ} (hP : OnQ p b P) {q : Nat} (hq : c9 p q P = none) (n : Nat) : c9 p (n % q) P = c9 p n P := by
  have e := Nat.div_add_mod n q
  conv => rhs; rw [← e, Nat.mul_comm, fA c hP, jW c hP, hq, qD]
  rfl
def anc (p : Nat) : PtQ → Nat
  | none => 2 * p
  | some P => 2 * P.1 + P.2 % 2
theorem aoz {P : PtQ} (hP : OnQ p b P) : anc p P < 2 * p + 1 := by
  cases P with
  | none => show 2 * p < _; omega
  | some P =>
    have := hP.1
    show 2 * P.1 + P.2 % 2 < _
    omega
theorem amD (c : Cur p b) (hodd : p % 2 = 1) {P R : PtQ} (hP : OnQ p b P) (hR : OnQ p b R) (h : anc p P = anc p R) : P = R := by
  cases P with
  | none =>
    cases R with
    | none => rfl
    | some R =>
      have := hR.1
      have h : 2 * p = 2 * R.1 + R.2 % 2 := h
      omega
  | some P =>
    cases R with
    | none =>
      have := hP.1
      have h : 2 * P.1 + P.2 % 2 = 2 * p := h
      omega
    | some R =>
      obtain ⟨x1, y1⟩ := P
      obtain ⟨x2, y2⟩ := R
      have h : 2 * x1 + y1 % 2 = 2 * x2 + y2 % 2 := h
      have hx : x1 = x2 := by omega
      have hy : y1 % 2 = y2 % 2 := by omega
      by_cases he : y1 = y2
      · rw [hx, he]
      · exfalso
        have ho := acE c hP hR ⟨hx, he⟩
        have ho : some (x2, y2) = some (x1, nm p (-(y1 : Int))) := ho
        simp only [Option.some.injEq, Prod.mk.injEq] at ho
        have h2 := ho.2
        have hy1 : y1 < p := hP.2.1
        have h0 : y1 ≠ 0 := fun e => c.yne hP.2.2 (by show (p : Int) ∣ ((y1 : Nat) : Int); rw [e]; exact ⟨0, by simp⟩)
        have h3 : nm p (-(y1 : Int)) = p - y1 := acI (by omega) ⟨1, by omega⟩
        omega
theorem afr (c : Cur p b) (hodd : p % 2 = 1) {q : Nat} (hq : Pr q) (hq2 : q % 2 = 1) (h3 : 2 * p + 1 < 3 * q) {G : PtQ} (hG : OnQ p b G) (hne : G ≠ none) (hqG : c9 p q G = none)
    {P : PtQ} (hP : OnQ p b P) : c9 p q P = none := by
  apply Classical.byContradiction
  intro hno
  have hord : ∀ i, c9 p i G = none → q ∣ i := fun i hi => by
    have hg := mul_gcd c hG q i hqG hi
    rcases hq.2 (Nat.gcd q i) (Nat.gcd_dvd_left ..) with e | e
    · rw [e, mul_one] at hg
      exact absurd hg hne
    · rw [← e]
      exact Nat.gcd_dvd_right ..
  have hon := fun i => nN c hG i
  have honP := fun i => nN c hP i
  -- no point of G's meets P or twice P
  have hp1 : ∀ i, P ≠ c9 p i G := fun i e => hno (by rw [e, mul_comm c hG, hqG, qD])
  have hp2 : ∀ i, cQ p P P ≠ c9 p i G := fun i e => by
    have hh : ∃ j, c9 p i G = cQ p (c9 p j G) (c9 p j G) := by
      refine ⟨i * ((q + 1) / 2), ?_⟩
      rw [← fA c hG, ← Nat.mul_add, show (q + 1) / 2 + (q + 1) / 2 = q + 1 by omega, Nat.mul_add, fA c hG, jW c hG, hqG, qD, Nat.mul_one]
      rfl
    obtain ⟨j, hj⟩ := hh
    rw [hj] at e
    have hn := zr c (hon j)
    have : cQ p (cQ p (IY p (c9 p j G)) P) (cQ p (IY p (c9 p j G)) P) = none := by
      rw [Ko c hn hP hn hP, e, add_comm c (fO c hn hn) (fO c (hon j) (hon j)), Ko c (hon j) (hon j) hn hn, add_neg c (hon j)]
      rfl
    have h2 := afM c this
    have h4 := Ci c hn hP h2
    rw [neg_neg c (hon j)] at h4
    exact hp1 j h4
  -- differences of G's points
  have hdiff : ∀ i j A B, OnQ p b A → OnQ p b B → cQ p (c9 p i G) A = cQ p (c9 p j G) B → ∃ k, A = cQ p (c9 p k G) B := fun i j A B hA hB e => by
    refine ⟨(q - i % q) + j, ?_⟩
    have hm : c9 p (i % q) G = c9 p i G := mul_mod c hG hqG i
    have hlt := Nat.mod_lt i hq.pos
    have hz : cQ p (c9 p (q - i % q) G) (c9 p i G) = none := by
      rw [← hm, ← fA c hG, show q - i % q + i % q = q by omega, hqG]
    rw [fA c hG, add_assoc c (hon _) (hon _) hB, ← e, ← add_assoc c (hon _) (hon _) hA, hz]
    rfl
  have hinj : ∀ i j, i < q → j < q → c9 p i G = c9 p j G → i = j := by
    have aux : ∀ i j, i ≤ j → j < q → c9 p i G = c9 p j G → i = j := fun i j hij hj e => by
      have e2 : cQ p (c9 p i G) none = cQ p (c9 p i G) (c9 p (j - i) G) := by
        rw [← fA c hG, show i + (j - i) = j by omega, bW, e]
      have h0 := yF c (hon i) (R := none) trivial (hon _) e2
      have hd := hord _ h0.symm
      by_cases h : j - i = 0
      · omega
      · have := Nat.le_of_dvd (by omega) hd
        omega
    intro i j hi hj e
    rcases Nat.le_total i j with h | h
    · exact aux i j h hj e
    · exact (aux j i h hi e.symm).symm
  let tw : Nat → PtQ := fun k => c9 p (k / q) P
  let pt : Nat → PtQ := fun k => cQ p (c9 p (k % q) G) (c9 p (k / q) P)
  have hpt : ∀ k, OnQ p b (pt k) := fun k => fO c (hon _) (honP _)
  have hcoset : ∀ i j, i < 3 → j < 3 → (∃ k, c9 p i P = cQ p (c9 p k G) (c9 p j P)) → i = j := by
    have P1 : c9 p 1 P = P := mul_one P
    have P2 : c9 p 2 P = cQ p P P := congrArg (cQ p P) (mul_one P)
    have back : ∀ k A B, OnQ p b A → OnQ p b B → A = cQ p (c9 p k G) B → ∃ k', B = cQ p (c9 p k' G) A := fun k A B hA hB e => by
      refine hdiff k 0 B A hB hA ?_
      rw [← e]
      rfl
    have n01 : ∀ k, c9 p 0 P ≠ cQ p (c9 p k G) (c9 p 1 P) := fun k e => by
      obtain ⟨k', e'⟩ := back k _ _ (honP 0) (honP 1) e
      rw [P1, show c9 p 0 P = none from rfl, bW] at e'
      exact hp1 k' e'
    have n02 : ∀ k, c9 p 0 P ≠ cQ p (c9 p k G) (c9 p 2 P) := fun k e => by
      obtain ⟨k', e'⟩ := back k _ _ (honP 0) (honP 2) e
      rw [P2, show c9 p 0 P = none from rfl, bW] at e'
      exact hp2 k' e'
    have n12 : ∀ k, c9 p 1 P ≠ cQ p (c9 p k G) (c9 p 2 P) := fun k e => by
      rw [P1, P2, ← add_assoc c (hon k) hP hP] at e
      have e2 : cQ p P none = cQ p P (cQ p (c9 p k G) P) := by
        rw [bW, ← add_assoc c hP (hon k) hP, add_comm c hP (hon k)]
        exact e
      have e3 := yF c hP (R := none) trivial (fO c (hon k) hP) e2
      obtain ⟨k', e'⟩ := back k none P trivial hP e3
      rw [bW] at e'
      exact hp1 k' e'
    rintro i j hi hj ⟨k, hk⟩
    apply Classical.byContradiction
    intro hij
    have bk := back k _ _ (honP i) (honP j) hk
    have : (i = 0 ∧ j = 1) ∨ (i = 0 ∧ j = 2) ∨ (i = 1 ∧ j = 2) ∨ (i = 1 ∧ j = 0) ∨ (i = 2 ∧ j = 0) ∨ (i = 2 ∧ j = 1) := by omega
    rcases this with ⟨rfl, rfl⟩ | ⟨rfl, rfl⟩ | ⟨rfl, rfl⟩ | ⟨rfl, rfl⟩ | ⟨rfl, rfl⟩ | ⟨rfl, rfl⟩
    · exact n01 k hk
    · exact n02 k hk
    · exact n12 k hk
    · obtain ⟨k', e⟩ := bk; exact n01 k' e
    · obtain ⟨k', e⟩ := bk; exact n02 k' e
    · obtain ⟨k', e⟩ := bk; exact n12 k' e
  have hptinj : ∀ x ∈ List.range (3 * q), ∀ y ∈ List.range (3 * q), anc p (pt x) = anc p (pt y) → x = y := fun x hx y hy e => by
    rw [List.mem_range] at hx hy
    have e := amD c hodd (hpt x) (hpt y) e
    have hdx : x / q < 3 := Nat.div_lt_of_lt_mul (by rw [Nat.mul_comm]; exact hx)
    have hdy : y / q < 3 := Nat.div_lt_of_lt_mul (by rw [Nat.mul_comm]; exact hy)
    have h1 := hcoset (x / q) (y / q) hdx hdy (hdiff _ _ _ _ (honP _) (honP _) e)
    have e : cQ p (c9 p (x % q) G) (c9 p (x / q) P) = cQ p (c9 p (y % q) G) (c9 p (y / q) P) := e
    rw [h1, add_comm c (hon _) (honP _), add_comm c (hon (y % q)) (honP _)] at e
    have h2 := hinj _ _ (Nat.mod_lt _ hq.pos) (Nat.mod_lt _ hq.pos) (yF c (honP _) (hon _) (hon _) e)
    have e1 := Nat.div_add_mod x q
    have e2 := Nat.div_add_mod y q
    rw [← e1, ← e2, h1, h2]
  have hnd := oL (f := fun k => anc p (pt k)) List.nodup_range hptinj
  have hlen := u3 (l2 := List.range (2 * p + 1)) hnd (fun x hx => by
    obtain ⟨k, _, rfl⟩ := List.mem_map.1 hx
    exact List.mem_range.2 (aoz (hpt k)))
  rw [List.length_map, List.length_range, List.length_range] at hlen
  omega
end Go.Proofs.Ytkedomfjjahjnaa

namespace Go.Proofs.Ytkedomfjjahjnaa
open Sx Go
theorem sb {p b : Nat} (c : Cur p b) (hp : Sm p) {k : Nat} (hk : k < 2 ^ 256) {P : Pt} (hP : OnQ p b (toQ P)) : ∀ n, n ≤ 256 →
    toQ (upto (cq p k P) aC n) = c9 p (k / 2 ^ (256 - n)) (toQ P)
  | 0, _ => by
    rw [Nat.sub_zero, Nat.div_eq_of_lt hk]
    rfl
  | n + 1, h => by
    have ih := sb c hp hk hP n (by omega)
    have ho := nN c hP (k / 2 ^ (256 - n))
    show toQ (cq p k P n (upto (cq p k P) aC n)) = _
    generalize upto (cq p k P) aC n = Q at *
    have hQ : OnQ p b (toQ Q) := by rw [ih]; exact ho
    have d2 := Bs c hp hQ hQ
    have e1 : 256 - n = (255 - n) + 1 := by omega
    have hd : k / 2 ^ (256 - n) = k / 2 ^ (255 - n) / 2 := by rw [e1, Nat.pow_succ, Nat.div_div_eq_div_mul]
    rw [show 256 - (n + 1) = 255 - n by omega]
    rw [hd] at ih ho
    unfold cq
    cases hb : AK k (255 - n)
    · have h0 := Kg hb
      simp only [cond_false]
      rw [d2, ih, ← fA c hP]
      congr 1
      omega
    · have h0 : k / 2 ^ (255 - n) % 2 = 1 := Nat.eq_of_beq_eq_true hb
      simp only [cond_true]
      have d3 : OnQ p b (toQ (dS p Q Q)) := by rw [d2]; exact fO c hQ hQ
      rw [Bs c hp d3 hP, d2, ih, ← fA c hP, add_comm c (nN c hP _) hP]
      show c9 p (_ + 1) (toQ P) = _
      congr 1
      omega
theorem WC {p b : Nat} (c : Cur p b) (hp : Sm p) {k : Nat} (hk : k < 2 ^ 256) {P : Pt} (hP : OnQ p b (toQ P)) : toQ (BD p k P) = c9 p k (toQ P) := by
  have h := sb c hp hk hP 256 (Nat.le_refl _)
  rw [Nat.sub_self, Nat.pow_zero, Nat.div_one] at h
  exact h
theorem anV {p b x y : Nat} (hx : x < p) (hy : y < p) (h : Nat.beq (y * y % p) ((x * x * x + b) % p) = true) : OnQ p b (some (x, y)) := by
  refine ⟨hx, hy, ?_⟩
  have h := Nat.eq_of_beq_eq_true h
  obtain ⟨k, hk⟩ := aiY (p := p) (y * y)
  obtain ⟨m, hm⟩ := aiY (p := p) (x * x * x + b)
  rw [h] at hk
  rw [Int.natCast_mul] at hk
  rw [Int.natCast_add, Int.natCast_mul, Int.natCast_mul] at hm
  show (p : Int) ∣ (y : Int) * y - x * x * x - b
  generalize (((x * x * x + b) % p : Nat) : Int) = r at *
  refine ⟨m - k, ?_⟩
  rw [Int.mul_sub, ← hm, ← hk]
  omega
def alD (p q : Nat) (x y : aa) : Bool := cr (upto (gZ p (ofN q) (eK (x, y, false))) ZD 256).2.2
theorem api {p b q : Nat} (c : Cur p b) (hp : Sm p) (hq : q < 115792089237316195423570985008687907853269984665640564039457584007913129639936) {x y : aa} (hG : OnQ p b (some (x.nat, y.nat))) (h : alD p q x y = true) : c9 p q (some (x.nat, y.nat)) = none := by
  have hG' : OnQ p b (toQ (x, y, false)) := hG
  obtain ⟨h1, h2, h3⟩ := AZ c hp (ofN q) hG' (fun h => by cases h) 256 (Nat.le_refl _)
  have h4 := sb c hp (k := (ofN q).nat) (gn _) hG' 256 (Nat.le_refl _)
  rw [gY hq, Nat.sub_self, Nat.pow_zero, Nat.div_one] at h4
  rw [gY hq] at h1
  have h4 : toQ (upto (cq p q (x, y, false)) aC 256) = c9 p q (some (x.nat, y.nat)) := h4
  rw [h4] at h1
  unfold alD at h
  cases hm : c9 p q (some (x.nat, y.nat)) with
  | none => rfl
  | some S =>
    rw [hm] at h1
    rw [pY h1.2.1] at h
    cases h
end Go.Proofs.Ytkedomfjjahjnaa

namespace Go.Proofs.Ytkedomfjjahjnaa
open Sx Go
theorem IP {p b q : Nat} (c : Cur p b) (hp : Sm p) (hodd : Nat.beq (p % 2) 1 = true) (hq : Pr q) (hq2 : Nat.beq (q % 2) 1 = true) (hqb : Nat.blt q 115792089237316195423570985008687907853269984665640564039457584007913129639936 = true) (h3 : Nat.blt (2 * p + 1) (3 * q) = true)
    {x y : aa} (hx : Nat.blt x.nat p = true) (hy : Nat.blt y.nat p = true) (he : Nat.beq (y.nat * y.nat % p) ((x.nat * x.nat * x.nat + b) % p) = true) (h : alD p q x y = true) {P : PtQ} (hP : OnQ p b P) : c9 p q P = none := by
  have hG := anV (cL hx) (cL hy) he
  exact afr c (Nat.eq_of_beq_eq_true hodd) hq (Nat.eq_of_beq_eq_true hq2) (cL h3) hG (fun e => by cases e) (api c hp (cL hqb) hG h) hP
theorem an6 : pS 0 = 16513537 := by decide +kernel
theorem an5 : pS 1 = 16521217 := by decide +kernel
theorem an4 : pS 2 = 28948022309329048855892746252171976963363056481941560715954676764349967630337 := by decide +kernel
theorem an3 : pS 3 = 28948022309329048855892746252171976963363056481941647379679742748393362948097 := by decide +kernel
theorem ap6 : (bS 0).nat = 23 := by decide +kernel
theorem ap5 : (bS 1).nat = 21 := by decide +kernel
theorem ap4 : (bS 2).nat = 5 := by decide +kernel
theorem ap3 : (bS 3).nat = 5 := by decide +kernel
theorem apm : alD 16513537 16521217 ⟨1, 0, 0, 0⟩ ⟨2487377, 0, 0, 0⟩ = true := by decide +kernel
theorem apl : alD 16521217 16513537 ⟨1, 0, 0, 0⟩ ⟨7286451, 0, 0, 0⟩ = true := by decide +kernel
theorem apk : alD 28948022309329048855892746252171976963363056481941560715954676764349967630337 28948022309329048855892746252171976963363056481941647379679742748393362948097
    (ofN 28948022309329048855892746252171976963363056481941560715954676764349967630336) ⟨2, 0, 0, 0⟩ = true := by decide +kernel
theorem apj : alD 28948022309329048855892746252171976963363056481941647379679742748393362948097 28948022309329048855892746252171976963363056481941560715954676764349967630337
    (ofN 28948022309329048855892746252171976963363056481941647379679742748393362948096) ⟨2, 0, 0, 0⟩ = true := by decide +kernel
theorem anU {s : Int} (hs : aj s = true) {P : PtQ} (hP : OnQ (pS s) (bS s).nat P) : c9 (pS s) (pS (tL s 1)) P = none := by
  have c := bz hs
  have hp : Sm (pS s) := fN hs
  rcases cu hs with rfl | rfl | rfl | rfl
  · rw [show tL 0 1 = 1 by decide +kernel]
    rw [an6, an5, ap6] at *
    exact IP c hp (by decide +kernel) ss (by decide +kernel) (by decide +kernel) (by decide +kernel) (by decide +kernel) (by decide +kernel) (by decide +kernel) apm hP
  · rw [show tL 1 1 = 0 by decide +kernel]
    rw [an6, an5, ap5] at *
    exact IP c hp (by decide +kernel) su (by decide +kernel) (by decide +kernel) (by decide +kernel) (by decide +kernel) (by decide +kernel) (by decide +kernel) apl hP
  · rw [show tL 2 1 = 3 by decide +kernel]
    rw [an4, an3, ap4] at *
    exact IP c hp (by decide +kernel) aF (by decide +kernel) (by decide +kernel) (by decide +kernel) (by decide +kernel) (by decide +kernel) (by decide +kernel) apk hP
  · rw [show tL 3 1 = 2 by decide +kernel]
    rw [an4, an3, ap3] at *
    exact IP c hp (by decide +kernel) aG (by decide +kernel) (by decide +kernel) (by decide +kernel) (by decide +kernel) (by decide +kernel) (by decide +kernel) apj hP
end Go.Proofs.Ytkedomfjjahjnaa

namespace Go.Proofs.Ytkedomfjjahjnaa
open Sx Go
theorem acF {s : Int} {P : Pt} (hs : aj s = true) (h : OnQ (pS s) (bS s).nat (toQ P)) (hc : Can P) : onB s P = true := by
  have hp : Sm (pS s) := fN hs
  obtain ⟨X, Y, i⟩ := P
  cases i
  · obtain ⟨hx, hy, hv⟩ := h
    have hx : X.nat < pS s := hx
    have hy : Y.nat < pS s := hy
    have hv : ((pS s : Nat) : Int) ∣ (Y.nat : Int) * Y.nat - X.nat * X.nat * X.nat - (bS s).nat := hv
    unfold onB
    rw [hs]
    have e1 : Nat.blt X.nat (pS s) = true := Nat.ble_eq_true_of_le hx
    have e2 : Nat.blt Y.nat (pS s) = true := Nat.ble_eq_true_of_le hy
    simp only [cond_true, cond_false, e1, e2]
    refine li.2 (jV (fD (Cm hp _ _) (afu hp _ _) ?_))
    have c1 := bY hp Y Y
    have c2 := bY hp X X
    have c3 := bY hp (aQ (pS s) X X) X
    have c4 := Wd hp (aQ (pS s) (aQ (pS s) X X) X) (bS s)
    unfold AD
    exact apz c1 c4 c3 c2 hv
  · rw [hc rfl]
    unfold onB
    rw [hs]
    rfl
theorem ajh {s : Int} {P : Pt} (h : onB s P = true) : Can P := (du h).2.2
theorem amN : Can aC := fun _ => rfl
theorem nA {s : Int} {P R : Pt} (hP : onB s P = true) (hR : onB s R = true) : toQ (eD s P R) = cQ (pS s) (toQ P) (toQ R) ∧ onB s (eD s P R) = true := by
  obtain ⟨hs, h1, h2⟩ := du hP
  obtain ⟨_, h3, h4⟩ := du hR
  have c := bz hs
  have hp : Sm (pS s) := fN hs
  have e : eD s P R = eT (pS s) (OD (pS s) (eK P) (eK R)) := by unfold eD; rw [hP, hR]; rfl
  obtain ⟨n1, n2⟩ := xC c hp (fO c h1 h3) (Ss c hp h1 h3 (oa c) (oa c))
  rw [e]
  exact ⟨n1, acF hs (by rw [n1]; exact fO c h1 h3) n2⟩
theorem u5 {s : Int} (hs : aj s = true) : onB s aC = true := acF hs trivial amN
theorem UG {s : Int} (k : aa) {P : Pt} (hP : onB s P = true) : toQ (sE s k P) = c9 (pS s) k.nat (toQ P) ∧ onB s (sE s k P) = true := by
  obtain ⟨hs, h1, h2⟩ := du hP
  have c := bz hs
  have hp : Sm (pS s) := fN hs
  have hk : (ofP (pS (tL s 1)) k).nat = k.nat % pS (tL s 1) := cM (fN (fJ hs))
  have e : sE s k P = BD (pS s) (ofP (pS (tL s 1)) k).nat P := by rw [UF]; unfold oM; rw [hP]; rfl
  have ht : toQ (sE s k P) = c9 (pS s) k.nat (toQ P) := by
    rw [e, WC c hp (gn _) h1, hk, mul_mod c h1 (anU hs h1)]
  refine ⟨ht, acF hs (by rw [ht]; exact nN c h1 _) ?_⟩
  rw [e]
  exact (AZ c hp (ofP (pS (tL s 1)) k) h1 h2 256 (Nat.le_refl _)).2.2
end Go.Proofs.Ytkedomfjjahjnaa

namespace Go.Proofs.Ytkedomfjjahjnaa
open Sx Go
def Gp {p b : Nat} (_ : Cur p b) : Type := { P : PtQ // OnQ p b P }
section
variable {p b : Nat} {c : Cur p b}
instance : Add (Gp c) := ⟨fun x y => ⟨cQ p x.1 y.1, fO c x.2 y.2⟩⟩
instance : Zero (Gp c) := ⟨⟨none, trivial⟩⟩
instance : Neg (Gp c) := ⟨fun x => ⟨IY p x.1, zr c x.2⟩⟩
instance : Std.Associative (α := Gp c) (· + ·) := ⟨fun x y z => Subtype.ext (add_assoc c x.2 y.2 z.2)⟩
instance : Std.Commutative (α := Gp c) (· + ·) := ⟨fun x y => Subtype.ext (add_comm c x.2 y.2)⟩
theorem aom (x y : Gp c) : x + y = y + x := Subtype.ext (add_comm c x.2 y.2)
theorem al2 (x y z : Gp c) : x + y + z = x + (y + z) := Subtype.ext (add_assoc c x.2 y.2 z.2)
theorem Dc (x : Gp c) : x + 0 = x := Subtype.ext (bW x.1)
theorem ani (x : Gp c) : 0 + x = x := Subtype.ext rfl
def sm (n : Nat) (x : Gp c) : Gp c := ⟨c9 p n x.1, nN c x.2 n⟩
theorem abd (x : Gp c) : sm 0 x = 0 := rfl
theorem aiL (x : Gp c) : sm 1 x = x := Subtype.ext (mul_one x.1)
theorem akY (n : Nat) (x : Gp c) : sm (n + 1) x = x + sm n x := rfl
theorem abe (m n : Nat) (x : Gp c) : sm (m + n) x = sm m x + sm n x := Subtype.ext (fA c x.2 n m)
theorem agp (m n : Nat) (x : Gp c) : sm (m * n) x = sm m (sm n x) := Subtype.ext (jW c x.2 n m)
theorem anG (n : Nat) (x y : Gp c) : sm n (x + y) = sm n x + sm n y := Subtype.ext (mul_add c x.2 y.2 n)
theorem akZ (n : Nat) : sm n (0 : Gp c) = 0 := Subtype.ext (qD n)
def Av : List (Nat × Gp c) → Gp c
  | [] => 0
  | t :: r => sm t.1 t.2 + Av r
theorem Bt (l r : List (Nat × Gp c)) : Av (l ++ r) = Av l + Av r := by
  induction l with
  | nil => exact (ani _).symm
  | cons t l ih =>
    show sm t.1 t.2 + Av (l ++ r) = sm t.1 t.2 + Av l + Av r
    rw [ih, al2]
open Classical in
noncomputable def gp (c : Cur p b) (P : Pt) : Gp c := if h : OnQ p b (toQ P) then ⟨toQ P, h⟩ else 0
theorem Nb (P : Pt) (h : OnQ p b (toQ P)) : gp c P = ⟨toQ P, h⟩ := dif_pos h
end
section
variable {s : Int} (hs : aj s = true)
theorem aoj {P R : Pt} (hP : onB s P = true) (hR : onB s R = true) (h : gp (bz hs) P = gp (bz hs) R) : P = R := by
  rw [Nb P (du hP).2.1, Nb R (du hR).2.1] at h
  exact J6 (ajh hP) (ajh hR) (congrArg Subtype.val h)
theorem Nc : gp (bz hs) aC = 0 := Nb aC trivial
theorem G2 {P R : Pt} (hP : onB s P = true) (hR : onB s R = true) : gp (bz hs) (eD s P R) = gp (bz hs) P + gp (bz hs) R := by
  obtain ⟨e, o⟩ := nA hP hR
  rw [Nb P (du hP).2.1, Nb R (du hR).2.1, Nb _ (du o).2.1]
  exact Subtype.ext e
theorem aoi (k : aa) {P : Pt} (hP : onB s P = true) : gp (bz hs) (sE s k P) = sm k.nat (gp (bz hs) P) := by
  obtain ⟨e, o⟩ := UG k hP
  rw [Nb P (du hP).2.1, Nb _ (du o).2.1]
  exact Subtype.ext e
end
end Go.Proofs.Ytkedomfjjahjnaa

namespace Go.Proofs.Ytkedomfjjahjnaa
open Sx Go
set_option maxRecDepth 100000
abbrev gR : Ty := .prod .elem (.prod .elem (.prod .elem .bool))
def gD : aq := ⟨[.val false (.list gR)], [], true, 0, false⟩
abbrev QY : Type := ((List gR.T) × Unit) × (Unit)
def oX : ay := ⟨[.own 0], [(0, .row gR)], false⟩
def GV : SV → Option ay := fun _ => some oX
def Jl (a0 : List gR.T) : OT gD.Y :=
  (gd [decide (((0 : Nat) + List.length a0) * (104 : Nat) ≤ (140737488355328 : Nat))] (.ok ⟨oX, (((), ()), ([] ++ a0, ()))⟩))
def adm : OT gD.Y := .ok ⟨oX, (((), ()), ([], ()))⟩
theorem ahE (x : QY) (Q : gD.Y → Prop) : wpf te vD ax 1000 Try.f65 (gD.inp.inj x).tm (gD.inp.inj x).hp (fnK gD GV Q) (fun _ _ => False) =
    Bool.rec (motive := fun _ => Prop) ((Jl x.1.1).wpR Q) (adm.wpR Q ∧ (Jl x.1.1).wpR Q) (List.isEmpty x.1.1) := by kernel_rfl
def xR (x : QY) : Bool := decide (x.1.1.length * 104 ≤ 140737488355328)
def U0 (x : QY) : OT gD.Y := .ok ⟨oX, (((), ()), (x.1.1, ()))⟩
theorem adl : ab Try.prog 65 (gD.aK xR U0) := by
  refine amg av tc OI (f := 65) (fn := Try.f65) (c := ak Try.f65) (by kernel_rfl) (by kernel_rfl) (by kernel_rfl) (S := gD) (k := 0) (by kernel_rfl) (Λ := ax) (fun R hR => ae) (n := 1000) fun x oy hp hr => ⟨fnK gD GV (fun z => z = oy), fun _ _ => False, ?_, fun v hp hq => ?_, fun _ _ hq => hq.elim⟩
  · refine (ahE x _).mpr ?_
    cases hr
    have hp' : x.1.1.length * 104 ≤ 140737488355328 := of_decide_eq_true hp
    have h1 : (Jl x.1.1).wpR (fun z => z = ⟨oX, (((), ()), (x.1.1, ()))⟩) := by
      rw [OT.S4]
      refine OT.tQ (ai ?_) rfl
      simp only [List.all_cons, List.all_nil, Bool.and_true]
      exact decide_eq_true (by omega)
    cases hb : List.isEmpty x.1.1
    · exact h1
    · refine ⟨?_, h1⟩
      rw [List.isEmpty_iff.1 hb]
      rfl
  · unfold fnK at hq
    split at hq
    · rename_i o ho
      split at hq
      · rename_i y hy
        subst hq
        exact ⟨by cases ho; rfl, hy⟩
      · exact hq.elim
    · exact hq.elim
def sP : cI := (gD.aK xR U0)
theorem MS : ab Try.prog 65 sP := adl
theorem MR : aJ sP := aA
def v7 : Env := az 65 sP vD
theorem tz : aV Try.prog v7 := ag MS tc
theorem v5 : aw v7 := ac MR vC
theorem OS : bg Try.prog te v7 := aN follows av tz v5
def nU : aq := ⟨[.val false .int], [], true, 0, false⟩
def Jf : ay := ⟨[.wz, .val false .int], [], false⟩
def QT : ay := ⟨[.ptr 0 0 0, .val false .int], [(0, .cells [.val false .int, .own 1]), (1, .row gR)], false⟩
abbrev XE : Type := ((Int) × Unit) × (Unit)
def MF : List ay := [Jf, QT]
def UT (a0 : Int) : OT nU.Y :=
  (.br (decide (a0 < (0 : Int)))
  (.ok ⟨Jf, (((), ((40 : Int), ())), ())⟩)
  (.br (decide ((3 : Int) < a0))
    (.ok ⟨Jf, (((), ((40 : Int), ())), ())⟩)
    (.ok ⟨QT, (((), ((0 : Int), ())), ((a0, ((), ())), ([], ())))⟩)))
theorem an7 (x : XE) (Q : nU.Y → Prop) : wpf te v7 ax 1000 Try.f28 (nU.inp.inj x).tm (nU.inp.inj x).hp (am9 nU MF Q) (fun _ _ => False) = (UT (x.1.1)).wpR Q := by kernel_rfl
theorem ac9 (pre : XE → Bool) (F : XE → OT nU.Y) (hF : ∀ (x : XE) oy, pre x = true → (F x).run = some oy → (UT (x.1.1)).run = some oy) : ab Try.prog 28 (nU.aK pre F) :=
  ahW av tz OS (f := 28) (fn := Try.f28) (c := ak Try.f28) (by kernel_rfl) (by kernel_rfl) (by kernel_rfl) (S := nU) (k := 0) (by kernel_rfl) (fun R hR => ae) (n := 1000) (outs := MF) (by kernel_rfl) (pre := pre) (F := F) (T := fun x => UT (x.1.1)) (fun x Q => an7 x Q) hF
def US (_ : XE) : Bool := true
def aiX (x : XE) : OT nU.Y := .br (aj x.1.1) (.ok ⟨QT, (((), ((0 : Int), ())), ((x.1.1, ((), ())), ([], ())))⟩) (.ok ⟨Jf, (((), ((40 : Int), ())), ())⟩)
theorem alW : ab Try.prog 28 (nU.aK US aiX) := ac9 _ _ fun x oy _ ho => by
  rw [← ho]
  clear ho
  obtain ⟨⟨s, ⟨⟩⟩, ⟨⟩⟩ := x
  show (UT s).run = (OT.br (aj s) _ _ : OT nU.Y).run
  by_cases h0 : s < 0
  · refine (OT.ao (decide_eq_true h0)).trans (OT.ap (b := aj s) ?_).symm
    simp only [aj, decide_eq_false (show ¬ (0 : Int) ≤ s by omega), Bool.false_and]
  · refine (OT.ap (decide_eq_false h0)).trans ?_
    by_cases h3 : 3 < s
    · refine (OT.ao (decide_eq_true h3)).trans (OT.ap (b := aj s) ?_).symm
      simp only [aj, decide_eq_false (show ¬ s < 4 by omega), Bool.and_false]
    · refine (OT.ap (decide_eq_false h3)).trans (OT.ao (b := aj s) ?_).symm
      simp only [aj, decide_eq_true (show (0 : Int) ≤ s by omega), decide_eq_true (show s < 4 by omega), Bool.and_self]
def CA : cI := (nU.aK US aiX)
theorem XD : ab Try.prog 28 CA := alW
theorem XC : aJ CA := aA
def OQ : Env := az 28 CA v7
theorem EJ : aV Try.prog OQ := ag XD tz
theorem EK : aw OQ := ac XC v5
theorem Zh : bg Try.prog te OQ := aN follows av EJ EK
def alZ (w : Sh) : CSh := .cells [.val false .int, w]
def nV : aq := ⟨[.ptr 0 0 0, .val true .elem, .val true (.prod .elem (.prod .elem .bool))], [(0, alZ (.own 1)), (1, .row gR)], false, 1, true⟩
abbrev XP : Type := ((Unit) × (aa) × ((aa × (aa × Bool))) × Unit) × (((Int) × (Unit) × Unit) × (List ((aa × (aa × (aa × Bool))))) × Unit)
def o0 : ay := ⟨[.val false .int], [(0, .cells [.val false .int, .own 1]), (1, .row (.prod .elem (.prod .elem (.prod .elem .bool))))], false⟩
def U2 : SV → Option ay := fun _ => some o0
def U4 (a1 : aa) (a2 : (aa × (aa × Bool))) (c0_0 : Int) (c1 : List ((aa × (aa × (aa × Bool))))) : OT nV.Y :=
  let z0 : Int := tL c0_0 (1 : Int)
  let z1 : aa := { w0 := 0, w1 := 0, w2 := 0, w3 := 0 }
  (.br (!onB c0_0 a2)
  (.ok ⟨o0, (((41 : Int), ()), ((c0_0, ((), ())), (c1, ())))⟩)
  (.br (decide ((100000 : Int) ≤ (↑(List.length c1) : Int)))
    (.ok ⟨o0, (((50 : Int), ()), ((c0_0, ((), ())), (c1, ())))⟩)
    (.br (aj z0)
      (gd [decide ((List.length c1 + 1) * 104 ≤ 140737488355328)] (.ok ⟨o0, (((0 : Int), ()), ((c0_0, ((), ())), (c1 ++ [(n0 (pS z0) a1 z1, a2)], ())))⟩))
      (gd [decide ((List.length c1 + 1) * 104 ≤ 140737488355328)] (.ok ⟨o0, (((0 : Int), ()), ((c0_0, ((), ())), (c1 ++ [(z1, a2)], ())))⟩)))))
theorem an8 (x : XP) (Q : nV.Y → Prop) : wpf te OQ ax 1000 Try.f29 (nV.inp.inj x).tm (nV.inp.inj x).hp (fnK nV U2 Q) (fun _ _ => False) = (U4 (x.1.2.1) (x.1.2.2.1) (x.2.1.1) (x.2.2.1)).wpR Q := by kernel_rfl
theorem adn (pre : XP → Bool) (F : XP → OT nV.Y) (hF : ∀ (x : XP) oy, pre x = true → (F x).run = some oy → (U4 (x.1.2.1) (x.1.2.2.1) (x.2.1.1) (x.2.2.1)).run = some oy) : ab Try.prog 29 (nV.aK pre F) :=
  aD av EJ Zh (f := 29) (fn := Try.f29) (c := ak Try.f29) (by kernel_rfl) (by kernel_rfl) (by kernel_rfl) (S := nV) (k := 2) (by kernel_rfl) (fun R hR => ae) (n := 1000) (sel := U2) (fun v o h => by cases h; rfl) (pre := pre) (F := F) (T := fun x => U4 (x.1.2.1) (x.1.2.2.1) (x.2.1.1) (x.2.2.1)) (fun x Q => an8 x Q) hF
abbrev Tm : Type := gR.T
def dV : Tm := (⟨0, 0, 0, 0⟩, ⟨0, 0, 0, 0⟩, ⟨0, 0, 0, 0⟩, false)
def Ay (l : List Tm) : Bool := decide (l.length < 100000)
def U3 (_ : XP) : Bool := true
def aiZ (x : XP) : OT nV.Y := .br (onB x.2.1.1 x.1.2.2.1) (.br (Ay x.2.2.1) (.ok ⟨o0, (((0 : Int), ()), ((x.2.1.1, ((), ())), (x.2.2.1 ++ [(wJ x.2.1.1 x.1.2.1, x.1.2.2.1)], ())))⟩)
  (.ok ⟨o0, (((50 : Int), ()), ((x.2.1.1, ((), ())), (x.2.2.1, ())))⟩)) (.ok ⟨o0, (((41 : Int), ()), ((x.2.1.1, ((), ())), (x.2.2.1, ())))⟩)
theorem alY : ab Try.prog 29 (nV.aK U3 aiZ) := adn _ _ fun x oy _ ho => by
  rw [← ho]
  clear ho
  obtain ⟨⟨⟨⟩, k, P, ⟨⟩⟩, ⟨⟨c, ⟨⟩, ⟨⟩⟩, l, ⟨⟩⟩⟩ := x
  show (U4 k P c l).run = (OT.br (onB c P) (.br (Ay l) _ _) _ : OT nV.Y).run
  rcases (Bool.eq_false_or_eq_true (onB c P)).symm with h | h
  · exact (OT.ao (b := !onB c P) (by rw [h]; rfl)).trans (OT.ap (b := onB c P) h).symm
  · refine (OT.ap (b := !onB c P) (by rw [h]; rfl)).trans (Eq.trans ?_ (OT.ao (b := onB c P) h).symm)
    rcases (Bool.eq_false_or_eq_true (Ay l)).symm with h2 | h2
    · have h3 := of_decide_eq_false h2
      exact (OT.ao (decide_eq_true (by omega))).trans (OT.ap (b := Ay l) h2).symm
    · have h3 := of_decide_eq_true h2
      refine (OT.ap (decide_eq_false (by omega))).trans (Eq.trans ?_ (OT.ao (b := Ay l) h2).symm)
      refine (OT.ao (fJ (mZ h))).trans ((ai ?_).trans rfl)
      simp only [List.all_cons, List.all_nil, Bool.and_true]
      exact decide_eq_true (by omega)
def CU : cI := (nV.aK U3 aiZ)
theorem XO : ab Try.prog 29 CU := alY
theorem XN : aJ CU := aA
def OU : Env := az 29 CU OQ
theorem EL : aV Try.prog OU := ag XO EJ
theorem EM : aw OU := ac XN EK
theorem Zi : bg Try.prog te OU := aN follows av EL EM
def gr : aq := ⟨[.ptr 0 0 0], [(0, alZ (.own 1)), (1, .row gR)], false, 2, true⟩
abbrev xF : Type := ((Unit) × Unit) × (((Int) × (Unit) × Unit) × (List ((aa × (aa × (aa × Bool))))) × Unit)
def Cq : ay := ⟨[.own 2], [(0, .cells [.val false .int, .own 1]), (1, .row (.prod .elem (.prod .elem (.prod .elem .bool)))), (2, .row (.prod .elem (.prod .elem (.prod .elem .bool))))], false⟩
def GB : SV → Option ay := fun _ => some Cq
def I4 (c0_0 : Int) (c1 : List ((aa × (aa × (aa × Bool))))) : OT gr.Y :=
  (gd [xR ((c1, ()), ())] (.ok ⟨Cq, (((), ()), ((c0_0, ((), ())), (c1, (c1, ()))))⟩))
theorem ahm (x : xF) (Q : gr.Y → Prop) : wpf te OU ax 1000 Try.f30 (gr.inp.inj x).tm (gr.inp.inj x).hp (fnK gr GB Q) (fun _ _ => False) = (I4 (x.2.1.1) (x.2.2.1)).wpR Q := by kernel_rfl
theorem QM (pre : xF → Bool) (F : xF → OT gr.Y) (hF : ∀ (x : xF) oy, pre x = true → (F x).run = some oy → (I4 (x.2.1.1) (x.2.2.1)).run = some oy) : ab Try.prog 30 (gr.aK pre F) :=
  aD av EL Zi (f := 30) (fn := Try.f30) (c := ak Try.f30) (by kernel_rfl) (by kernel_rfl) (by kernel_rfl) (S := gr) (k := 2) (by kernel_rfl) (fun R hR => ae) (n := 1000) (sel := GB) (fun v o h => by cases h; rfl) (pre := pre) (F := F) (T := fun x => I4 (x.2.1.1) (x.2.2.1)) (fun x Q => ahm x Q) hF
def ek (x : xF) : Bool := decide (x.2.2.1.length * 104 ≤ 140737488355328)
def UK (x : xF) : OT gr.Y := .ok ⟨Cq, (((), ()), ((x.2.1.1, ((), ())), (x.2.2.1, (x.2.2.1, ()))))⟩
theorem acU : ab Try.prog 30 (gr.aK ek UK) := QM _ _ fun x oy hp ho => by
  rw [← ho]
  clear ho
  refine (ai ?_).trans rfl
  simp only [List.all_cons, List.all_nil, Bool.and_true]
  exact hp
def sG : cI := (gr.aK ek UK)
theorem Mt : ab Try.prog 30 sG := acU
theorem Ms : aJ sG := aA
def rv : Env := az 30 sG OU
theorem nF : aV Try.prog rv := ag Mt EL
theorem vQ : aw rv := ac Ms EM
theorem Ac : bg Try.prog te rv := aN follows av nF vQ
def eU : aq := ⟨[.val false .int, .val false (.list gR)], [], true, 0, false⟩
abbrev qI : Type := ((Int) × (List ((aa × (aa × (aa × Bool))))) × Unit) × (Unit)
def lR : Shape := ⟨26, [(0, .val false .int), (4, .ptr 0 0 0), (5, .ptr 1 0 0), (9, .val false (.list (.prod .elem (.prod .elem (.prod .elem .bool))))), (10, .val false .int), (11, .val false .int)], [(0, .cells [.val false .u64, .val false .u64, .val false .u64, .val false .u64, .val false .u64, .val false .u64, .val false .u64, .val false .u64, .val false .bool]), (1, .cells [.val false .u64, .val false .u64, .val false .u64, .val false .u64, .val false .u64, .val false .u64, .val false .u64, .val false .u64, .val false .bool])], 0, true⟩
abbrev bL : Type := ((Int) × (Unit) × (Unit) × (List ((aa × (aa × (aa × Bool))))) × (Int) × (Int) × Unit) × (((UInt64) × (UInt64) × (UInt64) × (UInt64) × (UInt64) × (UInt64) × (UInt64) × (UInt64) × (Bool) × Unit) × ((UInt64) × (UInt64) × (UInt64) × (UInt64) × (UInt64) × (UInt64) × (UInt64) × (UInt64) × (Bool) × Unit) × Unit)
def kM : Shape := ⟨26, [(4, .ptr 0 0 0), (5, .ptr 1 0 0)], [(0, .cells [.val false .u64, .val false .u64, .val false .u64, .val false .u64, .val false .u64, .val false .u64, .val false .u64, .val false .u64, .val false .bool]), (1, .cells [.val false .u64, .val false .u64, .val false .u64, .val false .u64, .val false .u64, .val false .u64, .val false .u64, .val false .u64, .val false .bool])], 0, true⟩
abbrev gu : Type := ((Unit) × (Unit) × Unit) × (((UInt64) × (UInt64) × (UInt64) × (UInt64) × (UInt64) × (UInt64) × (UInt64) × (UInt64) × (Bool) × Unit) × ((UInt64) × (UInt64) × (UInt64) × (UInt64) × (UInt64) × (UInt64) × (UInt64) × (UInt64) × (Bool) × Unit) × Unit)
def GD : SE → Option Shape := ku [(0, kM)] none
def XA (a0 : Int) (a9 : List ((aa × (aa × (aa × Bool))))) (a10 : Int) (a11 : Int) (c0_0 : UInt64) (c0_1 : UInt64) (c0_2 : UInt64) (c0_3 : UInt64) (c0_4 : UInt64) (c0_5 : UInt64) (c0_6 : UInt64) (c0_7 : UInt64) (c0_8 : Bool) (c1_0 : UInt64) (c1_1 : UInt64) (c1_2 : UInt64) (c1_3 : UInt64) (c1_4 : UInt64) (c1_5 : UInt64) (c1_6 : UInt64) (c1_7 : UInt64) (c1_8 : Bool) : OT (Sum bL aO) :=
  let z0 : aa := { w0 := 0, w1 := 0, w2 := 0, w3 := 0 }
  let z1 : aa × aa × aa × Bool := List.getD a9 (Int.toNat a11) (z0, z0, z0, false)
  let z2 : aa × aa × Bool := eD a0 ({ w0 := c1_0, w1 := c1_1, w2 := c1_2, w3 := c1_3 }, { w0 := c1_4, w1 := c1_5, w2 := c1_6, w3 := c1_7 }, c1_8) (sE a0 z1.fst z1.snd)
  let z3 := z2.fst
  let z4 := z2.snd
  let z5 := z4.fst
  (.br (decide (a11 < a10))
  (gd [inB a11 (List.length a9), inR (a11 + (1 : Int))] (.ok (.inl ((a0, ((), ((), (a9, (a10, (a11 + (1 : Int), ())))))), ((c0_0, (c0_1, (c0_2, (c0_3, (c0_4, (c0_5, (c0_6, (c0_7, (c0_8, ()))))))))), ((z3.w0, (z3.w1, (z3.w2, (z3.w3, (z5.w0, (z5.w1, (z5.w2, (z5.w3, (z4.snd, ()))))))))), ()))))))
  (.ok (.inr ⟨(.exit 0, kM), (((), ((), ())), ((c0_0, (c0_1, (c0_2, (c0_3, (c0_4, (c0_5, (c0_6, (c0_7, (c0_8, ()))))))))), ((c1_0, (c1_1, (c1_2, (c1_3, (c1_4, (c1_5, (c1_6, (c1_7, (c1_8, ()))))))))), ())))⟩)))
def lS (s : bL) : OT (Sum bL aO) := XA (s.1.1) (s.1.2.2.2.1) (s.1.2.2.2.2.1) (s.1.2.2.2.2.2.1) (s.2.1.1) (s.2.1.2.1) (s.2.1.2.2.1) (s.2.1.2.2.2.1) (s.2.1.2.2.2.2.1) (s.2.1.2.2.2.2.2.1) (s.2.1.2.2.2.2.2.2.1) (s.2.1.2.2.2.2.2.2.2.1) (s.2.1.2.2.2.2.2.2.2.2.1) (s.2.2.1.1) (s.2.2.1.2.1) (s.2.2.1.2.2.1) (s.2.2.1.2.2.2.1) (s.2.2.1.2.2.2.2.1) (s.2.2.1.2.2.2.2.2.1) (s.2.2.1.2.2.2.2.2.2.1) (s.2.2.1.2.2.2.2.2.2.2.1) (s.2.2.1.2.2.2.2.2.2.2.2.1)
theorem Xx (s : bL) (Q : Sum bL aO → Prop) : wps te rv ax 1000 (bG (ak Try.f94) 0) (lR.inj s) (cU lR GD (Q : Sum lR.T aO → Prop)) = (lS s).wpR Q := by kernel_rfl
def qH (g0_0 : bL → gu) (s : bL) : OT aO := (.ok ⟨(.exit 0, kM), g0_0 s⟩)
def xJ : ay := ⟨[.val true (.prod .elem (.prod .elem .bool))], [], false⟩
def Cu : SV → Option ay := fun _ => some xJ
def Cx (ok0 : bL → Bool) (g0_0 : bL → gu) (a0 : Int) (a1 : List ((aa × (aa × (aa × Bool))))) : OT eU.Y :=
  let z0 : (Int × PUnit × PUnit × List (aa × aa × aa × Bool) × Int × Int × PUnit) × (UInt64 × UInt64 × UInt64 × UInt64 × UInt64 × UInt64 × UInt64 × UInt64 × Bool × PUnit) × (UInt64 × UInt64 × UInt64 × UInt64 × UInt64 × UInt64 × UInt64 × UInt64 × Bool × PUnit) × PUnit := ((a0, (), (), a1, (↑(List.length a1) : Int), (0 : Int), ()), ((0 : UInt64), (0 : UInt64), (0 : UInt64), (0 : UInt64), (0 : UInt64), (0 : UInt64), (0 : UInt64), (0 : UInt64), false, ()), ((0 : UInt64), (0 : UInt64), (0 : UInt64), (0 : UInt64), (0 : UInt64), (0 : UInt64), (0 : UInt64), (0 : UInt64), true, ()), ())
  let z1 := (g0_0 z0).snd.snd.fst
  let z2 := z1.snd
  let z3 := z2.snd
  let z4 := z3.snd
  let z5 := z4.snd
  let z6 := z5.snd
  let z7 := z6.snd
  let z8 := z7.snd
  (gd [ok0 z0] (.ok ⟨xJ, ((({ w0 := z1.fst, w1 := z2.fst, w2 := z3.fst, w3 := z4.fst }, { w0 := z5.fst, w1 := z6.fst, w2 := z7.fst, w3 := z8.fst }, z8.snd.fst), ()), ())⟩))
theorem acY (ok0 : bL → Bool) (g0_0 : bL → gu) (x : qI) (Q : eU.Y → Prop) : wpf te rv (bp 0 (dv lR 0 ok0 (qH g0_0)) ax) 1000 Try.f94 (eU.inp.inj x).tm (eU.inp.inj x).hp (fnK eU Cu Q) (fun _ _ => False) = (Cx ok0 g0_0 (x.1.1) (x.1.2.1)).wpR Q := by kernel_rfl
theorem Mv (ok0 : bL → Bool) (g0_0 : bL → gu) (h0 : ∀ s : bL, ok0 s = true → ∃ m e, au (lS) m s = some e ∧ (qH g0_0 s).run = some e) (pre : qI → Bool) (F : qI → OT eU.Y) (hF : ∀ (x : qI) oy, pre x = true → (F x).run = some oy → (Cx ok0 g0_0 (x.1.1) (x.1.2.1)).run = some oy) : ab Try.prog 94 (eU.aK pre F) :=
  aD av nF Ac (f := 94) (fn := Try.f94) (c := ak Try.f94) (by kernel_rfl) (by kernel_rfl) (by kernel_rfl) (S := eU) (k := 0) (by kernel_rfl) (fun R hR => (aI (c := (ak Try.f94)) (by kernel_rfl) (id := 0) (by kernel_rfl) (bw av nF Ac (sh := lR) hR (xs := GD) (aH (by kernel_rfl) (by kernel_rfl) hR) aW ae (n := 1000) (T := lS) (fun s Q => Xx s Q) (ok := ok0) (f := qH g0_0) h0) ae)) (n := 1000) (sel := Cu) (fun v o h => by cases h; rfl) (pre := pre) (F := F) (T := fun x => Cx ok0 g0_0 (x.1.1) (x.1.2.1)) (fun x Q => acY ok0 g0_0 x Q) hF
def dj (c : Int) (l : List Tm) (k : Nat) (O : Pt) : Pt := eD c O (sE c (l.getD k dV).1 (l.getD k dV).2)
def ja (c : Int) (l : List Tm) : Pt := upto (dj c l) aC l.length
def Cw (s : bL) : Bool := decide (s.1.2.2.2.2.1 = (s.1.2.2.2.1.length : Int) ∧ s.1.2.2.2.2.2.1 = 0 ∧ kl s.2.2.1 = aC ∧ s.1.2.2.2.1.length ≤ 140737488355328)
def GF (s : bL) : gu := (((), (), ()), (s.2.1, bf (ja s.1.1 s.1.2.2.2.1), ()))
theorem Xz : ∀ s : bL, Cw s = true → ∃ m e, au lS m s = some e ∧ (qH GF s).run = some e := by
  rintro ⟨⟨c, ⟨⟩, ⟨⟩, l, n, i, ⟨⟩⟩, ⟨c0, c1, ⟨⟩⟩⟩ h
  have h' := of_decide_eq_true h
  dsimp only at h'
  obtain ⟨rfl, rfl, hO, hl⟩ := h'
  have hO2 : c1 = bf aC := by rw [← hO]; rfl
  subst hO2
  have := (bF (T := lS) (fun i O => (((c, (), (), l, (l.length : Int), (i : Int), ()), (c0, bf O, ())) : bL)) (dj c l)
    (fun O => (⟨(.exit 0, kM), (((), (), ()), (c0, bf O, ()))⟩ : aO)) l.length aC (fun _ _ => True) trivial (fun k O hk _ => ⟨?_, trivial⟩) (fun O _ => ?_)).1
  · obtain ⟨m, hm⟩ := this
    exact ⟨m, _, hm, rfl⟩
  · refine (OT.ao (decide_eq_true (by dsimp only; omega))).trans ((ai ?_).trans ?_)
    · simp only [List.all_cons, List.all_nil, Bool.and_true, Bool.and_eq_true]
      exact ⟨bJ (by omega), bC (by omega)⟩
    · simp only [OT.jz, Int.toNat_natCast]
      rfl
  · exact OT.ap (decide_eq_false (by dsimp only; omega))
def sH (x : qI) : Bool := decide (x.1.2.1.length ≤ 140737488355328)
def Mw (x : qI) : OT eU.Y := .ok ⟨xJ, ((ja x.1.1 x.1.2.1, ()), ())⟩
theorem Xy : ab Try.prog 94 (eU.aK sH Mw) := Mv Cw GF Xz _ _ fun x oy hp ho => by
  rw [← ho]
  clear ho
  obtain ⟨⟨c, l, ⟨⟩⟩, ⟨⟩⟩ := x
  have hl : l.length ≤ 140737488355328 := of_decide_eq_true hp
  refine (ai ?_).trans rfl
  simp only [List.all_cons, List.all_nil, Bool.and_true]
  exact decide_eq_true ⟨rfl, rfl, rfl, hl⟩
def oO : cI := (eU.aK sH Mw)
theorem Ja : ab Try.prog 94 oO := Xy
theorem I9 : aJ oO := aA
def pN : Env := az 94 oO rv
theorem pM : aV Try.prog pN := ag Ja nF
theorem rU : aw pN := ac I9 vQ
theorem KC : bg Try.prog te pN := aN follows av pM rU
def jX : aq := ⟨[.val true gR, .ptr 0 0 0], [(0, .cells [.val false .int])], false, 1, true⟩
abbrev GA : Type := (((aa × (aa × (aa × Bool)))) × (Unit) × Unit) × (((Int) × Unit) × Unit)
def I3 : ay := ⟨[.val false .bool], [(0, .cells [.val false .int])], false⟩
def Mq : SV → Option ay := fun _ => some I3
def QL (a0 : (aa × (aa × (aa × Bool)))) (c0_0 : Int) : OT jX.Y :=
  (.ok ⟨I3, ((nZ a0.fst c0_0, ()), ((c0_0, ()), ()))⟩)
theorem alN (x : GA) (Q : jX.Y → Prop) : wpf te pN ax 1000 Try.f112 (jX.inp.inj x).tm (jX.inp.inj x).hp (fnK jX Mq Q) (fun _ _ => False) = (QL (x.1.1) (x.2.1.1)).wpR Q := by kernel_rfl
theorem Xr (pre : GA → Bool) (F : GA → OT jX.Y) (hF : ∀ (x : GA) oy, pre x = true → (F x).run = some oy → (QL (x.1.1) (x.2.1.1)).run = some oy) : ab Try.prog 112 (jX.aK pre F) :=
  aD av pM KC (f := 112) (fn := Try.f112) (c := ak Try.f112) (by kernel_rfl) (by kernel_rfl) (by kernel_rfl) (S := jX) (k := 1) (by kernel_rfl) (fun R hR => ae) (n := 1000) (sel := Mq) (fun v o h => by cases h; rfl) (pre := pre) (F := F) (T := fun x => QL (x.1.1) (x.2.1.1)) (fun x Q => alN x Q) hF
def Mr (_ : GA) : Bool := true
def acT (x : GA) : OT jX.Y := .ok ⟨I3, ((nZ x.1.1.1 x.2.1.1, ()), ((x.2.1.1, ()), ()))⟩
theorem ahl : ab Try.prog 112 (jX.aK Mr acT) := Xr _ _ fun x oy hp ho => by
  rw [← ho]
  rfl
def xE : cI := (jX.aK Mr acT)
theorem QK : ab Try.prog 112 xE := ahl
theorem QJ : aJ xE := aA
def yW : Env := az 112 xE pN
theorem ru : aV Try.prog yW := ag QK pM
theorem Ab : aw yW := ac QJ rU
theorem EF : bg Try.prog te yW := aN follows av ru Ab
def ee : aq := ⟨[.val false (.list gR), .fn 112 [0]], [(0, .cells [.val false .int])], true, 1, true⟩
abbrev qN : Type := ((List ((aa × (aa × (aa × Bool))))) × (Unit) × Unit) × (((Int) × Unit) × Unit)
def lW : Shape := ⟨19, [(0, .val false (.list (.prod .elem (.prod .elem (.prod .elem .bool))))), (1, .fn 112 [0]), (7, .val false .int), (8, .val false .int)], [(0, .cells [.val false .int])], 1, true⟩
abbrev aS : Type := ((List ((aa × (aa × (aa × Bool))))) × (Unit) × (Int) × (Int) × Unit) × (((Int) × Unit) × Unit)
def kN : Shape := ⟨19, [(4, .val false .int)], [(0, .cells [.val false .int])], 1, true⟩
abbrev gy : Type := ((Int) × Unit) × (((Int) × Unit) × Unit)
def kO : Shape := ⟨19, [], [(0, .cells [.val false .int])], 1, true⟩
abbrev gz : Type := (Unit) × (((Int) × Unit) × Unit)
def GM : SE → Option Shape := ku [(0, kO)] (some kN)
def XK (a0 : List ((aa × (aa × (aa × Bool))))) (a7 : Int) (a8 : Int) (c0_0 : Int) : OT (Sum aS aO) :=
  let z0 : aa := { w0 := 0, w1 := 0, w2 := 0, w3 := 0 }
  (.br (decide (a8 < a7))
  (gd [inB a8 (List.length a0)] (.br (nZ (List.getD a0 (Int.toNat a8) (z0, z0, z0, false)).fst c0_0)
    (.ok (.inr ⟨(.ret, kN), ((a8, ()), ((c0_0, ()), ()))⟩))
    (gd [inR (a8 + (1 : Int))] (.ok (.inl ((a0, ((), (a7, (a8 + (1 : Int), ())))), ((c0_0, ()), ())))))))
  (.ok (.inr ⟨(.exit 0, kO), ((), ((c0_0, ()), ()))⟩)))
def lX (s : aS) : OT (Sum aS aO) := XK (s.1.1) (s.1.2.2.1) (s.1.2.2.2.1) (s.2.1.1)
theorem XH (s : aS) (Q : Sum aS aO → Prop) : wps te yW ax 1000 (bG (ak Try.f116) 0) (lW.inj s) (cU lW GM (Q : Sum lW.T aO → Prop)) = (lX s).wpR Q := by kernel_rfl
def qM (g0_r : aS → gy) (c0_r : aS → Bool) (g0_0 : aS → gz) (s : aS) : OT aO := (.br (c0_r s) (.ok ⟨(.ret, kN), g0_r s⟩) (.ok ⟨(.exit 0, kO), g0_0 s⟩))
def hZ : ay := ⟨[.val false .int], [(0, .cells [.val false .int])], false⟩
def CE : SV → Option ay := fun _ => some hZ
def CH (ok0 : aS → Bool) (g0_r : aS → gy) (c0_r : aS → Bool) (g0_0 : aS → gz) (a0 : List ((aa × (aa × (aa × Bool))))) (c0_0 : Int) : OT ee.Y :=
  let z0 : (List (aa × aa × aa × Bool) × PUnit × Int × Int × PUnit) × (Int × PUnit) × PUnit := ((a0, (), (↑(List.length a0) : Int), (0 : Int), ()), (c0_0, ()), ())
  let z1 : (Int × PUnit) × (Int × PUnit) × PUnit := g0_r z0
  (gd [ok0 z0] (.br (c0_r z0)
  (.ok ⟨hZ, ((z1.fst.fst, ()), ((z1.snd.fst.fst, ()), ()))⟩)
  (.ok ⟨hZ, (((-1 : Int), ()), (((g0_0 z0).snd.fst.fst, ()), ()))⟩)))
theorem adf (ok0 : aS → Bool) (g0_r : aS → gy) (c0_r : aS → Bool) (g0_0 : aS → gz) (x : qN) (Q : ee.Y → Prop) : wpf te yW (bp 0 (dv lW 0 ok0 (qM g0_r c0_r g0_0)) ax) 1000 Try.f116 (ee.inp.inj x).tm (ee.inp.inj x).hp (fnK ee CE Q) (fun _ _ => False) = (CH ok0 g0_r c0_r g0_0 (x.1.1) (x.2.1.1)).wpR Q := by kernel_rfl
theorem MJ (ok0 : aS → Bool) (g0_r : aS → gy) (c0_r : aS → Bool) (g0_0 : aS → gz) (h0 : ∀ s : aS, ok0 s = true → ∃ m e, au (lX) m s = some e ∧ (qM g0_r c0_r g0_0 s).run = some e) (pre : qN → Bool) (F : qN → OT ee.Y) (hF : ∀ (x : qN) oy, pre x = true → (F x).run = some oy → (CH ok0 g0_r c0_r g0_0 (x.1.1) (x.2.1.1)).run = some oy) : ab Try.prog 116 (ee.aK pre F) :=
  aD av ru EF (f := 116) (fn := Try.f116) (c := ak Try.f116) (by kernel_rfl) (by kernel_rfl) (by kernel_rfl) (S := ee) (k := 1) (by kernel_rfl) (fun R hR => (aI (c := (ak Try.f116)) (by kernel_rfl) (id := 0) (by kernel_rfl) (bw av ru EF (sh := lW) hR (xs := GM) (aH (by kernel_rfl) (by kernel_rfl) hR) aW ae (n := 1000) (T := lX) (fun s Q => XH s Q) (ok := ok0) (f := qM g0_r c0_r g0_0) h0) ae)) (n := 1000) (sel := CE) (fun v o h => by cases h; rfl) (pre := pre) (F := F) (T := fun x => CH ok0 g0_r c0_r g0_0 (x.1.1) (x.2.1.1)) (fun x Q => adf ok0 g0_r c0_r g0_0 x Q) hF
def mg (l : List Tm) (i : Int) : Nat → Nat → Int
  | 0, _ => -1
  | n + 1, k => cond (nZ (l.getD k dV).1 i) (k : Int) (mg l i n (k + 1))
def CF (s : aS) : Bool := decide (s.1.2.2.1 = (s.1.1.length : Int) ∧ s.1.2.2.2.1 = 0 ∧ s.1.1.length ≤ 140737488355328)
def ib (l : List Tm) (i : Int) : Int := mg l i l.length 0
def CG (s : aS) : gy := ((ib s.1.1 s.2.1.1, ()), s.2)
def GO (s : aS) : Bool := decide (0 ≤ ib s.1.1 s.2.1.1)
def GN (s : aS) : gz := ((), s.2)
def M6 (l : List Tm) (i k : Int) : aS := ((l, (), (l.length : Int), k, ()), ((i, ()), ()))
theorem Nv (l : List Tm) (i : Int) : ∀ n k, mg l i n k = -1 ∨ 0 ≤ mg l i n k
  | 0, _ => .inl rfl
  | n + 1, k => by
    unfold mg
    cases nZ (l.getD k dV).1 i
    · exact Nv l i n (k + 1)
    · right
      show (0 : Int) ≤ (k : Int)
      omega
theorem Vb (l : List Tm) (i : Int) (hl : l.length ≤ 140737488355328) : ∀ n k : Nat, k + n = l.length →
    ∃ m, au lX m (M6 l i (k : Int)) = some (cond (decide (0 ≤ mg l i n k)) ⟨(.ret, kN), ((mg l i n k, ()), ((i, ()), ()))⟩ ⟨(.exit 0, kO), ((), ((i, ()), ()))⟩)
  | 0, k, h => ⟨1, aR (OT.ap (decide_eq_false (by dsimp only [M6]; omega)))⟩
  | n + 1, k, h => by
    have hin : inB (k : Int) l.length = true := bJ (by omega)
    have hgd : ∀ z : OT (Sum aS aO), (gd [inB (k : Int) l.length] z).run = z.run := fun z => ai (by rw [hin]; rfl)
    unfold mg
    rcases (Bool.eq_false_or_eq_true (nZ (l.getD k dV).1 i)).symm with hb | hb
    · obtain ⟨m, hm⟩ := Vb l i hl n (k + 1) (by omega)
      rw [hb]
      refine ⟨m + 1, aM ?_ hm⟩
      refine (OT.ao (decide_eq_true (by dsimp only [M6]; omega))).trans ((hgd _).trans ((OT.ap hb).trans ((ai ?_).trans rfl)))
      simp only [List.all_cons, List.all_nil, Bool.and_true]
      exact bC (by dsimp only [M6]; omega)
    · rw [hb]
      have e : decide ((0 : Int) ≤ cond true (k : Int) (mg l i n (k + 1))) = true := decide_eq_true (by show (0 : Int) ≤ (k : Int); omega)
      rw [e]
      refine ⟨1, aR ?_⟩
      exact (OT.ao (decide_eq_true (by dsimp only [M6]; omega))).trans ((hgd _).trans ((OT.ao hb).trans rfl))
theorem XJ : ∀ s : aS, CF s = true → ∃ m e, au lX m s = some e ∧ (qM CG GO GN s).run = some e := by
  rintro ⟨⟨l, ⟨⟩, n, k, ⟨⟩⟩, ⟨⟨i, ⟨⟩⟩, ⟨⟩⟩⟩ h
  have h' := of_decide_eq_true h
  dsimp only at h'
  obtain ⟨rfl, rfl, hl⟩ := h'
  obtain ⟨m, hm⟩ := Vb l i hl l.length 0 (by omega)
  refine ⟨m, _, hm, ?_⟩
  show (OT.br (decide (0 ≤ ib l i)) _ _ : OT aO).run = some (cond (decide (0 ≤ ib l i)) _ _)
  cases decide (0 ≤ ib l i) <;> rfl
def sL (x : qN) : Bool := decide (x.1.1.length ≤ 140737488355328)
def MK (x : qN) : OT ee.Y := .ok ⟨hZ, ((ib x.1.1 x.2.1.1, ()), x.2)⟩
theorem XI : ab Try.prog 116 (ee.aK sL MK) := MJ CF CG GO GN XJ _ _ fun x oy hp ho => by
  rw [← ho]
  clear ho
  obtain ⟨⟨l, ⟨⟩, ⟨⟩⟩, ⟨⟨i, ⟨⟩⟩, ⟨⟩⟩⟩ := x
  have hl : l.length ≤ 140737488355328 := of_decide_eq_true hp
  refine (ai ?_).trans ?_
  · simp only [List.all_cons, List.all_nil, Bool.and_true]
    exact decide_eq_true ⟨rfl, rfl, hl⟩
  · show (OT.br (decide (0 ≤ ib l i)) (.ok ⟨hZ, ((ib l i, ()), ((i, ()), ()))⟩) (.ok ⟨hZ, (((-1 : Int), ()), ((i, ()), ()))⟩) : OT ee.Y).run = some ⟨hZ, ((ib l i, ()), ((i, ()), ()))⟩
    rcases Nv l i l.length 0 with h | h
    · have h : ib l i = -1 := h
      rw [h]
      rfl
    · exact OT.ao (decide_eq_true h)
def oW : cI := (ee.aK sL MK)
theorem Ji : ab Try.prog 116 oW := XI
theorem Jh : aJ oW := aA
def pP : Env := az 116 oW yW
theorem pO : aV Try.prog pP := ag Ji ru
theorem rV : aw pP := ac Jh Ab
theorem KE : bg Try.prog te pP := aN follows av pO rV
def gC : aq := ⟨[.val false (.list gR), .fn 112 [0]], [(0, .cells [.val false .int])], true, 1, true⟩
abbrev xQ : Type := ((List ((aa × (aa × (aa × Bool))))) × (Unit) × Unit) × (((Int) × Unit) × Unit)
def CJ : ay := ⟨[.val false .bool], [(0, .cells [.val false .int])], false⟩
def GU : SV → Option ay := fun _ => some CJ
def Jk (a0 : List ((aa × (aa × (aa × Bool))))) (c0_0 : Int) : OT gC.Y :=
  (gd [sL ((a0, (), ()), (c0_0, ()), ())] (.ok ⟨CJ, ((decide ((0 : Int) ≤ ib a0 c0_0), ()), ((c0_0, ()), ()))⟩))
theorem ahD (x : xQ) (Q : gC.Y → Prop) : wpf te pP ax 1000 Try.f111 (gC.inp.inj x).tm (gC.inp.inj x).hp (fnK gC GU Q) (fun _ _ => False) = (Jk (x.1.1) (x.2.1.1)).wpR Q := by kernel_rfl
theorem QX (pre : xQ → Bool) (F : xQ → OT gC.Y) (hF : ∀ (x : xQ) oy, pre x = true → (F x).run = some oy → (Jk (x.1.1) (x.2.1.1)).run = some oy) : ab Try.prog 111 (gC.aK pre F) :=
  aD av pO KE (f := 111) (fn := Try.f111) (c := ak Try.f111) (by kernel_rfl) (by kernel_rfl) (by kernel_rfl) (S := gC) (k := 1) (by kernel_rfl) (fun R hR => ae) (n := 1000) (sel := GU) (fun v o h => by cases h; rfl) (pre := pre) (F := F) (T := fun x => Jk (x.1.1) (x.2.1.1)) (fun x Q => ahD x Q) hF
def ang (l : List Tm) (i : Int) : Bool := decide (0 ≤ ib l i)
def qP (x : xQ) : Bool := decide (x.1.1.length ≤ 140737488355328)
def UZ (x : xQ) : OT gC.Y := .ok ⟨CJ, ((ang x.1.1 x.2.1.1, ()), x.2)⟩
theorem adk : ab Try.prog 111 (gC.aK qP UZ) := QX _ _ fun x oy hp ho => by
  rw [← ho]
  clear ho
  refine (ai ?_).trans rfl
  simp only [List.all_cons, List.all_nil, Bool.and_true]
  exact hp
def sO : cI := (gC.aK qP UZ)
theorem MQ : ab Try.prog 111 sO := adk
theorem MP : aJ sO := aA
def rA : Env := az 111 sO pP
theorem nH : aV Try.prog rA := ag MQ pO
theorem vZ : aw rA := ac MP rV
theorem Ah : bg Try.prog te rA := aN follows av nH vZ
def nQ : aq := ⟨[.val false (.list gR)], [], true, 0, false⟩
abbrev Xq : Type := ((List ((aa × (aa × (aa × Bool))))) × Unit) × (Unit)
def Co : Shape := ⟨14, [(0, .val false (.list (.prod .elem (.prod .elem (.prod .elem .bool))))), (3, .ptr 0 0 0)], [(0, .cells [.val false .int])], 0, true⟩
abbrev bN : Type := ((List ((aa × (aa × (aa × Bool))))) × (Unit) × Unit) × (((Int) × Unit) × Unit)
def uN : Shape := ⟨14, [(2, .val false .int)], [], 0, true⟩
abbrev lN : Type := ((Int) × Unit) × (Unit)
def uO : Shape := ⟨14, [], [], 0, true⟩
abbrev lO : Type := (Unit) × (Unit)
def acO : SE → Option Shape := ku [(0, uO)] (some uN)
def alM (a0 : List ((aa × (aa × (aa × Bool))))) (c0_0 : Int) : OT (Sum bN aO) :=
  (.br (decide ((0 : Int) ≤ c0_0))
  (gd [qP ((a0, (), ()), (c0_0, ()), ())] (.br (ang a0 c0_0)
    (gd [inR (c0_0 + (1 : Int))] (.ok (.inr ⟨(.ret, uN), ((c0_0 + (1 : Int), ()), ())⟩)))
    (gd [inR (c0_0 - (1 : Int))] (.ok (.inl ((a0, ((), ())), ((c0_0 - (1 : Int), ()), ())))))))
  (.ok (.inr ⟨(.exit 0, uO), ((), ())⟩)))
def Cp (s : bN) : OT (Sum bN aO) := alM (s.1.1) (s.2.1.1)
theorem alJ (s : bN) (Q : Sum bN aO → Prop) : wps te rA ax 1000 (bG (ak Try.f95) 0) (Co.inj s) (cU Co acO (Q : Sum Co.T aO → Prop)) = (Cp s).wpR Q := by kernel_rfl
def I2 (g0_r : bN → lN) (c0_r : bN → Bool) (g0_0 : bN → lO) (s : bN) : OT aO := (.br (c0_r s) (.ok ⟨(.ret, uN), g0_r s⟩) (.ok ⟨(.exit 0, uO), g0_0 s⟩))
def sF : ay := ⟨[.val false .int], [], false⟩
def UH : SV → Option ay := fun _ => some sF
def acS (ok0 : bN → Bool) (g0_r : bN → lN) (c0_r : bN → Bool) (g0_0 : bN → lO) (a0 : List ((aa × (aa × (aa × Bool))))) : OT nQ.Y :=
  let z0 : (List (aa × aa × aa × Bool) × PUnit × PUnit) × (Int × PUnit) × PUnit := ((a0, (), ()), ((255 : Int), ()), ())
  (gd [ok0 z0] (.br (c0_r z0)
  (.ok ⟨sF, (((g0_r z0).fst.fst, ()), ())⟩)
  (.ok ⟨sF, (((0 : Int), ()), ())⟩)))
theorem an0 (ok0 : bN → Bool) (g0_r : bN → lN) (c0_r : bN → Bool) (g0_0 : bN → lO) (x : Xq) (Q : nQ.Y → Prop) : wpf te rA (bp 0 (dv Co 0 ok0 (I2 g0_r c0_r g0_0)) ax) 1000 Try.f95 (nQ.inp.inj x).tm (nQ.inp.inj x).hp (fnK nQ UH Q) (fun _ _ => False) = (acS ok0 g0_r c0_r g0_0 (x.1.1)).wpR Q := by kernel_rfl
theorem acP (ok0 : bN → Bool) (g0_r : bN → lN) (c0_r : bN → Bool) (g0_0 : bN → lO) (h0 : ∀ s : bN, ok0 s = true → ∃ m e, au (Cp) m s = some e ∧ (I2 g0_r c0_r g0_0 s).run = some e) (pre : Xq → Bool) (F : Xq → OT nQ.Y) (hF : ∀ (x : Xq) oy, pre x = true → (F x).run = some oy → (acS ok0 g0_r c0_r g0_0 (x.1.1)).run = some oy) : ab Try.prog 95 (nQ.aK pre F) :=
  aD av nH Ah (f := 95) (fn := Try.f95) (c := ak Try.f95) (by kernel_rfl) (by kernel_rfl) (by kernel_rfl) (S := nQ) (k := 0) (by kernel_rfl) (fun R hR => (aI (c := (ak Try.f95)) (by kernel_rfl) (id := 0) (by kernel_rfl) (bw av nH Ah (sh := Co) hR (xs := acO) (aH (by kernel_rfl) (by kernel_rfl) hR) aW ae (n := 1000) (T := Cp) (fun s Q => alJ s Q) (ok := ok0) (f := I2 g0_r c0_r g0_0) h0) ae)) (n := 1000) (sel := UH) (fun v o h => by cases h; rfl) (pre := pre) (F := F) (T := fun x => acS ok0 g0_r c0_r g0_0 (x.1.1)) (fun x Q => an0 ok0 g0_r c0_r g0_0 x Q) hF
def Zt (l : List Tm) : Nat → Nat
  | 0 => 0
  | n + 1 => cond (ang l (n : Int)) (n + 1) (Zt l n)
def Pd (l : List Tm) : Nat := Zt l 256
def UI (s : bN) : Bool := decide (s.2.1.1 = 255 ∧ s.1.1.length ≤ 140737488355328)
def UJ (s : bN) : lN := (((Pd s.1.1 : Int), ()), ())
def acR (s : bN) : Bool := decide ((0 : Int) < (Pd s.1.1 : Int))
def acQ (_ : bN) : lO := ((), ())
def FO (l : List Tm) (i : Int) : bN := ((l, (), ()), ((i, ()), ()))
theorem Tc (l : List Tm) (hl : l.length ≤ 140737488355328) : ∀ n : Nat, n ≤ 256 →
    ∃ m, au Cp m (FO l ((n : Int) - 1)) = some (cond (decide ((0 : Int) < (Zt l n : Int))) ⟨(.ret, uN), (((Zt l n : Int), ()), ())⟩ ⟨(.exit 0, uO), ((), ())⟩)
  | 0, _ => ⟨1, aR (OT.ap (decide_eq_false (by dsimp only [FO]; omega)))⟩
  | n + 1, h => by
    rw [show ((n + 1 : Nat) : Int) - 1 = (n : Int) by omega]
    have hgd : ∀ z : OT (Sum bN aO), (gd [qP ((l, (), ()), ((n : Int), ()), ())] z).run = z.run := fun z => ai (by
      simp only [List.all_cons, List.all_nil, Bool.and_true]
      exact decide_eq_true hl)
    unfold Zt
    rcases (Bool.eq_false_or_eq_true (ang l (n : Int))).symm with hb | hb
    · obtain ⟨m, hm⟩ := Tc l hl n (by omega)
      rw [hb]
      refine ⟨m + 1, aM ?_ hm⟩
      refine (OT.ao (decide_eq_true (by dsimp only [FO]; omega))).trans ((hgd _).trans ((OT.ap hb).trans ((ai ?_).trans rfl)))
      simp only [List.all_cons, List.all_nil, Bool.and_true]
      exact bC (by dsimp only [FO]; omega)
    · rw [hb]
      simp only [cond_true]
      rw [decide_eq_true (show (0 : Int) < ((n + 1 : Nat) : Int) by omega)]
      refine ⟨1, aR ?_⟩
      refine (OT.ao (decide_eq_true (by dsimp only [FO]; omega))).trans ((hgd _).trans ((OT.ao hb).trans ((ai ?_).trans rfl)))
      simp only [List.all_cons, List.all_nil, Bool.and_true]
      exact bC (by dsimp only [FO]; omega)
theorem alL : ∀ s : bN, UI s = true → ∃ m e, au Cp m s = some e ∧ (I2 UJ acR acQ s).run = some e := by
  rintro ⟨⟨l, ⟨⟩, ⟨⟩⟩, ⟨⟨i, ⟨⟩⟩, ⟨⟩⟩⟩ h
  have h' := of_decide_eq_true h
  dsimp only at h'
  obtain ⟨rfl, hl⟩ := h'
  obtain ⟨m, hm⟩ := Tc l hl 256 (by omega)
  refine ⟨m, _, hm, ?_⟩
  show (OT.br (decide ((0 : Int) < (Zt l 256 : Int))) _ _ : OT aO).run = some (cond (decide ((0 : Int) < (Zt l 256 : Int))) _ _)
  cases decide ((0 : Int) < (Zt l 256 : Int)) <;> rfl
def I1 (x : Xq) : Bool := decide (x.1.1.length ≤ 140737488355328)
def aiV (x : Xq) : OT nQ.Y := .ok ⟨sF, (((Pd x.1.1 : Int), ()), ())⟩
theorem alK : ab Try.prog 95 (nQ.aK I1 aiV) := acP UI UJ acR acQ alL _ _ fun x oy hp ho => by
  rw [← ho]
  clear ho
  obtain ⟨⟨l, ⟨⟩⟩, ⟨⟩⟩ := x
  have hl : l.length ≤ 140737488355328 := of_decide_eq_true hp
  refine (ai ?_).trans ?_
  · simp only [List.all_cons, List.all_nil, Bool.and_true]
    exact decide_eq_true ⟨rfl, hl⟩
  · show (OT.br (decide ((0 : Int) < (Pd l : Int))) (.ok ⟨sF, (((Pd l : Int), ()), ())⟩) (.ok ⟨sF, (((0 : Int), ()), ())⟩) : OT nQ.Y).run = some ⟨sF, (((Pd l : Int), ()), ())⟩
    by_cases h : (0 : Int) < (Pd l : Int)
    · exact OT.ao (decide_eq_true h)
    · have e : Pd l = 0 := by omega
      rw [e]
      rfl
def Cn : cI := (nQ.aK I1 aiV)
theorem Xp : ab Try.prog 95 Cn := alK
theorem Xo : aJ Cn := aA
def vP : Env := az 95 Cn rA
theorem kt : aV Try.prog vP := ag Xp nH
theorem EE : aw vP := ac Xo vZ
theorem mC : bg Try.prog te vP := aN follows av kt EE
end Go.Proofs.Ytkedomfjjahjnaa
