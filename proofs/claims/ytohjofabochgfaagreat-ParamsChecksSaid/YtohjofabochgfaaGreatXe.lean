/- A symbolic machine for Go code over plain data, and functions of the program as it shows them. No statement is proved in this file. -/
import Derived.KernelRfl
import Derived.Test.YtohjofabochgfaaGreatXd
set_option linter.unusedSimpArgs false
set_option linter.unusedVariables false
set_option linter.unusedSectionVars false

namespace Go.Proofs.YtohjofabochgfaaGreat
open Sx Go
set_option maxRecDepth 100000
def eA : ao := ⟨[.val false .int, .val true .elem], [], true, 0, false⟩
abbrev uw : Type := ((Int) × (ab) × Unit) × (Unit)
def rO : aw := ⟨[.val true .elem], [], false⟩
def Dg : SV → Option aw := fun _ => some rO
def Fu (a0 : Int) (a1 : ab) : OT eA.Y :=
  let z0 : Nat := pS a0
  let z1 : ab := bG z0 a1 a1
  let z2 : ab := bG z0 a1 z1
  let z3 : ab := bS a0
  (gd [bT ((a0, a1, a1, ()), ()), bT ((a0, a1, z1, ()), ()), Me ((a0, ()), ()), mK ((a0, z2, z3, ()), ())] (.ok ⟨rO, ((wR z0 z2 z3, ()), ())⟩))
theorem aeQ (x : uw) (Q : eA.Y → Prop) : wpf te acp ax 1000 Tryz.f95 (eA.inp.inj x).tm (eA.inp.inj x).hp (fnK eA Dg Q) (fun _ _ => False) = (Fu (x.1.1) (x.1.2.1)).wpR Q := by kernel_rfl
theorem Md (pre : uw → Bool) (F : uw → OT eA.Y) (hF : ∀ (x : uw) oy, pre x = true → (F x).run = some oy → (Fu (x.1.1) (x.1.2.1)).run = some oy) : ac Tryz.prog 95 (eA.aD pre F) :=
  aB ar Hq aco (f := 95) (fn := Tryz.f95) (c := al Tryz.f95) (by kernel_rfl) (by kernel_rfl) (by kernel_rfl) (S := eA) (k := 0) (by kernel_rfl) (fun R hR => ag) (n := 1000) (sel := Dg) (fun v o h => by cases h; rfl) (pre := pre) (F := F) (T := fun x => Fu (x.1.1) (x.1.2.1)) (fun x Q => aeQ x Q) hF
theorem Z5 (p : Nat) (a b : ab) : bG p a b = bG p b a := by unfold bG; rw [Nat.mul_comm]
def oc (x : uw) : Bool := ak x.1.1
def RH (x : uw) : OT eA.Y := .ok ⟨rO, ((CU (pS x.1.1) x.1.2.1 (bS x.1.1), ()), ())⟩
theorem YY : ac Tryz.prog 95 (eA.aD oc RH) := Md _ _ fun x oy hp ho => by
  rw [← ho]
  clear ho
  obtain ⟨⟨s, a, ⟨⟩⟩, ⟨⟩⟩ := x
  have hs : ak s = true := hp
  show _ = some (⟨rO, ((CU (pS s) a (bS s), ()), ())⟩ : eA.Y)
  unfold CU
  rw [Z5 _ (bG (pS s) a a) a]
  refine (aj ?_).trans rfl
  simp only [List.all_cons, List.all_nil, Bool.and_true, Bool.and_eq_true]
  exact ⟨hs, hs, hs, hs⟩
def pR : cv := (eA.aD oc RH)
theorem Im : ac Tryz.prog 95 pR := YY
theorem Il : aF pR := az
def td : Env := ay 95 pR acp
theorem qS : aQ Tryz.prog td := ah Im Hq
theorem tc : av td := ae Il EU
theorem Lf : aV Tryz.prog te td := aJ follows ar qS tc
def kb : ao := ⟨[.val false .int, .val true (.prod .elem (.prod .elem .bool))], [], true, 0, false⟩
abbrev Uh : Type := ((Int) × ((ab × (ab × Bool))) × Unit) × (Unit)
def lg : aw := ⟨[.val false .bool], [], false⟩
def RB : SV → Option aw := fun _ => some lg
def YV (a0 : Int) (a1 : (ab × (ab × Bool))) : OT kb.Y :=
  let z0 : Int × ab × PUnit := (a0, a1.fst, ())
  let z1 : Nat := pS a0
  let z2 : ab := ofP z1 a1.fst
  let z3 : ab := ofP z1 a1.snd.fst
  let z4 : ab := bG z1 a1.snd.fst a1.snd.fst
  let z5 : ab := CU z1 a1.fst (bS a0)
  (.br (decide (a0 < (0 : Int)))
  (.ok ⟨lg, ((false, ()), ())⟩)
  (.br (decide ((3 : Int) < a0))
    (.ok ⟨lg, ((false, ()), ())⟩)
    (.br (a1.snd.snd)
      (.ok ⟨lg, ((a1.fst.w0 == (0 : UInt64) && (a1.fst.w1 == (0 : UInt64) && (a1.fst.w2 == (0 : UInt64) && (a1.fst.w3 == (0 : UInt64) && true))) && (a1.snd.fst.w0 == (0 : UInt64) && (a1.snd.fst.w1 == (0 : UInt64) && (a1.snd.fst.w2 == (0 : UInt64) && (a1.snd.fst.w3 == (0 : UInt64) && true))) && (a1.snd.snd == true && true)), ()), ())⟩)
      (gd [gq (z0, ())] (.br (!(z2.w0 == a1.fst.w0 && (z2.w1 == a1.fst.w1 && (z2.w2 == a1.fst.w2 && (z2.w3 == a1.fst.w3 && true)))))
        (.ok ⟨lg, ((false, ()), ())⟩)
        (gd [gq ((a0, a1.snd.fst, ()), ())] (.br (!(z3.w0 == a1.snd.fst.w0 && (z3.w1 == a1.snd.fst.w1 && (z3.w2 == a1.snd.fst.w2 && (z3.w3 == a1.snd.fst.w3 && true)))))
          (.ok ⟨lg, ((false, ()), ())⟩)
          (gd [bT ((a0, a1.snd.fst, a1.snd.fst, ()), ()), oc (z0, ())] (.ok ⟨lg, ((z4.w0 == z5.w0 && (z4.w1 == z5.w1 && (z4.w2 == z5.w2 && (z4.w3 == z5.w3 && true))), ()), ())⟩)))))))))
theorem ali (x : Uh) (Q : kb.Y → Prop) : wpf te td ax 1000 Tryz.f73 (kb.inp.inj x).tm (kb.inp.inj x).hp (fnK kb RB Q) (fun _ _ => False) = (YV (x.1.1) (x.1.2.1)).wpR Q := by kernel_rfl
theorem YU (pre : Uh → Bool) (F : Uh → OT kb.Y) (hF : ∀ (x : Uh) oy, pre x = true → (F x).run = some oy → (YV (x.1.1) (x.1.2.1)).run = some oy) : ac Tryz.prog 73 (kb.aD pre F) :=
  aB ar qS Lf (f := 73) (fn := Tryz.f73) (c := al Tryz.f73) (by kernel_rfl) (by kernel_rfl) (by kernel_rfl) (S := kb) (k := 0) (by kernel_rfl) (fun R hR => ag) (n := 1000) (sel := RB) (fun v o h => by cases h; rfl) (pre := pre) (F := F) (T := fun x => YV (x.1.1) (x.1.2.1)) (fun x Q => ali x Q) hF
theorem Si {s : Int} (hs : ak s = true) (x : ab) : eqE (ofP (pS s) x) x = Nat.blt x.nat (pS s) := by
  have hp := mT hs
  have hlt := Nat.mod_lt x.nat hp.1
  rw [akh, show (ofP (pS s) x).nat = x.nat % pS s from eh hp]
  rcases (Bool.eq_false_or_eq_true (Nat.blt x.nat (pS s))).symm with h | h
  · rw [h]
    have hle := ZZ h
    cases hb : Nat.beq (x.nat % pS s) x.nat
    · rfl
    · have := Nat.eq_of_beq_eq_true hb
      omega
  · rw [h, Nat.mod_eq_of_lt (da h)]
    exact Nat.beq_refl _
def RC (_ : Uh) : Bool := true
def agK (x : Uh) : OT kb.Y := .ok ⟨lg, ((onB x.1.1 x.1.2.1, ()), ())⟩
theorem aiU : ac Tryz.prog 73 (kb.aD RC agK) := YU _ _ fun x oy _ ho => by
  rw [← ho]
  clear ho
  obtain ⟨⟨c, ⟨X, Y, i⟩, ⟨⟩⟩, ⟨⟩⟩ := x
  show _ = some (⟨lg, ((onB c (X, Y, i), ()), ())⟩ : kb.Y)
  rcases (Bool.eq_false_or_eq_true (ak c)).symm with hs | hs
  · have e : onB c (X, Y, i) = false := by unfold onB; rw [hs]; rfl
    rw [e]
    by_cases h0 : c < 0
    · exact OT.ap (decide_eq_true h0)
    · refine (OT.au (decide_eq_false h0)).trans (OT.ap (decide_eq_true ?_))
      show (3 : Int) < c
      simp only [ak, Bool.and_eq_false_iff, decide_eq_false_iff_not] at hs
      omega
  · have hc : 0 ≤ c ∧ c < 4 := by simpa [ak] using hs
    refine (OT.au (decide_eq_false (by show ¬ c < 0; omega))).trans ((OT.au (decide_eq_false (by show ¬ (3 : Int) < c; omega))).trans ?_)
    have hx := Si hs X
    have hy := Si hs Y
    have gd1 : ∀ (a : ab) (z : OT kb.Y), (gd [gq ((c, a, ()), ())] z).run = z.run := fun a z => aj (by simp only [List.all_cons, List.all_nil, Bool.and_true]; exact hs)
    cases i
    · refine (OT.au rfl).trans ((gd1 X _).trans ?_)
      rcases (Bool.eq_false_or_eq_true (Nat.blt X.nat (pS c))).symm with h1 | h1
      · have e : onB c (X, Y, false) = false := by unfold onB; rw [hs, h1]; rfl
        rw [e]
        rw [h1] at hx
        exact OT.ap (b := !eqE (ofP (pS c) X) X) (by rw [hx]; rfl)
      · have hx1 := hx
        rw [h1] at hx1
        refine (OT.au (b := !eqE (ofP (pS c) X) X) (by rw [hx1]; rfl)).trans ((gd1 Y _).trans ?_)
        rcases (Bool.eq_false_or_eq_true (Nat.blt Y.nat (pS c))).symm with h2 | h2
        · have e : onB c (X, Y, false) = false := by unfold onB; rw [hs, h1, h2]; rfl
          rw [e]
          rw [h2] at hy
          exact OT.ap (b := !eqE (ofP (pS c) Y) Y) (by rw [hy]; rfl)
        · have hy1 := hy
          rw [h2] at hy1
          have e : onB c (X, Y, false) = eqE (bG (pS c) Y Y) (CU (pS c) X (bS c)) := by unfold onB; rw [hs, h1, h2]; rfl
          rw [e]
          refine (OT.au (b := !eqE (ofP (pS c) Y) Y) (by rw [hy1]; rfl)).trans ((aj ?_).trans rfl)
          simp only [List.all_cons, List.all_nil, Bool.and_true, Bool.and_eq_true]
          exact ⟨hs, hs⟩
    · have e : onB c (X, Y, true) = (cr X && (cr Y && true)) := by unfold onB; rw [hs]; rfl
      rw [e]
      exact OT.ap rfl
def yU : cv := (kb.aD RC agK)
theorem Ug : ac Tryz.prog 73 yU := aiU
theorem Uf : aF yU := az
def Le : Env := ay 73 yU td
theorem BE : aQ Tryz.prog Le := ah Ug qS
theorem BF : av Le := ae Uf tc
theorem WD : aV Tryz.prog te Le := aJ follows ar BE BF
def gB : ao := ⟨[.val false .int, .val true (.prod .elem (.prod .elem .bool)), .val true (.prod .elem (.prod .elem .bool))], [], true, 0, false⟩
abbrev Db : Type := ((Int) × ((ab × (ab × Bool))) × ((ab × (ab × Bool))) × Unit) × (Unit)
def jA : aw := ⟨[.val true (.prod .elem (.prod .elem .bool))], [], false⟩
def H9 : SV → Option aw := fun _ => some jA
def L5 (a0 : Int) (a1 : (ab × (ab × Bool))) (a2 : (ab × (ab × Bool))) : OT gB.Y :=
  let z0 : ab × PUnit := (a1.snd.fst, ())
  let z1 : ab × PUnit := (a1.fst, ())
  let z2 : ab := { w0 := 0, w1 := 0, w2 := 0, w3 := 0 }
  let z3 : ab := { w0 := 3, w1 := 0, w2 := 0, w3 := 0 }
  let z4 : Nat := pS a0
  let z5 : ab := bG z4 a1.fst a1.fst
  let z6 : ab := bG z4 z3 z5
  let z7 : ab := wR z4 a1.snd.fst a1.snd.fst
  let z8 : ab := byP z4 z6 z7
  let z9 : ab := bG z4 z8 z8
  let z10 : ab := jv z4 z9 a1.fst
  let z11 : ab × PUnit := (a2.fst, ())
  let z12 : ab := jv z4 z10 a2.fst
  let z13 : ab := jv z4 a1.fst z12
  let z14 : ab := bG z4 z8 z13
  let z15 : ab := jv z4 a2.snd.fst a1.snd.fst
  let z16 : ab := jv z4 a2.fst a1.fst
  let z17 : ab := byP z4 z15 z16
  let z18 : ab := bG z4 z17 z17
  let z19 : ab := jv z4 z18 a1.fst
  let z20 : ab := jv z4 z19 a2.fst
  let z21 : ab := jv z4 a1.fst z20
  let z22 : ab := bG z4 z17 z21
  (.br (a1.snd.snd)
  (.ok ⟨jA, ((a2, ()), ())⟩)
  (.br (a2.snd.snd)
    (.ok ⟨jA, ((a1, ()), ())⟩)
    (gd [dx ((a0, a2.snd.fst, z0), ()), dx ((a0, a2.fst, z1), ())] (.br (a1.fst.w0 == a2.fst.w0 && (a1.fst.w1 == a2.fst.w1 && (a1.fst.w2 == a2.fst.w2 && (a1.fst.w3 == a2.fst.w3 && true))))
      (.br (!(a1.snd.fst.w0 == a2.snd.fst.w0 && (a1.snd.fst.w1 == a2.snd.fst.w1 && (a1.snd.fst.w2 == a2.snd.fst.w2 && (a1.snd.fst.w3 == a2.snd.fst.w3 && true)))))
        (.ok ⟨jA, (((z2, z2, true), ()), ())⟩)
        (gd [bT ((a0, a1.fst, z1), ()), bT ((a0, z3, z5, ()), ()), mK ((a0, a1.snd.fst, z0), ()), yd ((a0, z6, z7, ()), ()), bT ((a0, z8, z8, ()), ()), dx ((a0, z9, z1), ()), dx ((a0, z10, z11), ()), dx ((a0, a1.fst, z12, ()), ()), bT ((a0, z8, z13, ()), ()), dx ((a0, z14, z0), ())] (.ok ⟨jA, (((z12, jv z4 z14 a1.snd.fst, false), ()), ())⟩)))
      (gd [yd ((a0, z15, z16, ()), ()), bT ((a0, z17, z17, ()), ()), dx ((a0, z18, z1), ()), dx ((a0, z19, z11), ()), dx ((a0, a1.fst, z20, ()), ()), bT ((a0, z17, z21, ()), ()), dx ((a0, z22, z0), ())] (.ok ⟨jA, (((z20, jv z4 z22 a1.snd.fst, false), ()), ())⟩))))))
theorem aiT (x : Db) (Q : gB.Y → Prop) : wpf te Le ax 1000 Tryz.f170 (gB.inp.inj x).tm (gB.inp.inj x).hp (fnK gB H9 Q) (fun _ _ => False) = (L5 (x.1.1) (x.1.2.1) (x.1.2.2.1)).wpR Q := by kernel_rfl
theorem Ue (pre : Db → Bool) (F : Db → OT gB.Y) (hF : ∀ (x : Db) oy, pre x = true → (F x).run = some oy → (L5 (x.1.1) (x.1.2.1) (x.1.2.2.1)).run = some oy) : ac Tryz.prog 170 (gB.aD pre F) :=
  aB ar BE WD (f := 170) (fn := Tryz.f170) (c := al Tryz.f170) (by kernel_rfl) (by kernel_rfl) (by kernel_rfl) (S := gB) (k := 0) (by kernel_rfl) (fun R hR => ag) (n := 1000) (sel := H9) (fun v o h => by cases h; rfl) (pre := pre) (F := F) (T := fun x => L5 (x.1.1) (x.1.2.1) (x.1.2.2.1)) (fun x Q => aiT x Q) hF
def afL (p : Nat) (X Y X2 s : ab) : Pt := (jv p (jv p (bG p s s) X) X2, jv p (bG p s (jv p X (jv p (jv p (bG p s s) X) X2))) Y, false)
def j8 (p : Nat) (P Q : Pt) : Pt := cond P.2.2 Q (cond Q.2.2 P (cond (eqE P.1 Q.1)
  (cond (eqE P.2.1 Q.2.1) (afL p P.1 P.2.1 Q.1 (byP p (bG p ⟨3, 0, 0, 0⟩ (bG p P.1 P.1)) (wR p P.2.1 P.2.1))) bp)
  (afL p P.1 P.2.1 Q.1 (byP p (jv p Q.2.1 P.2.1) (jv p Q.1 P.1)))))
def rI (x : Db) : Bool := ak x.1.1
def YP (x : Db) : OT gB.Y := .ok ⟨jA, ((j8 (pS x.1.1) x.1.2.1 x.1.2.2.1, ()), ())⟩
theorem aeG : ac Tryz.prog 170 (gB.aD rI YP) := Ue _ _ fun x oy hp ho => by
  rw [← ho]
  clear ho
  obtain ⟨⟨c, ⟨X, Y, i⟩, ⟨X2, Y2, i2⟩, ⟨⟩⟩, ⟨⟩⟩ := x
  have hs : ak c = true := hp
  show _ = (OT.ok ⟨jA, ((j8 (pS c) (X, Y, i) (X2, Y2, i2), ()), ())⟩ : OT gB.Y).run
  cases i
  · refine (OT.au rfl).trans ?_
    cases i2
    · refine (OT.au rfl).trans ((aj ?_).trans ?_)
      · simp only [List.all_cons, List.all_nil, Bool.and_true, Bool.and_eq_true]
        exact ⟨hs, hs⟩
      · rcases (Bool.eq_false_or_eq_true (eqE X X2)).symm with h | h
        · have e : j8 (pS c) (X, Y, false) (X2, Y2, false) = afL (pS c) X Y X2 (byP (pS c) (jv (pS c) Y2 Y) (jv (pS c) X2 X)) := by unfold j8; simp only [cond_false, h]
          rw [e]
          refine (OT.au h).trans ((aj ?_).trans rfl)
          simp only [List.all_cons, List.all_nil, Bool.and_true, Bool.and_eq_true]
          exact ⟨hs, hs, hs, hs, hs, hs, hs⟩
        · refine (OT.ap h).trans ?_
          rcases (Bool.eq_false_or_eq_true (eqE Y Y2)).symm with h2 | h2
          · have e : j8 (pS c) (X, Y, false) (X2, Y2, false) = bp := by unfold j8; simp only [cond_false, cond_true, h, h2]
            rw [e]
            exact OT.ap (b := !eqE Y Y2) (by rw [h2]; rfl)
          · have e : j8 (pS c) (X, Y, false) (X2, Y2, false) = afL (pS c) X Y X2 (byP (pS c) (bG (pS c) ⟨3, 0, 0, 0⟩ (bG (pS c) X X)) (wR (pS c) Y Y)) := by unfold j8; simp only [cond_false, cond_true, h, h2]
            rw [e]
            refine (OT.au (b := !eqE Y Y2) (by rw [h2]; rfl)).trans ((aj ?_).trans rfl)
            simp only [List.all_cons, List.all_nil, Bool.and_true, Bool.and_eq_true]
            exact ⟨hs, hs, hs, hs, hs, hs, hs, hs, hs, hs⟩
    · have e : j8 (pS c) (X, Y, false) (X2, Y2, true) = (X, Y, false) := by unfold j8; simp only [cond_false, cond_true]
      rw [e]
      exact OT.ap rfl
  · have e : j8 (pS c) (X, Y, true) (X2, Y2, i2) = (X2, Y2, i2) := by unfold j8; simp only [cond_true]
    rw [e]
    exact OT.ap rfl
def uo : cv := (gB.aD rI YP)
theorem L4 : ac Tryz.prog 170 uo := aeG
theorem L3 : aF uo := az
def qO : Env := ay 170 uo Le
theorem kS : aQ Tryz.prog qO := ah L4 BE
theorem wU : av qO := ae L3 BF
theorem qN : aV Tryz.prog te qO := aJ follows ar kS wU
def gC : ao := ⟨[.val false .int, .val true .elem, .val true (.prod .elem (.prod .elem .bool))], [], true, 0, false⟩
abbrev De : Type := ((Int) × (ab) × ((ab × (ab × Bool))) × Unit) × (Unit)
def rL : Shape := ⟨60, [(0, .val false .int), (4, .ptr 0 0 0), (5, .ptr 1 0 0), (6, .ptr 2 0 0), (7, .ptr 3 0 0), (8, .val false .int)], [(0, .row .u64), (1, .cells [.val false .u64, .val false .u64, .val false .u64, .val false .u64, .val false .u64, .val false .u64, .val false .u64, .val false .u64, .val false .bool]), (2, .cells [.val false .u64, .val false .u64, .val false .u64, .val false .u64, .val false .u64, .val false .u64, .val false .u64, .val false .u64, .val false .bool]), (3, .cells [.val false .u64, .val false .u64, .val false .u64, .val false .u64, .val false .u64, .val false .u64, .val false .u64, .val false .u64, .val false .bool])], 0, true⟩
abbrev cd : Type := ((Int) × (Unit) × (Unit) × (Unit) × (Unit) × (Int) × Unit) × ((List (UInt64)) × ((UInt64) × (UInt64) × (UInt64) × (UInt64) × (UInt64) × (UInt64) × (UInt64) × (UInt64) × (Bool) × Unit) × ((UInt64) × (UInt64) × (UInt64) × (UInt64) × (UInt64) × (UInt64) × (UInt64) × (UInt64) × (Bool) × Unit) × ((UInt64) × (UInt64) × (UInt64) × (UInt64) × (UInt64) × (UInt64) × (UInt64) × (UInt64) × (Bool) × Unit) × Unit)
def kc : Shape := ⟨60, [(0, .val false .int), (4, .ptr 0 0 0), (5, .ptr 1 0 0), (6, .ptr 2 0 0), (7, .ptr 3 0 0), (8, .val false .int)], [(0, .row .u64), (1, .cells [.val false .u64, .val false .u64, .val false .u64, .val false .u64, .val false .u64, .val false .u64, .val false .u64, .val false .u64, .val false .bool]), (2, .cells [.val false .u64, .val false .u64, .val false .u64, .val false .u64, .val false .u64, .val false .u64, .val false .u64, .val false .u64, .val false .bool]), (3, .cells [.val false .u64, .val false .u64, .val false .u64, .val false .u64, .val false .u64, .val false .u64, .val false .u64, .val false .u64, .val false .bool])], 0, true⟩
abbrev iw : Type := ((Int) × (Unit) × (Unit) × (Unit) × (Unit) × (Int) × Unit) × ((List (UInt64)) × ((UInt64) × (UInt64) × (UInt64) × (UInt64) × (UInt64) × (UInt64) × (UInt64) × (UInt64) × (Bool) × Unit) × ((UInt64) × (UInt64) × (UInt64) × (UInt64) × (UInt64) × (UInt64) × (UInt64) × (UInt64) × (Bool) × Unit) × ((UInt64) × (UInt64) × (UInt64) × (UInt64) × (UInt64) × (UInt64) × (UInt64) × (UInt64) × (Bool) × Unit) × Unit)
def RE : SE → Option Shape := jt [(0, kc)] none
def aeO (a0 : Int) (a8 : Int) (c0 : List (UInt64)) (c1_0 : UInt64) (c1_1 : UInt64) (c1_2 : UInt64) (c1_3 : UInt64) (c1_4 : UInt64) (c1_5 : UInt64) (c1_6 : UInt64) (c1_7 : UInt64) (c1_8 : Bool) (c2_0 : UInt64) (c2_1 : UInt64) (c2_2 : UInt64) (c2_3 : UInt64) (c2_4 : UInt64) (c2_5 : UInt64) (c2_6 : UInt64) (c2_7 : UInt64) (c2_8 : Bool) (c3_0 : UInt64) (c3_1 : UInt64) (c3_2 : UInt64) (c3_3 : UInt64) (c3_4 : UInt64) (c3_5 : UInt64) (c3_6 : UInt64) (c3_7 : UInt64) (c3_8 : Bool) : OT (Sum cd aL) :=
  let z0 : Int := Int.tdiv a8 (64 : Int)
  (.br (decide ((0 : Int) ≤ a8))
  (gd [true && inR z0, inB z0 4, decide (Int.toNat z0 + 0 < List.length c0)] (.br (bl (List.getD c0 (Int.toNat z0 + 0) (0 : UInt64)) (↑(UInt64.toNat (i2u (Int.tmod a8 (64 : Int)))) : Int) &&& (1 : UInt64) == (0 : UInt64))
    (gd [inR (a8 - (1 : Int))] (.ok (.inl ((a0, ((), ((), ((), ((), (a8 - (1 : Int), ())))))), (c0, ((c1_0, (c1_1, (c1_2, (c1_3, (c1_4, (c1_5, (c1_6, (c1_7, (c1_8, ()))))))))), ((c2_0, (c2_1, (c2_2, (c2_3, (c2_4, (c2_5, (c2_6, (c2_7, (c2_8, ()))))))))), ((c3_0, (c3_1, (c3_2, (c3_3, (c3_4, (c3_5, (c3_6, (c3_7, (c3_8, ()))))))))), ()))))))))
    (.ok (.inr ⟨(.exit 0, kc), ((a0, ((), ((), ((), ((), (a8, ())))))), (c0, ((c1_0, (c1_1, (c1_2, (c1_3, (c1_4, (c1_5, (c1_6, (c1_7, (c1_8, ()))))))))), ((c2_0, (c2_1, (c2_2, (c2_3, (c2_4, (c2_5, (c2_6, (c2_7, (c2_8, ()))))))))), ((c3_0, (c3_1, (c3_2, (c3_3, (c3_4, (c3_5, (c3_6, (c3_7, (c3_8, ()))))))))), ())))))⟩))))
  (.ok (.inr ⟨(.exit 0, kc), ((a0, ((), ((), ((), ((), (a8, ())))))), (c0, ((c1_0, (c1_1, (c1_2, (c1_3, (c1_4, (c1_5, (c1_6, (c1_7, (c1_8, ()))))))))), ((c2_0, (c2_1, (c2_2, (c2_3, (c2_4, (c2_5, (c2_6, (c2_7, (c2_8, ()))))))))), ((c3_0, (c3_1, (c3_2, (c3_3, (c3_4, (c3_5, (c3_6, (c3_7, (c3_8, ()))))))))), ())))))⟩)))
def rN (s : cd) : OT (Sum cd aL) := aeO (s.1.1) (s.1.2.2.2.2.2.1) (s.2.1) (s.2.2.1.1) (s.2.2.1.2.1) (s.2.2.1.2.2.1) (s.2.2.1.2.2.2.1) (s.2.2.1.2.2.2.2.1) (s.2.2.1.2.2.2.2.2.1) (s.2.2.1.2.2.2.2.2.2.1) (s.2.2.1.2.2.2.2.2.2.2.1) (s.2.2.1.2.2.2.2.2.2.2.2.1) (s.2.2.2.1.1) (s.2.2.2.1.2.1) (s.2.2.2.1.2.2.1) (s.2.2.2.1.2.2.2.1) (s.2.2.2.1.2.2.2.2.1) (s.2.2.2.1.2.2.2.2.2.1) (s.2.2.2.1.2.2.2.2.2.2.1) (s.2.2.2.1.2.2.2.2.2.2.2.1) (s.2.2.2.1.2.2.2.2.2.2.2.2.1) (s.2.2.2.2.1.1) (s.2.2.2.2.1.2.1) (s.2.2.2.2.1.2.2.1) (s.2.2.2.2.1.2.2.2.1) (s.2.2.2.2.1.2.2.2.2.1) (s.2.2.2.2.1.2.2.2.2.2.1) (s.2.2.2.2.1.2.2.2.2.2.2.1) (s.2.2.2.2.1.2.2.2.2.2.2.2.1) (s.2.2.2.2.1.2.2.2.2.2.2.2.2.1)
theorem aeJ (s : cd) (Q : Sum cd aL → Prop) : wps te qO ax 1000 (bE (al Tryz.f164) 0) (rL.inj s) (cM rL RE (Q : Sum rL.T aL → Prop)) = (rN s).wpR Q := by kernel_rfl
def xX (g0_0 : cd → iw) (s : cd) : OT aL := (.ok ⟨(.exit 0, kc), g0_0 s⟩)
def rK : Shape := ⟨60, [(0, .val false .int), (4, .ptr 0 0 0), (5, .ptr 1 0 0), (6, .ptr 2 0 0), (7, .ptr 3 0 0), (9, .val false .int)], [(0, .row .u64), (1, .cells [.val false .u64, .val false .u64, .val false .u64, .val false .u64, .val false .u64, .val false .u64, .val false .u64, .val false .u64, .val false .bool]), (2, .cells [.val false .u64, .val false .u64, .val false .u64, .val false .u64, .val false .u64, .val false .u64, .val false .u64, .val false .u64, .val false .bool]), (3, .cells [.val false .u64, .val false .u64, .val false .u64, .val false .u64, .val false .u64, .val false .u64, .val false .u64, .val false .u64, .val false .bool])], 0, true⟩
abbrev cp : Type := ((Int) × (Unit) × (Unit) × (Unit) × (Unit) × (Int) × Unit) × ((List (UInt64)) × ((UInt64) × (UInt64) × (UInt64) × (UInt64) × (UInt64) × (UInt64) × (UInt64) × (UInt64) × (Bool) × Unit) × ((UInt64) × (UInt64) × (UInt64) × (UInt64) × (UInt64) × (UInt64) × (UInt64) × (UInt64) × (Bool) × Unit) × ((UInt64) × (UInt64) × (UInt64) × (UInt64) × (UInt64) × (UInt64) × (UInt64) × (UInt64) × (Bool) × Unit) × Unit)
def oa : Shape := ⟨60, [(6, .ptr 0 0 0), (7, .ptr 1 0 0)], [(0, .cells [.val false .u64, .val false .u64, .val false .u64, .val false .u64, .val false .u64, .val false .u64, .val false .u64, .val false .u64, .val false .bool]), (1, .cells [.val false .u64, .val false .u64, .val false .u64, .val false .u64, .val false .u64, .val false .u64, .val false .u64, .val false .u64, .val false .bool])], 0, true⟩
abbrev iv : Type := ((Unit) × (Unit) × Unit) × (((UInt64) × (UInt64) × (UInt64) × (UInt64) × (UInt64) × (UInt64) × (UInt64) × (UInt64) × (Bool) × Unit) × ((UInt64) × (UInt64) × (UInt64) × (UInt64) × (UInt64) × (UInt64) × (UInt64) × (UInt64) × (Bool) × Unit) × Unit)
def RD : SE → Option Shape := jt [(2, oa)] none
def aeN (a0 : Int) (a9 : Int) (c0 : List (UInt64)) (c1_0 : UInt64) (c1_1 : UInt64) (c1_2 : UInt64) (c1_3 : UInt64) (c1_4 : UInt64) (c1_5 : UInt64) (c1_6 : UInt64) (c1_7 : UInt64) (c1_8 : Bool) (c2_0 : UInt64) (c2_1 : UInt64) (c2_2 : UInt64) (c2_3 : UInt64) (c2_4 : UInt64) (c2_5 : UInt64) (c2_6 : UInt64) (c2_7 : UInt64) (c2_8 : Bool) (c3_0 : UInt64) (c3_1 : UInt64) (c3_2 : UInt64) (c3_3 : UInt64) (c3_4 : UInt64) (c3_5 : UInt64) (c3_6 : UInt64) (c3_7 : UInt64) (c3_8 : Bool) : OT (Sum cp aL) :=
  let z0 : ab × ab × Bool := ({ w0 := c3_0, w1 := c3_1, w2 := c3_2, w3 := c3_3 }, { w0 := c3_4, w1 := c3_5, w2 := c3_6, w3 := c3_7 }, c3_8)
  let z1 : Int := Int.tdiv a9 (64 : Int)
  let z2 : Nat := pS a0
  let z3 : ab × ab × Bool := j8 z2 z0 z0
  let z4 : ab × ab × Bool := ({ w0 := c1_0, w1 := c1_1, w2 := c1_2, w3 := c1_3 }, { w0 := c1_4, w1 := c1_5, w2 := c1_6, w3 := c1_7 }, c1_8)
  let z5 : Bool := inR (a9 - (1 : Int))
  let z6 : ab × ab × Bool := j8 z2 z3 z4
  let z7 := z6.fst
  let z8 := z6.snd
  let z9 := z8.fst
  let z10 := z3.fst
  let z11 := z3.snd
  let z12 := z11.fst
  (.br (decide ((0 : Int) ≤ a9))
  (gd [rI ((a0, z0, z0, ()), ()), true && inR z1, inB z1 4, decide (Int.toNat z1 + 0 < List.length c0)] (.br (bl (List.getD c0 (Int.toNat z1 + 0) (0 : UInt64)) (↑(UInt64.toNat (i2u (Int.tmod a9 (64 : Int)))) : Int) &&& (1 : UInt64) == (1 : UInt64))
    (gd [rI ((a0, z3, z4, ()), ()), z5] (.ok (.inl ((a0, ((), ((), ((), ((), (a9 - (1 : Int), ())))))), (c0, ((c1_0, (c1_1, (c1_2, (c1_3, (c1_4, (c1_5, (c1_6, (c1_7, (c1_8, ()))))))))), ((c2_0, (c2_1, (c2_2, (c2_3, (c2_4, (c2_5, (c2_6, (c2_7, (c2_8, ()))))))))), ((z7.w0, (z7.w1, (z7.w2, (z7.w3, (z9.w0, (z9.w1, (z9.w2, (z9.w3, (z8.snd, ()))))))))), ()))))))))
    (gd [z5] (.ok (.inl ((a0, ((), ((), ((), ((), (a9 - (1 : Int), ())))))), (c0, ((c1_0, (c1_1, (c1_2, (c1_3, (c1_4, (c1_5, (c1_6, (c1_7, (c1_8, ()))))))))), ((c2_0, (c2_1, (c2_2, (c2_3, (c2_4, (c2_5, (c2_6, (c2_7, (c2_8, ()))))))))), ((z10.w0, (z10.w1, (z10.w2, (z10.w3, (z12.w0, (z12.w1, (z12.w2, (z12.w3, (z11.snd, ()))))))))), ()))))))))))
  (.ok (.inr ⟨(.exit 2, oa), (((), ((), ())), ((c2_0, (c2_1, (c2_2, (c2_3, (c2_4, (c2_5, (c2_6, (c2_7, (c2_8, ()))))))))), ((c3_0, (c3_1, (c3_2, (c3_3, (c3_4, (c3_5, (c3_6, (c3_7, (c3_8, ()))))))))), ())))⟩)))
def ob (s : cp) : OT (Sum cp aL) := aeN (s.1.1) (s.1.2.2.2.2.2.1) (s.2.1) (s.2.2.1.1) (s.2.2.1.2.1) (s.2.2.1.2.2.1) (s.2.2.1.2.2.2.1) (s.2.2.1.2.2.2.2.1) (s.2.2.1.2.2.2.2.2.1) (s.2.2.1.2.2.2.2.2.2.1) (s.2.2.1.2.2.2.2.2.2.2.1) (s.2.2.1.2.2.2.2.2.2.2.2.1) (s.2.2.2.1.1) (s.2.2.2.1.2.1) (s.2.2.2.1.2.2.1) (s.2.2.2.1.2.2.2.1) (s.2.2.2.1.2.2.2.2.1) (s.2.2.2.1.2.2.2.2.2.1) (s.2.2.2.1.2.2.2.2.2.2.1) (s.2.2.2.1.2.2.2.2.2.2.2.1) (s.2.2.2.1.2.2.2.2.2.2.2.2.1) (s.2.2.2.2.1.1) (s.2.2.2.2.1.2.1) (s.2.2.2.2.1.2.2.1) (s.2.2.2.2.1.2.2.2.1) (s.2.2.2.2.1.2.2.2.2.1) (s.2.2.2.2.1.2.2.2.2.2.1) (s.2.2.2.2.1.2.2.2.2.2.2.1) (s.2.2.2.2.1.2.2.2.2.2.2.2.1) (s.2.2.2.2.1.2.2.2.2.2.2.2.2.1)
theorem aeI (s : cp) (Q : Sum cp aL → Prop) : wps te qO ax 1000 (bE (al Tryz.f164) 2) (rK.inj s) (cM rK RD (Q : Sum rK.T aL → Prop)) = (ob s).wpR Q := by kernel_rfl
def xW (g2_2 : cp → iv) (s : cp) : OT aL := (.ok ⟨(.exit 2, oa), g2_2 s⟩)
def rM : aw := ⟨[.val true (.prod .elem (.prod .elem .bool))], [], false⟩
def Ig : SV → Option aw := fun _ => some rM
def L9 (ok0 : cd → Bool) (g0_0 : cd → iw) (ok2 : cp → Bool) (g2_2 : cp → iv) (a0 : Int) (a1 : ab) (a2 : (ab × (ab × Bool))) : OT gC.Y :=
  let z0 : ab := { w0 := 0, w1 := 0, w2 := 0, w3 := 0 }
  let z1 : Int := WS a0 (1 : Int)
  let z2 : ab := ofP (pS z1) a1
  let z3 : (Int × PUnit × PUnit × PUnit × PUnit × Int × PUnit) × List UInt64 × (UInt64 × UInt64 × UInt64 × UInt64 × UInt64 × UInt64 × UInt64 × UInt64 × Bool × PUnit) × (UInt64 × UInt64 × UInt64 × UInt64 × UInt64 × UInt64 × UInt64 × UInt64 × Bool × PUnit) × (UInt64 × UInt64 × UInt64 × UInt64 × UInt64 × UInt64 × UInt64 × UInt64 × Bool × PUnit) × PUnit := ((a0, (), (), (), (), (255 : Int), ()), [z2.w0, z2.w1, z2.w2, z2.w3], (a2.fst.w0, a2.fst.w1, a2.fst.w2, a2.fst.w3, a2.snd.fst.w0, a2.snd.fst.w1, a2.snd.fst.w2, a2.snd.fst.w3, a2.snd.snd, ()), ((0 : UInt64), (0 : UInt64), (0 : UInt64), (0 : UInt64), (0 : UInt64), (0 : UInt64), (0 : UInt64), (0 : UInt64), false, ()), ((0 : UInt64), (0 : UInt64), (0 : UInt64), (0 : UInt64), (0 : UInt64), (0 : UInt64), (0 : UInt64), (0 : UInt64), true, ()), ())
  let z4 : (Int × PUnit × PUnit × PUnit × PUnit × Int × PUnit) × List UInt64 × (UInt64 × UInt64 × UInt64 × UInt64 × UInt64 × UInt64 × UInt64 × UInt64 × Bool × PUnit) × (UInt64 × UInt64 × UInt64 × UInt64 × UInt64 × UInt64 × UInt64 × UInt64 × Bool × PUnit) × (UInt64 × UInt64 × UInt64 × UInt64 × UInt64 × UInt64 × UInt64 × UInt64 × Bool × PUnit) × PUnit := g0_0 z3
  let z5 := z4.fst
  let z6 := z4.snd
  let z7 := z6.snd
  let z8 := z7.fst
  let z9 := z8.snd
  let z10 := z9.snd
  let z11 := z10.snd
  let z12 := z11.snd
  let z13 := z12.snd
  let z14 := z13.snd
  let z15 := z14.snd
  let z16 := z7.snd
  let z17 := z16.fst
  let z18 := z17.snd
  let z19 := z18.snd
  let z20 := z19.snd
  let z21 := z20.snd
  let z22 := z21.snd
  let z23 := z22.snd
  let z24 := z23.snd
  let z25 := z16.snd.fst
  let z26 := z25.snd
  let z27 := z26.snd
  let z28 := z27.snd
  let z29 := z28.snd
  let z30 := z29.snd
  let z31 := z30.snd
  let z32 := z31.snd
  let z33 : (Int × PUnit × PUnit × PUnit × PUnit × Int × PUnit) × List UInt64 × (UInt64 × UInt64 × UInt64 × UInt64 × UInt64 × UInt64 × UInt64 × UInt64 × Bool × PUnit) × (UInt64 × UInt64 × UInt64 × UInt64 × UInt64 × UInt64 × UInt64 × UInt64 × Bool × PUnit) × (UInt64 × UInt64 × UInt64 × UInt64 × UInt64 × UInt64 × UInt64 × UInt64 × Bool × PUnit) × PUnit := ((z5.fst, (), (), (), (), z5.snd.snd.snd.snd.snd.fst, ()), z6.fst, (z8.fst, z9.fst, z10.fst, z11.fst, z12.fst, z13.fst, z14.fst, z15.fst, z15.snd.fst, ()), (z17.fst, z18.fst, z19.fst, z20.fst, z21.fst, z22.fst, z23.fst, z24.fst, z24.snd.fst, ()), (z25.fst, z26.fst, z27.fst, z28.fst, z29.fst, z30.fst, z31.fst, z32.fst, z32.snd.fst, ()), ())
  let z34 := (g2_2 z33).snd.snd.fst
  let z35 := z34.snd
  let z36 := z35.snd
  let z37 := z36.snd
  let z38 := z37.snd
  let z39 := z38.snd
  let z40 := z39.snd
  let z41 := z40.snd
  (.br (!onB a0 a2)
  (.ok ⟨rM, (((z0, z0, true), ()), ())⟩)
  (gd [gq ((z1, a1, ()), ()), ok0 z3, ok2 z33] (.ok ⟨rM, ((({ w0 := z34.fst, w1 := z35.fst, w2 := z36.fst, w3 := z37.fst }, { w0 := z38.fst, w1 := z39.fst, w2 := z40.fst, w3 := z41.fst }, z41.snd.fst), ()), ())⟩)))
theorem aiV (ok0 : cd → Bool) (g0_0 : cd → iw) (ok2 : cp → Bool) (g2_2 : cp → iv) (x : De) (Q : gC.Y → Prop) : wpf te qO (bg 2 (db rK 2 ok2 (xW g2_2)) (bg 0 (db rL 0 ok0 (xX g0_0)) ax)) 1000 Tryz.f164 (gC.inp.inj x).tm (gC.inp.inj x).hp (fnK gC Ig Q) (fun _ _ => False) = (L9 ok0 g0_0 ok2 g2_2 (x.1.1) (x.1.2.1) (x.1.2.2.1)).wpR Q := by kernel_rfl
theorem Ui (ok0 : cd → Bool) (g0_0 : cd → iw) (ok2 : cp → Bool) (g2_2 : cp → iv) (h0 : ∀ s : cd, ok0 s = true → ∃ m e, aq (rN) m s = some e ∧ (xX g0_0 s).run = some e) (h2 : ∀ s : cp, ok2 s = true → ∃ m e, aq (ob) m s = some e ∧ (xW g2_2 s).run = some e) (pre : De → Bool) (F : De → OT gC.Y) (hF : ∀ (x : De) oy, pre x = true → (F x).run = some oy → (L9 ok0 g0_0 ok2 g2_2 (x.1.1) (x.1.2.1) (x.1.2.2.1)).run = some oy) : ac Tryz.prog 164 (gC.aD pre F) :=
  aB ar kS qN (f := 164) (fn := Tryz.f164) (c := al Tryz.f164) (by kernel_rfl) (by kernel_rfl) (by kernel_rfl) (S := gC) (k := 0) (by kernel_rfl) (fun R hR => (aC (c := (al Tryz.f164)) (by kernel_rfl) (id := 2) (by kernel_rfl) (bo ar kS qN (sh := rK) hR (xs := RD) (aE (by kernel_rfl) (by kernel_rfl) hR) aS ag (n := 1000) (T := ob) (fun s Q => aeI s Q) (ok := ok2) (f := xW g2_2) h2) (aC (c := (al Tryz.f164)) (by kernel_rfl) (id := 0) (by kernel_rfl) (bo ar kS qN (sh := rL) hR (xs := RE) (aE (by kernel_rfl) (by kernel_rfl) hR) aS ag (n := 1000) (T := rN) (fun s Q => aeJ s Q) (ok := ok0) (f := xX g0_0) h0) ag))) (n := 1000) (sel := Ig) (fun v o h => by cases h; rfl) (pre := pre) (F := F) (T := fun x => L9 ok0 g0_0 ok2 g2_2 (x.1.1) (x.1.2.1) (x.1.2.2.1)) (fun x Q => aiV ok0 g0_0 ok2 g2_2 x Q) hF
def bf (P : Pt) : C9 := (P.1.w0, P.1.w1, P.1.w2, P.1.w3, P.2.1.w0, P.2.1.w1, P.2.1.w2, P.2.1.w3, P.2.2, ())
def gA (p k : Nat) (P : Pt) (n : Nat) (O : Pt) : Pt := cond (EL k (255 - n)) (j8 p (j8 p O O) P) (j8 p O O)
def H5 (p k : Nat) (P : Pt) : Pt := upto (gA p k P) bp 256
theorem Ry {p k t : Nat} {P : Pt} (ht : t ≤ 256) (hk : k / 2 ^ t = 0) : ∀ n, n ≤ 256 - t → upto (gA p k P) bp n = bp
  | 0, _ => rfl
  | n + 1, hn => by
    show gA p k P n (upto (gA p k P) bp n) = _
    rw [Ry ht hk n (by omega)]
    have hb : EL k (255 - n) = false := by
      unfold EL
      rw [show 255 - n = t + (255 - n - t) by omega, Nat.pow_add, ← Nat.div_div_eq_div_mul, hk, Nat.zero_div]
      rfl
    unfold gA
    rw [hb]
    rfl
def xJ (s : Int) (B : ab) (P : C9) (Q : C9) (O : C9) (i : Int) : cd := ((s, (), (), (), (), i, ()), (lst B, P, Q, O, ()))
theorem Rt (s : Int) (B : ab) (P Q O : C9) : ∀ n : Nat, n ≤ 256 → ∃ m, aq rN m (xJ s B P Q O ((n : Int) - 1)) = some ⟨(.exit 0, kc), xJ s B P Q O (T7 B.nat n)⟩
  | 0, _ => ⟨1, aI (OT.au (decide_eq_false (by dsimp only [xJ]; omega)))⟩
  | n + 1, hn => by
    have e1 : ((n + 1 : Nat) : Int) - 1 = (n : Int) := by omega
    rw [e1]
    have hb := aml (b := B) (k := n) (by omega)
    unfold T7
    rcases (Bool.eq_false_or_eq_true (EL B.nat n)).symm with h | h
    · obtain ⟨m, hm⟩ := Rt s B P Q O n (by omega)
      rw [h] at hb ⊢
      refine ⟨m + 1, aH ?_ hm⟩
      refine (OT.ap (decide_eq_true (by dsimp only [xJ]; omega))).trans ((af3 (B := B) (k := n) (by omega) _).trans ((OT.ap ?_).trans ((aj ?_).trans rfl)))
      · exact (TP _).trans (congrArg Bool.not hb)
      · simp only [List.all_cons, List.all_nil, Bool.and_true]
        exact bz (by dsimp only [xJ]; omega)
    · rw [h] at hb ⊢
      refine ⟨1, aI ?_⟩
      refine (OT.ap (decide_eq_true (by dsimp only [xJ]; omega))).trans ((af3 (B := B) (k := n) (by omega) _).trans ((OT.au ?_).trans rfl))
      exact (TP _).trans (congrArg Bool.not hb)
def Ii (s : cd) : Bool := decide (s.1.2.2.2.2.2.1 = 255 ∧ s.2.1.length = 4)
def RG (s : cd) : iw := ((s.1.1, (), (), (), (), T7 (elemOf s.2.1).nat 256, ()), s.2)
theorem aeM : ∀ s : cd, Ii s = true → ∃ m e, aq rN m s = some e ∧ (xX RG s).run = some e := by
  rintro ⟨⟨s, ⟨⟩, ⟨⟩, ⟨⟩, ⟨⟩, i, ⟨⟩⟩, ⟨l, P, Q, O, ⟨⟩⟩⟩ h
  have h' := of_decide_eq_true h
  dsimp only at h'
  obtain ⟨rfl, hl⟩ := h'
  obtain ⟨B, rfl⟩ : ∃ a, l = lst a := ⟨elemOf l, (aZ hl).symm⟩
  obtain ⟨m, hm⟩ := Rt s B P Q O 256 (by omega)
  exact ⟨m, _, hm, rfl⟩
theorem aiQ {s : Int} (hs : ak s = true) (B : ab) (P Q : C9) (O : Pt) {k : Nat} (hk : k < 256) :
    (ob (xJ s B P Q (bf O) (k : Int))).run = some (.inl (xJ s B P Q (bf (gA (pS s) B.nat (j1 P) (255 - k) O)) ((k : Int) - 1))) := by
  have hb := aml (b := B) (k := k) hk
  have t1 : Int.tdiv (k : Int) 64 = ((k / 64 : Nat) : Int) := by rw [Int.tdiv_eq_ediv_of_nonneg (by omega)]; omega
  have hi : inR ((k : Int) - 1) = true := bz (by omega)
  refine (OT.ap (decide_eq_true (by dsimp only [xJ]; omega))).trans ((aj ?_).trans ?_)
  · simp only [xJ, t1, Int.toNat_natCast, Nat.add_zero, cB, List.all_cons, List.all_nil, Bool.and_true, Bool.true_and, Bool.and_eq_true]
    exact ⟨hs, bz (by omega), bF (by omega), decide_eq_true (by omega)⟩
  · rcases (Bool.eq_false_or_eq_true (EL B.nat k)).symm with h | h
    · have e : gA (pS s) B.nat (j1 P) (255 - k) O = j8 (pS s) O O := by unfold gA; rw [show 255 - (255 - k) = k by omega, h]; rfl
      rw [e]
      rw [h] at hb
      refine (OT.au hb).trans ((aj ?_).trans rfl)
      simp only [List.all_cons, List.all_nil, Bool.and_true]
      exact hi
    · have e : gA (pS s) B.nat (j1 P) (255 - k) O = j8 (pS s) (j8 (pS s) O O) (j1 P) := by unfold gA; rw [show 255 - (255 - k) = k by omega, h]; rfl
      rw [e]
      rw [h] at hb
      refine (OT.ap hb).trans ((aj ?_).trans rfl)
      simp only [List.all_cons, List.all_nil, Bool.and_true, Bool.and_eq_true]
      exact ⟨hs, hi⟩
theorem Rs {s : Int} (hs : ak s = true) (B : ab) (P Q : C9) : ∀ (n : Nat) (O : Pt), n ≤ 256 → O = upto (gA (pS s) B.nat (j1 P)) bp (256 - n) →
    ∃ m, aq ob m (xJ s B P Q (bf O) ((n : Int) - 1)) = some ⟨(.exit 2, oa), (((), (), ()), (Q, bf (H5 (pS s) B.nat (j1 P)), ()))⟩
  | 0, O, _, hO => by
    have e : H5 (pS s) B.nat (j1 P) = O := hO.symm
    rw [e]
    exact ⟨1, aI (OT.au (decide_eq_false (by dsimp only [xJ]; omega)))⟩
  | n + 1, O, hn, hO => by
    obtain ⟨m, hm⟩ := Rs hs B P Q n (gA (pS s) B.nat (j1 P) (255 - n) O) (by omega) (by
      rw [show 256 - n = (255 - n) + 1 by omega, hO, show 256 - (n + 1) = 255 - n by omega]
      rfl)
    rw [show ((n + 1 : Nat) : Int) - 1 = (n : Int) by omega]
    exact ⟨m + 1, aH (aiQ hs B P Q O (by omega)) hm⟩
def yV (s : cp) : Bool := ak s.1.1 && decide (s.1.2.2.2.2.2.1 = T7 (elemOf s.2.1).nat 256 ∧ s.2.1.length = 4 ∧ j1 s.2.2.2.2.1 = bp)
def RF (s : cp) : iv := (((), (), ()), (s.2.2.2.1, bf (H5 (pS s.1.1) (elemOf s.2.1).nat (j1 s.2.2.1)), ()))
theorem aeL : ∀ s : cp, yV s = true → ∃ m e, aq ob m s = some e ∧ (xW RF s).run = some e := by
  rintro ⟨⟨s, ⟨⟩, ⟨⟩, ⟨⟩, ⟨⟩, i, ⟨⟩⟩, ⟨l, P, Q, O, ⟨⟩⟩⟩ h
  simp only [yV, Bool.and_eq_true, decide_eq_true_eq] at h
  obtain ⟨hs, rfl, hl, hO⟩ := h
  have hO2 : O = bf bp := by rw [← hO]; rfl
  subst hO2
  obtain ⟨B, rfl⟩ : ∃ a, l = lst a := ⟨elemOf l, (aZ hl).symm⟩
  obtain ⟨t, e1, e2, e3⟩ := yJ B.nat 256 (Nat.div_eq_of_lt (iP B))
  obtain ⟨m, hm⟩ := Rs hs B P Q t bp e2 (Ry e2 e3 _ (Nat.le_refl _)).symm
  rw [← e1] at hm
  exact ⟨m, _, hm, rfl⟩
def D0 (c : Int) (k : ab) (P : Pt) : Pt := cond (onB c P) (H5 (pS c) (ofP (pS (WS c 1)) k).nat P) bp
def Ih (_ : De) : Bool := true
def YW (x : De) : OT gC.Y := .ok ⟨rM, ((D0 x.1.1 x.1.2.1 x.1.2.2.1, ()), ())⟩
theorem aeK : ac Tryz.prog 164 (gC.aD Ih YW) := Ui Ii RG yV RF aeM aeL _ _ fun x oy _ ho => by
  rw [← ho]
  clear ho
  obtain ⟨⟨c, k, P, ⟨⟩⟩, ⟨⟩⟩ := x
  show _ = (OT.ok ⟨rM, ((D0 c k P, ()), ())⟩ : OT gC.Y).run
  rcases (Bool.eq_false_or_eq_true (onB c P)).symm with h1 | h1
  · have e : D0 c k P = bp := by unfold D0; rw [h1]; rfl
    rw [e]
    exact OT.ap (b := !onB c P) (by rw [h1]; rfl)
  · have hs := yf h1
    have e : D0 c k P = H5 (pS c) (ofP (pS (WS c 1)) k).nat P := by unfold D0; rw [h1]; rfl
    rw [e]
    refine (OT.au (b := !onB c P) (by rw [h1]; rfl)).trans ((aj ?_).trans rfl)
    simp only [List.all_cons, List.all_nil, Bool.and_true, Bool.and_eq_true]
    refine ⟨ue hs, decide_eq_true (p := (255 : Int) = 255 ∧ (lst (ofP (pS (WS c 1)) k)).length = 4) ⟨rfl, rfl⟩, ?_⟩
    refine (Bool.and_eq_true _ _).mpr ⟨hs, ?_⟩
    exact decide_eq_true (p := T7 (ofP (pS (WS c 1)) k).nat 256 = T7 (ofP (pS (WS c 1)) k).nat 256 ∧ (lst (ofP (pS (WS c 1)) k)).length = 4 ∧ bp = bp) ⟨rfl, rfl, rfl⟩
def uu : cv := (gC.aD Ih YW)
theorem L8 : ac Tryz.prog 164 uu := aeK
theorem L7 : aF uu := az
def qR : Env := ay 164 uu qO
theorem kT : aQ Tryz.prog qR := ah L8 kS
theorem wV : av qR := ae L7 wU
theorem qQ : aV Tryz.prog te qR := aJ follows ar kT wV
def eB : ao := ⟨[.val false .int, .val true .elem], [], true, 0, false⟩
abbrev uA : Type := ((Int) × (ab) × Unit) × (Unit)
def mA : Shape := ⟨114, [(0, .val false .int), (4, .ptr 0 0 0), (10, .ptr 1 0 0), (14, .ptr 2 0 0), (15, .ptr 3 0 0), (16, .ptr 4 0 0), (17, .val false .int)], [(0, .row .u64), (1, .row .u64), (2, .row .u64), (3, .row .u64), (4, .row .u64)], 0, true⟩
abbrev bQ : Type := ((Int) × (Unit) × (Unit) × (Unit) × (Unit) × (Unit) × (Int) × Unit) × ((List (UInt64)) × (List (UInt64)) × (List (UInt64)) × (List (UInt64)) × (List (UInt64)) × Unit)
def mz : Shape := ⟨114, [(0, .val false .int), (4, .ptr 0 0 0), (10, .ptr 1 0 0), (14, .ptr 2 0 0), (15, .ptr 3 0 0), (16, .ptr 4 0 0), (17, .val false .int), (18, .ptr 5 0 0), (19, .val false .int)], [(0, .row .u64), (1, .row .u64), (2, .row .u64), (3, .row .u64), (4, .row .u64), (5, .row .u64)], 0, true⟩
abbrev bh : Type := ((Int) × (Unit) × (Unit) × (Unit) × (Unit) × (Unit) × (Int) × (Unit) × (Int) × Unit) × ((List (UInt64)) × (List (UInt64)) × (List (UInt64)) × (List (UInt64)) × (List (UInt64)) × (List (UInt64)) × Unit)
def lh : Shape := ⟨114, [(0, .val false .int), (4, .ptr 0 0 0), (10, .ptr 1 0 0), (14, .ptr 2 0 0), (15, .ptr 3 0 0), (16, .ptr 4 0 0), (17, .val false .int), (18, .ptr 5 0 0)], [(0, .row .u64), (1, .row .u64), (2, .row .u64), (3, .row .u64), (4, .row .u64), (5, .row .u64)], 0, true⟩
abbrev dm : Type := ((Int) × (Unit) × (Unit) × (Unit) × (Unit) × (Unit) × (Int) × (Unit) × Unit) × ((List (UInt64)) × (List (UInt64)) × (List (UInt64)) × (List (UInt64)) × (List (UInt64)) × (List (UInt64)) × Unit)
def Ip : SE → Option Shape := jt [(2, lh)] none
def Za (a0 : Int) (a17 : Int) (a19 : Int) (c0 : List (UInt64)) (c1 : List (UInt64)) (c2 : List (UInt64)) (c3 : List (UInt64)) (c4 : List (UInt64)) (c5 : List (UInt64)) : OT (Sum bh aL) :=
  let z0 : Nat := List.length c5
  let z1 : Bool := decide (4 ≤ z0)
  let z2 : ab := { w0 := List.getD c5 0 0, w1 := List.getD c5 1 0, w2 := List.getD c5 2 0, w3 := List.getD c5 3 0 }
  let z3 : ab := bG (pS a0) z2 z2
  (.br (decide (a19 < a17))
  (gd [z1, z1, bT ((a0, z2, z2, ()), ()), decide ((4 / 1 : Nat) + 0 ≤ z0), inR (a19 + (1 : Int))] (.ok (.inl ((a0, ((), ((), ((), ((), ((), (a17, ((), (a19 + (1 : Int), ()))))))))), (c0, (c1, (c2, (c3, (c4, (List.set (List.set (List.set (List.set c5 0 z3.w0) 1 z3.w1) 2 z3.w2) 3 z3.w3, ()))))))))))
  (.ok (.inr ⟨(.exit 2, lh), ((a0, ((), ((), ((), ((), ((), (a17, ((), ())))))))), (c0, (c1, (c2, (c3, (c4, (c5, ())))))))⟩)))
def mB (s : bh) : OT (Sum bh aL) := Za (s.1.1) (s.1.2.2.2.2.2.2.1) (s.1.2.2.2.2.2.2.2.2.1) (s.2.1) (s.2.2.1) (s.2.2.2.1) (s.2.2.2.2.1) (s.2.2.2.2.2.1) (s.2.2.2.2.2.2.1)
theorem Y5 (s : bh) (Q : Sum bh aL → Prop) : wps te qR ax 1000 (bE (bE (al Tryz.f94) 0) 2) (mz.inj s) (cM mz Ip (Q : Sum mz.T aL → Prop)) = (mB s).wpR Q := by kernel_rfl
def rP (g2_2 : bh → dm) (s : bh) : OT aL := (.ok ⟨(.exit 2, lh), g2_2 s⟩)
def li : Shape := ⟨114, [(0, .val false .int), (4, .ptr 0 0 0), (14, .ptr 1 0 0)], [(0, .row .u64), (1, .row .u64)], 0, true⟩
abbrev gn : Type := ((Int) × (Unit) × (Unit) × Unit) × ((List (UInt64)) × (List (UInt64)) × Unit)
def Iq : SE → Option Shape := jt [(0, li)] none
def yY (ok2 : bh → Bool) (g2_2 : bh → dm) (a0 : Int) (a17 : Int) (c0 : List (UInt64)) (c1 : List (UInt64)) (c2 : List (UInt64)) (c3 : List (UInt64)) (c4 : List (UInt64)) : OT (Sum bQ aL) :=
  let z0 : (Int × PUnit × PUnit × PUnit × PUnit × PUnit × Int × PUnit × Int × PUnit) × List UInt64 × List UInt64 × List UInt64 × List UInt64 × List UInt64 × List UInt64 × PUnit := ((a0, (), (), (), (), (), a17, (), (1 : Int), ()), c0, c1, c2, c3, c4, [List.getD c3 0 0, List.getD c3 1 0, List.getD c3 2 0, List.getD c3 3 0], ())
  let z1 : (Int × PUnit × PUnit × PUnit × PUnit × PUnit × Int × PUnit × PUnit) × List UInt64 × List UInt64 × List UInt64 × List UInt64 × List UInt64 × List UInt64 × PUnit := g2_2 z0
  let z2 := z1.snd
  let z3 := z2.snd
  let z4 := z3.snd
  let z5 := z4.snd
  let z6 := z5.snd
  let z7 := z6.snd.fst
  let z8 := z3.fst
  let z9 := z4.fst
  let z10 : Nat := List.length z9
  let z11 := z6.fst
  let z12 : Nat := List.length z11
  let z13 : Bool := decide (4 ≤ z12)
  let z14 := z1.fst
  let z15 := z14.fst
  let z16 : ab := { w0 := List.getD z9 0 0, w1 := List.getD z9 1 0, w2 := List.getD z9 2 0, w3 := List.getD z9 3 0 }
  let z17 : ab := { w0 := List.getD z11 0 0, w1 := List.getD z11 1 0, w2 := List.getD z11 2 0, w3 := List.getD z11 3 0 }
  let z18 : ab × PUnit := (z17, ())
  let z19 := z5.fst
  let z20 : Nat := List.length z19
  let z21 : Bool := bT ((z15, z17, z18), ())
  let z22 : ab := { w0 := List.getD z19 0 0, w1 := List.getD z19 1 0, w2 := List.getD z19 2 0, w3 := List.getD z19 3 0 }
  let z23 : Nat := pS z15
  let z24 : ab := bG z23 z17 z17
  let z25 : Bool := decide ((4 / 1 : Nat) + 0 ≤ z12)
  let z26 : Bool := inR (z14.snd.snd.snd.snd.snd.snd.fst - (1 : Int))
  let z27 := z2.fst
  let z28 : ab := bG z23 z16 z17
  let z29 : ab := bG z23 z22 z24
  let z30 : List UInt64 := List.set (List.set (List.set (List.set z11 0 z24.w0) 1 z24.w1) 2 z24.w2) 3 z24.w3
  (.br (decide ((1 : Int) ≤ a17))
  (gd [decide (4 ≤ List.length c3), ok2 z0, decide (4 ≤ List.length z7), decide (4 ≤ List.length z8)] (.br (!(List.getD z7 0 0 == List.getD z8 0 0 && (List.getD z7 1 0 == List.getD z8 1 0 && (List.getD z7 2 0 == List.getD z8 2 0 && (List.getD z7 3 0 == List.getD z8 3 0 && true)))))
    (gd [decide (4 ≤ z10), z13, bT ((z15, z16, z18), ()), decide ((4 / 1 : Nat) + 0 ≤ z10), decide (4 ≤ z20), z13, z13, z21, bT ((z15, z22, z24, ()), ()), decide ((4 / 1 : Nat) + 0 ≤ z20), z13, z13, z21, z25, z26] (.ok (.inl ((z15, ((), ((), ((), ((), ((), (z14.snd.snd.snd.snd.snd.snd.fst - (1 : Int), ()))))))), (z27, (z8, (List.set (List.set (List.set (List.set z9 0 z28.w0) 1 z28.w1) 2 z28.w2) 3 z28.w3, (List.set (List.set (List.set (List.set z19 0 z29.w0) 1 z29.w1) 2 z29.w2) 3 z29.w3, (z30, ())))))))))
    (gd [z13, z13, z21, z25, z26] (.ok (.inl ((z15, ((), ((), ((), ((), ((), (z14.snd.snd.snd.snd.snd.snd.fst - (1 : Int), ()))))))), (z27, (z8, (z9, (z19, (z30, ())))))))))))
  (.ok (.inr ⟨(.exit 0, li), ((a0, ((), ((), ()))), (c0, (c2, ())))⟩)))
def ke (ok2 : bh → Bool) (g2_2 : bh → dm) (s : bQ) : OT (Sum bQ aL) := yY ok2 g2_2 (s.1.1) (s.1.2.2.2.2.2.2.1) (s.2.1) (s.2.2.1) (s.2.2.2.1) (s.2.2.2.2.1) (s.2.2.2.2.2.1)
theorem Y6 (ok2 : bh → Bool) (g2_2 : bh → dm) (s : bQ) (Q : Sum bQ aL → Prop) : wps te qR (bg 2 (db mz 2 ok2 (rP g2_2)) ax) 1000 (bE (al Tryz.f94) 0) (mA.inj s) (cM mA Iq (Q : Sum mA.T aL → Prop)) = (ke ok2 g2_2 s).wpR Q := by kernel_rfl
def rQ (g0_0 : bQ → gn) (s : bQ) : OT aL := (.ok ⟨(.exit 0, li), g0_0 s⟩)
def dP : aw := ⟨[.val true .elem, .val false .int], [], false⟩
def Di : SV → Option aw := fun _ => some dP
def Fx (ok2 : bh → Bool) (g2_2 : bh → dm) (ok0 : bQ → Bool) (g0_0 : bQ → gn) (a0 : Int) (a1 : ab) : OT eB.Y :=
  let z0 : Int × PUnit := (a0, ())
  let z1 : Nat := pS a0
  let z2 : ab := ofP z1 a1
  let z3 : ab := { w0 := 0, w1 := 0, w2 := 0, w3 := 0 }
  let z4 : ab × Int × UInt64 × UInt64 × ab := bJ (Int.toNat a0)
  let z5 : ab := { w0 := 1, w1 := 0, w2 := 0, w3 := 0 }
  let z6 : ab := (jV z4.fst z5).fst
  let z7 : ab := ej z6
  let z8 : ab := tX z1 z2 z7
  let z9 := z4.snd.fst
  let z10 : ab := dV z6 (Int.toNat z9)
  let z11 : ab := ej (rk z10 z5).fst
  let z12 : ab × PUnit := (z10, ())
  let z13 : ab := { w0 := 5, w1 := 0, w2 := 0, w3 := 0 }
  let z14 : ab := tX z1 z2 z11
  let z15 : ab := tX z1 z2 z10
  let z16 : ab := tX z1 z13 z10
  let z17 : (Int × PUnit × PUnit × PUnit × PUnit × PUnit × Int × PUnit) × List UInt64 × List UInt64 × List UInt64 × List UInt64 × List UInt64 × PUnit := ((a0, (), (), (), (), (), z9 - (1 : Int), ()), [(0 : UInt64), (0 : UInt64), (0 : UInt64), (0 : UInt64)], [(1 : UInt64), (0 : UInt64), (0 : UInt64), (0 : UInt64)], [z14.w0, z14.w1, z14.w2, z14.w3], [z15.w0, z15.w1, z15.w2, z15.w3], [z16.w0, z16.w1, z16.w2, z16.w3], ())
  let z18 : (Int × PUnit × PUnit × PUnit) × List UInt64 × List UInt64 × PUnit := g0_0 z17
  let z19 := z18.snd
  let z20 := z19.snd.fst
  let z21 : Nat := List.length z20
  let z22 : UInt64 := List.getD z20 0 0
  let z23 : Bool := decide (4 ≤ z21)
  let z24 := z18.fst.fst
  let z25 : ab := { w0 := z22, w1 := List.getD z20 1 0, w2 := List.getD z20 2 0, w3 := List.getD z20 3 0 }
  let z26 : ab := Jw (pS z24) z25
  let z27 : List UInt64 := List.set (List.set (List.set (List.set z20 0 z26.w0) 1 z26.w1) 2 z26.w2) 3 z26.w3
  let z28 := z19.fst
  let z29 : Nat := List.length z28
  let z30 : List UInt64 := lay z28 z27 4 (0 : UInt64)
  let z31 : List UInt64 := lay z28 z20 4 (0 : UInt64)
  (gd [uF (z0, ()), gq ((a0, a1, ()), ())] (.br (z2.w0 == (0 : UInt64) && (z2.w1 == (0 : UInt64) && (z2.w2 == (0 : UInt64) && (z2.w3 == (0 : UInt64) && true))))
  (.ok ⟨dP, ((z3, ((0 : Int), ())), ())⟩)
  (gd [iF ((a0, z2, z7, ()), ())] (.br (!(z8.w0 == (1 : UInt64) && (z8.w1 == (0 : UInt64) && (z8.w2 == (0 : UInt64) && (z8.w3 == (0 : UInt64) && true)))))
    (.ok ⟨dP, ((z3, ((22 : Int), ())), ())⟩)
    (gd [uQ (z0, ()), mG ((z6, z9, ()), ()), iF ((a0, z2, z11, ()), ()), iF ((a0, z2, z12), ()), iF ((a0, z13, z12), ()), inR (z9 - (1 : Int)), ok0 z17, decide (0 < z21)] (.br (z22 % (2 : UInt64) == (1 : UInt64))
      (gd [z23, mE ((z24, z25, ()), ()), decide ((4 / 1 : Nat) + 0 ≤ z21), decide (4 ≤ List.length z27), decide ((4 / 1 : Nat) + 0 ≤ z29), decide (4 ≤ List.length z30)] (.ok ⟨dP, (({ w0 := List.getD z30 0 0, w1 := List.getD z30 1 0, w2 := List.getD z30 2 0, w3 := List.getD z30 3 0 }, ((0 : Int), ())), ())⟩))
      (gd [z23, decide ((4 / 1 : Nat) + 0 ≤ z29), decide (4 ≤ List.length z31)] (.ok ⟨dP, (({ w0 := List.getD z31 0 0, w1 := List.getD z31 1 0, w2 := List.getD z31 2 0, w3 := List.getD z31 3 0 }, ((0 : Int), ())), ())⟩))))))))
theorem aeT (ok2 : bh → Bool) (g2_2 : bh → dm) (ok0 : bQ → Bool) (g0_0 : bQ → gn) (x : uA) (Q : eB.Y → Prop) : wpf te qR (bg 0 (db mA 0 ok0 (rQ g0_0)) ax) 1000 Tryz.f94 (eB.inp.inj x).tm (eB.inp.inj x).hp (fnK eB Di Q) (fun _ _ => False) = (Fx ok2 g2_2 ok0 g0_0 (x.1.1) (x.1.2.1)).wpR Q := by kernel_rfl
theorem Mi (ok2 : bh → Bool) (g2_2 : bh → dm) (ok0 : bQ → Bool) (g0_0 : bQ → gn) (h2 : ∀ s : bh, ok2 s = true → ∃ m e, aq (mB) m s = some e ∧ (rP g2_2 s).run = some e) (h0 : ∀ s : bQ, ok0 s = true → ∃ m e, aq (ke ok2 g2_2) m s = some e ∧ (rQ g0_0 s).run = some e) (pre : uA → Bool) (F : uA → OT eB.Y) (hF : ∀ (x : uA) oy, pre x = true → (F x).run = some oy → (Fx ok2 g2_2 ok0 g0_0 (x.1.1) (x.1.2.1)).run = some oy) : ac Tryz.prog 94 (eB.aD pre F) :=
  aB ar kT qQ (f := 94) (fn := Tryz.f94) (c := al Tryz.f94) (by kernel_rfl) (by kernel_rfl) (by kernel_rfl) (S := eB) (k := 0) (by kernel_rfl) (fun R hR => (aC (c := (al Tryz.f94)) (by kernel_rfl) (id := 0) (by kernel_rfl) (bo ar kT qQ (sh := mA) hR (xs := Iq) (aE (by kernel_rfl) (by kernel_rfl) hR) aS (aC (c := (bE (al Tryz.f94) 0)) (by kernel_rfl) (id := 2) (by kernel_rfl) (bo ar kT qQ (sh := mz) hR (xs := Ip) (aE (by kernel_rfl) (by kernel_rfl) hR) aS ag (n := 1000) (T := mB) (fun s Q => Y5 s Q) (ok := ok2) (f := rP g2_2) h2) ag) (n := 1000) (T := ke ok2 g2_2) (fun s Q => Y6 ok2 g2_2 s Q) (ok := ok0) (f := rQ g0_0) h0) ag)) (n := 1000) (sel := Di) (fun v o h => by cases h; rfl) (pre := pre) (F := F) (T := fun x => Fx ok2 g2_2 ok0 g0_0 (x.1.1) (x.1.2.1)) (fun x Q => aeT ok2 g2_2 ok0 g0_0 x Q) hF
def qk : ab := ⟨1, 0, 0, 0⟩
def sqN (p : Nat) (b : ab) (n : Nat) : ab := upto (fun _ e => bG p e e) b n
def eO (s : bh) : Bool := ak s.1.1 && decide (s.1.2.2.2.2.2.2.2.2.1 = 1 ∧ s.1.2.2.2.2.2.2.1 ≤ 1000 ∧ s.2.2.2.2.2.2.1.length = 4)
def iz (s : bh) : dm := ((s.1.1, (), (), (), (), (), s.1.2.2.2.2.2.2.1, (), ()), (s.2.1, s.2.2.1, s.2.2.2.1, s.2.2.2.2.1, s.2.2.2.2.2.1, lst (sqN (pS s.1.1) (elemOf s.2.2.2.2.2.2.1) (s.1.2.2.2.2.2.2.1 - 1).toNat), ()))
theorem Y8 : ∀ s : bh, eO s = true → ∃ m e, aq mB m s = some e ∧ (rP iz s).run = some e := by
  rintro ⟨⟨s, ⟨⟩, ⟨⟩, ⟨⟩, ⟨⟩, ⟨⟩, i, ⟨⟩, j, ⟨⟩⟩, ⟨c0, c1, c2, c3, c4, c5, ⟨⟩⟩⟩ h
  simp only [eO, Bool.and_eq_true, decide_eq_true_eq] at h
  obtain ⟨hs, rfl, hi, hl⟩ := h
  obtain ⟨t, rfl⟩ : ∃ a, c5 = lst a := ⟨elemOf c5, (aZ hl).symm⟩
  have := (bN (T := mB) (fun k t => (((s, (), (), (), (), (), i, (), 1 + (k : Int), ()), (c0, c1, c2, c3, c4, lst t, ())) : bh)) (fun _ e => bG (pS s) e e)
    (fun t => (⟨(.exit 2, lh), ((s, (), (), (), (), (), i, (), ()), (c0, c1, c2, c3, c4, lst t, ()))⟩ : aL)) (i - 1).toNat t (fun _ _ => True) trivial (fun k t hk _ => ⟨?_, trivial⟩) (fun t _ => ?_)).1
  · obtain ⟨m, hm⟩ := this
    exact ⟨m, _, hm, rfl⟩
  · have e2 : (1 : Int) + (k : Int) + 1 = 1 + ((k + 1 : Nat) : Int) := by omega
    rw [← e2]
    refine (OT.ap (decide_eq_true (by dsimp only; omega))).trans ((aj ?_).trans rfl)
    simp only [List.all_cons, List.all_nil, Bool.and_true, Bool.and_eq_true]
    exact ⟨rfl, rfl, hs, rfl, bz (by omega)⟩
  · exact OT.au (decide_eq_false (by dsimp only; omega))
abbrev Ton : Type := ab × ab × ab
def Ff (p m : Nat) (k : Nat) (w : Ton) : Ton := cond (eqE (sqN p w.2.1 (m - k - 1)) qk) (w.1, w.2.1, bG p w.2.2 w.2.2) (bG p w.1 w.2.2, bG p w.2.1 (bG p w.2.2 w.2.2), bG p w.2.2 w.2.2)
def HO (s : Int) (c0 : List UInt64) (i : Int) (w : Ton) : bQ := ((s, (), (), (), (), (), i, ()), (c0, lst qk, lst w.1, lst w.2.1, lst w.2.2, ()))
theorem acC {s : Int} (hs : ak s = true) (c0 : List UInt64) {m k : Nat} (hm : m ≤ 1000) (hk : k < m) (w : Ton) :
    (ke eO iz (HO s c0 ((m : Int) - (k : Int)) w)).run = some (.inl (HO s c0 ((m : Int) - ((k + 1 : Nat) : Int)) (Ff (pS s) m k w))) := by
  obtain ⟨x, b, z⟩ := w
  have e2 : (m : Int) - ((k + 1 : Nat) : Int) = (m : Int) - (k : Int) - 1 := by omega
  have hi : inR ((m : Int) - (k : Int) - 1) = true := bz (by omega)
  have hk2 : ((m : Int) - (k : Int) - 1).toNat = m - k - 1 := by omega
  have hg : iz ((s, (), (), (), (), (), (m : Int) - (k : Int), (), 1, ()), (c0, lst qk, lst x, lst b, lst z, lst b, ())) = ((s, (), (), (), (), (), (m : Int) - (k : Int), (), ()), (c0, lst qk, lst x, lst b, lst z, lst (sqN (pS s) b (m - k - 1)), ())) := by
    show ((s, (), (), (), (), (), (m : Int) - (k : Int), (), ()), (c0, lst qk, lst x, lst b, lst z, lst (sqN (pS s) b ((m : Int) - (k : Int) - 1).toNat), ())) = _
    rw [hk2]
  have hok : eO ((s, (), (), (), (), (), (m : Int) - (k : Int), (), 1, ()), (c0, lst qk, lst x, lst b, lst z, lst b, ())) = true :=
    (Bool.and_eq_true _ _).mpr ⟨hs, decide_eq_true (p := (1 : Int) = 1 ∧ (m : Int) - (k : Int) ≤ 1000 ∧ (lst b).length = 4) ⟨rfl, by omega, rfl⟩⟩
  have hb : [List.getD (lst b) 0 0, List.getD (lst b) 1 0, List.getD (lst b) 2 0, List.getD (lst b) 3 0] = lst b := rfl
  have hpre : ∀ x y, bT ((s, x, y, ()), ()) = true := fun _ _ => hs
  show (yY eO iz s ((m : Int) - (k : Int)) c0 (lst qk) (lst x) (lst b) (lst z)).run = _
  unfold yY
  simp only [hb, hg, hok]
  refine (OT.ap (decide_eq_true (by omega))).trans ((aj rfl).trans ?_)
  unfold Ff
  dsimp only
  rw [e2]
  generalize sqN (pS s) b (m - k - 1) = t
  rcases (Bool.eq_false_or_eq_true (eqE t qk)).symm with h | h
  · refine (OT.ap (b := !eqE t qk) (by rw [h]; rfl)).trans ((aj ?_).trans ?_)
    · simp only [akH, akN, cB, hpre, hi, List.all_cons, List.all_nil, Bool.and_true, Bool.and_eq_true]
      exact ⟨rfl, rfl, trivial, rfl, rfl, rfl, rfl, trivial, trivial, rfl, rfl, rfl, trivial, rfl⟩
    · rw [h]
      simp only [akH, akN]
      rfl
  · refine (OT.au (b := !eqE t qk) (by rw [h]; rfl)).trans ((aj ?_).trans ?_)
    · simp only [akH, akN, cB, hpre, hi, List.all_cons, List.all_nil, Bool.and_true, Bool.and_eq_true]
      exact ⟨rfl, rfl, trivial, rfl⟩
    · rw [h]
      simp only [akH, akN]
      rfl
def ame (p m : Nat) (w : Ton) : Ton := upto (Ff p m) w m
def uz (s : bQ) : Bool := ak s.1.1 && decide (0 ≤ s.1.2.2.2.2.2.2.1 ∧ s.1.2.2.2.2.2.2.1 ≤ 1000 ∧ s.2.2.1 = [1, 0, 0, 0] ∧ s.2.2.2.1.length = 4 ∧ s.2.2.2.2.1.length = 4 ∧ s.2.2.2.2.2.1.length = 4)
def yX (s : bQ) : gn := ((s.1.1, (), (), ()), (s.2.1, lst (ame (pS s.1.1) s.1.2.2.2.2.2.2.1.toNat (elemOf s.2.2.2.1, elemOf s.2.2.2.2.1, elemOf s.2.2.2.2.2.1)).1, ()))
theorem Y9 : ∀ s : bQ, uz s = true → ∃ m e, aq (ke eO iz) m s = some e ∧ (rQ yX s).run = some e := by
  rintro ⟨⟨s, ⟨⟩, ⟨⟩, ⟨⟩, ⟨⟩, ⟨⟩, i, ⟨⟩⟩, ⟨c0, c1, c2, c3, c4, ⟨⟩⟩⟩ h
  simp only [uz, Bool.and_eq_true, decide_eq_true_eq] at h
  obtain ⟨hs, h0, h1, rfl, h2, h3, h4⟩ := h
  obtain ⟨x, rfl⟩ : ∃ a, c2 = lst a := ⟨elemOf c2, (aZ h2).symm⟩
  obtain ⟨b, rfl⟩ : ∃ a, c3 = lst a := ⟨elemOf c3, (aZ h3).symm⟩
  obtain ⟨z, rfl⟩ : ∃ a, c4 = lst a := ⟨elemOf c4, (aZ h4).symm⟩
  obtain ⟨m, rfl⟩ : ∃ m : Nat, i = (m : Int) := ⟨i.toNat, by omega⟩
  have := (bN (T := ke eO iz) (fun k w => HO s c0 ((m : Int) - (k : Int)) w) (Ff (pS s) m)
    (fun w => (⟨(.exit 0, li), ((s, (), (), ()), (c0, lst w.1, ()))⟩ : aL)) m (x, b, z) (fun _ _ => True) trivial (fun k w hk _ => ⟨acC hs c0 (by omega) hk w, trivial⟩) (fun w _ => ?_)).1
  · obtain ⟨n, hn⟩ := this
    refine ⟨n, _, ?_, rfl⟩
    have e : HO s c0 ((m : Int) - ((0 : Nat) : Int)) (x, b, z) = ((s, (), (), (), (), (), (m : Int), ()), (c0, [1, 0, 0, 0], lst x, lst b, lst z, ())) := by
      rw [show (m : Int) - ((0 : Nat) : Int) = (m : Int) by omega]
      rfl
    rw [e] at hn
    exact hn
  · exact OT.au (decide_eq_false (by dsimp only [HO]; omega))
def Ud (s : Int) (a : ab) : ab := (ame (pS s) ((bJ s.toNat).2.1 - 1).toNat
  (tX (pS s) a (ej (rk (dV (jV (bJ s.toNat).1 qk).1 (bJ s.toNat).2.1.toNat) qk).1), tX (pS s) a (dV (jV (bJ s.toNat).1 qk).1 (bJ s.toNat).2.1.toNat), tX (pS s) ⟨5, 0, 0, 0⟩ (dV (jV (bJ s.toNat).1 qk).1 (bJ s.toNat).2.1.toNat))).1
def Kj (p : Nat) (x : ab) : ab := cond (x.w0 % 2 == 1) (Jw p x) x
def uy (x : uA) : Bool := ak x.1.1
def RI (x : uA) : OT eB.Y := .br (cr (ofP (pS x.1.1) x.1.2.1)) (.ok ⟨dP, ((⟨0, 0, 0, 0⟩, ((0 : Int), ())), ())⟩)
  (.br (eqE (tX (pS x.1.1) (ofP (pS x.1.1) x.1.2.1) (ej (jV (bJ x.1.1.toNat).1 qk).1)) qk) (.ok ⟨dP, ((Kj (pS x.1.1) (Ud x.1.1 (ofP (pS x.1.1) x.1.2.1)), ((0 : Int), ())), ())⟩) (.ok ⟨dP, ((⟨0, 0, 0, 0⟩, ((22 : Int), ())), ())⟩))
theorem al8 {s : Int} (hs : ak s = true) : 1 ≤ (bJ s.toNat).2.1 ∧ (bJ s.toNat).2.1 ≤ 32 := by
  rcases cz hs with rfl | rfl | rfl | rfl <;> decide
theorem Y7 : ac Tryz.prog 94 (eB.aD uy RI) := Mi eO iz uz yX Y8 Y9 _ _ fun x oy hp ho => by
  rw [← ho]
  clear ho
  obtain ⟨⟨s, a, ⟨⟩⟩, ⟨⟩⟩ := x
  have hs : ak s = true := hp
  have had := al8 hs
  show _ = (OT.br (cr (ofP (pS s) a)) (.ok ⟨dP, ((⟨0, 0, 0, 0⟩, ((0 : Int), ())), ())⟩) (.br (eqE (tX (pS s) (ofP (pS s) a) (ej (jV (bJ s.toNat).1 qk).1)) qk) (.ok ⟨dP, ((Kj (pS s) (Ud s (ofP (pS s) a)), ((0 : Int), ())), ())⟩) (.ok ⟨dP, ((⟨0, 0, 0, 0⟩, ((22 : Int), ())), ())⟩)) : OT eB.Y).run
  refine (aj ?_).trans ?_
  · simp only [List.all_cons, List.all_nil, Bool.and_true, Bool.and_eq_true]
    exact ⟨hs, hs⟩
  generalize hA : ofP (pS s) a = A
  rcases (Bool.eq_false_or_eq_true (cr A)).symm with hz | hz
  · refine Eq.trans ?_ (OT.au (b := cr A) hz).symm
    refine (OT.au hz).trans ((aj ?_).trans ?_)
    · simp only [List.all_cons, List.all_nil, Bool.and_true]
      exact hs
    · rcases (Bool.eq_false_or_eq_true (eqE (tX (pS s) A (ej (jV (bJ s.toNat).1 qk).1)) qk)).symm with h1 | h1
      · refine Eq.trans ?_ (OT.au h1).symm
        exact OT.ap (b := !eqE (tX (pS s) A (ej (jV (bJ s.toNat).1 qk).1)) qk) (by rw [h1]; rfl)
      · refine Eq.trans ?_ (OT.ap h1).symm
        refine (OT.au (b := !eqE (tX (pS s) A (ej (jV (bJ s.toNat).1 qk).1)) qk) (by rw [h1]; rfl)).trans ((aj ?_).trans ?_)
        · simp only [List.all_cons, List.all_nil, Bool.and_true, Bool.and_eq_true]
          refine ⟨hs, decide_eq_true ⟨(by show 0 ≤ (bJ s.toNat).2.1; omega), (by show (bJ s.toNat).2.1 ≤ 1000000; omega)⟩, hs, hs, hs, bz (by omega), (Bool.and_eq_true _ _).mpr ⟨hs, ?_⟩, rfl⟩
          exact decide_eq_true ⟨(by show 0 ≤ (bJ s.toNat).2.1 - 1; omega), (by show (bJ s.toNat).2.1 - 1 ≤ 1000; omega), rfl, rfl, rfl, rfl⟩
        · have hg : ∀ w x b z : ab, (yX ((s, (), (), (), (), (), (bJ s.toNat).2.1 - 1, ()), ([0, 0, 0, 0], [1, 0, 0, 0], [x.w0, x.w1, x.w2, x.w3], [b.w0, b.w1, b.w2, b.w3], [z.w0, z.w1, z.w2, z.w3], ()))) = ((s, (), (), ()), ([0, 0, 0, 0], lst (ame (pS s) ((bJ s.toNat).2.1 - 1).toNat (x, b, z)).1, ())) := fun _ _ _ _ => rfl
          simp only [hg qk]
          have hR : (ame (pS s) ((bJ s.toNat).2.1 - 1).toNat (tX (pS s) A (ej (rk (dV (jV (bJ s.toNat).1 ⟨1, 0, 0, 0⟩).1 (bJ s.toNat).2.1.toNat) ⟨1, 0, 0, 0⟩).1), tX (pS s) A (dV (jV (bJ s.toNat).1 ⟨1, 0, 0, 0⟩).1 (bJ s.toNat).2.1.toNat), tX (pS s) ⟨5, 0, 0, 0⟩ (dV (jV (bJ s.toNat).1 ⟨1, 0, 0, 0⟩).1 (bJ s.toNat).2.1.toNat))).1 = Ud s A := rfl
          simp only [hR]
          generalize Ud s A = R
          rcases (Bool.eq_false_or_eq_true (R.w0 % 2 == 1)).symm with h2 | h2
          · have e : Kj (pS s) R = R := by unfold Kj; rw [h2]; rfl
            rw [e]
            exact (OT.au h2).trans ((aj rfl).trans rfl)
          · have e : Kj (pS s) R = Jw (pS s) R := by unfold Kj; rw [h2]; rfl
            rw [e]
            refine (OT.ap h2).trans ((aj ?_).trans rfl)
            simp only [List.all_cons, List.all_nil, Bool.and_true, Bool.and_eq_true]
            exact ⟨rfl, hs, rfl, rfl, rfl, rfl⟩
  · exact (OT.ap hz).trans (OT.ap (b := cr A) hz).symm
def pT : cv := (eB.aD uy RI)
theorem Is : ac Tryz.prog 94 pT := Y7
theorem Ir : aF pT := az
def tg : Env := ay 94 pT qR
theorem qT : aQ Tryz.prog tg := ah Is kT
theorem tf : av tg := ae Ir wV
theorem Lg : aV Tryz.prog te tg := aJ follows ar qT tf
def gG : ao := ⟨[.val false .int, .val false .int], [], true, 0, false⟩
abbrev Dt : Type := ((Int) × (Int) × Unit) × (Unit)
def rW : aw := ⟨[.val true .elem], [], false⟩
def IJ : SV → Option aw := fun _ => some rW
def MF (a0 : Int) (a1 : Int) : OT gG.Y :=
  let z0 : UInt64 := i2u a1
  let z1 : ab := { w0 := z0, w1 := 0, w2 := 0, w3 := 0 }
  let z2 : Nat := pS a0
  let z3 : ab := { w0 := 0 - z0, w1 := 0, w2 := 0, w3 := 0 }
  (.br (decide ((0 : Int) ≤ a1))
  (gd [gq ((a0, z1, ()), ())] (.ok ⟨rW, ((ofP z2 z1, ()), ())⟩))
  (gd [mE ((a0, z3, ()), ())] (.ok ⟨rW, ((Jw z2 z3, ()), ())⟩)))
theorem aja (x : Dt) (Q : gG.Y → Prop) : wpf te tg ax 1000 Tryz.f108 (gG.inp.inj x).tm (gG.inp.inj x).hp (fnK gG IJ Q) (fun _ _ => False) = (MF (x.1.1) (x.1.2.1)).wpR Q := by kernel_rfl
theorem Ux (pre : Dt → Bool) (F : Dt → OT gG.Y) (hF : ∀ (x : Dt) oy, pre x = true → (F x).run = some oy → (MF (x.1.1) (x.1.2.1)).run = some oy) : ac Tryz.prog 108 (gG.aD pre F) :=
  aB ar qT Lg (f := 108) (fn := Tryz.f108) (c := al Tryz.f108) (by kernel_rfl) (by kernel_rfl) (by kernel_rfl) (S := gG) (k := 0) (by kernel_rfl) (fun R hR => ag) (n := 1000) (sel := IJ) (fun v o h => by cases h; rfl) (pre := pre) (F := F) (T := fun x => MF (x.1.1) (x.1.2.1)) (fun x Q => aja x Q) hF
def alA (p : Nat) (n : Int) : ab := cond (decide (0 ≤ n)) (ofP p ⟨i2u n, 0, 0, 0⟩) (Jw p ⟨0 - i2u n, 0, 0, 0⟩)
def zf (x : Dt) : Bool := ak x.1.1
def Zs (x : Dt) : OT gG.Y := .ok ⟨rW, ((alA (pS x.1.1) x.1.2.1, ()), ())⟩
theorem ae2 : ac Tryz.prog 108 (gG.aD zf Zs) := Ux _ _ fun x oy hp ho => by
  rw [← ho]
  clear ho
  obtain ⟨⟨s, n, ⟨⟩⟩, ⟨⟩⟩ := x
  have hs : ak s = true := hp
  show _ = some (⟨rW, ((alA (pS s) n, ()), ())⟩ : gG.Y)
  unfold alA
  rcases (Bool.eq_false_or_eq_true (decide ((0 : Int) ≤ n))).symm with h | h
  · rw [h]
    refine (OT.au h).trans ((aj ?_).trans rfl)
    simp only [List.all_cons, List.all_nil, Bool.and_true]
    exact hs
  · rw [h]
    refine (OT.ap h).trans ((aj ?_).trans rfl)
    simp only [List.all_cons, List.all_nil, Bool.and_true]
    exact hs
def uK : cv := (gG.aD zf Zs)
theorem ME : ac Tryz.prog 108 uK := ae2
theorem MD : aF uK := az
def vX : Env := ay 108 uK tg
theorem o9 : aQ Tryz.prog vX := ah ME qT
theorem xf : av vX := ae MD tf
theorem BP : aV Tryz.prog te vX := aJ follows ar o9 xf
def eZ : ao := ⟨[.val false .int, .val false .int], [], true, 0, false⟩
abbrev ur : Type := ((Int) × (Int) × Unit) × (Unit)
def my : Shape := ⟨38, [(0, .val false .int), (1, .val false .int), (4, .ptr 0 0 0)], [(0, .cells [.val false .u64, .val false .u64, .val false .u64, .val false .u64, .val false .u64, .val false .u64, .val false .u64, .val false .u64, .val false .bool])], 0, true⟩
abbrev bL : Type := ((Int) × (Int) × (Unit) × Unit) × (((UInt64) × (UInt64) × (UInt64) × (UInt64) × (UInt64) × (UInt64) × (UInt64) × (UInt64) × (Bool) × Unit) × Unit)
def fO : Shape := ⟨38, [(4, .ptr 0 0 0)], [(0, .cells [.val false .u64, .val false .u64, .val false .u64, .val false .u64, .val false .u64, .val false .u64, .val false .u64, .val false .u64, .val false .bool])], 0, true⟩
abbrev gm : Type := ((Unit) × Unit) × (((UInt64) × (UInt64) × (UInt64) × (UInt64) × (UInt64) × (UInt64) × (UInt64) × (UInt64) × (Bool) × Unit) × Unit)
def Ia : SE → Option Shape := jt [] (some fO)
def YT (a0 : Int) (a1 : Int) (c0_0 : UInt64) (c0_1 : UInt64) (c0_2 : UInt64) (c0_3 : UInt64) (c0_4 : UInt64) (c0_5 : UInt64) (c0_6 : UInt64) (c0_7 : UInt64) (c0_8 : Bool) : OT (Sum bL aL) :=
  let z0 : Nat := pS a0
  let z1 : ab := alA z0 a1
  let z2 : ab := CU z0 z1 (bS a0)
  let z3 : ab := ofP z0 z2
  let z4 : Bool := inR (a1 + (1 : Int))
  let z5 : ab := Kj z0 (Ud a0 z3)
  let z6 := z5.w0
  let z7 := z5.w1
  let z8 := z5.w2
  let z9 := z5.w3
  let z10 := z1.w0
  let z11 := z1.w1
  let z12 := z1.w2
  let z13 := z1.w3
  (gd [zf ((a0, a1, ()), ()), oc ((a0, z1, ()), ()), uy ((a0, z2, ()), ())] (.br (cr z3)
  (gd [z4] (.ok (.inl ((a0, (a1 + (1 : Int), ((), ()))), ((c0_0, (c0_1, (c0_2, (c0_3, (c0_4, (c0_5, (c0_6, (c0_7, (c0_8, ()))))))))), ())))))
  (.br (eqE (tX z0 z3 (ej (jV (bJ (Int.toNat a0)).fst qk).fst)) qk)
    (.br (!(z6 == (0 : UInt64) && (z7 == (0 : UInt64) && (z8 == (0 : UInt64) && (z9 == (0 : UInt64) && true)))))
      (.br (!(z10 == (0 : UInt64) && (z11 == (0 : UInt64) && (z12 == (0 : UInt64) && (z13 == (0 : UInt64) && true)))))
        (.ok (.inr ⟨(.ret, fO), (((), ()), ((z10, (z11, (z12, (z13, (z6, (z7, (z8, (z9, (false, ()))))))))), ()))⟩))
        (gd [z4] (.ok (.inl ((a0, (a1 + (1 : Int), ((), ()))), ((c0_0, (c0_1, (c0_2, (c0_3, (c0_4, (c0_5, (c0_6, (c0_7, (c0_8, ()))))))))), ()))))))
      (gd [z4] (.ok (.inl ((a0, (a1 + (1 : Int), ((), ()))), ((c0_0, (c0_1, (c0_2, (c0_3, (c0_4, (c0_5, (c0_6, (c0_7, (c0_8, ()))))))))), ()))))))
    (gd [z4] (.ok (.inl ((a0, (a1 + (1 : Int), ((), ()))), ((c0_0, (c0_1, (c0_2, (c0_3, (c0_4, (c0_5, (c0_6, (c0_7, (c0_8, ()))))))))), ()))))))))
def ka (s : bL) : OT (Sum bL aL) := YT (s.1.1) (s.1.2.1) (s.2.1.1) (s.2.1.2.1) (s.2.1.2.2.1) (s.2.1.2.2.2.1) (s.2.1.2.2.2.2.1) (s.2.1.2.2.2.2.2.1) (s.2.1.2.2.2.2.2.2.1) (s.2.1.2.2.2.2.2.2.2.1) (s.2.1.2.2.2.2.2.2.2.2.1)
theorem YQ (s : bL) (Q : Sum bL aL → Prop) : wps te vX ax 1000 (bE (al Tryz.f65) 0) (my.inj s) (cM my Ia (Q : Sum my.T aL → Prop)) = (ka s).wpR Q := by kernel_rfl
def rJ (g0_r : bL → gm) (s : bL) : OT aL := (.ok ⟨(.ret, fO), g0_r s⟩)
def yT : aw := ⟨[.val true (.prod .elem (.prod .elem .bool))], [], false⟩
def Dc : SV → Option aw := fun _ => some yT
def Fs (ok0 : bL → Bool) (g0_r : bL → gm) (a0 : Int) (a1 : Int) : OT eZ.Y :=
  let z0 : (Int × Int × PUnit × PUnit) × (UInt64 × UInt64 × UInt64 × UInt64 × UInt64 × UInt64 × UInt64 × UInt64 × Bool × PUnit) × PUnit := ((a0, a1, (), ()), ((0 : UInt64), (0 : UInt64), (0 : UInt64), (0 : UInt64), (0 : UInt64), (0 : UInt64), (0 : UInt64), (0 : UInt64), false, ()), ())
  let z1 := (g0_r z0).snd.fst
  let z2 := z1.snd
  let z3 := z2.snd
  let z4 := z3.snd
  let z5 := z4.snd
  let z6 := z5.snd
  let z7 := z6.snd
  let z8 := z7.snd
  (gd [ok0 z0] (.ok ⟨yT, ((({ w0 := z1.fst, w1 := z2.fst, w2 := z3.fst, w3 := z4.fst }, { w0 := z5.fst, w1 := z6.fst, w2 := z7.fst, w3 := z8.fst }, z8.snd.fst), ()), ())⟩))
theorem aeH (ok0 : bL → Bool) (g0_r : bL → gm) (x : ur) (Q : eZ.Y → Prop) : wpf te vX (bg 0 (db my 0 ok0 (rJ g0_r)) ax) 1000 Tryz.f65 (eZ.inp.inj x).tm (eZ.inp.inj x).hp (fnK eZ Dc Q) (fun _ _ => False) = (Fs ok0 g0_r (x.1.1) (x.1.2.1)).wpR Q := by kernel_rfl
theorem L6 (ok0 : bL → Bool) (g0_r : bL → gm) (h0 : ∀ s : bL, ok0 s = true → ∃ m e, aq (ka) m s = some e ∧ (rJ g0_r s).run = some e) (pre : ur → Bool) (F : ur → OT eZ.Y) (hF : ∀ (x : ur) oy, pre x = true → (F x).run = some oy → (Fs ok0 g0_r (x.1.1) (x.1.2.1)).run = some oy) : ac Tryz.prog 65 (eZ.aD pre F) :=
  aB ar o9 BP (f := 65) (fn := Tryz.f65) (c := al Tryz.f65) (by kernel_rfl) (by kernel_rfl) (by kernel_rfl) (S := eZ) (k := 0) (by kernel_rfl) (fun R hR => (aC (c := (al Tryz.f65)) (by kernel_rfl) (id := 0) (by kernel_rfl) (bo ar o9 BP (sh := my) hR (xs := Ia) (aE (by kernel_rfl) (by kernel_rfl) hR) aS ag (n := 1000) (T := ka) (fun s Q => YQ s Q) (ok := ok0) (f := rJ g0_r) h0) ag)) (n := 1000) (sel := Dc) (fun v o h => by cases h; rfl) (pre := pre) (F := F) (T := fun x => Fs ok0 g0_r (x.1.1) (x.1.2.1)) (fun x Q => aeH ok0 g0_r x Q) hF
def T8 (s n : Int) : ab := alA (pS s) n
def LU (s n : Int) : ab := ofP (pS s) (CU (pS s) (T8 s n) (bS s))
def Yy (s n : Int) : ab := Kj (pS s) (Ud s (LU s n))
def Fi (s n : Int) : Option Pt := cond (cr (LU s n)) none (cond (eqE (tX (pS s) (LU s n) (ej (jV (bJ s.toNat).1 qk).1)) qk)
  (cond (cr (Yy s n)) none (cond (cr (T8 s n)) none (some (T8 s n, Yy s n, false)))) none)
def lc (s : Int) : Nat → Int → Option Pt
  | 0, _ => none
  | k + 1, n => match Fi s n with
    | some P => some P
    | none => lc s k (n + 1)
def LS (s n : Int) (c : C9) : bL := ((s, n, (), ()), (c, ()))
theorem Yx {s n : Int} (hs : ak s = true) (h0 : 0 ≤ n) (h1 : n ≤ 1000000) (c : C9) :
    (ka (LS s n c)).run = match Fi s n with
      | some P => some (.inr ⟨(.ret, fO), (((), ()), (bf P, ()))⟩)
      | none => some (.inl (LS s (n + 1) c)) := by
  have hi : inR (n + 1) = true := bz (by omega)
  have hgd : ∀ z : OT (Sum bL aL), (gd [inR (n + 1)] z).run = z.run := fun z => aj (by simp only [hi, List.all_cons, List.all_nil, Bool.and_true])
  refine (aj (by simp only [List.all_cons, List.all_nil, Bool.and_true, Bool.and_eq_true]; exact ⟨hs, hs, hs⟩)).trans ?_
  unfold Fi
  rcases (Bool.eq_false_or_eq_true (cr (LU s n))).symm with h1 | h1
  · refine (OT.au (b := cr (LU s n)) h1).trans ?_
    rcases (Bool.eq_false_or_eq_true (eqE (tX (pS s) (LU s n) (ej (jV (bJ s.toNat).1 qk).1)) qk)).symm with h2 | h2
    · rw [h1, h2]
      exact (OT.au h2).trans (hgd _)
    · refine (OT.ap h2).trans ?_
      rcases (Bool.eq_false_or_eq_true (cr (Yy s n))).symm with h3 | h3
      · refine (OT.ap (b := !cr (Yy s n)) (by rw [h3]; rfl)).trans ?_
        rcases (Bool.eq_false_or_eq_true (cr (T8 s n))).symm with h4 | h4
        · rw [h1, h2, h3, h4]
          exact OT.ap (b := !cr (T8 s n)) (by rw [h4]; rfl)
        · rw [h1, h2, h3, h4]
          exact (OT.au (b := !cr (T8 s n)) (by rw [h4]; rfl)).trans (hgd _)
      · rw [h1, h2, h3]
        exact (OT.au (b := !cr (Yy s n)) (by rw [h3]; rfl)).trans (hgd _)
  · rw [h1]
    exact (OT.ap (b := cr (LU s n)) h1).trans (hgd _)
theorem HS {s : Int} (hs : ak s = true) (c : C9) {P : Pt} : ∀ (k : Nat) (n : Int), 0 ≤ n → n + k ≤ 1000000 → lc s k n = some P →
    ∃ m, aq ka m (LS s n c) = some ⟨(.ret, fO), (((), ()), (bf P, ()))⟩
  | 0, _, _, _, h => by cases h
  | k + 1, n, h0, h1, h => by
    have hst := Yx hs h0 (by omega) c
    unfold lc at h
    cases ho : Fi s n with
    | some Q =>
      rw [ho] at h hst
      obtain rfl := Option.some.inj h
      exact ⟨1, aI hst⟩
    | none =>
      rw [ho] at h hst
      obtain ⟨m, hm⟩ := HS hs c k (n + 1) (by omega) (by omega) h
      exact ⟨m + 1, aH hst hm⟩
def ry : Nat := 2000
def uq (s : bL) : Bool := ak s.1.1 && decide (0 ≤ s.1.2.1 ∧ s.1.2.1 ≤ 2000) && (lc s.1.1 ry s.1.2.1).isSome
def agJ (s n : Int) : Pt := (lc s ry n).getD bp
def Ie (s : bL) : gm := (((), ()), (bf (agJ s.1.1 s.1.2.1), ()))
theorem YS : ∀ s : bL, uq s = true → ∃ m e, aq ka m s = some e ∧ (rJ Ie s).run = some e := by
  rintro ⟨⟨s, n, ⟨⟩, ⟨⟩⟩, ⟨c, ⟨⟩⟩⟩ h
  simp only [uq, Bool.and_eq_true, decide_eq_true_eq] at h
  obtain ⟨⟨hs, h0, h1⟩, h2⟩ := h
  obtain ⟨P, hP⟩ := Option.isSome_iff_exists.1 h2
  obtain ⟨m, hm⟩ := HS hs c ry n h0 (by show n + ((2000 : Nat) : Int) ≤ _; omega) hP
  refine ⟨m, _, hm, ?_⟩
  show some (⟨(.ret, fO), (((), ()), (bf ((lc s ry n).getD bp), ()))⟩ : aL) = _
  rw [hP]
  rfl
def Dd (x : ur) : Bool := ak x.1.1 && decide (0 ≤ x.1.2.1 ∧ x.1.2.1 ≤ 2000) && (lc x.1.1 ry x.1.2.1).isSome
def RA (x : ur) : OT eZ.Y := .ok ⟨yT, ((agJ x.1.1 x.1.2.1, ()), ())⟩
theorem YR : ac Tryz.prog 65 (eZ.aD Dd RA) := L6 uq Ie YS _ _ fun x oy hp ho => by
  rw [← ho]
  clear ho
  obtain ⟨⟨s, n, ⟨⟩⟩, ⟨⟩⟩ := x
  refine (aj ?_).trans rfl
  simp only [List.all_cons, List.all_nil, Bool.and_true]
  exact hp
def pQ : cv := (eZ.aD Dd RA)
theorem Ic : ac Tryz.prog 65 pQ := YR
theorem Ib : aF pQ := az
def tb : Env := ay 65 pQ vX
theorem qP : aQ Tryz.prog tb := ah Ic o9
theorem ta : av tb := ae Ib xf
theorem Ld : aV Tryz.prog te tb := aJ follows ar qP ta
end Go.Proofs.YtohjofabochgfaaGreat

namespace Go.Proofs.YtohjofabochgfaaGreat
open Sx Go
abbrev gV : Pt := (⟨0, 0, 0, 0⟩, ⟨0, 0, 0, 0⟩, false)
end Go.Proofs.YtohjofabochgfaaGreat

namespace Go.Proofs.YtohjofabochgfaaGreat
open Sx Go
set_option maxRecDepth 100000
def ma : ao := ⟨[.val false .int], [], true, 0, false⟩
def Gf : aw := ⟨[.l7, .val false .int], [], false⟩
def Nr : aw := ⟨[.ptr 0 0 0, .val false .int], [(0, .cells [.val false .int, .own 1]), (1, .row xG)], false⟩
abbrev Vc : Type := ((Int) × Unit) × (Unit)
def JF : List aw := [Gf, Nr]
def Sv (a0 : Int) : OT ma.Y :=
  (.br (decide (a0 < (0 : Int)))
  (.ok ⟨Gf, (((), ((40 : Int), ())), ())⟩)
  (.br (decide ((3 : Int) < a0))
    (.ok ⟨Gf, (((), ((40 : Int), ())), ())⟩)
    (.ok ⟨Nr, (((), ((0 : Int), ())), ((a0, ((), ())), ([], ())))⟩)))
theorem aly (x : Vc) (Q : ma.Y → Prop) : wpf te tb ax 1000 Tryz.f114 (ma.inp.inj x).tm (ma.inp.inj x).hp (akP ma JF Q) (fun _ _ => False) = (Sv (x.1.1)).wpR Q := by kernel_rfl
theorem aaj (pre : Vc → Bool) (F : Vc → OT ma.Y) (hF : ∀ (x : Vc) oy, pre x = true → (F x).run = some oy → (Sv (x.1.1)).run = some oy) : ac Tryz.prog 114 (ma.aD pre F) :=
  afX ar qP Ld (f := 114) (fn := Tryz.f114) (c := al Tryz.f114) (by kernel_rfl) (by kernel_rfl) (by kernel_rfl) (S := ma) (k := 0) (by kernel_rfl) (fun R hR => ag) (n := 1000) (outs := JF) (by kernel_rfl) (pre := pre) (F := F) (T := fun x => Sv (x.1.1)) (fun x Q => aly x Q) hF
def Su (_ : Vc) : Bool := true
def agV (x : Vc) : OT ma.Y := .br (ak x.1.1) (.ok ⟨Nr, (((), ((0 : Int), ())), ((x.1.1, ((), ())), ([], ())))⟩) (.ok ⟨Gf, (((), ((40 : Int), ())), ())⟩)
theorem ajF : ac Tryz.prog 114 (ma.aD Su agV) := aaj _ _ fun x oy _ ho => by
  rw [← ho]
  clear ho
  obtain ⟨⟨s, ⟨⟩⟩, ⟨⟩⟩ := x
  show (Sv s).run = (OT.br (ak s) _ _ : OT ma.Y).run
  by_cases h0 : s < 0
  · refine (OT.ap (decide_eq_true h0)).trans (OT.au (b := ak s) ?_).symm
    simp only [ak, decide_eq_false (show ¬ (0 : Int) ≤ s by omega), Bool.false_and]
  · refine (OT.au (decide_eq_false h0)).trans ?_
    by_cases h3 : 3 < s
    · refine (OT.ap (decide_eq_true h3)).trans (OT.au (b := ak s) ?_).symm
      simp only [ak, decide_eq_false (show ¬ s < 4 by omega), Bool.and_false]
    · refine (OT.au (decide_eq_false h3)).trans (OT.ap (b := ak s) ?_).symm
      simp only [ak, decide_eq_true (show (0 : Int) ≤ s by omega), decide_eq_true (show s < 4 by omega), Bool.and_self]
def zQ : cv := (ma.aD Su agV)
theorem Vb : ac Tryz.prog 114 zQ := ajF
theorem Va : aF zQ := az
def Ln : Env := ay 114 zQ tb
theorem B4 : aQ Tryz.prog Ln := ah Vb qP
theorem B5 : av Ln := ae Va ta
theorem WH : aV Tryz.prog te Ln := aJ follows ar B4 B5
def amM (w : Sh) : CSh := .cells [.val false .int, w]
def mc : ao := ⟨[.ptr 0 0 0, .val true .elem, .val true (.prod .elem (.prod .elem .bool))], [(0, amM (.own 1)), (1, .row xG)], false, 1, true⟩
abbrev Vm : Type := ((Unit) × (ab) × ((ab × (ab × Bool))) × Unit) × (((Int) × (Unit) × Unit) × (List ((ab × (ab × (ab × Bool))))) × Unit)
def m5 : aw := ⟨[.val false .int], [(0, .cells [.val false .int, .own 1]), (1, .row (.prod .elem (.prod .elem (.prod .elem .bool))))], false⟩
def SA : SV → Option aw := fun _ => some m5
def SC (a1 : ab) (a2 : (ab × (ab × Bool))) (c0_0 : Int) (c1 : List ((ab × (ab × (ab × Bool))))) : OT mc.Y :=
  let z0 : Int := WS c0_0 (1 : Int)
  let z1 : ab := { w0 := 0, w1 := 0, w2 := 0, w3 := 0 }
  (.br (!onB c0_0 a2)
  (.ok ⟨m5, (((41 : Int), ()), ((c0_0, ((), ())), (c1, ())))⟩)
  (.br (decide ((100000 : Int) ≤ (↑(List.length c1) : Int)))
    (.ok ⟨m5, (((50 : Int), ()), ((c0_0, ((), ())), (c1, ())))⟩)
    (.br (ak z0)
      (gd [decide ((List.length c1 + 1) * 104 ≤ 140737488355328)] (.ok ⟨m5, (((0 : Int), ()), ((c0_0, ((), ())), (c1 ++ [(wR (pS z0) a1 z1, a2)], ())))⟩))
      (gd [decide ((List.length c1 + 1) * 104 ≤ 140737488355328)] (.ok ⟨m5, (((0 : Int), ()), ((c0_0, ((), ())), (c1 ++ [(z1, a2)], ())))⟩)))))
theorem alz (x : Vm) (Q : mc.Y → Prop) : wpf te Ln ax 1000 Tryz.f115 (mc.inp.inj x).tm (mc.inp.inj x).hp (fnK mc SA Q) (fun _ _ => False) = (SC (x.1.2.1) (x.1.2.2.1) (x.2.1.1) (x.2.2.1)).wpR Q := by kernel_rfl
theorem aap (pre : Vm → Bool) (F : Vm → OT mc.Y) (hF : ∀ (x : Vm) oy, pre x = true → (F x).run = some oy → (SC (x.1.2.1) (x.1.2.2.1) (x.2.1.1) (x.2.2.1)).run = some oy) : ac Tryz.prog 115 (mc.aD pre F) :=
  aB ar B4 WH (f := 115) (fn := Tryz.f115) (c := al Tryz.f115) (by kernel_rfl) (by kernel_rfl) (by kernel_rfl) (S := mc) (k := 2) (by kernel_rfl) (fun R hR => ag) (n := 1000) (sel := SA) (fun v o h => by cases h; rfl) (pre := pre) (F := F) (T := fun x => SC (x.1.2.1) (x.1.2.2.1) (x.2.1.1) (x.2.2.1)) (fun x Q => alz x Q) hF
abbrev Tm : Type := xG.T
def qm : Tm := (⟨0, 0, 0, 0⟩, ⟨0, 0, 0, 0⟩, ⟨0, 0, 0, 0⟩, false)
def H4 (l : List Tm) : Bool := decide (l.length < 100000)
def SB (_ : Vm) : Bool := true
def agW (x : Vm) : OT mc.Y := .br (onB x.2.1.1 x.1.2.2.1) (.br (H4 x.2.2.1) (.ok ⟨m5, (((0 : Int), ()), ((x.2.1.1, ((), ())), (x.2.2.1 ++ [(LZ x.2.1.1 x.1.2.1, x.1.2.2.1)], ())))⟩)
  (.ok ⟨m5, (((50 : Int), ()), ((x.2.1.1, ((), ())), (x.2.2.1, ())))⟩)) (.ok ⟨m5, (((41 : Int), ()), ((x.2.1.1, ((), ())), (x.2.2.1, ())))⟩)
theorem ajG : ac Tryz.prog 115 (mc.aD SB agW) := aap _ _ fun x oy _ ho => by
  rw [← ho]
  clear ho
  obtain ⟨⟨⟨⟩, k, P, ⟨⟩⟩, ⟨⟨c, ⟨⟩, ⟨⟩⟩, l, ⟨⟩⟩⟩ := x
  show (SC k P c l).run = (OT.br (onB c P) (.br (H4 l) _ _) _ : OT mc.Y).run
  rcases (Bool.eq_false_or_eq_true (onB c P)).symm with h | h
  · exact (OT.ap (b := !onB c P) (by rw [h]; rfl)).trans (OT.au (b := onB c P) h).symm
  · refine (OT.au (b := !onB c P) (by rw [h]; rfl)).trans (Eq.trans ?_ (OT.ap (b := onB c P) h).symm)
    rcases (Bool.eq_false_or_eq_true (H4 l)).symm with h2 | h2
    · have h3 := of_decide_eq_false h2
      exact (OT.ap (decide_eq_true (by omega))).trans (OT.au (b := H4 l) h2).symm
    · have h3 := of_decide_eq_true h2
      refine (OT.au (decide_eq_false (by omega))).trans (Eq.trans ?_ (OT.ap (b := H4 l) h2).symm)
      refine (OT.ap (ue (yf h))).trans ((aj ?_).trans rfl)
      simp only [List.all_cons, List.all_nil, Bool.and_true]
      exact decide_eq_true (by omega)
def Ai : cv := (mc.aD SB agW)
theorem Vl : ac Tryz.prog 115 Ai := ajG
theorem Vk : aF Ai := az
def EY : Env := ay 115 Ai Ln
theorem tD : aQ Tryz.prog EY := ah Vl B4
theorem B6 : av EY := ae Vk B5
theorem EX : aV Tryz.prog te EY := aJ follows ar tD B6
def dT : ao := ⟨[.val false .int, .val false (.list xG)], [], true, 0, false⟩
abbrev oI : Type := ((Int) × (List ((ab × (ab × (ab × Bool))))) × Unit) × (Unit)
def ky : Shape := ⟨26, [(0, .val false .int), (4, .ptr 0 0 0), (5, .ptr 1 0 0), (9, .val false (.list (.prod .elem (.prod .elem (.prod .elem .bool))))), (10, .val false .int), (11, .val false .int)], [(0, .cells [.val false .u64, .val false .u64, .val false .u64, .val false .u64, .val false .u64, .val false .u64, .val false .u64, .val false .u64, .val false .bool]), (1, .cells [.val false .u64, .val false .u64, .val false .u64, .val false .u64, .val false .u64, .val false .u64, .val false .u64, .val false .u64, .val false .bool])], 0, true⟩
abbrev bB : Type := ((Int) × (Unit) × (Unit) × (List ((ab × (ab × (ab × Bool))))) × (Int) × (Int) × Unit) × (((UInt64) × (UInt64) × (UInt64) × (UInt64) × (UInt64) × (UInt64) × (UInt64) × (UInt64) × (Bool) × Unit) × ((UInt64) × (UInt64) × (UInt64) × (UInt64) × (UInt64) × (UInt64) × (UInt64) × (UInt64) × (Bool) × Unit) × Unit)
def jJ : Shape := ⟨26, [(4, .ptr 0 0 0), (5, .ptr 1 0 0)], [(0, .cells [.val false .u64, .val false .u64, .val false .u64, .val false .u64, .val false .u64, .val false .u64, .val false .u64, .val false .u64, .val false .bool]), (1, .cells [.val false .u64, .val false .u64, .val false .u64, .val false .u64, .val false .u64, .val false .u64, .val false .u64, .val false .u64, .val false .bool])], 0, true⟩
abbrev fq : Type := ((Unit) × (Unit) × Unit) × (((UInt64) × (UInt64) × (UInt64) × (UInt64) × (UInt64) × (UInt64) × (UInt64) × (UInt64) × (Bool) × Unit) × ((UInt64) × (UInt64) × (UInt64) × (UInt64) × (UInt64) × (UInt64) × (UInt64) × (UInt64) × (Bool) × Unit) × Unit)
def D3 : SE → Option Shape := jt [(0, jJ)] none
def U9 (a0 : Int) (a9 : List ((ab × (ab × (ab × Bool))))) (a10 : Int) (a11 : Int) (c0_0 : UInt64) (c0_1 : UInt64) (c0_2 : UInt64) (c0_3 : UInt64) (c0_4 : UInt64) (c0_5 : UInt64) (c0_6 : UInt64) (c0_7 : UInt64) (c0_8 : Bool) (c1_0 : UInt64) (c1_1 : UInt64) (c1_2 : UInt64) (c1_3 : UInt64) (c1_4 : UInt64) (c1_5 : UInt64) (c1_6 : UInt64) (c1_7 : UInt64) (c1_8 : Bool) : OT (Sum bB aL) :=
  let z0 : ab := { w0 := 0, w1 := 0, w2 := 0, w3 := 0 }
  let z1 : ab × ab × ab × Bool := List.getD a9 (Int.toNat a11) (z0, z0, z0, false)
  let z2 : ab × ab × Bool := hX a0 ({ w0 := c1_0, w1 := c1_1, w2 := c1_2, w3 := c1_3 }, { w0 := c1_4, w1 := c1_5, w2 := c1_6, w3 := c1_7 }, c1_8) (Jz a0 z1.fst z1.snd)
  let z3 := z2.fst
  let z4 := z2.snd
  let z5 := z4.fst
  (.br (decide (a11 < a10))
  (gd [inB a11 (List.length a9), inR (a11 + (1 : Int))] (.ok (.inl ((a0, ((), ((), (a9, (a10, (a11 + (1 : Int), ())))))), ((c0_0, (c0_1, (c0_2, (c0_3, (c0_4, (c0_5, (c0_6, (c0_7, (c0_8, ()))))))))), ((z3.w0, (z3.w1, (z3.w2, (z3.w3, (z5.w0, (z5.w1, (z5.w2, (z5.w3, (z4.snd, ()))))))))), ()))))))
  (.ok (.inr ⟨(.exit 0, jJ), (((), ((), ())), ((c0_0, (c0_1, (c0_2, (c0_3, (c0_4, (c0_5, (c0_6, (c0_7, (c0_8, ()))))))))), ((c1_0, (c1_1, (c1_2, (c1_3, (c1_4, (c1_5, (c1_6, (c1_7, (c1_8, ()))))))))), ())))⟩)))
def kz (s : bB) : OT (Sum bB aL) := U9 (s.1.1) (s.1.2.2.2.1) (s.1.2.2.2.2.1) (s.1.2.2.2.2.2.1) (s.2.1.1) (s.2.1.2.1) (s.2.1.2.2.1) (s.2.1.2.2.2.1) (s.2.1.2.2.2.2.1) (s.2.1.2.2.2.2.2.1) (s.2.1.2.2.2.2.2.2.1) (s.2.1.2.2.2.2.2.2.2.1) (s.2.1.2.2.2.2.2.2.2.2.1) (s.2.2.1.1) (s.2.2.1.2.1) (s.2.2.1.2.2.1) (s.2.2.1.2.2.2.1) (s.2.2.1.2.2.2.2.1) (s.2.2.1.2.2.2.2.2.1) (s.2.2.1.2.2.2.2.2.2.1) (s.2.2.1.2.2.2.2.2.2.2.1) (s.2.2.1.2.2.2.2.2.2.2.2.1)
theorem U6 (s : bB) (Q : Sum bB aL → Prop) : wps te EY ax 1000 (bE (al Tryz.f160) 0) (ky.inj s) (cM ky D3 (Q : Sum ky.T aL → Prop)) = (kz s).wpR Q := by kernel_rfl
def oH (g0_0 : bB → fq) (s : bB) : OT aL := (.ok ⟨(.exit 0, jJ), g0_0 s⟩)
def vj : aw := ⟨[.val true (.prod .elem (.prod .elem .bool))], [], false⟩
def zN : SV → Option aw := fun _ => some vj
def zP (ok0 : bB → Bool) (g0_0 : bB → fq) (a0 : Int) (a1 : List ((ab × (ab × (ab × Bool))))) : OT dT.Y :=
  let z0 : (Int × PUnit × PUnit × List (ab × ab × ab × Bool) × Int × Int × PUnit) × (UInt64 × UInt64 × UInt64 × UInt64 × UInt64 × UInt64 × UInt64 × UInt64 × Bool × PUnit) × (UInt64 × UInt64 × UInt64 × UInt64 × UInt64 × UInt64 × UInt64 × UInt64 × Bool × PUnit) × PUnit := ((a0, (), (), a1, (↑(List.length a1) : Int), (0 : Int), ()), ((0 : UInt64), (0 : UInt64), (0 : UInt64), (0 : UInt64), (0 : UInt64), (0 : UInt64), (0 : UInt64), (0 : UInt64), false, ()), ((0 : UInt64), (0 : UInt64), (0 : UInt64), (0 : UInt64), (0 : UInt64), (0 : UInt64), (0 : UInt64), (0 : UInt64), true, ()), ())
  let z1 := (g0_0 z0).snd.snd.fst
  let z2 := z1.snd
  let z3 := z2.snd
  let z4 := z3.snd
  let z5 := z4.snd
  let z6 := z5.snd
  let z7 := z6.snd
  let z8 := z7.snd
  (gd [ok0 z0] (.ok ⟨vj, ((({ w0 := z1.fst, w1 := z2.fst, w2 := z3.fst, w3 := z4.fst }, { w0 := z5.fst, w1 := z6.fst, w2 := z7.fst, w3 := z8.fst }, z8.snd.fst), ()), ())⟩))
theorem aag (ok0 : bB → Bool) (g0_0 : bB → fq) (x : oI) (Q : dT.Y → Prop) : wpf te EY (bg 0 (db ky 0 ok0 (oH g0_0)) ax) 1000 Tryz.f160 (dT.inp.inj x).tm (dT.inp.inj x).hp (fnK dT zN Q) (fun _ _ => False) = (zP ok0 g0_0 (x.1.1) (x.1.2.1)).wpR Q := by kernel_rfl
theorem JD (ok0 : bB → Bool) (g0_0 : bB → fq) (h0 : ∀ s : bB, ok0 s = true → ∃ m e, aq (kz) m s = some e ∧ (oH g0_0 s).run = some e) (pre : oI → Bool) (F : oI → OT dT.Y) (hF : ∀ (x : oI) oy, pre x = true → (F x).run = some oy → (zP ok0 g0_0 (x.1.1) (x.1.2.1)).run = some oy) : ac Tryz.prog 160 (dT.aD pre F) :=
  aB ar tD EX (f := 160) (fn := Tryz.f160) (c := al Tryz.f160) (by kernel_rfl) (by kernel_rfl) (by kernel_rfl) (S := dT) (k := 0) (by kernel_rfl) (fun R hR => (aC (c := (al Tryz.f160)) (by kernel_rfl) (id := 0) (by kernel_rfl) (bo ar tD EX (sh := ky) hR (xs := D3) (aE (by kernel_rfl) (by kernel_rfl) hR) aS ag (n := 1000) (T := kz) (fun s Q => U6 s Q) (ok := ok0) (f := oH g0_0) h0) ag)) (n := 1000) (sel := zN) (fun v o h => by cases h; rfl) (pre := pre) (F := F) (T := fun x => zP ok0 g0_0 (x.1.1) (x.1.2.1)) (fun x Q => aag ok0 g0_0 x Q) hF
def C6 (c : Int) (l : List Tm) (k : Nat) (O : Pt) : Pt := hX c O (Jz c (l.getD k qm).1 (l.getD k qm).2)
def rA (c : Int) (l : List Tm) : Pt := upto (C6 c l) bp l.length
def zO (s : bB) : Bool := decide (s.1.2.2.2.2.1 = (s.1.2.2.2.1.length : Int) ∧ s.1.2.2.2.2.2.1 = 0 ∧ j1 s.2.2.1 = bp ∧ s.1.2.2.2.1.length ≤ 140737488355328)
def D4 (s : bB) : fq := (((), (), ()), (s.2.1, bf (rA s.1.1 s.1.2.2.2.1), ()))
theorem U8 : ∀ s : bB, zO s = true → ∃ m e, aq kz m s = some e ∧ (oH D4 s).run = some e := by
  rintro ⟨⟨c, ⟨⟩, ⟨⟩, l, n, i, ⟨⟩⟩, ⟨c0, c1, ⟨⟩⟩⟩ h
  have h' := of_decide_eq_true h
  dsimp only at h'
  obtain ⟨rfl, rfl, hO, hl⟩ := h'
  have hO2 : c1 = bf bp := by rw [← hO]; rfl
  subst hO2
  have := (bN (T := kz) (fun i O => (((c, (), (), l, (l.length : Int), (i : Int), ()), (c0, bf O, ())) : bB)) (C6 c l)
    (fun O => (⟨(.exit 0, jJ), (((), (), ()), (c0, bf O, ()))⟩ : aL)) l.length bp (fun _ _ => True) trivial (fun k O hk _ => ⟨?_, trivial⟩) (fun O _ => ?_)).1
  · obtain ⟨m, hm⟩ := this
    exact ⟨m, _, hm, rfl⟩
  · refine (OT.ap (decide_eq_true (by dsimp only; omega))).trans ((aj ?_).trans ?_)
    · simp only [List.all_cons, List.all_nil, Bool.and_true, Bool.and_eq_true]
      exact ⟨bF (by omega), bz (by omega)⟩
    · simp only [OT.jx, Int.toNat_natCast]
      rfl
  · exact OT.au (decide_eq_false (by dsimp only; omega))
def qq (x : oI) : Bool := decide (x.1.2.1.length ≤ 140737488355328)
def JE (x : oI) : OT dT.Y := .ok ⟨vj, ((rA x.1.1 x.1.2.1, ()), ())⟩
theorem U7 : ac Tryz.prog 160 (dT.aD qq JE) := JD zO D4 U8 _ _ fun x oy hp ho => by
  rw [← ho]
  clear ho
  obtain ⟨⟨c, l, ⟨⟩⟩, ⟨⟩⟩ := x
  have hl : l.length ≤ 140737488355328 := of_decide_eq_true hp
  refine (aj ?_).trans rfl
  simp only [List.all_cons, List.all_nil, Bool.and_true]
  exact decide_eq_true ⟨rfl, rfl, rfl, hl⟩
def mX : cv := (dT.aD qq JE)
theorem Gc : ac Tryz.prog 160 mX := U7
theorem Gb : aF mX := az
def nR : Env := ay 160 mX EY
theorem nQ : aQ Tryz.prog nR := ah Gc tD
theorem pE : av nR := ae Gb B6
theorem Hz : aV Tryz.prog te nR := aJ follows ar nQ pE
def iQ : ao := ⟨[.val true xG, .ptr 0 0 0], [(0, .cells [.val false .int])], false, 1, true⟩
abbrev D1 : Type := (((ab × (ab × (ab × Bool)))) × (Unit) × Unit) × (((Int) × Unit) × Unit)
def F6 : aw := ⟨[.val false .bool], [(0, .cells [.val false .int])], false⟩
def JA : SV → Option aw := fun _ => some F6
def Nk (a0 : (ab × (ab × (ab × Bool)))) (c0_0 : Int) : OT iQ.Y :=
  (.ok ⟨F6, ((pw a0.fst c0_0, ()), ((c0_0, ()), ()))⟩)
theorem ajw (x : D1) (Q : iQ.Y → Prop) : wpf te nR ax 1000 Tryz.f169 (iQ.inp.inj x).tm (iQ.inp.inj x).hp (fnK iQ JA Q) (fun _ _ => False) = (Nk (x.1.1) (x.2.1.1)).wpR Q := by kernel_rfl
theorem U0 (pre : D1 → Bool) (F : D1 → OT iQ.Y) (hF : ∀ (x : D1) oy, pre x = true → (F x).run = some oy → (Nk (x.1.1) (x.2.1.1)).run = some oy) : ac Tryz.prog 169 (iQ.aD pre F) :=
  aB ar nQ Hz (f := 169) (fn := Tryz.f169) (c := al Tryz.f169) (by kernel_rfl) (by kernel_rfl) (by kernel_rfl) (S := iQ) (k := 1) (by kernel_rfl) (fun R hR => ag) (n := 1000) (sel := JA) (fun v o h => by cases h; rfl) (pre := pre) (F := F) (T := fun x => Nk (x.1.1) (x.2.1.1)) (fun x Q => ajw x Q) hF
def JB (_ : D1) : Bool := true
def aac (x : D1) : OT iQ.Y := .ok ⟨F6, ((pw x.1.1.1 x.2.1.1, ()), ((x.2.1.1, ()), ()))⟩
theorem afw : ac Tryz.prog 169 (iQ.aD JB aac) := U0 _ _ fun x oy hp ho => by
  rw [← ho]
  rfl
def vf : cv := (iQ.aD JB aac)
theorem Nj : ac Tryz.prog 169 vf := afw
theorem Ni : aF vf := az
def wa : Env := ay 169 vf nR
theorem pf : aQ Tryz.prog wa := ah Nj nQ
theorem xq : av wa := ae Ni pE
theorem B0 : aV Tryz.prog te wa := aJ follows ar pf xq
def dz : ao := ⟨[.val false (.list xG), .fn 169 [0]], [(0, .cells [.val false .int])], true, 1, true⟩
abbrev oK : Type := ((List ((ab × (ab × (ab × Bool))))) × (Unit) × Unit) × (((Int) × Unit) × Unit)
def kA : Shape := ⟨19, [(0, .val false (.list (.prod .elem (.prod .elem (.prod .elem .bool))))), (1, .fn 169 [0]), (7, .val false .int), (8, .val false .int)], [(0, .cells [.val false .int])], 1, true⟩
abbrev aN : Type := ((List ((ab × (ab × (ab × Bool))))) × (Unit) × (Int) × (Int) × Unit) × (((Int) × Unit) × Unit)
def jK : Shape := ⟨19, [(4, .val false .int)], [(0, .cells [.val false .int])], 1, true⟩
abbrev ft : Type := ((Int) × Unit) × (((Int) × Unit) × Unit)
def jL : Shape := ⟨19, [], [(0, .cells [.val false .int])], 1, true⟩
abbrev fu : Type := (Unit) × (((Int) × Unit) × Unit)
def D5 : SE → Option Shape := jt [(0, jL)] (some jK)
def Vh (a0 : List ((ab × (ab × (ab × Bool))))) (a7 : Int) (a8 : Int) (c0_0 : Int) : OT (Sum aN aL) :=
  let z0 : ab := { w0 := 0, w1 := 0, w2 := 0, w3 := 0 }
  (.br (decide (a8 < a7))
  (gd [inB a8 (List.length a0)] (.br (pw (List.getD a0 (Int.toNat a8) (z0, z0, z0, false)).fst c0_0)
    (.ok (.inr ⟨(.ret, jK), ((a8, ()), ((c0_0, ()), ()))⟩))
    (gd [inR (a8 + (1 : Int))] (.ok (.inl ((a0, ((), (a7, (a8 + (1 : Int), ())))), ((c0_0, ()), ())))))))
  (.ok (.inr ⟨(.exit 0, jL), ((), ((c0_0, ()), ()))⟩)))
def kB (s : aN) : OT (Sum aN aL) := Vh (s.1.1) (s.1.2.2.1) (s.1.2.2.2.1) (s.2.1.1)
theorem Ve (s : aN) (Q : Sum aN aL → Prop) : wps te wa ax 1000 (bE (al Tryz.f171) 0) (kA.inj s) (cM kA D5 (Q : Sum kA.T aL → Prop)) = (kB s).wpR Q := by kernel_rfl
def oJ (g0_r : aN → ft) (c0_r : aN → Bool) (g0_0 : aN → fu) (s : aN) : OT aL := (.br (c0_r s) (.ok ⟨(.ret, jK), g0_r s⟩) (.ok ⟨(.exit 0, jL), g0_0 s⟩))
def fU : aw := ⟨[.val false .int], [(0, .cells [.val false .int])], false⟩
def zS : SV → Option aw := fun _ => some fU
def zV (ok0 : aN → Bool) (g0_r : aN → ft) (c0_r : aN → Bool) (g0_0 : aN → fu) (a0 : List ((ab × (ab × (ab × Bool))))) (c0_0 : Int) : OT dz.Y :=
  let z0 : (List (ab × ab × ab × Bool) × PUnit × Int × Int × PUnit) × (Int × PUnit) × PUnit := ((a0, (), (↑(List.length a0) : Int), (0 : Int), ()), (c0_0, ()), ())
  let z1 : (Int × PUnit) × (Int × PUnit) × PUnit := g0_r z0
  (gd [ok0 z0] (.br (c0_r z0)
  (.ok ⟨fU, ((z1.fst.fst, ()), ((z1.snd.fst.fst, ()), ()))⟩)
  (.ok ⟨fU, (((-1 : Int), ()), (((g0_0 z0).snd.fst.fst, ()), ()))⟩)))
theorem aal (ok0 : aN → Bool) (g0_r : aN → ft) (c0_r : aN → Bool) (g0_0 : aN → fu) (x : oK) (Q : dz.Y → Prop) : wpf te wa (bg 0 (db kA 0 ok0 (oJ g0_r c0_r g0_0)) ax) 1000 Tryz.f171 (dz.inp.inj x).tm (dz.inp.inj x).hp (fnK dz zS Q) (fun _ _ => False) = (zV ok0 g0_r c0_r g0_0 (x.1.1) (x.2.1.1)).wpR Q := by kernel_rfl
theorem JG (ok0 : aN → Bool) (g0_r : aN → ft) (c0_r : aN → Bool) (g0_0 : aN → fu) (h0 : ∀ s : aN, ok0 s = true → ∃ m e, aq (kB) m s = some e ∧ (oJ g0_r c0_r g0_0 s).run = some e) (pre : oK → Bool) (F : oK → OT dz.Y) (hF : ∀ (x : oK) oy, pre x = true → (F x).run = some oy → (zV ok0 g0_r c0_r g0_0 (x.1.1) (x.2.1.1)).run = some oy) : ac Tryz.prog 171 (dz.aD pre F) :=
  aB ar pf B0 (f := 171) (fn := Tryz.f171) (c := al Tryz.f171) (by kernel_rfl) (by kernel_rfl) (by kernel_rfl) (S := dz) (k := 1) (by kernel_rfl) (fun R hR => (aC (c := (al Tryz.f171)) (by kernel_rfl) (id := 0) (by kernel_rfl) (bo ar pf B0 (sh := kA) hR (xs := D5) (aE (by kernel_rfl) (by kernel_rfl) hR) aS ag (n := 1000) (T := kB) (fun s Q => Ve s Q) (ok := ok0) (f := oJ g0_r c0_r g0_0) h0) ag)) (n := 1000) (sel := zS) (fun v o h => by cases h; rfl) (pre := pre) (F := F) (T := fun x => zV ok0 g0_r c0_r g0_0 (x.1.1) (x.2.1.1)) (fun x Q => aal ok0 g0_r c0_r g0_0 x Q) hF
def sK (l : List Tm) (i : Int) : Nat → Nat → Int
  | 0, _ => -1
  | n + 1, k => cond (pw (l.getD k qm).1 i) (k : Int) (sK l i n (k + 1))
def zT (s : aN) : Bool := decide (s.1.2.2.1 = (s.1.1.length : Int) ∧ s.1.2.2.2.1 = 0 ∧ s.1.1.length ≤ 140737488355328)
def gM (l : List Tm) (i : Int) : Int := sK l i l.length 0
def zU (s : aN) : ft := ((gM s.1.1 s.2.1.1, ()), s.2)
def D7 (s : aN) : Bool := decide (0 ≤ gM s.1.1 s.2.1.1)
def D6 (s : aN) : fu := ((), s.2)
def JV (l : List Tm) (i k : Int) : aN := ((l, (), (l.length : Int), k, ()), ((i, ()), ()))
theorem Kc (l : List Tm) (i : Int) : ∀ n k, sK l i n k = -1 ∨ 0 ≤ sK l i n k
  | 0, _ => .inl rfl
  | n + 1, k => by
    unfold sK
    cases pw (l.getD k qm).1 i
    · exact Kc l i n (k + 1)
    · right
      show (0 : Int) ≤ (k : Int)
      omega
theorem SI (l : List Tm) (i : Int) (hl : l.length ≤ 140737488355328) : ∀ n k : Nat, k + n = l.length →
    ∃ m, aq kB m (JV l i (k : Int)) = some (cond (decide (0 ≤ sK l i n k)) ⟨(.ret, jK), ((sK l i n k, ()), ((i, ()), ()))⟩ ⟨(.exit 0, jL), ((), ((i, ()), ()))⟩)
  | 0, k, h => ⟨1, aI (OT.au (decide_eq_false (by dsimp only [JV]; omega)))⟩
  | n + 1, k, h => by
    have hin : inB (k : Int) l.length = true := bF (by omega)
    have hgd : ∀ z : OT (Sum aN aL), (gd [inB (k : Int) l.length] z).run = z.run := fun z => aj (by rw [hin]; rfl)
    unfold sK
    rcases (Bool.eq_false_or_eq_true (pw (l.getD k qm).1 i)).symm with hb | hb
    · obtain ⟨m, hm⟩ := SI l i hl n (k + 1) (by omega)
      rw [hb]
      refine ⟨m + 1, aH ?_ hm⟩
      refine (OT.ap (decide_eq_true (by dsimp only [JV]; omega))).trans ((hgd _).trans ((OT.au hb).trans ((aj ?_).trans rfl)))
      simp only [List.all_cons, List.all_nil, Bool.and_true]
      exact bz (by dsimp only [JV]; omega)
    · rw [hb]
      have e : decide ((0 : Int) ≤ cond true (k : Int) (sK l i n (k + 1))) = true := decide_eq_true (by show (0 : Int) ≤ (k : Int); omega)
      rw [e]
      refine ⟨1, aI ?_⟩
      exact (OT.ap (decide_eq_true (by dsimp only [JV]; omega))).trans ((hgd _).trans ((OT.ap hb).trans rfl))
theorem Vg : ∀ s : aN, zT s = true → ∃ m e, aq kB m s = some e ∧ (oJ zU D7 D6 s).run = some e := by
  rintro ⟨⟨l, ⟨⟩, n, k, ⟨⟩⟩, ⟨⟨i, ⟨⟩⟩, ⟨⟩⟩⟩ h
  have h' := of_decide_eq_true h
  dsimp only at h'
  obtain ⟨rfl, rfl, hl⟩ := h'
  obtain ⟨m, hm⟩ := SI l i hl l.length 0 (by omega)
  refine ⟨m, _, hm, ?_⟩
  show (OT.br (decide (0 ≤ gM l i)) _ _ : OT aL).run = some (cond (decide (0 ≤ gM l i)) _ _)
  cases decide (0 ≤ gM l i) <;> rfl
def qs (x : oK) : Bool := decide (x.1.1.length ≤ 140737488355328)
def JH (x : oK) : OT dz.Y := .ok ⟨fU, ((gM x.1.1 x.2.1.1, ()), x.2)⟩
theorem Vf : ac Tryz.prog 171 (dz.aD qs JH) := JG zT zU D7 D6 Vg _ _ fun x oy hp ho => by
  rw [← ho]
  clear ho
  obtain ⟨⟨l, ⟨⟩, ⟨⟩⟩, ⟨⟨i, ⟨⟩⟩, ⟨⟩⟩⟩ := x
  have hl : l.length ≤ 140737488355328 := of_decide_eq_true hp
  refine (aj ?_).trans ?_
  · simp only [List.all_cons, List.all_nil, Bool.and_true]
    exact decide_eq_true ⟨rfl, rfl, hl⟩
  · show (OT.br (decide (0 ≤ gM l i)) (.ok ⟨fU, ((gM l i, ()), ((i, ()), ()))⟩) (.ok ⟨fU, (((-1 : Int), ()), ((i, ()), ()))⟩) : OT dz.Y).run = some ⟨fU, ((gM l i, ()), ((i, ()), ()))⟩
    rcases Kc l i l.length 0 with h | h
    · have h : gM l i = -1 := h
      rw [h]
      rfl
    · exact OT.ap (decide_eq_true h)
def mY : cv := (dz.aD qs JH)
theorem Gh : ac Tryz.prog 171 mY := Vf
theorem Gg : aF mY := az
def nT : Env := ay 171 mY wa
theorem nS : aQ Tryz.prog nT := ah Gh pf
theorem pF : av nT := ae Gg xq
theorem HA : aV Tryz.prog te nT := aJ follows ar nS pF
def fv : ao := ⟨[.val false (.list xG), .fn 169 [0]], [(0, .cells [.val false .int])], true, 1, true⟩
abbrev vk : Type := ((List ((ab × (ab × (ab × Bool))))) × (Unit) × Unit) × (((Int) × Unit) × Unit)
def zW : aw := ⟨[.val false .bool], [(0, .cells [.val false .int])], false⟩
def D9 : SV → Option aw := fun _ => some zW
def Gi (a0 : List ((ab × (ab × (ab × Bool))))) (c0_0 : Int) : OT fv.Y :=
  (gd [qs ((a0, (), ()), (c0_0, ()), ())] (.ok ⟨zW, ((decide ((0 : Int) ≤ gM a0 c0_0), ()), ((c0_0, ()), ()))⟩))
theorem afH (x : vk) (Q : fv.Y → Prop) : wpf te nT ax 1000 Tryz.f168 (fv.inp.inj x).tm (fv.inp.inj x).hp (fnK fv D9 Q) (fun _ _ => False) = (Gi (x.1.1) (x.2.1.1)).wpR Q := by kernel_rfl
theorem Ns (pre : vk → Bool) (F : vk → OT fv.Y) (hF : ∀ (x : vk) oy, pre x = true → (F x).run = some oy → (Gi (x.1.1) (x.2.1.1)).run = some oy) : ac Tryz.prog 168 (fv.aD pre F) :=
  aB ar nS HA (f := 168) (fn := Tryz.f168) (c := al Tryz.f168) (by kernel_rfl) (by kernel_rfl) (by kernel_rfl) (S := fv) (k := 1) (by kernel_rfl) (fun R hR => ag) (n := 1000) (sel := D9) (fun v o h => by cases h; rfl) (pre := pre) (F := F) (T := fun x => Gi (x.1.1) (x.2.1.1)) (fun x Q => afH x Q) hF
def al7 (l : List Tm) (i : Int) : Bool := decide (0 ≤ gM l i)
def oL (x : vk) : Bool := decide (x.1.1.length ≤ 140737488355328)
def Sy (x : vk) : OT fv.Y := .ok ⟨zW, ((al7 x.1.1 x.2.1.1, ()), x.2)⟩
theorem aao : ac Tryz.prog 168 (fv.aD oL Sy) := Ns _ _ fun x oy hp ho => by
  rw [← ho]
  clear ho
  refine (aj ?_).trans rfl
  simp only [List.all_cons, List.all_nil, Bool.and_true]
  exact hp
def qt : cv := (fv.aD oL Sy)
theorem JJ : ac Tryz.prog 168 qt := aao
theorem JI : aF qt := az
def pg : Env := ay 168 qt nT
theorem lX : aQ Tryz.prog pg := ah JJ nS
theorem tC : av pg := ae JI pF
theorem xt : aV Tryz.prog te pg := aJ follows ar lX tC
def l8 : ao := ⟨[.val false (.list xG)], [], true, 0, false⟩
abbrev UZ : Type := ((List ((ab × (ab × (ab × Bool))))) × Unit) × (Unit)
def zI : Shape := ⟨14, [(0, .val false (.list (.prod .elem (.prod .elem (.prod .elem .bool))))), (3, .ptr 0 0 0)], [(0, .cells [.val false .int])], 0, true⟩
abbrev bD : Type := ((List ((ab × (ab × (ab × Bool))))) × (Unit) × Unit) × (((Int) × Unit) × Unit)
def sj : Shape := ⟨14, [(2, .val false .int)], [], 0, true⟩
abbrev ku : Type := ((Int) × Unit) × (Unit)
def sk : Shape := ⟨14, [], [], 0, true⟩
abbrev kv : Type := (Unit) × (Unit)
def Z7 : SE → Option Shape := jt [(0, sk)] (some sj)
def ajv (a0 : List ((ab × (ab × (ab × Bool))))) (c0_0 : Int) : OT (Sum bD aL) :=
  (.br (decide ((0 : Int) ≤ c0_0))
  (gd [oL ((a0, (), ()), (c0_0, ()), ())] (.br (al7 a0 c0_0)
    (gd [inR (c0_0 + (1 : Int))] (.ok (.inr ⟨(.ret, sj), ((c0_0 + (1 : Int), ()), ())⟩)))
    (gd [inR (c0_0 - (1 : Int))] (.ok (.inl ((a0, ((), ())), ((c0_0 - (1 : Int), ()), ())))))))
  (.ok (.inr ⟨(.exit 0, sk), ((), ())⟩)))
def zJ (s : bD) : OT (Sum bD aL) := ajv (s.1.1) (s.2.1.1)
theorem ajs (s : bD) (Q : Sum bD aL → Prop) : wps te pg ax 1000 (bE (al Tryz.f161) 0) (zI.inj s) (cM zI Z7 (Q : Sum zI.T aL → Prop)) = (zJ s).wpR Q := by kernel_rfl
def F5 (g0_r : bD → ku) (c0_r : bD → Bool) (g0_0 : bD → kv) (s : bD) : OT aL := (.br (c0_r s) (.ok ⟨(.ret, sj), g0_r s⟩) (.ok ⟨(.exit 0, sk), g0_0 s⟩))
def qp : aw := ⟨[.val false .int], [], false⟩
def Sk : SV → Option aw := fun _ => some qp
def aab (ok0 : bD → Bool) (g0_r : bD → ku) (c0_r : bD → Bool) (g0_0 : bD → kv) (a0 : List ((ab × (ab × (ab × Bool))))) : OT l8.Y :=
  let z0 : (List (ab × ab × ab × Bool) × PUnit × PUnit) × (Int × PUnit) × PUnit := ((a0, (), ()), ((255 : Int), ()), ())
  (gd [ok0 z0] (.br (c0_r z0)
  (.ok ⟨qp, (((g0_r z0).fst.fst, ()), ())⟩)
  (.ok ⟨qp, (((0 : Int), ()), ())⟩)))
theorem alv (ok0 : bD → Bool) (g0_r : bD → ku) (c0_r : bD → Bool) (g0_0 : bD → kv) (x : UZ) (Q : l8.Y → Prop) : wpf te pg (bg 0 (db zI 0 ok0 (F5 g0_r c0_r g0_0)) ax) 1000 Tryz.f161 (l8.inp.inj x).tm (l8.inp.inj x).hp (fnK l8 Sk Q) (fun _ _ => False) = (aab ok0 g0_r c0_r g0_0 (x.1.1)).wpR Q := by kernel_rfl
theorem Z8 (ok0 : bD → Bool) (g0_r : bD → ku) (c0_r : bD → Bool) (g0_0 : bD → kv) (h0 : ∀ s : bD, ok0 s = true → ∃ m e, aq (zJ) m s = some e ∧ (F5 g0_r c0_r g0_0 s).run = some e) (pre : UZ → Bool) (F : UZ → OT l8.Y) (hF : ∀ (x : UZ) oy, pre x = true → (F x).run = some oy → (aab ok0 g0_r c0_r g0_0 (x.1.1)).run = some oy) : ac Tryz.prog 161 (l8.aD pre F) :=
  aB ar lX xt (f := 161) (fn := Tryz.f161) (c := al Tryz.f161) (by kernel_rfl) (by kernel_rfl) (by kernel_rfl) (S := l8) (k := 0) (by kernel_rfl) (fun R hR => (aC (c := (al Tryz.f161)) (by kernel_rfl) (id := 0) (by kernel_rfl) (bo ar lX xt (sh := zI) hR (xs := Z7) (aE (by kernel_rfl) (by kernel_rfl) hR) aS ag (n := 1000) (T := zJ) (fun s Q => ajs s Q) (ok := ok0) (f := F5 g0_r c0_r g0_0) h0) ag)) (n := 1000) (sel := Sk) (fun v o h => by cases h; rfl) (pre := pre) (F := F) (T := fun x => aab ok0 g0_r c0_r g0_0 (x.1.1)) (fun x Q => alv ok0 g0_r c0_r g0_0 x Q) hF
def acv (l : List Tm) : Nat → Nat
  | 0 => 0
  | n + 1 => cond (al7 l (n : Int)) (n + 1) (acv l n)
def LO (l : List Tm) : Nat := acv l 256
def Sl (s : bD) : Bool := decide (s.2.1.1 = 255 ∧ s.1.1.length ≤ 140737488355328)
def Sm (s : bD) : ku := (((LO s.1.1 : Int), ()), ())
def aaa (s : bD) : Bool := decide ((0 : Int) < (LO s.1.1 : Int))
def Z9 (_ : bD) : kv := ((), ())
def C3 (l : List Tm) (i : Int) : bD := ((l, (), ()), ((i, ()), ()))
theorem Ps (l : List Tm) (hl : l.length ≤ 140737488355328) : ∀ n : Nat, n ≤ 256 →
    ∃ m, aq zJ m (C3 l ((n : Int) - 1)) = some (cond (decide ((0 : Int) < (acv l n : Int))) ⟨(.ret, sj), (((acv l n : Int), ()), ())⟩ ⟨(.exit 0, sk), ((), ())⟩)
  | 0, _ => ⟨1, aI (OT.au (decide_eq_false (by dsimp only [C3]; omega)))⟩
  | n + 1, h => by
    rw [show ((n + 1 : Nat) : Int) - 1 = (n : Int) by omega]
    have hgd : ∀ z : OT (Sum bD aL), (gd [oL ((l, (), ()), ((n : Int), ()), ())] z).run = z.run := fun z => aj (by
      simp only [List.all_cons, List.all_nil, Bool.and_true]
      exact decide_eq_true hl)
    unfold acv
    rcases (Bool.eq_false_or_eq_true (al7 l (n : Int))).symm with hb | hb
    · obtain ⟨m, hm⟩ := Ps l hl n (by omega)
      rw [hb]
      refine ⟨m + 1, aH ?_ hm⟩
      refine (OT.ap (decide_eq_true (by dsimp only [C3]; omega))).trans ((hgd _).trans ((OT.au hb).trans ((aj ?_).trans rfl)))
      simp only [List.all_cons, List.all_nil, Bool.and_true]
      exact bz (by dsimp only [C3]; omega)
    · rw [hb]
      simp only [cond_true]
      rw [decide_eq_true (show (0 : Int) < ((n + 1 : Nat) : Int) by omega)]
      refine ⟨1, aI ?_⟩
      refine (OT.ap (decide_eq_true (by dsimp only [C3]; omega))).trans ((hgd _).trans ((OT.ap hb).trans ((aj ?_).trans rfl)))
      simp only [List.all_cons, List.all_nil, Bool.and_true]
      exact bz (by dsimp only [C3]; omega)
theorem aju : ∀ s : bD, Sl s = true → ∃ m e, aq zJ m s = some e ∧ (F5 Sm aaa Z9 s).run = some e := by
  rintro ⟨⟨l, ⟨⟩, ⟨⟩⟩, ⟨⟨i, ⟨⟩⟩, ⟨⟩⟩⟩ h
  have h' := of_decide_eq_true h
  dsimp only at h'
  obtain ⟨rfl, hl⟩ := h'
  obtain ⟨m, hm⟩ := Ps l hl 256 (by omega)
  refine ⟨m, _, hm, ?_⟩
  show (OT.br (decide ((0 : Int) < (acv l 256 : Int))) _ _ : OT aL).run = some (cond (decide ((0 : Int) < (acv l 256 : Int))) _ _)
  cases decide ((0 : Int) < (acv l 256 : Int)) <;> rfl
def F4 (x : UZ) : Bool := decide (x.1.1.length ≤ 140737488355328)
def agT (x : UZ) : OT l8.Y := .ok ⟨qp, (((LO x.1.1 : Int), ()), ())⟩
theorem ajt : ac Tryz.prog 161 (l8.aD F4 agT) := Z8 Sl Sm aaa Z9 aju _ _ fun x oy hp ho => by
  rw [← ho]
  clear ho
  obtain ⟨⟨l, ⟨⟩⟩, ⟨⟩⟩ := x
  have hl : l.length ≤ 140737488355328 := of_decide_eq_true hp
  refine (aj ?_).trans ?_
  · simp only [List.all_cons, List.all_nil, Bool.and_true]
    exact decide_eq_true ⟨rfl, hl⟩
  · show (OT.br (decide ((0 : Int) < (LO l : Int))) (.ok ⟨qp, (((LO l : Int), ()), ())⟩) (.ok ⟨qp, (((0 : Int), ()), ())⟩) : OT l8.Y).run = some ⟨qp, (((LO l : Int), ()), ())⟩
    by_cases h : (0 : Int) < (LO l : Int)
    · exact OT.ap (decide_eq_true h)
    · have e : LO l = 0 := by omega
      rw [e]
      rfl
def zH : cv := (l8.aD F4 agT)
theorem UY : ac Tryz.prog 161 zH := ajt
theorem UX : aF zH := az
def tB : Env := ay 161 zH pg
theorem jq : aQ Tryz.prog tB := ah UY lX
theorem BZ : av tB := ae UX tC
theorem kX : aV Tryz.prog te tB := aJ follows ar jq BZ
def di : ao := ⟨[.val false .int, .val false (.list xG), .val false .int], [], true, 0, false⟩
abbrev kD : Type := ((Int) × (List ((ab × (ab × (ab × Bool))))) × (Int) × Unit) × (Unit)
def iW : Shape := ⟨74, [(0, .val false .int), (1, .val false (.list (.prod .elem (.prod .elem (.prod .elem .bool))))), (2, .val false .int), (6, .ptr 0 0 0), (7, .ptr 1 0 0), (16, .val false .int)], [(0, .cells [.val false .u64, .val false .u64, .val false .u64, .val false .u64, .val false .u64, .val false .u64, .val false .u64, .val false .u64, .val false .bool]), (1, .row (.prod .elem (.prod .elem .bool)))], 0, true⟩
abbrev aY : Type := ((Int) × (List ((ab × (ab × (ab × Bool))))) × (Int) × (Unit) × (Unit) × (Int) × Unit) × (((UInt64) × (UInt64) × (UInt64) × (UInt64) × (UInt64) × (UInt64) × (UInt64) × (UInt64) × (Bool) × Unit) × (List ((ab × (ab × Bool)))) × Unit)
def gZ : Shape := ⟨74, [(0, .val false .int), (1, .val false (.list (.prod .elem (.prod .elem (.prod .elem .bool))))), (2, .val false .int), (6, .ptr 0 0 0), (7, .ptr 1 0 0)], [(0, .cells [.val false .u64, .val false .u64, .val false .u64, .val false .u64, .val false .u64, .val false .u64, .val false .u64, .val false .u64, .val false .bool]), (1, .row (.prod .elem (.prod .elem .bool)))], 0, true⟩
abbrev dG : Type := ((Int) × (List ((ab × (ab × (ab × Bool))))) × (Int) × (Unit) × (Unit) × Unit) × (((UInt64) × (UInt64) × (UInt64) × (UInt64) × (UInt64) × (UInt64) × (UInt64) × (UInt64) × (Bool) × Unit) × (List ((ab × (ab × Bool)))) × Unit)
def Aa : SE → Option Shape := jt [(0, gZ)] none
def NE (a0 : Int) (a1 : List ((ab × (ab × (ab × Bool))))) (a2 : Int) (a16 : Int) (c0_0 : UInt64) (c0_1 : UInt64) (c0_2 : UInt64) (c0_3 : UInt64) (c0_4 : UInt64) (c0_5 : UInt64) (c0_6 : UInt64) (c0_7 : UInt64) (c0_8 : Bool) (c1 : List ((ab × (ab × Bool)))) : OT (Sum aY aL) :=
  let z0 : ab := { w0 := 0, w1 := 0, w2 := 0, w3 := 0 }
  (.br (decide (a16 < (15 : Int)))
  (gd [inB a16 15, decide (Int.toNat a16 + 0 < List.length c1), inR (a16 + (1 : Int))] (.ok (.inl ((a0, (a1, (a2, ((), ((), (a16 + (1 : Int), ())))))), ((c0_0, (c0_1, (c0_2, (c0_3, (c0_4, (c0_5, (c0_6, (c0_7, (c0_8, ()))))))))), (List.set c1 (Int.toNat a16 + 0) (z0, z0, true), ()))))))
  (.ok (.inr ⟨(.exit 0, gZ), ((a0, (a1, (a2, ((), ((), ()))))), ((c0_0, (c0_1, (c0_2, (c0_3, (c0_4, (c0_5, (c0_6, (c0_7, (c0_8, ()))))))))), (c1, ())))⟩)))
def iZ (s : aY) : OT (Sum aY aL) := NE (s.1.1) (s.1.2.1) (s.1.2.2.1) (s.1.2.2.2.2.2.1) (s.2.1.1) (s.2.1.2.1) (s.2.1.2.2.1) (s.2.1.2.2.2.1) (s.2.1.2.2.2.2.1) (s.2.1.2.2.2.2.2.1) (s.2.1.2.2.2.2.2.2.1) (s.2.1.2.2.2.2.2.2.2.1) (s.2.1.2.2.2.2.2.2.2.2.1) (s.2.2.1)
theorem Nw (s : aY) (Q : Sum aY aL → Prop) : wps te tB ax 1000 (bE (al Tryz.f162) 0) (iW.inj s) (cM iW Aa (Q : Sum iW.T aL → Prop)) = (iZ s).wpR Q := by kernel_rfl
def lD (g0_0 : aY → dG) (s : aY) : OT aL := (.ok ⟨(.exit 0, gZ), g0_0 s⟩)
def iV : Shape := ⟨74, [(0, .val false .int), (2, .val false .int), (6, .ptr 0 0 0), (7, .ptr 1 0 0), (23, .val false (.list (.prod .elem (.prod .elem (.prod .elem .bool))))), (24, .val false .int), (25, .val false .int)], [(0, .cells [.val false .u64, .val false .u64, .val false .u64, .val false .u64, .val false .u64, .val false .u64, .val false .u64, .val false .u64, .val false .bool]), (1, .row (.prod .elem (.prod .elem .bool)))], 0, true⟩
abbrev aX : Type := ((Int) × (Int) × (Unit) × (Unit) × (List ((ab × (ab × (ab × Bool))))) × (Int) × (Int) × Unit) × (((UInt64) × (UInt64) × (UInt64) × (UInt64) × (UInt64) × (UInt64) × (UInt64) × (UInt64) × (Bool) × Unit) × (List ((ab × (ab × Bool)))) × Unit)
def iU : Shape := ⟨74, [(0, .val false .int), (2, .val false .int), (6, .ptr 0 0 0), (7, .ptr 1 0 0), (10, .ptr 2 0 0), (11, .val false .int), (23, .val false (.list (.prod .elem (.prod .elem (.prod .elem .bool))))), (24, .val false .int), (25, .val false .int), (29, .val false .int)], [(0, .cells [.val false .u64, .val false .u64, .val false .u64, .val false .u64, .val false .u64, .val false .u64, .val false .u64, .val false .u64, .val false .bool]), (1, .row (.prod .elem (.prod .elem .bool))), (2, .cells [.val false .u64, .val false .u64, .val false .u64, .val false .u64, .val false .u64, .val false .u64, .val false .u64, .val false .u64, .val false .u64, .val false .u64, .val false .u64, .val false .u64, .val false .bool])], 0, true⟩
abbrev aG : Type := ((Int) × (Int) × (Unit) × (Unit) × (Unit) × (Int) × (List ((ab × (ab × (ab × Bool))))) × (Int) × (Int) × (Int) × Unit) × (((UInt64) × (UInt64) × (UInt64) × (UInt64) × (UInt64) × (UInt64) × (UInt64) × (UInt64) × (Bool) × Unit) × (List ((ab × (ab × Bool)))) × ((UInt64) × (UInt64) × (UInt64) × (UInt64) × (UInt64) × (UInt64) × (UInt64) × (UInt64) × (UInt64) × (UInt64) × (UInt64) × (UInt64) × (Bool) × Unit) × Unit)
def gX : Shape := ⟨74, [(0, .val false .int), (2, .val false .int), (6, .ptr 0 0 0), (7, .ptr 1 0 0), (10, .ptr 2 0 0), (11, .val false .int), (23, .val false (.list (.prod .elem (.prod .elem (.prod .elem .bool))))), (24, .val false .int), (25, .val false .int)], [(0, .cells [.val false .u64, .val false .u64, .val false .u64, .val false .u64, .val false .u64, .val false .u64, .val false .u64, .val false .u64, .val false .bool]), (1, .row (.prod .elem (.prod .elem .bool))), (2, .cells [.val false .u64, .val false .u64, .val false .u64, .val false .u64, .val false .u64, .val false .u64, .val false .u64, .val false .u64, .val false .u64, .val false .u64, .val false .u64, .val false .u64, .val false .bool])], 0, true⟩
abbrev bZ : Type := ((Int) × (Int) × (Unit) × (Unit) × (Unit) × (Int) × (List ((ab × (ab × (ab × Bool))))) × (Int) × (Int) × Unit) × (((UInt64) × (UInt64) × (UInt64) × (UInt64) × (UInt64) × (UInt64) × (UInt64) × (UInt64) × (Bool) × Unit) × (List ((ab × (ab × Bool)))) × ((UInt64) × (UInt64) × (UInt64) × (UInt64) × (UInt64) × (UInt64) × (UInt64) × (UInt64) × (UInt64) × (UInt64) × (UInt64) × (UInt64) × (Bool) × Unit) × Unit)
def zY : SE → Option Shape := jt [(4, gX)] none
def ND (a0 : Int) (a2 : Int) (a11 : Int) (a23 : List ((ab × (ab × (ab × Bool))))) (a24 : Int) (a25 : Int) (a29 : Int) (c0_0 : UInt64) (c0_1 : UInt64) (c0_2 : UInt64) (c0_3 : UInt64) (c0_4 : UInt64) (c0_5 : UInt64) (c0_6 : UInt64) (c0_7 : UInt64) (c0_8 : Bool) (c1 : List ((ab × (ab × Bool)))) (c2_0 : UInt64) (c2_1 : UInt64) (c2_2 : UInt64) (c2_3 : UInt64) (c2_4 : UInt64) (c2_5 : UInt64) (c2_6 : UInt64) (c2_7 : UInt64) (c2_8 : UInt64) (c2_9 : UInt64) (c2_10 : UInt64) (c2_11 : UInt64) (c2_12 : Bool) : OT (Sum aG aL) :=
  let z0 : Bool := inR (a29 + (1 : Int))
  (.br (decide (a29 < (4 : Int)))
  (gd [inR (a2 + a29)] (.br (pw { w0 := c2_0, w1 := c2_1, w2 := c2_2, w3 := c2_3 } (a2 + a29))
    (gd [decide ((0 : Int) ≤ a29), z0] (.ok (.inl ((a0, (a2, ((), ((), ((), (ior a11 (LH (1 : Int) a29), (a23, (a24, (a25, (a29 + (1 : Int), ())))))))))), ((c0_0, (c0_1, (c0_2, (c0_3, (c0_4, (c0_5, (c0_6, (c0_7, (c0_8, ()))))))))), (c1, ((c2_0, (c2_1, (c2_2, (c2_3, (c2_4, (c2_5, (c2_6, (c2_7, (c2_8, (c2_9, (c2_10, (c2_11, (c2_12, ()))))))))))))), ())))))))
    (gd [z0] (.ok (.inl ((a0, (a2, ((), ((), ((), (a11, (a23, (a24, (a25, (a29 + (1 : Int), ())))))))))), ((c0_0, (c0_1, (c0_2, (c0_3, (c0_4, (c0_5, (c0_6, (c0_7, (c0_8, ()))))))))), (c1, ((c2_0, (c2_1, (c2_2, (c2_3, (c2_4, (c2_5, (c2_6, (c2_7, (c2_8, (c2_9, (c2_10, (c2_11, (c2_12, ()))))))))))))), ())))))))))
  (.ok (.inr ⟨(.exit 4, gX), ((a0, (a2, ((), ((), ((), (a11, (a23, (a24, (a25, ()))))))))), ((c0_0, (c0_1, (c0_2, (c0_3, (c0_4, (c0_5, (c0_6, (c0_7, (c0_8, ()))))))))), (c1, ((c2_0, (c2_1, (c2_2, (c2_3, (c2_4, (c2_5, (c2_6, (c2_7, (c2_8, (c2_9, (c2_10, (c2_11, (c2_12, ()))))))))))))), ()))))⟩)))
def iY (s : aG) : OT (Sum aG aL) := ND (s.1.1) (s.1.2.1) (s.1.2.2.2.2.2.1) (s.1.2.2.2.2.2.2.1) (s.1.2.2.2.2.2.2.2.1) (s.1.2.2.2.2.2.2.2.2.1) (s.1.2.2.2.2.2.2.2.2.2.1) (s.2.1.1) (s.2.1.2.1) (s.2.1.2.2.1) (s.2.1.2.2.2.1) (s.2.1.2.2.2.2.1) (s.2.1.2.2.2.2.2.1) (s.2.1.2.2.2.2.2.2.1) (s.2.1.2.2.2.2.2.2.2.1) (s.2.1.2.2.2.2.2.2.2.2.1) (s.2.2.1) (s.2.2.2.1.1) (s.2.2.2.1.2.1) (s.2.2.2.1.2.2.1) (s.2.2.2.1.2.2.2.1) (s.2.2.2.1.2.2.2.2.1) (s.2.2.2.1.2.2.2.2.2.1) (s.2.2.2.1.2.2.2.2.2.2.1) (s.2.2.2.1.2.2.2.2.2.2.2.1) (s.2.2.2.1.2.2.2.2.2.2.2.2.1) (s.2.2.2.1.2.2.2.2.2.2.2.2.2.1) (s.2.2.2.1.2.2.2.2.2.2.2.2.2.2.1) (s.2.2.2.1.2.2.2.2.2.2.2.2.2.2.2.1) (s.2.2.2.1.2.2.2.2.2.2.2.2.2.2.2.2.1)
theorem Nu (s : aG) (Q : Sum aG aL → Prop) : wps te tB ax 1000 (bE (bE (al Tryz.f162) 2) 4) (iU.inj s) (cM iU zY (Q : Sum iU.T aL → Prop)) = (iY s).wpR Q := by kernel_rfl
def lB (g4_4 : aG → bZ) (s : aG) : OT aL := (.ok ⟨(.exit 4, gX), g4_4 s⟩)
def gY : Shape := ⟨74, [(0, .val false .int), (6, .ptr 0 0 0), (7, .ptr 1 0 0)], [(0, .cells [.val false .u64, .val false .u64, .val false .u64, .val false .u64, .val false .u64, .val false .u64, .val false .u64, .val false .u64, .val false .bool]), (1, .row (.prod .elem (.prod .elem .bool)))], 0, true⟩
abbrev dF : Type := ((Int) × (Unit) × (Unit) × Unit) × (((UInt64) × (UInt64) × (UInt64) × (UInt64) × (UInt64) × (UInt64) × (UInt64) × (UInt64) × (Bool) × Unit) × (List ((ab × (ab × Bool)))) × Unit)
def zZ : SE → Option Shape := jt [(2, gY)] none
def Ae (ok4 : aG → Bool) (g4_4 : aG → bZ) (a0 : Int) (a2 : Int) (a23 : List ((ab × (ab × (ab × Bool))))) (a24 : Int) (a25 : Int) (c0_0 : UInt64) (c0_1 : UInt64) (c0_2 : UInt64) (c0_3 : UInt64) (c0_4 : UInt64) (c0_5 : UInt64) (c0_6 : UInt64) (c0_7 : UInt64) (c0_8 : Bool) (c1 : List ((ab × (ab × Bool)))) : OT (Sum aX aL) :=
  let z0 : ab := { w0 := 0, w1 := 0, w2 := 0, w3 := 0 }
  let z1 : ab × ab × Bool := (z0, z0, false)
  let z2 : ab × ab × ab × Bool := List.getD a23 (Int.toNat a25) (z0, z1)
  let z3 := z2.fst
  let z4 := z2.snd
  let z5 := z4.fst
  let z6 := z4.snd
  let z7 := z6.fst
  let z8 : (Int × Int × PUnit × PUnit × PUnit × Int × List (ab × ab × ab × Bool) × Int × Int × Int × PUnit) × (UInt64 × UInt64 × UInt64 × UInt64 × UInt64 × UInt64 × UInt64 × UInt64 × Bool × PUnit) × List (ab × ab × Bool) × (UInt64 × UInt64 × UInt64 × UInt64 × UInt64 × UInt64 × UInt64 × UInt64 × UInt64 × UInt64 × UInt64 × UInt64 × Bool × PUnit) × PUnit := ((a0, a2, (), (), (), (0 : Int), a23, a24, a25, (0 : Int), ()), (c0_0, c0_1, c0_2, c0_3, c0_4, c0_5, c0_6, c0_7, c0_8, ()), c1, (z3.w0, z3.w1, z3.w2, z3.w3, z5.w0, z5.w1, z5.w2, z5.w3, z7.w0, z7.w1, z7.w2, z7.w3, z6.snd, ()), ())
  let z9 : (Int × Int × PUnit × PUnit × PUnit × Int × List (ab × ab × ab × Bool) × Int × Int × PUnit) × (UInt64 × UInt64 × UInt64 × UInt64 × UInt64 × UInt64 × UInt64 × UInt64 × Bool × PUnit) × List (ab × ab × Bool) × (UInt64 × UInt64 × UInt64 × UInt64 × UInt64 × UInt64 × UInt64 × UInt64 × UInt64 × UInt64 × UInt64 × UInt64 × Bool × PUnit) × PUnit := g4_4 z8
  let z10 := z9.fst
  let z11 := z10.snd
  let z12 := z11.snd.snd.snd.snd
  let z13 := z12.fst
  let z14 : Bool := inR (z13 - (1 : Int))
  let z15 : Bool := inB (z13 - (1 : Int)) 15
  let z16 := z9.snd
  let z17 := z16.snd
  let z18 := z17.fst
  let z19 : Bool := decide (Int.toNat (z13 - (1 : Int)) + 0 < List.length z18)
  let z20 := z12.snd
  let z21 := z20.snd
  let z22 : Bool := inR (z21.snd.fst + (1 : Int))
  let z23 := z10.fst
  let z24 := z11.fst
  let z25 := z20.fst
  let z26 := z21.fst
  let z27 := z16.fst
  let z28 := z27.fst
  let z29 := z27.snd
  let z30 := z29.fst
  let z31 := z29.snd
  let z32 := z31.fst
  let z33 := z31.snd
  let z34 := z33.fst
  let z35 := z33.snd
  let z36 := z35.fst
  let z37 := z35.snd
  let z38 := z37.fst
  let z39 := z37.snd
  let z40 := z39.fst
  let z41 := z39.snd
  let z42 := z41.fst
  let z43 := z41.snd.fst
  let z44 := z17.snd.fst.snd.snd.snd.snd
  let z45 := z44.snd
  let z46 := z45.snd
  let z47 := z46.snd
  let z48 := z47.snd
  let z49 := z48.snd
  let z50 := z49.snd
  let z51 := z50.snd
  (.br (decide (a25 < a24))
  (gd [inB a25 (List.length a23), ok4 z8] (.br (decide ((0 : Int) < z13))
    (gd [z14, z14, z15, z19, z15, z19, z22] (.ok (.inl ((z23, (z24, ((), ((), (z25, (z26, (z21.snd.fst + (1 : Int), ()))))))), ((z28, (z30, (z32, (z34, (z36, (z38, (z40, (z42, (z43, ()))))))))), (List.set z18 (Int.toNat (z13 - (1 : Int)) + 0) (hX z23 (List.getD z18 (Int.toNat (z13 - (1 : Int)) + 0) z1) ({ w0 := z44.fst, w1 := z45.fst, w2 := z46.fst, w3 := z47.fst }, { w0 := z48.fst, w1 := z49.fst, w2 := z50.fst, w3 := z51.fst }, z51.snd.fst)), ()))))))
    (gd [z22] (.ok (.inl ((z23, (z24, ((), ((), (z25, (z26, (z21.snd.fst + (1 : Int), ()))))))), ((z28, (z30, (z32, (z34, (z36, (z38, (z40, (z42, (z43, ()))))))))), (z18, ()))))))))
  (.ok (.inr ⟨(.exit 2, gY), ((a0, ((), ((), ()))), ((c0_0, (c0_1, (c0_2, (c0_3, (c0_4, (c0_5, (c0_6, (c0_7, (c0_8, ()))))))))), (c1, ())))⟩)))
def eL (ok4 : aG → Bool) (g4_4 : aG → bZ) (s : aX) : OT (Sum aX aL) := Ae ok4 g4_4 (s.1.1) (s.1.2.1) (s.1.2.2.2.2.1) (s.1.2.2.2.2.2.1) (s.1.2.2.2.2.2.2.1) (s.2.1.1) (s.2.1.2.1) (s.2.1.2.2.1) (s.2.1.2.2.2.1) (s.2.1.2.2.2.2.1) (s.2.1.2.2.2.2.2.1) (s.2.1.2.2.2.2.2.2.1) (s.2.1.2.2.2.2.2.2.2.1) (s.2.1.2.2.2.2.2.2.2.2.1) (s.2.2.1)
theorem Nv (ok4 : aG → Bool) (g4_4 : aG → bZ) (s : aX) (Q : Sum aX aL → Prop) : wps te tB (bg 4 (db iU 4 ok4 (lB g4_4)) ax) 1000 (bE (al Tryz.f162) 2) (iV.inj s) (cM iV zZ (Q : Sum iV.T aL → Prop)) = (eL ok4 g4_4 s).wpR Q := by kernel_rfl
def lC (g2_2 : aX → dF) (s : aX) : OT aL := (.ok ⟨(.exit 2, gY), g2_2 s⟩)
def iT : Shape := ⟨74, [(0, .val false .int), (6, .ptr 0 0 0), (7, .ptr 1 0 0), (13, .ptr 2 0 0), (14, .ptr 3 0 0), (15, .val false .int)], [(0, .cells [.val false .u64, .val false .u64, .val false .u64, .val false .u64, .val false .u64, .val false .u64, .val false .u64, .val false .u64, .val false .bool]), (1, .row (.prod .elem (.prod .elem .bool))), (2, .cells [.val false .u64, .val false .u64, .val false .u64, .val false .u64, .val false .u64, .val false .u64, .val false .u64, .val false .u64, .val false .bool]), (3, .cells [.val false .u64, .val false .u64, .val false .u64, .val false .u64, .val false .u64, .val false .u64, .val false .u64, .val false .u64, .val false .bool])], 0, true⟩
abbrev aW : Type := ((Int) × (Unit) × (Unit) × (Unit) × (Unit) × (Int) × Unit) × (((UInt64) × (UInt64) × (UInt64) × (UInt64) × (UInt64) × (UInt64) × (UInt64) × (UInt64) × (Bool) × Unit) × (List ((ab × (ab × Bool)))) × ((UInt64) × (UInt64) × (UInt64) × (UInt64) × (UInt64) × (UInt64) × (UInt64) × (UInt64) × (Bool) × Unit) × ((UInt64) × (UInt64) × (UInt64) × (UInt64) × (UInt64) × (UInt64) × (UInt64) × (UInt64) × (Bool) × Unit) × Unit)
def gW : Shape := ⟨74, [(6, .ptr 0 0 0), (14, .ptr 1 0 0)], [(0, .cells [.val false .u64, .val false .u64, .val false .u64, .val false .u64, .val false .u64, .val false .u64, .val false .u64, .val false .u64, .val false .bool]), (1, .cells [.val false .u64, .val false .u64, .val false .u64, .val false .u64, .val false .u64, .val false .u64, .val false .u64, .val false .u64, .val false .bool])], 0, true⟩
abbrev dE : Type := ((Unit) × (Unit) × Unit) × (((UInt64) × (UInt64) × (UInt64) × (UInt64) × (UInt64) × (UInt64) × (UInt64) × (UInt64) × (Bool) × Unit) × ((UInt64) × (UInt64) × (UInt64) × (UInt64) × (UInt64) × (UInt64) × (UInt64) × (UInt64) × (Bool) × Unit) × Unit)
def zX : SE → Option Shape := jt [(6, gW)] none
def NC (a0 : Int) (a15 : Int) (c0_0 : UInt64) (c0_1 : UInt64) (c0_2 : UInt64) (c0_3 : UInt64) (c0_4 : UInt64) (c0_5 : UInt64) (c0_6 : UInt64) (c0_7 : UInt64) (c0_8 : Bool) (c1 : List ((ab × (ab × Bool)))) (c2_0 : UInt64) (c2_1 : UInt64) (c2_2 : UInt64) (c2_3 : UInt64) (c2_4 : UInt64) (c2_5 : UInt64) (c2_6 : UInt64) (c2_7 : UInt64) (c2_8 : Bool) (c3_0 : UInt64) (c3_1 : UInt64) (c3_2 : UInt64) (c3_3 : UInt64) (c3_4 : UInt64) (c3_5 : UInt64) (c3_6 : UInt64) (c3_7 : UInt64) (c3_8 : Bool) : OT (Sum aW aL) :=
  let z0 : ab := { w0 := 0, w1 := 0, w2 := 0, w3 := 0 }
  let z1 : ab × ab × Bool := hX a0 ({ w0 := c2_0, w1 := c2_1, w2 := c2_2, w3 := c2_3 }, { w0 := c2_4, w1 := c2_5, w2 := c2_6, w3 := c2_7 }, c2_8) (List.getD c1 (Int.toNat a15 + 0) (z0, z0, false))
  let z2 := z1.fst
  let z3 := z1.snd
  let z4 := z3.fst
  let z5 : ab × ab × Bool := hX a0 ({ w0 := c3_0, w1 := c3_1, w2 := c3_2, w3 := c3_3 }, { w0 := c3_4, w1 := c3_5, w2 := c3_6, w3 := c3_7 }, c3_8) z1
  let z6 := z5.fst
  let z7 := z5.snd
  let z8 := z7.fst
  (.br (decide ((0 : Int) ≤ a15))
  (gd [inB a15 15, decide (Int.toNat a15 + 0 < List.length c1), inR (a15 - (1 : Int))] (.ok (.inl ((a0, ((), ((), ((), ((), (a15 - (1 : Int), ())))))), ((c0_0, (c0_1, (c0_2, (c0_3, (c0_4, (c0_5, (c0_6, (c0_7, (c0_8, ()))))))))), (c1, ((z2.w0, (z2.w1, (z2.w2, (z2.w3, (z4.w0, (z4.w1, (z4.w2, (z4.w3, (z3.snd, ()))))))))), ((z6.w0, (z6.w1, (z6.w2, (z6.w3, (z8.w0, (z8.w1, (z8.w2, (z8.w3, (z7.snd, ()))))))))), ()))))))))
  (.ok (.inr ⟨(.exit 6, gW), (((), ((), ())), ((c0_0, (c0_1, (c0_2, (c0_3, (c0_4, (c0_5, (c0_6, (c0_7, (c0_8, ()))))))))), ((c3_0, (c3_1, (c3_2, (c3_3, (c3_4, (c3_5, (c3_6, (c3_7, (c3_8, ()))))))))), ())))⟩)))
def iX (s : aW) : OT (Sum aW aL) := NC (s.1.1) (s.1.2.2.2.2.2.1) (s.2.1.1) (s.2.1.2.1) (s.2.1.2.2.1) (s.2.1.2.2.2.1) (s.2.1.2.2.2.2.1) (s.2.1.2.2.2.2.2.1) (s.2.1.2.2.2.2.2.2.1) (s.2.1.2.2.2.2.2.2.2.1) (s.2.1.2.2.2.2.2.2.2.2.1) (s.2.2.1) (s.2.2.2.1.1) (s.2.2.2.1.2.1) (s.2.2.2.1.2.2.1) (s.2.2.2.1.2.2.2.1) (s.2.2.2.1.2.2.2.2.1) (s.2.2.2.1.2.2.2.2.2.1) (s.2.2.2.1.2.2.2.2.2.2.1) (s.2.2.2.1.2.2.2.2.2.2.2.1) (s.2.2.2.1.2.2.2.2.2.2.2.2.1) (s.2.2.2.2.1.1) (s.2.2.2.2.1.2.1) (s.2.2.2.2.1.2.2.1) (s.2.2.2.2.1.2.2.2.1) (s.2.2.2.2.1.2.2.2.2.1) (s.2.2.2.2.1.2.2.2.2.2.1) (s.2.2.2.2.1.2.2.2.2.2.2.1) (s.2.2.2.2.1.2.2.2.2.2.2.2.1) (s.2.2.2.2.1.2.2.2.2.2.2.2.2.1)
theorem Nt (s : aW) (Q : Sum aW aL → Prop) : wps te tB ax 1000 (bE (al Tryz.f162) 6) (iT.inj s) (cM iT zX (Q : Sum iT.T aL → Prop)) = (iX s).wpR Q := by kernel_rfl
def lA (g6_6 : aW → dE) (s : aW) : OT aL := (.ok ⟨(.exit 6, gW), g6_6 s⟩)
def ly : aw := ⟨[.val true (.prod .elem (.prod .elem .bool))], [], false⟩
def wG : SV → Option aw := fun _ => some ly
def kC (ok0 : aY → Bool) (g0_0 : aY → dG) (ok4 : aG → Bool) (g4_4 : aG → bZ) (ok2 : aX → Bool) (g2_2 : aX → dF) (ok6 : aW → Bool) (g6_6 : aW → dE) (a0 : Int) (a1 : List ((ab × (ab × (ab × Bool))))) (a2 : Int) : OT di.Y :=
  let z0 : ab := { w0 := 0, w1 := 0, w2 := 0, w3 := 0 }
  let z1 : ab × ab × Bool := (z0, z0, false)
  let z2 : (Int × List (ab × ab × ab × Bool) × Int × PUnit × PUnit × Int × PUnit) × (UInt64 × UInt64 × UInt64 × UInt64 × UInt64 × UInt64 × UInt64 × UInt64 × Bool × PUnit) × List (ab × ab × Bool) × PUnit := ((a0, a1, a2, (), (), (0 : Int), ()), ((0 : UInt64), (0 : UInt64), (0 : UInt64), (0 : UInt64), (0 : UInt64), (0 : UInt64), (0 : UInt64), (0 : UInt64), false, ()), [z1, z1, z1, z1, z1, z1, z1, z1, z1, z1, z1, z1, z1, z1, z1], ())
  let z3 : (Int × List (ab × ab × ab × Bool) × Int × PUnit × PUnit × PUnit) × (UInt64 × UInt64 × UInt64 × UInt64 × UInt64 × UInt64 × UInt64 × UInt64 × Bool × PUnit) × List (ab × ab × Bool) × PUnit := g0_0 z2
  let z4 := z3.fst
  let z5 := z4.snd
  let z6 := z5.fst
  let z7 := z3.snd
  let z8 := z7.fst
  let z9 := z8.snd
  let z10 := z9.snd
  let z11 := z10.snd
  let z12 := z11.snd
  let z13 := z12.snd
  let z14 := z13.snd
  let z15 := z14.snd
  let z16 : (Int × Int × PUnit × PUnit × List (ab × ab × ab × Bool) × Int × Int × PUnit) × (UInt64 × UInt64 × UInt64 × UInt64 × UInt64 × UInt64 × UInt64 × UInt64 × Bool × PUnit) × List (ab × ab × Bool) × PUnit := ((z4.fst, z5.snd.fst, (), (), z6, (↑(List.length z6) : Int), (0 : Int), ()), (z8.fst, z9.fst, z10.fst, z11.fst, z12.fst, z13.fst, z14.fst, z15.fst, z15.snd.fst, ()), z7.snd.fst, ())
  let z17 : (Int × PUnit × PUnit × PUnit) × (UInt64 × UInt64 × UInt64 × UInt64 × UInt64 × UInt64 × UInt64 × UInt64 × Bool × PUnit) × List (ab × ab × Bool) × PUnit := g2_2 z16
  let z18 := z17.snd
  let z19 := z18.fst
  let z20 := z19.snd
  let z21 := z20.snd
  let z22 := z21.snd
  let z23 := z22.snd
  let z24 := z23.snd
  let z25 := z24.snd
  let z26 := z25.snd
  let z27 : UInt64 × UInt64 × UInt64 × UInt64 × UInt64 × UInt64 × UInt64 × UInt64 × Bool × PUnit := ((0 : UInt64), (0 : UInt64), (0 : UInt64), (0 : UInt64), (0 : UInt64), (0 : UInt64), (0 : UInt64), (0 : UInt64), true, ())
  let z28 : (Int × PUnit × PUnit × PUnit × PUnit × Int × PUnit) × (UInt64 × UInt64 × UInt64 × UInt64 × UInt64 × UInt64 × UInt64 × UInt64 × Bool × PUnit) × List (ab × ab × Bool) × (UInt64 × UInt64 × UInt64 × UInt64 × UInt64 × UInt64 × UInt64 × UInt64 × Bool × PUnit) × (UInt64 × UInt64 × UInt64 × UInt64 × UInt64 × UInt64 × UInt64 × UInt64 × Bool × PUnit) × PUnit := ((z17.fst.fst, (), (), (), (), (14 : Int), ()), (z19.fst, z20.fst, z21.fst, z22.fst, z23.fst, z24.fst, z25.fst, z26.fst, z26.snd.fst, ()), z18.snd.fst, z27, z27, ())
  let z29 := (g6_6 z28).snd.snd.fst
  let z30 := z29.snd
  let z31 := z30.snd
  let z32 := z31.snd
  let z33 := z32.snd
  let z34 := z33.snd
  let z35 := z34.snd
  let z36 := z35.snd
  (gd [ok0 z2, ok2 z16, ok6 z28] (.ok ⟨ly, ((({ w0 := z29.fst, w1 := z30.fst, w2 := z31.fst, w3 := z32.fst }, { w0 := z33.fst, w1 := z34.fst, w2 := z35.fst, w3 := z36.fst }, z36.snd.fst), ()), ())⟩))
theorem Vj (ok0 : aY → Bool) (g0_0 : aY → dG) (ok4 : aG → Bool) (g4_4 : aG → bZ) (ok2 : aX → Bool) (g2_2 : aX → dF) (ok6 : aW → Bool) (g6_6 : aW → dE) (x : kD) (Q : di.Y → Prop) : wpf te tB (bg 6 (db iT 6 ok6 (lA g6_6)) (bg 2 (db iV 2 ok2 (lC g2_2)) (bg 0 (db iW 0 ok0 (lD g0_0)) ax))) 1000 Tryz.f162 (di.inp.inj x).tm (di.inp.inj x).hp (fnK di wG Q) (fun _ _ => False) = (kC ok0 g0_0 ok4 g4_4 ok2 g2_2 ok6 g6_6 (x.1.1) (x.1.2.1) (x.1.2.2.1)).wpR Q := by kernel_rfl
theorem Gj (ok0 : aY → Bool) (g0_0 : aY → dG) (ok4 : aG → Bool) (g4_4 : aG → bZ) (ok2 : aX → Bool) (g2_2 : aX → dF) (ok6 : aW → Bool) (g6_6 : aW → dE) (h0 : ∀ s : aY, ok0 s = true → ∃ m e, aq (iZ) m s = some e ∧ (lD g0_0 s).run = some e) (h4 : ∀ s : aG, ok4 s = true → ∃ m e, aq (iY) m s = some e ∧ (lB g4_4 s).run = some e) (h2 : ∀ s : aX, ok2 s = true → ∃ m e, aq (eL ok4 g4_4) m s = some e ∧ (lC g2_2 s).run = some e) (h6 : ∀ s : aW, ok6 s = true → ∃ m e, aq (iX) m s = some e ∧ (lA g6_6 s).run = some e) (pre : kD → Bool) (F : kD → OT di.Y) (hF : ∀ (x : kD) oy, pre x = true → (F x).run = some oy → (kC ok0 g0_0 ok4 g4_4 ok2 g2_2 ok6 g6_6 (x.1.1) (x.1.2.1) (x.1.2.2.1)).run = some oy) : ac Tryz.prog 162 (di.aD pre F) :=
  aB ar jq kX (f := 162) (fn := Tryz.f162) (c := al Tryz.f162) (by kernel_rfl) (by kernel_rfl) (by kernel_rfl) (S := di) (k := 0) (by kernel_rfl) (fun R hR => (aC (c := (al Tryz.f162)) (by kernel_rfl) (id := 6) (by kernel_rfl) (bo ar jq kX (sh := iT) hR (xs := zX) (aE (by kernel_rfl) (by kernel_rfl) hR) aS ag (n := 1000) (T := iX) (fun s Q => Nt s Q) (ok := ok6) (f := lA g6_6) h6) (aC (c := (al Tryz.f162)) (by kernel_rfl) (id := 2) (by kernel_rfl) (bo ar jq kX (sh := iV) hR (xs := zZ) (aE (by kernel_rfl) (by kernel_rfl) hR) aS (aC (c := (bE (al Tryz.f162) 2)) (by kernel_rfl) (id := 4) (by kernel_rfl) (bo ar jq kX (sh := iU) hR (xs := zY) (aE (by kernel_rfl) (by kernel_rfl) hR) aS ag (n := 1000) (T := iY) (fun s Q => Nu s Q) (ok := ok4) (f := lB g4_4) h4) ag) (n := 1000) (T := eL ok4 g4_4) (fun s Q => Nv ok4 g4_4 s Q) (ok := ok2) (f := lC g2_2) h2) (aC (c := (al Tryz.f162)) (by kernel_rfl) (id := 0) (by kernel_rfl) (bo ar jq kX (sh := iW) hR (xs := Aa) (aE (by kernel_rfl) (by kernel_rfl) hR) aS ag (n := 1000) (T := iZ) (fun s Q => Nw s Q) (ok := ok0) (f := lD g0_0) h0) ag)))) (n := 1000) (sel := wG) (fun v o h => by cases h; rfl) (pre := pre) (F := F) (T := fun x => kC ok0 g0_0 ok4 g4_4 ok2 g2_2 ok6 g6_6 (x.1.1) (x.1.2.1) (x.1.2.2.1)) (fun x Q => Vj ok0 g0_0 ok4 g4_4 ok2 g2_2 ok6 g6_6 x Q) hF
abbrev C13 : Type := UInt64 × UInt64 × UInt64 × UInt64 × UInt64 × UInt64 × UInt64 × UInt64 × UInt64 × UInt64 × UInt64 × UInt64 × Bool × Unit
def S5 (t : Tm) : C13 := (t.1.w0, t.1.w1, t.1.w2, t.1.w3, t.2.1.w0, t.2.1.w1, t.2.1.w2, t.2.1.w3, t.2.2.1.w0, t.2.2.1.w1, t.2.2.1.w2, t.2.2.1.w3, t.2.2.2, ())
theorem Rq {α : Type} (x : α) (l : List α) : ∀ n, n ≤ l.length → upto (fun k (o : List α) => o.set k x) l n = List.replicate n x ++ l.drop n
  | 0, _ => rfl
  | n + 1, h => by
    show (upto (fun k (o : List α) => o.set k x) l n).set n x = _
    rw [Rq x l n (by omega), List.set_append_right _ _ (by rw [List.length_replicate]; omega), List.length_replicate, Nat.sub_self, List.drop_eq_getElem_cons (by omega), List.set_cons_zero, List.replicate_succ', List.append_assoc]
    rfl
def wJ (s : aY) : Bool := decide (s.1.2.2.2.2.2.1 = 0 ∧ s.2.2.1.length = 15)
def Ad (s : aY) : dG := ((s.1.1, s.1.2.1, s.1.2.2.1, (), (), ()), (s.2.1, List.replicate 15 bp, ()))
theorem NB : ∀ s : aY, wJ s = true → ∃ m e, aq iZ m s = some e ∧ (lD Ad s).run = some e := by
  rintro ⟨⟨c, l, at', ⟨⟩, ⟨⟩, i, ⟨⟩⟩, ⟨c0, S, ⟨⟩⟩⟩ h
  have h' := of_decide_eq_true h
  dsimp only at h'
  obtain ⟨rfl, hS⟩ := h'
  have := (bN (T := iZ) (fun i o => (((c, l, at', (), (), (i : Int), ()), (c0, o, ())) : aY)) (fun k (o : List Pt) => o.set k bp)
    (fun o => (⟨(.exit 0, gZ), ((c, l, at', (), (), ()), (c0, o, ()))⟩ : aL)) 15 S (fun _ o => o.length = 15) hS (fun k o hk ho => ⟨?_, (List.length_set ..).trans ho⟩) (fun o ho => ?_)).1
  · obtain ⟨m, hm⟩ := this
    rw [Rq bp S 15 (by omega), List.drop_eq_nil_of_le (by omega), List.append_nil] at hm
    exact ⟨m, _, hm, rfl⟩
  · refine (OT.ap (decide_eq_true (by dsimp only; omega))).trans ((aj ?_).trans ?_)
    · simp only [ho, Int.toNat_natCast, Nat.add_zero, List.all_cons, List.all_nil, Bool.and_true, Bool.and_eq_true]
      exact ⟨bF (by omega), decide_eq_true (by omega), bz (by omega)⟩
    · simp only [OT.jx, Int.toNat_natCast, Nat.add_zero]
      rfl
  · exact OT.au (decide_eq_false (by dsimp only; omega))
def ny (k : ab) (a : Int) (n : Nat) (d : Int) : Int := cond (pw k (a + (n : Int))) (ior d (LH 1 (n : Int))) d
def ahb (k : ab) (a : Int) : Int := upto (ny k a) 0 4
def akT (b : Bool) : Int := cond b 1 0
theorem akl (k : ab) (a : Int) : ahb k a = akT (pw k a) + 2 * akT (pw k (a + 1)) + 4 * akT (pw k (a + 2)) + 8 * akT (pw k (a + 3)) := by
  have e0 : a + ((0 : Nat) : Int) = a := by omega
  show ny k a 3 (ny k a 2 (ny k a 1 (ny k a 0 0))) = _
  unfold ny
  rw [e0, show a + ((1 : Nat) : Int) = a + 1 by omega, show a + ((2 : Nat) : Int) = a + 2 by omega, show a + ((3 : Nat) : Int) = a + 3 by omega]
  generalize pw k a = b0
  generalize pw k (a + 1) = b1
  generalize pw k (a + 2) = b2
  generalize pw k (a + 3) = b3
  cases b0 <;> cases b1 <;> cases b2 <;> cases b3 <;> decide +kernel
theorem akk (k : ab) (a : Int) : 0 ≤ ahb k a ∧ ahb k a ≤ 15 := by
  rw [akl]
  have h : ∀ b, 0 ≤ akT b ∧ akT b ≤ 1 := fun b => by cases b <;> decide
  have h0 := h (pw k a)
  have h1 := h (pw k (a + 1))
  have h2 := h (pw k (a + 2))
  have h3 := h (pw k (a + 3))
  omega
def OA (c at' d : Int) (l : List Tm) (n i : Int) (b : Int) (c0 : C9) (S : List Pt) (t : C13) : aG := ((c, at', (), (), (), d, l, n, i, b, ()), (c0, S, t, ()))
def keyOf (t : C13) : ab := ⟨t.1, t.2.1, t.2.2.1, t.2.2.2.1⟩
def jM (s : aG) : Bool := decide (s.1.2.2.2.2.2.1 = 0 ∧ s.1.2.2.2.2.2.2.2.2.2.1 = 0 ∧ 0 ≤ s.1.2.1 ∧ s.1.2.1 ≤ 1000)
def lz (s : aG) : bZ := ((s.1.1, s.1.2.1, (), (), (), ahb (keyOf s.2.2.2.1) s.1.2.1, s.1.2.2.2.2.2.2.1, s.1.2.2.2.2.2.2.2.1, s.1.2.2.2.2.2.2.2.2.1, ()), s.2)
theorem Nz : ∀ s : aG, jM s = true → ∃ m e, aq iY m s = some e ∧ (lB lz s).run = some e := by
  rintro ⟨⟨c, at', ⟨⟩, ⟨⟩, ⟨⟩, d, l, n, i, b, ⟨⟩⟩, ⟨c0, S, t, ⟨⟩⟩⟩ h
  have h' := of_decide_eq_true h
  dsimp only at h'
  obtain ⟨rfl, rfl, ha0, ha1⟩ := h'
  have := (bN (T := iY) (fun b d => (((c, at', (), (), (), d, l, n, i, (b : Int), ()), (c0, S, t, ())) : aG)) (ny (keyOf t) at')
    (fun d => (⟨(.exit 4, gX), ((c, at', (), (), (), d, l, n, i, ()), (c0, S, t, ()))⟩ : aL)) 4 0 (fun _ _ => True) trivial (fun k d hk _ => ⟨?_, trivial⟩) (fun d _ => ?_)).1
  · obtain ⟨m, hm⟩ := this
    exact ⟨m, _, hm, rfl⟩
  · have hr : inR ((k : Int) + 1) = true := bz (by omega)
    have hgr : ∀ z : OT (Sum aG aL), (gd [inR ((k : Int) + 1)] z).run = z.run := fun z => aj (by rw [hr]; rfl)
    refine (OT.ap (decide_eq_true (by dsimp only; omega))).trans ((aj ?_).trans ?_)
    · simp only [List.all_cons, List.all_nil, Bool.and_true]
      exact bz (by omega)
    · unfold ny
      rcases (Bool.eq_false_or_eq_true (pw (keyOf t) (at' + (k : Int)))).symm with hb | hb
      · rw [hb]
        exact (OT.au hb).trans ((hgr _).trans rfl)
      · rw [hb]
        refine (OT.ap hb).trans ((aj ?_).trans rfl)
        simp only [List.all_cons, List.all_nil, Bool.and_true, Bool.and_eq_true]
        exact ⟨decide_eq_true (by omega), hr⟩
  · exact OT.au (decide_eq_false (by dsimp only; omega))
def sU (c a : Int) (l : List Tm) (k : Nat) (S : List Pt) : List Pt := cond (decide (0 < ahb (l.getD k qm).1 a))
  (S.set (ahb (l.getD k qm).1 a - 1).toNat (hX c (S.getD (ahb (l.getD k qm).1 a - 1).toNat gV) (l.getD k qm).2)) S
theorem nH (c a : Int) (l : List Tm) (k : Nat) (S : List Pt) : (sU c a l k S).length = S.length := by
  unfold sU
  cases decide (0 < ahb (l.getD k qm).1 a)
  · rfl
  · exact List.length_set ..
def aiM (c a : Int) (l : List Tm) (S : List Pt) : List Pt := upto (sU c a l) S l.length
def wI (s : aX) : Bool := decide (s.1.2.2.2.2.2.1 = (s.1.2.2.2.2.1.length : Int) ∧ s.1.2.2.2.2.2.2.1 = 0 ∧ s.2.2.1.length = 15 ∧ (0 ≤ s.1.2.1 ∧ s.1.2.1 ≤ 1000) ∧ s.1.2.2.2.2.1.length ≤ 140737488355328)
def Ac (s : aX) : dF := ((s.1.1, (), (), ()), (s.2.1, aiM s.1.1 s.1.2.1 s.1.2.2.2.2.1 s.2.2.1, ()))
theorem aky {ok4 : aG → Bool} {g4 : aG → bZ} {c a : Int} {l : List Tm} {k : Nat} {c0 : C9} {S : List Pt} {t : Tm} {d : Int} (ht : l.getD k qm = t) (hk : k < l.length) (hl : l.length ≤ 140737488355328) (hS : S.length = 15) (hd : 0 ≤ d ∧ d ≤ 15)
    (h4 : ok4 (OA c a 0 l (l.length : Int) (k : Int) 0 c0 S (S5 t)) = true)
    (e4 : g4 (OA c a 0 l (l.length : Int) (k : Int) 0 c0 S (S5 t)) = ((c, a, (), (), (), d, l, (l.length : Int), (k : Int), ()), (c0, S, S5 t, ()))) :
    (eL ok4 g4 ((c, a, (), (), l, (l.length : Int), (k : Int), ()), (c0, S, ()))).run = some (.inl ((c, a, (), (), l, (l.length : Int), ((k + 1 : Nat) : Int), ()), (c0, cond (decide (0 < d)) (S.set (d - 1).toNat (hX c (S.getD (d - 1).toNat gV) t.2)) S, ()))) := by
  have hr : inR ((k : Int) + 1) = true := bz (by omega)
  unfold OA at h4 e4
  unfold eL Ae
  have ht' : List.getD l (Int.toNat (k : Int)) (⟨0, 0, 0, 0⟩, ⟨0, 0, 0, 0⟩, ⟨0, 0, 0, 0⟩, false) = t := by rw [Int.toNat_natCast]; exact ht
  simp only [ht']
  refine (OT.ap (decide_eq_true (by omega))).trans ((aj ?_).trans ?_)
  · simp only [List.all_cons, List.all_nil, Bool.and_true, Bool.and_eq_true]
    exact ⟨bF (by omega), h4⟩
  · have e4' : g4 ((c, a, (), (), (), 0, l, (l.length : Int), (k : Int), 0, ()), (c0.1, c0.2.1, c0.2.2.1, c0.2.2.2.1, c0.2.2.2.2.1, c0.2.2.2.2.2.1, c0.2.2.2.2.2.2.1, c0.2.2.2.2.2.2.2.1, c0.2.2.2.2.2.2.2.2.1, ()), S, (t.1.w0, t.1.w1, t.1.w2, t.1.w3, t.2.1.w0, t.2.1.w1, t.2.1.w2, t.2.1.w3, t.2.2.1.w0, t.2.2.1.w1, t.2.2.1.w2, t.2.2.1.w3, t.2.2.2, ()), ()) = ((c, a, (), (), (), d, l, (l.length : Int), (k : Int), ()), (c0, S, S5 t, ())) := e4
    simp only [e4']
    by_cases h0 : 0 < d
    · rw [decide_eq_true h0]
      refine (OT.ap rfl).trans ((aj ?_).trans ?_)
      · simp only [hS, Nat.add_zero, hr, List.all_cons, List.all_nil, Bool.and_true, Bool.and_eq_true]
        have i1 : inR (d - 1) = true := bz (by omega)
        have i2 : inB (d - 1) 15 = true := bF (by omega)
        have i3 : decide ((d - 1).toNat < 15) = true := decide_eq_true (by omega)
        exact ⟨i1, i1, i2, i3, i2, i3⟩
      · rfl
    · rw [decide_eq_false h0]
      refine (OT.au rfl).trans ((aj ?_).trans rfl)
      simp only [hr, List.all_cons, List.all_nil, Bool.and_true]
theorem NA : ∀ s : aX, wI s = true → ∃ m e, aq (eL jM lz) m s = some e ∧ (lC Ac s).run = some e := by
  rintro ⟨⟨c, at', ⟨⟩, ⟨⟩, l, n, i, ⟨⟩⟩, ⟨c0, S, ⟨⟩⟩⟩ h
  have h' := of_decide_eq_true h
  dsimp only at h'
  obtain ⟨rfl, rfl, hS, ⟨ha0, ha1⟩, hl⟩ := h'
  have := (bN (T := eL jM lz) (fun i o => (((c, at', (), (), l, (l.length : Int), (i : Int), ()), (c0, o, ())) : aX)) (sU c at' l)
    (fun o => (⟨(.exit 2, gY), ((c, (), (), ()), (c0, o, ()))⟩ : aL)) l.length S (fun _ o => o.length = 15) hS (fun k o hk ho => ⟨?_, (nH c at' l k o).trans ho⟩) (fun o ho => ?_)).1
  · obtain ⟨m, hm⟩ := this
    exact ⟨m, _, hm, rfl⟩
  · exact aky rfl hk hl ho (akk _ _) (decide_eq_true ⟨rfl, rfl, ha0, ha1⟩) rfl
  · exact OT.au (decide_eq_false (by dsimp only; omega))
def YK (c : Int) (S : List Pt) (n : Nat) (w : Pt × Pt) : Pt × Pt := (hX c w.1 (S.getD (14 - n) gV), hX c w.2 (hX c w.1 (S.getD (14 - n) gV)))
def amK (c : Int) (S : List Pt) : Pt × Pt := upto (YK c S) (bp, bp) 15
def wH (s : aW) : Bool := decide (s.1.2.2.2.2.2.1 = 14 ∧ s.2.2.1.length = 15 ∧ j1 s.2.2.2.1 = bp ∧ j1 s.2.2.2.2.1 = bp)
def Ab (s : aW) : dE := (((), (), ()), (s.2.1, bf (amK s.1.1 s.2.2.1).2, ()))
theorem Ny : ∀ s : aW, wH s = true → ∃ m e, aq iX m s = some e ∧ (lA Ab s).run = some e := by
  rintro ⟨⟨c, ⟨⟩, ⟨⟩, ⟨⟩, ⟨⟩, i, ⟨⟩⟩, ⟨c0, S, r, a, ⟨⟩⟩⟩ h
  have h' := of_decide_eq_true h
  dsimp only at h'
  obtain ⟨rfl, hS, hr, ha⟩ := h'
  have hr2 : r = bf bp := by rw [← hr]; rfl
  have ha2 : a = bf bp := by rw [← ha]; rfl
  subst hr2 ha2
  have := (bN (T := iX) (fun n w => (((c, (), (), (), (), 14 - (n : Int), ()), (c0, S, bf w.1, bf w.2, ())) : aW)) (YK c S)
    (fun w => (⟨(.exit 6, gW), (((), (), ()), (c0, bf w.2, ()))⟩ : aL)) 15 (bp, bp) (fun _ _ => True) trivial (fun n w hn _ => ⟨?_, trivial⟩) (fun w _ => ?_)).1
  · obtain ⟨m, hm⟩ := this
    exact ⟨m, _, hm, rfl⟩
  · have e1 : ((14 : Int) - (n : Int)).toNat = 14 - n := by omega
    have e2 : (14 : Int) - (n : Int) - 1 = 14 - ((n + 1 : Nat) : Int) := by omega
    refine (OT.ap (decide_eq_true (by dsimp only; omega))).trans ((aj ?_).trans ?_)
    · simp only [e1, hS, Nat.add_zero, List.all_cons, List.all_nil, Bool.and_true, Bool.and_eq_true]
      exact ⟨bF (by omega), decide_eq_true (by omega), bz (by omega)⟩
    · rw [← e2]
      simp only [OT.jx, e1, Nat.add_zero]
      rfl
  · exact OT.au (decide_eq_false (by dsimp only; omega))
def abX (c : Int) (l : List Tm) (a : Int) : Pt := (amK c (aiM c a l (List.replicate 15 bp))).2
theorem Gk {ok4 : aG → Bool} {g4 : aG → bZ} {ok0 : aY → Bool} {g0 : aY → dG} {ok2 : aX → Bool} {g2 : aX → dF} {ok6 : aW → Bool} {g6 : aW → dE} {c a : Int} {l : List Tm} {S0 S : List Pt} {R : Pt} {z : C9}
    (h0 : ok0 ((c, l, a, (), (), 0, ()), (bf gV, List.replicate 15 gV, ())) = true) (e0 : g0 ((c, l, a, (), (), 0, ()), (bf gV, List.replicate 15 gV, ())) = ((c, l, a, (), (), ()), (bf gV, S0, ())))
    (h2 : ok2 ((c, a, (), (), l, (l.length : Int), 0, ()), (bf gV, S0, ())) = true) (e2 : g2 ((c, a, (), (), l, (l.length : Int), 0, ()), (bf gV, S0, ())) = ((c, (), (), ()), (bf gV, S, ())))
    (h6 : ok6 ((c, (), (), (), (), 14, ()), (bf gV, S, bf bp, bf bp, ())) = true) (e6 : g6 ((c, (), (), (), (), 14, ()), (bf gV, S, bf bp, bf bp, ())) = (((), (), ()), (z, bf R, ()))) :
    (kC ok0 g0 ok4 g4 ok2 g2 ok6 g6 c l a).run = some ⟨ly, ((R, ()), ())⟩ := by
  have e0' : g0 ((c, l, a, (), (), 0, ()), ((0, 0, 0, 0, 0, 0, 0, 0, false, ()), [((⟨0, 0, 0, 0⟩, ⟨0, 0, 0, 0⟩, false) : Pt), ((⟨0, 0, 0, 0⟩, ⟨0, 0, 0, 0⟩, false) : Pt), ((⟨0, 0, 0, 0⟩, ⟨0, 0, 0, 0⟩, false) : Pt), ((⟨0, 0, 0, 0⟩, ⟨0, 0, 0, 0⟩, false) : Pt), ((⟨0, 0, 0, 0⟩, ⟨0, 0, 0, 0⟩, false) : Pt), ((⟨0, 0, 0, 0⟩, ⟨0, 0, 0, 0⟩, false) : Pt), ((⟨0, 0, 0, 0⟩, ⟨0, 0, 0, 0⟩, false) : Pt), ((⟨0, 0, 0, 0⟩, ⟨0, 0, 0, 0⟩, false) : Pt), ((⟨0, 0, 0, 0⟩, ⟨0, 0, 0, 0⟩, false) : Pt), ((⟨0, 0, 0, 0⟩, ⟨0, 0, 0, 0⟩, false) : Pt), ((⟨0, 0, 0, 0⟩, ⟨0, 0, 0, 0⟩, false) : Pt), ((⟨0, 0, 0, 0⟩, ⟨0, 0, 0, 0⟩, false) : Pt), ((⟨0, 0, 0, 0⟩, ⟨0, 0, 0, 0⟩, false) : Pt), ((⟨0, 0, 0, 0⟩, ⟨0, 0, 0, 0⟩, false) : Pt), ((⟨0, 0, 0, 0⟩, ⟨0, 0, 0, 0⟩, false) : Pt)], ())) = ((c, l, a, (), (), ()), (bf gV, S0, ())) := e0
  have e2' : g2 ((c, a, (), (), l, (l.length : Int), 0, ()), ((bf gV).1, (bf gV).2.1, (bf gV).2.2.1, (bf gV).2.2.2.1, (bf gV).2.2.2.2.1, (bf gV).2.2.2.2.2.1, (bf gV).2.2.2.2.2.2.1, (bf gV).2.2.2.2.2.2.2.1, (bf gV).2.2.2.2.2.2.2.2.1, ()), S0, ()) = ((c, (), (), ()), (bf gV, S, ())) := e2
  have e6' : g6 ((c, (), (), (), (), 14, ()), ((bf gV).1, (bf gV).2.1, (bf gV).2.2.1, (bf gV).2.2.2.1, (bf gV).2.2.2.2.1, (bf gV).2.2.2.2.2.1, (bf gV).2.2.2.2.2.2.1, (bf gV).2.2.2.2.2.2.2.1, (bf gV).2.2.2.2.2.2.2.2.1, ()), S, (0, 0, 0, 0, 0, 0, 0, 0, true, ()), (0, 0, 0, 0, 0, 0, 0, 0, true, ()), ()) = (((), (), ()), (z, bf R, ())) := e6
  unfold kC
  simp only [e0', e2', e6']
  refine (aj ?_).trans rfl
  simp only [List.all_cons, List.all_nil, Bool.and_true, Bool.and_eq_true]
  exact ⟨h0, h2, h6⟩
theorem yK (c a : Int) (l : List Tm) (S : List Pt) : ∀ n, (upto (sU c a l) S n).length = S.length
  | 0 => rfl
  | n + 1 => (nH c a l n _).trans (yK c a l S n)
def mZ (x : kD) : Bool := decide ((0 ≤ x.1.2.2.1 ∧ x.1.2.2.1 ≤ 1000) ∧ x.1.2.1.length ≤ 140737488355328)
def Ea (x : kD) : OT di.Y := .ok ⟨ly, ((abX x.1.1 x.1.2.1 x.1.2.2.1, ()), ())⟩
theorem Nx : ac Tryz.prog 162 (di.aD mZ Ea) := Gj wJ Ad jM lz wI Ac wH Ab NB Nz NA Ny _ _ fun x oy hp ho => by
  rw [← ho]
  clear ho
  obtain ⟨⟨c, l, a, ⟨⟩⟩, ⟨⟩⟩ := x
  obtain ⟨ha, hl⟩ := of_decide_eq_true hp
  exact Gk (S0 := List.replicate 15 bp) (S := aiM c a l (List.replicate 15 bp)) (R := abX c l a) (z := bf gV) (decide_eq_true ⟨rfl, rfl⟩) rfl
    (decide_eq_true ⟨rfl, rfl, rfl, ha, hl⟩) rfl (decide_eq_true ⟨rfl, yK c a l _ l.length, rfl, rfl⟩) rfl
def lx : cv := (di.aD mZ Ea)
theorem CP : ac Tryz.prog 162 lx := Nx
theorem CO : aF lx := az
def gf : Env := ay 162 lx tB
theorem fK : aQ Tryz.prog gf := ah CP jq
theorem nU : av gf := ae CO BZ
theorem j4 : aV Tryz.prog te gf := aJ follows ar fK nU
def iS : ao := ⟨[.val false .int, .val false (.list xG)], [], true, 0, false⟩
abbrev D2 : Type := ((Int) × (List ((ab × (ab × (ab × Bool))))) × Unit) × (Unit)
def sr : Shape := ⟨39, [(0, .val false .int), (1, .val false (.list (.prod .elem (.prod .elem (.prod .elem .bool))))), (4, .ptr 0 0 0), (5, .ptr 1 0 0), (6, .val false .int)], [(0, .cells [.val false .u64, .val false .u64, .val false .u64, .val false .u64, .val false .u64, .val false .u64, .val false .u64, .val false .u64, .val false .bool]), (1, .cells [.val false .u64, .val false .u64, .val false .u64, .val false .u64, .val false .u64, .val false .u64, .val false .u64, .val false .u64, .val false .bool])], 0, true⟩
abbrev bU : Type := ((Int) × (List ((ab × (ab × (ab × Bool))))) × (Unit) × (Unit) × (Int) × Unit) × (((UInt64) × (UInt64) × (UInt64) × (UInt64) × (UInt64) × (UInt64) × (UInt64) × (UInt64) × (Bool) × Unit) × ((UInt64) × (UInt64) × (UInt64) × (UInt64) × (UInt64) × (UInt64) × (UInt64) × (UInt64) × (Bool) × Unit) × Unit)
def so : Shape := ⟨39, [(0, .val false .int), (1, .val false (.list (.prod .elem (.prod .elem (.prod .elem .bool))))), (4, .ptr 0 0 0), (5, .ptr 1 0 0), (6, .val false .int), (24, .val false .int)], [(0, .cells [.val false .u64, .val false .u64, .val false .u64, .val false .u64, .val false .u64, .val false .u64, .val false .u64, .val false .u64, .val false .bool]), (1, .cells [.val false .u64, .val false .u64, .val false .u64, .val false .u64, .val false .u64, .val false .u64, .val false .u64, .val false .u64, .val false .bool])], 0, true⟩
abbrev be : Type := ((Int) × (List ((ab × (ab × (ab × Bool))))) × (Unit) × (Unit) × (Int) × (Int) × Unit) × (((UInt64) × (UInt64) × (UInt64) × (UInt64) × (UInt64) × (UInt64) × (UInt64) × (UInt64) × (Bool) × Unit) × ((UInt64) × (UInt64) × (UInt64) × (UInt64) × (UInt64) × (UInt64) × (UInt64) × (UInt64) × (Bool) × Unit) × Unit)
def oF : Shape := ⟨39, [(0, .val false .int), (1, .val false (.list (.prod .elem (.prod .elem (.prod .elem .bool))))), (4, .ptr 0 0 0), (5, .ptr 1 0 0), (6, .val false .int)], [(0, .cells [.val false .u64, .val false .u64, .val false .u64, .val false .u64, .val false .u64, .val false .u64, .val false .u64, .val false .u64, .val false .bool]), (1, .cells [.val false .u64, .val false .u64, .val false .u64, .val false .u64, .val false .u64, .val false .u64, .val false .u64, .val false .u64, .val false .bool])], 0, true⟩
abbrev cZ : Type := ((Int) × (List ((ab × (ab × (ab × Bool))))) × (Unit) × (Unit) × (Int) × Unit) × (((UInt64) × (UInt64) × (UInt64) × (UInt64) × (UInt64) × (UInt64) × (UInt64) × (UInt64) × (Bool) × Unit) × ((UInt64) × (UInt64) × (UInt64) × (UInt64) × (UInt64) × (UInt64) × (UInt64) × (UInt64) × (Bool) × Unit) × Unit)
def Sq : SE → Option Shape := jt [(2, oF)] none
def afC (a0 : Int) (a1 : List ((ab × (ab × (ab × Bool))))) (a6 : Int) (a24 : Int) (c0_0 : UInt64) (c0_1 : UInt64) (c0_2 : UInt64) (c0_3 : UInt64) (c0_4 : UInt64) (c0_5 : UInt64) (c0_6 : UInt64) (c0_7 : UInt64) (c0_8 : Bool) (c1_0 : UInt64) (c1_1 : UInt64) (c1_2 : UInt64) (c1_3 : UInt64) (c1_4 : UInt64) (c1_5 : UInt64) (c1_6 : UInt64) (c1_7 : UInt64) (c1_8 : Bool) : OT (Sum be aL) :=
  let z0 : ab × ab × Bool := ({ w0 := c1_0, w1 := c1_1, w2 := c1_2, w3 := c1_3 }, { w0 := c1_4, w1 := c1_5, w2 := c1_6, w3 := c1_7 }, c1_8)
  let z1 : ab × ab × Bool := hX a0 z0 z0
  let z2 := z1.fst
  let z3 := z1.snd
  let z4 := z3.fst
  (.br (decide (a24 < (4 : Int)))
  (gd [inR (a24 + (1 : Int))] (.ok (.inl ((a0, (a1, ((), ((), (a6, (a24 + (1 : Int), ())))))), ((c0_0, (c0_1, (c0_2, (c0_3, (c0_4, (c0_5, (c0_6, (c0_7, (c0_8, ()))))))))), ((z2.w0, (z2.w1, (z2.w2, (z2.w3, (z4.w0, (z4.w1, (z4.w2, (z4.w3, (z3.snd, ()))))))))), ()))))))
  (.ok (.inr ⟨(.exit 2, oF), ((a0, (a1, ((), ((), (a6, ()))))), ((c0_0, (c0_1, (c0_2, (c0_3, (c0_4, (c0_5, (c0_6, (c0_7, (c0_8, ()))))))))), ((c1_0, (c1_1, (c1_2, (c1_3, (c1_4, (c1_5, (c1_6, (c1_7, (c1_8, ()))))))))), ())))⟩)))
def sw (s : be) : OT (Sum be aL) := afC (s.1.1) (s.1.2.1) (s.1.2.2.2.2.1) (s.1.2.2.2.2.2.1) (s.2.1.1) (s.2.1.2.1) (s.2.1.2.2.1) (s.2.1.2.2.2.1) (s.2.1.2.2.2.2.1) (s.2.1.2.2.2.2.2.1) (s.2.1.2.2.2.2.2.2.1) (s.2.1.2.2.2.2.2.2.2.1) (s.2.1.2.2.2.2.2.2.2.2.1) (s.2.2.1.1) (s.2.2.1.2.1) (s.2.2.1.2.2.1) (s.2.2.1.2.2.2.1) (s.2.2.1.2.2.2.2.1) (s.2.2.1.2.2.2.2.2.1) (s.2.2.1.2.2.2.2.2.2.1) (s.2.2.1.2.2.2.2.2.2.2.1) (s.2.2.1.2.2.2.2.2.2.2.2.1)
theorem afx (s : be) (Q : Sum be aL → Prop) : wps te gf ax 1000 (bE (bE (al Tryz.f148) 0) 2) (so.inj s) (cM so Sq (Q : Sum so.T aL → Prop)) = (sw s).wpR Q := by kernel_rfl
def yg (g2_2 : be → cZ) (s : be) : OT aL := (.ok ⟨(.exit 2, oF), g2_2 s⟩)
def oG : Shape := ⟨39, [(4, .ptr 0 0 0), (5, .ptr 1 0 0)], [(0, .cells [.val false .u64, .val false .u64, .val false .u64, .val false .u64, .val false .u64, .val false .u64, .val false .u64, .val false .u64, .val false .bool]), (1, .cells [.val false .u64, .val false .u64, .val false .u64, .val false .u64, .val false .u64, .val false .u64, .val false .u64, .val false .u64, .val false .bool])], 0, true⟩
abbrev fT : Type := ((Unit) × (Unit) × Unit) × (((UInt64) × (UInt64) × (UInt64) × (UInt64) × (UInt64) × (UInt64) × (UInt64) × (UInt64) × (Bool) × Unit) × ((UInt64) × (UInt64) × (UInt64) × (UInt64) × (UInt64) × (UInt64) × (UInt64) × (UInt64) × (Bool) × Unit) × Unit)
def Sr : SE → Option Shape := jt [(0, oG)] none
def Ss (ok2 : be → Bool) (g2_2 : be → cZ) (a0 : Int) (a1 : List ((ab × (ab × (ab × Bool))))) (a6 : Int) (c0_0 : UInt64) (c0_1 : UInt64) (c0_2 : UInt64) (c0_3 : UInt64) (c0_4 : UInt64) (c0_5 : UInt64) (c0_6 : UInt64) (c0_7 : UInt64) (c0_8 : Bool) (c1_0 : UInt64) (c1_1 : UInt64) (c1_2 : UInt64) (c1_3 : UInt64) (c1_4 : UInt64) (c1_5 : UInt64) (c1_6 : UInt64) (c1_7 : UInt64) (c1_8 : Bool) : OT (Sum bU aL) :=
  let z0 : (Int × List (ab × ab × ab × Bool) × PUnit × PUnit × Int × Int × PUnit) × (UInt64 × UInt64 × UInt64 × UInt64 × UInt64 × UInt64 × UInt64 × UInt64 × Bool × PUnit) × (UInt64 × UInt64 × UInt64 × UInt64 × UInt64 × UInt64 × UInt64 × UInt64 × Bool × PUnit) × PUnit := ((a0, a1, (), (), a6, (0 : Int), ()), (c0_0, c0_1, c0_2, c0_3, c0_4, c0_5, c0_6, c0_7, c0_8, ()), (c1_0, c1_1, c1_2, c1_3, c1_4, c1_5, c1_6, c1_7, c1_8, ()), ())
  let z1 : (Int × List (ab × ab × ab × Bool) × PUnit × PUnit × Int × PUnit) × (UInt64 × UInt64 × UInt64 × UInt64 × UInt64 × UInt64 × UInt64 × UInt64 × Bool × PUnit) × (UInt64 × UInt64 × UInt64 × UInt64 × UInt64 × UInt64 × UInt64 × UInt64 × Bool × PUnit) × PUnit := g2_2 z0
  let z2 := z1.fst
  let z3 := z2.fst
  let z4 := z2.snd
  let z5 := z4.fst
  let z6 := z4.snd.snd.snd.fst
  let z7 := z1.snd
  let z8 := z7.fst
  let z9 := z8.snd
  let z10 := z9.snd
  let z11 := z10.snd
  let z12 := z11.snd
  let z13 := z12.snd
  let z14 := z13.snd
  let z15 := z14.snd
  let z16 := z7.snd.fst
  let z17 := z16.snd
  let z18 := z17.snd
  let z19 := z18.snd
  let z20 := z19.snd
  let z21 := z20.snd
  let z22 := z21.snd
  let z23 := z22.snd
  let z24 : ab × ab × Bool := hX z3 ({ w0 := z16.fst, w1 := z17.fst, w2 := z18.fst, w3 := z19.fst }, { w0 := z20.fst, w1 := z21.fst, w2 := z22.fst, w3 := z23.fst }, z23.snd.fst) (abX z3 z5 z6)
  let z25 := z24.fst
  let z26 := z24.snd
  let z27 := z26.fst
  (.br (decide ((0 : Int) ≤ a6))
  (gd [ok2 z0, mZ ((z3, z5, z6, ()), ()), inR (z6 - (4 : Int))] (.ok (.inl ((z3, (z5, ((), ((), (z6 - (4 : Int), ()))))), ((z8.fst, (z9.fst, (z10.fst, (z11.fst, (z12.fst, (z13.fst, (z14.fst, (z15.fst, (z15.snd.fst, ()))))))))), ((z25.w0, (z25.w1, (z25.w2, (z25.w3, (z27.w0, (z27.w1, (z27.w2, (z27.w3, (z26.snd, ()))))))))), ()))))))
  (.ok (.inr ⟨(.exit 0, oG), (((), ((), ())), ((c0_0, (c0_1, (c0_2, (c0_3, (c0_4, (c0_5, (c0_6, (c0_7, (c0_8, ()))))))))), ((c1_0, (c1_1, (c1_2, (c1_3, (c1_4, (c1_5, (c1_6, (c1_7, (c1_8, ()))))))))), ())))⟩)))
def lv (ok2 : be → Bool) (g2_2 : be → cZ) (s : bU) : OT (Sum bU aL) := Ss ok2 g2_2 (s.1.1) (s.1.2.1) (s.1.2.2.2.2.1) (s.2.1.1) (s.2.1.2.1) (s.2.1.2.2.1) (s.2.1.2.2.2.1) (s.2.1.2.2.2.2.1) (s.2.1.2.2.2.2.2.1) (s.2.1.2.2.2.2.2.2.1) (s.2.1.2.2.2.2.2.2.2.1) (s.2.1.2.2.2.2.2.2.2.2.1) (s.2.2.1.1) (s.2.2.1.2.1) (s.2.2.1.2.2.1) (s.2.2.1.2.2.2.1) (s.2.2.1.2.2.2.2.1) (s.2.2.1.2.2.2.2.2.1) (s.2.2.1.2.2.2.2.2.2.1) (s.2.2.1.2.2.2.2.2.2.2.1) (s.2.2.1.2.2.2.2.2.2.2.2.1)
theorem afy (ok2 : be → Bool) (g2_2 : be → cZ) (s : bU) (Q : Sum bU aL → Prop) : wps te gf (bg 2 (db so 2 ok2 (yg g2_2)) ax) 1000 (bE (al Tryz.f148) 0) (sr.inj s) (cM sr Sr (Q : Sum sr.T aL → Prop)) = (lv ok2 g2_2 s).wpR Q := by kernel_rfl
def yh (g0_0 : bU → fT) (s : bU) : OT aL := (.ok ⟨(.exit 0, oG), g0_0 s⟩)
def oE : aw := ⟨[.val true (.prod .elem (.prod .elem .bool))], [], false⟩
def JC : SV → Option aw := fun _ => some oE
def vi (ok2 : be → Bool) (g2_2 : be → cZ) (ok0 : bU → Bool) (g0_0 : bU → fT) (a0 : Int) (a1 : List ((ab × (ab × (ab × Bool))))) : OT iS.Y :=
  let z0 : Int := Int.tdiv ((↑(LO a1) : Int) + (4 : Int) - (1 : Int)) (4 : Int)
  let z1 : (Int × List (ab × ab × ab × Bool) × PUnit × PUnit × Int × PUnit) × (UInt64 × UInt64 × UInt64 × UInt64 × UInt64 × UInt64 × UInt64 × UInt64 × Bool × PUnit) × (UInt64 × UInt64 × UInt64 × UInt64 × UInt64 × UInt64 × UInt64 × UInt64 × Bool × PUnit) × PUnit := ((a0, a1, (), (), z0 * (4 : Int), ()), ((0 : UInt64), (0 : UInt64), (0 : UInt64), (0 : UInt64), (0 : UInt64), (0 : UInt64), (0 : UInt64), (0 : UInt64), false, ()), ((0 : UInt64), (0 : UInt64), (0 : UInt64), (0 : UInt64), (0 : UInt64), (0 : UInt64), (0 : UInt64), (0 : UInt64), true, ()), ())
  let z2 := (g0_0 z1).snd.snd.fst
  let z3 := z2.snd
  let z4 := z3.snd
  let z5 := z4.snd
  let z6 := z5.snd
  let z7 := z6.snd
  let z8 := z7.snd
  let z9 := z8.snd
  (.br (decide ((↑(List.length a1) : Int) < (24 : Int)))
  (gd [qq ((a0, a1, ()), ())] (.ok ⟨oE, ((rA a0 a1, ()), ())⟩))
  (gd [F4 ((a1, ()), ()), inR ((↑(LO a1) : Int) + (4 : Int)), inR ((↑(LO a1) : Int) + (4 : Int) - (1 : Int)), true && inR z0, inR (z0 * (4 : Int)), ok0 z1] (.ok ⟨oE, ((({ w0 := z2.fst, w1 := z3.fst, w2 := z4.fst, w3 := z5.fst }, { w0 := z6.fst, w1 := z7.fst, w2 := z8.fst, w3 := z9.fst }, z9.snd.fst), ()), ())⟩)))
theorem ajB (ok2 : be → Bool) (g2_2 : be → cZ) (ok0 : bU → Bool) (g0_0 : bU → fT) (x : D2) (Q : iS.Y → Prop) : wpf te gf (bg 0 (db sr 0 ok0 (yh g0_0)) ax) 1000 Tryz.f148 (iS.inp.inj x).tm (iS.inp.inj x).hp (fnK iS JC Q) (fun _ _ => False) = (vi ok2 g2_2 ok0 g0_0 (x.1.1) (x.1.2.1)).wpR Q := by kernel_rfl
theorem U4 (ok2 : be → Bool) (g2_2 : be → cZ) (ok0 : bU → Bool) (g0_0 : bU → fT) (h2 : ∀ s : be, ok2 s = true → ∃ m e, aq (sw) m s = some e ∧ (yg g2_2 s).run = some e) (h0 : ∀ s : bU, ok0 s = true → ∃ m e, aq (lv ok2 g2_2) m s = some e ∧ (yh g0_0 s).run = some e) (pre : D2 → Bool) (F : D2 → OT iS.Y) (hF : ∀ (x : D2) oy, pre x = true → (F x).run = some oy → (vi ok2 g2_2 ok0 g0_0 (x.1.1) (x.1.2.1)).run = some oy) : ac Tryz.prog 148 (iS.aD pre F) :=
  aB ar fK j4 (f := 148) (fn := Tryz.f148) (c := al Tryz.f148) (by kernel_rfl) (by kernel_rfl) (by kernel_rfl) (S := iS) (k := 0) (by kernel_rfl) (fun R hR => (aC (c := (al Tryz.f148)) (by kernel_rfl) (id := 0) (by kernel_rfl) (bo ar fK j4 (sh := sr) hR (xs := Sr) (aE (by kernel_rfl) (by kernel_rfl) hR) aS (aC (c := (bE (al Tryz.f148) 0)) (by kernel_rfl) (id := 2) (by kernel_rfl) (bo ar fK j4 (sh := so) hR (xs := Sq) (aE (by kernel_rfl) (by kernel_rfl) hR) aS ag (n := 1000) (T := sw) (fun s Q => afx s Q) (ok := ok2) (f := yg g2_2) h2) ag) (n := 1000) (T := lv ok2 g2_2) (fun s Q => afy ok2 g2_2 s Q) (ok := ok0) (f := yh g0_0) h0) ag)) (n := 1000) (sel := JC) (fun v o h => by cases h; rfl) (pre := pre) (F := F) (T := fun x => vi ok2 g2_2 ok0 g0_0 (x.1.1) (x.1.2.1)) (fun x Q => ajB ok2 g2_2 ok0 g0_0 x Q) hF
theorem LP (l : List Tm) : ∀ n, acv l n ≤ n
  | 0 => Nat.le_refl _
  | n + 1 => by
    unfold acv
    cases al7 l (n : Int)
    · exact Nat.le_succ_of_le (LP l n)
    · exact Nat.le_refl _
def amy (c : Int) (O : Pt) : Pt := upto (fun _ o => hX c o o) O 4
def mW (s : be) : Bool := decide (s.1.2.2.2.2.2.1 = 0)
def su (s : be) : cZ := ((s.1.1, s.1.2.1, (), (), s.1.2.2.2.2.1, ()), (s.2.1, bf (amy s.1.1 (j1 s.2.2.1)), ()))
theorem afA : ∀ s : be, mW s = true → ∃ m e, aq sw m s = some e ∧ (yg su s).run = some e := by
  rintro ⟨⟨c, l, ⟨⟩, ⟨⟩, a, i, ⟨⟩⟩, ⟨c0, c1, ⟨⟩⟩⟩ h
  have h' := of_decide_eq_true h
  dsimp only at h'
  subst h'
  have := (bN (T := sw) (fun i O => (((c, l, (), (), a, (i : Int), ()), (c0, bf O, ())) : be)) (fun _ o => hX c o o)
    (fun O => (⟨(.exit 2, oF), ((c, l, (), (), a, ()), (c0, bf O, ()))⟩ : aL)) 4 (j1 c1) (fun _ _ => True) trivial (fun k O hk _ => ⟨?_, trivial⟩) (fun O _ => ?_)).1
  · obtain ⟨m, hm⟩ := this
    exact ⟨m, _, hm, rfl⟩
  · refine (OT.ap (decide_eq_true (by dsimp only; omega))).trans ((aj ?_).trans rfl)
    simp only [List.all_cons, List.all_nil, Bool.and_true]
    exact bz (by omega)
  · exact OT.au (decide_eq_false (by dsimp only; omega))
def W3 (c : Int) (l : List Tm) (W n : Nat) (O : Pt) : Pt := hX c (amy c O) (abX c l (4 * (W : Int) - 4 * (n : Int)))
def CG (l : List Tm) : Nat := (LO l + 3) / 4
def amc (c : Int) (l : List Tm) : Pt := upto (W3 c l (CG l)) bp (CG l + 1)
def W2 (c : Int) (l : List Tm) (a : Int) (c0 : C9) (O : Pt) : be := ((c, l, (), (), a, 0, ()), (c0, bf O, ()))
theorem akW {ok2 : be → Bool} {g2 : be → cZ} {c a : Int} {l : List Tm} {c0 : C9} {O D : Pt} (h0 : 0 ≤ a) (h1 : a ≤ 1000) (hl : l.length ≤ 140737488355328) (hok : ok2 (W2 c l a c0 O) = true)
    (e2 : g2 (W2 c l a c0 O) = ((c, l, (), (), a, ()), (c0, bf D, ()))) :
    (lv ok2 g2 ((c, l, (), (), a, ()), (c0, bf O, ()))).run = some (.inl ((c, l, (), (), a - 4, ()), (c0, bf (hX c D (abX c l a)), ()))) := by
  unfold W2 at hok e2
  have e2' : g2 ((c, l, (), (), a, 0, ()), (c0.1, c0.2.1, c0.2.2.1, c0.2.2.2.1, c0.2.2.2.2.1, c0.2.2.2.2.2.1, c0.2.2.2.2.2.2.1, c0.2.2.2.2.2.2.2.1, c0.2.2.2.2.2.2.2.2.1, ()), ((bf O).1, (bf O).2.1, (bf O).2.2.1, (bf O).2.2.2.1, (bf O).2.2.2.2.1, (bf O).2.2.2.2.2.1, (bf O).2.2.2.2.2.2.1, (bf O).2.2.2.2.2.2.2.1, (bf O).2.2.2.2.2.2.2.2.1, ()), ()) = ((c, l, (), (), a, ()), (c0, bf D, ())) := e2
  unfold lv Ss
  simp only [e2']
  refine (OT.ap (decide_eq_true h0)).trans ((aj ?_).trans rfl)
  simp only [List.all_cons, List.all_nil, Bool.and_true, Bool.and_eq_true]
  exact ⟨hok, decide_eq_true ⟨⟨h0, h1⟩, hl⟩, bz (by omega)⟩
def zM (s : bU) : Bool := decide (s.1.2.2.2.2.1 = 4 * (CG s.1.2.1 : Int) ∧ j1 s.2.2.1 = bp ∧ s.1.2.1.length ≤ 140737488355328)
def Ga (s : bU) : fT := (((), (), ()), (s.2.1, bf (amc s.1.1 s.1.2.1), ()))
theorem afB : ∀ s : bU, zM s = true → ∃ m e, aq (lv mW su) m s = some e ∧ (yh Ga s).run = some e := by
  rintro ⟨⟨c, l, ⟨⟩, ⟨⟩, a, ⟨⟩⟩, ⟨c0, c1, ⟨⟩⟩⟩ h
  have h' := of_decide_eq_true h
  dsimp only at h'
  obtain ⟨rfl, hO, hl⟩ := h'
  have hO2 : c1 = bf bp := by rw [← hO]; rfl
  subst hO2
  have hW : CG l ≤ 64 := by
    have := LP l 256
    unfold CG LO
    omega
  have := (bN (T := lv mW su) (fun n O => (((c, l, (), (), 4 * (CG l : Int) - 4 * (n : Int), ()), (c0, bf O, ())) : bU)) (W3 c l (CG l))
    (fun O => (⟨(.exit 0, oG), (((), (), ()), (c0, bf O, ()))⟩ : aL)) (CG l + 1) bp (fun _ _ => True) trivial (fun n O hn _ => ⟨?_, trivial⟩) (fun O _ => ?_)).1
  · obtain ⟨m, hm⟩ := this
    refine ⟨m, _, ?_, rfl⟩
    have e : 4 * (CG l : Int) - 4 * ((0 : Nat) : Int) = 4 * (CG l : Int) := by omega
    rw [e] at hm
    exact hm
  · have e : 4 * (CG l : Int) - 4 * ((n + 1 : Nat) : Int) = 4 * (CG l : Int) - 4 * (n : Int) - 4 := by omega
    rw [e]
    exact akW (D := amy c O) (by omega) (by omega) hl (decide_eq_true rfl) rfl
  · exact OT.au (decide_eq_false (by dsimp only; omega))
def amw (l : List Tm) : Bool := decide ((l.length : Int) < 24)
def Ro (c : Int) (l : List Tm) : Pt := cond (amw l) (rA c l) (amc c l)
def ss (x : D2) : Bool := decide (x.1.2.1.length ≤ 140737488355328)
def aaf (x : D2) : OT iS.Y := .ok ⟨oE, ((Ro x.1.1 x.1.2.1, ()), ())⟩
theorem U5 {ok2 : be → Bool} {g2 : be → cZ} {ok0 : bU → Bool} {g0 : bU → fT} {c : Int} {l : List Tm} {R : Pt} (hl : l.length ≤ 140737488355328) (hf : amw l = false)
    (h0 : ok0 ((c, l, (), (), 4 * (CG l : Int), ()), (bf gV, bf bp, ())) = true) (e0 : g0 ((c, l, (), (), 4 * (CG l : Int), ()), (bf gV, bf bp, ())) = (((), (), ()), (bf gV, bf R, ()))) :
    (vi ok2 g2 ok0 g0 c l).run = some ⟨oE, ((R, ()), ())⟩ := by
  have ht : Int.tdiv ((LO l : Int) + 4 - 1) 4 = (CG l : Int) := by
    unfold CG
    rw [Int.tdiv_eq_ediv_of_nonneg (by omega)]
    omega
  have hW := LP l 256
  have hW : LO l ≤ 256 := hW
  have hW2 : CG l ≤ 64 := by unfold CG; omega
  have e1 : (CG l : Int) * 4 = 4 * (CG l : Int) := Int.mul_comm _ _
  unfold vi
  have e0' : g0 ((c, l, (), (), 4 * (CG l : Int), ()), (0, 0, 0, 0, 0, 0, 0, 0, false, ()), (0, 0, 0, 0, 0, 0, 0, 0, true, ()), ()) = (((), (), ()), (bf gV, bf R, ())) := e0
  simp only [ht, e1, e0']
  refine (OT.au hf).trans ((aj ?_).trans rfl)
  simp only [List.all_cons, List.all_nil, Bool.and_true, Bool.true_and, Bool.and_eq_true]
  exact ⟨decide_eq_true hl, bz (by omega), bz (by omega), bz (by omega), bz (by omega), h0⟩
theorem afz : ac Tryz.prog 148 (iS.aD ss aaf) := U4 mW su zM Ga afA afB _ _ fun x oy hp ho => by
  rw [← ho]
  clear ho
  obtain ⟨⟨c, l, ⟨⟩⟩, ⟨⟩⟩ := x
  have hl : l.length ≤ 140737488355328 := of_decide_eq_true hp
  show (vi mW su zM Ga c l).run = some ⟨oE, ((Ro c l, ()), ())⟩
  rcases (Bool.eq_false_or_eq_true (amw l)).symm with hf | hf
  · have e : Ro c l = amc c l := by unfold Ro; rw [hf]; rfl
    rw [e]
    exact U5 (R := amc c l) hl hf (decide_eq_true ⟨rfl, rfl, hl⟩) rfl
  · have e : Ro c l = rA c l := by unfold Ro; rw [hf]; rfl
    rw [e]
    refine (OT.ap hf).trans ((aj ?_).trans rfl)
    simp only [List.all_cons, List.all_nil, Bool.and_true]
    exact hp
def vh : cv := (iS.aD ss aaf)
theorem Nq : ac Tryz.prog 148 vh := afz
theorem Np : aF vh := az
def B3 : Env := ay 148 vh gf
theorem wb : aQ Tryz.prog B3 := ah Nq fK
theorem xr : av B3 := ae Np nU
theorem O7 : aV Tryz.prog te B3 := aJ follows ar wb xr
def fp : ao := ⟨[.ptr 0 0 0], [(0, amM (.own 1)), (1, .row xG)], false, 2, true⟩
abbrev ve : Type := ((Unit) × Unit) × (((Int) × (Unit) × Unit) × (List ((ab × (ab × (ab × Bool))))) × Unit)
def zG : aw := ⟨[.val true (.prod .elem (.prod .elem .bool))], [(0, .cells [.val false .int, .own 1]), (1, .row (.prod .elem (.prod .elem (.prod .elem .bool))))], false⟩
def DZ : SV → Option aw := fun _ => some zG
def F3 (c0_0 : Int) (c1 : List ((ab × (ab × (ab × Bool))))) : OT fp.Y :=
  (gd [ss ((c0_0, c1, ()), ())] (.ok ⟨zG, ((Ro c0_0 c1, ()), ((c0_0, ((), ())), (c1, ())))⟩))
theorem afu (x : ve) (Q : fp.Y → Prop) : wpf te B3 ax 1000 Tryz.f116 (fp.inp.inj x).tm (fp.inp.inj x).hp (fnK fp DZ Q) (fun _ _ => False) = (F3 (x.2.1.1) (x.2.2.1)).wpR Q := by kernel_rfl
theorem Nh (pre : ve → Bool) (F : ve → OT fp.Y) (hF : ∀ (x : ve) oy, pre x = true → (F x).run = some oy → (F3 (x.2.1.1) (x.2.2.1)).run = some oy) : ac Tryz.prog 116 (fp.aD pre F) :=
  aB ar wb O7 (f := 116) (fn := Tryz.f116) (c := al Tryz.f116) (by kernel_rfl) (by kernel_rfl) (by kernel_rfl) (S := fp) (k := 2) (by kernel_rfl) (fun R hR => ag) (n := 1000) (sel := DZ) (fun v o h => by cases h; rfl) (pre := pre) (F := F) (T := fun x => F3 (x.2.1.1) (x.2.2.1)) (fun x Q => afu x Q) hF
def vd (x : ve) : Bool := ss ((x.2.1.1, x.2.2.1, ()), ())
def Sj (x : ve) : OT fp.Y := .ok ⟨zG, ((Ro x.2.1.1 x.2.2.1, ()), ((x.2.1.1, ((), ())), (x.2.2.1, ())))⟩
theorem Z3 : ac Tryz.prog 116 (fp.aD vd Sj) := Nh _ _ fun x oy hp ho => by
  rw [← ho]
  clear ho
  refine (aj ?_).trans rfl
  simp only [List.all_cons, List.all_nil, Bool.and_true]
  exact hp
def qn : cv := (fp.aD vd Sj)
theorem Jy : ac Tryz.prog 116 qn := Z3
theorem Jx : aF qn := az
def pe : Env := ay 116 qn B3
theorem lW : aQ Tryz.prog pe := ah Jy wb
theorem tA : av pe := ae Jx xr
theorem xp : aV Tryz.prog te pe := aJ follows ar lW tA
def l9 : ao := ⟨[.val false .int, .val false (.list xG)], [], true, 0, false⟩
abbrev U3 : Type := ((Int) × (List ((ab × (ab × (ab × Bool))))) × Unit) × (Unit)
def zL : Shape := ⟨45, [(4, .ptr 0 0 0), (6, .ptr 1 0 0), (26, .val false (.list (.prod .elem (.prod .elem (.prod .elem .bool))))), (27, .val false .int), (28, .val false .int)], [(0, .cells [.val false .u64, .val false .u64, .val false .u64, .val false .u64, .val false .u64, .val false .u64, .val false .u64, .val false .u64, .val false .bool]), (1, .cells [.val false .int, .own 2]), (2, .row (.prod .elem (.prod .elem (.prod .elem .bool))))], 0, true⟩
abbrev bx : Type := ((Unit) × (Unit) × (List ((ab × (ab × (ab × Bool))))) × (Int) × (Int) × Unit) × (((UInt64) × (UInt64) × (UInt64) × (UInt64) × (UInt64) × (UInt64) × (UInt64) × (UInt64) × (Bool) × Unit) × ((Int) × (Unit) × Unit) × (List ((ab × (ab × (ab × Bool))))) × Unit)
def iR : Shape := ⟨45, [(4, .ptr 0 0 0), (5, .val false .int)], [(0, .cells [.val false .u64, .val false .u64, .val false .u64, .val false .u64, .val false .u64, .val false .u64, .val false .u64, .val false .u64, .val false .bool])], 0, true⟩
abbrev kw : Type := ((Unit) × (Int) × Unit) × (((UInt64) × (UInt64) × (UInt64) × (UInt64) × (UInt64) × (UInt64) × (UInt64) × (UInt64) × (Bool) × Unit) × Unit)
def sn : Shape := ⟨45, [(4, .ptr 0 0 0), (6, .ptr 1 0 0)], [(0, .cells [.val false .u64, .val false .u64, .val false .u64, .val false .u64, .val false .u64, .val false .u64, .val false .u64, .val false .u64, .val false .bool]), (1, .cells [.val false .int, .own 2]), (2, .row (.prod .elem (.prod .elem (.prod .elem .bool))))], 0, true⟩
abbrev kx : Type := ((Unit) × (Unit) × Unit) × (((UInt64) × (UInt64) × (UInt64) × (UInt64) × (UInt64) × (UInt64) × (UInt64) × (UInt64) × (Bool) × Unit) × ((Int) × (Unit) × Unit) × (List ((ab × (ab × (ab × Bool))))) × Unit)
def aad : SE → Option Shape := jt [(1, sn)] (some iR)
def ajA (a26 : List ((ab × (ab × (ab × Bool))))) (a27 : Int) (a28 : Int) (c0_0 : UInt64) (c0_1 : UInt64) (c0_2 : UInt64) (c0_3 : UInt64) (c0_4 : UInt64) (c0_5 : UInt64) (c0_6 : UInt64) (c0_7 : UInt64) (c0_8 : Bool) (c1_0 : Int) (c2 : List ((ab × (ab × (ab × Bool))))) : OT (Sum bx aL) :=
  let z0 : ab := { w0 := 0, w1 := 0, w2 := 0, w3 := 0 }
  let z1 : ab × ab × ab × Bool := List.getD a26 (Int.toNat a28) (z0, z0, z0, false)
  let z2 := z1.snd
  (.br (decide (a28 < a27))
  (gd [inB a28 (List.length a26)] (.br (onB c1_0 z2)
    (.br (H4 c2)
      (gd [inR (a28 + (1 : Int))] (.ok (.inl (((), ((), (a26, (a27, (a28 + (1 : Int), ()))))), ((c0_0, (c0_1, (c0_2, (c0_3, (c0_4, (c0_5, (c0_6, (c0_7, (c0_8, ()))))))))), ((c1_0, ((), ())), (c2 ++ [(LZ c1_0 z1.fst, z2)], ())))))))
      (.ok (.inr ⟨(.ret, iR), (((), ((50 : Int), ())), (((0 : UInt64), ((0 : UInt64), ((0 : UInt64), ((0 : UInt64), ((0 : UInt64), ((0 : UInt64), ((0 : UInt64), ((0 : UInt64), (false, ()))))))))), ()))⟩)))
    (.ok (.inr ⟨(.ret, iR), (((), ((41 : Int), ())), (((0 : UInt64), ((0 : UInt64), ((0 : UInt64), ((0 : UInt64), ((0 : UInt64), ((0 : UInt64), ((0 : UInt64), ((0 : UInt64), (false, ()))))))))), ()))⟩))))
  (.ok (.inr ⟨(.exit 1, sn), (((), ((), ())), ((c0_0, (c0_1, (c0_2, (c0_3, (c0_4, (c0_5, (c0_6, (c0_7, (c0_8, ()))))))))), ((c1_0, ((), ())), (c2, ()))))⟩)))
def vg (s : bx) : OT (Sum bx aL) := ajA (s.1.2.2.1) (s.1.2.2.2.1) (s.1.2.2.2.2.1) (s.2.1.1) (s.2.1.2.1) (s.2.1.2.2.1) (s.2.1.2.2.2.1) (s.2.1.2.2.2.2.1) (s.2.1.2.2.2.2.2.1) (s.2.1.2.2.2.2.2.2.1) (s.2.1.2.2.2.2.2.2.2.1) (s.2.1.2.2.2.2.2.2.2.2.1) (s.2.2.1.1) (s.2.2.2.1)
theorem ajx (s : bx) (Q : Sum bx aL → Prop) : wps te pe ax 1000 (bE (al Tryz.f74) 1) (zL.inj s) (cM zL aad (Q : Sum zL.T aL → Prop)) = (vg s).wpR Q := by kernel_rfl
def F9 (g1_r : bx → kw) (c1_r : bx → Bool) (g1_1 : bx → kx) (s : bx) : OT aL := (.br (c1_r s) (.ok ⟨(.ret, iR), g1_r s⟩) (.ok ⟨(.exit 1, sn), g1_1 s⟩))
def fS : aw := ⟨[.val true (.prod .elem (.prod .elem .bool)), .val false .int], [], false⟩
def Sn : SV → Option aw := fun _ => some fS
def Sp (ok1 : bx → Bool) (g1_r : bx → kw) (c1_r : bx → Bool) (g1_1 : bx → kx) (a0 : Int) (a1 : List ((ab × (ab × (ab × Bool))))) : OT l9.Y :=
  let z0 : Int := (↑(List.length a1) : Int)
  let z1 : ab := { w0 := 0, w1 := 0, w2 := 0, w3 := 0 }
  let z2 : ab × ab × Bool := (z1, z1, false)
  let z3 : (PUnit × PUnit × List (ab × ab × ab × Bool) × Int × Int × PUnit) × (UInt64 × UInt64 × UInt64 × UInt64 × UInt64 × UInt64 × UInt64 × UInt64 × Bool × PUnit) × (Int × PUnit × PUnit) × List (ab × ab × ab × Bool) × PUnit := (((), (), a1, z0, (0 : Int), ()), ((0 : UInt64), (0 : UInt64), (0 : UInt64), (0 : UInt64), (0 : UInt64), (0 : UInt64), (0 : UInt64), (0 : UInt64), false, ()), (a0, (), ()), [], ())
  let z4 : (PUnit × Int × PUnit) × (UInt64 × UInt64 × UInt64 × UInt64 × UInt64 × UInt64 × UInt64 × UInt64 × Bool × PUnit) × PUnit := g1_r z3
  let z5 := z4.snd.fst
  let z6 := z5.snd
  let z7 := z6.snd
  let z8 := z7.snd
  let z9 := z8.snd
  let z10 := z9.snd
  let z11 := z10.snd
  let z12 := z11.snd
  let z13 := (g1_1 z3).snd.snd
  let z14 := z13.fst.fst
  let z15 := z13.snd.fst
  (.br (ak a0)
  (.br (decide ((100000 : Int) < z0))
    (.ok ⟨fS, ((z2, ((50 : Int), ())), ())⟩)
    (gd [ok1 z3] (.br (c1_r z3)
      (.ok ⟨fS, ((({ w0 := z5.fst, w1 := z6.fst, w2 := z7.fst, w3 := z8.fst }, { w0 := z9.fst, w1 := z10.fst, w2 := z11.fst, w3 := z12.fst }, z12.snd.fst), (z4.fst.snd.fst, ())), ())⟩)
      (gd [vd (((), ()), (z14, (), ()), z15, ())] (.ok ⟨fS, ((Ro z14 z15, ((0 : Int), ())), ())⟩)))))
  (.ok ⟨fS, ((z2, ((40 : Int), ())), ())⟩))
theorem alw (ok1 : bx → Bool) (g1_r : bx → kw) (c1_r : bx → Bool) (g1_1 : bx → kx) (x : U3) (Q : l9.Y → Prop) : wpf te pe (bg 1 (db zL 1 ok1 (F9 g1_r c1_r g1_1)) ax) 1000 Tryz.f74 (l9.inp.inj x).tm (l9.inp.inj x).hp (fnK l9 Sn Q) (fun _ _ => False) = (Sp ok1 g1_r c1_r g1_1 (x.1.1) (x.1.2.1)).wpR Q := by kernel_rfl
theorem aae (ok1 : bx → Bool) (g1_r : bx → kw) (c1_r : bx → Bool) (g1_1 : bx → kx) (h1 : ∀ s : bx, ok1 s = true → ∃ m e, aq (vg) m s = some e ∧ (F9 g1_r c1_r g1_1 s).run = some e) (pre : U3 → Bool) (F : U3 → OT l9.Y) (hF : ∀ (x : U3) oy, pre x = true → (F x).run = some oy → (Sp ok1 g1_r c1_r g1_1 (x.1.1) (x.1.2.1)).run = some oy) : ac Tryz.prog 74 (l9.aD pre F) :=
  aB ar lW xp (f := 74) (fn := Tryz.f74) (c := al Tryz.f74) (by kernel_rfl) (by kernel_rfl) (by kernel_rfl) (S := l9) (k := 0) (by kernel_rfl) (fun R hR => (aC (c := (al Tryz.f74)) (by kernel_rfl) (id := 1) (by kernel_rfl) (bo ar lW xp (sh := zL) hR (xs := aad) (aE (by kernel_rfl) (by kernel_rfl) hR) aS ag (n := 1000) (T := vg) (fun s Q => ajx s Q) (ok := ok1) (f := F9 g1_r c1_r g1_1) h1) ag)) (n := 1000) (sel := Sn) (fun v o h => by cases h; rfl) (pre := pre) (F := F) (T := fun x => Sp ok1 g1_r c1_r g1_1 (x.1.1) (x.1.2.1)) (fun x Q => alw ok1 g1_r c1_r g1_1 x Q) hF
def LG (c : Int) (l : List Tm) : List Tm := l.map fun t => (LZ c t.1, t.2)
def mh (c : Int) (l : List Tm) : Bool := l.all fun t => onB c t.2
def F7 (s : bx) : Bool := decide (s.1.2.2.2.1 = (s.1.2.2.1.length : Int) ∧ s.1.2.2.2.2.1 = 0 ∧ s.2.2.2.1 = [] ∧ s.1.2.2.1.length ≤ 100000)
def F8 (_ : bx) : kw := (((), (41 : Int), ()), (bf gV, ()))
def Nn (s : bx) : Bool := !mh s.2.2.1.1 s.1.2.2.1
def Nl (s : bx) : kx := (((), (), ()), (s.2.1, (s.2.2.1.1, (), ()), LG s.2.2.1.1 s.1.2.2.1, ()))
def HP (c : Int) (l : List Tm) (c0 : C9) (k : Int) (o : List Tm) : bx := (((), (), l, (l.length : Int), k, ()), (c0, (c, (), ()), o, ()))
theorem Rn (c : Int) (l : List Tm) (c0 : C9) (hl : l.length ≤ 100000) : ∀ d k : Nat, k + d = l.length →
    ∃ m, aq vg m (HP c l c0 (k : Int) (LG c (l.take k))) = some (cond (mh c (l.drop k)) ⟨(.exit 1, sn), (((), (), ()), (c0, (c, (), ()), LG c l, ()))⟩ ⟨(.ret, iR), (((), (41 : Int), ()), (bf gV, ()))⟩)
  | 0, k, h => by
    rw [List.drop_eq_nil_of_le (by omega), List.take_of_length_le (by omega)]
    exact ⟨1, aI (OT.au (decide_eq_false (by dsimp only [HP]; omega)))⟩
  | d + 1, k, h => by
    have hk : k < l.length := by omega
    have e1 : l.drop k = l[k] :: l.drop (k + 1) := List.drop_eq_getElem_cons hk
    have e2 : l.take (k + 1) = l.take k ++ [l[k]] := (List.take_append_getElem hk).symm
    have e3 : l.getD k qm = l[k] := by rw [List.getD_eq_getElem?_getD, List.getElem?_eq_getElem hk]; rfl
    have hgd : ∀ z : OT (Sum bx aL), (gd [inB (k : Int) l.length] z).run = z.run := fun z => aj (by rw [bF (by omega)]; rfl)
    have ea : mh c (l.drop k) = (onB c l[k].2 && mh c (l.drop (k + 1))) := by rw [e1]; rfl
    rw [ea]
    have hr : H4 (LG c (l.take k)) = true := decide_eq_true (by rw [LG, List.length_map, List.length_take]; omega)
    have first : ∀ e : aL ⊕ Unit, (vg (HP c l c0 (k : Int) (LG c (l.take k)))).run = (OT.br (onB c (l.getD k qm).2) (.br (H4 (LG c (l.take k))) (gd [inR ((k : Int) + 1)] (.ok (.inl (HP c l c0 ((k : Int) + 1) (LG c (l.take k) ++ [(LZ c (l.getD k qm).1, (l.getD k qm).2)])))))
        (.ok (.inr ⟨(.ret, iR), (((), (50 : Int), ()), (bf gV, ()))⟩))) (.ok (.inr ⟨(.ret, iR), (((), (41 : Int), ()), (bf gV, ()))⟩)) : OT (Sum bx aL)).run := fun _ =>
      (OT.ap (decide_eq_true (by dsimp only [HP]; omega))).trans ((hgd _).trans rfl)
    have first := first (.inr ())
    rw [e3] at first
    rcases (Bool.eq_false_or_eq_true (onB c l[k].2)).symm with hb | hb
    · rw [hb]
      exact ⟨1, aI (first.trans (OT.au hb))⟩
    · rw [hb]
      obtain ⟨m, hm⟩ := Rn c l c0 hl d (k + 1) (by omega)
      refine ⟨m + 1, aH ?_ hm⟩
      refine first.trans ((OT.ap hb).trans ((OT.ap hr).trans ((aj ?_).trans ?_)))
      · simp only [List.all_cons, List.all_nil, Bool.and_true]
        exact bz (by omega)
      · rw [e2]
        simp only [LG, List.map_append, List.map_cons, List.map_nil]
        rfl
theorem ajz : ∀ s : bx, F7 s = true → ∃ m e, aq vg m s = some e ∧ (F9 F8 Nn Nl s).run = some e := by
  rintro ⟨⟨⟨⟩, ⟨⟩, l, n, k, ⟨⟩⟩, ⟨c0, ⟨c, ⟨⟩, ⟨⟩⟩, o, ⟨⟩⟩⟩ h
  have h' := of_decide_eq_true h
  dsimp only at h'
  obtain ⟨rfl, rfl, rfl, hl⟩ := h'
  obtain ⟨m, hm⟩ := Rn c l c0 hl l.length 0 (by omega)
  refine ⟨m, _, hm, ?_⟩
  show (OT.br (!mh c l) _ _ : OT aL).run = some (cond (mh c l) _ _)
  cases mh c l <;> rfl
def So (_ : U3) : Bool := true
def agU (x : U3) : OT l9.Y := .br (ak x.1.1) (.br (decide (x.1.2.1.length ≤ 100000)) (.br (mh x.1.1 x.1.2.1) (.ok ⟨fS, ((Ro x.1.1 (LG x.1.1 x.1.2.1), ((0 : Int), ())), ())⟩)
  (.ok ⟨fS, ((gV, ((41 : Int), ())), ())⟩)) (.ok ⟨fS, ((gV, ((50 : Int), ())), ())⟩)) (.ok ⟨fS, ((gV, ((40 : Int), ())), ())⟩)
theorem ajy : ac Tryz.prog 74 (l9.aD So agU) := aae F7 F8 Nn Nl ajz _ _ fun x oy hp ho => by
  rw [← ho]
  clear ho
  obtain ⟨⟨c, l, ⟨⟩⟩, ⟨⟩⟩ := x
  show (Sp F7 F8 Nn Nl c l).run = (OT.br (ak c) (.br (decide (l.length ≤ 100000)) (.br (mh c l) (.ok ⟨fS, ((Ro c (LG c l), ((0 : Int), ())), ())⟩)
    (.ok ⟨fS, ((gV, ((41 : Int), ())), ())⟩)) (.ok ⟨fS, ((gV, ((50 : Int), ())), ())⟩)) (.ok ⟨fS, ((gV, ((40 : Int), ())), ())⟩) : OT l9.Y).run
  rcases (Bool.eq_false_or_eq_true (ak c)).symm with hs | hs
  · exact (OT.au hs).trans (OT.au (b := ak c) hs).symm
  · refine (OT.ap hs).trans (Eq.trans ?_ (OT.ap (b := ak c) hs).symm)
    by_cases hl : l.length ≤ 100000
    · refine (OT.au (decide_eq_false (by omega))).trans (Eq.trans ?_ (OT.ap (b := decide (l.length ≤ 100000)) (decide_eq_true hl)).symm)
      refine (aj ?_).trans ?_
      · simp only [List.all_cons, List.all_nil, Bool.and_true]
        exact decide_eq_true ⟨rfl, rfl, rfl, hl⟩
      · rcases (Bool.eq_false_or_eq_true (mh c l)).symm with ha | ha
        · exact (OT.ap (b := !mh c l) (by rw [ha]; rfl)).trans (OT.au (b := mh c l) ha).symm
        · refine (OT.au (b := !mh c l) (by rw [ha]; rfl)).trans (Eq.trans ?_ (OT.ap (b := mh c l) ha).symm)
          refine (aj ?_).trans rfl
          simp only [List.all_cons, List.all_nil, Bool.and_true]
          refine decide_eq_true ?_
          show (LG c l).length ≤ _
          rw [LG, List.length_map]
          omega
    · exact (OT.ap (decide_eq_true (by omega))).trans (OT.au (b := decide (l.length ≤ 100000)) (decide_eq_false hl)).symm
def zK : cv := (l9.aD So agU)
theorem U2 : ac Tryz.prog 74 zK := ajy
theorem U1 : aF zK := az
def Lm : Env := ay 74 zK pe
theorem B1 : aQ Tryz.prog Lm := ah U2 lW
theorem B2 : av Lm := ae U1 tA
theorem WG : aV Tryz.prog te Lm := aJ follows ar B1 B2
abbrev ajl : Ty := .prod .int (.prod .int (.prod (.list (.prod .elem (.prod .elem .bool))) (.prod (.prod .elem (.prod .elem .bool)) (.prod .elem (.prod .elem .bool)))))
def amq : CSh := .cells [.val false .int, .val false .int, .val false (.list (.prod .elem (.prod .elem .bool))), .val false .u64, .val false .u64, .val false .u64, .val false .u64, .val false .u64, .val false .u64, .val false .u64, .val false .u64, .val false .bool, .val false .u64, .val false .u64, .val false .u64, .val false .u64, .val false .u64, .val false .u64, .val false .u64, .val false .u64, .val false .bool]
def eD : ao := ⟨[.val true (.prod .elem (.prod .elem .bool)), .ptr 0 0 0], [(0, amq)], false, 1, true⟩
abbrev uT : Type := (((ab × (ab × Bool))) × (Unit) × Unit) × (((Int) × (Int) × (List ((ab × (ab × Bool)))) × (UInt64) × (UInt64) × (UInt64) × (UInt64) × (UInt64) × (UInt64) × (UInt64) × (UInt64) × (Bool) × (UInt64) × (UInt64) × (UInt64) × (UInt64) × (UInt64) × (UInt64) × (UInt64) × (UInt64) × (Bool) × Unit) × Unit)
def mL : aw := ⟨[.val false .bool], [(0, .cells [.val false .int, .val false .int, .val false (.list (.prod .elem (.prod .elem .bool))), .val false .u64, .val false .u64, .val false .u64, .val false .u64, .val false .u64, .val false .u64, .val false .u64, .val false .u64, .val false .bool, .val false .u64, .val false .u64, .val false .u64, .val false .u64, .val false .u64, .val false .u64, .val false .u64, .val false .u64, .val false .bool])], false⟩
def DB : SV → Option aw := fun _ => some mL
def FL (a0 : (ab × (ab × Bool))) (c0_0 : Int) (c0_1 : Int) (c0_2 : List ((ab × (ab × Bool)))) (c0_3 : UInt64) (c0_4 : UInt64) (c0_5 : UInt64) (c0_6 : UInt64) (c0_7 : UInt64) (c0_8 : UInt64) (c0_9 : UInt64) (c0_10 : UInt64) (c0_11 : Bool) (c0_12 : UInt64) (c0_13 : UInt64) (c0_14 : UInt64) (c0_15 : UInt64) (c0_16 : UInt64) (c0_17 : UInt64) (c0_18 : UInt64) (c0_19 : UInt64) (c0_20 : Bool) : OT eD.Y :=
  (.br (a0.snd.snd)
  (.ok ⟨mL, ((true, ()), ((c0_0, (c0_1, (c0_2, (c0_3, (c0_4, (c0_5, (c0_6, (c0_7, (c0_8, (c0_9, (c0_10, (c0_11, (c0_12, (c0_13, (c0_14, (c0_15, (c0_16, (c0_17, (c0_18, (c0_19, (c0_20, ()))))))))))))))))))))), ()))⟩)
  (.ok ⟨mL, ((!onB c0_0 a0, ()), ((c0_0, (c0_1, (c0_2, (c0_3, (c0_4, (c0_5, (c0_6, (c0_7, (c0_8, (c0_9, (c0_10, (c0_11, (c0_12, (c0_13, (c0_14, (c0_15, (c0_16, (c0_17, (c0_18, (c0_19, (c0_20, ()))))))))))))))))))))), ()))⟩))
theorem afb (x : uT) (Q : eD.Y → Prop) : wpf te Lm ax 1000 Tryz.f71 (eD.inp.inj x).tm (eD.inp.inj x).hp (fnK eD DB Q) (fun _ _ => False) = (FL (x.1.1) (x.2.1.1) (x.2.1.2.1) (x.2.1.2.2.1) (x.2.1.2.2.2.1) (x.2.1.2.2.2.2.1) (x.2.1.2.2.2.2.2.1) (x.2.1.2.2.2.2.2.2.1) (x.2.1.2.2.2.2.2.2.2.1) (x.2.1.2.2.2.2.2.2.2.2.1) (x.2.1.2.2.2.2.2.2.2.2.2.1) (x.2.1.2.2.2.2.2.2.2.2.2.2.1) (x.2.1.2.2.2.2.2.2.2.2.2.2.2.1) (x.2.1.2.2.2.2.2.2.2.2.2.2.2.2.1) (x.2.1.2.2.2.2.2.2.2.2.2.2.2.2.2.1) (x.2.1.2.2.2.2.2.2.2.2.2.2.2.2.2.2.1) (x.2.1.2.2.2.2.2.2.2.2.2.2.2.2.2.2.2.1) (x.2.1.2.2.2.2.2.2.2.2.2.2.2.2.2.2.2.2.1) (x.2.1.2.2.2.2.2.2.2.2.2.2.2.2.2.2.2.2.2.1) (x.2.1.2.2.2.2.2.2.2.2.2.2.2.2.2.2.2.2.2.2.1) (x.2.1.2.2.2.2.2.2.2.2.2.2.2.2.2.2.2.2.2.2.2.1) (x.2.1.2.2.2.2.2.2.2.2.2.2.2.2.2.2.2.2.2.2.2.2.1)).wpR Q := by kernel_rfl
theorem MU (pre : uT → Bool) (F : uT → OT eD.Y) (hF : ∀ (x : uT) oy, pre x = true → (F x).run = some oy → (FL (x.1.1) (x.2.1.1) (x.2.1.2.1) (x.2.1.2.2.1) (x.2.1.2.2.2.1) (x.2.1.2.2.2.2.1) (x.2.1.2.2.2.2.2.1) (x.2.1.2.2.2.2.2.2.1) (x.2.1.2.2.2.2.2.2.2.1) (x.2.1.2.2.2.2.2.2.2.2.1) (x.2.1.2.2.2.2.2.2.2.2.2.1) (x.2.1.2.2.2.2.2.2.2.2.2.2.1) (x.2.1.2.2.2.2.2.2.2.2.2.2.2.1) (x.2.1.2.2.2.2.2.2.2.2.2.2.2.2.1) (x.2.1.2.2.2.2.2.2.2.2.2.2.2.2.2.1) (x.2.1.2.2.2.2.2.2.2.2.2.2.2.2.2.2.1) (x.2.1.2.2.2.2.2.2.2.2.2.2.2.2.2.2.2.1) (x.2.1.2.2.2.2.2.2.2.2.2.2.2.2.2.2.2.2.1) (x.2.1.2.2.2.2.2.2.2.2.2.2.2.2.2.2.2.2.2.1) (x.2.1.2.2.2.2.2.2.2.2.2.2.2.2.2.2.2.2.2.2.1) (x.2.1.2.2.2.2.2.2.2.2.2.2.2.2.2.2.2.2.2.2.2.1) (x.2.1.2.2.2.2.2.2.2.2.2.2.2.2.2.2.2.2.2.2.2.2.1)).run = some oy) : ac Tryz.prog 71 (eD.aD pre F) :=
  aB ar B1 WG (f := 71) (fn := Tryz.f71) (c := al Tryz.f71) (by kernel_rfl) (by kernel_rfl) (by kernel_rfl) (S := eD) (k := 1) (by kernel_rfl) (fun R hR => ag) (n := 1000) (sel := DB) (fun v o h => by cases h; rfl) (pre := pre) (F := F) (T := fun x => FL (x.1.1) (x.2.1.1) (x.2.1.2.1) (x.2.1.2.2.1) (x.2.1.2.2.2.1) (x.2.1.2.2.2.2.1) (x.2.1.2.2.2.2.2.1) (x.2.1.2.2.2.2.2.2.1) (x.2.1.2.2.2.2.2.2.2.1) (x.2.1.2.2.2.2.2.2.2.2.1) (x.2.1.2.2.2.2.2.2.2.2.2.1) (x.2.1.2.2.2.2.2.2.2.2.2.2.1) (x.2.1.2.2.2.2.2.2.2.2.2.2.2.1) (x.2.1.2.2.2.2.2.2.2.2.2.2.2.2.1) (x.2.1.2.2.2.2.2.2.2.2.2.2.2.2.2.1) (x.2.1.2.2.2.2.2.2.2.2.2.2.2.2.2.2.1) (x.2.1.2.2.2.2.2.2.2.2.2.2.2.2.2.2.2.1) (x.2.1.2.2.2.2.2.2.2.2.2.2.2.2.2.2.2.2.1) (x.2.1.2.2.2.2.2.2.2.2.2.2.2.2.2.2.2.2.2.1) (x.2.1.2.2.2.2.2.2.2.2.2.2.2.2.2.2.2.2.2.2.1) (x.2.1.2.2.2.2.2.2.2.2.2.2.2.2.2.2.2.2.2.2.2.1) (x.2.1.2.2.2.2.2.2.2.2.2.2.2.2.2.2.2.2.2.2.2.2.1)) (fun x Q => afb x Q) hF
abbrev agw : Type := Int × (Int × (List Pt × (UInt64 × (UInt64 × (UInt64 × (UInt64 × (UInt64 × (UInt64 × (UInt64 × (UInt64 × (Bool × (UInt64 × (UInt64 × (UInt64 × (UInt64 × (UInt64 × (UInt64 × (UInt64 × (UInt64 × (Bool × Unit))))))))))))))))))))
def sg : Pt := (⟨0, 0, 0, 0⟩, ⟨0, 0, 0, 0⟩, false)
def k6 (c : Int) (P : Pt) : Bool := cond P.2.2 true (!onB c P)
def DC (_ : uT) : Bool := true
def R0 (x : uT) : OT eD.Y := .ok ⟨mL, ((k6 x.2.1.1 x.1.1, ()), x.2)⟩
theorem ZE : ac Tryz.prog 71 (eD.aD DC R0) := MU _ _ fun x oy hp ho => by
  rw [← ho]
  clear ho
  obtain ⟨⟨P, ⟨⟩, ⟨⟩⟩, ⟨i, ⟨⟩⟩⟩ := x
  show _ = some (⟨mL, ((k6 i.1 P, ()), (i, ()))⟩ : eD.Y)
  unfold k6
  rcases (Bool.eq_false_or_eq_true P.2.2).symm with h | h
  · rw [h]
    exact (OT.au h).trans rfl
  · rw [h]
    exact (OT.ap h).trans rfl
def pY : cv := (eD.aD DC R0)
theorem I2 : ac Tryz.prog 71 pY := ZE
theorem I1 : aF pY := az
def pb : Env := ay 71 pY Lm
theorem lT : aQ Tryz.prog pb := ah I2 B1
theorem tp : av pb := ae I1 B2
theorem xk : aV Tryz.prog te pb := aJ follows ar lT tp
def dy : ao := ⟨[.val false (.list (.prod .elem (.prod .elem .bool))), .fn 71 [0]], [(0, amq)], false, 1, true⟩
abbrev ox : Type := ((List ((ab × (ab × Bool)))) × (Unit) × Unit) × (((Int) × (Int) × (List ((ab × (ab × Bool)))) × (UInt64) × (UInt64) × (UInt64) × (UInt64) × (UInt64) × (UInt64) × (UInt64) × (UInt64) × (Bool) × (UInt64) × (UInt64) × (UInt64) × (UInt64) × (UInt64) × (UInt64) × (UInt64) × (UInt64) × (Bool) × Unit) × Unit)
def kn : Shape := ⟨19, [(0, .val false (.list (.prod .elem (.prod .elem .bool)))), (1, .fn 71 [0]), (7, .val false .int), (8, .val false .int)], [(0, .cells [.val false .int, .val false .int, .val false (.list (.prod .elem (.prod .elem .bool))), .val false .u64, .val false .u64, .val false .u64, .val false .u64, .val false .u64, .val false .u64, .val false .u64, .val false .u64, .val false .bool, .val false .u64, .val false .u64, .val false .u64, .val false .u64, .val false .u64, .val false .u64, .val false .u64, .val false .u64, .val false .bool])], 1, true⟩
abbrev aM : Type := ((List ((ab × (ab × Bool)))) × (Unit) × (Int) × (Int) × Unit) × (((Int) × (Int) × (List ((ab × (ab × Bool)))) × (UInt64) × (UInt64) × (UInt64) × (UInt64) × (UInt64) × (UInt64) × (UInt64) × (UInt64) × (Bool) × (UInt64) × (UInt64) × (UInt64) × (UInt64) × (UInt64) × (UInt64) × (UInt64) × (UInt64) × (Bool) × Unit) × Unit)
def jG : Shape := ⟨19, [(4, .val false .int)], [(0, .cells [.val false .int, .val false .int, .val false (.list (.prod .elem (.prod .elem .bool))), .val false .u64, .val false .u64, .val false .u64, .val false .u64, .val false .u64, .val false .u64, .val false .u64, .val false .u64, .val false .bool, .val false .u64, .val false .u64, .val false .u64, .val false .u64, .val false .u64, .val false .u64, .val false .u64, .val false .u64, .val false .bool])], 1, true⟩
abbrev fg : Type := ((Int) × Unit) × (((Int) × (Int) × (List ((ab × (ab × Bool)))) × (UInt64) × (UInt64) × (UInt64) × (UInt64) × (UInt64) × (UInt64) × (UInt64) × (UInt64) × (Bool) × (UInt64) × (UInt64) × (UInt64) × (UInt64) × (UInt64) × (UInt64) × (UInt64) × (UInt64) × (Bool) × Unit) × Unit)
def jH : Shape := ⟨19, [], [(0, .cells [.val false .int, .val false .int, .val false (.list (.prod .elem (.prod .elem .bool))), .val false .u64, .val false .u64, .val false .u64, .val false .u64, .val false .u64, .val false .u64, .val false .u64, .val false .u64, .val false .bool, .val false .u64, .val false .u64, .val false .u64, .val false .u64, .val false .u64, .val false .u64, .val false .u64, .val false .u64, .val false .bool])], 1, true⟩
abbrev fh : Type := (Unit) × (((Int) × (Int) × (List ((ab × (ab × Bool)))) × (UInt64) × (UInt64) × (UInt64) × (UInt64) × (UInt64) × (UInt64) × (UInt64) × (UInt64) × (Bool) × (UInt64) × (UInt64) × (UInt64) × (UInt64) × (UInt64) × (UInt64) × (UInt64) × (UInt64) × (Bool) × Unit) × Unit)
def DK : SE → Option Shape := jt [(0, jH)] (some jG)
def UO (a0 : List ((ab × (ab × Bool)))) (a7 : Int) (a8 : Int) (c0_0 : Int) (c0_1 : Int) (c0_2 : List ((ab × (ab × Bool)))) (c0_3 : UInt64) (c0_4 : UInt64) (c0_5 : UInt64) (c0_6 : UInt64) (c0_7 : UInt64) (c0_8 : UInt64) (c0_9 : UInt64) (c0_10 : UInt64) (c0_11 : Bool) (c0_12 : UInt64) (c0_13 : UInt64) (c0_14 : UInt64) (c0_15 : UInt64) (c0_16 : UInt64) (c0_17 : UInt64) (c0_18 : UInt64) (c0_19 : UInt64) (c0_20 : Bool) : OT (Sum aM aL) :=
  let z0 : ab := { w0 := 0, w1 := 0, w2 := 0, w3 := 0 }
  (.br (decide (a8 < a7))
  (gd [inB a8 (List.length a0)] (.br (k6 c0_0 (List.getD a0 (Int.toNat a8) (z0, z0, false)))
    (.ok (.inr ⟨(.ret, jG), ((a8, ()), ((c0_0, (c0_1, (c0_2, (c0_3, (c0_4, (c0_5, (c0_6, (c0_7, (c0_8, (c0_9, (c0_10, (c0_11, (c0_12, (c0_13, (c0_14, (c0_15, (c0_16, (c0_17, (c0_18, (c0_19, (c0_20, ()))))))))))))))))))))), ()))⟩))
    (gd [inR (a8 + (1 : Int))] (.ok (.inl ((a0, ((), (a7, (a8 + (1 : Int), ())))), ((c0_0, (c0_1, (c0_2, (c0_3, (c0_4, (c0_5, (c0_6, (c0_7, (c0_8, (c0_9, (c0_10, (c0_11, (c0_12, (c0_13, (c0_14, (c0_15, (c0_16, (c0_17, (c0_18, (c0_19, (c0_20, ()))))))))))))))))))))), ())))))))
  (.ok (.inr ⟨(.exit 0, jH), ((), ((c0_0, (c0_1, (c0_2, (c0_3, (c0_4, (c0_5, (c0_6, (c0_7, (c0_8, (c0_9, (c0_10, (c0_11, (c0_12, (c0_13, (c0_14, (c0_15, (c0_16, (c0_17, (c0_18, (c0_19, (c0_20, ()))))))))))))))))))))), ()))⟩)))
def ko (s : aM) : OT (Sum aM aL) := UO (s.1.1) (s.1.2.2.1) (s.1.2.2.2.1) (s.2.1.1) (s.2.1.2.1) (s.2.1.2.2.1) (s.2.1.2.2.2.1) (s.2.1.2.2.2.2.1) (s.2.1.2.2.2.2.2.1) (s.2.1.2.2.2.2.2.2.1) (s.2.1.2.2.2.2.2.2.2.1) (s.2.1.2.2.2.2.2.2.2.2.1) (s.2.1.2.2.2.2.2.2.2.2.2.1) (s.2.1.2.2.2.2.2.2.2.2.2.2.1) (s.2.1.2.2.2.2.2.2.2.2.2.2.2.1) (s.2.1.2.2.2.2.2.2.2.2.2.2.2.2.1) (s.2.1.2.2.2.2.2.2.2.2.2.2.2.2.2.1) (s.2.1.2.2.2.2.2.2.2.2.2.2.2.2.2.2.1) (s.2.1.2.2.2.2.2.2.2.2.2.2.2.2.2.2.2.1) (s.2.1.2.2.2.2.2.2.2.2.2.2.2.2.2.2.2.2.1) (s.2.1.2.2.2.2.2.2.2.2.2.2.2.2.2.2.2.2.2.1) (s.2.1.2.2.2.2.2.2.2.2.2.2.2.2.2.2.2.2.2.2.1) (s.2.1.2.2.2.2.2.2.2.2.2.2.2.2.2.2.2.2.2.2.2.1) (s.2.1.2.2.2.2.2.2.2.2.2.2.2.2.2.2.2.2.2.2.2.2.1)
theorem UL (s : aM) (Q : Sum aM aL → Prop) : wps te pb ax 1000 (bE (al Tryz.f112) 0) (kn.inj s) (cM kn DK (Q : Sum kn.T aL → Prop)) = (ko s).wpR Q := by kernel_rfl
def ow (g0_r : aM → fg) (c0_r : aM → Bool) (g0_0 : aM → fh) (s : aM) : OT aL := (.br (c0_r s) (.ok ⟨(.ret, jG), g0_r s⟩) (.ok ⟨(.exit 0, jH), g0_0 s⟩))
def fQ : aw := ⟨[.val false .int], [(0, .cells [.val false .int, .val false .int, .val false (.list (.prod .elem (.prod .elem .bool))), .val false .u64, .val false .u64, .val false .u64, .val false .u64, .val false .u64, .val false .u64, .val false .u64, .val false .u64, .val false .bool, .val false .u64, .val false .u64, .val false .u64, .val false .u64, .val false .u64, .val false .u64, .val false .u64, .val false .u64, .val false .bool])], false⟩
def zt : SV → Option aw := fun _ => some fQ
def zx (ok0 : aM → Bool) (g0_r : aM → fg) (c0_r : aM → Bool) (g0_0 : aM → fh) (a0 : List ((ab × (ab × Bool)))) (c0_0 : Int) (c0_1 : Int) (c0_2 : List ((ab × (ab × Bool)))) (c0_3 : UInt64) (c0_4 : UInt64) (c0_5 : UInt64) (c0_6 : UInt64) (c0_7 : UInt64) (c0_8 : UInt64) (c0_9 : UInt64) (c0_10 : UInt64) (c0_11 : Bool) (c0_12 : UInt64) (c0_13 : UInt64) (c0_14 : UInt64) (c0_15 : UInt64) (c0_16 : UInt64) (c0_17 : UInt64) (c0_18 : UInt64) (c0_19 : UInt64) (c0_20 : Bool) : OT dy.Y :=
  let z0 : (List (ab × ab × Bool) × PUnit × Int × Int × PUnit) × (Int × Int × List (ab × ab × Bool) × UInt64 × UInt64 × UInt64 × UInt64 × UInt64 × UInt64 × UInt64 × UInt64 × Bool × UInt64 × UInt64 × UInt64 × UInt64 × UInt64 × UInt64 × UInt64 × UInt64 × Bool × PUnit) × PUnit := ((a0, (), (↑(List.length a0) : Int), (0 : Int), ()), (c0_0, c0_1, c0_2, c0_3, c0_4, c0_5, c0_6, c0_7, c0_8, c0_9, c0_10, c0_11, c0_12, c0_13, c0_14, c0_15, c0_16, c0_17, c0_18, c0_19, c0_20, ()), ())
  let z1 : (Int × PUnit) × (Int × Int × List (ab × ab × Bool) × UInt64 × UInt64 × UInt64 × UInt64 × UInt64 × UInt64 × UInt64 × UInt64 × Bool × UInt64 × UInt64 × UInt64 × UInt64 × UInt64 × UInt64 × UInt64 × UInt64 × Bool × PUnit) × PUnit := g0_r z0
  let z2 := z1.snd.fst
  let z3 := z2.snd
  let z4 := z3.snd
  let z5 := z4.snd
  let z6 := z5.snd
  let z7 := z6.snd
  let z8 := z7.snd
  let z9 := z8.snd
  let z10 := z9.snd
  let z11 := z10.snd
  let z12 := z11.snd
  let z13 := z12.snd
  let z14 := z13.snd
  let z15 := z14.snd
  let z16 := z15.snd
  let z17 := z16.snd
  let z18 := z17.snd
  let z19 := z18.snd
  let z20 := z19.snd
  let z21 := z20.snd
  let z22 := (g0_0 z0).snd.fst
  let z23 := z22.snd
  let z24 := z23.snd
  let z25 := z24.snd
  let z26 := z25.snd
  let z27 := z26.snd
  let z28 := z27.snd
  let z29 := z28.snd
  let z30 := z29.snd
  let z31 := z30.snd
  let z32 := z31.snd
  let z33 := z32.snd
  let z34 := z33.snd
  let z35 := z34.snd
  let z36 := z35.snd
  let z37 := z36.snd
  let z38 := z37.snd
  let z39 := z38.snd
  let z40 := z39.snd
  let z41 := z40.snd
  (gd [ok0 z0] (.br (c0_r z0)
  (.ok ⟨fQ, ((z1.fst.fst, ()), ((z2.fst, (z3.fst, (z4.fst, (z5.fst, (z6.fst, (z7.fst, (z8.fst, (z9.fst, (z10.fst, (z11.fst, (z12.fst, (z13.fst, (z14.fst, (z15.fst, (z16.fst, (z17.fst, (z18.fst, (z19.fst, (z20.fst, (z21.fst, (z21.snd.fst, ()))))))))))))))))))))), ()))⟩)
  (.ok ⟨fQ, (((-1 : Int), ()), ((z22.fst, (z23.fst, (z24.fst, (z25.fst, (z26.fst, (z27.fst, (z28.fst, (z29.fst, (z30.fst, (z31.fst, (z32.fst, (z33.fst, (z34.fst, (z35.fst, (z36.fst, (z37.fst, (z38.fst, (z39.fst, (z40.fst, (z41.fst, (z41.snd.fst, ()))))))))))))))))))))), ()))⟩)))
theorem ZM (ok0 : aM → Bool) (g0_r : aM → fg) (c0_r : aM → Bool) (g0_0 : aM → fh) (x : ox) (Q : dy.Y → Prop) : wpf te pb (bg 0 (db kn 0 ok0 (ow g0_r c0_r g0_0)) ax) 1000 Tryz.f112 (dy.inp.inj x).tm (dy.inp.inj x).hp (fnK dy zt Q) (fun _ _ => False) = (zx ok0 g0_r c0_r g0_0 (x.1.1) (x.2.1.1) (x.2.1.2.1) (x.2.1.2.2.1) (x.2.1.2.2.2.1) (x.2.1.2.2.2.2.1) (x.2.1.2.2.2.2.2.1) (x.2.1.2.2.2.2.2.2.1) (x.2.1.2.2.2.2.2.2.2.1) (x.2.1.2.2.2.2.2.2.2.2.1) (x.2.1.2.2.2.2.2.2.2.2.2.1) (x.2.1.2.2.2.2.2.2.2.2.2.2.1) (x.2.1.2.2.2.2.2.2.2.2.2.2.2.1) (x.2.1.2.2.2.2.2.2.2.2.2.2.2.2.1) (x.2.1.2.2.2.2.2.2.2.2.2.2.2.2.2.1) (x.2.1.2.2.2.2.2.2.2.2.2.2.2.2.2.2.1) (x.2.1.2.2.2.2.2.2.2.2.2.2.2.2.2.2.2.1) (x.2.1.2.2.2.2.2.2.2.2.2.2.2.2.2.2.2.2.1) (x.2.1.2.2.2.2.2.2.2.2.2.2.2.2.2.2.2.2.2.1) (x.2.1.2.2.2.2.2.2.2.2.2.2.2.2.2.2.2.2.2.2.1) (x.2.1.2.2.2.2.2.2.2.2.2.2.2.2.2.2.2.2.2.2.2.1) (x.2.1.2.2.2.2.2.2.2.2.2.2.2.2.2.2.2.2.2.2.2.2.1)).wpR Q := by kernel_rfl
theorem Jc (ok0 : aM → Bool) (g0_r : aM → fg) (c0_r : aM → Bool) (g0_0 : aM → fh) (h0 : ∀ s : aM, ok0 s = true → ∃ m e, aq (ko) m s = some e ∧ (ow g0_r c0_r g0_0 s).run = some e) (pre : ox → Bool) (F : ox → OT dy.Y) (hF : ∀ (x : ox) oy, pre x = true → (F x).run = some oy → (zx ok0 g0_r c0_r g0_0 (x.1.1) (x.2.1.1) (x.2.1.2.1) (x.2.1.2.2.1) (x.2.1.2.2.2.1) (x.2.1.2.2.2.2.1) (x.2.1.2.2.2.2.2.1) (x.2.1.2.2.2.2.2.2.1) (x.2.1.2.2.2.2.2.2.2.1) (x.2.1.2.2.2.2.2.2.2.2.1) (x.2.1.2.2.2.2.2.2.2.2.2.1) (x.2.1.2.2.2.2.2.2.2.2.2.2.1) (x.2.1.2.2.2.2.2.2.2.2.2.2.2.1) (x.2.1.2.2.2.2.2.2.2.2.2.2.2.2.1) (x.2.1.2.2.2.2.2.2.2.2.2.2.2.2.2.1) (x.2.1.2.2.2.2.2.2.2.2.2.2.2.2.2.2.1) (x.2.1.2.2.2.2.2.2.2.2.2.2.2.2.2.2.2.1) (x.2.1.2.2.2.2.2.2.2.2.2.2.2.2.2.2.2.2.1) (x.2.1.2.2.2.2.2.2.2.2.2.2.2.2.2.2.2.2.2.1) (x.2.1.2.2.2.2.2.2.2.2.2.2.2.2.2.2.2.2.2.2.1) (x.2.1.2.2.2.2.2.2.2.2.2.2.2.2.2.2.2.2.2.2.2.1) (x.2.1.2.2.2.2.2.2.2.2.2.2.2.2.2.2.2.2.2.2.2.2.1)).run = some oy) : ac Tryz.prog 112 (dy.aD pre F) :=
  aB ar lT xk (f := 112) (fn := Tryz.f112) (c := al Tryz.f112) (by kernel_rfl) (by kernel_rfl) (by kernel_rfl) (S := dy) (k := 1) (by kernel_rfl) (fun R hR => (aC (c := (al Tryz.f112)) (by kernel_rfl) (id := 0) (by kernel_rfl) (bo ar lT xk (sh := kn) hR (xs := DK) (aE (by kernel_rfl) (by kernel_rfl) hR) aS ag (n := 1000) (T := ko) (fun s Q => UL s Q) (ok := ok0) (f := ow g0_r c0_r g0_0) h0) ag)) (n := 1000) (sel := zt) (fun v o h => by cases h; rfl) (pre := pre) (F := F) (T := fun x => zx ok0 g0_r c0_r g0_0 (x.1.1) (x.2.1.1) (x.2.1.2.1) (x.2.1.2.2.1) (x.2.1.2.2.2.1) (x.2.1.2.2.2.2.1) (x.2.1.2.2.2.2.2.1) (x.2.1.2.2.2.2.2.2.1) (x.2.1.2.2.2.2.2.2.2.1) (x.2.1.2.2.2.2.2.2.2.2.1) (x.2.1.2.2.2.2.2.2.2.2.2.1) (x.2.1.2.2.2.2.2.2.2.2.2.2.1) (x.2.1.2.2.2.2.2.2.2.2.2.2.2.1) (x.2.1.2.2.2.2.2.2.2.2.2.2.2.2.1) (x.2.1.2.2.2.2.2.2.2.2.2.2.2.2.2.1) (x.2.1.2.2.2.2.2.2.2.2.2.2.2.2.2.2.1) (x.2.1.2.2.2.2.2.2.2.2.2.2.2.2.2.2.2.1) (x.2.1.2.2.2.2.2.2.2.2.2.2.2.2.2.2.2.2.1) (x.2.1.2.2.2.2.2.2.2.2.2.2.2.2.2.2.2.2.2.1) (x.2.1.2.2.2.2.2.2.2.2.2.2.2.2.2.2.2.2.2.2.1) (x.2.1.2.2.2.2.2.2.2.2.2.2.2.2.2.2.2.2.2.2.2.1) (x.2.1.2.2.2.2.2.2.2.2.2.2.2.2.2.2.2.2.2.2.2.2.1)) (fun x Q => ZM ok0 g0_r c0_r g0_0 x Q) hF
def np (l : List Pt) (i : agw) : Nat → Nat → Int
  | 0, _ => -1
  | n + 1, k => cond (k6 i.1 (l.getD k sg)) (k : Int) (np l i n (k + 1))
def zu (s : aM) : Bool := decide (s.1.2.2.1 = (s.1.1.length : Int) ∧ s.1.2.2.2.1 = 0 ∧ s.1.1.length ≤ 140737488355328)
def gL (l : List Pt) (i : agw) : Int := np l i l.length 0
def zw (s : aM) : fg := ((gL s.1.1 s.2.1, ()), s.2)
def DM (s : aM) : Bool := decide (0 ≤ gL s.1.1 s.2.1)
def DL (s : aM) : fh := ((), s.2)
def zy (l : List Pt) (i : agw) (k : Int) : aM := ((l, (), (l.length : Int), k, ()), (i, ()))
theorem Ek (l : List Pt) (i : agw) : ∀ n k, np l i n k = -1 ∨ 0 ≤ np l i n k
  | 0, _ => .inl rfl
  | n + 1, k => by
    unfold np
    cases k6 i.1 (l.getD k sg)
    · exact Ek l i n (k + 1)
    · right
      show (0 : Int) ≤ (k : Int)
      omega
theorem Je (l : List Pt) (i : agw) (hl : l.length ≤ 140737488355328) : ∀ n k : Nat, k + n = l.length →
    ∃ m, aq ko m (zy l i (k : Int)) = some (cond (decide (0 ≤ np l i n k)) ⟨(.ret, jG), ((np l i n k, ()), (i, ()))⟩ ⟨(.exit 0, jH), ((), (i, ()))⟩)
  | 0, k, h => ⟨1, aI (OT.au (decide_eq_false (by dsimp only [zy]; omega)))⟩
  | n + 1, k, h => by
    have hin : inB (k : Int) l.length = true := bF (by omega)
    have hgd : ∀ z : OT (Sum aM aL), (gd [inB (k : Int) l.length] z).run = z.run := fun z => aj (by rw [hin]; rfl)
    unfold np
    rcases (Bool.eq_false_or_eq_true (k6 i.1 (l.getD k sg))).symm with hb | hb
    · obtain ⟨m, hm⟩ := Je l i hl n (k + 1) (by omega)
      rw [hb]
      refine ⟨m + 1, aH ?_ hm⟩
      refine (OT.ap (decide_eq_true (by dsimp only [zy]; omega))).trans ((hgd _).trans ((OT.au hb).trans ((aj ?_).trans rfl)))
      simp only [List.all_cons, List.all_nil, Bool.and_true]
      exact bz (by dsimp only [zy]; omega)
    · rw [hb]
      have e : decide ((0 : Int) ≤ cond true (k : Int) (np l i n (k + 1))) = true := decide_eq_true (by show (0 : Int) ≤ (k : Int); omega)
      rw [e]
      refine ⟨1, aI ?_⟩
      exact (OT.ap (decide_eq_true (by dsimp only [zy]; omega))).trans ((hgd _).trans ((OT.ap hb).trans rfl))
theorem UN : ∀ s : aM, zu s = true → ∃ m e, aq ko m s = some e ∧ (ow zw DM DL s).run = some e := by
  rintro ⟨⟨l, ⟨⟩, n, k, ⟨⟩⟩, ⟨i, ⟨⟩⟩⟩ h
  have h' := of_decide_eq_true h
  dsimp only at h'
  obtain ⟨rfl, rfl, hl⟩ := h'
  obtain ⟨m, hm⟩ := Je l i hl l.length 0 (by omega)
  refine ⟨m, _, hm, ?_⟩
  show (OT.br (decide (0 ≤ gL l i)) _ _ : OT aL).run = some (cond (decide (0 ≤ gL l i)) _ _)
  cases decide (0 ≤ gL l i) <;> rfl
def qc (x : ox) : Bool := decide (x.1.1.length ≤ 140737488355328)
def Jd (x : ox) : OT dy.Y := .ok ⟨fQ, ((gL x.1.1 x.2.1, ()), x.2)⟩
theorem UM : ac Tryz.prog 112 (dy.aD qc Jd) := Jc zu zw DM DL UN _ _ fun x oy hp ho => by
  rw [← ho]
  clear ho
  obtain ⟨⟨l, ⟨⟩, ⟨⟩⟩, ⟨i, ⟨⟩⟩⟩ := x
  have hl : l.length ≤ 140737488355328 := of_decide_eq_true hp
  refine (aj ?_).trans ?_
  · simp only [List.all_cons, List.all_nil, Bool.and_true]
    exact decide_eq_true ⟨rfl, rfl, hl⟩
  · show (OT.br (decide (0 ≤ gL l i)) (.ok ⟨fQ, ((gL l i, ()), (i, ()))⟩) (.ok ⟨fQ, (((-1 : Int), ()), (i, ()))⟩) : OT dy.Y).run = some ⟨fQ, ((gL l i, ()), (i, ()))⟩
    rcases Ek l i l.length 0 with h | h
    · have h : gL l i = -1 := h
      rw [h]
      rfl
    · exact OT.ap (decide_eq_true h)
def mQ : cv := (dy.aD qc Jd)
theorem FQ : ac Tryz.prog 112 mQ := UM
theorem FP : aF mQ := az
def nN : Env := ay 112 mQ pb
theorem nM : aQ Tryz.prog nN := ah FQ lT
theorem pC : av nN := ae FP tp
theorem Hw : aV Tryz.prog te nN := aJ follows ar nM pC
def fk : ao := ⟨[.val false (.list (.prod .elem (.prod .elem .bool))), .fn 71 [0]], [(0, amq)], false, 1, true⟩
abbrev u5 : Type := ((List ((ab × (ab × Bool)))) × (Unit) × Unit) × (((Int) × (Int) × (List ((ab × (ab × Bool)))) × (UInt64) × (UInt64) × (UInt64) × (UInt64) × (UInt64) × (UInt64) × (UInt64) × (UInt64) × (Bool) × (UInt64) × (UInt64) × (UInt64) × (UInt64) × (UInt64) × (UInt64) × (UInt64) × (UInt64) × (Bool) × Unit) × Unit)
def zA : aw := ⟨[.val false .bool], [(0, .cells [.val false .int, .val false .int, .val false (.list (.prod .elem (.prod .elem .bool))), .val false .u64, .val false .u64, .val false .u64, .val false .u64, .val false .u64, .val false .u64, .val false .u64, .val false .u64, .val false .bool, .val false .u64, .val false .u64, .val false .u64, .val false .u64, .val false .u64, .val false .u64, .val false .u64, .val false .u64, .val false .bool])], false⟩
def DP : SV → Option aw := fun _ => some zA
def FV (a0 : List ((ab × (ab × Bool)))) (c0_0 : Int) (c0_1 : Int) (c0_2 : List ((ab × (ab × Bool)))) (c0_3 : UInt64) (c0_4 : UInt64) (c0_5 : UInt64) (c0_6 : UInt64) (c0_7 : UInt64) (c0_8 : UInt64) (c0_9 : UInt64) (c0_10 : UInt64) (c0_11 : Bool) (c0_12 : UInt64) (c0_13 : UInt64) (c0_14 : UInt64) (c0_15 : UInt64) (c0_16 : UInt64) (c0_17 : UInt64) (c0_18 : UInt64) (c0_19 : UInt64) (c0_20 : Bool) : OT fk.Y :=
  let z0 : Int × Int × List (ab × ab × Bool) × UInt64 × UInt64 × UInt64 × UInt64 × UInt64 × UInt64 × UInt64 × UInt64 × Bool × UInt64 × UInt64 × UInt64 × UInt64 × UInt64 × UInt64 × UInt64 × UInt64 × Bool × PUnit := (c0_0, c0_1, c0_2, c0_3, c0_4, c0_5, c0_6, c0_7, c0_8, c0_9, c0_10, c0_11, c0_12, c0_13, c0_14, c0_15, c0_16, c0_17, c0_18, c0_19, c0_20, ())
  (gd [qc ((a0, (), ()), z0, ())] (.ok ⟨zA, ((decide ((0 : Int) ≤ gL a0 z0), ()), ((c0_0, (c0_1, (c0_2, (c0_3, (c0_4, (c0_5, (c0_6, (c0_7, (c0_8, (c0_9, (c0_10, (c0_11, (c0_12, (c0_13, (c0_14, (c0_15, (c0_16, (c0_17, (c0_18, (c0_19, (c0_20, ()))))))))))))))))))))), ()))⟩))
theorem afm (x : u5) (Q : fk.Y → Prop) : wpf te nN ax 1000 Tryz.f72 (fk.inp.inj x).tm (fk.inp.inj x).hp (fnK fk DP Q) (fun _ _ => False) = (FV (x.1.1) (x.2.1.1) (x.2.1.2.1) (x.2.1.2.2.1) (x.2.1.2.2.2.1) (x.2.1.2.2.2.2.1) (x.2.1.2.2.2.2.2.1) (x.2.1.2.2.2.2.2.2.1) (x.2.1.2.2.2.2.2.2.2.1) (x.2.1.2.2.2.2.2.2.2.2.1) (x.2.1.2.2.2.2.2.2.2.2.2.1) (x.2.1.2.2.2.2.2.2.2.2.2.2.1) (x.2.1.2.2.2.2.2.2.2.2.2.2.2.1) (x.2.1.2.2.2.2.2.2.2.2.2.2.2.2.1) (x.2.1.2.2.2.2.2.2.2.2.2.2.2.2.2.1) (x.2.1.2.2.2.2.2.2.2.2.2.2.2.2.2.2.1) (x.2.1.2.2.2.2.2.2.2.2.2.2.2.2.2.2.2.1) (x.2.1.2.2.2.2.2.2.2.2.2.2.2.2.2.2.2.2.1) (x.2.1.2.2.2.2.2.2.2.2.2.2.2.2.2.2.2.2.2.1) (x.2.1.2.2.2.2.2.2.2.2.2.2.2.2.2.2.2.2.2.2.1) (x.2.1.2.2.2.2.2.2.2.2.2.2.2.2.2.2.2.2.2.2.2.1) (x.2.1.2.2.2.2.2.2.2.2.2.2.2.2.2.2.2.2.2.2.2.2.1)).wpR Q := by kernel_rfl
theorem M8 (pre : u5 → Bool) (F : u5 → OT fk.Y) (hF : ∀ (x : u5) oy, pre x = true → (F x).run = some oy → (FV (x.1.1) (x.2.1.1) (x.2.1.2.1) (x.2.1.2.2.1) (x.2.1.2.2.2.1) (x.2.1.2.2.2.2.1) (x.2.1.2.2.2.2.2.1) (x.2.1.2.2.2.2.2.2.1) (x.2.1.2.2.2.2.2.2.2.1) (x.2.1.2.2.2.2.2.2.2.2.1) (x.2.1.2.2.2.2.2.2.2.2.2.1) (x.2.1.2.2.2.2.2.2.2.2.2.2.1) (x.2.1.2.2.2.2.2.2.2.2.2.2.2.1) (x.2.1.2.2.2.2.2.2.2.2.2.2.2.2.1) (x.2.1.2.2.2.2.2.2.2.2.2.2.2.2.2.1) (x.2.1.2.2.2.2.2.2.2.2.2.2.2.2.2.2.1) (x.2.1.2.2.2.2.2.2.2.2.2.2.2.2.2.2.2.1) (x.2.1.2.2.2.2.2.2.2.2.2.2.2.2.2.2.2.2.1) (x.2.1.2.2.2.2.2.2.2.2.2.2.2.2.2.2.2.2.2.1) (x.2.1.2.2.2.2.2.2.2.2.2.2.2.2.2.2.2.2.2.2.1) (x.2.1.2.2.2.2.2.2.2.2.2.2.2.2.2.2.2.2.2.2.2.1) (x.2.1.2.2.2.2.2.2.2.2.2.2.2.2.2.2.2.2.2.2.2.2.1)).run = some oy) : ac Tryz.prog 72 (fk.aD pre F) :=
  aB ar nM Hw (f := 72) (fn := Tryz.f72) (c := al Tryz.f72) (by kernel_rfl) (by kernel_rfl) (by kernel_rfl) (S := fk) (k := 1) (by kernel_rfl) (fun R hR => ag) (n := 1000) (sel := DP) (fun v o h => by cases h; rfl) (pre := pre) (F := F) (T := fun x => FV (x.1.1) (x.2.1.1) (x.2.1.2.1) (x.2.1.2.2.1) (x.2.1.2.2.2.1) (x.2.1.2.2.2.2.1) (x.2.1.2.2.2.2.2.1) (x.2.1.2.2.2.2.2.2.1) (x.2.1.2.2.2.2.2.2.2.1) (x.2.1.2.2.2.2.2.2.2.2.1) (x.2.1.2.2.2.2.2.2.2.2.2.1) (x.2.1.2.2.2.2.2.2.2.2.2.2.1) (x.2.1.2.2.2.2.2.2.2.2.2.2.2.1) (x.2.1.2.2.2.2.2.2.2.2.2.2.2.2.1) (x.2.1.2.2.2.2.2.2.2.2.2.2.2.2.2.1) (x.2.1.2.2.2.2.2.2.2.2.2.2.2.2.2.2.1) (x.2.1.2.2.2.2.2.2.2.2.2.2.2.2.2.2.2.1) (x.2.1.2.2.2.2.2.2.2.2.2.2.2.2.2.2.2.2.1) (x.2.1.2.2.2.2.2.2.2.2.2.2.2.2.2.2.2.2.2.1) (x.2.1.2.2.2.2.2.2.2.2.2.2.2.2.2.2.2.2.2.2.1) (x.2.1.2.2.2.2.2.2.2.2.2.2.2.2.2.2.2.2.2.2.2.1) (x.2.1.2.2.2.2.2.2.2.2.2.2.2.2.2.2.2.2.2.2.2.2.1)) (fun x Q => afm x Q) hF
def aci (l : List Pt) (i : agw) : Bool := decide (0 ≤ gL l i)
def u4 (x : u5) : Bool := decide (x.1.1.length ≤ 140737488355328)
def Sa (x : u5) : OT fk.Y := .ok ⟨zA, ((aci x.1.1 x.2.1, ()), x.2)⟩
theorem ZP : ac Tryz.prog 72 (fk.aD u4 Sa) := M8 _ _ fun x oy hp ho => by
  rw [← ho]
  clear ho
  refine (aj ?_).trans rfl
  simp only [List.all_cons, List.all_nil, Bool.and_true]
  exact hp
def qe : cv := (fk.aD u4 Sa)
theorem Jj : ac Tryz.prog 72 qe := ZP
theorem Ji : aF qe := az
def tw : Env := ay 72 qe nN
theorem qX : aQ Tryz.prog tw := ah Jj nM
theorem tv : av tw := ae Ji pC
theorem Lj : aV Tryz.prog te tw := aJ follows ar qX tv
def eF : ao := ⟨[.val true ajl], [], true, 0, false⟩
abbrev u7 : Type := (((Int × (Int × (List ((ab × (ab × Bool))) × ((ab × (ab × Bool)) × (ab × (ab × Bool))))))) × Unit) × (Unit)
def dS : aw := ⟨[.val false .int], [], false⟩
def DR : SV → Option aw := fun _ => some dS
def sc (a0 : (Int × (Int × (List ((ab × (ab × Bool))) × ((ab × (ab × Bool)) × (ab × (ab × Bool))))))) : OT eF.Y :=
  let z0 : Int × Int × List (ab × ab × Bool) × UInt64 × UInt64 × UInt64 × UInt64 × UInt64 × UInt64 × UInt64 × UInt64 × Bool × UInt64 × UInt64 × UInt64 × UInt64 × UInt64 × UInt64 × UInt64 × UInt64 × Bool × PUnit := (a0.fst, a0.snd.fst, a0.snd.snd.fst, a0.snd.snd.snd.fst.fst.w0, a0.snd.snd.snd.fst.fst.w1, a0.snd.snd.snd.fst.fst.w2, a0.snd.snd.snd.fst.fst.w3, a0.snd.snd.snd.fst.snd.fst.w0, a0.snd.snd.snd.fst.snd.fst.w1, a0.snd.snd.snd.fst.snd.fst.w2, a0.snd.snd.snd.fst.snd.fst.w3, a0.snd.snd.snd.fst.snd.snd, a0.snd.snd.snd.snd.fst.w0, a0.snd.snd.snd.snd.fst.w1, a0.snd.snd.snd.snd.fst.w2, a0.snd.snd.snd.snd.fst.w3, a0.snd.snd.snd.snd.snd.fst.w0, a0.snd.snd.snd.snd.snd.fst.w1, a0.snd.snd.snd.snd.snd.fst.w2, a0.snd.snd.snd.snd.snd.fst.w3, a0.snd.snd.snd.snd.snd.snd, ())
  (.br (ak a0.fst)
  (.br (decide (a0.snd.fst < (0 : Int)))
    (.ok ⟨dS, (((60 : Int), ()), ())⟩)
    (.br (decide ((5 : Int) < a0.snd.fst))
      (.ok ⟨dS, (((60 : Int), ()), ())⟩)
      (gd [decide ((0 : Int) ≤ a0.snd.fst)] (.br (!(↑(List.length a0.snd.snd.fst) : Int) == LH (1 : Int) a0.snd.fst)
        (.ok ⟨dS, (((90 : Int), ()), ())⟩)
        (gd [u4 ((a0.snd.snd.fst, (), ()), z0, ())] (.br (aci a0.snd.snd.fst z0)
          (.ok ⟨dS, (((90 : Int), ()), ())⟩)
          (.br (k6 a0.fst a0.snd.snd.snd.fst)
            (.ok ⟨dS, (((90 : Int), ()), ())⟩)
            (.br (k6 a0.fst a0.snd.snd.snd.snd)
              (.ok ⟨dS, (((90 : Int), ()), ())⟩)
              (.ok ⟨dS, (((0 : Int), ()), ())⟩)))))))))
  (.ok ⟨dS, (((40 : Int), ()), ())⟩))
theorem afn (x : u7) (Q : eF.Y → Prop) : wpf te tw ax 1000 Tryz.f35 (eF.inp.inj x).tm (eF.inp.inj x).hp (fnK eF DR Q) (fun _ _ => False) = (sc (x.1.1)).wpR Q := by kernel_rfl
theorem M9 (pre : u7 → Bool) (F : u7 → OT eF.Y) (hF : ∀ (x : u7) oy, pre x = true → (F x).run = some oy → (sc (x.1.1)).run = some oy) : ac Tryz.prog 35 (eF.aD pre F) :=
  aB ar qX Lj (f := 35) (fn := Tryz.f35) (c := al Tryz.f35) (by kernel_rfl) (by kernel_rfl) (by kernel_rfl) (S := eF) (k := 0) (by kernel_rfl) (fun R hR => ag) (n := 1000) (sel := DR) (fun v o h => by cases h; rfl) (pre := pre) (F := F) (T := fun x => sc (x.1.1)) (fun x Q => afn x Q) hF
abbrev akF : Type := Int × (Int × (List Pt × (Pt × Pt)))
theorem TO (l : List Pt) (i : agw) : ∀ n k : Nat, k + n = l.length → decide (0 ≤ np l i n k) = (l.drop k).any (k6 i.1)
  | 0, k, h => by
    rw [List.drop_eq_nil_of_le (by omega)]
    rfl
  | n + 1, k, h => by
    have hk : k < l.length := by omega
    have e1 : l.drop k = l[k] :: l.drop (k + 1) := List.drop_eq_getElem_cons hk
    have e3 : l.getD k sg = l[k] := by rw [List.getD_eq_getElem?_getD, List.getElem?_eq_getElem hk]; rfl
    rw [e1, List.any_cons]
    unfold np
    rw [e3]
    cases k6 i.1 l[k]
    · rw [cond_false, Bool.false_or]
      exact TO l i n (k + 1) (by omega)
    · rw [cond_true, Bool.true_or]
      exact decide_eq_true (by omega)
theorem akC (l : List Pt) (i : agw) : aci l i = l.any (k6 i.1) := TO l i l.length 0 (by omega)
def fL (p : akF) : Int := cond (ak p.1) (cond (decide (p.2.1 < 0)) 60 (cond (decide (5 < p.2.1)) 60 (cond (!((p.2.2.1.length : Int) == LH 1 p.2.1)) 90 (cond (p.2.2.1.any (k6 p.1)) 90 (cond (k6 p.1 p.2.2.2.1) 90 (cond (k6 p.1 p.2.2.2.2) 90 0)))))) 40
def ks (x : u7) : Bool := decide (x.1.1.2.2.1.length ≤ 140737488355328)
def Sb (x : u7) : OT eF.Y := .ok ⟨dS, ((fL x.1.1, ()), ())⟩
theorem ZR : ac Tryz.prog 35 (eF.aD ks Sb) := M9 _ _ fun x oy hp ho => by
  rw [← ho]
  clear ho
  obtain ⟨⟨p, ⟨⟩⟩, ⟨⟩⟩ := x
  show (sc p).run = some (⟨dS, ((fL p, ()), ())⟩ : eF.Y)
  have hp : decide (p.2.2.1.length ≤ 140737488355328) = true := hp
  unfold sc fL
  simp only [akC]
  rcases (Bool.eq_false_or_eq_true (ak p.1)).symm with h1 | h1
  · rw [h1]; exact (OT.au rfl).trans rfl
  · rw [h1]
    refine (OT.ap rfl).trans ?_
    by_cases h2 : p.2.1 < 0
    · rw [decide_eq_true h2]; exact (OT.ap rfl).trans rfl
    · rw [decide_eq_false h2]
      refine (OT.au rfl).trans ?_
      by_cases h3 : 5 < p.2.1
      · rw [decide_eq_true h3]; exact (OT.ap rfl).trans rfl
      · rw [decide_eq_false h3]
        refine (OT.au rfl).trans ((aj (by rw [decide_eq_true (show 0 ≤ p.2.1 by omega)]; rfl)).trans ?_)
        rcases (Bool.eq_false_or_eq_true (!((p.2.2.1.length : Int) == LH 1 p.2.1))).symm with h4 | h4
        · rw [h4]
          refine (OT.au rfl).trans ((aj ?_).trans ?_)
          · simp only [List.all_cons, List.all_nil, Bool.and_true]
            exact hp
          · rcases (Bool.eq_false_or_eq_true (p.2.2.1.any (k6 p.1))).symm with h5 | h5
            · rw [h5]
              refine (OT.au rfl).trans ?_
              rcases (Bool.eq_false_or_eq_true (k6 p.1 p.2.2.2.1)).symm with h6 | h6
              · rw [h6]
                refine (OT.au rfl).trans ?_
                rcases (Bool.eq_false_or_eq_true (k6 p.1 p.2.2.2.2)).symm with h7 | h7
                · rw [h7]; exact (OT.au rfl).trans rfl
                · rw [h7]; exact (OT.ap rfl).trans rfl
              · rw [h6]; exact (OT.ap rfl).trans rfl
            · rw [h5]; exact (OT.ap rfl).trans rfl
        · rw [h4]; exact (OT.ap rfl).trans rfl
def qg : cv := (eF.aD ks Sb)
theorem Jn : ac Tryz.prog 35 qg := ZR
theorem Jm : aF qg := az
def tz : Env := ay 35 qg tw
theorem qY : aQ Tryz.prog tz := ah Jn qX
theorem tx : av tz := ae Jm tv
theorem Lk : aV Tryz.prog te tz := aJ follows ar qY tx
def iN : ao := ⟨[.val false (.list (.prod .elem (.prod .elem .bool)))], [], true, 0, false⟩
abbrev DO : Type := ((List ((ab × (ab × Bool)))) × Unit) × (Unit)
def FT : aw := ⟨[.own 0], [(0, .row (.prod .elem (.prod .elem .bool)))], false⟩
def Jh : SV → Option aw := fun _ => some FT
def M7 (a0 : List ((ab × (ab × Bool)))) : OT iN.Y :=
  (gd [decide ((0 + List.length a0) * 72 ≤ 140737488355328)] (.ok ⟨FT, (((), ()), ([] ++ a0, ()))⟩))
theorem ajk (x : DO) (Q : iN.Y → Prop) : wpf te tz ax 1000 Tryz.f46 (iN.inp.inj x).tm (iN.inp.inj x).hp (fnK iN Jh Q) (fun _ _ => False) = (M7 (x.1.1)).wpR Q := by kernel_rfl
theorem UP (pre : DO → Bool) (F : DO → OT iN.Y) (hF : ∀ (x : DO) oy, pre x = true → (F x).run = some oy → (M7 (x.1.1)).run = some oy) : ac Tryz.prog 46 (iN.aD pre F) :=
  aB ar qY Lk (f := 46) (fn := Tryz.f46) (c := al Tryz.f46) (by kernel_rfl) (by kernel_rfl) (by kernel_rfl) (S := iN) (k := 0) (by kernel_rfl) (fun R hR => ag) (n := 1000) (sel := Jh) (fun v o h => by cases h; rfl) (pre := pre) (F := F) (T := fun x => M7 (x.1.1)) (fun x Q => ajk x Q) hF
def kp (x : DO) : Bool := decide (x.1.1.length * 72 ≤ 140737488355328)
def ZO (x : DO) : OT iN.Y := .ok ⟨FT, (((), ()), (x.1.1, ()))⟩
theorem afl : ac Tryz.prog 46 (iN.aD kp ZO) := UP _ _ fun x oy hp ho => by
  rw [← ho]
  have hp' : x.1.1.length * 72 ≤ 140737488355328 := of_decide_eq_true hp
  refine (aj ?_).trans rfl
  simp only [List.all_cons, List.all_nil, Bool.and_true, Bool.and_eq_true]
  exact decide_eq_true (by omega)
def u3 : cv := (iN.aD kp ZO)
theorem M6 : ac Tryz.prog 46 u3 := afl
theorem M5 : aF u3 := az
def BW : Env := ay 46 u3 tz
theorem v9 : aQ Tryz.prog BW := ah M6 qY
theorem xo : av BW := ae M5 tx
theorem O6 : aV Tryz.prog te BW := aJ follows ar v9 xo
def fj : ao := ⟨[.val true ajl], [], false, 0, false⟩
abbrev u2 : Type := (((Int × (Int × (List ((ab × (ab × Bool))) × ((ab × (ab × Bool)) × (ab × (ab × Bool))))))) × Unit) × (Unit)
def zz : aw := ⟨[.val true (.prod .int (.prod .int (.prod (.list (.prod .elem (.prod .elem .bool))) (.prod (.prod .elem (.prod .elem .bool)) (.prod .elem (.prod .elem .bool))))))], [], false⟩
def DN : SV → Option aw := fun _ => some zz
def FR (a0 : (Int × (Int × (List ((ab × (ab × Bool))) × ((ab × (ab × Bool)) × (ab × (ab × Bool))))))) : OT fj.Y :=
  (gd [kp ((a0.snd.snd.fst, ()), ())] (.ok ⟨zz, ((a0, ()), ())⟩))
theorem afk (x : u2) (Q : fj.Y → Prop) : wpf te BW ax 1000 Tryz.f36 (fj.inp.inj x).tm (fj.inp.inj x).hp (fnK fj DN Q) (fun _ _ => False) = (FR (x.1.1)).wpR Q := by kernel_rfl
theorem M4 (pre : u2 → Bool) (F : u2 → OT fj.Y) (hF : ∀ (x : u2) oy, pre x = true → (F x).run = some oy → (FR (x.1.1)).run = some oy) : ac Tryz.prog 36 (fj.aD pre F) :=
  aB ar v9 O6 (f := 36) (fn := Tryz.f36) (c := al Tryz.f36) (by kernel_rfl) (by kernel_rfl) (by kernel_rfl) (S := fj) (k := 0) (by kernel_rfl) (fun R hR => ag) (n := 1000) (sel := DN) (fun v o h => by cases h; rfl) (pre := pre) (F := F) (T := fun x => FR (x.1.1)) (fun x Q => afk x Q) hF
def u1 (x : u2) : Bool := decide (x.1.1.2.2.1.length * 72 ≤ 140737488355328)
def R9 (x : u2) : OT fj.Y := .ok ⟨zz, ((x.1.1, ()), ())⟩
theorem ZN : ac Tryz.prog 36 (fj.aD u1 R9) := M4 _ _ fun x oy hp ho => by
  rw [← ho]
  clear ho
  obtain ⟨⟨⟨c, k, G, W, U⟩, ⟨⟩⟩, ⟨⟩⟩ := x
  refine (aj ?_).trans rfl
  simp only [List.all_cons, List.all_nil, Bool.and_true]
  exact hp
def qd : cv := (fj.aD u1 R9)
theorem Jg : ac Tryz.prog 36 qd := ZN
theorem Jf : aF qd := az
def pd : Env := ay 36 qd BW
theorem lV : aQ Tryz.prog pd := ah Jg v9
theorem tu : av pd := ae Jf xo
theorem xn : aV Tryz.prog te pd := aJ follows ar lV tu
def iL : ao := ⟨[.val false (.list (.prod .elem (.prod .elem .bool))), .val false (.list (.prod .elem (.prod .elem .bool)))], [], true, 0, false⟩
abbrev DI : Type := ((List ((ab × (ab × Bool)))) × (List ((ab × (ab × Bool)))) × Unit) × (Unit)
def r7 : Shape := ⟨26, [(0, .val false (.list (.prod .elem (.prod .elem .bool)))), (1, .val false (.list (.prod .elem (.prod .elem .bool)))), (5, .val false .int)], [], 0, true⟩
abbrev bk : Type := ((List ((ab × (ab × Bool)))) × (List ((ab × (ab × Bool)))) × (Int) × Unit) × (Unit)
def oq : Shape := ⟨26, [(4, .val false .bool)], [], 0, true⟩
abbrev iJ : Type := ((Bool) × Unit) × (Unit)
def ot : Shape := ⟨26, [], [], 0, true⟩
abbrev iK : Type := (Unit) × (Unit)
def R7 : SE → Option Shape := jt [(0, ot)] (some oq)
def afi (a0 : List ((ab × (ab × Bool)))) (a1 : List ((ab × (ab × Bool)))) (a5 : Int) : OT (Sum bk aL) :=
  let z0 : Nat := List.length a0
  let z1 : Nat := Int.toNat a5
  let z2 : ab := { w0 := 0, w1 := 0, w2 := 0, w3 := 0 }
  let z3 : ab × ab × Bool := (z2, z2, false)
  let z4 : ab × ab × Bool := List.getD a0 z1 z3
  let z5 := z4.fst
  let z6 : ab × ab × Bool := List.getD a1 z1 z3
  let z7 := z6.fst
  let z8 := z4.snd
  let z9 := z8.fst
  let z10 := z6.snd
  let z11 := z10.fst
  (.br (decide (a5 < (↑z0 : Int)))
  (gd [inB a5 z0, inB a5 (List.length a1)] (.br (!(z5.w0 == z7.w0 && (z5.w1 == z7.w1 && (z5.w2 == z7.w2 && (z5.w3 == z7.w3 && true))) && (z9.w0 == z11.w0 && (z9.w1 == z11.w1 && (z9.w2 == z11.w2 && (z9.w3 == z11.w3 && true))) && (z8.snd == z10.snd && true))))
    (.ok (.inr ⟨(.ret, oq), ((false, ()), ())⟩))
    (gd [inR (a5 + (1 : Int))] (.ok (.inl ((a0, (a1, (a5 + (1 : Int), ()))), ()))))))
  (.ok (.inr ⟨(.exit 0, ot), ((), ())⟩)))
def r9 (s : bk) : OT (Sum bk aL) := afi (s.1.1) (s.1.2.1) (s.1.2.2.1)
theorem aff (s : bk) (Q : Sum bk aL → Prop) : wps te pd ax 1000 (bE (al Tryz.f70) 0) (r7.inj s) (cM r7 R7 (Q : Sum r7.T aL → Prop)) = (r9 s).wpR Q := by kernel_rfl
def oo (g0_r : bk → iJ) (c0_r : bk → Bool) (g0_0 : bk → iK) (s : bk) : OT aL := (.br (c0_r s) (.ok ⟨(.ret, oq), g0_r s⟩) (.ok ⟨(.exit 0, ot), g0_0 s⟩))
def r8 : aw := ⟨[.val false .bool], [], false⟩
def I8 : SV → Option aw := fun _ => some r8
def M1 (ok0 : bk → Bool) (g0_r : bk → iJ) (c0_r : bk → Bool) (g0_0 : bk → iK) (a0 : List ((ab × (ab × Bool)))) (a1 : List ((ab × (ab × Bool)))) : OT iL.Y :=
  let z0 : (List (ab × ab × Bool) × List (ab × ab × Bool) × Int × PUnit) × PUnit := ((a0, a1, (0 : Int), ()), ())
  (.br (!(↑(List.length a0) : Int) == (↑(List.length a1) : Int))
  (.ok ⟨r8, ((false, ()), ())⟩)
  (gd [ok0 z0] (.br (c0_r z0)
    (.ok ⟨r8, (((g0_r z0).fst.fst, ()), ())⟩)
    (.ok ⟨r8, ((true, ()), ())⟩))))
theorem ajg (ok0 : bk → Bool) (g0_r : bk → iJ) (c0_r : bk → Bool) (g0_0 : bk → iK) (x : DI) (Q : iL.Y → Prop) : wpf te pd (bg 0 (db r7 0 ok0 (oo g0_r c0_r g0_0)) ax) 1000 Tryz.f70 (iL.inp.inj x).tm (iL.inp.inj x).hp (fnK iL I8 Q) (fun _ _ => False) = (M1 ok0 g0_r c0_r g0_0 (x.1.1) (x.1.2.1)).wpR Q := by kernel_rfl
theorem UK (ok0 : bk → Bool) (g0_r : bk → iJ) (c0_r : bk → Bool) (g0_0 : bk → iK) (h0 : ∀ s : bk, ok0 s = true → ∃ m e, aq (r9) m s = some e ∧ (oo g0_r c0_r g0_0 s).run = some e) (pre : DI → Bool) (F : DI → OT iL.Y) (hF : ∀ (x : DI) oy, pre x = true → (F x).run = some oy → (M1 ok0 g0_r c0_r g0_0 (x.1.1) (x.1.2.1)).run = some oy) : ac Tryz.prog 70 (iL.aD pre F) :=
  aB ar lV xn (f := 70) (fn := Tryz.f70) (c := al Tryz.f70) (by kernel_rfl) (by kernel_rfl) (by kernel_rfl) (S := iL) (k := 0) (by kernel_rfl) (fun R hR => (aC (c := (al Tryz.f70)) (by kernel_rfl) (id := 0) (by kernel_rfl) (bo ar lV xn (sh := r7) hR (xs := R7) (aE (by kernel_rfl) (by kernel_rfl) hR) aS ag (n := 1000) (T := r9) (fun s Q => aff s Q) (ok := ok0) (f := oo g0_r c0_r g0_0) h0) ag)) (n := 1000) (sel := I8) (fun v o h => by cases h; rfl) (pre := pre) (F := F) (T := fun x => M1 ok0 g0_r c0_r g0_0 (x.1.1) (x.1.2.1)) (fun x Q => ajg ok0 g0_r c0_r g0_0 x Q) hF
def aha (a b : Pt) : Bool := (a.1.w0 == b.1.w0 && (a.1.w1 == b.1.w1 && (a.1.w2 == b.1.w2 && (a.1.w3 == b.1.w3 && true))) && (a.2.1.w0 == b.2.1.w0 && (a.2.1.w1 == b.2.1.w1 && (a.2.1.w2 == b.2.1.w2 && (a.2.1.w3 == b.2.1.w3 && true))) && (a.2.2 == b.2.2 && true)))
theorem ym {a b : Pt} : aha a b = true ↔ a = b := by
  obtain ⟨⟨a0, a1, a2, a3⟩, ⟨a4, a5, a6, a7⟩, a8⟩ := a
  obtain ⟨⟨b0, b1, b2, b3⟩, ⟨b4, b5, b6, b7⟩, b8⟩ := b
  simp only [aha, Bool.and_eq_true, beq_iff_eq, and_true, Prod.mk.injEq, ab.mk.injEq]
def I9 (s : bk) : Bool := decide (s.1.2.2.1 = 0 ∧ s.1.1.length = s.1.2.1.length ∧ s.1.1.length ≤ 140737488355328)
def Ja (_ : bk) : iJ := ((false, ()), ())
def ou (s : bk) : Bool := !decide (s.1.1 = s.1.2.1)
def R8 (_ : bk) : iK := ((), ())
theorem DH {a b : List Pt} (hab : a.length = b.length) (hl : a.length ≤ 140737488355328) : ∀ d i, i + d = a.length →
    ∃ m, aq r9 m ((a, b, (i : Int), ()), ()) = some (cond (decide (a.drop i = b.drop i)) ⟨(.exit 0, ot), ((), ())⟩ ⟨(.ret, oq), ((false, ()), ())⟩)
  | 0, i, h => by
    refine ⟨1, ?_⟩
    have h1 : a.drop i = [] := List.drop_eq_nil_of_le (by omega)
    have h2 : b.drop i = [] := List.drop_eq_nil_of_le (by omega)
    rw [h1, h2, decide_eq_true rfl]
    exact aI (OT.au (decide_eq_false (by dsimp only; omega)))
  | d + 1, i, h => by
    have hi : i < a.length := by omega
    have hi' : i < b.length := by omega
    have e1 : a.drop i = a[i] :: a.drop (i + 1) := List.drop_eq_getElem_cons hi
    have e2 : b.drop i = b[i] :: b.drop (i + 1) := List.drop_eq_getElem_cons hi'
    have g1 : a.getD i sg = a[i] := by rw [List.getD_eq_getElem?_getD, List.getElem?_eq_getElem hi]; rfl
    have g2 : b.getD i sg = b[i] := by rw [List.getD_eq_getElem?_getD, List.getElem?_eq_getElem hi']; rfl
    have hg : ∀ x : OT (Sum bk aL), (gd [inB (i : Int) a.length, inB (i : Int) b.length] x).run = x.run := fun x => aj (by simp only [List.all_cons, List.all_nil, Bool.and_true, Bool.and_eq_true]; exact ⟨bF (by omega), bF (by omega)⟩)
    by_cases hx : a[i] = b[i]
    · obtain ⟨m, hm⟩ := DH hab hl d (i + 1) (by omega)
      refine ⟨m + 1, aH (s' := ((a, b, ((i + 1 : Nat) : Int), ()), ())) ?_ ?_⟩
      · refine (OT.ap (decide_eq_true (by dsimp only; omega))).trans ((hg _).trans ((OT.au ?_).trans ((aj ?_).trans rfl)))
        · show (!aha (a.getD i sg) (b.getD i sg)) = false
          rw [g1, g2, hx, ym.2 rfl]
          rfl
        · simp only [List.all_cons, List.all_nil, Bool.and_true]
          exact bz (by omega)
      · rw [hm, e1, e2, hx]
        simp only [List.cons.injEq, true_and]
    · refine ⟨1, ?_⟩
      have : decide (a.drop i = b.drop i) = false := decide_eq_false (by rw [e1, e2]; intro h; exact hx (List.cons.inj h).1)
      rw [this]
      refine aI ((OT.ap (decide_eq_true (by dsimp only; omega))).trans ((hg _).trans ((OT.ap ?_).trans rfl)))
      show (!aha (a.getD i sg) (b.getD i sg)) = true
      rw [g1, g2]
      cases hq : aha a[i] b[i]
      · rfl
      · exact absurd (ym.1 hq) hx
theorem afh : ∀ s : bk, I9 s = true → ∃ m e, aq r9 m s = some e ∧ (oo Ja ou R8 s).run = some e := by
  rintro ⟨⟨a, b, i, ⟨⟩⟩, ⟨⟩⟩ h
  have h' := of_decide_eq_true h
  dsimp only at h'
  obtain ⟨rfl, hab, hl⟩ := h'
  obtain ⟨m, hm⟩ := DH hab hl a.length 0 (by omega)
  refine ⟨m, _, hm, ?_⟩
  simp only [List.drop_zero]
  by_cases hx : a = b
  · simp only [oo, ou, hx, decide_true, Bool.not_true]
    rfl
  · have : decide (a = b) = false := decide_eq_false hx
    simp only [oo, ou, this, Bool.not_false]
    rfl
def zq (x : DI) : Bool := decide (x.1.1.length ≤ 140737488355328)
def zr (x : DI) : OT iL.Y := .ok ⟨r8, ((decide (x.1.1 = x.1.2.1), ()), ())⟩
theorem afg : ac Tryz.prog 70 (iL.aD zq zr) := UK I9 Ja ou R8 afh _ _ fun x oy hp ho => by
  rw [← ho]
  clear ho
  obtain ⟨⟨a, b, ⟨⟩⟩, ⟨⟩⟩ := x
  have hp' : a.length ≤ 140737488355328 := of_decide_eq_true hp
  by_cases hab : a.length = b.length
  · refine (OT.au (by simp [hab])).trans ((aj ?_).trans ?_)
    · simp only [List.all_cons, List.all_nil, Bool.and_true]
      exact decide_eq_true ⟨rfl, hab, hp'⟩
    · by_cases hx : a = b
      · refine (OT.au (by simp [ou, hx])).trans ?_
        simp only [zr, hx, decide_true]
      · refine (OT.ap (by simp [ou, hx])).trans ?_
        have : decide (a = b) = false := decide_eq_false hx
        simp only [zr, this]
        rfl
  · refine (OT.ap (by simp; omega)).trans ?_
    have : decide (a = b) = false := decide_eq_false fun e => hab (by rw [e])
    simp only [zr, this]
def uX : cv := (iL.aD zq zr)
theorem M0 : ac Tryz.prog 70 uX := afg
theorem MZ : aF uX := az
def BV : Env := ay 70 uX pd
theorem v8 : aQ Tryz.prog BV := ah M0 lV
theorem xm : av BV := ae MZ tu
theorem O5 : aV Tryz.prog te BV := aJ follows ar v8 xm
def eE : ao := ⟨[.val true ajl, .val true ajl], [], true, 0, false⟩
abbrev uW : Type := (((Int × (Int × (List ((ab × (ab × Bool))) × ((ab × (ab × Bool)) × (ab × (ab × Bool))))))) × ((Int × (Int × (List ((ab × (ab × Bool))) × ((ab × (ab × Bool)) × (ab × (ab × Bool))))))) × Unit) × (Unit)
def gw : aw := ⟨[.val false .bool], [], false⟩
def DG : SV → Option aw := fun _ => some gw
def r6 (a0 : (Int × (Int × (List ((ab × (ab × Bool))) × ((ab × (ab × Bool)) × (ab × (ab × Bool))))))) (a1 : (Int × (Int × (List ((ab × (ab × Bool))) × ((ab × (ab × Bool)) × (ab × (ab × Bool))))))) : OT eE.Y :=
  (.br (a0.fst == a1.fst)
  (.br (a0.snd.fst == a1.snd.fst)
    (gd [zq ((a0.snd.snd.fst, a1.snd.snd.fst, ()), ())] (.br (decide (a0.snd.snd.fst = a1.snd.snd.fst))
      (.br (a0.snd.snd.snd.fst.fst.w0 == a1.snd.snd.snd.fst.fst.w0 && (a0.snd.snd.snd.fst.fst.w1 == a1.snd.snd.snd.fst.fst.w1 && (a0.snd.snd.snd.fst.fst.w2 == a1.snd.snd.snd.fst.fst.w2 && (a0.snd.snd.snd.fst.fst.w3 == a1.snd.snd.snd.fst.fst.w3 && true))) && (a0.snd.snd.snd.fst.snd.fst.w0 == a1.snd.snd.snd.fst.snd.fst.w0 && (a0.snd.snd.snd.fst.snd.fst.w1 == a1.snd.snd.snd.fst.snd.fst.w1 && (a0.snd.snd.snd.fst.snd.fst.w2 == a1.snd.snd.snd.fst.snd.fst.w2 && (a0.snd.snd.snd.fst.snd.fst.w3 == a1.snd.snd.snd.fst.snd.fst.w3 && true))) && (a0.snd.snd.snd.fst.snd.snd == a1.snd.snd.snd.fst.snd.snd && true)))
        (.ok ⟨gw, ((a0.snd.snd.snd.snd.fst.w0 == a1.snd.snd.snd.snd.fst.w0 && (a0.snd.snd.snd.snd.fst.w1 == a1.snd.snd.snd.snd.fst.w1 && (a0.snd.snd.snd.snd.fst.w2 == a1.snd.snd.snd.snd.fst.w2 && (a0.snd.snd.snd.snd.fst.w3 == a1.snd.snd.snd.snd.fst.w3 && true))) && (a0.snd.snd.snd.snd.snd.fst.w0 == a1.snd.snd.snd.snd.snd.fst.w0 && (a0.snd.snd.snd.snd.snd.fst.w1 == a1.snd.snd.snd.snd.snd.fst.w1 && (a0.snd.snd.snd.snd.snd.fst.w2 == a1.snd.snd.snd.snd.snd.fst.w2 && (a0.snd.snd.snd.snd.snd.fst.w3 == a1.snd.snd.snd.snd.snd.fst.w3 && true))) && (a0.snd.snd.snd.snd.snd.snd == a1.snd.snd.snd.snd.snd.snd && true)), ()), ())⟩)
        (.ok ⟨gw, ((false, ()), ())⟩))
      (.ok ⟨gw, ((false, ()), ())⟩)))
    (.ok ⟨gw, ((false, ()), ())⟩))
  (.ok ⟨gw, ((false, ()), ())⟩))
theorem afe (x : uW) (Q : eE.Y → Prop) : wpf te BV ax 1000 Tryz.f34 (eE.inp.inj x).tm (eE.inp.inj x).hp (fnK eE DG Q) (fun _ _ => False) = (r6 (x.1.1) (x.1.2.1)).wpR Q := by kernel_rfl
theorem MY (pre : uW → Bool) (F : uW → OT eE.Y) (hF : ∀ (x : uW) oy, pre x = true → (F x).run = some oy → (r6 (x.1.1) (x.1.2.1)).run = some oy) : ac Tryz.prog 34 (eE.aD pre F) :=
  aB ar v8 O5 (f := 34) (fn := Tryz.f34) (c := al Tryz.f34) (by kernel_rfl) (by kernel_rfl) (by kernel_rfl) (S := eE) (k := 0) (by kernel_rfl) (fun R hR => ag) (n := 1000) (sel := DG) (fun v o h => by cases h; rfl) (pre := pre) (F := F) (T := fun x => r6 (x.1.1) (x.1.2.1)) (fun x Q => afe x Q) hF
def Ua (p q : akF) : Bool := cond (p.1 == q.1) (cond (p.2.1 == q.2.1) (cond (decide (p.2.2.1 = q.2.2.1)) (cond (aha p.2.2.2.1 q.2.2.2.1) (aha p.2.2.2.2 q.2.2.2.2) false) false) false) false
theorem T9 (p : akF) : Ua p p = true := by
  unfold Ua
  rw [beq_self_eq_true, beq_self_eq_true, decide_eq_true rfl, ym.2 rfl, ym.2 rfl]
  rfl
def uV (x : uW) : Bool := decide (x.1.1.2.2.1.length ≤ 140737488355328)
def R6 (x : uW) : OT eE.Y := .ok ⟨gw, ((Ua x.1.1 x.1.2.1, ()), ())⟩
theorem ZI : ac Tryz.prog 34 (eE.aD uV R6) := MY _ _ fun x oy hp ho => by
  rw [← ho]
  clear ho
  obtain ⟨⟨p, q, ⟨⟩⟩, ⟨⟩⟩ := x
  have hp : decide (p.2.2.1.length ≤ 140737488355328) = true := hp
  show (r6 p q).run = some (⟨gw, ((Ua p q, ()), ())⟩ : eE.Y)
  unfold r6 Ua
  rcases (Bool.eq_false_or_eq_true (p.1 == q.1)).symm with h1 | h1
  · rw [h1]; exact (OT.au rfl).trans rfl
  · rw [h1]
    refine (OT.ap rfl).trans ?_
    rcases (Bool.eq_false_or_eq_true (p.2.1 == q.2.1)).symm with h2 | h2
    · rw [h2]; exact (OT.au rfl).trans rfl
    · rw [h2]
      refine (OT.ap rfl).trans ((aj ?_).trans ?_)
      · simp only [List.all_cons, List.all_nil, Bool.and_true]
        exact hp
      · rcases (Bool.eq_false_or_eq_true (decide (p.2.2.1 = q.2.2.1))).symm with h3 | h3
        · rw [h3]; exact (OT.au rfl).trans rfl
        · rw [h3]
          refine (OT.ap rfl).trans ?_
          rcases (Bool.eq_false_or_eq_true (aha p.2.2.2.1 q.2.2.2.1)).symm with h4 | h4
          · rw [h4]; exact (OT.au h4).trans rfl
          · rw [h4]; exact (OT.ap h4).trans rfl
def qb : cv := (eE.aD uV R6)
theorem I7 : ac Tryz.prog 34 qb := ZI
theorem I6 : aF qb := az
def pc : Env := ay 34 qb BV
theorem lU : aQ Tryz.prog pc := ah I7 v8
theorem tt : av pc := ae I6 xm
theorem xl : aV Tryz.prog te pc := aJ follows ar lU tt
def dL : ao := ⟨[.val true ajl], [], true, 0, false⟩
abbrev um : Type := (((Int × (Int × (List ((ab × (ab × Bool))) × ((ab × (ab × Bool)) × (ab × (ab × Bool))))))) × Unit) × (Unit)
def mv : Shape := ⟨60, [(1, .ptr 0 0 0), (3, .own 1), (4, .val false .int)], [(0, .cells [.val false .int, .val false .int, .val false (.list (.prod .elem (.prod .elem .bool))), .val false .u64, .val false .u64, .val false .u64, .val false .u64, .val false .u64, .val false .u64, .val false .u64, .val false .u64, .val false .bool, .val false .u64, .val false .u64, .val false .u64, .val false .u64, .val false .u64, .val false .u64, .val false .u64, .val false .u64, .val false .bool]), (1, .row (.prod .elem (.prod .elem .bool)))], 0, true⟩
abbrev aT : Type := ((Unit) × (Unit) × (Int) × Unit) × (((Int) × (Int) × (List ((ab × (ab × Bool)))) × (UInt64) × (UInt64) × (UInt64) × (UInt64) × (UInt64) × (UInt64) × (UInt64) × (UInt64) × (Bool) × (UInt64) × (UInt64) × (UInt64) × (UInt64) × (UInt64) × (UInt64) × (UInt64) × (UInt64) × (Bool) × Unit) × (List ((ab × (ab × Bool)))) × Unit)
def iu : Shape := ⟨60, [(2, .val false .int)], [], 0, true⟩
abbrev gk : Type := ((Int) × Unit) × (Unit)
def lf : Shape := ⟨60, [], [], 0, true⟩
abbrev gl : Type := (Unit) × (Unit)
def H6 : SE → Option Shape := jt [(0, lf)] (some iu)
def YO (a4 : Int) (c0_0 : Int) (c0_1 : Int) (c0_2 : List ((ab × (ab × Bool)))) (c0_3 : UInt64) (c0_4 : UInt64) (c0_5 : UInt64) (c0_6 : UInt64) (c0_7 : UInt64) (c0_8 : UInt64) (c0_9 : UInt64) (c0_10 : UInt64) (c0_11 : Bool) (c0_12 : UInt64) (c0_13 : UInt64) (c0_14 : UInt64) (c0_15 : UInt64) (c0_16 : UInt64) (c0_17 : UInt64) (c0_18 : UInt64) (c0_19 : UInt64) (c0_20 : Bool) (c1 : List ((ab × (ab × Bool)))) : OT (Sum aT aL) :=
  let z0 : Nat := List.length c1
  let z1 : Bool := inB a4 z0
  let z2 : Nat := Int.toNat a4
  let z3 : Bool := decide (z2 < z0)
  let z4 : ab := { w0 := 0, w1 := 0, w2 := 0, w3 := 0 }
  let z5 : ab × ab × Bool := List.getD c1 z2 (z4, z4, false)
  (.br (decide (a4 < (↑z0 : Int)))
  (gd [z1, z3] (.br (z5.snd.snd)
    (.ok (.inr ⟨(.ret, iu), (((90 : Int), ()), ())⟩))
    (gd [z1, z3] (.br (!onB c0_0 z5)
      (.ok (.inr ⟨(.ret, iu), (((90 : Int), ()), ())⟩))
      (gd [inR (a4 + (1 : Int))] (.ok (.inl (((), ((), (a4 + (1 : Int), ()))), ((c0_0, (c0_1, (c0_2, (c0_3, (c0_4, (c0_5, (c0_6, (c0_7, (c0_8, (c0_9, (c0_10, (c0_11, (c0_12, (c0_13, (c0_14, (c0_15, (c0_16, (c0_17, (c0_18, (c0_19, (c0_20, ()))))))))))))))))))))), (c1, ()))))))))))
  (.ok (.inr ⟨(.exit 0, lf), ((), ())⟩)))
def mw (s : aT) : OT (Sum aT aL) := YO (s.1.2.2.1) (s.2.1.1) (s.2.1.2.1) (s.2.1.2.2.1) (s.2.1.2.2.2.1) (s.2.1.2.2.2.2.1) (s.2.1.2.2.2.2.2.1) (s.2.1.2.2.2.2.2.2.1) (s.2.1.2.2.2.2.2.2.2.1) (s.2.1.2.2.2.2.2.2.2.2.1) (s.2.1.2.2.2.2.2.2.2.2.2.1) (s.2.1.2.2.2.2.2.2.2.2.2.2.1) (s.2.1.2.2.2.2.2.2.2.2.2.2.2.1) (s.2.1.2.2.2.2.2.2.2.2.2.2.2.2.1) (s.2.1.2.2.2.2.2.2.2.2.2.2.2.2.2.1) (s.2.1.2.2.2.2.2.2.2.2.2.2.2.2.2.2.1) (s.2.1.2.2.2.2.2.2.2.2.2.2.2.2.2.2.2.1) (s.2.1.2.2.2.2.2.2.2.2.2.2.2.2.2.2.2.2.1) (s.2.1.2.2.2.2.2.2.2.2.2.2.2.2.2.2.2.2.2.1) (s.2.1.2.2.2.2.2.2.2.2.2.2.2.2.2.2.2.2.2.2.1) (s.2.1.2.2.2.2.2.2.2.2.2.2.2.2.2.2.2.2.2.2.2.1) (s.2.1.2.2.2.2.2.2.2.2.2.2.2.2.2.2.2.2.2.2.2.2.1) (s.2.2.1)
theorem YL (s : aT) (Q : Sum aT aL → Prop) : wps te pc ax 1000 (bE (al Tryz.f37) 0) (mv.inj s) (cM mv H6 (Q : Sum mv.T aL → Prop)) = (mw s).wpR Q := by kernel_rfl
def rH (g0_r : aT → gk) (c0_r : aT → Bool) (g0_0 : aT → gl) (s : aT) : OT aL := (.br (c0_r s) (.ok ⟨(.ret, iu), g0_r s⟩) (.ok ⟨(.exit 0, lf), g0_0 s⟩))
def eu : aw := ⟨[.val false .int], [], false⟩
def Da : SV → Option aw := fun _ => some eu
def xV (ok0 : aT → Bool) (g0_r : aT → gk) (c0_r : aT → Bool) (g0_0 : aT → gl) (a0 : (Int × (Int × (List ((ab × (ab × Bool))) × ((ab × (ab × Bool)) × (ab × (ab × Bool))))))) : OT dL.Y :=
  let z0 : Nat := List.length a0.snd.snd.fst
  let z1 : (PUnit × PUnit × Int × PUnit) × (Int × Int × List (ab × ab × Bool) × UInt64 × UInt64 × UInt64 × UInt64 × UInt64 × UInt64 × UInt64 × UInt64 × Bool × UInt64 × UInt64 × UInt64 × UInt64 × UInt64 × UInt64 × UInt64 × UInt64 × Bool × PUnit) × List (ab × ab × Bool) × PUnit := (((), (), (0 : Int), ()), (a0.fst, a0.snd.fst, a0.snd.snd.fst, a0.snd.snd.snd.fst.fst.w0, a0.snd.snd.snd.fst.fst.w1, a0.snd.snd.snd.fst.fst.w2, a0.snd.snd.snd.fst.fst.w3, a0.snd.snd.snd.fst.snd.fst.w0, a0.snd.snd.snd.fst.snd.fst.w1, a0.snd.snd.snd.fst.snd.fst.w2, a0.snd.snd.snd.fst.snd.fst.w3, a0.snd.snd.snd.fst.snd.snd, a0.snd.snd.snd.snd.fst.w0, a0.snd.snd.snd.snd.fst.w1, a0.snd.snd.snd.snd.fst.w2, a0.snd.snd.snd.snd.fst.w3, a0.snd.snd.snd.snd.snd.fst.w0, a0.snd.snd.snd.snd.snd.fst.w1, a0.snd.snd.snd.snd.snd.fst.w2, a0.snd.snd.snd.snd.snd.fst.w3, a0.snd.snd.snd.snd.snd.snd, ()), a0.snd.snd.fst ++ [a0.snd.snd.snd.fst, a0.snd.snd.snd.snd], ())
  (.br (decide (a0.fst < (0 : Int)))
  (.ok ⟨eu, (((40 : Int), ()), ())⟩)
  (.br (decide ((3 : Int) < a0.fst))
    (.ok ⟨eu, (((40 : Int), ()), ())⟩)
    (.br (decide (a0.snd.fst < (0 : Int)))
      (.ok ⟨eu, (((60 : Int), ()), ())⟩)
      (.br (decide ((5 : Int) < a0.snd.fst))
        (.ok ⟨eu, (((60 : Int), ()), ())⟩)
        (gd [kp ((a0.snd.snd.fst, ()), ()), decide ((z0 + 2) * 72 ≤ 140737488355328)] (.br (!(↑z0 : Int) == LH (1 : Int) (↑(UInt64.toNat (i2u a0.snd.fst)) : Int))
          (.ok ⟨eu, (((90 : Int), ()), ())⟩)
          (gd [ok0 z1] (.br (c0_r z1)
            (.ok ⟨eu, (((g0_r z1).fst.fst, ()), ())⟩)
            (.ok ⟨eu, (((0 : Int), ()), ())⟩)))))))))
theorem aeE (ok0 : aT → Bool) (g0_r : aT → gk) (c0_r : aT → Bool) (g0_0 : aT → gl) (x : um) (Q : dL.Y → Prop) : wpf te pc (bg 0 (db mv 0 ok0 (rH g0_r c0_r g0_0)) ax) 1000 Tryz.f37 (dL.inp.inj x).tm (dL.inp.inj x).hp (fnK dL Da Q) (fun _ _ => False) = (xV ok0 g0_r c0_r g0_0 (x.1.1)).wpR Q := by kernel_rfl
theorem L0 (ok0 : aT → Bool) (g0_r : aT → gk) (c0_r : aT → Bool) (g0_0 : aT → gl) (h0 : ∀ s : aT, ok0 s = true → ∃ m e, aq (mw) m s = some e ∧ (rH g0_r c0_r g0_0 s).run = some e) (pre : um → Bool) (F : um → OT dL.Y) (hF : ∀ (x : um) oy, pre x = true → (F x).run = some oy → (xV ok0 g0_r c0_r g0_0 (x.1.1)).run = some oy) : ac Tryz.prog 37 (dL.aD pre F) :=
  aB ar lU xl (f := 37) (fn := Tryz.f37) (c := al Tryz.f37) (by kernel_rfl) (by kernel_rfl) (by kernel_rfl) (S := dL) (k := 0) (by kernel_rfl) (fun R hR => (aC (c := (al Tryz.f37)) (by kernel_rfl) (id := 0) (by kernel_rfl) (bo ar lU xl (sh := mv) hR (xs := H6) (aE (by kernel_rfl) (by kernel_rfl) hR) aS ag (n := 1000) (T := mw) (fun s Q => YL s Q) (ok := ok0) (f := rH g0_r c0_r g0_0) h0) ag)) (n := 1000) (sel := Da) (fun v o h => by cases h; rfl) (pre := pre) (F := F) (T := fun x => xV ok0 g0_r c0_r g0_0 (x.1.1)) (fun x Q => aeE ok0 g0_r c0_r g0_0 x Q) hF
theorem YA (i : agw) (l : List Pt) (hl : l.length ≤ 140737488355328) : ∀ n k : Nat, k + n = l.length →
    ∃ m, aq mw m (((), (), (k : Int), ()), (i, l, ())) = some (cond ((l.drop k).any (k6 i.1)) ⟨(.ret, iu), (((90 : Int), ()), ())⟩ ⟨(.exit 0, lf), ((), ())⟩)
  | 0, k, h => by
    rw [List.drop_eq_nil_of_le (by omega)]
    exact ⟨1, aI (OT.au (decide_eq_false (by dsimp only; omega)))⟩
  | n + 1, k, h => by
    have hk : k < l.length := by omega
    have e1 : l.drop k = l[k] :: l.drop (k + 1) := List.drop_eq_getElem_cons hk
    have e3 : l.getD k sg = l[k] := by rw [List.getD_eq_getElem?_getD, List.getElem?_eq_getElem hk]; rfl
    have hgd : ∀ z : OT (Sum aT aL), (gd [inB (k : Int) l.length, decide (Int.toNat (k : Int) < l.length)] z).run = z.run := fun z => aj (by
      rw [bF (by omega), decide_eq_true (show Int.toNat (k : Int) < l.length by omega)]; rfl)
    rw [e1, List.any_cons, ← e3]
    have c0 : decide ((k : Int) < (l.length : Int)) = true := decide_eq_true (by omega)
    rcases (Bool.eq_false_or_eq_true (l.getD k sg).2.2).symm with h1 | h1
    · rcases (Bool.eq_false_or_eq_true (onB i.1 (l.getD k sg))).symm with h2 | h2
      · have eb : k6 i.1 (l.getD k sg) = true := by unfold k6; rw [h1, h2]; rfl
        rw [eb, Bool.true_or]
        exact ⟨1, aI ((OT.ap c0).trans ((hgd _).trans ((OT.au h1).trans ((hgd _).trans (OT.ap (b := !onB i.1 (l.getD k sg)) (by rw [h2]; rfl))))))⟩
      · have eb : k6 i.1 (l.getD k sg) = false := by unfold k6; rw [h1, h2]; rfl
        rw [eb, Bool.false_or]
        obtain ⟨m, hm⟩ := YA i l hl n (k + 1) (by omega)
        refine ⟨m + 1, aH ?_ hm⟩
        refine (OT.ap c0).trans ((hgd _).trans ((OT.au h1).trans ((hgd _).trans ((OT.au (b := !onB i.1 (l.getD k sg)) (by rw [h2]; rfl)).trans ((aj ?_).trans rfl)))))
        simp only [List.all_cons, List.all_nil, Bool.and_true]
        exact bz (by omega)
    · have eb : k6 i.1 (l.getD k sg) = true := by unfold k6; rw [h1]; rfl
      rw [eb, Bool.true_or]
      exact ⟨1, aI ((OT.ap c0).trans ((hgd _).trans (OT.ap h1)))⟩
def ul (s : aT) : Bool := decide (s.1.2.2.1 = 0 ∧ s.2.2.1.length ≤ 140737488355328)
def yQ (_ : aT) : gk := (((90 : Int), ()), ())
def yS (s : aT) : Bool := s.2.2.1.any (k6 s.2.1.1)
def yR (_ : aT) : gl := ((), ())
theorem YN : ∀ s : aT, ul s = true → ∃ m e, aq mw m s = some e ∧ (rH yQ yS yR s).run = some e := by
  rintro ⟨⟨⟨⟩, ⟨⟩, k, ⟨⟩⟩, ⟨i, l, ⟨⟩⟩⟩ h
  have h' := of_decide_eq_true h
  dsimp only at h'
  obtain ⟨rfl, hl⟩ := h'
  obtain ⟨m, hm⟩ := YA i l hl l.length 0 (by omega)
  refine ⟨m, _, hm, ?_⟩
  show (OT.br (l.any (k6 i.1)) _ _ : OT aL).run = some (cond (l.any (k6 i.1)) _ _)
  cases l.any (k6 i.1) <;> rfl
theorem Rp {k : Int} (h0 : ¬ k < 0) (h5 : ¬ 5 < k) : LH 1 (((i2u k).toNat : Nat) : Int) = LH 1 k := by
  have : k = 0 ∨ k = 1 ∨ k = 2 ∨ k = 3 ∨ k = 4 ∨ k = 5 := by omega
  rcases this with rfl | rfl | rfl | rfl | rfl | rfl <;> rfl
def uk (x : um) : Bool := decide (x.1.1.2.2.1.length ≤ 1000000000000)
def Rz (x : um) : OT dL.Y := .ok ⟨eu, ((fL x.1.1, ()), ())⟩
theorem akB (c : Int) (G : List Pt) (W U : Pt) : (G ++ [W, U]).any (k6 c) = cond (G.any (k6 c)) true (cond (k6 c W) true (k6 c U)) := by
  rw [List.any_append]
  cases G.any (k6 c) <;> cases h1 : k6 c W <;> cases h2 : k6 c U <;> simp [h1, h2]
theorem YM : ac Tryz.prog 37 (dL.aD uk Rz) := L0 ul yQ yS yR YN _ _ fun x oy hp ho => by
  rw [← ho]
  clear ho
  obtain ⟨⟨⟨c, k, G, W, U⟩, ⟨⟩⟩, ⟨⟩⟩ := x
  show (xV ul yQ yS yR (c, k, G, W, U)).run = some (⟨eu, ((fL (c, k, G, W, U), ()), ())⟩ : dL.Y)
  have hp : G.length ≤ 1000000000000 := of_decide_eq_true hp
  have hgd : ∀ z : OT dL.Y, (gd [kp ((G, ()), ()), decide ((G.length + 2) * 72 ≤ 140737488355328)] z).run = z.run := fun z => aj (by
    rw [show kp ((G, ()), ()) = true from decide_eq_true (show G.length * 72 ≤ _ by omega), decide_eq_true (show (G.length + 2) * 72 ≤ 140737488355328 by omega)]; rfl)
  have hlen : (G ++ [W, U]).length ≤ 140737488355328 := by rw [List.length_append]; simp only [List.length_cons, List.length_nil]; omega
  by_cases h1 : c < 0
  · have hs : ak c = false := by rw [Fh, decide_eq_true h1]; rfl
    unfold fL
    dsimp only
    rw [hs]
    exact (OT.ap (decide_eq_true h1)).trans rfl
  · by_cases h2 : 3 < c
    · have hs : ak c = false := by rw [Fh, decide_eq_true h2, decide_eq_false h1]; rfl
      unfold fL
      dsimp only
      rw [hs]
      exact (OT.au (decide_eq_false h1)).trans ((OT.ap (decide_eq_true h2)).trans rfl)
    · have hs : ak c = true := by rw [Fh, decide_eq_false h2, decide_eq_false h1]; rfl
      unfold fL
      dsimp only
      rw [hs]
      refine (OT.au (decide_eq_false h1)).trans ((OT.au (decide_eq_false h2)).trans ?_)
      by_cases h3 : k < 0
      · rw [decide_eq_true h3]
        exact (OT.ap rfl).trans rfl
      · rw [decide_eq_false h3]
        refine (OT.au rfl).trans ?_
        by_cases h4 : 5 < k
        · rw [decide_eq_true h4]
          exact (OT.ap rfl).trans rfl
        · rw [decide_eq_false h4]
          refine (OT.au rfl).trans ((hgd _).trans ?_)
          rcases (Bool.eq_false_or_eq_true (!((G.length : Int) == LH 1 k))).symm with h5 | h5
          · have h5' : (!((G.length : Int) == LH 1 (((i2u k).toNat : Nat) : Int))) = false := by rw [Rp h3 h4]; exact h5
            rw [h5]
            refine (OT.au h5').trans ((aj ?_).trans ?_)
            · simp only [List.all_cons, List.all_nil, Bool.and_true]
              exact decide_eq_true ⟨rfl, hlen⟩
            · have ha := akB c G W U
              show (OT.br ((G ++ [W, U]).any (k6 c)) _ _ : OT dL.Y).run = _
              rw [ha]
              cases G.any (k6 c) <;> cases k6 c W <;> cases k6 c U <;> rfl
          · have h5' : (!((G.length : Int) == LH 1 (((i2u k).toNat : Nat) : Int))) = true := by rw [Rp h3 h4]; exact h5
            rw [h5]
            exact (OT.ap h5').trans rfl
def pP : cv := (dL.aD uk Rz)
theorem H8 : ac Tryz.prog 37 pP := YM
theorem H7 : aF pP := az
def o6 : Env := ay 37 pP pc
theorem lQ : aQ Tryz.prog o6 := ah H8 lU
theorem s9 : av o6 := ae H7 tt
theorem wT : aV Tryz.prog te o6 := aJ follows ar lQ s9
end Go.Proofs.YtohjofabochgfaaGreat
