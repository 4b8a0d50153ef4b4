/- A symbolic machine for Go code over plain data, and functions of the program as it shows them. No statement is proved in this file. -/
import Derived.KernelRfl
import Derived.Test.YtohjofabochgfaaGreatXd
set_option linter.unusedSimpArgs false
set_option linter.unusedVariables false
set_option linter.unusedSectionVars false

namespace Go.Proofs.YtohjofabochgfaaGreat
open Sx Go
set_option maxRecDepth 100000
def fA : av := ⟨[.val false .int, .val true .elem], [], true, 0, false⟩
abbrev xC : Type := ((Int) × (aa) × Unit) × (Unit)
def uS : az := ⟨[.val true .elem], [], false⟩
def GZ : SV → Option az := fun _ => some uS
def Jx (a0 : Int) (a1 : aa) : OT fA.Y :=
  let z0 : Nat := pS a0
  let z1 : aa := aR z0 a1 a1
  let z2 : aa := aR z0 a1 z1
  let z3 : aa := bS a0
  (gd [cd ((a0, a1, a1, ()), ()), cd ((a0, a1, z1, ()), ()), Q7 ((a0, ()), ()), oM ((a0, z2, z3, ()), ())] (.ok ⟨uS, ((n7 z0 z2 z3, ()), ())⟩))
theorem ak4 (x : xC) (Q : fA.Y → Prop) : wpf te ais ay 1000 Tryz.f95 (fA.inp.inj x).tm (fA.inp.inj x).hp (fnK fA GZ Q) (fun _ _ => False) = (Jx (x.1.1) (x.1.2.1)).wpR Q := by kernel_rfl
theorem Q6 (pre : xC → Bool) (F : xC → OT fA.Y) (hF : ∀ (x : xC) oy, pre x = true → (F x).run = some oy → (Jx (x.1.1) (x.1.2.1)).run = some oy) : ac Tryz.prog 95 (fA.aH pre F) :=
  aC au LD air (f := 95) (fn := Tryz.f95) (c := ao Tryz.f95) (by kernel_rfl) (by kernel_rfl) (by kernel_rfl) (S := fA) (k := 0) (by kernel_rfl) (fun R hR => af) (n := 1000) (sel := GZ) (fun v o h => by cases h; rfl) (pre := pre) (F := F) (T := fun x => Jx (x.1.1) (x.1.2.1)) (fun x Q => ak4 x Q) hF
theorem afW (p : Nat) (a b : aa) : aR p a b = aR p b a := by unfold aR; rw [Nat.mul_comm]
def qA (x : xC) : Bool := ak x.1.1
def W1 (x : xC) : OT fA.Y := .ok ⟨uS, ((Bk (pS x.1.1) x.1.2.1 (bS x.1.1), ()), ())⟩
theorem aeK : ac Tryz.prog 95 (fA.aH qA W1) := Q6 _ _ fun x oy hp ho => by
  rw [← ho]
  clear ho
  obtain ⟨⟨s, a, ⟨⟩⟩, ⟨⟩⟩ := x
  have hs : ak s = true := hp
  show _ = some (⟨uS, ((Bk (pS s) a (bS s), ()), ())⟩ : fA.Y)
  unfold Bk
  rw [afW _ (aR (pS s) a a) a]
  refine (al ?_).trans rfl
  simp only [List.all_cons, List.all_nil, Bool.and_true, Bool.and_eq_true]
  exact ⟨hs, hs, hs, hs⟩
def sL : cG := (fA.aH qA W1)
theorem MV : ac Tryz.prog 95 sL := aeK
theorem MU : aK sL := aB
def wc : Env := aA 95 sL ais
theorem tL : aV Tryz.prog wc := ai MV LD
theorem wb : ax wc := ae MU IK
theorem P8 : aZ Tryz.prog te wc := aN follows au tL wb
def lE : av := ⟨[.val false .int, .val true (.prod .elem (.prod .elem .bool))], [], true, 0, false⟩
abbrev ZD : Type := ((Int) × ((aa × (aa × Bool))) × Unit) × (Unit)
def mS : az := ⟨[.val false .bool], [], false⟩
def WV : SV → Option az := fun _ => some mS
def aeH (a0 : Int) (a1 : (aa × (aa × Bool))) : OT lE.Y :=
  let z0 : Int × aa × PUnit := (a0, a1.fst, ())
  let z1 : Nat := pS a0
  let z2 : aa := ofP z1 a1.fst
  let z3 : aa := ofP z1 a1.snd.fst
  let z4 : aa := aR z1 a1.snd.fst a1.snd.fst
  let z5 : aa := Bk z1 a1.fst (bS a0)
  (.br (decide (a0 < (0 : Int)))
  (.ok ⟨mS, ((false, ()), ())⟩)
  (.br (decide ((3 : Int) < a0))
    (.ok ⟨mS, ((false, ()), ())⟩)
    (.br (a1.snd.snd)
      (.ok ⟨mS, ((a1.fst.w0 == (0 : UInt64) && (a1.fst.w1 == (0 : UInt64) && (a1.fst.w2 == (0 : UInt64) && (a1.fst.w3 == (0 : UInt64) && true))) && (a1.snd.fst.w0 == (0 : UInt64) && (a1.snd.fst.w1 == (0 : UInt64) && (a1.snd.fst.w2 == (0 : UInt64) && (a1.snd.fst.w3 == (0 : UInt64) && true))) && (a1.snd.snd == true && true)), ()), ())⟩)
      (gd [iF (z0, ())] (.br (!(z2.w0 == a1.fst.w0 && (z2.w1 == a1.fst.w1 && (z2.w2 == a1.fst.w2 && (z2.w3 == a1.fst.w3 && true)))))
        (.ok ⟨mS, ((false, ()), ())⟩)
        (gd [iF ((a0, a1.snd.fst, ()), ())] (.br (!(z3.w0 == a1.snd.fst.w0 && (z3.w1 == a1.snd.fst.w1 && (z3.w2 == a1.snd.fst.w2 && (z3.w3 == a1.snd.fst.w3 && true)))))
          (.ok ⟨mS, ((false, ()), ())⟩)
          (gd [cd ((a0, a1.snd.fst, a1.snd.fst, ()), ()), qA (z0, ())] (.ok ⟨mS, ((z4.w0 == z5.w0 && (z4.w1 == z5.w1 && (z4.w2 == z5.w2 && (z4.w3 == z5.w3 && true))), ()), ())⟩)))))))))
theorem ash (x : ZD) (Q : lE.Y → Prop) : wpf te wc ay 1000 Tryz.f73 (lE.inp.inj x).tm (lE.inp.inj x).hp (fnK lE WV Q) (fun _ _ => False) = (aeH (x.1.1) (x.1.2.1)).wpR Q := by kernel_rfl
theorem aeG (pre : ZD → Bool) (F : ZD → OT lE.Y) (hF : ∀ (x : ZD) oy, pre x = true → (F x).run = some oy → (aeH (x.1.1) (x.1.2.1)).run = some oy) : ac Tryz.prog 73 (lE.aH pre F) :=
  aC au tL P8 (f := 73) (fn := Tryz.f73) (c := ao Tryz.f73) (by kernel_rfl) (by kernel_rfl) (by kernel_rfl) (S := lE) (k := 0) (by kernel_rfl) (fun R hR => af) (n := 1000) (sel := WV) (fun v o h => by cases h; rfl) (pre := pre) (F := F) (T := fun x => aeH (x.1.1) (x.1.2.1)) (fun x Q => ash x Q) hF
theorem XA {s : Int} (hs : ak s = true) (x : aa) : eqE (ofP (pS s) x) x = Nat.blt x.nat (pS s) := by
  have hp := fx hs
  have hlt := Nat.mod_lt x.nat hp.1
  rw [aqZ, show (ofP (pS s) x).nat = x.nat % pS s from cH hp]
  rcases (Bool.eq_false_or_eq_true (Nat.blt x.nat (pS s))).symm with h | h
  · rw [h]
    have hle := afR h
    cases hb : Nat.beq (x.nat % pS s) x.nat
    · rfl
    · have := Nat.eq_of_beq_eq_true hb
      omega
  · rw [h, Nat.mod_eq_of_lt (cL h)]
    exact Nat.beq_refl _
def WW (_ : ZD) : Bool := true
def ane (x : ZD) : OT lE.Y := .ok ⟨mS, ((onB x.1.1 x.1.2.1, ()), ())⟩
theorem apA : ac Tryz.prog 73 (lE.aH WW ane) := aeG _ _ fun x oy _ ho => by
  rw [← ho]
  clear ho
  obtain ⟨⟨c, ⟨X, Y, i⟩, ⟨⟩⟩, ⟨⟩⟩ := x
  show _ = some (⟨mS, ((onB c (X, Y, i), ()), ())⟩ : lE.Y)
  rcases (Bool.eq_false_or_eq_true (ak c)).symm with hs | hs
  · have e : onB c (X, Y, i) = false := by unfold onB; rw [hs]; rfl
    rw [e]
    by_cases h0 : c < 0
    · exact OT.ap (decide_eq_true h0)
    · refine (OT.aw (decide_eq_false h0)).trans (OT.ap (decide_eq_true ?_))
      show (3 : Int) < c
      simp only [ak, Bool.and_eq_false_iff, decide_eq_false_iff_not] at hs
      omega
  · have hc : 0 ≤ c ∧ c < 4 := by simpa [ak] using hs
    refine (OT.aw (decide_eq_false (by show ¬ c < 0; omega))).trans ((OT.aw (decide_eq_false (by show ¬ (3 : Int) < c; omega))).trans ?_)
    have hx := XA hs X
    have hy := XA hs Y
    have gd1 : ∀ (a : aa) (z : OT lE.Y), (gd [iF ((c, a, ()), ())] z).run = z.run := fun a z => al (by simp only [List.all_cons, List.all_nil, Bool.and_true]; exact hs)
    cases i
    · refine (OT.aw rfl).trans ((gd1 X _).trans ?_)
      rcases (Bool.eq_false_or_eq_true (Nat.blt X.nat (pS c))).symm with h1 | h1
      · have e : onB c (X, Y, false) = false := by unfold onB; rw [hs, h1]; rfl
        rw [e]
        rw [h1] at hx
        exact OT.ap (b := !eqE (ofP (pS c) X) X) (by rw [hx]; rfl)
      · have hx1 := hx
        rw [h1] at hx1
        refine (OT.aw (b := !eqE (ofP (pS c) X) X) (by rw [hx1]; rfl)).trans ((gd1 Y _).trans ?_)
        rcases (Bool.eq_false_or_eq_true (Nat.blt Y.nat (pS c))).symm with h2 | h2
        · have e : onB c (X, Y, false) = false := by unfold onB; rw [hs, h1, h2]; rfl
          rw [e]
          rw [h2] at hy
          exact OT.ap (b := !eqE (ofP (pS c) Y) Y) (by rw [hy]; rfl)
        · have hy1 := hy
          rw [h2] at hy1
          have e : onB c (X, Y, false) = eqE (aR (pS c) Y Y) (Bk (pS c) X (bS c)) := by unfold onB; rw [hs, h1, h2]; rfl
          rw [e]
          refine (OT.aw (b := !eqE (ofP (pS c) Y) Y) (by rw [hy1]; rfl)).trans ((al ?_).trans rfl)
          simp only [List.all_cons, List.all_nil, Bool.and_true, Bool.and_eq_true]
          exact ⟨hs, hs⟩
    · have e : onB c (X, Y, true) = (cp X && (cp Y && true)) := by unfold onB; rw [hs]; rfl
      rw [e]
      exact OT.ap rfl
def Cz : cG := (lE.aH WW ane)
theorem ZC : ac Tryz.prog 73 Cz := apA
theorem ZB : aK Cz := aB
def P7 : Env := aA 73 Cz wc
theorem E9 : aV Tryz.prog P7 := ai ZC tL
theorem Fa : ax P7 := ae ZB wb
theorem ab7 : aZ Tryz.prog te P7 := aN follows au E9 Fa
def iO : av := ⟨[.val false .int, .val true (.prod .elem (.prod .elem .bool)), .val true (.prod .elem (.prod .elem .bool))], [], true, 0, false⟩
abbrev GU : Type := ((Int) × ((aa × (aa × Bool))) × ((aa × (aa × Bool))) × Unit) × (Unit)
def kL : az := ⟨[.val true (.prod .elem (.prod .elem .bool))], [], false⟩
def MK : SV → Option az := fun _ => some kL
def QY (a0 : Int) (a1 : (aa × (aa × Bool))) (a2 : (aa × (aa × Bool))) : OT iO.Y :=
  let z0 : aa × PUnit := (a1.snd.fst, ())
  let z1 : aa × PUnit := (a1.fst, ())
  let z2 : aa := { w0 := 0, w1 := 0, w2 := 0, w3 := 0 }
  let z3 : aa := { w0 := 3, w1 := 0, w2 := 0, w3 := 0 }
  let z4 : Nat := pS a0
  let z5 : aa := aR z4 a1.fst a1.fst
  let z6 : aa := aR z4 z3 z5
  let z7 : aa := n7 z4 a1.snd.fst a1.snd.fst
  let z8 : aa := byP z4 z6 z7
  let z9 : aa := aR z4 z8 z8
  let z10 : aa := e9 z4 z9 a1.fst
  let z11 : aa × PUnit := (a2.fst, ())
  let z12 : aa := e9 z4 z10 a2.fst
  let z13 : aa := e9 z4 a1.fst z12
  let z14 : aa := aR z4 z8 z13
  let z15 : aa := e9 z4 a2.snd.fst a1.snd.fst
  let z16 : aa := e9 z4 a2.fst a1.fst
  let z17 : aa := byP z4 z15 z16
  let z18 : aa := aR z4 z17 z17
  let z19 : aa := e9 z4 z18 a1.fst
  let z20 : aa := e9 z4 z19 a2.fst
  let z21 : aa := e9 z4 a1.fst z20
  let z22 : aa := aR z4 z17 z21
  (.br (a1.snd.snd)
  (.ok ⟨kL, ((a2, ()), ())⟩)
  (.br (a2.snd.snd)
    (.ok ⟨kL, ((a1, ()), ())⟩)
    (gd [eg ((a0, a2.snd.fst, z0), ()), eg ((a0, a2.fst, z1), ())] (.br (a1.fst.w0 == a2.fst.w0 && (a1.fst.w1 == a2.fst.w1 && (a1.fst.w2 == a2.fst.w2 && (a1.fst.w3 == a2.fst.w3 && true))))
      (.br (!(a1.snd.fst.w0 == a2.snd.fst.w0 && (a1.snd.fst.w1 == a2.snd.fst.w1 && (a1.snd.fst.w2 == a2.snd.fst.w2 && (a1.snd.fst.w3 == a2.snd.fst.w3 && true)))))
        (.ok ⟨kL, (((z2, z2, true), ()), ())⟩)
        (gd [cd ((a0, a1.fst, z1), ()), cd ((a0, z3, z5, ()), ()), oM ((a0, a1.snd.fst, z0), ()), BH ((a0, z6, z7, ()), ()), cd ((a0, z8, z8, ()), ()), eg ((a0, z9, z1), ()), eg ((a0, z10, z11), ()), eg ((a0, a1.fst, z12, ()), ()), cd ((a0, z8, z13, ()), ()), eg ((a0, z14, z0), ())] (.ok ⟨kL, (((z12, e9 z4 z14 a1.snd.fst, false), ()), ())⟩)))
      (gd [BH ((a0, z15, z16, ()), ()), cd ((a0, z17, z17, ()), ()), eg ((a0, z18, z1), ()), eg ((a0, z19, z11), ()), eg ((a0, a1.fst, z20, ()), ()), cd ((a0, z17, z21, ()), ()), eg ((a0, z22, z0), ())] (.ok ⟨kL, (((z20, e9 z4 z22 a1.snd.fst, false), ()), ())⟩))))))
theorem apz (x : GU) (Q : iO.Y → Prop) : wpf te P7 ay 1000 Tryz.f170 (iO.inp.inj x).tm (iO.inp.inj x).hp (fnK iO MK Q) (fun _ _ => False) = (QY (x.1.1) (x.1.2.1) (x.1.2.2.1)).wpR Q := by kernel_rfl
theorem ZA (pre : GU → Bool) (F : GU → OT iO.Y) (hF : ∀ (x : GU) oy, pre x = true → (F x).run = some oy → (QY (x.1.1) (x.1.2.1) (x.1.2.2.1)).run = some oy) : ac Tryz.prog 170 (iO.aH pre F) :=
  aC au E9 ab7 (f := 170) (fn := Tryz.f170) (c := ao Tryz.f170) (by kernel_rfl) (by kernel_rfl) (by kernel_rfl) (S := iO) (k := 0) (by kernel_rfl) (fun R hR => af) (n := 1000) (sel := MK) (fun v o h => by cases h; rfl) (pre := pre) (F := F) (T := fun x => QY (x.1.1) (x.1.2.1) (x.1.2.2.1)) (fun x Q => apz x Q) hF
def yH (p : Nat) (X Y X2 s : aa) : Pt := (e9 p (e9 p (aR p s s) X) X2, e9 p (aR p s (e9 p X (e9 p (e9 p (aR p s s) X) X2))) Y, false)
def dV (p : Nat) (P Q : Pt) : Pt := cond P.2.2 Q (cond Q.2.2 P (cond (eqE P.1 Q.1)
  (cond (eqE P.2.1 Q.2.1) (yH p P.1 P.2.1 Q.1 (byP p (aR p ⟨3, 0, 0, 0⟩ (aR p P.1 P.1)) (n7 p P.2.1 P.2.1))) aD)
  (yH p P.1 P.2.1 Q.1 (byP p (e9 p Q.2.1 P.2.1) (e9 p Q.1 P.1)))))
def oz (x : GU) : Bool := ak x.1.1
def aeB (x : GU) : OT iO.Y := .ok ⟨kL, ((dV (pS x.1.1) x.1.2.1 x.1.2.2.1, ()), ())⟩
theorem akU : ac Tryz.prog 170 (iO.aH oz aeB) := ZA _ _ fun x oy hp ho => by
  rw [← ho]
  clear ho
  obtain ⟨⟨c, ⟨X, Y, i⟩, ⟨X2, Y2, i2⟩, ⟨⟩⟩, ⟨⟩⟩ := x
  have hs : ak c = true := hp
  show _ = (OT.ok ⟨kL, ((dV (pS c) (X, Y, i) (X2, Y2, i2), ()), ())⟩ : OT iO.Y).run
  cases i
  · refine (OT.aw rfl).trans ?_
    cases i2
    · refine (OT.aw rfl).trans ((al ?_).trans ?_)
      · simp only [List.all_cons, List.all_nil, Bool.and_true, Bool.and_eq_true]
        exact ⟨hs, hs⟩
      · rcases (Bool.eq_false_or_eq_true (eqE X X2)).symm with h | h
        · have e : dV (pS c) (X, Y, false) (X2, Y2, false) = yH (pS c) X Y X2 (byP (pS c) (e9 (pS c) Y2 Y) (e9 (pS c) X2 X)) := by unfold dV; simp only [cond_false, h]
          rw [e]
          refine (OT.aw h).trans ((al ?_).trans rfl)
          simp only [List.all_cons, List.all_nil, Bool.and_true, Bool.and_eq_true]
          exact ⟨hs, hs, hs, hs, hs, hs, hs⟩
        · refine (OT.ap h).trans ?_
          rcases (Bool.eq_false_or_eq_true (eqE Y Y2)).symm with h2 | h2
          · have e : dV (pS c) (X, Y, false) (X2, Y2, false) = aD := by unfold dV; simp only [cond_false, cond_true, h, h2]
            rw [e]
            exact OT.ap (b := !eqE Y Y2) (by rw [h2]; rfl)
          · have e : dV (pS c) (X, Y, false) (X2, Y2, false) = yH (pS c) X Y X2 (byP (pS c) (aR (pS c) ⟨3, 0, 0, 0⟩ (aR (pS c) X X)) (n7 (pS c) Y Y)) := by unfold dV; simp only [cond_false, cond_true, h, h2]
            rw [e]
            refine (OT.aw (b := !eqE Y Y2) (by rw [h2]; rfl)).trans ((al ?_).trans rfl)
            simp only [List.all_cons, List.all_nil, Bool.and_true, Bool.and_eq_true]
            exact ⟨hs, hs, hs, hs, hs, hs, hs, hs, hs, hs⟩
    · have e : dV (pS c) (X, Y, false) (X2, Y2, true) = (X, Y, false) := by unfold dV; simp only [cond_false, cond_true]
      rw [e]
      exact OT.ap rfl
  · have e : dV (pS c) (X, Y, true) (X2, Y2, i2) = (X2, Y2, i2) := by unfold dV; simp only [cond_true]
    rw [e]
    exact OT.ap rfl
def xv : cG := (iO.aH oz aeB)
theorem QX : ac Tryz.prog 170 xv := akU
theorem QW : aK xv := aB
def E8 : Env := aA 170 xv P7
theorem zn : aV Tryz.prog E8 := ai QX E9
theorem Az : ax E8 := ae QW Fa
theorem T6 : aZ Tryz.prog te E8 := aN follows au zn Az
def iQ : av := ⟨[.val false .int, .val true (.prod .elem (.prod .elem .bool)), .val true (.prod .elem (.prod .elem .bool))], [], true, 0, false⟩
abbrev G0 : Type := ((Int) × ((aa × (aa × Bool))) × ((aa × (aa × Bool))) × Unit) × (Unit)
def qB : az := ⟨[.val true (.prod .elem (.prod .elem .bool))], [], false⟩
def MW : SV → Option az := fun _ => some qB
def Ra (a0 : Int) (a1 : (aa × (aa × Bool))) (a2 : (aa × (aa × Bool))) : OT iQ.Y :=
  let z0 : aa := { w0 := 0, w1 := 0, w2 := 0, w3 := 0 }
  let z1 : aa × aa × Bool := (z0, z0, true)
  (.br (!onB a0 a1)
  (.ok ⟨qB, ((z1, ()), ())⟩)
  (.br (!onB a0 a2)
    (.ok ⟨qB, ((z1, ()), ())⟩)
    (gd [oz ((a0, a1, a2, ()), ())] (.ok ⟨qB, ((dV (pS a0) a1 a2, ()), ())⟩))))
theorem apE (x : G0) (Q : iQ.Y → Prop) : wpf te E8 ay 1000 Tryz.f163 (iQ.inp.inj x).tm (iQ.inp.inj x).hp (fnK iQ MW Q) (fun _ _ => False) = (Ra (x.1.1) (x.1.2.1) (x.1.2.2.1)).wpR Q := by kernel_rfl
theorem ZG (pre : G0 → Bool) (F : G0 → OT iQ.Y) (hF : ∀ (x : G0) oy, pre x = true → (F x).run = some oy → (Ra (x.1.1) (x.1.2.1) (x.1.2.2.1)).run = some oy) : ac Tryz.prog 163 (iQ.aH pre F) :=
  aC au zn T6 (f := 163) (fn := Tryz.f163) (c := ao Tryz.f163) (by kernel_rfl) (by kernel_rfl) (by kernel_rfl) (S := iQ) (k := 0) (by kernel_rfl) (fun R hR => af) (n := 1000) (sel := MW) (fun v o h => by cases h; rfl) (pre := pre) (F := F) (T := fun x => Ra (x.1.1) (x.1.2.1) (x.1.2.2.1)) (fun x Q => apE x Q) hF
def Bb (c : Int) (P Q : Pt) : Pt := cond (onB c P) (cond (onB c Q) (dV (pS c) P Q) aD) aD
def MX (_ : G0) : Bool := true
def aeP (x : G0) : OT iQ.Y := .ok ⟨qB, ((Bb x.1.1 x.1.2.1 x.1.2.2.1, ()), ())⟩
theorem ak6 : ac Tryz.prog 163 (iQ.aH MX aeP) := ZG _ _ fun x oy _ ho => by
  rw [← ho]
  clear ho
  obtain ⟨⟨c, P, Q, ⟨⟩⟩, ⟨⟩⟩ := x
  show _ = (OT.ok ⟨qB, ((Bb c P Q, ()), ())⟩ : OT iQ.Y).run
  rcases (Bool.eq_false_or_eq_true (onB c P)).symm with h1 | h1
  · have e : Bb c P Q = aD := by unfold Bb; rw [h1]; rfl
    rw [e]
    exact OT.ap (b := !onB c P) (by rw [h1]; rfl)
  · have hs := qV h1
    refine (OT.aw (b := !onB c P) (by rw [h1]; rfl)).trans ?_
    rcases (Bool.eq_false_or_eq_true (onB c Q)).symm with h2 | h2
    · have e : Bb c P Q = aD := by unfold Bb; rw [h1, h2]; rfl
      rw [e]
      exact OT.ap (b := !onB c Q) (by rw [h2]; rfl)
    · have e : Bb c P Q = dV (pS c) P Q := by unfold Bb; rw [h1, h2]; rfl
      rw [e]
      refine (OT.aw (b := !onB c Q) (by rw [h2]; rfl)).trans ((al ?_).trans rfl)
      simp only [List.all_cons, List.all_nil, Bool.and_true]
      exact hs
def xD : cG := (iQ.aH MX aeP)
theorem Q9 : ac Tryz.prog 163 xD := ak6
theorem Q8 : aK xD := aB
def tN : Env := aA 163 xD E8
theorem mB : aV Tryz.prog tN := ai Q9 zn
theorem AC : ax tN := ae Q8 Az
theorem tM : aZ Tryz.prog te tN := aN follows au mB AC
def iP : av := ⟨[.val false .int, .val true .elem, .val true (.prod .elem (.prod .elem .bool))], [], true, 0, false⟩
abbrev GX : Type := ((Int) × (aa) × ((aa × (aa × Bool))) × Unit) × (Unit)
def uP : Shape := ⟨60, [(0, .val false .int), (4, .ptr 0 0 0), (5, .ptr 1 0 0), (6, .ptr 2 0 0), (7, .ptr 3 0 0), (8, .val false .int)], [(0, .row .u64), (1, .cells [.val false .u64, .val false .u64, .val false .u64, .val false .u64, .val false .u64, .val false .u64, .val false .u64, .val false .u64, .val false .bool]), (2, .cells [.val false .u64, .val false .u64, .val false .u64, .val false .u64, .val false .u64, .val false .u64, .val false .u64, .val false .u64, .val false .bool]), (3, .cells [.val false .u64, .val false .u64, .val false .u64, .val false .u64, .val false .u64, .val false .u64, .val false .u64, .val false .u64, .val false .bool])], 0, true⟩
abbrev cw : Type := ((Int) × (Unit) × (Unit) × (Unit) × (Unit) × (Int) × Unit) × ((List (UInt64)) × ((UInt64) × (UInt64) × (UInt64) × (UInt64) × (UInt64) × (UInt64) × (UInt64) × (UInt64) × (Bool) × Unit) × ((UInt64) × (UInt64) × (UInt64) × (UInt64) × (UInt64) × (UInt64) × (UInt64) × (UInt64) × (Bool) × Unit) × ((UInt64) × (UInt64) × (UInt64) × (UInt64) × (UInt64) × (UInt64) × (UInt64) × (UInt64) × (Bool) × Unit) × Unit)
def lF : Shape := ⟨60, [(0, .val false .int), (4, .ptr 0 0 0), (5, .ptr 1 0 0), (6, .ptr 2 0 0), (7, .ptr 3 0 0), (8, .val false .int)], [(0, .row .u64), (1, .cells [.val false .u64, .val false .u64, .val false .u64, .val false .u64, .val false .u64, .val false .u64, .val false .u64, .val false .u64, .val false .bool]), (2, .cells [.val false .u64, .val false .u64, .val false .u64, .val false .u64, .val false .u64, .val false .u64, .val false .u64, .val false .u64, .val false .bool]), (3, .cells [.val false .u64, .val false .u64, .val false .u64, .val false .u64, .val false .u64, .val false .u64, .val false .u64, .val false .u64, .val false .bool])], 0, true⟩
abbrev jP : Type := ((Int) × (Unit) × (Unit) × (Unit) × (Unit) × (Int) × Unit) × ((List (UInt64)) × ((UInt64) × (UInt64) × (UInt64) × (UInt64) × (UInt64) × (UInt64) × (UInt64) × (UInt64) × (Bool) × Unit) × ((UInt64) × (UInt64) × (UInt64) × (UInt64) × (UInt64) × (UInt64) × (UInt64) × (UInt64) × (Bool) × Unit) × ((UInt64) × (UInt64) × (UInt64) × (UInt64) × (UInt64) × (UInt64) × (UInt64) × (UInt64) × (Bool) × Unit) × Unit)
def WY : SE → Option Shape := jr [(0, lF)] none
def ak2 (a0 : Int) (a8 : Int) (c0 : List (UInt64)) (c1_0 : UInt64) (c1_1 : UInt64) (c1_2 : UInt64) (c1_3 : UInt64) (c1_4 : UInt64) (c1_5 : UInt64) (c1_6 : UInt64) (c1_7 : UInt64) (c1_8 : Bool) (c2_0 : UInt64) (c2_1 : UInt64) (c2_2 : UInt64) (c2_3 : UInt64) (c2_4 : UInt64) (c2_5 : UInt64) (c2_6 : UInt64) (c2_7 : UInt64) (c2_8 : Bool) (c3_0 : UInt64) (c3_1 : UInt64) (c3_2 : UInt64) (c3_3 : UInt64) (c3_4 : UInt64) (c3_5 : UInt64) (c3_6 : UInt64) (c3_7 : UInt64) (c3_8 : Bool) : OT (Sum cw aP) :=
  let z0 : Int := Int.tdiv a8 (64 : Int)
  (.br (decide ((0 : Int) ≤ a8))
  (gd [true && inR z0, inB z0 4, decide (Int.toNat z0 + 0 < List.length c0)] (.br (bA (List.getD c0 (Int.toNat z0 + 0) (0 : UInt64)) (↑(UInt64.toNat (i2u (Int.tmod a8 (64 : Int)))) : Int) &&& (1 : UInt64) == (0 : UInt64))
    (gd [inR (a8 - (1 : Int))] (.ok (.inl ((a0, ((), ((), ((), ((), (a8 - (1 : Int), ())))))), (c0, ((c1_0, (c1_1, (c1_2, (c1_3, (c1_4, (c1_5, (c1_6, (c1_7, (c1_8, ()))))))))), ((c2_0, (c2_1, (c2_2, (c2_3, (c2_4, (c2_5, (c2_6, (c2_7, (c2_8, ()))))))))), ((c3_0, (c3_1, (c3_2, (c3_3, (c3_4, (c3_5, (c3_6, (c3_7, (c3_8, ()))))))))), ()))))))))
    (.ok (.inr ⟨(.exit 0, lF), ((a0, ((), ((), ((), ((), (a8, ())))))), (c0, ((c1_0, (c1_1, (c1_2, (c1_3, (c1_4, (c1_5, (c1_6, (c1_7, (c1_8, ()))))))))), ((c2_0, (c2_1, (c2_2, (c2_3, (c2_4, (c2_5, (c2_6, (c2_7, (c2_8, ()))))))))), ((c3_0, (c3_1, (c3_2, (c3_3, (c3_4, (c3_5, (c3_6, (c3_7, (c3_8, ()))))))))), ())))))⟩))))
  (.ok (.inr ⟨(.exit 0, lF), ((a0, ((), ((), ((), ((), (a8, ())))))), (c0, ((c1_0, (c1_1, (c1_2, (c1_3, (c1_4, (c1_5, (c1_6, (c1_7, (c1_8, ()))))))))), ((c2_0, (c2_1, (c2_2, (c2_3, (c2_4, (c2_5, (c2_6, (c2_7, (c2_8, ()))))))))), ((c3_0, (c3_1, (c3_2, (c3_3, (c3_4, (c3_5, (c3_6, (c3_7, (c3_8, ()))))))))), ())))))⟩)))
def uR (s : cw) : OT (Sum cw aP) := ak2 (s.1.1) (s.1.2.2.2.2.2.1) (s.2.1) (s.2.2.1.1) (s.2.2.1.2.1) (s.2.2.1.2.2.1) (s.2.2.1.2.2.2.1) (s.2.2.1.2.2.2.2.1) (s.2.2.1.2.2.2.2.2.1) (s.2.2.1.2.2.2.2.2.2.1) (s.2.2.1.2.2.2.2.2.2.2.1) (s.2.2.1.2.2.2.2.2.2.2.2.1) (s.2.2.2.1.1) (s.2.2.2.1.2.1) (s.2.2.2.1.2.2.1) (s.2.2.2.1.2.2.2.1) (s.2.2.2.1.2.2.2.2.1) (s.2.2.2.1.2.2.2.2.2.1) (s.2.2.2.1.2.2.2.2.2.2.1) (s.2.2.2.1.2.2.2.2.2.2.2.1) (s.2.2.2.1.2.2.2.2.2.2.2.2.1) (s.2.2.2.2.1.1) (s.2.2.2.2.1.2.1) (s.2.2.2.2.1.2.2.1) (s.2.2.2.2.1.2.2.2.1) (s.2.2.2.2.1.2.2.2.2.1) (s.2.2.2.2.1.2.2.2.2.2.1) (s.2.2.2.2.1.2.2.2.2.2.2.1) (s.2.2.2.2.1.2.2.2.2.2.2.2.1) (s.2.2.2.2.1.2.2.2.2.2.2.2.2.1)
theorem akX (s : cw) (Q : Sum cw aP → Prop) : wps te tN ay 1000 (bF (ao Tryz.f164) 0) (uP.inj s) (cQ uP WY (Q : Sum uP.T aP → Prop)) = (uR s).wpR Q := by kernel_rfl
def BC (g0_0 : cw → jP) (s : cw) : OT aP := (.ok ⟨(.exit 0, lF), g0_0 s⟩)
def uO : Shape := ⟨60, [(0, .val false .int), (4, .ptr 0 0 0), (5, .ptr 1 0 0), (6, .ptr 2 0 0), (7, .ptr 3 0 0), (9, .val false .int)], [(0, .row .u64), (1, .cells [.val false .u64, .val false .u64, .val false .u64, .val false .u64, .val false .u64, .val false .u64, .val false .u64, .val false .u64, .val false .bool]), (2, .cells [.val false .u64, .val false .u64, .val false .u64, .val false .u64, .val false .u64, .val false .u64, .val false .u64, .val false .u64, .val false .bool]), (3, .cells [.val false .u64, .val false .u64, .val false .u64, .val false .u64, .val false .u64, .val false .u64, .val false .u64, .val false .u64, .val false .bool])], 0, true⟩
abbrev cI : Type := ((Int) × (Unit) × (Unit) × (Unit) × (Unit) × (Int) × Unit) × ((List (UInt64)) × ((UInt64) × (UInt64) × (UInt64) × (UInt64) × (UInt64) × (UInt64) × (UInt64) × (UInt64) × (Bool) × Unit) × ((UInt64) × (UInt64) × (UInt64) × (UInt64) × (UInt64) × (UInt64) × (UInt64) × (UInt64) × (Bool) × Unit) × ((UInt64) × (UInt64) × (UInt64) × (UInt64) × (UInt64) × (UInt64) × (UInt64) × (UInt64) × (Bool) × Unit) × Unit)
def qx : Shape := ⟨60, [(6, .ptr 0 0 0), (7, .ptr 1 0 0)], [(0, .cells [.val false .u64, .val false .u64, .val false .u64, .val false .u64, .val false .u64, .val false .u64, .val false .u64, .val false .u64, .val false .bool]), (1, .cells [.val false .u64, .val false .u64, .val false .u64, .val false .u64, .val false .u64, .val false .u64, .val false .u64, .val false .u64, .val false .bool])], 0, true⟩
abbrev jO : Type := ((Unit) × (Unit) × Unit) × (((UInt64) × (UInt64) × (UInt64) × (UInt64) × (UInt64) × (UInt64) × (UInt64) × (UInt64) × (Bool) × Unit) × ((UInt64) × (UInt64) × (UInt64) × (UInt64) × (UInt64) × (UInt64) × (UInt64) × (UInt64) × (Bool) × Unit) × Unit)
def WX : SE → Option Shape := jr [(2, qx)] none
def ak1 (a0 : Int) (a9 : Int) (c0 : List (UInt64)) (c1_0 : UInt64) (c1_1 : UInt64) (c1_2 : UInt64) (c1_3 : UInt64) (c1_4 : UInt64) (c1_5 : UInt64) (c1_6 : UInt64) (c1_7 : UInt64) (c1_8 : Bool) (c2_0 : UInt64) (c2_1 : UInt64) (c2_2 : UInt64) (c2_3 : UInt64) (c2_4 : UInt64) (c2_5 : UInt64) (c2_6 : UInt64) (c2_7 : UInt64) (c2_8 : Bool) (c3_0 : UInt64) (c3_1 : UInt64) (c3_2 : UInt64) (c3_3 : UInt64) (c3_4 : UInt64) (c3_5 : UInt64) (c3_6 : UInt64) (c3_7 : UInt64) (c3_8 : Bool) : OT (Sum cI aP) :=
  let z0 : aa × aa × Bool := ({ w0 := c3_0, w1 := c3_1, w2 := c3_2, w3 := c3_3 }, { w0 := c3_4, w1 := c3_5, w2 := c3_6, w3 := c3_7 }, c3_8)
  let z1 : Int := Int.tdiv a9 (64 : Int)
  let z2 : Nat := pS a0
  let z3 : aa × aa × Bool := dV z2 z0 z0
  let z4 : aa × aa × Bool := ({ w0 := c1_0, w1 := c1_1, w2 := c1_2, w3 := c1_3 }, { w0 := c1_4, w1 := c1_5, w2 := c1_6, w3 := c1_7 }, c1_8)
  let z5 : Bool := inR (a9 - (1 : Int))
  let z6 : aa × aa × Bool := dV z2 z3 z4
  let z7 := z6.fst
  let z8 := z6.snd
  let z9 := z8.fst
  let z10 := z3.fst
  let z11 := z3.snd
  let z12 := z11.fst
  (.br (decide ((0 : Int) ≤ a9))
  (gd [oz ((a0, z0, z0, ()), ()), true && inR z1, inB z1 4, decide (Int.toNat z1 + 0 < List.length c0)] (.br (bA (List.getD c0 (Int.toNat z1 + 0) (0 : UInt64)) (↑(UInt64.toNat (i2u (Int.tmod a9 (64 : Int)))) : Int) &&& (1 : UInt64) == (1 : UInt64))
    (gd [oz ((a0, z3, z4, ()), ()), z5] (.ok (.inl ((a0, ((), ((), ((), ((), (a9 - (1 : Int), ())))))), (c0, ((c1_0, (c1_1, (c1_2, (c1_3, (c1_4, (c1_5, (c1_6, (c1_7, (c1_8, ()))))))))), ((c2_0, (c2_1, (c2_2, (c2_3, (c2_4, (c2_5, (c2_6, (c2_7, (c2_8, ()))))))))), ((z7.w0, (z7.w1, (z7.w2, (z7.w3, (z9.w0, (z9.w1, (z9.w2, (z9.w3, (z8.snd, ()))))))))), ()))))))))
    (gd [z5] (.ok (.inl ((a0, ((), ((), ((), ((), (a9 - (1 : Int), ())))))), (c0, ((c1_0, (c1_1, (c1_2, (c1_3, (c1_4, (c1_5, (c1_6, (c1_7, (c1_8, ()))))))))), ((c2_0, (c2_1, (c2_2, (c2_3, (c2_4, (c2_5, (c2_6, (c2_7, (c2_8, ()))))))))), ((z10.w0, (z10.w1, (z10.w2, (z10.w3, (z12.w0, (z12.w1, (z12.w2, (z12.w3, (z11.snd, ()))))))))), ()))))))))))
  (.ok (.inr ⟨(.exit 2, qx), (((), ((), ())), ((c2_0, (c2_1, (c2_2, (c2_3, (c2_4, (c2_5, (c2_6, (c2_7, (c2_8, ()))))))))), ((c3_0, (c3_1, (c3_2, (c3_3, (c3_4, (c3_5, (c3_6, (c3_7, (c3_8, ()))))))))), ())))⟩)))
def qy (s : cI) : OT (Sum cI aP) := ak1 (s.1.1) (s.1.2.2.2.2.2.1) (s.2.1) (s.2.2.1.1) (s.2.2.1.2.1) (s.2.2.1.2.2.1) (s.2.2.1.2.2.2.1) (s.2.2.1.2.2.2.2.1) (s.2.2.1.2.2.2.2.2.1) (s.2.2.1.2.2.2.2.2.2.1) (s.2.2.1.2.2.2.2.2.2.2.1) (s.2.2.1.2.2.2.2.2.2.2.2.1) (s.2.2.2.1.1) (s.2.2.2.1.2.1) (s.2.2.2.1.2.2.1) (s.2.2.2.1.2.2.2.1) (s.2.2.2.1.2.2.2.2.1) (s.2.2.2.1.2.2.2.2.2.1) (s.2.2.2.1.2.2.2.2.2.2.1) (s.2.2.2.1.2.2.2.2.2.2.2.1) (s.2.2.2.1.2.2.2.2.2.2.2.2.1) (s.2.2.2.2.1.1) (s.2.2.2.2.1.2.1) (s.2.2.2.2.1.2.2.1) (s.2.2.2.2.1.2.2.2.1) (s.2.2.2.2.1.2.2.2.2.1) (s.2.2.2.2.1.2.2.2.2.2.1) (s.2.2.2.2.1.2.2.2.2.2.2.1) (s.2.2.2.2.1.2.2.2.2.2.2.2.1) (s.2.2.2.2.1.2.2.2.2.2.2.2.2.1)
theorem akW (s : cI) (Q : Sum cI aP → Prop) : wps te tN ay 1000 (bF (ao Tryz.f164) 2) (uO.inj s) (cQ uO WX (Q : Sum uO.T aP → Prop)) = (qy s).wpR Q := by kernel_rfl
def BB (g2_2 : cI → jO) (s : cI) : OT aP := (.ok ⟨(.exit 2, qx), g2_2 s⟩)
def uQ : az := ⟨[.val true (.prod .elem (.prod .elem .bool))], [], false⟩
def MP : SV → Option az := fun _ => some uQ
def Q2 (ok0 : cw → Bool) (g0_0 : cw → jP) (ok2 : cI → Bool) (g2_2 : cI → jO) (a0 : Int) (a1 : aa) (a2 : (aa × (aa × Bool))) : OT iP.Y :=
  let z0 : aa := { w0 := 0, w1 := 0, w2 := 0, w3 := 0 }
  let z1 : Int := yJ a0 (1 : Int)
  let z2 : aa := ofP (pS z1) a1
  let z3 : (Int × PUnit × PUnit × PUnit × PUnit × Int × PUnit) × List UInt64 × (UInt64 × UInt64 × UInt64 × UInt64 × UInt64 × UInt64 × UInt64 × UInt64 × Bool × PUnit) × (UInt64 × UInt64 × UInt64 × UInt64 × UInt64 × UInt64 × UInt64 × UInt64 × Bool × PUnit) × (UInt64 × UInt64 × UInt64 × UInt64 × UInt64 × UInt64 × UInt64 × UInt64 × Bool × PUnit) × PUnit := ((a0, (), (), (), (), (255 : Int), ()), [z2.w0, z2.w1, z2.w2, z2.w3], (a2.fst.w0, a2.fst.w1, a2.fst.w2, a2.fst.w3, a2.snd.fst.w0, a2.snd.fst.w1, a2.snd.fst.w2, a2.snd.fst.w3, a2.snd.snd, ()), ((0 : UInt64), (0 : UInt64), (0 : UInt64), (0 : UInt64), (0 : UInt64), (0 : UInt64), (0 : UInt64), (0 : UInt64), false, ()), ((0 : UInt64), (0 : UInt64), (0 : UInt64), (0 : UInt64), (0 : UInt64), (0 : UInt64), (0 : UInt64), (0 : UInt64), true, ()), ())
  let z4 : (Int × PUnit × PUnit × PUnit × PUnit × Int × PUnit) × List UInt64 × (UInt64 × UInt64 × UInt64 × UInt64 × UInt64 × UInt64 × UInt64 × UInt64 × Bool × PUnit) × (UInt64 × UInt64 × UInt64 × UInt64 × UInt64 × UInt64 × UInt64 × UInt64 × Bool × PUnit) × (UInt64 × UInt64 × UInt64 × UInt64 × UInt64 × UInt64 × UInt64 × UInt64 × Bool × PUnit) × PUnit := g0_0 z3
  let z5 := z4.fst
  let z6 := z4.snd
  let z7 := z6.snd
  let z8 := z7.fst
  let z9 := z8.snd
  let z10 := z9.snd
  let z11 := z10.snd
  let z12 := z11.snd
  let z13 := z12.snd
  let z14 := z13.snd
  let z15 := z14.snd
  let z16 := z7.snd
  let z17 := z16.fst
  let z18 := z17.snd
  let z19 := z18.snd
  let z20 := z19.snd
  let z21 := z20.snd
  let z22 := z21.snd
  let z23 := z22.snd
  let z24 := z23.snd
  let z25 := z16.snd.fst
  let z26 := z25.snd
  let z27 := z26.snd
  let z28 := z27.snd
  let z29 := z28.snd
  let z30 := z29.snd
  let z31 := z30.snd
  let z32 := z31.snd
  let z33 : (Int × PUnit × PUnit × PUnit × PUnit × Int × PUnit) × List UInt64 × (UInt64 × UInt64 × UInt64 × UInt64 × UInt64 × UInt64 × UInt64 × UInt64 × Bool × PUnit) × (UInt64 × UInt64 × UInt64 × UInt64 × UInt64 × UInt64 × UInt64 × UInt64 × Bool × PUnit) × (UInt64 × UInt64 × UInt64 × UInt64 × UInt64 × UInt64 × UInt64 × UInt64 × Bool × PUnit) × PUnit := ((z5.fst, (), (), (), (), z5.snd.snd.snd.snd.snd.fst, ()), z6.fst, (z8.fst, z9.fst, z10.fst, z11.fst, z12.fst, z13.fst, z14.fst, z15.fst, z15.snd.fst, ()), (z17.fst, z18.fst, z19.fst, z20.fst, z21.fst, z22.fst, z23.fst, z24.fst, z24.snd.fst, ()), (z25.fst, z26.fst, z27.fst, z28.fst, z29.fst, z30.fst, z31.fst, z32.fst, z32.snd.fst, ()), ())
  let z34 := (g2_2 z33).snd.snd.fst
  let z35 := z34.snd
  let z36 := z35.snd
  let z37 := z36.snd
  let z38 := z37.snd
  let z39 := z38.snd
  let z40 := z39.snd
  let z41 := z40.snd
  (.br (!onB a0 a2)
  (.ok ⟨uQ, (((z0, z0, true), ()), ())⟩)
  (gd [iF ((z1, a1, ()), ()), ok0 z3, ok2 z33] (.ok ⟨uQ, ((({ w0 := z34.fst, w1 := z35.fst, w2 := z36.fst, w3 := z37.fst }, { w0 := z38.fst, w1 := z39.fst, w2 := z40.fst, w3 := z41.fst }, z41.snd.fst), ()), ())⟩)))
theorem apB (ok0 : cw → Bool) (g0_0 : cw → jP) (ok2 : cI → Bool) (g2_2 : cI → jO) (x : GX) (Q : iP.Y → Prop) : wpf te tN (bg 2 (di uO 2 ok2 (BB g2_2)) (bg 0 (di uP 0 ok0 (BC g0_0)) ay)) 1000 Tryz.f164 (iP.inp.inj x).tm (iP.inp.inj x).hp (fnK iP MP Q) (fun _ _ => False) = (Q2 ok0 g0_0 ok2 g2_2 (x.1.1) (x.1.2.1) (x.1.2.2.1)).wpR Q := by kernel_rfl
theorem ZE (ok0 : cw → Bool) (g0_0 : cw → jP) (ok2 : cI → Bool) (g2_2 : cI → jO) (h0 : ∀ s : cw, ok0 s = true → ∃ m e, aq (uR) m s = some e ∧ (BC g0_0 s).run = some e) (h2 : ∀ s : cI, ok2 s = true → ∃ m e, aq (qy) m s = some e ∧ (BB g2_2 s).run = some e) (pre : GX → Bool) (F : GX → OT iP.Y) (hF : ∀ (x : GX) oy, pre x = true → (F x).run = some oy → (Q2 ok0 g0_0 ok2 g2_2 (x.1.1) (x.1.2.1) (x.1.2.2.1)).run = some oy) : ac Tryz.prog 164 (iP.aH pre F) :=
  aC au mB tM (f := 164) (fn := Tryz.f164) (c := ao Tryz.f164) (by kernel_rfl) (by kernel_rfl) (by kernel_rfl) (S := iP) (k := 0) (by kernel_rfl) (fun R hR => (aF (c := (ao Tryz.f164)) (by kernel_rfl) (id := 2) (by kernel_rfl) (bt au mB tM (sh := uO) hR (xs := WX) (aG (by kernel_rfl) (by kernel_rfl) hR) aW af (n := 1000) (T := qy) (fun s Q => akW s Q) (ok := ok2) (f := BB g2_2) h2) (aF (c := (ao Tryz.f164)) (by kernel_rfl) (id := 0) (by kernel_rfl) (bt au mB tM (sh := uP) hR (xs := WY) (aG (by kernel_rfl) (by kernel_rfl) hR) aW af (n := 1000) (T := uR) (fun s Q => akX s Q) (ok := ok0) (f := BC g0_0) h0) af))) (n := 1000) (sel := MP) (fun v o h => by cases h; rfl) (pre := pre) (F := F) (T := fun x => Q2 ok0 g0_0 ok2 g2_2 (x.1.1) (x.1.2.1) (x.1.2.2.1)) (fun x Q => apB ok0 g0_0 ok2 g2_2 x Q) hF
def bf (P : Pt) : C9 := (P.1.w0, P.1.w1, P.1.w2, P.1.w3, P.2.1.w0, P.2.1.w1, P.2.1.w2, P.2.1.w3, P.2.2, ())
def cn (p k : Nat) (P : Pt) (n : Nat) (O : Pt) : Pt := cond (Bq k (255 - n)) (dV p (dV p O O) P) (dV p O O)
def Co (p k : Nat) (P : Pt) : Pt := upto (cn p k P) aD 256
theorem WO {p k t : Nat} {P : Pt} (ht : t ≤ 256) (hk : k / 2 ^ t = 0) : ∀ n, n ≤ 256 - t → upto (cn p k P) aD n = aD
  | 0, _ => rfl
  | n + 1, hn => by
    show cn p k P n (upto (cn p k P) aD n) = _
    rw [WO ht hk n (by omega)]
    have hb : Bq k (255 - n) = false := by
      unfold Bq
      rw [show 255 - n = t + (255 - n - t) by omega, Nat.pow_add, ← Nat.div_div_eq_div_mul, hk, Nat.zero_div]
      rfl
    unfold cn
    rw [hb]
    rfl
def Bg (s : Int) (B : aa) (P : C9) (Q : C9) (O : C9) (i : Int) : cw := ((s, (), (), (), (), i, ()), (lst B, P, Q, O, ()))
theorem WJ (s : Int) (B : aa) (P Q O : C9) : ∀ n : Nat, n ≤ 256 → ∃ m, aq uR m (Bg s B P Q O ((n : Int) - 1)) = some ⟨(.exit 0, lF), Bg s B P Q O (Zo B.nat n)⟩
  | 0, _ => ⟨1, aL (OT.aw (decide_eq_false (by dsimp only [Bg]; omega)))⟩
  | n + 1, hn => by
    have e1 : ((n + 1 : Nat) : Int) - 1 = (n : Int) := by omega
    rw [e1]
    have hb := atE (b := B) (k := n) (by omega)
    unfold Zo
    rcases (Bool.eq_false_or_eq_true (Bq B.nat n)).symm with h | h
    · obtain ⟨m, hm⟩ := WJ s B P Q O n (by omega)
      rw [h] at hb ⊢
      refine ⟨m + 1, aM ?_ hm⟩
      refine (OT.ap (decide_eq_true (by dsimp only [Bg]; omega))).trans ((amo (B := B) (k := n) (by omega) _).trans ((OT.ap ?_).trans ((al ?_).trans rfl)))
      · exact (Y5 _).trans (congrArg Bool.not hb)
      · simp only [List.all_cons, List.all_nil, Bool.and_true]
        exact bE (by dsimp only [Bg]; omega)
    · rw [h] at hb ⊢
      refine ⟨1, aL ?_⟩
      refine (OT.ap (decide_eq_true (by dsimp only [Bg]; omega))).trans ((amo (B := B) (k := n) (by omega) _).trans ((OT.aw ?_).trans rfl))
      exact (Y5 _).trans (congrArg Bool.not hb)
def MR (s : cw) : Bool := decide (s.1.2.2.2.2.2.1 = 255 ∧ s.2.1.length = 4)
def W0 (s : cw) : jP := ((s.1.1, (), (), (), (), Zo (elemOf s.2.1).nat 256, ()), s.2)
theorem ak0 : ∀ s : cw, MR s = true → ∃ m e, aq uR m s = some e ∧ (BC W0 s).run = some e := by
  rintro ⟨⟨s, ⟨⟩, ⟨⟩, ⟨⟩, ⟨⟩, i, ⟨⟩⟩, ⟨l, P, Q, O, ⟨⟩⟩⟩ h
  have h' := of_decide_eq_true h
  dsimp only at h'
  obtain ⟨rfl, hl⟩ := h'
  obtain ⟨B, rfl⟩ : ∃ a, l = lst a := ⟨elemOf l, (bl hl).symm⟩
  obtain ⟨m, hm⟩ := WJ s B P Q O 256 (by omega)
  exact ⟨m, _, hm, rfl⟩
theorem apt {s : Int} (hs : ak s = true) (B : aa) (P Q : C9) (O : Pt) {k : Nat} (hk : k < 256) :
    (qy (Bg s B P Q (bf O) (k : Int))).run = some (.inl (Bg s B P Q (bf (cn (pS s) B.nat (kt P) (255 - k) O)) ((k : Int) - 1))) := by
  have hb := atE (b := B) (k := k) hk
  have t1 : Int.tdiv (k : Int) 64 = ((k / 64 : Nat) : Int) := by rw [Int.tdiv_eq_ediv_of_nonneg (by omega)]; omega
  have hi : inR ((k : Int) - 1) = true := bE (by omega)
  refine (OT.ap (decide_eq_true (by dsimp only [Bg]; omega))).trans ((al ?_).trans ?_)
  · simp only [Bg, t1, Int.toNat_natCast, Nat.add_zero, cV, List.all_cons, List.all_nil, Bool.and_true, Bool.true_and, Bool.and_eq_true]
    exact ⟨hs, bE (by omega), bD (by omega), decide_eq_true (by omega)⟩
  · rcases (Bool.eq_false_or_eq_true (Bq B.nat k)).symm with h | h
    · have e : cn (pS s) B.nat (kt P) (255 - k) O = dV (pS s) O O := by unfold cn; rw [show 255 - (255 - k) = k by omega, h]; rfl
      rw [e]
      rw [h] at hb
      refine (OT.aw hb).trans ((al ?_).trans rfl)
      simp only [List.all_cons, List.all_nil, Bool.and_true]
      exact hi
    · have e : cn (pS s) B.nat (kt P) (255 - k) O = dV (pS s) (dV (pS s) O O) (kt P) := by unfold cn; rw [show 255 - (255 - k) = k by omega, h]; rfl
      rw [e]
      rw [h] at hb
      refine (OT.ap hb).trans ((al ?_).trans rfl)
      simp only [List.all_cons, List.all_nil, Bool.and_true, Bool.and_eq_true]
      exact ⟨hs, hi⟩
theorem WI {s : Int} (hs : ak s = true) (B : aa) (P Q : C9) : ∀ (n : Nat) (O : Pt), n ≤ 256 → O = upto (cn (pS s) B.nat (kt P)) aD (256 - n) →
    ∃ m, aq qy m (Bg s B P Q (bf O) ((n : Int) - 1)) = some ⟨(.exit 2, qx), (((), (), ()), (Q, bf (Co (pS s) B.nat (kt P)), ()))⟩
  | 0, O, _, hO => by
    have e : Co (pS s) B.nat (kt P) = O := hO.symm
    rw [e]
    exact ⟨1, aL (OT.aw (decide_eq_false (by dsimp only [Bg]; omega)))⟩
  | n + 1, O, hn, hO => by
    obtain ⟨m, hm⟩ := WI hs B P Q n (cn (pS s) B.nat (kt P) (255 - n) O) (by omega) (by
      rw [show 256 - n = (255 - n) + 1 by omega, hO, show 256 - (n + 1) = 255 - n by omega]
      rfl)
    rw [show ((n + 1 : Nat) : Int) - 1 = (n : Int) by omega]
    exact ⟨m + 1, aM (apt hs B P Q O (by omega)) hm⟩
def CA (s : cI) : Bool := ak s.1.1 && decide (s.1.2.2.2.2.2.1 = Zo (elemOf s.2.1).nat 256 ∧ s.2.1.length = 4 ∧ kt s.2.2.2.2.1 = aD)
def WZ (s : cI) : jO := (((), (), ()), (s.2.2.2.1, bf (Co (pS s.1.1) (elemOf s.2.1).nat (kt s.2.2.1)), ()))
theorem akZ : ∀ s : cI, CA s = true → ∃ m e, aq qy m s = some e ∧ (BB WZ s).run = some e := by
  rintro ⟨⟨s, ⟨⟩, ⟨⟩, ⟨⟩, ⟨⟩, i, ⟨⟩⟩, ⟨l, P, Q, O, ⟨⟩⟩⟩ h
  simp only [CA, Bool.and_eq_true, decide_eq_true_eq] at h
  obtain ⟨hs, rfl, hl, hO⟩ := h
  have hO2 : O = bf aD := by rw [← hO]; rfl
  subst hO2
  obtain ⟨B, rfl⟩ : ∃ a, l = lst a := ⟨elemOf l, (bl hl).symm⟩
  obtain ⟨t, e1, e2, e3⟩ := Cb B.nat 256 (Nat.div_eq_of_lt (gD B))
  obtain ⟨m, hm⟩ := WI hs B P Q t aD e2 (WO e2 e3 _ (Nat.le_refl _)).symm
  rw [← e1] at hm
  exact ⟨m, _, hm, rfl⟩
def o0 (c : Int) (k : aa) (P : Pt) : Pt := cond (onB c P) (Co (pS c) (ofP (pS (yJ c 1)) k).nat P) aD
def MQ (_ : GX) : Bool := true
def aeI (x : GX) : OT iP.Y := .ok ⟨uQ, ((o0 x.1.1 x.1.2.1 x.1.2.2.1, ()), ())⟩
theorem akY : ac Tryz.prog 164 (iP.aH MQ aeI) := ZE MR W0 CA WZ ak0 akZ _ _ fun x oy _ ho => by
  rw [← ho]
  clear ho
  obtain ⟨⟨c, k, P, ⟨⟩⟩, ⟨⟩⟩ := x
  show _ = (OT.ok ⟨uQ, ((o0 c k P, ()), ())⟩ : OT iP.Y).run
  rcases (Bool.eq_false_or_eq_true (onB c P)).symm with h1 | h1
  · have e : o0 c k P = aD := by unfold o0; rw [h1]; rfl
    rw [e]
    exact OT.ap (b := !onB c P) (by rw [h1]; rfl)
  · have hs := qV h1
    have e : o0 c k P = Co (pS c) (ofP (pS (yJ c 1)) k).nat P := by unfold o0; rw [h1]; rfl
    rw [e]
    refine (OT.aw (b := !onB c P) (by rw [h1]; rfl)).trans ((al ?_).trans rfl)
    simp only [List.all_cons, List.all_nil, Bool.and_true, Bool.and_eq_true]
    refine ⟨js hs, decide_eq_true (p := (255 : Int) = 255 ∧ (lst (ofP (pS (yJ c 1)) k)).length = 4) ⟨rfl, rfl⟩, ?_⟩
    refine (Bool.and_eq_true _ _).mpr ⟨hs, ?_⟩
    exact decide_eq_true (p := Zo (ofP (pS (yJ c 1)) k).nat 256 = Zo (ofP (pS (yJ c 1)) k).nat 256 ∧ (lst (ofP (pS (yJ c 1)) k)).length = 4 ∧ aD = aD) ⟨rfl, rfl, rfl⟩
def xA : cG := (iP.aH MQ aeI)
theorem Q1 : ac Tryz.prog 164 xA := akY
theorem Q0 : aK xA := aB
def tK : Env := aA 164 xA tN
theorem mA : aV Tryz.prog tK := ai Q1 mB
theorem AA : ax tK := ae Q0 AC
theorem tJ : aZ Tryz.prog te tK := aN follows au mA AA
def fB : av := ⟨[.val false .int, .val true .elem], [], true, 0, false⟩
abbrev xH : Type := ((Int) × (aa) × Unit) × (Unit)
def oC : Shape := ⟨114, [(0, .val false .int), (4, .ptr 0 0 0), (10, .ptr 1 0 0), (14, .ptr 2 0 0), (15, .ptr 3 0 0), (16, .ptr 4 0 0), (17, .val false .int)], [(0, .row .u64), (1, .row .u64), (2, .row .u64), (3, .row .u64), (4, .row .u64)], 0, true⟩
abbrev ca : Type := ((Int) × (Unit) × (Unit) × (Unit) × (Unit) × (Unit) × (Int) × Unit) × ((List (UInt64)) × (List (UInt64)) × (List (UInt64)) × (List (UInt64)) × (List (UInt64)) × Unit)
def oB : Shape := ⟨114, [(0, .val false .int), (4, .ptr 0 0 0), (10, .ptr 1 0 0), (14, .ptr 2 0 0), (15, .ptr 3 0 0), (16, .ptr 4 0 0), (17, .val false .int), (18, .ptr 5 0 0), (19, .val false .int)], [(0, .row .u64), (1, .row .u64), (2, .row .u64), (3, .row .u64), (4, .row .u64), (5, .row .u64)], 0, true⟩
abbrev bu : Type := ((Int) × (Unit) × (Unit) × (Unit) × (Unit) × (Unit) × (Int) × (Unit) × (Int) × Unit) × ((List (UInt64)) × (List (UInt64)) × (List (UInt64)) × (List (UInt64)) × (List (UInt64)) × (List (UInt64)) × Unit)
def mT : Shape := ⟨114, [(0, .val false .int), (4, .ptr 0 0 0), (10, .ptr 1 0 0), (14, .ptr 2 0 0), (15, .ptr 3 0 0), (16, .ptr 4 0 0), (17, .val false .int), (18, .ptr 5 0 0)], [(0, .row .u64), (1, .row .u64), (2, .row .u64), (3, .row .u64), (4, .row .u64), (5, .row .u64)], 0, true⟩
abbrev dT : Type := ((Int) × (Unit) × (Unit) × (Unit) × (Unit) × (Unit) × (Int) × (Unit) × Unit) × ((List (UInt64)) × (List (UInt64)) × (List (UInt64)) × (List (UInt64)) × (List (UInt64)) × (List (UInt64)) × Unit)
def MZ : SE → Option Shape := jr [(2, mT)] none
def aeW (a0 : Int) (a17 : Int) (a19 : Int) (c0 : List (UInt64)) (c1 : List (UInt64)) (c2 : List (UInt64)) (c3 : List (UInt64)) (c4 : List (UInt64)) (c5 : List (UInt64)) : OT (Sum bu aP) :=
  let z0 : Nat := List.length c5
  let z1 : Bool := decide (4 ≤ z0)
  let z2 : aa := { w0 := List.getD c5 0 0, w1 := List.getD c5 1 0, w2 := List.getD c5 2 0, w3 := List.getD c5 3 0 }
  let z3 : aa := aR (pS a0) z2 z2
  (.br (decide (a19 < a17))
  (gd [z1, z1, cd ((a0, z2, z2, ()), ()), decide ((4 / 1 : Nat) + 0 ≤ z0), inR (a19 + (1 : Int))] (.ok (.inl ((a0, ((), ((), ((), ((), ((), (a17, ((), (a19 + (1 : Int), ()))))))))), (c0, (c1, (c2, (c3, (c4, (List.set (List.set (List.set (List.set c5 0 z3.w0) 1 z3.w1) 2 z3.w2) 3 z3.w3, ()))))))))))
  (.ok (.inr ⟨(.exit 2, mT), ((a0, ((), ((), ((), ((), ((), (a17, ((), ())))))))), (c0, (c1, (c2, (c3, (c4, (c5, ())))))))⟩)))
def oD (s : bu) : OT (Sum bu aP) := aeW (s.1.1) (s.1.2.2.2.2.2.2.1) (s.1.2.2.2.2.2.2.2.2.1) (s.2.1) (s.2.2.1) (s.2.2.2.1) (s.2.2.2.2.1) (s.2.2.2.2.2.1) (s.2.2.2.2.2.2.1)
theorem aeR (s : bu) (Q : Sum bu aP → Prop) : wps te tK ay 1000 (bF (bF (ao Tryz.f94) 0) 2) (oB.inj s) (cQ oB MZ (Q : Sum oB.T aP → Prop)) = (oD s).wpR Q := by kernel_rfl
def uT (g2_2 : bu → dT) (s : bu) : OT aP := (.ok ⟨(.exit 2, mT), g2_2 s⟩)
def mU : Shape := ⟨114, [(0, .val false .int), (4, .ptr 0 0 0), (14, .ptr 1 0 0)], [(0, .row .u64), (1, .row .u64)], 0, true⟩
abbrev iD : Type := ((Int) × (Unit) × (Unit) × Unit) × ((List (UInt64)) × (List (UInt64)) × Unit)
def M0 : SE → Option Shape := jr [(0, mU)] none
def CD (ok2 : bu → Bool) (g2_2 : bu → dT) (a0 : Int) (a17 : Int) (c0 : List (UInt64)) (c1 : List (UInt64)) (c2 : List (UInt64)) (c3 : List (UInt64)) (c4 : List (UInt64)) : OT (Sum ca aP) :=
  let z0 : (Int × PUnit × PUnit × PUnit × PUnit × PUnit × Int × PUnit × Int × PUnit) × List UInt64 × List UInt64 × List UInt64 × List UInt64 × List UInt64 × List UInt64 × PUnit := ((a0, (), (), (), (), (), a17, (), (1 : Int), ()), c0, c1, c2, c3, c4, [List.getD c3 0 0, List.getD c3 1 0, List.getD c3 2 0, List.getD c3 3 0], ())
  let z1 : (Int × PUnit × PUnit × PUnit × PUnit × PUnit × Int × PUnit × PUnit) × List UInt64 × List UInt64 × List UInt64 × List UInt64 × List UInt64 × List UInt64 × PUnit := g2_2 z0
  let z2 := z1.snd
  let z3 := z2.snd
  let z4 := z3.snd
  let z5 := z4.snd
  let z6 := z5.snd
  let z7 := z6.snd.fst
  let z8 := z3.fst
  let z9 := z4.fst
  let z10 : Nat := List.length z9
  let z11 := z6.fst
  let z12 : Nat := List.length z11
  let z13 : Bool := decide (4 ≤ z12)
  let z14 := z1.fst
  let z15 := z14.fst
  let z16 : aa := { w0 := List.getD z9 0 0, w1 := List.getD z9 1 0, w2 := List.getD z9 2 0, w3 := List.getD z9 3 0 }
  let z17 : aa := { w0 := List.getD z11 0 0, w1 := List.getD z11 1 0, w2 := List.getD z11 2 0, w3 := List.getD z11 3 0 }
  let z18 : aa × PUnit := (z17, ())
  let z19 := z5.fst
  let z20 : Nat := List.length z19
  let z21 : Bool := cd ((z15, z17, z18), ())
  let z22 : aa := { w0 := List.getD z19 0 0, w1 := List.getD z19 1 0, w2 := List.getD z19 2 0, w3 := List.getD z19 3 0 }
  let z23 : Nat := pS z15
  let z24 : aa := aR z23 z17 z17
  let z25 : Bool := decide ((4 / 1 : Nat) + 0 ≤ z12)
  let z26 : Bool := inR (z14.snd.snd.snd.snd.snd.snd.fst - (1 : Int))
  let z27 := z2.fst
  let z28 : aa := aR z23 z16 z17
  let z29 : aa := aR z23 z22 z24
  let z30 : List UInt64 := List.set (List.set (List.set (List.set z11 0 z24.w0) 1 z24.w1) 2 z24.w2) 3 z24.w3
  (.br (decide ((1 : Int) ≤ a17))
  (gd [decide (4 ≤ List.length c3), ok2 z0, decide (4 ≤ List.length z7), decide (4 ≤ List.length z8)] (.br (!(List.getD z7 0 0 == List.getD z8 0 0 && (List.getD z7 1 0 == List.getD z8 1 0 && (List.getD z7 2 0 == List.getD z8 2 0 && (List.getD z7 3 0 == List.getD z8 3 0 && true)))))
    (gd [decide (4 ≤ z10), z13, cd ((z15, z16, z18), ()), decide ((4 / 1 : Nat) + 0 ≤ z10), decide (4 ≤ z20), z13, z13, z21, cd ((z15, z22, z24, ()), ()), decide ((4 / 1 : Nat) + 0 ≤ z20), z13, z13, z21, z25, z26] (.ok (.inl ((z15, ((), ((), ((), ((), ((), (z14.snd.snd.snd.snd.snd.snd.fst - (1 : Int), ()))))))), (z27, (z8, (List.set (List.set (List.set (List.set z9 0 z28.w0) 1 z28.w1) 2 z28.w2) 3 z28.w3, (List.set (List.set (List.set (List.set z19 0 z29.w0) 1 z29.w1) 2 z29.w2) 3 z29.w3, (z30, ())))))))))
    (gd [z13, z13, z21, z25, z26] (.ok (.inl ((z15, ((), ((), ((), ((), ((), (z14.snd.snd.snd.snd.snd.snd.fst - (1 : Int), ()))))))), (z27, (z8, (z9, (z19, (z30, ())))))))))))
  (.ok (.inr ⟨(.exit 0, mU), ((a0, ((), ((), ()))), (c0, (c2, ())))⟩)))
def lG (ok2 : bu → Bool) (g2_2 : bu → dT) (s : ca) : OT (Sum ca aP) := CD ok2 g2_2 (s.1.1) (s.1.2.2.2.2.2.2.1) (s.2.1) (s.2.2.1) (s.2.2.2.1) (s.2.2.2.2.1) (s.2.2.2.2.2.1)
theorem aeS (ok2 : bu → Bool) (g2_2 : bu → dT) (s : ca) (Q : Sum ca aP → Prop) : wps te tK (bg 2 (di oB 2 ok2 (uT g2_2)) ay) 1000 (bF (ao Tryz.f94) 0) (oC.inj s) (cQ oC M0 (Q : Sum oC.T aP → Prop)) = (lG ok2 g2_2 s).wpR Q := by kernel_rfl
def uU (g0_0 : ca → iD) (s : ca) : OT aP := (.ok ⟨(.exit 0, mU), g0_0 s⟩)
def eS : az := ⟨[.val true .elem, .val false .int], [], false⟩
def G2 : SV → Option az := fun _ => some eS
def JA (ok2 : bu → Bool) (g2_2 : bu → dT) (ok0 : ca → Bool) (g0_0 : ca → iD) (a0 : Int) (a1 : aa) : OT fB.Y :=
  let z0 : Int × PUnit := (a0, ())
  let z1 : Nat := pS a0
  let z2 : aa := ofP z1 a1
  let z3 : aa := { w0 := 0, w1 := 0, w2 := 0, w3 := 0 }
  let z4 : aa × Int × UInt64 × UInt64 × aa := bT (Int.toNat a0)
  let z5 : aa := { w0 := 1, w1 := 0, w2 := 0, w3 := 0 }
  let z6 : aa := (lk z4.fst z5).fst
  let z7 : aa := fp z6
  let z8 : aa := wZ z1 z2 z7
  let z9 := z4.snd.fst
  let z10 : aa := eZ z6 (Int.toNat z9)
  let z11 : aa := fp (ui z10 z5).fst
  let z12 : aa × PUnit := (z10, ())
  let z13 : aa := { w0 := 5, w1 := 0, w2 := 0, w3 := 0 }
  let z14 : aa := wZ z1 z2 z11
  let z15 : aa := wZ z1 z2 z10
  let z16 : aa := wZ z1 z13 z10
  let z17 : (Int × PUnit × PUnit × PUnit × PUnit × PUnit × Int × PUnit) × List UInt64 × List UInt64 × List UInt64 × List UInt64 × List UInt64 × PUnit := ((a0, (), (), (), (), (), z9 - (1 : Int), ()), [(0 : UInt64), (0 : UInt64), (0 : UInt64), (0 : UInt64)], [(1 : UInt64), (0 : UInt64), (0 : UInt64), (0 : UInt64)], [z14.w0, z14.w1, z14.w2, z14.w3], [z15.w0, z15.w1, z15.w2, z15.w3], [z16.w0, z16.w1, z16.w2, z16.w3], ())
  let z18 : (Int × PUnit × PUnit × PUnit) × List UInt64 × List UInt64 × PUnit := g0_0 z17
  let z19 := z18.snd
  let z20 := z19.snd.fst
  let z21 : Nat := List.length z20
  let z22 : UInt64 := List.getD z20 0 0
  let z23 : Bool := decide (4 ≤ z21)
  let z24 := z18.fst.fst
  let z25 : aa := { w0 := z22, w1 := List.getD z20 1 0, w2 := List.getD z20 2 0, w3 := List.getD z20 3 0 }
  let z26 : aa := Gm (pS z24) z25
  let z27 : List UInt64 := List.set (List.set (List.set (List.set z20 0 z26.w0) 1 z26.w1) 2 z26.w2) 3 z26.w3
  let z28 := z19.fst
  let z29 : Nat := List.length z28
  let z30 : List UInt64 := lay z28 z27 4 (0 : UInt64)
  let z31 : List UInt64 := lay z28 z20 4 (0 : UInt64)
  (gd [xM (z0, ()), iF ((a0, a1, ()), ())] (.br (z2.w0 == (0 : UInt64) && (z2.w1 == (0 : UInt64) && (z2.w2 == (0 : UInt64) && (z2.w3 == (0 : UInt64) && true))))
  (.ok ⟨eS, ((z3, ((0 : Int), ())), ())⟩)
  (gd [jY ((a0, z2, z7, ()), ())] (.br (!(z8.w0 == (1 : UInt64) && (z8.w1 == (0 : UInt64) && (z8.w2 == (0 : UInt64) && (z8.w3 == (0 : UInt64) && true)))))
    (.ok ⟨eS, ((z3, ((22 : Int), ())), ())⟩)
    (gd [xX (z0, ()), oI ((z6, z9, ()), ()), jY ((a0, z2, z11, ()), ()), jY ((a0, z2, z12), ()), jY ((a0, z13, z12), ()), inR (z9 - (1 : Int)), ok0 z17, decide (0 < z21)] (.br (z22 % (2 : UInt64) == (1 : UInt64))
      (gd [z23, oG ((z24, z25, ()), ()), decide ((4 / 1 : Nat) + 0 ≤ z21), decide (4 ≤ List.length z27), decide ((4 / 1 : Nat) + 0 ≤ z29), decide (4 ≤ List.length z30)] (.ok ⟨eS, (({ w0 := List.getD z30 0 0, w1 := List.getD z30 1 0, w2 := List.getD z30 2 0, w3 := List.getD z30 3 0 }, ((0 : Int), ())), ())⟩))
      (gd [z23, decide ((4 / 1 : Nat) + 0 ≤ z29), decide (4 ≤ List.length z31)] (.ok ⟨eS, (({ w0 := List.getD z31 0 0, w1 := List.getD z31 1 0, w2 := List.getD z31 2 0, w3 := List.getD z31 3 0 }, ((0 : Int), ())), ())⟩))))))))
theorem ak8 (ok2 : bu → Bool) (g2_2 : bu → dT) (ok0 : ca → Bool) (g0_0 : ca → iD) (x : xH) (Q : fB.Y → Prop) : wpf te tK (bg 0 (di oC 0 ok0 (uU g0_0)) ay) 1000 Tryz.f94 (fB.inp.inj x).tm (fB.inp.inj x).hp (fnK fB G2 Q) (fun _ _ => False) = (JA ok2 g2_2 ok0 g0_0 (x.1.1) (x.1.2.1)).wpR Q := by kernel_rfl
theorem Re (ok2 : bu → Bool) (g2_2 : bu → dT) (ok0 : ca → Bool) (g0_0 : ca → iD) (h2 : ∀ s : bu, ok2 s = true → ∃ m e, aq (oD) m s = some e ∧ (uT g2_2 s).run = some e) (h0 : ∀ s : ca, ok0 s = true → ∃ m e, aq (lG ok2 g2_2) m s = some e ∧ (uU g0_0 s).run = some e) (pre : xH → Bool) (F : xH → OT fB.Y) (hF : ∀ (x : xH) oy, pre x = true → (F x).run = some oy → (JA ok2 g2_2 ok0 g0_0 (x.1.1) (x.1.2.1)).run = some oy) : ac Tryz.prog 94 (fB.aH pre F) :=
  aC au mA tJ (f := 94) (fn := Tryz.f94) (c := ao Tryz.f94) (by kernel_rfl) (by kernel_rfl) (by kernel_rfl) (S := fB) (k := 0) (by kernel_rfl) (fun R hR => (aF (c := (ao Tryz.f94)) (by kernel_rfl) (id := 0) (by kernel_rfl) (bt au mA tJ (sh := oC) hR (xs := M0) (aG (by kernel_rfl) (by kernel_rfl) hR) aW (aF (c := (bF (ao Tryz.f94) 0)) (by kernel_rfl) (id := 2) (by kernel_rfl) (bt au mA tJ (sh := oB) hR (xs := MZ) (aG (by kernel_rfl) (by kernel_rfl) hR) aW af (n := 1000) (T := oD) (fun s Q => aeR s Q) (ok := ok2) (f := uT g2_2) h2) af) (n := 1000) (T := lG ok2 g2_2) (fun s Q => aeS ok2 g2_2 s Q) (ok := ok0) (f := uU g0_0) h0) af)) (n := 1000) (sel := G2) (fun v o h => by cases h; rfl) (pre := pre) (F := F) (T := fun x => JA ok2 g2_2 ok0 g0_0 (x.1.1) (x.1.2.1)) (fun x Q => ak8 ok2 g2_2 ok0 g0_0 x Q) hF
def tb : aa := ⟨1, 0, 0, 0⟩
def sqN (p : Nat) (b : aa) (n : Nat) : aa := upto (fun _ e => aR p e e) b n
def fQ (s : bu) : Bool := ak s.1.1 && decide (s.1.2.2.2.2.2.2.2.2.1 = 1 ∧ s.1.2.2.2.2.2.2.1 ≤ 1000 ∧ s.2.2.2.2.2.2.1.length = 4)
def jS (s : bu) : dT := ((s.1.1, (), (), (), (), (), s.1.2.2.2.2.2.2.1, (), ()), (s.2.1, s.2.2.1, s.2.2.2.1, s.2.2.2.2.1, s.2.2.2.2.2.1, lst (sqN (pS s.1.1) (elemOf s.2.2.2.2.2.2.1) (s.1.2.2.2.2.2.2.1 - 1).toNat), ()))
theorem aeU : ∀ s : bu, fQ s = true → ∃ m e, aq oD m s = some e ∧ (uT jS s).run = some e := by
  rintro ⟨⟨s, ⟨⟩, ⟨⟩, ⟨⟩, ⟨⟩, ⟨⟩, i, ⟨⟩, j, ⟨⟩⟩, ⟨c0, c1, c2, c3, c4, c5, ⟨⟩⟩⟩ h
  simp only [fQ, Bool.and_eq_true, decide_eq_true_eq] at h
  obtain ⟨hs, rfl, hi, hl⟩ := h
  obtain ⟨t, rfl⟩ : ∃ a, c5 = lst a := ⟨elemOf c5, (bl hl).symm⟩
  have := (bP (T := oD) (fun k t => (((s, (), (), (), (), (), i, (), 1 + (k : Int), ()), (c0, c1, c2, c3, c4, lst t, ())) : bu)) (fun _ e => aR (pS s) e e)
    (fun t => (⟨(.exit 2, mT), ((s, (), (), (), (), (), i, (), ()), (c0, c1, c2, c3, c4, lst t, ()))⟩ : aP)) (i - 1).toNat t (fun _ _ => True) trivial (fun k t hk _ => ⟨?_, trivial⟩) (fun t _ => ?_)).1
  · obtain ⟨m, hm⟩ := this
    exact ⟨m, _, hm, rfl⟩
  · have e2 : (1 : Int) + (k : Int) + 1 = 1 + ((k + 1 : Nat) : Int) := by omega
    rw [← e2]
    refine (OT.ap (decide_eq_true (by dsimp only; omega))).trans ((al ?_).trans rfl)
    simp only [List.all_cons, List.all_nil, Bool.and_true, Bool.and_eq_true]
    exact ⟨rfl, rfl, hs, rfl, bE (by omega)⟩
  · exact OT.aw (decide_eq_false (by dsimp only; omega))
abbrev Ton : Type := aa × aa × aa
def I9 (p m : Nat) (k : Nat) (w : Ton) : Ton := cond (eqE (sqN p w.2.1 (m - k - 1)) tb) (w.1, w.2.1, aR p w.2.2 w.2.2) (aR p w.1 w.2.2, aR p w.2.1 (aR p w.2.2 w.2.2), aR p w.2.2 w.2.2)
def Md (s : Int) (c0 : List UInt64) (i : Int) (w : Ton) : ca := ((s, (), (), (), (), (), i, ()), (c0, lst tb, lst w.1, lst w.2.1, lst w.2.2, ()))
theorem aiI {s : Int} (hs : ak s = true) (c0 : List UInt64) {m k : Nat} (hm : m ≤ 1000) (hk : k < m) (w : Ton) :
    (lG fQ jS (Md s c0 ((m : Int) - (k : Int)) w)).run = some (.inl (Md s c0 ((m : Int) - ((k + 1 : Nat) : Int)) (I9 (pS s) m k w))) := by
  obtain ⟨x, b, z⟩ := w
  have e2 : (m : Int) - ((k + 1 : Nat) : Int) = (m : Int) - (k : Int) - 1 := by omega
  have hi : inR ((m : Int) - (k : Int) - 1) = true := bE (by omega)
  have hk2 : ((m : Int) - (k : Int) - 1).toNat = m - k - 1 := by omega
  have hg : jS ((s, (), (), (), (), (), (m : Int) - (k : Int), (), 1, ()), (c0, lst tb, lst x, lst b, lst z, lst b, ())) = ((s, (), (), (), (), (), (m : Int) - (k : Int), (), ()), (c0, lst tb, lst x, lst b, lst z, lst (sqN (pS s) b (m - k - 1)), ())) := by
    show ((s, (), (), (), (), (), (m : Int) - (k : Int), (), ()), (c0, lst tb, lst x, lst b, lst z, lst (sqN (pS s) b ((m : Int) - (k : Int) - 1).toNat), ())) = _
    rw [hk2]
  have hok : fQ ((s, (), (), (), (), (), (m : Int) - (k : Int), (), 1, ()), (c0, lst tb, lst x, lst b, lst z, lst b, ())) = true :=
    (Bool.and_eq_true _ _).mpr ⟨hs, decide_eq_true (p := (1 : Int) = 1 ∧ (m : Int) - (k : Int) ≤ 1000 ∧ (lst b).length = 4) ⟨rfl, by omega, rfl⟩⟩
  have hb : [List.getD (lst b) 0 0, List.getD (lst b) 1 0, List.getD (lst b) 2 0, List.getD (lst b) 3 0] = lst b := rfl
  have hpre : ∀ x y, cd ((s, x, y, ()), ()) = true := fun _ _ => hs
  show (CD fQ jS s ((m : Int) - (k : Int)) c0 (lst tb) (lst x) (lst b) (lst z)).run = _
  unfold CD
  simp only [hb, hg, hok]
  refine (OT.ap (decide_eq_true (by omega))).trans ((al rfl).trans ?_)
  unfold I9
  dsimp only
  rw [e2]
  generalize sqN (pS s) b (m - k - 1) = t
  rcases (Bool.eq_false_or_eq_true (eqE t tb)).symm with h | h
  · refine (OT.ap (b := !eqE t tb) (by rw [h]; rfl)).trans ((al ?_).trans ?_)
    · simp only [ars, arA, cV, hpre, hi, List.all_cons, List.all_nil, Bool.and_true, Bool.and_eq_true]
      exact ⟨rfl, rfl, trivial, rfl, rfl, rfl, rfl, trivial, trivial, rfl, rfl, rfl, trivial, rfl⟩
    · rw [h]
      simp only [ars, arA]
      rfl
  · refine (OT.aw (b := !eqE t tb) (by rw [h]; rfl)).trans ((al ?_).trans ?_)
    · simp only [ars, arA, cV, hpre, hi, List.all_cons, List.all_nil, Bool.and_true, Bool.and_eq_true]
      exact ⟨rfl, rfl, trivial, rfl⟩
    · rw [h]
      simp only [ars, arA]
      rfl
def atv (p m : Nat) (w : Ton) : Ton := upto (I9 p m) w m
def xG (s : ca) : Bool := ak s.1.1 && decide (0 ≤ s.1.2.2.2.2.2.2.1 ∧ s.1.2.2.2.2.2.2.1 ≤ 1000 ∧ s.2.2.1 = [1, 0, 0, 0] ∧ s.2.2.2.1.length = 4 ∧ s.2.2.2.2.1.length = 4 ∧ s.2.2.2.2.2.1.length = 4)
def CC (s : ca) : iD := ((s.1.1, (), (), ()), (s.2.1, lst (atv (pS s.1.1) s.1.2.2.2.2.2.2.1.toNat (elemOf s.2.2.2.1, elemOf s.2.2.2.2.1, elemOf s.2.2.2.2.2.1)).1, ()))
theorem aeV : ∀ s : ca, xG s = true → ∃ m e, aq (lG fQ jS) m s = some e ∧ (uU CC s).run = some e := by
  rintro ⟨⟨s, ⟨⟩, ⟨⟩, ⟨⟩, ⟨⟩, ⟨⟩, i, ⟨⟩⟩, ⟨c0, c1, c2, c3, c4, ⟨⟩⟩⟩ h
  simp only [xG, Bool.and_eq_true, decide_eq_true_eq] at h
  obtain ⟨hs, h0, h1, rfl, h2, h3, h4⟩ := h
  obtain ⟨x, rfl⟩ : ∃ a, c2 = lst a := ⟨elemOf c2, (bl h2).symm⟩
  obtain ⟨b, rfl⟩ : ∃ a, c3 = lst a := ⟨elemOf c3, (bl h3).symm⟩
  obtain ⟨z, rfl⟩ : ∃ a, c4 = lst a := ⟨elemOf c4, (bl h4).symm⟩
  obtain ⟨m, rfl⟩ : ∃ m : Nat, i = (m : Int) := ⟨i.toNat, by omega⟩
  have := (bP (T := lG fQ jS) (fun k w => Md s c0 ((m : Int) - (k : Int)) w) (I9 (pS s) m)
    (fun w => (⟨(.exit 0, mU), ((s, (), (), ()), (c0, lst w.1, ()))⟩ : aP)) m (x, b, z) (fun _ _ => True) trivial (fun k w hk _ => ⟨aiI hs c0 (by omega) hk w, trivial⟩) (fun w _ => ?_)).1
  · obtain ⟨n, hn⟩ := this
    refine ⟨n, _, ?_, rfl⟩
    have e : Md s c0 ((m : Int) - ((0 : Nat) : Int)) (x, b, z) = ((s, (), (), (), (), (), (m : Int), ()), (c0, [1, 0, 0, 0], lst x, lst b, lst z, ())) := by
      rw [show (m : Int) - ((0 : Nat) : Int) = (m : Int) by omega]
      rfl
    rw [e] at hn
    exact hn
  · exact OT.aw (decide_eq_false (by dsimp only [Md]; omega))
def Zu (s : Int) (a : aa) : aa := (atv (pS s) ((bT s.toNat).2.1 - 1).toNat
  (wZ (pS s) a (fp (ui (eZ (lk (bT s.toNat).1 tb).1 (bT s.toNat).2.1.toNat) tb).1), wZ (pS s) a (eZ (lk (bT s.toNat).1 tb).1 (bT s.toNat).2.1.toNat), wZ (pS s) ⟨5, 0, 0, 0⟩ (eZ (lk (bT s.toNat).1 tb).1 (bT s.toNat).2.1.toNat))).1
def O4 (p : Nat) (x : aa) : aa := cond (x.w0 % 2 == 1) (Gm p x) x
def xF (x : xH) : Bool := ak x.1.1
def W2 (x : xH) : OT fB.Y := .br (cp (ofP (pS x.1.1) x.1.2.1)) (.ok ⟨eS, ((⟨0, 0, 0, 0⟩, ((0 : Int), ())), ())⟩)
  (.br (eqE (wZ (pS x.1.1) (ofP (pS x.1.1) x.1.2.1) (fp (lk (bT x.1.1.toNat).1 tb).1)) tb) (.ok ⟨eS, ((O4 (pS x.1.1) (Zu x.1.1 (ofP (pS x.1.1) x.1.2.1)), ((0 : Int), ())), ())⟩) (.ok ⟨eS, ((⟨0, 0, 0, 0⟩, ((22 : Int), ())), ())⟩))
theorem ato {s : Int} (hs : ak s = true) : 1 ≤ (bT s.toNat).2.1 ∧ (bT s.toNat).2.1 ≤ 32 := by
  rcases cr hs with rfl | rfl | rfl | rfl <;> decide
theorem aeT : ac Tryz.prog 94 (fB.aH xF W2) := Re fQ jS xG CC aeU aeV _ _ fun x oy hp ho => by
  rw [← ho]
  clear ho
  obtain ⟨⟨s, a, ⟨⟩⟩, ⟨⟩⟩ := x
  have hs : ak s = true := hp
  have had := ato hs
  show _ = (OT.br (cp (ofP (pS s) a)) (.ok ⟨eS, ((⟨0, 0, 0, 0⟩, ((0 : Int), ())), ())⟩) (.br (eqE (wZ (pS s) (ofP (pS s) a) (fp (lk (bT s.toNat).1 tb).1)) tb) (.ok ⟨eS, ((O4 (pS s) (Zu s (ofP (pS s) a)), ((0 : Int), ())), ())⟩) (.ok ⟨eS, ((⟨0, 0, 0, 0⟩, ((22 : Int), ())), ())⟩)) : OT fB.Y).run
  refine (al ?_).trans ?_
  · simp only [List.all_cons, List.all_nil, Bool.and_true, Bool.and_eq_true]
    exact ⟨hs, hs⟩
  generalize hA : ofP (pS s) a = A
  rcases (Bool.eq_false_or_eq_true (cp A)).symm with hz | hz
  · refine Eq.trans ?_ (OT.aw (b := cp A) hz).symm
    refine (OT.aw hz).trans ((al ?_).trans ?_)
    · simp only [List.all_cons, List.all_nil, Bool.and_true]
      exact hs
    · rcases (Bool.eq_false_or_eq_true (eqE (wZ (pS s) A (fp (lk (bT s.toNat).1 tb).1)) tb)).symm with h1 | h1
      · refine Eq.trans ?_ (OT.aw h1).symm
        exact OT.ap (b := !eqE (wZ (pS s) A (fp (lk (bT s.toNat).1 tb).1)) tb) (by rw [h1]; rfl)
      · refine Eq.trans ?_ (OT.ap h1).symm
        refine (OT.aw (b := !eqE (wZ (pS s) A (fp (lk (bT s.toNat).1 tb).1)) tb) (by rw [h1]; rfl)).trans ((al ?_).trans ?_)
        · simp only [List.all_cons, List.all_nil, Bool.and_true, Bool.and_eq_true]
          refine ⟨hs, decide_eq_true ⟨(by show 0 ≤ (bT s.toNat).2.1; omega), (by show (bT s.toNat).2.1 ≤ 1000000; omega)⟩, hs, hs, hs, bE (by omega), (Bool.and_eq_true _ _).mpr ⟨hs, ?_⟩, rfl⟩
          exact decide_eq_true ⟨(by show 0 ≤ (bT s.toNat).2.1 - 1; omega), (by show (bT s.toNat).2.1 - 1 ≤ 1000; omega), rfl, rfl, rfl, rfl⟩
        · have hg : ∀ w x b z : aa, (CC ((s, (), (), (), (), (), (bT s.toNat).2.1 - 1, ()), ([0, 0, 0, 0], [1, 0, 0, 0], [x.w0, x.w1, x.w2, x.w3], [b.w0, b.w1, b.w2, b.w3], [z.w0, z.w1, z.w2, z.w3], ()))) = ((s, (), (), ()), ([0, 0, 0, 0], lst (atv (pS s) ((bT s.toNat).2.1 - 1).toNat (x, b, z)).1, ())) := fun _ _ _ _ => rfl
          simp only [hg tb]
          have hR : (atv (pS s) ((bT s.toNat).2.1 - 1).toNat (wZ (pS s) A (fp (ui (eZ (lk (bT s.toNat).1 ⟨1, 0, 0, 0⟩).1 (bT s.toNat).2.1.toNat) ⟨1, 0, 0, 0⟩).1), wZ (pS s) A (eZ (lk (bT s.toNat).1 ⟨1, 0, 0, 0⟩).1 (bT s.toNat).2.1.toNat), wZ (pS s) ⟨5, 0, 0, 0⟩ (eZ (lk (bT s.toNat).1 ⟨1, 0, 0, 0⟩).1 (bT s.toNat).2.1.toNat))).1 = Zu s A := rfl
          simp only [hR]
          generalize Zu s A = R
          rcases (Bool.eq_false_or_eq_true (R.w0 % 2 == 1)).symm with h2 | h2
          · have e : O4 (pS s) R = R := by unfold O4; rw [h2]; rfl
            rw [e]
            exact (OT.aw h2).trans ((al rfl).trans rfl)
          · have e : O4 (pS s) R = Gm (pS s) R := by unfold O4; rw [h2]; rfl
            rw [e]
            refine (OT.ap h2).trans ((al ?_).trans rfl)
            simp only [List.all_cons, List.all_nil, Bool.and_true, Bool.and_eq_true]
            exact ⟨rfl, hs, rfl, rfl, rfl, rfl⟩
  · exact (OT.ap hz).trans (OT.ap (b := cp A) hz).symm
def sM : cG := (fB.aH xF W2)
theorem M4 : ac Tryz.prog 94 sM := aeT
theorem M3 : aK sM := aB
def wg : Env := aA 94 sM tK
theorem tO : aV Tryz.prog wg := ai M4 mA
theorem we : ax wg := ae M3 AA
theorem P9 : aZ Tryz.prog te wg := aN follows au tO we
def iU : av := ⟨[.val false .int, .val false .int], [], true, 0, false⟩
abbrev Hc : Type := ((Int) × (Int) × Unit) × (Unit)
def u0 : az := ⟨[.val true .elem], [], false⟩
def Nn : SV → Option az := fun _ => some u0
def RB (a0 : Int) (a1 : Int) : OT iU.Y :=
  let z0 : UInt64 := i2u a1
  let z1 : aa := { w0 := z0, w1 := 0, w2 := 0, w3 := 0 }
  let z2 : Nat := pS a0
  let z3 : aa := { w0 := 0 - z0, w1 := 0, w2 := 0, w3 := 0 }
  (.br (decide ((0 : Int) ≤ a1))
  (gd [iF ((a0, z1, ()), ())] (.ok ⟨u0, ((ofP z2 z1, ()), ())⟩))
  (gd [oG ((a0, z3, ()), ())] (.ok ⟨u0, ((Gm z2 z3, ()), ())⟩)))
theorem apR (x : Hc) (Q : iU.Y → Prop) : wpf te wg ay 1000 Tryz.f108 (iU.inp.inj x).tm (iU.inp.inj x).hp (fnK iU Nn Q) (fun _ _ => False) = (RB (x.1.1) (x.1.2.1)).wpR Q := by kernel_rfl
theorem ZU (pre : Hc → Bool) (F : Hc → OT iU.Y) (hF : ∀ (x : Hc) oy, pre x = true → (F x).run = some oy → (RB (x.1.1) (x.1.2.1)).run = some oy) : ac Tryz.prog 108 (iU.aH pre F) :=
  aC au tO P9 (f := 108) (fn := Tryz.f108) (c := ao Tryz.f108) (by kernel_rfl) (by kernel_rfl) (by kernel_rfl) (S := iU) (k := 0) (by kernel_rfl) (fun R hR => af) (n := 1000) (sel := Nn) (fun v o h => by cases h; rfl) (pre := pre) (F := F) (T := fun x => RB (x.1.1) (x.1.2.1)) (fun x Q => apR x Q) hF
def asG (p : Nat) (n : Int) : aa := cond (decide (0 ≤ n)) (ofP p ⟨i2u n, 0, 0, 0⟩) (Gm p ⟨0 - i2u n, 0, 0, 0⟩)
def CQ (x : Hc) : Bool := ak x.1.1
def afe (x : Hc) : OT iU.Y := .ok ⟨u0, ((asG (pS x.1.1) x.1.2.1, ()), ())⟩
theorem alh : ac Tryz.prog 108 (iU.aH CQ afe) := ZU _ _ fun x oy hp ho => by
  rw [← ho]
  clear ho
  obtain ⟨⟨s, n, ⟨⟩⟩, ⟨⟩⟩ := x
  have hs : ak s = true := hp
  show _ = some (⟨u0, ((asG (pS s) n, ()), ())⟩ : iU.Y)
  unfold asG
  rcases (Bool.eq_false_or_eq_true (decide ((0 : Int) ≤ n))).symm with h | h
  · rw [h]
    refine (OT.aw h).trans ((al ?_).trans rfl)
    simp only [List.all_cons, List.all_nil, Bool.and_true]
    exact hs
  · rw [h]
    refine (OT.ap h).trans ((al ?_).trans rfl)
    simp only [List.all_cons, List.all_nil, Bool.and_true]
    exact hs
def xR : cG := (iU.aH CQ afe)
theorem RA : ac Tryz.prog 108 xR := alh
theorem Rz : aK xR := aB
def zx : Env := aA 108 xR wg
theorem rM : aV Tryz.prog zx := ai RA tO
theorem AL : ax zx := ae Rz we
theorem Fl : aZ Tryz.prog te zx := aN follows au rM AL
def gj : av := ⟨[.val false .int, .val false .int], [], true, 0, false⟩
abbrev xz : Type := ((Int) × (Int) × Unit) × (Unit)
def oA : Shape := ⟨38, [(0, .val false .int), (1, .val false .int), (4, .ptr 0 0 0)], [(0, .cells [.val false .u64, .val false .u64, .val false .u64, .val false .u64, .val false .u64, .val false .u64, .val false .u64, .val false .u64, .val false .bool])], 0, true⟩
abbrev bV : Type := ((Int) × (Int) × (Unit) × Unit) × (((UInt64) × (UInt64) × (UInt64) × (UInt64) × (UInt64) × (UInt64) × (UInt64) × (UInt64) × (Bool) × Unit) × Unit)
def gZ : Shape := ⟨38, [(4, .ptr 0 0 0)], [(0, .cells [.val false .u64, .val false .u64, .val false .u64, .val false .u64, .val false .u64, .val false .u64, .val false .u64, .val false .u64, .val false .bool])], 0, true⟩
abbrev iC : Type := ((Unit) × Unit) × (((UInt64) × (UInt64) × (UInt64) × (UInt64) × (UInt64) × (UInt64) × (UInt64) × (UInt64) × (Bool) × Unit) × Unit)
def ML : SE → Option Shape := jr [] (some gZ)
def aeF (a0 : Int) (a1 : Int) (c0_0 : UInt64) (c0_1 : UInt64) (c0_2 : UInt64) (c0_3 : UInt64) (c0_4 : UInt64) (c0_5 : UInt64) (c0_6 : UInt64) (c0_7 : UInt64) (c0_8 : Bool) : OT (Sum bV aP) :=
  let z0 : Nat := pS a0
  let z1 : aa := asG z0 a1
  let z2 : aa := Bk z0 z1 (bS a0)
  let z3 : aa := ofP z0 z2
  let z4 : Bool := inR (a1 + (1 : Int))
  let z5 : aa := O4 z0 (Zu a0 z3)
  let z6 := z5.w0
  let z7 := z5.w1
  let z8 := z5.w2
  let z9 := z5.w3
  let z10 := z1.w0
  let z11 := z1.w1
  let z12 := z1.w2
  let z13 := z1.w3
  (gd [CQ ((a0, a1, ()), ()), qA ((a0, z1, ()), ()), xF ((a0, z2, ()), ())] (.br (cp z3)
  (gd [z4] (.ok (.inl ((a0, (a1 + (1 : Int), ((), ()))), ((c0_0, (c0_1, (c0_2, (c0_3, (c0_4, (c0_5, (c0_6, (c0_7, (c0_8, ()))))))))), ())))))
  (.br (eqE (wZ z0 z3 (fp (lk (bT (Int.toNat a0)).fst tb).fst)) tb)
    (.br (!(z6 == (0 : UInt64) && (z7 == (0 : UInt64) && (z8 == (0 : UInt64) && (z9 == (0 : UInt64) && true)))))
      (.br (!(z10 == (0 : UInt64) && (z11 == (0 : UInt64) && (z12 == (0 : UInt64) && (z13 == (0 : UInt64) && true)))))
        (.ok (.inr ⟨(.ret, gZ), (((), ()), ((z10, (z11, (z12, (z13, (z6, (z7, (z8, (z9, (false, ()))))))))), ()))⟩))
        (gd [z4] (.ok (.inl ((a0, (a1 + (1 : Int), ((), ()))), ((c0_0, (c0_1, (c0_2, (c0_3, (c0_4, (c0_5, (c0_6, (c0_7, (c0_8, ()))))))))), ()))))))
      (gd [z4] (.ok (.inl ((a0, (a1 + (1 : Int), ((), ()))), ((c0_0, (c0_1, (c0_2, (c0_3, (c0_4, (c0_5, (c0_6, (c0_7, (c0_8, ()))))))))), ()))))))
    (gd [z4] (.ok (.inl ((a0, (a1 + (1 : Int), ((), ()))), ((c0_0, (c0_1, (c0_2, (c0_3, (c0_4, (c0_5, (c0_6, (c0_7, (c0_8, ()))))))))), ()))))))))
def lD (s : bV) : OT (Sum bV aP) := aeF (s.1.1) (s.1.2.1) (s.2.1.1) (s.2.1.2.1) (s.2.1.2.2.1) (s.2.1.2.2.2.1) (s.2.1.2.2.2.2.1) (s.2.1.2.2.2.2.2.1) (s.2.1.2.2.2.2.2.2.1) (s.2.1.2.2.2.2.2.2.2.1) (s.2.1.2.2.2.2.2.2.2.2.1)
theorem aeC (s : bV) (Q : Sum bV aP → Prop) : wps te zx ay 1000 (bF (ao Tryz.f65) 0) (oA.inj s) (cQ oA ML (Q : Sum oA.T aP → Prop)) = (lD s).wpR Q := by kernel_rfl
def uN (g0_r : bV → iC) (s : bV) : OT aP := (.ok ⟨(.ret, gZ), g0_r s⟩)
def Cy : az := ⟨[.val true (.prod .elem (.prod .elem .bool))], [], false⟩
def GV : SV → Option az := fun _ => some Cy
def Jv (ok0 : bV → Bool) (g0_r : bV → iC) (a0 : Int) (a1 : Int) : OT gj.Y :=
  let z0 : (Int × Int × PUnit × PUnit) × (UInt64 × UInt64 × UInt64 × UInt64 × UInt64 × UInt64 × UInt64 × UInt64 × Bool × PUnit) × PUnit := ((a0, a1, (), ()), ((0 : UInt64), (0 : UInt64), (0 : UInt64), (0 : UInt64), (0 : UInt64), (0 : UInt64), (0 : UInt64), (0 : UInt64), false, ()), ())
  let z1 := (g0_r z0).snd.fst
  let z2 := z1.snd
  let z3 := z2.snd
  let z4 := z3.snd
  let z5 := z4.snd
  let z6 := z5.snd
  let z7 := z6.snd
  let z8 := z7.snd
  (gd [ok0 z0] (.ok ⟨Cy, ((({ w0 := z1.fst, w1 := z2.fst, w2 := z3.fst, w3 := z4.fst }, { w0 := z5.fst, w1 := z6.fst, w2 := z7.fst, w3 := z8.fst }, z8.snd.fst), ()), ())⟩))
theorem akV (ok0 : bV → Bool) (g0_r : bV → iC) (x : xz) (Q : gj.Y → Prop) : wpf te zx (bg 0 (di oA 0 ok0 (uN g0_r)) ay) 1000 Tryz.f65 (gj.inp.inj x).tm (gj.inp.inj x).hp (fnK gj GV Q) (fun _ _ => False) = (Jv ok0 g0_r (x.1.1) (x.1.2.1)).wpR Q := by kernel_rfl
theorem QZ (ok0 : bV → Bool) (g0_r : bV → iC) (h0 : ∀ s : bV, ok0 s = true → ∃ m e, aq (lD) m s = some e ∧ (uN g0_r s).run = some e) (pre : xz → Bool) (F : xz → OT gj.Y) (hF : ∀ (x : xz) oy, pre x = true → (F x).run = some oy → (Jv ok0 g0_r (x.1.1) (x.1.2.1)).run = some oy) : ac Tryz.prog 65 (gj.aH pre F) :=
  aC au rM Fl (f := 65) (fn := Tryz.f65) (c := ao Tryz.f65) (by kernel_rfl) (by kernel_rfl) (by kernel_rfl) (S := gj) (k := 0) (by kernel_rfl) (fun R hR => (aF (c := (ao Tryz.f65)) (by kernel_rfl) (id := 0) (by kernel_rfl) (bt au rM Fl (sh := oA) hR (xs := ML) (aG (by kernel_rfl) (by kernel_rfl) hR) aW af (n := 1000) (T := lD) (fun s Q => aeC s Q) (ok := ok0) (f := uN g0_r) h0) af)) (n := 1000) (sel := GV) (fun v o h => by cases h; rfl) (pre := pre) (F := F) (T := fun x => Jv ok0 g0_r (x.1.1) (x.1.2.1)) (fun x Q => akV ok0 g0_r x Q) hF
def Zp (s n : Int) : aa := asG (pS s) n
def QM (s n : Int) : aa := ofP (pS s) (Bk (pS s) (Zp s n) (bS s))
def ad9 (s n : Int) : aa := O4 (pS s) (Zu s (QM s n))
def Jd (s n : Int) : Option Pt := cond (cp (QM s n)) none (cond (eqE (wZ (pS s) (QM s n) (fp (lk (bT s.toNat).1 tb).1)) tb)
  (cond (cp (ad9 s n)) none (cond (cp (Zp s n)) none (some (Zp s n, ad9 s n, false)))) none)
def mP (s : Int) : Nat → Int → Option Pt
  | 0, _ => none
  | k + 1, n => match Jd s n with
    | some P => some P
    | none => mP s k (n + 1)
def QL (s n : Int) (c : C9) : bV := ((s, n, (), ()), (c, ()))
theorem ad8 {s n : Int} (hs : ak s = true) (h0 : 0 ≤ n) (h1 : n ≤ 1000000) (c : C9) :
    (lD (QL s n c)).run = match Jd s n with
      | some P => some (.inr ⟨(.ret, gZ), (((), ()), (bf P, ()))⟩)
      | none => some (.inl (QL s (n + 1) c)) := by
  have hi : inR (n + 1) = true := bE (by omega)
  have hgd : ∀ z : OT (Sum bV aP), (gd [inR (n + 1)] z).run = z.run := fun z => al (by simp only [hi, List.all_cons, List.all_nil, Bool.and_true])
  refine (al (by simp only [List.all_cons, List.all_nil, Bool.and_true, Bool.and_eq_true]; exact ⟨hs, hs, hs⟩)).trans ?_
  unfold Jd
  rcases (Bool.eq_false_or_eq_true (cp (QM s n))).symm with h1 | h1
  · refine (OT.aw (b := cp (QM s n)) h1).trans ?_
    rcases (Bool.eq_false_or_eq_true (eqE (wZ (pS s) (QM s n) (fp (lk (bT s.toNat).1 tb).1)) tb)).symm with h2 | h2
    · rw [h1, h2]
      exact (OT.aw h2).trans (hgd _)
    · refine (OT.ap h2).trans ?_
      rcases (Bool.eq_false_or_eq_true (cp (ad9 s n))).symm with h3 | h3
      · refine (OT.ap (b := !cp (ad9 s n)) (by rw [h3]; rfl)).trans ?_
        rcases (Bool.eq_false_or_eq_true (cp (Zp s n))).symm with h4 | h4
        · rw [h1, h2, h3, h4]
          exact OT.ap (b := !cp (Zp s n)) (by rw [h4]; rfl)
        · rw [h1, h2, h3, h4]
          exact (OT.aw (b := !cp (Zp s n)) (by rw [h4]; rfl)).trans (hgd _)
      · rw [h1, h2, h3]
        exact (OT.aw (b := !cp (ad9 s n)) (by rw [h3]; rfl)).trans (hgd _)
  · rw [h1]
    exact (OT.ap (b := cp (QM s n)) h1).trans (hgd _)
theorem Mi {s : Int} (hs : ak s = true) (c : C9) {P : Pt} : ∀ (k : Nat) (n : Int), 0 ≤ n → n + k ≤ 1000000 → mP s k n = some P →
    ∃ m, aq lD m (QL s n c) = some ⟨(.ret, gZ), (((), ()), (bf P, ()))⟩
  | 0, _, _, _, h => by cases h
  | k + 1, n, h0, h1, h => by
    have hst := ad8 hs h0 (by omega) c
    unfold mP at h
    cases ho : Jd s n with
    | some Q =>
      rw [ho] at h hst
      obtain rfl := Option.some.inj h
      exact ⟨1, aL hst⟩
    | none =>
      rw [ho] at h hst
      obtain ⟨m, hm⟩ := Mi hs c k (n + 1) (by omega) (by omega) h
      exact ⟨m + 1, aM hst hm⟩
def uy : Nat := 2000
def xw (s : bV) : Bool := ak s.1.1 && decide (0 ≤ s.1.2.1 ∧ s.1.2.1 ≤ 2000) && (mP s.1.1 uy s.1.2.1).isSome
def am9 (s n : Int) : Pt := (mP s uy n).getD aD
def MO (s : bV) : iC := (((), ()), (bf (am9 s.1.1 s.1.2.1), ()))
theorem aeE : ∀ s : bV, xw s = true → ∃ m e, aq lD m s = some e ∧ (uN MO s).run = some e := by
  rintro ⟨⟨s, n, ⟨⟩, ⟨⟩⟩, ⟨c, ⟨⟩⟩⟩ h
  simp only [xw, Bool.and_eq_true, decide_eq_true_eq] at h
  obtain ⟨⟨hs, h0, h1⟩, h2⟩ := h
  obtain ⟨P, hP⟩ := Option.isSome_iff_exists.1 h2
  obtain ⟨m, hm⟩ := Mi hs c uy n h0 (by show n + ((2000 : Nat) : Int) ≤ _; omega) hP
  refine ⟨m, _, hm, ?_⟩
  show some (⟨(.ret, gZ), (((), ()), (bf ((mP s uy n).getD aD), ()))⟩ : aP) = _
  rw [hP]
  rfl
def GW (x : xz) : Bool := ak x.1.1 && decide (0 ≤ x.1.2.1 ∧ x.1.2.1 ≤ 2000) && (mP x.1.1 uy x.1.2.1).isSome
def WU (x : xz) : OT gj.Y := .ok ⟨Cy, ((am9 x.1.1 x.1.2.1, ()), ())⟩
theorem aeD : ac Tryz.prog 65 (gj.aH GW WU) := QZ xw MO aeE _ _ fun x oy hp ho => by
  rw [← ho]
  clear ho
  obtain ⟨⟨s, n, ⟨⟩⟩, ⟨⟩⟩ := x
  refine (al ?_).trans rfl
  simp only [List.all_cons, List.all_nil, Bool.and_true]
  exact hp
def sK : cG := (gj.aH GW WU)
theorem MN : ac Tryz.prog 65 sK := aeD
theorem MM : aK sK := aB
def wa : Env := aA 65 sK zx
theorem tI : aV Tryz.prog wa := ai MN rM
theorem v9 : ax wa := ae MM AL
theorem P6 : aZ Tryz.prog te wa := aN follows au tI v9
end Go.Proofs.YtohjofabochgfaaGreat

namespace Go.Proofs.YtohjofabochgfaaGreat
theorem C8 {α : Type} [BEq α] [LawfulBEq α] : ∀ {l1 l2 : List α}, l1.Nodup → (∀ x ∈ l1, x ∈ l2) → l2.length ≤ l1.length → l1.Perm l2
  | [], l2, _, _, h => by
    have : l2 = [] := List.length_eq_zero_iff.1 (Nat.le_zero.1 h)
    rw [this]
  | a :: t, l2, hn, hs, hl => by
    have ha : a ∈ l2 := hs a (List.mem_cons_self ..)
    have hp : l2.Perm (a :: l2.erase a) := List.perm_cons_erase ha
    rw [List.nodup_cons] at hn
    have hl2 := List.length_erase_of_mem ha
    have hpos : 0 < l2.length := List.length_pos_of_mem ha
    have ih : t.Perm (l2.erase a) := C8 hn.2 (fun x hx => by
      have hne : x ≠ a := fun e => hn.1 (e ▸ hx)
      exact (List.mem_erase_of_ne hne).2 (hs x (List.mem_cons_of_mem _ hx))) (by rw [List.length_cons] at hl; omega)
    exact (ih.cons a).trans hp.symm
theorem vu {α : Type} [BEq α] [LawfulBEq α] : ∀ {l1 l2 : List α}, l1.Nodup → (∀ x ∈ l1, x ∈ l2) → l1.length ≤ l2.length
  | [], l2, _, _ => Nat.zero_le _
  | a :: t, l2, hn, hs => by
    have ha : a ∈ l2 := hs a (List.mem_cons_self ..)
    rw [List.nodup_cons] at hn
    have hl2 := List.length_erase_of_mem ha
    have hpos : 0 < l2.length := List.length_pos_of_mem ha
    have ih := vu (l2 := l2.erase a) hn.2 (fun x hx => by
      have hne : x ≠ a := fun e => hn.1 (e ▸ hx)
      exact (List.mem_erase_of_ne hne).2 (hs x (List.mem_cons_of_mem _ hx)))
    rw [List.length_cons]
    omega
def Pr (p : Nat) : Prop := 2 ≤ p ∧ ∀ d, d ∣ p → d = 1 ∨ d = p
theorem Pr.pos {p : Nat} (h : Pr p) : 0 < p := by have := h.1; omega
theorem Pr.cop {p a : Nat} (h : Pr p) (ha : ¬ p ∣ a) : Nat.Coprime p a := by
  rcases h.2 (Nat.gcd p a) (Nat.gcd_dvd_left ..) with e | e
  · exact e
  · exact absurd (e ▸ Nat.gcd_dvd_right p a) ha
theorem Pr.YA {p a b : Nat} (h : Pr p) (hd : p ∣ a * b) : p ∣ a ∨ p ∣ b := by
  by_cases ha : p ∣ a
  · exact .inl ha
  · exact .inr ((h.cop ha).dvd_of_dvd_mul_left hd)
def rW : List Nat → Nat
  | [] => 1
  | a :: l => a * rW l
theorem aaa {l1 l2 : List Nat} (h : l1.Perm l2) : rW l1 = rW l2 := by
  induction h with
  | nil => rfl
  | cons x _ ih => simp only [rW, ih]
  | swap x y l => simp only [rW]; rw [← Nat.mul_assoc, ← Nat.mul_assoc, Nat.mul_comm x y]
  | trans _ _ a b => exact a.trans b
theorem NN (p a : Nat) : ∀ l : List Nat, rW (l.map fun x => a * x % p) % p = a ^ l.length * rW l % p
  | [] => by simp [rW]
  | x :: l => by
    have ih := NN p a l
    simp only [List.map_cons, rW, List.length_cons]
    rw [Nat.mul_mod, Nat.mod_mod, ih, ← Nat.mul_mod, Nat.pow_succ]
    congr 1
    rw [Nat.mul_assoc, Nat.mul_assoc, Nat.mul_left_comm x]
    rw [Nat.mul_left_comm a]
theorem NM {p : Nat} (h : Pr p) : ∀ l : List Nat, (∀ x ∈ l, ¬ p ∣ x) → ¬ p ∣ rW l
  | [], _, hd => by
    have := Nat.le_of_dvd (by decide) hd
    have := h.1
    simp only [rW] at *
    omega
  | x :: l, hx, hd => by
    rcases h.YA hd with h1 | h1
    · exact hx x (List.mem_cons_self ..) h1
    · exact NM h l (fun y hy => hx y (List.mem_cons_of_mem _ hy)) h1
theorem aaB {p a b : Nat} (hab : a ≤ b) (h : a % p = b % p) : p ∣ b - a := by
  have h1 := Nat.div_add_mod a p
  have h2 := Nat.div_add_mod b p
  refine ⟨b / p - a / p, ?_⟩
  rw [Nat.mul_sub]
  omega
theorem m6 {p x : Nat} (h0 : 0 < x) (h1 : x < p) : ¬ p ∣ x := fun h => by
  have := Nat.le_of_dvd h0 h
  omega
theorem agu {p a : Nat} (h : Pr p) (ha : ¬ p ∣ a) {x y : Nat} (hx : x < p) (hy : y < p) (e : a * x % p = a * y % p) : x = y := by
  have aux : ∀ {x y : Nat}, x < p → y < p → x ≤ y → a * x % p = a * y % p → x = y := fun {x y} hx hy hxy e => by
    have hd := aaB (Nat.mul_le_mul_left a hxy) e
    rw [← Nat.mul_sub] at hd
    rcases h.YA hd with h1 | h1
    · exact absurd h1 ha
    · by_cases h0 : y - x = 0
      · omega
      · exact absurd h1 (m6 (by omega) (by omega))
  rcases Nat.le_total x y with hxy | hxy
  · exact aux hx hy hxy e
  · exact (aux hy hx hxy e.symm).symm
theorem oZ {α β : Type} {f : α → β} : ∀ {l : List α}, l.Nodup → (∀ x ∈ l, ∀ y ∈ l, f x = f y → x = y) → (l.map f).Nodup
  | [], _, _ => List.nodup_nil
  | a :: l, hn, hi => by
    rw [List.nodup_cons] at hn
    rw [List.map_cons, List.nodup_cons]
    refine ⟨fun hm => ?_, oZ hn.2 fun x hx y hy => hi x (List.mem_cons_of_mem _ hx) y (List.mem_cons_of_mem _ hy)⟩
    obtain ⟨b, hb, e⟩ := List.mem_map.1 hm
    have := hi a (List.mem_cons_self ..) b (List.mem_cons_of_mem _ hb) e.symm
    exact hn.1 (this ▸ hb)
theorem Ys {p a : Nat} (h : Pr p) (ha : ¬ p ∣ a) : a ^ (p - 1) % p = 1 := by
  have hp := h.1
  have hn : (List.range' 1 (p - 1)).Nodup := List.nodup_range' ..
  have hm : ((List.range' 1 (p - 1)).map fun x => a * x % p).Nodup := oZ hn fun x hx y hy e => by
    rw [List.mem_range'_1] at hx hy
    exact agu h ha (by omega) (by omega) e
  have hperm := C8 (l2 := List.range' 1 (p - 1)) hm (fun y hy => by
    obtain ⟨x, hx, rfl⟩ := List.mem_map.1 hy
    rw [List.mem_range'_1] at hx ⊢
    have hlt := Nat.mod_lt (a * x) h.pos
    have hne : a * x % p ≠ 0 := fun e => by
      rcases h.YA (Nat.dvd_of_mod_eq_zero e) with h1 | h1
      · exact ha h1
      · exact m6 (by omega) (by omega) h1
    omega) (by rw [List.length_map]; exact Nat.le_refl _)
  have e := NN p a (List.range' 1 (p - 1))
  rw [aaa hperm, List.length_range'] at e
  have hnot : ¬ p ∣ rW (List.range' 1 (p - 1)) := NM h _ fun x hx => by
    rw [List.mem_range'_1] at hx
    exact m6 (by omega) (by omega)
  have hmul : ∀ z, z * rW (List.range' 1 (p - 1)) % p = rW (List.range' 1 (p - 1)) * (z % p) % p := fun z => by
    rw [Nat.mul_comm, Nat.mul_mod_mod]
  rw [hmul] at e
  have e1 : rW (List.range' 1 (p - 1)) % p = rW (List.range' 1 (p - 1)) * 1 % p := by rw [Nat.mul_one]
  rw [e1] at e
  exact (agu h hnot (by omega) (Nat.mod_lt _ h.pos) e).symm
theorem DQ : ∀ (k n : Nat), 2 ≤ n → n ≤ k → ∃ r, Pr r ∧ r ∣ n
  | 0, n, h2, hk => by omega
  | k + 1, n, h2, hk => by
    by_cases hp : Pr n
    · exact ⟨n, hp, Nat.dvd_refl _⟩
    · have : ∃ d, d ∣ n ∧ d ≠ 1 ∧ d ≠ n := by
        apply Classical.byContradiction
        intro hc
        refine hp ⟨h2, fun d hd => ?_⟩
        apply Classical.byContradiction
        intro hd2
        exact hc ⟨d, hd, fun e => hd2 (.inl e), fun e => hd2 (.inr e)⟩
      obtain ⟨d, hd, h1, h3⟩ := this
      have hle := Nat.le_of_dvd (by omega) hd
      have h0 : d ≠ 0 := fun e => by subst e; have := Nat.eq_zero_of_zero_dvd hd; omega
      obtain ⟨r, hr, hrd⟩ := DQ k d (by omega) (by omega)
      exact ⟨r, hr, Nat.dvd_trans hrd hd⟩
theorem Mj {n : Nat} (h2 : 2 ≤ n) (hp : ¬ Pr n) : ∃ r, Pr r ∧ r ∣ n ∧ r * r ≤ n := by
  have : ∃ d, d ∣ n ∧ d ≠ 1 ∧ d ≠ n := by
    apply Classical.byContradiction
    intro hc
    refine hp ⟨h2, fun d hd => ?_⟩
    apply Classical.byContradiction
    intro hd2
    exact hc ⟨d, hd, fun e => hd2 (.inl e), fun e => hd2 (.inr e)⟩
  obtain ⟨d, ⟨e, rfl⟩, h1, h3⟩ := this
  have hd0 : d ≠ 0 := fun e' => by subst e'; omega
  have he0 : e ≠ 0 := fun e' => by subst e'; omega
  have he1 : e ≠ 1 := fun e' => by subst e'; omega
  rcases Nat.le_total d e with hde | hde
  · obtain ⟨r, hr, hrd⟩ := DQ d d (by omega) (Nat.le_refl _)
    have hle := Nat.le_of_dvd (by omega) hrd
    exact ⟨r, hr, Nat.dvd_trans hrd (Nat.dvd_mul_right ..), Nat.le_trans (Nat.mul_le_mul hle hle) (Nat.mul_le_mul_left d hde)⟩
  · obtain ⟨r, hr, hrd⟩ := DQ e e (by omega) (Nat.le_refl _)
    have hle := Nat.le_of_dvd (by omega) hrd
    exact ⟨r, hr, Nat.dvd_trans hrd (Nat.dvd_mul_left ..), Nat.le_trans (Nat.mul_le_mul hle hle) (Nat.mul_le_mul_right e hde)⟩
theorem apZ {r a : Nat} (hr : 2 ≤ r) (m k : Nat) : a ^ m % r = 1 → a ^ k % r = 1 → a ^ Nat.gcd m k % r = 1 := by
  induction m, k using Nat.gcd.induction with
  | H0 n => intro _ h; rw [Nat.gcd_zero_left]; exact h
  | H1 m n hm ih =>
    intro h1 h2
    rw [Nat.gcd_rec]
    refine ih ?_ h1
    have e : a ^ n % r = a ^ (n % m) % r := by
      conv => lhs; rw [← Nat.div_add_mod n m, Nat.pow_add, Nat.pow_mul, Nat.mul_mod, Nat.pow_mod, h1, Nat.one_pow, Nat.mod_eq_of_lt (show 1 < r by omega), Nat.one_mul, Nat.mod_mod]
    rw [← e]
    exact h2
theorem alC {n q e a m : Nat} (hn2 : 2 ≤ n) (hq : Pr q) (he : n - 1 = q ^ (e + 1) * m) (h1 : a ^ (n - 1) % n = 1) (h2 : Nat.gcd (a ^ (q ^ e * m) % n + n - 1) n = 1)
    {r : Nat} (hr : Pr r) (hd : r ∣ n) : q ^ (e + 1) ∣ r - 1 := by
  have hr2 := hr.1
  have ha1 : a ^ (n - 1) % r = 1 := by
    have := congrArg (· % r) h1
    simp only [Nat.mod_mod_of_dvd _ hd] at this
    rw [this, Nat.mod_eq_of_lt (by omega)]
  have hna : ¬ r ∣ a := fun h => by
    have : r ∣ a ^ (n - 1) := Nat.dvd_trans h (by
      have := Nat.pow_dvd_pow a (show 1 ≤ n - 1 by omega)
      rwa [Nat.pow_one] at this)
    rw [Nat.mod_eq_zero_of_dvd this] at ha1
    omega
  have hg := apZ hr2 _ _ ha1 (Ys hr hna)
  obtain ⟨h, hh⟩ := Nat.gcd_dvd_left (n - 1) (r - 1)
  by_cases hqh : q ∣ h
  · obtain ⟨k, rfl⟩ := hqh
    have hk : q ^ e * m = Nat.gcd (n - 1) (r - 1) * k := by
      have : q * (q ^ e * m) = q * (Nat.gcd (n - 1) (r - 1) * k) := by
        rw [← Nat.mul_assoc, ← Nat.pow_succ', ← he, Nat.mul_left_comm q, ← hh]
      exact Nat.eq_of_mul_eq_mul_left hq.pos this
    have hone : a ^ (q ^ e * m) % r = 1 := by
      rw [hk, Nat.pow_mul, Nat.pow_mod, hg, Nat.one_pow, Nat.mod_eq_of_lt (by omega)]
    have hmn : a ^ (q ^ e * m) % n % r = 1 := by rw [Nat.mod_mod_of_dvd _ hd, hone]
    have hdv : r ∣ a ^ (q ^ e * m) % n + n - 1 := by
      obtain ⟨c, rfl⟩ := hd
      have := Nat.div_add_mod (a ^ (q ^ e * m) % (r * c)) r
      refine ⟨a ^ (q ^ e * m) % (r * c) / r + c, ?_⟩
      rw [Nat.mul_add]
      omega
    have := Nat.dvd_gcd hdv hd
    rw [h2] at this
    have := Nat.le_of_dvd (by decide) this
    omega
  · have hc : Nat.Coprime (q ^ (e + 1)) h := Nat.Coprime.pow_left _ (hq.cop hqh)
    have hdg : q ^ (e + 1) ∣ Nat.gcd (n - 1) (r - 1) * h := by rw [← hh, he]; exact Nat.dvd_mul_right ..
    exact Nat.dvd_trans (hc.dvd_of_dvd_mul_right hdg) (Nat.gcd_dvd_right ..)
theorem alD {n F : Nat} (h2 : 2 ≤ n) (hF : n < F * F) (h : ∀ r, Pr r → r ∣ n → F ∣ r - 1) : Pr n := by
  apply Classical.byContradiction
  intro hp
  obtain ⟨r, hr, hd, hle⟩ := Mj h2 hp
  have h1 := hr.1
  have := Nat.le_of_dvd (by omega) (h r hr hd)
  have : F * F ≤ r * r := Nat.mul_le_mul (by omega) (by omega)
  omega
def OO {α : Type} (n : Nat) (f : Nat → α) : α := match n with
  | 0 => f 0
  | k + 1 => f (k + 1)
theorem ON {α : Type} (n : Nat) (f : Nat → α) : OO n f = f n := by cases n <;> rfl
def pw (n : Nat) : Nat → Nat → Nat → Nat → Nat
  | 0, o, _, _ => o
  | f + 1, o, x, k => OO k fun k => cond (Nat.beq k 0) o (OO (x * x % n) fun y => OO (cond (Nat.beq (k % 2) 1) (o * x % n) o) fun o => pw n f o y (k / 2))
theorem apW {p : Nat} : ∀ (n o x k : Nat), k < 2 ^ n → o < p → pw p n o x k = o * x ^ k % p
  | 0, o, x, k, hk, ho => by
    have : k = 0 := by omega
    subst this
    show o = _
    rw [Nat.pow_zero, Nat.mul_one, Nat.mod_eq_of_lt ho]
  | n + 1, o, x, k, hk, ho => by
    unfold pw
    simp only [ON]
    rw [Nat.pow_succ] at hk
    cases h0 : Nat.beq k 0
    · simp only [cond_false]
      have hsq : (x * x % p) ^ (k / 2) % p = x ^ (2 * (k / 2)) % p := by
        rw [← Nat.pow_mod, Nat.pow_mul, Nat.pow_two]
      cases h1 : Nat.beq (k % 2) 1
      · have h1' : ¬ k % 2 = 1 := fun e => by rw [e] at h1; cases h1
        simp only [cond_false]
        rw [apW n _ _ _ (by omega) ho, Nat.mul_mod, hsq, ← Nat.mul_mod, show 2 * (k / 2) = k by omega]
      · have h1 := Nat.eq_of_beq_eq_true h1
        simp only [cond_true]
        rw [apW n _ _ _ (by omega) (Nat.mod_lt _ (by omega)), Nat.mul_mod, hsq, Nat.mod_mod, ← Nat.mul_mod, Nat.mul_assoc, ← Nat.pow_succ', show (2 * (k / 2)).succ = k by omega]
    · have h0 := Nat.eq_of_beq_eq_true h0
      subst h0
      simp only [cond_true]
      rw [Nat.pow_zero, Nat.mul_one, Nat.mod_eq_of_lt ho]
def pwm (n a k : Nat) : Nat := pw n 256 1 (a % n) k
theorem afr {n : Nat} (hn : 2 ≤ n) {a k : Nat} (hk : Nat.blt k (2 ^ 256) = true) : pwm n a k = a ^ k % n := by
  have hk' : k < 2 ^ 256 := Nat.le_of_ble_eq_true hk
  unfold pwm
  rw [apW 256 1 _ _ hk' (by omega), Nat.one_mul, ← Nat.pow_mod]
def asn (n q e a m : Nat) : Bool := Nat.beq (n - 1) (q ^ (e + 1) * m) && (Nat.blt n (2 ^ 256) && (Nat.beq (pwm n a (n - 1)) 1 && Nat.beq (Nat.gcd (pwm n a (q ^ e * m) + n - 1) n) 1))
theorem eL {n q e a m : Nat} (h2 : 2 ≤ n) (hq : Pr q) (h : asn n q e a m = true) {r : Nat} (hr : Pr r) (hd : r ∣ n) : q ^ (e + 1) ∣ r - 1 := by
  simp only [asn, Bool.and_eq_true] at h
  obtain ⟨h1, h3, h4, h5⟩ := h
  have h1 := Nat.eq_of_beq_eq_true h1
  have h3 : n < 2 ^ 256 := Nat.le_of_ble_eq_true h3
  have hm : q ^ e * m ≤ n - 1 := by
    rw [h1, Nat.pow_succ, Nat.mul_right_comm]
    exact Nat.le_mul_of_pos_right _ hq.pos
  rw [afr h2 (Nat.ble_eq_true_of_le (show n - 1 + 1 ≤ 2 ^ 256 by omega))] at h4
  rw [afr h2 (Nat.ble_eq_true_of_le (show q ^ e * m + 1 ≤ 2 ^ 256 by omega))] at h5
  exact alC h2 hq h1 (Nat.eq_of_beq_eq_true h4) (Nat.eq_of_beq_eq_true h5) hr hd
def atu (n : Nat) : Nat → Nat → Bool
  | 0, _ => false
  | f + 1, d => OO d fun d => cond (Nat.blt n (d * d)) true (cond (Nat.beq (n % d) 0) false (atu n f (d + 1)))
theorem acM {n : Nat} : ∀ (f d : Nat), atu n f d = true → 0 < d → (∀ x, 1 < x → x < d → ¬ x ∣ n) → ∀ x, 1 < x → x * x ≤ n → ¬ x ∣ n
  | 0, d, h, _, _ => by cases h
  | f + 1, d, h, hd0, hb => by
    unfold atu at h
    rw [ON] at h
    cases h1 : Nat.blt n (d * d)
    · rw [h1] at h
      cases h2 : Nat.beq (n % d) 0
      · rw [h2] at h
        refine acM f (d + 1) h (by omega) fun x hx hxd hdv => ?_
        by_cases hxd2 : x = d
        · subst hxd2
          rw [Nat.mod_eq_zero_of_dvd hdv] at h2
          cases h2
        · exact hb x hx (by omega) hdv
      · rw [h2] at h; cases h
    · have h1 : n < d * d := Nat.le_of_ble_eq_true h1
      intro x hx hxx
      refine hb x hx ?_
      apply Classical.byContradiction
      intro hc
      have := Nat.mul_le_mul (show d ≤ x by omega) (show d ≤ x by omega)
      omega
theorem ur {n : Nat} (f : Nat) (h2 : 2 ≤ n) (h : atu n f 2 = true) : Pr n := by
  apply Classical.byContradiction
  intro hp
  obtain ⟨r, hr, hd, hle⟩ := Mj h2 hp
  have := hr.1
  exact acM f 2 h (by decide) (fun x a b => by omega) r (by omega) hle hd
end Go.Proofs.YtohjofabochgfaaGreat

set_option maxRecDepth 100000
namespace Go.Proofs.YtohjofabochgfaaGreat
theorem sX : Pr 16513537 := ur 4065 (by decide) (by decide +kernel)
theorem sW : Pr 16521217 := ur 4066 (by decide) (by decide +kernel)
theorem afx : Pr 772231 := ur 880 (by decide) (by decide +kernel)
theorem afy : Pr 413527 := ur 645 (by decide) (by decide +kernel)
theorem va : Pr 325086459374267 := alD (F := 319338368737) (by decide) (by decide +kernel) fun r hr hd => by
  have h0 : 772231 ∣ r - 1 := eL (n := 325086459374267) (q := 772231) (e := 0) (a := 2) (m := 420970486) (by decide) afx (by decide +kernel) hr hd
  have h1 : 413527 ∣ r - 1 := eL (n := 325086459374267) (q := 413527) (e := 0) (a := 2) (m := 786131158) (by decide) afy (by decide +kernel) hr hd
  have k1 : 319338368737 ∣ r - 1 := Nat.Coprime.mul_dvd_of_dvd_of_dvd (m := 772231) (n := 413527) (show Nat.gcd 772231 413527 = 1 by decide +kernel) h0 h1
  exact k1
theorem aab : Pr 6942563 := ur 2636 (by decide) (by decide +kernel)
theorem RZ : Pr 41655379 := alD (F := 6942563) (by decide) (by decide +kernel) fun r hr hd => by
  have h0 : 6942563 ∣ r - 1 := eL (n := 41655379) (q := 6942563) (e := 0) (a := 2) (m := 6) (by decide) aab (by decide +kernel) hr hd
  exact h0
theorem Gk : Pr 22160661629 := alD (F := 41655379) (by decide) (by decide +kernel) fun r hr hd => by
  have h0 : 41655379 ∣ r - 1 := eL (n := 22160661629) (q := 41655379) (e := 0) (a := 2) (m := 532) (by decide) RZ (by decide +kernel) hr hd
  exact h0
theorem dH : Pr 8999194758858563409123804352480028797519453 := alD (F := 7204131026362786056900943) (by decide) (by decide +kernel) fun r hr hd => by
  have h0 : 325086459374267 ∣ r - 1 := eL (n := 8999194758858563409123804352480028797519453) (q := 325086459374267) (e := 0) (a := 2) (m := 27682465692912573825889481556) (by decide) va (by decide +kernel) hr hd
  have h1 : 22160661629 ∣ r - 1 := eL (n := 8999194758858563409123804352480028797519453) (q := 22160661629) (e := 0) (a := 2) (m := 406088721966766121824069856270988) (by decide) Gk (by decide +kernel) hr hd
  have k1 : 7204131026362786056900943 ∣ r - 1 := Nat.Coprime.mul_dvd_of_dvd_of_dvd (m := 325086459374267) (n := 22160661629) (show Nat.gcd 325086459374267 22160661629 = 1 by decide +kernel) h0 h1
  exact k1
theorem aJ : Pr 28948022309329048855892746252171976963363056481941560715954676764349967630337 := alD (F := 8999194758858563409123804352480028797519453) (by decide) (by decide +kernel) fun r hr hd => by
  have h0 : 8999194758858563409123804352480028797519453 ∣ r - 1 := eL (n := 28948022309329048855892746252171976963363056481941560715954676764349967630337) (q := 8999194758858563409123804352480028797519453) (e := 0) (a := 2) (m := 3216734728497058061019394250637312) (by decide) dH (by decide +kernel) hr hd
  exact h0
theorem alz : Pr 31649 := ur 179 (by decide) (by decide +kernel)
theorem alA : Pr 12149 := ur 112 (by decide) (by decide +kernel)
theorem Bi : Pr 5239247429827 := alD (F := 384503701) (by decide) (by decide +kernel) fun r hr hd => by
  have h0 : 31649 ∣ r - 1 := eL (n := 5239247429827) (q := 31649) (e := 0) (a := 2) (m := 165542274) (by decide) alz (by decide +kernel) hr hd
  have h1 : 12149 ∣ r - 1 := eL (n := 5239247429827) (q := 12149) (e := 0) (a := 2) (m := 431249274) (by decide) alA (by decide +kernel) hr hd
  have k1 : 384503701 ∣ r - 1 := Nat.Coprime.mul_dvd_of_dvd_of_dvd (m := 31649) (n := 12149) (show Nat.gcd 31649 12149 = 1 by decide +kernel) h0 h1
  exact k1
theorem aac : Pr 5701177 := ur 2389 (by decide) (by decide +kernel)
theorem NP : Pr 399082391 := alD (F := 5701177) (by decide) (by decide +kernel) fun r hr hd => by
  have h0 : 5701177 ∣ r - 1 := eL (n := 399082391) (q := 5701177) (e := 0) (a := 2) (m := 70) (by decide) aac (by decide +kernel) hr hd
  exact h0
theorem fg : Pr 10427374428728808478656897599072717 := alD (F := 2090891391335963876357) (by decide) (by decide +kernel) fun r hr hd => by
  have h0 : 5239247429827 ∣ r - 1 := eL (n := 10427374428728808478656897599072717) (q := 5239247429827) (e := 0) (a := 2) (m := 1990242791238649418308) (by decide) Bi (by decide +kernel) hr hd
  have h1 : 399082391 ∣ r - 1 := eL (n := 10427374428728808478656897599072717) (q := 399082391) (e := 0) (a := 2) (m := 26128375152309860944621076) (by decide) NP (by decide +kernel) hr hd
  have k1 : 2090891391335963876357 ∣ r - 1 := Nat.Coprime.mul_dvd_of_dvd_of_dvd (m := 5239247429827) (n := 399082391) (show Nat.gcd 5239247429827 399082391 = 1 by decide +kernel) h0 h1
  exact k1
theorem auw : Pr 2 := ur 3 (by decide) (by decide +kernel)
theorem aI : Pr 28948022309329048855892746252171976963363056481941647379679742748393362948097 := alD (F := 44785232154536915268878889192838239440863232) (by decide) (by decide +kernel) fun r hr hd => by
  have h0 : 10427374428728808478656897599072717 ∣ r - 1 := eL (n := 28948022309329048855892746252171976963363056481941647379679742748393362948097) (q := 10427374428728808478656897599072717) (e := 0) (a := 2) (m := 2776156405161148062854777934377771323097088) (by decide) fg (by decide +kernel) hr hd
  have h1 : 4294967296 ∣ r - 1 := eL (n := 28948022309329048855892746252171976963363056481941647379679742748393362948097) (q := 2) (e := 31) (a := 5) (m := 6739986666787659948666753771754907668419893943225417141728043264801) (by decide) auw (by decide +kernel) hr hd
  have k1 : 44785232154536915268878889192838239440863232 ∣ r - 1 := Nat.Coprime.mul_dvd_of_dvd_of_dvd (m := 10427374428728808478656897599072717) (n := 4294967296) (show Nat.gcd 10427374428728808478656897599072717 4294967296 = 1 by decide +kernel) h0 h1
  exact k1
end Go.Proofs.YtohjofabochgfaaGreat

namespace Go.Proofs.YtohjofabochgfaaGreat
set_option maxRecDepth 100000
theorem dz (p : Int) : p ∣ 0 := Int.dvd_zero p
theorem dc {p a b : Int} (c : Int) (h : p ∣ a) (k : p ∣ b) : p ∣ c * a + b := Int.dvd_add (Int.dvd_trans h (Int.dvd_mul_left ..)) k
theorem dk {p a K : Int} (h : p ∣ a) (e : K = a) : p ∣ K := e ▸ h
theorem arV {p y3 x3 b y1 y2 x1 x2 l : Int} (h0 : p ∣ y3-(l*(x1-x3)-y1)) (h1 : p ∣ x3-(l*l-x1-x2)) (h2 : p ∣ l*(x1-x2)-(y1-y2)) (h3 : p ∣ l*(y1+y2)-(x1*x1+x1*x2+x2*x2)) (h4 : p ∣ y1*y1-x1*x1*x1-b) : p ∣ (y3*y3-x3*x3*x3-b) :=
  dk (dc (y3 - x3*l + x1*l - y1) h0 (dc (-x3*x3 + x3*x1 + x3*x2 - x1*l*l + x2*l*l - x1*x1 - 2*x1*x2 - x2*x2 + 2*y1*l) h1 (dc (-l*l*l + 2*x1*l + x2*l) h2 (dc (l*l - 2*x1 - x2) h3 (dc (1) h4 (dz p)))))) (by clear h0 h1 h2 h3 h4; grind)
theorem an6 {p y3 x3 y1 y2 x1 x2 l : Int} (h0 : p ∣ y3-(l*(x1-x3)-y1)) (h1 : p ∣ l*(x1-x2)-(y1-y2)) : p ∣ (y3-(l*(x2-x3)-y2)) :=
  dk (dc (1) h0 (dc (1) h1 (dz p))) (by clear h0 h1; grind)
theorem atj {p y3 x3 y1 y2 x1 x2 l : Int} (h0 : p ∣ y3-(l*(x1-x3)-y1)) (h1 : p ∣ x3-(l*l-x1-x2)) (h2 : p ∣ l*(x1-x2)-(y1-y2)) (h3 : p ∣ l*(y1+y2)-(x1*x1+x1*x2+x2*x2)) : p ∣ ((-l)*((-y1)+y3)-(x1*x1+x1*x3+x3*x3)) :=
  dk (dc (-l) h0 (dc (-x3 + x2) h1 (dc (-l) h2 (dc (1) h3 (dz p))))) (by clear h0 h1 h2 h3; grind)
theorem ahL {p b y1 y2 x1 x2 l : Int} (h0 : p ∣ y1*y1-x1*x1*x1-b) (h1 : p ∣ y2*y2-x2*x2*x2-b) (h2 : p ∣ l*(x1-x2)-(y1-y2)) : p ∣ (x1-x2) * (l*(y1+y2)-(x1*x1+x1*x2+x2*x2)) :=
  dk (dc (1) h0 (dc (-1) h1 (dc (y1 + y2) h2 (dz p)))) (by clear h0 h1 h2; grind)
theorem atl {p x7 x5 yt xt ys xs y1 y3 L M l m x1 x3 y2 x2 : Int} (h0 : p ∣ l*(x1-x2)-(y1-y2)) (h1 : p ∣ m*(x2-x3)-(y2-y3)) (h2 : p ∣ xs-(l*l-x1-x2)) (h3 : p ∣ ys-(l*(x1-xs)-y1)) (h4 : p ∣ xt-(m*m-x2-x3)) (h5 : p ∣ yt-(m*(x2-xt)-y2)) (h6 : p ∣ x5-(L*L-xs-x3)) (h7 : p ∣ x7-(M*M-x1-xt)) (h8 : p ∣ l*(y1+y2)-(x1*x1+x1*x2+x2*x2)) (h9 : p ∣ m*(y2+y3)-(x2*x2+x2*x3+x3*x3)) (h10 : p ∣ L*(xs-x3)-(ys-y3)) (h11 : p ∣ M*(x1-xt)-(y1-yt)) : p ∣ ((xs-x3)*(x1-xt)) * (x5-x7) :=
  dk (dc (-L*l*l - l*l*l - L*l*m - M*l*m - l*l*m - L*m*m + L*x1 - M*x1 + 2*l*x1 + 2*m*x1 + L*x3 - M*x3 + L*x2 - M*x2 + l*x2 + m*x2) h0 (dc (-L*l*m - M*l*m - l*l*m - M*m*m - l*m*m - m*m*m - L*x1 + m*x1 - L*x3 + l*x3 + 2*m*x3 - L*x2 + 2*l*x2 + 3*m*x2 - 2*y2) h1 (dc (x7*xt - x7*x1 - x5*xt + x5*x1 + L*L*m*m - L*L*x1 - L*l*x1 - l*l*x1 - L*m*x1 - l*m*x1 - m*m*x1 - L*L*x3 - m*m*x3 - L*L*x2 + L*l*x2 + l*l*x2 + L*m*x2 + l*m*x2 - m*m*x2 + x1*x1 + 2*x1*x3 + x3*x3 - 2*L*y2 - 2*l*y2 + 2*x1*x2 + 2*x3*x2 + x2*x2) h2 (dc (-L*m*m + l*m*m + L*x1 + m*x1 + L*x3 - l*x3 + L*x2 - 2*l*x2 - m*x2 + 2*y2) h3 (dc (x7*l*l - x7*x1 - x7*x3 - x7*x2 - x5*l*l + x5*x1 + x5*x3 + x5*x2 - M*M*l*l + M*M*x1 + l*l*x1 + M*M*x3 + M*l*x3 + l*l*x3 + M*m*x3 + l*m*x3 + m*m*x3 + M*M*x2 - M*l*x2 + l*l*x2 - M*m*x2 - l*m*x2 - m*m*x2 - x1*x1 - 2*x1*x3 - x3*x3 + 2*M*y2 + 2*m*y2 - 2*x1*x2 - 2*x3*x2 - x2*x2) h4 (dc (M*l*l - l*l*m - M*x1 + m*x1 - M*x3 - l*x3 - M*x2 + l*x2 + 2*m*x2 - 2*y2) h5 (dc (-l*l*m*m + l*l*x1 + m*m*x1 + l*l*x3 + m*m*x3 + l*l*x2 + m*m*x2 - x1*x1 - 2*x1*x3 - x3*x3 - 2*x1*x2 - 2*x3*x2 - x2*x2) h6 (dc (l*l*m*m - l*l*x1 - m*m*x1 - l*l*x3 - m*m*x3 - l*l*x2 - m*m*x2 + x1*x1 + 2*x1*x3 + x3*x3 + 2*x1*x2 + 2*x3*x2 + x2*x2) h7 (dc (-L*l - M*l - l*l - L*m - M*m - m*m + 2*x1 + 2*x3 + 2*x2) h8 (dc (L*l + M*l + l*l + L*m + M*m + m*m - 2*x1 - 2*x3 - 2*x2) h9 (dc (-L*m*m + l*m*m + L*x1 + m*x1 + L*x3 - l*x3 + L*x2 - 2*l*x2 - m*x2 + 2*y2) h10 (dc (-M*l*l + l*l*m + M*x1 - m*x1 + M*x3 + l*x3 + M*x2 - l*x2 - 2*m*x2 + 2*y2) h11 (dz p))))))))))))) (by clear h0 h1 h2 h3 h4 h5 h6 h7 h8 h9 h10 h11; grind)
theorem atk {p y7 x7 y5 x5 yt xt ys xs y1 y3 L M l m x1 x3 y2 x2 : Int} (h0 : p ∣ l*(x1-x2)-(y1-y2)) (h1 : p ∣ m*(x2-x3)-(y2-y3)) (h2 : p ∣ xs-(l*l-x1-x2)) (h3 : p ∣ ys-(l*(x1-xs)-y1)) (h4 : p ∣ xt-(m*m-x2-x3)) (h5 : p ∣ yt-(m*(x2-xt)-y2)) (h6 : p ∣ x5-(L*L-xs-x3)) (h7 : p ∣ y5-(L*(xs-x5)-ys)) (h8 : p ∣ x7-(M*M-x1-xt)) (h9 : p ∣ y7-(M*(x1-x7)-y1)) (h10 : p ∣ l*(y1+y2)-(x1*x1+x1*x2+x2*x2)) (h11 : p ∣ m*(y2+y3)-(x2*x2+x2*x3+x3*x3)) (h12 : p ∣ L*(xs-x3)-(ys-y3)) (h13 : p ∣ M*(x1-xt)-(y1-yt)) (h14 : p ∣ x5-x7) : p ∣ ((xs-x3)*(x1-xt)) * (y5-y7) :=
  dk (dc (-L*L*L*l + L*M*M*l - 2*L*L*l*l - L*M*l*l + M*M*l*l - M*l*l*l + l*l*l*l - L*L*l*m - L*M*l*m + M*M*l*m - 2*L*l*l*m - M*l*l*m - l*l*l*m + L*L*m*m - 3*L*l*m*m + M*l*m*m - 3*l*l*m*m - M*l*x1 - 2*l*l*x1 + L*m*x1 + l*m*x1 + 2*m*m*x1 - L*L*x3 + M*M*x3 + 2*L*l*x3 - 3*M*l*x3 + 3*l*l*x3 - L*m*x3 - 2*M*m*x3 + l*m*x3 - m*m*x3 - 2*L*L*x2 + 2*M*M*x2 + L*l*x2 - 2*M*l*x2 + 2*l*l*x2 - M*m*x2 - 2*l*m*x2 - 4*m*m*x2 + 2*x1*x1 + 2*x3*x3 + 6*m*y2 - x1*x2 + 5*x3*x2 + x2*x2) h0 (dc (L*L*l*m - L*M*l*m - M*M*l*m - M*l*l*m - l*l*l*m - L*M*m*m - M*M*m*m - L*l*m*m - 2*M*l*m*m - 2*l*l*m*m - L*m*m*m - l*m*m*m + m*m*m*m + M*M*x1 - 2*L*l*x1 - M*l*x1 - 2*L*m*x1 - 2*M*m*x1 + 3*l*m*x1 + L*L*x3 - L*l*x3 - l*l*x3 - L*m*x3 - M*m*x3 + 2*L*L*x2 - M*M*x2 + M*l*x2 - 2*l*l*x2 + 3*x1*x3 - 2*L*y2 - 2*M*y2 + 2*m*y2 + 6*x1*x2 + 3*x2*x2) h1 (dc (y7*xt - y7*x1 - y5*xt + y5*x1 - L*L*L*m*m + L*M*M*x1 - 2*L*L*l*x1 - L*M*l*x1 + M*M*l*x1 - M*l*l*x1 + l*l*l*x1 - L*L*m*x1 - L*M*m*x1 - 2*L*l*m*x1 - M*l*m*x1 - l*l*m*x1 - 2*L*m*m*x1 - 3*l*m*m*x1 + L*L*L*x3 + 2*L*m*m*x3 + l*m*m*x3 + 2*L*L*L*x2 - L*M*M*x2 + 2*L*L*l*x2 + L*M*l*x2 - M*M*l*x2 + M*l*l*x2 - l*l*l*x2 + L*L*m*x2 + L*M*m*x2 + 2*L*l*m*x2 + M*l*m*x2 + l*l*m*x2 + 3*L*m*m*x2 + 2*l*m*m*x2 - 2*L*x1*x1 - l*x1*x1 + 3*l*x1*x3 + m*x1*x3 - 2*L*x3*x3 - l*x3*x3 - 2*L*L*y2 - 2*L*M*y2 - 2*M*l*y2 + 2*l*l*y2 - 4*L*m*y2 + L*x1*x2 + 2*l*x1*x2 - m*x1*x2 - 5*L*x3*x2 - 4*l*x3*x2 - m*x3*x2 - L*x2*x2 - 5*l*x2*x2 - 5*m*x2*x2 + 2*x1*y2 + 4*x3*y2 + 6*y2*x2) h2 (dc (L*L*m*m - L*l*m*m - M*M*x1 + 2*L*l*x1 + M*l*x1 - l*l*x1 + L*m*x1 + M*m*x1 + l*m*x1 + 3*m*m*x1 - L*L*x3 + L*l*x3 - m*m*x3 - 2*L*L*x2 + M*M*x2 - M*l*x2 + l*l*x2 - L*m*x2 - M*m*x2 - l*m*x2 - 2*m*m*x2 + x1*x1 - x1*x3 + x3*x3 + 2*L*y2 + 2*M*y2 + 4*m*y2 - 4*x1*x2 + 2*x3*x2 - 2*x2*x2) h3 (dc (y7*l*l - y7*x1 - y7*x3 - y7*x2 - y5*l*l + y5*x1 + y5*x3 + y5*x2 + M*M*M*l*l - M*M*M*x1 - M*l*l*x1 - M*M*M*x3 + L*M*l*x3 + M*M*l*x3 + M*l*l*x3 + L*M*m*x3 + M*M*m*x3 + L*l*m*x3 + 2*M*l*m*x3 + 2*l*l*m*x3 + L*m*m*x3 + l*m*m*x3 - m*m*m*x3 - M*M*M*x2 - L*M*l*x2 - M*M*l*x2 - 3*M*l*l*x2 - L*M*m*x2 - M*M*m*x2 - L*l*m*x2 - 2*M*l*m*x2 - 2*l*l*m*x2 - L*m*m*x2 - l*m*m*x2 + m*m*m*x2 + M*x1*x1 - L*x1*x3 + 3*M*x1*x3 - 2*l*x1*x3 + M*x3*x3 + 2*L*M*y2 + 2*M*M*y2 - 2*L*l*y2 + 6*M*l*y2 - 2*l*l*y2 + 2*L*m*y2 + 2*l*m*y2 - 2*m*m*y2 + L*x1*x2 + M*x1*x2 + 2*l*x1*x2 + L*x3*x2 + M*x3*x2 + 2*l*x3*x2 + 2*L*x2*x2 - M*x2*x2 + 7*l*x2*x2 + 3*m*x2*x2 - 2*x1*y2 - 4*x3*y2 - 6*y2*x2) h4 (dc (-M*M*l*l + M*l*l*m + M*M*x1 - M*m*x1 + M*M*x3 - L*l*x3 - M*l*x3 - 2*l*l*x3 - L*m*x3 - 2*M*m*x3 - l*m*x3 + m*m*x3 + M*M*x2 + L*l*x2 + M*l*x2 + 2*l*l*x2 + L*m*x2 + l*m*x2 - m*m*x2 - x1*x3 - 2*L*y2 - 2*M*y2 - 6*l*y2 + 2*m*y2 + x1*x2 + x3*x2 + 2*x2*x2) h5 (dc (L*l*l*m*m - L*l*l*x1 - L*m*m*x1 - L*l*l*x3 - L*m*m*x3 - L*l*l*x2 - L*m*m*x2 + L*x1*x1 + L*x1*x3 - 2*l*x1*x3 - m*x1*x3 + L*x3*x3 - 2*L*l*y2 - 2*l*l*y2 - 4*l*m*y2 + 3*L*x1*x2 + 2*l*x1*x2 + m*x1*x2 + 3*L*x3*x2 + 2*l*x3*x2 + m*x3*x2 + 3*L*x2*x2 + 7*l*x2*x2 + 5*m*x2*x2 - 2*x1*y2 - 4*x3*y2 - 6*y2*x2) h6 (dc (-l*l*m*m + l*l*x1 + m*m*x1 + l*l*x3 + m*m*x3 + l*l*x2 + m*m*x2 - x1*x1 - 2*x1*x3 - x3*x3 - 2*x1*x2 - 2*x3*x2 - x2*x2) h7 (dc (-M*l*l*m*m + M*l*l*x1 + M*m*m*x1 + M*l*l*x3 + M*m*m*x3 + M*l*l*x2 + M*m*m*x2 - M*x1*x1 + L*x1*x3 - 2*M*x1*x3 + 2*l*x1*x3 + m*x1*x3 - M*x3*x3 + 2*L*l*y2 + 2*l*l*y2 + 4*l*m*y2 - L*x1*x2 - 2*M*x1*x2 - 2*l*x1*x2 - m*x1*x2 - L*x3*x2 - 2*M*x3*x2 - 2*l*x3*x2 - m*x3*x2 - 2*L*x2*x2 - M*x2*x2 - 7*l*x2*x2 - 5*m*x2*x2 + 2*x1*y2 + 4*x3*y2 + 6*y2*x2) h8 (dc (l*l*m*m - l*l*x1 - m*m*x1 - l*l*x3 - m*m*x3 - l*l*x2 - m*m*x2 + x1*x1 + 2*x1*x3 + x3*x3 + 2*x1*x2 + 2*x3*x2 + x2*x2) h9 (dc (-L*L*L + L*M*M - 2*L*L*l - L*M*l + 2*M*M*l - M*l*l + l*l*l - L*L*m - L*M*m + M*M*m - 2*L*l*m - 2*M*l*m - l*l*m - 2*L*m*m + M*m*m - 4*l*m*m - 2*L*x1 - 2*M*x1 + 2*L*x3 - 2*M*x3 + 6*l*x3 + 2*m*x3 - 2*M*x2 - 2*m*x2 + 6*y2) h10 (dc (-L*L*l + L*M*l + M*M*l + M*l*l + l*l*l - L*L*m + L*M*m + M*M*m + 2*L*l*m + 2*M*l*m + 3*l*l*m + L*m*m + l*m*m - m*m*m + L*x1 + M*x1 - 4*l*x1 - 4*m*x1 + L*x3 + M*x3 + L*x2 + M*x2 + l*x2 + m*x2 - 6*y2) h11 (dc (L*L*m*m - L*l*m*m - l*l*m*m - M*M*x1 + 2*L*l*x1 + M*l*x1 + L*m*x1 + M*m*x1 + l*m*x1 + 4*m*m*x1 - L*L*x3 + L*l*x3 + l*l*x3 - 2*L*L*x2 + M*M*x2 - M*l*x2 + 2*l*l*x2 - L*m*x2 - M*m*x2 - l*m*x2 - m*m*x2 - 3*x1*x3 + 2*L*y2 + 2*M*y2 + 4*m*y2 - 6*x1*x2 - 3*x2*x2) h12 (dc (M*M*l*l - M*l*l*m - M*M*x1 + M*m*x1 - M*M*x3 + L*l*x3 + M*l*x3 + 2*l*l*x3 + L*m*x3 + 2*M*m*x3 + l*m*x3 - m*m*x3 - M*M*x2 - L*l*x2 - M*l*x2 - 2*l*l*x2 - L*m*x2 - l*m*x2 + m*m*x2 + x1*x3 + 2*L*y2 + 2*M*y2 + 6*l*y2 - 2*m*y2 - x1*x2 - x3*x2 - 2*x2*x2) h13 (dc (L*x1*x3 + 2*l*x1*x3 + m*x1*x3 + 2*L*l*y2 + 2*l*l*y2 + 4*l*m*y2 - L*x1*x2 - 2*l*x1*x2 - m*x1*x2 - L*x3*x2 - 2*l*x3*x2 - m*x3*x2 - 2*L*x2*x2 - 7*l*x2*x2 - 5*m*x2*x2 + 2*x1*y2 + 4*x3*y2 + 6*y2*x2) h14 (dz p)))))))))))))))) (by clear h0 h1 h2 h3 h4 h5 h6 h7 h8 h9 h10 h11 h12 h13 h14; grind)
theorem atn {p x7 x5 yt xt ys xs y1 y3 L M l m x1 x3 y2 x2 : Int} (h0 : p ∣ l*(x1-x2)-(y1-y2)) (h1 : p ∣ m*(x2-x3)-(y2-y3)) (h2 : p ∣ xs-(l*l-x1-x2)) (h3 : p ∣ ys-(l*(x1-xs)-y1)) (h4 : p ∣ xt-(m*m-x2-x3)) (h5 : p ∣ yt-(m*(x2-xt)-y2)) (h6 : p ∣ x5-(L*L-xs-x3)) (h7 : p ∣ x7-(M*M-x1-xt)) (h8 : p ∣ l*(y1+y2)-(x1*x1+x1*x2+x2*x2)) (h9 : p ∣ m*(y2+y3)-(x2*x2+x2*x3+x3*x3)) (h10 : p ∣ L*(xs-x3)-(ys-y3)) (h11 : p ∣ L*(ys+y3)-(xs*xs+xs*x3+x3*x3)) (h12 : p ∣ M*(x1-xt)-(y1-yt)) (h13 : p ∣ xs-x3) : p ∣ 4 * (y2*y3) * (x5-x7) :=
  dk (dc (L*M*l*x3 + M*M*l*x3 - 2*L*l*l*x3 - 2*M*l*l*x3 + 2*L*M*m*x3 - L*l*m*x3 - 2*M*l*m*x3 + 2*l*l*m*x3 - M*m*m*x3 + l*m*m*x3 + m*m*m*x3 - L*M*l*x2 - M*M*l*x2 + 2*L*l*l*x2 + 2*M*l*l*x2 - 2*L*M*m*x2 + L*l*m*x2 + 2*M*l*m*x2 - 2*l*l*m*x2 + M*m*m*x2 - l*m*m*x2 - m*m*m*x2 + L*x1*x3 + M*x1*x3 + 3*L*x3*x3 - 5*m*x3*x3 - 2*M*M*y2 + 2*L*l*y2 - 2*l*l*y2 + 2*L*m*y2 + 2*M*m*y2 - 2*l*m*y2 - 4*m*m*y2 - L*x1*x2 - M*x1*x2 - L*x3*x2 - M*x3*x2 + 4*m*x3*x2 - 2*L*x2*x2 - 2*M*x2*x2 + 4*m*x2*x2 + 4*x1*y2 - 4*x3*y2) h0 (dc (-4*x7*y2 + 4*x5*y2 + 2*L*M*l*x3 + M*l*l*x3 + L*M*m*x3 + M*M*m*x3 - M*l*m*x3 + l*l*m*x3 + L*m*m*x3 - M*m*m*x3 + l*m*m*x3 - 2*m*m*m*x3 - 2*L*M*l*x2 - M*l*l*x2 - L*M*m*x2 - M*M*m*x2 + M*l*m*x2 - l*l*m*x2 - L*m*m*x2 + M*m*m*x2 - l*m*m*x2 + 2*m*m*m*x2 - L*x1*x3 - M*x1*x3 - 2*L*x3*x3 + M*x3*x3 + 3*m*x3*x3 - 4*L*L*y2 + 2*M*M*y2 + 2*L*l*y2 + 2*l*l*y2 - 4*l*m*y2 - 2*m*m*y2 + L*x1*x2 + M*x1*x2 - L*x3*x2 - M*x3*x2 + 3*L*x2*x2 + 3*M*x2*x2 - 6*m*x2*x2 - 4*x1*y2 + 2*x3*y2 + 2*y2*x2) h1 (dc (-xs*M*l*x3 - xs*M*m*x3 - xs*l*m*x3 - xs*m*m*x3 + xs*M*l*x2 + xs*M*m*x2 + xs*l*m*x2 + xs*m*m*x2 + 2*xs*L*y2 - 2*xs*l*y2 + L*M*x1*x3 + M*M*x1*x3 - 2*L*l*x1*x3 - M*l*x1*x3 - L*m*x1*x3 - 2*M*m*x1*x3 + 3*l*m*x1*x3 + m*m*x1*x3 - L*M*x1*x2 - M*M*x1*x2 + 2*L*l*x1*x2 + M*l*x1*x2 + L*m*x1*x2 + 2*M*m*x1*x2 - 3*l*m*x1*x2 - m*m*x1*x2 - L*M*x3*x2 - M*M*x3*x2 + 2*L*l*x3*x2 + 2*M*l*x3*x2 + L*m*x3*x2 + 3*M*m*x3*x2 - 2*l*m*x3*x2 + L*M*x2*x2 + M*M*x2*x2 - 2*L*l*x2*x2 - 2*M*l*x2*x2 - L*m*x2*x2 - 3*M*m*x2*x2 + 2*l*m*x2*x2 - 4*m*x1*y2 - 4*L*x3*y2 - 4*M*x3*y2 + 4*m*x3*y2 + 2*L*y2*x2 + 4*M*y2*x2 + 2*l*y2*x2 - 4*y2*y2) h2 (dc (-M*l*l*x3 + 2*L*M*m*x3 - l*l*m*x3 - M*m*m*x3 + m*m*m*x3 + M*l*l*x2 - 2*L*M*m*x2 + l*l*m*x2 + M*m*m*x2 - m*m*m*x2 + L*x1*x3 + M*x1*x3 + 2*L*x3*x3 - M*x3*x3 - 3*m*x3*x3 - 2*M*M*y2 + 2*L*l*y2 - 2*l*l*y2 + 2*L*m*y2 + 2*M*m*y2 + 2*l*m*y2 - 4*m*m*y2 - L*x1*x2 - M*x1*x2 + L*x3*x2 + M*x3*x2 - 3*L*x2*x2 - 3*M*x2*x2 + 6*m*x2*x2 + 4*x1*y2 - 2*x3*y2 - 2*y2*x2) h3 (dc (-L*M*x3*x3 - M*M*x3*x3 - L*m*x3*x3 + M*m*x3*x3 + 2*m*m*x3*x3 + 2*L*M*x3*x2 + 2*M*M*x3*x2 + 2*L*m*x3*x2 - 2*M*m*x3*x2 - 4*m*m*x3*x2 - L*M*x2*x2 - M*M*x2*x2 - L*m*x2*x2 + M*m*x2*x2 + 2*m*m*x2*x2 + 2*M*x3*y2 + 6*m*x3*y2 - 2*M*y2*x2 - 6*m*y2*x2 + 4*y2*y2) h4 (dc (L*x3*x3 + M*x3*x3 - 2*m*x3*x3 - 2*L*x3*x2 - 2*M*x3*x2 + 4*m*x3*x2 + L*x2*x2 + M*x2*x2 - 2*m*x2*x2 - 2*x3*y2 + 2*y2*x2) h5 (dc (4*m*x3*y2 - 4*m*y2*x2 + 4*y2*y2) h6 (dc (-4*m*x3*y2 + 4*m*y2*x2 - 4*y2*y2) h7 (dc (L*M*x3 + M*M*x3 - 2*L*l*x3 - M*l*x3 - L*m*x3 - 2*M*m*x3 + 3*l*m*x3 + m*m*x3 - L*M*x2 - M*M*x2 + 2*L*l*x2 + M*l*x2 + L*m*x2 + 2*M*m*x2 - 3*l*m*x2 - m*m*x2 - 4*m*y2) h8 (dc (-L*M*x3 - M*M*x3 + 2*L*l*x3 + M*l*x3 + L*m*x3 + 2*M*m*x3 - l*m*x3 + m*m*x3 + L*M*x2 + M*M*x2 - 2*L*l*x2 - M*l*x2 - L*m*x2 - 2*M*m*x2 + l*m*x2 - m*m*x2 - 2*L*y2 - 2*M*y2 + 2*l*y2 + 6*m*y2) h9 (dc (-L*M*l*x3 - M*l*l*x3 + L*M*m*x3 - L*l*m*x3 - l*l*m*x3 - L*m*m*x3 - M*m*m*x3 + m*m*m*x3 + L*M*l*x2 + M*l*l*x2 - L*M*m*x2 + L*l*m*x2 + l*l*m*x2 + L*m*m*x2 + M*m*m*x2 - m*m*m*x2 + L*x1*x3 + M*x1*x3 + 2*L*x3*x3 - M*x3*x3 - 3*m*x3*x3 + 2*L*L*y2 - 2*M*M*y2 - 2*l*l*y2 + 2*L*m*y2 + 2*M*m*y2 + 2*l*m*y2 - 4*m*m*y2 - L*x1*x2 - M*x1*x2 + L*x3*x2 + M*x3*x2 - 3*L*x2*x2 - 3*M*x2*x2 + 6*m*x2*x2 + 4*x1*y2 - 2*x3*y2 - 2*y2*x2) h10 (dc (-M*l*x3 - M*m*x3 - l*m*x3 - m*m*x3 + M*l*x2 + M*m*x2 + l*m*x2 + m*m*x2 + 2*L*y2 - 2*l*y2) h11 (dc (-L*x3*x3 - M*x3*x3 + 2*m*x3*x3 + 2*L*x3*x2 + 2*M*x3*x2 - 4*m*x3*x2 - L*x2*x2 - M*x2*x2 + 2*m*x2*x2 + 2*x3*y2 - 2*y2*x2) h12 (dc (L*L*M*l*x3 + L*M*l*l*x3 - L*L*M*m*x3 + L*L*l*m*x3 - 2*L*M*l*m*x3 + L*l*l*m*x3 - M*l*l*m*x3 + L*L*m*m*x3 + L*M*m*m*x3 + M*l*m*m*x3 - l*l*m*m*x3 - L*m*m*m*x3 - l*m*m*m*x3 - L*L*M*l*x2 - L*M*l*l*x2 + L*L*M*m*x2 - L*L*l*m*x2 + 2*L*M*l*m*x2 - L*l*l*m*x2 + M*l*l*m*x2 - L*L*m*m*x2 - L*M*m*m*x2 - M*l*m*m*x2 + l*l*m*m*x2 + L*m*m*m*x2 + l*m*m*m*x2 - L*L*x1*x3 - 2*L*M*x1*x3 - M*M*x1*x3 + L*l*x1*x3 + M*l*x1*x3 + L*m*x1*x3 + 3*M*m*x1*x3 - 2*l*m*x1*x3 - 2*L*L*x3*x3 + L*M*x3*x3 - 2*L*l*x3*x3 + 3*L*m*x3*x3 - M*m*x3*x3 + 2*l*m*x3*x3 - m*m*x3*x3 - 2*L*L*L*y2 + 2*L*M*M*y2 + 2*M*M*l*y2 + 2*L*l*l*y2 - 2*L*L*m*y2 - 2*L*M*m*y2 - 4*L*l*m*y2 - 2*M*l*m*y2 - 2*l*l*m*y2 + 4*L*m*m*y2 + 4*l*m*m*y2 + L*L*x1*x2 + 2*L*M*x1*x2 + M*M*x1*x2 - L*l*x1*x2 - M*l*x1*x2 - L*m*x1*x2 - 3*M*m*x1*x2 + 2*l*m*x1*x2 - L*L*x3*x2 + M*M*x3*x2 - 3*L*l*x3*x2 - M*l*x3*x2 - L*m*x3*x2 - M*m*x3*x2 + 4*l*m*x3*x2 + 2*m*m*x3*x2 + 3*L*L*x2*x2 + 2*L*M*x2*x2 - M*M*x2*x2 + 5*L*l*x2*x2 + 4*M*l*x2*x2 - 5*L*m*x2*x2 + 2*M*m*x2*x2 - 9*l*m*x2*x2 - m*m*x2*x2 - 6*L*x1*y2 - 2*l*x1*y2 + 4*m*x1*y2 + 8*L*x3*y2 + 4*M*x3*y2 - 8*m*x3*y2 - 2*L*y2*x2 - 4*M*y2*x2 + 2*l*y2*x2 + 4*m*y2*x2) h13 (dz p))))))))))))))) (by clear h0 h1 h2 h3 h4 h5 h6 h7 h8 h9 h10 h11 h12 h13; grind)
theorem atm {p y7 x7 y5 x5 yt xt ys xs y1 y3 L M l m x1 x3 y2 x2 : Int} (h0 : p ∣ l*(x1-x2)-(y1-y2)) (h1 : p ∣ m*(x2-x3)-(y2-y3)) (h2 : p ∣ xs-(l*l-x1-x2)) (h3 : p ∣ ys-(l*(x1-xs)-y1)) (h4 : p ∣ xt-(m*m-x2-x3)) (h5 : p ∣ yt-(m*(x2-xt)-y2)) (h6 : p ∣ y5-(L*(xs-x5)-ys)) (h7 : p ∣ x7-(M*M-x1-xt)) (h8 : p ∣ y7-(M*(x1-x7)-y1)) (h9 : p ∣ l*(y1+y2)-(x1*x1+x1*x2+x2*x2)) (h10 : p ∣ m*(y2+y3)-(x2*x2+x2*x3+x3*x3)) (h11 : p ∣ L*(xs-x3)-(ys-y3)) (h12 : p ∣ L*(ys+y3)-(xs*xs+xs*x3+x3*x3)) (h13 : p ∣ M*(x1-xt)-(y1-yt)) (h14 : p ∣ xs-x3) (h15 : p ∣ x5-x7) : p ∣ 4 * (y2*y3) * (y5-y7) :=
  dk (dc (-M*M*M*l*x3 + M*M*l*l*x3 + 2*L*M*l*m*x3 + 2*M*M*l*m*x3 - 4*L*l*l*m*x3 - 4*M*l*l*m*x3 + 4*L*M*m*m*x3 - 2*L*l*m*m*x3 - 2*M*l*m*m*x3 + 2*l*l*m*m*x3 - 2*M*m*m*m*x3 + 2*l*m*m*m*x3 + 2*m*m*m*m*x3 + M*M*M*l*x2 - M*M*l*l*x2 - 2*L*M*l*m*x2 - 2*M*M*l*m*x2 + 4*L*l*l*m*x2 + 4*M*l*l*m*x2 - 4*L*M*m*m*x2 + 2*L*l*m*m*x2 + 2*M*l*m*m*x2 - 2*l*l*m*m*x2 + 2*M*m*m*m*x2 - 2*l*m*m*m*x2 - 2*m*m*m*m*x2 + 2*L*m*x1*x3 + 2*M*m*x1*x3 - M*M*x3*x3 - 2*M*l*x3*x3 + 2*l*l*x3*x3 + 6*L*m*x3*x3 - 8*m*m*x3*x3 + 2*M*M*M*y2 + 2*L*M*l*y2 + 4*L*l*l*y2 + 4*L*M*m*y2 - 2*M*M*m*y2 + 6*L*l*m*y2 - 2*M*l*m*y2 - 4*l*l*m*y2 + 8*L*m*m*y2 - 2*M*m*m*y2 - 6*l*m*m*y2 - 8*m*m*m*y2 - 2*L*m*x1*x2 - 2*M*m*x1*x2 + 2*M*M*x3*x2 + M*l*x3*x2 - l*l*x3*x2 - 2*L*m*x3*x2 - 2*M*m*x3*x2 + 4*m*m*x3*x2 + 2*M*M*x2*x2 + 4*M*l*x2*x2 - l*l*x2*x2 - 4*L*m*x2*x2 - 4*M*m*x2*x2 + 3*l*m*x2*x2 + 4*m*m*x2*x2 - 2*x3*x3*x3 - 6*L*x1*y2 - 2*M*x1*y2 + 6*m*x1*y2 - 2*L*x3*y2 + 4*M*x3*y2 + 2*l*x3*y2 - 2*m*x3*y2 + 3*x3*x3*x2 - 4*L*y2*x2 + 4*M*y2*x2 - 2*l*y2*x2 + 8*m*y2*x2 - 3*x1*x2*x2 + 9*x3*x2*x2 + 2*x2*x2*x2 - 4*y2*y2) h0 (dc (-4*y7*y2 + 4*y5*y2 - M*M*M*m*x3 + 4*L*M*l*m*x3 + 2*M*l*l*m*x3 + 2*L*M*m*m*x3 + M*M*m*m*x3 - 2*M*l*m*m*x3 + 2*l*l*m*m*x3 + 2*L*m*m*m*x3 + 2*l*m*m*m*x3 - 2*m*m*m*m*x3 + M*M*M*m*x2 - 4*L*M*l*m*x2 - 2*M*l*l*m*x2 - 2*L*M*m*m*x2 - M*M*m*m*x2 + 2*M*l*m*m*x2 - 2*l*l*m*m*x2 - 2*L*m*m*m*x2 - 2*l*m*m*m*x2 + 2*m*m*m*m*x2 - 2*L*m*x1*x3 - 2*M*m*x1*x3 - 4*L*m*x3*x3 + 4*m*m*x3*x3 + 4*L*M*M*y2 - 2*M*M*M*y2 + 4*L*M*l*y2 + 2*M*M*l*y2 + 2*M*l*l*y2 + 2*L*M*m*y2 + 8*L*l*m*y2 - 2*M*l*m*y2 + 2*l*l*m*y2 - 2*L*m*m*y2 + 4*M*m*m*y2 - 8*l*m*m*y2 + 2*m*m*m*y2 + 2*L*m*x1*x2 + 2*M*m*x1*x2 - 2*L*m*x3*x2 - M*m*x3*x2 + m*m*x3*x2 - 3*M*M*x2*x2 + 6*L*m*x2*x2 + 10*M*m*x2*x2 - 2*m*m*x2*x2 - 2*L*x1*y2 + 2*M*x1*y2 - 4*l*x1*y2 - 4*m*x1*y2 + 8*L*x3*y2 - 2*M*x3*y2 + 2*l*x3*y2 - 12*m*x3*y2 + 6*L*y2*x2 - 6*M*y2*x2 + 2*l*y2*x2 - 2*m*y2*x2 + 3*x1*x2*x2 - 6*x3*x2*x2 - 6*x2*x2*x2) h1 (dc (-2*xs*M*l*m*x3 - 2*xs*M*m*m*x3 - 2*xs*l*m*m*x3 - 2*xs*m*m*m*x3 + 2*xs*M*l*m*x2 + 2*xs*M*m*m*x2 + 2*xs*l*m*m*x2 + 2*xs*m*m*m*x2 - 2*xs*M*M*y2 - 2*xs*M*l*y2 - 2*xs*M*m*y2 - 2*xs*l*m*y2 + 4*xs*x1*y2 - 2*xs*x3*y2 - 2*xs*y2*x2 - M*M*M*x1*x3 + M*M*l*x1*x3 + 2*L*M*m*x1*x3 + 2*M*M*m*x1*x3 - 4*L*l*m*x1*x3 - 2*M*l*m*x1*x3 - 2*L*m*m*x1*x3 - 2*M*m*m*x1*x3 + 4*l*m*m*x1*x3 + 2*m*m*m*x1*x3 + M*M*M*x1*x2 - M*M*l*x1*x2 - 2*L*M*m*x1*x2 - 2*M*M*m*x1*x2 + 4*L*l*m*x1*x2 + 2*M*l*m*x1*x2 + 2*L*m*m*x1*x2 + 2*M*m*m*x1*x2 - 4*l*m*m*x1*x2 - 2*m*m*m*x1*x2 + M*M*M*x3*x2 - M*M*l*x3*x2 - 2*L*M*m*x3*x2 - 2*M*M*m*x3*x2 + 4*L*l*m*x3*x2 + 4*M*l*m*x3*x2 + 2*L*m*m*x3*x2 + 4*M*m*m*x3*x2 - 2*l*m*m*x3*x2 - M*M*M*x2*x2 + M*M*l*x2*x2 + 2*L*M*m*x2*x2 + 2*M*M*m*x2*x2 - 4*L*l*m*x2*x2 - 4*M*l*m*x2*x2 - 2*L*m*m*x2*x2 - 4*M*m*m*x2*x2 + 2*l*m*m*x2*x2 - 2*M*x1*x3*x3 + 2*l*x1*x3*x3 + 2*L*M*x1*y2 + 2*M*M*x1*y2 + 4*L*l*x1*y2 + 2*M*l*x1*y2 + 6*L*m*x1*y2 - 2*M*m*x1*y2 - 2*l*m*x1*y2 - 8*m*m*x1*y2 + 2*M*M*x3*y2 - 8*L*m*x3*y2 - 8*M*m*x3*y2 + 4*m*m*x3*y2 + M*x1*x3*x2 - l*x1*x3*x2 + 2*M*x3*x3*x2 - 2*l*x3*x3*x2 - 2*L*M*y2*x2 - 2*M*M*y2*x2 - 4*L*l*y2*x2 + 2*L*m*y2*x2 + 12*M*m*y2*x2 + 4*l*m*y2*x2 + 4*m*m*y2*x2 + 4*M*x1*x2*x2 - l*x1*x2*x2 + 3*m*x1*x2*x2 - M*x3*x2*x2 + l*x3*x2*x2 - 4*M*x2*x2*x2 + l*x2*x2*x2 - 3*m*x2*x2*x2 - 4*x1*x1*y2 + 4*x1*x3*y2 + 4*x3*x3*y2 + 8*L*y2*y2 - 8*m*y2*y2 - 4*x3*y2*x2) h2 (dc (-2*M*l*l*m*x3 + 4*L*M*m*m*x3 - 2*l*l*m*m*x3 - 2*M*m*m*m*x3 + 2*m*m*m*m*x3 + 2*M*l*l*m*x2 - 4*L*M*m*m*x2 + 2*l*l*m*m*x2 + 2*M*m*m*m*x2 - 2*m*m*m*m*x2 + 2*L*m*x1*x3 + 2*M*m*x1*x3 + 4*L*m*x3*x3 - 2*M*m*x3*x3 - 6*m*m*x3*x3 + 2*M*M*M*y2 - 2*M*M*l*y2 - 2*M*l*l*y2 + 4*L*M*m*y2 - 2*M*M*m*y2 - 2*l*l*m*y2 + 8*L*m*m*y2 - 2*M*m*m*y2 + 2*l*m*m*y2 - 8*m*m*m*y2 - 2*L*m*x1*x2 - 2*M*m*x1*x2 + 2*L*m*x3*x2 + 2*M*m*x3*x2 + 3*M*M*x2*x2 - 6*L*m*x2*x2 - 6*M*m*x2*x2 + 6*m*m*x2*x2 - 6*L*x1*y2 - 2*M*x1*y2 + 4*l*x1*y2 + 6*m*x1*y2 - 4*L*x3*y2 + 2*M*x3*y2 - 2*l*x3*y2 + 4*m*x3*y2 - 2*L*y2*x2 + 6*M*y2*x2 - 2*l*y2*x2 + 2*m*y2*x2 - 3*x1*x2*x2 + 6*x3*x2*x2 + 6*x2*x2*x2 - 4*y2*y2) h3 (dc (M*M*M*x3*x3 - 2*L*M*m*x3*x3 - M*M*m*x3*x3 - 2*L*m*m*x3*x3 + 2*m*m*m*x3*x3 - 2*M*M*M*x3*x2 + 4*L*M*m*x3*x2 + 2*M*M*m*x3*x2 + 4*L*m*m*x3*x2 - 4*m*m*m*x3*x2 + M*M*M*x2*x2 - 2*L*M*m*x2*x2 - M*M*m*x2*x2 - 2*L*m*m*x2*x2 + 2*m*m*m*x2*x2 + 2*M*x3*x3*x3 + 2*m*x3*x3*x3 - 2*L*M*x3*y2 - 2*M*M*x3*y2 + 2*L*m*x3*y2 - 4*M*m*x3*y2 + 2*m*m*x3*y2 - 3*M*x3*x3*x2 - 3*m*x3*x3*x2 + 2*L*M*y2*x2 + 2*M*M*y2*x2 - 2*L*m*y2*x2 + 4*M*m*y2*x2 - 2*m*m*y2*x2 - 3*M*x3*x2*x2 - 3*m*x3*x2*x2 + 4*M*x2*x2*x2 + 4*m*x2*x2*x2 + 4*L*y2*y2 - 8*M*y2*y2 - 4*m*y2*y2) h4 (dc (-M*M*x3*x3 + 2*L*m*x3*x3 + 2*M*m*x3*x3 - 2*m*m*x3*x3 + 2*M*M*x3*x2 - 4*L*m*x3*x2 - 4*M*m*x3*x2 + 4*m*m*x3*x2 - M*M*x2*x2 + 2*L*m*x2*x2 + 2*M*m*x2*x2 - 2*m*m*x2*x2 - 2*x3*x3*x3 + 2*L*x3*y2 + 2*M*x3*y2 - 2*m*x3*y2 + 3*x3*x3*x2 - 2*L*y2*x2 - 2*M*y2*x2 + 2*m*y2*x2 + 3*x3*x2*x2 - 4*x2*x2*x2 + 4*y2*y2) h5 (dc (4*m*x3*y2 - 4*m*y2*x2 + 4*y2*y2) h6 (dc (-4*L*m*x3*y2 + 4*M*m*x3*y2 + 4*L*m*y2*x2 - 4*M*m*y2*x2 - 4*L*y2*y2 + 4*M*y2*y2) h7 (dc (-4*m*x3*y2 + 4*m*y2*x2 - 4*y2*y2) h8 (dc (-M*M*M*x3 + M*M*l*x3 + 2*L*M*m*x3 + 2*M*M*m*x3 - 4*L*l*m*x3 - 2*M*l*m*x3 - 2*L*m*m*x3 - 2*M*m*m*x3 + 4*l*m*m*x3 + 2*m*m*m*x3 + M*M*M*x2 - M*M*l*x2 - 2*L*M*m*x2 - 2*M*M*m*x2 + 4*L*l*m*x2 + 2*M*l*m*x2 + 2*L*m*m*x2 + 2*M*m*m*x2 - 4*l*m*m*x2 - 2*m*m*m*x2 - 2*M*x3*x3 + 2*l*x3*x3 + 2*L*M*y2 + 2*M*M*y2 + 4*L*l*y2 + 2*M*l*y2 + 6*L*m*y2 - 2*M*m*y2 - 2*l*m*y2 - 8*m*m*y2 + M*x3*x2 - l*x3*x2 + 4*M*x2*x2 - l*x2*x2 + 3*m*x2*x2 - 4*x1*y2 + 4*x3*y2) h9 (dc (M*M*M*x3 - 2*L*M*m*x3 - M*M*m*x3 + 4*L*l*m*x3 + 2*M*l*m*x3 + 2*L*m*m*x3 + 2*M*m*m*x3 - 2*l*m*m*x3 - M*M*M*x2 + 2*L*M*m*x2 + M*M*m*x2 - 4*L*l*m*x2 - 2*M*l*m*x2 - 2*L*m*m*x2 - 2*M*m*m*x2 + 2*l*m*m*x2 + 2*M*x3*x3 + 2*m*x3*x3 - 2*L*M*y2 + 2*M*M*y2 - 4*L*l*y2 + 2*M*l*y2 - 6*L*m*y2 - 2*M*m*y2 + 6*l*m*y2 + 6*m*m*y2 - M*x3*x2 - m*x3*x2 - 4*M*x2*x2 - 4*m*x2*x2 - 2*x1*y2 + 4*x3*y2 + 4*y2*x2) h10 (dc (-2*L*M*l*m*x3 - 2*M*l*l*m*x3 + 2*L*M*m*m*x3 - 2*L*l*m*m*x3 - 2*l*l*m*m*x3 - 2*L*m*m*m*x3 - 2*M*m*m*m*x3 + 2*m*m*m*m*x3 + 2*L*M*l*m*x2 + 2*M*l*l*m*x2 - 2*L*M*m*m*x2 + 2*L*l*m*m*x2 + 2*l*l*m*m*x2 + 2*L*m*m*m*x2 + 2*M*m*m*m*x2 - 2*m*m*m*m*x2 + 2*L*m*x1*x3 + 2*M*m*x1*x3 + 4*L*m*x3*x3 - 2*M*m*x3*x3 - 6*m*m*x3*x3 - 2*L*M*M*y2 + 2*M*M*M*y2 - 2*L*M*l*y2 - 2*M*M*l*y2 - 2*M*l*l*y2 + 2*L*M*m*y2 - 2*M*M*m*y2 - 2*L*l*m*y2 - 2*l*l*m*y2 + 8*L*m*m*y2 - 2*M*m*m*y2 + 2*l*m*m*y2 - 8*m*m*m*y2 - 2*L*m*x1*x2 - 2*M*m*x1*x2 + 2*L*m*x3*x2 + 2*M*m*x3*x2 + 3*M*M*x2*x2 - 6*L*m*x2*x2 - 6*M*m*x2*x2 + 6*m*m*x2*x2 - 2*L*x1*y2 - 2*M*x1*y2 + 4*l*x1*y2 + 6*m*x1*y2 - 6*L*x3*y2 + 2*M*x3*y2 - 2*l*x3*y2 + 8*m*x3*y2 - 4*L*y2*x2 + 6*M*y2*x2 - 2*l*y2*x2 - 2*m*y2*x2 - 3*x1*x2*x2 + 6*x3*x2*x2 + 6*x2*x2*x2) h11 (dc (-2*M*l*m*x3 - 2*M*m*m*x3 - 2*l*m*m*x3 - 2*m*m*m*x3 + 2*M*l*m*x2 + 2*M*m*m*x2 + 2*l*m*m*x2 + 2*m*m*m*x2 - 2*M*M*y2 - 2*M*l*y2 - 2*M*m*y2 - 2*l*m*y2 + 4*x1*y2 - 2*x3*y2 - 2*y2*x2) h12 (dc (M*M*x3*x3 - 2*L*m*x3*x3 - 2*M*m*x3*x3 + 2*m*m*x3*x3 - 2*M*M*x3*x2 + 4*L*m*x3*x2 + 4*M*m*x3*x2 - 4*m*m*x3*x2 + M*M*x2*x2 - 2*L*m*x2*x2 - 2*M*m*x2*x2 + 2*m*m*x2*x2 + 2*x3*x3*x3 - 2*L*x3*y2 - 2*M*x3*y2 + 2*m*x3*y2 - 3*x3*x3*x2 + 2*L*y2*x2 + 2*M*y2*x2 - 2*m*y2*x2 - 3*x3*x2*x2 + 4*x2*x2*x2 - 4*y2*y2) h13 (dc (2*L*L*M*l*m*x3 + 2*L*M*l*l*m*x3 - 2*L*L*M*m*m*x3 + 2*L*L*l*m*m*x3 - 4*L*M*l*m*m*x3 + 2*L*l*l*m*m*x3 - 2*M*l*l*m*m*x3 + 2*L*L*m*m*m*x3 + 2*L*M*m*m*m*x3 + 2*M*l*m*m*m*x3 - 2*l*l*m*m*m*x3 - 2*L*m*m*m*m*x3 - 2*l*m*m*m*m*x3 - 2*L*L*M*l*m*x2 - 2*L*M*l*l*m*x2 + 2*L*L*M*m*m*x2 - 2*L*L*l*m*m*x2 + 4*L*M*l*m*m*x2 - 2*L*l*l*m*m*x2 + 2*M*l*l*m*m*x2 - 2*L*L*m*m*m*x2 - 2*L*M*m*m*m*x2 - 2*M*l*m*m*m*x2 + 2*l*l*m*m*m*x2 + 2*L*m*m*m*m*x2 + 2*l*m*m*m*m*x2 + M*M*M*x1*x3 - M*M*l*x1*x3 - 2*L*L*m*x1*x3 - 4*L*M*m*x1*x3 - 2*M*M*m*x1*x3 + 2*L*l*m*x1*x3 + 2*M*l*m*x1*x3 + 2*L*m*m*x1*x3 + 4*M*m*m*x1*x3 - 2*l*m*m*x1*x3 - 4*L*L*m*x3*x3 + 2*L*M*m*x3*x3 - 4*L*l*m*x3*x3 + 6*L*m*m*x3*x3 - 2*M*m*m*x3*x3 + 4*l*m*m*x3*x3 - 2*m*m*m*x3*x3 + 2*L*L*M*M*y2 - 2*L*M*M*M*y2 + 2*L*L*M*l*y2 + 2*L*M*M*l*y2 - 2*M*M*M*l*y2 + 2*L*M*l*l*y2 - 2*L*L*M*m*y2 + 2*L*M*M*m*y2 + 2*L*L*l*m*y2 - 4*L*M*l*m*y2 + 2*M*M*l*m*y2 + 2*L*l*l*m*y2 - 2*M*l*l*m*y2 - 8*L*L*m*m*y2 + 2*L*M*m*m*y2 - 10*L*l*m*m*y2 + 2*M*l*m*m*y2 - 2*l*l*m*m*y2 + 8*L*m*m*m*y2 + 8*l*m*m*m*y2 - M*M*M*x1*x2 + M*M*l*x1*x2 + 2*L*L*m*x1*x2 + 4*L*M*m*x1*x2 + 2*M*M*m*x1*x2 - 2*L*l*m*x1*x2 - 2*M*l*m*x1*x2 - 2*L*m*m*x1*x2 - 4*M*m*m*x1*x2 + 2*l*m*m*x1*x2 - M*M*M*x3*x2 + M*M*l*x3*x2 - 2*L*L*m*x3*x2 + 2*M*M*m*x3*x2 - 6*L*l*m*x3*x2 - 2*M*l*m*x3*x2 - 2*L*m*m*x3*x2 + 6*l*m*m*x3*x2 + 4*m*m*m*x3*x2 - 3*L*M*M*x2*x2 + M*M*M*x2*x2 - 4*M*M*l*x2*x2 + 6*L*L*m*x2*x2 + 4*L*M*m*x2*x2 - 2*M*M*m*x2*x2 + 10*L*l*m*x2*x2 + 8*M*l*m*x2*x2 - 4*L*m*m*x2*x2 + 2*M*m*m*x2*x2 - 10*l*m*m*x2*x2 - 2*m*m*m*x2*x2 + 2*M*x1*x3*x3 - 2*l*x1*x3*x3 + 2*L*L*x1*y2 - 2*L*l*x1*y2 + 2*M*l*x1*y2 - 12*L*m*x1*y2 + 4*M*m*x1*y2 - 2*l*m*x1*y2 + 8*m*m*x1*y2 + 6*L*L*x3*y2 - 2*L*M*x3*y2 - 4*M*M*x3*y2 + 6*L*l*x3*y2 - 4*M*l*x3*y2 + 4*L*m*x3*y2 + 6*M*m*x3*y2 - 6*l*m*x3*y2 - 4*m*m*x3*y2 - M*x1*x3*x2 + l*x1*x3*x2 - 2*M*x3*x3*x2 + 2*l*x3*x3*x2 + 4*L*L*y2*x2 - 4*L*M*y2*x2 + 4*M*M*y2*x2 + 8*L*l*y2*x2 - 4*M*l*y2*x2 - 4*L*m*y2*x2 - 10*M*m*y2*x2 - 4*l*m*y2*x2 - 4*m*m*y2*x2 + 3*L*x1*x2*x2 - 4*M*x1*x2*x2 + 4*l*x1*x2*x2 - 3*m*x1*x2*x2 - 6*L*x3*x2*x2 + M*x3*x2*x2 - 7*l*x3*x2*x2 - 6*L*x2*x2*x2 + 4*M*x2*x2*x2 - 7*l*x2*x2*x2 + 3*m*x2*x2*x2 + 2*x1*x3*y2 - 6*x3*x3*y2 - 4*L*y2*y2 + 4*l*y2*y2 + 8*m*y2*y2 - 2*x1*y2*x2 + 4*x3*y2*x2 + 2*y2*x2*x2) h14 (dc (-4*L*m*x3*y2 + 4*L*m*y2*x2 - 4*L*y2*y2) h15 (dz p))))))))))))))))) (by clear h0 h1 h2 h3 h4 h5 h6 h7 h8 h9 h10 h11 h12 h13 h14 h15; grind)
end Go.Proofs.YtohjofabochgfaaGreat

namespace Go.Proofs.YtohjofabochgfaaGreat
theorem Pr.dR {p : Nat} (h : Pr p) {a b : Int} (hd : (p : Int) ∣ a * b) : (p : Int) ∣ a ∨ (p : Int) ∣ b := by
  rw [Int.ofNat_dvd_left, Int.natAbs_mul] at hd
  rcases h.YA hd with h1 | h1
  · exact .inl (Int.ofNat_dvd_left.2 h1)
  · exact .inr (Int.ofNat_dvd_left.2 h1)
def nm (p : Nat) (z : Int) : Nat := (z % (p : Int)).toNat
theorem afT {p : Nat} (hp : 0 < p) (z : Int) : ((nm p z : Nat) : Int) = z % (p : Int) := by
  unfold nm
  have := Int.emod_nonneg z (show (p : Int) ≠ 0 by omega)
  omega
theorem nO {p : Nat} (hp : 0 < p) (z : Int) : (p : Int) ∣ ((nm p z : Nat) : Int) - z := by
  rw [afT hp]
  have := Int.emod_add_mul_ediv z p
  exact ⟨-(z / p), by grind⟩
theorem Dg {p : Nat} (hp : 0 < p) (z : Int) : nm p z < p := by
  have h := afT hp z
  have := Int.emod_lt_of_pos z (show (0 : Int) < p by omega)
  omega
theorem fJ {p a b : Nat} (ha : a < p) (hb : b < p) (h : (p : Int) ∣ (a : Int) - (b : Int)) : a = b := by
  obtain ⟨k, hk⟩ := h
  have hpk : (p : Int) * k < p * 1 ∧ (p : Int) * (-1) < p * k := by constructor <;> omega
  have h1 := Int.lt_of_mul_lt_mul_left hpk.1 (by omega)
  have h2 := Int.lt_of_mul_lt_mul_left hpk.2 (by omega)
  have : k = 0 := by omega
  subst this
  omega
theorem afS {p a : Nat} {z : Int} (ha : a < p) (h : (p : Int) ∣ (a : Int) - z) : nm p z = a := by
  have hp : 0 < p := by omega
  refine fJ (Dg hp z) ha ?_
  obtain ⟨k, hk⟩ := h
  obtain ⟨k2, h2⟩ := nO hp z
  exact ⟨k2 - k, by grind⟩
def arw (p : Nat) (a : Int) : Int := ((nm p a ^ (p - 2) : Nat) : Int)
theorem agr {p : Nat} (h : Pr p) {a : Int} (ha : ¬ (p : Int) ∣ a) : (p : Int) ∣ a * arw p a - 1 := by
  have hp := h.pos
  have h2 := h.1
  obtain ⟨k, hk⟩ := nO hp a
  have hn : ¬ p ∣ nm p a := fun hd => by
    obtain ⟨c, hc⟩ := Int.natCast_dvd_natCast.2 hd
    exact ha ⟨c - k, by grind⟩
  have hf := Ys h hn
  have e : nm p a ^ (p - 1) = nm p a * nm p a ^ (p - 2) := by
    rw [show p - 1 = (p - 2) + 1 by omega, Nat.pow_succ, Nat.mul_comm]
  rw [e] at hf
  have hd := Nat.div_add_mod (nm p a * nm p a ^ (p - 2)) p
  rw [hf] at hd
  unfold arw
  generalize nm p a ^ (p - 2) = i at *
  have hd2 : ((p : Nat) : Int) * ((nm p a * i / p : Nat) : Int) + 1 = (nm p a : Int) * (i : Int) := by
    have := congrArg (fun n : Nat => (n : Int)) hd
    simp only [Int.natCast_add, Int.natCast_mul] at this
    exact this
  exact ⟨((nm p a * i / p : Nat) : Int) - k * i, by grind⟩
structure Cur (p b : Nat) : Prop where
  pr : Pr p
  big : 5 ≤ p
  n2 : ∀ x : Int, ¬ (p : Int) ∣ x * x * x + b
theorem Cur.pos {p b : Nat} (c : Cur p b) : 0 < p := c.pr.pos
theorem Cur.no2 {p b : Nat} (c : Cur p b) : ¬ (p : Int) ∣ 2 := fun h => by
  have := Int.le_of_dvd (by decide) h
  have := c.big
  omega
theorem Cur.no4 {p b : Nat} (c : Cur p b) : ¬ (p : Int) ∣ 4 := fun h => by
  have := Int.le_of_dvd (by decide) h
  have := c.big
  omega
abbrev Cv (p b : Nat) (x y : Int) : Prop := (p : Int) ∣ y * y - x * x * x - b
theorem Cur.yne {p b : Nat} (c : Cur p b) {x y : Int} (h : Cv p b x y) : ¬ (p : Int) ∣ y := fun hy => by
  obtain ⟨k, hk⟩ := h
  obtain ⟨m, hm⟩ := hy
  exact c.n2 x ⟨m * y - k, by grind⟩
abbrev PtQ : Type := Option (Nat × Nat)
def OnQ (p b : Nat) : PtQ → Prop
  | none => True
  | some P => P.1 < p ∧ P.2 < p ∧ Cv p b P.1 P.2
structure Lin (p : Nat) (x1 y1 x2 y2 l : Int) : Prop where
  a : (p : Int) ∣ l * (x1 - x2) - (y1 - y2)
  b : (p : Int) ∣ l * (y1 + y2) - (x1 * x1 + x1 * x2 + x2 * x2)
structure Thd (p : Nat) (x1 y1 x2 l x3 y3 : Int) : Prop where
  x : (p : Int) ∣ x3 - (l * l - x1 - x2)
  y : (p : Int) ∣ y3 - (l * (x1 - x3) - y1)
def nL (p : Nat) (P R : Nat × Nat) : Int := if P.1 = R.1 then 3 * P.1 * P.1 * arw p (P.2 + P.2) else ((R.2 : Int) - P.2) * arw p ((R.1 : Int) - P.1)
def rY (p : Nat) (P R : Nat × Nat) (l : Int) : Nat × Nat := (nm p (l * l - P.1 - R.1), nm p (l * (P.1 - nm p (l * l - P.1 - R.1)) - P.2))
def cP (p : Nat) : PtQ → PtQ → PtQ
  | none, R => R
  | some P, none => some P
  | some P, some R => if P.1 = R.1 ∧ P.2 ≠ R.2 then none else some (rY p P R (nL p P R))
def J8 (p : Nat) : PtQ → PtQ
  | none => none
  | some P => some (P.1, nm p (-P.2))
variable {p b : Nat}
theorem Mm (c : Cur p b) {P R : Nat × Nat} (hP : OnQ p b (some P)) (hR : OnQ p b (some R)) (h : ¬(P.1 = R.1 ∧ P.2 ≠ R.2)) : Lin p P.1 P.2 R.1 R.2 (nL p P R) := by
  obtain ⟨x1, y1⟩ := P
  obtain ⟨x2, y2⟩ := R
  obtain ⟨hx1, hy1, hc1⟩ := hP
  obtain ⟨hx2, hy2, hc2⟩ := hR
  dsimp only at *
  unfold nL
  dsimp only
  by_cases e : x1 = x2
  · have e2 : y1 = y2 := Classical.byContradiction fun h2 => h ⟨e, h2⟩
    subst e e2
    rw [if_pos rfl]
    have hn : ¬ (p : Int) ∣ (y1 : Int) + y1 := fun hd => by
      rw [← Int.two_mul] at hd
      rcases c.pr.dR hd with h1 | h1
      · exact c.no2 h1
      · exact c.yne hc1 h1
    obtain ⟨k, hk⟩ := agr c.pr hn
    generalize arw p ((y1 : Int) + y1) = i at *
    exact ⟨⟨0, by grind⟩, ⟨3 * x1 * x1 * k, by grind⟩⟩
  · rw [if_neg e]
    have hn : ¬ (p : Int) ∣ (x2 : Int) - x1 := fun hd => e (fJ hx2 hx1 hd).symm
    have hn' : ¬ (p : Int) ∣ (x1 : Int) - x2 := fun ⟨k, hk⟩ => hn ⟨-k, by grind⟩
    obtain ⟨k, hk⟩ := agr c.pr hn
    generalize arw p ((x2 : Int) - x1) = i at *
    have ha : (p : Int) ∣ ((y2 : Int) - y1) * i * ((x1 : Int) - x2) - (y1 - y2) := ⟨(y1 - y2) * k, by grind⟩
    refine ⟨ha, ?_⟩
    have hc1' : (p : Int) ∣ (y1 : Int) * y1 - x1 * x1 * x1 - b := hc1
    have hc2' : (p : Int) ∣ (y2 : Int) * y2 - x2 * x2 * x2 - b := hc2
    rcases c.pr.dR (ahL hc1' hc2' ha) with h1 | h1
    · exact absurd h1 hn'
    · exact h1
theorem al6 (c : Cur p b) {x1 y1 x2 y2 l m : Int} (hy : ¬ (p : Int) ∣ y1) (h1 : Lin p x1 y1 x2 y2 l) (h2 : Lin p x1 y1 x2 y2 m) : (p : Int) ∣ l - m := by
  obtain ⟨k1, e1⟩ := h1.a
  obtain ⟨k2, e2⟩ := h2.a
  obtain ⟨k3, e3⟩ := h1.b
  obtain ⟨k4, e4⟩ := h2.b
  rcases c.pr.dR (a := l - m) (b := x1 - x2) ⟨k1 - k2, by grind⟩ with h | h
  · exact h
  · rcases c.pr.dR (a := l - m) (b := y1 + y2) ⟨k3 - k4, by grind⟩ with h' | h'
    · exact h'
    · obtain ⟨m1, f1⟩ := h
      obtain ⟨m2, f2⟩ := h'
      rcases c.pr.dR (a := 2) (b := y1) ⟨l * m1 - k1 + m2, by grind⟩ with h3 | h3
      · exact absurd h3 c.no2
      · exact absurd h3 hy
theorem WB (c : Cur p b) {P R S : Nat × Nat} {l : Int} (hP : OnQ p b (some P)) (hR : OnQ p b (some R)) (hl : Lin p P.1 P.2 R.1 R.2 l) (hS1 : S.1 < p) (hS2 : S.2 < p)
    (ht : Thd p P.1 P.2 R.1 l S.1 S.2) : cP p (some P) (some R) = some S := by
  have hn : ¬(P.1 = R.1 ∧ P.2 ≠ R.2) := fun ⟨e1, e2⟩ => by
    obtain ⟨k, hk⟩ := hl.a
    rw [e1] at hk
    exact e2 (fJ hP.2.1 hR.2.1 ⟨-k, by grind⟩)
  have hs := Mm c hP hR hn
  obtain ⟨k, hk⟩ := al6 c (c.yne hP.2.2) hs hl
  have : cP p (some P) (some R) = some (rY p P R (nL p P R)) := if_neg hn
  rw [this]
  congr 1
  generalize nL p P R = s at *
  obtain ⟨k1, h1⟩ := ht.x
  obtain ⟨k2, h2⟩ := ht.y
  have ex : nm p (s * s - P.1 - R.1) = S.1 := afS hS1 ⟨k1 - k * (s + l), by grind⟩
  unfold rY
  rw [ex]
  have ey : nm p (s * ((P.1 : Int) - S.1) - P.2) = S.2 := afS hS2 ⟨k2 - k * (P.1 - S.1), by grind⟩
  rw [ey]
theorem kU (c : Cur p b) {P R S : Nat × Nat} (hP : OnQ p b (some P)) (hR : OnQ p b (some R)) (h : cP p (some P) (some R) = some S) :
    S.1 < p ∧ S.2 < p ∧ ∃ l, Lin p P.1 P.2 R.1 R.2 l ∧ Thd p P.1 P.2 R.1 l S.1 S.2 := by
  by_cases hn : P.1 = R.1 ∧ P.2 ≠ R.2
  · have : cP p (some P) (some R) = none := if_pos hn
    rw [this] at h
    cases h
  · have hs := Mm c hP hR hn
    have : cP p (some P) (some R) = some (rY p P R (nL p P R)) := if_neg hn
    rw [this] at h
    cases h
    exact ⟨Dg c.pos _, Dg c.pos _, _, hs, nO c.pos _, nO c.pos _⟩
theorem Ad (c : Cur p b) {P : PtQ} (h : OnQ p b P) : OnQ p b (J8 p P) := by
  cases P with
  | none => trivial
  | some P =>
    obtain ⟨k, hk⟩ := nO c.pos (-(P.2 : Int))
    obtain ⟨m, hm⟩ := h.2.2
    exact ⟨h.1, Dg c.pos _, ⟨m + k * ((nm p (-(P.2 : Int)) : Int) - P.2), by show ((nm p (-(P.2 : Int)) : Nat) : Int) * (nm p (-(P.2 : Int)) : Nat) - (P.1 : Int) * P.1 * P.1 - b = _; grind⟩⟩
theorem fS (c : Cur p b) {P R : PtQ} (hP : OnQ p b P) (hR : OnQ p b R) : OnQ p b (cP p P R) := by
  cases P with
  | none => exact hR
  | some P =>
    cases R with
    | none => exact hP
    | some R =>
      cases h : cP p (some P) (some R) with
      | none => trivial
      | some S =>
        obtain ⟨h1, h2, l, hl, ht⟩ := kU c hP hR h
        exact ⟨h1, h2, arV ht.y ht.x hl.a hl.b hP.2.2⟩
theorem afO (c : Cur p b) {P R : Nat × Nat} (hP : OnQ p b (some P)) (hR : OnQ p b (some R)) (h : P.1 = R.1 ∧ P.2 ≠ R.2) : some R = J8 p (some P) := by
  obtain ⟨x1, y1⟩ := P
  obtain ⟨x2, y2⟩ := R
  obtain ⟨hx1, hy1, hc1⟩ := hP
  obtain ⟨hx2, hy2, hc2⟩ := hR
  dsimp only at *
  obtain ⟨rfl, hne⟩ := h
  obtain ⟨k1, e1⟩ := hc1
  obtain ⟨k2, e2⟩ := hc2
  rcases c.pr.dR (a := (y1 : Int) - y2) (b := (y1 : Int) + y2) ⟨k1 - k2, by grind⟩ with h | h
  · exact absurd (fJ hy1 hy2 h) hne
  · obtain ⟨k, hk⟩ := h
    have : nm p (-(y1 : Int)) = y2 := afS hy2 ⟨k, by grind⟩
    show _ = some (x1, nm p (-(y1 : Int)))
    rw [this]
theorem bX (P : PtQ) : cP p P none = P := by cases P <;> rfl
theorem XB (P : PtQ) : cP p none P = P := rfl
theorem add_neg (c : Cur p b) {P : PtQ} (hP : OnQ p b P) : cP p P (J8 p P) = none := by
  cases P with
  | none => rfl
  | some P =>
    refine if_pos ⟨rfl, fun e => ?_⟩
    have e : P.2 = nm p (-(P.2 : Int)) := e
    obtain ⟨k, hk⟩ := nO c.pos (-(P.2 : Int))
    rw [← e] at hk
    rcases c.pr.dR (a := 2) (b := (P.2 : Int)) ⟨k, by grind⟩ with h | h
    · exact c.no2 h
    · exact c.yne hP.2.2 h
theorem neg_neg (c : Cur p b) {P : PtQ} (hP : OnQ p b P) : J8 p (J8 p P) = P := by
  cases P with
  | none => rfl
  | some P =>
    obtain ⟨k, hk⟩ := nO c.pos (-(P.2 : Int))
    have : nm p (-((nm p (-(P.2 : Int)) : Nat) : Int)) = P.2 := afS hP.2.1 ⟨k, by grind⟩
    show some (P.1, nm p (-((nm p (-(P.2 : Int)) : Nat) : Int))) = _
    rw [this]
theorem add_comm (c : Cur p b) {P R : PtQ} (hP : OnQ p b P) (hR : OnQ p b R) : cP p P R = cP p R P := by
  cases P with
  | none => exact (bX R).symm
  | some P =>
    cases R with
    | none => rfl
    | some R =>
      cases h : cP p (some P) (some R) with
      | none =>
        by_cases hn : P.1 = R.1 ∧ P.2 ≠ R.2
        · exact (if_pos ⟨hn.1.symm, fun e => hn.2 e.symm⟩).symm
        · have : cP p (some P) (some R) = some (rY p P R (nL p P R)) := if_neg hn
          rw [this] at h
          cases h
      | some S =>
        obtain ⟨h1, h2, l, hl, ht⟩ := kU c hP hR h
        obtain ⟨k1, e1⟩ := hl.a
        obtain ⟨k2, e2⟩ := hl.b
        obtain ⟨k3, e3⟩ := ht.x
        exact (WB c hR hP (l := l) ⟨⟨-k1, by grind⟩, ⟨k2, by grind⟩⟩ h1 h2 ⟨⟨k3, by grind⟩, an6 ht.y hl.a⟩).symm
theorem atU {p l x1 x2 y1 y2 z1 z2 k2 k5 k6 : Int} (e2 : l * (y1 + y2) - (x1 * x1 + x1 * x2 + x2 * x2) = p * k2) (e5 : z1 - -y1 = p * k5) (e6 : z2 - -y2 = p * k6) :
    -l * (z1 + z2) - (x1 * x1 + x1 * x2 + x2 * x2) = p * (k2 - l * (k5 + k6)) := by grind
theorem ati {p l x1 x3 y1 y3 z1 k2 k5 : Int} (e2 : -l * (-y1 + y3) - (x1 * x1 + x1 * x3 + x3 * x3) = p * k2) (e5 : z1 - -y1 = p * k5) :
    -l * (z1 + y3) - (x1 * x1 + x1 * x3 + x3 * x3) = p * (k2 - l * k5) := by grind
theorem neg_add (c : Cur p b) {P R : PtQ} (hP : OnQ p b P) (hR : OnQ p b R) : J8 p (cP p P R) = cP p (J8 p P) (J8 p R) := by
  cases P with
  | none => rfl
  | some P =>
    cases R with
    | none => rfl
    | some R =>
      have hP' := Ad c hP
      have hR' := Ad c hR
      obtain ⟨k5, e5⟩ := nO c.pos (-(P.2 : Int))
      obtain ⟨k6, e6⟩ := nO c.pos (-(R.2 : Int))
      cases h : cP p (some P) (some R) with
      | none =>
        by_cases hn : P.1 = R.1 ∧ P.2 ≠ R.2
        · have := afO c hP hR hn
          rw [this, add_neg c hP']
          rfl
        · have : cP p (some P) (some R) = some (rY p P R (nL p P R)) := if_neg hn
          rw [this] at h
          cases h
      | some S =>
        obtain ⟨h1, h2, l, hl, ht⟩ := kU c hP hR h
        obtain ⟨k1, e1⟩ := hl.a
        obtain ⟨k2, e2⟩ := hl.b
        obtain ⟨k3, e3⟩ := ht.x
        obtain ⟨k4, e4⟩ := ht.y
        obtain ⟨k7, e7⟩ := nO c.pos (-(S.2 : Int))
        have g1 : Lin p ((P.1 : Nat) : Int) ((nm p (-(P.2 : Int)) : Nat) : Int) ((R.1 : Nat) : Int) ((nm p (-(R.2 : Int)) : Nat) : Int) (-l) :=
          ⟨⟨-k1 - k5 + k6, by grind⟩, ⟨k2 - l * (k5 + k6), atU e2 e5 e6⟩⟩
        have g2 : Thd p ((P.1 : Nat) : Int) ((nm p (-(P.2 : Int)) : Nat) : Int) ((R.1 : Nat) : Int) (-l) ((S.1 : Nat) : Int) ((nm p (-(S.2 : Int)) : Nat) : Int) :=
          ⟨⟨k3, by grind⟩, ⟨-k4 + k7 + k5, by grind⟩⟩
        exact (WB c (P := (P.1, nm p (-(P.2 : Int)))) (R := (R.1, nm p (-(R.2 : Int)))) (S := (S.1, nm p (-(S.2 : Int)))) hP' hR' g1 h1 (Dg c.pos _) g2).symm
theorem cancel (c : Cur p b) {P R : PtQ} (hP : OnQ p b P) (hR : OnQ p b R) : cP p (J8 p P) (cP p P R) = R := by
  cases P with
  | none => rfl
  | some P =>
    have hP' := Ad c hP
    cases R with
    | none =>
      rw [bX, add_comm c hP' hP, add_neg c hP]
    | some R =>
      cases h : cP p (some P) (some R) with
      | none =>
        by_cases hn : P.1 = R.1 ∧ P.2 ≠ R.2
        · rw [bX]
          exact (afO c hP hR hn).symm
        · have : cP p (some P) (some R) = some (rY p P R (nL p P R)) := if_neg hn
          rw [this] at h
          cases h
      | some S =>
        have hS := fS c hP hR
        rw [h] at hS
        obtain ⟨h1, h2, l, hl, ht⟩ := kU c hP hR h
        obtain ⟨k1, e1⟩ := hl.a
        obtain ⟨k2, e2⟩ := atj ht.y ht.x hl.a hl.b
        obtain ⟨k3, e3⟩ := ht.x
        obtain ⟨k4, e4⟩ := ht.y
        obtain ⟨k5, e5⟩ := nO c.pos (-(P.2 : Int))
        have g1 : Lin p ((P.1 : Nat) : Int) ((nm p (-(P.2 : Int)) : Nat) : Int) ((S.1 : Nat) : Int) ((S.2 : Nat) : Int) (-l) :=
          ⟨⟨k4 - k5, by grind⟩, ⟨k2 - l * k5, ati e2 e5⟩⟩
        have g2 : Thd p ((P.1 : Nat) : Int) ((nm p (-(P.2 : Int)) : Nat) : Int) ((S.1 : Nat) : Int) (-l) ((R.1 : Nat) : Int) ((R.2 : Nat) : Int) :=
          ⟨⟨k3, by grind⟩, ⟨k1 + k5, by grind⟩⟩
        exact WB c (P := (P.1, nm p (-(P.2 : Int)))) hP' hS g1 hR.1 hR.2.1 g2
theorem Df (c : Cur p b) {P R : PtQ} (hP : OnQ p b P) (hR : OnQ p b R) (h : cP p P R = none) : R = J8 p P := by
  have := cancel c hP hR
  rw [h, bX] at this
  exact this.symm
theorem J0 (c : Cur p b) {u v z : Int} (hu : ¬ (p : Int) ∣ u) (hv : ¬ (p : Int) ∣ v) (h : (p : Int) ∣ u * v * z) : (p : Int) ∣ z := by
  rcases c.pr.dR h with h | h
  · rcases c.pr.dR h with h | h
    · exact absurd h hu
    · exact absurd h hv
  · exact h
theorem Xy (c : Cur p b) {z : Int} (h : (p : Int) ∣ 4 * z) : (p : Int) ∣ z := (c.pr.dR h).resolve_left c.no4
theorem afI {X Y : Nat × Nat} (h1 : X.1 = Y.1) (h2 : X.2 = Y.2) : X = Y := by
  obtain ⟨X1, X2⟩ := X
  obtain ⟨Y1, Y2⟩ := Y
  dsimp only at h1 h2
  rw [h1, h2]
theorem IE (c : Cur p b) {P1 P2 P3 S T X Y : Nat × Nat} (h1 : OnQ p b (some P1)) (h2 : OnQ p b (some P2)) (h3 : OnQ p b (some P3)) (hS : cP p (some P1) (some P2) = some S) (hT : cP p (some P2) (some P3) = some T)
    (hX : cP p (some S) (some P3) = some X) (hY : cP p (some P1) (some T) = some Y) (d1 : (p : Int) ∣ (S.1 : Int) - P3.1) : X = Y := by
  have oS := fS c h1 h2
  have oT := fS c h2 h3
  rw [hS] at oS
  rw [hT] at oT
  obtain ⟨hS1, hS2, l, l1, l2⟩ := kU c h1 h2 hS
  obtain ⟨hT1, hT2, m, m1, m2⟩ := kU c h2 h3 hT
  obtain ⟨hX1, hX2, L, L1, L2⟩ := kU c oS h3 hX
  obtain ⟨hY1, hY2, M, M1, M2⟩ := kU c h1 oT hY
  have n2 := c.yne h2.2.2
  have n3 := c.yne h3.2.2
  have hx := J0 c n2 n3 (Xy c (by rw [← Int.mul_assoc]; exact atn l1.a m1.a l2.x l2.y m2.x m2.y L2.x M2.x l1.b m1.b L1.a L1.b M1.a d1))
  have hy := J0 c n2 n3 (Xy c (by rw [← Int.mul_assoc]; exact atm l1.a m1.a l2.x l2.y m2.x m2.y L2.y M2.x M2.y l1.b m1.b L1.a L1.b M1.a d1 hx))
  exact afI (fJ hX1 hY1 hx) (fJ hX2 hY2 hy)
theorem add_assoc (c : Cur p b) {P R T : PtQ} (hP : OnQ p b P) (hR : OnQ p b R) (hT : OnQ p b T) : cP p (cP p P R) T = cP p P (cP p R T) := by
  have hPR := fS c hP hR
  have hRT := fS c hR hT
  have nP := Ad c hP
  have nR := Ad c hR
  have nT := Ad c hT
  by_cases hA : cP p P R = none
  · rw [hA, XB]
    have e := Df c hP hR hA
    have e2 : P = J8 p R := by rw [e, neg_neg c hP]
    rw [e2, cancel c hR hT]
  by_cases hB : cP p R T = none
  · rw [hB, bX]
    have e := Df c hR hT hB
    rw [e, add_comm c hPR nR, add_comm c hP hR, cancel c hR hP]
  by_cases hC : cP p (cP p P R) T = none
  · rw [hC]
    have e := Df c hPR hT hC
    rw [e, neg_add c hP hR, add_comm c nP nR]
    have := cancel c nR nP
    rw [neg_neg c hR] at this
    rw [this, add_neg c hP]
  by_cases hD : cP p P (cP p R T) = none
  · rw [hD]
    have e := Df c hRT hP (by rw [add_comm c hRT hP]; exact hD)
    rw [e, neg_add c hR hT]
    have h3 := cancel c nR nT
    rw [neg_neg c hR] at h3
    rw [add_comm c (fS c nR nT) hR, h3, add_comm c nT hT, add_neg c hT]
  cases P with
  | none => rfl
  | some P1 =>
  cases R with
  | none => rw [bX, XB]
  | some P2 =>
  cases T with
  | none => rw [bX, bX]
  | some P3 =>
  cases hS : cP p (some P1) (some P2) with
  | none => exact absurd hS hA
  | some S =>
  cases hT' : cP p (some P2) (some P3) with
  | none => exact absurd hT' hB
  | some T =>
  rw [hS] at hPR hC
  rw [hT'] at hRT hD
  cases hX : cP p (some S) (some P3) with
  | none => exact absurd hX hC
  | some X =>
  cases hY : cP p (some P1) (some T) with
  | none => exact absurd hY hD
  | some Y =>
  obtain ⟨hS1, hS2, l, l1, l2⟩ := kU c hP hR hS
  obtain ⟨hT1, hT2, m, m1, m2⟩ := kU c hR hT hT'
  obtain ⟨hX1, hX2, L, L1, L2⟩ := kU c hPR hT hX
  obtain ⟨hY1, hY2, M, M1, M2⟩ := kU c hP hRT hY
  congr 1
  by_cases d1 : (p : Int) ∣ (S.1 : Int) - P3.1
  · exact IE c hP hR hT hS hT' hX hY d1
  by_cases d2 : (p : Int) ∣ (P1.1 : Int) - T.1
  · rw [add_comm c hR hT] at hT'
    rw [add_comm c hP hR] at hS
    rw [add_comm c hPR hT] at hX
    rw [add_comm c hP hRT] at hY
    exact (IE c hT hR hP hT' hS hY hX (by obtain ⟨k, hk⟩ := d2; exact ⟨-k, by rw [Int.mul_neg, ← hk]; omega⟩)).symm
  · have hx := J0 c d1 d2 (atl l1.a m1.a l2.x l2.y m2.x m2.y L2.x M2.x l1.b m1.b L1.a M1.a)
    have hy := J0 c d1 d2 (atk l1.a m1.a l2.x l2.y m2.x m2.y L2.x L2.y M2.x M2.y l1.b m1.b L1.a M1.a hx)
    exact afI (fJ hX1 hY1 hx) (fJ hX2 hY2 hy)
end Go.Proofs.YtohjofabochgfaaGreat

namespace Go.Proofs.YtohjofabochgfaaGreat
set_option maxRecDepth 100000
theorem at4 {p xs z3 yz x3 s2 mm m b1 s a1 yy Y X l y x z : Int} (h0 : p ∣ xs-(l*l-x-x)) (h1 : p ∣ l*(y+y)-(x*x+x*x+x*x)) (h2 : p ∣ z3-(yz*2)) (h3 : p ∣ yz-(Y*z)) (h4 : p ∣ x3-(mm-s2)) (h5 : p ∣ s2-(s*2)) (h6 : p ∣ mm-(m*m)) (h7 : p ∣ m-(b1*3)) (h8 : p ∣ b1-(X*X)) (h9 : p ∣ s-(a1*4)) (h10 : p ∣ a1-(X*yy)) (h11 : p ∣ yy-(Y*Y)) (h12 : p ∣ X-x*(z*z)) (h13 : p ∣ Y-y*(z*z*z)) : p ∣ (x3-xs*(z3*z3)) :=
  dk (dc (-z3*z3) h0 (dc (-2*Y*l*z*z*z*z*z - 3*x*x*z*z*z*z*z*z*z*z) h1 (dc (-z3*l*l + 2*z3*x - 2*yz*l*l + 4*yz*x) h2 (dc (-4*yz*l*l + 8*yz*x - 4*Y*l*l*z + 8*Y*x*z) h3 (dc (1) h4 (dc (-1) h5 (dc (1) h6 (dc (m + 3*b1) h7 (dc (9*b1 + 9*X*X) h8 (dc (-2) h9 (dc (-8) h10 (dc (-8*X) h11 (dc (-8*Y*Y + 9*X*X*X + 9*X*X*x*z*z + 9*X*x*x*z*z*z*z + 9*x*x*x*z*z*z*z*z*z) h12 (dc (-4*Y*l*l*z*z - 6*l*x*x*z*z*z*z*z) h13 (dz p))))))))))))))) (by clear h0 h1 h2 h3 h4 h5 h6 h7 h8 h9 h10 h11 h12 h13; grind)
theorem at3 {p ys xs z3 yz y3 y8 y4 md d x3 s2 mm m b1 s a1 yy Y X l y x z : Int} (h0 : p ∣ ys-(l*(x-xs)-y)) (h1 : p ∣ xs-(l*l-x-x)) (h2 : p ∣ l*(y+y)-(x*x+x*x+x*x)) (h3 : p ∣ z3-(yz*2)) (h4 : p ∣ yz-(Y*z)) (h5 : p ∣ y3-(md-y8)) (h6 : p ∣ y8-(y4*8)) (h7 : p ∣ y4-(yy*yy)) (h8 : p ∣ md-(m*d)) (h9 : p ∣ d-(s-x3)) (h10 : p ∣ x3-(mm-s2)) (h11 : p ∣ s2-(s*2)) (h12 : p ∣ mm-(m*m)) (h13 : p ∣ m-(b1*3)) (h14 : p ∣ b1-(X*X)) (h15 : p ∣ s-(a1*4)) (h16 : p ∣ a1-(X*yy)) (h17 : p ∣ yy-(Y*Y)) (h18 : p ∣ X-x*(z*z)) (h19 : p ∣ Y-y*(z*z*z)) : p ∣ (y3-ys*(z3*z3*z3)) :=
  dk (dc (-z3*z3*z3) h0 (dc (z3*z3*z3*l) h1 (dc (4*Y*Y*l*l*z*z*z*z*z*z - 12*Y*Y*x*z*z*z*z*z*z + 6*Y*l*x*x*z*z*z*z*z*z*z*z*z + 9*x*x*x*x*z*z*z*z*z*z*z*z*z*z*z*z) h2 (dc (z3*z3*l*l*l - 3*z3*z3*l*x + z3*z3*y + 2*z3*yz*l*l*l - 6*z3*yz*l*x + 2*z3*yz*y + 4*yz*yz*l*l*l - 12*yz*yz*l*x + 4*yz*yz*y) h3 (dc (8*yz*yz*l*l*l - 24*yz*yz*l*x + 8*yz*yz*y + 8*yz*Y*l*l*l*z - 24*yz*Y*l*x*z + 8*yz*Y*y*z + 8*Y*Y*l*l*l*z*z - 24*Y*Y*l*x*z*z + 8*Y*Y*y*z*z) h4 (dc (1) h5 (dc (-1) h6 (dc (-8) h7 (dc (1) h8 (dc (m) h9 (dc (-m) h10 (dc (m) h11 (dc (-m) h12 (dc (-m*m - 3*m*b1 - 9*b1*b1 + 3*s) h13 (dc (-27*b1*b1 - 27*b1*X*X + 9*s - 27*X*X*X*X) h14 (dc (9*X*X) h15 (dc (36*X*X) h16 (dc (-8*yy - 8*Y*Y + 36*X*X*X) h17 (dc (36*Y*Y*X*X + 36*Y*Y*X*x*z*z + 36*Y*Y*x*x*z*z*z*z - 27*X*X*X*X*X - 27*X*X*X*X*x*z*z - 27*X*X*X*x*x*z*z*z*z - 27*X*X*x*x*x*z*z*z*z*z*z - 27*X*x*x*x*x*z*z*z*z*z*z*z*z - 27*x*x*x*x*x*z*z*z*z*z*z*z*z*z*z) h18 (dc (-8*Y*Y*Y + 8*Y*Y*l*l*l*z*z*z - 24*Y*Y*l*x*z*z*z + 12*Y*l*l*x*x*z*z*z*z*z*z + 18*l*x*x*x*x*z*z*z*z*z*z*z*z*z) h19 (dz p))))))))))))))))))))) (by clear h0 h1 h2 h3 h4 h5 h6 h7 h8 h9 h10 h11 h12 h13 h14 h15 h16 h17 h18 h19; grind)
theorem at2 {p z3 yz Y y z : Int} (h0 : p ∣ z3-(yz*2)) (h1 : p ∣ yz-(Y*z)) (h2 : p ∣ Y-y*(z*z*z)) : p ∣ (z3-2*(y*(z*(z*(z*z))))) :=
  dk (dc (1) h0 (dc (2) h1 (dc (2*z) h2 (dz p)))) (by clear h0 h1 h2; grind)
theorem aug {p h v u qz pz X2 X1 x1 x2 z1 z2 : Int} (h0 : p ∣ h-(v-u)) (h1 : p ∣ v-(X2*pz)) (h2 : p ∣ u-(X1*qz)) (h3 : p ∣ qz-(z2*z2)) (h4 : p ∣ pz-(z1*z1)) (h5 : p ∣ X1-x1*(z1*z1)) (h6 : p ∣ X2-x2*(z2*z2)) : p ∣ (h-(x2-x1)*(z1*z1*(z2*z2))) :=
  dk (dc (1) h0 (dc (1) h1 (dc (-1) h2 (dc (-X1) h3 (dc (X2) h4 (dc (-z2*z2) h5 (dc (z1*z1) h6 (dz p)))))))) (by clear h0 h1 h2 h3 h4 h5 h6; grind)
theorem auf {p r t p3 s q3 qz pz Y2 Y1 y1 y2 z1 z2 : Int} (h0 : p ∣ r-(t-s)) (h1 : p ∣ t-(Y2*p3)) (h2 : p ∣ p3-(pz*z1)) (h3 : p ∣ s-(Y1*q3)) (h4 : p ∣ q3-(qz*z2)) (h5 : p ∣ qz-(z2*z2)) (h6 : p ∣ pz-(z1*z1)) (h7 : p ∣ Y1-y1*(z1*z1*z1)) (h8 : p ∣ Y2-y2*(z2*z2*z2)) : p ∣ (r-(y2-y1)*(z1*z1*z1*(z2*z2*z2))) :=
  dk (dc (1) h0 (dc (1) h1 (dc (Y2) h2 (dc (-1) h3 (dc (-Y1) h4 (dc (-Y1*z2) h5 (dc (Y2*z1) h6 (dc (-z2*z2*z2) h7 (dc (z1*z1*z1) h8 (dz p)))))))))) (by clear h0 h1 h2 h3 h4 h5 h6 h7 h8; grind)
theorem aue {p xs z3 zz x3 c2 rh rr cc hhh hh r t p3 h v s q3 u qz pz Y2 X2 Y1 X1 y2 y1 l x1 x2 z1 z2 : Int} (h0 : p ∣ xs-(l*l-x1-x2)) (h1 : p ∣ l*(x1-x2)-(y1-y2)) (h2 : p ∣ z3-(h*zz)) (h3 : p ∣ zz-(z1*z2)) (h4 : p ∣ x3-(rh-c2)) (h5 : p ∣ c2-(cc*2)) (h6 : p ∣ rh-(rr-hhh)) (h7 : p ∣ rr-(r*r)) (h8 : p ∣ cc-(u*hh)) (h9 : p ∣ hhh-(hh*h)) (h10 : p ∣ hh-(h*h)) (h11 : p ∣ r-(t-s)) (h12 : p ∣ t-(Y2*p3)) (h13 : p ∣ p3-(pz*z1)) (h14 : p ∣ h-(v-u)) (h15 : p ∣ v-(X2*pz)) (h16 : p ∣ s-(Y1*q3)) (h17 : p ∣ q3-(qz*z2)) (h18 : p ∣ u-(X1*qz)) (h19 : p ∣ qz-(z2*z2)) (h20 : p ∣ pz-(z1*z1)) (h21 : p ∣ X1-x1*(z1*z1)) (h22 : p ∣ Y1-y1*(z1*z1*z1)) (h23 : p ∣ X2-x2*(z2*z2)) (h24 : p ∣ Y2-y2*(z2*z2*z2)) : p ∣ (x3-xs*(z3*z3)) :=
  dk (dc (-z3*z3) h0 (dc (Y2*z1*z1*z1*z1*z1*z1*z2*z2*z2 - l*x1*z1*z1*z1*z1*z1*z1*z2*z2*z2*z2*z2*z2 + l*x2*z1*z1*z1*z1*z1*z1*z2*z2*z2*z2*z2*z2 - y1*z1*z1*z1*z1*z1*z1*z2*z2*z2*z2*z2*z2) h1 (dc (-z3*l*l + z3*x1 + z3*x2 - zz*h*l*l + zz*h*x1 + zz*h*x2) h2 (dc (-zz*h*h*l*l + zz*h*h*x1 + zz*h*h*x2 - h*h*l*l*z1*z2 + h*h*x1*z1*z2 + h*h*x2*z1*z2) h3 (dc (1) h4 (dc (-1) h5 (dc (1) h6 (dc (1) h7 (dc (-2) h8 (dc (-1) h9 (dc (-h - 2*u) h10 (dc (r + t - s) h11 (dc (t + p3*Y2 - 2*s) h12 (dc (p3*Y2*Y2 - 2*s*Y2 + pz*Y2*Y2*z1) h13 (dc (-h*h - h*v - h*u - h*l*l*z1*z1*z2*z2 + h*x1*z1*z1*z2*z2 + h*x2*z1*z1*z2*z2 - v*v - v*l*l*z1*z1*z2*z2 + v*x1*z1*z1*z2*z2 + v*x2*z1*z1*z2*z2 + u*u + u*l*l*z1*z1*z2*z2 - u*x1*z1*z1*z2*z2 - u*x2*z1*z1*z2*z2) h14 (dc (-v*v + v*u - v*pz*X2 - v*l*l*z1*z1*z2*z2 + v*x1*z1*z1*z2*z2 + v*x2*z1*z1*z2*z2 + u*u + u*pz*X2 + 2*u*l*l*z1*z1*z2*z2 - 2*u*x1*z1*z1*z2*z2 - 2*u*x2*z1*z1*z2*z2 - pz*pz*X2*X2 - pz*X2*l*l*z1*z1*z2*z2 + pz*X2*x1*z1*z1*z2*z2 + pz*X2*x2*z1*z1*z2*z2) h15 (dc (s + q3*Y1 - 2*pz*Y2*z1) h16 (dc (q3*Y1*Y1 + qz*Y1*Y1*z2 - 2*pz*Y2*Y1*z1) h17 (dc (-u*u - u*qz*X1 + u*pz*X2 - u*l*l*z1*z1*z2*z2 + u*x1*z1*z1*z2*z2 + u*x2*z1*z1*z2*z2 - qz*qz*X1*X1 + qz*pz*X2*X1 - qz*X1*l*l*z1*z1*z2*z2 + qz*X1*x1*z1*z1*z2*z2 + qz*X1*x2*z1*z1*z2*z2 + pz*pz*X2*X2 + 2*pz*X2*l*l*z1*z1*z2*z2 - 2*pz*X2*x1*z1*z1*z2*z2 - 2*pz*X2*x2*z1*z1*z2*z2) h18 (dc (-qz*qz*X1*X1*X1 + qz*pz*X2*X1*X1 + qz*Y1*Y1*z2*z2 - qz*X1*X1*X1*z2*z2 - qz*X1*X1*l*l*z1*z1*z2*z2 + qz*X1*X1*x1*z1*z1*z2*z2 + qz*X1*X1*x2*z1*z1*z2*z2 + pz*pz*X2*X2*X1 - 2*pz*Y2*Y1*z1*z2 + pz*X2*X1*X1*z2*z2 + 2*pz*X2*X1*l*l*z1*z1*z2*z2 - 2*pz*X2*X1*x1*z1*z1*z2*z2 - 2*pz*X2*X1*x2*z1*z1*z2*z2 + Y1*Y1*z2*z2*z2*z2 - X1*X1*X1*z2*z2*z2*z2 - X1*X1*l*l*z1*z1*z2*z2*z2*z2 + X1*X1*x1*z1*z1*z2*z2*z2*z2 + X1*X1*x2*z1*z1*z2*z2*z2*z2) h19 (dc (-pz*pz*X2*X2*X2 + pz*Y2*Y2*z1*z1 - pz*X2*X2*X2*z1*z1 + pz*X2*X2*X1*z2*z2 - pz*X2*X2*l*l*z1*z1*z2*z2 + pz*X2*X2*x1*z1*z1*z2*z2 + pz*X2*X2*x2*z1*z1*z2*z2 + Y2*Y2*z1*z1*z1*z1 - 2*Y2*Y1*z1*z2*z2*z2 - X2*X2*X2*z1*z1*z1*z1 + X2*X2*X1*z1*z1*z2*z2 - X2*X2*l*l*z1*z1*z1*z1*z2*z2 + X2*X2*x1*z1*z1*z1*z1*z2*z2 + X2*X2*x2*z1*z1*z1*z1*z2*z2 + X2*X1*X1*z2*z2*z2*z2 + 2*X2*X1*l*l*z1*z1*z2*z2*z2*z2 - 2*X2*X1*x1*z1*z1*z2*z2*z2*z2 - 2*X2*X1*x2*z1*z1*z2*z2*z2*z2) h20 (dc (X2*X2*z1*z1*z1*z1*z2*z2 + X2*X1*z1*z1*z2*z2*z2*z2 + 2*X2*l*l*z1*z1*z1*z1*z2*z2*z2*z2 - X2*x1*z1*z1*z1*z1*z2*z2*z2*z2 - 2*X2*x2*z1*z1*z1*z1*z2*z2*z2*z2 - X1*X1*z2*z2*z2*z2*z2*z2 - X1*l*l*z1*z1*z2*z2*z2*z2*z2*z2 + X1*x2*z1*z1*z2*z2*z2*z2*z2*z2 - l*l*x1*z1*z1*z1*z1*z2*z2*z2*z2*z2*z2 + x1*x2*z1*z1*z1*z1*z2*z2*z2*z2*z2*z2) h21 (dc (-2*Y2*z1*z1*z1*z2*z2*z2 + Y1*z2*z2*z2*z2*z2*z2 + y1*z1*z1*z1*z2*z2*z2*z2*z2*z2) h22 (dc (-X2*X2*z1*z1*z1*z1*z1*z1 - X2*l*l*z1*z1*z1*z1*z1*z1*z2*z2 + 2*X2*x1*z1*z1*z1*z1*z1*z1*z2*z2 + 2*l*l*x1*z1*z1*z1*z1*z1*z1*z2*z2*z2*z2 - l*l*x2*z1*z1*z1*z1*z1*z1*z2*z2*z2*z2 - x1*x1*z1*z1*z1*z1*z1*z1*z2*z2*z2*z2) h23 (dc (Y2*z1*z1*z1*z1*z1*z1 - l*x1*z1*z1*z1*z1*z1*z1*z2*z2*z2 + l*x2*z1*z1*z1*z1*z1*z1*z2*z2*z2 - y1*z1*z1*z1*z1*z1*z1*z2*z2*z2) h24 (dz p)))))))))))))))))))))))))) (by clear h0 h1 h2 h3 h4 h5 h6 h7 h8 h9 h10 h11 h12 h13 h14 h15 h16 h17 h18 h19 h20 h21 h22 h23 h24; grind)
theorem aud {p ys xs z3 zz y3 sh rd d x3 c2 rh rr cc hhh hh r t p3 h v s q3 u qz pz Y2 X2 Y1 X1 y2 y1 l x1 x2 z1 z2 : Int} (h0 : p ∣ ys-(l*(x1-xs)-y1)) (h1 : p ∣ xs-(l*l-x1-x2)) (h2 : p ∣ l*(x1-x2)-(y1-y2)) (h3 : p ∣ z3-(h*zz)) (h4 : p ∣ zz-(z1*z2)) (h5 : p ∣ y3-(rd-sh)) (h6 : p ∣ sh-(s*hhh)) (h7 : p ∣ rd-(r*d)) (h8 : p ∣ d-(cc-x3)) (h9 : p ∣ x3-(rh-c2)) (h10 : p ∣ c2-(cc*2)) (h11 : p ∣ rh-(rr-hhh)) (h12 : p ∣ rr-(r*r)) (h13 : p ∣ cc-(u*hh)) (h14 : p ∣ hhh-(hh*h)) (h15 : p ∣ hh-(h*h)) (h16 : p ∣ r-(t-s)) (h17 : p ∣ t-(Y2*p3)) (h18 : p ∣ p3-(pz*z1)) (h19 : p ∣ h-(v-u)) (h20 : p ∣ v-(X2*pz)) (h21 : p ∣ s-(Y1*q3)) (h22 : p ∣ q3-(qz*z2)) (h23 : p ∣ u-(X1*qz)) (h24 : p ∣ qz-(z2*z2)) (h25 : p ∣ pz-(z1*z1)) (h26 : p ∣ X1-x1*(z1*z1)) (h27 : p ∣ Y1-y1*(z1*z1*z1)) (h28 : p ∣ X2-x2*(z2*z2)) (h29 : p ∣ Y2-y2*(z2*z2*z2)) : p ∣ (y3-ys*(z3*z3*z3)) :=
  dk (dc (-z3*z3*z3) h0 (dc (z3*z3*z3*l) h1 (dc (-Y2*Y2*z1*z1*z1*z1*z1*z1*z1*z1*z1*z2*z2*z2 + Y2*l*x1*z1*z1*z1*z1*z1*z1*z1*z1*z1*z2*z2*z2*z2*z2*z2 - Y2*l*x2*z1*z1*z1*z1*z1*z1*z1*z1*z1*z2*z2*z2*z2*z2*z2 + 2*Y2*y1*z1*z1*z1*z1*z1*z1*z1*z1*z1*z2*z2*z2*z2*z2*z2 - l*l*x1*x1*z1*z1*z1*z1*z1*z1*z1*z1*z1*z2*z2*z2*z2*z2*z2*z2*z2*z2 + 2*l*l*x1*x2*z1*z1*z1*z1*z1*z1*z1*z1*z1*z2*z2*z2*z2*z2*z2*z2*z2*z2 - l*l*x2*x2*z1*z1*z1*z1*z1*z1*z1*z1*z1*z2*z2*z2*z2*z2*z2*z2*z2*z2 - y1*l*x1*z1*z1*z1*z1*z1*z1*z1*z1*z1*z2*z2*z2*z2*z2*z2*z2*z2*z2 + 2*x1*x1*x1*z1*z1*z1*z1*z1*z1*z1*z1*z1*z2*z2*z2*z2*z2*z2*z2*z2*z2 + y1*l*x2*z1*z1*z1*z1*z1*z1*z1*z1*z1*z2*z2*z2*z2*z2*z2*z2*z2*z2 - 3*x1*x1*x2*z1*z1*z1*z1*z1*z1*z1*z1*z1*z2*z2*z2*z2*z2*z2*z2*z2*z2 + x2*x2*x2*z1*z1*z1*z1*z1*z1*z1*z1*z1*z2*z2*z2*z2*z2*z2*z2*z2*z2 - y1*y1*z1*z1*z1*z1*z1*z1*z1*z1*z1*z2*z2*z2*z2*z2*z2*z2*z2*z2) h2 (dc (z3*z3*l*l*l - 2*z3*z3*l*x1 - z3*z3*l*x2 + z3*z3*y1 + z3*zz*h*l*l*l - 2*z3*zz*h*l*x1 - z3*zz*h*l*x2 + z3*zz*h*y1 + zz*zz*h*h*l*l*l - 2*zz*zz*h*h*l*x1 - zz*zz*h*h*l*x2 + zz*zz*h*h*y1) h3 (dc (zz*zz*h*h*h*l*l*l - 2*zz*zz*h*h*h*l*x1 - zz*zz*h*h*h*l*x2 + zz*zz*h*h*h*y1 + zz*h*h*h*l*l*l*z1*z2 - 2*zz*h*h*h*l*x1*z1*z2 - zz*h*h*h*l*x2*z1*z2 + zz*h*h*h*y1*z1*z2 + h*h*h*l*l*l*z1*z1*z2*z2 - 2*h*h*h*l*x1*z1*z1*z2*z2 - h*h*h*l*x2*z1*z1*z2*z2 + h*h*h*y1*z1*z1*z2*z2) h4 (dc (1) h5 (dc (-1) h6 (dc (1) h7 (dc (r) h8 (dc (-r) h9 (dc (r) h10 (dc (-r) h11 (dc (-r) h12 (dc (3*r) h13 (dc (r - s) h14 (dc (r*h + 3*r*u - h*s) h15 (dc (-r*r - r*t + r*s - t*t + 2*t*s + h*h*h + 3*h*h*u - s*s) h16 (dc (-t*t - t*p3*Y2 + 3*t*s - p3*p3*Y2*Y2 + 3*p3*s*Y2 + h*h*h + 3*h*h*u - 3*s*s) h17 (dc (-p3*p3*Y2*Y2*Y2 + 3*p3*s*Y2*Y2 - p3*pz*Y2*Y2*Y2*z1 + h*h*h*Y2 + 3*h*h*u*Y2 - 3*s*s*Y2 + 3*s*pz*Y2*Y2*z1 - pz*pz*Y2*Y2*Y2*z1*z1) h18 (dc (-2*h*h*s + h*h*pz*Y2*z1 + h*h*l*l*l*z1*z1*z1*z2*z2*z2 - 2*h*h*l*x1*z1*z1*z1*z2*z2*z2 - h*h*l*x2*z1*z1*z1*z2*z2*z2 + h*h*y1*z1*z1*z1*z2*z2*z2 - 2*h*v*s + h*v*pz*Y2*z1 + h*v*l*l*l*z1*z1*z1*z2*z2*z2 - 2*h*v*l*x1*z1*z1*z1*z2*z2*z2 - h*v*l*x2*z1*z1*z1*z2*z2*z2 + h*v*y1*z1*z1*z1*z2*z2*z2 - h*s*u + 2*h*u*pz*Y2*z1 - h*u*l*l*l*z1*z1*z1*z2*z2*z2 + 2*h*u*l*x1*z1*z1*z1*z2*z2*z2 + h*u*l*x2*z1*z1*z1*z2*z2*z2 - h*u*y1*z1*z1*z1*z2*z2*z2 - 2*v*v*s + v*v*pz*Y2*z1 + v*v*l*l*l*z1*z1*z1*z2*z2*z2 - 2*v*v*l*x1*z1*z1*z1*z2*z2*z2 - v*v*l*x2*z1*z1*z1*z2*z2*z2 + v*v*y1*z1*z1*z1*z2*z2*z2 + v*s*u + v*u*pz*Y2*z1 - 2*v*u*l*l*l*z1*z1*z1*z2*z2*z2 + 4*v*u*l*x1*z1*z1*z1*z2*z2*z2 + 2*v*u*l*x2*z1*z1*z1*z2*z2*z2 - 2*v*u*y1*z1*z1*z1*z2*z2*z2 + s*u*u - 2*u*u*pz*Y2*z1 + u*u*l*l*l*z1*z1*z1*z2*z2*z2 - 2*u*u*l*x1*z1*z1*z1*z2*z2*z2 - u*u*l*x2*z1*z1*z1*z2*z2*z2 + u*u*y1*z1*z1*z1*z2*z2*z2) h19 (dc (-2*v*v*s + v*v*pz*Y2*z1 + v*v*l*l*l*z1*z1*z1*z2*z2*z2 - 2*v*v*l*x1*z1*z1*z1*z2*z2*z2 - v*v*l*x2*z1*z1*z1*z2*z2*z2 + v*v*y1*z1*z1*z1*z2*z2*z2 + 3*v*s*u - 2*v*s*pz*X2 - 3*v*u*l*l*l*z1*z1*z1*z2*z2*z2 + 6*v*u*l*x1*z1*z1*z1*z2*z2*z2 + 3*v*u*l*x2*z1*z1*z1*z2*z2*z2 - 3*v*u*y1*z1*z1*z1*z2*z2*z2 + v*pz*pz*Y2*X2*z1 + v*pz*X2*l*l*l*z1*z1*z1*z2*z2*z2 - 2*v*pz*X2*l*x1*z1*z1*z1*z2*z2*z2 - v*pz*X2*l*x2*z1*z1*z1*z2*z2*z2 + v*pz*X2*y1*z1*z1*z1*z2*z2*z2 + 3*s*u*pz*X2 - 2*s*pz*pz*X2*X2 - 3*u*u*pz*Y2*z1 + 3*u*u*l*l*l*z1*z1*z1*z2*z2*z2 - 6*u*u*l*x1*z1*z1*z1*z2*z2*z2 - 3*u*u*l*x2*z1*z1*z1*z2*z2*z2 + 3*u*u*y1*z1*z1*z1*z2*z2*z2 - 3*u*pz*X2*l*l*l*z1*z1*z1*z2*z2*z2 + 6*u*pz*X2*l*x1*z1*z1*z1*z2*z2*z2 + 3*u*pz*X2*l*x2*z1*z1*z1*z2*z2*z2 - 3*u*pz*X2*y1*z1*z1*z1*z2*z2*z2 + pz*pz*pz*Y2*X2*X2*z1 + pz*pz*X2*X2*l*l*l*z1*z1*z1*z2*z2*z2 - 2*pz*pz*X2*X2*l*x1*z1*z1*z1*z2*z2*z2 - pz*pz*X2*X2*l*x2*z1*z1*z1*z2*z2*z2 + pz*pz*X2*X2*y1*z1*z1*z1*z2*z2*z2) h20 (dc (s*s + s*q3*Y1 - 3*s*pz*Y2*z1 + q3*q3*Y1*Y1 - 3*q3*pz*Y2*Y1*z1 - u*u*u + 3*u*pz*pz*X2*X2 - 2*pz*pz*pz*X2*X2*X2 + 3*pz*pz*Y2*Y2*z1*z1) h21 (dc (q3*q3*Y1*Y1*Y1 + q3*qz*Y1*Y1*Y1*z2 - 3*q3*pz*Y2*Y1*Y1*z1 - u*u*u*Y1 + 3*u*pz*pz*X2*X2*Y1 + qz*qz*Y1*Y1*Y1*z2*z2 - 3*qz*pz*Y2*Y1*Y1*z1*z2 - 2*pz*pz*pz*X2*X2*X2*Y1 + 3*pz*pz*Y2*Y2*Y1*z1*z1) h22 (dc (-u*u*qz*Y1*z2 + 2*u*u*pz*Y2*z1 - u*u*l*l*l*z1*z1*z1*z2*z2*z2 + 2*u*u*l*x1*z1*z1*z1*z2*z2*z2 + u*u*l*x2*z1*z1*z1*z2*z2*z2 - u*u*y1*z1*z1*z1*z2*z2*z2 - u*qz*qz*Y1*X1*z2 + 2*u*qz*pz*Y2*X1*z1 - u*qz*X1*l*l*l*z1*z1*z1*z2*z2*z2 + 2*u*qz*X1*l*x1*z1*z1*z1*z2*z2*z2 + u*qz*X1*l*x2*z1*z1*z1*z2*z2*z2 - u*qz*X1*y1*z1*z1*z1*z2*z2*z2 - 3*u*pz*pz*Y2*X2*z1 + 3*u*pz*X2*l*l*l*z1*z1*z1*z2*z2*z2 - 6*u*pz*X2*l*x1*z1*z1*z1*z2*z2*z2 - 3*u*pz*X2*l*x2*z1*z1*z1*z2*z2*z2 + 3*u*pz*X2*y1*z1*z1*z1*z2*z2*z2 - qz*qz*qz*Y1*X1*X1*z2 + 2*qz*qz*pz*Y2*X1*X1*z1 - qz*qz*X1*X1*l*l*l*z1*z1*z1*z2*z2*z2 + 2*qz*qz*X1*X1*l*x1*z1*z1*z1*z2*z2*z2 + qz*qz*X1*X1*l*x2*z1*z1*z1*z2*z2*z2 - qz*qz*X1*X1*y1*z1*z1*z1*z2*z2*z2 - 3*qz*pz*pz*Y2*X2*X1*z1 + 3*qz*pz*pz*X2*X2*Y1*z2 + 3*qz*pz*X2*X1*l*l*l*z1*z1*z1*z2*z2*z2 - 6*qz*pz*X2*X1*l*x1*z1*z1*z1*z2*z2*z2 - 3*qz*pz*X2*X1*l*x2*z1*z1*z1*z2*z2*z2 + 3*qz*pz*X2*X1*y1*z1*z1*z1*z2*z2*z2 - 3*pz*pz*X2*X2*l*l*l*z1*z1*z1*z2*z2*z2 + 6*pz*pz*X2*X2*l*x1*z1*z1*z1*z2*z2*z2 + 3*pz*pz*X2*X2*l*x2*z1*z1*z1*z2*z2*z2 - 3*pz*pz*X2*X2*y1*z1*z1*z1*z2*z2*z2) h23 (dc (-qz*qz*qz*Y1*X1*X1*X1*z2 + 2*qz*qz*pz*Y2*X1*X1*X1*z1 + qz*qz*Y1*Y1*Y1*z2*z2*z2 - qz*qz*Y1*X1*X1*X1*z2*z2*z2 - qz*qz*X1*X1*X1*l*l*l*z1*z1*z1*z2*z2*z2 + 2*qz*qz*X1*X1*X1*l*x1*z1*z1*z1*z2*z2*z2 + qz*qz*X1*X1*X1*l*x2*z1*z1*z1*z2*z2*z2 - qz*qz*X1*X1*X1*y1*z1*z1*z1*z2*z2*z2 - 3*qz*pz*pz*Y2*X2*X1*X1*z1 + 3*qz*pz*pz*X2*X2*Y1*X1*z2 - 3*qz*pz*Y2*Y1*Y1*z1*z2*z2 + 2*qz*pz*Y2*X1*X1*X1*z1*z2*z2 + 3*qz*pz*X2*X1*X1*l*l*l*z1*z1*z1*z2*z2*z2 - 6*qz*pz*X2*X1*X1*l*x1*z1*z1*z1*z2*z2*z2 - 3*qz*pz*X2*X1*X1*l*x2*z1*z1*z1*z2*z2*z2 + 3*qz*pz*X2*X1*X1*y1*z1*z1*z1*z2*z2*z2 + qz*Y1*Y1*Y1*z2*z2*z2*z2*z2 - qz*Y1*X1*X1*X1*z2*z2*z2*z2*z2 - qz*X1*X1*X1*l*l*l*z1*z1*z1*z2*z2*z2*z2*z2 + 2*qz*X1*X1*X1*l*x1*z1*z1*z1*z2*z2*z2*z2*z2 + qz*X1*X1*X1*l*x2*z1*z1*z1*z2*z2*z2*z2*z2 - qz*X1*X1*X1*y1*z1*z1*z1*z2*z2*z2*z2*z2 - 2*pz*pz*pz*X2*X2*X2*Y1*z2 + 3*pz*pz*Y2*Y2*Y1*z1*z1*z2 - 3*pz*pz*Y2*X2*X1*X1*z1*z2*z2 + 3*pz*pz*X2*X2*Y1*X1*z2*z2*z2 - 3*pz*pz*X2*X2*X1*l*l*l*z1*z1*z1*z2*z2*z2 + 6*pz*pz*X2*X2*X1*l*x1*z1*z1*z1*z2*z2*z2 + 3*pz*pz*X2*X2*X1*l*x2*z1*z1*z1*z2*z2*z2 - 3*pz*pz*X2*X2*X1*y1*z1*z1*z1*z2*z2*z2 - 3*pz*Y2*Y1*Y1*z1*z2*z2*z2*z2 + 2*pz*Y2*X1*X1*X1*z1*z2*z2*z2*z2 + 3*pz*X2*X1*X1*l*l*l*z1*z1*z1*z2*z2*z2*z2*z2 - 6*pz*X2*X1*X1*l*x1*z1*z1*z1*z2*z2*z2*z2*z2 - 3*pz*X2*X1*X1*l*x2*z1*z1*z1*z2*z2*z2*z2*z2 + 3*pz*X2*X1*X1*y1*z1*z1*z1*z2*z2*z2*z2*z2 + Y1*Y1*Y1*z2*z2*z2*z2*z2*z2*z2 - Y1*X1*X1*X1*z2*z2*z2*z2*z2*z2*z2 - X1*X1*X1*l*l*l*z1*z1*z1*z2*z2*z2*z2*z2*z2*z2 + 2*X1*X1*X1*l*x1*z1*z1*z1*z2*z2*z2*z2*z2*z2*z2 + X1*X1*X1*l*x2*z1*z1*z1*z2*z2*z2*z2*z2*z2*z2 - X1*X1*X1*y1*z1*z1*z1*z2*z2*z2*z2*z2*z2*z2) h24 (dc (pz*pz*pz*Y2*X2*X2*X2*z1 - pz*pz*Y2*Y2*Y2*z1*z1*z1 + pz*pz*Y2*X2*X2*X2*z1*z1*z1 - 2*pz*pz*X2*X2*X2*Y1*z2*z2*z2 + pz*pz*X2*X2*X2*l*l*l*z1*z1*z1*z2*z2*z2 - 2*pz*pz*X2*X2*X2*l*x1*z1*z1*z1*z2*z2*z2 - pz*pz*X2*X2*X2*l*x2*z1*z1*z1*z2*z2*z2 + pz*pz*X2*X2*X2*y1*z1*z1*z1*z2*z2*z2 - pz*Y2*Y2*Y2*z1*z1*z1*z1*z1 + 3*pz*Y2*Y2*Y1*z1*z1*z2*z2*z2 + pz*Y2*X2*X2*X2*z1*z1*z1*z1*z1 - 3*pz*Y2*X2*X1*X1*z1*z2*z2*z2*z2 - 2*pz*X2*X2*X2*Y1*z1*z1*z2*z2*z2 + pz*X2*X2*X2*l*l*l*z1*z1*z1*z1*z1*z2*z2*z2 - 2*pz*X2*X2*X2*l*x1*z1*z1*z1*z1*z1*z2*z2*z2 - pz*X2*X2*X2*l*x2*z1*z1*z1*z1*z1*z2*z2*z2 + pz*X2*X2*X2*y1*z1*z1*z1*z1*z1*z2*z2*z2 + 3*pz*X2*X2*Y1*X1*z2*z2*z2*z2*z2 - 3*pz*X2*X2*X1*l*l*l*z1*z1*z1*z2*z2*z2*z2*z2 + 6*pz*X2*X2*X1*l*x1*z1*z1*z1*z2*z2*z2*z2*z2 + 3*pz*X2*X2*X1*l*x2*z1*z1*z1*z2*z2*z2*z2*z2 - 3*pz*X2*X2*X1*y1*z1*z1*z1*z2*z2*z2*z2*z2 - Y2*Y2*Y2*z1*z1*z1*z1*z1*z1*z1 + 3*Y2*Y2*Y1*z1*z1*z1*z1*z2*z2*z2 + Y2*X2*X2*X2*z1*z1*z1*z1*z1*z1*z1 - 3*Y2*X2*X1*X1*z1*z1*z1*z2*z2*z2*z2 - 3*Y2*Y1*Y1*z1*z2*z2*z2*z2*z2*z2 + 2*Y2*X1*X1*X1*z1*z2*z2*z2*z2*z2*z2 - 2*X2*X2*X2*Y1*z1*z1*z1*z1*z2*z2*z2 + X2*X2*X2*l*l*l*z1*z1*z1*z1*z1*z1*z1*z2*z2*z2 - 2*X2*X2*X2*l*x1*z1*z1*z1*z1*z1*z1*z1*z2*z2*z2 - X2*X2*X2*l*x2*z1*z1*z1*z1*z1*z1*z1*z2*z2*z2 + X2*X2*X2*y1*z1*z1*z1*z1*z1*z1*z1*z2*z2*z2 + 3*X2*X2*Y1*X1*z1*z1*z2*z2*z2*z2*z2 - 3*X2*X2*X1*l*l*l*z1*z1*z1*z1*z1*z2*z2*z2*z2*z2 + 6*X2*X2*X1*l*x1*z1*z1*z1*z1*z1*z2*z2*z2*z2*z2 + 3*X2*X2*X1*l*x2*z1*z1*z1*z1*z1*z2*z2*z2*z2*z2 - 3*X2*X2*X1*y1*z1*z1*z1*z1*z1*z2*z2*z2*z2*z2 + 3*X2*X1*X1*l*l*l*z1*z1*z1*z2*z2*z2*z2*z2*z2*z2 - 6*X2*X1*X1*l*x1*z1*z1*z1*z2*z2*z2*z2*z2*z2*z2 - 3*X2*X1*X1*l*x2*z1*z1*z1*z2*z2*z2*z2*z2*z2*z2 + 3*X2*X1*X1*y1*z1*z1*z1*z2*z2*z2*z2*z2*z2*z2) h25 (dc (-3*Y2*X2*X1*z1*z1*z1*z1*z1*z2*z2*z2*z2 - 3*Y2*X2*x1*z1*z1*z1*z1*z1*z1*z1*z2*z2*z2*z2 + 2*Y2*X1*X1*z1*z1*z1*z2*z2*z2*z2*z2*z2 + 2*Y2*X1*x1*z1*z1*z1*z1*z1*z2*z2*z2*z2*z2*z2 + 2*Y2*x1*x1*z1*z1*z1*z1*z1*z1*z1*z2*z2*z2*z2*z2*z2 + 3*X2*X2*Y1*z1*z1*z1*z1*z2*z2*z2*z2*z2 - 3*X2*X2*l*l*l*z1*z1*z1*z1*z1*z1*z1*z2*z2*z2*z2*z2 + 6*X2*X2*l*x1*z1*z1*z1*z1*z1*z1*z1*z2*z2*z2*z2*z2 + 3*X2*X2*l*x2*z1*z1*z1*z1*z1*z1*z1*z2*z2*z2*z2*z2 - 3*X2*X2*y1*z1*z1*z1*z1*z1*z1*z1*z2*z2*z2*z2*z2 + 3*X2*X1*l*l*l*z1*z1*z1*z1*z1*z2*z2*z2*z2*z2*z2*z2 - 6*X2*X1*l*x1*z1*z1*z1*z1*z1*z2*z2*z2*z2*z2*z2*z2 - 3*X2*X1*l*x2*z1*z1*z1*z1*z1*z2*z2*z2*z2*z2*z2*z2 + 3*X2*X1*y1*z1*z1*z1*z1*z1*z2*z2*z2*z2*z2*z2*z2 + 3*X2*l*l*l*x1*z1*z1*z1*z1*z1*z1*z1*z2*z2*z2*z2*z2*z2*z2 - 6*X2*l*x1*x1*z1*z1*z1*z1*z1*z1*z1*z2*z2*z2*z2*z2*z2*z2 - 3*X2*l*x1*x2*z1*z1*z1*z1*z1*z1*z1*z2*z2*z2*z2*z2*z2*z2 + 3*X2*y1*x1*z1*z1*z1*z1*z1*z1*z1*z2*z2*z2*z2*z2*z2*z2 - Y1*X1*X1*z2*z2*z2*z2*z2*z2*z2*z2*z2 - Y1*X1*x1*z1*z1*z2*z2*z2*z2*z2*z2*z2*z2*z2 - Y1*x1*x1*z1*z1*z1*z1*z2*z2*z2*z2*z2*z2*z2*z2*z2 - X1*X1*l*l*l*z1*z1*z1*z2*z2*z2*z2*z2*z2*z2*z2*z2 + 2*X1*X1*l*x1*z1*z1*z1*z2*z2*z2*z2*z2*z2*z2*z2*z2 + X1*X1*l*x2*z1*z1*z1*z2*z2*z2*z2*z2*z2*z2*z2*z2 - X1*X1*y1*z1*z1*z1*z2*z2*z2*z2*z2*z2*z2*z2*z2 - X1*l*l*l*x1*z1*z1*z1*z1*z1*z2*z2*z2*z2*z2*z2*z2*z2*z2 + 2*X1*l*x1*x1*z1*z1*z1*z1*z1*z2*z2*z2*z2*z2*z2*z2*z2*z2 + X1*l*x1*x2*z1*z1*z1*z1*z1*z2*z2*z2*z2*z2*z2*z2*z2*z2 - X1*y1*x1*z1*z1*z1*z1*z1*z2*z2*z2*z2*z2*z2*z2*z2*z2 - l*l*l*x1*x1*z1*z1*z1*z1*z1*z1*z1*z2*z2*z2*z2*z2*z2*z2*z2*z2 + 2*l*x1*x1*x1*z1*z1*z1*z1*z1*z1*z1*z2*z2*z2*z2*z2*z2*z2*z2*z2 + l*x1*x1*x2*z1*z1*z1*z1*z1*z1*z1*z2*z2*z2*z2*z2*z2*z2*z2*z2 - y1*x1*x1*z1*z1*z1*z1*z1*z1*z1*z2*z2*z2*z2*z2*z2*z2*z2*z2) h26 (dc (3*Y2*Y2*z1*z1*z1*z1*z1*z1*z2*z2*z2 - 3*Y2*Y1*z1*z1*z1*z2*z2*z2*z2*z2*z2 - 3*Y2*y1*z1*z1*z1*z1*z1*z1*z2*z2*z2*z2*z2*z2 - 2*X2*X2*X2*z1*z1*z1*z1*z1*z1*z2*z2*z2 + 3*X2*X2*x1*z1*z1*z1*z1*z1*z1*z2*z2*z2*z2*z2 + Y1*Y1*z2*z2*z2*z2*z2*z2*z2*z2*z2 + Y1*y1*z1*z1*z1*z2*z2*z2*z2*z2*z2*z2*z2*z2 - x1*x1*x1*z1*z1*z1*z1*z1*z1*z2*z2*z2*z2*z2*z2*z2*z2*z2 + y1*y1*z1*z1*z1*z1*z1*z1*z2*z2*z2*z2*z2*z2*z2*z2*z2) h27 (dc (Y2*X2*X2*z1*z1*z1*z1*z1*z1*z1*z1*z1 + Y2*X2*x2*z1*z1*z1*z1*z1*z1*z1*z1*z1*z2*z2 - 3*Y2*x1*x1*z1*z1*z1*z1*z1*z1*z1*z1*z1*z2*z2*z2*z2 + Y2*x2*x2*z1*z1*z1*z1*z1*z1*z1*z1*z1*z2*z2*z2*z2 + X2*X2*l*l*l*z1*z1*z1*z1*z1*z1*z1*z1*z1*z2*z2*z2 - 2*X2*X2*l*x1*z1*z1*z1*z1*z1*z1*z1*z1*z1*z2*z2*z2 - X2*X2*l*x2*z1*z1*z1*z1*z1*z1*z1*z1*z1*z2*z2*z2 - X2*X2*y1*z1*z1*z1*z1*z1*z1*z1*z1*z1*z2*z2*z2 - 3*X2*l*l*l*x1*z1*z1*z1*z1*z1*z1*z1*z1*z1*z2*z2*z2*z2*z2 + X2*l*l*l*x2*z1*z1*z1*z1*z1*z1*z1*z1*z1*z2*z2*z2*z2*z2 + 6*X2*l*x1*x1*z1*z1*z1*z1*z1*z1*z1*z1*z1*z2*z2*z2*z2*z2 + X2*l*x1*x2*z1*z1*z1*z1*z1*z1*z1*z1*z1*z2*z2*z2*z2*z2 - X2*l*x2*x2*z1*z1*z1*z1*z1*z1*z1*z1*z1*z2*z2*z2*z2*z2 - X2*y1*x2*z1*z1*z1*z1*z1*z1*z1*z1*z1*z2*z2*z2*z2*z2 + 3*l*l*l*x1*x1*z1*z1*z1*z1*z1*z1*z1*z1*z1*z2*z2*z2*z2*z2*z2*z2 - 3*l*l*l*x1*x2*z1*z1*z1*z1*z1*z1*z1*z1*z1*z2*z2*z2*z2*z2*z2*z2 + l*l*l*x2*x2*z1*z1*z1*z1*z1*z1*z1*z1*z1*z2*z2*z2*z2*z2*z2*z2 - 6*l*x1*x1*x1*z1*z1*z1*z1*z1*z1*z1*z1*z1*z2*z2*z2*z2*z2*z2*z2 + 3*l*x1*x1*x2*z1*z1*z1*z1*z1*z1*z1*z1*z1*z2*z2*z2*z2*z2*z2*z2 + l*x1*x2*x2*z1*z1*z1*z1*z1*z1*z1*z1*z1*z2*z2*z2*z2*z2*z2*z2 - l*x2*x2*x2*z1*z1*z1*z1*z1*z1*z1*z1*z1*z2*z2*z2*z2*z2*z2*z2 + 3*y1*x1*x1*z1*z1*z1*z1*z1*z1*z1*z1*z1*z2*z2*z2*z2*z2*z2*z2 - y1*x2*x2*z1*z1*z1*z1*z1*z1*z1*z1*z1*z2*z2*z2*z2*z2*z2*z2) h28 (dc (-Y2*Y2*z1*z1*z1*z1*z1*z1*z1*z1*z1 + Y2*l*x1*z1*z1*z1*z1*z1*z1*z1*z1*z1*z2*z2*z2 - Y2*l*x2*z1*z1*z1*z1*z1*z1*z1*z1*z1*z2*z2*z2 + 2*Y2*y1*z1*z1*z1*z1*z1*z1*z1*z1*z1*z2*z2*z2 - l*l*x1*x1*z1*z1*z1*z1*z1*z1*z1*z1*z1*z2*z2*z2*z2*z2*z2 + 2*l*l*x1*x2*z1*z1*z1*z1*z1*z1*z1*z1*z1*z2*z2*z2*z2*z2*z2 - l*l*x2*x2*z1*z1*z1*z1*z1*z1*z1*z1*z1*z2*z2*z2*z2*z2*z2 - y1*l*x1*z1*z1*z1*z1*z1*z1*z1*z1*z1*z2*z2*z2*z2*z2*z2 + 2*x1*x1*x1*z1*z1*z1*z1*z1*z1*z1*z1*z1*z2*z2*z2*z2*z2*z2 + y1*l*x2*z1*z1*z1*z1*z1*z1*z1*z1*z1*z2*z2*z2*z2*z2*z2 - 3*x1*x1*x2*z1*z1*z1*z1*z1*z1*z1*z1*z1*z2*z2*z2*z2*z2*z2 + x2*x2*x2*z1*z1*z1*z1*z1*z1*z1*z1*z1*z2*z2*z2*z2*z2*z2 - y1*y1*z1*z1*z1*z1*z1*z1*z1*z1*z1*z2*z2*z2*z2*z2*z2) h29 (dz p))))))))))))))))))))))))))))))) (by clear h0 h1 h2 h3 h4 h5 h6 h7 h8 h9 h10 h11 h12 h13 h14 h15 h16 h17 h18 h19 h20 h21 h22 h23 h24 h25 h26 h27 h28 h29; grind)
theorem atW {p x3 s2 X x z i : Int} (h0 : p ∣ x3-(X*s2)) (h1 : p ∣ s2-(i*i)) (h2 : p ∣ X-x*(z*z)) (h3 : p ∣ z*i-1) : p ∣ (x3-x) :=
  dk (dc (1) h0 (dc (X) h1 (dc (i*i) h2 (dc (x*z*i + x) h3 (dz p))))) (by clear h0 h1 h2 h3; grind)
theorem atV {p y3 s3 s2 Y y z i : Int} (h0 : p ∣ y3-(Y*s3)) (h1 : p ∣ s3-(s2*i)) (h2 : p ∣ s2-(i*i)) (h3 : p ∣ Y-y*(z*z*z)) (h4 : p ∣ z*i-1) : p ∣ (y3-y) :=
  dk (dc (1) h0 (dc (Y) h1 (dc (Y*i) h2 (dc (i*i*i) h3 (dc (y*z*z*i*i + y*z*i + y) h4 (dz p)))))) (by clear h0 h1 h2 h3 h4; grind)
theorem atJ {p s x3 xx dx x y iv : Int} (h0 : p ∣ s-(x3*iv)) (h1 : p ∣ x3-(3*xx)) (h2 : p ∣ xx-(x*x)) (h3 : p ∣ dx-(y+y)) (h4 : p ∣ dx*iv-1) : p ∣ (s*(y+y)-(x*x+x*x+x*x)) :=
  dk (dc (2*y) h0 (dc (2*y*iv) h1 (dc (6*y*iv) h2 (dc (-3*x*x*iv) h3 (dc (3*x*x) h4 (dz p)))))) (by clear h0 h1 h2 h3 h4; grind)
theorem at9 {p s dy dx x1 x2 y1 y2 iv : Int} (h0 : p ∣ s-(dy*iv)) (h1 : p ∣ dy-(y2-y1)) (h2 : p ∣ dx-(x2-x1)) (h3 : p ∣ dx*iv-1) : p ∣ (s*(x1-x2)-(y1-y2)) :=
  dk (dc (x1 - x2) h0 (dc (x1*iv - x2*iv) h1 (dc (-y1*iv + y2*iv) h2 (dc (y1 - y2) h3 (dz p))))) (by clear h0 h1 h2 h3; grind)
theorem atH {p y3 e d x y1 x1 t : Int} (h0 : p ∣ y3-(e-y1)) (h1 : p ∣ e-(t*d)) (h2 : p ∣ d-(x1-x)) : p ∣ (y3-(t*(x1-x)-y1)) :=
  dk (dc (1) h0 (dc (1) h1 (dc (t) h2 (dz p)))) (by clear h0 h1 h2; grind)
theorem atI {p x d a x1 x2 t : Int} (h0 : p ∣ x-(d-x2)) (h1 : p ∣ d-(a-x1)) (h2 : p ∣ a-(t*t)) : p ∣ (x-(t*t-x1-x2)) :=
  dk (dc (1) h0 (dc (1) h1 (dc (1) h2 (dz p)))) (by clear h0 h1 h2; grind)
theorem at7 {p z xxx xx y x b : Int} (h0 : p ∣ z-(y*y)) (h1 : p ∣ z-(xxx+b)) (h2 : p ∣ xxx-(xx*x)) (h3 : p ∣ xx-(x*x)) : p ∣ (y*y-x*x*x-b) :=
  dk (dc (-1) h0 (dc (1) h1 (dc (1) h2 (dc (x) h3 (dz p))))) (by clear h0 h1 h2 h3; grind)
theorem at6 {p u z xxx xx y x b : Int} (h0 : p ∣ u-(y*y)) (h1 : p ∣ z-(xxx+b)) (h2 : p ∣ xxx-(xx*x)) (h3 : p ∣ xx-(x*x)) (h4 : p ∣ y*y-x*x*x-b) : p ∣ (u-z) :=
  dk (dc (1) h0 (dc (-1) h1 (dc (-1) h2 (dc (-x) h3 (dc (1) h4 (dz p)))))) (by clear h0 h1 h2 h3 h4; grind)
end Go.Proofs.YtohjofabochgfaaGreat

namespace Go.Proofs.YtohjofabochgfaaGreat
open Sx Go
abbrev Sm (p : Nat) : Prop := 0 < p ∧ p < 57896044618658097711785492504343953926634992332820282019728792003956564819968
theorem as6 {p a b : Int} (h2 : p ∣ a) (h1 : p ∣ a - b) : p ∣ b := by
  obtain ⟨k, hk⟩ := h1
  obtain ⟨m, hm⟩ := h2
  exact ⟨m - k, by rw [Int.mul_sub]; omega⟩
theorem anr {p : Nat} (n : Nat) : (p : Int) ∣ ((n % p : Nat) : Int) - (n : Int) := by
  have := Nat.div_add_mod n p
  refine ⟨-((n / p : Nat) : Int), ?_⟩
  have h : ((p * (n / p) + n % p : Nat) : Int) = (n : Int) := by rw [this]
  rw [Int.natCast_add, Int.natCast_mul] at h
  rw [Int.mul_neg]
  omega
variable {p : Nat}
theorem bY (hp : Sm p) (a b : aa) : (p : Int) ∣ ((aR p a b).nat : Int) - ((a.nat : Int) * (b.nat : Int)) := by
  have e : (aR p a b).nat = a.nat * b.nat % p := cH hp
  rw [e]
  have := anr (p := p) (a.nat * b.nat)
  rwa [Int.natCast_mul] at this
theorem Y6 (hp : Sm p) (a b : aa) : (p : Int) ∣ ((n7 p a b).nat : Int) - ((a.nat : Int) + (b.nat : Int)) := by
  have e : (n7 p a b).nat = (a.nat + b.nat) % p := cH hp
  rw [e]
  have := anr (p := p) (a.nat + b.nat)
  rwa [Int.natCast_add] at this
theorem asv (hp : Sm p) (a : aa) : (p : Int) ∣ ((Gm p a).nat : Int) - -(a.nat : Int) := by
  have e : (Gm p a).nat = (p - a.nat % p) % p := cH hp
  rw [e]
  obtain ⟨k, hk⟩ := anr (p := p) (p - a.nat % p)
  obtain ⟨m, hm⟩ := anr (p := p) a.nat
  have hlt := Nat.mod_lt a.nat hp.1
  have e2 : ((p - a.nat % p : Nat) : Int) = (p : Int) - ((a.nat % p : Nat) : Int) := by omega
  rw [e2] at hk
  generalize (((p - a.nat % p) % p : Nat) : Int) = u at *
  generalize ((a.nat % p : Nat) : Int) = v at *
  exact ⟨k + 1 - m, by grind⟩
theorem jE (hp : Sm p) (a b : aa) : (p : Int) ∣ ((e9 p a b).nat : Int) - ((a.nat : Int) - (b.nat : Int)) := by
  obtain ⟨k, hk⟩ := Y6 hp a (Gm p b)
  obtain ⟨m, hm⟩ := asv hp b
  unfold e9
  generalize ((n7 p a (Gm p b)).nat : Int) = u at *
  exact ⟨k + m, by grind⟩
theorem Di (hp : Sm p) (a b : aa) : (aR p a b).nat < p := by
  rw [show (aR p a b).nat = a.nat * b.nat % p from cH hp]
  exact Nat.mod_lt _ hp.1
theorem aik (hp : Sm p) (a b : aa) : (n7 p a b).nat < p := by
  rw [show (n7 p a b).nat = (a.nat + b.nat) % p from cH hp]
  exact Nat.mod_lt _ hp.1
theorem Jb (hp : Sm p) (a b : aa) : (e9 p a b).nat < p := aik hp _ _
theorem ags (hp : Sm p) (pr : Pr p) {z : aa} (hz : ¬ (p : Int) ∣ (z.nat : Int)) : (p : Int) ∣ (z.nat : Int) * ((ug p z).nat : Int) - 1 := by
  have h2 := pr.1
  have hz' : ¬ p ∣ z.nat := fun h => hz (Int.natCast_dvd_natCast.2 h)
  have e : Nat.beq (z.nat % p) 0 = false := by
    cases h : Nat.beq (z.nat % p) 0
    · rfl
    · exact absurd (Nat.dvd_of_mod_eq_zero (Nat.eq_of_beq_eq_true h)) hz'
  have e2 : (ug p z).nat = z.nat ^ (p - 2) % p := by
    unfold ug aiy
    rw [e]
    simp only [cond_false]
    have hb : p - 2 < 2 ^ 256 := by have := hp.2; omega
    rw [JS 256 1 _ _ hb (by omega), Nat.one_mul, ← Nat.pow_mod]
    exact cH hp
  rw [e2]
  have hf := Ys pr hz'
  have e3 : z.nat ^ (p - 1) = z.nat * z.nat ^ (p - 2) := by
    rw [show p - 1 = (p - 2) + 1 by omega, Nat.pow_succ, Nat.mul_comm]
  rw [e3] at hf
  obtain ⟨k, hk⟩ := anr (p := p) (z.nat ^ (p - 2))
  obtain ⟨m, hm⟩ := anr (p := p) (z.nat * z.nat ^ (p - 2))
  rw [hf] at hm
  rw [Int.natCast_mul] at hm
  generalize ((z.nat ^ (p - 2) % p : Nat) : Int) = u at *
  generalize ((z.nat ^ (p - 2) : Nat) : Int) = v at *
  have hm : (1 : Int) - (z.nat : Int) * v = (p : Int) * m := hm
  exact ⟨(z.nat : Int) * k - m, by grind⟩
def toQ (P : Pt) : PtQ := cond P.2.2 none (some (P.1.nat, P.2.1.nat))
theorem agj (hp : Sm p) (X Y X2 s : aa) : Thd p X.nat Y.nat X2.nat s.nat (yH p X Y X2 s).1.nat (yH p X Y X2 s).2.1.nat := by
  unfold yH
  dsimp only
  have h1 := bY hp s s
  have h2 := jE hp (aR p s s) X
  have h3 := jE hp (e9 p (aR p s s) X) X2
  generalize e9 p (e9 p (aR p s s) X) X2 = x3 at *
  have h4 := jE hp X x3
  have h5 := bY hp s (e9 p X x3)
  have h6 := jE hp (aR p s (e9 p X x3)) Y
  exact ⟨atI h3 h2 h1, atH h6 h5 h4⟩
theorem XX {b : Nat} (c : Cur p b) (hp : Sm p) {X Y X2 Y2 s : aa} (hP : OnQ p b (some (X.nat, Y.nat))) (hR : OnQ p b (some (X2.nat, Y2.nat))) (hl : Lin p X.nat Y.nat X2.nat Y2.nat s.nat) :
    toQ (yH p X Y X2 s) = cP p (some (X.nat, Y.nat)) (some (X2.nat, Y2.nat)) := by
  have h := agj hp X Y X2 s
  exact (WB c (P := (X.nat, Y.nat)) (R := (X2.nat, Y2.nat)) (S := ((yH p X Y X2 s).1.nat, (yH p X Y X2 s).2.1.nat)) hP hR hl (Jb hp _ _) (Jb hp _ _) h).symm
theorem Me : (aa.mk 3 0 0 0).nat = 3 := by decide
theorem Cd {b : Nat} (c : Cur p b) (hp : Sm p) {P R : Pt} (hP : OnQ p b (toQ P)) (hR : OnQ p b (toQ R)) : toQ (dV p P R) = cP p (toQ P) (toQ R) := by
  obtain ⟨X, Y, i⟩ := P
  obtain ⟨X2, Y2, j⟩ := R
  cases i
  · cases j
    · have hP' : OnQ p b (some (X.nat, Y.nat)) := hP
      have hR' : OnQ p b (some (X2.nat, Y2.nat)) := hR
      have n1 : ¬ (p : Int) ∣ (Y.nat : Int) := c.yne hP'.2.2
      show toQ (dV p (X, Y, false) (X2, Y2, false)) = cP p (some (X.nat, Y.nat)) (some (X2.nat, Y2.nat))
      rcases (Bool.eq_false_or_eq_true (eqE X X2)).symm with h | h
      · have e : dV p (X, Y, false) (X2, Y2, false) = yH p X Y X2 (byP p (e9 p Y2 Y) (e9 p X2 X)) := by unfold dV; simp only [cond_false, h]
        rw [e]
        refine XX c hp hP' hR' ?_
        have hx : X.nat ≠ X2.nat := fun e => by rw [j7 e, KY] at h; cases h
        have hd := jE hp X2 X
        have hn : ¬ (p : Int) ∣ ((e9 p X2 X).nat : Int) := fun hn => by
          obtain ⟨k, hk⟩ := hd
          obtain ⟨m, hm⟩ := hn
          exact hx (fJ hP'.1 hR'.1 ⟨k - m, by grind⟩)
        have hi := ags hp c.pr hn
        have hm := bY hp (e9 p Y2 Y) (ug p (e9 p X2 X))
        have hy := jE hp Y2 Y
        unfold byP
        generalize e9 p X2 X = dx at *
        generalize ug p dx = iv at *
        generalize e9 p Y2 Y = dy at *
        generalize aR p dy iv = s at *
        have ha : (p : Int) ∣ (s.nat : Int) * ((X.nat : Int) - X2.nat) - ((Y.nat : Int) - Y2.nat) := at9 hm hy hd hi
        refine ⟨ha, ?_⟩
        have hn' : ¬ (p : Int) ∣ (X.nat : Int) - X2.nat := fun hh => hx (fJ hP'.1 hR'.1 hh)
        have hc1 : (p : Int) ∣ (Y.nat : Int) * Y.nat - X.nat * X.nat * X.nat - b := hP'.2.2
        have hc2 : (p : Int) ∣ (Y2.nat : Int) * Y2.nat - X2.nat * X2.nat * X2.nat - b := hR'.2.2
        exact (c.pr.dR (ahL hc1 hc2 ha)).resolve_left hn'
      · rcases (Bool.eq_false_or_eq_true (eqE Y Y2)).symm with h2 | h2
        · have e : dV p (X, Y, false) (X2, Y2, false) = aD := by unfold dV; simp only [cond_false, cond_true, h, h2]
          rw [e]
          refine (if_pos ⟨?_, fun e => ?_⟩).symm
          · show X.nat = X2.nat
            rw [ja.1 h]
          · rw [j7 e, KY] at h2
            cases h2
        · have e : dV p (X, Y, false) (X2, Y2, false) = yH p X Y X2 (byP p (aR p ⟨3, 0, 0, 0⟩ (aR p X X)) (n7 p Y Y)) := by unfold dV; simp only [cond_false, cond_true, h, h2]
          rw [e]
          refine XX c hp hP' hR' ?_
          obtain rfl := ja.1 h
          obtain rfl := ja.1 h2
          have hd := Y6 hp Y Y
          have hn : ¬ (p : Int) ∣ ((n7 p Y Y).nat : Int) := fun hn => by
            obtain ⟨k, hk⟩ := hd
            obtain ⟨m, hm⟩ := hn
            rcases c.pr.dR (a := 2) (b := (Y.nat : Int)) ⟨m - k, by grind⟩ with h | h
            · exact c.no2 h
            · exact n1 h
          have hi := ags hp c.pr hn
          have hm := bY hp (aR p ⟨3, 0, 0, 0⟩ (aR p X X)) (ug p (n7 p Y Y))
          have h3 := bY hp ⟨3, 0, 0, 0⟩ (aR p X X)
          have h4 := bY hp X X
          rw [Me] at h3
          unfold byP
          generalize n7 p Y Y = dx at *
          generalize ug p dx = iv at *
          generalize aR p X X = xx at *
          generalize aR p ⟨3, 0, 0, 0⟩ xx = x3 at *
          generalize aR p x3 iv = s at *
          exact ⟨⟨0, by rw [Int.sub_self, Int.sub_self, Int.mul_zero, Int.mul_zero]; rfl⟩, atJ hm h3 h4 hd hi⟩
    · show toQ (dV p (X, Y, false) (X2, Y2, true)) = _
      have e : dV p (X, Y, false) (X2, Y2, true) = (X, Y, false) := by unfold dV; simp only [cond_false, cond_true]
      rw [e]
      rfl
  · have e : dV p (X, Y, true) (X2, Y2, j) = (X2, Y2, j) := by unfold dV; simp only [cond_true]
    rw [e]
    rfl
theorem QG : (aa.mk 2 0 0 0).nat = 2 := by decide
theorem amf : (aa.mk 4 0 0 0).nat = 4 := by decide
theorem ahm : (aa.mk 8 0 0 0).nat = 8 := by decide
theorem J2 : (aa.mk 1 0 0 0).nat = 1 := by decide
theorem lV : (aa.mk 0 0 0 0).nat = 0 := by decide
def amV (p : Nat) (w : BX) : PtQ → Prop
  | none => w.2.2.nat = 0
  | some P => w.2.2.nat < p ∧ ¬ (p : Int) ∣ (w.2.2.nat : Int) ∧ (p : Int) ∣ (w.1.nat : Int) - (P.1 : Int) * ((w.2.2.nat : Int) * (w.2.2.nat : Int)) ∧
      (p : Int) ∣ (w.2.1.nat : Int) - (P.2 : Int) * ((w.2.2.nat : Int) * (w.2.2.nat : Int) * (w.2.2.nat : Int))
theorem I3 {e : aa} (h : e.nat = 0) : cp e = true := by rw [fq, h]; rfl
theorem qi {e : aa} (h : ¬ (p : Int) ∣ (e.nat : Int)) : cp e = false := by
  rw [fq]
  cases hb : Nat.beq e.nat 0
  · rfl
  · exact absurd ⟨0, by rw [Nat.eq_of_beq_eq_true hb]; rfl⟩ h
variable {b : Nat}
theorem ahq (c : Cur p b) (hp : Sm p) {w : BX} {P : PtQ} (hP : OnQ p b P) (h : amV p w P) : amV p (Tj p w) (cP p P P) := by
  obtain ⟨X, Y, Z⟩ := w
  cases P with
  | none =>
    have e : Tj p (X, Y, Z) = (X, Y, Z) := by unfold Tj; rw [I3 (e := Z) h]; rfl
    rw [e]
    exact h
  | some P =>
    obtain ⟨hz, hzn, hX, hY⟩ := h
    have e : Tj p (X, Y, Z) = at5 p X Y Z := by unfold Tj; rw [qi (e := Z) hzn]; rfl
    rw [e]
    cases hs : cP p (some P) (some P) with
    | none =>
      have : cP p (some P) (some P) = some (rY p P P (nL p P P)) := if_neg fun h => h.2 rfl
      rw [this] at hs
      cases hs
    | some S =>
      obtain ⟨hS1, hS2, l, hl, ht⟩ := kU c hP hP hs
      have hyy := bY hp Y Y
      have ha := bY hp X (aR p Y Y)
      have hs := bY hp (aR p X (aR p Y Y)) ⟨4, 0, 0, 0⟩
      have hb := bY hp X X
      have hm := bY hp (aR p X X) ⟨3, 0, 0, 0⟩
      unfold at5 jD
      dsimp only
      rw [amf] at hs
      rw [Me] at hm
      generalize aR p (aR p X X) ⟨3, 0, 0, 0⟩ = m at *
      generalize aR p (aR p X (aR p Y Y)) ⟨4, 0, 0, 0⟩ = s at *
      have hmm := bY hp m m
      have hs2 := bY hp s ⟨2, 0, 0, 0⟩
      rw [QG] at hs2
      have hx3 := jE hp (aR p m m) (aR p s ⟨2, 0, 0, 0⟩)
      generalize e9 p (aR p m m) (aR p s ⟨2, 0, 0, 0⟩) = x3 at *
      have hd := jE hp s x3
      have hmd := bY hp m (e9 p s x3)
      have hy4 := bY hp (aR p Y Y) (aR p Y Y)
      have hy8 := bY hp (aR p (aR p Y Y) (aR p Y Y)) ⟨8, 0, 0, 0⟩
      rw [ahm] at hy8
      have hy3 := jE hp (aR p m (e9 p s x3)) (aR p (aR p (aR p Y Y) (aR p Y Y)) ⟨8, 0, 0, 0⟩)
      have hyz := bY hp Y Z
      have hz3 := bY hp (aR p Y Z) ⟨2, 0, 0, 0⟩
      rw [QG] at hz3
      have hzz := at2 hz3 hyz hY
      refine ⟨Di hp _ _, fun hn => ?_, at4 ht.x hl.b hz3 hyz hx3 hs2 hmm hm hb hs ha hyy hX hY, at3 ht.y ht.x hl.b hz3 hyz hy3 hy8 hy4 hmd hd hx3 hs2 hmm hm hb hs ha hyy hX hY⟩
      have h2 : (p : Int) ∣ 2 * ((P.2 : Int) * ((Z.nat : Int) * ((Z.nat : Int) * ((Z.nat : Int) * Z.nat)))) := as6 hn hzz
      rcases c.pr.dR h2 with h | h
      · exact c.no2 h
      · rcases c.pr.dR h with h | h
        · exact c.yne hP.2.2 h
        · rcases c.pr.dR h with h | h
          · exact hzn h
          · rcases c.pr.dR h with h | h
            · exact hzn h
            · rcases c.pr.dR h with h | h <;> exact hzn h
end Go.Proofs.YtohjofabochgfaaGreat

namespace Go.Proofs.YtohjofabochgfaaGreat
open Sx Go
theorem TZ {p b : Nat} (c : Cur p b) (hp : Sm p) {w v : BX} {P R : PtQ} (hP : OnQ p b P) (hR : OnQ p b R) (h : amV p w P) (k : amV p v R) : amV p (PZ p w v) (cP p P R) := by
  obtain ⟨X1, Y1, Z1⟩ := w
  obtain ⟨X2, Y2, Z2⟩ := v
  cases P with
  | none =>
    have e : PZ p (X1, Y1, Z1) (X2, Y2, Z2) = (X2, Y2, Z2) := by unfold PZ; rw [I3 (e := Z1) h]; rfl
    rw [e]
    exact k
  | some P =>
  cases R with
  | none =>
    have e : PZ p (X1, Y1, Z1) (X2, Y2, Z2) = (X1, Y1, Z1) := by unfold PZ; rw [qi (e := Z1) h.2.1, I3 (e := Z2) k]; rfl
    rw [e]
    exact h
  | some R =>
    have hw := h
    obtain ⟨hz, hzn, hX, hY⟩ := h
    obtain ⟨kz, kzn, kX, kY⟩ := k
    have e : PZ p (X1, Y1, Z1) (X2, Y2, Z2) = atG p (X1, Y1, Z1) (X2, Y2, Z2) := by unfold PZ; rw [qi (e := Z1) hzn, qi (e := Z2) kzn]; rfl
    rw [e]
    unfold atG
    dsimp only at *
    have hpz := bY hp Z1 Z1
    have hqz := bY hp Z2 Z2
    have hu := bY hp X1 (aR p Z2 Z2)
    have hq3 := bY hp (aR p Z2 Z2) Z2
    have hs := bY hp Y1 (aR p (aR p Z2 Z2) Z2)
    have hv := bY hp X2 (aR p Z1 Z1)
    have hp3 := bY hp (aR p Z1 Z1) Z1
    have ht := bY hp Y2 (aR p (aR p Z1 Z1) Z1)
    generalize aR p X1 (aR p Z2 Z2) = u at *
    generalize aR p Y1 (aR p (aR p Z2 Z2) Z2) = s at *
    generalize aR p X2 (aR p Z1 Z1) = v at *
    generalize aR p Y2 (aR p (aR p Z1 Z1) Z1) = t at *
    have hh := jE hp v u
    have hr := jE hp t s
    have lh := Jb hp v u
    have lr := Jb hp t s
    generalize e9 p v u = H at *
    generalize e9 p t s = r at *
    have ah := aug hh hv hu hqz hpz hX kX
    have ar := auf hr ht hp3 hs hq3 hqz hpz hY kY
    have out : ∀ {a z : Int}, ¬ (p : Int) ∣ z → (p : Int) ∣ a * z → (p : Int) ∣ a := fun hz h => (c.pr.dR h).resolve_right hz
    have mul : ∀ {a z : Int}, ¬ (p : Int) ∣ a → ¬ (p : Int) ∣ z → ¬ (p : Int) ∣ a * z := fun ha hz h => (c.pr.dR h).elim ha hz
    have n4 := mul (mul hzn hzn) (mul kzn kzn)
    have n6 := mul (mul (mul hzn hzn) hzn) (mul (mul kzn kzn) kzn)
    unfold auh
    rcases (Bool.eq_false_or_eq_true (cp H)).symm with h1 | h1
    · rw [h1]
      simp only [cond_false]
      have hHn : ¬ (p : Int) ∣ (H.nat : Int) := fun hd => by
        rw [fq] at h1
        have := Nat.eq_zero_of_dvd_of_lt (Int.natCast_dvd_natCast.1 hd) lh
        rw [this] at h1
        cases h1
      have hxn : P.1 ≠ R.1 := fun hx => hHn (by
        rw [hx, Int.sub_self, Int.zero_mul, Int.sub_zero] at ah
        exact ah)
      cases hS : cP p (some P) (some R) with
      | none =>
        have : cP p (some P) (some R) = some (rY p P R (nL p P R)) := if_neg fun h => hxn h.1
        rw [this] at hS
        cases hS
      | some S =>
        obtain ⟨hS1, hS2, l, hl, hT⟩ := kU c hP hR hS
        unfold aut jD
        dsimp only
        have hhh := bY hp H H
        have hhhh := bY hp (aR p H H) H
        have hcc := bY hp u (aR p H H)
        have hrr := bY hp r r
        have hrh := jE hp (aR p r r) (aR p (aR p H H) H)
        have hc2 := bY hp (aR p u (aR p H H)) ⟨2, 0, 0, 0⟩
        rw [QG] at hc2
        have hx3 := jE hp (e9 p (aR p r r) (aR p (aR p H H) H)) (aR p (aR p u (aR p H H)) ⟨2, 0, 0, 0⟩)
        generalize e9 p (e9 p (aR p r r) (aR p (aR p H H) H)) (aR p (aR p u (aR p H H)) ⟨2, 0, 0, 0⟩) = x3 at *
        have hd := jE hp (aR p u (aR p H H)) x3
        have hrd := bY hp r (e9 p (aR p u (aR p H H)) x3)
        have hsh := bY hp s (aR p (aR p H H) H)
        have hy3 := jE hp (aR p r (e9 p (aR p u (aR p H H)) x3)) (aR p s (aR p (aR p H H) H))
        have hzz := bY hp Z1 Z2
        have hz3 := bY hp H (aR p Z1 Z2)
        refine ⟨Di hp _ _, fun hn => ?_, aue hT.x hl.a hz3 hzz hx3 hc2 hrh hrr hcc hhhh hhh hr ht hp3 hh hv hs hq3 hu hqz hpz hX hY kX kY,
          aud hT.y hT.x hl.a hz3 hzz hy3 hsh hrd hd hx3 hc2 hrh hrr hcc hhhh hhh hr ht hp3 hh hv hs hq3 hu hqz hpz hX hY kX kY⟩
        have h2 := as6 hn hz3
        rcases c.pr.dR h2 with h | h
        · exact hHn h
        · have h3 := as6 h hzz
          exact mul hzn kzn h3
    · rw [h1]
      simp only [cond_true]
      have hH : H.nat = 0 := by rw [fq] at h1; exact Nat.eq_of_beq_eq_true h1
      have hx : P.1 = R.1 := by
        rw [hH] at ah
        have : (p : Int) ∣ ((R.1 : Int) - P.1) * ((Z1.nat : Int) * Z1.nat * (Z2.nat * Z2.nat)) := as6 (Int.dvd_zero _) ah
        exact (fJ hR.1 hP.1 (out n4 this)).symm
      rcases (Bool.eq_false_or_eq_true (cp r)).symm with h2 | h2
      · rw [h2]
        simp only [cond_false]
        have hy : P.2 ≠ R.2 := fun hy => by
          rw [hy, Int.sub_self, Int.zero_mul, Int.sub_zero] at ar
          rw [fq] at h2
          have := Nat.eq_zero_of_dvd_of_lt (Int.natCast_dvd_natCast.1 ar) lr
          rw [this] at h2
          cases h2
        have : cP p (some P) (some R) = none := if_pos ⟨hx, hy⟩
        rw [this]
        exact lV
      · rw [h2]
        simp only [cond_true]
        have hr0 : r.nat = 0 := by rw [fq] at h2; exact Nat.eq_of_beq_eq_true h2
        have hy : P.2 = R.2 := by
          rw [hr0] at ar
          have : (p : Int) ∣ ((R.2 : Int) - P.2) * ((Z1.nat : Int) * Z1.nat * Z1.nat * (Z2.nat * Z2.nat * Z2.nat)) := as6 (Int.dvd_zero _) ar
          exact (fJ hR.2.1 hP.2.1 (out n6 this)).symm
        have : R = P := by
          obtain ⟨P1, P2⟩ := P
          obtain ⟨R1, R2⟩ := R
          dsimp only at hx hy
          rw [hx, hy]
        rw [this]
        exact ahq c hp hP hw
def Can (P : Pt) : Prop := P.2.2 = true → P = aD
theorem Le {P R : Pt} (hP : Can P) (hR : Can R) (h : toQ P = toQ R) : P = R := by
  obtain ⟨X, Y, i⟩ := P
  obtain ⟨X2, Y2, j⟩ := R
  cases i <;> cases j
  · have h : some (X.nat, Y.nat) = some (X2.nat, Y2.nat) := h
    simp only [Option.some.injEq, Prod.mk.injEq] at h
    rw [j7 h.1, j7 h.2]
  · cases h
  · cases h
  · rw [hP rfl, hR rfl]
theorem yv {p b : Nat} (c : Cur p b) (hp : Sm p) {w : BX} {P : PtQ} (hP : OnQ p b P) (h : amV p w P) : toQ (eW p w) = P ∧ Can (eW p w) := by
  obtain ⟨X, Y, Z⟩ := w
  cases P with
  | none =>
    have e : eW p (X, Y, Z) = aD := by unfold eW; rw [I3 (e := Z) h]; rfl
    rw [e]
    exact ⟨rfl, fun _ => rfl⟩
  | some P =>
    obtain ⟨hz, hzn, hX, hY⟩ := h
    have e : eW p (X, Y, Z) = Se p X Y (ug p Z) := by unfold eW; rw [qi (e := Z) hzn]; rfl
    rw [e]
    refine ⟨?_, fun h => by cases h⟩
    have hi := ags hp c.pr hzn
    unfold Se
    have h2 := bY hp (ug p Z) (ug p Z)
    have h3 := bY hp (aR p (ug p Z) (ug p Z)) (ug p Z)
    have hx := bY hp X (aR p (ug p Z) (ug p Z))
    have hy := bY hp Y (aR p (aR p (ug p Z) (ug p Z)) (ug p Z))
    have ex := fJ (Di hp _ _) hP.1 (atW hx h2 hX hi)
    have ey := fJ (Di hp _ _) hP.2.1 (atV hy h3 h2 hY hi)
    show some ((aR p X (aR p (ug p Z) (ug p Z))).nat, (aR p Y (aR p (aR p (ug p Z) (ug p Z)) (ug p Z))).nat) = some P
    rw [ex, ey]
theorem oa {p b : Nat} (c : Cur p b) {P : Pt} : amV p (eO P) (toQ P) := by
  obtain ⟨X, Y, i⟩ := P
  cases i
  · have h1 := c.big
    refine ⟨?_, fun h => ?_, ?_, ?_⟩
    · show (aa.mk 1 0 0 0).nat < p
      rw [J2]
      omega
    · have h : (p : Int) ∣ (((aa.mk 1 0 0 0).nat : Nat) : Int) := h
      rw [J2] at h
      have := Int.le_of_dvd (by decide) h
      omega
    · show (p : Int) ∣ (X.nat : Int) - (X.nat : Int) * ((((aa.mk 1 0 0 0).nat : Nat) : Int) * (((aa.mk 1 0 0 0).nat : Nat) : Int))
      rw [J2]
      exact ⟨0, by simp⟩
    · show (p : Int) ∣ (Y.nat : Int) - (Y.nat : Int) * ((((aa.mk 1 0 0 0).nat : Nat) : Int) * (((aa.mk 1 0 0 0).nat : Nat) : Int) * (((aa.mk 1 0 0 0).nat : Nat) : Int))
      rw [J2]
      exact ⟨0, by simp⟩
  · exact lV
theorem YR {p : Nat} (X Y X2 s : aa) : Can (yH p X Y X2 s) := fun h => by cases h
theorem TA {p : Nat} {P R : Pt} (hP : Can P) (hR : Can R) : Can (dV p P R) := by
  obtain ⟨X, Y, i⟩ := P
  obtain ⟨X2, Y2, j⟩ := R
  unfold dV
  cases i
  · cases j
    · simp only [cond_false]
      cases eqE X X2
      · exact YR _ _ _ _
      · cases eqE Y Y2
        · exact fun _ => rfl
        · exact YR _ _ _ _
    · exact hP
  · exact hR
theorem ari (k : aa) {n : Nat} (h : n < 256) : nZ k (255 - (n : Int)) = Bq k.nat (255 - n) := by
  unfold nZ
  rw [decide_eq_true (show (0 : Int) ≤ 255 - (n : Int) by omega), decide_eq_true (show (255 : Int) - (n : Int) < 256 by omega), show ((255 : Int) - (n : Int)).toNat = 255 - n by omega]
  rfl
theorem BJ {p b : Nat} (c : Cur p b) (hp : Sm p) (k : aa) {P : Pt} (hP : OnQ p b (toQ P)) (hc : Can P) : ∀ n, n ≤ 256 →
    amV p (upto (ib p k (eO P)) acx n) (toQ (upto (cn p k.nat P) aD n)) ∧ OnQ p b (toQ (upto (cn p k.nat P) aD n)) ∧ Can (upto (cn p k.nat P) aD n)
  | 0, _ => ⟨lV, trivial, fun _ => rfl⟩
  | n + 1, h => by
    obtain ⟨h1, h2, h3⟩ := BJ c hp k hP hc n (by omega)
    show amV p (ib p k (eO P) n (upto (ib p k (eO P)) acx n)) (toQ (cn p k.nat P n (upto (cn p k.nat P) aD n))) ∧ OnQ p b (toQ (cn p k.nat P n (upto (cn p k.nat P) aD n))) ∧ Can (cn p k.nat P n (upto (cn p k.nat P) aD n))
    generalize upto (ib p k (eO P)) acx n = w at *
    generalize upto (cn p k.nat P) aD n = Q at *
    have d1 := ahq c hp h2 h1
    have d2 := Cd c hp h2 h2
    have d3 := fS c h2 h2
    rw [← d2] at d1 d3
    have d4 := TA (p := p) h3 h3
    unfold ib cn
    rw [ari k (by omega)]
    cases Bq k.nat (255 - n)
    · exact ⟨d1, d3, d4⟩
    · simp only [cond_true]
      have e2 := Cd c hp d3 hP
      refine ⟨?_, ?_, TA d4 hc⟩
      · rw [e2]
        exact TZ c hp d3 hP d1 (oa c)
      · rw [e2]
        exact fS c d3 hP
theorem J5 {p b m : Nat} (pr : Pr p) (h3 : p = 3 * m + 1) (hb0 : 0 < b) (hb : b < p) (hm : Nat.blt m (2 ^ 256) = true) (hk : Nat.beq (pwm p (p - b) m) 1 = false) (x : Int) : ¬ (p : Int) ∣ x * x * x + b := fun hd => by
  have h2 := pr.1
  rw [afr h2 hm] at hk
  obtain ⟨k, hk1⟩ := hd
  obtain ⟨j, hj⟩ := nO pr.pos x
  have hn : p ∣ nm p x * nm p x * nm p x + b := Int.natCast_dvd_natCast.1 (by
    rw [Int.natCast_add, Int.natCast_mul, Int.natCast_mul]
    generalize ((nm p x : Nat) : Int) = n at *
    exact ⟨k + j * (n * n + n * x + x * x), by grind⟩)
  generalize nm p x = n at *
  have hpn : ¬ p ∣ n := fun hd => by
    have h1 : p ∣ n * n * n := Nat.dvd_trans hd (Nat.dvd_mul_left ..)
    have := (Nat.dvd_add_right h1).1 hn
    have := Nat.le_of_dvd hb0 this
    omega
  have hf := Ys pr hpn
  have e : n ^ 3 % p = (p - b) % p := by
    obtain ⟨c, hc⟩ := hn
    have hc0 : c ≠ 0 := fun e => by rw [e] at hc; omega
    obtain ⟨d, rfl⟩ : ∃ d, c = d + 1 := ⟨c - 1, by omega⟩
    have : n ^ 3 = (p - b) + p * d := by
      rw [show n ^ 3 = n * n * n by rw [Nat.pow_succ, Nat.pow_succ, Nat.pow_one]]
      rw [Nat.mul_succ] at hc
      omega
    rw [this, Nat.add_mul_mod_self_left]
  have : (p - b) ^ m % p = 1 := by
    rw [Nat.pow_mod, ← e, ← Nat.pow_mod, ← Nat.pow_mul, show 3 * m = p - 1 by omega]
    exact hf
  rw [this] at hk
  cases hk
theorem bo {s : Int} (h : ak s = true) : Cur (pS s) (bS s).nat := by
  rcases cr h with rfl | rfl | rfl | rfl
  · have e : pS 0 = 16513537 := by decide +kernel
    have e2 : (bS 0).nat = 23 := by decide +kernel
    rw [e, e2]
    exact ⟨sX, by decide, J5 (m := 5504512) sX (by decide) (by decide) (by decide) (by decide +kernel) (by decide +kernel)⟩
  · have e : pS 1 = 16521217 := by decide +kernel
    have e2 : (bS 1).nat = 21 := by decide +kernel
    rw [e, e2]
    exact ⟨sW, by decide, J5 (m := 5507072) sW (by decide) (by decide) (by decide) (by decide +kernel) (by decide +kernel)⟩
  · have e : pS 2 = 28948022309329048855892746252171976963363056481941560715954676764349967630337 := by decide +kernel
    have e2 : (bS 2).nat = 5 := by decide +kernel
    rw [e, e2]
    exact ⟨aJ, by decide, J5 (m := 9649340769776349618630915417390658987787685493980520238651558921449989210112) aJ (by decide) (by decide) (by decide) (by decide +kernel) (by decide +kernel)⟩
  · have e : pS 3 = 28948022309329048855892746252171976963363056481941647379679742748393362948097 := by decide +kernel
    have e2 : (bS 3).nat = 5 := by decide +kernel
    rw [e, e2]
    exact ⟨aI, by decide, J5 (m := 9649340769776349618630915417390658987787685493980549126559914249464454316032) aI (by decide) (by decide) (by decide) (by decide +kernel) (by decide +kernel)⟩
theorem dv {s : Int} {P : Pt} (h : onB s P = true) : ak s = true ∧ OnQ (pS s) (bS s).nat (toQ P) ∧ Can P := by
  have hs := qV h
  have hp : Sm (pS s) := fx hs
  obtain ⟨X, Y, i⟩ := P
  refine ⟨hs, ?_⟩
  unfold onB at h
  rw [hs] at h
  simp only [cond_true] at h
  cases i
  · simp only [cond_false] at h
    refine ⟨?_, fun h => by cases h⟩
    rcases (Bool.eq_false_or_eq_true (Nat.blt X.nat (pS s))).symm with h1 | h1
    · rw [h1] at h; cases h
    · rcases (Bool.eq_false_or_eq_true (Nat.blt Y.nat (pS s))).symm with h2 | h2
      · rw [h1, h2] at h; cases h
      · rw [h1, h2] at h
        simp only [cond_true] at h
        have e := ja.1 h
        have hx : X.nat < pS s := cL h1
        have hy : Y.nat < pS s := cL h2
        refine ⟨hx, hy, ?_⟩
        have e1 := bY hp Y Y
        have e2 := bY hp X X
        have e3 := bY hp (aR (pS s) X X) X
        have e4 := Y6 hp (aR (pS s) (aR (pS s) X X) X) (bS s)
        rw [e] at e1
        unfold Bk at e1
        show ((pS s : Nat) : Int) ∣ (Y.nat : Int) * Y.nat - X.nat * X.nat * X.nat - (bS s).nat
        exact at7 e1 e4 e3 e2
  · simp only [cond_true, Bool.and_eq_true] at h
    refine ⟨trivial, fun _ => ?_⟩
    have z : ∀ {e : aa}, cp e = true → e = ⟨0, 0, 0, 0⟩ := fun {e} h => j7 (by rw [fq] at h; rw [Nat.eq_of_beq_eq_true h]; exact lV.symm)
    rw [z h.1, z h.2.1]
    rfl
theorem Ms {s : Int} (h : ak s = true) (k : aa) : (Bf s k).nat = (ofP (pS (yJ s 1)) k).nat := by
  have hp := fx (js h)
  unfold Bf
  rw [show (n7 (pS (yJ s 1)) k ⟨0, 0, 0, 0⟩).nat = (k.nat + (aa.mk 0 0 0 0).nat) % pS (yJ s 1) from cH hp, lV, Nat.add_zero]
  exact (cH hp).symm
theorem XD (s : Int) (k : aa) (P : Pt) : tf s k P = o0 s k P := by
  unfold tf o0
  rcases (Bool.eq_false_or_eq_true (onB s P)).symm with h | h
  · rw [h]
    rfl
  · rw [h]
    simp only [cond_true]
    obtain ⟨hs, hP, hc⟩ := dv h
    have c := bo hs
    have hp : Sm (pS s) := fx hs
    obtain ⟨h1, h2, h3⟩ := BJ c hp (Bf s k) hP hc 256 (Nat.le_refl _)
    obtain ⟨n1, n2⟩ := yv c hp h2 h1
    rw [← Ms hs]
    exact Le n2 h3 n1
theorem add_same (s : Int) (P R : Pt) : eG s P R = Bb s P R := by
  unfold eG Bb
  rcases (Bool.eq_false_or_eq_true (onB s P)).symm with h | h
  · rw [h]
    rfl
  · rcases (Bool.eq_false_or_eq_true (onB s R)).symm with h' | h'
    · rw [h, h']
      rfl
    · rw [h, h']
      simp only [cond_true]
      obtain ⟨hs, hP, hc⟩ := dv h
      obtain ⟨_, hR, hc'⟩ := dv h'
      have c := bo hs
      have hp : Sm (pS s) := fx hs
      obtain ⟨n1, n2⟩ := yv c hp (fS c hP hR) (TZ c hp hP hR (oa c) (oa c))
      refine Le n2 (TA hc hc') ?_
      rw [n1, Cd c hp hP hR]
end Go.Proofs.YtohjofabochgfaaGreat

namespace Go.Proofs.YtohjofabochgfaaGreat
open Sx Go
abbrev fh : Pt := (⟨0, 0, 0, 0⟩, ⟨0, 0, 0, 0⟩, false)
end Go.Proofs.YtohjofabochgfaaGreat

namespace Go.Proofs.YtohjofabochgfaaGreat
open Sx Go
set_option maxRecDepth 100000
def nV : av := ⟨[.val false .int], [], true, 0, false⟩
def Km : az := ⟨[.nQ, .val false .int], [], false⟩
def Sp : az := ⟨[.ptr 0 0 0, .val false .int], [(0, .cells [.val false .int, .own 1]), (1, .row uu)], false⟩
abbrev aaE : Type := ((Int) × Unit) × (Unit)
def Oj : List az := [Km, Sp]
def XP (a0 : Int) : OT nV.Y :=
  (.br (decide (a0 < (0 : Int)))
  (.ok ⟨Km, (((), ((40 : Int), ())), ())⟩)
  (.br (decide ((3 : Int) < a0))
    (.ok ⟨Km, (((), ((40 : Int), ())), ())⟩)
    (.ok ⟨Sp, (((), ((0 : Int), ())), ((a0, ((), ())), ([], ())))⟩)))
theorem asE (x : aaE) (Q : nV.Y → Prop) : wpf te wa ay 1000 Tryz.f114 (nV.inp.inj x).tm (nV.inp.inj x).hp (arC nV Oj Q) (fun _ _ => False) = (XP (x.1.1)).wpR Q := by kernel_rfl
theorem aga (pre : aaE → Bool) (F : aaE → OT nV.Y) (hF : ∀ (x : aaE) oy, pre x = true → (F x).run = some oy → (XP (x.1.1)).run = some oy) : ac Tryz.prog 114 (nV.aH pre F) :=
  ami au tI P6 (f := 114) (fn := Tryz.f114) (c := ao Tryz.f114) (by kernel_rfl) (by kernel_rfl) (by kernel_rfl) (S := nV) (k := 0) (by kernel_rfl) (fun R hR => af) (n := 1000) (outs := Oj) (by kernel_rfl) (pre := pre) (F := F) (T := fun x => XP (x.1.1)) (fun x Q => asE x Q) hF
def XO (_ : aaE) : Bool := true
def anq (x : aaE) : OT nV.Y := .br (ak x.1.1) (.ok ⟨Sp, (((), ((0 : Int), ())), ((x.1.1, ((), ())), ([], ())))⟩) (.ok ⟨Km, (((), ((40 : Int), ())), ())⟩)
theorem aqn : ac Tryz.prog 114 (nV.aH XO anq) := aga _ _ fun x oy _ ho => by
  rw [← ho]
  clear ho
  obtain ⟨⟨s, ⟨⟩⟩, ⟨⟩⟩ := x
  show (XP s).run = (OT.br (ak s) _ _ : OT nV.Y).run
  by_cases h0 : s < 0
  · refine (OT.ap (decide_eq_true h0)).trans (OT.aw (b := ak s) ?_).symm
    simp only [ak, decide_eq_false (show ¬ (0 : Int) ≤ s by omega), Bool.false_and]
  · refine (OT.aw (decide_eq_false h0)).trans ?_
    by_cases h3 : 3 < s
    · refine (OT.ap (decide_eq_true h3)).trans (OT.aw (b := ak s) ?_).symm
      simp only [ak, decide_eq_false (show ¬ s < 4 by omega), Bool.and_false]
    · refine (OT.aw (decide_eq_false h3)).trans (OT.ap (b := ak s) ?_).symm
      simp only [ak, decide_eq_true (show (0 : Int) ≤ s by omega), decide_eq_true (show s < 4 by omega), Bool.and_self]
def Dt : cG := (nV.aH XO anq)
theorem aaD : ac Tryz.prog 114 Dt := aqn
theorem aaC : aK Dt := aB
def Qf : Env := aA 114 Dt wa
theorem FA : aV Tryz.prog Qf := ai aaD tI
theorem FB : ax Qf := ae aaC v9
theorem ab9 : aZ Tryz.prog te Qf := aN follows au FA FB
def auq (w : Sh) : CSh := .cells [.val false .int, w]
def nW : av := ⟨[.ptr 0 0 0, .val true .elem, .val true (.prod .elem (.prod .elem .bool))], [(0, auq (.own 1)), (1, .row uu)], false, 1, true⟩
abbrev aaO : Type := ((Unit) × (aa) × ((aa × (aa × Bool))) × Unit) × (((Int) × (Unit) × Unit) × (List ((aa × (aa × (aa × Bool))))) × Unit)
def o8 : az := ⟨[.val false .int], [(0, .cells [.val false .int, .own 1]), (1, .row (.prod .elem (.prod .elem (.prod .elem .bool))))], false⟩
def XT : SV → Option az := fun _ => some o8
def XV (a1 : aa) (a2 : (aa × (aa × Bool))) (c0_0 : Int) (c1 : List ((aa × (aa × (aa × Bool))))) : OT nW.Y :=
  let z0 : Int := yJ c0_0 (1 : Int)
  let z1 : aa := { w0 := 0, w1 := 0, w2 := 0, w3 := 0 }
  (.br (!onB c0_0 a2)
  (.ok ⟨o8, (((41 : Int), ()), ((c0_0, ((), ())), (c1, ())))⟩)
  (.br (decide ((100000 : Int) ≤ (↑(List.length c1) : Int)))
    (.ok ⟨o8, (((50 : Int), ()), ((c0_0, ((), ())), (c1, ())))⟩)
    (.br (ak z0)
      (gd [decide ((List.length c1 + 1) * 104 ≤ 140737488355328)] (.ok ⟨o8, (((0 : Int), ()), ((c0_0, ((), ())), (c1 ++ [(n7 (pS z0) a1 z1, a2)], ())))⟩))
      (gd [decide ((List.length c1 + 1) * 104 ≤ 140737488355328)] (.ok ⟨o8, (((0 : Int), ()), ((c0_0, ((), ())), (c1 ++ [(z1, a2)], ())))⟩)))))
theorem asF (x : aaO) (Q : nW.Y → Prop) : wpf te Qf ay 1000 Tryz.f115 (nW.inp.inj x).tm (nW.inp.inj x).hp (fnK nW XT Q) (fun _ _ => False) = (XV (x.1.2.1) (x.1.2.2.1) (x.2.1.1) (x.2.2.1)).wpR Q := by kernel_rfl
theorem agh (pre : aaO → Bool) (F : aaO → OT nW.Y) (hF : ∀ (x : aaO) oy, pre x = true → (F x).run = some oy → (XV (x.1.2.1) (x.1.2.2.1) (x.2.1.1) (x.2.2.1)).run = some oy) : ac Tryz.prog 115 (nW.aH pre F) :=
  aC au FA ab9 (f := 115) (fn := Tryz.f115) (c := ao Tryz.f115) (by kernel_rfl) (by kernel_rfl) (by kernel_rfl) (S := nW) (k := 2) (by kernel_rfl) (fun R hR => af) (n := 1000) (sel := XT) (fun v o h => by cases h; rfl) (pre := pre) (F := F) (T := fun x => XV (x.1.2.1) (x.1.2.2.1) (x.2.1.1) (x.2.2.1)) (fun x Q => asF x Q) hF
abbrev Tm : Type := uu.T
def fN : Tm := (⟨0, 0, 0, 0⟩, ⟨0, 0, 0, 0⟩, ⟨0, 0, 0, 0⟩, false)
def Mx (l : List Tm) : Bool := decide (l.length < 100000)
def XU (_ : aaO) : Bool := true
def ans (x : aaO) : OT nW.Y := .br (onB x.2.1.1 x.1.2.2.1) (.br (Mx x.2.2.1) (.ok ⟨o8, (((0 : Int), ()), ((x.2.1.1, ((), ())), (x.2.2.1 ++ [(Bf x.2.1.1 x.1.2.1, x.1.2.2.1)], ())))⟩)
  (.ok ⟨o8, (((50 : Int), ()), ((x.2.1.1, ((), ())), (x.2.2.1, ())))⟩)) (.ok ⟨o8, (((41 : Int), ()), ((x.2.1.1, ((), ())), (x.2.2.1, ())))⟩)
theorem aqo : ac Tryz.prog 115 (nW.aH XU ans) := agh _ _ fun x oy _ ho => by
  rw [← ho]
  clear ho
  obtain ⟨⟨⟨⟩, k, P, ⟨⟩⟩, ⟨⟨c, ⟨⟩, ⟨⟩⟩, l, ⟨⟩⟩⟩ := x
  show (XV k P c l).run = (OT.br (onB c P) (.br (Mx l) _ _) _ : OT nW.Y).run
  rcases (Bool.eq_false_or_eq_true (onB c P)).symm with h | h
  · exact (OT.ap (b := !onB c P) (by rw [h]; rfl)).trans (OT.aw (b := onB c P) h).symm
  · refine (OT.aw (b := !onB c P) (by rw [h]; rfl)).trans (Eq.trans ?_ (OT.ap (b := onB c P) h).symm)
    rcases (Bool.eq_false_or_eq_true (Mx l)).symm with h2 | h2
    · have h3 := of_decide_eq_false h2
      exact (OT.ap (decide_eq_true (by omega))).trans (OT.aw (b := Mx l) h2).symm
    · have h3 := of_decide_eq_true h2
      refine (OT.aw (decide_eq_false (by omega))).trans (Eq.trans ?_ (OT.ap (b := Mx l) h2).symm)
      refine (OT.ap (js (qV h))).trans ((al ?_).trans rfl)
      simp only [List.all_cons, List.all_nil, Bool.and_true]
      exact decide_eq_true (by omega)
def DL : cG := (nW.aH XU ans)
theorem aaN : ac Tryz.prog 115 DL := aqo
theorem aaM : aK DL := aB
def IQ : Env := aA 115 DL Qf
theorem wF : aV Tryz.prog IQ := ai aaN FA
theorem FC : ax IQ := ae aaM FB
theorem IP : aZ Tryz.prog te IQ := aN follows au wF FC
def eX : av := ⟨[.val false .int, .val false (.list uu)], [], true, 0, false⟩
abbrev rc : Type := ((Int) × (List ((aa × (aa × (aa × Bool))))) × Unit) × (Unit)
def l5 : Shape := ⟨26, [(0, .val false .int), (4, .ptr 0 0 0), (5, .ptr 1 0 0), (9, .val false (.list (.prod .elem (.prod .elem (.prod .elem .bool))))), (10, .val false .int), (11, .val false .int)], [(0, .cells [.val false .u64, .val false .u64, .val false .u64, .val false .u64, .val false .u64, .val false .u64, .val false .u64, .val false .u64, .val false .bool]), (1, .cells [.val false .u64, .val false .u64, .val false .u64, .val false .u64, .val false .u64, .val false .u64, .val false .u64, .val false .u64, .val false .bool])], 0, true⟩
abbrev bM : Type := ((Int) × (Unit) × (Unit) × (List ((aa × (aa × (aa × Bool))))) × (Int) × (Int) × Unit) × (((UInt64) × (UInt64) × (UInt64) × (UInt64) × (UInt64) × (UInt64) × (UInt64) × (UInt64) × (Bool) × Unit) × ((UInt64) × (UInt64) × (UInt64) × (UInt64) × (UInt64) × (UInt64) × (UInt64) × (UInt64) × (Bool) × Unit) × Unit)
def kV : Shape := ⟨26, [(4, .ptr 0 0 0), (5, .ptr 1 0 0)], [(0, .cells [.val false .u64, .val false .u64, .val false .u64, .val false .u64, .val false .u64, .val false .u64, .val false .u64, .val false .u64, .val false .bool]), (1, .cells [.val false .u64, .val false .u64, .val false .u64, .val false .u64, .val false .u64, .val false .u64, .val false .u64, .val false .u64, .val false .bool])], 0, true⟩
abbrev gF : Type := ((Unit) × (Unit) × Unit) × (((UInt64) × (UInt64) × (UInt64) × (UInt64) × (UInt64) × (UInt64) × (UInt64) × (UInt64) × (Bool) × Unit) × ((UInt64) × (UInt64) × (UInt64) × (UInt64) × (UInt64) × (UInt64) × (UInt64) × (UInt64) × (Bool) × Unit) × Unit)
def HM : SE → Option Shape := jr [(0, kV)] none
def aaA (a0 : Int) (a9 : List ((aa × (aa × (aa × Bool))))) (a10 : Int) (a11 : Int) (c0_0 : UInt64) (c0_1 : UInt64) (c0_2 : UInt64) (c0_3 : UInt64) (c0_4 : UInt64) (c0_5 : UInt64) (c0_6 : UInt64) (c0_7 : UInt64) (c0_8 : Bool) (c1_0 : UInt64) (c1_1 : UInt64) (c1_2 : UInt64) (c1_3 : UInt64) (c1_4 : UInt64) (c1_5 : UInt64) (c1_6 : UInt64) (c1_7 : UInt64) (c1_8 : Bool) : OT (Sum bM aP) :=
  let z0 : aa := { w0 := 0, w1 := 0, w2 := 0, w3 := 0 }
  let z1 : aa × aa × aa × Bool := List.getD a9 (Int.toNat a11) (z0, z0, z0, false)
  let z2 : aa × aa × Bool := eG a0 ({ w0 := c1_0, w1 := c1_1, w2 := c1_2, w3 := c1_3 }, { w0 := c1_4, w1 := c1_5, w2 := c1_6, w3 := c1_7 }, c1_8) (tf a0 z1.fst z1.snd)
  let z3 := z2.fst
  let z4 := z2.snd
  let z5 := z4.fst
  (.br (decide (a11 < a10))
  (gd [inB a11 (List.length a9), inR (a11 + (1 : Int))] (.ok (.inl ((a0, ((), ((), (a9, (a10, (a11 + (1 : Int), ())))))), ((c0_0, (c0_1, (c0_2, (c0_3, (c0_4, (c0_5, (c0_6, (c0_7, (c0_8, ()))))))))), ((z3.w0, (z3.w1, (z3.w2, (z3.w3, (z5.w0, (z5.w1, (z5.w2, (z5.w3, (z4.snd, ()))))))))), ()))))))
  (.ok (.inr ⟨(.exit 0, kV), (((), ((), ())), ((c0_0, (c0_1, (c0_2, (c0_3, (c0_4, (c0_5, (c0_6, (c0_7, (c0_8, ()))))))))), ((c1_0, (c1_1, (c1_2, (c1_3, (c1_4, (c1_5, (c1_6, (c1_7, (c1_8, ()))))))))), ())))⟩)))
def l7 (s : bM) : OT (Sum bM aP) := aaA (s.1.1) (s.1.2.2.2.1) (s.1.2.2.2.2.1) (s.1.2.2.2.2.2.1) (s.2.1.1) (s.2.1.2.1) (s.2.1.2.2.1) (s.2.1.2.2.2.1) (s.2.1.2.2.2.2.1) (s.2.1.2.2.2.2.2.1) (s.2.1.2.2.2.2.2.2.1) (s.2.1.2.2.2.2.2.2.2.1) (s.2.1.2.2.2.2.2.2.2.2.1) (s.2.2.1.1) (s.2.2.1.2.1) (s.2.2.1.2.2.1) (s.2.2.1.2.2.2.1) (s.2.2.1.2.2.2.2.1) (s.2.2.1.2.2.2.2.2.1) (s.2.2.1.2.2.2.2.2.2.1) (s.2.2.1.2.2.2.2.2.2.2.1) (s.2.2.1.2.2.2.2.2.2.2.2.1)
theorem aax (s : bM) (Q : Sum bM aP → Prop) : wps te IQ ay 1000 (bF (ao Tryz.f160) 0) (l5.inj s) (cQ l5 HM (Q : Sum l5.T aP → Prop)) = (l7 s).wpR Q := by kernel_rfl
def rb (g0_0 : bM → gF) (s : bM) : OT aP := (.ok ⟨(.exit 0, kV), g0_0 s⟩)
def yF : az := ⟨[.val true (.prod .elem (.prod .elem .bool))], [], false⟩
def Dq : SV → Option az := fun _ => some yF
def Ds (ok0 : bM → Bool) (g0_0 : bM → gF) (a0 : Int) (a1 : List ((aa × (aa × (aa × Bool))))) : OT eX.Y :=
  let z0 : (Int × PUnit × PUnit × List (aa × aa × aa × Bool) × Int × Int × PUnit) × (UInt64 × UInt64 × UInt64 × UInt64 × UInt64 × UInt64 × UInt64 × UInt64 × Bool × PUnit) × (UInt64 × UInt64 × UInt64 × UInt64 × UInt64 × UInt64 × UInt64 × UInt64 × Bool × PUnit) × PUnit := ((a0, (), (), a1, (↑(List.length a1) : Int), (0 : Int), ()), ((0 : UInt64), (0 : UInt64), (0 : UInt64), (0 : UInt64), (0 : UInt64), (0 : UInt64), (0 : UInt64), (0 : UInt64), false, ()), ((0 : UInt64), (0 : UInt64), (0 : UInt64), (0 : UInt64), (0 : UInt64), (0 : UInt64), (0 : UInt64), (0 : UInt64), true, ()), ())
  let z1 := (g0_0 z0).snd.snd.fst
  let z2 := z1.snd
  let z3 := z2.snd
  let z4 := z3.snd
  let z5 := z4.snd
  let z6 := z5.snd
  let z7 := z6.snd
  let z8 := z7.snd
  (gd [ok0 z0] (.ok ⟨yF, ((({ w0 := z1.fst, w1 := z2.fst, w2 := z3.fst, w3 := z4.fst }, { w0 := z5.fst, w1 := z6.fst, w2 := z7.fst, w3 := z8.fst }, z8.snd.fst), ()), ())⟩))
theorem af7 (ok0 : bM → Bool) (g0_0 : bM → gF) (x : rc) (Q : eX.Y → Prop) : wpf te IQ (bg 0 (di l5 0 ok0 (rb g0_0)) ay) 1000 Tryz.f160 (eX.inp.inj x).tm (eX.inp.inj x).hp (fnK eX Dq Q) (fun _ _ => False) = (Ds ok0 g0_0 (x.1.1) (x.1.2.1)).wpR Q := by kernel_rfl
theorem Oh (ok0 : bM → Bool) (g0_0 : bM → gF) (h0 : ∀ s : bM, ok0 s = true → ∃ m e, aq (l7) m s = some e ∧ (rb g0_0 s).run = some e) (pre : rc → Bool) (F : rc → OT eX.Y) (hF : ∀ (x : rc) oy, pre x = true → (F x).run = some oy → (Ds ok0 g0_0 (x.1.1) (x.1.2.1)).run = some oy) : ac Tryz.prog 160 (eX.aH pre F) :=
  aC au wF IP (f := 160) (fn := Tryz.f160) (c := ao Tryz.f160) (by kernel_rfl) (by kernel_rfl) (by kernel_rfl) (S := eX) (k := 0) (by kernel_rfl) (fun R hR => (aF (c := (ao Tryz.f160)) (by kernel_rfl) (id := 0) (by kernel_rfl) (bt au wF IP (sh := l5) hR (xs := HM) (aG (by kernel_rfl) (by kernel_rfl) hR) aW af (n := 1000) (T := l7) (fun s Q => aax s Q) (ok := ok0) (f := rb g0_0) h0) af)) (n := 1000) (sel := Dq) (fun v o h => by cases h; rfl) (pre := pre) (F := F) (T := fun x => Ds ok0 g0_0 (x.1.1) (x.1.2.1)) (fun x Q => af7 ok0 g0_0 x Q) hF
def dl (c : Int) (l : List Tm) (k : Nat) (O : Pt) : Pt := eG c O (tf c (l.getD k fN).1 (l.getD k fN).2)
def jg (c : Int) (l : List Tm) : Pt := upto (dl c l) aD l.length
def Dr (s : bM) : Bool := decide (s.1.2.2.2.2.1 = (s.1.2.2.2.1.length : Int) ∧ s.1.2.2.2.2.2.1 = 0 ∧ kt s.2.2.1 = aD ∧ s.1.2.2.2.1.length ≤ 140737488355328)
def HN (s : bM) : gF := (((), (), ()), (s.2.1, bf (jg s.1.1 s.1.2.2.2.1), ()))
theorem aaz : ∀ s : bM, Dr s = true → ∃ m e, aq l7 m s = some e ∧ (rb HN s).run = some e := by
  rintro ⟨⟨c, ⟨⟩, ⟨⟩, l, n, i, ⟨⟩⟩, ⟨c0, c1, ⟨⟩⟩⟩ h
  have h' := of_decide_eq_true h
  dsimp only at h'
  obtain ⟨rfl, rfl, hO, hl⟩ := h'
  have hO2 : c1 = bf aD := by rw [← hO]; rfl
  subst hO2
  have := (bP (T := l7) (fun i O => (((c, (), (), l, (l.length : Int), (i : Int), ()), (c0, bf O, ())) : bM)) (dl c l)
    (fun O => (⟨(.exit 0, kV), (((), (), ()), (c0, bf O, ()))⟩ : aP)) l.length aD (fun _ _ => True) trivial (fun k O hk _ => ⟨?_, trivial⟩) (fun O _ => ?_)).1
  · obtain ⟨m, hm⟩ := this
    exact ⟨m, _, hm, rfl⟩
  · refine (OT.ap (decide_eq_true (by dsimp only; omega))).trans ((al ?_).trans ?_)
    · simp only [List.all_cons, List.all_nil, Bool.and_true, Bool.and_eq_true]
      exact ⟨bD (by omega), bE (by omega)⟩
    · simp only [OT.jG, Int.toNat_natCast]
      rfl
  · exact OT.aw (decide_eq_false (by dsimp only; omega))
def th (x : rc) : Bool := decide (x.1.2.1.length ≤ 140737488355328)
def Oi (x : rc) : OT eX.Y := .ok ⟨yF, ((jg x.1.1 x.1.2.1, ()), ())⟩
theorem aay : ac Tryz.prog 160 (eX.aH th Oi) := Oh Dr HN aaz _ _ fun x oy hp ho => by
  rw [← ho]
  clear ho
  obtain ⟨⟨c, l, ⟨⟩⟩, ⟨⟩⟩ := x
  have hl : l.length ≤ 140737488355328 := of_decide_eq_true hp
  refine (al ?_).trans rfl
  simp only [List.all_cons, List.all_nil, Bool.and_true]
  exact decide_eq_true ⟨rfl, rfl, rfl, hl⟩
def o4 : cG := (eX.aH th Oi)
theorem Kj : ac Tryz.prog 160 o4 := aay
theorem Ki : aK o4 := aB
def pZ : Env := aA 160 o4 IQ
theorem pY : aV Tryz.prog pZ := ai Kj wF
theorem so : ax pZ := ae Ki FC
theorem LM : aZ Tryz.prog te pZ := aN follows au pY so
def j9 : av := ⟨[.val true uu, .ptr 0 0 0], [(0, .cells [.val false .int])], false, 1, true⟩
abbrev HK : Type := (((aa × (aa × (aa × Bool)))) × (Unit) × Unit) × (((Int) × Unit) × Unit)
def Kd : az := ⟨[.val false .bool], [(0, .cells [.val false .int])], false⟩
def Oe : SV → Option az := fun _ => some Kd
def Sj (a0 : (aa × (aa × (aa × Bool)))) (c0_0 : Int) : OT j9.Y :=
  (.ok ⟨Kd, ((nZ a0.fst c0_0, ()), ((c0_0, ()), ()))⟩)
theorem aqe (x : HK) (Q : j9.Y → Prop) : wpf te pZ ay 1000 Tryz.f169 (j9.inp.inj x).tm (j9.inp.inj x).hp (fnK j9 Oe Q) (fun _ _ => False) = (Sj (x.1.1) (x.2.1.1)).wpR Q := by kernel_rfl
theorem aar (pre : HK → Bool) (F : HK → OT j9.Y) (hF : ∀ (x : HK) oy, pre x = true → (F x).run = some oy → (Sj (x.1.1) (x.2.1.1)).run = some oy) : ac Tryz.prog 169 (j9.aH pre F) :=
  aC au pY LM (f := 169) (fn := Tryz.f169) (c := ao Tryz.f169) (by kernel_rfl) (by kernel_rfl) (by kernel_rfl) (S := j9) (k := 1) (by kernel_rfl) (fun R hR => af) (n := 1000) (sel := Oe) (fun v o h => by cases h; rfl) (pre := pre) (F := F) (T := fun x => Sj (x.1.1) (x.2.1.1)) (fun x Q => aqe x Q) hF
def Of (_ : HK) : Bool := true
def af3 (x : HK) : OT j9.Y := .ok ⟨Kd, ((nZ x.1.1.1 x.2.1.1, ()), ((x.2.1.1, ()), ()))⟩
theorem alR : ac Tryz.prog 169 (j9.aH Of af3) := aar _ _ fun x oy hp ho => by
  rw [← ho]
  rfl
def yB : cG := (j9.aH Of af3)
theorem Si : ac Tryz.prog 169 yB := alR
theorem Sg : aK yB := aB
def zF : Env := aA 169 yB pZ
theorem rS : aV Tryz.prog zF := ai Si pY
theorem AX : ax zF := ae Sg so
theorem Fw : aZ Tryz.prog te zF := aN follows au rS AX
def ej : av := ⟨[.val false (.list uu), .fn 169 [0]], [(0, .cells [.val false .int])], true, 1, true⟩
abbrev rf : Type := ((List ((aa × (aa × (aa × Bool))))) × (Unit) × Unit) × (((Int) × Unit) × Unit)
def l8 : Shape := ⟨19, [(0, .val false (.list (.prod .elem (.prod .elem (.prod .elem .bool))))), (1, .fn 169 [0]), (7, .val false .int), (8, .val false .int)], [(0, .cells [.val false .int])], 1, true⟩
abbrev aT : Type := ((List ((aa × (aa × (aa × Bool))))) × (Unit) × (Int) × (Int) × Unit) × (((Int) × Unit) × Unit)
def kW : Shape := ⟨19, [(4, .val false .int)], [(0, .cells [.val false .int])], 1, true⟩
abbrev gG : Type := ((Int) × Unit) × (((Int) × Unit) × Unit)
def kZ : Shape := ⟨19, [], [(0, .cells [.val false .int])], 1, true⟩
abbrev gH : Type := (Unit) × (((Int) × Unit) × Unit)
def HO : SE → Option Shape := jr [(0, kZ)] (some kW)
def aaJ (a0 : List ((aa × (aa × (aa × Bool))))) (a7 : Int) (a8 : Int) (c0_0 : Int) : OT (Sum aT aP) :=
  let z0 : aa := { w0 := 0, w1 := 0, w2 := 0, w3 := 0 }
  (.br (decide (a8 < a7))
  (gd [inB a8 (List.length a0)] (.br (nZ (List.getD a0 (Int.toNat a8) (z0, z0, z0, false)).fst c0_0)
    (.ok (.inr ⟨(.ret, kW), ((a8, ()), ((c0_0, ()), ()))⟩))
    (gd [inR (a8 + (1 : Int))] (.ok (.inl ((a0, ((), (a7, (a8 + (1 : Int), ())))), ((c0_0, ()), ())))))))
  (.ok (.inr ⟨(.exit 0, kZ), ((), ((c0_0, ()), ()))⟩)))
def l9 (s : aT) : OT (Sum aT aP) := aaJ (s.1.1) (s.1.2.2.1) (s.1.2.2.2.1) (s.2.1.1)
theorem aaG (s : aT) (Q : Sum aT aP → Prop) : wps te zF ay 1000 (bF (ao Tryz.f171) 0) (l8.inj s) (cQ l8 HO (Q : Sum l8.T aP → Prop)) = (l9 s).wpR Q := by kernel_rfl
def re (g0_r : aT → gG) (c0_r : aT → Bool) (g0_0 : aT → gH) (s : aT) : OT aP := (.br (c0_r s) (.ok ⟨(.ret, kW), g0_r s⟩) (.ok ⟨(.exit 0, kZ), g0_0 s⟩))
def ii : az := ⟨[.val false .int], [(0, .cells [.val false .int])], false⟩
def Dv : SV → Option az := fun _ => some ii
def Dy (ok0 : aT → Bool) (g0_r : aT → gG) (c0_r : aT → Bool) (g0_0 : aT → gH) (a0 : List ((aa × (aa × (aa × Bool))))) (c0_0 : Int) : OT ej.Y :=
  let z0 : (List (aa × aa × aa × Bool) × PUnit × Int × Int × PUnit) × (Int × PUnit) × PUnit := ((a0, (), (↑(List.length a0) : Int), (0 : Int), ()), (c0_0, ()), ())
  let z1 : (Int × PUnit) × (Int × PUnit) × PUnit := g0_r z0
  (gd [ok0 z0] (.br (c0_r z0)
  (.ok ⟨ii, ((z1.fst.fst, ()), ((z1.snd.fst.fst, ()), ()))⟩)
  (.ok ⟨ii, (((-1 : Int), ()), (((g0_0 z0).snd.fst.fst, ()), ()))⟩)))
theorem agc (ok0 : aT → Bool) (g0_r : aT → gG) (c0_r : aT → Bool) (g0_0 : aT → gH) (x : rf) (Q : ej.Y → Prop) : wpf te zF (bg 0 (di l8 0 ok0 (re g0_r c0_r g0_0)) ay) 1000 Tryz.f171 (ej.inp.inj x).tm (ej.inp.inj x).hp (fnK ej Dv Q) (fun _ _ => False) = (Dy ok0 g0_r c0_r g0_0 (x.1.1) (x.2.1.1)).wpR Q := by kernel_rfl
theorem Ok (ok0 : aT → Bool) (g0_r : aT → gG) (c0_r : aT → Bool) (g0_0 : aT → gH) (h0 : ∀ s : aT, ok0 s = true → ∃ m e, aq (l9) m s = some e ∧ (re g0_r c0_r g0_0 s).run = some e) (pre : rf → Bool) (F : rf → OT ej.Y) (hF : ∀ (x : rf) oy, pre x = true → (F x).run = some oy → (Dy ok0 g0_r c0_r g0_0 (x.1.1) (x.2.1.1)).run = some oy) : ac Tryz.prog 171 (ej.aH pre F) :=
  aC au rS Fw (f := 171) (fn := Tryz.f171) (c := ao Tryz.f171) (by kernel_rfl) (by kernel_rfl) (by kernel_rfl) (S := ej) (k := 1) (by kernel_rfl) (fun R hR => (aF (c := (ao Tryz.f171)) (by kernel_rfl) (id := 0) (by kernel_rfl) (bt au rS Fw (sh := l8) hR (xs := HO) (aG (by kernel_rfl) (by kernel_rfl) hR) aW af (n := 1000) (T := l9) (fun s Q => aaG s Q) (ok := ok0) (f := re g0_r c0_r g0_0) h0) af)) (n := 1000) (sel := Dv) (fun v o h => by cases h; rfl) (pre := pre) (F := F) (T := fun x => Dy ok0 g0_r c0_r g0_0 (x.1.1) (x.2.1.1)) (fun x Q => agc ok0 g0_r c0_r g0_0 x Q) hF
def ml (l : List Tm) (i : Int) : Nat → Nat → Int
  | 0, _ => -1
  | n + 1, k => cond (nZ (l.getD k fN).1 i) (k : Int) (ml l i n (k + 1))
def Dw (s : aT) : Bool := decide (s.1.2.2.1 = (s.1.1.length : Int) ∧ s.1.2.2.2.1 = 0 ∧ s.1.1.length ≤ 140737488355328)
def ik (l : List Tm) (i : Int) : Int := ml l i l.length 0
def Dx (s : aT) : gG := ((ik s.1.1 s.2.1.1, ()), s.2)
def HQ (s : aT) : Bool := decide (0 ≤ ik s.1.1 s.2.1.1)
def HP (s : aT) : gH := ((), s.2)
def OA (l : List Tm) (i k : Int) : aT := ((l, (), (l.length : Int), k, ()), ((i, ()), ()))
theorem OX (l : List Tm) (i : Int) : ∀ n k, ml l i n k = -1 ∨ 0 ≤ ml l i n k
  | 0, _ => .inl rfl
  | n + 1, k => by
    unfold ml
    cases nZ (l.getD k fN).1 i
    · exact OX l i n (k + 1)
    · right
      show (0 : Int) ≤ (k : Int)
      omega
theorem X3 (l : List Tm) (i : Int) (hl : l.length ≤ 140737488355328) : ∀ n k : Nat, k + n = l.length →
    ∃ m, aq l9 m (OA l i (k : Int)) = some (cond (decide (0 ≤ ml l i n k)) ⟨(.ret, kW), ((ml l i n k, ()), ((i, ()), ()))⟩ ⟨(.exit 0, kZ), ((), ((i, ()), ()))⟩)
  | 0, k, h => ⟨1, aL (OT.aw (decide_eq_false (by dsimp only [OA]; omega)))⟩
  | n + 1, k, h => by
    have hin : inB (k : Int) l.length = true := bD (by omega)
    have hgd : ∀ z : OT (Sum aT aP), (gd [inB (k : Int) l.length] z).run = z.run := fun z => al (by rw [hin]; rfl)
    unfold ml
    rcases (Bool.eq_false_or_eq_true (nZ (l.getD k fN).1 i)).symm with hb | hb
    · obtain ⟨m, hm⟩ := X3 l i hl n (k + 1) (by omega)
      rw [hb]
      refine ⟨m + 1, aM ?_ hm⟩
      refine (OT.ap (decide_eq_true (by dsimp only [OA]; omega))).trans ((hgd _).trans ((OT.aw hb).trans ((al ?_).trans rfl)))
      simp only [List.all_cons, List.all_nil, Bool.and_true]
      exact bE (by dsimp only [OA]; omega)
    · rw [hb]
      have e : decide ((0 : Int) ≤ cond true (k : Int) (ml l i n (k + 1))) = true := decide_eq_true (by show (0 : Int) ≤ (k : Int); omega)
      rw [e]
      refine ⟨1, aL ?_⟩
      exact (OT.ap (decide_eq_true (by dsimp only [OA]; omega))).trans ((hgd _).trans ((OT.ap hb).trans rfl))
theorem aaI : ∀ s : aT, Dw s = true → ∃ m e, aq l9 m s = some e ∧ (re Dx HQ HP s).run = some e := by
  rintro ⟨⟨l, ⟨⟩, n, k, ⟨⟩⟩, ⟨⟨i, ⟨⟩⟩, ⟨⟩⟩⟩ h
  have h' := of_decide_eq_true h
  dsimp only at h'
  obtain ⟨rfl, rfl, hl⟩ := h'
  obtain ⟨m, hm⟩ := X3 l i hl l.length 0 (by omega)
  refine ⟨m, _, hm, ?_⟩
  show (OT.br (decide (0 ≤ ik l i)) _ _ : OT aP).run = some (cond (decide (0 ≤ ik l i)) _ _)
  cases decide (0 ≤ ik l i) <;> rfl
def tj (x : rf) : Bool := decide (x.1.1.length ≤ 140737488355328)
def Ol (x : rf) : OT ej.Y := .ok ⟨ii, ((ik x.1.1 x.2.1.1, ()), x.2)⟩
theorem aaH : ac Tryz.prog 171 (ej.aH tj Ol) := Ok Dw Dx HQ HP aaI _ _ fun x oy hp ho => by
  rw [← ho]
  clear ho
  obtain ⟨⟨l, ⟨⟩, ⟨⟩⟩, ⟨⟨i, ⟨⟩⟩, ⟨⟩⟩⟩ := x
  have hl : l.length ≤ 140737488355328 := of_decide_eq_true hp
  refine (al ?_).trans ?_
  · simp only [List.all_cons, List.all_nil, Bool.and_true]
    exact decide_eq_true ⟨rfl, rfl, hl⟩
  · show (OT.br (decide (0 ≤ ik l i)) (.ok ⟨ii, ((ik l i, ()), ((i, ()), ()))⟩) (.ok ⟨ii, (((-1 : Int), ()), ((i, ()), ()))⟩) : OT ej.Y).run = some ⟨ii, ((ik l i, ()), ((i, ()), ()))⟩
    rcases OX l i l.length 0 with h | h
    · have h : ik l i = -1 := h
      rw [h]
      rfl
    · exact OT.ap (decide_eq_true h)
def o5 : cG := (ej.aH tj Ol)
theorem Ko : ac Tryz.prog 171 o5 := aaH
theorem Kn : aK o5 := aB
def qa : Env := aA 171 o5 zF
theorem p9 : aV Tryz.prog qa := ai Ko rS
theorem sr : ax qa := ae Kn AX
theorem LN : aZ Tryz.prog te qa := aN follows au p9 sr
def gI : av := ⟨[.val false (.list uu), .fn 169 [0]], [(0, .cells [.val false .int])], true, 1, true⟩
abbrev yG : Type := ((List ((aa × (aa × (aa × Bool))))) × (Unit) × Unit) × (((Int) × Unit) × Unit)
def Dz : az := ⟨[.val false .bool], [(0, .cells [.val false .int])], false⟩
def HS : SV → Option az := fun _ => some Dz
def Kq (a0 : List ((aa × (aa × (aa × Bool))))) (c0_0 : Int) : OT gI.Y :=
  (gd [tj ((a0, (), ()), (c0_0, ()), ())] (.ok ⟨Dz, ((decide ((0 : Int) ≤ ik a0 c0_0), ()), ((c0_0, ()), ()))⟩))
theorem al2 (x : yG) (Q : gI.Y → Prop) : wpf te qa ay 1000 Tryz.f168 (gI.inp.inj x).tm (gI.inp.inj x).hp (fnK gI HS Q) (fun _ _ => False) = (Kq (x.1.1) (x.2.1.1)).wpR Q := by kernel_rfl
theorem Sq (pre : yG → Bool) (F : yG → OT gI.Y) (hF : ∀ (x : yG) oy, pre x = true → (F x).run = some oy → (Kq (x.1.1) (x.2.1.1)).run = some oy) : ac Tryz.prog 168 (gI.aH pre F) :=
  aC au p9 LN (f := 168) (fn := Tryz.f168) (c := ao Tryz.f168) (by kernel_rfl) (by kernel_rfl) (by kernel_rfl) (S := gI) (k := 1) (by kernel_rfl) (fun R hR => af) (n := 1000) (sel := HS) (fun v o h => by cases h; rfl) (pre := pre) (F := F) (T := fun x => Kq (x.1.1) (x.2.1.1)) (fun x Q => al2 x Q) hF
def arH (l : List Tm) (i : Int) : Bool := decide (0 ≤ ik l i)
def rg (x : yG) : Bool := decide (x.1.1.length ≤ 140737488355328)
def XR (x : yG) : OT gI.Y := .ok ⟨Dz, ((arH x.1.1 x.2.1.1, ()), x.2)⟩
theorem agf : ac Tryz.prog 168 (gI.aH rg XR) := Sq _ _ fun x oy hp ho => by
  rw [← ho]
  clear ho
  refine (al ?_).trans rfl
  simp only [List.all_cons, List.all_nil, Bool.and_true]
  exact hp
def tk : cG := (gI.aH rg XR)
theorem On : ac Tryz.prog 168 tk := agf
theorem Om : aK tk := aB
def rT : Env := aA 168 tk qa
theorem nH : aV Tryz.prog rT := ai On p9
theorem wE : ax rT := ae Om sr
theorem AZ : aZ Tryz.prog te rT := aN follows au nH wE
def nS : av := ⟨[.val false (.list uu)], [], true, 0, false⟩
abbrev aaq : Type := ((List ((aa × (aa × (aa × Bool))))) × Unit) × (Unit)
def Dk : Shape := ⟨14, [(0, .val false (.list (.prod .elem (.prod .elem (.prod .elem .bool))))), (3, .ptr 0 0 0)], [(0, .cells [.val false .int])], 0, true⟩
abbrev bO : Type := ((List ((aa × (aa × (aa × Bool))))) × (Unit) × Unit) × (((Int) × Unit) × Unit)
def vi : Shape := ⟨14, [(2, .val false .int)], [], 0, true⟩
abbrev lW : Type := ((Int) × Unit) × (Unit)
def vj : Shape := ⟨14, [], [], 0, true⟩
abbrev lX : Type := (Unit) × (Unit)
def afY : SE → Option Shape := jr [(0, vj)] (some vi)
def aqd (a0 : List ((aa × (aa × (aa × Bool))))) (c0_0 : Int) : OT (Sum bO aP) :=
  (.br (decide ((0 : Int) ≤ c0_0))
  (gd [rg ((a0, (), ()), (c0_0, ()), ())] (.br (arH a0 c0_0)
    (gd [inR (c0_0 + (1 : Int))] (.ok (.inr ⟨(.ret, vi), ((c0_0 + (1 : Int), ()), ())⟩)))
    (gd [inR (c0_0 - (1 : Int))] (.ok (.inl ((a0, ((), ())), ((c0_0 - (1 : Int), ()), ())))))))
  (.ok (.inr ⟨(.exit 0, vj), ((), ())⟩)))
def Dl (s : bO) : OT (Sum bO aP) := aqd (s.1.1) (s.2.1.1)
theorem aqa (s : bO) (Q : Sum bO aP → Prop) : wps te rT ay 1000 (bF (ao Tryz.f161) 0) (Dk.inj s) (cQ Dk afY (Q : Sum Dk.T aP → Prop)) = (Dl s).wpR Q := by kernel_rfl
def Kc (g0_r : bO → lW) (c0_r : bO → Bool) (g0_0 : bO → lX) (s : bO) : OT aP := (.br (c0_r s) (.ok ⟨(.ret, vi), g0_r s⟩) (.ok ⟨(.exit 0, vj), g0_0 s⟩))
def tg : az := ⟨[.val false .int], [], false⟩
def XF : SV → Option az := fun _ => some tg
def af2 (ok0 : bO → Bool) (g0_r : bO → lW) (c0_r : bO → Bool) (g0_0 : bO → lX) (a0 : List ((aa × (aa × (aa × Bool))))) : OT nS.Y :=
  let z0 : (List (aa × aa × aa × Bool) × PUnit × PUnit) × (Int × PUnit) × PUnit := ((a0, (), ()), ((255 : Int), ()), ())
  (gd [ok0 z0] (.br (c0_r z0)
  (.ok ⟨tg, (((g0_r z0).fst.fst, ()), ())⟩)
  (.ok ⟨tg, (((0 : Int), ()), ())⟩)))
theorem asx (ok0 : bO → Bool) (g0_r : bO → lW) (c0_r : bO → Bool) (g0_0 : bO → lX) (x : aaq) (Q : nS.Y → Prop) : wpf te rT (bg 0 (di Dk 0 ok0 (Kc g0_r c0_r g0_0)) ay) 1000 Tryz.f161 (nS.inp.inj x).tm (nS.inp.inj x).hp (fnK nS XF Q) (fun _ _ => False) = (af2 ok0 g0_r c0_r g0_0 (x.1.1)).wpR Q := by kernel_rfl
theorem afZ (ok0 : bO → Bool) (g0_r : bO → lW) (c0_r : bO → Bool) (g0_0 : bO → lX) (h0 : ∀ s : bO, ok0 s = true → ∃ m e, aq (Dl) m s = some e ∧ (Kc g0_r c0_r g0_0 s).run = some e) (pre : aaq → Bool) (F : aaq → OT nS.Y) (hF : ∀ (x : aaq) oy, pre x = true → (F x).run = some oy → (af2 ok0 g0_r c0_r g0_0 (x.1.1)).run = some oy) : ac Tryz.prog 161 (nS.aH pre F) :=
  aC au nH AZ (f := 161) (fn := Tryz.f161) (c := ao Tryz.f161) (by kernel_rfl) (by kernel_rfl) (by kernel_rfl) (S := nS) (k := 0) (by kernel_rfl) (fun R hR => (aF (c := (ao Tryz.f161)) (by kernel_rfl) (id := 0) (by kernel_rfl) (bt au nH AZ (sh := Dk) hR (xs := afY) (aG (by kernel_rfl) (by kernel_rfl) hR) aW af (n := 1000) (T := Dl) (fun s Q => aqa s Q) (ok := ok0) (f := Kc g0_r c0_r g0_0) h0) af)) (n := 1000) (sel := XF) (fun v o h => by cases h; rfl) (pre := pre) (F := F) (T := fun x => af2 ok0 g0_r c0_r g0_0 (x.1.1)) (fun x Q => asx ok0 g0_r c0_r g0_0 x Q) hF
def ack (l : List Tm) : Nat → Nat
  | 0 => 0
  | n + 1 => cond (arH l (n : Int)) (n + 1) (ack l n)
def Qx (l : List Tm) : Nat := ack l 256
def XG (s : bO) : Bool := decide (s.2.1.1 = 255 ∧ s.1.1.length ≤ 140737488355328)
def XH (s : bO) : lW := (((Qx s.1.1 : Int), ()), ())
def af1 (s : bO) : Bool := decide ((0 : Int) < (Qx s.1.1 : Int))
def af0 (_ : bO) : lX := ((), ())
def GL (l : List Tm) (i : Int) : bO := ((l, (), ()), ((i, ()), ()))
theorem UG (l : List Tm) (hl : l.length ≤ 140737488355328) : ∀ n : Nat, n ≤ 256 →
    ∃ m, aq Dl m (GL l ((n : Int) - 1)) = some (cond (decide ((0 : Int) < (ack l n : Int))) ⟨(.ret, vi), (((ack l n : Int), ()), ())⟩ ⟨(.exit 0, vj), ((), ())⟩)
  | 0, _ => ⟨1, aL (OT.aw (decide_eq_false (by dsimp only [GL]; omega)))⟩
  | n + 1, h => by
    rw [show ((n + 1 : Nat) : Int) - 1 = (n : Int) by omega]
    have hgd : ∀ z : OT (Sum bO aP), (gd [rg ((l, (), ()), ((n : Int), ()), ())] z).run = z.run := fun z => al (by
      simp only [List.all_cons, List.all_nil, Bool.and_true]
      exact decide_eq_true hl)
    unfold ack
    rcases (Bool.eq_false_or_eq_true (arH l (n : Int))).symm with hb | hb
    · obtain ⟨m, hm⟩ := UG l hl n (by omega)
      rw [hb]
      refine ⟨m + 1, aM ?_ hm⟩
      refine (OT.ap (decide_eq_true (by dsimp only [GL]; omega))).trans ((hgd _).trans ((OT.aw hb).trans ((al ?_).trans rfl)))
      simp only [List.all_cons, List.all_nil, Bool.and_true]
      exact bE (by dsimp only [GL]; omega)
    · rw [hb]
      simp only [cond_true]
      rw [decide_eq_true (show (0 : Int) < ((n + 1 : Nat) : Int) by omega)]
      refine ⟨1, aL ?_⟩
      refine (OT.ap (decide_eq_true (by dsimp only [GL]; omega))).trans ((hgd _).trans ((OT.ap hb).trans ((al ?_).trans rfl)))
      simp only [List.all_cons, List.all_nil, Bool.and_true]
      exact bE (by dsimp only [GL]; omega)
theorem aqc : ∀ s : bO, XG s = true → ∃ m e, aq Dl m s = some e ∧ (Kc XH af1 af0 s).run = some e := by
  rintro ⟨⟨l, ⟨⟩, ⟨⟩⟩, ⟨⟨i, ⟨⟩⟩, ⟨⟩⟩⟩ h
  have h' := of_decide_eq_true h
  dsimp only at h'
  obtain ⟨rfl, hl⟩ := h'
  obtain ⟨m, hm⟩ := UG l hl 256 (by omega)
  refine ⟨m, _, hm, ?_⟩
  show (OT.br (decide ((0 : Int) < (ack l 256 : Int))) _ _ : OT aP).run = some (cond (decide ((0 : Int) < (ack l 256 : Int))) _ _)
  cases decide ((0 : Int) < (ack l 256 : Int)) <;> rfl
def Kb (x : aaq) : Bool := decide (x.1.1.length ≤ 140737488355328)
def ano (x : aaq) : OT nS.Y := .ok ⟨tg, (((Qx x.1.1 : Int), ()), ())⟩
theorem aqb : ac Tryz.prog 161 (nS.aH Kb ano) := afZ XG XH af1 af0 aqc _ _ fun x oy hp ho => by
  rw [← ho]
  clear ho
  obtain ⟨⟨l, ⟨⟩⟩, ⟨⟩⟩ := x
  have hl : l.length ≤ 140737488355328 := of_decide_eq_true hp
  refine (al ?_).trans ?_
  · simp only [List.all_cons, List.all_nil, Bool.and_true]
    exact decide_eq_true ⟨rfl, hl⟩
  · show (OT.br (decide ((0 : Int) < (Qx l : Int))) (.ok ⟨tg, (((Qx l : Int), ()), ())⟩) (.ok ⟨tg, (((0 : Int), ()), ())⟩) : OT nS.Y).run = some ⟨tg, (((Qx l : Int), ()), ())⟩
    by_cases h : (0 : Int) < (Qx l : Int)
    · exact OT.ap (decide_eq_true h)
    · have e : Qx l = 0 := by omega
      rw [e]
      rfl
def Dj : cG := (nS.aH Kb ano)
theorem aap : ac Tryz.prog 161 Dj := aqb
theorem aao : aK Dj := aB
def wD : Env := aA 161 Dj rT
theorem kE : aV Tryz.prog wD := ai aap nH
theorem Fv : ax wD := ae aao wE
theorem mF : aZ Tryz.prog te wD := aN follows au kE Fv
end Go.Proofs.YtohjofabochgfaaGreat
