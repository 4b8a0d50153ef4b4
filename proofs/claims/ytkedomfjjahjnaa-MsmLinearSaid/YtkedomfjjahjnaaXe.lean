/- A symbolic machine for Go code over plain data, and functions of the program as it shows them. No statement is proved in this file. -/
import Derived.KernelRfl
import Derived.Test.YtkedomfjjahjnaaXd
set_option linter.unusedSimpArgs false
set_option linter.unusedVariables false
set_option linter.unusedSectionVars false

namespace Go.Proofs.Ytkedomfjjahjnaa
open Sx Go
set_option maxRecDepth 100000
def ic : ap := ⟨[.val false .int, .val true (.prod .elem (.prod .elem .bool)), .val true (.prod .elem (.prod .elem .bool))], [], true, 0, false⟩
abbrev D7 : Type := ((Int) × ((aa × (aa × Bool))) × ((aa × (aa × Bool))) × Unit) × (Unit)
def j7 : az := ⟨[.val true (.prod .elem (.prod .elem .bool))], [], false⟩
def Jf : SV → Option az := fun _ => some j7
def M5 (a0 : Int) (a1 : (aa × (aa × Bool))) (a2 : (aa × (aa × Bool))) : OT ic.Y :=
  let z0 : aa × PUnit := (a1.snd.fst, ())
  let z1 : aa × PUnit := (a1.fst, ())
  let z2 : aa := { w0 := 0, w1 := 0, w2 := 0, w3 := 0 }
  let z3 : aa := { w0 := 3, w1 := 0, w2 := 0, w3 := 0 }
  let z4 : Nat := pS a0
  let z5 : aa := aN z4 a1.fst a1.fst
  let z6 : aa := aN z4 z3 z5
  let z7 : aa := nk z4 a1.snd.fst a1.snd.fst
  let z8 : aa := byP z4 z6 z7
  let z9 : aa := aN z4 z8 z8
  let z10 : aa := eM z4 z9 a1.fst
  let z11 : aa × PUnit := (a2.fst, ())
  let z12 : aa := eM z4 z10 a2.fst
  let z13 : aa := eM z4 a1.fst z12
  let z14 : aa := aN z4 z8 z13
  let z15 : aa := eM z4 a2.snd.fst a1.snd.fst
  let z16 : aa := eM z4 a2.fst a1.fst
  let z17 : aa := byP z4 z15 z16
  let z18 : aa := aN z4 z17 z17
  let z19 : aa := eM z4 z18 a1.fst
  let z20 : aa := eM z4 z19 a2.fst
  let z21 : aa := eM z4 a1.fst z20
  let z22 : aa := aN z4 z17 z21
  (.br (a1.snd.snd)
  (.ok ⟨j7, ((a2, ()), ())⟩)
  (.br (a2.snd.snd)
    (.ok ⟨j7, ((a1, ()), ())⟩)
    (gd [dR ((a0, a2.snd.fst, z0), ()), dR ((a0, a2.fst, z1), ())] (.br (a1.fst.w0 == a2.fst.w0 && (a1.fst.w1 == a2.fst.w1 && (a1.fst.w2 == a2.fst.w2 && (a1.fst.w3 == a2.fst.w3 && true))))
      (.br (!(a1.snd.fst.w0 == a2.snd.fst.w0 && (a1.snd.fst.w1 == a2.snd.fst.w1 && (a1.snd.fst.w2 == a2.snd.fst.w2 && (a1.snd.fst.w3 == a2.snd.fst.w3 && true)))))
        (.ok ⟨j7, (((z2, z2, true), ()), ())⟩)
        (gd [b6 ((a0, a1.fst, z1), ()), b6 ((a0, z3, z5, ()), ()), nK ((a0, a1.snd.fst, z0), ()), zg ((a0, z6, z7, ()), ()), b6 ((a0, z8, z8, ()), ()), dR ((a0, z9, z1), ()), dR ((a0, z10, z11), ()), dR ((a0, a1.fst, z12, ()), ()), b6 ((a0, z8, z13, ()), ()), dR ((a0, z14, z0), ())] (.ok ⟨j7, (((z12, eM z4 z14 a1.snd.fst, false), ()), ())⟩)))
      (gd [zg ((a0, z15, z16, ()), ()), b6 ((a0, z17, z17, ()), ()), dR ((a0, z18, z1), ()), dR ((a0, z19, z11), ()), dR ((a0, a1.fst, z20, ()), ()), b6 ((a0, z17, z21, ()), ()), dR ((a0, z22, z0), ())] (.ok ⟨j7, (((z20, eM z4 z22 a1.snd.fst, false), ()), ())⟩))))))
theorem ah9 (x : D7) (Q : ic.Y → Prop) : wpf te Mi ay 1000 Try.f55 (ic.inp.inj x).tm (ic.inp.inj x).hp (fnK ic Jf Q) (fun _ _ => False) = (M5 (x.1.1) (x.1.2.1) (x.1.2.2.1)).wpR Q := by kernel_rfl
theorem T0 (pre : D7 → Bool) (F : D7 → OT ic.Y) (hF : ∀ (x : D7) oy, pre x = true → (F x).run = some oy → (M5 (x.1.1) (x.1.2.1) (x.1.2.2.1)).run = some oy) : ab Try.prog 55 (ic.aK pre F) :=
  aE au CE Wv (f := 55) (fn := Try.f55) (c := al Try.f55) (by kernel_rfl) (by kernel_rfl) (by kernel_rfl) (S := ic) (k := 0) (by kernel_rfl) (fun R hR => af) (n := 1000) (sel := Jf) (fun v o h => by cases h; rfl) (pre := pre) (F := F) (T := fun x => M5 (x.1.1) (x.1.2.1) (x.1.2.2.1)) (fun x Q => ah9 x Q) hF
def wi (p : Nat) (X Y X2 s : aa) : Pt := (eM p (eM p (aN p s s) X) X2, eM p (aN p s (eM p X (eM p (eM p (aN p s s) X) X2))) Y, false)
def dI (p : Nat) (P Q : Pt) : Pt := cond P.2.2 Q (cond Q.2.2 P (cond (eqE P.1 Q.1)
  (cond (eqE P.2.1 Q.2.1) (wi p P.1 P.2.1 Q.1 (byP p (aN p ⟨3, 0, 0, 0⟩ (aN p P.1 P.1)) (nk p P.2.1 P.2.1))) aB)
  (wi p P.1 P.2.1 Q.1 (byP p (eM p Q.2.1 P.2.1) (eM p Q.1 P.1)))))
def nx (x : D7) : Bool := aj x.1.1
def YO (x : D7) : OT ic.Y := .ok ⟨j7, ((dI (pS x.1.1) x.1.2.1 x.1.2.2.1, ()), ())⟩
theorem adG : ab Try.prog 55 (ic.aK nx YO) := T0 _ _ fun x oy hp ho => by
  rw [← ho]
  clear ho
  obtain ⟨⟨c, ⟨X, Y, i⟩, ⟨X2, Y2, i2⟩, ⟨⟩⟩, ⟨⟩⟩ := x
  have hs : aj c = true := hp
  show _ = (OT.ok ⟨j7, ((dI (pS c) (X, Y, i) (X2, Y2, i2), ()), ())⟩ : OT ic.Y).run
  cases i
  · refine (OT.ax rfl).trans ?_
    cases i2
    · refine (OT.ax rfl).trans ((ai ?_).trans ?_)
      · simp only [List.all_cons, List.all_nil, Bool.and_true, Bool.and_eq_true]
        exact ⟨hs, hs⟩
      · rcases (Bool.eq_false_or_eq_true (eqE X X2)).symm with h | h
        · have e : dI (pS c) (X, Y, false) (X2, Y2, false) = wi (pS c) X Y X2 (byP (pS c) (eM (pS c) Y2 Y) (eM (pS c) X2 X)) := by unfold dI; simp only [cond_false, h]
          rw [e]
          refine (OT.ax h).trans ((ai ?_).trans rfl)
          simp only [List.all_cons, List.all_nil, Bool.and_true, Bool.and_eq_true]
          exact ⟨hs, hs, hs, hs, hs, hs, hs⟩
        · refine (OT.ao h).trans ?_
          rcases (Bool.eq_false_or_eq_true (eqE Y Y2)).symm with h2 | h2
          · have e : dI (pS c) (X, Y, false) (X2, Y2, false) = aB := by unfold dI; simp only [cond_false, cond_true, h, h2]
            rw [e]
            exact OT.ao (b := !eqE Y Y2) (by rw [h2]; rfl)
          · have e : dI (pS c) (X, Y, false) (X2, Y2, false) = wi (pS c) X Y X2 (byP (pS c) (aN (pS c) ⟨3, 0, 0, 0⟩ (aN (pS c) X X)) (nk (pS c) Y Y)) := by unfold dI; simp only [cond_false, cond_true, h, h2]
            rw [e]
            refine (OT.ax (b := !eqE Y Y2) (by rw [h2]; rfl)).trans ((ai ?_).trans rfl)
            simp only [List.all_cons, List.all_nil, Bool.and_true, Bool.and_eq_true]
            exact ⟨hs, hs, hs, hs, hs, hs, hs, hs, hs, hs⟩
    · have e : dI (pS c) (X, Y, false) (X2, Y2, true) = (X, Y, false) := by unfold dI; simp only [cond_false, cond_true]
      rw [e]
      exact OT.ao rfl
  · have e : dI (pS c) (X, Y, true) (X2, Y2, i2) = (X2, Y2, i2) := by unfold dI; simp only [cond_true]
    rw [e]
    exact OT.ao rfl
def vk : cK := (ic.aK nx YO)
theorem M4 : ab Try.prog 55 vk := adG
theorem M3 : aL vk := aD
def CD : Env := aA 55 vk Mi
theorem wU : aW Try.prog CD := ag M4 CE
theorem xY : av CD := ac M3 CF
theorem PX : bm Try.prog te CD := aP follows au wU xY
def ii : ap := ⟨[.val false .int, .val true (.prod .elem (.prod .elem .bool)), .val true (.prod .elem (.prod .elem .bool))], [], true, 0, false⟩
abbrev Ed : Type := ((Int) × ((aa × (aa × Bool))) × ((aa × (aa × Bool))) × Unit) × (Unit)
def pg : az := ⟨[.val true (.prod .elem (.prod .elem .bool))], [], false⟩
def Jr : SV → Option az := fun _ => some pg
def Ni (a0 : Int) (a1 : (aa × (aa × Bool))) (a2 : (aa × (aa × Bool))) : OT ii.Y :=
  let z0 : aa := { w0 := 0, w1 := 0, w2 := 0, w3 := 0 }
  let z1 : aa × aa × Bool := (z0, z0, true)
  (.br (!onB a0 a1)
  (.ok ⟨pg, ((z1, ()), ())⟩)
  (.br (!onB a0 a2)
    (.ok ⟨pg, ((z1, ()), ())⟩)
    (gd [nx ((a0, a1, a2, ()), ())] (.ok ⟨pg, ((dI (pS a0) a1 a2, ()), ())⟩))))
theorem aie (x : Ed) (Q : ii.Y → Prop) : wpf te CD ay 1000 Try.f26 (ii.inp.inj x).tm (ii.inp.inj x).hp (fnK ii Jr Q) (fun _ _ => False) = (Ni (x.1.1) (x.1.2.1) (x.1.2.2.1)).wpR Q := by kernel_rfl
theorem T7 (pre : Ed → Bool) (F : Ed → OT ii.Y) (hF : ∀ (x : Ed) oy, pre x = true → (F x).run = some oy → (Ni (x.1.1) (x.1.2.1) (x.1.2.2.1)).run = some oy) : ab Try.prog 26 (ii.aK pre F) :=
  aE au wU PX (f := 26) (fn := Try.f26) (c := al Try.f26) (by kernel_rfl) (by kernel_rfl) (by kernel_rfl) (S := ii) (k := 0) (by kernel_rfl) (fun R hR => af) (n := 1000) (sel := Jr) (fun v o h => by cases h; rfl) (pre := pre) (F := F) (T := fun x => Ni (x.1.1) (x.1.2.1) (x.1.2.2.1)) (fun x Q => aie x Q) hF
def IW (c : Int) (P Q : Pt) : Pt := cond (onB c P) (cond (onB c Q) (dI (pS c) P Q) aB) aB
def Js (_ : Ed) : Bool := true
def Y4 (x : Ed) : OT ii.Y := .ok ⟨pg, ((IW x.1.1 x.1.2.1 x.1.2.2.1, ()), ())⟩
theorem adS : ab Try.prog 26 (ii.aK Js Y4) := T7 _ _ fun x oy _ ho => by
  rw [← ho]
  clear ho
  obtain ⟨⟨c, P, Q, ⟨⟩⟩, ⟨⟩⟩ := x
  show _ = (OT.ok ⟨pg, ((IW c P Q, ()), ())⟩ : OT ii.Y).run
  rcases (Bool.eq_false_or_eq_true (onB c P)).symm with h1 | h1
  · have e : IW c P Q = aB := by unfold IW; rw [h1]; rfl
    rw [e]
    exact OT.ao (b := !onB c P) (by rw [h1]; rfl)
  · have hs := mn h1
    refine (OT.ax (b := !onB c P) (by rw [h1]; rfl)).trans ?_
    rcases (Bool.eq_false_or_eq_true (onB c Q)).symm with h2 | h2
    · have e : IW c P Q = aB := by unfold IW; rw [h1, h2]; rfl
      rw [e]
      exact OT.ao (b := !onB c Q) (by rw [h2]; rfl)
    · have e : IW c P Q = dI (pS c) P Q := by unfold IW; rw [h1, h2]; rfl
      rw [e]
      refine (OT.ax (b := !onB c Q) (by rw [h2]; rfl)).trans ((ai ?_).trans rfl)
      simp only [List.all_cons, List.all_nil, Bool.and_true]
      exact hs
def vq : cK := (ii.aK Js Y4)
theorem Nh : ab Try.prog 26 vq := adS
theorem Ng : aL vq := aD
def sc : Env := aA 26 vq CD
theorem lN : aW Try.prog sc := ag Nh wU
theorem yb : av sc := ac Ng xY
theorem sb : bm Try.prog te sc := aP follows au lN yb
def ig : ap := ⟨[.val false .int, .val true .elem, .val true (.prod .elem (.prod .elem .bool))], [], true, 0, false⟩
abbrev Ea : Type := ((Int) × (aa) × ((aa × (aa × Bool))) × Unit) × (Unit)
def s5 : Shape := ⟨60, [(0, .val false .int), (4, .ptr 0 0 0), (5, .ptr 1 0 0), (6, .ptr 2 0 0), (7, .ptr 3 0 0), (8, .val false .int)], [(0, .row .u64), (1, .cells [.val false .u64, .val false .u64, .val false .u64, .val false .u64, .val false .u64, .val false .u64, .val false .u64, .val false .u64, .val false .bool]), (2, .cells [.val false .u64, .val false .u64, .val false .u64, .val false .u64, .val false .u64, .val false .u64, .val false .u64, .val false .u64, .val false .bool]), (3, .cells [.val false .u64, .val false .u64, .val false .u64, .val false .u64, .val false .u64, .val false .u64, .val false .u64, .val false .u64, .val false .bool])], 0, true⟩
abbrev cp : Type := ((Int) × (Unit) × (Unit) × (Unit) × (Unit) × (Int) × Unit) × ((List (UInt64)) × ((UInt64) × (UInt64) × (UInt64) × (UInt64) × (UInt64) × (UInt64) × (UInt64) × (UInt64) × (Bool) × Unit) × ((UInt64) × (UInt64) × (UInt64) × (UInt64) × (UInt64) × (UInt64) × (UInt64) × (UInt64) × (Bool) × Unit) × ((UInt64) × (UInt64) × (UInt64) × (UInt64) × (UInt64) × (UInt64) × (UInt64) × (UInt64) × (Bool) × Unit) × Unit)
def kN : Shape := ⟨60, [(0, .val false .int), (4, .ptr 0 0 0), (5, .ptr 1 0 0), (6, .ptr 2 0 0), (7, .ptr 3 0 0), (8, .val false .int)], [(0, .row .u64), (1, .cells [.val false .u64, .val false .u64, .val false .u64, .val false .u64, .val false .u64, .val false .u64, .val false .u64, .val false .u64, .val false .bool]), (2, .cells [.val false .u64, .val false .u64, .val false .u64, .val false .u64, .val false .u64, .val false .u64, .val false .u64, .val false .u64, .val false .bool]), (3, .cells [.val false .u64, .val false .u64, .val false .u64, .val false .u64, .val false .u64, .val false .u64, .val false .u64, .val false .u64, .val false .bool])], 0, true⟩
abbrev je : Type := ((Int) × (Unit) × (Unit) × (Unit) × (Unit) × (Int) × Unit) × ((List (UInt64)) × ((UInt64) × (UInt64) × (UInt64) × (UInt64) × (UInt64) × (UInt64) × (UInt64) × (UInt64) × (Bool) × Unit) × ((UInt64) × (UInt64) × (UInt64) × (UInt64) × (UInt64) × (UInt64) × (UInt64) × (UInt64) × (Bool) × Unit) × ((UInt64) × (UInt64) × (UInt64) × (UInt64) × (UInt64) × (UInt64) × (UInt64) × (UInt64) × (Bool) × Unit) × Unit)
def Rm : SE → Option Shape := ku [(0, kN)] none
def adO (a0 : Int) (a8 : Int) (c0 : List (UInt64)) (c1_0 : UInt64) (c1_1 : UInt64) (c1_2 : UInt64) (c1_3 : UInt64) (c1_4 : UInt64) (c1_5 : UInt64) (c1_6 : UInt64) (c1_7 : UInt64) (c1_8 : Bool) (c2_0 : UInt64) (c2_1 : UInt64) (c2_2 : UInt64) (c2_3 : UInt64) (c2_4 : UInt64) (c2_5 : UInt64) (c2_6 : UInt64) (c2_7 : UInt64) (c2_8 : Bool) (c3_0 : UInt64) (c3_1 : UInt64) (c3_2 : UInt64) (c3_3 : UInt64) (c3_4 : UInt64) (c3_5 : UInt64) (c3_6 : UInt64) (c3_7 : UInt64) (c3_8 : Bool) : OT (Sum cp aQ) :=
  let z0 : Int := Int.tdiv a8 (64 : Int)
  (.br (decide ((0 : Int) ≤ a8))
  (gd [true && inR z0, inB z0 4, decide (Int.toNat z0 + 0 < List.length c0)] (.br (bq (List.getD c0 (Int.toNat z0 + 0) (0 : UInt64)) (↑(UInt64.toNat (i2u (Int.tmod a8 (64 : Int)))) : Int) &&& (1 : UInt64) == (0 : UInt64))
    (gd [inR (a8 - (1 : Int))] (.ok (.inl ((a0, ((), ((), ((), ((), (a8 - (1 : Int), ())))))), (c0, ((c1_0, (c1_1, (c1_2, (c1_3, (c1_4, (c1_5, (c1_6, (c1_7, (c1_8, ()))))))))), ((c2_0, (c2_1, (c2_2, (c2_3, (c2_4, (c2_5, (c2_6, (c2_7, (c2_8, ()))))))))), ((c3_0, (c3_1, (c3_2, (c3_3, (c3_4, (c3_5, (c3_6, (c3_7, (c3_8, ()))))))))), ()))))))))
    (.ok (.inr ⟨(.exit 0, kN), ((a0, ((), ((), ((), ((), (a8, ())))))), (c0, ((c1_0, (c1_1, (c1_2, (c1_3, (c1_4, (c1_5, (c1_6, (c1_7, (c1_8, ()))))))))), ((c2_0, (c2_1, (c2_2, (c2_3, (c2_4, (c2_5, (c2_6, (c2_7, (c2_8, ()))))))))), ((c3_0, (c3_1, (c3_2, (c3_3, (c3_4, (c3_5, (c3_6, (c3_7, (c3_8, ()))))))))), ())))))⟩))))
  (.ok (.inr ⟨(.exit 0, kN), ((a0, ((), ((), ((), ((), (a8, ())))))), (c0, ((c1_0, (c1_1, (c1_2, (c1_3, (c1_4, (c1_5, (c1_6, (c1_7, (c1_8, ()))))))))), ((c2_0, (c2_1, (c2_2, (c2_3, (c2_4, (c2_5, (c2_6, (c2_7, (c2_8, ()))))))))), ((c3_0, (c3_1, (c3_2, (c3_3, (c3_4, (c3_5, (c3_6, (c3_7, (c3_8, ()))))))))), ())))))⟩)))
def s7 (s : cp) : OT (Sum cp aQ) := adO (s.1.1) (s.1.2.2.2.2.2.1) (s.2.1) (s.2.2.1.1) (s.2.2.1.2.1) (s.2.2.1.2.2.1) (s.2.2.1.2.2.2.1) (s.2.2.1.2.2.2.2.1) (s.2.2.1.2.2.2.2.2.1) (s.2.2.1.2.2.2.2.2.2.1) (s.2.2.1.2.2.2.2.2.2.2.1) (s.2.2.1.2.2.2.2.2.2.2.2.1) (s.2.2.2.1.1) (s.2.2.2.1.2.1) (s.2.2.2.1.2.2.1) (s.2.2.2.1.2.2.2.1) (s.2.2.2.1.2.2.2.2.1) (s.2.2.2.1.2.2.2.2.2.1) (s.2.2.2.1.2.2.2.2.2.2.1) (s.2.2.2.1.2.2.2.2.2.2.2.1) (s.2.2.2.1.2.2.2.2.2.2.2.2.1) (s.2.2.2.2.1.1) (s.2.2.2.2.1.2.1) (s.2.2.2.2.1.2.2.1) (s.2.2.2.2.1.2.2.2.1) (s.2.2.2.2.1.2.2.2.2.1) (s.2.2.2.2.1.2.2.2.2.2.1) (s.2.2.2.2.1.2.2.2.2.2.2.1) (s.2.2.2.2.1.2.2.2.2.2.2.2.1) (s.2.2.2.2.1.2.2.2.2.2.2.2.2.1)
theorem adJ (s : cp) (Q : Sum cp aQ → Prop) : wps te sc ay 1000 (bJ (al Try.f16) 0) (s5.inj s) (cW s5 Rm (Q : Sum s5.T aQ → Prop)) = (s7 s).wpR Q := by kernel_rfl
def za (g0_0 : cp → je) (s : cp) : OT aQ := (.ok ⟨(.exit 0, kN), g0_0 s⟩)
def s4 : Shape := ⟨60, [(0, .val false .int), (4, .ptr 0 0 0), (5, .ptr 1 0 0), (6, .ptr 2 0 0), (7, .ptr 3 0 0), (9, .val false .int)], [(0, .row .u64), (1, .cells [.val false .u64, .val false .u64, .val false .u64, .val false .u64, .val false .u64, .val false .u64, .val false .u64, .val false .u64, .val false .bool]), (2, .cells [.val false .u64, .val false .u64, .val false .u64, .val false .u64, .val false .u64, .val false .u64, .val false .u64, .val false .u64, .val false .bool]), (3, .cells [.val false .u64, .val false .u64, .val false .u64, .val false .u64, .val false .u64, .val false .u64, .val false .u64, .val false .u64, .val false .bool])], 0, true⟩
abbrev cA : Type := ((Int) × (Unit) × (Unit) × (Unit) × (Unit) × (Int) × Unit) × ((List (UInt64)) × ((UInt64) × (UInt64) × (UInt64) × (UInt64) × (UInt64) × (UInt64) × (UInt64) × (UInt64) × (Bool) × Unit) × ((UInt64) × (UInt64) × (UInt64) × (UInt64) × (UInt64) × (UInt64) × (UInt64) × (UInt64) × (Bool) × Unit) × ((UInt64) × (UInt64) × (UInt64) × (UInt64) × (UInt64) × (UInt64) × (UInt64) × (UInt64) × (Bool) × Unit) × Unit)
def pd : Shape := ⟨60, [(6, .ptr 0 0 0), (7, .ptr 1 0 0)], [(0, .cells [.val false .u64, .val false .u64, .val false .u64, .val false .u64, .val false .u64, .val false .u64, .val false .u64, .val false .u64, .val false .bool]), (1, .cells [.val false .u64, .val false .u64, .val false .u64, .val false .u64, .val false .u64, .val false .u64, .val false .u64, .val false .u64, .val false .bool])], 0, true⟩
abbrev jd : Type := ((Unit) × (Unit) × Unit) × (((UInt64) × (UInt64) × (UInt64) × (UInt64) × (UInt64) × (UInt64) × (UInt64) × (UInt64) × (Bool) × Unit) × ((UInt64) × (UInt64) × (UInt64) × (UInt64) × (UInt64) × (UInt64) × (UInt64) × (UInt64) × (Bool) × Unit) × Unit)
def Rl : SE → Option Shape := ku [(2, pd)] none
def adN (a0 : Int) (a9 : Int) (c0 : List (UInt64)) (c1_0 : UInt64) (c1_1 : UInt64) (c1_2 : UInt64) (c1_3 : UInt64) (c1_4 : UInt64) (c1_5 : UInt64) (c1_6 : UInt64) (c1_7 : UInt64) (c1_8 : Bool) (c2_0 : UInt64) (c2_1 : UInt64) (c2_2 : UInt64) (c2_3 : UInt64) (c2_4 : UInt64) (c2_5 : UInt64) (c2_6 : UInt64) (c2_7 : UInt64) (c2_8 : Bool) (c3_0 : UInt64) (c3_1 : UInt64) (c3_2 : UInt64) (c3_3 : UInt64) (c3_4 : UInt64) (c3_5 : UInt64) (c3_6 : UInt64) (c3_7 : UInt64) (c3_8 : Bool) : OT (Sum cA aQ) :=
  let z0 : aa × aa × Bool := ({ w0 := c3_0, w1 := c3_1, w2 := c3_2, w3 := c3_3 }, { w0 := c3_4, w1 := c3_5, w2 := c3_6, w3 := c3_7 }, c3_8)
  let z1 : Int := Int.tdiv a9 (64 : Int)
  let z2 : Nat := pS a0
  let z3 : aa × aa × Bool := dI z2 z0 z0
  let z4 : aa × aa × Bool := ({ w0 := c1_0, w1 := c1_1, w2 := c1_2, w3 := c1_3 }, { w0 := c1_4, w1 := c1_5, w2 := c1_6, w3 := c1_7 }, c1_8)
  let z5 : Bool := inR (a9 - (1 : Int))
  let z6 : aa × aa × Bool := dI z2 z3 z4
  let z7 := z6.fst
  let z8 := z6.snd
  let z9 := z8.fst
  let z10 := z3.fst
  let z11 := z3.snd
  let z12 := z11.fst
  (.br (decide ((0 : Int) ≤ a9))
  (gd [nx ((a0, z0, z0, ()), ()), true && inR z1, inB z1 4, decide (Int.toNat z1 + 0 < List.length c0)] (.br (bq (List.getD c0 (Int.toNat z1 + 0) (0 : UInt64)) (↑(UInt64.toNat (i2u (Int.tmod a9 (64 : Int)))) : Int) &&& (1 : UInt64) == (1 : UInt64))
    (gd [nx ((a0, z3, z4, ()), ()), z5] (.ok (.inl ((a0, ((), ((), ((), ((), (a9 - (1 : Int), ())))))), (c0, ((c1_0, (c1_1, (c1_2, (c1_3, (c1_4, (c1_5, (c1_6, (c1_7, (c1_8, ()))))))))), ((c2_0, (c2_1, (c2_2, (c2_3, (c2_4, (c2_5, (c2_6, (c2_7, (c2_8, ()))))))))), ((z7.w0, (z7.w1, (z7.w2, (z7.w3, (z9.w0, (z9.w1, (z9.w2, (z9.w3, (z8.snd, ()))))))))), ()))))))))
    (gd [z5] (.ok (.inl ((a0, ((), ((), ((), ((), (a9 - (1 : Int), ())))))), (c0, ((c1_0, (c1_1, (c1_2, (c1_3, (c1_4, (c1_5, (c1_6, (c1_7, (c1_8, ()))))))))), ((c2_0, (c2_1, (c2_2, (c2_3, (c2_4, (c2_5, (c2_6, (c2_7, (c2_8, ()))))))))), ((z10.w0, (z10.w1, (z10.w2, (z10.w3, (z12.w0, (z12.w1, (z12.w2, (z12.w3, (z11.snd, ()))))))))), ()))))))))))
  (.ok (.inr ⟨(.exit 2, pd), (((), ((), ())), ((c2_0, (c2_1, (c2_2, (c2_3, (c2_4, (c2_5, (c2_6, (c2_7, (c2_8, ()))))))))), ((c3_0, (c3_1, (c3_2, (c3_3, (c3_4, (c3_5, (c3_6, (c3_7, (c3_8, ()))))))))), ())))⟩)))
def pe (s : cA) : OT (Sum cA aQ) := adN (s.1.1) (s.1.2.2.2.2.2.1) (s.2.1) (s.2.2.1.1) (s.2.2.1.2.1) (s.2.2.1.2.2.1) (s.2.2.1.2.2.2.1) (s.2.2.1.2.2.2.2.1) (s.2.2.1.2.2.2.2.2.1) (s.2.2.1.2.2.2.2.2.2.1) (s.2.2.1.2.2.2.2.2.2.2.1) (s.2.2.1.2.2.2.2.2.2.2.2.1) (s.2.2.2.1.1) (s.2.2.2.1.2.1) (s.2.2.2.1.2.2.1) (s.2.2.2.1.2.2.2.1) (s.2.2.2.1.2.2.2.2.1) (s.2.2.2.1.2.2.2.2.2.1) (s.2.2.2.1.2.2.2.2.2.2.1) (s.2.2.2.1.2.2.2.2.2.2.2.1) (s.2.2.2.1.2.2.2.2.2.2.2.2.1) (s.2.2.2.2.1.1) (s.2.2.2.2.1.2.1) (s.2.2.2.2.1.2.2.1) (s.2.2.2.2.1.2.2.2.1) (s.2.2.2.2.1.2.2.2.2.1) (s.2.2.2.2.1.2.2.2.2.2.1) (s.2.2.2.2.1.2.2.2.2.2.2.1) (s.2.2.2.2.1.2.2.2.2.2.2.2.1) (s.2.2.2.2.1.2.2.2.2.2.2.2.2.1)
theorem adI (s : cA) (Q : Sum cA aQ → Prop) : wps te sc ay 1000 (bJ (al Try.f16) 2) (s4.inj s) (cW s4 Rl (Q : Sum s4.T aQ → Prop)) = (pe s).wpR Q := by kernel_rfl
def y9 (g2_2 : cA → jd) (s : cA) : OT aQ := (.ok ⟨(.exit 2, pd), g2_2 s⟩)
def s6 : az := ⟨[.val true (.prod .elem (.prod .elem .bool))], [], false⟩
def Jk : SV → Option az := fun _ => some s6
def M9 (ok0 : cp → Bool) (g0_0 : cp → je) (ok2 : cA → Bool) (g2_2 : cA → jd) (a0 : Int) (a1 : aa) (a2 : (aa × (aa × Bool))) : OT ig.Y :=
  let z0 : aa := { w0 := 0, w1 := 0, w2 := 0, w3 := 0 }
  let z1 : Int := qv a0 (1 : Int)
  let z2 : aa := ofP (pS z1) a1
  let z3 : (Int × PUnit × PUnit × PUnit × PUnit × Int × PUnit) × List UInt64 × (UInt64 × UInt64 × UInt64 × UInt64 × UInt64 × UInt64 × UInt64 × UInt64 × Bool × PUnit) × (UInt64 × UInt64 × UInt64 × UInt64 × UInt64 × UInt64 × UInt64 × UInt64 × Bool × PUnit) × (UInt64 × UInt64 × UInt64 × UInt64 × UInt64 × UInt64 × UInt64 × UInt64 × Bool × PUnit) × PUnit := ((a0, (), (), (), (), (255 : Int), ()), [z2.w0, z2.w1, z2.w2, z2.w3], (a2.fst.w0, a2.fst.w1, a2.fst.w2, a2.fst.w3, a2.snd.fst.w0, a2.snd.fst.w1, a2.snd.fst.w2, a2.snd.fst.w3, a2.snd.snd, ()), ((0 : UInt64), (0 : UInt64), (0 : UInt64), (0 : UInt64), (0 : UInt64), (0 : UInt64), (0 : UInt64), (0 : UInt64), false, ()), ((0 : UInt64), (0 : UInt64), (0 : UInt64), (0 : UInt64), (0 : UInt64), (0 : UInt64), (0 : UInt64), (0 : UInt64), true, ()), ())
  let z4 : (Int × PUnit × PUnit × PUnit × PUnit × Int × PUnit) × List UInt64 × (UInt64 × UInt64 × UInt64 × UInt64 × UInt64 × UInt64 × UInt64 × UInt64 × Bool × PUnit) × (UInt64 × UInt64 × UInt64 × UInt64 × UInt64 × UInt64 × UInt64 × UInt64 × Bool × PUnit) × (UInt64 × UInt64 × UInt64 × UInt64 × UInt64 × UInt64 × UInt64 × UInt64 × Bool × PUnit) × PUnit := g0_0 z3
  let z5 := z4.fst
  let z6 := z4.snd
  let z7 := z6.snd
  let z8 := z7.fst
  let z9 := z8.snd
  let z10 := z9.snd
  let z11 := z10.snd
  let z12 := z11.snd
  let z13 := z12.snd
  let z14 := z13.snd
  let z15 := z14.snd
  let z16 := z7.snd
  let z17 := z16.fst
  let z18 := z17.snd
  let z19 := z18.snd
  let z20 := z19.snd
  let z21 := z20.snd
  let z22 := z21.snd
  let z23 := z22.snd
  let z24 := z23.snd
  let z25 := z16.snd.fst
  let z26 := z25.snd
  let z27 := z26.snd
  let z28 := z27.snd
  let z29 := z28.snd
  let z30 := z29.snd
  let z31 := z30.snd
  let z32 := z31.snd
  let z33 : (Int × PUnit × PUnit × PUnit × PUnit × Int × PUnit) × List UInt64 × (UInt64 × UInt64 × UInt64 × UInt64 × UInt64 × UInt64 × UInt64 × UInt64 × Bool × PUnit) × (UInt64 × UInt64 × UInt64 × UInt64 × UInt64 × UInt64 × UInt64 × UInt64 × Bool × PUnit) × (UInt64 × UInt64 × UInt64 × UInt64 × UInt64 × UInt64 × UInt64 × UInt64 × Bool × PUnit) × PUnit := ((z5.fst, (), (), (), (), z5.snd.snd.snd.snd.snd.fst, ()), z6.fst, (z8.fst, z9.fst, z10.fst, z11.fst, z12.fst, z13.fst, z14.fst, z15.fst, z15.snd.fst, ()), (z17.fst, z18.fst, z19.fst, z20.fst, z21.fst, z22.fst, z23.fst, z24.fst, z24.snd.fst, ()), (z25.fst, z26.fst, z27.fst, z28.fst, z29.fst, z30.fst, z31.fst, z32.fst, z32.snd.fst, ()), ())
  let z34 := (g2_2 z33).snd.snd.fst
  let z35 := z34.snd
  let z36 := z35.snd
  let z37 := z36.snd
  let z38 := z37.snd
  let z39 := z38.snd
  let z40 := z39.snd
  let z41 := z40.snd
  (.br (!onB a0 a2)
  (.ok ⟨s6, (((z0, z0, true), ()), ())⟩)
  (gd [gY ((z1, a1, ()), ()), ok0 z3, ok2 z33] (.ok ⟨s6, ((({ w0 := z34.fst, w1 := z35.fst, w2 := z36.fst, w3 := z37.fst }, { w0 := z38.fst, w1 := z39.fst, w2 := z40.fst, w3 := z41.fst }, z41.snd.fst), ()), ())⟩)))
theorem aib (ok0 : cp → Bool) (g0_0 : cp → je) (ok2 : cA → Bool) (g2_2 : cA → jd) (x : Ea) (Q : ig.Y → Prop) : wpf te sc (bx 2 (dw s4 2 ok2 (y9 g2_2)) (bx 0 (dw s5 0 ok0 (za g0_0)) ay)) 1000 Try.f16 (ig.inp.inj x).tm (ig.inp.inj x).hp (fnK ig Jk Q) (fun _ _ => False) = (M9 ok0 g0_0 ok2 g2_2 (x.1.1) (x.1.2.1) (x.1.2.2.1)).wpR Q := by kernel_rfl
theorem T5 (ok0 : cp → Bool) (g0_0 : cp → je) (ok2 : cA → Bool) (g2_2 : cA → jd) (h0 : ∀ s : cp, ok0 s = true → ∃ m e, aq (s7) m s = some e ∧ (za g0_0 s).run = some e) (h2 : ∀ s : cA, ok2 s = true → ∃ m e, aq (pe) m s = some e ∧ (y9 g2_2 s).run = some e) (pre : Ea → Bool) (F : Ea → OT ig.Y) (hF : ∀ (x : Ea) oy, pre x = true → (F x).run = some oy → (M9 ok0 g0_0 ok2 g2_2 (x.1.1) (x.1.2.1) (x.1.2.2.1)).run = some oy) : ab Try.prog 16 (ig.aK pre F) :=
  aE au lN sb (f := 16) (fn := Try.f16) (c := al Try.f16) (by kernel_rfl) (by kernel_rfl) (by kernel_rfl) (S := ig) (k := 0) (by kernel_rfl) (fun R hR => (aI (c := (al Try.f16)) (by kernel_rfl) (id := 2) (by kernel_rfl) (bA au lN sb (sh := s4) hR (xs := Rl) (aH (by kernel_rfl) (by kernel_rfl) hR) aX af (n := 1000) (T := pe) (fun s Q => adI s Q) (ok := ok2) (f := y9 g2_2) h2) (aI (c := (al Try.f16)) (by kernel_rfl) (id := 0) (by kernel_rfl) (bA au lN sb (sh := s5) hR (xs := Rm) (aH (by kernel_rfl) (by kernel_rfl) hR) aX af (n := 1000) (T := s7) (fun s Q => adJ s Q) (ok := ok0) (f := za g0_0) h0) af))) (n := 1000) (sel := Jk) (fun v o h => by cases h; rfl) (pre := pre) (F := F) (T := fun x => M9 ok0 g0_0 ok2 g2_2 (x.1.1) (x.1.2.1) (x.1.2.2.1)) (fun x Q => aib ok0 g0_0 ok2 g2_2 x Q) hF
def aV (P : Pt) : C9 := (P.1.w0, P.1.w1, P.1.w2, P.1.w3, P.2.1.w0, P.2.1.w1, P.2.1.w2, P.2.1.w3, P.2.2, ())
def ci (p k : Nat) (P : Pt) (n : Nat) (O : Pt) : Pt := cond (yX k (255 - n)) (dI p (dI p O O) P) (dI p O O)
def zS (p k : Nat) (P : Pt) : Pt := upto (ci p k P) aB 256
theorem Rg {p k t : Nat} {P : Pt} (ht : t ≤ 256) (hk : k / 2 ^ t = 0) : ∀ n, n ≤ 256 - t → upto (ci p k P) aB n = aB
  | 0, _ => rfl
  | n + 1, hn => by
    show ci p k P n (upto (ci p k P) aB n) = _
    rw [Rg ht hk n (by omega)]
    have hb : yX k (255 - n) = false := by
      unfold yX
      rw [show 255 - n = t + (255 - n - t) by omega, Nat.pow_add, ← Nat.div_div_eq_div_mul, hk, Nat.zero_div]
      rfl
    unfold ci
    rw [hb]
    rfl
def yN (s : Int) (B : aa) (P : C9) (Q : C9) (O : C9) (i : Int) : cp := ((s, (), (), (), (), i, ()), (lst B, P, Q, O, ()))
theorem Rb (s : Int) (B : aa) (P Q O : C9) : ∀ n : Nat, n ≤ 256 → ∃ m, aq s7 m (yN s B P Q O ((n : Int) - 1)) = some ⟨(.exit 0, kN), yN s B P Q O (TT B.nat n)⟩
  | 0, _ => ⟨1, aT (OT.ax (decide_eq_false (by dsimp only [yN]; omega)))⟩
  | n + 1, hn => by
    have e1 : ((n + 1 : Nat) : Int) - 1 = (n : Int) := by omega
    rw [e1]
    have hb := al3 (b := B) (k := n) (by omega)
    unfold TT
    rcases (Bool.eq_false_or_eq_true (yX B.nat n)).symm with h | h
    · obtain ⟨m, hm⟩ := Rb s B P Q O n (by omega)
      rw [h] at hb ⊢
      refine ⟨m + 1, aO ?_ hm⟩
      refine (OT.ao (decide_eq_true (by dsimp only [yN]; omega))).trans ((ae2 (B := B) (k := n) (by omega) _).trans ((OT.ao ?_).trans ((ai ?_).trans rfl)))
      · exact (Tw _).trans (congrArg Bool.not hb)
      · simp only [List.all_cons, List.all_nil, Bool.and_true]
        exact bC (by dsimp only [yN]; omega)
    · rw [h] at hb ⊢
      refine ⟨1, aT ?_⟩
      refine (OT.ao (decide_eq_true (by dsimp only [yN]; omega))).trans ((ae2 (B := B) (k := n) (by omega) _).trans ((OT.ax ?_).trans rfl))
      exact (Tw _).trans (congrArg Bool.not hb)
def Jm (s : cp) : Bool := decide (s.1.2.2.2.2.2.1 = 255 ∧ s.2.1.length = 4)
def Ro (s : cp) : je := ((s.1.1, (), (), (), (), TT (elemOf s.2.1).nat 256, ()), s.2)
theorem adM : ∀ s : cp, Jm s = true → ∃ m e, aq s7 m s = some e ∧ (za Ro s).run = some e := by
  rintro ⟨⟨s, ⟨⟩, ⟨⟩, ⟨⟩, ⟨⟩, i, ⟨⟩⟩, ⟨l, P, Q, O, ⟨⟩⟩⟩ h
  have h' := of_decide_eq_true h
  dsimp only at h'
  obtain ⟨rfl, hl⟩ := h'
  obtain ⟨B, rfl⟩ : ∃ a, l = lst a := ⟨elemOf l, (aZ hl).symm⟩
  obtain ⟨m, hm⟩ := Rb s B P Q O 256 (by omega)
  exact ⟨m, _, hm, rfl⟩
theorem ah5 {s : Int} (hs : aj s = true) (B : aa) (P Q : C9) (O : Pt) {k : Nat} (hk : k < 256) :
    (pe (yN s B P Q (aV O) (k : Int))).run = some (.inl (yN s B P Q (aV (ci (pS s) B.nat (kE P) (255 - k) O)) ((k : Int) - 1))) := by
  have hb := al3 (b := B) (k := k) hk
  have t1 : Int.tdiv (k : Int) 64 = ((k / 64 : Nat) : Int) := by rw [Int.tdiv_eq_ediv_of_nonneg (by omega)]; omega
  have hi : inR ((k : Int) - 1) = true := bC (by omega)
  refine (OT.ao (decide_eq_true (by dsimp only [yN]; omega))).trans ((ai ?_).trans ?_)
  · simp only [yN, t1, Int.toNat_natCast, Nat.add_zero, cJ, List.all_cons, List.all_nil, Bool.and_true, Bool.true_and, Bool.and_eq_true]
    exact ⟨hs, bC (by omega), bU (by omega), decide_eq_true (by omega)⟩
  · rcases (Bool.eq_false_or_eq_true (yX B.nat k)).symm with h | h
    · have e : ci (pS s) B.nat (kE P) (255 - k) O = dI (pS s) O O := by unfold ci; rw [show 255 - (255 - k) = k by omega, h]; rfl
      rw [e]
      rw [h] at hb
      refine (OT.ax hb).trans ((ai ?_).trans rfl)
      simp only [List.all_cons, List.all_nil, Bool.and_true]
      exact hi
    · have e : ci (pS s) B.nat (kE P) (255 - k) O = dI (pS s) (dI (pS s) O O) (kE P) := by unfold ci; rw [show 255 - (255 - k) = k by omega, h]; rfl
      rw [e]
      rw [h] at hb
      refine (OT.ao hb).trans ((ai ?_).trans rfl)
      simp only [List.all_cons, List.all_nil, Bool.and_true, Bool.and_eq_true]
      exact ⟨hs, hi⟩
theorem Ra {s : Int} (hs : aj s = true) (B : aa) (P Q : C9) : ∀ (n : Nat) (O : Pt), n ≤ 256 → O = upto (ci (pS s) B.nat (kE P)) aB (256 - n) →
    ∃ m, aq pe m (yN s B P Q (aV O) ((n : Int) - 1)) = some ⟨(.exit 2, pd), (((), (), ()), (Q, aV (zS (pS s) B.nat (kE P)), ()))⟩
  | 0, O, _, hO => by
    have e : zS (pS s) B.nat (kE P) = O := hO.symm
    rw [e]
    exact ⟨1, aT (OT.ax (decide_eq_false (by dsimp only [yN]; omega)))⟩
  | n + 1, O, hn, hO => by
    obtain ⟨m, hm⟩ := Ra hs B P Q n (ci (pS s) B.nat (kE P) (255 - n) O) (by omega) (by
      rw [show 256 - n = (255 - n) + 1 by omega, hO, show 256 - (n + 1) = 255 - n by omega]
      rfl)
    rw [show ((n + 1 : Nat) : Int) - 1 = (n : Int) by omega]
    exact ⟨m + 1, aO (ah5 hs B P Q O (by omega)) hm⟩
def zV (s : cA) : Bool := aj s.1.1 && decide (s.1.2.2.2.2.2.1 = TT (elemOf s.2.1).nat 256 ∧ s.2.1.length = 4 ∧ kE s.2.2.2.2.1 = aB)
def Rn (s : cA) : jd := (((), (), ()), (s.2.2.2.1, aV (zS (pS s.1.1) (elemOf s.2.1).nat (kE s.2.2.1)), ()))
theorem adL : ∀ s : cA, zV s = true → ∃ m e, aq pe m s = some e ∧ (y9 Rn s).run = some e := by
  rintro ⟨⟨s, ⟨⟩, ⟨⟩, ⟨⟩, ⟨⟩, i, ⟨⟩⟩, ⟨l, P, Q, O, ⟨⟩⟩⟩ h
  simp only [zV, Bool.and_eq_true, decide_eq_true_eq] at h
  obtain ⟨hs, rfl, hl, hO⟩ := h
  have hO2 : O = aV aB := by rw [← hO]; rfl
  subst hO2
  obtain ⟨B, rfl⟩ : ∃ a, l = lst a := ⟨elemOf l, (aZ hl).symm⟩
  obtain ⟨t, e1, e2, e3⟩ := zJ B.nat 256 (Nat.div_eq_of_lt (fU B))
  obtain ⟨m, hm⟩ := Ra hs B P Q t aB e2 (Rg e2 e3 _ (Nat.le_refl _)).symm
  rw [← e1] at hm
  exact ⟨m, _, hm, rfl⟩
def tu (c : Int) (k : aa) (P : Pt) : Pt := cond (onB c P) (zS (pS c) (ofP (pS (qv c 1)) k).nat P) aB
def Jl (_ : Ea) : Bool := true
def YV (x : Ea) : OT ig.Y := .ok ⟨s6, ((tu x.1.1 x.1.2.1 x.1.2.2.1, ()), ())⟩
theorem adK : ab Try.prog 16 (ig.aK Jl YV) := T5 Jm Ro zV Rn adM adL _ _ fun x oy _ ho => by
  rw [← ho]
  clear ho
  obtain ⟨⟨c, k, P, ⟨⟩⟩, ⟨⟩⟩ := x
  show _ = (OT.ok ⟨s6, ((tu c k P, ()), ())⟩ : OT ig.Y).run
  rcases (Bool.eq_false_or_eq_true (onB c P)).symm with h1 | h1
  · have e : tu c k P = aB := by unfold tu; rw [h1]; rfl
    rw [e]
    exact OT.ao (b := !onB c P) (by rw [h1]; rfl)
  · have hs := mn h1
    have e : tu c k P = zS (pS c) (ofP (pS (qv c 1)) k).nat P := by unfold tu; rw [h1]; rfl
    rw [e]
    refine (OT.ax (b := !onB c P) (by rw [h1]; rfl)).trans ((ai ?_).trans rfl)
    simp only [List.all_cons, List.all_nil, Bool.and_true, Bool.and_eq_true]
    refine ⟨fv hs, decide_eq_true (p := (255 : Int) = 255 ∧ (lst (ofP (pS (qv c 1)) k)).length = 4) ⟨rfl, rfl⟩, ?_⟩
    refine (Bool.and_eq_true _ _).mpr ⟨hs, ?_⟩
    exact decide_eq_true (p := TT (ofP (pS (qv c 1)) k).nat 256 = TT (ofP (pS (qv c 1)) k).nat 256 ∧ (lst (ofP (pS (qv c 1)) k)).length = 4 ∧ aB = aB) ⟨rfl, rfl, rfl⟩
def vn : cK := (ig.aK Jl YV)
theorem M8 : ab Try.prog 16 vn := adK
theorem M7 : aL vn := aD
def r9 : Env := aA 16 vn sc
theorem lM : aW Try.prog r9 := ag M8 lN
theorem xZ : av r9 := ac M7 yb
theorem rZ : bm Try.prog te r9 := aP follows au lM xZ
def fg : ap := ⟨[.val false .int, .val true .elem], [], true, 0, false⟩
abbrev vv : Type := ((Int) × (aa) × Unit) × (Unit)
def nA : Shape := ⟨114, [(0, .val false .int), (4, .ptr 0 0 0), (10, .ptr 1 0 0), (14, .ptr 2 0 0), (15, .ptr 3 0 0), (16, .ptr 4 0 0), (17, .val false .int)], [(0, .row .u64), (1, .row .u64), (2, .row .u64), (3, .row .u64), (4, .row .u64)], 0, true⟩
abbrev bX : Type := ((Int) × (Unit) × (Unit) × (Unit) × (Unit) × (Unit) × (Int) × Unit) × ((List (UInt64)) × (List (UInt64)) × (List (UInt64)) × (List (UInt64)) × (List (UInt64)) × Unit)
def nz : Shape := ⟨114, [(0, .val false .int), (4, .ptr 0 0 0), (10, .ptr 1 0 0), (14, .ptr 2 0 0), (15, .ptr 3 0 0), (16, .ptr 4 0 0), (17, .val false .int), (18, .ptr 5 0 0), (19, .val false .int)], [(0, .row .u64), (1, .row .u64), (2, .row .u64), (3, .row .u64), (4, .row .u64), (5, .row .u64)], 0, true⟩
abbrev bn : Type := ((Int) × (Unit) × (Unit) × (Unit) × (Unit) × (Unit) × (Int) × (Unit) × (Int) × Unit) × ((List (UInt64)) × (List (UInt64)) × (List (UInt64)) × (List (UInt64)) × (List (UInt64)) × (List (UInt64)) × Unit)
def ma : Shape := ⟨114, [(0, .val false .int), (4, .ptr 0 0 0), (10, .ptr 1 0 0), (14, .ptr 2 0 0), (15, .ptr 3 0 0), (16, .ptr 4 0 0), (17, .val false .int), (18, .ptr 5 0 0)], [(0, .row .u64), (1, .row .u64), (2, .row .u64), (3, .row .u64), (4, .row .u64), (5, .row .u64)], 0, true⟩
abbrev dF : Type := ((Int) × (Unit) × (Unit) × (Unit) × (Unit) × (Unit) × (Int) × (Unit) × Unit) × ((List (UInt64)) × (List (UInt64)) × (List (UInt64)) × (List (UInt64)) × (List (UInt64)) × (List (UInt64)) × Unit)
def Ju : SE → Option Shape := ku [(2, ma)] none
def Zb (a0 : Int) (a17 : Int) (a19 : Int) (c0 : List (UInt64)) (c1 : List (UInt64)) (c2 : List (UInt64)) (c3 : List (UInt64)) (c4 : List (UInt64)) (c5 : List (UInt64)) : OT (Sum bn aQ) :=
  let z0 : Nat := List.length c5
  let z1 : Bool := decide (4 ≤ z0)
  let z2 : aa := { w0 := List.getD c5 0 0, w1 := List.getD c5 1 0, w2 := List.getD c5 2 0, w3 := List.getD c5 3 0 }
  let z3 : aa := aN (pS a0) z2 z2
  (.br (decide (a19 < a17))
  (gd [z1, z1, b6 ((a0, z2, z2, ()), ()), decide ((4 / 1 : Nat) + 0 ≤ z0), inR (a19 + (1 : Int))] (.ok (.inl ((a0, ((), ((), ((), ((), ((), (a17, ((), (a19 + (1 : Int), ()))))))))), (c0, (c1, (c2, (c3, (c4, (List.set (List.set (List.set (List.set c5 0 z3.w0) 1 z3.w1) 2 z3.w2) 3 z3.w3, ()))))))))))
  (.ok (.inr ⟨(.exit 2, ma), ((a0, ((), ((), ((), ((), ((), (a17, ((), ())))))))), (c0, (c1, (c2, (c3, (c4, (c5, ())))))))⟩)))
def nB (s : bn) : OT (Sum bn aQ) := Zb (s.1.1) (s.1.2.2.2.2.2.2.1) (s.1.2.2.2.2.2.2.2.2.1) (s.2.1) (s.2.2.1) (s.2.2.2.1) (s.2.2.2.2.1) (s.2.2.2.2.2.1) (s.2.2.2.2.2.2.1)
theorem Y6 (s : bn) (Q : Sum bn aQ → Prop) : wps te r9 ay 1000 (bJ (bJ (al Try.f71) 0) 2) (nz.inj s) (cW nz Ju (Q : Sum nz.T aQ → Prop)) = (nB s).wpR Q := by kernel_rfl
def s9 (g2_2 : bn → dF) (s : bn) : OT aQ := (.ok ⟨(.exit 2, ma), g2_2 s⟩)
def mc : Shape := ⟨114, [(0, .val false .int), (4, .ptr 0 0 0), (14, .ptr 1 0 0)], [(0, .row .u64), (1, .row .u64)], 0, true⟩
abbrev gW : Type := ((Int) × (Unit) × (Unit) × Unit) × ((List (UInt64)) × (List (UInt64)) × Unit)
def Jv : SE → Option Shape := ku [(0, mc)] none
def zY (ok2 : bn → Bool) (g2_2 : bn → dF) (a0 : Int) (a17 : Int) (c0 : List (UInt64)) (c1 : List (UInt64)) (c2 : List (UInt64)) (c3 : List (UInt64)) (c4 : List (UInt64)) : OT (Sum bX aQ) :=
  let z0 : (Int × PUnit × PUnit × PUnit × PUnit × PUnit × Int × PUnit × Int × PUnit) × List UInt64 × List UInt64 × List UInt64 × List UInt64 × List UInt64 × List UInt64 × PUnit := ((a0, (), (), (), (), (), a17, (), (1 : Int), ()), c0, c1, c2, c3, c4, [List.getD c3 0 0, List.getD c3 1 0, List.getD c3 2 0, List.getD c3 3 0], ())
  let z1 : (Int × PUnit × PUnit × PUnit × PUnit × PUnit × Int × PUnit × PUnit) × List UInt64 × List UInt64 × List UInt64 × List UInt64 × List UInt64 × List UInt64 × PUnit := g2_2 z0
  let z2 := z1.snd
  let z3 := z2.snd
  let z4 := z3.snd
  let z5 := z4.snd
  let z6 := z5.snd
  let z7 := z6.snd.fst
  let z8 := z3.fst
  let z9 := z4.fst
  let z10 : Nat := List.length z9
  let z11 := z6.fst
  let z12 : Nat := List.length z11
  let z13 : Bool := decide (4 ≤ z12)
  let z14 := z1.fst
  let z15 := z14.fst
  let z16 : aa := { w0 := List.getD z9 0 0, w1 := List.getD z9 1 0, w2 := List.getD z9 2 0, w3 := List.getD z9 3 0 }
  let z17 : aa := { w0 := List.getD z11 0 0, w1 := List.getD z11 1 0, w2 := List.getD z11 2 0, w3 := List.getD z11 3 0 }
  let z18 : aa × PUnit := (z17, ())
  let z19 := z5.fst
  let z20 : Nat := List.length z19
  let z21 : Bool := b6 ((z15, z17, z18), ())
  let z22 : aa := { w0 := List.getD z19 0 0, w1 := List.getD z19 1 0, w2 := List.getD z19 2 0, w3 := List.getD z19 3 0 }
  let z23 : Nat := pS z15
  let z24 : aa := aN z23 z17 z17
  let z25 : Bool := decide ((4 / 1 : Nat) + 0 ≤ z12)
  let z26 : Bool := inR (z14.snd.snd.snd.snd.snd.snd.fst - (1 : Int))
  let z27 := z2.fst
  let z28 : aa := aN z23 z16 z17
  let z29 : aa := aN z23 z22 z24
  let z30 : List UInt64 := List.set (List.set (List.set (List.set z11 0 z24.w0) 1 z24.w1) 2 z24.w2) 3 z24.w3
  (.br (decide ((1 : Int) ≤ a17))
  (gd [decide (4 ≤ List.length c3), ok2 z0, decide (4 ≤ List.length z7), decide (4 ≤ List.length z8)] (.br (!(List.getD z7 0 0 == List.getD z8 0 0 && (List.getD z7 1 0 == List.getD z8 1 0 && (List.getD z7 2 0 == List.getD z8 2 0 && (List.getD z7 3 0 == List.getD z8 3 0 && true)))))
    (gd [decide (4 ≤ z10), z13, b6 ((z15, z16, z18), ()), decide ((4 / 1 : Nat) + 0 ≤ z10), decide (4 ≤ z20), z13, z13, z21, b6 ((z15, z22, z24, ()), ()), decide ((4 / 1 : Nat) + 0 ≤ z20), z13, z13, z21, z25, z26] (.ok (.inl ((z15, ((), ((), ((), ((), ((), (z14.snd.snd.snd.snd.snd.snd.fst - (1 : Int), ()))))))), (z27, (z8, (List.set (List.set (List.set (List.set z9 0 z28.w0) 1 z28.w1) 2 z28.w2) 3 z28.w3, (List.set (List.set (List.set (List.set z19 0 z29.w0) 1 z29.w1) 2 z29.w2) 3 z29.w3, (z30, ())))))))))
    (gd [z13, z13, z21, z25, z26] (.ok (.inl ((z15, ((), ((), ((), ((), ((), (z14.snd.snd.snd.snd.snd.snd.fst - (1 : Int), ()))))))), (z27, (z8, (z9, (z19, (z30, ())))))))))))
  (.ok (.inr ⟨(.exit 0, mc), ((a0, ((), ((), ()))), (c0, (c2, ())))⟩)))
def kO (ok2 : bn → Bool) (g2_2 : bn → dF) (s : bX) : OT (Sum bX aQ) := zY ok2 g2_2 (s.1.1) (s.1.2.2.2.2.2.2.1) (s.2.1) (s.2.2.1) (s.2.2.2.1) (s.2.2.2.2.1) (s.2.2.2.2.2.1)
theorem Y7 (ok2 : bn → Bool) (g2_2 : bn → dF) (s : bX) (Q : Sum bX aQ → Prop) : wps te r9 (bx 2 (dw nz 2 ok2 (s9 g2_2)) ay) 1000 (bJ (al Try.f71) 0) (nA.inj s) (cW nA Jv (Q : Sum nA.T aQ → Prop)) = (kO ok2 g2_2 s).wpR Q := by kernel_rfl
def ta (g0_0 : bX → gW) (s : bX) : OT aQ := (.ok ⟨(.exit 0, mc), g0_0 s⟩)
def eB : az := ⟨[.val true .elem, .val false .int], [], false⟩
def Ef : SV → Option az := fun _ => some eB
def Gl (ok2 : bn → Bool) (g2_2 : bn → dF) (ok0 : bX → Bool) (g0_0 : bX → gW) (a0 : Int) (a1 : aa) : OT fg.Y :=
  let z0 : Int × PUnit := (a0, ())
  let z1 : Nat := pS a0
  let z2 : aa := ofP z1 a1
  let z3 : aa := { w0 := 0, w1 := 0, w2 := 0, w3 := 0 }
  let z4 : aa × Int × UInt64 × UInt64 × aa := bM (Int.toNat a0)
  let z5 : aa := { w0 := 1, w1 := 0, w2 := 0, w3 := 0 }
  let z6 : aa := (kx z4.fst z5).fst
  let z7 : aa := eZ z6
  let z8 : aa := u6 z1 z2 z7
  let z9 := z4.snd.fst
  let z10 : aa := eI z6 (Int.toNat z9)
  let z11 : aa := eZ (sF z10 z5).fst
  let z12 : aa × PUnit := (z10, ())
  let z13 : aa := { w0 := 5, w1 := 0, w2 := 0, w3 := 0 }
  let z14 : aa := u6 z1 z2 z11
  let z15 : aa := u6 z1 z2 z10
  let z16 : aa := u6 z1 z13 z10
  let z17 : (Int × PUnit × PUnit × PUnit × PUnit × PUnit × Int × PUnit) × List UInt64 × List UInt64 × List UInt64 × List UInt64 × List UInt64 × PUnit := ((a0, (), (), (), (), (), z9 - (1 : Int), ()), [(0 : UInt64), (0 : UInt64), (0 : UInt64), (0 : UInt64)], [(1 : UInt64), (0 : UInt64), (0 : UInt64), (0 : UInt64)], [z14.w0, z14.w1, z14.w2, z14.w3], [z15.w0, z15.w1, z15.w2, z15.w3], [z16.w0, z16.w1, z16.w2, z16.w3], ())
  let z18 : (Int × PUnit × PUnit × PUnit) × List UInt64 × List UInt64 × PUnit := g0_0 z17
  let z19 := z18.snd
  let z20 := z19.snd.fst
  let z21 : Nat := List.length z20
  let z22 : UInt64 := List.getD z20 0 0
  let z23 : Bool := decide (4 ≤ z21)
  let z24 := z18.fst.fst
  let z25 : aa := { w0 := z22, w1 := List.getD z20 1 0, w2 := List.getD z20 2 0, w3 := List.getD z20 3 0 }
  let z26 : aa := AC (pS z24) z25
  let z27 : List UInt64 := List.set (List.set (List.set (List.set z20 0 z26.w0) 1 z26.w1) 2 z26.w2) 3 z26.w3
  let z28 := z19.fst
  let z29 : Nat := List.length z28
  let z30 : List UInt64 := lay z28 z27 4 (0 : UInt64)
  let z31 : List UInt64 := lay z28 z20 4 (0 : UInt64)
  (gd [vA (z0, ()), gY ((a0, a1, ()), ())] (.br (z2.w0 == (0 : UInt64) && (z2.w1 == (0 : UInt64) && (z2.w2 == (0 : UInt64) && (z2.w3 == (0 : UInt64) && true))))
  (.ok ⟨eB, ((z3, ((0 : Int), ())), ())⟩)
  (gd [jn ((a0, z2, z7, ()), ())] (.br (!(z8.w0 == (1 : UInt64) && (z8.w1 == (0 : UInt64) && (z8.w2 == (0 : UInt64) && (z8.w3 == (0 : UInt64) && true)))))
    (.ok ⟨eB, ((z3, ((22 : Int), ())), ())⟩)
    (gd [vM (z0, ()), nG ((z6, z9, ()), ()), jn ((a0, z2, z11, ()), ()), jn ((a0, z2, z12), ()), jn ((a0, z13, z12), ()), inR (z9 - (1 : Int)), ok0 z17, decide (0 < z21)] (.br (z22 % (2 : UInt64) == (1 : UInt64))
      (gd [z23, nE ((z24, z25, ()), ()), decide ((4 / 1 : Nat) + 0 ≤ z21), decide (4 ≤ List.length z27), decide ((4 / 1 : Nat) + 0 ≤ z29), decide (4 ≤ List.length z30)] (.ok ⟨eB, (({ w0 := List.getD z30 0 0, w1 := List.getD z30 1 0, w2 := List.getD z30 2 0, w3 := List.getD z30 3 0 }, ((0 : Int), ())), ())⟩))
      (gd [z23, decide ((4 / 1 : Nat) + 0 ≤ z29), decide (4 ≤ List.length z31)] (.ok ⟨eB, (({ w0 := List.getD z31 0 0, w1 := List.getD z31 1 0, w2 := List.getD z31 2 0, w3 := List.getD z31 3 0 }, ((0 : Int), ())), ())⟩))))))))
theorem adU (ok2 : bn → Bool) (g2_2 : bn → dF) (ok0 : bX → Bool) (g0_0 : bX → gW) (x : vv) (Q : fg.Y → Prop) : wpf te r9 (bx 0 (dw nA 0 ok0 (ta g0_0)) ay) 1000 Try.f71 (fg.inp.inj x).tm (fg.inp.inj x).hp (fnK fg Ef Q) (fun _ _ => False) = (Gl ok2 g2_2 ok0 g0_0 (x.1.1) (x.1.2.1)).wpR Q := by kernel_rfl
theorem Nn (ok2 : bn → Bool) (g2_2 : bn → dF) (ok0 : bX → Bool) (g0_0 : bX → gW) (h2 : ∀ s : bn, ok2 s = true → ∃ m e, aq (nB) m s = some e ∧ (s9 g2_2 s).run = some e) (h0 : ∀ s : bX, ok0 s = true → ∃ m e, aq (kO ok2 g2_2) m s = some e ∧ (ta g0_0 s).run = some e) (pre : vv → Bool) (F : vv → OT fg.Y) (hF : ∀ (x : vv) oy, pre x = true → (F x).run = some oy → (Gl ok2 g2_2 ok0 g0_0 (x.1.1) (x.1.2.1)).run = some oy) : ab Try.prog 71 (fg.aK pre F) :=
  aE au lM rZ (f := 71) (fn := Try.f71) (c := al Try.f71) (by kernel_rfl) (by kernel_rfl) (by kernel_rfl) (S := fg) (k := 0) (by kernel_rfl) (fun R hR => (aI (c := (al Try.f71)) (by kernel_rfl) (id := 0) (by kernel_rfl) (bA au lM rZ (sh := nA) hR (xs := Jv) (aH (by kernel_rfl) (by kernel_rfl) hR) aX (aI (c := (bJ (al Try.f71) 0)) (by kernel_rfl) (id := 2) (by kernel_rfl) (bA au lM rZ (sh := nz) hR (xs := Ju) (aH (by kernel_rfl) (by kernel_rfl) hR) aX af (n := 1000) (T := nB) (fun s Q => Y6 s Q) (ok := ok2) (f := s9 g2_2) h2) af) (n := 1000) (T := kO ok2 g2_2) (fun s Q => Y7 ok2 g2_2 s Q) (ok := ok0) (f := ta g0_0) h0) af)) (n := 1000) (sel := Ef) (fun v o h => by cases h; rfl) (pre := pre) (F := F) (T := fun x => Gl ok2 g2_2 ok0 g0_0 (x.1.1) (x.1.2.1)) (fun x Q => adU ok2 g2_2 ok0 g0_0 x Q) hF
def rn : aa := ⟨1, 0, 0, 0⟩
def sqN (p : Nat) (b : aa) (n : Nat) : aa := upto (fun _ e => aN p e e) b n
def fx (s : bn) : Bool := aj s.1.1 && decide (s.1.2.2.2.2.2.2.2.2.1 = 1 ∧ s.1.2.2.2.2.2.2.1 ≤ 1000 ∧ s.2.2.2.2.2.2.1.length = 4)
def jh (s : bn) : dF := ((s.1.1, (), (), (), (), (), s.1.2.2.2.2.2.2.1, (), ()), (s.2.1, s.2.2.1, s.2.2.2.1, s.2.2.2.2.1, s.2.2.2.2.2.1, lst (sqN (pS s.1.1) (elemOf s.2.2.2.2.2.2.1) (s.1.2.2.2.2.2.2.1 - 1).toNat), ()))
theorem Y9 : ∀ s : bn, fx s = true → ∃ m e, aq nB m s = some e ∧ (s9 jh s).run = some e := by
  rintro ⟨⟨s, ⟨⟩, ⟨⟩, ⟨⟩, ⟨⟩, ⟨⟩, i, ⟨⟩, j, ⟨⟩⟩, ⟨c0, c1, c2, c3, c4, c5, ⟨⟩⟩⟩ h
  simp only [fx, Bool.and_eq_true, decide_eq_true_eq] at h
  obtain ⟨hs, rfl, hi, hl⟩ := h
  obtain ⟨t, rfl⟩ : ∃ a, c5 = lst a := ⟨elemOf c5, (aZ hl).symm⟩
  have := (bI (T := nB) (fun k t => (((s, (), (), (), (), (), i, (), 1 + (k : Int), ()), (c0, c1, c2, c3, c4, lst t, ())) : bn)) (fun _ e => aN (pS s) e e)
    (fun t => (⟨(.exit 2, ma), ((s, (), (), (), (), (), i, (), ()), (c0, c1, c2, c3, c4, lst t, ()))⟩ : aQ)) (i - 1).toNat t (fun _ _ => True) trivial (fun k t hk _ => ⟨?_, trivial⟩) (fun t _ => ?_)).1
  · obtain ⟨m, hm⟩ := this
    exact ⟨m, _, hm, rfl⟩
  · have e2 : (1 : Int) + (k : Int) + 1 = 1 + ((k + 1 : Nat) : Int) := by omega
    rw [← e2]
    refine (OT.ao (decide_eq_true (by dsimp only; omega))).trans ((ai ?_).trans rfl)
    simp only [List.all_cons, List.all_nil, Bool.and_true, Bool.and_eq_true]
    exact ⟨rfl, rfl, hs, rfl, bC (by omega)⟩
  · exact OT.ax (decide_eq_false (by dsimp only; omega))
abbrev Ton : Type := aa × aa × aa
def F2 (p m : Nat) (k : Nat) (w : Ton) : Ton := cond (eqE (sqN p w.2.1 (m - k - 1)) rn) (w.1, w.2.1, aN p w.2.2 w.2.2) (aN p w.1 w.2.2, aN p w.2.1 (aN p w.2.2 w.2.2), aN p w.2.2 w.2.2)
def IR (s : Int) (c0 : List UInt64) (i : Int) (w : Ton) : bX := ((s, (), (), (), (), (), i, ()), (c0, lst rn, lst w.1, lst w.2.1, lst w.2.2, ()))
theorem acX {s : Int} (hs : aj s = true) (c0 : List UInt64) {m k : Nat} (hm : m ≤ 1000) (hk : k < m) (w : Ton) :
    (kO fx jh (IR s c0 ((m : Int) - (k : Int)) w)).run = some (.inl (IR s c0 ((m : Int) - ((k + 1 : Nat) : Int)) (F2 (pS s) m k w))) := by
  obtain ⟨x, b, z⟩ := w
  have e2 : (m : Int) - ((k + 1 : Nat) : Int) = (m : Int) - (k : Int) - 1 := by omega
  have hi : inR ((m : Int) - (k : Int) - 1) = true := bC (by omega)
  have hk2 : ((m : Int) - (k : Int) - 1).toNat = m - k - 1 := by omega
  have hg : jh ((s, (), (), (), (), (), (m : Int) - (k : Int), (), 1, ()), (c0, lst rn, lst x, lst b, lst z, lst b, ())) = ((s, (), (), (), (), (), (m : Int) - (k : Int), (), ()), (c0, lst rn, lst x, lst b, lst z, lst (sqN (pS s) b (m - k - 1)), ())) := by
    show ((s, (), (), (), (), (), (m : Int) - (k : Int), (), ()), (c0, lst rn, lst x, lst b, lst z, lst (sqN (pS s) b ((m : Int) - (k : Int) - 1).toNat), ())) = _
    rw [hk2]
  have hok : fx ((s, (), (), (), (), (), (m : Int) - (k : Int), (), 1, ()), (c0, lst rn, lst x, lst b, lst z, lst b, ())) = true :=
    (Bool.and_eq_true _ _).mpr ⟨hs, decide_eq_true (p := (1 : Int) = 1 ∧ (m : Int) - (k : Int) ≤ 1000 ∧ (lst b).length = 4) ⟨rfl, by omega, rfl⟩⟩
  have hb : [List.getD (lst b) 0 0, List.getD (lst b) 1 0, List.getD (lst b) 2 0, List.getD (lst b) 3 0] = lst b := rfl
  have hpre : ∀ x y, b6 ((s, x, y, ()), ()) = true := fun _ _ => hs
  show (zY fx jh s ((m : Int) - (k : Int)) c0 (lst rn) (lst x) (lst b) (lst z)).run = _
  unfold zY
  simp only [hb, hg, hok]
  refine (OT.ao (decide_eq_true (by omega))).trans ((ai rfl).trans ?_)
  unfold F2
  dsimp only
  rw [e2]
  generalize sqN (pS s) b (m - k - 1) = t
  rcases (Bool.eq_false_or_eq_true (eqE t rn)).symm with h | h
  · refine (OT.ao (b := !eqE t rn) (by rw [h]; rfl)).trans ((ai ?_).trans ?_)
    · simp only [ajZ, aj6, cJ, hpre, hi, List.all_cons, List.all_nil, Bool.and_true, Bool.and_eq_true]
      exact ⟨rfl, rfl, trivial, rfl, rfl, rfl, rfl, trivial, trivial, rfl, rfl, rfl, trivial, rfl⟩
    · rw [h]
      simp only [ajZ, aj6]
      rfl
  · refine (OT.ax (b := !eqE t rn) (by rw [h]; rfl)).trans ((ai ?_).trans ?_)
    · simp only [ajZ, aj6, cJ, hpre, hi, List.all_cons, List.all_nil, Bool.and_true, Bool.and_eq_true]
      exact ⟨rfl, rfl, trivial, rfl⟩
    · rw [h]
      simp only [ajZ, aj6]
      rfl
def alS (p m : Nat) (w : Ton) : Ton := upto (F2 p m) w m
def vu (s : bX) : Bool := aj s.1.1 && decide (0 ≤ s.1.2.2.2.2.2.2.1 ∧ s.1.2.2.2.2.2.2.1 ≤ 1000 ∧ s.2.2.1 = [1, 0, 0, 0] ∧ s.2.2.2.1.length = 4 ∧ s.2.2.2.2.1.length = 4 ∧ s.2.2.2.2.2.1.length = 4)
def zX (s : bX) : gW := ((s.1.1, (), (), ()), (s.2.1, lst (alS (pS s.1.1) s.1.2.2.2.2.2.2.1.toNat (elemOf s.2.2.2.1, elemOf s.2.2.2.2.1, elemOf s.2.2.2.2.2.1)).1, ()))
theorem Za : ∀ s : bX, vu s = true → ∃ m e, aq (kO fx jh) m s = some e ∧ (ta zX s).run = some e := by
  rintro ⟨⟨s, ⟨⟩, ⟨⟩, ⟨⟩, ⟨⟩, ⟨⟩, i, ⟨⟩⟩, ⟨c0, c1, c2, c3, c4, ⟨⟩⟩⟩ h
  simp only [vu, Bool.and_eq_true, decide_eq_true_eq] at h
  obtain ⟨hs, h0, h1, rfl, h2, h3, h4⟩ := h
  obtain ⟨x, rfl⟩ : ∃ a, c2 = lst a := ⟨elemOf c2, (aZ h2).symm⟩
  obtain ⟨b, rfl⟩ : ∃ a, c3 = lst a := ⟨elemOf c3, (aZ h3).symm⟩
  obtain ⟨z, rfl⟩ : ∃ a, c4 = lst a := ⟨elemOf c4, (aZ h4).symm⟩
  obtain ⟨m, rfl⟩ : ∃ m : Nat, i = (m : Int) := ⟨i.toNat, by omega⟩
  have := (bI (T := kO fx jh) (fun k w => IR s c0 ((m : Int) - (k : Int)) w) (F2 (pS s) m)
    (fun w => (⟨(.exit 0, mc), ((s, (), (), ()), (c0, lst w.1, ()))⟩ : aQ)) m (x, b, z) (fun _ _ => True) trivial (fun k w hk _ => ⟨acX hs c0 (by omega) hk w, trivial⟩) (fun w _ => ?_)).1
  · obtain ⟨n, hn⟩ := this
    refine ⟨n, _, ?_, rfl⟩
    have e : IR s c0 ((m : Int) - ((0 : Nat) : Int)) (x, b, z) = ((s, (), (), (), (), (), (m : Int), ()), (c0, [1, 0, 0, 0], lst x, lst b, lst z, ())) := by
      rw [show (m : Int) - ((0 : Nat) : Int) = (m : Int) by omega]
      rfl
    rw [e] at hn
    exact hn
  · exact OT.ax (decide_eq_false (by dsimp only [IR]; omega))
def TY (s : Int) (a : aa) : aa := (alS (pS s) ((bM s.toNat).2.1 - 1).toNat
  (u6 (pS s) a (eZ (sF (eI (kx (bM s.toNat).1 rn).1 (bM s.toNat).2.1.toNat) rn).1), u6 (pS s) a (eI (kx (bM s.toNat).1 rn).1 (bM s.toNat).2.1.toNat), u6 (pS s) ⟨5, 0, 0, 0⟩ (eI (kx (bM s.toNat).1 rn).1 (bM s.toNat).2.1.toNat))).1
def Le (p : Nat) (x : aa) : aa := cond (x.w0 % 2 == 1) (AC p x) x
def vt (x : vv) : Bool := aj x.1.1
def Rq (x : vv) : OT fg.Y := .br (cj (ofP (pS x.1.1) x.1.2.1)) (.ok ⟨eB, ((⟨0, 0, 0, 0⟩, ((0 : Int), ())), ())⟩)
  (.br (eqE (u6 (pS x.1.1) (ofP (pS x.1.1) x.1.2.1) (eZ (kx (bM x.1.1.toNat).1 rn).1)) rn) (.ok ⟨eB, ((Le (pS x.1.1) (TY x.1.1 (ofP (pS x.1.1) x.1.2.1)), ((0 : Int), ())), ())⟩) (.ok ⟨eB, ((⟨0, 0, 0, 0⟩, ((22 : Int), ())), ())⟩))
theorem alL {s : Int} (hs : aj s = true) : 1 ≤ (bM s.toNat).2.1 ∧ (bM s.toNat).2.1 ≤ 32 := by
  rcases cl hs with rfl | rfl | rfl | rfl <;> decide
theorem Y8 : ab Try.prog 71 (fg.aK vt Rq) := Nn fx jh vu zX Y9 Za _ _ fun x oy hp ho => by
  rw [← ho]
  clear ho
  obtain ⟨⟨s, a, ⟨⟩⟩, ⟨⟩⟩ := x
  have hs : aj s = true := hp
  have had := alL hs
  show _ = (OT.br (cj (ofP (pS s) a)) (.ok ⟨eB, ((⟨0, 0, 0, 0⟩, ((0 : Int), ())), ())⟩) (.br (eqE (u6 (pS s) (ofP (pS s) a) (eZ (kx (bM s.toNat).1 rn).1)) rn) (.ok ⟨eB, ((Le (pS s) (TY s (ofP (pS s) a)), ((0 : Int), ())), ())⟩) (.ok ⟨eB, ((⟨0, 0, 0, 0⟩, ((22 : Int), ())), ())⟩)) : OT fg.Y).run
  refine (ai ?_).trans ?_
  · simp only [List.all_cons, List.all_nil, Bool.and_true, Bool.and_eq_true]
    exact ⟨hs, hs⟩
  generalize hA : ofP (pS s) a = A
  rcases (Bool.eq_false_or_eq_true (cj A)).symm with hz | hz
  · refine Eq.trans ?_ (OT.ax (b := cj A) hz).symm
    refine (OT.ax hz).trans ((ai ?_).trans ?_)
    · simp only [List.all_cons, List.all_nil, Bool.and_true]
      exact hs
    · rcases (Bool.eq_false_or_eq_true (eqE (u6 (pS s) A (eZ (kx (bM s.toNat).1 rn).1)) rn)).symm with h1 | h1
      · refine Eq.trans ?_ (OT.ax h1).symm
        exact OT.ao (b := !eqE (u6 (pS s) A (eZ (kx (bM s.toNat).1 rn).1)) rn) (by rw [h1]; rfl)
      · refine Eq.trans ?_ (OT.ao h1).symm
        refine (OT.ax (b := !eqE (u6 (pS s) A (eZ (kx (bM s.toNat).1 rn).1)) rn) (by rw [h1]; rfl)).trans ((ai ?_).trans ?_)
        · simp only [List.all_cons, List.all_nil, Bool.and_true, Bool.and_eq_true]
          refine ⟨hs, decide_eq_true ⟨(by show 0 ≤ (bM s.toNat).2.1; omega), (by show (bM s.toNat).2.1 ≤ 1000000; omega)⟩, hs, hs, hs, bC (by omega), (Bool.and_eq_true _ _).mpr ⟨hs, ?_⟩, rfl⟩
          exact decide_eq_true ⟨(by show 0 ≤ (bM s.toNat).2.1 - 1; omega), (by show (bM s.toNat).2.1 - 1 ≤ 1000; omega), rfl, rfl, rfl, rfl⟩
        · have hg : ∀ w x b z : aa, (zX ((s, (), (), (), (), (), (bM s.toNat).2.1 - 1, ()), ([0, 0, 0, 0], [1, 0, 0, 0], [x.w0, x.w1, x.w2, x.w3], [b.w0, b.w1, b.w2, b.w3], [z.w0, z.w1, z.w2, z.w3], ()))) = ((s, (), (), ()), ([0, 0, 0, 0], lst (alS (pS s) ((bM s.toNat).2.1 - 1).toNat (x, b, z)).1, ())) := fun _ _ _ _ => rfl
          simp only [hg rn]
          have hR : (alS (pS s) ((bM s.toNat).2.1 - 1).toNat (u6 (pS s) A (eZ (sF (eI (kx (bM s.toNat).1 ⟨1, 0, 0, 0⟩).1 (bM s.toNat).2.1.toNat) ⟨1, 0, 0, 0⟩).1), u6 (pS s) A (eI (kx (bM s.toNat).1 ⟨1, 0, 0, 0⟩).1 (bM s.toNat).2.1.toNat), u6 (pS s) ⟨5, 0, 0, 0⟩ (eI (kx (bM s.toNat).1 ⟨1, 0, 0, 0⟩).1 (bM s.toNat).2.1.toNat))).1 = TY s A := rfl
          simp only [hR]
          generalize TY s A = R
          rcases (Bool.eq_false_or_eq_true (R.w0 % 2 == 1)).symm with h2 | h2
          · have e : Le (pS s) R = R := by unfold Le; rw [h2]; rfl
            rw [e]
            exact (OT.ax h2).trans ((ai rfl).trans rfl)
          · have e : Le (pS s) R = AC (pS s) R := by unfold Le; rw [h2]; rfl
            rw [e]
            refine (OT.ao h2).trans ((ai ?_).trans rfl)
            simp only [List.all_cons, List.all_nil, Bool.and_true, Bool.and_eq_true]
            exact ⟨rfl, hs, rfl, rfl, rfl, rfl⟩
  · exact (OT.ao hz).trans (OT.ao (b := cj A) hz).symm
def ra : cK := (fg.aK vt Rq)
theorem Jx : ab Try.prog 71 ra := Y8
theorem Jw : aL ra := aD
def ux : Env := aA 71 ra r9
theorem sd : aW Try.prog ux := ag Jx lM
theorem uw : av ux := ac Jw xZ
theorem Mk : bm Try.prog te ux := aP follows au sd uw
def im : ap := ⟨[.val false .int, .val false .int], [], true, 0, false⟩
abbrev Ep : Type := ((Int) × (Int) × Unit) × (Unit)
def th : az := ⟨[.val true .elem], [], false⟩
def JO : SV → Option az := fun _ => some th
def NL (a0 : Int) (a1 : Int) : OT im.Y :=
  let z0 : UInt64 := i2u a1
  let z1 : aa := { w0 := z0, w1 := 0, w2 := 0, w3 := 0 }
  let z2 : Nat := pS a0
  let z3 : aa := { w0 := 0 - z0, w1 := 0, w2 := 0, w3 := 0 }
  (.br (decide ((0 : Int) ≤ a1))
  (gd [gY ((a0, z1, ()), ())] (.ok ⟨th, ((ofP z2 z1, ()), ())⟩))
  (gd [nE ((a0, z3, ()), ())] (.ok ⟨th, ((AC z2 z3, ()), ())⟩)))
theorem ais (x : Ep) (Q : im.Y → Prop) : wpf te ux ay 1000 Try.f74 (im.inp.inj x).tm (im.inp.inj x).hp (fnK im JO Q) (fun _ _ => False) = (NL (x.1.1) (x.1.2.1)).wpR Q := by kernel_rfl
theorem Ul (pre : Ep → Bool) (F : Ep → OT im.Y) (hF : ∀ (x : Ep) oy, pre x = true → (F x).run = some oy → (NL (x.1.1) (x.1.2.1)).run = some oy) : ab Try.prog 74 (im.aK pre F) :=
  aE au sd Mk (f := 74) (fn := Try.f74) (c := al Try.f74) (by kernel_rfl) (by kernel_rfl) (by kernel_rfl) (S := im) (k := 0) (by kernel_rfl) (fun R hR => af) (n := 1000) (sel := JO) (fun v o h => by cases h; rfl) (pre := pre) (F := F) (T := fun x => NL (x.1.1) (x.1.2.1)) (fun x Q => ais x Q) hF
def ak3 (p : Nat) (n : Int) : aa := cond (decide (0 ≤ n)) (ofP p ⟨i2u n, 0, 0, 0⟩) (AC p ⟨0 - i2u n, 0, 0, 0⟩)
def Al (x : Ep) : Bool := aj x.1.1
def Zt (x : Ep) : OT im.Y := .ok ⟨th, ((ak3 (pS x.1.1) x.1.2.1, ()), ())⟩
theorem ad3 : ab Try.prog 74 (im.aK Al Zt) := Ul _ _ fun x oy hp ho => by
  rw [← ho]
  clear ho
  obtain ⟨⟨s, n, ⟨⟩⟩, ⟨⟩⟩ := x
  have hs : aj s = true := hp
  show _ = some (⟨th, ((ak3 (pS s) n, ()), ())⟩ : im.Y)
  unfold ak3
  rcases (Bool.eq_false_or_eq_true (decide ((0 : Int) ≤ n))).symm with h | h
  · rw [h]
    refine (OT.ax h).trans ((ai ?_).trans rfl)
    simp only [List.all_cons, List.all_nil, Bool.and_true]
    exact hs
  · rw [h]
    refine (OT.ao h).trans ((ai ?_).trans rfl)
    simp only [List.all_cons, List.all_nil, Bool.and_true]
    exact hs
def vF : cK := (im.aK Al Zt)
theorem NK : ab Try.prog 74 vF := ad3
theorem NJ : aL vF := aD
def xd : Env := aA 74 vF ux
theorem qj : aW Try.prog xd := ag NK sd
theorem yk : av xd := ac NJ uw
theorem CP : bm Try.prog te xd := aP follows au qj yk
def fK : ap := ⟨[.val false .int, .val false .int], [], true, 0, false⟩
abbrev vm : Type := ((Int) × (Int) × Unit) × (Unit)
def ny : Shape := ⟨38, [(0, .val false .int), (1, .val false .int), (4, .ptr 0 0 0)], [(0, .cells [.val false .u64, .val false .u64, .val false .u64, .val false .u64, .val false .u64, .val false .u64, .val false .u64, .val false .u64, .val false .bool])], 0, true⟩
abbrev bP : Type := ((Int) × (Int) × (Unit) × Unit) × (((UInt64) × (UInt64) × (UInt64) × (UInt64) × (UInt64) × (UInt64) × (UInt64) × (UInt64) × (Bool) × Unit) × Unit)
def gD : Shape := ⟨38, [(4, .ptr 0 0 0)], [(0, .cells [.val false .u64, .val false .u64, .val false .u64, .val false .u64, .val false .u64, .val false .u64, .val false .u64, .val false .u64, .val false .bool])], 0, true⟩
abbrev gV : Type := ((Unit) × Unit) × (((UInt64) × (UInt64) × (UInt64) × (UInt64) × (UInt64) × (UInt64) × (UInt64) × (UInt64) × (Bool) × Unit) × Unit)
def Jg : SE → Option Shape := ku [] (some gD)
def YS (a0 : Int) (a1 : Int) (c0_0 : UInt64) (c0_1 : UInt64) (c0_2 : UInt64) (c0_3 : UInt64) (c0_4 : UInt64) (c0_5 : UInt64) (c0_6 : UInt64) (c0_7 : UInt64) (c0_8 : Bool) : OT (Sum bP aQ) :=
  let z0 : Nat := pS a0
  let z1 : aa := ak3 z0 a1
  let z2 : aa := yR z0 z1 (bS a0)
  let z3 : aa := ofP z0 z2
  let z4 : Bool := inR (a1 + (1 : Int))
  let z5 : aa := Le z0 (TY a0 z3)
  let z6 := z5.w0
  let z7 := z5.w1
  let z8 := z5.w2
  let z9 := z5.w3
  let z10 := z1.w0
  let z11 := z1.w1
  let z12 := z1.w2
  let z13 := z1.w3
  (gd [Al ((a0, a1, ()), ()), pf ((a0, z1, ()), ()), vt ((a0, z2, ()), ())] (.br (cj z3)
  (gd [z4] (.ok (.inl ((a0, (a1 + (1 : Int), ((), ()))), ((c0_0, (c0_1, (c0_2, (c0_3, (c0_4, (c0_5, (c0_6, (c0_7, (c0_8, ()))))))))), ())))))
  (.br (eqE (u6 z0 z3 (eZ (kx (bM (Int.toNat a0)).fst rn).fst)) rn)
    (.br (!(z6 == (0 : UInt64) && (z7 == (0 : UInt64) && (z8 == (0 : UInt64) && (z9 == (0 : UInt64) && true)))))
      (.br (!(z10 == (0 : UInt64) && (z11 == (0 : UInt64) && (z12 == (0 : UInt64) && (z13 == (0 : UInt64) && true)))))
        (.ok (.inr ⟨(.ret, gD), (((), ()), ((z10, (z11, (z12, (z13, (z6, (z7, (z8, (z9, (false, ()))))))))), ()))⟩))
        (gd [z4] (.ok (.inl ((a0, (a1 + (1 : Int), ((), ()))), ((c0_0, (c0_1, (c0_2, (c0_3, (c0_4, (c0_5, (c0_6, (c0_7, (c0_8, ()))))))))), ()))))))
      (gd [z4] (.ok (.inl ((a0, (a1 + (1 : Int), ((), ()))), ((c0_0, (c0_1, (c0_2, (c0_3, (c0_4, (c0_5, (c0_6, (c0_7, (c0_8, ()))))))))), ()))))))
    (gd [z4] (.ok (.inl ((a0, (a1 + (1 : Int), ((), ()))), ((c0_0, (c0_1, (c0_2, (c0_3, (c0_4, (c0_5, (c0_6, (c0_7, (c0_8, ()))))))))), ()))))))))
def kL (s : bP) : OT (Sum bP aQ) := YS (s.1.1) (s.1.2.1) (s.2.1.1) (s.2.1.2.1) (s.2.1.2.2.1) (s.2.1.2.2.2.1) (s.2.1.2.2.2.2.1) (s.2.1.2.2.2.2.2.1) (s.2.1.2.2.2.2.2.2.1) (s.2.1.2.2.2.2.2.2.2.1) (s.2.1.2.2.2.2.2.2.2.2.1)
theorem YP (s : bP) (Q : Sum bP aQ → Prop) : wps te xd ay 1000 (bJ (al Try.f41) 0) (ny.inj s) (cW ny Jg (Q : Sum ny.T aQ → Prop)) = (kL s).wpR Q := by kernel_rfl
def sZ (g0_r : bP → gV) (s : bP) : OT aQ := (.ok ⟨(.ret, gD), g0_r s⟩)
def zT : az := ⟨[.val true (.prod .elem (.prod .elem .bool))], [], false⟩
def D8 : SV → Option az := fun _ => some zT
def Gg (ok0 : bP → Bool) (g0_r : bP → gV) (a0 : Int) (a1 : Int) : OT fK.Y :=
  let z0 : (Int × Int × PUnit × PUnit) × (UInt64 × UInt64 × UInt64 × UInt64 × UInt64 × UInt64 × UInt64 × UInt64 × Bool × PUnit) × PUnit := ((a0, a1, (), ()), ((0 : UInt64), (0 : UInt64), (0 : UInt64), (0 : UInt64), (0 : UInt64), (0 : UInt64), (0 : UInt64), (0 : UInt64), false, ()), ())
  let z1 := (g0_r z0).snd.fst
  let z2 := z1.snd
  let z3 := z2.snd
  let z4 := z3.snd
  let z5 := z4.snd
  let z6 := z5.snd
  let z7 := z6.snd
  let z8 := z7.snd
  (gd [ok0 z0] (.ok ⟨zT, ((({ w0 := z1.fst, w1 := z2.fst, w2 := z3.fst, w3 := z4.fst }, { w0 := z5.fst, w1 := z6.fst, w2 := z7.fst, w3 := z8.fst }, z8.snd.fst), ()), ())⟩))
theorem adH (ok0 : bP → Bool) (g0_r : bP → gV) (x : vm) (Q : fK.Y → Prop) : wpf te xd (bx 0 (dw ny 0 ok0 (sZ g0_r)) ay) 1000 Try.f41 (fK.inp.inj x).tm (fK.inp.inj x).hp (fnK fK D8 Q) (fun _ _ => False) = (Gg ok0 g0_r (x.1.1) (x.1.2.1)).wpR Q := by kernel_rfl
theorem M6 (ok0 : bP → Bool) (g0_r : bP → gV) (h0 : ∀ s : bP, ok0 s = true → ∃ m e, aq (kL) m s = some e ∧ (sZ g0_r s).run = some e) (pre : vm → Bool) (F : vm → OT fK.Y) (hF : ∀ (x : vm) oy, pre x = true → (F x).run = some oy → (Gg ok0 g0_r (x.1.1) (x.1.2.1)).run = some oy) : ab Try.prog 41 (fK.aK pre F) :=
  aE au qj CP (f := 41) (fn := Try.f41) (c := al Try.f41) (by kernel_rfl) (by kernel_rfl) (by kernel_rfl) (S := fK) (k := 0) (by kernel_rfl) (fun R hR => (aI (c := (al Try.f41)) (by kernel_rfl) (id := 0) (by kernel_rfl) (bA au qj CP (sh := ny) hR (xs := Jg) (aH (by kernel_rfl) (by kernel_rfl) hR) aX af (n := 1000) (T := kL) (fun s Q => YP s Q) (ok := ok0) (f := sZ g0_r) h0) af)) (n := 1000) (sel := D8) (fun v o h => by cases h; rfl) (pre := pre) (F := F) (T := fun x => Gg ok0 g0_r (x.1.1) (x.1.2.1)) (fun x Q => adH ok0 g0_r x Q) hF
def TU (s n : Int) : aa := ak3 (pS s) n
def MV (s n : Int) : aa := ofP (pS s) (yR (pS s) (TU s n) (bS s))
def Yy (s n : Int) : aa := Le (pS s) (TY s (MV s n))
def F7 (s n : Int) : Option Pt := cond (cj (MV s n)) none (cond (eqE (u6 (pS s) (MV s n) (eZ (kx (bM s.toNat).1 rn).1)) rn)
  (cond (cj (Yy s n)) none (cond (cj (TU s n)) none (some (TU s n, Yy s n, false)))) none)
def l5 (s : Int) : Nat → Int → Option Pt
  | 0, _ => none
  | k + 1, n => match F7 s n with
    | some P => some P
    | none => l5 s k (n + 1)
def MU (s n : Int) (c : C9) : bP := ((s, n, (), ()), (c, ()))
theorem Yx {s n : Int} (hs : aj s = true) (h0 : 0 ≤ n) (h1 : n ≤ 1000000) (c : C9) :
    (kL (MU s n c)).run = match F7 s n with
      | some P => some (.inr ⟨(.ret, gD), (((), ()), (aV P, ()))⟩)
      | none => some (.inl (MU s (n + 1) c)) := by
  have hi : inR (n + 1) = true := bC (by omega)
  have hgd : ∀ z : OT (Sum bP aQ), (gd [inR (n + 1)] z).run = z.run := fun z => ai (by simp only [hi, List.all_cons, List.all_nil, Bool.and_true])
  refine (ai (by simp only [List.all_cons, List.all_nil, Bool.and_true, Bool.and_eq_true]; exact ⟨hs, hs, hs⟩)).trans ?_
  unfold F7
  rcases (Bool.eq_false_or_eq_true (cj (MV s n))).symm with h1 | h1
  · refine (OT.ax (b := cj (MV s n)) h1).trans ?_
    rcases (Bool.eq_false_or_eq_true (eqE (u6 (pS s) (MV s n) (eZ (kx (bM s.toNat).1 rn).1)) rn)).symm with h2 | h2
    · rw [h1, h2]
      exact (OT.ax h2).trans (hgd _)
    · refine (OT.ao h2).trans ?_
      rcases (Bool.eq_false_or_eq_true (cj (Yy s n))).symm with h3 | h3
      · refine (OT.ao (b := !cj (Yy s n)) (by rw [h3]; rfl)).trans ?_
        rcases (Bool.eq_false_or_eq_true (cj (TU s n))).symm with h4 | h4
        · rw [h1, h2, h3, h4]
          exact OT.ao (b := !cj (TU s n)) (by rw [h4]; rfl)
        · rw [h1, h2, h3, h4]
          exact (OT.ax (b := !cj (TU s n)) (by rw [h4]; rfl)).trans (hgd _)
      · rw [h1, h2, h3]
        exact (OT.ax (b := !cj (Yy s n)) (by rw [h3]; rfl)).trans (hgd _)
  · rw [h1]
    exact (OT.ao (b := cj (MV s n)) h1).trans (hgd _)
theorem IZ {s : Int} (hs : aj s = true) (c : C9) {P : Pt} : ∀ (k : Nat) (n : Int), 0 ≤ n → n + k ≤ 1000000 → l5 s k n = some P →
    ∃ m, aq kL m (MU s n c) = some ⟨(.ret, gD), (((), ()), (aV P, ()))⟩
  | 0, _, _, _, h => by cases h
  | k + 1, n, h0, h1, h => by
    have hst := Yx hs h0 (by omega) c
    unfold l5 at h
    cases ho : F7 s n with
    | some Q =>
      rw [ho] at h hst
      obtain rfl := Option.some.inj h
      exact ⟨1, aT hst⟩
    | none =>
      rw [ho] at h hst
      obtain ⟨m, hm⟩ := IZ hs c k (n + 1) (by omega) (by omega) h
      exact ⟨m + 1, aO hst hm⟩
def sQ : Nat := 2000
def vl (s : bP) : Bool := aj s.1.1 && decide (0 ≤ s.1.2.1 ∧ s.1.2.1 ≤ 2000) && (l5 s.1.1 sQ s.1.2.1).isSome
def afJ (s n : Int) : Pt := (l5 s sQ n).getD aB
def Jj (s : bP) : gV := (((), ()), (aV (afJ s.1.1 s.1.2.1), ()))
theorem YR : ∀ s : bP, vl s = true → ∃ m e, aq kL m s = some e ∧ (sZ Jj s).run = some e := by
  rintro ⟨⟨s, n, ⟨⟩, ⟨⟩⟩, ⟨c, ⟨⟩⟩⟩ h
  simp only [vl, Bool.and_eq_true, decide_eq_true_eq] at h
  obtain ⟨⟨hs, h0, h1⟩, h2⟩ := h
  obtain ⟨P, hP⟩ := Option.isSome_iff_exists.1 h2
  obtain ⟨m, hm⟩ := IZ hs c sQ n h0 (by show n + ((2000 : Nat) : Int) ≤ _; omega) hP
  refine ⟨m, _, hm, ?_⟩
  show some (⟨(.ret, gD), (((), ()), (aV ((l5 s sQ n).getD aB), ()))⟩ : aQ) = _
  rw [hP]
  rfl
def D9 (x : vm) : Bool := aj x.1.1 && decide (0 ≤ x.1.2.1 ∧ x.1.2.1 ≤ 2000) && (l5 x.1.1 sQ x.1.2.1).isSome
def Ri (x : vm) : OT fK.Y := .ok ⟨zT, ((afJ x.1.1 x.1.2.1, ()), ())⟩
theorem YQ : ab Try.prog 41 (fK.aK D9 Ri) := M6 vl Jj YR _ _ fun x oy hp ho => by
  rw [← ho]
  clear ho
  obtain ⟨⟨s, n, ⟨⟩⟩, ⟨⟩⟩ := x
  refine (ai ?_).trans rfl
  simp only [List.all_cons, List.all_nil, Bool.and_true]
  exact hp
def qZ : cK := (fK.aK D9 Ri)
theorem Ji : ab Try.prog 41 qZ := YQ
theorem Jh : aL qZ := aD
def ur : Env := aA 41 qZ xd
theorem rY : aW Try.prog ur := ag Ji qj
theorem uq : av ur := ac Jh yk
theorem Mh : bm Try.prog te ur := aP follows au rY uq
end Go.Proofs.Ytkedomfjjahjnaa

namespace Go.Proofs.Ytkedomfjjahjnaa
theorem Ax {α : Type} [BEq α] [LawfulBEq α] : ∀ {l1 l2 : List α}, l1.Nodup → (∀ x ∈ l1, x ∈ l2) → l2.length ≤ l1.length → l1.Perm l2
  | [], l2, _, _, h => by
    have : l2 = [] := List.length_eq_zero_iff.1 (Nat.le_zero.1 h)
    rw [this]
  | a :: t, l2, hn, hs, hl => by
    have ha : a ∈ l2 := hs a (List.mem_cons_self ..)
    have hp : l2.Perm (a :: l2.erase a) := List.perm_cons_erase ha
    rw [List.nodup_cons] at hn
    have hl2 := List.length_erase_of_mem ha
    have hpos : 0 < l2.length := List.length_pos_of_mem ha
    have ih : t.Perm (l2.erase a) := Ax hn.2 (fun x hx => by
      have hne : x ≠ a := fun e => hn.1 (e ▸ hx)
      exact (List.mem_erase_of_ne hne).2 (hs x (List.mem_cons_of_mem _ hx))) (by rw [List.length_cons] at hl; omega)
    exact (ih.cons a).trans hp.symm
theorem tK {α : Type} [BEq α] [LawfulBEq α] : ∀ {l1 l2 : List α}, l1.Nodup → (∀ x ∈ l1, x ∈ l2) → l1.length ≤ l2.length
  | [], l2, _, _ => Nat.zero_le _
  | a :: t, l2, hn, hs => by
    have ha : a ∈ l2 := hs a (List.mem_cons_self ..)
    rw [List.nodup_cons] at hn
    have hl2 := List.length_erase_of_mem ha
    have hpos : 0 < l2.length := List.length_pos_of_mem ha
    have ih := tK (l2 := l2.erase a) hn.2 (fun x hx => by
      have hne : x ≠ a := fun e => hn.1 (e ▸ hx)
      exact (List.mem_erase_of_ne hne).2 (hs x (List.mem_cons_of_mem _ hx)))
    rw [List.length_cons]
    omega
def Pr (p : Nat) : Prop := 2 ≤ p ∧ ∀ d, d ∣ p → d = 1 ∨ d = p
theorem Pr.pos {p : Nat} (h : Pr p) : 0 < p := by have := h.1; omega
theorem Pr.cop {p a : Nat} (h : Pr p) (ha : ¬ p ∣ a) : Nat.Coprime p a := by
  rcases h.2 (Nat.gcd p a) (Nat.gcd_dvd_left ..) with e | e
  · exact e
  · exact absurd (e ▸ Nat.gcd_dvd_right p a) ha
theorem Pr.SY {p a b : Nat} (h : Pr p) (hd : p ∣ a * b) : p ∣ a ∨ p ∣ b := by
  by_cases ha : p ∣ a
  · exact .inl ha
  · exact .inr ((h.cop ha).dvd_of_dvd_mul_left hd)
def qu : List Nat → Nat
  | [] => 1
  | a :: l => a * qu l
theorem Uy {l1 l2 : List Nat} (h : l1.Perm l2) : qu l1 = qu l2 := by
  induction h with
  | nil => rfl
  | cons x _ ih => simp only [qu, ih]
  | swap x y l => simp only [qu]; rw [← Nat.mul_assoc, ← Nat.mul_assoc, Nat.mul_comm x y]
  | trans _ _ a b => exact a.trans b
theorem J4 (p a : Nat) : ∀ l : List Nat, qu (l.map fun x => a * x % p) % p = a ^ l.length * qu l % p
  | [] => by simp [qu]
  | x :: l => by
    have ih := J4 p a l
    simp only [List.map_cons, qu, List.length_cons]
    rw [Nat.mul_mod, Nat.mod_mod, ih, ← Nat.mul_mod, Nat.pow_succ]
    congr 1
    rw [Nat.mul_assoc, Nat.mul_assoc, Nat.mul_left_comm x]
    rw [Nat.mul_left_comm a]
theorem J3 {p : Nat} (h : Pr p) : ∀ l : List Nat, (∀ x ∈ l, ¬ p ∣ x) → ¬ p ∣ qu l
  | [], _, hd => by
    have := Nat.le_of_dvd (by decide) hd
    have := h.1
    simp only [qu] at *
    omega
  | x :: l, hx, hd => by
    rcases h.SY hd with h1 | h1
    · exact hx x (List.mem_cons_self ..) h1
    · exact J3 h l (fun y hy => hx y (List.mem_cons_of_mem _ hy)) h1
theorem UQ {p a b : Nat} (hab : a ≤ b) (h : a % p = b % p) : p ∣ b - a := by
  have h1 := Nat.div_add_mod a p
  have h2 := Nat.div_add_mod b p
  refine ⟨b / p - a / p, ?_⟩
  rw [Nat.mul_sub]
  omega
theorem mo {p x : Nat} (h0 : 0 < x) (h1 : x < p) : ¬ p ∣ x := fun h => by
  have := Nat.le_of_dvd h0 h
  omega
theorem aaJ {p a : Nat} (h : Pr p) (ha : ¬ p ∣ a) {x y : Nat} (hx : x < p) (hy : y < p) (e : a * x % p = a * y % p) : x = y := by
  have aux : ∀ {x y : Nat}, x < p → y < p → x ≤ y → a * x % p = a * y % p → x = y := fun {x y} hx hy hxy e => by
    have hd := UQ (Nat.mul_le_mul_left a hxy) e
    rw [← Nat.mul_sub] at hd
    rcases h.SY hd with h1 | h1
    · exact absurd h1 ha
    · by_cases h0 : y - x = 0
      · omega
      · exact absurd h1 (mo (by omega) (by omega))
  rcases Nat.le_total x y with hxy | hxy
  · exact aux hx hy hxy e
  · exact (aux hy hx hxy e.symm).symm
theorem nU {α β : Type} {f : α → β} : ∀ {l : List α}, l.Nodup → (∀ x ∈ l, ∀ y ∈ l, f x = f y → x = y) → (l.map f).Nodup
  | [], _, _ => List.nodup_nil
  | a :: l, hn, hi => by
    rw [List.nodup_cons] at hn
    rw [List.map_cons, List.nodup_cons]
    refine ⟨fun hm => ?_, nU hn.2 fun x hx y hy => hi x (List.mem_cons_of_mem _ hx) y (List.mem_cons_of_mem _ hy)⟩
    obtain ⟨b, hb, e⟩ := List.mem_map.1 hm
    have := hi a (List.mem_cons_self ..) b (List.mem_cons_of_mem _ hb) e.symm
    exact hn.1 (this ▸ hb)
theorem SO {p a : Nat} (h : Pr p) (ha : ¬ p ∣ a) : a ^ (p - 1) % p = 1 := by
  have hp := h.1
  have hn : (List.range' 1 (p - 1)).Nodup := List.nodup_range' ..
  have hm : ((List.range' 1 (p - 1)).map fun x => a * x % p).Nodup := nU hn fun x hx y hy e => by
    rw [List.mem_range'_1] at hx hy
    exact aaJ h ha (by omega) (by omega) e
  have hperm := Ax (l2 := List.range' 1 (p - 1)) hm (fun y hy => by
    obtain ⟨x, hx, rfl⟩ := List.mem_map.1 hy
    rw [List.mem_range'_1] at hx ⊢
    have hlt := Nat.mod_lt (a * x) h.pos
    have hne : a * x % p ≠ 0 := fun e => by
      rcases h.SY (Nat.dvd_of_mod_eq_zero e) with h1 | h1
      · exact ha h1
      · exact mo (by omega) (by omega) h1
    omega) (by rw [List.length_map]; exact Nat.le_refl _)
  have e := J4 p a (List.range' 1 (p - 1))
  rw [Uy hperm, List.length_range'] at e
  have hnot : ¬ p ∣ qu (List.range' 1 (p - 1)) := J3 h _ fun x hx => by
    rw [List.mem_range'_1] at hx
    exact mo (by omega) (by omega)
  have hmul : ∀ z, z * qu (List.range' 1 (p - 1)) % p = qu (List.range' 1 (p - 1)) * (z % p) % p := fun z => by
    rw [Nat.mul_comm, Nat.mul_mod_mod]
  rw [hmul] at e
  have e1 : qu (List.range' 1 (p - 1)) % p = qu (List.range' 1 (p - 1)) * 1 % p := by rw [Nat.mul_one]
  rw [e1] at e
  exact (aaJ h hnot (by omega) (Nat.mod_lt _ h.pos) e).symm
theorem Bi : ∀ (k n : Nat), 2 ≤ n → n ≤ k → ∃ r, Pr r ∧ r ∣ n
  | 0, n, h2, hk => by omega
  | k + 1, n, h2, hk => by
    by_cases hp : Pr n
    · exact ⟨n, hp, Nat.dvd_refl _⟩
    · have : ∃ d, d ∣ n ∧ d ≠ 1 ∧ d ≠ n := by
        apply Classical.byContradiction
        intro hc
        refine hp ⟨h2, fun d hd => ?_⟩
        apply Classical.byContradiction
        intro hd2
        exact hc ⟨d, hd, fun e => hd2 (.inl e), fun e => hd2 (.inr e)⟩
      obtain ⟨d, hd, h1, h3⟩ := this
      have hle := Nat.le_of_dvd (by omega) hd
      have h0 : d ≠ 0 := fun e => by subst e; have := Nat.eq_zero_of_zero_dvd hd; omega
      obtain ⟨r, hr, hrd⟩ := Bi k d (by omega) (by omega)
      exact ⟨r, hr, Nat.dvd_trans hrd hd⟩
theorem I0 {n : Nat} (h2 : 2 ≤ n) (hp : ¬ Pr n) : ∃ r, Pr r ∧ r ∣ n ∧ r * r ≤ n := by
  have : ∃ d, d ∣ n ∧ d ≠ 1 ∧ d ≠ n := by
    apply Classical.byContradiction
    intro hc
    refine hp ⟨h2, fun d hd => ?_⟩
    apply Classical.byContradiction
    intro hd2
    exact hc ⟨d, hd, fun e => hd2 (.inl e), fun e => hd2 (.inr e)⟩
  obtain ⟨d, ⟨e, rfl⟩, h1, h3⟩ := this
  have hd0 : d ≠ 0 := fun e' => by subst e'; omega
  have he0 : e ≠ 0 := fun e' => by subst e'; omega
  have he1 : e ≠ 1 := fun e' => by subst e'; omega
  rcases Nat.le_total d e with hde | hde
  · obtain ⟨r, hr, hrd⟩ := Bi d d (by omega) (Nat.le_refl _)
    have hle := Nat.le_of_dvd (by omega) hrd
    exact ⟨r, hr, Nat.dvd_trans hrd (Nat.dvd_mul_right ..), Nat.le_trans (Nat.mul_le_mul hle hle) (Nat.mul_le_mul_left d hde)⟩
  · obtain ⟨r, hr, hrd⟩ := Bi e e (by omega) (Nat.le_refl _)
    have hle := Nat.le_of_dvd (by omega) hrd
    exact ⟨r, hr, Nat.dvd_trans hrd (Nat.dvd_mul_left ..), Nat.le_trans (Nat.mul_le_mul hle hle) (Nat.mul_le_mul_right e hde)⟩
theorem aiz {r a : Nat} (hr : 2 ≤ r) (m k : Nat) : a ^ m % r = 1 → a ^ k % r = 1 → a ^ Nat.gcd m k % r = 1 := by
  induction m, k using Nat.gcd.induction with
  | H0 n => intro _ h; rw [Nat.gcd_zero_left]; exact h
  | H1 m n hm ih =>
    intro h1 h2
    rw [Nat.gcd_rec]
    refine ih ?_ h1
    have e : a ^ n % r = a ^ (n % m) % r := by
      conv => lhs; rw [← Nat.div_add_mod n m, Nat.pow_add, Nat.pow_mul, Nat.mul_mod, Nat.pow_mod, h1, Nat.one_pow, Nat.mod_eq_of_lt (show 1 < r by omega), Nat.one_mul, Nat.mod_mod]
    rw [← e]
    exact h2
theorem aeg {n q e a m : Nat} (hn2 : 2 ≤ n) (hq : Pr q) (he : n - 1 = q ^ (e + 1) * m) (h1 : a ^ (n - 1) % n = 1) (h2 : Nat.gcd (a ^ (q ^ e * m) % n + n - 1) n = 1)
    {r : Nat} (hr : Pr r) (hd : r ∣ n) : q ^ (e + 1) ∣ r - 1 := by
  have hr2 := hr.1
  have ha1 : a ^ (n - 1) % r = 1 := by
    have := congrArg (· % r) h1
    simp only [Nat.mod_mod_of_dvd _ hd] at this
    rw [this, Nat.mod_eq_of_lt (by omega)]
  have hna : ¬ r ∣ a := fun h => by
    have : r ∣ a ^ (n - 1) := Nat.dvd_trans h (by
      have := Nat.pow_dvd_pow a (show 1 ≤ n - 1 by omega)
      rwa [Nat.pow_one] at this)
    rw [Nat.mod_eq_zero_of_dvd this] at ha1
    omega
  have hg := aiz hr2 _ _ ha1 (SO hr hna)
  obtain ⟨h, hh⟩ := Nat.gcd_dvd_left (n - 1) (r - 1)
  by_cases hqh : q ∣ h
  · obtain ⟨k, rfl⟩ := hqh
    have hk : q ^ e * m = Nat.gcd (n - 1) (r - 1) * k := by
      have : q * (q ^ e * m) = q * (Nat.gcd (n - 1) (r - 1) * k) := by
        rw [← Nat.mul_assoc, ← Nat.pow_succ', ← he, Nat.mul_left_comm q, ← hh]
      exact Nat.eq_of_mul_eq_mul_left hq.pos this
    have hone : a ^ (q ^ e * m) % r = 1 := by
      rw [hk, Nat.pow_mul, Nat.pow_mod, hg, Nat.one_pow, Nat.mod_eq_of_lt (by omega)]
    have hmn : a ^ (q ^ e * m) % n % r = 1 := by rw [Nat.mod_mod_of_dvd _ hd, hone]
    have hdv : r ∣ a ^ (q ^ e * m) % n + n - 1 := by
      obtain ⟨c, rfl⟩ := hd
      have := Nat.div_add_mod (a ^ (q ^ e * m) % (r * c)) r
      refine ⟨a ^ (q ^ e * m) % (r * c) / r + c, ?_⟩
      rw [Nat.mul_add]
      omega
    have := Nat.dvd_gcd hdv hd
    rw [h2] at this
    have := Nat.le_of_dvd (by decide) this
    omega
  · have hc : Nat.Coprime (q ^ (e + 1)) h := Nat.Coprime.pow_left _ (hq.cop hqh)
    have hdg : q ^ (e + 1) ∣ Nat.gcd (n - 1) (r - 1) * h := by rw [← hh, he]; exact Nat.dvd_mul_right ..
    exact Nat.dvd_trans (hc.dvd_of_dvd_mul_right hdg) (Nat.gcd_dvd_right ..)
theorem aeh {n F : Nat} (h2 : 2 ≤ n) (hF : n < F * F) (h : ∀ r, Pr r → r ∣ n → F ∣ r - 1) : Pr n := by
  apply Classical.byContradiction
  intro hp
  obtain ⟨r, hr, hd, hle⟩ := I0 h2 hp
  have h1 := hr.1
  have := Nat.le_of_dvd (by omega) (h r hr hd)
  have : F * F ≤ r * r := Nat.mul_le_mul (by omega) (by omega)
  omega
def KZ {α : Type} (n : Nat) (f : Nat → α) : α := match n with
  | 0 => f 0
  | k + 1 => f (k + 1)
theorem KY {α : Type} (n : Nat) (f : Nat → α) : KZ n f = f n := by cases n <;> rfl
def pw (n : Nat) : Nat → Nat → Nat → Nat → Nat
  | 0, o, _, _ => o
  | f + 1, o, x, k => KZ k fun k => cond (Nat.beq k 0) o (KZ (x * x % n) fun y => KZ (cond (Nat.beq (k % 2) 1) (o * x % n) o) fun o => pw n f o y (k / 2))
theorem aix {p : Nat} : ∀ (n o x k : Nat), k < 2 ^ n → o < p → pw p n o x k = o * x ^ k % p
  | 0, o, x, k, hk, ho => by
    have : k = 0 := by omega
    subst this
    show o = _
    rw [Nat.pow_zero, Nat.mul_one, Nat.mod_eq_of_lt ho]
  | n + 1, o, x, k, hk, ho => by
    unfold pw
    simp only [KY]
    rw [Nat.pow_succ] at hk
    cases h0 : Nat.beq k 0
    · simp only [cond_false]
      have hsq : (x * x % p) ^ (k / 2) % p = x ^ (2 * (k / 2)) % p := by
        rw [← Nat.pow_mod, Nat.pow_mul, Nat.pow_two]
      cases h1 : Nat.beq (k % 2) 1
      · have h1' : ¬ k % 2 = 1 := fun e => by rw [e] at h1; cases h1
        simp only [cond_false]
        rw [aix n _ _ _ (by omega) ho, Nat.mul_mod, hsq, ← Nat.mul_mod, show 2 * (k / 2) = k by omega]
      · have h1 := Nat.eq_of_beq_eq_true h1
        simp only [cond_true]
        rw [aix n _ _ _ (by omega) (Nat.mod_lt _ (by omega)), Nat.mul_mod, hsq, Nat.mod_mod, ← Nat.mul_mod, Nat.mul_assoc, ← Nat.pow_succ', show (2 * (k / 2)).succ = k by omega]
    · have h0 := Nat.eq_of_beq_eq_true h0
      subst h0
      simp only [cond_true]
      rw [Nat.pow_zero, Nat.mul_one, Nat.mod_eq_of_lt ho]
def pwm (n a k : Nat) : Nat := pw n 256 1 (a % n) k
theorem ZF {n : Nat} (hn : 2 ≤ n) {a k : Nat} (hk : Nat.blt k (2 ^ 256) = true) : pwm n a k = a ^ k % n := by
  have hk' : k < 2 ^ 256 := Nat.le_of_ble_eq_true hk
  unfold pwm
  rw [aix 256 1 _ _ hk' (by omega), Nat.one_mul, ← Nat.pow_mod]
def akK (n q e a m : Nat) : Bool := Nat.beq (n - 1) (q ^ (e + 1) * m) && (Nat.blt n (2 ^ 256) && (Nat.beq (pwm n a (n - 1)) 1 && Nat.beq (Nat.gcd (pwm n a (q ^ e * m) + n - 1) n) 1))
theorem ej {n q e a m : Nat} (h2 : 2 ≤ n) (hq : Pr q) (h : akK n q e a m = true) {r : Nat} (hr : Pr r) (hd : r ∣ n) : q ^ (e + 1) ∣ r - 1 := by
  simp only [akK, Bool.and_eq_true] at h
  obtain ⟨h1, h3, h4, h5⟩ := h
  have h1 := Nat.eq_of_beq_eq_true h1
  have h3 : n < 2 ^ 256 := Nat.le_of_ble_eq_true h3
  have hm : q ^ e * m ≤ n - 1 := by
    rw [h1, Nat.pow_succ, Nat.mul_right_comm]
    exact Nat.le_mul_of_pos_right _ hq.pos
  rw [ZF h2 (Nat.ble_eq_true_of_le (show n - 1 + 1 ≤ 2 ^ 256 by omega))] at h4
  rw [ZF h2 (Nat.ble_eq_true_of_le (show q ^ e * m + 1 ≤ 2 ^ 256 by omega))] at h5
  exact aeg h2 hq h1 (Nat.eq_of_beq_eq_true h4) (Nat.eq_of_beq_eq_true h5) hr hd
def alR (n : Nat) : Nat → Nat → Bool
  | 0, _ => false
  | f + 1, d => KZ d fun d => cond (Nat.blt n (d * d)) true (cond (Nat.beq (n % d) 0) false (alR n f (d + 1)))
theorem W6 {n : Nat} : ∀ (f d : Nat), alR n f d = true → 0 < d → (∀ x, 1 < x → x < d → ¬ x ∣ n) → ∀ x, 1 < x → x * x ≤ n → ¬ x ∣ n
  | 0, d, h, _, _ => by cases h
  | f + 1, d, h, hd0, hb => by
    unfold alR at h
    rw [KY] at h
    cases h1 : Nat.blt n (d * d)
    · rw [h1] at h
      cases h2 : Nat.beq (n % d) 0
      · rw [h2] at h
        refine W6 f (d + 1) h (by omega) fun x hx hxd hdv => ?_
        by_cases hxd2 : x = d
        · subst hxd2
          rw [Nat.mod_eq_zero_of_dvd hdv] at h2
          cases h2
        · exact hb x hx (by omega) hdv
      · rw [h2] at h; cases h
    · have h1 : n < d * d := Nat.le_of_ble_eq_true h1
      intro x hx hxx
      refine hb x hx ?_
      apply Classical.byContradiction
      intro hc
      have := Nat.mul_le_mul (show d ≤ x by omega) (show d ≤ x by omega)
      omega
theorem sM {n : Nat} (f : Nat) (h2 : 2 ≤ n) (h : alR n f 2 = true) : Pr n := by
  apply Classical.byContradiction
  intro hp
  obtain ⟨r, hr, hd, hle⟩ := I0 h2 hp
  have := hr.1
  exact W6 f 2 h (by decide) (fun x a b => by omega) r (by omega) hle hd
end Go.Proofs.Ytkedomfjjahjnaa

set_option maxRecDepth 100000
namespace Go.Proofs.Ytkedomfjjahjnaa
theorem rk : Pr 16513537 := sM 4065 (by decide) (by decide +kernel)
theorem rj : Pr 16521217 := sM 4066 (by decide) (by decide +kernel)
theorem ZJ : Pr 772231 := sM 880 (by decide) (by decide +kernel)
theorem ZK : Pr 413527 := sM 645 (by decide) (by decide +kernel)
theorem tp : Pr 325086459374267 := aeh (F := 319338368737) (by decide) (by decide +kernel) fun r hr hd => by
  have h0 : 772231 ∣ r - 1 := ej (n := 325086459374267) (q := 772231) (e := 0) (a := 2) (m := 420970486) (by decide) ZJ (by decide +kernel) hr hd
  have h1 : 413527 ∣ r - 1 := ej (n := 325086459374267) (q := 413527) (e := 0) (a := 2) (m := 786131158) (by decide) ZK (by decide +kernel) hr hd
  have k1 : 319338368737 ∣ r - 1 := Nat.Coprime.mul_dvd_of_dvd_of_dvd (m := 772231) (n := 413527) (show Nat.gcd 772231 413527 = 1 by decide +kernel) h0 h1
  exact k1
theorem Uz : Pr 6942563 := sM 2636 (by decide) (by decide +kernel)
theorem N5 : Pr 41655379 := aeh (F := 6942563) (by decide) (by decide +kernel) fun r hr hd => by
  have h0 : 6942563 ∣ r - 1 := ej (n := 41655379) (q := 6942563) (e := 0) (a := 2) (m := 6) (by decide) Uz (by decide +kernel) hr hd
  exact h0
theorem DM : Pr 22160661629 := aeh (F := 41655379) (by decide) (by decide +kernel) fun r hr hd => by
  have h0 : 41655379 ∣ r - 1 := ej (n := 22160661629) (q := 41655379) (e := 0) (a := 2) (m := 532) (by decide) N5 (by decide +kernel) hr hd
  exact h0
theorem dm : Pr 8999194758858563409123804352480028797519453 := aeh (F := 7204131026362786056900943) (by decide) (by decide +kernel) fun r hr hd => by
  have h0 : 325086459374267 ∣ r - 1 := ej (n := 8999194758858563409123804352480028797519453) (q := 325086459374267) (e := 0) (a := 2) (m := 27682465692912573825889481556) (by decide) tp (by decide +kernel) hr hd
  have h1 : 22160661629 ∣ r - 1 := ej (n := 8999194758858563409123804352480028797519453) (q := 22160661629) (e := 0) (a := 2) (m := 406088721966766121824069856270988) (by decide) DM (by decide +kernel) hr hd
  have k1 : 7204131026362786056900943 ∣ r - 1 := Nat.Coprime.mul_dvd_of_dvd_of_dvd (m := 325086459374267) (n := 22160661629) (show Nat.gcd 325086459374267 22160661629 = 1 by decide +kernel) h0 h1
  exact k1
theorem aG : Pr 28948022309329048855892746252171976963363056481941560715954676764349967630337 := aeh (F := 8999194758858563409123804352480028797519453) (by decide) (by decide +kernel) fun r hr hd => by
  have h0 : 8999194758858563409123804352480028797519453 ∣ r - 1 := ej (n := 28948022309329048855892746252171976963363056481941560715954676764349967630337) (q := 8999194758858563409123804352480028797519453) (e := 0) (a := 2) (m := 3216734728497058061019394250637312) (by decide) dm (by decide +kernel) hr hd
  exact h0
theorem aed : Pr 31649 := sM 179 (by decide) (by decide +kernel)
theorem aee : Pr 12149 := sM 112 (by decide) (by decide +kernel)
theorem yP : Pr 5239247429827 := aeh (F := 384503701) (by decide) (by decide +kernel) fun r hr hd => by
  have h0 : 31649 ∣ r - 1 := ej (n := 5239247429827) (q := 31649) (e := 0) (a := 2) (m := 165542274) (by decide) aed (by decide +kernel) hr hd
  have h1 : 12149 ∣ r - 1 := ej (n := 5239247429827) (q := 12149) (e := 0) (a := 2) (m := 431249274) (by decide) aee (by decide +kernel) hr hd
  have k1 : 384503701 ∣ r - 1 := Nat.Coprime.mul_dvd_of_dvd_of_dvd (m := 31649) (n := 12149) (show Nat.gcd 31649 12149 = 1 by decide +kernel) h0 h1
  exact k1
theorem UA : Pr 5701177 := sM 2389 (by decide) (by decide +kernel)
theorem J6 : Pr 399082391 := aeh (F := 5701177) (by decide) (by decide +kernel) fun r hr hd => by
  have h0 : 5701177 ∣ r - 1 := ej (n := 399082391) (q := 5701177) (e := 0) (a := 2) (m := 70) (by decide) UA (by decide +kernel) hr hd
  exact h0
theorem eU : Pr 10427374428728808478656897599072717 := aeh (F := 2090891391335963876357) (by decide) (by decide +kernel) fun r hr hd => by
  have h0 : 5239247429827 ∣ r - 1 := ej (n := 10427374428728808478656897599072717) (q := 5239247429827) (e := 0) (a := 2) (m := 1990242791238649418308) (by decide) yP (by decide +kernel) hr hd
  have h1 : 399082391 ∣ r - 1 := ej (n := 10427374428728808478656897599072717) (q := 399082391) (e := 0) (a := 2) (m := 26128375152309860944621076) (by decide) J6 (by decide +kernel) hr hd
  have k1 : 2090891391335963876357 ∣ r - 1 := Nat.Coprime.mul_dvd_of_dvd_of_dvd (m := 5239247429827) (n := 399082391) (show Nat.gcd 5239247429827 399082391 = 1 by decide +kernel) h0 h1
  exact k1
theorem amR : Pr 2 := sM 3 (by decide) (by decide +kernel)
theorem aF : Pr 28948022309329048855892746252171976963363056481941647379679742748393362948097 := aeh (F := 44785232154536915268878889192838239440863232) (by decide) (by decide +kernel) fun r hr hd => by
  have h0 : 10427374428728808478656897599072717 ∣ r - 1 := ej (n := 28948022309329048855892746252171976963363056481941647379679742748393362948097) (q := 10427374428728808478656897599072717) (e := 0) (a := 2) (m := 2776156405161148062854777934377771323097088) (by decide) eU (by decide +kernel) hr hd
  have h1 : 4294967296 ∣ r - 1 := ej (n := 28948022309329048855892746252171976963363056481941647379679742748393362948097) (q := 2) (e := 31) (a := 5) (m := 6739986666787659948666753771754907668419893943225417141728043264801) (by decide) amR (by decide +kernel) hr hd
  have k1 : 44785232154536915268878889192838239440863232 ∣ r - 1 := Nat.Coprime.mul_dvd_of_dvd_of_dvd (m := 10427374428728808478656897599072717) (n := 4294967296) (show Nat.gcd 10427374428728808478656897599072717 4294967296 = 1 by decide +kernel) h0 h1
  exact k1
end Go.Proofs.Ytkedomfjjahjnaa

namespace Go.Proofs.Ytkedomfjjahjnaa
set_option maxRecDepth 100000
theorem dz (p : Int) : p ∣ 0 := Int.dvd_zero p
theorem dc {p a b : Int} (c : Int) (h : p ∣ a) (k : p ∣ b) : p ∣ c * a + b := Int.dvd_add (Int.dvd_trans h (Int.dvd_mul_left ..)) k
theorem dk {p a K : Int} (h : p ∣ a) (e : K = a) : p ∣ K := e ▸ h
theorem akr {p y3 x3 b y1 y2 x1 x2 l : Int} (h0 : p ∣ y3-(l*(x1-x3)-y1)) (h1 : p ∣ x3-(l*l-x1-x2)) (h2 : p ∣ l*(x1-x2)-(y1-y2)) (h3 : p ∣ l*(y1+y2)-(x1*x1+x1*x2+x2*x2)) (h4 : p ∣ y1*y1-x1*x1*x1-b) : p ∣ (y3*y3-x3*x3*x3-b) :=
  dk (dc (y3 - x3*l + x1*l - y1) h0 (dc (-x3*x3 + x3*x1 + x3*x2 - x1*l*l + x2*l*l - x1*x1 - 2*x1*x2 - x2*x2 + 2*y1*l) h1 (dc (-l*l*l + 2*x1*l + x2*l) h2 (dc (l*l - 2*x1 - x2) h3 (dc (1) h4 (dz p)))))) (by clear h0 h1 h2 h3 h4; grind)
theorem agG {p y3 x3 y1 y2 x1 x2 l : Int} (h0 : p ∣ y3-(l*(x1-x3)-y1)) (h1 : p ∣ l*(x1-x2)-(y1-y2)) : p ∣ (y3-(l*(x2-x3)-y2)) :=
  dk (dc (1) h0 (dc (1) h1 (dz p))) (by clear h0 h1; grind)
theorem alG {p y3 x3 y1 y2 x1 x2 l : Int} (h0 : p ∣ y3-(l*(x1-x3)-y1)) (h1 : p ∣ x3-(l*l-x1-x2)) (h2 : p ∣ l*(x1-x2)-(y1-y2)) (h3 : p ∣ l*(y1+y2)-(x1*x1+x1*x2+x2*x2)) : p ∣ ((-l)*((-y1)+y3)-(x1*x1+x1*x3+x3*x3)) :=
  dk (dc (-l) h0 (dc (-x3 + x2) h1 (dc (-l) h2 (dc (1) h3 (dz p))))) (by clear h0 h1 h2 h3; grind)
theorem ab3 {p b y1 y2 x1 x2 l : Int} (h0 : p ∣ y1*y1-x1*x1*x1-b) (h1 : p ∣ y2*y2-x2*x2*x2-b) (h2 : p ∣ l*(x1-x2)-(y1-y2)) : p ∣ (x1-x2) * (l*(y1+y2)-(x1*x1+x1*x2+x2*x2)) :=
  dk (dc (1) h0 (dc (-1) h1 (dc (y1 + y2) h2 (dz p)))) (by clear h0 h1 h2; grind)
theorem alI {p x7 x5 yt xt ys xs y1 y3 L M l m x1 x3 y2 x2 : Int} (h0 : p ∣ l*(x1-x2)-(y1-y2)) (h1 : p ∣ m*(x2-x3)-(y2-y3)) (h2 : p ∣ xs-(l*l-x1-x2)) (h3 : p ∣ ys-(l*(x1-xs)-y1)) (h4 : p ∣ xt-(m*m-x2-x3)) (h5 : p ∣ yt-(m*(x2-xt)-y2)) (h6 : p ∣ x5-(L*L-xs-x3)) (h7 : p ∣ x7-(M*M-x1-xt)) (h8 : p ∣ l*(y1+y2)-(x1*x1+x1*x2+x2*x2)) (h9 : p ∣ m*(y2+y3)-(x2*x2+x2*x3+x3*x3)) (h10 : p ∣ L*(xs-x3)-(ys-y3)) (h11 : p ∣ M*(x1-xt)-(y1-yt)) : p ∣ ((xs-x3)*(x1-xt)) * (x5-x7) :=
  dk (dc (-L*l*l - l*l*l - L*l*m - M*l*m - l*l*m - L*m*m + L*x1 - M*x1 + 2*l*x1 + 2*m*x1 + L*x3 - M*x3 + L*x2 - M*x2 + l*x2 + m*x2) h0 (dc (-L*l*m - M*l*m - l*l*m - M*m*m - l*m*m - m*m*m - L*x1 + m*x1 - L*x3 + l*x3 + 2*m*x3 - L*x2 + 2*l*x2 + 3*m*x2 - 2*y2) h1 (dc (x7*xt - x7*x1 - x5*xt + x5*x1 + L*L*m*m - L*L*x1 - L*l*x1 - l*l*x1 - L*m*x1 - l*m*x1 - m*m*x1 - L*L*x3 - m*m*x3 - L*L*x2 + L*l*x2 + l*l*x2 + L*m*x2 + l*m*x2 - m*m*x2 + x1*x1 + 2*x1*x3 + x3*x3 - 2*L*y2 - 2*l*y2 + 2*x1*x2 + 2*x3*x2 + x2*x2) h2 (dc (-L*m*m + l*m*m + L*x1 + m*x1 + L*x3 - l*x3 + L*x2 - 2*l*x2 - m*x2 + 2*y2) h3 (dc (x7*l*l - x7*x1 - x7*x3 - x7*x2 - x5*l*l + x5*x1 + x5*x3 + x5*x2 - M*M*l*l + M*M*x1 + l*l*x1 + M*M*x3 + M*l*x3 + l*l*x3 + M*m*x3 + l*m*x3 + m*m*x3 + M*M*x2 - M*l*x2 + l*l*x2 - M*m*x2 - l*m*x2 - m*m*x2 - x1*x1 - 2*x1*x3 - x3*x3 + 2*M*y2 + 2*m*y2 - 2*x1*x2 - 2*x3*x2 - x2*x2) h4 (dc (M*l*l - l*l*m - M*x1 + m*x1 - M*x3 - l*x3 - M*x2 + l*x2 + 2*m*x2 - 2*y2) h5 (dc (-l*l*m*m + l*l*x1 + m*m*x1 + l*l*x3 + m*m*x3 + l*l*x2 + m*m*x2 - x1*x1 - 2*x1*x3 - x3*x3 - 2*x1*x2 - 2*x3*x2 - x2*x2) h6 (dc (l*l*m*m - l*l*x1 - m*m*x1 - l*l*x3 - m*m*x3 - l*l*x2 - m*m*x2 + x1*x1 + 2*x1*x3 + x3*x3 + 2*x1*x2 + 2*x3*x2 + x2*x2) h7 (dc (-L*l - M*l - l*l - L*m - M*m - m*m + 2*x1 + 2*x3 + 2*x2) h8 (dc (L*l + M*l + l*l + L*m + M*m + m*m - 2*x1 - 2*x3 - 2*x2) h9 (dc (-L*m*m + l*m*m + L*x1 + m*x1 + L*x3 - l*x3 + L*x2 - 2*l*x2 - m*x2 + 2*y2) h10 (dc (-M*l*l + l*l*m + M*x1 - m*x1 + M*x3 + l*x3 + M*x2 - l*x2 - 2*m*x2 + 2*y2) h11 (dz p))))))))))))) (by clear h0 h1 h2 h3 h4 h5 h6 h7 h8 h9 h10 h11; grind)
theorem alH {p y7 x7 y5 x5 yt xt ys xs y1 y3 L M l m x1 x3 y2 x2 : Int} (h0 : p ∣ l*(x1-x2)-(y1-y2)) (h1 : p ∣ m*(x2-x3)-(y2-y3)) (h2 : p ∣ xs-(l*l-x1-x2)) (h3 : p ∣ ys-(l*(x1-xs)-y1)) (h4 : p ∣ xt-(m*m-x2-x3)) (h5 : p ∣ yt-(m*(x2-xt)-y2)) (h6 : p ∣ x5-(L*L-xs-x3)) (h7 : p ∣ y5-(L*(xs-x5)-ys)) (h8 : p ∣ x7-(M*M-x1-xt)) (h9 : p ∣ y7-(M*(x1-x7)-y1)) (h10 : p ∣ l*(y1+y2)-(x1*x1+x1*x2+x2*x2)) (h11 : p ∣ m*(y2+y3)-(x2*x2+x2*x3+x3*x3)) (h12 : p ∣ L*(xs-x3)-(ys-y3)) (h13 : p ∣ M*(x1-xt)-(y1-yt)) (h14 : p ∣ x5-x7) : p ∣ ((xs-x3)*(x1-xt)) * (y5-y7) :=
  dk (dc (-L*L*L*l + L*M*M*l - 2*L*L*l*l - L*M*l*l + M*M*l*l - M*l*l*l + l*l*l*l - L*L*l*m - L*M*l*m + M*M*l*m - 2*L*l*l*m - M*l*l*m - l*l*l*m + L*L*m*m - 3*L*l*m*m + M*l*m*m - 3*l*l*m*m - M*l*x1 - 2*l*l*x1 + L*m*x1 + l*m*x1 + 2*m*m*x1 - L*L*x3 + M*M*x3 + 2*L*l*x3 - 3*M*l*x3 + 3*l*l*x3 - L*m*x3 - 2*M*m*x3 + l*m*x3 - m*m*x3 - 2*L*L*x2 + 2*M*M*x2 + L*l*x2 - 2*M*l*x2 + 2*l*l*x2 - M*m*x2 - 2*l*m*x2 - 4*m*m*x2 + 2*x1*x1 + 2*x3*x3 + 6*m*y2 - x1*x2 + 5*x3*x2 + x2*x2) h0 (dc (L*L*l*m - L*M*l*m - M*M*l*m - M*l*l*m - l*l*l*m - L*M*m*m - M*M*m*m - L*l*m*m - 2*M*l*m*m - 2*l*l*m*m - L*m*m*m - l*m*m*m + m*m*m*m + M*M*x1 - 2*L*l*x1 - M*l*x1 - 2*L*m*x1 - 2*M*m*x1 + 3*l*m*x1 + L*L*x3 - L*l*x3 - l*l*x3 - L*m*x3 - M*m*x3 + 2*L*L*x2 - M*M*x2 + M*l*x2 - 2*l*l*x2 + 3*x1*x3 - 2*L*y2 - 2*M*y2 + 2*m*y2 + 6*x1*x2 + 3*x2*x2) h1 (dc (y7*xt - y7*x1 - y5*xt + y5*x1 - L*L*L*m*m + L*M*M*x1 - 2*L*L*l*x1 - L*M*l*x1 + M*M*l*x1 - M*l*l*x1 + l*l*l*x1 - L*L*m*x1 - L*M*m*x1 - 2*L*l*m*x1 - M*l*m*x1 - l*l*m*x1 - 2*L*m*m*x1 - 3*l*m*m*x1 + L*L*L*x3 + 2*L*m*m*x3 + l*m*m*x3 + 2*L*L*L*x2 - L*M*M*x2 + 2*L*L*l*x2 + L*M*l*x2 - M*M*l*x2 + M*l*l*x2 - l*l*l*x2 + L*L*m*x2 + L*M*m*x2 + 2*L*l*m*x2 + M*l*m*x2 + l*l*m*x2 + 3*L*m*m*x2 + 2*l*m*m*x2 - 2*L*x1*x1 - l*x1*x1 + 3*l*x1*x3 + m*x1*x3 - 2*L*x3*x3 - l*x3*x3 - 2*L*L*y2 - 2*L*M*y2 - 2*M*l*y2 + 2*l*l*y2 - 4*L*m*y2 + L*x1*x2 + 2*l*x1*x2 - m*x1*x2 - 5*L*x3*x2 - 4*l*x3*x2 - m*x3*x2 - L*x2*x2 - 5*l*x2*x2 - 5*m*x2*x2 + 2*x1*y2 + 4*x3*y2 + 6*y2*x2) h2 (dc (L*L*m*m - L*l*m*m - M*M*x1 + 2*L*l*x1 + M*l*x1 - l*l*x1 + L*m*x1 + M*m*x1 + l*m*x1 + 3*m*m*x1 - L*L*x3 + L*l*x3 - m*m*x3 - 2*L*L*x2 + M*M*x2 - M*l*x2 + l*l*x2 - L*m*x2 - M*m*x2 - l*m*x2 - 2*m*m*x2 + x1*x1 - x1*x3 + x3*x3 + 2*L*y2 + 2*M*y2 + 4*m*y2 - 4*x1*x2 + 2*x3*x2 - 2*x2*x2) h3 (dc (y7*l*l - y7*x1 - y7*x3 - y7*x2 - y5*l*l + y5*x1 + y5*x3 + y5*x2 + M*M*M*l*l - M*M*M*x1 - M*l*l*x1 - M*M*M*x3 + L*M*l*x3 + M*M*l*x3 + M*l*l*x3 + L*M*m*x3 + M*M*m*x3 + L*l*m*x3 + 2*M*l*m*x3 + 2*l*l*m*x3 + L*m*m*x3 + l*m*m*x3 - m*m*m*x3 - M*M*M*x2 - L*M*l*x2 - M*M*l*x2 - 3*M*l*l*x2 - L*M*m*x2 - M*M*m*x2 - L*l*m*x2 - 2*M*l*m*x2 - 2*l*l*m*x2 - L*m*m*x2 - l*m*m*x2 + m*m*m*x2 + M*x1*x1 - L*x1*x3 + 3*M*x1*x3 - 2*l*x1*x3 + M*x3*x3 + 2*L*M*y2 + 2*M*M*y2 - 2*L*l*y2 + 6*M*l*y2 - 2*l*l*y2 + 2*L*m*y2 + 2*l*m*y2 - 2*m*m*y2 + L*x1*x2 + M*x1*x2 + 2*l*x1*x2 + L*x3*x2 + M*x3*x2 + 2*l*x3*x2 + 2*L*x2*x2 - M*x2*x2 + 7*l*x2*x2 + 3*m*x2*x2 - 2*x1*y2 - 4*x3*y2 - 6*y2*x2) h4 (dc (-M*M*l*l + M*l*l*m + M*M*x1 - M*m*x1 + M*M*x3 - L*l*x3 - M*l*x3 - 2*l*l*x3 - L*m*x3 - 2*M*m*x3 - l*m*x3 + m*m*x3 + M*M*x2 + L*l*x2 + M*l*x2 + 2*l*l*x2 + L*m*x2 + l*m*x2 - m*m*x2 - x1*x3 - 2*L*y2 - 2*M*y2 - 6*l*y2 + 2*m*y2 + x1*x2 + x3*x2 + 2*x2*x2) h5 (dc (L*l*l*m*m - L*l*l*x1 - L*m*m*x1 - L*l*l*x3 - L*m*m*x3 - L*l*l*x2 - L*m*m*x2 + L*x1*x1 + L*x1*x3 - 2*l*x1*x3 - m*x1*x3 + L*x3*x3 - 2*L*l*y2 - 2*l*l*y2 - 4*l*m*y2 + 3*L*x1*x2 + 2*l*x1*x2 + m*x1*x2 + 3*L*x3*x2 + 2*l*x3*x2 + m*x3*x2 + 3*L*x2*x2 + 7*l*x2*x2 + 5*m*x2*x2 - 2*x1*y2 - 4*x3*y2 - 6*y2*x2) h6 (dc (-l*l*m*m + l*l*x1 + m*m*x1 + l*l*x3 + m*m*x3 + l*l*x2 + m*m*x2 - x1*x1 - 2*x1*x3 - x3*x3 - 2*x1*x2 - 2*x3*x2 - x2*x2) h7 (dc (-M*l*l*m*m + M*l*l*x1 + M*m*m*x1 + M*l*l*x3 + M*m*m*x3 + M*l*l*x2 + M*m*m*x2 - M*x1*x1 + L*x1*x3 - 2*M*x1*x3 + 2*l*x1*x3 + m*x1*x3 - M*x3*x3 + 2*L*l*y2 + 2*l*l*y2 + 4*l*m*y2 - L*x1*x2 - 2*M*x1*x2 - 2*l*x1*x2 - m*x1*x2 - L*x3*x2 - 2*M*x3*x2 - 2*l*x3*x2 - m*x3*x2 - 2*L*x2*x2 - M*x2*x2 - 7*l*x2*x2 - 5*m*x2*x2 + 2*x1*y2 + 4*x3*y2 + 6*y2*x2) h8 (dc (l*l*m*m - l*l*x1 - m*m*x1 - l*l*x3 - m*m*x3 - l*l*x2 - m*m*x2 + x1*x1 + 2*x1*x3 + x3*x3 + 2*x1*x2 + 2*x3*x2 + x2*x2) h9 (dc (-L*L*L + L*M*M - 2*L*L*l - L*M*l + 2*M*M*l - M*l*l + l*l*l - L*L*m - L*M*m + M*M*m - 2*L*l*m - 2*M*l*m - l*l*m - 2*L*m*m + M*m*m - 4*l*m*m - 2*L*x1 - 2*M*x1 + 2*L*x3 - 2*M*x3 + 6*l*x3 + 2*m*x3 - 2*M*x2 - 2*m*x2 + 6*y2) h10 (dc (-L*L*l + L*M*l + M*M*l + M*l*l + l*l*l - L*L*m + L*M*m + M*M*m + 2*L*l*m + 2*M*l*m + 3*l*l*m + L*m*m + l*m*m - m*m*m + L*x1 + M*x1 - 4*l*x1 - 4*m*x1 + L*x3 + M*x3 + L*x2 + M*x2 + l*x2 + m*x2 - 6*y2) h11 (dc (L*L*m*m - L*l*m*m - l*l*m*m - M*M*x1 + 2*L*l*x1 + M*l*x1 + L*m*x1 + M*m*x1 + l*m*x1 + 4*m*m*x1 - L*L*x3 + L*l*x3 + l*l*x3 - 2*L*L*x2 + M*M*x2 - M*l*x2 + 2*l*l*x2 - L*m*x2 - M*m*x2 - l*m*x2 - m*m*x2 - 3*x1*x3 + 2*L*y2 + 2*M*y2 + 4*m*y2 - 6*x1*x2 - 3*x2*x2) h12 (dc (M*M*l*l - M*l*l*m - M*M*x1 + M*m*x1 - M*M*x3 + L*l*x3 + M*l*x3 + 2*l*l*x3 + L*m*x3 + 2*M*m*x3 + l*m*x3 - m*m*x3 - M*M*x2 - L*l*x2 - M*l*x2 - 2*l*l*x2 - L*m*x2 - l*m*x2 + m*m*x2 + x1*x3 + 2*L*y2 + 2*M*y2 + 6*l*y2 - 2*m*y2 - x1*x2 - x3*x2 - 2*x2*x2) h13 (dc (L*x1*x3 + 2*l*x1*x3 + m*x1*x3 + 2*L*l*y2 + 2*l*l*y2 + 4*l*m*y2 - L*x1*x2 - 2*l*x1*x2 - m*x1*x2 - L*x3*x2 - 2*l*x3*x2 - m*x3*x2 - 2*L*x2*x2 - 7*l*x2*x2 - 5*m*x2*x2 + 2*x1*y2 + 4*x3*y2 + 6*y2*x2) h14 (dz p)))))))))))))))) (by clear h0 h1 h2 h3 h4 h5 h6 h7 h8 h9 h10 h11 h12 h13 h14; grind)
theorem alK {p x7 x5 yt xt ys xs y1 y3 L M l m x1 x3 y2 x2 : Int} (h0 : p ∣ l*(x1-x2)-(y1-y2)) (h1 : p ∣ m*(x2-x3)-(y2-y3)) (h2 : p ∣ xs-(l*l-x1-x2)) (h3 : p ∣ ys-(l*(x1-xs)-y1)) (h4 : p ∣ xt-(m*m-x2-x3)) (h5 : p ∣ yt-(m*(x2-xt)-y2)) (h6 : p ∣ x5-(L*L-xs-x3)) (h7 : p ∣ x7-(M*M-x1-xt)) (h8 : p ∣ l*(y1+y2)-(x1*x1+x1*x2+x2*x2)) (h9 : p ∣ m*(y2+y3)-(x2*x2+x2*x3+x3*x3)) (h10 : p ∣ L*(xs-x3)-(ys-y3)) (h11 : p ∣ L*(ys+y3)-(xs*xs+xs*x3+x3*x3)) (h12 : p ∣ M*(x1-xt)-(y1-yt)) (h13 : p ∣ xs-x3) : p ∣ 4 * (y2*y3) * (x5-x7) :=
  dk (dc (L*M*l*x3 + M*M*l*x3 - 2*L*l*l*x3 - 2*M*l*l*x3 + 2*L*M*m*x3 - L*l*m*x3 - 2*M*l*m*x3 + 2*l*l*m*x3 - M*m*m*x3 + l*m*m*x3 + m*m*m*x3 - L*M*l*x2 - M*M*l*x2 + 2*L*l*l*x2 + 2*M*l*l*x2 - 2*L*M*m*x2 + L*l*m*x2 + 2*M*l*m*x2 - 2*l*l*m*x2 + M*m*m*x2 - l*m*m*x2 - m*m*m*x2 + L*x1*x3 + M*x1*x3 + 3*L*x3*x3 - 5*m*x3*x3 - 2*M*M*y2 + 2*L*l*y2 - 2*l*l*y2 + 2*L*m*y2 + 2*M*m*y2 - 2*l*m*y2 - 4*m*m*y2 - L*x1*x2 - M*x1*x2 - L*x3*x2 - M*x3*x2 + 4*m*x3*x2 - 2*L*x2*x2 - 2*M*x2*x2 + 4*m*x2*x2 + 4*x1*y2 - 4*x3*y2) h0 (dc (-4*x7*y2 + 4*x5*y2 + 2*L*M*l*x3 + M*l*l*x3 + L*M*m*x3 + M*M*m*x3 - M*l*m*x3 + l*l*m*x3 + L*m*m*x3 - M*m*m*x3 + l*m*m*x3 - 2*m*m*m*x3 - 2*L*M*l*x2 - M*l*l*x2 - L*M*m*x2 - M*M*m*x2 + M*l*m*x2 - l*l*m*x2 - L*m*m*x2 + M*m*m*x2 - l*m*m*x2 + 2*m*m*m*x2 - L*x1*x3 - M*x1*x3 - 2*L*x3*x3 + M*x3*x3 + 3*m*x3*x3 - 4*L*L*y2 + 2*M*M*y2 + 2*L*l*y2 + 2*l*l*y2 - 4*l*m*y2 - 2*m*m*y2 + L*x1*x2 + M*x1*x2 - L*x3*x2 - M*x3*x2 + 3*L*x2*x2 + 3*M*x2*x2 - 6*m*x2*x2 - 4*x1*y2 + 2*x3*y2 + 2*y2*x2) h1 (dc (-xs*M*l*x3 - xs*M*m*x3 - xs*l*m*x3 - xs*m*m*x3 + xs*M*l*x2 + xs*M*m*x2 + xs*l*m*x2 + xs*m*m*x2 + 2*xs*L*y2 - 2*xs*l*y2 + L*M*x1*x3 + M*M*x1*x3 - 2*L*l*x1*x3 - M*l*x1*x3 - L*m*x1*x3 - 2*M*m*x1*x3 + 3*l*m*x1*x3 + m*m*x1*x3 - L*M*x1*x2 - M*M*x1*x2 + 2*L*l*x1*x2 + M*l*x1*x2 + L*m*x1*x2 + 2*M*m*x1*x2 - 3*l*m*x1*x2 - m*m*x1*x2 - L*M*x3*x2 - M*M*x3*x2 + 2*L*l*x3*x2 + 2*M*l*x3*x2 + L*m*x3*x2 + 3*M*m*x3*x2 - 2*l*m*x3*x2 + L*M*x2*x2 + M*M*x2*x2 - 2*L*l*x2*x2 - 2*M*l*x2*x2 - L*m*x2*x2 - 3*M*m*x2*x2 + 2*l*m*x2*x2 - 4*m*x1*y2 - 4*L*x3*y2 - 4*M*x3*y2 + 4*m*x3*y2 + 2*L*y2*x2 + 4*M*y2*x2 + 2*l*y2*x2 - 4*y2*y2) h2 (dc (-M*l*l*x3 + 2*L*M*m*x3 - l*l*m*x3 - M*m*m*x3 + m*m*m*x3 + M*l*l*x2 - 2*L*M*m*x2 + l*l*m*x2 + M*m*m*x2 - m*m*m*x2 + L*x1*x3 + M*x1*x3 + 2*L*x3*x3 - M*x3*x3 - 3*m*x3*x3 - 2*M*M*y2 + 2*L*l*y2 - 2*l*l*y2 + 2*L*m*y2 + 2*M*m*y2 + 2*l*m*y2 - 4*m*m*y2 - L*x1*x2 - M*x1*x2 + L*x3*x2 + M*x3*x2 - 3*L*x2*x2 - 3*M*x2*x2 + 6*m*x2*x2 + 4*x1*y2 - 2*x3*y2 - 2*y2*x2) h3 (dc (-L*M*x3*x3 - M*M*x3*x3 - L*m*x3*x3 + M*m*x3*x3 + 2*m*m*x3*x3 + 2*L*M*x3*x2 + 2*M*M*x3*x2 + 2*L*m*x3*x2 - 2*M*m*x3*x2 - 4*m*m*x3*x2 - L*M*x2*x2 - M*M*x2*x2 - L*m*x2*x2 + M*m*x2*x2 + 2*m*m*x2*x2 + 2*M*x3*y2 + 6*m*x3*y2 - 2*M*y2*x2 - 6*m*y2*x2 + 4*y2*y2) h4 (dc (L*x3*x3 + M*x3*x3 - 2*m*x3*x3 - 2*L*x3*x2 - 2*M*x3*x2 + 4*m*x3*x2 + L*x2*x2 + M*x2*x2 - 2*m*x2*x2 - 2*x3*y2 + 2*y2*x2) h5 (dc (4*m*x3*y2 - 4*m*y2*x2 + 4*y2*y2) h6 (dc (-4*m*x3*y2 + 4*m*y2*x2 - 4*y2*y2) h7 (dc (L*M*x3 + M*M*x3 - 2*L*l*x3 - M*l*x3 - L*m*x3 - 2*M*m*x3 + 3*l*m*x3 + m*m*x3 - L*M*x2 - M*M*x2 + 2*L*l*x2 + M*l*x2 + L*m*x2 + 2*M*m*x2 - 3*l*m*x2 - m*m*x2 - 4*m*y2) h8 (dc (-L*M*x3 - M*M*x3 + 2*L*l*x3 + M*l*x3 + L*m*x3 + 2*M*m*x3 - l*m*x3 + m*m*x3 + L*M*x2 + M*M*x2 - 2*L*l*x2 - M*l*x2 - L*m*x2 - 2*M*m*x2 + l*m*x2 - m*m*x2 - 2*L*y2 - 2*M*y2 + 2*l*y2 + 6*m*y2) h9 (dc (-L*M*l*x3 - M*l*l*x3 + L*M*m*x3 - L*l*m*x3 - l*l*m*x3 - L*m*m*x3 - M*m*m*x3 + m*m*m*x3 + L*M*l*x2 + M*l*l*x2 - L*M*m*x2 + L*l*m*x2 + l*l*m*x2 + L*m*m*x2 + M*m*m*x2 - m*m*m*x2 + L*x1*x3 + M*x1*x3 + 2*L*x3*x3 - M*x3*x3 - 3*m*x3*x3 + 2*L*L*y2 - 2*M*M*y2 - 2*l*l*y2 + 2*L*m*y2 + 2*M*m*y2 + 2*l*m*y2 - 4*m*m*y2 - L*x1*x2 - M*x1*x2 + L*x3*x2 + M*x3*x2 - 3*L*x2*x2 - 3*M*x2*x2 + 6*m*x2*x2 + 4*x1*y2 - 2*x3*y2 - 2*y2*x2) h10 (dc (-M*l*x3 - M*m*x3 - l*m*x3 - m*m*x3 + M*l*x2 + M*m*x2 + l*m*x2 + m*m*x2 + 2*L*y2 - 2*l*y2) h11 (dc (-L*x3*x3 - M*x3*x3 + 2*m*x3*x3 + 2*L*x3*x2 + 2*M*x3*x2 - 4*m*x3*x2 - L*x2*x2 - M*x2*x2 + 2*m*x2*x2 + 2*x3*y2 - 2*y2*x2) h12 (dc (L*L*M*l*x3 + L*M*l*l*x3 - L*L*M*m*x3 + L*L*l*m*x3 - 2*L*M*l*m*x3 + L*l*l*m*x3 - M*l*l*m*x3 + L*L*m*m*x3 + L*M*m*m*x3 + M*l*m*m*x3 - l*l*m*m*x3 - L*m*m*m*x3 - l*m*m*m*x3 - L*L*M*l*x2 - L*M*l*l*x2 + L*L*M*m*x2 - L*L*l*m*x2 + 2*L*M*l*m*x2 - L*l*l*m*x2 + M*l*l*m*x2 - L*L*m*m*x2 - L*M*m*m*x2 - M*l*m*m*x2 + l*l*m*m*x2 + L*m*m*m*x2 + l*m*m*m*x2 - L*L*x1*x3 - 2*L*M*x1*x3 - M*M*x1*x3 + L*l*x1*x3 + M*l*x1*x3 + L*m*x1*x3 + 3*M*m*x1*x3 - 2*l*m*x1*x3 - 2*L*L*x3*x3 + L*M*x3*x3 - 2*L*l*x3*x3 + 3*L*m*x3*x3 - M*m*x3*x3 + 2*l*m*x3*x3 - m*m*x3*x3 - 2*L*L*L*y2 + 2*L*M*M*y2 + 2*M*M*l*y2 + 2*L*l*l*y2 - 2*L*L*m*y2 - 2*L*M*m*y2 - 4*L*l*m*y2 - 2*M*l*m*y2 - 2*l*l*m*y2 + 4*L*m*m*y2 + 4*l*m*m*y2 + L*L*x1*x2 + 2*L*M*x1*x2 + M*M*x1*x2 - L*l*x1*x2 - M*l*x1*x2 - L*m*x1*x2 - 3*M*m*x1*x2 + 2*l*m*x1*x2 - L*L*x3*x2 + M*M*x3*x2 - 3*L*l*x3*x2 - M*l*x3*x2 - L*m*x3*x2 - M*m*x3*x2 + 4*l*m*x3*x2 + 2*m*m*x3*x2 + 3*L*L*x2*x2 + 2*L*M*x2*x2 - M*M*x2*x2 + 5*L*l*x2*x2 + 4*M*l*x2*x2 - 5*L*m*x2*x2 + 2*M*m*x2*x2 - 9*l*m*x2*x2 - m*m*x2*x2 - 6*L*x1*y2 - 2*l*x1*y2 + 4*m*x1*y2 + 8*L*x3*y2 + 4*M*x3*y2 - 8*m*x3*y2 - 2*L*y2*x2 - 4*M*y2*x2 + 2*l*y2*x2 + 4*m*y2*x2) h13 (dz p))))))))))))))) (by clear h0 h1 h2 h3 h4 h5 h6 h7 h8 h9 h10 h11 h12 h13; grind)
theorem alJ {p y7 x7 y5 x5 yt xt ys xs y1 y3 L M l m x1 x3 y2 x2 : Int} (h0 : p ∣ l*(x1-x2)-(y1-y2)) (h1 : p ∣ m*(x2-x3)-(y2-y3)) (h2 : p ∣ xs-(l*l-x1-x2)) (h3 : p ∣ ys-(l*(x1-xs)-y1)) (h4 : p ∣ xt-(m*m-x2-x3)) (h5 : p ∣ yt-(m*(x2-xt)-y2)) (h6 : p ∣ y5-(L*(xs-x5)-ys)) (h7 : p ∣ x7-(M*M-x1-xt)) (h8 : p ∣ y7-(M*(x1-x7)-y1)) (h9 : p ∣ l*(y1+y2)-(x1*x1+x1*x2+x2*x2)) (h10 : p ∣ m*(y2+y3)-(x2*x2+x2*x3+x3*x3)) (h11 : p ∣ L*(xs-x3)-(ys-y3)) (h12 : p ∣ L*(ys+y3)-(xs*xs+xs*x3+x3*x3)) (h13 : p ∣ M*(x1-xt)-(y1-yt)) (h14 : p ∣ xs-x3) (h15 : p ∣ x5-x7) : p ∣ 4 * (y2*y3) * (y5-y7) :=
  dk (dc (-M*M*M*l*x3 + M*M*l*l*x3 + 2*L*M*l*m*x3 + 2*M*M*l*m*x3 - 4*L*l*l*m*x3 - 4*M*l*l*m*x3 + 4*L*M*m*m*x3 - 2*L*l*m*m*x3 - 2*M*l*m*m*x3 + 2*l*l*m*m*x3 - 2*M*m*m*m*x3 + 2*l*m*m*m*x3 + 2*m*m*m*m*x3 + M*M*M*l*x2 - M*M*l*l*x2 - 2*L*M*l*m*x2 - 2*M*M*l*m*x2 + 4*L*l*l*m*x2 + 4*M*l*l*m*x2 - 4*L*M*m*m*x2 + 2*L*l*m*m*x2 + 2*M*l*m*m*x2 - 2*l*l*m*m*x2 + 2*M*m*m*m*x2 - 2*l*m*m*m*x2 - 2*m*m*m*m*x2 + 2*L*m*x1*x3 + 2*M*m*x1*x3 - M*M*x3*x3 - 2*M*l*x3*x3 + 2*l*l*x3*x3 + 6*L*m*x3*x3 - 8*m*m*x3*x3 + 2*M*M*M*y2 + 2*L*M*l*y2 + 4*L*l*l*y2 + 4*L*M*m*y2 - 2*M*M*m*y2 + 6*L*l*m*y2 - 2*M*l*m*y2 - 4*l*l*m*y2 + 8*L*m*m*y2 - 2*M*m*m*y2 - 6*l*m*m*y2 - 8*m*m*m*y2 - 2*L*m*x1*x2 - 2*M*m*x1*x2 + 2*M*M*x3*x2 + M*l*x3*x2 - l*l*x3*x2 - 2*L*m*x3*x2 - 2*M*m*x3*x2 + 4*m*m*x3*x2 + 2*M*M*x2*x2 + 4*M*l*x2*x2 - l*l*x2*x2 - 4*L*m*x2*x2 - 4*M*m*x2*x2 + 3*l*m*x2*x2 + 4*m*m*x2*x2 - 2*x3*x3*x3 - 6*L*x1*y2 - 2*M*x1*y2 + 6*m*x1*y2 - 2*L*x3*y2 + 4*M*x3*y2 + 2*l*x3*y2 - 2*m*x3*y2 + 3*x3*x3*x2 - 4*L*y2*x2 + 4*M*y2*x2 - 2*l*y2*x2 + 8*m*y2*x2 - 3*x1*x2*x2 + 9*x3*x2*x2 + 2*x2*x2*x2 - 4*y2*y2) h0 (dc (-4*y7*y2 + 4*y5*y2 - M*M*M*m*x3 + 4*L*M*l*m*x3 + 2*M*l*l*m*x3 + 2*L*M*m*m*x3 + M*M*m*m*x3 - 2*M*l*m*m*x3 + 2*l*l*m*m*x3 + 2*L*m*m*m*x3 + 2*l*m*m*m*x3 - 2*m*m*m*m*x3 + M*M*M*m*x2 - 4*L*M*l*m*x2 - 2*M*l*l*m*x2 - 2*L*M*m*m*x2 - M*M*m*m*x2 + 2*M*l*m*m*x2 - 2*l*l*m*m*x2 - 2*L*m*m*m*x2 - 2*l*m*m*m*x2 + 2*m*m*m*m*x2 - 2*L*m*x1*x3 - 2*M*m*x1*x3 - 4*L*m*x3*x3 + 4*m*m*x3*x3 + 4*L*M*M*y2 - 2*M*M*M*y2 + 4*L*M*l*y2 + 2*M*M*l*y2 + 2*M*l*l*y2 + 2*L*M*m*y2 + 8*L*l*m*y2 - 2*M*l*m*y2 + 2*l*l*m*y2 - 2*L*m*m*y2 + 4*M*m*m*y2 - 8*l*m*m*y2 + 2*m*m*m*y2 + 2*L*m*x1*x2 + 2*M*m*x1*x2 - 2*L*m*x3*x2 - M*m*x3*x2 + m*m*x3*x2 - 3*M*M*x2*x2 + 6*L*m*x2*x2 + 10*M*m*x2*x2 - 2*m*m*x2*x2 - 2*L*x1*y2 + 2*M*x1*y2 - 4*l*x1*y2 - 4*m*x1*y2 + 8*L*x3*y2 - 2*M*x3*y2 + 2*l*x3*y2 - 12*m*x3*y2 + 6*L*y2*x2 - 6*M*y2*x2 + 2*l*y2*x2 - 2*m*y2*x2 + 3*x1*x2*x2 - 6*x3*x2*x2 - 6*x2*x2*x2) h1 (dc (-2*xs*M*l*m*x3 - 2*xs*M*m*m*x3 - 2*xs*l*m*m*x3 - 2*xs*m*m*m*x3 + 2*xs*M*l*m*x2 + 2*xs*M*m*m*x2 + 2*xs*l*m*m*x2 + 2*xs*m*m*m*x2 - 2*xs*M*M*y2 - 2*xs*M*l*y2 - 2*xs*M*m*y2 - 2*xs*l*m*y2 + 4*xs*x1*y2 - 2*xs*x3*y2 - 2*xs*y2*x2 - M*M*M*x1*x3 + M*M*l*x1*x3 + 2*L*M*m*x1*x3 + 2*M*M*m*x1*x3 - 4*L*l*m*x1*x3 - 2*M*l*m*x1*x3 - 2*L*m*m*x1*x3 - 2*M*m*m*x1*x3 + 4*l*m*m*x1*x3 + 2*m*m*m*x1*x3 + M*M*M*x1*x2 - M*M*l*x1*x2 - 2*L*M*m*x1*x2 - 2*M*M*m*x1*x2 + 4*L*l*m*x1*x2 + 2*M*l*m*x1*x2 + 2*L*m*m*x1*x2 + 2*M*m*m*x1*x2 - 4*l*m*m*x1*x2 - 2*m*m*m*x1*x2 + M*M*M*x3*x2 - M*M*l*x3*x2 - 2*L*M*m*x3*x2 - 2*M*M*m*x3*x2 + 4*L*l*m*x3*x2 + 4*M*l*m*x3*x2 + 2*L*m*m*x3*x2 + 4*M*m*m*x3*x2 - 2*l*m*m*x3*x2 - M*M*M*x2*x2 + M*M*l*x2*x2 + 2*L*M*m*x2*x2 + 2*M*M*m*x2*x2 - 4*L*l*m*x2*x2 - 4*M*l*m*x2*x2 - 2*L*m*m*x2*x2 - 4*M*m*m*x2*x2 + 2*l*m*m*x2*x2 - 2*M*x1*x3*x3 + 2*l*x1*x3*x3 + 2*L*M*x1*y2 + 2*M*M*x1*y2 + 4*L*l*x1*y2 + 2*M*l*x1*y2 + 6*L*m*x1*y2 - 2*M*m*x1*y2 - 2*l*m*x1*y2 - 8*m*m*x1*y2 + 2*M*M*x3*y2 - 8*L*m*x3*y2 - 8*M*m*x3*y2 + 4*m*m*x3*y2 + M*x1*x3*x2 - l*x1*x3*x2 + 2*M*x3*x3*x2 - 2*l*x3*x3*x2 - 2*L*M*y2*x2 - 2*M*M*y2*x2 - 4*L*l*y2*x2 + 2*L*m*y2*x2 + 12*M*m*y2*x2 + 4*l*m*y2*x2 + 4*m*m*y2*x2 + 4*M*x1*x2*x2 - l*x1*x2*x2 + 3*m*x1*x2*x2 - M*x3*x2*x2 + l*x3*x2*x2 - 4*M*x2*x2*x2 + l*x2*x2*x2 - 3*m*x2*x2*x2 - 4*x1*x1*y2 + 4*x1*x3*y2 + 4*x3*x3*y2 + 8*L*y2*y2 - 8*m*y2*y2 - 4*x3*y2*x2) h2 (dc (-2*M*l*l*m*x3 + 4*L*M*m*m*x3 - 2*l*l*m*m*x3 - 2*M*m*m*m*x3 + 2*m*m*m*m*x3 + 2*M*l*l*m*x2 - 4*L*M*m*m*x2 + 2*l*l*m*m*x2 + 2*M*m*m*m*x2 - 2*m*m*m*m*x2 + 2*L*m*x1*x3 + 2*M*m*x1*x3 + 4*L*m*x3*x3 - 2*M*m*x3*x3 - 6*m*m*x3*x3 + 2*M*M*M*y2 - 2*M*M*l*y2 - 2*M*l*l*y2 + 4*L*M*m*y2 - 2*M*M*m*y2 - 2*l*l*m*y2 + 8*L*m*m*y2 - 2*M*m*m*y2 + 2*l*m*m*y2 - 8*m*m*m*y2 - 2*L*m*x1*x2 - 2*M*m*x1*x2 + 2*L*m*x3*x2 + 2*M*m*x3*x2 + 3*M*M*x2*x2 - 6*L*m*x2*x2 - 6*M*m*x2*x2 + 6*m*m*x2*x2 - 6*L*x1*y2 - 2*M*x1*y2 + 4*l*x1*y2 + 6*m*x1*y2 - 4*L*x3*y2 + 2*M*x3*y2 - 2*l*x3*y2 + 4*m*x3*y2 - 2*L*y2*x2 + 6*M*y2*x2 - 2*l*y2*x2 + 2*m*y2*x2 - 3*x1*x2*x2 + 6*x3*x2*x2 + 6*x2*x2*x2 - 4*y2*y2) h3 (dc (M*M*M*x3*x3 - 2*L*M*m*x3*x3 - M*M*m*x3*x3 - 2*L*m*m*x3*x3 + 2*m*m*m*x3*x3 - 2*M*M*M*x3*x2 + 4*L*M*m*x3*x2 + 2*M*M*m*x3*x2 + 4*L*m*m*x3*x2 - 4*m*m*m*x3*x2 + M*M*M*x2*x2 - 2*L*M*m*x2*x2 - M*M*m*x2*x2 - 2*L*m*m*x2*x2 + 2*m*m*m*x2*x2 + 2*M*x3*x3*x3 + 2*m*x3*x3*x3 - 2*L*M*x3*y2 - 2*M*M*x3*y2 + 2*L*m*x3*y2 - 4*M*m*x3*y2 + 2*m*m*x3*y2 - 3*M*x3*x3*x2 - 3*m*x3*x3*x2 + 2*L*M*y2*x2 + 2*M*M*y2*x2 - 2*L*m*y2*x2 + 4*M*m*y2*x2 - 2*m*m*y2*x2 - 3*M*x3*x2*x2 - 3*m*x3*x2*x2 + 4*M*x2*x2*x2 + 4*m*x2*x2*x2 + 4*L*y2*y2 - 8*M*y2*y2 - 4*m*y2*y2) h4 (dc (-M*M*x3*x3 + 2*L*m*x3*x3 + 2*M*m*x3*x3 - 2*m*m*x3*x3 + 2*M*M*x3*x2 - 4*L*m*x3*x2 - 4*M*m*x3*x2 + 4*m*m*x3*x2 - M*M*x2*x2 + 2*L*m*x2*x2 + 2*M*m*x2*x2 - 2*m*m*x2*x2 - 2*x3*x3*x3 + 2*L*x3*y2 + 2*M*x3*y2 - 2*m*x3*y2 + 3*x3*x3*x2 - 2*L*y2*x2 - 2*M*y2*x2 + 2*m*y2*x2 + 3*x3*x2*x2 - 4*x2*x2*x2 + 4*y2*y2) h5 (dc (4*m*x3*y2 - 4*m*y2*x2 + 4*y2*y2) h6 (dc (-4*L*m*x3*y2 + 4*M*m*x3*y2 + 4*L*m*y2*x2 - 4*M*m*y2*x2 - 4*L*y2*y2 + 4*M*y2*y2) h7 (dc (-4*m*x3*y2 + 4*m*y2*x2 - 4*y2*y2) h8 (dc (-M*M*M*x3 + M*M*l*x3 + 2*L*M*m*x3 + 2*M*M*m*x3 - 4*L*l*m*x3 - 2*M*l*m*x3 - 2*L*m*m*x3 - 2*M*m*m*x3 + 4*l*m*m*x3 + 2*m*m*m*x3 + M*M*M*x2 - M*M*l*x2 - 2*L*M*m*x2 - 2*M*M*m*x2 + 4*L*l*m*x2 + 2*M*l*m*x2 + 2*L*m*m*x2 + 2*M*m*m*x2 - 4*l*m*m*x2 - 2*m*m*m*x2 - 2*M*x3*x3 + 2*l*x3*x3 + 2*L*M*y2 + 2*M*M*y2 + 4*L*l*y2 + 2*M*l*y2 + 6*L*m*y2 - 2*M*m*y2 - 2*l*m*y2 - 8*m*m*y2 + M*x3*x2 - l*x3*x2 + 4*M*x2*x2 - l*x2*x2 + 3*m*x2*x2 - 4*x1*y2 + 4*x3*y2) h9 (dc (M*M*M*x3 - 2*L*M*m*x3 - M*M*m*x3 + 4*L*l*m*x3 + 2*M*l*m*x3 + 2*L*m*m*x3 + 2*M*m*m*x3 - 2*l*m*m*x3 - M*M*M*x2 + 2*L*M*m*x2 + M*M*m*x2 - 4*L*l*m*x2 - 2*M*l*m*x2 - 2*L*m*m*x2 - 2*M*m*m*x2 + 2*l*m*m*x2 + 2*M*x3*x3 + 2*m*x3*x3 - 2*L*M*y2 + 2*M*M*y2 - 4*L*l*y2 + 2*M*l*y2 - 6*L*m*y2 - 2*M*m*y2 + 6*l*m*y2 + 6*m*m*y2 - M*x3*x2 - m*x3*x2 - 4*M*x2*x2 - 4*m*x2*x2 - 2*x1*y2 + 4*x3*y2 + 4*y2*x2) h10 (dc (-2*L*M*l*m*x3 - 2*M*l*l*m*x3 + 2*L*M*m*m*x3 - 2*L*l*m*m*x3 - 2*l*l*m*m*x3 - 2*L*m*m*m*x3 - 2*M*m*m*m*x3 + 2*m*m*m*m*x3 + 2*L*M*l*m*x2 + 2*M*l*l*m*x2 - 2*L*M*m*m*x2 + 2*L*l*m*m*x2 + 2*l*l*m*m*x2 + 2*L*m*m*m*x2 + 2*M*m*m*m*x2 - 2*m*m*m*m*x2 + 2*L*m*x1*x3 + 2*M*m*x1*x3 + 4*L*m*x3*x3 - 2*M*m*x3*x3 - 6*m*m*x3*x3 - 2*L*M*M*y2 + 2*M*M*M*y2 - 2*L*M*l*y2 - 2*M*M*l*y2 - 2*M*l*l*y2 + 2*L*M*m*y2 - 2*M*M*m*y2 - 2*L*l*m*y2 - 2*l*l*m*y2 + 8*L*m*m*y2 - 2*M*m*m*y2 + 2*l*m*m*y2 - 8*m*m*m*y2 - 2*L*m*x1*x2 - 2*M*m*x1*x2 + 2*L*m*x3*x2 + 2*M*m*x3*x2 + 3*M*M*x2*x2 - 6*L*m*x2*x2 - 6*M*m*x2*x2 + 6*m*m*x2*x2 - 2*L*x1*y2 - 2*M*x1*y2 + 4*l*x1*y2 + 6*m*x1*y2 - 6*L*x3*y2 + 2*M*x3*y2 - 2*l*x3*y2 + 8*m*x3*y2 - 4*L*y2*x2 + 6*M*y2*x2 - 2*l*y2*x2 - 2*m*y2*x2 - 3*x1*x2*x2 + 6*x3*x2*x2 + 6*x2*x2*x2) h11 (dc (-2*M*l*m*x3 - 2*M*m*m*x3 - 2*l*m*m*x3 - 2*m*m*m*x3 + 2*M*l*m*x2 + 2*M*m*m*x2 + 2*l*m*m*x2 + 2*m*m*m*x2 - 2*M*M*y2 - 2*M*l*y2 - 2*M*m*y2 - 2*l*m*y2 + 4*x1*y2 - 2*x3*y2 - 2*y2*x2) h12 (dc (M*M*x3*x3 - 2*L*m*x3*x3 - 2*M*m*x3*x3 + 2*m*m*x3*x3 - 2*M*M*x3*x2 + 4*L*m*x3*x2 + 4*M*m*x3*x2 - 4*m*m*x3*x2 + M*M*x2*x2 - 2*L*m*x2*x2 - 2*M*m*x2*x2 + 2*m*m*x2*x2 + 2*x3*x3*x3 - 2*L*x3*y2 - 2*M*x3*y2 + 2*m*x3*y2 - 3*x3*x3*x2 + 2*L*y2*x2 + 2*M*y2*x2 - 2*m*y2*x2 - 3*x3*x2*x2 + 4*x2*x2*x2 - 4*y2*y2) h13 (dc (2*L*L*M*l*m*x3 + 2*L*M*l*l*m*x3 - 2*L*L*M*m*m*x3 + 2*L*L*l*m*m*x3 - 4*L*M*l*m*m*x3 + 2*L*l*l*m*m*x3 - 2*M*l*l*m*m*x3 + 2*L*L*m*m*m*x3 + 2*L*M*m*m*m*x3 + 2*M*l*m*m*m*x3 - 2*l*l*m*m*m*x3 - 2*L*m*m*m*m*x3 - 2*l*m*m*m*m*x3 - 2*L*L*M*l*m*x2 - 2*L*M*l*l*m*x2 + 2*L*L*M*m*m*x2 - 2*L*L*l*m*m*x2 + 4*L*M*l*m*m*x2 - 2*L*l*l*m*m*x2 + 2*M*l*l*m*m*x2 - 2*L*L*m*m*m*x2 - 2*L*M*m*m*m*x2 - 2*M*l*m*m*m*x2 + 2*l*l*m*m*m*x2 + 2*L*m*m*m*m*x2 + 2*l*m*m*m*m*x2 + M*M*M*x1*x3 - M*M*l*x1*x3 - 2*L*L*m*x1*x3 - 4*L*M*m*x1*x3 - 2*M*M*m*x1*x3 + 2*L*l*m*x1*x3 + 2*M*l*m*x1*x3 + 2*L*m*m*x1*x3 + 4*M*m*m*x1*x3 - 2*l*m*m*x1*x3 - 4*L*L*m*x3*x3 + 2*L*M*m*x3*x3 - 4*L*l*m*x3*x3 + 6*L*m*m*x3*x3 - 2*M*m*m*x3*x3 + 4*l*m*m*x3*x3 - 2*m*m*m*x3*x3 + 2*L*L*M*M*y2 - 2*L*M*M*M*y2 + 2*L*L*M*l*y2 + 2*L*M*M*l*y2 - 2*M*M*M*l*y2 + 2*L*M*l*l*y2 - 2*L*L*M*m*y2 + 2*L*M*M*m*y2 + 2*L*L*l*m*y2 - 4*L*M*l*m*y2 + 2*M*M*l*m*y2 + 2*L*l*l*m*y2 - 2*M*l*l*m*y2 - 8*L*L*m*m*y2 + 2*L*M*m*m*y2 - 10*L*l*m*m*y2 + 2*M*l*m*m*y2 - 2*l*l*m*m*y2 + 8*L*m*m*m*y2 + 8*l*m*m*m*y2 - M*M*M*x1*x2 + M*M*l*x1*x2 + 2*L*L*m*x1*x2 + 4*L*M*m*x1*x2 + 2*M*M*m*x1*x2 - 2*L*l*m*x1*x2 - 2*M*l*m*x1*x2 - 2*L*m*m*x1*x2 - 4*M*m*m*x1*x2 + 2*l*m*m*x1*x2 - M*M*M*x3*x2 + M*M*l*x3*x2 - 2*L*L*m*x3*x2 + 2*M*M*m*x3*x2 - 6*L*l*m*x3*x2 - 2*M*l*m*x3*x2 - 2*L*m*m*x3*x2 + 6*l*m*m*x3*x2 + 4*m*m*m*x3*x2 - 3*L*M*M*x2*x2 + M*M*M*x2*x2 - 4*M*M*l*x2*x2 + 6*L*L*m*x2*x2 + 4*L*M*m*x2*x2 - 2*M*M*m*x2*x2 + 10*L*l*m*x2*x2 + 8*M*l*m*x2*x2 - 4*L*m*m*x2*x2 + 2*M*m*m*x2*x2 - 10*l*m*m*x2*x2 - 2*m*m*m*x2*x2 + 2*M*x1*x3*x3 - 2*l*x1*x3*x3 + 2*L*L*x1*y2 - 2*L*l*x1*y2 + 2*M*l*x1*y2 - 12*L*m*x1*y2 + 4*M*m*x1*y2 - 2*l*m*x1*y2 + 8*m*m*x1*y2 + 6*L*L*x3*y2 - 2*L*M*x3*y2 - 4*M*M*x3*y2 + 6*L*l*x3*y2 - 4*M*l*x3*y2 + 4*L*m*x3*y2 + 6*M*m*x3*y2 - 6*l*m*x3*y2 - 4*m*m*x3*y2 - M*x1*x3*x2 + l*x1*x3*x2 - 2*M*x3*x3*x2 + 2*l*x3*x3*x2 + 4*L*L*y2*x2 - 4*L*M*y2*x2 + 4*M*M*y2*x2 + 8*L*l*y2*x2 - 4*M*l*y2*x2 - 4*L*m*y2*x2 - 10*M*m*y2*x2 - 4*l*m*y2*x2 - 4*m*m*y2*x2 + 3*L*x1*x2*x2 - 4*M*x1*x2*x2 + 4*l*x1*x2*x2 - 3*m*x1*x2*x2 - 6*L*x3*x2*x2 + M*x3*x2*x2 - 7*l*x3*x2*x2 - 6*L*x2*x2*x2 + 4*M*x2*x2*x2 - 7*l*x2*x2*x2 + 3*m*x2*x2*x2 + 2*x1*x3*y2 - 6*x3*x3*y2 - 4*L*y2*y2 + 4*l*y2*y2 + 8*m*y2*y2 - 2*x1*y2*x2 + 4*x3*y2*x2 + 2*y2*x2*x2) h14 (dc (-4*L*m*x3*y2 + 4*L*m*y2*x2 - 4*L*y2*y2) h15 (dz p))))))))))))))))) (by clear h0 h1 h2 h3 h4 h5 h6 h7 h8 h9 h10 h11 h12 h13 h14 h15; grind)
end Go.Proofs.Ytkedomfjjahjnaa

namespace Go.Proofs.Ytkedomfjjahjnaa
theorem Pr.dD {p : Nat} (h : Pr p) {a b : Int} (hd : (p : Int) ∣ a * b) : (p : Int) ∣ a ∨ (p : Int) ∣ b := by
  rw [Int.ofNat_dvd_left, Int.natAbs_mul] at hd
  rcases h.SY hd with h1 | h1
  · exact .inl (Int.ofNat_dvd_left.2 h1)
  · exact .inr (Int.ofNat_dvd_left.2 h1)
def nm (p : Nat) (z : Int) : Nat := (z % (p : Int)).toNat
theorem ZY {p : Nat} (hp : 0 < p) (z : Int) : ((nm p z : Nat) : Int) = z % (p : Int) := by
  unfold nm
  have := Int.emod_nonneg z (show (p : Int) ≠ 0 by omega)
  omega
theorem m4 {p : Nat} (hp : 0 < p) (z : Int) : (p : Int) ∣ ((nm p z : Nat) : Int) - z := by
  rw [ZY hp]
  have := Int.emod_add_mul_ediv z p
  exact ⟨-(z / p), by grind⟩
theorem AB {p : Nat} (hp : 0 < p) (z : Int) : nm p z < p := by
  have h := ZY hp z
  have := Int.emod_lt_of_pos z (show (0 : Int) < p by omega)
  omega
theorem fo {p a b : Nat} (ha : a < p) (hb : b < p) (h : (p : Int) ∣ (a : Int) - (b : Int)) : a = b := by
  obtain ⟨k, hk⟩ := h
  have hpk : (p : Int) * k < p * 1 ∧ (p : Int) * (-1) < p * k := by constructor <;> omega
  have h1 := Int.lt_of_mul_lt_mul_left hpk.1 (by omega)
  have h2 := Int.lt_of_mul_lt_mul_left hpk.2 (by omega)
  have : k = 0 := by omega
  subst this
  omega
theorem ZX {p a : Nat} {z : Int} (ha : a < p) (h : (p : Int) ∣ (a : Int) - z) : nm p z = a := by
  have hp : 0 < p := by omega
  refine fo (AB hp z) ha ?_
  obtain ⟨k, hk⟩ := h
  obtain ⟨k2, h2⟩ := m4 hp z
  exact ⟨k2 - k, by grind⟩
def aj2 (p : Nat) (a : Int) : Int := ((nm p a ^ (p - 2) : Nat) : Int)
theorem aaG {p : Nat} (h : Pr p) {a : Int} (ha : ¬ (p : Int) ∣ a) : (p : Int) ∣ a * aj2 p a - 1 := by
  have hp := h.pos
  have h2 := h.1
  obtain ⟨k, hk⟩ := m4 hp a
  have hn : ¬ p ∣ nm p a := fun hd => by
    obtain ⟨c, hc⟩ := Int.natCast_dvd_natCast.2 hd
    exact ha ⟨c - k, by grind⟩
  have hf := SO h hn
  have e : nm p a ^ (p - 1) = nm p a * nm p a ^ (p - 2) := by
    rw [show p - 1 = (p - 2) + 1 by omega, Nat.pow_succ, Nat.mul_comm]
  rw [e] at hf
  have hd := Nat.div_add_mod (nm p a * nm p a ^ (p - 2)) p
  rw [hf] at hd
  unfold aj2
  generalize nm p a ^ (p - 2) = i at *
  have hd2 : ((p : Nat) : Int) * ((nm p a * i / p : Nat) : Int) + 1 = (nm p a : Int) * (i : Int) := by
    have := congrArg (fun n : Nat => (n : Int)) hd
    simp only [Int.natCast_add, Int.natCast_mul] at this
    exact this
  exact ⟨((nm p a * i / p : Nat) : Int) - k * i, by grind⟩
structure Cur (p b : Nat) : Prop where
  pr : Pr p
  big : 5 ≤ p
  n2 : ∀ x : Int, ¬ (p : Int) ∣ x * x * x + b
theorem Cur.pos {p b : Nat} (c : Cur p b) : 0 < p := c.pr.pos
theorem Cur.no2 {p b : Nat} (c : Cur p b) : ¬ (p : Int) ∣ 2 := fun h => by
  have := Int.le_of_dvd (by decide) h
  have := c.big
  omega
theorem Cur.no4 {p b : Nat} (c : Cur p b) : ¬ (p : Int) ∣ 4 := fun h => by
  have := Int.le_of_dvd (by decide) h
  have := c.big
  omega
abbrev Cv (p b : Nat) (x y : Int) : Prop := (p : Int) ∣ y * y - x * x * x - b
theorem Cur.yne {p b : Nat} (c : Cur p b) {x y : Int} (h : Cv p b x y) : ¬ (p : Int) ∣ y := fun hy => by
  obtain ⟨k, hk⟩ := h
  obtain ⟨m, hm⟩ := hy
  exact c.n2 x ⟨m * y - k, by grind⟩
abbrev PtQ : Type := Option (Nat × Nat)
def OnQ (p b : Nat) : PtQ → Prop
  | none => True
  | some P => P.1 < p ∧ P.2 < p ∧ Cv p b P.1 P.2
structure Lin (p : Nat) (x1 y1 x2 y2 l : Int) : Prop where
  a : (p : Int) ∣ l * (x1 - x2) - (y1 - y2)
  b : (p : Int) ∣ l * (y1 + y2) - (x1 * x1 + x1 * x2 + x2 * x2)
structure Thd (p : Nat) (x1 y1 x2 l x3 y3 : Int) : Prop where
  x : (p : Int) ∣ x3 - (l * l - x1 - x2)
  y : (p : Int) ∣ y3 - (l * (x1 - x3) - y1)
def mX (p : Nat) (P R : Nat × Nat) : Int := if P.1 = R.1 then 3 * P.1 * P.1 * aj2 p (P.2 + P.2) else ((R.2 : Int) - P.2) * aj2 p ((R.1 : Int) - P.1)
def qx (p : Nat) (P R : Nat × Nat) (l : Int) : Nat × Nat := (nm p (l * l - P.1 - R.1), nm p (l * (P.1 - nm p (l * l - P.1 - R.1)) - P.2))
def cF (p : Nat) : PtQ → PtQ → PtQ
  | none, R => R
  | some P, none => some P
  | some P, some R => if P.1 = R.1 ∧ P.2 ≠ R.2 then none else some (qx p P R (mX p P R))
def GO (p : Nat) : PtQ → PtQ
  | none => none
  | some P => some (P.1, nm p (-P.2))
variable {p b : Nat}
theorem I3 (c : Cur p b) {P R : Nat × Nat} (hP : OnQ p b (some P)) (hR : OnQ p b (some R)) (h : ¬(P.1 = R.1 ∧ P.2 ≠ R.2)) : Lin p P.1 P.2 R.1 R.2 (mX p P R) := by
  obtain ⟨x1, y1⟩ := P
  obtain ⟨x2, y2⟩ := R
  obtain ⟨hx1, hy1, hc1⟩ := hP
  obtain ⟨hx2, hy2, hc2⟩ := hR
  dsimp only at *
  unfold mX
  dsimp only
  by_cases e : x1 = x2
  · have e2 : y1 = y2 := Classical.byContradiction fun h2 => h ⟨e, h2⟩
    subst e e2
    rw [if_pos rfl]
    have hn : ¬ (p : Int) ∣ (y1 : Int) + y1 := fun hd => by
      rw [← Int.two_mul] at hd
      rcases c.pr.dD hd with h1 | h1
      · exact c.no2 h1
      · exact c.yne hc1 h1
    obtain ⟨k, hk⟩ := aaG c.pr hn
    generalize aj2 p ((y1 : Int) + y1) = i at *
    exact ⟨⟨0, by grind⟩, ⟨3 * x1 * x1 * k, by grind⟩⟩
  · rw [if_neg e]
    have hn : ¬ (p : Int) ∣ (x2 : Int) - x1 := fun hd => e (fo hx2 hx1 hd).symm
    have hn' : ¬ (p : Int) ∣ (x1 : Int) - x2 := fun ⟨k, hk⟩ => hn ⟨-k, by grind⟩
    obtain ⟨k, hk⟩ := aaG c.pr hn
    generalize aj2 p ((x2 : Int) - x1) = i at *
    have ha : (p : Int) ∣ ((y2 : Int) - y1) * i * ((x1 : Int) - x2) - (y1 - y2) := ⟨(y1 - y2) * k, by grind⟩
    refine ⟨ha, ?_⟩
    have hc1' : (p : Int) ∣ (y1 : Int) * y1 - x1 * x1 * x1 - b := hc1
    have hc2' : (p : Int) ∣ (y2 : Int) * y2 - x2 * x2 * x2 - b := hc2
    rcases c.pr.dD (ab3 hc1' hc2' ha) with h1 | h1
    · exact absurd h1 hn'
    · exact h1
theorem aeJ (c : Cur p b) {x1 y1 x2 y2 l m : Int} (hy : ¬ (p : Int) ∣ y1) (h1 : Lin p x1 y1 x2 y2 l) (h2 : Lin p x1 y1 x2 y2 m) : (p : Int) ∣ l - m := by
  obtain ⟨k1, e1⟩ := h1.a
  obtain ⟨k2, e2⟩ := h2.a
  obtain ⟨k3, e3⟩ := h1.b
  obtain ⟨k4, e4⟩ := h2.b
  rcases c.pr.dD (a := l - m) (b := x1 - x2) ⟨k1 - k2, by grind⟩ with h | h
  · exact h
  · rcases c.pr.dD (a := l - m) (b := y1 + y2) ⟨k3 - k4, by grind⟩ with h' | h'
    · exact h'
    · obtain ⟨m1, f1⟩ := h
      obtain ⟨m2, f2⟩ := h'
      rcases c.pr.dD (a := 2) (b := y1) ⟨l * m1 - k1 + m2, by grind⟩ with h3 | h3
      · exact absurd h3 c.no2
      · exact absurd h3 hy
theorem Q6 (c : Cur p b) {P R S : Nat × Nat} {l : Int} (hP : OnQ p b (some P)) (hR : OnQ p b (some R)) (hl : Lin p P.1 P.2 R.1 R.2 l) (hS1 : S.1 < p) (hS2 : S.2 < p)
    (ht : Thd p P.1 P.2 R.1 l S.1 S.2) : cF p (some P) (some R) = some S := by
  have hn : ¬(P.1 = R.1 ∧ P.2 ≠ R.2) := fun ⟨e1, e2⟩ => by
    obtain ⟨k, hk⟩ := hl.a
    rw [e1] at hk
    exact e2 (fo hP.2.1 hR.2.1 ⟨-k, by grind⟩)
  have hs := I3 c hP hR hn
  obtain ⟨k, hk⟩ := aeJ c (c.yne hP.2.2) hs hl
  have : cF p (some P) (some R) = some (qx p P R (mX p P R)) := if_neg hn
  rw [this]
  congr 1
  generalize mX p P R = s at *
  obtain ⟨k1, h1⟩ := ht.x
  obtain ⟨k2, h2⟩ := ht.y
  have ex : nm p (s * s - P.1 - R.1) = S.1 := ZX hS1 ⟨k1 - k * (s + l), by grind⟩
  unfold qx
  rw [ex]
  have ey : nm p (s * ((P.1 : Int) - S.1) - P.2) = S.2 := ZX hS2 ⟨k2 - k * (P.1 - S.1), by grind⟩
  rw [ey]
theorem ke (c : Cur p b) {P R S : Nat × Nat} (hP : OnQ p b (some P)) (hR : OnQ p b (some R)) (h : cF p (some P) (some R) = some S) :
    S.1 < p ∧ S.2 < p ∧ ∃ l, Lin p P.1 P.2 R.1 R.2 l ∧ Thd p P.1 P.2 R.1 l S.1 S.2 := by
  by_cases hn : P.1 = R.1 ∧ P.2 ≠ R.2
  · have : cF p (some P) (some R) = none := if_pos hn
    rw [this] at h
    cases h
  · have hs := I3 c hP hR hn
    have : cF p (some P) (some R) = some (qx p P R (mX p P R)) := if_neg hn
    rw [this] at h
    cases h
    exact ⟨AB c.pos _, AB c.pos _, _, hs, m4 c.pos _, m4 c.pos _⟩
theorem xJ (c : Cur p b) {P : PtQ} (h : OnQ p b P) : OnQ p b (GO p P) := by
  cases P with
  | none => trivial
  | some P =>
    obtain ⟨k, hk⟩ := m4 c.pos (-(P.2 : Int))
    obtain ⟨m, hm⟩ := h.2.2
    exact ⟨h.1, AB c.pos _, ⟨m + k * ((nm p (-(P.2 : Int)) : Int) - P.2), by show ((nm p (-(P.2 : Int)) : Nat) : Int) * (nm p (-(P.2 : Int)) : Nat) - (P.1 : Int) * P.1 * P.1 - b = _; grind⟩⟩
theorem fT (c : Cur p b) {P R : PtQ} (hP : OnQ p b P) (hR : OnQ p b R) : OnQ p b (cF p P R) := by
  cases P with
  | none => exact hR
  | some P =>
    cases R with
    | none => exact hP
    | some R =>
      cases h : cF p (some P) (some R) with
      | none => trivial
      | some S =>
        obtain ⟨h1, h2, l, hl, ht⟩ := ke c hP hR h
        exact ⟨h1, h2, akr ht.y ht.x hl.a hl.b hP.2.2⟩
theorem ZT (c : Cur p b) {P R : Nat × Nat} (hP : OnQ p b (some P)) (hR : OnQ p b (some R)) (h : P.1 = R.1 ∧ P.2 ≠ R.2) : some R = GO p (some P) := by
  obtain ⟨x1, y1⟩ := P
  obtain ⟨x2, y2⟩ := R
  obtain ⟨hx1, hy1, hc1⟩ := hP
  obtain ⟨hx2, hy2, hc2⟩ := hR
  dsimp only at *
  obtain ⟨rfl, hne⟩ := h
  obtain ⟨k1, e1⟩ := hc1
  obtain ⟨k2, e2⟩ := hc2
  rcases c.pr.dD (a := (y1 : Int) - y2) (b := (y1 : Int) + y2) ⟨k1 - k2, by grind⟩ with h | h
  · exact absurd (fo hy1 hy2 h) hne
  · obtain ⟨k, hk⟩ := h
    have : nm p (-(y1 : Int)) = y2 := ZX hy2 ⟨k, by grind⟩
    show _ = some (x1, nm p (-(y1 : Int)))
    rw [this]
theorem bR (P : PtQ) : cF p P none = P := by cases P <;> rfl
theorem RQ (P : PtQ) : cF p none P = P := rfl
theorem add_neg (c : Cur p b) {P : PtQ} (hP : OnQ p b P) : cF p P (GO p P) = none := by
  cases P with
  | none => rfl
  | some P =>
    refine if_pos ⟨rfl, fun e => ?_⟩
    have e : P.2 = nm p (-(P.2 : Int)) := e
    obtain ⟨k, hk⟩ := m4 c.pos (-(P.2 : Int))
    rw [← e] at hk
    rcases c.pr.dD (a := 2) (b := (P.2 : Int)) ⟨k, by grind⟩ with h | h
    · exact c.no2 h
    · exact c.yne hP.2.2 h
theorem neg_neg (c : Cur p b) {P : PtQ} (hP : OnQ p b P) : GO p (GO p P) = P := by
  cases P with
  | none => rfl
  | some P =>
    obtain ⟨k, hk⟩ := m4 c.pos (-(P.2 : Int))
    have : nm p (-((nm p (-(P.2 : Int)) : Nat) : Int)) = P.2 := ZX hP.2.1 ⟨k, by grind⟩
    show some (P.1, nm p (-((nm p (-(P.2 : Int)) : Nat) : Int))) = _
    rw [this]
theorem add_comm (c : Cur p b) {P R : PtQ} (hP : OnQ p b P) (hR : OnQ p b R) : cF p P R = cF p R P := by
  cases P with
  | none => exact (bR R).symm
  | some P =>
    cases R with
    | none => rfl
    | some R =>
      cases h : cF p (some P) (some R) with
      | none =>
        by_cases hn : P.1 = R.1 ∧ P.2 ≠ R.2
        · exact (if_pos ⟨hn.1.symm, fun e => hn.2 e.symm⟩).symm
        · have : cF p (some P) (some R) = some (qx p P R (mX p P R)) := if_neg hn
          rw [this] at h
          cases h
      | some S =>
        obtain ⟨h1, h2, l, hl, ht⟩ := ke c hP hR h
        obtain ⟨k1, e1⟩ := hl.a
        obtain ⟨k2, e2⟩ := hl.b
        obtain ⟨k3, e3⟩ := ht.x
        exact (Q6 c hR hP (l := l) ⟨⟨-k1, by grind⟩, ⟨k2, by grind⟩⟩ h1 h2 ⟨⟨k3, by grind⟩, agG ht.y hl.a⟩).symm
theorem amg {p l x1 x2 y1 y2 z1 z2 k2 k5 k6 : Int} (e2 : l * (y1 + y2) - (x1 * x1 + x1 * x2 + x2 * x2) = p * k2) (e5 : z1 - -y1 = p * k5) (e6 : z2 - -y2 = p * k6) :
    -l * (z1 + z2) - (x1 * x1 + x1 * x2 + x2 * x2) = p * (k2 - l * (k5 + k6)) := by grind
theorem alF {p l x1 x3 y1 y3 z1 k2 k5 : Int} (e2 : -l * (-y1 + y3) - (x1 * x1 + x1 * x3 + x3 * x3) = p * k2) (e5 : z1 - -y1 = p * k5) :
    -l * (z1 + y3) - (x1 * x1 + x1 * x3 + x3 * x3) = p * (k2 - l * k5) := by grind
theorem neg_add (c : Cur p b) {P R : PtQ} (hP : OnQ p b P) (hR : OnQ p b R) : GO p (cF p P R) = cF p (GO p P) (GO p R) := by
  cases P with
  | none => rfl
  | some P =>
    cases R with
    | none => rfl
    | some R =>
      have hP' := xJ c hP
      have hR' := xJ c hR
      obtain ⟨k5, e5⟩ := m4 c.pos (-(P.2 : Int))
      obtain ⟨k6, e6⟩ := m4 c.pos (-(R.2 : Int))
      cases h : cF p (some P) (some R) with
      | none =>
        by_cases hn : P.1 = R.1 ∧ P.2 ≠ R.2
        · have := ZT c hP hR hn
          rw [this, add_neg c hP']
          rfl
        · have : cF p (some P) (some R) = some (qx p P R (mX p P R)) := if_neg hn
          rw [this] at h
          cases h
      | some S =>
        obtain ⟨h1, h2, l, hl, ht⟩ := ke c hP hR h
        obtain ⟨k1, e1⟩ := hl.a
        obtain ⟨k2, e2⟩ := hl.b
        obtain ⟨k3, e3⟩ := ht.x
        obtain ⟨k4, e4⟩ := ht.y
        obtain ⟨k7, e7⟩ := m4 c.pos (-(S.2 : Int))
        have g1 : Lin p ((P.1 : Nat) : Int) ((nm p (-(P.2 : Int)) : Nat) : Int) ((R.1 : Nat) : Int) ((nm p (-(R.2 : Int)) : Nat) : Int) (-l) :=
          ⟨⟨-k1 - k5 + k6, by grind⟩, ⟨k2 - l * (k5 + k6), amg e2 e5 e6⟩⟩
        have g2 : Thd p ((P.1 : Nat) : Int) ((nm p (-(P.2 : Int)) : Nat) : Int) ((R.1 : Nat) : Int) (-l) ((S.1 : Nat) : Int) ((nm p (-(S.2 : Int)) : Nat) : Int) :=
          ⟨⟨k3, by grind⟩, ⟨-k4 + k7 + k5, by grind⟩⟩
        exact (Q6 c (P := (P.1, nm p (-(P.2 : Int)))) (R := (R.1, nm p (-(R.2 : Int)))) (S := (S.1, nm p (-(S.2 : Int)))) hP' hR' g1 h1 (AB c.pos _) g2).symm
theorem cancel (c : Cur p b) {P R : PtQ} (hP : OnQ p b P) (hR : OnQ p b R) : cF p (GO p P) (cF p P R) = R := by
  cases P with
  | none => rfl
  | some P =>
    have hP' := xJ c hP
    cases R with
    | none =>
      rw [bR, add_comm c hP' hP, add_neg c hP]
    | some R =>
      cases h : cF p (some P) (some R) with
      | none =>
        by_cases hn : P.1 = R.1 ∧ P.2 ≠ R.2
        · rw [bR]
          exact (ZT c hP hR hn).symm
        · have : cF p (some P) (some R) = some (qx p P R (mX p P R)) := if_neg hn
          rw [this] at h
          cases h
      | some S =>
        have hS := fT c hP hR
        rw [h] at hS
        obtain ⟨h1, h2, l, hl, ht⟩ := ke c hP hR h
        obtain ⟨k1, e1⟩ := hl.a
        obtain ⟨k2, e2⟩ := alG ht.y ht.x hl.a hl.b
        obtain ⟨k3, e3⟩ := ht.x
        obtain ⟨k4, e4⟩ := ht.y
        obtain ⟨k5, e5⟩ := m4 c.pos (-(P.2 : Int))
        have g1 : Lin p ((P.1 : Nat) : Int) ((nm p (-(P.2 : Int)) : Nat) : Int) ((S.1 : Nat) : Int) ((S.2 : Nat) : Int) (-l) :=
          ⟨⟨k4 - k5, by grind⟩, ⟨k2 - l * k5, alF e2 e5⟩⟩
        have g2 : Thd p ((P.1 : Nat) : Int) ((nm p (-(P.2 : Int)) : Nat) : Int) ((S.1 : Nat) : Int) (-l) ((R.1 : Nat) : Int) ((R.2 : Nat) : Int) :=
          ⟨⟨k3, by grind⟩, ⟨k1 + k5, by grind⟩⟩
        exact Q6 c (P := (P.1, nm p (-(P.2 : Int)))) hP' hS g1 hR.1 hR.2.1 g2
theorem AA (c : Cur p b) {P R : PtQ} (hP : OnQ p b P) (hR : OnQ p b R) (h : cF p P R = none) : R = GO p P := by
  have := cancel c hP hR
  rw [h, bR] at this
  exact this.symm
theorem GG (c : Cur p b) {u v z : Int} (hu : ¬ (p : Int) ∣ u) (hv : ¬ (p : Int) ∣ v) (h : (p : Int) ∣ u * v * z) : (p : Int) ∣ z := by
  rcases c.pr.dD h with h | h
  · rcases c.pr.dD h with h | h
    · exact absurd h hu
    · exact absurd h hv
  · exact h
theorem RN (c : Cur p b) {z : Int} (h : (p : Int) ∣ 4 * z) : (p : Int) ∣ z := (c.pr.dD h).resolve_left c.no4
theorem ZN {X Y : Nat × Nat} (h1 : X.1 = Y.1) (h2 : X.2 = Y.2) : X = Y := by
  obtain ⟨X1, X2⟩ := X
  obtain ⟨Y1, Y2⟩ := Y
  dsimp only at h1 h2
  rw [h1, h2]
theorem FE (c : Cur p b) {P1 P2 P3 S T X Y : Nat × Nat} (h1 : OnQ p b (some P1)) (h2 : OnQ p b (some P2)) (h3 : OnQ p b (some P3)) (hS : cF p (some P1) (some P2) = some S) (hT : cF p (some P2) (some P3) = some T)
    (hX : cF p (some S) (some P3) = some X) (hY : cF p (some P1) (some T) = some Y) (d1 : (p : Int) ∣ (S.1 : Int) - P3.1) : X = Y := by
  have oS := fT c h1 h2
  have oT := fT c h2 h3
  rw [hS] at oS
  rw [hT] at oT
  obtain ⟨hS1, hS2, l, l1, l2⟩ := ke c h1 h2 hS
  obtain ⟨hT1, hT2, m, m1, m2⟩ := ke c h2 h3 hT
  obtain ⟨hX1, hX2, L, L1, L2⟩ := ke c oS h3 hX
  obtain ⟨hY1, hY2, M, M1, M2⟩ := ke c h1 oT hY
  have n2 := c.yne h2.2.2
  have n3 := c.yne h3.2.2
  have hx := GG c n2 n3 (RN c (by rw [← Int.mul_assoc]; exact alK l1.a m1.a l2.x l2.y m2.x m2.y L2.x M2.x l1.b m1.b L1.a L1.b M1.a d1))
  have hy := GG c n2 n3 (RN c (by rw [← Int.mul_assoc]; exact alJ l1.a m1.a l2.x l2.y m2.x m2.y L2.y M2.x M2.y l1.b m1.b L1.a L1.b M1.a d1 hx))
  exact ZN (fo hX1 hY1 hx) (fo hX2 hY2 hy)
theorem add_assoc (c : Cur p b) {P R T : PtQ} (hP : OnQ p b P) (hR : OnQ p b R) (hT : OnQ p b T) : cF p (cF p P R) T = cF p P (cF p R T) := by
  have hPR := fT c hP hR
  have hRT := fT c hR hT
  have nP := xJ c hP
  have nR := xJ c hR
  have nT := xJ c hT
  by_cases hA : cF p P R = none
  · rw [hA, RQ]
    have e := AA c hP hR hA
    have e2 : P = GO p R := by rw [e, neg_neg c hP]
    rw [e2, cancel c hR hT]
  by_cases hB : cF p R T = none
  · rw [hB, bR]
    have e := AA c hR hT hB
    rw [e, add_comm c hPR nR, add_comm c hP hR, cancel c hR hP]
  by_cases hC : cF p (cF p P R) T = none
  · rw [hC]
    have e := AA c hPR hT hC
    rw [e, neg_add c hP hR, add_comm c nP nR]
    have := cancel c nR nP
    rw [neg_neg c hR] at this
    rw [this, add_neg c hP]
  by_cases hD : cF p P (cF p R T) = none
  · rw [hD]
    have e := AA c hRT hP (by rw [add_comm c hRT hP]; exact hD)
    rw [e, neg_add c hR hT]
    have h3 := cancel c nR nT
    rw [neg_neg c hR] at h3
    rw [add_comm c (fT c nR nT) hR, h3, add_comm c nT hT, add_neg c hT]
  cases P with
  | none => rfl
  | some P1 =>
  cases R with
  | none => rw [bR, RQ]
  | some P2 =>
  cases T with
  | none => rw [bR, bR]
  | some P3 =>
  cases hS : cF p (some P1) (some P2) with
  | none => exact absurd hS hA
  | some S =>
  cases hT' : cF p (some P2) (some P3) with
  | none => exact absurd hT' hB
  | some T =>
  rw [hS] at hPR hC
  rw [hT'] at hRT hD
  cases hX : cF p (some S) (some P3) with
  | none => exact absurd hX hC
  | some X =>
  cases hY : cF p (some P1) (some T) with
  | none => exact absurd hY hD
  | some Y =>
  obtain ⟨hS1, hS2, l, l1, l2⟩ := ke c hP hR hS
  obtain ⟨hT1, hT2, m, m1, m2⟩ := ke c hR hT hT'
  obtain ⟨hX1, hX2, L, L1, L2⟩ := ke c hPR hT hX
  obtain ⟨hY1, hY2, M, M1, M2⟩ := ke c hP hRT hY
  congr 1
  by_cases d1 : (p : Int) ∣ (S.1 : Int) - P3.1
  · exact FE c hP hR hT hS hT' hX hY d1
  by_cases d2 : (p : Int) ∣ (P1.1 : Int) - T.1
  · rw [add_comm c hR hT] at hT'
    rw [add_comm c hP hR] at hS
    rw [add_comm c hPR hT] at hX
    rw [add_comm c hP hRT] at hY
    exact (FE c hT hR hP hT' hS hY hX (by obtain ⟨k, hk⟩ := d2; exact ⟨-k, by rw [Int.mul_neg, ← hk]; omega⟩)).symm
  · have hx := GG c d1 d2 (alI l1.a m1.a l2.x l2.y m2.x m2.y L2.x M2.x l1.b m1.b L1.a M1.a)
    have hy := GG c d1 d2 (alH l1.a m1.a l2.x l2.y m2.x m2.y L2.x L2.y M2.x M2.y l1.b m1.b L1.a M1.a hx)
    exact ZN (fo hX1 hY1 hx) (fo hX2 hY2 hy)
end Go.Proofs.Ytkedomfjjahjnaa

namespace Go.Proofs.Ytkedomfjjahjnaa
set_option maxRecDepth 100000
theorem amq {p xs z3 yz x3 s2 mm m b1 s a1 yy Y X l y x z : Int} (h0 : p ∣ xs-(l*l-x-x)) (h1 : p ∣ l*(y+y)-(x*x+x*x+x*x)) (h2 : p ∣ z3-(yz*2)) (h3 : p ∣ yz-(Y*z)) (h4 : p ∣ x3-(mm-s2)) (h5 : p ∣ s2-(s*2)) (h6 : p ∣ mm-(m*m)) (h7 : p ∣ m-(b1*3)) (h8 : p ∣ b1-(X*X)) (h9 : p ∣ s-(a1*4)) (h10 : p ∣ a1-(X*yy)) (h11 : p ∣ yy-(Y*Y)) (h12 : p ∣ X-x*(z*z)) (h13 : p ∣ Y-y*(z*z*z)) : p ∣ (x3-xs*(z3*z3)) :=
  dk (dc (-z3*z3) h0 (dc (-2*Y*l*z*z*z*z*z - 3*x*x*z*z*z*z*z*z*z*z) h1 (dc (-z3*l*l + 2*z3*x - 2*yz*l*l + 4*yz*x) h2 (dc (-4*yz*l*l + 8*yz*x - 4*Y*l*l*z + 8*Y*x*z) h3 (dc (1) h4 (dc (-1) h5 (dc (1) h6 (dc (m + 3*b1) h7 (dc (9*b1 + 9*X*X) h8 (dc (-2) h9 (dc (-8) h10 (dc (-8*X) h11 (dc (-8*Y*Y + 9*X*X*X + 9*X*X*x*z*z + 9*X*x*x*z*z*z*z + 9*x*x*x*z*z*z*z*z*z) h12 (dc (-4*Y*l*l*z*z - 6*l*x*x*z*z*z*z*z) h13 (dz p))))))))))))))) (by clear h0 h1 h2 h3 h4 h5 h6 h7 h8 h9 h10 h11 h12 h13; grind)
theorem amp {p ys xs z3 yz y3 y8 y4 md d x3 s2 mm m b1 s a1 yy Y X l y x z : Int} (h0 : p ∣ ys-(l*(x-xs)-y)) (h1 : p ∣ xs-(l*l-x-x)) (h2 : p ∣ l*(y+y)-(x*x+x*x+x*x)) (h3 : p ∣ z3-(yz*2)) (h4 : p ∣ yz-(Y*z)) (h5 : p ∣ y3-(md-y8)) (h6 : p ∣ y8-(y4*8)) (h7 : p ∣ y4-(yy*yy)) (h8 : p ∣ md-(m*d)) (h9 : p ∣ d-(s-x3)) (h10 : p ∣ x3-(mm-s2)) (h11 : p ∣ s2-(s*2)) (h12 : p ∣ mm-(m*m)) (h13 : p ∣ m-(b1*3)) (h14 : p ∣ b1-(X*X)) (h15 : p ∣ s-(a1*4)) (h16 : p ∣ a1-(X*yy)) (h17 : p ∣ yy-(Y*Y)) (h18 : p ∣ X-x*(z*z)) (h19 : p ∣ Y-y*(z*z*z)) : p ∣ (y3-ys*(z3*z3*z3)) :=
  dk (dc (-z3*z3*z3) h0 (dc (z3*z3*z3*l) h1 (dc (4*Y*Y*l*l*z*z*z*z*z*z - 12*Y*Y*x*z*z*z*z*z*z + 6*Y*l*x*x*z*z*z*z*z*z*z*z*z + 9*x*x*x*x*z*z*z*z*z*z*z*z*z*z*z*z) h2 (dc (z3*z3*l*l*l - 3*z3*z3*l*x + z3*z3*y + 2*z3*yz*l*l*l - 6*z3*yz*l*x + 2*z3*yz*y + 4*yz*yz*l*l*l - 12*yz*yz*l*x + 4*yz*yz*y) h3 (dc (8*yz*yz*l*l*l - 24*yz*yz*l*x + 8*yz*yz*y + 8*yz*Y*l*l*l*z - 24*yz*Y*l*x*z + 8*yz*Y*y*z + 8*Y*Y*l*l*l*z*z - 24*Y*Y*l*x*z*z + 8*Y*Y*y*z*z) h4 (dc (1) h5 (dc (-1) h6 (dc (-8) h7 (dc (1) h8 (dc (m) h9 (dc (-m) h10 (dc (m) h11 (dc (-m) h12 (dc (-m*m - 3*m*b1 - 9*b1*b1 + 3*s) h13 (dc (-27*b1*b1 - 27*b1*X*X + 9*s - 27*X*X*X*X) h14 (dc (9*X*X) h15 (dc (36*X*X) h16 (dc (-8*yy - 8*Y*Y + 36*X*X*X) h17 (dc (36*Y*Y*X*X + 36*Y*Y*X*x*z*z + 36*Y*Y*x*x*z*z*z*z - 27*X*X*X*X*X - 27*X*X*X*X*x*z*z - 27*X*X*X*x*x*z*z*z*z - 27*X*X*x*x*x*z*z*z*z*z*z - 27*X*x*x*x*x*z*z*z*z*z*z*z*z - 27*x*x*x*x*x*z*z*z*z*z*z*z*z*z*z) h18 (dc (-8*Y*Y*Y + 8*Y*Y*l*l*l*z*z*z - 24*Y*Y*l*x*z*z*z + 12*Y*l*l*x*x*z*z*z*z*z*z + 18*l*x*x*x*x*z*z*z*z*z*z*z*z*z) h19 (dz p))))))))))))))))))))) (by clear h0 h1 h2 h3 h4 h5 h6 h7 h8 h9 h10 h11 h12 h13 h14 h15 h16 h17 h18 h19; grind)
theorem amo {p z3 yz Y y z : Int} (h0 : p ∣ z3-(yz*2)) (h1 : p ∣ yz-(Y*z)) (h2 : p ∣ Y-y*(z*z*z)) : p ∣ (z3-2*(y*(z*(z*(z*z))))) :=
  dk (dc (1) h0 (dc (2) h1 (dc (2*z) h2 (dz p)))) (by clear h0 h1 h2; grind)
theorem amC {p h v u qz pz X2 X1 x1 x2 z1 z2 : Int} (h0 : p ∣ h-(v-u)) (h1 : p ∣ v-(X2*pz)) (h2 : p ∣ u-(X1*qz)) (h3 : p ∣ qz-(z2*z2)) (h4 : p ∣ pz-(z1*z1)) (h5 : p ∣ X1-x1*(z1*z1)) (h6 : p ∣ X2-x2*(z2*z2)) : p ∣ (h-(x2-x1)*(z1*z1*(z2*z2))) :=
  dk (dc (1) h0 (dc (1) h1 (dc (-1) h2 (dc (-X1) h3 (dc (X2) h4 (dc (-z2*z2) h5 (dc (z1*z1) h6 (dz p)))))))) (by clear h0 h1 h2 h3 h4 h5 h6; grind)
theorem amB {p r t p3 s q3 qz pz Y2 Y1 y1 y2 z1 z2 : Int} (h0 : p ∣ r-(t-s)) (h1 : p ∣ t-(Y2*p3)) (h2 : p ∣ p3-(pz*z1)) (h3 : p ∣ s-(Y1*q3)) (h4 : p ∣ q3-(qz*z2)) (h5 : p ∣ qz-(z2*z2)) (h6 : p ∣ pz-(z1*z1)) (h7 : p ∣ Y1-y1*(z1*z1*z1)) (h8 : p ∣ Y2-y2*(z2*z2*z2)) : p ∣ (r-(y2-y1)*(z1*z1*z1*(z2*z2*z2))) :=
  dk (dc (1) h0 (dc (1) h1 (dc (Y2) h2 (dc (-1) h3 (dc (-Y1) h4 (dc (-Y1*z2) h5 (dc (Y2*z1) h6 (dc (-z2*z2*z2) h7 (dc (z1*z1*z1) h8 (dz p)))))))))) (by clear h0 h1 h2 h3 h4 h5 h6 h7 h8; grind)
theorem amA {p xs z3 zz x3 c2 rh rr cc hhh hh r t p3 h v s q3 u qz pz Y2 X2 Y1 X1 y2 y1 l x1 x2 z1 z2 : Int} (h0 : p ∣ xs-(l*l-x1-x2)) (h1 : p ∣ l*(x1-x2)-(y1-y2)) (h2 : p ∣ z3-(h*zz)) (h3 : p ∣ zz-(z1*z2)) (h4 : p ∣ x3-(rh-c2)) (h5 : p ∣ c2-(cc*2)) (h6 : p ∣ rh-(rr-hhh)) (h7 : p ∣ rr-(r*r)) (h8 : p ∣ cc-(u*hh)) (h9 : p ∣ hhh-(hh*h)) (h10 : p ∣ hh-(h*h)) (h11 : p ∣ r-(t-s)) (h12 : p ∣ t-(Y2*p3)) (h13 : p ∣ p3-(pz*z1)) (h14 : p ∣ h-(v-u)) (h15 : p ∣ v-(X2*pz)) (h16 : p ∣ s-(Y1*q3)) (h17 : p ∣ q3-(qz*z2)) (h18 : p ∣ u-(X1*qz)) (h19 : p ∣ qz-(z2*z2)) (h20 : p ∣ pz-(z1*z1)) (h21 : p ∣ X1-x1*(z1*z1)) (h22 : p ∣ Y1-y1*(z1*z1*z1)) (h23 : p ∣ X2-x2*(z2*z2)) (h24 : p ∣ Y2-y2*(z2*z2*z2)) : p ∣ (x3-xs*(z3*z3)) :=
  dk (dc (-z3*z3) h0 (dc (Y2*z1*z1*z1*z1*z1*z1*z2*z2*z2 - l*x1*z1*z1*z1*z1*z1*z1*z2*z2*z2*z2*z2*z2 + l*x2*z1*z1*z1*z1*z1*z1*z2*z2*z2*z2*z2*z2 - y1*z1*z1*z1*z1*z1*z1*z2*z2*z2*z2*z2*z2) h1 (dc (-z3*l*l + z3*x1 + z3*x2 - zz*h*l*l + zz*h*x1 + zz*h*x2) h2 (dc (-zz*h*h*l*l + zz*h*h*x1 + zz*h*h*x2 - h*h*l*l*z1*z2 + h*h*x1*z1*z2 + h*h*x2*z1*z2) h3 (dc (1) h4 (dc (-1) h5 (dc (1) h6 (dc (1) h7 (dc (-2) h8 (dc (-1) h9 (dc (-h - 2*u) h10 (dc (r + t - s) h11 (dc (t + p3*Y2 - 2*s) h12 (dc (p3*Y2*Y2 - 2*s*Y2 + pz*Y2*Y2*z1) h13 (dc (-h*h - h*v - h*u - h*l*l*z1*z1*z2*z2 + h*x1*z1*z1*z2*z2 + h*x2*z1*z1*z2*z2 - v*v - v*l*l*z1*z1*z2*z2 + v*x1*z1*z1*z2*z2 + v*x2*z1*z1*z2*z2 + u*u + u*l*l*z1*z1*z2*z2 - u*x1*z1*z1*z2*z2 - u*x2*z1*z1*z2*z2) h14 (dc (-v*v + v*u - v*pz*X2 - v*l*l*z1*z1*z2*z2 + v*x1*z1*z1*z2*z2 + v*x2*z1*z1*z2*z2 + u*u + u*pz*X2 + 2*u*l*l*z1*z1*z2*z2 - 2*u*x1*z1*z1*z2*z2 - 2*u*x2*z1*z1*z2*z2 - pz*pz*X2*X2 - pz*X2*l*l*z1*z1*z2*z2 + pz*X2*x1*z1*z1*z2*z2 + pz*X2*x2*z1*z1*z2*z2) h15 (dc (s + q3*Y1 - 2*pz*Y2*z1) h16 (dc (q3*Y1*Y1 + qz*Y1*Y1*z2 - 2*pz*Y2*Y1*z1) h17 (dc (-u*u - u*qz*X1 + u*pz*X2 - u*l*l*z1*z1*z2*z2 + u*x1*z1*z1*z2*z2 + u*x2*z1*z1*z2*z2 - qz*qz*X1*X1 + qz*pz*X2*X1 - qz*X1*l*l*z1*z1*z2*z2 + qz*X1*x1*z1*z1*z2*z2 + qz*X1*x2*z1*z1*z2*z2 + pz*pz*X2*X2 + 2*pz*X2*l*l*z1*z1*z2*z2 - 2*pz*X2*x1*z1*z1*z2*z2 - 2*pz*X2*x2*z1*z1*z2*z2) h18 (dc (-qz*qz*X1*X1*X1 + qz*pz*X2*X1*X1 + qz*Y1*Y1*z2*z2 - qz*X1*X1*X1*z2*z2 - qz*X1*X1*l*l*z1*z1*z2*z2 + qz*X1*X1*x1*z1*z1*z2*z2 + qz*X1*X1*x2*z1*z1*z2*z2 + pz*pz*X2*X2*X1 - 2*pz*Y2*Y1*z1*z2 + pz*X2*X1*X1*z2*z2 + 2*pz*X2*X1*l*l*z1*z1*z2*z2 - 2*pz*X2*X1*x1*z1*z1*z2*z2 - 2*pz*X2*X1*x2*z1*z1*z2*z2 + Y1*Y1*z2*z2*z2*z2 - X1*X1*X1*z2*z2*z2*z2 - X1*X1*l*l*z1*z1*z2*z2*z2*z2 + X1*X1*x1*z1*z1*z2*z2*z2*z2 + X1*X1*x2*z1*z1*z2*z2*z2*z2) h19 (dc (-pz*pz*X2*X2*X2 + pz*Y2*Y2*z1*z1 - pz*X2*X2*X2*z1*z1 + pz*X2*X2*X1*z2*z2 - pz*X2*X2*l*l*z1*z1*z2*z2 + pz*X2*X2*x1*z1*z1*z2*z2 + pz*X2*X2*x2*z1*z1*z2*z2 + Y2*Y2*z1*z1*z1*z1 - 2*Y2*Y1*z1*z2*z2*z2 - X2*X2*X2*z1*z1*z1*z1 + X2*X2*X1*z1*z1*z2*z2 - X2*X2*l*l*z1*z1*z1*z1*z2*z2 + X2*X2*x1*z1*z1*z1*z1*z2*z2 + X2*X2*x2*z1*z1*z1*z1*z2*z2 + X2*X1*X1*z2*z2*z2*z2 + 2*X2*X1*l*l*z1*z1*z2*z2*z2*z2 - 2*X2*X1*x1*z1*z1*z2*z2*z2*z2 - 2*X2*X1*x2*z1*z1*z2*z2*z2*z2) h20 (dc (X2*X2*z1*z1*z1*z1*z2*z2 + X2*X1*z1*z1*z2*z2*z2*z2 + 2*X2*l*l*z1*z1*z1*z1*z2*z2*z2*z2 - X2*x1*z1*z1*z1*z1*z2*z2*z2*z2 - 2*X2*x2*z1*z1*z1*z1*z2*z2*z2*z2 - X1*X1*z2*z2*z2*z2*z2*z2 - X1*l*l*z1*z1*z2*z2*z2*z2*z2*z2 + X1*x2*z1*z1*z2*z2*z2*z2*z2*z2 - l*l*x1*z1*z1*z1*z1*z2*z2*z2*z2*z2*z2 + x1*x2*z1*z1*z1*z1*z2*z2*z2*z2*z2*z2) h21 (dc (-2*Y2*z1*z1*z1*z2*z2*z2 + Y1*z2*z2*z2*z2*z2*z2 + y1*z1*z1*z1*z2*z2*z2*z2*z2*z2) h22 (dc (-X2*X2*z1*z1*z1*z1*z1*z1 - X2*l*l*z1*z1*z1*z1*z1*z1*z2*z2 + 2*X2*x1*z1*z1*z1*z1*z1*z1*z2*z2 + 2*l*l*x1*z1*z1*z1*z1*z1*z1*z2*z2*z2*z2 - l*l*x2*z1*z1*z1*z1*z1*z1*z2*z2*z2*z2 - x1*x1*z1*z1*z1*z1*z1*z1*z2*z2*z2*z2) h23 (dc (Y2*z1*z1*z1*z1*z1*z1 - l*x1*z1*z1*z1*z1*z1*z1*z2*z2*z2 + l*x2*z1*z1*z1*z1*z1*z1*z2*z2*z2 - y1*z1*z1*z1*z1*z1*z1*z2*z2*z2) h24 (dz p)))))))))))))))))))))))))) (by clear h0 h1 h2 h3 h4 h5 h6 h7 h8 h9 h10 h11 h12 h13 h14 h15 h16 h17 h18 h19 h20 h21 h22 h23 h24; grind)
theorem amz {p ys xs z3 zz y3 sh rd d x3 c2 rh rr cc hhh hh r t p3 h v s q3 u qz pz Y2 X2 Y1 X1 y2 y1 l x1 x2 z1 z2 : Int} (h0 : p ∣ ys-(l*(x1-xs)-y1)) (h1 : p ∣ xs-(l*l-x1-x2)) (h2 : p ∣ l*(x1-x2)-(y1-y2)) (h3 : p ∣ z3-(h*zz)) (h4 : p ∣ zz-(z1*z2)) (h5 : p ∣ y3-(rd-sh)) (h6 : p ∣ sh-(s*hhh)) (h7 : p ∣ rd-(r*d)) (h8 : p ∣ d-(cc-x3)) (h9 : p ∣ x3-(rh-c2)) (h10 : p ∣ c2-(cc*2)) (h11 : p ∣ rh-(rr-hhh)) (h12 : p ∣ rr-(r*r)) (h13 : p ∣ cc-(u*hh)) (h14 : p ∣ hhh-(hh*h)) (h15 : p ∣ hh-(h*h)) (h16 : p ∣ r-(t-s)) (h17 : p ∣ t-(Y2*p3)) (h18 : p ∣ p3-(pz*z1)) (h19 : p ∣ h-(v-u)) (h20 : p ∣ v-(X2*pz)) (h21 : p ∣ s-(Y1*q3)) (h22 : p ∣ q3-(qz*z2)) (h23 : p ∣ u-(X1*qz)) (h24 : p ∣ qz-(z2*z2)) (h25 : p ∣ pz-(z1*z1)) (h26 : p ∣ X1-x1*(z1*z1)) (h27 : p ∣ Y1-y1*(z1*z1*z1)) (h28 : p ∣ X2-x2*(z2*z2)) (h29 : p ∣ Y2-y2*(z2*z2*z2)) : p ∣ (y3-ys*(z3*z3*z3)) :=
  dk (dc (-z3*z3*z3) h0 (dc (z3*z3*z3*l) h1 (dc (-Y2*Y2*z1*z1*z1*z1*z1*z1*z1*z1*z1*z2*z2*z2 + Y2*l*x1*z1*z1*z1*z1*z1*z1*z1*z1*z1*z2*z2*z2*z2*z2*z2 - Y2*l*x2*z1*z1*z1*z1*z1*z1*z1*z1*z1*z2*z2*z2*z2*z2*z2 + 2*Y2*y1*z1*z1*z1*z1*z1*z1*z1*z1*z1*z2*z2*z2*z2*z2*z2 - l*l*x1*x1*z1*z1*z1*z1*z1*z1*z1*z1*z1*z2*z2*z2*z2*z2*z2*z2*z2*z2 + 2*l*l*x1*x2*z1*z1*z1*z1*z1*z1*z1*z1*z1*z2*z2*z2*z2*z2*z2*z2*z2*z2 - l*l*x2*x2*z1*z1*z1*z1*z1*z1*z1*z1*z1*z2*z2*z2*z2*z2*z2*z2*z2*z2 - y1*l*x1*z1*z1*z1*z1*z1*z1*z1*z1*z1*z2*z2*z2*z2*z2*z2*z2*z2*z2 + 2*x1*x1*x1*z1*z1*z1*z1*z1*z1*z1*z1*z1*z2*z2*z2*z2*z2*z2*z2*z2*z2 + y1*l*x2*z1*z1*z1*z1*z1*z1*z1*z1*z1*z2*z2*z2*z2*z2*z2*z2*z2*z2 - 3*x1*x1*x2*z1*z1*z1*z1*z1*z1*z1*z1*z1*z2*z2*z2*z2*z2*z2*z2*z2*z2 + x2*x2*x2*z1*z1*z1*z1*z1*z1*z1*z1*z1*z2*z2*z2*z2*z2*z2*z2*z2*z2 - y1*y1*z1*z1*z1*z1*z1*z1*z1*z1*z1*z2*z2*z2*z2*z2*z2*z2*z2*z2) h2 (dc (z3*z3*l*l*l - 2*z3*z3*l*x1 - z3*z3*l*x2 + z3*z3*y1 + z3*zz*h*l*l*l - 2*z3*zz*h*l*x1 - z3*zz*h*l*x2 + z3*zz*h*y1 + zz*zz*h*h*l*l*l - 2*zz*zz*h*h*l*x1 - zz*zz*h*h*l*x2 + zz*zz*h*h*y1) h3 (dc (zz*zz*h*h*h*l*l*l - 2*zz*zz*h*h*h*l*x1 - zz*zz*h*h*h*l*x2 + zz*zz*h*h*h*y1 + zz*h*h*h*l*l*l*z1*z2 - 2*zz*h*h*h*l*x1*z1*z2 - zz*h*h*h*l*x2*z1*z2 + zz*h*h*h*y1*z1*z2 + h*h*h*l*l*l*z1*z1*z2*z2 - 2*h*h*h*l*x1*z1*z1*z2*z2 - h*h*h*l*x2*z1*z1*z2*z2 + h*h*h*y1*z1*z1*z2*z2) h4 (dc (1) h5 (dc (-1) h6 (dc (1) h7 (dc (r) h8 (dc (-r) h9 (dc (r) h10 (dc (-r) h11 (dc (-r) h12 (dc (3*r) h13 (dc (r - s) h14 (dc (r*h + 3*r*u - h*s) h15 (dc (-r*r - r*t + r*s - t*t + 2*t*s + h*h*h + 3*h*h*u - s*s) h16 (dc (-t*t - t*p3*Y2 + 3*t*s - p3*p3*Y2*Y2 + 3*p3*s*Y2 + h*h*h + 3*h*h*u - 3*s*s) h17 (dc (-p3*p3*Y2*Y2*Y2 + 3*p3*s*Y2*Y2 - p3*pz*Y2*Y2*Y2*z1 + h*h*h*Y2 + 3*h*h*u*Y2 - 3*s*s*Y2 + 3*s*pz*Y2*Y2*z1 - pz*pz*Y2*Y2*Y2*z1*z1) h18 (dc (-2*h*h*s + h*h*pz*Y2*z1 + h*h*l*l*l*z1*z1*z1*z2*z2*z2 - 2*h*h*l*x1*z1*z1*z1*z2*z2*z2 - h*h*l*x2*z1*z1*z1*z2*z2*z2 + h*h*y1*z1*z1*z1*z2*z2*z2 - 2*h*v*s + h*v*pz*Y2*z1 + h*v*l*l*l*z1*z1*z1*z2*z2*z2 - 2*h*v*l*x1*z1*z1*z1*z2*z2*z2 - h*v*l*x2*z1*z1*z1*z2*z2*z2 + h*v*y1*z1*z1*z1*z2*z2*z2 - h*s*u + 2*h*u*pz*Y2*z1 - h*u*l*l*l*z1*z1*z1*z2*z2*z2 + 2*h*u*l*x1*z1*z1*z1*z2*z2*z2 + h*u*l*x2*z1*z1*z1*z2*z2*z2 - h*u*y1*z1*z1*z1*z2*z2*z2 - 2*v*v*s + v*v*pz*Y2*z1 + v*v*l*l*l*z1*z1*z1*z2*z2*z2 - 2*v*v*l*x1*z1*z1*z1*z2*z2*z2 - v*v*l*x2*z1*z1*z1*z2*z2*z2 + v*v*y1*z1*z1*z1*z2*z2*z2 + v*s*u + v*u*pz*Y2*z1 - 2*v*u*l*l*l*z1*z1*z1*z2*z2*z2 + 4*v*u*l*x1*z1*z1*z1*z2*z2*z2 + 2*v*u*l*x2*z1*z1*z1*z2*z2*z2 - 2*v*u*y1*z1*z1*z1*z2*z2*z2 + s*u*u - 2*u*u*pz*Y2*z1 + u*u*l*l*l*z1*z1*z1*z2*z2*z2 - 2*u*u*l*x1*z1*z1*z1*z2*z2*z2 - u*u*l*x2*z1*z1*z1*z2*z2*z2 + u*u*y1*z1*z1*z1*z2*z2*z2) h19 (dc (-2*v*v*s + v*v*pz*Y2*z1 + v*v*l*l*l*z1*z1*z1*z2*z2*z2 - 2*v*v*l*x1*z1*z1*z1*z2*z2*z2 - v*v*l*x2*z1*z1*z1*z2*z2*z2 + v*v*y1*z1*z1*z1*z2*z2*z2 + 3*v*s*u - 2*v*s*pz*X2 - 3*v*u*l*l*l*z1*z1*z1*z2*z2*z2 + 6*v*u*l*x1*z1*z1*z1*z2*z2*z2 + 3*v*u*l*x2*z1*z1*z1*z2*z2*z2 - 3*v*u*y1*z1*z1*z1*z2*z2*z2 + v*pz*pz*Y2*X2*z1 + v*pz*X2*l*l*l*z1*z1*z1*z2*z2*z2 - 2*v*pz*X2*l*x1*z1*z1*z1*z2*z2*z2 - v*pz*X2*l*x2*z1*z1*z1*z2*z2*z2 + v*pz*X2*y1*z1*z1*z1*z2*z2*z2 + 3*s*u*pz*X2 - 2*s*pz*pz*X2*X2 - 3*u*u*pz*Y2*z1 + 3*u*u*l*l*l*z1*z1*z1*z2*z2*z2 - 6*u*u*l*x1*z1*z1*z1*z2*z2*z2 - 3*u*u*l*x2*z1*z1*z1*z2*z2*z2 + 3*u*u*y1*z1*z1*z1*z2*z2*z2 - 3*u*pz*X2*l*l*l*z1*z1*z1*z2*z2*z2 + 6*u*pz*X2*l*x1*z1*z1*z1*z2*z2*z2 + 3*u*pz*X2*l*x2*z1*z1*z1*z2*z2*z2 - 3*u*pz*X2*y1*z1*z1*z1*z2*z2*z2 + pz*pz*pz*Y2*X2*X2*z1 + pz*pz*X2*X2*l*l*l*z1*z1*z1*z2*z2*z2 - 2*pz*pz*X2*X2*l*x1*z1*z1*z1*z2*z2*z2 - pz*pz*X2*X2*l*x2*z1*z1*z1*z2*z2*z2 + pz*pz*X2*X2*y1*z1*z1*z1*z2*z2*z2) h20 (dc (s*s + s*q3*Y1 - 3*s*pz*Y2*z1 + q3*q3*Y1*Y1 - 3*q3*pz*Y2*Y1*z1 - u*u*u + 3*u*pz*pz*X2*X2 - 2*pz*pz*pz*X2*X2*X2 + 3*pz*pz*Y2*Y2*z1*z1) h21 (dc (q3*q3*Y1*Y1*Y1 + q3*qz*Y1*Y1*Y1*z2 - 3*q3*pz*Y2*Y1*Y1*z1 - u*u*u*Y1 + 3*u*pz*pz*X2*X2*Y1 + qz*qz*Y1*Y1*Y1*z2*z2 - 3*qz*pz*Y2*Y1*Y1*z1*z2 - 2*pz*pz*pz*X2*X2*X2*Y1 + 3*pz*pz*Y2*Y2*Y1*z1*z1) h22 (dc (-u*u*qz*Y1*z2 + 2*u*u*pz*Y2*z1 - u*u*l*l*l*z1*z1*z1*z2*z2*z2 + 2*u*u*l*x1*z1*z1*z1*z2*z2*z2 + u*u*l*x2*z1*z1*z1*z2*z2*z2 - u*u*y1*z1*z1*z1*z2*z2*z2 - u*qz*qz*Y1*X1*z2 + 2*u*qz*pz*Y2*X1*z1 - u*qz*X1*l*l*l*z1*z1*z1*z2*z2*z2 + 2*u*qz*X1*l*x1*z1*z1*z1*z2*z2*z2 + u*qz*X1*l*x2*z1*z1*z1*z2*z2*z2 - u*qz*X1*y1*z1*z1*z1*z2*z2*z2 - 3*u*pz*pz*Y2*X2*z1 + 3*u*pz*X2*l*l*l*z1*z1*z1*z2*z2*z2 - 6*u*pz*X2*l*x1*z1*z1*z1*z2*z2*z2 - 3*u*pz*X2*l*x2*z1*z1*z1*z2*z2*z2 + 3*u*pz*X2*y1*z1*z1*z1*z2*z2*z2 - qz*qz*qz*Y1*X1*X1*z2 + 2*qz*qz*pz*Y2*X1*X1*z1 - qz*qz*X1*X1*l*l*l*z1*z1*z1*z2*z2*z2 + 2*qz*qz*X1*X1*l*x1*z1*z1*z1*z2*z2*z2 + qz*qz*X1*X1*l*x2*z1*z1*z1*z2*z2*z2 - qz*qz*X1*X1*y1*z1*z1*z1*z2*z2*z2 - 3*qz*pz*pz*Y2*X2*X1*z1 + 3*qz*pz*pz*X2*X2*Y1*z2 + 3*qz*pz*X2*X1*l*l*l*z1*z1*z1*z2*z2*z2 - 6*qz*pz*X2*X1*l*x1*z1*z1*z1*z2*z2*z2 - 3*qz*pz*X2*X1*l*x2*z1*z1*z1*z2*z2*z2 + 3*qz*pz*X2*X1*y1*z1*z1*z1*z2*z2*z2 - 3*pz*pz*X2*X2*l*l*l*z1*z1*z1*z2*z2*z2 + 6*pz*pz*X2*X2*l*x1*z1*z1*z1*z2*z2*z2 + 3*pz*pz*X2*X2*l*x2*z1*z1*z1*z2*z2*z2 - 3*pz*pz*X2*X2*y1*z1*z1*z1*z2*z2*z2) h23 (dc (-qz*qz*qz*Y1*X1*X1*X1*z2 + 2*qz*qz*pz*Y2*X1*X1*X1*z1 + qz*qz*Y1*Y1*Y1*z2*z2*z2 - qz*qz*Y1*X1*X1*X1*z2*z2*z2 - qz*qz*X1*X1*X1*l*l*l*z1*z1*z1*z2*z2*z2 + 2*qz*qz*X1*X1*X1*l*x1*z1*z1*z1*z2*z2*z2 + qz*qz*X1*X1*X1*l*x2*z1*z1*z1*z2*z2*z2 - qz*qz*X1*X1*X1*y1*z1*z1*z1*z2*z2*z2 - 3*qz*pz*pz*Y2*X2*X1*X1*z1 + 3*qz*pz*pz*X2*X2*Y1*X1*z2 - 3*qz*pz*Y2*Y1*Y1*z1*z2*z2 + 2*qz*pz*Y2*X1*X1*X1*z1*z2*z2 + 3*qz*pz*X2*X1*X1*l*l*l*z1*z1*z1*z2*z2*z2 - 6*qz*pz*X2*X1*X1*l*x1*z1*z1*z1*z2*z2*z2 - 3*qz*pz*X2*X1*X1*l*x2*z1*z1*z1*z2*z2*z2 + 3*qz*pz*X2*X1*X1*y1*z1*z1*z1*z2*z2*z2 + qz*Y1*Y1*Y1*z2*z2*z2*z2*z2 - qz*Y1*X1*X1*X1*z2*z2*z2*z2*z2 - qz*X1*X1*X1*l*l*l*z1*z1*z1*z2*z2*z2*z2*z2 + 2*qz*X1*X1*X1*l*x1*z1*z1*z1*z2*z2*z2*z2*z2 + qz*X1*X1*X1*l*x2*z1*z1*z1*z2*z2*z2*z2*z2 - qz*X1*X1*X1*y1*z1*z1*z1*z2*z2*z2*z2*z2 - 2*pz*pz*pz*X2*X2*X2*Y1*z2 + 3*pz*pz*Y2*Y2*Y1*z1*z1*z2 - 3*pz*pz*Y2*X2*X1*X1*z1*z2*z2 + 3*pz*pz*X2*X2*Y1*X1*z2*z2*z2 - 3*pz*pz*X2*X2*X1*l*l*l*z1*z1*z1*z2*z2*z2 + 6*pz*pz*X2*X2*X1*l*x1*z1*z1*z1*z2*z2*z2 + 3*pz*pz*X2*X2*X1*l*x2*z1*z1*z1*z2*z2*z2 - 3*pz*pz*X2*X2*X1*y1*z1*z1*z1*z2*z2*z2 - 3*pz*Y2*Y1*Y1*z1*z2*z2*z2*z2 + 2*pz*Y2*X1*X1*X1*z1*z2*z2*z2*z2 + 3*pz*X2*X1*X1*l*l*l*z1*z1*z1*z2*z2*z2*z2*z2 - 6*pz*X2*X1*X1*l*x1*z1*z1*z1*z2*z2*z2*z2*z2 - 3*pz*X2*X1*X1*l*x2*z1*z1*z1*z2*z2*z2*z2*z2 + 3*pz*X2*X1*X1*y1*z1*z1*z1*z2*z2*z2*z2*z2 + Y1*Y1*Y1*z2*z2*z2*z2*z2*z2*z2 - Y1*X1*X1*X1*z2*z2*z2*z2*z2*z2*z2 - X1*X1*X1*l*l*l*z1*z1*z1*z2*z2*z2*z2*z2*z2*z2 + 2*X1*X1*X1*l*x1*z1*z1*z1*z2*z2*z2*z2*z2*z2*z2 + X1*X1*X1*l*x2*z1*z1*z1*z2*z2*z2*z2*z2*z2*z2 - X1*X1*X1*y1*z1*z1*z1*z2*z2*z2*z2*z2*z2*z2) h24 (dc (pz*pz*pz*Y2*X2*X2*X2*z1 - pz*pz*Y2*Y2*Y2*z1*z1*z1 + pz*pz*Y2*X2*X2*X2*z1*z1*z1 - 2*pz*pz*X2*X2*X2*Y1*z2*z2*z2 + pz*pz*X2*X2*X2*l*l*l*z1*z1*z1*z2*z2*z2 - 2*pz*pz*X2*X2*X2*l*x1*z1*z1*z1*z2*z2*z2 - pz*pz*X2*X2*X2*l*x2*z1*z1*z1*z2*z2*z2 + pz*pz*X2*X2*X2*y1*z1*z1*z1*z2*z2*z2 - pz*Y2*Y2*Y2*z1*z1*z1*z1*z1 + 3*pz*Y2*Y2*Y1*z1*z1*z2*z2*z2 + pz*Y2*X2*X2*X2*z1*z1*z1*z1*z1 - 3*pz*Y2*X2*X1*X1*z1*z2*z2*z2*z2 - 2*pz*X2*X2*X2*Y1*z1*z1*z2*z2*z2 + pz*X2*X2*X2*l*l*l*z1*z1*z1*z1*z1*z2*z2*z2 - 2*pz*X2*X2*X2*l*x1*z1*z1*z1*z1*z1*z2*z2*z2 - pz*X2*X2*X2*l*x2*z1*z1*z1*z1*z1*z2*z2*z2 + pz*X2*X2*X2*y1*z1*z1*z1*z1*z1*z2*z2*z2 + 3*pz*X2*X2*Y1*X1*z2*z2*z2*z2*z2 - 3*pz*X2*X2*X1*l*l*l*z1*z1*z1*z2*z2*z2*z2*z2 + 6*pz*X2*X2*X1*l*x1*z1*z1*z1*z2*z2*z2*z2*z2 + 3*pz*X2*X2*X1*l*x2*z1*z1*z1*z2*z2*z2*z2*z2 - 3*pz*X2*X2*X1*y1*z1*z1*z1*z2*z2*z2*z2*z2 - Y2*Y2*Y2*z1*z1*z1*z1*z1*z1*z1 + 3*Y2*Y2*Y1*z1*z1*z1*z1*z2*z2*z2 + Y2*X2*X2*X2*z1*z1*z1*z1*z1*z1*z1 - 3*Y2*X2*X1*X1*z1*z1*z1*z2*z2*z2*z2 - 3*Y2*Y1*Y1*z1*z2*z2*z2*z2*z2*z2 + 2*Y2*X1*X1*X1*z1*z2*z2*z2*z2*z2*z2 - 2*X2*X2*X2*Y1*z1*z1*z1*z1*z2*z2*z2 + X2*X2*X2*l*l*l*z1*z1*z1*z1*z1*z1*z1*z2*z2*z2 - 2*X2*X2*X2*l*x1*z1*z1*z1*z1*z1*z1*z1*z2*z2*z2 - X2*X2*X2*l*x2*z1*z1*z1*z1*z1*z1*z1*z2*z2*z2 + X2*X2*X2*y1*z1*z1*z1*z1*z1*z1*z1*z2*z2*z2 + 3*X2*X2*Y1*X1*z1*z1*z2*z2*z2*z2*z2 - 3*X2*X2*X1*l*l*l*z1*z1*z1*z1*z1*z2*z2*z2*z2*z2 + 6*X2*X2*X1*l*x1*z1*z1*z1*z1*z1*z2*z2*z2*z2*z2 + 3*X2*X2*X1*l*x2*z1*z1*z1*z1*z1*z2*z2*z2*z2*z2 - 3*X2*X2*X1*y1*z1*z1*z1*z1*z1*z2*z2*z2*z2*z2 + 3*X2*X1*X1*l*l*l*z1*z1*z1*z2*z2*z2*z2*z2*z2*z2 - 6*X2*X1*X1*l*x1*z1*z1*z1*z2*z2*z2*z2*z2*z2*z2 - 3*X2*X1*X1*l*x2*z1*z1*z1*z2*z2*z2*z2*z2*z2*z2 + 3*X2*X1*X1*y1*z1*z1*z1*z2*z2*z2*z2*z2*z2*z2) h25 (dc (-3*Y2*X2*X1*z1*z1*z1*z1*z1*z2*z2*z2*z2 - 3*Y2*X2*x1*z1*z1*z1*z1*z1*z1*z1*z2*z2*z2*z2 + 2*Y2*X1*X1*z1*z1*z1*z2*z2*z2*z2*z2*z2 + 2*Y2*X1*x1*z1*z1*z1*z1*z1*z2*z2*z2*z2*z2*z2 + 2*Y2*x1*x1*z1*z1*z1*z1*z1*z1*z1*z2*z2*z2*z2*z2*z2 + 3*X2*X2*Y1*z1*z1*z1*z1*z2*z2*z2*z2*z2 - 3*X2*X2*l*l*l*z1*z1*z1*z1*z1*z1*z1*z2*z2*z2*z2*z2 + 6*X2*X2*l*x1*z1*z1*z1*z1*z1*z1*z1*z2*z2*z2*z2*z2 + 3*X2*X2*l*x2*z1*z1*z1*z1*z1*z1*z1*z2*z2*z2*z2*z2 - 3*X2*X2*y1*z1*z1*z1*z1*z1*z1*z1*z2*z2*z2*z2*z2 + 3*X2*X1*l*l*l*z1*z1*z1*z1*z1*z2*z2*z2*z2*z2*z2*z2 - 6*X2*X1*l*x1*z1*z1*z1*z1*z1*z2*z2*z2*z2*z2*z2*z2 - 3*X2*X1*l*x2*z1*z1*z1*z1*z1*z2*z2*z2*z2*z2*z2*z2 + 3*X2*X1*y1*z1*z1*z1*z1*z1*z2*z2*z2*z2*z2*z2*z2 + 3*X2*l*l*l*x1*z1*z1*z1*z1*z1*z1*z1*z2*z2*z2*z2*z2*z2*z2 - 6*X2*l*x1*x1*z1*z1*z1*z1*z1*z1*z1*z2*z2*z2*z2*z2*z2*z2 - 3*X2*l*x1*x2*z1*z1*z1*z1*z1*z1*z1*z2*z2*z2*z2*z2*z2*z2 + 3*X2*y1*x1*z1*z1*z1*z1*z1*z1*z1*z2*z2*z2*z2*z2*z2*z2 - Y1*X1*X1*z2*z2*z2*z2*z2*z2*z2*z2*z2 - Y1*X1*x1*z1*z1*z2*z2*z2*z2*z2*z2*z2*z2*z2 - Y1*x1*x1*z1*z1*z1*z1*z2*z2*z2*z2*z2*z2*z2*z2*z2 - X1*X1*l*l*l*z1*z1*z1*z2*z2*z2*z2*z2*z2*z2*z2*z2 + 2*X1*X1*l*x1*z1*z1*z1*z2*z2*z2*z2*z2*z2*z2*z2*z2 + X1*X1*l*x2*z1*z1*z1*z2*z2*z2*z2*z2*z2*z2*z2*z2 - X1*X1*y1*z1*z1*z1*z2*z2*z2*z2*z2*z2*z2*z2*z2 - X1*l*l*l*x1*z1*z1*z1*z1*z1*z2*z2*z2*z2*z2*z2*z2*z2*z2 + 2*X1*l*x1*x1*z1*z1*z1*z1*z1*z2*z2*z2*z2*z2*z2*z2*z2*z2 + X1*l*x1*x2*z1*z1*z1*z1*z1*z2*z2*z2*z2*z2*z2*z2*z2*z2 - X1*y1*x1*z1*z1*z1*z1*z1*z2*z2*z2*z2*z2*z2*z2*z2*z2 - l*l*l*x1*x1*z1*z1*z1*z1*z1*z1*z1*z2*z2*z2*z2*z2*z2*z2*z2*z2 + 2*l*x1*x1*x1*z1*z1*z1*z1*z1*z1*z1*z2*z2*z2*z2*z2*z2*z2*z2*z2 + l*x1*x1*x2*z1*z1*z1*z1*z1*z1*z1*z2*z2*z2*z2*z2*z2*z2*z2*z2 - y1*x1*x1*z1*z1*z1*z1*z1*z1*z1*z2*z2*z2*z2*z2*z2*z2*z2*z2) h26 (dc (3*Y2*Y2*z1*z1*z1*z1*z1*z1*z2*z2*z2 - 3*Y2*Y1*z1*z1*z1*z2*z2*z2*z2*z2*z2 - 3*Y2*y1*z1*z1*z1*z1*z1*z1*z2*z2*z2*z2*z2*z2 - 2*X2*X2*X2*z1*z1*z1*z1*z1*z1*z2*z2*z2 + 3*X2*X2*x1*z1*z1*z1*z1*z1*z1*z2*z2*z2*z2*z2 + Y1*Y1*z2*z2*z2*z2*z2*z2*z2*z2*z2 + Y1*y1*z1*z1*z1*z2*z2*z2*z2*z2*z2*z2*z2*z2 - x1*x1*x1*z1*z1*z1*z1*z1*z1*z2*z2*z2*z2*z2*z2*z2*z2*z2 + y1*y1*z1*z1*z1*z1*z1*z1*z2*z2*z2*z2*z2*z2*z2*z2*z2) h27 (dc (Y2*X2*X2*z1*z1*z1*z1*z1*z1*z1*z1*z1 + Y2*X2*x2*z1*z1*z1*z1*z1*z1*z1*z1*z1*z2*z2 - 3*Y2*x1*x1*z1*z1*z1*z1*z1*z1*z1*z1*z1*z2*z2*z2*z2 + Y2*x2*x2*z1*z1*z1*z1*z1*z1*z1*z1*z1*z2*z2*z2*z2 + X2*X2*l*l*l*z1*z1*z1*z1*z1*z1*z1*z1*z1*z2*z2*z2 - 2*X2*X2*l*x1*z1*z1*z1*z1*z1*z1*z1*z1*z1*z2*z2*z2 - X2*X2*l*x2*z1*z1*z1*z1*z1*z1*z1*z1*z1*z2*z2*z2 - X2*X2*y1*z1*z1*z1*z1*z1*z1*z1*z1*z1*z2*z2*z2 - 3*X2*l*l*l*x1*z1*z1*z1*z1*z1*z1*z1*z1*z1*z2*z2*z2*z2*z2 + X2*l*l*l*x2*z1*z1*z1*z1*z1*z1*z1*z1*z1*z2*z2*z2*z2*z2 + 6*X2*l*x1*x1*z1*z1*z1*z1*z1*z1*z1*z1*z1*z2*z2*z2*z2*z2 + X2*l*x1*x2*z1*z1*z1*z1*z1*z1*z1*z1*z1*z2*z2*z2*z2*z2 - X2*l*x2*x2*z1*z1*z1*z1*z1*z1*z1*z1*z1*z2*z2*z2*z2*z2 - X2*y1*x2*z1*z1*z1*z1*z1*z1*z1*z1*z1*z2*z2*z2*z2*z2 + 3*l*l*l*x1*x1*z1*z1*z1*z1*z1*z1*z1*z1*z1*z2*z2*z2*z2*z2*z2*z2 - 3*l*l*l*x1*x2*z1*z1*z1*z1*z1*z1*z1*z1*z1*z2*z2*z2*z2*z2*z2*z2 + l*l*l*x2*x2*z1*z1*z1*z1*z1*z1*z1*z1*z1*z2*z2*z2*z2*z2*z2*z2 - 6*l*x1*x1*x1*z1*z1*z1*z1*z1*z1*z1*z1*z1*z2*z2*z2*z2*z2*z2*z2 + 3*l*x1*x1*x2*z1*z1*z1*z1*z1*z1*z1*z1*z1*z2*z2*z2*z2*z2*z2*z2 + l*x1*x2*x2*z1*z1*z1*z1*z1*z1*z1*z1*z1*z2*z2*z2*z2*z2*z2*z2 - l*x2*x2*x2*z1*z1*z1*z1*z1*z1*z1*z1*z1*z2*z2*z2*z2*z2*z2*z2 + 3*y1*x1*x1*z1*z1*z1*z1*z1*z1*z1*z1*z1*z2*z2*z2*z2*z2*z2*z2 - y1*x2*x2*z1*z1*z1*z1*z1*z1*z1*z1*z1*z2*z2*z2*z2*z2*z2*z2) h28 (dc (-Y2*Y2*z1*z1*z1*z1*z1*z1*z1*z1*z1 + Y2*l*x1*z1*z1*z1*z1*z1*z1*z1*z1*z1*z2*z2*z2 - Y2*l*x2*z1*z1*z1*z1*z1*z1*z1*z1*z1*z2*z2*z2 + 2*Y2*y1*z1*z1*z1*z1*z1*z1*z1*z1*z1*z2*z2*z2 - l*l*x1*x1*z1*z1*z1*z1*z1*z1*z1*z1*z1*z2*z2*z2*z2*z2*z2 + 2*l*l*x1*x2*z1*z1*z1*z1*z1*z1*z1*z1*z1*z2*z2*z2*z2*z2*z2 - l*l*x2*x2*z1*z1*z1*z1*z1*z1*z1*z1*z1*z2*z2*z2*z2*z2*z2 - y1*l*x1*z1*z1*z1*z1*z1*z1*z1*z1*z1*z2*z2*z2*z2*z2*z2 + 2*x1*x1*x1*z1*z1*z1*z1*z1*z1*z1*z1*z1*z2*z2*z2*z2*z2*z2 + y1*l*x2*z1*z1*z1*z1*z1*z1*z1*z1*z1*z2*z2*z2*z2*z2*z2 - 3*x1*x1*x2*z1*z1*z1*z1*z1*z1*z1*z1*z1*z2*z2*z2*z2*z2*z2 + x2*x2*x2*z1*z1*z1*z1*z1*z1*z1*z1*z1*z2*z2*z2*z2*z2*z2 - y1*y1*z1*z1*z1*z1*z1*z1*z1*z1*z1*z2*z2*z2*z2*z2*z2) h29 (dz p))))))))))))))))))))))))))))))) (by clear h0 h1 h2 h3 h4 h5 h6 h7 h8 h9 h10 h11 h12 h13 h14 h15 h16 h17 h18 h19 h20 h21 h22 h23 h24 h25 h26 h27 h28 h29; grind)
theorem ami {p x3 s2 X x z i : Int} (h0 : p ∣ x3-(X*s2)) (h1 : p ∣ s2-(i*i)) (h2 : p ∣ X-x*(z*z)) (h3 : p ∣ z*i-1) : p ∣ (x3-x) :=
  dk (dc (1) h0 (dc (X) h1 (dc (i*i) h2 (dc (x*z*i + x) h3 (dz p))))) (by clear h0 h1 h2 h3; grind)
theorem amh {p y3 s3 s2 Y y z i : Int} (h0 : p ∣ y3-(Y*s3)) (h1 : p ∣ s3-(s2*i)) (h2 : p ∣ s2-(i*i)) (h3 : p ∣ Y-y*(z*z*z)) (h4 : p ∣ z*i-1) : p ∣ (y3-y) :=
  dk (dc (1) h0 (dc (Y) h1 (dc (Y*i) h2 (dc (i*i*i) h3 (dc (y*z*z*i*i + y*z*i + y) h4 (dz p)))))) (by clear h0 h1 h2 h3 h4; grind)
theorem al8 {p s x3 xx dx x y iv : Int} (h0 : p ∣ s-(x3*iv)) (h1 : p ∣ x3-(3*xx)) (h2 : p ∣ xx-(x*x)) (h3 : p ∣ dx-(y+y)) (h4 : p ∣ dx*iv-1) : p ∣ (s*(y+y)-(x*x+x*x+x*x)) :=
  dk (dc (2*y) h0 (dc (2*y*iv) h1 (dc (6*y*iv) h2 (dc (-3*x*x*iv) h3 (dc (3*x*x) h4 (dz p)))))) (by clear h0 h1 h2 h3 h4; grind)
theorem amv {p s dy dx x1 x2 y1 y2 iv : Int} (h0 : p ∣ s-(dy*iv)) (h1 : p ∣ dy-(y2-y1)) (h2 : p ∣ dx-(x2-x1)) (h3 : p ∣ dx*iv-1) : p ∣ (s*(x1-x2)-(y1-y2)) :=
  dk (dc (x1 - x2) h0 (dc (x1*iv - x2*iv) h1 (dc (-y1*iv + y2*iv) h2 (dc (y1 - y2) h3 (dz p))))) (by clear h0 h1 h2 h3; grind)
theorem al6 {p y3 e d x y1 x1 t : Int} (h0 : p ∣ y3-(e-y1)) (h1 : p ∣ e-(t*d)) (h2 : p ∣ d-(x1-x)) : p ∣ (y3-(t*(x1-x)-y1)) :=
  dk (dc (1) h0 (dc (1) h1 (dc (t) h2 (dz p)))) (by clear h0 h1 h2; grind)
theorem al7 {p x d a x1 x2 t : Int} (h0 : p ∣ x-(d-x2)) (h1 : p ∣ d-(a-x1)) (h2 : p ∣ a-(t*t)) : p ∣ (x-(t*t-x1-x2)) :=
  dk (dc (1) h0 (dc (1) h1 (dc (1) h2 (dz p)))) (by clear h0 h1 h2; grind)
theorem amt {p z xxx xx y x b : Int} (h0 : p ∣ z-(y*y)) (h1 : p ∣ z-(xxx+b)) (h2 : p ∣ xxx-(xx*x)) (h3 : p ∣ xx-(x*x)) : p ∣ (y*y-x*x*x-b) :=
  dk (dc (-1) h0 (dc (1) h1 (dc (1) h2 (dc (x) h3 (dz p))))) (by clear h0 h1 h2 h3; grind)
theorem ams {p u z xxx xx y x b : Int} (h0 : p ∣ u-(y*y)) (h1 : p ∣ z-(xxx+b)) (h2 : p ∣ xxx-(xx*x)) (h3 : p ∣ xx-(x*x)) (h4 : p ∣ y*y-x*x*x-b) : p ∣ (u-z) :=
  dk (dc (1) h0 (dc (-1) h1 (dc (-1) h2 (dc (-x) h3 (dc (1) h4 (dz p)))))) (by clear h0 h1 h2 h3 h4; grind)
end Go.Proofs.Ytkedomfjjahjnaa

namespace Go.Proofs.Ytkedomfjjahjnaa
open Sx Go
abbrev Sm (p : Nat) : Prop := 0 < p ∧ p < 57896044618658097711785492504343953926634992332820282019728792003956564819968
theorem alt {p a b : Int} (h2 : p ∣ a) (h1 : p ∣ a - b) : p ∣ b := by
  obtain ⟨k, hk⟩ := h1
  obtain ⟨m, hm⟩ := h2
  exact ⟨m - k, by rw [Int.mul_sub]; omega⟩
theorem af1 {p : Nat} (n : Nat) : (p : Int) ∣ ((n % p : Nat) : Int) - (n : Int) := by
  have := Nat.div_add_mod n p
  refine ⟨-((n / p : Nat) : Int), ?_⟩
  have h : ((p * (n / p) + n % p : Nat) : Int) = (n : Int) := by rw [this]
  rw [Int.natCast_add, Int.natCast_mul] at h
  rw [Int.mul_neg]
  omega
variable {p : Nat}
theorem bT (hp : Sm p) (a b : aa) : (p : Int) ∣ ((aN p a b).nat : Int) - ((a.nat : Int) * (b.nat : Int)) := by
  have e : (aN p a b).nat = a.nat * b.nat % p := cv hp
  rw [e]
  have := af1 (p := p) (a.nat * b.nat)
  rwa [Int.natCast_mul] at this
theorem Tx (hp : Sm p) (a b : aa) : (p : Int) ∣ ((nk p a b).nat : Int) - ((a.nat : Int) + (b.nat : Int)) := by
  have e : (nk p a b).nat = (a.nat + b.nat) % p := cv hp
  rw [e]
  have := af1 (p := p) (a.nat + b.nat)
  rwa [Int.natCast_add] at this
theorem akS (hp : Sm p) (a : aa) : (p : Int) ∣ ((AC p a).nat : Int) - -(a.nat : Int) := by
  have e : (AC p a).nat = (p - a.nat % p) % p := cv hp
  rw [e]
  obtain ⟨k, hk⟩ := af1 (p := p) (p - a.nat % p)
  obtain ⟨m, hm⟩ := af1 (p := p) a.nat
  have hlt := Nat.mod_lt a.nat hp.1
  have e2 : ((p - a.nat % p : Nat) : Int) = (p : Int) - ((a.nat % p : Nat) : Int) := by omega
  rw [e2] at hk
  generalize (((p - a.nat % p) % p : Nat) : Int) = u at *
  generalize ((a.nat % p : Nat) : Int) = v at *
  exact ⟨k + 1 - m, by grind⟩
theorem iX (hp : Sm p) (a b : aa) : (p : Int) ∣ ((eM p a b).nat : Int) - ((a.nat : Int) - (b.nat : Int)) := by
  obtain ⟨k, hk⟩ := Tx hp a (AC p b)
  obtain ⟨m, hm⟩ := akS hp b
  unfold eM
  generalize ((nk p a (AC p b)).nat : Int) = u at *
  exact ⟨k + m, by grind⟩
theorem AE (hp : Sm p) (a b : aa) : (aN p a b).nat < p := by
  rw [show (aN p a b).nat = a.nat * b.nat % p from cv hp]
  exact Nat.mod_lt _ hp.1
theorem acF (hp : Sm p) (a b : aa) : (nk p a b).nat < p := by
  rw [show (nk p a b).nat = (a.nat + b.nat) % p from cv hp]
  exact Nat.mod_lt _ hp.1
theorem F6 (hp : Sm p) (a b : aa) : (eM p a b).nat < p := acF hp _ _
theorem aaH (hp : Sm p) (pr : Pr p) {z : aa} (hz : ¬ (p : Int) ∣ (z.nat : Int)) : (p : Int) ∣ (z.nat : Int) * ((sD p z).nat : Int) - 1 := by
  have h2 := pr.1
  have hz' : ¬ p ∣ z.nat := fun h => hz (Int.natCast_dvd_natCast.2 h)
  have e : Nat.beq (z.nat % p) 0 = false := by
    cases h : Nat.beq (z.nat % p) 0
    · rfl
    · exact absurd (Nat.dvd_of_mod_eq_zero (Nat.eq_of_beq_eq_true h)) hz'
  have e2 : (sD p z).nat = z.nat ^ (p - 2) % p := by
    unfold sD acR
    rw [e]
    simp only [cond_false]
    have hb : p - 2 < 2 ^ 256 := by have := hp.2; omega
    rw [GF 256 1 _ _ hb (by omega), Nat.one_mul, ← Nat.pow_mod]
    exact cv hp
  rw [e2]
  have hf := SO pr hz'
  have e3 : z.nat ^ (p - 1) = z.nat * z.nat ^ (p - 2) := by
    rw [show p - 1 = (p - 2) + 1 by omega, Nat.pow_succ, Nat.mul_comm]
  rw [e3] at hf
  obtain ⟨k, hk⟩ := af1 (p := p) (z.nat ^ (p - 2))
  obtain ⟨m, hm⟩ := af1 (p := p) (z.nat * z.nat ^ (p - 2))
  rw [hf] at hm
  rw [Int.natCast_mul] at hm
  generalize ((z.nat ^ (p - 2) % p : Nat) : Int) = u at *
  generalize ((z.nat ^ (p - 2) : Nat) : Int) = v at *
  have hm : (1 : Int) - (z.nat : Int) * v = (p : Int) * m := hm
  exact ⟨(z.nat : Int) * k - m, by grind⟩
def toQ (P : Pt) : PtQ := cond P.2.2 none (some (P.1.nat, P.2.1.nat))
theorem aay (hp : Sm p) (X Y X2 s : aa) : Thd p X.nat Y.nat X2.nat s.nat (wi p X Y X2 s).1.nat (wi p X Y X2 s).2.1.nat := by
  unfold wi
  dsimp only
  have h1 := bT hp s s
  have h2 := iX hp (aN p s s) X
  have h3 := iX hp (eM p (aN p s s) X) X2
  generalize eM p (eM p (aN p s s) X) X2 = x3 at *
  have h4 := iX hp X x3
  have h5 := bT hp s (eM p X x3)
  have h6 := iX hp (aN p s (eM p X x3)) Y
  exact ⟨al7 h3 h2 h1, al6 h6 h5 h4⟩
theorem Sg {b : Nat} (c : Cur p b) (hp : Sm p) {X Y X2 Y2 s : aa} (hP : OnQ p b (some (X.nat, Y.nat))) (hR : OnQ p b (some (X2.nat, Y2.nat))) (hl : Lin p X.nat Y.nat X2.nat Y2.nat s.nat) :
    toQ (wi p X Y X2 s) = cF p (some (X.nat, Y.nat)) (some (X2.nat, Y2.nat)) := by
  have h := aay hp X Y X2 s
  exact (Q6 c (P := (X.nat, Y.nat)) (R := (X2.nat, Y2.nat)) (S := ((wi p X Y X2 s).1.nat, (wi p X Y X2 s).2.1.nat)) hP hR hl (F6 hp _ _) (F6 hp _ _) h).symm
theorem IU : (aa.mk 3 0 0 0).nat = 3 := by decide
theorem F4 {b : Nat} (c : Cur p b) (hp : Sm p) {P R : Pt} (hP : OnQ p b (toQ P)) (hR : OnQ p b (toQ R)) : toQ (dI p P R) = cF p (toQ P) (toQ R) := by
  obtain ⟨X, Y, i⟩ := P
  obtain ⟨X2, Y2, j⟩ := R
  cases i
  · cases j
    · have hP' : OnQ p b (some (X.nat, Y.nat)) := hP
      have hR' : OnQ p b (some (X2.nat, Y2.nat)) := hR
      have n1 : ¬ (p : Int) ∣ (Y.nat : Int) := c.yne hP'.2.2
      show toQ (dI p (X, Y, false) (X2, Y2, false)) = cF p (some (X.nat, Y.nat)) (some (X2.nat, Y2.nat))
      rcases (Bool.eq_false_or_eq_true (eqE X X2)).symm with h | h
      · have e : dI p (X, Y, false) (X2, Y2, false) = wi p X Y X2 (byP p (eM p Y2 Y) (eM p X2 X)) := by unfold dI; simp only [cond_false, h]
        rw [e]
        refine Sg c hp hP' hR' ?_
        have hx : X.nat ≠ X2.nat := fun e => by rw [js e, HJ] at h; cases h
        have hd := iX hp X2 X
        have hn : ¬ (p : Int) ∣ ((eM p X2 X).nat : Int) := fun hn => by
          obtain ⟨k, hk⟩ := hd
          obtain ⟨m, hm⟩ := hn
          exact hx (fo hP'.1 hR'.1 ⟨k - m, by grind⟩)
        have hi := aaH hp c.pr hn
        have hm := bT hp (eM p Y2 Y) (sD p (eM p X2 X))
        have hy := iX hp Y2 Y
        unfold byP
        generalize eM p X2 X = dx at *
        generalize sD p dx = iv at *
        generalize eM p Y2 Y = dy at *
        generalize aN p dy iv = s at *
        have ha : (p : Int) ∣ (s.nat : Int) * ((X.nat : Int) - X2.nat) - ((Y.nat : Int) - Y2.nat) := amv hm hy hd hi
        refine ⟨ha, ?_⟩
        have hn' : ¬ (p : Int) ∣ (X.nat : Int) - X2.nat := fun hh => hx (fo hP'.1 hR'.1 hh)
        have hc1 : (p : Int) ∣ (Y.nat : Int) * Y.nat - X.nat * X.nat * X.nat - b := hP'.2.2
        have hc2 : (p : Int) ∣ (Y2.nat : Int) * Y2.nat - X2.nat * X2.nat * X2.nat - b := hR'.2.2
        exact (c.pr.dD (ab3 hc1 hc2 ha)).resolve_left hn'
      · rcases (Bool.eq_false_or_eq_true (eqE Y Y2)).symm with h2 | h2
        · have e : dI p (X, Y, false) (X2, Y2, false) = aB := by unfold dI; simp only [cond_false, cond_true, h, h2]
          rw [e]
          refine (if_pos ⟨?_, fun e => ?_⟩).symm
          · show X.nat = X2.nat
            rw [kD.1 h]
          · rw [js e, HJ] at h2
            cases h2
        · have e : dI p (X, Y, false) (X2, Y2, false) = wi p X Y X2 (byP p (aN p ⟨3, 0, 0, 0⟩ (aN p X X)) (nk p Y Y)) := by unfold dI; simp only [cond_false, cond_true, h, h2]
          rw [e]
          refine Sg c hp hP' hR' ?_
          obtain rfl := kD.1 h
          obtain rfl := kD.1 h2
          have hd := Tx hp Y Y
          have hn : ¬ (p : Int) ∣ ((nk p Y Y).nat : Int) := fun hn => by
            obtain ⟨k, hk⟩ := hd
            obtain ⟨m, hm⟩ := hn
            rcases c.pr.dD (a := 2) (b := (Y.nat : Int)) ⟨m - k, by grind⟩ with h | h
            · exact c.no2 h
            · exact n1 h
          have hi := aaH hp c.pr hn
          have hm := bT hp (aN p ⟨3, 0, 0, 0⟩ (aN p X X)) (sD p (nk p Y Y))
          have h3 := bT hp ⟨3, 0, 0, 0⟩ (aN p X X)
          have h4 := bT hp X X
          rw [IU] at h3
          unfold byP
          generalize nk p Y Y = dx at *
          generalize sD p dx = iv at *
          generalize aN p X X = xx at *
          generalize aN p ⟨3, 0, 0, 0⟩ xx = x3 at *
          generalize aN p x3 iv = s at *
          exact ⟨⟨0, by rw [Int.sub_self, Int.sub_self, Int.mul_zero, Int.mul_zero]; rfl⟩, al8 hm h3 h4 hd hi⟩
    · show toQ (dI p (X, Y, false) (X2, Y2, true)) = _
      have e : dI p (X, Y, false) (X2, Y2, true) = (X, Y, false) := by unfold dI; simp only [cond_false, cond_true]
      rw [e]
      rfl
  · have e : dI p (X, Y, true) (X2, Y2, j) = (X2, Y2, j) := by unfold dI; simp only [cond_true]
    rw [e]
    rfl
theorem MQ : (aa.mk 2 0 0 0).nat = 2 := by decide
theorem aeT : (aa.mk 4 0 0 0).nat = 4 := by decide
theorem abC : (aa.mk 8 0 0 0).nat = 8 := by decide
theorem GI : (aa.mk 1 0 0 0).nat = 1 := by decide
theorem k8 : (aa.mk 0 0 0 0).nat = 0 := by decide
def afw (p : Nat) (w : zx) : PtQ → Prop
  | none => w.2.2.nat = 0
  | some P => w.2.2.nat < p ∧ ¬ (p : Int) ∣ (w.2.2.nat : Int) ∧ (p : Int) ∣ (w.1.nat : Int) - (P.1 : Int) * ((w.2.2.nat : Int) * (w.2.2.nat : Int)) ∧
      (p : Int) ∣ (w.2.1.nat : Int) - (P.2 : Int) * ((w.2.2.nat : Int) * (w.2.2.nat : Int) * (w.2.2.nat : Int))
theorem FY {e : aa} (h : e.nat = 0) : cj e = true := by rw [e8, h]; rfl
theorem o5 {e : aa} (h : ¬ (p : Int) ∣ (e.nat : Int)) : cj e = false := by
  rw [e8]
  cases hb : Nat.beq e.nat 0
  · rfl
  · exact absurd ⟨0, by rw [Nat.eq_of_beq_eq_true hb]; rfl⟩ h
variable {b : Nat}
theorem abG (c : Cur p b) (hp : Sm p) {w : zx} {P : PtQ} (hP : OnQ p b P) (h : afw p w P) : afw p (Pg p w) (cF p P P) := by
  obtain ⟨X, Y, Z⟩ := w
  cases P with
  | none =>
    have e : Pg p (X, Y, Z) = (X, Y, Z) := by unfold Pg; rw [FY (e := Z) h]; rfl
    rw [e]
    exact h
  | some P =>
    obtain ⟨hz, hzn, hX, hY⟩ := h
    have e : Pg p (X, Y, Z) = amr p X Y Z := by unfold Pg; rw [o5 (e := Z) hzn]; rfl
    rw [e]
    cases hs : cF p (some P) (some P) with
    | none =>
      have : cF p (some P) (some P) = some (qx p P P (mX p P P)) := if_neg fun h => h.2 rfl
      rw [this] at hs
      cases hs
    | some S =>
      obtain ⟨hS1, hS2, l, hl, ht⟩ := ke c hP hP hs
      have hyy := bT hp Y Y
      have ha := bT hp X (aN p Y Y)
      have hs := bT hp (aN p X (aN p Y Y)) ⟨4, 0, 0, 0⟩
      have hb := bT hp X X
      have hm := bT hp (aN p X X) ⟨3, 0, 0, 0⟩
      unfold amr iV
      dsimp only
      rw [aeT] at hs
      rw [IU] at hm
      generalize aN p (aN p X X) ⟨3, 0, 0, 0⟩ = m at *
      generalize aN p (aN p X (aN p Y Y)) ⟨4, 0, 0, 0⟩ = s at *
      have hmm := bT hp m m
      have hs2 := bT hp s ⟨2, 0, 0, 0⟩
      rw [MQ] at hs2
      have hx3 := iX hp (aN p m m) (aN p s ⟨2, 0, 0, 0⟩)
      generalize eM p (aN p m m) (aN p s ⟨2, 0, 0, 0⟩) = x3 at *
      have hd := iX hp s x3
      have hmd := bT hp m (eM p s x3)
      have hy4 := bT hp (aN p Y Y) (aN p Y Y)
      have hy8 := bT hp (aN p (aN p Y Y) (aN p Y Y)) ⟨8, 0, 0, 0⟩
      rw [abC] at hy8
      have hy3 := iX hp (aN p m (eM p s x3)) (aN p (aN p (aN p Y Y) (aN p Y Y)) ⟨8, 0, 0, 0⟩)
      have hyz := bT hp Y Z
      have hz3 := bT hp (aN p Y Z) ⟨2, 0, 0, 0⟩
      rw [MQ] at hz3
      have hzz := amo hz3 hyz hY
      refine ⟨AE hp _ _, fun hn => ?_, amq ht.x hl.b hz3 hyz hx3 hs2 hmm hm hb hs ha hyy hX hY, amp ht.y ht.x hl.b hz3 hyz hy3 hy8 hy4 hmd hd hx3 hs2 hmm hm hb hs ha hyy hX hY⟩
      have h2 : (p : Int) ∣ 2 * ((P.2 : Int) * ((Z.nat : Int) * ((Z.nat : Int) * ((Z.nat : Int) * Z.nat)))) := alt hn hzz
      rcases c.pr.dD h2 with h | h
      · exact c.no2 h
      · rcases c.pr.dD h with h | h
        · exact c.yne hP.2.2 h
        · rcases c.pr.dD h with h | h
          · exact hzn h
          · rcases c.pr.dD h with h | h
            · exact hzn h
            · rcases c.pr.dD h with h | h <;> exact hzn h
end Go.Proofs.Ytkedomfjjahjnaa

namespace Go.Proofs.Ytkedomfjjahjnaa
open Sx Go
theorem acE {p b : Nat} (c : Cur p b) (hp : Sm p) {w v : zx} {P R : PtQ} (hP : OnQ p b P) (hR : OnQ p b R) (h : afw p w P) (k : afw p v R) : afw p (Md p w v) (cF p P R) := by
  obtain ⟨X1, Y1, Z1⟩ := w
  obtain ⟨X2, Y2, Z2⟩ := v
  cases P with
  | none =>
    have e : Md p (X1, Y1, Z1) (X2, Y2, Z2) = (X2, Y2, Z2) := by unfold Md; rw [FY (e := Z1) h]; rfl
    rw [e]
    exact k
  | some P =>
  cases R with
  | none =>
    have e : Md p (X1, Y1, Z1) (X2, Y2, Z2) = (X1, Y1, Z1) := by unfold Md; rw [o5 (e := Z1) h.2.1, FY (e := Z2) k]; rfl
    rw [e]
    exact h
  | some R =>
    have hw := h
    obtain ⟨hz, hzn, hX, hY⟩ := h
    obtain ⟨kz, kzn, kX, kY⟩ := k
    have e : Md p (X1, Y1, Z1) (X2, Y2, Z2) = al5 p (X1, Y1, Z1) (X2, Y2, Z2) := by unfold Md; rw [o5 (e := Z1) hzn, o5 (e := Z2) kzn]; rfl
    rw [e]
    unfold al5
    dsimp only at *
    have hpz := bT hp Z1 Z1
    have hqz := bT hp Z2 Z2
    have hu := bT hp X1 (aN p Z2 Z2)
    have hq3 := bT hp (aN p Z2 Z2) Z2
    have hs := bT hp Y1 (aN p (aN p Z2 Z2) Z2)
    have hv := bT hp X2 (aN p Z1 Z1)
    have hp3 := bT hp (aN p Z1 Z1) Z1
    have ht := bT hp Y2 (aN p (aN p Z1 Z1) Z1)
    generalize aN p X1 (aN p Z2 Z2) = u at *
    generalize aN p Y1 (aN p (aN p Z2 Z2) Z2) = s at *
    generalize aN p X2 (aN p Z1 Z1) = v at *
    generalize aN p Y2 (aN p (aN p Z1 Z1) Z1) = t at *
    have hh := iX hp v u
    have hr := iX hp t s
    have lh := F6 hp v u
    have lr := F6 hp t s
    generalize eM p v u = H at *
    generalize eM p t s = r at *
    have ah := amC hh hv hu hqz hpz hX kX
    have ar := amB hr ht hp3 hs hq3 hqz hpz hY kY
    have out : ∀ {a z : Int}, ¬ (p : Int) ∣ z → (p : Int) ∣ a * z → (p : Int) ∣ a := fun hz h => (c.pr.dD h).resolve_right hz
    have mul : ∀ {a z : Int}, ¬ (p : Int) ∣ a → ¬ (p : Int) ∣ z → ¬ (p : Int) ∣ a * z := fun ha hz h => (c.pr.dD h).elim ha hz
    have n4 := mul (mul hzn hzn) (mul kzn kzn)
    have n6 := mul (mul (mul hzn hzn) hzn) (mul (mul kzn kzn) kzn)
    unfold amD
    rcases (Bool.eq_false_or_eq_true (cj H)).symm with h1 | h1
    · rw [h1]
      simp only [cond_false]
      have hHn : ¬ (p : Int) ∣ (H.nat : Int) := fun hd => by
        rw [e8] at h1
        have := Nat.eq_zero_of_dvd_of_lt (Int.natCast_dvd_natCast.1 hd) lh
        rw [this] at h1
        cases h1
      have hxn : P.1 ≠ R.1 := fun hx => hHn (by
        rw [hx, Int.sub_self, Int.zero_mul, Int.sub_zero] at ah
        exact ah)
      cases hS : cF p (some P) (some R) with
      | none =>
        have : cF p (some P) (some R) = some (qx p P R (mX p P R)) := if_neg fun h => hxn h.1
        rw [this] at hS
        cases hS
      | some S =>
        obtain ⟨hS1, hS2, l, hl, hT⟩ := ke c hP hR hS
        unfold amO iV
        dsimp only
        have hhh := bT hp H H
        have hhhh := bT hp (aN p H H) H
        have hcc := bT hp u (aN p H H)
        have hrr := bT hp r r
        have hrh := iX hp (aN p r r) (aN p (aN p H H) H)
        have hc2 := bT hp (aN p u (aN p H H)) ⟨2, 0, 0, 0⟩
        rw [MQ] at hc2
        have hx3 := iX hp (eM p (aN p r r) (aN p (aN p H H) H)) (aN p (aN p u (aN p H H)) ⟨2, 0, 0, 0⟩)
        generalize eM p (eM p (aN p r r) (aN p (aN p H H) H)) (aN p (aN p u (aN p H H)) ⟨2, 0, 0, 0⟩) = x3 at *
        have hd := iX hp (aN p u (aN p H H)) x3
        have hrd := bT hp r (eM p (aN p u (aN p H H)) x3)
        have hsh := bT hp s (aN p (aN p H H) H)
        have hy3 := iX hp (aN p r (eM p (aN p u (aN p H H)) x3)) (aN p s (aN p (aN p H H) H))
        have hzz := bT hp Z1 Z2
        have hz3 := bT hp H (aN p Z1 Z2)
        refine ⟨AE hp _ _, fun hn => ?_, amA hT.x hl.a hz3 hzz hx3 hc2 hrh hrr hcc hhhh hhh hr ht hp3 hh hv hs hq3 hu hqz hpz hX hY kX kY,
          amz hT.y hT.x hl.a hz3 hzz hy3 hsh hrd hd hx3 hc2 hrh hrr hcc hhhh hhh hr ht hp3 hh hv hs hq3 hu hqz hpz hX hY kX kY⟩
        have h2 := alt hn hz3
        rcases c.pr.dD h2 with h | h
        · exact hHn h
        · have h3 := alt h hzz
          exact mul hzn kzn h3
    · rw [h1]
      simp only [cond_true]
      have hH : H.nat = 0 := by rw [e8] at h1; exact Nat.eq_of_beq_eq_true h1
      have hx : P.1 = R.1 := by
        rw [hH] at ah
        have : (p : Int) ∣ ((R.1 : Int) - P.1) * ((Z1.nat : Int) * Z1.nat * (Z2.nat * Z2.nat)) := alt (Int.dvd_zero _) ah
        exact (fo hR.1 hP.1 (out n4 this)).symm
      rcases (Bool.eq_false_or_eq_true (cj r)).symm with h2 | h2
      · rw [h2]
        simp only [cond_false]
        have hy : P.2 ≠ R.2 := fun hy => by
          rw [hy, Int.sub_self, Int.zero_mul, Int.sub_zero] at ar
          rw [e8] at h2
          have := Nat.eq_zero_of_dvd_of_lt (Int.natCast_dvd_natCast.1 ar) lr
          rw [this] at h2
          cases h2
        have : cF p (some P) (some R) = none := if_pos ⟨hx, hy⟩
        rw [this]
        exact k8
      · rw [h2]
        simp only [cond_true]
        have hr0 : r.nat = 0 := by rw [e8] at h2; exact Nat.eq_of_beq_eq_true h2
        have hy : P.2 = R.2 := by
          rw [hr0] at ar
          have : (p : Int) ∣ ((R.2 : Int) - P.2) * ((Z1.nat : Int) * Z1.nat * Z1.nat * (Z2.nat * Z2.nat * Z2.nat)) := alt (Int.dvd_zero _) ar
          exact (fo hR.2.1 hP.2.1 (out n6 this)).symm
        have : R = P := by
          obtain ⟨P1, P2⟩ := P
          obtain ⟨R1, R2⟩ := R
          dsimp only at hx hy
          rw [hx, hy]
        rw [this]
        exact abG c hp hP hw
def Can (P : Pt) : Prop := P.2.2 = true → P = aB
theorem Th {P R : Pt} (hP : Can P) (hR : Can R) (h : toQ P = toQ R) : P = R := by
  obtain ⟨X, Y, i⟩ := P
  obtain ⟨X2, Y2, j⟩ := R
  cases i <;> cases j
  · have h : some (X.nat, Y.nat) = some (X2.nat, Y2.nat) := h
    simp only [Option.some.injEq, Prod.mk.injEq] at h
    rw [js h.1, js h.2]
  · cases h
  · cases h
  · rw [hP rfl, hR rfl]
theorem EF {p b : Nat} (c : Cur p b) (hp : Sm p) {w : zx} {P : PtQ} (hP : OnQ p b P) (h : afw p w P) : toQ (eF p w) = P ∧ Can (eF p w) := by
  obtain ⟨X, Y, Z⟩ := w
  cases P with
  | none =>
    have e : eF p (X, Y, Z) = aB := by unfold eF; rw [FY (e := Z) h]; rfl
    rw [e]
    exact ⟨rfl, fun _ => rfl⟩
  | some P =>
    obtain ⟨hz, hzn, hX, hY⟩ := h
    have e : eF p (X, Y, Z) = Ob p X Y (sD p Z) := by unfold eF; rw [o5 (e := Z) hzn]; rfl
    rw [e]
    refine ⟨?_, fun h => by cases h⟩
    have hi := aaH hp c.pr hzn
    unfold Ob
    have h2 := bT hp (sD p Z) (sD p Z)
    have h3 := bT hp (aN p (sD p Z) (sD p Z)) (sD p Z)
    have hx := bT hp X (aN p (sD p Z) (sD p Z))
    have hy := bT hp Y (aN p (aN p (sD p Z) (sD p Z)) (sD p Z))
    have ex := fo (AE hp _ _) hP.1 (ami hx h2 hX hi)
    have ey := fo (AE hp _ _) hP.2.1 (amh hy h3 h2 hY hi)
    show some ((aN p X (aN p (sD p Z) (sD p Z))).nat, (aN p Y (aN p (aN p (sD p Z) (sD p Z)) (sD p Z))).nat) = some P
    rw [ex, ey]
theorem zC {p b : Nat} (c : Cur p b) {P : Pt} : afw p (eu P) (toQ P) := by
  obtain ⟨X, Y, i⟩ := P
  cases i
  · have h1 := c.big
    refine ⟨?_, fun h => ?_, ?_, ?_⟩
    · show (aa.mk 1 0 0 0).nat < p
      rw [GI]
      omega
    · have h : (p : Int) ∣ (((aa.mk 1 0 0 0).nat : Nat) : Int) := h
      rw [GI] at h
      have := Int.le_of_dvd (by decide) h
      omega
    · show (p : Int) ∣ (X.nat : Int) - (X.nat : Int) * ((((aa.mk 1 0 0 0).nat : Nat) : Int) * (((aa.mk 1 0 0 0).nat : Nat) : Int))
      rw [GI]
      exact ⟨0, by simp⟩
    · show (p : Int) ∣ (Y.nat : Int) - (Y.nat : Int) * ((((aa.mk 1 0 0 0).nat : Nat) : Int) * (((aa.mk 1 0 0 0).nat : Nat) : Int) * (((aa.mk 1 0 0 0).nat : Nat) : Int))
      rw [GI]
      exact ⟨0, by simp⟩
  · exact k8
theorem Ti {p : Nat} (X Y X2 s : aa) : Can (wi p X Y X2 s) := fun h => by cases h
theorem ab8 {p : Nat} {P R : Pt} (hP : Can P) (hR : Can R) : Can (dI p P R) := by
  obtain ⟨X, Y, i⟩ := P
  obtain ⟨X2, Y2, j⟩ := R
  unfold dI
  cases i
  · cases j
    · simp only [cond_false]
      cases eqE X X2
      · exact Ti _ _ _ _
      · cases eqE Y Y2
        · exact fun _ => rfl
        · exact Ti _ _ _ _
    · exact hP
  · exact hR
theorem ajS (k : aa) {n : Nat} (h : n < 256) : nd k (255 - (n : Int)) = yX k.nat (255 - n) := by
  unfold nd
  rw [decide_eq_true (show (0 : Int) ≤ 255 - (n : Int) by omega), decide_eq_true (show (255 : Int) - (n : Int) < 256 by omega), show ((255 : Int) - (n : Int)).toNat = 255 - n by omega]
  rfl
theorem zh {p b : Nat} (c : Cur p b) (hp : Sm p) (k : aa) {P : Pt} (hP : OnQ p b (toQ P)) (hc : Can P) : ∀ n, n ≤ 256 →
    afw p (upto (gH p k (eu P)) WW n) (toQ (upto (ci p k.nat P) aB n)) ∧ OnQ p b (toQ (upto (ci p k.nat P) aB n)) ∧ Can (upto (ci p k.nat P) aB n)
  | 0, _ => ⟨k8, trivial, fun _ => rfl⟩
  | n + 1, h => by
    obtain ⟨h1, h2, h3⟩ := zh c hp k hP hc n (by omega)
    show afw p (gH p k (eu P) n (upto (gH p k (eu P)) WW n)) (toQ (ci p k.nat P n (upto (ci p k.nat P) aB n))) ∧ OnQ p b (toQ (ci p k.nat P n (upto (ci p k.nat P) aB n))) ∧ Can (ci p k.nat P n (upto (ci p k.nat P) aB n))
    generalize upto (gH p k (eu P)) WW n = w at *
    generalize upto (ci p k.nat P) aB n = Q at *
    have d1 := abG c hp h2 h1
    have d2 := F4 c hp h2 h2
    have d3 := fT c h2 h2
    rw [← d2] at d1 d3
    have d4 := ab8 (p := p) h3 h3
    unfold gH ci
    rw [ajS k (by omega)]
    cases yX k.nat (255 - n)
    · exact ⟨d1, d3, d4⟩
    · simp only [cond_true]
      have e2 := F4 c hp d3 hP
      refine ⟨?_, ?_, ab8 d4 hc⟩
      · rw [e2]
        exact acE c hp d3 hP d1 (zC c)
      · rw [e2]
        exact fT c d3 hP
theorem GL {p b m : Nat} (pr : Pr p) (h3 : p = 3 * m + 1) (hb0 : 0 < b) (hb : b < p) (hm : Nat.blt m (2 ^ 256) = true) (hk : Nat.beq (pwm p (p - b) m) 1 = false) (x : Int) : ¬ (p : Int) ∣ x * x * x + b := fun hd => by
  have h2 := pr.1
  rw [ZF h2 hm] at hk
  obtain ⟨k, hk1⟩ := hd
  obtain ⟨j, hj⟩ := m4 pr.pos x
  have hn : p ∣ nm p x * nm p x * nm p x + b := Int.natCast_dvd_natCast.1 (by
    rw [Int.natCast_add, Int.natCast_mul, Int.natCast_mul]
    generalize ((nm p x : Nat) : Int) = n at *
    exact ⟨k + j * (n * n + n * x + x * x), by grind⟩)
  generalize nm p x = n at *
  have hpn : ¬ p ∣ n := fun hd => by
    have h1 : p ∣ n * n * n := Nat.dvd_trans hd (Nat.dvd_mul_left ..)
    have := (Nat.dvd_add_right h1).1 hn
    have := Nat.le_of_dvd hb0 this
    omega
  have hf := SO pr hpn
  have e : n ^ 3 % p = (p - b) % p := by
    obtain ⟨c, hc⟩ := hn
    have hc0 : c ≠ 0 := fun e => by rw [e] at hc; omega
    obtain ⟨d, rfl⟩ : ∃ d, c = d + 1 := ⟨c - 1, by omega⟩
    have : n ^ 3 = (p - b) + p * d := by
      rw [show n ^ 3 = n * n * n by rw [Nat.pow_succ, Nat.pow_succ, Nat.pow_one]]
      rw [Nat.mul_succ] at hc
      omega
    rw [this, Nat.add_mul_mod_self_left]
  have : (p - b) ^ m % p = 1 := by
    rw [Nat.pow_mod, ← e, ← Nat.pow_mod, ← Nat.pow_mul, show 3 * m = p - 1 by omega]
    exact hf
  rw [this] at hk
  cases hk
theorem bg {s : Int} (h : aj s = true) : Cur (pS s) (bS s).nat := by
  rcases cl h with rfl | rfl | rfl | rfl
  · have e : pS 0 = 16513537 := by decide +kernel
    have e2 : (bS 0).nat = 23 := by decide +kernel
    rw [e, e2]
    exact ⟨rk, by decide, GL (m := 5504512) rk (by decide) (by decide) (by decide) (by decide +kernel) (by decide +kernel)⟩
  · have e : pS 1 = 16521217 := by decide +kernel
    have e2 : (bS 1).nat = 21 := by decide +kernel
    rw [e, e2]
    exact ⟨rj, by decide, GL (m := 5507072) rj (by decide) (by decide) (by decide) (by decide +kernel) (by decide +kernel)⟩
  · have e : pS 2 = 28948022309329048855892746252171976963363056481941560715954676764349967630337 := by decide +kernel
    have e2 : (bS 2).nat = 5 := by decide +kernel
    rw [e, e2]
    exact ⟨aG, by decide, GL (m := 9649340769776349618630915417390658987787685493980520238651558921449989210112) aG (by decide) (by decide) (by decide) (by decide +kernel) (by decide +kernel)⟩
  · have e : pS 3 = 28948022309329048855892746252171976963363056481941647379679742748393362948097 := by decide +kernel
    have e2 : (bS 3).nat = 5 := by decide +kernel
    rw [e, e2]
    exact ⟨aF, by decide, GL (m := 9649340769776349618630915417390658987787685493980549126559914249464454316032) aF (by decide) (by decide) (by decide) (by decide +kernel) (by decide +kernel)⟩
theorem dS {s : Int} {P : Pt} (h : onB s P = true) : aj s = true ∧ OnQ (pS s) (bS s).nat (toQ P) ∧ Can P := by
  have hs := mn h
  have hp : Sm (pS s) := fc hs
  obtain ⟨X, Y, i⟩ := P
  refine ⟨hs, ?_⟩
  unfold onB at h
  rw [hs] at h
  simp only [cond_true] at h
  cases i
  · simp only [cond_false] at h
    refine ⟨?_, fun h => by cases h⟩
    rcases (Bool.eq_false_or_eq_true (Nat.blt X.nat (pS s))).symm with h1 | h1
    · rw [h1] at h; cases h
    · rcases (Bool.eq_false_or_eq_true (Nat.blt Y.nat (pS s))).symm with h2 | h2
      · rw [h1, h2] at h; cases h
      · rw [h1, h2] at h
        simp only [cond_true] at h
        have e := kD.1 h
        have hx : X.nat < pS s := cC h1
        have hy : Y.nat < pS s := cC h2
        refine ⟨hx, hy, ?_⟩
        have e1 := bT hp Y Y
        have e2 := bT hp X X
        have e3 := bT hp (aN (pS s) X X) X
        have e4 := Tx hp (aN (pS s) (aN (pS s) X X) X) (bS s)
        rw [e] at e1
        unfold yR at e1
        show ((pS s : Nat) : Int) ∣ (Y.nat : Int) * Y.nat - X.nat * X.nat * X.nat - (bS s).nat
        exact amt e1 e4 e3 e2
  · simp only [cond_true, Bool.and_eq_true] at h
    refine ⟨trivial, fun _ => ?_⟩
    have z : ∀ {e : aa}, cj e = true → e = ⟨0, 0, 0, 0⟩ := fun {e} h => js (by rw [e8] at h; rw [Nat.eq_of_beq_eq_true h]; exact k8.symm)
    rw [z h.1, z h.2.1]
    rfl
theorem I9 {s : Int} (h : aj s = true) (k : aa) : (qt s k).nat = (ofP (pS (qv s 1)) k).nat := by
  have hp := fc (fv h)
  unfold qt
  rw [show (nk (pS (qv s 1)) k ⟨0, 0, 0, 0⟩).nat = (k.nat + (aa.mk 0 0 0 0).nat) % pS (qv s 1) from cv hp, k8, Nat.add_zero]
  exact (cv hp).symm
theorem aeo (s : Int) (k : aa) (P : Pt) : ni s k P = tu s k P := by
  unfold ni tu
  rcases (Bool.eq_false_or_eq_true (onB s P)).symm with h | h
  · rw [h]
    rfl
  · rw [h]
    simp only [cond_true]
    obtain ⟨hs, hP, hc⟩ := dS h
    have c := bg hs
    have hp : Sm (pS s) := fc hs
    obtain ⟨h1, h2, h3⟩ := zh c hp (qt s k) hP hc 256 (Nat.le_refl _)
    obtain ⟨n1, n2⟩ := EF c hp h2 h1
    rw [← I9 hs]
    exact Th n2 h3 n1
end Go.Proofs.Ytkedomfjjahjnaa

namespace Go.Proofs.Ytkedomfjjahjnaa
open Sx Go
abbrev gA : Pt := (⟨0, 0, 0, 0⟩, ⟨0, 0, 0, 0⟩, false)
end Go.Proofs.Ytkedomfjjahjnaa

namespace Go.Proofs.Ytkedomfjjahjnaa
def cQ (p : Nat) : Nat → PtQ → PtQ
  | 0, _ => none
  | n + 1, P => cF p P (cQ p n P)
variable {p b : Nat}
theorem mZ (c : Cur p b) {P : PtQ} (hP : OnQ p b P) : ∀ n, OnQ p b (cQ p n P)
  | 0 => trivial
  | n + 1 => fT c hP (mZ c hP n)
theorem mul_one (P : PtQ) : cQ p 1 P = P := bR P
theorem pA : ∀ n, cQ p n none = none
  | 0 => rfl
  | n + 1 => pA n
theorem fj (c : Cur p b) {P : PtQ} (hP : OnQ p b P) (m : Nat) : ∀ n, cQ p (n + m) P = cF p (cQ p n P) (cQ p m P)
  | 0 => by rw [Nat.zero_add]; rfl
  | n + 1 => by
    rw [show n + 1 + m = (n + m) + 1 by omega]
    show cF p P (cQ p (n + m) P) = cF p (cF p P (cQ p n P)) (cQ p m P)
    rw [fj c hP m n, add_assoc c hP (mZ c hP n) (mZ c hP m)]
theorem jt (c : Cur p b) {P : PtQ} (hP : OnQ p b P) (m : Nat) : ∀ n, cQ p (n * m) P = cQ p n (cQ p m P)
  | 0 => by rw [Nat.zero_mul]; rfl
  | n + 1 => by
    rw [show (n + 1) * m = m + n * m by rw [Nat.succ_mul, Nat.add_comm], fj c hP, jt c hP m n]
    rfl
theorem mul_comm (c : Cur p b) {P : PtQ} (hP : OnQ p b P) (m n : Nat) : cQ p n (cQ p m P) = cQ p m (cQ p n P) := by
  rw [← jt c hP, ← jt c hP, Nat.mul_comm]
theorem Ij (c : Cur p b) {A B C D : PtQ} (hA : OnQ p b A) (hB : OnQ p b B) (hC : OnQ p b C) (hD : OnQ p b D) :
    cF p (cF p A B) (cF p C D) = cF p (cF p A C) (cF p B D) := by
  rw [add_assoc c hA hB (fT c hC hD), ← add_assoc c hB hC hD, add_comm c hB hC, add_assoc c hC hB hD, ← add_assoc c hA hC (fT c hB hD)]
theorem mul_add (c : Cur p b) {P R : PtQ} (hP : OnQ p b P) (hR : OnQ p b R) : ∀ n, cQ p n (cF p P R) = cF p (cQ p n P) (cQ p n R)
  | 0 => rfl
  | n + 1 => by
    show cF p (cF p P R) (cQ p n (cF p P R)) = cF p (cF p P (cQ p n P)) (cF p R (cQ p n R))
    rw [mul_add c hP hR n, Ij c hP hR (mZ c hP n) (mZ c hR n)]
theorem mul_neg (c : Cur p b) {P : PtQ} (hP : OnQ p b P) : ∀ n, cQ p n (GO p P) = GO p (cQ p n P)
  | 0 => rfl
  | n + 1 => by
    show cF p (GO p P) (cQ p n (GO p P)) = GO p (cF p P (cQ p n P))
    rw [mul_neg c hP n, neg_add c hP (mZ c hP n)]
theorem wR (c : Cur p b) {P R T : PtQ} (hP : OnQ p b P) (hR : OnQ p b R) (hT : OnQ p b T) (h : cF p P R = cF p P T) : R = T := by
  rw [← cancel c hP hR, h, cancel c hP hT]
theorem acW (c : Cur p b) {P : PtQ} (h : cF p P P = none) : P = none := by
  cases P with
  | none => rfl
  | some P =>
    have : cF p (some P) (some P) = some (qx p P P (mX p P P)) := if_neg fun h => h.2 rfl
    rw [this] at h
    cases h
theorem mul_gcd (c : Cur p b) {P : PtQ} (hP : OnQ p b P) (m k : Nat) : cQ p m P = none → cQ p k P = none → cQ p (Nat.gcd m k) P = none := by
  induction m, k using Nat.gcd.induction with
  | H0 n => intro _ h; rw [Nat.gcd_zero_left]; exact h
  | H1 m n hm ih =>
    intro h1 h2
    rw [Nat.gcd_rec]
    refine ih ?_ h1
    have e := Nat.div_add_mod n m
    rw [← e, Nat.mul_comm, fj c hP, jt c hP, h1, pA] at h2
    exact h2
theorem mul_mod (c : Cur p b) {P : PtQ} (hP : OnQ p b P) {q : Nat} (hq : cQ p q P = none) (n : Nat) : cQ p (n % q) P = cQ p n P := by
  have e := Nat.div_add_mod n q
  conv => rhs; rw [← e, Nat.mul_comm, fj c hP, jt c hP, hq, pA]
  rfl
def aka (p : Nat) : PtQ → Nat
  | none => 2 * p
  | some P => 2 * P.1 + P.2 % 2
theorem als {P : PtQ} (hP : OnQ p b P) : aka p P < 2 * p + 1 := by
  cases P with
  | none => show 2 * p < _; omega
  | some P =>
    have := hP.1
    show 2 * P.1 + P.2 % 2 < _
    omega
theorem ajC (c : Cur p b) (hodd : p % 2 = 1) {P R : PtQ} (hP : OnQ p b P) (hR : OnQ p b R) (h : aka p P = aka p R) : P = R := by
  cases P with
  | none =>
    cases R with
    | none => rfl
    | some R =>
      have := hR.1
      have h : 2 * p = 2 * R.1 + R.2 % 2 := h
      omega
  | some P =>
    cases R with
    | none =>
      have := hP.1
      have h : 2 * P.1 + P.2 % 2 = 2 * p := h
      omega
    | some R =>
      obtain ⟨x1, y1⟩ := P
      obtain ⟨x2, y2⟩ := R
      have h : 2 * x1 + y1 % 2 = 2 * x2 + y2 % 2 := h
      have hx : x1 = x2 := by omega
      have hy : y1 % 2 = y2 % 2 := by omega
      by_cases he : y1 = y2
      · rw [hx, he]
      · exfalso
        have ho := ZT c hP hR ⟨hx, he⟩
        have ho : some (x2, y2) = some (x1, nm p (-(y1 : Int))) := ho
        simp only [Option.some.injEq, Prod.mk.injEq] at ho
        have h2 := ho.2
        have hy1 : y1 < p := hP.2.1
        have h0 : y1 ≠ 0 := fun e => c.yne hP.2.2 (by show (p : Int) ∣ ((y1 : Nat) : Int); rw [e]; exact ⟨0, by simp⟩)
        have h3 : nm p (-(y1 : Int)) = p - y1 := ZX (by omega) ⟨1, by omega⟩
        omega
theorem acB (c : Cur p b) (hodd : p % 2 = 1) {q : Nat} (hq : Pr q) (hq2 : q % 2 = 1) (h3 : 2 * p + 1 < 3 * q) {G : PtQ} (hG : OnQ p b G) (hne : G ≠ none) (hqG : cQ p q G = none)
    {P : PtQ} (hP : OnQ p b P) : cQ p q P = none := by
  apply Classical.byContradiction
  intro hno
  have hord : ∀ i, cQ p i G = none → q ∣ i := fun i hi => by
    have hg := mul_gcd c hG q i hqG hi
    rcases hq.2 (Nat.gcd q i) (Nat.gcd_dvd_left ..) with e | e
    · rw [e, mul_one] at hg
      exact absurd hg hne
    · rw [← e]
      exact Nat.gcd_dvd_right ..
  have hon := fun i => mZ c hG i
  have honP := fun i => mZ c hP i
  -- no point of G's meets P or twice P
  have hp1 : ∀ i, P ≠ cQ p i G := fun i e => hno (by rw [e, mul_comm c hG, hqG, pA])
  have hp2 : ∀ i, cF p P P ≠ cQ p i G := fun i e => by
    have hh : ∃ j, cQ p i G = cF p (cQ p j G) (cQ p j G) := by
      refine ⟨i * ((q + 1) / 2), ?_⟩
      rw [← fj c hG, ← Nat.mul_add, show (q + 1) / 2 + (q + 1) / 2 = q + 1 by omega, Nat.mul_add, fj c hG, jt c hG, hqG, pA, Nat.mul_one]
      rfl
    obtain ⟨j, hj⟩ := hh
    rw [hj] at e
    have hn := xJ c (hon j)
    have : cF p (cF p (GO p (cQ p j G)) P) (cF p (GO p (cQ p j G)) P) = none := by
      rw [Ij c hn hP hn hP, e, add_comm c (fT c hn hn) (fT c (hon j) (hon j)), Ij c (hon j) (hon j) hn hn, add_neg c (hon j)]
      rfl
    have h2 := acW c this
    have h4 := AA c hn hP h2
    rw [neg_neg c (hon j)] at h4
    exact hp1 j h4
  -- differences of G's points
  have hdiff : ∀ i j A B, OnQ p b A → OnQ p b B → cF p (cQ p i G) A = cF p (cQ p j G) B → ∃ k, A = cF p (cQ p k G) B := fun i j A B hA hB e => by
    refine ⟨(q - i % q) + j, ?_⟩
    have hm : cQ p (i % q) G = cQ p i G := mul_mod c hG hqG i
    have hlt := Nat.mod_lt i hq.pos
    have hz : cF p (cQ p (q - i % q) G) (cQ p i G) = none := by
      rw [← hm, ← fj c hG, show q - i % q + i % q = q by omega, hqG]
    rw [fj c hG, add_assoc c (hon _) (hon _) hB, ← e, ← add_assoc c (hon _) (hon _) hA, hz]
    rfl
  have hinj : ∀ i j, i < q → j < q → cQ p i G = cQ p j G → i = j := by
    have aux : ∀ i j, i ≤ j → j < q → cQ p i G = cQ p j G → i = j := fun i j hij hj e => by
      have e2 : cF p (cQ p i G) none = cF p (cQ p i G) (cQ p (j - i) G) := by
        rw [← fj c hG, show i + (j - i) = j by omega, bR, e]
      have h0 := wR c (hon i) (R := none) trivial (hon _) e2
      have hd := hord _ h0.symm
      by_cases h : j - i = 0
      · omega
      · have := Nat.le_of_dvd (by omega) hd
        omega
    intro i j hi hj e
    rcases Nat.le_total i j with h | h
    · exact aux i j h hj e
    · exact (aux j i h hi e.symm).symm
  let tw : Nat → PtQ := fun k => cQ p (k / q) P
  let pt : Nat → PtQ := fun k => cF p (cQ p (k % q) G) (cQ p (k / q) P)
  have hpt : ∀ k, OnQ p b (pt k) := fun k => fT c (hon _) (honP _)
  have hcoset : ∀ i j, i < 3 → j < 3 → (∃ k, cQ p i P = cF p (cQ p k G) (cQ p j P)) → i = j := by
    have P1 : cQ p 1 P = P := mul_one P
    have P2 : cQ p 2 P = cF p P P := congrArg (cF p P) (mul_one P)
    have back : ∀ k A B, OnQ p b A → OnQ p b B → A = cF p (cQ p k G) B → ∃ k', B = cF p (cQ p k' G) A := fun k A B hA hB e => by
      refine hdiff k 0 B A hB hA ?_
      rw [← e]
      rfl
    have n01 : ∀ k, cQ p 0 P ≠ cF p (cQ p k G) (cQ p 1 P) := fun k e => by
      obtain ⟨k', e'⟩ := back k _ _ (honP 0) (honP 1) e
      rw [P1, show cQ p 0 P = none from rfl, bR] at e'
      exact hp1 k' e'
    have n02 : ∀ k, cQ p 0 P ≠ cF p (cQ p k G) (cQ p 2 P) := fun k e => by
      obtain ⟨k', e'⟩ := back k _ _ (honP 0) (honP 2) e
      rw [P2, show cQ p 0 P = none from rfl, bR] at e'
      exact hp2 k' e'
    have n12 : ∀ k, cQ p 1 P ≠ cF p (cQ p k G) (cQ p 2 P) := fun k e => by
      rw [P1, P2, ← add_assoc c (hon k) hP hP] at e
      have e2 : cF p P none = cF p P (cF p (cQ p k G) P) := by
        rw [bR, ← add_assoc c hP (hon k) hP, add_comm c hP (hon k)]
        exact e
      have e3 := wR c hP (R := none) trivial (fT c (hon k) hP) e2
      obtain ⟨k', e'⟩ := back k none P trivial hP e3
      rw [bR] at e'
      exact hp1 k' e'
    rintro i j hi hj ⟨k, hk⟩
    apply Classical.byContradiction
    intro hij
    have bk := back k _ _ (honP i) (honP j) hk
    have : (i = 0 ∧ j = 1) ∨ (i = 0 ∧ j = 2) ∨ (i = 1 ∧ j = 2) ∨ (i = 1 ∧ j = 0) ∨ (i = 2 ∧ j = 0) ∨ (i = 2 ∧ j = 1) := by omega
    rcases this with ⟨rfl, rfl⟩ | ⟨rfl, rfl⟩ | ⟨rfl, rfl⟩ | ⟨rfl, rfl⟩ | ⟨rfl, rfl⟩ | ⟨rfl, rfl⟩
    · exact n01 k hk
    · exact n02 k hk
    · exact n12 k hk
    · obtain ⟨k', e⟩ := bk; exact n01 k' e
    · obtain ⟨k', e⟩ := bk; exact n02 k' e
    · obtain ⟨k', e⟩ := bk; exact n12 k' e
  have hptinj : ∀ x ∈ List.range (3 * q), ∀ y ∈ List.range (3 * q), aka p (pt x) = aka p (pt y) → x = y := fun x hx y hy e => by
    rw [List.mem_range] at hx hy
    have e := ajC c hodd (hpt x) (hpt y) e
    have hdx : x / q < 3 := Nat.div_lt_of_lt_mul (by rw [Nat.mul_comm]; exact hx)
    have hdy : y / q < 3 := Nat.div_lt_of_lt_mul (by rw [Nat.mul_comm]; exact hy)
    have h1 := hcoset (x / q) (y / q) hdx hdy (hdiff _ _ _ _ (honP _) (honP _) e)
    have e : cF p (cQ p (x % q) G) (cQ p (x / q) P) = cF p (cQ p (y % q) G) (cQ p (y / q) P) := e
    rw [h1, add_comm c (hon _) (honP _), add_comm c (hon (y % q)) (honP _)] at e
    have h2 := hinj _ _ (Nat.mod_lt _ hq.pos) (Nat.mod_lt _ hq.pos) (wR c (honP _) (hon _) (hon _) e)
    have e1 := Nat.div_add_mod x q
    have e2 := Nat.div_add_mod y q
    rw [← e1, ← e2, h1, h2]
  have hnd := nU (f := fun k => aka p (pt k)) List.nodup_range hptinj
  have hlen := tK (l2 := List.range (2 * p + 1)) hnd (fun x hx => by
    obtain ⟨k, _, rfl⟩ := List.mem_map.1 hx
    exact List.mem_range.2 (als (hpt k)))
  rw [List.length_map, List.length_range, List.length_range] at hlen
  omega
end Go.Proofs.Ytkedomfjjahjnaa

namespace Go.Proofs.Ytkedomfjjahjnaa
open Sx Go
theorem qY {p b : Nat} (c : Cur p b) (hp : Sm p) {k : Nat} (hk : k < 2 ^ 256) {P : Pt} (hP : OnQ p b (toQ P)) : ∀ n, n ≤ 256 →
    toQ (upto (ci p k P) aB n) = cQ p (k / 2 ^ (256 - n)) (toQ P)
  | 0, _ => by
    rw [Nat.sub_zero, Nat.div_eq_of_lt hk]
    rfl
  | n + 1, h => by
    have ih := qY c hp hk hP n (by omega)
    have ho := mZ c hP (k / 2 ^ (256 - n))
    show toQ (ci p k P n (upto (ci p k P) aB n)) = _
    generalize upto (ci p k P) aB n = Q at *
    have hQ : OnQ p b (toQ Q) := by rw [ih]; exact ho
    have d2 := F4 c hp hQ hQ
    have e1 : 256 - n = (255 - n) + 1 := by omega
    have hd : k / 2 ^ (256 - n) = k / 2 ^ (255 - n) / 2 := by rw [e1, Nat.pow_succ, Nat.div_div_eq_div_mul]
    rw [show 256 - (n + 1) = 255 - n by omega]
    rw [hd] at ih ho
    unfold ci
    cases hb : yX k (255 - n)
    · have h0 := H9 hb
      simp only [cond_false]
      rw [d2, ih, ← fj c hP]
      congr 1
      omega
    · have h0 : k / 2 ^ (255 - n) % 2 = 1 := Nat.eq_of_beq_eq_true hb
      simp only [cond_true]
      have d3 : OnQ p b (toQ (dI p Q Q)) := by rw [d2]; exact fT c hQ hQ
      rw [F4 c hp d3 hP, d2, ih, ← fj c hP, add_comm c (mZ c hP _) hP]
      show cQ p (_ + 1) (toQ P) = _
      congr 1
      omega
theorem TZ {p b : Nat} (c : Cur p b) (hp : Sm p) {k : Nat} (hk : k < 2 ^ 256) {P : Pt} (hP : OnQ p b (toQ P)) : toQ (zS p k P) = cQ p k (toQ P) := by
  have h := qY c hp hk hP 256 (Nat.le_refl _)
  rw [Nat.sub_self, Nat.pow_zero, Nat.div_one] at h
  exact h
theorem akP {p b x y : Nat} (hx : x < p) (hy : y < p) (h : Nat.beq (y * y % p) ((x * x * x + b) % p) = true) : OnQ p b (some (x, y)) := by
  refine ⟨hx, hy, ?_⟩
  have h := Nat.eq_of_beq_eq_true h
  obtain ⟨k, hk⟩ := af1 (p := p) (y * y)
  obtain ⟨m, hm⟩ := af1 (p := p) (x * x * x + b)
  rw [h] at hk
  rw [Int.natCast_mul] at hk
  rw [Int.natCast_add, Int.natCast_mul, Int.natCast_mul] at hm
  show (p : Int) ∣ (y : Int) * y - x * x * x - b
  generalize (((x * x * x + b) % p : Nat) : Int) = r at *
  refine ⟨m - k, ?_⟩
  rw [Int.mul_sub, ← hm, ← hk]
  omega
def aiE (p q : Nat) (x y : aa) : Bool := cj (upto (gH p (ofN q) (eu (x, y, false))) WW 256).2.2
theorem amb {p b q : Nat} (c : Cur p b) (hp : Sm p) (hq : q < 115792089237316195423570985008687907853269984665640564039457584007913129639936) {x y : aa} (hG : OnQ p b (some (x.nat, y.nat))) (h : aiE p q x y = true) : cQ p q (some (x.nat, y.nat)) = none := by
  have hG' : OnQ p b (toQ (x, y, false)) := hG
  obtain ⟨h1, h2, h3⟩ := zh c hp (ofN q) hG' (fun h => by cases h) 256 (Nat.le_refl _)
  have h4 := qY c hp (k := (ofN q).nat) (fU _) hG' 256 (Nat.le_refl _)
  rw [gG hq, Nat.sub_self, Nat.pow_zero, Nat.div_one] at h4
  rw [gG hq] at h1
  have h4 : toQ (upto (ci p q (x, y, false)) aB 256) = cQ p q (some (x.nat, y.nat)) := h4
  rw [h4] at h1
  unfold aiE at h
  cases hm : cQ p q (some (x.nat, y.nat)) with
  | none => rfl
  | some S =>
    rw [hm] at h1
    rw [o5 h1.2.1] at h
    cases h
end Go.Proofs.Ytkedomfjjahjnaa

namespace Go.Proofs.Ytkedomfjjahjnaa
open Sx Go
theorem GH {p b q : Nat} (c : Cur p b) (hp : Sm p) (hodd : Nat.beq (p % 2) 1 = true) (hq : Pr q) (hq2 : Nat.beq (q % 2) 1 = true) (hqb : Nat.blt q 115792089237316195423570985008687907853269984665640564039457584007913129639936 = true) (h3 : Nat.blt (2 * p + 1) (3 * q) = true)
    {x y : aa} (hx : Nat.blt x.nat p = true) (hy : Nat.blt y.nat p = true) (he : Nat.beq (y.nat * y.nat % p) ((x.nat * x.nat * x.nat + b) % p) = true) (h : aiE p q x y = true) {P : PtQ} (hP : OnQ p b P) : cQ p q P = none := by
  have hG := akP (cC hx) (cC hy) he
  exact acB c (Nat.eq_of_beq_eq_true hodd) hq (Nat.eq_of_beq_eq_true hq2) (cC h3) hG (fun e => by cases e) (amb c hp (cC hqb) hG h) hP
theorem ak0 : pS 0 = 16513537 := by decide +kernel
theorem akZ : pS 1 = 16521217 := by decide +kernel
theorem akY : pS 2 = 28948022309329048855892746252171976963363056481941560715954676764349967630337 := by decide +kernel
theorem akX : pS 3 = 28948022309329048855892746252171976963363056481941647379679742748393362948097 := by decide +kernel
theorem amZ : (bS 0).nat = 23 := by decide +kernel
theorem amY : (bS 1).nat = 21 := by decide +kernel
theorem amX : (bS 2).nat = 5 := by decide +kernel
theorem amW : (bS 3).nat = 5 := by decide +kernel
theorem amf : aiE 16513537 16521217 ⟨1, 0, 0, 0⟩ ⟨2487377, 0, 0, 0⟩ = true := by decide +kernel
theorem ame : aiE 16521217 16513537 ⟨1, 0, 0, 0⟩ ⟨7286451, 0, 0, 0⟩ = true := by decide +kernel
theorem amd : aiE 28948022309329048855892746252171976963363056481941560715954676764349967630337 28948022309329048855892746252171976963363056481941647379679742748393362948097
    (ofN 28948022309329048855892746252171976963363056481941560715954676764349967630336) ⟨2, 0, 0, 0⟩ = true := by decide +kernel
theorem amc : aiE 28948022309329048855892746252171976963363056481941647379679742748393362948097 28948022309329048855892746252171976963363056481941560715954676764349967630337
    (ofN 28948022309329048855892746252171976963363056481941647379679742748393362948096) ⟨2, 0, 0, 0⟩ = true := by decide +kernel
theorem afW {s : Int} (hs : aj s = true) {P : PtQ} (hP : OnQ (pS s) (bS s).nat P) : cQ (pS s) (pS (qv s 1)) P = none := by
  have c := bg hs
  have hp : Sm (pS s) := fc hs
  rcases cl hs with rfl | rfl | rfl | rfl
  · rw [show qv 0 1 = 1 by decide +kernel]
    rw [ak0, akZ, amZ] at *
    exact GH c hp (by decide +kernel) rj (by decide +kernel) (by decide +kernel) (by decide +kernel) (by decide +kernel) (by decide +kernel) (by decide +kernel) amf hP
  · rw [show qv 1 1 = 0 by decide +kernel]
    rw [ak0, akZ, amY] at *
    exact GH c hp (by decide +kernel) rk (by decide +kernel) (by decide +kernel) (by decide +kernel) (by decide +kernel) (by decide +kernel) (by decide +kernel) ame hP
  · rw [show qv 2 1 = 3 by decide +kernel]
    rw [akY, akX, amX] at *
    exact GH c hp (by decide +kernel) aF (by decide +kernel) (by decide +kernel) (by decide +kernel) (by decide +kernel) (by decide +kernel) (by decide +kernel) amd hP
  · rw [show qv 3 1 = 2 by decide +kernel]
    rw [akY, akX, amW] at *
    exact GH c hp (by decide +kernel) aG (by decide +kernel) (by decide +kernel) (by decide +kernel) (by decide +kernel) (by decide +kernel) (by decide +kernel) amc hP
end Go.Proofs.Ytkedomfjjahjnaa

namespace Go.Proofs.Ytkedomfjjahjnaa
open Sx Go
theorem ZU {s : Int} {P : Pt} (hs : aj s = true) (h : OnQ (pS s) (bS s).nat (toQ P)) (hc : Can P) : onB s P = true := by
  have hp : Sm (pS s) := fc hs
  obtain ⟨X, Y, i⟩ := P
  cases i
  · obtain ⟨hx, hy, hv⟩ := h
    have hx : X.nat < pS s := hx
    have hy : Y.nat < pS s := hy
    have hv : ((pS s : Nat) : Int) ∣ (Y.nat : Int) * Y.nat - X.nat * X.nat * X.nat - (bS s).nat := hv
    unfold onB
    rw [hs]
    have e1 : Nat.blt X.nat (pS s) = true := Nat.ble_eq_true_of_le hx
    have e2 : Nat.blt Y.nat (pS s) = true := Nat.ble_eq_true_of_le hy
    simp only [cond_true, cond_false, e1, e2]
    refine kD.2 (js (fo (AE hp _ _) (acF hp _ _) ?_))
    have c1 := bT hp Y Y
    have c2 := bT hp X X
    have c3 := bT hp (aN (pS s) X X) X
    have c4 := Tx hp (aN (pS s) (aN (pS s) X X) X) (bS s)
    unfold yR
    exact ams c1 c4 c3 c2 hv
  · rw [hc rfl]
    unfold onB
    rw [hs]
    rfl
theorem agm {s : Int} {P : Pt} (h : onB s P = true) : Can P := (dS h).2.2
theorem ajM : Can aB := fun _ => rfl
theorem kp {s : Int} {P R : Pt} (hP : onB s P = true) (hR : onB s R = true) : toQ (dY s P R) = cF (pS s) (toQ P) (toQ R) ∧ onB s (dY s P R) = true := by
  obtain ⟨hs, h1, h2⟩ := dS hP
  obtain ⟨_, h3, h4⟩ := dS hR
  have c := bg hs
  have hp : Sm (pS s) := fc hs
  have e : dY s P R = eF (pS s) (Md (pS s) (eu P) (eu R)) := by unfold dY; rw [hP, hR]; rfl
  obtain ⟨n1, n2⟩ := EF c hp (fT c h1 h3) (acE c hp h1 h3 (zC c) (zC c))
  rw [e]
  exact ⟨n1, ZU hs (by rw [n1]; exact fT c h1 h3) n2⟩
theorem tM {s : Int} (hs : aj s = true) : onB s aB = true := ZU hs trivial ajM
theorem GR {s : Int} (k : aa) {P : Pt} (hP : onB s P = true) : toQ (ni s k P) = cQ (pS s) k.nat (toQ P) ∧ onB s (ni s k P) = true := by
  obtain ⟨hs, h1, h2⟩ := dS hP
  have c := bg hs
  have hp : Sm (pS s) := fc hs
  have hk : (ofP (pS (qv s 1)) k).nat = k.nat % pS (qv s 1) := cv (fc (fv hs))
  have e : ni s k P = zS (pS s) (ofP (pS (qv s 1)) k).nat P := by rw [aeo]; unfold tu; rw [hP]; rfl
  have ht : toQ (ni s k P) = cQ (pS s) k.nat (toQ P) := by
    rw [e, TZ c hp (fU _) h1, hk, mul_mod c h1 (afW hs h1)]
  refine ⟨ht, ZU hs (by rw [ht]; exact mZ c h1 _) ?_⟩
  rw [e]
  exact (zh c hp (ofP (pS (qv s 1)) k) h1 h2 256 (Nat.le_refl _)).2.2
end Go.Proofs.Ytkedomfjjahjnaa

namespace Go.Proofs.Ytkedomfjjahjnaa
open Sx Go
def Gp {p b : Nat} (_ : Cur p b) : Type := { P : PtQ // OnQ p b P }
section
variable {p b : Nat} {c : Cur p b}
instance : Add (Gp c) := ⟨fun x y => ⟨cF p x.1 y.1, fT c x.2 y.2⟩⟩
instance : Zero (Gp c) := ⟨⟨none, trivial⟩⟩
instance : Neg (Gp c) := ⟨fun x => ⟨GO p x.1, xJ c x.2⟩⟩
instance : Std.Associative (α := Gp c) (· + ·) := ⟨fun x y z => Subtype.ext (add_assoc c x.2 y.2 z.2)⟩
instance : Std.Commutative (α := Gp c) (· + ·) := ⟨fun x y => Subtype.ext (add_comm c x.2 y.2)⟩
theorem alf (x y : Gp c) : x + y = y + x := Subtype.ext (add_comm c x.2 y.2)
theorem ai1 (x y z : Gp c) : x + y + z = x + (y + z) := Subtype.ext (add_assoc c x.2 y.2 z.2)
theorem Br (x : Gp c) : x + 0 = x := Subtype.ext (bR x.1)
theorem akf (x : Gp c) : 0 + x = x := Subtype.ext rfl
def sm (n : Nat) (x : Gp c) : Gp c := ⟨cQ p n x.1, mZ c x.2 n⟩
theorem Yz (x : Gp c) : sm 0 x = 0 := rfl
theorem afK (x : Gp c) : sm 1 x = x := Subtype.ext (mul_one x.1)
theorem ah2 (n : Nat) (x : Gp c) : sm (n + 1) x = x + sm n x := rfl
theorem YA (m n : Nat) (x : Gp c) : sm (m + n) x = sm m x + sm n x := Subtype.ext (fj c x.2 n m)
theorem Q8 (m n : Nat) (x : Gp c) : sm (m * n) x = sm m (sm n x) := Subtype.ext (jt c x.2 n m)
theorem afM (n : Nat) (x y : Gp c) : sm n (x + y) = sm n x + sm n y := Subtype.ext (mul_add c x.2 y.2 n)
theorem YB (n : Nat) : sm n (0 : Gp c) = 0 := Subtype.ext (pA n)
def ng : List (Nat × Gp c) → Gp c
  | [] => 0
  | t :: r => sm t.1 t.2 + ng r
theorem qS (l r : List (Nat × Gp c)) : ng (l ++ r) = ng l + ng r := by
  induction l with
  | nil => exact (akf _).symm
  | cons t l ih =>
    show sm t.1 t.2 + ng (l ++ r) = sm t.1 t.2 + ng l + ng r
    rw [ih, ai1]
open Classical in
noncomputable def gp (c : Cur p b) (P : Pt) : Gp c := if h : OnQ p b (toQ P) then ⟨toQ P, h⟩ else 0
theorem KR (P : Pt) (h : OnQ p b (toQ P)) : gp c P = ⟨toQ P, h⟩ := dif_pos h
end
section
variable {s : Int} (hs : aj s = true)
theorem alc {P R : Pt} (hP : onB s P = true) (hR : onB s R = true) (h : gp (bg hs) P = gp (bg hs) R) : P = R := by
  rw [KR P (dS hP).2.1, KR R (dS hR).2.1] at h
  exact Th (agm hP) (agm hR) (congrArg Subtype.val h)
theorem KS : gp (bg hs) aB = 0 := KR aB trivial
theorem Bp {P R : Pt} (hP : onB s P = true) (hR : onB s R = true) : gp (bg hs) (dY s P R) = gp (bg hs) P + gp (bg hs) R := by
  obtain ⟨e, o⟩ := kp hP hR
  rw [KR P (dS hP).2.1, KR R (dS hR).2.1, KR _ (dS o).2.1]
  exact Subtype.ext e
theorem af6 (k : aa) {P : Pt} (hP : onB s P = true) : gp (bg hs) (ni s k P) = sm k.nat (gp (bg hs) P) := by
  obtain ⟨e, o⟩ := GR k hP
  rw [KR P (dS hP).2.1, KR _ (dS o).2.1]
  exact Subtype.ext e
theorem afL (n : Nat) (x : Gp (bg hs)) : sm (n % pS (qv s 1)) x = sm n x := Subtype.ext (mul_mod (bg hs) x.2 (afW hs x.2) n)
end
end Go.Proofs.Ytkedomfjjahjnaa

namespace Go.Proofs.Ytkedomfjjahjnaa
open Sx Go
set_option maxRecDepth 100000
abbrev iW : Ty := .prod .elem (.prod .elem (.prod .elem .bool))
def gh : ap := ⟨[.val false (.list iW)], [], true, 0, false⟩
abbrev Oq : Type := ((List iW.T) × Unit) × (Unit)
def n0 : az := ⟨[.own 0], [(0, .row iW)], false⟩
def ET : SV → Option az := fun _ => some n0
def Hb (a0 : List iW.T) : OT gh.Y :=
  (gd [decide (((0 : Nat) + List.length a0) * (104 : Nat) ≤ (140737488355328 : Nat))] (.ok ⟨n0, (((), ()), ([] ++ a0, ()))⟩))
def aau : OT gh.Y := .ok ⟨n0, (((), ()), ([], ()))⟩
theorem aeF (x : Oq) (Q : gh.Y → Prop) : wpf te ur ay 1000 Try.f65 (gh.inp.inj x).tm (gh.inp.inj x).hp (fnK gh ET Q) (fun _ _ => False) =
    Bool.rec (motive := fun _ => Prop) ((Hb x.1.1).wpR Q) (aau.wpR Q ∧ (Hb x.1.1).wpR Q) (List.isEmpty x.1.1) := by kernel_rfl
def wc (x : Oq) : Bool := decide (x.1.1.length * 104 ≤ 140737488355328)
def Sa (x : Oq) : OT gh.Y := .ok ⟨n0, (((), ()), (x.1.1, ()))⟩
theorem aat : ab Try.prog 65 (gh.aK wc Sa) := by
  refine ajf au rY Mh (f := 65) (fn := Try.f65) (c := al Try.f65) (by kernel_rfl) (by kernel_rfl) (by kernel_rfl) (S := gh) (k := 0) (by kernel_rfl) (Λ := ay) (fun R hR => af) (n := 1000) fun x oy hp hr => ⟨fnK gh ET (fun z => z = oy), fun _ _ => False, ?_, fun v hp hq => ?_, fun _ _ hq => hq.elim⟩
  · refine (aeF x _).mpr ?_
    cases hr
    have hp' : x.1.1.length * 104 ≤ 140737488355328 := of_decide_eq_true hp
    have h1 : (Hb x.1.1).wpR (fun z => z = ⟨n0, (((), ()), (x.1.1, ()))⟩) := by
      rw [OT.Qq]
      refine OT.sH (ai ?_) rfl
      simp only [List.all_cons, List.all_nil, Bool.and_true]
      exact decide_eq_true (by omega)
    cases hb : List.isEmpty x.1.1
    · exact h1
    · refine ⟨?_, h1⟩
      rw [List.isEmpty_iff.1 hb]
      rfl
  · unfold fnK at hq
    split at hq
    · rename_i o ho
      split at hq
      · rename_i y hy
        subst hq
        exact ⟨by cases ho; rfl, hy⟩
      · exact hq.elim
    · exact hq.elim
def rD : cK := (gh.aK wc Sa)
theorem Kz : ab Try.prog 65 rD := aat
theorem Ky : aL rD := aD
def uK : Env := aA 65 rD ur
theorem sj : aW Try.prog uK := ag Kz rY
theorem uJ : av uK := ac Ky uq
theorem Mp : bm Try.prog te uK := aP follows au sj uJ
def m7 : ap := ⟨[.val false .int], [], true, 0, false⟩
def G6 : az := ⟨[.u5, .val false .int], [], false⟩
def Om : az := ⟨[.ptr 0 0 0, .val false .int], [(0, .cells [.val false .int, .own 1]), (1, .row iW)], false⟩
abbrev UT : Type := ((Int) × Unit) × (Unit)
def Kr : List az := [G6, Om]
def R6 (a0 : Int) : OT m7.Y :=
  (.br (decide (a0 < (0 : Int)))
  (.ok ⟨G6, (((), ((40 : Int), ())), ())⟩)
  (.br (decide ((3 : Int) < a0))
    (.ok ⟨G6, (((), ((40 : Int), ())), ())⟩)
    (.ok ⟨Om, (((), ((0 : Int), ())), ((a0, ((), ())), ([], ())))⟩)))
theorem ak1 (x : UT) (Q : m7.Y → Prop) : wpf te uK ay 1000 Try.f28 (m7.inp.inj x).tm (m7.inp.inj x).hp (aj8 m7 Kr Q) (fun _ _ => False) = (R6 (x.1.1)).wpR Q := by kernel_rfl
theorem aam (pre : UT → Bool) (F : UT → OT m7.Y) (hF : ∀ (x : UT) oy, pre x = true → (F x).run = some oy → (R6 (x.1.1)).run = some oy) : ab Try.prog 28 (m7.aK pre F) :=
  aeW au sj Mp (f := 28) (fn := Try.f28) (c := al Try.f28) (by kernel_rfl) (by kernel_rfl) (by kernel_rfl) (S := m7) (k := 0) (by kernel_rfl) (fun R hR => af) (n := 1000) (outs := Kr) (by kernel_rfl) (pre := pre) (F := F) (T := fun x => R6 (x.1.1)) (fun x Q => ak1 x Q) hF
def R5 (_ : UT) : Bool := true
def af0 (x : UT) : OT m7.Y := .br (aj x.1.1) (.ok ⟨Om, (((), ((0 : Int), ())), ((x.1.1, ((), ())), ([], ())))⟩) (.ok ⟨G6, (((), ((40 : Int), ())), ())⟩)
theorem aiX : ab Try.prog 28 (m7.aK R5 af0) := aam _ _ fun x oy _ ho => by
  rw [← ho]
  clear ho
  obtain ⟨⟨s, ⟨⟩⟩, ⟨⟩⟩ := x
  show (R6 s).run = (OT.br (aj s) _ _ : OT m7.Y).run
  by_cases h0 : s < 0
  · refine (OT.ao (decide_eq_true h0)).trans (OT.ax (b := aj s) ?_).symm
    simp only [aj, decide_eq_false (show ¬ (0 : Int) ≤ s by omega), Bool.false_and]
  · refine (OT.ax (decide_eq_false h0)).trans ?_
    by_cases h3 : 3 < s
    · refine (OT.ao (decide_eq_true h3)).trans (OT.ax (b := aj s) ?_).symm
      simp only [aj, decide_eq_false (show ¬ s < 4 by omega), Bool.and_false]
    · refine (OT.ax (decide_eq_false h3)).trans (OT.ao (b := aj s) ?_).symm
      simp only [aj, decide_eq_true (show (0 : Int) ≤ s by omega), decide_eq_true (show s < 4 by omega), Bool.and_self]
def AR : cK := (m7.aK R5 af0)
theorem US : ab Try.prog 28 AR := aiX
theorem UR : aL AR := aD
def Mn : Env := aA 28 AR uK
theorem C0 : aW Try.prog Mn := ag US sj
theorem C1 : av Mn := ac UR uJ
theorem Wy : bm Try.prog te Mn := aP follows au C0 C1
def alY (w : Sh) : CSh := .cells [.val false .int, w]
def m8 : ap := ⟨[.ptr 0 0 0, .val true .elem, .val true (.prod .elem (.prod .elem .bool))], [(0, alY (.own 1)), (1, .row iW)], false, 1, true⟩
abbrev U4 : Type := ((Unit) × (aa) × ((aa × (aa × Bool))) × Unit) × (((Int) × (Unit) × Unit) × (List ((aa × (aa × (aa × Bool))))) × Unit)
def n8 : az := ⟨[.val false .int], [(0, .cells [.val false .int, .own 1]), (1, .row (.prod .elem (.prod .elem (.prod .elem .bool))))], false⟩
def Sc : SV → Option az := fun _ => some n8
def Se (a1 : aa) (a2 : (aa × (aa × Bool))) (c0_0 : Int) (c1 : List ((aa × (aa × (aa × Bool))))) : OT m8.Y :=
  let z0 : Int := qv c0_0 (1 : Int)
  let z1 : aa := { w0 := 0, w1 := 0, w2 := 0, w3 := 0 }
  (.br (!onB c0_0 a2)
  (.ok ⟨n8, (((41 : Int), ()), ((c0_0, ((), ())), (c1, ())))⟩)
  (.br (decide ((100000 : Int) ≤ (↑(List.length c1) : Int)))
    (.ok ⟨n8, (((50 : Int), ()), ((c0_0, ((), ())), (c1, ())))⟩)
    (.br (aj z0)
      (gd [decide ((List.length c1 + 1) * 104 ≤ 140737488355328)] (.ok ⟨n8, (((0 : Int), ()), ((c0_0, ((), ())), (c1 ++ [(nk (pS z0) a1 z1, a2)], ())))⟩))
      (gd [decide ((List.length c1 + 1) * 104 ≤ 140737488355328)] (.ok ⟨n8, (((0 : Int), ()), ((c0_0, ((), ())), (c1 ++ [(z1, a2)], ())))⟩)))))
theorem ak2 (x : U4) (Q : m8.Y → Prop) : wpf te Mn ay 1000 Try.f29 (m8.inp.inj x).tm (m8.inp.inj x).hp (fnK m8 Sc Q) (fun _ _ => False) = (Se (x.1.2.1) (x.1.2.2.1) (x.2.1.1) (x.2.2.1)).wpR Q := by kernel_rfl
theorem aav (pre : U4 → Bool) (F : U4 → OT m8.Y) (hF : ∀ (x : U4) oy, pre x = true → (F x).run = some oy → (Se (x.1.2.1) (x.1.2.2.1) (x.2.1.1) (x.2.2.1)).run = some oy) : ab Try.prog 29 (m8.aK pre F) :=
  aE au C0 Wy (f := 29) (fn := Try.f29) (c := al Try.f29) (by kernel_rfl) (by kernel_rfl) (by kernel_rfl) (S := m8) (k := 2) (by kernel_rfl) (fun R hR => af) (n := 1000) (sel := Sc) (fun v o h => by cases h; rfl) (pre := pre) (F := F) (T := fun x => Se (x.1.2.1) (x.1.2.2.1) (x.2.1.1) (x.2.2.1)) (fun x Q => ak2 x Q) hF
abbrev Tm : Type := iW.T
def eE : Tm := (⟨0, 0, 0, 0⟩, ⟨0, 0, 0, 0⟩, ⟨0, 0, 0, 0⟩, false)
def sX (l : List Tm) : Bool := decide (l.length < 100000)
def Sd (_ : U4) : Bool := true
def af2 (x : U4) : OT m8.Y := .br (onB x.2.1.1 x.1.2.2.1) (.br (sX x.2.2.1) (.ok ⟨n8, (((0 : Int), ()), ((x.2.1.1, ((), ())), (x.2.2.1 ++ [(qt x.2.1.1 x.1.2.1, x.1.2.2.1)], ())))⟩)
  (.ok ⟨n8, (((50 : Int), ()), ((x.2.1.1, ((), ())), (x.2.2.1, ())))⟩)) (.ok ⟨n8, (((41 : Int), ()), ((x.2.1.1, ((), ())), (x.2.2.1, ())))⟩)
theorem aiY : ab Try.prog 29 (m8.aK Sd af2) := aav _ _ fun x oy _ ho => by
  rw [← ho]
  clear ho
  obtain ⟨⟨⟨⟩, k, P, ⟨⟩⟩, ⟨⟨c, ⟨⟩, ⟨⟩⟩, l, ⟨⟩⟩⟩ := x
  show (Se k P c l).run = (OT.br (onB c P) (.br (sX l) _ _) _ : OT m8.Y).run
  rcases (Bool.eq_false_or_eq_true (onB c P)).symm with h | h
  · exact (OT.ao (b := !onB c P) (by rw [h]; rfl)).trans (OT.ax (b := onB c P) h).symm
  · refine (OT.ax (b := !onB c P) (by rw [h]; rfl)).trans (Eq.trans ?_ (OT.ao (b := onB c P) h).symm)
    rcases (Bool.eq_false_or_eq_true (sX l)).symm with h2 | h2
    · have h3 := of_decide_eq_false h2
      exact (OT.ao (decide_eq_true (by omega))).trans (OT.ax (b := sX l) h2).symm
    · have h3 := of_decide_eq_true h2
      refine (OT.ax (decide_eq_false (by omega))).trans (Eq.trans ?_ (OT.ao (b := sX l) h2).symm)
      refine (OT.ao (fv (mn h))).trans ((ai ?_).trans rfl)
      simp only [List.all_cons, List.all_nil, Bool.and_true]
      exact decide_eq_true (by omega)
def eK (c : Int) (l : List Tm) (k : Nat) (o : List Tm) : List Tm := cond (onB c (l.getD k eE).2) (cond (sX o) (o ++ [(qt c (l.getD k eE).1, (l.getD k eE).2)]) o) o
def Ba : cK := (m8.aK Sd af2)
theorem U3 : ab Try.prog 29 Ba := aiY
theorem U2 : aL Ba := aD
def Mq : Env := aA 29 Ba Mn
theorem C2 : aW Try.prog Mq := ag U3 C0
theorem C3 : av Mq := ac U2 C1
theorem Wz : bm Try.prog te Mq := aP follows au C2 C3
def fW : ap := ⟨[.ptr 0 0 0], [(0, alY (.own 1)), (1, .row iW)], false, 2, true⟩
abbrev vX : Type := ((Unit) × Unit) × (((Int) × (Unit) × Unit) × (List ((aa × (aa × (aa × Bool))))) × Unit)
def AJ : az := ⟨[.own 2], [(0, .cells [.val false .int, .own 1]), (1, .row (.prod .elem (.prod .elem (.prod .elem .bool)))), (2, .row (.prod .elem (.prod .elem (.prod .elem .bool))))], false⟩
def EI : SV → Option az := fun _ => some AJ
def GW (c0_0 : Int) (c1 : List ((aa × (aa × (aa × Bool))))) : OT fW.Y :=
  (gd [wc ((c1, ()), ())] (.ok ⟨AJ, (((), ()), ((c0_0, ((), ())), (c1, (c1, ()))))⟩))
theorem aer (x : vX) (Q : fW.Y → Prop) : wpf te Mq ay 1000 Try.f30 (fW.inp.inj x).tm (fW.inp.inj x).hp (fnK fW EI Q) (fun _ _ => False) = (GW (x.2.1.1) (x.2.2.1)).wpR Q := by kernel_rfl
theorem Og (pre : vX → Bool) (F : vX → OT fW.Y) (hF : ∀ (x : vX) oy, pre x = true → (F x).run = some oy → (GW (x.2.1.1) (x.2.2.1)).run = some oy) : ab Try.prog 30 (fW.aK pre F) :=
  aE au C2 Wz (f := 30) (fn := Try.f30) (c := al Try.f30) (by kernel_rfl) (by kernel_rfl) (by kernel_rfl) (S := fW) (k := 2) (by kernel_rfl) (fun R hR => af) (n := 1000) (sel := EI) (fun v o h => by cases h; rfl) (pre := pre) (F := F) (T := fun x => GW (x.2.1.1) (x.2.2.1)) (fun x Q => aer x Q) hF
def vW (x : vX) : Bool := decide (x.2.2.1.length * 104 ≤ 140737488355328)
def RV (x : vX) : OT fW.Y := .ok ⟨AJ, (((), ()), ((x.2.1.1, ((), ())), (x.2.2.1, (x.2.2.1, ()))))⟩
theorem aab : ab Try.prog 30 (fW.aK vW RV) := Og _ _ fun x oy hp ho => by
  rw [← ho]
  clear ho
  refine (ai ?_).trans rfl
  simp only [List.all_cons, List.all_nil, Bool.and_true]
  exact hp
def rv : cK := (fW.aK vW RV)
theorem Ki : ab Try.prog 30 rv := aab
theorem Kh : aL rv := aD
def qn : Env := aA 30 rv Mq
theorem mR : aW Try.prog qn := ag Ki C2
theorem uF : av qn := ac Kh C3
theorem yr : bm Try.prog te qn := aP follows au mR uF
def eG : ap := ⟨[.val false .int, .val false (.list iW)], [], true, 0, false⟩
abbrev pF : Type := ((Int) × (List ((aa × (aa × (aa × Bool))))) × Unit) × (Unit)
def lf : Shape := ⟨26, [(0, .val false .int), (4, .ptr 0 0 0), (5, .ptr 1 0 0), (9, .val false (.list (.prod .elem (.prod .elem (.prod .elem .bool))))), (10, .val false .int), (11, .val false .int)], [(0, .cells [.val false .u64, .val false .u64, .val false .u64, .val false .u64, .val false .u64, .val false .u64, .val false .u64, .val false .u64, .val false .bool]), (1, .cells [.val false .u64, .val false .u64, .val false .u64, .val false .u64, .val false .u64, .val false .u64, .val false .u64, .val false .u64, .val false .bool])], 0, true⟩
abbrev bF : Type := ((Int) × (Unit) × (Unit) × (List ((aa × (aa × (aa × Bool))))) × (Int) × (Int) × Unit) × (((UInt64) × (UInt64) × (UInt64) × (UInt64) × (UInt64) × (UInt64) × (UInt64) × (UInt64) × (Bool) × Unit) × ((UInt64) × (UInt64) × (UInt64) × (UInt64) × (UInt64) × (UInt64) × (UInt64) × (UInt64) × (Bool) × Unit) × Unit)
def kf : Shape := ⟨26, [(4, .ptr 0 0 0), (5, .ptr 1 0 0)], [(0, .cells [.val false .u64, .val false .u64, .val false .u64, .val false .u64, .val false .u64, .val false .u64, .val false .u64, .val false .u64, .val false .bool]), (1, .cells [.val false .u64, .val false .u64, .val false .u64, .val false .u64, .val false .u64, .val false .u64, .val false .u64, .val false .u64, .val false .bool])], 0, true⟩
abbrev fX : Type := ((Unit) × (Unit) × Unit) × (((UInt64) × (UInt64) × (UInt64) × (UInt64) × (UInt64) × (UInt64) × (UInt64) × (UInt64) × (Bool) × Unit) × ((UInt64) × (UInt64) × (UInt64) × (UInt64) × (UInt64) × (UInt64) × (UInt64) × (UInt64) × (Bool) × Unit) × Unit)
def EK : SE → Option Shape := ku [(0, kf)] none
def UP (a0 : Int) (a9 : List ((aa × (aa × (aa × Bool))))) (a10 : Int) (a11 : Int) (c0_0 : UInt64) (c0_1 : UInt64) (c0_2 : UInt64) (c0_3 : UInt64) (c0_4 : UInt64) (c0_5 : UInt64) (c0_6 : UInt64) (c0_7 : UInt64) (c0_8 : Bool) (c1_0 : UInt64) (c1_1 : UInt64) (c1_2 : UInt64) (c1_3 : UInt64) (c1_4 : UInt64) (c1_5 : UInt64) (c1_6 : UInt64) (c1_7 : UInt64) (c1_8 : Bool) : OT (Sum bF aQ) :=
  let z0 : aa := { w0 := 0, w1 := 0, w2 := 0, w3 := 0 }
  let z1 : aa × aa × aa × Bool := List.getD a9 (Int.toNat a11) (z0, z0, z0, false)
  let z2 : aa × aa × Bool := dY a0 ({ w0 := c1_0, w1 := c1_1, w2 := c1_2, w3 := c1_3 }, { w0 := c1_4, w1 := c1_5, w2 := c1_6, w3 := c1_7 }, c1_8) (ni a0 z1.fst z1.snd)
  let z3 := z2.fst
  let z4 := z2.snd
  let z5 := z4.fst
  (.br (decide (a11 < a10))
  (gd [inB a11 (List.length a9), inR (a11 + (1 : Int))] (.ok (.inl ((a0, ((), ((), (a9, (a10, (a11 + (1 : Int), ())))))), ((c0_0, (c0_1, (c0_2, (c0_3, (c0_4, (c0_5, (c0_6, (c0_7, (c0_8, ()))))))))), ((z3.w0, (z3.w1, (z3.w2, (z3.w3, (z5.w0, (z5.w1, (z5.w2, (z5.w3, (z4.snd, ()))))))))), ()))))))
  (.ok (.inr ⟨(.exit 0, kf), (((), ((), ())), ((c0_0, (c0_1, (c0_2, (c0_3, (c0_4, (c0_5, (c0_6, (c0_7, (c0_8, ()))))))))), ((c1_0, (c1_1, (c1_2, (c1_3, (c1_4, (c1_5, (c1_6, (c1_7, (c1_8, ()))))))))), ())))⟩)))
def lg (s : bF) : OT (Sum bF aQ) := UP (s.1.1) (s.1.2.2.2.1) (s.1.2.2.2.2.1) (s.1.2.2.2.2.2.1) (s.2.1.1) (s.2.1.2.1) (s.2.1.2.2.1) (s.2.1.2.2.2.1) (s.2.1.2.2.2.2.1) (s.2.1.2.2.2.2.2.1) (s.2.1.2.2.2.2.2.2.1) (s.2.1.2.2.2.2.2.2.2.1) (s.2.1.2.2.2.2.2.2.2.2.1) (s.2.2.1.1) (s.2.2.1.2.1) (s.2.2.1.2.2.1) (s.2.2.1.2.2.2.1) (s.2.2.1.2.2.2.2.1) (s.2.2.1.2.2.2.2.2.1) (s.2.2.1.2.2.2.2.2.2.1) (s.2.2.1.2.2.2.2.2.2.2.1) (s.2.2.1.2.2.2.2.2.2.2.2.1)
theorem UM (s : bF) (Q : Sum bF aQ → Prop) : wps te qn ay 1000 (bJ (al Try.f94) 0) (lf.inj s) (cW lf EK (Q : Sum lf.T aQ → Prop)) = (lg s).wpR Q := by kernel_rfl
def pE (g0_0 : bF → fX) (s : bF) : OT aQ := (.ok ⟨(.exit 0, kf), g0_0 s⟩)
def v7 : az := ⟨[.val true (.prod .elem (.prod .elem .bool))], [], false⟩
def AN : SV → Option az := fun _ => some v7
def AP (ok0 : bF → Bool) (g0_0 : bF → fX) (a0 : Int) (a1 : List ((aa × (aa × (aa × Bool))))) : OT eG.Y :=
  let z0 : (Int × PUnit × PUnit × List (aa × aa × aa × Bool) × Int × Int × PUnit) × (UInt64 × UInt64 × UInt64 × UInt64 × UInt64 × UInt64 × UInt64 × UInt64 × Bool × PUnit) × (UInt64 × UInt64 × UInt64 × UInt64 × UInt64 × UInt64 × UInt64 × UInt64 × Bool × PUnit) × PUnit := ((a0, (), (), a1, (↑(List.length a1) : Int), (0 : Int), ()), ((0 : UInt64), (0 : UInt64), (0 : UInt64), (0 : UInt64), (0 : UInt64), (0 : UInt64), (0 : UInt64), (0 : UInt64), false, ()), ((0 : UInt64), (0 : UInt64), (0 : UInt64), (0 : UInt64), (0 : UInt64), (0 : UInt64), (0 : UInt64), (0 : UInt64), true, ()), ())
  let z1 := (g0_0 z0).snd.snd.fst
  let z2 := z1.snd
  let z3 := z2.snd
  let z4 := z3.snd
  let z5 := z4.snd
  let z6 := z5.snd
  let z7 := z6.snd
  let z8 := z7.snd
  (gd [ok0 z0] (.ok ⟨v7, ((({ w0 := z1.fst, w1 := z2.fst, w2 := z3.fst, w3 := z4.fst }, { w0 := z5.fst, w1 := z6.fst, w2 := z7.fst, w3 := z8.fst }, z8.snd.fst), ()), ())⟩))
theorem aaf (ok0 : bF → Bool) (g0_0 : bF → fX) (x : pF) (Q : eG.Y → Prop) : wpf te qn (bx 0 (dw lf 0 ok0 (pE g0_0)) ay) 1000 Try.f94 (eG.inp.inj x).tm (eG.inp.inj x).hp (fnK eG AN Q) (fun _ _ => False) = (AP ok0 g0_0 (x.1.1) (x.1.2.1)).wpR Q := by kernel_rfl
theorem Kk (ok0 : bF → Bool) (g0_0 : bF → fX) (h0 : ∀ s : bF, ok0 s = true → ∃ m e, aq (lg) m s = some e ∧ (pE g0_0 s).run = some e) (pre : pF → Bool) (F : pF → OT eG.Y) (hF : ∀ (x : pF) oy, pre x = true → (F x).run = some oy → (AP ok0 g0_0 (x.1.1) (x.1.2.1)).run = some oy) : ab Try.prog 94 (eG.aK pre F) :=
  aE au mR yr (f := 94) (fn := Try.f94) (c := al Try.f94) (by kernel_rfl) (by kernel_rfl) (by kernel_rfl) (S := eG) (k := 0) (by kernel_rfl) (fun R hR => (aI (c := (al Try.f94)) (by kernel_rfl) (id := 0) (by kernel_rfl) (bA au mR yr (sh := lf) hR (xs := EK) (aH (by kernel_rfl) (by kernel_rfl) hR) aX af (n := 1000) (T := lg) (fun s Q => UM s Q) (ok := ok0) (f := pE g0_0) h0) af)) (n := 1000) (sel := AN) (fun v o h => by cases h; rfl) (pre := pre) (F := F) (T := fun x => AP ok0 g0_0 (x.1.1) (x.1.2.1)) (fun x Q => aaf ok0 g0_0 x Q) hF
def dZ (c : Int) (l : List Tm) (k : Nat) (O : Pt) : Pt := dY c O (ni c (l.getD k eE).1 (l.getD k eE).2)
def l7 (c : Int) (l : List Tm) : Pt := upto (dZ c l) aB l.length
def AO (s : bF) : Bool := decide (s.1.2.2.2.2.1 = (s.1.2.2.2.1.length : Int) ∧ s.1.2.2.2.2.2.1 = 0 ∧ kE s.2.2.1 = aB ∧ s.1.2.2.2.1.length ≤ 140737488355328)
def EL (s : bF) : fX := (((), (), ()), (s.2.1, aV (l7 s.1.1 s.1.2.2.2.1), ()))
theorem UO : ∀ s : bF, AO s = true → ∃ m e, aq lg m s = some e ∧ (pE EL s).run = some e := by
  rintro ⟨⟨c, ⟨⟩, ⟨⟩, l, n, i, ⟨⟩⟩, ⟨c0, c1, ⟨⟩⟩⟩ h
  have h' := of_decide_eq_true h
  dsimp only at h'
  obtain ⟨rfl, rfl, hO, hl⟩ := h'
  have hO2 : c1 = aV aB := by rw [← hO]; rfl
  subst hO2
  have := (bI (T := lg) (fun i O => (((c, (), (), l, (l.length : Int), (i : Int), ()), (c0, aV O, ())) : bF)) (dZ c l)
    (fun O => (⟨(.exit 0, kf), (((), (), ()), (c0, aV O, ()))⟩ : aQ)) l.length aB (fun _ _ => True) trivial (fun k O hk _ => ⟨?_, trivial⟩) (fun O _ => ?_)).1
  · obtain ⟨m, hm⟩ := this
    exact ⟨m, _, hm, rfl⟩
  · refine (OT.ao (decide_eq_true (by dsimp only; omega))).trans ((ai ?_).trans ?_)
    · simp only [List.all_cons, List.all_nil, Bool.and_true, Bool.and_eq_true]
      exact ⟨bU (by omega), bC (by omega)⟩
    · simp only [OT.j4, Int.toNat_natCast]
      rfl
  · exact OT.ax (decide_eq_false (by dsimp only; omega))
def ry (x : pF) : Bool := decide (x.1.2.1.length ≤ 140737488355328)
def Kl (x : pF) : OT eG.Y := .ok ⟨v7, ((l7 x.1.1 x.1.2.1, ()), ())⟩
theorem UN : ab Try.prog 94 (eG.aK ry Kl) := Kk AO EL UO _ _ fun x oy hp ho => by
  rw [← ho]
  clear ho
  obtain ⟨⟨c, l, ⟨⟩⟩, ⟨⟩⟩ := x
  have hl : l.length ≤ 140737488355328 := of_decide_eq_true hp
  refine (ai ?_).trans rfl
  simp only [List.all_cons, List.all_nil, Bool.and_true]
  exact decide_eq_true ⟨rfl, rfl, rfl, hl⟩
def nW : cK := (eG.aK ry Kl)
theorem G2 : ab Try.prog 94 nW := UN
theorem G1 : aL nW := aD
def oQ : Env := aA 94 nW qn
theorem oP : aW Try.prog oQ := ag G2 mR
theorem qL : av oQ := ac G1 uF
theorem Iw : bm Try.prog te oQ := aP follows au oP qL
def ju : ap := ⟨[.val true iW, .ptr 0 0 0], [(0, .cells [.val false .int])], false, 1, true⟩
abbrev EH : Type := (((aa × (aa × (aa × Bool)))) × (Unit) × Unit) × (((Int) × Unit) × Unit)
def GV : az := ⟨[.val false .bool], [(0, .cells [.val false .int])], false⟩
def Kf : SV → Option az := fun _ => some GV
def Of (a0 : (aa × (aa × (aa × Bool)))) (c0_0 : Int) : OT ju.Y :=
  (.ok ⟨GV, ((nd a0.fst c0_0, ()), ((c0_0, ()), ()))⟩)
theorem aiO (x : EH) (Q : ju.Y → Prop) : wpf te oQ ay 1000 Try.f112 (ju.inp.inj x).tm (ju.inp.inj x).hp (fnK ju Kf Q) (fun _ _ => False) = (Of (x.1.1) (x.2.1.1)).wpR Q := by kernel_rfl
theorem UG (pre : EH → Bool) (F : EH → OT ju.Y) (hF : ∀ (x : EH) oy, pre x = true → (F x).run = some oy → (Of (x.1.1) (x.2.1.1)).run = some oy) : ab Try.prog 112 (ju.aK pre F) :=
  aE au oP Iw (f := 112) (fn := Try.f112) (c := al Try.f112) (by kernel_rfl) (by kernel_rfl) (by kernel_rfl) (S := ju) (k := 1) (by kernel_rfl) (fun R hR => af) (n := 1000) (sel := Kf) (fun v o h => by cases h; rfl) (pre := pre) (F := F) (T := fun x => Of (x.1.1) (x.2.1.1)) (fun x Q => aiO x Q) hF
def Kg (_ : EH) : Bool := true
def aaa (x : EH) : OT ju.Y := .ok ⟨GV, ((nd x.1.1.1 x.2.1.1, ()), ((x.2.1.1, ()), ()))⟩
theorem aeq : ab Try.prog 112 (ju.aK Kg aaa) := UG _ _ fun x oy hp ho => by
  rw [← ho]
  rfl
def vV : cK := (ju.aK Kg aaa)
theorem Oe : ab Try.prog 112 vV := aeq
theorem Od : aL vV := aD
def xi : Env := aA 112 vV oQ
theorem qm : aW Try.prog xi := ag Oe oP
theorem yq : av xi := ac Od qL
theorem CW : bm Try.prog te xi := aP follows au qm yq
def dT : ap := ⟨[.val false (.list iW), .fn 112 [0]], [(0, .cells [.val false .int])], true, 1, true⟩
abbrev pI : Type := ((List ((aa × (aa × (aa × Bool))))) × (Unit) × Unit) × (((Int) × Unit) × Unit)
def li : Shape := ⟨19, [(0, .val false (.list (.prod .elem (.prod .elem (.prod .elem .bool))))), (1, .fn 112 [0]), (7, .val false .int), (8, .val false .int)], [(0, .cells [.val false .int])], 1, true⟩
abbrev aR : Type := ((List ((aa × (aa × (aa × Bool))))) × (Unit) × (Int) × (Int) × Unit) × (((Int) × Unit) × Unit)
def kg : Shape := ⟨19, [(4, .val false .int)], [(0, .cells [.val false .int])], 1, true⟩
abbrev fZ : Type := ((Int) × Unit) × (((Int) × Unit) × Unit)
def kh : Shape := ⟨19, [], [(0, .cells [.val false .int])], 1, true⟩
abbrev ga : Type := (Unit) × (((Int) × Unit) × Unit)
def EN : SE → Option Shape := ku [(0, kh)] (some kg)
def UZ (a0 : List ((aa × (aa × (aa × Bool))))) (a7 : Int) (a8 : Int) (c0_0 : Int) : OT (Sum aR aQ) :=
  let z0 : aa := { w0 := 0, w1 := 0, w2 := 0, w3 := 0 }
  (.br (decide (a8 < a7))
  (gd [inB a8 (List.length a0)] (.br (nd (List.getD a0 (Int.toNat a8) (z0, z0, z0, false)).fst c0_0)
    (.ok (.inr ⟨(.ret, kg), ((a8, ()), ((c0_0, ()), ()))⟩))
    (gd [inR (a8 + (1 : Int))] (.ok (.inl ((a0, ((), (a7, (a8 + (1 : Int), ())))), ((c0_0, ()), ())))))))
  (.ok (.inr ⟨(.exit 0, kh), ((), ((c0_0, ()), ()))⟩)))
def lj (s : aR) : OT (Sum aR aQ) := UZ (s.1.1) (s.1.2.2.1) (s.1.2.2.2.1) (s.2.1.1)
theorem UW (s : aR) (Q : Sum aR aQ → Prop) : wps te xi ay 1000 (bJ (al Try.f116) 0) (li.inj s) (cW li EN (Q : Sum li.T aQ → Prop)) = (lj s).wpR Q := by kernel_rfl
def pH (g0_r : aR → fZ) (c0_r : aR → Bool) (g0_0 : aR → ga) (s : aR) : OT aQ := (.br (c0_r s) (.ok ⟨(.ret, kg), g0_r s⟩) (.ok ⟨(.exit 0, kh), g0_0 s⟩))
def gK : az := ⟨[.val false .int], [(0, .cells [.val false .int])], false⟩
def AU : SV → Option az := fun _ => some gK
def AX (ok0 : aR → Bool) (g0_r : aR → fZ) (c0_r : aR → Bool) (g0_0 : aR → ga) (a0 : List ((aa × (aa × (aa × Bool))))) (c0_0 : Int) : OT dT.Y :=
  let z0 : (List (aa × aa × aa × Bool) × PUnit × Int × Int × PUnit) × (Int × PUnit) × PUnit := ((a0, (), (↑(List.length a0) : Int), (0 : Int), ()), (c0_0, ()), ())
  let z1 : (Int × PUnit) × (Int × PUnit) × PUnit := g0_r z0
  (gd [ok0 z0] (.br (c0_r z0)
  (.ok ⟨gK, ((z1.fst.fst, ()), ((z1.snd.fst.fst, ()), ()))⟩)
  (.ok ⟨gK, (((-1 : Int), ()), (((g0_0 z0).snd.fst.fst, ()), ()))⟩)))
theorem aao (ok0 : aR → Bool) (g0_r : aR → fZ) (c0_r : aR → Bool) (g0_0 : aR → ga) (x : pI) (Q : dT.Y → Prop) : wpf te xi (bx 0 (dw li 0 ok0 (pH g0_r c0_r g0_0)) ay) 1000 Try.f116 (dT.inp.inj x).tm (dT.inp.inj x).hp (fnK dT AU Q) (fun _ _ => False) = (AX ok0 g0_r c0_r g0_0 (x.1.1) (x.2.1.1)).wpR Q := by kernel_rfl
theorem Ks (ok0 : aR → Bool) (g0_r : aR → fZ) (c0_r : aR → Bool) (g0_0 : aR → ga) (h0 : ∀ s : aR, ok0 s = true → ∃ m e, aq (lj) m s = some e ∧ (pH g0_r c0_r g0_0 s).run = some e) (pre : pI → Bool) (F : pI → OT dT.Y) (hF : ∀ (x : pI) oy, pre x = true → (F x).run = some oy → (AX ok0 g0_r c0_r g0_0 (x.1.1) (x.2.1.1)).run = some oy) : ab Try.prog 116 (dT.aK pre F) :=
  aE au qm CW (f := 116) (fn := Try.f116) (c := al Try.f116) (by kernel_rfl) (by kernel_rfl) (by kernel_rfl) (S := dT) (k := 1) (by kernel_rfl) (fun R hR => (aI (c := (al Try.f116)) (by kernel_rfl) (id := 0) (by kernel_rfl) (bA au qm CW (sh := li) hR (xs := EN) (aH (by kernel_rfl) (by kernel_rfl) hR) aX af (n := 1000) (T := lj) (fun s Q => UW s Q) (ok := ok0) (f := pH g0_r c0_r g0_0) h0) af)) (n := 1000) (sel := AU) (fun v o h => by cases h; rfl) (pre := pre) (F := F) (T := fun x => AX ok0 g0_r c0_r g0_0 (x.1.1) (x.2.1.1)) (fun x Q => aao ok0 g0_r c0_r g0_0 x Q) hF
def lC (l : List Tm) (i : Int) : Nat → Nat → Int
  | 0, _ => -1
  | n + 1, k => cond (nd (l.getD k eE).1 i) (k : Int) (lC l i n (k + 1))
def AV (s : aR) : Bool := decide (s.1.2.2.1 = (s.1.1.length : Int) ∧ s.1.2.2.2.1 = 0 ∧ s.1.1.length ≤ 140737488355328)
def gM (l : List Tm) (i : Int) : Int := lC l i l.length 0
def AW (s : aR) : fZ := ((gM s.1.1 s.2.1.1, ()), s.2)
def EP (s : aR) : Bool := decide (0 ≤ gM s.1.1 s.2.1.1)
def EO (s : aR) : ga := ((), s.2)
def KM (l : List Tm) (i k : Int) : aR := ((l, (), (l.length : Int), k, ()), ((i, ()), ()))
theorem K7 (l : List Tm) (i : Int) : ∀ n k, lC l i n k = -1 ∨ 0 ≤ lC l i n k
  | 0, _ => .inl rfl
  | n + 1, k => by
    unfold lC
    cases nd (l.getD k eE).1 i
    · exact K7 l i n (k + 1)
    · right
      show (0 : Int) ≤ (k : Int)
      omega
theorem Sl (l : List Tm) (i : Int) (hl : l.length ≤ 140737488355328) : ∀ n k : Nat, k + n = l.length →
    ∃ m, aq lj m (KM l i (k : Int)) = some (cond (decide (0 ≤ lC l i n k)) ⟨(.ret, kg), ((lC l i n k, ()), ((i, ()), ()))⟩ ⟨(.exit 0, kh), ((), ((i, ()), ()))⟩)
  | 0, k, h => ⟨1, aT (OT.ax (decide_eq_false (by dsimp only [KM]; omega)))⟩
  | n + 1, k, h => by
    have hin : inB (k : Int) l.length = true := bU (by omega)
    have hgd : ∀ z : OT (Sum aR aQ), (gd [inB (k : Int) l.length] z).run = z.run := fun z => ai (by rw [hin]; rfl)
    unfold lC
    rcases (Bool.eq_false_or_eq_true (nd (l.getD k eE).1 i)).symm with hb | hb
    · obtain ⟨m, hm⟩ := Sl l i hl n (k + 1) (by omega)
      rw [hb]
      refine ⟨m + 1, aO ?_ hm⟩
      refine (OT.ao (decide_eq_true (by dsimp only [KM]; omega))).trans ((hgd _).trans ((OT.ax hb).trans ((ai ?_).trans rfl)))
      simp only [List.all_cons, List.all_nil, Bool.and_true]
      exact bC (by dsimp only [KM]; omega)
    · rw [hb]
      have e : decide ((0 : Int) ≤ cond true (k : Int) (lC l i n (k + 1))) = true := decide_eq_true (by show (0 : Int) ≤ (k : Int); omega)
      rw [e]
      refine ⟨1, aT ?_⟩
      exact (OT.ao (decide_eq_true (by dsimp only [KM]; omega))).trans ((hgd _).trans ((OT.ao hb).trans rfl))
theorem UY : ∀ s : aR, AV s = true → ∃ m e, aq lj m s = some e ∧ (pH AW EP EO s).run = some e := by
  rintro ⟨⟨l, ⟨⟩, n, k, ⟨⟩⟩, ⟨⟨i, ⟨⟩⟩, ⟨⟩⟩⟩ h
  have h' := of_decide_eq_true h
  dsimp only at h'
  obtain ⟨rfl, rfl, hl⟩ := h'
  obtain ⟨m, hm⟩ := Sl l i hl l.length 0 (by omega)
  refine ⟨m, _, hm, ?_⟩
  show (OT.br (decide (0 ≤ gM l i)) _ _ : OT aQ).run = some (cond (decide (0 ≤ gM l i)) _ _)
  cases decide (0 ≤ gM l i) <;> rfl
def rA (x : pI) : Bool := decide (x.1.1.length ≤ 140737488355328)
def Kt (x : pI) : OT dT.Y := .ok ⟨gK, ((gM x.1.1 x.2.1.1, ()), x.2)⟩
theorem UX : ab Try.prog 116 (dT.aK rA Kt) := Ks AV AW EP EO UY _ _ fun x oy hp ho => by
  rw [← ho]
  clear ho
  obtain ⟨⟨l, ⟨⟩, ⟨⟩⟩, ⟨⟨i, ⟨⟩⟩, ⟨⟩⟩⟩ := x
  have hl : l.length ≤ 140737488355328 := of_decide_eq_true hp
  refine (ai ?_).trans ?_
  · simp only [List.all_cons, List.all_nil, Bool.and_true]
    exact decide_eq_true ⟨rfl, rfl, hl⟩
  · show (OT.br (decide (0 ≤ gM l i)) (.ok ⟨gK, ((gM l i, ()), ((i, ()), ()))⟩) (.ok ⟨gK, (((-1 : Int), ()), ((i, ()), ()))⟩) : OT dT.Y).run = some ⟨gK, ((gM l i, ()), ((i, ()), ()))⟩
    rcases K7 l i l.length 0 with h | h
    · have h : gM l i = -1 := h
      rw [h]
      rfl
    · exact OT.ao (decide_eq_true h)
def nZ : cK := (dT.aK rA Kt)
theorem G8 : ab Try.prog 116 nZ := UX
theorem G7 : aL nZ := aD
def oV : Env := aA 116 nZ xi
theorem oU : aW Try.prog oV := ag G8 qm
theorem qM : av oV := ac G7 yq
theorem Iy : bm Try.prog te oV := aP follows au oU qM
def gg : ap := ⟨[.val false (.list iW), .fn 112 [0]], [(0, .cells [.val false .int])], true, 1, true⟩
abbrev wb : Type := ((List ((aa × (aa × (aa × Bool))))) × (Unit) × Unit) × (((Int) × Unit) × Unit)
def AZ : az := ⟨[.val false .bool], [(0, .cells [.val false .int])], false⟩
def ES : SV → Option az := fun _ => some AZ
def Ha (a0 : List ((aa × (aa × (aa × Bool))))) (c0_0 : Int) : OT gg.Y :=
  (gd [rA ((a0, (), ()), (c0_0, ()), ())] (.ok ⟨AZ, ((decide ((0 : Int) ≤ gM a0 c0_0), ()), ((c0_0, ()), ()))⟩))
theorem aeE (x : wb) (Q : gg.Y → Prop) : wpf te oV ay 1000 Try.f111 (gg.inp.inj x).tm (gg.inp.inj x).hp (fnK gg ES Q) (fun _ _ => False) = (Ha (x.1.1) (x.2.1.1)).wpR Q := by kernel_rfl
theorem Oo (pre : wb → Bool) (F : wb → OT gg.Y) (hF : ∀ (x : wb) oy, pre x = true → (F x).run = some oy → (Ha (x.1.1) (x.2.1.1)).run = some oy) : ab Try.prog 111 (gg.aK pre F) :=
  aE au oU Iy (f := 111) (fn := Try.f111) (c := al Try.f111) (by kernel_rfl) (by kernel_rfl) (by kernel_rfl) (S := gg) (k := 1) (by kernel_rfl) (fun R hR => af) (n := 1000) (sel := ES) (fun v o h => by cases h; rfl) (pre := pre) (F := F) (T := fun x => Ha (x.1.1) (x.2.1.1)) (fun x Q => aeE x Q) hF
def akd (l : List Tm) (i : Int) : Bool := decide (0 ≤ gM l i)
def pJ (x : wb) : Bool := decide (x.1.1.length ≤ 140737488355328)
def R9 (x : wb) : OT gg.Y := .ok ⟨AZ, ((akd x.1.1 x.2.1.1, ()), x.2)⟩
theorem aas : ab Try.prog 111 (gg.aK pJ R9) := Oo _ _ fun x oy hp ho => by
  rw [← ho]
  clear ho
  refine (ai ?_).trans rfl
  simp only [List.all_cons, List.all_nil, Bool.and_true]
  exact hp
def rC : cK := (gg.aK pJ R9)
theorem Kx : ab Try.prog 111 rC := aas
theorem Kw : aL rC := aD
def qp : Env := aA 111 rC oV
theorem mT : aW Try.prog qp := ag Kx oU
theorem uI : av qp := ac Kw qM
theorem yv : bm Try.prog te qp := aP follows au mT uI
def m5 : ap := ⟨[.val false (.list iW)], [], true, 0, false⟩
abbrev UF : Type := ((List ((aa × (aa × (aa × Bool))))) × Unit) × (Unit)
def AG : Shape := ⟨14, [(0, .val false (.list (.prod .elem (.prod .elem (.prod .elem .bool))))), (3, .ptr 0 0 0)], [(0, .cells [.val false .int])], 0, true⟩
abbrev bH : Type := ((List ((aa × (aa × (aa × Bool))))) × (Unit) × Unit) × (((Int) × Unit) × Unit)
def tv : Shape := ⟨14, [(2, .val false .int)], [], 0, true⟩
abbrev la : Type := ((Int) × Unit) × (Unit)
def tx : Shape := ⟨14, [], [], 0, true⟩
abbrev lb : Type := (Unit) × (Unit)
def Z5 : SE → Option Shape := ku [(0, tx)] (some tv)
def aiN (a0 : List ((aa × (aa × (aa × Bool))))) (c0_0 : Int) : OT (Sum bH aQ) :=
  (.br (decide ((0 : Int) ≤ c0_0))
  (gd [pJ ((a0, (), ()), (c0_0, ()), ())] (.br (akd a0 c0_0)
    (gd [inR (c0_0 + (1 : Int))] (.ok (.inr ⟨(.ret, tv), ((c0_0 + (1 : Int), ()), ())⟩)))
    (gd [inR (c0_0 - (1 : Int))] (.ok (.inl ((a0, ((), ())), ((c0_0 - (1 : Int), ()), ())))))))
  (.ok (.inr ⟨(.exit 0, tx), ((), ())⟩)))
def AH (s : bH) : OT (Sum bH aQ) := aiN (s.1.1) (s.2.1.1)
theorem aiK (s : bH) (Q : Sum bH aQ → Prop) : wps te qp ay 1000 (bJ (al Try.f95) 0) (AG.inj s) (cW AG Z5 (Q : Sum AG.T aQ → Prop)) = (AH s).wpR Q := by kernel_rfl
def GU (g0_r : bH → la) (c0_r : bH → Bool) (g0_0 : bH → lb) (s : bH) : OT aQ := (.br (c0_r s) (.ok ⟨(.ret, tv), g0_r s⟩) (.ok ⟨(.exit 0, tx), g0_0 s⟩))
def ru : az := ⟨[.val false .int], [], false⟩
def RS : SV → Option az := fun _ => some ru
def Z9 (ok0 : bH → Bool) (g0_r : bH → la) (c0_r : bH → Bool) (g0_0 : bH → lb) (a0 : List ((aa × (aa × (aa × Bool))))) : OT m5.Y :=
  let z0 : (List (aa × aa × aa × Bool) × PUnit × PUnit) × (Int × PUnit) × PUnit := ((a0, (), ()), ((255 : Int), ()), ())
  (gd [ok0 z0] (.br (c0_r z0)
  (.ok ⟨ru, (((g0_r z0).fst.fst, ()), ())⟩)
  (.ok ⟨ru, (((0 : Int), ()), ())⟩)))
theorem akU (ok0 : bH → Bool) (g0_r : bH → la) (c0_r : bH → Bool) (g0_0 : bH → lb) (x : UF) (Q : m5.Y → Prop) : wpf te qp (bx 0 (dw AG 0 ok0 (GU g0_r c0_r g0_0)) ay) 1000 Try.f95 (m5.inp.inj x).tm (m5.inp.inj x).hp (fnK m5 RS Q) (fun _ _ => False) = (Z9 ok0 g0_r c0_r g0_0 (x.1.1)).wpR Q := by kernel_rfl
theorem Z6 (ok0 : bH → Bool) (g0_r : bH → la) (c0_r : bH → Bool) (g0_0 : bH → lb) (h0 : ∀ s : bH, ok0 s = true → ∃ m e, aq (AH) m s = some e ∧ (GU g0_r c0_r g0_0 s).run = some e) (pre : UF → Bool) (F : UF → OT m5.Y) (hF : ∀ (x : UF) oy, pre x = true → (F x).run = some oy → (Z9 ok0 g0_r c0_r g0_0 (x.1.1)).run = some oy) : ab Try.prog 95 (m5.aK pre F) :=
  aE au mT yv (f := 95) (fn := Try.f95) (c := al Try.f95) (by kernel_rfl) (by kernel_rfl) (by kernel_rfl) (S := m5) (k := 0) (by kernel_rfl) (fun R hR => (aI (c := (al Try.f95)) (by kernel_rfl) (id := 0) (by kernel_rfl) (bA au mT yv (sh := AG) hR (xs := Z5) (aH (by kernel_rfl) (by kernel_rfl) hR) aX af (n := 1000) (T := AH) (fun s Q => aiK s Q) (ok := ok0) (f := GU g0_r c0_r g0_0) h0) af)) (n := 1000) (sel := RS) (fun v o h => by cases h; rfl) (pre := pre) (F := F) (T := fun x => Z9 ok0 g0_r c0_r g0_0 (x.1.1)) (fun x Q => akU ok0 g0_r c0_r g0_0 x Q) hF
def WL (l : List Tm) : Nat → Nat
  | 0 => 0
  | n + 1 => cond (akd l (n : Int)) (n + 1) (WL l n)
def MJ (l : List Tm) : Nat := WL l 256
def RT (s : bH) : Bool := decide (s.2.1.1 = 255 ∧ s.1.1.length ≤ 140737488355328)
def RU (s : bH) : la := (((MJ s.1.1 : Int), ()), ())
def Z8 (s : bH) : Bool := decide ((0 : Int) < (MJ s.1.1 : Int))
def Z7 (_ : bH) : lb := ((), ())
def D2 (l : List Tm) (i : Int) : bH := ((l, (), ()), ((i, ()), ()))
theorem Qy (l : List Tm) (hl : l.length ≤ 140737488355328) : ∀ n : Nat, n ≤ 256 →
    ∃ m, aq AH m (D2 l ((n : Int) - 1)) = some (cond (decide ((0 : Int) < (WL l n : Int))) ⟨(.ret, tv), (((WL l n : Int), ()), ())⟩ ⟨(.exit 0, tx), ((), ())⟩)
  | 0, _ => ⟨1, aT (OT.ax (decide_eq_false (by dsimp only [D2]; omega)))⟩
  | n + 1, h => by
    rw [show ((n + 1 : Nat) : Int) - 1 = (n : Int) by omega]
    have hgd : ∀ z : OT (Sum bH aQ), (gd [pJ ((l, (), ()), ((n : Int), ()), ())] z).run = z.run := fun z => ai (by
      simp only [List.all_cons, List.all_nil, Bool.and_true]
      exact decide_eq_true hl)
    unfold WL
    rcases (Bool.eq_false_or_eq_true (akd l (n : Int))).symm with hb | hb
    · obtain ⟨m, hm⟩ := Qy l hl n (by omega)
      rw [hb]
      refine ⟨m + 1, aO ?_ hm⟩
      refine (OT.ao (decide_eq_true (by dsimp only [D2]; omega))).trans ((hgd _).trans ((OT.ax hb).trans ((ai ?_).trans rfl)))
      simp only [List.all_cons, List.all_nil, Bool.and_true]
      exact bC (by dsimp only [D2]; omega)
    · rw [hb]
      simp only [cond_true]
      rw [decide_eq_true (show (0 : Int) < ((n + 1 : Nat) : Int) by omega)]
      refine ⟨1, aT ?_⟩
      refine (OT.ao (decide_eq_true (by dsimp only [D2]; omega))).trans ((hgd _).trans ((OT.ao hb).trans ((ai ?_).trans rfl)))
      simp only [List.all_cons, List.all_nil, Bool.and_true]
      exact bC (by dsimp only [D2]; omega)
theorem aiM : ∀ s : bH, RT s = true → ∃ m e, aq AH m s = some e ∧ (GU RU Z8 Z7 s).run = some e := by
  rintro ⟨⟨l, ⟨⟩, ⟨⟩⟩, ⟨⟨i, ⟨⟩⟩, ⟨⟩⟩⟩ h
  have h' := of_decide_eq_true h
  dsimp only at h'
  obtain ⟨rfl, hl⟩ := h'
  obtain ⟨m, hm⟩ := Qy l hl 256 (by omega)
  refine ⟨m, _, hm, ?_⟩
  show (OT.br (decide ((0 : Int) < (WL l 256 : Int))) _ _ : OT aQ).run = some (cond (decide ((0 : Int) < (WL l 256 : Int))) _ _)
  cases decide ((0 : Int) < (WL l 256 : Int)) <;> rfl
def GS (x : UF) : Bool := decide (x.1.1.length ≤ 140737488355328)
def afY (x : UF) : OT m5.Y := .ok ⟨ru, (((MJ x.1.1 : Int), ()), ())⟩
theorem aiL : ab Try.prog 95 (m5.aK GS afY) := Z6 RT RU Z8 Z7 aiM _ _ fun x oy hp ho => by
  rw [← ho]
  clear ho
  obtain ⟨⟨l, ⟨⟩⟩, ⟨⟩⟩ := x
  have hl : l.length ≤ 140737488355328 := of_decide_eq_true hp
  refine (ai ?_).trans ?_
  · simp only [List.all_cons, List.all_nil, Bool.and_true]
    exact decide_eq_true ⟨rfl, hl⟩
  · show (OT.br (decide ((0 : Int) < (MJ l : Int))) (.ok ⟨ru, (((MJ l : Int), ()), ())⟩) (.ok ⟨ru, (((0 : Int), ()), ())⟩) : OT m5.Y).run = some ⟨ru, (((MJ l : Int), ()), ())⟩
    by_cases h : (0 : Int) < (MJ l : Int)
    · exact OT.ao (decide_eq_true h)
    · have e : MJ l = 0 := by omega
      rw [e]
      rfl
def AF : cK := (m5.aK GS afY)
theorem UE : ab Try.prog 95 AF := aiL
theorem UD : aL AF := aD
def uE : Env := aA 95 AF qp
theorem jW : aW Try.prog uE := ag UE mT
theorem CV : av uE := ac UD uI
theorem lR : bm Try.prog te uE := aP follows au jW CV
end Go.Proofs.Ytkedomfjjahjnaa
