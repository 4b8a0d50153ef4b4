/- A symbolic machine for Go code over plain data, and functions of the program as it shows them. No statement is proved in this file. -/
import Derived.KernelRfl
import Derived.Test.YtohjofabochgfaaXd
set_option linter.unusedSimpArgs false
set_option linter.unusedVariables false
set_option linter.unusedSectionVars false

namespace Go.Proofs.Ytohjofabochgfaa
open Sx Go
set_option maxRecDepth 100000
abbrev Y8 : ao := gn
def q6 (x : Bn) : Bool := aA x.1.1
def Y9 (x : Bn) : OT gn.Y := .ok ⟨jd, (((dk x.1.1.toNat).1, ((0 : Int), ())), ())⟩
theorem agT : aa Try.prog 40 (Y8.aE q6 Y9) := m6 (S := gn) Za fun x oy hp ho => ⟨rfl, (OT.aw (b := aA x.1.1) hp).trans ho⟩
def tB : bL := (Y8.aE q6 Y9)
theorem PO : aa Try.prog 40 tB := agT
theorem PN : aB tB := ax
def N3 : Env := av 40 tB WS
theorem WT : aN Try.prog N3 := ag PO adG
theorem N0 : aq N3 := ab PN SK
abbrev agM : ao := j1
def iB (x : PK) : Bool := aA x.1.1
def agN (x : PK) : OT j1.Y := .ok ⟨lA, ((ofP (pS x.1.1) x.1.2.1, ()), ())⟩
theorem al8 : aa Try.prog 17 (agM.aE iB agN) := m6 (S := j1) agQ fun x oy hp ho => ⟨rfl, (OT.aw (b := aA x.1.1) hp).trans ho⟩
def zg : bL := (agM.aE iB agN)
theorem Uy : aa Try.prog 17 zg := al8
theorem Ux : aB zg := ax
def GW : Env := av 17 zg N3
theorem AL : aN Try.prog GW := ag Uy WT
theorem BZ : aq GW := ab Ux N0
theorem WR : aU Try.prog te GW := aG follows ak AL BZ
def j0 : ao := ⟨[], [], true, 0, false⟩
abbrev I1 : Type := (Unit) × (Unit)
def LN : ar := ⟨[.val true (.prod .elem (.prod .elem .bool))], [], false⟩
def Pz : SV → Option ar := fun _ => some LN
def Ur : OT j0.Y :=
  let z0 : af := { w0 := 0, w1 := 0, w2 := 0, w3 := 0 }
  (.ok ⟨LN, (((z0, z0, true), ()), ())⟩)
theorem aqt (x : I1) (Q : j0.Y → Prop) : wpf te GW au 1000 Try.f8 (j0.inp.inj x).tm (j0.inp.inj x).hp (fnK j0 Pz Q) (fun _ _ => False) = (Ur).wpR Q := by kernel_rfl
theorem abn (pre : I1 → Bool) (F : I1 → OT j0.Y) (hF : ∀ (x : I1) oy, pre x = true → (F x).run = some oy → (Ur).run = some oy) : aa Try.prog 8 (j0.aE pre F) :=
  az ak AL WR (f := 8) (fn := Try.f8) (c := aj Try.f8) (by kernel_rfl) (by kernel_rfl) (by kernel_rfl) (S := j0) (k := 0) (by kernel_rfl) (fun R hR => ae) (n := 1000) (sel := Pz) (fun v o h => by cases h; rfl) (pre := pre) (F := F) (T := fun x => Ur) (fun x Q => aqt x Q) hF
def PA (_ : I1) : Bool := true
def agB (_ : I1) : OT j0.Y := .ok ⟨LN, ((aoa, ()), ())⟩
theorem al3 : aa Try.prog 8 (j0.aE PA agB) := abn _ _ fun x oy _ ho => ho
def y9 : bL := (j0.aE PA agB)
theorem Uq : aa Try.prog 8 y9 := al3
theorem Up : aB y9 := ax
def GS : Env := av 8 y9 GW
theorem AJ : aN Try.prog GS := ag Uq AL
theorem BX : aq GS := ab Up BZ
theorem WQ : aU Try.prog te GS := aG follows ak AJ BX
def D8 : ao := ⟨[.val false .int], [], true, 0, false⟩
abbrev arY : Type := ((Int) × Unit) × (Unit)
def agF : ar := ⟨[.val true .elem], [], false⟩
def agE : SV → Option ar := fun _ => some agF
def aqu (a0 : Int) : OT D8.Y :=
  (gd [inB a0 4, decide (Int.toNat a0 + 0 < 4)] (.ok ⟨agF, (({ w0 := List.getD [(23 : UInt64), (21 : UInt64), (5 : UInt64), (5 : UInt64)] (Int.toNat a0 + 0) (0 : UInt64), w1 := 0, w2 := 0, w3 := 0 }, ()), ())⟩))
theorem atO (x : arY) (Q : D8.Y → Prop) : wpf te GS au 1000 Try.f54 (D8.inp.inj x).tm (D8.inp.inj x).hp (fnK D8 agE Q) (fun _ _ => False) = (aqu (x.1.1)).wpR Q := by kernel_rfl
theorem al5 (pre : arY → Bool) (F : arY → OT D8.Y) (hF : ∀ (x : arY) oy, pre x = true → (F x).run = some oy → (aqu (x.1.1)).run = some oy) : aa Try.prog 54 (D8.aE pre F) :=
  az ak AJ WQ (f := 54) (fn := Try.f54) (c := aj Try.f54) (by kernel_rfl) (by kernel_rfl) (by kernel_rfl) (S := D8) (k := 0) (by kernel_rfl) (fun R hR => ae) (n := 1000) (sel := agE) (fun v o h => by cases h; rfl) (pre := pre) (F := F) (T := fun x => aqu (x.1.1)) (fun x Q => atO x Q) hF
def Ut (x : arY) : Bool := aA x.1.1
def asK (x : arY) : OT D8.Y := .ok ⟨agF, ((bS x.1.1, ()), ())⟩
theorem asJ : aa Try.prog 54 (D8.aE Ut asK) := al5 _ _ fun x oy hp ho => by
  rw [← ho]
  clear ho
  obtain ⟨⟨s, ⟨⟩⟩, ⟨⟩⟩ := x
  rcases cC hp with h | h | h | h
  all_goals
    have h : s = _ := h
    subst h
    rfl
def LS : bL := (D8.aE Ut asK)
theorem agG : aa Try.prog 54 LS := asJ
theorem agD : aB LS := ax
def ajR : Env := av 54 LS GS
theorem NZ : aN Try.prog ajR := ag agG AJ
theorem KK : aq ajR := ab agD BX
theorem ajQ : aU Try.prog te ajR := aG follows ak NZ KK
def fx : ao := ⟨[.val false .int, .val true .elem], [], true, 0, false⟩
abbrev zb : Type := ((Int) × (af) × Unit) × (Unit)
def vR : ar := ⟨[.val true .elem], [], false⟩
def I3 : SV → Option ar := fun _ => some vR
def LR (a0 : Int) (a1 : af) : OT fx.Y :=
  let z0 : Nat := pS a0
  let z1 : af := wb z0 a1 a1
  let z2 : af := wb z0 a1 z1
  let z3 : af := bS a0
  (gd [o1 ((a0, a1, a1, ()), ()), o1 ((a0, a1, z1, ()), ()), Ut ((a0, ()), ()), Et ((a0, z2, z3, ()), ())] (.ok ⟨vR, ((su z0 z2 z3, ()), ())⟩))
theorem al4 (x : zb) (Q : fx.Y → Prop) : wpf te ajR au 1000 Try.f31 (fx.inp.inj x).tm (fx.inp.inj x).hp (fnK fx I3 Q) (fun _ _ => False) = (LR (x.1.1) (x.1.2.1)).wpR Q := by kernel_rfl
theorem Us (pre : zb → Bool) (F : zb → OT fx.Y) (hF : ∀ (x : zb) oy, pre x = true → (F x).run = some oy → (LR (x.1.1) (x.1.2.1)).run = some oy) : aa Try.prog 31 (fx.aE pre F) :=
  az ak NZ ajQ (f := 31) (fn := Try.f31) (c := aj Try.f31) (by kernel_rfl) (by kernel_rfl) (by kernel_rfl) (S := fx) (k := 0) (by kernel_rfl) (fun R hR => ae) (n := 1000) (sel := I3) (fun v o h => by cases h; rfl) (pre := pre) (F := F) (T := fun x => LR (x.1.1) (x.1.2.1)) (fun x Q => al4 x Q) hF
theorem aho (p : Nat) (a b : af) : wb p a b = wb p b a := by unfold wb; rw [Nat.mul_comm]
def za (x : zb) : Bool := aA x.1.1
def Y1 (x : zb) : OT fx.Y := .ok ⟨vR, ((Rq (pS x.1.1) x.1.2.1 (bS x.1.1), ()), ())⟩
theorem agC : aa Try.prog 31 (fx.aE za Y1) := Us _ _ fun x oy hp ho => by
  rw [← ho]
  clear ho
  obtain ⟨⟨s, a, ⟨⟩⟩, ⟨⟩⟩ := x
  have hs : aA s = true := hp
  show _ = some (⟨vR, ((Rq (pS s) a (bS s), ()), ())⟩ : fx.Y)
  unfold Rq
  rw [aho _ (wb (pS s) a a) a]
  refine (ah ?_).trans rfl
  simp only [List.all_cons, List.all_nil, Bool.and_true, Bool.and_eq_true]
  exact ⟨hs, hs, hs, hs⟩
def tx : bL := (fx.aE za Y1)
theorem PD : aa Try.prog 31 tx := agC
theorem PC : aB tx := ax
def xC : Env := av 31 tx ajR
theorem uE : aN Try.prog xC := ag PD NZ
theorem xB : aq xC := ab PC KK
theorem SH : aU Try.prog te xC := aG follows ak uE xB
def lO : ao := ⟨[.val false .int, .val true (.prod .elem (.prod .elem .bool))], [], true, 0, false⟩
abbrev abm : Type := ((Int) × ((af × (af × Bool))) × Unit) × (Unit)
def nq : ar := ⟨[.val false .bool], [], false⟩
def YZ : SV → Option ar := fun _ => some nq
def agA (a0 : Int) (a1 : (af × (af × Bool))) : OT lO.Y :=
  let z0 : Int × af × PUnit := (a0, a1.fst, ())
  let z1 : Nat := pS a0
  let z2 : af := ofP z1 a1.fst
  let z3 : af := ofP z1 a1.snd.fst
  let z4 : af := wb z1 a1.snd.fst a1.snd.fst
  let z5 : af := Rq z1 a1.fst (bS a0)
  (.br (decide (a0 < (0 : Int)))
  (.ok ⟨nq, ((false, ()), ())⟩)
  (.br (decide ((3 : Int) < a0))
    (.ok ⟨nq, ((false, ()), ())⟩)
    (.br (a1.snd.snd)
      (.ok ⟨nq, ((a1.fst.w0 == (0 : UInt64) && (a1.fst.w1 == (0 : UInt64) && (a1.fst.w2 == (0 : UInt64) && (a1.fst.w3 == (0 : UInt64) && true))) && (a1.snd.fst.w0 == (0 : UInt64) && (a1.snd.fst.w1 == (0 : UInt64) && (a1.snd.fst.w2 == (0 : UInt64) && (a1.snd.fst.w3 == (0 : UInt64) && true))) && (a1.snd.snd == true && true)), ()), ())⟩)
      (gd [iB (z0, ())] (.br (!(z2.w0 == a1.fst.w0 && (z2.w1 == a1.fst.w1 && (z2.w2 == a1.fst.w2 && (z2.w3 == a1.fst.w3 && true)))))
        (.ok ⟨nq, ((false, ()), ())⟩)
        (gd [iB ((a0, a1.snd.fst, ()), ())] (.br (!(z3.w0 == a1.snd.fst.w0 && (z3.w1 == a1.snd.fst.w1 && (z3.w2 == a1.snd.fst.w2 && (z3.w3 == a1.snd.fst.w3 && true)))))
          (.ok ⟨nq, ((false, ()), ())⟩)
          (gd [o1 ((a0, a1.snd.fst, a1.snd.fst, ()), ()), za (z0, ())] (.ok ⟨nq, ((z4.w0 == z5.w0 && (z4.w1 == z5.w1 && (z4.w2 == z5.w2 && (z4.w3 == z5.w3 && true))), ()), ())⟩)))))))))
theorem asI (x : abm) (Q : lO.Y → Prop) : wpf te xC au 1000 Try.f7 (lO.inp.inj x).tm (lO.inp.inj x).hp (fnK lO YZ Q) (fun _ _ => False) = (agA (x.1.1) (x.1.2.1)).wpR Q := by kernel_rfl
theorem agz (pre : abm → Bool) (F : abm → OT lO.Y) (hF : ∀ (x : abm) oy, pre x = true → (F x).run = some oy → (agA (x.1.1) (x.1.2.1)).run = some oy) : aa Try.prog 7 (lO.aE pre F) :=
  az ak uE SH (f := 7) (fn := Try.f7) (c := aj Try.f7) (by kernel_rfl) (by kernel_rfl) (by kernel_rfl) (S := lO) (k := 0) (by kernel_rfl) (fun R hR => ae) (n := 1000) (sel := YZ) (fun v o h => by cases h; rfl) (pre := pre) (F := F) (T := fun x => agA (x.1.1) (x.1.2.1)) (fun x Q => asI x Q) hF
theorem Zj {s : Int} (hs : aA s = true) (x : af) : eqE (ofP (pS s) x) x = Nat.blt x.nat (pS s) := by
  have hp := Qe hs
  have hlt := Nat.mod_lt x.nat hp.1
  rw [arw, show (ofP (pS s) x).nat = x.nat % pS s from m9 hp]
  rcases (Bool.eq_false_or_eq_true (Nat.blt x.nat (pS s))).symm with h | h
  · rw [h]
    have hle := ahk h
    cases hb : Nat.beq (x.nat % pS s) x.nat
    · rfl
    · have := Nat.eq_of_beq_eq_true hb
      omega
  · rw [h, Nat.mod_eq_of_lt (dB h)]
    exact Nat.beq_refl _
def Y0 (_ : abm) : Bool := true
def an2 (x : abm) : OT lO.Y := .ok ⟨nq, ((onB x.1.1 x.1.2.1, ()), ())⟩
theorem aqs : aa Try.prog 7 (lO.aE Y0 an2) := agz _ _ fun x oy _ ho => by
  rw [← ho]
  clear ho
  obtain ⟨⟨c, ⟨X, Y, i⟩, ⟨⟩⟩, ⟨⟩⟩ := x
  show _ = some (⟨nq, ((onB c (X, Y, i), ()), ())⟩ : lO.Y)
  rcases (Bool.eq_false_or_eq_true (aA c)).symm with hs | hs
  · have e : onB c (X, Y, i) = false := by unfold onB; rw [hs]; rfl
    rw [e]
    by_cases h0 : c < 0
    · exact OT.aw (decide_eq_true h0)
    · refine (OT.al (decide_eq_false h0)).trans (OT.aw (decide_eq_true ?_))
      show (3 : Int) < c
      simp only [aA, Bool.and_eq_false_iff, decide_eq_false_iff_not] at hs
      omega
  · have hc : 0 ≤ c ∧ c < 4 := by simpa [aA] using hs
    refine (OT.al (decide_eq_false (by show ¬ c < 0; omega))).trans ((OT.al (decide_eq_false (by show ¬ (3 : Int) < c; omega))).trans ?_)
    have hx := Zj hs X
    have hy := Zj hs Y
    have gd1 : ∀ (a : af) (z : OT lO.Y), (gd [iB ((c, a, ()), ())] z).run = z.run := fun a z => ah (by simp only [List.all_cons, List.all_nil, Bool.and_true]; exact hs)
    cases i
    · refine (OT.al rfl).trans ((gd1 X _).trans ?_)
      rcases (Bool.eq_false_or_eq_true (Nat.blt X.nat (pS c))).symm with h1 | h1
      · have e : onB c (X, Y, false) = false := by unfold onB; rw [hs, h1]; rfl
        rw [e]
        rw [h1] at hx
        exact OT.aw (b := !eqE (ofP (pS c) X) X) (by rw [hx]; rfl)
      · have hx1 := hx
        rw [h1] at hx1
        refine (OT.al (b := !eqE (ofP (pS c) X) X) (by rw [hx1]; rfl)).trans ((gd1 Y _).trans ?_)
        rcases (Bool.eq_false_or_eq_true (Nat.blt Y.nat (pS c))).symm with h2 | h2
        · have e : onB c (X, Y, false) = false := by unfold onB; rw [hs, h1, h2]; rfl
          rw [e]
          rw [h2] at hy
          exact OT.aw (b := !eqE (ofP (pS c) Y) Y) (by rw [hy]; rfl)
        · have hy1 := hy
          rw [h2] at hy1
          have e : onB c (X, Y, false) = eqE (wb (pS c) Y Y) (Rq (pS c) X (bS c)) := by unfold onB; rw [hs, h1, h2]; rfl
          rw [e]
          refine (OT.al (b := !eqE (ofP (pS c) Y) Y) (by rw [hy1]; rfl)).trans ((ah ?_).trans rfl)
          simp only [List.all_cons, List.all_nil, Bool.and_true, Bool.and_eq_true]
          exact ⟨hs, hs⟩
    · have e : onB c (X, Y, true) = (aj1 X && (aj1 Y && true)) := by unfold onB; rw [hs]; rfl
      rw [e]
      exact OT.aw rfl
def D2 : bL := (lO.aE Y0 an2)
theorem abl : aa Try.prog 7 D2 := aqs
theorem abk : aB D2 := ax
def SG : Env := av 7 D2 xC
theorem GQ : aN Try.prog SG := ag abl uE
theorem GR : aq SG := ab abk xB
theorem adE : aU Try.prog te SG := aG follows ak GQ GR
def jI : ao := ⟨[.val false (.list .u8)], [], true, 0, false⟩
abbrev Is : Type := ((List (UInt8)) × Unit) × (Unit)
def K3 : ar := ⟨[.own 0], [(0, .row .u8)], false⟩
def Oz : SV → Option ar := fun _ => some K3
def Tn (a0 : List (UInt8)) : OT jI.Y :=
  (gd [decide ((0 + List.length a0) * 1 ≤ 140737488355328)] (.ok ⟨K3, (((), ()), ([] ++ a0, ()))⟩))
theorem aoH (x : Is) (Q : jI.Y → Prop) : wpf te SG au 1000 Try.f65 (jI.inp.inj x).tm (jI.inp.inj x).hp (fnK jI Oz Q) (fun _ _ => False) = (Tn (x.1.1)).wpR Q := by kernel_rfl
theorem aaP (pre : Is → Bool) (F : Is → OT jI.Y) (hF : ∀ (x : Is) oy, pre x = true → (F x).run = some oy → (Tn (x.1.1)).run = some oy) : aa Try.prog 65 (jI.aE pre F) :=
  az ak GQ adE (f := 65) (fn := Try.f65) (c := aj Try.f65) (by kernel_rfl) (by kernel_rfl) (by kernel_rfl) (S := jI) (k := 0) (by kernel_rfl) (fun R hR => ae) (n := 1000) (sel := Oz) (fun v o h => by cases h; rfl) (pre := pre) (F := F) (T := fun x => Tn (x.1.1)) (fun x Q => aoH x Q) hF
def va (x : Is) : Bool := decide (x.1.1.length ≤ 140737488355328)
def aee (x : Is) : OT jI.Y := .ok ⟨K3, (((), ()), (x.1.1, ()))⟩
theorem akd : aa Try.prog 65 (jI.aE va aee) := aaP _ _ fun x oy hp ho => by
  rw [← ho]
  have hp' : x.1.1.length ≤ 140737488355328 := of_decide_eq_true hp
  refine (ah ?_).trans rfl
  simp only [List.all_cons, List.all_nil, Bool.and_true]
  exact decide_eq_true (by omega)
def yB : bL := (jI.aE va aee)
theorem Tm : aa Try.prog 65 yB := akd
theorem Tl : aB yB := ax
def Az : Env := av 65 yB SG
theorem sa : aN Try.prog Az := ag Tm GQ
theorem BL : aq Az := ab Tl GR
theorem Gz : aU Try.prog te Az := aG follows ak sa BL
def jD : ao := ⟨[.val false (.list .u8), .val false (.list .u8)], [], true, 0, false⟩
abbrev Iq : Type := ((List (UInt8)) × (List (UInt8)) × Unit) × (Unit)
def u4 : Shape := ⟨26, [(0, .val false (.list .u8)), (1, .val false (.list .u8)), (5, .val false .int)], [], 0, true⟩
abbrev bm : Type := ((List (UInt8)) × (List (UInt8)) × (Int) × Unit) × (Unit)
def qF : Shape := ⟨26, [(4, .val false .bool)], [], 0, true⟩
abbrev jB : Type := ((Bool) × Unit) × (Unit)
def qG : Shape := ⟨26, [], [], 0, true⟩
abbrev jC : Type := (Unit) × (Unit)
def Xm : SE → Option Shape := iX [(0, qG)] (some qF)
def akb (a0 : List (UInt8)) (a1 : List (UInt8)) (a5 : Int) : OT (Sum bm aJ) :=
  let z0 : Nat := List.length a0
  let z1 : Nat := Int.toNat a5
  (.br (decide (a5 < (↑z0 : Int)))
  (gd [inB a5 z0, inB a5 (List.length a1)] (.br (!List.getD a0 z1 (0 : UInt8) == List.getD a1 z1 (0 : UInt8))
    (.ok (.inr ⟨(.ret, qF), ((false, ()), ())⟩))
    (gd [inR (a5 + (1 : Int))] (.ok (.inl ((a0, (a1, (a5 + (1 : Int), ()))), ()))))))
  (.ok (.inr ⟨(.exit 0, qG), ((), ())⟩)))
def u6 (s : bm) : OT (Sum bm aJ) := akb (s.1.1) (s.1.2.1) (s.1.2.2.1)
theorem aj8 (s : bm) (Q : Sum bm aJ → Prop) : wps te Az au 1000 (bq (aj Try.f15) 0) (u4.inj s) (cE u4 Xm (Q : Sum u4.T aJ → Prop)) = (u6 s).wpR Q := by kernel_rfl
def qE (g0_r : bm → jB) (c0_r : bm → Bool) (g0_0 : bm → jC) (s : bm) : OT aJ := (.br (c0_r s) (.ok ⟨(.ret, qF), g0_r s⟩) (.ok ⟨(.exit 0, qG), g0_0 s⟩))
def u5 : ar := ⟨[.val false .bool], [], false⟩
def Ot : SV → Option ar := fun _ => some u5
def Th (ok0 : bm → Bool) (g0_r : bm → jB) (c0_r : bm → Bool) (g0_0 : bm → jC) (a0 : List (UInt8)) (a1 : List (UInt8)) : OT jD.Y :=
  let z0 : (List UInt8 × List UInt8 × Int × PUnit) × PUnit := ((a0, a1, (0 : Int), ()), ())
  (.br (!(↑(List.length a0) : Int) == (↑(List.length a1) : Int))
  (.ok ⟨u5, ((false, ()), ())⟩)
  (gd [ok0 z0] (.br (c0_r z0)
    (.ok ⟨u5, (((g0_r z0).fst.fst, ()), ())⟩)
    (.ok ⟨u5, ((true, ()), ())⟩))))
theorem aoF (ok0 : bm → Bool) (g0_r : bm → jB) (c0_r : bm → Bool) (g0_0 : bm → jC) (x : Iq) (Q : jD.Y → Prop) : wpf te Az (bj 0 (cS u4 0 ok0 (qE g0_r c0_r g0_0)) au) 1000 Try.f15 (jD.inp.inj x).tm (jD.inp.inj x).hp (fnK jD Ot Q) (fun _ _ => False) = (Th ok0 g0_r c0_r g0_0 (x.1.1) (x.1.2.1)).wpR Q := by kernel_rfl
theorem aaL (ok0 : bm → Bool) (g0_r : bm → jB) (c0_r : bm → Bool) (g0_0 : bm → jC) (h0 : ∀ s : bm, ok0 s = true → ∃ m e, ay (u6) m s = some e ∧ (qE g0_r c0_r g0_0 s).run = some e) (pre : Iq → Bool) (F : Iq → OT jD.Y) (hF : ∀ (x : Iq) oy, pre x = true → (F x).run = some oy → (Th ok0 g0_r c0_r g0_0 (x.1.1) (x.1.2.1)).run = some oy) : aa Try.prog 15 (jD.aE pre F) :=
  az ak sa Gz (f := 15) (fn := Try.f15) (c := aj Try.f15) (by kernel_rfl) (by kernel_rfl) (by kernel_rfl) (S := jD) (k := 0) (by kernel_rfl) (fun R hR => (aH (c := (aj Try.f15)) (by kernel_rfl) (id := 0) (by kernel_rfl) (bg ak sa Gz (sh := u4) hR (xs := Xm) (aF (by kernel_rfl) (by kernel_rfl) hR) aS ae (n := 1000) (T := u6) (fun s Q => aj8 s Q) (ok := ok0) (f := qE g0_r c0_r g0_0) h0) ae)) (n := 1000) (sel := Ot) (fun v o h => by cases h; rfl) (pre := pre) (F := F) (T := fun x => Th ok0 g0_r c0_r g0_0 (x.1.1) (x.1.2.1)) (fun x Q => aoF ok0 g0_r c0_r g0_0 x Q) hF
def Ou (s : bm) : Bool := decide (s.1.2.2.1 = 0 ∧ s.1.1.length = s.1.2.1.length ∧ s.1.1.length ≤ 140737488355328)
def Ov (_ : bm) : jB := ((false, ()), ())
def qH (s : bm) : Bool := !decide (s.1.1 = s.1.2.1)
def Xn (_ : bm) : jC := ((), ())
theorem Ip {a b : List UInt8} (hab : a.length = b.length) (hl : a.length ≤ 140737488355328) : ∀ d i, i + d = a.length →
    ∃ m, ay u6 m ((a, b, (i : Int), ()), ()) = some (cond (decide (a.drop i = b.drop i)) ⟨(.exit 0, qG), ((), ())⟩ ⟨(.ret, qF), ((false, ()), ())⟩)
  | 0, i, h => by
    refine ⟨1, ?_⟩
    have h1 : a.drop i = [] := List.drop_eq_nil_of_le (by omega)
    have h2 : b.drop i = [] := List.drop_eq_nil_of_le (by omega)
    rw [h1, h2, decide_eq_true rfl]
    exact bN (OT.al (decide_eq_false (by dsimp only; omega)))
  | d + 1, i, h => by
    have hi : i < a.length := by omega
    have hi' : i < b.length := by omega
    have e1 : a.drop i = a[i] :: a.drop (i + 1) := List.drop_eq_getElem_cons hi
    have e2 : b.drop i = b[i] :: b.drop (i + 1) := List.drop_eq_getElem_cons hi'
    have g1 : a.getD i 0 = a[i] := by simp [List.getD_eq_getElem?_getD, hi]
    have g2 : b.getD i 0 = b[i] := by simp [List.getD_eq_getElem?_getD, hi']
    have hg : ∀ x : OT (Sum bm aJ), (gd [inB (i : Int) a.length, inB (i : Int) b.length] x).run = x.run := fun x => ah (by simp only [List.all_cons, List.all_nil, Bool.and_true, Bool.and_eq_true]; exact ⟨aI (by omega), aI (by omega)⟩)
    by_cases hx : a[i] = b[i]
    · obtain ⟨m, hm⟩ := Ip hab hl d (i + 1) (by omega)
      refine ⟨m + 1, aV (s' := ((a, b, ((i + 1 : Nat) : Int), ()), ())) ?_ ?_⟩
      · refine (OT.aw (decide_eq_true (by dsimp only; omega))).trans ((hg _).trans ((OT.al ?_).trans ((ah ?_).trans rfl)))
        · simp only [Int.toNat_natCast, g1, g2, hx]
          simp
        · simp only [List.all_cons, List.all_nil, Bool.and_true]
          exact aK (by omega)
      · rw [hm, e1, e2, hx]
        simp only [List.cons.injEq, true_and]
    · refine ⟨1, ?_⟩
      have : decide (a.drop i = b.drop i) = false := decide_eq_false (by rw [e1, e2]; intro h; exact hx (List.cons.inj h).1)
      rw [this]
      refine bN ((OT.aw (decide_eq_true (by dsimp only; omega))).trans ((hg _).trans ((OT.aw ?_).trans rfl)))
      simp only [Int.toNat_natCast, g1, g2]
      simp [hx]
theorem aka : ∀ s : bm, Ou s = true → ∃ m e, ay u6 m s = some e ∧ (qE Ov qH Xn s).run = some e := by
  rintro ⟨⟨a, b, i, ⟨⟩⟩, ⟨⟩⟩ h
  have h' := of_decide_eq_true h
  dsimp only at h'
  obtain ⟨rfl, hab, hl⟩ := h'
  obtain ⟨m, hm⟩ := Ip hab hl a.length 0 (by omega)
  refine ⟨m, _, hm, ?_⟩
  simp only [List.drop_zero]
  by_cases hx : a = b
  · simp only [qE, qH, hx, decide_true, Bool.not_true]
    rfl
  · have : decide (a = b) = false := decide_eq_false hx
    simp only [qE, qH, this, Bool.not_false]
    rfl
def cl (x : Iq) : Bool := decide (x.1.1.length ≤ 140737488355328)
def Dj (x : Iq) : OT jD.Y := .ok ⟨u5, ((decide (x.1.1 = x.1.2.1), ()), ())⟩
theorem aj9 : aa Try.prog 15 (jD.aE cl Dj) := aaL Ou Ov qH Xn aka _ _ fun x oy hp ho => by
  rw [← ho]
  clear ho
  obtain ⟨⟨a, b, ⟨⟩⟩, ⟨⟩⟩ := x
  have hp' : a.length ≤ 140737488355328 := of_decide_eq_true hp
  by_cases hab : a.length = b.length
  · refine (OT.al (by simp [hab])).trans ((ah ?_).trans ?_)
    · simp only [List.all_cons, List.all_nil, Bool.and_true]
      exact decide_eq_true ⟨rfl, hab, hp'⟩
    · by_cases hx : a = b
      · refine (OT.al (by simp [qH, hx])).trans ?_
        simp only [Dj, hx, decide_true]
      · refine (OT.aw (by simp [qH, hx])).trans ?_
        have : decide (a = b) = false := decide_eq_false hx
        simp only [Dj, this]
        rfl
  · refine (OT.aw (by simp; omega)).trans ?_
    have : decide (a = b) = false := decide_eq_false fun e => hab (by rw [e])
    simp only [Dj, this]
def yy : bL := (jD.aE cl Dj)
theorem Tg : aa Try.prog 15 yy := aj9
theorem Tf : aB yy := ax
def Ay : Env := av 15 yy Az
theorem r9 : aN Try.prog Ay := ag Tg sa
theorem BK : aq Ay := ab Tf BL
theorem Gy : aU Try.prog te Ay := aG follows ak r9 BK
def eU : ao := ⟨[.val false (.list .u8)], [], true, 0, false⟩
abbrev rD : Type := ((List (UInt8)) × Unit) × (Unit)
def mu : Shape := ⟨27, [(2, .ptr 0 0 0), (3, .ptr 1 0 0), (6, .val false (.list .u8)), (7, .val false .int), (8, .val false .int)], [(0, .row .u64), (1, .row .u64)], 0, true⟩
abbrev bk : Type := ((Unit) × (Unit) × (List (UInt8)) × (Int) × (Int) × Unit) × ((List (UInt64)) × (List (UInt64)) × Unit)
def la : Shape := ⟨27, [(2, .ptr 0 0 0), (3, .ptr 1 0 0)], [(0, .row .u64), (1, .row .u64)], 0, true⟩
abbrev fk : Type := ((Unit) × (Unit) × Unit) × ((List (UInt64)) × (List (UInt64)) × Unit)
def J2 : SE → Option Shape := iX [(0, la)] none
def acD (a6 : List (UInt8)) (a7 : Int) (a8 : Int) (c0 : List (UInt64)) (c1 : List (UInt64)) : OT (Sum bk aJ) :=
  let z0 : Int := Int.tdiv a8 (8 : Int)
  let z1 : Bool := inB z0 4
  let z2 : Bool := decide (Int.toNat z0 + 0 < List.length c1)
  let z3 : Int := (8 : Int) * Int.tmod a8 (8 : Int)
  (.br (decide (a8 < a7))
  (gd [inB a8 (List.length a6), true && inR z0, z1, z2, inR z3, decide ((0 : Int) ≤ z3), z1, z2, inR (a8 + (1 : Int))] (.ok (.inl (((), ((), (a6, (a7, (a8 + (1 : Int), ()))))), (c0, (List.set c1 (Int.toNat z0 + 0) (List.getD c1 (Int.toNat z0 + 0) (0 : UInt64) ||| bH (UInt8.toUInt64 (List.getD a6 (Int.toNat a8) (0 : UInt8))) z3), ()))))))
  (.ok (.inr ⟨(.exit 0, la), (((), ((), ())), (c0, (c1, ())))⟩)))
def mv (s : bk) : OT (Sum bk aJ) := acD (s.1.2.2.1) (s.1.2.2.2.1) (s.1.2.2.2.2.1) (s.2.1) (s.2.2.1)
theorem acA (s : bk) (Q : Sum bk aJ → Prop) : wps te Ay au 1000 (bq (aj Try.f73) 0) (mu.inj s) (cE mu J2 (Q : Sum mu.T aJ → Prop)) = (mv s).wpR Q := by kernel_rfl
def rC (g0_0 : bk → fk) (s : bk) : OT aJ := (.ok ⟨(.exit 0, la), g0_0 s⟩)
def rB : ar := ⟨[.val true .elem], [], false⟩
def FA : SV → Option ar := fun _ => some rB
def pD (ok0 : bk → Bool) (g0_0 : bk → fk) (a0 : List (UInt8)) : OT eU.Y :=
  let z0 : (PUnit × PUnit × List UInt8 × Int × Int × PUnit) × List UInt64 × List UInt64 × PUnit := (((), (), a0, (↑(List.length a0) : Int), (0 : Int), ()), [(0 : UInt64), (0 : UInt64), (0 : UInt64), (0 : UInt64)], [(0 : UInt64), (0 : UInt64), (0 : UInt64), (0 : UInt64)], ())
  let z1 := (g0_0 z0).snd
  let z2 := z1.snd.fst
  let z3 := z1.fst
  let z4 : List UInt64 := lay z3 z2 4 (0 : UInt64)
  (gd [ok0 z0, decide (4 ≤ List.length z2), decide ((4 / 1 : Nat) + 0 ≤ List.length z3), decide (4 ≤ List.length z4)] (.ok ⟨rB, (({ w0 := List.getD z4 0 0, w1 := List.getD z4 1 0, w2 := List.getD z4 2 0, w3 := List.getD z4 3 0 }, ()), ())⟩))
theorem aij (ok0 : bk → Bool) (g0_0 : bk → fk) (x : rD) (Q : eU.Y → Prop) : wpf te Ay (bj 0 (cS mu 0 ok0 (rC g0_0)) au) 1000 Try.f73 (eU.inp.inj x).tm (eU.inp.inj x).hp (fnK eU FA Q) (fun _ _ => False) = (pD ok0 g0_0 (x.1.1)).wpR Q := by kernel_rfl
theorem Q5 (ok0 : bk → Bool) (g0_0 : bk → fk) (h0 : ∀ s : bk, ok0 s = true → ∃ m e, ay (mv) m s = some e ∧ (rC g0_0 s).run = some e) (pre : rD → Bool) (F : rD → OT eU.Y) (hF : ∀ (x : rD) oy, pre x = true → (F x).run = some oy → (pD ok0 g0_0 (x.1.1)).run = some oy) : aa Try.prog 73 (eU.aE pre F) :=
  az ak r9 Gy (f := 73) (fn := Try.f73) (c := aj Try.f73) (by kernel_rfl) (by kernel_rfl) (by kernel_rfl) (S := eU) (k := 0) (by kernel_rfl) (fun R hR => (aH (c := (aj Try.f73)) (by kernel_rfl) (id := 0) (by kernel_rfl) (bg ak r9 Gy (sh := mu) hR (xs := J2) (aF (by kernel_rfl) (by kernel_rfl) hR) aS ae (n := 1000) (T := mv) (fun s Q => acA s Q) (ok := ok0) (f := rC g0_0) h0) ae)) (n := 1000) (sel := FA) (fun v o h => by cases h; rfl) (pre := pre) (F := F) (T := fun x => pD ok0 g0_0 (x.1.1)) (fun x Q => aij ok0 g0_0 x Q) hF
def Mq (b : List UInt8) (k : Nat) (l : List UInt64) : List UInt64 := l.set (k / 8) (l.getD (k / 8) 0 ||| bH (UInt8.toUInt64 (b.getD k 0)) (8 * ((k % 8 : Nat) : Int)))
def arZ (b : List UInt8) (n : Nat) : List UInt64 := upto (Mq b) [0, 0, 0, 0] n
def adO (b : List UInt8) : af := elemOf (arZ b 32)
theorem tJ (b : List UInt8) : ∀ n, (arZ b n).length = 4
  | 0 => rfl
  | n + 1 => (List.length_set ..).trans (tJ b n)
def FB (s : bk) : Bool := decide (s.1.2.2.1.length = 32 ∧ s.1.2.2.2.1 = 32 ∧ s.1.2.2.2.2.1 = 0 ∧ s.2.2.1 = [0, 0, 0, 0])
def J3 (s : bk) : fk := (((), (), ()), (s.2.1, arZ s.1.2.2.1 32, ()))
theorem aqQ (i : Nat) : Int.tdiv (i : Int) 8 = ((i / 8 : Nat) : Int) := by rw [Int.tdiv_eq_ediv_of_nonneg (by omega)]; omega
theorem aqR (i : Nat) : Int.tmod (i : Int) 8 = ((i % 8 : Nat) : Int) := by rw [Int.tmod_eq_emod_of_nonneg (by omega)]; omega
theorem acC : ∀ s : bk, FB s = true → ∃ m e, ay mv m s = some e ∧ (rC J3 s).run = some e := by
  rintro ⟨⟨⟨⟩, ⟨⟩, b, n, i, ⟨⟩⟩, ⟨c0, c1, ⟨⟩⟩⟩ h
  have h' := of_decide_eq_true h
  dsimp only at h'
  obtain ⟨hb, rfl, rfl, rfl⟩ := h'
  have := (aT (T := mv) (fun i o => ((((), (), b, (32 : Int), (i : Int), ()), (c0, o, ())) : bk)) (Mq b)
    (fun o => (⟨(.exit 0, la), (((), (), ()), (c0, o, ()))⟩ : aJ)) 32 [0, 0, 0, 0] (fun _ o => o.length = 4) rfl (fun i o hi ho => ⟨?_, (List.length_set ..).trans ho⟩) (fun o ho => ?_)).1
  · obtain ⟨m, hm⟩ := this
    exact ⟨m, _, hm, rfl⟩
  · have t1 := aqQ i
    have t2 := aqR i
    refine (OT.aw (decide_eq_true (by dsimp only; omega))).trans ((ah ?_).trans ?_)
    · simp only [t1, t2, ho, hb, Int.toNat_natCast, List.all_cons, List.all_nil, Bool.and_true, Bool.true_and, Bool.and_eq_true]
      exact ⟨aI (by omega), aK (by omega), aI (by omega), decide_eq_true (by omega), aK (by omega), decide_eq_true (by omega), aI (by omega), decide_eq_true (by omega), aK (by omega)⟩
    · simp only [OT.cn, t1, t2, Int.toNat_natCast, Nat.add_zero]
      rfl
  · exact OT.al (decide_eq_false (by dsimp only; omega))
def nJ (x : rD) : Bool := decide (x.1.1.length = 32)
def Q7 (x : rD) : OT eU.Y := .ok ⟨rB, ((adO x.1.1, ()), ())⟩
abbrev Q4 (b : List UInt8) : bk := (((), (), b, (b.length : Int), 0, ()), ([0, 0, 0, 0], [0, 0, 0, 0], ()))
theorem Q6 {ok0 : bk → Bool} {g0 : bk → fk} {b : List UInt8} {L : List UInt64} (hok : ok0 (Q4 b) = true)
    (hg : g0 (Q4 b) = (((), (), ()), ([0, 0, 0, 0], L, ()))) (hL : L.length = 4) : (pD ok0 g0 b).run = some ⟨rB, ((elemOf L, ()), ())⟩ := by
  have e : lay [0, 0, 0, 0] L 4 0 = L := sE rfl hL
  unfold pD
  simp only [hg]
  refine (ah ?_).trans ?_
  · simp only [e, hL, List.all_cons, List.all_nil, Bool.and_true, Bool.and_eq_true]
    exact ⟨hok, rfl, rfl, rfl⟩
  · rw [e]
    rfl
theorem acB : aa Try.prog 73 (eU.aE nJ Q7) := Q5 FB J3 acC _ _ fun x oy hp ho => by
  rw [← ho]
  clear ho
  obtain ⟨⟨b, ⟨⟩⟩, ⟨⟩⟩ := x
  have hb : b.length = 32 := of_decide_eq_true hp
  exact Q6 (b := b) (L := arZ b 32) (decide_eq_true ⟨hb, by show ((b.length : Nat) : Int) = 32; omega, rfl, rfl⟩) rfl (tJ b 32)
def pC : bL := (eU.aE nJ Q7)
theorem M0 : aa Try.prog 73 pC := acB
theorem MZ : aB pC := ax
def qx : Env := av 73 pC Ay
theorem qw : aN Try.prog qx := ag M0 r9
theorem sY : aq qx := ab MZ BK
theorem N7 : aU Try.prog te qx := aG follows ak qw sY
def iR : ao := ⟨[.val false .int, .val false (.list .u8)], [], true, 0, false⟩
abbrev JV : Type := ((Int) × (List (UInt8)) × Unit) × (Unit)
def gH : ar := ⟨[.val true .elem, .val false .int], [], false⟩
def QS : SV → Option ar := fun _ => some gH
def Fl (a0 : Int) (a1 : List (UInt8)) : OT iR.Y :=
  let z0 : Nat := List.length a1
  let z1 : Int := (↑z0 : Int)
  let z2 : af := { w0 := 0, w1 := 0, w2 := 0, w3 := 0 }
  let z3 : List UInt8 := List.drop 0 (List.take 32 a1)
  let z4 : List UInt8 := List.drop 32 a1
  let z5 : af := (dk (Int.toNat a0)).fst
  (.br (aA a0)
  (.br (!z1 == (64 : Int))
    (.ok ⟨gH, ((z2, ((21 : Int), ())), ())⟩)
    (gd [cH (0 : Int) (32 : Int) z0, nJ ((z3, ()), ()), cH (32 : Int) z1 z0, nJ ((z4, ()), ())] (.br (kY z5)
      (.ok ⟨gH, ((z2, ((10 : Int), ())), ())⟩)
      (.ok ⟨gH, ((alX (adO z3) (adO z4) z5, ((0 : Int), ())), ())⟩))))
  (.ok ⟨gH, ((z2, ((20 : Int), ())), ())⟩))
theorem aq6 (x : JV) (Q : iR.Y → Prop) : wpf te qx au 1000 Try.f122 (iR.inp.inj x).tm (iR.inp.inj x).hp (fnK iR QS Q) (fun _ _ => False) = (Fl (x.1.1) (x.1.2.1)).wpR Q := by kernel_rfl
theorem acq (pre : JV → Bool) (F : JV → OT iR.Y) (hF : ∀ (x : JV) oy, pre x = true → (F x).run = some oy → (Fl (x.1.1) (x.1.2.1)).run = some oy) : aa Try.prog 122 (iR.aE pre F) :=
  az ak qw N7 (f := 122) (fn := Try.f122) (c := aj Try.f122) (by kernel_rfl) (by kernel_rfl) (by kernel_rfl) (S := iR) (k := 0) (by kernel_rfl) (fun R hR => ae) (n := 1000) (sel := QS) (fun v o h => by cases h; rfl) (pre := pre) (F := F) (T := fun x => Fl (x.1.1) (x.1.2.1)) (fun x Q => aq6 x Q) hF
def so (b : List UInt8) : Bool := (b.length : Int) == 64
def s7 (s : Int) (b : List UInt8) : af := alX (adO (b.take 32)) (adO (b.drop 32)) (dk s.toNat).1
def QT (_ : JV) : Bool := true
def ah8 (x : JV) : OT iR.Y := .br (aA x.1.1) (.br (so x.1.2.1) (.ok ⟨gH, ((s7 x.1.1 x.1.2.1, ((0 : Int), ())), ())⟩) (.ok ⟨gH, ((⟨0, 0, 0, 0⟩, ((21 : Int), ())), ())⟩)) (.ok ⟨gH, ((⟨0, 0, 0, 0⟩, ((20 : Int), ())), ())⟩)
theorem wi {b : List UInt8} : so b = true ↔ b.length = 64 := by
  unfold so
  rw [beq_iff_eq]
  omega
theorem Zk {s : Int} (h : aA s = true) : kY (dk s.toNat).1 = false := by
  rcases cC h with rfl | rfl | rfl | rfl <;> rfl
theorem acr {s : Int} {b : List UInt8} {W : af} (hW : alX (adO (List.drop 0 (b.take 32))) (adO (b.drop 32)) (dk s.toNat).1 = W) : (Fl s b).run = (OT.br (aA s) (.br (so b) (.ok ⟨gH, ((W, ((0 : Int), ())), ())⟩) (.ok ⟨gH, ((⟨0, 0, 0, 0⟩, ((21 : Int), ())), ())⟩)) (.ok ⟨gH, ((⟨0, 0, 0, 0⟩, ((20 : Int), ())), ())⟩) : OT iR.Y).run := by
  unfold Fl
  simp only [hW]
  rcases (Bool.eq_false_or_eq_true (aA s)).symm with hs | hs
  · exact (OT.al hs).trans (OT.al (b := aA s) hs).symm
  · refine (OT.aw hs).trans (Eq.trans ?_ (OT.aw (b := aA s) hs).symm)
    rcases (Bool.eq_false_or_eq_true (so b)).symm with hl | hl
    · exact (OT.aw (b := !so b) (by rw [hl]; rfl)).trans (OT.al (b := so b) hl).symm
    · have hb : b.length = 64 := wi.1 hl
      refine (OT.al (b := !so b) (by rw [hl]; rfl)).trans (Eq.trans ?_ (OT.aw (b := so b) hl).symm)
      refine (ah ?_).trans (OT.al (Zk hs))
      simp only [List.all_cons, List.all_nil, Bool.and_true, Bool.and_eq_true]
      exact ⟨dq (by omega), decide_eq_true (by show (List.drop 0 (b.take 32)).length = 32; rw [List.drop_zero, List.length_take]; omega), dq (by omega), decide_eq_true (by show (List.drop 32 b).length = 32; rw [List.length_drop]; omega)⟩
theorem amL : aa Try.prog 122 (iR.aE QT ah8) := acq _ _ fun x oy hp ho => by
  rw [← ho]
  clear ho
  obtain ⟨⟨s, b, ⟨⟩⟩, ⟨⟩⟩ := x
  exact acr rfl
def zU : bL := (iR.aE QT ah8)
theorem VB : aa Try.prog 122 zU := amL
theorem VA : aB zU := ax
def AV : Env := av 122 zU qx
theorem sg : aN Try.prog AV := ag VB qw
theorem Cb : aq AV := ab VA sY
theorem Hb : aU Try.prog te AV := aG follows ak sg Cb
def ej : ao := ⟨[.val false .int, .val true .elem], [], true, 0, false⟩
abbrev rH : Type := ((Int) × (af) × Unit) × (Unit)
def mw : Shape := ⟨39, [(3, .ptr 0 0 0), (7, .own 1), (21, .val false .int), (22, .val false .int)], [(0, .row .u64), (1, .row .u8)], 0, true⟩
abbrev bG : Type := ((Unit) × (Unit) × (Int) × (Int) × Unit) × ((List (UInt64)) × (List (UInt8)) × Unit)
def lc : Shape := ⟨39, [(7, .own 0)], [(0, .row .u8)], 0, true⟩
abbrev gI : Type := ((Unit) × Unit) × ((List (UInt8)) × Unit)
def J7 : SE → Option Shape := iX [(0, lc)] none
def acP (a21 : Int) (a22 : Int) (c0 : List (UInt64)) (c1 : List (UInt8)) : OT (Sum bG aJ) :=
  let z0 : Int := Int.tdiv a22 (8 : Int)
  let z1 : Int := (8 : Int) * Int.tmod a22 (8 : Int)
  let z2 : Nat := List.length c1
  let z3 : Nat := Int.toNat a22
  (.br (decide (a22 < a21))
  (gd [true && inR z0, inB z0 4, decide (Int.toNat z0 + 0 < List.length c0), inR z1, decide ((0 : Int) ≤ z1), inB a22 z2, decide (z3 < z2), inR (a22 + (1 : Int))] (.ok (.inl (((), ((), (a21, (a22 + (1 : Int), ())))), (c0, (List.set c1 z3 (UInt64.toUInt8 (aX (List.getD c0 (Int.toNat z0 + 0) (0 : UInt64)) z1)), ()))))))
  (.ok (.inr ⟨(.exit 0, lc), (((), ()), (c1, ()))⟩)))
def my (s : bG) : OT (Sum bG aJ) := acP (s.1.2.2.1) (s.1.2.2.2.1) (s.2.1) (s.2.2.1)
theorem acM (s : bG) (Q : Sum bG aJ → Prop) : wps te AV au 1000 (bq (aj Try.f34) 0) (mw.inj s) (cE mw J7 (Q : Sum mw.T aJ → Prop)) = (my s).wpR Q := by kernel_rfl
def rG (g0_0 : bG → gI) (s : bG) : OT aJ := (.ok ⟨(.exit 0, lc), g0_0 s⟩)
def ic : ar := ⟨[.own 0], [(0, .row .u8)], false⟩
def FK : SV → Option ar := fun _ => some ic
def FM (ok0 : bG → Bool) (g0_0 : bG → gI) (a0 : Int) (a1 : af) : OT ej.Y :=
  let z0 : af × Int × UInt64 × UInt64 × af := dk (Int.toNat a0)
  let z1 : af := ofN (af.nat a1 % af.nat z0.fst)
  let z2 : (PUnit × PUnit × Int × Int × PUnit) × List UInt64 × List UInt8 × PUnit := (((), (), (32 : Int), (0 : Int), ()), [z1.w0, z1.w1, z1.w2, z1.w3], List.replicate 32 (0 : UInt8), ())
  (.br (aA a0)
  (gd [k8 ((z0, a1, ()), ()), ok0 z2] (.ok ⟨ic, (((), ()), ((g0_0 z2).snd.fst, ()))⟩))
  (.ok ⟨ic, (((), ()), ([], ()))⟩))
theorem aiq (ok0 : bG → Bool) (g0_0 : bG → gI) (x : rH) (Q : ej.Y → Prop) : wpf te AV (bj 0 (cS mw 0 ok0 (rG g0_0)) au) 1000 Try.f34 (ej.inp.inj x).tm (ej.inp.inj x).hp (fnK ej FK Q) (fun _ _ => False) = (FM ok0 g0_0 (x.1.1) (x.1.2.1)).wpR Q := by kernel_rfl
theorem Re (ok0 : bG → Bool) (g0_0 : bG → gI) (h0 : ∀ s : bG, ok0 s = true → ∃ m e, ay (my) m s = some e ∧ (rG g0_0 s).run = some e) (pre : rH → Bool) (F : rH → OT ej.Y) (hF : ∀ (x : rH) oy, pre x = true → (F x).run = some oy → (FM ok0 g0_0 (x.1.1) (x.1.2.1)).run = some oy) : aa Try.prog 34 (ej.aE pre F) :=
  az ak sg Hb (f := 34) (fn := Try.f34) (c := aj Try.f34) (by kernel_rfl) (by kernel_rfl) (by kernel_rfl) (S := ej) (k := 0) (by kernel_rfl) (fun R hR => (aH (c := (aj Try.f34)) (by kernel_rfl) (id := 0) (by kernel_rfl) (bg ak sg Hb (sh := mw) hR (xs := J7) (aF (by kernel_rfl) (by kernel_rfl) hR) aS ae (n := 1000) (T := my) (fun s Q => acM s Q) (ok := ok0) (f := rG g0_0) h0) ae)) (n := 1000) (sel := FK) (fun v o h => by cases h; rfl) (pre := pre) (F := F) (T := fun x => FM ok0 g0_0 (x.1.1) (x.1.2.1)) (fun x Q => aiq ok0 g0_0 x Q) hF
def sr (e : af) : List UInt8 := upto (fun k o => o.set k (UInt64.toUInt8 (aX ((lst e).getD (k / 8) 0) (8 * ((k % 8 : Nat) : Int))))) (List.replicate 32 0) 32
def tX (s : bG) : Bool := decide (s.1.2.2.1 = 32 ∧ s.1.2.2.2.1 = 0 ∧ s.2.1.length = 4 ∧ s.2.2.1 = List.replicate 32 0)
def rF (s : bG) : gI := (((), ()), (sr (elemOf s.2.1), ()))
theorem acO : ∀ s : bG, tX s = true → ∃ m e, ay my m s = some e ∧ (rG rF s).run = some e := by
  rintro ⟨⟨⟨⟩, ⟨⟩, n, i, ⟨⟩⟩, ⟨h, o, ⟨⟩⟩⟩ hh
  have h' := of_decide_eq_true hh
  dsimp only at h'
  obtain ⟨rfl, rfl, hl, rfl⟩ := h'
  obtain ⟨e, rfl⟩ : ∃ e, h = lst e := ⟨elemOf h, (bR hl).symm⟩
  have := (aT (T := my) (fun i o => ((((), (), (32 : Int), (i : Int), ()), (lst e, o, ())) : bG)) (fun k o => o.set k (UInt64.toUInt8 (aX ((lst e).getD (k / 8) 0) (8 * ((k % 8 : Nat) : Int)))))
    (fun o => (⟨(.exit 0, lc), (((), ()), (o, ()))⟩ : aJ)) 32 (List.replicate 32 0) (fun _ o => o.length = 32) (by simp) (fun i o hi ho => ⟨?_, by rw [List.length_set]; exact ho⟩) (fun o ho => ?_)).1
  · obtain ⟨m, hm⟩ := this
    exact ⟨m, _, hm, rfl⟩
  · have t1 : Int.tdiv (i : Int) 8 = ((i / 8 : Nat) : Int) := by rw [Int.tdiv_eq_ediv_of_nonneg (by omega)]; omega
    have t2 : Int.tmod (i : Int) 8 = ((i % 8 : Nat) : Int) := by rw [Int.tmod_eq_emod_of_nonneg (by omega)]; omega
    refine (OT.aw (decide_eq_true (by dsimp only; omega))).trans ((ah ?_).trans ?_)
    · simp only [t1, t2, dl, ho, Int.toNat_natCast, List.all_cons, List.all_nil, Bool.and_true, Bool.and_eq_true]
      exact ⟨⟨trivial, aK (by omega)⟩, aI (by omega), decide_eq_true (by omega), aK (by omega), decide_eq_true (by omega), aI (by omega), decide_eq_true (by omega), aK (by omega)⟩
    · simp only [OT.cn, t1, t2, Int.toNat_natCast, Nat.add_zero]
      rfl
  · exact OT.al (decide_eq_false (by dsimp only; omega))
theorem HZ (e : af) : tX (((), (), 32, 0, ()), (lst e, List.replicate 32 0, ())) = true := decide_eq_true ⟨rfl, rfl, rfl, rfl⟩
theorem VO (z : af) : (OT.ok ⟨ic, (((), ()), ((rF (((), (), 32, 0, ()), ([z.w0, z.w1, z.w2, z.w3], List.replicate 32 0, ()))).2.1, ()))⟩ : OT ej.Y) = .ok ⟨ic, (((), ()), (sr z, ()))⟩ := by
  have e : elemOf [z.w0, z.w1, z.w2, z.w3] = z := rfl
  simp only [rF, e]
def FL (_ : rH) : Bool := true
def Rf (x : rH) : OT ej.Y := .br (aA x.1.1) (.ok ⟨ic, (((), ()), (sr (ofN (x.1.2.1.nat % (dk x.1.1.toNat).1.nat)), ()))⟩) (.ok ⟨ic, (((), ()), ([], ()))⟩)
theorem acN : aa Try.prog 34 (ej.aE FL Rf) := Re tX rF acO _ _ fun x oy hp ho => by
  rw [← ho]
  clear ho
  obtain ⟨⟨s, a, ⟨⟩⟩, ⟨⟩⟩ := x
  cases hs : aA s
  · exact (OT.al hs).trans (OT.al (b := aA s) hs).symm
  · refine (OT.aw hs).trans ((ah ?_).trans ?_)
    · simp only [List.all_cons, List.all_nil, Bool.and_true, Bool.and_eq_true]
      exact ⟨CO hs, HZ _⟩
    · refine Eq.trans ?_ (OT.aw (b := aA s) hs).symm
      exact congrArg OT.run (VO (ofN (a.nat % (dk s.toNat).1.nat)))
def pG : bL := (ej.aE FL Rf)
theorem M5 : aa Try.prog 34 pG := acN
theorem M4 : aB pG := ax
def qA : Env := av 34 pG AV
theorem qz : aN Try.prog qA := ag M5 sg
theorem sZ : aq qA := ab M4 Cb
theorem N8 : aU Try.prog te qA := aG follows ak qz sZ
def cJ : ao := ⟨[.val false .int, .val true (.prod .elem (.prod .elem .bool))], [], true, 0, false⟩
abbrev lf : Type := ((Int) × ((af × (af × Bool))) × Unit) × (Unit)
def dS : ar := ⟨[.own 0], [(0, .row .u8)], false⟩
def F0 : SV → Option ar := fun _ => some dS
def pR (a0 : Int) (a1 : (af × (af × Bool))) : OT cJ.Y :=
  let z0 : List UInt8 := sr (ofN (af.nat a1.fst % af.nat (dk (Int.toNat a0)).fst))
  let z1 : Nat := Int.toNat ((↑(List.length z0) : Int) - (1 : Int))
  (.br (!onB a0 a1)
  (.ok ⟨dS, (((), ()), ([], ()))⟩)
  (gd [aA a0] (.ok ⟨dS, (((), ()), (List.set z0 z1 (List.getD z0 z1 (0 : UInt8) ||| UInt64.toUInt8 (a1.snd.fst.w0 &&& (1 : UInt64)) <<< (7 : UInt8)), ()))⟩)))
theorem aiX (x : lf) (Q : cJ.Y → Prop) : wpf te qA au 1000 Try.f37 (cJ.inp.inj x).tm (cJ.inp.inj x).hp (fnK cJ F0 Q) (fun _ _ => False) = (pR (x.1.1) (x.1.2.1)).wpR Q := by kernel_rfl
theorem Rw (pre : lf → Bool) (F : lf → OT cJ.Y) (hF : ∀ (x : lf) oy, pre x = true → (F x).run = some oy → (pR (x.1.1) (x.1.2.1)).run = some oy) : aa Try.prog 37 (cJ.aE pre F) :=
  az ak qz N8 (f := 37) (fn := Try.f37) (c := aj Try.f37) (by kernel_rfl) (by kernel_rfl) (by kernel_rfl) (S := cJ) (k := 0) (by kernel_rfl) (fun R hR => ae) (n := 1000) (sel := F0) (fun v o h => by cases h; rfl) (pre := pre) (F := F) (T := fun x => pR (x.1.1) (x.1.2.1)) (fun x Q => aiX x Q) hF
def th (b : List UInt8) (y : af) : List UInt8 := b.set 31 (b.getD 31 0 ||| UInt64.toUInt8 (y.w0 &&& 1) <<< 7)
def gJ (s : Int) (P : Pt) : List UInt8 := cond (onB s P) (th (sr (ofP (pS s) P.1)) P.2.1) []
def F1 (_ : lf) : Bool := true
def Ry (x : lf) : OT cJ.Y := .br (onB x.1.1 x.1.2.1) (.ok ⟨dS, (((), ()), (th (sr (ofP (pS x.1.1) x.1.2.1.1)) x.1.2.1.2.1, ()))⟩) (.ok ⟨dS, (((), ()), ([], ()))⟩)
theorem kn (e : af) : (sr e).length = 32 := by
  unfold sr
  have key : ∀ n, (upto (fun k (o : List UInt8) => o.set k (UInt64.toUInt8 (aX ((lst e).getD (k / 8) 0) (8 * ((k % 8 : Nat) : Int))))) (List.replicate 32 0) n).length = 32 := by
    intro n
    induction n with
    | zero => rfl
    | succ n ih => exact (List.length_set ..).trans ih
  exact key 32
theorem Rx {s : Int} {P : Pt} {B : List UInt8} (hB : sr (ofN (P.1.nat % (dk s.toNat).1.nat)) = B) (hl : B.length = 32) : (pR s P).run = (OT.br (onB s P) (.ok ⟨dS, (((), ()), (th B P.2.1, ()))⟩) (.ok ⟨dS, (((), ()), ([], ()))⟩) : OT cJ.Y).run := by
  unfold pR
  have e : Int.toNat ((B.length : Int) - 1) = 31 := by rw [hl]; rfl
  simp only [hB, e]
  rcases (Bool.eq_false_or_eq_true (onB s P)).symm with h | h
  · exact (OT.aw (b := !onB s P) (by rw [h]; rfl)).trans (OT.al (b := onB s P) h).symm
  · refine (OT.al (b := !onB s P) (by rw [h]; rfl)).trans (Eq.trans ((ah ?_).trans rfl) (OT.aw (b := onB s P) h).symm)
    simp only [List.all_cons, List.all_nil, Bool.and_true]
    exact Zh h
theorem Ki : aa Try.prog 37 (cJ.aE F1 Ry) := Rw _ _ fun x oy hp ho => by
  rw [← ho]
  clear ho
  obtain ⟨⟨s, P, ⟨⟩⟩, ⟨⟩⟩ := x
  exact Rx (B := sr (ofP (pS s) P.1)) rfl (kn _)
def pQ : bL := (cJ.aE F1 Ry)
theorem Ni : aa Try.prog 37 pQ := Ki
theorem Nh : aB pQ := ax
def mR : Env := av 37 pQ qA
theorem lq : aN Try.prog mR := ag Ni qz
theorem s5 : aq mR := ab Nh sZ
theorem xV : aU Try.prog te mR := aG follows ak lq s5
def dJ : ao := ⟨[.val false (.list .u8)], [], true, 0, false⟩
abbrev lU : Type := ((List (UInt8)) × Unit) × (Unit)
def j2 : Shape := ⟨27, [(0, .val false (.list .u8)), (2, .ptr 0 0 0), (3, .ptr 1 0 0), (4, .val false .int)], [(0, .row .u64), (1, .row .u64)], 0, true⟩
abbrev aZ : Type := ((List (UInt8)) × (Unit) × (Unit) × (Int) × Unit) × ((List (UInt64)) × (List (UInt64)) × Unit)
def jc : Shape := ⟨27, [(2, .ptr 0 0 0), (3, .ptr 1 0 0)], [(0, .row .u64), (1, .row .u64)], 0, true⟩
abbrev eu : Type := ((Unit) × (Unit) × Unit) × ((List (UInt64)) × (List (UInt64)) × Unit)
def Ef : SE → Option Shape := iX [(0, jc)] none
def UE (a0 : List (UInt8)) (a4 : Int) (c0 : List (UInt64)) (c1 : List (UInt64)) : OT (Sum aZ aJ) :=
  let z0 : Int := Int.tdiv a4 (8 : Int)
  let z1 : Bool := inB z0 4
  let z2 : Bool := decide (Int.toNat z0 + 0 < List.length c1)
  let z3 : Int := (8 : Int) * Int.tmod a4 (8 : Int)
  (.br (decide (a4 < (32 : Int)))
  (gd [true && inR z0, z1, z2, inB a4 (List.length a0), inR z3, z1, z2, inR (a4 + (1 : Int))] (.ok (.inl ((a0, ((), ((), (a4 + (1 : Int), ())))), (c0, (List.set c1 (Int.toNat z0 + 0) (List.getD c1 (Int.toNat z0 + 0) (0 : UInt64) ||| bH (UInt8.toUInt64 (List.getD a0 (Int.toNat a4) (0 : UInt8))) (↑(UInt64.toNat (i2u z3)) : Int)), ()))))))
  (.ok (.inr ⟨(.exit 0, jc), (((), ((), ())), (c0, (c1, ())))⟩)))
def j3 (s : aZ) : OT (Sum aZ aJ) := UE (s.1.1) (s.1.2.2.2.1) (s.2.1) (s.2.2.1)
theorem UB (s : aZ) (Q : Sum aZ aJ → Prop) : wps te mR au 1000 (bq (aj Try.f70) 0) (j2.inj s) (cE j2 Ef (Q : Sum j2.T aJ → Prop)) = (j3 s).wpR Q := by kernel_rfl
def nw (g0_0 : aZ → eu) (s : aZ) : OT aJ := (.ok ⟨(.exit 0, jc), g0_0 s⟩)
def nv : ar := ⟨[.val true .elem], [], false⟩
def Bl : SV → Option ar := fun _ => some nv
def lT (ok0 : aZ → Bool) (g0_0 : aZ → eu) (a0 : List (UInt8)) : OT dJ.Y :=
  let z0 : (List UInt8 × PUnit × PUnit × Int × PUnit) × List UInt64 × List UInt64 × PUnit := ((a0, (), (), (0 : Int), ()), [(0 : UInt64), (0 : UInt64), (0 : UInt64), (0 : UInt64)], [(0 : UInt64), (0 : UInt64), (0 : UInt64), (0 : UInt64)], ())
  let z1 := (g0_0 z0).snd
  let z2 := z1.snd.fst
  let z3 := z1.fst
  let z4 : List UInt64 := lay z3 z2 4 (0 : UInt64)
  (gd [ok0 z0, decide (4 ≤ List.length z2), decide ((4 / 1 : Nat) + 0 ≤ List.length z3), decide (4 ≤ List.length z4)] (.ok ⟨nv, (({ w0 := List.getD z4 0 0, w1 := List.getD z4 1 0, w2 := List.getD z4 2 0, w3 := List.getD z4 3 0 }, ()), ())⟩))
theorem abt (ok0 : aZ → Bool) (g0_0 : aZ → eu) (x : lU) (Q : dJ.Y → Prop) : wpf te mR (bj 0 (cS j2 0 ok0 (nw g0_0)) au) 1000 Try.f70 (dJ.inp.inj x).tm (dJ.inp.inj x).hp (fnK dJ Bl Q) (fun _ _ => False) = (lT ok0 g0_0 (x.1.1)).wpR Q := by kernel_rfl
theorem LZ (ok0 : aZ → Bool) (g0_0 : aZ → eu) (h0 : ∀ s : aZ, ok0 s = true → ∃ m e, ay (j3) m s = some e ∧ (nw g0_0 s).run = some e) (pre : lU → Bool) (F : lU → OT dJ.Y) (hF : ∀ (x : lU) oy, pre x = true → (F x).run = some oy → (lT ok0 g0_0 (x.1.1)).run = some oy) : aa Try.prog 70 (dJ.aE pre F) :=
  az ak lq xV (f := 70) (fn := Try.f70) (c := aj Try.f70) (by kernel_rfl) (by kernel_rfl) (by kernel_rfl) (S := dJ) (k := 0) (by kernel_rfl) (fun R hR => (aH (c := (aj Try.f70)) (by kernel_rfl) (id := 0) (by kernel_rfl) (bg ak lq xV (sh := j2) hR (xs := Ef) (aF (by kernel_rfl) (by kernel_rfl) hR) aS ae (n := 1000) (T := j3) (fun s Q => UB s Q) (ok := ok0) (f := nw g0_0) h0) ae)) (n := 1000) (sel := Bl) (fun v o h => by cases h; rfl) (pre := pre) (F := F) (T := fun x => lT ok0 g0_0 (x.1.1)) (fun x Q => abt ok0 g0_0 x Q) hF
def Bm (s : aZ) : Bool := decide (s.1.1.length = 32 ∧ s.1.2.2.2.1 = 0 ∧ s.2.2.1 = [0, 0, 0, 0])
def Eg (s : aZ) : eu := (((), (), ()), (s.2.1, arZ s.1.1 32, ()))
theorem UD : ∀ s : aZ, Bm s = true → ∃ m e, ay j3 m s = some e ∧ (nw Eg s).run = some e := by
  rintro ⟨⟨b, ⟨⟩, ⟨⟩, i, ⟨⟩⟩, ⟨c0, c1, ⟨⟩⟩⟩ h
  have h' := of_decide_eq_true h
  dsimp only at h'
  obtain ⟨hb, rfl, rfl⟩ := h'
  have := (aT (T := j3) (fun i o => (((b, (), (), (i : Int), ()), (c0, o, ())) : aZ)) (Mq b)
    (fun o => (⟨(.exit 0, jc), (((), (), ()), (c0, o, ()))⟩ : aJ)) 32 [0, 0, 0, 0] (fun _ o => o.length = 4) rfl (fun i o hi ho => ⟨?_, (List.length_set ..).trans ho⟩) (fun o ho => ?_)).1
  · obtain ⟨m, hm⟩ := this
    exact ⟨m, _, hm, rfl⟩
  · have t1 := aqQ i
    have t2 := aqR i
    have t3 : (8 : Int) * ((i % 8 : Nat) : Int) = ((8 * (i % 8) : Nat) : Int) := by omega
    have t4 := E8 (k := 8 * (i % 8)) (by omega)
    refine (OT.aw (decide_eq_true (by dsimp only; omega))).trans ((ah ?_).trans ?_)
    · simp only [t1, t2, ho, hb, Int.toNat_natCast, List.all_cons, List.all_nil, Bool.and_true, Bool.true_and, Bool.and_eq_true]
      exact ⟨aK (by omega), aI (by omega), decide_eq_true (by omega), aI (by omega), aK (by omega), aI (by omega), decide_eq_true (by omega), aK (by omega)⟩
    · simp only [OT.cn, t1, t2, Int.toNat_natCast, Nat.add_zero]
      unfold Mq
      rw [t3, t4]
      rfl
  · exact OT.al (decide_eq_false (by dsimp only; omega))
def kP (x : lU) : Bool := decide (x.1.1.length = 32)
def I9 (x : lU) : OT dJ.Y := .ok ⟨nv, ((adO x.1.1, ()), ())⟩
abbrev I8 (b : List UInt8) : aZ := ((b, (), (), 0, ()), ([0, 0, 0, 0], [0, 0, 0, 0], ()))
theorem L0 {ok0 : aZ → Bool} {g0 : aZ → eu} {b : List UInt8} {L : List UInt64} (hok : ok0 (I8 b) = true)
    (hg : g0 (I8 b) = (((), (), ()), ([0, 0, 0, 0], L, ()))) (hL : L.length = 4) : (lT ok0 g0 b).run = some ⟨nv, ((elemOf L, ()), ())⟩ := by
  have e : lay [0, 0, 0, 0] L 4 0 = L := sE rfl hL
  unfold lT
  simp only [hg]
  refine (ah ?_).trans ?_
  · simp only [e, hL, List.all_cons, List.all_nil, Bool.and_true, Bool.and_eq_true]
    exact ⟨hok, rfl, rfl, rfl⟩
  · rw [e]
    rfl
theorem UC : aa Try.prog 70 (dJ.aE kP I9) := LZ Bm Eg UD _ _ fun x oy hp ho => by
  rw [← ho]
  clear ho
  obtain ⟨⟨b, ⟨⟩⟩, ⟨⟩⟩ := x
  have hb : b.length = 32 := of_decide_eq_true hp
  exact L0 (b := b) (L := arZ b 32) (decide_eq_true ⟨hb, rfl, rfl⟩) rfl (tJ b 32)
def nu : bL := (dJ.aE kP I9)
theorem HP : aa Try.prog 70 nu := UC
theorem HO : aB nu := ax
def jy : Env := av 70 nu mR
theorem jl : aN Try.prog jy := ag HP lq
theorem qq : aq jy := ab HO s5
theorem sR : aU Try.prog te jy := aG follows ak jl qq
def dK : ao := ⟨[.val false .int, .val true .elem], [], true, 0, false⟩
abbrev lY : Type := ((Int) × (af) × Unit) × (Unit)
def j5 : Shape := ⟨38, [(3, .ptr 0 0 0), (7, .own 1), (8, .val false .int)], [(0, .row .u64), (1, .row .u8)], 0, true⟩
abbrev bc : Type := ((Unit) × (Unit) × (Int) × Unit) × ((List (UInt64)) × (List (UInt8)) × Unit)
def gq : Shape := ⟨38, [(7, .own 0)], [(0, .row .u8)], 0, true⟩
abbrev ey : Type := ((Unit) × Unit) × ((List (UInt8)) × Unit)
def Em : SE → Option Shape := iX [(0, gq)] none
def UR (a8 : Int) (c0 : List (UInt64)) (c1 : List (UInt8)) : OT (Sum bc aJ) :=
  let z0 : Int := Int.tdiv a8 (8 : Int)
  let z1 : Int := (8 : Int) * Int.tmod a8 (8 : Int)
  (.br (decide (a8 < (32 : Int)))
  (gd [true && inR z0, inB z0 4, decide (Int.toNat z0 + 0 < List.length c0), inR z1, decide ((List.length c1 + 1) * 1 ≤ 140737488355328), inR (a8 + (1 : Int))] (.ok (.inl (((), ((), (a8 + (1 : Int), ()))), (c0, (c1 ++ [UInt64.toUInt8 (aX (List.getD c0 (Int.toNat z0 + 0) (0 : UInt64)) (↑(UInt64.toNat (i2u z1)) : Int))], ()))))))
  (.ok (.inr ⟨(.exit 0, gq), (((), ()), (c1, ()))⟩)))
def j6 (s : bc) : OT (Sum bc aJ) := UR (s.1.2.2.1) (s.2.1) (s.2.2.1)
theorem UO (s : bc) (Q : Sum bc aJ → Prop) : wps te jy au 1000 (bq (aj Try.f44) 0) (j5.inj s) (cE j5 Em (Q : Sum j5.T aJ → Prop)) = (j6 s).wpR Q := by kernel_rfl
def nz (g0_0 : bc → ey) (s : bc) : OT aJ := (.ok ⟨(.exit 0, gq), g0_0 s⟩)
def ny : ar := ⟨[.own 0], [(0, .row .u8)], false⟩
def Bo : SV → Option ar := fun _ => some ny
def lX (ok0 : bc → Bool) (g0_0 : bc → ey) (a0 : Int) (a1 : af) : OT dK.Y :=
  let z0 : af := ofP (pS a0) a1
  let z1 : (PUnit × PUnit × Int × PUnit) × List UInt64 × List UInt8 × PUnit := (((), (), (0 : Int), ()), [z0.w0, z0.w1, z0.w2, z0.w3], [], ())
  (gd [q6 ((a0, ()), ()), iB ((a0, a1, ()), ()), ok0 z1] (.ok ⟨ny, (((), ()), ((g0_0 z1).snd.fst, ()))⟩))
theorem abB (ok0 : bc → Bool) (g0_0 : bc → ey) (x : lY) (Q : dK.Y → Prop) : wpf te jy (bj 0 (cS j5 0 ok0 (nz g0_0)) au) 1000 Try.f44 (dK.inp.inj x).tm (dK.inp.inj x).hp (fnK dK Bo Q) (fun _ _ => False) = (lX ok0 g0_0 (x.1.1) (x.1.2.1)).wpR Q := by kernel_rfl
theorem L6 (ok0 : bc → Bool) (g0_0 : bc → ey) (h0 : ∀ s : bc, ok0 s = true → ∃ m e, ay (j6) m s = some e ∧ (nz g0_0 s).run = some e) (pre : lY → Bool) (F : lY → OT dK.Y) (hF : ∀ (x : lY) oy, pre x = true → (F x).run = some oy → (lX ok0 g0_0 (x.1.1) (x.1.2.1)).run = some oy) : aa Try.prog 44 (dK.aE pre F) :=
  az ak jl sR (f := 44) (fn := Try.f44) (c := aj Try.f44) (by kernel_rfl) (by kernel_rfl) (by kernel_rfl) (S := dK) (k := 0) (by kernel_rfl) (fun R hR => (aH (c := (aj Try.f44)) (by kernel_rfl) (id := 0) (by kernel_rfl) (bg ak jl sR (sh := j5) hR (xs := Em) (aF (by kernel_rfl) (by kernel_rfl) hR) aS ae (n := 1000) (T := j6) (fun s Q => UO s Q) (ok := ok0) (f := nz g0_0) h0) ae)) (n := 1000) (sel := Bo) (fun v o h => by cases h; rfl) (pre := pre) (F := F) (T := fun x => lX ok0 g0_0 (x.1.1) (x.1.2.1)) (fun x Q => abB ok0 g0_0 x Q) hF
def atd (e : af) (k : Nat) : UInt8 := UInt64.toUInt8 (aX ((lst e).getD (k / 8) 0) (8 * ((k % 8 : Nat) : Int)))
theorem ajL {α : Type} (f : Nat → α) : ∀ n, upto (fun k (o : List α) => o ++ [f k]) [] n = (List.range n).map f
  | 0 => rfl
  | n + 1 => by
    show upto (fun k (o : List α) => o ++ [f k]) [] n ++ [f n] = _
    rw [ajL f n, List.range_succ, List.map_append]
    rfl
theorem O4 {α : Type} (f : Nat → α) (l : List α) : ∀ n, n ≤ l.length → upto (fun k (o : List α) => o.set k (f k)) l n = (List.range n).map f ++ l.drop n
  | 0, _ => rfl
  | n + 1, h => by
    have hl : ((List.range n).map f).length = n := by rw [List.length_map, List.length_range]
    show (upto (fun k (o : List α) => o.set k (f k)) l n).set n (f n) = _
    rw [O4 f l n (by omega), List.set_append_right _ _ (by omega), hl, Nat.sub_self, List.drop_eq_getElem_cons (by omega), List.set_cons_zero, List.range_succ, List.map_append, List.append_assoc]
    rfl
theorem amZ (e : af) : sr e = (List.range 32).map (atd e) := by
  have h := O4 (atd e) (List.replicate 32 0) 32 (by rw [List.length_replicate]; omega)
  rw [List.drop_eq_nil_of_le (by rw [List.length_replicate]; omega), List.append_nil] at h
  exact h
def Bp (s : bc) : Bool := decide (s.1.2.2.1 = 0 ∧ s.2.1.length = 4 ∧ s.2.2.1 = [])
def En (s : bc) : ey := (((), ()), (sr (elemOf s.2.1), ()))
theorem UQ : ∀ s : bc, Bp s = true → ∃ m e, ay j6 m s = some e ∧ (nz En s).run = some e := by
  rintro ⟨⟨⟨⟩, ⟨⟩, i, ⟨⟩⟩, ⟨h, o, ⟨⟩⟩⟩ hh
  have h' := of_decide_eq_true hh
  dsimp only at h'
  obtain ⟨rfl, hl, rfl⟩ := h'
  obtain ⟨e, rfl⟩ : ∃ e, h = lst e := ⟨elemOf h, (bR hl).symm⟩
  have := (aT (T := j6) (fun i o => ((((), (), (i : Int), ()), (lst e, o, ())) : bc)) (fun k o => o ++ [atd e k])
    (fun o => (⟨(.exit 0, gq), (((), ()), (o, ()))⟩ : aJ)) 32 [] (fun n o => o.length = n) rfl (fun i o hi ho => ⟨?_, by rw [List.length_append, ho]; rfl⟩) (fun o ho => ?_)).1
  · obtain ⟨m, hm⟩ := this
    refine ⟨m, _, hm, ?_⟩
    have hE : sr (elemOf (lst e)) = upto (fun k (o : List UInt8) => o ++ [atd e k]) [] 32 := by rw [ajL]; exact amZ e
    show some (⟨(.exit 0, gq), (((), ()), (sr (elemOf (lst e)), ()))⟩ : aJ) = _
    rw [hE]
  · have t1 := aqQ i
    have t2 := aqR i
    have t3 : (8 : Int) * ((i % 8 : Nat) : Int) = ((8 * (i % 8) : Nat) : Int) := by omega
    have t4 := E8 (k := 8 * (i % 8)) (by omega)
    refine (OT.aw (decide_eq_true (by dsimp only; omega))).trans ((ah ?_).trans ?_)
    · simp only [t1, t2, ho, dl, Int.toNat_natCast, List.all_cons, List.all_nil, Bool.and_true, Bool.true_and, Bool.and_eq_true]
      exact ⟨aK (by omega), aI (by omega), decide_eq_true (by omega), aK (by omega), decide_eq_true (by omega), aK (by omega)⟩
    · simp only [OT.cn, t1, t2, Int.toNat_natCast, Nat.add_zero]
      unfold atd
      rw [t3, t4]
      rfl
  · exact OT.al (decide_eq_false (by dsimp only; omega))
def iC (x : lY) : Bool := aA x.1.1
def Je (x : lY) : OT dK.Y := .ok ⟨ny, (((), ()), (sr (ofP (pS x.1.1) x.1.2.1), ()))⟩
theorem L7 {ok0 : bc → Bool} {g0 : bc → ey} {s : Int} {a A : af} {B : List UInt8} (hs : aA s = true) (hA : ofP (pS s) a = A) (h0 : ok0 (((), (), 0, ()), ([A.w0, A.w1, A.w2, A.w3], [], ())) = true)
    (e0 : g0 (((), (), 0, ()), ([A.w0, A.w1, A.w2, A.w3], [], ())) = (((), ()), (B, ()))) : (lX ok0 g0 s a).run = some ⟨ny, (((), ()), (B, ()))⟩ := by
  unfold lX
  simp only [hA, e0]
  refine (ah ?_).trans rfl
  simp only [List.all_cons, List.all_nil, Bool.and_true, Bool.and_eq_true]
  exact ⟨hs, hs, h0⟩
theorem UP : aa Try.prog 44 (dK.aE iC Je) := L6 Bp En UQ _ _ fun x oy hp ho => by
  rw [← ho]
  clear ho
  obtain ⟨⟨s, a, ⟨⟩⟩, ⟨⟩⟩ := x
  exact L7 (A := ofP (pS s) a) hp rfl (decide_eq_true ⟨rfl, rfl, rfl⟩) rfl
def nx : bL := (dK.aE iC Je)
theorem HR : aa Try.prog 44 nx := UP
theorem HQ : aB nx := ax
def mM : Env := av 44 nx jy
theorem n5 : aN Try.prog mM := ag HR jl
theorem qs : aq mM := ab HQ qq
theorem Ic : aU Try.prog te mM := aG follows ak n5 qs
def cg : ao := ⟨[.val false .int, .val true (.prod .elem (.prod .elem .bool))], [], true, 0, false⟩
abbrev iz : Type := ((Int) × ((af × (af × Bool))) × Unit) × (Unit)
def cF : ar := ⟨[.own 0], [(0, .row .u8)], false⟩
def Bj : SV → Option ar := fun _ => some cF
def lP (a0 : Int) (a1 : (af × (af × Bool))) : OT cg.Y :=
  let z0 : List UInt8 := sr (ofP (pS a0) a1.fst)
  (.br (!onB a0 a1)
  (.ok ⟨cF, (((), ()), ([], ()))⟩)
  (gd [iC ((a0, a1.fst, ()), ())] (.br (a1.snd.fst.w0 % (2 : UInt64) == (1 : UInt64))
    (.ok ⟨cF, (((), ()), (List.set z0 31 (List.getD z0 31 (0 : UInt8) ||| (128 : UInt8)), ()))⟩)
    (.ok ⟨cF, (((), ()), (z0, ()))⟩))))
theorem abo (x : iz) (Q : cg.Y → Prop) : wpf te mM au 1000 Try.f45 (cg.inp.inj x).tm (cg.inp.inj x).hp (fnK cg Bj Q) (fun _ _ => False) = (lP (x.1.1) (x.1.2.1)).wpR Q := by kernel_rfl
theorem LP (pre : iz → Bool) (F : iz → OT cg.Y) (hF : ∀ (x : iz) oy, pre x = true → (F x).run = some oy → (lP (x.1.1) (x.1.2.1)).run = some oy) : aa Try.prog 45 (cg.aE pre F) :=
  az ak n5 Ic (f := 45) (fn := Try.f45) (c := aj Try.f45) (by kernel_rfl) (by kernel_rfl) (by kernel_rfl) (S := cg) (k := 0) (by kernel_rfl) (fun R hR => ae) (n := 1000) (sel := Bj) (fun v o h => by cases h; rfl) (pre := pre) (F := F) (T := fun x => lP (x.1.1) (x.1.2.1)) (fun x Q => abo x Q) hF
theorem alJ {y : af} (h : (y.w0 % 2 == 1) = true) (b : List UInt8) : th b y = b.set 31 (b.getD 31 0 ||| 128) := by
  rw [← aml] at h
  have e : y.w0 &&& 1 = 1 := by simpa using h
  unfold th
  rw [e]
  rfl
theorem afM {y : af} (h : (y.w0 % 2 == 1) = false) {b : List UInt8} (hb : b.length = 32) : th b y = b := by
  have h2 : (y.w0 &&& 1).toNat = y.w0.toNat % 2 := by
    rw [UInt64.toNat_and]
    exact Nat.and_two_pow_sub_one_eq_mod y.w0.toNat 1
  have h3 : (y.w0 % 2).toNat = y.w0.toNat % 2 := by rw [UInt64.toNat_mod]; rfl
  have hn : y.w0.toNat % 2 ≠ 1 := fun e => by
    have : y.w0 % 2 = 1 := UInt64.toNat_inj.1 (by rw [h3, e]; rfl)
    rw [this] at h
    cases h
  have e : y.w0 &&& 1 = 0 := UInt64.toNat_inj.1 (by rw [h2]; show _ = 0; omega)
  unfold th
  rw [e]
  have e2 : (UInt64.toUInt8 0 <<< 7 : UInt8) = 0 := by decide
  rw [e2, UInt8.or_zero]
  have hl : 31 < b.length := by omega
  rw [List.getD_eq_getElem?_getD, List.getElem?_eq_getElem hl]
  exact List.set_getElem_self hl
def Bk (_ : iz) : Bool := true
def I2 (x : iz) : OT cg.Y := .br (onB x.1.1 x.1.2.1) (.ok ⟨cF, (((), ()), (th (sr (ofP (pS x.1.1) x.1.2.1.1)) x.1.2.1.2.1, ()))⟩) (.ok ⟨cF, (((), ()), ([], ()))⟩)
theorem LQ {s : Int} {P : Pt} {B : List UInt8} (hB : sr (ofP (pS s) P.1) = B) (hl : B.length = 32) : (lP s P).run = (OT.br (onB s P) (.ok ⟨cF, (((), ()), (th B P.2.1, ()))⟩) (.ok ⟨cF, (((), ()), ([], ()))⟩) : OT cg.Y).run := by
  unfold lP
  simp only [hB]
  rcases (Bool.eq_false_or_eq_true (onB s P)).symm with h | h
  · exact (OT.aw (b := !onB s P) (by rw [h]; rfl)).trans (OT.al (b := onB s P) h).symm
  · refine (OT.al (b := !onB s P) (by rw [h]; rfl)).trans (Eq.trans ((ah ?_).trans ?_) (OT.aw (b := onB s P) h).symm)
    · simp only [List.all_cons, List.all_nil, Bool.and_true]
      exact Zh h
    · rcases (Bool.eq_false_or_eq_true (P.2.1.w0 % 2 == 1)).symm with h2 | h2
      · rw [afM h2 hl]
        exact OT.al h2
      · rw [alJ h2]
        exact OT.aw h2
theorem D7 : aa Try.prog 45 (cg.aE Bk I2) := LP _ _ fun x oy hp ho => by
  rw [← ho]
  clear ho
  obtain ⟨⟨s, P, ⟨⟩⟩, ⟨⟩⟩ := x
  exact LQ (B := sr (ofP (pS s) P.1)) rfl (kn _)
def nr : bL := (cg.aE Bk I2)
theorem HN : aa Try.prog 45 nr := D7
theorem HM : aB nr := ax
def AK : Env := av 45 nr mM
theorem NY : aN Try.prog AK := ag HN n5
theorem GV : aq AK := ab HM qs
abbrev Kg : ao := cJ
def BB (_ : lf) : Bool := true
def Kh (x : lf) : OT cJ.Y := .ok ⟨dS, (((), ()), (gJ x.1.1 x.1.2.1, ()))⟩
theorem Rv (s : Int) (P : Pt) : (OT.br (onB s P) (.ok ⟨dS, (((), ()), (th (sr (ofP (pS s) P.1)) P.2.1, ()))⟩) (.ok ⟨dS, (((), ()), ([], ()))⟩) : OT cJ.Y).run = some ⟨dS, (((), ()), (gJ s P, ()))⟩ := by
  unfold gJ
  generalize th (sr (ofP (pS s) P.1)) P.2.1 = B
  rcases (Bool.eq_false_or_eq_true (onB s P)).symm with h | h
  · rw [h]; rfl
  · rw [h]; rfl
theorem V2 : aa Try.prog 37 (Kg.aE BB Kh) := m6 (S := cJ) Ki fun x oy hp ho => ⟨rfl, (Rv x.1.1 x.1.2.1).trans ho⟩
def nQ : bL := (Kg.aE BB Kh)
theorem H2 : aa Try.prog 37 nQ := V2
theorem H0 : aB nQ := ax
def A1 : Env := av 37 nQ AK
theorem Ob : aN Try.prog A1 := ag H2 NY
theorem Hr : aq A1 := ab H0 GV
abbrev D5 : ao := cg
def vQ (_ : iz) : Bool := true
def D6 (x : iz) : OT cg.Y := .ok ⟨cF, (((), ()), (gJ x.1.1 x.1.2.1, ()))⟩
theorem LO (s : Int) (P : Pt) : (OT.br (onB s P) (.ok ⟨cF, (((), ()), (th (sr (ofP (pS s) P.1)) P.2.1, ()))⟩) (.ok ⟨cF, (((), ()), ([], ()))⟩) : OT cg.Y).run = some ⟨cF, (((), ()), (gJ s P, ()))⟩ := by
  unfold gJ
  generalize th (sr (ofP (pS s) P.1)) P.2.1 = B
  rcases (Bool.eq_false_or_eq_true (onB s P)).symm with h | h
  · rw [h]; rfl
  · rw [h]; rfl
theorem PB : aa Try.prog 45 (D5.aE vQ D6) := m6 (S := cg) D7 fun x oy hp ho => ⟨rfl, (LO x.1.1 x.1.2.1).trans ho⟩
def lz : bL := (D5.aE vQ D6)
theorem D4 : aa Try.prog 45 lz := PB
theorem D3 : aB lz := ax
def kE : Env := av 45 lz A1
theorem lD : aN Try.prog kE := ag D4 Ob
theorem oi : aq kE := ab D3 Hr
theorem GU : aU Try.prog te kE := aG follows ak lD oi
def DP : ao := ⟨[], [], true, 0, false⟩
abbrev arX : Type := (Unit) × (Unit)
def af4 : ar := ⟨[.val true (.arr 8 .u64)], [], false⟩
def af2 : SV → Option ar := fun _ => some af4
def aqo : OT DP.Y :=
  (.ok ⟨af4, (([(7640891576956012808 : UInt64), (13503953896175478587 : UInt64), (4354685564936845355 : UInt64), (11912009170470909681 : UInt64), (5840696475078001361 : UInt64), (11170449401992604703 : UInt64), (2270897969802886507 : UInt64), (6620516959819538809 : UInt64)], ()), ())⟩)
theorem atL (x : arX) (Q : DP.Y → Prop) : wpf te kE au 1000 Try.f66 (DP.inp.inj x).tm (DP.inp.inj x).hp (fnK DP af2 Q) (fun _ _ => False) = (aqo).wpR Q := by kernel_rfl
theorem alU (pre : arX → Bool) (F : arX → OT DP.Y) (hF : ∀ (x : arX) oy, pre x = true → (F x).run = some oy → (aqo).run = some oy) : aa Try.prog 66 (DP.aE pre F) :=
  az ak lD GU (f := 66) (fn := Try.f66) (c := aj Try.f66) (by kernel_rfl) (by kernel_rfl) (by kernel_rfl) (S := DP) (k := 0) (by kernel_rfl) (fun R hR => ae) (n := 1000) (sel := af2) (fun v o h => by cases h; rfl) (pre := pre) (F := F) (T := fun x => aqo) (fun x Q => atL x Q) hF
def af3 (_ : arX) : Bool := true
def asE (_ : arX) : OT DP.Y := .ok ⟨af4, ((bIV, ()), ())⟩
theorem asD : aa Try.prog 66 (DP.aE af3 asE) := alU _ _ fun x oy _ ho => ho
def Lw : bL := (DP.aE af3 asE)
theorem af5 : aa Try.prog 66 Lw := asD
theorem af1 : aB Lw := ax
def adD : Env := av 66 Lw kE
theorem C7 : aN Try.prog adD := ag af5 lD
theorem KJ : aq adD := ab af1 oi
theorem SB : aU Try.prog te adD := aG follows ak C7 KJ
def jT : ao := ⟨[.val false (.list .u8), .val false .int], [], true, 0, false⟩
abbrev IL : Type := ((List (UInt8)) × (Int) × Unit) × (Unit)
def vt : Shape := ⟨29, [(0, .val false (.list .u8)), (1, .val false .int), (5, .val false .u64), (6, .val false .int)], [], 0, true⟩
abbrev cm : Type := ((List (UInt8)) × (Int) × (UInt64) × (Int) × Unit) × (Unit)
def qO : Shape := ⟨29, [(5, .val false .u64)], [], 0, true⟩
abbrev jS : Type := ((UInt64) × Unit) × (Unit)
def YI : SE → Option Shape := iX [(0, qO)] none
def alO (a0 : List (UInt8)) (a1 : Int) (a5 : UInt64) (a6 : Int) : OT (Sum cm aJ) :=
  let z0 : Bool := inR (a1 + a6)
  let z1 : Nat := List.length a0
  let z2 : Bool := inR (a6 - (1 : Int))
  (.br (decide ((0 : Int) ≤ a6))
  (gd [z0] (.br (decide (a1 + a6 < (↑z1 : Int)))
    (gd [z0, inB (a1 + a6) z1, z2] (.ok (.inl ((a0, (a1, (a5 * (256 : UInt64) + UInt8.toUInt64 (List.getD a0 (Int.toNat (a1 + a6)) (0 : UInt8)), (a6 - (1 : Int), ())))), ()))))
    (gd [z2] (.ok (.inl ((a0, (a1, (a5 * (256 : UInt64), (a6 - (1 : Int), ())))), ()))))))
  (.ok (.inr ⟨(.exit 0, qO), ((a5, ()), ())⟩)))
def vu (s : cm) : OT (Sum cm aJ) := alO (s.1.1) (s.1.2.1) (s.1.2.2.1) (s.1.2.2.2.1)
theorem alL (s : cm) (Q : Sum cm aJ → Prop) : wps te adD au 1000 (bq (aj Try.f67) 0) (vt.inj s) (cE vt YI (Q : Sum vt.T aJ → Prop)) = (vu s).wpR Q := by kernel_rfl
def CG (g0_0 : cm → jS) (s : cm) : OT aJ := (.ok ⟨(.exit 0, qO), g0_0 s⟩)
def Ll : ar := ⟨[.val false .u64], [], false⟩
def O6 : SV → Option ar := fun _ => some Ll
def T0 (ok0 : cm → Bool) (g0_0 : cm → jS) (a0 : List (UInt8)) (a1 : Int) : OT jT.Y :=
  let z0 : (List UInt8 × Int × UInt64 × Int × PUnit) × PUnit := ((a0, a1, (0 : UInt64), (7 : Int), ()), ())
  (gd [ok0 z0] (.ok ⟨Ll, (((g0_0 z0).fst.fst, ()), ())⟩))
theorem aqb (ok0 : cm → Bool) (g0_0 : cm → jS) (x : IL) (Q : jT.Y → Prop) : wpf te adD (bj 0 (cS vt 0 ok0 (CG g0_0)) au) 1000 Try.f67 (jT.inp.inj x).tm (jT.inp.inj x).hp (fnK jT O6 Q) (fun _ _ => False) = (T0 ok0 g0_0 (x.1.1) (x.1.2.1)).wpR Q := by kernel_rfl
theorem aa2 (ok0 : cm → Bool) (g0_0 : cm → jS) (h0 : ∀ s : cm, ok0 s = true → ∃ m e, ay (vu) m s = some e ∧ (CG g0_0 s).run = some e) (pre : IL → Bool) (F : IL → OT jT.Y) (hF : ∀ (x : IL) oy, pre x = true → (F x).run = some oy → (T0 ok0 g0_0 (x.1.1) (x.1.2.1)).run = some oy) : aa Try.prog 67 (jT.aE pre F) :=
  az ak C7 SB (f := 67) (fn := Try.f67) (c := aj Try.f67) (by kernel_rfl) (by kernel_rfl) (by kernel_rfl) (S := jT) (k := 0) (by kernel_rfl) (fun R hR => (aH (c := (aj Try.f67)) (by kernel_rfl) (id := 0) (by kernel_rfl) (bg ak C7 SB (sh := vt) hR (xs := YI) (aF (by kernel_rfl) (by kernel_rfl) hR) aS ae (n := 1000) (T := vu) (fun s Q => alL s Q) (ok := ok0) (f := CG g0_0) h0) ae)) (n := 1000) (sel := O6) (fun v o h => by cases h; rfl) (pre := pre) (F := F) (T := fun x => T0 ok0 g0_0 (x.1.1) (x.1.2.1)) (fun x Q => aqb ok0 g0_0 x Q) hF
def gf (b : List UInt8) (p : Nat) : UInt64 := upto (fun k v => v * 256 + UInt8.toUInt64 (b.getD (p + (7 - k)) 0)) 0 8
def O7 (s : cm) : Bool := decide (s.1.2.2.1 = 0 ∧ s.1.2.2.2.1 = 7 ∧ 0 ≤ s.1.2.1 ∧ s.1.2.1 ≤ 1000000000000)
def YJ (s : cm) : jS := ((gf s.1.1 s.1.2.1.toNat, ()), ())
theorem alN : ∀ s : cm, O7 s = true → ∃ m e, ay vu m s = some e ∧ (CG YJ s).run = some e := by
  rintro ⟨⟨b, p, v, i, ⟨⟩⟩, ⟨⟩⟩ h
  have h' := of_decide_eq_true h
  dsimp only at h'
  obtain ⟨rfl, rfl, hp0, hp⟩ := h'
  obtain ⟨p, rfl⟩ : ∃ q : Nat, p = (q : Int) := ⟨p.toNat, by omega⟩
  have := (aT (T := vu) (fun k v => (((b, (p : Int), v, 7 - (k : Int), ()), ()) : cm)) (fun k v => v * 256 + UInt8.toUInt64 (b.getD (p + (7 - k)) 0))
    (fun v => (⟨(.exit 0, qO), ((v, ()), ())⟩ : aJ)) 8 0 (fun _ _ => True) trivial (fun k v hk _ => ⟨?_, trivial⟩) (fun v _ => ?_)).1
  · obtain ⟨m, hm⟩ := this
    exact ⟨m, _, hm, rfl⟩
  · have e1 : ((p : Int) + (7 - (k : Int))).toNat = p + (7 - k) := by omega
    have e2 : (7 : Int) - ((k : Int)) - 1 = 7 - ((k + 1 : Nat) : Int) := by omega
    refine (OT.aw (decide_eq_true (by dsimp only; omega))).trans ((ah ?_).trans ?_)
    · simp only [List.all_cons, List.all_nil, Bool.and_true]
      exact aK (by omega)
    · by_cases hx : (p : Int) + (7 - (k : Int)) < (b.length : Int)
      · refine (OT.aw (decide_eq_true hx)).trans ((ah ?_).trans ?_)
        · simp only [List.all_cons, List.all_nil, Bool.and_true, Bool.and_eq_true]
          exact ⟨aK (by omega), aI (by omega), aK (by omega)⟩
        · simp only [OT.cn, e1, e2]
      · refine (OT.al (decide_eq_false hx)).trans ((ah ?_).trans ?_)
        · simp only [List.all_cons, List.all_nil, Bool.and_true]
          exact aK (by omega)
        · have e3 : b.getD (p + (7 - k)) 0 = 0 := by
            rw [List.getD_eq_getElem?_getD, List.getElem?_eq_none (by omega)]; rfl
          have e4 : v * 256 + UInt8.toUInt64 0 = v * 256 := by
            show v * 256 + 0 = v * 256
            rw [UInt64.add_zero]
          simp only [OT.cn, e2, e3, e4]
  · exact OT.al (decide_eq_false (by dsimp only; omega))
def DE (x : IL) : Bool := decide (0 ≤ x.1.2.1 ∧ x.1.2.1 ≤ 1000000000000)
def afO (x : IL) : OT jT.Y := .ok ⟨Ll, ((gf x.1.1 x.1.2.1.toNat, ()), ())⟩
theorem alM : aa Try.prog 67 (jT.aE DE afO) := aa2 O7 YJ alN _ _ fun x oy hp ho => by
  rw [← ho]
  have hp' := of_decide_eq_true hp
  refine (ah ?_).trans rfl
  simp only [List.all_cons, List.all_nil, Bool.and_true]
  exact decide_eq_true ⟨rfl, rfl, hp'.1, hp'.2⟩
def yQ : bL := (jT.aE DE afO)
theorem TZ : aa Try.prog 67 yQ := alM
theorem TY : aB yQ := ax
def GI : Env := av 67 yQ adD
theorem AF : aN Try.prog GI := ag TZ C7
theorem BU : aq GI := ab TY KJ
theorem WM : aU Try.prog te GI := aG follows ak AF BU
def jW : ao := ⟨[], [], true, 0, false⟩
abbrev IQ : Type := (Unit) × (Unit)
def Ls : ar := ⟨[.val true (.arr 10 (.arr 16 .int))], [], false⟩
def Pb : SV → Option ar := fun _ => some Ls
def Ub : OT jW.Y :=
  (.ok ⟨Ls, (([[(0 : Int), (1 : Int), (2 : Int), (3 : Int), (4 : Int), (5 : Int), (6 : Int), (7 : Int), (8 : Int), (9 : Int), (10 : Int), (11 : Int), (12 : Int), (13 : Int), (14 : Int), (15 : Int)], [(14 : Int), (10 : Int), (4 : Int), (8 : Int), (9 : Int), (15 : Int), (13 : Int), (6 : Int), (1 : Int), (12 : Int), (0 : Int), (2 : Int), (11 : Int), (7 : Int), (5 : Int), (3 : Int)], [(11 : Int), (8 : Int), (12 : Int), (0 : Int), (5 : Int), (2 : Int), (15 : Int), (13 : Int), (10 : Int), (14 : Int), (3 : Int), (6 : Int), (7 : Int), (1 : Int), (9 : Int), (4 : Int)], [(7 : Int), (9 : Int), (3 : Int), (1 : Int), (13 : Int), (12 : Int), (11 : Int), (14 : Int), (2 : Int), (6 : Int), (5 : Int), (10 : Int), (4 : Int), (0 : Int), (15 : Int), (8 : Int)], [(9 : Int), (0 : Int), (5 : Int), (7 : Int), (2 : Int), (4 : Int), (10 : Int), (15 : Int), (14 : Int), (1 : Int), (11 : Int), (12 : Int), (6 : Int), (8 : Int), (3 : Int), (13 : Int)], [(2 : Int), (12 : Int), (6 : Int), (10 : Int), (0 : Int), (11 : Int), (8 : Int), (3 : Int), (4 : Int), (13 : Int), (7 : Int), (5 : Int), (15 : Int), (14 : Int), (1 : Int), (9 : Int)], [(12 : Int), (5 : Int), (1 : Int), (15 : Int), (14 : Int), (13 : Int), (4 : Int), (10 : Int), (0 : Int), (7 : Int), (6 : Int), (3 : Int), (9 : Int), (2 : Int), (8 : Int), (11 : Int)], [(13 : Int), (11 : Int), (7 : Int), (14 : Int), (12 : Int), (1 : Int), (3 : Int), (9 : Int), (5 : Int), (0 : Int), (15 : Int), (4 : Int), (8 : Int), (6 : Int), (2 : Int), (10 : Int)], [(6 : Int), (15 : Int), (14 : Int), (9 : Int), (11 : Int), (3 : Int), (0 : Int), (8 : Int), (12 : Int), (2 : Int), (13 : Int), (7 : Int), (1 : Int), (4 : Int), (10 : Int), (5 : Int)], [(10 : Int), (2 : Int), (8 : Int), (4 : Int), (7 : Int), (6 : Int), (1 : Int), (5 : Int), (15 : Int), (11 : Int), (9 : Int), (14 : Int), (3 : Int), (12 : Int), (13 : Int), (0 : Int)]], ()), ())⟩)
theorem aqk (x : IQ) (Q : jW.Y → Prop) : wpf te GI au 1000 Try.f80 (jW.inp.inj x).tm (jW.inp.inj x).hp (fnK jW Pb Q) (fun _ _ => False) = (Ub).wpR Q := by kernel_rfl
theorem aa8 (pre : IQ → Bool) (F : IQ → OT jW.Y) (hF : ∀ (x : IQ) oy, pre x = true → (F x).run = some oy → (Ub).run = some oy) : aa Try.prog 80 (jW.aE pre F) :=
  az ak AF WM (f := 80) (fn := Try.f80) (c := aj Try.f80) (by kernel_rfl) (by kernel_rfl) (by kernel_rfl) (S := jW) (k := 0) (by kernel_rfl) (fun R hR => ae) (n := 1000) (sel := Pb) (fun v o h => by cases h; rfl) (pre := pre) (F := F) (T := fun x => Ub) (fun x Q => aqk x Q) hF
def H5 : List (List Int) := [[0, 1, 2, 3, 4, 5, 6, 7, 8, 9, 10, 11, 12, 13, 14, 15],
  [14, 10, 4, 8, 9, 15, 13, 6, 1, 12, 0, 2, 11, 7, 5, 3],
  [11, 8, 12, 0, 5, 2, 15, 13, 10, 14, 3, 6, 7, 1, 9, 4],
  [7, 9, 3, 1, 13, 12, 11, 14, 2, 6, 5, 10, 4, 0, 15, 8],
  [9, 0, 5, 7, 2, 4, 10, 15, 14, 1, 11, 12, 6, 8, 3, 13],
  [2, 12, 6, 10, 0, 11, 8, 3, 4, 13, 7, 5, 15, 14, 1, 9],
  [12, 5, 1, 15, 14, 13, 4, 10, 0, 7, 6, 3, 9, 2, 8, 11],
  [13, 11, 7, 14, 12, 1, 3, 9, 5, 0, 15, 4, 8, 6, 2, 10],
  [6, 15, 14, 9, 11, 3, 0, 8, 12, 2, 13, 7, 1, 4, 10, 5],
  [10, 2, 8, 4, 7, 6, 1, 5, 15, 11, 9, 14, 3, 12, 13, 0]]
def Pc (_ : IQ) : Bool := true
def afU (_ : IQ) : OT jW.Y := .ok ⟨Ls, ((H5, ()), ())⟩
theorem alR : aa Try.prog 80 (jW.aE Pc afU) := aa8 _ _ fun x oy _ ho => ho
def yT : bL := (jW.aE Pc afU)
theorem Ua : aa Try.prog 80 yT := alR
theorem T9 : aB yT := ax
def GM : Env := av 80 yT GI
theorem AH : aN Try.prog GM := ag Ua AF
theorem BW : aq GM := ab T9 BU
theorem WO : aU Try.prog te GM := aG follows ak AH BW
def jV : ao := ⟨[.val false .u64, .val false .u64], [], true, 0, false⟩
abbrev IM : Type := ((UInt64) × (UInt64) × Unit) × (Unit)
def Lm : ar := ⟨[.val false .u64], [], false⟩
def O9 : SV → Option ar := fun _ => some Lm
def T5 (a0 : UInt64) (a1 : UInt64) : OT jV.Y :=
  (.ok ⟨Lm, ((aX a0 (↑(UInt64.toNat a1) : Int) ||| bH a0 (↑(UInt64.toNat ((64 : UInt64) - a1)) : Int), ()), ())⟩)
theorem aqc (x : IM) (Q : jV.Y → Prop) : wpf te GM au 1000 Try.f95 (jV.inp.inj x).tm (jV.inp.inj x).hp (fnK jV O9 Q) (fun _ _ => False) = (T5 (x.1.1) (x.1.2.1)).wpR Q := by kernel_rfl
theorem aa4 (pre : IM → Bool) (F : IM → OT jV.Y) (hF : ∀ (x : IM) oy, pre x = true → (F x).run = some oy → (T5 (x.1.1) (x.1.2.1)).run = some oy) : aa Try.prog 95 (jV.aE pre F) :=
  az ak AH WO (f := 95) (fn := Try.f95) (c := aj Try.f95) (by kernel_rfl) (by kernel_rfl) (by kernel_rfl) (S := jV) (k := 0) (by kernel_rfl) (fun R hR => ae) (n := 1000) (sel := O9) (fun v o h => by cases h; rfl) (pre := pre) (F := F) (T := fun x => T5 (x.1.1) (x.1.2.1)) (fun x Q => aqc x Q) hF
def yD (a n : UInt64) : UInt64 := aX a (UInt64.toNat n : Int) ||| bH a (UInt64.toNat (64 - n) : Int)
def Pa (_ : IM) : Bool := true
def afP (x : IM) : OT jV.Y := .ok ⟨Lm, ((yD x.1.1 x.1.2.1, ()), ())⟩
theorem alQ : aa Try.prog 95 (jV.aE Pa afP) := aa4 _ _ fun x oy _ ho => ho
def yS : bL := (jV.aE Pa afP)
theorem T4 : aa Try.prog 95 yS := alQ
theorem T3 : aB yS := ax
def GJ : Env := av 95 yS GM
theorem AG : aN Try.prog GJ := ag T4 AH
theorem BV : aq GJ := ab T3 BW
theorem WN : aU Try.prog te GJ := aG follows ak AG BV
def oc : ao := ⟨[.val true (.arr 16 .u64), .val false .int, .val false .int, .val false .int, .val false .int, .val false .u64, .val false .u64], [], true, 0, false⟩
abbrev abf : Type := ((List (UInt64)) × (Int) × (Int) × (Int) × (Int) × (UInt64) × (UInt64) × Unit) × (Unit)
def Lv : ar := ⟨[.val true (.arr 16 .u64)], [], false⟩
def YN : SV → Option ar := fun _ => some Lv
def af0 (a0 : List (UInt64)) (a1 : Int) (a2 : Int) (a3 : Int) (a4 : Int) (a5 : UInt64) (a6 : UInt64) : OT oc.Y :=
  let z0 : Bool := inB a1 16
  let z1 : List UInt64 := tab a0 16 (0 : UInt64)
  let z2 : Nat := List.length z1
  let z3 : Bool := decide (Int.toNat a1 + 0 < z2)
  let z4 : Bool := inB a2 16
  let z5 : Bool := inB a4 16
  let z6 : List UInt64 := List.set z1 (Int.toNat a1 + 0) (List.getD z1 (Int.toNat a1 + 0) (0 : UInt64) + List.getD z1 (Int.toNat a2 + 0) (0 : UInt64) + a5)
  let z7 : Nat := List.length z6
  let z8 : Bool := decide (Int.toNat a4 + 0 < z7)
  let z9 : Bool := inB a3 16
  let z10 : List UInt64 := List.set z6 (Int.toNat a4 + 0) (yD (List.getD z6 (Int.toNat a4 + 0) (0 : UInt64) ^^^ List.getD z6 (Int.toNat a1 + 0) (0 : UInt64)) (32 : UInt64))
  let z11 : Nat := List.length z10
  let z12 : Bool := decide (Int.toNat a3 + 0 < z11)
  let z13 : List UInt64 := List.set z10 (Int.toNat a3 + 0) (List.getD z10 (Int.toNat a3 + 0) (0 : UInt64) + List.getD z10 (Int.toNat a4 + 0) (0 : UInt64))
  let z14 : Nat := List.length z13
  let z15 : Bool := decide (Int.toNat a2 + 0 < z14)
  let z16 : List UInt64 := List.set z13 (Int.toNat a2 + 0) (yD (List.getD z13 (Int.toNat a2 + 0) (0 : UInt64) ^^^ List.getD z13 (Int.toNat a3 + 0) (0 : UInt64)) (24 : UInt64))
  let z17 : Nat := List.length z16
  let z18 : Bool := decide (Int.toNat a1 + 0 < z17)
  let z19 : List UInt64 := List.set z16 (Int.toNat a1 + 0) (List.getD z16 (Int.toNat a1 + 0) (0 : UInt64) + List.getD z16 (Int.toNat a2 + 0) (0 : UInt64) + a6)
  let z20 : Nat := List.length z19
  let z21 : Bool := decide (Int.toNat a4 + 0 < z20)
  let z22 : List UInt64 := List.set z19 (Int.toNat a4 + 0) (yD (List.getD z19 (Int.toNat a4 + 0) (0 : UInt64) ^^^ List.getD z19 (Int.toNat a1 + 0) (0 : UInt64)) (16 : UInt64))
  let z23 : Nat := List.length z22
  let z24 : Bool := decide (Int.toNat a3 + 0 < z23)
  let z25 : List UInt64 := List.set z22 (Int.toNat a3 + 0) (List.getD z22 (Int.toNat a3 + 0) (0 : UInt64) + List.getD z22 (Int.toNat a4 + 0) (0 : UInt64))
  let z26 : Nat := List.length z25
  let z27 : Bool := decide (Int.toNat a2 + 0 < z26)
  let z28 : List UInt64 := List.set z25 (Int.toNat a2 + 0) (yD (List.getD z25 (Int.toNat a2 + 0) (0 : UInt64) ^^^ List.getD z25 (Int.toNat a3 + 0) (0 : UInt64)) (63 : UInt64))
  (gd [z0, z3, z4, decide (Int.toNat a2 + 0 < z2), z0, z3, z5, z8, z0, decide (Int.toNat a1 + 0 < z7), z5, z8, z9, z12, z5, decide (Int.toNat a4 + 0 < z11), z9, z12, z4, z15, z9, decide (Int.toNat a3 + 0 < z14), z4, z15, z0, z18, z4, decide (Int.toNat a2 + 0 < z17), z0, z18, z5, z21, z0, decide (Int.toNat a1 + 0 < z20), z5, z21, z9, z24, z5, decide (Int.toNat a4 + 0 < z23), z9, z24, z4, z27, z9, decide (Int.toNat a3 + 0 < z26), z4, z27, decide (16 ≤ List.length z28)] (.ok ⟨Lv, ((tab z28 16 (0 : UInt64), ()), ())⟩))
theorem asC (x : abf) (Q : oc.Y → Prop) : wpf te GJ au 1000 Try.f81 (oc.inp.inj x).tm (oc.inp.inj x).hp (fnK oc YN Q) (fun _ _ => False) = (af0 (x.1.1) (x.1.2.1) (x.1.2.2.1) (x.1.2.2.2.1) (x.1.2.2.2.2.1) (x.1.2.2.2.2.2.1) (x.1.2.2.2.2.2.2.1)).wpR Q := by kernel_rfl
theorem afZ (pre : abf → Bool) (F : abf → OT oc.Y) (hF : ∀ (x : abf) oy, pre x = true → (F x).run = some oy → (af0 (x.1.1) (x.1.2.1) (x.1.2.2.1) (x.1.2.2.2.1) (x.1.2.2.2.2.1) (x.1.2.2.2.2.2.1) (x.1.2.2.2.2.2.2.1)).run = some oy) : aa Try.prog 81 (oc.aE pre F) :=
  az ak AG WN (f := 81) (fn := Try.f81) (c := aj Try.f81) (by kernel_rfl) (by kernel_rfl) (by kernel_rfl) (S := oc) (k := 0) (by kernel_rfl) (fun R hR => ae) (n := 1000) (sel := YN) (fun v o h => by cases h; rfl) (pre := pre) (F := F) (T := fun x => af0 (x.1.1) (x.1.2.1) (x.1.2.2.1) (x.1.2.2.2.1) (x.1.2.2.2.2.1) (x.1.2.2.2.2.2.1) (x.1.2.2.2.2.2.2.1)) (fun x Q => asC x Q) hF
theorem asj (a : UInt64) : yD a 32 = rotl a (-32) := by
  unfold yD rotl
  rw [show (UInt64.toNat (i2u (-32) &&& 63) : Int) = 32 from by decide, show (UInt64.toNat (64 - (i2u (-32) &&& 63)) : Int) = 32 from by decide, show (UInt64.toNat 32 : Int) = 32 from by decide, show (UInt64.toNat (64 - 32) : Int) = 32 from by decide, UInt64.or_comm]
theorem asl (a : UInt64) : yD a 24 = rotl a (-24) := by
  unfold yD rotl
  rw [show (UInt64.toNat (i2u (-24) &&& 63) : Int) = 40 from by decide, show (UInt64.toNat (64 - (i2u (-24) &&& 63)) : Int) = 24 from by decide, show (UInt64.toNat 24 : Int) = 24 from by decide, show (UInt64.toNat (64 - 24) : Int) = 40 from by decide, UInt64.or_comm]
theorem asm (a : UInt64) : yD a 16 = rotl a (-16) := by
  unfold yD rotl
  rw [show (UInt64.toNat (i2u (-16) &&& 63) : Int) = 48 from by decide, show (UInt64.toNat (64 - (i2u (-16) &&& 63)) : Int) = 16 from by decide, show (UInt64.toNat 16 : Int) = 16 from by decide, show (UInt64.toNat (64 - 16) : Int) = 48 from by decide, UInt64.or_comm]
theorem asi (a : UInt64) : yD a 63 = rotl a (-63) := by
  unfold yD rotl
  rw [show (UInt64.toNat (i2u (-63) &&& 63) : Int) = 1 from by decide, show (UInt64.toNat (64 - (i2u (-63) &&& 63)) : Int) = 63 from by decide, show (UInt64.toNat 63 : Int) = 63 from by decide, show (UInt64.toNat (64 - 63) : Int) = 1 from by decide, UInt64.or_comm]
def Lu (x : abf) : Bool := inB x.1.2.1 16 && inB x.1.2.2.1 16 && inB x.1.2.2.2.1 16 && inB x.1.2.2.2.2.1 16 && decide (x.1.1.length = 16)
def an1 (x : abf) : OT oc.Y := .ok ⟨Lv, ((wx x.1.1 x.1.2.1.toNat x.1.2.2.1.toNat x.1.2.2.2.1.toNat x.1.2.2.2.2.1.toNat x.1.2.2.2.2.2.1 x.1.2.2.2.2.2.2.1, ()), ())⟩
theorem aqm : aa Try.prog 81 (oc.aE Lu an1) := afZ _ _ fun x oy hp ho => by
  rw [← ho]
  clear ho
  obtain ⟨⟨v, a, b, c, d, x, y, ⟨⟩⟩, ⟨⟩⟩ := x
  simp only [Lu, Bool.and_eq_true, decide_eq_true_eq] at hp
  obtain ⟨⟨⟨⟨ha, hb⟩, hc⟩, hd⟩, hv⟩ := hp
  have na := sG ha
  have nb := sG hb
  have nc := sG hc
  have nd := sG hd
  have t1 : tab v 16 0 = v := gV hv
  refine (ah ?_).trans ?_
  · simp only [t1, List.length_set, hv, ha, hb, hc, hd, Nat.add_zero, na, nb, nc, nd, Nat.le_refl, decide_true, List.all_cons, List.all_nil, Bool.and_self]
  · have hl : (wx v a.toNat b.toNat c.toNat d.toNat x y).length = 16 := by rw [eT]; exact hv
    simp only [t1, asj, asl, asm, asi, UInt64.add_assoc, Nat.add_zero]
    exact congrArg (fun l => some (⟨Lv, ((l, ()), ())⟩ : oc.Y)) (gV hl)
def DO : bL := (oc.aE Lu an1)
theorem abe : aa Try.prog 81 DO := aqm
theorem abd : aB DO := ax
def xr : Env := av 81 DO GJ
theorem kC : aN Try.prog xr := ag abe AG
theorem GP : aq xr := ab abd BV
theorem mJ : aU Try.prog te xr := aG follows ak kC GP
def gg : ao := ⟨[.val true (.arr 8 .u64), .val false (.list .u8), .val false .u64, .val false .bool], [], true, 0, false⟩
abbrev y4 : Type := ((List (UInt64)) × (List (UInt8)) × (UInt64) × (Bool) × Unit) × (Unit)
def oP : Shape := ⟨163, [(1, .val false (.list .u8)), (2, .val false .u64), (3, .val false .bool), (4, .ptr 0 0 0), (8, .ptr 1 0 0), (9, .ptr 2 0 0), (10, .ptr 3 0 0), (11, .val false .int)], [(0, .row .u64), (1, .row .u64), (2, .row .u64), (3, .row .u64)], 0, true⟩
abbrev bZ : Type := ((List (UInt8)) × (UInt64) × (Bool) × (Unit) × (Unit) × (Unit) × (Unit) × (Int) × Unit) × ((List (UInt64)) × (List (UInt64)) × (List (UInt64)) × (List (UInt64)) × Unit)
def nk : Shape := ⟨163, [(1, .val false (.list .u8)), (2, .val false .u64), (3, .val false .bool), (4, .ptr 0 0 0), (8, .ptr 1 0 0), (10, .ptr 2 0 0)], [(0, .row .u64), (1, .row .u64), (2, .row .u64)], 0, true⟩
abbrev iy : Type := ((List (UInt8)) × (UInt64) × (Bool) × (Unit) × (Unit) × (Unit) × Unit) × ((List (UInt64)) × (List (UInt64)) × (List (UInt64)) × Unit)
def Pj : SE → Option Shape := iX [(0, nk)] none
def ags (a1 : List (UInt8)) (a2 : UInt64) (a3 : Bool) (a11 : Int) (c0 : List (UInt64)) (c1 : List (UInt64)) (c2 : List (UInt64)) (c3 : List (UInt64)) : OT (Sum bZ aJ) :=
  let z0 : Bool := inB a11 8
  let z1 : List UInt64 := List.set c3 (Int.toNat a11 + 0) (List.getD c0 (Int.toNat a11 + 0) (0 : UInt64))
  (.br (decide (a11 < (8 : Int)))
  (gd [z0, decide (Int.toNat a11 + 0 < List.length c0), inB a11 16, decide (Int.toNat a11 + 0 < List.length c3), inR (a11 + (8 : Int)), z0, decide (Int.toNat a11 + 0 < List.length c2), inB (a11 + (8 : Int)) 16, decide (Int.toNat (a11 + (8 : Int)) + 0 < List.length z1), inR (a11 + (1 : Int))] (.ok (.inl ((a1, (a2, (a3, ((), ((), ((), ((), (a11 + (1 : Int), ())))))))), (c0, (c1, (c2, (List.set z1 (Int.toNat (a11 + (8 : Int)) + 0) (List.getD c2 (Int.toNat a11 + 0) (0 : UInt64)), ()))))))))
  (.ok (.inr ⟨(.exit 0, nk), ((a1, (a2, (a3, ((), ((), ((), ())))))), (c0, (c1, (c3, ()))))⟩)))
def oT (s : bZ) : OT (Sum bZ aJ) := ags (s.1.1) (s.1.2.1) (s.1.2.2.1) (s.1.2.2.2.2.2.2.2.1) (s.2.1) (s.2.2.1) (s.2.2.2.1) (s.2.2.2.2.1)
theorem agj (s : bZ) (Q : Sum bZ aJ → Prop) : wps te xr au 1000 (bq (aj Try.f68) 0) (oP.inj s) (cE oP Pj (Q : Sum oP.T aJ → Prop)) = (oT s).wpR Q := by kernel_rfl
def vL (g0_0 : bZ → iy) (s : bZ) : OT aJ := (.ok ⟨(.exit 0, nk), g0_0 s⟩)
def oO : Shape := ⟨163, [(1, .val false (.list .u8)), (4, .ptr 0 0 0), (8, .ptr 1 0 0), (10, .ptr 2 0 0), (12, .ptr 3 0 0), (13, .val false .int)], [(0, .row .u64), (1, .row .u64), (2, .row .u64), (3, .row .u64)], 0, true⟩
abbrev bY : Type := ((List (UInt8)) × (Unit) × (Unit) × (Unit) × (Unit) × (Int) × Unit) × ((List (UInt64)) × (List (UInt64)) × (List (UInt64)) × (List (UInt64)) × Unit)
def nj : Shape := ⟨163, [(4, .ptr 0 0 0), (8, .ptr 1 0 0), (10, .ptr 2 0 0), (12, .ptr 3 0 0)], [(0, .row .u64), (1, .row .u64), (2, .row .u64), (3, .row .u64)], 0, true⟩
abbrev ix : Type := ((Unit) × (Unit) × (Unit) × (Unit) × Unit) × ((List (UInt64)) × (List (UInt64)) × (List (UInt64)) × (List (UInt64)) × Unit)
def Ph : SE → Option Shape := iX [(2, nj)] none
def agr (a1 : List (UInt8)) (a13 : Int) (c0 : List (UInt64)) (c1 : List (UInt64)) (c2 : List (UInt64)) (c3 : List (UInt64)) : OT (Sum bY aJ) :=
  (.br (decide (a13 < (16 : Int)))
  (gd [inR ((8 : Int) * a13), DE ((a1, (8 : Int) * a13, ()), ()), inB a13 16, decide (Int.toNat a13 + 0 < List.length c3), inR (a13 + (1 : Int))] (.ok (.inl ((a1, ((), ((), ((), ((), (a13 + (1 : Int), ())))))), (c0, (c1, (c2, (List.set c3 (Int.toNat a13 + 0) (gf a1 (Int.toNat ((8 : Int) * a13))), ()))))))))
  (.ok (.inr ⟨(.exit 2, nj), (((), ((), ((), ((), ())))), (c0, (c1, (c2, (c3, ())))))⟩)))
def oS (s : bY) : OT (Sum bY aJ) := agr (s.1.1) (s.1.2.2.2.2.2.1) (s.2.1) (s.2.2.1) (s.2.2.2.1) (s.2.2.2.2.1)
theorem agi (s : bY) (Q : Sum bY aJ → Prop) : wps te xr au 1000 (bq (aj Try.f68) 2) (oO.inj s) (cE oO Ph (Q : Sum oO.T aJ → Prop)) = (oS s).wpR Q := by kernel_rfl
def vK (g2_2 : bY → ix) (s : bY) : OT aJ := (.ok ⟨(.exit 2, nj), g2_2 s⟩)
def oN : Shape := ⟨163, [(4, .ptr 0 0 0), (8, .ptr 1 0 0), (10, .ptr 2 0 0), (12, .ptr 3 0 0), (14, .ptr 4 0 0), (15, .val false .int)], [(0, .row .u64), (1, .row .u64), (2, .row .u64), (3, .row .u64), (4, .row (.arr 16 .int))], 0, true⟩
abbrev bX : Type := ((Unit) × (Unit) × (Unit) × (Unit) × (Unit) × (Int) × Unit) × ((List (UInt64)) × (List (UInt64)) × (List (UInt64)) × (List (UInt64)) × (List (List (Int))) × Unit)
def ni : Shape := ⟨163, [(4, .ptr 0 0 0), (8, .ptr 1 0 0), (10, .ptr 2 0 0)], [(0, .row .u64), (1, .row .u64), (2, .row .u64)], 0, true⟩
abbrev iw : Type := ((Unit) × (Unit) × (Unit) × Unit) × ((List (UInt64)) × (List (UInt64)) × (List (UInt64)) × Unit)
def Pg : SE → Option Shape := iX [(4, ni)] none
def agq (a15 : Int) (c0 : List (UInt64)) (c1 : List (UInt64)) (c2 : List (UInt64)) (c3 : List (UInt64)) (c4 : List (List (Int))) : OT (Sum bX aJ) :=
  let z0 : Int := Int.tmod a15 (10 : Int)
  let z1 : Nat := List.length c2
  let z2 : List Int := List.getD c4 (Int.toNat z0 + 0) [(0 : Int), (0 : Int), (0 : Int), (0 : Int), (0 : Int), (0 : Int), (0 : Int), (0 : Int), (0 : Int), (0 : Int), (0 : Int), (0 : Int), (0 : Int), (0 : Int), (0 : Int), (0 : Int)]
  let z3 : Int := List.getD z2 0 (0 : Int)
  let z4 : Nat := List.length c3
  let z5 : Int := List.getD z2 1 (0 : Int)
  let z6 : Nat := Int.toNat (0 : Int)
  let z7 : Nat := Int.toNat (4 : Int)
  let z8 : Nat := Int.toNat (8 : Int)
  let z9 : Nat := Int.toNat (12 : Int)
  let z10 : List UInt64 := lay c2 (wx (tab c2 16 (0 : UInt64)) z6 z7 z8 z9 (List.getD c3 (Int.toNat z3 + 0) (0 : UInt64)) (List.getD c3 (Int.toNat z5 + 0) (0 : UInt64))) 16 (0 : UInt64)
  let z11 : Nat := List.length z10
  let z12 : Int := List.getD z2 2 (0 : Int)
  let z13 : Int := List.getD z2 3 (0 : Int)
  let z14 : Nat := Int.toNat (1 : Int)
  let z15 : Nat := Int.toNat (5 : Int)
  let z16 : Nat := Int.toNat (9 : Int)
  let z17 : Nat := Int.toNat (13 : Int)
  let z18 : List UInt64 := lay z10 (wx (tab z10 16 (0 : UInt64)) z14 z15 z16 z17 (List.getD c3 (Int.toNat z12 + 0) (0 : UInt64)) (List.getD c3 (Int.toNat z13 + 0) (0 : UInt64))) 16 (0 : UInt64)
  let z19 : Nat := List.length z18
  let z20 : Int := List.getD z2 4 (0 : Int)
  let z21 : Int := List.getD z2 5 (0 : Int)
  let z22 : Nat := Int.toNat (2 : Int)
  let z23 : Nat := Int.toNat (6 : Int)
  let z24 : Nat := Int.toNat (10 : Int)
  let z25 : Nat := Int.toNat (14 : Int)
  let z26 : List UInt64 := lay z18 (wx (tab z18 16 (0 : UInt64)) z22 z23 z24 z25 (List.getD c3 (Int.toNat z20 + 0) (0 : UInt64)) (List.getD c3 (Int.toNat z21 + 0) (0 : UInt64))) 16 (0 : UInt64)
  let z27 : Nat := List.length z26
  let z28 : Int := List.getD z2 6 (0 : Int)
  let z29 : Int := List.getD z2 7 (0 : Int)
  let z30 : Nat := Int.toNat (3 : Int)
  let z31 : Nat := Int.toNat (7 : Int)
  let z32 : Nat := Int.toNat (11 : Int)
  let z33 : Nat := Int.toNat (15 : Int)
  let z34 : List UInt64 := lay z26 (wx (tab z26 16 (0 : UInt64)) z30 z31 z32 z33 (List.getD c3 (Int.toNat z28 + 0) (0 : UInt64)) (List.getD c3 (Int.toNat z29 + 0) (0 : UInt64))) 16 (0 : UInt64)
  let z35 : Nat := List.length z34
  let z36 : Int := List.getD z2 8 (0 : Int)
  let z37 : Int := List.getD z2 9 (0 : Int)
  let z38 : List UInt64 := lay z34 (wx (tab z34 16 (0 : UInt64)) z6 z15 z24 z33 (List.getD c3 (Int.toNat z36 + 0) (0 : UInt64)) (List.getD c3 (Int.toNat z37 + 0) (0 : UInt64))) 16 (0 : UInt64)
  let z39 : Nat := List.length z38
  let z40 : Int := List.getD z2 10 (0 : Int)
  let z41 : Int := List.getD z2 11 (0 : Int)
  let z42 : List UInt64 := lay z38 (wx (tab z38 16 (0 : UInt64)) z14 z23 z32 z9 (List.getD c3 (Int.toNat z40 + 0) (0 : UInt64)) (List.getD c3 (Int.toNat z41 + 0) (0 : UInt64))) 16 (0 : UInt64)
  let z43 : Nat := List.length z42
  let z44 : Int := List.getD z2 12 (0 : Int)
  let z45 : Int := List.getD z2 13 (0 : Int)
  let z46 : List UInt64 := lay z42 (wx (tab z42 16 (0 : UInt64)) z22 z31 z8 z17 (List.getD c3 (Int.toNat z44 + 0) (0 : UInt64)) (List.getD c3 (Int.toNat z45 + 0) (0 : UInt64))) 16 (0 : UInt64)
  let z47 : Nat := List.length z46
  let z48 : Int := List.getD z2 14 (0 : Int)
  let z49 : Int := List.getD z2 15 (0 : Int)
  (.br (decide (a15 < (12 : Int)))
  (gd [inB z0 10, decide (Int.toNat z0 + 0 < List.length c4), decide (16 ≤ z1), inB z3 16, decide (Int.toNat z3 + 0 < z4), inB z5 16, decide (Int.toNat z5 + 0 < z4), decide ((16 / 1 : Nat) + 0 ≤ z1), decide (16 ≤ z11), inB z12 16, decide (Int.toNat z12 + 0 < z4), inB z13 16, decide (Int.toNat z13 + 0 < z4), decide ((16 / 1 : Nat) + 0 ≤ z11), decide (16 ≤ z19), inB z20 16, decide (Int.toNat z20 + 0 < z4), inB z21 16, decide (Int.toNat z21 + 0 < z4), decide ((16 / 1 : Nat) + 0 ≤ z19), decide (16 ≤ z27), inB z28 16, decide (Int.toNat z28 + 0 < z4), inB z29 16, decide (Int.toNat z29 + 0 < z4), decide ((16 / 1 : Nat) + 0 ≤ z27), decide (16 ≤ z35), inB z36 16, decide (Int.toNat z36 + 0 < z4), inB z37 16, decide (Int.toNat z37 + 0 < z4), decide ((16 / 1 : Nat) + 0 ≤ z35), decide (16 ≤ z39), inB z40 16, decide (Int.toNat z40 + 0 < z4), inB z41 16, decide (Int.toNat z41 + 0 < z4), decide ((16 / 1 : Nat) + 0 ≤ z39), decide (16 ≤ z43), inB z44 16, decide (Int.toNat z44 + 0 < z4), inB z45 16, decide (Int.toNat z45 + 0 < z4), decide ((16 / 1 : Nat) + 0 ≤ z43), decide (16 ≤ z47), inB z48 16, decide (Int.toNat z48 + 0 < z4), inB z49 16, decide (Int.toNat z49 + 0 < z4), decide ((16 / 1 : Nat) + 0 ≤ z47), inR (a15 + (1 : Int))] (.ok (.inl (((), ((), ((), ((), ((), (a15 + (1 : Int), ())))))), (c0, (c1, (lay z46 (wx (tab z46 16 (0 : UInt64)) z30 z7 z16 z25 (List.getD c3 (Int.toNat z48 + 0) (0 : UInt64)) (List.getD c3 (Int.toNat z49 + 0) (0 : UInt64))) 16 (0 : UInt64), (c3, (c4, ())))))))))
  (.ok (.inr ⟨(.exit 4, ni), (((), ((), ((), ()))), (c0, (c1, (c2, ()))))⟩)))
def oR (s : bX) : OT (Sum bX aJ) := agq (s.1.2.2.2.2.2.1) (s.2.1) (s.2.2.1) (s.2.2.2.1) (s.2.2.2.2.1) (s.2.2.2.2.2.1)
theorem agh (s : bX) (Q : Sum bX aJ → Prop) : wps te xr au 1000 (bq (aj Try.f68) 4) (oN.inj s) (cE oN Pg (Q : Sum oN.T aJ → Prop)) = (oR s).wpR Q := by kernel_rfl
def vJ (g4_4 : bX → iw) (s : bX) : OT aJ := (.ok ⟨(.exit 4, ni), g4_4 s⟩)
def oM : Shape := ⟨163, [(4, .ptr 0 0 0), (8, .ptr 1 0 0), (10, .ptr 2 0 0), (17, .val false .int)], [(0, .row .u64), (1, .row .u64), (2, .row .u64)], 0, true⟩
abbrev bW : Type := ((Unit) × (Unit) × (Unit) × (Int) × Unit) × ((List (UInt64)) × (List (UInt64)) × (List (UInt64)) × Unit)
def nh : Shape := ⟨163, [(4, .ptr 0 0 0), (8, .ptr 1 0 0)], [(0, .row .u64), (1, .row .u64)], 0, true⟩
abbrev iv : Type := ((Unit) × (Unit) × Unit) × ((List (UInt64)) × (List (UInt64)) × Unit)
def Pf : SE → Option Shape := iX [(6, nh)] none
def agp (a17 : Int) (c0 : List (UInt64)) (c1 : List (UInt64)) (c2 : List (UInt64)) : OT (Sum bW aJ) :=
  let z0 : Bool := inB a17 8
  let z1 : Bool := decide (Int.toNat a17 + 0 < List.length c0)
  let z2 : Nat := List.length c2
  (.br (decide (a17 < (8 : Int)))
  (gd [z0, z1, inB a17 16, decide (Int.toNat a17 + 0 < z2), inR (a17 + (8 : Int)), inB (a17 + (8 : Int)) 16, decide (Int.toNat (a17 + (8 : Int)) + 0 < z2), z0, z1, inR (a17 + (1 : Int))] (.ok (.inl (((), ((), ((), (a17 + (1 : Int), ())))), (List.set c0 (Int.toNat a17 + 0) (List.getD c0 (Int.toNat a17 + 0) (0 : UInt64) ^^^ (List.getD c2 (Int.toNat a17 + 0) (0 : UInt64) ^^^ List.getD c2 (Int.toNat (a17 + (8 : Int)) + 0) (0 : UInt64))), (c1, (c2, ())))))))
  (.ok (.inr ⟨(.exit 6, nh), (((), ((), ())), (c0, (c1, ())))⟩)))
def oQ (s : bW) : OT (Sum bW aJ) := agp (s.1.2.2.2.1) (s.2.1) (s.2.2.1) (s.2.2.2.1)
theorem agf (s : bW) (Q : Sum bW aJ → Prop) : wps te xr au 1000 (bq (aj Try.f68) 6) (oM.inj s) (cE oM Pf (Q : Sum oM.T aJ → Prop)) = (oQ s).wpR Q := by kernel_rfl
def vI (g6_6 : bW → iv) (s : bW) : OT aJ := (.ok ⟨(.exit 6, nh), g6_6 s⟩)
def vH : ar := ⟨[.val true (.arr 8 .u64)], [], false⟩
def IV : SV → Option ar := fun _ => some vH
def LC (ok0 : bZ → Bool) (g0_0 : bZ → iy) (ok2 : bY → Bool) (g2_2 : bY → ix) (ok4 : bX → Bool) (g4_4 : bX → iw) (ok6 : bW → Bool) (g6_6 : bW → iv) (a0 : List (UInt64)) (a1 : List (UInt8)) (a2 : UInt64) (a3 : Bool) : OT gg.Y :=
  let z0 : List UInt64 × PUnit := ([(0 : UInt64), (0 : UInt64), (0 : UInt64), (0 : UInt64), (0 : UInt64), (0 : UInt64), (0 : UInt64), (0 : UInt64), (0 : UInt64), (0 : UInt64), (0 : UInt64), (0 : UInt64), (0 : UInt64), (0 : UInt64), (0 : UInt64), (0 : UInt64)], ())
  let z1 : (List UInt8 × UInt64 × Bool × PUnit × PUnit × PUnit × PUnit × Int × PUnit) × List UInt64 × List UInt64 × List UInt64 × List UInt64 × PUnit := ((a1, a2, a3, (), (), (), (), (0 : Int), ()), tab a0 8 (0 : UInt64), [(0 : UInt64), (0 : UInt64), (0 : UInt64), (0 : UInt64), (0 : UInt64), (0 : UInt64), (0 : UInt64), (0 : UInt64)], [(7640891576956012808 : UInt64), (13503953896175478587 : UInt64), (4354685564936845355 : UInt64), (11912009170470909681 : UInt64), (5840696475078001361 : UInt64), (11170449401992604703 : UInt64), (2270897969802886507 : UInt64), (6620516959819538809 : UInt64)], z0)
  let z2 : (List UInt8 × UInt64 × Bool × PUnit × PUnit × PUnit × PUnit) × List UInt64 × List UInt64 × List UInt64 × PUnit := g0_0 z1
  let z3 := z2.snd
  let z4 := z3.snd
  let z5 := z4.snd.fst
  let z6 : Bool := decide (12 < List.length z5)
  let z7 := z2.fst
  let z8 := z7.snd
  let z9 : List UInt64 := List.set z5 12 (List.getD z5 12 0 ^^^ z8.fst)
  let z10 : Bool := decide (14 < List.length z9)
  let z11 : List UInt8 × PUnit × PUnit × PUnit × PUnit × Int × PUnit := (z7.fst, (), (), (), (), (0 : Int), ())
  let z12 := z3.fst
  let z13 := z4.fst
  let z14 : (List UInt8 × PUnit × PUnit × PUnit × PUnit × Int × PUnit) × List UInt64 × List UInt64 × List UInt64 × List UInt64 × PUnit := (z11, z12, z13, List.set z9 14 (List.getD z9 14 0 ^^^ (18446744073709551615 : UInt64)), z0)
  let z15 : PUnit × PUnit × PUnit × PUnit × PUnit × Int × PUnit := ((), (), (), (), (), (0 : Int), ())
  let z16 := (g2_2 z14).snd
  let z17 := z16.snd
  let z18 := z17.snd
  let z19 : List (List Int) × PUnit := ([[(0 : Int), (1 : Int), (2 : Int), (3 : Int), (4 : Int), (5 : Int), (6 : Int), (7 : Int), (8 : Int), (9 : Int), (10 : Int), (11 : Int), (12 : Int), (13 : Int), (14 : Int), (15 : Int)], [(14 : Int), (10 : Int), (4 : Int), (8 : Int), (9 : Int), (15 : Int), (13 : Int), (6 : Int), (1 : Int), (12 : Int), (0 : Int), (2 : Int), (11 : Int), (7 : Int), (5 : Int), (3 : Int)], [(11 : Int), (8 : Int), (12 : Int), (0 : Int), (5 : Int), (2 : Int), (15 : Int), (13 : Int), (10 : Int), (14 : Int), (3 : Int), (6 : Int), (7 : Int), (1 : Int), (9 : Int), (4 : Int)], [(7 : Int), (9 : Int), (3 : Int), (1 : Int), (13 : Int), (12 : Int), (11 : Int), (14 : Int), (2 : Int), (6 : Int), (5 : Int), (10 : Int), (4 : Int), (0 : Int), (15 : Int), (8 : Int)], [(9 : Int), (0 : Int), (5 : Int), (7 : Int), (2 : Int), (4 : Int), (10 : Int), (15 : Int), (14 : Int), (1 : Int), (11 : Int), (12 : Int), (6 : Int), (8 : Int), (3 : Int), (13 : Int)], [(2 : Int), (12 : Int), (6 : Int), (10 : Int), (0 : Int), (11 : Int), (8 : Int), (3 : Int), (4 : Int), (13 : Int), (7 : Int), (5 : Int), (15 : Int), (14 : Int), (1 : Int), (9 : Int)], [(12 : Int), (5 : Int), (1 : Int), (15 : Int), (14 : Int), (13 : Int), (4 : Int), (10 : Int), (0 : Int), (7 : Int), (6 : Int), (3 : Int), (9 : Int), (2 : Int), (8 : Int), (11 : Int)], [(13 : Int), (11 : Int), (7 : Int), (14 : Int), (12 : Int), (1 : Int), (3 : Int), (9 : Int), (5 : Int), (0 : Int), (15 : Int), (4 : Int), (8 : Int), (6 : Int), (2 : Int), (10 : Int)], [(6 : Int), (15 : Int), (14 : Int), (9 : Int), (11 : Int), (3 : Int), (0 : Int), (8 : Int), (12 : Int), (2 : Int), (13 : Int), (7 : Int), (1 : Int), (4 : Int), (10 : Int), (5 : Int)], [(10 : Int), (2 : Int), (8 : Int), (4 : Int), (7 : Int), (6 : Int), (1 : Int), (5 : Int), (15 : Int), (11 : Int), (9 : Int), (14 : Int), (3 : Int), (12 : Int), (13 : Int), (0 : Int)]], ())
  let z20 : (PUnit × PUnit × PUnit × PUnit × PUnit × Int × PUnit) × List UInt64 × List UInt64 × List UInt64 × List UInt64 × List (List Int) × PUnit := (z15, z16.fst, z17.fst, z18.fst, z18.snd.fst, z19)
  let z21 : PUnit × PUnit × PUnit × Int × PUnit := ((), (), (), (0 : Int), ())
  let z22 := (g4_4 z20).snd
  let z23 := z22.snd
  let z24 : (PUnit × PUnit × PUnit × Int × PUnit) × List UInt64 × List UInt64 × List UInt64 × PUnit := (z21, z22.fst, z23.fst, z23.snd.fst, ())
  let z25 := (g6_6 z24).snd
  let z26 := z25.fst
  let z27 := z25.snd.fst
  let z28 : List UInt64 := lay z27 z26 8 (0 : UInt64)
  let z29 : (List UInt8 × PUnit × PUnit × PUnit × PUnit × Int × PUnit) × List UInt64 × List UInt64 × List UInt64 × List UInt64 × PUnit := (z11, z12, z13, z9, z0)
  let z30 := (g2_2 z29).snd
  let z31 := z30.snd
  let z32 := z31.snd
  let z33 : (PUnit × PUnit × PUnit × PUnit × PUnit × Int × PUnit) × List UInt64 × List UInt64 × List UInt64 × List UInt64 × List (List Int) × PUnit := (z15, z30.fst, z31.fst, z32.fst, z32.snd.fst, z19)
  let z34 := (g4_4 z33).snd
  let z35 := z34.snd
  let z36 : (PUnit × PUnit × PUnit × Int × PUnit) × List UInt64 × List UInt64 × List UInt64 × PUnit := (z21, z34.fst, z35.fst, z35.snd.fst, ())
  let z37 := (g6_6 z36).snd
  let z38 := z37.fst
  let z39 := z37.snd.fst
  let z40 : List UInt64 := lay z39 z38 8 (0 : UInt64)
  (gd [ok0 z1, z6, z6] (.br (z8.snd.fst)
  (gd [z10, z10, ok2 z14, ok4 z20, ok6 z24, decide (8 ≤ List.length z26), decide ((8 / 1 : Nat) + 0 ≤ List.length z27), decide (8 ≤ List.length z28)] (.ok ⟨vH, ((tab z28 8 (0 : UInt64), ()), ())⟩))
  (gd [ok2 z29, ok4 z33, ok6 z36, decide (8 ≤ List.length z38), decide ((8 / 1 : Nat) + 0 ≤ List.length z39), decide (8 ≤ List.length z40)] (.ok ⟨vH, ((tab z40 8 (0 : UInt64), ()), ())⟩))))
theorem alY (ok0 : bZ → Bool) (g0_0 : bZ → iy) (ok2 : bY → Bool) (g2_2 : bY → ix) (ok4 : bX → Bool) (g4_4 : bX → iw) (ok6 : bW → Bool) (g6_6 : bW → iv) (x : y4) (Q : gg.Y → Prop) : wpf te xr (bj 6 (cS oM 6 ok6 (vI g6_6)) (bj 4 (cS oN 4 ok4 (vJ g4_4)) (bj 2 (cS oO 2 ok2 (vK g2_2)) (bj 0 (cS oP 0 ok0 (vL g0_0)) au)))) 1000 Try.f68 (gg.inp.inj x).tm (gg.inp.inj x).hp (fnK gg IV Q) (fun _ _ => False) = (LC ok0 g0_0 ok2 g2_2 ok4 g4_4 ok6 g6_6 (x.1.1) (x.1.2.1) (x.1.2.2.1) (x.1.2.2.2.1)).wpR Q := by kernel_rfl
theorem Ui (ok0 : bZ → Bool) (g0_0 : bZ → iy) (ok2 : bY → Bool) (g2_2 : bY → ix) (ok4 : bX → Bool) (g4_4 : bX → iw) (ok6 : bW → Bool) (g6_6 : bW → iv) (h0 : ∀ s : bZ, ok0 s = true → ∃ m e, ay (oT) m s = some e ∧ (vL g0_0 s).run = some e) (h2 : ∀ s : bY, ok2 s = true → ∃ m e, ay (oS) m s = some e ∧ (vK g2_2 s).run = some e) (h4 : ∀ s : bX, ok4 s = true → ∃ m e, ay (oR) m s = some e ∧ (vJ g4_4 s).run = some e) (h6 : ∀ s : bW, ok6 s = true → ∃ m e, ay (oQ) m s = some e ∧ (vI g6_6 s).run = some e) (pre : y4 → Bool) (F : y4 → OT gg.Y) (hF : ∀ (x : y4) oy, pre x = true → (F x).run = some oy → (LC ok0 g0_0 ok2 g2_2 ok4 g4_4 ok6 g6_6 (x.1.1) (x.1.2.1) (x.1.2.2.1) (x.1.2.2.2.1)).run = some oy) : aa Try.prog 68 (gg.aE pre F) :=
  az ak kC mJ (f := 68) (fn := Try.f68) (c := aj Try.f68) (by kernel_rfl) (by kernel_rfl) (by kernel_rfl) (S := gg) (k := 0) (by kernel_rfl) (fun R hR => (aH (c := (aj Try.f68)) (by kernel_rfl) (id := 6) (by kernel_rfl) (bg ak kC mJ (sh := oM) hR (xs := Pf) (aF (by kernel_rfl) (by kernel_rfl) hR) aS ae (n := 1000) (T := oQ) (fun s Q => agf s Q) (ok := ok6) (f := vI g6_6) h6) (aH (c := (aj Try.f68)) (by kernel_rfl) (id := 4) (by kernel_rfl) (bg ak kC mJ (sh := oN) hR (xs := Pg) (aF (by kernel_rfl) (by kernel_rfl) hR) aS ae (n := 1000) (T := oR) (fun s Q => agh s Q) (ok := ok4) (f := vJ g4_4) h4) (aH (c := (aj Try.f68)) (by kernel_rfl) (id := 2) (by kernel_rfl) (bg ak kC mJ (sh := oO) hR (xs := Ph) (aF (by kernel_rfl) (by kernel_rfl) hR) aS ae (n := 1000) (T := oS) (fun s Q => agi s Q) (ok := ok2) (f := vK g2_2) h2) (aH (c := (aj Try.f68)) (by kernel_rfl) (id := 0) (by kernel_rfl) (bg ak kC mJ (sh := oP) hR (xs := Pj) (aF (by kernel_rfl) (by kernel_rfl) hR) aS ae (n := 1000) (T := oT) (fun s Q => agj s Q) (ok := ok0) (f := vL g0_0) h0) ae))))) (n := 1000) (sel := IV) (fun v o h => by cases h; rfl) (pre := pre) (F := F) (T := fun x => LC ok0 g0_0 ok2 g2_2 ok4 g4_4 ok6 g6_6 (x.1.1) (x.1.2.1) (x.1.2.2.1) (x.1.2.2.2.1)) (fun x Q => alY ok0 g0_0 ok2 g2_2 ok4 g4_4 ok6 g6_6 x Q) hF
theorem aqY {h : List UInt64} (hh : h.length = 8) : upto (fun k v => (v.set k (h.getD k 0)).set (k + 8) (bIV.getD k 0)) (List.replicate 16 0) 8 = h ++ bIV := by
  have e := gV (x := h) (n := 8) (d := 0) hh
  rw [← e]
  rfl
def y0 (s : bZ) : Bool := decide (s.1.2.2.2.2.2.2.2.1 = 0 ∧ s.2.1.length = 8 ∧ s.2.2.2.1 = bIV ∧ s.2.2.2.2.1 = List.replicate 16 0)
def jZ (s : bZ) : iy := ((s.1.1, s.1.2.1, s.1.2.2.1, (), (), (), ()), (s.2.1, s.2.2.1, s.2.1 ++ bIV, ()))
theorem ago : ∀ s : bZ, y0 s = true → ∃ m e, ay oT m s = some e ∧ (vL jZ s).run = some e := by
  rintro ⟨⟨b, t, l, ⟨⟩, ⟨⟩, ⟨⟩, ⟨⟩, i, ⟨⟩⟩, ⟨h, c1, c2, c3, ⟨⟩⟩⟩ hh
  have h' := of_decide_eq_true hh
  dsimp only at h'
  obtain ⟨rfl, hl, rfl, rfl⟩ := h'
  have := (aT (T := oT) (fun k v => (((b, t, l, (), (), (), (), (k : Int), ()), (h, c1, bIV, v, ())) : bZ)) (fun k v => (v.set k (h.getD k 0)).set (k + 8) (bIV.getD k 0))
    (fun v => (⟨(.exit 0, nk), ((b, t, l, (), (), (), ()), (h, c1, v, ()))⟩ : aJ)) 8 (List.replicate 16 0) (fun _ v => v.length = 16) (by simp) (fun k v hk hv => ⟨?_, by rw [List.length_set, List.length_set]; exact hv⟩) (fun v hv => ?_)).1
  · obtain ⟨m, hm⟩ := this
    rw [aqY hl] at hm
    exact ⟨m, _, hm, rfl⟩
  · have e1 : ((k : Int) + 8).toNat = k + 8 := by omega
    refine (OT.aw (decide_eq_true (by dsimp only; omega))).trans ((ah ?_).trans ?_)
    · simp only [e1, List.length_set, hl, hv, List.all_cons, List.all_nil, Bool.and_true, Bool.and_eq_true]
      exact ⟨aI (by omega), decide_eq_true (by omega), aI (by omega), decide_eq_true (by omega), aK (by omega), aI (by omega), decide_eq_true (show k + 0 < 8 by omega), aI (by omega), decide_eq_true (by omega), aK (by omega)⟩
    · simp only [OT.cn, e1, Nat.add_zero]
      rfl
  · exact OT.al (decide_eq_false (by dsimp only; omega))
def jb (b : List UInt8) : List UInt64 := upto (fun k m => m.set k (gf b (8 * k))) (List.replicate 16 0) 16
theorem DT (b : List UInt8) : (jb b).length = 16 := by
  unfold jb; rw [jE (fun k v => List.length_set)]; rfl
def yZ (s : bY) : Bool := decide (s.1.2.2.2.2.2.1 = 0 ∧ s.2.2.2.2.1 = List.replicate 16 0)
def lL (s : bY) : ix := (((), (), (), (), ()), (s.2.1, s.2.2.1, s.2.2.2.1, jb s.1.1, ()))
theorem agn : ∀ s : bY, yZ s = true → ∃ m e, ay oS m s = some e ∧ (vK lL s).run = some e := by
  rintro ⟨⟨b, ⟨⟩, ⟨⟩, ⟨⟩, ⟨⟩, i, ⟨⟩⟩, ⟨c0, c1, c2, c3, ⟨⟩⟩⟩ hh
  have h' := of_decide_eq_true hh
  dsimp only at h'
  obtain ⟨rfl, rfl⟩ := h'
  have := (aT (T := oS) (fun k m => (((b, (), (), (), (), (k : Int), ()), (c0, c1, c2, m, ())) : bY)) (fun k m => m.set k (gf b (8 * k)))
    (fun m => (⟨(.exit 2, nj), (((), (), (), (), ()), (c0, c1, c2, m, ()))⟩ : aJ)) 16 (List.replicate 16 0) (fun _ m => m.length = 16) (by simp) (fun k m hk hm => ⟨?_, by rw [List.length_set]; exact hm⟩) (fun m hm => ?_)).1
  · obtain ⟨n, hn⟩ := this
    exact ⟨n, _, hn, rfl⟩
  · have e1 : (8 * (k : Int)).toNat = 8 * k := by omega
    refine (OT.aw (decide_eq_true (by dsimp only; omega))).trans ((ah ?_).trans ?_)
    · simp only [e1, hm, List.all_cons, List.all_nil, Bool.and_true, Bool.and_eq_true]
      exact ⟨aK (by omega), decide_eq_true (by dsimp only; omega), aI (by omega), decide_eq_true (by omega), aK (by omega)⟩
    · simp only [OT.cn, e1, Nat.add_zero]
      rfl
  · exact OT.al (decide_eq_false (by dsimp only; omega))
def HC (k : Nat) : List Int := H5.getD (k % 10) (List.replicate 16 0)
theorem Uc (k : Nat) {j : Nat} (hj : j < 16) : nib ((rowAt k).getD j 0) = (HC k).getD j 0 ∧ inB ((HC k).getD j 0) 16 = true := by
  have hk : k % 10 < 10 := Nat.mod_lt _ (by decide)
  unfold rowAt HC
  generalize k % 10 = r at hk
  have h : ∀ r : Fin 10, ∀ j : Fin 16, nib ((fu.getD r.val []).getD j.val 0) = (H5.getD r.val (List.replicate 16 0)).getD j.val 0 ∧ inB ((H5.getD r.val (List.replicate 16 0)).getD j.val 0) 16 = true := by decide +kernel
  exact h ⟨r, hk⟩ ⟨j, hj⟩
theorem atu (m : List UInt64) (k : Nat) {j : Nat} (hj : j < 16) : atF m (rowAt k) (j : Int) = m.getD ((HC k).getD j 0).toNat 0 := by
  unfold atF
  rw [Int.toNat_natCast, (Uc k hj).1]
theorem ahC {v : List UInt64} (hv : v.length = 16) (a b c d : Nat) (x y : UInt64) : lay v (wx (tab v 16 0) a b c d x y) 16 0 = wx v a b c d x y := by
  rw [gV hv]
  exact sE hv (by rw [eT]; exact hv)
def YT (m : List UInt64) (k : Nat) (v : List UInt64) : List UInt64 :=
  let g := fun j => m.getD ((HC k).getD j 0).toNat 0
  wx (wx (wx (wx (wx (wx (wx (wx v 0 4 8 12 (g 0) (g 1)) 1 5 9 13 (g 2) (g 3)) 2 6 10 14 (g 4) (g 5)) 3 7 11 15 (g 6) (g 7)) 0 5 10 15 (g 8) (g 9)) 1 6 11 12 (g 10) (g 11)) 2 7 8 13 (g 12) (g 13)) 3 4 9 14 (g 14) (g 15)
theorem alT (m : List UInt64) (k : Nat) (v : List UInt64) : QO m (rowAt k) (QP m (rowAt k) v) = YT m k v := by
  have h := fun {j : Nat} (hj : j < 16) => atu m k hj
  have a0 : atF m (rowAt k) (2 * ((0 : Nat) : Int)) = m.getD ((HC k).getD 0 0).toNat 0 := h (j := 0) (by decide)
  have a1 : atF m (rowAt k) (2 * ((0 : Nat) : Int) + 1) = m.getD ((HC k).getD 1 0).toNat 0 := h (j := 1) (by decide)
  have a2 : atF m (rowAt k) (2 * ((1 : Nat) : Int)) = m.getD ((HC k).getD 2 0).toNat 0 := h (j := 2) (by decide)
  have a3 : atF m (rowAt k) (2 * ((1 : Nat) : Int) + 1) = m.getD ((HC k).getD 3 0).toNat 0 := h (j := 3) (by decide)
  have a4 : atF m (rowAt k) (2 * ((2 : Nat) : Int)) = m.getD ((HC k).getD 4 0).toNat 0 := h (j := 4) (by decide)
  have a5 : atF m (rowAt k) (2 * ((2 : Nat) : Int) + 1) = m.getD ((HC k).getD 5 0).toNat 0 := h (j := 5) (by decide)
  have a6 : atF m (rowAt k) (2 * ((3 : Nat) : Int)) = m.getD ((HC k).getD 6 0).toNat 0 := h (j := 6) (by decide)
  have a7 : atF m (rowAt k) (2 * ((3 : Nat) : Int) + 1) = m.getD ((HC k).getD 7 0).toNat 0 := h (j := 7) (by decide)
  have a8 : atF m (rowAt k) (8 + 2 * ((0 : Nat) : Int)) = m.getD ((HC k).getD 8 0).toNat 0 := h (j := 8) (by decide)
  have a9 : atF m (rowAt k) (9 + 2 * ((0 : Nat) : Int)) = m.getD ((HC k).getD 9 0).toNat 0 := h (j := 9) (by decide)
  have a10 : atF m (rowAt k) (8 + 2 * ((1 : Nat) : Int)) = m.getD ((HC k).getD 10 0).toNat 0 := h (j := 10) (by decide)
  have a11 : atF m (rowAt k) (9 + 2 * ((1 : Nat) : Int)) = m.getD ((HC k).getD 11 0).toNat 0 := h (j := 11) (by decide)
  have a12 : atF m (rowAt k) (8 + 2 * ((2 : Nat) : Int)) = m.getD ((HC k).getD 12 0).toNat 0 := h (j := 12) (by decide)
  have a13 : atF m (rowAt k) (9 + 2 * ((2 : Nat) : Int)) = m.getD ((HC k).getD 13 0).toNat 0 := h (j := 13) (by decide)
  have a14 : atF m (rowAt k) (8 + 2 * ((3 : Nat) : Int)) = m.getD ((HC k).getD 14 0).toNat 0 := h (j := 14) (by decide)
  have a15 : atF m (rowAt k) (9 + 2 * ((3 : Nat) : Int)) = m.getD ((HC k).getD 15 0).toNat 0 := h (j := 15) (by decide)
  simp only [QP, QO, upto, a0, a1, a2, a3, a4, a5, a6, a7, a8, a9, a10, a11, a12, a13, a14, a15, Nat.reduceAdd, Nat.reduceMod, YT]
def yY (s : bX) : Bool := decide (s.1.2.2.2.2.2.1 = 0 ∧ s.2.2.2.1.length = 16 ∧ s.2.2.2.2.1.length = 16 ∧ s.2.2.2.2.2.1 = H5)
def lK (s : bX) : iw := (((), (), (), ()), (s.2.1, s.2.2.1, ja s.2.2.2.2.1 s.2.2.2.1, ()))
theorem agm : ∀ s : bX, yY s = true → ∃ m e, ay oR m s = some e ∧ (vJ lK s).run = some e := by
  rintro ⟨⟨⟨⟩, ⟨⟩, ⟨⟩, ⟨⟩, ⟨⟩, i, ⟨⟩⟩, ⟨c0, c1, v, m, c4, ⟨⟩⟩⟩ hh
  have h' := of_decide_eq_true hh
  dsimp only at h'
  obtain ⟨rfl, hv, hm, rfl⟩ := h'
  have := (aT (T := oR) (fun k v => ((((), (), (), (), (), (k : Int), ()), (c0, c1, v, m, H5, ())) : bX)) (fun k v => QO m (rowAt k) (QP m (rowAt k) v))
    (fun v => (⟨(.exit 4, ni), (((), (), (), ()), (c0, c1, v, ()))⟩ : aJ)) 12 v (fun _ v => v.length = 16) hv (fun k v hk hv => ⟨?_, by rw [pu, k7]; exact hv⟩) (fun v hv => ?_)).1
  · obtain ⟨n, hn⟩ := this
    exact ⟨n, _, hn, rfl⟩
  · have t1 : Int.tmod (k : Int) 10 = ((k % 10 : Nat) : Int) := by rw [Int.tmod_eq_emod_of_nonneg (by omega)]; omega
    have e1 : ((k % 10 : Nat) : Int).toNat = k % 10 := by omega
    have hrow : H5.getD (k % 10) [0, 0, 0, 0, 0, 0, 0, 0, 0, 0, 0, 0, 0, 0, 0, 0] = HC k := rfl
    have hb := fun {j : Nat} (hj : j < 16) => (Uc k hj).2
    have hn := fun {j : Nat} (hj : j < 16) => sG (Uc k hj).2
    refine (OT.aw (decide_eq_true (by dsimp only; omega))).trans ((ah ?_).trans ?_)
    · simp only [t1, e1, Nat.add_zero, hrow, ahC, fh, eT, hv, hm, hb, hn, List.all_cons, List.all_nil, Bool.and_true, Bool.and_eq_true, decide_true, Nat.le_refl, Nat.reduceLT, true_and, Nat.reduceDiv]
      exact ⟨aI (by omega), decide_eq_true (show k % 10 < 10 by omega), aK (by omega)⟩
    · simp only [OT.cn, t1, e1, Nat.add_zero, hrow, ahC, fh, eT, hv, alT]
      rfl
  · exact OT.al (decide_eq_false (by dsimp only; omega))
def yX (s : bW) : Bool := decide (s.1.2.2.2.1 = 0 ∧ s.2.1.length = 8 ∧ s.2.2.2.1.length = 16)
def lJ (s : bW) : iv := (((), (), ()), (EO s.2.1 s.2.2.2.1, s.2.2.1, ()))
theorem agl : ∀ s : bW, yX s = true → ∃ m e, ay oQ m s = some e ∧ (vI lJ s).run = some e := by
  rintro ⟨⟨⟨⟩, ⟨⟩, ⟨⟩, i, ⟨⟩⟩, ⟨h, c1, v, ⟨⟩⟩⟩ hh
  have h' := of_decide_eq_true hh
  dsimp only at h'
  obtain ⟨rfl, hl, hv⟩ := h'
  have := (aT (T := oQ) (fun k h => ((((), (), (), (k : Int), ()), (h, c1, v, ())) : bW)) (fun k h => h.set k (h.getD k 0 ^^^ (v.getD k 0 ^^^ v.getD (k + 8) 0)))
    (fun h => (⟨(.exit 6, nh), (((), (), ()), (h, c1, ()))⟩ : aJ)) 8 h (fun _ h => h.length = 8) hl (fun k h hk hl => ⟨?_, by rw [List.length_set]; exact hl⟩) (fun h hl => ?_)).1
  · obtain ⟨n, hn⟩ := this
    exact ⟨n, _, hn, rfl⟩
  · have e1 : ((k : Int) + 8).toNat = k + 8 := by omega
    refine (OT.aw (decide_eq_true (by dsimp only; omega))).trans ((ah ?_).trans ?_)
    · simp only [e1, hl, hv, List.all_cons, List.all_nil, Bool.and_true, Bool.and_eq_true]
      exact ⟨aI (by omega), decide_eq_true (by omega), aI (by omega), decide_eq_true (by omega), aK (by omega), aI (by omega), decide_eq_true (by omega), aI (by omega), decide_eq_true (by omega), aK (by omega)⟩
    · simp only [OT.cn, e1, Nat.add_zero]
      rfl
  · exact OT.al (decide_eq_false (by dsimp only; omega))
theorem anM (x : UInt64) : x ^^^ 18446744073709551615 = ~~~x := by
  rw [← UInt64.toBitVec_inj]
  show x.toBitVec ^^^ BitVec.allOnes 64 = ~~~ x.toBitVec
  exact BitVec.xor_allOnes
theorem LB {b : List UInt8} {t : UInt64} {l : Bool} {h c1 : List UInt64} (hh : h.length = 8) : y0 ((b, t, l, (), (), (), (), 0, ()), (h, c1, bIV, [0, 0, 0, 0, 0, 0, 0, 0, 0, 0, 0, 0, 0, 0, 0, 0], ())) = true := decide_eq_true ⟨rfl, hh, rfl, rfl⟩
theorem vG {b : List UInt8} {c0 c1 c2 : List UInt64} : yZ ((b, (), (), (), (), 0, ()), (c0, c1, c2, [0, 0, 0, 0, 0, 0, 0, 0, 0, 0, 0, 0, 0, 0, 0, 0], ())) = true := decide_eq_true ⟨rfl, rfl⟩
theorem vF {c0 c1 v m : List UInt64} (hv : v.length = 16) (hm : m.length = 16) : yY (((), (), (), (), (), 0, ()), (c0, c1, v, m, H5, ())) = true := decide_eq_true ⟨rfl, hv, hm, rfl⟩
theorem vE {c0 c1 v : List UInt64} (h0 : c0.length = 8) (hv : v.length = 16) : yX (((), (), (), 0, ()), (c0, c1, v, ())) = true := decide_eq_true ⟨rfl, h0, hv⟩
def c8 (h : List UInt64) (b : List UInt8) (t : UInt64) (last : Bool) : List UInt64 := EO h (ja (jb b) (om h t last))
def IW (x : y4) : Bool := decide (x.1.1.length = 8)
def YV (x : y4) : OT gg.Y := .ok ⟨vH, ((c8 x.1.1 x.1.2.1 x.1.2.2.1 x.1.2.2.2.1, ()), ())⟩
theorem agk : aa Try.prog 68 (gg.aE IW YV) := Ui y0 jZ yZ lL yY lK yX lJ ago agn agm agl _ _ fun x oy hp ho => by
  rw [← ho]
  clear ho
  obtain ⟨⟨h, b, t, last, ⟨⟩⟩, ⟨⟩⟩ := x
  have hh : h.length = 8 := of_decide_eq_true hp
  have t1 : tab h 8 0 = h := gV hh
  have hv : ∀ c l, (om h c l).length = 16 := fun c l => by
    unfold om
    cases l <;> simp [hh] <;> rfl
  have hm : (jb b).length = 16 := DT b
  have hr : ∀ c l, (ja (jb b) (om h c l)).length = 16 := fun c l => by rw [oI]; exact hv c l
  have hM : ∀ c l, (c8 h b c l).length = 8 := fun c l => by unfold c8; rw [jf]; exact hh
  have hi : (h ++ bIV).length = 16 := by simp [hh]; rfl
  have e8 : [(7640891576956012808 : UInt64), 13503953896175478587, 4354685564936845355, 11912009170470909681, 5840696475078001361, 11170449401992604703, 2270897969802886507, 6620516959819538809] = bIV := rfl
  have key : ∀ M : List UInt64, M.length = 8 → tab (lay [(0 : UInt64), 0, 0, 0, 0, 0, 0, 0] M 8 0) 8 0 = M := fun M hM => by rw [sE (n := 8) rfl hM, gV hM]
  have l1 : List.set (h ++ bIV) 12 ((h ++ bIV).getD 12 0 ^^^ t) = om h t false := rfl
  have l2 : List.set (om h t false) 14 (~~~(om h t false).getD 14 0) = om h t true := rfl
  have l3 : ∀ c l, EO h (ja (jb b) (om h c l)) = c8 h b c l := fun _ _ => rfl
  have l4 : tab H5 10 (List.replicate 16 0) = H5 := gV rfl
  refine (ah ?_).trans ?_
  · simp only [t1, List.all_cons, List.all_nil, Bool.and_true, Bool.and_eq_true]
    rw [e8]
    simp only [jZ, hi]
    exact ⟨LB hh, rfl, rfl⟩
  · cases last
    · refine (OT.al rfl).trans ((ah ?_).trans ?_)
      · simp only [t1, List.all_cons, List.all_nil, Bool.and_true, Bool.and_eq_true]
        rw [e8]
        simp only [jZ, lL, lK, lJ, l1, l3, fh, hM]
        exact ⟨vG, vF (hv _ _) hm, vE hh (hr _ _), rfl, rfl, rfl⟩
      · simp only [t1]
        rw [e8]
        simp only [jZ, lL, lK, lJ, l1, l3]
        rw [key _ (hM _ _)]
        rfl
    · refine (OT.aw rfl).trans ((ah ?_).trans ?_)
      · simp only [t1, List.all_cons, List.all_nil, Bool.and_true, Bool.and_eq_true]
        rw [e8]
        simp only [jZ, lL, lK, lJ, l1, anM, l2, l3, fh, hM, hv]
        exact ⟨rfl, rfl, vG, vF (hv _ _) hm, vE hh (hr _ _), rfl, rfl, rfl⟩
      · simp only [t1]
        rw [e8]
        simp only [jZ, lL, lK, lJ, l1, anM, l2, l3]
        rw [key _ (hM _ _)]
        rfl
def tt : bL := (gg.aE IW YV)
theorem Pl : aa Try.prog 68 tt := agk
theorem Pk : aB tt := ax
def n0 : Env := av 68 tt xr
theorem kD : aN Try.prog n0 := ag Pl kC
theorem xt : aq n0 := ab Pk GP
theorem qh : aU Try.prog te n0 := aG follows ak kD xt
def oH : ao := ⟨[.val false .str, .val false .int, .val false (.list .u8)], [], true, 0, false⟩
abbrev aa7 : Type := ((List UInt8) × (Int) × (List (UInt8)) × Unit) × (Unit)
def DI : Shape := ⟨90, [(1, .val false .int), (2, .val false (.list .u8)), (8, .ptr 0 0 0), (9, .val false .int)], [(0, .row .u64)], 0, true⟩
abbrev cY : Type := ((Int) × (List (UInt8)) × (Unit) × (Int) × Unit) × ((List (UInt64)) × Unit)
def vx : Shape := ⟨90, [(1, .val false .int), (2, .val false (.list .u8)), (8, .ptr 0 0 0), (9, .val false .int)], [(0, .row .u64)], 0, true⟩
abbrev lH : Type := ((Int) × (List (UInt8)) × (Unit) × (Int) × Unit) × ((List (UInt64)) × Unit)
def afR : SE → Option Shape := iX [(0, vx)] none
def aqj (a1 : Int) (a2 : List (UInt8)) (a9 : Int) (c0 : List (UInt64)) : OT (Sum cY aJ) :=
  let z0 : Nat := List.length a2
  let z1 : Nat := List.length c0
  let z2 : Bool := inR (a9 + (128 : Int))
  (gd [inR ((↑z0 : Int) - a9)] (.br (decide ((128 : Int) < (↑z0 : Int) - a9))
  (gd [decide (8 ≤ z1), z2, cH a9 (a9 + (128 : Int)) z0, z2, decide ((8 / 1 : Nat) + 0 ≤ z1), z2] (.ok (.inl ((a1, (a2, ((), (a9 + (128 : Int), ())))), (lay c0 (c8 (tab c0 8 (0 : UInt64)) (List.drop (Int.toNat a9) (List.take (Int.toNat (a9 + (128 : Int))) a2)) (i2u (a9 + (128 : Int))) false) 8 (0 : UInt64), ())))))
  (.ok (.inr ⟨(.exit 0, vx), ((a1, (a2, ((), (a9, ())))), (c0, ()))⟩))))
def DK (s : cY) : OT (Sum cY aJ) := aqj (s.1.1) (s.1.2.1) (s.1.2.2.2.1) (s.2.1)
theorem aqe (s : cY) (Q : Sum cY aJ → Prop) : wps te n0 au 1000 (bq (aj Try.f47) 0) (DI.inj s) (cE DI afR (Q : Sum DI.T aJ → Prop)) = (DK s).wpR Q := by kernel_rfl
def Lr (g0_0 : cY → lH) (s : cY) : OT aJ := (.ok ⟨(.exit 0, vx), g0_0 s⟩)
def DH : Shape := ⟨90, [(1, .val false .int), (8, .ptr 0 0 0), (10, .own 1), (11, .val false .int)], [(0, .row .u64), (1, .row .u8)], 0, true⟩
abbrev cX : Type := ((Int) × (Unit) × (Unit) × (Int) × Unit) × ((List (UInt64)) × (List (UInt8)) × Unit)
def vw : Shape := ⟨90, [(10, .own 0)], [(0, .row .u8)], 0, true⟩
abbrev lG : Type := ((Unit) × Unit) × ((List (UInt8)) × Unit)
def afQ : SE → Option Shape := iX [(2, vw)] none
def aqi (a1 : Int) (a11 : Int) (c0 : List (UInt64)) (c1 : List (UInt8)) : OT (Sum cX aJ) :=
  let z0 : Int := Int.tdiv a11 (8 : Int)
  let z1 : Int := (8 : Int) * Int.tmod a11 (8 : Int)
  (.br (decide (a11 < a1))
  (gd [true && inR z0, inB z0 8, decide (Int.toNat z0 + 0 < List.length c0), inR z1, decide ((List.length c1 + 1) * 1 ≤ 140737488355328), inR (a11 + (1 : Int))] (.ok (.inl ((a1, ((), ((), (a11 + (1 : Int), ())))), (c0, (c1 ++ [UInt64.toUInt8 (aX (List.getD c0 (Int.toNat z0 + 0) (0 : UInt64)) (↑(UInt64.toNat (i2u z1)) : Int))], ()))))))
  (.ok (.inr ⟨(.exit 2, vw), (((), ()), (c1, ()))⟩)))
def DJ (s : cX) : OT (Sum cX aJ) := aqi (s.1.1) (s.1.2.2.2.1) (s.2.1) (s.2.2.1)
theorem aqd (s : cX) (Q : Sum cX aJ → Prop) : wps te n0 au 1000 (bq (aj Try.f47) 2) (DH.inj s) (cE DH afQ (Q : Sum DH.T aJ → Prop)) = (DJ s).wpR Q := by kernel_rfl
def Lq (g2_2 : cX → lG) (s : cX) : OT aJ := (.ok ⟨(.exit 2, vw), g2_2 s⟩)
def tj : ar := ⟨[.own 0, .val false .int], [(0, .row .u8)], false⟩
def YK : SV → Option ar := fun _ => some tj
def DL (ok0 : cY → Bool) (g0_0 : cY → lH) (ok2 : cX → Bool) (g2_2 : cX → lG) (a0 : List UInt8) (a1 : Int) (a2 : List (UInt8)) : OT oH.Y :=
  let z0 : (Int × List UInt8 × PUnit × Int × PUnit) × List UInt64 × PUnit := ((a1, a2, (), (0 : Int), ()), [(7640891576956012808 : UInt64) ^^^ (16842752 : UInt64) + i2u a1, (13503953896175478587 : UInt64), (4354685564936845355 : UInt64), (11912009170470909681 : UInt64), (5840696475078001361 : UInt64), (11170449401992604703 : UInt64), (2270897969802886507 : UInt64) ^^^ gf a0 (Int.toNat (0 : Int)), (6620516959819538809 : UInt64) ^^^ gf a0 (Int.toNat (8 : Int))], ())
  let z1 : (Int × List UInt8 × PUnit × Int × PUnit) × List UInt64 × PUnit := g0_0 z0
  let z2 := z1.snd.fst
  let z3 : Nat := List.length z2
  let z4 := z1.fst
  let z5 := z4.snd
  let z6 := z5.snd.snd.fst
  let z7 := z5.fst
  let z8 : Nat := List.length z7
  let z9 : Int := (↑z8 : Int)
  let z10 : (Int × PUnit × PUnit × Int × PUnit) × List UInt64 × List UInt8 × PUnit := ((z4.fst, (), (), (0 : Int), ()), lay z2 (c8 (tab z2 8 (0 : UInt64)) (List.drop (Int.toNat z6) z7) (i2u z9) true) 8 (0 : UInt64), [], ())
  (.br (decide ((16 : Int) < (↑(List.length a0) : Int)))
  (.ok ⟨tj, (((), ((30 : Int), ())), ([], ()))⟩)
  (.br (decide (a1 < (1 : Int)))
    (.ok ⟨tj, (((), ((30 : Int), ())), ([], ()))⟩)
    (.br (decide ((64 : Int) < a1))
      (.ok ⟨tj, (((), ((30 : Int), ())), ([], ()))⟩)
      (gd [ok0 z0, decide (8 ≤ z3), cH z6 z9 z8, decide ((8 / 1 : Nat) + 0 ≤ z3), ok2 z10] (.ok ⟨tj, (((), ((0 : Int), ())), ((g2_2 z10).snd.fst, ()))⟩)))))
theorem asA (ok0 : cY → Bool) (g0_0 : cY → lH) (ok2 : cX → Bool) (g2_2 : cX → lG) (x : aa7) (Q : oH.Y → Prop) : wpf te n0 (bj 2 (cS DH 2 ok2 (Lq g2_2)) (bj 0 (cS DI 0 ok0 (Lr g0_0)) au)) 1000 Try.f47 (oH.inp.inj x).tm (oH.inp.inj x).hp (fnK oH YK Q) (fun _ _ => False) = (DL ok0 g0_0 ok2 g2_2 (x.1.1) (x.1.2.1) (x.1.2.2.1)).wpR Q := by kernel_rfl
theorem afS (ok0 : cY → Bool) (g0_0 : cY → lH) (ok2 : cX → Bool) (g2_2 : cX → lG) (h0 : ∀ s : cY, ok0 s = true → ∃ m e, ay (DK) m s = some e ∧ (Lr g0_0 s).run = some e) (h2 : ∀ s : cX, ok2 s = true → ∃ m e, ay (DJ) m s = some e ∧ (Lq g2_2 s).run = some e) (pre : aa7 → Bool) (F : aa7 → OT oH.Y) (hF : ∀ (x : aa7) oy, pre x = true → (F x).run = some oy → (DL ok0 g0_0 ok2 g2_2 (x.1.1) (x.1.2.1) (x.1.2.2.1)).run = some oy) : aa Try.prog 47 (oH.aE pre F) :=
  az ak kD qh (f := 47) (fn := Try.f47) (c := aj Try.f47) (by kernel_rfl) (by kernel_rfl) (by kernel_rfl) (S := oH) (k := 0) (by kernel_rfl) (fun R hR => (aH (c := (aj Try.f47)) (by kernel_rfl) (id := 2) (by kernel_rfl) (bg ak kD qh (sh := DH) hR (xs := afQ) (aF (by kernel_rfl) (by kernel_rfl) hR) aS ae (n := 1000) (T := DJ) (fun s Q => aqd s Q) (ok := ok2) (f := Lq g2_2) h2) (aH (c := (aj Try.f47)) (by kernel_rfl) (id := 0) (by kernel_rfl) (bg ak kD qh (sh := DI) hR (xs := afR) (aF (by kernel_rfl) (by kernel_rfl) hR) aS ae (n := 1000) (T := DK) (fun s Q => aqe s Q) (ok := ok0) (f := Lr g0_0) h0) ae))) (n := 1000) (sel := YK) (fun v o h => by cases h; rfl) (pre := pre) (F := F) (T := fun x => DL ok0 g0_0 ok2 g2_2 (x.1.1) (x.1.2.1) (x.1.2.2.1)) (fun x Q => asA ok0 g0_0 ok2 g2_2 x Q) hF
def lI (b : List UInt8) (h : List UInt64) (n : Nat) : List UInt64 := upto (fun k h => c8 h ((b.take (128 * k + 128)).drop (128 * k)) (i2u ((128 * k + 128 : Nat) : Int)) false) h n
def vC (h : List UInt64) (n : Nat) : List UInt8 := upto (fun k o => o ++ [UInt64.toUInt8 (aX (h.getD (k / 8) 0) ((i2u (8 * ((k % 8 : Nat) : Int))).toNat : Int))]) [] n
theorem eG {h : List UInt64} {b : List UInt8} {t : UInt64} {l : Bool} (hh : h.length = 8) : (c8 h b t l).length = 8 := by unfold c8; rw [jf]; exact hh
def Lp (s : cY) : Bool := decide (s.1.2.2.2.1 = 0 ∧ s.2.1.length = 8 ∧ s.1.2.1.length ≤ 1000000000000)
def T8 (s : cY) : lH := ((s.1.1, s.1.2.1, (), ((128 * ((s.1.2.1.length - 1) / 128) : Nat) : Int), ()), (lI s.1.2.1 s.2.1 ((s.1.2.1.length - 1) / 128), ()))
theorem aqh : ∀ s : cY, Lp s = true → ∃ m e, ay DK m s = some e ∧ (Lr T8 s).run = some e := by
  rintro ⟨⟨n, b, ⟨⟩, i, ⟨⟩⟩, ⟨h, ⟨⟩⟩⟩ hh
  have h' := of_decide_eq_true hh
  dsimp only at h'
  obtain ⟨rfl, hl, hb⟩ := h'
  have := (aT (T := DK) (fun k h => (((n, b, (), ((128 * k : Nat) : Int), ()), (h, ())) : cY)) (fun k h => c8 h ((b.take (128 * k + 128)).drop (128 * k)) (i2u ((128 * k + 128 : Nat) : Int)) false)
    (fun h => (⟨(.exit 0, vx), ((n, b, (), ((128 * ((b.length - 1) / 128) : Nat) : Int), ()), (h, ()))⟩ : aJ)) ((b.length - 1) / 128) h (fun _ h => h.length = 8) hl (fun k h hk hl => ⟨?_, eG hl⟩) (fun h hl => ?_)).1
  · obtain ⟨m, hm⟩ := this
    exact ⟨m, _, hm, rfl⟩
  · have e1 : (((128 * k : Nat) : Int) + 128).toNat = 128 * k + 128 := by omega
    have e2 : (((128 * k : Nat) : Int)).toNat = 128 * k := by omega
    have e3 : ((128 * k : Nat) : Int) + 128 = ((128 * k + 128 : Nat) : Int) := by omega
    have e4 : ((128 * (k + 1) : Nat) : Int) = ((128 * k + 128 : Nat) : Int) := by omega
    have t1 : tab h 8 0 = h := gV hl
    have t2 : ∀ c l t, lay h (c8 h c t l) 8 0 = c8 h c t l := fun c l t => sE hl (eG hl)
    refine (ah (by simp only [List.all_cons, List.all_nil, Bool.and_true]; exact aK (by omega))).trans ((OT.aw (decide_eq_true (by dsimp only; omega))).trans ((ah ?_).trans ?_))
    · simp only [hl, List.all_cons, List.all_nil, Bool.and_true, Bool.and_eq_true]
      exact ⟨rfl, aK (by omega), dq (by omega), aK (by omega), rfl, aK (by omega)⟩
    · simp only [OT.cn, e2, e3, e4, t1, t2, Int.toNat_natCast]
  · refine (ah (by simp only [List.all_cons, List.all_nil, Bool.and_true]; exact aK (by omega))).trans (OT.al (decide_eq_false (by dsimp only; omega)))
def Lo (s : cX) : Bool := decide (s.1.2.2.2.1 = 0 ∧ s.2.1.length = 8 ∧ s.1.1 ≤ 64 ∧ 0 ≤ s.1.1 ∧ s.2.2.1 = [])
def afT (s : cX) : lG := (((), ()), (vC s.2.1 s.1.1.toNat, ()))
theorem aqg : ∀ s : cX, Lo s = true → ∃ m e, ay DJ m s = some e ∧ (Lq afT s).run = some e := by
  rintro ⟨⟨n, ⟨⟩, ⟨⟩, i, ⟨⟩⟩, ⟨h, o, ⟨⟩⟩⟩ hh
  have h' := of_decide_eq_true hh
  dsimp only at h'
  obtain ⟨rfl, hl, hn, hn0, rfl⟩ := h'
  obtain ⟨k, rfl⟩ : ∃ k : Nat, n = (k : Int) := ⟨n.toNat, by omega⟩
  have := (aT (T := DJ) (fun i o => ((((k : Int), (), (), (i : Int), ()), (h, o, ())) : cX)) (fun k o => o ++ [UInt64.toUInt8 (aX (h.getD (k / 8) 0) ((i2u (8 * ((k % 8 : Nat) : Int))).toNat : Int))])
    (fun o => (⟨(.exit 2, vw), (((), ()), (o, ()))⟩ : aJ)) k [] (fun i o => o.length = i) rfl (fun i o hi ho => ⟨?_, by simp [ho]⟩) (fun o ho => ?_)).1
  · obtain ⟨m, hm⟩ := this
    exact ⟨m, _, hm, rfl⟩
  · have t1 : Int.tdiv (i : Int) 8 = ((i / 8 : Nat) : Int) := by rw [Int.tdiv_eq_ediv_of_nonneg (by omega)]; omega
    have t2 : Int.tmod (i : Int) 8 = ((i % 8 : Nat) : Int) := by rw [Int.tmod_eq_emod_of_nonneg (by omega)]; omega
    refine (OT.aw (decide_eq_true (by dsimp only; omega))).trans ((ah ?_).trans ?_)
    · simp only [t1, t2, hl, ho, Int.toNat_natCast, List.all_cons, List.all_nil, Bool.and_true, Bool.and_eq_true]
      exact ⟨⟨trivial, aK (by omega)⟩, aI (by omega), decide_eq_true (by omega), aK (by omega), decide_eq_true (by omega), aK (by omega)⟩
    · simp only [OT.cn, t1, t2, Int.toNat_natCast, Nat.add_zero]
      rfl
  · exact OT.al (decide_eq_false (by dsimp only; omega))
def agd (p : List UInt8) (n : Int) : List UInt64 := [0x6a09e667f3bcc908 ^^^ (16842752 + i2u n), 0xbb67ae8584caa73b, 0x3c6ef372fe94f82b, 0xa54ff53a5f1d36f1, 0x510e527fade682d1, 0x9b05688c2b3e6c1f, 0x1f83d9abfb41bd6b ^^^ gf p 0, 0x5be0cd19137e2179 ^^^ gf p 8]
def tr (p : List UInt8) (n : Int) (b : List UInt8) : List UInt8 :=
  vC (c8 (lI b (agd p n) ((b.length - 1) / 128)) (b.drop (128 * ((b.length - 1) / 128))) (i2u (b.length : Int)) true) n.toNat
def Ln (x : aa7) : Bool := decide (x.1.2.2.1.length ≤ 1000000000000)
def IP (x : aa7) : OT oH.Y := .br (gX x.1.1 x.1.2.1) (.ok ⟨tj, (((), ((30 : Int), ())), ([], ()))⟩) (.ok ⟨tj, (((), ((0 : Int), ())), (tr x.1.1 x.1.2.1 x.1.2.2.1, ()))⟩)
theorem T7 {n : Int} {b : List UInt8} {h : List UInt64} (hh : h.length = 8) (hb : b.length ≤ 1000000000000) : Lp ((n, b, (), 0, ()), (h, ())) = true := decide_eq_true ⟨rfl, hh, hb⟩
theorem T6 {n : Int} {h : List UInt64} (hh : h.length = 8) (hn0 : 0 ≤ n) (hn : n ≤ 64) : Lo ((n, (), (), 0, ()), (h, [], ())) = true := decide_eq_true ⟨rfl, hh, hn, hn0, rfl⟩
theorem vB {b : List UInt8} {h : List UInt64} (hh : h.length = 8) : ∀ n, (lI b h n).length = 8
  | 0 => hh
  | n + 1 => eG (vB hh n)
theorem aqf : aa Try.prog 47 (oH.aE Ln IP) := afS Lp T8 Lo afT aqh aqg _ _ fun x oy hp ho => by
  rw [← ho]
  obtain ⟨⟨p, n, b, ⟨⟩⟩, ⟨⟩⟩ := x
  clear ho
  have hb : b.length ≤ 1000000000000 := of_decide_eq_true hp
  by_cases h1 : 16 < (p.length : Int)
  · have e1 : decide (16 < (p.length : Int)) = true := decide_eq_true h1
    have eb : gX p n = true := by simp only [gX, e1, Bool.true_or]
    simp only [IP, DL, e1, eb]
    rfl
  · have e1 : decide (16 < (p.length : Int)) = false := decide_eq_false h1
    by_cases h2 : n < 1
    · have e2 : decide (n < 1) = true := decide_eq_true h2
      have eb : gX p n = true := by simp only [gX, e1, e2, Bool.true_or, Bool.false_or]
      simp only [IP, DL, e1, e2, eb]
      rfl
    · have e2 : decide (n < 1) = false := decide_eq_false h2
      by_cases h3 : 64 < n
      · have e3 : decide (64 < n) = true := decide_eq_true h3
        have eb : gX p n = true := by simp only [gX, e1, e2, e3, Bool.false_or]
        simp only [IP, DL, e1, e2, e3, eb]
        rfl
      · have e3 : decide (64 < n) = false := decide_eq_false h3
        have eb : gX p n = false := by simp only [gX, e1, e2, e3, Bool.false_or]
        have hH : (agd p n).length = 8 := rfl
        have hE : ∀ k, (lI b (agd p n) k).length = 8 := fun k => vB hH k
        have l1 : [(7640891576956012808 : UInt64) ^^^ 16842752 + i2u n, 13503953896175478587, 4354685564936845355, 11912009170470909681, 5840696475078001361, 11170449401992604703, 2270897969802886507 ^^^ gf p (Int.toNat 0), 6620516959819538809 ^^^ gf p (Int.toNat 8)] = agd p n := rfl
        have t1 : ∀ k, tab (lI b (agd p n) k) 8 0 = lI b (agd p n) k := fun k => gV (hE k)
        have t2 : ∀ k c l t, lay (lI b (agd p n) k) (c8 (lI b (agd p n) k) c t l) 8 0 = c8 (lI b (agd p n) k) c t l := fun k c l t => sE (hE k) (eG (hE k))
        simp only [IP, DL, e1, e2, e3, eb, T8, l1, t1, t2, hE, Int.toNat_natCast]
        refine (ah ?_).trans rfl
        simp only [List.all_cons, List.all_nil, Bool.and_true, Bool.and_eq_true]
        exact ⟨T7 hH hb, rfl, dq (by omega), rfl, T6 (eG (hE _)) (by omega) (by omega)⟩
def DG : bL := (oH.aE Ln IP)
theorem aa6 : aa Try.prog 47 DG := aqf
theorem aa5 : aB DG := ax
def Sz : Env := av 47 DG n0
theorem GK : aN Try.prog Sz := ag aa6 kD
theorem GL : aq Sz := ab aa5 xt
theorem adB : aU Try.prog te Sz := aG follows ak GK GL
def fS : ao := ⟨[.val false (.list .elem)], [], true, 0, false⟩
abbrev yA : Type := ((List (af)) × Unit) × (Unit)
def Dm : ar := ⟨[.own 0], [(0, .row .elem)], false⟩
def Ir : SV → Option ar := fun _ => some Dm
def K2 (a0 : List (af)) : OT fS.Y :=
  (gd [decide ((0 + List.length a0) * 32 ≤ 140737488355328)] (.ok ⟨Dm, (((), ()), ([] ++ a0, ()))⟩))
theorem akc (x : yA) (Q : fS.Y → Prop) : wpf te Sz au 1000 Try.f33 (fS.inp.inj x).tm (fS.inp.inj x).hp (fnK fS Ir Q) (fun _ _ => False) = (K2 (x.1.1)).wpR Q := by kernel_rfl
theorem Tk (pre : yA → Bool) (F : yA → OT fS.Y) (hF : ∀ (x : yA) oy, pre x = true → (F x).run = some oy → (K2 (x.1.1)).run = some oy) : aa Try.prog 33 (fS.aE pre F) :=
  az ak GK adB (f := 33) (fn := Try.f33) (c := aj Try.f33) (by kernel_rfl) (by kernel_rfl) (by kernel_rfl) (S := fS) (k := 0) (by kernel_rfl) (fun R hR => ae) (n := 1000) (sel := Ir) (fun v o h => by cases h; rfl) (pre := pre) (F := F) (T := fun x => K2 (x.1.1)) (fun x Q => akc x Q) hF
def yz (x : yA) : Bool := decide (x.1.1.length * 32 ≤ 140737488355328)
def Xq (x : yA) : OT fS.Y := .ok ⟨Dm, (((), ()), (x.1.1, ()))⟩
theorem aed : aa Try.prog 33 (fS.aE yz Xq) := Tk _ _ fun x oy hp ho => by
  rw [← ho]
  have hp' : x.1.1.length * 32 ≤ 140737488355328 := of_decide_eq_true hp
  refine (ah ?_).trans rfl
  simp only [List.all_cons, List.all_nil, Bool.and_true]
  exact decide_eq_true (by omega)
def s8 : bL := (fS.aE yz Xq)
theorem Oy : aa Try.prog 33 s8 := aed
theorem Ox : aB s8 := ax
def xe : Env := av 33 s8 Sz
theorem uq : aN Try.prog xe := ag Oy GK
theorem xd : aq xe := ab Ox GL
theorem Sp : aU Try.prog te xe := aG follows ak uq xd
def gK : ao := ⟨[.val false (.list .elem)], [], true, 0, false⟩
abbrev VY : Type := ((List (af)) × Unit) × (Unit)
def pK : ar := ⟨[.own 0], [(0, .row .elem)], false⟩
def Kb : SV → Option ar := fun _ => some pK
def M9 (a0 : List (af)) : OT gK.Y :=
  (gd [decide (((0 : Nat) + List.length a0) * (32 : Nat) ≤ (140737488355328 : Nat))] (.ok ⟨pK, (((), ()), ([] ++ a0, ()))⟩))
def aiF : OT gK.Y := .ok ⟨pK, (((), ()), ([], ()))⟩
theorem am0 (x : VY) (Q : gK.Y → Prop) : wpf te xe au 1000 Try.f55 (gK.inp.inj x).tm (gK.inp.inj x).hp (fnK gK Kb Q) (fun _ _ => False) =
    Bool.rec (motive := fun _ => Prop) ((M9 x.1.1).wpR Q) (aiF.wpR Q ∧ (M9 x.1.1).wpR Q) (List.isEmpty x.1.1) := by kernel_rfl
def Aa (x : VY) : Bool := decide (x.1.1.length * 32 ≤ 140737488355328)
def Z2 (x : VY) : OT gK.Y := .ok ⟨pK, (((), ()), (x.1.1, ()))⟩
theorem aiE : aa Try.prog 55 (gK.aE Aa Z2) := by
  refine amR ak uq Sp (f := 55) (fn := Try.f55) (c := aj Try.f55) (by kernel_rfl) (by kernel_rfl) (by kernel_rfl) (S := gK) (k := 0) (by kernel_rfl) (Λ := au) (fun R hR => ae) (n := 1000) fun x oy hp hr => ⟨fnK gK Kb (fun z => z = oy), fun _ _ => False, ?_, fun v hp hq => ?_, fun _ _ hq => hq.elim⟩
  · refine (am0 x _).mpr ?_
    cases hr
    have hp' : x.1.1.length * 32 ≤ 140737488355328 := of_decide_eq_true hp
    have h1 : (M9 x.1.1).wpR (fun z => z = ⟨pK, (((), ()), (x.1.1, ()))⟩) := by
      rw [OT.Om]
      refine OT.ox (ah ?_) rfl
      simp only [List.all_cons, List.all_nil, Bool.and_true]
      exact decide_eq_true (by omega)
    cases hb : List.isEmpty x.1.1
    · exact h1
    · refine ⟨?_, h1⟩
      rw [List.isEmpty_iff.1 hb]
      rfl
  · unfold fnK at hq
    split at hq
    · rename_i o ho
      split at hq
      · rename_i y hy
        subst hq
        exact ⟨by cases ho; rfl, hy⟩
      · exact hq.elim
    · exact hq.elim
def ub : bL := (gK.aE Aa Z2)
theorem Ro : aa Try.prog 55 ub := aiE
theorem Rn : aB ub := ax
def xU : Env := av 55 ub xe
theorem uI : aN Try.prog xU := ag Ro uq
theorem xT : aq xU := ab Rn xd
theorem SR : aU Try.prog te xU := aG follows ak uI xT
def jM : ao := ⟨[.ptr 0 0 0], [(0, .cells [.val false (.list .elem)])], false, 1, true⟩
abbrev IB : Type := ((Unit) × Unit) × (((List (af)) × Unit) × Unit)
def CB : ar := ⟨[.val true .elem, .val false .int], [(0, .cells [.val false (.list .elem)])], false⟩
def OL : SV → Option ar := fun _ => some CB
def TC (c0_0 : List (af)) : OT jM.Y :=
  let z0 : Nat := List.length c0_0
  let z1 : Int := (↑z0 : Int)
  let z2 : af := { w0 := 0, w1 := 0, w2 := 0, w3 := 0 }
  (.br (z1 == (0 : Int))
  (.ok ⟨CB, ((z2, ((81 : Int), ())), ((c0_0, ()), ()))⟩)
  (gd [inB (0 : Int) z0, cH (1 : Int) z1 z0] (.ok ⟨CB, ((List.getD c0_0 0 z2, ((0 : Int), ())), ((List.drop 1 c0_0, ()), ()))⟩)))
theorem aoM (x : IB) (Q : jM.Y → Prop) : wpf te xU au 1000 Try.f118 (jM.inp.inj x).tm (jM.inp.inj x).hp (fnK jM OL Q) (fun _ _ => False) = (TC (x.2.1.1)).wpR Q := by kernel_rfl
theorem aaU (pre : IB → Bool) (F : IB → OT jM.Y) (hF : ∀ (x : IB) oy, pre x = true → (F x).run = some oy → (TC (x.2.1.1)).run = some oy) : aa Try.prog 118 (jM.aE pre F) :=
  az ak uI SR (f := 118) (fn := Try.f118) (c := aj Try.f118) (by kernel_rfl) (by kernel_rfl) (by kernel_rfl) (S := jM) (k := 1) (by kernel_rfl) (fun R hR => ae) (n := 1000) (sel := OL) (fun v o h => by cases h; rfl) (pre := pre) (F := F) (T := fun x => TC (x.2.1.1)) (fun x Q => aoM x Q) hF
def dA (l : List af) : af × Int × List af := match l with
  | [] => (⟨0, 0, 0, 0⟩, 81, [])
  | x :: r => (x, 0, r)
def OM (x : IB) : Bool := decide (x.2.1.1.length ≤ 140737488355328)
def aen (x : IB) : OT jM.Y := .ok ⟨CB, (((dA x.2.1.1).1, ((dA x.2.1.1).2.1, ())), (((dA x.2.1.1).2.2, ()), ()))⟩
theorem akj : aa Try.prog 118 (jM.aE OM aen) := aaU _ _ fun x oy hp ho => by
  rw [← ho]
  clear ho
  obtain ⟨⟨⟨⟩, ⟨⟩⟩, ⟨⟨l, ⟨⟩⟩, ⟨⟩⟩⟩ := x
  have hl : l.length ≤ 140737488355328 := of_decide_eq_true hp
  cases l with
  | nil => rfl
  | cons y r =>
    have h0 : (((y :: r).length : Int) == 0) = false := by simp; omega
    refine (OT.al h0).trans ((ah ?_).trans rfl)
    simp only [List.length_cons] at hl ⊢
    simp only [List.all_cons, List.all_nil, Bool.and_true, Bool.and_eq_true]
    exact ⟨aI (by omega), dq (by omega)⟩
def qJ : bL := (jM.aE OM aen)
theorem Dv : aa Try.prog 118 qJ := akj
theorem Du : aB qJ := ax
def GF : Env := av 118 qJ xU
theorem AC : aN Try.prog GF := ag Dv uI
theorem BO : aq GF := ab Du xT
theorem WJ : aU Try.prog te GF := aG follows ak AC BO
def fW : ao := ⟨[.ptr 0 0 1], [(0, .cells [.val false .int, .val false (.list .elem)])], false, 1, true⟩
abbrev yI : Type := ((Unit) × Unit) × (((Int) × (List (af)) × Unit) × Unit)
def vj : ar := ⟨[.val true .elem, .val false .int], [(0, .cells [.val false .int, .val false (.list .elem)])], false⟩
def IA : SV → Option ar := fun _ => some vj
def K8 (c0_0 : Int) (c0_1 : List (af)) : OT fW.Y :=
  let z0 : Nat := List.length c0_1
  let z1 : Int := (↑z0 : Int)
  let z2 : af := { w0 := 0, w1 := 0, w2 := 0, w3 := 0 }
  (.br (z1 == (0 : Int))
  (.ok ⟨vj, ((z2, ((81 : Int), ())), ((c0_0, (c0_1, ())), ()))⟩)
  (gd [inB (0 : Int) z0, cH (1 : Int) z1 z0] (.ok ⟨vj, ((List.getD c0_1 0 z2, ((0 : Int), ())), ((c0_0, (List.drop 1 c0_1, ())), ()))⟩)))
theorem aki (x : yI) (Q : fW.Y → Prop) : wpf te GF au 1000 Try.f118 (fW.inp.inj x).tm (fW.inp.inj x).hp (fnK fW IA Q) (fun _ _ => False) = (K8 (x.2.1.1) (x.2.1.2.1)).wpR Q := by kernel_rfl
theorem TB (pre : yI → Bool) (F : yI → OT fW.Y) (hF : ∀ (x : yI) oy, pre x = true → (F x).run = some oy → (K8 (x.2.1.1) (x.2.1.2.1)).run = some oy) : aa Try.prog 118 (fW.aE pre F) :=
  az ak AC WJ (f := 118) (fn := Try.f118) (c := aj Try.f118) (by kernel_rfl) (by kernel_rfl) (by kernel_rfl) (S := fW) (k := 1) (by kernel_rfl) (fun R hR => ae) (n := 1000) (sel := IA) (fun v o h => by cases h; rfl) (pre := pre) (F := F) (T := fun x => K8 (x.2.1.1) (x.2.1.2.1)) (fun x Q => aki x Q) hF
def yH (x : yI) : Bool := decide (x.2.1.2.1.length ≤ 140737488355328)
def Xt (x : yI) : OT fW.Y := .ok ⟨vj, (((dA x.2.1.2.1).1, ((dA x.2.1.2.1).2.1, ())), ((x.2.1.1, ((dA x.2.1.2.1).2.2, ())), ()))⟩
theorem aem : aa Try.prog 118 (fW.aE yH Xt) := TB _ _ fun x oy hp ho => by
  rw [← ho]
  clear ho
  obtain ⟨⟨⟨⟩, ⟨⟩⟩, ⟨⟨s, l, ⟨⟩⟩, ⟨⟩⟩⟩ := x
  have hl : l.length ≤ 140737488355328 := of_decide_eq_true hp
  cases l with
  | nil => rfl
  | cons y r =>
    have h0 : (((y :: r).length : Int) == 0) = false := by simp; omega
    refine (OT.al h0).trans ((ah ?_).trans rfl)
    simp only [List.length_cons] at hl ⊢
    simp only [List.all_cons, List.all_nil, Bool.and_true, Bool.and_eq_true]
    exact ⟨aI (by omega), dq (by omega)⟩
def ta : bL := (ai3 qJ (fW.aE yH Xt))
theorem OK : aa Try.prog 118 ta := (anc Dv aem)
theorem OJ : aB ta := (adb Du ax)
def xk : Env := av 118 ta GF
theorem uv : aN Try.prog xk := ag OK AC
theorem xj : aq xk := ab OJ BO
theorem Su : aU Try.prog te xk := aG follows ak uv xj
def jJ : ao := ⟨[.ptr 0 0 0, .val false .u8, .val false (.list .u8)], [(0, .cells [.val false .int, .val false (.list .elem)])], false, 1, true⟩
abbrev Iu : Type := ((Unit) × (UInt8) × (List (UInt8)) × Unit) × (((Int) × (List (af)) × Unit) × Unit)
def K5 : ar := ⟨[], [(0, .cells [.val false .int, .val false (.list .elem)])], false⟩
def OD : SV → Option ar := fun _ => some K5
def Tt (a1 : UInt8) (a2 : List (UInt8)) (c0_0 : Int) (c0_1 : List (af)) : OT jJ.Y :=
  (.ok ⟨K5, ((), ((c0_0, (c0_1, ())), ()))⟩)
theorem aoJ (x : Iu) (Q : jJ.Y → Prop) : wpf te xk au 1000 Try.f117 (jJ.inp.inj x).tm (jJ.inp.inj x).hp (fnK jJ OD Q) (fun _ _ => False) = (Tt (x.1.2.1) (x.1.2.2.1) (x.2.1.1) (x.2.1.2.1)).wpR Q := by kernel_rfl
theorem aaQ (pre : Iu → Bool) (F : Iu → OT jJ.Y) (hF : ∀ (x : Iu) oy, pre x = true → (F x).run = some oy → (Tt (x.1.2.1) (x.1.2.2.1) (x.2.1.1) (x.2.1.2.1)).run = some oy) : aa Try.prog 117 (jJ.aE pre F) :=
  az ak uv Su (f := 117) (fn := Try.f117) (c := aj Try.f117) (by kernel_rfl) (by kernel_rfl) (by kernel_rfl) (S := jJ) (k := 1) (by kernel_rfl) (fun R hR => ae) (n := 1000) (sel := OD) (fun v o h => by cases h; rfl) (pre := pre) (F := F) (T := fun x => Tt (x.1.2.1) (x.1.2.2.1) (x.2.1.1) (x.2.1.2.1)) (fun x Q => aoJ x Q) hF
def OE (_ : Iu) : Bool := true
def aeh (x : Iu) : OT jJ.Y := .ok ⟨K5, ((), ((x.2.1.1, (x.2.1.2.1, ())), ()))⟩
theorem akf : aa Try.prog 117 (jJ.aE OE aeh) := aaQ _ _ fun x oy hp ho => ho
def yE : bL := (oC 2 (jJ.aE OE aeh))
theorem Tq : aa Try.prog 117 yE := (qL akf)
theorem Tp : aB yE := (kL ax)
def GA : Env := av 117 yE xk
theorem AA : aN Try.prog GA := ag Tq uv
theorem BM : aq GA := ab Tp xj
theorem WH : aU Try.prog te GA := aG follows ak AA BM
def fX : ao := ⟨[.ptr 0 0 0], [(0, .cells [.val false .int, .val false (.list .elem)])], false, 1, true⟩
abbrev yK : Type := ((Unit) × Unit) × (((Int) × (List (af)) × Unit) × Unit)
def vk : ar := ⟨[.val true .elem, .val false .int], [(0, .cells [.val false .int, .val false (.list .elem)])], false⟩
def IC : SV → Option ar := fun _ => some vk
def K9 (c0_0 : Int) (c0_1 : List (af)) : OT fX.Y :=
  let z0 : af × Int × List af := dA c0_1
  let z1 : af := { w0 := 0, w1 := 0, w2 := 0, w3 := 0 }
  let z2 := z0.snd
  let z3 := z2.fst
  let z4 := z2.snd
  (gd [yH (((), ()), (c0_0, c0_1, ()), ())] (.br (aA c0_0)
  (.ok ⟨vk, ((su (pS c0_0) z0.fst z1, (z3, ())), ((c0_0, (z4, ())), ()))⟩)
  (.ok ⟨vk, ((z1, (z3, ())), ((c0_0, (z4, ())), ()))⟩)))
theorem akk (x : yK) (Q : fX.Y → Prop) : wpf te GA au 1000 Try.f116 (fX.inp.inj x).tm (fX.inp.inj x).hp (fnK fX IC Q) (fun _ _ => False) = (K9 (x.2.1.1) (x.2.1.2.1)).wpR Q := by kernel_rfl
theorem TF (pre : yK → Bool) (F : yK → OT fX.Y) (hF : ∀ (x : yK) oy, pre x = true → (F x).run = some oy → (K9 (x.2.1.1) (x.2.1.2.1)).run = some oy) : aa Try.prog 116 (fX.aE pre F) :=
  az ak AA WH (f := 116) (fn := Try.f116) (c := aj Try.f116) (by kernel_rfl) (by kernel_rfl) (by kernel_rfl) (S := fX) (k := 1) (by kernel_rfl) (fun R hR => ae) (n := 1000) (sel := IC) (fun v o h => by cases h; rfl) (pre := pre) (F := F) (T := fun x => K9 (x.2.1.1) (x.2.1.2.1)) (fun x Q => akk x Q) hF
def yJ (x : yK) : Bool := aA x.2.1.1 && decide (x.2.1.2.1.length ≤ 140737488355328)
def Xu (x : yK) : OT fX.Y := .ok ⟨vk, ((su (pS x.2.1.1) (dA x.2.1.2.1).1 ⟨0, 0, 0, 0⟩, ((dA x.2.1.2.1).2.1, ())), ((x.2.1.1, ((dA x.2.1.2.1).2.2, ())), ()))⟩
theorem aeo : aa Try.prog 116 (fX.aE yJ Xu) := TF _ _ fun x oy hp ho => by
  rw [← ho]
  clear ho
  obtain ⟨⟨⟨⟩, ⟨⟩⟩, ⟨⟨s, l, ⟨⟩⟩, ⟨⟩⟩⟩ := x
  have hp' : (aA s && decide (l.length ≤ 140737488355328)) = true := hp
  rw [Bool.and_eq_true] at hp'
  refine (ah ?_).trans ((OT.aw hp'.1).trans rfl)
  simp only [List.all_cons, List.all_nil, Bool.and_true]
  exact hp'.2
def tc : bL := (fX.aE yJ Xu)
theorem OO : aa Try.prog 116 tc := aeo
theorem ON : aB tc := ax
def xm : Env := av 116 tc GA
theorem uw : aN Try.prog xm := ag OO AA
theorem xl : aq xm := ab ON BM
theorem Sv : aU Try.prog te xm := aG follows ak uw xl
def jL : ao := ⟨[.val false .int, .val true (.prod .int (.list .elem))], [], true, 0, false⟩
abbrev Iz : Type := ((Int) × ((Int × List (af))) × Unit) × (Unit)
def fU : ar := ⟨[.dj, .val false .int], [], false⟩
def vi : ar := ⟨[.ifp 98 0, .val false .int], [(0, .cells [.val false .int, .own 1]), (1, .row .elem)], false⟩
def vh : ar := ⟨[.ifp 106 0, .val false .int], [(0, .cells [.val false .int, .ptr 1 0 0]), (1, .cells [.val false .int, .val false .u64, .val false .u64, .val false .u64, .val false .u64, .val false .u64, .val false .u64, .val false .u64, .val false .u64, .own 2, .val false .u64]), (2, .row .u8)], false⟩
def Iy : List ar := [fU, vi, vh]
def K6 (a0 : Int) (a1 : (Int × List (af))) : OT jL.Y :=
  let z0 : Bool := decide ((100000 : Int) < (↑(List.length a1.snd) : Int))
  let z1 : Bool := Aa ((a1.snd, ()), ())
  let z2 : Int := cp a0 (1 : Int)
  (.br (decide (a0 < (0 : Int)))
  (.ok ⟨fU, (((), ((40 : Int), ())), ())⟩)
  (.br (decide ((3 : Int) < a0))
    (.ok ⟨fU, (((), ((40 : Int), ())), ())⟩)
    (.br (!a1.fst == (0 : Int))
      (.br (!a1.fst == (1 : Int))
        (.ok ⟨fU, (((), ((80 : Int), ())), ())⟩)
        (.br (z0)
          (.ok ⟨fU, (((), ((81 : Int), ())), ())⟩)
          (.br (a1.fst == (1 : Int))
            (gd [z1] (.ok ⟨vi, (((), ((0 : Int), ())), ((z2, ((), ())), (a1.snd, ())))⟩))
            (.ok ⟨vh, (((), ((0 : Int), ())), ((z2, ((), ())), (((64 : Int), ((7640891576939301192 : UInt64), ((13503953896175478587 : UInt64), ((4354685564936845355 : UInt64), ((11912009170470909681 : UInt64), ((5840696475078001361 : UInt64), ((11170449401992604703 : UInt64), ((7924071207369364504 : UInt64), ((3427420097777323800 : UInt64), ((), ((0 : UInt64), ()))))))))))), ([], ()))))⟩))))
      (.br (z0)
        (.ok ⟨fU, (((), ((81 : Int), ())), ())⟩)
        (.br (a1.fst == (1 : Int))
          (gd [z1] (.ok ⟨vi, (((), ((0 : Int), ())), ((z2, ((), ())), (a1.snd, ())))⟩))
          (.ok ⟨vh, (((), ((0 : Int), ())), ((z2, ((), ())), (((64 : Int), ((7640891576939301192 : UInt64), ((13503953896175478587 : UInt64), ((4354685564936845355 : UInt64), ((11912009170470909681 : UInt64), ((5840696475078001361 : UInt64), ((11170449401992604703 : UInt64), ((7924071207369364504 : UInt64), ((3427420097777323800 : UInt64), ((), ((0 : UInt64), ()))))))))))), ([], ()))))⟩))))))
theorem aoL (x : Iz) (Q : jL.Y → Prop) : wpf te xm au 1000 Try.f32 (jL.inp.inj x).tm (jL.inp.inj x).hp (aog jL Iy Q) (fun _ _ => False) = (K6 (x.1.1) (x.1.2.1)).wpR Q := by kernel_rfl
theorem aaT (pre : Iz → Bool) (F : Iz → OT jL.Y) (hF : ∀ (x : Iz) oy, pre x = true → (F x).run = some oy → (K6 (x.1.1) (x.1.2.1)).run = some oy) : aa Try.prog 32 (jL.aE pre F) :=
  M1 ak uw Sv (f := 32) (fn := Try.f32) (c := aj Try.f32) (by kernel_rfl) (by kernel_rfl) (by kernel_rfl) (S := jL) (k := 0) (by kernel_rfl) (fun R hR => ae) (n := 1000) (outs := Iy) (by kernel_rfl) (pre := pre) (F := F) (T := fun x => K6 (x.1.1) (x.1.2.1)) (fun x Q => aoL x Q) hF
def bf (c mode : Int) (n : Nat) : Int := cond (aA c) (cond ((mode == 0) || (mode == 1)) (cond (decide ((100000 : Int) < (n : Int))) 81 0) 80) 40
def bn : Int × UInt64 × UInt64 × UInt64 × UInt64 × UInt64 × UInt64 × UInt64 × UInt64 × Unit × UInt64 × Unit := (64, 7640891576939301192, 13503953896175478587, 4354685564936845355, 11912009170470909681, 5840696475078001361, 11170449401992604703, 7924071207369364504, 3427420097777323800, (), 0, ())
def OI (_ : Iz) : Bool := true
def fV (x : Iz) : OT jL.Y := .br (bf x.1.1 x.1.2.1.1 x.1.2.1.2.length == 0)
  (.br (x.1.2.1.1 == 1) (.ok ⟨vi, (((), ((0 : Int), ())), ((cp x.1.1 1, ((), ())), (x.1.2.1.2, ())))⟩) (.ok ⟨vh, (((), ((0 : Int), ())), ((cp x.1.1 1, ((), ())), (bn, ([], ()))))⟩))
  (.ok ⟨fU, (((), (bf x.1.1 x.1.2.1.1 x.1.2.1.2.length, ())), ())⟩)
theorem akh : aa Try.prog 32 (jL.aE OI fV) := aaT _ _ fun x oy _ ho => by
  rw [← ho]
  clear ho
  obtain ⟨⟨c, ⟨mode, l⟩, ⟨⟩⟩, ⟨⟩⟩ := x
  unfold K6
  cases hs : aA c
  · have he : bf c mode l.length = 40 := by unfold bf; rw [hs]; rfl
    have hF : (fV ((c, (mode, l), ()), ())).run = some ⟨fU, (((), ((40 : Int), ())), ())⟩ := by
      unfold fV
      rw [he]
      rfl
    rw [hF]
    by_cases h1 : c < 0
    · exact OT.aw (decide_eq_true h1)
    · refine (OT.al (decide_eq_false h1)).trans (OT.aw (decide_eq_true ?_))
      by_cases h2 : 3 < c
      · exact h2
      · have : aA c = true := by
          simp only [aA, Bool.and_eq_true, decide_eq_true_eq]
          omega
        rw [this] at hs; cases hs
  · have hc : 0 ≤ c ∧ c < 4 := by simpa [aA] using hs
    refine (OT.al (decide_eq_false (by dsimp only; omega))).trans ((OT.al (decide_eq_false (by dsimp only; omega))).trans ?_)
    by_cases h0 : mode = 0
    · subst h0
      refine (OT.al rfl).trans ?_
      cases hl : decide ((100000 : Int) < (l.length : Int))
      · have he : bf c 0 l.length = 0 := by unfold bf; rw [hs, hl]; rfl
        have hF : (fV ((c, (0, l), ()), ())).run = some ⟨vh, (((), ((0 : Int), ())), ((cp c 1, ((), ())), (bn, ([], ()))))⟩ := by
          unfold fV
          rw [he]
          rfl
        rw [hF]
        exact (OT.al rfl).trans ((OT.al rfl).trans rfl)
      · have he : bf c 0 l.length = 81 := by unfold bf; rw [hs, hl]; rfl
        have hF : (fV ((c, (0, l), ()), ())).run = some ⟨fU, (((), ((81 : Int), ())), ())⟩ := by
          unfold fV
          rw [he]
          rfl
        rw [hF]
        exact (OT.aw rfl).trans rfl
    · by_cases h1 : mode = 1
      · subst h1
        refine (OT.aw rfl).trans ((OT.al rfl).trans ?_)
        cases hl : decide ((100000 : Int) < (l.length : Int))
        · have he : bf c 1 l.length = 0 := by unfold bf; rw [hs, hl]; rfl
          have hF : (fV ((c, (1, l), ()), ())).run = some ⟨vi, (((), ((0 : Int), ())), ((cp c 1, ((), ())), (l, ())))⟩ := by
            unfold fV
            rw [he]
            rfl
          rw [hF]
          refine (OT.al rfl).trans ((OT.aw rfl).trans ((ah ?_).trans rfl))
          have hl' : ¬ (100000 : Int) < (l.length : Int) := of_decide_eq_false hl
          simp only [List.all_cons, List.all_nil, Bool.and_true]
          exact decide_eq_true (show l.length * 32 ≤ 140737488355328 by omega)
        · have he : bf c 1 l.length = 81 := by unfold bf; rw [hs, hl]; rfl
          have hF : (fV ((c, (1, l), ()), ())).run = some ⟨fU, (((), ((81 : Int), ())), ())⟩ := by
            unfold fV
            rw [he]
            rfl
          rw [hF]
          exact (OT.aw rfl).trans rfl
      · have b0 : (mode == 0) = false := by simpa using h0
        have b1 : (mode == 1) = false := by simpa using h1
        have he : bf c mode l.length = 80 := by unfold bf; rw [hs, b0, b1]; rfl
        have hF : (fV ((c, (mode, l), ()), ())).run = some ⟨fU, (((), ((80 : Int), ())), ())⟩ := by
          unfold fV
          rw [he]
          rfl
        rw [hF]
        exact (OT.aw (by simp [b0])).trans ((OT.aw (by simp [b1])).trans rfl)
def yG : bL := (jL.aE OI fV)
theorem TA : aa Try.prog 32 yG := akh
theorem Tz : aB yG := ax
def GD : Env := av 32 yG xm
theorem AB : aN Try.prog GD := ag TA uw
theorem BN : aq GD := ab Tz xl
theorem WI : aU Try.prog te GD := aG follows ak AB BN
def fT : ao := ⟨[.val false .int, .val true (.prod .int (.list .elem))], [], true, 0, false⟩
abbrev yC : Type := ((Int) × ((Int × List (af))) × Unit) × (Unit)
def Dr : ar := ⟨[.ptr 0 0 0, .val false .int], [(0, .cells [.val false .int, .ifp 98 1, .own 2]), (1, .cells [.val false .int, .own 3]), (2, .row .u8), (3, .row .elem)], false⟩
def Dq : ar := ⟨[.ptr 0 0 0, .val false .int], [(0, .cells [.val false .int, .ifp 106 1, .own 2]), (1, .cells [.val false .int, .ptr 3 0 0]), (2, .row .u8), (3, .cells [.val false .int, .val false .u64, .val false .u64, .val false .u64, .val false .u64, .val false .u64, .val false .u64, .val false .u64, .val false .u64, .own 4, .val false .u64]), (4, .row .u8)], false⟩
def Dp : ar := ⟨[.od, .val false .int], [], false⟩
def OB : ar := ⟨[.ptr 0 0 0, .val false .int], [(0, .cells [.val false .int, .dj, .own 1]), (1, .row .u8)], false⟩
def Dn : List ar := [Dr, Dq, Dp, OB]
def CA (a0 : Int) (a1 : (Int × List (af))) : OT fT.Y :=
  let z0 : Int := bf a0 a1.fst (List.length a1.snd)
  let z1 : Int := cp a0 (1 : Int)
  (.br (z0 == (0 : Int))
  (.br (a1.fst == (1 : Int))
    (.ok ⟨Dr, (((), ((0 : Int), ())), ((a0, ((), ((), ()))), ((z1, ((), ())), ([], (a1.snd, ())))))⟩)
    (.ok ⟨Dq, (((), ((0 : Int), ())), ((a0, ((), ((), ()))), ((z1, ((), ())), ([], (((64 : Int), ((7640891576939301192 : UInt64), ((13503953896175478587 : UInt64), ((4354685564936845355 : UInt64), ((11912009170470909681 : UInt64), ((5840696475078001361 : UInt64), ((11170449401992604703 : UInt64), ((7924071207369364504 : UInt64), ((3427420097777323800 : UInt64), ((), ((0 : UInt64), ()))))))))))), ([], ()))))))⟩))
  (.br (!z0 == (0 : Int))
    (.ok ⟨Dp, (((), (z0, ())), ())⟩)
    (.ok ⟨OB, (((), ((0 : Int), ())), ((a0, ((), ((), ()))), ([], ())))⟩)))
theorem ake (x : yC) (Q : fT.Y → Prop) : wpf te GD au 1000 Try.f9 (fT.inp.inj x).tm (fT.inp.inj x).hp (aog fT Dn Q) (fun _ _ => False) = (CA (x.1.1) (x.1.2.1)).wpR Q := by kernel_rfl
theorem To (pre : yC → Bool) (F : yC → OT fT.Y) (hF : ∀ (x : yC) oy, pre x = true → (F x).run = some oy → (CA (x.1.1) (x.1.2.1)).run = some oy) : aa Try.prog 9 (fT.aE pre F) :=
  M1 ak AB WI (f := 9) (fn := Try.f9) (c := aj Try.f9) (by kernel_rfl) (by kernel_rfl) (by kernel_rfl) (S := fT) (k := 0) (by kernel_rfl) (fun R hR => ae) (n := 1000) (outs := Dn) (by kernel_rfl) (pre := pre) (F := F) (T := fun x => CA (x.1.1) (x.1.2.1)) (fun x Q => ake x Q) hF
def It (_ : yC) : Bool := true
def K4 (x : yC) : OT fT.Y := .br (bf x.1.1 x.1.2.1.1 x.1.2.1.2.length == 0)
  (.br (x.1.2.1.1 == 1) (.ok ⟨Dr, (((), ((0 : Int), ())), ((x.1.1, ((), ((), ()))), ((cp x.1.1 1, ((), ())), ([], (x.1.2.1.2, ())))))⟩)
    (.ok ⟨Dq, (((), ((0 : Int), ())), ((x.1.1, ((), ((), ()))), ((cp x.1.1 1, ((), ())), ([], (bn, ([], ()))))))⟩))
  (.ok ⟨Dp, (((), (bf x.1.1 x.1.2.1.1 x.1.2.1.2.length, ())), ())⟩)
theorem aeg : aa Try.prog 9 (fT.aE It K4) := To _ _ fun x oy _ ho => by
  rw [← ho]
  clear ho
  obtain ⟨⟨c, ⟨mode, l⟩, ⟨⟩⟩, ⟨⟩⟩ := x
  unfold CA K4
  by_cases he : (bf c mode l.length == 0) = true
  · refine (OT.aw he).trans (Eq.trans ?_ (OT.aw he).symm)
    by_cases hm : (mode == 1) = true
    · exact (OT.aw hm).trans (OT.aw hm).symm
    · have hm := Bool.eq_false_iff.2 hm
      exact (OT.al hm).trans (OT.al hm).symm
  · have he := Bool.eq_false_iff.2 he
    exact (OT.al he).trans ((OT.aw (by show (!(bf c mode l.length == 0)) = true; rw [he]; rfl)).trans (OT.al he).symm)
def s9 : bL := (Dy [1] 1 (fT.aE It K4))
theorem OC : aa Try.prog 9 s9 := (aaY aeg)
theorem OA : aB s9 := (OS ax)
def xg : Env := av 9 s9 GD
theorem ur : aN Try.prog xg := ag OC AB
theorem xf : aq xg := ab OA BN
theorem Sq : aU Try.prog te xg := aG follows ak ur xf
def jP : ao := ⟨[.ptr 0 0 0], [(0, .cells [.val false .int, .ifp 98 1, .own 2]), (1, .cells [.val false .int, .val false (.list .elem)]), (2, .row .u8)], false, 3, true⟩
abbrev IH : Type := ((Unit) × Unit) × (((Int) × (Unit) × (Unit) × Unit) × ((Int) × (List (af)) × Unit) × (List (UInt8)) × Unit)
def Ld : ar := ⟨[.val true .elem, .val false .int], [(0, .cells [.val false .int, .ifp 98 1, .own 2]), (1, .cells [.val false .int, .val false (.list .elem)]), (2, .row .u8)], false⟩
def OU : SV → Option ar := fun _ => some Ld
def TN (c0_0 : Int) (c1_0 : Int) (c1_1 : List (af)) (c2 : List (UInt8)) : OT jP.Y :=
  let z0 : af × Int × List af := dA c1_1
  let z1 := z0.snd
  (gd [yJ (((), ()), (c1_0, c1_1, ()), ())] (.ok ⟨Ld, ((su (pS c1_0) z0.fst { w0 := 0, w1 := 0, w2 := 0, w3 := 0 }, (z1.fst, ())), ((c0_0, ((), ((), ()))), ((c1_0, (z1.snd, ())), (c2, ()))))⟩))
theorem ap6 (x : IH) (Q : jP.Y → Prop) : wpf te xg au 1000 Try.f14 (jP.inp.inj x).tm (jP.inp.inj x).hp (fnK jP OU Q) (fun _ _ => False) = (TN (x.2.1.1) (x.2.2.1.1) (x.2.2.1.2.1) (x.2.2.2.1)).wpR Q := by kernel_rfl
theorem aaZ (pre : IH → Bool) (F : IH → OT jP.Y) (hF : ∀ (x : IH) oy, pre x = true → (F x).run = some oy → (TN (x.2.1.1) (x.2.2.1.1) (x.2.2.1.2.1) (x.2.2.2.1)).run = some oy) : aa Try.prog 14 (jP.aE pre F) :=
  az ak ur Sq (f := 14) (fn := Try.f14) (c := aj Try.f14) (by kernel_rfl) (by kernel_rfl) (by kernel_rfl) (S := jP) (k := 3) (by kernel_rfl) (fun R hR => ae) (n := 1000) (sel := OU) (fun v o h => by cases h; rfl) (pre := pre) (F := F) (T := fun x => TN (x.2.1.1) (x.2.2.1.1) (x.2.2.1.2.1) (x.2.2.2.1)) (fun x Q => ap6 x Q) hF
def iu (x : IH) : Bool := aA x.2.2.1.1 && decide (x.2.2.1.2.1.length ≤ 140737488355328)
def afH (x : IH) : OT jP.Y := .ok ⟨Ld, ((su (pS x.2.2.1.1) (dA x.2.2.1.2.1).1 ⟨0, 0, 0, 0⟩, ((dA x.2.2.1.2.1).2.1, ())), ((x.2.1.1, ((), ((), ()))), ((x.2.2.1.1, ((dA x.2.2.1.2.1).2.2, ())), (x.2.2.2.1, ()))))⟩
theorem alz : aa Try.prog 14 (jP.aE iu afH) := aaZ _ _ fun x oy hp ho => by
  rw [← ho]
  clear ho
  obtain ⟨⟨⟨⟩, ⟨⟩⟩, ⟨⟨c, ⟨⟩, ⟨⟩, ⟨⟩⟩, ⟨s, l, ⟨⟩⟩, o, ⟨⟩⟩⟩ := x
  refine (ah ?_).trans rfl
  simp only [List.all_cons, List.all_nil, Bool.and_true]
  exact hp
def qM : bL := (jP.aE iu afH)
theorem DB : aa Try.prog 14 qM := alz
theorem DA : aB qM := ax
def GH : Env := av 14 qM xg
theorem AE : aN Try.prog GH := ag DB ur
theorem BT : aq GH := ab DA xf
theorem WL : aU Try.prog te GH := aG follows ak AE BT
def oA : ao := ⟨[.ptr 0 0 0, .val false .u8, .val false (.list .u8)], [(0, .cells [.val false .int, .ifp 98 1, .own 2]), (1, .cells [.val false .int, .val false (.list .elem)]), (2, .row .u8)], false, 2, true⟩
abbrev aaS : Type := ((Unit) × (UInt8) × (List (UInt8)) × Unit) × (((Int) × (Unit) × (Unit) × Unit) × ((Int) × (List (af)) × Unit) × (List (UInt8)) × Unit)
def Tv : ar := ⟨[], [(0, .cells [.val false .int, .ifp 98 1, .own 2]), (1, .cells [.val false .int, .val false (.list .elem)]), (2, .row .u8)], false⟩
def Xr : SV → Option ar := fun _ => some Tv
def aek (a1 : UInt8) (a2 : List (UInt8)) (c0_0 : Int) (c1_0 : Int) (c1_1 : List (af)) (c2 : List (UInt8)) : OT oA.Y :=
  (gd [decide ((List.length c2 + List.length a2) * 1 ≤ 140737488355328)] (.ok ⟨Tv, ((), ((c0_0, ((), ((), ()))), ((c1_0, (c1_1, ())), (c2 ++ a2, ()))))⟩))
theorem asn (x : aaS) (Q : oA.Y → Prop) : wpf te GH au 1000 Try.f35 (oA.inp.inj x).tm (oA.inp.inj x).hp (fnK oA Xr Q) (fun _ _ => False) = (aek (x.1.2.1) (x.1.2.2.1) (x.2.1.1) (x.2.2.1.1) (x.2.2.1.2.1) (x.2.2.2.1)).wpR Q := by kernel_rfl
theorem aej (pre : aaS → Bool) (F : aaS → OT oA.Y) (hF : ∀ (x : aaS) oy, pre x = true → (F x).run = some oy → (aek (x.1.2.1) (x.1.2.2.1) (x.2.1.1) (x.2.2.1.1) (x.2.2.1.2.1) (x.2.2.2.1)).run = some oy) : aa Try.prog 35 (oA.aE pre F) :=
  az ak AE WL (f := 35) (fn := Try.f35) (c := aj Try.f35) (by kernel_rfl) (by kernel_rfl) (by kernel_rfl) (S := oA) (k := 3) (by kernel_rfl) (fun R hR => ae) (n := 1000) (sel := Xr) (fun v o h => by cases h; rfl) (pre := pre) (F := F) (T := fun x => aek (x.1.2.1) (x.1.2.2.1) (x.2.1.1) (x.2.2.1.1) (x.2.2.1.2.1) (x.2.2.2.1)) (fun x Q => asn x Q) hF
def mY (x : aaS) : Bool := decide (x.2.2.2.1.length + x.1.2.2.1.length ≤ 140737488355328)
def anP (x : aaS) : OT oA.Y := .ok ⟨Tv, ((), ((x.2.1.1, ((), ((), ()))), ((x.2.2.1.1, (x.2.2.1.2.1, ())), (x.2.2.2.1 ++ x.1.2.2.1, ()))))⟩
theorem aoK : aa Try.prog 35 (oA.aE mY anP) := aej _ _ fun x oy hp ho => by
  rw [← ho]
  clear ho
  obtain ⟨⟨⟨⟩, m, b, ⟨⟩⟩, ⟨⟨c, ⟨⟩, ⟨⟩, ⟨⟩⟩, ⟨s, l, ⟨⟩⟩, o, ⟨⟩⟩⟩ := x
  have hp' : o.length + b.length ≤ 140737488355328 := of_decide_eq_true hp
  refine (ah ?_).trans rfl
  simp only [List.all_cons, List.all_nil, Bool.and_true]
  exact decide_eq_true (by omega)
def ve : bL := (oC 2 (oA.aE mY anP))
theorem Iw : aa Try.prog 35 ve := (qL aoK)
theorem Iv : aB ve := (kL ax)
def Sr : Env := av 35 ve GH
theorem GB : aN Try.prog Sr := ag Iw AE
theorem GC : aq Sr := ab Iv BT
theorem adA : aU Try.prog te Sr := aG follows ak GB GC
def dG : ao := ⟨[.ptr 0 0 0, .val true .elem], [(0, .cells [.val false .int, .ifp 98 1, .own 2]), (1, .cells [.val false .int, .val false (.list .elem)]), (2, .row .u8)], false, 2, true⟩
abbrev qI : Type := ((Unit) × (af) × Unit) × (((Int) × (Unit) × (Unit) × Unit) × ((Int) × (List (af)) × Unit) × (List (UInt8)) × Unit)
def gZ : ar := ⟨[], [(0, .cells [.val false .int, .ifp 98 1, .own 2]), (1, .cells [.val false .int, .val false (.list .elem)]), (2, .row .u8)], false⟩
def Ds : SV → Option ar := fun _ => some gZ
def Dt (a1 : af) (c0_0 : Int) (c1_0 : Int) (c1_1 : List (af)) (c2 : List (UInt8)) : OT dG.Y :=
  let z0 : Int := cp c0_0 (1 : Int)
  let z1 : List UInt8 := sr (ofN (af.nat a1 % af.nat (dk (Int.toNat z0)).fst))
  let z2 : (Int × PUnit × PUnit × PUnit) × (Int × List af × PUnit) × List UInt8 × PUnit := ((c0_0, (), (), ()), (c1_0, c1_1, ()), c2, ())
  (.br (aA z0)
  (gd [mY (((), (2 : UInt8), z1, ()), z2)] (.ok ⟨gZ, ((), ((c0_0, ((), ((), ()))), ((c1_0, (c1_1, ())), (c2 ++ z1, ()))))⟩))
  (gd [mY (((), (2 : UInt8), [], ()), z2)] (.ok ⟨gZ, ((), ((c0_0, ((), ((), ()))), ((c1_0, (c1_1, ())), (c2 ++ [], ()))))⟩)))
theorem aei (x : qI) (Q : dG.Y → Prop) : wpf te Sr au 1000 Try.f12 (dG.inp.inj x).tm (dG.inp.inj x).hp (fnK dG Ds Q) (fun _ _ => False) = (Dt (x.1.2.1) (x.2.1.1) (x.2.2.1.1) (x.2.2.1.2.1) (x.2.2.2.1)).wpR Q := by kernel_rfl
theorem OG (pre : qI → Bool) (F : qI → OT dG.Y) (hF : ∀ (x : qI) oy, pre x = true → (F x).run = some oy → (Dt (x.1.2.1) (x.2.1.1) (x.2.2.1.1) (x.2.2.1.2.1) (x.2.2.2.1)).run = some oy) : aa Try.prog 12 (dG.aE pre F) :=
  az ak GB adA (f := 12) (fn := Try.f12) (c := aj Try.f12) (by kernel_rfl) (by kernel_rfl) (by kernel_rfl) (S := dG) (k := 3) (by kernel_rfl) (fun R hR => ae) (n := 1000) (sel := Ds) (fun v o h => by cases h; rfl) (pre := pre) (F := F) (T := fun x => Dt (x.1.2.1) (x.2.1.1) (x.2.2.1.1) (x.2.2.1.2.1) (x.2.2.2.1)) (fun x Q => aei x Q) hF
def bI (c : Int) (v : af) : List UInt8 := sr (ofN (v.nat % (dk (cp c 1).toNat).1.nat))
def fC (x : qI) : Bool := aA (cp x.2.1.1 1) && decide (x.2.2.2.1.length ≤ 140737488350000)
def OH (x : qI) : OT dG.Y := .ok ⟨gZ, ((), ((x.2.1.1, ((), ((), ()))), ((x.2.2.1.1, (x.2.2.1.2.1, ())), (x.2.2.2.1 ++ bI x.2.1.1 x.1.2.1, ()))))⟩
theorem Tu (c s : Int) (l : List af) (o b : List UInt8) (k : Bool) (hk : k = true) (hb : b.length = 32) (ho : o.length ≤ 140737488350000) :
    (OT.br k (gd [mY (((), (2 : UInt8), b, ()), ((c, (), (), ()), (s, l, ()), o, ()))] (.ok ⟨gZ, ((), ((c, ((), ((), ()))), ((s, (l, ())), (o ++ b, ()))))⟩))
      (gd [mY (((), (2 : UInt8), [], ()), ((c, (), (), ()), (s, l, ()), o, ()))] (.ok ⟨gZ, ((), ((c, ((), ((), ()))), ((s, (l, ())), (o ++ [], ()))))⟩)) : OT dG.Y).run
    = (OT.ok ⟨gZ, ((), ((c, ((), ((), ()))), ((s, (l, ())), (o ++ b, ()))))⟩ : OT dG.Y).run := by
  refine (OT.aw hk).trans (ah ?_)
  simp only [List.all_cons, List.all_nil, Bool.and_true]
  exact decide_eq_true (by dsimp only; omega)
theorem aaR : aa Try.prog 12 (dG.aE fC OH) := OG _ _ fun x oy hp ho => by
  rw [← ho]
  clear ho
  obtain ⟨⟨⟨⟩, v, ⟨⟩⟩, ⟨⟨c, ⟨⟩, ⟨⟩, ⟨⟩⟩, ⟨s, l, ⟨⟩⟩, o, ⟨⟩⟩⟩ := x
  have hp' : (aA (cp c 1) && decide (o.length ≤ 140737488350000)) = true := hp
  rw [Bool.and_eq_true] at hp'
  have ho' := of_decide_eq_true hp'.2
  exact Tu c s l o (bI c v) (aA (cp c 1)) hp'.1 (kn _) ho'
def kK : bL := (dG.aE fC OH)
theorem vd : aa Try.prog 12 kK := aaR
theorem vc : aB kK := ax
def qg : Env := av 12 kK Sr
theorem qf : aN Try.prog qg := ag vd GB
theorem sN : aq qg := ab vc GC
theorem NU : aU Try.prog te qg := aG follows ak qf sN
def fZ : ao := ⟨[.ptr 0 0 0], [(0, .cells [.val false .int, .ifp 98 1, .own 2]), (1, .cells [.val false .int, .val false (.list .elem)]), (2, .row .u8)], false, 3, true⟩
abbrev yN : Type := ((Unit) × Unit) × (((Int) × (Unit) × (Unit) × Unit) × ((Int) × (List (af)) × Unit) × (List (UInt8)) × Unit)
def DC : ar := ⟨[.own 3], [(0, .cells [.val false .int, .ifp 98 1, .own 2]), (1, .cells [.val false .int, .val false (.list .elem)]), (2, .row .u8), (3, .row .u8)], false⟩
def II : SV → Option ar := fun _ => some DC
def Le (c0_0 : Int) (c1_0 : Int) (c1_1 : List (af)) (c2 : List (UInt8)) : OT fZ.Y :=
  (gd [ij ((c2, ()), ())] (.ok ⟨DC, (((), ()), ((c0_0, ((), ((), ()))), ((c1_0, (c1_1, ())), (c2, (c2, ())))))⟩))
theorem alA (x : yN) (Q : fZ.Y → Prop) : wpf te qg au 1000 Try.f16 (fZ.inp.inj x).tm (fZ.inp.inj x).hp (fnK fZ II Q) (fun _ _ => False) = (Le (x.2.1.1) (x.2.2.1.1) (x.2.2.1.2.1) (x.2.2.2.1)).wpR Q := by kernel_rfl
theorem TO (pre : yN → Bool) (F : yN → OT fZ.Y) (hF : ∀ (x : yN) oy, pre x = true → (F x).run = some oy → (Le (x.2.1.1) (x.2.2.1.1) (x.2.2.1.2.1) (x.2.2.2.1)).run = some oy) : aa Try.prog 16 (fZ.aE pre F) :=
  az ak qf NU (f := 16) (fn := Try.f16) (c := aj Try.f16) (by kernel_rfl) (by kernel_rfl) (by kernel_rfl) (S := fZ) (k := 3) (by kernel_rfl) (fun R hR => ae) (n := 1000) (sel := II) (fun v o h => by cases h; rfl) (pre := pre) (F := F) (T := fun x => Le (x.2.1.1) (x.2.2.1.1) (x.2.2.1.2.1) (x.2.2.2.1)) (fun x Q => alA x Q) hF
def dH (x : yN) : Bool := ij ((x.2.2.2.1, ()), ())
def YE (x : yN) : OT fZ.Y := .ok ⟨DC, (((), ()), ((x.2.1.1, ((), ((), ()))), ((x.2.2.1.1, (x.2.2.1.2.1, ())), (x.2.2.2.1, (x.2.2.2.1, ())))))⟩
theorem afI : aa Try.prog 16 (fZ.aE dH YE) := TO _ _ fun x oy hp ho => by
  rw [← ho]
  clear ho
  obtain ⟨⟨⟨⟩, ⟨⟩⟩, ⟨⟨c, ⟨⟩, ⟨⟩, ⟨⟩⟩, ⟨s, l, ⟨⟩⟩, o, ⟨⟩⟩⟩ := x
  refine ah ?_
  simp only [List.all_cons, List.all_nil, Bool.and_true]
  exact hp
def m5 : bL := (fZ.aE dH YE)
theorem Bc : aa Try.prog 16 m5 := afI
theorem Bb : aB m5 := ax
def xq : Env := av 16 m5 qg
theorem uA : aN Try.prog xq := ag Bc qf
theorem xp : aq xq := ab Bb sN
theorem Sy : aU Try.prog te xq := aG follows ak uA xp
def aua : CSh := .cells [.val false .int, .ptr 1 0 0]
def ke : ao := ⟨[.ptr 0 0 0, .val false .u8, .val false (.list .u8)], [(0, aua), (1, adP (.own 2)), (2, .row .u8)], true, 2, true⟩
abbrev JJ : Type := ((Unit) × (UInt8) × (List (UInt8)) × Unit) × (((Int) × (Unit) × Unit) × ((Int) × (UInt64) × (UInt64) × (UInt64) × (UInt64) × (UInt64) × (UInt64) × (UInt64) × (UInt64) × (Unit) × (UInt64) × Unit) × (List (UInt8)) × Unit)
def MH : ar := ⟨[], [(0, .cells [.val false .int, .ptr 1 0 0]), (1, .cells [.val false .int, .val false .u64, .val false .u64, .val false .u64, .val false .u64, .val false .u64, .val false .u64, .val false .u64, .val false .u64, .own 2, .val false .u64]), (2, .row .u8)], false⟩
def QA : SV → Option ar := fun _ => some MH
def Vi (a1 : UInt8) (a2 : List (UInt8)) (c0_0 : Int) (c1_0 : Int) (c1_1 : UInt64) (c1_2 : UInt64) (c1_3 : UInt64) (c1_4 : UInt64) (c1_5 : UInt64) (c1_6 : UInt64) (c1_7 : UInt64) (c1_8 : UInt64) (c1_10 : UInt64) (c2 : List (UInt8)) : OT ke.Y :=
  let z0 : Int × UInt64 × UInt64 × UInt64 × UInt64 × UInt64 × UInt64 × UInt64 × UInt64 × PUnit × UInt64 × PUnit := (c1_0, c1_1, c1_2, c1_3, c1_4, c1_5, c1_6, c1_7, c1_8, (), c1_10, ())
  let z1 : List UInt64 × UInt64 × List UInt8 := gU (tH z0 c2) ([a1] ++ a2)
  let z2 := z1.snd
  let z3 : Int × UInt64 × UInt64 × UInt64 × UInt64 × UInt64 × UInt64 × UInt64 × UInt64 × PUnit × UInt64 × PUnit := arA c1_0 z1.fst z2.fst
  let z4 := z3.snd
  let z5 := z4.snd
  let z6 := z5.snd
  let z7 := z6.snd
  let z8 := z7.snd
  let z9 := z8.snd
  let z10 := z9.snd
  let z11 := z10.snd
  (gd [decide ((1 + List.length a2) * 1 ≤ 140737488355328), Ae (((), [a1] ++ a2, ()), z0, c2, ())] (.ok ⟨MH, ((), ((c0_0, ((), ())), ((z3.fst, (z4.fst, (z5.fst, (z6.fst, (z7.fst, (z8.fst, (z9.fst, (z10.fst, (z11.fst, ((), (z11.snd.snd.fst, ()))))))))))), (z2.snd, ()))))⟩))
theorem aq1 (x : JJ) (Q : ke.Y → Prop) : wpf te xq au 1000 Try.f121 (ke.inp.inj x).tm (ke.inp.inj x).hp (fnK ke QA Q) (fun _ _ => False) = (Vi (x.1.2.1) (x.1.2.2.1) (x.2.1.1) (x.2.2.1.1) (x.2.2.1.2.1) (x.2.2.1.2.2.1) (x.2.2.1.2.2.2.1) (x.2.2.1.2.2.2.2.1) (x.2.2.1.2.2.2.2.2.1) (x.2.2.1.2.2.2.2.2.2.1) (x.2.2.1.2.2.2.2.2.2.2.1) (x.2.2.1.2.2.2.2.2.2.2.2.1) (x.2.2.1.2.2.2.2.2.2.2.2.2.2.1) (x.2.2.2.1)).wpR Q := by kernel_rfl
theorem acf (pre : JJ → Bool) (F : JJ → OT ke.Y) (hF : ∀ (x : JJ) oy, pre x = true → (F x).run = some oy → (Vi (x.1.2.1) (x.1.2.2.1) (x.2.1.1) (x.2.2.1.1) (x.2.2.1.2.1) (x.2.2.1.2.2.1) (x.2.2.1.2.2.2.1) (x.2.2.1.2.2.2.2.1) (x.2.2.1.2.2.2.2.2.1) (x.2.2.1.2.2.2.2.2.2.1) (x.2.2.1.2.2.2.2.2.2.2.1) (x.2.2.1.2.2.2.2.2.2.2.2.1) (x.2.2.1.2.2.2.2.2.2.2.2.2.2.1) (x.2.2.2.1)).run = some oy) : aa Try.prog 121 (ke.aE pre F) :=
  az ak uA Sy (f := 121) (fn := Try.f121) (c := aj Try.f121) (by kernel_rfl) (by kernel_rfl) (by kernel_rfl) (S := ke) (k := 3) (by kernel_rfl) (fun R hR => ae) (n := 1000) (sel := QA) (fun v o h => by cases h; rfl) (pre := pre) (F := F) (T := fun x => Vi (x.1.2.1) (x.1.2.2.1) (x.2.1.1) (x.2.2.1.1) (x.2.2.1.2.1) (x.2.2.1.2.2.1) (x.2.2.1.2.2.2.1) (x.2.2.1.2.2.2.2.1) (x.2.2.1.2.2.2.2.2.1) (x.2.2.1.2.2.2.2.2.2.1) (x.2.2.1.2.2.2.2.2.2.2.1) (x.2.2.1.2.2.2.2.2.2.2.2.1) (x.2.2.1.2.2.2.2.2.2.2.2.2.2.1) (x.2.2.2.1)) (fun x Q => aq1 x Q) hF
def eM (d : Ig) (w : List UInt8) (m : UInt8) (b : List UInt8) : Ig × List UInt8 := (arA d.1 (gU (tH d w) ([m] ++ b)).1 (gU (tH d w) ([m] ++ b)).2.1, (gU (tH d w) ([m] ++ b)).2.2)
def mj (x : JJ) : Bool := decide (x.2.2.2.1.length + x.1.2.2.1.length ≤ 140737488350000)
def ahJ (x : JJ) : OT ke.Y := .ok ⟨MH, ((), ((x.2.1.1, ((), ())), ((eM x.2.2.1 x.2.2.2.1 x.1.2.1 x.1.2.2.1).1, ((eM x.2.2.1 x.2.2.2.1 x.1.2.1 x.1.2.2.1).2, ()))))⟩
theorem amA : aa Try.prog 121 (ke.aE mj ahJ) := acf _ _ fun x oy hp ho => by
  rw [← ho]
  clear ho
  obtain ⟨⟨⟨⟩, m, b, ⟨⟩⟩, ⟨⟨s, ⟨⟩, ⟨⟩⟩, ⟨n, h0, h1, h2, h3, h4, h5, h6, h7, ⟨⟩, c, ⟨⟩⟩, w, ⟨⟩⟩⟩ := x
  have hp' : w.length + b.length ≤ 140737488350000 := of_decide_eq_true hp
  refine (ah ?_).trans rfl
  simp only [List.all_cons, List.all_nil, Bool.and_true, Bool.and_eq_true]
  refine ⟨decide_eq_true (by omega), decide_eq_true ?_⟩
  show w.length + ([m] ++ b).length ≤ _
  rw [List.length_append]
  simp only [List.length_cons, List.length_nil]
  omega
def zN : bL := (oC 2 (ke.aE mj ahJ))
theorem Vh : aa Try.prog 121 zN := (qL amA)
theorem Vg : aB zN := (kL ax)
def G5 : Env := av 121 zN xq
theorem AQ : aN Try.prog G5 := ag Vh uA
theorem B6 : aq G5 := ab Vg xp
theorem WW : aU Try.prog te G5 := aG follows ak AQ B6
def kg : ao := ⟨[.ptr 0 0 0], [(0, aua), (1, adP (.own 2)), (2, .row .u8)], false, 2, true⟩
abbrev JL : Type := ((Unit) × Unit) × (((Int) × (Unit) × Unit) × ((Int) × (UInt64) × (UInt64) × (UInt64) × (UInt64) × (UInt64) × (UInt64) × (UInt64) × (UInt64) × (Unit) × (UInt64) × Unit) × (List (UInt8)) × Unit)
def wq : ar := ⟨[.val true .elem, .val false .int], [(0, .cells [.val false .int, .ptr 1 0 0]), (1, .cells [.val false .int, .val false .u64, .val false .u64, .val false .u64, .val false .u64, .val false .u64, .val false .u64, .val false .u64, .val false .u64, .own 2, .val false .u64]), (2, .row .u8)], false⟩
def QG : SV → Option ar := fun _ => some wq
def Vo (c0_0 : Int) (c1_0 : Int) (c1_1 : UInt64) (c1_2 : UInt64) (c1_3 : UInt64) (c1_4 : UInt64) (c1_5 : UInt64) (c1_6 : UInt64) (c1_7 : UInt64) (c1_8 : UInt64) (c1_10 : UInt64) (c2 : List (UInt8)) : OT kg.Y :=
  let z0 : Int × UInt64 × UInt64 × UInt64 × UInt64 × UInt64 × UInt64 × UInt64 × UInt64 × PUnit × UInt64 × PUnit := (c1_0, c1_1, c1_2, c1_3, c1_4, c1_5, c1_6, c1_7, c1_8, (), c1_10, ())
  let z1 : (Int × UInt64 × UInt64 × UInt64 × UInt64 × UInt64 × UInt64 × UInt64 × UInt64 × PUnit × UInt64 × PUnit) × List UInt8 := eM z0 c2 (0 : UInt8) []
  let z2 := z1.fst
  let z3 := z2.fst
  let z4 := z2.snd
  let z5 := z4.fst
  let z6 := z4.snd
  let z7 := z6.fst
  let z8 := z6.snd
  let z9 := z8.fst
  let z10 := z8.snd
  let z11 := z10.fst
  let z12 := z10.snd
  let z13 := z12.fst
  let z14 := z12.snd
  let z15 := z14.fst
  let z16 := z14.snd
  let z17 := z16.fst
  let z18 := z16.snd
  let z19 := z18.fst
  let z20 := z18.snd.snd.fst
  let z21 : Int × UInt64 × UInt64 × UInt64 × UInt64 × UInt64 × UInt64 × UInt64 × UInt64 × PUnit × UInt64 × PUnit := (z3, z5, z7, z9, z11, z13, z15, z17, z19, (), z20, ())
  let z22 := z1.snd
  let z23 : List UInt8 := ajZ z3 (tH z21 z22)
  let z24 : af := { w0 := 0, w1 := 0, w2 := 0, w3 := 0 }
  (gd [mj (((), (0 : UInt8), [], ()), (c0_0, (), ()), z0, c2, ()), Ns (((), ()), z21, z22, ())] (.br (aA c0_0)
  (.br (so z23)
    (.ok ⟨wq, ((s7 c0_0 z23, ((0 : Int), ())), ((c0_0, ((), ())), ((z3, (z5, (z7, (z9, (z11, (z13, (z15, (z17, (z19, ((), (z20, ()))))))))))), (z22, ()))))⟩)
    (.ok ⟨wq, ((z24, ((21 : Int), ())), ((c0_0, ((), ())), ((z3, (z5, (z7, (z9, (z11, (z13, (z15, (z17, (z19, ((), (z20, ()))))))))))), (z22, ()))))⟩))
  (.ok ⟨wq, ((z24, ((20 : Int), ())), ((c0_0, ((), ())), ((z3, (z5, (z7, (z9, (z11, (z13, (z15, (z17, (z19, ((), (z20, ()))))))))))), (z22, ()))))⟩)))
theorem aq3 (x : JL) (Q : kg.Y → Prop) : wpf te G5 au 1000 Try.f120 (kg.inp.inj x).tm (kg.inp.inj x).hp (fnK kg QG Q) (fun _ _ => False) = (Vo (x.2.1.1) (x.2.2.1.1) (x.2.2.1.2.1) (x.2.2.1.2.2.1) (x.2.2.1.2.2.2.1) (x.2.2.1.2.2.2.2.1) (x.2.2.1.2.2.2.2.2.1) (x.2.2.1.2.2.2.2.2.2.1) (x.2.2.1.2.2.2.2.2.2.2.1) (x.2.2.1.2.2.2.2.2.2.2.2.1) (x.2.2.1.2.2.2.2.2.2.2.2.2.2.1) (x.2.2.2.1)).wpR Q := by kernel_rfl
theorem ack (pre : JL → Bool) (F : JL → OT kg.Y) (hF : ∀ (x : JL) oy, pre x = true → (F x).run = some oy → (Vo (x.2.1.1) (x.2.2.1.1) (x.2.2.1.2.1) (x.2.2.1.2.2.1) (x.2.2.1.2.2.2.1) (x.2.2.1.2.2.2.2.1) (x.2.2.1.2.2.2.2.2.1) (x.2.2.1.2.2.2.2.2.2.1) (x.2.2.1.2.2.2.2.2.2.2.1) (x.2.2.1.2.2.2.2.2.2.2.2.1) (x.2.2.1.2.2.2.2.2.2.2.2.2.2.1) (x.2.2.2.1)).run = some oy) : aa Try.prog 120 (kg.aE pre F) :=
  az ak AQ WW (f := 120) (fn := Try.f120) (c := aj Try.f120) (by kernel_rfl) (by kernel_rfl) (by kernel_rfl) (S := kg) (k := 3) (by kernel_rfl) (fun R hR => ae) (n := 1000) (sel := QG) (fun v o h => by cases h; rfl) (pre := pre) (F := F) (T := fun x => Vo (x.2.1.1) (x.2.2.1.1) (x.2.2.1.2.1) (x.2.2.1.2.2.1) (x.2.2.1.2.2.2.1) (x.2.2.1.2.2.2.2.1) (x.2.2.1.2.2.2.2.2.1) (x.2.2.1.2.2.2.2.2.2.1) (x.2.2.1.2.2.2.2.2.2.2.1) (x.2.2.1.2.2.2.2.2.2.2.2.1) (x.2.2.1.2.2.2.2.2.2.2.2.2.2.1) (x.2.2.2.1)) (fun x Q => aq3 x Q) hF
theorem je (d : Ig) (w : List UInt8) (m : UInt8) (b : List UInt8) : (eM d w m b).2.length ≤ 128 := Kc _
theorem OV (h : List UInt64) : ∀ k n, (upto (fun k (o : List UInt8) => o.set k (UInt64.toUInt8 (aX (h.getD (k / 8) 0) (8 * ((k % 8 : Nat) : Int))))) (List.replicate n 0) k).length = n
  | 0, n => List.length_replicate
  | k + 1, n => (List.length_set ..).trans (OV h k n)
theorem alE (n : Int) (s : List UInt64 × UInt64 × List UInt8) : (ajZ n s).length = n.toNat := OV _ _ _
def VZ (s : Int) (d : Ig) (w : List UInt8) : af := s7 s (ajZ d.1 (tH (eM d w 0 []).1 (eM d w 0 []).2))
def Fb (x : JL) : Bool := aA x.2.1.1 && decide (x.2.2.1.1 = 64 ∧ x.2.2.2.1.length ≤ 128)
def ahP (x : JL) : OT kg.Y := .ok ⟨wq, ((VZ x.2.1.1 x.2.2.1 x.2.2.2.1, ((0 : Int), ())), ((x.2.1.1, ((), ())), ((eM x.2.2.1 x.2.2.2.1 0 []).1, ((eM x.2.2.1 x.2.2.2.1 0 []).2, ()))))⟩
theorem amC : aa Try.prog 120 (kg.aE Fb ahP) := ack _ _ fun x oy hp ho => by
  rw [← ho]
  clear ho
  obtain ⟨⟨⟨⟩, ⟨⟩⟩, ⟨⟨s, ⟨⟩, ⟨⟩⟩, ⟨n, h0, h1, h2, h3, h4, h5, h6, h7, ⟨⟩, c, ⟨⟩⟩, w, ⟨⟩⟩⟩ := x
  obtain ⟨hs, hw⟩ := (Bool.and_eq_true _ _).mp hp
  obtain ⟨hn, hw⟩ := of_decide_eq_true hw
  have hn : n = 64 := hn
  have hw : w.length ≤ 128 := hw
  subst hn
  have hl : so (ajZ 64 (tH (eM (64, h0, h1, h2, h3, h4, h5, h6, h7, (), c, ()) w 0 []).1 (eM (64, h0, h1, h2, h3, h4, h5, h6, h7, (), c, ()) w 0 []).2)) = true := wi.2 (alE _ _)
  refine (ah ?_).trans ((OT.aw hs).trans ((OT.aw hl).trans rfl))
  simp only [List.all_cons, List.all_nil, Bool.and_true, Bool.and_eq_true]
  exact ⟨decide_eq_true (by show w.length + 0 ≤ _; omega), decide_eq_true ⟨by show (0 : Int) ≤ 64; omega, by show (64 : Int) ≤ 64; omega, je _ _ _ _⟩⟩
def zP : bL := (kg.aE Fb ahP)
theorem Vn : aa Try.prog 120 zP := amC
theorem Vm : aB zP := ax
def G8 : Env := av 120 zP G5
theorem AR : aN Try.prog G8 := ag Vn AQ
theorem B7 : aq G8 := ab Vm B6
theorem WX : aU Try.prog te G8 := aG follows ak AR B7
end Go.Proofs.Ytohjofabochgfaa

namespace Go.Proofs.Ytohjofabochgfaa
namespace Sx
open Go
def JH (id : Nat) (sh : Shape) (l : St → (SE → St → Prop) → Prop) (Λ : Lam) : Lam := fun j => cond (Nat.beq j id) (some fun st K => match sh.prj st with
  | some _ => l st K
  | none => match Λ id with
    | some l' => l' st K
    | none => False) (Λ j)
theorem wk {P : Program} {R₀ : Ctx} {c : Code} (hd : distinct ((blocks c).map (·.1)) = true) {id : Nat} {sh : Shape} {l : St → (SE → St → Prop) → Prop} {Λ : Lam} (hl : Zy c id = true) (h : HB P R₀ (.block id (.loop (bq c id))) l) (hΛ : Aw P R₀ Λ c) :
    Aw P R₀ (JH id sh l Λ) c := fun p hp l' hl' => by
  unfold JH at hl'
  cases hb : Nat.beq p.1 id
  · rw [hb] at hl'; exact hΛ p hp l' hl'
  · rw [hb] at hl'
    cases hl'
    have e := Nat.eq_of_beq_eq_true hb
    have hp2 : p.2 = .loop (bq c id) := by
      have := Al hd p hp
      rw [← this, e]
      have h2 := EV hl
      unfold RP at h2
      exact h2
    intro R st a w K Q hx hst hk hK
    split at hk
    · rw [hp2, e]
      exact h R st a w K Q hx hst hk hK
    · split at hk
      · rename_i l'' h''
        exact hΛ p hp l'' (by rw [e]; exact h'') R st a w K Q hx hst hk hK
      · exact hk.elim
def Zx (args : List SV) (hp : Hp) (a k : Nat) : Option TypeId := match args.getD a .bT with
  | .ptr c _ _ off => match hp c with
    | some ⟨_, .cells vs⟩ => match vs.getD (off + k) .bT with
      | .iface t _ => some t
      | _ => none
    | _ => none
  | .iface t _ => some t
  | _ => none
theorem Qr {d : Nat} {hp hp' : Hp} (hg : WG d hp hp') {args : List SV} {a k : Nat} {t : TypeId} (h : Zx args hp a k = some t) : Zx args hp' a k = some t := by
  unfold Zx at h ⊢
  split at h
  · split at h
    · rename_i e vs hc
      rw [hg.iO _ _ hc]
      exact h
    · cases h
  · exact h
  · cases h
def pU (a k : Nat) (T : TypeId) (s0 s1 : bL) : bL := ⟨s0.mod || s1.mod, fun d args hp => match Zx args hp a k with
  | some t => cond (Nat.beq t T) (s0.f d args hp) (s1.f d args hp)
  | none => .fail⟩
theorem kp {P : Program} {f : FuncId} {a k : Nat} {T : TypeId} {s0 s1 : bL} (h0 : aa P f s0) (h1 : aa P f s1) : aa P f (pU a k T s0 s1) := by
  refine ⟨fun R w d args vs out hm hr hrun => ?_⟩
  simp only [pU] at hrun
  split at hrun
  · rename_i t ht
    cases hb : Nat.beq t T
    · rw [hb] at hrun
      exact h1.calls R w d args vs out hm hr hrun
    · rw [hb] at hrun
      exact h0.calls R w d args vs out hm hr hrun
  · cases hrun
theorem fG {a k : Nat} {T : TypeId} {s0 s1 : bL} (h0 : aB s0) (h1 : aB s1) : aB (pU a k T s0 s1) := fun d args hp hp' out hg hrun => by
  simp only [pU] at hrun ⊢
  split at hrun
  · rename_i t ht
    rw [Qr hg ht]
    dsimp only
    cases hb : Nat.beq t T
    · rw [hb] at hrun
      exact h1 d args hp hp' out hg hrun
    · rw [hb] at hrun
      exact h0 d args hp hp' out hg hrun
  · cases hrun
end Sx
end Go.Proofs.Ytohjofabochgfaa

namespace Go.Proofs.Ytohjofabochgfaa
open Sx Go
set_option maxRecDepth 100000
def ki : ao := ⟨[.ptr 0 0 0], [(0, .cells [.val false .int, .ifp 106 1, .own 3]), (1, .cells [.val false .int, .ptr 2 0 0]), (2, adP (.own 4)), (3, .row .u8), (4, .row .u8)], false, 4, true⟩
abbrev JP : Type := ((Unit) × Unit) × (((Int) × (Unit) × (Unit) × Unit) × ((Int) × (Unit) × Unit) × ((Int) × (UInt64) × (UInt64) × (UInt64) × (UInt64) × (UInt64) × (UInt64) × (UInt64) × (UInt64) × (Unit) × (UInt64) × Unit) × (List (UInt8)) × (List (UInt8)) × Unit)
def MN : ar := ⟨[.val true .elem, .val false .int], [(0, .cells [.val false .int, .ifp 106 1, .own 3]), (1, .cells [.val false .int, .ptr 2 0 0]), (2, .cells [.val false .int, .val false .u64, .val false .u64, .val false .u64, .val false .u64, .val false .u64, .val false .u64, .val false .u64, .val false .u64, .own 4, .val false .u64]), (3, .row .u8), (4, .row .u8)], false⟩
def QL : SV → Option ar := fun _ => some MN
def Vu (c0_0 : Int) (c1_0 : Int) (c2_0 : Int) (c2_1 : UInt64) (c2_2 : UInt64) (c2_3 : UInt64) (c2_4 : UInt64) (c2_5 : UInt64) (c2_6 : UInt64) (c2_7 : UInt64) (c2_8 : UInt64) (c2_10 : UInt64) (c3 : List (UInt8)) (c4 : List (UInt8)) : OT ki.Y :=
  let z0 : Int × UInt64 × UInt64 × UInt64 × UInt64 × UInt64 × UInt64 × UInt64 × UInt64 × PUnit × UInt64 × PUnit := (c2_0, c2_1, c2_2, c2_3, c2_4, c2_5, c2_6, c2_7, c2_8, (), c2_10, ())
  let z1 : (Int × UInt64 × UInt64 × UInt64 × UInt64 × UInt64 × UInt64 × UInt64 × UInt64 × PUnit × UInt64 × PUnit) × List UInt8 := eM z0 c4 (0 : UInt8) []
  let z2 := z1.fst
  let z3 := z2.snd
  let z4 := z3.snd
  let z5 := z4.snd
  let z6 := z5.snd
  let z7 := z6.snd
  let z8 := z7.snd
  let z9 := z8.snd
  let z10 := z9.snd
  (gd [Fb (((), ()), (c1_0, (), ()), z0, c4, ())] (.ok ⟨MN, ((VZ c1_0 z0 c4, ((0 : Int), ())), ((c0_0, ((), ((), ()))), ((c1_0, ((), ())), ((z2.fst, (z3.fst, (z4.fst, (z5.fst, (z6.fst, (z7.fst, (z8.fst, (z9.fst, (z10.fst, ((), (z10.snd.snd.fst, ()))))))))))), (c3, (z1.snd, ()))))))⟩))
theorem aq5 (x : JP) (Q : ki.Y → Prop) : wpf te G8 au 1000 Try.f14 (ki.inp.inj x).tm (ki.inp.inj x).hp (fnK ki QL Q) (fun _ _ => False) = (Vu (x.2.1.1) (x.2.2.1.1) (x.2.2.2.1.1) (x.2.2.2.1.2.1) (x.2.2.2.1.2.2.1) (x.2.2.2.1.2.2.2.1) (x.2.2.2.1.2.2.2.2.1) (x.2.2.2.1.2.2.2.2.2.1) (x.2.2.2.1.2.2.2.2.2.2.1) (x.2.2.2.1.2.2.2.2.2.2.2.1) (x.2.2.2.1.2.2.2.2.2.2.2.2.1) (x.2.2.2.1.2.2.2.2.2.2.2.2.2.2.1) (x.2.2.2.2.1) (x.2.2.2.2.2.1)).wpR Q := by kernel_rfl
theorem acp (pre : JP → Bool) (F : JP → OT ki.Y) (hF : ∀ (x : JP) oy, pre x = true → (F x).run = some oy → (Vu (x.2.1.1) (x.2.2.1.1) (x.2.2.2.1.1) (x.2.2.2.1.2.1) (x.2.2.2.1.2.2.1) (x.2.2.2.1.2.2.2.1) (x.2.2.2.1.2.2.2.2.1) (x.2.2.2.1.2.2.2.2.2.1) (x.2.2.2.1.2.2.2.2.2.2.1) (x.2.2.2.1.2.2.2.2.2.2.2.1) (x.2.2.2.1.2.2.2.2.2.2.2.2.1) (x.2.2.2.1.2.2.2.2.2.2.2.2.2.2.1) (x.2.2.2.2.1) (x.2.2.2.2.2.1)).run = some oy) : aa Try.prog 14 (ki.aE pre F) :=
  az ak AR WX (f := 14) (fn := Try.f14) (c := aj Try.f14) (by kernel_rfl) (by kernel_rfl) (by kernel_rfl) (S := ki) (k := 5) (by kernel_rfl) (fun R hR => ae) (n := 1000) (sel := QL) (fun v o h => by cases h; rfl) (pre := pre) (F := F) (T := fun x => Vu (x.2.1.1) (x.2.2.1.1) (x.2.2.2.1.1) (x.2.2.2.1.2.1) (x.2.2.2.1.2.2.1) (x.2.2.2.1.2.2.2.1) (x.2.2.2.1.2.2.2.2.1) (x.2.2.2.1.2.2.2.2.2.1) (x.2.2.2.1.2.2.2.2.2.2.1) (x.2.2.2.1.2.2.2.2.2.2.2.1) (x.2.2.2.1.2.2.2.2.2.2.2.2.1) (x.2.2.2.1.2.2.2.2.2.2.2.2.2.2.1) (x.2.2.2.2.1) (x.2.2.2.2.2.1)) (fun x Q => aq5 x Q) hF
def iH (x : JP) : Bool := aA x.2.2.1.1 && decide (x.2.2.2.1.1 = 64 ∧ x.2.2.2.2.2.1.length ≤ 128)
def ahV (x : JP) : OT ki.Y := .ok ⟨MN, ((VZ x.2.2.1.1 x.2.2.2.1 x.2.2.2.2.2.1, ((0 : Int), ())), ((x.2.1.1, ((), ((), ()))), ((x.2.2.1.1, ((), ())), ((eM x.2.2.2.1 x.2.2.2.2.2.1 0 []).1, (x.2.2.2.2.1, ((eM x.2.2.2.1 x.2.2.2.2.2.1 0 []).2, ()))))))⟩
theorem amF : aa Try.prog 14 (ki.aE iH ahV) := acp _ _ fun x oy hp ho => by
  rw [← ho]
  clear ho
  obtain ⟨⟨⟨⟩, ⟨⟩⟩, ⟨⟨c, ⟨⟩, ⟨⟩, ⟨⟩⟩, ⟨s, ⟨⟩, ⟨⟩⟩, ⟨n, h0, h1, h2, h3, h4, h5, h6, h7, ⟨⟩, k, ⟨⟩⟩, o, w, ⟨⟩⟩⟩ := x
  refine (ah ?_).trans rfl
  simp only [List.all_cons, List.all_nil, Bool.and_true]
  exact hp
def zS : bL := (pU 0 1 98 qM (ki.aE iH ahV))
theorem Vt : aa Try.prog 14 zS := (kp DB amF)
theorem Vs : aB zS := (fG DA ax)
def Ha : Env := av 14 zS G8
theorem AU : aN Try.prog Ha := ag Vt AR
theorem Ca : aq Ha := ab Vs B7
theorem WZ : aU Try.prog te Ha := aG follows ak AU Ca
def jO : ao := ⟨[.ptr 0 0 0, .val true .elem], [(0, .cells [.val false .int, .ifp 98 1, .own 2]), (1, .cells [.val false .int, .val false (.list .elem)]), (2, .row .u8)], false, 3, true⟩
abbrev IE : Type := ((Unit) × (af) × Unit) × (((Int) × (Unit) × (Unit) × Unit) × ((Int) × (List (af)) × Unit) × (List (UInt8)) × Unit)
def CC : ar := ⟨[], [(0, .cells [.val false .int, .ifp 98 1, .own 2]), (1, .cells [.val false .int, .val false (.list .elem)]), (2, .row .u8)], false⟩
def OR : SV → Option ar := fun _ => some CC
def TK (a1 : af) (c0_0 : Int) (c1_0 : Int) (c1_1 : List (af)) (c2 : List (UInt8)) : OT jO.Y :=
  (.br (aA (cp c0_0 (1 : Int)))
  (.ok ⟨CC, ((), ((c0_0, ((), ((), ()))), ((c1_0, (c1_1, ())), (c2, ()))))⟩)
  (.ok ⟨CC, ((), ((c0_0, ((), ((), ()))), ((c1_0, (c1_1, ())), (c2, ()))))⟩))
theorem aoP (x : IE) (Q : jO.Y → Prop) : wpf te Ha au 1000 Try.f11 (jO.inp.inj x).tm (jO.inp.inj x).hp (fnK jO OR Q) (fun _ _ => False) = (TK (x.1.2.1) (x.2.1.1) (x.2.2.1.1) (x.2.2.1.2.1) (x.2.2.2.1)).wpR Q := by kernel_rfl
theorem aaW (pre : IE → Bool) (F : IE → OT jO.Y) (hF : ∀ (x : IE) oy, pre x = true → (F x).run = some oy → (TK (x.1.2.1) (x.2.1.1) (x.2.2.1.1) (x.2.2.1.2.1) (x.2.2.2.1)).run = some oy) : aa Try.prog 11 (jO.aE pre F) :=
  az ak AU WZ (f := 11) (fn := Try.f11) (c := aj Try.f11) (by kernel_rfl) (by kernel_rfl) (by kernel_rfl) (S := jO) (k := 3) (by kernel_rfl) (fun R hR => ae) (n := 1000) (sel := OR) (fun v o h => by cases h; rfl) (pre := pre) (F := F) (T := fun x => TK (x.1.2.1) (x.2.1.1) (x.2.2.1.1) (x.2.2.1.2.1) (x.2.2.2.1)) (fun x Q => aoP x Q) hF
def oB (x : IE) : Bool := aA (cp x.2.1.1 1)
def aer (x : IE) : OT jO.Y := .ok ⟨CC, ((), ((x.2.1.1, ((), ((), ()))), ((x.2.2.1.1, (x.2.2.1.2.1, ())), (x.2.2.2.1, ()))))⟩
theorem akm : aa Try.prog 11 (jO.aE oB aer) := aaW _ _ fun x oy hp ho => by
  rw [← ho]
  clear ho
  obtain ⟨⟨⟨⟩, v, ⟨⟩⟩, ⟨⟨c, ⟨⟩, ⟨⟩, ⟨⟩⟩, ⟨s, l, ⟨⟩⟩, o, ⟨⟩⟩⟩ := x
  have hs : aA (cp c 1) = true := hp
  exact (OT.aw hs).trans rfl
def qK : bL := (jO.aE oB aer)
theorem Dx : aa Try.prog 11 qK := akm
theorem Dw : aB qK := ax
def GG : Env := av 11 qK Ha
theorem AD : aN Try.prog GG := ag Dx AU
theorem BS : aq GG := ab Dw Ca
theorem WK : aU Try.prog te GG := aG follows ak AD BS
def kh : ao := ⟨[.ptr 0 0 0, .val true .elem], [(0, .cells [.val false .int, .ifp 106 1, .own 3]), (1, .cells [.val false .int, .ptr 2 0 0]), (2, adP (.own 4)), (3, .row .u8), (4, .row .u8)], false, 4, true⟩
abbrev JM : Type := ((Unit) × (af) × Unit) × (((Int) × (Unit) × (Unit) × Unit) × ((Int) × (Unit) × Unit) × ((Int) × (UInt64) × (UInt64) × (UInt64) × (UInt64) × (UInt64) × (UInt64) × (UInt64) × (UInt64) × (Unit) × (UInt64) × Unit) × (List (UInt8)) × (List (UInt8)) × Unit)
def wu : ar := ⟨[], [(0, .cells [.val false .int, .ifp 106 1, .own 3]), (1, .cells [.val false .int, .ptr 2 0 0]), (2, .cells [.val false .int, .val false .u64, .val false .u64, .val false .u64, .val false .u64, .val false .u64, .val false .u64, .val false .u64, .val false .u64, .own 4, .val false .u64]), (3, .row .u8), (4, .row .u8)], false⟩
def QI : SV → Option ar := fun _ => some wu
def Fc (a1 : af) (c0_0 : Int) (c1_0 : Int) (c2_0 : Int) (c2_1 : UInt64) (c2_2 : UInt64) (c2_3 : UInt64) (c2_4 : UInt64) (c2_5 : UInt64) (c2_6 : UInt64) (c2_7 : UInt64) (c2_8 : UInt64) (c2_10 : UInt64) (c3 : List (UInt8)) (c4 : List (UInt8)) : OT kh.Y :=
  let z0 : Int := cp c0_0 (1 : Int)
  let z1 : List UInt8 := sr (ofN (af.nat a1 % af.nat (dk (Int.toNat z0)).fst))
  let z2 : Int × UInt64 × UInt64 × UInt64 × UInt64 × UInt64 × UInt64 × UInt64 × UInt64 × PUnit × UInt64 × PUnit := (c2_0, c2_1, c2_2, c2_3, c2_4, c2_5, c2_6, c2_7, c2_8, (), c2_10, ())
  let z3 : (Int × PUnit × PUnit) × (Int × UInt64 × UInt64 × UInt64 × UInt64 × UInt64 × UInt64 × UInt64 × UInt64 × PUnit × UInt64 × PUnit) × List UInt8 × PUnit := ((c1_0, (), ()), z2, c4, ())
  let z4 : (Int × UInt64 × UInt64 × UInt64 × UInt64 × UInt64 × UInt64 × UInt64 × UInt64 × PUnit × UInt64 × PUnit) × List UInt8 := eM z2 c4 (2 : UInt8) z1
  let z5 := z4.fst
  let z6 := z5.snd
  let z7 := z6.snd
  let z8 := z7.snd
  let z9 := z8.snd
  let z10 := z9.snd
  let z11 := z10.snd
  let z12 := z11.snd
  let z13 := z12.snd
  let z14 : (Int × UInt64 × UInt64 × UInt64 × UInt64 × UInt64 × UInt64 × UInt64 × UInt64 × PUnit × UInt64 × PUnit) × List UInt8 := eM z2 c4 (2 : UInt8) []
  let z15 := z14.fst
  let z16 := z15.snd
  let z17 := z16.snd
  let z18 := z17.snd
  let z19 := z18.snd
  let z20 := z19.snd
  let z21 := z20.snd
  let z22 := z21.snd
  let z23 := z22.snd
  (.br (aA z0)
  (gd [mj (((), (2 : UInt8), z1, ()), z3)] (.ok ⟨wu, ((), ((c0_0, ((), ((), ()))), ((c1_0, ((), ())), ((z5.fst, (z6.fst, (z7.fst, (z8.fst, (z9.fst, (z10.fst, (z11.fst, (z12.fst, (z13.fst, ((), (z13.snd.snd.fst, ()))))))))))), (c3, (z4.snd, ()))))))⟩))
  (gd [mj (((), (2 : UInt8), [], ()), z3)] (.ok ⟨wu, ((), ((c0_0, ((), ((), ()))), ((c1_0, ((), ())), ((z15.fst, (z16.fst, (z17.fst, (z18.fst, (z19.fst, (z20.fst, (z21.fst, (z22.fst, (z23.fst, ((), (z23.snd.snd.fst, ()))))))))))), (c3, (z14.snd, ()))))))⟩)))
theorem aq4 (x : JM) (Q : kh.Y → Prop) : wpf te GG au 1000 Try.f11 (kh.inp.inj x).tm (kh.inp.inj x).hp (fnK kh QI Q) (fun _ _ => False) = (Fc (x.1.2.1) (x.2.1.1) (x.2.2.1.1) (x.2.2.2.1.1) (x.2.2.2.1.2.1) (x.2.2.2.1.2.2.1) (x.2.2.2.1.2.2.2.1) (x.2.2.2.1.2.2.2.2.1) (x.2.2.2.1.2.2.2.2.2.1) (x.2.2.2.1.2.2.2.2.2.2.1) (x.2.2.2.1.2.2.2.2.2.2.2.1) (x.2.2.2.1.2.2.2.2.2.2.2.2.1) (x.2.2.2.1.2.2.2.2.2.2.2.2.2.2.1) (x.2.2.2.2.1) (x.2.2.2.2.2.1)).wpR Q := by kernel_rfl
theorem acn (pre : JM → Bool) (F : JM → OT kh.Y) (hF : ∀ (x : JM) oy, pre x = true → (F x).run = some oy → (Fc (x.1.2.1) (x.2.1.1) (x.2.2.1.1) (x.2.2.2.1.1) (x.2.2.2.1.2.1) (x.2.2.2.1.2.2.1) (x.2.2.2.1.2.2.2.1) (x.2.2.2.1.2.2.2.2.1) (x.2.2.2.1.2.2.2.2.2.1) (x.2.2.2.1.2.2.2.2.2.2.1) (x.2.2.2.1.2.2.2.2.2.2.2.1) (x.2.2.2.1.2.2.2.2.2.2.2.2.1) (x.2.2.2.1.2.2.2.2.2.2.2.2.2.2.1) (x.2.2.2.2.1) (x.2.2.2.2.2.1)).run = some oy) : aa Try.prog 11 (kh.aE pre F) :=
  az ak AD WK (f := 11) (fn := Try.f11) (c := aj Try.f11) (by kernel_rfl) (by kernel_rfl) (by kernel_rfl) (S := kh) (k := 5) (by kernel_rfl) (fun R hR => ae) (n := 1000) (sel := QI) (fun v o h => by cases h; rfl) (pre := pre) (F := F) (T := fun x => Fc (x.1.2.1) (x.2.1.1) (x.2.2.1.1) (x.2.2.2.1.1) (x.2.2.2.1.2.1) (x.2.2.2.1.2.2.1) (x.2.2.2.1.2.2.2.1) (x.2.2.2.1.2.2.2.2.1) (x.2.2.2.1.2.2.2.2.2.1) (x.2.2.2.1.2.2.2.2.2.2.1) (x.2.2.2.1.2.2.2.2.2.2.2.1) (x.2.2.2.1.2.2.2.2.2.2.2.2.1) (x.2.2.2.1.2.2.2.2.2.2.2.2.2.2.1) (x.2.2.2.2.1) (x.2.2.2.2.2.1)) (fun x Q => aq4 x Q) hF
theorem cO (c : Int) (v : af) : (bI c v).length = 32 := kn _
def mm (x : JM) : Bool := aA (cp x.2.1.1 1) && decide (x.2.2.2.2.2.1.length ≤ 128)
def ahT (x : JM) : OT kh.Y := .ok ⟨wu, ((), ((x.2.1.1, ((), ((), ()))), ((x.2.2.1.1, ((), ())), ((eM x.2.2.2.1 x.2.2.2.2.2.1 2 (bI x.2.1.1 x.1.2.1)).1, (x.2.2.2.2.1, ((eM x.2.2.2.1 x.2.2.2.2.2.1 2 (bI x.2.1.1 x.1.2.1)).2, ()))))))⟩
theorem aco {c s : Int} {v : af} {d : Ig} {w o : List UInt8} (hs : aA (cp c 1) = true) (hw : w.length ≤ 128) :
    (Fc v c s d.1 d.2.1 d.2.2.1 d.2.2.2.1 d.2.2.2.2.1 d.2.2.2.2.2.1 d.2.2.2.2.2.2.1 d.2.2.2.2.2.2.2.1 d.2.2.2.2.2.2.2.2.1 d.2.2.2.2.2.2.2.2.2.2.1 o w).run = some ⟨wu, ((), ((c, ((), ((), ()))), ((s, ((), ())), ((eM d w 2 (bI c v)).1, (o, ((eM d w 2 (bI c v)).2, ()))))))⟩ := by
  have hb := cO c v
  generalize hB : bI c v = B at hb
  have hB : sr (ofN (v.nat % (dk (cp c 1).toNat).1.nat)) = B := hB
  unfold Fc
  simp only [hB]
  refine (OT.aw hs).trans ((ah ?_).trans rfl)
  simp only [List.all_cons, List.all_nil, Bool.and_true]
  exact decide_eq_true (by show w.length + B.length ≤ _; omega)
theorem amD : aa Try.prog 11 (kh.aE mm ahT) := acn _ _ fun x oy hp ho => by
  rw [← ho]
  clear ho
  obtain ⟨⟨⟨⟩, v, ⟨⟩⟩, ⟨⟨c, ⟨⟩, ⟨⟩, ⟨⟩⟩, ⟨s, ⟨⟩, ⟨⟩⟩, d, o, w, ⟨⟩⟩⟩ := x
  obtain ⟨hs, hw⟩ := (Bool.and_eq_true _ _).mp hp
  exact aco hs (of_decide_eq_true hw)
def zQ : bL := (pU 0 1 98 qK (kh.aE mm ahT))
theorem Vq : aa Try.prog 11 zQ := (kp Dx amD)
theorem Vp : aB zQ := (fG Dw ax)
def G9 : Env := av 11 zQ GG
theorem AS : aN Try.prog G9 := ag Vq AD
theorem B8 : aq G9 := ab Vp BS
theorem WY : aU Try.prog te G9 := aG follows ak AS B8
def pr : ao := ⟨[.ptr 0 0 0, .val false .u8, .val false (.list .u8)], [(0, .cells [.val false .int, .ifp 106 1, .own 3]), (1, .cells [.val false .int, .ptr 2 0 0]), (2, adP (.own 4)), (3, .row .u8), (4, .row .u8)], false, 3, true⟩
abbrev acj : Type := ((Unit) × (UInt8) × (List (UInt8)) × Unit) × (((Int) × (Unit) × (Unit) × Unit) × ((Int) × (Unit) × Unit) × ((Int) × (UInt64) × (UInt64) × (UInt64) × (UInt64) × (UInt64) × (UInt64) × (UInt64) × (UInt64) × (Unit) × (UInt64) × Unit) × (List (UInt8)) × (List (UInt8)) × Unit)
def Vj : ar := ⟨[], [(0, .cells [.val false .int, .ifp 106 1, .own 3]), (1, .cells [.val false .int, .ptr 2 0 0]), (2, .cells [.val false .int, .val false .u64, .val false .u64, .val false .u64, .val false .u64, .val false .u64, .val false .u64, .val false .u64, .val false .u64, .own 4, .val false .u64]), (3, .row .u8), (4, .row .u8)], false⟩
def ZB : SV → Option ar := fun _ => some Vj
def ahM (a1 : UInt8) (a2 : List (UInt8)) (c0_0 : Int) (c1_0 : Int) (c2_0 : Int) (c2_1 : UInt64) (c2_2 : UInt64) (c2_3 : UInt64) (c2_4 : UInt64) (c2_5 : UInt64) (c2_6 : UInt64) (c2_7 : UInt64) (c2_8 : UInt64) (c2_10 : UInt64) (c3 : List (UInt8)) (c4 : List (UInt8)) : OT pr.Y :=
  let z0 : Int × UInt64 × UInt64 × UInt64 × UInt64 × UInt64 × UInt64 × UInt64 × UInt64 × PUnit × UInt64 × PUnit := (c2_0, c2_1, c2_2, c2_3, c2_4, c2_5, c2_6, c2_7, c2_8, (), c2_10, ())
  let z1 : (Int × UInt64 × UInt64 × UInt64 × UInt64 × UInt64 × UInt64 × UInt64 × UInt64 × PUnit × UInt64 × PUnit) × List UInt8 := eM z0 c4 a1 a2
  let z2 := z1.fst
  let z3 := z2.snd
  let z4 := z3.snd
  let z5 := z4.snd
  let z6 := z5.snd
  let z7 := z6.snd
  let z8 := z7.snd
  let z9 := z8.snd
  let z10 := z9.snd
  (gd [decide ((List.length c3 + List.length a2) * 1 ≤ 140737488355328), mj (((), a1, a2, ()), (c1_0, (), ()), z0, c4, ())] (.ok ⟨Vj, ((), ((c0_0, ((), ((), ()))), ((c1_0, ((), ())), ((z2.fst, (z3.fst, (z4.fst, (z5.fst, (z6.fst, (z7.fst, (z8.fst, (z9.fst, (z10.fst, ((), (z10.snd.snd.fst, ()))))))))))), (c3 ++ a2, (z1.snd, ()))))))⟩))
theorem asX (x : acj) (Q : pr.Y → Prop) : wpf te G9 au 1000 Try.f35 (pr.inp.inj x).tm (pr.inp.inj x).hp (fnK pr ZB Q) (fun _ _ => False) = (ahM (x.1.2.1) (x.1.2.2.1) (x.2.1.1) (x.2.2.1.1) (x.2.2.2.1.1) (x.2.2.2.1.2.1) (x.2.2.2.1.2.2.1) (x.2.2.2.1.2.2.2.1) (x.2.2.2.1.2.2.2.2.1) (x.2.2.2.1.2.2.2.2.2.1) (x.2.2.2.1.2.2.2.2.2.2.1) (x.2.2.2.1.2.2.2.2.2.2.2.1) (x.2.2.2.1.2.2.2.2.2.2.2.2.1) (x.2.2.2.1.2.2.2.2.2.2.2.2.2.2.1) (x.2.2.2.2.1) (x.2.2.2.2.2.1)).wpR Q := by kernel_rfl
theorem ahL (pre : acj → Bool) (F : acj → OT pr.Y) (hF : ∀ (x : acj) oy, pre x = true → (F x).run = some oy → (ahM (x.1.2.1) (x.1.2.2.1) (x.2.1.1) (x.2.2.1.1) (x.2.2.2.1.1) (x.2.2.2.1.2.1) (x.2.2.2.1.2.2.1) (x.2.2.2.1.2.2.2.1) (x.2.2.2.1.2.2.2.2.1) (x.2.2.2.1.2.2.2.2.2.1) (x.2.2.2.1.2.2.2.2.2.2.1) (x.2.2.2.1.2.2.2.2.2.2.2.1) (x.2.2.2.1.2.2.2.2.2.2.2.2.1) (x.2.2.2.1.2.2.2.2.2.2.2.2.2.2.1) (x.2.2.2.2.1) (x.2.2.2.2.2.1)).run = some oy) : aa Try.prog 35 (pr.aE pre F) :=
  az ak AS WY (f := 35) (fn := Try.f35) (c := aj Try.f35) (by kernel_rfl) (by kernel_rfl) (by kernel_rfl) (S := pr) (k := 5) (by kernel_rfl) (fun R hR => ae) (n := 1000) (sel := ZB) (fun v o h => by cases h; rfl) (pre := pre) (F := F) (T := fun x => ahM (x.1.2.1) (x.1.2.2.1) (x.2.1.1) (x.2.2.1.1) (x.2.2.2.1.1) (x.2.2.2.1.2.1) (x.2.2.2.1.2.2.1) (x.2.2.2.1.2.2.2.1) (x.2.2.2.1.2.2.2.2.1) (x.2.2.2.1.2.2.2.2.2.1) (x.2.2.2.1.2.2.2.2.2.2.1) (x.2.2.2.1.2.2.2.2.2.2.2.1) (x.2.2.2.1.2.2.2.2.2.2.2.2.1) (x.2.2.2.1.2.2.2.2.2.2.2.2.2.2.1) (x.2.2.2.2.1) (x.2.2.2.2.2.1)) (fun x Q => asX x Q) hF
def wm (x : acj) : Bool := decide (x.2.2.2.2.1.length + x.1.2.2.1.length ≤ 140737488350000 ∧ x.2.2.2.2.2.1.length ≤ 128 ∧ x.1.2.2.1.length ≤ 1000)
def aob (x : acj) : OT pr.Y := .ok ⟨Vj, ((), ((x.2.1.1, ((), ((), ()))), ((x.2.2.1.1, ((), ())), ((eM x.2.2.2.1 x.2.2.2.2.2.1 x.1.2.1 x.1.2.2.1).1, (x.2.2.2.2.1 ++ x.1.2.2.1, ((eM x.2.2.2.1 x.2.2.2.2.2.1 x.1.2.1 x.1.2.2.1).2, ()))))))⟩
theorem aq2 : aa Try.prog 35 (pr.aE wm aob) := ahL _ _ fun x oy hp ho => by
  rw [← ho]
  clear ho
  obtain ⟨⟨⟨⟩, m, b, ⟨⟩⟩, ⟨⟨c, ⟨⟩, ⟨⟩, ⟨⟩⟩, ⟨s, ⟨⟩, ⟨⟩⟩, d, o, w, ⟨⟩⟩⟩ := x
  obtain ⟨h1, h2, h3⟩ := of_decide_eq_true hp
  have h1 : o.length + b.length ≤ 140737488350000 := h1
  have h2 : w.length ≤ 128 := h2
  have h3 : b.length ≤ 1000 := h3
  refine (ah ?_).trans rfl
  simp only [List.all_cons, List.all_nil, Bool.and_true, Bool.and_eq_true]
  exact ⟨decide_eq_true (by omega), decide_eq_true (by show w.length + b.length ≤ _; omega)⟩
def Fa : bL := (pU 0 1 98 ve (oC 2 (pr.aE wm aob)))
theorem aci : aa Try.prog 35 Fa := (kp Iw (qL aq2))
theorem ach : aB Fa := (fG Iv (kL ax))
def SM : Env := av 35 Fa G9
theorem G6 : aN Try.prog SM := ag aci AS
theorem G7 : aq SM := ab ach B8
theorem adI : aU Try.prog te SM := aG follows ak G6 G7
def eS : ao := ⟨[.ptr 0 0 0, .val true .elem], [(0, .cells [.val false .int, .ifp 106 1, .own 3]), (1, .cells [.val false .int, .ptr 2 0 0]), (2, adP (.own 4)), (3, .row .u8), (4, .row .u8)], false, 3, true⟩
abbrev ru : Type := ((Unit) × (af) × Unit) × (((Int) × (Unit) × (Unit) × Unit) × ((Int) × (Unit) × Unit) × ((Int) × (UInt64) × (UInt64) × (UInt64) × (UInt64) × (UInt64) × (UInt64) × (UInt64) × (UInt64) × (Unit) × (UInt64) × Unit) × (List (UInt8)) × (List (UInt8)) × Unit)
def ml : ar := ⟨[], [(0, .cells [.val false .int, .ifp 106 1, .own 3]), (1, .cells [.val false .int, .ptr 2 0 0]), (2, .cells [.val false .int, .val false .u64, .val false .u64, .val false .u64, .val false .u64, .val false .u64, .val false .u64, .val false .u64, .val false .u64, .own 4, .val false .u64]), (3, .row .u8), (4, .row .u8)], false⟩
def E9 : SV → Option ar := fun _ => some ml
def pq (a1 : af) (c0_0 : Int) (c1_0 : Int) (c2_0 : Int) (c2_1 : UInt64) (c2_2 : UInt64) (c2_3 : UInt64) (c2_4 : UInt64) (c2_5 : UInt64) (c2_6 : UInt64) (c2_7 : UInt64) (c2_8 : UInt64) (c2_10 : UInt64) (c3 : List (UInt8)) (c4 : List (UInt8)) : OT eS.Y :=
  let z0 : Int := cp c0_0 (1 : Int)
  let z1 : List UInt8 := sr (ofN (af.nat a1 % af.nat (dk (Int.toNat z0)).fst))
  let z2 : Int × UInt64 × UInt64 × UInt64 × UInt64 × UInt64 × UInt64 × UInt64 × UInt64 × PUnit × UInt64 × PUnit := (c2_0, c2_1, c2_2, c2_3, c2_4, c2_5, c2_6, c2_7, c2_8, (), c2_10, ())
  let z3 : (Int × PUnit × PUnit × PUnit) × (Int × PUnit × PUnit) × (Int × UInt64 × UInt64 × UInt64 × UInt64 × UInt64 × UInt64 × UInt64 × UInt64 × PUnit × UInt64 × PUnit) × List UInt8 × List UInt8 × PUnit := ((c0_0, (), (), ()), (c1_0, (), ()), z2, c3, c4, ())
  let z4 : (Int × UInt64 × UInt64 × UInt64 × UInt64 × UInt64 × UInt64 × UInt64 × UInt64 × PUnit × UInt64 × PUnit) × List UInt8 := eM z2 c4 (2 : UInt8) z1
  let z5 := z4.fst
  let z6 := z5.snd
  let z7 := z6.snd
  let z8 := z7.snd
  let z9 := z8.snd
  let z10 := z9.snd
  let z11 := z10.snd
  let z12 := z11.snd
  let z13 := z12.snd
  let z14 : (Int × UInt64 × UInt64 × UInt64 × UInt64 × UInt64 × UInt64 × UInt64 × UInt64 × PUnit × UInt64 × PUnit) × List UInt8 := eM z2 c4 (2 : UInt8) []
  let z15 := z14.fst
  let z16 := z15.snd
  let z17 := z16.snd
  let z18 := z17.snd
  let z19 := z18.snd
  let z20 := z19.snd
  let z21 := z20.snd
  let z22 := z21.snd
  let z23 := z22.snd
  (.br (aA z0)
  (gd [wm (((), (2 : UInt8), z1, ()), z3)] (.ok ⟨ml, ((), ((c0_0, ((), ((), ()))), ((c1_0, ((), ())), ((z5.fst, (z6.fst, (z7.fst, (z8.fst, (z9.fst, (z10.fst, (z11.fst, (z12.fst, (z13.fst, ((), (z13.snd.snd.fst, ()))))))))))), (c3 ++ z1, (z4.snd, ()))))))⟩))
  (gd [wm (((), (2 : UInt8), [], ()), z3)] (.ok ⟨ml, ((), ((c0_0, ((), ((), ()))), ((c1_0, ((), ())), ((z15.fst, (z16.fst, (z17.fst, (z18.fst, (z19.fst, (z20.fst, (z21.fst, (z22.fst, (z23.fst, ((), (z23.snd.snd.fst, ()))))))))))), (c3 ++ [], (z14.snd, ()))))))⟩)))
theorem ahK (x : ru) (Q : eS.Y → Prop) : wpf te SM au 1000 Try.f12 (eS.inp.inj x).tm (eS.inp.inj x).hp (fnK eS E9 Q) (fun _ _ => False) = (pq (x.1.2.1) (x.2.1.1) (x.2.2.1.1) (x.2.2.2.1.1) (x.2.2.2.1.2.1) (x.2.2.2.1.2.2.1) (x.2.2.2.1.2.2.2.1) (x.2.2.2.1.2.2.2.2.1) (x.2.2.2.1.2.2.2.2.2.1) (x.2.2.2.1.2.2.2.2.2.2.1) (x.2.2.2.1.2.2.2.2.2.2.2.1) (x.2.2.2.1.2.2.2.2.2.2.2.2.1) (x.2.2.2.1.2.2.2.2.2.2.2.2.2.2.1) (x.2.2.2.2.1) (x.2.2.2.2.2.1)).wpR Q := by kernel_rfl
theorem QB (pre : ru → Bool) (F : ru → OT eS.Y) (hF : ∀ (x : ru) oy, pre x = true → (F x).run = some oy → (pq (x.1.2.1) (x.2.1.1) (x.2.2.1.1) (x.2.2.2.1.1) (x.2.2.2.1.2.1) (x.2.2.2.1.2.2.1) (x.2.2.2.1.2.2.2.1) (x.2.2.2.1.2.2.2.2.1) (x.2.2.2.1.2.2.2.2.2.1) (x.2.2.2.1.2.2.2.2.2.2.1) (x.2.2.2.1.2.2.2.2.2.2.2.1) (x.2.2.2.1.2.2.2.2.2.2.2.2.1) (x.2.2.2.1.2.2.2.2.2.2.2.2.2.2.1) (x.2.2.2.2.1) (x.2.2.2.2.2.1)).run = some oy) : aa Try.prog 12 (eS.aE pre F) :=
  az ak G6 adI (f := 12) (fn := Try.f12) (c := aj Try.f12) (by kernel_rfl) (by kernel_rfl) (by kernel_rfl) (S := eS) (k := 5) (by kernel_rfl) (fun R hR => ae) (n := 1000) (sel := E9) (fun v o h => by cases h; rfl) (pre := pre) (F := F) (T := fun x => pq (x.1.2.1) (x.2.1.1) (x.2.2.1.1) (x.2.2.2.1.1) (x.2.2.2.1.2.1) (x.2.2.2.1.2.2.1) (x.2.2.2.1.2.2.2.1) (x.2.2.2.1.2.2.2.2.1) (x.2.2.2.1.2.2.2.2.2.1) (x.2.2.2.1.2.2.2.2.2.2.1) (x.2.2.2.1.2.2.2.2.2.2.2.1) (x.2.2.2.1.2.2.2.2.2.2.2.2.1) (x.2.2.2.1.2.2.2.2.2.2.2.2.2.2.1) (x.2.2.2.2.1) (x.2.2.2.2.2.1)) (fun x Q => ahK x Q) hF
def eR (x : ru) : Bool := aA (cp x.2.1.1 1) && decide (x.2.2.2.2.1.length ≤ 140737488340000 ∧ x.2.2.2.2.2.1.length ≤ 128)
def QD (x : ru) : OT eS.Y := .ok ⟨ml, ((), ((x.2.1.1, ((), ((), ()))), ((x.2.2.1.1, ((), ())), ((eM x.2.2.2.1 x.2.2.2.2.2.1 2 (bI x.2.1.1 x.1.2.1)).1, (x.2.2.2.2.1 ++ bI x.2.1.1 x.1.2.1, ((eM x.2.2.2.1 x.2.2.2.2.2.1 2 (bI x.2.1.1 x.1.2.1)).2, ()))))))⟩
theorem QC {c s : Int} {v : af} {d : Ig} {w o : List UInt8} (hs : aA (cp c 1) = true) (ho : o.length ≤ 140737488340000) (hw : w.length ≤ 128) :
    (pq v c s d.1 d.2.1 d.2.2.1 d.2.2.2.1 d.2.2.2.2.1 d.2.2.2.2.2.1 d.2.2.2.2.2.2.1 d.2.2.2.2.2.2.2.1 d.2.2.2.2.2.2.2.2.1 d.2.2.2.2.2.2.2.2.2.2.1 o w).run = some ⟨ml, ((), ((c, ((), ((), ()))), ((s, ((), ())), ((eM d w 2 (bI c v)).1, (o ++ bI c v, ((eM d w 2 (bI c v)).2, ()))))))⟩ := by
  have hb := cO c v
  generalize hB : bI c v = B at hb
  have hB : sr (ofN (v.nat % (dk (cp c 1).toNat).1.nat)) = B := hB
  unfold pq
  simp only [hB]
  refine (OT.aw hs).trans ((ah ?_).trans rfl)
  simp only [List.all_cons, List.all_nil, Bool.and_true]
  exact decide_eq_true ⟨by show o.length + B.length ≤ _; omega, hw, by show B.length ≤ _; omega⟩
theorem acg : aa Try.prog 12 (eS.aE eR QD) := QB _ _ fun x oy hp ho => by
  rw [← ho]
  clear ho
  obtain ⟨⟨⟨⟩, v, ⟨⟩⟩, ⟨⟨c, ⟨⟩, ⟨⟩, ⟨⟩⟩, ⟨s, ⟨⟩, ⟨⟩⟩, d, o, w, ⟨⟩⟩⟩ := x
  obtain ⟨hs, hw⟩ := (Bool.and_eq_true _ _).mp hp
  obtain ⟨h1, h2⟩ := of_decide_eq_true hw
  exact QC hs h1 h2
def po : bL := (pU 0 1 98 kK (eS.aE eR QD))
theorem MJ : aa Try.prog 12 po := (kp vd acg)
theorem MI : aB po := (fG vc ax)
def qu : Env := av 12 po SM
theorem qt : aN Try.prog qu := ag MJ G6
theorem sX : aq qu := ab MI G7
theorem N4 : aU Try.prog te qu := aG follows ak qt sX
def gF : ao := ⟨[.ptr 0 0 0], [(0, .cells [.val false .int, .ifp 106 1, .own 3]), (1, .cells [.val false .int, .ptr 2 0 0]), (2, adP (.own 4)), (3, .row .u8), (4, .row .u8)], false, 5, true⟩
abbrev zT : Type := ((Unit) × Unit) × (((Int) × (Unit) × (Unit) × Unit) × ((Int) × (Unit) × Unit) × ((Int) × (UInt64) × (UInt64) × (UInt64) × (UInt64) × (UInt64) × (UInt64) × (UInt64) × (UInt64) × (Unit) × (UInt64) × Unit) × (List (UInt8)) × (List (UInt8)) × Unit)
def Ff : ar := ⟨[.own 5], [(0, .cells [.val false .int, .ifp 106 1, .own 3]), (1, .cells [.val false .int, .ptr 2 0 0]), (2, .cells [.val false .int, .val false .u64, .val false .u64, .val false .u64, .val false .u64, .val false .u64, .val false .u64, .val false .u64, .val false .u64, .own 4, .val false .u64]), (3, .row .u8), (4, .row .u8), (5, .row .u8)], false⟩
def JQ : SV → Option ar := fun _ => some Ff
def MO (c0_0 : Int) (c1_0 : Int) (c2_0 : Int) (c2_1 : UInt64) (c2_2 : UInt64) (c2_3 : UInt64) (c2_4 : UInt64) (c2_5 : UInt64) (c2_6 : UInt64) (c2_7 : UInt64) (c2_8 : UInt64) (c2_10 : UInt64) (c3 : List (UInt8)) (c4 : List (UInt8)) : OT gF.Y :=
  (gd [ij ((c3, ()), ())] (.ok ⟨Ff, (((), ()), ((c0_0, ((), ((), ()))), ((c1_0, ((), ())), ((c2_0, (c2_1, (c2_2, (c2_3, (c2_4, (c2_5, (c2_6, (c2_7, (c2_8, ((), (c2_10, ()))))))))))), (c3, (c4, (c3, ())))))))⟩))
theorem amG (x : zT) (Q : gF.Y → Prop) : wpf te qu au 1000 Try.f16 (gF.inp.inj x).tm (gF.inp.inj x).hp (fnK gF JQ Q) (fun _ _ => False) = (MO (x.2.1.1) (x.2.2.1.1) (x.2.2.2.1.1) (x.2.2.2.1.2.1) (x.2.2.2.1.2.2.1) (x.2.2.2.1.2.2.2.1) (x.2.2.2.1.2.2.2.2.1) (x.2.2.2.1.2.2.2.2.2.1) (x.2.2.2.1.2.2.2.2.2.2.1) (x.2.2.2.1.2.2.2.2.2.2.2.1) (x.2.2.2.1.2.2.2.2.2.2.2.2.1) (x.2.2.2.1.2.2.2.2.2.2.2.2.2.2.1) (x.2.2.2.2.1) (x.2.2.2.2.2.1)).wpR Q := by kernel_rfl
theorem Vv (pre : zT → Bool) (F : zT → OT gF.Y) (hF : ∀ (x : zT) oy, pre x = true → (F x).run = some oy → (MO (x.2.1.1) (x.2.2.1.1) (x.2.2.2.1.1) (x.2.2.2.1.2.1) (x.2.2.2.1.2.2.1) (x.2.2.2.1.2.2.2.1) (x.2.2.2.1.2.2.2.2.1) (x.2.2.2.1.2.2.2.2.2.1) (x.2.2.2.1.2.2.2.2.2.2.1) (x.2.2.2.1.2.2.2.2.2.2.2.1) (x.2.2.2.1.2.2.2.2.2.2.2.2.1) (x.2.2.2.1.2.2.2.2.2.2.2.2.2.2.1) (x.2.2.2.2.1) (x.2.2.2.2.2.1)).run = some oy) : aa Try.prog 16 (gF.aE pre F) :=
  az ak qt N4 (f := 16) (fn := Try.f16) (c := aj Try.f16) (by kernel_rfl) (by kernel_rfl) (by kernel_rfl) (S := gF) (k := 5) (by kernel_rfl) (fun R hR => ae) (n := 1000) (sel := JQ) (fun v o h => by cases h; rfl) (pre := pre) (F := F) (T := fun x => MO (x.2.1.1) (x.2.2.1.1) (x.2.2.2.1.1) (x.2.2.2.1.2.1) (x.2.2.2.1.2.2.1) (x.2.2.2.1.2.2.2.1) (x.2.2.2.1.2.2.2.2.1) (x.2.2.2.1.2.2.2.2.2.1) (x.2.2.2.1.2.2.2.2.2.2.1) (x.2.2.2.1.2.2.2.2.2.2.2.1) (x.2.2.2.1.2.2.2.2.2.2.2.2.1) (x.2.2.2.1.2.2.2.2.2.2.2.2.2.2.1) (x.2.2.2.2.1) (x.2.2.2.2.2.1)) (fun x Q => amG x Q) hF
def dp (x : zT) : Bool := ij ((x.2.2.2.2.1, ()), ())
def ZF (x : zT) : OT gF.Y := .ok ⟨Ff, (((), ()), ((x.2.1.1, ((), ((), ()))), ((x.2.2.1.1, ((), ())), (x.2.2.2.1, (x.2.2.2.2.1, (x.2.2.2.2.2.1, (x.2.2.2.2.1, ())))))))⟩
theorem ahW : aa Try.prog 16 (gF.aE dp ZF) := Vv _ _ fun x oy hp ho => by
  rw [← ho]
  clear ho
  obtain ⟨⟨⟨⟩, ⟨⟩⟩, ⟨⟨c, ⟨⟩, ⟨⟩, ⟨⟩⟩, ⟨s, ⟨⟩, ⟨⟩⟩, ⟨n, h0, h1, h2, h3, h4, h5, h6, h7, ⟨⟩, k, ⟨⟩⟩, o, w, ⟨⟩⟩⟩ := x
  refine (ah ?_).trans rfl
  simp only [List.all_cons, List.all_nil, Bool.and_true]
  exact hp
def tU : bL := (pU 0 1 98 m5 (gF.aE dp ZF))
theorem QN : aa Try.prog 16 tU := (kp Bc ahW)
theorem QM : aB tU := (fG Bb ax)
def xQ : Env := av 16 tU qu
theorem uH : aN Try.prog xQ := ag QN qt
theorem xP : aq xQ := ab QM sX
theorem SO : aU Try.prog te xQ := aG follows ak uH xP
def fv : ao := ⟨[.ptr 0 0 0, .val true (.prod .elem (.prod .elem .bool))], [(0, .cells [.val false .int, .ifp 98 1, .own 2]), (1, .cells [.val false .int, .val false (.list .elem)]), (2, .row .u8)], false, 2, true⟩
abbrev yF : Type := ((Unit) × ((af × (af × Bool))) × Unit) × (((Int) × (Unit) × (Unit) × Unit) × ((Int) × (List (af)) × Unit) × (List (UInt8)) × Unit)
def jK : ar := ⟨[.val false .int], [(0, .cells [.val false .int, .ifp 98 1, .own 2]), (1, .cells [.val false .int, .val false (.list .elem)]), (2, .row .u8)], false⟩
def Ix : SV → Option ar := fun _ => some jK
def vg (a1 : (af × (af × Bool))) (c0_0 : Int) (c1_0 : Int) (c1_1 : List (af)) (c2 : List (UInt8)) : OT fv.Y :=
  let z0 : List UInt8 := gJ c0_0 a1
  (.br (!onB c0_0 a1)
  (.ok ⟨jK, (((41 : Int), ()), ((c0_0, ((), ((), ()))), ((c1_0, (c1_1, ())), (c2, ()))))⟩)
  (gd [mY (((), (1 : UInt8), z0, ()), (c0_0, (), (), ()), (c1_0, c1_1, ()), c2, ())] (.ok ⟨jK, (((0 : Int), ()), ((c0_0, ((), ((), ()))), ((c1_0, (c1_1, ())), (c2 ++ z0, ()))))⟩)))
theorem akg (x : yF) (Q : fv.Y → Prop) : wpf te xQ au 1000 Try.f13 (fv.inp.inj x).tm (fv.inp.inj x).hp (fnK fv Ix Q) (fun _ _ => False) = (vg (x.1.2.1) (x.2.1.1) (x.2.2.1.1) (x.2.2.1.2.1) (x.2.2.2.1)).wpR Q := by kernel_rfl
theorem Tw (pre : yF → Bool) (F : yF → OT fv.Y) (hF : ∀ (x : yF) oy, pre x = true → (F x).run = some oy → (vg (x.1.2.1) (x.2.1.1) (x.2.2.1.1) (x.2.2.1.2.1) (x.2.2.2.1)).run = some oy) : aa Try.prog 13 (fv.aE pre F) :=
  az ak uH SO (f := 13) (fn := Try.f13) (c := aj Try.f13) (by kernel_rfl) (by kernel_rfl) (by kernel_rfl) (S := fv) (k := 3) (by kernel_rfl) (fun R hR => ae) (n := 1000) (sel := Ix) (fun v o h => by cases h; rfl) (pre := pre) (F := F) (T := fun x => vg (x.1.2.1) (x.2.1.1) (x.2.2.1.1) (x.2.2.1.2.1) (x.2.2.2.1)) (fun x Q => akg x Q) hF
theorem alK {b : List UInt8} (y : af) (h : b.length = 32) : (th b y).length = 32 := by
  unfold th
  rw [List.length_set]
  exact h
theorem nM {c : Int} {P : Pt} (h : onB c P = true) : (gJ c P).length = 32 := by
  have e := kn (ofP (pS c) P.1)
  unfold gJ
  generalize sr (ofP (pS c) P.1) = B at e
  rw [h, cond_true]
  exact alK _ e
def fH (x : yF) : Bool := decide (x.2.2.2.1.length ≤ 140737488350000)
def Xs (x : yF) : OT fv.Y := .br (onB x.2.1.1 x.1.2.1) (.ok ⟨jK, (((0 : Int), ()), ((x.2.1.1, ((), ((), ()))), ((x.2.2.1.1, (x.2.2.1.2.1, ())), (x.2.2.2.1 ++ gJ x.2.1.1 x.1.2.1, ()))))⟩)
  (.ok ⟨jK, (((41 : Int), ()), ((x.2.1.1, ((), ((), ()))), ((x.2.2.1.1, (x.2.2.1.2.1, ())), (x.2.2.2.1, ()))))⟩)
theorem Tx {c s : Int} {P : Pt} {l : List af} {o B : List UInt8} (hB : gJ c P = B) (hl : onB c P = true → B.length = 32) (ho : o.length ≤ 140737488350000) : (vg P c s l o).run = (OT.br (onB c P) (.ok ⟨jK, (((0 : Int), ()), ((c, ((), ((), ()))), ((s, (l, ())), (o ++ B, ()))))⟩)
  (.ok ⟨jK, (((41 : Int), ()), ((c, ((), ((), ()))), ((s, (l, ())), (o, ()))))⟩) : OT fv.Y).run := by
  unfold vg
  simp only [hB]
  rcases (Bool.eq_false_or_eq_true (onB c P)).symm with h | h
  · exact (OT.aw (b := !onB c P) (by rw [h]; rfl)).trans (OT.al (b := onB c P) h).symm
  · refine (OT.al (b := !onB c P) (by rw [h]; rfl)).trans (Eq.trans ((ah ?_).trans rfl) (OT.aw (b := onB c P) h).symm)
    simp only [List.all_cons, List.all_nil, Bool.and_true]
    exact decide_eq_true (by have := hl h; show o.length + B.length ≤ _; omega)
theorem ael : aa Try.prog 13 (fv.aE fH Xs) := Tw _ _ fun x oy hp ho => by
  rw [← ho]
  clear ho
  obtain ⟨⟨⟨⟩, P, ⟨⟩⟩, ⟨⟨c, ⟨⟩, ⟨⟩, ⟨⟩⟩, ⟨s, l, ⟨⟩⟩, o, ⟨⟩⟩⟩ := x
  have key := Tx (c := c) (s := s) (P := P) (l := l) (o := o) (B := gJ c P) (Eq.refl (gJ c P)) nM (of_decide_eq_true hp)
  exact key
def mZ : bL := (fv.aE fH Xs)
theorem A8 : aa Try.prog 13 mZ := ael
theorem A7 : aB mZ := ax
def xi : Env := av 13 mZ xQ
theorem uu : aN Try.prog xi := ag A8 uH
theorem xh : aq xi := ab A7 xP
theorem Ss : aU Try.prog te xi := aG follows ak uu xh
def fy : ao := ⟨[.ptr 0 0 0, .val true (.prod .elem (.prod .elem .bool))], [(0, .cells [.val false .int, .ifp 106 1, .own 3]), (1, .cells [.val false .int, .ptr 2 0 0]), (2, adP (.own 4)), (3, .row .u8), (4, .row .u8)], false, 3, true⟩
abbrev zO : Type := ((Unit) × ((af × (af × Bool))) × Unit) × (((Int) × (Unit) × (Unit) × Unit) × ((Int) × (Unit) × Unit) × ((Int) × (UInt64) × (UInt64) × (UInt64) × (UInt64) × (UInt64) × (UInt64) × (UInt64) × (UInt64) × (Unit) × (UInt64) × Unit) × (List (UInt8)) × (List (UInt8)) × Unit)
def kf : ar := ⟨[.val false .int], [(0, .cells [.val false .int, .ifp 106 1, .own 3]), (1, .cells [.val false .int, .ptr 2 0 0]), (2, .cells [.val false .int, .val false .u64, .val false .u64, .val false .u64, .val false .u64, .val false .u64, .val false .u64, .val false .u64, .val false .u64, .own 4, .val false .u64]), (3, .row .u8), (4, .row .u8)], false⟩
def JK : SV → Option ar := fun _ => some kf
def wo (a1 : (af × (af × Bool))) (c0_0 : Int) (c1_0 : Int) (c2_0 : Int) (c2_1 : UInt64) (c2_2 : UInt64) (c2_3 : UInt64) (c2_4 : UInt64) (c2_5 : UInt64) (c2_6 : UInt64) (c2_7 : UInt64) (c2_8 : UInt64) (c2_10 : UInt64) (c3 : List (UInt8)) (c4 : List (UInt8)) : OT fy.Y :=
  let z0 : List UInt8 := gJ c0_0 a1
  let z1 : Int × UInt64 × UInt64 × UInt64 × UInt64 × UInt64 × UInt64 × UInt64 × UInt64 × PUnit × UInt64 × PUnit := (c2_0, c2_1, c2_2, c2_3, c2_4, c2_5, c2_6, c2_7, c2_8, (), c2_10, ())
  let z2 : (Int × UInt64 × UInt64 × UInt64 × UInt64 × UInt64 × UInt64 × UInt64 × UInt64 × PUnit × UInt64 × PUnit) × List UInt8 := eM z1 c4 (1 : UInt8) z0
  let z3 := z2.fst
  let z4 := z3.snd
  let z5 := z4.snd
  let z6 := z5.snd
  let z7 := z6.snd
  let z8 := z7.snd
  let z9 := z8.snd
  let z10 := z9.snd
  let z11 := z10.snd
  (.br (!onB c0_0 a1)
  (.ok ⟨kf, (((41 : Int), ()), ((c0_0, ((), ((), ()))), ((c1_0, ((), ())), ((c2_0, (c2_1, (c2_2, (c2_3, (c2_4, (c2_5, (c2_6, (c2_7, (c2_8, ((), (c2_10, ()))))))))))), (c3, (c4, ()))))))⟩)
  (gd [wm (((), (1 : UInt8), z0, ()), (c0_0, (), (), ()), (c1_0, (), ()), z1, c3, c4, ())] (.ok ⟨kf, (((0 : Int), ()), ((c0_0, ((), ((), ()))), ((c1_0, ((), ())), ((z3.fst, (z4.fst, (z5.fst, (z6.fst, (z7.fst, (z8.fst, (z9.fst, (z10.fst, (z11.fst, ((), (z11.snd.snd.fst, ()))))))))))), (c3 ++ z0, (z2.snd, ()))))))⟩)))
theorem amB (x : zO) (Q : fy.Y → Prop) : wpf te xi au 1000 Try.f13 (fy.inp.inj x).tm (fy.inp.inj x).hp (fnK fy JK Q) (fun _ _ => False) = (wo (x.1.2.1) (x.2.1.1) (x.2.2.1.1) (x.2.2.2.1.1) (x.2.2.2.1.2.1) (x.2.2.2.1.2.2.1) (x.2.2.2.1.2.2.2.1) (x.2.2.2.1.2.2.2.2.1) (x.2.2.2.1.2.2.2.2.2.1) (x.2.2.2.1.2.2.2.2.2.2.1) (x.2.2.2.1.2.2.2.2.2.2.2.1) (x.2.2.2.1.2.2.2.2.2.2.2.2.1) (x.2.2.2.1.2.2.2.2.2.2.2.2.2.2.1) (x.2.2.2.2.1) (x.2.2.2.2.2.1)).wpR Q := by kernel_rfl
theorem Vk (pre : zO → Bool) (F : zO → OT fy.Y) (hF : ∀ (x : zO) oy, pre x = true → (F x).run = some oy → (wo (x.1.2.1) (x.2.1.1) (x.2.2.1.1) (x.2.2.2.1.1) (x.2.2.2.1.2.1) (x.2.2.2.1.2.2.1) (x.2.2.2.1.2.2.2.1) (x.2.2.2.1.2.2.2.2.1) (x.2.2.2.1.2.2.2.2.2.1) (x.2.2.2.1.2.2.2.2.2.2.1) (x.2.2.2.1.2.2.2.2.2.2.2.1) (x.2.2.2.1.2.2.2.2.2.2.2.2.1) (x.2.2.2.1.2.2.2.2.2.2.2.2.2.2.1) (x.2.2.2.2.1) (x.2.2.2.2.2.1)).run = some oy) : aa Try.prog 13 (fy.aE pre F) :=
  az ak uu Ss (f := 13) (fn := Try.f13) (c := aj Try.f13) (by kernel_rfl) (by kernel_rfl) (by kernel_rfl) (S := fy) (k := 5) (by kernel_rfl) (fun R hR => ae) (n := 1000) (sel := JK) (fun v o h => by cases h; rfl) (pre := pre) (F := F) (T := fun x => wo (x.1.2.1) (x.2.1.1) (x.2.2.1.1) (x.2.2.2.1.1) (x.2.2.2.1.2.1) (x.2.2.2.1.2.2.1) (x.2.2.2.1.2.2.2.1) (x.2.2.2.1.2.2.2.2.1) (x.2.2.2.1.2.2.2.2.2.1) (x.2.2.2.1.2.2.2.2.2.2.1) (x.2.2.2.1.2.2.2.2.2.2.2.1) (x.2.2.2.1.2.2.2.2.2.2.2.2.1) (x.2.2.2.1.2.2.2.2.2.2.2.2.2.2.1) (x.2.2.2.2.1) (x.2.2.2.2.2.1)) (fun x Q => amB x Q) hF
def dm (x : zO) : Bool := decide (x.2.2.2.2.1.length ≤ 140737488340000 ∧ x.2.2.2.2.2.1.length ≤ 128)
def ZC (x : zO) : OT fy.Y := .br (onB x.2.1.1 x.1.2.1) (.ok ⟨kf, (((0 : Int), ()), ((x.2.1.1, ((), ((), ()))), ((x.2.2.1.1, ((), ())), ((eM x.2.2.2.1 x.2.2.2.2.2.1 1 (gJ x.2.1.1 x.1.2.1)).1, (x.2.2.2.2.1 ++ gJ x.2.1.1 x.1.2.1, ((eM x.2.2.2.1 x.2.2.2.2.2.1 1 (gJ x.2.1.1 x.1.2.1)).2, ()))))))⟩)
  (.ok ⟨kf, (((41 : Int), ()), ((x.2.1.1, ((), ((), ()))), ((x.2.2.1.1, ((), ())), (x.2.2.2.1, (x.2.2.2.2.1, (x.2.2.2.2.2.1, ()))))))⟩)
theorem Vl {c s : Int} {P : Pt} {d : Ig} {w o B : List UInt8} (hB : gJ c P = B) (hl : onB c P = true → B.length = 32) (ho : o.length ≤ 140737488340000) (hw : w.length ≤ 128) :
    (wo P c s d.1 d.2.1 d.2.2.1 d.2.2.2.1 d.2.2.2.2.1 d.2.2.2.2.2.1 d.2.2.2.2.2.2.1 d.2.2.2.2.2.2.2.1 d.2.2.2.2.2.2.2.2.1 d.2.2.2.2.2.2.2.2.2.2.1 o w).run = (OT.br (onB c P) (.ok ⟨kf, (((0 : Int), ()), ((c, ((), ((), ()))), ((s, ((), ())), ((eM d w 1 B).1, (o ++ B, ((eM d w 1 B).2, ()))))))⟩)
  (.ok ⟨kf, (((41 : Int), ()), ((c, ((), ((), ()))), ((s, ((), ())), (d, (o, (w, ()))))))⟩) : OT fy.Y).run := by
  unfold wo
  simp only [hB]
  rcases (Bool.eq_false_or_eq_true (onB c P)).symm with h | h
  · exact (OT.aw (b := !onB c P) (by rw [h]; rfl)).trans (OT.al (b := onB c P) h).symm
  · refine (OT.al (b := !onB c P) (by rw [h]; rfl)).trans (Eq.trans ((ah ?_).trans rfl) (OT.aw (b := onB c P) h).symm)
    simp only [List.all_cons, List.all_nil, Bool.and_true]
    have := hl h
    exact decide_eq_true ⟨by show o.length + B.length ≤ _; omega, hw, by show B.length ≤ _; omega⟩
theorem ahN : aa Try.prog 13 (fy.aE dm ZC) := Vk _ _ fun x oy hp ho => by
  rw [← ho]
  clear ho
  obtain ⟨⟨⟨⟩, P, ⟨⟩⟩, ⟨⟨c, ⟨⟩, ⟨⟩, ⟨⟩⟩, ⟨s, ⟨⟩, ⟨⟩⟩, d, o, w, ⟨⟩⟩⟩ := x
  obtain ⟨h1, h2⟩ := of_decide_eq_true hp
  have key := Vl (c := c) (s := s) (P := P) (d := d) (w := w) (o := o) (B := gJ c P) (Eq.refl (gJ c P)) nM h1 h2
  exact key
def tS : bL := (pU 0 1 98 mZ (fy.aE dm ZC))
theorem QF : aa Try.prog 13 tS := (kp A8 ahN)
theorem QE : aB tS := (fG A7 ax)
def xO : Env := av 13 tS xi
theorem uG : aN Try.prog xO := ag QF uu
theorem xN : aq xO := ab QE xh
theorem SN : aU Try.prog te xO := aG follows ak uG xN
end Go.Proofs.Ytohjofabochgfaa

namespace Go.Proofs.Ytohjofabochgfaa
namespace Sx
open Go
def Ctx.pw (R : Ctx) (c : Nat) (ch : Ch) (b : Nat) (o : Obj) : Ctx :=
  ⟨fun b' => if b' = b then some o else R.F b', R.U, R.σ, fun c' => if c' = c then some ch else R.hp c'⟩
theorem JY {R : Ctx} {w : World} (hm : cP R w) {c e : Nat} {t : Ty} {xs : List t.T} (hc : R.hp c = some ⟨e, .row t xs⟩) : ∃ R1, cU R R1 w [(c, ⟨e, .frz t xs⟩)] := by
  have h0 := hm.ch c _ hc
  cases hσ : R.σ c with
  | none =>
    simp only [dT, hσ] at h0
    obtain ⟨hpos, hl, rfl⟩ := h0
    have hx : R.Ext (R.upd c ⟨e, .frz t []⟩) := ⟨fun _ _ h => h, rfl, fun c' ch' hc' => by
      by_cases h1 : c' = c
      · subst h1
        rw [hc] at hc'
        cases hc'
        exact ⟨⟨e, .frz t []⟩, by simp only [Ctx.upd, if_true], Nat.le_refl e, fun _ => ⟨rfl, rfl⟩⟩
      · exact ⟨ch', by simp only [Ctx.upd, if_neg h1, hc'], Nat.le_refl _, fun _ => ⟨rfl, rfl⟩⟩⟩
    refine ⟨R.upd c ⟨e, .frz t []⟩, hx, rfl, ?_⟩
    refine cP.turn hm hx rfl rfl (fun _ _ => rfl) w.heap.size (fun _ _ _ => rfl) ⟨hm.NT, hm.NO, fun n ch L hn h1 h2 h3 => ?_⟩ ?_ (fun L h2 => ?_)
    · have := hm.lt h1 h2 h3; omega
    · simp only [dT, Ctx.upd, hσ]
      exact ⟨hpos, hl, trivial⟩
    · have h2 : R.σ c = some L := h2
      rw [hσ] at h2; cases h2
  | some L =>
    simp only [dT, hσ] at h0
    obtain ⟨hpos, hl, hF, hU, arr, E, k1, k2, k3, k4⟩ := h0
    have hx : R.Ext (R.pw c ⟨e, .frz t xs⟩ L.block (.cells arr E (0, 0))) := ⟨fun b o' h => by
      have : b ≠ L.block := fun e' => by rw [e', hF] at h; cases h
      simp only [Ctx.pw, if_neg this, h], rfl, fun c' ch' hc' => by
        by_cases h1 : c' = c
        · subst h1
          rw [hc] at hc'
          cases hc'
          exact ⟨⟨e, .frz t xs⟩, by simp only [Ctx.pw, if_true], Nat.le_refl e, fun _ => ⟨rfl, rfl⟩⟩
        · exact ⟨ch', by simp only [Ctx.pw, if_neg h1, hc'], Nat.le_refl _, fun _ => ⟨rfl, rfl⟩⟩⟩
    refine ⟨R.pw c ⟨e, .frz t xs⟩ L.block (.cells arr E (0, 0)), hx, rfl, fun b o' h => ?_, fun b o' h => hm.U b o' h, fun c' ch' hc' => ?_, fun c1 c2 ch1 ch2 L1 L2 g1 g2 g3 g4 g5 g6 g7 => ?_, fun b o' h => ?_, hm.env⟩
    · simp only [Ctx.pw] at h
      split at h
      · rename_i h1
        subst h1
        rw [k1]; exact h
      · exact hm.F b o' h
    · by_cases h1 : c' = c
      · subst h1
        simp only [Ctx.pw, if_true] at hc'
        cases hc'
        simp only [dT, Ctx.pw, hσ]
        exact ⟨hpos, hl, arr, E, (0, 0), by simp only [if_true], k2, k3, fun i hi => bC hx.F _ _ _ (k4 i hi)⟩
      · simp only [Ctx.pw, if_neg h1] at hc'
        have hch := hm.ch c' ch' hc'
        have hs : (R.pw c ⟨e, .frz t xs⟩ L.block (.cells arr E (0, 0))).σ c' = R.σ c' := rfl
        have hblk : ∀ L', R.σ c' = some L' → ch'.body.mut = true → L'.block ≠ L.block := fun L' h2 h3 h4 => h1 (hm.apart c' c _ _ _ _ hc' hc h3 rfl h2 hσ h4)
        have hFn : ∀ b, b ≠ L.block → R.F b = none → (R.pw c ⟨e, .frz t xs⟩ L.block (.cells arr E (0, 0))).F b = none := fun b h2 h3 => by simp only [Ctx.pw, if_neg h2, h3]
        obtain ⟨ep, body⟩ := ch'
        cases body with
        | row t ys =>
          simp only [dT] at hch ⊢
          rw [hs]
          refine ⟨hch.1, hch.2.1, ?_⟩
          replace hch := hch.2.2
          cases hL : R.σ c' with
          | none => rw [hL] at hch; exact hch
          | some L' =>
            rw [hL] at hch
            obtain ⟨c1, c2, arr, E, c3, c4, c5, c6⟩ := hch
            have hne := hblk L' hL rfl
            exact ⟨hFn _ hne c1, c2, arr, E, c3, c4, c5, fun i hi => bC hx.F _ _ _ (c6 i hi)⟩
        | frz t ys =>
          simp only [dT] at hch ⊢
          rw [hs]
          refine ⟨hch.1, hch.2.1, ?_⟩
          replace hch := hch.2.2
          cases hL : R.σ c' with
          | none => rw [hL] at hch; exact hch
          | some L' =>
            rw [hL] at hch
            obtain ⟨arr, E, fz, c3, c4, c5, c6⟩ := hch
            exact ⟨arr, E, fz, hx.F _ _ c3, c4, c5, fun i hi => bC hx.F _ _ _ (c6 i hi)⟩
        | cells vs =>
          simp only [dT] at hch ⊢
          obtain ⟨L', hL, c1, c2, arr, E, c3, c4, c5, c6, c7⟩ := hch
          have hne := hblk L' hL rfl
          exact ⟨L', by rw [hs]; exact hL, hFn _ hne c1, c2, arr, E, c3, c4, c5, SV.cZ hx _ _ c6, c7⟩
    · by_cases h1 : c1 = c
      · subst h1
        simp only [Ctx.pw, if_true] at g1
        cases g1
        cases g3
      · by_cases h2 : c2 = c
        · subst h2
          simp only [Ctx.pw, if_true] at g2
          cases g2
          cases g4
        · simp only [Ctx.pw, if_neg h1] at g1
          simp only [Ctx.pw, if_neg h2] at g2
          exact hm.apart _ _ _ _ _ _ g1 g2 g3 g4 g5 g6 g7
    · simp only [Ctx.pw] at h
      split at h
      · rename_i h1
        subst h1
        exact hU
      · exact hm.FU b o' h
def QV (k j : Nat) (s : bL) : bL := ⟨true, fun d args hp => match args.getD k .bT with
  | .agg vs => match vs.getD j .bT with
    | .own c e => match dF hp c e with
      | some (.row t xs) => (s.f d args (di hp [(c, ⟨e, .frz t xs⟩)])).map (Out.after [(c, ⟨e, .frz t xs⟩)])
      | some _ => s.f d args hp
      | none => .fail
    | _ => s.f d args hp
  | _ => s.f d args hp⟩
theorem ah9 {P : Program} {f : FuncId} {s : bL} {k j : Nat} (h : aa P f s) : aa P f (QV k j s) := by
  refine ⟨fun R w d args vs out hm hr hrun => ?_⟩
  simp only [QV] at hrun
  split at hrun
  · split at hrun
    · rename_i c e hce
      split at hrun
      · rename_i t xs hc
        obtain ⟨out', h1, rfl⟩ := OT.run_map hrun
        obtain ⟨R1, ha⟩ := JY hm (b7 hc)
        rw [← show R1.hp = di R.hp [(c, ⟨e, .frz t xs⟩)] from ha.hp] at h1
        have hr1 : SV.bA R1 args vs := SV.cZ ha.ext _ _ hr
        have hpost : ∀ en w', io R1 out' en w' → io R (Out.after [(c, ⟨e, .frz t xs⟩)] out') en w' := fun en w' hp => by
          cases out' with
          | ret q =>
            obtain ⟨v, R', h2, h3, h4⟩ := hp
            exact ⟨v, R', h2, ha.trans h3, h4⟩
          | pan q u =>
            obtain ⟨v, R', h2, h3, h4⟩ := hp
            exact ⟨v, R', h2, ha.trans h3, h4⟩
        rcases h.calls R1 w d _ vs out' ha.mem hr1 h1 with ⟨fn, f1, f2, f3, hcl⟩ | ⟨v, w', hv, hp⟩
        · exact .inl ⟨fn, f1, f2, f3, hcl.mono hpost⟩
        · exact .inr ⟨v, w', hv, hpost _ _ hp⟩
      · exact h.calls R w d args vs out hm hr hrun
      · cases hrun
    · exact h.calls R w d args vs out hm hr hrun
  · exact h.calls R w d args vs out hm hr hrun
theorem VC {s : bL} {k j : Nat} (h : aB s) : aB (QV k j s) := fun d args hp hp' out hg hrun => by
  simp only [QV] at hrun ⊢
  split at hrun
  · split at hrun
    · split at hrun
      · rename_i t xs hc
        rw [bF hg hc]
        simp only
        obtain ⟨out', h1, rfl⟩ := OT.run_map hrun
        refine Mx (h d _ _ _ out' ⟨fun n ch hn => ?_, fun n hn hn0 => ?_⟩ h1)
        · simp only [di] at hn ⊢
          split
          · rename_i h2; rw [if_pos h2] at hn; exact hn
          · rename_i h2; rw [if_neg h2] at hn; exact hg.iO _ _ hn
        · simp only [di] at hn0 ⊢
          split
          · rename_i h2; rw [if_pos h2] at hn0; cases hn0
          · rename_i h2; rw [if_neg h2] at hn0; exact hg.free _ hn hn0
      · rename_i b hnr hc
        rw [bF hg hc]
        cases b <;> first | exact h _ _ _ _ _ hg hrun | exact absurd rfl (hnr _ _)
      · cases hrun
    · exact h _ _ _ _ _ hg hrun
  · exact h _ _ _ _ _ hg hrun
end Sx
end Go.Proofs.Ytohjofabochgfaa

namespace Go.Proofs.Ytohjofabochgfaa
open Sx Go
set_option maxRecDepth 100000
def eV : ao := ⟨[.val true (.prod .int (.list .elem))], [], false, 0, false⟩
abbrev rJ : Type := (((Int × List (af))) × Unit) × (Unit)
def Ab : ar := ⟨[.val true (.prod .int (.list .elem))], [], false⟩
def FX : SV → Option ar := fun _ => some Ab
def FY (a0 : (Int × List (af))) : OT eV.Y :=
  (gd [yz ((a0.snd, ()), ())] (.ok ⟨Ab, ((a0, ()), ())⟩))
theorem aiM (x : rJ) (Q : eV.Y → Prop) : wpf te xO au 1000 Try.f10 (eV.inp.inj x).tm (eV.inp.inj x).hp (fnK eV FX Q) (fun _ _ => False) = (FY (x.1.1)).wpR Q := by kernel_rfl
theorem Rr (pre : rJ → Bool) (F : rJ → OT eV.Y) (hF : ∀ (x : rJ) oy, pre x = true → (F x).run = some oy → (FY (x.1.1)).run = some oy) : aa Try.prog 10 (eV.aE pre F) :=
  az ak uG SN (f := 10) (fn := Try.f10) (c := aj Try.f10) (by kernel_rfl) (by kernel_rfl) (by kernel_rfl) (S := eV) (k := 0) (by kernel_rfl) (fun R hR => ae) (n := 1000) (sel := FX) (fun v o h => by cases h; rfl) (pre := pre) (F := F) (T := fun x => FY (x.1.1)) (fun x Q => aiM x Q) hF
theorem cB {s : Int} (h : aA s = true) : aA (cp s 1) = true := by
  rcases cC h with rfl | rfl | rfl | rfl <;> rfl
theorem ndT {α : Type} [DecidableEq α] {a b : α} (h : a = b) : (!decide (a = b)) = false := by rw [decide_eq_true h]; rfl
def nP (x : rJ) : Bool := decide (x.1.1.2.length * 32 ≤ 140737488355328)
def Rs (x : rJ) : OT eV.Y := .ok ⟨Ab, ((x.1.1, ()), ())⟩
theorem ac1 : aa Try.prog 10 (eV.aE nP Rs) := Rr _ _ fun x oy hp ho => by
  rw [← ho]
  clear ho
  refine (ah ?_).trans rfl
  simp only [List.all_cons, List.all_nil, Bool.and_true]
  exact hp
def pL : bL := (QV 0 1 (eV.aE nP Rs))
theorem Nd : aa Try.prog 10 pL := (ah9 ac1)
theorem Nc : aB pL := (VC ax)
def qC : Env := av 10 pL xO
theorem qB : aN Try.prog qC := ag Nd uG
theorem s4 : aq qC := ab Nc xN
theorem N9 : aU Try.prog te qC := aG follows ak qB s4
def jN : ao := ⟨[], [], true, 0, false⟩
abbrev ID : Type := (Unit) × (Unit)
def La : ar := ⟨[.val false .bool], [], false⟩
def OP : SV → Option ar := fun _ => some La
def TJ : OT jN.Y :=
  (.ok ⟨La, ((true, ()), ())⟩)
theorem aoO (x : ID) (Q : jN.Y → Prop) : wpf te qC au 1000 Try.f6 (jN.inp.inj x).tm (jN.inp.inj x).hp (fnK jN OP Q) (fun _ _ => False) = (TJ).wpR Q := by kernel_rfl
theorem aaV (pre : ID → Bool) (F : ID → OT jN.Y) (hF : ∀ (x : ID) oy, pre x = true → (F x).run = some oy → (TJ).run = some oy) : aa Try.prog 6 (jN.aE pre F) :=
  az ak qB N9 (f := 6) (fn := Try.f6) (c := aj Try.f6) (by kernel_rfl) (by kernel_rfl) (by kernel_rfl) (S := jN) (k := 0) (by kernel_rfl) (fun R hR => ae) (n := 1000) (sel := OP) (fun v o h => by cases h; rfl) (pre := pre) (F := F) (T := fun x => TJ) (fun x Q => aoO x Q) hF
def OQ (_ : ID) : Bool := true
def aeq (_ : ID) : OT jN.Y := .ok ⟨La, ((true, ()), ())⟩
theorem akl : aa Try.prog 6 (jN.aE OQ aeq) := aaV _ _ fun x oy hp ho => by
  rw [← ho]
  clear ho
  rfl
def yL : bL := (jN.aE OQ aeq)
theorem TH : aa Try.prog 6 yL := akl
theorem TG : aB yL := ax
def uy : Env := av 6 yL qC
theorem mI : aN Try.prog uy := ag TH qB
theorem BP : aq uy := ab TG s4
theorem ux : aU Try.prog te uy := aG follows ak mI BP
end Go.Proofs.Ytohjofabochgfaa
