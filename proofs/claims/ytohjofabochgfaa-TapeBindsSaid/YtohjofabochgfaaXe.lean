/- A symbolic machine for Go code over plain data, and functions of the program as it shows them. No statement is proved in this file. -/
import Derived.KernelRfl
import Derived.Test.YtohjofabochgfaaXd
set_option linter.unusedSimpArgs false
set_option linter.unusedVariables false
set_option linter.unusedSectionVars false

namespace Go.Proofs.Ytohjofabochgfaa
open Sx Go
set_option maxRecDepth 100000
def gp : ak := ⟨[.val false (.list .u8), .val false (.list .u8)], [], true, 0, false⟩
abbrev As : Type := ((List (UInt8)) × (List (UInt8)) × Unit) × (Unit)
def o8 : Shape := ⟨26, [(0, .val false (.list .u8)), (1, .val false (.list .u8)), (5, .val false .int)], [], 0, true⟩
abbrev aW : Type := ((List (UInt8)) × (List (UInt8)) × (Int) × Unit) × (Unit)
def l7 : Shape := ⟨26, [(4, .val false .bool)], [], 0, true⟩
abbrev gm : Type := ((Bool) × Unit) × (Unit)
def l8 : Shape := ⟨26, [], [], 0, true⟩
abbrev gn : Type := (Unit) × (Unit)
def Mb : SE → Option Shape := nt [(0, l8)] (some l7)
def Xk (a0 : List (UInt8)) (a1 : List (UInt8)) (a5 : Int) : OT (Sum aW aS) :=
  let z0 : Nat := List.length a0
  let z1 : Nat := Int.toNat a5
  (.br (decide (a5 < (↑z0 : Int)))
  (gd [inB a5 z0, inB a5 (List.length a1)] (.br (!List.getD a0 z1 (0 : UInt8) == List.getD a1 z1 (0 : UInt8))
    (.ok (.inr ⟨(.ret, l7), ((false, ()), ())⟩))
    (gd [inR (a5 + (1 : Int))] (.ok (.inl ((a0, (a1, (a5 + (1 : Int), ()))), ()))))))
  (.ok (.inr ⟨(.exit 0, l8), ((), ())⟩)))
def pa (s : aW) : OT (Sum aW aS) := Xk (s.1.1) (s.1.2.1) (s.1.2.2.1)
theorem Xh (s : aW) (Q : Sum aW aS → Prop) : wps te Cd az 1000 (bM (al Try.f15) 0) (o8.inj s) (dm o8 Mb (Q : Sum o8.T aS → Prop)) = (pa s).wpR Q := by kernel_rfl
def l5 (g0_r : aW → gm) (c0_r : aW → Bool) (g0_0 : aW → gn) (s : aW) : OT aS := (.br (c0_r s) (.ok ⟨(.ret, l7), g0_r s⟩) (.ok ⟨(.exit 0, l8), g0_0 s⟩))
def o9 : aq := ⟨[.val false .bool], [], false⟩
def EX : SV → Option aq := fun _ => some o9
def I1 (ok0 : aW → Bool) (g0_r : aW → gm) (c0_r : aW → Bool) (g0_0 : aW → gn) (a0 : List (UInt8)) (a1 : List (UInt8)) : OT gp.Y :=
  let z0 : (List UInt8 × List UInt8 × Int × PUnit) × PUnit := ((a0, a1, (0 : Int), ()), ())
  (.br (!(↑(List.length a0) : Int) == (↑(List.length a1) : Int))
  (.ok ⟨o9, ((false, ()), ())⟩)
  (gd [ok0 z0] (.br (c0_r z0)
    (.ok ⟨o9, (((g0_r z0).fst.fst, ()), ())⟩)
    (.ok ⟨o9, ((true, ()), ())⟩))))
theorem abf (ok0 : aW → Bool) (g0_r : aW → gm) (c0_r : aW → Bool) (g0_0 : aW → gn) (x : As) (Q : gp.Y → Prop) : wpf te Cd (bK 0 (dZ o8 0 ok0 (l5 g0_r c0_r g0_0)) az) 1000 Try.f15 (gp.inp.inj x).tm (gp.inp.inj x).hp (fnK gp EX Q) (fun _ _ => False) = (I1 ok0 g0_r c0_r g0_0 (x.1.1) (x.1.2.1)).wpR Q := by kernel_rfl
theorem Pk (ok0 : aW → Bool) (g0_r : aW → gm) (c0_r : aW → Bool) (g0_0 : aW → gn) (h0 : ∀ s : aW, ok0 s = true → ∃ m e, aB (pa) m s = some e ∧ (l5 g0_r c0_r g0_0 s).run = some e) (pre : As → Bool) (F : As → OT gp.Y) (hF : ∀ (x : As) oy, pre x = true → (F x).run = some oy → (I1 ok0 g0_r c0_r g0_0 (x.1.1) (x.1.2.1)).run = some oy) : ab Try.prog 15 (gp.aE pre F) :=
  aC ao qV Cc (f := 15) (fn := Try.f15) (c := al Try.f15) (by kernel_rfl) (by kernel_rfl) (by kernel_rfl) (S := gp) (k := 0) (by kernel_rfl) (fun R hR => (aL (c := (al Try.f15)) (by kernel_rfl) (id := 0) (by kernel_rfl) (bJ ao qV Cc (sh := o8) hR (xs := Mb) (aI (by kernel_rfl) (by kernel_rfl) hR) bk ae (n := 1000) (T := pa) (fun s Q => Xh s Q) (ok := ok0) (f := l5 g0_r c0_r g0_0) h0) ae)) (n := 1000) (sel := EX) (fun v o h => by cases h; rfl) (pre := pre) (F := F) (T := fun x => I1 ok0 g0_r c0_r g0_0 (x.1.1) (x.1.2.1)) (fun x Q => abf ok0 g0_r c0_r g0_0 x Q) hF
def EY (s : aW) : Bool := decide (s.1.2.2.1 = 0 ∧ s.1.1.length = s.1.2.1.length ∧ s.1.1.length ≤ 140737488355328)
def EZ (_ : aW) : gm := ((false, ()), ())
def l9 (s : aW) : Bool := !decide (s.1.1 = s.1.2.1)
def Mc (_ : aW) : gn := ((), ())
theorem Ar {a b : List UInt8} (hab : a.length = b.length) (hl : a.length ≤ 140737488355328) : ∀ d i, i + d = a.length →
    ∃ m, aB pa m ((a, b, (i : Int), ()), ()) = some (cond (decide (a.drop i = b.drop i)) ⟨(.exit 0, l8), ((), ())⟩ ⟨(.ret, l7), ((false, ()), ())⟩)
  | 0, i, h => by
    refine ⟨1, ?_⟩
    have h1 : a.drop i = [] := List.drop_eq_nil_of_le (by omega)
    have h2 : b.drop i = [] := List.drop_eq_nil_of_le (by omega)
    rw [h1, h2, decide_eq_true rfl]
    exact ca (OT.ay (decide_eq_false (by dsimp only; omega)))
  | d + 1, i, h => by
    have hi : i < a.length := by omega
    have hi' : i < b.length := by omega
    have e1 : a.drop i = a[i] :: a.drop (i + 1) := List.drop_eq_getElem_cons hi
    have e2 : b.drop i = b[i] :: b.drop (i + 1) := List.drop_eq_getElem_cons hi'
    have g1 : a.getD i 0 = a[i] := by simp [List.getD_eq_getElem?_getD, hi]
    have g2 : b.getD i 0 = b[i] := by simp [List.getD_eq_getElem?_getD, hi']
    have hg : ∀ x : OT (Sum aW aS), (gd [inB (i : Int) a.length, inB (i : Int) b.length] x).run = x.run := fun x => aj (by simp only [List.all_cons, List.all_nil, Bool.and_true, Bool.and_eq_true]; exact ⟨aQ (by omega), aQ (by omega)⟩)
    by_cases hx : a[i] = b[i]
    · obtain ⟨m, hm⟩ := Ar hab hl d (i + 1) (by omega)
      refine ⟨m + 1, bx (s' := ((a, b, ((i + 1 : Nat) : Int), ()), ())) ?_ ?_⟩
      · refine (OT.ax (decide_eq_true (by dsimp only; omega))).trans ((hg _).trans ((OT.ay ?_).trans ((aj ?_).trans rfl)))
        · simp only [Int.toNat_natCast, g1, g2, hx]
          simp
        · simp only [List.all_cons, List.all_nil, Bool.and_true]
          exact aX (by omega)
      · rw [hm, e1, e2, hx]
        simp only [List.cons.injEq, true_and]
    · refine ⟨1, ?_⟩
      have : decide (a.drop i = b.drop i) = false := decide_eq_false (by rw [e1, e2]; intro h; exact hx (List.cons.inj h).1)
      rw [this]
      refine ca ((OT.ax (decide_eq_true (by dsimp only; omega))).trans ((hg _).trans ((OT.ax ?_).trans rfl)))
      simp only [Int.toNat_natCast, g1, g2]
      simp [hx]
theorem Xj : ∀ s : aW, EY s = true → ∃ m e, aB pa m s = some e ∧ (l5 EZ l9 Mc s).run = some e := by
  rintro ⟨⟨a, b, i, ⟨⟩⟩, ⟨⟩⟩ h
  have h' := of_decide_eq_true h
  dsimp only at h'
  obtain ⟨rfl, hab, hl⟩ := h'
  obtain ⟨m, hm⟩ := Ar hab hl a.length 0 (by omega)
  refine ⟨m, _, hm, ?_⟩
  simp only [List.drop_zero]
  by_cases hx : a = b
  · simp only [l5, l9, hx, decide_true, Bool.not_true]
    rfl
  · have : decide (a = b) = false := decide_eq_false hx
    simp only [l5, l9, this, Bool.not_false]
    rfl
def iV (x : As) : Bool := decide (x.1.1.length ≤ 140737488355328)
def vW (x : As) : OT gp.Y := .ok ⟨o9, ((decide (x.1.1 = x.1.2.1), ()), ())⟩
theorem Xi : ab Try.prog 15 (gp.aE iV vW) := Pk EY EZ l9 Mc Xj _ _ fun x oy hp ho => by
  rw [← ho]
  clear ho
  obtain ⟨⟨a, b, ⟨⟩⟩, ⟨⟩⟩ := x
  have hp' : a.length ≤ 140737488355328 := of_decide_eq_true hp
  by_cases hab : a.length = b.length
  · refine (OT.ay (by simp [hab])).trans ((aj ?_).trans ?_)
    · simp only [List.all_cons, List.all_nil, Bool.and_true]
      exact decide_eq_true ⟨rfl, hab, hp'⟩
    · by_cases hx : a = b
      · refine (OT.ay (by simp [l9, hx])).trans ?_
        simp only [vW, hx, decide_true]
      · refine (OT.ax (by simp [l9, hx])).trans ?_
        have : decide (a = b) = false := decide_eq_false hx
        simp only [vW, this]
        rfl
  · refine (OT.ax (by simp; omega)).trans ?_
    have : decide (a = b) = false := decide_eq_false fun e => hab (by rw [e])
    simp only [vW, this]
def rJ : bO := (gp.aE iV vW)
theorem I0 : ab Try.prog 15 rJ := Xi
theorem IZ : aD rJ := aA
def tn : Env := av 15 rJ Cd
theorem nj : aN Try.prog tn := ah I0 qV
theorem uA : ar tn := ac IZ y5
theorem yS : aY Try.prog te tn := aG follows ao nj uA
def dB : ak := ⟨[.val false (.list .u8)], [], true, 0, false⟩
abbrev mJ : Type := ((List (UInt8)) × Unit) × (Unit)
def js : Shape := ⟨27, [(2, .ptr 0 0 0), (3, .ptr 1 0 0), (6, .val false (.list .u8)), (7, .val false .int), (8, .val false .int)], [(0, .row .u64), (1, .row .u64)], 0, true⟩
abbrev aU : Type := ((Unit) × (Unit) × (List (UInt8)) × (Int) × (Int) × Unit) × ((List (UInt64)) × (List (UInt64)) × Unit)
def iD : Shape := ⟨27, [(2, .ptr 0 0 0), (3, .ptr 1 0 0)], [(0, .row .u64), (1, .row .u64)], 0, true⟩
abbrev dM : Type := ((Unit) × (Unit) × Unit) × ((List (UInt64)) × (List (UInt64)) × Unit)
def Bt : SE → Option Shape := nt [(0, iD)] none
def Qx (a6 : List (UInt8)) (a7 : Int) (a8 : Int) (c0 : List (UInt64)) (c1 : List (UInt64)) : OT (Sum aU aS) :=
  let z0 : Int := Int.tdiv a8 (8 : Int)
  let z1 : Bool := inB z0 4
  let z2 : Bool := decide (Int.toNat z0 + 0 < List.length c1)
  let z3 : Int := (8 : Int) * Int.tmod a8 (8 : Int)
  (.br (decide (a8 < a7))
  (gd [inB a8 (List.length a6), true && inR z0, z1, z2, inR z3, decide ((0 : Int) ≤ z3), z1, z2, inR (a8 + (1 : Int))] (.ok (.inl (((), ((), (a6, (a7, (a8 + (1 : Int), ()))))), (c0, (List.set c1 (Int.toNat z0 + 0) (List.getD c1 (Int.toNat z0 + 0) (0 : UInt64) ||| bC (UInt8.toUInt64 (List.getD a6 (Int.toNat a8) (0 : UInt8))) z3), ()))))))
  (.ok (.inr ⟨(.exit 0, iD), (((), ((), ())), (c0, (c1, ())))⟩)))
def jt (s : aU) : OT (Sum aU aS) := Qx (s.1.2.2.1) (s.1.2.2.2.1) (s.1.2.2.2.2.1) (s.2.1) (s.2.2.1)
theorem Qu (s : aU) (Q : Sum aU aS → Prop) : wps te tn az 1000 (bM (al Try.f73) 0) (js.inj s) (dm js Bt (Q : Sum js.T aS → Prop)) = (jt s).wpR Q := by kernel_rfl
def mI (g0_0 : aU → dM) (s : aU) : OT aS := (.ok ⟨(.exit 0, iD), g0_0 s⟩)
def mH : aq := ⟨[.val true .elem], [], false⟩
def xI : SV → Option aq := fun _ => some mH
def li (ok0 : aU → Bool) (g0_0 : aU → dM) (a0 : List (UInt8)) : OT dB.Y :=
  let z0 : (PUnit × PUnit × List UInt8 × Int × Int × PUnit) × List UInt64 × List UInt64 × PUnit := (((), (), a0, (↑(List.length a0) : Int), (0 : Int), ()), [(0 : UInt64), (0 : UInt64), (0 : UInt64), (0 : UInt64)], [(0 : UInt64), (0 : UInt64), (0 : UInt64), (0 : UInt64)], ())
  let z1 := (g0_0 z0).snd
  let z2 := z1.snd.fst
  let z3 := z1.fst
  let z4 : List UInt64 := lay z3 z2 4 (0 : UInt64)
  (gd [ok0 z0, decide (4 ≤ List.length z2), decide ((4 / 1 : Nat) + 0 ≤ List.length z3), decide (4 ≤ List.length z4)] (.ok ⟨mH, (({ w0 := List.getD z4 0 0, w1 := List.getD z4 1 0, w2 := List.getD z4 2 0, w3 := List.getD z4 3 0 }, ()), ())⟩))
theorem Vx (ok0 : aU → Bool) (g0_0 : aU → dM) (x : mJ) (Q : dB.Y → Prop) : wpf te tn (bK 0 (dZ js 0 ok0 (mI g0_0)) az) 1000 Try.f73 (dB.inp.inj x).tm (dB.inp.inj x).hp (fnK dB xI Q) (fun _ _ => False) = (li ok0 g0_0 (x.1.1)).wpR Q := by kernel_rfl
theorem GW (ok0 : aU → Bool) (g0_0 : aU → dM) (h0 : ∀ s : aU, ok0 s = true → ∃ m e, aB (jt) m s = some e ∧ (mI g0_0 s).run = some e) (pre : mJ → Bool) (F : mJ → OT dB.Y) (hF : ∀ (x : mJ) oy, pre x = true → (F x).run = some oy → (li ok0 g0_0 (x.1.1)).run = some oy) : ab Try.prog 73 (dB.aE pre F) :=
  aC ao nj yS (f := 73) (fn := Try.f73) (c := al Try.f73) (by kernel_rfl) (by kernel_rfl) (by kernel_rfl) (S := dB) (k := 0) (by kernel_rfl) (fun R hR => (aL (c := (al Try.f73)) (by kernel_rfl) (id := 0) (by kernel_rfl) (bJ ao nj yS (sh := js) hR (xs := Bt) (aI (by kernel_rfl) (by kernel_rfl) hR) bk ae (n := 1000) (T := jt) (fun s Q => Qu s Q) (ok := ok0) (f := mI g0_0) h0) ae)) (n := 1000) (sel := xI) (fun v o h => by cases h; rfl) (pre := pre) (F := F) (T := fun x => li ok0 g0_0 (x.1.1)) (fun x Q => Vx ok0 g0_0 x Q) hF
def Uy (b : List UInt8) (k : Nat) (l : List UInt64) : List UInt64 := l.set (k / 8) (l.getD (k / 8) 0 ||| bC (UInt8.toUInt64 (b.getD k 0)) (8 * ((k % 8 : Nat) : Int)))
def afz (b : List UInt8) (n : Nat) : List UInt64 := upto (Uy b) [0, 0, 0, 0] n
def ada (b : List UInt8) : ag := elemOf (afz b 32)
theorem wY (b : List UInt8) : ∀ n, (afz b n).length = 4
  | 0 => rfl
  | n + 1 => (List.length_set ..).trans (wY b n)
def xJ (s : aU) : Bool := decide (s.1.2.2.1.length = 32 ∧ s.1.2.2.2.1 = 32 ∧ s.1.2.2.2.2.1 = 0 ∧ s.2.2.1 = [0, 0, 0, 0])
def Bu (s : aU) : dM := (((), (), ()), (s.2.1, afz s.1.2.2.1 32, ()))
theorem afL (i : Nat) : Int.tdiv (i : Int) 8 = ((i / 8 : Nat) : Int) := by rw [Int.tdiv_eq_ediv_of_nonneg (by omega)]; omega
theorem afM (i : Nat) : Int.tmod (i : Int) 8 = ((i % 8 : Nat) : Int) := by rw [Int.tmod_eq_emod_of_nonneg (by omega)]; omega
theorem Qw : ∀ s : aU, xJ s = true → ∃ m e, aB jt m s = some e ∧ (mI Bu s).run = some e := by
  rintro ⟨⟨⟨⟩, ⟨⟩, b, n, i, ⟨⟩⟩, ⟨c0, c1, ⟨⟩⟩⟩ h
  have h' := of_decide_eq_true h
  dsimp only at h'
  obtain ⟨hb, rfl, rfl, rfl⟩ := h'
  have := (bt (T := jt) (fun i o => ((((), (), b, (32 : Int), (i : Int), ()), (c0, o, ())) : aU)) (Uy b)
    (fun o => (⟨(.exit 0, iD), (((), (), ()), (c0, o, ()))⟩ : aS)) 32 [0, 0, 0, 0] (fun _ o => o.length = 4) rfl (fun i o hi ho => ⟨?_, (List.length_set ..).trans ho⟩) (fun o ho => ?_)).1
  · obtain ⟨m, hm⟩ := this
    exact ⟨m, _, hm, rfl⟩
  · have t1 := afL i
    have t2 := afM i
    refine (OT.ax (decide_eq_true (by dsimp only; omega))).trans ((aj ?_).trans ?_)
    · simp only [t1, t2, ho, hb, Int.toNat_natCast, List.all_cons, List.all_nil, Bool.and_true, Bool.true_and, Bool.and_eq_true]
      exact ⟨aQ (by omega), aX (by omega), aQ (by omega), decide_eq_true (by omega), aX (by omega), decide_eq_true (by omega), aQ (by omega), decide_eq_true (by omega), aX (by omega)⟩
    · simp only [OT.dq, t1, t2, Int.toNat_natCast, Nat.add_zero]
      rfl
  · exact OT.ay (decide_eq_false (by dsimp only; omega))
def j5 (x : mJ) : Bool := decide (x.1.1.length = 32)
def GY (x : mJ) : OT dB.Y := .ok ⟨mH, ((ada x.1.1, ()), ())⟩
abbrev GV (b : List UInt8) : aU := (((), (), b, (b.length : Int), 0, ()), ([0, 0, 0, 0], [0, 0, 0, 0], ()))
theorem GX {ok0 : aU → Bool} {g0 : aU → dM} {b : List UInt8} {L : List UInt64} (hok : ok0 (GV b) = true)
    (hg : g0 (GV b) = (((), (), ()), ([0, 0, 0, 0], L, ()))) (hL : L.length = 4) : (li ok0 g0 b).run = some ⟨mH, ((elemOf L, ()), ())⟩ := by
  have e : lay [0, 0, 0, 0] L 4 0 = L := Gh rfl hL
  unfold li
  simp only [hg]
  refine (aj ?_).trans ?_
  · simp only [e, hL, List.all_cons, List.all_nil, Bool.and_true, Bool.and_eq_true]
    exact ⟨hok, rfl, rfl, rfl⟩
  · rw [e]
    rfl
theorem Qv : ab Try.prog 73 (dB.aE j5 GY) := GW xJ Bu Qw _ _ fun x oy hp ho => by
  rw [← ho]
  clear ho
  obtain ⟨⟨b, ⟨⟩⟩, ⟨⟩⟩ := x
  have hb : b.length = 32 := of_decide_eq_true hp
  exact GX (b := b) (L := afz b 32) (decide_eq_true ⟨hb, by show ((b.length : Nat) : Int) = 32; omega, rfl, rfl⟩) rfl (wY b 32)
def lh : bO := (dB.aE j5 GY)
theorem DH : ab Try.prog 73 lh := Qv
theorem DG : aD lh := aA
def lS : Env := av 73 lh tn
theorem lR : aN Try.prog lS := ah DH nj
theorem nM : ar lS := ac DG uA
theorem EH : aY Try.prog te lS := aG follows ao lR nM
def fK : ak := ⟨[.val false .int, .val false (.list .u8)], [], true, 0, false⟩
abbrev Bo : Type := ((Int) × (List (UInt8)) × Unit) × (Unit)
def eR : aq := ⟨[.val true .elem, .val false .int], [], false⟩
def GJ : SV → Option aq := fun _ => some eR
def xv (a0 : Int) (a1 : List (UInt8)) : OT fK.Y :=
  let z0 : Nat := List.length a1
  let z1 : Int := (↑z0 : Int)
  let z2 : ag := { w0 := 0, w1 := 0, w2 := 0, w3 := 0 }
  let z3 : List UInt8 := List.drop 0 (List.take 32 a1)
  let z4 : List UInt8 := List.drop 32 a1
  let z5 : ag := (cI (Int.toNat a0)).fst
  (.br (aw a0)
  (.br (!z1 == (64 : Int))
    (.ok ⟨eR, ((z2, ((21 : Int), ())), ())⟩)
    (gd [cV (0 : Int) (32 : Int) z0, j5 ((z3, ()), ()), cV (32 : Int) z1 z0, j5 ((z4, ()), ())] (.br (ue z5)
      (.ok ⟨eR, ((z2, ((10 : Int), ())), ())⟩)
      (.ok ⟨eR, ((aeb (ada z3) (ada z4) z5, ((0 : Int), ())), ())⟩))))
  (.ok ⟨eR, ((z2, ((20 : Int), ())), ())⟩))
theorem ado (x : Bo) (Q : fK.Y → Prop) : wpf te lS az 1000 Try.f122 (fK.inp.inj x).tm (fK.inp.inj x).hp (fnK fK GJ Q) (fun _ _ => False) = (xv (x.1.1) (x.1.2.1)).wpR Q := by kernel_rfl
theorem Qk (pre : Bo → Bool) (F : Bo → OT fK.Y) (hF : ∀ (x : Bo) oy, pre x = true → (F x).run = some oy → (xv (x.1.1) (x.1.2.1)).run = some oy) : ab Try.prog 122 (fK.aE pre F) :=
  aC ao lR EH (f := 122) (fn := Try.f122) (c := al Try.f122) (by kernel_rfl) (by kernel_rfl) (by kernel_rfl) (S := fK) (k := 0) (by kernel_rfl) (fun R hR => ae) (n := 1000) (sel := GJ) (fun v o h => by cases h; rfl) (pre := pre) (F := F) (T := fun x => xv (x.1.1) (x.1.2.1)) (fun x Q => ado x Q) hF
def xg (b : List UInt8) : Bool := (b.length : Int) == 64
def aba (s : Int) (b : List UInt8) : ag := aeb (ada (b.take 32)) (ada (b.drop 32)) (cI s.toNat).1
def GK (_ : Bo) : Bool := true
def Vn (x : Bo) : OT fK.Y := .br (aw x.1.1) (.br (xg x.1.2.1) (.ok ⟨eR, ((aba x.1.1 x.1.2.1, ((0 : Int), ())), ())⟩) (.ok ⟨eR, ((⟨0, 0, 0, 0⟩, ((21 : Int), ())), ())⟩)) (.ok ⟨eR, ((⟨0, 0, 0, 0⟩, ((20 : Int), ())), ())⟩)
theorem Gc {b : List UInt8} : xg b = true ↔ b.length = 64 := by
  unfold xg
  rw [beq_iff_eq]
  omega
theorem Y7 {s : Int} (h : aw s = true) : ue (cI s.toNat).1 = false := by
  rcases b6 h with rfl | rfl | rfl | rfl <;> rfl
theorem Ql {s : Int} {b : List UInt8} {W : ag} (hW : aeb (ada (List.drop 0 (b.take 32))) (ada (b.drop 32)) (cI s.toNat).1 = W) : (xv s b).run = (OT.br (aw s) (.br (xg b) (.ok ⟨eR, ((W, ((0 : Int), ())), ())⟩) (.ok ⟨eR, ((⟨0, 0, 0, 0⟩, ((21 : Int), ())), ())⟩)) (.ok ⟨eR, ((⟨0, 0, 0, 0⟩, ((20 : Int), ())), ())⟩) : OT fK.Y).run := by
  unfold xv
  simp only [hW]
  rcases (Bool.eq_false_or_eq_true (aw s)).symm with hs | hs
  · exact (OT.ay hs).trans (OT.ay (b := aw s) hs).symm
  · refine (OT.ax hs).trans (Eq.trans ?_ (OT.ax (b := aw s) hs).symm)
    rcases (Bool.eq_false_or_eq_true (xg b)).symm with hl | hl
    · exact (OT.ax (b := !xg b) (by rw [hl]; rfl)).trans (OT.ay (b := xg b) hl).symm
    · have hb : b.length = 64 := Gc.1 hl
      refine (OT.ay (b := !xg b) (by rw [hl]; rfl)).trans (Eq.trans ?_ (OT.ax (b := xg b) hl).symm)
      refine (aj ?_).trans (OT.ay (Y7 hs))
      simp only [List.all_cons, List.all_nil, Bool.and_true, Bool.and_eq_true]
      exact ⟨fp (by omega), decide_eq_true (by show (List.drop 0 (b.take 32)).length = 32; rw [List.drop_zero, List.length_take]; omega), fp (by omega), decide_eq_true (by show (List.drop 32 b).length = 32; rw [List.length_drop]; omega)⟩
theorem Zu : ab Try.prog 122 (fK.aE GK Vn) := Qk _ _ fun x oy hp ho => by
  rw [← ho]
  clear ho
  obtain ⟨⟨s, b, ⟨⟩⟩, ⟨⟩⟩ := x
  exact Ql rfl
def sL : bO := (fK.aE GK Vn)
theorem Kw : ab Try.prog 122 sL := Zu
theorem Kv : aD sL := aA
def tG : Env := av 122 sL lS
theorem np : aN Try.prog tG := ah Kw lR
theorem uP : ar tG := ac Kv nM
theorem zk : aY Try.prog te tG := aG follows ao np uP
def dg : ak := ⟨[.val false .int, .val true .elem], [], true, 0, false⟩
abbrev mN : Type := ((Int) × (ag) × Unit) × (Unit)
def ju : Shape := ⟨39, [(3, .ptr 0 0 0), (7, .own 1), (21, .val false .int), (22, .val false .int)], [(0, .row .u64), (1, .row .u8)], 0, true⟩
abbrev bj : Type := ((Unit) × (Unit) × (Int) × (Int) × Unit) × ((List (UInt64)) × (List (UInt8)) × Unit)
def iE : Shape := ⟨39, [(7, .own 0)], [(0, .row .u8)], 0, true⟩
abbrev eS : Type := ((Unit) × Unit) × ((List (UInt8)) × Unit)
def Bz : SE → Option Shape := nt [(0, iE)] none
def QJ (a21 : Int) (a22 : Int) (c0 : List (UInt64)) (c1 : List (UInt8)) : OT (Sum bj aS) :=
  let z0 : Int := Int.tdiv a22 (8 : Int)
  let z1 : Int := (8 : Int) * Int.tmod a22 (8 : Int)
  let z2 : Nat := List.length c1
  let z3 : Nat := Int.toNat a22
  (.br (decide (a22 < a21))
  (gd [true && inR z0, inB z0 4, decide (Int.toNat z0 + 0 < List.length c0), inR z1, decide ((0 : Int) ≤ z1), inB a22 z2, decide (z3 < z2), inR (a22 + (1 : Int))] (.ok (.inl (((), ((), (a21, (a22 + (1 : Int), ())))), (c0, (List.set c1 z3 (UInt64.toUInt8 (aP (List.getD c0 (Int.toNat z0 + 0) (0 : UInt64)) z1)), ()))))))
  (.ok (.inr ⟨(.exit 0, iE), (((), ()), (c1, ()))⟩)))
def jv (s : bj) : OT (Sum bj aS) := QJ (s.1.2.2.1) (s.1.2.2.2.1) (s.2.1) (s.2.2.1)
theorem QG (s : bj) (Q : Sum bj aS → Prop) : wps te tG az 1000 (bM (al Try.f34) 0) (ju.inj s) (dm ju Bz (Q : Sum ju.T aS → Prop)) = (jv s).wpR Q := by kernel_rfl
def mM (g0_0 : bj → eS) (s : bj) : OT aS := (.ok ⟨(.exit 0, iE), g0_0 s⟩)
def fk : aq := ⟨[.own 0], [(0, .row .u8)], false⟩
def xS : SV → Option aq := fun _ => some fk
def xU (ok0 : bj → Bool) (g0_0 : bj → eS) (a0 : Int) (a1 : ag) : OT dg.Y :=
  let z0 : ag × Int × UInt64 × UInt64 × ag := cI (Int.toNat a0)
  let z1 : ag := ofN (ag.nat a1 % ag.nat z0.fst)
  let z2 : (PUnit × PUnit × Int × Int × PUnit) × List UInt64 × List UInt8 × PUnit := (((), (), (32 : Int), (0 : Int), ()), [z1.w0, z1.w1, z1.w2, z1.w3], List.replicate 32 (0 : UInt8), ())
  (.br (aw a0)
  (gd [iB ((z0, a1, ()), ()), ok0 z2] (.ok ⟨fk, (((), ()), ((g0_0 z2).snd.fst, ()))⟩))
  (.ok ⟨fk, (((), ()), ([], ()))⟩))
theorem VE (ok0 : bj → Bool) (g0_0 : bj → eS) (x : mN) (Q : dg.Y → Prop) : wpf te tG (bK 0 (dZ ju 0 ok0 (mM g0_0)) az) 1000 Try.f34 (dg.inp.inj x).tm (dg.inp.inj x).hp (fnK dg xS Q) (fun _ _ => False) = (xU ok0 g0_0 (x.1.1) (x.1.2.1)).wpR Q := by kernel_rfl
theorem G5 (ok0 : bj → Bool) (g0_0 : bj → eS) (h0 : ∀ s : bj, ok0 s = true → ∃ m e, aB (jv) m s = some e ∧ (mM g0_0 s).run = some e) (pre : mN → Bool) (F : mN → OT dg.Y) (hF : ∀ (x : mN) oy, pre x = true → (F x).run = some oy → (xU ok0 g0_0 (x.1.1) (x.1.2.1)).run = some oy) : ab Try.prog 34 (dg.aE pre F) :=
  aC ao np zk (f := 34) (fn := Try.f34) (c := al Try.f34) (by kernel_rfl) (by kernel_rfl) (by kernel_rfl) (S := dg) (k := 0) (by kernel_rfl) (fun R hR => (aL (c := (al Try.f34)) (by kernel_rfl) (id := 0) (by kernel_rfl) (bJ ao np zk (sh := ju) hR (xs := Bz) (aI (by kernel_rfl) (by kernel_rfl) hR) bk ae (n := 1000) (T := jv) (fun s Q => QG s Q) (ok := ok0) (f := mM g0_0) h0) ae)) (n := 1000) (sel := xS) (fun v o h => by cases h; rfl) (pre := pre) (F := F) (T := fun x => xU ok0 g0_0 (x.1.1) (x.1.2.1)) (fun x Q => VE ok0 g0_0 x Q) hF
def DR (e : ag) : List UInt8 := upto (fun k o => o.set k (UInt64.toUInt8 (aP ((lst e).getD (k / 8) 0) (8 * ((k % 8 : Nat) : Int))))) (List.replicate 32 0) 32
def oi (s : bj) : Bool := decide (s.1.2.2.1 = 32 ∧ s.1.2.2.2.1 = 0 ∧ s.2.1.length = 4 ∧ s.2.2.1 = List.replicate 32 0)
def mL (s : bj) : eS := (((), ()), (DR (elemOf s.2.1), ()))
theorem QI : ∀ s : bj, oi s = true → ∃ m e, aB jv m s = some e ∧ (mM mL s).run = some e := by
  rintro ⟨⟨⟨⟩, ⟨⟩, n, i, ⟨⟩⟩, ⟨h, o, ⟨⟩⟩⟩ hh
  have h' := of_decide_eq_true hh
  dsimp only at h'
  obtain ⟨rfl, rfl, hl, rfl⟩ := h'
  obtain ⟨e, rfl⟩ : ∃ e, h = lst e := ⟨elemOf h, (b8 hl).symm⟩
  have := (bt (T := jv) (fun i o => ((((), (), (32 : Int), (i : Int), ()), (lst e, o, ())) : bj)) (fun k o => o.set k (UInt64.toUInt8 (aP ((lst e).getD (k / 8) 0) (8 * ((k % 8 : Nat) : Int)))))
    (fun o => (⟨(.exit 0, iE), (((), ()), (o, ()))⟩ : aS)) 32 (List.replicate 32 0) (fun _ o => o.length = 32) (by simp) (fun i o hi ho => ⟨?_, by rw [List.length_set]; exact ho⟩) (fun o ho => ?_)).1
  · obtain ⟨m, hm⟩ := this
    exact ⟨m, _, hm, rfl⟩
  · have t1 : Int.tdiv (i : Int) 8 = ((i / 8 : Nat) : Int) := by rw [Int.tdiv_eq_ediv_of_nonneg (by omega)]; omega
    have t2 : Int.tmod (i : Int) 8 = ((i % 8 : Nat) : Int) := by rw [Int.tmod_eq_emod_of_nonneg (by omega)]; omega
    refine (OT.ax (decide_eq_true (by dsimp only; omega))).trans ((aj ?_).trans ?_)
    · simp only [t1, t2, ee, ho, Int.toNat_natCast, List.all_cons, List.all_nil, Bool.and_true, Bool.and_eq_true]
      exact ⟨⟨trivial, aX (by omega)⟩, aQ (by omega), decide_eq_true (by omega), aX (by omega), decide_eq_true (by omega), aQ (by omega), decide_eq_true (by omega), aX (by omega)⟩
    · simp only [OT.dq, t1, t2, Int.toNat_natCast, Nat.add_zero]
      rfl
  · exact OT.ay (decide_eq_false (by dsimp only; omega))
theorem zX (e : ag) : oi (((), (), 32, 0, ()), (lst e, List.replicate 32 0, ())) = true := decide_eq_true ⟨rfl, rfl, rfl, rfl⟩
theorem KJ (z : ag) : (OT.ok ⟨fk, (((), ()), ((mL (((), (), 32, 0, ()), ([z.w0, z.w1, z.w2, z.w3], List.replicate 32 0, ()))).2.1, ()))⟩ : OT dg.Y) = .ok ⟨fk, (((), ()), (DR z, ()))⟩ := by
  have e : elemOf [z.w0, z.w1, z.w2, z.w3] = z := rfl
  simp only [mL, e]
def xT (_ : mN) : Bool := true
def G6 (x : mN) : OT dg.Y := .br (aw x.1.1) (.ok ⟨fk, (((), ()), (DR (ofN (x.1.2.1.nat % (cI x.1.1.toNat).1.nat)), ()))⟩) (.ok ⟨fk, (((), ()), ([], ()))⟩)
theorem QH : ab Try.prog 34 (dg.aE xT G6) := G5 oi mL QI _ _ fun x oy hp ho => by
  rw [← ho]
  clear ho
  obtain ⟨⟨s, a, ⟨⟩⟩, ⟨⟩⟩ := x
  cases hs : aw s
  · exact (OT.ay hs).trans (OT.ay (b := aw s) hs).symm
  · refine (OT.ax hs).trans ((aj ?_).trans ?_)
    · simp only [List.all_cons, List.all_nil, Bool.and_true, Bool.and_eq_true]
      exact ⟨vq hs, zX _⟩
    · refine Eq.trans ?_ (OT.ax (b := aw s) hs).symm
      exact congrArg OT.run (KJ (ofN (a.nat % (cI s.toNat).1.nat)))
def lm : bO := (dg.aE xT G6)
theorem DM : ab Try.prog 34 lm := QH
theorem DL : aD lm := aA
def lV : Env := av 34 lm tG
theorem lU : aN Try.prog lV := ah DM np
theorem nN : ar lV := ac DL uP
theorem EI : aY Try.prog te lV := aG follows ao lU nN
def cc : ak := ⟨[.val false .int, .val true (.prod .elem (.prod .elem .bool))], [], true, 0, false⟩
abbrev iF : Type := ((Int) × ((ag × (ag × Bool))) × Unit) × (Unit)
def cU : aq := ⟨[.own 0], [(0, .row .u8)], false⟩
def yj : SV → Option aq := fun _ => some cU
def lB (a0 : Int) (a1 : (ag × (ag × Bool))) : OT cc.Y :=
  let z0 : List UInt8 := DR (ofN (ag.nat a1.fst % ag.nat (cI (Int.toNat a0)).fst))
  let z1 : Nat := Int.toNat ((↑(List.length z0) : Int) - (1 : Int))
  (.br (!onB a0 a1)
  (.ok ⟨cU, (((), ()), ([], ()))⟩)
  (gd [aw a0] (.ok ⟨cU, (((), ()), (List.set z0 z1 (List.getD z0 z1 (0 : UInt8) ||| UInt64.toUInt8 (a1.snd.fst.w0 &&& (1 : UInt64)) <<< (7 : UInt8)), ()))⟩)))
theorem V9 (x : iF) (Q : cc.Y → Prop) : wpf te lV az 1000 Try.f37 (cc.inp.inj x).tm (cc.inp.inj x).hp (fnK cc yj Q) (fun _ _ => False) = (lB (x.1.1) (x.1.2.1)).wpR Q := by kernel_rfl
theorem Ho (pre : iF → Bool) (F : iF → OT cc.Y) (hF : ∀ (x : iF) oy, pre x = true → (F x).run = some oy → (lB (x.1.1) (x.1.2.1)).run = some oy) : ab Try.prog 37 (cc.aE pre F) :=
  aC ao lU EI (f := 37) (fn := Try.f37) (c := al Try.f37) (by kernel_rfl) (by kernel_rfl) (by kernel_rfl) (S := cc) (k := 0) (by kernel_rfl) (fun R hR => ae) (n := 1000) (sel := yj) (fun v o h => by cases h; rfl) (pre := pre) (F := F) (T := fun x => lB (x.1.1) (x.1.2.1)) (fun x Q => V9 x Q) hF
def Jr (b : List UInt8) (y : ag) : List UInt8 := b.set 31 (b.getD 31 0 ||| UInt64.toUInt8 (y.w0 &&& 1) <<< 7)
def qf (s : Int) (P : Pt) : List UInt8 := cond (onB s P) (Jr (DR (ofP (pS s) P.1)) P.2.1) []
def yk (_ : iF) : Bool := true
def Hr (x : iF) : OT cc.Y := .br (onB x.1.1 x.1.2.1) (.ok ⟨cU, (((), ()), (Jr (DR (ofP (pS x.1.1) x.1.2.1.1)) x.1.2.1.2.1, ()))⟩) (.ok ⟨cU, (((), ()), ([], ()))⟩)
theorem j8 (e : ag) : (DR e).length = 32 := by
  unfold DR
  have key : ∀ n, (upto (fun k (o : List UInt8) => o.set k (UInt64.toUInt8 (aP ((lst e).getD (k / 8) 0) (8 * ((k % 8 : Nat) : Int))))) (List.replicate 32 0) n).length = 32 := by
    intro n
    induction n with
    | zero => rfl
    | succ n ih => exact (List.length_set ..).trans ih
  exact key 32
theorem Hq {s : Int} {P : Pt} {B : List UInt8} (hB : DR (ofN (P.1.nat % (cI s.toNat).1.nat)) = B) (hl : B.length = 32) : (lB s P).run = (OT.br (onB s P) (.ok ⟨cU, (((), ()), (Jr B P.2.1, ()))⟩) (.ok ⟨cU, (((), ()), ([], ()))⟩) : OT cc.Y).run := by
  unfold lB
  have e : Int.toNat ((B.length : Int) - 1) = 31 := by rw [hl]; rfl
  simp only [hB, e]
  rcases (Bool.eq_false_or_eq_true (onB s P)).symm with h | h
  · exact (OT.ax (b := !onB s P) (by rw [h]; rfl)).trans (OT.ay (b := onB s P) h).symm
  · refine (OT.ay (b := !onB s P) (by rw [h]; rfl)).trans (Eq.trans ((aj ?_).trans rfl) (OT.ax (b := onB s P) h).symm)
    simp only [List.all_cons, List.all_nil, Bool.and_true]
    exact Y6 h
theorem BJ : ab Try.prog 37 (cc.aE yk Hr) := Ho _ _ fun x oy hp ho => by
  rw [← ho]
  clear ho
  obtain ⟨⟨s, P, ⟨⟩⟩, ⟨⟩⟩ := x
  exact Hq (B := DR (ofP (pS s) P.1)) rfl (j8 _)
def lA : bO := (cc.aE yk Hr)
theorem D0 : ab Try.prog 37 lA := BJ
theorem DZ : aD lA := aA
def zB : Env := av 37 lA lV
theorem IB : aN Try.prog zB := ah D0 lU
theorem Ai : ar zB := ac DZ nN
abbrev BH : ak := cc
def uo (_ : iF) : Bool := true
def BI (x : iF) : OT cc.Y := .ok ⟨cU, (((), ()), (qf x.1.1 x.1.2.1, ()))⟩
theorem Hn (s : Int) (P : Pt) : (OT.br (onB s P) (.ok ⟨cU, (((), ()), (Jr (DR (ofP (pS s) P.1)) P.2.1, ()))⟩) (.ok ⟨cU, (((), ()), ([], ()))⟩) : OT cc.Y).run = some ⟨cU, (((), ()), (qf s P, ()))⟩ := by
  unfold qf
  generalize Jr (DR (ofP (pS s) P.1)) P.2.1 = B
  rcases (Bool.eq_false_or_eq_true (onB s P)).symm with h | h
  · rw [h]; rfl
  · rw [h]; rfl
theorem KW : ab Try.prog 37 (BH.aE uo BI) := nV (S := cc) BJ fun x oy hp ho => ⟨rfl, (Hn x.1.1 x.1.2.1).trans ho⟩
def kb : bO := (BH.aE uo BI)
theorem zZ : ab Try.prog 37 kb := KW
theorem zY : aD kb := aA
def jH : Env := av 37 kb zB
theorem kn : aN Try.prog jH := ah zZ IB
theorem lY : ar jH := ac zY Ai
theorem Ah : aY Try.prog te jH := aG follows ao kn lY
def ez : ak := ⟨[.val false (.list .elem)], [], true, 0, false⟩
abbrev rL : Type := ((List (ag)) × Unit) × (Unit)
def vY : aq := ⟨[.own 0], [(0, .row .elem)], false⟩
def Au : SV → Option aq := fun _ => some vY
def Cx (a0 : List (ag)) : OT ez.Y :=
  (gd [decide ((0 + List.length a0) * 32 ≤ 140737488355328)] (.ok ⟨vY, (((), ()), ([] ++ a0, ()))⟩))
theorem Xl (x : rL) (Q : ez.Y → Prop) : wpf te jH az 1000 Try.f33 (ez.inp.inj x).tm (ez.inp.inj x).hp (fnK ez Au Q) (fun _ _ => False) = (Cx (x.1.1)).wpR Q := by kernel_rfl
theorem I4 (pre : rL → Bool) (F : rL → OT ez.Y) (hF : ∀ (x : rL) oy, pre x = true → (F x).run = some oy → (Cx (x.1.1)).run = some oy) : ab Try.prog 33 (ez.aE pre F) :=
  aC ao kn Ah (f := 33) (fn := Try.f33) (c := al Try.f33) (by kernel_rfl) (by kernel_rfl) (by kernel_rfl) (S := ez) (k := 0) (by kernel_rfl) (fun R hR => ae) (n := 1000) (sel := Au) (fun v o h => by cases h; rfl) (pre := pre) (F := F) (T := fun x => Cx (x.1.1)) (fun x Q => Xl x Q) hF
def rK (x : rL) : Bool := decide (x.1.1.length * 32 ≤ 140737488355328)
def Md (x : rL) : OT ez.Y := .ok ⟨vY, (((), ()), (x.1.1, ()))⟩
theorem RX : ab Try.prog 33 (ez.aE rK Md) := I4 _ _ fun x oy hp ho => by
  rw [← ho]
  have hp' : x.1.1.length * 32 ≤ 140737488355328 := of_decide_eq_true hp
  refine (aj ?_).trans rfl
  simp only [List.all_cons, List.all_nil, Bool.and_true]
  exact decide_eq_true (by omega)
def nR : bO := (ez.aE rK Md)
theorem E4 : ab Try.prog 33 nR := RX
theorem E3 : aD nR := aA
def qK : Env := av 33 nR jH
theorem oG : aN Try.prog qK := ah E4 kn
theorem qJ : ar qK := ac E3 lY
theorem Ih : aY Try.prog te qK := aG follows ao oG qJ
def eT : ak := ⟨[.val false (.list .elem)], [], true, 0, false⟩
abbrev KT : Type := ((List (ag)) × Unit) × (Unit)
def lu : aq := ⟨[.own 0], [(0, .row .elem)], false⟩
def BD : SV → Option aq := fun _ => some lu
def DS (a0 : List (ag)) : OT eT.Y :=
  (gd [decide (((0 : Nat) + List.length a0) * (32 : Nat) ≤ (140737488355328 : Nat))] (.ok ⟨lu, (((), ()), ([] ++ a0, ()))⟩))
def VT : OT eT.Y := .ok ⟨lu, (((), ()), ([], ()))⟩
theorem ZI (x : KT) (Q : eT.Y → Prop) : wpf te qK az 1000 Try.f55 (eT.inp.inj x).tm (eT.inp.inj x).hp (fnK eT BD Q) (fun _ _ => False) =
    Bool.rec (motive := fun _ => Prop) ((DS x.1.1).wpR Q) (VT.wpR Q ∧ (DS x.1.1).wpR Q) (List.isEmpty x.1.1) := by kernel_rfl
def sR (x : KT) : Bool := decide (x.1.1.length * 32 ≤ 140737488355328)
def Oz (x : KT) : OT eT.Y := .ok ⟨lu, (((), ()), (x.1.1, ()))⟩
theorem VS : ab Try.prog 55 (eT.aE sR Oz) := by
  refine ZA ao oG Ih (f := 55) (fn := Try.f55) (c := al Try.f55) (by kernel_rfl) (by kernel_rfl) (by kernel_rfl) (S := eT) (k := 0) (by kernel_rfl) (Λ := az) (fun R hR => ae) (n := 1000) fun x oy hp hr => ⟨fnK eT BD (fun z => z = oy), fun _ _ => False, ?_, fun v hp hq => ?_, fun _ _ hq => hq.elim⟩
  · refine (ZI x _).mpr ?_
    cases hr
    have hp' : x.1.1.length * 32 ≤ 140737488355328 := of_decide_eq_true hp
    have h1 : (DS x.1.1).wpR (fun z => z = ⟨lu, (((), ()), (x.1.1, ()))⟩) := by
      rw [OT.EU]
      refine OT.ky (aj ?_) rfl
      simp only [List.all_cons, List.all_nil, Bool.and_true]
      exact decide_eq_true (by omega)
    cases hb : List.isEmpty x.1.1
    · exact h1
    · refine ⟨?_, h1⟩
      rw [List.isEmpty_iff.1 hb]
      rfl
  · unfold fnK at hq
    split at hq
    · rename_i o ho
      split at hq
      · rename_i y hy
        subst hq
        exact ⟨by cases ho; rfl, hy⟩
      · exact hq.elim
    · exact hq.elim
def om : bO := (eT.aE sR Oz)
theorem Hf : ab Try.prog 55 om := VS
theorem He : aD om := aA
def rf : Env := av 55 om qK
theorem oQ : aN Try.prog rf := ah Hf oG
theorem re : ar rf := ac He qJ
theorem Iz : aY Try.prog te rf := aG follows ao oQ re
def gz : ak := ⟨[.ptr 0 0 0], [(0, .cells [.val false (.list .elem)])], false, 1, true⟩
abbrev AD : Type := ((Unit) × Unit) × (((List (ag)) × Unit) × Unit)
def vj : aq := ⟨[.val true .elem, .val false .int], [(0, .cells [.val false (.list .elem)])], false⟩
def Fg : SV → Option aq := fun _ => some vj
def Jg (c0_0 : List (ag)) : OT gz.Y :=
  let z0 : Nat := List.length c0_0
  let z1 : Int := (↑z0 : Int)
  let z2 : ag := { w0 := 0, w1 := 0, w2 := 0, w3 := 0 }
  (.br (z1 == (0 : Int))
  (.ok ⟨vj, ((z2, ((81 : Int), ())), ((c0_0, ()), ()))⟩)
  (gd [inB (0 : Int) z0, cV (1 : Int) z1 z0] (.ok ⟨vj, ((List.getD c0_0 0 z2, ((0 : Int), ())), ((List.drop 1 c0_0, ()), ()))⟩)))
theorem abl (x : AD) (Q : gz.Y → Prop) : wpf te rf az 1000 Try.f118 (gz.inp.inj x).tm (gz.inp.inj x).hp (fnK gz Fg Q) (fun _ _ => False) = (Jg (x.2.1.1)).wpR Q := by kernel_rfl
theorem Ps (pre : AD → Bool) (F : AD → OT gz.Y) (hF : ∀ (x : AD) oy, pre x = true → (F x).run = some oy → (Jg (x.2.1.1)).run = some oy) : ab Try.prog 118 (gz.aE pre F) :=
  aC ao oQ Iz (f := 118) (fn := Try.f118) (c := al Try.f118) (by kernel_rfl) (by kernel_rfl) (by kernel_rfl) (S := gz) (k := 1) (by kernel_rfl) (fun R hR => ae) (n := 1000) (sel := Fg) (fun v o h => by cases h; rfl) (pre := pre) (F := F) (T := fun x => Jg (x.2.1.1)) (fun x Q => abl x Q) hF
def ej (l : List ag) : ag × Int × List ag := match l with
  | [] => (⟨0, 0, 0, 0⟩, 81, [])
  | x :: r => (x, 0, r)
def Fh (x : AD) : Bool := decide (x.2.1.1.length ≤ 140737488355328)
def R8 (x : AD) : OT gz.Y := .ok ⟨vj, (((ej x.2.1.1).1, ((ej x.2.1.1).2.1, ())), (((ej x.2.1.1).2.2, ()), ()))⟩
theorem Xr : ab Try.prog 118 (gz.aE Fh R8) := Ps _ _ fun x oy hp ho => by
  rw [← ho]
  clear ho
  obtain ⟨⟨⟨⟩, ⟨⟩⟩, ⟨⟨l, ⟨⟩⟩, ⟨⟩⟩⟩ := x
  have hl : l.length ≤ 140737488355328 := of_decide_eq_true hp
  cases l with
  | nil => rfl
  | cons y r =>
    have h0 : (((y :: r).length : Int) == 0) = false := by simp; omega
    refine (OT.ay h0).trans ((aj ?_).trans rfl)
    simp only [List.length_cons] at hl ⊢
    simp only [List.all_cons, List.all_nil, Bool.and_true, Bool.and_eq_true]
    exact ⟨aQ (by omega), fp (by omega)⟩
def mc : bO := (gz.aE Fh R8)
theorem wg : ab Try.prog 118 mc := Xr
theorem we : aD mc := aA
def yX : Env := av 118 mc rf
theorem tr : aN Try.prog yX := ah wg oQ
theorem uD : ar yX := ac we re
theorem LA : aY Try.prog te yX := aG follows ao tr uD
def eD : ak := ⟨[.ptr 0 0 1], [(0, .cells [.val false .int, .val false (.list .elem)])], false, 1, true⟩
abbrev rR : Type := ((Unit) × Unit) × (((Int) × (List (ag)) × Unit) × Unit)
def pk : aq := ⟨[.val true .elem, .val false .int], [(0, .cells [.val false .int, .val false (.list .elem)])], false⟩
def AC : SV → Option aq := fun _ => some pk
def CB (c0_0 : Int) (c0_1 : List (ag)) : OT eD.Y :=
  let z0 : Nat := List.length c0_1
  let z1 : Int := (↑z0 : Int)
  let z2 : ag := { w0 := 0, w1 := 0, w2 := 0, w3 := 0 }
  (.br (z1 == (0 : Int))
  (.ok ⟨pk, ((z2, ((81 : Int), ())), ((c0_0, (c0_1, ())), ()))⟩)
  (gd [inB (0 : Int) z0, cV (1 : Int) z1 z0] (.ok ⟨pk, ((List.getD c0_1 0 z2, ((0 : Int), ())), ((c0_0, (List.drop 1 c0_1, ())), ()))⟩)))
theorem Xq (x : rR) (Q : eD.Y → Prop) : wpf te yX az 1000 Try.f118 (eD.inp.inj x).tm (eD.inp.inj x).hp (fnK eD AC Q) (fun _ _ => False) = (CB (x.2.1.1) (x.2.1.2.1)).wpR Q := by kernel_rfl
theorem Jf (pre : rR → Bool) (F : rR → OT eD.Y) (hF : ∀ (x : rR) oy, pre x = true → (F x).run = some oy → (CB (x.2.1.1) (x.2.1.2.1)).run = some oy) : ab Try.prog 118 (eD.aE pre F) :=
  aC ao tr LA (f := 118) (fn := Try.f118) (c := al Try.f118) (by kernel_rfl) (by kernel_rfl) (by kernel_rfl) (S := eD) (k := 1) (by kernel_rfl) (fun R hR => ae) (n := 1000) (sel := AC) (fun v o h => by cases h; rfl) (pre := pre) (F := F) (T := fun x => CB (x.2.1.1) (x.2.1.2.1)) (fun x Q => Xq x Q) hF
def rQ (x : rR) : Bool := decide (x.2.1.2.1.length ≤ 140737488355328)
def Mg (x : rR) : OT eD.Y := .ok ⟨pk, (((ej x.2.1.2.1).1, ((ej x.2.1.2.1).2.1, ())), ((x.2.1.1, ((ej x.2.1.2.1).2.2, ())), ()))⟩
theorem R7 : ab Try.prog 118 (eD.aE rQ Mg) := Jf _ _ fun x oy hp ho => by
  rw [← ho]
  clear ho
  obtain ⟨⟨⟨⟩, ⟨⟩⟩, ⟨⟨s, l, ⟨⟩⟩, ⟨⟩⟩⟩ := x
  have hl : l.length ≤ 140737488355328 := of_decide_eq_true hp
  cases l with
  | nil => rfl
  | cons y r =>
    have h0 : (((y :: r).length : Int) == 0) = false := by simp; omega
    refine (OT.ay h0).trans ((aj ?_).trans rfl)
    simp only [List.length_cons] at hl ⊢
    simp only [List.all_cons, List.all_nil, Bool.and_true, Bool.and_eq_true]
    exact ⟨aQ (by omega), fp (by omega)⟩
def nT : bO := (Wf mc (eD.aE rQ Mg))
theorem Ff : ab Try.prog 118 nT := (ZQ wg R7)
theorem Fe : aD nT := (Q7 we aA)
def qQ : Env := av 118 nT yX
theorem oJ : aN Try.prog qQ := ah Ff tr
theorem qP : ar qQ := ac Fe uD
theorem Il : aY Try.prog te qQ := aG follows ao oJ qP
def gv : ak := ⟨[.ptr 0 0 0, .val false .u8, .val false (.list .u8)], [(0, .cells [.val false .int, .val false (.list .elem)])], false, 1, true⟩
abbrev Aw : Type := ((Unit) × (UInt8) × (List (UInt8)) × Unit) × (((Int) × (List (ag)) × Unit) × Unit)
def Cz : aq := ⟨[], [(0, .cells [.val false .int, .val false (.list .elem)])], false⟩
def E8 : SV → Option aq := fun _ => some Cz
def I8 (a1 : UInt8) (a2 : List (UInt8)) (c0_0 : Int) (c0_1 : List (ag)) : OT gv.Y :=
  (.ok ⟨Cz, ((), ((c0_0, (c0_1, ())), ()))⟩)
theorem abi (x : Aw) (Q : gv.Y → Prop) : wpf te qQ az 1000 Try.f117 (gv.inp.inj x).tm (gv.inp.inj x).hp (fnK gv E8 Q) (fun _ _ => False) = (I8 (x.1.2.1) (x.1.2.2.1) (x.2.1.1) (x.2.1.2.1)).wpR Q := by kernel_rfl
theorem Po (pre : Aw → Bool) (F : Aw → OT gv.Y) (hF : ∀ (x : Aw) oy, pre x = true → (F x).run = some oy → (I8 (x.1.2.1) (x.1.2.2.1) (x.2.1.1) (x.2.1.2.1)).run = some oy) : ab Try.prog 117 (gv.aE pre F) :=
  aC ao oJ Il (f := 117) (fn := Try.f117) (c := al Try.f117) (by kernel_rfl) (by kernel_rfl) (by kernel_rfl) (S := gv) (k := 1) (by kernel_rfl) (fun R hR => ae) (n := 1000) (sel := E8) (fun v o h => by cases h; rfl) (pre := pre) (F := F) (T := fun x => I8 (x.1.2.1) (x.1.2.2.1) (x.2.1.1) (x.2.1.2.1)) (fun x Q => abi x Q) hF
def E9 (_ : Aw) : Bool := true
def R0 (x : Aw) : OT gv.Y := .ok ⟨Cz, ((), ((x.2.1.1, (x.2.1.2.1, ())), ()))⟩
theorem Xn : ab Try.prog 117 (gv.aE E9 R0) := Po _ _ fun x oy hp ho => ho
def rN : bO := (kB 2 (gv.aE E9 R0))
theorem I7 : ab Try.prog 117 rN := (me Xn)
theorem I6 : aD rN := (io aA)
def yT : Env := av 117 rN qQ
theorem tp : aN Try.prog yT := ah I7 oJ
theorem uB : ar yT := ac I6 qP
theorem Ly : aY Try.prog te yT := aG follows ao tp uB
def eE : ak := ⟨[.ptr 0 0 0], [(0, .cells [.val false .int, .val false (.list .elem)])], false, 1, true⟩
abbrev rT : Type := ((Unit) × Unit) × (((Int) × (List (ag)) × Unit) × Unit)
def pl : aq := ⟨[.val true .elem, .val false .int], [(0, .cells [.val false .int, .val false (.list .elem)])], false⟩
def AE : SV → Option aq := fun _ => some pl
def CC (c0_0 : Int) (c0_1 : List (ag)) : OT eE.Y :=
  let z0 : ag × Int × List ag := ej c0_1
  let z1 : ag := { w0 := 0, w1 := 0, w2 := 0, w3 := 0 }
  let z2 := z0.snd
  let z3 := z2.fst
  let z4 := z2.snd
  (gd [rQ (((), ()), (c0_0, c0_1, ()), ())] (.br (aw c0_0)
  (.ok ⟨pl, ((th (pS c0_0) z0.fst z1, (z3, ())), ((c0_0, (z4, ())), ()))⟩)
  (.ok ⟨pl, ((z1, (z3, ())), ((c0_0, (z4, ())), ()))⟩)))
theorem Xs (x : rT) (Q : eE.Y → Prop) : wpf te yT az 1000 Try.f116 (eE.inp.inj x).tm (eE.inp.inj x).hp (fnK eE AE Q) (fun _ _ => False) = (CC (x.2.1.1) (x.2.1.2.1)).wpR Q := by kernel_rfl
theorem Jh (pre : rT → Bool) (F : rT → OT eE.Y) (hF : ∀ (x : rT) oy, pre x = true → (F x).run = some oy → (CC (x.2.1.1) (x.2.1.2.1)).run = some oy) : ab Try.prog 116 (eE.aE pre F) :=
  aC ao tp Ly (f := 116) (fn := Try.f116) (c := al Try.f116) (by kernel_rfl) (by kernel_rfl) (by kernel_rfl) (S := eE) (k := 1) (by kernel_rfl) (fun R hR => ae) (n := 1000) (sel := AE) (fun v o h => by cases h; rfl) (pre := pre) (F := F) (T := fun x => CC (x.2.1.1) (x.2.1.2.1)) (fun x Q => Xs x Q) hF
def rS (x : rT) : Bool := aw x.2.1.1 && decide (x.2.1.2.1.length ≤ 140737488355328)
def Mh (x : rT) : OT eE.Y := .ok ⟨pl, ((th (pS x.2.1.1) (ej x.2.1.2.1).1 ⟨0, 0, 0, 0⟩, ((ej x.2.1.2.1).2.1, ())), ((x.2.1.1, ((ej x.2.1.2.1).2.2, ())), ()))⟩
theorem R9 : ab Try.prog 116 (eE.aE rS Mh) := Jh _ _ fun x oy hp ho => by
  rw [← ho]
  clear ho
  obtain ⟨⟨⟨⟩, ⟨⟩⟩, ⟨⟨s, l, ⟨⟩⟩, ⟨⟩⟩⟩ := x
  have hp' : (aw s && decide (l.length ≤ 140737488355328)) = true := hp
  rw [Bool.and_eq_true] at hp'
  refine (aj ?_).trans ((OT.ax hp'.1).trans rfl)
  simp only [List.all_cons, List.all_nil, Bool.and_true]
  exact hp'.2
def nU : bO := (eE.aE rS Mh)
theorem Fj : ab Try.prog 116 nU := R9
theorem Fi : aD nU := aA
def qS : Env := av 116 nU yT
theorem oK : aN Try.prog qS := ah Fj tp
theorem qR : ar qS := ac Fi uB
theorem Im : aY Try.prog te qS := aG follows ao oK qR
def gy : ak := ⟨[.val false .int, .val true (.prod .int (.list .elem))], [], true, 0, false⟩
abbrev AB : Type := ((Int) × ((Int × List (ag))) × Unit) × (Unit)
def eB : aq := ⟨[.cy, .val false .int], [], false⟩
def pj : aq := ⟨[.ifp 98 0, .val false .int], [(0, .cells [.val false .int, .own 1]), (1, .row .elem)], false⟩
def pi : aq := ⟨[.ifp 106 0, .val false .int], [(0, .cells [.val false .int, .ptr 1 0 0]), (1, .cells [.val false .int, .val false .u64, .val false .u64, .val false .u64, .val false .u64, .val false .u64, .val false .u64, .val false .u64, .val false .u64, .own 2, .val false .u64]), (2, .row .u8)], false⟩
def AA : List aq := [eB, pj, pi]
def CA (a0 : Int) (a1 : (Int × List (ag))) : OT gy.Y :=
  let z0 : Bool := decide ((100000 : Int) < (↑(List.length a1.snd) : Int))
  let z1 : Bool := sR ((a1.snd, ()), ())
  let z2 : Int := dK a0 (1 : Int)
  (.br (decide (a0 < (0 : Int)))
  (.ok ⟨eB, (((), ((40 : Int), ())), ())⟩)
  (.br (decide ((3 : Int) < a0))
    (.ok ⟨eB, (((), ((40 : Int), ())), ())⟩)
    (.br (!a1.fst == (0 : Int))
      (.br (!a1.fst == (1 : Int))
        (.ok ⟨eB, (((), ((80 : Int), ())), ())⟩)
        (.br (z0)
          (.ok ⟨eB, (((), ((81 : Int), ())), ())⟩)
          (.br (a1.fst == (1 : Int))
            (gd [z1] (.ok ⟨pj, (((), ((0 : Int), ())), ((z2, ((), ())), (a1.snd, ())))⟩))
            (.ok ⟨pi, (((), ((0 : Int), ())), ((z2, ((), ())), (((64 : Int), ((7640891576939301192 : UInt64), ((13503953896175478587 : UInt64), ((4354685564936845355 : UInt64), ((11912009170470909681 : UInt64), ((5840696475078001361 : UInt64), ((11170449401992604703 : UInt64), ((7924071207369364504 : UInt64), ((3427420097777323800 : UInt64), ((), ((0 : UInt64), ()))))))))))), ([], ()))))⟩))))
      (.br (z0)
        (.ok ⟨eB, (((), ((81 : Int), ())), ())⟩)
        (.br (a1.fst == (1 : Int))
          (gd [z1] (.ok ⟨pj, (((), ((0 : Int), ())), ((z2, ((), ())), (a1.snd, ())))⟩))
          (.ok ⟨pi, (((), ((0 : Int), ())), ((z2, ((), ())), (((64 : Int), ((7640891576939301192 : UInt64), ((13503953896175478587 : UInt64), ((4354685564936845355 : UInt64), ((11912009170470909681 : UInt64), ((5840696475078001361 : UInt64), ((11170449401992604703 : UInt64), ((7924071207369364504 : UInt64), ((3427420097777323800 : UInt64), ((), ((0 : UInt64), ()))))))))))), ([], ()))))⟩))))))
theorem abk (x : AB) (Q : gy.Y → Prop) : wpf te qS az 1000 Try.f32 (gy.inp.inj x).tm (gy.inp.inj x).hp (aaS gy AA Q) (fun _ _ => False) = (CA (x.1.1) (x.1.2.1)).wpR Q := by kernel_rfl
theorem Pr (pre : AB → Bool) (F : AB → OT gy.Y) (hF : ∀ (x : AB) oy, pre x = true → (F x).run = some oy → (CA (x.1.1) (x.1.2.1)).run = some oy) : ab Try.prog 32 (gy.aE pre F) :=
  DI ao oK Im (f := 32) (fn := Try.f32) (c := al Try.f32) (by kernel_rfl) (by kernel_rfl) (by kernel_rfl) (S := gy) (k := 0) (by kernel_rfl) (fun R hR => ae) (n := 1000) (outs := AA) (by kernel_rfl) (pre := pre) (F := F) (T := fun x => CA (x.1.1) (x.1.2.1)) (fun x Q => abk x Q) hF
def bo (c mode : Int) (n : Nat) : Int := cond (aw c) (cond ((mode == 0) || (mode == 1)) (cond (decide ((100000 : Int) < (n : Int))) 81 0) 80) 40
def bi : Int × UInt64 × UInt64 × UInt64 × UInt64 × UInt64 × UInt64 × UInt64 × UInt64 × Unit × UInt64 × Unit := (64, 7640891576939301192, 13503953896175478587, 4354685564936845355, 11912009170470909681, 5840696475078001361, 11170449401992604703, 7924071207369364504, 3427420097777323800, (), 0, ())
def Fc (_ : AB) : Bool := true
def eC (x : AB) : OT gy.Y := .br (bo x.1.1 x.1.2.1.1 x.1.2.1.2.length == 0)
  (.br (x.1.2.1.1 == 1) (.ok ⟨pj, (((), ((0 : Int), ())), ((dK x.1.1 1, ((), ())), (x.1.2.1.2, ())))⟩) (.ok ⟨pi, (((), ((0 : Int), ())), ((dK x.1.1 1, ((), ())), (bi, ([], ()))))⟩))
  (.ok ⟨eB, (((), (bo x.1.1 x.1.2.1.1 x.1.2.1.2.length, ())), ())⟩)
theorem Xp : ab Try.prog 32 (gy.aE Fc eC) := Pr _ _ fun x oy _ ho => by
  rw [← ho]
  clear ho
  obtain ⟨⟨c, ⟨mode, l⟩, ⟨⟩⟩, ⟨⟩⟩ := x
  unfold CA
  cases hs : aw c
  · have he : bo c mode l.length = 40 := by unfold bo; rw [hs]; rfl
    have hF : (eC ((c, (mode, l), ()), ())).run = some ⟨eB, (((), ((40 : Int), ())), ())⟩ := by
      unfold eC
      rw [he]
      rfl
    rw [hF]
    by_cases h1 : c < 0
    · exact OT.ax (decide_eq_true h1)
    · refine (OT.ay (decide_eq_false h1)).trans (OT.ax (decide_eq_true ?_))
      by_cases h2 : 3 < c
      · exact h2
      · have : aw c = true := by
          simp only [aw, Bool.and_eq_true, decide_eq_true_eq]
          omega
        rw [this] at hs; cases hs
  · have hc : 0 ≤ c ∧ c < 4 := by simpa [aw] using hs
    refine (OT.ay (decide_eq_false (by dsimp only; omega))).trans ((OT.ay (decide_eq_false (by dsimp only; omega))).trans ?_)
    by_cases h0 : mode = 0
    · subst h0
      refine (OT.ay rfl).trans ?_
      cases hl : decide ((100000 : Int) < (l.length : Int))
      · have he : bo c 0 l.length = 0 := by unfold bo; rw [hs, hl]; rfl
        have hF : (eC ((c, (0, l), ()), ())).run = some ⟨pi, (((), ((0 : Int), ())), ((dK c 1, ((), ())), (bi, ([], ()))))⟩ := by
          unfold eC
          rw [he]
          rfl
        rw [hF]
        exact (OT.ay rfl).trans ((OT.ay rfl).trans rfl)
      · have he : bo c 0 l.length = 81 := by unfold bo; rw [hs, hl]; rfl
        have hF : (eC ((c, (0, l), ()), ())).run = some ⟨eB, (((), ((81 : Int), ())), ())⟩ := by
          unfold eC
          rw [he]
          rfl
        rw [hF]
        exact (OT.ax rfl).trans rfl
    · by_cases h1 : mode = 1
      · subst h1
        refine (OT.ax rfl).trans ((OT.ay rfl).trans ?_)
        cases hl : decide ((100000 : Int) < (l.length : Int))
        · have he : bo c 1 l.length = 0 := by unfold bo; rw [hs, hl]; rfl
          have hF : (eC ((c, (1, l), ()), ())).run = some ⟨pj, (((), ((0 : Int), ())), ((dK c 1, ((), ())), (l, ())))⟩ := by
            unfold eC
            rw [he]
            rfl
          rw [hF]
          refine (OT.ay rfl).trans ((OT.ax rfl).trans ((aj ?_).trans rfl))
          have hl' : ¬ (100000 : Int) < (l.length : Int) := of_decide_eq_false hl
          simp only [List.all_cons, List.all_nil, Bool.and_true]
          exact decide_eq_true (show l.length * 32 ≤ 140737488355328 by omega)
        · have he : bo c 1 l.length = 81 := by unfold bo; rw [hs, hl]; rfl
          have hF : (eC ((c, (1, l), ()), ())).run = some ⟨eB, (((), ((81 : Int), ())), ())⟩ := by
            unfold eC
            rw [he]
            rfl
          rw [hF]
          exact (OT.ax rfl).trans rfl
      · have b0 : (mode == 0) = false := by simpa using h0
        have b1 : (mode == 1) = false := by simpa using h1
        have he : bo c mode l.length = 80 := by unfold bo; rw [hs, b0, b1]; rfl
        have hF : (eC ((c, (mode, l), ()), ())).run = some ⟨eB, (((), ((80 : Int), ())), ())⟩ := by
          unfold eC
          rw [he]
          rfl
        rw [hF]
        exact (OT.ax (by simp [b0])).trans ((OT.ax (by simp [b1])).trans rfl)
def rP : bO := (gy.aE Fc eC)
theorem Je : ab Try.prog 32 rP := Xp
theorem Jd : aD rP := aA
def yW : Env := av 32 rP qS
theorem tq : aN Try.prog yW := ah Je oK
theorem uC : ar yW := ac Jd qR
theorem Lz : aY Try.prog te yW := aG follows ao tq uC
def eA : ak := ⟨[.val false .int, .val true (.prod .int (.list .elem))], [], true, 0, false⟩
abbrev rM : Type := ((Int) × ((Int × List (ag))) × Unit) × (Unit)
def wa : aq := ⟨[.ptr 0 0 0, .val false .int], [(0, .cells [.val false .int, .ifp 98 1, .own 2]), (1, .cells [.val false .int, .own 3]), (2, .row .u8), (3, .row .elem)], false⟩
def v9 : aq := ⟨[.ptr 0 0 0, .val false .int], [(0, .cells [.val false .int, .ifp 106 1, .own 2]), (1, .cells [.val false .int, .ptr 3 0 0]), (2, .row .u8), (3, .cells [.val false .int, .val false .u64, .val false .u64, .val false .u64, .val false .u64, .val false .u64, .val false .u64, .val false .u64, .val false .u64, .own 4, .val false .u64]), (4, .row .u8)], false⟩
def v8 : aq := ⟨[.kr, .val false .int], [], false⟩
def E6 : aq := ⟨[.ptr 0 0 0, .val false .int], [(0, .cells [.val false .int, .cy, .own 1]), (1, .row .u8)], false⟩
def vZ : List aq := [wa, v9, v8, E6]
def vi (a0 : Int) (a1 : (Int × List (ag))) : OT eA.Y :=
  let z0 : Int := bo a0 a1.fst (List.length a1.snd)
  let z1 : Int := dK a0 (1 : Int)
  (.br (z0 == (0 : Int))
  (.br (a1.fst == (1 : Int))
    (.ok ⟨wa, (((), ((0 : Int), ())), ((a0, ((), ((), ()))), ((z1, ((), ())), ([], (a1.snd, ())))))⟩)
    (.ok ⟨v9, (((), ((0 : Int), ())), ((a0, ((), ((), ()))), ((z1, ((), ())), ([], (((64 : Int), ((7640891576939301192 : UInt64), ((13503953896175478587 : UInt64), ((4354685564936845355 : UInt64), ((11912009170470909681 : UInt64), ((5840696475078001361 : UInt64), ((11170449401992604703 : UInt64), ((7924071207369364504 : UInt64), ((3427420097777323800 : UInt64), ((), ((0 : UInt64), ()))))))))))), ([], ()))))))⟩))
  (.br (!z0 == (0 : Int))
    (.ok ⟨v8, (((), (z0, ())), ())⟩)
    (.ok ⟨E6, (((), ((0 : Int), ())), ((a0, ((), ((), ()))), ([], ())))⟩)))
theorem Xm (x : rM) (Q : eA.Y → Prop) : wpf te yW az 1000 Try.f9 (eA.inp.inj x).tm (eA.inp.inj x).hp (aaS eA vZ Q) (fun _ _ => False) = (vi (x.1.1) (x.1.2.1)).wpR Q := by kernel_rfl
theorem I5 (pre : rM → Bool) (F : rM → OT eA.Y) (hF : ∀ (x : rM) oy, pre x = true → (F x).run = some oy → (vi (x.1.1) (x.1.2.1)).run = some oy) : ab Try.prog 9 (eA.aE pre F) :=
  DI ao tq Lz (f := 9) (fn := Try.f9) (c := al Try.f9) (by kernel_rfl) (by kernel_rfl) (by kernel_rfl) (S := eA) (k := 0) (by kernel_rfl) (fun R hR => ae) (n := 1000) (outs := vZ) (by kernel_rfl) (pre := pre) (F := F) (T := fun x => vi (x.1.1) (x.1.2.1)) (fun x Q => Xm x Q) hF
def Av (_ : rM) : Bool := true
def Cy (x : rM) : OT eA.Y := .br (bo x.1.1 x.1.2.1.1 x.1.2.1.2.length == 0)
  (.br (x.1.2.1.1 == 1) (.ok ⟨wa, (((), ((0 : Int), ())), ((x.1.1, ((), ((), ()))), ((dK x.1.1 1, ((), ())), ([], (x.1.2.1.2, ())))))⟩)
    (.ok ⟨v9, (((), ((0 : Int), ())), ((x.1.1, ((), ((), ()))), ((dK x.1.1 1, ((), ())), ([], (bi, ([], ()))))))⟩))
  (.ok ⟨v8, (((), (bo x.1.1 x.1.2.1.1 x.1.2.1.2.length, ())), ())⟩)
theorem RZ : ab Try.prog 9 (eA.aE Av Cy) := I5 _ _ fun x oy _ ho => by
  rw [← ho]
  clear ho
  obtain ⟨⟨c, ⟨mode, l⟩, ⟨⟩⟩, ⟨⟩⟩ := x
  unfold vi Cy
  by_cases he : (bo c mode l.length == 0) = true
  · refine (OT.ax he).trans (Eq.trans ?_ (OT.ax he).symm)
    by_cases hm : (mode == 1) = true
    · exact (OT.ax hm).trans (OT.ax hm).symm
    · have hm := Bool.eq_false_iff.2 hm
      exact (OT.ay hm).trans (OT.ay hm).symm
  · have he := Bool.eq_false_iff.2 he
    exact (OT.ay he).trans ((OT.ax (by show (!(bo c mode l.length == 0)) = true; rw [he]; rfl)).trans (OT.ay he).symm)
def nS : bO := (wk [1] 1 (eA.aE Av Cy))
theorem E7 : ab Try.prog 9 nS := (Px RZ)
theorem E5 : aD nS := (Fo aA)
def qM : Env := av 9 nS yW
theorem oH : aN Try.prog qM := ah E7 tq
theorem qL : ar qM := ac E5 uC
theorem Ii : aY Try.prog te qM := aG follows ao oH qL
def gC : ak := ⟨[.ptr 0 0 0], [(0, .cells [.val false .int, .ifp 98 1, .own 2]), (1, .cells [.val false .int, .val false (.list .elem)]), (2, .row .u8)], false, 3, true⟩
abbrev AH : Type := ((Unit) × Unit) × (((Int) × (Unit) × (Unit) × Unit) × ((Int) × (List (ag)) × Unit) × (List (UInt8)) × Unit)
def CE : aq := ⟨[.val true .elem, .val false .int], [(0, .cells [.val false .int, .ifp 98 1, .own 2]), (1, .cells [.val false .int, .val false (.list .elem)]), (2, .row .u8)], false⟩
def Fp : SV → Option aq := fun _ => some CE
def Jm (c0_0 : Int) (c1_0 : Int) (c1_1 : List (ag)) (c2 : List (UInt8)) : OT gC.Y :=
  let z0 : ag × Int × List ag := ej c1_1
  let z1 := z0.snd
  (gd [rS (((), ()), (c1_0, c1_1, ()), ())] (.ok ⟨CE, ((th (pS c1_0) z0.fst { w0 := 0, w1 := 0, w2 := 0, w3 := 0 }, (z1.fst, ())), ((c0_0, ((), ((), ()))), ((c1_0, (z1.snd, ())), (c2, ()))))⟩))
theorem acJ (x : AH) (Q : gC.Y → Prop) : wpf te qM az 1000 Try.f14 (gC.inp.inj x).tm (gC.inp.inj x).hp (fnK gC Fp Q) (fun _ _ => False) = (Jm (x.2.1.1) (x.2.2.1.1) (x.2.2.1.2.1) (x.2.2.2.1)).wpR Q := by kernel_rfl
theorem Py (pre : AH → Bool) (F : AH → OT gC.Y) (hF : ∀ (x : AH) oy, pre x = true → (F x).run = some oy → (Jm (x.2.1.1) (x.2.2.1.1) (x.2.2.1.2.1) (x.2.2.2.1)).run = some oy) : ab Try.prog 14 (gC.aE pre F) :=
  aC ao oH Ii (f := 14) (fn := Try.f14) (c := al Try.f14) (by kernel_rfl) (by kernel_rfl) (by kernel_rfl) (S := gC) (k := 3) (by kernel_rfl) (fun R hR => ae) (n := 1000) (sel := Fp) (fun v o h => by cases h; rfl) (pre := pre) (F := F) (T := fun x => Jm (x.2.1.1) (x.2.2.1.1) (x.2.2.1.2.1) (x.2.2.2.1)) (fun x Q => acJ x Q) hF
def iW (x : AH) : Bool := aw x.2.2.1.1 && decide (x.2.2.1.2.1.length ≤ 140737488355328)
def TC (x : AH) : OT gC.Y := .ok ⟨CE, ((th (pS x.2.2.1.1) (ej x.2.2.1.2.1).1 ⟨0, 0, 0, 0⟩, ((ej x.2.2.1.2.1).2.1, ())), ((x.2.1.1, ((), ((), ()))), ((x.2.2.1.1, ((ej x.2.2.1.2.1).2.2, ())), (x.2.2.2.1, ()))))⟩
theorem YF : ab Try.prog 14 (gC.aE iW TC) := Py _ _ fun x oy hp ho => by
  rw [← ho]
  clear ho
  obtain ⟨⟨⟨⟩, ⟨⟩⟩, ⟨⟨c, ⟨⟩, ⟨⟩, ⟨⟩⟩, ⟨s, l, ⟨⟩⟩, o, ⟨⟩⟩⟩ := x
  refine (aj ?_).trans rfl
  simp only [List.all_cons, List.all_nil, Bool.and_true]
  exact hp
def mf : bO := (gC.aE iW TC)
theorem wm : ab Try.prog 14 mf := YF
theorem wl : aD mf := aA
def yZ : Env := av 14 mf qM
theorem tv : aN Try.prog yZ := ah wm oH
theorem uF : ar yZ := ac wl qL
theorem LC : aY Try.prog te yZ := aG follows ao tv uF
def kA : ak := ⟨[.ptr 0 0 0, .val false .u8, .val false (.list .u8)], [(0, .cells [.val false .int, .ifp 98 1, .own 2]), (1, .cells [.val false .int, .val false (.list .elem)]), (2, .row .u8)], false, 2, true⟩
abbrev Pq : Type := ((Unit) × (UInt8) × (List (UInt8)) × Unit) × (((Int) × (Unit) × (Unit) × Unit) × ((Int) × (List (ag)) × Unit) × (List (UInt8)) × Unit)
def Ja : aq := ⟨[], [(0, .cells [.val false .int, .ifp 98 1, .own 2]), (1, .cells [.val false .int, .val false (.list .elem)]), (2, .row .u8)], false⟩
def Me : SV → Option aq := fun _ => some Ja
def R5 (a1 : UInt8) (a2 : List (UInt8)) (c0_0 : Int) (c1_0 : Int) (c1_1 : List (ag)) (c2 : List (UInt8)) : OT kA.Y :=
  (gd [decide ((List.length c2 + List.length a2) * 1 ≤ 140737488355328)] (.ok ⟨Ja, ((), ((c0_0, ((), ((), ()))), ((c1_0, (c1_1, ())), (c2 ++ a2, ()))))⟩))
theorem aeu (x : Pq) (Q : kA.Y → Prop) : wpf te yZ az 1000 Try.f35 (kA.inp.inj x).tm (kA.inp.inj x).hp (fnK kA Me Q) (fun _ _ => False) = (R5 (x.1.2.1) (x.1.2.2.1) (x.2.1.1) (x.2.2.1.1) (x.2.2.1.2.1) (x.2.2.2.1)).wpR Q := by kernel_rfl
theorem R4 (pre : Pq → Bool) (F : Pq → OT kA.Y) (hF : ∀ (x : Pq) oy, pre x = true → (F x).run = some oy → (R5 (x.1.2.1) (x.1.2.2.1) (x.2.1.1) (x.2.2.1.1) (x.2.2.1.2.1) (x.2.2.2.1)).run = some oy) : ab Try.prog 35 (kA.aE pre F) :=
  aC ao tv LC (f := 35) (fn := Try.f35) (c := al Try.f35) (by kernel_rfl) (by kernel_rfl) (by kernel_rfl) (S := kA) (k := 3) (by kernel_rfl) (fun R hR => ae) (n := 1000) (sel := Me) (fun v o h => by cases h; rfl) (pre := pre) (F := F) (T := fun x => R5 (x.1.2.1) (x.1.2.2.1) (x.2.1.1) (x.2.2.1.1) (x.2.2.1.2.1) (x.2.2.2.1)) (fun x Q => aeu x Q) hF
def jO (x : Pq) : Bool := decide (x.2.2.2.1.length + x.1.2.2.1.length ≤ 140737488355328)
def aas (x : Pq) : OT kA.Y := .ok ⟨Ja, ((), ((x.2.1.1, ((), ((), ()))), ((x.2.2.1.1, (x.2.2.1.2.1, ())), (x.2.2.2.1 ++ x.1.2.2.1, ()))))⟩
theorem abj : ab Try.prog 35 (kA.aE jO aas) := R4 _ _ fun x oy hp ho => by
  rw [← ho]
  clear ho
  obtain ⟨⟨⟨⟩, m, b, ⟨⟩⟩, ⟨⟨c, ⟨⟩, ⟨⟩, ⟨⟩⟩, ⟨s, l, ⟨⟩⟩, o, ⟨⟩⟩⟩ := x
  have hp' : o.length + b.length ≤ 140737488355328 := of_decide_eq_true hp
  refine (aj ?_).trans rfl
  simp only [List.all_cons, List.all_nil, Bool.and_true]
  exact decide_eq_true (by omega)
def pf : bO := (kB 2 (kA.aE jO aas))
theorem Ay : ab Try.prog 35 pf := (me abj)
theorem Ax : aD pf := (io aA)
def Ij : Env := av 35 pf yZ
theorem yU : aN Try.prog Ij := ah Ay tv
theorem yV : ar Ij := ac Ax uF
theorem Rt : aY Try.prog te Ij := aG follows ao yU yV
def cN : ak := ⟨[.ptr 0 0 0, .val true .elem], [(0, .cells [.val false .int, .ifp 98 1, .own 2]), (1, .cells [.val false .int, .val false (.list .elem)]), (2, .row .u8)], false, 2, true⟩
abbrev ma : Type := ((Unit) × (ag) × Unit) × (((Int) × (Unit) × (Unit) × Unit) × ((Int) × (List (ag)) × Unit) × (List (UInt8)) × Unit)
def fc : aq := ⟨[], [(0, .cells [.val false .int, .ifp 98 1, .own 2]), (1, .cells [.val false .int, .val false (.list .elem)]), (2, .row .u8)], false⟩
def wb : SV → Option aq := fun _ => some fc
def wc (a1 : ag) (c0_0 : Int) (c1_0 : Int) (c1_1 : List (ag)) (c2 : List (UInt8)) : OT cN.Y :=
  let z0 : Int := dK c0_0 (1 : Int)
  let z1 : List UInt8 := DR (ofN (ag.nat a1 % ag.nat (cI (Int.toNat z0)).fst))
  let z2 : (Int × PUnit × PUnit × PUnit) × (Int × List ag × PUnit) × List UInt8 × PUnit := ((c0_0, (), (), ()), (c1_0, c1_1, ()), c2, ())
  (.br (aw z0)
  (gd [jO (((), (2 : UInt8), z1, ()), z2)] (.ok ⟨fc, ((), ((c0_0, ((), ((), ()))), ((c1_0, (c1_1, ())), (c2 ++ z1, ()))))⟩))
  (gd [jO (((), (2 : UInt8), [], ()), z2)] (.ok ⟨fc, ((), ((c0_0, ((), ((), ()))), ((c1_0, (c1_1, ())), (c2 ++ [], ()))))⟩)))
theorem R3 (x : ma) (Q : cN.Y → Prop) : wpf te Ij az 1000 Try.f12 (cN.inp.inj x).tm (cN.inp.inj x).hp (fnK cN wb Q) (fun _ _ => False) = (wc (x.1.2.1) (x.2.1.1) (x.2.2.1.1) (x.2.2.1.2.1) (x.2.2.2.1)).wpR Q := by kernel_rfl
theorem Fa (pre : ma → Bool) (F : ma → OT cN.Y) (hF : ∀ (x : ma) oy, pre x = true → (F x).run = some oy → (wc (x.1.2.1) (x.2.1.1) (x.2.2.1.1) (x.2.2.1.2.1) (x.2.2.2.1)).run = some oy) : ab Try.prog 12 (cN.aE pre F) :=
  aC ao yU Rt (f := 12) (fn := Try.f12) (c := al Try.f12) (by kernel_rfl) (by kernel_rfl) (by kernel_rfl) (S := cN) (k := 3) (by kernel_rfl) (fun R hR => ae) (n := 1000) (sel := wb) (fun v o h => by cases h; rfl) (pre := pre) (F := F) (T := fun x => wc (x.1.2.1) (x.2.1.1) (x.2.2.1.1) (x.2.2.1.2.1) (x.2.2.2.1)) (fun x Q => R3 x Q) hF
def cH (c : Int) (v : ag) : List UInt8 := DR (ofN (v.nat % (cI (dK c 1).toNat).1.nat))
def gw (x : ma) : Bool := aw (dK x.2.1.1 1) && decide (x.2.2.2.1.length ≤ 140737488350000)
def Fb (x : ma) : OT cN.Y := .ok ⟨fc, ((), ((x.2.1.1, ((), ((), ()))), ((x.2.2.1.1, (x.2.2.1.2.1, ())), (x.2.2.2.1 ++ cH x.2.1.1 x.1.2.1, ()))))⟩
theorem I9 (c s : Int) (l : List ag) (o b : List UInt8) (k : Bool) (hk : k = true) (hb : b.length = 32) (ho : o.length ≤ 140737488350000) :
    (OT.br k (gd [jO (((), (2 : UInt8), b, ()), ((c, (), (), ()), (s, l, ()), o, ()))] (.ok ⟨fc, ((), ((c, ((), ((), ()))), ((s, (l, ())), (o ++ b, ()))))⟩))
      (gd [jO (((), (2 : UInt8), [], ()), ((c, (), (), ()), (s, l, ()), o, ()))] (.ok ⟨fc, ((), ((c, ((), ((), ()))), ((s, (l, ())), (o ++ [], ()))))⟩)) : OT cN.Y).run
    = (OT.ok ⟨fc, ((), ((c, ((), ((), ()))), ((s, (l, ())), (o ++ b, ()))))⟩ : OT cN.Y).run := by
  refine (OT.ax hk).trans (aj ?_)
  simp only [List.all_cons, List.all_nil, Bool.and_true]
  exact decide_eq_true (by dsimp only; omega)
theorem Pp : ab Try.prog 12 (cN.aE gw Fb) := Fa _ _ fun x oy hp ho => by
  rw [← ho]
  clear ho
  obtain ⟨⟨⟨⟩, v, ⟨⟩⟩, ⟨⟨c, ⟨⟩, ⟨⟩, ⟨⟩⟩, ⟨s, l, ⟨⟩⟩, o, ⟨⟩⟩⟩ := x
  have hp' : (aw (dK c 1) && decide (o.length ≤ 140737488350000)) = true := hp
  rw [Bool.and_eq_true] at hp'
  have ho' := of_decide_eq_true hp'.2
  exact I9 c s l o (cH c v) (aw (dK c 1)) hp'.1 (j8 _) ho'
def im : bO := (cN.aE gw Fb)
theorem pe : ab Try.prog 12 im := Pp
theorem pd : aD im := aA
def lN : Env := av 12 im Ij
theorem lM : aN Try.prog lN := ah pe yU
theorem nI : ar lN := ac pd yV
theorem EB : aY Try.prog te lN := aG follows ao lM nI
def eF : ak := ⟨[.ptr 0 0 0], [(0, .cells [.val false .int, .ifp 98 1, .own 2]), (1, .cells [.val false .int, .val false (.list .elem)]), (2, .row .u8)], false, 3, true⟩
abbrev rV : Type := ((Unit) × Unit) × (((Int) × (Unit) × (Unit) × Unit) × ((Int) × (List (ag)) × Unit) × (List (UInt8)) × Unit)
def wo : aq := ⟨[.own 3], [(0, .cells [.val false .int, .ifp 98 1, .own 2]), (1, .cells [.val false .int, .val false (.list .elem)]), (2, .row .u8), (3, .row .u8)], false⟩
def AJ : SV → Option aq := fun _ => some wo
def CF (c0_0 : Int) (c1_0 : Int) (c1_1 : List (ag)) (c2 : List (UInt8)) : OT eF.Y :=
  (gd [ft ((c2, ()), ())] (.ok ⟨wo, (((), ()), ((c0_0, ((), ((), ()))), ((c1_0, (c1_1, ())), (c2, (c2, ())))))⟩))
theorem YG (x : rV) (Q : eF.Y → Prop) : wpf te lN az 1000 Try.f16 (eF.inp.inj x).tm (eF.inp.inj x).hp (fnK eF AJ Q) (fun _ _ => False) = (CF (x.2.1.1) (x.2.2.1.1) (x.2.2.1.2.1) (x.2.2.2.1)).wpR Q := by kernel_rfl
theorem Jn (pre : rV → Bool) (F : rV → OT eF.Y) (hF : ∀ (x : rV) oy, pre x = true → (F x).run = some oy → (CF (x.2.1.1) (x.2.2.1.1) (x.2.2.1.2.1) (x.2.2.2.1)).run = some oy) : ab Try.prog 16 (eF.aE pre F) :=
  aC ao lM EB (f := 16) (fn := Try.f16) (c := al Try.f16) (by kernel_rfl) (by kernel_rfl) (by kernel_rfl) (S := eF) (k := 3) (by kernel_rfl) (fun R hR => ae) (n := 1000) (sel := AJ) (fun v o h => by cases h; rfl) (pre := pre) (F := F) (T := fun x => CF (x.2.1.1) (x.2.2.1.1) (x.2.2.1.2.1) (x.2.2.2.1)) (fun x Q => YG x Q) hF
def fY (x : rV) : Bool := ft ((x.2.2.2.1, ()), ())
def Nt (x : rV) : OT eF.Y := .ok ⟨wo, (((), ()), ((x.2.1.1, ((), ((), ()))), ((x.2.2.1.1, (x.2.2.1.2.1, ())), (x.2.2.2.1, (x.2.2.2.1, ())))))⟩
theorem TF : ab Try.prog 16 (eF.aE fY Nt) := Jn _ _ fun x oy hp ho => by
  rw [← ho]
  clear ho
  obtain ⟨⟨⟨⟩, ⟨⟩⟩, ⟨⟨c, ⟨⟩, ⟨⟩, ⟨⟩⟩, ⟨s, l, ⟨⟩⟩, o, ⟨⟩⟩⟩ := x
  refine aj ?_
  simp only [List.all_cons, List.all_nil, Bool.and_true]
  exact hp
def jQ : bO := (eF.aE fY Nt)
theorem tU : ab Try.prog 16 jQ := TF
theorem tT : aD jQ := aA
def qU : Env := av 16 jQ lN
theorem oM : aN Try.prog qU := ah tU lM
theorem qT : ar qU := ac tT nI
theorem Ip : aY Try.prog te qU := aG follows ao oM qT
def af6 : CSh := .cells [.val false .int, .ptr 1 0 0]
def gP : ak := ⟨[.ptr 0 0 0, .val false .u8, .val false (.list .u8)], [(0, af6), (1, VW (.own 2)), (2, .row .u8)], true, 2, true⟩
abbrev Bg : Type := ((Unit) × (UInt8) × (List (UInt8)) × Unit) × (((Int) × (Unit) × Unit) × ((Int) × (UInt64) × (UInt64) × (UInt64) × (UInt64) × (UInt64) × (UInt64) × (UInt64) × (UInt64) × (Unit) × (UInt64) × Unit) × (List (UInt8)) × Unit)
def Dp : aq := ⟨[], [(0, .cells [.val false .int, .ptr 1 0 0]), (1, .cells [.val false .int, .val false .u64, .val false .u64, .val false .u64, .val false .u64, .val false .u64, .val false .u64, .val false .u64, .val false .u64, .own 2, .val false .u64]), (2, .row .u8)], false⟩
def Gu : SV → Option aq := fun _ => some Dp
def Ke (a1 : UInt8) (a2 : List (UInt8)) (c0_0 : Int) (c1_0 : Int) (c1_1 : UInt64) (c1_2 : UInt64) (c1_3 : UInt64) (c1_4 : UInt64) (c1_5 : UInt64) (c1_6 : UInt64) (c1_7 : UInt64) (c1_8 : UInt64) (c1_10 : UInt64) (c2 : List (UInt8)) : OT gP.Y :=
  let z0 : Int × UInt64 × UInt64 × UInt64 × UInt64 × UInt64 × UInt64 × UInt64 × UInt64 × PUnit × UInt64 × PUnit := (c1_0, c1_1, c1_2, c1_3, c1_4, c1_5, c1_6, c1_7, c1_8, (), c1_10, ())
  let z1 : List UInt64 × UInt64 × List UInt8 := vO (wV z0 c2) ([a1] ++ a2)
  let z2 := z1.snd
  let z3 : Int × UInt64 × UInt64 × UInt64 × UInt64 × UInt64 × UInt64 × UInt64 × UInt64 × PUnit × UInt64 × PUnit := afC c1_0 z1.fst z2.fst
  let z4 := z3.snd
  let z5 := z4.snd
  let z6 := z5.snd
  let z7 := z6.snd
  let z8 := z7.snd
  let z9 := z8.snd
  let z10 := z9.snd
  let z11 := z10.snd
  (gd [decide ((1 + List.length a2) * 1 ≤ 140737488355328), sW (((), [a1] ++ a2, ()), z0, c2, ())] (.ok ⟨Dp, ((), ((c0_0, ((), ())), ((z3.fst, (z4.fst, (z5.fst, (z6.fst, (z7.fst, (z8.fst, (z9.fst, (z10.fst, (z11.fst, ((), (z11.snd.snd.fst, ()))))))))))), (z2.snd, ()))))⟩))
theorem adj (x : Bg) (Q : gP.Y → Prop) : wpf te qU az 1000 Try.f121 (gP.inp.inj x).tm (gP.inp.inj x).hp (fnK gP Gu Q) (fun _ _ => False) = (Ke (x.1.2.1) (x.1.2.2.1) (x.2.1.1) (x.2.2.1.1) (x.2.2.1.2.1) (x.2.2.1.2.2.1) (x.2.2.1.2.2.2.1) (x.2.2.1.2.2.2.2.1) (x.2.2.1.2.2.2.2.2.1) (x.2.2.1.2.2.2.2.2.2.1) (x.2.2.1.2.2.2.2.2.2.2.1) (x.2.2.1.2.2.2.2.2.2.2.2.1) (x.2.2.1.2.2.2.2.2.2.2.2.2.2.1) (x.2.2.2.1)).wpR Q := by kernel_rfl
theorem Qa (pre : Bg → Bool) (F : Bg → OT gP.Y) (hF : ∀ (x : Bg) oy, pre x = true → (F x).run = some oy → (Ke (x.1.2.1) (x.1.2.2.1) (x.2.1.1) (x.2.2.1.1) (x.2.2.1.2.1) (x.2.2.1.2.2.1) (x.2.2.1.2.2.2.1) (x.2.2.1.2.2.2.2.1) (x.2.2.1.2.2.2.2.2.1) (x.2.2.1.2.2.2.2.2.2.1) (x.2.2.1.2.2.2.2.2.2.2.1) (x.2.2.1.2.2.2.2.2.2.2.2.1) (x.2.2.1.2.2.2.2.2.2.2.2.2.2.1) (x.2.2.2.1)).run = some oy) : ab Try.prog 121 (gP.aE pre F) :=
  aC ao oM Ip (f := 121) (fn := Try.f121) (c := al Try.f121) (by kernel_rfl) (by kernel_rfl) (by kernel_rfl) (S := gP) (k := 3) (by kernel_rfl) (fun R hR => ae) (n := 1000) (sel := Gu) (fun v o h => by cases h; rfl) (pre := pre) (F := F) (T := fun x => Ke (x.1.2.1) (x.1.2.2.1) (x.2.1.1) (x.2.2.1.1) (x.2.2.1.2.1) (x.2.2.1.2.2.1) (x.2.2.1.2.2.2.1) (x.2.2.1.2.2.2.2.1) (x.2.2.1.2.2.2.2.2.1) (x.2.2.1.2.2.2.2.2.2.1) (x.2.2.1.2.2.2.2.2.2.2.1) (x.2.2.1.2.2.2.2.2.2.2.2.1) (x.2.2.1.2.2.2.2.2.2.2.2.2.2.1) (x.2.2.2.1)) (fun x Q => adj x Q) hF
def fa (d : IM) (w : List UInt8) (m : UInt8) (b : List UInt8) : IM × List UInt8 := (afC d.1 (vO (wV d w) ([m] ++ b)).1 (vO (wV d w) ([m] ++ b)).2.1, (vO (wV d w) ([m] ++ b)).2.2)
def jl (x : Bg) : Bool := decide (x.2.2.2.1.length + x.1.2.2.1.length ≤ 140737488350000)
def UX (x : Bg) : OT gP.Y := .ok ⟨Dp, ((), ((x.2.1.1, ((), ())), ((fa x.2.2.1 x.2.2.2.1 x.1.2.1 x.1.2.2.1).1, ((fa x.2.2.1 x.2.2.2.1 x.1.2.1 x.1.2.2.1).2, ()))))⟩
theorem Zl : ab Try.prog 121 (gP.aE jl UX) := Qa _ _ fun x oy hp ho => by
  rw [← ho]
  clear ho
  obtain ⟨⟨⟨⟩, m, b, ⟨⟩⟩, ⟨⟨s, ⟨⟩, ⟨⟩⟩, ⟨n, h0, h1, h2, h3, h4, h5, h6, h7, ⟨⟩, c, ⟨⟩⟩, w, ⟨⟩⟩⟩ := x
  have hp' : w.length + b.length ≤ 140737488350000 := of_decide_eq_true hp
  refine (aj ?_).trans rfl
  simp only [List.all_cons, List.all_nil, Bool.and_true, Bool.and_eq_true]
  refine ⟨decide_eq_true (by omega), decide_eq_true ?_⟩
  show w.length + ([m] ++ b).length ≤ _
  rw [List.length_append]
  simp only [List.length_cons, List.length_nil]
  omega
def sF : bO := (kB 2 (gP.aE jl UX))
theorem Kd : ab Try.prog 121 sF := (me Zl)
theorem Kc : aD sF := (io aA)
def zd : Env := av 121 sF qU
theorem tC : aN Try.prog zd := ah Kd oM
theorem uL : ar zd := ac Kc qT
theorem LJ : aY Try.prog te zd := aG follows ao tC uL
def gR : ak := ⟨[.ptr 0 0 0], [(0, af6), (1, VW (.own 2)), (2, .row .u8)], false, 2, true⟩
abbrev Bi : Type := ((Unit) × Unit) × (((Int) × (Unit) × Unit) × ((Int) × (UInt64) × (UInt64) × (UInt64) × (UInt64) × (UInt64) × (UInt64) × (UInt64) × (UInt64) × (Unit) × (UInt64) × Unit) × (List (UInt8)) × Unit)
def pV : aq := ⟨[.val true .elem, .val false .int], [(0, .cells [.val false .int, .ptr 1 0 0]), (1, .cells [.val false .int, .val false .u64, .val false .u64, .val false .u64, .val false .u64, .val false .u64, .val false .u64, .val false .u64, .val false .u64, .own 2, .val false .u64]), (2, .row .u8)], false⟩
def GA : SV → Option aq := fun _ => some pV
def Kk (c0_0 : Int) (c1_0 : Int) (c1_1 : UInt64) (c1_2 : UInt64) (c1_3 : UInt64) (c1_4 : UInt64) (c1_5 : UInt64) (c1_6 : UInt64) (c1_7 : UInt64) (c1_8 : UInt64) (c1_10 : UInt64) (c2 : List (UInt8)) : OT gR.Y :=
  let z0 : Int × UInt64 × UInt64 × UInt64 × UInt64 × UInt64 × UInt64 × UInt64 × UInt64 × PUnit × UInt64 × PUnit := (c1_0, c1_1, c1_2, c1_3, c1_4, c1_5, c1_6, c1_7, c1_8, (), c1_10, ())
  let z1 : (Int × UInt64 × UInt64 × UInt64 × UInt64 × UInt64 × UInt64 × UInt64 × UInt64 × PUnit × UInt64 × PUnit) × List UInt8 := fa z0 c2 (0 : UInt8) []
  let z2 := z1.fst
  let z3 := z2.fst
  let z4 := z2.snd
  let z5 := z4.fst
  let z6 := z4.snd
  let z7 := z6.fst
  let z8 := z6.snd
  let z9 := z8.fst
  let z10 := z8.snd
  let z11 := z10.fst
  let z12 := z10.snd
  let z13 := z12.fst
  let z14 := z12.snd
  let z15 := z14.fst
  let z16 := z14.snd
  let z17 := z16.fst
  let z18 := z16.snd
  let z19 := z18.fst
  let z20 := z18.snd.snd.fst
  let z21 : Int × UInt64 × UInt64 × UInt64 × UInt64 × UInt64 × UInt64 × UInt64 × UInt64 × PUnit × UInt64 × PUnit := (z3, z5, z7, z9, z11, z13, z15, z17, z19, (), z20, ())
  let z22 := z1.snd
  let z23 : List UInt8 := aeH z3 (wV z21 z22)
  let z24 : ag := { w0 := 0, w1 := 0, w2 := 0, w3 := 0 }
  (gd [jl (((), (0 : UInt8), [], ()), (c0_0, (), ()), z0, c2, ()), D8 (((), ()), z21, z22, ())] (.br (aw c0_0)
  (.br (xg z23)
    (.ok ⟨pV, ((aba c0_0 z23, ((0 : Int), ())), ((c0_0, ((), ())), ((z3, (z5, (z7, (z9, (z11, (z13, (z15, (z17, (z19, ((), (z20, ()))))))))))), (z22, ()))))⟩)
    (.ok ⟨pV, ((z24, ((21 : Int), ())), ((c0_0, ((), ())), ((z3, (z5, (z7, (z9, (z11, (z13, (z15, (z17, (z19, ((), (z20, ()))))))))))), (z22, ()))))⟩))
  (.ok ⟨pV, ((z24, ((20 : Int), ())), ((c0_0, ((), ())), ((z3, (z5, (z7, (z9, (z11, (z13, (z15, (z17, (z19, ((), (z20, ()))))))))))), (z22, ()))))⟩)))
theorem adl (x : Bi) (Q : gR.Y → Prop) : wpf te zd az 1000 Try.f120 (gR.inp.inj x).tm (gR.inp.inj x).hp (fnK gR GA Q) (fun _ _ => False) = (Kk (x.2.1.1) (x.2.2.1.1) (x.2.2.1.2.1) (x.2.2.1.2.2.1) (x.2.2.1.2.2.2.1) (x.2.2.1.2.2.2.2.1) (x.2.2.1.2.2.2.2.2.1) (x.2.2.1.2.2.2.2.2.2.1) (x.2.2.1.2.2.2.2.2.2.2.1) (x.2.2.1.2.2.2.2.2.2.2.2.1) (x.2.2.1.2.2.2.2.2.2.2.2.2.2.1) (x.2.2.2.1)).wpR Q := by kernel_rfl
theorem Qf (pre : Bi → Bool) (F : Bi → OT gR.Y) (hF : ∀ (x : Bi) oy, pre x = true → (F x).run = some oy → (Kk (x.2.1.1) (x.2.2.1.1) (x.2.2.1.2.1) (x.2.2.1.2.2.1) (x.2.2.1.2.2.2.1) (x.2.2.1.2.2.2.2.1) (x.2.2.1.2.2.2.2.2.1) (x.2.2.1.2.2.2.2.2.2.1) (x.2.2.1.2.2.2.2.2.2.2.1) (x.2.2.1.2.2.2.2.2.2.2.2.1) (x.2.2.1.2.2.2.2.2.2.2.2.2.2.1) (x.2.2.2.1)).run = some oy) : ab Try.prog 120 (gR.aE pre F) :=
  aC ao tC LJ (f := 120) (fn := Try.f120) (c := al Try.f120) (by kernel_rfl) (by kernel_rfl) (by kernel_rfl) (S := gR) (k := 3) (by kernel_rfl) (fun R hR => ae) (n := 1000) (sel := GA) (fun v o h => by cases h; rfl) (pre := pre) (F := F) (T := fun x => Kk (x.2.1.1) (x.2.2.1.1) (x.2.2.1.2.1) (x.2.2.1.2.2.1) (x.2.2.1.2.2.2.1) (x.2.2.1.2.2.2.2.1) (x.2.2.1.2.2.2.2.2.1) (x.2.2.1.2.2.2.2.2.2.1) (x.2.2.1.2.2.2.2.2.2.2.1) (x.2.2.1.2.2.2.2.2.2.2.2.1) (x.2.2.1.2.2.2.2.2.2.2.2.2.2.1) (x.2.2.2.1)) (fun x Q => adl x Q) hF
theorem fS (d : IM) (w : List UInt8) (m : UInt8) (b : List UInt8) : (fa d w m b).2.length ≤ 128 := QU _
theorem Fq (h : List UInt64) : ∀ k n, (upto (fun k (o : List UInt8) => o.set k (UInt64.toUInt8 (aP (h.getD (k / 8) 0) (8 * ((k % 8 : Nat) : Int))))) (List.replicate n 0) k).length = n
  | 0, n => List.length_replicate
  | k + 1, n => (List.length_set ..).trans (Fq h k n)
theorem YI (n : Int) (s : List UInt64 × UInt64 × List UInt8) : (aeH n s).length = n.toNat := Fq _ _ _
def adS (s : Int) (d : IM) (w : List UInt8) : ag := aba s (aeH d.1 (wV (fa d w 0 []).1 (fa d w 0 []).2))
def xn (x : Bi) : Bool := aw x.2.1.1 && decide (x.2.2.1.1 = 64 ∧ x.2.2.2.1.length ≤ 128)
def U3 (x : Bi) : OT gR.Y := .ok ⟨pV, ((adS x.2.1.1 x.2.2.1 x.2.2.2.1, ((0 : Int), ())), ((x.2.1.1, ((), ())), ((fa x.2.2.1 x.2.2.2.1 0 []).1, ((fa x.2.2.1 x.2.2.2.1 0 []).2, ()))))⟩
theorem Zn : ab Try.prog 120 (gR.aE xn U3) := Qf _ _ fun x oy hp ho => by
  rw [← ho]
  clear ho
  obtain ⟨⟨⟨⟩, ⟨⟩⟩, ⟨⟨s, ⟨⟩, ⟨⟩⟩, ⟨n, h0, h1, h2, h3, h4, h5, h6, h7, ⟨⟩, c, ⟨⟩⟩, w, ⟨⟩⟩⟩ := x
  obtain ⟨hs, hw⟩ := (Bool.and_eq_true _ _).mp hp
  obtain ⟨hn, hw⟩ := of_decide_eq_true hw
  have hn : n = 64 := hn
  have hw : w.length ≤ 128 := hw
  subst hn
  have hl : xg (aeH 64 (wV (fa (64, h0, h1, h2, h3, h4, h5, h6, h7, (), c, ()) w 0 []).1 (fa (64, h0, h1, h2, h3, h4, h5, h6, h7, (), c, ()) w 0 []).2)) = true := Gc.2 (YI _ _)
  refine (aj ?_).trans ((OT.ax hs).trans ((OT.ax hl).trans rfl))
  simp only [List.all_cons, List.all_nil, Bool.and_true, Bool.and_eq_true]
  exact ⟨decide_eq_true (by show w.length + 0 ≤ _; omega), decide_eq_true ⟨by show (0 : Int) ≤ 64; omega, by show (64 : Int) ≤ 64; omega, fS _ _ _ _⟩⟩
def sH : bO := (gR.aE xn U3)
theorem Kj : ab Try.prog 120 sH := Zn
theorem Ki : aD sH := aA
def zh : Env := av 120 sH zd
theorem tD : aN Try.prog zh := ah Kj tC
theorem uM : ar zh := ac Ki uL
theorem LK : aY Try.prog te zh := aG follows ao tD uM
end Go.Proofs.Ytohjofabochgfaa

namespace Go.Proofs.Ytohjofabochgfaa
namespace Sx
open Go
def N0 (id : Nat) (sh : Shape) (l : St → (SE → St → Prop) → Prop) (Λ : Lam) : Lam := fun j => cond (Nat.beq j id) (some fun st K => match sh.prj st with
  | some _ => l st K
  | none => match Λ id with
    | some l' => l' st K
    | none => False) (Λ j)
theorem Gi {P : Program} {R₀ : Ctx} {c : Code} (hd : distinct ((blocks c).map (·.1)) = true) {id : Nat} {sh : Shape} {l : St → (SE → St → Prop) → Prop} {Λ : Lam} (hl : N4 c id = true) (h : zL P R₀ (.block id (.loop (bM c id))) l) (hΛ : tk P R₀ Λ c) :
    tk P R₀ (N0 id sh l Λ) c := fun p hp l' hl' => by
  unfold N0 at hl'
  cases hb : Nat.beq p.1 id
  · rw [hb] at hl'; exact hΛ p hp l' hl'
  · rw [hb] at hl'
    cases hl'
    have e := Nat.eq_of_beq_eq_true hb
    have hp2 : p.2 = .loop (bM c id) := by
      have := s7 hd p hp
      rw [← this, e]
      have h2 := xb hl
      unfold HI at h2
      exact h2
    intro R st a w K Q hx hst hk hK
    split at hk
    · rw [hp2, e]
      exact h R st a w K Q hx hst hk hK
    · split at hk
      · rename_i l'' h''
        exact hΛ p hp l'' (by rw [e]; exact h'') R st a w K Q hx hst hk hK
      · exact hk.elim
def N3 (args : List SV) (hp : Hp) (a k : Nat) : Option TypeId := match args.getD a .bu with
  | .ptr c _ _ off => match hp c with
    | some ⟨_, .cells vs⟩ => match vs.getD (off + k) .bu with
      | .iface t _ => some t
      | _ => none
    | _ => none
  | .iface t _ => some t
  | _ => none
theorem Gj {d : Nat} {hp hp' : Hp} (hg : Lx d hp hp') {args : List SV} {a k : Nat} {t : TypeId} (h : N3 args hp a k = some t) : N3 args hp' a k = some t := by
  unfold N3 at h ⊢
  split at h
  · split at h
    · rename_i e vs hc
      rw [hg.fQ _ _ hc]
      exact h
    · cases h
  · exact h
  · cases h
def nE (a k : Nat) (T : TypeId) (s0 s1 : bO) : bO := ⟨s0.mod || s1.mod, fun d args hp => match N3 args hp a k with
  | some t => cond (Nat.beq t T) (s0.f d args hp) (s1.f d args hp)
  | none => .fail⟩
theorem jx {P : Program} {f : FuncId} {a k : Nat} {T : TypeId} {s0 s1 : bO} (h0 : ab P f s0) (h1 : ab P f s1) : ab P f (nE a k T s0 s1) := by
  refine ⟨fun R w d args vs out hm hr hrun => ?_⟩
  simp only [nE] at hrun
  split at hrun
  · rename_i t ht
    cases hb : Nat.beq t T
    · rw [hb] at hrun
      exact h1.calls R w d args vs out hm hr hrun
    · rw [hb] at hrun
      exact h0.calls R w d args vs out hm hr hrun
  · cases hrun
theorem fo {a k : Nat} {T : TypeId} {s0 s1 : bO} (h0 : aD s0) (h1 : aD s1) : aD (nE a k T s0 s1) := fun d args hp hp' out hg hrun => by
  simp only [nE] at hrun ⊢
  split at hrun
  · rename_i t ht
    rw [Gj hg ht]
    dsimp only
    cases hb : Nat.beq t T
    · rw [hb] at hrun
      exact h1 d args hp hp' out hg hrun
    · rw [hb] at hrun
      exact h0 d args hp hp' out hg hrun
  · cases hrun
end Sx
end Go.Proofs.Ytohjofabochgfaa

namespace Go.Proofs.Ytohjofabochgfaa
open Sx Go
set_option maxRecDepth 100000
def gT : ak := ⟨[.ptr 0 0 0], [(0, .cells [.val false .int, .ifp 106 1, .own 3]), (1, .cells [.val false .int, .ptr 2 0 0]), (2, VW (.own 4)), (3, .row .u8), (4, .row .u8)], false, 4, true⟩
abbrev Bk : Type := ((Unit) × Unit) × (((Int) × (Unit) × (Unit) × Unit) × ((Int) × (Unit) × Unit) × ((Int) × (UInt64) × (UInt64) × (UInt64) × (UInt64) × (UInt64) × (UInt64) × (UInt64) × (UInt64) × (Unit) × (UInt64) × Unit) × (List (UInt8)) × (List (UInt8)) × Unit)
def Du : aq := ⟨[.val true .elem, .val false .int], [(0, .cells [.val false .int, .ifp 106 1, .own 3]), (1, .cells [.val false .int, .ptr 2 0 0]), (2, .cells [.val false .int, .val false .u64, .val false .u64, .val false .u64, .val false .u64, .val false .u64, .val false .u64, .val false .u64, .val false .u64, .own 4, .val false .u64]), (3, .row .u8), (4, .row .u8)], false⟩
def GD : SV → Option aq := fun _ => some Du
def Kq (c0_0 : Int) (c1_0 : Int) (c2_0 : Int) (c2_1 : UInt64) (c2_2 : UInt64) (c2_3 : UInt64) (c2_4 : UInt64) (c2_5 : UInt64) (c2_6 : UInt64) (c2_7 : UInt64) (c2_8 : UInt64) (c2_10 : UInt64) (c3 : List (UInt8)) (c4 : List (UInt8)) : OT gT.Y :=
  let z0 : Int × UInt64 × UInt64 × UInt64 × UInt64 × UInt64 × UInt64 × UInt64 × UInt64 × PUnit × UInt64 × PUnit := (c2_0, c2_1, c2_2, c2_3, c2_4, c2_5, c2_6, c2_7, c2_8, (), c2_10, ())
  let z1 : (Int × UInt64 × UInt64 × UInt64 × UInt64 × UInt64 × UInt64 × UInt64 × UInt64 × PUnit × UInt64 × PUnit) × List UInt8 := fa z0 c4 (0 : UInt8) []
  let z2 := z1.fst
  let z3 := z2.snd
  let z4 := z3.snd
  let z5 := z4.snd
  let z6 := z5.snd
  let z7 := z6.snd
  let z8 := z7.snd
  let z9 := z8.snd
  let z10 := z9.snd
  (gd [xn (((), ()), (c1_0, (), ()), z0, c4, ())] (.ok ⟨Du, ((adS c1_0 z0 c4, ((0 : Int), ())), ((c0_0, ((), ((), ()))), ((c1_0, ((), ())), ((z2.fst, (z3.fst, (z4.fst, (z5.fst, (z6.fst, (z7.fst, (z8.fst, (z9.fst, (z10.fst, ((), (z10.snd.snd.fst, ()))))))))))), (c3, (z1.snd, ()))))))⟩))
theorem adn (x : Bk) (Q : gT.Y → Prop) : wpf te zh az 1000 Try.f14 (gT.inp.inj x).tm (gT.inp.inj x).hp (fnK gT GD Q) (fun _ _ => False) = (Kq (x.2.1.1) (x.2.2.1.1) (x.2.2.2.1.1) (x.2.2.2.1.2.1) (x.2.2.2.1.2.2.1) (x.2.2.2.1.2.2.2.1) (x.2.2.2.1.2.2.2.2.1) (x.2.2.2.1.2.2.2.2.2.1) (x.2.2.2.1.2.2.2.2.2.2.1) (x.2.2.2.1.2.2.2.2.2.2.2.1) (x.2.2.2.1.2.2.2.2.2.2.2.2.1) (x.2.2.2.1.2.2.2.2.2.2.2.2.2.2.1) (x.2.2.2.2.1) (x.2.2.2.2.2.1)).wpR Q := by kernel_rfl
theorem Qj (pre : Bk → Bool) (F : Bk → OT gT.Y) (hF : ∀ (x : Bk) oy, pre x = true → (F x).run = some oy → (Kq (x.2.1.1) (x.2.2.1.1) (x.2.2.2.1.1) (x.2.2.2.1.2.1) (x.2.2.2.1.2.2.1) (x.2.2.2.1.2.2.2.1) (x.2.2.2.1.2.2.2.2.1) (x.2.2.2.1.2.2.2.2.2.1) (x.2.2.2.1.2.2.2.2.2.2.1) (x.2.2.2.1.2.2.2.2.2.2.2.1) (x.2.2.2.1.2.2.2.2.2.2.2.2.1) (x.2.2.2.1.2.2.2.2.2.2.2.2.2.2.1) (x.2.2.2.2.1) (x.2.2.2.2.2.1)).run = some oy) : ab Try.prog 14 (gT.aE pre F) :=
  aC ao tD LK (f := 14) (fn := Try.f14) (c := al Try.f14) (by kernel_rfl) (by kernel_rfl) (by kernel_rfl) (S := gT) (k := 5) (by kernel_rfl) (fun R hR => ae) (n := 1000) (sel := GD) (fun v o h => by cases h; rfl) (pre := pre) (F := F) (T := fun x => Kq (x.2.1.1) (x.2.2.1.1) (x.2.2.2.1.1) (x.2.2.2.1.2.1) (x.2.2.2.1.2.2.1) (x.2.2.2.1.2.2.2.1) (x.2.2.2.1.2.2.2.2.1) (x.2.2.2.1.2.2.2.2.2.1) (x.2.2.2.1.2.2.2.2.2.2.1) (x.2.2.2.1.2.2.2.2.2.2.2.1) (x.2.2.2.1.2.2.2.2.2.2.2.2.1) (x.2.2.2.1.2.2.2.2.2.2.2.2.2.2.1) (x.2.2.2.2.1) (x.2.2.2.2.2.1)) (fun x Q => adn x Q) hF
def jn (x : Bk) : Bool := aw x.2.2.1.1 && decide (x.2.2.2.1.1 = 64 ∧ x.2.2.2.2.2.1.length ≤ 128)
def U8 (x : Bk) : OT gT.Y := .ok ⟨Du, ((adS x.2.2.1.1 x.2.2.2.1 x.2.2.2.2.2.1, ((0 : Int), ())), ((x.2.1.1, ((), ((), ()))), ((x.2.2.1.1, ((), ())), ((fa x.2.2.2.1 x.2.2.2.2.2.1 0 []).1, (x.2.2.2.2.1, ((fa x.2.2.2.1 x.2.2.2.2.2.1 0 []).2, ()))))))⟩
theorem Zp : ab Try.prog 14 (gT.aE jn U8) := Qj _ _ fun x oy hp ho => by
  rw [← ho]
  clear ho
  obtain ⟨⟨⟨⟩, ⟨⟩⟩, ⟨⟨c, ⟨⟩, ⟨⟩, ⟨⟩⟩, ⟨s, ⟨⟩, ⟨⟩⟩, ⟨n, h0, h1, h2, h3, h4, h5, h6, h7, ⟨⟩, k, ⟨⟩⟩, o, w, ⟨⟩⟩⟩ := x
  refine (aj ?_).trans rfl
  simp only [List.all_cons, List.all_nil, Bool.and_true]
  exact hp
def sJ : bO := (nE 0 1 98 mf (gT.aE jn U8))
theorem Ko : ab Try.prog 14 sJ := (jx wm Zp)
theorem Kn : aD sJ := (fo wl aA)
def zj : Env := av 14 sJ zh
theorem tF : aN Try.prog zj := ah Ko tD
theorem uO : ar zj := ac Kn uM
theorem LM : aY Try.prog te zj := aG follows ao tF uO
def gB : ak := ⟨[.ptr 0 0 0, .val true .elem], [(0, .cells [.val false .int, .ifp 98 1, .own 2]), (1, .cells [.val false .int, .val false (.list .elem)]), (2, .row .u8)], false, 3, true⟩
abbrev AG : Type := ((Unit) × (ag) × Unit) × (((Int) × (Unit) × (Unit) × Unit) × ((Int) × (List (ag)) × Unit) × (List (UInt8)) × Unit)
def vk : aq := ⟨[], [(0, .cells [.val false .int, .ifp 98 1, .own 2]), (1, .cells [.val false .int, .val false (.list .elem)]), (2, .row .u8)], false⟩
def Fm : SV → Option aq := fun _ => some vk
def Jl (a1 : ag) (c0_0 : Int) (c1_0 : Int) (c1_1 : List (ag)) (c2 : List (UInt8)) : OT gB.Y :=
  (.br (aw (dK c0_0 (1 : Int)))
  (.ok ⟨vk, ((), ((c0_0, ((), ((), ()))), ((c1_0, (c1_1, ())), (c2, ()))))⟩)
  (.ok ⟨vk, ((), ((c0_0, ((), ((), ()))), ((c1_0, (c1_1, ())), (c2, ()))))⟩))
theorem abo (x : AG) (Q : gB.Y → Prop) : wpf te zj az 1000 Try.f11 (gB.inp.inj x).tm (gB.inp.inj x).hp (fnK gB Fm Q) (fun _ _ => False) = (Jl (x.1.2.1) (x.2.1.1) (x.2.2.1.1) (x.2.2.1.2.1) (x.2.2.2.1)).wpR Q := by kernel_rfl
theorem Pv (pre : AG → Bool) (F : AG → OT gB.Y) (hF : ∀ (x : AG) oy, pre x = true → (F x).run = some oy → (Jl (x.1.2.1) (x.2.1.1) (x.2.2.1.1) (x.2.2.1.2.1) (x.2.2.2.1)).run = some oy) : ab Try.prog 11 (gB.aE pre F) :=
  aC ao tF LM (f := 11) (fn := Try.f11) (c := al Try.f11) (by kernel_rfl) (by kernel_rfl) (by kernel_rfl) (S := gB) (k := 3) (by kernel_rfl) (fun R hR => ae) (n := 1000) (sel := Fm) (fun v o h => by cases h; rfl) (pre := pre) (F := F) (T := fun x => Jl (x.1.2.1) (x.2.1.1) (x.2.2.1.1) (x.2.2.1.2.1) (x.2.2.2.1)) (fun x Q => abo x Q) hF
def wi (x : AG) : Bool := aw (dK x.2.1.1 1)
def Sc (x : AG) : OT gB.Y := .ok ⟨vk, ((), ((x.2.1.1, ((), ((), ()))), ((x.2.2.1.1, (x.2.2.1.2.1, ())), (x.2.2.2.1, ()))))⟩
theorem Xu : ab Try.prog 11 (gB.aE wi Sc) := Pv _ _ fun x oy hp ho => by
  rw [← ho]
  clear ho
  obtain ⟨⟨⟨⟩, v, ⟨⟩⟩, ⟨⟨c, ⟨⟩, ⟨⟩, ⟨⟩⟩, ⟨s, l, ⟨⟩⟩, o, ⟨⟩⟩⟩ := x
  have hs : aw (dK c 1) = true := hp
  exact (OT.ax hs).trans rfl
def md : bO := (gB.aE wi Sc)
theorem wj : ab Try.prog 11 md := Xu
theorem wh : aD md := aA
def yY : Env := av 11 md zj
theorem tu : aN Try.prog yY := ah wj tF
theorem uE : ar yY := ac wh uO
theorem LB : aY Try.prog te yY := aG follows ao tu uE
def gS : ak := ⟨[.ptr 0 0 0, .val true .elem], [(0, .cells [.val false .int, .ifp 106 1, .own 3]), (1, .cells [.val false .int, .ptr 2 0 0]), (2, VW (.own 4)), (3, .row .u8), (4, .row .u8)], false, 4, true⟩
abbrev Bj : Type := ((Unit) × (ag) × Unit) × (((Int) × (Unit) × (Unit) × Unit) × ((Int) × (Unit) × Unit) × ((Int) × (UInt64) × (UInt64) × (UInt64) × (UInt64) × (UInt64) × (UInt64) × (UInt64) × (UInt64) × (Unit) × (UInt64) × Unit) × (List (UInt8)) × (List (UInt8)) × Unit)
def pX : aq := ⟨[], [(0, .cells [.val false .int, .ifp 106 1, .own 3]), (1, .cells [.val false .int, .ptr 2 0 0]), (2, .cells [.val false .int, .val false .u64, .val false .u64, .val false .u64, .val false .u64, .val false .u64, .val false .u64, .val false .u64, .val false .u64, .own 4, .val false .u64]), (3, .row .u8), (4, .row .u8)], false⟩
def GC : SV → Option aq := fun _ => some pX
def xo (a1 : ag) (c0_0 : Int) (c1_0 : Int) (c2_0 : Int) (c2_1 : UInt64) (c2_2 : UInt64) (c2_3 : UInt64) (c2_4 : UInt64) (c2_5 : UInt64) (c2_6 : UInt64) (c2_7 : UInt64) (c2_8 : UInt64) (c2_10 : UInt64) (c3 : List (UInt8)) (c4 : List (UInt8)) : OT gS.Y :=
  let z0 : Int := dK c0_0 (1 : Int)
  let z1 : List UInt8 := DR (ofN (ag.nat a1 % ag.nat (cI (Int.toNat z0)).fst))
  let z2 : Int × UInt64 × UInt64 × UInt64 × UInt64 × UInt64 × UInt64 × UInt64 × UInt64 × PUnit × UInt64 × PUnit := (c2_0, c2_1, c2_2, c2_3, c2_4, c2_5, c2_6, c2_7, c2_8, (), c2_10, ())
  let z3 : (Int × PUnit × PUnit) × (Int × UInt64 × UInt64 × UInt64 × UInt64 × UInt64 × UInt64 × UInt64 × UInt64 × PUnit × UInt64 × PUnit) × List UInt8 × PUnit := ((c1_0, (), ()), z2, c4, ())
  let z4 : (Int × UInt64 × UInt64 × UInt64 × UInt64 × UInt64 × UInt64 × UInt64 × UInt64 × PUnit × UInt64 × PUnit) × List UInt8 := fa z2 c4 (2 : UInt8) z1
  let z5 := z4.fst
  let z6 := z5.snd
  let z7 := z6.snd
  let z8 := z7.snd
  let z9 := z8.snd
  let z10 := z9.snd
  let z11 := z10.snd
  let z12 := z11.snd
  let z13 := z12.snd
  let z14 : (Int × UInt64 × UInt64 × UInt64 × UInt64 × UInt64 × UInt64 × UInt64 × UInt64 × PUnit × UInt64 × PUnit) × List UInt8 := fa z2 c4 (2 : UInt8) []
  let z15 := z14.fst
  let z16 := z15.snd
  let z17 := z16.snd
  let z18 := z17.snd
  let z19 := z18.snd
  let z20 := z19.snd
  let z21 := z20.snd
  let z22 := z21.snd
  let z23 := z22.snd
  (.br (aw z0)
  (gd [jl (((), (2 : UInt8), z1, ()), z3)] (.ok ⟨pX, ((), ((c0_0, ((), ((), ()))), ((c1_0, ((), ())), ((z5.fst, (z6.fst, (z7.fst, (z8.fst, (z9.fst, (z10.fst, (z11.fst, (z12.fst, (z13.fst, ((), (z13.snd.snd.fst, ()))))))))))), (c3, (z4.snd, ()))))))⟩))
  (gd [jl (((), (2 : UInt8), [], ()), z3)] (.ok ⟨pX, ((), ((c0_0, ((), ((), ()))), ((c1_0, ((), ())), ((z15.fst, (z16.fst, (z17.fst, (z18.fst, (z19.fst, (z20.fst, (z21.fst, (z22.fst, (z23.fst, ((), (z23.snd.snd.fst, ()))))))))))), (c3, (z14.snd, ()))))))⟩)))
theorem adm (x : Bj) (Q : gS.Y → Prop) : wpf te yY az 1000 Try.f11 (gS.inp.inj x).tm (gS.inp.inj x).hp (fnK gS GC Q) (fun _ _ => False) = (xo (x.1.2.1) (x.2.1.1) (x.2.2.1.1) (x.2.2.2.1.1) (x.2.2.2.1.2.1) (x.2.2.2.1.2.2.1) (x.2.2.2.1.2.2.2.1) (x.2.2.2.1.2.2.2.2.1) (x.2.2.2.1.2.2.2.2.2.1) (x.2.2.2.1.2.2.2.2.2.2.1) (x.2.2.2.1.2.2.2.2.2.2.2.1) (x.2.2.2.1.2.2.2.2.2.2.2.2.1) (x.2.2.2.1.2.2.2.2.2.2.2.2.2.2.1) (x.2.2.2.2.1) (x.2.2.2.2.2.1)).wpR Q := by kernel_rfl
theorem Qh (pre : Bj → Bool) (F : Bj → OT gS.Y) (hF : ∀ (x : Bj) oy, pre x = true → (F x).run = some oy → (xo (x.1.2.1) (x.2.1.1) (x.2.2.1.1) (x.2.2.2.1.1) (x.2.2.2.1.2.1) (x.2.2.2.1.2.2.1) (x.2.2.2.1.2.2.2.1) (x.2.2.2.1.2.2.2.2.1) (x.2.2.2.1.2.2.2.2.2.1) (x.2.2.2.1.2.2.2.2.2.2.1) (x.2.2.2.1.2.2.2.2.2.2.2.1) (x.2.2.2.1.2.2.2.2.2.2.2.2.1) (x.2.2.2.1.2.2.2.2.2.2.2.2.2.2.1) (x.2.2.2.2.1) (x.2.2.2.2.2.1)).run = some oy) : ab Try.prog 11 (gS.aE pre F) :=
  aC ao tu LB (f := 11) (fn := Try.f11) (c := al Try.f11) (by kernel_rfl) (by kernel_rfl) (by kernel_rfl) (S := gS) (k := 5) (by kernel_rfl) (fun R hR => ae) (n := 1000) (sel := GC) (fun v o h => by cases h; rfl) (pre := pre) (F := F) (T := fun x => xo (x.1.2.1) (x.2.1.1) (x.2.2.1.1) (x.2.2.2.1.1) (x.2.2.2.1.2.1) (x.2.2.2.1.2.2.1) (x.2.2.2.1.2.2.2.1) (x.2.2.2.1.2.2.2.2.1) (x.2.2.2.1.2.2.2.2.2.1) (x.2.2.2.1.2.2.2.2.2.2.1) (x.2.2.2.1.2.2.2.2.2.2.2.1) (x.2.2.2.1.2.2.2.2.2.2.2.2.1) (x.2.2.2.1.2.2.2.2.2.2.2.2.2.2.1) (x.2.2.2.2.1) (x.2.2.2.2.2.1)) (fun x Q => adm x Q) hF
theorem ir (c : Int) (v : ag) : (cH c v).length = 32 := j8 _
def pW (x : Bj) : Bool := aw (dK x.2.1.1 1) && decide (x.2.2.2.2.2.1.length ≤ 128)
def U7 (x : Bj) : OT gS.Y := .ok ⟨pX, ((), ((x.2.1.1, ((), ((), ()))), ((x.2.2.1.1, ((), ())), ((fa x.2.2.2.1 x.2.2.2.2.2.1 2 (cH x.2.1.1 x.1.2.1)).1, (x.2.2.2.2.1, ((fa x.2.2.2.1 x.2.2.2.2.2.1 2 (cH x.2.1.1 x.1.2.1)).2, ()))))))⟩
theorem Qi {c s : Int} {v : ag} {d : IM} {w o : List UInt8} (hs : aw (dK c 1) = true) (hw : w.length ≤ 128) :
    (xo v c s d.1 d.2.1 d.2.2.1 d.2.2.2.1 d.2.2.2.2.1 d.2.2.2.2.2.1 d.2.2.2.2.2.2.1 d.2.2.2.2.2.2.2.1 d.2.2.2.2.2.2.2.2.1 d.2.2.2.2.2.2.2.2.2.2.1 o w).run = some ⟨pX, ((), ((c, ((), ((), ()))), ((s, ((), ())), ((fa d w 2 (cH c v)).1, (o, ((fa d w 2 (cH c v)).2, ()))))))⟩ := by
  have hb := ir c v
  generalize hB : cH c v = B at hb
  have hB : DR (ofN (v.nat % (cI (dK c 1).toNat).1.nat)) = B := hB
  unfold xo
  simp only [hB]
  refine (OT.ax hs).trans ((aj ?_).trans rfl)
  simp only [List.all_cons, List.all_nil, Bool.and_true]
  exact decide_eq_true (by show w.length + B.length ≤ _; omega)
theorem Zo : ab Try.prog 11 (gS.aE pW U7) := Qh _ _ fun x oy hp ho => by
  rw [← ho]
  clear ho
  obtain ⟨⟨⟨⟩, v, ⟨⟩⟩, ⟨⟨c, ⟨⟩, ⟨⟩, ⟨⟩⟩, ⟨s, ⟨⟩, ⟨⟩⟩, d, o, w, ⟨⟩⟩⟩ := x
  obtain ⟨hs, hw⟩ := (Bool.and_eq_true _ _).mp hp
  exact Qi hs (of_decide_eq_true hw)
def sI : bO := (nE 0 1 98 md (gS.aE pW U7))
theorem Km : ab Try.prog 11 sI := (jx wj Zo)
theorem Kl : aD sI := (fo wh aA)
def zi : Env := av 11 sI yY
theorem tE : aN Try.prog zi := ah Km tu
theorem uN : ar zi := ac Kl uE
theorem LL : aY Try.prog te zi := aG follows ao tE uN
def k8 : ak := ⟨[.ptr 0 0 0, .val false .u8, .val false (.list .u8)], [(0, .cells [.val false .int, .ifp 106 1, .own 3]), (1, .cells [.val false .int, .ptr 2 0 0]), (2, VW (.own 4)), (3, .row .u8), (4, .row .u8)], false, 3, true⟩
abbrev Qe : Type := ((Unit) × (UInt8) × (List (UInt8)) × Unit) × (((Int) × (Unit) × (Unit) × Unit) × ((Int) × (Unit) × Unit) × ((Int) × (UInt64) × (UInt64) × (UInt64) × (UInt64) × (UInt64) × (UInt64) × (UInt64) × (UInt64) × (Unit) × (UInt64) × Unit) × (List (UInt8)) × (List (UInt8)) × Unit)
def Kf : aq := ⟨[], [(0, .cells [.val false .int, .ifp 106 1, .own 3]), (1, .cells [.val false .int, .ptr 2 0 0]), (2, .cells [.val false .int, .val false .u64, .val false .u64, .val false .u64, .val false .u64, .val false .u64, .val false .u64, .val false .u64, .val false .u64, .own 4, .val false .u64]), (3, .row .u8), (4, .row .u8)], false⟩
def N7 : SV → Option aq := fun _ => some Kf
def U0 (a1 : UInt8) (a2 : List (UInt8)) (c0_0 : Int) (c1_0 : Int) (c2_0 : Int) (c2_1 : UInt64) (c2_2 : UInt64) (c2_3 : UInt64) (c2_4 : UInt64) (c2_5 : UInt64) (c2_6 : UInt64) (c2_7 : UInt64) (c2_8 : UInt64) (c2_10 : UInt64) (c3 : List (UInt8)) (c4 : List (UInt8)) : OT k8.Y :=
  let z0 : Int × UInt64 × UInt64 × UInt64 × UInt64 × UInt64 × UInt64 × UInt64 × UInt64 × PUnit × UInt64 × PUnit := (c2_0, c2_1, c2_2, c2_3, c2_4, c2_5, c2_6, c2_7, c2_8, (), c2_10, ())
  let z1 : (Int × UInt64 × UInt64 × UInt64 × UInt64 × UInt64 × UInt64 × UInt64 × UInt64 × PUnit × UInt64 × PUnit) × List UInt8 := fa z0 c4 a1 a2
  let z2 := z1.fst
  let z3 := z2.snd
  let z4 := z3.snd
  let z5 := z4.snd
  let z6 := z5.snd
  let z7 := z6.snd
  let z8 := z7.snd
  let z9 := z8.snd
  let z10 := z9.snd
  (gd [decide ((List.length c3 + List.length a2) * 1 ≤ 140737488355328), jl (((), a1, a2, ()), (c1_0, (), ()), z0, c4, ())] (.ok ⟨Kf, ((), ((c0_0, ((), ((), ()))), ((c1_0, ((), ())), ((z2.fst, (z3.fst, (z4.fst, (z5.fst, (z6.fst, (z7.fst, (z8.fst, (z9.fst, (z10.fst, ((), (z10.snd.snd.fst, ()))))))))))), (c3 ++ a2, (z1.snd, ()))))))⟩))
theorem aeZ (x : Qe) (Q : k8.Y → Prop) : wpf te zi az 1000 Try.f35 (k8.inp.inj x).tm (k8.inp.inj x).hp (fnK k8 N7 Q) (fun _ _ => False) = (U0 (x.1.2.1) (x.1.2.2.1) (x.2.1.1) (x.2.2.1.1) (x.2.2.2.1.1) (x.2.2.2.1.2.1) (x.2.2.2.1.2.2.1) (x.2.2.2.1.2.2.2.1) (x.2.2.2.1.2.2.2.2.1) (x.2.2.2.1.2.2.2.2.2.1) (x.2.2.2.1.2.2.2.2.2.2.1) (x.2.2.2.1.2.2.2.2.2.2.2.1) (x.2.2.2.1.2.2.2.2.2.2.2.2.1) (x.2.2.2.1.2.2.2.2.2.2.2.2.2.2.1) (x.2.2.2.2.1) (x.2.2.2.2.2.1)).wpR Q := by kernel_rfl
theorem UZ (pre : Qe → Bool) (F : Qe → OT k8.Y) (hF : ∀ (x : Qe) oy, pre x = true → (F x).run = some oy → (U0 (x.1.2.1) (x.1.2.2.1) (x.2.1.1) (x.2.2.1.1) (x.2.2.2.1.1) (x.2.2.2.1.2.1) (x.2.2.2.1.2.2.1) (x.2.2.2.1.2.2.2.1) (x.2.2.2.1.2.2.2.2.1) (x.2.2.2.1.2.2.2.2.2.1) (x.2.2.2.1.2.2.2.2.2.2.1) (x.2.2.2.1.2.2.2.2.2.2.2.1) (x.2.2.2.1.2.2.2.2.2.2.2.2.1) (x.2.2.2.1.2.2.2.2.2.2.2.2.2.2.1) (x.2.2.2.2.1) (x.2.2.2.2.2.1)).run = some oy) : ab Try.prog 35 (k8.aE pre F) :=
  aC ao tE LL (f := 35) (fn := Try.f35) (c := al Try.f35) (by kernel_rfl) (by kernel_rfl) (by kernel_rfl) (S := k8) (k := 5) (by kernel_rfl) (fun R hR => ae) (n := 1000) (sel := N7) (fun v o h => by cases h; rfl) (pre := pre) (F := F) (T := fun x => U0 (x.1.2.1) (x.1.2.2.1) (x.2.1.1) (x.2.2.1.1) (x.2.2.2.1.1) (x.2.2.2.1.2.1) (x.2.2.2.1.2.2.1) (x.2.2.2.1.2.2.2.1) (x.2.2.2.1.2.2.2.2.1) (x.2.2.2.1.2.2.2.2.2.1) (x.2.2.2.1.2.2.2.2.2.2.1) (x.2.2.2.1.2.2.2.2.2.2.2.1) (x.2.2.2.1.2.2.2.2.2.2.2.2.1) (x.2.2.2.1.2.2.2.2.2.2.2.2.2.2.1) (x.2.2.2.2.1) (x.2.2.2.2.2.1)) (fun x Q => aeZ x Q) hF
def pT (x : Qe) : Bool := decide (x.2.2.2.2.1.length + x.1.2.2.1.length ≤ 140737488350000 ∧ x.2.2.2.2.2.1.length ≤ 128 ∧ x.1.2.2.1.length ≤ 1000)
def aaN (x : Qe) : OT k8.Y := .ok ⟨Kf, ((), ((x.2.1.1, ((), ((), ()))), ((x.2.2.1.1, ((), ())), ((fa x.2.2.2.1 x.2.2.2.2.2.1 x.1.2.1 x.1.2.2.1).1, (x.2.2.2.2.1 ++ x.1.2.2.1, ((fa x.2.2.2.1 x.2.2.2.2.2.1 x.1.2.1 x.1.2.2.1).2, ()))))))⟩
theorem adk : ab Try.prog 35 (k8.aE pT aaN) := UZ _ _ fun x oy hp ho => by
  rw [← ho]
  clear ho
  obtain ⟨⟨⟨⟩, m, b, ⟨⟩⟩, ⟨⟨c, ⟨⟩, ⟨⟩, ⟨⟩⟩, ⟨s, ⟨⟩, ⟨⟩⟩, d, o, w, ⟨⟩⟩⟩ := x
  obtain ⟨h1, h2, h3⟩ := of_decide_eq_true hp
  have h1 : o.length + b.length ≤ 140737488350000 := h1
  have h2 : w.length ≤ 128 := h2
  have h3 : b.length ≤ 1000 := h3
  refine (aj ?_).trans rfl
  simp only [List.all_cons, List.all_nil, Bool.and_true, Bool.and_eq_true]
  exact ⟨decide_eq_true (by omega), decide_eq_true (by show w.length + b.length ≤ _; omega)⟩
def xm : bO := (nE 0 1 98 pf (kB 2 (k8.aE pT aaN)))
theorem Qd : ab Try.prog 35 xm := (jx Ay (me adk))
theorem Qc : aD xm := (fo Ax (io aA))
def Iu : Env := av 35 xm zi
theorem zf : aN Try.prog Iu := ah Qd tE
theorem zg : ar Iu := ac Qc uN
theorem Rx : aY Try.prog te Iu := aG follows ao zf zg
def dA : ak := ⟨[.ptr 0 0 0, .val true .elem], [(0, .cells [.val false .int, .ifp 106 1, .own 3]), (1, .cells [.val false .int, .ptr 2 0 0]), (2, VW (.own 4)), (3, .row .u8), (4, .row .u8)], false, 3, true⟩
abbrev mC : Type := ((Unit) × (ag) × Unit) × (((Int) × (Unit) × (Unit) × Unit) × ((Int) × (Unit) × Unit) × ((Int) × (UInt64) × (UInt64) × (UInt64) × (UInt64) × (UInt64) × (UInt64) × (UInt64) × (UInt64) × (Unit) × (UInt64) × Unit) × (List (UInt8)) × (List (UInt8)) × Unit)
def jm : aq := ⟨[], [(0, .cells [.val false .int, .ifp 106 1, .own 3]), (1, .cells [.val false .int, .ptr 2 0 0]), (2, .cells [.val false .int, .val false .u64, .val false .u64, .val false .u64, .val false .u64, .val false .u64, .val false .u64, .val false .u64, .val false .u64, .own 4, .val false .u64]), (3, .row .u8), (4, .row .u8)], false⟩
def xl : SV → Option aq := fun _ => some jm
def k7 (a1 : ag) (c0_0 : Int) (c1_0 : Int) (c2_0 : Int) (c2_1 : UInt64) (c2_2 : UInt64) (c2_3 : UInt64) (c2_4 : UInt64) (c2_5 : UInt64) (c2_6 : UInt64) (c2_7 : UInt64) (c2_8 : UInt64) (c2_10 : UInt64) (c3 : List (UInt8)) (c4 : List (UInt8)) : OT dA.Y :=
  let z0 : Int := dK c0_0 (1 : Int)
  let z1 : List UInt8 := DR (ofN (ag.nat a1 % ag.nat (cI (Int.toNat z0)).fst))
  let z2 : Int × UInt64 × UInt64 × UInt64 × UInt64 × UInt64 × UInt64 × UInt64 × UInt64 × PUnit × UInt64 × PUnit := (c2_0, c2_1, c2_2, c2_3, c2_4, c2_5, c2_6, c2_7, c2_8, (), c2_10, ())
  let z3 : (Int × PUnit × PUnit × PUnit) × (Int × PUnit × PUnit) × (Int × UInt64 × UInt64 × UInt64 × UInt64 × UInt64 × UInt64 × UInt64 × UInt64 × PUnit × UInt64 × PUnit) × List UInt8 × List UInt8 × PUnit := ((c0_0, (), (), ()), (c1_0, (), ()), z2, c3, c4, ())
  let z4 : (Int × UInt64 × UInt64 × UInt64 × UInt64 × UInt64 × UInt64 × UInt64 × UInt64 × PUnit × UInt64 × PUnit) × List UInt8 := fa z2 c4 (2 : UInt8) z1
  let z5 := z4.fst
  let z6 := z5.snd
  let z7 := z6.snd
  let z8 := z7.snd
  let z9 := z8.snd
  let z10 := z9.snd
  let z11 := z10.snd
  let z12 := z11.snd
  let z13 := z12.snd
  let z14 : (Int × UInt64 × UInt64 × UInt64 × UInt64 × UInt64 × UInt64 × UInt64 × UInt64 × PUnit × UInt64 × PUnit) × List UInt8 := fa z2 c4 (2 : UInt8) []
  let z15 := z14.fst
  let z16 := z15.snd
  let z17 := z16.snd
  let z18 := z17.snd
  let z19 := z18.snd
  let z20 := z19.snd
  let z21 := z20.snd
  let z22 := z21.snd
  let z23 := z22.snd
  (.br (aw z0)
  (gd [pT (((), (2 : UInt8), z1, ()), z3)] (.ok ⟨jm, ((), ((c0_0, ((), ((), ()))), ((c1_0, ((), ())), ((z5.fst, (z6.fst, (z7.fst, (z8.fst, (z9.fst, (z10.fst, (z11.fst, (z12.fst, (z13.fst, ((), (z13.snd.snd.fst, ()))))))))))), (c3 ++ z1, (z4.snd, ()))))))⟩))
  (gd [pT (((), (2 : UInt8), [], ()), z3)] (.ok ⟨jm, ((), ((c0_0, ((), ((), ()))), ((c1_0, ((), ())), ((z15.fst, (z16.fst, (z17.fst, (z18.fst, (z19.fst, (z20.fst, (z21.fst, (z22.fst, (z23.fst, ((), (z23.snd.snd.fst, ()))))))))))), (c3 ++ [], (z14.snd, ()))))))⟩)))
theorem UY (x : mC) (Q : dA.Y → Prop) : wpf te Iu az 1000 Try.f12 (dA.inp.inj x).tm (dA.inp.inj x).hp (fnK dA xl Q) (fun _ _ => False) = (k7 (x.1.2.1) (x.2.1.1) (x.2.2.1.1) (x.2.2.2.1.1) (x.2.2.2.1.2.1) (x.2.2.2.1.2.2.1) (x.2.2.2.1.2.2.2.1) (x.2.2.2.1.2.2.2.2.1) (x.2.2.2.1.2.2.2.2.2.1) (x.2.2.2.1.2.2.2.2.2.2.1) (x.2.2.2.1.2.2.2.2.2.2.2.1) (x.2.2.2.1.2.2.2.2.2.2.2.2.1) (x.2.2.2.1.2.2.2.2.2.2.2.2.2.2.1) (x.2.2.2.2.1) (x.2.2.2.2.2.1)).wpR Q := by kernel_rfl
theorem Gv (pre : mC → Bool) (F : mC → OT dA.Y) (hF : ∀ (x : mC) oy, pre x = true → (F x).run = some oy → (k7 (x.1.2.1) (x.2.1.1) (x.2.2.1.1) (x.2.2.2.1.1) (x.2.2.2.1.2.1) (x.2.2.2.1.2.2.1) (x.2.2.2.1.2.2.2.1) (x.2.2.2.1.2.2.2.2.1) (x.2.2.2.1.2.2.2.2.2.1) (x.2.2.2.1.2.2.2.2.2.2.1) (x.2.2.2.1.2.2.2.2.2.2.2.1) (x.2.2.2.1.2.2.2.2.2.2.2.2.1) (x.2.2.2.1.2.2.2.2.2.2.2.2.2.2.1) (x.2.2.2.2.1) (x.2.2.2.2.2.1)).run = some oy) : ab Try.prog 12 (dA.aE pre F) :=
  aC ao zf Rx (f := 12) (fn := Try.f12) (c := al Try.f12) (by kernel_rfl) (by kernel_rfl) (by kernel_rfl) (S := dA) (k := 5) (by kernel_rfl) (fun R hR => ae) (n := 1000) (sel := xl) (fun v o h => by cases h; rfl) (pre := pre) (F := F) (T := fun x => k7 (x.1.2.1) (x.2.1.1) (x.2.2.1.1) (x.2.2.2.1.1) (x.2.2.2.1.2.1) (x.2.2.2.1.2.2.1) (x.2.2.2.1.2.2.2.1) (x.2.2.2.1.2.2.2.2.1) (x.2.2.2.1.2.2.2.2.2.1) (x.2.2.2.1.2.2.2.2.2.2.1) (x.2.2.2.1.2.2.2.2.2.2.2.1) (x.2.2.2.1.2.2.2.2.2.2.2.2.1) (x.2.2.2.1.2.2.2.2.2.2.2.2.2.2.1) (x.2.2.2.2.1) (x.2.2.2.2.2.1)) (fun x Q => UY x Q) hF
def fh (x : mC) : Bool := aw (dK x.2.1.1 1) && decide (x.2.2.2.2.1.length ≤ 140737488340000 ∧ x.2.2.2.2.2.1.length ≤ 128)
def Gx (x : mC) : OT dA.Y := .ok ⟨jm, ((), ((x.2.1.1, ((), ((), ()))), ((x.2.2.1.1, ((), ())), ((fa x.2.2.2.1 x.2.2.2.2.2.1 2 (cH x.2.1.1 x.1.2.1)).1, (x.2.2.2.2.1 ++ cH x.2.1.1 x.1.2.1, ((fa x.2.2.2.1 x.2.2.2.2.2.1 2 (cH x.2.1.1 x.1.2.1)).2, ()))))))⟩
theorem Gw {c s : Int} {v : ag} {d : IM} {w o : List UInt8} (hs : aw (dK c 1) = true) (ho : o.length ≤ 140737488340000) (hw : w.length ≤ 128) :
    (k7 v c s d.1 d.2.1 d.2.2.1 d.2.2.2.1 d.2.2.2.2.1 d.2.2.2.2.2.1 d.2.2.2.2.2.2.1 d.2.2.2.2.2.2.2.1 d.2.2.2.2.2.2.2.2.1 d.2.2.2.2.2.2.2.2.2.2.1 o w).run = some ⟨jm, ((), ((c, ((), ((), ()))), ((s, ((), ())), ((fa d w 2 (cH c v)).1, (o ++ cH c v, ((fa d w 2 (cH c v)).2, ()))))))⟩ := by
  have hb := ir c v
  generalize hB : cH c v = B at hb
  have hB : DR (ofN (v.nat % (cI (dK c 1).toNat).1.nat)) = B := hB
  unfold k7
  simp only [hB]
  refine (OT.ax hs).trans ((aj ?_).trans rfl)
  simp only [List.all_cons, List.all_nil, Bool.and_true]
  exact decide_eq_true ⟨by show o.length + B.length ≤ _; omega, hw, by show B.length ≤ _; omega⟩
theorem Qb : ab Try.prog 12 (dA.aE fh Gx) := Gv _ _ fun x oy hp ho => by
  rw [← ho]
  clear ho
  obtain ⟨⟨⟨⟩, v, ⟨⟩⟩, ⟨⟨c, ⟨⟩, ⟨⟩, ⟨⟩⟩, ⟨s, ⟨⟩, ⟨⟩⟩, d, o, w, ⟨⟩⟩⟩ := x
  obtain ⟨hs, hw⟩ := (Bool.and_eq_true _ _).mp hp
  obtain ⟨h1, h2⟩ := of_decide_eq_true hw
  exact Gw hs h1 h2
def k6 : bO := (nE 0 1 98 im (dA.aE fh Gx))
theorem Dr : ab Try.prog 12 k6 := (jx pe Qb)
theorem Dq : aD k6 := (fo pd aA)
def lQ : Env := av 12 k6 Iu
theorem lP : aN Try.prog lQ := ah Dr zf
theorem nL : ar lQ := ac Dq zg
theorem EF : aY Try.prog te lQ := aG follows ao lP nL
def eP : ak := ⟨[.ptr 0 0 0], [(0, .cells [.val false .int, .ifp 106 1, .own 3]), (1, .cells [.val false .int, .ptr 2 0 0]), (2, VW (.own 4)), (3, .row .u8), (4, .row .u8)], false, 5, true⟩
abbrev sK : Type := ((Unit) × Unit) × (((Int) × (Unit) × (Unit) × Unit) × ((Int) × (Unit) × Unit) × ((Int) × (UInt64) × (UInt64) × (UInt64) × (UInt64) × (UInt64) × (UInt64) × (UInt64) × (UInt64) × (Unit) × (UInt64) × Unit) × (List (UInt8)) × (List (UInt8)) × Unit)
def xp : aq := ⟨[.own 5], [(0, .cells [.val false .int, .ifp 106 1, .own 3]), (1, .cells [.val false .int, .ptr 2 0 0]), (2, .cells [.val false .int, .val false .u64, .val false .u64, .val false .u64, .val false .u64, .val false .u64, .val false .u64, .val false .u64, .val false .u64, .own 4, .val false .u64]), (3, .row .u8), (4, .row .u8), (5, .row .u8)], false⟩
def Bl : SV → Option aq := fun _ => some xp
def Dv (c0_0 : Int) (c1_0 : Int) (c2_0 : Int) (c2_1 : UInt64) (c2_2 : UInt64) (c2_3 : UInt64) (c2_4 : UInt64) (c2_5 : UInt64) (c2_6 : UInt64) (c2_7 : UInt64) (c2_8 : UInt64) (c2_10 : UInt64) (c3 : List (UInt8)) (c4 : List (UInt8)) : OT eP.Y :=
  (gd [ft ((c3, ()), ())] (.ok ⟨xp, (((), ()), ((c0_0, ((), ((), ()))), ((c1_0, ((), ())), ((c2_0, (c2_1, (c2_2, (c2_3, (c2_4, (c2_5, (c2_6, (c2_7, (c2_8, ((), (c2_10, ()))))))))))), (c3, (c4, (c3, ())))))))⟩))
theorem Zq (x : sK) (Q : eP.Y → Prop) : wpf te lQ az 1000 Try.f16 (eP.inp.inj x).tm (eP.inp.inj x).hp (fnK eP Bl Q) (fun _ _ => False) = (Dv (x.2.1.1) (x.2.2.1.1) (x.2.2.2.1.1) (x.2.2.2.1.2.1) (x.2.2.2.1.2.2.1) (x.2.2.2.1.2.2.2.1) (x.2.2.2.1.2.2.2.2.1) (x.2.2.2.1.2.2.2.2.2.1) (x.2.2.2.1.2.2.2.2.2.2.1) (x.2.2.2.1.2.2.2.2.2.2.2.1) (x.2.2.2.1.2.2.2.2.2.2.2.2.1) (x.2.2.2.1.2.2.2.2.2.2.2.2.2.2.1) (x.2.2.2.2.1) (x.2.2.2.2.2.1)).wpR Q := by kernel_rfl
theorem Kr (pre : sK → Bool) (F : sK → OT eP.Y) (hF : ∀ (x : sK) oy, pre x = true → (F x).run = some oy → (Dv (x.2.1.1) (x.2.2.1.1) (x.2.2.2.1.1) (x.2.2.2.1.2.1) (x.2.2.2.1.2.2.1) (x.2.2.2.1.2.2.2.1) (x.2.2.2.1.2.2.2.2.1) (x.2.2.2.1.2.2.2.2.2.1) (x.2.2.2.1.2.2.2.2.2.2.1) (x.2.2.2.1.2.2.2.2.2.2.2.1) (x.2.2.2.1.2.2.2.2.2.2.2.2.1) (x.2.2.2.1.2.2.2.2.2.2.2.2.2.2.1) (x.2.2.2.2.1) (x.2.2.2.2.2.1)).run = some oy) : ab Try.prog 16 (eP.aE pre F) :=
  aC ao lP EF (f := 16) (fn := Try.f16) (c := al Try.f16) (by kernel_rfl) (by kernel_rfl) (by kernel_rfl) (S := eP) (k := 5) (by kernel_rfl) (fun R hR => ae) (n := 1000) (sel := Bl) (fun v o h => by cases h; rfl) (pre := pre) (F := F) (T := fun x => Dv (x.2.1.1) (x.2.2.1.1) (x.2.2.2.1.1) (x.2.2.2.1.2.1) (x.2.2.2.1.2.2.1) (x.2.2.2.1.2.2.2.1) (x.2.2.2.1.2.2.2.2.1) (x.2.2.2.1.2.2.2.2.2.1) (x.2.2.2.1.2.2.2.2.2.2.1) (x.2.2.2.1.2.2.2.2.2.2.2.1) (x.2.2.2.1.2.2.2.2.2.2.2.2.1) (x.2.2.2.1.2.2.2.2.2.2.2.2.2.2.1) (x.2.2.2.2.1) (x.2.2.2.2.2.1)) (fun x Q => Zq x Q) hF
def gh (x : sK) : Bool := ft ((x.2.2.2.2.1, ()), ())
def Oa (x : sK) : OT eP.Y := .ok ⟨xp, (((), ()), ((x.2.1.1, ((), ((), ()))), ((x.2.2.1.1, ((), ())), (x.2.2.2.1, (x.2.2.2.2.1, (x.2.2.2.2.2.1, (x.2.2.2.2.1, ())))))))⟩
theorem U9 : ab Try.prog 16 (eP.aE gh Oa) := Kr _ _ fun x oy hp ho => by
  rw [← ho]
  clear ho
  obtain ⟨⟨⟨⟩, ⟨⟩⟩, ⟨⟨c, ⟨⟩, ⟨⟩, ⟨⟩⟩, ⟨s, ⟨⟩, ⟨⟩⟩, ⟨n, h0, h1, h2, h3, h4, h5, h6, h7, ⟨⟩, k, ⟨⟩⟩, o, w, ⟨⟩⟩⟩ := x
  refine (aj ?_).trans rfl
  simp only [List.all_cons, List.all_nil, Bool.and_true]
  exact hp
def oe : bO := (nE 0 1 98 jQ (eP.aE gh Oa))
theorem GG : ab Try.prog 16 oe := (jx tU U9)
theorem GF : aD oe := (fo tT aA)
def ra : Env := av 16 oe lQ
theorem oP : aN Try.prog ra := ah GG lP
theorem q9 : ar ra := ac GF nL
theorem Iw : aY Try.prog te ra := aG follows ao oP q9
def dQ : ak := ⟨[.ptr 0 0 0, .val true (.prod .elem (.prod .elem .bool))], [(0, .cells [.val false .int, .ifp 98 1, .own 2]), (1, .cells [.val false .int, .val false (.list .elem)]), (2, .row .u8)], false, 2, true⟩
abbrev rO : Type := ((Unit) × ((ag × (ag × Bool))) × Unit) × (((Int) × (Unit) × (Unit) × Unit) × ((Int) × (List (ag)) × Unit) × (List (UInt8)) × Unit)
def gx : aq := ⟨[.val false .int], [(0, .cells [.val false .int, .ifp 98 1, .own 2]), (1, .cells [.val false .int, .val false (.list .elem)]), (2, .row .u8)], false⟩
def Az : SV → Option aq := fun _ => some gx
def ph (a1 : (ag × (ag × Bool))) (c0_0 : Int) (c1_0 : Int) (c1_1 : List (ag)) (c2 : List (UInt8)) : OT dQ.Y :=
  let z0 : List UInt8 := qf c0_0 a1
  (.br (!onB c0_0 a1)
  (.ok ⟨gx, (((41 : Int), ()), ((c0_0, ((), ((), ()))), ((c1_0, (c1_1, ())), (c2, ()))))⟩)
  (gd [jO (((), (1 : UInt8), z0, ()), (c0_0, (), (), ()), (c1_0, c1_1, ()), c2, ())] (.ok ⟨gx, (((0 : Int), ()), ((c0_0, ((), ((), ()))), ((c1_0, (c1_1, ())), (c2 ++ z0, ()))))⟩)))
theorem Xo (x : rO) (Q : dQ.Y → Prop) : wpf te ra az 1000 Try.f13 (dQ.inp.inj x).tm (dQ.inp.inj x).hp (fnK dQ Az Q) (fun _ _ => False) = (ph (x.1.2.1) (x.2.1.1) (x.2.2.1.1) (x.2.2.1.2.1) (x.2.2.2.1)).wpR Q := by kernel_rfl
theorem Jb (pre : rO → Bool) (F : rO → OT dQ.Y) (hF : ∀ (x : rO) oy, pre x = true → (F x).run = some oy → (ph (x.1.2.1) (x.2.1.1) (x.2.2.1.1) (x.2.2.1.2.1) (x.2.2.2.1)).run = some oy) : ab Try.prog 13 (dQ.aE pre F) :=
  aC ao oP Iw (f := 13) (fn := Try.f13) (c := al Try.f13) (by kernel_rfl) (by kernel_rfl) (by kernel_rfl) (S := dQ) (k := 3) (by kernel_rfl) (fun R hR => ae) (n := 1000) (sel := Az) (fun v o h => by cases h; rfl) (pre := pre) (F := F) (T := fun x => ph (x.1.2.1) (x.2.1.1) (x.2.2.1.1) (x.2.2.1.2.1) (x.2.2.2.1)) (fun x Q => Xo x Q) hF
theorem YM {b : List UInt8} (y : ag) (h : b.length = 32) : (Jr b y).length = 32 := by
  unfold Jr
  rw [List.length_set]
  exact h
theorem DQ {c : Int} {P : Pt} (h : onB c P = true) : (qf c P).length = 32 := by
  have e := j8 (ofP (pS c) P.1)
  unfold qf
  generalize DR (ofP (pS c) P.1) = B at e
  rw [h, cond_true]
  exact YM _ e
def fX (x : rO) : Bool := decide (x.2.2.2.1.length ≤ 140737488350000)
def Mf (x : rO) : OT dQ.Y := .br (onB x.2.1.1 x.1.2.1) (.ok ⟨gx, (((0 : Int), ()), ((x.2.1.1, ((), ((), ()))), ((x.2.2.1.1, (x.2.2.1.2.1, ())), (x.2.2.2.1 ++ qf x.2.1.1 x.1.2.1, ()))))⟩)
  (.ok ⟨gx, (((41 : Int), ()), ((x.2.1.1, ((), ((), ()))), ((x.2.2.1.1, (x.2.2.1.2.1, ())), (x.2.2.2.1, ()))))⟩)
theorem Jc {c s : Int} {P : Pt} {l : List ag} {o B : List UInt8} (hB : qf c P = B) (hl : onB c P = true → B.length = 32) (ho : o.length ≤ 140737488350000) : (ph P c s l o).run = (OT.br (onB c P) (.ok ⟨gx, (((0 : Int), ()), ((c, ((), ((), ()))), ((s, (l, ())), (o ++ B, ()))))⟩)
  (.ok ⟨gx, (((41 : Int), ()), ((c, ((), ((), ()))), ((s, (l, ())), (o, ()))))⟩) : OT dQ.Y).run := by
  unfold ph
  simp only [hB]
  rcases (Bool.eq_false_or_eq_true (onB c P)).symm with h | h
  · exact (OT.ax (b := !onB c P) (by rw [h]; rfl)).trans (OT.ay (b := onB c P) h).symm
  · refine (OT.ay (b := !onB c P) (by rw [h]; rfl)).trans (Eq.trans ((aj ?_).trans rfl) (OT.ax (b := onB c P) h).symm)
    simp only [List.all_cons, List.all_nil, Bool.and_true]
    exact decide_eq_true (by have := hl h; show o.length + B.length ≤ _; omega)
theorem R6 : ab Try.prog 13 (dQ.aE fX Mf) := Jb _ _ fun x oy hp ho => by
  rw [← ho]
  clear ho
  obtain ⟨⟨⟨⟩, P, ⟨⟩⟩, ⟨⟨c, ⟨⟩, ⟨⟩, ⟨⟩⟩, ⟨s, l, ⟨⟩⟩, o, ⟨⟩⟩⟩ := x
  have key := Jc (c := c) (s := s) (P := P) (l := l) (o := o) (B := qf c P) (Eq.refl (qf c P)) DQ (of_decide_eq_true hp)
  exact key
def jP : bO := (dQ.aE fX Mf)
theorem tS : ab Try.prog 13 jP := R6
theorem tR : aD jP := aA
def qO : Env := av 13 jP ra
theorem oI : aN Try.prog qO := ah tS oP
theorem qN : ar qO := ac tR q9
theorem Ik : aY Try.prog te qO := aG follows ao oI qN
def dU : ak := ⟨[.ptr 0 0 0, .val true (.prod .elem (.prod .elem .bool))], [(0, .cells [.val false .int, .ifp 106 1, .own 3]), (1, .cells [.val false .int, .ptr 2 0 0]), (2, VW (.own 4)), (3, .row .u8), (4, .row .u8)], false, 3, true⟩
abbrev sG : Type := ((Unit) × ((ag × (ag × Bool))) × Unit) × (((Int) × (Unit) × (Unit) × Unit) × ((Int) × (Unit) × Unit) × ((Int) × (UInt64) × (UInt64) × (UInt64) × (UInt64) × (UInt64) × (UInt64) × (UInt64) × (UInt64) × (Unit) × (UInt64) × Unit) × (List (UInt8)) × (List (UInt8)) × Unit)
def gQ : aq := ⟨[.val false .int], [(0, .cells [.val false .int, .ifp 106 1, .own 3]), (1, .cells [.val false .int, .ptr 2 0 0]), (2, .cells [.val false .int, .val false .u64, .val false .u64, .val false .u64, .val false .u64, .val false .u64, .val false .u64, .val false .u64, .val false .u64, .own 4, .val false .u64]), (3, .row .u8), (4, .row .u8)], false⟩
def Bh : SV → Option aq := fun _ => some gQ
def pU (a1 : (ag × (ag × Bool))) (c0_0 : Int) (c1_0 : Int) (c2_0 : Int) (c2_1 : UInt64) (c2_2 : UInt64) (c2_3 : UInt64) (c2_4 : UInt64) (c2_5 : UInt64) (c2_6 : UInt64) (c2_7 : UInt64) (c2_8 : UInt64) (c2_10 : UInt64) (c3 : List (UInt8)) (c4 : List (UInt8)) : OT dU.Y :=
  let z0 : List UInt8 := qf c0_0 a1
  let z1 : Int × UInt64 × UInt64 × UInt64 × UInt64 × UInt64 × UInt64 × UInt64 × UInt64 × PUnit × UInt64 × PUnit := (c2_0, c2_1, c2_2, c2_3, c2_4, c2_5, c2_6, c2_7, c2_8, (), c2_10, ())
  let z2 : (Int × UInt64 × UInt64 × UInt64 × UInt64 × UInt64 × UInt64 × UInt64 × UInt64 × PUnit × UInt64 × PUnit) × List UInt8 := fa z1 c4 (1 : UInt8) z0
  let z3 := z2.fst
  let z4 := z3.snd
  let z5 := z4.snd
  let z6 := z5.snd
  let z7 := z6.snd
  let z8 := z7.snd
  let z9 := z8.snd
  let z10 := z9.snd
  let z11 := z10.snd
  (.br (!onB c0_0 a1)
  (.ok ⟨gQ, (((41 : Int), ()), ((c0_0, ((), ((), ()))), ((c1_0, ((), ())), ((c2_0, (c2_1, (c2_2, (c2_3, (c2_4, (c2_5, (c2_6, (c2_7, (c2_8, ((), (c2_10, ()))))))))))), (c3, (c4, ()))))))⟩)
  (gd [pT (((), (1 : UInt8), z0, ()), (c0_0, (), (), ()), (c1_0, (), ()), z1, c3, c4, ())] (.ok ⟨gQ, (((0 : Int), ()), ((c0_0, ((), ((), ()))), ((c1_0, ((), ())), ((z3.fst, (z4.fst, (z5.fst, (z6.fst, (z7.fst, (z8.fst, (z9.fst, (z10.fst, (z11.fst, ((), (z11.snd.snd.fst, ()))))))))))), (c3 ++ z0, (z2.snd, ()))))))⟩)))
theorem Zm (x : sG) (Q : dU.Y → Prop) : wpf te qO az 1000 Try.f13 (dU.inp.inj x).tm (dU.inp.inj x).hp (fnK dU Bh Q) (fun _ _ => False) = (pU (x.1.2.1) (x.2.1.1) (x.2.2.1.1) (x.2.2.2.1.1) (x.2.2.2.1.2.1) (x.2.2.2.1.2.2.1) (x.2.2.2.1.2.2.2.1) (x.2.2.2.1.2.2.2.2.1) (x.2.2.2.1.2.2.2.2.2.1) (x.2.2.2.1.2.2.2.2.2.2.1) (x.2.2.2.1.2.2.2.2.2.2.2.1) (x.2.2.2.1.2.2.2.2.2.2.2.2.1) (x.2.2.2.1.2.2.2.2.2.2.2.2.2.2.1) (x.2.2.2.2.1) (x.2.2.2.2.2.1)).wpR Q := by kernel_rfl
theorem Kg (pre : sG → Bool) (F : sG → OT dU.Y) (hF : ∀ (x : sG) oy, pre x = true → (F x).run = some oy → (pU (x.1.2.1) (x.2.1.1) (x.2.2.1.1) (x.2.2.2.1.1) (x.2.2.2.1.2.1) (x.2.2.2.1.2.2.1) (x.2.2.2.1.2.2.2.1) (x.2.2.2.1.2.2.2.2.1) (x.2.2.2.1.2.2.2.2.2.1) (x.2.2.2.1.2.2.2.2.2.2.1) (x.2.2.2.1.2.2.2.2.2.2.2.1) (x.2.2.2.1.2.2.2.2.2.2.2.2.1) (x.2.2.2.1.2.2.2.2.2.2.2.2.2.2.1) (x.2.2.2.2.1) (x.2.2.2.2.2.1)).run = some oy) : ab Try.prog 13 (dU.aE pre F) :=
  aC ao oI Ik (f := 13) (fn := Try.f13) (c := al Try.f13) (by kernel_rfl) (by kernel_rfl) (by kernel_rfl) (S := dU) (k := 5) (by kernel_rfl) (fun R hR => ae) (n := 1000) (sel := Bh) (fun v o h => by cases h; rfl) (pre := pre) (F := F) (T := fun x => pU (x.1.2.1) (x.2.1.1) (x.2.2.1.1) (x.2.2.2.1.1) (x.2.2.2.1.2.1) (x.2.2.2.1.2.2.1) (x.2.2.2.1.2.2.2.1) (x.2.2.2.1.2.2.2.2.1) (x.2.2.2.1.2.2.2.2.2.1) (x.2.2.2.1.2.2.2.2.2.2.1) (x.2.2.2.1.2.2.2.2.2.2.2.1) (x.2.2.2.1.2.2.2.2.2.2.2.2.1) (x.2.2.2.1.2.2.2.2.2.2.2.2.2.2.1) (x.2.2.2.2.1) (x.2.2.2.2.2.1)) (fun x Q => Zm x Q) hF
def di (x : sG) : Bool := decide (x.2.2.2.2.1.length ≤ 140737488340000 ∧ x.2.2.2.2.2.1.length ≤ 128)
def N8 (x : sG) : OT dU.Y := .br (onB x.2.1.1 x.1.2.1) (.ok ⟨gQ, (((0 : Int), ()), ((x.2.1.1, ((), ((), ()))), ((x.2.2.1.1, ((), ())), ((fa x.2.2.2.1 x.2.2.2.2.2.1 1 (qf x.2.1.1 x.1.2.1)).1, (x.2.2.2.2.1 ++ qf x.2.1.1 x.1.2.1, ((fa x.2.2.2.1 x.2.2.2.2.2.1 1 (qf x.2.1.1 x.1.2.1)).2, ()))))))⟩)
  (.ok ⟨gQ, (((41 : Int), ()), ((x.2.1.1, ((), ((), ()))), ((x.2.2.1.1, ((), ())), (x.2.2.2.1, (x.2.2.2.2.1, (x.2.2.2.2.2.1, ()))))))⟩)
theorem Kh {c s : Int} {P : Pt} {d : IM} {w o B : List UInt8} (hB : qf c P = B) (hl : onB c P = true → B.length = 32) (ho : o.length ≤ 140737488340000) (hw : w.length ≤ 128) :
    (pU P c s d.1 d.2.1 d.2.2.1 d.2.2.2.1 d.2.2.2.2.1 d.2.2.2.2.2.1 d.2.2.2.2.2.2.1 d.2.2.2.2.2.2.2.1 d.2.2.2.2.2.2.2.2.1 d.2.2.2.2.2.2.2.2.2.2.1 o w).run = (OT.br (onB c P) (.ok ⟨gQ, (((0 : Int), ()), ((c, ((), ((), ()))), ((s, ((), ())), ((fa d w 1 B).1, (o ++ B, ((fa d w 1 B).2, ()))))))⟩)
  (.ok ⟨gQ, (((41 : Int), ()), ((c, ((), ((), ()))), ((s, ((), ())), (d, (o, (w, ()))))))⟩) : OT dU.Y).run := by
  unfold pU
  simp only [hB]
  rcases (Bool.eq_false_or_eq_true (onB c P)).symm with h | h
  · exact (OT.ax (b := !onB c P) (by rw [h]; rfl)).trans (OT.ay (b := onB c P) h).symm
  · refine (OT.ay (b := !onB c P) (by rw [h]; rfl)).trans (Eq.trans ((aj ?_).trans rfl) (OT.ax (b := onB c P) h).symm)
    simp only [List.all_cons, List.all_nil, Bool.and_true]
    have := hl h
    exact decide_eq_true ⟨by show o.length + B.length ≤ _; omega, hw, by show B.length ≤ _; omega⟩
theorem U1 : ab Try.prog 13 (dU.aE di N8) := Kg _ _ fun x oy hp ho => by
  rw [← ho]
  clear ho
  obtain ⟨⟨⟨⟩, P, ⟨⟩⟩, ⟨⟨c, ⟨⟩, ⟨⟩, ⟨⟩⟩, ⟨s, ⟨⟩, ⟨⟩⟩, d, o, w, ⟨⟩⟩⟩ := x
  obtain ⟨h1, h2⟩ := of_decide_eq_true hp
  have key := Kh (c := c) (s := s) (P := P) (d := d) (w := w) (o := o) (B := qf c P) (Eq.refl (qf c P)) DQ h1 h2
  exact key
def od : bO := (nE 0 1 98 jP (dU.aE di N8))
theorem Gz : ab Try.prog 13 od := (jx tS U1)
theorem Gy : aD od := (fo tR aA)
def q8 : Env := av 13 od qO
theorem oO : aN Try.prog q8 := ah Gz oI
theorem q7 : ar q8 := ac Gy qN
theorem Iv : aY Try.prog te q8 := aG follows ao oO q7
end Go.Proofs.Ytohjofabochgfaa

namespace Go.Proofs.Ytohjofabochgfaa
namespace Sx
open Go
def Ctx.la (R : Ctx) (c : Nat) (ch : Ch) (b : Nat) (o : Obj) : Ctx :=
  ⟨fun b' => if b' = b then some o else R.F b', R.U, R.σ, fun c' => if c' = c then some ch else R.hp c'⟩
theorem Qn {R : Ctx} {w : World} (hm : ci R w) {c e : Nat} {t : Ty} {xs : List t.T} (hc : R.hp c = some ⟨e, .row t xs⟩) : ∃ R1, cn R R1 w [(c, ⟨e, .frz t xs⟩)] := by
  have h0 := hm.ch c _ hc
  cases hσ : R.σ c with
  | none =>
    simp only [cW, hσ] at h0
    obtain ⟨hpos, hl, rfl⟩ := h0
    have hx : R.Ext (R.upd c ⟨e, .frz t []⟩) := ⟨fun _ _ h => h, rfl, fun c' ch' hc' => by
      by_cases h1 : c' = c
      · subst h1
        rw [hc] at hc'
        cases hc'
        exact ⟨⟨e, .frz t []⟩, by simp only [Ctx.upd, if_true], Nat.le_refl e, fun _ => ⟨rfl, rfl⟩⟩
      · exact ⟨ch', by simp only [Ctx.upd, if_neg h1, hc'], Nat.le_refl _, fun _ => ⟨rfl, rfl⟩⟩⟩
    refine ⟨R.upd c ⟨e, .frz t []⟩, hx, rfl, ?_⟩
    refine ci.turn hm hx rfl rfl (fun _ _ => rfl) w.heap.size (fun _ _ _ => rfl) ⟨hm.EA, hm.Ev, fun n ch L hn h1 h2 h3 => ?_⟩ ?_ (fun L h2 => ?_)
    · have := hm.lt h1 h2 h3; omega
    · simp only [cW, Ctx.upd, hσ]
      exact ⟨hpos, hl, trivial⟩
    · have h2 : R.σ c = some L := h2
      rw [hσ] at h2; cases h2
  | some L =>
    simp only [cW, hσ] at h0
    obtain ⟨hpos, hl, hF, hU, arr, E, k1, k2, k3, k4⟩ := h0
    have hx : R.Ext (R.la c ⟨e, .frz t xs⟩ L.block (.cells arr E (0, 0))) := ⟨fun b o' h => by
      have : b ≠ L.block := fun e' => by rw [e', hF] at h; cases h
      simp only [Ctx.la, if_neg this, h], rfl, fun c' ch' hc' => by
        by_cases h1 : c' = c
        · subst h1
          rw [hc] at hc'
          cases hc'
          exact ⟨⟨e, .frz t xs⟩, by simp only [Ctx.la, if_true], Nat.le_refl e, fun _ => ⟨rfl, rfl⟩⟩
        · exact ⟨ch', by simp only [Ctx.la, if_neg h1, hc'], Nat.le_refl _, fun _ => ⟨rfl, rfl⟩⟩⟩
    refine ⟨R.la c ⟨e, .frz t xs⟩ L.block (.cells arr E (0, 0)), hx, rfl, fun b o' h => ?_, fun b o' h => hm.U b o' h, fun c' ch' hc' => ?_, fun c1 c2 ch1 ch2 L1 L2 g1 g2 g3 g4 g5 g6 g7 => ?_, fun b o' h => ?_, hm.env⟩
    · simp only [Ctx.la] at h
      split at h
      · rename_i h1
        subst h1
        rw [k1]; exact h
      · exact hm.F b o' h
    · by_cases h1 : c' = c
      · subst h1
        simp only [Ctx.la, if_true] at hc'
        cases hc'
        simp only [cW, Ctx.la, hσ]
        exact ⟨hpos, hl, arr, E, (0, 0), by simp only [if_true], k2, k3, fun i hi => bh hx.F _ _ _ (k4 i hi)⟩
      · simp only [Ctx.la, if_neg h1] at hc'
        have hch := hm.ch c' ch' hc'
        have hs : (R.la c ⟨e, .frz t xs⟩ L.block (.cells arr E (0, 0))).σ c' = R.σ c' := rfl
        have hblk : ∀ L', R.σ c' = some L' → ch'.body.mut = true → L'.block ≠ L.block := fun L' h2 h3 h4 => h1 (hm.apart c' c _ _ _ _ hc' hc h3 rfl h2 hσ h4)
        have hFn : ∀ b, b ≠ L.block → R.F b = none → (R.la c ⟨e, .frz t xs⟩ L.block (.cells arr E (0, 0))).F b = none := fun b h2 h3 => by simp only [Ctx.la, if_neg h2, h3]
        obtain ⟨ep, body⟩ := ch'
        cases body with
        | row t ys =>
          simp only [cW] at hch ⊢
          rw [hs]
          refine ⟨hch.1, hch.2.1, ?_⟩
          replace hch := hch.2.2
          cases hL : R.σ c' with
          | none => rw [hL] at hch; exact hch
          | some L' =>
            rw [hL] at hch
            obtain ⟨c1, c2, arr, E, c3, c4, c5, c6⟩ := hch
            have hne := hblk L' hL rfl
            exact ⟨hFn _ hne c1, c2, arr, E, c3, c4, c5, fun i hi => bh hx.F _ _ _ (c6 i hi)⟩
        | frz t ys =>
          simp only [cW] at hch ⊢
          rw [hs]
          refine ⟨hch.1, hch.2.1, ?_⟩
          replace hch := hch.2.2
          cases hL : R.σ c' with
          | none => rw [hL] at hch; exact hch
          | some L' =>
            rw [hL] at hch
            obtain ⟨arr, E, fz, c3, c4, c5, c6⟩ := hch
            exact ⟨arr, E, fz, hx.F _ _ c3, c4, c5, fun i hi => bh hx.F _ _ _ (c6 i hi)⟩
        | cells vs =>
          simp only [cW] at hch ⊢
          obtain ⟨L', hL, c1, c2, arr, E, c3, c4, c5, c6, c7⟩ := hch
          have hne := hblk L' hL rfl
          exact ⟨L', by rw [hs]; exact hL, hFn _ hne c1, c2, arr, E, c3, c4, c5, SV.cB hx _ _ c6, c7⟩
    · by_cases h1 : c1 = c
      · subst h1
        simp only [Ctx.la, if_true] at g1
        cases g1
        cases g3
      · by_cases h2 : c2 = c
        · subst h2
          simp only [Ctx.la, if_true] at g2
          cases g2
          cases g4
        · simp only [Ctx.la, if_neg h1] at g1
          simp only [Ctx.la, if_neg h2] at g2
          exact hm.apart _ _ _ _ _ _ g1 g2 g3 g4 g5 g6 g7
    · simp only [Ctx.la] at h
      split at h
      · rename_i h1
        subst h1
        exact hU
      · exact hm.FU b o' h
def GL (k j : Nat) (s : bO) : bO := ⟨true, fun d args hp => match args.getD k .bu with
  | .agg vs => match vs.getD j .bu with
    | .own c e => match cS hp c e with
      | some (.row t xs) => (s.f d args (cL hp [(c, ⟨e, .frz t xs⟩)])).map (Out.after [(c, ⟨e, .frz t xs⟩)])
      | some _ => s.f d args hp
      | none => .fail
    | _ => s.f d args hp
  | _ => s.f d args hp⟩
theorem Vo {P : Program} {f : FuncId} {s : bO} {k j : Nat} (h : ab P f s) : ab P f (GL k j s) := by
  refine ⟨fun R w d args vs out hm hr hrun => ?_⟩
  simp only [GL] at hrun
  split at hrun
  · split at hrun
    · rename_i c e hce
      split at hrun
      · rename_i t xs hc
        obtain ⟨out', h1, rfl⟩ := OT.run_map hrun
        obtain ⟨R1, ha⟩ := Qn hm (bD hc)
        rw [← show R1.hp = cL R.hp [(c, ⟨e, .frz t xs⟩)] from ha.hp] at h1
        have hr1 : SV.bg R1 args vs := SV.cB ha.ext _ _ hr
        have hpost : ∀ en w', iL R1 out' en w' → iL R (Out.after [(c, ⟨e, .frz t xs⟩)] out') en w' := fun en w' hp => by
          cases out' with
          | ret q =>
            obtain ⟨v, R', h2, h3, h4⟩ := hp
            exact ⟨v, R', h2, ha.trans h3, h4⟩
          | pan q u =>
            obtain ⟨v, R', h2, h3, h4⟩ := hp
            exact ⟨v, R', h2, ha.trans h3, h4⟩
        rcases h.calls R1 w d _ vs out' ha.mem hr1 h1 with ⟨fn, f1, f2, f3, hcl⟩ | ⟨v, w', hv, hp⟩
        · exact .inl ⟨fn, f1, f2, f3, hcl.mono hpost⟩
        · exact .inr ⟨v, w', hv, hpost _ _ hp⟩
      · exact h.calls R w d args vs out hm hr hrun
      · cases hrun
    · exact h.calls R w d args vs out hm hr hrun
  · exact h.calls R w d args vs out hm hr hrun
theorem Kx {s : bO} {k j : Nat} (h : aD s) : aD (GL k j s) := fun d args hp hp' out hg hrun => by
  simp only [GL] at hrun ⊢
  split at hrun
  · split at hrun
    · split at hrun
      · rename_i t xs hc
        rw [bw hg hc]
        simp only
        obtain ⟨out', h1, rfl⟩ := OT.run_map hrun
        refine J2 (h d _ _ _ out' ⟨fun n ch hn => ?_, fun n hn hn0 => ?_⟩ h1)
        · simp only [cL] at hn ⊢
          split
          · rename_i h2; rw [if_pos h2] at hn; exact hn
          · rename_i h2; rw [if_neg h2] at hn; exact hg.fQ _ _ hn
        · simp only [cL] at hn0 ⊢
          split
          · rename_i h2; rw [if_pos h2] at hn0; cases hn0
          · rename_i h2; rw [if_neg h2] at hn0; exact hg.free _ hn hn0
      · rename_i b hnr hc
        rw [bw hg hc]
        cases b <;> first | exact h _ _ _ _ _ hg hrun | exact absurd rfl (hnr _ _)
      · cases hrun
    · exact h _ _ _ _ _ hg hrun
  · exact h _ _ _ _ _ hg hrun
end Sx
end Go.Proofs.Ytohjofabochgfaa

namespace Go.Proofs.Ytohjofabochgfaa
open Sx Go
set_option maxRecDepth 100000
def dC : ak := ⟨[.val true (.prod .int (.list .elem))], [], false, 0, false⟩
abbrev mP : Type := (((Int × List (ag))) × Unit) × (Unit)
def sS : aq := ⟨[.val true (.prod .int (.list .elem))], [], false⟩
def yf : SV → Option aq := fun _ => some sS
def yh (a0 : (Int × List (ag))) : OT dC.Y :=
  (gd [rK ((a0.snd, ()), ())] (.ok ⟨sS, ((a0, ()), ())⟩))
theorem VZ (x : mP) (Q : dC.Y → Prop) : wpf te q8 az 1000 Try.f10 (dC.inp.inj x).tm (dC.inp.inj x).hp (fnK dC yf Q) (fun _ _ => False) = (yh (x.1.1)).wpR Q := by kernel_rfl
theorem Hj (pre : mP → Bool) (F : mP → OT dC.Y) (hF : ∀ (x : mP) oy, pre x = true → (F x).run = some oy → (yh (x.1.1)).run = some oy) : ab Try.prog 10 (dC.aE pre F) :=
  aC ao oO Iv (f := 10) (fn := Try.f10) (c := al Try.f10) (by kernel_rfl) (by kernel_rfl) (by kernel_rfl) (S := dC) (k := 0) (by kernel_rfl) (fun R hR => ae) (n := 1000) (sel := yf) (fun v o h => by cases h; rfl) (pre := pre) (F := F) (T := fun x => yh (x.1.1)) (fun x Q => VZ x Q) hF
def yg (x : mP) : Bool := decide (x.1.1.2.length * 32 ≤ 140737488355328)
def Hk (x : mP) : OT dC.Y := .ok ⟨sS, ((x.1.1, ()), ())⟩
theorem QW : ab Try.prog 10 (dC.aE yg Hk) := Hj _ _ fun x oy hp ho => by
  rw [← ho]
  clear ho
  refine (aj ?_).trans rfl
  simp only [List.all_cons, List.all_nil, Bool.and_true]
  exact hp
def lv : bO := (GL 0 1 (dC.aE yg Hk))
theorem DV : ab Try.prog 10 lv := (Vo QW)
theorem DU : aD lv := (Kx aA)
def lX : Env := av 10 lv q8
theorem lW : aN Try.prog lX := ah DV oO
theorem nO : ar lX := ac DU q7
theorem EJ : aY Try.prog te lX := aG follows ao lW nO
def gA : ak := ⟨[], [], true, 0, false⟩
abbrev AF : Type := (Unit) × (Unit)
def CD : aq := ⟨[.val false .bool], [], false⟩
def Fk : SV → Option aq := fun _ => some CD
def Jk : OT gA.Y :=
  (.ok ⟨CD, ((true, ()), ())⟩)
theorem abn (x : AF) (Q : gA.Y → Prop) : wpf te lX az 1000 Try.f6 (gA.inp.inj x).tm (gA.inp.inj x).hp (fnK gA Fk Q) (fun _ _ => False) = (Jk).wpR Q := by kernel_rfl
theorem Pu (pre : AF → Bool) (F : AF → OT gA.Y) (hF : ∀ (x : AF) oy, pre x = true → (F x).run = some oy → (Jk).run = some oy) : ab Try.prog 6 (gA.aE pre F) :=
  aC ao lW EJ (f := 6) (fn := Try.f6) (c := al Try.f6) (by kernel_rfl) (by kernel_rfl) (by kernel_rfl) (S := gA) (k := 0) (by kernel_rfl) (fun R hR => ae) (n := 1000) (sel := Fk) (fun v o h => by cases h; rfl) (pre := pre) (F := F) (T := fun x => Jk) (fun x Q => abn x Q) hF
def Fl (_ : AF) : Bool := true
def Sb (_ : AF) : OT gA.Y := .ok ⟨CD, ((true, ()), ())⟩
theorem Xt : ab Try.prog 6 (gA.aE Fl Sb) := Pu _ _ fun x oy hp ho => by
  rw [← ho]
  clear ho
  rfl
def rU : bO := (gA.aE Fl Sb)
theorem Jj : ab Try.prog 6 rU := Xt
theorem Ji : aD rU := aA
def tt : Env := av 6 rU lX
theorem nk : aN Try.prog tt := ah Jj lW
theorem Io : ar tt := ac Ji nO
theorem oL : aY Try.prog te tt := aG follows ao nk Io
def dT : ak := ⟨[.val false .int, .val false (.list .elem), .val true .elem, .val false .int, .val true (.prod .elem (.prod .elem .bool))], [], true, 0, false⟩
abbrev sA : Type := ((Int) × (List (ag)) × (ag) × (Int) × ((ag × (ag × Bool))) × Unit) × (Unit)
def gN : Shape := ⟨167, [(0, .val false .int), (1, .val false (.list .elem)), (3, .val false .int), (7, .ptr 0 0 0), (9, .ptr 1 0 0), (11, .val false .int), (13, .ptr 2 0 0), (15, .ptr 3 0 0), (17, .val false .int)], [(0, .row .u64), (1, .cells [.val false .u64, .val false .u64, .val false .u64, .val false .u64, .val false .u64, .val false .u64, .val false .u64, .val false .u64, .val false .bool]), (2, .cells [.val false .int, .ifp 106 4, .own 5]), (3, .cells [.val false .int, .ifp 106 6, .own 7]), (4, .cells [.val false .int, .ptr 8 0 0]), (5, .row .u8), (6, .cells [.val false .int, .ptr 9 0 0]), (7, .row .u8), (8, .cells [.val false .int, .val false .u64, .val false .u64, .val false .u64, .val false .u64, .val false .u64, .val false .u64, .val false .u64, .val false .u64, .own 10, .val false .u64]), (9, .cells [.val false .int, .val false .u64, .val false .u64, .val false .u64, .val false .u64, .val false .u64, .val false .u64, .val false .u64, .val false .u64, .own 11, .val false .u64]), (10, .row .u8), (11, .row .u8)], 0, true⟩
abbrev ba : Type := ((Int) × (List (ag)) × (Int) × (Unit) × (Unit) × (Int) × (Unit) × (Unit) × (Int) × Unit) × ((List (UInt64)) × ((UInt64) × (UInt64) × (UInt64) × (UInt64) × (UInt64) × (UInt64) × (UInt64) × (UInt64) × (Bool) × Unit) × ((Int) × (Unit) × (Unit) × Unit) × ((Int) × (Unit) × (Unit) × Unit) × ((Int) × (Unit) × Unit) × (List (UInt8)) × ((Int) × (Unit) × Unit) × (List (UInt8)) × ((Int) × (UInt64) × (UInt64) × (UInt64) × (UInt64) × (UInt64) × (UInt64) × (UInt64) × (UInt64) × (Unit) × (UInt64) × Unit) × ((Int) × (UInt64) × (UInt64) × (UInt64) × (UInt64) × (UInt64) × (UInt64) × (UInt64) × (UInt64) × (Unit) × (UInt64) × Unit) × (List (UInt8)) × (List (UInt8)) × Unit)
def j0 : Shape := ⟨167, [(0, .val false .int), (1, .val false (.list .elem)), (3, .val false .int), (7, .ptr 0 0 0), (9, .ptr 1 0 0), (11, .val false .int), (13, .ptr 2 0 0), (15, .ptr 3 0 0)], [(0, .row .u64), (1, .cells [.val false .u64, .val false .u64, .val false .u64, .val false .u64, .val false .u64, .val false .u64, .val false .u64, .val false .u64, .val false .bool]), (2, .cells [.val false .int, .ifp 106 4, .own 5]), (3, .cells [.val false .int, .ifp 106 6, .own 7]), (4, .cells [.val false .int, .ptr 8 0 0]), (5, .row .u8), (6, .cells [.val false .int, .ptr 9 0 0]), (7, .row .u8), (8, .cells [.val false .int, .val false .u64, .val false .u64, .val false .u64, .val false .u64, .val false .u64, .val false .u64, .val false .u64, .val false .u64, .own 10, .val false .u64]), (9, .cells [.val false .int, .val false .u64, .val false .u64, .val false .u64, .val false .u64, .val false .u64, .val false .u64, .val false .u64, .val false .u64, .own 11, .val false .u64]), (10, .row .u8), (11, .row .u8)], 0, true⟩
abbrev dy : Type := ((Int) × (List (ag)) × (Int) × (Unit) × (Unit) × (Int) × (Unit) × (Unit) × Unit) × ((List (UInt64)) × ((UInt64) × (UInt64) × (UInt64) × (UInt64) × (UInt64) × (UInt64) × (UInt64) × (UInt64) × (Bool) × Unit) × ((Int) × (Unit) × (Unit) × Unit) × ((Int) × (Unit) × (Unit) × Unit) × ((Int) × (Unit) × Unit) × (List (UInt8)) × ((Int) × (Unit) × Unit) × (List (UInt8)) × ((Int) × (UInt64) × (UInt64) × (UInt64) × (UInt64) × (UInt64) × (UInt64) × (UInt64) × (UInt64) × (Unit) × (UInt64) × Unit) × ((Int) × (UInt64) × (UInt64) × (UInt64) × (UInt64) × (UInt64) × (UInt64) × (UInt64) × (UInt64) × (Unit) × (UInt64) × Unit) × (List (UInt8)) × (List (UInt8)) × Unit)
def Gd : SE → Option Shape := nt [(2, j0)] none
def UP (a0 : Int) (a1 : List (ag)) (a3 : Int) (a11 : Int) (a17 : Int) (c0 : List (UInt64)) (c1_0 : UInt64) (c1_1 : UInt64) (c1_2 : UInt64) (c1_3 : UInt64) (c1_4 : UInt64) (c1_5 : UInt64) (c1_6 : UInt64) (c1_7 : UInt64) (c1_8 : Bool) (c2_0 : Int) (c3_0 : Int) (c4_0 : Int) (c5 : List (UInt8)) (c6_0 : Int) (c7 : List (UInt8)) (c8_0 : Int) (c8_1 : UInt64) (c8_2 : UInt64) (c8_3 : UInt64) (c8_4 : UInt64) (c8_5 : UInt64) (c8_6 : UInt64) (c8_7 : UInt64) (c8_8 : UInt64) (c8_10 : UInt64) (c9_0 : Int) (c9_1 : UInt64) (c9_2 : UInt64) (c9_3 : UInt64) (c9_4 : UInt64) (c9_5 : UInt64) (c9_6 : UInt64) (c9_7 : UInt64) (c9_8 : UInt64) (c9_10 : UInt64) (c10 : List (UInt8)) (c11 : List (UInt8)) : OT (Sum ba aS) :=
  let z0 : Nat := List.length a1
  let z1 : Int := (↑z0 : Int)
  let z2 : ag := { w0 := List.getD c0 0 0, w1 := List.getD c0 1 0, w2 := List.getD c0 2 0, w3 := List.getD c0 3 0 }
  let z3 : PUnit × PUnit × PUnit := ((), (), ())
  let z4 : Int × PUnit × PUnit × PUnit := (c3_0, z3)
  let z5 : PUnit × PUnit := ((), ())
  let z6 : Int × PUnit × PUnit := (c6_0, z5)
  let z7 : Int × UInt64 × UInt64 × UInt64 × UInt64 × UInt64 × UInt64 × UInt64 × UInt64 × PUnit × UInt64 × PUnit := (c9_0, c9_1, c9_2, c9_3, c9_4, c9_5, c9_6, c9_7, c9_8, (), c9_10, ())
  let z8 : (Int × PUnit × PUnit × PUnit) × (Int × PUnit × PUnit) × (Int × UInt64 × UInt64 × UInt64 × UInt64 × UInt64 × UInt64 × UInt64 × UInt64 × PUnit × UInt64 × PUnit) × List UInt8 × List UInt8 × PUnit := (z4, z6, z7, c7, c11, ())
  let z9 : Bool := decide (a17 < z1)
  let z10 : Bool := inB a17 z0
  let z11 : ag := List.getD a1 (Int.toNat a17) { w0 := 0, w1 := 0, w2 := 0, w3 := 0 }
  let z12 : PUnit × ag × PUnit := ((), z11, ())
  let z13 : Int × UInt64 × UInt64 × UInt64 × UInt64 × UInt64 × UInt64 × UInt64 × UInt64 × PUnit × UInt64 × PUnit := (c8_0, c8_1, c8_2, c8_3, c8_4, c8_5, c8_6, c8_7, c8_8, (), c8_10, ())
  let z14 : Bool := fh (z12, (c2_0, z3), (c4_0, z5), z13, c5, c10, ())
  let z15 : (Int × UInt64 × UInt64 × UInt64 × UInt64 × UInt64 × UInt64 × UInt64 × UInt64 × PUnit × UInt64 × PUnit) × List UInt8 := fa z7 c11 (2 : UInt8) (cH c3_0 z2)
  let z16 := z15.fst
  let z17 := z16.fst
  let z18 := z16.snd
  let z19 := z18.fst
  let z20 := z18.snd
  let z21 := z20.fst
  let z22 := z20.snd
  let z23 := z22.fst
  let z24 := z22.snd
  let z25 := z24.fst
  let z26 := z24.snd
  let z27 := z26.fst
  let z28 := z26.snd
  let z29 := z28.fst
  let z30 := z28.snd
  let z31 := z30.fst
  let z32 := z30.snd
  let z33 := z32.fst
  let z34 := z32.snd.snd.fst
  let z35 : Int × UInt64 × UInt64 × UInt64 × UInt64 × UInt64 × UInt64 × UInt64 × UInt64 × PUnit × UInt64 × PUnit := (z17, z19, z21, z23, z25, z27, z29, z31, z33, (), z34, ())
  let z36 := z15.snd
  let z37 : Bool := inR (a17 + (1 : Int))
  let z38 : List UInt8 := cH c2_0 z11
  let z39 : List UInt8 := c5 ++ z38
  let z40 : List UInt8 := cH c3_0 z11
  let z41 : List UInt8 := c7 ++ z40
  let z42 : (Int × UInt64 × UInt64 × UInt64 × UInt64 × UInt64 × UInt64 × UInt64 × UInt64 × PUnit × UInt64 × PUnit) × List UInt8 := fa z13 c10 (2 : UInt8) z38
  let z43 := z42.fst
  let z44 := z43.fst
  let z45 := z43.snd
  let z46 := z45.fst
  let z47 := z45.snd
  let z48 := z47.fst
  let z49 := z47.snd
  let z50 := z49.fst
  let z51 := z49.snd
  let z52 := z51.fst
  let z53 := z51.snd
  let z54 := z53.fst
  let z55 := z53.snd
  let z56 := z55.fst
  let z57 := z55.snd
  let z58 := z57.fst
  let z59 := z57.snd
  let z60 := z59.fst
  let z61 := z59.snd.snd.fst
  let z62 : (Int × UInt64 × UInt64 × UInt64 × UInt64 × UInt64 × UInt64 × UInt64 × UInt64 × PUnit × UInt64 × PUnit) × List UInt8 := fa z35 z36 (2 : UInt8) z40
  let z63 := z62.fst
  let z64 := z63.snd
  let z65 := z64.snd
  let z66 := z65.snd
  let z67 := z66.snd
  let z68 := z67.snd
  let z69 := z68.snd
  let z70 := z69.snd
  let z71 := z70.snd
  let z72 := z42.snd
  let z73 : (Int × UInt64 × UInt64 × UInt64 × UInt64 × UInt64 × UInt64 × UInt64 × UInt64 × PUnit × UInt64 × PUnit) × List UInt8 := fa z7 c11 (2 : UInt8) z40
  let z74 := z73.fst
  let z75 := z74.snd
  let z76 := z75.snd
  let z77 := z76.snd
  let z78 := z77.snd
  let z79 := z78.snd
  let z80 := z79.snd
  let z81 := z80.snd
  let z82 := z81.snd
  (.br (decide (a17 ≤ z1))
  (.br (a17 == a3)
    (gd [decide (4 ≤ List.length c0), pW (((), z2, ()), z8)] (.br (z9)
      (gd [z10, z14, z10, fh (z12, z4, z6, z35, c7, z36, ()), z37] (.ok (.inl ((a0, (a1, (a3, ((), ((), (a11, ((), ((), (a17 + (1 : Int), ()))))))))), (c0, ((c1_0, (c1_1, (c1_2, (c1_3, (c1_4, (c1_5, (c1_6, (c1_7, (c1_8, ()))))))))), ((c2_0, ((), ((), ()))), ((c3_0, ((), ((), ()))), ((c4_0, ((), ())), (z39, ((c6_0, ((), ())), (z41, ((z44, (z46, (z48, (z50, (z52, (z54, (z56, (z58, (z60, ((), (z61, ()))))))))))), ((z63.fst, (z64.fst, (z65.fst, (z66.fst, (z67.fst, (z68.fst, (z69.fst, (z70.fst, (z71.fst, ((), (z71.snd.snd.fst, ()))))))))))), (z72, (z62.snd, ()))))))))))))))))
      (gd [z37] (.ok (.inl ((a0, (a1, (a3, ((), ((), (a11, ((), ((), (a17 + (1 : Int), ()))))))))), (c0, ((c1_0, (c1_1, (c1_2, (c1_3, (c1_4, (c1_5, (c1_6, (c1_7, (c1_8, ()))))))))), ((c2_0, ((), ((), ()))), ((c3_0, ((), ((), ()))), ((c4_0, ((), ())), (c5, ((c6_0, ((), ())), (c7, ((c8_0, (c8_1, (c8_2, (c8_3, (c8_4, (c8_5, (c8_6, (c8_7, (c8_8, ((), (c8_10, ()))))))))))), ((z17, (z19, (z21, (z23, (z25, (z27, (z29, (z31, (z33, ((), (z34, ()))))))))))), (c10, (z36, ()))))))))))))))))))
    (.br (z9)
      (gd [z10, z14, z10, fh (z12, z8), z37] (.ok (.inl ((a0, (a1, (a3, ((), ((), (a11, ((), ((), (a17 + (1 : Int), ()))))))))), (c0, ((c1_0, (c1_1, (c1_2, (c1_3, (c1_4, (c1_5, (c1_6, (c1_7, (c1_8, ()))))))))), ((c2_0, ((), ((), ()))), ((c3_0, ((), ((), ()))), ((c4_0, ((), ())), (z39, ((c6_0, ((), ())), (z41, ((z44, (z46, (z48, (z50, (z52, (z54, (z56, (z58, (z60, ((), (z61, ()))))))))))), ((z74.fst, (z75.fst, (z76.fst, (z77.fst, (z78.fst, (z79.fst, (z80.fst, (z81.fst, (z82.fst, ((), (z82.snd.snd.fst, ()))))))))))), (z72, (z73.snd, ()))))))))))))))))
      (gd [z37] (.ok (.inl ((a0, (a1, (a3, ((), ((), (a11, ((), ((), (a17 + (1 : Int), ()))))))))), (c0, ((c1_0, (c1_1, (c1_2, (c1_3, (c1_4, (c1_5, (c1_6, (c1_7, (c1_8, ()))))))))), ((c2_0, ((), ((), ()))), ((c3_0, ((), ((), ()))), ((c4_0, ((), ())), (c5, ((c6_0, ((), ())), (c7, ((c8_0, (c8_1, (c8_2, (c8_3, (c8_4, (c8_5, (c8_6, (c8_7, (c8_8, ((), (c8_10, ()))))))))))), ((c9_0, (c9_1, (c9_2, (c9_3, (c9_4, (c9_5, (c9_6, (c9_7, (c9_8, ((), (c9_10, ()))))))))))), (c10, (c11, ()))))))))))))))))))
  (.ok (.inr ⟨(.exit 2, j0), ((a0, (a1, (a3, ((), ((), (a11, ((), ((), ())))))))), (c0, ((c1_0, (c1_1, (c1_2, (c1_3, (c1_4, (c1_5, (c1_6, (c1_7, (c1_8, ()))))))))), ((c2_0, ((), ((), ()))), ((c3_0, ((), ((), ()))), ((c4_0, ((), ())), (c5, ((c6_0, ((), ())), (c7, ((c8_0, (c8_1, (c8_2, (c8_3, (c8_4, (c8_5, (c8_6, (c8_7, (c8_8, ((), (c8_10, ()))))))))))), ((c9_0, (c9_1, (c9_2, (c9_3, (c9_4, (c9_5, (c9_6, (c9_7, (c9_8, ((), (c9_10, ()))))))))))), (c10, (c11, ())))))))))))))⟩)))
def ji (s : ba) : OT (Sum ba aS) := UP (s.1.1) (s.1.2.1) (s.1.2.2.1) (s.1.2.2.2.2.2.1) (s.1.2.2.2.2.2.2.2.2.1) (s.2.1) (s.2.2.1.1) (s.2.2.1.2.1) (s.2.2.1.2.2.1) (s.2.2.1.2.2.2.1) (s.2.2.1.2.2.2.2.1) (s.2.2.1.2.2.2.2.2.1) (s.2.2.1.2.2.2.2.2.2.1) (s.2.2.1.2.2.2.2.2.2.2.1) (s.2.2.1.2.2.2.2.2.2.2.2.1) (s.2.2.2.1.1) (s.2.2.2.2.1.1) (s.2.2.2.2.2.1.1) (s.2.2.2.2.2.2.1) (s.2.2.2.2.2.2.2.1.1) (s.2.2.2.2.2.2.2.2.1) (s.2.2.2.2.2.2.2.2.2.1.1) (s.2.2.2.2.2.2.2.2.2.1.2.1) (s.2.2.2.2.2.2.2.2.2.1.2.2.1) (s.2.2.2.2.2.2.2.2.2.1.2.2.2.1) (s.2.2.2.2.2.2.2.2.2.1.2.2.2.2.1) (s.2.2.2.2.2.2.2.2.2.1.2.2.2.2.2.1) (s.2.2.2.2.2.2.2.2.2.1.2.2.2.2.2.2.1) (s.2.2.2.2.2.2.2.2.2.1.2.2.2.2.2.2.2.1) (s.2.2.2.2.2.2.2.2.2.1.2.2.2.2.2.2.2.2.1) (s.2.2.2.2.2.2.2.2.2.1.2.2.2.2.2.2.2.2.2.2.1) (s.2.2.2.2.2.2.2.2.2.2.1.1) (s.2.2.2.2.2.2.2.2.2.2.1.2.1) (s.2.2.2.2.2.2.2.2.2.2.1.2.2.1) (s.2.2.2.2.2.2.2.2.2.2.1.2.2.2.1) (s.2.2.2.2.2.2.2.2.2.2.1.2.2.2.2.1) (s.2.2.2.2.2.2.2.2.2.2.1.2.2.2.2.2.1) (s.2.2.2.2.2.2.2.2.2.2.1.2.2.2.2.2.2.1) (s.2.2.2.2.2.2.2.2.2.2.1.2.2.2.2.2.2.2.1) (s.2.2.2.2.2.2.2.2.2.2.1.2.2.2.2.2.2.2.2.1) (s.2.2.2.2.2.2.2.2.2.2.1.2.2.2.2.2.2.2.2.2.2.1) (s.2.2.2.2.2.2.2.2.2.2.2.1) (s.2.2.2.2.2.2.2.2.2.2.2.2.1)
theorem UM (s : ba) (Q : Sum ba aS → Prop) : wps te tt az 1000 (bM (al Try.f3) 2) (gN.inj s) (dm gN Gd (Q : Sum gN.T aS → Prop)) = (ji s).wpR Q := by kernel_rfl
def pQ (g2_2 : ba → dy) (s : ba) : OT aS := (.ok ⟨(.exit 2, j0), ((s.1.1, (s.1.2.1, (s.1.2.2.1, ((g2_2 s).1.2.2.2.1, ((g2_2 s).1.2.2.2.2.1, (s.1.2.2.2.2.2.1, ((g2_2 s).1.2.2.2.2.2.2.1, ((g2_2 s).1.2.2.2.2.2.2.2.1, ())))))))), (g2_2 s).2)⟩)
def fg : Shape := ⟨167, [(0, .val false .int), (1, .val false (.list .elem)), (3, .val false .int), (7, .ptr 0 0 0), (9, .ptr 1 0 0), (11, .val false .int), (13, .ptr 2 0 0), (15, .ptr 3 0 0), (17, .val false .int)], [(0, .row .u64), (1, .cells [.val false .u64, .val false .u64, .val false .u64, .val false .u64, .val false .u64, .val false .u64, .val false .u64, .val false .u64, .val false .bool]), (2, .cells [.val false .int, .ifp 98 4, .own 5]), (3, .cells [.val false .int, .ifp 98 6, .own 7]), (4, .cells [.val false .int, .val false (.list .elem)]), (5, .row .u8), (6, .cells [.val false .int, .val false (.list .elem)]), (7, .row .u8)], 0, true⟩
abbrev aR : Type := ((Int) × (List (ag)) × (Int) × (Unit) × (Unit) × (Int) × (Unit) × (Unit) × (Int) × Unit) × ((List (UInt64)) × ((UInt64) × (UInt64) × (UInt64) × (UInt64) × (UInt64) × (UInt64) × (UInt64) × (UInt64) × (Bool) × Unit) × ((Int) × (Unit) × (Unit) × Unit) × ((Int) × (Unit) × (Unit) × Unit) × ((Int) × (List (ag)) × Unit) × (List (UInt8)) × ((Int) × (List (ag)) × Unit) × (List (UInt8)) × Unit)
def iA : Shape := ⟨167, [(0, .val false .int), (1, .val false (.list .elem)), (3, .val false .int), (7, .ptr 0 0 0), (9, .ptr 1 0 0), (11, .val false .int), (13, .ptr 2 0 0), (15, .ptr 3 0 0)], [(0, .row .u64), (1, .cells [.val false .u64, .val false .u64, .val false .u64, .val false .u64, .val false .u64, .val false .u64, .val false .u64, .val false .u64, .val false .bool]), (2, .cells [.val false .int, .ifp 98 4, .own 5]), (3, .cells [.val false .int, .ifp 98 6, .own 7]), (4, .cells [.val false .int, .val false (.list .elem)]), (5, .row .u8), (6, .cells [.val false .int, .val false (.list .elem)]), (7, .row .u8)], 0, true⟩
abbrev c8 : Type := ((Int) × (List (ag)) × (Int) × (Unit) × (Unit) × (Int) × (Unit) × (Unit) × Unit) × ((List (UInt64)) × ((UInt64) × (UInt64) × (UInt64) × (UInt64) × (UInt64) × (UInt64) × (UInt64) × (UInt64) × (Bool) × Unit) × ((Int) × (Unit) × (Unit) × Unit) × ((Int) × (Unit) × (Unit) × Unit) × ((Int) × (List (ag)) × Unit) × (List (UInt8)) × ((Int) × (List (ag)) × Unit) × (List (UInt8)) × Unit)
def Bc : SE → Option Shape := nt [(2, iA)] none
def P9 (a0 : Int) (a1 : List (ag)) (a3 : Int) (a11 : Int) (a17 : Int) (c0 : List (UInt64)) (c1_0 : UInt64) (c1_1 : UInt64) (c1_2 : UInt64) (c1_3 : UInt64) (c1_4 : UInt64) (c1_5 : UInt64) (c1_6 : UInt64) (c1_7 : UInt64) (c1_8 : Bool) (c2_0 : Int) (c3_0 : Int) (c4_0 : Int) (c4_1 : List (ag)) (c5 : List (UInt8)) (c6_0 : Int) (c6_1 : List (ag)) (c7 : List (UInt8)) : OT (Sum aR aS) :=
  let z0 : Nat := List.length a1
  let z1 : Int := (↑z0 : Int)
  let z2 : PUnit × PUnit × PUnit := ((), (), ())
  let z3 : (Int × PUnit × PUnit × PUnit) × (Int × List ag × PUnit) × List UInt8 × PUnit := ((c3_0, z2), (c6_0, c6_1, ()), c7, ())
  let z4 : Bool := decide (a17 < z1)
  let z5 : Bool := inB a17 z0
  let z6 : ag := List.getD a1 (Int.toNat a17) { w0 := 0, w1 := 0, w2 := 0, w3 := 0 }
  let z7 : PUnit × ag × PUnit := ((), z6, ())
  let z8 : Bool := gw (z7, (c2_0, z2), (c4_0, c4_1, ()), c5, ())
  let z9 : Bool := gw (z7, z3)
  let z10 : Bool := inR (a17 + (1 : Int))
  let z11 : List UInt8 := c5 ++ cH c2_0 z6
  let z12 : List UInt8 := c7 ++ cH c3_0 z6
  (.br (decide (a17 ≤ z1))
  (.br (a17 == a3)
    (gd [decide (4 ≤ List.length c0), wi (((), { w0 := List.getD c0 0 0, w1 := List.getD c0 1 0, w2 := List.getD c0 2 0, w3 := List.getD c0 3 0 }, ()), z3)] (.br (z4)
      (gd [z5, z8, z5, z9, z10] (.ok (.inl ((a0, (a1, (a3, ((), ((), (a11, ((), ((), (a17 + (1 : Int), ()))))))))), (c0, ((c1_0, (c1_1, (c1_2, (c1_3, (c1_4, (c1_5, (c1_6, (c1_7, (c1_8, ()))))))))), ((c2_0, ((), ((), ()))), ((c3_0, ((), ((), ()))), ((c4_0, (c4_1, ())), (z11, ((c6_0, (c6_1, ())), (z12, ()))))))))))))
      (gd [z10] (.ok (.inl ((a0, (a1, (a3, ((), ((), (a11, ((), ((), (a17 + (1 : Int), ()))))))))), (c0, ((c1_0, (c1_1, (c1_2, (c1_3, (c1_4, (c1_5, (c1_6, (c1_7, (c1_8, ()))))))))), ((c2_0, ((), ((), ()))), ((c3_0, ((), ((), ()))), ((c4_0, (c4_1, ())), (c5, ((c6_0, (c6_1, ())), (c7, ()))))))))))))))
    (.br (z4)
      (gd [z5, z8, z5, z9, z10] (.ok (.inl ((a0, (a1, (a3, ((), ((), (a11, ((), ((), (a17 + (1 : Int), ()))))))))), (c0, ((c1_0, (c1_1, (c1_2, (c1_3, (c1_4, (c1_5, (c1_6, (c1_7, (c1_8, ()))))))))), ((c2_0, ((), ((), ()))), ((c3_0, ((), ((), ()))), ((c4_0, (c4_1, ())), (z11, ((c6_0, (c6_1, ())), (z12, ()))))))))))))
      (gd [z10] (.ok (.inl ((a0, (a1, (a3, ((), ((), (a11, ((), ((), (a17 + (1 : Int), ()))))))))), (c0, ((c1_0, (c1_1, (c1_2, (c1_3, (c1_4, (c1_5, (c1_6, (c1_7, (c1_8, ()))))))))), ((c2_0, ((), ((), ()))), ((c3_0, ((), ((), ()))), ((c4_0, (c4_1, ())), (c5, ((c6_0, (c6_1, ())), (c7, ()))))))))))))))
  (.ok (.inr ⟨(.exit 2, iA), ((a0, (a1, (a3, ((), ((), (a11, ((), ((), ())))))))), (c0, ((c1_0, (c1_1, (c1_2, (c1_3, (c1_4, (c1_5, (c1_6, (c1_7, (c1_8, ()))))))))), ((c2_0, ((), ((), ()))), ((c3_0, ((), ((), ()))), ((c4_0, (c4_1, ())), (c5, ((c6_0, (c6_1, ())), (c7, ())))))))))⟩)))
def gg (s : aR) : OT (Sum aR aS) := P9 (s.1.1) (s.1.2.1) (s.1.2.2.1) (s.1.2.2.2.2.2.1) (s.1.2.2.2.2.2.2.2.2.1) (s.2.1) (s.2.2.1.1) (s.2.2.1.2.1) (s.2.2.1.2.2.1) (s.2.2.1.2.2.2.1) (s.2.2.1.2.2.2.2.1) (s.2.2.1.2.2.2.2.2.1) (s.2.2.1.2.2.2.2.2.2.1) (s.2.2.1.2.2.2.2.2.2.2.1) (s.2.2.1.2.2.2.2.2.2.2.2.1) (s.2.2.2.1.1) (s.2.2.2.2.1.1) (s.2.2.2.2.2.1.1) (s.2.2.2.2.2.1.2.1) (s.2.2.2.2.2.2.1) (s.2.2.2.2.2.2.2.1.1) (s.2.2.2.2.2.2.2.1.2.1) (s.2.2.2.2.2.2.2.2.1)
theorem P7 (s : aR) (Q : Sum aR aS → Prop) : wps te tt az 1000 (bM (al Try.f3) 2) (fg.inj s) (dm fg Bc (Q : Sum fg.T aS → Prop)) = (gg s).wpR Q := by kernel_rfl
def mA (g2b_2 : aR → c8) (s : aR) : OT aS := (.ok ⟨(.exit 2, iA), ((s.1.1, (s.1.2.1, (s.1.2.2.1, ((g2b_2 s).1.2.2.2.1, ((g2b_2 s).1.2.2.2.2.1, (s.1.2.2.2.2.2.1, ((g2b_2 s).1.2.2.2.2.2.2.1, ((g2b_2 s).1.2.2.2.2.2.2.2.1, ())))))))), (g2b_2 s).2)⟩)
def ap : aq := ⟨[.val false .bool], [], false⟩
def Be : SV → Option aq := fun _ => some ap
def mB (ok2 : ba → Bool) (g2_2 : ba → dy) (ok2b : aR → Bool) (g2b_2 : aR → c8) (a0 : Int) (a1 : List (ag)) (a2 : ag) (a3 : Int) (a4 : (ag × (ag × Bool))) : OT dT.Y :=
  let z0 : Int := (↑(List.length a1) : Int)
  let z1 : PUnit × PUnit × Int × PUnit := ((), (), (0 : Int), ())
  let z2 : Int × List ag × Int × PUnit × PUnit × Int × PUnit × PUnit × Int × PUnit := (a0, a1, a3, (), (), (0 : Int), z1)
  let z3 : PUnit × PUnit := ((), ())
  let z4 : PUnit × PUnit := ((), ())
  let z5 : Int := dK a0 (1 : Int)
  let z6 : UInt64 × PUnit := ((0 : UInt64), ())
  let z7 : (Int × PUnit × PUnit × PUnit) × (Int × PUnit × PUnit × PUnit) × (Int × PUnit × PUnit) × List UInt8 × (Int × PUnit × PUnit) × List UInt8 × (Int × UInt64 × UInt64 × UInt64 × UInt64 × UInt64 × UInt64 × UInt64 × UInt64 × PUnit × UInt64 × PUnit) × (Int × UInt64 × UInt64 × UInt64 × UInt64 × UInt64 × UInt64 × UInt64 × UInt64 × PUnit × UInt64 × PUnit) × List UInt8 × List UInt8 × PUnit := ((a0, (), z3), (a0, (), z4), (z5, (), ()), [], (z5, (), ()), [], ((64 : Int), (7640891576939301192 : UInt64), (13503953896175478587 : UInt64), (4354685564936845355 : UInt64), (11912009170470909681 : UInt64), (5840696475078001361 : UInt64), (11170449401992604703 : UInt64), (7924071207369364504 : UInt64), (3427420097777323800 : UInt64), (), z6), ((64 : Int), (7640891576939301192 : UInt64), (13503953896175478587 : UInt64), (4354685564936845355 : UInt64), (11912009170470909681 : UInt64), (5840696475078001361 : UInt64), (11170449401992604703 : UInt64), (7924071207369364504 : UInt64), (3427420097777323800 : UInt64), (), z6), [], [], ())
  let z8 : (Int × List ag × Int × PUnit × PUnit × Int × PUnit × PUnit × Int × PUnit) × List UInt64 × (UInt64 × UInt64 × UInt64 × UInt64 × UInt64 × UInt64 × UInt64 × UInt64 × Bool × PUnit) × (Int × PUnit × PUnit × PUnit) × (Int × PUnit × PUnit × PUnit) × (Int × PUnit × PUnit) × List UInt8 × (Int × PUnit × PUnit) × List UInt8 × (Int × UInt64 × UInt64 × UInt64 × UInt64 × UInt64 × UInt64 × UInt64 × UInt64 × PUnit × UInt64 × PUnit) × (Int × UInt64 × UInt64 × UInt64 × UInt64 × UInt64 × UInt64 × UInt64 × UInt64 × PUnit × UInt64 × PUnit) × List UInt8 × List UInt8 × PUnit := (z2, [a2.w0, a2.w1, a2.w2, a2.w3], ((0 : UInt64), (0 : UInt64), (0 : UInt64), (0 : UInt64), (0 : UInt64), (0 : UInt64), (0 : UInt64), (0 : UInt64), true, ()), z7)
  let z9 := (g2_2 z8).snd
  let z10 := z9.snd
  let z11 := z10.fst
  let z12 := z11.fst
  let z13 := z11.snd
  let z14 := z13.fst
  let z15 := z13.snd
  let z16 := z15.fst
  let z17 := z15.snd
  let z18 := z17.fst
  let z19 := z17.snd
  let z20 := z19.fst
  let z21 := z19.snd
  let z22 := z21.fst
  let z23 := z21.snd
  let z24 := z23.fst
  let z25 := z23.snd
  let z26 := z25.fst
  let z27 := z25.snd.fst
  let z28 : ag × ag × Bool := ({ w0 := z12, w1 := z14, w2 := z16, w3 := z18 }, { w0 := z20, w1 := z22, w2 := z24, w3 := z26 }, z27)
  let z29 : PUnit × (ag × ag × Bool) × PUnit := ((), z28, ())
  let z30 := z10.snd
  let z31 := z30.fst.fst
  let z32 : PUnit × PUnit × PUnit := ((), (), ())
  let z33 : Int × PUnit × PUnit × PUnit := (z31, z32)
  let z34 := z30.snd
  let z35 := z34.snd
  let z36 : PUnit × PUnit := ((), ())
  let z37 : Int × PUnit × PUnit := (z35.fst.fst, z36)
  let z38 := z35.snd
  let z39 := z38.snd
  let z40 := z39.snd
  let z41 := z40.snd
  let z42 := z41.fst
  let z43 := z42.snd
  let z44 := z43.snd
  let z45 := z44.snd
  let z46 := z45.snd
  let z47 := z46.snd
  let z48 := z47.snd
  let z49 := z48.snd
  let z50 := z49.snd
  let z51 : Int × UInt64 × UInt64 × UInt64 × UInt64 × UInt64 × UInt64 × UInt64 × UInt64 × PUnit × UInt64 × PUnit := (z42.fst, z43.fst, z44.fst, z45.fst, z46.fst, z47.fst, z48.fst, z49.fst, z50.fst, (), z50.snd.snd.fst, ())
  let z52 := z38.fst
  let z53 := z41.snd
  let z54 := z53.snd
  let z55 := z54.fst
  let z56 := z34.fst.fst
  let z57 : Int × PUnit × PUnit × PUnit := (z56, z32)
  let z58 : Int × PUnit × PUnit := (z39.fst.fst, z36)
  let z59 := z53.fst
  let z60 := z59.snd
  let z61 := z60.snd
  let z62 := z61.snd
  let z63 := z62.snd
  let z64 := z63.snd
  let z65 := z64.snd
  let z66 := z65.snd
  let z67 := z66.snd
  let z68 : Int × UInt64 × UInt64 × UInt64 × UInt64 × UInt64 × UInt64 × UInt64 × UInt64 × PUnit × UInt64 × PUnit := (z59.fst, z60.fst, z61.fst, z62.fst, z63.fst, z64.fst, z65.fst, z66.fst, z67.fst, (), z67.snd.snd.fst, ())
  let z69 := z40.fst
  let z70 := z54.snd.fst
  let z71 : PUnit × PUnit := ((), ())
  let z72 : List UInt8 := qf z31 z28
  let z73 : (Int × UInt64 × UInt64 × UInt64 × UInt64 × UInt64 × UInt64 × UInt64 × UInt64 × PUnit × UInt64 × PUnit) × List UInt8 := fa z51 z55 (1 : UInt8) z72
  let z74 := z73.fst
  let z75 := z74.snd
  let z76 := z75.snd
  let z77 := z76.snd
  let z78 := z77.snd
  let z79 := z78.snd
  let z80 := z79.snd
  let z81 := z80.snd
  let z82 := z81.snd
  let z83 : Int × UInt64 × UInt64 × UInt64 × UInt64 × UInt64 × UInt64 × UInt64 × UInt64 × PUnit × UInt64 × PUnit := (z74.fst, z75.fst, z76.fst, z77.fst, z78.fst, z79.fst, z80.fst, z81.fst, z82.fst, (), z82.snd.snd.fst, ())
  let z84 : List UInt8 := z52 ++ z72
  let z85 := z73.snd
  let z86 : List UInt8 := qf z56 z28
  let z87 : (Int × UInt64 × UInt64 × UInt64 × UInt64 × UInt64 × UInt64 × UInt64 × UInt64 × PUnit × UInt64 × PUnit) × List UInt8 := fa z68 z70 (1 : UInt8) z86
  let z88 := z87.fst
  let z89 := z88.snd
  let z90 := z89.snd
  let z91 := z90.snd
  let z92 := z91.snd
  let z93 := z92.snd
  let z94 := z93.snd
  let z95 := z94.snd
  let z96 := z95.snd
  let z97 : Int × UInt64 × UInt64 × UInt64 × UInt64 × UInt64 × UInt64 × UInt64 × UInt64 × PUnit × UInt64 × PUnit := (z88.fst, z89.fst, z90.fst, z91.fst, z92.fst, z93.fst, z94.fst, z95.fst, z96.fst, (), z96.snd.snd.fst, ())
  let z98 : List UInt8 := z69 ++ z86
  let z99 := z87.snd
  let z100 : (Int × UInt64 × UInt64 × UInt64 × UInt64 × UInt64 × UInt64 × UInt64 × UInt64 × PUnit × UInt64 × PUnit) × List UInt8 := fa z83 z85 (0 : UInt8) []
  let z101 := z100.fst
  let z102 := z101.snd
  let z103 := z102.snd
  let z104 := z103.snd
  let z105 := z104.snd
  let z106 := z105.snd
  let z107 := z106.snd
  let z108 := z107.snd
  let z109 := z108.snd
  let z110 : (Int × UInt64 × UInt64 × UInt64 × UInt64 × UInt64 × UInt64 × UInt64 × UInt64 × PUnit × UInt64 × PUnit) × List UInt8 := fa z97 z99 (0 : UInt8) []
  let z111 := z110.fst
  let z112 := z111.snd
  let z113 := z112.snd
  let z114 := z113.snd
  let z115 := z114.snd
  let z116 := z115.snd
  let z117 := z116.snd
  let z118 := z117.snd
  let z119 := z118.snd
  let z120 : Int × List ag × Int × PUnit × PUnit × Int × PUnit × PUnit × Int × PUnit := (a0, a1, a3, (), (), (0 : Int) + (1 : Int), z1)
  let z121 : ag := { w0 := 3, w1 := 0, w2 := 0, w3 := 0 }
  let z122 : Int × List ag × PUnit := (z5, [z121], ())
  let z123 : (Int × PUnit × PUnit × PUnit) × (Int × PUnit × PUnit × PUnit) × (Int × List ag × PUnit) × List UInt8 × (Int × List ag × PUnit) × List UInt8 × PUnit := ((a0, (), z3), (a0, (), z4), z122, [], z122, [], ())
  let z124 : (Int × List ag × Int × PUnit × PUnit × Int × PUnit × PUnit × Int × PUnit) × List UInt64 × (UInt64 × UInt64 × UInt64 × UInt64 × UInt64 × UInt64 × UInt64 × UInt64 × Bool × PUnit) × (Int × PUnit × PUnit × PUnit) × (Int × PUnit × PUnit × PUnit) × (Int × List ag × PUnit) × List UInt8 × (Int × List ag × PUnit) × List UInt8 × PUnit := (z120, z9.fst, (z12, z14, z16, z18, z20, z22, z24, z26, z27, ()), z123)
  let z125 := (g2b_2 z124).snd.snd
  let z126 := z125.fst
  let z127 := z126.snd
  let z128 := z127.snd
  let z129 := z128.snd
  let z130 := z129.snd
  let z131 := z130.snd
  let z132 := z131.snd
  let z133 := z132.snd
  let z134 : ag × ag × Bool := ({ w0 := z126.fst, w1 := z127.fst, w2 := z128.fst, w3 := z129.fst }, { w0 := z130.fst, w1 := z131.fst, w2 := z132.fst, w3 := z133.fst }, z133.snd.fst)
  let z135 : PUnit × (ag × ag × Bool) × PUnit := ((), z134, ())
  let z136 := z125.snd
  let z137 := z136.fst.fst
  let z138 : PUnit × PUnit × PUnit := ((), (), ())
  let z139 : Int × PUnit × PUnit × PUnit := (z137, z138)
  let z140 := z136.snd
  let z141 := z140.snd
  let z142 := z141.fst
  let z143 := z142.fst
  let z144 := z142.snd.fst
  let z145 : Int × List ag × PUnit := (z143, z144, ())
  let z146 := z141.snd
  let z147 := z146.fst
  let z148 := z140.fst.fst
  let z149 : Int × PUnit × PUnit × PUnit := (z148, z138)
  let z150 := z146.snd
  let z151 := z150.fst
  let z152 := z151.fst
  let z153 := z151.snd.fst
  let z154 : Int × List ag × PUnit := (z152, z153, ())
  let z155 := z150.snd.fst
  let z156 : List UInt8 := z147 ++ qf z137 z134
  let z157 : List UInt8 × PUnit := (z156, ())
  let z158 : List UInt8 := z155 ++ qf z148 z134
  let z159 : List UInt8 × PUnit := (z158, ())
  let z160 : ag × Int × List ag := ej z144
  let z161 := z160.snd
  let z162 : ag × Int × List ag := ej z153
  let z163 := z162.snd
  let z164 : ag := { w0 := 0, w1 := 0, w2 := 0, w3 := 0 }
  let z165 : ag := th (pS z143) z160.fst z164
  let z166 := z165.w0
  let z167 : ag := th (pS z152) z162.fst z164
  let z168 := z165.w1
  let z169 := z165.w2
  let z170 := z165.w3
  let z171 : Bool := iY ((z5, z121, ()), ())
  let z172 : ag := ofP (pS z5) z121
  let z173 := z172.w0
  let z174 := z172.w1
  let z175 := z172.w2
  let z176 := z172.w3
  let z177 : Bool := !bo a0 ((0 : Int) + (1 : Int)) 1 == (0 : Int)
  let z178 : Bool := !bo a0 (0 : Int) 1 == (0 : Int)
  let z179 : (Int × List ag × Int × PUnit × PUnit × Int × PUnit × PUnit × Int × PUnit) × List UInt64 × (UInt64 × UInt64 × UInt64 × UInt64 × UInt64 × UInt64 × UInt64 × UInt64 × Bool × PUnit) × (Int × PUnit × PUnit × PUnit) × (Int × PUnit × PUnit × PUnit) × (Int × PUnit × PUnit) × List UInt8 × (Int × PUnit × PUnit) × List UInt8 × (Int × UInt64 × UInt64 × UInt64 × UInt64 × UInt64 × UInt64 × UInt64 × UInt64 × PUnit × UInt64 × PUnit) × (Int × UInt64 × UInt64 × UInt64 × UInt64 × UInt64 × UInt64 × UInt64 × UInt64 × PUnit × UInt64 × PUnit) × List UInt8 × List UInt8 × PUnit := (z2, [a2.w0, a2.w1, a2.w2, a2.w3], (a4.fst.w0, a4.fst.w1, a4.fst.w2, a4.fst.w3, a4.snd.fst.w0, a4.snd.fst.w1, a4.snd.fst.w2, a4.snd.fst.w3, a4.snd.snd, ()), z7)
  let z180 := (g2_2 z179).snd
  let z181 := z180.snd
  let z182 := z181.fst
  let z183 := z182.fst
  let z184 := z182.snd
  let z185 := z184.fst
  let z186 := z184.snd
  let z187 := z186.fst
  let z188 := z186.snd
  let z189 := z188.fst
  let z190 := z188.snd
  let z191 := z190.fst
  let z192 := z190.snd
  let z193 := z192.fst
  let z194 := z192.snd
  let z195 := z194.fst
  let z196 := z194.snd
  let z197 := z196.fst
  let z198 := z196.snd.fst
  let z199 : ag × ag × Bool := ({ w0 := z183, w1 := z185, w2 := z187, w3 := z189 }, { w0 := z191, w1 := z193, w2 := z195, w3 := z197 }, z198)
  let z200 : PUnit × (ag × ag × Bool) × PUnit := ((), z199, ())
  let z201 := z181.snd
  let z202 := z201.fst.fst
  let z203 : Int × PUnit × PUnit × PUnit := (z202, z32)
  let z204 := z201.snd
  let z205 := z204.snd
  let z206 : Int × PUnit × PUnit := (z205.fst.fst, z36)
  let z207 := z205.snd
  let z208 := z207.snd
  let z209 := z208.snd
  let z210 := z209.snd
  let z211 := z210.fst
  let z212 := z211.snd
  let z213 := z212.snd
  let z214 := z213.snd
  let z215 := z214.snd
  let z216 := z215.snd
  let z217 := z216.snd
  let z218 := z217.snd
  let z219 := z218.snd
  let z220 : Int × UInt64 × UInt64 × UInt64 × UInt64 × UInt64 × UInt64 × UInt64 × UInt64 × PUnit × UInt64 × PUnit := (z211.fst, z212.fst, z213.fst, z214.fst, z215.fst, z216.fst, z217.fst, z218.fst, z219.fst, (), z219.snd.snd.fst, ())
  let z221 := z207.fst
  let z222 := z210.snd
  let z223 := z222.snd
  let z224 := z223.fst
  let z225 := z204.fst.fst
  let z226 : Int × PUnit × PUnit × PUnit := (z225, z32)
  let z227 : Int × PUnit × PUnit := (z208.fst.fst, z36)
  let z228 := z222.fst
  let z229 := z228.snd
  let z230 := z229.snd
  let z231 := z230.snd
  let z232 := z231.snd
  let z233 := z232.snd
  let z234 := z233.snd
  let z235 := z234.snd
  let z236 := z235.snd
  let z237 : Int × UInt64 × UInt64 × UInt64 × UInt64 × UInt64 × UInt64 × UInt64 × UInt64 × PUnit × UInt64 × PUnit := (z228.fst, z229.fst, z230.fst, z231.fst, z232.fst, z233.fst, z234.fst, z235.fst, z236.fst, (), z236.snd.snd.fst, ())
  let z238 := z209.fst
  let z239 := z223.snd.fst
  let z240 : List UInt8 := qf z202 z199
  let z241 : (Int × UInt64 × UInt64 × UInt64 × UInt64 × UInt64 × UInt64 × UInt64 × UInt64 × PUnit × UInt64 × PUnit) × List UInt8 := fa z220 z224 (1 : UInt8) z240
  let z242 := z241.fst
  let z243 := z242.snd
  let z244 := z243.snd
  let z245 := z244.snd
  let z246 := z245.snd
  let z247 := z246.snd
  let z248 := z247.snd
  let z249 := z248.snd
  let z250 := z249.snd
  let z251 : Int × UInt64 × UInt64 × UInt64 × UInt64 × UInt64 × UInt64 × UInt64 × UInt64 × PUnit × UInt64 × PUnit := (z242.fst, z243.fst, z244.fst, z245.fst, z246.fst, z247.fst, z248.fst, z249.fst, z250.fst, (), z250.snd.snd.fst, ())
  let z252 : List UInt8 := z221 ++ z240
  let z253 := z241.snd
  let z254 : List UInt8 := qf z225 z199
  let z255 : (Int × UInt64 × UInt64 × UInt64 × UInt64 × UInt64 × UInt64 × UInt64 × UInt64 × PUnit × UInt64 × PUnit) × List UInt8 := fa z237 z239 (1 : UInt8) z254
  let z256 := z255.fst
  let z257 := z256.snd
  let z258 := z257.snd
  let z259 := z258.snd
  let z260 := z259.snd
  let z261 := z260.snd
  let z262 := z261.snd
  let z263 := z262.snd
  let z264 := z263.snd
  let z265 : Int × UInt64 × UInt64 × UInt64 × UInt64 × UInt64 × UInt64 × UInt64 × UInt64 × PUnit × UInt64 × PUnit := (z256.fst, z257.fst, z258.fst, z259.fst, z260.fst, z261.fst, z262.fst, z263.fst, z264.fst, (), z264.snd.snd.fst, ())
  let z266 : List UInt8 := z238 ++ z254
  let z267 := z255.snd
  let z268 : (Int × UInt64 × UInt64 × UInt64 × UInt64 × UInt64 × UInt64 × UInt64 × UInt64 × PUnit × UInt64 × PUnit) × List UInt8 := fa z251 z253 (0 : UInt8) []
  let z269 := z268.fst
  let z270 := z269.snd
  let z271 := z270.snd
  let z272 := z271.snd
  let z273 := z272.snd
  let z274 := z273.snd
  let z275 := z274.snd
  let z276 := z275.snd
  let z277 := z276.snd
  let z278 : (Int × UInt64 × UInt64 × UInt64 × UInt64 × UInt64 × UInt64 × UInt64 × UInt64 × PUnit × UInt64 × PUnit) × List UInt8 := fa z265 z267 (0 : UInt8) []
  let z279 := z278.fst
  let z280 := z279.snd
  let z281 := z280.snd
  let z282 := z281.snd
  let z283 := z282.snd
  let z284 := z283.snd
  let z285 := z284.snd
  let z286 := z285.snd
  let z287 := z286.snd
  let z288 : (Int × List ag × Int × PUnit × PUnit × Int × PUnit × PUnit × Int × PUnit) × List UInt64 × (UInt64 × UInt64 × UInt64 × UInt64 × UInt64 × UInt64 × UInt64 × UInt64 × Bool × PUnit) × (Int × PUnit × PUnit × PUnit) × (Int × PUnit × PUnit × PUnit) × (Int × List ag × PUnit) × List UInt8 × (Int × List ag × PUnit) × List UInt8 × PUnit := (z120, z180.fst, (z183, z185, z187, z189, z191, z193, z195, z197, z198, ()), z123)
  let z289 := (g2b_2 z288).snd.snd
  let z290 := z289.fst
  let z291 := z290.snd
  let z292 := z291.snd
  let z293 := z292.snd
  let z294 := z293.snd
  let z295 := z294.snd
  let z296 := z295.snd
  let z297 := z296.snd
  let z298 : ag × ag × Bool := ({ w0 := z290.fst, w1 := z291.fst, w2 := z292.fst, w3 := z293.fst }, { w0 := z294.fst, w1 := z295.fst, w2 := z296.fst, w3 := z297.fst }, z297.snd.fst)
  let z299 : PUnit × (ag × ag × Bool) × PUnit := ((), z298, ())
  let z300 := z289.snd
  let z301 := z300.fst.fst
  let z302 : Int × PUnit × PUnit × PUnit := (z301, z138)
  let z303 := z300.snd
  let z304 := z303.snd
  let z305 := z304.fst
  let z306 := z305.fst
  let z307 := z305.snd.fst
  let z308 : Int × List ag × PUnit := (z306, z307, ())
  let z309 := z304.snd
  let z310 := z309.fst
  let z311 := z303.fst.fst
  let z312 : Int × PUnit × PUnit × PUnit := (z311, z138)
  let z313 := z309.snd
  let z314 := z313.fst
  let z315 := z314.fst
  let z316 := z314.snd.fst
  let z317 : Int × List ag × PUnit := (z315, z316, ())
  let z318 := z313.snd.fst
  let z319 : List UInt8 := z310 ++ qf z301 z298
  let z320 : List UInt8 × PUnit := (z319, ())
  let z321 : List UInt8 := z318 ++ qf z311 z298
  let z322 : List UInt8 × PUnit := (z321, ())
  let z323 : ag × Int × List ag := ej z307
  let z324 := z323.snd
  let z325 : ag × Int × List ag := ej z316
  let z326 := z325.snd
  let z327 : ag := th (pS z306) z323.fst z164
  let z328 := z327.w0
  let z329 : ag := th (pS z315) z325.fst z164
  let z330 := z327.w1
  let z331 := z327.w2
  let z332 := z327.w3
  (.br (decide (a0 < (0 : Int)))
  (.ok ⟨ap, ((true, ()), ())⟩)
  (.br (decide ((3 : Int) < a0))
    (.ok ⟨ap, ((true, ()), ())⟩)
    (.br (decide ((40 : Int) < z0))
      (.ok ⟨ap, ((true, ()), ())⟩)
      (.br (decide (a3 < (0 : Int)))
        (.ok ⟨ap, ((true, ()), ())⟩)
        (.br (decide (z0 < a3))
          (.ok ⟨ap, ((true, ()), ())⟩)
          (.br (!onB a0 a4)
            (.br (bo a0 (0 : Int) 1 == (0 : Int))
              (.br (bo a0 (0 : Int) 1 == (0 : Int))
                (gd [ok2 z8, di (z29, z33, z37, z51, z52, z55, ())] (.br (onB z31 z28)
                  (gd [di (z29, z57, z58, z68, z69, z70, ())] (.br (onB z56 z28)
                    (gd [jn (z71, z33, z37, z83, z84, z85, ()), jn (z71, z57, z58, z97, z98, z99, ()), gh (z71, z33, z37, (z101.fst, z102.fst, z103.fst, z104.fst, z105.fst, z106.fst, z107.fst, z108.fst, z109.fst, (), z109.snd.snd.fst, ()), z84, z100.snd, ()), gh (z71, z57, z58, (z111.fst, z112.fst, z113.fst, z114.fst, z115.fst, z116.fst, z117.fst, z118.fst, z119.fst, (), z119.snd.snd.fst, ()), z98, z110.snd, ()), iV ((z84, z98, ()), ())] (.br (!decide (z84 = z98))
                      (.ok ⟨ap, ((false, ()), ())⟩)
                      (.br (bo a0 ((0 : Int) + (1 : Int)) 1 == (0 : Int))
                        (.br (bo a0 ((0 : Int) + (1 : Int)) 1 == (0 : Int))
                          (gd [ok2b z124, fX (z135, z139, z145, z147, ())] (.br (onB z137 z134)
                            (gd [fX (z135, z149, z154, z155, ())] (.br (onB z148 z134)
                              (gd [iW (z71, z139, z145, z157), iW (z71, z149, z154, z159)] (.br (!z161.fst == (0 : Int))
                                (.ok ⟨ap, ((false, ()), ())⟩)
                                (.br (!z163.fst == (0 : Int))
                                  (.ok ⟨ap, ((false, ()), ())⟩)
                                  (gd [fY (z71, z139, (z143, z161.snd, ()), z157), fY (z71, z149, (z152, z163.snd, ()), z159), iV ((z156, z158, ()), ())] (.br (!decide (z156 = z158))
                                    (.ok ⟨ap, ((false, ()), ())⟩)
                                    (.br (!(z166 == z167.w0 && (z168 == z167.w1 && (z169 == z167.w2 && (z170 == z167.w3 && true)))))
                                      (.ok ⟨ap, ((false, ()), ())⟩)
                                      (gd [z171] (.br (!(z166 == z173 && (z168 == z174 && (z169 == z175 && (z170 == z176 && true)))))
                                        (.ok ⟨ap, ((false, ()), ())⟩)
                                        (.ok ⟨ap, ((true, ()), ())⟩)))))))))
                              (.ok ⟨ap, ((false, ()), ())⟩)))
                            (.ok ⟨ap, ((false, ()), ())⟩)))
                          (.br (z177)
                            (.ok ⟨ap, ((false, ()), ())⟩)
                            (.ok ⟨ap, ((false, ()), ())⟩)))
                        (.br (bo a0 ((0 : Int) + (1 : Int)) 1 == (0 : Int))
                          (.br (z177)
                            (.ok ⟨ap, ((false, ()), ())⟩)
                            (.ok ⟨ap, ((false, ()), ())⟩))
                          (.br (z177)
                            (.ok ⟨ap, ((false, ()), ())⟩)
                            (.br (z177)
                              (.ok ⟨ap, ((false, ()), ())⟩)
                              (.ok ⟨ap, ((false, ()), ())⟩)))))))
                    (.ok ⟨ap, ((false, ()), ())⟩)))
                  (.ok ⟨ap, ((false, ()), ())⟩)))
                (.br (z178)
                  (.ok ⟨ap, ((false, ()), ())⟩)
                  (.ok ⟨ap, ((false, ()), ())⟩)))
              (.br (bo a0 (0 : Int) 1 == (0 : Int))
                (.br (z178)
                  (.ok ⟨ap, ((false, ()), ())⟩)
                  (.ok ⟨ap, ((false, ()), ())⟩))
                (.br (z178)
                  (.ok ⟨ap, ((false, ()), ())⟩)
                  (.br (z178)
                    (.ok ⟨ap, ((false, ()), ())⟩)
                    (.ok ⟨ap, ((false, ()), ())⟩)))))
            (.br (bo a0 (0 : Int) 1 == (0 : Int))
              (.br (bo a0 (0 : Int) 1 == (0 : Int))
                (gd [ok2 z179, di (z200, z203, z206, z220, z221, z224, ())] (.br (onB z202 z199)
                  (gd [di (z200, z226, z227, z237, z238, z239, ())] (.br (onB z225 z199)
                    (gd [jn (z71, z203, z206, z251, z252, z253, ()), jn (z71, z226, z227, z265, z266, z267, ()), gh (z71, z203, z206, (z269.fst, z270.fst, z271.fst, z272.fst, z273.fst, z274.fst, z275.fst, z276.fst, z277.fst, (), z277.snd.snd.fst, ()), z252, z268.snd, ()), gh (z71, z226, z227, (z279.fst, z280.fst, z281.fst, z282.fst, z283.fst, z284.fst, z285.fst, z286.fst, z287.fst, (), z287.snd.snd.fst, ()), z266, z278.snd, ()), iV ((z252, z266, ()), ())] (.br (!decide (z252 = z266))
                      (.ok ⟨ap, ((false, ()), ())⟩)
                      (.br (bo a0 ((0 : Int) + (1 : Int)) 1 == (0 : Int))
                        (.br (bo a0 ((0 : Int) + (1 : Int)) 1 == (0 : Int))
                          (gd [ok2b z288, fX (z299, z302, z308, z310, ())] (.br (onB z301 z298)
                            (gd [fX (z299, z312, z317, z318, ())] (.br (onB z311 z298)
                              (gd [iW (z71, z302, z308, z320), iW (z71, z312, z317, z322)] (.br (!z324.fst == (0 : Int))
                                (.ok ⟨ap, ((false, ()), ())⟩)
                                (.br (!z326.fst == (0 : Int))
                                  (.ok ⟨ap, ((false, ()), ())⟩)
                                  (gd [fY (z71, z302, (z306, z324.snd, ()), z320), fY (z71, z312, (z315, z326.snd, ()), z322), iV ((z319, z321, ()), ())] (.br (!decide (z319 = z321))
                                    (.ok ⟨ap, ((false, ()), ())⟩)
                                    (.br (!(z328 == z329.w0 && (z330 == z329.w1 && (z331 == z329.w2 && (z332 == z329.w3 && true)))))
                                      (.ok ⟨ap, ((false, ()), ())⟩)
                                      (gd [z171] (.br (!(z328 == z173 && (z330 == z174 && (z331 == z175 && (z332 == z176 && true)))))
                                        (.ok ⟨ap, ((false, ()), ())⟩)
                                        (.ok ⟨ap, ((true, ()), ())⟩)))))))))
                              (.ok ⟨ap, ((false, ()), ())⟩)))
                            (.ok ⟨ap, ((false, ()), ())⟩)))
                          (.br (z177)
                            (.ok ⟨ap, ((false, ()), ())⟩)
                            (.ok ⟨ap, ((false, ()), ())⟩)))
                        (.br (bo a0 ((0 : Int) + (1 : Int)) 1 == (0 : Int))
                          (.br (z177)
                            (.ok ⟨ap, ((false, ()), ())⟩)
                            (.ok ⟨ap, ((false, ()), ())⟩))
                          (.br (z177)
                            (.ok ⟨ap, ((false, ()), ())⟩)
                            (.br (z177)
                              (.ok ⟨ap, ((false, ()), ())⟩)
                              (.ok ⟨ap, ((false, ()), ())⟩)))))))
                    (.ok ⟨ap, ((false, ()), ())⟩)))
                  (.ok ⟨ap, ((false, ()), ())⟩)))
                (.br (z178)
                  (.ok ⟨ap, ((false, ()), ())⟩)
                  (.ok ⟨ap, ((false, ()), ())⟩)))
              (.br (bo a0 (0 : Int) 1 == (0 : Int))
                (.br (z178)
                  (.ok ⟨ap, ((false, ()), ())⟩)
                  (.ok ⟨ap, ((false, ()), ())⟩))
                (.br (z178)
                  (.ok ⟨ap, ((false, ()), ())⟩)
                  (.br (z178)
                    (.ok ⟨ap, ((false, ()), ())⟩)
                    (.ok ⟨ap, ((false, ()), ())⟩)))))))))))
theorem Zh (ok2 : ba → Bool) (g2_2 : ba → dy) (ok2b : aR → Bool) (g2b_2 : aR → c8) (x : sA) (Q : dT.Y → Prop) : wpf te tt (N0 2 fg (dZ fg 2 ok2b (mA g2b_2)) (N0 2 gN (dZ gN 2 ok2 (pQ g2_2)) az)) 1000 Try.f3 (dT.inp.inj x).tm (dT.inp.inj x).hp (fnK dT Be Q) (fun _ _ => False) = (mB ok2 g2_2 ok2b g2b_2 (x.1.1) (x.1.2.1) (x.1.2.2.1) (x.1.2.2.2.1) (x.1.2.2.2.2.1)).wpR Q := by kernel_rfl
theorem J7 (ok2 : ba → Bool) (g2_2 : ba → dy) (ok2b : aR → Bool) (g2b_2 : aR → c8) (h2 : ∀ s : ba, ok2 s = true → ∃ m e, aB (ji) m s = some e ∧ (pQ g2_2 s).run = some e) (h2b : ∀ s : aR, ok2b s = true → ∃ m e, aB (gg) m s = some e ∧ (mA g2b_2 s).run = some e) (pre : sA → Bool) (F : sA → OT dT.Y) (hF : ∀ (x : sA) oy, pre x = true → (F x).run = some oy → (mB ok2 g2_2 ok2b g2b_2 (x.1.1) (x.1.2.1) (x.1.2.2.1) (x.1.2.2.2.1) (x.1.2.2.2.2.1)).run = some oy) : ab Try.prog 3 (dT.aE pre F) :=
  aC ao nk oL (f := 3) (fn := Try.f3) (c := al Try.f3) (by kernel_rfl) (by kernel_rfl) (by kernel_rfl) (S := dT) (k := 0) (by kernel_rfl) (fun R hR => (Gi (c := (al Try.f3)) (by kernel_rfl) (id := 2) (sh := fg) (by kernel_rfl) (bJ ao nk oL (sh := fg) hR (xs := Bc) (aI (by kernel_rfl) (by kernel_rfl) hR) bk ae (n := 1000) (T := gg) (fun s Q => P7 s Q) (ok := ok2b) (f := mA g2b_2) h2b) (Gi (c := (al Try.f3)) (by kernel_rfl) (id := 2) (sh := gN) (by kernel_rfl) (bJ ao nk oL (sh := gN) hR (xs := Gd) (aI (by kernel_rfl) (by kernel_rfl) hR) bk ae (n := 1000) (T := ji) (fun s Q => UM s Q) (ok := ok2) (f := pQ g2_2) h2) ae))) (n := 1000) (sel := Be) (fun v o h => by cases h; rfl) (pre := pre) (F := F) (T := fun x => mB ok2 g2_2 ok2b g2b_2 (x.1.1) (x.1.2.1) (x.1.2.2.1) (x.1.2.2.2.1) (x.1.2.2.2.2.1)) (fun x Q => Zh ok2 g2_2 ok2b g2b_2 x Q) hF
abbrev B9 : Type := UInt64 × UInt64 × UInt64 × UInt64 × UInt64 × UInt64 × UInt64 × UInt64 × Bool × Unit
def qd (P : ag × (ag × Bool)) : B9 := (P.1.w0, P.1.w1, P.1.w2, P.1.w3, P.2.1.w0, P.2.1.w1, P.2.1.w2, P.2.1.w3, P.2.2, ())
theorem cj {s : Int} (h : aw s = true) : aw (dK s 1) = true := by
  rcases b6 h with rfl | rfl | rfl | rfl <;> rfl
abbrev DW : Type := IM × List UInt8
abbrev BQ : Type := List UInt8 × (List UInt8 × (DW × DW))
def noE : ag := ⟨0, 0, 0, 0⟩
def Ab (c : Int) (e : ag) (a : Int) (k : Nat) (d : DW) : DW := cond ((k : Int) == a) (fa d.1 d.2 2 (cH c e)) d
def iG (c : Int) (l : List ag) (e : ag) (a : Int) (k : Nat) (q : BQ) : BQ :=
  cond (decide ((k : Int) < (l.length : Int))) (q.1 ++ cH c (l.getD k noE), q.2.1 ++ cH c (l.getD k noE), fa q.2.2.1.1 q.2.2.1.2 2 (cH c (l.getD k noE)), fa (Ab c e a k q.2.2.2).1 (Ab c e a k q.2.2.2).2 2 (cH c (l.getD k noE)))
    (q.1, q.2.1, q.2.2.1, Ab c e a k q.2.2.2)
def Vk (k : Nat) (q : BQ) : Prop := q.1 = q.2.1 ∧ q.1.length ≤ 32 * k ∧ q.2.2.1.1.1 = 64 ∧ q.2.2.2.1.1 = 64 ∧ q.2.2.1.2.length ≤ 128 ∧ q.2.2.2.2.length ≤ 128
theorem afQ {c : Int} {e : ag} {a : Int} {k : Nat} {d : DW} (h1 : d.1.1 = 64) (h2 : d.2.length ≤ 128) : (Ab c e a k d).1.1 = 64 ∧ (Ab c e a k d).2.length ≤ 128 := by
  unfold Ab
  cases (k : Int) == a
  · exact ⟨h1, h2⟩
  · exact ⟨h1, fS _ _ _ _⟩
theorem GI {c : Int} {l : List ag} {e : ag} {a : Int} {k : Nat} {q : BQ} (h : Vk k q) : Vk (k + 1) (iG c l e a k q) := by
  obtain ⟨h1, h2, h3, h4, h5, h6⟩ := h
  obtain ⟨g1, g2⟩ := afQ (c := c) (e := e) (a := a) (k := k) h4 h6
  unfold iG
  have hs := ir c (l.getD k noE)
  generalize cH c (l.getD k noE) = S at hs
  cases decide ((k : Int) < (l.length : Int))
  · exact ⟨h1, by show q.1.length ≤ _; omega, h3, g1, h5, g2⟩
  · refine ⟨?_, ?_, h3, g1, fS _ _ _ _, fS _ _ _ _⟩
    · show q.1 ++ S = q.2.1 ++ S
      rw [h1]
    · show (q.1 ++ S).length ≤ _
      rw [List.length_append]
      omega
def oB (c : Int) (l : List ag) (e : ag) (a : Int) (d d' : IM) : BQ := upto (iG c l e a) ([], [], (d, []), (d', [])) (l.length + 1)
def Ej (c : Int) (l : List ag) (a m : Int) (e : ag) (P : B9) (s s' : Int) (k : Int) (q : BQ) : ba := ((c, l, a, (), (), m, (), (), k, ()), (lst e, P, (c, (), (), ()), (c, (), (), ()), (s, (), ()), q.1, (s', (), ()), q.2.1, q.2.2.1.1, q.2.2.2.1, q.2.2.1.2, q.2.2.2.2, ()))
def mz (s : ba) : Bool := aw s.1.1 && decide (s.1.2.2.2.2.2.2.2.2.1 = 0 ∧ s.1.2.1.length ≤ 40 ∧ s.2.1.length = 4 ∧ s.2.2.2.1.1 = s.1.1 ∧ s.2.2.2.2.1.1 = s.1.1 ∧ s.2.2.2.2.2.2.1 = [] ∧ s.2.2.2.2.2.2.2.2.1 = [] ∧
  s.2.2.2.2.2.2.2.2.2.1.1 = 64 ∧ s.2.2.2.2.2.2.2.2.2.2.1.1 = 64 ∧ s.2.2.2.2.2.2.2.2.2.2.2.1 = [] ∧ s.2.2.2.2.2.2.2.2.2.2.2.2.1 = [])
def kV (s : ba) : dy :=
  ((s.1.1, s.1.2.1, s.1.2.2.1, (), (), s.1.2.2.2.2.2.1, (), (), ()), (s.2.1, s.2.2.1, s.2.2.2.1, s.2.2.2.2.1, s.2.2.2.2.2.1, (oB s.1.1 s.1.2.1 (elemOf s.2.1) s.1.2.2.1 s.2.2.2.2.2.2.2.2.2.1 s.2.2.2.2.2.2.2.2.2.2.1).1, s.2.2.2.2.2.2.2.1,
    (oB s.1.1 s.1.2.1 (elemOf s.2.1) s.1.2.2.1 s.2.2.2.2.2.2.2.2.2.1 s.2.2.2.2.2.2.2.2.2.2.1).2.1, (oB s.1.1 s.1.2.1 (elemOf s.2.1) s.1.2.2.1 s.2.2.2.2.2.2.2.2.2.1 s.2.2.2.2.2.2.2.2.2.2.1).2.2.1.1, (oB s.1.1 s.1.2.1 (elemOf s.2.1) s.1.2.2.1 s.2.2.2.2.2.2.2.2.2.1 s.2.2.2.2.2.2.2.2.2.2.1).2.2.2.1,
    (oB s.1.1 s.1.2.1 (elemOf s.2.1) s.1.2.2.1 s.2.2.2.2.2.2.2.2.2.1 s.2.2.2.2.2.2.2.2.2.2.1).2.2.1.2, (oB s.1.1 s.1.2.1 (elemOf s.2.1) s.1.2.2.1 s.2.2.2.2.2.2.2.2.2.1 s.2.2.2.2.2.2.2.2.2.2.1).2.2.2.2, ()))
theorem J6 {c : Int} (hs : aw c = true) {l : List ag} {a m : Int} {e : ag} {P : B9} {s s' : Int} {k : Nat} (hk : k ≤ l.length) (hl : l.length ≤ 40) {q : BQ} (hq : Vk k q) :
    (ji (Ej c l a m e P s s' (k : Int) q)).run = some (.inl (Ej c l a m e P s s' ((k : Int) + 1) (iG c l e a k q))) := by
  obtain ⟨ov, ow, ⟨dv, wv⟩, ⟨dw, ww⟩⟩ := q
  obtain ⟨h1, h2, h3, h4, h5, h6⟩ := hq
  have h1 : ov = ow := h1
  have h2 : ov.length ≤ 32 * k := h2
  have h5 : wv.length ≤ 128 := h5
  have h6 : ww.length ≤ 128 := h6
  subst h1
  have i1 : inR ((k : Int) + 1) = true := aX (by omega)
  have ho : ov.length ≤ 100000 := by omega
  have p1 : ∀ (x : ag) (d : IM) (w o : List UInt8) (t : Int), w.length ≤ 128 → o.length ≤ 100000 → fh (((), x, ()), ((c, (), (), ()), (t, (), ()), d, o, w, ())) = true := fun x d w o t hw ho => (Bool.and_eq_true _ _).mpr ⟨cj hs, decide_eq_true ⟨by show o.length ≤ _; omega, hw⟩⟩
  have p2 : pW (((), e, ()), ((c, (), (), ()), (s', (), ()), dw, ov, ww, ())) = true := (Bool.and_eq_true _ _).mpr ⟨cj hs, decide_eq_true h6⟩
  have b0 : ∀ b, (((k : Int) == a) = b) → (decide ((k : Int) ≤ (l.length : Int))) = true := fun _ _ => decide_eq_true (by omega)
  have c0 : decide ((k : Int) ≤ (l.length : Int)) = true := decide_eq_true (by omega)
  rcases (Bool.eq_false_or_eq_true ((k : Int) == a)).symm with ha | ha
  · have eh : Ab c e a k (dw, ww) = (dw, ww) := by unfold Ab; rw [ha]; rfl
    by_cases hk2 : (k : Int) < (l.length : Int)
    · have hin : inB (k : Int) l.length = true := aQ (by omega)
      have e1 : iG c l e a k (ov, ov, (dv, wv), (dw, ww)) = (ov ++ cH c (l.getD k noE), ov ++ cH c (l.getD k noE), fa dv wv 2 (cH c (l.getD k noE)), fa dw ww 2 (cH c (l.getD k noE))) := by
        unfold iG
        dsimp only
        rw [decide_eq_true hk2, eh]
        rfl
      rw [e1]
      refine (OT.ax c0).trans ((OT.ay ha).trans ((OT.ax (decide_eq_true hk2)).trans ((aj ?_).trans rfl)))
      simp only [List.all_cons, List.all_nil, Bool.and_true, Bool.and_eq_true]
      exact ⟨hin, p1 _ _ _ _ _ h5 ho, hin, p1 _ _ _ _ _ h6 ho, i1⟩
    · have e1 : iG c l e a k (ov, ov, (dv, wv), (dw, ww)) = (ov, ov, (dv, wv), (dw, ww)) := by
        unfold iG
        dsimp only
        rw [decide_eq_false hk2, eh]
        rfl
      rw [e1]
      refine (OT.ax c0).trans ((OT.ay ha).trans ((OT.ay (decide_eq_false hk2)).trans ((aj ?_).trans rfl)))
      simp only [List.all_cons, List.all_nil, Bool.and_true]
      exact i1
  · have eh : Ab c e a k (dw, ww) = fa dw ww 2 (cH c e) := by unfold Ab; rw [ha]; rfl
    by_cases hk2 : (k : Int) < (l.length : Int)
    · have hin : inB (k : Int) l.length = true := aQ (by omega)
      have e1 : iG c l e a k (ov, ov, (dv, wv), (dw, ww)) = (ov ++ cH c (l.getD k noE), ov ++ cH c (l.getD k noE), fa dv wv 2 (cH c (l.getD k noE)), fa (fa dw ww 2 (cH c e)).1 (fa dw ww 2 (cH c e)).2 2 (cH c (l.getD k noE))) := by
        unfold iG
        dsimp only
        rw [decide_eq_true hk2, eh]
        rfl
      rw [e1]
      refine (OT.ax c0).trans ((OT.ax ha).trans ((aj ?_).trans ((OT.ax (decide_eq_true hk2)).trans ((aj ?_).trans rfl))))
      · simp only [List.all_cons, List.all_nil, Bool.and_true, Bool.and_eq_true]
        exact ⟨rfl, p2⟩
      · simp only [List.all_cons, List.all_nil, Bool.and_true, Bool.and_eq_true]
        exact ⟨hin, p1 _ _ _ _ _ h5 ho, hin, p1 _ _ _ _ _ (fS _ _ _ _) ho, i1⟩
    · have e1 : iG c l e a k (ov, ov, (dv, wv), (dw, ww)) = (ov, ov, (dv, wv), fa dw ww 2 (cH c e)) := by
        unfold iG
        dsimp only
        rw [decide_eq_false hk2, eh]
        rfl
      rw [e1]
      refine (OT.ax c0).trans ((OT.ax ha).trans ((aj ?_).trans ((OT.ay (decide_eq_false hk2)).trans ((aj ?_).trans rfl))))
      · simp only [List.all_cons, List.all_nil, Bool.and_true, Bool.and_eq_true]
        exact ⟨rfl, p2⟩
      · simp only [List.all_cons, List.all_nil, Bool.and_true]
        exact i1
theorem Bm (c : Int) (l : List ag) (e : ag) (a : Int) {d d' : IM} (hd : d.1 = 64) (hd' : d'.1 = 64) : ∀ n, Vk n (upto (iG c l e a) ([], [], (d, []), (d', [])) n)
  | 0 => ⟨rfl, Nat.le_refl _, hd, hd', Nat.zero_le _, Nat.zero_le _⟩
  | n + 1 => GI (Bm c l e a hd hd' n)
theorem UO : ∀ s : ba, mz s = true → ∃ m e, aB ji m s = some e ∧ (pQ kV s).run = some e := by
  rintro ⟨⟨c, l, a, ⟨⟩, ⟨⟩, m, ⟨⟩, ⟨⟩, i, ⟨⟩⟩, ⟨E, P, ⟨c2, ⟨⟩, ⟨⟩, ⟨⟩⟩, ⟨c3, ⟨⟩, ⟨⟩, ⟨⟩⟩, ⟨s, ⟨⟩, ⟨⟩⟩, ov, ⟨s', ⟨⟩, ⟨⟩⟩, ow, dv, dw, wv, ww, ⟨⟩⟩⟩ h
  obtain ⟨hs, h⟩ := (Bool.and_eq_true _ _).mp h
  obtain ⟨h0, hl, hE, h2, h3, h4, h5, h6, h7, h8, h9⟩ := of_decide_eq_true h
  dsimp only at h0 hl hE h2 h3 h4 h5 h6 h7 h8 h9 hs
  subst h0 h2 h4 h5 h8 h9
  subst h3
  obtain ⟨e, rfl⟩ : ∃ e, E = lst e := ⟨elemOf E, (b8 hE).symm⟩
  have := (bt (T := ji) (fun k q => Ej c3 l a m e P s s' (k : Int) q) (iG c3 l e a)
    (fun q => (⟨(.exit 2, j0), ((c3, l, a, (), (), m, (), (), ()), (lst e, P, (c3, (), (), ()), (c3, (), (), ()), (s, (), ()), q.1, (s', (), ()), q.2.1, q.2.2.1.1, q.2.2.2.1, q.2.2.1.2, q.2.2.2.2, ()))⟩ : aS)) (l.length + 1) ([], [], (dv, []), (dw, [])) (fun k q => Vk k q) ⟨rfl, Nat.le_refl _, h6, h7, Nat.zero_le _, Nat.zero_le _⟩
    (fun k q hk hq => ⟨J6 hs (by omega) hl hq, GI hq⟩) (fun q _ => ?_)).1
  · obtain ⟨n, hn⟩ := this
    exact ⟨n, _, hn, rfl⟩
  · exact OT.ay (decide_eq_false (by dsimp only [Ej]; omega))
abbrev BR : Type := List UInt8 × List UInt8
def nF (c : Int) (l : List ag) (k : Nat) (q : BR) : BR := cond (decide ((k : Int) < (l.length : Int))) (q.1 ++ cH c (l.getD k noE), q.2 ++ cH c (l.getD k noE)) q
def Vj (k : Nat) (q : BR) : Prop := q.1 = q.2 ∧ q.1.length ≤ 32 * k
theorem Bn {c : Int} {l : List ag} {k : Nat} {q : BR} (h : Vj k q) : Vj (k + 1) (nF c l k q) := by
  obtain ⟨h1, h2⟩ := h
  unfold nF
  have hs := ir c (l.getD k noE)
  generalize cH c (l.getD k noE) = S at hs
  cases decide ((k : Int) < (l.length : Int))
  · exact ⟨h1, by show q.1.length ≤ _; omega⟩
  · refine ⟨?_, ?_⟩
    · show q.1 ++ S = q.2 ++ S
      rw [h1]
    · show (q.1 ++ S).length ≤ _
      rw [List.length_append]
      omega
def Lk (c : Int) (l : List ag) : BR := upto (nF c l) ([], []) (l.length + 1)
def vz (c : Int) (l : List ag) (a m : Int) (e : ag) (P : B9) (s s' : Int) (t t' : List ag) (k : Int) (q : BR) : aR := ((c, l, a, (), (), m, (), (), k, ()), (lst e, P, (c, (), (), ()), (c, (), (), ()), (s, t, ()), q.1, (s', t', ()), q.2, ()))
def jZ (s : aR) : Bool := aw s.1.1 && decide (s.1.2.2.2.2.2.2.2.2.1 = 0 ∧ s.1.2.1.length ≤ 40 ∧ s.2.1.length = 4 ∧ s.2.2.2.1.1 = s.1.1 ∧ s.2.2.2.2.1.1 = s.1.1 ∧ s.2.2.2.2.2.2.1 = [] ∧ s.2.2.2.2.2.2.2.2.1 = [])
def jh (s : aR) : c8 :=
  ((s.1.1, s.1.2.1, s.1.2.2.1, (), (), s.1.2.2.2.2.2.1, (), (), ()), (s.2.1, s.2.2.1, s.2.2.2.1, s.2.2.2.2.1, s.2.2.2.2.2.1, (Lk s.1.1 s.1.2.1).1, s.2.2.2.2.2.2.2.1, (Lk s.1.1 s.1.2.1).2, ()))
theorem Ge {c : Int} (hs : aw c = true) {l : List ag} {a m : Int} {e : ag} {P : B9} {s s' : Int} {t t' : List ag} {k : Nat} (hk : k ≤ l.length) (hl : l.length ≤ 40) {q : BR} (hq : Vj k q) :
    (gg (vz c l a m e P s s' t t' (k : Int) q)).run = some (.inl (vz c l a m e P s s' t t' ((k : Int) + 1) (nF c l k q))) := by
  obtain ⟨ov, ow⟩ := q
  obtain ⟨h1, h2⟩ := hq
  have h1 : ov = ow := h1
  have h2 : ov.length ≤ 32 * k := h2
  subst h1
  have i1 : inR ((k : Int) + 1) = true := aX (by omega)
  have ho : ov.length ≤ 100000 := by omega
  have p1 : ∀ (x : ag) (t : List ag) (o : List UInt8) (s : Int), o.length ≤ 100000 → gw (((), x, ()), ((c, (), (), ()), (s, t, ()), o, ())) = true := fun x t o s ho => (Bool.and_eq_true _ _).mpr ⟨cj hs, decide_eq_true (by show o.length ≤ _; omega)⟩
  have c0 : decide ((k : Int) ≤ (l.length : Int)) = true := decide_eq_true (by omega)
  by_cases hk2 : (k : Int) < (l.length : Int)
  · have hin : inB (k : Int) l.length = true := aQ (by omega)
    have e1 : nF c l k (ov, ov) = (ov ++ cH c (l.getD k noE), ov ++ cH c (l.getD k noE)) := by
      unfold nF
      rw [decide_eq_true hk2]
      rfl
    rw [e1]
    rcases (Bool.eq_false_or_eq_true ((k : Int) == a)).symm with ha | ha
    · refine (OT.ax c0).trans ((OT.ay ha).trans ((OT.ax (decide_eq_true hk2)).trans ((aj ?_).trans rfl)))
      simp only [List.all_cons, List.all_nil, Bool.and_true, Bool.and_eq_true]
      exact ⟨hin, p1 _ _ _ _ ho, hin, p1 _ _ _ _ ho, i1⟩
    · refine (OT.ax c0).trans ((OT.ax ha).trans ((aj ?_).trans ((OT.ax (decide_eq_true hk2)).trans ((aj ?_).trans rfl))))
      · simp only [List.all_cons, List.all_nil, Bool.and_true, Bool.and_eq_true]
        exact ⟨rfl, cj hs⟩
      · simp only [List.all_cons, List.all_nil, Bool.and_true, Bool.and_eq_true]
        exact ⟨hin, p1 _ _ _ _ ho, hin, p1 _ _ _ _ ho, i1⟩
  · have e1 : nF c l k (ov, ov) = (ov, ov) := by
      unfold nF
      rw [decide_eq_false hk2]
      rfl
    rw [e1]
    rcases (Bool.eq_false_or_eq_true ((k : Int) == a)).symm with ha | ha
    · refine (OT.ax c0).trans ((OT.ay ha).trans ((OT.ay (decide_eq_false hk2)).trans ((aj ?_).trans rfl)))
      simp only [List.all_cons, List.all_nil, Bool.and_true]
      exact i1
    · refine (OT.ax c0).trans ((OT.ax ha).trans ((aj ?_).trans ((OT.ay (decide_eq_false hk2)).trans ((aj ?_).trans rfl))))
      · simp only [List.all_cons, List.all_nil, Bool.and_true, Bool.and_eq_true]
        exact ⟨rfl, cj hs⟩
      · simp only [List.all_cons, List.all_nil, Bool.and_true]
        exact i1
theorem xt (c : Int) (l : List ag) : ∀ n, Vj n (upto (nF c l) ([], []) n)
  | 0 => ⟨rfl, Nat.le_refl _⟩
  | n + 1 => Bn (xt c l n)
theorem P8 : ∀ s : aR, jZ s = true → ∃ m e, aB gg m s = some e ∧ (mA jh s).run = some e := by
  rintro ⟨⟨c, l, a, ⟨⟩, ⟨⟩, m, ⟨⟩, ⟨⟩, i, ⟨⟩⟩, ⟨E, P, ⟨c2, ⟨⟩, ⟨⟩, ⟨⟩⟩, ⟨c3, ⟨⟩, ⟨⟩, ⟨⟩⟩, ⟨s, t, ⟨⟩⟩, ov, ⟨s', t', ⟨⟩⟩, ow, ⟨⟩⟩⟩ h
  obtain ⟨hs, h⟩ := (Bool.and_eq_true _ _).mp h
  obtain ⟨h0, hl, hE, h2, h3, h4, h5⟩ := of_decide_eq_true h
  dsimp only at h0 hl hE h2 h3 h4 h5 hs
  subst h0 h2 h4 h5
  subst h3
  obtain ⟨e, rfl⟩ : ∃ e, E = lst e := ⟨elemOf E, (b8 hE).symm⟩
  have := (bt (T := gg) (fun k q => vz c3 l a m e P s s' t t' (k : Int) q) (nF c3 l)
    (fun q => (⟨(.exit 2, iA), ((c3, l, a, (), (), m, (), (), ()), (lst e, P, (c3, (), (), ()), (c3, (), (), ()), (s, t, ()), q.1, (s', t', ()), q.2, ()))⟩ : aS)) (l.length + 1) ([], []) (fun k q => Vj k q) ⟨rfl, Nat.le_refl _⟩
    (fun k q hk hq => ⟨Ge hs (by omega) hl hq, Bn hq⟩) (fun q _ => ?_)).1
  · obtain ⟨n, hn⟩ := this
    exact ⟨n, _, hn, rfl⟩
  · exact OT.ay (decide_eq_false (by dsimp only [vz]; omega))
theorem aeY {c : Int} (hs : aw c = true) : onB c (⟨⟨0, 0, 0, 0⟩, ⟨0, 0, 0, 0⟩, true⟩ : ag × (ag × Bool)) = true := by
  rcases b6 hs with rfl | rfl | rfl | rfl <;> decide +kernel
theorem Uw {c : Int} (hs : aw c = true) : (bo c 0 1 == 0) = true ∧ (bo c (0 + 1) 1 == 0) = true := by
  rcases b6 hs with rfl | rfl | rfl | rfl <;> exact ⟨rfl, rfl⟩
theorem afj {c : Int} (hs : aw c = true) : th (pS (dK c 1)) ⟨3, 0, 0, 0⟩ ⟨0, 0, 0, 0⟩ = ofP (pS (dK c 1)) ⟨3, 0, 0, 0⟩ := by
  rcases b6 hs with rfl | rfl | rfl | rfl <;> decide +kernel
def sy (_ : sA) : Bool := true
def NZ (_ : sA) : OT dT.Y := .ok ⟨ap, ((true, ()), ())⟩
theorem J8 {ok2 : ba → Bool} {g2 : ba → dy} {ok2b : aR → Bool} {g2b : aR → c8} {c a : Int} {l : List ag} {e : ag} {P : ag × (ag × Bool)} {O R : List UInt8} {d d' : IM} {w w' : List UInt8}
    (hs : aw c = true) (hl : l.length ≤ 40) (ha : 0 ≤ a) (hal : a ≤ l.length) (hP : onB c P = true) (hd : d.1 = 64) (hd' : d'.1 = 64) (hw : w.length ≤ 128) (hw' : w'.length ≤ 128) (hO : O.length ≤ 2000) (hR : R.length ≤ 2000)
    (k2 : ok2 ((c, l, a, (), (), 0, (), (), 0, ()), (lst e, qd P, (c, (), (), ()), (c, (), (), ()), (dK c 1, (), ()), [], (dK c 1, (), ()), [], bi, bi, [], [], ())) = true)
    (e2 : (g2 ((c, l, a, (), (), 0, (), (), 0, ()), (lst e, qd P, (c, (), (), ()), (c, (), (), ()), (dK c 1, (), ()), [], (dK c 1, (), ()), [], bi, bi, [], [], ()))).2 = (lst e, qd P, (c, (), (), ()), (c, (), (), ()), (dK c 1, (), ()), O, (dK c 1, (), ()), O, d, d', w, w', ()))
    (k2b : ok2b ((c, l, a, (), (), 0 + 1, (), (), 0, ()), (lst e, qd P, (c, (), (), ()), (c, (), (), ()), (dK c 1, [⟨3, 0, 0, 0⟩], ()), [], (dK c 1, [⟨3, 0, 0, 0⟩], ()), [], ())) = true)
    (e2b : (g2b ((c, l, a, (), (), 0 + 1, (), (), 0, ()), (lst e, qd P, (c, (), (), ()), (c, (), (), ()), (dK c 1, [⟨3, 0, 0, 0⟩], ()), [], (dK c 1, [⟨3, 0, 0, 0⟩], ()), [], ()))).2 = (lst e, qd P, (c, (), (), ()), (c, (), (), ()), (dK c 1, [⟨3, 0, 0, 0⟩], ()), R, (dK c 1, [⟨3, 0, 0, 0⟩], ()), R, ())) :
    (mB ok2 g2 ok2b g2b c l e a P).run = some ⟨ap, ((true, ()), ())⟩ := by
  obtain ⟨f0, f1⟩ := Uw hs
  have hc : 0 ≤ c ∧ c < 4 := by simpa [aw] using hs
  have hon : onB c P = true := hP
  have hB := DQ hon
  obtain ⟨e0, e1, e2', e3⟩ := e
  obtain ⟨⟨p0, p1, p2, p3⟩, ⟨p4, p5, p6, p7⟩, p8⟩ := P
  obtain ⟨n, d0, d1, d2, d3, d4, d5, d6, d7, ⟨⟩, dc, ⟨⟩⟩ := d
  obtain ⟨n', d0', d1', d2', d3', d4', d5', d6', d7', ⟨⟩, dc', ⟨⟩⟩ := d'
  have hd : n = 64 := hd
  have hd' : n' = 64 := hd'
  subst hd hd'
  dsimp only [qd, lst, bi] at k2 e2 k2b e2b
  refine (OT.ay (decide_eq_false (by omega))).trans ((OT.ay (decide_eq_false (by omega))).trans ((OT.ay (decide_eq_false (by omega))).trans ((OT.ay (decide_eq_false (by omega))).trans ((OT.ay (decide_eq_false (by omega))).trans ((OT.ay (by rw [hP]; rfl)).trans ((OT.ax f0).trans ((OT.ax f0).trans ?_)))))))
  simp only [e2, e2b]
  have q1 : di = di := rfl
  refine (aj ?_).trans ((OT.ax hon).trans ((aj ?_).trans ((OT.ax hon).trans ((aj ?_).trans ((OT.ay (by simp only [decide_true, Bool.not_true])).trans ((OT.ax f1).trans ((OT.ax f1).trans ((aj ?_).trans ((OT.ax hon).trans ((aj ?_).trans ((OT.ax hon).trans ((aj ?_).trans ((OT.ay rfl).trans ((OT.ay rfl).trans ((aj ?_).trans ((OT.ay (by simp only [decide_true, Bool.not_true])).trans ((OT.ay ?_).trans ((aj ?_).trans ((OT.ay ?_).trans rfl)))))))))))))))))))
  · simp only [List.all_cons, List.all_nil, Bool.and_true, Bool.and_eq_true]
    exact ⟨k2, decide_eq_true ⟨by show O.length ≤ _; omega, hw⟩⟩
  · simp only [List.all_cons, List.all_nil, Bool.and_true, Bool.and_eq_true]
    exact decide_eq_true ⟨by show O.length ≤ _; omega, hw'⟩
  · simp only [List.all_cons, List.all_nil, Bool.and_true, Bool.and_eq_true]
    have lo : decide ((O ++ qf c ((⟨p0, p1, p2, p3⟩, ⟨p4, p5, p6, p7⟩, p8) : ag × (ag × Bool))).length ≤ 140737488355328) = true := decide_eq_true (by rw [List.length_append]; omega)
    exact ⟨(Bool.and_eq_true _ _).mpr ⟨cj hs, decide_eq_true ⟨rfl, fS _ _ _ _⟩⟩, (Bool.and_eq_true _ _).mpr ⟨cj hs, decide_eq_true ⟨rfl, fS _ _ _ _⟩⟩, lo, lo, lo⟩
  · simp only [List.all_cons, List.all_nil, Bool.and_true, Bool.and_eq_true]
    exact ⟨k2b, decide_eq_true (by show R.length ≤ _; omega)⟩
  · simp only [List.all_cons, List.all_nil, Bool.and_true, Bool.and_eq_true]
    exact decide_eq_true (by show R.length ≤ _; omega)
  · simp only [List.all_cons, List.all_nil, Bool.and_true, Bool.and_eq_true]
    exact ⟨(Bool.and_eq_true _ _).mpr ⟨cj hs, rfl⟩, (Bool.and_eq_true _ _).mpr ⟨cj hs, rfl⟩⟩
  · simp only [List.all_cons, List.all_nil, Bool.and_true, Bool.and_eq_true]
    have lo : decide ((R ++ qf c ((⟨p0, p1, p2, p3⟩, ⟨p4, p5, p6, p7⟩, p8) : ag × (ag × Bool))).length ≤ 140737488355328) = true := decide_eq_true (by rw [List.length_append]; omega)
    exact ⟨lo, lo, lo⟩
  · simp only [beq_self_eq_true, Bool.and_self, Bool.not_true]
  · simp only [List.all_cons, List.all_nil, Bool.and_true]
    exact cj hs
  · have e3 : th (pS (dK c 1)) (ej [⟨3, 0, 0, 0⟩]).1 ⟨0, 0, 0, 0⟩ = ofP (pS (dK c 1)) ⟨3, 0, 0, 0⟩ := afj hs
    rw [e3]
    simp only [beq_self_eq_true, Bool.and_self, Bool.not_true]
theorem Gg {ok2 : ba → Bool} {g2 : ba → dy} {ok2b : aR → Bool} {g2b : aR → c8} {c a : Int} {l : List ag} {e : ag} {P : ag × (ag × Bool)} {O R : List UInt8} {d d' : IM} {w w' : List UInt8}
    (hs : aw c = true) (hl : l.length ≤ 40) (ha : 0 ≤ a) (hal : a ≤ l.length) (hP : onB c P = false) (hd : d.1 = 64) (hd' : d'.1 = 64) (hw : w.length ≤ 128) (hw' : w'.length ≤ 128) (hO : O.length ≤ 2000) (hR : R.length ≤ 2000)
    (k2 : ok2 ((c, l, a, (), (), 0, (), (), 0, ()), (lst e, qd (⟨⟨0, 0, 0, 0⟩, ⟨0, 0, 0, 0⟩, true⟩ : ag × (ag × Bool)), (c, (), (), ()), (c, (), (), ()), (dK c 1, (), ()), [], (dK c 1, (), ()), [], bi, bi, [], [], ())) = true)
    (e2 : (g2 ((c, l, a, (), (), 0, (), (), 0, ()), (lst e, qd (⟨⟨0, 0, 0, 0⟩, ⟨0, 0, 0, 0⟩, true⟩ : ag × (ag × Bool)), (c, (), (), ()), (c, (), (), ()), (dK c 1, (), ()), [], (dK c 1, (), ()), [], bi, bi, [], [], ()))).2 = (lst e, qd (⟨⟨0, 0, 0, 0⟩, ⟨0, 0, 0, 0⟩, true⟩ : ag × (ag × Bool)), (c, (), (), ()), (c, (), (), ()), (dK c 1, (), ()), O, (dK c 1, (), ()), O, d, d', w, w', ()))
    (k2b : ok2b ((c, l, a, (), (), 0 + 1, (), (), 0, ()), (lst e, qd (⟨⟨0, 0, 0, 0⟩, ⟨0, 0, 0, 0⟩, true⟩ : ag × (ag × Bool)), (c, (), (), ()), (c, (), (), ()), (dK c 1, [⟨3, 0, 0, 0⟩], ()), [], (dK c 1, [⟨3, 0, 0, 0⟩], ()), [], ())) = true)
    (e2b : (g2b ((c, l, a, (), (), 0 + 1, (), (), 0, ()), (lst e, qd (⟨⟨0, 0, 0, 0⟩, ⟨0, 0, 0, 0⟩, true⟩ : ag × (ag × Bool)), (c, (), (), ()), (c, (), (), ()), (dK c 1, [⟨3, 0, 0, 0⟩], ()), [], (dK c 1, [⟨3, 0, 0, 0⟩], ()), [], ()))).2 = (lst e, qd (⟨⟨0, 0, 0, 0⟩, ⟨0, 0, 0, 0⟩, true⟩ : ag × (ag × Bool)), (c, (), (), ()), (c, (), (), ()), (dK c 1, [⟨3, 0, 0, 0⟩], ()), R, (dK c 1, [⟨3, 0, 0, 0⟩], ()), R, ())) :
    (mB ok2 g2 ok2b g2b c l e a P).run = some ⟨ap, ((true, ()), ())⟩ := by
  obtain ⟨f0, f1⟩ := Uw hs
  have hc : 0 ≤ c ∧ c < 4 := by simpa [aw] using hs
  have hon : onB c (⟨⟨0, 0, 0, 0⟩, ⟨0, 0, 0, 0⟩, true⟩ : ag × (ag × Bool)) = true := aeY hs
  have hB := DQ hon
  obtain ⟨e0, e1, e2', e3⟩ := e
  skip
  obtain ⟨n, d0, d1, d2, d3, d4, d5, d6, d7, ⟨⟩, dc, ⟨⟩⟩ := d
  obtain ⟨n', d0', d1', d2', d3', d4', d5', d6', d7', ⟨⟩, dc', ⟨⟩⟩ := d'
  have hd : n = 64 := hd
  have hd' : n' = 64 := hd'
  subst hd hd'
  dsimp only [qd, lst, bi] at k2 e2 k2b e2b
  refine (OT.ay (decide_eq_false (by omega))).trans ((OT.ay (decide_eq_false (by omega))).trans ((OT.ay (decide_eq_false (by omega))).trans ((OT.ay (decide_eq_false (by omega))).trans ((OT.ay (decide_eq_false (by omega))).trans ((OT.ax (by rw [hP]; rfl)).trans ((OT.ax f0).trans ((OT.ax f0).trans ?_)))))))
  simp only [e2, e2b]
  have q1 : di = di := rfl
  refine (aj ?_).trans ((OT.ax hon).trans ((aj ?_).trans ((OT.ax hon).trans ((aj ?_).trans ((OT.ay (by simp only [decide_true, Bool.not_true])).trans ((OT.ax f1).trans ((OT.ax f1).trans ((aj ?_).trans ((OT.ax hon).trans ((aj ?_).trans ((OT.ax hon).trans ((aj ?_).trans ((OT.ay rfl).trans ((OT.ay rfl).trans ((aj ?_).trans ((OT.ay (by simp only [decide_true, Bool.not_true])).trans ((OT.ay ?_).trans ((aj ?_).trans ((OT.ay ?_).trans rfl)))))))))))))))))))
  · simp only [List.all_cons, List.all_nil, Bool.and_true, Bool.and_eq_true]
    exact ⟨k2, decide_eq_true ⟨by show O.length ≤ _; omega, hw⟩⟩
  · simp only [List.all_cons, List.all_nil, Bool.and_true, Bool.and_eq_true]
    exact decide_eq_true ⟨by show O.length ≤ _; omega, hw'⟩
  · simp only [List.all_cons, List.all_nil, Bool.and_true, Bool.and_eq_true]
    have lo : decide ((O ++ qf c (⟨⟨0, 0, 0, 0⟩, ⟨0, 0, 0, 0⟩, true⟩ : ag × (ag × Bool))).length ≤ 140737488355328) = true := decide_eq_true (by rw [List.length_append]; omega)
    exact ⟨(Bool.and_eq_true _ _).mpr ⟨cj hs, decide_eq_true ⟨rfl, fS _ _ _ _⟩⟩, (Bool.and_eq_true _ _).mpr ⟨cj hs, decide_eq_true ⟨rfl, fS _ _ _ _⟩⟩, lo, lo, lo⟩
  · simp only [List.all_cons, List.all_nil, Bool.and_true, Bool.and_eq_true]
    exact ⟨k2b, decide_eq_true (by show R.length ≤ _; omega)⟩
  · simp only [List.all_cons, List.all_nil, Bool.and_true, Bool.and_eq_true]
    exact decide_eq_true (by show R.length ≤ _; omega)
  · simp only [List.all_cons, List.all_nil, Bool.and_true, Bool.and_eq_true]
    exact ⟨(Bool.and_eq_true _ _).mpr ⟨cj hs, rfl⟩, (Bool.and_eq_true _ _).mpr ⟨cj hs, rfl⟩⟩
  · simp only [List.all_cons, List.all_nil, Bool.and_true, Bool.and_eq_true]
    have lo : decide ((R ++ qf c (⟨⟨0, 0, 0, 0⟩, ⟨0, 0, 0, 0⟩, true⟩ : ag × (ag × Bool))).length ≤ 140737488355328) = true := decide_eq_true (by rw [List.length_append]; omega)
    exact ⟨lo, lo, lo⟩
  · simp only [beq_self_eq_true, Bool.and_self, Bool.not_true]
  · simp only [List.all_cons, List.all_nil, Bool.and_true]
    exact cj hs
  · have e3 : th (pS (dK c 1)) (ej [⟨3, 0, 0, 0⟩]).1 ⟨0, 0, 0, 0⟩ = ofP (pS (dK c 1)) ⟨3, 0, 0, 0⟩ := afj hs
    rw [e3]
    simp only [beq_self_eq_true, Bool.and_self, Bool.not_true]
theorem UN : ab Try.prog 3 (dT.aE sy NZ) := J7 mz kV jZ jh UO P8 _ _ fun x oy hp ho => by
  rw [← ho]
  clear ho
  obtain ⟨⟨c, l, e, a, P, ⟨⟩⟩, ⟨⟩⟩ := x
  show (mB mz kV jZ jh c l e a P).run = some ⟨ap, ((true, ()), ())⟩
  by_cases h1 : c < 0
  · exact (OT.ax (decide_eq_true h1)).trans rfl
  · by_cases h2 : 3 < c
    · exact (OT.ay (decide_eq_false h1)).trans ((OT.ax (decide_eq_true h2)).trans rfl)
    · by_cases h3 : (40 : Int) < (l.length : Int)
      · exact (OT.ay (decide_eq_false h1)).trans ((OT.ay (decide_eq_false h2)).trans ((OT.ax (decide_eq_true h3)).trans rfl))
      · by_cases h4 : a < 0
        · exact (OT.ay (decide_eq_false h1)).trans ((OT.ay (decide_eq_false h2)).trans ((OT.ay (decide_eq_false h3)).trans ((OT.ax (decide_eq_true h4)).trans rfl)))
        · by_cases h5 : (l.length : Int) < a
          · exact (OT.ay (decide_eq_false h1)).trans ((OT.ay (decide_eq_false h2)).trans ((OT.ay (decide_eq_false h3)).trans ((OT.ay (decide_eq_false h4)).trans ((OT.ax (decide_eq_true h5)).trans rfl))))
          · have hs : aw c = true := by
              simp only [aw, Bool.and_eq_true, decide_eq_true_eq]
              omega
            have hl : l.length ≤ 40 := by omega
            obtain ⟨g1, g2, g3, g4, g5, g6⟩ := Bm c l e a (d := bi) (d' := bi) rfl rfl (l.length + 1)
            obtain ⟨r1, r2⟩ := xt c l (l.length + 1)
            have g1 : (oB c l e a bi bi).1 = (oB c l e a bi bi).2.1 := g1
            have g2 : (oB c l e a bi bi).1.length ≤ 32 * (l.length + 1) := g2
            have r1 : (Lk c l).1 = (Lk c l).2 := r1
            have r2 : (Lk c l).1.length ≤ 32 * (l.length + 1) := r2
            have k2 : ∀ P : B9, mz ((c, l, a, (), (), 0, (), (), 0, ()), (lst e, P, (c, (), (), ()), (c, (), (), ()), (dK c 1, (), ()), [], (dK c 1, (), ()), [], bi, bi, [], [], ())) = true := fun P =>
              (Bool.and_eq_true _ _).mpr ⟨hs, decide_eq_true ⟨rfl, hl, rfl, rfl, rfl, rfl, rfl, rfl, rfl, rfl, rfl⟩⟩
            have k2b : ∀ P : B9, jZ ((c, l, a, (), (), 0 + 1, (), (), 0, ()), (lst e, P, (c, (), (), ()), (c, (), (), ()), (dK c 1, [⟨3, 0, 0, 0⟩], ()), [], (dK c 1, [⟨3, 0, 0, 0⟩], ()), [], ())) = true := fun P =>
              (Bool.and_eq_true _ _).mpr ⟨hs, decide_eq_true ⟨rfl, hl, rfl, rfl, rfl, rfl, rfl⟩⟩
            have e2 : ∀ P : B9, (kV ((c, l, a, (), (), 0, (), (), 0, ()), (lst e, P, (c, (), (), ()), (c, (), (), ()), (dK c 1, (), ()), [], (dK c 1, (), ()), [], bi, bi, [], [], ()))).2 =
                (lst e, P, (c, (), (), ()), (c, (), (), ()), (dK c 1, (), ()), (oB c l e a bi bi).1, (dK c 1, (), ()), (oB c l e a bi bi).1, (oB c l e a bi bi).2.2.1.1, (oB c l e a bi bi).2.2.2.1, (oB c l e a bi bi).2.2.1.2, (oB c l e a bi bi).2.2.2.2, ()) := fun P => by
              unfold kV
              dsimp only
              rw [show elemOf (lst e) = e from rfl, ← g1]
            have e2b : ∀ P : B9, (jh ((c, l, a, (), (), 0 + 1, (), (), 0, ()), (lst e, P, (c, (), (), ()), (c, (), (), ()), (dK c 1, [⟨3, 0, 0, 0⟩], ()), [], (dK c 1, [⟨3, 0, 0, 0⟩], ()), [], ()))).2 =
                (lst e, P, (c, (), (), ()), (c, (), (), ()), (dK c 1, [⟨3, 0, 0, 0⟩], ()), (Lk c l).1, (dK c 1, [⟨3, 0, 0, 0⟩], ()), (Lk c l).1, ()) := fun P => by
              unfold jh
              dsimp only
              rw [← r1]
            rcases (Bool.eq_false_or_eq_true (onB c P)).symm with hP | hP
            · exact Gg hs hl (by omega) (by omega) hP g3 g4 g5 g6 (by omega) (by omega) (k2 _) (e2 _) (k2b _) (e2b _)
            · exact J8 hs hl (by omega) (by omega) hP g3 g4 g5 g6 (by omega) (by omega) (k2 _) (e2 _) (k2b _) (e2b _)
def J5 : bO := (dT.aE sy NZ)
theorem Gf : ab Try.prog 3 J5 := UN
end Go.Proofs.Ytohjofabochgfaa
