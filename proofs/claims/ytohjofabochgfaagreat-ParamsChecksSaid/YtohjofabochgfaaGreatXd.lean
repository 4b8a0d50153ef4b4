/- A symbolic machine for Go code over plain data, and functions of the program as it shows them. No statement is proved in this file. -/
import Derived.KernelRfl
import Derived.Test.YtohjofabochgfaaGreatXc
set_option linter.unusedSimpArgs false
set_option linter.unusedVariables false
set_option linter.unusedSectionVars false

namespace Go.Proofs.YtohjofabochgfaaGreat
open Sx Go
def l6 (n : Nat) : List UInt64 := [UInt64.ofNat n, UInt64.ofNat (n / 18446744073709551616), UInt64.ofNat (n / 18446744073709551616 / 18446744073709551616), UInt64.ofNat (n / 18446744073709551616 / 18446744073709551616 / 18446744073709551616),
  UInt64.ofNat (n / 18446744073709551616 / 18446744073709551616 / 18446744073709551616 / 18446744073709551616), UInt64.ofNat (n / 18446744073709551616 / 18446744073709551616 / 18446744073709551616 / 18446744073709551616 / 18446744073709551616)]
def v6 (l : List UInt64) : Nat := (l.getD 0 0).toNat + 18446744073709551616 * ((l.getD 1 0).toNat + 18446744073709551616 * ((l.getD 2 0).toNat + 18446744073709551616 * ((l.getD 3 0).toNat + 18446744073709551616 * ((l.getD 4 0).toNat + 18446744073709551616 * (l.getD 5 0).toNat))))
theorem eQ {m : Nat} {x : UInt64} (hm : m % 18446744073709551616 = x.toNat) : UInt64.ofNat m = x := by
  rw [← UInt64.toNat_inj, UInt64.toNat_ofNat']
  exact hm
theorem ams {n : Nat} {a b c d e : UInt64} {k : Nat} {f : UInt64} (h : n = a.toNat + 18446744073709551616 * (b.toNat + 18446744073709551616 * (c.toNat + 18446744073709551616 * (d.toNat + 18446744073709551616 * (e.toNat + 18446744073709551616 * k))))) (hf : k % 18446744073709551616 = f.toNat) : l6 n = [a, b, c, d, e, f] := by
  obtain ⟨h1, h0⟩ := div_eq a.toNat_lt h
  obtain ⟨h2, h3⟩ := div_eq b.toNat_lt h1
  obtain ⟨h4, h5⟩ := div_eq c.toNat_lt h2
  obtain ⟨h6, h7⟩ := div_eq d.toNat_lt h4
  obtain ⟨h8, h9⟩ := div_eq e.toNat_lt h6
  unfold l6
  rw [eQ (x := a) h0, eQ (x := b) h3, eQ (x := c) h5, eQ (x := d) h7, eQ (x := e) h9, eQ (x := f) (by rw [h8]; exact hf)]
theorem aaw (n : Nat) : (l6 n).length = 6 := rfl
def akU (t a x c : UInt64) : UInt64 := pj t (pj (a * x) c 0) 0
def tY (t a x c : UInt64) : UInt64 := acw a x + rj (a * x) c 0 + rj t (pj (a * x) c 0) 0
theorem akD {t P p h c l k1 r k2 W : Nat} (hP : P = p + W * h) (h1 : p + c = l + W * k1) (h2 : t + l = r + W * k2) : t + P + c = r + W * (h + k1 + k2) := by
  rw [Nat.mul_add, Nat.mul_add]
  omega
theorem acm {t P c r q W : Nat} (hW : 0 < W) (ht : t ≤ W - 1) (hc : c ≤ W - 1) (hP : P ≤ (W - 1) * (W - 1)) (h : t + P + c = r + W * q) : q < W := by
  obtain ⟨V, rfl⟩ : ∃ V, W = V + 1 := ⟨W - 1, by omega⟩
  rw [Nat.add_sub_cancel] at *
  refine Nat.lt_of_not_le fun hq => ?_
  have h1 : (V + 1) * (V + 1) ≤ (V + 1) * q := Nat.mul_le_mul_left _ hq
  have h2 : (V + 1) * (V + 1) = V * V + V + V + 1 := by rw [Nat.add_mul, Nat.mul_add, Nat.one_mul, Nat.mul_one]; omega
  omega
theorem afv (a x : UInt64) : (acw a x).toNat = a.toNat * x.toNat / 18446744073709551616 := by
  have ha := a.toNat_lt
  have hx := x.toNat_lt
  have : a.toNat * x.toNat / 18446744073709551616 < 18446744073709551616 := by
    rw [Nat.div_lt_iff_lt_mul (by omega)]
    exact Nat.mul_lt_mul'' ha hx
  unfold acw
  rw [UInt64.toNat_ofNat', Nat.mod_eq_of_lt this]
theorem yt (t a x c : UInt64) : t.toNat + a.toNat * x.toNat + c.toNat = (akU t a x c).toNat + 18446744073709551616 * (tY t a x c).toNat := by
  have hP : a.toNat * x.toNat = (a * x).toNat + 18446744073709551616 * (acw a x).toNat := by
    rw [afv, UInt64.toNat_mul]
    exact (Nat.mod_add_div _ _).symm
  have h1 := jo (a * x) c 0
  have h2 := jo t (pj (a * x) c 0) 0
  rw [show (0 : UInt64).toNat = 0 from rfl, Nat.add_zero] at h1 h2
  have key := akD hP h1 h2
  have hb := acm (W := 18446744073709551616) (by omega) (Nat.le_sub_one_of_lt t.toNat_lt) (Nat.le_sub_one_of_lt c.toNat_lt) (Nat.mul_le_mul (Nat.le_sub_one_of_lt a.toNat_lt) (Nat.le_sub_one_of_lt x.toNat_lt)) key
  have e : (tY t a x c).toNat = (acw a x).toNat + (rj (a * x) c 0).toNat + (rj t (pj (a * x) c 0) 0).toNat := by
    unfold tY
    rw [UInt64.toNat_add, UInt64.toNat_add, Nat.mod_add_mod]
    exact Nat.mod_eq_of_lt hb
  rw [e]
  exact key
theorem yu {t a x c s k T A R W : Nat} (h1 : t + a * x + c = s + W * k) (h2 : T + A * x + k = R) : (t + W * T) + (a + W * A) * x + c = s + W * R := by
  rw [Nat.add_mul, Nat.mul_assoc, ← h2, Nat.mul_add, Nat.mul_add]
  omega
def amR (t0 t1 t2 t3 t4 t5 : UInt64) (a : ab) (x : UInt64) : List UInt64 :=
  let k0 := tY t0 a.w0 x 0
  let k1 := tY t1 a.w1 x k0
  let k2 := tY t2 a.w2 x k1
  let k3 := tY t3 a.w3 x k2
  [akU t0 a.w0 x 0, akU t1 a.w1 x k0, akU t2 a.w2 x k1, akU t3 a.w3 x k2, pj t4 k3 0, t5 + rj t4 k3 0]
theorem akE (t0 t1 t2 t3 t4 t5 : UInt64) (a : ab) (x : UInt64) : amR t0 t1 t2 t3 t4 t5 a x = l6 (v6 [t0, t1, t2, t3, t4, t5] + a.nat * x.toNat) := by
  have h4 := jo t4 (tY t3 a.w3 x (tY t2 a.w2 x (tY t1 a.w1 x (tY t0 a.w0 x 0)))) 0
  rw [show (0 : UInt64).toNat = 0 from rfl, Nat.add_zero] at h4
  have h5 : (t4.toNat + 18446744073709551616 * t5.toNat) + 0 * x.toNat + (tY t3 a.w3 x (tY t2 a.w2 x (tY t1 a.w1 x (tY t0 a.w0 x 0)))).toNat =
      (pj t4 (tY t3 a.w3 x (tY t2 a.w2 x (tY t1 a.w1 x (tY t0 a.w0 x 0)))) 0).toNat + 18446744073709551616 * (t5.toNat + (rj t4 (tY t3 a.w3 x (tY t2 a.w2 x (tY t1 a.w1 x (tY t0 a.w0 x 0)))) 0).toNat) := by
    rw [Nat.zero_mul, Nat.mul_add]
    omega
  have h := yu (yt t0 a.w0 x 0) (yu (yt t1 a.w1 x _) (yu (yt t2 a.w2 x _) (yu (yt t3 a.w3 x _) h5)))
  rw [show (0 : UInt64).toNat = 0 from rfl, Nat.add_zero, Nat.mul_zero, Nat.add_zero] at h
  exact (ams (f := t5 + rj t4 (tY t3 a.w3 x (tY t2 a.w2 x (tY t1 a.w1 x (tY t0 a.w0 x 0)))) 0) h (by rw [UInt64.toNat_add])).symm
end Go.Proofs.YtohjofabochgfaaGreat

namespace Go.Proofs.YtohjofabochgfaaGreat
open Sx Go
set_option maxRecDepth 100000
def nw : ao := ⟨[.val true (.arr 6 .u64), .val true .elem, .val false .u64], [], true, 0, false⟩
abbrev V2 : Type := ((List (UInt64)) × (ab) × (UInt64) × Unit) × (Unit)
def A7 : Shape := ⟨61, [(2, .val false .u64), (3, .ptr 0 0 0), (4, .ptr 1 0 0), (6, .ptr 2 0 0), (7, .val false .u64), (13, .val false .int)], [(0, .row .u64), (1, .row .u64), (2, .row .u64)], 0, true⟩
abbrev cK : Type := ((UInt64) × (Unit) × (Unit) × (Unit) × (UInt64) × (Int) × Unit) × ((List (UInt64)) × (List (UInt64)) × (List (UInt64)) × Unit)
def sM : Shape := ⟨61, [(3, .ptr 0 0 0), (6, .ptr 1 0 0), (7, .val false .u64)], [(0, .row .u64), (1, .row .u64)], 0, true⟩
abbrev kN : Type := ((Unit) × (Unit) × (UInt64) × Unit) × ((List (UInt64)) × (List (UInt64)) × Unit)
def abh : SE → Option Shape := jt [(0, sM)] none
def akc (a2 : UInt64) (a7 : UInt64) (a13 : Int) (c0 : List (UInt64)) (c1 : List (UInt64)) (c2 : List (UInt64)) : OT (Sum cK aL) :=
  let z0 : Bool := inB a13 6
  let z1 : Bool := decide (Int.toNat a13 + 0 < List.length c0)
  let z2 : UInt64 := List.getD c1 (Int.toNat a13 + 0) (0 : UInt64)
  let z3 : UInt64 := List.getD c0 (Int.toNat a13 + 0) (0 : UInt64)
  let z4 : UInt64 := pj (z2 * a2) a7 (0 : UInt64)
  (.br (decide (a13 < (4 : Int)))
  (gd [inB a13 4, decide (Int.toNat a13 + 0 < List.length c1), z0, z1, z0, z1, inR (a13 + (1 : Int))] (.ok (.inl ((a2, ((), ((), ((), (acw z2 a2 + rj (z2 * a2) a7 (0 : UInt64) + rj z3 z4 (0 : UInt64), (a13 + (1 : Int), ())))))), (List.set c0 (Int.toNat a13 + 0) (pj z3 z4 (0 : UInt64)), (c1, (c2, ())))))))
  (.ok (.inr ⟨(.exit 0, sM), (((), ((), (a7, ()))), (c0, (c2, ())))⟩)))
def A8 (s : cK) : OT (Sum cK aL) := akc (s.1.1) (s.1.2.2.2.2.1) (s.1.2.2.2.2.2.1) (s.2.1) (s.2.2.1) (s.2.2.2.1)
theorem aj9 (s : cK) (Q : Sum cK aL → Prop) : wps te E1 ax 1000 (bE (al Tryz.f150) 0) (A7.inj s) (cM A7 abh (Q : Sum A7.T aL → Prop)) = (A8 s).wpR Q := by kernel_rfl
def GO (g0_0 : cK → kN) (s : cK) : OT aL := (.ok ⟨(.exit 0, sM), g0_0 s⟩)
def Oc : aw := ⟨[.val true (.arr 6 .u64)], [], false⟩
def Tc : SV → Option aw := fun _ => some Oc
def abk (ok0 : cK → Bool) (g0_0 : cK → kN) (a0 : List (UInt64)) (a1 : ab) (a2 : UInt64) : OT nw.Y :=
  let z0 : (UInt64 × PUnit × PUnit × PUnit × UInt64 × Int × PUnit) × List UInt64 × List UInt64 × List UInt64 × PUnit := ((a2, (), (), (), (0 : UInt64), (0 : Int), ()), tab a0 6 (0 : UInt64), [a1.w0, a1.w1, a1.w2, a1.w3], [(0 : UInt64), (0 : UInt64), (0 : UInt64), (0 : UInt64), (0 : UInt64), (0 : UInt64)], ())
  let z1 : (PUnit × PUnit × UInt64 × PUnit) × List UInt64 × List UInt64 × PUnit := g0_0 z0
  let z2 := z1.snd
  let z3 := z2.fst
  let z4 : Bool := decide (4 < List.length z3)
  let z5 : UInt64 := List.getD z3 4 0
  let z6 := z1.fst.snd.snd.fst
  let z7 : List UInt64 := List.set z3 4 (pj z5 z6 (0 : UInt64))
  let z8 : Bool := decide (5 < List.length z7)
  let z9 : List UInt64 := List.set z7 5 (List.getD z7 5 0 + rj z5 z6 (0 : UInt64))
  let z10 := z2.snd.fst
  let z11 : List UInt64 := lay z10 z9 6 (0 : UInt64)
  (gd [ok0 z0, z4, z4, z8, z8, decide (6 ≤ List.length z9), decide ((6 / 1 : Nat) + 0 ≤ List.length z10), decide (6 ≤ List.length z11)] (.ok ⟨Oc, ((tab z11 6 (0 : UInt64), ()), ())⟩))
theorem alW (ok0 : cK → Bool) (g0_0 : cK → kN) (x : V2) (Q : nw.Y → Prop) : wpf te E1 (bg 0 (db A7 0 ok0 (GO g0_0)) ax) 1000 Tryz.f150 (nw.inp.inj x).tm (nw.inp.inj x).hp (fnK nw Tc Q) (fun _ _ => False) = (abk ok0 g0_0 (x.1.1) (x.1.2.1) (x.1.2.2.1)).wpR Q := by kernel_rfl
theorem abi (ok0 : cK → Bool) (g0_0 : cK → kN) (h0 : ∀ s : cK, ok0 s = true → ∃ m e, aq (A8) m s = some e ∧ (GO g0_0 s).run = some e) (pre : V2 → Bool) (F : V2 → OT nw.Y) (hF : ∀ (x : V2) oy, pre x = true → (F x).run = some oy → (abk ok0 g0_0 (x.1.1) (x.1.2.1) (x.1.2.2.1)).run = some oy) : ac Tryz.prog 150 (nw.aD pre F) :=
  aB ar tE EZ (f := 150) (fn := Tryz.f150) (c := al Tryz.f150) (by kernel_rfl) (by kernel_rfl) (by kernel_rfl) (S := nw) (k := 0) (by kernel_rfl) (fun R hR => (aC (c := (al Tryz.f150)) (by kernel_rfl) (id := 0) (by kernel_rfl) (bo ar tE EZ (sh := A7) hR (xs := abh) (aE (by kernel_rfl) (by kernel_rfl) hR) aS ag (n := 1000) (T := A8) (fun s Q => aj9 s Q) (ok := ok0) (f := GO g0_0) h0) ag)) (n := 1000) (sel := Tc) (fun v o h => by cases h; rfl) (pre := pre) (F := F) (T := fun x => abk ok0 g0_0 (x.1.1) (x.1.2.1) (x.1.2.2.1)) (fun x Q => alW ok0 g0_0 x Q) hF
def agv (a : List UInt64) (x : UInt64) (k : Nat) (s : List UInt64 × UInt64) : List UInt64 × UInt64 := (s.1.set k (akU (s.1.getD k 0) (a.getD k 0) x s.2), tY (s.1.getD k 0) (a.getD k 0) x s.2)
def Te (s : cK) : Bool := decide (s.1.2.2.2.2.1 = 0 ∧ s.1.2.2.2.2.2.1 = 0 ∧ s.2.1.length = 6 ∧ s.2.2.1.length = 4)
def abj (s : cK) : kN := (((), (), (upto (agv s.2.2.1 s.1.1) (s.2.1, 0) 4).2, ()), ((upto (agv s.2.2.1 s.1.1) (s.2.1, 0) 4).1, s.2.2.2.1, ()))
theorem akb : ∀ s : cK, Te s = true → ∃ m e, aq A8 m s = some e ∧ (GO abj s).run = some e := by
  rintro ⟨⟨x, ⟨⟩, ⟨⟩, ⟨⟩, c, i, ⟨⟩⟩, ⟨t, a, o, ⟨⟩⟩⟩ h
  have h' := of_decide_eq_true h
  dsimp only at h'
  obtain ⟨rfl, rfl, ht, ha⟩ := h'
  have := (bN (T := A8) (fun k s => (((x, (), (), (), s.2, (k : Int), ()), (s.1, a, o, ())) : cK)) (agv a x)
    (fun s => (⟨(.exit 0, sM), (((), (), s.2, ()), (s.1, o, ()))⟩ : aL)) 4 (t, 0) (fun _ s => s.1.length = 6) ht (fun k s hk hs => ⟨?_, ?_⟩) (fun s hs => ?_)).1
  · obtain ⟨m, hm⟩ := this
    exact ⟨m, _, hm, rfl⟩
  · refine (OT.ap (decide_eq_true (by dsimp only; omega))).trans ((aj ?_).trans ?_)
    · simp only [Int.toNat_natCast, Nat.add_zero, hs, ha, List.all_cons, List.all_nil, Bool.and_true, Bool.and_eq_true]
      exact ⟨bF (by omega), decide_eq_true (by omega), bF (by omega), decide_eq_true (by omega), bF (by omega), decide_eq_true (by omega), bz (by omega)⟩
    · simp only [OT.jx, Int.toNat_natCast, Nat.add_zero]
      rfl
  · simp only [agv, List.length_set]
    exact hs
  · exact OT.au (decide_eq_false (by dsimp only; omega))
def Td (_ : V2) : Bool := true
def abl (x : V2) : OT nw.Y := .ok ⟨Oc, ((l6 (v6 x.1.1 + x.1.2.1.nat * x.1.2.2.1.toNat), ()), ())⟩
theorem aka : ac Tryz.prog 150 (nw.aD Td abl) := abi Te abj akb _ _ fun x oy hp ho => by
  rw [← ho]
  clear ho
  obtain ⟨⟨t, a, x, ⟨⟩⟩, ⟨⟩⟩ := x
  refine (aj ?_).trans ?_
  · simp only [List.all_cons, List.all_nil, Bool.and_true, Bool.and_eq_true]
    exact ⟨rfl, rfl, rfl, rfl, rfl, rfl, rfl, rfl⟩
  · have e := akE (t.getD 0 0) (t.getD 1 0) (t.getD 2 0) (t.getD 3 0) (t.getD 4 0) (t.getD 5 0) a x
    have e2 : l6 (v6 t + a.nat * x.toNat) = amR (t.getD 0 0) (t.getD 1 0) (t.getD 2 0) (t.getD 3 0) (t.getD 4 0) (t.getD 5 0) a x := e.symm
    simp only [abl, e2]
    rfl
def A6 : cv := (nw.aD Td abl)
theorem V1 : ac Tryz.prog 150 A6 := aka
theorem V0 : aF A6 := az
def E5 : Env := ay 150 A6 E1
theorem tG : aQ Tryz.prog E5 := ah V1 tE
theorem Cs : av E5 := ae V0 B7
theorem E4 : aV Tryz.prog te E5 := aJ follows ar tG Cs
end Go.Proofs.YtohjofabochgfaaGreat

namespace Go.Proofs.YtohjofabochgfaaGreat
open Sx Go
theorem akZ {n : Nat} (h : n / 18446744073709551616 / 18446744073709551616 / 18446744073709551616 / 18446744073709551616 / 18446744073709551616 < 18446744073709551616) : v6 (l6 n) = n := by
  unfold v6 l6
  simp only [List.getD_cons_zero, List.getD_cons_succ, UInt64.toNat_ofNat']
  rw [show (2 : Nat) ^ 64 = 18446744073709551616 from rfl]
  omega
def yM (p neg a : Nat) (b t : Nat) : Nat := (t + a * b + p * ((t + a * b) * neg % 18446744073709551616)) / 18446744073709551616
theorem n6 {p neg a b t : Nat} (hn : (p * neg + 1) % 18446744073709551616 = 0) : 18446744073709551616 * yM p neg a b t = t + a * b + p * ((t + a * b) * neg % 18446744073709551616) := by
  unfold yM
  refine Nat.mul_div_cancel' (Nat.dvd_of_mod_eq_zero ?_)
  generalize t + a * b = u
  rw [Nat.add_mod, Nat.mul_mod, Nat.mod_mod, ← Nat.mul_mod, ← Nat.add_mod]
  have : u + p * (u * neg) = u * (p * neg + 1) := by
    rw [Nat.mul_add, Nat.mul_one, Nat.mul_left_comm]
    omega
  rw [this, Nat.mul_mod, hn, Nat.mul_zero, Nat.zero_mod]
theorem n5 {p neg a b t : Nat} (hn : (p * neg + 1) % 18446744073709551616 = 0) (ht : t < 2 * p) (ha : a < p) (hb : b < 18446744073709551616) : yM p neg a b t < 2 * p := by
  have h := n6 (a := a) (b := b) (t := t) hn
  have hm : (t + a * b) * neg % 18446744073709551616 ≤ 18446744073709551615 := by
    have := Nat.mod_lt ((t + a * b) * neg) (show 0 < 18446744073709551616 by omega)
    omega
  have h1 : p * ((t + a * b) * neg % 18446744073709551616) ≤ p * 18446744073709551615 := Nat.mul_le_mul_left _ hm
  have h2 : a * b ≤ p * 18446744073709551615 := Nat.mul_le_mul (by omega) (by omega)
  omega
theorem aiR {p a b t t1 m K T B M W : Nat} (h1 : W * t1 = t + a * b + p * m) (h2 : K * T = t1 + a * B + p * M) : (W * K) * T = t + a * (b + W * B) + p * (m + W * M) := by
  have e : (W * K) * T = W * t1 + W * (a * B) + W * (p * M) := by rw [Nat.mul_assoc, h2, Nat.mul_add, Nat.mul_add]
  rw [e, h1, Nat.mul_add, Nat.mul_add, Nat.mul_left_comm a W, Nat.mul_left_comm p W]
  omega
theorem amS {p a b T K M r : Nat} (h : K * T = a * b + p * M) (hr : K * r % p = 1 % p) : T % p = a * b * r % p := by
  have h1 : (K * T) * r = a * b * r + p * (M * r) := by rw [h, Nat.add_mul, Nat.mul_assoc p]
  have h2 : a * b * r % p = (K * T * r) % p := by rw [h1, Nat.add_mul_mod_self_left]
  have h3 : K * T * r = T * (K * r) := by rw [Nat.mul_comm K T, Nat.mul_assoc]
  rw [h2, h3, Nat.mul_mod, hr, ← Nat.mul_mod, Nat.mul_one]
def alx (p neg a : Nat) (b : ab) : Nat := yM p neg a b.w3.toNat (yM p neg a b.w2.toNat (yM p neg a b.w1.toNat (yM p neg a b.w0.toNat 0)))
theorem afD {p neg a r : Nat} {b : ab} (hn : (p * neg + 1) % 18446744073709551616 = 0) (hr : 115792089237316195423570985008687907853269984665640564039457584007913129639936 * r % p = 1 % p) : alx p neg a b % p = a * b.nat * r % p := by
  have h := aiR (n6 (a := a) (b := b.w0.toNat) (t := 0) hn) (aiR (n6 (a := a) (b := b.w1.toNat) hn) (aiR (n6 (a := a) (b := b.w2.toNat) hn) (show 18446744073709551616 * _ = _ + a * b.w3.toNat + p * _ from n6 hn)))
  rw [Nat.zero_add] at h
  exact amS (K := 18446744073709551616 * (18446744073709551616 * (18446744073709551616 * 18446744073709551616))) h hr
theorem ajD {p neg a : Nat} {b : ab} (hn : (p * neg + 1) % 18446744073709551616 = 0) (ha : a < p) : alx p neg a b < 2 * p :=
  n5 hn (n5 hn (n5 hn (n5 hn (by omega) ha b.w0.toNat_lt) ha b.w1.toNat_lt) ha b.w2.toNat_lt) ha b.w3.toNat_lt
theorem ajE {T p : Nat} (h : T < 2 * p) : T % p = if T < p then T else T - p := by
  split
  · exact Nat.mod_eq_of_lt ‹_›
  · rw [Nat.mod_eq_sub_mod (by omega), Nat.mod_eq_of_lt (by omega)]
end Go.Proofs.YtohjofabochgfaaGreat

namespace Go.Proofs.YtohjofabochgfaaGreat
open Sx Go
set_option maxRecDepth 100000
def gJ : ao := ⟨[.val true (.prod .elem (.prod .int (.prod .u64 (.prod .u64 .elem)))), .val true .elem, .val true .elem], [], true, 0, false⟩
abbrev Eg : Type := (((ab × (Int × (UInt64 × (UInt64 × ab))))) × (ab) × (ab) × Unit) × (Unit)
def sE : Shape := ⟨61, [(3, .ptr 0 0 0), (4, .ptr 1 0 0), (6, .ptr 2 0 0), (7, .ptr 3 0 0), (13, .val true .elem), (14, .val false .int)], [(0, .cells [.val false .u64, .val false .u64, .val false .u64, .val false .u64, .val false .int, .val false .u64, .val false .u64, .val false .u64, .val false .u64, .val false .u64, .val false .u64]), (1, .row .u64), (2, .row .u64), (3, .row .u64)], 0, true⟩
abbrev bW : Type := ((Unit) × (Unit) × (Unit) × (Unit) × (ab) × (Int) × Unit) × (((UInt64) × (UInt64) × (UInt64) × (UInt64) × (Int) × (UInt64) × (UInt64) × (UInt64) × (UInt64) × (UInt64) × (UInt64) × Unit) × (List (UInt64)) × (List (UInt64)) × (List (UInt64)) × Unit)
def oP : Shape := ⟨61, [(3, .ptr 0 0 0), (6, .ptr 1 0 0), (7, .ptr 2 0 0)], [(0, .cells [.val false .u64, .val false .u64, .val false .u64, .val false .u64, .val false .int, .val false .u64, .val false .u64, .val false .u64, .val false .u64, .val false .u64, .val false .u64]), (1, .row .u64), (2, .row .u64)], 0, true⟩
abbrev jc : Type := ((Unit) × (Unit) × (Unit) × Unit) × (((UInt64) × (UInt64) × (UInt64) × (UInt64) × (Int) × (UInt64) × (UInt64) × (UInt64) × (UInt64) × (UInt64) × (UInt64) × Unit) × (List (UInt64)) × (List (UInt64)) × Unit)
def SR : SE → Option Shape := jt [(0, oP)] none
def Gz (a13 : ab) (a14 : Int) (c0_0 : UInt64) (c0_1 : UInt64) (c0_2 : UInt64) (c0_3 : UInt64) (c0_4 : Int) (c0_5 : UInt64) (c0_6 : UInt64) (c0_7 : UInt64) (c0_8 : UInt64) (c0_9 : UInt64) (c0_10 : UInt64) (c1 : List (UInt64)) (c2 : List (UInt64)) (c3 : List (UInt64)) : OT (Sum bW aL) :=
  let z0 : Nat := List.length c3
  let z1 : List UInt64 := lay c3 (l6 (v6 (tab c3 6 (0 : UInt64)) + ab.nat { w0 := List.getD c1 0 0, w1 := List.getD c1 1 0, w2 := List.getD c1 2 0, w3 := List.getD c1 3 0 } * UInt64.toNat (List.getD [a13.w0, a13.w1, a13.w2, a13.w3] (Int.toNat a14) (0 : UInt64)))) 6 (0 : UInt64)
  let z2 : Nat := List.length z1
  let z3 : List UInt64 := lay z1 (l6 (v6 (tab z1 6 (0 : UInt64)) + ab.nat { w0 := c0_0, w1 := c0_1, w2 := c0_2, w3 := c0_3 } * UInt64.toNat (List.getD z1 0 0 * c0_6))) 6 (0 : UInt64)
  let z4 : Nat := List.length z3
  (.br (decide (a14 < (4 : Int)))
  (gd [inB a14 4, decide (6 ≤ z0), decide (4 ≤ List.length c1), decide ((6 / 1 : Nat) + 0 ≤ z0), decide (6 ≤ z2), decide (0 < z2), decide ((6 / 1 : Nat) + 0 ≤ z2), decide (1 < z4), decide (2 < z4), decide (3 < z4), decide (4 < z4), decide (5 < z4), decide ((6 / 1 : Nat) + 0 ≤ z4), inR (a14 + (1 : Int))] (.ok (.inl (((), ((), ((), ((), (a13, (a14 + (1 : Int), ())))))), ((c0_0, (c0_1, (c0_2, (c0_3, (c0_4, (c0_5, (c0_6, (c0_7, (c0_8, (c0_9, (c0_10, ()))))))))))), (c1, (c2, (List.set (List.set (List.set (List.set (List.set (List.set z3 0 (List.getD z3 1 0)) 1 (List.getD z3 2 0)) 2 (List.getD z3 3 0)) 3 (List.getD z3 4 0)) 4 (List.getD z3 5 0)) 5 (0 : UInt64), ()))))))))
  (.ok (.inr ⟨(.exit 0, oP), (((), ((), ((), ()))), ((c0_0, (c0_1, (c0_2, (c0_3, (c0_4, (c0_5, (c0_6, (c0_7, (c0_8, (c0_9, (c0_10, ()))))))))))), (c2, (c3, ()))))⟩)))
def sF (s : bW) : OT (Sum bW aL) := Gz (s.1.2.2.2.2.1) (s.1.2.2.2.2.2.1) (s.2.1.1) (s.2.1.2.1) (s.2.1.2.2.1) (s.2.1.2.2.2.1) (s.2.1.2.2.2.2.1) (s.2.1.2.2.2.2.2.1) (s.2.1.2.2.2.2.2.2.1) (s.2.1.2.2.2.2.2.2.2.1) (s.2.1.2.2.2.2.2.2.2.2.1) (s.2.1.2.2.2.2.2.2.2.2.2.1) (s.2.1.2.2.2.2.2.2.2.2.2.2.1) (s.2.2.1) (s.2.2.2.1) (s.2.2.2.2.1)
theorem afS (s : bW) (Q : Sum bW aL → Prop) : wps te E5 ax 1000 (bE (al Tryz.f118) 0) (sE.inj s) (cM sE SR (Q : Sum sE.T aL → Prop)) = (sF s).wpR Q := by kernel_rfl
def yk (g0_0 : bW → jc) (s : bW) : OT aL := (.ok ⟨(.exit 0, oP), g0_0 s⟩)
def oO : aw := ⟨[.val true .elem], [], false⟩
def J1 : SV → Option aw := fun _ => some oO
def NT (ok0 : bW → Bool) (g0_0 : bW → jc) (a0 : (ab × (Int × (UInt64 × (UInt64 × ab))))) (a1 : ab) (a2 : ab) : OT gJ.Y :=
  let z0 : (PUnit × PUnit × PUnit × PUnit × ab × Int × PUnit) × (UInt64 × UInt64 × UInt64 × UInt64 × Int × UInt64 × UInt64 × UInt64 × UInt64 × UInt64 × UInt64 × PUnit) × List UInt64 × List UInt64 × List UInt64 × PUnit := (((), (), (), (), a2, (0 : Int), ()), (a0.fst.w0, a0.fst.w1, a0.fst.w2, a0.fst.w3, a0.snd.fst, a0.snd.snd.fst, a0.snd.snd.snd.fst, a0.snd.snd.snd.snd.w0, a0.snd.snd.snd.snd.w1, a0.snd.snd.snd.snd.w2, a0.snd.snd.snd.snd.w3, ()), [a1.w0, a1.w1, a1.w2, a1.w3], [(0 : UInt64), (0 : UInt64), (0 : UInt64), (0 : UInt64)], [(0 : UInt64), (0 : UInt64), (0 : UInt64), (0 : UInt64), (0 : UInt64), (0 : UInt64)], ())
  let z1 := (g0_0 z0).snd
  let z2 := z1.snd
  let z3 := z2.snd.fst
  let z4 : Nat := List.length z3
  let z5 := z2.fst
  let z6 : Nat := List.length z5
  let z7 : Bool := decide ((4 / 1 : Nat) + 0 ≤ z6)
  let z8 := z1.fst
  let z9 := z8.snd
  let z10 := z9.snd
  let z11 : ab × Bool := jV { w0 := List.getD z3 0 0, w1 := List.getD z3 1 0, w2 := List.getD z3 2 0, w3 := List.getD z3 3 0 } { w0 := z8.fst, w1 := z9.fst, w2 := z10.fst, w3 := z10.snd.fst }
  let z12 := z11.fst
  let z13 : List UInt64 := List.set (List.set (List.set (List.set z5 0 z12.w0) 1 z12.w1) 2 z12.w2) 3 z12.w3
  let z14 : Bool := decide (4 ≤ List.length z13)
  let z15 : ab := { w0 := List.getD z13 0 0, w1 := List.getD z13 1 0, w2 := List.getD z13 2 0, w3 := List.getD z13 3 0 }
  let z16 : List UInt64 := lay z5 z3 4 (0 : UInt64)
  (gd [ok0 z0, decide (6 ≤ z4) && true, decide (4 ≤ z4), decide (4 < z4)] (.br (!List.getD z3 4 0 == (0 : UInt64))
  (gd [z7, z14] (.ok ⟨oO, ((z15, ()), ())⟩))
  (.br (!z11.snd)
    (gd [z7, z14] (.ok ⟨oO, ((z15, ()), ())⟩))
    (gd [decide ((4 / 1 : Nat) + 0 ≤ z6), decide (4 ≤ List.length z16)] (.ok ⟨oO, (({ w0 := List.getD z16 0 0, w1 := List.getD z16 1 0, w2 := List.getD z16 2 0, w3 := List.getD z16 3 0 }, ()), ())⟩)))))
theorem ajL (ok0 : bW → Bool) (g0_0 : bW → jc) (x : Eg) (Q : gJ.Y → Prop) : wpf te E5 (bg 0 (db sE 0 ok0 (yk g0_0)) ax) 1000 Tryz.f118 (gJ.inp.inj x).tm (gJ.inp.inj x).hp (fnK gJ J1 Q) (fun _ _ => False) = (NT ok0 g0_0 (x.1.1) (x.1.2.1) (x.1.2.2.1)).wpR Q := by kernel_rfl
theorem Vv (ok0 : bW → Bool) (g0_0 : bW → jc) (h0 : ∀ s : bW, ok0 s = true → ∃ m e, aq (sF) m s = some e ∧ (yk g0_0 s).run = some e) (pre : Eg → Bool) (F : Eg → OT gJ.Y) (hF : ∀ (x : Eg) oy, pre x = true → (F x).run = some oy → (NT ok0 g0_0 (x.1.1) (x.1.2.1) (x.1.2.2.1)).run = some oy) : ac Tryz.prog 118 (gJ.aD pre F) :=
  aB ar tG E4 (f := 118) (fn := Tryz.f118) (c := al Tryz.f118) (by kernel_rfl) (by kernel_rfl) (by kernel_rfl) (S := gJ) (k := 0) (by kernel_rfl) (fun R hR => (aC (c := (al Tryz.f118)) (by kernel_rfl) (id := 0) (by kernel_rfl) (bo ar tG E4 (sh := sE) hR (xs := SR) (aE (by kernel_rfl) (by kernel_rfl) hR) aS ag (n := 1000) (T := sF) (fun s Q => afS s Q) (ok := ok0) (f := yk g0_0) h0) ag)) (n := 1000) (sel := J1) (fun v o h => by cases h; rfl) (pre := pre) (F := F) (T := fun x => NT ok0 g0_0 (x.1.1) (x.1.2.1) (x.1.2.2.1)) (fun x Q => ajL ok0 g0_0 x Q) hF
def gI (n : HK) : Bool := decide (n = bJ 2) || decide (n = bJ 3)
theorem fw {n : HK} (h : gI n = true) : n = bJ 2 ∨ n = bJ 3 := by
  simpa [gI] using h
def aeF (n : HK) : Nat := if n.2.2.2.1 == 11037532056220336127 then 15353493766103302224812374511606760489073247795810767472367693728416386214313 else 14238205147845459960272226733876560297615832660064601289232577236146637664127
theorem aaK {n : HK} (h : gI n = true) : (n.1.nat * n.2.2.2.1.toNat + 1) % 18446744073709551616 = 0 := by
  rcases fw h with rfl | rfl <;> decide +kernel
theorem aaL {n : HK} (h : gI n = true) : 115792089237316195423570985008687907853269984665640564039457584007913129639936 * aeF n % n.1.nat = 1 % n.1.nat := by
  rcases fw h with rfl | rfl <;> decide +kernel
theorem aaI {n : HK} (h : gI n = true) : 2 * n.1.nat ≤ 115792089237316195423570985008687907853269984665640564039457584007913129639936 := by
  rcases fw h with rfl | rfl <;> decide +kernel
theorem amJ (n : Nat) : tab (l6 n) 6 0 = l6 n := rfl
theorem afM {n : Nat} (h : n / 18446744073709551616 / 18446744073709551616 / 18446744073709551616 / 18446744073709551616 / 18446744073709551616 / 18446744073709551616 = 0) :
    [UInt64.ofNat (n / 18446744073709551616), UInt64.ofNat (n / 18446744073709551616 / 18446744073709551616), UInt64.ofNat (n / 18446744073709551616 / 18446744073709551616 / 18446744073709551616),
      UInt64.ofNat (n / 18446744073709551616 / 18446744073709551616 / 18446744073709551616 / 18446744073709551616), UInt64.ofNat (n / 18446744073709551616 / 18446744073709551616 / 18446744073709551616 / 18446744073709551616 / 18446744073709551616), 0] = l6 (n / 18446744073709551616) := by
  unfold l6
  rw [h]
  rfl
theorem amN (a b : Nat) : lay (l6 a) (l6 b) 6 0 = l6 b := aat rfl rfl
theorem acA (U : Nat) (neg : UInt64) : (List.getD (l6 U) 0 0 * neg).toNat = U * neg.toNat % 18446744073709551616 := by
  show (UInt64.ofNat U * neg).toNat = _
  rw [UInt64.toNat_mul, UInt64.toNat_ofNat', Nat.mul_mod, Nat.mod_mod, ← Nat.mul_mod]
theorem Vu (b : ab) (k : Nat) (hk : k < 4) (x0 x1 x2 x3 x5 x6 x7 x8 x9 x10 : UInt64) (x4 : Int) (c1 c2 : List UInt64) (T : Nat) (h1 : c1.length = 4) (hT : T < 2 * (ab.mk x0 x1 x2 x3).nat)
    (hn : ((ab.mk x0 x1 x2 x3).nat * x6.toNat + 1) % 18446744073709551616 = 0) (hp : 2 * (ab.mk x0 x1 x2 x3).nat ≤ 115792089237316195423570985008687907853269984665640564039457584007913129639936) (ha : (elemOf c1).nat < (ab.mk x0 x1 x2 x3).nat) :
    (Gz b (k : Int) x0 x1 x2 x3 x4 x5 x6 x7 x8 x9 x10 c1 c2 (l6 T)).run = some (.inl (((), (), (), (), b, ((k + 1 : Nat) : Int), ()), ((x0, x1, x2, x3, x4, x5, x6, x7, x8, x9, x10, ()), c1, c2, l6 (yM (ab.mk x0 x1 x2 x3).nat x6.toNat (elemOf c1).nat ((lst b).getD k 0).toNat T), ()))) := by
  have hlt := n5 (b := ((lst b).getD k 0).toNat) hn hT ha (UInt64.toNat_lt _)
  have heq := n6 (a := (elemOf c1).nat) (b := ((lst b).getD k 0).toNat) (t := T) hn
  have hrd : yM (ab.mk x0 x1 x2 x3).nat x6.toNat (elemOf c1).nat ((lst b).getD k 0).toNat T = (T + (elemOf c1).nat * ((lst b).getD k 0).toNat + (ab.mk x0 x1 x2 x3).nat * ((T + (elemOf c1).nat * ((lst b).getD k 0).toNat) * x6.toNat % 18446744073709551616)) / 18446744073709551616 := rfl
  generalize hU : T + (elemOf c1).nat * ((lst b).getD k 0).toNat = U at heq hrd
  generalize hV : U + (ab.mk x0 x1 x2 x3).nat * (U * x6.toNat % 18446744073709551616) = V at heq hrd
  generalize yM (ab.mk x0 x1 x2 x3).nat x6.toNat (elemOf c1).nat ((lst b).getD k 0).toNat T = S at *
  have hVU : U ≤ V := by rw [← hV]; exact Nat.le_add_right _ _
  have hz1 : lay (l6 T) (l6 (v6 (tab (l6 T) 6 0) + ab.nat { w0 := List.getD c1 0 0, w1 := List.getD c1 1 0, w2 := List.getD c1 2 0, w3 := List.getD c1 3 0 } * UInt64.toNat (List.getD [b.w0, b.w1, b.w2, b.w3] (Int.toNat (k : Int)) 0))) 6 0 = l6 U := by
    rw [amJ, akZ (by omega), amN, Int.toNat_natCast]
    exact congrArg l6 hU
  have hz3 : lay (l6 U) (l6 (v6 (tab (l6 U) 6 0) + ab.nat { w0 := x0, w1 := x1, w2 := x2, w3 := x3 } * UInt64.toNat (List.getD (l6 U) 0 0 * x6))) 6 0 = l6 V := by
    rw [amJ, akZ (by omega), amN, acA, hV]
  have hsh : _ = l6 (V / 18446744073709551616) := afM (n := V) (by omega)
  unfold Gz
  simp only [hz1, hz3]
  refine (OT.ap (decide_eq_true (by omega))).trans ((aj ?_).trans ?_)
  · simp only [aaw, h1, List.all_cons, List.all_nil, Bool.and_true, Bool.and_eq_true]
    exact ⟨bF (by omega), rfl, rfl, rfl, rfl, rfl, rfl, rfl, rfl, rfl, rfl, rfl, rfl, bz (by omega)⟩
  · rw [hrd]
    exact congrArg (fun l => some (Sum.inl (((), (), (), (), b, ((k + 1 : Nat) : Int), ()), ((x0, x1, x2, x3, x4, x5, x6, x7, x8, x9, x10, ()), c1, c2, l, ())))) hsh
def abW (s : bW) : ab := ⟨s.2.1.1, s.2.1.2.1, s.2.1.2.2.1, s.2.1.2.2.2.1⟩
def akx (s : bW) : UInt64 := s.2.1.2.2.2.2.2.2.1
def J2 (s : bW) : Bool := decide (s.1.2.2.2.2.2.1 = 0 ∧ s.2.2.1.length = 4 ∧ s.2.2.2.2.1 = l6 0 ∧ ((abW s).nat * (akx s).toNat + 1) % 18446744073709551616 = 0 ∧ 2 * (abW s).nat ≤ 115792089237316195423570985008687907853269984665640564039457584007913129639936 ∧ (elemOf s.2.2.1).nat < (abW s).nat)
def Gy (s : bW) : jc := (((), (), (), ()), (s.2.1, s.2.2.2.1, l6 (alx (abW s).nat (akx s).toNat (elemOf s.2.2.1).nat s.1.2.2.2.2.1), ()))
theorem afU : ∀ s : bW, J2 s = true → ∃ m e, aq sF m s = some e ∧ (yk Gy s).run = some e := by
  rintro ⟨⟨⟨⟩, ⟨⟩, ⟨⟩, ⟨⟩, b, i, ⟨⟩⟩, ⟨⟨x0, x1, x2, x3, x4, x5, x6, x7, x8, x9, x10, ⟨⟩⟩, c1, c2, c3, ⟨⟩⟩⟩ h
  have h' := of_decide_eq_true h
  dsimp only [abW, akx] at h'
  obtain ⟨rfl, h1, rfl, hn, hp, ha⟩ := h'
  have := (bN (T := sF) (fun k T => ((((), (), (), (), b, (k : Int), ()), ((x0, x1, x2, x3, x4, x5, x6, x7, x8, x9, x10, ()), c1, c2, l6 T, ())) : bW)) (fun k T => yM (ab.mk x0 x1 x2 x3).nat x6.toNat (elemOf c1).nat ((lst b).getD k 0).toNat T)
    (fun T => (⟨(.exit 0, oP), (((), (), (), ()), ((x0, x1, x2, x3, x4, x5, x6, x7, x8, x9, x10, ()), c2, l6 T, ()))⟩ : aL)) 4 0 (fun _ T => T < 2 * (ab.mk x0 x1 x2 x3).nat) (by omega) (fun k T hk hT => ⟨?_, ?_⟩) (fun T hT => ?_)).1
  · obtain ⟨m, hm⟩ := this
    exact ⟨m, _, hm, rfl⟩
  · exact Vu b k hk x0 x1 x2 x3 x5 x6 x7 x8 x9 x10 x4 c1 c2 T h1 hT hn hp ha
  · exact n5 hn hT ha (UInt64.toNat_lt _)
  · exact OT.au (decide_eq_false (by dsimp only; omega))
def nh (x : Eg) : Bool := gI x.1.1 && Nat.blt x.1.2.1.nat x.1.1.1.nat
def aaQ (x : Eg) : OT gJ.Y := .ok ⟨oO, ((ofN (x.1.2.1.nat * x.1.2.2.1.nat * aeF x.1.1 % x.1.1.1.nat), ()), ())⟩
theorem afT : ac Tryz.prog 118 (gJ.aD nh aaQ) := Vv J2 Gy afU _ _ fun x oy hp ho => by
  rw [← ho]
  clear ho
  obtain ⟨⟨⟨⟨m0, m1, m2, m3⟩, ad, sm, neg, sq⟩, a, b, ⟨⟩⟩, ⟨⟩⟩ := x
  have hp' : (gI (⟨m0, m1, m2, m3⟩, ad, sm, neg, sq) && Nat.blt a.nat (ab.mk m0 m1 m2 m3).nat) = true := hp
  rw [Bool.and_eq_true] at hp'
  obtain ⟨hg, ha⟩ := hp'
  have ha := da ha
  have hn : ((ab.mk m0 m1 m2 m3).nat * neg.toNat + 1) % 18446744073709551616 = 0 := aaK hg
  have h2 : 2 * (ab.mk m0 m1 m2 m3).nat ≤ 115792089237316195423570985008687907853269984665640564039457584007913129639936 := aaI hg
  have hr : 115792089237316195423570985008687907853269984665640564039457584007913129639936 * aeF (⟨m0, m1, m2, m3⟩, ad, sm, neg, sq) % (ab.mk m0 m1 m2 m3).nat = 1 % (ab.mk m0 m1 m2 m3).nat := aaL hg
  have hM := afD (a := a.nat) (b := b) hn hr
  have hL := ajD (b := b) hn ha
  refine (aj ?_).trans ?_
  · simp only [List.all_cons, List.all_nil, Bool.and_true, Bool.and_eq_true]
    exact ⟨decide_eq_true ⟨rfl, rfl, rfl, hn, h2, ha⟩, rfl, rfl, rfl⟩
  · show _ = (OT.ok ⟨oO, ((ofN (a.nat * b.nat * aeF (⟨m0, m1, m2, m3⟩, ad, sm, neg, sq) % (ab.mk m0 m1 m2 m3).nat), ()), ())⟩ : OT gJ.Y).run
    rw [← hM, ajE hL]
    have e0 : Gy (((), (), (), (), b, 0, ()), ((m0, m1, m2, m3, ad, sm, neg, sq.w0, sq.w1, sq.w2, sq.w3, ()), [a.w0, a.w1, a.w2, a.w3], [0, 0, 0, 0], [0, 0, 0, 0, 0, 0], ())) = (((), (), (), ()), ((m0, m1, m2, m3, ad, sm, neg, sq.w0, sq.w1, sq.w2, sq.w3, ()), [0, 0, 0, 0], l6 (alx (ab.mk m0 m1 m2 m3).nat neg.toNat a.nat b), ())) := rfl
    dsimp only
    rw [e0]
    clear e0 hM
    generalize alx (ab.mk m0 m1 m2 m3).nat neg.toNat a.nat b = M at *
    have e4 : List.getD (l6 M) 4 0 = 0 := by
      show UInt64.ofNat (M / 18446744073709551616 / 18446744073709551616 / 18446744073709551616 / 18446744073709551616) = 0
      rw [show M / 18446744073709551616 / 18446744073709551616 / 18446744073709551616 / 18446744073709551616 = 0 by omega]
      rfl
    refine (OT.au (by rw [e4]; rfl)).trans ?_
    have eN : (ofN M).nat = M := iO (by omega)
    by_cases hlt : M < (ab.mk m0 m1 m2 m3).nat
    · rw [if_pos hlt]
      refine (OT.au ?_).trans ((aj rfl).trans rfl)
      show (!Nat.blt (ofN M).nat (ab.mk m0 m1 m2 m3).nat) = false
      rw [eN, show Nat.blt M (ab.mk m0 m1 m2 m3).nat = true from Nat.ble_eq_true_of_le hlt]
      rfl
    · rw [if_neg hlt]
      refine (OT.ap ?_).trans ((aj rfl).trans ?_)
      · show (!Nat.blt (ofN M).nat (ab.mk m0 m1 m2 m3).nat) = true
        rw [eN]
        cases hb : Nat.blt M (ab.mk m0 m1 m2 m3).nat
        · rfl
        · exact absurd (da hb) hlt
      · have ew : (jV (ofN M) (ab.mk m0 m1 m2 m3)).1 = ofN (M - (ab.mk m0 m1 m2 m3).nat) := by
          apply zF
          rw [k8 (by omega), eN, iO (by omega)]
        rw [← ew]
        rfl
def vq : cv := (gJ.aD nh aaQ)
theorem NS : ac Tryz.prog 118 vq := afT
theorem NR : aF vq := az
def B8 : Env := ay 118 vq E5
theorem wc : aQ Tryz.prog B8 := ah NS tG
theorem xu : av B8 := ae NR Cs
theorem O8 : aV Tryz.prog te B8 := aJ follows ar wc xu
def gK : ao := ⟨[.val true (.prod .elem (.prod .int (.prod .u64 (.prod .u64 .elem)))), .val true .elem, .val true .elem], [], true, 0, false⟩
abbrev Ej : Type := (((ab × (Int × (UInt64 × (UInt64 × ab))))) × (ab) × (ab) × Unit) × (Unit)
def lI : aw := ⟨[.val true .elem], [], false⟩
def Ka : SV → Option aw := fun _ => some lI
def qA (a0 : (ab × (Int × (UInt64 × (UInt64 × ab))))) (a1 : ab) (a2 : ab) : OT gK.Y :=
  let z0 : Bool := !a0.snd.snd.fst == (0 : UInt64)
  let z1 : Nat := ab.nat a0.fst
  let z2 : ab := ofN (ab.nat a1 % z1)
  let z3 : ab := ofN (ab.nat a2 % z1)
  let z4 : Nat := aeF a0
  let z5 : ab := ofN (ab.nat z2 * ab.nat z3 * z4 % z1)
  (gd [fx ((a0, a1, ()), ()), fx ((a0, a2, ()), ())] (.br (z0)
  (gd [z0] (.ok ⟨lI, (({ w0 := z2.w0 * z3.w0 % a0.snd.snd.fst, w1 := 0, w2 := 0, w3 := 0 }, ()), ())⟩))
  (gd [nh ((a0, z2, z3, ()), ()), nh ((a0, z5, a0.snd.snd.snd.snd, ()), ())] (.ok ⟨lI, ((ofN (ab.nat z5 * ab.nat a0.snd.snd.snd.snd * z4 % z1), ()), ())⟩))))
theorem ajY (x : Ej) (Q : gK.Y → Prop) : wpf te B8 ax 1000 Tryz.f77 (gK.inp.inj x).tm (gK.inp.inj x).hp (fnK gK Ka Q) (fun _ _ => False) = (qA (x.1.1) (x.1.2.1) (x.1.2.2.1)).wpR Q := by kernel_rfl
theorem VH (pre : Ej → Bool) (F : Ej → OT gK.Y) (hF : ∀ (x : Ej) oy, pre x = true → (F x).run = some oy → (qA (x.1.1) (x.1.2.1) (x.1.2.2.1)).run = some oy) : ac Tryz.prog 77 (gK.aD pre F) :=
  aB ar wc O8 (f := 77) (fn := Tryz.f77) (c := al Tryz.f77) (by kernel_rfl) (by kernel_rfl) (by kernel_rfl) (S := gK) (k := 0) (by kernel_rfl) (fun R hR => ag) (n := 1000) (sel := Ka) (fun v o h => by cases h; rfl) (pre := pre) (F := F) (T := fun x => qA (x.1.1) (x.1.2.1) (x.1.2.2.1)) (fun x Q => ajY x Q) hF
theorem aah {p A B r s : Nat} (h : r * s * r % p = 1 % p) : A * B * r % p * s * r % p = A * B % p := by
  have e : A * B * r * (s * r) = A * B * (r * s * r) := by
    rw [Nat.mul_assoc (A * B) r (s * r), Nat.mul_assoc r s r]
  rw [Nat.mul_assoc, Nat.mul_mod, Nat.mod_mod, ← Nat.mul_mod, e, Nat.mul_mod, h, ← Nat.mul_mod, Nat.mul_one]
theorem afQ {n : HK} (h : gI n = true) : aeF n * n.2.2.2.2.nat * aeF n % n.1.nat = 1 % n.1.nat := by
  rcases fw h with rfl | rfl <;> decide +kernel
theorem alI : gI (bJ 2) = true := by decide +kernel
theorem alH : gI (bJ 3) = true := by decide +kernel
theorem aaJ {n : HK} (h : gI n = true) : mf n = true := by
  rcases fw h with rfl | rfl <;> decide +kernel
theorem wN {n : HK} {a b : ab} {m : UInt64} (hn0 : mf n = true) (h1 : n.1 = ⟨m, 0, 0, 0⟩) (h2 : n.2.2.1 = m) (hs : dU m = true) : (qA n a b).run = some ⟨lI, ((bG n.1.nat a b, ()), ())⟩ := by
  have hm := im hs
  have hb' : m.toNat ≤ 16521217 := by rcases cV hs with rfl | rfl <;> decide
  have hn : n.1.nat = m.toNat := by rw [h1]; show m.toNat + _ * (0 + _ * (0 + _ * 0)) = _; omega
  have hz : (!(n.2.2.1 == 0)) = true := by
    rw [h2]
    rcases cV hs with rfl | rfl <;> rfl
  have ha := Nat.mod_lt a.nat hm
  have hb := Nat.mod_lt b.nat hm
  have hab : a.nat % m.toNat * (b.nat % m.toNat) < 18446744073709551616 := by
    have : a.nat % m.toNat * (b.nat % m.toNat) ≤ 16521217 * 16521217 := Nat.mul_le_mul (by omega) (by omega)
    omega
  have e : UInt64.ofNat (a.nat % m.toNat) * UInt64.ofNat (b.nat % m.toNat) % m = UInt64.ofNat (a.nat * b.nat % m.toNat) := by
    have hlt := Nat.mod_lt (a.nat * b.nat) hm
    rw [← UInt64.toNat_inj, UInt64.toNat_mod, UInt64.toNat_mul, UInt64.toNat_ofNat', UInt64.toNat_ofNat', UInt64.toNat_ofNat', Nat.mod_eq_of_lt (a := a.nat % m.toNat) (by omega), Nat.mod_eq_of_lt (a := b.nat % m.toNat) (by omega),
      Nat.mod_eq_of_lt (a := a.nat % m.toNat * (b.nat % m.toNat)) (by omega), Nat.mod_eq_of_lt (a := a.nat * b.nat % m.toNat) (by omega), ← Nat.mul_mod]
  have hlt := Nat.mod_lt (a.nat * b.nat) hm
  unfold qA
  refine (aj ?_).trans ((OT.ap hz).trans ((aj ?_).trans ?_))
  · simp only [List.all_cons, List.all_nil, Bool.and_true, Bool.and_eq_true]
    exact ⟨hn0, hn0⟩
  · simp only [hz, List.all_cons, List.all_nil, Bool.and_true]
  · unfold bG
    rw [hn, mV (n := a.nat * b.nat % m.toNat) (by omega), ← e]
    show some (⟨lI, ((⟨UInt64.ofNat (a.nat % m.toNat) * UInt64.ofNat (b.nat % m.toNat) % n.2.2.1, 0, 0, 0⟩, ()), ())⟩ : gK.Y) = _
    rw [h2]
theorem AO {n : HK} {a b : ab} (h : gI n = true) (h2 : n.2.2.1 = 0) : (qA n a b).run = some ⟨lI, ((bG n.1.nat a b, ()), ())⟩ := by
  have hn0 := aaJ h
  have hp := sf hn0
  have hz : (!(n.2.2.1 == 0)) = false := by rw [h2]; rfl
  have e1 : (ofN (a.nat % n.1.nat)).nat = a.nat % n.1.nat := eh hp
  have e2 : (ofN (b.nat % n.1.nat)).nat = b.nat % n.1.nat := eh hp
  have e3 : (ofN (a.nat % n.1.nat * (b.nat % n.1.nat) * aeF n % n.1.nat)).nat = a.nat % n.1.nat * (b.nat % n.1.nat) * aeF n % n.1.nat := eh hp
  unfold qA
  refine (aj ?_).trans ((OT.au hz).trans ((aj ?_).trans ?_))
  · simp only [List.all_cons, List.all_nil, Bool.and_true, Bool.and_eq_true]
    exact ⟨hn0, hn0⟩
  · simp only [List.all_cons, List.all_nil, Bool.and_true, Bool.and_eq_true, nh, h, true_and, e1, e2, e3]
    exact ⟨Nat.ble_eq_true_of_le (Nat.mod_lt _ hp.1), Nat.ble_eq_true_of_le (Nat.mod_lt _ hp.1)⟩
  · simp only [e1, e2, e3, aah (afQ h), bG, ← Nat.mul_mod]
    rfl
def nl (x : Ej) : Bool := mf x.1.1
def aa3 (x : Ej) : OT gK.Y := .ok ⟨lI, ((bG x.1.1.1.nat x.1.2.1 x.1.2.2.1, ()), ())⟩
theorem afZ : ac Tryz.prog 77 (gK.aD nl aa3) := VH _ _ fun x oy hp ho => by
  rw [← ho]
  clear ho
  obtain ⟨⟨n, a, b, ⟨⟩⟩, ⟨⟩⟩ := x
  have hp' : mf n = true := hp
  rcases ql hp' with rfl | rfl | rfl | rfl
  · exact wN hp' (m := 16513537) rfl rfl rfl
  · exact wN hp' (m := 16521217) rfl rfl rfl
  · exact AO alI rfl
  · exact AO alH rfl
def vt : cv := (gK.aD nl aa3)
theorem NZ : ac Tryz.prog 77 vt := afZ
theorem NY : aF vt := az
def Cg : Env := ay 77 vt B8
theorem wg : aQ Tryz.prog Cg := ah NZ wc
theorem xw : av Cg := ae NY xu
theorem Pa : aV Tryz.prog te Cg := aJ follows ar wg xw
def nk : ao := ⟨[.val false .int, .val true .elem, .val true .elem], [], true, 0, false⟩
abbrev VG : Type := ((Int) × (ab) × (ab) × Unit) × (Unit)
def AN : aw := ⟨[.val true .elem], [], false⟩
def SZ : SV → Option aw := fun _ => some AN
def aa2 (a0 : Int) (a1 : ab) (a2 : ab) : OT nk.Y :=
  let z0 : ab × Int × UInt64 × UInt64 × ab := bJ (Int.toNat a0)
  (.br (ak a0)
  (gd [nl ((z0, a1, a2, ()), ())] (.ok ⟨AN, ((bG (ab.nat z0.fst) a1 a2, ()), ())⟩))
  (.ok ⟨AN, (({ w0 := 0, w1 := 0, w2 := 0, w3 := 0 }, ()), ())⟩))
theorem alR (x : VG) (Q : nk.Y → Prop) : wpf te Cg ax 1000 Tryz.f42 (nk.inp.inj x).tm (nk.inp.inj x).hp (fnK nk SZ Q) (fun _ _ => False) = (aa2 (x.1.1) (x.1.2.1) (x.1.2.2.1)).wpR Q := by kernel_rfl
theorem aa1 (pre : VG → Bool) (F : VG → OT nk.Y) (hF : ∀ (x : VG) oy, pre x = true → (F x).run = some oy → (aa2 (x.1.1) (x.1.2.1) (x.1.2.2.1)).run = some oy) : ac Tryz.prog 42 (nk.aD pre F) :=
  aB ar wg Pa (f := 42) (fn := Tryz.f42) (c := al Tryz.f42) (by kernel_rfl) (by kernel_rfl) (by kernel_rfl) (S := nk) (k := 0) (by kernel_rfl) (fun R hR => ag) (n := 1000) (sel := SZ) (fun v o h => by cases h; rfl) (pre := pre) (F := F) (T := fun x => aa2 (x.1.1) (x.1.2.1) (x.1.2.2.1)) (fun x Q => alR x Q) hF
def S1 (_ : VG) : Bool := true
def ag5 (x : VG) : OT nk.Y := .br (ak x.1.1) (.ok ⟨AN, ((bG (pS x.1.1) x.1.2.1 x.1.2.2.1, ()), ())⟩) (.ok ⟨AN, ((⟨0, 0, 0, 0⟩, ()), ())⟩)
theorem ajX : ac Tryz.prog 42 (nk.aD S1 ag5) := aa1 _ _ fun x oy hp ho => by
  rw [← ho]
  clear ho
  obtain ⟨⟨s, a, b, ⟨⟩⟩, ⟨⟩⟩ := x
  cases hs : ak s
  · exact (OT.au hs).trans (OT.au (b := ak s) hs).symm
  · refine (OT.ap hs).trans ((aj ?_).trans (OT.ap (b := ak s) hs).symm)
    simp only [List.all_cons, List.all_nil, Bool.and_true]
    exact oD hs
def AM : cv := (nk.aD S1 ag5)
theorem VF : ac Tryz.prog 42 AM := ajX
theorem VE : aF AM := az
def Lq : Env := ay 42 AM Cg
theorem Ce : aQ Tryz.prog Lq := ah VF wg
theorem Cf : av Lq := ae VE xw
theorem WK : aV Tryz.prog te Lq := aJ follows ar Ce Cf
def jf : ao := ⟨[.val true .elem], [], true, 0, false⟩
abbrev Eo : Type := ((ab) × Unit) × (Unit)
def GK : aw := ⟨[.val true .elem], [], false⟩
def Kg : SV → Option aw := fun _ => some GK
def N5 (a0 : ab) : OT jf.Y :=
  (.ok ⟨GK, (({ w0 := bl a0.w0 (1 : Int) ||| cj a0.w1 (63 : Int), w1 := bl a0.w1 (1 : Int) ||| cj a0.w2 (63 : Int), w2 := bl a0.w2 (1 : Int) ||| cj a0.w3 (63 : Int), w3 := bl a0.w3 (1 : Int) }, ()), ())⟩)
theorem aj2 (x : Eo) (Q : jf.Y → Prop) : wpf te Lq ax 1000 Tryz.f138 (jf.inp.inj x).tm (jf.inp.inj x).hp (fnK jf Kg Q) (fun _ _ => False) = (N5 (x.1.1)).wpR Q := by kernel_rfl
theorem VS (pre : Eo → Bool) (F : Eo → OT jf.Y) (hF : ∀ (x : Eo) oy, pre x = true → (F x).run = some oy → (N5 (x.1.1)).run = some oy) : ac Tryz.prog 138 (jf.aD pre F) :=
  aB ar Ce WK (f := 138) (fn := Tryz.f138) (c := al Tryz.f138) (by kernel_rfl) (by kernel_rfl) (by kernel_rfl) (S := jf) (k := 0) (by kernel_rfl) (fun R hR => ag) (n := 1000) (sel := Kg) (fun v o h => by cases h; rfl) (pre := pre) (F := F) (T := fun x => N5 (x.1.1)) (fun x Q => aj2 x Q) hF
theorem As (x y : UInt64) : (bl x 1 ||| cj y 63).toNat = x.toNat / 2 + 9223372036854775808 * (y.toNat % 2) := by
  have hx := x.toNat_lt
  have e1 : (bl x 1).toNat = x.toNat / 2 := eX x 1 (by omega)
  have e2 : (cj y 63).toNat = 9223372036854775808 * (y.toNat % 2) := by
    have := j9 y 63 (by omega)
    have e : (cj y 63).toNat = y.toNat * 2 ^ 63 % 2 ^ 64 := this
    rw [e]
    omega
  rw [UInt64.toNat_or, e1, e2, Nat.or_comm]
  have := Nat.two_pow_add_eq_or_of_lt (i := 63) (b := x.toNat / 2) (by omega) (y.toNat % 2)
  rw [Nat.add_comm]
  exact this.symm
theorem Au (x N : Nat) : (x + 18446744073709551616 * N) / 2 = (x / 2 + 9223372036854775808 * (N % 2)) + 18446744073709551616 * (N / 2) := by
  omega
theorem NF (y N : Nat) : (y + 18446744073709551616 * N) % 2 = y % 2 := by
  omega
def ej (a : ab) : ab := ofN (a.nat / 2)
theorem SK (a : ab) : ej a = ⟨bl a.w0 1 ||| cj a.w1 63, bl a.w1 1 ||| cj a.w2 63, bl a.w2 1 ||| cj a.w3 63, bl a.w3 1⟩ := by
  refine ZY (k := 0) ?_
  rw [As, As, As, Nat.mul_zero, Nat.add_zero]
  unfold Sx.ab.nat
  have e3 : (bl a.w3 1).toNat = a.w3.toNat / 2 := eX a.w3 1 (by omega)
  rw [Au, NF, Au, NF, Au, e3]
def Kh (_ : Eo) : Bool := true
def N6 (x : Eo) : OT jf.Y := .ok ⟨GK, ((ej x.1.1, ()), ())⟩
theorem af0 : ac Tryz.prog 138 (jf.aD Kh N6) := VS _ _ fun x oy hp ho => by
  rw [← ho]
  clear ho
  obtain ⟨⟨a, ⟨⟩⟩, ⟨⟩⟩ := x
  simp only [N6, SK]
  rfl
def vu : cv := (jf.aD Kh N6)
theorem N4 : ac Tryz.prog 138 vu := af0
theorem N3 : aF vu := az
def wi : Env := ay 138 vu Lq
theorem ph : aQ Tryz.prog wi := ah N4 Ce
theorem xx : av wi := ae N3 Cf
theorem Cm : aV Tryz.prog te wi := aJ follows ar ph xx
def dA : ao := ⟨[.val true .elem, .val false .int], [], true, 0, false⟩
abbrev oT : Type := ((ab) × (Int) × Unit) × (Unit)
def kJ : Shape := ⟨12, [(2, .ptr 0 0 0), (4, .ptr 1 0 0), (5, .val false .int), (6, .val false .int)], [(0, .row .u64), (1, .row .u64)], 0, true⟩
abbrev bC : Type := ((Unit) × (Unit) × (Int) × (Int) × Unit) × ((List (UInt64)) × (List (UInt64)) × Unit)
def jO : Shape := ⟨12, [(2, .ptr 0 0 0), (4, .ptr 1 0 0)], [(0, .row .u64), (1, .row .u64)], 0, true⟩
abbrev fy : Type := ((Unit) × (Unit) × Unit) × ((List (UInt64)) × (List (UInt64)) × Unit)
def Em : SE → Option Shape := jt [(0, jO)] none
def VR (a5 : Int) (a6 : Int) (c0 : List (UInt64)) (c1 : List (UInt64)) : OT (Sum bC aL) :=
  let z0 : Nat := List.length c0
  let z1 : ab := ej { w0 := List.getD c0 0 0, w1 := List.getD c0 1 0, w2 := List.getD c0 2 0, w3 := List.getD c0 3 0 }
  (.br (decide (a6 < a5))
  (gd [decide (4 ≤ z0), decide ((4 / 1 : Nat) + 0 ≤ z0), inR (a6 + (1 : Int))] (.ok (.inl (((), ((), (a5, (a6 + (1 : Int), ())))), (List.set (List.set (List.set (List.set c0 0 z1.w0) 1 z1.w1) 2 z1.w2) 3 z1.w3, (c1, ()))))))
  (.ok (.inr ⟨(.exit 0, jO), (((), ((), ())), (c0, (c1, ())))⟩)))
def kL (s : bC) : OT (Sum bC aL) := VR (s.1.2.2.1) (s.1.2.2.2.1) (s.2.1) (s.2.2.1)
theorem VO (s : bC) (Q : Sum bC aL → Prop) : wps te wi ax 1000 (bE (al Tryz.f136) 0) (kJ.inj s) (cM kJ Em (Q : Sum kJ.T aL → Prop)) = (kL s).wpR Q := by kernel_rfl
def oS (g0_0 : bC → fy) (s : bC) : OT aL := (.ok ⟨(.exit 0, jO), g0_0 s⟩)
def kK : aw := ⟨[.val true .elem], [], false⟩
def AV : SV → Option aw := fun _ => some kK
def AY (ok0 : bC → Bool) (g0_0 : bC → fy) (a0 : ab) (a1 : Int) : OT dA.Y :=
  let z0 : (PUnit × PUnit × Int × Int × PUnit) × List UInt64 × List UInt64 × PUnit := (((), (), a1, (0 : Int), ()), [a0.w0, a0.w1, a0.w2, a0.w3], [(0 : UInt64), (0 : UInt64), (0 : UInt64), (0 : UInt64)], ())
  let z1 := (g0_0 z0).snd
  let z2 := z1.fst
  let z3 := z1.snd.fst
  let z4 : List UInt64 := lay z3 z2 4 (0 : UInt64)
  (gd [ok0 z0, decide (4 ≤ List.length z2), decide ((4 / 1 : Nat) + 0 ≤ List.length z3), decide (4 ≤ List.length z4)] (.ok ⟨kK, (({ w0 := List.getD z4 0 0, w1 := List.getD z4 1 0, w2 := List.getD z4 2 0, w3 := List.getD z4 3 0 }, ()), ())⟩))
theorem aa8 (ok0 : bC → Bool) (g0_0 : bC → fy) (x : oT) (Q : dA.Y → Prop) : wpf te wi (bg 0 (db kJ 0 ok0 (oS g0_0)) ax) 1000 Tryz.f136 (dA.inp.inj x).tm (dA.inp.inj x).hp (fnK dA AV Q) (fun _ _ => False) = (AY ok0 g0_0 (x.1.1) (x.1.2.1)).wpR Q := by kernel_rfl
theorem Ke (ok0 : bC → Bool) (g0_0 : bC → fy) (h0 : ∀ s : bC, ok0 s = true → ∃ m e, aq (kL) m s = some e ∧ (oS g0_0 s).run = some e) (pre : oT → Bool) (F : oT → OT dA.Y) (hF : ∀ (x : oT) oy, pre x = true → (F x).run = some oy → (AY ok0 g0_0 (x.1.1) (x.1.2.1)).run = some oy) : ac Tryz.prog 136 (dA.aD pre F) :=
  aB ar ph Cm (f := 136) (fn := Tryz.f136) (c := al Tryz.f136) (by kernel_rfl) (by kernel_rfl) (by kernel_rfl) (S := dA) (k := 0) (by kernel_rfl) (fun R hR => (aC (c := (al Tryz.f136)) (by kernel_rfl) (id := 0) (by kernel_rfl) (bo ar ph Cm (sh := kJ) hR (xs := Em) (aE (by kernel_rfl) (by kernel_rfl) hR) aS ag (n := 1000) (T := kL) (fun s Q => VO s Q) (ok := ok0) (f := oS g0_0) h0) ag)) (n := 1000) (sel := AV) (fun v o h => by cases h; rfl) (pre := pre) (F := F) (T := fun x => AY ok0 g0_0 (x.1.1) (x.1.2.1)) (fun x Q => aa8 ok0 g0_0 x Q) hF
def dV (a : ab) (n : Nat) : ab := ofN (a.nat / 2 ^ n)
theorem qw (a : ab) : ∀ n, upto (fun _ e => ej e) a n = dV a n
  | 0 => by
    show a = ofN (a.nat / 2 ^ 0)
    rw [Nat.pow_zero, Nat.div_one, oC]
  | n + 1 => by
    show ej (upto (fun _ e => ej e) a n) = _
    rw [qw a n]
    unfold ej dV
    have := iP a
    have h2 : a.nat / 2 ^ n ≤ a.nat := Nat.div_le_self _ _
    rw [iO (by omega), Nat.div_div_eq_div_mul, ← Nat.pow_succ]
def AX (s : bC) : Bool := decide (s.1.2.2.2.1 = 0 ∧ 0 ≤ s.1.2.2.1 ∧ s.1.2.2.1 ≤ 1000000 ∧ s.2.1.length = 4)
def En (s : bC) : fy := (((), (), ()), (lst (dV (elemOf s.2.1) s.1.2.2.1.toNat), s.2.2.1, ()))
theorem VQ : ∀ s : bC, AX s = true → ∃ m e, aq kL m s = some e ∧ (oS En s).run = some e := by
  rintro ⟨⟨⟨⟩, ⟨⟩, k, i, ⟨⟩⟩, ⟨l, o, ⟨⟩⟩⟩ h
  have h' := of_decide_eq_true h
  dsimp only at h'
  obtain ⟨rfl, h0, h1, hl⟩ := h'
  obtain ⟨a, rfl⟩ : ∃ a, l = lst a := ⟨elemOf l, (aZ hl).symm⟩
  have := (bN (T := kL) (fun i a => ((((), (), k, (i : Int), ()), (lst a, o, ())) : bC)) (fun _ e => ej e)
    (fun a => (⟨(.exit 0, jO), (((), (), ()), (lst a, o, ()))⟩ : aL)) k.toNat a (fun _ _ => True) trivial (fun i a hi _ => ⟨?_, trivial⟩) (fun a _ => ?_)).1
  · rw [qw] at this
    obtain ⟨m, hm⟩ := this
    exact ⟨m, _, hm, rfl⟩
  · refine (OT.ap (decide_eq_true (by dsimp only; omega))).trans ((aj ?_).trans rfl)
    simp only [List.all_cons, List.all_nil, Bool.and_true, Bool.and_eq_true]
    exact ⟨rfl, rfl, bz (by omega)⟩
  · exact OT.au (decide_eq_false (by dsimp only; omega))
def AW (x : oT) : Bool := decide (0 ≤ x.1.2.1 ∧ x.1.2.1 ≤ 1000000)
def Kf (x : oT) : OT dA.Y := .ok ⟨kK, ((dV x.1.1 x.1.2.1.toNat, ()), ())⟩
theorem VP : ac Tryz.prog 136 (dA.aD AW Kf) := Ke AX En VQ _ _ fun x oy hp ho => by
  rw [← ho]
  clear ho
  obtain ⟨⟨a, k, ⟨⟩⟩, ⟨⟩⟩ := x
  have hp' : 0 ≤ k ∧ k ≤ 1000000 := of_decide_eq_true hp
  refine (aj ?_).trans ?_
  · simp only [List.all_cons, List.all_nil, Bool.and_true, Bool.and_eq_true]
    exact ⟨decide_eq_true ⟨rfl, hp'.1, hp'.2, rfl⟩, rfl, rfl, rfl⟩
  · show some (⟨kK, ((elemOf (lay [0, 0, 0, 0] (lst (dV a k.toNat)) 4 0), ()), ())⟩ : dA.Y) = some ⟨kK, ((dV a k.toNat, ()), ())⟩
    rw [akJ _ _ rfl rfl]
    rfl
def nt : cv := (dA.aD AW Kf)
theorem GJ : ac Tryz.prog 136 nt := VP
theorem GI : aF nt := az
def kY : Env := ay 136 nt wi
theorem jT : aQ Tryz.prog kY := ah GJ ph
theorem pG : av kY := ae GI xx
theorem tF : aV Tryz.prog te kY := aJ follows ar jT pG
end Go.Proofs.YtohjofabochgfaaGreat

namespace Go.Proofs.YtohjofabochgfaaGreat
open Sx Go
def cr (k : ab) : Bool := (k.w0 == 0 && (k.w1 == 0 && (k.w2 == 0 && (k.w3 == 0 && true))))
def ami (k : ab) : Bool := (k.w0 &&& 1 == 1)
theorem yw (k : ab) : cr k = Nat.beq k.nat 0 := by
  unfold cr Sx.ab.nat
  have e : ∀ x : UInt64, (x == 0) = decide (x.toNat = 0) := fun x => by
    by_cases h : x = 0
    · subst h; rfl
    · have h' : ¬ x.toNat = 0 := fun h' => h (UInt64.toNat_inj.1 h')
      rw [decide_eq_false h']
      simpa using h
  rw [e, e, e, e]
  generalize k.w0.toNat = a
  generalize k.w1.toNat = b
  generalize k.w2.toNat = c
  generalize k.w3.toNat = d
  by_cases h : a = 0 ∧ b = 0 ∧ c = 0 ∧ d = 0
  · obtain ⟨rfl, rfl, rfl, rfl⟩ := h
    rfl
  · have h1 : ¬ (a + 18446744073709551616 * (b + 18446744073709551616 * (c + 18446744073709551616 * d)) = 0) := fun h1 => h (by omega)
    have h2 : Nat.beq (a + 18446744073709551616 * (b + 18446744073709551616 * (c + 18446744073709551616 * d))) 0 = false := by
      cases hb : Nat.beq (a + 18446744073709551616 * (b + 18446744073709551616 * (c + 18446744073709551616 * d))) 0
      · rfl
      · exact absurd (Nat.eq_of_beq_eq_true hb) h1
    rw [h2]
    by_cases ha : a = 0
    · by_cases hb : b = 0
      · by_cases hc : c = 0
        · have hd : ¬ d = 0 := fun hd => h ⟨ha, hb, hc, hd⟩
          simp [hd]
        · simp [hc]
      · simp [hb]
    · simp [ha]
theorem afr (k : ab) : ami k = Nat.beq (k.nat % 2) 1 := by
  have e : (k.w0 &&& 1).toNat = k.w0.toNat % 2 := by
    rw [UInt64.toNat_and]
    exact Nat.and_two_pow_sub_one_eq_mod k.w0.toNat 1
  have e2 : k.nat % 2 = k.w0.toNat % 2 := by
    unfold Sx.ab.nat
    rw [NF]
  rw [e2, ← e]
  unfold ami
  by_cases h : k.w0 &&& 1 = 1
  · rw [h]; rfl
  · have h' : ¬ (k.w0 &&& 1).toNat = 1 := fun h' => h (UInt64.toNat_inj.1 h')
    have h2 : Nat.beq (k.w0 &&& 1).toNat 1 = false := by
      cases hb : Nat.beq (k.w0 &&& 1).toNat 1
      · rfl
      · exact absurd (Nat.eq_of_beq_eq_true hb) h'
    rw [h2]
    simpa using h
theorem JY (k : ab) : (ej k).nat = k.nat / 2 := by
  have := iP k
  exact iO (by omega)
def afj (p : Nat) : Nat → ab → ab → ab → ab
  | 0, o, _, _ => o
  | n + 1, o, x, k => cond (cr k) o (afj p n (cond (ami k) (bG p o x) o) (bG p x x) (ej k))
def agO (p : Nat) : Nat → Nat → Nat → Nat → Nat
  | 0, o, _, _ => o
  | n + 1, o, x, k => cond (Nat.beq k 0) o (agO p n (cond (Nat.beq (k % 2) 1) (o * x % p) o) (x * x % p) (k / 2))
theorem ZK {p : Nat} (hp : 0 < p ∧ p < 57896044618658097711785492504343953926634992332820282019728792003956564819968) : ∀ (n : Nat) (o x k : ab), afj p n o x k = ofN (agO p n o.nat x.nat k.nat)
  | 0, o, x, k => (oC o).symm
  | n + 1, o, x, k => by
    have e : ∀ a b : ab, (bG p a b).nat = a.nat * b.nat % p := fun a b => eh hp
    simp only [afj, agO, yw, afr]
    cases Nat.beq k.nat 0
    · simp only [cond_false]
      rw [ZK hp n, e, JY]
      cases Nat.beq (k.nat % 2) 1
      · rfl
      · simp only [cond_true, e]
    · simp only [cond_true]
      exact (oC o).symm
def tX (p : Nat) (a k : ab) : ab := cond (Nat.beq p 0) ⟨0, 0, 0, 0⟩ (ofN (agO p 256 1 (a.nat % p) k.nat))
theorem GP {p : Nat} (hp : 0 < p) (a k : ab) : tX p a k = ofN (agO p 256 1 (a.nat % p) k.nat) := by
  unfold tX
  cases p with
  | zero => exact absurd hp (Nat.lt_irrefl _)
  | succ p => rfl
end Go.Proofs.YtohjofabochgfaaGreat

namespace Go.Proofs.YtohjofabochgfaaGreat
open Sx Go
set_option maxRecDepth 100000
def nu : ao := ⟨[.val false .int, .val true .elem, .val true .elem], [], true, 0, false⟩
abbrev VV : Type := ((Int) × (ab) × (ab) × Unit) × (Unit)
def A0 : Shape := ⟨40, [(4, .ptr 0 0 0), (5, .ptr 1 0 0), (6, .ptr 2 0 0), (7, .ptr 3 0 0), (9, .ptr 4 0 0)], [(0, .row .u64), (1, .row .u64), (2, .row .u64), (3, .cells [.val false .u64, .val false .u64, .val false .u64, .val false .u64, .val false .int, .val false .u64, .val false .u64, .val false .u64, .val false .u64, .val false .u64, .val false .u64]), (4, .row .u64)], 0, true⟩
abbrev cJ : Type := ((Unit) × (Unit) × (Unit) × (Unit) × (Unit) × Unit) × ((List (UInt64)) × (List (UInt64)) × (List (UInt64)) × ((UInt64) × (UInt64) × (UInt64) × (UInt64) × (Int) × (UInt64) × (UInt64) × (UInt64) × (UInt64) × (UInt64) × (UInt64) × Unit) × (List (UInt64)) × Unit)
def sL : Shape := ⟨40, [(6, .ptr 0 0 0), (9, .ptr 1 0 0)], [(0, .row .u64), (1, .row .u64)], 0, true⟩
abbrev kM : Type := ((Unit) × (Unit) × Unit) × ((List (UInt64)) × (List (UInt64)) × Unit)
def aa9 : SE → Option Shape := jt [(0, sL)] none
def aj6 (c0 : List (UInt64)) (c1 : List (UInt64)) (c2 : List (UInt64)) (c3_0 : UInt64) (c3_1 : UInt64) (c3_2 : UInt64) (c3_3 : UInt64) (c3_4 : Int) (c3_5 : UInt64) (c3_6 : UInt64) (c3_7 : UInt64) (c3_8 : UInt64) (c3_9 : UInt64) (c3_10 : UInt64) (c4 : List (UInt64)) : OT (Sum cJ aL) :=
  let z0 : Nat := List.length c1
  let z1 : Bool := decide (4 ≤ z0)
  let z2 : UInt64 := List.getD c1 0 0
  let z3 : UInt64 := List.getD c1 1 0
  let z4 : UInt64 := List.getD c1 2 0
  let z5 : UInt64 := List.getD c1 3 0
  let z6 : Nat := List.length c4
  let z7 : Nat := List.length c0
  let z8 : Bool := decide (4 ≤ z7)
  let z9 : ab := { w0 := c3_0, w1 := c3_1, w2 := c3_2, w3 := c3_3 }
  let z10 : ab × Int × UInt64 × UInt64 × ab := (z9, c3_4, c3_5, c3_6, { w0 := c3_7, w1 := c3_8, w2 := c3_9, w3 := c3_10 })
  let z11 : ab := { w0 := List.getD c4 0 0, w1 := List.getD c4 1 0, w2 := List.getD c4 2 0, w3 := List.getD c4 3 0 }
  let z12 : ab := { w0 := List.getD c0 0 0, w1 := List.getD c0 1 0, w2 := List.getD c0 2 0, w3 := List.getD c0 3 0 }
  let z13 : ab × PUnit := (z12, ())
  let z14 : Bool := nl ((z10, z12, z13), ())
  let z15 : Bool := decide ((4 / 1 : Nat) + 0 ≤ z7)
  let z16 : Bool := decide ((4 / 1 : Nat) + 0 ≤ z0)
  let z17 : Nat := ab.nat z9
  let z18 : ab := bG z17 z12 z12
  let z19 : List UInt64 := List.set (List.set (List.set (List.set c0 0 z18.w0) 1 z18.w1) 2 z18.w2) 3 z18.w3
  let z20 : ab := ej { w0 := z2, w1 := z3, w2 := z4, w3 := z5 }
  let z21 : List UInt64 := List.set (List.set (List.set (List.set c1 0 z20.w0) 1 z20.w1) 2 z20.w2) 3 z20.w3
  let z22 : ab := bG z17 z11 z12
  (gd [z1] (.br (!(z2 == (0 : UInt64) && (z3 == (0 : UInt64) && (z4 == (0 : UInt64) && (z5 == (0 : UInt64) && true)))))
  (gd [decide (0 < z0)] (.br (z2 &&& (1 : UInt64) == (1 : UInt64))
    (gd [decide (4 ≤ z6), z8, nl ((z10, z11, z13), ()), decide ((4 / 1 : Nat) + 0 ≤ z6), z8, z8, z14, z15, z1, z16] (.ok (.inl (((), ((), ((), ((), ((), ()))))), (z19, (z21, (c2, ((c3_0, (c3_1, (c3_2, (c3_3, (c3_4, (c3_5, (c3_6, (c3_7, (c3_8, (c3_9, (c3_10, ()))))))))))), (List.set (List.set (List.set (List.set c4 0 z22.w0) 1 z22.w1) 2 z22.w2) 3 z22.w3, ())))))))))
    (gd [z8, z8, z14, z15, z1, z16] (.ok (.inl (((), ((), ((), ((), ((), ()))))), (z19, (z21, (c2, ((c3_0, (c3_1, (c3_2, (c3_3, (c3_4, (c3_5, (c3_6, (c3_7, (c3_8, (c3_9, (c3_10, ()))))))))))), (c4, ())))))))))))
  (.ok (.inr ⟨(.exit 0, sL), (((), ((), ())), (c2, (c4, ())))⟩))))
def A2 (s : cJ) : OT (Sum cJ aL) := aj6 (s.2.1) (s.2.2.1) (s.2.2.2.1) (s.2.2.2.2.1.1) (s.2.2.2.2.1.2.1) (s.2.2.2.2.1.2.2.1) (s.2.2.2.2.1.2.2.2.1) (s.2.2.2.2.1.2.2.2.2.1) (s.2.2.2.2.1.2.2.2.2.2.1) (s.2.2.2.2.1.2.2.2.2.2.2.1) (s.2.2.2.2.1.2.2.2.2.2.2.2.1) (s.2.2.2.2.1.2.2.2.2.2.2.2.2.1) (s.2.2.2.2.1.2.2.2.2.2.2.2.2.2.1) (s.2.2.2.2.1.2.2.2.2.2.2.2.2.2.2.1) (s.2.2.2.2.2.1)
theorem aj3 (s : cJ) (Q : Sum cJ aL → Prop) : wps te kY ax 1000 (bE (al Tryz.f137) 0) (A0.inj s) (cM A0 aa9 (Q : Sum A0.T aL → Prop)) = (A2 s).wpR Q := by kernel_rfl
def GM (g0_0 : cJ → kM) (s : cJ) : OT aL := (.ok ⟨(.exit 0, sL), g0_0 s⟩)
def A1 : aw := ⟨[.val true .elem], [], false⟩
def S8 : SV → Option aw := fun _ => some A1
def abd (ok0 : cJ → Bool) (g0_0 : cJ → kM) (a0 : Int) (a1 : ab) (a2 : ab) : OT nu.Y :=
  let z0 : ab × Int × UInt64 × UInt64 × ab := bJ (Int.toNat a0)
  let z1 := z0.fst
  let z2 : ab := ofN (ab.nat a1 % ab.nat z1)
  let z3 := z0.snd
  let z4 := z3.snd
  let z5 := z4.snd
  let z6 := z5.snd
  let z7 : (PUnit × PUnit × PUnit × PUnit × PUnit × PUnit) × List UInt64 × List UInt64 × List UInt64 × (UInt64 × UInt64 × UInt64 × UInt64 × Int × UInt64 × UInt64 × UInt64 × UInt64 × UInt64 × UInt64 × PUnit) × List UInt64 × PUnit := (((), (), (), (), (), ()), [z2.w0, z2.w1, z2.w2, z2.w3], [a2.w0, a2.w1, a2.w2, a2.w3], [(0 : UInt64), (0 : UInt64), (0 : UInt64), (0 : UInt64)], (z1.w0, z1.w1, z1.w2, z1.w3, z3.fst, z4.fst, z5.fst, z6.w0, z6.w1, z6.w2, z6.w3, ()), [(1 : UInt64), (0 : UInt64), (0 : UInt64), (0 : UInt64)], ())
  let z8 := (g0_0 z7).snd
  let z9 := z8.snd.fst
  let z10 := z8.fst
  let z11 : List UInt64 := lay z10 z9 4 (0 : UInt64)
  (.br (ak a0)
  (gd [fx ((z0, a1, ()), ()), ok0 z7, decide (4 ≤ List.length z9), decide ((4 / 1 : Nat) + 0 ≤ List.length z10), decide (4 ≤ List.length z11)] (.ok ⟨A1, (({ w0 := List.getD z11 0 0, w1 := List.getD z11 1 0, w2 := List.getD z11 2 0, w3 := List.getD z11 3 0 }, ()), ())⟩))
  (.ok ⟨A1, (({ w0 := 0, w1 := 0, w2 := 0, w3 := 0 }, ()), ())⟩))
theorem alU (ok0 : cJ → Bool) (g0_0 : cJ → kM) (x : VV) (Q : nu.Y → Prop) : wpf te kY (bg 0 (db A0 0 ok0 (GM g0_0)) ax) 1000 Tryz.f137 (nu.inp.inj x).tm (nu.inp.inj x).hp (fnK nu S8 Q) (fun _ _ => False) = (abd ok0 g0_0 (x.1.1) (x.1.2.1) (x.1.2.2.1)).wpR Q := by kernel_rfl
theorem aba (ok0 : cJ → Bool) (g0_0 : cJ → kM) (h0 : ∀ s : cJ, ok0 s = true → ∃ m e, aq (A2) m s = some e ∧ (GM g0_0 s).run = some e) (pre : VV → Bool) (F : VV → OT nu.Y) (hF : ∀ (x : VV) oy, pre x = true → (F x).run = some oy → (abd ok0 g0_0 (x.1.1) (x.1.2.1) (x.1.2.2.1)).run = some oy) : ac Tryz.prog 137 (nu.aD pre F) :=
  aB ar jT tF (f := 137) (fn := Tryz.f137) (c := al Tryz.f137) (by kernel_rfl) (by kernel_rfl) (by kernel_rfl) (S := nu) (k := 0) (by kernel_rfl) (fun R hR => (aC (c := (al Tryz.f137)) (by kernel_rfl) (id := 0) (by kernel_rfl) (bo ar jT tF (sh := A0) hR (xs := aa9) (aE (by kernel_rfl) (by kernel_rfl) hR) aS ag (n := 1000) (T := A2) (fun s Q => aj3 s Q) (ok := ok0) (f := GM g0_0) h0) ag)) (n := 1000) (sel := S8) (fun v o h => by cases h; rfl) (pre := pre) (F := F) (T := fun x => abd ok0 g0_0 (x.1.1) (x.1.2.1) (x.1.2.2.1)) (fun x Q => alU ok0 g0_0 x Q) hF
theorem abb {x0 x1 x2 x3 x5 x6 x7 x8 x9 x10 : UInt64} {x4 : Int} {c2 : List UInt64} (hn : mf (⟨x0, x1, x2, x3⟩, x4, x5, x6, ⟨x7, x8, x9, x10⟩) = true) : ∀ (n : Nat) (o x k : ab), k.nat < 2 ^ n →
    ∃ m, aq A2 m (((), (), (), (), (), ()), (lst x, lst k, c2, (x0, x1, x2, x3, x4, x5, x6, x7, x8, x9, x10, ()), lst o, ())) = some ⟨(.exit 0, sL), (((), (), ()), (c2, lst (afj (ab.mk x0 x1 x2 x3).nat n o x k), ()))⟩ := by
  intro n
  induction n with
  | zero =>
    intro o x k hk
    have hz : (!cr k) = false := by
      rw [yw, show k.nat = 0 by omega]
      rfl
    exact ⟨1, aI ((aj rfl).trans (OT.au hz))⟩
  | succ n ih =>
    intro o x k hk
    cases hz : cr k
    · have hk2 : (ej k).nat < 2 ^ n := by
        rw [JY]
        rw [Nat.pow_succ] at hk
        omega
      have hz' : (!cr k) = true := by rw [hz]; rfl
      cases ho : ami k
      · obtain ⟨m, hm⟩ := ih o (bG (ab.mk x0 x1 x2 x3).nat x x) (ej k) hk2
        simp only [afj, hz, ho, cond_false]
        refine ⟨m + 1, aH ?_ hm⟩
        refine (aj rfl).trans ((OT.ap hz').trans ((aj rfl).trans ((OT.au ho).trans ((aj ?_).trans rfl))))
        simp only [List.all_cons, List.all_nil, Bool.and_true, Bool.and_eq_true]
        exact ⟨rfl, rfl, hn, rfl, rfl, rfl⟩
      · obtain ⟨m, hm⟩ := ih (bG (ab.mk x0 x1 x2 x3).nat o x) (bG (ab.mk x0 x1 x2 x3).nat x x) (ej k) hk2
        simp only [afj, hz, ho, cond_false, cond_true]
        refine ⟨m + 1, aH ?_ hm⟩
        refine (aj rfl).trans ((OT.ap hz').trans ((aj rfl).trans ((OT.ap ho).trans ((aj ?_).trans rfl))))
        simp only [List.all_cons, List.all_nil, Bool.and_true, Bool.and_eq_true]
        exact ⟨rfl, rfl, hn, rfl, rfl, rfl, hn, rfl, rfl, rfl⟩
    · simp only [afj, hz, cond_true]
      have hz' : (!cr k) = false := by rw [hz]; rfl
      exact ⟨1, aI ((aj rfl).trans (OT.au hz'))⟩
def amA (s : cJ) : HK := (⟨s.2.2.2.2.1.1, s.2.2.2.2.1.2.1, s.2.2.2.2.1.2.2.1, s.2.2.2.2.1.2.2.2.1⟩, s.2.2.2.2.1.2.2.2.2.1, s.2.2.2.2.1.2.2.2.2.2.1, s.2.2.2.2.1.2.2.2.2.2.2.1, ⟨s.2.2.2.2.1.2.2.2.2.2.2.2.1, s.2.2.2.2.1.2.2.2.2.2.2.2.2.1, s.2.2.2.2.1.2.2.2.2.2.2.2.2.2.1, s.2.2.2.2.1.2.2.2.2.2.2.2.2.2.2.1⟩)
def GL (s : cJ) : Bool := mf (amA s) && decide (s.2.1.length = 4 ∧ s.2.2.1.length = 4 ∧ s.2.2.2.2.2.1.length = 4)
def abc (s : cJ) : kM := (((), (), ()), (s.2.2.2.1, lst (afj (amA s).1.nat 256 (elemOf s.2.2.2.2.2.1) (elemOf s.2.1) (elemOf s.2.2.1)), ()))
theorem aj5 : ∀ s : cJ, GL s = true → ∃ m e, aq A2 m s = some e ∧ (GM abc s).run = some e := by
  rintro ⟨⟨⟨⟩, ⟨⟩, ⟨⟩, ⟨⟩, ⟨⟩, ⟨⟩⟩, ⟨c0, c1, c2, ⟨x0, x1, x2, x3, x4, x5, x6, x7, x8, x9, x10, ⟨⟩⟩, c4, ⟨⟩⟩⟩ h
  simp only [GL, Bool.and_eq_true, decide_eq_true_eq, amA] at h
  obtain ⟨hn, h0, h1, h4⟩ := h
  obtain ⟨x, rfl⟩ : ∃ a, c0 = lst a := ⟨elemOf c0, (aZ h0).symm⟩
  obtain ⟨k, rfl⟩ : ∃ a, c1 = lst a := ⟨elemOf c1, (aZ h1).symm⟩
  obtain ⟨o, rfl⟩ : ∃ a, c4 = lst a := ⟨elemOf c4, (aZ h4).symm⟩
  obtain ⟨m, hm⟩ := abb (c2 := c2) hn 256 o x k (iP k)
  exact ⟨m, _, hm, rfl⟩
def S9 (_ : VV) : Bool := true
def ag8 (x : VV) : OT nu.Y := .br (ak x.1.1) (.ok ⟨A1, ((tX (pS x.1.1) x.1.2.1 x.1.2.2.1, ()), ())⟩) (.ok ⟨A1, ((⟨0, 0, 0, 0⟩, ()), ())⟩)
theorem af1 {p : Nat} (hp : 0 < p ∧ p < 57896044618658097711785492504343953926634992332820282019728792003956564819968) (a k : ab) : elemOf (lay [0, 0, 0, 0] (lst (afj p 256 ⟨1, 0, 0, 0⟩ (ofN (a.nat % p)) k)) 4 0) = tX p a k := by
  rw [akJ _ _ rfl rfl, V6, ZK hp, eh hp, GP hp.1]
  rfl
theorem aj4 : ac Tryz.prog 137 (nu.aD S9 ag8) := aba GL abc aj5 _ _ fun x oy hp ho => by
  rw [← ho]
  clear ho
  obtain ⟨⟨s, a, k, ⟨⟩⟩, ⟨⟩⟩ := x
  cases hs : ak s
  · exact (OT.au hs).trans (OT.au (b := ak s) hs).symm
  · have hn := oD hs
    have hfin := af1 (mT hs) a k
    have hn2 : mf (bJ s.toNat) = true := hn
    refine (OT.ap hs).trans (Eq.trans ?_ (OT.ap (b := ak s) hs).symm)
    simp only [← hfin]
    refine (aj ?_).trans rfl
    simp only [List.all_cons, List.all_nil, Bool.and_true, Bool.and_eq_true]
    refine ⟨hn, ?_, rfl, rfl, rfl⟩
    show (mf _ && decide _) = true
    rw [Bool.and_eq_true]
    exact ⟨hn, decide_eq_true ⟨rfl, rfl, rfl⟩⟩
def AZ : cv := (nu.aD S9 ag8)
theorem VU : ac Tryz.prog 137 AZ := aj4
theorem VT : aF AZ := az
def Ls : Env := ay 137 AZ kY
theorem Cn : aQ Tryz.prog Ls := ah VU jT
theorem Co : av Ls := ae VT pG
theorem WM : aV Tryz.prog te Ls := aJ follows ar Cn Co
def nr : ao := ⟨[.val false .int, .val true .elem], [], true, 0, false⟩
abbrev VN : Type := ((Int) × (ab) × Unit) × (Unit)
def nq : aw := ⟨[.val true .elem, .val false .int], [], false⟩
def S6 : SV → Option aw := fun _ => some nq
def aa7 (a0 : Int) (a1 : ab) : OT nr.Y :=
  let z0 : Bool := ak a0
  let z1 : ab × Int × UInt64 × UInt64 × ab := bJ (Int.toNat a0)
  let z2 := z1.fst
  let z3 : ab := ofN (ab.nat a1 % ab.nat z2)
  let z4 : ab := { w0 := 0, w1 := 0, w2 := 0, w3 := 0 }
  (.br (z0)
  (gd [fx ((z1, a1, ()), ())] (.br (z3.w0 == (0 : UInt64) && (z3.w1 == (0 : UInt64) && (z3.w2 == (0 : UInt64) && (z3.w3 == (0 : UInt64) && true))))
    (.ok ⟨nq, ((z4, ((10 : Int), ())), ())⟩)
    (.br (z0)
      (.ok ⟨nq, ((tX (pS a0) a1 (jV z2 { w0 := 2, w1 := 0, w2 := 0, w3 := 0 }).fst, ((0 : Int), ())), ())⟩)
      (.ok ⟨nq, ((z4, ((0 : Int), ())), ())⟩))))
  (.ok ⟨nq, ((z4, ((20 : Int), ())), ())⟩))
theorem alT (x : VN) (Q : nr.Y → Prop) : wpf te Ls ax 1000 Tryz.f121 (nr.inp.inj x).tm (nr.inp.inj x).hp (fnK nr S6 Q) (fun _ _ => False) = (aa7 (x.1.1) (x.1.2.1)).wpR Q := by kernel_rfl
theorem aa6 (pre : VN → Bool) (F : VN → OT nr.Y) (hF : ∀ (x : VN) oy, pre x = true → (F x).run = some oy → (aa7 (x.1.1) (x.1.2.1)).run = some oy) : ac Tryz.prog 121 (nr.aD pre F) :=
  aB ar Cn WM (f := 121) (fn := Tryz.f121) (c := al Tryz.f121) (by kernel_rfl) (by kernel_rfl) (by kernel_rfl) (S := nr) (k := 0) (by kernel_rfl) (fun R hR => ag) (n := 1000) (sel := S6) (fun v o h => by cases h; rfl) (pre := pre) (F := F) (T := fun x => aa7 (x.1.1) (x.1.2.1)) (fun x Q => alT x Q) hF
def afN (p : Nat) (a : ab) : ab := ofN (agO p 256 1 (a.nat % p) (p - 2))
theorem agQ {s : Int} (h : ak s = true) : 2 ≤ pS s := by
  rcases cz h with rfl | rfl | rfl | rfl <;> decide +kernel
theorem aay {s : Int} (h : ak s = true) (a : ab) : tX (pS s) a (jV (bJ s.toNat).1 ⟨2, 0, 0, 0⟩).1 = afN (pS s) a := by
  rw [GP (mT h).1]
  unfold afN
  have h2 : 2 ≤ (bJ s.toNat).1.nat := agQ h
  rw [k8 (show (ab.mk 2 0 0 0).nat ≤ _ from h2)]
  rfl
theorem Pg {p : Nat} (hp : 0 < p ∧ p < 57896044618658097711785492504343953926634992332820282019728792003956564819968) (n : Nat) : cr (ofN (n % p)) = Nat.beq (n % p) 0 := by
  rw [yw, eh hp]
def S7 (_ : VN) : Bool := true
def ag7 (x : VN) : OT nr.Y := .br (ak x.1.1) (.br (Nat.beq (x.1.2.1.nat % pS x.1.1) 0) (.ok ⟨nq, ((⟨0, 0, 0, 0⟩, ((10 : Int), ())), ())⟩) (.ok ⟨nq, ((afN (pS x.1.1) x.1.2.1, ((0 : Int), ())), ())⟩))
  (.ok ⟨nq, ((⟨0, 0, 0, 0⟩, ((20 : Int), ())), ())⟩)
theorem aj1 : ac Tryz.prog 121 (nr.aD S7 ag7) := aa6 _ _ fun x oy hp ho => by
  rw [← ho]
  clear ho
  obtain ⟨⟨s, a, ⟨⟩⟩, ⟨⟩⟩ := x
  cases hs : ak s
  · exact (OT.au hs).trans (OT.au (b := ak s) hs).symm
  · have hz : cr (ofN (a.nat % pS s)) = Nat.beq (a.nat % pS s) 0 := Pg (mT hs) _
    refine (OT.ap hs).trans (Eq.trans ((aj ?_).trans ?_) (OT.ap (b := ak s) hs).symm)
    · simp only [List.all_cons, List.all_nil, Bool.and_true]
      exact oD hs
    · cases hb : Nat.beq (a.nat % pS s) 0
      · rw [hb] at hz
        refine (OT.au hz).trans ((OT.ap hs).trans (Eq.trans ?_ (OT.au rfl).symm))
        simp only [aay hs]
      · rw [hb] at hz
        exact (OT.ap hz).trans (OT.ap rfl).symm
def AS : cv := (nr.aD S7 ag7)
theorem VM : ac Tryz.prog 121 AS := aj1
theorem VL : aF AS := az
def Lr : Env := ay 121 AS Ls
theorem Ck : aQ Tryz.prog Lr := ah VM Cn
theorem Cl : av Lr := ae VL Co
theorem WL : aV Tryz.prog te Lr := aJ follows ar Ck Cl
def fG : ao := ⟨[.val false .int], [], true, 0, false⟩
abbrev vC : Type := ((Int) × Unit) × (Unit)
def fF : aw := ⟨[.val true .elem, .val false .bool], [], false⟩
def ED : SV → Option aw := fun _ => some fF
def G5 (a0 : Int) : OT fG.Y :=
  let z0 : ab := { w0 := 5, w1 := 0, w2 := 0, w3 := 0 }
  let z1 : ab := { w0 := 0, w1 := 0, w2 := 0, w3 := 0 }
  (.br (a0 == (0 : Int))
  (.ok ⟨fF, (({ w0 := 23, w1 := 0, w2 := 0, w3 := 0 }, (true, ())), ())⟩)
  (.br (a0 == (1 : Int))
    (.ok ⟨fF, (({ w0 := 21, w1 := 0, w2 := 0, w3 := 0 }, (true, ())), ())⟩)
    (.br (a0 == (2 : Int))
      (.br (a0 == (2 : Int))
        (.ok ⟨fF, ((z0, (true, ())), ())⟩)
        (.ok ⟨fF, ((z1, (false, ())), ())⟩))
      (.br (a0 == (3 : Int))
        (.ok ⟨fF, ((z0, (true, ())), ())⟩)
        (.ok ⟨fF, ((z1, (false, ())), ())⟩)))))
theorem agk (x : vC) (Q : fG.Y → Prop) : wpf te Lr ax 1000 Tryz.f85 (fG.inp.inj x).tm (fG.inp.inj x).hp (fnK fG ED Q) (fun _ _ => False) = (G5 (x.1.1)).wpR Q := by kernel_rfl
theorem Ou (pre : vC → Bool) (F : vC → OT fG.Y) (hF : ∀ (x : vC) oy, pre x = true → (F x).run = some oy → (G5 (x.1.1)).run = some oy) : ac Tryz.prog 85 (fG.aD pre F) :=
  aB ar Ck WL (f := 85) (fn := Tryz.f85) (c := al Tryz.f85) (by kernel_rfl) (by kernel_rfl) (by kernel_rfl) (S := fG) (k := 0) (by kernel_rfl) (fun R hR => ag) (n := 1000) (sel := ED) (fun v o h => by cases h; rfl) (pre := pre) (F := F) (T := fun x => G5 (x.1.1)) (fun x Q => agk x Q) hF
def bOf : Nat → ab
  | 0 => ⟨23, 0, 0, 0⟩
  | 1 => ⟨21, 0, 0, 0⟩
  | _ => ⟨5, 0, 0, 0⟩
abbrev bS (s : Int) : ab := bOf s.toNat
def EE (_ : vC) : Bool := true
def Tz (x : vC) : OT fG.Y := .br (ak x.1.1) (.ok ⟨fF, ((bS x.1.1, (true, ())), ())⟩) (.ok ⟨fF, ((⟨0, 0, 0, 0⟩, (false, ())), ())⟩)
theorem abR : ac Tryz.prog 85 (fG.aD EE Tz) := Ou _ _ fun x oy _ ho => by
  rw [← ho]
  clear ho
  obtain ⟨⟨s, ⟨⟩⟩, ⟨⟩⟩ := x
  cases hs : ak s
  · obtain ⟨h0, h1, h2, h3⟩ := n3 hs
    exact (OT.au h0).trans ((OT.au h1).trans ((OT.au h2).trans ((OT.au h3).trans (OT.au (b := ak s) hs).symm)))
  · rcases cz hs with h | h | h | h
    all_goals
      have h : s = _ := h
      subst h
      rfl
def qG : cv := (fG.aD EE Tz)
theorem KI : ac Tryz.prog 85 qG := abR
theorem KH : aF qG := az
def tO : Env := ay 85 qG Lr
theorem rb : aQ Tryz.prog tO := ah KI Ck
theorem tN : av tO := ae KH Cl
theorem LA : aV Tryz.prog te tO := aJ follows ar rb tN
def nE : ao := ⟨[], [], true, 0, false⟩
abbrev Wl : Type := (Unit) × (Unit)
def Om : aw := ⟨[.val true (.prod .elem (.prod .elem .bool))], [], false⟩
def Tv : SV → Option aw := fun _ => some Om
def abL : OT nE.Y :=
  let z0 : ab := { w0 := 0, w1 := 0, w2 := 0, w3 := 0 }
  (.ok ⟨Om, (((z0, z0, true), ()), ())⟩)
theorem al4 (x : Wl) (Q : nE.Y → Prop) : wpf te tO ax 1000 Tryz.f79 (nE.inp.inj x).tm (nE.inp.inj x).hp (fnK nE Tv Q) (fun _ _ => False) = (abL).wpR Q := by kernel_rfl
theorem abK (pre : Wl → Bool) (F : Wl → OT nE.Y) (hF : ∀ (x : Wl) oy, pre x = true → (F x).run = some oy → (abL).run = some oy) : ac Tryz.prog 79 (nE.aD pre F) :=
  aB ar rb LA (f := 79) (fn := Tryz.f79) (c := al Tryz.f79) (by kernel_rfl) (by kernel_rfl) (by kernel_rfl) (S := nE) (k := 0) (by kernel_rfl) (fun R hR => ag) (n := 1000) (sel := Tv) (fun v o h => by cases h; rfl) (pre := pre) (F := F) (T := fun x => abL) (fun x Q => al4 x Q) hF
def bp : ab × (ab × Bool) := (⟨0, 0, 0, 0⟩, ⟨0, 0, 0, 0⟩, true)
def Tw (_ : Wl) : Bool := true
def ahf (_ : Wl) : OT nE.Y := .ok ⟨Om, ((bp, ()), ())⟩
theorem akt : ac Tryz.prog 79 (nE.aD Tw ahf) := abK _ _ fun x oy _ ho => ho
def Bk : cv := (nE.aD Tw ahf)
theorem Wk : ac Tryz.prog 79 Bk := akt
theorem Wj : aF Bk := az
def Lz : Env := ay 79 Bk tO
theorem Cy : aQ Tryz.prog Lz := ah Wk rb
theorem Cz : av Lz := ae Wj tN
theorem WR : aV Tryz.prog te Lz := aJ follows ar Cy Cz
def jj : ao := ⟨[.val false .int, .val true .elem, .val true .elem], [], true, 0, false⟩
abbrev EC : Type := ((Int) × (ab) × (ab) × Unit) × (Unit)
def gh : aw := ⟨[.val true .elem], [], false⟩
def KG : SV → Option aw := fun _ => some gh
def Ot (a0 : Int) (a1 : ab) (a2 : ab) : OT jj.Y :=
  let z0 : Bool := ak a0
  let z1 : Nat := pS a0
  let z2 : ab := { w0 := 0, w1 := 0, w2 := 0, w3 := 0 }
  let z3 : ab := wR z1 z2 a2
  (.br (z0)
  (.br (z0)
    (.br (z0)
      (.ok ⟨gh, ((wR z1 (bG z1 (bG z1 a1 a1) a1) a2, ()), ())⟩)
      (.ok ⟨gh, ((z2, ()), ())⟩))
    (.br (z0)
      (.ok ⟨gh, ((z3, ()), ())⟩)
      (.ok ⟨gh, ((z2, ()), ())⟩)))
  (.br (z0)
    (.br (z0)
      (.ok ⟨gh, ((wR z1 (bG z1 z2 a1) a2, ()), ())⟩)
      (.ok ⟨gh, ((z2, ()), ())⟩))
    (.br (z0)
      (.ok ⟨gh, ((z3, ()), ())⟩)
      (.ok ⟨gh, ((z2, ()), ())⟩))))
theorem aku (x : EC) (Q : jj.Y → Prop) : wpf te Lz ax 1000 Tryz.f87 (jj.inp.inj x).tm (jj.inp.inj x).hp (fnK jj KG Q) (fun _ _ => False) = (Ot (x.1.1) (x.1.2.1) (x.1.2.2.1)).wpR Q := by kernel_rfl
theorem Wo (pre : EC → Bool) (F : EC → OT jj.Y) (hF : ∀ (x : EC) oy, pre x = true → (F x).run = some oy → (Ot (x.1.1) (x.1.2.1) (x.1.2.2.1)).run = some oy) : ac Tryz.prog 87 (jj.aD pre F) :=
  aB ar Cy WR (f := 87) (fn := Tryz.f87) (c := al Tryz.f87) (by kernel_rfl) (by kernel_rfl) (by kernel_rfl) (S := jj) (k := 0) (by kernel_rfl) (fun R hR => ag) (n := 1000) (sel := KG) (fun v o h => by cases h; rfl) (pre := pre) (F := F) (T := fun x => Ot (x.1.1) (x.1.2.1) (x.1.2.2.1)) (fun x Q => aku x Q) hF
def CU (p : Nat) (x b : ab) : ab := wR p (bG p (bG p x x) x) b
def Bn (x : EC) : Bool := ak x.1.1
def abQ (x : EC) : OT jj.Y := .ok ⟨gh, ((CU (pS x.1.1) x.1.2.1 x.1.2.2.1, ()), ())⟩
theorem agj : ac Tryz.prog 87 (jj.aD Bn abQ) := Wo _ _ fun x oy hp ho => by
  rw [← ho]
  clear ho
  obtain ⟨⟨s, a, b, ⟨⟩⟩, ⟨⟩⟩ := x
  have hs : ak s = true := hp
  exact (OT.ap hs).trans ((OT.ap hs).trans ((OT.ap hs).trans rfl))
def vB : cv := (jj.aD Bn abQ)
theorem Oq : ac Tryz.prog 87 vB := agj
theorem Oo : aF vB := az
def CA : Env := ay 87 vB Lz
theorem wl : aQ Tryz.prog CA := ah Oq Cy
theorem xB : av CA := ae Oo Cz
theorem Pd : aV Tryz.prog te CA := aJ follows ar wl xB
def xM : ao := ⟨[.val false .int, .val true (.prod .elem (.prod .elem .bool))], [], true, 0, false⟩
abbrev akS : Type := ((Int) × ((ab × (ab × Bool))) × Unit) × (Unit)
def pv : aw := ⟨[.val false .bool], [], false⟩
def abB : SV → Option aw := fun _ => some pv
def ako (a0 : Int) (a1 : (ab × (ab × Bool))) : OT xM.Y :=
  let z0 : Bool := ak a0
  let z1 : Nat := ab.nat (bJ (Int.toNat a0)).fst
  let z2 : ab := bS a0
  let z3 : Bool := Bn ((a0, a1.fst, z2, ()), ())
  let z4 : Nat := pS a0
  let z5 : ab := bG z4 a1.snd.fst a1.snd.fst
  let z6 : ab := CU z4 a1.fst z2
  let z7 := z6.w0
  let z8 := z6.w1
  let z9 := z6.w2
  let z10 := z6.w3
  (.br (z0)
  (.br (a1.snd.snd)
    (.ok ⟨pv, ((a1.fst.w0 == (0 : UInt64) && (a1.fst.w1 == (0 : UInt64) && (a1.fst.w2 == (0 : UInt64) && (a1.fst.w3 == (0 : UInt64) && true))) && (a1.snd.fst.w0 == (0 : UInt64) && (a1.snd.fst.w1 == (0 : UInt64) && (a1.snd.fst.w2 == (0 : UInt64) && (a1.snd.fst.w3 == (0 : UInt64) && true))) && (a1.snd.snd == true && true)), ()), ())⟩)
    (.br (z0)
      (.br (Nat.blt (ab.nat a1.fst) z1)
        (.br (Nat.blt (ab.nat a1.snd.fst) z1)
          (.br (z0)
            (gd [z3] (.ok ⟨pv, ((z5.w0 == z7 && (z5.w1 == z8 && (z5.w2 == z9 && (z5.w3 == z10 && true))), ()), ())⟩))
            (gd [z3] (.ok ⟨pv, (((0 : UInt64) == z7 && ((0 : UInt64) == z8 && ((0 : UInt64) == z9 && ((0 : UInt64) == z10 && true))), ()), ())⟩)))
          (.ok ⟨pv, ((false, ()), ())⟩))
        (.ok ⟨pv, ((false, ()), ())⟩))
      (.ok ⟨pv, ((false, ()), ())⟩)))
  (.ok ⟨pv, ((false, ()), ())⟩))
theorem amz (x : akS) (Q : xM.Y → Prop) : wpf te CA ax 1000 Tryz.f47 (xM.inp.inj x).tm (xM.inp.inj x).hp (fnK xM abB Q) (fun _ _ => False) = (ako (x.1.1) (x.1.2.1)).wpR Q := by kernel_rfl
theorem agb (pre : akS → Bool) (F : akS → OT xM.Y) (hF : ∀ (x : akS) oy, pre x = true → (F x).run = some oy → (ako (x.1.1) (x.1.2.1)).run = some oy) : ac Tryz.prog 47 (xM.aD pre F) :=
  aB ar wl Pd (f := 47) (fn := Tryz.f47) (c := al Tryz.f47) (by kernel_rfl) (by kernel_rfl) (by kernel_rfl) (S := xM) (k := 0) (by kernel_rfl) (fun R hR => ag) (n := 1000) (sel := abB) (fun v o h => by cases h; rfl) (pre := pre) (F := F) (T := fun x => ako (x.1.1) (x.1.2.1)) (fun x Q => amz x Q) hF
def eqE (a b : ab) : Bool := (a.w0 == b.w0 && (a.w1 == b.w1 && (a.w2 == b.w2 && (a.w3 == b.w3 && true))))
theorem A9 {a b : ab} : eqE a b = true ↔ a = b := by
  obtain ⟨a0, a1, a2, a3⟩ := a
  obtain ⟨b0, b1, b2, b3⟩ := b
  simp [eqE]
theorem af6 (a : ab) : eqE a a = true := A9.2 rfl
theorem akh (a b : ab) : eqE a b = Nat.beq a.nat b.nat := by
  cases h : eqE a b
  · cases hb : Nat.beq a.nat b.nat
    · rfl
    · rw [A9.2 (zF (Nat.eq_of_beq_eq_true hb))] at h
      cases h
  · rw [A9.1 h]
    exact (Nat.beq_refl _).symm
abbrev Pt : Type := ab × (ab × Bool)
def onB (c : Int) (P : Pt) : Bool := cond (ak c) (cond P.2.2 (cr P.1 && (cr P.2.1 && (P.2.2 == true && true)))
  (cond (Nat.blt P.1.nat (pS c)) (cond (Nat.blt P.2.1.nat (pS c)) (eqE (bG (pS c) P.2.1 P.2.1) (CU (pS c) P.1 (bS c))) false) false)) false
def abC (_ : akS) : Bool := true
def al1 (x : akS) : OT xM.Y := .ok ⟨pv, ((onB x.1.1 x.1.2.1, ()), ())⟩
theorem al0 : ac Tryz.prog 47 (xM.aD abC al1) := agb _ _ fun x oy _ ho => by
  rw [← ho]
  clear ho
  obtain ⟨⟨c, ⟨X, Y, i⟩, ⟨⟩⟩, ⟨⟩⟩ := x
  show _ = (OT.ok ⟨pv, ((onB c (X, Y, i), ()), ())⟩ : OT xM.Y).run
  unfold onB
  cases hs : ak c
  · exact OT.au hs
  · refine (OT.ap hs).trans ?_
    cases i
    · refine (OT.au rfl).trans ((OT.ap hs).trans ?_)
      cases hx : Nat.blt X.nat (pS c)
      · exact OT.au hx
      · refine (OT.ap hx).trans ?_
        cases hy : Nat.blt Y.nat (pS c)
        · exact OT.au hy
        · refine (OT.ap hy).trans ((OT.ap hs).trans ((aj ?_).trans rfl))
          simp only [List.all_cons, List.all_nil, Bool.and_true]
          exact hs
    · exact OT.ap rfl
theorem yf {c : Int} {P : Pt} (h : onB c P = true) : ak c = true := by
  unfold onB at h
  cases hs : ak c
  · rw [hs] at h; cases h
  · rfl
def GX : cv := (xM.aD abC al1)
theorem abD : ac Tryz.prog 47 GX := al0
theorem abA : aF GX := az
def acu : Env := ay 47 GX CA
theorem HC : aQ Tryz.prog acu := ah abD wl
theorem E6 : av acu := ae abA xB
theorem acs : aV Tryz.prog te acu := aJ follows ar HC E6
def fE : ao := ⟨[.val true (.prod .elem (.prod .elem .elem))], [], true, 0, false⟩
abbrev vA : Type := (((ab × (ab × ab))) × Unit) × (Unit)
def Bj : aw := ⟨[.val false .bool], [], false⟩
def EA : SV → Option aw := fun _ => some Bj
def G1 (a0 : (ab × (ab × ab))) : OT fE.Y :=
  (.ok ⟨Bj, ((a0.snd.snd.w0 == (0 : UInt64) && (a0.snd.snd.w1 == (0 : UInt64) && (a0.snd.snd.w2 == (0 : UInt64) && (a0.snd.snd.w3 == (0 : UInt64) && true))), ()), ())⟩)
theorem agi (x : vA) (Q : fE.Y → Prop) : wpf te acu ax 1000 Tryz.f120 (fE.inp.inj x).tm (fE.inp.inj x).hp (fnK fE EA Q) (fun _ _ => False) = (G1 (x.1.1)).wpR Q := by kernel_rfl
theorem Ol (pre : vA → Bool) (F : vA → OT fE.Y) (hF : ∀ (x : vA) oy, pre x = true → (F x).run = some oy → (G1 (x.1.1)).run = some oy) : ac Tryz.prog 120 (fE.aD pre F) :=
  aB ar HC acs (f := 120) (fn := Tryz.f120) (c := al Tryz.f120) (by kernel_rfl) (by kernel_rfl) (by kernel_rfl) (S := fE) (k := 0) (by kernel_rfl) (fun R hR => ag) (n := 1000) (sel := EA) (fun v o h => by cases h; rfl) (pre := pre) (F := F) (T := fun x => G1 (x.1.1)) (fun x Q => agi x Q) hF
abbrev ER : Type := ab × (ab × ab)
def EB (_ : vA) : Bool := true
def Tu (x : vA) : OT fE.Y := .ok ⟨Bj, ((cr x.1.1.2.2, ()), ())⟩
theorem abJ : ac Tryz.prog 120 (fE.aD EB Tu) := Ol _ _ fun x oy hp ho => by
  rw [← ho]
  rfl
def qF : cv := (fE.aD EB Tu)
theorem KD : ac Tryz.prog 120 qF := abJ
theorem KC : aF qF := az
def tM : Env := ay 120 qF acu
theorem ra : aQ Tryz.prog tM := ah KD HC
theorem tL : av tM := ae KC E6
theorem Ly : aV Tryz.prog te tM := aJ follows ar ra tL
def fB : ao := ⟨[.val true (.prod .elem (.prod .elem .bool))], [], true, 0, false⟩
abbrev vx : Type := (((ab × (ab × Bool))) × Unit) × (Unit)
def sP : aw := ⟨[.val true (.prod .elem (.prod .elem .elem))], [], false⟩
def Et : SV → Option aw := fun _ => some sP
def GS (a0 : (ab × (ab × Bool))) : OT fB.Y :=
  let z0 : ab := { w0 := 0, w1 := 0, w2 := 0, w3 := 0 }
  (.br (a0.snd.snd)
  (.ok ⟨sP, (((z0, z0, z0), ()), ())⟩)
  (.ok ⟨sP, (((a0.fst, a0.snd.fst, { w0 := 1, w1 := 0, w2 := 0, w3 := 0 }), ()), ())⟩))
theorem af9 (x : vx) (Q : fB.Y → Prop) : wpf te tM ax 1000 Tryz.f82 (fB.inp.inj x).tm (fB.inp.inj x).hp (fnK fB Et Q) (fun _ _ => False) = (GS (x.1.1)).wpR Q := by kernel_rfl
theorem Og (pre : vx → Bool) (F : vx → OT fB.Y) (hF : ∀ (x : vx) oy, pre x = true → (F x).run = some oy → (GS (x.1.1)).run = some oy) : ac Tryz.prog 82 (fB.aD pre F) :=
  aB ar ra Ly (f := 82) (fn := Tryz.f82) (c := al Tryz.f82) (by kernel_rfl) (by kernel_rfl) (by kernel_rfl) (S := fB) (k := 0) (by kernel_rfl) (fun R hR => ag) (n := 1000) (sel := Et) (fun v o h => by cases h; rfl) (pre := pre) (F := F) (T := fun x => GS (x.1.1)) (fun x Q => af9 x Q) hF
def ii (P : Pt) : ER := cond P.2.2 (⟨0, 0, 0, 0⟩, ⟨0, 0, 0, 0⟩, ⟨0, 0, 0, 0⟩) (P.1, P.2.1, ⟨1, 0, 0, 0⟩)
def Eu (_ : vx) : Bool := true
def Tk (x : vx) : OT fB.Y := .ok ⟨sP, ((ii x.1.1, ()), ())⟩
theorem abv : ac Tryz.prog 82 (fB.aD Eu Tk) := Og _ _ fun x oy hp ho => by
  rw [← ho]
  clear ho
  obtain ⟨⟨⟨X, Y, i⟩, ⟨⟩⟩, ⟨⟩⟩ := x
  cases i <;> rfl
def qD : cv := (fB.aD Eu Tk)
theorem Kt : ac Tryz.prog 82 qD := abv
theorem Ks : aF qD := az
def tI : Env := ay 82 qD tM
theorem qZ : aQ Tryz.prog tI := ah Kt ra
theorem tH : av tI := ae Ks tL
theorem Lu : aV Tryz.prog te tI := aJ follows ar qZ tH
def nC : ao := ⟨[.val false .int, .val true .elem, .val true .elem], [], true, 0, false⟩
abbrev Wh : Type := ((Int) × (ab) × (ab) × Unit) × (Unit)
def G0 : aw := ⟨[.val true .elem], [], false⟩
def Tq : SV → Option aw := fun _ => some G0
def abH (a0 : Int) (a1 : ab) (a2 : ab) : OT nC.Y :=
  (.br (ak a0)
  (.ok ⟨G0, ((bG (pS a0) a1 a2, ()), ())⟩)
  (.ok ⟨G0, (({ w0 := 0, w1 := 0, w2 := 0, w3 := 0 }, ()), ())⟩))
theorem al3 (x : Wh) (Q : nC.Y → Prop) : wpf te tI ax 1000 Tryz.f122 (nC.inp.inj x).tm (nC.inp.inj x).hp (fnK nC Tq Q) (fun _ _ => False) = (abH (x.1.1) (x.1.2.1) (x.1.2.2.1)).wpR Q := by kernel_rfl
theorem abG (pre : Wh → Bool) (F : Wh → OT nC.Y) (hF : ∀ (x : Wh) oy, pre x = true → (F x).run = some oy → (abH (x.1.1) (x.1.2.1) (x.1.2.2.1)).run = some oy) : ac Tryz.prog 122 (nC.aD pre F) :=
  aB ar qZ Lu (f := 122) (fn := Tryz.f122) (c := al Tryz.f122) (by kernel_rfl) (by kernel_rfl) (by kernel_rfl) (S := nC) (k := 0) (by kernel_rfl) (fun R hR => ag) (n := 1000) (sel := Tq) (fun v o h => by cases h; rfl) (pre := pre) (F := F) (T := fun x => abH (x.1.1) (x.1.2.1) (x.1.2.2.1)) (fun x Q => al3 x Q) hF
def bj (x : Wh) : Bool := ak x.1.1
def ahe (x : Wh) : OT nC.Y := .ok ⟨G0, ((bG (pS x.1.1) x.1.2.1 x.1.2.2.1, ()), ())⟩
theorem aks : ac Tryz.prog 122 (nC.aD bj ahe) := abG _ _ fun x oy hp ho => by
  rw [← ho]
  clear ho
  obtain ⟨⟨s, a, b, ⟨⟩⟩, ⟨⟩⟩ := x
  have hs : ak s = true := hp
  exact (OT.ap hs).trans rfl
def Bi : cv := (nC.aD bj ahe)
theorem Wg : ac Tryz.prog 122 Bi := aks
theorem Wf : aF Bi := az
def Lx : Env := ay 122 Bi tI
theorem Cw : aQ Tryz.prog Lx := ah Wg qZ
theorem Cx : av Lx := ae Wf tH
theorem WQ : aV Tryz.prog te Lx := aJ follows ar Cw Cx
def nz : ao := ⟨[.val false .int, .val true .elem, .val true .elem], [], true, 0, false⟩
abbrev Wa : Type := ((Int) × (ab) × (ab) × Unit) × (Unit)
def GV : aw := ⟨[.val true .elem], [], false⟩
def Tn : SV → Option aw := fun _ => some GV
def aby (a0 : Int) (a1 : ab) (a2 : ab) : OT nz.Y :=
  (.br (ak a0)
  (.ok ⟨GV, ((jv (pS a0) a1 a2, ()), ())⟩)
  (.ok ⟨GV, (({ w0 := 0, w1 := 0, w2 := 0, w3 := 0 }, ()), ())⟩))
theorem alZ (x : Wa) (Q : nz.Y → Prop) : wpf te Lx ax 1000 Tryz.f123 (nz.inp.inj x).tm (nz.inp.inj x).hp (fnK nz Tn Q) (fun _ _ => False) = (aby (x.1.1) (x.1.2.1) (x.1.2.2.1)).wpR Q := by kernel_rfl
theorem abx (pre : Wa → Bool) (F : Wa → OT nz.Y) (hF : ∀ (x : Wa) oy, pre x = true → (F x).run = some oy → (aby (x.1.1) (x.1.2.1) (x.1.2.2.1)).run = some oy) : ac Tryz.prog 123 (nz.aD pre F) :=
  aB ar Cw WQ (f := 123) (fn := Tryz.f123) (c := al Tryz.f123) (by kernel_rfl) (by kernel_rfl) (by kernel_rfl) (S := nz) (k := 0) (by kernel_rfl) (fun R hR => ag) (n := 1000) (sel := Tn) (fun v o h => by cases h; rfl) (pre := pre) (F := F) (T := fun x => aby (x.1.1) (x.1.2.1) (x.1.2.2.1)) (fun x Q => alZ x Q) hF
def fD (x : Wa) : Bool := ak x.1.1
def ahd (x : Wa) : OT nz.Y := .ok ⟨GV, ((jv (pS x.1.1) x.1.2.1 x.1.2.2.1, ()), ())⟩
theorem akn : ac Tryz.prog 123 (nz.aD fD ahd) := abx _ _ fun x oy hp ho => by
  rw [← ho]
  clear ho
  obtain ⟨⟨s, a, b, ⟨⟩⟩, ⟨⟩⟩ := x
  have hs : ak s = true := hp
  exact (OT.ap hs).trans rfl
def Be : cv := (nz.aD fD ahd)
theorem V9 : ac Tryz.prog 123 Be := akn
theorem V8 : aF Be := az
def Lw : Env := ay 123 Be Lx
theorem Ct : aQ Tryz.prog Lw := ah V9 Cw
theorem Cu : av Lw := ae V8 Cx
theorem WO : aV Tryz.prog te Lw := aJ follows ar Ct Cu
def fC : ao := ⟨[.val false .int, .val true .elem, .val false .u64], [], true, 0, false⟩
abbrev vy : Type := ((Int) × (ab) × (UInt64) × Unit) × (Unit)
def Bc : aw := ⟨[.val true .elem], [], false⟩
def Ev : SV → Option aw := fun _ => some Bc
def GU (a0 : Int) (a1 : ab) (a2 : UInt64) : OT fC.Y :=
  let z0 : ab := { w0 := a2, w1 := 0, w2 := 0, w3 := 0 }
  (gd [bj ((a0, a1, z0, ()), ())] (.ok ⟨Bc, ((bG (pS a0) a1 z0, ()), ())⟩))
theorem aga (x : vy) (Q : fC.Y → Prop) : wpf te Lw ax 1000 Tryz.f124 (fC.inp.inj x).tm (fC.inp.inj x).hp (fnK fC Ev Q) (fun _ _ => False) = (GU (x.1.1) (x.1.2.1) (x.1.2.2.1)).wpR Q := by kernel_rfl
theorem Oh (pre : vy → Bool) (F : vy → OT fC.Y) (hF : ∀ (x : vy) oy, pre x = true → (F x).run = some oy → (GU (x.1.1) (x.1.2.1) (x.1.2.2.1)).run = some oy) : ac Tryz.prog 124 (fC.aD pre F) :=
  aB ar Ct WO (f := 124) (fn := Tryz.f124) (c := al Tryz.f124) (by kernel_rfl) (by kernel_rfl) (by kernel_rfl) (S := fC) (k := 0) (by kernel_rfl) (fun R hR => ag) (n := 1000) (sel := Ev) (fun v o h => by cases h; rfl) (pre := pre) (F := F) (T := fun x => GU (x.1.1) (x.1.2.1) (x.1.2.2.1)) (fun x Q => aga x Q) hF
def j7 (p : Nat) (a : ab) (n : UInt64) : ab := bG p a ⟨n, 0, 0, 0⟩
def eT (x : vy) : Bool := ak x.1.1
def Tl (x : vy) : OT fC.Y := .ok ⟨Bc, ((j7 (pS x.1.1) x.1.2.1 x.1.2.2.1, ()), ())⟩
theorem abw : ac Tryz.prog 124 (fC.aD eT Tl) := Oh _ _ fun x oy hp ho => by
  rw [← ho]
  clear ho
  obtain ⟨⟨s, a, b, ⟨⟩⟩, ⟨⟩⟩ := x
  have hs : ak s = true := hp
  refine (aj ?_).trans rfl
  simp only [List.all_cons, List.all_nil, Bool.and_true]
  exact hs
def qE : cv := (fC.aD eT Tl)
theorem Kv : ac Tryz.prog 124 qE := abw
theorem Ku : aF qE := az
def tK : Env := ay 124 qE Lw
theorem q9 : aQ Tryz.prog tK := ah Kv Ct
theorem tJ : av tK := ae Ku Cu
theorem Lv : aV Tryz.prog te tK := aJ follows ar q9 tJ
def dB : ao := ⟨[.val false .int, .val true (.prod .elem (.prod .elem .elem))], [], true, 0, false⟩
abbrev oV : Type := ((Int) × ((ab × (ab × ab))) × Unit) × (Unit)
def fX : aw := ⟨[.val true (.prod .elem (.prod .elem .bool))], [], false⟩
def Bf : SV → Option aw := fun _ => some fX
def Bg (a0 : Int) (a1 : (ab × (ab × ab))) : OT dB.Y :=
  let z0 : ab := { w0 := 0, w1 := 0, w2 := 0, w3 := 0 }
  let z1 : Nat := pS a0
  let z2 : ab × PUnit := (z0, ())
  let z3 : Bool := bj ((a0, z0, z2), ())
  let z4 : ab := bG z1 z0 z0
  let z5 : Bool := bj ((a0, a1.fst, z4, ()), ())
  let z6 : Bool := bj ((a0, z4, z2), ())
  let z7 : ab := bG z1 z4 z0
  let z8 : Bool := bj ((a0, a1.snd.fst, z7, ()), ())
  let z9 : ab × ab × Bool := (bG z1 a1.fst z4, bG z1 a1.snd.fst z7, false)
  let z10 : ab := afN z1 a1.snd.snd
  let z11 : ab × PUnit := (z10, ())
  let z12 : ab := bG z1 z10 z10
  let z13 : ab := bG z1 z12 z10
  (.br (cr a1.snd.snd)
  (.ok ⟨fX, (((z0, z0, true), ()), ())⟩)
  (.br (ak a0)
    (.br (Nat.beq (ab.nat a1.snd.snd % z1) 0)
      (gd [z3, z5, z6, z8] (.ok ⟨fX, ((z9, ()), ())⟩))
      (gd [bj ((a0, z10, z11), ()), bj ((a0, a1.fst, z12, ()), ()), bj ((a0, z12, z11), ()), bj ((a0, a1.snd.fst, z13, ()), ())] (.ok ⟨fX, (((bG z1 a1.fst z12, bG z1 a1.snd.fst z13, false), ()), ())⟩)))
    (gd [z3, z5, z6, z8] (.ok ⟨fX, ((z9, ()), ())⟩))))
theorem abE (x : oV) (Q : dB.Y → Prop) : wpf te tK ax 1000 Tryz.f80 (dB.inp.inj x).tm (dB.inp.inj x).hp (fnK dB Bf Q) (fun _ _ => False) = (Bg (x.1.1) (x.1.2.1)).wpR Q := by kernel_rfl
theorem Ky (pre : oV → Bool) (F : oV → OT dB.Y) (hF : ∀ (x : oV) oy, pre x = true → (F x).run = some oy → (Bg (x.1.1) (x.1.2.1)).run = some oy) : ac Tryz.prog 80 (dB.aD pre F) :=
  aB ar q9 Lv (f := 80) (fn := Tryz.f80) (c := al Tryz.f80) (by kernel_rfl) (by kernel_rfl) (by kernel_rfl) (S := dB) (k := 0) (by kernel_rfl) (fun R hR => ag) (n := 1000) (sel := Bf) (fun v o h => by cases h; rfl) (pre := pre) (F := F) (T := fun x => Bg (x.1.1) (x.1.2.1)) (fun x Q => abE x Q) hF
def ajJ (p : Nat) (a : ab) : ab := cond (Nat.beq (a.nat % p) 0) ⟨0, 0, 0, 0⟩ (afN p a)
def ajr (p : Nat) (x y i : ab) : Pt := (bG p x (bG p i i), bG p y (bG p (bG p i i) i), false)
def jZ (p : Nat) (w : ER) : Pt := cond (cr w.2.2) bp (ajr p w.1 w.2.1 (ajJ p w.2.2))
def jh (x : oV) : Bool := ak x.1.1
def Kz (x : oV) : OT dB.Y := .ok ⟨fX, ((jZ (pS x.1.1) x.1.2.1, ()), ())⟩
theorem Wd : ac Tryz.prog 80 (dB.aD jh Kz) := Ky _ _ fun x oy hp ho => by
  rw [← ho]
  clear ho
  obtain ⟨⟨c, ⟨X, Y, Z⟩, ⟨⟩⟩, ⟨⟩⟩ := x
  have hs : ak c = true := hp
  show _ = (OT.ok ⟨fX, ((jZ (pS c) (X, Y, Z), ()), ())⟩ : OT dB.Y).run
  unfold jZ
  dsimp only
  cases hz : cr Z
  · refine (OT.au hz).trans ((OT.ap hs).trans ?_)
    unfold ajJ
    cases hb : Nat.beq (Z.nat % pS c) 0
    · refine (OT.au rfl).trans ((aj ?_).trans rfl)
      simp only [List.all_cons, List.all_nil, Bool.and_true, Bool.and_eq_true]
      exact ⟨hs, hs, hs, hs⟩
    · refine (OT.ap rfl).trans ((aj ?_).trans rfl)
      simp only [List.all_cons, List.all_nil, Bool.and_true, Bool.and_eq_true]
      exact ⟨hs, hs, hs, hs⟩
  · exact OT.ap hz
def nB : cv := (dB.aD jh Kz)
theorem GZ : ac Tryz.prog 80 nB := Wd
theorem GY : aF nB := az
def nX : Env := ay 80 nB tK
theorem nW : aQ Tryz.prog nX := ah GZ q9
theorem pH : av nX := ae GY tJ
theorem HD : aV Tryz.prog te nX := aJ follows ar nW pH
def dC : ao := ⟨[.val false .int, .val true (.prod .elem (.prod .elem .elem))], [], true, 0, false⟩
abbrev oY : Type := ((Int) × ((ab × (ab × ab))) × Unit) × (Unit)
def kO : aw := ⟨[.val true (.prod .elem (.prod .elem .elem))], [], false⟩
def Bl : SV → Option aw := fun _ => some kO
def Bm (a0 : Int) (a1 : (ab × (ab × ab))) : OT dC.Y :=
  let z0 : Nat := pS a0
  let z1 : ab := bG z0 a1.snd.fst a1.snd.fst
  let z2 : ab × PUnit := (z1, ())
  let z3 : ab := bG z0 a1.fst z1
  let z4 : ab := bG z0 a1.fst a1.fst
  let z5 : ab := j7 z0 z4 (3 : UInt64)
  let z6 : ab := j7 z0 z3 (4 : UInt64)
  let z7 : UInt64 × PUnit := ((2 : UInt64), ())
  let z8 : ab := bG z0 z5 z5
  let z9 : ab := j7 z0 z6 (2 : UInt64)
  let z10 : ab := jv z0 z8 z9
  let z11 : ab := jv z0 z6 z10
  let z12 : ab := bG z0 z1 z1
  let z13 : ab := bG z0 z5 z11
  let z14 : ab := j7 z0 z12 (8 : UInt64)
  let z15 : ab := bG z0 a1.snd.fst a1.snd.snd
  (.br (cr a1.snd.snd)
  (.ok ⟨kO, ((a1, ()), ())⟩)
  (gd [bj ((a0, a1.snd.fst, a1.snd.fst, ()), ()), bj ((a0, a1.fst, z2), ()), eT ((a0, z3, (4 : UInt64), ()), ()), bj ((a0, a1.fst, a1.fst, ()), ()), eT ((a0, z4, (3 : UInt64), ()), ()), bj ((a0, z5, z5, ()), ()), eT ((a0, z6, z7), ()), fD ((a0, z8, z9, ()), ()), fD ((a0, z6, z10, ()), ()), bj ((a0, z5, z11, ()), ()), bj ((a0, z1, z2), ()), eT ((a0, z12, (8 : UInt64), ()), ()), fD ((a0, z13, z14, ()), ()), bj ((a0, a1.snd.fst, a1.snd.snd, ()), ()), eT ((a0, z15, z7), ())] (.ok ⟨kO, (((z10, jv z0 z13 z14, j7 z0 z15 (2 : UInt64)), ()), ())⟩)))
theorem abP (x : oY) (Q : dC.Y → Prop) : wpf te nX ax 1000 Tryz.f83 (dC.inp.inj x).tm (dC.inp.inj x).hp (fnK dC Bl Q) (fun _ _ => False) = (Bm (x.1.1) (x.1.2.1)).wpR Q := by kernel_rfl
theorem KE (pre : oY → Bool) (F : oY → OT dC.Y) (hF : ∀ (x : oY) oy, pre x = true → (F x).run = some oy → (Bm (x.1.1) (x.1.2.1)).run = some oy) : ac Tryz.prog 83 (dC.aD pre F) :=
  aB ar nW HD (f := 83) (fn := Tryz.f83) (c := al Tryz.f83) (by kernel_rfl) (by kernel_rfl) (by kernel_rfl) (S := dC) (k := 0) (by kernel_rfl) (fun R hR => ag) (n := 1000) (sel := Bl) (fun v o h => by cases h; rfl) (pre := pre) (F := F) (T := fun x => Bm (x.1.1) (x.1.2.1)) (fun x Q => abP x Q) hF
def amX (p : Nat) (x y z : ab) : ER :=
  let yy := bG p y y
  let s := j7 p (bG p x yy) 4
  let m := j7 p (bG p x x) 3
  let x' := jv p (bG p m m) (j7 p s 2)
  (x', jv p (bG p m (jv p s x')) (j7 p (bG p yy yy) 8), j7 p (bG p y z) 2)
def acx (p : Nat) (w : ER) : ER := cond (cr w.2.2) w (amX p w.1 w.2.1 w.2.2)
def lM (x : oY) : Bool := ak x.1.1
def KF (x : oY) : OT dC.Y := .ok ⟨kO, ((acx (pS x.1.1) x.1.2.1, ()), ())⟩
theorem Wn : ac Tryz.prog 83 (dC.aD lM KF) := KE _ _ fun x oy hp ho => by
  rw [← ho]
  clear ho
  obtain ⟨⟨c, ⟨X, Y, Z⟩, ⟨⟩⟩, ⟨⟩⟩ := x
  have hs : ak c = true := hp
  show _ = (OT.ok ⟨kO, ((acx (pS c) (X, Y, Z), ()), ())⟩ : OT dC.Y).run
  unfold acx
  dsimp only
  cases hz : cr Z
  · refine (OT.au hz).trans ((aj ?_).trans rfl)
    simp only [List.all_cons, List.all_nil, Bool.and_true, Bool.and_eq_true]
    exact ⟨hs, hs, hs, hs, hs, hs, hs, hs, hs, hs, hs, hs, hs, hs, hs⟩
  · exact OT.ap hz
def nF : cv := (dC.aD lM KF)
theorem G4 : ac Tryz.prog 83 nF := Wn
theorem G3 : aF nF := az
def nZ : Env := ay 83 nF nX
theorem nY : aQ Tryz.prog nZ := ah G4 nW
theorem pI : av nZ := ae G3 pH
theorem HE : aV Tryz.prog te nZ := aJ follows ar nY pI
def gO : ao := ⟨[.val false .int, .val true (.prod .elem (.prod .elem .elem)), .val true (.prod .elem (.prod .elem .elem))], [], true, 0, false⟩
abbrev EF : Type := ((Int) × ((ab × (ab × ab))) × ((ab × (ab × ab))) × Unit) × (Unit)
def jP : aw := ⟨[.val true (.prod .elem (.prod .elem .elem))], [], false⟩
def KJ : SV → Option aw := fun _ => some jP
def Ox (a0 : Int) (a1 : (ab × (ab × ab))) (a2 : (ab × (ab × ab))) : OT gO.Y :=
  let z0 : ab × PUnit := (a1.snd.snd, ())
  let z1 : ab × PUnit := (a2.snd.snd, ())
  let z2 : Nat := pS a0
  let z3 : ab := bG z2 a2.snd.snd a2.snd.snd
  let z4 : ab := bG z2 a1.snd.snd a1.snd.snd
  let z5 : ab := bG z2 z3 a2.snd.snd
  let z6 : ab := bG z2 z4 a1.snd.snd
  let z7 : ab := bG z2 a2.fst z4
  let z8 : ab := bG z2 a1.fst z3
  let z9 : ab := bG z2 a2.snd.fst z6
  let z10 : ab := bG z2 a1.snd.fst z5
  let z11 : ab := jv z2 z7 z8
  let z12 : ab := jv z2 z9 z10
  let z13 : ab := { w0 := 0, w1 := 0, w2 := 0, w3 := 0 }
  let z14 : ab × PUnit := (z11, ())
  let z15 : ab := bG z2 z11 z11
  let z16 : ab := bG z2 z12 z12
  let z17 : ab := bG z2 z15 z11
  let z18 : ab × PUnit := (z17, ())
  let z19 : ab := bG z2 z8 z15
  let z20 : ab := jv z2 z16 z17
  let z21 : ab := j7 z2 z19 (2 : UInt64)
  let z22 : ab := jv z2 z20 z21
  let z23 : ab := jv z2 z19 z22
  let z24 : ab := bG z2 z12 z23
  let z25 : ab := bG z2 z10 z17
  let z26 : ab := bG z2 a1.snd.snd a2.snd.snd
  (.br (cr a1.snd.snd)
  (.ok ⟨jP, ((a2, ()), ())⟩)
  (.br (cr a2.snd.snd)
    (.ok ⟨jP, ((a1, ()), ())⟩)
    (gd [bj ((a0, a1.snd.snd, z0), ()), bj ((a0, a2.snd.snd, z1), ()), bj ((a0, a1.fst, z3, ()), ()), bj ((a0, a2.fst, z4, ()), ()), bj ((a0, z3, z1), ()), bj ((a0, a1.snd.fst, z5, ()), ()), bj ((a0, z4, z0), ()), bj ((a0, a2.snd.fst, z6, ()), ()), fD ((a0, z7, z8, ()), ()), fD ((a0, z9, z10, ()), ())] (.br (z11.w0 == (0 : UInt64) && (z11.w1 == (0 : UInt64) && (z11.w2 == (0 : UInt64) && (z11.w3 == (0 : UInt64) && true))))
      (.br (z12.w0 == (0 : UInt64) && (z12.w1 == (0 : UInt64) && (z12.w2 == (0 : UInt64) && (z12.w3 == (0 : UInt64) && true))))
        (gd [lM ((a0, a1, ()), ())] (.ok ⟨jP, ((acx z2 a1, ()), ())⟩))
        (.ok ⟨jP, (((z13, z13, z13), ()), ())⟩))
      (gd [bj ((a0, z11, z14), ()), bj ((a0, z15, z14), ()), bj ((a0, z8, z15, ()), ()), bj ((a0, z12, z12, ()), ()), fD ((a0, z16, z18), ()), eT ((a0, z19, (2 : UInt64), ()), ()), fD ((a0, z20, z21, ()), ()), fD ((a0, z19, z22, ()), ()), bj ((a0, z12, z23, ()), ()), bj ((a0, z10, z18), ()), fD ((a0, z24, z25, ()), ()), bj ((a0, a1.snd.snd, z1), ()), bj ((a0, z11, z26, ()), ())] (.ok ⟨jP, (((z22, jv z2 z24 z25, bG z2 z11 z26), ()), ())⟩))))))
theorem akw (x : EF) (Q : gO.Y → Prop) : wpf te nZ ax 1000 Tryz.f81 (gO.inp.inj x).tm (gO.inp.inj x).hp (fnK gO KJ Q) (fun _ _ => False) = (Ox (x.1.1) (x.1.2.1) (x.1.2.2.1)).wpR Q := by kernel_rfl
theorem Wt (pre : EF → Bool) (F : EF → OT gO.Y) (hF : ∀ (x : EF) oy, pre x = true → (F x).run = some oy → (Ox (x.1.1) (x.1.2.1) (x.1.2.2.1)).run = some oy) : ac Tryz.prog 81 (gO.aD pre F) :=
  aB ar nY HE (f := 81) (fn := Tryz.f81) (c := al Tryz.f81) (by kernel_rfl) (by kernel_rfl) (by kernel_rfl) (S := gO) (k := 0) (by kernel_rfl) (fun R hR => ag) (n := 1000) (sel := KJ) (fun v o h => by cases h; rfl) (pre := pre) (F := F) (T := fun x => Ox (x.1.1) (x.1.2.1) (x.1.2.2.1)) (fun x Q => akw x Q) hF
def amY (p : Nat) (u s h r Z1 Z2 : ab) : ER :=
  let hh := bG p h h
  let hhh := bG p hh h
  let c := bG p u hh
  let x := jv p (jv p (bG p r r) hhh) (j7 p c 2)
  (x, jv p (bG p r (jv p c x)) (bG p s hhh), bG p h (bG p Z1 Z2))
def amP (p : Nat) (w : ER) (u s h r Z2 : ab) : ER := cond (cr h) (cond (cr r) (acx p w) (⟨0, 0, 0, 0⟩, ⟨0, 0, 0, 0⟩, ⟨0, 0, 0, 0⟩)) (amY p u s h r w.2.2 Z2)
def amQ (p : Nat) (w v : ER) : ER :=
  let pz := bG p w.2.2 w.2.2
  let qz := bG p v.2.2 v.2.2
  let u := bG p w.1 qz
  let s := bG p w.2.1 (bG p qz v.2.2)
  amP p w u s (jv p (bG p v.1 pz) u) (jv p (bG p v.2.1 (bG p pz w.2.2)) s) v.2.2
def agt (p : Nat) (w v : ER) : ER := cond (cr w.2.2) v (cond (cr v.2.2) w (amQ p w v))
def sT (x : EF) : Bool := ak x.1.1
def abV (x : EF) : OT gO.Y := .ok ⟨jP, ((agt (pS x.1.1) x.1.2.1 x.1.2.2.1, ()), ())⟩
theorem agm : ac Tryz.prog 81 (gO.aD sT abV) := Wt _ _ fun x oy hp ho => by
  rw [← ho]
  clear ho
  obtain ⟨⟨c, ⟨X, Y, Z⟩, ⟨X2, Y2, Z2⟩, ⟨⟩⟩, ⟨⟩⟩ := x
  have hs : ak c = true := hp
  show _ = (OT.ok ⟨jP, ((agt (pS c) (X, Y, Z) (X2, Y2, Z2), ()), ())⟩ : OT gO.Y).run
  unfold agt
  dsimp only
  cases hz : cr Z
  · refine (OT.au hz).trans ?_
    cases hz2 : cr Z2
    · refine (OT.au rfl).trans ((aj ?_).trans ?_)
      · simp only [List.all_cons, List.all_nil, Bool.and_true, Bool.and_eq_true]
        exact ⟨hs, hs, hs, hs, hs, hs, hs, hs, hs, hs⟩
      · unfold amQ amP
        dsimp only [cond_false]
        cases hh : cr (jv (pS c) (bG (pS c) X2 (bG (pS c) Z Z)) (bG (pS c) X (bG (pS c) Z2 Z2)))
        · refine (OT.au hh).trans ((aj ?_).trans rfl)
          simp only [List.all_cons, List.all_nil, Bool.and_true, Bool.and_eq_true]
          exact ⟨hs, hs, hs, hs, hs, hs, hs, hs, hs, hs, hs, hs, hs⟩
        · refine (OT.ap hh).trans ?_
          dsimp only [cond_true]
          cases hr : cr (jv (pS c) (bG (pS c) Y2 (bG (pS c) (bG (pS c) Z Z) Z)) (bG (pS c) Y (bG (pS c) (bG (pS c) Z2 Z2) Z2)))
          · exact OT.au hr
          · refine (OT.ap hr).trans ((aj ?_).trans rfl)
            simp only [List.all_cons, List.all_nil, Bool.and_true]
            exact hs
    · exact OT.ap rfl
  · exact OT.ap hz
def vE : cv := (gO.aD sT abV)
theorem Ow : ac Tryz.prog 81 vE := agm
theorem Ov : aF vE := az
def CC : Env := ay 81 vE nZ
theorem wm : aQ Tryz.prog CC := ah Ow nY
theorem xC : av CC := ae Ov pI
theorem Pe : aV Tryz.prog te CC := aJ follows ar wm xC
def md : ao := ⟨[.val false .int, .val true (.prod .elem (.prod .elem .bool)), .val true (.prod .elem (.prod .elem .bool))], [], true, 0, false⟩
abbrev Ws : Type := ((Int) × ((ab × (ab × Bool))) × ((ab × (ab × Bool))) × Unit) × (Unit)
def vD : aw := ⟨[.val true (.prod .elem (.prod .elem .bool))], [], false⟩
def TB : SV → Option aw := fun _ => some vD
def abU (a0 : Int) (a1 : (ab × (ab × Bool))) (a2 : (ab × (ab × Bool))) : OT md.Y :=
  let z0 : ab := { w0 := 0, w1 := 0, w2 := 0, w3 := 0 }
  let z1 : ab × ab × Bool := (z0, z0, true)
  let z2 : ab × ab × ab := ii a1
  let z3 : ab × ab × ab := ii a2
  let z4 : Nat := pS a0
  let z5 : ab × ab × ab := agt z4 z2 z3
  (.br (!onB a0 a1)
  (.ok ⟨vD, ((z1, ()), ())⟩)
  (.br (!onB a0 a2)
    (.ok ⟨vD, ((z1, ()), ())⟩)
    (gd [sT ((a0, z2, z3, ()), ()), jh ((a0, z5, ()), ())] (.ok ⟨vD, ((jZ z4 z5, ()), ())⟩))))
theorem al6 (x : Ws) (Q : md.Y → Prop) : wpf te CC ax 1000 Tryz.f44 (md.inp.inj x).tm (md.inp.inj x).hp (fnK md TB Q) (fun _ _ => False) = (abU (x.1.1) (x.1.2.1) (x.1.2.2.1)).wpR Q := by kernel_rfl
theorem abT (pre : Ws → Bool) (F : Ws → OT md.Y) (hF : ∀ (x : Ws) oy, pre x = true → (F x).run = some oy → (abU (x.1.1) (x.1.2.1) (x.1.2.2.1)).run = some oy) : ac Tryz.prog 44 (md.aD pre F) :=
  aB ar wm Pe (f := 44) (fn := Tryz.f44) (c := al Tryz.f44) (by kernel_rfl) (by kernel_rfl) (by kernel_rfl) (S := md) (k := 0) (by kernel_rfl) (fun R hR => ag) (n := 1000) (sel := TB) (fun v o h => by cases h; rfl) (pre := pre) (F := F) (T := fun x => abU (x.1.1) (x.1.2.1) (x.1.2.2.1)) (fun x Q => al6 x Q) hF
def hX (c : Int) (P Q : Pt) : Pt := cond (onB c P) (cond (onB c Q) (jZ (pS c) (agt (pS c) (ii P) (ii Q))) bp) bp
def TC (_ : Ws) : Bool := true
def ahg (x : Ws) : OT md.Y := .ok ⟨vD, ((hX x.1.1 x.1.2.1 x.1.2.2.1, ()), ())⟩
theorem akv : ac Tryz.prog 44 (md.aD TC ahg) := abT _ _ fun x oy _ ho => by
  rw [← ho]
  clear ho
  obtain ⟨⟨c, P, Q, ⟨⟩⟩, ⟨⟩⟩ := x
  show _ = (OT.ok ⟨vD, ((hX c P Q, ()), ())⟩ : OT md.Y).run
  rcases (Bool.eq_false_or_eq_true (onB c P)).symm with h1 | h1
  · have e : hX c P Q = bp := by unfold hX; rw [h1]; rfl
    rw [e]
    exact OT.ap (b := !onB c P) (by rw [h1]; rfl)
  · have hs := yf h1
    refine (OT.au (b := !onB c P) (by rw [h1]; rfl)).trans ?_
    rcases (Bool.eq_false_or_eq_true (onB c Q)).symm with h2 | h2
    · have e : hX c P Q = bp := by unfold hX; rw [h1, h2]; rfl
      rw [e]
      exact OT.ap (b := !onB c Q) (by rw [h2]; rfl)
    · have e : hX c P Q = jZ (pS c) (agt (pS c) (ii P) (ii Q)) := by unfold hX; rw [h1, h2]; rfl
      rw [e]
      refine (OT.au (b := !onB c Q) (by rw [h2]; rfl)).trans ((aj ?_).trans rfl)
      simp only [List.all_cons, List.all_nil, Bool.and_true, Bool.and_eq_true]
      exact ⟨hs, hs⟩
def Bo : cv := (md.aD TC ahg)
theorem Wr : ac Tryz.prog 44 Bo := akv
theorem Wq : aF Bo := az
def E8 : Env := ay 44 Bo CC
theorem tP : aQ Tryz.prog E8 := ah Wr wm
theorem CB : av E8 := ae Wq xC
theorem E7 : aV Tryz.prog te E8 := aJ follows ar tP CB
def gN : ao := ⟨[.val false .int, .val true .elem, .val true (.prod .elem (.prod .elem .bool))], [], true, 0, false⟩
abbrev Ez : Type := ((Int) × (ab) × ((ab × (ab × Bool))) × Unit) × (Unit)
def sQ : Shape := ⟨39, [(4, .ptr 0 0 0), (5, .ptr 1 0 0), (6, .ptr 2 0 0), (7, .val false .int), (8, .ptr 3 0 0), (9, .val false .int)], [(0, .row .u64), (1, .cells [.val false .u64, .val false .u64, .val false .u64, .val false .u64, .val false .u64, .val false .u64, .val false .u64, .val false .u64, .val false .bool]), (2, .cells [.val false .u64, .val false .u64, .val false .u64, .val false .u64, .val false .u64, .val false .u64, .val false .u64, .val false .u64, .val false .bool]), (3, .cells [.val false .u64, .val false .u64, .val false .u64, .val false .u64, .val false .u64, .val false .u64, .val false .u64, .val false .u64, .val false .u64, .val false .u64, .val false .u64, .val false .u64])], 0, true⟩
abbrev ci : Type := ((Unit) × (Unit) × (Unit) × (Int) × (Unit) × (Int) × Unit) × ((List (UInt64)) × ((UInt64) × (UInt64) × (UInt64) × (UInt64) × (UInt64) × (UInt64) × (UInt64) × (UInt64) × (Bool) × Unit) × ((UInt64) × (UInt64) × (UInt64) × (UInt64) × (UInt64) × (UInt64) × (UInt64) × (UInt64) × (Bool) × Unit) × ((UInt64) × (UInt64) × (UInt64) × (UInt64) × (UInt64) × (UInt64) × (UInt64) × (UInt64) × (UInt64) × (UInt64) × (UInt64) × (UInt64) × Unit) × Unit)
def oX : Shape := ⟨39, [(6, .ptr 0 0 0), (7, .val false .int), (8, .ptr 1 0 0)], [(0, .cells [.val false .u64, .val false .u64, .val false .u64, .val false .u64, .val false .u64, .val false .u64, .val false .u64, .val false .u64, .val false .bool]), (1, .cells [.val false .u64, .val false .u64, .val false .u64, .val false .u64, .val false .u64, .val false .u64, .val false .u64, .val false .u64, .val false .u64, .val false .u64, .val false .u64, .val false .u64])], 0, true⟩
abbrev ji : Type := ((Unit) × (Int) × (Unit) × Unit) × (((UInt64) × (UInt64) × (UInt64) × (UInt64) × (UInt64) × (UInt64) × (UInt64) × (UInt64) × (Bool) × Unit) × ((UInt64) × (UInt64) × (UInt64) × (UInt64) × (UInt64) × (UInt64) × (UInt64) × (UInt64) × (UInt64) × (UInt64) × (UInt64) × (UInt64) × Unit) × Unit)
def To : SE → Option Shape := jt [(0, oX)] none
def agf (a7 : Int) (a9 : Int) (c0 : List (UInt64)) (c1_0 : UInt64) (c1_1 : UInt64) (c1_2 : UInt64) (c1_3 : UInt64) (c1_4 : UInt64) (c1_5 : UInt64) (c1_6 : UInt64) (c1_7 : UInt64) (c1_8 : Bool) (c2_0 : UInt64) (c2_1 : UInt64) (c2_2 : UInt64) (c2_3 : UInt64) (c2_4 : UInt64) (c2_5 : UInt64) (c2_6 : UInt64) (c2_7 : UInt64) (c2_8 : Bool) (c3_0 : UInt64) (c3_1 : UInt64) (c3_2 : UInt64) (c3_3 : UInt64) (c3_4 : UInt64) (c3_5 : UInt64) (c3_6 : UInt64) (c3_7 : UInt64) (c3_8 : UInt64) (c3_9 : UInt64) (c3_10 : UInt64) (c3_11 : UInt64) : OT (Sum ci aL) :=
  let z0 : ab × ab × ab := ({ w0 := c3_0, w1 := c3_1, w2 := c3_2, w3 := c3_3 }, { w0 := c3_4, w1 := c3_5, w2 := c3_6, w3 := c3_7 }, { w0 := c3_8, w1 := c3_9, w2 := c3_10, w3 := c3_11 })
  let z1 : Nat := pS a7
  let z2 : ab × ab × ab := acx z1 z0
  let z3 : ab × ab × ab := ii ({ w0 := c1_0, w1 := c1_1, w2 := c1_2, w3 := c1_3 }, { w0 := c1_4, w1 := c1_5, w2 := c1_6, w3 := c1_7 }, c1_8)
  let z4 : Bool := inR (a9 - (1 : Int))
  let z5 : ab × ab × ab := agt z1 z2 z3
  let z6 := z5.fst
  let z7 := z5.snd
  let z8 := z7.fst
  let z9 := z7.snd
  let z10 := z2.fst
  let z11 := z2.snd
  let z12 := z11.fst
  let z13 := z11.snd
  (.br (decide ((0 : Int) ≤ a9))
  (gd [lM ((a7, z0, ()), ()), decide (4 ≤ List.length c0)] (.br (pw { w0 := List.getD c0 0 0, w1 := List.getD c0 1 0, w2 := List.getD c0 2 0, w3 := List.getD c0 3 0 } a9)
    (gd [sT ((a7, z2, z3, ()), ()), z4] (.ok (.inl (((), ((), ((), (a7, ((), (a9 - (1 : Int), ())))))), (c0, ((c1_0, (c1_1, (c1_2, (c1_3, (c1_4, (c1_5, (c1_6, (c1_7, (c1_8, ()))))))))), ((c2_0, (c2_1, (c2_2, (c2_3, (c2_4, (c2_5, (c2_6, (c2_7, (c2_8, ()))))))))), ((z6.w0, (z6.w1, (z6.w2, (z6.w3, (z8.w0, (z8.w1, (z8.w2, (z8.w3, (z9.w0, (z9.w1, (z9.w2, (z9.w3, ())))))))))))), ()))))))))
    (gd [z4] (.ok (.inl (((), ((), ((), (a7, ((), (a9 - (1 : Int), ())))))), (c0, ((c1_0, (c1_1, (c1_2, (c1_3, (c1_4, (c1_5, (c1_6, (c1_7, (c1_8, ()))))))))), ((c2_0, (c2_1, (c2_2, (c2_3, (c2_4, (c2_5, (c2_6, (c2_7, (c2_8, ()))))))))), ((z10.w0, (z10.w1, (z10.w2, (z10.w3, (z12.w0, (z12.w1, (z12.w2, (z12.w3, (z13.w0, (z13.w1, (z13.w2, (z13.w3, ())))))))))))), ()))))))))))
  (.ok (.inr ⟨(.exit 0, oX), (((), (a7, ((), ()))), ((c2_0, (c2_1, (c2_2, (c2_3, (c2_4, (c2_5, (c2_6, (c2_7, (c2_8, ()))))))))), ((c3_0, (c3_1, (c3_2, (c3_3, (c3_4, (c3_5, (c3_6, (c3_7, (c3_8, (c3_9, (c3_10, (c3_11, ())))))))))))), ())))⟩)))
def sR (s : ci) : OT (Sum ci aL) := agf (s.1.2.2.2.1) (s.1.2.2.2.2.2.1) (s.2.1) (s.2.2.1.1) (s.2.2.1.2.1) (s.2.2.1.2.2.1) (s.2.2.1.2.2.2.1) (s.2.2.1.2.2.2.2.1) (s.2.2.1.2.2.2.2.2.1) (s.2.2.1.2.2.2.2.2.2.1) (s.2.2.1.2.2.2.2.2.2.2.1) (s.2.2.1.2.2.2.2.2.2.2.2.1) (s.2.2.2.1.1) (s.2.2.2.1.2.1) (s.2.2.2.1.2.2.1) (s.2.2.2.1.2.2.2.1) (s.2.2.2.1.2.2.2.2.1) (s.2.2.2.1.2.2.2.2.2.1) (s.2.2.2.1.2.2.2.2.2.2.1) (s.2.2.2.1.2.2.2.2.2.2.2.1) (s.2.2.2.1.2.2.2.2.2.2.2.2.1) (s.2.2.2.2.1.1) (s.2.2.2.2.1.2.1) (s.2.2.2.2.1.2.2.1) (s.2.2.2.2.1.2.2.2.1) (s.2.2.2.2.1.2.2.2.2.1) (s.2.2.2.2.1.2.2.2.2.2.1) (s.2.2.2.2.1.2.2.2.2.2.2.1) (s.2.2.2.2.1.2.2.2.2.2.2.2.1) (s.2.2.2.2.1.2.2.2.2.2.2.2.2.1) (s.2.2.2.2.1.2.2.2.2.2.2.2.2.2.1) (s.2.2.2.2.1.2.2.2.2.2.2.2.2.2.2.1) (s.2.2.2.2.1.2.2.2.2.2.2.2.2.2.2.2.1)
theorem agc (s : ci) (Q : Sum ci aL → Prop) : wps te E8 ax 1000 (bE (al Tryz.f45) 0) (sQ.inj s) (cM sQ To (Q : Sum sQ.T aL → Prop)) = (sR s).wpR Q := by kernel_rfl
def yo (g0_0 : ci → ji) (s : ci) : OT aL := (.ok ⟨(.exit 0, oX), g0_0 s⟩)
def oW : aw := ⟨[.val true (.prod .elem (.prod .elem .bool))], [], false⟩
def KA : SV → Option aw := fun _ => some oW
def Ok (ok0 : ci → Bool) (g0_0 : ci → ji) (a0 : Int) (a1 : ab) (a2 : (ab × (ab × Bool))) : OT gN.Y :=
  let z0 : ab := { w0 := 0, w1 := 0, w2 := 0, w3 := 0 }
  let z1 : Int := WS a0 (1 : Int)
  let z2 : PUnit × PUnit × PUnit × Int × PUnit × Int × PUnit := ((), (), (), a0, (), (255 : Int), ())
  let z3 : ab := wR (pS z1) a1 z0
  let z4 : (UInt64 × UInt64 × UInt64 × UInt64 × UInt64 × UInt64 × UInt64 × UInt64 × Bool × PUnit) × (UInt64 × UInt64 × UInt64 × UInt64 × UInt64 × UInt64 × UInt64 × UInt64 × Bool × PUnit) × (UInt64 × UInt64 × UInt64 × UInt64 × UInt64 × UInt64 × UInt64 × UInt64 × UInt64 × UInt64 × UInt64 × UInt64 × PUnit) × PUnit := ((a2.fst.w0, a2.fst.w1, a2.fst.w2, a2.fst.w3, a2.snd.fst.w0, a2.snd.fst.w1, a2.snd.fst.w2, a2.snd.fst.w3, a2.snd.snd, ()), ((0 : UInt64), (0 : UInt64), (0 : UInt64), (0 : UInt64), (0 : UInt64), (0 : UInt64), (0 : UInt64), (0 : UInt64), false, ()), ((0 : UInt64), (0 : UInt64), (0 : UInt64), (0 : UInt64), (0 : UInt64), (0 : UInt64), (0 : UInt64), (0 : UInt64), (0 : UInt64), (0 : UInt64), (0 : UInt64), (0 : UInt64), ()), ())
  let z5 : (PUnit × PUnit × PUnit × Int × PUnit × Int × PUnit) × List UInt64 × (UInt64 × UInt64 × UInt64 × UInt64 × UInt64 × UInt64 × UInt64 × UInt64 × Bool × PUnit) × (UInt64 × UInt64 × UInt64 × UInt64 × UInt64 × UInt64 × UInt64 × UInt64 × Bool × PUnit) × (UInt64 × UInt64 × UInt64 × UInt64 × UInt64 × UInt64 × UInt64 × UInt64 × UInt64 × UInt64 × UInt64 × UInt64 × PUnit) × PUnit := (z2, [z3.w0, z3.w1, z3.w2, z3.w3], z4)
  let z6 : (PUnit × Int × PUnit × PUnit) × (UInt64 × UInt64 × UInt64 × UInt64 × UInt64 × UInt64 × UInt64 × UInt64 × Bool × PUnit) × (UInt64 × UInt64 × UInt64 × UInt64 × UInt64 × UInt64 × UInt64 × UInt64 × UInt64 × UInt64 × UInt64 × UInt64 × PUnit) × PUnit := g0_0 z5
  let z7 := z6.fst.snd.fst
  let z8 := z6.snd.snd.fst
  let z9 := z8.snd
  let z10 := z9.snd
  let z11 := z10.snd
  let z12 := z11.snd
  let z13 := z12.snd
  let z14 := z13.snd
  let z15 := z14.snd
  let z16 := z15.snd
  let z17 := z16.snd
  let z18 := z17.snd
  let z19 : ab × ab × ab := ({ w0 := z8.fst, w1 := z9.fst, w2 := z10.fst, w3 := z11.fst }, { w0 := z12.fst, w1 := z13.fst, w2 := z14.fst, w3 := z15.fst }, { w0 := z16.fst, w1 := z17.fst, w2 := z18.fst, w3 := z18.snd.fst })
  let z20 : (PUnit × PUnit × PUnit × Int × PUnit × Int × PUnit) × List UInt64 × (UInt64 × UInt64 × UInt64 × UInt64 × UInt64 × UInt64 × UInt64 × UInt64 × Bool × PUnit) × (UInt64 × UInt64 × UInt64 × UInt64 × UInt64 × UInt64 × UInt64 × UInt64 × Bool × PUnit) × (UInt64 × UInt64 × UInt64 × UInt64 × UInt64 × UInt64 × UInt64 × UInt64 × UInt64 × UInt64 × UInt64 × UInt64 × PUnit) × PUnit := (z2, [(0 : UInt64), (0 : UInt64), (0 : UInt64), (0 : UInt64)], z4)
  let z21 : (PUnit × Int × PUnit × PUnit) × (UInt64 × UInt64 × UInt64 × UInt64 × UInt64 × UInt64 × UInt64 × UInt64 × Bool × PUnit) × (UInt64 × UInt64 × UInt64 × UInt64 × UInt64 × UInt64 × UInt64 × UInt64 × UInt64 × UInt64 × UInt64 × UInt64 × PUnit) × PUnit := g0_0 z20
  let z22 := z21.fst.snd.fst
  let z23 := z21.snd.snd.fst
  let z24 := z23.snd
  let z25 := z24.snd
  let z26 := z25.snd
  let z27 := z26.snd
  let z28 := z27.snd
  let z29 := z28.snd
  let z30 := z29.snd
  let z31 := z30.snd
  let z32 := z31.snd
  let z33 := z32.snd
  let z34 : ab × ab × ab := ({ w0 := z23.fst, w1 := z24.fst, w2 := z25.fst, w3 := z26.fst }, { w0 := z27.fst, w1 := z28.fst, w2 := z29.fst, w3 := z30.fst }, { w0 := z31.fst, w1 := z32.fst, w2 := z33.fst, w3 := z33.snd.fst })
  (.br (!onB a0 a2)
  (.ok ⟨oW, (((z0, z0, true), ()), ())⟩)
  (.br (ak z1)
    (gd [ok0 z5, jh ((z7, z19, ()), ())] (.ok ⟨oW, ((jZ (pS z7) z19, ()), ())⟩))
    (gd [ok0 z20, jh ((z22, z34, ()), ())] (.ok ⟨oW, ((jZ (pS z22) z34, ()), ())⟩))))
theorem akr (ok0 : ci → Bool) (g0_0 : ci → ji) (x : Ez) (Q : gN.Y → Prop) : wpf te E8 (bg 0 (db sQ 0 ok0 (yo g0_0)) ax) 1000 Tryz.f45 (gN.inp.inj x).tm (gN.inp.inj x).hp (fnK gN KA Q) (fun _ _ => False) = (Ok ok0 g0_0 (x.1.1) (x.1.2.1) (x.1.2.2.1)).wpR Q := by kernel_rfl
theorem We (ok0 : ci → Bool) (g0_0 : ci → ji) (h0 : ∀ s : ci, ok0 s = true → ∃ m e, aq (sR) m s = some e ∧ (yo g0_0 s).run = some e) (pre : Ez → Bool) (F : Ez → OT gN.Y) (hF : ∀ (x : Ez) oy, pre x = true → (F x).run = some oy → (Ok ok0 g0_0 (x.1.1) (x.1.2.1) (x.1.2.2.1)).run = some oy) : ac Tryz.prog 45 (gN.aD pre F) :=
  aB ar tP E7 (f := 45) (fn := Tryz.f45) (c := al Tryz.f45) (by kernel_rfl) (by kernel_rfl) (by kernel_rfl) (S := gN) (k := 0) (by kernel_rfl) (fun R hR => (aC (c := (al Tryz.f45)) (by kernel_rfl) (id := 0) (by kernel_rfl) (bo ar tP E7 (sh := sQ) hR (xs := To) (aE (by kernel_rfl) (by kernel_rfl) hR) aS ag (n := 1000) (T := sR) (fun s Q => agc s Q) (ok := ok0) (f := yo g0_0) h0) ag)) (n := 1000) (sel := KA) (fun v o h => by cases h; rfl) (pre := pre) (F := F) (T := fun x => Ok ok0 g0_0 (x.1.1) (x.1.2.1) (x.1.2.2.1)) (fun x Q => akr ok0 g0_0 x Q) hF
abbrev C9 : Type := UInt64 × UInt64 × UInt64 × UInt64 × UInt64 × UInt64 × UInt64 × UInt64 × Bool × Unit
abbrev C12 : Type := UInt64 × UInt64 × UInt64 × UInt64 × UInt64 × UInt64 × UInt64 × UInt64 × UInt64 × UInt64 × UInt64 × UInt64 × Unit
def j1 (t : C9) : Pt := (⟨t.1, t.2.1, t.2.2.1, t.2.2.2.1⟩, ⟨t.2.2.2.2.1, t.2.2.2.2.2.1, t.2.2.2.2.2.2.1, t.2.2.2.2.2.2.2.1⟩, t.2.2.2.2.2.2.2.2.1)
def al5 (t : C12) : ER := (⟨t.1, t.2.1, t.2.2.1, t.2.2.2.1⟩, ⟨t.2.2.2.2.1, t.2.2.2.2.2.1, t.2.2.2.2.2.2.1, t.2.2.2.2.2.2.2.1⟩, ⟨t.2.2.2.2.2.2.2.2.1, t.2.2.2.2.2.2.2.2.2.1, t.2.2.2.2.2.2.2.2.2.2.1, t.2.2.2.2.2.2.2.2.2.2.2.1⟩)
def aj0 (w : ER) : C12 := (w.1.w0, w.1.w1, w.1.w2, w.1.w3, w.2.1.w0, w.2.1.w1, w.2.1.w2, w.2.1.w3, w.2.2.w0, w.2.2.w1, w.2.2.w2, w.2.2.w3, ())
def qo (p : Nat) (k : ab) (P : ER) (n : Nat) (w : ER) : ER := cond (pw k (255 - (n : Int))) (agt p (acx p w) P) (acx p w)
def Bh (s : ci) : Bool := ak s.1.2.2.2.1 && decide (s.1.2.2.2.2.2.1 = 255 ∧ s.2.1.length = 4)
def Tp (s : ci) : ji := (((), s.1.2.2.2.1, (), ()), (s.2.2.2.1, aj0 (upto (qo (pS s.1.2.2.2.1) (elemOf s.2.1) (ii (j1 s.2.2.1))) (al5 s.2.2.2.2.1) 256), ()))
theorem age : ∀ s : ci, Bh s = true → ∃ m e, aq sR m s = some e ∧ (yo Tp s).run = some e := by
  rintro ⟨⟨⟨⟩, ⟨⟩, ⟨⟩, c, ⟨⟩, i, ⟨⟩⟩, ⟨l, ⟨p0, p1, p2, p3, p4, p5, p6, p7, p8, ⟨⟩⟩, ⟨q0, q1, q2, q3, q4, q5, q6, q7, q8, ⟨⟩⟩, ⟨w0, w1, w2, w3, w4, w5, w6, w7, w8, w9, w10, w11, ⟨⟩⟩, ⟨⟩⟩⟩ h
  simp only [Bh, Bool.and_eq_true, decide_eq_true_eq] at h
  obtain ⟨hs, rfl, hl⟩ := h
  obtain ⟨k, rfl⟩ : ∃ a, l = lst a := ⟨elemOf l, (aZ hl).symm⟩
  have := (bN (T := sR) (fun n w => ((((), (), (), c, (), 255 - (n : Int), ()), (lst k, (p0, p1, p2, p3, p4, p5, p6, p7, p8, ()), (q0, q1, q2, q3, q4, q5, q6, q7, q8, ()), aj0 w, ())) : ci)) (qo (pS c) k (ii (j1 (p0, p1, p2, p3, p4, p5, p6, p7, p8, ()))))
    (fun w => (⟨(.exit 0, oX), (((), c, (), ()), ((q0, q1, q2, q3, q4, q5, q6, q7, q8, ()), aj0 w, ()))⟩ : aL)) 256 (al5 (w0, w1, w2, w3, w4, w5, w6, w7, w8, w9, w10, w11, ())) (fun _ _ => True) trivial (fun n w hn _ => ⟨?_, trivial⟩) (fun w _ => ?_)).1
  · obtain ⟨m, hm⟩ := this
    exact ⟨m, _, hm, rfl⟩
  · have e2 : (255 : Int) - (n : Int) - 1 = 255 - ((n + 1 : Nat) : Int) := by omega
    refine (OT.ap (decide_eq_true (by dsimp only; omega))).trans ((aj ?_).trans ?_)
    · simp only [List.all_cons, List.all_nil, Bool.and_true, Bool.and_eq_true]
      exact ⟨hs, rfl⟩
    · rcases (Bool.eq_false_or_eq_true (pw k (255 - (n : Int)))).symm with hb | hb
      · have e : qo (pS c) k (ii (j1 (p0, p1, p2, p3, p4, p5, p6, p7, p8, ()))) n w = acx (pS c) w := by unfold qo; rw [hb]; rfl
        rw [e, ← e2]
        refine (OT.au hb).trans ((aj ?_).trans rfl)
        simp only [List.all_cons, List.all_nil, Bool.and_true]
        exact bz (by omega)
      · have e : qo (pS c) k (ii (j1 (p0, p1, p2, p3, p4, p5, p6, p7, p8, ()))) n w = agt (pS c) (acx (pS c) w) (ii (j1 (p0, p1, p2, p3, p4, p5, p6, p7, p8, ()))) := by unfold qo; rw [hb]; rfl
        rw [e, ← e2]
        refine (OT.ap hb).trans ((aj ?_).trans rfl)
        simp only [List.all_cons, List.all_nil, Bool.and_true, Bool.and_eq_true]
        exact ⟨hs, bz (by omega)⟩
  · exact OT.au (decide_eq_false (by dsimp only; omega))
def amn : ER := (⟨0, 0, 0, 0⟩, ⟨0, 0, 0, 0⟩, ⟨0, 0, 0, 0⟩)
def amL (p : Nat) (k : ab) (P : ER) : ER := upto (qo p k P) amn 256
def LZ (c : Int) (k : ab) : ab := wR (pS (WS c 1)) k ⟨0, 0, 0, 0⟩
def Jz (c : Int) (k : ab) (P : Pt) : Pt := cond (onB c P) (jZ (pS c) (amL (pS c) (LZ c k) (ii P))) bp
theorem ue {c : Int} (h : ak c = true) : ak (WS c 1) = true := by
  rcases cz h with rfl | rfl | rfl | rfl <;> decide +kernel
def KB (_ : Ez) : Bool := true
def abF (x : Ez) : OT gN.Y := .ok ⟨oW, ((Jz x.1.1 x.1.2.1 x.1.2.2.1, ()), ())⟩
theorem agd : ac Tryz.prog 45 (gN.aD KB abF) := We Bh Tp age _ _ fun x oy _ ho => by
  rw [← ho]
  clear ho
  obtain ⟨⟨c, k, P, ⟨⟩⟩, ⟨⟩⟩ := x
  show _ = (OT.ok ⟨oW, ((Jz c k P, ()), ())⟩ : OT gN.Y).run
  rcases (Bool.eq_false_or_eq_true (onB c P)).symm with h1 | h1
  · have e : Jz c k P = bp := by unfold Jz; rw [h1]; rfl
    rw [e]
    exact OT.ap (b := !onB c P) (by rw [h1]; rfl)
  · have hs := yf h1
    have e : Jz c k P = jZ (pS c) (amL (pS c) (LZ c k) (ii P)) := by unfold Jz; rw [h1]; rfl
    rw [e]
    refine (OT.au (b := !onB c P) (by rw [h1]; rfl)).trans ((OT.ap (ue hs)).trans ((aj ?_).trans ?_))
    · simp only [List.all_cons, List.all_nil, Bool.and_true, Bool.and_eq_true]
      refine ⟨?_, hs⟩
      refine (Bool.and_eq_true _ _).mpr ⟨hs, ?_⟩
      exact decide_eq_true (p := (255 : Int) = 255 ∧ (lst (LZ c k)).length = 4) ⟨rfl, rfl⟩
    · rfl
def vz : cv := (gN.aD KB abF)
theorem Oj : ac Tryz.prog 45 vz := agd
theorem Oi : aF vz := az
def Cv : Env := ay 45 vz E8
theorem wk : aQ Tryz.prog Cv := ah Oj tP
theorem xA : av Cv := ae Oi CB
theorem Pc : aV Tryz.prog te Cv := aJ follows ar wk xA
def e7 : ao := ⟨[.val false .int], [], true, 0, false⟩
abbrev ww : Type := ((Int) × Unit) × (Unit)
def gS : aw := ⟨[.val true .elem, .val false .int], [], false⟩
def ID : SV → Option aw := fun _ => some gS
def Mw (a0 : Int) : OT e7.Y :=
  (.br (a0 == (0 : Int))
  (.ok ⟨gS, (({ w0 := 16513537, w1 := 0, w2 := 0, w3 := 0 }, ((0 : Int), ())), ())⟩)
  (.br (a0 == (1 : Int))
    (.ok ⟨gS, (({ w0 := 16521217, w1 := 0, w2 := 0, w3 := 0 }, ((0 : Int), ())), ())⟩)
    (.br (a0 == (2 : Int))
      (.ok ⟨gS, (({ w0 := 11037532056220336129, w1 := 2469829653914515739, w2 := 0, w3 := 4611686018427387904 }, ((0 : Int), ())), ())⟩)
      (.br (a0 == (3 : Int))
        (.ok ⟨gS, (({ w0 := 10108024940646105089, w1 := 2469829653919213789, w2 := 0, w3 := 4611686018427387904 }, ((0 : Int), ())), ())⟩)
        (.ok ⟨gS, (({ w0 := 0, w1 := 0, w2 := 0, w3 := 0 }, ((20 : Int), ())), ())⟩)))))
theorem ai7 (x : ww) (Q : e7.Y → Prop) : wpf te Cv ax 1000 Tryz.f92 (e7.inp.inj x).tm (e7.inp.inj x).hp (fnK e7 ID Q) (fun _ _ => False) = (Mw (x.1.1)).wpR Q := by kernel_rfl
theorem Uq (pre : ww → Bool) (F : ww → OT e7.Y) (hF : ∀ (x : ww) oy, pre x = true → (F x).run = some oy → (Mw (x.1.1)).run = some oy) : ac Tryz.prog 92 (e7.aD pre F) :=
  aB ar wk Pc (f := 92) (fn := Tryz.f92) (c := al Tryz.f92) (by kernel_rfl) (by kernel_rfl) (by kernel_rfl) (S := e7) (k := 0) (by kernel_rfl) (fun R hR => ag) (n := 1000) (sel := ID) (fun v o h => by cases h; rfl) (pre := pre) (F := F) (T := fun x => Mw (x.1.1)) (fun x Q => ai7 x Q) hF
def IE (_ : ww) : Bool := true
def Zo (x : ww) : OT e7.Y := .br (ak x.1.1) (.ok ⟨gS, (((bJ x.1.1.toNat).1, ((0 : Int), ())), ())⟩) (.ok ⟨gS, ((⟨0, 0, 0, 0⟩, ((20 : Int), ())), ())⟩)
theorem RQ : ac Tryz.prog 92 (e7.aD IE Zo) := Uq _ _ fun x oy _ ho => by
  rw [← ho]
  clear ho
  obtain ⟨⟨s, ⟨⟩⟩, ⟨⟩⟩ := x
  cases hs : ak s
  · obtain ⟨h0, h1, h2, h3⟩ := n3 hs
    exact (OT.au h0).trans ((OT.au h1).trans ((OT.au h2).trans ((OT.au h3).trans (OT.au (b := ak s) hs).symm)))
  · rcases cz hs with h | h | h | h
    all_goals
      have h : s = _ := h
      subst h
      rfl
def uG : cv := (e7.aD IE Zo)
theorem Mv : ac Tryz.prog 92 uG := RQ
theorem Mu : aF uG := az
def BM : Env := ay 92 uG Cv
theorem vU : aQ Tryz.prog BM := ah Mv wk
theorem xb : av BM := ae Mu xA
theorem OZ : aV Tryz.prog te BM := aJ follows ar vU xb
def fc : ao := ⟨[.val false .int], [], true, 0, false⟩
abbrev wz : Type := ((Int) × Unit) × (Unit)
def lp : aw := ⟨[.val false .int, .val false .int], [], false⟩
def IY : SV → Option aw := fun _ => some lp
def MQ (a0 : Int) : OT fc.Y :=
  (.br (decide (a0 < (0 : Int)))
  (.ok ⟨lp, (((0 : Int), ((20 : Int), ())), ())⟩)
  (.br (decide ((3 : Int) < a0))
    (.ok ⟨lp, (((0 : Int), ((20 : Int), ())), ())⟩)
    (gd [inB a0 4, decide (Int.toNat a0 + 0 < 4)] (.ok ⟨lp, ((List.getD [(9 : Int), (11 : Int), (32 : Int), (32 : Int)] (Int.toNat a0 + 0) (0 : Int), ((0 : Int), ())), ())⟩))))
theorem ajd (x : wz) (Q : fc.Y → Prop) : wpf te BM ax 1000 Tryz.f131 (fc.inp.inj x).tm (fc.inp.inj x).hp (fnK fc IY Q) (fun _ _ => False) = (MQ (x.1.1)).wpR Q := by kernel_rfl
theorem UH (pre : wz → Bool) (F : wz → OT fc.Y) (hF : ∀ (x : wz) oy, pre x = true → (F x).run = some oy → (MQ (x.1.1)).run = some oy) : ac Tryz.prog 131 (fc.aD pre F) :=
  aB ar vU OZ (f := 131) (fn := Tryz.f131) (c := al Tryz.f131) (by kernel_rfl) (by kernel_rfl) (by kernel_rfl) (S := fc) (k := 0) (by kernel_rfl) (fun R hR => ag) (n := 1000) (sel := IY) (fun v o h => by cases h; rfl) (pre := pre) (F := F) (T := fun x => MQ (x.1.1)) (fun x Q => ajd x Q) hF
def IZ (_ : wz) : Bool := true
def ZC (x : wz) : OT fc.Y := .br (ak x.1.1) (.ok ⟨lp, (((bJ x.1.1.toNat).2.1, ((0 : Int), ())), ())⟩) (.ok ⟨lp, (((0 : Int), ((20 : Int), ())), ())⟩)
theorem RZ : ac Tryz.prog 131 (fc.aD IZ ZC) := UH _ _ fun x oy _ ho => by
  rw [← ho]
  clear ho
  obtain ⟨⟨s, ⟨⟩⟩, ⟨⟩⟩ := x
  rcases (Bool.eq_false_or_eq_true (ak s)).symm with hs | hs
  · refine Eq.trans ?_ (OT.au (b := ak s) hs).symm
    by_cases h0 : s < 0
    · exact OT.ap (decide_eq_true h0)
    · refine (OT.au (decide_eq_false h0)).trans (OT.ap (decide_eq_true ?_))
      show (3 : Int) < s
      simp only [ak, Bool.and_eq_false_iff, decide_eq_false_iff_not] at hs
      omega
  · rcases cz hs with h | h | h | h
    all_goals
      have h : s = _ := h
      subst h
      rfl
def uR : cv := (fc.aD IZ ZC)
theorem MP : ac Tryz.prog 131 uR := RZ
theorem MO : aF uR := az
def BT : Env := ay 131 uR BM
theorem v5 : aQ Tryz.prog BT := ah MP vU
theorem xi : av BT := ae MO xb
theorem O3 : aV Tryz.prog te BT := aJ follows ar v5 xi
def gE : ao := ⟨[.val false .int], [], true, 0, false⟩
abbrev Dr : Type := ((Int) × Unit) × (Unit)
def rV : aw := ⟨[.val false .u64], [], false⟩
def IG : SV → Option aw := fun _ => some rV
def Mz (a0 : Int) : OT gE.Y :=
  (.br (a0 == (0 : Int))
  (.ok ⟨rV, (((16513537 : UInt64), ()), ())⟩)
  (.ok ⟨rV, (((16521217 : UInt64), ()), ())⟩))
theorem ai8 (x : Dr) (Q : gE.Y → Prop) : wpf te BT ax 1000 Tryz.f102 (gE.inp.inj x).tm (gE.inp.inj x).hp (fnK gE IG Q) (fun _ _ => False) = (Mz (x.1.1)).wpR Q := by kernel_rfl
theorem Uv (pre : Dr → Bool) (F : Dr → OT gE.Y) (hF : ∀ (x : Dr) oy, pre x = true → (F x).run = some oy → (Mz (x.1.1)).run = some oy) : ac Tryz.prog 102 (gE.aD pre F) :=
  aB ar v5 O3 (f := 102) (fn := Tryz.f102) (c := al Tryz.f102) (by kernel_rfl) (by kernel_rfl) (by kernel_rfl) (S := gE) (k := 0) (by kernel_rfl) (fun R hR => ag) (n := 1000) (sel := IG) (fun v o h => by cases h; rfl) (pre := pre) (F := F) (T := fun x => Mz (x.1.1)) (fun x Q => ai8 x Q) hF
def HJ (s : Int) : UInt64 := cond (s == 0) 16513537 16521217
def IH (_ : Dr) : Bool := true
def Zq (x : Dr) : OT gE.Y := .ok ⟨rV, ((HJ x.1.1, ()), ())⟩
theorem ae0 : ac Tryz.prog 102 (gE.aD IH Zq) := Uv _ _ fun x oy _ ho => by
  rw [← ho]
  clear ho
  obtain ⟨⟨s, ⟨⟩⟩, ⟨⟩⟩ := x
  show _ = (OT.ok ⟨rV, ((HJ s, ()), ())⟩ : OT gE.Y).run
  unfold HJ
  rcases (Bool.eq_false_or_eq_true (s == 0)).symm with h | h
  · rw [h]; exact OT.au h
  · rw [h]; exact OT.ap h
def uI : cv := (gE.aD IH Zq)
theorem My : ac Tryz.prog 102 uI := ae0
theorem Mx : aF uI := az
def vV : Env := ay 102 uI BT
theorem o8 : aQ Tryz.prog vV := ah My v5
theorem xd : av vV := ae Mx xi
theorem BN : aV Tryz.prog te vV := aJ follows ar o8 xd
def df : ao := ⟨[.val true .elem, .val true .elem], [], true, 0, false⟩
abbrev om : Type := ((ab) × (ab) × Unit) × (Unit)
def kl : Shape := ⟨24, [(2, .ptr 0 0 0), (3, .ptr 1 0 0), (5, .val false .int)], [(0, .row .u64), (1, .row .u64)], 0, true⟩
abbrev aO : Type := ((Unit) × (Unit) × (Int) × Unit) × ((List (UInt64)) × (List (UInt64)) × Unit)
def gu : Shape := ⟨24, [(4, .val false .bool)], [], 0, true⟩
abbrev fa : Type := ((Bool) × Unit) × (Unit)
def jD : Shape := ⟨24, [], [], 0, true⟩
abbrev fb : Type := (Unit) × (Unit)
def Dz : SE → Option Shape := jt [(0, jD)] (some gu)
def UG (a5 : Int) (c0 : List (UInt64)) (c1 : List (UInt64)) : OT (Sum aO aL) :=
  let z0 : Bool := inB a5 4
  let z1 : Bool := decide (Int.toNat a5 + 0 < List.length c0)
  let z2 : Bool := decide (Int.toNat a5 + 0 < List.length c1)
  let z3 : UInt64 := List.getD c0 (Int.toNat a5 + 0) (0 : UInt64)
  let z4 : UInt64 := List.getD c1 (Int.toNat a5 + 0) (0 : UInt64)
  (.br (decide ((0 : Int) ≤ a5))
  (gd [z0, z1, z0, z2] (.br (!z3 == z4)
    (gd [z0, z1, z0, z2] (.ok (.inr ⟨(.ret, gu), ((decide (z3 < z4), ()), ())⟩)))
    (gd [inR (a5 - (1 : Int))] (.ok (.inl (((), ((), (a5 - (1 : Int), ()))), (c0, (c1, ()))))))))
  (.ok (.inr ⟨(.exit 0, jD), ((), ())⟩)))
def ed (s : aO) : OT (Sum aO aL) := UG (s.1.2.2.1) (s.2.1) (s.2.2.1)
theorem UD (s : aO) (Q : Sum aO aL → Prop) : wps te vV ax 1000 (bE (al Tryz.f99) 0) (kl.inj s) (cM kl Dz (Q : Sum kl.T aL → Prop)) = (ed s).wpR Q := by kernel_rfl
def km (g0_r : aO → fa) (c0_r : aO → Bool) (g0_0 : aO → fb) (s : aO) : OT aL := (.br (c0_r s) (.ok ⟨(.ret, gu), g0_r s⟩) (.ok ⟨(.exit 0, jD), g0_0 s⟩))
def hY : aw := ⟨[.val false .bool], [], false⟩
def zl : SV → Option aw := fun _ => some hY
def zo (ok0 : aO → Bool) (g0_r : aO → fa) (c0_r : aO → Bool) (g0_0 : aO → fb) (a0 : ab) (a1 : ab) : OT df.Y :=
  let z0 : (PUnit × PUnit × Int × PUnit) × List UInt64 × List UInt64 × PUnit := (((), (), (3 : Int), ()), [a0.w0, a0.w1, a0.w2, a0.w3], [a1.w0, a1.w1, a1.w2, a1.w3], ())
  (gd [ok0 z0] (.br (c0_r z0)
  (.ok ⟨hY, (((g0_r z0).fst.fst, ()), ())⟩)
  (.ok ⟨hY, ((false, ()), ())⟩)))
theorem ZA (ok0 : aO → Bool) (g0_r : aO → fa) (c0_r : aO → Bool) (g0_0 : aO → fb) (x : om) (Q : df.Y → Prop) : wpf te vV (bg 0 (db kl 0 ok0 (km g0_r c0_r g0_0)) ax) 1000 Tryz.f99 (df.inp.inj x).tm (df.inp.inj x).hp (fnK df zl Q) (fun _ _ => False) = (zo ok0 g0_r c0_r g0_0 (x.1.1) (x.1.2.1)).wpR Q := by kernel_rfl
theorem IU (ok0 : aO → Bool) (g0_r : aO → fa) (c0_r : aO → Bool) (g0_0 : aO → fb) (h0 : ∀ s : aO, ok0 s = true → ∃ m e, aq (ed) m s = some e ∧ (km g0_r c0_r g0_0 s).run = some e) (pre : om → Bool) (F : om → OT df.Y) (hF : ∀ (x : om) oy, pre x = true → (F x).run = some oy → (zo ok0 g0_r c0_r g0_0 (x.1.1) (x.1.2.1)).run = some oy) : ac Tryz.prog 99 (df.aD pre F) :=
  aB ar o8 BN (f := 99) (fn := Tryz.f99) (c := al Tryz.f99) (by kernel_rfl) (by kernel_rfl) (by kernel_rfl) (S := df) (k := 0) (by kernel_rfl) (fun R hR => (aC (c := (al Tryz.f99)) (by kernel_rfl) (id := 0) (by kernel_rfl) (bo ar o8 BN (sh := kl) hR (xs := Dz) (aE (by kernel_rfl) (by kernel_rfl) hR) aS ag (n := 1000) (T := ed) (fun s Q => UD s Q) (ok := ok0) (f := km g0_r c0_r g0_0) h0) ag)) (n := 1000) (sel := zl) (fun v o h => by cases h; rfl) (pre := pre) (F := F) (T := fun x => zo ok0 g0_r c0_r g0_0 (x.1.1) (x.1.2.1)) (fun x Q => ZA ok0 g0_r c0_r g0_0 x Q) hF
theorem Eb {x y N M : Nat} (hx : x < 18446744073709551616) (hy : y < 18446744073709551616) (h : ¬ N = M) : (x + 18446744073709551616 * N < y + 18446744073709551616 * M ↔ N < M) ∧ ¬ x + 18446744073709551616 * N = y + 18446744073709551616 * M := by
  omega
theorem aaq {x y N : Nat} : (x + 18446744073709551616 * N < y + 18446744073709551616 * N ↔ x < y) ∧ (¬ x = y → ¬ x + 18446744073709551616 * N = y + 18446744073709551616 * N) := by
  omega
theorem Hb {n m : Nat} {x y : UInt64} (h : n < m ↔ x.toNat < y.toNat) : decide (x < y) = Nat.blt n m := by
  have h1 : Nat.blt n m = true ↔ n < m := ⟨da, fun h => Nat.ble_eq_true_of_le h⟩
  rw [Bool.eq_iff_iff, decide_eq_true_iff, h1, h, UInt64.lt_iff_toNat_lt]
theorem Ng {x y : UInt64} (h : ¬ x = y) : ¬ x.toNat = y.toNat := fun e => h (UInt64.toNat_inj.1 e)
def cL (a b : ab) (i : Int) : aO := (((), (), i, ()), (lst a, lst b, ()))
theorem oZ (a b : ab) (k : Nat) (hk : k < 4) (h : (lst a).getD k 0 = (lst b).getD k 0) : (ed (cL a b (k : Int))).run = some (.inl (cL a b ((k : Int) - 1))) := by
  refine (OT.ap (decide_eq_true (by dsimp only [cL]; omega))).trans ((aj ?_).trans ((OT.au ?_).trans ((aj ?_).trans rfl)))
  · simp only [cL, Int.toNat_natCast, Nat.add_zero, cB, List.all_cons, List.all_nil, Bool.and_true, Bool.and_eq_true]
    exact ⟨bF (by omega), decide_eq_true hk, bF (by omega), decide_eq_true hk⟩
  · simp only [cL, Int.toNat_natCast, Nat.add_zero, h, beq_self_eq_true, Bool.not_true]
  · simp only [cL, List.all_cons, List.all_nil, Bool.and_true]
    exact bz (by omega)
theorem jQ (a b : ab) (k : Nat) (hk : k < 4) (h : ¬ (lst a).getD k 0 = (lst b).getD k 0) : (ed (cL a b (k : Int))).run = some (.inr ⟨(.ret, gu), ((decide ((lst a).getD k 0 < (lst b).getD k 0), ()), ())⟩) := by
  refine (OT.ap (decide_eq_true (by dsimp only [cL]; omega))).trans ((aj ?_).trans ((OT.ap ?_).trans ((aj ?_).trans ?_)))
  · simp only [cL, Int.toNat_natCast, Nat.add_zero, cB, List.all_cons, List.all_nil, Bool.and_true, Bool.and_eq_true]
    exact ⟨bF (by omega), decide_eq_true hk, bF (by omega), decide_eq_true hk⟩
  · simp only [cL, Int.toNat_natCast, Nat.add_zero, beq_eq_false_iff_ne.2 h, Bool.not_false]
  · simp only [cL, Int.toNat_natCast, Nat.add_zero, cB, List.all_cons, List.all_nil, Bool.and_true, Bool.and_eq_true]
    exact ⟨bF (by omega), decide_eq_true hk, bF (by omega), decide_eq_true hk⟩
  · simp only [cL, Int.toNat_natCast, Nat.add_zero]
    rfl
def zn (s : aO) : Bool := decide (s.1.2.2.1 = 3 ∧ s.2.1.length = 4 ∧ s.2.2.1.length = 4)
def uO (s : aO) : fa := ((Nat.blt (elemOf s.2.1).nat (elemOf s.2.2.1).nat, ()), ())
def iI (s : aO) : Bool := !eqE (elemOf s.2.1) (elemOf s.2.2.1)
def uP (_ : aO) : fb := ((), ())
theorem sX {a b : ab} (h : ¬ a = b) {r : Bool} (hr : r = Nat.blt a.nat b.nat) (hm : ∃ m, aq ed m (cL a b 3) = some ⟨(.ret, gu), ((r, ()), ())⟩) :
    ∃ m e, aq ed m (cL a b 3) = some e ∧ (km uO iI uP (cL a b 3)).run = some e := by
  obtain ⟨m, hm⟩ := hm
  refine ⟨m, _, hm, ?_⟩
  have hc : iI (cL a b 3) = true := by
    show (!eqE a b) = true
    rw [Bool.eq_false_iff.2 fun e => h (A9.1 e)]
    rfl
  subst hr
  exact OT.ap hc
theorem UF : ∀ s : aO, zn s = true → ∃ m e, aq ed m s = some e ∧ (km uO iI uP s).run = some e := by
  rintro ⟨⟨⟨⟩, ⟨⟩, i, ⟨⟩⟩, ⟨l1, l2, ⟨⟩⟩⟩ h
  have h' := of_decide_eq_true h
  dsimp only at h'
  obtain ⟨rfl, h1, h2⟩ := h'
  obtain ⟨a, rfl⟩ : ∃ a, l1 = lst a := ⟨elemOf l1, (aZ h1).symm⟩
  obtain ⟨b, rfl⟩ : ∃ a, l2 = lst a := ⟨elemOf l2, (aZ h2).symm⟩
  have ha0 := a.w0.toNat_lt
  have hb0 := b.w0.toNat_lt
  have ha1 := a.w1.toNat_lt
  have hb1 := b.w1.toNat_lt
  have ha2 := a.w2.toNat_lt
  have hb2 := b.w2.toNat_lt
  by_cases h3 : a.w3 = b.w3
  · have s3 := oZ a b 3 (by omega) h3
    by_cases h2 : a.w2 = b.w2
    · have s2 := oZ a b 2 (by omega) h2
      by_cases h1 : a.w1 = b.w1
      · have s1 := oZ a b 1 (by omega) h1
        by_cases h0 : a.w0 = b.w0
        · have s0 := oZ a b 0 (by omega) h0
          have e : a = b := by cases a; cases b; simp_all
          have sx : (ed (cL a b (((0 : Nat) : Int) - 1))).run = some (.inr ⟨(.exit 0, jD), ((), ())⟩) := OT.au (decide_eq_false (by dsimp only [cL]; omega))
          refine ⟨_, _, aH s3 (aH s2 (aH s1 (aH s0 (aI sx)))), ?_⟩
          have hc : iI (((), (), 3, ()), (lst a, lst b, ())) = false := by
            show (!eqE a b) = false
            rw [e, af6]
            rfl
          exact OT.au hc
        · refine sX (fun e => h0 (by rw [e])) (Hb ?_) ⟨_, aH s3 (aH s2 (aH s1 (aI (jQ a b 0 (by omega) h0))))⟩
          show a.nat < b.nat ↔ a.w0.toNat < b.w0.toNat
          unfold Sx.ab.nat
          rw [h3, h2, h1]
          exact aaq.1
      · refine sX (fun e => h1 (by rw [e])) (Hb ?_) ⟨_, aH s3 (aH s2 (aI (jQ a b 1 (by omega) h1)))⟩
        show a.nat < b.nat ↔ a.w1.toNat < b.w1.toNat
        unfold Sx.ab.nat
        rw [h3, h2]
        have k := aaq (x := a.w1.toNat) (y := b.w1.toNat) (N := b.w2.toNat + 18446744073709551616 * b.w3.toNat)
        exact (Eb ha0 hb0 (k.2 (Ng h1))).1.trans k.1
    · refine sX (fun e => h2 (by rw [e])) (Hb ?_) ⟨_, aH s3 (aI (jQ a b 2 (by omega) h2))⟩
      show a.nat < b.nat ↔ a.w2.toNat < b.w2.toNat
      unfold Sx.ab.nat
      rw [h3]
      have k := aaq (x := a.w2.toNat) (y := b.w2.toNat) (N := b.w3.toNat)
      have k1 := Eb ha1 hb1 (k.2 (Ng h2))
      exact (Eb ha0 hb0 k1.2).1.trans (k1.1.trans k.1)
  · refine sX (fun e => h3 (by rw [e])) (Hb ?_) ⟨_, aI (jQ a b 3 (by omega) h3)⟩
    show a.nat < b.nat ↔ a.w3.toNat < b.w3.toNat
    unfold Sx.ab.nat
    have k2 := Eb ha2 hb2 (Ng h3)
    have k1 := Eb ha1 hb1 k2.2
    exact (Eb ha0 hb0 k1.2).1.trans (k1.1.trans k2.1)
def zm (_ : om) : Bool := true
def IV (x : om) : OT df.Y := .ok ⟨hY, ((Nat.blt x.1.1.nat x.1.2.1.nat, ()), ())⟩
theorem UE : ac Tryz.prog 99 (df.aD zm IV) := IU zn uO iI uP UF _ _ fun x oy _ ho => by
  rw [← ho]
  clear ho
  obtain ⟨⟨a, b, ⟨⟩⟩, ⟨⟩⟩ := x
  refine (aj ?_).trans ?_
  · simp only [List.all_cons, List.all_nil, Bool.and_true]
    exact decide_eq_true ⟨rfl, rfl, rfl⟩
  · rcases (Bool.eq_false_or_eq_true (eqE a b)).symm with h | h
    · have hc : iI (((), (), 3, ()), (lst a, lst b, ())) = true := by
        show (!eqE a b) = true
        rw [h]
        rfl
      exact OT.ap hc
    · have hc : iI (((), (), 3, ()), (lst a, lst b, ())) = false := by
        show (!eqE a b) = false
        rw [h]
        rfl
      refine (OT.au hc).trans ?_
      have e : Nat.blt a.nat b.nat = false := by
        rw [A9.1 h]
        cases hb : Nat.blt b.nat b.nat
        · rfl
        · exact absurd (da hb) (Nat.lt_irrefl _)
      show (OT.ok ⟨hY, ((false, ()), ())⟩ : OT df.Y).run = (OT.ok ⟨hY, ((Nat.blt a.nat b.nat, ()), ())⟩ : OT df.Y).run
      rw [e]
def mJ : cv := (df.aD zm IV)
theorem FK : ac Tryz.prog 99 mJ := UE
theorem FJ : aF mJ := az
def kW : Env := ay 99 mJ vV
theorem jS : aQ Tryz.prog kW := ah FK o8
theorem pB : av kW := ae FJ xd
theorem tn : aV Tryz.prog te kW := aJ follows ar jS pB
def dQ : ao := ⟨[.val true .elem, .val true .elem], [], true, 0, false⟩
abbrev oh : Type := ((ab) × (ab) × Unit) × (Unit)
def kh : Shape := ⟨39, [(2, .ptr 0 0 0), (3, .ptr 1 0 0), (4, .ptr 2 0 0), (5, .ptr 3 0 0), (6, .val false .u64), (7, .val false .int)], [(0, .row .u64), (1, .row .u64), (2, .row .u64), (3, .row .u64)], 0, true⟩
abbrev bq : Type := ((Unit) × (Unit) × (Unit) × (Unit) × (UInt64) × (Int) × Unit) × ((List (UInt64)) × (List (UInt64)) × (List (UInt64)) × (List (UInt64)) × Unit)
def jC : Shape := ⟨39, [(4, .ptr 0 0 0), (5, .ptr 1 0 0)], [(0, .row .u64), (1, .row .u64)], 0, true⟩
abbrev e8 : Type := ((Unit) × (Unit) × Unit) × ((List (UInt64)) × (List (UInt64)) × Unit)
def Dp : SE → Option Shape := jt [(0, jC)] none
def Uu (a6 : UInt64) (a7 : Int) (c0 : List (UInt64)) (c1 : List (UInt64)) (c2 : List (UInt64)) (c3 : List (UInt64)) : OT (Sum bq aL) :=
  let z0 : Bool := inB a7 4
  let z1 : Bool := decide (Int.toNat a7 + 0 < List.length c0)
  let z2 : Bool := decide (Int.toNat a7 + 0 < List.length c1)
  let z3 : UInt64 := List.getD c0 (Int.toNat a7 + 0) (0 : UInt64)
  let z4 : UInt64 := List.getD c1 (Int.toNat a7 + 0) (0 : UInt64)
  let z5 : Bool := inR (a7 + (1 : Int))
  let z6 : UInt64 := z3 - z4
  let z7 : List UInt64 := List.set c3 (Int.toNat a7 + 0) (z6 - a6)
  (.br (decide (a7 < (4 : Int)))
  (gd [z0, z1, z0, z2, z0, decide (Int.toNat a7 + 0 < List.length c3), z0, z1, z0, z2] (.br (decide (z3 < z4))
    (gd [z5] (.ok (.inl (((), ((), ((), ((), ((1 : UInt64), (a7 + (1 : Int), ())))))), (c0, (c1, (c2, (z7, ()))))))))
    (.br (decide (z6 < a6))
      (gd [z5] (.ok (.inl (((), ((), ((), ((), ((1 : UInt64), (a7 + (1 : Int), ())))))), (c0, (c1, (c2, (z7, ()))))))))
      (gd [z5] (.ok (.inl (((), ((), ((), ((), ((0 : UInt64), (a7 + (1 : Int), ())))))), (c0, (c1, (c2, (z7, ())))))))))))
  (.ok (.inr ⟨(.exit 0, jC), (((), ((), ())), (c2, (c3, ())))⟩)))
def ki (s : bq) : OT (Sum bq aL) := Uu (s.1.2.2.2.2.1) (s.1.2.2.2.2.2.1) (s.2.1) (s.2.2.1) (s.2.2.2.1) (s.2.2.2.2.1)
theorem Ur (s : bq) (Q : Sum bq aL → Prop) : wps te kW ax 1000 (bE (al Tryz.f103) 0) (kh.inj s) (cM kh Dp (Q : Sum kh.T aL → Prop)) = (ki s).wpR Q := by kernel_rfl
def og (g0_0 : bq → e8) (s : bq) : OT aL := (.ok ⟨(.exit 0, jC), g0_0 s⟩)
def uH : aw := ⟨[.val true .elem], [], false⟩
def y8 : SV → Option aw := fun _ => some uH
def zb (ok0 : bq → Bool) (g0_0 : bq → e8) (a0 : ab) (a1 : ab) : OT dQ.Y :=
  let z0 : (PUnit × PUnit × PUnit × PUnit × UInt64 × Int × PUnit) × List UInt64 × List UInt64 × List UInt64 × List UInt64 × PUnit := (((), (), (), (), (0 : UInt64), (0 : Int), ()), [a0.w0, a0.w1, a0.w2, a0.w3], [a1.w0, a1.w1, a1.w2, a1.w3], [(0 : UInt64), (0 : UInt64), (0 : UInt64), (0 : UInt64)], [(0 : UInt64), (0 : UInt64), (0 : UInt64), (0 : UInt64)], ())
  let z1 := (g0_0 z0).snd
  let z2 := z1.snd.fst
  let z3 := z1.fst
  let z4 : List UInt64 := lay z3 z2 4 (0 : UInt64)
  (gd [ok0 z0, decide (4 ≤ List.length z2), decide ((4 / 1 : Nat) + 0 ≤ List.length z3), decide (4 ≤ List.length z4)] (.ok ⟨uH, (({ w0 := List.getD z4 0 0, w1 := List.getD z4 1 0, w2 := List.getD z4 2 0, w3 := List.getD z4 3 0 }, ()), ())⟩))
theorem Zp (ok0 : bq → Bool) (g0_0 : bq → e8) (x : oh) (Q : dQ.Y → Prop) : wpf te kW (bg 0 (db kh 0 ok0 (og g0_0)) ax) 1000 Tryz.f103 (dQ.inp.inj x).tm (dQ.inp.inj x).hp (fnK dQ y8 Q) (fun _ _ => False) = (zb ok0 g0_0 (x.1.1) (x.1.2.1)).wpR Q := by kernel_rfl
theorem IF (ok0 : bq → Bool) (g0_0 : bq → e8) (h0 : ∀ s : bq, ok0 s = true → ∃ m e, aq (ki) m s = some e ∧ (og g0_0 s).run = some e) (pre : oh → Bool) (F : oh → OT dQ.Y) (hF : ∀ (x : oh) oy, pre x = true → (F x).run = some oy → (zb ok0 g0_0 (x.1.1) (x.1.2.1)).run = some oy) : ac Tryz.prog 103 (dQ.aD pre F) :=
  aB ar jS tn (f := 103) (fn := Tryz.f103) (c := al Tryz.f103) (by kernel_rfl) (by kernel_rfl) (by kernel_rfl) (S := dQ) (k := 0) (by kernel_rfl) (fun R hR => (aC (c := (al Tryz.f103)) (by kernel_rfl) (id := 0) (by kernel_rfl) (bo ar jS tn (sh := kh) hR (xs := Dp) (aE (by kernel_rfl) (by kernel_rfl) hR) aS ag (n := 1000) (T := ki) (fun s Q => Ur s Q) (ok := ok0) (f := og g0_0) h0) ag)) (n := 1000) (sel := y8) (fun v o h => by cases h; rfl) (pre := pre) (F := F) (T := fun x => zb ok0 g0_0 (x.1.1) (x.1.2.1)) (fun x Q => Zp ok0 g0_0 x Q) hF
theorem Vd {x y c : UInt64} (hc : c.toNat ≤ 1) : x - y - c = la x y c := by
  have hx := x.toNat_lt
  have hy := y.toNat_lt
  unfold la
  rw [← UInt64.toNat_inj, UInt64.toNat_sub, UInt64.toNat_sub, UInt64.toNat_ofNat']
  omega
theorem afG {x y c : UInt64} (h : x < y) : HI x y c = 1 := by
  have h := UInt64.lt_iff_toNat_lt.1 h
  rw [← UInt64.toNat_inj, ru, if_pos (by omega)]
  rfl
theorem afF {x y c : UInt64} (h : ¬ x < y) (hc : x - y < c) : HI x y c = 1 := by
  have hx := x.toNat_lt
  have h : ¬ x.toNat < y.toNat := fun e => h (UInt64.lt_iff_toNat_lt.2 e)
  have hc := UInt64.lt_iff_toNat_lt.1 hc
  rw [UInt64.toNat_sub] at hc
  rw [← UInt64.toNat_inj, ru, if_pos (by omega)]
  rfl
theorem afE {x y c : UInt64} (h : ¬ x < y) (hc : ¬ x - y < c) : HI x y c = 0 := by
  have hx := x.toNat_lt
  have h : ¬ x.toNat < y.toNat := fun e => h (UInt64.lt_iff_toNat_lt.2 e)
  have hc : ¬ (x - y).toNat < c.toNat := fun e => hc (UInt64.lt_iff_toNat_lt.2 e)
  rw [UInt64.toNat_sub] at hc
  rw [← UInt64.toNat_inj, ru, if_neg (by omega)]
  rfl
def za (s : bq) : Bool := decide (s.1.2.2.2.2.1 = 0 ∧ s.1.2.2.2.2.2.1 = 0 ∧ s.2.1.length = 4 ∧ s.2.2.1.length = 4 ∧ s.2.2.2.2.1 = [0, 0, 0, 0])
def Dq (s : bq) : e8 := (((), (), ()), (s.2.2.2.1, (upto (CH s.2.1 s.2.2.1) ([0, 0, 0, 0], 0) 4).1, ()))
theorem Ut : ∀ s : bq, za s = true → ∃ m e, aq ki m s = some e ∧ (og Dq s).run = some e := by
  rintro ⟨⟨⟨⟩, ⟨⟩, ⟨⟩, ⟨⟩, c, i, ⟨⟩⟩, ⟨c0, c1, c2, c3, ⟨⟩⟩⟩ h
  have h' := of_decide_eq_true h
  dsimp only at h'
  obtain ⟨rfl, rfl, h0, h1, rfl⟩ := h'
  have := (bN (T := ki) (fun k s => ((((), (), (), (), s.2, (k : Int), ()), (c0, c1, c2, s.1, ())) : bq)) (CH c0 c1)
    (fun s => (⟨(.exit 0, jC), (((), (), ()), (c2, s.1, ()))⟩ : aL)) 4 ([0, 0, 0, 0], 0) (fun _ s => s.1.length = 4 ∧ s.2.toNat ≤ 1) ⟨rfl, by decide⟩ (fun k s hk hs => ⟨?_, ?_⟩) (fun s hs => ?_)).1
  · obtain ⟨m, hm⟩ := this
    exact ⟨m, _, hm, rfl⟩
  · obtain ⟨o, c⟩ := s
    dsimp only at hs
    refine (OT.ap (decide_eq_true (by dsimp only; omega))).trans ((aj ?_).trans ?_)
    · simp only [Int.toNat_natCast, Nat.add_zero, h0, h1, hs.1, List.all_cons, List.all_nil, Bool.and_true, Bool.and_eq_true]
      exact ⟨bF (by omega), decide_eq_true (by omega), bF (by omega), decide_eq_true (by omega), bF (by omega), decide_eq_true (by omega), bF (by omega), decide_eq_true (by omega), bF (by omega), decide_eq_true (by omega)⟩
    · have hi : ∀ z, (gd [inR ((k : Int) + 1)] z : OT (Sum bq aL)).run = z.run := fun z => aj (by simp only [List.all_cons, List.all_nil, Bool.and_true]; exact bz (by omega))
      have hw := Vd (x := c0.getD k 0) (y := c1.getD k 0) hs.2
      by_cases hx : c0.getD k 0 < c1.getD k 0
      · have hk1 := afG (c := c) hx
        refine (OT.ap (decide_eq_true ?_)).trans ((hi _).trans ?_)
        · simp only [Int.toNat_natCast, Nat.add_zero]; exact hx
        · simp only [OT.jx, Int.toNat_natCast, Nat.add_zero, CH, hw, hk1]
          rfl
      · refine (OT.au (decide_eq_false ?_)).trans ?_
        · simp only [Int.toNat_natCast, Nat.add_zero]; exact hx
        · by_cases hd : c0.getD k 0 - c1.getD k 0 < c
          · have hk2 := afF hx hd
            refine (OT.ap (decide_eq_true ?_)).trans ((hi _).trans ?_)
            · simp only [Int.toNat_natCast, Nat.add_zero]; exact hd
            · simp only [OT.jx, Int.toNat_natCast, Nat.add_zero, CH, hw, hk2]
              rfl
          · have hk3 := afE hx hd
            refine (OT.au (decide_eq_false ?_)).trans ((hi _).trans ?_)
            · simp only [Int.toNat_natCast, Nat.add_zero]; exact hd
            · simp only [OT.jx, Int.toNat_natCast, Nat.add_zero, CH, hw, hk3]
              rfl
  · exact ⟨by simp only [CH, List.length_set]; exact hs.1, ud⟩
  · exact OT.au (decide_eq_false (by dsimp only; omega))
def y9 (_ : oh) : Bool := true
def zc (x : oh) : OT dQ.Y := .ok ⟨uH, (((jV x.1.1 x.1.2.1).1, ()), ())⟩
theorem Us : ac Tryz.prog 103 (dQ.aD y9 zc) := IF za Dq Ut _ _ fun x oy hp ho => by
  rw [← ho]
  clear ho
  obtain ⟨⟨a, b, ⟨⟩⟩, ⟨⟩⟩ := x
  obtain ⟨_, hw⟩ := C2 a b
  refine (aj ?_).trans ?_
  · simp only [List.all_cons, List.all_nil, Bool.and_true, Bool.and_eq_true]
    exact ⟨rfl, rfl, rfl, rfl⟩
  · simp only [zc, hw]
    rfl
def mF : cv := (dQ.aD y9 zc)
theorem FF : ac Tryz.prog 103 mF := Us
theorem FE : aF mF := az
def kV : Env := ay 103 mF kW
theorem jR : aQ Tryz.prog kV := ah FF jS
theorem pA : av kV := ae FE pB
theorem tj : aV Tryz.prog te kV := aJ follows ar jR pA
def e5 : ao := ⟨[.val true .elem, .val true .elem], [], true, 0, false⟩
abbrev uB : Type := ((ab) × (ab) × Unit) × (Unit)
def mC : Shape := ⟨39, [(2, .ptr 0 0 0), (3, .ptr 1 0 0), (4, .ptr 2 0 0), (5, .ptr 3 0 0), (6, .val false .u64), (7, .val false .int)], [(0, .row .u64), (1, .row .u64), (2, .row .u64), (3, .row .u64)], 0, true⟩
abbrev bM : Type := ((Unit) × (Unit) × (Unit) × (Unit) × (UInt64) × (Int) × Unit) × ((List (UInt64)) × (List (UInt64)) × (List (UInt64)) × (List (UInt64)) × Unit)
def lj : Shape := ⟨39, [(4, .ptr 0 0 0), (5, .ptr 1 0 0)], [(0, .row .u64), (1, .row .u64)], 0, true⟩
abbrev gp : Type := ((Unit) × (Unit) × Unit) × ((List (UInt64)) × (List (UInt64)) × Unit)
def It : SE → Option Shape := jt [(0, lj)] none
def Ze (a6 : UInt64) (a7 : Int) (c0 : List (UInt64)) (c1 : List (UInt64)) (c2 : List (UInt64)) (c3 : List (UInt64)) : OT (Sum bM aL) :=
  let z0 : Bool := inB a7 4
  let z1 : Bool := decide (Int.toNat a7 + 0 < List.length c0)
  let z2 : UInt64 := List.getD c0 (Int.toNat a7 + 0) (0 : UInt64)
  let z3 : UInt64 := z2 + List.getD c1 (Int.toNat a7 + 0) (0 : UInt64)
  let z4 : Bool := inR (a7 + (1 : Int))
  let z5 : List UInt64 := List.set c3 (Int.toNat a7 + 0) (z3 + a6)
  (.br (decide (a7 < (4 : Int)))
  (gd [z0, z1, z0, decide (Int.toNat a7 + 0 < List.length c1), z0, decide (Int.toNat a7 + 0 < List.length c3), z0, z1] (.br (decide (z3 < z2))
    (gd [z4] (.ok (.inl (((), ((), ((), ((), ((1 : UInt64), (a7 + (1 : Int), ())))))), (c0, (c1, (c2, (z5, ()))))))))
    (gd [z0, decide (Int.toNat a7 + 0 < List.length z5)] (.br (decide (List.getD z5 (Int.toNat a7 + 0) (0 : UInt64) < z3))
      (gd [z4] (.ok (.inl (((), ((), ((), ((), ((1 : UInt64), (a7 + (1 : Int), ())))))), (c0, (c1, (c2, (z5, ()))))))))
      (gd [z4] (.ok (.inl (((), ((), ((), ((), ((0 : UInt64), (a7 + (1 : Int), ())))))), (c0, (c1, (c2, (z5, ()))))))))))))
  (.ok (.inr ⟨(.exit 0, lj), (((), ((), ())), (c2, (c3, ())))⟩)))
def mD (s : bM) : OT (Sum bM aL) := Ze (s.1.2.2.2.2.1) (s.1.2.2.2.2.2.1) (s.2.1) (s.2.2.1) (s.2.2.2.1) (s.2.2.2.2.1)
theorem Zb (s : bM) (Q : Sum bM aL → Prop) : wps te kV ax 1000 (bE (al Tryz.f133) 0) (mC.inj s) (cM mC It (Q : Sum mC.T aL → Prop)) = (mD s).wpR Q := by kernel_rfl
def rR (g0_0 : bM → gp) (s : bM) : OT aL := (.ok ⟨(.exit 0, lj), g0_0 s⟩)
def yZ : aw := ⟨[.val true .elem], [], false⟩
def Dj : SV → Option aw := fun _ => some yZ
def Fy (ok0 : bM → Bool) (g0_0 : bM → gp) (a0 : ab) (a1 : ab) : OT e5.Y :=
  let z0 : (PUnit × PUnit × PUnit × PUnit × UInt64 × Int × PUnit) × List UInt64 × List UInt64 × List UInt64 × List UInt64 × PUnit := (((), (), (), (), (0 : UInt64), (0 : Int), ()), [a0.w0, a0.w1, a0.w2, a0.w3], [a1.w0, a1.w1, a1.w2, a1.w3], [(0 : UInt64), (0 : UInt64), (0 : UInt64), (0 : UInt64)], [(0 : UInt64), (0 : UInt64), (0 : UInt64), (0 : UInt64)], ())
  let z1 := (g0_0 z0).snd
  let z2 := z1.snd.fst
  let z3 := z1.fst
  let z4 : List UInt64 := lay z3 z2 4 (0 : UInt64)
  (gd [ok0 z0, decide (4 ≤ List.length z2), decide ((4 / 1 : Nat) + 0 ≤ List.length z3), decide (4 ≤ List.length z4)] (.ok ⟨yZ, (({ w0 := List.getD z4 0 0, w1 := List.getD z4 1 0, w2 := List.getD z4 2 0, w3 := List.getD z4 3 0 }, ()), ())⟩))
theorem aeU (ok0 : bM → Bool) (g0_0 : bM → gp) (x : uB) (Q : e5.Y → Prop) : wpf te kV (bg 0 (db mC 0 ok0 (rR g0_0)) ax) 1000 Tryz.f133 (e5.inp.inj x).tm (e5.inp.inj x).hp (fnK e5 Dj Q) (fun _ _ => False) = (Fy ok0 g0_0 (x.1.1) (x.1.2.1)).wpR Q := by kernel_rfl
theorem Mj (ok0 : bM → Bool) (g0_0 : bM → gp) (h0 : ∀ s : bM, ok0 s = true → ∃ m e, aq (mD) m s = some e ∧ (rR g0_0 s).run = some e) (pre : uB → Bool) (F : uB → OT e5.Y) (hF : ∀ (x : uB) oy, pre x = true → (F x).run = some oy → (Fy ok0 g0_0 (x.1.1) (x.1.2.1)).run = some oy) : ac Tryz.prog 133 (e5.aD pre F) :=
  aB ar jR tj (f := 133) (fn := Tryz.f133) (c := al Tryz.f133) (by kernel_rfl) (by kernel_rfl) (by kernel_rfl) (S := e5) (k := 0) (by kernel_rfl) (fun R hR => (aC (c := (al Tryz.f133)) (by kernel_rfl) (id := 0) (by kernel_rfl) (bo ar jR tj (sh := mC) hR (xs := It) (aE (by kernel_rfl) (by kernel_rfl) hR) aS ag (n := 1000) (T := mD) (fun s Q => Zb s Q) (ok := ok0) (f := rR g0_0) h0) ag)) (n := 1000) (sel := Dj) (fun v o h => by cases h; rfl) (pre := pre) (F := F) (T := fun x => Fy ok0 g0_0 (x.1.1) (x.1.2.1)) (fun x Q => aeU ok0 g0_0 x Q) hF
theorem ZL {x y c : UInt64} : x + y + c = pj x y c := by
  have hx := x.toNat_lt
  have hy := y.toNat_lt
  unfold pj
  rw [← UInt64.toNat_inj, UInt64.toNat_add, UInt64.toNat_add, UInt64.toNat_ofNat']
  omega
theorem Hk {x y c : UInt64} (hc : c.toNat ≤ 1) : (rj x y c).toNat = (x.toNat + y.toNat + c.toNat) / 18446744073709551616 := by
  have hx := x.toNat_lt
  have hy := y.toNat_lt
  unfold rj
  rw [UInt64.toNat_ofNat']
  omega
theorem ajj {x y c : UInt64} (hc : c.toNat ≤ 1) (h : x + y < x) : rj x y c = 1 := by
  have hx := x.toNat_lt
  have hy := y.toNat_lt
  have h := UInt64.lt_iff_toNat_lt.1 h
  rw [UInt64.toNat_add] at h
  rw [← UInt64.toNat_inj, Hk hc, show (1 : UInt64).toNat = 1 from rfl]
  omega
theorem aji {x y c : UInt64} (hc : c.toNat ≤ 1) (h : ¬ x + y < x) (h2 : x + y + c < x + y) : rj x y c = 1 := by
  have hx := x.toNat_lt
  have hy := y.toNat_lt
  have h : ¬ (x + y).toNat < x.toNat := fun e => h (UInt64.lt_iff_toNat_lt.2 e)
  have h2 := UInt64.lt_iff_toNat_lt.1 h2
  rw [UInt64.toNat_add] at h
  rw [UInt64.toNat_add, UInt64.toNat_add] at h2
  rw [← UInt64.toNat_inj, Hk hc, show (1 : UInt64).toNat = 1 from rfl]
  omega
theorem ajh {x y c : UInt64} (hc : c.toNat ≤ 1) (h : ¬ x + y < x) (h2 : ¬ x + y + c < x + y) : rj x y c = 0 := by
  have hx := x.toNat_lt
  have hy := y.toNat_lt
  have h : ¬ (x + y).toNat < x.toNat := fun e => h (UInt64.lt_iff_toNat_lt.2 e)
  have h2 : ¬ (x + y + c).toNat < (x + y).toNat := fun e => h2 (UInt64.lt_iff_toNat_lt.2 e)
  rw [UInt64.toNat_add] at h
  rw [UInt64.toNat_add, UInt64.toNat_add] at h2
  rw [← UInt64.toNat_inj, Hk hc, show (0 : UInt64).toNat = 0 from rfl]
  omega
def Dl (s : bM) : Bool := decide (s.1.2.2.2.2.1 = 0 ∧ s.1.2.2.2.2.2.1 = 0 ∧ s.2.1.length = 4 ∧ s.2.2.1.length = 4 ∧ s.2.2.2.2.1 = [0, 0, 0, 0])
def Iw (s : bM) : gp := (((), (), ()), (s.2.2.2.1, (upto (CZ s.2.1 s.2.2.1) ([0, 0, 0, 0], 0) 4).1, ()))
theorem Zd : ∀ s : bM, Dl s = true → ∃ m e, aq mD m s = some e ∧ (rR Iw s).run = some e := by
  rintro ⟨⟨⟨⟩, ⟨⟩, ⟨⟩, ⟨⟩, c, i, ⟨⟩⟩, ⟨c0, c1, c2, c3, ⟨⟩⟩⟩ h
  have h' := of_decide_eq_true h
  dsimp only at h'
  obtain ⟨rfl, rfl, h0, h1, rfl⟩ := h'
  have := (bN (T := mD) (fun k s => ((((), (), (), (), s.2, (k : Int), ()), (c0, c1, c2, s.1, ())) : bM)) (CZ c0 c1)
    (fun s => (⟨(.exit 0, lj), (((), (), ()), (c2, s.1, ()))⟩ : aL)) 4 ([0, 0, 0, 0], 0) (fun _ s => s.1.length = 4 ∧ s.2.toNat ≤ 1) ⟨rfl, by decide⟩ (fun k s hk hs => ⟨?_, ?_⟩) (fun s hs => ?_)).1
  · obtain ⟨m, hm⟩ := this
    exact ⟨m, _, hm, rfl⟩
  · obtain ⟨o, c⟩ := s
    dsimp only at hs
    refine (OT.ap (decide_eq_true (by dsimp only; omega))).trans ((aj ?_).trans ?_)
    · simp only [Int.toNat_natCast, Nat.add_zero, h0, h1, hs.1, List.all_cons, List.all_nil, Bool.and_true, Bool.and_eq_true]
      exact ⟨bF (by omega), decide_eq_true (by omega), bF (by omega), decide_eq_true (by omega), bF (by omega), decide_eq_true (by omega), bF (by omega), decide_eq_true (by omega)⟩
    · have hi : ∀ z, (gd [inR ((k : Int) + 1)] z : OT (Sum bM aL)).run = z.run := fun z => aj (by simp only [List.all_cons, List.all_nil, Bool.and_true]; exact bz (by omega))
      have hw := ZL (x := c0.getD k 0) (y := c1.getD k 0) (c := c)
      by_cases hx : c0.getD k 0 + c1.getD k 0 < c0.getD k 0
      · have hk1 := ajj hs.2 hx
        refine (OT.ap (decide_eq_true ?_)).trans ((hi _).trans ?_)
        · simp only [Int.toNat_natCast, Nat.add_zero]; exact hx
        · simp only [OT.jx, Int.toNat_natCast, Nat.add_zero, CZ, hw, hk1]
          rfl
      · have hs2 : ∀ v, (o.set k v).getD k 0 = v := fun v => by
          rw [List.getD_eq_getElem?_getD, List.getElem?_set_self (by omega)]
          rfl
        refine (OT.au (decide_eq_false ?_)).trans ((aj ?_).trans ?_)
        · simp only [Int.toNat_natCast, Nat.add_zero]; exact hx
        · simp only [Int.toNat_natCast, Nat.add_zero, List.length_set, hs.1, List.all_cons, List.all_nil, Bool.and_true, Bool.and_eq_true]
          exact ⟨bF (by omega), decide_eq_true (by omega)⟩
        · by_cases hd : c0.getD k 0 + c1.getD k 0 + c < c0.getD k 0 + c1.getD k 0
          · have hk2 := aji hs.2 hx hd
            refine (OT.ap (decide_eq_true ?_)).trans ((hi _).trans ?_)
            · simp only [Int.toNat_natCast, Nat.add_zero, hs2]; exact hd
            · simp only [OT.jx, Int.toNat_natCast, Nat.add_zero, CZ, hw, hk2]
              rfl
          · have hk3 := ajh hs.2 hx hd
            refine (OT.au (decide_eq_false ?_)).trans ((hi _).trans ?_)
            · simp only [Int.toNat_natCast, Nat.add_zero, hs2]; exact hd
            · simp only [OT.jx, Int.toNat_natCast, Nat.add_zero, CZ, hw, hk3]
              rfl
  · exact ⟨by simp only [CZ, List.length_set]; exact hs.1, vO hs.2⟩
  · exact OT.au (decide_eq_false (by dsimp only; omega))
def Dk (_ : uB) : Bool := true
def Fz (x : uB) : OT e5.Y := .ok ⟨yZ, (((rk x.1.1 x.1.2.1).1, ()), ())⟩
theorem Zc : ac Tryz.prog 133 (e5.aD Dk Fz) := Mj Dl Iw Zd _ _ fun x oy hp ho => by
  rw [← ho]
  clear ho
  obtain ⟨⟨a, b, ⟨⟩⟩, ⟨⟩⟩ := x
  obtain ⟨_, hw⟩ := C0 a b
  refine (aj ?_).trans ?_
  · simp only [List.all_cons, List.all_nil, Bool.and_true, Bool.and_eq_true]
    exact ⟨rfl, rfl, rfl, rfl⟩
  · simp only [Fz, hw]
    rfl
def pU : cv := (e5.aD Dk Fz)
theorem Iv : ac Tryz.prog 133 pU := Zc
theorem Iu : aF pU := az
def lR : Env := ay 133 pU kV
theorem jp : aQ Tryz.prog lR := ah Iv jR
theorem th : av lR := ae Iu pA
theorem nL : aV Tryz.prog te lR := aJ follows ar jp th
def iA : ao := ⟨[.val false .int, .val true .elem], [], true, 0, false⟩
abbrev Ix : Type := ((Int) × (ab) × Unit) × (Unit)
def y5 : Shape := ⟨60, [(3, .ptr 0 0 0), (4, .ptr 1 0 0), (5, .val false .u64), (6, .val false .u64), (7, .val false .int)], [(0, .row .u64), (1, .row .u64)], 0, true⟩
abbrev cG : Type := ((Unit) × (Unit) × (UInt64) × (UInt64) × (Int) × Unit) × ((List (UInt64)) × (List (UInt64)) × Unit)
def rT : Shape := ⟨60, [(4, .ptr 0 0 0), (6, .val false .u64)], [(0, .row .u64)], 0, true⟩
abbrev kg : Type := ((Unit) × (UInt64) × Unit) × ((List (UInt64)) × Unit)
def Zi : SE → Option Shape := jt [(0, rT)] none
def ai4 (a5 : UInt64) (a6 : UInt64) (a7 : Int) (c0 : List (UInt64)) (c1 : List (UInt64)) : OT (Sum cG aL) :=
  let z0 : Bool := inB a7 4
  let z1 : Bool := decide (Int.toNat a7 + 0 < List.length c0)
  let z2 : Bool := !a5 == (0 : UInt64)
  let z3 : UInt64 := List.getD c0 (Int.toNat a7 + 0) (0 : UInt64)
  (.br (decide ((0 : Int) ≤ a7))
  (gd [z0, z1, z2, z0, z1, z2, inR (a7 - (1 : Int))] (.ok (.inl (((), ((), (a5, ((cj ((cj a6 (32 : Int) + bl z3 (32 : Int)) % a5) (32 : Int) + (z3 &&& (4294967295 : UInt64))) % a5, (a7 - (1 : Int), ()))))), (c0, (c1, ()))))))
  (.ok (.inr ⟨(.exit 0, rT), (((), (a6, ())), (c1, ()))⟩)))
def y7 (s : cG) : OT (Sum cG aL) := ai4 (s.1.2.2.1) (s.1.2.2.2.1) (s.1.2.2.2.2.1) (s.2.1) (s.2.2.1)
theorem ai0 (s : cG) (Q : Sum cG aL → Prop) : wps te lR ax 1000 (bE (al Tryz.f62) 0) (y5.inj s) (cM y5 Zi (Q : Sum y5.T aL → Prop)) = (y7 s).wpR Q := by kernel_rfl
def FC (g0_0 : cG → kg) (s : cG) : OT aL := (.ok ⟨(.exit 0, rT), g0_0 s⟩)
def y4 : Shape := ⟨60, [(3, .ptr 0 0 0), (4, .ptr 1 0 0), (8, .ptr 2 0 0)], [(0, .row .u64), (1, .row .u64), (2, .row .u64)], 0, true⟩
abbrev cR : Type := ((Unit) × (Unit) × (Unit) × Unit) × ((List (UInt64)) × (List (UInt64)) × (List (UInt64)) × Unit)
def rS : Shape := ⟨60, [(3, .ptr 0 0 0), (4, .ptr 1 0 0)], [(0, .row .u64), (1, .row .u64)], 0, true⟩
abbrev kf : Type := ((Unit) × (Unit) × Unit) × ((List (UInt64)) × (List (UInt64)) × Unit)
def Zh : SE → Option Shape := jt [(2, rS)] none
def ai3 (c0 : List (UInt64)) (c1 : List (UInt64)) (c2 : List (UInt64)) : OT (Sum cR aL) :=
  let z0 : Nat := List.length c0
  let z1 : Bool := decide (4 ≤ z0)
  let z2 : Bool := decide (4 ≤ List.length c2)
  let z3 : ab := { w0 := List.getD c0 0 0, w1 := List.getD c0 1 0, w2 := List.getD c0 2 0, w3 := List.getD c0 3 0 }
  let z4 : ab := { w0 := List.getD c2 0 0, w1 := List.getD c2 1 0, w2 := List.getD c2 2 0, w3 := List.getD c2 3 0 }
  let z5 := (jV z3 z4).fst
  (gd [z1, z2] (.br (!Nat.blt (ab.nat z3) (ab.nat z4))
  (gd [z1, z2, decide ((4 / 1 : Nat) + 0 ≤ z0)] (.ok (.inl (((), ((), ((), ()))), (List.set (List.set (List.set (List.set c0 0 z5.w0) 1 z5.w1) 2 z5.w2) 3 z5.w3, (c1, (c2, ())))))))
  (.ok (.inr ⟨(.exit 2, rS), (((), ((), ())), (c0, (c1, ())))⟩))))
def y6 (s : cR) : OT (Sum cR aL) := ai3 (s.2.1) (s.2.2.1) (s.2.2.2.1)
theorem aiZ (s : cR) (Q : Sum cR aL → Prop) : wps te lR ax 1000 (bE (al Tryz.f62) 2) (y4.inj s) (cM y4 Zh (Q : Sum y4.T aL → Prop)) = (y6 s).wpR Q := by kernel_rfl
def FB (g2_2 : cR → kf) (s : cR) : OT aL := (.ok ⟨(.exit 2, rS), g2_2 s⟩)
def jY : aw := ⟨[.val true .elem], [], false⟩
def RJ : SV → Option aw := fun _ => some jY
def RL (ok0 : cG → Bool) (g0_0 : cG → kg) (ok2 : cR → Bool) (g2_2 : cR → kf) (a0 : Int) (a1 : ab) : OT iA.Y :=
  let z0 : (PUnit × PUnit × UInt64 × UInt64 × Int × PUnit) × List UInt64 × List UInt64 × PUnit := (((), (), HJ a0, (0 : UInt64), (3 : Int), ()), [a1.w0, a1.w1, a1.w2, a1.w3], [(0 : UInt64), (0 : UInt64), (0 : UInt64), (0 : UInt64)], ())
  let z1 : Bool := ok0 z0
  let z2 : (PUnit × UInt64 × PUnit) × List UInt64 × PUnit := g0_0 z0
  let z3 := z2.snd.fst
  let z4 : Bool := decide ((4 / 1 : Nat) + 0 ≤ List.length z3)
  let z5 : List UInt64 := List.set (List.set (List.set (List.set z3 0 z2.fst.snd.fst) 1 (0 : UInt64)) 2 (0 : UInt64)) 3 (0 : UInt64)
  let z6 : Bool := decide (4 ≤ List.length z5)
  let z7 : ab := { w0 := List.getD z5 0 0, w1 := List.getD z5 1 0, w2 := List.getD z5 2 0, w3 := List.getD z5 3 0 }
  let z8 : ab := (bJ (Int.toNat a0)).fst
  let z9 : (PUnit × PUnit × PUnit × PUnit) × List UInt64 × List UInt64 × List UInt64 × PUnit := (((), (), (), ()), [a1.w0, a1.w1, a1.w2, a1.w3], [(0 : UInt64), (0 : UInt64), (0 : UInt64), (0 : UInt64)], [z8.w0, z8.w1, z8.w2, z8.w3], ())
  let z10 := (g2_2 z9).snd
  let z11 := z10.fst
  let z12 := z10.snd.fst
  let z13 : List UInt64 := lay z12 z11 4 (0 : UInt64)
  (.br (a0 == (0 : Int))
  (gd [z1, z4, z6] (.ok ⟨jY, ((z7, ()), ())⟩))
  (.br (a0 == (1 : Int))
    (gd [z1, z4, z6] (.ok ⟨jY, ((z7, ()), ())⟩))
    (.br (ak a0)
      (gd [ok2 z9, decide (4 ≤ List.length z11), decide ((4 / 1 : Nat) + 0 ≤ List.length z12), decide (4 ≤ List.length z13)] (.ok ⟨jY, (({ w0 := List.getD z13 0 0, w1 := List.getD z13 1 0, w2 := List.getD z13 2 0, w3 := List.getD z13 3 0 }, ()), ())⟩))
      (.ok ⟨jY, (({ w0 := 0, w1 := 0, w2 := 0, w3 := 0 }, ()), ())⟩))))
theorem alm (ok0 : cG → Bool) (g0_0 : cG → kg) (ok2 : cR → Bool) (g2_2 : cR → kf) (x : Ix) (Q : iA.Y → Prop) : wpf te lR (bg 2 (db y4 2 ok2 (FB g2_2)) (bg 0 (db y5 0 ok0 (FC g0_0)) ax)) 1000 Tryz.f62 (iA.inp.inj x).tm (iA.inp.inj x).hp (fnK iA RJ Q) (fun _ _ => False) = (RL ok0 g0_0 ok2 g2_2 (x.1.1) (x.1.2.1)).wpR Q := by kernel_rfl
theorem Zk (ok0 : cG → Bool) (g0_0 : cG → kg) (ok2 : cR → Bool) (g2_2 : cR → kf) (h0 : ∀ s : cG, ok0 s = true → ∃ m e, aq (y7) m s = some e ∧ (FC g0_0 s).run = some e) (h2 : ∀ s : cR, ok2 s = true → ∃ m e, aq (y6) m s = some e ∧ (FB g2_2 s).run = some e) (pre : Ix → Bool) (F : Ix → OT iA.Y) (hF : ∀ (x : Ix) oy, pre x = true → (F x).run = some oy → (RL ok0 g0_0 ok2 g2_2 (x.1.1) (x.1.2.1)).run = some oy) : ac Tryz.prog 62 (iA.aD pre F) :=
  aB ar jp nL (f := 62) (fn := Tryz.f62) (c := al Tryz.f62) (by kernel_rfl) (by kernel_rfl) (by kernel_rfl) (S := iA) (k := 0) (by kernel_rfl) (fun R hR => (aC (c := (al Tryz.f62)) (by kernel_rfl) (id := 2) (by kernel_rfl) (bo ar jp nL (sh := y4) hR (xs := Zh) (aE (by kernel_rfl) (by kernel_rfl) hR) aS ag (n := 1000) (T := y6) (fun s Q => aiZ s Q) (ok := ok2) (f := FB g2_2) h2) (aC (c := (al Tryz.f62)) (by kernel_rfl) (id := 0) (by kernel_rfl) (bo ar jp nL (sh := y5) hR (xs := Zi) (aE (by kernel_rfl) (by kernel_rfl) hR) aS ag (n := 1000) (T := y7) (fun s Q => ai0 s Q) (ok := ok0) (f := FC g0_0) h0) ag))) (n := 1000) (sel := RJ) (fun v o h => by cases h; rfl) (pre := pre) (F := F) (T := fun x => RL ok0 g0_0 ok2 g2_2 (x.1.1) (x.1.2.1)) (fun x Q => alm ok0 g0_0 ok2 g2_2 x Q) hF
theorem als {r w m : Nat} : ((r * 4294967296 + w / 4294967296) % m * 4294967296 + w % 4294967296) % m = (r * 18446744073709551616 + w) % m := by
  have e : (r * 4294967296 + w / 4294967296) * 4294967296 + w % 4294967296 = r * 18446744073709551616 + w := by omega
  rw [Nat.add_mod, Nat.mul_mod, Nat.mod_mod, ← Nat.mul_mod, ← Nat.add_mod, e]
theorem ajn {r w m : UInt64} (hs : dU m = true) (hr : r.toNat < m.toNat) : (cj ((cj r 32 + bl w 32) % m) 32 + (w &&& 4294967295)) % m = Kr r w m := by
  have hm := im hs
  have hb : m.toNat ≤ 16521217 := by rcases cV hs with rfl | rfl <;> decide
  have hw := w.toNat_lt
  have e1 : (cj r 32).toNat = r.toNat * 4294967296 := by
    have : (cj r 32).toNat = r.toNat * 2 ^ 32 % 2 ^ 64 := j9 r 32 (by omega)
    rw [this]
    omega
  have e2 : (bl w 32).toNat = w.toNat / 4294967296 := eX w 32 (by omega)
  have e3 : ((cj r 32 + bl w 32) % m).toNat = (r.toNat * 4294967296 + w.toNat / 4294967296) % m.toNat := by
    rw [UInt64.toNat_mod, UInt64.toNat_add, e1, e2, Nat.mod_eq_of_lt (a := r.toNat * 4294967296 + w.toNat / 4294967296) (by omega)]
  generalize (cj r 32 + bl w 32) % m = q at e3
  have hq : q.toNat < m.toNat := by rw [e3]; exact Nat.mod_lt _ hm
  have e4 : (cj q 32).toNat = q.toNat * 4294967296 := by
    have : (cj q 32).toNat = q.toNat * 2 ^ 32 % 2 ^ 64 := j9 q 32 (by omega)
    rw [this]
    omega
  rw [← UInt64.toNat_inj, lL hm, UInt64.toNat_mod, UInt64.toNat_add, e4, ga, Nat.mod_eq_of_lt (a := q.toNat * 4294967296 + w.toNat % 4294967296) (by omega), e3, als]
def xY (s : cG) : Bool := decide (s.1.2.2.2.1 = 0 ∧ s.1.2.2.2.2.1 = 3 ∧ s.2.1.length = 4) && dU s.1.2.2.1
def Mn (s : cG) : kg := (((), alf s.2.1 s.1.2.2.1, ()), (s.2.2.1, ()))
theorem ai2 : ∀ s : cG, xY s = true → ∃ m e, aq y7 m s = some e ∧ (FC Mn s).run = some e := by
  rintro ⟨⟨⟨⟩, ⟨⟩, sm, r, i, ⟨⟩⟩, ⟨c1, c2, ⟨⟩⟩⟩ h
  simp only [xY, Bool.and_eq_true, decide_eq_true_eq] at h
  obtain ⟨⟨rfl, rfl, hl⟩, hs⟩ := h
  have hm := im hs
  have hz : (!(sm == 0)) = true := by rcases cV hs with rfl | rfl <;> rfl
  have := (bN (T := y7) (fun k r => ((((), (), sm, r, 3 - (k : Int), ()), (c1, c2, ())) : cG)) (fun k r => Kr r (c1.getD (3 - k) 0) sm)
    (fun r => (⟨(.exit 0, rT), (((), r, ()), (c2, ()))⟩ : aL)) 4 0 (fun _ r => r.toNat < sm.toNat) hm (fun k r hk hr => ⟨?_, ?_⟩) (fun r hr => ?_)).1
  · obtain ⟨m, hm⟩ := this
    exact ⟨m, _, hm, rfl⟩
  · have e1 : (3 - (k : Int)).toNat = 3 - k := by omega
    have e2 : (3 : Int) - (k : Int) - 1 = 3 - ((k + 1 : Nat) : Int) := by omega
    refine (OT.ap (decide_eq_true (by dsimp only; omega))).trans ((aj ?_).trans ?_)
    · simp only [e1, Nat.add_zero, hl, hz, List.all_cons, List.all_nil, Bool.and_true, Bool.true_and, Bool.and_eq_true]
      exact ⟨bF (by omega), decide_eq_true (by omega), bF (by omega), decide_eq_true (by omega), bz (by omega)⟩
    · simp only [OT.jx, e1, e2, Nat.add_zero, ajn hs hr]
  · rw [lL hm]
    exact Nat.mod_lt _ hm
  · exact OT.au (decide_eq_false (by dsimp only; omega))
def FA (s : cR) : Bool := decide (s.2.1.length = 4 ∧ s.2.2.2.1.length = 4 ∧ 0 < (elemOf s.2.2.2.1).nat)
def Mm (s : cR) : kf := (((), (), ()), (lst (ofN ((elemOf s.2.1).nat % (elemOf s.2.2.2.1).nat)), s.2.2.1, ()))
theorem Um {M : ab} {c2 : List UInt64} (hm : 0 < M.nat) : ∀ (n : Nat) (a : ab), a.nat = n →
    ∃ m, aq y6 m (((), (), (), ()), (lst a, c2, lst M, ())) = some ⟨(.exit 2, rS), (((), (), ()), (lst (ofN (a.nat % M.nat)), c2, ()))⟩ := by
  intro n
  induction n using Nat.strongRecOn with
  | _ n ih =>
    intro a hn
    rcases (Bool.eq_false_or_eq_true (Nat.blt a.nat M.nat)).symm with hb | hb
    · have hle : M.nat ≤ a.nat := by
        rcases Nat.lt_or_ge a.nat M.nat with h | h
        · have : Nat.blt a.nat M.nat = true := Nat.ble_eq_true_of_le h
          rw [this] at hb; cases hb
        · exact h
      have hd := k8 hle
      obtain ⟨m, hm2⟩ := ih (a.nat - M.nat) (by omega) (jV a M).1 hd
      rw [hd, ← Nat.mod_eq_sub_mod hle] at hm2
      refine ⟨m + 1, aH ?_ hm2⟩
      refine (aj rfl).trans ((OT.ap (b := !Nat.blt a.nat M.nat) (by rw [hb]; rfl)).trans ((aj rfl).trans rfl))
    · have hlt := da hb
      rw [Nat.mod_eq_of_lt hlt, oC]
      refine ⟨1, aI ?_⟩
      exact (aj rfl).trans (OT.au (b := !Nat.blt a.nat M.nat) (by rw [hb]; rfl))
theorem ai1 : ∀ s : cR, FA s = true → ∃ m e, aq y6 m s = some e ∧ (FB Mm s).run = some e := by
  rintro ⟨⟨⟨⟩, ⟨⟩, ⟨⟩, ⟨⟩⟩, ⟨l, c2, l2, ⟨⟩⟩⟩ h
  have h' := of_decide_eq_true h
  dsimp only at h'
  obtain ⟨h1, h2, h3⟩ := h'
  obtain ⟨a, rfl⟩ : ∃ a, l = lst a := ⟨elemOf l, (aZ h1).symm⟩
  obtain ⟨M, rfl⟩ : ∃ a, l2 = lst a := ⟨elemOf l2, (aZ h2).symm⟩
  obtain ⟨m, hm⟩ := Um (c2 := c2) (M := M) h3 _ a rfl
  exact ⟨m, _, hm, rfl⟩
def ofP (p : Nat) (a : ab) : ab := ofN (a.nat % p)
def RK (_ : Ix) : Bool := true
def agL (x : Ix) : OT iA.Y := .br (ak x.1.1) (.ok ⟨jY, ((ofP (pS x.1.1) x.1.2.1, ()), ())⟩) (.ok ⟨jY, ((⟨0, 0, 0, 0⟩, ()), ())⟩)
theorem Jv {a : ab} {p : Nat} {m : UInt64} (hp : p = m.toNat) (hs : dU m = true) : (⟨alf (lst a) m, 0, 0, 0⟩ : ab) = ofP p a := by
  have hm := im hs
  unfold ofP
  rw [Rw hs, hp, mV (n := a.nat % m.toNat) (Nat.lt_trans (Nat.mod_lt _ hm) m.toNat_lt)]
theorem Sg {s : Int} {a : ab} (h0 : (s == 0) = false) (h1 : (s == 1) = false) (hs : ak s = true) : (RL xY Mn FA Mm s a).run = some ⟨jY, ((ofP (pS s) a, ()), ())⟩ := by
  refine (OT.au h0).trans ((OT.au h1).trans ((OT.ap hs).trans ((aj ?_).trans rfl)))
  simp only [List.all_cons, List.all_nil, Bool.and_true, Bool.and_eq_true]
  exact ⟨decide_eq_true ⟨rfl, rfl, (mT hs).1⟩, rfl, rfl, rfl⟩
theorem Zj : ac Tryz.prog 62 (iA.aD RK agL) := Zk xY Mn FA Mm ai2 ai1 _ _ fun x oy _ ho => by
  rw [← ho]
  clear ho
  obtain ⟨⟨s, a, ⟨⟩⟩, ⟨⟩⟩ := x
  rcases (Bool.eq_false_or_eq_true (ak s)).symm with hs | hs
  · obtain ⟨h0, h1, _, _⟩ := n3 hs
    exact (OT.au h0).trans ((OT.au h1).trans ((OT.au hs).trans (OT.au (b := ak s) hs).symm))
  · refine Eq.trans ?_ (OT.ap (b := ak s) hs).symm
    show _ = some (⟨jY, ((ofP (pS s) a, ()), ())⟩ : iA.Y)
    rcases cz hs with rfl | rfl | rfl | rfl
    · rw [← Jv (a := a) (p := pS 0) (m := 16513537) (by decide +kernel) rfl]
      refine (OT.ap rfl).trans ((aj ?_).trans rfl)
      exact rfl
    · rw [← Jv (a := a) (p := pS 1) (m := 16521217) (by decide +kernel) rfl]
      refine (OT.au rfl).trans ((OT.ap rfl).trans ((aj ?_).trans rfl))
      exact rfl
    · exact Sg rfl rfl rfl
    · exact Sg rfl rfl rfl
def y0 : cv := (iA.aD RK agL)
theorem Un : ac Tryz.prog 62 y0 := Zj
theorem Ul : aF y0 := az
def Lh : Env := ay 62 y0 lR
theorem BJ : aQ Tryz.prog Lh := ah Un jp
theorem BK : av Lh := ae Ul th
theorem WE : aV Tryz.prog te Lh := aJ follows ar BJ BK
def eJ : ao := ⟨[.val false .int, .val true .elem, .val true .elem], [], true, 0, false⟩
abbrev DA : Type := ((Int) × (ab) × (ab) × Unit) × (Unit)
def cc : aw := ⟨[.val true .elem], [], false⟩
def I0 : SV → Option aw := fun _ => some cc
def MT (a0 : Int) (a1 : ab) (a2 : ab) : OT eJ.Y :=
  let z0 : Bool := ak a0
  let z1 : UInt64 := HJ a0
  let z2 : Bool := !z1 == (0 : UInt64)
  let z3 : Nat := pS a0
  let z4 : ab := ofP z3 a1
  let z5 := z4.w0
  let z6 : ab := ofP z3 a2
  let z7 := z6.w0
  let z8 : ab := { w0 := (z5 + z7) % z1, w1 := 0, w2 := 0, w3 := 0 }
  let z9 : ab := { w0 := (z5 + (0 : UInt64)) % z1, w1 := 0, w2 := 0, w3 := 0 }
  let z10 : ab := { w0 := ((0 : UInt64) + z7) % z1, w1 := 0, w2 := 0, w3 := 0 }
  let z11 : ab := { w0 := 0 % z1, w1 := 0, w2 := 0, w3 := 0 }
  let z12 : ab := { w0 := 0, w1 := 0, w2 := 0, w3 := 0 }
  (.br (a0 == (0 : Int))
  (.br (z0)
    (.br (z0)
      (gd [z2] (.ok ⟨cc, ((z8, ()), ())⟩))
      (gd [z2] (.ok ⟨cc, ((z9, ()), ())⟩)))
    (.br (z0)
      (gd [z2] (.ok ⟨cc, ((z10, ()), ())⟩))
      (gd [z2] (.ok ⟨cc, ((z11, ()), ())⟩))))
  (.br (a0 == (1 : Int))
    (.br (z0)
      (.br (z0)
        (gd [z2] (.ok ⟨cc, ((z8, ()), ())⟩))
        (gd [z2] (.ok ⟨cc, ((z9, ()), ())⟩)))
      (.br (z0)
        (gd [z2] (.ok ⟨cc, ((z10, ()), ())⟩))
        (gd [z2] (.ok ⟨cc, ((z11, ()), ())⟩))))
    (.br (z0)
      (.br (z0)
        (.br (z0)
          (.ok ⟨cc, ((ofP z3 (rk z4 z6).fst, ()), ())⟩)
          (.ok ⟨cc, ((z12, ()), ())⟩))
        (.br (z0)
          (.ok ⟨cc, ((ofP z3 (rk z4 z12).fst, ()), ())⟩)
          (.ok ⟨cc, ((z12, ()), ())⟩)))
      (.br (z0)
        (.br (z0)
          (.ok ⟨cc, ((ofP z3 (rk z12 z6).fst, ()), ())⟩)
          (.ok ⟨cc, ((z12, ()), ())⟩))
        (.br (z0)
          (.ok ⟨cc, ((ofP z3 z12, ()), ())⟩)
          (.ok ⟨cc, ((z12, ()), ())⟩))))))
theorem aje (x : DA) (Q : eJ.Y → Prop) : wpf te Lh ax 1000 Tryz.f134 (eJ.inp.inj x).tm (eJ.inp.inj x).hp (fnK eJ I0 Q) (fun _ _ => False) = (MT (x.1.1) (x.1.2.1) (x.1.2.2.1)).wpR Q := by kernel_rfl
theorem UI (pre : DA → Bool) (F : DA → OT eJ.Y) (hF : ∀ (x : DA) oy, pre x = true → (F x).run = some oy → (MT (x.1.1) (x.1.2.1) (x.1.2.2.1)).run = some oy) : ac Tryz.prog 134 (eJ.aD pre F) :=
  aB ar BJ WE (f := 134) (fn := Tryz.f134) (c := al Tryz.f134) (by kernel_rfl) (by kernel_rfl) (by kernel_rfl) (S := eJ) (k := 0) (by kernel_rfl) (fun R hR => ag) (n := 1000) (sel := I0) (fun v o h => by cases h; rfl) (pre := pre) (F := F) (T := fun x => MT (x.1.1) (x.1.2.1) (x.1.2.2.1)) (fun x Q => aje x Q) hF
theorem sB {s : Int} (h : s = 0 ∨ s = 1) : pS s = (HJ s).toNat ∧ 0 < (HJ s).toNat ∧ (HJ s).toNat ≤ 16521217 ∧ (!(HJ s == 0)) = true := by
  rcases h with rfl | rfl <;> exact ⟨by decide +kernel, by decide +kernel, by decide +kernel, rfl⟩
theorem Wz {s : Int} (h : s = 0 ∨ s = 1) (a b : ab) : (⟨((ofP (pS s) a).w0 + (ofP (pS s) b).w0) % HJ s, 0, 0, 0⟩ : ab) = wR (pS s) a b := by
  obtain ⟨hp, h0, h1, _⟩ := sB h
  rw [hp]
  generalize HJ s = m at *
  have ha := Nat.mod_lt a.nat h0
  have hb := Nat.mod_lt b.nat h0
  have hc := Nat.mod_lt (a.nat + b.nat) h0
  unfold wR
  rw [mV (by omega)]
  have e : ((ofP m.toNat a).w0 + (ofP m.toNat b).w0) % m = UInt64.ofNat ((a.nat + b.nat) % m.toNat) := by
    show (UInt64.ofNat (a.nat % m.toNat) + UInt64.ofNat (b.nat % m.toNat)) % m = _
    rw [← UInt64.toNat_inj, UInt64.toNat_mod, UInt64.toNat_add, UInt64.toNat_ofNat', UInt64.toNat_ofNat', UInt64.toNat_ofNat', Nat.mod_eq_of_lt (a := a.nat % m.toNat) (by omega), Nat.mod_eq_of_lt (a := b.nat % m.toNat) (by omega),
      Nat.mod_eq_of_lt (a := a.nat % m.toNat + b.nat % m.toNat) (by omega), Nat.mod_eq_of_lt (a := (a.nat + b.nat) % m.toNat) (by omega), ← Nat.add_mod]
  rw [e]
def mK (x : DA) : Bool := ak x.1.1
def ZD (x : DA) : OT eJ.Y := .ok ⟨cc, ((wR (pS x.1.1) x.1.2.1 x.1.2.2.1, ()), ())⟩
theorem afa : ac Tryz.prog 134 (eJ.aD mK ZD) := UI _ _ fun x oy hp ho => by
  rw [← ho]
  clear ho
  obtain ⟨⟨s, a, b, ⟨⟩⟩, ⟨⟩⟩ := x
  have hs : ak s = true := hp
  show _ = some (⟨cc, ((wR (pS s) a b, ()), ())⟩ : eJ.Y)
  have little : (s = 0 ∨ s = 1) → (gd [!(HJ s == 0)] (.ok ⟨cc, ((⟨((ofP (pS s) a).w0 + (ofP (pS s) b).w0) % HJ s, 0, 0, 0⟩, ()), ())⟩) : OT eJ.Y).run = some (⟨cc, ((wR (pS s) a b, ()), ())⟩ : eJ.Y) := fun h => by
    obtain ⟨_, _, _, hz⟩ := sB h
    rw [Wz h]
    exact aj (by simp only [hz, List.all_cons, List.all_nil, Bool.and_true])
  by_cases h0 : s = 0
  · exact (OT.ap (by simpa using h0)).trans ((OT.ap hs).trans ((OT.ap hs).trans (little (.inl h0))))
  · refine (OT.au (by simpa using h0)).trans ?_
    by_cases h1 : s = 1
    · exact (OT.ap (by simpa using h1)).trans ((OT.ap hs).trans ((OT.ap hs).trans (little (.inr h1))))
    · refine (OT.au (by simpa using h1)).trans ((OT.ap hs).trans ((OT.ap hs).trans ((OT.ap hs).trans ?_)))
      have e : ofP (pS s) (rk (ofP (pS s) a) (ofP (pS s) b)).1 = wR (pS s) a b := acj (mT hs) a b
      show some (⟨cc, ((ofP (pS s) (rk (ofP (pS s) a) (ofP (pS s) b)).1, ()), ())⟩ : eJ.Y) = _
      rw [e]
def uS : cv := (eJ.aD mK ZD)
theorem MS : ac Tryz.prog 134 uS := afa
theorem MR : aF uS := az
def BU : Env := ay 134 uS Lh
theorem v7 : aQ Tryz.prog BU := ah MS BJ
theorem xj : av BU := ae MR BK
theorem O4 : aV Tryz.prog te BU := aJ follows ar v7 xj
def gD : ao := ⟨[.val false .int, .val true .elem], [], true, 0, false⟩
abbrev Dm : Type := ((Int) × (ab) × Unit) × (Unit)
def jB : aw := ⟨[.val true .elem], [], false⟩
def Iy : SV → Option aw := fun _ => some jB
def Mq (a0 : Int) (a1 : ab) : OT gD.Y :=
  let z0 : Bool := ak a0
  let z1 : Nat := pS a0
  let z2 : ab := (bJ (Int.toNat a0)).fst
  let z3 : ab := { w0 := 0, w1 := 0, w2 := 0, w3 := 0 }
  (.br (z0)
  (.br (z0)
    (.br (z0)
      (.ok ⟨jB, ((ofP z1 (jV z2 (ofP z1 a1)).fst, ()), ())⟩)
      (.ok ⟨jB, ((z3, ()), ())⟩))
    (.br (z0)
      (.ok ⟨jB, ((ofP z1 (jV z2 z3).fst, ()), ())⟩)
      (.ok ⟨jB, ((z3, ()), ())⟩)))
  (.ok ⟨jB, ((z3, ()), ())⟩))
theorem ai5 (x : Dm) (Q : gD.Y → Prop) : wpf te BU ax 1000 Tryz.f96 (gD.inp.inj x).tm (gD.inp.inj x).hp (fnK gD Iy Q) (fun _ _ => False) = (Mq (x.1.1) (x.1.2.1)).wpR Q := by kernel_rfl
theorem Uo (pre : Dm → Bool) (F : Dm → OT gD.Y) (hF : ∀ (x : Dm) oy, pre x = true → (F x).run = some oy → (Mq (x.1.1) (x.1.2.1)).run = some oy) : ac Tryz.prog 96 (gD.aD pre F) :=
  aB ar v7 O4 (f := 96) (fn := Tryz.f96) (c := al Tryz.f96) (by kernel_rfl) (by kernel_rfl) (by kernel_rfl) (S := gD) (k := 0) (by kernel_rfl) (fun R hR => ag) (n := 1000) (sel := Iy) (fun v o h => by cases h; rfl) (pre := pre) (F := F) (T := fun x => Mq (x.1.1) (x.1.2.1)) (fun x Q => ai5 x Q) hF
theorem neg_eq {s : Int} (hs : ak s = true) (a : ab) : ofP (pS s) (jV (bJ s.toNat).1 (ofP (pS s) a)).1 = Jw (pS s) a := by
  have hp := mT hs
  have hlt := Nat.mod_lt a.nat hp.1
  have e : (ofP (pS s) a).nat = a.nat % pS s := eh hp
  unfold Jw
  have e2 : (jV (bJ s.toNat).1 (ofP (pS s) a)).1.nat = pS s - a.nat % pS s := by
    rw [k8 (by rw [e]; exact Nat.le_of_lt hlt), e]
    rfl
  show ofN (_ % _) = _
  rw [e2]
def mE (x : Dm) : Bool := ak x.1.1
def Zl (x : Dm) : OT gD.Y := .ok ⟨jB, ((Jw (pS x.1.1) x.1.2.1, ()), ())⟩
theorem aeW : ac Tryz.prog 96 (gD.aD mE Zl) := Uo _ _ fun x oy hp ho => by
  rw [← ho]
  clear ho
  obtain ⟨⟨s, a, ⟨⟩⟩, ⟨⟩⟩ := x
  have hs : ak s = true := hp
  show _ = some (⟨jB, ((Jw (pS s) a, ()), ())⟩ : gD.Y)
  rw [← neg_eq hs]
  exact (OT.ap hs).trans ((OT.ap hs).trans ((OT.ap hs).trans rfl))
def uD : cv := (gD.aD mE Zl)
theorem Mp : ac Tryz.prog 96 uD := aeW
theorem Mo : aF uD := az
def BL : Env := ay 96 uD BU
theorem vT : aQ Tryz.prog BL := ah Mp v7
theorem wZ : av BL := ae Mo xj
theorem OX : aV Tryz.prog te BL := aJ follows ar vT wZ
def iy : ao := ⟨[.val false .int, .val true .elem, .val true .elem], [], true, 0, false⟩
abbrev Dh : Type := ((Int) × (ab) × (ab) × Unit) × (Unit)
def Fw : aw := ⟨[.val true .elem], [], false⟩
def Io : SV → Option aw := fun _ => some Fw
def Mh (a0 : Int) (a1 : ab) (a2 : ab) : OT iy.Y :=
  let z0 : Nat := pS a0
  let z1 : ab := Jw z0 a2
  (gd [mE ((a0, a2, ()), ()), mK ((a0, a1, z1, ()), ())] (.ok ⟨Fw, ((wR z0 a1 z1, ()), ())⟩))
theorem aiY (x : Dh) (Q : iy.Y → Prop) : wpf te BL ax 1000 Tryz.f172 (iy.inp.inj x).tm (iy.inp.inj x).hp (fnK iy Io Q) (fun _ _ => False) = (Mh (x.1.1) (x.1.2.1) (x.1.2.2.1)).wpR Q := by kernel_rfl
theorem Uk (pre : Dh → Bool) (F : Dh → OT iy.Y) (hF : ∀ (x : Dh) oy, pre x = true → (F x).run = some oy → (Mh (x.1.1) (x.1.2.1) (x.1.2.2.1)).run = some oy) : ac Tryz.prog 172 (iy.aD pre F) :=
  aB ar vT OX (f := 172) (fn := Tryz.f172) (c := al Tryz.f172) (by kernel_rfl) (by kernel_rfl) (by kernel_rfl) (S := iy) (k := 0) (by kernel_rfl) (fun R hR => ag) (n := 1000) (sel := Io) (fun v o h => by cases h; rfl) (pre := pre) (F := F) (T := fun x => Mh (x.1.1) (x.1.2.1) (x.1.2.2.1)) (fun x Q => aiY x Q) hF
def dx (x : Dh) : Bool := ak x.1.1
def Y4 (x : Dh) : OT iy.Y := .ok ⟨Fw, ((jv (pS x.1.1) x.1.2.1 x.1.2.2.1, ()), ())⟩
theorem aeS : ac Tryz.prog 172 (iy.aD dx Y4) := Uk _ _ fun x oy hp ho => by
  rw [← ho]
  clear ho
  obtain ⟨⟨s, a, b, ⟨⟩⟩, ⟨⟩⟩ := x
  have hs : ak s = true := hp
  refine (aj ?_).trans rfl
  simp only [List.all_cons, List.all_nil, Bool.and_true, Bool.and_eq_true]
  exact ⟨hs, hs⟩
def ux : cv := (iy.aD dx Y4)
theorem Mg : ac Tryz.prog 172 ux := aeS
theorem Mf : aF ux := az
def vR : Env := ay 172 ux BL
theorem o7 : aQ Tryz.prog vR := ah Mg vT
theorem wX : av vR := ae Mf wZ
theorem BH : aV Tryz.prog te vR := aJ follows ar o7 wX
def eI : ao := ⟨[.val false .int, .val true .elem, .val true .elem], [], true, 0, false⟩
abbrev Dn : Type := ((Int) × (ab) × (ab) × Unit) × (Unit)
def rU : Shape := ⟨80, [(4, .ptr 0 0 0), (5, .ptr 1 0 0), (6, .ptr 2 0 0), (7, .ptr 3 0 0), (9, .ptr 4 0 0), (10, .val false .int)], [(0, .row .u64), (1, .row .u64), (2, .row .u64), (3, .row .u64), (4, .row .u64)], 0, true⟩
abbrev bI : Type := ((Unit) × (Unit) × (Unit) × (Unit) × (Unit) × (Int) × Unit) × ((List (UInt64)) × (List (UInt64)) × (List (UInt64)) × (List (UInt64)) × (List (UInt64)) × Unit)
def od : Shape := ⟨80, [(6, .ptr 0 0 0), (9, .ptr 1 0 0)], [(0, .row .u64), (1, .row .u64)], 0, true⟩
abbrev iB : Type := ((Unit) × (Unit) × Unit) × ((List (UInt64)) × (List (UInt64)) × Unit)
def RM : SE → Option Shape := jt [(0, od)] none
def FD (a10 : Int) (c0 : List (UInt64)) (c1 : List (UInt64)) (c2 : List (UInt64)) (c3 : List (UInt64)) (c4 : List (UInt64)) : OT (Sum bI aL) :=
  let z0 : Nat := List.length c4
  let z1 : Bool := decide (4 ≤ z0)
  let z2 : ab := { w0 := List.getD c4 0 0, w1 := List.getD c4 1 0, w2 := List.getD c4 2 0, w3 := List.getD c4 3 0 }
  let z3 := (rk z2 z2).fst
  let z4 : List UInt64 := List.set (List.set (List.set (List.set c4 0 z3.w0) 1 z3.w1) 2 z3.w2) 3 z3.w3
  let z5 : Nat := List.length z4
  let z6 : Bool := decide (4 ≤ z5)
  let z7 : Bool := decide (4 ≤ List.length c3)
  let z8 : ab := { w0 := List.getD z4 0 0, w1 := List.getD z4 1 0, w2 := List.getD z4 2 0, w3 := List.getD z4 3 0 }
  let z9 : ab := { w0 := List.getD c3 0 0, w1 := List.getD c3 1 0, w2 := List.getD c3 2 0, w3 := List.getD c3 3 0 }
  let z10 : Nat := ab.nat z9
  let z11 : Int := Int.tdiv a10 (64 : Int)
  let z12 : Bool := true && inR z11
  let z13 : Bool := inB z11 4
  let z14 : Bool := decide (Int.toNat z11 + 0 < List.length c1)
  let z15 := (jV z8 z9).fst
  let z16 : List UInt64 := List.set (List.set (List.set (List.set z4 0 z15.w0) 1 z15.w1) 2 z15.w2) 3 z15.w3
  let z17 : Nat := List.length z16
  let z18 : Bool := decide (4 ≤ List.length c0)
  let z19 : ab := { w0 := List.getD c0 0 0, w1 := List.getD c0 1 0, w2 := List.getD c0 2 0, w3 := List.getD c0 3 0 }
  let z20 : ab := (rk { w0 := List.getD z16 0 0, w1 := List.getD z16 1 0, w2 := List.getD z16 2 0, w3 := List.getD z16 3 0 } z19).fst
  let z21 : List UInt64 := List.set (List.set (List.set (List.set z16 0 z20.w0) 1 z20.w1) 2 z20.w2) 3 z20.w3
  let z22 : Nat := List.length z21
  let z23 : Bool := decide (4 ≤ z22)
  let z24 : ab := { w0 := List.getD z21 0 0, w1 := List.getD z21 1 0, w2 := List.getD z21 2 0, w3 := List.getD z21 3 0 }
  let z25 : Bool := inR (a10 - (1 : Int))
  let z26 := (jV z24 z9).fst
  let z27 := (rk z8 z19).fst
  let z28 : List UInt64 := List.set (List.set (List.set (List.set z4 0 z27.w0) 1 z27.w1) 2 z27.w2) 3 z27.w3
  let z29 : Nat := List.length z28
  let z30 : Bool := decide (4 ≤ z29)
  let z31 : ab := { w0 := List.getD z28 0 0, w1 := List.getD z28 1 0, w2 := List.getD z28 2 0, w3 := List.getD z28 3 0 }
  let z32 := (jV z31 z9).fst
  (.br (decide ((0 : Int) ≤ a10))
  (gd [z1, z1, decide ((4 / 1 : Nat) + 0 ≤ z0), z6, z7] (.br (!Nat.blt (ab.nat z8) z10)
    (gd [z6, z7, decide ((4 / 1 : Nat) + 0 ≤ z5), z12, z13, z14] (.br (bl (List.getD c1 (Int.toNat z11 + 0) (0 : UInt64)) (↑(UInt64.toNat (i2u (Int.tmod a10 (64 : Int)))) : Int) &&& (1 : UInt64) == (1 : UInt64))
      (gd [decide (4 ≤ z17), z18, decide ((4 / 1 : Nat) + 0 ≤ z17), z23, z7] (.br (!Nat.blt (ab.nat z24) z10)
        (gd [z23, z7, decide ((4 / 1 : Nat) + 0 ≤ z22), z25] (.ok (.inl (((), ((), ((), ((), ((), (a10 - (1 : Int), ())))))), (c0, (c1, (c2, (c3, (List.set (List.set (List.set (List.set z21 0 z26.w0) 1 z26.w1) 2 z26.w2) 3 z26.w3, ())))))))))
        (gd [z25] (.ok (.inl (((), ((), ((), ((), ((), (a10 - (1 : Int), ())))))), (c0, (c1, (c2, (c3, (z21, ())))))))))))
      (gd [z25] (.ok (.inl (((), ((), ((), ((), ((), (a10 - (1 : Int), ())))))), (c0, (c1, (c2, (c3, (z16, ())))))))))))
    (gd [z12, z13, z14] (.br (bl (List.getD c1 (Int.toNat z11 + 0) (0 : UInt64)) (↑(UInt64.toNat (i2u (Int.tmod a10 (64 : Int)))) : Int) &&& (1 : UInt64) == (1 : UInt64))
      (gd [z6, z18, decide ((4 / 1 : Nat) + 0 ≤ z5), z30, z7] (.br (!Nat.blt (ab.nat z31) z10)
        (gd [z30, z7, decide ((4 / 1 : Nat) + 0 ≤ z29), z25] (.ok (.inl (((), ((), ((), ((), ((), (a10 - (1 : Int), ())))))), (c0, (c1, (c2, (c3, (List.set (List.set (List.set (List.set z28 0 z32.w0) 1 z32.w1) 2 z32.w2) 3 z32.w3, ())))))))))
        (gd [z25] (.ok (.inl (((), ((), ((), ((), ((), (a10 - (1 : Int), ())))))), (c0, (c1, (c2, (c3, (z28, ())))))))))))
      (gd [z25] (.ok (.inl (((), ((), ((), ((), ((), (a10 - (1 : Int), ())))))), (c0, (c1, (c2, (c3, (z4, ())))))))))))))
  (.ok (.inr ⟨(.exit 0, od), (((), ((), ())), (c2, (c4, ())))⟩)))
def oe (s : bI) : OT (Sum bI aL) := FD (s.1.2.2.2.2.2.1) (s.2.1) (s.2.2.1) (s.2.2.2.1) (s.2.2.2.2.1) (s.2.2.2.2.2.1)
theorem aeX (s : bI) (Q : Sum bI aL → Prop) : wps te vR ax 1000 (bE (al Tryz.f113) 0) (rU.inj s) (cM rU RM (Q : Sum rU.T aL → Prop)) = (oe s).wpR Q := by kernel_rfl
def xZ (g0_0 : bI → iB) (s : bI) : OT aL := (.ok ⟨(.exit 0, od), g0_0 s⟩)
def cx : aw := ⟨[.val true .elem], [], false⟩
def Iz : SV → Option aw := fun _ => some cx
def Mt (ok0 : bI → Bool) (g0_0 : bI → iB) (a0 : Int) (a1 : ab) (a2 : ab) : OT eI.Y :=
  let z0 : Bool := ak a0
  let z1 : UInt64 := HJ a0
  let z2 : Bool := !z1 == (0 : UInt64)
  let z3 : Nat := pS a0
  let z4 : ab := ofP z3 a1
  let z5 := z4.w0
  let z6 : ab := ofP z3 a2
  let z7 := z6.w0
  let z8 : ab := { w0 := z5 * z7 % z1, w1 := 0, w2 := 0, w3 := 0 }
  let z9 : ab := { w0 := z5 * (0 : UInt64) % z1, w1 := 0, w2 := 0, w3 := 0 }
  let z10 : ab := { w0 := 0 * z7 % z1, w1 := 0, w2 := 0, w3 := 0 }
  let z11 : ab := { w0 := 0 % z1, w1 := 0, w2 := 0, w3 := 0 }
  let z12 : PUnit × PUnit × PUnit × PUnit × PUnit × Int × PUnit := ((), (), (), (), (), (255 : Int), ())
  let z13 : ab := (bJ (Int.toNat a0)).fst
  let z14 : List UInt64 × List UInt64 × List UInt64 × PUnit := ([(0 : UInt64), (0 : UInt64), (0 : UInt64), (0 : UInt64)], [z13.w0, z13.w1, z13.w2, z13.w3], [(0 : UInt64), (0 : UInt64), (0 : UInt64), (0 : UInt64)], ())
  let z15 : List UInt64 × List UInt64 × List UInt64 × List UInt64 × PUnit := ([z7, z6.w1, z6.w2, z6.w3], z14)
  let z16 : (PUnit × PUnit × PUnit × PUnit × PUnit × Int × PUnit) × List UInt64 × List UInt64 × List UInt64 × List UInt64 × List UInt64 × PUnit := (z12, [z5, z4.w1, z4.w2, z4.w3], z15)
  let z17 := (g0_0 z16).snd
  let z18 := z17.snd.fst
  let z19 := z17.fst
  let z20 : List UInt64 := lay z19 z18 4 (0 : UInt64)
  let z21 : List UInt64 × List UInt64 × List UInt64 × List UInt64 × PUnit := ([(0 : UInt64), (0 : UInt64), (0 : UInt64), (0 : UInt64)], z14)
  let z22 : (PUnit × PUnit × PUnit × PUnit × PUnit × Int × PUnit) × List UInt64 × List UInt64 × List UInt64 × List UInt64 × List UInt64 × PUnit := (z12, [z5, z4.w1, z4.w2, z4.w3], z21)
  let z23 := (g0_0 z22).snd
  let z24 := z23.snd.fst
  let z25 := z23.fst
  let z26 : List UInt64 := lay z25 z24 4 (0 : UInt64)
  let z27 : (PUnit × PUnit × PUnit × PUnit × PUnit × Int × PUnit) × List UInt64 × List UInt64 × List UInt64 × List UInt64 × List UInt64 × PUnit := (z12, [(0 : UInt64), (0 : UInt64), (0 : UInt64), (0 : UInt64)], z15)
  let z28 := (g0_0 z27).snd
  let z29 := z28.snd.fst
  let z30 := z28.fst
  let z31 : List UInt64 := lay z30 z29 4 (0 : UInt64)
  let z32 : (PUnit × PUnit × PUnit × PUnit × PUnit × Int × PUnit) × List UInt64 × List UInt64 × List UInt64 × List UInt64 × List UInt64 × PUnit := (z12, [(0 : UInt64), (0 : UInt64), (0 : UInt64), (0 : UInt64)], z21)
  let z33 := (g0_0 z32).snd
  let z34 := z33.snd.fst
  let z35 := z33.fst
  let z36 : List UInt64 := lay z35 z34 4 (0 : UInt64)
  (.br (a0 == (0 : Int))
  (.br (z0)
    (.br (z0)
      (gd [z2] (.ok ⟨cx, ((z8, ()), ())⟩))
      (gd [z2] (.ok ⟨cx, ((z9, ()), ())⟩)))
    (.br (z0)
      (gd [z2] (.ok ⟨cx, ((z10, ()), ())⟩))
      (gd [z2] (.ok ⟨cx, ((z11, ()), ())⟩))))
  (.br (a0 == (1 : Int))
    (.br (z0)
      (.br (z0)
        (gd [z2] (.ok ⟨cx, ((z8, ()), ())⟩))
        (gd [z2] (.ok ⟨cx, ((z9, ()), ())⟩)))
      (.br (z0)
        (gd [z2] (.ok ⟨cx, ((z10, ()), ())⟩))
        (gd [z2] (.ok ⟨cx, ((z11, ()), ())⟩))))
    (.br (z0)
      (.br (z0)
        (.br (z0)
          (gd [ok0 z16, decide (4 ≤ List.length z18), decide ((4 / 1 : Nat) + 0 ≤ List.length z19), decide (4 ≤ List.length z20)] (.ok ⟨cx, (({ w0 := List.getD z20 0 0, w1 := List.getD z20 1 0, w2 := List.getD z20 2 0, w3 := List.getD z20 3 0 }, ()), ())⟩))
          (gd [ok0 z22, decide (4 ≤ List.length z24), decide ((4 / 1 : Nat) + 0 ≤ List.length z25), decide (4 ≤ List.length z26)] (.ok ⟨cx, (({ w0 := List.getD z26 0 0, w1 := List.getD z26 1 0, w2 := List.getD z26 2 0, w3 := List.getD z26 3 0 }, ()), ())⟩)))
        (.br (z0)
          (gd [ok0 z27, decide (4 ≤ List.length z29), decide ((4 / 1 : Nat) + 0 ≤ List.length z30), decide (4 ≤ List.length z31)] (.ok ⟨cx, (({ w0 := List.getD z31 0 0, w1 := List.getD z31 1 0, w2 := List.getD z31 2 0, w3 := List.getD z31 3 0 }, ()), ())⟩))
          (gd [ok0 z32, decide (4 ≤ List.length z34), decide ((4 / 1 : Nat) + 0 ≤ List.length z35), decide (4 ≤ List.length z36)] (.ok ⟨cx, (({ w0 := List.getD z36 0 0, w1 := List.getD z36 1 0, w2 := List.getD z36 2 0, w3 := List.getD z36 3 0 }, ()), ())⟩))))
      (.ok ⟨cx, (({ w0 := 0, w1 := 0, w2 := 0, w3 := 0 }, ()), ())⟩))))
theorem ai6 (ok0 : bI → Bool) (g0_0 : bI → iB) (x : Dn) (Q : eI.Y → Prop) : wpf te vR (bg 0 (db rU 0 ok0 (xZ g0_0)) ax) 1000 Tryz.f113 (eI.inp.inj x).tm (eI.inp.inj x).hp (fnK eI Iz Q) (fun _ _ => False) = (Mt ok0 g0_0 (x.1.1) (x.1.2.1) (x.1.2.2.1)).wpR Q := by kernel_rfl
theorem Up (ok0 : bI → Bool) (g0_0 : bI → iB) (h0 : ∀ s : bI, ok0 s = true → ∃ m e, aq (oe) m s = some e ∧ (xZ g0_0 s).run = some e) (pre : Dn → Bool) (F : Dn → OT eI.Y) (hF : ∀ (x : Dn) oy, pre x = true → (F x).run = some oy → (Mt ok0 g0_0 (x.1.1) (x.1.2.1) (x.1.2.2.1)).run = some oy) : ac Tryz.prog 113 (eI.aD pre F) :=
  aB ar o7 BH (f := 113) (fn := Tryz.f113) (c := al Tryz.f113) (by kernel_rfl) (by kernel_rfl) (by kernel_rfl) (S := eI) (k := 0) (by kernel_rfl) (fun R hR => (aC (c := (al Tryz.f113)) (by kernel_rfl) (id := 0) (by kernel_rfl) (bo ar o7 BH (sh := rU) hR (xs := RM) (aE (by kernel_rfl) (by kernel_rfl) hR) aS ag (n := 1000) (T := oe) (fun s Q => aeX s Q) (ok := ok0) (f := xZ g0_0) h0) ag)) (n := 1000) (sel := Iz) (fun v o h => by cases h; rfl) (pre := pre) (F := F) (T := fun x => Mt ok0 g0_0 (x.1.1) (x.1.2.1) (x.1.2.2.1)) (fun x Q => ai6 ok0 g0_0 x Q) hF
theorem UW {s : Int} (h : s = 0 ∨ s = 1) (a b : ab) : (⟨(ofP (pS s) a).w0 * (ofP (pS s) b).w0 % HJ s, 0, 0, 0⟩ : ab) = bG (pS s) a b := by
  obtain ⟨hp, h0, h1, _⟩ := sB h
  rw [hp]
  generalize HJ s = m at *
  have ha := Nat.mod_lt a.nat h0
  have hb := Nat.mod_lt b.nat h0
  have hc := Nat.mod_lt (a.nat * b.nat) h0
  have hab : a.nat % m.toNat * (b.nat % m.toNat) < 18446744073709551616 := by
    have : a.nat % m.toNat * (b.nat % m.toNat) ≤ 16521217 * 16521217 := Nat.mul_le_mul (by omega) (by omega)
    omega
  unfold bG
  rw [mV (n := a.nat * b.nat % m.toNat) (by omega)]
  have e : (ofP m.toNat a).w0 * (ofP m.toNat b).w0 % m = UInt64.ofNat (a.nat * b.nat % m.toNat) := by
    show UInt64.ofNat (a.nat % m.toNat) * UInt64.ofNat (b.nat % m.toNat) % m = _
    rw [← UInt64.toNat_inj, UInt64.toNat_mod, UInt64.toNat_mul, UInt64.toNat_ofNat', UInt64.toNat_ofNat', UInt64.toNat_ofNat', Nat.mod_eq_of_lt (a := a.nat % m.toNat) (by omega), Nat.mod_eq_of_lt (a := b.nat % m.toNat) (by omega),
      Nat.mod_eq_of_lt (a := a.nat % m.toNat * (b.nat % m.toNat)) (by omega), Nat.mod_eq_of_lt (a := a.nat * b.nat % m.toNat) (by omega), ← Nat.mul_mod]
  rw [e]
def sO (p a b : Nat) (n o : Nat) : Nat := cond (EL b (255 - n)) ((2 * o % p + a) % p) (2 * o % p)
theorem abt (p a b : Nat) (hb : b < 2 ^ 256) : ∀ n, n ≤ 256 → upto (sO p a b) 0 n = a * (b / 2 ^ (256 - n)) % p
  | 0, _ => by
    show 0 = _
    rw [Nat.div_eq_of_lt (by exact hb), Nat.mul_zero, Nat.zero_mod]
  | n + 1, hn => by
    show sO p a b n (upto (sO p a b) 0 n) = _
    rw [abt p a b hb n (by omega)]
    have e1 : 256 - n = (255 - n) + 1 := by omega
    have e2 : 256 - (n + 1) = 255 - n := by omega
    rw [e1, e2, Nat.pow_succ, ← Nat.div_div_eq_div_mul]
    unfold sO EL
    generalize b / 2 ^ (255 - n) = q
    have hd : 2 * (a * (q / 2) % p) % p = a * (2 * (q / 2)) % p := by
      rw [Nat.mul_mod, Nat.mod_mod, ← Nat.mul_mod, Nat.mul_left_comm]
    cases hq : Nat.beq (q % 2) 1
    · simp only [cond_false]
      have : ¬ q % 2 = 1 := fun e => by rw [e] at hq; cases hq
      rw [hd, show 2 * (q / 2) = q by omega]
    · have hq := Nat.eq_of_beq_eq_true hq
      simp only [cond_true]
      rw [hd, Nat.mod_add_mod]
      have e3 : a * (2 * (q / 2)) + a = a * q := by
        rw [← Nat.mul_succ, show (2 * (q / 2)).succ = q by omega]
      rw [e3]
theorem alh {z M : ab} (h : Nat.blt z.nat M.nat = true) : z = ofN (z.nat % M.nat) := by
  rw [Nat.mod_eq_of_lt (da h), oC]
theorem ZZ {n m : Nat} (h : Nat.blt n m = false) : m ≤ n := by
  rcases Nat.lt_or_ge n m with h' | h'
  · have : Nat.blt n m = true := Nat.ble_eq_true_of_le h'
    rw [this] at h; cases h
  · exact h'
theorem alg {z M : ab} (h : Nat.blt z.nat M.nat = false) (h2 : z.nat < 2 * M.nat) : (jV z M).1 = ofN (z.nat % M.nat) := by
  have hle := ZZ h
  have hz := iP z
  apply zF
  rw [k8 hle, Nat.mod_eq_sub_mod hle, Nat.mod_eq_of_lt (by omega), iO (by omega)]
theorem sum_nat {a b : ab} (h : a.nat + b.nat < 115792089237316195423570985008687907853269984665640564039457584007913129639936) : (rk a b).1.nat = a.nat + b.nat := iO h
theorem aaA {k : Nat} (hk : k < 64) : (((i2u (k : Int)).toNat : Nat) : Int) = (k : Int) := by
  unfold i2u
  rw [UInt64.toNat_ofNat']
  omega
theorem ahc {b : ab} {n : Nat} (hn : n < 256) : (bl (List.getD (lst b) (Int.toNat (Int.tdiv (255 - (n : Int)) 64) + 0) 0) (((i2u (Int.tmod (255 - (n : Int)) 64)).toNat : Nat) : Int) &&& 1 == 1) = EL b.nat (255 - n) := by
  have t0 : (255 : Int) - (n : Int) = ((255 - n : Nat) : Int) := by omega
  rw [t0]
  generalize hk : 255 - n = k
  have hk2 : k < 256 := by omega
  have t1 : Int.tdiv (k : Int) 64 = ((k / 64 : Nat) : Int) := by rw [Int.tdiv_eq_ediv_of_nonneg (by omega)]; omega
  have t2 : Int.tmod (k : Int) 64 = ((k % 64 : Nat) : Int) := by rw [Int.tmod_eq_emod_of_nonneg (by omega)]; omega
  rw [t1, t2, aaA (by omega), OH, eX _ _ (by omega), Int.toNat_natCast, Nat.add_zero]
  have := TK (a := b) (q := k / 64) (r := k % 64) (by omega) (by omega)
  rw [show 64 * (k / 64) + k % 64 = k by omega] at this
  unfold EL
  rw [← this]
theorem akH (e f : ab) : List.set (List.set (List.set (List.set (lst e) 0 f.w0) 1 f.w1) 2 f.w2) 3 f.w3 = lst f := rfl
theorem akN (e : ab) : (⟨List.getD (lst e) 0 0, List.getD (lst e) 1 0, List.getD (lst e) 2 0, List.getD (lst e) 3 0⟩ : ab) = e := rfl
def abu (A B : ab) (c2 : List UInt64) (M : ab) (n o : Nat) : bI := (((), (), (), (), (), 255 - (n : Int), ()), (lst A, lst B, c2, lst M, lst (ofN o), ()))
theorem akm {A B M : ab} {c2 : List UInt64} {n o : Nat} (hn : n < 256) (hA : A.nat < M.nat) (ho : o < M.nat) (hM : 2 * M.nat ≤ 115792089237316195423570985008687907853269984665640564039457584007913129639936) :
    (oe (abu A B c2 M n o)).run = some (.inl (abu A B c2 M (n + 1) (sO M.nat A.nat B.nat n o))) := by
  have e2 : (255 : Int) - (n : Int) - 1 = 255 - ((n + 1 : Nat) : Int) := by omega
  have hO : (ofN o).nat = o := iO (by omega)
  have hz : (rk (ofN o) (ofN o)).1.nat = 2 * o := by rw [sum_nat (by omega), hO]; omega
  have hbit := ahc (b := B) hn
  have t0 : (255 : Int) - (n : Int) = ((255 - n : Nat) : Int) := by omega
  have t1 : Int.tdiv (255 - (n : Int)) 64 = (((255 - n) / 64 : Nat) : Int) := by rw [t0, Int.tdiv_eq_ediv_of_nonneg (by omega)]; omega
  have gb : ∀ z : OT (Sum bI aL), (gd [true && inR (Int.tdiv (255 - (n : Int)) 64), inB (Int.tdiv (255 - (n : Int)) 64) 4, decide (Int.toNat (Int.tdiv (255 - (n : Int)) 64) + 0 < (lst B).length)] z).run = z.run := fun z => aj (by
    simp only [t1, Int.toNat_natCast, Nat.add_zero, cB, List.all_cons, List.all_nil, Bool.and_true, Bool.true_and, Bool.and_eq_true]
    exact ⟨bz (by omega), bF (by omega), decide_eq_true (by omega)⟩)
  have gb2 : ∀ z : OT (Sum bI aL), (gd [true, true, true, true && inR (Int.tdiv (255 - (n : Int)) 64), inB (Int.tdiv (255 - (n : Int)) 64) 4, decide (Int.toNat (Int.tdiv (255 - (n : Int)) 64) + 0 < (lst B).length)] z).run = z.run := fun z => aj (by
    simp only [t1, Int.toNat_natCast, Nat.add_zero, cB, List.all_cons, List.all_nil, Bool.and_true, Bool.true_and, Bool.and_eq_true]
    exact ⟨bz (by omega), bF (by omega), decide_eq_true (by omega)⟩)
  have hi : inR ((255 : Int) - (n : Int) - 1) = true := bz (by omega)
  have gi : ∀ z : OT (Sum bI aL), (gd [inR ((255 : Int) - (n : Int) - 1)] z).run = z.run := fun z => aj (by simp only [hi, List.all_cons, List.all_nil, Bool.and_true])
  have gi2 : ∀ z : OT (Sum bI aL), (gd [true, true, true, inR ((255 : Int) - (n : Int) - 1)] z).run = z.run := fun z => aj (by simp only [hi, List.all_cons, List.all_nil, Bool.and_true])
  -- behind the doubling
  have tail : ∀ D : ab, D = ofN (2 * o % M.nat) →
      (OT.br (bl (List.getD (lst B) (Int.toNat (Int.tdiv (255 - (n : Int)) 64) + 0) 0) (((i2u (Int.tmod (255 - (n : Int)) 64)).toNat : Nat) : Int) &&& 1 == 1)
        (gd [true, true, true, true, true] (OT.br (!Nat.blt (rk D A).1.nat M.nat)
          (gd [true, true, true, inR ((255 : Int) - (n : Int) - 1)] (.ok (.inl (((), (), (), (), (), (255 : Int) - (n : Int) - 1, ()), (lst A, lst B, c2, lst M, lst (jV (rk D A).1 M).1, ())))))
          (gd [inR ((255 : Int) - (n : Int) - 1)] (.ok (.inl (((), (), (), (), (), (255 : Int) - (n : Int) - 1, ()), (lst A, lst B, c2, lst M, lst (rk D A).1, ())))))))
        (gd [inR ((255 : Int) - (n : Int) - 1)] (.ok (.inl (((), (), (), (), (), (255 : Int) - (n : Int) - 1, ()), (lst A, lst B, c2, lst M, lst D, ()))))) : OT (Sum bI aL)).run
      = some (.inl (abu A B c2 M (n + 1) (sO M.nat A.nat B.nat n o))) := fun D hD => by
    rw [hbit, e2]
    rw [e2] at gi gi2
    have hlt := Nat.mod_lt (2 * o) (show 0 < M.nat by omega)
    have hDn : D.nat = 2 * o % M.nat := by rw [hD]; exact iO (by omega)
    have hw : (rk D A).1.nat = 2 * o % M.nat + A.nat := by rw [sum_nat (by omega), hDn]
    unfold sO
    rcases (Bool.eq_false_or_eq_true (EL B.nat (255 - n))).symm with hb | hb
    · rw [hb, hD]
      exact (OT.au rfl).trans (gi _)
    · rw [hb]
      refine (OT.ap rfl).trans ((aj rfl).trans ?_)
      rcases (Bool.eq_false_or_eq_true (Nat.blt (rk D A).1.nat M.nat)).symm with hc | hc
      · have er := alg hc (by omega)
        rw [hw] at er
        refine (OT.ap (by rw [hc]; rfl)).trans ((gi2 _).trans ?_)
        rw [er]
        rfl
      · have er := alh hc
        rw [hw] at er
        refine (OT.au (by rw [hc]; rfl)).trans ((gi _).trans ?_)
        rw [er]
        rfl
  show (FD (255 - (n : Int)) (lst A) (lst B) c2 (lst M) (lst (ofN o))).run = _
  unfold FD
  simp only [akH, akN, cB]
  refine (OT.ap (decide_eq_true (by omega))).trans ((aj rfl).trans ?_)
  rcases (Bool.eq_false_or_eq_true (Nat.blt (rk (ofN o) (ofN o)).1.nat M.nat)).symm with hc | hc
  · have er := alg hc (by omega)
    rw [hz] at er
    exact (OT.ap (b := !Nat.blt (rk (ofN o) (ofN o)).1.nat M.nat) (by rw [hc]; rfl)).trans ((gb2 _).trans (tail _ er))
  · have er := alh hc
    rw [hz] at er
    exact (OT.au (b := !Nat.blt (rk (ofN o) (ofN o)).1.nat M.nat) (by rw [hc]; rfl)).trans ((gb _).trans (tail _ er))
def IA (s : bI) : Bool := decide (s.1.2.2.2.2.2.1 = 255 ∧ s.2.1.length = 4 ∧ s.2.2.1.length = 4 ∧ s.2.2.2.2.1.length = 4 ∧ s.2.2.2.2.2.1 = [0, 0, 0, 0] ∧ (elemOf s.2.1).nat < (elemOf s.2.2.2.2.1).nat ∧ 2 * (elemOf s.2.2.2.2.1).nat ≤ 115792089237316195423570985008687907853269984665640564039457584007913129639936)
def RN (s : bI) : iB := (((), (), ()), (s.2.2.2.1, lst (ofN ((elemOf s.2.1).nat * (elemOf s.2.2.1).nat % (elemOf s.2.2.2.2.1).nat)), ()))
theorem aeZ : ∀ s : bI, IA s = true → ∃ m e, aq oe m s = some e ∧ (xZ RN s).run = some e := by
  rintro ⟨⟨⟨⟩, ⟨⟩, ⟨⟩, ⟨⟩, ⟨⟩, i, ⟨⟩⟩, ⟨l0, l1, c2, l3, l4, ⟨⟩⟩⟩ h
  have h' := of_decide_eq_true h
  dsimp only at h'
  obtain ⟨rfl, h0, h1, h3, rfl, hA, hM⟩ := h'
  obtain ⟨A, rfl⟩ : ∃ a, l0 = lst a := ⟨elemOf l0, (aZ h0).symm⟩
  obtain ⟨B, rfl⟩ : ∃ a, l1 = lst a := ⟨elemOf l1, (aZ h1).symm⟩
  obtain ⟨M, rfl⟩ : ∃ a, l3 = lst a := ⟨elemOf l3, (aZ h3).symm⟩
  have hA : A.nat < M.nat := hA
  have := (bN (T := oe) (abu A B c2 M) (sO M.nat A.nat B.nat)
    (fun o => (⟨(.exit 0, od), (((), (), ()), (c2, lst (ofN o), ()))⟩ : aL)) 256 0 (fun _ o => o < M.nat) (by omega) (fun n o hn ho => ⟨akm hn hA ho hM, ?_⟩) (fun o ho => ?_)).1
  · rw [abt M.nat A.nat B.nat (iP B) 256 (by omega), Nat.sub_self, Nat.pow_zero, Nat.div_one] at this
    obtain ⟨m, hm⟩ := this
    exact ⟨m, _, hm, rfl⟩
  · unfold sO
    cases EL B.nat (255 - n)
    · exact Nat.mod_lt _ (by omega)
    · exact Nat.mod_lt _ (by omega)
  · exact OT.au (decide_eq_false (by dsimp only [abu]; omega))
def bT (x : Dn) : Bool := ak x.1.1
def Zm (x : Dn) : OT eI.Y := .ok ⟨cx, ((bG (pS x.1.1) x.1.2.1 x.1.2.2.1, ()), ())⟩
theorem Z4 {s : Int} (hs : ak s = true) (a b : ab) : ofN ((ofP (pS s) a).nat * (ofP (pS s) b).nat % pS s) = bG (pS s) a b := by
  have hp := mT hs
  unfold ofP bG
  rw [eh hp, eh hp, ← Nat.mul_mod]
theorem aeY : ac Tryz.prog 113 (eI.aD bT Zm) := Up IA RN aeZ _ _ fun x oy hp ho => by
  rw [← ho]
  clear ho
  obtain ⟨⟨s, a, b, ⟨⟩⟩, ⟨⟩⟩ := x
  have hs : ak s = true := hp
  show _ = some (⟨cx, ((bG (pS s) a b, ()), ())⟩ : eI.Y)
  have little : (s = 0 ∨ s = 1) → (gd [!(HJ s == 0)] (.ok ⟨cx, ((⟨(ofP (pS s) a).w0 * (ofP (pS s) b).w0 % HJ s, 0, 0, 0⟩, ()), ())⟩) : OT eI.Y).run = some (⟨cx, ((bG (pS s) a b, ()), ())⟩ : eI.Y) := fun h => by
    obtain ⟨_, _, _, hz⟩ := sB h
    rw [UW h]
    exact aj (by simp only [hz, List.all_cons, List.all_nil, Bool.and_true])
  by_cases h0 : s = 0
  · exact (OT.ap (by simpa using h0)).trans ((OT.ap hs).trans ((OT.ap hs).trans (little (.inl h0))))
  · refine (OT.au (by simpa using h0)).trans ?_
    by_cases h1 : s = 1
    · exact (OT.ap (by simpa using h1)).trans ((OT.ap hs).trans ((OT.ap hs).trans (little (.inr h1))))
    · refine (OT.au (by simpa using h1)).trans ((OT.ap hs).trans ((OT.ap hs).trans ((OT.ap hs).trans ?_)))
      have hpp := mT hs
      have hA : (ofP (pS s) a).nat < pS s := by
        show (ofN _).nat < _
        rw [eh hpp]
        exact Nat.mod_lt _ hpp.1
      refine (aj ?_).trans ?_
      · simp only [List.all_cons, List.all_nil, Bool.and_true, Bool.and_eq_true]
        exact ⟨decide_eq_true ⟨rfl, rfl, rfl, rfl, rfl, hA, (by show 2 * pS s ≤ _; omega)⟩, rfl, rfl, rfl⟩
      · rw [← Z4 hs]
        show some (⟨cx, ((elemOf (lay [0, 0, 0, 0] (lst (ofN ((ofP (pS s) a).nat * (ofP (pS s) b).nat % pS s))) 4 0), ()), ())⟩ : eI.Y) = _
        rw [akJ _ _ rfl rfl]
        rfl
def uE : cv := (eI.aD bT Zm)
theorem Ms : ac Tryz.prog 113 uE := aeY
theorem Mr : aF uE := az
def qV : Env := ay 113 uE vR
theorem kU : aQ Tryz.prog qV := ah Ms o7
theorem xa : av qV := ae Mr wX
theorem qU : aV Tryz.prog te qV := aJ follows ar kU xa
def fP : ao := ⟨[.val false .int, .val true .elem, .val true .elem], [], true, 0, false⟩
abbrev Dy : Type := ((Int) × (ab) × (ab) × Unit) × (Unit)
def rZ : Shape := ⟨53, [(0, .val false .int), (4, .ptr 0 0 0), (5, .ptr 1 0 0), (6, .ptr 2 0 0), (7, .ptr 3 0 0), (8, .val false .int)], [(0, .row .u64), (1, .row .u64), (2, .row .u64), (3, .row .u64)], 0, true⟩
abbrev cf : Type := ((Int) × (Unit) × (Unit) × (Unit) × (Unit) × (Int) × Unit) × ((List (UInt64)) × (List (UInt64)) × (List (UInt64)) × (List (UInt64)) × Unit)
def kk : Shape := ⟨53, [(0, .val false .int), (4, .ptr 0 0 0), (5, .ptr 1 0 0), (6, .ptr 2 0 0), (7, .ptr 3 0 0), (8, .val false .int)], [(0, .row .u64), (1, .row .u64), (2, .row .u64), (3, .row .u64)], 0, true⟩
abbrev iH : Type := ((Int) × (Unit) × (Unit) × (Unit) × (Unit) × (Int) × Unit) × ((List (UInt64)) × (List (UInt64)) × (List (UInt64)) × (List (UInt64)) × Unit)
def RT : SE → Option Shape := jt [(0, kk)] none
def ae9 (a0 : Int) (a8 : Int) (c0 : List (UInt64)) (c1 : List (UInt64)) (c2 : List (UInt64)) (c3 : List (UInt64)) : OT (Sum cf aL) :=
  let z0 : Int := Int.tdiv a8 (64 : Int)
  (.br (decide ((0 : Int) ≤ a8))
  (gd [true && inR z0, inB z0 4, decide (Int.toNat z0 + 0 < List.length c1)] (.br (bl (List.getD c1 (Int.toNat z0 + 0) (0 : UInt64)) (↑(UInt64.toNat (i2u (Int.tmod a8 (64 : Int)))) : Int) &&& (1 : UInt64) == (0 : UInt64))
    (gd [inR (a8 - (1 : Int))] (.ok (.inl ((a0, ((), ((), ((), ((), (a8 - (1 : Int), ())))))), (c0, (c1, (c2, (c3, ()))))))))
    (.ok (.inr ⟨(.exit 0, kk), ((a0, ((), ((), ((), ((), (a8, ())))))), (c0, (c1, (c2, (c3, ())))))⟩))))
  (.ok (.inr ⟨(.exit 0, kk), ((a0, ((), ((), ((), ((), (a8, ())))))), (c0, (c1, (c2, (c3, ())))))⟩)))
def r5 (s : cf) : OT (Sum cf aL) := ae9 (s.1.1) (s.1.2.2.2.2.2.1) (s.2.1) (s.2.2.1) (s.2.2.2.1) (s.2.2.2.2.1)
theorem ae5 (s : cf) (Q : Sum cf aL → Prop) : wps te qV ax 1000 (bE (al Tryz.f129) 0) (rZ.inj s) (cM rZ RT (Q : Sum rZ.T aL → Prop)) = (r5 s).wpR Q := by kernel_rfl
def yb (g0_0 : cf → iH) (s : cf) : OT aL := (.ok ⟨(.exit 0, kk), g0_0 s⟩)
def rY : Shape := ⟨53, [(0, .val false .int), (4, .ptr 0 0 0), (5, .ptr 1 0 0), (6, .ptr 2 0 0), (7, .ptr 3 0 0), (9, .val false .int)], [(0, .row .u64), (1, .row .u64), (2, .row .u64), (3, .row .u64)], 0, true⟩
abbrev cq : Type := ((Int) × (Unit) × (Unit) × (Unit) × (Unit) × (Int) × Unit) × ((List (UInt64)) × (List (UInt64)) × (List (UInt64)) × (List (UInt64)) × Unit)
def oj : Shape := ⟨53, [(6, .ptr 0 0 0), (7, .ptr 1 0 0)], [(0, .row .u64), (1, .row .u64)], 0, true⟩
abbrev iG : Type := ((Unit) × (Unit) × Unit) × ((List (UInt64)) × (List (UInt64)) × Unit)
def RS : SE → Option Shape := jt [(2, oj)] none
def FI (a0 : Int) (a9 : Int) (c0 : List (UInt64)) (c1 : List (UInt64)) (c2 : List (UInt64)) (c3 : List (UInt64)) : OT (Sum cq aL) :=
  let z0 : Nat := List.length c3
  let z1 : Bool := decide (4 ≤ z0)
  let z2 : ab := { w0 := List.getD c3 0 0, w1 := List.getD c3 1 0, w2 := List.getD c3 2 0, w3 := List.getD c3 3 0 }
  let z3 : Int := Int.tdiv a9 (64 : Int)
  let z4 : Nat := pS a0
  let z5 : ab := bG z4 z2 z2
  let z6 : List UInt64 := List.set (List.set (List.set (List.set c3 0 z5.w0) 1 z5.w1) 2 z5.w2) 3 z5.w3
  let z7 : Nat := List.length z6
  let z8 : ab := { w0 := List.getD z6 0 0, w1 := List.getD z6 1 0, w2 := List.getD z6 2 0, w3 := List.getD z6 3 0 }
  let z9 : ab := { w0 := List.getD c0 0 0, w1 := List.getD c0 1 0, w2 := List.getD c0 2 0, w3 := List.getD c0 3 0 }
  let z10 : Bool := inR (a9 - (1 : Int))
  let z11 : ab := bG z4 z8 z9
  (.br (decide ((0 : Int) ≤ a9))
  (gd [z1, z1, bT ((a0, z2, z2, ()), ()), decide ((4 / 1 : Nat) + 0 ≤ z0), true && inR z3, inB z3 4, decide (Int.toNat z3 + 0 < List.length c1)] (.br (bl (List.getD c1 (Int.toNat z3 + 0) (0 : UInt64)) (↑(UInt64.toNat (i2u (Int.tmod a9 (64 : Int)))) : Int) &&& (1 : UInt64) == (1 : UInt64))
    (gd [decide (4 ≤ z7), decide (4 ≤ List.length c0), bT ((a0, z8, z9, ()), ()), decide ((4 / 1 : Nat) + 0 ≤ z7), z10] (.ok (.inl ((a0, ((), ((), ((), ((), (a9 - (1 : Int), ())))))), (c0, (c1, (c2, (List.set (List.set (List.set (List.set z6 0 z11.w0) 1 z11.w1) 2 z11.w2) 3 z11.w3, ()))))))))
    (gd [z10] (.ok (.inl ((a0, ((), ((), ((), ((), (a9 - (1 : Int), ())))))), (c0, (c1, (c2, (z6, ()))))))))))
  (.ok (.inr ⟨(.exit 2, oj), (((), ((), ())), (c2, (c3, ())))⟩)))
def ol (s : cq) : OT (Sum cq aL) := FI (s.1.1) (s.1.2.2.2.2.2.1) (s.2.1) (s.2.2.1) (s.2.2.2.1) (s.2.2.2.2.1)
theorem ae4 (s : cq) (Q : Sum cq aL → Prop) : wps te qV ax 1000 (bE (al Tryz.f129) 2) (rY.inj s) (cM rY RS (Q : Sum rY.T aL → Prop)) = (ol s).wpR Q := by kernel_rfl
def ya (g2_2 : cq → iG) (s : cq) : OT aL := (.ok ⟨(.exit 2, oj), g2_2 s⟩)
def oi : aw := ⟨[.val true .elem], [], false⟩
def IQ : SV → Option aw := fun _ => some oi
def MN (ok0 : cf → Bool) (g0_0 : cf → iH) (ok2 : cq → Bool) (g2_2 : cq → iG) (a0 : Int) (a1 : ab) (a2 : ab) : OT fP.Y :=
  let z0 : Int × PUnit × PUnit × PUnit × PUnit × Int × PUnit := (a0, (), (), (), (), (255 : Int), ())
  let z1 : ab := ofP (pS a0) { w0 := 1, w1 := 0, w2 := 0, w3 := 0 }
  let z2 : (Int × PUnit × PUnit × PUnit × PUnit × Int × PUnit) × List UInt64 × List UInt64 × List UInt64 × List UInt64 × PUnit := (z0, [a1.w0, a1.w1, a1.w2, a1.w3], [a2.w0, a2.w1, a2.w2, a2.w3], [(0 : UInt64), (0 : UInt64), (0 : UInt64), (0 : UInt64)], [z1.w0, z1.w1, z1.w2, z1.w3], ())
  let z3 : (Int × PUnit × PUnit × PUnit × PUnit × Int × PUnit) × List UInt64 × List UInt64 × List UInt64 × List UInt64 × PUnit := g0_0 z2
  let z4 := z3.fst
  let z5 := z3.snd
  let z6 := z5.snd
  let z7 := z6.snd
  let z8 : (Int × PUnit × PUnit × PUnit × PUnit × Int × PUnit) × List UInt64 × List UInt64 × List UInt64 × List UInt64 × PUnit := ((z4.fst, (), (), (), (), z4.snd.snd.snd.snd.snd.fst, ()), z5.fst, z6.fst, z7.fst, z7.snd.fst, ())
  let z9 := (g2_2 z8).snd
  let z10 := z9.snd.fst
  let z11 := z9.fst
  let z12 : List UInt64 := lay z11 z10 4 (0 : UInt64)
  let z13 : (Int × PUnit × PUnit × PUnit × PUnit × Int × PUnit) × List UInt64 × List UInt64 × List UInt64 × List UInt64 × PUnit := (z0, [a1.w0, a1.w1, a1.w2, a1.w3], [a2.w0, a2.w1, a2.w2, a2.w3], [(0 : UInt64), (0 : UInt64), (0 : UInt64), (0 : UInt64)], [(0 : UInt64), (0 : UInt64), (0 : UInt64), (0 : UInt64)], ())
  let z14 : (Int × PUnit × PUnit × PUnit × PUnit × Int × PUnit) × List UInt64 × List UInt64 × List UInt64 × List UInt64 × PUnit := g0_0 z13
  let z15 := z14.fst
  let z16 := z14.snd
  let z17 := z16.snd
  let z18 := z17.snd
  let z19 : (Int × PUnit × PUnit × PUnit × PUnit × Int × PUnit) × List UInt64 × List UInt64 × List UInt64 × List UInt64 × PUnit := ((z15.fst, (), (), (), (), z15.snd.snd.snd.snd.snd.fst, ()), z16.fst, z17.fst, z18.fst, z18.snd.fst, ())
  let z20 := (g2_2 z19).snd
  let z21 := z20.snd.fst
  let z22 := z20.fst
  let z23 : List UInt64 := lay z22 z21 4 (0 : UInt64)
  (.br (ak a0)
  (gd [ok0 z2, ok2 z8, decide (4 ≤ List.length z10), decide ((4 / 1 : Nat) + 0 ≤ List.length z11), decide (4 ≤ List.length z12)] (.ok ⟨oi, (({ w0 := List.getD z12 0 0, w1 := List.getD z12 1 0, w2 := List.getD z12 2 0, w3 := List.getD z12 3 0 }, ()), ())⟩))
  (gd [ok0 z13, ok2 z19, decide (4 ≤ List.length z21), decide ((4 / 1 : Nat) + 0 ≤ List.length z22), decide (4 ≤ List.length z23)] (.ok ⟨oi, (({ w0 := List.getD z23 0 0, w1 := List.getD z23 1 0, w2 := List.getD z23 2 0, w3 := List.getD z23 3 0 }, ()), ())⟩)))
theorem ajb (ok0 : cf → Bool) (g0_0 : cf → iH) (ok2 : cq → Bool) (g2_2 : cq → iG) (x : Dy) (Q : fP.Y → Prop) : wpf te qV (bg 2 (db rY 2 ok2 (ya g2_2)) (bg 0 (db rZ 0 ok0 (yb g0_0)) ax)) 1000 Tryz.f129 (fP.inp.inj x).tm (fP.inp.inj x).hp (fnK fP IQ Q) (fun _ _ => False) = (MN ok0 g0_0 ok2 g2_2 (x.1.1) (x.1.2.1) (x.1.2.2.1)).wpR Q := by kernel_rfl
theorem Uz (ok0 : cf → Bool) (g0_0 : cf → iH) (ok2 : cq → Bool) (g2_2 : cq → iG) (h0 : ∀ s : cf, ok0 s = true → ∃ m e, aq (r5) m s = some e ∧ (yb g0_0 s).run = some e) (h2 : ∀ s : cq, ok2 s = true → ∃ m e, aq (ol) m s = some e ∧ (ya g2_2 s).run = some e) (pre : Dy → Bool) (F : Dy → OT fP.Y) (hF : ∀ (x : Dy) oy, pre x = true → (F x).run = some oy → (MN ok0 g0_0 ok2 g2_2 (x.1.1) (x.1.2.1) (x.1.2.2.1)).run = some oy) : ac Tryz.prog 129 (fP.aD pre F) :=
  aB ar kU qU (f := 129) (fn := Tryz.f129) (c := al Tryz.f129) (by kernel_rfl) (by kernel_rfl) (by kernel_rfl) (S := fP) (k := 0) (by kernel_rfl) (fun R hR => (aC (c := (al Tryz.f129)) (by kernel_rfl) (id := 2) (by kernel_rfl) (bo ar kU qU (sh := rY) hR (xs := RS) (aE (by kernel_rfl) (by kernel_rfl) hR) aS ag (n := 1000) (T := ol) (fun s Q => ae4 s Q) (ok := ok2) (f := ya g2_2) h2) (aC (c := (al Tryz.f129)) (by kernel_rfl) (id := 0) (by kernel_rfl) (bo ar kU qU (sh := rZ) hR (xs := RT) (aE (by kernel_rfl) (by kernel_rfl) hR) aS ag (n := 1000) (T := r5) (fun s Q => ae5 s Q) (ok := ok0) (f := yb g0_0) h0) ag))) (n := 1000) (sel := IQ) (fun v o h => by cases h; rfl) (pre := pre) (F := F) (T := fun x => MN ok0 g0_0 ok2 g2_2 (x.1.1) (x.1.2.1) (x.1.2.2.1)) (fun x Q => ajb ok0 g0_0 ok2 g2_2 x Q) hF
theorem M3 {p : Nat} : ∀ (n o x k : Nat), k < 2 ^ n → o < p → agO p n o x k = o * x ^ k % p
  | 0, o, x, k, hk, ho => by
    have : k = 0 := by omega
    subst this
    show o = _
    rw [Nat.pow_zero, Nat.mul_one, Nat.mod_eq_of_lt ho]
  | n + 1, o, x, k, hk, ho => by
    unfold agO
    rw [Nat.pow_succ] at hk
    cases h0 : Nat.beq k 0
    · simp only [cond_false]
      have hsq : (x * x % p) ^ (k / 2) % p = x ^ (2 * (k / 2)) % p := by
        rw [← Nat.pow_mod, Nat.pow_mul, Nat.pow_two]
      cases h1 : Nat.beq (k % 2) 1
      · have h1' : ¬ k % 2 = 1 := fun e => by rw [e] at h1; cases h1
        simp only [cond_false]
        rw [M3 n _ _ _ (by omega) ho, Nat.mul_mod, hsq, ← Nat.mul_mod, show 2 * (k / 2) = k by omega]
      · have h1 := Nat.eq_of_beq_eq_true h1
        simp only [cond_true]
        rw [M3 n _ _ _ (by omega) (Nat.mod_lt _ (by omega)), Nat.mul_mod, hsq, Nat.mod_mod, ← Nat.mul_mod, Nat.mul_assoc, ← Nat.pow_succ', show (2 * (k / 2)).succ = k by omega]
    · have h0 := Nat.eq_of_beq_eq_true h0
      subst h0
      simp only [cond_true]
      rw [Nat.pow_zero, Nat.mul_one, Nat.mod_eq_of_lt ho]
theorem akd {p : Nat} (hp : 1 < p) (a k : ab) : tX p a k = ofN (a.nat ^ k.nat % p) := by
  rw [GP (by omega), M3 256 1 _ _ (iP k) hp, Nat.one_mul, ← Nat.pow_mod]
theorem aml {b : ab} {k : Nat} (hk : k < 256) : (bl (List.getD (lst b) (Int.toNat (Int.tdiv (k : Int) 64) + 0) 0) (((i2u (Int.tmod (k : Int) 64)).toNat : Nat) : Int) &&& 1 == 1) = EL b.nat k := by
  have h := ahc (b := b) (n := 255 - k) (by omega)
  rw [show (255 : Int) - ((255 - k : Nat) : Int) = (k : Int) by omega, show 255 - (255 - k) = k by omega] at h
  exact h
theorem TP (x : UInt64) : (x &&& 1 == 0) = !(x &&& 1 == 1) := by
  have h := OH x
  have e : (x &&& 1).toNat = x.toNat % 2 := by
    rw [UInt64.toNat_and]
    exact Nat.and_two_pow_sub_one_eq_mod x.toNat 1
  have h2 : x.toNat % 2 = 0 ∨ x.toNat % 2 = 1 := by omega
  rcases h2 with h2 | h2
  · have : x &&& 1 = 0 := UInt64.toNat_inj.1 (by rw [e, h2]; rfl)
    rw [this]; rfl
  · have : x &&& 1 = 1 := UInt64.toNat_inj.1 (by rw [e, h2]; rfl)
    rw [this]; rfl
def T7 (e : Nat) : Nat → Int
  | 0 => -1
  | n + 1 => cond (EL e n) (n : Int) (T7 e n)
theorem TL {e n : Nat} (h : EL e n = false) : e / 2 ^ n % 2 = 0 := by
  unfold EL at h
  have : ¬ e / 2 ^ n % 2 = 1 := fun e => by rw [e] at h; cases h
  omega
theorem yJ (e : Nat) : ∀ n, e / 2 ^ n = 0 → ∃ t : Nat, T7 e n = (t : Int) - 1 ∧ t ≤ n ∧ e / 2 ^ t = 0
  | 0, h => ⟨0, rfl, Nat.le_refl _, h⟩
  | n + 1, h => by
    unfold T7
    cases hb : EL e n
    · simp only [cond_false]
      have h0 := TL hb
      have h1 : e / 2 ^ n / 2 = 0 := by rw [Nat.div_div_eq_div_mul, ← Nat.pow_succ]; exact h
      obtain ⟨t, e1, e2, e3⟩ := yJ e n (by omega)
      exact ⟨t, e1, by omega, e3⟩
    · exact ⟨n + 1, by simp only [cond_true]; omega, Nat.le_refl _, h⟩
def CT (s : Int) (A B : ab) (c2 : List UInt64) (O : ab) (i : Int) : cf := ((s, (), (), (), (), i, ()), (lst A, lst B, c2, lst O, ()))
theorem af3 {B : ab} {k : Nat} (hk : k < 256) {α : Type} (z : OT α) : (gd [true && inR (Int.tdiv (k : Int) 64), inB (Int.tdiv (k : Int) 64) 4, decide (Int.toNat (Int.tdiv (k : Int) 64) + 0 < (lst B).length)] z).run = z.run := by
  have t1 : Int.tdiv (k : Int) 64 = ((k / 64 : Nat) : Int) := by rw [Int.tdiv_eq_ediv_of_nonneg (by omega)]; omega
  refine aj ?_
  simp only [t1, Int.toNat_natCast, Nat.add_zero, cB, List.all_cons, List.all_nil, Bool.and_true, Bool.true_and, Bool.and_eq_true]
  exact ⟨bz (by omega), bF (by omega), decide_eq_true (by omega)⟩
theorem Tg (s : Int) (A B : ab) (c2 : List UInt64) (O : ab) : ∀ n : Nat, n ≤ 256 → ∃ m, aq r5 m (CT s A B c2 O ((n : Int) - 1)) = some ⟨(.exit 0, kk), CT s A B c2 O (T7 B.nat n)⟩
  | 0, _ => ⟨1, aI (OT.au (decide_eq_false (by dsimp only [CT]; omega)))⟩
  | n + 1, hn => by
    have e1 : ((n + 1 : Nat) : Int) - 1 = (n : Int) := by omega
    rw [e1]
    have hb := aml (b := B) (k := n) (by omega)
    unfold T7
    rcases (Bool.eq_false_or_eq_true (EL B.nat n)).symm with h | h
    · obtain ⟨m, hm⟩ := Tg s A B c2 O n (by omega)
      rw [h] at hb ⊢
      refine ⟨m + 1, aH ?_ hm⟩
      refine (OT.ap (decide_eq_true (by dsimp only [CT]; omega))).trans ((af3 (B := B) (k := n) (by omega) _).trans ((OT.ap ?_).trans ((aj ?_).trans rfl)))
      · exact (TP _).trans (congrArg Bool.not hb)
      · simp only [List.all_cons, List.all_nil, Bool.and_true]
        exact bz (by dsimp only [CT]; omega)
    · rw [h] at hb ⊢
      refine ⟨1, aI ?_⟩
      refine (OT.ap (decide_eq_true (by dsimp only [CT]; omega))).trans ((af3 (B := B) (k := n) (by omega) _).trans ((OT.au ?_).trans rfl))
      exact (TP _).trans (congrArg Bool.not hb)
def IR (s : cf) : Bool := decide (s.1.2.2.2.2.2.1 = 255 ∧ s.2.1.length = 4 ∧ s.2.2.1.length = 4 ∧ s.2.2.2.2.1.length = 4)
def RV (s : cf) : iH := ((s.1.1, (), (), (), (), T7 (elemOf s.2.2.1).nat 256, ()), s.2)
theorem ae8 : ∀ s : cf, IR s = true → ∃ m e, aq r5 m s = some e ∧ (yb RV s).run = some e := by
  rintro ⟨⟨s, ⟨⟩, ⟨⟩, ⟨⟩, ⟨⟩, i, ⟨⟩⟩, ⟨l0, l1, c2, l3, ⟨⟩⟩⟩ h
  have h' := of_decide_eq_true h
  dsimp only at h'
  obtain ⟨rfl, h0, h1, h3⟩ := h'
  obtain ⟨A, rfl⟩ : ∃ a, l0 = lst a := ⟨elemOf l0, (aZ h0).symm⟩
  obtain ⟨B, rfl⟩ : ∃ a, l1 = lst a := ⟨elemOf l1, (aZ h1).symm⟩
  obtain ⟨O, rfl⟩ : ∃ a, l3 = lst a := ⟨elemOf l3, (aZ h3).symm⟩
  obtain ⟨m, hm⟩ := Tg s A B c2 O 256 (by omega)
  exact ⟨m, _, hm, rfl⟩
theorem ake {s : Int} (hs : ak s = true) (A B : ab) (c2 : List UInt64) (O : ab) {k : Nat} (hk : k < 256) (hO : O = ofN (A.nat ^ (B.nat / 2 ^ (k + 1)) % pS s)) :
    (ol (CT s A B c2 O (k : Int))).run = some (.inl (CT s A B c2 (ofN (A.nat ^ (B.nat / 2 ^ k) % pS s)) ((k : Int) - 1))) := by
  have hp := mT hs
  have hb := aml (b := B) (k := k) hk
  have t1 : Int.tdiv (k : Int) 64 = ((k / 64 : Nat) : Int) := by rw [Int.tdiv_eq_ediv_of_nonneg (by omega)]; omega
  have hOn : O.nat = A.nat ^ (B.nat / 2 ^ (k + 1)) % pS s := by rw [hO]; exact eh hp
  have hi : inR ((k : Int) - 1) = true := bz (by omega)
  have hpre : ∀ x y, bT ((s, x, y, ()), ()) = true := fun _ _ => hs
  have hD : bG (pS s) O O = ofN (A.nat ^ (2 * (B.nat / 2 ^ (k + 1))) % pS s) := by
    unfold bG
    rw [hOn, ← Nat.mul_mod, ← Nat.pow_add, ← Nat.two_mul]
  have hq : B.nat / 2 ^ k / 2 = B.nat / 2 ^ (k + 1) := by rw [Nat.div_div_eq_div_mul, ← Nat.pow_succ]
  show (FI s (k : Int) (lst A) (lst B) c2 (lst O)).run = _
  unfold FI
  simp only [akH, akN, cB, hpre, hi]
  refine (OT.ap (decide_eq_true (by omega))).trans ((aj ?_).trans ?_)
  · simp only [t1, Int.toNat_natCast, Nat.add_zero, cB, List.all_cons, List.all_nil, Bool.and_true, Bool.true_and, Bool.and_eq_true]
    exact ⟨rfl, rfl, rfl, bz (by omega), bF (by omega), decide_eq_true (by omega)⟩
  · rcases (Bool.eq_false_or_eq_true (EL B.nat k)).symm with h | h
    · have h0 := TL h
      rw [h] at hb
      refine (OT.au hb).trans ((aj rfl).trans ?_)
      rw [hD, ← hq, show 2 * (B.nat / 2 ^ k / 2) = B.nat / 2 ^ k by omega]
      rfl
    · have h0 : B.nat / 2 ^ k % 2 = 1 := Nat.eq_of_beq_eq_true h
      rw [h] at hb
      refine (OT.ap hb).trans ((aj rfl).trans ?_)
      have e : bG (pS s) (bG (pS s) O O) A = ofN (A.nat ^ (B.nat / 2 ^ k) % pS s) := by
        have e2 : (bG (pS s) O O).nat = A.nat ^ (2 * (B.nat / 2 ^ (k + 1))) % pS s := by rw [hD]; exact eh hp
        show ofN (_ * _ % _) = _
        rw [e2, Nat.mod_mul_mod, ← Nat.pow_succ, ← hq, show (2 * (B.nat / 2 ^ k / 2)).succ = B.nat / 2 ^ k by omega]
      rw [e]
      rfl
theorem Tf {s : Int} (hs : ak s = true) (A B : ab) (c2 : List UInt64) : ∀ (n : Nat) (O : ab), n ≤ 256 → O = ofN (A.nat ^ (B.nat / 2 ^ n) % pS s) →
    ∃ m, aq ol m (CT s A B c2 O ((n : Int) - 1)) = some ⟨(.exit 2, oj), (((), (), ()), (c2, lst (ofN (A.nat ^ B.nat % pS s)), ()))⟩
  | 0, O, _, hO => by
    rw [Nat.pow_zero, Nat.div_one] at hO
    rw [← hO]
    exact ⟨1, aI (OT.au (decide_eq_false (by dsimp only [CT]; omega)))⟩
  | n + 1, O, hn, hO => by
    obtain ⟨m, hm⟩ := Tf hs A B c2 n (ofN (A.nat ^ (B.nat / 2 ^ n) % pS s)) (by omega) rfl
    rw [show ((n + 1 : Nat) : Int) - 1 = (n : Int) by omega]
    exact ⟨m + 1, aH (ake hs A B c2 O (by omega) hO) hm⟩
def zi (s : cq) : Bool := ak s.1.1 && decide (s.1.2.2.2.2.2.1 = T7 (elemOf s.2.2.1).nat 256 ∧ s.2.1.length = 4 ∧ s.2.2.1.length = 4 ∧ s.2.2.2.2.1 = lst (ofP (pS s.1.1) ⟨1, 0, 0, 0⟩))
def RU (s : cq) : iG := (((), (), ()), (s.2.2.2.1, lst (ofN ((elemOf s.2.1).nat ^ (elemOf s.2.2.1).nat % pS s.1.1)), ()))
theorem ae7 : ∀ s : cq, zi s = true → ∃ m e, aq ol m s = some e ∧ (ya RU s).run = some e := by
  rintro ⟨⟨s, ⟨⟩, ⟨⟩, ⟨⟩, ⟨⟩, i, ⟨⟩⟩, ⟨l0, l1, c2, l3, ⟨⟩⟩⟩ h
  simp only [zi, Bool.and_eq_true, decide_eq_true_eq] at h
  obtain ⟨hs, rfl, h0, h1, rfl⟩ := h
  obtain ⟨A, rfl⟩ : ∃ a, l0 = lst a := ⟨elemOf l0, (aZ h0).symm⟩
  obtain ⟨B, rfl⟩ : ∃ a, l1 = lst a := ⟨elemOf l1, (aZ h1).symm⟩
  obtain ⟨t, e1, e2, e3⟩ := yJ B.nat 256 (Nat.div_eq_of_lt (iP B))
  obtain ⟨m, hm⟩ := Tf hs A B c2 t (ofP (pS s) ⟨1, 0, 0, 0⟩) e2 (by rw [e3, Nat.pow_zero]; rfl)
  rw [← e1] at hm
  exact ⟨m, _, hm, rfl⟩
theorem alq {s : Int} (h : ak s = true) : 1 < pS s := agQ h
def iF (x : Dy) : Bool := ak x.1.1
def Zx (x : Dy) : OT fP.Y := .ok ⟨oi, ((tX (pS x.1.1) x.1.2.1 x.1.2.2.1, ()), ())⟩
theorem ae6 : ac Tryz.prog 129 (fP.aD iF Zx) := Uz IR RV zi RU ae8 ae7 _ _ fun x oy hp ho => by
  rw [← ho]
  clear ho
  obtain ⟨⟨s, a, b, ⟨⟩⟩, ⟨⟩⟩ := x
  have hs : ak s = true := hp
  show _ = some (⟨oi, ((tX (pS s) a b, ()), ())⟩ : fP.Y)
  rw [akd (alq hs)]
  refine (OT.ap hs).trans ((aj ?_).trans ?_)
  · simp only [List.all_cons, List.all_nil, Bool.and_true, Bool.and_eq_true]
    refine ⟨decide_eq_true ⟨rfl, rfl, rfl, rfl⟩, ?_, rfl, rfl, rfl⟩
    refine (Bool.and_eq_true _ _).mpr ⟨hs, ?_⟩
    exact decide_eq_true ⟨rfl, rfl, rfl, rfl⟩
  · show some (⟨oi, ((elemOf (lay [0, 0, 0, 0] (lst (ofN (a.nat ^ b.nat % pS s))) 4 0), ()), ())⟩ : fP.Y) = _
    rw [akJ _ _ rfl rfl]
    rfl
def uN : cv := (fP.aD iF Zx)
theorem MM : ac Tryz.prog 129 uN := ae6
theorem ML : aF uN := az
def BR : Env := ay 129 uN qV
theorem vZ : aQ Tryz.prog BR := ah MM kU
theorem xh : av BR := ae ML xa
theorem O1 : aV Tryz.prog te BR := aJ follows ar vZ xh
def gF : ao := ⟨[.val false .int, .val true .elem], [], true, 0, false⟩
abbrev Ds : Type := ((Int) × (ab) × Unit) × (Unit)
def gT : aw := ⟨[.val true .elem, .val false .int], [], false⟩
def II : SV → Option aw := fun _ => some gT
def MC (a0 : Int) (a1 : ab) : OT gF.Y :=
  let z0 : Bool := ak a0
  let z1 : Nat := pS a0
  let z2 : ab := ofP z1 a1
  let z3 : ab := { w0 := 0, w1 := 0, w2 := 0, w3 := 0 }
  let z4 : ab := (jV (bJ (Int.toNat a0)).fst { w0 := 2, w1 := 0, w2 := 0, w3 := 0 }).fst
  (.br (z0)
  (.br (z0)
    (.br (z2.w0 == (0 : UInt64) && (z2.w1 == (0 : UInt64) && (z2.w2 == (0 : UInt64) && (z2.w3 == (0 : UInt64) && true))))
      (.ok ⟨gT, ((z3, ((10 : Int), ())), ())⟩)
      (gd [iF ((a0, a1, z4, ()), ())] (.ok ⟨gT, ((tX z1 a1 z4, ((0 : Int), ())), ())⟩)))
    (.ok ⟨gT, ((z3, ((10 : Int), ())), ())⟩))
  (.ok ⟨gT, ((z3, ((20 : Int), ())), ())⟩))
theorem ai9 (x : Ds) (Q : gF.Y → Prop) : wpf te BR ax 1000 Tryz.f174 (gF.inp.inj x).tm (gF.inp.inj x).hp (fnK gF II Q) (fun _ _ => False) = (MC (x.1.1) (x.1.2.1)).wpR Q := by kernel_rfl
theorem Uw (pre : Ds → Bool) (F : Ds → OT gF.Y) (hF : ∀ (x : Ds) oy, pre x = true → (F x).run = some oy → (MC (x.1.1) (x.1.2.1)).run = some oy) : ac Tryz.prog 174 (gF.aD pre F) :=
  aB ar vZ O1 (f := 174) (fn := Tryz.f174) (c := al Tryz.f174) (by kernel_rfl) (by kernel_rfl) (by kernel_rfl) (S := gF) (k := 0) (by kernel_rfl) (fun R hR => ag) (n := 1000) (sel := II) (fun v o h => by cases h; rfl) (pre := pre) (F := F) (T := fun x => MC (x.1.1) (x.1.2.1)) (fun x Q => ai9 x Q) hF
def zd (x : Ds) : Bool := ak x.1.1
def Zr (x : Ds) : OT gF.Y := .br (Nat.beq (x.1.2.1.nat % pS x.1.1) 0) (.ok ⟨gT, ((⟨0, 0, 0, 0⟩, ((10 : Int), ())), ())⟩) (.ok ⟨gT, ((afN (pS x.1.1) x.1.2.1, ((0 : Int), ())), ())⟩)
theorem ae1 : ac Tryz.prog 174 (gF.aD zd Zr) := Uw _ _ fun x oy hp ho => by
  rw [← ho]
  clear ho
  obtain ⟨⟨s, a, ⟨⟩⟩, ⟨⟩⟩ := x
  have hs : ak s = true := hp
  have hz : cr (ofP (pS s) a) = Nat.beq (a.nat % pS s) 0 := Pg (mT hs) _
  refine (OT.ap hs).trans ((OT.ap hs).trans ?_)
  show _ = (OT.br (Nat.beq (a.nat % pS s) 0) (.ok ⟨gT, ((⟨0, 0, 0, 0⟩, ((10 : Int), ())), ())⟩) (.ok ⟨gT, ((afN (pS s) a, ((0 : Int), ())), ())⟩) : OT gF.Y).run
  rw [← aay hs, ← hz]
  rcases (Bool.eq_false_or_eq_true (cr (ofP (pS s) a))).symm with h | h
  · refine (OT.au h).trans (Eq.trans ((aj ?_).trans rfl) (OT.au (b := cr (ofP (pS s) a)) h).symm)
    simp only [List.all_cons, List.all_nil, Bool.and_true]
    exact hs
  · exact (OT.ap h).trans (OT.ap (b := cr (ofP (pS s) a)) h).symm
def uJ : cv := (gF.aD zd Zr)
theorem MB : ac Tryz.prog 174 uJ := ae1
theorem MA : aF uJ := az
def BO : Env := ay 174 uJ BR
theorem vW : aQ Tryz.prog BO := ah MB vZ
theorem xe : av BO := ae MA xh
theorem O0 : aV Tryz.prog te BO := aJ follows ar vW xe
def l5 : ao := ⟨[.val false .int, .val true .elem, .val true .elem], [], true, 0, false⟩
abbrev UC : Type := ((Int) × (ab) × (ab) × Unit) × (Unit)
def zk : aw := ⟨[.val true .elem], [], false⟩
def RW : SV → Option aw := fun _ => some zk
def Zz (a0 : Int) (a1 : ab) (a2 : ab) : OT l5.Y :=
  let z0 : Nat := pS a0
  let z1 : ab := { w0 := 0, w1 := 0, w2 := 0, w3 := 0 }
  let z2 : ab := afN z0 a2
  (gd [zd ((a0, a2, ()), ())] (.br (Nat.beq (ab.nat a2 % z0) 0)
  (gd [bT ((a0, a1, z1, ()), ())] (.ok ⟨zk, ((bG z0 a1 z1, ()), ())⟩))
  (gd [bT ((a0, a1, z2, ()), ())] (.ok ⟨zk, ((bG z0 a1 z2, ()), ())⟩))))
theorem aln (x : UC) (Q : l5.Y → Prop) : wpf te BO ax 1000 Tryz.f173 (l5.inp.inj x).tm (l5.inp.inj x).hp (fnK l5 RW Q) (fun _ _ => False) = (Zz (x.1.1) (x.1.2.1) (x.1.2.2.1)).wpR Q := by kernel_rfl
theorem Zy (pre : UC → Bool) (F : UC → OT l5.Y) (hF : ∀ (x : UC) oy, pre x = true → (F x).run = some oy → (Zz (x.1.1) (x.1.2.1) (x.1.2.2.1)).run = some oy) : ac Tryz.prog 173 (l5.aD pre F) :=
  aB ar vW O0 (f := 173) (fn := Tryz.f173) (c := al Tryz.f173) (by kernel_rfl) (by kernel_rfl) (by kernel_rfl) (S := l5) (k := 0) (by kernel_rfl) (fun R hR => ag) (n := 1000) (sel := RW) (fun v o h => by cases h; rfl) (pre := pre) (F := F) (T := fun x => Zz (x.1.1) (x.1.2.1) (x.1.2.2.1)) (fun x Q => aln x Q) hF
def byP (p : Nat) (a b : ab) : ab := bG p a (ajJ p b)
def yd (x : UC) : Bool := ak x.1.1
def agM (x : UC) : OT l5.Y := .ok ⟨zk, ((byP (pS x.1.1) x.1.2.1 x.1.2.2.1, ()), ())⟩
theorem ajc : ac Tryz.prog 173 (l5.aD yd agM) := Zy _ _ fun x oy hp ho => by
  rw [← ho]
  clear ho
  obtain ⟨⟨s, a, b, ⟨⟩⟩, ⟨⟩⟩ := x
  have hs : ak s = true := hp
  show _ = some (⟨zk, ((byP (pS s) a b, ()), ())⟩ : l5.Y)
  refine (aj ?_).trans ?_
  · simp only [List.all_cons, List.all_nil, Bool.and_true, Bool.and_eq_true]
    exact hs
  · rcases (Bool.eq_false_or_eq_true (Nat.beq (b.nat % pS s) 0)).symm with h | h
    · have e : ajJ (pS s) b = afN (pS s) b := by unfold ajJ; rw [h]; rfl
      unfold byP
      rw [e]
      refine (OT.au h).trans ((aj ?_).trans rfl)
      simp only [List.all_cons, List.all_nil, Bool.and_true]
      exact hs
    · have e : ajJ (pS s) b = ⟨0, 0, 0, 0⟩ := by unfold ajJ; rw [h]; rfl
      unfold byP
      rw [e]
      refine (OT.ap h).trans ((aj ?_).trans rfl)
      simp only [List.all_cons, List.all_nil, Bool.and_true]
      exact hs
def zj : cv := (l5.aD yd agM)
theorem UB : ac Tryz.prog 173 zj := ajc
theorem UA : aF zj := az
def EW : Env := ay 173 zj BO
theorem tl : aQ Tryz.prog EW := ah UB vW
theorem BS : av EW := ae UA xe
theorem EV : aV Tryz.prog te EW := aJ follows ar tl BS
def eC : ao := ⟨[.val true .elem], [], true, 0, false⟩
abbrev uM : Type := ((ab) × Unit) × (Unit)
def mH : Shape := ⟨29, [(1, .ptr 0 0 0), (2, .ptr 1 0 0), (3, .ptr 2 0 0), (4, .val false .int)], [(0, .row .u64), (1, .row .u64), (2, .row .u64)], 0, true⟩
abbrev bR : Type := ((Unit) × (Unit) × (Unit) × (Int) × Unit) × ((List (UInt64)) × (List (UInt64)) × (List (UInt64)) × Unit)
def ln : Shape := ⟨29, [(2, .ptr 0 0 0), (3, .ptr 1 0 0)], [(0, .row .u64), (1, .row .u64)], 0, true⟩
abbrev gr : Type := ((Unit) × (Unit) × Unit) × ((List (UInt64)) × (List (UInt64)) × Unit)
def IK : SE → Option Shape := jt [(0, ln)] none
def Zw (a4 : Int) (c0 : List (UInt64)) (c1 : List (UInt64)) (c2 : List (UInt64)) : OT (Sum bR aL) :=
  let z0 : Bool := inB a4 4
  let z1 : Nat := List.length c0
  let z2 : List UInt64 := List.set c2 (Int.toNat a4 + 0) (bl (List.getD c0 (Int.toNat a4 + 0) (0 : UInt64)) (1 : Int))
  let z3 : Bool := decide (Int.toNat a4 + 0 < List.length z2)
  let z4 : Bool := inR (a4 + (1 : Int))
  (.br (decide (a4 < (4 : Int)))
  (gd [z0, decide (Int.toNat a4 + 0 < z1), z0, decide (Int.toNat a4 + 0 < List.length c2)] (.br (decide (a4 < (3 : Int)))
    (gd [z0, z3, z4, inB (a4 + (1 : Int)) 4, decide (Int.toNat (a4 + (1 : Int)) + 0 < z1), z0, z3, z4] (.ok (.inl (((), ((), ((), (a4 + (1 : Int), ())))), (c0, (c1, (List.set z2 (Int.toNat a4 + 0) (List.getD z2 (Int.toNat a4 + 0) (0 : UInt64) ||| cj (List.getD c0 (Int.toNat (a4 + (1 : Int)) + 0) (0 : UInt64)) (63 : Int)), ())))))))
    (gd [z4] (.ok (.inl (((), ((), ((), (a4 + (1 : Int), ())))), (c0, (c1, (z2, ())))))))))
  (.ok (.inr ⟨(.exit 0, ln), (((), ((), ())), (c1, (c2, ())))⟩)))
def e9 (s : bR) : OT (Sum bR aL) := Zw (s.1.2.2.2.1) (s.2.1) (s.2.2.1) (s.2.2.2.1)
theorem Zt (s : bR) (Q : Sum bR aL → Prop) : wps te EW ax 1000 (bE (al Tryz.f130) 0) (mH.inj s) (cM mH IK (Q : Sum mH.T aL → Prop)) = (e9 s).wpR Q := by kernel_rfl
def rX (g0_0 : bR → gr) (s : bR) : OT aL := (.ok ⟨(.exit 0, ln), g0_0 s⟩)
def mI : aw := ⟨[.val true .elem], [], false⟩
def Dv : SV → Option aw := fun _ => some mI
def FH (ok0 : bR → Bool) (g0_0 : bR → gr) (a0 : ab) : OT eC.Y :=
  let z0 : (PUnit × PUnit × PUnit × Int × PUnit) × List UInt64 × List UInt64 × List UInt64 × PUnit := (((), (), (), (0 : Int), ()), [a0.w0, a0.w1, a0.w2, a0.w3], [(0 : UInt64), (0 : UInt64), (0 : UInt64), (0 : UInt64)], [(0 : UInt64), (0 : UInt64), (0 : UInt64), (0 : UInt64)], ())
  let z1 := (g0_0 z0).snd
  let z2 := z1.snd.fst
  let z3 := z1.fst
  let z4 : List UInt64 := lay z3 z2 4 (0 : UInt64)
  (gd [ok0 z0, decide (4 ≤ List.length z2), decide ((4 / 1 : Nat) + 0 ≤ List.length z3), decide (4 ≤ List.length z4)] (.ok ⟨mI, (({ w0 := List.getD z4 0 0, w1 := List.getD z4 1 0, w2 := List.getD z4 2 0, w3 := List.getD z4 3 0 }, ()), ())⟩))
theorem ae3 (ok0 : bR → Bool) (g0_0 : bR → gr) (x : uM) (Q : eC.Y → Prop) : wpf te EW (bg 0 (db mH 0 ok0 (rX g0_0)) ax) 1000 Tryz.f130 (eC.inp.inj x).tm (eC.inp.inj x).hp (fnK eC Dv Q) (fun _ _ => False) = (FH ok0 g0_0 (x.1.1)).wpR Q := by kernel_rfl
theorem MK (ok0 : bR → Bool) (g0_0 : bR → gr) (h0 : ∀ s : bR, ok0 s = true → ∃ m e, aq (e9) m s = some e ∧ (rX g0_0 s).run = some e) (pre : uM → Bool) (F : uM → OT eC.Y) (hF : ∀ (x : uM) oy, pre x = true → (F x).run = some oy → (FH ok0 g0_0 (x.1.1)).run = some oy) : ac Tryz.prog 130 (eC.aD pre F) :=
  aB ar tl EV (f := 130) (fn := Tryz.f130) (c := al Tryz.f130) (by kernel_rfl) (by kernel_rfl) (by kernel_rfl) (S := eC) (k := 0) (by kernel_rfl) (fun R hR => (aC (c := (al Tryz.f130)) (by kernel_rfl) (id := 0) (by kernel_rfl) (bo ar tl EV (sh := mH) hR (xs := IK) (aE (by kernel_rfl) (by kernel_rfl) hR) aS ag (n := 1000) (T := e9) (fun s Q => Zt s Q) (ok := ok0) (f := rX g0_0) h0) ag)) (n := 1000) (sel := Dv) (fun v o h => by cases h; rfl) (pre := pre) (F := F) (T := fun x => FH ok0 g0_0 (x.1.1)) (fun x Q => ae3 ok0 g0_0 x Q) hF
def lG (a : ab) (c1 l : List UInt64) (i : Int) : bR := (((), (), (), i, ()), (lst a, c1, l, ()))
theorem alG (a : ab) (c1 : List UInt64) : (e9 (lG a c1 [0, 0, 0, 0] 0)).run = some (.inl (lG a c1 [bl a.w0 1 ||| cj a.w1 63, 0, 0, 0] 1)) := rfl
theorem alF (a : ab) (c1 : List UInt64) (x : UInt64) : (e9 (lG a c1 [x, 0, 0, 0] 1)).run = some (.inl (lG a c1 [x, bl a.w1 1 ||| cj a.w2 63, 0, 0] 2)) := rfl
theorem alE (a : ab) (c1 : List UInt64) (x y : UInt64) : (e9 (lG a c1 [x, y, 0, 0] 2)).run = some (.inl (lG a c1 [x, y, bl a.w2 1 ||| cj a.w3 63, 0] 3)) := rfl
theorem alD (a : ab) (c1 : List UInt64) (x y z : UInt64) : (e9 (lG a c1 [x, y, z, 0] 3)).run = some (.inl (lG a c1 [x, y, z, bl a.w3 1] 4)) := rfl
theorem alC (a : ab) (c1 l : List UInt64) : (e9 (lG a c1 l 4)).run = some (.inr ⟨(.exit 0, ln), (((), (), ()), (c1, l, ()))⟩) := rfl
def Dx (s : bR) : Bool := decide (s.1.2.2.2.1 = 0 ∧ s.2.1.length = 4 ∧ s.2.2.2.1 = [0, 0, 0, 0])
def IP (s : bR) : gr := (((), (), ()), (s.2.2.1, lst (ej (elemOf s.2.1)), ()))
theorem Zv : ∀ s : bR, Dx s = true → ∃ m e, aq e9 m s = some e ∧ (rX IP s).run = some e := by
  rintro ⟨⟨⟨⟩, ⟨⟩, ⟨⟩, i, ⟨⟩⟩, ⟨l, c1, c2, ⟨⟩⟩⟩ h
  have h' := of_decide_eq_true h
  dsimp only at h'
  obtain ⟨rfl, hl, rfl⟩ := h'
  obtain ⟨a, rfl⟩ : ∃ a, l = lst a := ⟨elemOf l, (aZ hl).symm⟩
  refine ⟨_, _, aH (alG a c1) (aH (alF a c1 _) (aH (alE a c1 _ _) (aH (alD a c1 _ _ _) (aI (alC a c1 _))))), ?_⟩
  have e : [bl a.w0 1 ||| cj a.w1 63, bl a.w1 1 ||| cj a.w2 63, bl a.w2 1 ||| cj a.w3 63, bl a.w3 1] = lst (ej a) := by rw [SK]; rfl
  rw [e]
  rfl
def Dw (_ : uM) : Bool := true
def RR (x : uM) : OT eC.Y := .ok ⟨mI, ((ej x.1.1, ()), ())⟩
theorem Zu : ac Tryz.prog 130 (eC.aD Dw RR) := MK Dx IP Zv _ _ fun x oy hp ho => by
  rw [← ho]
  clear ho
  obtain ⟨⟨a, ⟨⟩⟩, ⟨⟩⟩ := x
  refine (aj ?_).trans ?_
  · simp only [List.all_cons, List.all_nil, Bool.and_true, Bool.and_eq_true]
    exact ⟨decide_eq_true ⟨rfl, rfl, rfl⟩, rfl, rfl, rfl⟩
  · show some (⟨mI, ((elemOf (lay [0, 0, 0, 0] (lst (ej a)) 4 0), ()), ())⟩ : eC.Y) = some ⟨mI, ((ej a, ()), ())⟩
    rw [akJ _ _ rfl rfl]
    rfl
def pW : cv := (eC.aD Dw RR)
theorem IM : ac Tryz.prog 130 pW := Zu
theorem IL : aF pW := az
def pa : Env := ay 130 pW EW
theorem lS : aQ Tryz.prog pa := ah IM tl
theorem tk : av pa := ae IL BS
theorem xg : aV Tryz.prog te pa := aJ follows ar lS tk
def cO : ao := ⟨[.val true .elem, .val false .int], [], true, 0, false⟩
abbrev kj : Type := ((ab) × (Int) × Unit) × (Unit)
def iC : Shape := ⟨14, [(1, .val false .int), (2, .ptr 0 0 0), (4, .ptr 1 0 0), (5, .val false .int)], [(0, .row .u64), (1, .row .u64)], 0, true⟩
abbrev bm : Type := ((Int) × (Unit) × (Unit) × (Int) × Unit) × ((List (UInt64)) × (List (UInt64)) × Unit)
def gU : Shape := ⟨14, [(2, .ptr 0 0 0), (4, .ptr 1 0 0)], [(0, .row .u64), (1, .row .u64)], 0, true⟩
abbrev ey : Type := ((Unit) × (Unit) × Unit) × ((List (UInt64)) × (List (UInt64)) × Unit)
def zg : SE → Option Shape := jt [(0, gU)] none
def MJ (a1 : Int) (a5 : Int) (c0 : List (UInt64)) (c1 : List (UInt64)) : OT (Sum bm aL) :=
  let z0 : Nat := List.length c0
  let z1 : ab := ej { w0 := List.getD c0 0 0, w1 := List.getD c0 1 0, w2 := List.getD c0 2 0, w3 := List.getD c0 3 0 }
  (.br (decide (a5 < a1))
  (gd [decide (4 ≤ z0), decide ((4 / 1 : Nat) + 0 ≤ z0), inR (a5 + (1 : Int))] (.ok (.inl ((a1, ((), ((), (a5 + (1 : Int), ())))), (List.set (List.set (List.set (List.set c0 0 z1.w0) 1 z1.w1) 2 z1.w2) 3 z1.w3, (c1, ()))))))
  (.ok (.inr ⟨(.exit 0, gU), (((), ((), ())), (c0, (c1, ())))⟩)))
def iE (s : bm) : OT (Sum bm aL) := MJ (s.1.1) (s.1.2.2.2.1) (s.2.1) (s.2.2.1)
theorem MG (s : bm) (Q : Sum bm aL → Prop) : wps te pa ax 1000 (bE (al Tryz.f132) 0) (iC.inj s) (cM iC zg (Q : Sum iC.T aL → Prop)) = (iE s).wpR Q := by kernel_rfl
def lm (g0_0 : bm → ey) (s : bm) : OT aL := (.ok ⟨(.exit 0, gU), g0_0 s⟩)
def iD : aw := ⟨[.val true .elem], [], false⟩
def wx : SV → Option aw := fun _ => some iD
def uL (ok0 : bm → Bool) (g0_0 : bm → ey) (a0 : ab) (a1 : Int) : OT cO.Y :=
  let z0 : (Int × PUnit × PUnit × Int × PUnit) × List UInt64 × List UInt64 × PUnit := ((a1, (), (), (0 : Int), ()), [a0.w0, a0.w1, a0.w2, a0.w3], [(0 : UInt64), (0 : UInt64), (0 : UInt64), (0 : UInt64)], ())
  let z1 := (g0_0 z0).snd
  let z2 := z1.fst
  let z3 := z1.snd.fst
  let z4 : List UInt64 := lay z3 z2 4 (0 : UInt64)
  (gd [ok0 z0, decide (4 ≤ List.length z2), decide ((4 / 1 : Nat) + 0 ≤ List.length z3), decide (4 ≤ List.length z4)] (.ok ⟨iD, (({ w0 := List.getD z4 0 0, w1 := List.getD z4 1 0, w2 := List.getD z4 2 0, w3 := List.getD z4 3 0 }, ()), ())⟩))
theorem Uy (ok0 : bm → Bool) (g0_0 : bm → ey) (x : kj) (Q : cO.Y → Prop) : wpf te pa (bg 0 (db iC 0 ok0 (lm g0_0)) ax) 1000 Tryz.f132 (cO.inp.inj x).tm (cO.inp.inj x).hp (fnK cO wx Q) (fun _ _ => False) = (uL ok0 g0_0 (x.1.1) (x.1.2.1)).wpR Q := by kernel_rfl
theorem FG (ok0 : bm → Bool) (g0_0 : bm → ey) (h0 : ∀ s : bm, ok0 s = true → ∃ m e, aq (iE) m s = some e ∧ (lm g0_0 s).run = some e) (pre : kj → Bool) (F : kj → OT cO.Y) (hF : ∀ (x : kj) oy, pre x = true → (F x).run = some oy → (uL ok0 g0_0 (x.1.1) (x.1.2.1)).run = some oy) : ac Tryz.prog 132 (cO.aD pre F) :=
  aB ar lS xg (f := 132) (fn := Tryz.f132) (c := al Tryz.f132) (by kernel_rfl) (by kernel_rfl) (by kernel_rfl) (S := cO) (k := 0) (by kernel_rfl) (fun R hR => (aC (c := (al Tryz.f132)) (by kernel_rfl) (id := 0) (by kernel_rfl) (bo ar lS xg (sh := iC) hR (xs := zg) (aE (by kernel_rfl) (by kernel_rfl) hR) aS ag (n := 1000) (T := iE) (fun s Q => MG s Q) (ok := ok0) (f := lm g0_0) h0) ag)) (n := 1000) (sel := wx) (fun v o h => by cases h; rfl) (pre := pre) (F := F) (T := fun x => uL ok0 g0_0 (x.1.1) (x.1.2.1)) (fun x Q => Uy ok0 g0_0 x Q) hF
def wy (s : bm) : Bool := decide (s.1.2.2.2.1 = 0 ∧ 0 ≤ s.1.1 ∧ s.1.1 ≤ 1000000 ∧ s.2.1.length = 4)
def zh (s : bm) : ey := (((), (), ()), (lst (dV (elemOf s.2.1) s.1.1.toNat), s.2.2.1, ()))
theorem MI : ∀ s : bm, wy s = true → ∃ m e, aq iE m s = some e ∧ (lm zh s).run = some e := by
  rintro ⟨⟨k, ⟨⟩, ⟨⟩, i, ⟨⟩⟩, ⟨l, o, ⟨⟩⟩⟩ h
  have h' := of_decide_eq_true h
  dsimp only at h'
  obtain ⟨rfl, h0, h1, hl⟩ := h'
  obtain ⟨a, rfl⟩ : ∃ a, l = lst a := ⟨elemOf l, (aZ hl).symm⟩
  have := (bN (T := iE) (fun i a => (((k, (), (), (i : Int), ()), (lst a, o, ())) : bm)) (fun _ e => ej e)
    (fun a => (⟨(.exit 0, gU), (((), (), ()), (lst a, o, ()))⟩ : aL)) k.toNat a (fun _ _ => True) trivial (fun i a hi _ => ⟨?_, trivial⟩) (fun a _ => ?_)).1
  · rw [qw] at this
    obtain ⟨m, hm⟩ := this
    exact ⟨m, _, hm, rfl⟩
  · refine (OT.ap (decide_eq_true (by dsimp only; omega))).trans ((aj ?_).trans rfl)
    simp only [List.all_cons, List.all_nil, Bool.and_true, Bool.and_eq_true]
    exact ⟨rfl, rfl, bz (by omega)⟩
  · exact OT.au (decide_eq_false (by dsimp only; omega))
def mG (x : kj) : Bool := decide (0 ≤ x.1.2.1 ∧ x.1.2.1 ≤ 1000000)
def Du (x : kj) : OT cO.Y := .ok ⟨iD, ((dV x.1.1 x.1.2.1.toNat, ()), ())⟩
theorem MH : ac Tryz.prog 132 (cO.aD mG Du) := FG wy zh MI _ _ fun x oy hp ho => by
  rw [← ho]
  clear ho
  obtain ⟨⟨a, k, ⟨⟩⟩, ⟨⟩⟩ := x
  have hp' : 0 ≤ k ∧ k ≤ 1000000 := of_decide_eq_true hp
  refine (aj ?_).trans ?_
  · simp only [List.all_cons, List.all_nil, Bool.and_true, Bool.and_eq_true]
    exact ⟨decide_eq_true ⟨rfl, hp'.1, hp'.2, rfl⟩, rfl, rfl, rfl⟩
  · show some (⟨iD, ((elemOf (lay [0, 0, 0, 0] (lst (dV a k.toNat)) 4 0), ()), ())⟩ : cO.Y) = some ⟨iD, ((dV a k.toNat, ()), ())⟩
    rw [akJ _ _ rfl rfl]
    rfl
def lk : cv := (cO.aD mG Du)
theorem CL : ac Tryz.prog 132 lk := MH
theorem CK : aF lk := az
def vY : Env := ay 132 lk pa
theorem Ht : aQ Tryz.prog vY := ah CL lS
theorem BQ : av vY := ae CK tk
end Go.Proofs.YtohjofabochgfaaGreat

namespace Go.Proofs.YtohjofabochgfaaGreat
namespace Sx
open Go
theorem OT.Hd {α β : Type} {f : α → OT β} : ∀ {t : OT α} {a : α} {b : β}, t.run = some a → (f a).run = some b → (t.bind f).run = some b
  | .ok x, a, b, h, h2 => by
    cases h
    exact h2
  | .br c x y, a, b, h, h2 => by
    cases c
    · exact OT.Hd (t := y) h h2
    · exact OT.Hd (t := x) h h2
  | .fail, a, b, h, _ => by cases h
theorem pJ {P : Program} {n : FuncId} {S : ao} {pre pre' : S.T → Bool} {F F' : S.T → OT S.Y} (h : ac P n (S.aD pre F))
    (hw : ∀ x oy, pre' x = true → (F' x).run = some oy → pre x = true ∧ (F x).run = some oy) : ac P n (S.aD pre' F') := by
  refine ⟨fun R w d args vs out hm hr hrun => h.calls R w d args vs out hm hr ?_⟩
  simp only [ao.aD] at hrun ⊢
  split at hrun
  · cases hrun
  · rename_i x hx
    obtain ⟨hp, hrun⟩ := OT.aA hrun
    obtain ⟨oy, h1, h2⟩ := OT.run_bind hrun
    obtain ⟨h3, h4⟩ := hw x oy hp h1
    rw [h3]
    exact OT.Hd h4 h2
end Sx
end Go.Proofs.YtohjofabochgfaaGreat

namespace Go.Proofs.YtohjofabochgfaaGreat
open Sx Go
set_option maxRecDepth 100000
abbrev RO : ao := e7
def uF (x : ww) : Bool := ak x.1.1
def RP (x : ww) : OT e7.Y := .ok ⟨gS, (((bJ x.1.1.toNat).1, ((0 : Int), ())), ())⟩
theorem Zn : ac Tryz.prog 92 (RO.aD uF RP) := pJ (S := e7) RQ fun x oy hp ho => ⟨rfl, (OT.ap (b := ak x.1.1) hp).trans ho⟩
def pV : cv := (RO.aD uF RP)
theorem IC : ac Tryz.prog 92 pV := Zn
theorem IB : aF pV := az
def Hs : Env := ay 92 pV vY
theorem OY : aQ Tryz.prog Hs := ah IC Ht
theorem Hr : av Hs := ae IB BQ
abbrev RX : ao := fc
def uQ (x : wz) : Bool := ak x.1.1
def RY (x : wz) : OT fc.Y := .ok ⟨lp, (((bJ x.1.1.toNat).2.1, ((0 : Int), ())), ())⟩
theorem ZB : ac Tryz.prog 131 (RX.aD uQ RY) := pJ (S := fc) RZ fun x oy hp ho => ⟨rfl, (OT.ap (b := ak x.1.1) hp).trans ho⟩
def pX : cv := (RX.aD uQ RY)
theorem IX : ac Tryz.prog 131 pX := ZB
theorem IW : aF pX := az
def Hv : Env := ay 131 pX Hs
theorem O2 : aQ Tryz.prog Hv := ah IX OY
theorem Hu : av Hv := ae IW Hr
abbrev Zf : ao := iA
def gq (x : Ix) : Bool := ak x.1.1
def Zg (x : Ix) : OT iA.Y := .ok ⟨jY, ((ofP (pS x.1.1) x.1.2.1, ()), ())⟩
theorem aeV : ac Tryz.prog 62 (Zf.aD gq Zg) := pJ (S := iA) Zj fun x oy hp ho => ⟨rfl, (OT.ap (b := ak x.1.1) hp).trans ho⟩
def uC : cv := (Zf.aD gq Zg)
theorem Ml : ac Tryz.prog 62 uC := aeV
theorem Mk : aF uC := az
def BI : Env := ay 62 uC Hv
theorem vS : aQ Tryz.prog BI := ah Ml O2
theorem wY : av BI := ae Mk Hu
theorem OW : aV Tryz.prog te BI := aJ follows ar vS wY
def ix : ao := ⟨[], [], true, 0, false⟩
abbrev Df : Type := (Unit) × (Unit)
def Ft : aw := ⟨[.val true (.prod .elem (.prod .elem .bool))], [], false⟩
def Ij : SV → Option aw := fun _ => some Ft
def Mc : OT ix.Y :=
  let z0 : ab := { w0 := 0, w1 := 0, w2 := 0, w3 := 0 }
  (.ok ⟨Ft, (((z0, z0, true), ()), ())⟩)
theorem aiW (x : Df) (Q : ix.Y → Prop) : wpf te BI ax 1000 Tryz.f93 (ix.inp.inj x).tm (ix.inp.inj x).hp (fnK ix Ij Q) (fun _ _ => False) = (Mc).wpR Q := by kernel_rfl
theorem Uj (pre : Df → Bool) (F : Df → OT ix.Y) (hF : ∀ (x : Df) oy, pre x = true → (F x).run = some oy → (Mc).run = some oy) : ac Tryz.prog 93 (ix.aD pre F) :=
  aB ar vS OW (f := 93) (fn := Tryz.f93) (c := al Tryz.f93) (by kernel_rfl) (by kernel_rfl) (by kernel_rfl) (S := ix) (k := 0) (by kernel_rfl) (fun R hR => ag) (n := 1000) (sel := Ij) (fun v o h => by cases h; rfl) (pre := pre) (F := F) (T := fun x => Mc) (fun x Q => aiW x Q) hF
def Ik (_ : Df) : Bool := true
def YX (_ : Df) : OT ix.Y := .ok ⟨Ft, ((bp, ()), ())⟩
theorem aeP : ac Tryz.prog 93 (ix.aD Ik YX) := Uj _ _ fun x oy _ ho => ho
def uv : cv := (ix.aD Ik YX)
theorem Mb : ac Tryz.prog 93 uv := aeP
theorem Ma : aF uv := az
def BG : Env := ay 93 uv BI
theorem vQ : aQ Tryz.prog BG := ah Mb vS
theorem wW : av BG := ae Ma wY
theorem OV : aV Tryz.prog te BG := aJ follows ar vQ wW
def yW : ao := ⟨[.val false .int], [], true, 0, false⟩
abbrev akI : Type := ((Int) × Unit) × (Unit)
def Y1 : aw := ⟨[.val true .elem], [], false⟩
def Y0 : SV → Option aw := fun _ => some Y1
def aiX (a0 : Int) : OT yW.Y :=
  (gd [inB a0 4, decide (Int.toNat a0 + 0 < 4)] (.ok ⟨Y1, (({ w0 := List.getD [(23 : UInt64), (21 : UInt64), (5 : UInt64), (5 : UInt64)] (Int.toNat a0 + 0) (0 : UInt64), w1 := 0, w2 := 0, w3 := 0 }, ()), ())⟩))
theorem amp (x : akI) (Q : yW.Y → Prop) : wpf te BG ax 1000 Tryz.f135 (yW.inp.inj x).tm (yW.inp.inj x).hp (fnK yW Y0 Q) (fun _ _ => False) = (aiX (x.1.1)).wpR Q := by kernel_rfl
theorem aeR (pre : akI → Bool) (F : akI → OT yW.Y) (hF : ∀ (x : akI) oy, pre x = true → (F x).run = some oy → (aiX (x.1.1)).run = some oy) : ac Tryz.prog 135 (yW.aD pre F) :=
  aB ar vQ OV (f := 135) (fn := Tryz.f135) (c := al Tryz.f135) (by kernel_rfl) (by kernel_rfl) (by kernel_rfl) (S := yW) (k := 0) (by kernel_rfl) (fun R hR => ag) (n := 1000) (sel := Y0) (fun v o h => by cases h; rfl) (pre := pre) (F := F) (T := fun x => aiX (x.1.1)) (fun x Q => amp x Q) hF
def Me (x : akI) : Bool := ak x.1.1
def alk (x : akI) : OT yW.Y := .ok ⟨Y1, ((bS x.1.1, ()), ())⟩
theorem alj : ac Tryz.prog 135 (yW.aD Me alk) := aeR _ _ fun x oy hp ho => by
  rw [← ho]
  clear ho
  obtain ⟨⟨s, ⟨⟩⟩, ⟨⟩⟩ := x
  rcases cz hp with h | h | h | h
  all_goals
    have h : s = _ := h
    subst h
    rfl
def Fv : cv := (yW.aD Me alk)
theorem Y3 : ac Tryz.prog 135 Fv := alj
theorem YZ : aF Fv := az
def acp : Env := ay 135 Fv BG
theorem Hq : aQ Tryz.prog acp := ah Y3 vQ
theorem EU : av acp := ae YZ wW
theorem aco : aV Tryz.prog te acp := aJ follows ar Hq EU
end Go.Proofs.YtohjofabochgfaaGreat
