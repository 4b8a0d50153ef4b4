/- A symbolic machine for Go code over plain data, and functions of the program as it shows them. No statement is proved in this file. -/
import Derived.KernelRfl
import Derived.Test.YtohjofabochgfaaGreatXc
set_option linter.unusedSimpArgs false
set_option linter.unusedVariables false
set_option linter.unusedSectionVars false

namespace Go.Proofs.YtohjofabochgfaaGreat
open Sx Go
def l6 (n : Nat) : List UInt64 := [UInt64.ofNat n, UInt64.ofNat (n / 18446744073709551616), UInt64.ofNat (n / 18446744073709551616 / 18446744073709551616), UInt64.ofNat (n / 18446744073709551616 / 18446744073709551616 / 18446744073709551616),
  UInt64.ofNat (n / 18446744073709551616 / 18446744073709551616 / 18446744073709551616 / 18446744073709551616), UInt64.ofNat (n / 18446744073709551616 / 18446744073709551616 / 18446744073709551616 / 18446744073709551616 / 18446744073709551616)]
def v6 (l : List UInt64) : Nat := (l.getD 0 0).toNat + 18446744073709551616 * ((l.getD 1 0).toNat + 18446744073709551616 * ((l.getD 2 0).toNat + 18446744073709551616 * ((l.getD 3 0).toNat + 18446744073709551616 * ((l.getD 4 0).toNat + 18446744073709551616 * (l.getD 5 0).toNat))))
theorem fT {m : Nat} {x : UInt64} (hm : m % 18446744073709551616 = x.toNat) : UInt64.ofNat m = x := by
  rw [← UInt64.toNat_inj, UInt64.toNat_ofNat']
  exact hm
theorem atX {n : Nat} {a b c d e : UInt64} {k : Nat} {f : UInt64} (h : n = a.toNat + 18446744073709551616 * (b.toNat + 18446744073709551616 * (c.toNat + 18446744073709551616 * (d.toNat + 18446744073709551616 * (e.toNat + 18446744073709551616 * k))))) (hf : k % 18446744073709551616 = f.toNat) : l6 n = [a, b, c, d, e, f] := by
  obtain ⟨h1, h0⟩ := div_eq a.toNat_lt h
  obtain ⟨h2, h3⟩ := div_eq b.toNat_lt h1
  obtain ⟨h4, h5⟩ := div_eq c.toNat_lt h2
  obtain ⟨h6, h7⟩ := div_eq d.toNat_lt h4
  obtain ⟨h8, h9⟩ := div_eq e.toNat_lt h6
  unfold l6
  rw [fT (x := a) h0, fT (x := b) h3, fT (x := c) h5, fT (x := d) h7, fT (x := e) h9, fT (x := f) (by rw [h8]; exact hf)]
theorem ago (n : Nat) : (l6 n).length = 6 := rfl
def arI (t a x c : UInt64) : UInt64 := rX t (rX (a * x) c 0) 0
def xa (t a x c : UInt64) : UInt64 := aix a x + uh (a * x) c 0 + uh t (rX (a * x) c 0) 0
theorem aro {t P p h c l k1 r k2 W : Nat} (hP : P = p + W * h) (h1 : p + c = l + W * k1) (h2 : t + l = r + W * k2) : t + P + c = r + W * (h + k1 + k2) := by
  rw [Nat.mul_add, Nat.mul_add]
  omega
theorem ain {t P c r q W : Nat} (hW : 0 < W) (ht : t ≤ W - 1) (hc : c ≤ W - 1) (hP : P ≤ (W - 1) * (W - 1)) (h : t + P + c = r + W * q) : q < W := by
  obtain ⟨V, rfl⟩ : ∃ V, W = V + 1 := ⟨W - 1, by omega⟩
  rw [Nat.add_sub_cancel] at *
  refine Nat.lt_of_not_le fun hq => ?_
  have h1 : (V + 1) * (V + 1) ≤ (V + 1) * q := Nat.mul_le_mul_left _ hq
  have h2 : (V + 1) * (V + 1) = V * V + V + V + 1 := by rw [Nat.add_mul, Nat.mul_add, Nat.one_mul, Nat.mul_one]; omega
  omega
theorem alQ (a x : UInt64) : (aix a x).toNat = a.toNat * x.toNat / 18446744073709551616 := by
  have ha := a.toNat_lt
  have hx := x.toNat_lt
  have : a.toNat * x.toNat / 18446744073709551616 < 18446744073709551616 := by
    rw [Nat.div_lt_iff_lt_mul (by omega)]
    exact Nat.mul_lt_mul'' ha hx
  unfold aix
  rw [UInt64.toNat_ofNat', Nat.mod_eq_of_lt this]
theorem BV (t a x c : UInt64) : t.toNat + a.toNat * x.toNat + c.toNat = (arI t a x c).toNat + 18446744073709551616 * (xa t a x c).toNat := by
  have hP : a.toNat * x.toNat = (a * x).toNat + 18446744073709551616 * (aix a x).toNat := by
    rw [alQ, UInt64.toNat_mul]
    exact (Nat.mod_add_div _ _).symm
  have h1 := kC (a * x) c 0
  have h2 := kC t (rX (a * x) c 0) 0
  rw [show (0 : UInt64).toNat = 0 from rfl, Nat.add_zero] at h1 h2
  have key := aro hP h1 h2
  have hb := ain (W := 18446744073709551616) (by omega) (Nat.le_sub_one_of_lt t.toNat_lt) (Nat.le_sub_one_of_lt c.toNat_lt) (Nat.mul_le_mul (Nat.le_sub_one_of_lt a.toNat_lt) (Nat.le_sub_one_of_lt x.toNat_lt)) key
  have e : (xa t a x c).toNat = (aix a x).toNat + (uh (a * x) c 0).toNat + (uh t (rX (a * x) c 0) 0).toNat := by
    unfold xa
    rw [UInt64.toNat_add, UInt64.toNat_add, Nat.mod_add_mod]
    exact Nat.mod_eq_of_lt hb
  rw [e]
  exact key
theorem BW {t a x c s k T A R W : Nat} (h1 : t + a * x + c = s + W * k) (h2 : T + A * x + k = R) : (t + W * T) + (a + W * A) * x + c = s + W * R := by
  rw [Nat.add_mul, Nat.mul_assoc, ← h2, Nat.mul_add, Nat.mul_add]
  omega
def auu (t0 t1 t2 t3 t4 t5 : UInt64) (a : aa) (x : UInt64) : List UInt64 :=
  let k0 := xa t0 a.w0 x 0
  let k1 := xa t1 a.w1 x k0
  let k2 := xa t2 a.w2 x k1
  let k3 := xa t3 a.w3 x k2
  [arI t0 a.w0 x 0, arI t1 a.w1 x k0, arI t2 a.w2 x k1, arI t3 a.w3 x k2, rX t4 k3 0, t5 + uh t4 k3 0]
theorem arp (t0 t1 t2 t3 t4 t5 : UInt64) (a : aa) (x : UInt64) : auu t0 t1 t2 t3 t4 t5 a x = l6 (v6 [t0, t1, t2, t3, t4, t5] + a.nat * x.toNat) := by
  have h4 := kC t4 (xa t3 a.w3 x (xa t2 a.w2 x (xa t1 a.w1 x (xa t0 a.w0 x 0)))) 0
  rw [show (0 : UInt64).toNat = 0 from rfl, Nat.add_zero] at h4
  have h5 : (t4.toNat + 18446744073709551616 * t5.toNat) + 0 * x.toNat + (xa t3 a.w3 x (xa t2 a.w2 x (xa t1 a.w1 x (xa t0 a.w0 x 0)))).toNat =
      (rX t4 (xa t3 a.w3 x (xa t2 a.w2 x (xa t1 a.w1 x (xa t0 a.w0 x 0)))) 0).toNat + 18446744073709551616 * (t5.toNat + (uh t4 (xa t3 a.w3 x (xa t2 a.w2 x (xa t1 a.w1 x (xa t0 a.w0 x 0)))) 0).toNat) := by
    rw [Nat.zero_mul, Nat.mul_add]
    omega
  have h := BW (BV t0 a.w0 x 0) (BW (BV t1 a.w1 x _) (BW (BV t2 a.w2 x _) (BW (BV t3 a.w3 x _) h5)))
  rw [show (0 : UInt64).toNat = 0 from rfl, Nat.add_zero, Nat.mul_zero, Nat.add_zero] at h
  exact (atX (f := t5 + uh t4 (xa t3 a.w3 x (xa t2 a.w2 x (xa t1 a.w1 x (xa t0 a.w0 x 0)))) 0) h (by rw [UInt64.toNat_add])).symm
end Go.Proofs.YtohjofabochgfaaGreat

namespace Go.Proofs.YtohjofabochgfaaGreat
open Sx Go
set_option maxRecDepth 100000
def pB : av := ⟨[.val true (.arr 6 .u64), .val true .elem, .val false .u64], [], true, 0, false⟩
abbrev abv : Type := ((List (UInt64)) × (aa) × (UInt64) × Unit) × (Unit)
def EA : Shape := ⟨61, [(2, .val false .u64), (3, .ptr 0 0 0), (4, .ptr 1 0 0), (6, .ptr 2 0 0), (7, .val false .u64), (13, .val false .int)], [(0, .row .u64), (1, .row .u64), (2, .row .u64)], 0, true⟩
abbrev dg : Type := ((UInt64) × (Unit) × (Unit) × (Unit) × (UInt64) × (Int) × Unit) × ((List (UInt64)) × (List (UInt64)) × (List (UInt64)) × Unit)
def vE : Shape := ⟨61, [(3, .ptr 0 0 0), (6, .ptr 1 0 0), (7, .val false .u64)], [(0, .row .u64), (1, .row .u64)], 0, true⟩
abbrev mu : Type := ((Unit) × (Unit) × (UInt64) × Unit) × ((List (UInt64)) × (List (UInt64)) × Unit)
def ahc : SE → Option Shape := jr [(0, vE)] none
def aqU (a2 : UInt64) (a7 : UInt64) (a13 : Int) (c0 : List (UInt64)) (c1 : List (UInt64)) (c2 : List (UInt64)) : OT (Sum dg aP) :=
  let z0 : Bool := inB a13 6
  let z1 : Bool := decide (Int.toNat a13 + 0 < List.length c0)
  let z2 : UInt64 := List.getD c1 (Int.toNat a13 + 0) (0 : UInt64)
  let z3 : UInt64 := List.getD c0 (Int.toNat a13 + 0) (0 : UInt64)
  let z4 : UInt64 := rX (z2 * a2) a7 (0 : UInt64)
  (.br (decide (a13 < (4 : Int)))
  (gd [inB a13 4, decide (Int.toNat a13 + 0 < List.length c1), z0, z1, z0, z1, inR (a13 + (1 : Int))] (.ok (.inl ((a2, ((), ((), ((), (aix z2 a2 + uh (z2 * a2) a7 (0 : UInt64) + uh z3 z4 (0 : UInt64), (a13 + (1 : Int), ())))))), (List.set c0 (Int.toNat a13 + 0) (rX z3 z4 (0 : UInt64)), (c1, (c2, ())))))))
  (.ok (.inr ⟨(.exit 0, vE), (((), ((), (a7, ()))), (c0, (c2, ())))⟩)))
def EB (s : dg) : OT (Sum dg aP) := aqU (s.1.1) (s.1.2.2.2.2.1) (s.1.2.2.2.2.2.1) (s.2.1) (s.2.2.1) (s.2.2.2.1)
theorem aqR (s : dg) (Q : Sum dg aP → Prop) : wps te IU ay 1000 (bF (ao Tryz.f150) 0) (EA.inj s) (cQ EA ahc (Q : Sum EA.T aP → Prop)) = (EB s).wpR Q := by kernel_rfl
def KV (g0_0 : dg → mu) (s : dg) : OT aP := (.ok ⟨(.exit 0, vE), g0_0 s⟩)
def Tf : az := ⟨[.val true (.arr 6 .u64)], [], false⟩
def Yv : SV → Option az := fun _ => some Tf
def ahf (ok0 : dg → Bool) (g0_0 : dg → mu) (a0 : List (UInt64)) (a1 : aa) (a2 : UInt64) : OT pB.Y :=
  let z0 : (UInt64 × PUnit × PUnit × PUnit × UInt64 × Int × PUnit) × List UInt64 × List UInt64 × List UInt64 × PUnit := ((a2, (), (), (), (0 : UInt64), (0 : Int), ()), tab a0 6 (0 : UInt64), [a1.w0, a1.w1, a1.w2, a1.w3], [(0 : UInt64), (0 : UInt64), (0 : UInt64), (0 : UInt64), (0 : UInt64), (0 : UInt64)], ())
  let z1 : (PUnit × PUnit × UInt64 × PUnit) × List UInt64 × List UInt64 × PUnit := g0_0 z0
  let z2 := z1.snd
  let z3 := z2.fst
  let z4 : Bool := decide (4 < List.length z3)
  let z5 : UInt64 := List.getD z3 4 0
  let z6 := z1.fst.snd.snd.fst
  let z7 : List UInt64 := List.set z3 4 (rX z5 z6 (0 : UInt64))
  let z8 : Bool := decide (5 < List.length z7)
  let z9 : List UInt64 := List.set z7 5 (List.getD z7 5 0 + uh z5 z6 (0 : UInt64))
  let z10 := z2.snd.fst
  let z11 : List UInt64 := lay z10 z9 6 (0 : UInt64)
  (gd [ok0 z0, z4, z4, z8, z8, decide (6 ≤ List.length z9), decide ((6 / 1 : Nat) + 0 ≤ List.length z10), decide (6 ≤ List.length z11)] (.ok ⟨Tf, ((tab z11 6 (0 : UInt64), ()), ())⟩))
theorem as4 (ok0 : dg → Bool) (g0_0 : dg → mu) (x : abv) (Q : pB.Y → Prop) : wpf te IU (bg 0 (di EA 0 ok0 (KV g0_0)) ay) 1000 Tryz.f150 (pB.inp.inj x).tm (pB.inp.inj x).hp (fnK pB Yv Q) (fun _ _ => False) = (ahf ok0 g0_0 (x.1.1) (x.1.2.1) (x.1.2.2.1)).wpR Q := by kernel_rfl
theorem ahd (ok0 : dg → Bool) (g0_0 : dg → mu) (h0 : ∀ s : dg, ok0 s = true → ∃ m e, aq (EB) m s = some e ∧ (KV g0_0 s).run = some e) (pre : abv → Bool) (F : abv → OT pB.Y) (hF : ∀ (x : abv) oy, pre x = true → (F x).run = some oy → (ahf ok0 g0_0 (x.1.1) (x.1.2.1) (x.1.2.2.1)).run = some oy) : ac Tryz.prog 150 (pB.aH pre F) :=
  aC au wG IR (f := 150) (fn := Tryz.f150) (c := ao Tryz.f150) (by kernel_rfl) (by kernel_rfl) (by kernel_rfl) (S := pB) (k := 0) (by kernel_rfl) (fun R hR => (aF (c := (ao Tryz.f150)) (by kernel_rfl) (id := 0) (by kernel_rfl) (bt au wG IR (sh := EA) hR (xs := ahc) (aG (by kernel_rfl) (by kernel_rfl) hR) aW af (n := 1000) (T := EB) (fun s Q => aqR s Q) (ok := ok0) (f := KV g0_0) h0) af)) (n := 1000) (sel := Yv) (fun v o h => by cases h; rfl) (pre := pre) (F := F) (T := fun x => ahf ok0 g0_0 (x.1.1) (x.1.2.1) (x.1.2.2.1)) (fun x Q => as4 ok0 g0_0 x Q) hF
def amU (a : List UInt64) (x : UInt64) (k : Nat) (s : List UInt64 × UInt64) : List UInt64 × UInt64 := (s.1.set k (arI (s.1.getD k 0) (a.getD k 0) x s.2), xa (s.1.getD k 0) (a.getD k 0) x s.2)
def Yx (s : dg) : Bool := decide (s.1.2.2.2.2.1 = 0 ∧ s.1.2.2.2.2.2.1 = 0 ∧ s.2.1.length = 6 ∧ s.2.2.1.length = 4)
def ahe (s : dg) : mu := (((), (), (upto (amU s.2.2.1 s.1.1) (s.2.1, 0) 4).2, ()), ((upto (amU s.2.2.1 s.1.1) (s.2.1, 0) 4).1, s.2.2.2.1, ()))
theorem aqT : ∀ s : dg, Yx s = true → ∃ m e, aq EB m s = some e ∧ (KV ahe s).run = some e := by
  rintro ⟨⟨x, ⟨⟩, ⟨⟩, ⟨⟩, c, i, ⟨⟩⟩, ⟨t, a, o, ⟨⟩⟩⟩ h
  have h' := of_decide_eq_true h
  dsimp only at h'
  obtain ⟨rfl, rfl, ht, ha⟩ := h'
  have := (bP (T := EB) (fun k s => (((x, (), (), (), s.2, (k : Int), ()), (s.1, a, o, ())) : dg)) (amU a x)
    (fun s => (⟨(.exit 0, vE), (((), (), s.2, ()), (s.1, o, ()))⟩ : aP)) 4 (t, 0) (fun _ s => s.1.length = 6) ht (fun k s hk hs => ⟨?_, ?_⟩) (fun s hs => ?_)).1
  · obtain ⟨m, hm⟩ := this
    exact ⟨m, _, hm, rfl⟩
  · refine (OT.ap (decide_eq_true (by dsimp only; omega))).trans ((al ?_).trans ?_)
    · simp only [Int.toNat_natCast, Nat.add_zero, hs, ha, List.all_cons, List.all_nil, Bool.and_true, Bool.and_eq_true]
      exact ⟨bD (by omega), decide_eq_true (by omega), bD (by omega), decide_eq_true (by omega), bD (by omega), decide_eq_true (by omega), bE (by omega)⟩
    · simp only [OT.jG, Int.toNat_natCast, Nat.add_zero]
      rfl
  · simp only [amU, List.length_set]
    exact hs
  · exact OT.aw (decide_eq_false (by dsimp only; omega))
def Yw (_ : abv) : Bool := true
def ahg (x : abv) : OT pB.Y := .ok ⟨Tf, ((l6 (v6 x.1.1 + x.1.2.1.nat * x.1.2.2.1.toNat), ()), ())⟩
theorem aqS : ac Tryz.prog 150 (pB.aH Yw ahg) := ahd Yx ahe aqT _ _ fun x oy hp ho => by
  rw [← ho]
  clear ho
  obtain ⟨⟨t, a, x, ⟨⟩⟩, ⟨⟩⟩ := x
  refine (al ?_).trans ?_
  · simp only [List.all_cons, List.all_nil, Bool.and_true, Bool.and_eq_true]
    exact ⟨rfl, rfl, rfl, rfl, rfl, rfl, rfl, rfl⟩
  · have e := arp (t.getD 0 0) (t.getD 1 0) (t.getD 2 0) (t.getD 3 0) (t.getD 4 0) (t.getD 5 0) a x
    have e2 : l6 (v6 t + a.nat * x.toNat) = auu (t.getD 0 0) (t.getD 1 0) (t.getD 2 0) (t.getD 3 0) (t.getD 4 0) (t.getD 5 0) a x := e.symm
    simp only [ahg, e2]
    rfl
def Ez : cG := (pB.aH Yw ahg)
theorem abu : ac Tryz.prog 150 Ez := aqS
theorem abt : aK Ez := aB
def IX : Env := aA 150 Ez IU
theorem wI : aV Tryz.prog IX := ai abu wG
theorem FZ : ax IX := ae abt FD
theorem IW : aZ Tryz.prog te IX := aN follows au wI FZ
end Go.Proofs.YtohjofabochgfaaGreat

namespace Go.Proofs.YtohjofabochgfaaGreat
open Sx Go
theorem arP {n : Nat} (h : n / 18446744073709551616 / 18446744073709551616 / 18446744073709551616 / 18446744073709551616 / 18446744073709551616 < 18446744073709551616) : v6 (l6 n) = n := by
  unfold v6 l6
  simp only [List.getD_cons_zero, List.getD_cons_succ, UInt64.toNat_ofNat']
  rw [show (2 : Nat) ^ 64 = 18446744073709551616 from rfl]
  omega
def Ci (p neg a : Nat) (b t : Nat) : Nat := (t + a * b + p * ((t + a * b) * neg % 18446744073709551616)) / 18446744073709551616
theorem qm {p neg a b t : Nat} (hn : (p * neg + 1) % 18446744073709551616 = 0) : 18446744073709551616 * Ci p neg a b t = t + a * b + p * ((t + a * b) * neg % 18446744073709551616) := by
  unfold Ci
  refine Nat.mul_div_cancel' (Nat.dvd_of_mod_eq_zero ?_)
  generalize t + a * b = u
  rw [Nat.add_mod, Nat.mul_mod, Nat.mod_mod, ← Nat.mul_mod, ← Nat.add_mod]
  have : u + p * (u * neg) = u * (p * neg + 1) := by
    rw [Nat.mul_add, Nat.mul_one, Nat.mul_left_comm]
    omega
  rw [this, Nat.mul_mod, hn, Nat.mul_zero, Nat.zero_mod]
theorem ql {p neg a b t : Nat} (hn : (p * neg + 1) % 18446744073709551616 = 0) (ht : t < 2 * p) (ha : a < p) (hb : b < 18446744073709551616) : Ci p neg a b t < 2 * p := by
  have h := qm (a := a) (b := b) (t := t) hn
  have hm : (t + a * b) * neg % 18446744073709551616 ≤ 18446744073709551615 := by
    have := Nat.mod_lt ((t + a * b) * neg) (show 0 < 18446744073709551616 by omega)
    omega
  have h1 : p * ((t + a * b) * neg % 18446744073709551616) ≤ p * 18446744073709551615 := Nat.mul_le_mul_left _ hm
  have h2 : a * b ≤ p * 18446744073709551615 := Nat.mul_le_mul (by omega) (by omega)
  omega
theorem apu {p a b t t1 m K T B M W : Nat} (h1 : W * t1 = t + a * b + p * m) (h2 : K * T = t1 + a * B + p * M) : (W * K) * T = t + a * (b + W * B) + p * (m + W * M) := by
  have e : (W * K) * T = W * t1 + W * (a * B) + W * (p * M) := by rw [Nat.mul_assoc, h2, Nat.mul_add, Nat.mul_add]
  rw [e, h1, Nat.mul_add, Nat.mul_add, Nat.mul_left_comm a W, Nat.mul_left_comm p W]
  omega
theorem auv {p a b T K M r : Nat} (h : K * T = a * b + p * M) (hr : K * r % p = 1 % p) : T % p = a * b * r % p := by
  have h1 : (K * T) * r = a * b * r + p * (M * r) := by rw [h, Nat.add_mul, Nat.mul_assoc p]
  have h2 : a * b * r % p = (K * T * r) % p := by rw [h1, Nat.add_mul_mod_self_left]
  have h3 : K * T * r = T * (K * r) := by rw [Nat.mul_comm K T, Nat.mul_assoc]
  rw [h2, h3, Nat.mul_mod, hr, ← Nat.mul_mod, Nat.mul_one]
def asz (p neg a : Nat) (b : aa) : Nat := Ci p neg a b.w3.toNat (Ci p neg a b.w2.toNat (Ci p neg a b.w1.toNat (Ci p neg a b.w0.toNat 0)))
theorem alY {p neg a r : Nat} {b : aa} (hn : (p * neg + 1) % 18446744073709551616 = 0) (hr : 115792089237316195423570985008687907853269984665640564039457584007913129639936 * r % p = 1 % p) : asz p neg a b % p = a * b.nat * r % p := by
  have h := apu (qm (a := a) (b := b.w0.toNat) (t := 0) hn) (apu (qm (a := a) (b := b.w1.toNat) hn) (apu (qm (a := a) (b := b.w2.toNat) hn) (show 18446744073709551616 * _ = _ + a * b.w3.toNat + p * _ from qm hn)))
  rw [Nat.zero_add] at h
  exact auv (K := 18446744073709551616 * (18446744073709551616 * (18446744073709551616 * 18446744073709551616))) h hr
theorem aql {p neg a : Nat} {b : aa} (hn : (p * neg + 1) % 18446744073709551616 = 0) (ha : a < p) : asz p neg a b < 2 * p :=
  ql hn (ql hn (ql hn (ql hn (by omega) ha b.w0.toNat_lt) ha b.w1.toNat_lt) ha b.w2.toNat_lt) ha b.w3.toNat_lt
theorem aqm {T p : Nat} (h : T < 2 * p) : T % p = if T < p then T else T - p := by
  split
  · exact Nat.mod_eq_of_lt ‹_›
  · rw [Nat.mod_eq_sub_mod (by omega), Nat.mod_eq_of_lt (by omega)]
end Go.Proofs.YtohjofabochgfaaGreat

namespace Go.Proofs.YtohjofabochgfaaGreat
open Sx Go
set_option maxRecDepth 100000
def iX : av := ⟨[.val true (.prod .elem (.prod .int (.prod .u64 (.prod .u64 .elem)))), .val true .elem, .val true .elem], [], true, 0, false⟩
abbrev H3 : Type := (((aa × (Int × (UInt64 × (UInt64 × aa))))) × (aa) × (aa) × Unit) × (Unit)
def vx : Shape := ⟨61, [(3, .ptr 0 0 0), (4, .ptr 1 0 0), (6, .ptr 2 0 0), (7, .ptr 3 0 0), (13, .val true .elem), (14, .val false .int)], [(0, .cells [.val false .u64, .val false .u64, .val false .u64, .val false .u64, .val false .int, .val false .u64, .val false .u64, .val false .u64, .val false .u64, .val false .u64, .val false .u64]), (1, .row .u64), (2, .row .u64), (3, .row .u64)], 0, true⟩
abbrev ci : Type := ((Unit) × (Unit) × (Unit) × (Unit) × (aa) × (Int) × Unit) × (((UInt64) × (UInt64) × (UInt64) × (UInt64) × (Int) × (UInt64) × (UInt64) × (UInt64) × (UInt64) × (UInt64) × (UInt64) × Unit) × (List (UInt64)) × (List (UInt64)) × (List (UInt64)) × Unit)
def rl : Shape := ⟨61, [(3, .ptr 0 0 0), (6, .ptr 1 0 0), (7, .ptr 2 0 0)], [(0, .cells [.val false .u64, .val false .u64, .val false .u64, .val false .u64, .val false .int, .val false .u64, .val false .u64, .val false .u64, .val false .u64, .val false .u64, .val false .u64]), (1, .row .u64), (2, .row .u64)], 0, true⟩
abbrev km : Type := ((Unit) × (Unit) × (Unit) × Unit) × (((UInt64) × (UInt64) × (UInt64) × (UInt64) × (Int) × (UInt64) × (UInt64) × (UInt64) × (UInt64) × (UInt64) × (UInt64) × Unit) × (List (UInt64)) × (List (UInt64)) × Unit)
def Yc : SE → Option Shape := jr [(0, rl)] none
def KH (a13 : aa) (a14 : Int) (c0_0 : UInt64) (c0_1 : UInt64) (c0_2 : UInt64) (c0_3 : UInt64) (c0_4 : Int) (c0_5 : UInt64) (c0_6 : UInt64) (c0_7 : UInt64) (c0_8 : UInt64) (c0_9 : UInt64) (c0_10 : UInt64) (c1 : List (UInt64)) (c2 : List (UInt64)) (c3 : List (UInt64)) : OT (Sum ci aP) :=
  let z0 : Nat := List.length c3
  let z1 : List UInt64 := lay c3 (l6 (v6 (tab c3 6 (0 : UInt64)) + aa.nat { w0 := List.getD c1 0 0, w1 := List.getD c1 1 0, w2 := List.getD c1 2 0, w3 := List.getD c1 3 0 } * UInt64.toNat (List.getD [a13.w0, a13.w1, a13.w2, a13.w3] (Int.toNat a14) (0 : UInt64)))) 6 (0 : UInt64)
  let z2 : Nat := List.length z1
  let z3 : List UInt64 := lay z1 (l6 (v6 (tab z1 6 (0 : UInt64)) + aa.nat { w0 := c0_0, w1 := c0_1, w2 := c0_2, w3 := c0_3 } * UInt64.toNat (List.getD z1 0 0 * c0_6))) 6 (0 : UInt64)
  let z4 : Nat := List.length z3
  (.br (decide (a14 < (4 : Int)))
  (gd [inB a14 4, decide (6 ≤ z0), decide (4 ≤ List.length c1), decide ((6 / 1 : Nat) + 0 ≤ z0), decide (6 ≤ z2), decide (0 < z2), decide ((6 / 1 : Nat) + 0 ≤ z2), decide (1 < z4), decide (2 < z4), decide (3 < z4), decide (4 < z4), decide (5 < z4), decide ((6 / 1 : Nat) + 0 ≤ z4), inR (a14 + (1 : Int))] (.ok (.inl (((), ((), ((), ((), (a13, (a14 + (1 : Int), ())))))), ((c0_0, (c0_1, (c0_2, (c0_3, (c0_4, (c0_5, (c0_6, (c0_7, (c0_8, (c0_9, (c0_10, ()))))))))))), (c1, (c2, (List.set (List.set (List.set (List.set (List.set (List.set z3 0 (List.getD z3 1 0)) 1 (List.getD z3 2 0)) 2 (List.getD z3 3 0)) 3 (List.getD z3 4 0)) 4 (List.getD z3 5 0)) 5 (0 : UInt64), ()))))))))
  (.ok (.inr ⟨(.exit 0, rl), (((), ((), ((), ()))), ((c0_0, (c0_1, (c0_2, (c0_3, (c0_4, (c0_5, (c0_6, (c0_7, (c0_8, (c0_9, (c0_10, ()))))))))))), (c2, (c3, ()))))⟩)))
def vy (s : ci) : OT (Sum ci aP) := KH (s.1.2.2.2.2.1) (s.1.2.2.2.2.2.1) (s.2.1.1) (s.2.1.2.1) (s.2.1.2.2.1) (s.2.1.2.2.2.1) (s.2.1.2.2.2.2.1) (s.2.1.2.2.2.2.2.1) (s.2.1.2.2.2.2.2.2.1) (s.2.1.2.2.2.2.2.2.2.1) (s.2.1.2.2.2.2.2.2.2.2.1) (s.2.1.2.2.2.2.2.2.2.2.2.1) (s.2.1.2.2.2.2.2.2.2.2.2.2.1) (s.2.2.1) (s.2.2.2.1) (s.2.2.2.2.1)
theorem amc (s : ci) (Q : Sum ci aP → Prop) : wps te IX ay 1000 (bF (ao Tryz.f118) 0) (vx.inj s) (cQ vx Yc (Q : Sum vx.T aP → Prop)) = (vy s).wpR Q := by kernel_rfl
def BO (g0_0 : ci → km) (s : ci) : OT aP := (.ok ⟨(.exit 0, rl), g0_0 s⟩)
def rk : az := ⟨[.val true .elem], [], false⟩
def OJ : SV → Option az := fun _ => some rk
def SX (ok0 : ci → Bool) (g0_0 : ci → km) (a0 : (aa × (Int × (UInt64 × (UInt64 × aa))))) (a1 : aa) (a2 : aa) : OT iX.Y :=
  let z0 : (PUnit × PUnit × PUnit × PUnit × aa × Int × PUnit) × (UInt64 × UInt64 × UInt64 × UInt64 × Int × UInt64 × UInt64 × UInt64 × UInt64 × UInt64 × UInt64 × PUnit) × List UInt64 × List UInt64 × List UInt64 × PUnit := (((), (), (), (), a2, (0 : Int), ()), (a0.fst.w0, a0.fst.w1, a0.fst.w2, a0.fst.w3, a0.snd.fst, a0.snd.snd.fst, a0.snd.snd.snd.fst, a0.snd.snd.snd.snd.w0, a0.snd.snd.snd.snd.w1, a0.snd.snd.snd.snd.w2, a0.snd.snd.snd.snd.w3, ()), [a1.w0, a1.w1, a1.w2, a1.w3], [(0 : UInt64), (0 : UInt64), (0 : UInt64), (0 : UInt64)], [(0 : UInt64), (0 : UInt64), (0 : UInt64), (0 : UInt64), (0 : UInt64), (0 : UInt64)], ())
  let z1 := (g0_0 z0).snd
  let z2 := z1.snd
  let z3 := z2.snd.fst
  let z4 : Nat := List.length z3
  let z5 := z2.fst
  let z6 : Nat := List.length z5
  let z7 : Bool := decide ((4 / 1 : Nat) + 0 ≤ z6)
  let z8 := z1.fst
  let z9 := z8.snd
  let z10 := z9.snd
  let z11 : aa × Bool := lk { w0 := List.getD z3 0 0, w1 := List.getD z3 1 0, w2 := List.getD z3 2 0, w3 := List.getD z3 3 0 } { w0 := z8.fst, w1 := z9.fst, w2 := z10.fst, w3 := z10.snd.fst }
  let z12 := z11.fst
  let z13 : List UInt64 := List.set (List.set (List.set (List.set z5 0 z12.w0) 1 z12.w1) 2 z12.w2) 3 z12.w3
  let z14 : Bool := decide (4 ≤ List.length z13)
  let z15 : aa := { w0 := List.getD z13 0 0, w1 := List.getD z13 1 0, w2 := List.getD z13 2 0, w3 := List.getD z13 3 0 }
  let z16 : List UInt64 := lay z5 z3 4 (0 : UInt64)
  (gd [ok0 z0, decide (6 ≤ z4) && true, decide (4 ≤ z4), decide (4 < z4)] (.br (!List.getD z3 4 0 == (0 : UInt64))
  (gd [z7, z14] (.ok ⟨rk, ((z15, ()), ())⟩))
  (.br (!z11.snd)
    (gd [z7, z14] (.ok ⟨rk, ((z15, ()), ())⟩))
    (gd [decide ((4 / 1 : Nat) + 0 ≤ z6), decide (4 ≤ List.length z16)] (.ok ⟨rk, (({ w0 := List.getD z16 0 0, w1 := List.getD z16 1 0, w2 := List.getD z16 2 0, w3 := List.getD z16 3 0 }, ()), ())⟩)))))
theorem aqt (ok0 : ci → Bool) (g0_0 : ci → km) (x : H3) (Q : iX.Y → Prop) : wpf te IX (bg 0 (di vx 0 ok0 (BO g0_0)) ay) 1000 Tryz.f118 (iX.inp.inj x).tm (iX.inp.inj x).hp (fnK iX OJ Q) (fun _ _ => False) = (SX ok0 g0_0 (x.1.1) (x.1.2.1) (x.1.2.2.1)).wpR Q := by kernel_rfl
theorem aaX (ok0 : ci → Bool) (g0_0 : ci → km) (h0 : ∀ s : ci, ok0 s = true → ∃ m e, aq (vy) m s = some e ∧ (BO g0_0 s).run = some e) (pre : H3 → Bool) (F : H3 → OT iX.Y) (hF : ∀ (x : H3) oy, pre x = true → (F x).run = some oy → (SX ok0 g0_0 (x.1.1) (x.1.2.1) (x.1.2.2.1)).run = some oy) : ac Tryz.prog 118 (iX.aH pre F) :=
  aC au wI IW (f := 118) (fn := Tryz.f118) (c := ao Tryz.f118) (by kernel_rfl) (by kernel_rfl) (by kernel_rfl) (S := iX) (k := 0) (by kernel_rfl) (fun R hR => (aF (c := (ao Tryz.f118)) (by kernel_rfl) (id := 0) (by kernel_rfl) (bt au wI IW (sh := vx) hR (xs := Yc) (aG (by kernel_rfl) (by kernel_rfl) hR) aW af (n := 1000) (T := vy) (fun s Q => amc s Q) (ok := ok0) (f := BO g0_0) h0) af)) (n := 1000) (sel := OJ) (fun v o h => by cases h; rfl) (pre := pre) (F := F) (T := fun x => SX ok0 g0_0 (x.1.1) (x.1.2.1) (x.1.2.2.1)) (fun x Q => aqt ok0 g0_0 x Q) hF
def iW (n : LZ) : Bool := decide (n = bT 2) || decide (n = bT 3)
theorem gJ {n : LZ} (h : iW n = true) : n = bT 2 ∨ n = bT 3 := by
  simpa [iW] using h
def akM (n : LZ) : Nat := if n.2.2.2.1 == 11037532056220336127 then 15353493766103302224812374511606760489073247795810767472367693728416386214313 else 14238205147845459960272226733876560297615832660064601289232577236146637664127
theorem agF {n : LZ} (h : iW n = true) : (n.1.nat * n.2.2.2.1.toNat + 1) % 18446744073709551616 = 0 := by
  rcases gJ h with rfl | rfl <;> decide +kernel
theorem agG {n : LZ} (h : iW n = true) : 115792089237316195423570985008687907853269984665640564039457584007913129639936 * akM n % n.1.nat = 1 % n.1.nat := by
  rcases gJ h with rfl | rfl <;> decide +kernel
theorem agD {n : LZ} (h : iW n = true) : 2 * n.1.nat ≤ 115792089237316195423570985008687907853269984665640564039457584007913129639936 := by
  rcases gJ h with rfl | rfl <;> decide +kernel
theorem auo (n : Nat) : tab (l6 n) 6 0 = l6 n := rfl
theorem al7 {n : Nat} (h : n / 18446744073709551616 / 18446744073709551616 / 18446744073709551616 / 18446744073709551616 / 18446744073709551616 / 18446744073709551616 = 0) :
    [UInt64.ofNat (n / 18446744073709551616), UInt64.ofNat (n / 18446744073709551616 / 18446744073709551616), UInt64.ofNat (n / 18446744073709551616 / 18446744073709551616 / 18446744073709551616),
      UInt64.ofNat (n / 18446744073709551616 / 18446744073709551616 / 18446744073709551616 / 18446744073709551616), UInt64.ofNat (n / 18446744073709551616 / 18446744073709551616 / 18446744073709551616 / 18446744073709551616 / 18446744073709551616), 0] = l6 (n / 18446744073709551616) := by
  unfold l6
  rw [h]
  rfl
theorem aur (a b : Nat) : lay (l6 a) (l6 b) 6 0 = l6 b := agl rfl rfl
theorem aiC (U : Nat) (neg : UInt64) : (List.getD (l6 U) 0 0 * neg).toNat = U * neg.toNat % 18446744073709551616 := by
  show (UInt64.ofNat U * neg).toNat = _
  rw [UInt64.toNat_mul, UInt64.toNat_ofNat', Nat.mul_mod, Nat.mod_mod, ← Nat.mul_mod]
theorem aaW (b : aa) (k : Nat) (hk : k < 4) (x0 x1 x2 x3 x5 x6 x7 x8 x9 x10 : UInt64) (x4 : Int) (c1 c2 : List UInt64) (T : Nat) (h1 : c1.length = 4) (hT : T < 2 * (aa.mk x0 x1 x2 x3).nat)
    (hn : ((aa.mk x0 x1 x2 x3).nat * x6.toNat + 1) % 18446744073709551616 = 0) (hp : 2 * (aa.mk x0 x1 x2 x3).nat ≤ 115792089237316195423570985008687907853269984665640564039457584007913129639936) (ha : (elemOf c1).nat < (aa.mk x0 x1 x2 x3).nat) :
    (KH b (k : Int) x0 x1 x2 x3 x4 x5 x6 x7 x8 x9 x10 c1 c2 (l6 T)).run = some (.inl (((), (), (), (), b, ((k + 1 : Nat) : Int), ()), ((x0, x1, x2, x3, x4, x5, x6, x7, x8, x9, x10, ()), c1, c2, l6 (Ci (aa.mk x0 x1 x2 x3).nat x6.toNat (elemOf c1).nat ((lst b).getD k 0).toNat T), ()))) := by
  have hlt := ql (b := ((lst b).getD k 0).toNat) hn hT ha (UInt64.toNat_lt _)
  have heq := qm (a := (elemOf c1).nat) (b := ((lst b).getD k 0).toNat) (t := T) hn
  have hrd : Ci (aa.mk x0 x1 x2 x3).nat x6.toNat (elemOf c1).nat ((lst b).getD k 0).toNat T = (T + (elemOf c1).nat * ((lst b).getD k 0).toNat + (aa.mk x0 x1 x2 x3).nat * ((T + (elemOf c1).nat * ((lst b).getD k 0).toNat) * x6.toNat % 18446744073709551616)) / 18446744073709551616 := rfl
  generalize hU : T + (elemOf c1).nat * ((lst b).getD k 0).toNat = U at heq hrd
  generalize hV : U + (aa.mk x0 x1 x2 x3).nat * (U * x6.toNat % 18446744073709551616) = V at heq hrd
  generalize Ci (aa.mk x0 x1 x2 x3).nat x6.toNat (elemOf c1).nat ((lst b).getD k 0).toNat T = S at *
  have hVU : U ≤ V := by rw [← hV]; exact Nat.le_add_right _ _
  have hz1 : lay (l6 T) (l6 (v6 (tab (l6 T) 6 0) + aa.nat { w0 := List.getD c1 0 0, w1 := List.getD c1 1 0, w2 := List.getD c1 2 0, w3 := List.getD c1 3 0 } * UInt64.toNat (List.getD [b.w0, b.w1, b.w2, b.w3] (Int.toNat (k : Int)) 0))) 6 0 = l6 U := by
    rw [auo, arP (by omega), aur, Int.toNat_natCast]
    exact congrArg l6 hU
  have hz3 : lay (l6 U) (l6 (v6 (tab (l6 U) 6 0) + aa.nat { w0 := x0, w1 := x1, w2 := x2, w3 := x3 } * UInt64.toNat (List.getD (l6 U) 0 0 * x6))) 6 0 = l6 V := by
    rw [auo, arP (by omega), aur, aiC, hV]
  have hsh : _ = l6 (V / 18446744073709551616) := al7 (n := V) (by omega)
  unfold KH
  simp only [hz1, hz3]
  refine (OT.ap (decide_eq_true (by omega))).trans ((al ?_).trans ?_)
  · simp only [ago, h1, List.all_cons, List.all_nil, Bool.and_true, Bool.and_eq_true]
    exact ⟨bD (by omega), rfl, rfl, rfl, rfl, rfl, rfl, rfl, rfl, rfl, rfl, rfl, rfl, bE (by omega)⟩
  · rw [hrd]
    exact congrArg (fun l => some (Sum.inl (((), (), (), (), b, ((k + 1 : Nat) : Int), ()), ((x0, x1, x2, x3, x4, x5, x6, x7, x8, x9, x10, ()), c1, c2, l, ())))) hsh
def ahU (s : ci) : aa := ⟨s.2.1.1, s.2.1.2.1, s.2.1.2.2.1, s.2.1.2.2.2.1⟩
def ard (s : ci) : UInt64 := s.2.1.2.2.2.2.2.2.1
def OK (s : ci) : Bool := decide (s.1.2.2.2.2.2.1 = 0 ∧ s.2.2.1.length = 4 ∧ s.2.2.2.2.1 = l6 0 ∧ ((ahU s).nat * (ard s).toNat + 1) % 18446744073709551616 = 0 ∧ 2 * (ahU s).nat ≤ 115792089237316195423570985008687907853269984665640564039457584007913129639936 ∧ (elemOf s.2.2.1).nat < (ahU s).nat)
def KG (s : ci) : km := (((), (), (), ()), (s.2.1, s.2.2.2.1, l6 (asz (ahU s).nat (ard s).toNat (elemOf s.2.2.1).nat s.1.2.2.2.2.1), ()))
theorem ame : ∀ s : ci, OK s = true → ∃ m e, aq vy m s = some e ∧ (BO KG s).run = some e := by
  rintro ⟨⟨⟨⟩, ⟨⟩, ⟨⟩, ⟨⟩, b, i, ⟨⟩⟩, ⟨⟨x0, x1, x2, x3, x4, x5, x6, x7, x8, x9, x10, ⟨⟩⟩, c1, c2, c3, ⟨⟩⟩⟩ h
  have h' := of_decide_eq_true h
  dsimp only [ahU, ard] at h'
  obtain ⟨rfl, h1, rfl, hn, hp, ha⟩ := h'
  have := (bP (T := vy) (fun k T => ((((), (), (), (), b, (k : Int), ()), ((x0, x1, x2, x3, x4, x5, x6, x7, x8, x9, x10, ()), c1, c2, l6 T, ())) : ci)) (fun k T => Ci (aa.mk x0 x1 x2 x3).nat x6.toNat (elemOf c1).nat ((lst b).getD k 0).toNat T)
    (fun T => (⟨(.exit 0, rl), (((), (), (), ()), ((x0, x1, x2, x3, x4, x5, x6, x7, x8, x9, x10, ()), c2, l6 T, ()))⟩ : aP)) 4 0 (fun _ T => T < 2 * (aa.mk x0 x1 x2 x3).nat) (by omega) (fun k T hk hT => ⟨?_, ?_⟩) (fun T hT => ?_)).1
  · obtain ⟨m, hm⟩ := this
    exact ⟨m, _, hm, rfl⟩
  · exact aaW b k hk x0 x1 x2 x3 x5 x6 x7 x8 x9 x10 x4 c1 c2 T h1 hT hn hp ha
  · exact ql hn hT ha (UInt64.toNat_lt _)
  · exact OT.aw (decide_eq_false (by dsimp only; omega))
def pi (x : H3) : Bool := iW x.1.1 && Nat.blt x.1.2.1.nat x.1.1.1.nat
def agL (x : H3) : OT iX.Y := .ok ⟨rk, ((ofN (x.1.2.1.nat * x.1.2.2.1.nat * akM x.1.1 % x.1.1.1.nat), ()), ())⟩
theorem amd : ac Tryz.prog 118 (iX.aH pi agL) := aaX OK KG ame _ _ fun x oy hp ho => by
  rw [← ho]
  clear ho
  obtain ⟨⟨⟨⟨m0, m1, m2, m3⟩, ad, sm, neg, sq⟩, a, b, ⟨⟩⟩, ⟨⟩⟩ := x
  have hp' : (iW (⟨m0, m1, m2, m3⟩, ad, sm, neg, sq) && Nat.blt a.nat (aa.mk m0 m1 m2 m3).nat) = true := hp
  rw [Bool.and_eq_true] at hp'
  obtain ⟨hg, ha⟩ := hp'
  have ha := cL ha
  have hn : ((aa.mk m0 m1 m2 m3).nat * neg.toNat + 1) % 18446744073709551616 = 0 := agF hg
  have h2 : 2 * (aa.mk m0 m1 m2 m3).nat ≤ 115792089237316195423570985008687907853269984665640564039457584007913129639936 := agD hg
  have hr : 115792089237316195423570985008687907853269984665640564039457584007913129639936 * akM (⟨m0, m1, m2, m3⟩, ad, sm, neg, sq) % (aa.mk m0 m1 m2 m3).nat = 1 % (aa.mk m0 m1 m2 m3).nat := agG hg
  have hM := alY (a := a.nat) (b := b) hn hr
  have hL := aql (b := b) hn ha
  refine (al ?_).trans ?_
  · simp only [List.all_cons, List.all_nil, Bool.and_true, Bool.and_eq_true]
    exact ⟨decide_eq_true ⟨rfl, rfl, rfl, hn, h2, ha⟩, rfl, rfl, rfl⟩
  · show _ = (OT.ok ⟨rk, ((ofN (a.nat * b.nat * akM (⟨m0, m1, m2, m3⟩, ad, sm, neg, sq) % (aa.mk m0 m1 m2 m3).nat), ()), ())⟩ : OT iX.Y).run
    rw [← hM, aqm hL]
    have e0 : KG (((), (), (), (), b, 0, ()), ((m0, m1, m2, m3, ad, sm, neg, sq.w0, sq.w1, sq.w2, sq.w3, ()), [a.w0, a.w1, a.w2, a.w3], [0, 0, 0, 0], [0, 0, 0, 0, 0, 0], ())) = (((), (), (), ()), ((m0, m1, m2, m3, ad, sm, neg, sq.w0, sq.w1, sq.w2, sq.w3, ()), [0, 0, 0, 0], l6 (asz (aa.mk m0 m1 m2 m3).nat neg.toNat a.nat b), ())) := rfl
    dsimp only
    rw [e0]
    clear e0 hM
    generalize asz (aa.mk m0 m1 m2 m3).nat neg.toNat a.nat b = M at *
    have e4 : List.getD (l6 M) 4 0 = 0 := by
      show UInt64.ofNat (M / 18446744073709551616 / 18446744073709551616 / 18446744073709551616 / 18446744073709551616) = 0
      rw [show M / 18446744073709551616 / 18446744073709551616 / 18446744073709551616 / 18446744073709551616 = 0 by omega]
      rfl
    refine (OT.aw (by rw [e4]; rfl)).trans ?_
    have eN : (ofN M).nat = M := ia (by omega)
    by_cases hlt : M < (aa.mk m0 m1 m2 m3).nat
    · rw [if_pos hlt]
      refine (OT.aw ?_).trans ((al rfl).trans rfl)
      show (!Nat.blt (ofN M).nat (aa.mk m0 m1 m2 m3).nat) = false
      rw [eN, show Nat.blt M (aa.mk m0 m1 m2 m3).nat = true from Nat.ble_eq_true_of_le hlt]
      rfl
    · rw [if_neg hlt]
      refine (OT.ap ?_).trans ((al rfl).trans ?_)
      · show (!Nat.blt (ofN M).nat (aa.mk m0 m1 m2 m3).nat) = true
        rw [eN]
        cases hb : Nat.blt M (aa.mk m0 m1 m2 m3).nat
        · rfl
        · exact absurd (cL hb) hlt
      · have ew : (lk (ofN M) (aa.mk m0 m1 m2 m3)).1 = ofN (M - (aa.mk m0 m1 m2 m3).nat) := by
          apply j7
          rw [mJ (by omega), eN, ia (by omega)]
        rw [← ew]
        rfl
def yO : cG := (iX.aH pi agL)
theorem SW : ac Tryz.prog 118 yO := amd
theorem SU : aK yO := aB
def FE : Env := aA 118 yO IX
theorem zI : aV Tryz.prog FE := ai SW wI
theorem A0 : ax FE := ae SU FZ
theorem Uk : aZ Tryz.prog te FE := aN follows au zI A0
def iY : av := ⟨[.val true (.prod .elem (.prod .int (.prod .u64 (.prod .u64 .elem)))), .val true .elem, .val true .elem], [], true, 0, false⟩
abbrev H6 : Type := (((aa × (Int × (UInt64 × (UInt64 × aa))))) × (aa) × (aa) × Unit) × (Unit)
def nn : az := ⟨[.val true .elem], [], false⟩
def OV : SV → Option az := fun _ => some nn
def tr (a0 : (aa × (Int × (UInt64 × (UInt64 × aa))))) (a1 : aa) (a2 : aa) : OT iY.Y :=
  let z0 : Bool := !a0.snd.snd.fst == (0 : UInt64)
  let z1 : Nat := aa.nat a0.fst
  let z2 : aa := ofN (aa.nat a1 % z1)
  let z3 : aa := ofN (aa.nat a2 % z1)
  let z4 : Nat := akM a0
  let z5 : aa := ofN (aa.nat z2 * aa.nat z3 * z4 % z1)
  (gd [gK ((a0, a1, ()), ()), gK ((a0, a2, ()), ())] (.br (z0)
  (gd [z0] (.ok ⟨nn, (({ w0 := z2.w0 * z3.w0 % a0.snd.snd.fst, w1 := 0, w2 := 0, w3 := 0 }, ()), ())⟩))
  (gd [pi ((a0, z2, z3, ()), ()), pi ((a0, z5, a0.snd.snd.snd.snd, ()), ())] (.ok ⟨nn, ((ofN (aa.nat z5 * aa.nat a0.snd.snd.snd.snd * z4 % z1), ()), ())⟩))))
theorem aqG (x : H6) (Q : iY.Y → Prop) : wpf te FE ay 1000 Tryz.f77 (iY.inp.inj x).tm (iY.inp.inj x).hp (fnK iY OV Q) (fun _ _ => False) = (tr (x.1.1) (x.1.2.1) (x.1.2.2.1)).wpR Q := by kernel_rfl
theorem aa9 (pre : H6 → Bool) (F : H6 → OT iY.Y) (hF : ∀ (x : H6) oy, pre x = true → (F x).run = some oy → (tr (x.1.1) (x.1.2.1) (x.1.2.2.1)).run = some oy) : ac Tryz.prog 77 (iY.aH pre F) :=
  aC au zI Uk (f := 77) (fn := Tryz.f77) (c := ao Tryz.f77) (by kernel_rfl) (by kernel_rfl) (by kernel_rfl) (S := iY) (k := 0) (by kernel_rfl) (fun R hR => af) (n := 1000) (sel := OV) (fun v o h => by cases h; rfl) (pre := pre) (F := F) (T := fun x => tr (x.1.1) (x.1.2.1) (x.1.2.2.1)) (fun x Q => aqG x Q) hF
theorem af8 {p A B r s : Nat} (h : r * s * r % p = 1 % p) : A * B * r % p * s * r % p = A * B % p := by
  have e : A * B * r * (s * r) = A * B * (r * s * r) := by
    rw [Nat.mul_assoc (A * B) r (s * r), Nat.mul_assoc r s r]
  rw [Nat.mul_assoc, Nat.mul_mod, Nat.mod_mod, ← Nat.mul_mod, e, Nat.mul_mod, h, ← Nat.mul_mod, Nat.mul_one]
theorem ama {n : LZ} (h : iW n = true) : akM n * n.2.2.2.2.nat * akM n % n.1.nat = 1 % n.1.nat := by
  rcases gJ h with rfl | rfl <;> decide +kernel
theorem asO : iW (bT 2) = true := by decide +kernel
theorem asN : iW (bT 3) = true := by decide +kernel
theorem agE {n : LZ} (h : iW n = true) : n0 n = true := by
  rcases gJ h with rfl | rfl <;> decide +kernel
theorem Ao {n : LZ} {a b : aa} {m : UInt64} (hn0 : n0 n = true) (h1 : n.1 = ⟨m, 0, 0, 0⟩) (h2 : n.2.2.1 = m) (hs : eY m = true) : (tr n a b).run = some ⟨nn, ((aR n.1.nat a b, ()), ())⟩ := by
  have hm := jF hs
  have hb' : m.toNat ≤ 16521217 := by rcases dw hs with rfl | rfl <;> decide
  have hn : n.1.nat = m.toNat := by rw [h1]; show m.toNat + _ * (0 + _ * (0 + _ * 0)) = _; omega
  have hz : (!(n.2.2.1 == 0)) = true := by
    rw [h2]
    rcases dw hs with rfl | rfl <;> rfl
  have ha := Nat.mod_lt a.nat hm
  have hb := Nat.mod_lt b.nat hm
  have hab : a.nat % m.toNat * (b.nat % m.toNat) < 18446744073709551616 := by
    have : a.nat % m.toNat * (b.nat % m.toNat) ≤ 16521217 * 16521217 := Nat.mul_le_mul (by omega) (by omega)
    omega
  have e : UInt64.ofNat (a.nat % m.toNat) * UInt64.ofNat (b.nat % m.toNat) % m = UInt64.ofNat (a.nat * b.nat % m.toNat) := by
    have hlt := Nat.mod_lt (a.nat * b.nat) hm
    rw [← UInt64.toNat_inj, UInt64.toNat_mod, UInt64.toNat_mul, UInt64.toNat_ofNat', UInt64.toNat_ofNat', UInt64.toNat_ofNat', Nat.mod_eq_of_lt (a := a.nat % m.toNat) (by omega), Nat.mod_eq_of_lt (a := b.nat % m.toNat) (by omega),
      Nat.mod_eq_of_lt (a := a.nat % m.toNat * (b.nat % m.toNat)) (by omega), Nat.mod_eq_of_lt (a := a.nat * b.nat % m.toNat) (by omega), ← Nat.mul_mod]
  have hlt := Nat.mod_lt (a.nat * b.nat) hm
  unfold tr
  refine (al ?_).trans ((OT.ap hz).trans ((al ?_).trans ?_))
  · simp only [List.all_cons, List.all_nil, Bool.and_true, Bool.and_eq_true]
    exact ⟨hn0, hn0⟩
  · simp only [hz, List.all_cons, List.all_nil, Bool.and_true]
  · unfold aR
    rw [hn, oY (n := a.nat * b.nat % m.toNat) (by omega), ← e]
    show some (⟨nn, ((⟨UInt64.ofNat (a.nat % m.toNat) * UInt64.ofNat (b.nat % m.toNat) % n.2.2.1, 0, 0, 0⟩, ()), ())⟩ : iY.Y) = _
    rw [h2]
theorem Eh {n : LZ} {a b : aa} (h : iW n = true) (h2 : n.2.2.1 = 0) : (tr n a b).run = some ⟨nn, ((aR n.1.nat a b, ()), ())⟩ := by
  have hn0 := agE h
  have hp := vh hn0
  have hz : (!(n.2.2.1 == 0)) = false := by rw [h2]; rfl
  have e1 : (ofN (a.nat % n.1.nat)).nat = a.nat % n.1.nat := cH hp
  have e2 : (ofN (b.nat % n.1.nat)).nat = b.nat % n.1.nat := cH hp
  have e3 : (ofN (a.nat % n.1.nat * (b.nat % n.1.nat) * akM n % n.1.nat)).nat = a.nat % n.1.nat * (b.nat % n.1.nat) * akM n % n.1.nat := cH hp
  unfold tr
  refine (al ?_).trans ((OT.aw hz).trans ((al ?_).trans ?_))
  · simp only [List.all_cons, List.all_nil, Bool.and_true, Bool.and_eq_true]
    exact ⟨hn0, hn0⟩
  · simp only [List.all_cons, List.all_nil, Bool.and_true, Bool.and_eq_true, pi, h, true_and, e1, e2, e3]
    exact ⟨Nat.ble_eq_true_of_le (Nat.mod_lt _ hp.1), Nat.ble_eq_true_of_le (Nat.mod_lt _ hp.1)⟩
  · simp only [e1, e2, e3, af8 (ama h), aR, ← Nat.mul_mod]
    rfl
def pn (x : H6) : Bool := n0 x.1.1
def agY (x : H6) : OT iY.Y := .ok ⟨nn, ((aR x.1.1.1.nat x.1.2.1 x.1.2.2.1, ()), ())⟩
theorem amk : ac Tryz.prog 77 (iY.aH pn agY) := aa9 _ _ fun x oy hp ho => by
  rw [← ho]
  clear ho
  obtain ⟨⟨n, a, b, ⟨⟩⟩, ⟨⟩⟩ := x
  have hp' : n0 n = true := hp
  rcases tc hp' with rfl | rfl | rfl | rfl
  · exact Ao hp' (m := 16513537) rfl rfl rfl
  · exact Ao hp' (m := 16521217) rfl rfl rfl
  · exact Eh asO rfl
  · exact Eh asN rfl
def yQ : cG := (iY.aH pn agY)
theorem S4 : ac Tryz.prog 77 yQ := amk
theorem S3 : aK yQ := aB
def FM : Env := aA 77 yQ FE
theorem zK : aV Tryz.prog FM := ai S4 zI
theorem A2 : ax FM := ae S3 A0
theorem Um : aZ Tryz.prog te FM := aN follows au zK A2
def pl : av := ⟨[.val false .int, .val true .elem, .val true .elem], [], true, 0, false⟩
abbrev aa8 : Type := ((Int) × (aa) × (aa) × Unit) × (Unit)
def Eg : az := ⟨[.val true .elem], [], false⟩
def Yi : SV → Option az := fun _ => some Eg
def agX (a0 : Int) (a1 : aa) (a2 : aa) : OT pl.Y :=
  let z0 : aa × Int × UInt64 × UInt64 × aa := bT (Int.toNat a0)
  (.br (ak a0)
  (gd [pn ((z0, a1, a2, ()), ())] (.ok ⟨Eg, ((aR (aa.nat z0.fst) a1 a2, ()), ())⟩))
  (.ok ⟨Eg, (({ w0 := 0, w1 := 0, w2 := 0, w3 := 0 }, ()), ())⟩))
theorem asZ (x : aa8) (Q : pl.Y → Prop) : wpf te FM ay 1000 Tryz.f42 (pl.inp.inj x).tm (pl.inp.inj x).hp (fnK pl Yi Q) (fun _ _ => False) = (agX (x.1.1) (x.1.2.1) (x.1.2.2.1)).wpR Q := by kernel_rfl
theorem agW (pre : aa8 → Bool) (F : aa8 → OT pl.Y) (hF : ∀ (x : aa8) oy, pre x = true → (F x).run = some oy → (agX (x.1.1) (x.1.2.1) (x.1.2.2.1)).run = some oy) : ac Tryz.prog 42 (pl.aH pre F) :=
  aC au zK Um (f := 42) (fn := Tryz.f42) (c := ao Tryz.f42) (by kernel_rfl) (by kernel_rfl) (by kernel_rfl) (S := pl) (k := 0) (by kernel_rfl) (fun R hR => af) (n := 1000) (sel := Yi) (fun v o h => by cases h; rfl) (pre := pre) (F := F) (T := fun x => agX (x.1.1) (x.1.2.1) (x.1.2.2.1)) (fun x Q => asZ x Q) hF
def Yj (_ : aa8) : Bool := true
def anD (x : aa8) : OT pl.Y := .br (ak x.1.1) (.ok ⟨Eg, ((aR (pS x.1.1) x.1.2.1 x.1.2.2.1, ()), ())⟩) (.ok ⟨Eg, ((⟨0, 0, 0, 0⟩, ()), ())⟩)
theorem aqF : ac Tryz.prog 42 (pl.aH Yj anD) := agW _ _ fun x oy hp ho => by
  rw [← ho]
  clear ho
  obtain ⟨⟨s, a, b, ⟨⟩⟩, ⟨⟩⟩ := x
  cases hs : ak s
  · exact (OT.aw hs).trans (OT.aw (b := ak s) hs).symm
  · refine (OT.ap hs).trans ((al ?_).trans (OT.ap (b := ak s) hs).symm)
    simp only [List.all_cons, List.all_nil, Bool.and_true]
    exact qX hs
def Ef : cG := (pl.aH Yj anD)
theorem aa7 : ac Tryz.prog 42 Ef := aqF
theorem aa6 : aK Ef := aB
def Qi : Env := aA 42 Ef FM
theorem FK : aV Tryz.prog Qi := ai aa7 zK
theorem FL : ax Qi := ae aa6 A2
theorem acd : aZ Tryz.prog te Qi := aN follows au FK FL
def kp : av := ⟨[.val true .elem], [], true, 0, false⟩
abbrev Ib : Type := ((aa) × Unit) × (Unit)
def KR : az := ⟨[.val true .elem], [], false⟩
def O1 : SV → Option az := fun _ => some KR
def S8 (a0 : aa) : OT kp.Y :=
  (.ok ⟨KR, (({ w0 := bA a0.w0 (1 : Int) ||| cA a0.w1 (63 : Int), w1 := bA a0.w1 (1 : Int) ||| cA a0.w2 (63 : Int), w2 := bA a0.w2 (1 : Int) ||| cA a0.w3 (63 : Int), w3 := bA a0.w3 (1 : Int) }, ()), ())⟩)
theorem aqK (x : Ib) (Q : kp.Y → Prop) : wpf te Qi ay 1000 Tryz.f138 (kp.inp.inj x).tm (kp.inp.inj x).hp (fnK kp O1 Q) (fun _ _ => False) = (S8 (x.1.1)).wpR Q := by kernel_rfl
theorem abk (pre : Ib → Bool) (F : Ib → OT kp.Y) (hF : ∀ (x : Ib) oy, pre x = true → (F x).run = some oy → (S8 (x.1.1)).run = some oy) : ac Tryz.prog 138 (kp.aH pre F) :=
  aC au FK acd (f := 138) (fn := Tryz.f138) (c := ao Tryz.f138) (by kernel_rfl) (by kernel_rfl) (by kernel_rfl) (S := kp) (k := 0) (by kernel_rfl) (fun R hR => af) (n := 1000) (sel := O1) (fun v o h => by cases h; rfl) (pre := pre) (F := F) (T := fun x => S8 (x.1.1)) (fun x Q => aqK x Q) hF
theorem DV (x y : UInt64) : (bA x 1 ||| cA y 63).toNat = x.toNat / 2 + 9223372036854775808 * (y.toNat % 2) := by
  have hx := x.toNat_lt
  have e1 : (bA x 1).toNat = x.toNat / 2 := gg x 1 (by omega)
  have e2 : (cA y 63).toNat = 9223372036854775808 * (y.toNat % 2) := by
    have := lC y 63 (by omega)
    have e : (cA y 63).toNat = y.toNat * 2 ^ 63 % 2 ^ 64 := this
    rw [e]
    omega
  rw [UInt64.toNat_or, e1, e2, Nat.or_comm]
  have := Nat.two_pow_add_eq_or_of_lt (i := 63) (b := x.toNat / 2) (by omega) (y.toNat % 2)
  rw [Nat.add_comm]
  exact this.symm
theorem DW (x N : Nat) : (x + 18446744073709551616 * N) / 2 = (x / 2 + 9223372036854775808 * (N % 2)) + 18446744073709551616 * (N / 2) := by
  omega
theorem SG (y N : Nat) : (y + 18446744073709551616 * N) % 2 = y % 2 := by
  omega
def fp (a : aa) : aa := ofN (a.nat / 2)
theorem X5 (a : aa) : fp a = ⟨bA a.w0 1 ||| cA a.w1 63, bA a.w1 1 ||| cA a.w2 63, bA a.w2 1 ||| cA a.w3 63, bA a.w3 1⟩ := by
  refine afQ (k := 0) ?_
  rw [DV, DV, DV, Nat.mul_zero, Nat.add_zero]
  unfold Sx.aa.nat
  have e3 : (bA a.w3 1).toNat = a.w3.toNat / 2 := gg a.w3 1 (by omega)
  rw [DW, SG, DW, SG, DW, e3]
def O2 (_ : Ib) : Bool := true
def S9 (x : Ib) : OT kp.Y := .ok ⟨KR, ((fp x.1.1, ()), ())⟩
theorem aml : ac Tryz.prog 138 (kp.aH O2 S9) := abk _ _ fun x oy hp ho => by
  rw [← ho]
  clear ho
  obtain ⟨⟨a, ⟨⟩⟩, ⟨⟩⟩ := x
  simp only [S9, X5]
  rfl
def yR : cG := (kp.aH O2 S9)
theorem S7 : ac Tryz.prog 138 yR := aml
theorem S6 : aK yR := aB
def zM : Env := aA 138 yR Qi
theorem rU : aV Tryz.prog zM := ai S7 FK
theorem A3 : ax zM := ae S6 FL
theorem FR : aZ Tryz.prog te zM := aN follows au rU A3
def ek : av := ⟨[.val true .elem, .val false .int], [], true, 0, false⟩
abbrev rq : Type := ((aa) × (Int) × Unit) × (Unit)
def mn : Shape := ⟨12, [(2, .ptr 0 0 0), (4, .ptr 1 0 0), (5, .val false .int), (6, .val false .int)], [(0, .row .u64), (1, .row .u64)], 0, true⟩
abbrev bN : Type := ((Unit) × (Unit) × (Int) × (Int) × Unit) × ((List (UInt64)) × (List (UInt64)) × Unit)
def la : Shape := ⟨12, [(2, .ptr 0 0 0), (4, .ptr 1 0 0)], [(0, .row .u64), (1, .row .u64)], 0, true⟩
abbrev gL : Type := ((Unit) × (Unit) × Unit) × ((List (UInt64)) × (List (UInt64)) × Unit)
def H9 : SE → Option Shape := jr [(0, la)] none
def abj (a5 : Int) (a6 : Int) (c0 : List (UInt64)) (c1 : List (UInt64)) : OT (Sum bN aP) :=
  let z0 : Nat := List.length c0
  let z1 : aa := fp { w0 := List.getD c0 0 0, w1 := List.getD c0 1 0, w2 := List.getD c0 2 0, w3 := List.getD c0 3 0 }
  (.br (decide (a6 < a5))
  (gd [decide (4 ≤ z0), decide ((4 / 1 : Nat) + 0 ≤ z0), inR (a6 + (1 : Int))] (.ok (.inl (((), ((), (a5, (a6 + (1 : Int), ())))), (List.set (List.set (List.set (List.set c0 0 z1.w0) 1 z1.w1) 2 z1.w2) 3 z1.w3, (c1, ()))))))
  (.ok (.inr ⟨(.exit 0, la), (((), ((), ())), (c0, (c1, ())))⟩)))
def mq (s : bN) : OT (Sum bN aP) := abj (s.1.2.2.1) (s.1.2.2.2.1) (s.2.1) (s.2.2.1)
theorem abg (s : bN) (Q : Sum bN aP → Prop) : wps te zM ay 1000 (bF (ao Tryz.f136) 0) (mn.inj s) (cQ mn H9 (Q : Sum mn.T aP → Prop)) = (mq s).wpR Q := by kernel_rfl
def rp (g0_0 : bN → gL) (s : bN) : OT aP := (.ok ⟨(.exit 0, la), g0_0 s⟩)
def mo : az := ⟨[.val true .elem], [], false⟩
def En : SV → Option az := fun _ => some mo
def Er (ok0 : bN → Bool) (g0_0 : bN → gL) (a0 : aa) (a1 : Int) : OT ek.Y :=
  let z0 : (PUnit × PUnit × Int × Int × PUnit) × List UInt64 × List UInt64 × PUnit := (((), (), a1, (0 : Int), ()), [a0.w0, a0.w1, a0.w2, a0.w3], [(0 : UInt64), (0 : UInt64), (0 : UInt64), (0 : UInt64)], ())
  let z1 := (g0_0 z0).snd
  let z2 := z1.fst
  let z3 := z1.snd.fst
  let z4 : List UInt64 := lay z3 z2 4 (0 : UInt64)
  (gd [ok0 z0, decide (4 ≤ List.length z2), decide ((4 / 1 : Nat) + 0 ≤ List.length z3), decide (4 ≤ List.length z4)] (.ok ⟨mo, (({ w0 := List.getD z4 0 0, w1 := List.getD z4 1 0, w2 := List.getD z4 2 0, w3 := List.getD z4 3 0 }, ()), ())⟩))
theorem ag3 (ok0 : bN → Bool) (g0_0 : bN → gL) (x : rq) (Q : ek.Y → Prop) : wpf te zM (bg 0 (di mn 0 ok0 (rp g0_0)) ay) 1000 Tryz.f136 (ek.inp.inj x).tm (ek.inp.inj x).hp (fnK ek En Q) (fun _ _ => False) = (Er ok0 g0_0 (x.1.1) (x.1.2.1)).wpR Q := by kernel_rfl
theorem OZ (ok0 : bN → Bool) (g0_0 : bN → gL) (h0 : ∀ s : bN, ok0 s = true → ∃ m e, aq (mq) m s = some e ∧ (rp g0_0 s).run = some e) (pre : rq → Bool) (F : rq → OT ek.Y) (hF : ∀ (x : rq) oy, pre x = true → (F x).run = some oy → (Er ok0 g0_0 (x.1.1) (x.1.2.1)).run = some oy) : ac Tryz.prog 136 (ek.aH pre F) :=
  aC au rU FR (f := 136) (fn := Tryz.f136) (c := ao Tryz.f136) (by kernel_rfl) (by kernel_rfl) (by kernel_rfl) (S := ek) (k := 0) (by kernel_rfl) (fun R hR => (aF (c := (ao Tryz.f136)) (by kernel_rfl) (id := 0) (by kernel_rfl) (bt au rU FR (sh := mn) hR (xs := H9) (aG (by kernel_rfl) (by kernel_rfl) hR) aW af (n := 1000) (T := mq) (fun s Q => abg s Q) (ok := ok0) (f := rp g0_0) h0) af)) (n := 1000) (sel := En) (fun v o h => by cases h; rfl) (pre := pre) (F := F) (T := fun x => Er ok0 g0_0 (x.1.1) (x.1.2.1)) (fun x Q => ag3 ok0 g0_0 x Q) hF
def eZ (a : aa) (n : Nat) : aa := ofN (a.nat / 2 ^ n)
theorem tn (a : aa) : ∀ n, upto (fun _ e => fp e) a n = eZ a n
  | 0 => by
    show a = ofN (a.nat / 2 ^ 0)
    rw [Nat.pow_zero, Nat.div_one, qW]
  | n + 1 => by
    show fp (upto (fun _ e => fp e) a n) = _
    rw [tn a n]
    unfold fp eZ
    have := gD a
    have h2 : a.nat / 2 ^ n ≤ a.nat := Nat.div_le_self _ _
    rw [ia (by omega), Nat.div_div_eq_div_mul, ← Nat.pow_succ]
def Ep (s : bN) : Bool := decide (s.1.2.2.2.1 = 0 ∧ 0 ≤ s.1.2.2.1 ∧ s.1.2.2.1 ≤ 1000000 ∧ s.2.1.length = 4)
def Ia (s : bN) : gL := (((), (), ()), (lst (eZ (elemOf s.2.1) s.1.2.2.1.toNat), s.2.2.1, ()))
theorem abi : ∀ s : bN, Ep s = true → ∃ m e, aq mq m s = some e ∧ (rp Ia s).run = some e := by
  rintro ⟨⟨⟨⟩, ⟨⟩, k, i, ⟨⟩⟩, ⟨l, o, ⟨⟩⟩⟩ h
  have h' := of_decide_eq_true h
  dsimp only at h'
  obtain ⟨rfl, h0, h1, hl⟩ := h'
  obtain ⟨a, rfl⟩ : ∃ a, l = lst a := ⟨elemOf l, (bl hl).symm⟩
  have := (bP (T := mq) (fun i a => ((((), (), k, (i : Int), ()), (lst a, o, ())) : bN)) (fun _ e => fp e)
    (fun a => (⟨(.exit 0, la), (((), (), ()), (lst a, o, ()))⟩ : aP)) k.toNat a (fun _ _ => True) trivial (fun i a hi _ => ⟨?_, trivial⟩) (fun a _ => ?_)).1
  · rw [tn] at this
    obtain ⟨m, hm⟩ := this
    exact ⟨m, _, hm, rfl⟩
  · refine (OT.ap (decide_eq_true (by dsimp only; omega))).trans ((al ?_).trans rfl)
    simp only [List.all_cons, List.all_nil, Bool.and_true, Bool.and_eq_true]
    exact ⟨rfl, rfl, bE (by omega)⟩
  · exact OT.aw (decide_eq_false (by dsimp only; omega))
def Eo (x : rq) : Bool := decide (0 ≤ x.1.2.1 ∧ x.1.2.1 ≤ 1000000)
def O0 (x : rq) : OT ek.Y := .ok ⟨mo, ((eZ x.1.1 x.1.2.1.toNat, ()), ())⟩
theorem abh : ac Tryz.prog 136 (ek.aH Eo O0) := OZ Ep Ia abi _ _ fun x oy hp ho => by
  rw [← ho]
  clear ho
  obtain ⟨⟨a, k, ⟨⟩⟩, ⟨⟩⟩ := x
  have hp' : 0 ≤ k ∧ k ≤ 1000000 := of_decide_eq_true hp
  refine (al ?_).trans ?_
  · simp only [List.all_cons, List.all_nil, Bool.and_true, Bool.and_eq_true]
    exact ⟨decide_eq_true ⟨rfl, hp'.1, hp'.2, rfl⟩, rfl, rfl, rfl⟩
  · show some (⟨mo, ((elemOf (lay [0, 0, 0, 0] (lst (eZ a k.toNat)) 4 0), ()), ())⟩ : ek.Y) = some ⟨mo, ((eZ a k.toNat, ()), ())⟩
    rw [arv _ _ rfl rfl]
    rfl
def px : cG := (ek.aH Eo O0)
theorem KQ : ac Tryz.prog 136 px := abh
theorem KP : aK px := aB
def mG : Env := aA 136 px zM
theorem lg : aV Tryz.prog mG := ai KQ rU
theorem ss : ax mG := ae KP A3
theorem wH : aZ Tryz.prog te mG := aN follows au lg ss
end Go.Proofs.YtohjofabochgfaaGreat

namespace Go.Proofs.YtohjofabochgfaaGreat
open Sx Go
def cp (k : aa) : Bool := (k.w0 == 0 && (k.w1 == 0 && (k.w2 == 0 && (k.w3 == 0 && true))))
def atA (k : aa) : Bool := (k.w0 &&& 1 == 1)
theorem fq (k : aa) : cp k = Nat.beq k.nat 0 := by
  unfold cp Sx.aa.nat
  have e : ∀ x : UInt64, (x == 0) = decide (x.toNat = 0) := fun x => by
    by_cases h : x = 0
    · subst h; rfl
    · have h' : ¬ x.toNat = 0 := fun h' => h (UInt64.toNat_inj.1 h')
      rw [decide_eq_false h']
      simpa using h
  rw [e, e, e, e]
  generalize k.w0.toNat = a
  generalize k.w1.toNat = b
  generalize k.w2.toNat = c
  generalize k.w3.toNat = d
  by_cases h : a = 0 ∧ b = 0 ∧ c = 0 ∧ d = 0
  · obtain ⟨rfl, rfl, rfl, rfl⟩ := h
    rfl
  · have h1 : ¬ (a + 18446744073709551616 * (b + 18446744073709551616 * (c + 18446744073709551616 * d)) = 0) := fun h1 => h (by omega)
    have h2 : Nat.beq (a + 18446744073709551616 * (b + 18446744073709551616 * (c + 18446744073709551616 * d))) 0 = false := by
      cases hb : Nat.beq (a + 18446744073709551616 * (b + 18446744073709551616 * (c + 18446744073709551616 * d))) 0
      · rfl
      · exact absurd (Nat.eq_of_beq_eq_true hb) h1
    rw [h2]
    by_cases ha : a = 0
    · by_cases hb : b = 0
      · by_cases hc : c = 0
        · have hd : ¬ d = 0 := fun hd => h ⟨ha, hb, hc, hd⟩
          simp [hd]
        · simp [hc]
      · simp [hb]
    · simp [ha]
theorem alM (k : aa) : atA k = Nat.beq (k.nat % 2) 1 := by
  have e : (k.w0 &&& 1).toNat = k.w0.toNat % 2 := by
    rw [UInt64.toNat_and]
    exact Nat.and_two_pow_sub_one_eq_mod k.w0.toNat 1
  have e2 : k.nat % 2 = k.w0.toNat % 2 := by
    unfold Sx.aa.nat
    rw [SG]
  rw [e2, ← e]
  unfold atA
  by_cases h : k.w0 &&& 1 = 1
  · rw [h]; rfl
  · have h' : ¬ (k.w0 &&& 1).toNat = 1 := fun h' => h (UInt64.toNat_inj.1 h')
    have h2 : Nat.beq (k.w0 &&& 1).toNat 1 = false := by
      cases hb : Nat.beq (k.w0 &&& 1).toNat 1
      · rfl
      · exact absurd (Nat.eq_of_beq_eq_true hb) h'
    rw [h2]
    simpa using h
theorem OD (k : aa) : (fp k).nat = k.nat / 2 := by
  have := gD k
  exact ia (by omega)
def alB (p : Nat) : Nat → aa → aa → aa → aa
  | 0, o, _, _ => o
  | n + 1, o, x, k => cond (cp k) o (alB p n (cond (atA k) (aR p o x) o) (aR p x x) (fp k))
def ani (p : Nat) : Nat → Nat → Nat → Nat → Nat
  | 0, o, _, _ => o
  | n + 1, o, x, k => cond (Nat.beq k 0) o (ani p n (cond (Nat.beq (k % 2) 1) (o * x % p) o) (x * x % p) (k / 2))
theorem afz {p : Nat} (hp : 0 < p ∧ p < 57896044618658097711785492504343953926634992332820282019728792003956564819968) : ∀ (n : Nat) (o x k : aa), alB p n o x k = ofN (ani p n o.nat x.nat k.nat)
  | 0, o, x, k => (qW o).symm
  | n + 1, o, x, k => by
    have e : ∀ a b : aa, (aR p a b).nat = a.nat * b.nat % p := fun a b => cH hp
    simp only [alB, ani, fq, alM]
    cases Nat.beq k.nat 0
    · simp only [cond_false]
      rw [afz hp n, e, OD]
      cases Nat.beq (k.nat % 2) 1
      · rfl
      · simp only [cond_true, e]
    · simp only [cond_true]
      exact (qW o).symm
def wZ (p : Nat) (a k : aa) : aa := cond (Nat.beq p 0) ⟨0, 0, 0, 0⟩ (ofN (ani p 256 1 (a.nat % p) k.nat))
theorem KW {p : Nat} (hp : 0 < p) (a k : aa) : wZ p a k = ofN (ani p 256 1 (a.nat % p) k.nat) := by
  unfold wZ
  cases p with
  | zero => exact absurd hp (Nat.lt_irrefl _)
  | succ p => rfl
end Go.Proofs.YtohjofabochgfaaGreat

namespace Go.Proofs.YtohjofabochgfaaGreat
open Sx Go
set_option maxRecDepth 100000
def py : av := ⟨[.val false .int, .val true .elem, .val true .elem], [], true, 0, false⟩
abbrev abn : Type := ((Int) × (aa) × (aa) × Unit) × (Unit)
def Et : Shape := ⟨40, [(4, .ptr 0 0 0), (5, .ptr 1 0 0), (6, .ptr 2 0 0), (7, .ptr 3 0 0), (9, .ptr 4 0 0)], [(0, .row .u64), (1, .row .u64), (2, .row .u64), (3, .cells [.val false .u64, .val false .u64, .val false .u64, .val false .u64, .val false .int, .val false .u64, .val false .u64, .val false .u64, .val false .u64, .val false .u64, .val false .u64]), (4, .row .u64)], 0, true⟩
abbrev df : Type := ((Unit) × (Unit) × (Unit) × (Unit) × (Unit) × Unit) × ((List (UInt64)) × (List (UInt64)) × (List (UInt64)) × ((UInt64) × (UInt64) × (UInt64) × (UInt64) × (Int) × (UInt64) × (UInt64) × (UInt64) × (UInt64) × (UInt64) × (UInt64) × Unit) × (List (UInt64)) × Unit)
def vD : Shape := ⟨40, [(6, .ptr 0 0 0), (9, .ptr 1 0 0)], [(0, .row .u64), (1, .row .u64)], 0, true⟩
abbrev mr : Type := ((Unit) × (Unit) × Unit) × ((List (UInt64)) × (List (UInt64)) × Unit)
def ag4 : SE → Option Shape := jr [(0, vD)] none
def aqO (c0 : List (UInt64)) (c1 : List (UInt64)) (c2 : List (UInt64)) (c3_0 : UInt64) (c3_1 : UInt64) (c3_2 : UInt64) (c3_3 : UInt64) (c3_4 : Int) (c3_5 : UInt64) (c3_6 : UInt64) (c3_7 : UInt64) (c3_8 : UInt64) (c3_9 : UInt64) (c3_10 : UInt64) (c4 : List (UInt64)) : OT (Sum df aP) :=
  let z0 : Nat := List.length c1
  let z1 : Bool := decide (4 ≤ z0)
  let z2 : UInt64 := List.getD c1 0 0
  let z3 : UInt64 := List.getD c1 1 0
  let z4 : UInt64 := List.getD c1 2 0
  let z5 : UInt64 := List.getD c1 3 0
  let z6 : Nat := List.length c4
  let z7 : Nat := List.length c0
  let z8 : Bool := decide (4 ≤ z7)
  let z9 : aa := { w0 := c3_0, w1 := c3_1, w2 := c3_2, w3 := c3_3 }
  let z10 : aa × Int × UInt64 × UInt64 × aa := (z9, c3_4, c3_5, c3_6, { w0 := c3_7, w1 := c3_8, w2 := c3_9, w3 := c3_10 })
  let z11 : aa := { w0 := List.getD c4 0 0, w1 := List.getD c4 1 0, w2 := List.getD c4 2 0, w3 := List.getD c4 3 0 }
  let z12 : aa := { w0 := List.getD c0 0 0, w1 := List.getD c0 1 0, w2 := List.getD c0 2 0, w3 := List.getD c0 3 0 }
  let z13 : aa × PUnit := (z12, ())
  let z14 : Bool := pn ((z10, z12, z13), ())
  let z15 : Bool := decide ((4 / 1 : Nat) + 0 ≤ z7)
  let z16 : Bool := decide ((4 / 1 : Nat) + 0 ≤ z0)
  let z17 : Nat := aa.nat z9
  let z18 : aa := aR z17 z12 z12
  let z19 : List UInt64 := List.set (List.set (List.set (List.set c0 0 z18.w0) 1 z18.w1) 2 z18.w2) 3 z18.w3
  let z20 : aa := fp { w0 := z2, w1 := z3, w2 := z4, w3 := z5 }
  let z21 : List UInt64 := List.set (List.set (List.set (List.set c1 0 z20.w0) 1 z20.w1) 2 z20.w2) 3 z20.w3
  let z22 : aa := aR z17 z11 z12
  (gd [z1] (.br (!(z2 == (0 : UInt64) && (z3 == (0 : UInt64) && (z4 == (0 : UInt64) && (z5 == (0 : UInt64) && true)))))
  (gd [decide (0 < z0)] (.br (z2 &&& (1 : UInt64) == (1 : UInt64))
    (gd [decide (4 ≤ z6), z8, pn ((z10, z11, z13), ()), decide ((4 / 1 : Nat) + 0 ≤ z6), z8, z8, z14, z15, z1, z16] (.ok (.inl (((), ((), ((), ((), ((), ()))))), (z19, (z21, (c2, ((c3_0, (c3_1, (c3_2, (c3_3, (c3_4, (c3_5, (c3_6, (c3_7, (c3_8, (c3_9, (c3_10, ()))))))))))), (List.set (List.set (List.set (List.set c4 0 z22.w0) 1 z22.w1) 2 z22.w2) 3 z22.w3, ())))))))))
    (gd [z8, z8, z14, z15, z1, z16] (.ok (.inl (((), ((), ((), ((), ((), ()))))), (z19, (z21, (c2, ((c3_0, (c3_1, (c3_2, (c3_3, (c3_4, (c3_5, (c3_6, (c3_7, (c3_8, (c3_9, (c3_10, ()))))))))))), (c4, ())))))))))))
  (.ok (.inr ⟨(.exit 0, vD), (((), ((), ())), (c2, (c4, ())))⟩))))
def Ev (s : df) : OT (Sum df aP) := aqO (s.2.1) (s.2.2.1) (s.2.2.2.1) (s.2.2.2.2.1.1) (s.2.2.2.2.1.2.1) (s.2.2.2.2.1.2.2.1) (s.2.2.2.2.1.2.2.2.1) (s.2.2.2.2.1.2.2.2.2.1) (s.2.2.2.2.1.2.2.2.2.2.1) (s.2.2.2.2.1.2.2.2.2.2.2.1) (s.2.2.2.2.1.2.2.2.2.2.2.2.1) (s.2.2.2.2.1.2.2.2.2.2.2.2.2.1) (s.2.2.2.2.1.2.2.2.2.2.2.2.2.2.1) (s.2.2.2.2.1.2.2.2.2.2.2.2.2.2.2.1) (s.2.2.2.2.2.1)
theorem aqL (s : df) (Q : Sum df aP → Prop) : wps te mG ay 1000 (bF (ao Tryz.f137) 0) (Et.inj s) (cQ Et ag4 (Q : Sum Et.T aP → Prop)) = (Ev s).wpR Q := by kernel_rfl
def KT (g0_0 : df → mr) (s : df) : OT aP := (.ok ⟨(.exit 0, vD), g0_0 s⟩)
def Eu : az := ⟨[.val true .elem], [], false⟩
def Yq : SV → Option az := fun _ => some Eu
def ag8 (ok0 : df → Bool) (g0_0 : df → mr) (a0 : Int) (a1 : aa) (a2 : aa) : OT py.Y :=
  let z0 : aa × Int × UInt64 × UInt64 × aa := bT (Int.toNat a0)
  let z1 := z0.fst
  let z2 : aa := ofN (aa.nat a1 % aa.nat z1)
  let z3 := z0.snd
  let z4 := z3.snd
  let z5 := z4.snd
  let z6 := z5.snd
  let z7 : (PUnit × PUnit × PUnit × PUnit × PUnit × PUnit) × List UInt64 × List UInt64 × List UInt64 × (UInt64 × UInt64 × UInt64 × UInt64 × Int × UInt64 × UInt64 × UInt64 × UInt64 × UInt64 × UInt64 × PUnit) × List UInt64 × PUnit := (((), (), (), (), (), ()), [z2.w0, z2.w1, z2.w2, z2.w3], [a2.w0, a2.w1, a2.w2, a2.w3], [(0 : UInt64), (0 : UInt64), (0 : UInt64), (0 : UInt64)], (z1.w0, z1.w1, z1.w2, z1.w3, z3.fst, z4.fst, z5.fst, z6.w0, z6.w1, z6.w2, z6.w3, ()), [(1 : UInt64), (0 : UInt64), (0 : UInt64), (0 : UInt64)], ())
  let z8 := (g0_0 z7).snd
  let z9 := z8.snd.fst
  let z10 := z8.fst
  let z11 : List UInt64 := lay z10 z9 4 (0 : UInt64)
  (.br (ak a0)
  (gd [gK ((z0, a1, ()), ()), ok0 z7, decide (4 ≤ List.length z9), decide ((4 / 1 : Nat) + 0 ≤ List.length z10), decide (4 ≤ List.length z11)] (.ok ⟨Eu, (({ w0 := List.getD z11 0 0, w1 := List.getD z11 1 0, w2 := List.getD z11 2 0, w3 := List.getD z11 3 0 }, ()), ())⟩))
  (.ok ⟨Eu, (({ w0 := 0, w1 := 0, w2 := 0, w3 := 0 }, ()), ())⟩))
theorem as2 (ok0 : df → Bool) (g0_0 : df → mr) (x : abn) (Q : py.Y → Prop) : wpf te mG (bg 0 (di Et 0 ok0 (KT g0_0)) ay) 1000 Tryz.f137 (py.inp.inj x).tm (py.inp.inj x).hp (fnK py Yq Q) (fun _ _ => False) = (ag8 ok0 g0_0 (x.1.1) (x.1.2.1) (x.1.2.2.1)).wpR Q := by kernel_rfl
theorem ag5 (ok0 : df → Bool) (g0_0 : df → mr) (h0 : ∀ s : df, ok0 s = true → ∃ m e, aq (Ev) m s = some e ∧ (KT g0_0 s).run = some e) (pre : abn → Bool) (F : abn → OT py.Y) (hF : ∀ (x : abn) oy, pre x = true → (F x).run = some oy → (ag8 ok0 g0_0 (x.1.1) (x.1.2.1) (x.1.2.2.1)).run = some oy) : ac Tryz.prog 137 (py.aH pre F) :=
  aC au lg wH (f := 137) (fn := Tryz.f137) (c := ao Tryz.f137) (by kernel_rfl) (by kernel_rfl) (by kernel_rfl) (S := py) (k := 0) (by kernel_rfl) (fun R hR => (aF (c := (ao Tryz.f137)) (by kernel_rfl) (id := 0) (by kernel_rfl) (bt au lg wH (sh := Et) hR (xs := ag4) (aG (by kernel_rfl) (by kernel_rfl) hR) aW af (n := 1000) (T := Ev) (fun s Q => aqL s Q) (ok := ok0) (f := KT g0_0) h0) af)) (n := 1000) (sel := Yq) (fun v o h => by cases h; rfl) (pre := pre) (F := F) (T := fun x => ag8 ok0 g0_0 (x.1.1) (x.1.2.1) (x.1.2.2.1)) (fun x Q => as2 ok0 g0_0 x Q) hF
theorem ag6 {x0 x1 x2 x3 x5 x6 x7 x8 x9 x10 : UInt64} {x4 : Int} {c2 : List UInt64} (hn : n0 (⟨x0, x1, x2, x3⟩, x4, x5, x6, ⟨x7, x8, x9, x10⟩) = true) : ∀ (n : Nat) (o x k : aa), k.nat < 2 ^ n →
    ∃ m, aq Ev m (((), (), (), (), (), ()), (lst x, lst k, c2, (x0, x1, x2, x3, x4, x5, x6, x7, x8, x9, x10, ()), lst o, ())) = some ⟨(.exit 0, vD), (((), (), ()), (c2, lst (alB (aa.mk x0 x1 x2 x3).nat n o x k), ()))⟩ := by
  intro n
  induction n with
  | zero =>
    intro o x k hk
    have hz : (!cp k) = false := by
      rw [fq, show k.nat = 0 by omega]
      rfl
    exact ⟨1, aL ((al rfl).trans (OT.aw hz))⟩
  | succ n ih =>
    intro o x k hk
    cases hz : cp k
    · have hk2 : (fp k).nat < 2 ^ n := by
        rw [OD]
        rw [Nat.pow_succ] at hk
        omega
      have hz' : (!cp k) = true := by rw [hz]; rfl
      cases ho : atA k
      · obtain ⟨m, hm⟩ := ih o (aR (aa.mk x0 x1 x2 x3).nat x x) (fp k) hk2
        simp only [alB, hz, ho, cond_false]
        refine ⟨m + 1, aM ?_ hm⟩
        refine (al rfl).trans ((OT.ap hz').trans ((al rfl).trans ((OT.aw ho).trans ((al ?_).trans rfl))))
        simp only [List.all_cons, List.all_nil, Bool.and_true, Bool.and_eq_true]
        exact ⟨rfl, rfl, hn, rfl, rfl, rfl⟩
      · obtain ⟨m, hm⟩ := ih (aR (aa.mk x0 x1 x2 x3).nat o x) (aR (aa.mk x0 x1 x2 x3).nat x x) (fp k) hk2
        simp only [alB, hz, ho, cond_false, cond_true]
        refine ⟨m + 1, aM ?_ hm⟩
        refine (al rfl).trans ((OT.ap hz').trans ((al rfl).trans ((OT.ap ho).trans ((al ?_).trans rfl))))
        simp only [List.all_cons, List.all_nil, Bool.and_true, Bool.and_eq_true]
        exact ⟨rfl, rfl, hn, rfl, rfl, rfl, hn, rfl, rfl, rfl⟩
    · simp only [alB, hz, cond_true]
      have hz' : (!cp k) = false := by rw [hz]; rfl
      exact ⟨1, aL ((al rfl).trans (OT.aw hz'))⟩
def aua (s : df) : LZ := (⟨s.2.2.2.2.1.1, s.2.2.2.2.1.2.1, s.2.2.2.2.1.2.2.1, s.2.2.2.2.1.2.2.2.1⟩, s.2.2.2.2.1.2.2.2.2.1, s.2.2.2.2.1.2.2.2.2.2.1, s.2.2.2.2.1.2.2.2.2.2.2.1, ⟨s.2.2.2.2.1.2.2.2.2.2.2.2.1, s.2.2.2.2.1.2.2.2.2.2.2.2.2.1, s.2.2.2.2.1.2.2.2.2.2.2.2.2.2.1, s.2.2.2.2.1.2.2.2.2.2.2.2.2.2.2.1⟩)
def KS (s : df) : Bool := n0 (aua s) && decide (s.2.1.length = 4 ∧ s.2.2.1.length = 4 ∧ s.2.2.2.2.2.1.length = 4)
def ag7 (s : df) : mr := (((), (), ()), (s.2.2.2.1, lst (alB (aua s).1.nat 256 (elemOf s.2.2.2.2.2.1) (elemOf s.2.1) (elemOf s.2.2.1)), ()))
theorem aqN : ∀ s : df, KS s = true → ∃ m e, aq Ev m s = some e ∧ (KT ag7 s).run = some e := by
  rintro ⟨⟨⟨⟩, ⟨⟩, ⟨⟩, ⟨⟩, ⟨⟩, ⟨⟩⟩, ⟨c0, c1, c2, ⟨x0, x1, x2, x3, x4, x5, x6, x7, x8, x9, x10, ⟨⟩⟩, c4, ⟨⟩⟩⟩ h
  simp only [KS, Bool.and_eq_true, decide_eq_true_eq, aua] at h
  obtain ⟨hn, h0, h1, h4⟩ := h
  obtain ⟨x, rfl⟩ : ∃ a, c0 = lst a := ⟨elemOf c0, (bl h0).symm⟩
  obtain ⟨k, rfl⟩ : ∃ a, c1 = lst a := ⟨elemOf c1, (bl h1).symm⟩
  obtain ⟨o, rfl⟩ : ∃ a, c4 = lst a := ⟨elemOf c4, (bl h4).symm⟩
  obtain ⟨m, hm⟩ := ag6 (c2 := c2) hn 256 o x k (gD k)
  exact ⟨m, _, hm, rfl⟩
def Yr (_ : abn) : Bool := true
def anG (x : abn) : OT py.Y := .br (ak x.1.1) (.ok ⟨Eu, ((wZ (pS x.1.1) x.1.2.1 x.1.2.2.1, ()), ())⟩) (.ok ⟨Eu, ((⟨0, 0, 0, 0⟩, ()), ())⟩)
theorem amm {p : Nat} (hp : 0 < p ∧ p < 57896044618658097711785492504343953926634992332820282019728792003956564819968) (a k : aa) : elemOf (lay [0, 0, 0, 0] (lst (alB p 256 ⟨1, 0, 0, 0⟩ (ofN (a.nat % p)) k)) 4 0) = wZ p a k := by
  rw [arv _ _ rfl rfl, abz, afz hp, cH hp, KW hp.1]
  rfl
theorem aqM : ac Tryz.prog 137 (py.aH Yr anG) := ag5 KS ag7 aqN _ _ fun x oy hp ho => by
  rw [← ho]
  clear ho
  obtain ⟨⟨s, a, k, ⟨⟩⟩, ⟨⟩⟩ := x
  cases hs : ak s
  · exact (OT.aw hs).trans (OT.aw (b := ak s) hs).symm
  · have hn := qX hs
    have hfin := amm (fx hs) a k
    have hn2 : n0 (bT s.toNat) = true := hn
    refine (OT.ap hs).trans (Eq.trans ?_ (OT.ap (b := ak s) hs).symm)
    simp only [← hfin]
    refine (al ?_).trans rfl
    simp only [List.all_cons, List.all_nil, Bool.and_true, Bool.and_eq_true]
    refine ⟨hn, ?_, rfl, rfl, rfl⟩
    show (n0 _ && decide _) = true
    rw [Bool.and_eq_true]
    exact ⟨hn, decide_eq_true ⟨rfl, rfl, rfl⟩⟩
def Es : cG := (py.aH Yr anG)
theorem abm : ac Tryz.prog 137 Es := aqM
theorem abl : aK Es := aB
def Qk : Env := aA 137 Es mG
theorem FT : aV Tryz.prog Qk := ai abm lg
theorem FV : ax Qk := ae abl ss
theorem acf : aZ Tryz.prog te Qk := aN follows au FT FV
def pv : av := ⟨[.val false .int, .val true .elem], [], true, 0, false⟩
abbrev abf : Type := ((Int) × (aa) × Unit) × (Unit)
def pu : az := ⟨[.val true .elem, .val false .int], [], false⟩
def Yo : SV → Option az := fun _ => some pu
def ag2 (a0 : Int) (a1 : aa) : OT pv.Y :=
  let z0 : Bool := ak a0
  let z1 : aa × Int × UInt64 × UInt64 × aa := bT (Int.toNat a0)
  let z2 := z1.fst
  let z3 : aa := ofN (aa.nat a1 % aa.nat z2)
  let z4 : aa := { w0 := 0, w1 := 0, w2 := 0, w3 := 0 }
  (.br (z0)
  (gd [gK ((z1, a1, ()), ())] (.br (z3.w0 == (0 : UInt64) && (z3.w1 == (0 : UInt64) && (z3.w2 == (0 : UInt64) && (z3.w3 == (0 : UInt64) && true))))
    (.ok ⟨pu, ((z4, ((10 : Int), ())), ())⟩)
    (.br (z0)
      (.ok ⟨pu, ((wZ (pS a0) a1 (lk z2 { w0 := 2, w1 := 0, w2 := 0, w3 := 0 }).fst, ((0 : Int), ())), ())⟩)
      (.ok ⟨pu, ((z4, ((0 : Int), ())), ())⟩))))
  (.ok ⟨pu, ((z4, ((20 : Int), ())), ())⟩))
theorem as1 (x : abf) (Q : pv.Y → Prop) : wpf te Qk ay 1000 Tryz.f121 (pv.inp.inj x).tm (pv.inp.inj x).hp (fnK pv Yo Q) (fun _ _ => False) = (ag2 (x.1.1) (x.1.2.1)).wpR Q := by kernel_rfl
theorem ag1 (pre : abf → Bool) (F : abf → OT pv.Y) (hF : ∀ (x : abf) oy, pre x = true → (F x).run = some oy → (ag2 (x.1.1) (x.1.2.1)).run = some oy) : ac Tryz.prog 121 (pv.aH pre F) :=
  aC au FT acf (f := 121) (fn := Tryz.f121) (c := ao Tryz.f121) (by kernel_rfl) (by kernel_rfl) (by kernel_rfl) (S := pv) (k := 0) (by kernel_rfl) (fun R hR => af) (n := 1000) (sel := Yo) (fun v o h => by cases h; rfl) (pre := pre) (F := F) (T := fun x => ag2 (x.1.1) (x.1.2.1)) (fun x Q => as1 x Q) hF
def aiy (p : Nat) (a : aa) : aa := ofN (ani p 256 1 (a.nat % p) (p - 2))
theorem ank {s : Int} (h : ak s = true) : 2 ≤ pS s := by
  rcases cr h with rfl | rfl | rfl | rfl <;> decide +kernel
theorem agq {s : Int} (h : ak s = true) (a : aa) : wZ (pS s) a (lk (bT s.toNat).1 ⟨2, 0, 0, 0⟩).1 = aiy (pS s) a := by
  rw [KW (fx h).1]
  unfold aiy
  have h2 : 2 ≤ (bT s.toNat).1.nat := ank h
  rw [mJ (show (aa.mk 2 0 0 0).nat ≤ _ from h2)]
  rfl
theorem Us {p : Nat} (hp : 0 < p ∧ p < 57896044618658097711785492504343953926634992332820282019728792003956564819968) (n : Nat) : cp (ofN (n % p)) = Nat.beq (n % p) 0 := by
  rw [fq, cH hp]
def Yp (_ : abf) : Bool := true
def anF (x : abf) : OT pv.Y := .br (ak x.1.1) (.br (Nat.beq (x.1.2.1.nat % pS x.1.1) 0) (.ok ⟨pu, ((⟨0, 0, 0, 0⟩, ((10 : Int), ())), ())⟩) (.ok ⟨pu, ((aiy (pS x.1.1) x.1.2.1, ((0 : Int), ())), ())⟩))
  (.ok ⟨pu, ((⟨0, 0, 0, 0⟩, ((20 : Int), ())), ())⟩)
theorem aqJ : ac Tryz.prog 121 (pv.aH Yp anF) := ag1 _ _ fun x oy hp ho => by
  rw [← ho]
  clear ho
  obtain ⟨⟨s, a, ⟨⟩⟩, ⟨⟩⟩ := x
  cases hs : ak s
  · exact (OT.aw hs).trans (OT.aw (b := ak s) hs).symm
  · have hz : cp (ofN (a.nat % pS s)) = Nat.beq (a.nat % pS s) 0 := Us (fx hs) _
    refine (OT.ap hs).trans (Eq.trans ((al ?_).trans ?_) (OT.ap (b := ak s) hs).symm)
    · simp only [List.all_cons, List.all_nil, Bool.and_true]
      exact qX hs
    · cases hb : Nat.beq (a.nat % pS s) 0
      · rw [hb] at hz
        refine (OT.aw hz).trans ((OT.ap hs).trans (Eq.trans ?_ (OT.aw rfl).symm))
        simp only [agq hs]
      · rw [hb] at hz
        exact (OT.ap hz).trans (OT.ap rfl).symm
def El : cG := (pv.aH Yp anF)
theorem abe : ac Tryz.prog 121 El := aqJ
theorem abd : aK El := aB
def Qj : Env := aA 121 El Qk
theorem FP : aV Tryz.prog Qj := ai abe FT
theorem FQ : ax Qj := ae abd FV
theorem ace : aZ Tryz.prog te Qj := aN follows au FP FQ
def gS : av := ⟨[.val false .int], [], true, 0, false⟩
abbrev yZ : Type := ((Int) × Unit) × (Unit)
def gR : az := ⟨[.val true .elem, .val false .bool], [], false⟩
def It : SV → Option az := fun _ => some gR
def Ld (a0 : Int) : OT gS.Y :=
  let z0 : aa := { w0 := 5, w1 := 0, w2 := 0, w3 := 0 }
  let z1 : aa := { w0 := 0, w1 := 0, w2 := 0, w3 := 0 }
  (.br (a0 == (0 : Int))
  (.ok ⟨gR, (({ w0 := 23, w1 := 0, w2 := 0, w3 := 0 }, (true, ())), ())⟩)
  (.br (a0 == (1 : Int))
    (.ok ⟨gR, (({ w0 := 21, w1 := 0, w2 := 0, w3 := 0 }, (true, ())), ())⟩)
    (.br (a0 == (2 : Int))
      (.br (a0 == (2 : Int))
        (.ok ⟨gR, ((z0, (true, ())), ())⟩)
        (.ok ⟨gR, ((z1, (false, ())), ())⟩))
      (.br (a0 == (3 : Int))
        (.ok ⟨gR, ((z0, (true, ())), ())⟩)
        (.ok ⟨gR, ((z1, (false, ())), ())⟩)))))
theorem amI (x : yZ) (Q : gS.Y → Prop) : wpf te Qj ay 1000 Tryz.f85 (gS.inp.inj x).tm (gS.inp.inj x).hp (fnK gS It Q) (fun _ _ => False) = (Ld (x.1.1)).wpR Q := by kernel_rfl
theorem Tz (pre : yZ → Bool) (F : yZ → OT gS.Y) (hF : ∀ (x : yZ) oy, pre x = true → (F x).run = some oy → (Ld (x.1.1)).run = some oy) : ac Tryz.prog 85 (gS.aH pre F) :=
  aC au FP ace (f := 85) (fn := Tryz.f85) (c := ao Tryz.f85) (by kernel_rfl) (by kernel_rfl) (by kernel_rfl) (S := gS) (k := 0) (by kernel_rfl) (fun R hR => af) (n := 1000) (sel := It) (fun v o h => by cases h; rfl) (pre := pre) (F := F) (T := fun x => Ld (x.1.1)) (fun x Q => amI x Q) hF
def bOf : Nat → aa
  | 0 => ⟨23, 0, 0, 0⟩
  | 1 => ⟨21, 0, 0, 0⟩
  | _ => ⟨5, 0, 0, 0⟩
abbrev bS (s : Int) : aa := bOf s.toNat
def Iu (_ : yZ) : Bool := true
def YQ (x : yZ) : OT gS.Y := .br (ak x.1.1) (.ok ⟨gR, ((bS x.1.1, (true, ())), ())⟩) (.ok ⟨gR, ((⟨0, 0, 0, 0⟩, (false, ())), ())⟩)
theorem ahP : ac Tryz.prog 85 (gS.aH Iu YQ) := Tz _ _ fun x oy _ ho => by
  rw [← ho]
  clear ho
  obtain ⟨⟨s, ⟨⟩⟩, ⟨⟩⟩ := x
  cases hs : ak s
  · obtain ⟨h0, h1, h2, h3⟩ := qj hs
    exact (OT.aw h0).trans ((OT.aw h1).trans ((OT.aw h2).trans ((OT.aw h3).trans (OT.aw (b := ak s) hs).symm)))
  · rcases cr hs with h | h | h | h
    all_goals
      have h : s = _ := h
      subst h
      rfl
def tA : cG := (gS.aH Iu YQ)
theorem Pw : ac Tryz.prog 85 tA := ahP
theorem Pv : aK tA := aB
def wQ : Env := aA 85 tA Qj
theorem tY : aV Tryz.prog wQ := ai Pw FP
theorem wP : ax wQ := ae Pv FQ
theorem Qs : aZ Tryz.prog te wQ := aN follows au tY wP
def pJ : av := ⟨[], [], true, 0, false⟩
abbrev abP : Type := (Unit) × (Unit)
def Tt : az := ⟨[.val true (.prod .elem (.prod .elem .bool))], [], false⟩
def YN : SV → Option az := fun _ => some Tt
def ahJ : OT pJ.Y :=
  let z0 : aa := { w0 := 0, w1 := 0, w2 := 0, w3 := 0 }
  (.ok ⟨Tt, (((z0, z0, true), ()), ())⟩)
theorem atf (x : abP) (Q : pJ.Y → Prop) : wpf te wQ ay 1000 Tryz.f79 (pJ.inp.inj x).tm (pJ.inp.inj x).hp (fnK pJ YN Q) (fun _ _ => False) = (ahJ).wpR Q := by kernel_rfl
theorem ahI (pre : abP → Bool) (F : abP → OT pJ.Y) (hF : ∀ (x : abP) oy, pre x = true → (F x).run = some oy → (ahJ).run = some oy) : ac Tryz.prog 79 (pJ.aH pre F) :=
  aC au tY Qs (f := 79) (fn := Tryz.f79) (c := ao Tryz.f79) (by kernel_rfl) (by kernel_rfl) (by kernel_rfl) (S := pJ) (k := 0) (by kernel_rfl) (fun R hR => af) (n := 1000) (sel := YN) (fun v o h => by cases h; rfl) (pre := pre) (F := F) (T := fun x => ahJ) (fun x Q => atf x Q) hF
def aD : aa × (aa × Bool) := (⟨0, 0, 0, 0⟩, ⟨0, 0, 0, 0⟩, true)
def YO (_ : abP) : Bool := true
def anL (_ : abP) : OT pJ.Y := .ok ⟨Tt, ((aD, ()), ())⟩
theorem aq8 : ac Tryz.prog 79 (pJ.aH YO anL) := ahI _ _ fun x oy _ ho => ho
def EL : cG := (pJ.aH YO anL)
theorem abO : ac Tryz.prog 79 EL := aq8
theorem abN : aK EL := aB
def Qr : Env := aA 79 EL wQ
theorem F5 : aV Tryz.prog Qr := ai abO tY
theorem F6 : ax Qr := ae abN wP
theorem acj : aZ Tryz.prog te Qr := aN follows au F5 F6
def ku : av := ⟨[.val false .int, .val true .elem, .val true .elem], [], true, 0, false⟩
abbrev Is : Type := ((Int) × (aa) × (aa) × Unit) × (Unit)
def iw : az := ⟨[.val true .elem], [], false⟩
def Pu : SV → Option az := fun _ => some iw
def Tx (a0 : Int) (a1 : aa) (a2 : aa) : OT ku.Y :=
  let z0 : Bool := ak a0
  let z1 : Nat := pS a0
  let z2 : aa := { w0 := 0, w1 := 0, w2 := 0, w3 := 0 }
  let z3 : aa := n7 z1 z2 a2
  (.br (z0)
  (.br (z0)
    (.br (z0)
      (.ok ⟨iw, ((n7 z1 (aR z1 (aR z1 a1 a1) a1) a2, ()), ())⟩)
      (.ok ⟨iw, ((z2, ()), ())⟩))
    (.br (z0)
      (.ok ⟨iw, ((z3, ()), ())⟩)
      (.ok ⟨iw, ((z2, ()), ())⟩)))
  (.br (z0)
    (.br (z0)
      (.ok ⟨iw, ((n7 z1 (aR z1 z2 a1) a2, ()), ())⟩)
      (.ok ⟨iw, ((z2, ()), ())⟩))
    (.br (z0)
      (.ok ⟨iw, ((z3, ()), ())⟩)
      (.ok ⟨iw, ((z2, ()), ())⟩))))
theorem aq9 (x : Is) (Q : ku.Y → Prop) : wpf te Qr ay 1000 Tryz.f87 (ku.inp.inj x).tm (ku.inp.inj x).hp (fnK ku Pu Q) (fun _ _ => False) = (Tx (x.1.1) (x.1.2.1) (x.1.2.2.1)).wpR Q := by kernel_rfl
theorem abS (pre : Is → Bool) (F : Is → OT ku.Y) (hF : ∀ (x : Is) oy, pre x = true → (F x).run = some oy → (Tx (x.1.1) (x.1.2.1) (x.1.2.2.1)).run = some oy) : ac Tryz.prog 87 (ku.aH pre F) :=
  aC au F5 acj (f := 87) (fn := Tryz.f87) (c := ao Tryz.f87) (by kernel_rfl) (by kernel_rfl) (by kernel_rfl) (S := ku) (k := 0) (by kernel_rfl) (fun R hR => af) (n := 1000) (sel := Pu) (fun v o h => by cases h; rfl) (pre := pre) (F := F) (T := fun x => Tx (x.1.1) (x.1.2.1) (x.1.2.2.1)) (fun x Q => aq9 x Q) hF
def Bk (p : Nat) (x b : aa) : aa := n7 p (aR p (aR p x x) x) b
def EP (x : Is) : Bool := ak x.1.1
def ahO (x : Is) : OT ku.Y := .ok ⟨iw, ((Bk (pS x.1.1) x.1.2.1 x.1.2.2.1, ()), ())⟩
theorem amH : ac Tryz.prog 87 (ku.aH EP ahO) := abS _ _ fun x oy hp ho => by
  rw [← ho]
  clear ho
  obtain ⟨⟨s, a, b, ⟨⟩⟩, ⟨⟩⟩ := x
  have hs : ak s = true := hp
  exact (OT.ap hs).trans ((OT.ap hs).trans ((OT.ap hs).trans rfl))
def yY : cG := (ku.aH EP ahO)
theorem Tw : ac Tryz.prog 87 yY := amH
theorem Tv : aK yY := aB
def F7 : Env := aA 87 yY Qr
theorem zP : aV Tryz.prog F7 := ai Tw F5
theorem A6 : ax F7 := ae Tv F6
theorem Up : aZ Tryz.prog te F7 := aN follows au zP A6
def Bl : av := ⟨[.val false .int, .val true (.prod .elem (.prod .elem .bool))], [], true, 0, false⟩
abbrev arG : Type := ((Int) × ((aa × (aa × Bool))) × Unit) × (Unit)
def sc : az := ⟨[.val false .bool], [], false⟩
def ahz : SV → Option az := fun _ => some sc
def aq5 (a0 : Int) (a1 : (aa × (aa × Bool))) : OT Bl.Y :=
  let z0 : Bool := ak a0
  let z1 : Nat := aa.nat (bT (Int.toNat a0)).fst
  let z2 : aa := bS a0
  let z3 : Bool := EP ((a0, a1.fst, z2, ()), ())
  let z4 : Nat := pS a0
  let z5 : aa := aR z4 a1.snd.fst a1.snd.fst
  let z6 : aa := Bk z4 a1.fst z2
  let z7 := z6.w0
  let z8 := z6.w1
  let z9 := z6.w2
  let z10 := z6.w3
  (.br (z0)
  (.br (a1.snd.snd)
    (.ok ⟨sc, ((a1.fst.w0 == (0 : UInt64) && (a1.fst.w1 == (0 : UInt64) && (a1.fst.w2 == (0 : UInt64) && (a1.fst.w3 == (0 : UInt64) && true))) && (a1.snd.fst.w0 == (0 : UInt64) && (a1.snd.fst.w1 == (0 : UInt64) && (a1.snd.fst.w2 == (0 : UInt64) && (a1.snd.fst.w3 == (0 : UInt64) && true))) && (a1.snd.snd == true && true)), ()), ())⟩)
    (.br (z0)
      (.br (Nat.blt (aa.nat a1.fst) z1)
        (.br (Nat.blt (aa.nat a1.snd.fst) z1)
          (.br (z0)
            (gd [z3] (.ok ⟨sc, ((z5.w0 == z7 && (z5.w1 == z8 && (z5.w2 == z9 && (z5.w3 == z10 && true))), ()), ())⟩))
            (gd [z3] (.ok ⟨sc, (((0 : UInt64) == z7 && ((0 : UInt64) == z8 && ((0 : UInt64) == z9 && ((0 : UInt64) == z10 && true))), ()), ())⟩)))
          (.ok ⟨sc, ((false, ()), ())⟩))
        (.ok ⟨sc, ((false, ()), ())⟩))
      (.ok ⟨sc, ((false, ()), ())⟩)))
  (.ok ⟨sc, ((false, ()), ())⟩))
theorem at8 (x : arG) (Q : Bl.Y → Prop) : wpf te F7 ay 1000 Tryz.f47 (Bl.inp.inj x).tm (Bl.inp.inj x).hp (fnK Bl ahz Q) (fun _ _ => False) = (aq5 (x.1.1) (x.1.2.1)).wpR Q := by kernel_rfl
theorem amy (pre : arG → Bool) (F : arG → OT Bl.Y) (hF : ∀ (x : arG) oy, pre x = true → (F x).run = some oy → (aq5 (x.1.1) (x.1.2.1)).run = some oy) : ac Tryz.prog 47 (Bl.aH pre F) :=
  aC au zP Up (f := 47) (fn := Tryz.f47) (c := ao Tryz.f47) (by kernel_rfl) (by kernel_rfl) (by kernel_rfl) (S := Bl) (k := 0) (by kernel_rfl) (fun R hR => af) (n := 1000) (sel := ahz) (fun v o h => by cases h; rfl) (pre := pre) (F := F) (T := fun x => aq5 (x.1.1) (x.1.2.1)) (fun x Q => at8 x Q) hF
def eqE (a b : aa) : Bool := (a.w0 == b.w0 && (a.w1 == b.w1 && (a.w2 == b.w2 && (a.w3 == b.w3 && true))))
theorem ja {a b : aa} : eqE a b = true ↔ a = b := by
  obtain ⟨a0, a1, a2, a3⟩ := a
  obtain ⟨b0, b1, b2, b3⟩ := b
  simp [eqE]
theorem KY (a : aa) : eqE a a = true := ja.2 rfl
theorem aqZ (a b : aa) : eqE a b = Nat.beq a.nat b.nat := by
  cases h : eqE a b
  · cases hb : Nat.beq a.nat b.nat
    · rfl
    · rw [ja.2 (j7 (Nat.eq_of_beq_eq_true hb))] at h
      cases h
  · rw [ja.1 h]
    exact (Nat.beq_refl _).symm
abbrev Pt : Type := aa × (aa × Bool)
def onB (c : Int) (P : Pt) : Bool := cond (ak c) (cond P.2.2 (cp P.1 && (cp P.2.1 && (P.2.2 == true && true)))
  (cond (Nat.blt P.1.nat (pS c)) (cond (Nat.blt P.2.1.nat (pS c)) (eqE (aR (pS c) P.2.1 P.2.1) (Bk (pS c) P.1 (bS c))) false) false)) false
def ahA (_ : arG) : Bool := true
def atc (x : arG) : OT Bl.Y := .ok ⟨sc, ((onB x.1.1 x.1.2.1, ()), ())⟩
theorem atb : ac Tryz.prog 47 (Bl.aH ahA atc) := amy _ _ fun x oy _ ho => by
  rw [← ho]
  clear ho
  obtain ⟨⟨c, ⟨X, Y, i⟩, ⟨⟩⟩, ⟨⟩⟩ := x
  show _ = (OT.ok ⟨sc, ((onB c (X, Y, i), ()), ())⟩ : OT Bl.Y).run
  unfold onB
  cases hs : ak c
  · exact OT.aw hs
  · refine (OT.ap hs).trans ?_
    cases i
    · refine (OT.aw rfl).trans ((OT.ap hs).trans ?_)
      cases hx : Nat.blt X.nat (pS c)
      · exact OT.aw hx
      · refine (OT.ap hx).trans ?_
        cases hy : Nat.blt Y.nat (pS c)
        · exact OT.aw hy
        · refine (OT.ap hy).trans ((OT.ap hs).trans ((al ?_).trans rfl))
          simp only [List.all_cons, List.all_nil, Bool.and_true]
          exact hs
    · exact OT.ap rfl
theorem qV {c : Int} {P : Pt} (h : onB c P = true) : ak c = true := by
  unfold onB at h
  cases hs : ak c
  · rw [hs] at h; cases h
  · rfl
def K4 : cG := (Bl.aH ahA atc)
theorem ahB : ac Tryz.prog 47 K4 := atb
theorem ahy : aK K4 := aB
def aiw : Env := aA 47 K4 F7
theorem LP : aV Tryz.prog aiw := ai ahB zP
theorem IY : ax aiw := ae ahy A6
theorem aiv : aZ Tryz.prog te aiw := aN follows au LP IY
def gQ : av := ⟨[.val true (.prod .elem (.prod .elem .elem))], [], true, 0, false⟩
abbrev yX : Type := (((aa × (aa × aa))) × Unit) × (Unit)
def EK : az := ⟨[.val false .bool], [], false⟩
def Iq : SV → Option az := fun _ => some EK
def K9 (a0 : (aa × (aa × aa))) : OT gQ.Y :=
  (.ok ⟨EK, ((a0.snd.snd.w0 == (0 : UInt64) && (a0.snd.snd.w1 == (0 : UInt64) && (a0.snd.snd.w2 == (0 : UInt64) && (a0.snd.snd.w3 == (0 : UInt64) && true))), ()), ())⟩)
theorem amG (x : yX) (Q : gQ.Y → Prop) : wpf te aiw ay 1000 Tryz.f120 (gQ.inp.inj x).tm (gQ.inp.inj x).hp (fnK gQ Iq Q) (fun _ _ => False) = (K9 (x.1.1)).wpR Q := by kernel_rfl
theorem Tq (pre : yX → Bool) (F : yX → OT gQ.Y) (hF : ∀ (x : yX) oy, pre x = true → (F x).run = some oy → (K9 (x.1.1)).run = some oy) : ac Tryz.prog 120 (gQ.aH pre F) :=
  aC au LP aiv (f := 120) (fn := Tryz.f120) (c := ao Tryz.f120) (by kernel_rfl) (by kernel_rfl) (by kernel_rfl) (S := gQ) (k := 0) (by kernel_rfl) (fun R hR => af) (n := 1000) (sel := Iq) (fun v o h => by cases h; rfl) (pre := pre) (F := F) (T := fun x => K9 (x.1.1)) (fun x Q => amG x Q) hF
abbrev BX : Type := aa × (aa × aa)
def Ir (_ : yX) : Bool := true
def YM (x : yX) : OT gQ.Y := .ok ⟨EK, ((cp x.1.1.2.2, ()), ())⟩
theorem ahH : ac Tryz.prog 120 (gQ.aH Ir YM) := Tq _ _ fun x oy hp ho => by
  rw [← ho]
  rfl
def tz : cG := (gQ.aH Ir YM)
theorem Pp : ac Tryz.prog 120 tz := ahH
theorem Po : aK tz := aB
def wO : Env := aA 120 tz aiw
theorem tX : aV Tryz.prog wO := ai Pp LP
theorem wN : ax wO := ae Po IY
theorem Qq : aZ Tryz.prog te wO := aN follows au tX wN
def gN : av := ⟨[.val true (.prod .elem (.prod .elem .bool))], [], true, 0, false⟩
abbrev yU : Type := (((aa × (aa × Bool))) × Unit) × (Unit)
def vJ : az := ⟨[.val true (.prod .elem (.prod .elem .elem))], [], false⟩
def Ih : SV → Option az := fun _ => some vJ
def K0 (a0 : (aa × (aa × Bool))) : OT gN.Y :=
  let z0 : aa := { w0 := 0, w1 := 0, w2 := 0, w3 := 0 }
  (.br (a0.snd.snd)
  (.ok ⟨vJ, (((z0, z0, z0), ()), ())⟩)
  (.ok ⟨vJ, (((a0.fst, a0.snd.fst, { w0 := 1, w1 := 0, w2 := 0, w3 := 0 }), ()), ())⟩))
theorem amw (x : yU) (Q : gN.Y → Prop) : wpf te wO ay 1000 Tryz.f82 (gN.inp.inj x).tm (gN.inp.inj x).hp (fnK gN Ih Q) (fun _ _ => False) = (K0 (x.1.1)).wpR Q := by kernel_rfl
theorem Tk (pre : yU → Bool) (F : yU → OT gN.Y) (hF : ∀ (x : yU) oy, pre x = true → (F x).run = some oy → (K0 (x.1.1)).run = some oy) : ac Tryz.prog 82 (gN.aH pre F) :=
  aC au tX Qq (f := 82) (fn := Tryz.f82) (c := ao Tryz.f82) (by kernel_rfl) (by kernel_rfl) (by kernel_rfl) (S := gN) (k := 0) (by kernel_rfl) (fun R hR => af) (n := 1000) (sel := Ih) (fun v o h => by cases h; rfl) (pre := pre) (F := F) (T := fun x => K0 (x.1.1)) (fun x Q => amw x Q) hF
def eO (P : Pt) : BX := cond P.2.2 (⟨0, 0, 0, 0⟩, ⟨0, 0, 0, 0⟩, ⟨0, 0, 0, 0⟩) (P.1, P.2.1, ⟨1, 0, 0, 0⟩)
def Ii (_ : yU) : Bool := true
def YE (x : yU) : OT gN.Y := .ok ⟨vJ, ((eO x.1.1, ()), ())⟩
theorem aht : ac Tryz.prog 82 (gN.aH Ii YE) := Tk _ _ fun x oy hp ho => by
  rw [← ho]
  clear ho
  obtain ⟨⟨⟨X, Y, i⟩, ⟨⟩⟩, ⟨⟩⟩ := x
  cases i <;> rfl
def tv : cG := (gN.aH Ii YE)
theorem Pe : ac Tryz.prog 82 tv := aht
theorem Pd : aK tv := aB
def wK : Env := aA 82 tv wO
theorem tV : aV Tryz.prog wK := ai Pe tX
theorem wJ : ax wK := ae Pd wN
theorem Qm : aZ Tryz.prog te wK := aN follows au tV wJ
def pH : av := ⟨[.val false .int, .val true .elem, .val true .elem], [], true, 0, false⟩
abbrev abL : Type := ((Int) × (aa) × (aa) × Unit) × (Unit)
def K8 : az := ⟨[.val true .elem], [], false⟩
def YK : SV → Option az := fun _ => some K8
def ahF (a0 : Int) (a1 : aa) (a2 : aa) : OT pH.Y :=
  (.br (ak a0)
  (.ok ⟨K8, ((aR (pS a0) a1 a2, ()), ())⟩)
  (.ok ⟨K8, (({ w0 := 0, w1 := 0, w2 := 0, w3 := 0 }, ()), ())⟩))
theorem ate (x : abL) (Q : pH.Y → Prop) : wpf te wK ay 1000 Tryz.f122 (pH.inp.inj x).tm (pH.inp.inj x).hp (fnK pH YK Q) (fun _ _ => False) = (ahF (x.1.1) (x.1.2.1) (x.1.2.2.1)).wpR Q := by kernel_rfl
theorem ahE (pre : abL → Bool) (F : abL → OT pH.Y) (hF : ∀ (x : abL) oy, pre x = true → (F x).run = some oy → (ahF (x.1.1) (x.1.2.1) (x.1.2.2.1)).run = some oy) : ac Tryz.prog 122 (pH.aH pre F) :=
  aC au tV Qm (f := 122) (fn := Tryz.f122) (c := ao Tryz.f122) (by kernel_rfl) (by kernel_rfl) (by kernel_rfl) (S := pH) (k := 0) (by kernel_rfl) (fun R hR => af) (n := 1000) (sel := YK) (fun v o h => by cases h; rfl) (pre := pre) (F := F) (T := fun x => ahF (x.1.1) (x.1.2.1) (x.1.2.2.1)) (fun x Q => ate x Q) hF
def bx (x : abL) : Bool := ak x.1.1
def anK (x : abL) : OT pH.Y := .ok ⟨K8, ((aR (pS x.1.1) x.1.2.1 x.1.2.2.1, ()), ())⟩
theorem aq7 : ac Tryz.prog 122 (pH.aH bx anK) := ahE _ _ fun x oy hp ho => by
  rw [← ho]
  clear ho
  obtain ⟨⟨s, a, b, ⟨⟩⟩, ⟨⟩⟩ := x
  have hs : ak s = true := hp
  exact (OT.ap hs).trans rfl
def EJ : cG := (pH.aH bx anK)
theorem abK : ac Tryz.prog 122 EJ := aq7
theorem abJ : aK EJ := aB
def Qp : Env := aA 122 EJ wK
theorem F3 : aV Tryz.prog Qp := ai abK tV
theorem F4 : ax Qp := ae abJ wJ
theorem aci : aZ Tryz.prog te Qp := aN follows au F3 F4
def pE : av := ⟨[.val false .int, .val true .elem, .val true .elem], [], true, 0, false⟩
abbrev abD : Type := ((Int) × (aa) × (aa) × Unit) × (Unit)
def K2 : az := ⟨[.val true .elem], [], false⟩
def YG : SV → Option az := fun _ => some K2
def ahw (a0 : Int) (a1 : aa) (a2 : aa) : OT pE.Y :=
  (.br (ak a0)
  (.ok ⟨K2, ((e9 (pS a0) a1 a2, ()), ())⟩)
  (.ok ⟨K2, (({ w0 := 0, w1 := 0, w2 := 0, w3 := 0 }, ()), ())⟩))
theorem ata (x : abD) (Q : pE.Y → Prop) : wpf te Qp ay 1000 Tryz.f123 (pE.inp.inj x).tm (pE.inp.inj x).hp (fnK pE YG Q) (fun _ _ => False) = (ahw (x.1.1) (x.1.2.1) (x.1.2.2.1)).wpR Q := by kernel_rfl
theorem ahv (pre : abD → Bool) (F : abD → OT pE.Y) (hF : ∀ (x : abD) oy, pre x = true → (F x).run = some oy → (ahw (x.1.1) (x.1.2.1) (x.1.2.2.1)).run = some oy) : ac Tryz.prog 123 (pE.aH pre F) :=
  aC au F3 aci (f := 123) (fn := Tryz.f123) (c := ao Tryz.f123) (by kernel_rfl) (by kernel_rfl) (by kernel_rfl) (S := pE) (k := 0) (by kernel_rfl) (fun R hR => af) (n := 1000) (sel := YG) (fun v o h => by cases h; rfl) (pre := pre) (F := F) (T := fun x => ahw (x.1.1) (x.1.2.1) (x.1.2.2.1)) (fun x Q => ata x Q) hF
def gP (x : abD) : Bool := ak x.1.1
def anJ (x : abD) : OT pE.Y := .ok ⟨K2, ((e9 (pS x.1.1) x.1.2.1 x.1.2.2.1, ()), ())⟩
theorem aq4 : ac Tryz.prog 123 (pE.aH gP anJ) := ahv _ _ fun x oy hp ho => by
  rw [← ho]
  clear ho
  obtain ⟨⟨s, a, b, ⟨⟩⟩, ⟨⟩⟩ := x
  have hs : ak s = true := hp
  exact (OT.ap hs).trans rfl
def EF : cG := (pE.aH gP anJ)
theorem abC : ac Tryz.prog 123 EF := aq4
theorem abB : aK EF := aB
def Qo : Env := aA 123 EF Qp
theorem F0 : aV Tryz.prog Qo := ai abC F3
theorem F1 : ax Qo := ae abB F4
theorem ach : aZ Tryz.prog te Qo := aN follows au F0 F1
def gO : av := ⟨[.val false .int, .val true .elem, .val false .u64], [], true, 0, false⟩
abbrev yV : Type := ((Int) × (aa) × (UInt64) × Unit) × (Unit)
def EE : az := ⟨[.val true .elem], [], false⟩
def Ij : SV → Option az := fun _ => some EE
def K1 (a0 : Int) (a1 : aa) (a2 : UInt64) : OT gO.Y :=
  let z0 : aa := { w0 := a2, w1 := 0, w2 := 0, w3 := 0 }
  (gd [bx ((a0, a1, z0, ()), ())] (.ok ⟨EE, ((aR (pS a0) a1 z0, ()), ())⟩))
theorem amx (x : yV) (Q : gO.Y → Prop) : wpf te Qo ay 1000 Tryz.f124 (gO.inp.inj x).tm (gO.inp.inj x).hp (fnK gO Ij Q) (fun _ _ => False) = (K1 (x.1.1) (x.1.2.1) (x.1.2.2.1)).wpR Q := by kernel_rfl
theorem Tl (pre : yV → Bool) (F : yV → OT gO.Y) (hF : ∀ (x : yV) oy, pre x = true → (F x).run = some oy → (K1 (x.1.1) (x.1.2.1) (x.1.2.2.1)).run = some oy) : ac Tryz.prog 124 (gO.aH pre F) :=
  aC au F0 ach (f := 124) (fn := Tryz.f124) (c := ao Tryz.f124) (by kernel_rfl) (by kernel_rfl) (by kernel_rfl) (S := gO) (k := 0) (by kernel_rfl) (fun R hR => af) (n := 1000) (sel := Ij) (fun v o h => by cases h; rfl) (pre := pre) (F := F) (T := fun x => K1 (x.1.1) (x.1.2.1) (x.1.2.2.1)) (fun x Q => amx x Q) hF
def jD (p : Nat) (a : aa) (n : UInt64) : aa := aR p a ⟨n, 0, 0, 0⟩
def fW (x : yV) : Bool := ak x.1.1
def YF (x : yV) : OT gO.Y := .ok ⟨EE, ((jD (pS x.1.1) x.1.2.1 x.1.2.2.1, ()), ())⟩
theorem ahu : ac Tryz.prog 124 (gO.aH fW YF) := Tl _ _ fun x oy hp ho => by
  rw [← ho]
  clear ho
  obtain ⟨⟨s, a, b, ⟨⟩⟩, ⟨⟩⟩ := x
  have hs : ak s = true := hp
  refine (al ?_).trans rfl
  simp only [List.all_cons, List.all_nil, Bool.and_true]
  exact hs
def tx : cG := (gO.aH fW YF)
theorem Pg : ac Tryz.prog 124 tx := ahu
theorem Pf : aK tx := aB
def wM : Env := aA 124 tx Qo
theorem tW : aV Tryz.prog wM := ai Pg F0
theorem wL : ax wM := ae Pf F1
theorem Qn : aZ Tryz.prog te wM := aN follows au tW wL
def eo : av := ⟨[.val false .int, .val true (.prod .elem (.prod .elem .elem))], [], true, 0, false⟩
abbrev rv : Type := ((Int) × ((aa × (aa × aa))) × Unit) × (Unit)
def il : az := ⟨[.val true (.prod .elem (.prod .elem .bool))], [], false⟩
def EG : SV → Option az := fun _ => some il
def EH (a0 : Int) (a1 : (aa × (aa × aa))) : OT eo.Y :=
  let z0 : aa := { w0 := 0, w1 := 0, w2 := 0, w3 := 0 }
  let z1 : Nat := pS a0
  let z2 : aa × PUnit := (z0, ())
  let z3 : Bool := bx ((a0, z0, z2), ())
  let z4 : aa := aR z1 z0 z0
  let z5 : Bool := bx ((a0, a1.fst, z4, ()), ())
  let z6 : Bool := bx ((a0, z4, z2), ())
  let z7 : aa := aR z1 z4 z0
  let z8 : Bool := bx ((a0, a1.snd.fst, z7, ()), ())
  let z9 : aa × aa × Bool := (aR z1 a1.fst z4, aR z1 a1.snd.fst z7, false)
  let z10 : aa := aiy z1 a1.snd.snd
  let z11 : aa × PUnit := (z10, ())
  let z12 : aa := aR z1 z10 z10
  let z13 : aa := aR z1 z12 z10
  (.br (cp a1.snd.snd)
  (.ok ⟨il, (((z0, z0, true), ()), ())⟩)
  (.br (ak a0)
    (.br (Nat.beq (aa.nat a1.snd.snd % z1) 0)
      (gd [z3, z5, z6, z8] (.ok ⟨il, ((z9, ()), ())⟩))
      (gd [bx ((a0, z10, z11), ()), bx ((a0, a1.fst, z12, ()), ()), bx ((a0, z12, z11), ()), bx ((a0, a1.snd.fst, z13, ()), ())] (.ok ⟨il, (((aR z1 a1.fst z12, aR z1 a1.snd.fst z13, false), ()), ())⟩)))
    (gd [z3, z5, z6, z8] (.ok ⟨il, ((z9, ()), ())⟩))))
theorem ahC (x : rv) (Q : eo.Y → Prop) : wpf te wM ay 1000 Tryz.f80 (eo.inp.inj x).tm (eo.inp.inj x).hp (fnK eo EG Q) (fun _ _ => False) = (EH (x.1.1) (x.1.2.1)).wpR Q := by kernel_rfl
theorem Pk (pre : rv → Bool) (F : rv → OT eo.Y) (hF : ∀ (x : rv) oy, pre x = true → (F x).run = some oy → (EH (x.1.1) (x.1.2.1)).run = some oy) : ac Tryz.prog 80 (eo.aH pre F) :=
  aC au tW Qn (f := 80) (fn := Tryz.f80) (c := ao Tryz.f80) (by kernel_rfl) (by kernel_rfl) (by kernel_rfl) (S := eo) (k := 0) (by kernel_rfl) (fun R hR => af) (n := 1000) (sel := EG) (fun v o h => by cases h; rfl) (pre := pre) (F := F) (T := fun x => EH (x.1.1) (x.1.2.1)) (fun x Q => ahC x Q) hF
def ug (p : Nat) (a : aa) : aa := cond (Nat.beq (a.nat % p) 0) ⟨0, 0, 0, 0⟩ (aiy p a)
def Se (p : Nat) (x y i : aa) : Pt := (aR p x (aR p i i), aR p y (aR p (aR p i i) i), false)
def eW (p : Nat) (w : BX) : Pt := cond (cp w.2.2) aD (Se p w.1 w.2.1 (ug p w.2.2))
def kr (x : rv) : Bool := ak x.1.1
def Pl (x : rv) : OT eo.Y := .ok ⟨il, ((eW (pS x.1.1) x.1.2.1, ()), ())⟩
theorem abH : ac Tryz.prog 80 (eo.aH kr Pl) := Pk _ _ fun x oy hp ho => by
  rw [← ho]
  clear ho
  obtain ⟨⟨c, ⟨X, Y, Z⟩, ⟨⟩⟩, ⟨⟩⟩ := x
  have hs : ak c = true := hp
  show _ = (OT.ok ⟨il, ((eW (pS c) (X, Y, Z), ()), ())⟩ : OT eo.Y).run
  unfold eW
  dsimp only
  cases hz : cp Z
  · refine (OT.aw hz).trans ((OT.ap hs).trans ?_)
    unfold ug
    cases hb : Nat.beq (Z.nat % pS c) 0
    · refine (OT.aw rfl).trans ((al ?_).trans rfl)
      simp only [List.all_cons, List.all_nil, Bool.and_true, Bool.and_eq_true]
      exact ⟨hs, hs, hs, hs⟩
    · refine (OT.ap rfl).trans ((al ?_).trans rfl)
      simp only [List.all_cons, List.all_nil, Bool.and_true, Bool.and_eq_true]
      exact ⟨hs, hs, hs, hs⟩
  · exact OT.ap hz
def pG : cG := (eo.aH kr Pl)
theorem K7 : ac Tryz.prog 80 pG := abH
theorem K6 : aK pG := aB
def qe : Env := aA 80 pG wM
theorem qd : aV Tryz.prog qe := ai K7 tW
theorem su : ax qe := ae K6 wL
theorem LQ : aZ Tryz.prog te qe := aN follows au qd su
def eu : av := ⟨[.val false .int, .val true (.prod .elem (.prod .elem .elem))], [], true, 0, false⟩
abbrev rA : Type := ((Int) × ((aa × (aa × aa))) × Unit) × (Unit)
def mv : az := ⟨[.val true (.prod .elem (.prod .elem .elem))], [], false⟩
def EN : SV → Option az := fun _ => some mv
def EO (a0 : Int) (a1 : (aa × (aa × aa))) : OT eu.Y :=
  let z0 : Nat := pS a0
  let z1 : aa := aR z0 a1.snd.fst a1.snd.fst
  let z2 : aa × PUnit := (z1, ())
  let z3 : aa := aR z0 a1.fst z1
  let z4 : aa := aR z0 a1.fst a1.fst
  let z5 : aa := jD z0 z4 (3 : UInt64)
  let z6 : aa := jD z0 z3 (4 : UInt64)
  let z7 : UInt64 × PUnit := ((2 : UInt64), ())
  let z8 : aa := aR z0 z5 z5
  let z9 : aa := jD z0 z6 (2 : UInt64)
  let z10 : aa := e9 z0 z8 z9
  let z11 : aa := e9 z0 z6 z10
  let z12 : aa := aR z0 z1 z1
  let z13 : aa := aR z0 z5 z11
  let z14 : aa := jD z0 z12 (8 : UInt64)
  let z15 : aa := aR z0 a1.snd.fst a1.snd.snd
  (.br (cp a1.snd.snd)
  (.ok ⟨mv, ((a1, ()), ())⟩)
  (gd [bx ((a0, a1.snd.fst, a1.snd.fst, ()), ()), bx ((a0, a1.fst, z2), ()), fW ((a0, z3, (4 : UInt64), ()), ()), bx ((a0, a1.fst, a1.fst, ()), ()), fW ((a0, z4, (3 : UInt64), ()), ()), bx ((a0, z5, z5, ()), ()), fW ((a0, z6, z7), ()), gP ((a0, z8, z9, ()), ()), gP ((a0, z6, z10, ()), ()), bx ((a0, z5, z11, ()), ()), bx ((a0, z1, z2), ()), fW ((a0, z12, (8 : UInt64), ()), ()), gP ((a0, z13, z14, ()), ()), bx ((a0, a1.snd.fst, a1.snd.snd, ()), ()), fW ((a0, z15, z7), ())] (.ok ⟨mv, (((z10, e9 z0 z13 z14, jD z0 z15 (2 : UInt64)), ()), ())⟩)))
theorem ahN (x : rA) (Q : eu.Y → Prop) : wpf te qe ay 1000 Tryz.f83 (eu.inp.inj x).tm (eu.inp.inj x).hp (fnK eu EN Q) (fun _ _ => False) = (EO (x.1.1) (x.1.2.1)).wpR Q := by kernel_rfl
theorem Pq (pre : rA → Bool) (F : rA → OT eu.Y) (hF : ∀ (x : rA) oy, pre x = true → (F x).run = some oy → (EO (x.1.1) (x.1.2.1)).run = some oy) : ac Tryz.prog 83 (eu.aH pre F) :=
  aC au qd LQ (f := 83) (fn := Tryz.f83) (c := ao Tryz.f83) (by kernel_rfl) (by kernel_rfl) (by kernel_rfl) (S := eu) (k := 0) (by kernel_rfl) (fun R hR => af) (n := 1000) (sel := EN) (fun v o h => by cases h; rfl) (pre := pre) (F := F) (T := fun x => EO (x.1.1) (x.1.2.1)) (fun x Q => ahN x Q) hF
def at5 (p : Nat) (x y z : aa) : BX :=
  let yy := aR p y y
  let s := jD p (aR p x yy) 4
  let m := jD p (aR p x x) 3
  let x' := e9 p (aR p m m) (jD p s 2)
  (x', e9 p (aR p m (e9 p s x')) (jD p (aR p yy yy) 8), jD p (aR p y z) 2)
def Tj (p : Nat) (w : BX) : BX := cond (cp w.2.2) w (at5 p w.1 w.2.1 w.2.2)
def nt (x : rA) : Bool := ak x.1.1
def Ps (x : rA) : OT eu.Y := .ok ⟨mv, ((Tj (pS x.1.1) x.1.2.1, ()), ())⟩
theorem abR : ac Tryz.prog 83 (eu.aH nt Ps) := Pq _ _ fun x oy hp ho => by
  rw [← ho]
  clear ho
  obtain ⟨⟨c, ⟨X, Y, Z⟩, ⟨⟩⟩, ⟨⟩⟩ := x
  have hs : ak c = true := hp
  show _ = (OT.ok ⟨mv, ((Tj (pS c) (X, Y, Z), ()), ())⟩ : OT eu.Y).run
  unfold Tj
  dsimp only
  cases hz : cp Z
  · refine (OT.aw hz).trans ((al ?_).trans rfl)
    simp only [List.all_cons, List.all_nil, Bool.and_true, Bool.and_eq_true]
    exact ⟨hs, hs, hs, hs, hs, hs, hs, hs, hs, hs, hs, hs, hs, hs, hs⟩
  · exact OT.ap hz
def pK : cG := (eu.aH nt Ps)
theorem Lc : ac Tryz.prog 83 pK := abR
theorem Lb : aK pK := aB
def qg : Env := aA 83 pK qe
theorem qf : aV Tryz.prog qg := ai Lc qd
theorem sw : ax qg := ae Lb su
theorem LR : aZ Tryz.prog te qg := aN follows au qf sw
def jc : av := ⟨[.val false .int, .val true (.prod .elem (.prod .elem .elem)), .val true (.prod .elem (.prod .elem .elem))], [], true, 0, false⟩
abbrev Iv : Type := ((Int) × ((aa × (aa × aa))) × ((aa × (aa × aa))) × Unit) × (Unit)
def lb : az := ⟨[.val true (.prod .elem (.prod .elem .elem))], [], false⟩
def Px : SV → Option az := fun _ => some lb
def TF (a0 : Int) (a1 : (aa × (aa × aa))) (a2 : (aa × (aa × aa))) : OT jc.Y :=
  let z0 : aa × PUnit := (a1.snd.snd, ())
  let z1 : aa × PUnit := (a2.snd.snd, ())
  let z2 : Nat := pS a0
  let z3 : aa := aR z2 a2.snd.snd a2.snd.snd
  let z4 : aa := aR z2 a1.snd.snd a1.snd.snd
  let z5 : aa := aR z2 z3 a2.snd.snd
  let z6 : aa := aR z2 z4 a1.snd.snd
  let z7 : aa := aR z2 a2.fst z4
  let z8 : aa := aR z2 a1.fst z3
  let z9 : aa := aR z2 a2.snd.fst z6
  let z10 : aa := aR z2 a1.snd.fst z5
  let z11 : aa := e9 z2 z7 z8
  let z12 : aa := e9 z2 z9 z10
  let z13 : aa := { w0 := 0, w1 := 0, w2 := 0, w3 := 0 }
  let z14 : aa × PUnit := (z11, ())
  let z15 : aa := aR z2 z11 z11
  let z16 : aa := aR z2 z12 z12
  let z17 : aa := aR z2 z15 z11
  let z18 : aa × PUnit := (z17, ())
  let z19 : aa := aR z2 z8 z15
  let z20 : aa := e9 z2 z16 z17
  let z21 : aa := jD z2 z19 (2 : UInt64)
  let z22 : aa := e9 z2 z20 z21
  let z23 : aa := e9 z2 z19 z22
  let z24 : aa := aR z2 z12 z23
  let z25 : aa := aR z2 z10 z17
  let z26 : aa := aR z2 a1.snd.snd a2.snd.snd
  (.br (cp a1.snd.snd)
  (.ok ⟨lb, ((a2, ()), ())⟩)
  (.br (cp a2.snd.snd)
    (.ok ⟨lb, ((a1, ()), ())⟩)
    (gd [bx ((a0, a1.snd.snd, z0), ()), bx ((a0, a2.snd.snd, z1), ()), bx ((a0, a1.fst, z3, ()), ()), bx ((a0, a2.fst, z4, ()), ()), bx ((a0, z3, z1), ()), bx ((a0, a1.snd.fst, z5, ()), ()), bx ((a0, z4, z0), ()), bx ((a0, a2.snd.fst, z6, ()), ()), gP ((a0, z7, z8, ()), ()), gP ((a0, z9, z10, ()), ())] (.br (z11.w0 == (0 : UInt64) && (z11.w1 == (0 : UInt64) && (z11.w2 == (0 : UInt64) && (z11.w3 == (0 : UInt64) && true))))
      (.br (z12.w0 == (0 : UInt64) && (z12.w1 == (0 : UInt64) && (z12.w2 == (0 : UInt64) && (z12.w3 == (0 : UInt64) && true))))
        (gd [nt ((a0, a1, ()), ())] (.ok ⟨lb, ((Tj z2 a1, ()), ())⟩))
        (.ok ⟨lb, (((z13, z13, z13), ()), ())⟩))
      (gd [bx ((a0, z11, z14), ()), bx ((a0, z15, z14), ()), bx ((a0, z8, z15, ()), ()), bx ((a0, z12, z12, ()), ()), gP ((a0, z16, z18), ()), fW ((a0, z19, (2 : UInt64), ()), ()), gP ((a0, z20, z21, ()), ()), gP ((a0, z19, z22, ()), ()), bx ((a0, z12, z23, ()), ()), bx ((a0, z10, z18), ()), gP ((a0, z24, z25, ()), ()), bx ((a0, a1.snd.snd, z1), ()), bx ((a0, z11, z26, ()), ())] (.ok ⟨lb, (((z22, e9 z2 z24 z25, aR z2 z11 z26), ()), ())⟩))))))
theorem arc (x : Iv) (Q : jc.Y → Prop) : wpf te qg ay 1000 Tryz.f81 (jc.inp.inj x).tm (jc.inp.inj x).hp (fnK jc Px Q) (fun _ _ => False) = (TF (x.1.1) (x.1.2.1) (x.1.2.2.1)).wpR Q := by kernel_rfl
theorem abX (pre : Iv → Bool) (F : Iv → OT jc.Y) (hF : ∀ (x : Iv) oy, pre x = true → (F x).run = some oy → (TF (x.1.1) (x.1.2.1) (x.1.2.2.1)).run = some oy) : ac Tryz.prog 81 (jc.aH pre F) :=
  aC au qf LR (f := 81) (fn := Tryz.f81) (c := ao Tryz.f81) (by kernel_rfl) (by kernel_rfl) (by kernel_rfl) (S := jc) (k := 0) (by kernel_rfl) (fun R hR => af) (n := 1000) (sel := Px) (fun v o h => by cases h; rfl) (pre := pre) (F := F) (T := fun x => TF (x.1.1) (x.1.2.1) (x.1.2.2.1)) (fun x Q => arc x Q) hF
def aut (p : Nat) (u s h r Z1 Z2 : aa) : BX :=
  let hh := aR p h h
  let hhh := aR p hh h
  let c := aR p u hh
  let x := e9 p (e9 p (aR p r r) hhh) (jD p c 2)
  (x, e9 p (aR p r (e9 p c x)) (aR p s hhh), aR p h (aR p Z1 Z2))
def auh (p : Nat) (w : BX) (u s h r Z2 : aa) : BX := cond (cp h) (cond (cp r) (Tj p w) (⟨0, 0, 0, 0⟩, ⟨0, 0, 0, 0⟩, ⟨0, 0, 0, 0⟩)) (aut p u s h r w.2.2 Z2)
def atG (p : Nat) (w v : BX) : BX :=
  let pz := aR p w.2.2 w.2.2
  let qz := aR p v.2.2 v.2.2
  let u := aR p w.1 qz
  let s := aR p w.2.1 (aR p qz v.2.2)
  auh p w u s (e9 p (aR p v.1 pz) u) (e9 p (aR p v.2.1 (aR p pz w.2.2)) s) v.2.2
def PZ (p : Nat) (w v : BX) : BX := cond (cp w.2.2) v (cond (cp v.2.2) w (atG p w v))
def vN (x : Iv) : Bool := ak x.1.1
def ahT (x : Iv) : OT jc.Y := .ok ⟨lb, ((PZ (pS x.1.1) x.1.2.1 x.1.2.2.1, ()), ())⟩
theorem amK : ac Tryz.prog 81 (jc.aH vN ahT) := abX _ _ fun x oy hp ho => by
  rw [← ho]
  clear ho
  obtain ⟨⟨c, ⟨X, Y, Z⟩, ⟨X2, Y2, Z2⟩, ⟨⟩⟩, ⟨⟩⟩ := x
  have hs : ak c = true := hp
  show _ = (OT.ok ⟨lb, ((PZ (pS c) (X, Y, Z) (X2, Y2, Z2), ()), ())⟩ : OT jc.Y).run
  unfold PZ
  dsimp only
  cases hz : cp Z
  · refine (OT.aw hz).trans ?_
    cases hz2 : cp Z2
    · refine (OT.aw rfl).trans ((al ?_).trans ?_)
      · simp only [List.all_cons, List.all_nil, Bool.and_true, Bool.and_eq_true]
        exact ⟨hs, hs, hs, hs, hs, hs, hs, hs, hs, hs⟩
      · unfold atG auh
        dsimp only [cond_false]
        cases hh : cp (e9 (pS c) (aR (pS c) X2 (aR (pS c) Z Z)) (aR (pS c) X (aR (pS c) Z2 Z2)))
        · refine (OT.aw hh).trans ((al ?_).trans rfl)
          simp only [List.all_cons, List.all_nil, Bool.and_true, Bool.and_eq_true]
          exact ⟨hs, hs, hs, hs, hs, hs, hs, hs, hs, hs, hs, hs, hs⟩
        · refine (OT.ap hh).trans ?_
          dsimp only [cond_true]
          cases hr : cp (e9 (pS c) (aR (pS c) Y2 (aR (pS c) (aR (pS c) Z Z) Z)) (aR (pS c) Y (aR (pS c) (aR (pS c) Z2 Z2) Z2)))
          · exact OT.aw hr
          · refine (OT.ap hr).trans ((al ?_).trans rfl)
            simp only [List.all_cons, List.all_nil, Bool.and_true]
            exact hs
    · exact OT.ap rfl
  · exact OT.ap hz
def y6 : cG := (jc.aH vN ahT)
theorem TC : ac Tryz.prog 81 y6 := amK
theorem TB : aK y6 := aB
def F9 : Env := aA 81 y6 qg
theorem zQ : aV Tryz.prog F9 := ai TC qf
theorem A7 : ax F9 := ae TB sw
theorem Uq : aZ Tryz.prog te F9 := aN follows au zQ A7
def nX : av := ⟨[.val false .int, .val true (.prod .elem (.prod .elem .bool)), .val true (.prod .elem (.prod .elem .bool))], [], true, 0, false⟩
abbrev abW : Type := ((Int) × ((aa × (aa × Bool))) × ((aa × (aa × Bool))) × Unit) × (Unit)
def y0 : az := ⟨[.val true (.prod .elem (.prod .elem .bool))], [], false⟩
def YT : SV → Option az := fun _ => some y0
def ahS (a0 : Int) (a1 : (aa × (aa × Bool))) (a2 : (aa × (aa × Bool))) : OT nX.Y :=
  let z0 : aa := { w0 := 0, w1 := 0, w2 := 0, w3 := 0 }
  let z1 : aa × aa × Bool := (z0, z0, true)
  let z2 : aa × aa × aa := eO a1
  let z3 : aa × aa × aa := eO a2
  let z4 : Nat := pS a0
  let z5 : aa × aa × aa := PZ z4 z2 z3
  (.br (!onB a0 a1)
  (.ok ⟨y0, ((z1, ()), ())⟩)
  (.br (!onB a0 a2)
    (.ok ⟨y0, ((z1, ()), ())⟩)
    (gd [vN ((a0, z2, z3, ()), ()), kr ((a0, z5, ()), ())] (.ok ⟨y0, ((eW z4 z5, ()), ())⟩))))
theorem ath (x : abW) (Q : nX.Y → Prop) : wpf te F9 ay 1000 Tryz.f44 (nX.inp.inj x).tm (nX.inp.inj x).hp (fnK nX YT Q) (fun _ _ => False) = (ahS (x.1.1) (x.1.2.1) (x.1.2.2.1)).wpR Q := by kernel_rfl
theorem ahR (pre : abW → Bool) (F : abW → OT nX.Y) (hF : ∀ (x : abW) oy, pre x = true → (F x).run = some oy → (ahS (x.1.1) (x.1.2.1) (x.1.2.2.1)).run = some oy) : ac Tryz.prog 44 (nX.aH pre F) :=
  aC au zQ Uq (f := 44) (fn := Tryz.f44) (c := ao Tryz.f44) (by kernel_rfl) (by kernel_rfl) (by kernel_rfl) (S := nX) (k := 0) (by kernel_rfl) (fun R hR => af) (n := 1000) (sel := YT) (fun v o h => by cases h; rfl) (pre := pre) (F := F) (T := fun x => ahS (x.1.1) (x.1.2.1) (x.1.2.2.1)) (fun x Q => ath x Q) hF
def eG (c : Int) (P Q : Pt) : Pt := cond (onB c P) (cond (onB c Q) (eW (pS c) (PZ (pS c) (eO P) (eO Q))) aD) aD
def YU (_ : abW) : Bool := true
def anN (x : abW) : OT nX.Y := .ok ⟨y0, ((eG x.1.1 x.1.2.1 x.1.2.2.1, ()), ())⟩
theorem arb : ac Tryz.prog 44 (nX.aH YU anN) := ahR _ _ fun x oy _ ho => by
  rw [← ho]
  clear ho
  obtain ⟨⟨c, P, Q, ⟨⟩⟩, ⟨⟩⟩ := x
  show _ = (OT.ok ⟨y0, ((eG c P Q, ()), ())⟩ : OT nX.Y).run
  rcases (Bool.eq_false_or_eq_true (onB c P)).symm with h1 | h1
  · have e : eG c P Q = aD := by unfold eG; rw [h1]; rfl
    rw [e]
    exact OT.ap (b := !onB c P) (by rw [h1]; rfl)
  · have hs := qV h1
    refine (OT.aw (b := !onB c P) (by rw [h1]; rfl)).trans ?_
    rcases (Bool.eq_false_or_eq_true (onB c Q)).symm with h2 | h2
    · have e : eG c P Q = aD := by unfold eG; rw [h1, h2]; rfl
      rw [e]
      exact OT.ap (b := !onB c Q) (by rw [h2]; rfl)
    · have e : eG c P Q = eW (pS c) (PZ (pS c) (eO P) (eO Q)) := by unfold eG; rw [h1, h2]; rfl
      rw [e]
      refine (OT.aw (b := !onB c Q) (by rw [h2]; rfl)).trans ((al ?_).trans rfl)
      simp only [List.all_cons, List.all_nil, Bool.and_true, Bool.and_eq_true]
      exact ⟨hs, hs⟩
def EQ : cG := (nX.aH YU anN)
theorem abV : ac Tryz.prog 44 EQ := arb
theorem abU : aK EQ := aB
def I0 : Env := aA 44 EQ F9
theorem wR : aV Tryz.prog I0 := ai abV zQ
theorem F8 : ax I0 := ae abU A7
theorem IZ : aZ Tryz.prog te I0 := aN follows au wR F8
def jb : av := ⟨[.val false .int, .val true .elem, .val true (.prod .elem (.prod .elem .bool))], [], true, 0, false⟩
abbrev Ip : Type := ((Int) × (aa) × ((aa × (aa × Bool))) × Unit) × (Unit)
def vK : Shape := ⟨39, [(4, .ptr 0 0 0), (5, .ptr 1 0 0), (6, .ptr 2 0 0), (7, .val false .int), (8, .ptr 3 0 0), (9, .val false .int)], [(0, .row .u64), (1, .cells [.val false .u64, .val false .u64, .val false .u64, .val false .u64, .val false .u64, .val false .u64, .val false .u64, .val false .u64, .val false .bool]), (2, .cells [.val false .u64, .val false .u64, .val false .u64, .val false .u64, .val false .u64, .val false .u64, .val false .u64, .val false .u64, .val false .bool]), (3, .cells [.val false .u64, .val false .u64, .val false .u64, .val false .u64, .val false .u64, .val false .u64, .val false .u64, .val false .u64, .val false .u64, .val false .u64, .val false .u64, .val false .u64])], 0, true⟩
abbrev cz : Type := ((Unit) × (Unit) × (Unit) × (Int) × (Unit) × (Int) × Unit) × ((List (UInt64)) × ((UInt64) × (UInt64) × (UInt64) × (UInt64) × (UInt64) × (UInt64) × (UInt64) × (UInt64) × (Bool) × Unit) × ((UInt64) × (UInt64) × (UInt64) × (UInt64) × (UInt64) × (UInt64) × (UInt64) × (UInt64) × (Bool) × Unit) × ((UInt64) × (UInt64) × (UInt64) × (UInt64) × (UInt64) × (UInt64) × (UInt64) × (UInt64) × (UInt64) × (UInt64) × (UInt64) × (UInt64) × Unit) × Unit)
def rz : Shape := ⟨39, [(6, .ptr 0 0 0), (7, .val false .int), (8, .ptr 1 0 0)], [(0, .cells [.val false .u64, .val false .u64, .val false .u64, .val false .u64, .val false .u64, .val false .u64, .val false .u64, .val false .u64, .val false .bool]), (1, .cells [.val false .u64, .val false .u64, .val false .u64, .val false .u64, .val false .u64, .val false .u64, .val false .u64, .val false .u64, .val false .u64, .val false .u64, .val false .u64, .val false .u64])], 0, true⟩
abbrev ks : Type := ((Unit) × (Int) × (Unit) × Unit) × (((UInt64) × (UInt64) × (UInt64) × (UInt64) × (UInt64) × (UInt64) × (UInt64) × (UInt64) × (Bool) × Unit) × ((UInt64) × (UInt64) × (UInt64) × (UInt64) × (UInt64) × (UInt64) × (UInt64) × (UInt64) × (UInt64) × (UInt64) × (UInt64) × (UInt64) × Unit) × Unit)
def YI : SE → Option Shape := jr [(0, rz)] none
def amE (a7 : Int) (a9 : Int) (c0 : List (UInt64)) (c1_0 : UInt64) (c1_1 : UInt64) (c1_2 : UInt64) (c1_3 : UInt64) (c1_4 : UInt64) (c1_5 : UInt64) (c1_6 : UInt64) (c1_7 : UInt64) (c1_8 : Bool) (c2_0 : UInt64) (c2_1 : UInt64) (c2_2 : UInt64) (c2_3 : UInt64) (c2_4 : UInt64) (c2_5 : UInt64) (c2_6 : UInt64) (c2_7 : UInt64) (c2_8 : Bool) (c3_0 : UInt64) (c3_1 : UInt64) (c3_2 : UInt64) (c3_3 : UInt64) (c3_4 : UInt64) (c3_5 : UInt64) (c3_6 : UInt64) (c3_7 : UInt64) (c3_8 : UInt64) (c3_9 : UInt64) (c3_10 : UInt64) (c3_11 : UInt64) : OT (Sum cz aP) :=
  let z0 : aa × aa × aa := ({ w0 := c3_0, w1 := c3_1, w2 := c3_2, w3 := c3_3 }, { w0 := c3_4, w1 := c3_5, w2 := c3_6, w3 := c3_7 }, { w0 := c3_8, w1 := c3_9, w2 := c3_10, w3 := c3_11 })
  let z1 : Nat := pS a7
  let z2 : aa × aa × aa := Tj z1 z0
  let z3 : aa × aa × aa := eO ({ w0 := c1_0, w1 := c1_1, w2 := c1_2, w3 := c1_3 }, { w0 := c1_4, w1 := c1_5, w2 := c1_6, w3 := c1_7 }, c1_8)
  let z4 : Bool := inR (a9 - (1 : Int))
  let z5 : aa × aa × aa := PZ z1 z2 z3
  let z6 := z5.fst
  let z7 := z5.snd
  let z8 := z7.fst
  let z9 := z7.snd
  let z10 := z2.fst
  let z11 := z2.snd
  let z12 := z11.fst
  let z13 := z11.snd
  (.br (decide ((0 : Int) ≤ a9))
  (gd [nt ((a7, z0, ()), ()), decide (4 ≤ List.length c0)] (.br (nZ { w0 := List.getD c0 0 0, w1 := List.getD c0 1 0, w2 := List.getD c0 2 0, w3 := List.getD c0 3 0 } a9)
    (gd [vN ((a7, z2, z3, ()), ()), z4] (.ok (.inl (((), ((), ((), (a7, ((), (a9 - (1 : Int), ())))))), (c0, ((c1_0, (c1_1, (c1_2, (c1_3, (c1_4, (c1_5, (c1_6, (c1_7, (c1_8, ()))))))))), ((c2_0, (c2_1, (c2_2, (c2_3, (c2_4, (c2_5, (c2_6, (c2_7, (c2_8, ()))))))))), ((z6.w0, (z6.w1, (z6.w2, (z6.w3, (z8.w0, (z8.w1, (z8.w2, (z8.w3, (z9.w0, (z9.w1, (z9.w2, (z9.w3, ())))))))))))), ()))))))))
    (gd [z4] (.ok (.inl (((), ((), ((), (a7, ((), (a9 - (1 : Int), ())))))), (c0, ((c1_0, (c1_1, (c1_2, (c1_3, (c1_4, (c1_5, (c1_6, (c1_7, (c1_8, ()))))))))), ((c2_0, (c2_1, (c2_2, (c2_3, (c2_4, (c2_5, (c2_6, (c2_7, (c2_8, ()))))))))), ((z10.w0, (z10.w1, (z10.w2, (z10.w3, (z12.w0, (z12.w1, (z12.w2, (z12.w3, (z13.w0, (z13.w1, (z13.w2, (z13.w3, ())))))))))))), ()))))))))))
  (.ok (.inr ⟨(.exit 0, rz), (((), (a7, ((), ()))), ((c2_0, (c2_1, (c2_2, (c2_3, (c2_4, (c2_5, (c2_6, (c2_7, (c2_8, ()))))))))), ((c3_0, (c3_1, (c3_2, (c3_3, (c3_4, (c3_5, (c3_6, (c3_7, (c3_8, (c3_9, (c3_10, (c3_11, ())))))))))))), ())))⟩)))
def vL (s : cz) : OT (Sum cz aP) := amE (s.1.2.2.2.1) (s.1.2.2.2.2.2.1) (s.2.1) (s.2.2.1.1) (s.2.2.1.2.1) (s.2.2.1.2.2.1) (s.2.2.1.2.2.2.1) (s.2.2.1.2.2.2.2.1) (s.2.2.1.2.2.2.2.2.1) (s.2.2.1.2.2.2.2.2.2.1) (s.2.2.1.2.2.2.2.2.2.2.1) (s.2.2.1.2.2.2.2.2.2.2.2.1) (s.2.2.2.1.1) (s.2.2.2.1.2.1) (s.2.2.2.1.2.2.1) (s.2.2.2.1.2.2.2.1) (s.2.2.2.1.2.2.2.2.1) (s.2.2.2.1.2.2.2.2.2.1) (s.2.2.2.1.2.2.2.2.2.2.1) (s.2.2.2.1.2.2.2.2.2.2.2.1) (s.2.2.2.1.2.2.2.2.2.2.2.2.1) (s.2.2.2.2.1.1) (s.2.2.2.2.1.2.1) (s.2.2.2.2.1.2.2.1) (s.2.2.2.2.1.2.2.2.1) (s.2.2.2.2.1.2.2.2.2.1) (s.2.2.2.2.1.2.2.2.2.2.1) (s.2.2.2.2.1.2.2.2.2.2.2.1) (s.2.2.2.2.1.2.2.2.2.2.2.2.1) (s.2.2.2.2.1.2.2.2.2.2.2.2.2.1) (s.2.2.2.2.1.2.2.2.2.2.2.2.2.2.1) (s.2.2.2.2.1.2.2.2.2.2.2.2.2.2.2.1) (s.2.2.2.2.1.2.2.2.2.2.2.2.2.2.2.2.1)
theorem amB (s : cz) (Q : Sum cz aP → Prop) : wps te I0 ay 1000 (bF (ao Tryz.f45) 0) (vK.inj s) (cQ vK YI (Q : Sum vK.T aP → Prop)) = (vL s).wpR Q := by kernel_rfl
def BR (g0_0 : cz → ks) (s : cz) : OT aP := (.ok ⟨(.exit 0, rz), g0_0 s⟩)
def ry : az := ⟨[.val true (.prod .elem (.prod .elem .bool))], [], false⟩
def Pm : SV → Option az := fun _ => some ry
def Tp (ok0 : cz → Bool) (g0_0 : cz → ks) (a0 : Int) (a1 : aa) (a2 : (aa × (aa × Bool))) : OT jb.Y :=
  let z0 : aa := { w0 := 0, w1 := 0, w2 := 0, w3 := 0 }
  let z1 : Int := yJ a0 (1 : Int)
  let z2 : PUnit × PUnit × PUnit × Int × PUnit × Int × PUnit := ((), (), (), a0, (), (255 : Int), ())
  let z3 : aa := n7 (pS z1) a1 z0
  let z4 : (UInt64 × UInt64 × UInt64 × UInt64 × UInt64 × UInt64 × UInt64 × UInt64 × Bool × PUnit) × (UInt64 × UInt64 × UInt64 × UInt64 × UInt64 × UInt64 × UInt64 × UInt64 × Bool × PUnit) × (UInt64 × UInt64 × UInt64 × UInt64 × UInt64 × UInt64 × UInt64 × UInt64 × UInt64 × UInt64 × UInt64 × UInt64 × PUnit) × PUnit := ((a2.fst.w0, a2.fst.w1, a2.fst.w2, a2.fst.w3, a2.snd.fst.w0, a2.snd.fst.w1, a2.snd.fst.w2, a2.snd.fst.w3, a2.snd.snd, ()), ((0 : UInt64), (0 : UInt64), (0 : UInt64), (0 : UInt64), (0 : UInt64), (0 : UInt64), (0 : UInt64), (0 : UInt64), false, ()), ((0 : UInt64), (0 : UInt64), (0 : UInt64), (0 : UInt64), (0 : UInt64), (0 : UInt64), (0 : UInt64), (0 : UInt64), (0 : UInt64), (0 : UInt64), (0 : UInt64), (0 : UInt64), ()), ())
  let z5 : (PUnit × PUnit × PUnit × Int × PUnit × Int × PUnit) × List UInt64 × (UInt64 × UInt64 × UInt64 × UInt64 × UInt64 × UInt64 × UInt64 × UInt64 × Bool × PUnit) × (UInt64 × UInt64 × UInt64 × UInt64 × UInt64 × UInt64 × UInt64 × UInt64 × Bool × PUnit) × (UInt64 × UInt64 × UInt64 × UInt64 × UInt64 × UInt64 × UInt64 × UInt64 × UInt64 × UInt64 × UInt64 × UInt64 × PUnit) × PUnit := (z2, [z3.w0, z3.w1, z3.w2, z3.w3], z4)
  let z6 : (PUnit × Int × PUnit × PUnit) × (UInt64 × UInt64 × UInt64 × UInt64 × UInt64 × UInt64 × UInt64 × UInt64 × Bool × PUnit) × (UInt64 × UInt64 × UInt64 × UInt64 × UInt64 × UInt64 × UInt64 × UInt64 × UInt64 × UInt64 × UInt64 × UInt64 × PUnit) × PUnit := g0_0 z5
  let z7 := z6.fst.snd.fst
  let z8 := z6.snd.snd.fst
  let z9 := z8.snd
  let z10 := z9.snd
  let z11 := z10.snd
  let z12 := z11.snd
  let z13 := z12.snd
  let z14 := z13.snd
  let z15 := z14.snd
  let z16 := z15.snd
  let z17 := z16.snd
  let z18 := z17.snd
  let z19 : aa × aa × aa := ({ w0 := z8.fst, w1 := z9.fst, w2 := z10.fst, w3 := z11.fst }, { w0 := z12.fst, w1 := z13.fst, w2 := z14.fst, w3 := z15.fst }, { w0 := z16.fst, w1 := z17.fst, w2 := z18.fst, w3 := z18.snd.fst })
  let z20 : (PUnit × PUnit × PUnit × Int × PUnit × Int × PUnit) × List UInt64 × (UInt64 × UInt64 × UInt64 × UInt64 × UInt64 × UInt64 × UInt64 × UInt64 × Bool × PUnit) × (UInt64 × UInt64 × UInt64 × UInt64 × UInt64 × UInt64 × UInt64 × UInt64 × Bool × PUnit) × (UInt64 × UInt64 × UInt64 × UInt64 × UInt64 × UInt64 × UInt64 × UInt64 × UInt64 × UInt64 × UInt64 × UInt64 × PUnit) × PUnit := (z2, [(0 : UInt64), (0 : UInt64), (0 : UInt64), (0 : UInt64)], z4)
  let z21 : (PUnit × Int × PUnit × PUnit) × (UInt64 × UInt64 × UInt64 × UInt64 × UInt64 × UInt64 × UInt64 × UInt64 × Bool × PUnit) × (UInt64 × UInt64 × UInt64 × UInt64 × UInt64 × UInt64 × UInt64 × UInt64 × UInt64 × UInt64 × UInt64 × UInt64 × PUnit) × PUnit := g0_0 z20
  let z22 := z21.fst.snd.fst
  let z23 := z21.snd.snd.fst
  let z24 := z23.snd
  let z25 := z24.snd
  let z26 := z25.snd
  let z27 := z26.snd
  let z28 := z27.snd
  let z29 := z28.snd
  let z30 := z29.snd
  let z31 := z30.snd
  let z32 := z31.snd
  let z33 := z32.snd
  let z34 : aa × aa × aa := ({ w0 := z23.fst, w1 := z24.fst, w2 := z25.fst, w3 := z26.fst }, { w0 := z27.fst, w1 := z28.fst, w2 := z29.fst, w3 := z30.fst }, { w0 := z31.fst, w1 := z32.fst, w2 := z33.fst, w3 := z33.snd.fst })
  (.br (!onB a0 a2)
  (.ok ⟨ry, (((z0, z0, true), ()), ())⟩)
  (.br (ak z1)
    (gd [ok0 z5, kr ((z7, z19, ()), ())] (.ok ⟨ry, ((eW (pS z7) z19, ()), ())⟩))
    (gd [ok0 z20, kr ((z22, z34, ()), ())] (.ok ⟨ry, ((eW (pS z22) z34, ()), ())⟩))))
theorem aq6 (ok0 : cz → Bool) (g0_0 : cz → ks) (x : Ip) (Q : jb.Y → Prop) : wpf te I0 (bg 0 (di vK 0 ok0 (BR g0_0)) ay) 1000 Tryz.f45 (jb.inp.inj x).tm (jb.inp.inj x).hp (fnK jb Pm Q) (fun _ _ => False) = (Tp ok0 g0_0 (x.1.1) (x.1.2.1) (x.1.2.2.1)).wpR Q := by kernel_rfl
theorem abI (ok0 : cz → Bool) (g0_0 : cz → ks) (h0 : ∀ s : cz, ok0 s = true → ∃ m e, aq (vL) m s = some e ∧ (BR g0_0 s).run = some e) (pre : Ip → Bool) (F : Ip → OT jb.Y) (hF : ∀ (x : Ip) oy, pre x = true → (F x).run = some oy → (Tp ok0 g0_0 (x.1.1) (x.1.2.1) (x.1.2.2.1)).run = some oy) : ac Tryz.prog 45 (jb.aH pre F) :=
  aC au wR IZ (f := 45) (fn := Tryz.f45) (c := ao Tryz.f45) (by kernel_rfl) (by kernel_rfl) (by kernel_rfl) (S := jb) (k := 0) (by kernel_rfl) (fun R hR => (aF (c := (ao Tryz.f45)) (by kernel_rfl) (id := 0) (by kernel_rfl) (bt au wR IZ (sh := vK) hR (xs := YI) (aG (by kernel_rfl) (by kernel_rfl) hR) aW af (n := 1000) (T := vL) (fun s Q => amB s Q) (ok := ok0) (f := BR g0_0) h0) af)) (n := 1000) (sel := Pm) (fun v o h => by cases h; rfl) (pre := pre) (F := F) (T := fun x => Tp ok0 g0_0 (x.1.1) (x.1.2.1) (x.1.2.2.1)) (fun x Q => aq6 ok0 g0_0 x Q) hF
abbrev C9 : Type := UInt64 × UInt64 × UInt64 × UInt64 × UInt64 × UInt64 × UInt64 × UInt64 × Bool × Unit
abbrev C12 : Type := UInt64 × UInt64 × UInt64 × UInt64 × UInt64 × UInt64 × UInt64 × UInt64 × UInt64 × UInt64 × UInt64 × UInt64 × Unit
def kt (t : C9) : Pt := (⟨t.1, t.2.1, t.2.2.1, t.2.2.2.1⟩, ⟨t.2.2.2.2.1, t.2.2.2.2.2.1, t.2.2.2.2.2.2.1, t.2.2.2.2.2.2.2.1⟩, t.2.2.2.2.2.2.2.2.1)
def atg (t : C12) : BX := (⟨t.1, t.2.1, t.2.2.1, t.2.2.2.1⟩, ⟨t.2.2.2.2.1, t.2.2.2.2.2.1, t.2.2.2.2.2.2.1, t.2.2.2.2.2.2.2.1⟩, ⟨t.2.2.2.2.2.2.2.2.1, t.2.2.2.2.2.2.2.2.2.1, t.2.2.2.2.2.2.2.2.2.2.1, t.2.2.2.2.2.2.2.2.2.2.2.1⟩)
def aqI (w : BX) : C12 := (w.1.w0, w.1.w1, w.1.w2, w.1.w3, w.2.1.w0, w.2.1.w1, w.2.1.w2, w.2.1.w3, w.2.2.w0, w.2.2.w1, w.2.2.w2, w.2.2.w3, ())
def ib (p : Nat) (k : aa) (P : BX) (n : Nat) (w : BX) : BX := cond (nZ k (255 - (n : Int))) (PZ p (Tj p w) P) (Tj p w)
def EI (s : cz) : Bool := ak s.1.2.2.2.1 && decide (s.1.2.2.2.2.2.1 = 255 ∧ s.2.1.length = 4)
def YJ (s : cz) : ks := (((), s.1.2.2.2.1, (), ()), (s.2.2.2.1, aqI (upto (ib (pS s.1.2.2.2.1) (elemOf s.2.1) (eO (kt s.2.2.1))) (atg s.2.2.2.2.1) 256), ()))
theorem amD : ∀ s : cz, EI s = true → ∃ m e, aq vL m s = some e ∧ (BR YJ s).run = some e := by
  rintro ⟨⟨⟨⟩, ⟨⟩, ⟨⟩, c, ⟨⟩, i, ⟨⟩⟩, ⟨l, ⟨p0, p1, p2, p3, p4, p5, p6, p7, p8, ⟨⟩⟩, ⟨q0, q1, q2, q3, q4, q5, q6, q7, q8, ⟨⟩⟩, ⟨w0, w1, w2, w3, w4, w5, w6, w7, w8, w9, w10, w11, ⟨⟩⟩, ⟨⟩⟩⟩ h
  simp only [EI, Bool.and_eq_true, decide_eq_true_eq] at h
  obtain ⟨hs, rfl, hl⟩ := h
  obtain ⟨k, rfl⟩ : ∃ a, l = lst a := ⟨elemOf l, (bl hl).symm⟩
  have := (bP (T := vL) (fun n w => ((((), (), (), c, (), 255 - (n : Int), ()), (lst k, (p0, p1, p2, p3, p4, p5, p6, p7, p8, ()), (q0, q1, q2, q3, q4, q5, q6, q7, q8, ()), aqI w, ())) : cz)) (ib (pS c) k (eO (kt (p0, p1, p2, p3, p4, p5, p6, p7, p8, ()))))
    (fun w => (⟨(.exit 0, rz), (((), c, (), ()), ((q0, q1, q2, q3, q4, q5, q6, q7, q8, ()), aqI w, ()))⟩ : aP)) 256 (atg (w0, w1, w2, w3, w4, w5, w6, w7, w8, w9, w10, w11, ())) (fun _ _ => True) trivial (fun n w hn _ => ⟨?_, trivial⟩) (fun w _ => ?_)).1
  · obtain ⟨m, hm⟩ := this
    exact ⟨m, _, hm, rfl⟩
  · have e2 : (255 : Int) - (n : Int) - 1 = 255 - ((n + 1 : Nat) : Int) := by omega
    refine (OT.ap (decide_eq_true (by dsimp only; omega))).trans ((al ?_).trans ?_)
    · simp only [List.all_cons, List.all_nil, Bool.and_true, Bool.and_eq_true]
      exact ⟨hs, rfl⟩
    · rcases (Bool.eq_false_or_eq_true (nZ k (255 - (n : Int)))).symm with hb | hb
      · have e : ib (pS c) k (eO (kt (p0, p1, p2, p3, p4, p5, p6, p7, p8, ()))) n w = Tj (pS c) w := by unfold ib; rw [hb]; rfl
        rw [e, ← e2]
        refine (OT.aw hb).trans ((al ?_).trans rfl)
        simp only [List.all_cons, List.all_nil, Bool.and_true]
        exact bE (by omega)
      · have e : ib (pS c) k (eO (kt (p0, p1, p2, p3, p4, p5, p6, p7, p8, ()))) n w = PZ (pS c) (Tj (pS c) w) (eO (kt (p0, p1, p2, p3, p4, p5, p6, p7, p8, ()))) := by unfold ib; rw [hb]; rfl
        rw [e, ← e2]
        refine (OT.ap hb).trans ((al ?_).trans rfl)
        simp only [List.all_cons, List.all_nil, Bool.and_true, Bool.and_eq_true]
        exact ⟨hs, bE (by omega)⟩
  · exact OT.aw (decide_eq_false (by dsimp only; omega))
def acx : BX := (⟨0, 0, 0, 0⟩, ⟨0, 0, 0, 0⟩, ⟨0, 0, 0, 0⟩)
def aup (p : Nat) (k : aa) (P : BX) : BX := upto (ib p k P) acx 256
def Bf (c : Int) (k : aa) : aa := n7 (pS (yJ c 1)) k ⟨0, 0, 0, 0⟩
def tf (c : Int) (k : aa) (P : Pt) : Pt := cond (onB c P) (eW (pS c) (aup (pS c) (Bf c k) (eO P))) aD
theorem js {c : Int} (h : ak c = true) : ak (yJ c 1) = true := by
  rcases cr h with rfl | rfl | rfl | rfl <;> decide +kernel
def Pn (_ : Ip) : Bool := true
def ahD (x : Ip) : OT jb.Y := .ok ⟨ry, ((tf x.1.1 x.1.2.1 x.1.2.2.1, ()), ())⟩
theorem amC : ac Tryz.prog 45 (jb.aH Pn ahD) := abI EI YJ amD _ _ fun x oy _ ho => by
  rw [← ho]
  clear ho
  obtain ⟨⟨c, k, P, ⟨⟩⟩, ⟨⟩⟩ := x
  show _ = (OT.ok ⟨ry, ((tf c k P, ()), ())⟩ : OT jb.Y).run
  rcases (Bool.eq_false_or_eq_true (onB c P)).symm with h1 | h1
  · have e : tf c k P = aD := by unfold tf; rw [h1]; rfl
    rw [e]
    exact OT.ap (b := !onB c P) (by rw [h1]; rfl)
  · have hs := qV h1
    have e : tf c k P = eW (pS c) (aup (pS c) (Bf c k) (eO P)) := by unfold tf; rw [h1]; rfl
    rw [e]
    refine (OT.aw (b := !onB c P) (by rw [h1]; rfl)).trans ((OT.ap (js hs)).trans ((al ?_).trans ?_))
    · simp only [List.all_cons, List.all_nil, Bool.and_true, Bool.and_eq_true]
      refine ⟨?_, hs⟩
      refine (Bool.and_eq_true _ _).mpr ⟨hs, ?_⟩
      exact decide_eq_true (p := (255 : Int) = 255 ∧ (lst (Bf c k)).length = 4) ⟨rfl, rfl⟩
    · rfl
def yW : cG := (jb.aH Pn ahD)
theorem To : ac Tryz.prog 45 yW := amC
theorem Tn : aK yW := aB
def F2 : Env := aA 45 yW I0
theorem zO : aV Tryz.prog F2 := ai To wR
theorem A5 : ax F2 := ae Tn F8
theorem Uo : aZ Tryz.prog te F2 := aN follows au zO A5
def gl : av := ⟨[.val false .int], [], true, 0, false⟩
abbrev zV : Type := ((Int) × Unit) × (Unit)
def jh : az := ⟨[.val true .elem, .val false .int], [], false⟩
def Ng : SV → Option az := fun _ => some jh
def Rs (a0 : Int) : OT gl.Y :=
  (.br (a0 == (0 : Int))
  (.ok ⟨jh, (({ w0 := 16513537, w1 := 0, w2 := 0, w3 := 0 }, ((0 : Int), ())), ())⟩)
  (.br (a0 == (1 : Int))
    (.ok ⟨jh, (({ w0 := 16521217, w1 := 0, w2 := 0, w3 := 0 }, ((0 : Int), ())), ())⟩)
    (.br (a0 == (2 : Int))
      (.ok ⟨jh, (({ w0 := 11037532056220336129, w1 := 2469829653914515739, w2 := 0, w3 := 4611686018427387904 }, ((0 : Int), ())), ())⟩)
      (.br (a0 == (3 : Int))
        (.ok ⟨jh, (({ w0 := 10108024940646105089, w1 := 2469829653919213789, w2 := 0, w3 := 4611686018427387904 }, ((0 : Int), ())), ())⟩)
        (.ok ⟨jh, (({ w0 := 0, w1 := 0, w2 := 0, w3 := 0 }, ((20 : Int), ())), ())⟩)))))
theorem apO (x : zV) (Q : gl.Y → Prop) : wpf te F2 ay 1000 Tryz.f92 (gl.inp.inj x).tm (gl.inp.inj x).hp (fnK gl Ng Q) (fun _ _ => False) = (Rs (x.1.1)).wpR Q := by kernel_rfl
theorem ZN (pre : zV → Bool) (F : zV → OT gl.Y) (hF : ∀ (x : zV) oy, pre x = true → (F x).run = some oy → (Rs (x.1.1)).run = some oy) : ac Tryz.prog 92 (gl.aH pre F) :=
  aC au zO Uo (f := 92) (fn := Tryz.f92) (c := ao Tryz.f92) (by kernel_rfl) (by kernel_rfl) (by kernel_rfl) (S := gl) (k := 0) (by kernel_rfl) (fun R hR => af) (n := 1000) (sel := Ng) (fun v o h => by cases h; rfl) (pre := pre) (F := F) (T := fun x => Rs (x.1.1)) (fun x Q => apO x Q) hF
def Nh (_ : zV) : Bool := true
def afa (x : zV) : OT gl.Y := .br (ak x.1.1) (.ok ⟨jh, (((bT x.1.1.toNat).1, ((0 : Int), ())), ())⟩) (.ok ⟨jh, ((⟨0, 0, 0, 0⟩, ((20 : Int), ())), ())⟩)
theorem Xa : ac Tryz.prog 92 (gl.aH Nh afa) := ZN _ _ fun x oy _ ho => by
  rw [← ho]
  clear ho
  obtain ⟨⟨s, ⟨⟩⟩, ⟨⟩⟩ := x
  cases hs : ak s
  · obtain ⟨h0, h1, h2, h3⟩ := qj hs
    exact (OT.aw h0).trans ((OT.aw h1).trans ((OT.aw h2).trans ((OT.aw h3).trans (OT.aw (b := ak s) hs).symm)))
  · rcases cr hs with h | h | h | h
    all_goals
      have h : s = _ := h
      subst h
      rfl
def xN : cG := (gl.aH Nh afa)
theorem Rr : ac Tryz.prog 92 xN := Xa
theorem Rq : aK xN := aB
def Fi : Env := aA 92 xN F2
theorem zt : aV Tryz.prog Fi := ai Rr zO
theorem AH : ax Fi := ae Rq A5
theorem Ub : aZ Tryz.prog te Fi := aN follows au zt AH
def gu : av := ⟨[.val false .int], [], true, 0, false⟩
abbrev zY : Type := ((Int) × Unit) × (Unit)
def mZ : az := ⟨[.val false .int, .val false .int], [], false⟩
def Nz : SV → Option az := fun _ => some mZ
def RM (a0 : Int) : OT gu.Y :=
  (.br (decide (a0 < (0 : Int)))
  (.ok ⟨mZ, (((0 : Int), ((20 : Int), ())), ())⟩)
  (.br (decide ((3 : Int) < a0))
    (.ok ⟨mZ, (((0 : Int), ((20 : Int), ())), ())⟩)
    (gd [inB a0 4, decide (Int.toNat a0 + 0 < 4)] (.ok ⟨mZ, ((List.getD [(9 : Int), (11 : Int), (32 : Int), (32 : Int)] (Int.toNat a0 + 0) (0 : Int), ((0 : Int), ())), ())⟩))))
theorem apU (x : zY) (Q : gu.Y → Prop) : wpf te Fi ay 1000 Tryz.f131 (gu.inp.inj x).tm (gu.inp.inj x).hp (fnK gu Nz Q) (fun _ _ => False) = (RM (x.1.1)).wpR Q := by kernel_rfl
theorem Z6 (pre : zY → Bool) (F : zY → OT gu.Y) (hF : ∀ (x : zY) oy, pre x = true → (F x).run = some oy → (RM (x.1.1)).run = some oy) : ac Tryz.prog 131 (gu.aH pre F) :=
  aC au zt Ub (f := 131) (fn := Tryz.f131) (c := ao Tryz.f131) (by kernel_rfl) (by kernel_rfl) (by kernel_rfl) (S := gu) (k := 0) (by kernel_rfl) (fun R hR => af) (n := 1000) (sel := Nz) (fun v o h => by cases h; rfl) (pre := pre) (F := F) (T := fun x => RM (x.1.1)) (fun x Q => apU x Q) hF
def NA (_ : zY) : Bool := true
def afo (x : zY) : OT gu.Y := .br (ak x.1.1) (.ok ⟨mZ, (((bT x.1.1.toNat).2.1, ((0 : Int), ())), ())⟩) (.ok ⟨mZ, (((0 : Int), ((20 : Int), ())), ())⟩)
theorem Xj : ac Tryz.prog 131 (gu.aH NA afo) := Z6 _ _ fun x oy _ ho => by
  rw [← ho]
  clear ho
  obtain ⟨⟨s, ⟨⟩⟩, ⟨⟩⟩ := x
  rcases (Bool.eq_false_or_eq_true (ak s)).symm with hs | hs
  · refine Eq.trans ?_ (OT.aw (b := ak s) hs).symm
    by_cases h0 : s < 0
    · exact OT.ap (decide_eq_true h0)
    · refine (OT.aw (decide_eq_false h0)).trans (OT.ap (decide_eq_true ?_))
      show (3 : Int) < s
      simp only [ak, Bool.and_eq_false_iff, decide_eq_false_iff_not] at hs
      omega
  · rcases cr hs with h | h | h | h
    all_goals
      have h : s = _ := h
      subst h
      rfl
def xY : cG := (gu.aH NA afo)
theorem RL : ac Tryz.prog 131 xY := Xj
theorem RK : aK xY := aB
def Fq : Env := aA 131 xY Fi
theorem zB : aV Tryz.prog Fq := ai RL zt
theorem AO : ax Fq := ae RK AH
theorem Uf : aZ Tryz.prog te Fq := aN follows au zB AO
def iS : av := ⟨[.val false .int], [], true, 0, false⟩
abbrev Ha : Type := ((Int) × Unit) × (Unit)
def uZ : az := ⟨[.val false .u64], [], false⟩
def Nj : SV → Option az := fun _ => some uZ
def Rv (a0 : Int) : OT iS.Y :=
  (.br (a0 == (0 : Int))
  (.ok ⟨uZ, (((16513537 : UInt64), ()), ())⟩)
  (.ok ⟨uZ, (((16521217 : UInt64), ()), ())⟩))
theorem apP (x : Ha) (Q : iS.Y → Prop) : wpf te Fq ay 1000 Tryz.f102 (iS.inp.inj x).tm (iS.inp.inj x).hp (fnK iS Nj Q) (fun _ _ => False) = (Rv (x.1.1)).wpR Q := by kernel_rfl
theorem ZS (pre : Ha → Bool) (F : Ha → OT iS.Y) (hF : ∀ (x : Ha) oy, pre x = true → (F x).run = some oy → (Rv (x.1.1)).run = some oy) : ac Tryz.prog 102 (iS.aH pre F) :=
  aC au zB Uf (f := 102) (fn := Tryz.f102) (c := ao Tryz.f102) (by kernel_rfl) (by kernel_rfl) (by kernel_rfl) (S := iS) (k := 0) (by kernel_rfl) (fun R hR => af) (n := 1000) (sel := Nj) (fun v o h => by cases h; rfl) (pre := pre) (F := F) (T := fun x => Rv (x.1.1)) (fun x Q => apP x Q) hF
def LY (s : Int) : UInt64 := cond (s == 0) 16513537 16521217
def Nk (_ : Ha) : Bool := true
def afc (x : Ha) : OT iS.Y := .ok ⟨uZ, ((LY x.1.1, ()), ())⟩
theorem alf : ac Tryz.prog 102 (iS.aH Nk afc) := ZS _ _ fun x oy _ ho => by
  rw [← ho]
  clear ho
  obtain ⟨⟨s, ⟨⟩⟩, ⟨⟩⟩ := x
  show _ = (OT.ok ⟨uZ, ((LY s, ()), ())⟩ : OT iS.Y).run
  unfold LY
  rcases (Bool.eq_false_or_eq_true (s == 0)).symm with h | h
  · rw [h]; exact OT.aw h
  · rw [h]; exact OT.ap h
def xP : cG := (iS.aH Nk afc)
theorem Ru : ac Tryz.prog 102 xP := alf
theorem Rt : aK xP := aB
def zu : Env := aA 102 xP Fq
theorem rL : aV Tryz.prog zu := ai Ru zB
theorem AJ : ax zu := ae Rt AO
theorem Fj : aZ Tryz.prog te zu := aN follows au rL AJ
def dK : av := ⟨[.val true .elem, .val true .elem], [], true, 0, false⟩
abbrev qJ : Type := ((aa) × (aa) × Unit) × (Unit)
def lN : Shape := ⟨24, [(2, .ptr 0 0 0), (3, .ptr 1 0 0), (5, .val false .int)], [(0, .row .u64), (1, .row .u64)], 0, true⟩
abbrev aU : Type := ((Unit) × (Unit) × (Int) × Unit) × ((List (UInt64)) × (List (UInt64)) × Unit)
def iH : Shape := ⟨24, [(4, .val false .bool)], [], 0, true⟩
abbrev gq : Type := ((Bool) × Unit) × (Unit)
def kO : Shape := ⟨24, [], [], 0, true⟩
abbrev gr : Type := (Unit) × (Unit)
def Hi : SE → Option Shape := jr [(0, kO)] (some iH)
def Z5 (a5 : Int) (c0 : List (UInt64)) (c1 : List (UInt64)) : OT (Sum aU aP) :=
  let z0 : Bool := inB a5 4
  let z1 : Bool := decide (Int.toNat a5 + 0 < List.length c0)
  let z2 : Bool := decide (Int.toNat a5 + 0 < List.length c1)
  let z3 : UInt64 := List.getD c0 (Int.toNat a5 + 0) (0 : UInt64)
  let z4 : UInt64 := List.getD c1 (Int.toNat a5 + 0) (0 : UInt64)
  (.br (decide ((0 : Int) ≤ a5))
  (gd [z0, z1, z0, z2] (.br (!z3 == z4)
    (gd [z0, z1, z0, z2] (.ok (.inr ⟨(.ret, iH), ((decide (z3 < z4), ()), ())⟩)))
    (gd [inR (a5 - (1 : Int))] (.ok (.inl (((), ((), (a5 - (1 : Int), ()))), (c0, (c1, ()))))))))
  (.ok (.inr ⟨(.exit 0, kO), ((), ())⟩)))
def ff (s : aU) : OT (Sum aU aP) := Z5 (s.1.2.2.1) (s.2.1) (s.2.2.1)
theorem Z0 (s : aU) (Q : Sum aU aP → Prop) : wps te zu ay 1000 (bF (ao Tryz.f99) 0) (lN.inj s) (cQ lN Hi (Q : Sum lN.T aP → Prop)) = (ff s).wpR Q := by kernel_rfl
def lO (g0_r : aU → gq) (c0_r : aU → Bool) (g0_0 : aU → gr) (s : aU) : OT aP := (.br (c0_r s) (.ok ⟨(.ret, iH), g0_r s⟩) (.ok ⟨(.exit 0, kO), g0_0 s⟩))
def ju : az := ⟨[.val false .bool], [], false⟩
def CW : SV → Option az := fun _ => some ju
def CZ (ok0 : aU → Bool) (g0_r : aU → gq) (c0_r : aU → Bool) (g0_0 : aU → gr) (a0 : aa) (a1 : aa) : OT dK.Y :=
  let z0 : (PUnit × PUnit × Int × PUnit) × List UInt64 × List UInt64 × PUnit := (((), (), (3 : Int), ()), [a0.w0, a0.w1, a0.w2, a0.w3], [a1.w0, a1.w1, a1.w2, a1.w3], ())
  (gd [ok0 z0] (.br (c0_r z0)
  (.ok ⟨ju, (((g0_r z0).fst.fst, ()), ())⟩)
  (.ok ⟨ju, ((false, ()), ())⟩)))
theorem afm (ok0 : aU → Bool) (g0_r : aU → gq) (c0_r : aU → Bool) (g0_0 : aU → gr) (x : qJ) (Q : dK.Y → Prop) : wpf te zu (bg 0 (di lN 0 ok0 (lO g0_r c0_r g0_0)) ay) 1000 Tryz.f99 (dK.inp.inj x).tm (dK.inp.inj x).hp (fnK dK CW Q) (fun _ _ => False) = (CZ ok0 g0_r c0_r g0_0 (x.1.1) (x.1.2.1)).wpR Q := by kernel_rfl
theorem Nv (ok0 : aU → Bool) (g0_r : aU → gq) (c0_r : aU → Bool) (g0_0 : aU → gr) (h0 : ∀ s : aU, ok0 s = true → ∃ m e, aq (ff) m s = some e ∧ (lO g0_r c0_r g0_0 s).run = some e) (pre : qJ → Bool) (F : qJ → OT dK.Y) (hF : ∀ (x : qJ) oy, pre x = true → (F x).run = some oy → (CZ ok0 g0_r c0_r g0_0 (x.1.1) (x.1.2.1)).run = some oy) : ac Tryz.prog 99 (dK.aH pre F) :=
  aC au rL Fj (f := 99) (fn := Tryz.f99) (c := ao Tryz.f99) (by kernel_rfl) (by kernel_rfl) (by kernel_rfl) (S := dK) (k := 0) (by kernel_rfl) (fun R hR => (aF (c := (ao Tryz.f99)) (by kernel_rfl) (id := 0) (by kernel_rfl) (bt au rL Fj (sh := lN) hR (xs := Hi) (aG (by kernel_rfl) (by kernel_rfl) hR) aW af (n := 1000) (T := ff) (fun s Q => Z0 s Q) (ok := ok0) (f := lO g0_r c0_r g0_0) h0) af)) (n := 1000) (sel := CW) (fun v o h => by cases h; rfl) (pre := pre) (F := F) (T := fun x => CZ ok0 g0_r c0_r g0_0 (x.1.1) (x.1.2.1)) (fun x Q => afm ok0 g0_r c0_r g0_0 x Q) hF
theorem HU {x y N M : Nat} (hx : x < 18446744073709551616) (hy : y < 18446744073709551616) (h : ¬ N = M) : (x + 18446744073709551616 * N < y + 18446744073709551616 * M ↔ N < M) ∧ ¬ x + 18446744073709551616 * N = y + 18446744073709551616 * M := by
  omega
theorem agi {x y N : Nat} : (x + 18446744073709551616 * N < y + 18446744073709551616 * N ↔ x < y) ∧ (¬ x = y → ¬ x + 18446744073709551616 * N = y + 18446744073709551616 * N) := by
  omega
theorem Lk {n m : Nat} {x y : UInt64} (h : n < m ↔ x.toNat < y.toNat) : decide (x < y) = Nat.blt n m := by
  have h1 : Nat.blt n m = true ↔ n < m := ⟨cL, fun h => Nat.ble_eq_true_of_le h⟩
  rw [Bool.eq_iff_iff, decide_eq_true_iff, h1, h, UInt64.lt_iff_toNat_lt]
theorem Sd {x y : UInt64} (h : ¬ x = y) : ¬ x.toNat = y.toNat := fun e => h (UInt64.toNat_inj.1 e)
def dh (a b : aa) (i : Int) : aU := (((), (), i, ()), (lst a, lst b, ()))
theorem rB (a b : aa) (k : Nat) (hk : k < 4) (h : (lst a).getD k 0 = (lst b).getD k 0) : (ff (dh a b (k : Int))).run = some (.inl (dh a b ((k : Int) - 1))) := by
  refine (OT.ap (decide_eq_true (by dsimp only [dh]; omega))).trans ((al ?_).trans ((OT.aw ?_).trans ((al ?_).trans rfl)))
  · simp only [dh, Int.toNat_natCast, Nat.add_zero, cV, List.all_cons, List.all_nil, Bool.and_true, Bool.and_eq_true]
    exact ⟨bD (by omega), decide_eq_true hk, bD (by omega), decide_eq_true hk⟩
  · simp only [dh, Int.toNat_natCast, Nat.add_zero, h, beq_self_eq_true, Bool.not_true]
  · simp only [dh, List.all_cons, List.all_nil, Bool.and_true]
    exact bE (by omega)
theorem lc (a b : aa) (k : Nat) (hk : k < 4) (h : ¬ (lst a).getD k 0 = (lst b).getD k 0) : (ff (dh a b (k : Int))).run = some (.inr ⟨(.ret, iH), ((decide ((lst a).getD k 0 < (lst b).getD k 0), ()), ())⟩) := by
  refine (OT.ap (decide_eq_true (by dsimp only [dh]; omega))).trans ((al ?_).trans ((OT.ap ?_).trans ((al ?_).trans ?_)))
  · simp only [dh, Int.toNat_natCast, Nat.add_zero, cV, List.all_cons, List.all_nil, Bool.and_true, Bool.and_eq_true]
    exact ⟨bD (by omega), decide_eq_true hk, bD (by omega), decide_eq_true hk⟩
  · simp only [dh, Int.toNat_natCast, Nat.add_zero, beq_eq_false_iff_ne.2 h, Bool.not_false]
  · simp only [dh, Int.toNat_natCast, Nat.add_zero, cV, List.all_cons, List.all_nil, Bool.and_true, Bool.and_eq_true]
    exact ⟨bD (by omega), decide_eq_true hk, bD (by omega), decide_eq_true hk⟩
  · simp only [dh, Int.toNat_natCast, Nat.add_zero]
    rfl
def CY (s : aU) : Bool := decide (s.1.2.2.1 = 3 ∧ s.2.1.length = 4 ∧ s.2.2.1.length = 4)
def xV (s : aU) : gq := ((Nat.blt (elemOf s.2.1).nat (elemOf s.2.2.1).nat, ()), ())
def j1 (s : aU) : Bool := !eqE (elemOf s.2.1) (elemOf s.2.2.1)
def xW (_ : aU) : gr := ((), ())
theorem vR {a b : aa} (h : ¬ a = b) {r : Bool} (hr : r = Nat.blt a.nat b.nat) (hm : ∃ m, aq ff m (dh a b 3) = some ⟨(.ret, iH), ((r, ()), ())⟩) :
    ∃ m e, aq ff m (dh a b 3) = some e ∧ (lO xV j1 xW (dh a b 3)).run = some e := by
  obtain ⟨m, hm⟩ := hm
  refine ⟨m, _, hm, ?_⟩
  have hc : j1 (dh a b 3) = true := by
    show (!eqE a b) = true
    rw [Bool.eq_false_iff.2 fun e => h (ja.1 e)]
    rfl
  subst hr
  exact OT.ap hc
theorem Z4 : ∀ s : aU, CY s = true → ∃ m e, aq ff m s = some e ∧ (lO xV j1 xW s).run = some e := by
  rintro ⟨⟨⟨⟩, ⟨⟩, i, ⟨⟩⟩, ⟨l1, l2, ⟨⟩⟩⟩ h
  have h' := of_decide_eq_true h
  dsimp only at h'
  obtain ⟨rfl, h1, h2⟩ := h'
  obtain ⟨a, rfl⟩ : ∃ a, l1 = lst a := ⟨elemOf l1, (bl h1).symm⟩
  obtain ⟨b, rfl⟩ : ∃ a, l2 = lst a := ⟨elemOf l2, (bl h2).symm⟩
  have ha0 := a.w0.toNat_lt
  have hb0 := b.w0.toNat_lt
  have ha1 := a.w1.toNat_lt
  have hb1 := b.w1.toNat_lt
  have ha2 := a.w2.toNat_lt
  have hb2 := b.w2.toNat_lt
  by_cases h3 : a.w3 = b.w3
  · have s3 := rB a b 3 (by omega) h3
    by_cases h2 : a.w2 = b.w2
    · have s2 := rB a b 2 (by omega) h2
      by_cases h1 : a.w1 = b.w1
      · have s1 := rB a b 1 (by omega) h1
        by_cases h0 : a.w0 = b.w0
        · have s0 := rB a b 0 (by omega) h0
          have e : a = b := by cases a; cases b; simp_all
          have sx : (ff (dh a b (((0 : Nat) : Int) - 1))).run = some (.inr ⟨(.exit 0, kO), ((), ())⟩) := OT.aw (decide_eq_false (by dsimp only [dh]; omega))
          refine ⟨_, _, aM s3 (aM s2 (aM s1 (aM s0 (aL sx)))), ?_⟩
          have hc : j1 (((), (), 3, ()), (lst a, lst b, ())) = false := by
            show (!eqE a b) = false
            rw [e, KY]
            rfl
          exact OT.aw hc
        · refine vR (fun e => h0 (by rw [e])) (Lk ?_) ⟨_, aM s3 (aM s2 (aM s1 (aL (lc a b 0 (by omega) h0))))⟩
          show a.nat < b.nat ↔ a.w0.toNat < b.w0.toNat
          unfold Sx.aa.nat
          rw [h3, h2, h1]
          exact agi.1
      · refine vR (fun e => h1 (by rw [e])) (Lk ?_) ⟨_, aM s3 (aM s2 (aL (lc a b 1 (by omega) h1)))⟩
        show a.nat < b.nat ↔ a.w1.toNat < b.w1.toNat
        unfold Sx.aa.nat
        rw [h3, h2]
        have k := agi (x := a.w1.toNat) (y := b.w1.toNat) (N := b.w2.toNat + 18446744073709551616 * b.w3.toNat)
        exact (HU ha0 hb0 (k.2 (Sd h1))).1.trans k.1
    · refine vR (fun e => h2 (by rw [e])) (Lk ?_) ⟨_, aM s3 (aL (lc a b 2 (by omega) h2))⟩
      show a.nat < b.nat ↔ a.w2.toNat < b.w2.toNat
      unfold Sx.aa.nat
      rw [h3]
      have k := agi (x := a.w2.toNat) (y := b.w2.toNat) (N := b.w3.toNat)
      have k1 := HU ha1 hb1 (k.2 (Sd h2))
      exact (HU ha0 hb0 k1.2).1.trans (k1.1.trans k.1)
  · refine vR (fun e => h3 (by rw [e])) (Lk ?_) ⟨_, aL (lc a b 3 (by omega) h3)⟩
    show a.nat < b.nat ↔ a.w3.toNat < b.w3.toNat
    unfold Sx.aa.nat
    have k2 := HU ha2 hb2 (Sd h3)
    have k1 := HU ha1 hb1 k2.2
    exact (HU ha0 hb0 k1.2).1.trans (k1.1.trans k2.1)
def CX (_ : qJ) : Bool := true
def Nw (x : qJ) : OT dK.Y := .ok ⟨ju, ((Nat.blt x.1.1.nat x.1.2.1.nat, ()), ())⟩
theorem Z3 : ac Tryz.prog 99 (dK.aH CX Nw) := Nv CY xV j1 xW Z4 _ _ fun x oy _ ho => by
  rw [← ho]
  clear ho
  obtain ⟨⟨a, b, ⟨⟩⟩, ⟨⟩⟩ := x
  refine (al ?_).trans ?_
  · simp only [List.all_cons, List.all_nil, Bool.and_true]
    exact decide_eq_true ⟨rfl, rfl, rfl⟩
  · rcases (Bool.eq_false_or_eq_true (eqE a b)).symm with h | h
    · have hc : j1 (((), (), 3, ()), (lst a, lst b, ())) = true := by
        show (!eqE a b) = true
        rw [h]
        rfl
      exact OT.ap hc
    · have hc : j1 (((), (), 3, ()), (lst a, lst b, ())) = false := by
        show (!eqE a b) = false
        rw [h]
        rfl
      refine (OT.aw hc).trans ?_
      have e : Nat.blt a.nat b.nat = false := by
        rw [ja.1 h]
        cases hb : Nat.blt b.nat b.nat
        · rfl
        · exact absurd (cL hb) (Nat.lt_irrefl _)
      show (OT.ok ⟨ju, ((false, ()), ())⟩ : OT dK.Y).run = (OT.ok ⟨ju, ((Nat.blt a.nat b.nat, ()), ())⟩ : OT dK.Y).run
      rw [e]
def oL : cG := (dK.aH CX Nw)
theorem JN : ac Tryz.prog 99 oL := Z3
theorem JM : aK oL := aB
def mE : Env := aA 99 oL zu
theorem lf : aV Tryz.prog mE := ai JN rL
theorem sj : ax mE := ae JM AJ
theorem wl : aZ Tryz.prog te mE := aN follows au lf sj
def eT : av := ⟨[.val true .elem, .val true .elem], [], true, 0, false⟩
abbrev qF : Type := ((aa) × (aa) × Unit) × (Unit)
def lJ : Shape := ⟨39, [(2, .ptr 0 0 0), (3, .ptr 1 0 0), (4, .ptr 2 0 0), (5, .ptr 3 0 0), (6, .val false .u64), (7, .val false .int)], [(0, .row .u64), (1, .row .u64), (2, .row .u64), (3, .row .u64)], 0, true⟩
abbrev bG : Type := ((Unit) × (Unit) × (Unit) × (Unit) × (UInt64) × (Int) × Unit) × ((List (UInt64)) × (List (UInt64)) × (List (UInt64)) × (List (UInt64)) × Unit)
def kN : Shape := ⟨39, [(4, .ptr 0 0 0), (5, .ptr 1 0 0)], [(0, .row .u64), (1, .row .u64)], 0, true⟩
abbrev gm : Type := ((Unit) × (Unit) × Unit) × ((List (UInt64)) × (List (UInt64)) × Unit)
def G8 : SE → Option Shape := jr [(0, kN)] none
def ZR (a6 : UInt64) (a7 : Int) (c0 : List (UInt64)) (c1 : List (UInt64)) (c2 : List (UInt64)) (c3 : List (UInt64)) : OT (Sum bG aP) :=
  let z0 : Bool := inB a7 4
  let z1 : Bool := decide (Int.toNat a7 + 0 < List.length c0)
  let z2 : Bool := decide (Int.toNat a7 + 0 < List.length c1)
  let z3 : UInt64 := List.getD c0 (Int.toNat a7 + 0) (0 : UInt64)
  let z4 : UInt64 := List.getD c1 (Int.toNat a7 + 0) (0 : UInt64)
  let z5 : Bool := inR (a7 + (1 : Int))
  let z6 : UInt64 := z3 - z4
  let z7 : List UInt64 := List.set c3 (Int.toNat a7 + 0) (z6 - a6)
  (.br (decide (a7 < (4 : Int)))
  (gd [z0, z1, z0, z2, z0, decide (Int.toNat a7 + 0 < List.length c3), z0, z1, z0, z2] (.br (decide (z3 < z4))
    (gd [z5] (.ok (.inl (((), ((), ((), ((), ((1 : UInt64), (a7 + (1 : Int), ())))))), (c0, (c1, (c2, (z7, ()))))))))
    (.br (decide (z6 < a6))
      (gd [z5] (.ok (.inl (((), ((), ((), ((), ((1 : UInt64), (a7 + (1 : Int), ())))))), (c0, (c1, (c2, (z7, ()))))))))
      (gd [z5] (.ok (.inl (((), ((), ((), ((), ((0 : UInt64), (a7 + (1 : Int), ())))))), (c0, (c1, (c2, (z7, ())))))))))))
  (.ok (.inr ⟨(.exit 0, kN), (((), ((), ())), (c2, (c3, ())))⟩)))
def lK (s : bG) : OT (Sum bG aP) := ZR (s.1.2.2.2.2.1) (s.1.2.2.2.2.2.1) (s.2.1) (s.2.2.1) (s.2.2.2.1) (s.2.2.2.2.1)
theorem ZO (s : bG) (Q : Sum bG aP → Prop) : wps te mE ay 1000 (bF (ao Tryz.f103) 0) (lJ.inj s) (cQ lJ G8 (Q : Sum lJ.T aP → Prop)) = (lK s).wpR Q := by kernel_rfl
def qE (g0_0 : bG → gm) (s : bG) : OT aP := (.ok ⟨(.exit 0, kN), g0_0 s⟩)
def xO : az := ⟨[.val true .elem], [], false⟩
def CK : SV → Option az := fun _ => some xO
def CN (ok0 : bG → Bool) (g0_0 : bG → gm) (a0 : aa) (a1 : aa) : OT eT.Y :=
  let z0 : (PUnit × PUnit × PUnit × PUnit × UInt64 × Int × PUnit) × List UInt64 × List UInt64 × List UInt64 × List UInt64 × PUnit := (((), (), (), (), (0 : UInt64), (0 : Int), ()), [a0.w0, a0.w1, a0.w2, a0.w3], [a1.w0, a1.w1, a1.w2, a1.w3], [(0 : UInt64), (0 : UInt64), (0 : UInt64), (0 : UInt64)], [(0 : UInt64), (0 : UInt64), (0 : UInt64), (0 : UInt64)], ())
  let z1 := (g0_0 z0).snd
  let z2 := z1.snd.fst
  let z3 := z1.fst
  let z4 : List UInt64 := lay z3 z2 4 (0 : UInt64)
  (gd [ok0 z0, decide (4 ≤ List.length z2), decide ((4 / 1 : Nat) + 0 ≤ List.length z3), decide (4 ≤ List.length z4)] (.ok ⟨xO, (({ w0 := List.getD z4 0 0, w1 := List.getD z4 1 0, w2 := List.getD z4 2 0, w3 := List.getD z4 3 0 }, ()), ())⟩))
theorem afb (ok0 : bG → Bool) (g0_0 : bG → gm) (x : qF) (Q : eT.Y → Prop) : wpf te mE (bg 0 (di lJ 0 ok0 (qE g0_0)) ay) 1000 Tryz.f103 (eT.inp.inj x).tm (eT.inp.inj x).hp (fnK eT CK Q) (fun _ _ => False) = (CN ok0 g0_0 (x.1.1) (x.1.2.1)).wpR Q := by kernel_rfl
theorem Ni (ok0 : bG → Bool) (g0_0 : bG → gm) (h0 : ∀ s : bG, ok0 s = true → ∃ m e, aq (lK) m s = some e ∧ (qE g0_0 s).run = some e) (pre : qF → Bool) (F : qF → OT eT.Y) (hF : ∀ (x : qF) oy, pre x = true → (F x).run = some oy → (CN ok0 g0_0 (x.1.1) (x.1.2.1)).run = some oy) : ac Tryz.prog 103 (eT.aH pre F) :=
  aC au lf wl (f := 103) (fn := Tryz.f103) (c := ao Tryz.f103) (by kernel_rfl) (by kernel_rfl) (by kernel_rfl) (S := eT) (k := 0) (by kernel_rfl) (fun R hR => (aF (c := (ao Tryz.f103)) (by kernel_rfl) (id := 0) (by kernel_rfl) (bt au lf wl (sh := lJ) hR (xs := G8) (aG (by kernel_rfl) (by kernel_rfl) hR) aW af (n := 1000) (T := lK) (fun s Q => ZO s Q) (ok := ok0) (f := qE g0_0) h0) af)) (n := 1000) (sel := CK) (fun v o h => by cases h; rfl) (pre := pre) (F := F) (T := fun x => CN ok0 g0_0 (x.1.1) (x.1.2.1)) (fun x Q => afb ok0 g0_0 x Q) hF
theorem aaF {x y c : UInt64} (hc : c.toNat ≤ 1) : x - y - c = mN x y c := by
  have hx := x.toNat_lt
  have hy := y.toNat_lt
  unfold mN
  rw [← UInt64.toNat_inj, UInt64.toNat_sub, UInt64.toNat_sub, UInt64.toNat_ofNat']
  omega
theorem al1 {x y c : UInt64} (h : x < y) : LW x y c = 1 := by
  have h := UInt64.lt_iff_toNat_lt.1 h
  rw [← UInt64.toNat_inj, uw, if_pos (by omega)]
  rfl
theorem al0 {x y c : UInt64} (h : ¬ x < y) (hc : x - y < c) : LW x y c = 1 := by
  have hx := x.toNat_lt
  have h : ¬ x.toNat < y.toNat := fun e => h (UInt64.lt_iff_toNat_lt.2 e)
  have hc := UInt64.lt_iff_toNat_lt.1 hc
  rw [UInt64.toNat_sub] at hc
  rw [← UInt64.toNat_inj, uw, if_pos (by omega)]
  rfl
theorem alZ {x y c : UInt64} (h : ¬ x < y) (hc : ¬ x - y < c) : LW x y c = 0 := by
  have hx := x.toNat_lt
  have h : ¬ x.toNat < y.toNat := fun e => h (UInt64.lt_iff_toNat_lt.2 e)
  have hc : ¬ (x - y).toNat < c.toNat := fun e => hc (UInt64.lt_iff_toNat_lt.2 e)
  rw [UInt64.toNat_sub] at hc
  rw [← UInt64.toNat_inj, uw, if_neg (by omega)]
  rfl
def CM (s : bG) : Bool := decide (s.1.2.2.2.2.1 = 0 ∧ s.1.2.2.2.2.2.1 = 0 ∧ s.2.1.length = 4 ∧ s.2.2.1.length = 4 ∧ s.2.2.2.2.1 = [0, 0, 0, 0])
def G9 (s : bG) : gm := (((), (), ()), (s.2.2.2.1, (upto (Ge s.2.1 s.2.2.1) ([0, 0, 0, 0], 0) 4).1, ()))
theorem ZQ : ∀ s : bG, CM s = true → ∃ m e, aq lK m s = some e ∧ (qE G9 s).run = some e := by
  rintro ⟨⟨⟨⟩, ⟨⟩, ⟨⟩, ⟨⟩, c, i, ⟨⟩⟩, ⟨c0, c1, c2, c3, ⟨⟩⟩⟩ h
  have h' := of_decide_eq_true h
  dsimp only at h'
  obtain ⟨rfl, rfl, h0, h1, rfl⟩ := h'
  have := (bP (T := lK) (fun k s => ((((), (), (), (), s.2, (k : Int), ()), (c0, c1, c2, s.1, ())) : bG)) (Ge c0 c1)
    (fun s => (⟨(.exit 0, kN), (((), (), ()), (c2, s.1, ()))⟩ : aP)) 4 ([0, 0, 0, 0], 0) (fun _ s => s.1.length = 4 ∧ s.2.toNat ≤ 1) ⟨rfl, by decide⟩ (fun k s hk hs => ⟨?_, ?_⟩) (fun s hs => ?_)).1
  · obtain ⟨m, hm⟩ := this
    exact ⟨m, _, hm, rfl⟩
  · obtain ⟨o, c⟩ := s
    dsimp only at hs
    refine (OT.ap (decide_eq_true (by dsimp only; omega))).trans ((al ?_).trans ?_)
    · simp only [Int.toNat_natCast, Nat.add_zero, h0, h1, hs.1, List.all_cons, List.all_nil, Bool.and_true, Bool.and_eq_true]
      exact ⟨bD (by omega), decide_eq_true (by omega), bD (by omega), decide_eq_true (by omega), bD (by omega), decide_eq_true (by omega), bD (by omega), decide_eq_true (by omega), bD (by omega), decide_eq_true (by omega)⟩
    · have hi : ∀ z, (gd [inR ((k : Int) + 1)] z : OT (Sum bG aP)).run = z.run := fun z => al (by simp only [List.all_cons, List.all_nil, Bool.and_true]; exact bE (by omega))
      have hw := aaF (x := c0.getD k 0) (y := c1.getD k 0) hs.2
      by_cases hx : c0.getD k 0 < c1.getD k 0
      · have hk1 := al1 (c := c) hx
        refine (OT.ap (decide_eq_true ?_)).trans ((hi _).trans ?_)
        · simp only [Int.toNat_natCast, Nat.add_zero]; exact hx
        · simp only [OT.jG, Int.toNat_natCast, Nat.add_zero, Ge, hw, hk1]
          rfl
      · refine (OT.aw (decide_eq_false ?_)).trans ?_
        · simp only [Int.toNat_natCast, Nat.add_zero]; exact hx
        · by_cases hd : c0.getD k 0 - c1.getD k 0 < c
          · have hk2 := al0 hx hd
            refine (OT.ap (decide_eq_true ?_)).trans ((hi _).trans ?_)
            · simp only [Int.toNat_natCast, Nat.add_zero]; exact hd
            · simp only [OT.jG, Int.toNat_natCast, Nat.add_zero, Ge, hw, hk2]
              rfl
          · have hk3 := alZ hx hd
            refine (OT.aw (decide_eq_false ?_)).trans ((hi _).trans ?_)
            · simp only [Int.toNat_natCast, Nat.add_zero]; exact hd
            · simp only [OT.jG, Int.toNat_natCast, Nat.add_zero, Ge, hw, hk3]
              rfl
  · exact ⟨by simp only [Ge, List.length_set]; exact hs.1, xk⟩
  · exact OT.aw (decide_eq_false (by dsimp only; omega))
def CL (_ : qF) : Bool := true
def CO (x : qF) : OT eT.Y := .ok ⟨xO, (((lk x.1.1 x.1.2.1).1, ()), ())⟩
theorem ZP : ac Tryz.prog 103 (eT.aH CL CO) := Ni CM G9 ZQ _ _ fun x oy hp ho => by
  rw [← ho]
  clear ho
  obtain ⟨⟨a, b, ⟨⟩⟩, ⟨⟩⟩ := x
  obtain ⟨_, hw⟩ := GG a b
  refine (al ?_).trans ?_
  · simp only [List.all_cons, List.all_nil, Bool.and_true, Bool.and_eq_true]
    exact ⟨rfl, rfl, rfl, rfl⟩
  · simp only [CO, hw]
    rfl
def oH : cG := (eT.aH CL CO)
theorem JI : ac Tryz.prog 103 oH := ZP
theorem JH : aK oH := aB
def mD : Env := aA 103 oH mE
theorem ld : aV Tryz.prog mD := ai JI lf
theorem sg : ax mD := ae JH sj
theorem wi : aZ Tryz.prog te mD := aN follows au ld sg
def gk : av := ⟨[.val true .elem, .val true .elem], [], true, 0, false⟩
abbrev xI : Type := ((aa) × (aa) × Unit) × (Unit)
def oE : Shape := ⟨39, [(2, .ptr 0 0 0), (3, .ptr 1 0 0), (4, .ptr 2 0 0), (5, .ptr 3 0 0), (6, .val false .u64), (7, .val false .int)], [(0, .row .u64), (1, .row .u64), (2, .row .u64), (3, .row .u64)], 0, true⟩
abbrev bW : Type := ((Unit) × (Unit) × (Unit) × (Unit) × (UInt64) × (Int) × Unit) × ((List (UInt64)) × (List (UInt64)) × (List (UInt64)) × (List (UInt64)) × Unit)
def mV : Shape := ⟨39, [(4, .ptr 0 0 0), (5, .ptr 1 0 0)], [(0, .row .u64), (1, .row .u64)], 0, true⟩
abbrev iE : Type := ((Unit) × (Unit) × Unit) × ((List (UInt64)) × (List (UInt64)) × Unit)
def M5 : SE → Option Shape := jr [(0, mV)] none
def ae0 (a6 : UInt64) (a7 : Int) (c0 : List (UInt64)) (c1 : List (UInt64)) (c2 : List (UInt64)) (c3 : List (UInt64)) : OT (Sum bW aP) :=
  let z0 : Bool := inB a7 4
  let z1 : Bool := decide (Int.toNat a7 + 0 < List.length c0)
  let z2 : UInt64 := List.getD c0 (Int.toNat a7 + 0) (0 : UInt64)
  let z3 : UInt64 := z2 + List.getD c1 (Int.toNat a7 + 0) (0 : UInt64)
  let z4 : Bool := inR (a7 + (1 : Int))
  let z5 : List UInt64 := List.set c3 (Int.toNat a7 + 0) (z3 + a6)
  (.br (decide (a7 < (4 : Int)))
  (gd [z0, z1, z0, decide (Int.toNat a7 + 0 < List.length c1), z0, decide (Int.toNat a7 + 0 < List.length c3), z0, z1] (.br (decide (z3 < z2))
    (gd [z4] (.ok (.inl (((), ((), ((), ((), ((1 : UInt64), (a7 + (1 : Int), ())))))), (c0, (c1, (c2, (z5, ()))))))))
    (gd [z0, decide (Int.toNat a7 + 0 < List.length z5)] (.br (decide (List.getD z5 (Int.toNat a7 + 0) (0 : UInt64) < z3))
      (gd [z4] (.ok (.inl (((), ((), ((), ((), ((1 : UInt64), (a7 + (1 : Int), ())))))), (c0, (c1, (c2, (z5, ()))))))))
      (gd [z4] (.ok (.inl (((), ((), ((), ((), ((0 : UInt64), (a7 + (1 : Int), ())))))), (c0, (c1, (c2, (z5, ()))))))))))))
  (.ok (.inr ⟨(.exit 0, mV), (((), ((), ())), (c2, (c3, ())))⟩)))
def oF (s : bW) : OT (Sum bW aP) := ae0 (s.1.2.2.2.2.1) (s.1.2.2.2.2.2.1) (s.2.1) (s.2.2.1) (s.2.2.2.1) (s.2.2.2.2.1)
theorem aeX (s : bW) (Q : Sum bW aP → Prop) : wps te mD ay 1000 (bF (ao Tryz.f133) 0) (oE.inj s) (cQ oE M5 (Q : Sum oE.T aP → Prop)) = (oF s).wpR Q := by kernel_rfl
def uV (g0_0 : bW → iE) (s : bW) : OT aP := (.ok ⟨(.exit 0, mV), g0_0 s⟩)
def CE : az := ⟨[.val true .elem], [], false⟩
def G3 : SV → Option az := fun _ => some CE
def JB (ok0 : bW → Bool) (g0_0 : bW → iE) (a0 : aa) (a1 : aa) : OT gk.Y :=
  let z0 : (PUnit × PUnit × PUnit × PUnit × UInt64 × Int × PUnit) × List UInt64 × List UInt64 × List UInt64 × List UInt64 × PUnit := (((), (), (), (), (0 : UInt64), (0 : Int), ()), [a0.w0, a0.w1, a0.w2, a0.w3], [a1.w0, a1.w1, a1.w2, a1.w3], [(0 : UInt64), (0 : UInt64), (0 : UInt64), (0 : UInt64)], [(0 : UInt64), (0 : UInt64), (0 : UInt64), (0 : UInt64)], ())
  let z1 := (g0_0 z0).snd
  let z2 := z1.snd.fst
  let z3 := z1.fst
  let z4 : List UInt64 := lay z3 z2 4 (0 : UInt64)
  (gd [ok0 z0, decide (4 ≤ List.length z2), decide ((4 / 1 : Nat) + 0 ≤ List.length z3), decide (4 ≤ List.length z4)] (.ok ⟨CE, (({ w0 := List.getD z4 0 0, w1 := List.getD z4 1 0, w2 := List.getD z4 2 0, w3 := List.getD z4 3 0 }, ()), ())⟩))
theorem ak9 (ok0 : bW → Bool) (g0_0 : bW → iE) (x : xI) (Q : gk.Y → Prop) : wpf te mD (bg 0 (di oE 0 ok0 (uV g0_0)) ay) 1000 Tryz.f133 (gk.inp.inj x).tm (gk.inp.inj x).hp (fnK gk G3 Q) (fun _ _ => False) = (JB ok0 g0_0 (x.1.1) (x.1.2.1)).wpR Q := by kernel_rfl
theorem Rf (ok0 : bW → Bool) (g0_0 : bW → iE) (h0 : ∀ s : bW, ok0 s = true → ∃ m e, aq (oF) m s = some e ∧ (uV g0_0 s).run = some e) (pre : xI → Bool) (F : xI → OT gk.Y) (hF : ∀ (x : xI) oy, pre x = true → (F x).run = some oy → (JB ok0 g0_0 (x.1.1) (x.1.2.1)).run = some oy) : ac Tryz.prog 133 (gk.aH pre F) :=
  aC au ld wi (f := 133) (fn := Tryz.f133) (c := ao Tryz.f133) (by kernel_rfl) (by kernel_rfl) (by kernel_rfl) (S := gk) (k := 0) (by kernel_rfl) (fun R hR => (aF (c := (ao Tryz.f133)) (by kernel_rfl) (id := 0) (by kernel_rfl) (bt au ld wi (sh := oE) hR (xs := M5) (aG (by kernel_rfl) (by kernel_rfl) hR) aW af (n := 1000) (T := oF) (fun s Q => aeX s Q) (ok := ok0) (f := uV g0_0) h0) af)) (n := 1000) (sel := G3) (fun v o h => by cases h; rfl) (pre := pre) (F := F) (T := fun x => JB ok0 g0_0 (x.1.1) (x.1.2.1)) (fun x Q => ak9 ok0 g0_0 x Q) hF
theorem afA {x y c : UInt64} : x + y + c = rX x y c := by
  have hx := x.toNat_lt
  have hy := y.toNat_lt
  unfold rX
  rw [← UInt64.toNat_inj, UInt64.toNat_add, UInt64.toNat_add, UInt64.toNat_ofNat']
  omega
theorem Lv {x y c : UInt64} (hc : c.toNat ≤ 1) : (uh x y c).toNat = (x.toNat + y.toNat + c.toNat) / 18446744073709551616 := by
  have hx := x.toNat_lt
  have hy := y.toNat_lt
  unfold uh
  rw [UInt64.toNat_ofNat']
  omega
theorem ap2 {x y c : UInt64} (hc : c.toNat ≤ 1) (h : x + y < x) : uh x y c = 1 := by
  have hx := x.toNat_lt
  have hy := y.toNat_lt
  have h := UInt64.lt_iff_toNat_lt.1 h
  rw [UInt64.toNat_add] at h
  rw [← UInt64.toNat_inj, Lv hc, show (1 : UInt64).toNat = 1 from rfl]
  omega
theorem ap1 {x y c : UInt64} (hc : c.toNat ≤ 1) (h : ¬ x + y < x) (h2 : x + y + c < x + y) : uh x y c = 1 := by
  have hx := x.toNat_lt
  have hy := y.toNat_lt
  have h : ¬ (x + y).toNat < x.toNat := fun e => h (UInt64.lt_iff_toNat_lt.2 e)
  have h2 := UInt64.lt_iff_toNat_lt.1 h2
  rw [UInt64.toNat_add] at h
  rw [UInt64.toNat_add, UInt64.toNat_add] at h2
  rw [← UInt64.toNat_inj, Lv hc, show (1 : UInt64).toNat = 1 from rfl]
  omega
theorem ap0 {x y c : UInt64} (hc : c.toNat ≤ 1) (h : ¬ x + y < x) (h2 : ¬ x + y + c < x + y) : uh x y c = 0 := by
  have hx := x.toNat_lt
  have hy := y.toNat_lt
  have h : ¬ (x + y).toNat < x.toNat := fun e => h (UInt64.lt_iff_toNat_lt.2 e)
  have h2 : ¬ (x + y + c).toNat < (x + y).toNat := fun e => h2 (UInt64.lt_iff_toNat_lt.2 e)
  rw [UInt64.toNat_add] at h
  rw [UInt64.toNat_add, UInt64.toNat_add] at h2
  rw [← UInt64.toNat_inj, Lv hc, show (0 : UInt64).toNat = 0 from rfl]
  omega
def G5 (s : bW) : Bool := decide (s.1.2.2.2.2.1 = 0 ∧ s.1.2.2.2.2.2.1 = 0 ∧ s.2.1.length = 4 ∧ s.2.2.1.length = 4 ∧ s.2.2.2.2.1 = [0, 0, 0, 0])
def M8 (s : bW) : iE := (((), (), ()), (s.2.2.2.1, (upto (GB s.2.1 s.2.2.1) ([0, 0, 0, 0], 0) 4).1, ()))
theorem aeZ : ∀ s : bW, G5 s = true → ∃ m e, aq oF m s = some e ∧ (uV M8 s).run = some e := by
  rintro ⟨⟨⟨⟩, ⟨⟩, ⟨⟩, ⟨⟩, c, i, ⟨⟩⟩, ⟨c0, c1, c2, c3, ⟨⟩⟩⟩ h
  have h' := of_decide_eq_true h
  dsimp only at h'
  obtain ⟨rfl, rfl, h0, h1, rfl⟩ := h'
  have := (bP (T := oF) (fun k s => ((((), (), (), (), s.2, (k : Int), ()), (c0, c1, c2, s.1, ())) : bW)) (GB c0 c1)
    (fun s => (⟨(.exit 0, mV), (((), (), ()), (c2, s.1, ()))⟩ : aP)) 4 ([0, 0, 0, 0], 0) (fun _ s => s.1.length = 4 ∧ s.2.toNat ≤ 1) ⟨rfl, by decide⟩ (fun k s hk hs => ⟨?_, ?_⟩) (fun s hs => ?_)).1
  · obtain ⟨m, hm⟩ := this
    exact ⟨m, _, hm, rfl⟩
  · obtain ⟨o, c⟩ := s
    dsimp only at hs
    refine (OT.ap (decide_eq_true (by dsimp only; omega))).trans ((al ?_).trans ?_)
    · simp only [Int.toNat_natCast, Nat.add_zero, h0, h1, hs.1, List.all_cons, List.all_nil, Bool.and_true, Bool.and_eq_true]
      exact ⟨bD (by omega), decide_eq_true (by omega), bD (by omega), decide_eq_true (by omega), bD (by omega), decide_eq_true (by omega), bD (by omega), decide_eq_true (by omega)⟩
    · have hi : ∀ z, (gd [inR ((k : Int) + 1)] z : OT (Sum bW aP)).run = z.run := fun z => al (by simp only [List.all_cons, List.all_nil, Bool.and_true]; exact bE (by omega))
      have hw := afA (x := c0.getD k 0) (y := c1.getD k 0) (c := c)
      by_cases hx : c0.getD k 0 + c1.getD k 0 < c0.getD k 0
      · have hk1 := ap2 hs.2 hx
        refine (OT.ap (decide_eq_true ?_)).trans ((hi _).trans ?_)
        · simp only [Int.toNat_natCast, Nat.add_zero]; exact hx
        · simp only [OT.jG, Int.toNat_natCast, Nat.add_zero, GB, hw, hk1]
          rfl
      · have hs2 : ∀ v, (o.set k v).getD k 0 = v := fun v => by
          rw [List.getD_eq_getElem?_getD, List.getElem?_set_self (by omega)]
          rfl
        refine (OT.aw (decide_eq_false ?_)).trans ((al ?_).trans ?_)
        · simp only [Int.toNat_natCast, Nat.add_zero]; exact hx
        · simp only [Int.toNat_natCast, Nat.add_zero, List.length_set, hs.1, List.all_cons, List.all_nil, Bool.and_true, Bool.and_eq_true]
          exact ⟨bD (by omega), decide_eq_true (by omega)⟩
        · by_cases hd : c0.getD k 0 + c1.getD k 0 + c < c0.getD k 0 + c1.getD k 0
          · have hk2 := ap1 hs.2 hx hd
            refine (OT.ap (decide_eq_true ?_)).trans ((hi _).trans ?_)
            · simp only [Int.toNat_natCast, Nat.add_zero, hs2]; exact hd
            · simp only [OT.jG, Int.toNat_natCast, Nat.add_zero, GB, hw, hk2]
              rfl
          · have hk3 := ap0 hs.2 hx hd
            refine (OT.aw (decide_eq_false ?_)).trans ((hi _).trans ?_)
            · simp only [Int.toNat_natCast, Nat.add_zero, hs2]; exact hd
            · simp only [OT.jG, Int.toNat_natCast, Nat.add_zero, GB, hw, hk3]
              rfl
  · exact ⟨by simp only [GB, List.length_set]; exact hs.1, zk hs.2⟩
  · exact OT.aw (decide_eq_false (by dsimp only; omega))
def G4 (_ : xI) : Bool := true
def JC (x : xI) : OT gk.Y := .ok ⟨CE, (((ui x.1.1 x.1.2.1).1, ()), ())⟩
theorem aeY : ac Tryz.prog 133 (gk.aH G4 JC) := Rf G5 M8 aeZ _ _ fun x oy hp ho => by
  rw [← ho]
  clear ho
  obtain ⟨⟨a, b, ⟨⟩⟩, ⟨⟩⟩ := x
  obtain ⟨_, hw⟩ := GD a b
  refine (al ?_).trans ?_
  · simp only [List.all_cons, List.all_nil, Bool.and_true, Bool.and_eq_true]
    exact ⟨rfl, rfl, rfl, rfl⟩
  · simp only [JC, hw]
    rfl
def sN : cG := (gk.aH G4 JC)
theorem M7 : ac Tryz.prog 133 sN := aeY
theorem M6 : aK sN := aB
def nB : Env := aA 133 sN mD
theorem kD : aV Tryz.prog nB := ai M7 ld
theorem wh : ax nB := ae M6 sg
theorem pR : aZ Tryz.prog te nB := aN follows au kD wh
def jT : av := ⟨[.val false .int, .val true .elem], [], true, 0, false⟩
abbrev M9 : Type := ((Int) × (aa) × Unit) × (Unit)
def CH : Shape := ⟨60, [(3, .ptr 0 0 0), (4, .ptr 1 0 0), (5, .val false .u64), (6, .val false .u64), (7, .val false .int)], [(0, .row .u64), (1, .row .u64)], 0, true⟩
abbrev c8 : Type := ((Unit) × (Unit) × (UInt64) × (UInt64) × (Int) × Unit) × ((List (UInt64)) × (List (UInt64)) × Unit)
def uX : Shape := ⟨60, [(4, .ptr 0 0 0), (6, .val false .u64)], [(0, .row .u64)], 0, true⟩
abbrev lI : Type := ((Unit) × (UInt64) × Unit) × ((List (UInt64)) × Unit)
def ae4 : SE → Option Shape := jr [(0, uX)] none
def apL (a5 : UInt64) (a6 : UInt64) (a7 : Int) (c0 : List (UInt64)) (c1 : List (UInt64)) : OT (Sum c8 aP) :=
  let z0 : Bool := inB a7 4
  let z1 : Bool := decide (Int.toNat a7 + 0 < List.length c0)
  let z2 : Bool := !a5 == (0 : UInt64)
  let z3 : UInt64 := List.getD c0 (Int.toNat a7 + 0) (0 : UInt64)
  (.br (decide ((0 : Int) ≤ a7))
  (gd [z0, z1, z2, z0, z1, z2, inR (a7 - (1 : Int))] (.ok (.inl (((), ((), (a5, ((cA ((cA a6 (32 : Int) + bA z3 (32 : Int)) % a5) (32 : Int) + (z3 &&& (4294967295 : UInt64))) % a5, (a7 - (1 : Int), ()))))), (c0, (c1, ()))))))
  (.ok (.inr ⟨(.exit 0, uX), (((), (a6, ())), (c1, ()))⟩)))
def CJ (s : c8) : OT (Sum c8 aP) := apL (s.1.2.2.1) (s.1.2.2.2.1) (s.1.2.2.2.2.1) (s.2.1) (s.2.2.1)
theorem apH (s : c8) (Q : Sum c8 aP → Prop) : wps te nB ay 1000 (bF (ao Tryz.f62) 0) (CH.inj s) (cQ CH ae4 (Q : Sum CH.T aP → Prop)) = (CJ s).wpR Q := by kernel_rfl
def JF (g0_0 : c8 → lI) (s : c8) : OT aP := (.ok ⟨(.exit 0, uX), g0_0 s⟩)
def CG : Shape := ⟨60, [(3, .ptr 0 0 0), (4, .ptr 1 0 0), (8, .ptr 2 0 0)], [(0, .row .u64), (1, .row .u64), (2, .row .u64)], 0, true⟩
abbrev dr : Type := ((Unit) × (Unit) × (Unit) × Unit) × ((List (UInt64)) × (List (UInt64)) × (List (UInt64)) × Unit)
def uW : Shape := ⟨60, [(3, .ptr 0 0 0), (4, .ptr 1 0 0)], [(0, .row .u64), (1, .row .u64)], 0, true⟩
abbrev lH : Type := ((Unit) × (Unit) × Unit) × ((List (UInt64)) × (List (UInt64)) × Unit)
def ae3 : SE → Option Shape := jr [(2, uW)] none
def apK (c0 : List (UInt64)) (c1 : List (UInt64)) (c2 : List (UInt64)) : OT (Sum dr aP) :=
  let z0 : Nat := List.length c0
  let z1 : Bool := decide (4 ≤ z0)
  let z2 : Bool := decide (4 ≤ List.length c2)
  let z3 : aa := { w0 := List.getD c0 0 0, w1 := List.getD c0 1 0, w2 := List.getD c0 2 0, w3 := List.getD c0 3 0 }
  let z4 : aa := { w0 := List.getD c2 0 0, w1 := List.getD c2 1 0, w2 := List.getD c2 2 0, w3 := List.getD c2 3 0 }
  let z5 := (lk z3 z4).fst
  (gd [z1, z2] (.br (!Nat.blt (aa.nat z3) (aa.nat z4))
  (gd [z1, z2, decide ((4 / 1 : Nat) + 0 ≤ z0)] (.ok (.inl (((), ((), ((), ()))), (List.set (List.set (List.set (List.set c0 0 z5.w0) 1 z5.w1) 2 z5.w2) 3 z5.w3, (c1, (c2, ())))))))
  (.ok (.inr ⟨(.exit 2, uW), (((), ((), ())), (c0, (c1, ())))⟩))))
def CI (s : dr) : OT (Sum dr aP) := apK (s.2.1) (s.2.2.1) (s.2.2.2.1)
theorem apG (s : dr) (Q : Sum dr aP → Prop) : wps te nB ay 1000 (bF (ao Tryz.f62) 2) (CG.inj s) (cQ CG ae3 (Q : Sum CG.T aP → Prop)) = (CI s).wpR Q := by kernel_rfl
def JE (g2_2 : dr → lH) (s : dr) : OT aP := (.ok ⟨(.exit 2, uW), g2_2 s⟩)
def lp : az := ⟨[.val true .elem], [], false⟩
def W3 : SV → Option az := fun _ => some lp
def W5 (ok0 : c8 → Bool) (g0_0 : c8 → lI) (ok2 : dr → Bool) (g2_2 : dr → lH) (a0 : Int) (a1 : aa) : OT jT.Y :=
  let z0 : (PUnit × PUnit × UInt64 × UInt64 × Int × PUnit) × List UInt64 × List UInt64 × PUnit := (((), (), LY a0, (0 : UInt64), (3 : Int), ()), [a1.w0, a1.w1, a1.w2, a1.w3], [(0 : UInt64), (0 : UInt64), (0 : UInt64), (0 : UInt64)], ())
  let z1 : Bool := ok0 z0
  let z2 : (PUnit × UInt64 × PUnit) × List UInt64 × PUnit := g0_0 z0
  let z3 := z2.snd.fst
  let z4 : Bool := decide ((4 / 1 : Nat) + 0 ≤ List.length z3)
  let z5 : List UInt64 := List.set (List.set (List.set (List.set z3 0 z2.fst.snd.fst) 1 (0 : UInt64)) 2 (0 : UInt64)) 3 (0 : UInt64)
  let z6 : Bool := decide (4 ≤ List.length z5)
  let z7 : aa := { w0 := List.getD z5 0 0, w1 := List.getD z5 1 0, w2 := List.getD z5 2 0, w3 := List.getD z5 3 0 }
  let z8 : aa := (bT (Int.toNat a0)).fst
  let z9 : (PUnit × PUnit × PUnit × PUnit) × List UInt64 × List UInt64 × List UInt64 × PUnit := (((), (), (), ()), [a1.w0, a1.w1, a1.w2, a1.w3], [(0 : UInt64), (0 : UInt64), (0 : UInt64), (0 : UInt64)], [z8.w0, z8.w1, z8.w2, z8.w3], ())
  let z10 := (g2_2 z9).snd
  let z11 := z10.fst
  let z12 := z10.snd.fst
  let z13 : List UInt64 := lay z12 z11 4 (0 : UInt64)
  (.br (a0 == (0 : Int))
  (gd [z1, z4, z6] (.ok ⟨lp, ((z7, ()), ())⟩))
  (.br (a0 == (1 : Int))
    (gd [z1, z4, z6] (.ok ⟨lp, ((z7, ()), ())⟩))
    (.br (ak a0)
      (gd [ok2 z9, decide (4 ≤ List.length z11), decide ((4 / 1 : Nat) + 0 ≤ List.length z12), decide (4 ≤ List.length z13)] (.ok ⟨lp, (({ w0 := List.getD z13 0 0, w1 := List.getD z13 1 0, w2 := List.getD z13 2 0, w3 := List.getD z13 3 0 }, ()), ())⟩))
      (.ok ⟨lp, (({ w0 := 0, w1 := 0, w2 := 0, w3 := 0 }, ()), ())⟩))))
theorem asl (ok0 : c8 → Bool) (g0_0 : c8 → lI) (ok2 : dr → Bool) (g2_2 : dr → lH) (x : M9) (Q : jT.Y → Prop) : wpf te nB (bg 2 (di CG 2 ok2 (JE g2_2)) (bg 0 (di CH 0 ok0 (JF g0_0)) ay)) 1000 Tryz.f62 (jT.inp.inj x).tm (jT.inp.inj x).hp (fnK jT W3 Q) (fun _ _ => False) = (W5 ok0 g0_0 ok2 g2_2 (x.1.1) (x.1.2.1)).wpR Q := by kernel_rfl
theorem ae6 (ok0 : c8 → Bool) (g0_0 : c8 → lI) (ok2 : dr → Bool) (g2_2 : dr → lH) (h0 : ∀ s : c8, ok0 s = true → ∃ m e, aq (CJ) m s = some e ∧ (JF g0_0 s).run = some e) (h2 : ∀ s : dr, ok2 s = true → ∃ m e, aq (CI) m s = some e ∧ (JE g2_2 s).run = some e) (pre : M9 → Bool) (F : M9 → OT jT.Y) (hF : ∀ (x : M9) oy, pre x = true → (F x).run = some oy → (W5 ok0 g0_0 ok2 g2_2 (x.1.1) (x.1.2.1)).run = some oy) : ac Tryz.prog 62 (jT.aH pre F) :=
  aC au kD pR (f := 62) (fn := Tryz.f62) (c := ao Tryz.f62) (by kernel_rfl) (by kernel_rfl) (by kernel_rfl) (S := jT) (k := 0) (by kernel_rfl) (fun R hR => (aF (c := (ao Tryz.f62)) (by kernel_rfl) (id := 2) (by kernel_rfl) (bt au kD pR (sh := CG) hR (xs := ae3) (aG (by kernel_rfl) (by kernel_rfl) hR) aW af (n := 1000) (T := CI) (fun s Q => apG s Q) (ok := ok2) (f := JE g2_2) h2) (aF (c := (ao Tryz.f62)) (by kernel_rfl) (id := 0) (by kernel_rfl) (bt au kD pR (sh := CH) hR (xs := ae4) (aG (by kernel_rfl) (by kernel_rfl) hR) aW af (n := 1000) (T := CJ) (fun s Q => apH s Q) (ok := ok0) (f := JF g0_0) h0) af))) (n := 1000) (sel := W3) (fun v o h => by cases h; rfl) (pre := pre) (F := F) (T := fun x => W5 ok0 g0_0 ok2 g2_2 (x.1.1) (x.1.2.1)) (fun x Q => asl ok0 g0_0 ok2 g2_2 x Q) hF
theorem ast {r w m : Nat} : ((r * 4294967296 + w / 4294967296) % m * 4294967296 + w % 4294967296) % m = (r * 18446744073709551616 + w) % m := by
  have e : (r * 4294967296 + w / 4294967296) * 4294967296 + w % 4294967296 = r * 18446744073709551616 + w := by omega
  rw [Nat.add_mod, Nat.mul_mod, Nat.mod_mod, ← Nat.mul_mod, ← Nat.add_mod, e]
theorem ap6 {r w m : UInt64} (hs : eY m = true) (hr : r.toNat < m.toNat) : (cA ((cA r 32 + bA w 32) % m) 32 + (w &&& 4294967295)) % m = Pb r w m := by
  have hm := jF hs
  have hb : m.toNat ≤ 16521217 := by rcases dw hs with rfl | rfl <;> decide
  have hw := w.toNat_lt
  have e1 : (cA r 32).toNat = r.toNat * 4294967296 := by
    have : (cA r 32).toNat = r.toNat * 2 ^ 32 % 2 ^ 64 := lC r 32 (by omega)
    rw [this]
    omega
  have e2 : (bA w 32).toNat = w.toNat / 4294967296 := gg w 32 (by omega)
  have e3 : ((cA r 32 + bA w 32) % m).toNat = (r.toNat * 4294967296 + w.toNat / 4294967296) % m.toNat := by
    rw [UInt64.toNat_mod, UInt64.toNat_add, e1, e2, Nat.mod_eq_of_lt (a := r.toNat * 4294967296 + w.toNat / 4294967296) (by omega)]
  generalize (cA r 32 + bA w 32) % m = q at e3
  have hq : q.toNat < m.toNat := by rw [e3]; exact Nat.mod_lt _ hm
  have e4 : (cA q 32).toNat = q.toNat * 4294967296 := by
    have : (cA q 32).toNat = q.toNat * 2 ^ 32 % 2 ^ 64 := lC q 32 (by omega)
    rw [this]
    omega
  rw [← UInt64.toNat_inj, nr hm, UInt64.toNat_mod, UInt64.toNat_add, e4, iq, Nat.mod_eq_of_lt (a := q.toNat * 4294967296 + w.toNat % 4294967296) (by omega), e3, ast]
def BD (s : c8) : Bool := decide (s.1.2.2.2.1 = 0 ∧ s.1.2.2.2.2.1 = 3 ∧ s.2.1.length = 4) && eY s.1.2.2.1
def Rj (s : c8) : lI := (((), ase s.2.1 s.1.2.2.1, ()), (s.2.2.1, ()))
theorem apJ : ∀ s : c8, BD s = true → ∃ m e, aq CJ m s = some e ∧ (JF Rj s).run = some e := by
  rintro ⟨⟨⟨⟩, ⟨⟩, sm, r, i, ⟨⟩⟩, ⟨c1, c2, ⟨⟩⟩⟩ h
  simp only [BD, Bool.and_eq_true, decide_eq_true_eq] at h
  obtain ⟨⟨rfl, rfl, hl⟩, hs⟩ := h
  have hm := jF hs
  have hz : (!(sm == 0)) = true := by rcases dw hs with rfl | rfl <;> rfl
  have := (bP (T := CJ) (fun k r => ((((), (), sm, r, 3 - (k : Int), ()), (c1, c2, ())) : c8)) (fun k r => Pb r (c1.getD (3 - k) 0) sm)
    (fun r => (⟨(.exit 0, uX), (((), r, ()), (c2, ()))⟩ : aP)) 4 0 (fun _ r => r.toNat < sm.toNat) hm (fun k r hk hr => ⟨?_, ?_⟩) (fun r hr => ?_)).1
  · obtain ⟨m, hm⟩ := this
    exact ⟨m, _, hm, rfl⟩
  · have e1 : (3 - (k : Int)).toNat = 3 - k := by omega
    have e2 : (3 : Int) - (k : Int) - 1 = 3 - ((k + 1 : Nat) : Int) := by omega
    refine (OT.ap (decide_eq_true (by dsimp only; omega))).trans ((al ?_).trans ?_)
    · simp only [e1, Nat.add_zero, hl, hz, List.all_cons, List.all_nil, Bool.and_true, Bool.true_and, Bool.and_eq_true]
      exact ⟨bD (by omega), decide_eq_true (by omega), bD (by omega), decide_eq_true (by omega), bE (by omega)⟩
    · simp only [OT.jG, e1, e2, Nat.add_zero, ap6 hs hr]
  · rw [nr hm]
    exact Nat.mod_lt _ hm
  · exact OT.aw (decide_eq_false (by dsimp only; omega))
def JD (s : dr) : Bool := decide (s.2.1.length = 4 ∧ s.2.2.2.1.length = 4 ∧ 0 < (elemOf s.2.2.2.1).nat)
def Ri (s : dr) : lH := (((), (), ()), (lst (ofN ((elemOf s.2.1).nat % (elemOf s.2.2.2.1).nat)), s.2.2.1, ()))
theorem ZJ {M : aa} {c2 : List UInt64} (hm : 0 < M.nat) : ∀ (n : Nat) (a : aa), a.nat = n →
    ∃ m, aq CI m (((), (), (), ()), (lst a, c2, lst M, ())) = some ⟨(.exit 2, uW), (((), (), ()), (lst (ofN (a.nat % M.nat)), c2, ()))⟩ := by
  intro n
  induction n using Nat.strongRecOn with
  | _ n ih =>
    intro a hn
    rcases (Bool.eq_false_or_eq_true (Nat.blt a.nat M.nat)).symm with hb | hb
    · have hle : M.nat ≤ a.nat := by
        rcases Nat.lt_or_ge a.nat M.nat with h | h
        · have : Nat.blt a.nat M.nat = true := Nat.ble_eq_true_of_le h
          rw [this] at hb; cases hb
        · exact h
      have hd := mJ hle
      obtain ⟨m, hm2⟩ := ih (a.nat - M.nat) (by omega) (lk a M).1 hd
      rw [hd, ← Nat.mod_eq_sub_mod hle] at hm2
      refine ⟨m + 1, aM ?_ hm2⟩
      refine (al rfl).trans ((OT.ap (b := !Nat.blt a.nat M.nat) (by rw [hb]; rfl)).trans ((al rfl).trans rfl))
    · have hlt := cL hb
      rw [Nat.mod_eq_of_lt hlt, qW]
      refine ⟨1, aL ?_⟩
      exact (al rfl).trans (OT.aw (b := !Nat.blt a.nat M.nat) (by rw [hb]; rfl))
theorem apI : ∀ s : dr, JD s = true → ∃ m e, aq CI m s = some e ∧ (JE Ri s).run = some e := by
  rintro ⟨⟨⟨⟩, ⟨⟩, ⟨⟩, ⟨⟩⟩, ⟨l, c2, l2, ⟨⟩⟩⟩ h
  have h' := of_decide_eq_true h
  dsimp only at h'
  obtain ⟨h1, h2, h3⟩ := h'
  obtain ⟨a, rfl⟩ : ∃ a, l = lst a := ⟨elemOf l, (bl h1).symm⟩
  obtain ⟨M, rfl⟩ : ∃ a, l2 = lst a := ⟨elemOf l2, (bl h2).symm⟩
  obtain ⟨m, hm⟩ := ZJ (c2 := c2) (M := M) h3 _ a rfl
  exact ⟨m, _, hm, rfl⟩
def ofP (p : Nat) (a : aa) : aa := ofN (a.nat % p)
def W4 (_ : M9) : Bool := true
def anf (x : M9) : OT jT.Y := .br (ak x.1.1) (.ok ⟨lp, ((ofP (pS x.1.1) x.1.2.1, ()), ())⟩) (.ok ⟨lp, ((⟨0, 0, 0, 0⟩, ()), ())⟩)
theorem Ob {a : aa} {p : Nat} {m : UInt64} (hp : p = m.toNat) (hs : eY m = true) : (⟨ase (lst a) m, 0, 0, 0⟩ : aa) = ofP p a := by
  have hm := jF hs
  unfold ofP
  rw [WM hs, hp, oY (n := a.nat % m.toNat) (Nat.lt_trans (Nat.mod_lt _ hm) m.toNat_lt)]
theorem Xz {s : Int} {a : aa} (h0 : (s == 0) = false) (h1 : (s == 1) = false) (hs : ak s = true) : (W5 BD Rj JD Ri s a).run = some ⟨lp, ((ofP (pS s) a, ()), ())⟩ := by
  refine (OT.aw h0).trans ((OT.aw h1).trans ((OT.ap hs).trans ((al ?_).trans rfl)))
  simp only [List.all_cons, List.all_nil, Bool.and_true, Bool.and_eq_true]
  exact ⟨decide_eq_true ⟨rfl, rfl, (fx hs).1⟩, rfl, rfl, rfl⟩
theorem ae5 : ac Tryz.prog 62 (jT.aH W4 anf) := ae6 BD Rj JD Ri apJ apI _ _ fun x oy _ ho => by
  rw [← ho]
  clear ho
  obtain ⟨⟨s, a, ⟨⟩⟩, ⟨⟩⟩ := x
  rcases (Bool.eq_false_or_eq_true (ak s)).symm with hs | hs
  · obtain ⟨h0, h1, _, _⟩ := qj hs
    exact (OT.aw h0).trans ((OT.aw h1).trans ((OT.aw hs).trans (OT.aw (b := ak s) hs).symm))
  · refine Eq.trans ?_ (OT.ap (b := ak s) hs).symm
    show _ = some (⟨lp, ((ofP (pS s) a, ()), ())⟩ : jT.Y)
    rcases cr hs with rfl | rfl | rfl | rfl
    · rw [← Ob (a := a) (p := pS 0) (m := 16513537) (by decide +kernel) rfl]
      refine (OT.ap rfl).trans ((al ?_).trans rfl)
      exact rfl
    · rw [← Ob (a := a) (p := pS 1) (m := 16521217) (by decide +kernel) rfl]
      refine (OT.aw rfl).trans ((OT.ap rfl).trans ((al ?_).trans rfl))
      exact rfl
    · exact Xz rfl rfl rfl
    · exact Xz rfl rfl rfl
def CF : cG := (jT.aH W4 anf)
theorem ZK : ac Tryz.prog 62 CF := ae5
theorem ZI : aK CF := aB
def Qa : Env := aA 62 CF nB
theorem Ff : aV Tryz.prog Qa := ai ZK kD
theorem Fg : ax Qa := ae ZI wh
theorem ab8 : aZ Tryz.prog te Qa := aN follows au Ff Fg
def fL : av := ⟨[.val false .int, .val true .elem, .val true .elem], [], true, 0, false⟩
abbrev Hj : Type := ((Int) × (aa) × (aa) × Unit) × (Unit)
def cu : az := ⟨[.val true .elem], [], false⟩
def NB : SV → Option az := fun _ => some cu
def RP (a0 : Int) (a1 : aa) (a2 : aa) : OT fL.Y :=
  let z0 : Bool := ak a0
  let z1 : UInt64 := LY a0
  let z2 : Bool := !z1 == (0 : UInt64)
  let z3 : Nat := pS a0
  let z4 : aa := ofP z3 a1
  let z5 := z4.w0
  let z6 : aa := ofP z3 a2
  let z7 := z6.w0
  let z8 : aa := { w0 := (z5 + z7) % z1, w1 := 0, w2 := 0, w3 := 0 }
  let z9 : aa := { w0 := (z5 + (0 : UInt64)) % z1, w1 := 0, w2 := 0, w3 := 0 }
  let z10 : aa := { w0 := ((0 : UInt64) + z7) % z1, w1 := 0, w2 := 0, w3 := 0 }
  let z11 : aa := { w0 := 0 % z1, w1 := 0, w2 := 0, w3 := 0 }
  let z12 : aa := { w0 := 0, w1 := 0, w2 := 0, w3 := 0 }
  (.br (a0 == (0 : Int))
  (.br (z0)
    (.br (z0)
      (gd [z2] (.ok ⟨cu, ((z8, ()), ())⟩))
      (gd [z2] (.ok ⟨cu, ((z9, ()), ())⟩)))
    (.br (z0)
      (gd [z2] (.ok ⟨cu, ((z10, ()), ())⟩))
      (gd [z2] (.ok ⟨cu, ((z11, ()), ())⟩))))
  (.br (a0 == (1 : Int))
    (.br (z0)
      (.br (z0)
        (gd [z2] (.ok ⟨cu, ((z8, ()), ())⟩))
        (gd [z2] (.ok ⟨cu, ((z9, ()), ())⟩)))
      (.br (z0)
        (gd [z2] (.ok ⟨cu, ((z10, ()), ())⟩))
        (gd [z2] (.ok ⟨cu, ((z11, ()), ())⟩))))
    (.br (z0)
      (.br (z0)
        (.br (z0)
          (.ok ⟨cu, ((ofP z3 (ui z4 z6).fst, ()), ())⟩)
          (.ok ⟨cu, ((z12, ()), ())⟩))
        (.br (z0)
          (.ok ⟨cu, ((ofP z3 (ui z4 z12).fst, ()), ())⟩)
          (.ok ⟨cu, ((z12, ()), ())⟩)))
      (.br (z0)
        (.br (z0)
          (.ok ⟨cu, ((ofP z3 (ui z12 z6).fst, ()), ())⟩)
          (.ok ⟨cu, ((z12, ()), ())⟩))
        (.br (z0)
          (.ok ⟨cu, ((ofP z3 z12, ()), ())⟩)
          (.ok ⟨cu, ((z12, ()), ())⟩))))))
theorem apV (x : Hj) (Q : fL.Y → Prop) : wpf te Qa ay 1000 Tryz.f134 (fL.inp.inj x).tm (fL.inp.inj x).hp (fnK fL NB Q) (fun _ _ => False) = (RP (x.1.1) (x.1.2.1) (x.1.2.2.1)).wpR Q := by kernel_rfl
theorem Z7 (pre : Hj → Bool) (F : Hj → OT fL.Y) (hF : ∀ (x : Hj) oy, pre x = true → (F x).run = some oy → (RP (x.1.1) (x.1.2.1) (x.1.2.2.1)).run = some oy) : ac Tryz.prog 134 (fL.aH pre F) :=
  aC au Ff ab8 (f := 134) (fn := Tryz.f134) (c := ao Tryz.f134) (by kernel_rfl) (by kernel_rfl) (by kernel_rfl) (S := fL) (k := 0) (by kernel_rfl) (fun R hR => af) (n := 1000) (sel := NB) (fun v o h => by cases h; rfl) (pre := pre) (F := F) (T := fun x => RP (x.1.1) (x.1.2.1) (x.1.2.2.1)) (fun x Q => apV x Q) hF
theorem vt {s : Int} (h : s = 0 ∨ s = 1) : pS s = (LY s).toNat ∧ 0 < (LY s).toNat ∧ (LY s).toNat ≤ 16521217 ∧ (!(LY s == 0)) = true := by
  rcases h with rfl | rfl <;> exact ⟨by decide +kernel, by decide +kernel, by decide +kernel, rfl⟩
theorem ab3 {s : Int} (h : s = 0 ∨ s = 1) (a b : aa) : (⟨((ofP (pS s) a).w0 + (ofP (pS s) b).w0) % LY s, 0, 0, 0⟩ : aa) = n7 (pS s) a b := by
  obtain ⟨hp, h0, h1, _⟩ := vt h
  rw [hp]
  generalize LY s = m at *
  have ha := Nat.mod_lt a.nat h0
  have hb := Nat.mod_lt b.nat h0
  have hc := Nat.mod_lt (a.nat + b.nat) h0
  unfold n7
  rw [oY (by omega)]
  have e : ((ofP m.toNat a).w0 + (ofP m.toNat b).w0) % m = UInt64.ofNat ((a.nat + b.nat) % m.toNat) := by
    show (UInt64.ofNat (a.nat % m.toNat) + UInt64.ofNat (b.nat % m.toNat)) % m = _
    rw [← UInt64.toNat_inj, UInt64.toNat_mod, UInt64.toNat_add, UInt64.toNat_ofNat', UInt64.toNat_ofNat', UInt64.toNat_ofNat', Nat.mod_eq_of_lt (a := a.nat % m.toNat) (by omega), Nat.mod_eq_of_lt (a := b.nat % m.toNat) (by omega),
      Nat.mod_eq_of_lt (a := a.nat % m.toNat + b.nat % m.toNat) (by omega), Nat.mod_eq_of_lt (a := (a.nat + b.nat) % m.toNat) (by omega), ← Nat.add_mod]
  rw [e]
def oM (x : Hj) : Bool := ak x.1.1
def afp (x : Hj) : OT fL.Y := .ok ⟨cu, ((n7 (pS x.1.1) x.1.2.1 x.1.2.2.1, ()), ())⟩
theorem alq : ac Tryz.prog 134 (fL.aH oM afp) := Z7 _ _ fun x oy hp ho => by
  rw [← ho]
  clear ho
  obtain ⟨⟨s, a, b, ⟨⟩⟩, ⟨⟩⟩ := x
  have hs : ak s = true := hp
  show _ = some (⟨cu, ((n7 (pS s) a b, ()), ())⟩ : fL.Y)
  have little : (s = 0 ∨ s = 1) → (gd [!(LY s == 0)] (.ok ⟨cu, ((⟨((ofP (pS s) a).w0 + (ofP (pS s) b).w0) % LY s, 0, 0, 0⟩, ()), ())⟩) : OT fL.Y).run = some (⟨cu, ((n7 (pS s) a b, ()), ())⟩ : fL.Y) := fun h => by
    obtain ⟨_, _, _, hz⟩ := vt h
    rw [ab3 h]
    exact al (by simp only [hz, List.all_cons, List.all_nil, Bool.and_true])
  by_cases h0 : s = 0
  · exact (OT.ap (by simpa using h0)).trans ((OT.ap hs).trans ((OT.ap hs).trans (little (.inl h0))))
  · refine (OT.aw (by simpa using h0)).trans ?_
    by_cases h1 : s = 1
    · exact (OT.ap (by simpa using h1)).trans ((OT.ap hs).trans ((OT.ap hs).trans (little (.inr h1))))
    · refine (OT.aw (by simpa using h1)).trans ((OT.ap hs).trans ((OT.ap hs).trans ((OT.ap hs).trans ?_)))
      have e : ofP (pS s) (ui (ofP (pS s) a) (ofP (pS s) b)).1 = n7 (pS s) a b := ail (fx hs) a b
      show some (⟨cu, ((ofP (pS s) (ui (ofP (pS s) a) (ofP (pS s) b)).1, ()), ())⟩ : fL.Y) = _
      rw [e]
def xZ : cG := (fL.aH oM afp)
theorem RO : ac Tryz.prog 134 xZ := alq
theorem RN : aK xZ := aB
def Fs : Env := aA 134 xZ Qa
theorem zC : aV Tryz.prog Fs := ai RO Ff
theorem AP : ax Fs := ae RN Fg
theorem Ug : aZ Tryz.prog te Fs := aN follows au zC AP
def iR : av := ⟨[.val false .int, .val true .elem], [], true, 0, false⟩
abbrev G6 : Type := ((Int) × (aa) × Unit) × (Unit)
def kM : az := ⟨[.val true .elem], [], false⟩
def Na : SV → Option az := fun _ => some kM
def Rm (a0 : Int) (a1 : aa) : OT iR.Y :=
  let z0 : Bool := ak a0
  let z1 : Nat := pS a0
  let z2 : aa := (bT (Int.toNat a0)).fst
  let z3 : aa := { w0 := 0, w1 := 0, w2 := 0, w3 := 0 }
  (.br (z0)
  (.br (z0)
    (.br (z0)
      (.ok ⟨kM, ((ofP z1 (lk z2 (ofP z1 a1)).fst, ()), ())⟩)
      (.ok ⟨kM, ((z3, ()), ())⟩))
    (.br (z0)
      (.ok ⟨kM, ((ofP z1 (lk z2 z3).fst, ()), ())⟩)
      (.ok ⟨kM, ((z3, ()), ())⟩)))
  (.ok ⟨kM, ((z3, ()), ())⟩))
theorem apM (x : G6) (Q : iR.Y → Prop) : wpf te Fs ay 1000 Tryz.f96 (iR.inp.inj x).tm (iR.inp.inj x).hp (fnK iR Na Q) (fun _ _ => False) = (Rm (x.1.1) (x.1.2.1)).wpR Q := by kernel_rfl
theorem ZL (pre : G6 → Bool) (F : G6 → OT iR.Y) (hF : ∀ (x : G6) oy, pre x = true → (F x).run = some oy → (Rm (x.1.1) (x.1.2.1)).run = some oy) : ac Tryz.prog 96 (iR.aH pre F) :=
  aC au zC Ug (f := 96) (fn := Tryz.f96) (c := ao Tryz.f96) (by kernel_rfl) (by kernel_rfl) (by kernel_rfl) (S := iR) (k := 0) (by kernel_rfl) (fun R hR => af) (n := 1000) (sel := Na) (fun v o h => by cases h; rfl) (pre := pre) (F := F) (T := fun x => Rm (x.1.1) (x.1.2.1)) (fun x Q => apM x Q) hF
theorem neg_eq {s : Int} (hs : ak s = true) (a : aa) : ofP (pS s) (lk (bT s.toNat).1 (ofP (pS s) a)).1 = Gm (pS s) a := by
  have hp := fx hs
  have hlt := Nat.mod_lt a.nat hp.1
  have e : (ofP (pS s) a).nat = a.nat % pS s := cH hp
  unfold Gm
  have e2 : (lk (bT s.toNat).1 (ofP (pS s) a)).1.nat = pS s - a.nat % pS s := by
    rw [mJ (by rw [e]; exact Nat.le_of_lt hlt), e]
    rfl
  show ofN (_ % _) = _
  rw [e2]
def oG (x : G6) : Bool := ak x.1.1
def ae7 (x : G6) : OT iR.Y := .ok ⟨kM, ((Gm (pS x.1.1) x.1.2.1, ()), ())⟩
theorem alb : ac Tryz.prog 96 (iR.aH oG ae7) := ZL _ _ fun x oy hp ho => by
  rw [← ho]
  clear ho
  obtain ⟨⟨s, a, ⟨⟩⟩, ⟨⟩⟩ := x
  have hs : ak s = true := hp
  show _ = some (⟨kM, ((Gm (pS s) a, ()), ())⟩ : iR.Y)
  rw [← neg_eq hs]
  exact (OT.ap hs).trans ((OT.ap hs).trans ((OT.ap hs).trans rfl))
def xK : cG := (iR.aH oG ae7)
theorem Rl : ac Tryz.prog 96 xK := alb
theorem Rk : aK xK := aB
def Fh : Env := aA 96 xK Fs
theorem zr : aV Tryz.prog Fh := ai Rl zC
theorem AF : ax Fh := ae Rk AP
theorem T9 : aZ Tryz.prog te Fh := aN follows au zr AF
def jR : av := ⟨[.val false .int, .val true .elem, .val true .elem], [], true, 0, false⟩
abbrev G1 : Type := ((Int) × (aa) × (aa) × Unit) × (Unit)
def Jz : az := ⟨[.val true .elem], [], false⟩
def MY : SV → Option az := fun _ => some Jz
def Rd (a0 : Int) (a1 : aa) (a2 : aa) : OT jR.Y :=
  let z0 : Nat := pS a0
  let z1 : aa := Gm z0 a2
  (gd [oG ((a0, a2, ()), ()), oM ((a0, a1, z1, ()), ())] (.ok ⟨Jz, ((n7 z0 a1 z1, ()), ())⟩))
theorem apF (x : G1) (Q : jR.Y → Prop) : wpf te Fh ay 1000 Tryz.f172 (jR.inp.inj x).tm (jR.inp.inj x).hp (fnK jR MY Q) (fun _ _ => False) = (Rd (x.1.1) (x.1.2.1) (x.1.2.2.1)).wpR Q := by kernel_rfl
theorem ZH (pre : G1 → Bool) (F : G1 → OT jR.Y) (hF : ∀ (x : G1) oy, pre x = true → (F x).run = some oy → (Rd (x.1.1) (x.1.2.1) (x.1.2.2.1)).run = some oy) : ac Tryz.prog 172 (jR.aH pre F) :=
  aC au zr T9 (f := 172) (fn := Tryz.f172) (c := ao Tryz.f172) (by kernel_rfl) (by kernel_rfl) (by kernel_rfl) (S := jR) (k := 0) (by kernel_rfl) (fun R hR => af) (n := 1000) (sel := MY) (fun v o h => by cases h; rfl) (pre := pre) (F := F) (T := fun x => Rd (x.1.1) (x.1.2.1) (x.1.2.2.1)) (fun x Q => apF x Q) hF
def eg (x : G1) : Bool := ak x.1.1
def aeQ (x : G1) : OT jR.Y := .ok ⟨Jz, ((e9 (pS x.1.1) x.1.2.1 x.1.2.2.1, ()), ())⟩
theorem ak7 : ac Tryz.prog 172 (jR.aH eg aeQ) := ZH _ _ fun x oy hp ho => by
  rw [← ho]
  clear ho
  obtain ⟨⟨s, a, b, ⟨⟩⟩, ⟨⟩⟩ := x
  have hs : ak s = true := hp
  refine (al ?_).trans rfl
  simp only [List.all_cons, List.all_nil, Bool.and_true, Bool.and_eq_true]
  exact ⟨hs, hs⟩
def xE : cG := (jR.aH eg aeQ)
theorem Rc : ac Tryz.prog 172 xE := ak7
theorem Rb : aK xE := aB
def zp : Env := aA 172 xE Fh
theorem rK : aV Tryz.prog zp := ai Rc zr
theorem AD : ax zp := ae Rb AF
theorem Fc : aZ Tryz.prog te zp := aN follows au rK AD
def fK : av := ⟨[.val false .int, .val true .elem, .val true .elem], [], true, 0, false⟩
abbrev G7 : Type := ((Int) × (aa) × (aa) × Unit) × (Unit)
def uY : Shape := ⟨80, [(4, .ptr 0 0 0), (5, .ptr 1 0 0), (6, .ptr 2 0 0), (7, .ptr 3 0 0), (9, .ptr 4 0 0), (10, .val false .int)], [(0, .row .u64), (1, .row .u64), (2, .row .u64), (3, .row .u64), (4, .row .u64)], 0, true⟩
abbrev bR : Type := ((Unit) × (Unit) × (Unit) × (Unit) × (Unit) × (Int) × Unit) × ((List (UInt64)) × (List (UInt64)) × (List (UInt64)) × (List (UInt64)) × (List (UInt64)) × Unit)
def qC : Shape := ⟨80, [(6, .ptr 0 0 0), (9, .ptr 1 0 0)], [(0, .row .u64), (1, .row .u64)], 0, true⟩
abbrev jU : Type := ((Unit) × (Unit) × Unit) × ((List (UInt64)) × (List (UInt64)) × Unit)
def W6 : SE → Option Shape := jr [(0, qC)] none
def JG (a10 : Int) (c0 : List (UInt64)) (c1 : List (UInt64)) (c2 : List (UInt64)) (c3 : List (UInt64)) (c4 : List (UInt64)) : OT (Sum bR aP) :=
  let z0 : Nat := List.length c4
  let z1 : Bool := decide (4 ≤ z0)
  let z2 : aa := { w0 := List.getD c4 0 0, w1 := List.getD c4 1 0, w2 := List.getD c4 2 0, w3 := List.getD c4 3 0 }
  let z3 := (ui z2 z2).fst
  let z4 : List UInt64 := List.set (List.set (List.set (List.set c4 0 z3.w0) 1 z3.w1) 2 z3.w2) 3 z3.w3
  let z5 : Nat := List.length z4
  let z6 : Bool := decide (4 ≤ z5)
  let z7 : Bool := decide (4 ≤ List.length c3)
  let z8 : aa := { w0 := List.getD z4 0 0, w1 := List.getD z4 1 0, w2 := List.getD z4 2 0, w3 := List.getD z4 3 0 }
  let z9 : aa := { w0 := List.getD c3 0 0, w1 := List.getD c3 1 0, w2 := List.getD c3 2 0, w3 := List.getD c3 3 0 }
  let z10 : Nat := aa.nat z9
  let z11 : Int := Int.tdiv a10 (64 : Int)
  let z12 : Bool := true && inR z11
  let z13 : Bool := inB z11 4
  let z14 : Bool := decide (Int.toNat z11 + 0 < List.length c1)
  let z15 := (lk z8 z9).fst
  let z16 : List UInt64 := List.set (List.set (List.set (List.set z4 0 z15.w0) 1 z15.w1) 2 z15.w2) 3 z15.w3
  let z17 : Nat := List.length z16
  let z18 : Bool := decide (4 ≤ List.length c0)
  let z19 : aa := { w0 := List.getD c0 0 0, w1 := List.getD c0 1 0, w2 := List.getD c0 2 0, w3 := List.getD c0 3 0 }
  let z20 : aa := (ui { w0 := List.getD z16 0 0, w1 := List.getD z16 1 0, w2 := List.getD z16 2 0, w3 := List.getD z16 3 0 } z19).fst
  let z21 : List UInt64 := List.set (List.set (List.set (List.set z16 0 z20.w0) 1 z20.w1) 2 z20.w2) 3 z20.w3
  let z22 : Nat := List.length z21
  let z23 : Bool := decide (4 ≤ z22)
  let z24 : aa := { w0 := List.getD z21 0 0, w1 := List.getD z21 1 0, w2 := List.getD z21 2 0, w3 := List.getD z21 3 0 }
  let z25 : Bool := inR (a10 - (1 : Int))
  let z26 := (lk z24 z9).fst
  let z27 := (ui z8 z19).fst
  let z28 : List UInt64 := List.set (List.set (List.set (List.set z4 0 z27.w0) 1 z27.w1) 2 z27.w2) 3 z27.w3
  let z29 : Nat := List.length z28
  let z30 : Bool := decide (4 ≤ z29)
  let z31 : aa := { w0 := List.getD z28 0 0, w1 := List.getD z28 1 0, w2 := List.getD z28 2 0, w3 := List.getD z28 3 0 }
  let z32 := (lk z31 z9).fst
  (.br (decide ((0 : Int) ≤ a10))
  (gd [z1, z1, decide ((4 / 1 : Nat) + 0 ≤ z0), z6, z7] (.br (!Nat.blt (aa.nat z8) z10)
    (gd [z6, z7, decide ((4 / 1 : Nat) + 0 ≤ z5), z12, z13, z14] (.br (bA (List.getD c1 (Int.toNat z11 + 0) (0 : UInt64)) (↑(UInt64.toNat (i2u (Int.tmod a10 (64 : Int)))) : Int) &&& (1 : UInt64) == (1 : UInt64))
      (gd [decide (4 ≤ z17), z18, decide ((4 / 1 : Nat) + 0 ≤ z17), z23, z7] (.br (!Nat.blt (aa.nat z24) z10)
        (gd [z23, z7, decide ((4 / 1 : Nat) + 0 ≤ z22), z25] (.ok (.inl (((), ((), ((), ((), ((), (a10 - (1 : Int), ())))))), (c0, (c1, (c2, (c3, (List.set (List.set (List.set (List.set z21 0 z26.w0) 1 z26.w1) 2 z26.w2) 3 z26.w3, ())))))))))
        (gd [z25] (.ok (.inl (((), ((), ((), ((), ((), (a10 - (1 : Int), ())))))), (c0, (c1, (c2, (c3, (z21, ())))))))))))
      (gd [z25] (.ok (.inl (((), ((), ((), ((), ((), (a10 - (1 : Int), ())))))), (c0, (c1, (c2, (c3, (z16, ())))))))))))
    (gd [z12, z13, z14] (.br (bA (List.getD c1 (Int.toNat z11 + 0) (0 : UInt64)) (↑(UInt64.toNat (i2u (Int.tmod a10 (64 : Int)))) : Int) &&& (1 : UInt64) == (1 : UInt64))
      (gd [z6, z18, decide ((4 / 1 : Nat) + 0 ≤ z5), z30, z7] (.br (!Nat.blt (aa.nat z31) z10)
        (gd [z30, z7, decide ((4 / 1 : Nat) + 0 ≤ z29), z25] (.ok (.inl (((), ((), ((), ((), ((), (a10 - (1 : Int), ())))))), (c0, (c1, (c2, (c3, (List.set (List.set (List.set (List.set z28 0 z32.w0) 1 z32.w1) 2 z32.w2) 3 z32.w3, ())))))))))
        (gd [z25] (.ok (.inl (((), ((), ((), ((), ((), (a10 - (1 : Int), ())))))), (c0, (c1, (c2, (c3, (z28, ())))))))))))
      (gd [z25] (.ok (.inl (((), ((), ((), ((), ((), (a10 - (1 : Int), ())))))), (c0, (c1, (c2, (c3, (z4, ())))))))))))))
  (.ok (.inr ⟨(.exit 0, qC), (((), ((), ())), (c2, (c4, ())))⟩)))
def qD (s : bR) : OT (Sum bR aP) := JG (s.1.2.2.2.2.2.1) (s.2.1) (s.2.2.1) (s.2.2.2.1) (s.2.2.2.2.1) (s.2.2.2.2.2.1)
theorem alc (s : bR) (Q : Sum bR aP → Prop) : wps te zp ay 1000 (bF (ao Tryz.f113) 0) (uY.inj s) (cQ uY W6 (Q : Sum uY.T aP → Prop)) = (qD s).wpR Q := by kernel_rfl
def BE (g0_0 : bR → jU) (s : bR) : OT aP := (.ok ⟨(.exit 0, qC), g0_0 s⟩)
def cS : az := ⟨[.val true .elem], [], false⟩
def Nb : SV → Option az := fun _ => some cS
def Rp (ok0 : bR → Bool) (g0_0 : bR → jU) (a0 : Int) (a1 : aa) (a2 : aa) : OT fK.Y :=
  let z0 : Bool := ak a0
  let z1 : UInt64 := LY a0
  let z2 : Bool := !z1 == (0 : UInt64)
  let z3 : Nat := pS a0
  let z4 : aa := ofP z3 a1
  let z5 := z4.w0
  let z6 : aa := ofP z3 a2
  let z7 := z6.w0
  let z8 : aa := { w0 := z5 * z7 % z1, w1 := 0, w2 := 0, w3 := 0 }
  let z9 : aa := { w0 := z5 * (0 : UInt64) % z1, w1 := 0, w2 := 0, w3 := 0 }
  let z10 : aa := { w0 := 0 * z7 % z1, w1 := 0, w2 := 0, w3 := 0 }
  let z11 : aa := { w0 := 0 % z1, w1 := 0, w2 := 0, w3 := 0 }
  let z12 : PUnit × PUnit × PUnit × PUnit × PUnit × Int × PUnit := ((), (), (), (), (), (255 : Int), ())
  let z13 : aa := (bT (Int.toNat a0)).fst
  let z14 : List UInt64 × List UInt64 × List UInt64 × PUnit := ([(0 : UInt64), (0 : UInt64), (0 : UInt64), (0 : UInt64)], [z13.w0, z13.w1, z13.w2, z13.w3], [(0 : UInt64), (0 : UInt64), (0 : UInt64), (0 : UInt64)], ())
  let z15 : List UInt64 × List UInt64 × List UInt64 × List UInt64 × PUnit := ([z7, z6.w1, z6.w2, z6.w3], z14)
  let z16 : (PUnit × PUnit × PUnit × PUnit × PUnit × Int × PUnit) × List UInt64 × List UInt64 × List UInt64 × List UInt64 × List UInt64 × PUnit := (z12, [z5, z4.w1, z4.w2, z4.w3], z15)
  let z17 := (g0_0 z16).snd
  let z18 := z17.snd.fst
  let z19 := z17.fst
  let z20 : List UInt64 := lay z19 z18 4 (0 : UInt64)
  let z21 : List UInt64 × List UInt64 × List UInt64 × List UInt64 × PUnit := ([(0 : UInt64), (0 : UInt64), (0 : UInt64), (0 : UInt64)], z14)
  let z22 : (PUnit × PUnit × PUnit × PUnit × PUnit × Int × PUnit) × List UInt64 × List UInt64 × List UInt64 × List UInt64 × List UInt64 × PUnit := (z12, [z5, z4.w1, z4.w2, z4.w3], z21)
  let z23 := (g0_0 z22).snd
  let z24 := z23.snd.fst
  let z25 := z23.fst
  let z26 : List UInt64 := lay z25 z24 4 (0 : UInt64)
  let z27 : (PUnit × PUnit × PUnit × PUnit × PUnit × Int × PUnit) × List UInt64 × List UInt64 × List UInt64 × List UInt64 × List UInt64 × PUnit := (z12, [(0 : UInt64), (0 : UInt64), (0 : UInt64), (0 : UInt64)], z15)
  let z28 := (g0_0 z27).snd
  let z29 := z28.snd.fst
  let z30 := z28.fst
  let z31 : List UInt64 := lay z30 z29 4 (0 : UInt64)
  let z32 : (PUnit × PUnit × PUnit × PUnit × PUnit × Int × PUnit) × List UInt64 × List UInt64 × List UInt64 × List UInt64 × List UInt64 × PUnit := (z12, [(0 : UInt64), (0 : UInt64), (0 : UInt64), (0 : UInt64)], z21)
  let z33 := (g0_0 z32).snd
  let z34 := z33.snd.fst
  let z35 := z33.fst
  let z36 : List UInt64 := lay z35 z34 4 (0 : UInt64)
  (.br (a0 == (0 : Int))
  (.br (z0)
    (.br (z0)
      (gd [z2] (.ok ⟨cS, ((z8, ()), ())⟩))
      (gd [z2] (.ok ⟨cS, ((z9, ()), ())⟩)))
    (.br (z0)
      (gd [z2] (.ok ⟨cS, ((z10, ()), ())⟩))
      (gd [z2] (.ok ⟨cS, ((z11, ()), ())⟩))))
  (.br (a0 == (1 : Int))
    (.br (z0)
      (.br (z0)
        (gd [z2] (.ok ⟨cS, ((z8, ()), ())⟩))
        (gd [z2] (.ok ⟨cS, ((z9, ()), ())⟩)))
      (.br (z0)
        (gd [z2] (.ok ⟨cS, ((z10, ()), ())⟩))
        (gd [z2] (.ok ⟨cS, ((z11, ()), ())⟩))))
    (.br (z0)
      (.br (z0)
        (.br (z0)
          (gd [ok0 z16, decide (4 ≤ List.length z18), decide ((4 / 1 : Nat) + 0 ≤ List.length z19), decide (4 ≤ List.length z20)] (.ok ⟨cS, (({ w0 := List.getD z20 0 0, w1 := List.getD z20 1 0, w2 := List.getD z20 2 0, w3 := List.getD z20 3 0 }, ()), ())⟩))
          (gd [ok0 z22, decide (4 ≤ List.length z24), decide ((4 / 1 : Nat) + 0 ≤ List.length z25), decide (4 ≤ List.length z26)] (.ok ⟨cS, (({ w0 := List.getD z26 0 0, w1 := List.getD z26 1 0, w2 := List.getD z26 2 0, w3 := List.getD z26 3 0 }, ()), ())⟩)))
        (.br (z0)
          (gd [ok0 z27, decide (4 ≤ List.length z29), decide ((4 / 1 : Nat) + 0 ≤ List.length z30), decide (4 ≤ List.length z31)] (.ok ⟨cS, (({ w0 := List.getD z31 0 0, w1 := List.getD z31 1 0, w2 := List.getD z31 2 0, w3 := List.getD z31 3 0 }, ()), ())⟩))
          (gd [ok0 z32, decide (4 ≤ List.length z34), decide ((4 / 1 : Nat) + 0 ≤ List.length z35), decide (4 ≤ List.length z36)] (.ok ⟨cS, (({ w0 := List.getD z36 0 0, w1 := List.getD z36 1 0, w2 := List.getD z36 2 0, w3 := List.getD z36 3 0 }, ()), ())⟩))))
      (.ok ⟨cS, (({ w0 := 0, w1 := 0, w2 := 0, w3 := 0 }, ()), ())⟩))))
theorem apN (ok0 : bR → Bool) (g0_0 : bR → jU) (x : G7) (Q : fK.Y → Prop) : wpf te zp (bg 0 (di uY 0 ok0 (BE g0_0)) ay) 1000 Tryz.f113 (fK.inp.inj x).tm (fK.inp.inj x).hp (fnK fK Nb Q) (fun _ _ => False) = (Rp ok0 g0_0 (x.1.1) (x.1.2.1) (x.1.2.2.1)).wpR Q := by kernel_rfl
theorem ZM (ok0 : bR → Bool) (g0_0 : bR → jU) (h0 : ∀ s : bR, ok0 s = true → ∃ m e, aq (qD) m s = some e ∧ (BE g0_0 s).run = some e) (pre : G7 → Bool) (F : G7 → OT fK.Y) (hF : ∀ (x : G7) oy, pre x = true → (F x).run = some oy → (Rp ok0 g0_0 (x.1.1) (x.1.2.1) (x.1.2.2.1)).run = some oy) : ac Tryz.prog 113 (fK.aH pre F) :=
  aC au rK Fc (f := 113) (fn := Tryz.f113) (c := ao Tryz.f113) (by kernel_rfl) (by kernel_rfl) (by kernel_rfl) (S := fK) (k := 0) (by kernel_rfl) (fun R hR => (aF (c := (ao Tryz.f113)) (by kernel_rfl) (id := 0) (by kernel_rfl) (bt au rK Fc (sh := uY) hR (xs := W6) (aG (by kernel_rfl) (by kernel_rfl) hR) aW af (n := 1000) (T := qD) (fun s Q => alc s Q) (ok := ok0) (f := BE g0_0) h0) af)) (n := 1000) (sel := Nb) (fun v o h => by cases h; rfl) (pre := pre) (F := F) (T := fun x => Rp ok0 g0_0 (x.1.1) (x.1.2.1) (x.1.2.2.1)) (fun x Q => apN ok0 g0_0 x Q) hF
theorem aan {s : Int} (h : s = 0 ∨ s = 1) (a b : aa) : (⟨(ofP (pS s) a).w0 * (ofP (pS s) b).w0 % LY s, 0, 0, 0⟩ : aa) = aR (pS s) a b := by
  obtain ⟨hp, h0, h1, _⟩ := vt h
  rw [hp]
  generalize LY s = m at *
  have ha := Nat.mod_lt a.nat h0
  have hb := Nat.mod_lt b.nat h0
  have hc := Nat.mod_lt (a.nat * b.nat) h0
  have hab : a.nat % m.toNat * (b.nat % m.toNat) < 18446744073709551616 := by
    have : a.nat % m.toNat * (b.nat % m.toNat) ≤ 16521217 * 16521217 := Nat.mul_le_mul (by omega) (by omega)
    omega
  unfold aR
  rw [oY (n := a.nat * b.nat % m.toNat) (by omega)]
  have e : (ofP m.toNat a).w0 * (ofP m.toNat b).w0 % m = UInt64.ofNat (a.nat * b.nat % m.toNat) := by
    show UInt64.ofNat (a.nat % m.toNat) * UInt64.ofNat (b.nat % m.toNat) % m = _
    rw [← UInt64.toNat_inj, UInt64.toNat_mod, UInt64.toNat_mul, UInt64.toNat_ofNat', UInt64.toNat_ofNat', UInt64.toNat_ofNat', Nat.mod_eq_of_lt (a := a.nat % m.toNat) (by omega), Nat.mod_eq_of_lt (a := b.nat % m.toNat) (by omega),
      Nat.mod_eq_of_lt (a := a.nat % m.toNat * (b.nat % m.toNat)) (by omega), Nat.mod_eq_of_lt (a := a.nat * b.nat % m.toNat) (by omega), ← Nat.mul_mod]
  rw [e]
def vI (p a b : Nat) (n o : Nat) : Nat := cond (Bq b (255 - n)) ((2 * o % p + a) % p) (2 * o % p)
theorem ahr (p a b : Nat) (hb : b < 2 ^ 256) : ∀ n, n ≤ 256 → upto (vI p a b) 0 n = a * (b / 2 ^ (256 - n)) % p
  | 0, _ => by
    show 0 = _
    rw [Nat.div_eq_of_lt (by exact hb), Nat.mul_zero, Nat.zero_mod]
  | n + 1, hn => by
    show vI p a b n (upto (vI p a b) 0 n) = _
    rw [ahr p a b hb n (by omega)]
    have e1 : 256 - n = (255 - n) + 1 := by omega
    have e2 : 256 - (n + 1) = 255 - n := by omega
    rw [e1, e2, Nat.pow_succ, ← Nat.div_div_eq_div_mul]
    unfold vI Bq
    generalize b / 2 ^ (255 - n) = q
    have hd : 2 * (a * (q / 2) % p) % p = a * (2 * (q / 2)) % p := by
      rw [Nat.mul_mod, Nat.mod_mod, ← Nat.mul_mod, Nat.mul_left_comm]
    cases hq : Nat.beq (q % 2) 1
    · simp only [cond_false]
      have : ¬ q % 2 = 1 := fun e => by rw [e] at hq; cases hq
      rw [hd, show 2 * (q / 2) = q by omega]
    · have hq := Nat.eq_of_beq_eq_true hq
      simp only [cond_true]
      rw [hd, Nat.mod_add_mod]
      have e3 : a * (2 * (q / 2)) + a = a * q := by
        rw [← Nat.mul_succ, show (2 * (q / 2)).succ = q by omega]
      rw [e3]
theorem asg {z M : aa} (h : Nat.blt z.nat M.nat = true) : z = ofN (z.nat % M.nat) := by
  rw [Nat.mod_eq_of_lt (cL h), qW]
theorem afR {n m : Nat} (h : Nat.blt n m = false) : m ≤ n := by
  rcases Nat.lt_or_ge n m with h' | h'
  · have : Nat.blt n m = true := Nat.ble_eq_true_of_le h'
    rw [this] at h; cases h
  · exact h'
theorem asf {z M : aa} (h : Nat.blt z.nat M.nat = false) (h2 : z.nat < 2 * M.nat) : (lk z M).1 = ofN (z.nat % M.nat) := by
  have hle := afR h
  have hz := gD z
  apply j7
  rw [mJ hle, Nat.mod_eq_sub_mod hle, Nat.mod_eq_of_lt (by omega), ia (by omega)]
theorem sum_nat {a b : aa} (h : a.nat + b.nat < 115792089237316195423570985008687907853269984665640564039457584007913129639936) : (ui a b).1.nat = a.nat + b.nat := ia h
theorem agv {k : Nat} (hk : k < 64) : (((i2u (k : Int)).toNat : Nat) : Int) = (k : Int) := by
  unfold i2u
  rw [UInt64.toNat_ofNat']
  omega
theorem anI {b : aa} {n : Nat} (hn : n < 256) : (bA (List.getD (lst b) (Int.toNat (Int.tdiv (255 - (n : Int)) 64) + 0) 0) (((i2u (Int.tmod (255 - (n : Int)) 64)).toNat : Nat) : Int) &&& 1 == 1) = Bq b.nat (255 - n) := by
  have t0 : (255 : Int) - (n : Int) = ((255 - n : Nat) : Int) := by omega
  rw [t0]
  generalize hk : 255 - n = k
  have hk2 : k < 256 := by omega
  have t1 : Int.tdiv (k : Int) 64 = ((k / 64 : Nat) : Int) := by rw [Int.tdiv_eq_ediv_of_nonneg (by omega)]; omega
  have t2 : Int.tmod (k : Int) 64 = ((k % 64 : Nat) : Int) := by rw [Int.tmod_eq_emod_of_nonneg (by omega)]; omega
  rw [t1, t2, agv (by omega), TQ, gg _ _ (by omega), Int.toNat_natCast, Nat.add_zero]
  have := YZ (a := b) (q := k / 64) (r := k % 64) (by omega) (by omega)
  rw [show 64 * (k / 64) + k % 64 = k by omega] at this
  unfold Bq
  rw [← this]
theorem ars (e f : aa) : List.set (List.set (List.set (List.set (lst e) 0 f.w0) 1 f.w1) 2 f.w2) 3 f.w3 = lst f := rfl
theorem arA (e : aa) : (⟨List.getD (lst e) 0 0, List.getD (lst e) 1 0, List.getD (lst e) 2 0, List.getD (lst e) 3 0⟩ : aa) = e := rfl
def ahs (A B : aa) (c2 : List UInt64) (M : aa) (n o : Nat) : bR := (((), (), (), (), (), 255 - (n : Int), ()), (lst A, lst B, c2, lst M, lst (ofN o), ()))
theorem aq3 {A B M : aa} {c2 : List UInt64} {n o : Nat} (hn : n < 256) (hA : A.nat < M.nat) (ho : o < M.nat) (hM : 2 * M.nat ≤ 115792089237316195423570985008687907853269984665640564039457584007913129639936) :
    (qD (ahs A B c2 M n o)).run = some (.inl (ahs A B c2 M (n + 1) (vI M.nat A.nat B.nat n o))) := by
  have e2 : (255 : Int) - (n : Int) - 1 = 255 - ((n + 1 : Nat) : Int) := by omega
  have hO : (ofN o).nat = o := ia (by omega)
  have hz : (ui (ofN o) (ofN o)).1.nat = 2 * o := by rw [sum_nat (by omega), hO]; omega
  have hbit := anI (b := B) hn
  have t0 : (255 : Int) - (n : Int) = ((255 - n : Nat) : Int) := by omega
  have t1 : Int.tdiv (255 - (n : Int)) 64 = (((255 - n) / 64 : Nat) : Int) := by rw [t0, Int.tdiv_eq_ediv_of_nonneg (by omega)]; omega
  have gb : ∀ z : OT (Sum bR aP), (gd [true && inR (Int.tdiv (255 - (n : Int)) 64), inB (Int.tdiv (255 - (n : Int)) 64) 4, decide (Int.toNat (Int.tdiv (255 - (n : Int)) 64) + 0 < (lst B).length)] z).run = z.run := fun z => al (by
    simp only [t1, Int.toNat_natCast, Nat.add_zero, cV, List.all_cons, List.all_nil, Bool.and_true, Bool.true_and, Bool.and_eq_true]
    exact ⟨bE (by omega), bD (by omega), decide_eq_true (by omega)⟩)
  have gb2 : ∀ z : OT (Sum bR aP), (gd [true, true, true, true && inR (Int.tdiv (255 - (n : Int)) 64), inB (Int.tdiv (255 - (n : Int)) 64) 4, decide (Int.toNat (Int.tdiv (255 - (n : Int)) 64) + 0 < (lst B).length)] z).run = z.run := fun z => al (by
    simp only [t1, Int.toNat_natCast, Nat.add_zero, cV, List.all_cons, List.all_nil, Bool.and_true, Bool.true_and, Bool.and_eq_true]
    exact ⟨bE (by omega), bD (by omega), decide_eq_true (by omega)⟩)
  have hi : inR ((255 : Int) - (n : Int) - 1) = true := bE (by omega)
  have gi : ∀ z : OT (Sum bR aP), (gd [inR ((255 : Int) - (n : Int) - 1)] z).run = z.run := fun z => al (by simp only [hi, List.all_cons, List.all_nil, Bool.and_true])
  have gi2 : ∀ z : OT (Sum bR aP), (gd [true, true, true, inR ((255 : Int) - (n : Int) - 1)] z).run = z.run := fun z => al (by simp only [hi, List.all_cons, List.all_nil, Bool.and_true])
  -- behind the doubling
  have tail : ∀ D : aa, D = ofN (2 * o % M.nat) →
      (OT.br (bA (List.getD (lst B) (Int.toNat (Int.tdiv (255 - (n : Int)) 64) + 0) 0) (((i2u (Int.tmod (255 - (n : Int)) 64)).toNat : Nat) : Int) &&& 1 == 1)
        (gd [true, true, true, true, true] (OT.br (!Nat.blt (ui D A).1.nat M.nat)
          (gd [true, true, true, inR ((255 : Int) - (n : Int) - 1)] (.ok (.inl (((), (), (), (), (), (255 : Int) - (n : Int) - 1, ()), (lst A, lst B, c2, lst M, lst (lk (ui D A).1 M).1, ())))))
          (gd [inR ((255 : Int) - (n : Int) - 1)] (.ok (.inl (((), (), (), (), (), (255 : Int) - (n : Int) - 1, ()), (lst A, lst B, c2, lst M, lst (ui D A).1, ())))))))
        (gd [inR ((255 : Int) - (n : Int) - 1)] (.ok (.inl (((), (), (), (), (), (255 : Int) - (n : Int) - 1, ()), (lst A, lst B, c2, lst M, lst D, ()))))) : OT (Sum bR aP)).run
      = some (.inl (ahs A B c2 M (n + 1) (vI M.nat A.nat B.nat n o))) := fun D hD => by
    rw [hbit, e2]
    rw [e2] at gi gi2
    have hlt := Nat.mod_lt (2 * o) (show 0 < M.nat by omega)
    have hDn : D.nat = 2 * o % M.nat := by rw [hD]; exact ia (by omega)
    have hw : (ui D A).1.nat = 2 * o % M.nat + A.nat := by rw [sum_nat (by omega), hDn]
    unfold vI
    rcases (Bool.eq_false_or_eq_true (Bq B.nat (255 - n))).symm with hb | hb
    · rw [hb, hD]
      exact (OT.aw rfl).trans (gi _)
    · rw [hb]
      refine (OT.ap rfl).trans ((al rfl).trans ?_)
      rcases (Bool.eq_false_or_eq_true (Nat.blt (ui D A).1.nat M.nat)).symm with hc | hc
      · have er := asf hc (by omega)
        rw [hw] at er
        refine (OT.ap (by rw [hc]; rfl)).trans ((gi2 _).trans ?_)
        rw [er]
        rfl
      · have er := asg hc
        rw [hw] at er
        refine (OT.aw (by rw [hc]; rfl)).trans ((gi _).trans ?_)
        rw [er]
        rfl
  show (JG (255 - (n : Int)) (lst A) (lst B) c2 (lst M) (lst (ofN o))).run = _
  unfold JG
  simp only [ars, arA, cV]
  refine (OT.ap (decide_eq_true (by omega))).trans ((al rfl).trans ?_)
  rcases (Bool.eq_false_or_eq_true (Nat.blt (ui (ofN o) (ofN o)).1.nat M.nat)).symm with hc | hc
  · have er := asf hc (by omega)
    rw [hz] at er
    exact (OT.ap (b := !Nat.blt (ui (ofN o) (ofN o)).1.nat M.nat) (by rw [hc]; rfl)).trans ((gb2 _).trans (tail _ er))
  · have er := asg hc
    rw [hz] at er
    exact (OT.aw (b := !Nat.blt (ui (ofN o) (ofN o)).1.nat M.nat) (by rw [hc]; rfl)).trans ((gb _).trans (tail _ er))
def Nc (s : bR) : Bool := decide (s.1.2.2.2.2.2.1 = 255 ∧ s.2.1.length = 4 ∧ s.2.2.1.length = 4 ∧ s.2.2.2.2.1.length = 4 ∧ s.2.2.2.2.2.1 = [0, 0, 0, 0] ∧ (elemOf s.2.1).nat < (elemOf s.2.2.2.2.1).nat ∧ 2 * (elemOf s.2.2.2.2.1).nat ≤ 115792089237316195423570985008687907853269984665640564039457584007913129639936)
def W7 (s : bR) : jU := (((), (), ()), (s.2.2.2.1, lst (ofN ((elemOf s.2.1).nat * (elemOf s.2.2.1).nat % (elemOf s.2.2.2.2.1).nat)), ()))
theorem ale : ∀ s : bR, Nc s = true → ∃ m e, aq qD m s = some e ∧ (BE W7 s).run = some e := by
  rintro ⟨⟨⟨⟩, ⟨⟩, ⟨⟩, ⟨⟩, ⟨⟩, i, ⟨⟩⟩, ⟨l0, l1, c2, l3, l4, ⟨⟩⟩⟩ h
  have h' := of_decide_eq_true h
  dsimp only at h'
  obtain ⟨rfl, h0, h1, h3, rfl, hA, hM⟩ := h'
  obtain ⟨A, rfl⟩ : ∃ a, l0 = lst a := ⟨elemOf l0, (bl h0).symm⟩
  obtain ⟨B, rfl⟩ : ∃ a, l1 = lst a := ⟨elemOf l1, (bl h1).symm⟩
  obtain ⟨M, rfl⟩ : ∃ a, l3 = lst a := ⟨elemOf l3, (bl h3).symm⟩
  have hA : A.nat < M.nat := hA
  have := (bP (T := qD) (ahs A B c2 M) (vI M.nat A.nat B.nat)
    (fun o => (⟨(.exit 0, qC), (((), (), ()), (c2, lst (ofN o), ()))⟩ : aP)) 256 0 (fun _ o => o < M.nat) (by omega) (fun n o hn ho => ⟨aq3 hn hA ho hM, ?_⟩) (fun o ho => ?_)).1
  · rw [ahr M.nat A.nat B.nat (gD B) 256 (by omega), Nat.sub_self, Nat.pow_zero, Nat.div_one] at this
    obtain ⟨m, hm⟩ := this
    exact ⟨m, _, hm, rfl⟩
  · unfold vI
    cases Bq B.nat (255 - n)
    · exact Nat.mod_lt _ (by omega)
    · exact Nat.mod_lt _ (by omega)
  · exact OT.aw (decide_eq_false (by dsimp only [ahs]; omega))
def cd (x : G7) : Bool := ak x.1.1
def ae8 (x : G7) : OT fK.Y := .ok ⟨cS, ((aR (pS x.1.1) x.1.2.1 x.1.2.2.1, ()), ())⟩
theorem afV {s : Int} (hs : ak s = true) (a b : aa) : ofN ((ofP (pS s) a).nat * (ofP (pS s) b).nat % pS s) = aR (pS s) a b := by
  have hp := fx hs
  unfold ofP aR
  rw [cH hp, cH hp, ← Nat.mul_mod]
theorem ald : ac Tryz.prog 113 (fK.aH cd ae8) := ZM Nc W7 ale _ _ fun x oy hp ho => by
  rw [← ho]
  clear ho
  obtain ⟨⟨s, a, b, ⟨⟩⟩, ⟨⟩⟩ := x
  have hs : ak s = true := hp
  show _ = some (⟨cS, ((aR (pS s) a b, ()), ())⟩ : fK.Y)
  have little : (s = 0 ∨ s = 1) → (gd [!(LY s == 0)] (.ok ⟨cS, ((⟨(ofP (pS s) a).w0 * (ofP (pS s) b).w0 % LY s, 0, 0, 0⟩, ()), ())⟩) : OT fK.Y).run = some (⟨cS, ((aR (pS s) a b, ()), ())⟩ : fK.Y) := fun h => by
    obtain ⟨_, _, _, hz⟩ := vt h
    rw [aan h]
    exact al (by simp only [hz, List.all_cons, List.all_nil, Bool.and_true])
  by_cases h0 : s = 0
  · exact (OT.ap (by simpa using h0)).trans ((OT.ap hs).trans ((OT.ap hs).trans (little (.inl h0))))
  · refine (OT.aw (by simpa using h0)).trans ?_
    by_cases h1 : s = 1
    · exact (OT.ap (by simpa using h1)).trans ((OT.ap hs).trans ((OT.ap hs).trans (little (.inr h1))))
    · refine (OT.aw (by simpa using h1)).trans ((OT.ap hs).trans ((OT.ap hs).trans ((OT.ap hs).trans ?_)))
      have hpp := fx hs
      have hA : (ofP (pS s) a).nat < pS s := by
        show (ofN _).nat < _
        rw [cH hpp]
        exact Nat.mod_lt _ hpp.1
      refine (al ?_).trans ?_
      · simp only [List.all_cons, List.all_nil, Bool.and_true, Bool.and_eq_true]
        exact ⟨decide_eq_true ⟨rfl, rfl, rfl, rfl, rfl, hA, (by show 2 * pS s ≤ _; omega)⟩, rfl, rfl, rfl⟩
      · rw [← afV hs]
        show some (⟨cS, ((elemOf (lay [0, 0, 0, 0] (lst (ofN ((ofP (pS s) a).nat * (ofP (pS s) b).nat % pS s))) 4 0), ()), ())⟩ : fK.Y) = _
        rw [arv _ _ rfl rfl]
        rfl
def xL : cG := (fK.aH cd ae8)
theorem Ro : ac Tryz.prog 113 xL := ald
theorem Rn : aK xL := aB
def tQ : Env := aA 113 xL zp
theorem mC : aV Tryz.prog tQ := ai Ro rK
theorem AG : ax tQ := ae Rn AD
theorem tP : aZ Tryz.prog te tQ := aN follows au mC AG
def hI : av := ⟨[.val false .int, .val true .elem, .val true .elem], [], true, 0, false⟩
abbrev Hh : Type := ((Int) × (aa) × (aa) × Unit) × (Unit)
def u3 : Shape := ⟨53, [(0, .val false .int), (4, .ptr 0 0 0), (5, .ptr 1 0 0), (6, .ptr 2 0 0), (7, .ptr 3 0 0), (8, .val false .int)], [(0, .row .u64), (1, .row .u64), (2, .row .u64), (3, .row .u64)], 0, true⟩
abbrev cx : Type := ((Int) × (Unit) × (Unit) × (Unit) × (Unit) × (Int) × Unit) × ((List (UInt64)) × (List (UInt64)) × (List (UInt64)) × (List (UInt64)) × Unit)
def lM : Shape := ⟨53, [(0, .val false .int), (4, .ptr 0 0 0), (5, .ptr 1 0 0), (6, .ptr 2 0 0), (7, .ptr 3 0 0), (8, .val false .int)], [(0, .row .u64), (1, .row .u64), (2, .row .u64), (3, .row .u64)], 0, true⟩
abbrev j0 : Type := ((Int) × (Unit) × (Unit) × (Unit) × (Unit) × (Int) × Unit) × ((List (UInt64)) × (List (UInt64)) × (List (UInt64)) × (List (UInt64)) × Unit)
def Xd : SE → Option Shape := jr [(0, lM)] none
def alp (a0 : Int) (a8 : Int) (c0 : List (UInt64)) (c1 : List (UInt64)) (c2 : List (UInt64)) (c3 : List (UInt64)) : OT (Sum cx aP) :=
  let z0 : Int := Int.tdiv a8 (64 : Int)
  (.br (decide ((0 : Int) ≤ a8))
  (gd [true && inR z0, inB z0 4, decide (Int.toNat z0 + 0 < List.length c1)] (.br (bA (List.getD c1 (Int.toNat z0 + 0) (0 : UInt64)) (↑(UInt64.toNat (i2u (Int.tmod a8 (64 : Int)))) : Int) &&& (1 : UInt64) == (0 : UInt64))
    (gd [inR (a8 - (1 : Int))] (.ok (.inl ((a0, ((), ((), ((), ((), (a8 - (1 : Int), ())))))), (c0, (c1, (c2, (c3, ()))))))))
    (.ok (.inr ⟨(.exit 0, lM), ((a0, ((), ((), ((), ((), (a8, ())))))), (c0, (c1, (c2, (c3, ())))))⟩))))
  (.ok (.inr ⟨(.exit 0, lM), ((a0, ((), ((), ((), ((), (a8, ())))))), (c0, (c1, (c2, (c3, ())))))⟩)))
def u4 (s : cx) : OT (Sum cx aP) := alp (s.1.1) (s.1.2.2.2.2.2.1) (s.2.1) (s.2.2.1) (s.2.2.2.1) (s.2.2.2.2.1)
theorem alk (s : cx) (Q : Sum cx aP → Prop) : wps te tQ ay 1000 (bF (ao Tryz.f129) 0) (u3.inj s) (cQ u3 Xd (Q : Sum u3.T aP → Prop)) = (u4 s).wpR Q := by kernel_rfl
def BG (g0_0 : cx → j0) (s : cx) : OT aP := (.ok ⟨(.exit 0, lM), g0_0 s⟩)
def u2 : Shape := ⟨53, [(0, .val false .int), (4, .ptr 0 0 0), (5, .ptr 1 0 0), (6, .ptr 2 0 0), (7, .ptr 3 0 0), (9, .val false .int)], [(0, .row .u64), (1, .row .u64), (2, .row .u64), (3, .row .u64)], 0, true⟩
abbrev cJ : Type := ((Int) × (Unit) × (Unit) × (Unit) × (Unit) × (Int) × Unit) × ((List (UInt64)) × (List (UInt64)) × (List (UInt64)) × (List (UInt64)) × Unit)
def qH : Shape := ⟨53, [(6, .ptr 0 0 0), (7, .ptr 1 0 0)], [(0, .row .u64), (1, .row .u64)], 0, true⟩
abbrev jZ : Type := ((Unit) × (Unit) × Unit) × ((List (UInt64)) × (List (UInt64)) × Unit)
def Xc : SE → Option Shape := jr [(2, qH)] none
def JL (a0 : Int) (a9 : Int) (c0 : List (UInt64)) (c1 : List (UInt64)) (c2 : List (UInt64)) (c3 : List (UInt64)) : OT (Sum cJ aP) :=
  let z0 : Nat := List.length c3
  let z1 : Bool := decide (4 ≤ z0)
  let z2 : aa := { w0 := List.getD c3 0 0, w1 := List.getD c3 1 0, w2 := List.getD c3 2 0, w3 := List.getD c3 3 0 }
  let z3 : Int := Int.tdiv a9 (64 : Int)
  let z4 : Nat := pS a0
  let z5 : aa := aR z4 z2 z2
  let z6 : List UInt64 := List.set (List.set (List.set (List.set c3 0 z5.w0) 1 z5.w1) 2 z5.w2) 3 z5.w3
  let z7 : Nat := List.length z6
  let z8 : aa := { w0 := List.getD z6 0 0, w1 := List.getD z6 1 0, w2 := List.getD z6 2 0, w3 := List.getD z6 3 0 }
  let z9 : aa := { w0 := List.getD c0 0 0, w1 := List.getD c0 1 0, w2 := List.getD c0 2 0, w3 := List.getD c0 3 0 }
  let z10 : Bool := inR (a9 - (1 : Int))
  let z11 : aa := aR z4 z8 z9
  (.br (decide ((0 : Int) ≤ a9))
  (gd [z1, z1, cd ((a0, z2, z2, ()), ()), decide ((4 / 1 : Nat) + 0 ≤ z0), true && inR z3, inB z3 4, decide (Int.toNat z3 + 0 < List.length c1)] (.br (bA (List.getD c1 (Int.toNat z3 + 0) (0 : UInt64)) (↑(UInt64.toNat (i2u (Int.tmod a9 (64 : Int)))) : Int) &&& (1 : UInt64) == (1 : UInt64))
    (gd [decide (4 ≤ z7), decide (4 ≤ List.length c0), cd ((a0, z8, z9, ()), ()), decide ((4 / 1 : Nat) + 0 ≤ z7), z10] (.ok (.inl ((a0, ((), ((), ((), ((), (a9 - (1 : Int), ())))))), (c0, (c1, (c2, (List.set (List.set (List.set (List.set z6 0 z11.w0) 1 z11.w1) 2 z11.w2) 3 z11.w3, ()))))))))
    (gd [z10] (.ok (.inl ((a0, ((), ((), ((), ((), (a9 - (1 : Int), ())))))), (c0, (c1, (c2, (z6, ()))))))))))
  (.ok (.inr ⟨(.exit 2, qH), (((), ((), ())), (c2, (c3, ())))⟩)))
def qI (s : cJ) : OT (Sum cJ aP) := JL (s.1.1) (s.1.2.2.2.2.2.1) (s.2.1) (s.2.2.1) (s.2.2.2.1) (s.2.2.2.2.1)
theorem alj (s : cJ) (Q : Sum cJ aP → Prop) : wps te tQ ay 1000 (bF (ao Tryz.f129) 2) (u2.inj s) (cQ u2 Xc (Q : Sum u2.T aP → Prop)) = (qI s).wpR Q := by kernel_rfl
def BF (g2_2 : cJ → jZ) (s : cJ) : OT aP := (.ok ⟨(.exit 2, qH), g2_2 s⟩)
def qG : az := ⟨[.val true .elem], [], false⟩
def Nt : SV → Option az := fun _ => some qG
def RJ (ok0 : cx → Bool) (g0_0 : cx → j0) (ok2 : cJ → Bool) (g2_2 : cJ → jZ) (a0 : Int) (a1 : aa) (a2 : aa) : OT hI.Y :=
  let z0 : Int × PUnit × PUnit × PUnit × PUnit × Int × PUnit := (a0, (), (), (), (), (255 : Int), ())
  let z1 : aa := ofP (pS a0) { w0 := 1, w1 := 0, w2 := 0, w3 := 0 }
  let z2 : (Int × PUnit × PUnit × PUnit × PUnit × Int × PUnit) × List UInt64 × List UInt64 × List UInt64 × List UInt64 × PUnit := (z0, [a1.w0, a1.w1, a1.w2, a1.w3], [a2.w0, a2.w1, a2.w2, a2.w3], [(0 : UInt64), (0 : UInt64), (0 : UInt64), (0 : UInt64)], [z1.w0, z1.w1, z1.w2, z1.w3], ())
  let z3 : (Int × PUnit × PUnit × PUnit × PUnit × Int × PUnit) × List UInt64 × List UInt64 × List UInt64 × List UInt64 × PUnit := g0_0 z2
  let z4 := z3.fst
  let z5 := z3.snd
  let z6 := z5.snd
  let z7 := z6.snd
  let z8 : (Int × PUnit × PUnit × PUnit × PUnit × Int × PUnit) × List UInt64 × List UInt64 × List UInt64 × List UInt64 × PUnit := ((z4.fst, (), (), (), (), z4.snd.snd.snd.snd.snd.fst, ()), z5.fst, z6.fst, z7.fst, z7.snd.fst, ())
  let z9 := (g2_2 z8).snd
  let z10 := z9.snd.fst
  let z11 := z9.fst
  let z12 : List UInt64 := lay z11 z10 4 (0 : UInt64)
  let z13 : (Int × PUnit × PUnit × PUnit × PUnit × Int × PUnit) × List UInt64 × List UInt64 × List UInt64 × List UInt64 × PUnit := (z0, [a1.w0, a1.w1, a1.w2, a1.w3], [a2.w0, a2.w1, a2.w2, a2.w3], [(0 : UInt64), (0 : UInt64), (0 : UInt64), (0 : UInt64)], [(0 : UInt64), (0 : UInt64), (0 : UInt64), (0 : UInt64)], ())
  let z14 : (Int × PUnit × PUnit × PUnit × PUnit × Int × PUnit) × List UInt64 × List UInt64 × List UInt64 × List UInt64 × PUnit := g0_0 z13
  let z15 := z14.fst
  let z16 := z14.snd
  let z17 := z16.snd
  let z18 := z17.snd
  let z19 : (Int × PUnit × PUnit × PUnit × PUnit × Int × PUnit) × List UInt64 × List UInt64 × List UInt64 × List UInt64 × PUnit := ((z15.fst, (), (), (), (), z15.snd.snd.snd.snd.snd.fst, ()), z16.fst, z17.fst, z18.fst, z18.snd.fst, ())
  let z20 := (g2_2 z19).snd
  let z21 := z20.snd.fst
  let z22 := z20.fst
  let z23 : List UInt64 := lay z22 z21 4 (0 : UInt64)
  (.br (ak a0)
  (gd [ok0 z2, ok2 z8, decide (4 ≤ List.length z10), decide ((4 / 1 : Nat) + 0 ≤ List.length z11), decide (4 ≤ List.length z12)] (.ok ⟨qG, (({ w0 := List.getD z12 0 0, w1 := List.getD z12 1 0, w2 := List.getD z12 2 0, w3 := List.getD z12 3 0 }, ()), ())⟩))
  (gd [ok0 z13, ok2 z19, decide (4 ≤ List.length z21), decide ((4 / 1 : Nat) + 0 ≤ List.length z22), decide (4 ≤ List.length z23)] (.ok ⟨qG, (({ w0 := List.getD z23 0 0, w1 := List.getD z23 1 0, w2 := List.getD z23 2 0, w3 := List.getD z23 3 0 }, ()), ())⟩)))
theorem apS (ok0 : cx → Bool) (g0_0 : cx → j0) (ok2 : cJ → Bool) (g2_2 : cJ → jZ) (x : Hh) (Q : hI.Y → Prop) : wpf te tQ (bg 2 (di u2 2 ok2 (BF g2_2)) (bg 0 (di u3 0 ok0 (BG g0_0)) ay)) 1000 Tryz.f129 (hI.inp.inj x).tm (hI.inp.inj x).hp (fnK hI Nt Q) (fun _ _ => False) = (RJ ok0 g0_0 ok2 g2_2 (x.1.1) (x.1.2.1) (x.1.2.2.1)).wpR Q := by kernel_rfl
theorem ZW (ok0 : cx → Bool) (g0_0 : cx → j0) (ok2 : cJ → Bool) (g2_2 : cJ → jZ) (h0 : ∀ s : cx, ok0 s = true → ∃ m e, aq (u4) m s = some e ∧ (BG g0_0 s).run = some e) (h2 : ∀ s : cJ, ok2 s = true → ∃ m e, aq (qI) m s = some e ∧ (BF g2_2 s).run = some e) (pre : Hh → Bool) (F : Hh → OT hI.Y) (hF : ∀ (x : Hh) oy, pre x = true → (F x).run = some oy → (RJ ok0 g0_0 ok2 g2_2 (x.1.1) (x.1.2.1) (x.1.2.2.1)).run = some oy) : ac Tryz.prog 129 (hI.aH pre F) :=
  aC au mC tP (f := 129) (fn := Tryz.f129) (c := ao Tryz.f129) (by kernel_rfl) (by kernel_rfl) (by kernel_rfl) (S := hI) (k := 0) (by kernel_rfl) (fun R hR => (aF (c := (ao Tryz.f129)) (by kernel_rfl) (id := 2) (by kernel_rfl) (bt au mC tP (sh := u2) hR (xs := Xc) (aG (by kernel_rfl) (by kernel_rfl) hR) aW af (n := 1000) (T := qI) (fun s Q => alj s Q) (ok := ok2) (f := BF g2_2) h2) (aF (c := (ao Tryz.f129)) (by kernel_rfl) (id := 0) (by kernel_rfl) (bt au mC tP (sh := u3) hR (xs := Xd) (aG (by kernel_rfl) (by kernel_rfl) hR) aW af (n := 1000) (T := u4) (fun s Q => alk s Q) (ok := ok0) (f := BG g0_0) h0) af))) (n := 1000) (sel := Nt) (fun v o h => by cases h; rfl) (pre := pre) (F := F) (T := fun x => RJ ok0 g0_0 ok2 g2_2 (x.1.1) (x.1.2.1) (x.1.2.2.1)) (fun x Q => apS ok0 g0_0 ok2 g2_2 x Q) hF
theorem JS {p : Nat} : ∀ (n o x k : Nat), k < 2 ^ n → o < p → ani p n o x k = o * x ^ k % p
  | 0, o, x, k, hk, ho => by
    have : k = 0 := by omega
    subst this
    show o = _
    rw [Nat.pow_zero, Nat.mul_one, Nat.mod_eq_of_lt ho]
  | n + 1, o, x, k, hk, ho => by
    unfold ani
    rw [Nat.pow_succ] at hk
    cases h0 : Nat.beq k 0
    · simp only [cond_false]
      have hsq : (x * x % p) ^ (k / 2) % p = x ^ (2 * (k / 2)) % p := by
        rw [← Nat.pow_mod, Nat.pow_mul, Nat.pow_two]
      cases h1 : Nat.beq (k % 2) 1
      · have h1' : ¬ k % 2 = 1 := fun e => by rw [e] at h1; cases h1
        simp only [cond_false]
        rw [JS n _ _ _ (by omega) ho, Nat.mul_mod, hsq, ← Nat.mul_mod, show 2 * (k / 2) = k by omega]
      · have h1 := Nat.eq_of_beq_eq_true h1
        simp only [cond_true]
        rw [JS n _ _ _ (by omega) (Nat.mod_lt _ (by omega)), Nat.mul_mod, hsq, Nat.mod_mod, ← Nat.mul_mod, Nat.mul_assoc, ← Nat.pow_succ', show (2 * (k / 2)).succ = k by omega]
    · have h0 := Nat.eq_of_beq_eq_true h0
      subst h0
      simp only [cond_true]
      rw [Nat.pow_zero, Nat.mul_one, Nat.mod_eq_of_lt ho]
theorem aqV {p : Nat} (hp : 1 < p) (a k : aa) : wZ p a k = ofN (a.nat ^ k.nat % p) := by
  rw [KW (by omega), JS 256 1 _ _ (gD k) hp, Nat.one_mul, ← Nat.pow_mod]
theorem atE {b : aa} {k : Nat} (hk : k < 256) : (bA (List.getD (lst b) (Int.toNat (Int.tdiv (k : Int) 64) + 0) 0) (((i2u (Int.tmod (k : Int) 64)).toNat : Nat) : Int) &&& 1 == 1) = Bq b.nat k := by
  have h := anI (b := b) (n := 255 - k) (by omega)
  rw [show (255 : Int) - ((255 - k : Nat) : Int) = (k : Int) by omega, show 255 - (255 - k) = k by omega] at h
  exact h
theorem Y5 (x : UInt64) : (x &&& 1 == 0) = !(x &&& 1 == 1) := by
  have h := TQ x
  have e : (x &&& 1).toNat = x.toNat % 2 := by
    rw [UInt64.toNat_and]
    exact Nat.and_two_pow_sub_one_eq_mod x.toNat 1
  have h2 : x.toNat % 2 = 0 ∨ x.toNat % 2 = 1 := by omega
  rcases h2 with h2 | h2
  · have : x &&& 1 = 0 := UInt64.toNat_inj.1 (by rw [e, h2]; rfl)
    rw [this]; rfl
  · have : x &&& 1 = 1 := UInt64.toNat_inj.1 (by rw [e, h2]; rfl)
    rw [this]; rfl
def Zo (e : Nat) : Nat → Int
  | 0 => -1
  | n + 1 => cond (Bq e n) (n : Int) (Zo e n)
theorem Lm {e n : Nat} (h : Bq e n = false) : e / 2 ^ n % 2 = 0 := by
  unfold Bq at h
  have : ¬ e / 2 ^ n % 2 = 1 := fun e => by rw [e] at h; cases h
  omega
theorem Cb (e : Nat) : ∀ n, e / 2 ^ n = 0 → ∃ t : Nat, Zo e n = (t : Int) - 1 ∧ t ≤ n ∧ e / 2 ^ t = 0
  | 0, h => ⟨0, rfl, Nat.le_refl _, h⟩
  | n + 1, h => by
    unfold Zo
    cases hb : Bq e n
    · simp only [cond_false]
      have h0 := Lm hb
      have h1 : e / 2 ^ n / 2 = 0 := by rw [Nat.div_div_eq_div_mul, ← Nat.pow_succ]; exact h
      obtain ⟨t, e1, e2, e3⟩ := Cb e n (by omega)
      exact ⟨t, e1, by omega, e3⟩
    · exact ⟨n + 1, by simp only [cond_true]; omega, Nat.le_refl _, h⟩
def Gw (s : Int) (A B : aa) (c2 : List UInt64) (O : aa) (i : Int) : cx := ((s, (), (), (), (), i, ()), (lst A, lst B, c2, lst O, ()))
theorem amo {B : aa} {k : Nat} (hk : k < 256) {α : Type} (z : OT α) : (gd [true && inR (Int.tdiv (k : Int) 64), inB (Int.tdiv (k : Int) 64) 4, decide (Int.toNat (Int.tdiv (k : Int) 64) + 0 < (lst B).length)] z).run = z.run := by
  have t1 : Int.tdiv (k : Int) 64 = ((k / 64 : Nat) : Int) := by rw [Int.tdiv_eq_ediv_of_nonneg (by omega)]; omega
  refine al ?_
  simp only [t1, Int.toNat_natCast, Nat.add_zero, cV, List.all_cons, List.all_nil, Bool.and_true, Bool.true_and, Bool.and_eq_true]
  exact ⟨bE (by omega), bD (by omega), decide_eq_true (by omega)⟩
theorem Yz (s : Int) (A B : aa) (c2 : List UInt64) (O : aa) : ∀ n : Nat, n ≤ 256 → ∃ m, aq u4 m (Gw s A B c2 O ((n : Int) - 1)) = some ⟨(.exit 0, lM), Gw s A B c2 O (Zo B.nat n)⟩
  | 0, _ => ⟨1, aL (OT.aw (decide_eq_false (by dsimp only [Gw]; omega)))⟩
  | n + 1, hn => by
    have e1 : ((n + 1 : Nat) : Int) - 1 = (n : Int) := by omega
    rw [e1]
    have hb := atE (b := B) (k := n) (by omega)
    unfold Zo
    rcases (Bool.eq_false_or_eq_true (Bq B.nat n)).symm with h | h
    · obtain ⟨m, hm⟩ := Yz s A B c2 O n (by omega)
      rw [h] at hb ⊢
      refine ⟨m + 1, aM ?_ hm⟩
      refine (OT.ap (decide_eq_true (by dsimp only [Gw]; omega))).trans ((amo (B := B) (k := n) (by omega) _).trans ((OT.ap ?_).trans ((al ?_).trans rfl)))
      · exact (Y5 _).trans (congrArg Bool.not hb)
      · simp only [List.all_cons, List.all_nil, Bool.and_true]
        exact bE (by dsimp only [Gw]; omega)
    · rw [h] at hb ⊢
      refine ⟨1, aL ?_⟩
      refine (OT.ap (decide_eq_true (by dsimp only [Gw]; omega))).trans ((amo (B := B) (k := n) (by omega) _).trans ((OT.aw ?_).trans rfl))
      exact (Y5 _).trans (congrArg Bool.not hb)
def Nu (s : cx) : Bool := decide (s.1.2.2.2.2.2.1 = 255 ∧ s.2.1.length = 4 ∧ s.2.2.1.length = 4 ∧ s.2.2.2.2.1.length = 4)
def Xf (s : cx) : j0 := ((s.1.1, (), (), (), (), Zo (elemOf s.2.2.1).nat 256, ()), s.2)
theorem alo : ∀ s : cx, Nu s = true → ∃ m e, aq u4 m s = some e ∧ (BG Xf s).run = some e := by
  rintro ⟨⟨s, ⟨⟩, ⟨⟩, ⟨⟩, ⟨⟩, i, ⟨⟩⟩, ⟨l0, l1, c2, l3, ⟨⟩⟩⟩ h
  have h' := of_decide_eq_true h
  dsimp only at h'
  obtain ⟨rfl, h0, h1, h3⟩ := h'
  obtain ⟨A, rfl⟩ : ∃ a, l0 = lst a := ⟨elemOf l0, (bl h0).symm⟩
  obtain ⟨B, rfl⟩ : ∃ a, l1 = lst a := ⟨elemOf l1, (bl h1).symm⟩
  obtain ⟨O, rfl⟩ : ∃ a, l3 = lst a := ⟨elemOf l3, (bl h3).symm⟩
  obtain ⟨m, hm⟩ := Yz s A B c2 O 256 (by omega)
  exact ⟨m, _, hm, rfl⟩
theorem aqW {s : Int} (hs : ak s = true) (A B : aa) (c2 : List UInt64) (O : aa) {k : Nat} (hk : k < 256) (hO : O = ofN (A.nat ^ (B.nat / 2 ^ (k + 1)) % pS s)) :
    (qI (Gw s A B c2 O (k : Int))).run = some (.inl (Gw s A B c2 (ofN (A.nat ^ (B.nat / 2 ^ k) % pS s)) ((k : Int) - 1))) := by
  have hp := fx hs
  have hb := atE (b := B) (k := k) hk
  have t1 : Int.tdiv (k : Int) 64 = ((k / 64 : Nat) : Int) := by rw [Int.tdiv_eq_ediv_of_nonneg (by omega)]; omega
  have hOn : O.nat = A.nat ^ (B.nat / 2 ^ (k + 1)) % pS s := by rw [hO]; exact cH hp
  have hi : inR ((k : Int) - 1) = true := bE (by omega)
  have hpre : ∀ x y, cd ((s, x, y, ()), ()) = true := fun _ _ => hs
  have hD : aR (pS s) O O = ofN (A.nat ^ (2 * (B.nat / 2 ^ (k + 1))) % pS s) := by
    unfold aR
    rw [hOn, ← Nat.mul_mod, ← Nat.pow_add, ← Nat.two_mul]
  have hq : B.nat / 2 ^ k / 2 = B.nat / 2 ^ (k + 1) := by rw [Nat.div_div_eq_div_mul, ← Nat.pow_succ]
  show (JL s (k : Int) (lst A) (lst B) c2 (lst O)).run = _
  unfold JL
  simp only [ars, arA, cV, hpre, hi]
  refine (OT.ap (decide_eq_true (by omega))).trans ((al ?_).trans ?_)
  · simp only [t1, Int.toNat_natCast, Nat.add_zero, cV, List.all_cons, List.all_nil, Bool.and_true, Bool.true_and, Bool.and_eq_true]
    exact ⟨rfl, rfl, rfl, bE (by omega), bD (by omega), decide_eq_true (by omega)⟩
  · rcases (Bool.eq_false_or_eq_true (Bq B.nat k)).symm with h | h
    · have h0 := Lm h
      rw [h] at hb
      refine (OT.aw hb).trans ((al rfl).trans ?_)
      rw [hD, ← hq, show 2 * (B.nat / 2 ^ k / 2) = B.nat / 2 ^ k by omega]
      rfl
    · have h0 : B.nat / 2 ^ k % 2 = 1 := Nat.eq_of_beq_eq_true h
      rw [h] at hb
      refine (OT.ap hb).trans ((al rfl).trans ?_)
      have e : aR (pS s) (aR (pS s) O O) A = ofN (A.nat ^ (B.nat / 2 ^ k) % pS s) := by
        have e2 : (aR (pS s) O O).nat = A.nat ^ (2 * (B.nat / 2 ^ (k + 1))) % pS s := by rw [hD]; exact cH hp
        show ofN (_ * _ % _) = _
        rw [e2, Nat.mod_mul_mod, ← Nat.pow_succ, ← hq, show (2 * (B.nat / 2 ^ k / 2)).succ = B.nat / 2 ^ k by omega]
      rw [e]
      rfl
theorem Yy {s : Int} (hs : ak s = true) (A B : aa) (c2 : List UInt64) : ∀ (n : Nat) (O : aa), n ≤ 256 → O = ofN (A.nat ^ (B.nat / 2 ^ n) % pS s) →
    ∃ m, aq qI m (Gw s A B c2 O ((n : Int) - 1)) = some ⟨(.exit 2, qH), (((), (), ()), (c2, lst (ofN (A.nat ^ B.nat % pS s)), ()))⟩
  | 0, O, _, hO => by
    rw [Nat.pow_zero, Nat.div_one] at hO
    rw [← hO]
    exact ⟨1, aL (OT.aw (decide_eq_false (by dsimp only [Gw]; omega)))⟩
  | n + 1, O, hn, hO => by
    obtain ⟨m, hm⟩ := Yy hs A B c2 n (ofN (A.nat ^ (B.nat / 2 ^ n) % pS s)) (by omega) rfl
    rw [show ((n + 1 : Nat) : Int) - 1 = (n : Int) by omega]
    exact ⟨m + 1, aM (aqW hs A B c2 O (by omega) hO) hm⟩
def CT (s : cJ) : Bool := ak s.1.1 && decide (s.1.2.2.2.2.2.1 = Zo (elemOf s.2.2.1).nat 256 ∧ s.2.1.length = 4 ∧ s.2.2.1.length = 4 ∧ s.2.2.2.2.1 = lst (ofP (pS s.1.1) ⟨1, 0, 0, 0⟩))
def Xe (s : cJ) : jZ := (((), (), ()), (s.2.2.2.1, lst (ofN ((elemOf s.2.1).nat ^ (elemOf s.2.2.1).nat % pS s.1.1)), ()))
theorem aln : ∀ s : cJ, CT s = true → ∃ m e, aq qI m s = some e ∧ (BF Xe s).run = some e := by
  rintro ⟨⟨s, ⟨⟩, ⟨⟩, ⟨⟩, ⟨⟩, i, ⟨⟩⟩, ⟨l0, l1, c2, l3, ⟨⟩⟩⟩ h
  simp only [CT, Bool.and_eq_true, decide_eq_true_eq] at h
  obtain ⟨hs, rfl, h0, h1, rfl⟩ := h
  obtain ⟨A, rfl⟩ : ∃ a, l0 = lst a := ⟨elemOf l0, (bl h0).symm⟩
  obtain ⟨B, rfl⟩ : ∃ a, l1 = lst a := ⟨elemOf l1, (bl h1).symm⟩
  obtain ⟨t, e1, e2, e3⟩ := Cb B.nat 256 (Nat.div_eq_of_lt (gD B))
  obtain ⟨m, hm⟩ := Yy hs A B c2 t (ofP (pS s) ⟨1, 0, 0, 0⟩) e2 (by rw [e3, Nat.pow_zero]; rfl)
  rw [← e1] at hm
  exact ⟨m, _, hm, rfl⟩
theorem asq {s : Int} (h : ak s = true) : 1 < pS s := ank h
def jY (x : Hh) : Bool := ak x.1.1
def afj (x : Hh) : OT hI.Y := .ok ⟨qG, ((wZ (pS x.1.1) x.1.2.1 x.1.2.2.1, ()), ())⟩
theorem alm : ac Tryz.prog 129 (hI.aH jY afj) := ZW Nu Xf CT Xe alo aln _ _ fun x oy hp ho => by
  rw [← ho]
  clear ho
  obtain ⟨⟨s, a, b, ⟨⟩⟩, ⟨⟩⟩ := x
  have hs : ak s = true := hp
  show _ = some (⟨qG, ((wZ (pS s) a b, ()), ())⟩ : hI.Y)
  rw [aqV (asq hs)]
  refine (OT.ap hs).trans ((al ?_).trans ?_)
  · simp only [List.all_cons, List.all_nil, Bool.and_true, Bool.and_eq_true]
    refine ⟨decide_eq_true ⟨rfl, rfl, rfl, rfl⟩, ?_, rfl, rfl, rfl⟩
    refine (Bool.and_eq_true _ _).mpr ⟨hs, ?_⟩
    exact decide_eq_true ⟨rfl, rfl, rfl, rfl⟩
  · show some (⟨qG, ((elemOf (lay [0, 0, 0, 0] (lst (ofN (a.nat ^ b.nat % pS s))) 4 0), ()), ())⟩ : hI.Y) = _
    rw [arv _ _ rfl rfl]
    rfl
def xU : cG := (hI.aH jY afj)
theorem RI : ac Tryz.prog 129 xU := alm
theorem RH : aK xU := aB
def Fo : Env := aA 129 xU tQ
theorem zA : aV Tryz.prog Fo := ai RI mC
theorem AN : ax Fo := ae RH AG
theorem Ud : aZ Tryz.prog te Fo := aN follows au zA AN
def iT : av := ⟨[.val false .int, .val true .elem], [], true, 0, false⟩
abbrev Hb : Type := ((Int) × (aa) × Unit) × (Unit)
def ji : az := ⟨[.val true .elem, .val false .int], [], false⟩
def Nl : SV → Option az := fun _ => some ji
def Ry (a0 : Int) (a1 : aa) : OT iT.Y :=
  let z0 : Bool := ak a0
  let z1 : Nat := pS a0
  let z2 : aa := ofP z1 a1
  let z3 : aa := { w0 := 0, w1 := 0, w2 := 0, w3 := 0 }
  let z4 : aa := (lk (bT (Int.toNat a0)).fst { w0 := 2, w1 := 0, w2 := 0, w3 := 0 }).fst
  (.br (z0)
  (.br (z0)
    (.br (z2.w0 == (0 : UInt64) && (z2.w1 == (0 : UInt64) && (z2.w2 == (0 : UInt64) && (z2.w3 == (0 : UInt64) && true))))
      (.ok ⟨ji, ((z3, ((10 : Int), ())), ())⟩)
      (gd [jY ((a0, a1, z4, ()), ())] (.ok ⟨ji, ((wZ z1 a1 z4, ((0 : Int), ())), ())⟩)))
    (.ok ⟨ji, ((z3, ((10 : Int), ())), ())⟩))
  (.ok ⟨ji, ((z3, ((20 : Int), ())), ())⟩))
theorem apQ (x : Hb) (Q : iT.Y → Prop) : wpf te Fo ay 1000 Tryz.f174 (iT.inp.inj x).tm (iT.inp.inj x).hp (fnK iT Nl Q) (fun _ _ => False) = (Ry (x.1.1) (x.1.2.1)).wpR Q := by kernel_rfl
theorem ZT (pre : Hb → Bool) (F : Hb → OT iT.Y) (hF : ∀ (x : Hb) oy, pre x = true → (F x).run = some oy → (Ry (x.1.1) (x.1.2.1)).run = some oy) : ac Tryz.prog 174 (iT.aH pre F) :=
  aC au zA Ud (f := 174) (fn := Tryz.f174) (c := ao Tryz.f174) (by kernel_rfl) (by kernel_rfl) (by kernel_rfl) (S := iT) (k := 0) (by kernel_rfl) (fun R hR => af) (n := 1000) (sel := Nl) (fun v o h => by cases h; rfl) (pre := pre) (F := F) (T := fun x => Ry (x.1.1) (x.1.2.1)) (fun x Q => apQ x Q) hF
def CP (x : Hb) : Bool := ak x.1.1
def afd (x : Hb) : OT iT.Y := .br (Nat.beq (x.1.2.1.nat % pS x.1.1) 0) (.ok ⟨ji, ((⟨0, 0, 0, 0⟩, ((10 : Int), ())), ())⟩) (.ok ⟨ji, ((aiy (pS x.1.1) x.1.2.1, ((0 : Int), ())), ())⟩)
theorem alg : ac Tryz.prog 174 (iT.aH CP afd) := ZT _ _ fun x oy hp ho => by
  rw [← ho]
  clear ho
  obtain ⟨⟨s, a, ⟨⟩⟩, ⟨⟩⟩ := x
  have hs : ak s = true := hp
  have hz : cp (ofP (pS s) a) = Nat.beq (a.nat % pS s) 0 := Us (fx hs) _
  refine (OT.ap hs).trans ((OT.ap hs).trans ?_)
  show _ = (OT.br (Nat.beq (a.nat % pS s) 0) (.ok ⟨ji, ((⟨0, 0, 0, 0⟩, ((10 : Int), ())), ())⟩) (.ok ⟨ji, ((aiy (pS s) a, ((0 : Int), ())), ())⟩) : OT iT.Y).run
  rw [← agq hs, ← hz]
  rcases (Bool.eq_false_or_eq_true (cp (ofP (pS s) a))).symm with h | h
  · refine (OT.aw h).trans (Eq.trans ((al ?_).trans rfl) (OT.aw (b := cp (ofP (pS s) a)) h).symm)
    simp only [List.all_cons, List.all_nil, Bool.and_true]
    exact hs
  · exact (OT.ap h).trans (OT.ap (b := cp (ofP (pS s) a)) h).symm
def xQ : cG := (iT.aH CP afd)
theorem Rx : ac Tryz.prog 174 xQ := alg
theorem Rw : aK xQ := aB
def Fk : Env := aA 174 xQ Fo
theorem zw : aV Tryz.prog Fk := ai Rx zA
theorem AK : ax Fk := ae Rw AN
theorem Uc : aZ Tryz.prog te Fk := aN follows au zw AK
def nM : av := ⟨[.val false .int, .val true .elem, .val true .elem], [], true, 0, false⟩
abbrev ZZ : Type := ((Int) × (aa) × (aa) × Unit) × (Unit)
def CV : az := ⟨[.val true .elem], [], false⟩
def Xg : SV → Option az := fun _ => some CV
def afl (a0 : Int) (a1 : aa) (a2 : aa) : OT nM.Y :=
  let z0 : Nat := pS a0
  let z1 : aa := { w0 := 0, w1 := 0, w2 := 0, w3 := 0 }
  let z2 : aa := aiy z0 a2
  (gd [CP ((a0, a2, ()), ())] (.br (Nat.beq (aa.nat a2 % z0) 0)
  (gd [cd ((a0, a1, z1, ()), ())] (.ok ⟨CV, ((aR z0 a1 z1, ()), ())⟩))
  (gd [cd ((a0, a1, z2, ()), ())] (.ok ⟨CV, ((aR z0 a1 z2, ()), ())⟩))))
theorem asm (x : ZZ) (Q : nM.Y → Prop) : wpf te Fk ay 1000 Tryz.f173 (nM.inp.inj x).tm (nM.inp.inj x).hp (fnK nM Xg Q) (fun _ _ => False) = (afl (x.1.1) (x.1.2.1) (x.1.2.2.1)).wpR Q := by kernel_rfl
theorem afk (pre : ZZ → Bool) (F : ZZ → OT nM.Y) (hF : ∀ (x : ZZ) oy, pre x = true → (F x).run = some oy → (afl (x.1.1) (x.1.2.1) (x.1.2.2.1)).run = some oy) : ac Tryz.prog 173 (nM.aH pre F) :=
  aC au zw Uc (f := 173) (fn := Tryz.f173) (c := ao Tryz.f173) (by kernel_rfl) (by kernel_rfl) (by kernel_rfl) (S := nM) (k := 0) (by kernel_rfl) (fun R hR => af) (n := 1000) (sel := Xg) (fun v o h => by cases h; rfl) (pre := pre) (F := F) (T := fun x => afl (x.1.1) (x.1.2.1) (x.1.2.2.1)) (fun x Q => asm x Q) hF
def byP (p : Nat) (a b : aa) : aa := aR p a (ug p b)
def BH (x : ZZ) : Bool := ak x.1.1
def ang (x : ZZ) : OT nM.Y := .ok ⟨CV, ((byP (pS x.1.1) x.1.2.1 x.1.2.2.1, ()), ())⟩
theorem apT : ac Tryz.prog 173 (nM.aH BH ang) := afk _ _ fun x oy hp ho => by
  rw [← ho]
  clear ho
  obtain ⟨⟨s, a, b, ⟨⟩⟩, ⟨⟩⟩ := x
  have hs : ak s = true := hp
  show _ = some (⟨CV, ((byP (pS s) a b, ()), ())⟩ : nM.Y)
  refine (al ?_).trans ?_
  · simp only [List.all_cons, List.all_nil, Bool.and_true, Bool.and_eq_true]
    exact hs
  · rcases (Bool.eq_false_or_eq_true (Nat.beq (b.nat % pS s) 0)).symm with h | h
    · have e : ug (pS s) b = aiy (pS s) b := by unfold ug; rw [h]; rfl
      unfold byP
      rw [e]
      refine (OT.aw h).trans ((al ?_).trans rfl)
      simp only [List.all_cons, List.all_nil, Bool.and_true]
      exact hs
    · have e : ug (pS s) b = ⟨0, 0, 0, 0⟩ := by unfold ug; rw [h]; rfl
      unfold byP
      rw [e]
      refine (OT.ap h).trans ((al ?_).trans rfl)
      simp only [List.all_cons, List.all_nil, Bool.and_true]
      exact hs
def CU : cG := (nM.aH BH ang)
theorem ZY : ac Tryz.prog 173 CU := apT
theorem ZX : aK CU := aB
def IM : Env := aA 173 CU Fk
theorem wk : aV Tryz.prog IM := ai ZY zw
theorem Fp : ax IM := ae ZX AK
theorem IL : aZ Tryz.prog te IM := aN follows au wk Fp
def fC : av := ⟨[.val true .elem], [], true, 0, false⟩
abbrev xT : Type := ((aa) × Unit) × (Unit)
def oJ : Shape := ⟨29, [(1, .ptr 0 0 0), (2, .ptr 1 0 0), (3, .ptr 2 0 0), (4, .val false .int)], [(0, .row .u64), (1, .row .u64), (2, .row .u64)], 0, true⟩
abbrev cb : Type := ((Unit) × (Unit) × (Unit) × (Int) × Unit) × ((List (UInt64)) × (List (UInt64)) × (List (UInt64)) × Unit)
def mY : Shape := ⟨29, [(2, .ptr 0 0 0), (3, .ptr 1 0 0)], [(0, .row .u64), (1, .row .u64)], 0, true⟩
abbrev iG : Type := ((Unit) × (Unit) × Unit) × ((List (UInt64)) × (List (UInt64)) × Unit)
def Np : SE → Option Shape := jr [(0, mY)] none
def afi (a4 : Int) (c0 : List (UInt64)) (c1 : List (UInt64)) (c2 : List (UInt64)) : OT (Sum cb aP) :=
  let z0 : Bool := inB a4 4
  let z1 : Nat := List.length c0
  let z2 : List UInt64 := List.set c2 (Int.toNat a4 + 0) (bA (List.getD c0 (Int.toNat a4 + 0) (0 : UInt64)) (1 : Int))
  let z3 : Bool := decide (Int.toNat a4 + 0 < List.length z2)
  let z4 : Bool := inR (a4 + (1 : Int))
  (.br (decide (a4 < (4 : Int)))
  (gd [z0, decide (Int.toNat a4 + 0 < z1), z0, decide (Int.toNat a4 + 0 < List.length c2)] (.br (decide (a4 < (3 : Int)))
    (gd [z0, z3, z4, inB (a4 + (1 : Int)) 4, decide (Int.toNat (a4 + (1 : Int)) + 0 < z1), z0, z3, z4] (.ok (.inl (((), ((), ((), (a4 + (1 : Int), ())))), (c0, (c1, (List.set z2 (Int.toNat a4 + 0) (List.getD z2 (Int.toNat a4 + 0) (0 : UInt64) ||| cA (List.getD c0 (Int.toNat (a4 + (1 : Int)) + 0) (0 : UInt64)) (63 : Int)), ())))))))
    (gd [z4] (.ok (.inl (((), ((), ((), (a4 + (1 : Int), ())))), (c0, (c1, (z2, ())))))))))
  (.ok (.inr ⟨(.exit 0, mY), (((), ((), ())), (c1, (c2, ())))⟩)))
def gn (s : cb) : OT (Sum cb aP) := afi (s.1.2.2.2.1) (s.2.1) (s.2.2.1) (s.2.2.2.1)
theorem aff (s : cb) (Q : Sum cb aP → Prop) : wps te IM ay 1000 (bF (ao Tryz.f130) 0) (oJ.inj s) (cQ oJ Np (Q : Sum oJ.T aP → Prop)) = (gn s).wpR Q := by kernel_rfl
def u1 (g0_0 : cb → iG) (s : cb) : OT aP := (.ok ⟨(.exit 0, mY), g0_0 s⟩)
def oK : az := ⟨[.val true .elem], [], false⟩
def He : SV → Option az := fun _ => some oK
def JK (ok0 : cb → Bool) (g0_0 : cb → iG) (a0 : aa) : OT fC.Y :=
  let z0 : (PUnit × PUnit × PUnit × Int × PUnit) × List UInt64 × List UInt64 × List UInt64 × PUnit := (((), (), (), (0 : Int), ()), [a0.w0, a0.w1, a0.w2, a0.w3], [(0 : UInt64), (0 : UInt64), (0 : UInt64), (0 : UInt64)], [(0 : UInt64), (0 : UInt64), (0 : UInt64), (0 : UInt64)], ())
  let z1 := (g0_0 z0).snd
  let z2 := z1.snd.fst
  let z3 := z1.fst
  let z4 : List UInt64 := lay z3 z2 4 (0 : UInt64)
  (gd [ok0 z0, decide (4 ≤ List.length z2), decide ((4 / 1 : Nat) + 0 ≤ List.length z3), decide (4 ≤ List.length z4)] (.ok ⟨oK, (({ w0 := List.getD z4 0 0, w1 := List.getD z4 1 0, w2 := List.getD z4 2 0, w3 := List.getD z4 3 0 }, ()), ())⟩))
theorem ali (ok0 : cb → Bool) (g0_0 : cb → iG) (x : xT) (Q : fC.Y → Prop) : wpf te IM (bg 0 (di oJ 0 ok0 (u1 g0_0)) ay) 1000 Tryz.f130 (fC.inp.inj x).tm (fC.inp.inj x).hp (fnK fC He Q) (fun _ _ => False) = (JK ok0 g0_0 (x.1.1)).wpR Q := by kernel_rfl
theorem RG (ok0 : cb → Bool) (g0_0 : cb → iG) (h0 : ∀ s : cb, ok0 s = true → ∃ m e, aq (gn) m s = some e ∧ (u1 g0_0 s).run = some e) (pre : xT → Bool) (F : xT → OT fC.Y) (hF : ∀ (x : xT) oy, pre x = true → (F x).run = some oy → (JK ok0 g0_0 (x.1.1)).run = some oy) : ac Tryz.prog 130 (fC.aH pre F) :=
  aC au wk IL (f := 130) (fn := Tryz.f130) (c := ao Tryz.f130) (by kernel_rfl) (by kernel_rfl) (by kernel_rfl) (S := fC) (k := 0) (by kernel_rfl) (fun R hR => (aF (c := (ao Tryz.f130)) (by kernel_rfl) (id := 0) (by kernel_rfl) (bt au wk IL (sh := oJ) hR (xs := Np) (aG (by kernel_rfl) (by kernel_rfl) hR) aW af (n := 1000) (T := gn) (fun s Q => aff s Q) (ok := ok0) (f := u1 g0_0) h0) af)) (n := 1000) (sel := He) (fun v o h => by cases h; rfl) (pre := pre) (F := F) (T := fun x => JK ok0 g0_0 (x.1.1)) (fun x Q => ali ok0 g0_0 x Q) hF
def nk (a : aa) (c1 l : List UInt64) (i : Int) : cb := (((), (), (), i, ()), (lst a, c1, l, ()))
theorem asM (a : aa) (c1 : List UInt64) : (gn (nk a c1 [0, 0, 0, 0] 0)).run = some (.inl (nk a c1 [bA a.w0 1 ||| cA a.w1 63, 0, 0, 0] 1)) := rfl
theorem asL (a : aa) (c1 : List UInt64) (x : UInt64) : (gn (nk a c1 [x, 0, 0, 0] 1)).run = some (.inl (nk a c1 [x, bA a.w1 1 ||| cA a.w2 63, 0, 0] 2)) := rfl
theorem asK (a : aa) (c1 : List UInt64) (x y : UInt64) : (gn (nk a c1 [x, y, 0, 0] 2)).run = some (.inl (nk a c1 [x, y, bA a.w2 1 ||| cA a.w3 63, 0] 3)) := rfl
theorem asJ (a : aa) (c1 : List UInt64) (x y z : UInt64) : (gn (nk a c1 [x, y, z, 0] 3)).run = some (.inl (nk a c1 [x, y, z, bA a.w3 1] 4)) := rfl
theorem asI (a : aa) (c1 l : List UInt64) : (gn (nk a c1 l 4)).run = some (.inr ⟨(.exit 0, mY), (((), (), ()), (c1, l, ()))⟩) := rfl
def Hg (s : cb) : Bool := decide (s.1.2.2.2.1 = 0 ∧ s.2.1.length = 4 ∧ s.2.2.2.1 = [0, 0, 0, 0])
def Ns (s : cb) : iG := (((), (), ()), (s.2.2.1, lst (fp (elemOf s.2.1)), ()))
theorem afh : ∀ s : cb, Hg s = true → ∃ m e, aq gn m s = some e ∧ (u1 Ns s).run = some e := by
  rintro ⟨⟨⟨⟩, ⟨⟩, ⟨⟩, i, ⟨⟩⟩, ⟨l, c1, c2, ⟨⟩⟩⟩ h
  have h' := of_decide_eq_true h
  dsimp only at h'
  obtain ⟨rfl, hl, rfl⟩ := h'
  obtain ⟨a, rfl⟩ : ∃ a, l = lst a := ⟨elemOf l, (bl hl).symm⟩
  refine ⟨_, _, aM (asM a c1) (aM (asL a c1 _) (aM (asK a c1 _ _) (aM (asJ a c1 _ _ _) (aL (asI a c1 _))))), ?_⟩
  have e : [bA a.w0 1 ||| cA a.w1 63, bA a.w1 1 ||| cA a.w2 63, bA a.w2 1 ||| cA a.w3 63, bA a.w3 1] = lst (fp a) := by rw [X5]; rfl
  rw [e]
  rfl
def Hf (_ : xT) : Bool := true
def Xb (x : xT) : OT fC.Y := .ok ⟨oK, ((fp x.1.1, ()), ())⟩
theorem afg : ac Tryz.prog 130 (fC.aH Hf Xb) := RG Hg Ns afh _ _ fun x oy hp ho => by
  rw [← ho]
  clear ho
  obtain ⟨⟨a, ⟨⟩⟩, ⟨⟩⟩ := x
  refine (al ?_).trans ?_
  · simp only [List.all_cons, List.all_nil, Bool.and_true, Bool.and_eq_true]
    exact ⟨decide_eq_true ⟨rfl, rfl, rfl⟩, rfl, rfl, rfl⟩
  · show some (⟨oK, ((elemOf (lay [0, 0, 0, 0] (lst (fp a)) 4 0), ()), ())⟩ : fC.Y) = some ⟨oK, ((fp a, ()), ())⟩
    rw [arv _ _ rfl rfl]
    rfl
def sP : cG := (fC.aH Hf Xb)
theorem Nr : ac Tryz.prog 130 sP := afg
theorem Nq : aK sP := aB
def rN : Env := aA 130 sP IM
theorem nC : aV Tryz.prog rN := ai Nr wk
theorem wj : ax rN := ae Nq Fp
theorem AM : aZ Tryz.prog te rN := aN follows au nC wj
def dm : av := ⟨[.val true .elem, .val false .int], [], true, 0, false⟩
abbrev lL : Type := ((aa) × (Int) × Unit) × (Unit)
def jV : Shape := ⟨14, [(1, .val false .int), (2, .ptr 0 0 0), (4, .ptr 1 0 0), (5, .val false .int)], [(0, .row .u64), (1, .row .u64)], 0, true⟩
abbrev bB : Type := ((Int) × (Unit) × (Unit) × (Int) × Unit) × ((List (UInt64)) × (List (UInt64)) × Unit)
def jj : Shape := ⟨14, [(2, .ptr 0 0 0), (4, .ptr 1 0 0)], [(0, .row .u64), (1, .row .u64)], 0, true⟩
abbrev fw : Type := ((Unit) × (Unit) × Unit) × ((List (UInt64)) × (List (UInt64)) × Unit)
def CR : SE → Option Shape := jr [(0, jj)] none
def RF (a1 : Int) (a5 : Int) (c0 : List (UInt64)) (c1 : List (UInt64)) : OT (Sum bB aP) :=
  let z0 : Nat := List.length c0
  let z1 : aa := fp { w0 := List.getD c0 0 0, w1 := List.getD c0 1 0, w2 := List.getD c0 2 0, w3 := List.getD c0 3 0 }
  (.br (decide (a5 < a1))
  (gd [decide (4 ≤ z0), decide ((4 / 1 : Nat) + 0 ≤ z0), inR (a5 + (1 : Int))] (.ok (.inl ((a1, ((), ((), (a5 + (1 : Int), ())))), (List.set (List.set (List.set (List.set c0 0 z1.w0) 1 z1.w1) 2 z1.w2) 3 z1.w3, (c1, ()))))))
  (.ok (.inr ⟨(.exit 0, jj), (((), ((), ())), (c0, (c1, ())))⟩)))
def jX (s : bB) : OT (Sum bB aP) := RF (s.1.1) (s.1.2.2.2.1) (s.2.1) (s.2.2.1)
theorem RC (s : bB) (Q : Sum bB aP → Prop) : wps te rN ay 1000 (bF (ao Tryz.f132) 0) (jV.inj s) (cQ jV CR (Q : Sum jV.T aP → Prop)) = (jX s).wpR Q := by kernel_rfl
def mX (g0_0 : bB → fw) (s : bB) : OT aP := (.ok ⟨(.exit 0, jj), g0_0 s⟩)
def jW : az := ⟨[.val true .elem], [], false⟩
def zW : SV → Option az := fun _ => some jW
def xS (ok0 : bB → Bool) (g0_0 : bB → fw) (a0 : aa) (a1 : Int) : OT dm.Y :=
  let z0 : (Int × PUnit × PUnit × Int × PUnit) × List UInt64 × List UInt64 × PUnit := ((a1, (), (), (0 : Int), ()), [a0.w0, a0.w1, a0.w2, a0.w3], [(0 : UInt64), (0 : UInt64), (0 : UInt64), (0 : UInt64)], ())
  let z1 := (g0_0 z0).snd
  let z2 := z1.fst
  let z3 := z1.snd.fst
  let z4 : List UInt64 := lay z3 z2 4 (0 : UInt64)
  (gd [ok0 z0, decide (4 ≤ List.length z2), decide ((4 / 1 : Nat) + 0 ≤ List.length z3), decide (4 ≤ List.length z4)] (.ok ⟨jW, (({ w0 := List.getD z4 0 0, w1 := List.getD z4 1 0, w2 := List.getD z4 2 0, w3 := List.getD z4 3 0 }, ()), ())⟩))
theorem ZV (ok0 : bB → Bool) (g0_0 : bB → fw) (x : lL) (Q : dm.Y → Prop) : wpf te rN (bg 0 (di jV 0 ok0 (mX g0_0)) ay) 1000 Tryz.f132 (dm.inp.inj x).tm (dm.inp.inj x).hp (fnK dm zW Q) (fun _ _ => False) = (xS ok0 g0_0 (x.1.1) (x.1.2.1)).wpR Q := by kernel_rfl
theorem JJ (ok0 : bB → Bool) (g0_0 : bB → fw) (h0 : ∀ s : bB, ok0 s = true → ∃ m e, aq (jX) m s = some e ∧ (mX g0_0 s).run = some e) (pre : lL → Bool) (F : lL → OT dm.Y) (hF : ∀ (x : lL) oy, pre x = true → (F x).run = some oy → (xS ok0 g0_0 (x.1.1) (x.1.2.1)).run = some oy) : ac Tryz.prog 132 (dm.aH pre F) :=
  aC au nC AM (f := 132) (fn := Tryz.f132) (c := ao Tryz.f132) (by kernel_rfl) (by kernel_rfl) (by kernel_rfl) (S := dm) (k := 0) (by kernel_rfl) (fun R hR => (aF (c := (ao Tryz.f132)) (by kernel_rfl) (id := 0) (by kernel_rfl) (bt au nC AM (sh := jV) hR (xs := CR) (aG (by kernel_rfl) (by kernel_rfl) hR) aW af (n := 1000) (T := jX) (fun s Q => RC s Q) (ok := ok0) (f := mX g0_0) h0) af)) (n := 1000) (sel := zW) (fun v o h => by cases h; rfl) (pre := pre) (F := F) (T := fun x => xS ok0 g0_0 (x.1.1) (x.1.2.1)) (fun x Q => ZV ok0 g0_0 x Q) hF
def zX (s : bB) : Bool := decide (s.1.2.2.2.1 = 0 ∧ 0 ≤ s.1.1 ∧ s.1.1 ≤ 1000000 ∧ s.2.1.length = 4)
def CS (s : bB) : fw := (((), (), ()), (lst (eZ (elemOf s.2.1) s.1.1.toNat), s.2.2.1, ()))
theorem RE : ∀ s : bB, zX s = true → ∃ m e, aq jX m s = some e ∧ (mX CS s).run = some e := by
  rintro ⟨⟨k, ⟨⟩, ⟨⟩, i, ⟨⟩⟩, ⟨l, o, ⟨⟩⟩⟩ h
  have h' := of_decide_eq_true h
  dsimp only at h'
  obtain ⟨rfl, h0, h1, hl⟩ := h'
  obtain ⟨a, rfl⟩ : ∃ a, l = lst a := ⟨elemOf l, (bl hl).symm⟩
  have := (bP (T := jX) (fun i a => (((k, (), (), (i : Int), ()), (lst a, o, ())) : bB)) (fun _ e => fp e)
    (fun a => (⟨(.exit 0, jj), (((), (), ()), (lst a, o, ()))⟩ : aP)) k.toNat a (fun _ _ => True) trivial (fun i a hi _ => ⟨?_, trivial⟩) (fun a _ => ?_)).1
  · rw [tn] at this
    obtain ⟨m, hm⟩ := this
    exact ⟨m, _, hm, rfl⟩
  · refine (OT.ap (decide_eq_true (by dsimp only; omega))).trans ((al ?_).trans rfl)
    simp only [List.all_cons, List.all_nil, Bool.and_true, Bool.and_eq_true]
    exact ⟨rfl, rfl, bE (by omega)⟩
  · exact OT.aw (decide_eq_false (by dsimp only; omega))
def oI (x : lL) : Bool := decide (0 ≤ x.1.2.1 ∧ x.1.2.1 ≤ 1000000)
def Hd (x : lL) : OT dm.Y := .ok ⟨jW, ((eZ x.1.1 x.1.2.1.toNat, ()), ())⟩
theorem RD : ac Tryz.prog 132 (dm.aH oI Hd) := JJ zX CS RE _ _ fun x oy hp ho => by
  rw [← ho]
  clear ho
  obtain ⟨⟨a, k, ⟨⟩⟩, ⟨⟩⟩ := x
  have hp' : 0 ≤ k ∧ k ≤ 1000000 := of_decide_eq_true hp
  refine (al ?_).trans ?_
  · simp only [List.all_cons, List.all_nil, Bool.and_true, Bool.and_eq_true]
    exact ⟨decide_eq_true ⟨rfl, hp'.1, hp'.2, rfl⟩, rfl, rfl, rfl⟩
  · show some (⟨jW, ((elemOf (lay [0, 0, 0, 0] (lst (eZ a k.toNat)) 4 0), ()), ())⟩ : dm.Y) = some ⟨jW, ((eZ a k.toNat, ()), ())⟩
    rw [arv _ _ rfl rfl]
    rfl
def mW : cG := (dm.aH oI Hd)
theorem Gi : ac Tryz.prog 132 mW := RD
theorem Gh : aK mW := aB
def zy : Env := aA 132 mW rN
theorem LH : aV Tryz.prog zy := ai Gi nC
theorem Fm : ax zy := ae Gh wj
end Go.Proofs.YtohjofabochgfaaGreat

namespace Go.Proofs.YtohjofabochgfaaGreat
namespace Sx
open Go
theorem OT.Ln {α β : Type} {f : α → OT β} : ∀ {t : OT α} {a : α} {b : β}, t.run = some a → (f a).run = some b → (t.bind f).run = some b
  | .ok x, a, b, h, h2 => by
    cases h
    exact h2
  | .br c x y, a, b, h, h2 => by
    cases c
    · exact OT.Ln (t := y) h h2
    · exact OT.Ln (t := x) h h2
  | .fail, a, b, h, _ => by cases h
theorem sB {P : Program} {n : FuncId} {S : av} {pre pre' : S.T → Bool} {F F' : S.T → OT S.Y} (h : ac P n (S.aH pre F))
    (hw : ∀ x oy, pre' x = true → (F' x).run = some oy → pre x = true ∧ (F x).run = some oy) : ac P n (S.aH pre' F') := by
  refine ⟨fun R w d args vs out hm hr hrun => h.calls R w d args vs out hm hr ?_⟩
  simp only [av.aH] at hrun ⊢
  split at hrun
  · cases hrun
  · rename_i x hx
    obtain ⟨hp, hrun⟩ := OT.aE hrun
    obtain ⟨oy, h1, h2⟩ := OT.run_bind hrun
    obtain ⟨h3, h4⟩ := hw x oy hp h1
    rw [h3]
    exact OT.Ln h4 h2
end Sx
end Go.Proofs.YtohjofabochgfaaGreat

namespace Go.Proofs.YtohjofabochgfaaGreat
open Sx Go
set_option maxRecDepth 100000
abbrev W8 : av := gl
def xM (x : zV) : Bool := ak x.1.1
def W9 (x : zV) : OT gl.Y := .ok ⟨jh, (((bT x.1.1.toNat).1, ((0 : Int), ())), ())⟩
theorem ae9 : ac Tryz.prog 92 (W8.aH xM W9) := sB (S := gl) Xa fun x oy hp ho => ⟨rfl, (OT.ap (b := ak x.1.1) hp).trans ho⟩
def sO : cG := (W8.aH xM W9)
theorem Nf : ac Tryz.prog 92 sO := ae9
theorem Nd : aK sO := aB
def LG : Env := aA 92 sO zy
theorem Ua : aV Tryz.prog LG := ai Nf LH
theorem LF : ax LG := ae Nd Fm
abbrev Xh : av := gu
def xX (x : zY) : Bool := ak x.1.1
def Xi (x : zY) : OT gu.Y := .ok ⟨mZ, (((bT x.1.1.toNat).2.1, ((0 : Int), ())), ())⟩
theorem afn : ac Tryz.prog 131 (Xh.aH xX Xi) := sB (S := gu) Xj fun x oy hp ho => ⟨rfl, (OT.ap (b := ak x.1.1) hp).trans ho⟩
def sQ : cG := (Xh.aH xX Xi)
theorem Ny : ac Tryz.prog 131 sQ := afn
theorem Nx : aK sQ := aB
def LJ : Env := aA 131 sQ LG
theorem Ue : aV Tryz.prog LJ := ai Ny Ua
theorem LI : ax LJ := ae Nx LF
abbrev ae1 : av := jT
def iF (x : M9) : Bool := ak x.1.1
def ae2 (x : M9) : OT jT.Y := .ok ⟨lp, ((ofP (pS x.1.1) x.1.2.1, ()), ())⟩
theorem ala : ac Tryz.prog 62 (ae1.aH iF ae2) := sB (S := jT) ae5 fun x oy hp ho => ⟨rfl, (OT.ap (b := ak x.1.1) hp).trans ho⟩
def xJ : cG := (ae1.aH iF ae2)
theorem Rh : ac Tryz.prog 62 xJ := ala
theorem Rg : aK xJ := aB
def Fe : Env := aA 62 xJ LJ
theorem zq : aV Tryz.prog Fe := ai Rh Ue
theorem AE : ax Fe := ae Rg LI
theorem T8 : aZ Tryz.prog te Fe := aN follows au zq AE
def jQ : av := ⟨[], [], true, 0, false⟩
abbrev GY : Type := (Unit) × (Unit)
def Jw : az := ⟨[.val true (.prod .elem (.prod .elem .bool))], [], false⟩
def MS : SV → Option az := fun _ => some Jw
def Q5 : OT jQ.Y :=
  let z0 : aa := { w0 := 0, w1 := 0, w2 := 0, w3 := 0 }
  (.ok ⟨Jw, (((z0, z0, true), ()), ())⟩)
theorem apC (x : GY) (Q : jQ.Y → Prop) : wpf te Fe ay 1000 Tryz.f93 (jQ.inp.inj x).tm (jQ.inp.inj x).hp (fnK jQ MS Q) (fun _ _ => False) = (Q5).wpR Q := by kernel_rfl
theorem ZF (pre : GY → Bool) (F : GY → OT jQ.Y) (hF : ∀ (x : GY) oy, pre x = true → (F x).run = some oy → (Q5).run = some oy) : ac Tryz.prog 93 (jQ.aH pre F) :=
  aC au zq T8 (f := 93) (fn := Tryz.f93) (c := ao Tryz.f93) (by kernel_rfl) (by kernel_rfl) (by kernel_rfl) (S := jQ) (k := 0) (by kernel_rfl) (fun R hR => af) (n := 1000) (sel := MS) (fun v o h => by cases h; rfl) (pre := pre) (F := F) (T := fun x => Q5) (fun x Q => apC x Q) hF
def MT (_ : GY) : Bool := true
def aeJ (_ : GY) : OT jQ.Y := .ok ⟨Jw, ((aD, ()), ())⟩
theorem ak3 : ac Tryz.prog 93 (jQ.aH MT aeJ) := ZF _ _ fun x oy _ ho => ho
def xB : cG := (jQ.aH MT aeJ)
theorem Q4 : ac Tryz.prog 93 xB := ak3
theorem Q3 : aK xB := aB
def Fb : Env := aA 93 xB Fe
theorem zo : aV Tryz.prog Fb := ai Q4 zq
theorem AB : ax Fb := ae Q3 AE
theorem T7 : aZ Tryz.prog te Fb := aN follows au zo AB
def CB : av := ⟨[.val false .int], [], true, 0, false⟩
abbrev aru : Type := ((Int) × Unit) × (Unit)
def aeN : az := ⟨[.val true .elem], [], false⟩
def aeM : SV → Option az := fun _ => some aeN
def apD (a0 : Int) : OT CB.Y :=
  (gd [inB a0 4, decide (Int.toNat a0 + 0 < 4)] (.ok ⟨aeN, (({ w0 := List.getD [(23 : UInt64), (21 : UInt64), (5 : UInt64), (5 : UInt64)] (Int.toNat a0 + 0) (0 : UInt64), w1 := 0, w2 := 0, w3 := 0 }, ()), ())⟩))
theorem atM (x : aru) (Q : CB.Y → Prop) : wpf te Fb ay 1000 Tryz.f135 (CB.inp.inj x).tm (CB.inp.inj x).hp (fnK CB aeM Q) (fun _ _ => False) = (apD (x.1.1)).wpR Q := by kernel_rfl
theorem ak5 (pre : aru → Bool) (F : aru → OT CB.Y) (hF : ∀ (x : aru) oy, pre x = true → (F x).run = some oy → (apD (x.1.1)).run = some oy) : ac Tryz.prog 135 (CB.aH pre F) :=
  aC au zo T7 (f := 135) (fn := Tryz.f135) (c := ao Tryz.f135) (by kernel_rfl) (by kernel_rfl) (by kernel_rfl) (S := CB) (k := 0) (by kernel_rfl) (fun R hR => af) (n := 1000) (sel := aeM) (fun v o h => by cases h; rfl) (pre := pre) (F := F) (T := fun x => apD (x.1.1)) (fun x Q => atM x Q) hF
def Q7 (x : aru) : Bool := ak x.1.1
def asj (x : aru) : OT CB.Y := .ok ⟨aeN, ((bS x.1.1, ()), ())⟩
theorem asi : ac Tryz.prog 135 (CB.aH Q7 asj) := ak5 _ _ fun x oy hp ho => by
  rw [← ho]
  clear ho
  obtain ⟨⟨s, ⟨⟩⟩, ⟨⟩⟩ := x
  rcases cr hp with h | h | h | h
  all_goals
    have h : s = _ := h
    subst h
    rfl
def Jy : cG := (CB.aH Q7 asj)
theorem aeO : ac Tryz.prog 135 Jy := asi
theorem aeL : aK Jy := aB
def ais : Env := aA 135 Jy Fb
theorem LD : aV Tryz.prog ais := ai aeO zo
theorem IK : ax ais := ae aeL AB
theorem air : aZ Tryz.prog te ais := aN follows au LD IK
end Go.Proofs.YtohjofabochgfaaGreat
