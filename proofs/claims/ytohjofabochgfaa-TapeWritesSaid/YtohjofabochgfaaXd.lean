/- A symbolic machine for Go code over plain data, and functions of the program as it shows them. No statement is proved in this file. -/
import Derived.Laws.Externs
import Derived.Lib.Mul64
import Derived.KernelRfl
import Derived.Test.YtohjofabochgfaaXc
set_option linter.unusedSimpArgs false
set_option linter.unusedVariables false
set_option linter.unusedSectionVars false

namespace Go.Proofs.Ytohjofabochgfaa
open Sx Go
def Sx.af.nat (e : af) : Nat := e.w0.toNat + 18446744073709551616 * (e.w1.toNat + 18446744073709551616 * (e.w2.toNat + 18446744073709551616 * e.w3.toNat))
def ofN (n : Nat) : af := ⟨UInt64.ofNat n, UInt64.ofNat (n / 18446744073709551616), UInt64.ofNat (n / 18446744073709551616 / 18446744073709551616), UInt64.ofNat (n / 18446744073709551616 / 18446744073709551616 / 18446744073709551616)⟩
def sw (x y c : UInt64) : UInt64 := UInt64.ofNat ((x.toNat + y.toNat + c.toNat) % 18446744073709551616)
def uT (x y c : UInt64) : UInt64 := UInt64.ofNat ((x.toNat + y.toNat + c.toNat) / 18446744073709551616)
def m7 (x y c : UInt64) : UInt64 := UInt64.ofNat ((x.toNat + 18446744073709551616 - y.toNat - c.toNat) % 18446744073709551616)
def Oe (x y c : UInt64) : UInt64 := UInt64.ofNat (if x.toNat < y.toNat + c.toNat then 1 else 0)
def aj0 (x y : UInt64) : UInt64 := UInt64.ofNat (x.toNat * y.toNat / 18446744073709551616)
theorem eD (x : UInt64) (k : Nat) (hk : k < 64) : (aX x (k : Int)).toNat = x.toNat / 2 ^ k := by
  unfold aX
  rw [if_pos (by omega), UInt64.toNat_shiftRight, UInt64.toNat_ofNat', Int.toNat_natCast, Nat.shiftRight_eq_div_pow]
  congr 2
  omega
theorem jR (x : UInt64) (k : Nat) (hk : k < 64) : (bH x (k : Int)).toNat = x.toNat * 2 ^ k % 2 ^ 64 := by
  unfold bH
  rw [if_pos (by omega), UInt64.toNat_shiftLeft, UInt64.toNat_ofNat', Int.toNat_natCast, Nat.shiftLeft_eq]
  congr 3
  omega
theorem ik (x : UInt64) : (x &&& 4294967295).toNat = x.toNat % 4294967296 := by
  rw [UInt64.toNat_and]
  exact Nat.and_two_pow_sub_one_eq_mod x.toNat 32
theorem asT (a b : UInt64) : aX a 32 * aX b 32 + aX (aX a 32 * (b &&& 4294967295) + aX ((a &&& 4294967295) * (b &&& 4294967295)) 32) 32 +
    aX (((aX a 32 * (b &&& 4294967295) + aX ((a &&& 4294967295) * (b &&& 4294967295)) 32) &&& 4294967295) + (a &&& 4294967295) * aX b 32) 32 = aj0 a b := by
  have ha := a.toNat_lt
  have hb := b.toNat_lt
  obtain ⟨h1, h2, h3, h4⟩ := Lib.mul64_hi a.toNat b.toNat ha hb
  have s32 : ∀ x : UInt64, (aX x 32).toNat = x.toNat / 4294967296 := fun x => eD x 32 (by omega)
  have hx := Lib.half_mul_le (a := a.toNat / 4294967296) (b := b.toNat / 4294967296) (by omega) (by omega)
  have hy := Lib.half_mul_le (a := a.toNat / 4294967296) (b := b.toNat % 4294967296) (by omega) (by omega)
  have hz := Lib.half_mul_le (a := a.toNat % 4294967296) (b := b.toNat / 4294967296) (by omega) (by omega)
  have e0 : ((a &&& 4294967295) * (b &&& 4294967295)).toNat = a.toNat % 4294967296 * (b.toNat % 4294967296) := by
    rw [UInt64.toNat_mul, ik, ik, Nat.mod_eq_of_lt h1]
  have e1 : (aX a 32 * (b &&& 4294967295) + aX ((a &&& 4294967295) * (b &&& 4294967295)) 32).toNat = a.toNat / 4294967296 * (b.toNat % 4294967296) + a.toNat % 4294967296 * (b.toNat % 4294967296) / 4294967296 := by
    rw [UInt64.toNat_add, UInt64.toNat_mul, s32, s32, ik, e0, Nat.mod_eq_of_lt (a := a.toNat / 4294967296 * (b.toNat % 4294967296)) (by omega), Nat.mod_eq_of_lt h2]
  have e2 : (((aX a 32 * (b &&& 4294967295) + aX ((a &&& 4294967295) * (b &&& 4294967295)) 32) &&& 4294967295) + (a &&& 4294967295) * aX b 32).toNat =
      (a.toNat / 4294967296 * (b.toNat % 4294967296) + a.toNat % 4294967296 * (b.toNat % 4294967296) / 4294967296) % 4294967296 + a.toNat % 4294967296 * (b.toNat / 4294967296) := by
    rw [UInt64.toNat_add, UInt64.toNat_mul, ik, ik, s32, e1, Nat.mod_eq_of_lt (a := a.toNat % 4294967296 * (b.toNat / 4294967296)) (by omega), Nat.mod_eq_of_lt h3]
  have hq : a.toNat * b.toNat / 18446744073709551616 < 18446744073709551616 := by
    rw [Nat.div_lt_iff_lt_mul (by omega)]
    exact Nat.mul_lt_mul'' ha hb
  rw [← UInt64.toNat_inj, UInt64.toNat_add, UInt64.toNat_add, UInt64.toNat_mul, s32, s32, s32, s32, e1, e2]
  have e3 : (aj0 a b).toNat = a.toNat * b.toNat / 18446744073709551616 := by
    unfold aj0
    rw [UInt64.toNat_ofNat', Nat.mod_eq_of_lt hq]
  rw [e3, ← h4]
  rw [← h4] at hq
  omega
def ar6 (h l y : UInt64) : UInt64 := UInt64.ofNat ((h.toNat * 18446744073709551616 + l.toNat) / y.toNat)
def Rp (h l y : UInt64) : UInt64 := UInt64.ofNat ((h.toNat * 18446744073709551616 + l.toNat) % y.toNat)
theorem am3 {m A B N : Nat} (hm : 0 < m) (e : N = A + m * B) : N / m = B + A / m ∧ N % m = A % m := by
  subst e
  exact ⟨by rw [Nat.add_mul_div_left _ _ hm, Nat.add_comm], Nat.add_mul_mod_self_left ..⟩
theorem Nb {m N u t q r K L : Nat} (hm : 0 < m) (hL : 0 < L) (hu : N = u * K + t) (hq : u = q * (m * L) + r) :
    N / m = q * (L * K) + ((r * K + t) * L) / (m * L) ∧ N % m = ((r * K + t) * L) % (m * L) / L := by
  have e : N = (r * K + t) + m * (q * (L * K)) := by
    have h1 : q * (m * L) * K = m * (q * (L * K)) := by
      rw [Nat.mul_assoc q, Nat.mul_assoc m, Nat.mul_left_comm m q]
    rw [hu, hq, Nat.add_mul, h1]
    omega
  obtain ⟨h1, h2⟩ := am3 hm e
  rw [h1, h2, Nat.mul_div_mul_right _ _ hL, Nat.mul_mod_mul_right, Nat.mul_div_cancel _ hL]
  exact ⟨rfl, rfl⟩
theorem kA (x y c : UInt64) : x.toNat + y.toNat + c.toNat = (sw x y c).toNat + 18446744073709551616 * (uT x y c).toNat := by
  have hx := x.toNat_lt
  have hy := y.toNat_lt
  have hc := c.toNat_lt
  unfold sw uT
  rw [UInt64.toNat_ofNat', UInt64.toNat_ofNat', Nat.mod_eq_of_lt (b := 2 ^ 64) (by omega), Nat.mod_eq_of_lt (b := 2 ^ 64) (by omega)]
  omega
theorem Av {x y c : UInt64} (hc : c.toNat ≤ 1) : (uT x y c).toNat ≤ 1 := by
  have hx := x.toNat_lt
  have hy := y.toNat_lt
  unfold uT
  rw [UInt64.toNat_ofNat', Nat.mod_eq_of_lt (by omega)]
  omega
theorem vm (x y c : UInt64) : (Oe x y c).toNat = if x.toNat < y.toNat + c.toNat then 1 else 0 := by
  unfold Oe
  rw [UInt64.toNat_ofNat']
  split <;> rfl
theorem tf {x y c : UInt64} : (Oe x y c).toNat ≤ 1 := by
  rw [vm]
  split <;> omega
theorem vn {x y c : UInt64} (hc : c.toNat ≤ 1) : x.toNat + 18446744073709551616 * (Oe x y c).toNat = (m7 x y c).toNat + y.toNat + c.toNat := by
  have hx := x.toNat_lt
  have hy := y.toNat_lt
  rw [vm]
  unfold m7
  rw [UInt64.toNat_ofNat', Nat.mod_eq_of_lt (b := 2 ^ 64) (by omega)]
  split <;> omega
theorem mf (e : af) : e.nat < 115792089237316195423570985008687907853269984665640564039457584007913129639936 := by
  have h0 := e.w0.toNat_lt
  have h1 := e.w1.toNat_lt
  have h2 := e.w2.toNat_lt
  have h3 := e.w3.toNat_lt
  unfold Sx.af.nat
  omega
theorem yu {a b X Y : Nat} (ha : a < 18446744073709551616) (hb : b < 18446744073709551616) (h : a + 18446744073709551616 * X = b + 18446744073709551616 * Y) : a = b ∧ X = Y := by
  omega
theorem tK {e f : af} (h : e.nat = f.nat) : e = f := by
  unfold Sx.af.nat at h
  obtain ⟨h0, h⟩ := yu e.w0.toNat_lt f.w0.toNat_lt h
  obtain ⟨h1, h⟩ := yu e.w1.toNat_lt f.w1.toNat_lt h
  obtain ⟨h2, h3⟩ := yu e.w2.toNat_lt f.w2.toNat_lt h
  obtain ⟨a, b, c, d⟩ := e
  obtain ⟨a', b', c', d'⟩ := f
  simp only at h0 h1 h2 h3
  rw [UInt64.toNat_inj.1 h0, UInt64.toNat_inj.1 h1, UInt64.toNat_inj.1 h2, UInt64.toNat_inj.1 h3]
theorem div_eq {n a b : Nat} (ha : a < 18446744073709551616) (h : n = a + 18446744073709551616 * b) : n / 18446744073709551616 = b ∧ n % 18446744073709551616 = a := by
  omega
theorem ahj {n : Nat} {a b c d : UInt64} {k : Nat} (h : n = a.toNat + 18446744073709551616 * (b.toNat + 18446744073709551616 * (c.toNat + 18446744073709551616 * (d.toNat + 18446744073709551616 * k)))) : ofN n = ⟨a, b, c, d⟩ := by
  obtain ⟨h1, h0⟩ := div_eq a.toNat_lt h
  obtain ⟨h2, h3⟩ := div_eq b.toNat_lt h1
  obtain ⟨h4, h5⟩ := div_eq c.toNat_lt h2
  have h6 : n / 18446744073709551616 / 18446744073709551616 / 18446744073709551616 % 18446744073709551616 = d.toNat := by
    rw [h4]
    have := d.toNat_lt
    omega
  unfold ofN
  have e : ∀ (m : Nat) (x : UInt64), m % 18446744073709551616 = x.toNat → UInt64.ofNat m = x := fun m x hm => by
    rw [← UInt64.toNat_inj, UInt64.toNat_ofNat']
    exact hm
  rw [e _ a h0, e _ b h3, e _ c h5, e _ d h6]
theorem Mp (n : Nat) : (ofN n).nat = n % 115792089237316195423570985008687907853269984665640564039457584007913129639936 := by
  unfold ofN af.nat
  simp only [UInt64.toNat_ofNat']
  rw [show (2 : Nat) ^ 64 = 18446744073709551616 from rfl]
  omega
theorem lB {n : Nat} (h : n < 115792089237316195423570985008687907853269984665640564039457584007913129639936) : (ofN n).nat = n := by
  rw [Mp]
  exact Nat.mod_eq_of_lt h
theorem Mo (e : af) : ofN e.nat = e := tK (lB (mf e))
def A5 (a b : af) : af × Bool := (ofN (a.nat + b.nat), Nat.ble 115792089237316195423570985008687907853269984665640564039457584007913129639936 (a.nat + b.nat))
def jn (a b : af) : af × Bool := (ofN (a.nat + 115792089237316195423570985008687907853269984665640564039457584007913129639936 - b.nat), Nat.blt a.nat b.nat)
theorem NM {x y c s k X Y R : Nat} (h1 : x + y + c = s + 18446744073709551616 * k) (h2 : X + Y + k = R) : (x + 18446744073709551616 * X) + (y + 18446744073709551616 * Y) + c = s + 18446744073709551616 * R := by
  omega
theorem Lf {x y c s k X Y R Q : Nat} (h1 : x + 18446744073709551616 * k = s + y + c) (h2 : X + 18446744073709551616 * Q = R + Y + k) : (x + 18446744073709551616 * X) + 18446744073709551616 * (18446744073709551616 * Q) = s + 18446744073709551616 * R + (y + 18446744073709551616 * Y) + c := by
  omega
theorem Ih (a b : af) : let k0 := uT a.w0 b.w0 0; let k1 := uT a.w1 b.w1 k0; let k2 := uT a.w2 b.w2 k1; let k3 := uT a.w3 b.w3 k2
    (k0.toNat ≤ 1 ∧ k1.toNat ≤ 1 ∧ k2.toNat ≤ 1) ∧ A5 a b = (⟨sw a.w0 b.w0 0, sw a.w1 b.w1 k0, sw a.w2 b.w2 k1, sw a.w3 b.w3 k2⟩, !(k3 == 0)) := by
  intro k0 k1 k2 k3
  have l0 : k0.toNat ≤ 1 := Av (by decide)
  have l1 : k1.toNat ≤ 1 := Av l0
  have l2 : k2.toNat ≤ 1 := Av l1
  have l3 : k3.toNat ≤ 1 := Av l2
  refine ⟨⟨l0, l1, l2⟩, ?_⟩
  have h := NM (kA a.w0 b.w0 0) (NM (kA a.w1 b.w1 k0) (NM (kA a.w2 b.w2 k1) (kA a.w3 b.w3 k2)))
  rw [show (0 : UInt64).toNat = 0 from rfl, Nat.add_zero] at h
  unfold A5
  have hn : a.nat + b.nat = (sw a.w0 b.w0 0).toNat + 18446744073709551616 * ((sw a.w1 b.w1 k0).toNat + 18446744073709551616 * ((sw a.w2 b.w2 k1).toNat + 18446744073709551616 * ((sw a.w3 b.w3 k2).toNat + 18446744073709551616 * k3.toNat))) := h
  rw [ahj hn]
  congr 1
  have hs := mf ⟨sw a.w0 b.w0 0, sw a.w1 b.w1 k0, sw a.w2 b.w2 k1, sw a.w3 b.w3 k2⟩
  unfold Sx.af.nat at hs
  simp only at hs
  have hk : k3.toNat = 0 ∨ k3.toNat = 1 := by omega
  rcases hk with hk | hk
  · have e : k3 = 0 := UInt64.toNat_inj.1 hk
    rw [hk] at hn
    rw [e]
    cases hb : Nat.ble 115792089237316195423570985008687907853269984665640564039457584007913129639936 (a.nat + b.nat)
    · rfl
    · have := Nat.le_of_ble_eq_true hb
      omega
  · have e : (k3 == 0) = false := by
      have : ¬ k3 = 0 := fun e => by rw [e] at hk; cases hk
      simpa using this
    rw [hk] at hn
    rw [e]
    exact Nat.ble_eq_true_of_le (by omega)
theorem yw (a b : af) : let k0 := Oe a.w0 b.w0 0; let k1 := Oe a.w1 b.w1 k0; let k2 := Oe a.w2 b.w2 k1; let k3 := Oe a.w3 b.w3 k2
    (k0.toNat ≤ 1 ∧ k1.toNat ≤ 1 ∧ k2.toNat ≤ 1) ∧ jn a b = (⟨m7 a.w0 b.w0 0, m7 a.w1 b.w1 k0, m7 a.w2 b.w2 k1, m7 a.w3 b.w3 k2⟩, !(k3 == 0)) := by
  intro k0 k1 k2 k3
  have l0 : k0.toNat ≤ 1 := tf
  have l1 : k1.toNat ≤ 1 := tf
  have l2 : k2.toNat ≤ 1 := tf
  have l3 : k3.toNat ≤ 1 := tf
  refine ⟨⟨l0, l1, l2⟩, ?_⟩
  have h := Lf (vn (x := a.w0) (y := b.w0) (c := 0) (by decide)) (Lf (vn (x := a.w1) (y := b.w1) l0) (Lf (vn (x := a.w2) (y := b.w2) l1) (vn (x := a.w3) (y := b.w3) l2)))
  rw [show (0 : UInt64).toNat = 0 from rfl, Nat.add_zero] at h
  unfold jn
  have hs := mf ⟨m7 a.w0 b.w0 0, m7 a.w1 b.w1 k0, m7 a.w2 b.w2 k1, m7 a.w3 b.w3 k2⟩
  have h' : a.nat + 18446744073709551616 * (18446744073709551616 * (18446744073709551616 * (18446744073709551616 * k3.toNat))) = af.nat ⟨m7 a.w0 b.w0 0, m7 a.w1 b.w1 k0, m7 a.w2 b.w2 k1, m7 a.w3 b.w3 k2⟩ + b.nat := h
  have ha := mf a
  have hb := mf b
  have hS := mf ⟨m7 a.w0 b.w0 0, m7 a.w1 b.w1 k0, m7 a.w2 b.w2 k1, m7 a.w3 b.w3 k2⟩
  have e1 : ofN (a.nat + 115792089237316195423570985008687907853269984665640564039457584007913129639936 - b.nat) = ⟨m7 a.w0 b.w0 0, m7 a.w1 b.w1 k0, m7 a.w2 b.w2 k1, m7 a.w3 b.w3 k2⟩ := by
    apply tK
    rw [Mp]
    generalize af.nat ⟨m7 a.w0 b.w0 0, m7 a.w1 b.w1 k0, m7 a.w2 b.w2 k1, m7 a.w3 b.w3 k2⟩ = S at *
    omega
  rw [e1]
  congr 1
  generalize af.nat ⟨m7 a.w0 b.w0 0, m7 a.w1 b.w1 k0, m7 a.w2 b.w2 k1, m7 a.w3 b.w3 k2⟩ = S at *
  have hk : k3.toNat = 0 ∨ k3.toNat = 1 := by omega
  rcases hk with hk | hk
  · have e : k3 = 0 := UInt64.toNat_inj.1 hk
    rw [hk] at h'
    rw [e]
    cases hq : Nat.blt a.nat b.nat
    · rfl
    · have := dB hq
      omega
  · have e : (k3 == 0) = false := by
      have : ¬ k3 = 0 := fun e => by rw [e] at hk; cases hk
      simpa using this
    rw [hk] at h'
    rw [e]
    exact Nat.ble_eq_true_of_le (show a.nat + 1 ≤ b.nat by omega)
def lst (e : af) : List UInt64 := [e.w0, e.w1, e.w2, e.w3]
def elemOf (l : List UInt64) : af := ⟨l.getD 0 0, l.getD 1 0, l.getD 2 0, l.getD 3 0⟩
theorem bR {l : List UInt64} (h : l.length = 4) : lst (elemOf l) = l := by
  match l, h with
  | [a, b, c, d], _ => rfl
theorem dl (e : af) : (lst e).length = 4 := rfl
theorem nO {h l y : UInt64} (hy : 0 < y.toNat) : (Rp h l y).toNat = (h.toNat * 18446744073709551616 + l.toNat) % y.toNat := by
  unfold Rp
  rw [UInt64.toNat_ofNat']
  exact Nat.mod_eq_of_lt (Nat.lt_trans (Nat.mod_lt _ hy) y.toNat_lt)
theorem Mw (r x m : Nat) : (r % m * 18446744073709551616 + x) % m = (r * 18446744073709551616 + x) % m := by
  rw [Nat.add_mod, Nat.mul_mod, Nat.mod_mod, ← Nat.mul_mod, ← Nat.add_mod]
theorem Xi (a b : af) : (jn a b).2 = Nat.blt a.nat b.nat := rfl
theorem uY {a b : af} (h : b.nat ≤ a.nat) : (jn a b).1.nat = a.nat - b.nat := by
  have ha := mf a
  show (ofN _).nat = _
  rw [Mp]
  omega
theorem Wp {w N r : Nat} (hr : r < 64) : (w + 18446744073709551616 * N) / 2 ^ r % 2 = w / 2 ^ r % 2 := by
  have e : 18446744073709551616 * N = 2 ^ r * (2 * (2 ^ (63 - r) * N)) := by
    rw [← Nat.mul_assoc, ← Nat.mul_assoc, Nat.mul_comm (2 ^ r) 2, Nat.mul_assoc 2, ← Nat.pow_add, show r + (63 - r) = 63 by omega]
  rw [e, Nat.add_mul_div_left _ _ (Nat.two_pow_pos r), Nat.add_mul_mod_self_left]
theorem yt {w N : Nat} (hw : w < 18446744073709551616) (r : Nat) : (w + 18446744073709551616 * N) / 2 ^ (64 + r) = N / 2 ^ r := by
  rw [Nat.pow_add, ← Nat.div_div_eq_div_mul, show 2 ^ 64 = 18446744073709551616 from rfl, show (w + 18446744073709551616 * N) / 18446744073709551616 = N by omega]
theorem rL {a : af} {q r : Nat} (hq : q < 4) (hr : r < 64) : ((lst a).getD q 0).toNat / 2 ^ r % 2 = a.nat / 2 ^ (64 * q + r) % 2 := by
  have h0 := a.w0.toNat_lt
  have h1 := a.w1.toNat_lt
  have h2 := a.w2.toNat_lt
  unfold Sx.af.nat
  have hq' : q = 0 ∨ q = 1 ∨ q = 2 ∨ q = 3 := by omega
  rcases hq' with rfl | rfl | rfl | rfl
  · rw [Nat.mul_zero, Nat.zero_add, Wp hr]; rfl
  · rw [show 64 * 1 + r = 64 + r by omega, yt h0, Wp hr]; rfl
  · rw [show 64 * 2 + r = 64 + (64 + r) by omega, yt h0, yt h1, Wp hr]; rfl
  · rw [show 64 * 3 + r = 64 + (64 + (64 + r)) by omega, yt h0, yt h1, yt h2]; rfl
def ar8 (n i : Nat) : Bool := Nat.beq (n / 2 ^ i % 2) 1
theorem ajq (x : UInt64) : (x &&& 1 == 1) = Nat.beq (x.toNat % 2) 1 := by
  have e : (x &&& 1).toNat = x.toNat % 2 := by
    rw [UInt64.toNat_and]
    exact Nat.and_two_pow_sub_one_eq_mod x.toNat 1
  rw [← e]
  by_cases h : x &&& 1 = 1
  · rw [h]; rfl
  · have h' : ¬ (x &&& 1).toNat = 1 := fun h' => h (UInt64.toNat_inj.1 h')
    have h2 : Nat.beq (x &&& 1).toNat 1 = false := by
      cases hb : Nat.beq (x &&& 1).toNat 1
      · rfl
      · exact absurd (Nat.eq_of_beq_eq_true hb) h'
    rw [h2]
    simpa using h
theorem aml (x : af) : (x.w0 &&& 1 == 1) = (x.w0 % 2 == 1) := by
  have h := ajq x.w0
  rw [h]
  have h2 : (x.w0 % 2).toNat = x.w0.toNat % 2 := by rw [UInt64.toNat_mod]; rfl
  rw [← h2]
  by_cases h : x.w0 % 2 = 1
  · rw [h]; rfl
  · have hn : ¬ (x.w0 % 2).toNat = 1 := fun e => h (UInt64.toNat_inj.1 e)
    have : Nat.beq (x.w0 % 2).toNat 1 = false := by
      cases hb : Nat.beq (x.w0 % 2).toNat 1
      · rfl
      · exact absurd (Nat.eq_of_beq_eq_true hb) hn
    rw [this]
    symm
    simpa using h
end Go.Proofs.Ytohjofabochgfaa

namespace Go.Proofs.Ytohjofabochgfaa
open Sx Go
set_option maxRecDepth 100000
def NK : ao := ⟨[.val false .u64, .val false .u64, .val false .u64], [], true, 0, false⟩
abbrev ajI : Type := ((UInt64) × (UInt64) × (UInt64) × Unit) × (Unit)
def ajH : ar := ⟨[.val false .u64, .val false .u64], [], false⟩
def As (x : ajI) : Bool := decide (x.1.2.2.1.toNat ≤ 1)
def aay (x : ajI) : OT NK.Y := .ok ⟨ajH, ((sw x.1.1 x.1.2.1 x.1.2.2.1, uT x.1.1 x.1.2.1 x.1.2.2.1, ()), ())⟩
theorem adv (a b c : UInt64) (hc : c.toNat ≤ 1) (w : World) : (callFunc 96 #[fO a, fO b, fO c]).run Try.prog w = .ok (.value (.tuple #[fO (sw a b c), fO (uT a b c)])) w := by
  unfold fO
  rw [run_callFunc_extern Try.func96 (by kernel_rfl) (by kernel_rfl) (by kernel_rfl) (e := add64Entry) (by kernel_rfl), run_add64 (a.toNat : Int) (b.toNat : Int) (c.toNat : Int) (by omega) (by omega) (by omega) (by omega)]
  have ha := a.toNat_lt
  have hb := b.toNat_lt
  have e1 : (((sw a b c).toNat : Nat) : Int) = ((a.toNat : Int) + b.toNat + c.toNat) % 18446744073709551616 := by
    unfold sw
    rw [UInt64.toNat_ofNat', Nat.mod_eq_of_lt (by omega)]
    omega
  have e2 : (((uT a b c).toNat : Nat) : Int) = ((a.toNat : Int) + b.toNat + c.toNat) / 18446744073709551616 := by
    unfold uT
    rw [UInt64.toNat_ofNat', Nat.mod_eq_of_lt (by omega)]
    omega
  rw [e1, e2]
  rfl
theorem ajG : aa Try.prog 96 (NK.aE As aay) := by
  refine aof (k := 0) (by kernel_rfl) fun x oy vs N w hp ho hr => ?_
  obtain ⟨⟨a, b, c, ⟨⟩⟩, ⟨⟩⟩ := x
  cases ho
  have hc : c.toNat ≤ 1 := of_decide_eq_true hp
  have hr' : SV.bA N [.u64 a, .u64 b, .u64 c] vs := hr
  simp only [SV.bA, SV.rel] at hr'
  obtain ⟨_, _, rfl, rfl, _, _, rfl, rfl, _, _, rfl, rfl, rfl⟩ := hr'
  refine ⟨.tup [.u64 (sw a b c), .u64 (uT a b c)], _, adv a b c hc w, ?_, ⟨rfl, by kernel_rfl⟩⟩
  simp only [SV.rel]
  exact ⟨_, rfl, by simp only [SV.bA, SV.rel]; exact ⟨_, _, rfl, rfl, _, _, rfl, rfl, rfl⟩⟩
def um : bL := (NK.aE As aay)
theorem Si : aa Try.prog 96 um := ajG
theorem Sg : aB um := ax
def Od : Env := av 96 um ajX
theorem W8 : aN Try.prog Od := ag Si ajW
theorem Oc : aq Od := ab Sg W6
def Nv : ao := ⟨[.val false .u64, .val false .u64, .val false .u64], [], true, 0, false⟩
abbrev aje : Type := ((UInt64) × (UInt64) × (UInt64) × Unit) × (Unit)
def ajd : ar := ⟨[.val false .u64, .val false .u64], [], false⟩
def Ah (x : aje) : Bool := decide (x.1.2.2.1.toNat ≤ 1)
def aag (x : aje) : OT Nv.Y := .ok ⟨ajd, ((m7 x.1.1 x.1.2.1 x.1.2.2.1, Oe x.1.1 x.1.2.1 x.1.2.2.1, ()), ())⟩
def anZ : Array Value → Sem Value := fun args => do
  let (x, y, b) ← Extern.MathBitsCarry.three "Sub64" args
  pure (Extern.MathBitsCarry.pair ((x + Extern.MathBitsCarry.m64 - y - b) % Extern.MathBitsCarry.m64) (if x < y + b then 1 else 0))
theorem aa3 {P : Program} (x y b : Nat) (hb : b ≤ 1) (w : World) :
    (anZ #[.int .u64 x, .int .u64 y, .int .u64 b]).run P w =
      .ok (.tuple #[.int .u64 (((x + 18446744073709551616 - y - b) % 18446744073709551616 : Nat) : Int), .int .u64 ((if x < y + b then 1 else 0 : Nat) : Int)]) w := by
  have : b = 0 ∨ b = 1 := by omega
  rcases this with rfl | rfl <;> rfl
theorem adi (a b c : UInt64) (hc : c.toNat ≤ 1) (w : World) : (callFunc 92 #[fO a, fO b, fO c]).run Try.prog w = .ok (.value (.tuple #[fO (m7 a b c), fO (Oe a b c)])) w := by
  unfold fO
  rw [run_callFunc_extern Try.func92 (by kernel_rfl) (by kernel_rfl) (by kernel_rfl) (e := anZ) (by kernel_rfl), aa3 a.toNat b.toNat c.toNat (by omega)]
  have ha := a.toNat_lt
  have hb := b.toNat_lt
  have e1 : (m7 a b c).toNat = (a.toNat + 18446744073709551616 - b.toNat - c.toNat) % 18446744073709551616 := by
    unfold m7
    rw [UInt64.toNat_ofNat', Nat.mod_eq_of_lt (by omega)]
  have e2 : (Oe a b c).toNat = if a.toNat < b.toNat + c.toNat then 1 else 0 := by
    unfold Oe
    rw [UInt64.toNat_ofNat', Nat.mod_eq_of_lt (by split <;> omega)]
  rw [e1, e2]
  rfl
theorem ajc : aa Try.prog 92 (Nv.aE Ah aag) := by
  refine aof (k := 0) (by kernel_rfl) fun x oy vs N w hp ho hr => ?_
  obtain ⟨⟨a, b, c, ⟨⟩⟩, ⟨⟩⟩ := x
  cases ho
  have hc : c.toNat ≤ 1 := of_decide_eq_true hp
  have hr' : SV.bA N [.u64 a, .u64 b, .u64 c] vs := hr
  simp only [SV.bA, SV.rel] at hr'
  obtain ⟨_, _, rfl, rfl, _, _, rfl, rfl, _, _, rfl, rfl, rfl⟩ := hr'
  refine ⟨.tup [.u64 (m7 a b c), .u64 (Oe a b c)], _, adi a b c hc w, ?_, ⟨rfl, by kernel_rfl⟩⟩
  simp only [SV.rel]
  exact ⟨_, rfl, by simp only [SV.bA, SV.rel]; exact ⟨_, _, rfl, rfl, _, _, rfl, rfl, rfl⟩⟩
def ue : bL := (Nv.aE Ah aag)
theorem RJ : aa Try.prog 92 ue := ajc
theorem RI : aB ue := ax
def ya : Env := av 92 ue Od
theorem uK : aN Try.prog ya := ag RJ W8
theorem xZ : aq ya := ab RI Oc
theorem SW : aU Try.prog te ya := aG follows ak uK xZ
def gR : ao := ⟨[.val false .u64, .val false .u64], [], true, 0, false⟩
abbrev Am : Type := ((UInt64) × (UInt64) × Unit) × (Unit)
def Ge : ar := ⟨[.val false .u64, .val false .u64], [], false⟩
def Kw : SV → Option ar := fun _ => some Ge
def CV (a0 : UInt64) (a1 : UInt64) : OT gR.Y :=
  let z0 : UInt64 := aX a0 (32 : Int)
  let z1 : UInt64 := aX a1 (32 : Int)
  let z2 : UInt64 := z0 * (a1 &&& (4294967295 : UInt64)) + aX ((a0 &&& (4294967295 : UInt64)) * (a1 &&& (4294967295 : UInt64))) (32 : Int)
  (.ok ⟨Ge, ((z0 * z1 + aX z2 (32 : Int) + aX ((z2 &&& (4294967295 : UInt64)) + (a0 &&& (4294967295 : UInt64)) * z1) (32 : Int), (a0 * a1, ())), ())⟩)
theorem ank (x : Am) (Q : gR.Y → Prop) : wpf te ya au 1000 Try.f99 (gR.inp.inj x).tm (gR.inp.inj x).hp (fnK gR Kw Q) (fun _ _ => False) = (CV (x.1.1) (x.1.2.1)).wpR Q := by kernel_rfl
theorem Wj (pre : Am → Bool) (F : Am → OT gR.Y) (hF : ∀ (x : Am) oy, pre x = true → (F x).run = some oy → (CV (x.1.1) (x.1.2.1)).run = some oy) : aa Try.prog 99 (gR.aE pre F) :=
  az ak uK SW (f := 99) (fn := Try.f99) (c := aj Try.f99) (by kernel_rfl) (by kernel_rfl) (by kernel_rfl) (S := gR) (k := 0) (by kernel_rfl) (fun R hR => ae) (n := 1000) (sel := Kw) (fun v o h => by cases h; rfl) (pre := pre) (F := F) (T := fun x => CV (x.1.1) (x.1.2.1)) (fun x Q => ank x Q) hF
def Kx (_ : Am) : Bool := true
def Nz (x : Am) : OT gR.Y := .ok ⟨Ge, ((aj0 x.1.1 x.1.2.1, (x.1.1 * x.1.2.1, ())), ())⟩
theorem ajk : aa Try.prog 99 (gR.aE Kx Nz) := Wj _ _ fun x oy _ ho => by
  rw [← ho]
  simp only [Nz, CV, asT]
def uh : bL := (gR.aE Kx Nz)
theorem RS : aa Try.prog 99 uh := ajk
theorem RR : aB uh := ax
def yi : Env := av 99 uh ya
theorem uN : aN Try.prog yi := ag RS uK
theorem yh : aq yi := ab RR xZ
theorem S0 : aU Try.prog te yi := aG follows ak uN yh
def gS : ao := ⟨[.val false .u64], [], true, 0, false⟩
abbrev Ap : Type := ((UInt64) × Unit) × (Unit)
def ek : ar := ⟨[.val false .int], [], false⟩
def Kz : SV → Option ar := fun _ => some ek
def wN (a0 : UInt64) : OT gS.Y :=
  let z0 : UInt64 := aX a0 (32 : Int)
  let z1 : UInt64 := aX z0 (16 : Int)
  let z2 : Int := (↑(UInt8.toNat (UInt64.toUInt8 (aX z1 (8 : Int)))) : Int)
  let z3 : List UInt8 := List.replicate 64 (8 : UInt8)
  let z4 : List UInt8 := List.append (List.append [(0 : UInt8), (1 : UInt8), (2 : UInt8), (2 : UInt8), (3 : UInt8), (3 : UInt8), (3 : UInt8), (3 : UInt8), (4 : UInt8), (4 : UInt8), (4 : UInt8), (4 : UInt8), (4 : UInt8), (4 : UInt8), (4 : UInt8), (4 : UInt8), (5 : UInt8), (5 : UInt8), (5 : UInt8), (5 : UInt8), (5 : UInt8), (5 : UInt8), (5 : UInt8), (5 : UInt8), (5 : UInt8), (5 : UInt8), (5 : UInt8), (5 : UInt8), (5 : UInt8), (5 : UInt8), (5 : UInt8), (5 : UInt8), (6 : UInt8), (6 : UInt8), (6 : UInt8), (6 : UInt8), (6 : UInt8), (6 : UInt8), (6 : UInt8), (6 : UInt8), (6 : UInt8), (6 : UInt8), (6 : UInt8), (6 : UInt8), (6 : UInt8), (6 : UInt8), (6 : UInt8), (6 : UInt8), (6 : UInt8), (6 : UInt8), (6 : UInt8), (6 : UInt8), (6 : UInt8), (6 : UInt8), (6 : UInt8), (6 : UInt8), (6 : UInt8), (6 : UInt8), (6 : UInt8), (6 : UInt8), (6 : UInt8), (6 : UInt8), (6 : UInt8), (6 : UInt8)] (List.replicate 64 (7 : UInt8))) (List.append z3 z3)
  let z5 : Int := (56 : Int) + (↑(UInt8.toNat (List.getD z4 (Int.toNat z2) (0 : UInt8))) : Int)
  let z6 : Int := (↑(UInt8.toNat (UInt64.toUInt8 z1)) : Int)
  let z7 : Int := (48 : Int) + (↑(UInt8.toNat (List.getD z4 (Int.toNat z6) (0 : UInt8))) : Int)
  let z8 : Int := (↑(UInt8.toNat (UInt64.toUInt8 (aX z0 (8 : Int)))) : Int)
  let z9 : Int := (40 : Int) + (↑(UInt8.toNat (List.getD z4 (Int.toNat z8) (0 : UInt8))) : Int)
  let z10 : Int := (↑(UInt8.toNat (UInt64.toUInt8 z0)) : Int)
  let z11 : Int := (32 : Int) + (↑(UInt8.toNat (List.getD z4 (Int.toNat z10) (0 : UInt8))) : Int)
  let z12 : UInt64 := aX a0 (16 : Int)
  let z13 : Int := (↑(UInt8.toNat (UInt64.toUInt8 (aX z12 (8 : Int)))) : Int)
  let z14 : Int := (24 : Int) + (↑(UInt8.toNat (List.getD z4 (Int.toNat z13) (0 : UInt8))) : Int)
  let z15 : Int := (↑(UInt8.toNat (UInt64.toUInt8 z12)) : Int)
  let z16 : Int := (16 : Int) + (↑(UInt8.toNat (List.getD z4 (Int.toNat z15) (0 : UInt8))) : Int)
  let z17 : Int := (↑(UInt8.toNat (UInt64.toUInt8 (aX a0 (8 : Int)))) : Int)
  let z18 : Int := (8 : Int) + (↑(UInt8.toNat (List.getD z4 (Int.toNat z17) (0 : UInt8))) : Int)
  let z19 : Int := (↑(UInt8.toNat (UInt64.toUInt8 a0)) : Int)
  let z20 : Int := (0 : Int) + (↑(UInt8.toNat (List.getD z4 (Int.toNat z19) (0 : UInt8))) : Int)
  (.br (decide ((4294967296 : UInt64) ≤ a0))
  (.br (decide ((65536 : UInt64) ≤ z0))
    (.br (decide ((256 : UInt64) ≤ z1))
      (gd [inB z2 256, inR z5] (.ok ⟨ek, ((z5, ()), ())⟩))
      (gd [inB z6 256, inR z7] (.ok ⟨ek, ((z7, ()), ())⟩)))
    (.br (decide ((256 : UInt64) ≤ z0))
      (gd [inB z8 256, inR z9] (.ok ⟨ek, ((z9, ()), ())⟩))
      (gd [inB z10 256, inR z11] (.ok ⟨ek, ((z11, ()), ())⟩))))
  (.br (decide ((65536 : UInt64) ≤ a0))
    (.br (decide ((256 : UInt64) ≤ z12))
      (gd [inB z13 256, inR z14] (.ok ⟨ek, ((z14, ()), ())⟩))
      (gd [inB z15 256, inR z16] (.ok ⟨ek, ((z16, ()), ())⟩)))
    (.br (decide ((256 : UInt64) ≤ a0))
      (gd [inB z17 256, inR z18] (.ok ⟨ek, ((z18, ()), ())⟩))
      (gd [inB z19 256, inR z20] (.ok ⟨ek, ((z20, ()), ())⟩)))))
theorem anm (x : Ap) (Q : gS.Y → Prop) : wpf te yi au 1000 Try.f97 (gS.inp.inj x).tm (gS.inp.inj x).hp (fnK gS Kz Q) (fun _ _ => False) = (wN (x.1.1)).wpR Q := by kernel_rfl
theorem Wo (pre : Ap → Bool) (F : Ap → OT gS.Y) (hF : ∀ (x : Ap) oy, pre x = true → (F x).run = some oy → (wN (x.1.1)).run = some oy) : aa Try.prog 97 (gS.aE pre F) :=
  az ak uN S0 (f := 97) (fn := Try.f97) (c := aj Try.f97) (by kernel_rfl) (by kernel_rfl) (by kernel_rfl) (S := gS) (k := 0) (by kernel_rfl) (fun R hR => ae) (n := 1000) (sel := Kz) (fun v o h => by cases h; rfl) (pre := pre) (F := F) (T := fun x => wN (x.1.1)) (fun x Q => anm x Q) hF
def eQ (x : UInt64) : Bool := (x == 16513537) || (x == 16521217)
theorem dx {x : UInt64} (h : eQ x = true) : x = 16513537 ∨ x = 16521217 := by
  simpa [eQ] using h
def Ao (x : Ap) : Bool := eQ x.1.1
def aap (_ : Ap) : OT gS.Y := .ok ⟨ek, (((24 : Int), ()), ())⟩
theorem RX : (wN 16513537).run = some ⟨ek, (((24 : Int), ()), ())⟩ ∧ (wN 16521217).run = some ⟨ek, (((24 : Int), ()), ())⟩ := ⟨by kernel_rfl, by kernel_rfl⟩
theorem ajo : aa Try.prog 97 (gS.aE Ao aap) := Wo _ _ fun x oy hp ho => by
  rw [← ho]
  clear ho
  obtain ⟨⟨x, ⟨⟩⟩, ⟨⟩⟩ := x
  rcases dx hp with h | h
  · have h : x = 16513537 := h
    subst h
    exact RX.1
  · have h : x = 16521217 := h
    subst h
    exact RX.2
def ui : bL := (gS.aE Ao aap)
theorem RW : aa Try.prog 97 ui := ajo
theorem RV : aB ui := ax
def yk : Env := av 97 ui yi
theorem uQ : aN Try.prog yk := ag RW uN
theorem yj : aq yk := ab RV yh
theorem S2 : aU Try.prog te yk := aG follows ak uQ yj
def kt : ao := ⟨[.val false .u64], [], true, 0, false⟩
abbrev Ky : Type := ((UInt64) × Unit) × (Unit)
def NA : ar := ⟨[.val false .int], [], false⟩
def RT : SV → Option ar := fun _ => some NA
def Wn (a0 : UInt64) : OT kt.Y :=
  (gd [Ao ((a0, ()), ())] (.ok ⟨NA, (((40 : Int), ()), ())⟩))
theorem arR (x : Ky) (Q : kt.Y → Prop) : wpf te yk au 1000 Try.f91 (kt.inp.inj x).tm (kt.inp.inj x).hp (fnK kt RT Q) (fun _ _ => False) = (Wn (x.1.1)).wpR Q := by kernel_rfl
theorem ads (pre : Ky → Bool) (F : Ky → OT kt.Y) (hF : ∀ (x : Ky) oy, pre x = true → (F x).run = some oy → (Wn (x.1.1)).run = some oy) : aa Try.prog 91 (kt.aE pre F) :=
  az ak uQ S2 (f := 91) (fn := Try.f91) (c := aj Try.f91) (by kernel_rfl) (by kernel_rfl) (by kernel_rfl) (S := kt) (k := 0) (by kernel_rfl) (fun R hR => ae) (n := 1000) (sel := RT) (fun v o h => by cases h; rfl) (pre := pre) (F := F) (T := fun x => Wn (x.1.1)) (fun x Q => arR x Q) hF
def Gh (x : Ky) : Bool := eQ x.1.1
def ajn (_ : Ky) : OT kt.Y := .ok ⟨NA, (((40 : Int), ()), ())⟩
theorem anl : aa Try.prog 91 (kt.aE Gh ajn) := ads _ _ fun x oy hp ho => by
  rw [← ho]
  clear ho
  obtain ⟨⟨x, ⟨⟩⟩, ⟨⟩⟩ := x
  have hp : eQ x = true := hp
  refine (ah ?_).trans rfl
  simp only [List.all_cons, List.all_nil, Bool.and_true, Bool.and_eq_true]
  first | exact hp | exact ⟨hp, rfl⟩
def An : bL := (kt.aE Gh ajn)
theorem Wm : aa Try.prog 91 An := anl
theorem Wl : aB An := ax
def uP : Env := av 91 An yk
theorem mS : aN Try.prog uP := ag Wm uQ
theorem Ck : aq uP := ab Wl yj
theorem uO : aU Try.prog te uP := aG follows ak mS Ck
def fA : ao := ⟨[.val false .u64, .val false .u64, .val false .u64], [], true, 0, false⟩
abbrev Aq : Type := ((UInt64) × (UInt64) × (UInt64) × Unit) × (Unit)
def qc : Shape := ⟨135, [(2, .val false .u64), (8, .val false .u64), (9, .val false .u64), (10, .val false .u64), (11, .val false .u64), (13, .val false .u64), (14, .val false .u64), (15, .val false .u64), (16, .val false .u64)], [], 0, true⟩
abbrev cd : Type := ((UInt64) × (UInt64) × (UInt64) × (UInt64) × (UInt64) × (UInt64) × (UInt64) × (UInt64) × (UInt64) × Unit) × (Unit)
def kv : Shape := ⟨135, [(2, .val false .u64), (8, .val false .u64), (9, .val false .u64), (10, .val false .u64), (11, .val false .u64), (13, .val false .u64), (14, .val false .u64), (15, .val false .u64)], [], 0, true⟩
abbrev iL : Type := ((UInt64) × (UInt64) × (UInt64) × (UInt64) × (UInt64) × (UInt64) × (UInt64) × (UInt64) × Unit) × (Unit)
def R5 : SE → Option Shape := iX [(0, kv)] none
def ajy (a2 : UInt64) (a8 : UInt64) (a9 : UInt64) (a10 : UInt64) (a11 : UInt64) (a13 : UInt64) (a14 : UInt64) (a15 : UInt64) (a16 : UInt64) : OT (Sum cd aJ) :=
  let z0 : Bool := decide ((4294967296 : UInt64) ≤ a16 + a9)
  (.br (decide ((4294967296 : UInt64) ≤ a15))
  (.br (z0)
    (.ok (.inr ⟨(.exit 0, kv), ((a2, (a8, (a9, (a10, (a11, (a13, (a14, (a15 - (1 : UInt64), ())))))))), ())⟩))
    (.ok (.inl ((a2, (a8, (a9, (a10, (a11, (a13, (a14, (a15 - (1 : UInt64), (a16 + a9, ()))))))))), ()))))
  (.br (decide ((4294967296 : UInt64) * a16 + a13 < a15 * a10))
    (.br (z0)
      (.ok (.inr ⟨(.exit 0, kv), ((a2, (a8, (a9, (a10, (a11, (a13, (a14, (a15 - (1 : UInt64), ())))))))), ())⟩))
      (.ok (.inl ((a2, (a8, (a9, (a10, (a11, (a13, (a14, (a15 - (1 : UInt64), (a16 + a9, ()))))))))), ()))))
    (.ok (.inr ⟨(.exit 0, kv), ((a2, (a8, (a9, (a10, (a11, (a13, (a14, (a15, ())))))))), ())⟩))))
def wS (s : cd) : OT (Sum cd aJ) := ajy (s.1.1) (s.1.2.1) (s.1.2.2.1) (s.1.2.2.2.1) (s.1.2.2.2.2.1) (s.1.2.2.2.2.2.1) (s.1.2.2.2.2.2.2.1) (s.1.2.2.2.2.2.2.2.1) (s.1.2.2.2.2.2.2.2.2.1)
theorem ajt (s : cd) (Q : Sum cd aJ → Prop) : wps te uP au 1000 (bq (aj Try.f76) 0) (qc.inj s) (cE qc R5 (Q : Sum qc.T aJ → Prop)) = (wS s).wpR Q := by kernel_rfl
def wQ (g0_0 : cd → iL) (s : cd) : OT aJ := (.ok ⟨(.exit 0, kv), g0_0 s⟩)
def qb : Shape := ⟨135, [(2, .val false .u64), (8, .val false .u64), (9, .val false .u64), (10, .val false .u64), (14, .val false .u64), (15, .val false .u64), (16, .val false .u64), (17, .val false .u64), (18, .val false .u64)], [], 0, true⟩
abbrev cc : Type := ((UInt64) × (UInt64) × (UInt64) × (UInt64) × (UInt64) × (UInt64) × (UInt64) × (UInt64) × (UInt64) × Unit) × (Unit)
def ku : Shape := ⟨135, [(2, .val false .u64), (8, .val false .u64), (14, .val false .u64), (15, .val false .u64), (17, .val false .u64), (18, .val false .u64)], [], 0, true⟩
abbrev iK : Type := ((UInt64) × (UInt64) × (UInt64) × (UInt64) × (UInt64) × (UInt64) × Unit) × (Unit)
def R4 : SE → Option Shape := iX [(2, ku)] none
def ajx (a2 : UInt64) (a8 : UInt64) (a9 : UInt64) (a10 : UInt64) (a14 : UInt64) (a15 : UInt64) (a16 : UInt64) (a17 : UInt64) (a18 : UInt64) : OT (Sum cc aJ) :=
  let z0 : Bool := decide ((4294967296 : UInt64) ≤ a16 + a9)
  (.br (decide ((4294967296 : UInt64) ≤ a18))
  (.br (z0)
    (.ok (.inr ⟨(.exit 2, ku), ((a2, (a8, (a14, (a15, (a17, (a18 - (1 : UInt64), ())))))), ())⟩))
    (.ok (.inl ((a2, (a8, (a9, (a10, (a14, (a15, (a16 + a9, (a17, (a18 - (1 : UInt64), ()))))))))), ()))))
  (.br (decide ((4294967296 : UInt64) * a16 + a14 < a18 * a10))
    (.br (z0)
      (.ok (.inr ⟨(.exit 2, ku), ((a2, (a8, (a14, (a15, (a17, (a18 - (1 : UInt64), ())))))), ())⟩))
      (.ok (.inl ((a2, (a8, (a9, (a10, (a14, (a15, (a16 + a9, (a17, (a18 - (1 : UInt64), ()))))))))), ()))))
    (.ok (.inr ⟨(.exit 2, ku), ((a2, (a8, (a14, (a15, (a17, (a18, ())))))), ())⟩))))
def wR (s : cc) : OT (Sum cc aJ) := ajx (s.1.1) (s.1.2.1) (s.1.2.2.1) (s.1.2.2.2.1) (s.1.2.2.2.2.1) (s.1.2.2.2.2.2.1) (s.1.2.2.2.2.2.2.1) (s.1.2.2.2.2.2.2.2.1) (s.1.2.2.2.2.2.2.2.2.1)
theorem ajs (s : cc) (Q : Sum cc aJ → Prop) : wps te uP au 1000 (bq (aj Try.f76) 2) (qb.inj s) (cE qb R4 (Q : Sum qb.T aJ → Prop)) = (wR s).wpR Q := by kernel_rfl
def wP (g2_2 : cc → iK) (s : cc) : OT aJ := (.ok ⟨(.exit 2, ku), g2_2 s⟩)
def mE : ar := ⟨[.val false .u64, .val false .u64], [], false⟩
def KA : SV → Option ar := fun _ => some mE
def CY (ok0 : cd → Bool) (g0_0 : cd → iL) (ok2 : cc → Bool) (g2_2 : cc → iK) (a0 : UInt64) (a1 : UInt64) (a2 : UInt64) : OT fA.Y :=
  let z0 : Bool := !a2 == (0 : UInt64)
  let z1 : UInt64 := bH a2 (40 : Int)
  let z2 : UInt64 := aX z1 (32 : Int)
  let z3 : UInt64 := bH a0 (40 : Int) ||| aX a1 (24 : Int)
  let z4 : UInt64 := bH a1 (40 : Int)
  let z5 : UInt64 := z3 / z2
  let z6 : (UInt64 × UInt64 × UInt64 × UInt64 × UInt64 × UInt64 × UInt64 × UInt64 × UInt64 × PUnit) × PUnit := ((z1, (40 : UInt64), z2, z1 &&& (4294967295 : UInt64), z3, aX z4 (32 : Int), z4 &&& (4294967295 : UInt64), z5, z3 - z5 * z2, ()), ())
  let z7 := (g0_0 z6).fst
  let z8 := z7.snd
  let z9 := z8.snd
  let z10 := z9.fst
  let z11 := z7.fst
  let z12 := z9.snd
  let z13 := z12.snd
  let z14 := z13.snd
  let z15 := z14.snd
  let z16 := z15.snd.fst
  let z17 : UInt64 := z13.fst * (4294967296 : UInt64) + z14.fst - z16 * z11
  let z18 : UInt64 := z17 / z10
  let z19 : (UInt64 × UInt64 × UInt64 × UInt64 × UInt64 × UInt64 × UInt64 × UInt64 × UInt64 × PUnit) × PUnit := ((z11, z8.fst, z10, z12.fst, z15.fst, z16, z17 - z18 * z10, z17, z18, ()), ())
  let z20 := (g2_2 z19).fst
  let z21 := z20.snd
  let z22 := z21.snd
  let z23 := z22.snd
  let z24 := z23.snd
  let z25 := z24.snd.fst
  (.br (a2 == (0 : UInt64))
  .fail
  (.br (decide (a2 ≤ a0))
    .fail
    (.br (a0 == (0 : UInt64))
      (gd [z0, z0] (.ok ⟨mE, ((a1 / a2, (a1 % a2, ())), ())⟩))
      (gd [Gh ((a2, ()), ()), !z2 == (0 : UInt64), ok0 z6, !z10 == (0 : UInt64), ok2 z19] (.ok ⟨mE, ((z23.fst * (4294967296 : UInt64) + z25, (aX (z24.fst * (4294967296 : UInt64) + z22.fst - z25 * z20.fst) (↑(UInt64.toNat z21.fst) : Int), ())), ())⟩)))))
theorem ann (ok0 : cd → Bool) (g0_0 : cd → iL) (ok2 : cc → Bool) (g2_2 : cc → iK) (x : Aq) (Q : fA.Y → Prop) : wpf te uP (bj 2 (cS qb 2 ok2 (wP g2_2)) (bj 0 (cS qc 0 ok0 (wQ g0_0)) au)) 1000 Try.f76 (fA.inp.inj x).tm (fA.inp.inj x).hp (fnK fA KA Q) (fun _ _ => False) = (CY ok0 g0_0 ok2 g2_2 (x.1.1) (x.1.2.1) (x.1.2.2.1)).wpR Q := by kernel_rfl
theorem Wu (ok0 : cd → Bool) (g0_0 : cd → iL) (ok2 : cc → Bool) (g2_2 : cc → iK) (h0 : ∀ s : cd, ok0 s = true → ∃ m e, ay (wS) m s = some e ∧ (wQ g0_0 s).run = some e) (h2 : ∀ s : cc, ok2 s = true → ∃ m e, ay (wR) m s = some e ∧ (wP g2_2 s).run = some e) (pre : Aq → Bool) (F : Aq → OT fA.Y) (hF : ∀ (x : Aq) oy, pre x = true → (F x).run = some oy → (CY ok0 g0_0 ok2 g2_2 (x.1.1) (x.1.2.1) (x.1.2.2.1)).run = some oy) : aa Try.prog 76 (fA.aE pre F) :=
  az ak mS uO (f := 76) (fn := Try.f76) (c := aj Try.f76) (by kernel_rfl) (by kernel_rfl) (by kernel_rfl) (S := fA) (k := 0) (by kernel_rfl) (fun R hR => (aH (c := (aj Try.f76)) (by kernel_rfl) (id := 2) (by kernel_rfl) (bg ak mS uO (sh := qb) hR (xs := R4) (aF (by kernel_rfl) (by kernel_rfl) hR) aS ae (n := 1000) (T := wR) (fun s Q => ajs s Q) (ok := ok2) (f := wP g2_2) h2) (aH (c := (aj Try.f76)) (by kernel_rfl) (id := 0) (by kernel_rfl) (bg ak mS uO (sh := qc) hR (xs := R5) (aF (by kernel_rfl) (by kernel_rfl) hR) aS ae (n := 1000) (T := wS) (fun s Q => ajt s Q) (ok := ok0) (f := wQ g0_0) h0) ae))) (n := 1000) (sel := KA) (fun v o h => by cases h; rfl) (pre := pre) (F := F) (T := fun x => CY ok0 g0_0 ok2 g2_2 (x.1.1) (x.1.2.1) (x.1.2.2.1)) (fun x Q => ann ok0 g0_0 ok2 g2_2 x Q) hF
def KC (s : cd) : Bool := decide (s.1.2.2.2.1 = 0 ∧ s.1.2.2.2.2.2.2.2.1 < 4294967296)
def Sa (s : cd) : iL := ((s.1.1, s.1.2.1, s.1.2.2.1, s.1.2.2.2.1, s.1.2.2.2.2.1, s.1.2.2.2.2.2.1, s.1.2.2.2.2.2.2.1, s.1.2.2.2.2.2.2.2.1, ()), ())
theorem EM {a b : UInt64} (h : b < a) : decide (a ≤ b) = false := decide_eq_false (by rw [UInt64.le_iff_toNat_le, UInt64.lt_iff_toNat_lt] at *; omega)
theorem not_lt_zero {a b : UInt64} : decide (a < b * 0) = false := decide_eq_false (by
  have : b * 0 = 0 := by rw [← UInt64.toNat_inj]; simp
  rw [this, UInt64.lt_iff_toNat_lt]
  exact Nat.not_lt_zero _)
theorem ajw : ∀ s : cd, KC s = true → ∃ m e, ay wS m s = some e ∧ (wQ Sa s).run = some e := by
  rintro ⟨⟨a2, a8, a9, a10, a11, a13, a14, a15, a16, ⟨⟩⟩, ⟨⟩⟩ h
  have h' := of_decide_eq_true h
  dsimp only at h'
  obtain ⟨rfl, hl⟩ := h'
  exact ⟨1, _, bN ((OT.al (EM hl)).trans (OT.al not_lt_zero)), rfl⟩
def KB (s : cc) : Bool := decide (s.1.2.2.2.1 = 0 ∧ s.1.2.2.2.2.2.2.2.2.1 < 4294967296)
def R9 (s : cc) : iK := ((s.1.1, s.1.2.1, s.1.2.2.2.2.1, s.1.2.2.2.2.2.1, s.1.2.2.2.2.2.2.2.1, s.1.2.2.2.2.2.2.2.2.1, ()), ())
theorem ajv : ∀ s : cc, KB s = true → ∃ m e, ay wR m s = some e ∧ (wP R9 s).run = some e := by
  rintro ⟨⟨a2, a8, a9, a10, a14, a15, a16, a17, a18, ⟨⟩⟩, ⟨⟩⟩ h
  have h' := of_decide_eq_true h
  dsimp only at h'
  obtain ⟨rfl, hl⟩ := h'
  exact ⟨1, _, bN ((OT.al (EM hl)).trans (OT.al not_lt_zero)), rfl⟩
def rN (x : Aq) : Bool := eQ x.1.2.2.1 && decide (x.1.1 < x.1.2.2.1)
def NG (x : Aq) : OT fA.Y := .ok ⟨mE, ((ar6 x.1.1 x.1.2.1 x.1.2.2.1, Rp x.1.1 x.1.2.1 x.1.2.2.1, ()), ())⟩
theorem ad4 {v z : Nat} (hv : v < 4294967296) (hz : z < 4294967296) : (v * 4294967296 % 2 ^ 64 + z) % 2 ^ 64 = (v * (256 * 16777216) + z) % 2 ^ 64 := by
  rw [Nat.mod_eq_of_lt (a := v * 4294967296) (by omega)]
theorem aj5 {s : Nat} (hs : s < 4294967296) : s * 4294967296 / 2 ^ 40 = s / 256 % 2 ^ 64 := by
  rw [Nat.mod_eq_of_lt (by omega), show (2 : Nat) ^ 40 = 256 * 4294967296 from rfl, Nat.mul_div_mul_right _ _ (by omega)]
theorem R6 {h l y : UInt64} {m : Nat} (hm : y.toNat = m) (hy : (bH y 40).toNat = m * 1099511627776) (hy1 : (aX (bH y 40) 32).toNat = m * 256) (hy0 : bH y 40 &&& 4294967295 = 0) (hm0 : 0 < m) (hm1 : m < 16777216) (hh : h.toNat < m) :
    let u := bH h 40 ||| aX l 24
    let q1 := u / aX (bH y 40) 32
    let un21 := u * 4294967296 + aX (bH l 40) 32 - q1 * bH y 40
    let q0 := un21 / aX (bH y 40) 32
    q1 < 4294967296 ∧ q0 < 4294967296 ∧ q1 * 4294967296 + q0 = ar6 h l y ∧ aX (un21 * 4294967296 + (bH l 40 &&& 4294967295) - q0 * bH y 40) 40 = Rp h l y := by
  intro u q1 un21 q0
  have hl := l.toNat_lt
  have hu : u.toNat = h.toNat * 1099511627776 + l.toNat / 16777216 := by
    have e1 : (bH h 40).toNat = h.toNat * 1099511627776 := by
      rw [show ((40 : Int)) = ((40 : Nat) : Int) from rfl, jR _ _ (by omega)]
      exact Nat.mod_eq_of_lt (by omega)
    have e2 : (aX l 24).toNat = l.toNat / 16777216 := eD l 24 (by omega)
    simp only [u]
    rw [UInt64.toNat_or, e1, e2, Nat.mul_comm]
    have := Nat.two_pow_add_eq_or_of_lt (i := 40) (b := l.toNat / 16777216) (by omega) h.toNat
    exact this.symm
  have hun1 : (aX (bH l 40) 32).toNat = l.toNat % 16777216 * 256 := by
    rw [show ((32 : Int)) = ((32 : Nat) : Int) from rfl, eD _ _ (by omega), show ((40 : Int)) = ((40 : Nat) : Int) from rfl, jR _ _ (by omega)]
    omega
  have hun0 : bH l 40 &&& 4294967295 = 0 := by
    rw [← UInt64.toNat_inj, ik, show ((40 : Int)) = ((40 : Nat) : Int) from rfl, jR _ _ (by omega)]
    show l.toNat * 2 ^ 40 % 2 ^ 64 % 4294967296 = 0
    omega
  have hq1 : q1.toNat = u.toNat / (m * 256) := by simp only [q1]; rw [UInt64.toNat_div, hy1]
  have hN : h.toNat * 18446744073709551616 + l.toNat = u.toNat * 16777216 + l.toNat % 16777216 := by rw [hu]; omega
  have hqr : u.toNat = q1.toNat * (m * 256) + u.toNat % (m * 256) := by
    rw [hq1, Nat.mul_comm]
    exact (Nat.div_add_mod _ _).symm
  have hr : u.toNat % (m * 256) < m * 256 := Nat.mod_lt _ (by omega)
  have hul : u.toNat < m * 256 * 4294967296 := by rw [hu]; omega
  have hq1l : q1.toNat < 4294967296 := by rw [hq1]; exact Nat.div_lt_of_lt_mul hul
  generalize hrr : u.toNat % (m * 256) = r at *
  have hprod : q1.toNat * (m * 1099511627776) = q1.toNat * (m * 256) * 4294967296 := by
    rw [Nat.mul_assoc, Nat.mul_assoc]
  have h21 : un21.toNat = r * 4294967296 + l.toNat % 16777216 * 256 := by
    simp only [un21]
    rw [UInt64.toNat_sub, UInt64.toNat_add, UInt64.toNat_mul, UInt64.toNat_mul, hun1, hy, hprod, show (4294967296 : UInt64).toNat = 4294967296 from rfl]
    generalize q1.toNat * (m * 256) = A at *
    omega
  have hq0 : q0.toNat = un21.toNat / (m * 256) := by simp only [q0]; rw [UInt64.toNat_div, hy1]
  have h21l : un21.toNat < m * 256 * 4294967296 := by rw [h21]; omega
  have hq0l : q0.toNat < 4294967296 := by rw [hq0]; exact Nat.div_lt_of_lt_mul h21l
  have hqr0 : un21.toNat = q0.toNat * (m * 256) + un21.toNat % (m * 256) := by
    rw [hq0, Nat.mul_comm]
    exact (Nat.div_add_mod _ _).symm
  have hr0 : un21.toNat % (m * 256) < m * 256 := Nat.mod_lt _ (by omega)
  obtain ⟨d1, d2⟩ := Nb (K := 16777216) (L := 256) hm0 (by omega) hN hqr
  have e21 : (r * 16777216 + l.toNat % 16777216) * 256 = un21.toNat := by rw [h21]; omega
  rw [e21] at d1 d2
  refine ⟨by rw [UInt64.lt_iff_toNat_lt]; exact hq1l, by rw [UInt64.lt_iff_toNat_lt]; exact hq0l, ?_, ?_⟩
  · rw [← UInt64.toNat_inj, UInt64.toNat_add, UInt64.toNat_mul, show (4294967296 : UInt64).toNat = 4294967296 from rfl, hq0]
    unfold ar6
    rw [hm, UInt64.toNat_ofNat', d1, ← hq0]
    exact ad4 hq1l hq0l
  · have hprod0 : q0.toNat * (m * 1099511627776) = q0.toNat * (m * 256) * 4294967296 := by
      rw [Nat.mul_assoc, Nat.mul_assoc]
    have e3 : (un21 * 4294967296 + (bH l 40 &&& 4294967295) - q0 * bH y 40).toNat = (un21.toNat % (m * 256)) * 4294967296 := by
      rw [hun0, UInt64.toNat_sub, UInt64.toNat_add, UInt64.toNat_mul, UInt64.toNat_mul, hy, hprod0, show (4294967296 : UInt64).toNat = 4294967296 from rfl, show (0 : UInt64).toNat = 0 from rfl]
      generalize un21.toNat % (m * 256) = s at *
      generalize q0.toNat * (m * 256) = A at *
      omega
    rw [← UInt64.toNat_inj, show ((40 : Int)) = ((40 : Nat) : Int) from rfl, eD _ _ (by omega), show ((40 : Nat) : Int) = 40 from rfl, e3]
    unfold Rp
    rw [hm, UInt64.toNat_ofNat', d2]
    exact aj5 (by omega)
theorem TS {y : UInt64} (h : eQ y = true) : ∃ m, y.toNat = m ∧ (bH y 40).toNat = m * 1099511627776 ∧ (aX (bH y 40) 32).toNat = m * 256 ∧ bH y 40 &&& 4294967295 = 0 ∧ 0 < m ∧ m < 16777216 := by
  rcases dx h with rfl | rfl
  · exact ⟨16513537, rfl, by decide +kernel, by decide +kernel, by decide +kernel, by omega, by omega⟩
  · exact ⟨16521217, rfl, by decide +kernel, by decide +kernel, by decide +kernel, by omega, by omega⟩
theorem aju : aa Try.prog 76 (fA.aE rN NG) := Wu KC Sa KB R9 ajw ajv _ _ fun x oy hp ho => by
  rw [← ho]
  clear ho
  obtain ⟨⟨h, l, y, ⟨⟩⟩, ⟨⟩⟩ := x
  have hp' : (eQ y && decide (h < y)) = true := hp
  rw [Bool.and_eq_true] at hp'
  obtain ⟨hs, hlt⟩ := hp'
  have hlt := of_decide_eq_true hlt
  obtain ⟨m, f1, f2, f3, f4, f5, f6⟩ := TS hs
  have hh : h.toNat < m := by rw [← f1]; exact UInt64.lt_iff_toNat_lt.1 hlt
  have hy0 : ¬ y = 0 := fun e => by rw [e] at f1; simp at f1; omega
  have hyb : (y == 0) = false := by simpa using hy0
  have hle : decide (y ≤ h) = false := EM hlt
  unfold CY
  refine (OT.al hyb).trans ((OT.al hle).trans ?_)
  by_cases h0 : h = 0
  · subst h0
    refine (OT.aw rfl).trans ((ah ?_).trans ?_)
    · simp only [hyb, List.all_cons, List.all_nil, Bool.and_true, Bool.not_false]
    · have e1 : ar6 0 l y = l / y := by
        rw [← UInt64.toNat_inj]
        unfold ar6
        rw [UInt64.toNat_ofNat', UInt64.toNat_div, show (0 : UInt64).toNat = 0 from rfl, Nat.zero_mul, Nat.zero_add]
        exact Nat.mod_eq_of_lt (Nat.lt_of_le_of_lt (Nat.div_le_self _ _) l.toNat_lt)
      have e2 : Rp 0 l y = l % y := by
        rw [← UInt64.toNat_inj]
        unfold Rp
        rw [UInt64.toNat_ofNat', UInt64.toNat_mod, show (0 : UInt64).toNat = 0 from rfl, Nat.zero_mul, Nat.zero_add]
        exact Nat.mod_eq_of_lt (Nat.lt_of_le_of_lt (Nat.mod_le _ _) l.toNat_lt)
      simp only [NG, e1, e2]
  · have hb : (h == 0) = false := by simpa using h0
    obtain ⟨w1, w2, w3, w4⟩ := R6 (l := l) f1 f2 f3 f4 f5 f6 hh
    have hz : (!(aX (bH y 40) 32 == 0)) = true := by
      have : ¬ aX (bH y 40) 32 = 0 := fun e => by rw [e] at f3; simp at f3; omega
      simpa using this
    refine (OT.al hb).trans ((ah ?_).trans ?_)
    · simp only [List.all_cons, List.all_nil, Bool.and_true, Bool.and_eq_true]
      exact ⟨hs, hz, decide_eq_true ⟨f4, w1⟩, hz, decide_eq_true ⟨f4, w2⟩⟩
    · show some (⟨mE, ((_, aX _ ((40 : UInt64).toNat : Int), ()), ())⟩ : fA.Y) = some ⟨mE, ((ar6 h l y, Rp h l y, ()), ())⟩
      rw [← w3, ← w4]
      rfl
def uk : bL := (fA.aE rN NG)
theorem R8 : aa Try.prog 76 uk := aju
theorem R7 : aB uk := ax
def sk : Env := av 76 uk uP
theorem oa : aN Try.prog sk := ag R8 mS
theorem yl : aq sk := ab R7 Ck
theorem Cl : aU Try.prog te sk := aG follows ak oa yl
def oz : ao := ⟨[.val true .elem, .val true .elem], [], true, 0, false⟩
abbrev aaK : Type := ((af) × (af) × Unit) × (Unit)
def Dh : Shape := ⟨29, [(2, .ptr 0 0 0), (3, .ptr 1 0 0), (4, .ptr 2 0 0), (6, .ptr 3 0 0), (7, .val false .u64), (9, .val false .int)], [(0, .row .u64), (1, .row .u64), (2, .row .u64), (3, .row .u64)], 0, true⟩
abbrev cW : Type := ((Unit) × (Unit) × (Unit) × (Unit) × (UInt64) × (Int) × Unit) × ((List (UInt64)) × (List (UInt64)) × (List (UInt64)) × (List (UInt64)) × Unit)
def uZ : Shape := ⟨29, [(4, .ptr 0 0 0), (6, .ptr 1 0 0), (7, .val false .u64)], [(0, .row .u64), (1, .row .u64)], 0, true⟩
abbrev lF : Type := ((Unit) × (Unit) × (UInt64) × Unit) × ((List (UInt64)) × (List (UInt64)) × Unit)
def ad8 : SE → Option Shape := iX [(0, uZ)] none
def aoE (a7 : UInt64) (a9 : Int) (c0 : List (UInt64)) (c1 : List (UInt64)) (c2 : List (UInt64)) (c3 : List (UInt64)) : OT (Sum cW aJ) :=
  let z0 : Bool := inB a9 4
  let z1 : UInt64 := List.getD c0 (Int.toNat a9 + 0) (0 : UInt64)
  let z2 : UInt64 := List.getD c1 (Int.toNat a9 + 0) (0 : UInt64)
  (.br (decide (a9 < (4 : Int)))
  (gd [z0, decide (Int.toNat a9 + 0 < List.length c0), z0, decide (Int.toNat a9 + 0 < List.length c1), As ((z1, z2, a7, ()), ()), z0, decide (Int.toNat a9 + 0 < List.length c3), inR (a9 + (1 : Int))] (.ok (.inl (((), ((), ((), ((), (uT z1 z2 a7, (a9 + (1 : Int), ())))))), (c0, (c1, (c2, (List.set c3 (Int.toNat a9 + 0) (sw z1 z2 a7), ()))))))))
  (.ok (.inr ⟨(.exit 0, uZ), (((), ((), (a7, ()))), (c2, (c3, ())))⟩)))
def Di (s : cW) : OT (Sum cW aJ) := aoE (s.1.2.2.2.2.1) (s.1.2.2.2.2.2.1) (s.2.1) (s.2.2.1) (s.2.2.2.1) (s.2.2.2.2.1)
theorem aoB (s : cW) (Q : Sum cW aJ → Prop) : wps te sk au 1000 (bq (aj Try.f88) 0) (Dh.inj s) (cE Dh ad8 (Q : Sum Dh.T aJ → Prop)) = (Di s).wpR Q := by kernel_rfl
def K1 (g0_0 : cW → lF) (s : cW) : OT aJ := (.ok ⟨(.exit 0, uZ), g0_0 s⟩)
def Te : ar := ⟨[.val true .elem, .val false .bool], [], false⟩
def Xj : SV → Option ar := fun _ => some Te
def aeb (ok0 : cW → Bool) (g0_0 : cW → lF) (a0 : af) (a1 : af) : OT oz.Y :=
  let z0 : (PUnit × PUnit × PUnit × PUnit × UInt64 × Int × PUnit) × List UInt64 × List UInt64 × List UInt64 × List UInt64 × PUnit := (((), (), (), (), (0 : UInt64), (0 : Int), ()), [a0.w0, a0.w1, a0.w2, a0.w3], [a1.w0, a1.w1, a1.w2, a1.w3], [(0 : UInt64), (0 : UInt64), (0 : UInt64), (0 : UInt64)], [(0 : UInt64), (0 : UInt64), (0 : UInt64), (0 : UInt64)], ())
  let z1 : (PUnit × PUnit × UInt64 × PUnit) × List UInt64 × List UInt64 × PUnit := g0_0 z0
  let z2 := z1.snd
  let z3 := z2.snd.fst
  let z4 := z2.fst
  let z5 : List UInt64 := lay z4 z3 4 (0 : UInt64)
  (gd [ok0 z0, decide (4 ≤ List.length z3), decide ((4 / 1 : Nat) + 0 ≤ List.length z4), decide (4 ≤ List.length z5)] (.ok ⟨Te, (({ w0 := List.getD z5 0 0, w1 := List.getD z5 1 0, w2 := List.getD z5 2 0, w3 := List.getD z5 3 0 }, (!z1.fst.snd.snd.fst == (0 : UInt64), ())), ())⟩))
theorem asd (ok0 : cW → Bool) (g0_0 : cW → lF) (x : aaK) (Q : oz.Y → Prop) : wpf te sk (bj 0 (cS Dh 0 ok0 (K1 g0_0)) au) 1000 Try.f88 (oz.inp.inj x).tm (oz.inp.inj x).hp (fnK oz Xj Q) (fun _ _ => False) = (aeb ok0 g0_0 (x.1.1) (x.1.2.1)).wpR Q := by kernel_rfl
theorem ad9 (ok0 : cW → Bool) (g0_0 : cW → lF) (h0 : ∀ s : cW, ok0 s = true → ∃ m e, ay (Di) m s = some e ∧ (K1 g0_0 s).run = some e) (pre : aaK → Bool) (F : aaK → OT oz.Y) (hF : ∀ (x : aaK) oy, pre x = true → (F x).run = some oy → (aeb ok0 g0_0 (x.1.1) (x.1.2.1)).run = some oy) : aa Try.prog 88 (oz.aE pre F) :=
  az ak oa Cl (f := 88) (fn := Try.f88) (c := aj Try.f88) (by kernel_rfl) (by kernel_rfl) (by kernel_rfl) (S := oz) (k := 0) (by kernel_rfl) (fun R hR => (aH (c := (aj Try.f88)) (by kernel_rfl) (id := 0) (by kernel_rfl) (bg ak oa Cl (sh := Dh) hR (xs := ad8) (aF (by kernel_rfl) (by kernel_rfl) hR) aS ae (n := 1000) (T := Di) (fun s Q => aoB s Q) (ok := ok0) (f := K1 g0_0) h0) ae)) (n := 1000) (sel := Xj) (fun v o h => by cases h; rfl) (pre := pre) (F := F) (T := fun x => aeb ok0 g0_0 (x.1.1) (x.1.2.1)) (fun x Q => asd ok0 g0_0 x Q) hF
def Ia (a b : List UInt64) (k : Nat) (s : List UInt64 × UInt64) : List UInt64 × UInt64 := (s.1.set k (sw (a.getD k 0) (b.getD k 0) s.2), uT (a.getD k 0) (b.getD k 0) s.2)
def Xl (s : cW) : Bool := decide (s.1.2.2.2.2.1 = 0 ∧ s.1.2.2.2.2.2.1 = 0 ∧ s.2.1.length = 4 ∧ s.2.2.1.length = 4 ∧ s.2.2.2.2.1 = [0, 0, 0, 0])
def aea (s : cW) : lF := (((), (), (upto (Ia s.2.1 s.2.2.1) ([0, 0, 0, 0], 0) 4).2, ()), (s.2.2.2.1, (upto (Ia s.2.1 s.2.2.1) ([0, 0, 0, 0], 0) 4).1, ()))
theorem aoD : ∀ s : cW, Xl s = true → ∃ m e, ay Di m s = some e ∧ (K1 aea s).run = some e := by
  rintro ⟨⟨⟨⟩, ⟨⟩, ⟨⟩, ⟨⟩, c, i, ⟨⟩⟩, ⟨c0, c1, c2, c3, ⟨⟩⟩⟩ h
  have h' := of_decide_eq_true h
  dsimp only at h'
  obtain ⟨rfl, rfl, h0, h1, rfl⟩ := h'
  have := (aT (T := Di) (fun k s => ((((), (), (), (), s.2, (k : Int), ()), (c0, c1, c2, s.1, ())) : cW)) (Ia c0 c1)
    (fun s => (⟨(.exit 0, uZ), (((), (), s.2, ()), (c2, s.1, ()))⟩ : aJ)) 4 ([0, 0, 0, 0], 0) (fun _ s => s.1.length = 4 ∧ s.2.toNat ≤ 1) ⟨rfl, by decide⟩ (fun k s hk hs => ⟨?_, ?_⟩) (fun s hs => ?_)).1
  · obtain ⟨m, hm⟩ := this
    exact ⟨m, _, hm, rfl⟩
  · refine (OT.aw (decide_eq_true (by dsimp only; omega))).trans ((ah ?_).trans ?_)
    · simp only [Int.toNat_natCast, Nat.add_zero, h0, h1, hs.1, List.all_cons, List.all_nil, Bool.and_true, Bool.and_eq_true]
      exact ⟨aI (by omega), decide_eq_true (by omega), aI (by omega), decide_eq_true (by omega), decide_eq_true hs.2, aI (by omega), decide_eq_true (by omega), aK (by omega)⟩
    · simp only [OT.cn, Int.toNat_natCast, Nat.add_zero]
      rfl
  · exact ⟨by simp only [Ia, List.length_set]; exact hs.1, Av hs.2⟩
  · exact OT.al (decide_eq_false (by dsimp only; omega))
theorem auh (x y : List UInt64) (hx : x.length = 4) (hy : y.length = 4) : lay x y 4 0 = y := sE hx hy
def Xk (_ : aaK) : Bool := true
def aec (x : aaK) : OT oz.Y := .ok ⟨Te, (((A5 x.1.1 x.1.2.1).1, ((A5 x.1.1 x.1.2.1).2, ())), ())⟩
theorem aoC : aa Try.prog 88 (oz.aE Xk aec) := ad9 Xl aea aoD _ _ fun x oy hp ho => by
  rw [← ho]
  clear ho
  obtain ⟨⟨a, b, ⟨⟩⟩, ⟨⟩⟩ := x
  obtain ⟨_, hw⟩ := Ih a b
  refine (ah ?_).trans ?_
  · simp only [List.all_cons, List.all_nil, Bool.and_true, Bool.and_eq_true]
    exact ⟨rfl, rfl, rfl, rfl⟩
  · simp only [aec, hw]
    rfl
def Dg : bL := (oz.aE Xk aec)
theorem aaJ : aa Try.prog 88 Dg := aoC
theorem aaI : aB Dg := ax
def KI : Env := av 88 Dg sk
theorem xb : aN Try.prog KI := ag aaJ oa
theorem Gx : aq KI := ab aaI yl
theorem KH : aU Try.prog te KI := aG follows ak xb Gx
def oo : ao := ⟨[.val true .elem, .val true .elem], [], true, 0, false⟩
abbrev aaD : Type := ((af) × (af) × Unit) × (Unit)
def C9 : Shape := ⟨29, [(2, .ptr 0 0 0), (3, .ptr 1 0 0), (4, .ptr 2 0 0), (6, .ptr 3 0 0), (7, .val false .u64), (9, .val false .int)], [(0, .row .u64), (1, .row .u64), (2, .row .u64), (3, .row .u64)], 0, true⟩
abbrev cV : Type := ((Unit) × (Unit) × (Unit) × (Unit) × (UInt64) × (Int) × Unit) × ((List (UInt64)) × (List (UInt64)) × (List (UInt64)) × (List (UInt64)) × Unit)
def uU : Shape := ⟨29, [(4, .ptr 0 0 0), (6, .ptr 1 0 0), (7, .val false .u64)], [(0, .row .u64), (1, .row .u64)], 0, true⟩
abbrev lE : Type := ((Unit) × (Unit) × (UInt64) × Unit) × ((List (UInt64)) × (List (UInt64)) × Unit)
def adR : SE → Option Shape := iX [(0, uU)] none
def aov (a7 : UInt64) (a9 : Int) (c0 : List (UInt64)) (c1 : List (UInt64)) (c2 : List (UInt64)) (c3 : List (UInt64)) : OT (Sum cV aJ) :=
  let z0 : Bool := inB a9 4
  let z1 : UInt64 := List.getD c0 (Int.toNat a9 + 0) (0 : UInt64)
  let z2 : UInt64 := List.getD c1 (Int.toNat a9 + 0) (0 : UInt64)
  (.br (decide (a9 < (4 : Int)))
  (gd [z0, decide (Int.toNat a9 + 0 < List.length c0), z0, decide (Int.toNat a9 + 0 < List.length c1), Ah ((z1, z2, a7, ()), ()), z0, decide (Int.toNat a9 + 0 < List.length c3), inR (a9 + (1 : Int))] (.ok (.inl (((), ((), ((), ((), (Oe z1 z2 a7, (a9 + (1 : Int), ())))))), (c0, (c1, (c2, (List.set c3 (Int.toNat a9 + 0) (m7 z1 z2 a7), ()))))))))
  (.ok (.inr ⟨(.exit 0, uU), (((), ((), (a7, ()))), (c2, (c3, ())))⟩)))
def Da (s : cV) : OT (Sum cV aJ) := aov (s.1.2.2.2.2.1) (s.1.2.2.2.2.2.1) (s.2.1) (s.2.2.1) (s.2.2.2.1) (s.2.2.2.2.1)
theorem aos (s : cV) (Q : Sum cV aJ → Prop) : wps te KI au 1000 (bq (aj Try.f77) 0) (C9.inj s) (cE C9 adR (Q : Sum C9.T aJ → Prop)) = (Da s).wpR Q := by kernel_rfl
def KW (g0_0 : cV → lE) (s : cV) : OT aJ := (.ok ⟨(.exit 0, uU), g0_0 s⟩)
def S5 : ar := ⟨[.val true .elem, .val false .bool], [], false⟩
def W9 : SV → Option ar := fun _ => some S5
def adU (ok0 : cV → Bool) (g0_0 : cV → lE) (a0 : af) (a1 : af) : OT oo.Y :=
  let z0 : (PUnit × PUnit × PUnit × PUnit × UInt64 × Int × PUnit) × List UInt64 × List UInt64 × List UInt64 × List UInt64 × PUnit := (((), (), (), (), (0 : UInt64), (0 : Int), ()), [a0.w0, a0.w1, a0.w2, a0.w3], [a1.w0, a1.w1, a1.w2, a1.w3], [(0 : UInt64), (0 : UInt64), (0 : UInt64), (0 : UInt64)], [(0 : UInt64), (0 : UInt64), (0 : UInt64), (0 : UInt64)], ())
  let z1 : (PUnit × PUnit × UInt64 × PUnit) × List UInt64 × List UInt64 × PUnit := g0_0 z0
  let z2 := z1.snd
  let z3 := z2.snd.fst
  let z4 := z2.fst
  let z5 : List UInt64 := lay z4 z3 4 (0 : UInt64)
  (gd [ok0 z0, decide (4 ≤ List.length z3), decide ((4 / 1 : Nat) + 0 ≤ List.length z4), decide (4 ≤ List.length z5)] (.ok ⟨S5, (({ w0 := List.getD z5 0 0, w1 := List.getD z5 1 0, w2 := List.getD z5 2 0, w3 := List.getD z5 3 0 }, (!z1.fst.snd.snd.fst == (0 : UInt64), ())), ())⟩))
theorem asb (ok0 : cV → Bool) (g0_0 : cV → lE) (x : aaD) (Q : oo.Y → Prop) : wpf te KI (bj 0 (cS C9 0 ok0 (KW g0_0)) au) 1000 Try.f77 (oo.inp.inj x).tm (oo.inp.inj x).hp (fnK oo W9 Q) (fun _ _ => False) = (adU ok0 g0_0 (x.1.1) (x.1.2.1)).wpR Q := by kernel_rfl
theorem adS (ok0 : cV → Bool) (g0_0 : cV → lE) (h0 : ∀ s : cV, ok0 s = true → ∃ m e, ay (Da) m s = some e ∧ (KW g0_0 s).run = some e) (pre : aaD → Bool) (F : aaD → OT oo.Y) (hF : ∀ (x : aaD) oy, pre x = true → (F x).run = some oy → (adU ok0 g0_0 (x.1.1) (x.1.2.1)).run = some oy) : aa Try.prog 77 (oo.aE pre F) :=
  az ak xb KH (f := 77) (fn := Try.f77) (c := aj Try.f77) (by kernel_rfl) (by kernel_rfl) (by kernel_rfl) (S := oo) (k := 0) (by kernel_rfl) (fun R hR => (aH (c := (aj Try.f77)) (by kernel_rfl) (id := 0) (by kernel_rfl) (bg ak xb KH (sh := C9) hR (xs := adR) (aF (by kernel_rfl) (by kernel_rfl) hR) aS ae (n := 1000) (T := Da) (fun s Q => aos s Q) (ok := ok0) (f := KW g0_0) h0) ae)) (n := 1000) (sel := W9) (fun v o h => by cases h; rfl) (pre := pre) (F := F) (T := fun x => adU ok0 g0_0 (x.1.1) (x.1.2.1)) (fun x Q => asb ok0 g0_0 x Q) hF
def sn (a b : List UInt64) (k : Nat) (s : List UInt64 × UInt64) : List UInt64 × UInt64 := (s.1.set k (m7 (a.getD k 0) (b.getD k 0) s.2), Oe (a.getD k 0) (b.getD k 0) s.2)
def Xb (s : cV) : Bool := decide (s.1.2.2.2.2.1 = 0 ∧ s.1.2.2.2.2.2.1 = 0 ∧ s.2.1.length = 4 ∧ s.2.2.1.length = 4 ∧ s.2.2.2.2.1 = [0, 0, 0, 0])
def adT (s : cV) : lE := (((), (), (upto (sn s.2.1 s.2.2.1) ([0, 0, 0, 0], 0) 4).2, ()), (s.2.2.2.1, (upto (sn s.2.1 s.2.2.1) ([0, 0, 0, 0], 0) 4).1, ()))
theorem aou : ∀ s : cV, Xb s = true → ∃ m e, ay Da m s = some e ∧ (KW adT s).run = some e := by
  rintro ⟨⟨⟨⟩, ⟨⟩, ⟨⟩, ⟨⟩, c, i, ⟨⟩⟩, ⟨c0, c1, c2, c3, ⟨⟩⟩⟩ h
  have h' := of_decide_eq_true h
  dsimp only at h'
  obtain ⟨rfl, rfl, h0, h1, rfl⟩ := h'
  have := (aT (T := Da) (fun k s => ((((), (), (), (), s.2, (k : Int), ()), (c0, c1, c2, s.1, ())) : cV)) (sn c0 c1)
    (fun s => (⟨(.exit 0, uU), (((), (), s.2, ()), (c2, s.1, ()))⟩ : aJ)) 4 ([0, 0, 0, 0], 0) (fun _ s => s.1.length = 4 ∧ s.2.toNat ≤ 1) ⟨rfl, by decide⟩ (fun k s hk hs => ⟨?_, ?_⟩) (fun s hs => ?_)).1
  · obtain ⟨m, hm⟩ := this
    exact ⟨m, _, hm, rfl⟩
  · refine (OT.aw (decide_eq_true (by dsimp only; omega))).trans ((ah ?_).trans ?_)
    · simp only [Int.toNat_natCast, Nat.add_zero, h0, h1, hs.1, List.all_cons, List.all_nil, Bool.and_true, Bool.and_eq_true]
      exact ⟨aI (by omega), decide_eq_true (by omega), aI (by omega), decide_eq_true (by omega), decide_eq_true hs.2, aI (by omega), decide_eq_true (by omega), aK (by omega)⟩
    · simp only [OT.cn, Int.toNat_natCast, Nat.add_zero]
      rfl
  · exact ⟨by simp only [sn, List.length_set]; exact hs.1, tf⟩
  · exact OT.al (decide_eq_false (by dsimp only; omega))
def Xa (_ : aaD) : Bool := true
def adV (x : aaD) : OT oo.Y := .ok ⟨S5, (((jn x.1.1 x.1.2.1).1, ((jn x.1.1 x.1.2.1).2, ())), ())⟩
theorem aot : aa Try.prog 77 (oo.aE Xa adV) := adS Xb adT aou _ _ fun x oy hp ho => by
  rw [← ho]
  clear ho
  obtain ⟨⟨a, b, ⟨⟩⟩, ⟨⟩⟩ := x
  obtain ⟨_, hw⟩ := yw a b
  refine (ah ?_).trans ?_
  · simp only [List.all_cons, List.all_nil, Bool.and_true, Bool.and_eq_true]
    exact ⟨rfl, rfl, rfl, rfl⟩
  · simp only [adV, hw]
    rfl
def C8 : bL := (oo.aE Xa adV)
theorem aaC : aa Try.prog 77 C8 := aot
theorem aaB : aB C8 := ax
def Sn : Env := av 77 C8 KI
theorem Gs : aN Try.prog Sn := ag aaC xb
theorem Gt : aq Sn := ab aaB Gx
theorem ady : aU Try.prog te Sn := aG follows ak Gs Gt
def jA : ao := ⟨[.val true .elem, .val true .elem], [], true, 0, false⟩
abbrev Io : Type := ((af) × (af) × Unit) × (Unit)
def K0 : ar := ⟨[.val false .bool], [], false⟩
def Oo : SV → Option ar := fun _ => some K0
def Td (a0 : af) (a1 : af) : OT jA.Y :=
  (.ok ⟨K0, (((jn a0 a1).snd, ()), ())⟩)
theorem aoz (x : Io) (Q : jA.Y → Prop) : wpf te Sn au 1000 Try.f62 (jA.inp.inj x).tm (jA.inp.inj x).hp (fnK jA Oo Q) (fun _ _ => False) = (Td (x.1.1) (x.1.2.1)).wpR Q := by kernel_rfl
theorem aaH (pre : Io → Bool) (F : Io → OT jA.Y) (hF : ∀ (x : Io) oy, pre x = true → (F x).run = some oy → (Td (x.1.1) (x.1.2.1)).run = some oy) : aa Try.prog 62 (jA.aE pre F) :=
  az ak Gs ady (f := 62) (fn := Try.f62) (c := aj Try.f62) (by kernel_rfl) (by kernel_rfl) (by kernel_rfl) (S := jA) (k := 0) (by kernel_rfl) (fun R hR => ae) (n := 1000) (sel := Oo) (fun v o h => by cases h; rfl) (pre := pre) (F := F) (T := fun x => Td (x.1.1) (x.1.2.1)) (fun x Q => aoz x Q) hF
def Oq (_ : Io) : Bool := true
def ad6 (x : Io) : OT jA.Y := .ok ⟨K0, ((Nat.blt x.1.1.nat x.1.2.1.nat, ()), ())⟩
theorem aj7 : aa Try.prog 62 (jA.aE Oq ad6) := aaH _ _ fun x oy _ ho => ho
def yv : bL := (jA.aE Oq ad6)
theorem Tc : aa Try.prog 62 yv := aj7
theorem Tb : aB yv := ax
def Ax : Env := av 62 yv Sn
theorem r8 : aN Try.prog Ax := ag Tc Gs
theorem BJ : aq Ax := ab Tb Gt
theorem Gw : aU Try.prog te Ax := aG follows ak r8 BJ
end Go.Proofs.Ytohjofabochgfaa

namespace Go.Proofs.Ytohjofabochgfaa
open Sx Go
theorem CE (x b : UInt64) (hb : b.toNat ≤ 1) : 2 * x.toNat + b.toNat = (bH x 1 ||| b).toNat + 18446744073709551616 * (aX x 63).toNat := by
  have hx := x.toNat_lt
  have e1 : (bH x 1).toNat = 2 ^ 1 * (x.toNat % 9223372036854775808) := by
    have e : (bH x 1).toNat = x.toNat * 2 ^ 1 % 2 ^ 64 := jR x 1 (by omega)
    rw [e]
    omega
  have e2 : (aX x 63).toNat = x.toNat / 2 ^ 63 := eD x 63 (by omega)
  have e3 := Nat.two_pow_add_eq_or_of_lt (i := 1) (b := b.toNat) (by omega) (x.toNat % 9223372036854775808)
  rw [UInt64.toNat_or, e1, ← e3, e2]
  omega
theorem DD (x : UInt64) : (aX x 63).toNat ≤ 1 := by
  have hx := x.toNat_lt
  have e2 : (aX x 63).toNat = x.toNat / 2 ^ 63 := eD x 63 (by omega)
  rw [e2]
  omega
def aO (a : af) (b : UInt64) : af × UInt64 := (⟨bH a.w0 1 ||| b, bH a.w1 1 ||| aX a.w0 63, bH a.w2 1 ||| aX a.w1 63, bH a.w3 1 ||| aX a.w2 63⟩, aX a.w3 63)
theorem aa1 (a : af) (b : UInt64) (hb : b.toNat ≤ 1) : 2 * a.nat + b.toNat = (aO a b).1.nat + 115792089237316195423570985008687907853269984665640564039457584007913129639936 * (aO a b).2.toNat := by
  have h0 := CE a.w0 b hb
  have h1 := CE a.w1 _ (DD a.w0)
  have h2 := CE a.w2 _ (DD a.w1)
  have h3 := CE a.w3 _ (DD a.w2)
  unfold aO Sx.af.nat
  dsimp only
  omega
def CI (m r : af) (b : UInt64) : af := cond (!((aO r b).2 == 0)) (jn (aO r b).1 m).1 (cond (!(jn (aO r b).1 m).2) (jn (aO r b).1 m).1 (aO r b).1)
theorem Zm {n m : Nat} (h1 : m ≤ n) (h2 : n < 2 * m) : n - m = n % m := by
  rw [Nat.mod_eq_sub_mod h1, Nat.mod_eq_of_lt (by omega)]
theorem alW {m r : af} {b : UInt64} (hb : b.toNat ≤ 1) (hr : r.nat < m.nat) : (CI m r b).nat = (2 * r.nat + b.toNat) % m.nat := by
  have h := aa1 r b hb
  have hm := mf m
  have hs := mf (aO r b).1
  have h2 : (aO r b).2.toNat ≤ 1 := DD _
  have hw : (jn (aO r b).1 m).1.nat = ((aO r b).1.nat + 115792089237316195423570985008687907853269984665640564039457584007913129639936 - m.nat) % 115792089237316195423570985008687907853269984665640564039457584007913129639936 := by
    unfold jn
    exact Mp _
  unfold CI
  cases ho : (aO r b).2 == 0
  · have ho : (aO r b).2.toNat = 1 := by
      have : (aO r b).2.toNat ≠ 0 := fun e => by
        have e' : (aO r b).2 = 0 := UInt64.toNat_inj.1 e
        rw [e'] at ho
        cases ho
      omega
    show (jn (aO r b).1 m).1.nat = _
    rw [hw, ← Zm (n := 2 * r.nat + b.toNat) (by omega) (by omega), Nat.mod_eq_of_lt (by omega)]
    omega
  · have ho : (aO r b).2.toNat = 0 := by
      rw [beq_iff_eq] at ho
      rw [ho]
      rfl
    have e : 2 * r.nat + b.toNat = (aO r b).1.nat := by omega
    cases hu : (jn (aO r b).1 m).2
    · have hu' : m.nat ≤ (aO r b).1.nat := by
        rw [Xi] at hu
        exact Nat.le_of_not_lt fun h' => by rw [(Nat.blt_eq ..).mpr h'] at hu; cases hu
      show (jn (aO r b).1 m).1.nat = _
      rw [uY hu', e, Zm hu' (by omega)]
    · have hu' : (aO r b).1.nat < m.nat := by
        rw [Xi] at hu
        exact (Nat.blt_eq ..).mp hu
      show (aO r b).1.nat = _
      rw [e, Nat.mod_eq_of_lt hu']
def HE (a : af) (i : Nat) : UInt64 := aX ((lst a).getD (i / 64) 0) ((i % 64 : Nat) : Int) &&& 1
theorem aaq (a : af) {i : Nat} (hi : i < 256) : (HE a i).toNat = a.nat / 2 ^ i % 2 := by
  have e : ∀ x : UInt64, (x &&& 1).toNat = x.toNat % 2 := fun x => by
    rw [UInt64.toNat_and]
    exact Nat.and_two_pow_sub_one_eq_mod x.toNat 1
  unfold HE
  rw [e, eD _ _ (by omega), rL (by omega) (by omega), show 64 * (i / 64) + i % 64 = i by omega]
def Ue (m a r : af) : Nat → af := upto (fun k r => CI m r (HE a (255 - k))) r
theorem Lx {m a r : af} (hr : r.nat < m.nat) : ∀ k, k ≤ 256 → (Ue m a r k).nat = (r.nat * 2 ^ k + a.nat / 2 ^ (256 - k)) % m.nat ∧ (Ue m a r k).nat < m.nat
  | 0, _ => by
    have h := mf a
    refine ⟨?_, hr⟩
    show r.nat = _
    rw [Nat.pow_zero, Nat.mul_one, Nat.div_eq_of_lt h, Nat.add_zero, Nat.mod_eq_of_lt hr]
  | k + 1, hk => by
    obtain ⟨h1, h2⟩ := Lx (a := a) hr k (by omega)
    have hb := aaq a (i := 255 - k) (by omega)
    have hb1 : (HE a (255 - k)).toNat ≤ 1 := by omega
    have h3 := alW hb1 h2
    have e : (Ue m a r (k + 1)).nat = (2 * (Ue m a r k).nat + (HE a (255 - k)).toNat) % m.nat := h3
    have e2 : a.nat / 2 ^ (255 - k) = 2 * (a.nat / 2 ^ (256 - k)) + (HE a (255 - k)).toNat := by
      rw [hb, show 256 - k = 255 - k + 1 by omega, Nat.pow_succ, ← Nat.div_div_eq_div_mul]
      omega
    refine ⟨?_, ?_⟩
    · rw [e, h1, show 256 - (k + 1) = 255 - k by omega, e2, Nat.pow_succ]
      rw [← Nat.mod_add_mod, Nat.mul_mod_mod, Nat.mod_add_mod]
      congr 1
      rw [Nat.mul_add, ← Nat.mul_assoc, Nat.mul_comm (2 ^ k) 2, ← Nat.mul_assoc, Nat.mul_comm r.nat 2, Nat.add_assoc]
    · rw [e]
      exact Nat.mod_lt _ (by omega)
def alX (lo hi m : af) : af := ofN ((lo.nat + 115792089237316195423570985008687907853269984665640564039457584007913129639936 * hi.nat) % m.nat)
theorem YR {m lo hi : af} (hm : 0 < m.nat) : Ue m lo (Ue m hi ⟨0, 0, 0, 0⟩ 256) 256 = alX lo hi m := by
  have h0 : (⟨0, 0, 0, 0⟩ : af).nat < m.nat := hm
  obtain ⟨h1, h2⟩ := Lx (a := hi) h0 256 (Nat.le_refl _)
  obtain ⟨h3, h4⟩ := Lx (a := lo) h2 256 (Nat.le_refl _)
  have hl := mf m
  refine tK ?_
  unfold alX
  rw [h3, h1, lB (Nat.lt_trans (Nat.mod_lt _ hm) hl), show 256 - 256 = 0 from rfl, Nat.pow_zero, Nat.div_one, Nat.div_one, show (⟨0, 0, 0, 0⟩ : af).nat = 0 from rfl, Nat.zero_mul, Nat.zero_add, ← Nat.mod_add_mod, Nat.mod_mul_mod, Nat.mod_add_mod, Nat.mul_comm, Nat.add_comm]
end Go.Proofs.Ytohjofabochgfaa

namespace Go.Proofs.Ytohjofabochgfaa
open Sx Go
set_option maxRecDepth 100000
def fP : ao := ⟨[.val true .elem, .val false .u64], [], true, 0, false⟩
abbrev yq : Type := ((af) × (UInt64) × Unit) × (Unit)
def oq : Shape := ⟨25, [(1, .val false .u64), (2, .ptr 0 0 0), (4, .ptr 1 0 0), (7, .val false .int)], [(0, .row .u64), (1, .row .u64)], 0, true⟩
abbrev bU : Type := ((UInt64) × (Unit) × (Unit) × (Int) × Unit) × ((List (UInt64)) × (List (UInt64)) × Unit)
def mU : Shape := ⟨25, [(1, .val false .u64), (2, .ptr 0 0 0), (4, .ptr 1 0 0)], [(0, .row .u64), (1, .row .u64)], 0, true⟩
abbrev iq : Type := ((UInt64) × (Unit) × (Unit) × Unit) × ((List (UInt64)) × (List (UInt64)) × Unit)
def Oh : SE → Option Shape := iX [(0, mU)] none
def adZ (a1 : UInt64) (a7 : Int) (c0 : List (UInt64)) (c1 : List (UInt64)) : OT (Sum bU aJ) :=
  let z0 : Bool := inB a7 4
  let z1 : Bool := decide (Int.toNat a7 + 0 < List.length c0)
  let z2 : UInt64 := List.getD c0 (Int.toNat a7 + 0) (0 : UInt64)
  (.br (decide (a7 < (4 : Int)))
  (gd [z0, z1, z0, z1, z0, z1, inR (a7 + (1 : Int))] (.ok (.inl ((aX z2 (63 : Int), ((), ((), (a7 + (1 : Int), ())))), (List.set c0 (Int.toNat a7 + 0) (bH z2 (1 : Int) ||| a1), (c1, ()))))))
  (.ok (.inr ⟨(.exit 0, mU), ((a1, ((), ((), ()))), (c0, (c1, ())))⟩)))
def ot (s : bU) : OT (Sum bU aJ) := adZ (s.1.1) (s.1.2.2.2.1) (s.2.1) (s.2.2.1)
theorem adW (s : bU) (Q : Sum bU aJ → Prop) : wps te Ax au 1000 (bq (aj Try.f130) 0) (oq.inj s) (cE oq Oh (Q : Sum oq.T aJ → Prop)) = (ot s).wpR Q := by kernel_rfl
def uV (g0_0 : bU → iq) (s : bU) : OT aJ := (.ok ⟨(.exit 0, mU), g0_0 s⟩)
def Db : ar := ⟨[.val true .elem, .val false .u64], [], false⟩
def Ii : SV → Option ar := fun _ => some Db
def KX (ok0 : bU → Bool) (g0_0 : bU → iq) (a0 : af) (a1 : UInt64) : OT fP.Y :=
  let z0 : (UInt64 × PUnit × PUnit × Int × PUnit) × List UInt64 × List UInt64 × PUnit := ((a1, (), (), (0 : Int), ()), [a0.w0, a0.w1, a0.w2, a0.w3], [(0 : UInt64), (0 : UInt64), (0 : UInt64), (0 : UInt64)], ())
  let z1 : (UInt64 × PUnit × PUnit × PUnit) × List UInt64 × List UInt64 × PUnit := g0_0 z0
  let z2 := z1.snd
  let z3 := z2.fst
  let z4 := z2.snd.fst
  let z5 : List UInt64 := lay z4 z3 4 (0 : UInt64)
  (gd [ok0 z0, decide (4 ≤ List.length z3), decide ((4 / 1 : Nat) + 0 ≤ List.length z4), decide (4 ≤ List.length z5)] (.ok ⟨Db, (({ w0 := List.getD z5 0 0, w1 := List.getD z5 1 0, w2 := List.getD z5 2 0, w3 := List.getD z5 3 0 }, (z1.fst.fst, ())), ())⟩))
theorem aj2 (ok0 : bU → Bool) (g0_0 : bU → iq) (x : yq) (Q : fP.Y → Prop) : wpf te Ax (bj 0 (cS oq 0 ok0 (uV g0_0)) au) 1000 Try.f130 (fP.inp.inj x).tm (fP.inp.inj x).hp (fnK fP Ii Q) (fun _ _ => False) = (KX ok0 g0_0 (x.1.1) (x.1.2.1)).wpR Q := by kernel_rfl
theorem S6 (ok0 : bU → Bool) (g0_0 : bU → iq) (h0 : ∀ s : bU, ok0 s = true → ∃ m e, ay (ot) m s = some e ∧ (uV g0_0 s).run = some e) (pre : yq → Bool) (F : yq → OT fP.Y) (hF : ∀ (x : yq) oy, pre x = true → (F x).run = some oy → (KX ok0 g0_0 (x.1.1) (x.1.2.1)).run = some oy) : aa Try.prog 130 (fP.aE pre F) :=
  az ak r8 Gw (f := 130) (fn := Try.f130) (c := aj Try.f130) (by kernel_rfl) (by kernel_rfl) (by kernel_rfl) (S := fP) (k := 0) (by kernel_rfl) (fun R hR => (aH (c := (aj Try.f130)) (by kernel_rfl) (id := 0) (by kernel_rfl) (bg ak r8 Gw (sh := oq) hR (xs := Oh) (aF (by kernel_rfl) (by kernel_rfl) hR) aS ae (n := 1000) (T := ot) (fun s Q => adW s Q) (ok := ok0) (f := uV g0_0) h0) ae)) (n := 1000) (sel := Ii) (fun v o h => by cases h; rfl) (pre := pre) (F := F) (T := fun x => KX ok0 g0_0 (x.1.1) (x.1.2.1)) (fun x Q => aj2 ok0 g0_0 x Q) hF
def atJ (k : Nat) (s : List UInt64 × UInt64) : List UInt64 × UInt64 := (s.1.set k (bH (s.1.getD k 0) 1 ||| s.2), aX (s.1.getD k 0) 63)
def Ik (s : bU) : Bool := decide (s.1.2.2.2.1 = 0 ∧ s.2.1.length = 4)
def Ok (s : bU) : iq := (((upto atJ (s.2.1, s.1.1) 4).2, (), (), ()), ((upto atJ (s.2.1, s.1.1) 4).1, s.2.2.1, ()))
theorem adY : ∀ s : bU, Ik s = true → ∃ m e, ay ot m s = some e ∧ (uV Ok s).run = some e := by
  rintro ⟨⟨b, ⟨⟩, ⟨⟩, i, ⟨⟩⟩, ⟨a, r, ⟨⟩⟩⟩ h
  have h' := of_decide_eq_true h
  dsimp only at h'
  obtain ⟨rfl, hl⟩ := h'
  have := (aT (T := ot) (fun k s => (((s.2, (), (), (k : Int), ()), (s.1, r, ())) : bU)) atJ
    (fun s => (⟨(.exit 0, mU), ((s.2, (), (), ()), (s.1, r, ()))⟩ : aJ)) 4 (a, b) (fun _ s => s.1.length = 4) hl (fun k s hk hs => ⟨?_, (List.length_set ..).trans hs⟩) (fun s hs => ?_)).1
  · obtain ⟨m, hm⟩ := this
    exact ⟨m, _, hm, rfl⟩
  · refine (OT.aw (decide_eq_true (by dsimp only; omega))).trans ((ah ?_).trans ?_)
    · simp only [Int.toNat_natCast, Nat.add_zero, hs, List.all_cons, List.all_nil, Bool.and_true, Bool.and_eq_true]
      exact ⟨aI (by omega), decide_eq_true (by omega), aI (by omega), decide_eq_true (by omega), aI (by omega), decide_eq_true (by omega), aK (by omega)⟩
    · simp only [OT.cn, Int.toNat_natCast, Nat.add_zero]
      rfl
  · exact OT.al (decide_eq_false (by dsimp only; omega))
def Ij (_ : yq) : Bool := true
def Xc (x : yq) : OT fP.Y := .ok ⟨Db, (((aO x.1.1 x.1.2.1).1, ((aO x.1.1 x.1.2.1).2, ())), ())⟩
theorem adX : aa Try.prog 130 (fP.aE Ij Xc) := S6 Ik Ok adY _ _ fun x oy hp ho => by
  rw [← ho]
  clear ho
  obtain ⟨⟨a, b, ⟨⟩⟩, ⟨⟩⟩ := x
  refine (ah ?_).trans rfl
  simp only [List.all_cons, List.all_nil, Bool.and_true, Bool.and_eq_true]
  exact ⟨rfl, rfl, rfl, rfl⟩
def s6 : bL := (fP.aE Ij Xc)
theorem Oj : aa Try.prog 130 s6 := adX
theorem Oi : aB s6 := ax
def r7 : Env := av 130 s6 Ax
theorem nZ : aN Try.prog r7 := ag Oj r8
theorem xa : aq r7 := ab Oi BJ
theorem BI : aU Try.prog te r7 := aG follows ak nZ xa
def ob : ao := ⟨[.val true .elem, .val true .elem, .val true .elem], [], true, 0, false⟩
abbrev aaG : Type := ((af) × (af) × (af) × Unit) × (Unit)
def Dd : Shape := ⟨57, [(5, .ptr 0 0 0), (6, .ptr 1 0 0), (8, .ptr 2 0 0), (10, .ptr 3 0 0), (11, .val false .int), (21, .val true (.arr 2 .elem)), (22, .val false .int)], [(0, .row .u64), (1, .row .u64), (2, .row .u64), (3, .row .u64)], 0, true⟩
abbrev cD : Type := ((Unit) × (Unit) × (Unit) × (Unit) × (Int) × (List (af)) × (Int) × Unit) × ((List (UInt64)) × (List (UInt64)) × (List (UInt64)) × (List (UInt64)) × Unit)
def uW : Shape := ⟨57, [(5, .ptr 0 0 0), (6, .ptr 1 0 0), (8, .ptr 2 0 0), (21, .val true (.arr 2 .elem)), (22, .val false .int)], [(0, .row .u64), (1, .row .u64), (2, .row .u64)], 0, true⟩
abbrev jm : Type := ((Unit) × (Unit) × (Unit) × (List (af)) × (Int) × Unit) × ((List (UInt64)) × (List (UInt64)) × (List (UInt64)) × Unit)
def ad0 : SE → Option Shape := iX [(2, uW)] none
def S9 (a11 : Int) (a21 : List (af)) (a22 : Int) (c0 : List (UInt64)) (c1 : List (UInt64)) (c2 : List (UInt64)) (c3 : List (UInt64)) : OT (Sum cD aJ) :=
  let z0 : Nat := List.length c2
  let z1 : Int := Int.tdiv a11 (64 : Int)
  let z2 : Int := Int.tmod a11 (64 : Int)
  let z3 : af × UInt64 := aO { w0 := List.getD c2 0 0, w1 := List.getD c2 1 0, w2 := List.getD c2 2 0, w3 := List.getD c2 3 0 } (aX (List.getD c3 (Int.toNat z1 + 0) (0 : UInt64)) z2 &&& (1 : UInt64))
  let z4 := z3.fst
  let z5 : List UInt64 := List.set (List.set (List.set (List.set c2 0 z4.w0) 1 z4.w1) 2 z4.w2) 3 z4.w3
  let z6 : Nat := List.length z5
  let z7 : Bool := decide ((4 / 1 : Nat) + 0 ≤ z6)
  let z8 : Bool := inR (a11 - (1 : Int))
  let z9 : af := { w0 := 0, w1 := 0, w2 := 0, w3 := 0 }
  let z10 : af × Bool := jn { w0 := List.getD z5 0 0, w1 := List.getD z5 1 0, w2 := List.getD z5 2 0, w3 := List.getD z5 3 0 } { w0 := List.getD c0 0 0, w1 := List.getD c0 1 0, w2 := List.getD c0 2 0, w3 := List.getD c0 3 0 }
  let z11 := z10.fst
  let z12 : List UInt64 := List.set (List.set (List.set (List.set z5 0 z11.w0) 1 z11.w1) 2 z11.w2) 3 z11.w3
  (.br (decide ((0 : Int) ≤ a11))
  (gd [decide (4 ≤ z0), true && inR z1, inB z1 4, decide (Int.toNat z1 + 0 < List.length c3), decide ((0 : Int) ≤ z2), decide ((4 / 1 : Nat) + 0 ≤ z0), decide (4 ≤ z6), decide (4 ≤ List.length c0)] (.br (!z3.snd == (0 : UInt64))
    (gd [z7, z8] (.ok (.inl (((), ((), ((), ((), (a11 - (1 : Int), ([List.getD a21 0 z9, List.getD a21 1 z9], (a22, ()))))))), (c0, (c1, (z12, (c3, ()))))))))
    (.br (!z10.snd)
      (gd [z7, z8] (.ok (.inl (((), ((), ((), ((), (a11 - (1 : Int), ([List.getD a21 0 z9, List.getD a21 1 z9], (a22, ()))))))), (c0, (c1, (z12, (c3, ()))))))))
      (gd [z8] (.ok (.inl (((), ((), ((), ((), (a11 - (1 : Int), ([List.getD a21 0 z9, List.getD a21 1 z9], (a22, ()))))))), (c0, (c1, (z5, (c3, ())))))))))))
  (.ok (.inr ⟨(.exit 2, uW), (((), ((), ((), ([List.getD a21 0 z9, List.getD a21 1 z9], (a22, ()))))), (c0, (c1, (c2, ()))))⟩)))
def De (s : cD) : OT (Sum cD aJ) := S9 (s.1.2.2.2.2.1) (s.1.2.2.2.2.2.1) (s.1.2.2.2.2.2.2.1) (s.2.1) (s.2.2.1) (s.2.2.2.1) (s.2.2.2.2.1)
theorem aow (s : cD) (Q : Sum cD aJ → Prop) : wps te r7 au 1000 (bq (aj Try.f125) 2) (Dd.inj s) (cE Dd ad0 (Q : Sum Dd.T aJ → Prop)) = (De s).wpR Q := by kernel_rfl
def KZ (g2_2 : cD → jm) (s : cD) : OT aJ := (.ok ⟨(.exit 2, uW), (((g2_2 s).1.1, ((g2_2 s).1.2.1, ((g2_2 s).1.2.2.1, (s.1.2.2.2.2.2.1, (s.1.2.2.2.2.2.2.1, ()))))), (g2_2 s).2)⟩)
def yr : ar := ⟨[.val true .elem, .val false .int], [], false⟩
def Xe : SV → Option ar := fun _ => some yr
def Il (ok2 : cD → Bool) (g2_2 : cD → jm) (a0 : af) (a1 : af) (a2 : af) : OT ob.Y :=
  let z0 : (PUnit × PUnit × PUnit × PUnit × Int × List af × Int × PUnit) × List UInt64 × List UInt64 × List UInt64 × List UInt64 × PUnit := (((), (), (), (), (255 : Int), [a1, a0], (0 : Int), ()), [a2.w0, a2.w1, a2.w2, a2.w3], [(0 : UInt64), (0 : UInt64), (0 : UInt64), (0 : UInt64)], [(0 : UInt64), (0 : UInt64), (0 : UInt64), (0 : UInt64)], [a1.w0, a1.w1, a1.w2, a1.w3], ())
  let z1 := (g2_2 z0).snd
  let z2 := z1.snd
  let z3 : (PUnit × PUnit × PUnit × PUnit × Int × List af × Int × PUnit) × List UInt64 × List UInt64 × List UInt64 × List UInt64 × PUnit := (((), (), (), (), (255 : Int), [a1, a0], (0 : Int) + (1 : Int), ()), z1.fst, z2.fst, z2.snd.fst, [a0.w0, a0.w1, a0.w2, a0.w3], ())
  let z4 := (g2_2 z3).snd.snd
  let z5 := z4.snd.fst
  let z6 := z4.fst
  let z7 : List UInt64 := lay z6 z5 4 (0 : UInt64)
  (.br (a2.w0 == (0 : UInt64) && (a2.w1 == (0 : UInt64) && (a2.w2 == (0 : UInt64) && (a2.w3 == (0 : UInt64) && true))))
  (.ok ⟨yr, (({ w0 := 0, w1 := 0, w2 := 0, w3 := 0 }, ((10 : Int), ())), ())⟩)
  (gd [ok2 z0, ok2 z3, decide (4 ≤ List.length z5), decide ((4 / 1 : Nat) + 0 ≤ List.length z6), decide (4 ≤ List.length z7)] (.ok ⟨yr, (({ w0 := List.getD z7 0 0, w1 := List.getD z7 1 0, w2 := List.getD z7 2 0, w3 := List.getD z7 3 0 }, ((0 : Int), ())), ())⟩)))
theorem asc (ok2 : cD → Bool) (g2_2 : cD → jm) (x : aaG) (Q : ob.Y → Prop) : wpf te r7 (bj 2 (cS Dd 2 ok2 (KZ g2_2)) au) 1000 Try.f125 (ob.inp.inj x).tm (ob.inp.inj x).hp (fnK ob Xe Q) (fun _ _ => False) = (Il ok2 g2_2 (x.1.1) (x.1.2.1) (x.1.2.2.1)).wpR Q := by kernel_rfl
theorem ad1 (ok2 : cD → Bool) (g2_2 : cD → jm) (h2 : ∀ s : cD, ok2 s = true → ∃ m e, ay (De) m s = some e ∧ (KZ g2_2 s).run = some e) (pre : aaG → Bool) (F : aaG → OT ob.Y) (hF : ∀ (x : aaG) oy, pre x = true → (F x).run = some oy → (Il ok2 g2_2 (x.1.1) (x.1.2.1) (x.1.2.2.1)).run = some oy) : aa Try.prog 125 (ob.aE pre F) :=
  az ak nZ BI (f := 125) (fn := Try.f125) (c := aj Try.f125) (by kernel_rfl) (by kernel_rfl) (by kernel_rfl) (S := ob) (k := 0) (by kernel_rfl) (fun R hR => (aH (c := (aj Try.f125)) (by kernel_rfl) (id := 2) (by kernel_rfl) (bg ak nZ BI (sh := Dd) hR (xs := ad0) (aF (by kernel_rfl) (by kernel_rfl) hR) aS ae (n := 1000) (T := De) (fun s Q => aow s Q) (ok := ok2) (f := KZ g2_2) h2) ae)) (n := 1000) (sel := Xe) (fun v o h => by cases h; rfl) (pre := pre) (F := F) (T := fun x => Il ok2 g2_2 (x.1.1) (x.1.2.1) (x.1.2.2.1)) (fun x Q => asc ok2 g2_2 x Q) hF
def KY (s : cD) : Bool := decide (s.1.2.2.2.2.1 = 255 ∧ s.1.2.2.2.2.2.1.length = 2 ∧ s.2.1.length = 4 ∧ s.2.2.2.1.length = 4 ∧ s.2.2.2.2.1.length = 4)
def S8 (s : cD) : jm := (((), (), (), s.1.2.2.2.2.2.1, s.1.2.2.2.2.2.2.1, ()), (s.2.1, s.2.2.1, lst (Ue (elemOf s.2.1) (elemOf s.2.2.2.2.1) (elemOf s.2.2.2.1) 256), ()))
theorem atM (i : Nat) : Int.tdiv (i : Int) 64 = ((i / 64 : Nat) : Int) := by rw [Int.tdiv_eq_ediv_of_nonneg (by omega)]; omega
theorem atN (i : Nat) : Int.tmod (i : Int) 64 = ((i % 64 : Nat) : Int) := by rw [Int.tmod_eq_emod_of_nonneg (by omega)]; omega
theorem aoy : ∀ s : cD, KY s = true → ∃ m e, ay De m s = some e ∧ (KZ S8 s).run = some e := by
  rintro ⟨⟨⟨⟩, ⟨⟩, ⟨⟩, ⟨⟩, i, arr, j, ⟨⟩⟩, ⟨c0, c1, c2, c3, ⟨⟩⟩⟩ h
  have h' := of_decide_eq_true h
  dsimp only at h'
  obtain ⟨rfl, ha, h0, h2, h3⟩ := h'
  obtain ⟨x, y, rfl⟩ : ∃ x y, arr = [x, y] := by
    match arr, ha with
    | [x, y], _ => exact ⟨x, y, rfl⟩
  obtain ⟨m, rfl⟩ : ∃ a, c0 = lst a := ⟨elemOf c0, (bR h0).symm⟩
  obtain ⟨r, rfl⟩ : ∃ a, c2 = lst a := ⟨elemOf c2, (bR h2).symm⟩
  obtain ⟨t, rfl⟩ : ∃ a, c3 = lst a := ⟨elemOf c3, (bR h3).symm⟩
  have := (aT (T := De) (fun k r => ((((), (), (), (), (255 : Int) - (k : Int), [x, y], j, ()), (lst m, c1, lst r, lst t, ())) : cD)) (fun k r => CI m r (HE t (255 - k)))
    (fun r => (⟨(.exit 2, uW), (((), (), (), [x, y], j, ()), (lst m, c1, lst r, ()))⟩ : aJ)) 256 r (fun _ _ => True) trivial (fun k r hk _ => ⟨?_, trivial⟩) (fun r _ => ?_)).1
  · obtain ⟨n, hn⟩ := this
    exact ⟨n, _, hn, rfl⟩
  · have e0 : (255 : Int) - (k : Int) = ((255 - k : Nat) : Int) := by omega
    have e1 : (255 : Int) - ((k + 1 : Nat) : Int) = ((255 - k : Nat) : Int) - 1 := by omega
    have hb : aX ((lst t).getD ((255 - k) / 64) 0) (((255 - k) % 64 : Nat) : Int) &&& 1 = HE t (255 - k) := rfl
    rw [e1, e0]
    show (S9 ((255 - k : Nat) : Int) [x, y] j (lst m) c1 (lst r) (lst t)).run = some (.inl (((), (), (), (), ((255 - k : Nat) : Int) - 1, [x, y], j, ()), (lst m, c1, lst (CI m r (HE t (255 - k))), lst t, ())))
    unfold S9
    simp only [atM, atN, Int.toNat_natCast, Nat.add_zero, hb]
    refine (OT.aw (decide_eq_true (by omega))).trans ((ah ?_).trans ?_)
    · simp only [List.all_cons, List.all_nil, Bool.and_true, Bool.true_and, Bool.and_eq_true]
      have hl : ∀ a : af, (lst a).length = 4 := fun _ => rfl
      exact ⟨rfl, aK (by omega), aI (by omega), decide_eq_true (by rw [hl]; omega), decide_eq_true (by omega), rfl, rfl, rfl⟩
    · have hr : inR (((255 - k : Nat) : Int) - 1) = true := aK (by omega)
      rcases (Bool.eq_false_or_eq_true ((aO r (HE t (255 - k))).2 == 0)).symm with g | g
      · have e : CI m r (HE t (255 - k)) = (jn (aO r (HE t (255 - k))).1 m).1 := by unfold CI; rw [g]; rfl
        rw [e]
        exact (OT.aw (b := !((aO r (HE t (255 - k))).2 == 0)) (by rw [g]; rfl)).trans ((ah (by rw [hr]; rfl)).trans rfl)
      · refine (OT.al (b := !((aO r (HE t (255 - k))).2 == 0)) (by rw [g]; rfl)).trans ?_
        rcases (Bool.eq_false_or_eq_true (jn (aO r (HE t (255 - k))).1 m).2).symm with u | u
        · have e : CI m r (HE t (255 - k)) = (jn (aO r (HE t (255 - k))).1 m).1 := by unfold CI; rw [g, u]; rfl
          rw [e]
          exact (OT.aw (b := !(jn (aO r (HE t (255 - k))).1 m).2) (by rw [u]; rfl)).trans ((ah (by rw [hr]; rfl)).trans rfl)
        · have e : CI m r (HE t (255 - k)) = (aO r (HE t (255 - k))).1 := by unfold CI; rw [g, u]; rfl
          rw [e]
          exact (OT.al (b := !(jn (aO r (HE t (255 - k))).1 m).2) (by rw [u]; rfl)).trans ((ah (by rw [hr]; rfl)).trans rfl)
  · exact OT.al (decide_eq_false (by dsimp only; omega))
def Xf (_ : aaG) : Bool := true
def kY (m : af) : Bool := m.w0 == 0 && (m.w1 == 0 && (m.w2 == 0 && (m.w3 == 0 && true)))
def anN (x : aaG) : OT ob.Y := .br (kY x.1.2.2.1) (.ok ⟨yr, ((⟨0, 0, 0, 0⟩, ((10 : Int), ())), ())⟩) (.ok ⟨yr, ((alX x.1.1 x.1.2.1 x.1.2.2.1, ((0 : Int), ())), ())⟩)
theorem Jx {m : af} (h : kY m = false) : 0 < m.nat := by
  refine Nat.pos_of_ne_zero fun e => ?_
  have e2 : m = ⟨0, 0, 0, 0⟩ := tK e
  rw [e2] at h
  cases h
theorem ad2 {ok2 : cD → Bool} {g2 : cD → jm} {a b m H R : af} (h : kY m = false)
    (h1 : ok2 (((), (), (), (), 255, [b, a], 0, ()), (lst m, lst ⟨0, 0, 0, 0⟩, lst ⟨0, 0, 0, 0⟩, lst b, ())) = true)
    (e1 : (g2 (((), (), (), (), 255, [b, a], 0, ()), (lst m, lst ⟨0, 0, 0, 0⟩, lst ⟨0, 0, 0, 0⟩, lst b, ()))).2 = (lst m, lst ⟨0, 0, 0, 0⟩, lst H, ()))
    (h2 : ok2 (((), (), (), (), 255, [b, a], 0 + 1, ()), (lst m, lst ⟨0, 0, 0, 0⟩, lst H, lst a, ())) = true)
    (e2 : (g2 (((), (), (), (), 255, [b, a], 0 + 1, ()), (lst m, lst ⟨0, 0, 0, 0⟩, lst H, lst a, ()))).2 = (lst m, lst ⟨0, 0, 0, 0⟩, lst R, ())) :
    (Il ok2 g2 a b m).run = some ⟨yr, ((R, ((0 : Int), ())), ())⟩ := by
  have l : ∀ e : af, lst e = [e.w0, e.w1, e.w2, e.w3] := fun _ => rfl
  rw [l m, l ⟨0, 0, 0, 0⟩] at h1 e1 h2 e2
  rw [l b] at h1 e1
  rw [l a] at h2 e2
  unfold Il
  simp only [e1, h1, e2, h2]
  exact (OT.al h).trans ((ah rfl).trans rfl)
theorem aox : aa Try.prog 125 (ob.aE Xf anN) := ad1 KY S8 aoy _ _ fun x oy hp ho => by
  rw [← ho]
  clear ho
  obtain ⟨⟨a, b, m, ⟨⟩⟩, ⟨⟩⟩ := x
  show (Il KY S8 a b m).run = (OT.br (kY m) _ _ : OT ob.Y).run
  rcases (Bool.eq_false_or_eq_true (kY m)).symm with h | h
  · refine Eq.trans (ad2 (H := Ue m b ⟨0, 0, 0, 0⟩ 256) (R := Ue m a (Ue m b ⟨0, 0, 0, 0⟩ 256) 256) h rfl rfl rfl rfl) ?_
    rw [YR (Jx h)]
    rw [h]
    rfl
  · exact (OT.aw h).trans (OT.aw (b := kY m) h).symm
def Dc : bL := (ob.aE Xf anN)
theorem aaF : aa Try.prog 125 Dc := aox
theorem aaE : aB Dc := ax
def So : Env := av 125 Dc r7
theorem Gu : aN Try.prog So := ag aaF nZ
theorem Gv : aq So := ab aaE xa
theorem adz : aU Try.prog te So := aG follows ak Gu Gv
def Fz : ao := ⟨[.val false .int], [], true, 0, false⟩
abbrev ar4 : Type := ((Int) × Unit) × (Unit)
def Bz : ar := ⟨[.val true (.prod .elem (.prod .int (.prod .u64 (.prod .u64 .elem)))), .val false .int], [], false⟩
def aif : SV → Option ar := fun _ => some Bz
def ari (a0 : Int) : OT Fz.Y :=
  let z0 : af := { w0 := 0, w1 := 0, w2 := 0, w3 := 0 }
  let z1 : UInt64 × af := ((0 : UInt64), z0)
  (.br (a0 == (0 : Int))
  (.ok ⟨Bz, ((({ w0 := 16513537, w1 := 0, w2 := 0, w3 := 0 }, (9 : Int), (16513537 : UInt64), z1), ((0 : Int), ())), ())⟩)
  (.br (a0 == (1 : Int))
    (.ok ⟨Bz, ((({ w0 := 16521217, w1 := 0, w2 := 0, w3 := 0 }, (11 : Int), (16521217 : UInt64), z1), ((0 : Int), ())), ())⟩)
    (.br (a0 == (2 : Int))
      (.ok ⟨Bz, ((({ w0 := 11037532056220336129, w1 := 2469829653914515739, w2 := 0, w3 := 4611686018427387904 }, (32 : Int), (0 : UInt64), (11037532056220336127 : UInt64), { w0 := 10122100416058490895, w1 := 15551789045973377255, w2 := 8617542898466512152, w3 := 679271340751763220 }), ((0 : Int), ())), ())⟩)
      (.br (a0 == (3 : Int))
        (.ok ⟨Bz, ((({ w0 := 10108024940646105089, w1 := 2469829653919213789, w2 := 0, w3 := 4611686018427387904 }, (32 : Int), (0 : UInt64), (10108024940646105087 : UInt64), { w0 := 18200867980676431887, w1 := 7474641938123724515, w2 := 9200329640471491984, w3 := 679271340771891881 }), ((0 : Int), ())), ())⟩)
        (.ok ⟨Bz, (((z0, (0 : Int), (0 : UInt64), z1), ((20 : Int), ())), ())⟩)))))
theorem atU (x : ar4) (Q : Fz.Y → Prop) : wpf te So au 1000 Try.f57 (Fz.inp.inj x).tm (Fz.inp.inj x).hp (fnK Fz aif Q) (fun _ _ => False) = (ari (x.1.1)).wpR Q := by kernel_rfl
theorem amQ (pre : ar4 → Bool) (F : ar4 → OT Fz.Y) (hF : ∀ (x : ar4) oy, pre x = true → (F x).run = some oy → (ari (x.1.1)).run = some oy) : aa Try.prog 57 (Fz.aE pre F) :=
  az ak Gu adz (f := 57) (fn := Try.f57) (c := aj Try.f57) (by kernel_rfl) (by kernel_rfl) (by kernel_rfl) (S := Fz) (k := 0) (by kernel_rfl) (fun R hR => ae) (n := 1000) (sel := aif) (fun v o h => by cases h; rfl) (pre := pre) (F := F) (T := fun x => ari (x.1.1)) (fun x Q => atU x Q) hF
abbrev Sm : Type := af × Int × UInt64 × UInt64 × af
def asS : Sm := (⟨0, 0, 0, 0⟩, 0, 0, 0, ⟨0, 0, 0, 0⟩)
def dk : Nat → Sm
  | 0 => (⟨16513537, 0, 0, 0⟩, 9, 16513537, 0, ⟨0, 0, 0, 0⟩)
  | 1 => (⟨16521217, 0, 0, 0⟩, 11, 16521217, 0, ⟨0, 0, 0, 0⟩)
  | 2 => (⟨11037532056220336129, 2469829653914515739, 0, 4611686018427387904⟩, 32, 0, 11037532056220336127, ⟨10122100416058490895, 15551789045973377255, 8617542898466512152, 679271340751763220⟩)
  | 3 => (⟨10108024940646105089, 2469829653919213789, 0, 4611686018427387904⟩, 32, 0, 10108024940646105087, ⟨18200867980676431887, 7474641938123724515, 9200329640471491984, 679271340771891881⟩)
  | _ => asS
def aA (s : Int) : Bool := decide (0 ≤ s) && decide (s < 4)
theorem cC {s : Int} (h : aA s = true) : s = 0 ∨ s = 1 ∨ s = 2 ∨ s = 3 := by
  simp only [aA, Bool.and_eq_true, decide_eq_true_eq] at h
  omega
theorem qN {s : Int} (h : aA s = false) : (s == 0) = false ∧ (s == 1) = false ∧ (s == 2) = false ∧ (s == 3) = false := by
  have hn : ∀ k : Int, 0 ≤ k → k < 4 → (s == k) = false := fun k h0 h1 => by
    cases hb : s == k
    · rfl
    · have : s = k := by simpa using hb
      subst this
      simp only [aA, decide_eq_true h0, decide_eq_true h1, Bool.and_self] at h
      cases h
  exact ⟨hn 0 (by decide) (by decide), hn 1 (by decide) (by decide), hn 2 (by decide) (by decide), hn 3 (by decide) (by decide)⟩
def aih (_ : ar4) : Bool := true
def as7 (x : ar4) : OT Fz.Y := .br (aA x.1.1) (.ok ⟨Bz, ((dk x.1.1.toNat, ((0 : Int), ())), ())⟩) (.ok ⟨Bz, ((asS, ((20 : Int), ())), ())⟩)
theorem as6 : aa Try.prog 57 (Fz.aE aih as7) := amQ _ _ fun x oy _ ho => by
  rw [← ho]
  clear ho
  obtain ⟨⟨s, ⟨⟩⟩, ⟨⟩⟩ := x
  cases hs : aA s
  · obtain ⟨h0, h1, h2, h3⟩ := qN hs
    exact (OT.al h0).trans ((OT.al h1).trans ((OT.al h2).trans ((OT.al h3).trans (OT.al (b := aA s) hs).symm)))
  · rcases cC hs with h | h | h | h
    all_goals
      have h : s = _ := h
      subst h
      rfl
def MY : bL := (Fz.aE aih as7)
theorem aii : aa Try.prog 57 MY := as6
theorem aie : aB MY := ax
def ajT : Env := av 57 MY So
theorem N6 : aN Try.prog ajT := ag aii Gu
theorem KL : aq ajT := ab aie Gv
theorem ajS : aU Try.prog te ajT := aG follows ak N6 KL
def pF : ao := ⟨[.val false .int], [], true, 0, false⟩
abbrev acK : Type := ((Int) × Unit) × (Unit)
def FH : ar := ⟨[.val true .elem, .val false .int], [], false⟩
def ZQ : SV → Option ar := fun _ => some FH
def aip (a0 : Int) : OT pF.Y :=
  (.br (aA a0)
  (.ok ⟨FH, (((dk (Int.toNat a0)).fst, ((0 : Int), ())), ())⟩)
  (.ok ⟨FH, (({ w0 := 0, w1 := 0, w2 := 0, w3 := 0 }, ((20 : Int), ())), ())⟩))
theorem as9 (x : acK) (Q : pF.Y → Prop) : wpf te ajT au 1000 Try.f61 (pF.inp.inj x).tm (pF.inp.inj x).hp (fnK pF ZQ Q) (fun _ _ => False) = (aip (x.1.1)).wpR Q := by kernel_rfl
theorem aio (pre : acK → Bool) (F : acK → OT pF.Y) (hF : ∀ (x : acK) oy, pre x = true → (F x).run = some oy → (aip (x.1.1)).run = some oy) : aa Try.prog 61 (pF.aE pre F) :=
  az ak N6 ajS (f := 61) (fn := Try.f61) (c := aj Try.f61) (by kernel_rfl) (by kernel_rfl) (by kernel_rfl) (S := pF) (k := 0) (by kernel_rfl) (fun R hR => ae) (n := 1000) (sel := ZQ) (fun v o h => by cases h; rfl) (pre := pre) (F := F) (T := fun x => aip (x.1.1)) (fun x Q => as9 x Q) hF
def ZR (_ : acK) : Bool := true
def aoi (x : acK) : OT pF.Y := .br (aA x.1.1) (.ok ⟨FH, (((dk x.1.1.toNat).1, ((0 : Int), ())), ())⟩) (.ok ⟨FH, ((⟨0, 0, 0, 0⟩, ((20 : Int), ())), ())⟩)
theorem arl : aa Try.prog 61 (pF.aE ZR aoi) := aio _ _ fun x oy _ ho => ho
def FG : bL := (pF.aE ZR aoi)
theorem acJ : aa Try.prog 61 FG := arl
theorem acI : aB FG := ax
def Hj : Env := av 61 FG ajT
theorem qy : aN Try.prog Hj := ag acJ N6
theorem Hi : aq Hj := ab acI KL
theorem AY : aU Try.prog te Hj := aG follows ak qy Hi
def mr : ao := ⟨[.val true (.prod .elem (.prod .int (.prod .u64 (.prod .u64 .elem)))), .val true .elem], [], true, 0, false⟩
abbrev acz : Type := (((af × (Int × (UInt64 × (UInt64 × af))))) × (af) × Unit) × (Unit)
def Ft : Shape := ⟨53, [(2, .ptr 0 0 0), (3, .ptr 1 0 0), (4, .ptr 2 0 0), (5, .val false .u64), (6, .val false .int)], [(0, .cells [.val false .u64, .val false .u64, .val false .u64, .val false .u64, .val false .int, .val false .u64, .val false .u64, .val false .u64, .val false .u64, .val false .u64, .val false .u64]), (1, .row .u64), (2, .row .u64)], 0, true⟩
abbrev db : Type := ((Unit) × (Unit) × (Unit) × (UInt64) × (Int) × Unit) × (((UInt64) × (UInt64) × (UInt64) × (UInt64) × (Int) × (UInt64) × (UInt64) × (UInt64) × (UInt64) × (UInt64) × (UInt64) × Unit) × (List (UInt64)) × (List (UInt64)) × Unit)
def wB : Shape := ⟨53, [(4, .ptr 0 0 0), (5, .val false .u64)], [(0, .row .u64)], 0, true⟩
abbrev mq : Type := ((Unit) × (UInt64) × Unit) × ((List (UInt64)) × Unit)
def aic : SE → Option Shape := iX [(0, wB)] none
def arf (a5 : UInt64) (a6 : Int) (c0_0 : UInt64) (c0_1 : UInt64) (c0_2 : UInt64) (c0_3 : UInt64) (c0_4 : Int) (c0_5 : UInt64) (c0_6 : UInt64) (c0_7 : UInt64) (c0_8 : UInt64) (c0_9 : UInt64) (c0_10 : UInt64) (c1 : List (UInt64)) (c2 : List (UInt64)) : OT (Sum db aJ) :=
  let z0 : UInt64 := List.getD c1 (Int.toNat a6 + 0) (0 : UInt64)
  (.br (decide ((0 : Int) ≤ a6))
  (gd [inB a6 4, decide (Int.toNat a6 + 0 < List.length c1), rN ((a5, z0, c0_5, ()), ()), inR (a6 - (1 : Int))] (.ok (.inl (((), ((), ((), (Rp a5 z0 c0_5, (a6 - (1 : Int), ()))))), ((c0_0, (c0_1, (c0_2, (c0_3, (c0_4, (c0_5, (c0_6, (c0_7, (c0_8, (c0_9, (c0_10, ()))))))))))), (c1, (c2, ())))))))
  (.ok (.inr ⟨(.exit 0, wB), (((), (a5, ())), (c2, ()))⟩)))
def Fw (s : db) : OT (Sum db aJ) := arf (s.1.2.2.2.1) (s.1.2.2.2.2.1) (s.2.1.1) (s.2.1.2.1) (s.2.1.2.2.1) (s.2.1.2.2.2.1) (s.2.1.2.2.2.2.1) (s.2.1.2.2.2.2.2.1) (s.2.1.2.2.2.2.2.2.1) (s.2.1.2.2.2.2.2.2.2.1) (s.2.1.2.2.2.2.2.2.2.2.1) (s.2.1.2.2.2.2.2.2.2.2.2.1) (s.2.1.2.2.2.2.2.2.2.2.2.2.1) (s.2.2.1) (s.2.2.2.1)
theorem aq9 (s : db) (Q : Sum db aJ → Prop) : wps te Hj au 1000 (bq (aj Try.f58) 0) (Ft.inj s) (cE Ft aic (Q : Sum Ft.T aJ → Prop)) = (Fw s).wpR Q := by kernel_rfl
def MX (g0_0 : db → mq) (s : db) : OT aJ := (.ok ⟨(.exit 0, wB), g0_0 s⟩)
def Fs : Shape := ⟨53, [(2, .ptr 0 0 0), (3, .ptr 1 0 0), (4, .ptr 2 0 0)], [(0, .cells [.val false .u64, .val false .u64, .val false .u64, .val false .u64, .val false .int, .val false .u64, .val false .u64, .val false .u64, .val false .u64, .val false .u64, .val false .u64]), (1, .row .u64), (2, .row .u64)], 0, true⟩
abbrev da : Type := ((Unit) × (Unit) × (Unit) × Unit) × (((UInt64) × (UInt64) × (UInt64) × (UInt64) × (Int) × (UInt64) × (UInt64) × (UInt64) × (UInt64) × (UInt64) × (UInt64) × Unit) × (List (UInt64)) × (List (UInt64)) × Unit)
def pB : Shape := ⟨53, [(4, .ptr 0 0 0)], [(0, .row .u64)], 0, true⟩
abbrev mo : Type := ((Unit) × Unit) × ((List (UInt64)) × Unit)
def aib : SE → Option Shape := iX [] (some pB)
def ard (c0_0 : UInt64) (c0_1 : UInt64) (c0_2 : UInt64) (c0_3 : UInt64) (c0_4 : Int) (c0_5 : UInt64) (c0_6 : UInt64) (c0_7 : UInt64) (c0_8 : UInt64) (c0_9 : UInt64) (c0_10 : UInt64) (c1 : List (UInt64)) (c2 : List (UInt64)) : OT (Sum da aJ) :=
  let z0 : Nat := List.length c1
  let z1 : Bool := decide (4 ≤ z0)
  let z2 : af × Bool := jn { w0 := List.getD c1 0 0, w1 := List.getD c1 1 0, w2 := List.getD c1 2 0, w3 := List.getD c1 3 0 } { w0 := c0_0, w1 := c0_1, w2 := c0_2, w3 := c0_3 }
  let z3 := z2.fst
  (gd [z1] (.br (z2.snd)
  (gd [z1, decide ((4 / 1 : Nat) + 0 ≤ List.length c2)] (.ok (.inr ⟨(.ret, pB), (((), ()), (lay c2 c1 4 (0 : UInt64), ()))⟩)))
  (gd [decide ((4 / 1 : Nat) + 0 ≤ z0)] (.ok (.inl (((), ((), ((), ()))), ((c0_0, (c0_1, (c0_2, (c0_3, (c0_4, (c0_5, (c0_6, (c0_7, (c0_8, (c0_9, (c0_10, ()))))))))))), (List.set (List.set (List.set (List.set c1 0 z3.w0) 1 z3.w1) 2 z3.w2) 3 z3.w3, (c2, ())))))))))
def Fv (s : da) : OT (Sum da aJ) := ard (s.2.1.1) (s.2.1.2.1) (s.2.1.2.2.1) (s.2.1.2.2.2.1) (s.2.1.2.2.2.2.1) (s.2.1.2.2.2.2.2.1) (s.2.1.2.2.2.2.2.2.1) (s.2.1.2.2.2.2.2.2.2.1) (s.2.1.2.2.2.2.2.2.2.2.1) (s.2.1.2.2.2.2.2.2.2.2.2.1) (s.2.1.2.2.2.2.2.2.2.2.2.2.1) (s.2.2.1) (s.2.2.2.1)
theorem aq8 (s : da) (Q : Sum da aJ → Prop) : wps te Hj au 1000 (bq (aj Try.f58) 2) (Fs.inj s) (cE Fs aib (Q : Sum Fs.T aJ → Prop)) = (Fv s).wpR Q := by kernel_rfl
def MW (g2_r : da → mo) (s : da) : OT aJ := (.ok ⟨(.ret, pB), g2_r s⟩)
def nI : ar := ⟨[.val true .elem], [], false⟩
def ZL : SV → Option ar := fun _ => some nI
def Fx (ok0 : db → Bool) (g0_0 : db → mq) (ok2 : da → Bool) (g2_r : da → mo) (a0 : (af × (Int × (UInt64 × (UInt64 × af))))) (a1 : af) : OT mr.Y :=
  let z0 : Bool := !a0.snd.snd.fst == (0 : UInt64)
  let z1 : (UInt64 × UInt64 × UInt64 × UInt64 × Int × UInt64 × UInt64 × UInt64 × UInt64 × UInt64 × UInt64 × PUnit) × List UInt64 × List UInt64 × PUnit := ((a0.fst.w0, a0.fst.w1, a0.fst.w2, a0.fst.w3, a0.snd.fst, a0.snd.snd.fst, a0.snd.snd.snd.fst, a0.snd.snd.snd.snd.w0, a0.snd.snd.snd.snd.w1, a0.snd.snd.snd.snd.w2, a0.snd.snd.snd.snd.w3, ()), [a1.w0, a1.w1, a1.w2, a1.w3], [(0 : UInt64), (0 : UInt64), (0 : UInt64), (0 : UInt64)], ())
  let z2 : (PUnit × PUnit × PUnit × UInt64 × Int × PUnit) × (UInt64 × UInt64 × UInt64 × UInt64 × Int × UInt64 × UInt64 × UInt64 × UInt64 × UInt64 × UInt64 × PUnit) × List UInt64 × List UInt64 × PUnit := (((), (), (), (0 : UInt64), (3 : Int), ()), z1)
  let z3 : (PUnit × UInt64 × PUnit) × List UInt64 × PUnit := g0_0 z2
  let z4 := z3.snd.fst
  let z5 : List UInt64 := List.set (List.set (List.set (List.set z4 0 z3.fst.snd.fst) 1 (0 : UInt64)) 2 (0 : UInt64)) 3 (0 : UInt64)
  let z6 : (PUnit × PUnit × PUnit × PUnit) × (UInt64 × UInt64 × UInt64 × UInt64 × Int × UInt64 × UInt64 × UInt64 × UInt64 × UInt64 × UInt64 × PUnit) × List UInt64 × List UInt64 × PUnit := (((), (), (), ()), z1)
  let z7 := (g2_r z6).snd.fst
  (.br (z0)
  (.br (a1.w1 ||| a1.w2 ||| a1.w3 == (0 : UInt64))
    (gd [z0] (.ok ⟨nI, (({ w0 := a1.w0 % a0.snd.snd.fst, w1 := 0, w2 := 0, w3 := 0 }, ()), ())⟩))
    (gd [ok0 z2, decide ((4 / 1 : Nat) + 0 ≤ List.length z4), decide (4 ≤ List.length z5)] (.ok ⟨nI, (({ w0 := List.getD z5 0 0, w1 := List.getD z5 1 0, w2 := List.getD z5 2 0, w3 := List.getD z5 3 0 }, ()), ())⟩)))
  (gd [ok2 z6, decide (4 ≤ List.length z7)] (.ok ⟨nI, (({ w0 := List.getD z7 0 0, w1 := List.getD z7 1 0, w2 := List.getD z7 2 0, w3 := List.getD z7 3 0 }, ()), ())⟩)))
theorem as5 (ok0 : db → Bool) (g0_0 : db → mq) (ok2 : da → Bool) (g2_r : da → mo) (x : acz) (Q : mr.Y → Prop) : wpf te Hj (bj 2 (cS Fs 2 ok2 (MW g2_r)) (bj 0 (cS Ft 0 ok0 (MX g0_0)) au)) 1000 Try.f58 (mr.inp.inj x).tm (mr.inp.inj x).hp (fnK mr ZL Q) (fun _ _ => False) = (Fx ok0 g0_0 ok2 g2_r (x.1.1) (x.1.2.1)).wpR Q := by kernel_rfl
theorem aid (ok0 : db → Bool) (g0_0 : db → mq) (ok2 : da → Bool) (g2_r : da → mo) (h0 : ∀ s : db, ok0 s = true → ∃ m e, ay (Fw) m s = some e ∧ (MX g0_0 s).run = some e) (h2 : ∀ s : da, ok2 s = true → ∃ m e, ay (Fv) m s = some e ∧ (MW g2_r s).run = some e) (pre : acz → Bool) (F : acz → OT mr.Y) (hF : ∀ (x : acz) oy, pre x = true → (F x).run = some oy → (Fx ok0 g0_0 ok2 g2_r (x.1.1) (x.1.2.1)).run = some oy) : aa Try.prog 58 (mr.aE pre F) :=
  az ak qy AY (f := 58) (fn := Try.f58) (c := aj Try.f58) (by kernel_rfl) (by kernel_rfl) (by kernel_rfl) (S := mr) (k := 0) (by kernel_rfl) (fun R hR => (aH (c := (aj Try.f58)) (by kernel_rfl) (id := 2) (by kernel_rfl) (bg ak qy AY (sh := Fs) hR (xs := aib) (aF (by kernel_rfl) (by kernel_rfl) hR) aS ae (n := 1000) (T := Fv) (fun s Q => aq8 s Q) (ok := ok2) (f := MW g2_r) h2) (aH (c := (aj Try.f58)) (by kernel_rfl) (id := 0) (by kernel_rfl) (bg ak qy AY (sh := Ft) hR (xs := aic) (aF (by kernel_rfl) (by kernel_rfl) hR) aS ae (n := 1000) (T := Fw) (fun s Q => aq9 s Q) (ok := ok0) (f := MX g0_0) h0) ae))) (n := 1000) (sel := ZL) (fun v o h => by cases h; rfl) (pre := pre) (F := F) (T := fun x => Fx ok0 g0_0 ok2 g2_r (x.1.1) (x.1.2.1)) (fun x Q => as5 ok0 g0_0 ok2 g2_r x Q) hF
def Cr (n : Sm) : Bool := decide (n = dk 0) || (decide (n = dk 1) || (decide (n = dk 2) || decide (n = dk 3)))
theorem tI {n : Sm} (h : Cr n = true) : n = dk 0 ∨ n = dk 1 ∨ n = dk 2 ∨ n = dk 3 := by
  simpa [Cr] using h
theorem CO {s : Int} (h : aA s = true) : Cr (dk s.toNat) = true := by
  rcases cC h with rfl | rfl | rfl | rfl <;> decide +kernel
def asF (c : List UInt64) (m : UInt64) : UInt64 := upto (fun k r => Rp r (c.getD (3 - k) 0) m) 0 4
theorem jQ {m : UInt64} (h : eQ m = true) : 0 < m.toNat := by
  rcases dx h with rfl | rfl <;> decide
theorem YQ {a : af} {m : UInt64} (h : eQ m = true) : asF (lst a) m = UInt64.ofNat (a.nat % m.toNat) := by
  have hm := jQ h
  rw [← UInt64.toNat_inj, UInt64.toNat_ofNat', Nat.mod_eq_of_lt (b := 2 ^ 64) (Nat.lt_trans (Nat.mod_lt _ hm) m.toNat_lt)]
  show (Rp (Rp (Rp (Rp 0 a.w3 m) a.w2 m) a.w1 m) a.w0 m).toNat = _
  rw [nO hm, nO hm, nO hm, nO hm, Mw _ a.w2.toNat, Mw _ a.w1.toNat, Mw _ a.w0.toNat, show (0 : UInt64).toNat = 0 from rfl]
  congr 1
  unfold Sx.af.nat
  omega
def wA (s : db) : Bool := decide (s.1.2.2.2.1 = 0 ∧ s.1.2.2.2.2.1 = 3 ∧ s.2.2.1.length = 4) && eQ s.2.1.2.2.2.2.2.1
def MV (s : db) : mq := (((), asF s.2.2.1 s.2.1.2.2.2.2.2.1, ()), (s.2.2.2.1, ()))
theorem arc : ∀ s : db, wA s = true → ∃ m e, ay Fw m s = some e ∧ (MX MV s).run = some e := by
  rintro ⟨⟨⟨⟩, ⟨⟩, ⟨⟩, r, i, ⟨⟩⟩, ⟨⟨x0, x1, x2, x3, x4, sm, x6, x7, x8, x9, x10, ⟨⟩⟩, c1, c2, ⟨⟩⟩⟩ h
  simp only [wA, Bool.and_eq_true, decide_eq_true_eq] at h
  obtain ⟨⟨rfl, rfl, hl⟩, hs⟩ := h
  have hm := jQ hs
  have := (aT (T := Fw) (fun k r => ((((), (), (), r, 3 - (k : Int), ()), ((x0, x1, x2, x3, x4, sm, x6, x7, x8, x9, x10, ()), c1, c2, ())) : db)) (fun k r => Rp r (c1.getD (3 - k) 0) sm)
    (fun r => (⟨(.exit 0, wB), (((), r, ()), (c2, ()))⟩ : aJ)) 4 0 (fun _ r => r.toNat < sm.toNat) hm (fun k r hk hr => ⟨?_, ?_⟩) (fun r hr => ?_)).1
  · obtain ⟨m, hm⟩ := this
    exact ⟨m, _, hm, rfl⟩
  · have e1 : (3 - (k : Int)).toNat = 3 - k := by omega
    have e2 : (3 : Int) - (k : Int) - 1 = 3 - ((k + 1 : Nat) : Int) := by omega
    refine (OT.aw (decide_eq_true (by dsimp only; omega))).trans ((ah ?_).trans ?_)
    · simp only [e1, Nat.add_zero, hl, List.all_cons, List.all_nil, Bool.and_true, Bool.and_eq_true]
      refine ⟨aI (by omega), decide_eq_true (by omega), ?_, aK (by omega)⟩
      simp only [rN, Bool.and_eq_true]
      exact ⟨hs, decide_eq_true (UInt64.lt_iff_toNat_lt.2 hr)⟩
    · simp only [OT.cn, e1, e2, Nat.add_zero]
  · rw [nO hm]
    exact Nat.mod_lt _ hm
  · exact OT.al (decide_eq_false (by dsimp only; omega))
def atX (s : da) : af := ⟨s.2.1.1, s.2.1.2.1, s.2.1.2.2.1, s.2.1.2.2.2.1⟩
def CS (s : da) : Bool := decide (s.2.2.1.length = 4 ∧ s.2.2.2.1.length = 4 ∧ 0 < (atX s).nat)
def MU (s : da) : mo := (((), ()), (lst (ofN ((elemOf s.2.2.1).nat % (atX s).nat)), ()))
theorem acx {x0 x1 x2 x3 x5 x6 x7 x8 x9 x10 : UInt64} {x4 : Int} {c2 : List UInt64} (hc : c2.length = 4) (hm : 0 < (af.mk x0 x1 x2 x3).nat) : ∀ (n : Nat) (a : af), a.nat = n →
    ∃ m, ay Fv m (((), (), (), ()), ((x0, x1, x2, x3, x4, x5, x6, x7, x8, x9, x10, ()), lst a, c2, ())) = some ⟨(.ret, pB), (((), ()), (lst (ofN (a.nat % (af.mk x0 x1 x2 x3).nat)), ()))⟩ := by
  intro n
  induction n using Nat.strongRecOn with
  | _ n ih =>
    intro a hn
    cases hb : Nat.blt a.nat (af.mk x0 x1 x2 x3).nat
    · have hle : (af.mk x0 x1 x2 x3).nat ≤ a.nat := by
        rcases Nat.lt_or_ge a.nat (af.mk x0 x1 x2 x3).nat with h | h
        · have : Nat.blt a.nat (af.mk x0 x1 x2 x3).nat = true := Nat.ble_eq_true_of_le h
          rw [this] at hb; cases hb
        · exact h
      have hd := uY hle
      obtain ⟨m, hm2⟩ := ih (a.nat - (af.mk x0 x1 x2 x3).nat) (by omega) (jn a ⟨x0, x1, x2, x3⟩).1 hd
      rw [hd, ← Nat.mod_eq_sub_mod hle] at hm2
      refine ⟨m + 1, aV ?_ hm2⟩
      refine (ah ?_).trans ((OT.al hb).trans ((ah ?_).trans rfl))
      · rfl
      · rfl
    · have hlt := dB hb
      rw [Nat.mod_eq_of_lt hlt, Mo]
      refine ⟨1, bN ?_⟩
      refine (ah ?_).trans ((OT.aw hb).trans ((ah ?_).trans ?_))
      · rfl
      · simp only [hc, List.all_cons, List.all_nil, Bool.and_true, Bool.and_eq_true]
        exact ⟨rfl, rfl⟩
      · show some (Sum.inr (⟨(.ret, pB), (((), ()), (lay c2 (lst a) 4 0, ()))⟩ : aJ)) = _
        rw [sE hc (dl a)]
theorem arb : ∀ s : da, CS s = true → ∃ m e, ay Fv m s = some e ∧ (MW MU s).run = some e := by
  rintro ⟨⟨⟨⟩, ⟨⟩, ⟨⟩, ⟨⟩⟩, ⟨⟨x0, x1, x2, x3, x4, x5, x6, x7, x8, x9, x10, ⟨⟩⟩, c1, c2, ⟨⟩⟩⟩ h
  have h' := of_decide_eq_true h
  dsimp only [atX] at h'
  obtain ⟨h1, h2, h3⟩ := h'
  obtain ⟨m, hm⟩ := acx (x4 := x4) (x5 := x5) (x6 := x6) (x7 := x7) (x8 := x8) (x9 := x9) (x10 := x10) h2 h3 _ (elemOf c1) rfl
  rw [bR h1] at hm
  exact ⟨m, _, hm, rfl⟩
def k8 (x : acz) : Bool := Cr x.1.1
def aoe (x : acz) : OT mr.Y := .ok ⟨nI, ((ofN (x.1.2.1.nat % x.1.1.1.nat), ()), ())⟩
theorem pf {n : Nat} (h : n < 18446744073709551616) : ofN n = ⟨UInt64.ofNat n, 0, 0, 0⟩ := by
  refine ahj (k := 0) ?_
  rw [UInt64.toNat_ofNat', Nat.mod_eq_of_lt (by omega)]
  simp
theorem Fu {n : Sm} {a : af} {m : UInt64} (h1 : n.1 = ⟨m, 0, 0, 0⟩) (h2 : n.2.2.1 = m) (hs : eQ m = true) : (Fx wA MV CS MU n a).run = some ⟨nI, ((ofN (a.nat % n.1.nat), ()), ())⟩ := by
  have hm := jQ hs
  have hn : n.1.nat = m.toNat := by rw [h1]; show m.toNat + _ * (0 + _ * (0 + _ * 0)) = _; omega
  have hz : (!(n.2.2.1 == 0)) = true := by
    rw [h2]
    rcases dx hs with rfl | rfl <;> rfl
  have hlt : a.nat % m.toNat < 18446744073709551616 := Nat.lt_trans (Nat.mod_lt _ hm) m.toNat_lt
  rw [hn, pf hlt]
  unfold Fx
  refine (OT.aw hz).trans ?_
  cases hb : (a.w1 ||| a.w2 ||| a.w3 == 0)
  · refine (OT.al rfl).trans ((ah ?_).trans ?_)
    · simp only [List.all_cons, List.all_nil, Bool.and_true, Bool.and_eq_true]
      refine ⟨?_, rfl, rfl⟩
      show (decide _ && eQ n.2.2.1) = true
      rw [h2, hs, Bool.and_true]
      exact decide_eq_true ⟨rfl, rfl, rfl⟩
    · show some (⟨nI, ((⟨asF (lst a) n.2.2.1, 0, 0, 0⟩, ()), ())⟩ : mr.Y) = _
      rw [h2, YQ hs]
  · refine (OT.aw rfl).trans ((ah ?_).trans ?_)
    · simp only [hz, List.all_cons, List.all_nil, Bool.and_true]
    · have hw : a.w1 = 0 ∧ a.w2 = 0 ∧ a.w3 = 0 := by
        have : a.w1 ||| a.w2 ||| a.w3 = 0 := by simpa using hb
        simpa [UInt64.or_eq_zero_iff, and_assoc] using this
      have ha : a.nat = a.w0.toNat := by
        unfold Sx.af.nat
        rw [hw.1, hw.2.1, hw.2.2]
        show _ + _ * (0 + _ * (0 + _ * 0)) = _
        omega
      show some (⟨nI, ((⟨a.w0 % n.2.2.1, 0, 0, 0⟩, ()), ())⟩ : mr.Y) = _
      have e : a.w0 % n.2.2.1 = UInt64.ofNat (a.nat % m.toNat) := by
        rw [h2, ha, ← UInt64.toNat_inj, UInt64.toNat_mod, UInt64.toNat_ofNat']
        exact (Nat.mod_eq_of_lt (by rw [← ha]; omega)).symm
      rw [e]
theorem J1 {n : Sm} {a : af} (h2 : n.2.2.1 = 0) (hs : 0 < n.1.nat) : (Fx wA MV CS MU n a).run = some ⟨nI, ((ofN (a.nat % n.1.nat), ()), ())⟩ := by
  unfold Fx
  refine (OT.al (by rw [h2]; rfl)).trans ((ah ?_).trans ?_)
  · simp only [List.all_cons, List.all_nil, Bool.and_true, Bool.and_eq_true]
    exact ⟨decide_eq_true ⟨rfl, rfl, hs⟩, rfl⟩
  · rfl
theorem auf : 0 < (dk 2).1.nat := by decide +kernel
theorem aue : 0 < (dk 3).1.nat := by decide +kernel
theorem ara : aa Try.prog 58 (mr.aE k8 aoe) := aid wA MV CS MU arc arb _ _ fun x oy hp ho => by
  rw [← ho]
  clear ho
  obtain ⟨⟨n, a, ⟨⟩⟩, ⟨⟩⟩ := x
  have hp' : Cr n = true := hp
  rcases tI hp' with rfl | rfl | rfl | rfl
  · exact Fu (m := 16513537) rfl rfl rfl
  · exact Fu (m := 16521217) rfl rfl rfl
  · exact J1 rfl auf
  · exact J1 rfl aue
def Fq : bL := (mr.aE k8 aoe)
theorem acy : aa Try.prog 58 Fq := ara
theorem acw : aB Fq := ax
def SP : Env := av 58 Fq Hj
theorem Hd : aN Try.prog SP := ag acy qy
theorem He : aq SP := ab acw Hi
theorem adJ : aU Try.prog te SP := aG follows ak Hd He
def km : ao := ⟨[.val true (.prod .elem (.prod .int (.prod .u64 (.prod .u64 .elem)))), .val true .elem, .val true .elem], [], true, 0, false⟩
abbrev J8 : Type := (((af × (Int × (UInt64 × (UInt64 × af))))) × (af) × (af) × Unit) × (Unit)
def M6 : ar := ⟨[.val true .elem], [], false⟩
def Rg : SV → Option ar := fun _ => some M6
def VS (a0 : (af × (Int × (UInt64 × (UInt64 × af))))) (a1 : af) (a2 : af) : OT km.Y :=
  let z0 : Nat := af.nat a0.fst
  let z1 : af := (A5 (ofN (af.nat a1 % z0)) (ofN (af.nat a2 % z0))).fst
  (gd [k8 ((a0, a1, ()), ()), k8 ((a0, a2, ()), ()), k8 ((a0, z1, ()), ())] (.ok ⟨M6, ((ofN (af.nat z1 % z0), ()), ())⟩))
theorem aro (x : J8) (Q : km.Y → Prop) : wpf te SP au 1000 Try.f94 (km.inp.inj x).tm (km.inp.inj x).hp (fnK km Rg Q) (fun _ _ => False) = (VS (x.1.1) (x.1.2.1) (x.1.2.2.1)).wpR Q := by kernel_rfl
theorem acT (pre : J8 → Bool) (F : J8 → OT km.Y) (hF : ∀ (x : J8) oy, pre x = true → (F x).run = some oy → (VS (x.1.1) (x.1.2.1) (x.1.2.2.1)).run = some oy) : aa Try.prog 94 (km.aE pre F) :=
  az ak Hd adJ (f := 94) (fn := Try.f94) (c := aj Try.f94) (by kernel_rfl) (by kernel_rfl) (by kernel_rfl) (S := km) (k := 0) (by kernel_rfl) (fun R hR => ae) (n := 1000) (sel := Rg) (fun v o h => by cases h; rfl) (pre := pre) (F := F) (T := fun x => VS (x.1.1) (x.1.2.1) (x.1.2.2.1)) (fun x Q => aro x Q) hF
theorem EL {n : Sm} (h : Cr n = true) : 0 < n.1.nat ∧ n.1.nat < 57896044618658097711785492504343953926634992332820282019728792003956564819968 := by
  rcases tI h with rfl | rfl | rfl | rfl
  · exact ⟨by decide +kernel, by decide +kernel⟩
  · exact ⟨by decide +kernel, by decide +kernel⟩
  · exact ⟨by decide +kernel, by decide +kernel⟩
  · exact ⟨by decide +kernel, by decide +kernel⟩
def pS (s : Int) : Nat := (dk s.toNat).1.nat
theorem Qe {s : Int} (h : aA s = true) : 0 < pS s ∧ pS s < 57896044618658097711785492504343953926634992332820282019728792003956564819968 := EL (CO h)
def su (p : Nat) (a b : af) : af := ofN ((a.nat + b.nat) % p)
def wb (p : Nat) (a b : af) : af := ofN (a.nat * b.nat % p)
theorem m9 {p n : Nat} (h : 0 < p ∧ p < 57896044618658097711785492504343953926634992332820282019728792003956564819968) : (ofN (n % p)).nat = n % p := by
  have := Nat.mod_lt n h.1
  exact lB (by omega)
theorem ajM {p : Nat} (h : 0 < p ∧ p < 57896044618658097711785492504343953926634992332820282019728792003956564819968) (a b : af) : ofN ((A5 (ofN (a.nat % p)) (ofN (b.nat % p))).1.nat % p) = su p a b := by
  have ha := Nat.mod_lt a.nat h.1
  have hb := Nat.mod_lt b.nat h.1
  have e : (A5 (ofN (a.nat % p)) (ofN (b.nat % p))).1.nat = a.nat % p + b.nat % p := by
    show (ofN _).nat = _
    rw [m9 h, m9 h]
    exact lB (by omega)
  unfold su
  rw [e, ← Nat.add_mod]
def FP (x : J8) : Bool := Cr x.1.1
def VT (x : J8) : OT km.Y := .ok ⟨M6, ((su x.1.1.1.nat x.1.2.1 x.1.2.2.1, ()), ())⟩
theorem amV : aa Try.prog 94 (km.aE FP VT) := acT _ _ fun x oy hp ho => by
  rw [← ho]
  clear ho
  obtain ⟨⟨n, a, b, ⟨⟩⟩, ⟨⟩⟩ := x
  have hp' : Cr n = true := hp
  refine (ah ?_).trans ?_
  · simp only [List.all_cons, List.all_nil, Bool.and_true, Bool.and_eq_true]
    exact ⟨hp', hp', hp'⟩
  · simp only [VT, ajM (EL hp')]
def zY : bL := (km.aE FP VT)
theorem VR : aa Try.prog 94 zY := amV
theorem VQ : aB zY := ax
def Hm : Env := av 94 zY SP
theorem A0 : aN Try.prog Hm := ag VR Hd
theorem Cf : aq Hm := ab VQ He
theorem W3 : aU Try.prog te Hm := aG follows ak A0 Cf
def pH : ao := ⟨[.val false .int, .val true .elem, .val true .elem], [], true, 0, false⟩
abbrev acS : Type := ((Int) × (af) × (af) × Unit) × (Unit)
def FO : ar := ⟨[.val true .elem], [], false⟩
def ZT : SV → Option ar := fun _ => some FO
def ait (a0 : Int) (a1 : af) (a2 : af) : OT pH.Y :=
  let z0 : af × Int × UInt64 × UInt64 × af := dk (Int.toNat a0)
  (.br (aA a0)
  (gd [FP ((z0, a1, a2, ()), ())] (.ok ⟨FO, ((su (af.nat z0.fst) a1 a2, ()), ())⟩))
  (.ok ⟨FO, (({ w0 := 0, w1 := 0, w2 := 0, w3 := 0 }, ()), ())⟩))
theorem atb (x : acS) (Q : pH.Y → Prop) : wpf te Hm au 1000 Try.f79 (pH.inp.inj x).tm (pH.inp.inj x).hp (fnK pH ZT Q) (fun _ _ => False) = (ait (x.1.1) (x.1.2.1) (x.1.2.2.1)).wpR Q := by kernel_rfl
theorem ais (pre : acS → Bool) (F : acS → OT pH.Y) (hF : ∀ (x : acS) oy, pre x = true → (F x).run = some oy → (ait (x.1.1) (x.1.2.1) (x.1.2.2.1)).run = some oy) : aa Try.prog 79 (pH.aE pre F) :=
  az ak A0 W3 (f := 79) (fn := Try.f79) (c := aj Try.f79) (by kernel_rfl) (by kernel_rfl) (by kernel_rfl) (S := pH) (k := 0) (by kernel_rfl) (fun R hR => ae) (n := 1000) (sel := ZT) (fun v o h => by cases h; rfl) (pre := pre) (F := F) (T := fun x => ait (x.1.1) (x.1.2.1) (x.1.2.2.1)) (fun x Q => atb x Q) hF
def ZU (_ : acS) : Bool := true
def aoj (x : acS) : OT pH.Y := .br (aA x.1.1) (.ok ⟨FO, ((su (pS x.1.1) x.1.2.1 x.1.2.2.1, ()), ())⟩) (.ok ⟨FO, ((⟨0, 0, 0, 0⟩, ()), ())⟩)
theorem arn : aa Try.prog 79 (pH.aE ZU aoj) := ais _ _ fun x oy hp ho => by
  rw [← ho]
  clear ho
  obtain ⟨⟨s, a, b, ⟨⟩⟩, ⟨⟩⟩ := x
  cases hs : aA s
  · exact (OT.al hs).trans (OT.al (b := aA s) hs).symm
  · refine (OT.aw hs).trans ((ah ?_).trans (OT.aw (b := aA s) hs).symm)
    simp only [List.all_cons, List.all_nil, Bool.and_true]
    exact CO hs
def FN : bL := (pH.aE ZU aoj)
theorem acR : aa Try.prog 79 FN := arn
theorem acQ : aB FN := ax
def KN : Env := av 79 FN Hm
theorem xR : aN Try.prog KN := ag acR A0
theorem Hl : aq KN := ab acQ Cf
theorem KM : aU Try.prog te KN := aG follows ak xR Hl
end Go.Proofs.Ytohjofabochgfaa

namespace Go.Proofs.Ytohjofabochgfaa
open Sx Go
def l6 (n : Nat) : List UInt64 := [UInt64.ofNat n, UInt64.ofNat (n / 18446744073709551616), UInt64.ofNat (n / 18446744073709551616 / 18446744073709551616), UInt64.ofNat (n / 18446744073709551616 / 18446744073709551616 / 18446744073709551616),
  UInt64.ofNat (n / 18446744073709551616 / 18446744073709551616 / 18446744073709551616 / 18446744073709551616), UInt64.ofNat (n / 18446744073709551616 / 18446744073709551616 / 18446744073709551616 / 18446744073709551616 / 18446744073709551616)]
def v6 (l : List UInt64) : Nat := (l.getD 0 0).toNat + 18446744073709551616 * ((l.getD 1 0).toNat + 18446744073709551616 * ((l.getD 2 0).toNat + 18446744073709551616 * ((l.getD 3 0).toNat + 18446744073709551616 * ((l.getD 4 0).toNat + 18446744073709551616 * (l.getD 5 0).toNat))))
theorem fL {m : Nat} {x : UInt64} (hm : m % 18446744073709551616 = x.toNat) : UInt64.ofNat m = x := by
  rw [← UInt64.toNat_inj, UInt64.toNat_ofNat']
  exact hm
theorem atQ {n : Nat} {a b c d e : UInt64} {k : Nat} {f : UInt64} (h : n = a.toNat + 18446744073709551616 * (b.toNat + 18446744073709551616 * (c.toNat + 18446744073709551616 * (d.toNat + 18446744073709551616 * (e.toNat + 18446744073709551616 * k))))) (hf : k % 18446744073709551616 = f.toNat) : l6 n = [a, b, c, d, e, f] := by
  obtain ⟨h1, h0⟩ := div_eq a.toNat_lt h
  obtain ⟨h2, h3⟩ := div_eq b.toNat_lt h1
  obtain ⟨h4, h5⟩ := div_eq c.toNat_lt h2
  obtain ⟨h6, h7⟩ := div_eq d.toNat_lt h4
  obtain ⟨h8, h9⟩ := div_eq e.toNat_lt h6
  unfold l6
  rw [fL (x := a) h0, fL (x := b) h3, fL (x := c) h5, fL (x := d) h7, fL (x := e) h9, fL (x := f) (by rw [h8]; exact hf)]
theorem ahG (n : Nat) : (l6 n).length = 6 := rfl
def asa (t a x c : UInt64) : UInt64 := sw t (sw (a * x) c 0) 0
def yp (t a x c : UInt64) : UInt64 := aj0 a x + uT (a * x) c 0 + uT t (sw (a * x) c 0) 0
theorem arV {t P p h c l k1 r k2 W : Nat} (hP : P = p + W * h) (h1 : p + c = l + W * k1) (h2 : t + l = r + W * k2) : t + P + c = r + W * (h + k1 + k2) := by
  rw [Nat.mul_add, Nat.mul_add]
  omega
theorem ajO {t P c r q W : Nat} (hW : 0 < W) (ht : t ≤ W - 1) (hc : c ≤ W - 1) (hP : P ≤ (W - 1) * (W - 1)) (h : t + P + c = r + W * q) : q < W := by
  obtain ⟨V, rfl⟩ : ∃ V, W = V + 1 := ⟨W - 1, by omega⟩
  rw [Nat.add_sub_cancel] at *
  refine Nat.lt_of_not_le fun hq => ?_
  have h1 : (V + 1) * (V + 1) ≤ (V + 1) * q := Nat.mul_le_mul_left _ hq
  have h2 : (V + 1) * (V + 1) = V * V + V + V + 1 := by rw [Nat.add_mul, Nat.mul_add, Nat.one_mul, Nat.mul_one]; omega
  omega
theorem amq (a x : UInt64) : (aj0 a x).toNat = a.toNat * x.toNat / 18446744073709551616 := by
  have ha := a.toNat_lt
  have hx := x.toNat_lt
  have : a.toNat * x.toNat / 18446744073709551616 < 18446744073709551616 := by
    rw [Nat.div_lt_iff_lt_mul (by omega)]
    exact Nat.mul_lt_mul'' ha hx
  unfold aj0
  rw [UInt64.toNat_ofNat', Nat.mod_eq_of_lt this]
theorem C5 (t a x c : UInt64) : t.toNat + a.toNat * x.toNat + c.toNat = (asa t a x c).toNat + 18446744073709551616 * (yp t a x c).toNat := by
  have hP : a.toNat * x.toNat = (a * x).toNat + 18446744073709551616 * (aj0 a x).toNat := by
    rw [amq, UInt64.toNat_mul]
    exact (Nat.mod_add_div _ _).symm
  have h1 := kA (a * x) c 0
  have h2 := kA t (sw (a * x) c 0) 0
  rw [show (0 : UInt64).toNat = 0 from rfl, Nat.add_zero] at h1 h2
  have key := arV hP h1 h2
  have hb := ajO (W := 18446744073709551616) (by omega) (Nat.le_sub_one_of_lt t.toNat_lt) (Nat.le_sub_one_of_lt c.toNat_lt) (Nat.mul_le_mul (Nat.le_sub_one_of_lt a.toNat_lt) (Nat.le_sub_one_of_lt x.toNat_lt)) key
  have e : (yp t a x c).toNat = (aj0 a x).toNat + (uT (a * x) c 0).toNat + (uT t (sw (a * x) c 0) 0).toNat := by
    unfold yp
    rw [UInt64.toNat_add, UInt64.toNat_add, Nat.mod_add_mod]
    exact Nat.mod_eq_of_lt hb
  rw [e]
  exact key
theorem C6 {t a x c s k T A R W : Nat} (h1 : t + a * x + c = s + W * k) (h2 : T + A * x + k = R) : (t + W * T) + (a + W * A) * x + c = s + W * R := by
  rw [Nat.add_mul, Nat.mul_assoc, ← h2, Nat.mul_add, Nat.mul_add]
  omega
def aub (t0 t1 t2 t3 t4 t5 : UInt64) (a : af) (x : UInt64) : List UInt64 :=
  let k0 := yp t0 a.w0 x 0
  let k1 := yp t1 a.w1 x k0
  let k2 := yp t2 a.w2 x k1
  let k3 := yp t3 a.w3 x k2
  [asa t0 a.w0 x 0, asa t1 a.w1 x k0, asa t2 a.w2 x k1, asa t3 a.w3 x k2, sw t4 k3 0, t5 + uT t4 k3 0]
theorem arW (t0 t1 t2 t3 t4 t5 : UInt64) (a : af) (x : UInt64) : aub t0 t1 t2 t3 t4 t5 a x = l6 (v6 [t0, t1, t2, t3, t4, t5] + a.nat * x.toNat) := by
  have h4 := kA t4 (yp t3 a.w3 x (yp t2 a.w2 x (yp t1 a.w1 x (yp t0 a.w0 x 0)))) 0
  rw [show (0 : UInt64).toNat = 0 from rfl, Nat.add_zero] at h4
  have h5 : (t4.toNat + 18446744073709551616 * t5.toNat) + 0 * x.toNat + (yp t3 a.w3 x (yp t2 a.w2 x (yp t1 a.w1 x (yp t0 a.w0 x 0)))).toNat =
      (sw t4 (yp t3 a.w3 x (yp t2 a.w2 x (yp t1 a.w1 x (yp t0 a.w0 x 0)))) 0).toNat + 18446744073709551616 * (t5.toNat + (uT t4 (yp t3 a.w3 x (yp t2 a.w2 x (yp t1 a.w1 x (yp t0 a.w0 x 0)))) 0).toNat) := by
    rw [Nat.zero_mul, Nat.mul_add]
    omega
  have h := C6 (C5 t0 a.w0 x 0) (C6 (C5 t1 a.w1 x _) (C6 (C5 t2 a.w2 x _) (C6 (C5 t3 a.w3 x _) h5)))
  rw [show (0 : UInt64).toNat = 0 from rfl, Nat.add_zero, Nat.mul_zero, Nat.add_zero] at h
  exact (atQ (f := t5 + uT t4 (yp t3 a.w3 x (yp t2 a.w2 x (yp t1 a.w1 x (yp t0 a.w0 x 0)))) 0) h (by rw [UInt64.toNat_add])).symm
end Go.Proofs.Ytohjofabochgfaa

namespace Go.Proofs.Ytohjofabochgfaa
open Sx Go
set_option maxRecDepth 100000
def pI : ao := ⟨[.val true (.arr 6 .u64), .val true .elem, .val false .u64], [], true, 0, false⟩
abbrev acW : Type := ((List (UInt64)) × (af) × (UInt64) × Unit) × (Unit)
def FR : Shape := ⟨61, [(2, .val false .u64), (3, .ptr 0 0 0), (4, .ptr 1 0 0), (6, .ptr 2 0 0), (7, .val false .u64), (13, .val false .int)], [(0, .row .u64), (1, .row .u64), (2, .row .u64)], 0, true⟩
abbrev df : Type := ((UInt64) × (Unit) × (Unit) × (Unit) × (UInt64) × (Int) × Unit) × ((List (UInt64)) × (List (UInt64)) × (List (UInt64)) × Unit)
def wF : Shape := ⟨61, [(3, .ptr 0 0 0), (6, .ptr 1 0 0), (7, .val false .u64)], [(0, .row .u64), (1, .row .u64)], 0, true⟩
abbrev mz : Type := ((Unit) × (Unit) × (UInt64) × Unit) × ((List (UInt64)) × (List (UInt64)) × Unit)
def aiu : SE → Option Shape := iX [(0, wF)] none
def art (a2 : UInt64) (a7 : UInt64) (a13 : Int) (c0 : List (UInt64)) (c1 : List (UInt64)) (c2 : List (UInt64)) : OT (Sum df aJ) :=
  let z0 : Bool := inB a13 6
  let z1 : Bool := decide (Int.toNat a13 + 0 < List.length c0)
  let z2 : UInt64 := List.getD c1 (Int.toNat a13 + 0) (0 : UInt64)
  let z3 : UInt64 := List.getD c0 (Int.toNat a13 + 0) (0 : UInt64)
  let z4 : UInt64 := sw (z2 * a2) a7 (0 : UInt64)
  (.br (decide (a13 < (4 : Int)))
  (gd [inB a13 4, decide (Int.toNat a13 + 0 < List.length c1), z0, z1, z0, z1, inR (a13 + (1 : Int))] (.ok (.inl ((a2, ((), ((), ((), (aj0 z2 a2 + uT (z2 * a2) a7 (0 : UInt64) + uT z3 z4 (0 : UInt64), (a13 + (1 : Int), ())))))), (List.set c0 (Int.toNat a13 + 0) (sw z3 z4 (0 : UInt64)), (c1, (c2, ())))))))
  (.ok (.inr ⟨(.exit 0, wF), (((), ((), (a7, ()))), (c0, (c2, ())))⟩)))
def FT (s : df) : OT (Sum df aJ) := art (s.1.1) (s.1.2.2.2.2.1) (s.1.2.2.2.2.2.1) (s.2.1) (s.2.2.1) (s.2.2.2.1)
theorem arp (s : df) (Q : Sum df aJ → Prop) : wps te KN au 1000 (bq (aj Try.f98) 0) (FR.inj s) (cE FR aiu (Q : Sum FR.T aJ → Prop)) = (FT s).wpR Q := by kernel_rfl
def M7 (g0_0 : df → mz) (s : df) : OT aJ := (.ok ⟨(.exit 0, wF), g0_0 s⟩)
def VU : ar := ⟨[.val true (.arr 6 .u64)], [], false⟩
def ZV : SV → Option ar := fun _ => some VU
def aix (ok0 : df → Bool) (g0_0 : df → mz) (a0 : List (UInt64)) (a1 : af) (a2 : UInt64) : OT pI.Y :=
  let z0 : (UInt64 × PUnit × PUnit × PUnit × UInt64 × Int × PUnit) × List UInt64 × List UInt64 × List UInt64 × PUnit := ((a2, (), (), (), (0 : UInt64), (0 : Int), ()), tab a0 6 (0 : UInt64), [a1.w0, a1.w1, a1.w2, a1.w3], [(0 : UInt64), (0 : UInt64), (0 : UInt64), (0 : UInt64), (0 : UInt64), (0 : UInt64)], ())
  let z1 : (PUnit × PUnit × UInt64 × PUnit) × List UInt64 × List UInt64 × PUnit := g0_0 z0
  let z2 := z1.snd
  let z3 := z2.fst
  let z4 : Bool := decide (4 < List.length z3)
  let z5 : UInt64 := List.getD z3 4 0
  let z6 := z1.fst.snd.snd.fst
  let z7 : List UInt64 := List.set z3 4 (sw z5 z6 (0 : UInt64))
  let z8 : Bool := decide (5 < List.length z7)
  let z9 : List UInt64 := List.set z7 5 (List.getD z7 5 0 + uT z5 z6 (0 : UInt64))
  let z10 := z2.snd.fst
  let z11 : List UInt64 := lay z10 z9 6 (0 : UInt64)
  (gd [ok0 z0, z4, z4, z8, z8, decide (6 ≤ List.length z9), decide ((6 / 1 : Nat) + 0 ≤ List.length z10), decide (6 ≤ List.length z11)] (.ok ⟨VU, ((tab z11 6 (0 : UInt64), ()), ())⟩))
theorem atc (ok0 : df → Bool) (g0_0 : df → mz) (x : acW) (Q : pI.Y → Prop) : wpf te KN (bj 0 (cS FR 0 ok0 (M7 g0_0)) au) 1000 Try.f98 (pI.inp.inj x).tm (pI.inp.inj x).hp (fnK pI ZV Q) (fun _ _ => False) = (aix ok0 g0_0 (x.1.1) (x.1.2.1) (x.1.2.2.1)).wpR Q := by kernel_rfl
theorem aiv (ok0 : df → Bool) (g0_0 : df → mz) (h0 : ∀ s : df, ok0 s = true → ∃ m e, ay (FT) m s = some e ∧ (M7 g0_0 s).run = some e) (pre : acW → Bool) (F : acW → OT pI.Y) (hF : ∀ (x : acW) oy, pre x = true → (F x).run = some oy → (aix ok0 g0_0 (x.1.1) (x.1.2.1) (x.1.2.2.1)).run = some oy) : aa Try.prog 98 (pI.aE pre F) :=
  az ak xR KM (f := 98) (fn := Try.f98) (c := aj Try.f98) (by kernel_rfl) (by kernel_rfl) (by kernel_rfl) (S := pI) (k := 0) (by kernel_rfl) (fun R hR => (aH (c := (aj Try.f98)) (by kernel_rfl) (id := 0) (by kernel_rfl) (bg ak xR KM (sh := FR) hR (xs := aiu) (aF (by kernel_rfl) (by kernel_rfl) hR) aS ae (n := 1000) (T := FT) (fun s Q => arp s Q) (ok := ok0) (f := M7 g0_0) h0) ae)) (n := 1000) (sel := ZV) (fun v o h => by cases h; rfl) (pre := pre) (F := F) (T := fun x => aix ok0 g0_0 (x.1.1) (x.1.2.1) (x.1.2.2.1)) (fun x Q => atc ok0 g0_0 x Q) hF
def anK (a : List UInt64) (x : UInt64) (k : Nat) (s : List UInt64 × UInt64) : List UInt64 × UInt64 := (s.1.set k (asa (s.1.getD k 0) (a.getD k 0) x s.2), yp (s.1.getD k 0) (a.getD k 0) x s.2)
def ZX (s : df) : Bool := decide (s.1.2.2.2.2.1 = 0 ∧ s.1.2.2.2.2.2.1 = 0 ∧ s.2.1.length = 6 ∧ s.2.2.1.length = 4)
def aiw (s : df) : mz := (((), (), (upto (anK s.2.2.1 s.1.1) (s.2.1, 0) 4).2, ()), ((upto (anK s.2.2.1 s.1.1) (s.2.1, 0) 4).1, s.2.2.2.1, ()))
theorem ars : ∀ s : df, ZX s = true → ∃ m e, ay FT m s = some e ∧ (M7 aiw s).run = some e := by
  rintro ⟨⟨x, ⟨⟩, ⟨⟩, ⟨⟩, c, i, ⟨⟩⟩, ⟨t, a, o, ⟨⟩⟩⟩ h
  have h' := of_decide_eq_true h
  dsimp only at h'
  obtain ⟨rfl, rfl, ht, ha⟩ := h'
  have := (aT (T := FT) (fun k s => (((x, (), (), (), s.2, (k : Int), ()), (s.1, a, o, ())) : df)) (anK a x)
    (fun s => (⟨(.exit 0, wF), (((), (), s.2, ()), (s.1, o, ()))⟩ : aJ)) 4 (t, 0) (fun _ s => s.1.length = 6) ht (fun k s hk hs => ⟨?_, ?_⟩) (fun s hs => ?_)).1
  · obtain ⟨m, hm⟩ := this
    exact ⟨m, _, hm, rfl⟩
  · refine (OT.aw (decide_eq_true (by dsimp only; omega))).trans ((ah ?_).trans ?_)
    · simp only [Int.toNat_natCast, Nat.add_zero, hs, ha, List.all_cons, List.all_nil, Bool.and_true, Bool.and_eq_true]
      exact ⟨aI (by omega), decide_eq_true (by omega), aI (by omega), decide_eq_true (by omega), aI (by omega), decide_eq_true (by omega), aK (by omega)⟩
    · simp only [OT.cn, Int.toNat_natCast, Nat.add_zero]
      rfl
  · simp only [anK, List.length_set]
    exact hs
  · exact OT.al (decide_eq_false (by dsimp only; omega))
def ZW (_ : acW) : Bool := true
def aiy (x : acW) : OT pI.Y := .ok ⟨VU, ((l6 (v6 x.1.1 + x.1.2.1.nat * x.1.2.2.1.toNat), ()), ())⟩
theorem arq : aa Try.prog 98 (pI.aE ZW aiy) := aiv ZX aiw ars _ _ fun x oy hp ho => by
  rw [← ho]
  clear ho
  obtain ⟨⟨t, a, x, ⟨⟩⟩, ⟨⟩⟩ := x
  refine (ah ?_).trans ?_
  · simp only [List.all_cons, List.all_nil, Bool.and_true, Bool.and_eq_true]
    exact ⟨rfl, rfl, rfl, rfl, rfl, rfl, rfl, rfl⟩
  · have e := arW (t.getD 0 0) (t.getD 1 0) (t.getD 2 0) (t.getD 3 0) (t.getD 4 0) (t.getD 5 0) a x
    have e2 : l6 (v6 t + a.nat * x.toNat) = aub (t.getD 0 0) (t.getD 1 0) (t.getD 2 0) (t.getD 3 0) (t.getD 4 0) (t.getD 5 0) a x := e.symm
    simp only [aiy, e2]
    rfl
def FQ : bL := (pI.aE ZW aiy)
theorem acV : aa Try.prog 98 FQ := arq
theorem acU : aB FQ := ax
def KP : Env := av 98 FQ KN
theorem xS : aN Try.prog KP := ag acV xR
theorem Hn : aq KP := ab acU Hl
theorem KO : aU Try.prog te KP := aG follows ak xS Hn
end Go.Proofs.Ytohjofabochgfaa

namespace Go.Proofs.Ytohjofabochgfaa
open Sx Go
theorem ase {n : Nat} (h : n / 18446744073709551616 / 18446744073709551616 / 18446744073709551616 / 18446744073709551616 / 18446744073709551616 < 18446744073709551616) : v6 (l6 n) = n := by
  unfold v6 l6
  simp only [List.getD_cons_zero, List.getD_cons_succ, UInt64.toNat_ofNat']
  rw [show (2 : Nat) ^ 64 = 18446744073709551616 from rfl]
  omega
def DM (p neg a : Nat) (b t : Nat) : Nat := (t + a * b + p * ((t + a * b) * neg % 18446744073709551616)) / 18446744073709551616
theorem qR {p neg a b t : Nat} (hn : (p * neg + 1) % 18446744073709551616 = 0) : 18446744073709551616 * DM p neg a b t = t + a * b + p * ((t + a * b) * neg % 18446744073709551616) := by
  unfold DM
  refine Nat.mul_div_cancel' (Nat.dvd_of_mod_eq_zero ?_)
  generalize t + a * b = u
  rw [Nat.add_mod, Nat.mul_mod, Nat.mod_mod, ← Nat.mul_mod, ← Nat.add_mod]
  have : u + p * (u * neg) = u * (p * neg + 1) := by
    rw [Nat.mul_add, Nat.mul_one, Nat.mul_left_comm]
    omega
  rw [this, Nat.mul_mod, hn, Nat.mul_zero, Nat.zero_mod]
theorem qQ {p neg a b t : Nat} (hn : (p * neg + 1) % 18446744073709551616 = 0) (ht : t < 2 * p) (ha : a < p) (hb : b < 18446744073709551616) : DM p neg a b t < 2 * p := by
  have h := qR (a := a) (b := b) (t := t) hn
  have hm : (t + a * b) * neg % 18446744073709551616 ≤ 18446744073709551615 := by
    have := Nat.mod_lt ((t + a * b) * neg) (show 0 < 18446744073709551616 by omega)
    omega
  have h1 : p * ((t + a * b) * neg % 18446744073709551616) ≤ p * 18446744073709551615 := Nat.mul_le_mul_left _ hm
  have h2 : a * b ≤ p * 18446744073709551615 := Nat.mul_le_mul (by omega) (by omega)
  omega
theorem aqn {p a b t t1 m K T B M W : Nat} (h1 : W * t1 = t + a * b + p * m) (h2 : K * T = t1 + a * B + p * M) : (W * K) * T = t + a * (b + W * B) + p * (m + W * M) := by
  have e : (W * K) * T = W * t1 + W * (a * B) + W * (p * M) := by rw [Nat.mul_assoc, h2, Nat.mul_add, Nat.mul_add]
  rw [e, h1, Nat.mul_add, Nat.mul_add, Nat.mul_left_comm a W, Nat.mul_left_comm p W]
  omega
theorem aud {p a b T K M r : Nat} (h : K * T = a * b + p * M) (hr : K * r % p = 1 % p) : T % p = a * b * r % p := by
  have h1 : (K * T) * r = a * b * r + p * (M * r) := by rw [h, Nat.add_mul, Nat.mul_assoc p]
  have h2 : a * b * r % p = (K * T * r) % p := by rw [h1, Nat.add_mul_mod_self_left]
  have h3 : K * T * r = T * (K * r) := by rw [Nat.mul_comm K T, Nat.mul_assoc]
  rw [h2, h3, Nat.mul_mod, hr, ← Nat.mul_mod, Nat.mul_one]
def asU (p neg a : Nat) (b : af) : Nat := DM p neg a b.w3.toNat (DM p neg a b.w2.toNat (DM p neg a b.w1.toNat (DM p neg a b.w0.toNat 0)))
theorem amr {p neg a r : Nat} {b : af} (hn : (p * neg + 1) % 18446744073709551616 = 0) (hr : 115792089237316195423570985008687907853269984665640564039457584007913129639936 * r % p = 1 % p) : asU p neg a b % p = a * b.nat * r % p := by
  have h := aqn (qR (a := a) (b := b.w0.toNat) (t := 0) hn) (aqn (qR (a := a) (b := b.w1.toNat) hn) (aqn (qR (a := a) (b := b.w2.toNat) hn) (show 18446744073709551616 * _ = _ + a * b.w3.toNat + p * _ from qR hn)))
  rw [Nat.zero_add] at h
  exact aud (K := 18446744073709551616 * (18446744073709551616 * (18446744073709551616 * 18446744073709551616))) h hr
theorem aqU {p neg a : Nat} {b : af} (hn : (p * neg + 1) % 18446744073709551616 = 0) (ha : a < p) : asU p neg a b < 2 * p :=
  qQ hn (qQ hn (qQ hn (qQ hn (by omega) ha b.w0.toNat_lt) ha b.w1.toNat_lt) ha b.w2.toNat_lt) ha b.w3.toNat_lt
theorem aqV {T p : Nat} (h : T < 2 * p) : T % p = if T < p then T else T - p := by
  split
  · exact Nat.mod_eq_of_lt ‹_›
  · rw [Nat.mod_eq_sub_mod (by omega), Nat.mod_eq_of_lt (by omega)]
end Go.Proofs.Ytohjofabochgfaa

namespace Go.Proofs.Ytohjofabochgfaa
open Sx Go
set_option maxRecDepth 100000
def iS : ao := ⟨[.val true (.prod .elem (.prod .int (.prod .u64 (.prod .u64 .elem)))), .val true .elem, .val true .elem], [], true, 0, false⟩
abbrev J0 : Type := (((af × (Int × (UInt64 × (UInt64 × af))))) × (af) × (af) × Unit) × (Unit)
def wy : Shape := ⟨61, [(3, .ptr 0 0 0), (4, .ptr 1 0 0), (6, .ptr 2 0 0), (7, .ptr 3 0 0), (13, .val true .elem), (14, .val false .int)], [(0, .cells [.val false .u64, .val false .u64, .val false .u64, .val false .u64, .val false .int, .val false .u64, .val false .u64, .val false .u64, .val false .u64, .val false .u64, .val false .u64]), (1, .row .u64), (2, .row .u64), (3, .row .u64)], 0, true⟩
abbrev cb : Type := ((Unit) × (Unit) × (Unit) × (Unit) × (af) × (Int) × Unit) × (((UInt64) × (UInt64) × (UInt64) × (UInt64) × (Int) × (UInt64) × (UInt64) × (UInt64) × (UInt64) × (UInt64) × (UInt64) × Unit) × (List (UInt64)) × (List (UInt64)) × (List (UInt64)) × Unit)
def rz : Shape := ⟨61, [(3, .ptr 0 0 0), (6, .ptr 1 0 0), (7, .ptr 2 0 0)], [(0, .cells [.val false .u64, .val false .u64, .val false .u64, .val false .u64, .val false .int, .val false .u64, .val false .u64, .val false .u64, .val false .u64, .val false .u64, .val false .u64]), (1, .row .u64), (2, .row .u64)], 0, true⟩
abbrev kj : Type := ((Unit) × (Unit) × (Unit) × Unit) × (((UInt64) × (UInt64) × (UInt64) × (UInt64) × (Int) × (UInt64) × (UInt64) × (UInt64) × (UInt64) × (UInt64) × (UInt64) × Unit) × (List (UInt64)) × (List (UInt64)) × Unit)
def ZK : SE → Option Shape := iX [(0, rz)] none
def MT (a13 : af) (a14 : Int) (c0_0 : UInt64) (c0_1 : UInt64) (c0_2 : UInt64) (c0_3 : UInt64) (c0_4 : Int) (c0_5 : UInt64) (c0_6 : UInt64) (c0_7 : UInt64) (c0_8 : UInt64) (c0_9 : UInt64) (c0_10 : UInt64) (c1 : List (UInt64)) (c2 : List (UInt64)) (c3 : List (UInt64)) : OT (Sum cb aJ) :=
  let z0 : Nat := List.length c3
  let z1 : List UInt64 := lay c3 (l6 (v6 (tab c3 6 (0 : UInt64)) + af.nat { w0 := List.getD c1 0 0, w1 := List.getD c1 1 0, w2 := List.getD c1 2 0, w3 := List.getD c1 3 0 } * UInt64.toNat (List.getD [a13.w0, a13.w1, a13.w2, a13.w3] (Int.toNat a14) (0 : UInt64)))) 6 (0 : UInt64)
  let z2 : Nat := List.length z1
  let z3 : List UInt64 := lay z1 (l6 (v6 (tab z1 6 (0 : UInt64)) + af.nat { w0 := c0_0, w1 := c0_1, w2 := c0_2, w3 := c0_3 } * UInt64.toNat (List.getD z1 0 0 * c0_6))) 6 (0 : UInt64)
  let z4 : Nat := List.length z3
  (.br (decide (a14 < (4 : Int)))
  (gd [inB a14 4, decide (6 ≤ z0), decide (4 ≤ List.length c1), decide ((6 / 1 : Nat) + 0 ≤ z0), decide (6 ≤ z2), decide (0 < z2), decide ((6 / 1 : Nat) + 0 ≤ z2), decide (1 < z4), decide (2 < z4), decide (3 < z4), decide (4 < z4), decide (5 < z4), decide ((6 / 1 : Nat) + 0 ≤ z4), inR (a14 + (1 : Int))] (.ok (.inl (((), ((), ((), ((), (a13, (a14 + (1 : Int), ())))))), ((c0_0, (c0_1, (c0_2, (c0_3, (c0_4, (c0_5, (c0_6, (c0_7, (c0_8, (c0_9, (c0_10, ()))))))))))), (c1, (c2, (List.set (List.set (List.set (List.set (List.set (List.set z3 0 (List.getD z3 1 0)) 1 (List.getD z3 2 0)) 2 (List.getD z3 3 0)) 3 (List.getD z3 4 0)) 4 (List.getD z3 5 0)) 5 (0 : UInt64), ()))))))))
  (.ok (.inr ⟨(.exit 0, rz), (((), ((), ((), ()))), ((c0_0, (c0_1, (c0_2, (c0_3, (c0_4, (c0_5, (c0_6, (c0_7, (c0_8, (c0_9, (c0_10, ()))))))))))), (c2, (c3, ()))))⟩)))
def wz (s : cb) : OT (Sum cb aJ) := MT (s.1.2.2.2.2.1) (s.1.2.2.2.2.2.1) (s.2.1.1) (s.2.1.2.1) (s.2.1.2.2.1) (s.2.1.2.2.2.1) (s.2.1.2.2.2.2.1) (s.2.1.2.2.2.2.2.1) (s.2.1.2.2.2.2.2.2.1) (s.2.1.2.2.2.2.2.2.2.1) (s.2.1.2.2.2.2.2.2.2.2.1) (s.2.1.2.2.2.2.2.2.2.2.2.1) (s.2.1.2.2.2.2.2.2.2.2.2.2.1) (s.2.2.1) (s.2.2.2.1) (s.2.2.2.2.1)
theorem amN (s : cb) (Q : Sum cb aJ → Prop) : wps te KP au 1000 (bq (aj Try.f93) 0) (wy.inj s) (cE wy ZK (Q : Sum wy.T aJ → Prop)) = (wz s).wpR Q := by kernel_rfl
def CR (g0_0 : cb → kj) (s : cb) : OT aJ := (.ok ⟨(.exit 0, rz), g0_0 s⟩)
def ry : ar := ⟨[.val true .elem], [], false⟩
def QX : SV → Option ar := fun _ => some ry
def VG (ok0 : cb → Bool) (g0_0 : cb → kj) (a0 : (af × (Int × (UInt64 × (UInt64 × af))))) (a1 : af) (a2 : af) : OT iS.Y :=
  let z0 : (PUnit × PUnit × PUnit × PUnit × af × Int × PUnit) × (UInt64 × UInt64 × UInt64 × UInt64 × Int × UInt64 × UInt64 × UInt64 × UInt64 × UInt64 × UInt64 × PUnit) × List UInt64 × List UInt64 × List UInt64 × PUnit := (((), (), (), (), a2, (0 : Int), ()), (a0.fst.w0, a0.fst.w1, a0.fst.w2, a0.fst.w3, a0.snd.fst, a0.snd.snd.fst, a0.snd.snd.snd.fst, a0.snd.snd.snd.snd.w0, a0.snd.snd.snd.snd.w1, a0.snd.snd.snd.snd.w2, a0.snd.snd.snd.snd.w3, ()), [a1.w0, a1.w1, a1.w2, a1.w3], [(0 : UInt64), (0 : UInt64), (0 : UInt64), (0 : UInt64)], [(0 : UInt64), (0 : UInt64), (0 : UInt64), (0 : UInt64), (0 : UInt64), (0 : UInt64)], ())
  let z1 := (g0_0 z0).snd
  let z2 := z1.snd
  let z3 := z2.snd.fst
  let z4 : Nat := List.length z3
  let z5 := z2.fst
  let z6 : Nat := List.length z5
  let z7 : Bool := decide ((4 / 1 : Nat) + 0 ≤ z6)
  let z8 := z1.fst
  let z9 := z8.snd
  let z10 := z9.snd
  let z11 : af × Bool := jn { w0 := List.getD z3 0 0, w1 := List.getD z3 1 0, w2 := List.getD z3 2 0, w3 := List.getD z3 3 0 } { w0 := z8.fst, w1 := z9.fst, w2 := z10.fst, w3 := z10.snd.fst }
  let z12 := z11.fst
  let z13 : List UInt64 := List.set (List.set (List.set (List.set z5 0 z12.w0) 1 z12.w1) 2 z12.w2) 3 z12.w3
  let z14 : Bool := decide (4 ≤ List.length z13)
  let z15 : af := { w0 := List.getD z13 0 0, w1 := List.getD z13 1 0, w2 := List.getD z13 2 0, w3 := List.getD z13 3 0 }
  let z16 : List UInt64 := lay z5 z3 4 (0 : UInt64)
  (gd [ok0 z0, decide (6 ≤ z4) && true, decide (4 ≤ z4), decide (4 < z4)] (.br (!List.getD z3 4 0 == (0 : UInt64))
  (gd [z7, z14] (.ok ⟨ry, ((z15, ()), ())⟩))
  (.br (!z11.snd)
    (gd [z7, z14] (.ok ⟨ry, ((z15, ()), ())⟩))
    (gd [decide ((4 / 1 : Nat) + 0 ≤ z6), decide (4 ≤ List.length z16)] (.ok ⟨ry, (({ w0 := List.getD z16 0 0, w1 := List.getD z16 1 0, w2 := List.getD z16 2 0, w3 := List.getD z16 3 0 }, ()), ())⟩)))))
theorem aq7 (ok0 : cb → Bool) (g0_0 : cb → kj) (x : J0) (Q : iS.Y → Prop) : wpf te KP (bj 0 (cS wy 0 ok0 (CR g0_0)) au) 1000 Try.f93 (iS.inp.inj x).tm (iS.inp.inj x).hp (fnK iS QX Q) (fun _ _ => False) = (VG ok0 g0_0 (x.1.1) (x.1.2.1) (x.1.2.2.1)).wpR Q := by kernel_rfl
theorem acv (ok0 : cb → Bool) (g0_0 : cb → kj) (h0 : ∀ s : cb, ok0 s = true → ∃ m e, ay (wz) m s = some e ∧ (CR g0_0 s).run = some e) (pre : J0 → Bool) (F : J0 → OT iS.Y) (hF : ∀ (x : J0) oy, pre x = true → (F x).run = some oy → (VG ok0 g0_0 (x.1.1) (x.1.2.1) (x.1.2.2.1)).run = some oy) : aa Try.prog 93 (iS.aE pre F) :=
  az ak xS KO (f := 93) (fn := Try.f93) (c := aj Try.f93) (by kernel_rfl) (by kernel_rfl) (by kernel_rfl) (S := iS) (k := 0) (by kernel_rfl) (fun R hR => (aH (c := (aj Try.f93)) (by kernel_rfl) (id := 0) (by kernel_rfl) (bg ak xS KO (sh := wy) hR (xs := ZK) (aF (by kernel_rfl) (by kernel_rfl) hR) aS ae (n := 1000) (T := wz) (fun s Q => amN s Q) (ok := ok0) (f := CR g0_0) h0) ae)) (n := 1000) (sel := QX) (fun v o h => by cases h; rfl) (pre := pre) (F := F) (T := fun x => VG ok0 g0_0 (x.1.1) (x.1.2.1) (x.1.2.2.1)) (fun x Q => aq7 ok0 g0_0 x Q) hF
def iQ (n : Sm) : Bool := decide (n = dk 2) || decide (n = dk 3)
theorem gG {n : Sm} (h : iQ n = true) : n = dk 2 ∨ n = dk 3 := by
  simpa [iQ] using h
def alZ (n : Sm) : Nat := if n.2.2.2.1 == 11037532056220336127 then 15353493766103302224812374511606760489073247795810767472367693728416386214313 else 14238205147845459960272226733876560297615832660064601289232577236146637664127
theorem ah2 {n : Sm} (h : iQ n = true) : (n.1.nat * n.2.2.2.1.toNat + 1) % 18446744073709551616 = 0 := by
  rcases gG h with rfl | rfl <;> decide +kernel
theorem ah3 {n : Sm} (h : iQ n = true) : 115792089237316195423570985008687907853269984665640564039457584007913129639936 * alZ n % n.1.nat = 1 % n.1.nat := by
  rcases gG h with rfl | rfl <;> decide +kernel
theorem ah0 {n : Sm} (h : iQ n = true) : 2 * n.1.nat ≤ 115792089237316195423570985008687907853269984665640564039457584007913129639936 := by
  rcases gG h with rfl | rfl <;> decide +kernel
theorem at5 (n : Nat) : tab (l6 n) 6 0 = l6 n := rfl
theorem amw {n : Nat} (h : n / 18446744073709551616 / 18446744073709551616 / 18446744073709551616 / 18446744073709551616 / 18446744073709551616 / 18446744073709551616 = 0) :
    [UInt64.ofNat (n / 18446744073709551616), UInt64.ofNat (n / 18446744073709551616 / 18446744073709551616), UInt64.ofNat (n / 18446744073709551616 / 18446744073709551616 / 18446744073709551616),
      UInt64.ofNat (n / 18446744073709551616 / 18446744073709551616 / 18446744073709551616 / 18446744073709551616), UInt64.ofNat (n / 18446744073709551616 / 18446744073709551616 / 18446744073709551616 / 18446744073709551616 / 18446744073709551616), 0] = l6 (n / 18446744073709551616) := by
  unfold l6
  rw [h]
  rfl
theorem at7 (a b : Nat) : lay (l6 a) (l6 b) 6 0 = l6 b := sE rfl rfl
theorem aj6 (U : Nat) (neg : UInt64) : (List.getD (l6 U) 0 0 * neg).toNat = U * neg.toNat % 18446744073709551616 := by
  show (UInt64.ofNat U * neg).toNat = _
  rw [UInt64.toNat_mul, UInt64.toNat_ofNat', Nat.mul_mod, Nat.mod_mod, ← Nat.mul_mod]
theorem acu (b : af) (k : Nat) (hk : k < 4) (x0 x1 x2 x3 x5 x6 x7 x8 x9 x10 : UInt64) (x4 : Int) (c1 c2 : List UInt64) (T : Nat) (h1 : c1.length = 4) (hT : T < 2 * (af.mk x0 x1 x2 x3).nat)
    (hn : ((af.mk x0 x1 x2 x3).nat * x6.toNat + 1) % 18446744073709551616 = 0) (hp : 2 * (af.mk x0 x1 x2 x3).nat ≤ 115792089237316195423570985008687907853269984665640564039457584007913129639936) (ha : (elemOf c1).nat < (af.mk x0 x1 x2 x3).nat) :
    (MT b (k : Int) x0 x1 x2 x3 x4 x5 x6 x7 x8 x9 x10 c1 c2 (l6 T)).run = some (.inl (((), (), (), (), b, ((k + 1 : Nat) : Int), ()), ((x0, x1, x2, x3, x4, x5, x6, x7, x8, x9, x10, ()), c1, c2, l6 (DM (af.mk x0 x1 x2 x3).nat x6.toNat (elemOf c1).nat ((lst b).getD k 0).toNat T), ()))) := by
  have hlt := qQ (b := ((lst b).getD k 0).toNat) hn hT ha (UInt64.toNat_lt _)
  have heq := qR (a := (elemOf c1).nat) (b := ((lst b).getD k 0).toNat) (t := T) hn
  have hrd : DM (af.mk x0 x1 x2 x3).nat x6.toNat (elemOf c1).nat ((lst b).getD k 0).toNat T = (T + (elemOf c1).nat * ((lst b).getD k 0).toNat + (af.mk x0 x1 x2 x3).nat * ((T + (elemOf c1).nat * ((lst b).getD k 0).toNat) * x6.toNat % 18446744073709551616)) / 18446744073709551616 := rfl
  generalize hU : T + (elemOf c1).nat * ((lst b).getD k 0).toNat = U at heq hrd
  generalize hV : U + (af.mk x0 x1 x2 x3).nat * (U * x6.toNat % 18446744073709551616) = V at heq hrd
  generalize DM (af.mk x0 x1 x2 x3).nat x6.toNat (elemOf c1).nat ((lst b).getD k 0).toNat T = S at *
  have hVU : U ≤ V := by rw [← hV]; exact Nat.le_add_right _ _
  have hz1 : lay (l6 T) (l6 (v6 (tab (l6 T) 6 0) + af.nat { w0 := List.getD c1 0 0, w1 := List.getD c1 1 0, w2 := List.getD c1 2 0, w3 := List.getD c1 3 0 } * UInt64.toNat (List.getD [b.w0, b.w1, b.w2, b.w3] (Int.toNat (k : Int)) 0))) 6 0 = l6 U := by
    rw [at5, ase (by omega), at7, Int.toNat_natCast]
    exact congrArg l6 hU
  have hz3 : lay (l6 U) (l6 (v6 (tab (l6 U) 6 0) + af.nat { w0 := x0, w1 := x1, w2 := x2, w3 := x3 } * UInt64.toNat (List.getD (l6 U) 0 0 * x6))) 6 0 = l6 V := by
    rw [at5, ase (by omega), at7, aj6, hV]
  have hsh : _ = l6 (V / 18446744073709551616) := amw (n := V) (by omega)
  unfold MT
  simp only [hz1, hz3]
  refine (OT.aw (decide_eq_true (by omega))).trans ((ah ?_).trans ?_)
  · simp only [ahG, h1, List.all_cons, List.all_nil, Bool.and_true, Bool.and_eq_true]
    exact ⟨aI (by omega), rfl, rfl, rfl, rfl, rfl, rfl, rfl, rfl, rfl, rfl, rfl, rfl, aK (by omega)⟩
  · rw [hrd]
    exact congrArg (fun l => some (Sum.inl (((), (), (), (), b, ((k + 1 : Nat) : Int), ()), ((x0, x1, x2, x3, x4, x5, x6, x7, x8, x9, x10, ()), c1, c2, l, ())))) hsh
def ai2 (s : cb) : af := ⟨s.2.1.1, s.2.1.2.1, s.2.1.2.2.1, s.2.1.2.2.2.1⟩
def arI (s : cb) : UInt64 := s.2.1.2.2.2.2.2.2.1
def QY (s : cb) : Bool := decide (s.1.2.2.2.2.2.1 = 0 ∧ s.2.2.1.length = 4 ∧ s.2.2.2.2.1 = l6 0 ∧ ((ai2 s).nat * (arI s).toNat + 1) % 18446744073709551616 = 0 ∧ 2 * (ai2 s).nat ≤ 115792089237316195423570985008687907853269984665640564039457584007913129639936 ∧ (elemOf s.2.2.1).nat < (ai2 s).nat)
def MS (s : cb) : kj := (((), (), (), ()), (s.2.1, s.2.2.2.1, l6 (asU (ai2 s).nat (arI s).toNat (elemOf s.2.2.1).nat s.1.2.2.2.2.1), ()))
theorem amP : ∀ s : cb, QY s = true → ∃ m e, ay wz m s = some e ∧ (CR MS s).run = some e := by
  rintro ⟨⟨⟨⟩, ⟨⟩, ⟨⟩, ⟨⟩, b, i, ⟨⟩⟩, ⟨⟨x0, x1, x2, x3, x4, x5, x6, x7, x8, x9, x10, ⟨⟩⟩, c1, c2, c3, ⟨⟩⟩⟩ h
  have h' := of_decide_eq_true h
  dsimp only [ai2, arI] at h'
  obtain ⟨rfl, h1, rfl, hn, hp, ha⟩ := h'
  have := (aT (T := wz) (fun k T => ((((), (), (), (), b, (k : Int), ()), ((x0, x1, x2, x3, x4, x5, x6, x7, x8, x9, x10, ()), c1, c2, l6 T, ())) : cb)) (fun k T => DM (af.mk x0 x1 x2 x3).nat x6.toNat (elemOf c1).nat ((lst b).getD k 0).toNat T)
    (fun T => (⟨(.exit 0, rz), (((), (), (), ()), ((x0, x1, x2, x3, x4, x5, x6, x7, x8, x9, x10, ()), c2, l6 T, ()))⟩ : aJ)) 4 0 (fun _ T => T < 2 * (af.mk x0 x1 x2 x3).nat) (by omega) (fun k T hk hT => ⟨?_, ?_⟩) (fun T hT => ?_)).1
  · obtain ⟨m, hm⟩ := this
    exact ⟨m, _, hm, rfl⟩
  · exact acu b k hk x0 x1 x2 x3 x5 x6 x7 x8 x9 x10 x4 c1 c2 T h1 hT hn hp ha
  · exact qQ hn hT ha (UInt64.toNat_lt _)
  · exact OT.al (decide_eq_false (by dsimp only; omega))
def pA (x : J0) : Bool := iQ x.1.1 && Nat.blt x.1.2.1.nat x.1.1.1.nat
def aia (x : J0) : OT iS.Y := .ok ⟨ry, ((ofN (x.1.2.1.nat * x.1.2.2.1.nat * alZ x.1.1 % x.1.1.1.nat), ()), ())⟩
theorem amO : aa Try.prog 93 (iS.aE pA aia) := acv QY MS amP _ _ fun x oy hp ho => by
  rw [← ho]
  clear ho
  obtain ⟨⟨⟨⟨m0, m1, m2, m3⟩, ad, sm, neg, sq⟩, a, b, ⟨⟩⟩, ⟨⟩⟩ := x
  have hp' : (iQ (⟨m0, m1, m2, m3⟩, ad, sm, neg, sq) && Nat.blt a.nat (af.mk m0 m1 m2 m3).nat) = true := hp
  rw [Bool.and_eq_true] at hp'
  obtain ⟨hg, ha⟩ := hp'
  have ha := dB ha
  have hn : ((af.mk m0 m1 m2 m3).nat * neg.toNat + 1) % 18446744073709551616 = 0 := ah2 hg
  have h2 : 2 * (af.mk m0 m1 m2 m3).nat ≤ 115792089237316195423570985008687907853269984665640564039457584007913129639936 := ah0 hg
  have hr : 115792089237316195423570985008687907853269984665640564039457584007913129639936 * alZ (⟨m0, m1, m2, m3⟩, ad, sm, neg, sq) % (af.mk m0 m1 m2 m3).nat = 1 % (af.mk m0 m1 m2 m3).nat := ah3 hg
  have hM := amr (a := a.nat) (b := b) hn hr
  have hL := aqU (b := b) hn ha
  refine (ah ?_).trans ?_
  · simp only [List.all_cons, List.all_nil, Bool.and_true, Bool.and_eq_true]
    exact ⟨decide_eq_true ⟨rfl, rfl, rfl, hn, h2, ha⟩, rfl, rfl, rfl⟩
  · show _ = (OT.ok ⟨ry, ((ofN (a.nat * b.nat * alZ (⟨m0, m1, m2, m3⟩, ad, sm, neg, sq) % (af.mk m0 m1 m2 m3).nat), ()), ())⟩ : OT iS.Y).run
    rw [← hM, aqV hL]
    have e0 : MS (((), (), (), (), b, 0, ()), ((m0, m1, m2, m3, ad, sm, neg, sq.w0, sq.w1, sq.w2, sq.w3, ()), [a.w0, a.w1, a.w2, a.w3], [0, 0, 0, 0], [0, 0, 0, 0, 0, 0], ())) = (((), (), (), ()), ((m0, m1, m2, m3, ad, sm, neg, sq.w0, sq.w1, sq.w2, sq.w3, ()), [0, 0, 0, 0], l6 (asU (af.mk m0 m1 m2 m3).nat neg.toNat a.nat b), ())) := rfl
    dsimp only
    rw [e0]
    clear e0 hM
    generalize asU (af.mk m0 m1 m2 m3).nat neg.toNat a.nat b = M at *
    have e4 : List.getD (l6 M) 4 0 = 0 := by
      show UInt64.ofNat (M / 18446744073709551616 / 18446744073709551616 / 18446744073709551616 / 18446744073709551616) = 0
      rw [show M / 18446744073709551616 / 18446744073709551616 / 18446744073709551616 / 18446744073709551616 = 0 by omega]
      rfl
    refine (OT.al (by rw [e4]; rfl)).trans ?_
    have eN : (ofN M).nat = M := lB (by omega)
    by_cases hlt : M < (af.mk m0 m1 m2 m3).nat
    · rw [if_pos hlt]
      refine (OT.al ?_).trans ((ah rfl).trans rfl)
      show (!Nat.blt (ofN M).nat (af.mk m0 m1 m2 m3).nat) = false
      rw [eN, show Nat.blt M (af.mk m0 m1 m2 m3).nat = true from Nat.ble_eq_true_of_le hlt]
      rfl
    · rw [if_neg hlt]
      refine (OT.aw ?_).trans ((ah rfl).trans ?_)
      · show (!Nat.blt (ofN M).nat (af.mk m0 m1 m2 m3).nat) = true
        rw [eN]
        cases hb : Nat.blt M (af.mk m0 m1 m2 m3).nat
        · rfl
        · exact absurd (dB hb) hlt
      · have ew : (jn (ofN M) (af.mk m0 m1 m2 m3)).1 = ofN (M - (af.mk m0 m1 m2 m3).nat) := by
          apply tK
          rw [uY (by omega), eN, lB (by omega)]
        rw [← ew]
        rfl
def zV : bL := (iS.aE pA aia)
theorem VF : aa Try.prog 93 zV := amO
theorem VE : aB zV := ax
def Hc : Env := av 93 zV KP
theorem AW : aN Try.prog Hc := ag VF xS
theorem Cc : aq Hc := ab VE Hn
theorem W0 : aU Try.prog te Hc := aG follows ak AW Cc
def iT : ao := ⟨[.val true (.prod .elem (.prod .int (.prod .u64 (.prod .u64 .elem)))), .val true .elem, .val true .elem], [], true, 0, false⟩
abbrev J4 : Type := (((af × (Int × (UInt64 × (UInt64 × af))))) × (af) × (af) × Unit) × (Unit)
def nK : ar := ⟨[.val true .elem], [], false⟩
def Q9 : SV → Option ar := fun _ => some nK
def tW (a0 : (af × (Int × (UInt64 × (UInt64 × af))))) (a1 : af) (a2 : af) : OT iT.Y :=
  let z0 : Bool := !a0.snd.snd.fst == (0 : UInt64)
  let z1 : Nat := af.nat a0.fst
  let z2 : af := ofN (af.nat a1 % z1)
  let z3 : af := ofN (af.nat a2 % z1)
  let z4 : Nat := alZ a0
  let z5 : af := ofN (af.nat z2 * af.nat z3 * z4 % z1)
  (gd [k8 ((a0, a1, ()), ()), k8 ((a0, a2, ()), ())] (.br (z0)
  (gd [z0] (.ok ⟨nK, (({ w0 := z2.w0 * z3.w0 % a0.snd.snd.fst, w1 := 0, w2 := 0, w3 := 0 }, ()), ())⟩))
  (gd [pA ((a0, z2, z3, ()), ()), pA ((a0, z5, a0.snd.snd.snd.snd, ()), ())] (.ok ⟨nK, ((ofN (af.nat z5 * af.nat a0.snd.snd.snd.snd * z4 % z1), ()), ())⟩))))
theorem ark (x : J4) (Q : iT.Y → Prop) : wpf te Hc au 1000 Try.f78 (iT.inp.inj x).tm (iT.inp.inj x).hp (fnK iT Q9 Q) (fun _ _ => False) = (tW (x.1.1) (x.1.2.1) (x.1.2.2.1)).wpR Q := by kernel_rfl
theorem acH (pre : J4 → Bool) (F : J4 → OT iT.Y) (hF : ∀ (x : J4) oy, pre x = true → (F x).run = some oy → (tW (x.1.1) (x.1.2.1) (x.1.2.2.1)).run = some oy) : aa Try.prog 78 (iT.aE pre F) :=
  az ak AW W0 (f := 78) (fn := Try.f78) (c := aj Try.f78) (by kernel_rfl) (by kernel_rfl) (by kernel_rfl) (S := iT) (k := 0) (by kernel_rfl) (fun R hR => ae) (n := 1000) (sel := Q9) (fun v o h => by cases h; rfl) (pre := pre) (F := F) (T := fun x => tW (x.1.1) (x.1.2.1) (x.1.2.2.1)) (fun x Q => ark x Q) hF
theorem ahq {p A B r s : Nat} (h : r * s * r % p = 1 % p) : A * B * r % p * s * r % p = A * B % p := by
  have e : A * B * r * (s * r) = A * B * (r * s * r) := by
    rw [Nat.mul_assoc (A * B) r (s * r), Nat.mul_assoc r s r]
  rw [Nat.mul_assoc, Nat.mul_mod, Nat.mod_mod, ← Nat.mul_mod, e, Nat.mul_mod, h, ← Nat.mul_mod, Nat.mul_one]
theorem amI {n : Sm} (h : iQ n = true) : alZ n * n.2.2.2.2.nat * alZ n % n.1.nat = 1 % n.1.nat := by
  rcases gG h with rfl | rfl <;> decide +kernel
theorem as2 : iQ (dk 2) = true := by decide +kernel
theorem as1 : iQ (dk 3) = true := by decide +kernel
theorem ah1 {n : Sm} (h : iQ n = true) : Cr n = true := by
  rcases gG h with rfl | rfl <;> decide +kernel
theorem BA {n : Sm} {a b : af} {m : UInt64} (hn0 : Cr n = true) (h1 : n.1 = ⟨m, 0, 0, 0⟩) (h2 : n.2.2.1 = m) (hs : eQ m = true) : (tW n a b).run = some ⟨nK, ((wb n.1.nat a b, ()), ())⟩ := by
  have hm := jQ hs
  have hb' : m.toNat ≤ 16521217 := by rcases dx hs with rfl | rfl <;> decide
  have hn : n.1.nat = m.toNat := by rw [h1]; show m.toNat + _ * (0 + _ * (0 + _ * 0)) = _; omega
  have hz : (!(n.2.2.1 == 0)) = true := by
    rw [h2]
    rcases dx hs with rfl | rfl <;> rfl
  have ha := Nat.mod_lt a.nat hm
  have hb := Nat.mod_lt b.nat hm
  have hab : a.nat % m.toNat * (b.nat % m.toNat) < 18446744073709551616 := by
    have : a.nat % m.toNat * (b.nat % m.toNat) ≤ 16521217 * 16521217 := Nat.mul_le_mul (by omega) (by omega)
    omega
  have e : UInt64.ofNat (a.nat % m.toNat) * UInt64.ofNat (b.nat % m.toNat) % m = UInt64.ofNat (a.nat * b.nat % m.toNat) := by
    have hlt := Nat.mod_lt (a.nat * b.nat) hm
    rw [← UInt64.toNat_inj, UInt64.toNat_mod, UInt64.toNat_mul, UInt64.toNat_ofNat', UInt64.toNat_ofNat', UInt64.toNat_ofNat', Nat.mod_eq_of_lt (a := a.nat % m.toNat) (by omega), Nat.mod_eq_of_lt (a := b.nat % m.toNat) (by omega),
      Nat.mod_eq_of_lt (a := a.nat % m.toNat * (b.nat % m.toNat)) (by omega), Nat.mod_eq_of_lt (a := a.nat * b.nat % m.toNat) (by omega), ← Nat.mul_mod]
  have hlt := Nat.mod_lt (a.nat * b.nat) hm
  unfold tW
  refine (ah ?_).trans ((OT.aw hz).trans ((ah ?_).trans ?_))
  · simp only [List.all_cons, List.all_nil, Bool.and_true, Bool.and_eq_true]
    exact ⟨hn0, hn0⟩
  · simp only [hz, List.all_cons, List.all_nil, Bool.and_true]
  · unfold wb
    rw [hn, pf (n := a.nat * b.nat % m.toNat) (by omega), ← e]
    show some (⟨nK, ((⟨UInt64.ofNat (a.nat % m.toNat) * UInt64.ofNat (b.nat % m.toNat) % n.2.2.1, 0, 0, 0⟩, ()), ())⟩ : iT.Y) = _
    rw [h2]
theorem FF {n : Sm} {a b : af} (h : iQ n = true) (h2 : n.2.2.1 = 0) : (tW n a b).run = some ⟨nK, ((wb n.1.nat a b, ()), ())⟩ := by
  have hn0 := ah1 h
  have hp := EL hn0
  have hz : (!(n.2.2.1 == 0)) = false := by rw [h2]; rfl
  have e1 : (ofN (a.nat % n.1.nat)).nat = a.nat % n.1.nat := m9 hp
  have e2 : (ofN (b.nat % n.1.nat)).nat = b.nat % n.1.nat := m9 hp
  have e3 : (ofN (a.nat % n.1.nat * (b.nat % n.1.nat) * alZ n % n.1.nat)).nat = a.nat % n.1.nat * (b.nat % n.1.nat) * alZ n % n.1.nat := m9 hp
  unfold tW
  refine (ah ?_).trans ((OT.al hz).trans ((ah ?_).trans ?_))
  · simp only [List.all_cons, List.all_nil, Bool.and_true, Bool.and_eq_true]
    exact ⟨hn0, hn0⟩
  · simp only [List.all_cons, List.all_nil, Bool.and_true, Bool.and_eq_true, pA, h, true_and, e1, e2, e3]
    exact ⟨Nat.ble_eq_true_of_le (Nat.mod_lt _ hp.1), Nat.ble_eq_true_of_le (Nat.mod_lt _ hp.1)⟩
  · simp only [e1, e2, e3, ahq (amI h), wb, ← Nat.mul_mod]
    rfl
def FE (x : J4) : Bool := Cr x.1.1
def ain (x : J4) : OT iT.Y := .ok ⟨nK, ((wb x.1.1.1.nat x.1.2.1 x.1.2.2.1, ()), ())⟩
theorem amT : aa Try.prog 78 (iT.aE FE ain) := acH _ _ fun x oy hp ho => by
  rw [← ho]
  clear ho
  obtain ⟨⟨n, a, b, ⟨⟩⟩, ⟨⟩⟩ := x
  have hp' : Cr n = true := hp
  rcases tI hp' with rfl | rfl | rfl | rfl
  · exact BA hp' (m := 16513537) rfl rfl rfl
  · exact BA hp' (m := 16521217) rfl rfl rfl
  · exact FF as2 rfl
  · exact FF as1 rfl
def zW : bL := (iT.aE FE ain)
theorem VI : aa Try.prog 78 zW := amT
theorem VH : aB zW := ax
def Hh : Env := av 78 zW Hc
theorem AX : aN Try.prog Hh := ag VI AW
theorem Cd : aq Hh := ab VH Cc
theorem W1 : aU Try.prog te Hh := aG follows ak AX Cd
def pE : ao := ⟨[.val false .int, .val true .elem, .val true .elem], [], true, 0, false⟩
abbrev acG : Type := ((Int) × (af) × (af) × Unit) × (Unit)
def FD : ar := ⟨[.val true .elem], [], false⟩
def ZO : SV → Option ar := fun _ => some FD
def aim (a0 : Int) (a1 : af) (a2 : af) : OT pE.Y :=
  let z0 : af × Int × UInt64 × UInt64 × af := dk (Int.toNat a0)
  (.br (aA a0)
  (gd [FE ((z0, a1, a2, ()), ())] (.ok ⟨FD, ((wb (af.nat z0.fst) a1 a2, ()), ())⟩))
  (.ok ⟨FD, (({ w0 := 0, w1 := 0, w2 := 0, w3 := 0 }, ()), ())⟩))
theorem as8 (x : acG) (Q : pE.Y → Prop) : wpf te Hh au 1000 Try.f63 (pE.inp.inj x).tm (pE.inp.inj x).hp (fnK pE ZO Q) (fun _ _ => False) = (aim (x.1.1) (x.1.2.1) (x.1.2.2.1)).wpR Q := by kernel_rfl
theorem ail (pre : acG → Bool) (F : acG → OT pE.Y) (hF : ∀ (x : acG) oy, pre x = true → (F x).run = some oy → (aim (x.1.1) (x.1.2.1) (x.1.2.2.1)).run = some oy) : aa Try.prog 63 (pE.aE pre F) :=
  az ak AX W1 (f := 63) (fn := Try.f63) (c := aj Try.f63) (by kernel_rfl) (by kernel_rfl) (by kernel_rfl) (S := pE) (k := 0) (by kernel_rfl) (fun R hR => ae) (n := 1000) (sel := ZO) (fun v o h => by cases h; rfl) (pre := pre) (F := F) (T := fun x => aim (x.1.1) (x.1.2.1) (x.1.2.2.1)) (fun x Q => as8 x Q) hF
def ZP (_ : acG) : Bool := true
def aoh (x : acG) : OT pE.Y := .br (aA x.1.1) (.ok ⟨FD, ((wb (pS x.1.1) x.1.2.1 x.1.2.2.1, ()), ())⟩) (.ok ⟨FD, ((⟨0, 0, 0, 0⟩, ()), ())⟩)
theorem arj : aa Try.prog 63 (pE.aE ZP aoh) := ail _ _ fun x oy hp ho => by
  rw [← ho]
  clear ho
  obtain ⟨⟨s, a, b, ⟨⟩⟩, ⟨⟩⟩ := x
  cases hs : aA s
  · exact (OT.al hs).trans (OT.al (b := aA s) hs).symm
  · refine (OT.aw hs).trans ((ah ?_).trans (OT.aw (b := aA s) hs).symm)
    simp only [List.all_cons, List.all_nil, Bool.and_true]
    exact CO hs
def FC : bL := (pE.aE ZP aoh)
theorem acF : aa Try.prog 63 FC := arj
theorem acE : aB FC := ax
def SQ : Env := av 63 FC Hh
theorem Hf : aN Try.prog SQ := ag acF AX
theorem Hg : aq SQ := ab acE Cd
theorem adK : aU Try.prog te SQ := aG follows ak Hf Hg
def kl : ao := ⟨[.val true .elem], [], true, 0, false⟩
abbrev J6 : Type := ((af) × Unit) × (Unit)
def M3 : ar := ⟨[.val true .elem], [], false⟩
def Rc : SV → Option ar := fun _ => some M3
def VM (a0 : af) : OT kl.Y :=
  (.ok ⟨M3, (({ w0 := aX a0.w0 (1 : Int) ||| bH a0.w1 (63 : Int), w1 := aX a0.w1 (1 : Int) ||| bH a0.w2 (63 : Int), w2 := aX a0.w2 (1 : Int) ||| bH a0.w3 (63 : Int), w3 := aX a0.w3 (1 : Int) }, ()), ())⟩)
theorem arm (x : J6) (Q : kl.Y → Prop) : wpf te SQ au 1000 Try.f89 (kl.inp.inj x).tm (kl.inp.inj x).hp (fnK kl Rc Q) (fun _ _ => False) = (VM (x.1.1)).wpR Q := by kernel_rfl
theorem acL (pre : J6 → Bool) (F : J6 → OT kl.Y) (hF : ∀ (x : J6) oy, pre x = true → (F x).run = some oy → (VM (x.1.1)).run = some oy) : aa Try.prog 89 (kl.aE pre F) :=
  az ak Hf adK (f := 89) (fn := Try.f89) (c := aj Try.f89) (by kernel_rfl) (by kernel_rfl) (by kernel_rfl) (S := kl) (k := 0) (by kernel_rfl) (fun R hR => ae) (n := 1000) (sel := Rc) (fun v o h => by cases h; rfl) (pre := pre) (F := F) (T := fun x => VM (x.1.1)) (fun x Q => arm x Q) hF
theorem Fg (x y : UInt64) : (aX x 1 ||| bH y 63).toNat = x.toNat / 2 + 9223372036854775808 * (y.toNat % 2) := by
  have hx := x.toNat_lt
  have e1 : (aX x 1).toNat = x.toNat / 2 := eD x 1 (by omega)
  have e2 : (bH y 63).toNat = 9223372036854775808 * (y.toNat % 2) := by
    have := jR y 63 (by omega)
    have e : (bH y 63).toNat = y.toNat * 2 ^ 63 % 2 ^ 64 := this
    rw [e]
    omega
  rw [UInt64.toNat_or, e1, e2, Nat.or_comm]
  have := Nat.two_pow_add_eq_or_of_lt (i := 63) (b := x.toNat / 2) (by omega) (y.toNat % 2)
  rw [Nat.add_comm]
  exact this.symm
theorem Fh (x N : Nat) : (x + 18446744073709551616 * N) / 2 = (x / 2 + 9223372036854775808 * (N % 2)) + 18446744073709551616 * (N / 2) := by
  omega
theorem ahw (y N : Nat) : (y + 18446744073709551616 * N) % 2 = y % 2 := by
  omega
def as0 (a : af) : af := ofN (a.nat / 2)
theorem amH (a : af) : as0 a = ⟨aX a.w0 1 ||| bH a.w1 63, aX a.w1 1 ||| bH a.w2 63, aX a.w2 1 ||| bH a.w3 63, aX a.w3 1⟩ := by
  refine ahj (k := 0) ?_
  rw [Fg, Fg, Fg, Nat.mul_zero, Nat.add_zero]
  unfold Sx.af.nat
  have e3 : (aX a.w3 1).toNat = a.w3.toNat / 2 := eD a.w3 1 (by omega)
  rw [Fh, ahw, Fh, ahw, Fh, e3]
def Rd (_ : J6) : Bool := true
def VN (x : J6) : OT kl.Y := .ok ⟨M3, ((as0 x.1.1, ()), ())⟩
theorem amU : aa Try.prog 89 (kl.aE Rd VN) := acL _ _ fun x oy hp ho => by
  rw [← ho]
  clear ho
  obtain ⟨⟨a, ⟨⟩⟩, ⟨⟩⟩ := x
  simp only [VN, amH]
  rfl
def zX : bL := (kl.aE Rd VN)
theorem VL : aa Try.prog 89 zX := amU
theorem VK : aB zX := ax
def Hk : Env := av 89 zX SQ
theorem AZ : aN Try.prog Hk := ag VL Hf
theorem Ce : aq Hk := ab VK Hg
theorem W2 : aU Try.prog te Hk := aG follows ak AZ Ce
end Go.Proofs.Ytohjofabochgfaa

namespace Go.Proofs.Ytohjofabochgfaa
open Sx Go
def aj1 (k : af) : Bool := (k.w0 == 0 && (k.w1 == 0 && (k.w2 == 0 && (k.w3 == 0 && true))))
end Go.Proofs.Ytohjofabochgfaa

namespace Go.Proofs.Ytohjofabochgfaa
open Sx Go
set_option maxRecDepth 100000
def gN : ao := ⟨[.val false .int], [], true, 0, false⟩
abbrev Ad : Type := ((Int) × Unit) × (Unit)
def gM : ar := ⟨[.val true .elem, .val false .bool], [], false⟩
def Kk : SV → Option ar := fun _ => some gM
def Nk (a0 : Int) : OT gN.Y :=
  let z0 : af := { w0 := 5, w1 := 0, w2 := 0, w3 := 0 }
  let z1 : af := { w0 := 0, w1 := 0, w2 := 0, w3 := 0 }
  (.br (a0 == (0 : Int))
  (.ok ⟨gM, (({ w0 := 23, w1 := 0, w2 := 0, w3 := 0 }, (true, ())), ())⟩)
  (.br (a0 == (1 : Int))
    (.ok ⟨gM, (({ w0 := 21, w1 := 0, w2 := 0, w3 := 0 }, (true, ())), ())⟩)
    (.br (a0 == (2 : Int))
      (.br (a0 == (2 : Int))
        (.ok ⟨gM, ((z0, (true, ())), ())⟩)
        (.ok ⟨gM, ((z1, (false, ())), ())⟩))
      (.br (a0 == (3 : Int))
        (.ok ⟨gM, ((z0, (true, ())), ())⟩)
        (.ok ⟨gM, ((z1, (false, ())), ())⟩)))))
theorem ana (x : Ad) (Q : gN.Y → Prop) : wpf te Hk au 1000 Try.f59 (gN.inp.inj x).tm (gN.inp.inj x).hp (fnK gN Kk Q) (fun _ _ => False) = (Nk (x.1.1)).wpR Q := by kernel_rfl
theorem V6 (pre : Ad → Bool) (F : Ad → OT gN.Y) (hF : ∀ (x : Ad) oy, pre x = true → (F x).run = some oy → (Nk (x.1.1)).run = some oy) : aa Try.prog 59 (gN.aE pre F) :=
  az ak AZ W2 (f := 59) (fn := Try.f59) (c := aj Try.f59) (by kernel_rfl) (by kernel_rfl) (by kernel_rfl) (S := gN) (k := 0) (by kernel_rfl) (fun R hR => ae) (n := 1000) (sel := Kk) (fun v o h => by cases h; rfl) (pre := pre) (F := F) (T := fun x => Nk (x.1.1)) (fun x Q => ana x Q) hF
def bOf : Nat → af
  | 0 => ⟨23, 0, 0, 0⟩
  | 1 => ⟨21, 0, 0, 0⟩
  | _ => ⟨5, 0, 0, 0⟩
abbrev bS (s : Int) : af := bOf s.toNat
def Kl (_ : Ad) : Bool := true
def Z9 (x : Ad) : OT gN.Y := .br (aA x.1.1) (.ok ⟨gM, ((bS x.1.1, (true, ())), ())⟩) (.ok ⟨gM, ((⟨0, 0, 0, 0⟩, (false, ())), ())⟩)
theorem ai0 : aa Try.prog 59 (gN.aE Kl Z9) := V6 _ _ fun x oy _ ho => by
  rw [← ho]
  clear ho
  obtain ⟨⟨s, ⟨⟩⟩, ⟨⟩⟩ := x
  cases hs : aA s
  · obtain ⟨h0, h1, h2, h3⟩ := qN hs
    exact (OT.al h0).trans ((OT.al h1).trans ((OT.al h2).trans ((OT.al h3).trans (OT.al (b := aA s) hs).symm)))
  · rcases cC hs with h | h | h | h
    all_goals
      have h : s = _ := h
      subst h
      rfl
def uc : bL := (gN.aE Kl Z9)
theorem RB : aa Try.prog 59 uc := ai0
theorem RA : aB uc := ax
def xX : Env := av 59 uc Hk
theorem uJ : aN Try.prog xX := ag RB AZ
theorem xW : aq xX := ab RA Ce
theorem SU : aU Try.prog te xX := aG follows ak uJ xW
def pP : ao := ⟨[], [], true, 0, false⟩
abbrev ac7 : Type := (Unit) × (Unit)
def V0 : ar := ⟨[.val true (.prod .elem (.prod .elem .bool))], [], false⟩
def Z6 : SV → Option ar := fun _ => some V0
def aiV : OT pP.Y :=
  let z0 : af := { w0 := 0, w1 := 0, w2 := 0, w3 := 0 }
  (.ok ⟨V0, (((z0, z0, true), ()), ())⟩)
theorem atn (x : ac7) (Q : pP.Y → Prop) : wpf te xX au 1000 Try.f60 (pP.inp.inj x).tm (pP.inp.inj x).hp (fnK pP Z6 Q) (fun _ _ => False) = (aiV).wpR Q := by kernel_rfl
theorem aiU (pre : ac7 → Bool) (F : ac7 → OT pP.Y) (hF : ∀ (x : ac7) oy, pre x = true → (F x).run = some oy → (aiV).run = some oy) : aa Try.prog 60 (pP.aE pre F) :=
  az ak uJ SU (f := 60) (fn := Try.f60) (c := aj Try.f60) (by kernel_rfl) (by kernel_rfl) (by kernel_rfl) (S := pP) (k := 0) (by kernel_rfl) (fun R hR => ae) (n := 1000) (sel := Z6) (fun v o h => by cases h; rfl) (pre := pre) (F := F) (T := fun x => aiV) (fun x Q => atn x Q) hF
def aoa : af × (af × Bool) := (⟨0, 0, 0, 0⟩, ⟨0, 0, 0, 0⟩, true)
def Z7 (_ : ac7) : Bool := true
def aok (_ : ac7) : OT pP.Y := .ok ⟨V0, ((aoa, ()), ())⟩
theorem arG : aa Try.prog 60 (pP.aE Z7 aok) := aiU _ _ fun x oy _ ho => ho
def FZ : bL := (pP.aE Z7 aok)
theorem ac6 : aa Try.prog 60 FZ := arG
theorem ac5 : aB FZ := ax
def SS : Env := av 60 FZ xX
theorem Ho : aN Try.prog SS := ag ac6 uJ
theorem Hq : aq SS := ab ac5 xW
theorem adL : aU Try.prog te SS := aG follows ak Ho Hq
def ko : ao := ⟨[.val false .int, .val true .elem, .val true .elem], [], true, 0, false⟩
abbrev Kj : Type := ((Int) × (af) × (af) × Unit) × (Unit)
def im : ar := ⟨[.val true .elem], [], false⟩
def Rz : SV → Option ar := fun _ => some im
def V5 (a0 : Int) (a1 : af) (a2 : af) : OT ko.Y :=
  let z0 : Bool := aA a0
  let z1 : Nat := pS a0
  let z2 : af := { w0 := 0, w1 := 0, w2 := 0, w3 := 0 }
  let z3 : af := su z1 z2 a2
  (.br (z0)
  (.br (z0)
    (.br (z0)
      (.ok ⟨im, ((su z1 (wb z1 (wb z1 a1 a1) a1) a2, ()), ())⟩)
      (.ok ⟨im, ((z2, ()), ())⟩))
    (.br (z0)
      (.ok ⟨im, ((z3, ()), ())⟩)
      (.ok ⟨im, ((z2, ()), ())⟩)))
  (.br (z0)
    (.br (z0)
      (.ok ⟨im, ((su z1 (wb z1 z2 a1) a2, ()), ())⟩)
      (.ok ⟨im, ((z2, ()), ())⟩))
    (.br (z0)
      (.ok ⟨im, ((z3, ()), ())⟩)
      (.ok ⟨im, ((z2, ()), ())⟩))))
theorem arH (x : Kj) (Q : ko.Y → Prop) : wpf te SS au 1000 Try.f64 (ko.inp.inj x).tm (ko.inp.inj x).hp (fnK ko Rz Q) (fun _ _ => False) = (V5 (x.1.1) (x.1.2.1) (x.1.2.2.1)).wpR Q := by kernel_rfl
theorem ac9 (pre : Kj → Bool) (F : Kj → OT ko.Y) (hF : ∀ (x : Kj) oy, pre x = true → (F x).run = some oy → (V5 (x.1.1) (x.1.2.1) (x.1.2.2.1)).run = some oy) : aa Try.prog 64 (ko.aE pre F) :=
  az ak Ho adL (f := 64) (fn := Try.f64) (c := aj Try.f64) (by kernel_rfl) (by kernel_rfl) (by kernel_rfl) (S := ko) (k := 0) (by kernel_rfl) (fun R hR => ae) (n := 1000) (sel := Rz) (fun v o h => by cases h; rfl) (pre := pre) (F := F) (T := fun x => V5 (x.1.1) (x.1.2.1) (x.1.2.2.1)) (fun x Q => arH x Q) hF
def Rq (p : Nat) (x b : af) : af := su p (wb p (wb p x x) x) b
def F2 (x : Kj) : Bool := aA x.1.1
def aiZ (x : Kj) : OT ko.Y := .ok ⟨im, ((Rq (pS x.1.1) x.1.2.1 x.1.2.2.1, ()), ())⟩
theorem am9 : aa Try.prog 64 (ko.aE F2 aiZ) := ac9 _ _ fun x oy hp ho => by
  rw [← ho]
  clear ho
  obtain ⟨⟨s, a, b, ⟨⟩⟩, ⟨⟩⟩ := x
  have hs : aA s = true := hp
  exact (OT.aw hs).trans ((OT.aw hs).trans ((OT.aw hs).trans rfl))
def Ac : bL := (ko.aE F2 aiZ)
theorem V4 : aa Try.prog 64 Ac := am9
theorem V3 : aB Ac := ax
def Hs : Env := av 64 Ac SS
theorem A2 : aN Try.prog Hs := ag V4 Ho
theorem Cg : aq Hs := ab V3 Hq
theorem W4 : aU Try.prog te Hs := aG follows ak A2 Cg
def Ct : ao := ⟨[.val false .int, .val true (.prod .elem (.prod .elem .bool))], [], true, 0, false⟩
abbrev ar7 : Type := ((Int) × ((af × (af × Bool))) × Unit) × (Unit)
def sJ : ar := ⟨[.val false .bool], [], false⟩
def aiP : SV → Option ar := fun _ => some sJ
def arD (a0 : Int) (a1 : (af × (af × Bool))) : OT Ct.Y :=
  let z0 : Bool := aA a0
  let z1 : Nat := af.nat (dk (Int.toNat a0)).fst
  let z2 : af := bS a0
  let z3 : Bool := F2 ((a0, a1.fst, z2, ()), ())
  let z4 : Nat := pS a0
  let z5 : af := wb z4 a1.snd.fst a1.snd.fst
  let z6 : af := Rq z4 a1.fst z2
  let z7 := z6.w0
  let z8 := z6.w1
  let z9 := z6.w2
  let z10 := z6.w3
  (.br (z0)
  (.br (a1.snd.snd)
    (.ok ⟨sJ, ((a1.fst.w0 == (0 : UInt64) && (a1.fst.w1 == (0 : UInt64) && (a1.fst.w2 == (0 : UInt64) && (a1.fst.w3 == (0 : UInt64) && true))) && (a1.snd.fst.w0 == (0 : UInt64) && (a1.snd.fst.w1 == (0 : UInt64) && (a1.snd.fst.w2 == (0 : UInt64) && (a1.snd.fst.w3 == (0 : UInt64) && true))) && (a1.snd.snd == true && true)), ()), ())⟩)
    (.br (z0)
      (.br (Nat.blt (af.nat a1.fst) z1)
        (.br (Nat.blt (af.nat a1.snd.fst) z1)
          (.br (z0)
            (gd [z3] (.ok ⟨sJ, ((z5.w0 == z7 && (z5.w1 == z8 && (z5.w2 == z9 && (z5.w3 == z10 && true))), ()), ())⟩))
            (gd [z3] (.ok ⟨sJ, (((0 : UInt64) == z7 && ((0 : UInt64) == z8 && ((0 : UInt64) == z9 && ((0 : UInt64) == z10 && true))), ()), ())⟩)))
          (.ok ⟨sJ, ((false, ()), ())⟩))
        (.ok ⟨sJ, ((false, ()), ())⟩))
      (.ok ⟨sJ, ((false, ()), ())⟩)))
  (.ok ⟨sJ, ((false, ()), ())⟩))
theorem atW (x : ar7) (Q : Ct.Y → Prop) : wpf te Hs au 1000 Try.f36 (Ct.inp.inj x).tm (Ct.inp.inj x).hp (fnK Ct aiP Q) (fun _ _ => False) = (arD (x.1.1) (x.1.2.1)).wpR Q := by kernel_rfl
theorem am6 (pre : ar7 → Bool) (F : ar7 → OT Ct.Y) (hF : ∀ (x : ar7) oy, pre x = true → (F x).run = some oy → (arD (x.1.1) (x.1.2.1)).run = some oy) : aa Try.prog 36 (Ct.aE pre F) :=
  az ak A2 W4 (f := 36) (fn := Try.f36) (c := aj Try.f36) (by kernel_rfl) (by kernel_rfl) (by kernel_rfl) (S := Ct) (k := 0) (by kernel_rfl) (fun R hR => ae) (n := 1000) (sel := aiP) (fun v o h => by cases h; rfl) (pre := pre) (F := F) (T := fun x => arD (x.1.1) (x.1.2.1)) (fun x Q => atW x Q) hF
def eqE (a b : af) : Bool := (a.w0 == b.w0 && (a.w1 == b.w1 && (a.w2 == b.w2 && (a.w3 == b.w3 && true))))
theorem tZ {a b : af} : eqE a b = true ↔ a = b := by
  obtain ⟨a0, a1, a2, a3⟩ := a
  obtain ⟨b0, b1, b2, b3⟩ := b
  simp [eqE]
theorem ZZ (a : af) : eqE a a = true := tZ.2 rfl
theorem arw (a b : af) : eqE a b = Nat.beq a.nat b.nat := by
  cases h : eqE a b
  · cases hb : Nat.beq a.nat b.nat
    · rfl
    · rw [tZ.2 (tK (Nat.eq_of_beq_eq_true hb))] at h
      cases h
  · rw [tZ.1 h]
    exact (Nat.beq_refl _).symm
abbrev Pt : Type := af × (af × Bool)
def onB (c : Int) (P : Pt) : Bool := cond (aA c) (cond P.2.2 (aj1 P.1 && (aj1 P.2.1 && (P.2.2 == true && true)))
  (cond (Nat.blt P.1.nat (pS c)) (cond (Nat.blt P.2.1.nat (pS c)) (eqE (wb (pS c) P.2.1 P.2.1) (Rq (pS c) P.1 (bS c))) false) false)) false
def aiQ (_ : ar7) : Bool := true
def atl (x : ar7) : OT Ct.Y := .ok ⟨sJ, ((onB x.1.1 x.1.2.1, ()), ())⟩
theorem atk : aa Try.prog 36 (Ct.aE aiQ atl) := am6 _ _ fun x oy _ ho => by
  rw [← ho]
  clear ho
  obtain ⟨⟨c, ⟨X, Y, i⟩, ⟨⟩⟩, ⟨⟩⟩ := x
  show _ = (OT.ok ⟨sJ, ((onB c (X, Y, i), ()), ())⟩ : OT Ct.Y).run
  unfold onB
  cases hs : aA c
  · exact OT.al hs
  · refine (OT.aw hs).trans ?_
    cases i
    · refine (OT.al rfl).trans ((OT.aw hs).trans ?_)
      cases hx : Nat.blt X.nat (pS c)
      · exact OT.al hx
      · refine (OT.aw hx).trans ?_
        cases hy : Nat.blt Y.nat (pS c)
        · exact OT.al hy
        · refine (OT.aw hy).trans ((OT.aw hs).trans ((ah ?_).trans rfl))
          simp only [List.all_cons, List.all_nil, Bool.and_true]
          exact hs
    · exact OT.aw rfl
theorem Zh {c : Int} {P : Pt} (h : onB c P = true) : aA c = true := by
  unfold onB at h
  cases hs : aA c
  · rw [hs] at h; cases h
  · rfl
def Ng : bL := (Ct.aE aiQ atl)
theorem aiR : aa Try.prog 36 Ng := atk
theorem aiO : aB Ng := ax
def ajV : Env := av 36 Ng Hs
theorem Oa : aN Try.prog ajV := ag aiR A2
theorem KQ : aq ajV := ab aiO Cg
theorem ajU : aU Try.prog te ajV := aG follows ak Oa KQ
def gn : ao := ⟨[.val false .int], [], true, 0, false⟩
abbrev Bn : Type := ((Int) × Unit) × (Unit)
def jd : ar := ⟨[.val true .elem, .val false .int], [], false⟩
def PP : SV → Option ar := fun _ => some jd
def UK (a0 : Int) : OT gn.Y :=
  (.br (a0 == (0 : Int))
  (.ok ⟨jd, (({ w0 := 16513537, w1 := 0, w2 := 0, w3 := 0 }, ((0 : Int), ())), ())⟩)
  (.br (a0 == (1 : Int))
    (.ok ⟨jd, (({ w0 := 16521217, w1 := 0, w2 := 0, w3 := 0 }, ((0 : Int), ())), ())⟩)
    (.br (a0 == (2 : Int))
      (.ok ⟨jd, (({ w0 := 11037532056220336129, w1 := 2469829653914515739, w2 := 0, w3 := 4611686018427387904 }, ((0 : Int), ())), ())⟩)
      (.br (a0 == (3 : Int))
        (.ok ⟨jd, (({ w0 := 10108024940646105089, w1 := 2469829653919213789, w2 := 0, w3 := 4611686018427387904 }, ((0 : Int), ())), ())⟩)
        (.ok ⟨jd, (({ w0 := 0, w1 := 0, w2 := 0, w3 := 0 }, ((20 : Int), ())), ())⟩)))))
theorem aqC (x : Bn) (Q : gn.Y → Prop) : wpf te ajV au 1000 Try.f40 (gn.inp.inj x).tm (gn.inp.inj x).hp (fnK gn PP Q) (fun _ _ => False) = (UK (x.1.1)).wpR Q := by kernel_rfl
theorem abv (pre : Bn → Bool) (F : Bn → OT gn.Y) (hF : ∀ (x : Bn) oy, pre x = true → (F x).run = some oy → (UK (x.1.1)).run = some oy) : aa Try.prog 40 (gn.aE pre F) :=
  az ak Oa ajU (f := 40) (fn := Try.f40) (c := aj Try.f40) (by kernel_rfl) (by kernel_rfl) (by kernel_rfl) (S := gn) (k := 0) (by kernel_rfl) (fun R hR => ae) (n := 1000) (sel := PP) (fun v o h => by cases h; rfl) (pre := pre) (F := F) (T := fun x => UK (x.1.1)) (fun x Q => aqC x Q) hF
def PQ (_ : Bn) : Bool := true
def agU (x : Bn) : OT gn.Y := .br (aA x.1.1) (.ok ⟨jd, (((dk x.1.1.toNat).1, ((0 : Int), ())), ())⟩) (.ok ⟨jd, ((⟨0, 0, 0, 0⟩, ((20 : Int), ())), ())⟩)
theorem Za : aa Try.prog 40 (gn.aE PQ agU) := abv _ _ fun x oy _ ho => by
  rw [← ho]
  clear ho
  obtain ⟨⟨s, ⟨⟩⟩, ⟨⟩⟩ := x
  cases hs : aA s
  · obtain ⟨h0, h1, h2, h3⟩ := qN hs
    exact (OT.al h0).trans ((OT.al h1).trans ((OT.al h2).trans ((OT.al h3).trans (OT.al (b := aA s) hs).symm)))
  · rcases cC hs with h | h | h | h
    all_goals
      have h : s = _ := h
      subst h
      rfl
def zi : bL := (gn.aE PQ agU)
theorem UJ : aa Try.prog 40 zi := Za
theorem UI : aB zi := ax
def GZ : Env := av 40 zi ajV
theorem AM : aN Try.prog GZ := ag UJ Oa
theorem B0 : aq GZ := ab UI KQ
theorem WU : aU Try.prog te GZ := aG follows ak AM B0
def iM : ao := ⟨[.val false .int], [], true, 0, false⟩
abbrev Jd : Type := ((Int) × Unit) × (Unit)
def vX : ar := ⟨[.val false .u64], [], false⟩
def PS : SV → Option ar := fun _ => some vX
def UN (a0 : Int) : OT iM.Y :=
  (.br (a0 == (0 : Int))
  (.ok ⟨vX, (((16513537 : UInt64), ()), ())⟩)
  (.ok ⟨vX, (((16521217 : UInt64), ()), ())⟩))
theorem aqD (x : Jd) (Q : iM.Y → Prop) : wpf te GZ au 1000 Try.f39 (iM.inp.inj x).tm (iM.inp.inj x).hp (fnK iM PS Q) (fun _ _ => False) = (UN (x.1.1)).wpR Q := by kernel_rfl
theorem abA (pre : Jd → Bool) (F : Jd → OT iM.Y) (hF : ∀ (x : Jd) oy, pre x = true → (F x).run = some oy → (UN (x.1.1)).run = some oy) : aa Try.prog 39 (iM.aE pre F) :=
  az ak AM WU (f := 39) (fn := Try.f39) (c := aj Try.f39) (by kernel_rfl) (by kernel_rfl) (by kernel_rfl) (S := iM) (k := 0) (by kernel_rfl) (fun R hR => ae) (n := 1000) (sel := PS) (fun v o h => by cases h; rfl) (pre := pre) (F := F) (T := fun x => UN (x.1.1)) (fun x Q => aqD x Q) hF
def Of (s : Int) : UInt64 := cond (s == 0) 16513537 16521217
def PT (_ : Jd) : Bool := true
def agW (x : Jd) : OT iM.Y := .ok ⟨vX, ((Of x.1.1, ()), ())⟩
theorem amc : aa Try.prog 39 (iM.aE PT agW) := abA _ _ fun x oy _ ho => by
  rw [← ho]
  clear ho
  obtain ⟨⟨s, ⟨⟩⟩, ⟨⟩⟩ := x
  show _ = (OT.ok ⟨vX, ((Of s, ()), ())⟩ : OT iM.Y).run
  unfold Of
  rcases (Bool.eq_false_or_eq_true (s == 0)).symm with h | h
  · rw [h]; exact OT.al h
  · rw [h]; exact OT.aw h
def zk : bL := (iM.aE PT agW)
theorem UM : aa Try.prog 39 zk := amc
theorem UL : aB zk := ax
def AN : Env := av 39 zk GZ
theorem sb : aN Try.prog AN := ag UM AM
theorem B1 : aq AN := ab UL B0
theorem G0 : aU Try.prog te AN := aG follows ak sb B1
def dL : ao := ⟨[.val true .elem, .val true .elem], [], true, 0, false⟩
abbrev q9 : Type := ((af) × (af) × Unit) × (Unit)
def lZ : Shape := ⟨24, [(2, .ptr 0 0 0), (3, .ptr 1 0 0), (5, .val false .int)], [(0, .row .u64), (1, .row .u64)], 0, true⟩
abbrev aP : Type := ((Unit) × (Unit) × (Int) × Unit) × ((List (UInt64)) × (List (UInt64)) × Unit)
def iD : Shape := ⟨24, [(4, .val false .bool)], [], 0, true⟩
abbrev gr : Type := ((Bool) × Unit) × (Unit)
def kR : Shape := ⟨24, [], [], 0, true⟩
abbrev gu : Type := (Unit) × (Unit)
def Jf : SE → Option Shape := iX [(0, kR)] (some iD)
def abF (a5 : Int) (c0 : List (UInt64)) (c1 : List (UInt64)) : OT (Sum aP aJ) :=
  let z0 : Bool := inB a5 4
  let z1 : Bool := decide (Int.toNat a5 + 0 < List.length c0)
  let z2 : Bool := decide (Int.toNat a5 + 0 < List.length c1)
  let z3 : UInt64 := List.getD c0 (Int.toNat a5 + 0) (0 : UInt64)
  let z4 : UInt64 := List.getD c1 (Int.toNat a5 + 0) (0 : UInt64)
  (.br (decide ((0 : Int) ≤ a5))
  (gd [z0, z1, z0, z2] (.br (!z3 == z4)
    (gd [z0, z1, z0, z2] (.ok (.inr ⟨(.ret, iD), ((decide (z3 < z4), ()), ())⟩)))
    (gd [inR (a5 - (1 : Int))] (.ok (.inl (((), ((), (a5 - (1 : Int), ()))), (c0, (c1, ()))))))))
  (.ok (.inr ⟨(.exit 0, kR), ((), ())⟩)))
def ff (s : aP) : OT (Sum aP aJ) := abF (s.1.2.2.1) (s.2.1) (s.2.2.1)
theorem abC (s : aP) (Q : Sum aP aJ → Prop) : wps te AN au 1000 (bq (aj Try.f41) 0) (lZ.inj s) (cE lZ Jf (Q : Sum lZ.T aJ → Prop)) = (ff s).wpR Q := by kernel_rfl
def l5 (g0_r : aP → gr) (c0_r : aP → Bool) (g0_0 : aP → gu) (s : aP) : OT aJ := (.br (c0_r s) (.ok ⟨(.ret, iD), g0_r s⟩) (.ok ⟨(.exit 0, kR), g0_0 s⟩))
def jr : ar := ⟨[.val false .bool], [], false⟩
def Eo : SV → Option ar := fun _ => some jr
def Es (ok0 : aP → Bool) (g0_r : aP → gr) (c0_r : aP → Bool) (g0_0 : aP → gu) (a0 : af) (a1 : af) : OT dL.Y :=
  let z0 : (PUnit × PUnit × Int × PUnit) × List UInt64 × List UInt64 × PUnit := (((), (), (3 : Int), ()), [a0.w0, a0.w1, a0.w2, a0.w3], [a1.w0, a1.w1, a1.w2, a1.w3], ())
  (gd [ok0 z0] (.br (c0_r z0)
  (.ok ⟨jr, (((g0_r z0).fst.fst, ()), ())⟩)
  (.ok ⟨jr, ((false, ()), ())⟩)))
theorem agX (ok0 : aP → Bool) (g0_r : aP → gr) (c0_r : aP → Bool) (g0_0 : aP → gu) (x : q9) (Q : dL.Y → Prop) : wpf te AN (bj 0 (cS lZ 0 ok0 (l5 g0_r c0_r g0_0)) au) 1000 Try.f41 (dL.inp.inj x).tm (dL.inp.inj x).hp (fnK dL Eo Q) (fun _ _ => False) = (Es ok0 g0_r c0_r g0_0 (x.1.1) (x.1.2.1)).wpR Q := by kernel_rfl
theorem PU (ok0 : aP → Bool) (g0_r : aP → gr) (c0_r : aP → Bool) (g0_0 : aP → gu) (h0 : ∀ s : aP, ok0 s = true → ∃ m e, ay (ff) m s = some e ∧ (l5 g0_r c0_r g0_0 s).run = some e) (pre : q9 → Bool) (F : q9 → OT dL.Y) (hF : ∀ (x : q9) oy, pre x = true → (F x).run = some oy → (Es ok0 g0_r c0_r g0_0 (x.1.1) (x.1.2.1)).run = some oy) : aa Try.prog 41 (dL.aE pre F) :=
  az ak sb G0 (f := 41) (fn := Try.f41) (c := aj Try.f41) (by kernel_rfl) (by kernel_rfl) (by kernel_rfl) (S := dL) (k := 0) (by kernel_rfl) (fun R hR => (aH (c := (aj Try.f41)) (by kernel_rfl) (id := 0) (by kernel_rfl) (bg ak sb G0 (sh := lZ) hR (xs := Jf) (aF (by kernel_rfl) (by kernel_rfl) hR) aS ae (n := 1000) (T := ff) (fun s Q => abC s Q) (ok := ok0) (f := l5 g0_r c0_r g0_0) h0) ae)) (n := 1000) (sel := Eo) (fun v o h => by cases h; rfl) (pre := pre) (F := F) (T := fun x => Es ok0 g0_r c0_r g0_0 (x.1.1) (x.1.2.1)) (fun x Q => agX ok0 g0_r c0_r g0_0 x Q) hF
theorem oe {x y N M : Nat} (hx : x < 18446744073709551616) (hy : y < 18446744073709551616) (h : ¬ N = M) : (x + 18446744073709551616 * N < y + 18446744073709551616 * M ↔ N < M) ∧ ¬ x + 18446744073709551616 * N = y + 18446744073709551616 * M := by
  omega
theorem JB {x y N : Nat} : (x + 18446744073709551616 * N < y + 18446744073709551616 * N ↔ x < y) ∧ (¬ x = y → ¬ x + 18446744073709551616 * N = y + 18446744073709551616 * N) := by
  omega
theorem p9 {n m : Nat} {x y : UInt64} (h : n < m ↔ x.toNat < y.toNat) : decide (x < y) = Nat.blt n m := by
  have h1 : Nat.blt n m = true ↔ n < m := ⟨dB, fun h => Nat.ble_eq_true_of_le h⟩
  rw [Bool.eq_iff_iff, decide_eq_true_iff, h1, h, UInt64.lt_iff_toNat_lt]
theorem zC {x y : UInt64} (h : ¬ x = y) : ¬ x.toNat = y.toNat := fun e => h (UInt64.toNat_inj.1 e)
def dh (a b : af) (i : Int) : aP := (((), (), i, ()), (lst a, lst b, ()))
theorem rM (a b : af) (k : Nat) (hk : k < 4) (h : (lst a).getD k 0 = (lst b).getD k 0) : (ff (dh a b (k : Int))).run = some (.inl (dh a b ((k : Int) - 1))) := by
  refine (OT.aw (decide_eq_true (by dsimp only [dh]; omega))).trans ((ah ?_).trans ((OT.al ?_).trans ((ah ?_).trans rfl)))
  · simp only [dh, Int.toNat_natCast, Nat.add_zero, dl, List.all_cons, List.all_nil, Bool.and_true, Bool.and_eq_true]
    exact ⟨aI (by omega), decide_eq_true hk, aI (by omega), decide_eq_true hk⟩
  · simp only [dh, Int.toNat_natCast, Nat.add_zero, h, beq_self_eq_true, Bool.not_true]
  · simp only [dh, List.all_cons, List.all_nil, Bool.and_true]
    exact aK (by omega)
theorem lh (a b : af) (k : Nat) (hk : k < 4) (h : ¬ (lst a).getD k 0 = (lst b).getD k 0) : (ff (dh a b (k : Int))).run = some (.inr ⟨(.ret, iD), ((decide ((lst a).getD k 0 < (lst b).getD k 0), ()), ())⟩) := by
  refine (OT.aw (decide_eq_true (by dsimp only [dh]; omega))).trans ((ah ?_).trans ((OT.aw ?_).trans ((ah ?_).trans ?_)))
  · simp only [dh, Int.toNat_natCast, Nat.add_zero, dl, List.all_cons, List.all_nil, Bool.and_true, Bool.and_eq_true]
    exact ⟨aI (by omega), decide_eq_true hk, aI (by omega), decide_eq_true hk⟩
  · simp only [dh, Int.toNat_natCast, Nat.add_zero, beq_eq_false_iff_ne.2 h, Bool.not_false]
  · simp only [dh, Int.toNat_natCast, Nat.add_zero, dl, List.all_cons, List.all_nil, Bool.and_true, Bool.and_eq_true]
    exact ⟨aI (by omega), decide_eq_true hk, aI (by omega), decide_eq_true hk⟩
  · simp only [dh, Int.toNat_natCast, Nat.add_zero]
    rfl
def Er (s : aP) : Bool := decide (s.1.2.2.1 = 3 ∧ s.2.1.length = 4 ∧ s.2.2.1.length = 4)
def zl (s : aP) : gr := ((Nat.blt (elemOf s.2.1).nat (elemOf s.2.2.1).nat, ()), ())
def j7 (s : aP) : Bool := !eqE (elemOf s.2.1) (elemOf s.2.2.1)
def zm (_ : aP) : gu := ((), ())
theorem wO {a b : af} (h : ¬ a = b) {r : Bool} (hr : r = Nat.blt a.nat b.nat) (hm : ∃ m, ay ff m (dh a b 3) = some ⟨(.ret, iD), ((r, ()), ())⟩) :
    ∃ m e, ay ff m (dh a b 3) = some e ∧ (l5 zl j7 zm (dh a b 3)).run = some e := by
  obtain ⟨m, hm⟩ := hm
  refine ⟨m, _, hm, ?_⟩
  have hc : j7 (dh a b 3) = true := by
    show (!eqE a b) = true
    rw [Bool.eq_false_iff.2 fun e => h (tZ.1 e)]
    rfl
  subst hr
  exact OT.aw hc
theorem abE : ∀ s : aP, Er s = true → ∃ m e, ay ff m s = some e ∧ (l5 zl j7 zm s).run = some e := by
  rintro ⟨⟨⟨⟩, ⟨⟩, i, ⟨⟩⟩, ⟨l1, l2, ⟨⟩⟩⟩ h
  have h' := of_decide_eq_true h
  dsimp only at h'
  obtain ⟨rfl, h1, h2⟩ := h'
  obtain ⟨a, rfl⟩ : ∃ a, l1 = lst a := ⟨elemOf l1, (bR h1).symm⟩
  obtain ⟨b, rfl⟩ : ∃ a, l2 = lst a := ⟨elemOf l2, (bR h2).symm⟩
  have ha0 := a.w0.toNat_lt
  have hb0 := b.w0.toNat_lt
  have ha1 := a.w1.toNat_lt
  have hb1 := b.w1.toNat_lt
  have ha2 := a.w2.toNat_lt
  have hb2 := b.w2.toNat_lt
  by_cases h3 : a.w3 = b.w3
  · have s3 := rM a b 3 (by omega) h3
    by_cases h2 : a.w2 = b.w2
    · have s2 := rM a b 2 (by omega) h2
      by_cases h1 : a.w1 = b.w1
      · have s1 := rM a b 1 (by omega) h1
        by_cases h0 : a.w0 = b.w0
        · have s0 := rM a b 0 (by omega) h0
          have e : a = b := by cases a; cases b; simp_all
          have sx : (ff (dh a b (((0 : Nat) : Int) - 1))).run = some (.inr ⟨(.exit 0, kR), ((), ())⟩) := OT.al (decide_eq_false (by dsimp only [dh]; omega))
          refine ⟨_, _, aV s3 (aV s2 (aV s1 (aV s0 (bN sx)))), ?_⟩
          have hc : j7 (((), (), 3, ()), (lst a, lst b, ())) = false := by
            show (!eqE a b) = false
            rw [e, ZZ]
            rfl
          exact OT.al hc
        · refine wO (fun e => h0 (by rw [e])) (p9 ?_) ⟨_, aV s3 (aV s2 (aV s1 (bN (lh a b 0 (by omega) h0))))⟩
          show a.nat < b.nat ↔ a.w0.toNat < b.w0.toNat
          unfold Sx.af.nat
          rw [h3, h2, h1]
          exact JB.1
      · refine wO (fun e => h1 (by rw [e])) (p9 ?_) ⟨_, aV s3 (aV s2 (bN (lh a b 1 (by omega) h1)))⟩
        show a.nat < b.nat ↔ a.w1.toNat < b.w1.toNat
        unfold Sx.af.nat
        rw [h3, h2]
        have k := JB (x := a.w1.toNat) (y := b.w1.toNat) (N := b.w2.toNat + 18446744073709551616 * b.w3.toNat)
        exact (oe ha0 hb0 (k.2 (zC h1))).1.trans k.1
    · refine wO (fun e => h2 (by rw [e])) (p9 ?_) ⟨_, aV s3 (bN (lh a b 2 (by omega) h2))⟩
      show a.nat < b.nat ↔ a.w2.toNat < b.w2.toNat
      unfold Sx.af.nat
      rw [h3]
      have k := JB (x := a.w2.toNat) (y := b.w2.toNat) (N := b.w3.toNat)
      have k1 := oe ha1 hb1 (k.2 (zC h2))
      exact (oe ha0 hb0 k1.2).1.trans (k1.1.trans k.1)
  · refine wO (fun e => h3 (by rw [e])) (p9 ?_) ⟨_, bN (lh a b 3 (by omega) h3)⟩
    show a.nat < b.nat ↔ a.w3.toNat < b.w3.toNat
    unfold Sx.af.nat
    have k2 := oe ha2 hb2 (zC h3)
    have k1 := oe ha1 hb1 k2.2
    exact (oe ha0 hb0 k1.2).1.trans (k1.1.trans k2.1)
def Ep (_ : q9) : Bool := true
def PV (x : q9) : OT dL.Y := .ok ⟨jr, ((Nat.blt x.1.1.nat x.1.2.1.nat, ()), ())⟩
theorem abD : aa Try.prog 41 (dL.aE Ep PV) := PU Er zl j7 zm abE _ _ fun x oy _ ho => by
  rw [← ho]
  clear ho
  obtain ⟨⟨a, b, ⟨⟩⟩, ⟨⟩⟩ := x
  refine (ah ?_).trans ?_
  · simp only [List.all_cons, List.all_nil, Bool.and_true]
    exact decide_eq_true ⟨rfl, rfl, rfl⟩
  · rcases (Bool.eq_false_or_eq_true (eqE a b)).symm with h | h
    · have hc : j7 (((), (), 3, ()), (lst a, lst b, ())) = true := by
        show (!eqE a b) = true
        rw [h]
        rfl
      exact OT.aw hc
    · have hc : j7 (((), (), 3, ()), (lst a, lst b, ())) = false := by
        show (!eqE a b) = false
        rw [h]
        rfl
      refine (OT.al hc).trans ?_
      have e : Nat.blt a.nat b.nat = false := by
        rw [tZ.1 h]
        cases hb : Nat.blt b.nat b.nat
        · rfl
        · exact absurd (dB hb) (Nat.lt_irrefl _)
      show (OT.ok ⟨jr, ((false, ()), ())⟩ : OT dL.Y).run = (OT.ok ⟨jr, ((Nat.blt a.nat b.nat, ()), ())⟩ : OT dL.Y).run
      rw [e]
def o4 : bL := (dL.aE Ep PV)
theorem L9 : aa Try.prog 41 o4 := abD
theorem L8 : aB o4 := ax
def mN : Env := av 41 o4 AN
theorem lk : aN Try.prog mN := ag L9 sb
theorem sT : aq mN := ab L8 B1
theorem xH : aU Try.prog te mN := aG follows ak lk sT
def eJ : ao := ⟨[.val true .elem, .val true .elem], [], true, 0, false⟩
abbrev q8 : Type := ((af) × (af) × Unit) × (Unit)
def lV : Shape := ⟨39, [(2, .ptr 0 0 0), (3, .ptr 1 0 0), (4, .ptr 2 0 0), (5, .ptr 3 0 0), (6, .val false .u64), (7, .val false .int)], [(0, .row .u64), (1, .row .u64), (2, .row .u64), (3, .row .u64)], 0, true⟩
abbrev bw : Type := ((Unit) × (Unit) × (Unit) × (Unit) × (UInt64) × (Int) × Unit) × ((List (UInt64)) × (List (UInt64)) × (List (UInt64)) × (List (UInt64)) × Unit)
def kQ : Shape := ⟨39, [(4, .ptr 0 0 0), (5, .ptr 1 0 0)], [(0, .row .u64), (1, .row .u64)], 0, true⟩
abbrev gp : Type := ((Unit) × (Unit) × Unit) × ((List (UInt64)) × (List (UInt64)) × Unit)
def Jb : SE → Option Shape := iX [(0, kQ)] none
def abz (a6 : UInt64) (a7 : Int) (c0 : List (UInt64)) (c1 : List (UInt64)) (c2 : List (UInt64)) (c3 : List (UInt64)) : OT (Sum bw aJ) :=
  let z0 : Bool := inB a7 4
  let z1 : Bool := decide (Int.toNat a7 + 0 < List.length c0)
  let z2 : Bool := decide (Int.toNat a7 + 0 < List.length c1)
  let z3 : UInt64 := List.getD c0 (Int.toNat a7 + 0) (0 : UInt64)
  let z4 : UInt64 := List.getD c1 (Int.toNat a7 + 0) (0 : UInt64)
  let z5 : Bool := inR (a7 + (1 : Int))
  let z6 : UInt64 := z3 - z4
  let z7 : List UInt64 := List.set c3 (Int.toNat a7 + 0) (z6 - a6)
  (.br (decide (a7 < (4 : Int)))
  (gd [z0, z1, z0, z2, z0, decide (Int.toNat a7 + 0 < List.length c3), z0, z1, z0, z2] (.br (decide (z3 < z4))
    (gd [z5] (.ok (.inl (((), ((), ((), ((), ((1 : UInt64), (a7 + (1 : Int), ())))))), (c0, (c1, (c2, (z7, ()))))))))
    (.br (decide (z6 < a6))
      (gd [z5] (.ok (.inl (((), ((), ((), ((), ((1 : UInt64), (a7 + (1 : Int), ())))))), (c0, (c1, (c2, (z7, ()))))))))
      (gd [z5] (.ok (.inl (((), ((), ((), ((), ((0 : UInt64), (a7 + (1 : Int), ())))))), (c0, (c1, (c2, (z7, ())))))))))))
  (.ok (.inr ⟨(.exit 0, kQ), (((), ((), ())), (c2, (c3, ())))⟩)))
def lW (s : bw) : OT (Sum bw aJ) := abz (s.1.2.2.2.2.1) (s.1.2.2.2.2.2.1) (s.2.1) (s.2.2.1) (s.2.2.2.1) (s.2.2.2.2.1)
theorem abw (s : bw) (Q : Sum bw aJ → Prop) : wps te mN au 1000 (bq (aj Try.f42) 0) (lV.inj s) (cE lV Jb (Q : Sum lV.T aJ → Prop)) = (lW s).wpR Q := by kernel_rfl
def q7 (g0_0 : bw → gp) (s : bw) : OT aJ := (.ok ⟨(.exit 0, kQ), g0_0 s⟩)
def zj : ar := ⟨[.val true .elem], [], false⟩
def Eh : SV → Option ar := fun _ => some zj
def Ek (ok0 : bw → Bool) (g0_0 : bw → gp) (a0 : af) (a1 : af) : OT eJ.Y :=
  let z0 : (PUnit × PUnit × PUnit × PUnit × UInt64 × Int × PUnit) × List UInt64 × List UInt64 × List UInt64 × List UInt64 × PUnit := (((), (), (), (), (0 : UInt64), (0 : Int), ()), [a0.w0, a0.w1, a0.w2, a0.w3], [a1.w0, a1.w1, a1.w2, a1.w3], [(0 : UInt64), (0 : UInt64), (0 : UInt64), (0 : UInt64)], [(0 : UInt64), (0 : UInt64), (0 : UInt64), (0 : UInt64)], ())
  let z1 := (g0_0 z0).snd
  let z2 := z1.snd.fst
  let z3 := z1.fst
  let z4 : List UInt64 := lay z3 z2 4 (0 : UInt64)
  (gd [ok0 z0, decide (4 ≤ List.length z2), decide ((4 / 1 : Nat) + 0 ≤ List.length z3), decide (4 ≤ List.length z4)] (.ok ⟨zj, (({ w0 := List.getD z4 0 0, w1 := List.getD z4 1 0, w2 := List.getD z4 2 0, w3 := List.getD z4 3 0 }, ()), ())⟩))
theorem agV (ok0 : bw → Bool) (g0_0 : bw → gp) (x : q8) (Q : eJ.Y → Prop) : wpf te mN (bj 0 (cS lV 0 ok0 (q7 g0_0)) au) 1000 Try.f42 (eJ.inp.inj x).tm (eJ.inp.inj x).hp (fnK eJ Eh Q) (fun _ _ => False) = (Ek ok0 g0_0 (x.1.1) (x.1.2.1)).wpR Q := by kernel_rfl
theorem PR (ok0 : bw → Bool) (g0_0 : bw → gp) (h0 : ∀ s : bw, ok0 s = true → ∃ m e, ay (lW) m s = some e ∧ (q7 g0_0 s).run = some e) (pre : q8 → Bool) (F : q8 → OT eJ.Y) (hF : ∀ (x : q8) oy, pre x = true → (F x).run = some oy → (Ek ok0 g0_0 (x.1.1) (x.1.2.1)).run = some oy) : aa Try.prog 42 (eJ.aE pre F) :=
  az ak lk xH (f := 42) (fn := Try.f42) (c := aj Try.f42) (by kernel_rfl) (by kernel_rfl) (by kernel_rfl) (S := eJ) (k := 0) (by kernel_rfl) (fun R hR => (aH (c := (aj Try.f42)) (by kernel_rfl) (id := 0) (by kernel_rfl) (bg ak lk xH (sh := lV) hR (xs := Jb) (aF (by kernel_rfl) (by kernel_rfl) hR) aS ae (n := 1000) (T := lW) (fun s Q => abw s Q) (ok := ok0) (f := q7 g0_0) h0) ae)) (n := 1000) (sel := Eh) (fun v o h => by cases h; rfl) (pre := pre) (F := F) (T := fun x => Ek ok0 g0_0 (x.1.1) (x.1.2.1)) (fun x Q => agV ok0 g0_0 x Q) hF
theorem Jy {x y c : UInt64} (hc : c.toNat ≤ 1) : x - y - c = m7 x y c := by
  have hx := x.toNat_lt
  have hy := y.toNat_lt
  unfold m7
  rw [← UInt64.toNat_inj, UInt64.toNat_sub, UInt64.toNat_sub, UInt64.toNat_ofNat']
  omega
theorem Zp {x y c : UInt64} (h : x < y) : Oe x y c = 1 := by
  have h := UInt64.lt_iff_toNat_lt.1 h
  rw [← UInt64.toNat_inj, vm, if_pos (by omega)]
  rfl
theorem Zo {x y c : UInt64} (h : ¬ x < y) (hc : x - y < c) : Oe x y c = 1 := by
  have hx := x.toNat_lt
  have h : ¬ x.toNat < y.toNat := fun e => h (UInt64.lt_iff_toNat_lt.2 e)
  have hc := UInt64.lt_iff_toNat_lt.1 hc
  rw [UInt64.toNat_sub] at hc
  rw [← UInt64.toNat_inj, vm, if_pos (by omega)]
  rfl
theorem Zn {x y c : UInt64} (h : ¬ x < y) (hc : ¬ x - y < c) : Oe x y c = 0 := by
  have hx := x.toNat_lt
  have h : ¬ x.toNat < y.toNat := fun e => h (UInt64.lt_iff_toNat_lt.2 e)
  have hc : ¬ (x - y).toNat < c.toNat := fun e => hc (UInt64.lt_iff_toNat_lt.2 e)
  rw [UInt64.toNat_sub] at hc
  rw [← UInt64.toNat_inj, vm, if_neg (by omega)]
  rfl
def Ej (s : bw) : Bool := decide (s.1.2.2.2.2.1 = 0 ∧ s.1.2.2.2.2.2.1 = 0 ∧ s.2.1.length = 4 ∧ s.2.2.1.length = 4 ∧ s.2.2.2.2.1 = [0, 0, 0, 0])
def Jc (s : bw) : gp := (((), (), ()), (s.2.2.2.1, (upto (sn s.2.1 s.2.2.1) ([0, 0, 0, 0], 0) 4).1, ()))
theorem aby : ∀ s : bw, Ej s = true → ∃ m e, ay lW m s = some e ∧ (q7 Jc s).run = some e := by
  rintro ⟨⟨⟨⟩, ⟨⟩, ⟨⟩, ⟨⟩, c, i, ⟨⟩⟩, ⟨c0, c1, c2, c3, ⟨⟩⟩⟩ h
  have h' := of_decide_eq_true h
  dsimp only at h'
  obtain ⟨rfl, rfl, h0, h1, rfl⟩ := h'
  have := (aT (T := lW) (fun k s => ((((), (), (), (), s.2, (k : Int), ()), (c0, c1, c2, s.1, ())) : bw)) (sn c0 c1)
    (fun s => (⟨(.exit 0, kQ), (((), (), ()), (c2, s.1, ()))⟩ : aJ)) 4 ([0, 0, 0, 0], 0) (fun _ s => s.1.length = 4 ∧ s.2.toNat ≤ 1) ⟨rfl, by decide⟩ (fun k s hk hs => ⟨?_, ?_⟩) (fun s hs => ?_)).1
  · obtain ⟨m, hm⟩ := this
    exact ⟨m, _, hm, rfl⟩
  · obtain ⟨o, c⟩ := s
    dsimp only at hs
    refine (OT.aw (decide_eq_true (by dsimp only; omega))).trans ((ah ?_).trans ?_)
    · simp only [Int.toNat_natCast, Nat.add_zero, h0, h1, hs.1, List.all_cons, List.all_nil, Bool.and_true, Bool.and_eq_true]
      exact ⟨aI (by omega), decide_eq_true (by omega), aI (by omega), decide_eq_true (by omega), aI (by omega), decide_eq_true (by omega), aI (by omega), decide_eq_true (by omega), aI (by omega), decide_eq_true (by omega)⟩
    · have hi : ∀ z, (gd [inR ((k : Int) + 1)] z : OT (Sum bw aJ)).run = z.run := fun z => ah (by simp only [List.all_cons, List.all_nil, Bool.and_true]; exact aK (by omega))
      have hw := Jy (x := c0.getD k 0) (y := c1.getD k 0) hs.2
      by_cases hx : c0.getD k 0 < c1.getD k 0
      · have hk1 := Zp (c := c) hx
        refine (OT.aw (decide_eq_true ?_)).trans ((hi _).trans ?_)
        · simp only [Int.toNat_natCast, Nat.add_zero]; exact hx
        · simp only [OT.cn, Int.toNat_natCast, Nat.add_zero, sn, hw, hk1]
          rfl
      · refine (OT.al (decide_eq_false ?_)).trans ?_
        · simp only [Int.toNat_natCast, Nat.add_zero]; exact hx
        · by_cases hd : c0.getD k 0 - c1.getD k 0 < c
          · have hk2 := Zo hx hd
            refine (OT.aw (decide_eq_true ?_)).trans ((hi _).trans ?_)
            · simp only [Int.toNat_natCast, Nat.add_zero]; exact hd
            · simp only [OT.cn, Int.toNat_natCast, Nat.add_zero, sn, hw, hk2]
              rfl
          · have hk3 := Zn hx hd
            refine (OT.al (decide_eq_false ?_)).trans ((hi _).trans ?_)
            · simp only [Int.toNat_natCast, Nat.add_zero]; exact hd
            · simp only [OT.cn, Int.toNat_natCast, Nat.add_zero, sn, hw, hk3]
              rfl
  · exact ⟨by simp only [sn, List.length_set]; exact hs.1, tf⟩
  · exact OT.al (decide_eq_false (by dsimp only; omega))
def Ei (_ : q8) : Bool := true
def El (x : q8) : OT eJ.Y := .ok ⟨zj, (((jn x.1.1 x.1.2.1).1, ()), ())⟩
theorem abx : aa Try.prog 42 (eJ.aE Ei El) := PR Ej Jc aby _ _ fun x oy hp ho => by
  rw [← ho]
  clear ho
  obtain ⟨⟨a, b, ⟨⟩⟩, ⟨⟩⟩ := x
  obtain ⟨_, hw⟩ := yw a b
  refine (ah ?_).trans ?_
  · simp only [List.all_cons, List.all_nil, Bool.and_true, Bool.and_eq_true]
    exact ⟨rfl, rfl, rfl, rfl⟩
  · simp only [El, hw]
    rfl
def o3 : bL := (eJ.aE Ei El)
theorem L5 : aa Try.prog 42 o3 := abx
theorem L4 : aB o3 := ax
def mL : Env := av 42 o3 mN
theorem lj : aN Try.prog mL := ag L5 lk
theorem sS : aq mL := ab L4 sT
theorem xG : aU Try.prog te mL := aG follows ak lj sS
def gm : ao := ⟨[.val true .elem, .val true .elem], [], true, 0, false⟩
abbrev zf : Type := ((af) × (af) × Unit) × (Unit)
def oZ : Shape := ⟨39, [(2, .ptr 0 0 0), (3, .ptr 1 0 0), (4, .ptr 2 0 0), (5, .ptr 3 0 0), (6, .val false .u64), (7, .val false .int)], [(0, .row .u64), (1, .row .u64), (2, .row .u64), (3, .row .u64)], 0, true⟩
abbrev bQ : Type := ((Unit) × (Unit) × (Unit) × (Unit) × (UInt64) × (Int) × Unit) × ((List (UInt64)) × (List (UInt64)) × (List (UInt64)) × (List (UInt64)) × Unit)
def nt : Shape := ⟨39, [(4, .ptr 0 0 0), (5, .ptr 1 0 0)], [(0, .row .u64), (1, .row .u64)], 0, true⟩
abbrev iA : Type := ((Unit) × (Unit) × Unit) × ((List (UInt64)) × (List (UInt64)) × Unit)
def PG : SE → Option Shape := iX [(0, nt)] none
def agL (a6 : UInt64) (a7 : Int) (c0 : List (UInt64)) (c1 : List (UInt64)) (c2 : List (UInt64)) (c3 : List (UInt64)) : OT (Sum bQ aJ) :=
  let z0 : Bool := inB a7 4
  let z1 : Bool := decide (Int.toNat a7 + 0 < List.length c0)
  let z2 : UInt64 := List.getD c0 (Int.toNat a7 + 0) (0 : UInt64)
  let z3 : UInt64 := z2 + List.getD c1 (Int.toNat a7 + 0) (0 : UInt64)
  let z4 : Bool := inR (a7 + (1 : Int))
  let z5 : List UInt64 := List.set c3 (Int.toNat a7 + 0) (z3 + a6)
  (.br (decide (a7 < (4 : Int)))
  (gd [z0, z1, z0, decide (Int.toNat a7 + 0 < List.length c1), z0, decide (Int.toNat a7 + 0 < List.length c3), z0, z1] (.br (decide (z3 < z2))
    (gd [z4] (.ok (.inl (((), ((), ((), ((), ((1 : UInt64), (a7 + (1 : Int), ())))))), (c0, (c1, (c2, (z5, ()))))))))
    (gd [z0, decide (Int.toNat a7 + 0 < List.length z5)] (.br (decide (List.getD z5 (Int.toNat a7 + 0) (0 : UInt64) < z3))
      (gd [z4] (.ok (.inl (((), ((), ((), ((), ((1 : UInt64), (a7 + (1 : Int), ())))))), (c0, (c1, (c2, (z5, ()))))))))
      (gd [z4] (.ok (.inl (((), ((), ((), ((), ((0 : UInt64), (a7 + (1 : Int), ())))))), (c0, (c1, (c2, (z5, ()))))))))))))
  (.ok (.inr ⟨(.exit 0, nt), (((), ((), ())), (c2, (c3, ())))⟩)))
def o0 (s : bQ) : OT (Sum bQ aJ) := agL (s.1.2.2.2.2.1) (s.1.2.2.2.2.2.1) (s.2.1) (s.2.2.1) (s.2.2.2.1) (s.2.2.2.2.1)
theorem agI (s : bQ) (Q : Sum bQ aJ → Prop) : wps te mL au 1000 (bq (aj Try.f53) 0) (oZ.inj s) (cE oZ PG (Q : Sum oZ.T aJ → Prop)) = (o0 s).wpR Q := by kernel_rfl
def vT (g0_0 : bQ → iA) (s : bQ) : OT aJ := (.ok ⟨(.exit 0, nt), g0_0 s⟩)
def D9 : ar := ⟨[.val true .elem], [], false⟩
def I5 : SV → Option ar := fun _ => some D9
def LU (ok0 : bQ → Bool) (g0_0 : bQ → iA) (a0 : af) (a1 : af) : OT gm.Y :=
  let z0 : (PUnit × PUnit × PUnit × PUnit × UInt64 × Int × PUnit) × List UInt64 × List UInt64 × List UInt64 × List UInt64 × PUnit := (((), (), (), (), (0 : UInt64), (0 : Int), ()), [a0.w0, a0.w1, a0.w2, a0.w3], [a1.w0, a1.w1, a1.w2, a1.w3], [(0 : UInt64), (0 : UInt64), (0 : UInt64), (0 : UInt64)], [(0 : UInt64), (0 : UInt64), (0 : UInt64), (0 : UInt64)], ())
  let z1 := (g0_0 z0).snd
  let z2 := z1.snd.fst
  let z3 := z1.fst
  let z4 : List UInt64 := lay z3 z2 4 (0 : UInt64)
  (gd [ok0 z0, decide (4 ≤ List.length z2), decide ((4 / 1 : Nat) + 0 ≤ List.length z3), decide (4 ≤ List.length z4)] (.ok ⟨D9, (({ w0 := List.getD z4 0 0, w1 := List.getD z4 1 0, w2 := List.getD z4 2 0, w3 := List.getD z4 3 0 }, ()), ())⟩))
theorem al7 (ok0 : bQ → Bool) (g0_0 : bQ → iA) (x : zf) (Q : gm.Y → Prop) : wpf te mL (bj 0 (cS oZ 0 ok0 (vT g0_0)) au) 1000 Try.f53 (gm.inp.inj x).tm (gm.inp.inj x).hp (fnK gm I5 Q) (fun _ _ => False) = (LU ok0 g0_0 (x.1.1) (x.1.2.1)).wpR Q := by kernel_rfl
theorem Uw (ok0 : bQ → Bool) (g0_0 : bQ → iA) (h0 : ∀ s : bQ, ok0 s = true → ∃ m e, ay (o0) m s = some e ∧ (vT g0_0 s).run = some e) (pre : zf → Bool) (F : zf → OT gm.Y) (hF : ∀ (x : zf) oy, pre x = true → (F x).run = some oy → (LU ok0 g0_0 (x.1.1) (x.1.2.1)).run = some oy) : aa Try.prog 53 (gm.aE pre F) :=
  az ak lj xG (f := 53) (fn := Try.f53) (c := aj Try.f53) (by kernel_rfl) (by kernel_rfl) (by kernel_rfl) (S := gm) (k := 0) (by kernel_rfl) (fun R hR => (aH (c := (aj Try.f53)) (by kernel_rfl) (id := 0) (by kernel_rfl) (bg ak lj xG (sh := oZ) hR (xs := PG) (aF (by kernel_rfl) (by kernel_rfl) hR) aS ae (n := 1000) (T := o0) (fun s Q => agI s Q) (ok := ok0) (f := vT g0_0) h0) ae)) (n := 1000) (sel := I5) (fun v o h => by cases h; rfl) (pre := pre) (F := F) (T := fun x => LU ok0 g0_0 (x.1.1) (x.1.2.1)) (fun x Q => al7 ok0 g0_0 x Q) hF
theorem aha {x y c : UInt64} : x + y + c = sw x y c := by
  have hx := x.toNat_lt
  have hy := y.toNat_lt
  unfold sw
  rw [← UInt64.toNat_inj, UInt64.toNat_add, UInt64.toNat_add, UInt64.toNat_ofNat']
  omega
theorem NN {x y c : UInt64} (hc : c.toNat ≤ 1) : (uT x y c).toNat = (x.toNat + y.toNat + c.toNat) / 18446744073709551616 := by
  have hx := x.toNat_lt
  have hy := y.toNat_lt
  unfold uT
  rw [UInt64.toNat_ofNat']
  omega
theorem aqJ {x y c : UInt64} (hc : c.toNat ≤ 1) (h : x + y < x) : uT x y c = 1 := by
  have hx := x.toNat_lt
  have hy := y.toNat_lt
  have h := UInt64.lt_iff_toNat_lt.1 h
  rw [UInt64.toNat_add] at h
  rw [← UInt64.toNat_inj, NN hc, show (1 : UInt64).toNat = 1 from rfl]
  omega
theorem aqI {x y c : UInt64} (hc : c.toNat ≤ 1) (h : ¬ x + y < x) (h2 : x + y + c < x + y) : uT x y c = 1 := by
  have hx := x.toNat_lt
  have hy := y.toNat_lt
  have h : ¬ (x + y).toNat < x.toNat := fun e => h (UInt64.lt_iff_toNat_lt.2 e)
  have h2 := UInt64.lt_iff_toNat_lt.1 h2
  rw [UInt64.toNat_add] at h
  rw [UInt64.toNat_add, UInt64.toNat_add] at h2
  rw [← UInt64.toNat_inj, NN hc, show (1 : UInt64).toNat = 1 from rfl]
  omega
theorem aqH {x y c : UInt64} (hc : c.toNat ≤ 1) (h : ¬ x + y < x) (h2 : ¬ x + y + c < x + y) : uT x y c = 0 := by
  have hx := x.toNat_lt
  have hy := y.toNat_lt
  have h : ¬ (x + y).toNat < x.toNat := fun e => h (UInt64.lt_iff_toNat_lt.2 e)
  have h2 : ¬ (x + y + c).toNat < (x + y).toNat := fun e => h2 (UInt64.lt_iff_toNat_lt.2 e)
  rw [UInt64.toNat_add] at h
  rw [UInt64.toNat_add, UInt64.toNat_add] at h2
  rw [← UInt64.toNat_inj, NN hc, show (0 : UInt64).toNat = 0 from rfl]
  omega
def I7 (s : bQ) : Bool := decide (s.1.2.2.2.2.1 = 0 ∧ s.1.2.2.2.2.2.1 = 0 ∧ s.2.1.length = 4 ∧ s.2.2.1.length = 4 ∧ s.2.2.2.2.1 = [0, 0, 0, 0])
def PJ (s : bQ) : iA := (((), (), ()), (s.2.2.2.1, (upto (Ia s.2.1 s.2.2.1) ([0, 0, 0, 0], 0) 4).1, ()))
theorem agK : ∀ s : bQ, I7 s = true → ∃ m e, ay o0 m s = some e ∧ (vT PJ s).run = some e := by
  rintro ⟨⟨⟨⟩, ⟨⟩, ⟨⟩, ⟨⟩, c, i, ⟨⟩⟩, ⟨c0, c1, c2, c3, ⟨⟩⟩⟩ h
  have h' := of_decide_eq_true h
  dsimp only at h'
  obtain ⟨rfl, rfl, h0, h1, rfl⟩ := h'
  have := (aT (T := o0) (fun k s => ((((), (), (), (), s.2, (k : Int), ()), (c0, c1, c2, s.1, ())) : bQ)) (Ia c0 c1)
    (fun s => (⟨(.exit 0, nt), (((), (), ()), (c2, s.1, ()))⟩ : aJ)) 4 ([0, 0, 0, 0], 0) (fun _ s => s.1.length = 4 ∧ s.2.toNat ≤ 1) ⟨rfl, by decide⟩ (fun k s hk hs => ⟨?_, ?_⟩) (fun s hs => ?_)).1
  · obtain ⟨m, hm⟩ := this
    exact ⟨m, _, hm, rfl⟩
  · obtain ⟨o, c⟩ := s
    dsimp only at hs
    refine (OT.aw (decide_eq_true (by dsimp only; omega))).trans ((ah ?_).trans ?_)
    · simp only [Int.toNat_natCast, Nat.add_zero, h0, h1, hs.1, List.all_cons, List.all_nil, Bool.and_true, Bool.and_eq_true]
      exact ⟨aI (by omega), decide_eq_true (by omega), aI (by omega), decide_eq_true (by omega), aI (by omega), decide_eq_true (by omega), aI (by omega), decide_eq_true (by omega)⟩
    · have hi : ∀ z, (gd [inR ((k : Int) + 1)] z : OT (Sum bQ aJ)).run = z.run := fun z => ah (by simp only [List.all_cons, List.all_nil, Bool.and_true]; exact aK (by omega))
      have hw := aha (x := c0.getD k 0) (y := c1.getD k 0) (c := c)
      by_cases hx : c0.getD k 0 + c1.getD k 0 < c0.getD k 0
      · have hk1 := aqJ hs.2 hx
        refine (OT.aw (decide_eq_true ?_)).trans ((hi _).trans ?_)
        · simp only [Int.toNat_natCast, Nat.add_zero]; exact hx
        · simp only [OT.cn, Int.toNat_natCast, Nat.add_zero, Ia, hw, hk1]
          rfl
      · have hs2 : ∀ v, (o.set k v).getD k 0 = v := fun v => by
          rw [List.getD_eq_getElem?_getD, List.getElem?_set_self (by omega)]
          rfl
        refine (OT.al (decide_eq_false ?_)).trans ((ah ?_).trans ?_)
        · simp only [Int.toNat_natCast, Nat.add_zero]; exact hx
        · simp only [Int.toNat_natCast, Nat.add_zero, List.length_set, hs.1, List.all_cons, List.all_nil, Bool.and_true, Bool.and_eq_true]
          exact ⟨aI (by omega), decide_eq_true (by omega)⟩
        · by_cases hd : c0.getD k 0 + c1.getD k 0 + c < c0.getD k 0 + c1.getD k 0
          · have hk2 := aqI hs.2 hx hd
            refine (OT.aw (decide_eq_true ?_)).trans ((hi _).trans ?_)
            · simp only [Int.toNat_natCast, Nat.add_zero, hs2]; exact hd
            · simp only [OT.cn, Int.toNat_natCast, Nat.add_zero, Ia, hw, hk2]
              rfl
          · have hk3 := aqH hs.2 hx hd
            refine (OT.al (decide_eq_false ?_)).trans ((hi _).trans ?_)
            · simp only [Int.toNat_natCast, Nat.add_zero, hs2]; exact hd
            · simp only [OT.cn, Int.toNat_natCast, Nat.add_zero, Ia, hw, hk3]
              rfl
  · exact ⟨by simp only [Ia, List.length_set]; exact hs.1, Av hs.2⟩
  · exact OT.al (decide_eq_false (by dsimp only; omega))
def I6 (_ : zf) : Bool := true
def LV (x : zf) : OT gm.Y := .ok ⟨D9, (((A5 x.1.1 x.1.2.1).1, ()), ())⟩
theorem agJ : aa Try.prog 53 (gm.aE I6 LV) := Uw I7 PJ agK _ _ fun x oy hp ho => by
  rw [← ho]
  clear ho
  obtain ⟨⟨a, b, ⟨⟩⟩, ⟨⟩⟩ := x
  obtain ⟨_, hw⟩ := Ih a b
  refine (ah ?_).trans ?_
  · simp only [List.all_cons, List.all_nil, Bool.and_true, Bool.and_eq_true]
    exact ⟨rfl, rfl, rfl, rfl⟩
  · simp only [LV, hw]
    rfl
def tA : bL := (gm.aE I6 LV)
theorem PI : aa Try.prog 53 tA := agJ
theorem PH : aB tA := ax
def n4 : Env := av 53 tA mL
theorem kF : aN Try.prog n4 := ag PI lj
theorem xF : aq n4 := ab PH sS
theorem qp : aU Try.prog te n4 := aG follows ak kF xF
def j1 : ao := ⟨[.val false .int, .val true .elem], [], true, 0, false⟩
abbrev PK : Type := ((Int) × (af) × Unit) × (Unit)
def Ec : Shape := ⟨60, [(3, .ptr 0 0 0), (4, .ptr 1 0 0), (5, .val false .u64), (6, .val false .u64), (7, .val false .int)], [(0, .row .u64), (1, .row .u64)], 0, true⟩
abbrev c9 : Type := ((Unit) × (Unit) × (UInt64) × (UInt64) × (Int) × Unit) × ((List (UInt64)) × (List (UInt64)) × Unit)
def vV : Shape := ⟨60, [(4, .ptr 0 0 0), (6, .val false .u64)], [(0, .row .u64)], 0, true⟩
abbrev lS : Type := ((Unit) × (UInt64) × Unit) × ((List (UInt64)) × Unit)
def agP : SE → Option Shape := iX [(0, vV)] none
def aqA (a5 : UInt64) (a6 : UInt64) (a7 : Int) (c0 : List (UInt64)) (c1 : List (UInt64)) : OT (Sum c9 aJ) :=
  let z0 : Bool := inB a7 4
  let z1 : Bool := decide (Int.toNat a7 + 0 < List.length c0)
  let z2 : Bool := !a5 == (0 : UInt64)
  let z3 : UInt64 := List.getD c0 (Int.toNat a7 + 0) (0 : UInt64)
  (.br (decide ((0 : Int) ≤ a7))
  (gd [z0, z1, z2, z0, z1, z2, inR (a7 - (1 : Int))] (.ok (.inl (((), ((), (a5, ((bH ((bH a6 (32 : Int) + aX z3 (32 : Int)) % a5) (32 : Int) + (z3 &&& (4294967295 : UInt64))) % a5, (a7 - (1 : Int), ()))))), (c0, (c1, ()))))))
  (.ok (.inr ⟨(.exit 0, vV), (((), (a6, ())), (c1, ()))⟩)))
def Ee (s : c9) : OT (Sum c9 aJ) := aqA (s.1.2.2.1) (s.1.2.2.2.1) (s.1.2.2.2.2.1) (s.2.1) (s.2.2.1)
theorem aqw (s : c9) (Q : Sum c9 aJ → Prop) : wps te n4 au 1000 (bq (aj Try.f17) 0) (Ec.inj s) (cE Ec agP (Q : Sum Ec.T aJ → Prop)) = (Ee s).wpR Q := by kernel_rfl
def LY (g0_0 : c9 → lS) (s : c9) : OT aJ := (.ok ⟨(.exit 0, vV), g0_0 s⟩)
def Eb : Shape := ⟨60, [(3, .ptr 0 0 0), (4, .ptr 1 0 0), (8, .ptr 2 0 0)], [(0, .row .u64), (1, .row .u64), (2, .row .u64)], 0, true⟩
abbrev du : Type := ((Unit) × (Unit) × (Unit) × Unit) × ((List (UInt64)) × (List (UInt64)) × (List (UInt64)) × Unit)
def vU : Shape := ⟨60, [(3, .ptr 0 0 0), (4, .ptr 1 0 0)], [(0, .row .u64), (1, .row .u64)], 0, true⟩
abbrev lR : Type := ((Unit) × (Unit) × Unit) × ((List (UInt64)) × (List (UInt64)) × Unit)
def agO : SE → Option Shape := iX [(2, vU)] none
def aqz (c0 : List (UInt64)) (c1 : List (UInt64)) (c2 : List (UInt64)) : OT (Sum du aJ) :=
  let z0 : Nat := List.length c0
  let z1 : Bool := decide (4 ≤ z0)
  let z2 : Bool := decide (4 ≤ List.length c2)
  let z3 : af := { w0 := List.getD c0 0 0, w1 := List.getD c0 1 0, w2 := List.getD c0 2 0, w3 := List.getD c0 3 0 }
  let z4 : af := { w0 := List.getD c2 0 0, w1 := List.getD c2 1 0, w2 := List.getD c2 2 0, w3 := List.getD c2 3 0 }
  let z5 := (jn z3 z4).fst
  (gd [z1, z2] (.br (!Nat.blt (af.nat z3) (af.nat z4))
  (gd [z1, z2, decide ((4 / 1 : Nat) + 0 ≤ z0)] (.ok (.inl (((), ((), ((), ()))), (List.set (List.set (List.set (List.set c0 0 z5.w0) 1 z5.w1) 2 z5.w2) 3 z5.w3, (c1, (c2, ())))))))
  (.ok (.inr ⟨(.exit 2, vU), (((), ((), ())), (c0, (c1, ())))⟩))))
def Ed (s : du) : OT (Sum du aJ) := aqz (s.2.1) (s.2.2.1) (s.2.2.2.1)
theorem aqv (s : du) (Q : Sum du aJ → Prop) : wps te n4 au 1000 (bq (aj Try.f17) 2) (Eb.inj s) (cE Eb agO (Q : Sum Eb.T aJ → Prop)) = (Ed s).wpR Q := by kernel_rfl
def LX (g2_2 : du → lR) (s : du) : OT aJ := (.ok ⟨(.exit 2, vU), g2_2 s⟩)
def lA : ar := ⟨[.val true .elem], [], false⟩
def Y3 : SV → Option ar := fun _ => some lA
def Y5 (ok0 : c9 → Bool) (g0_0 : c9 → lS) (ok2 : du → Bool) (g2_2 : du → lR) (a0 : Int) (a1 : af) : OT j1.Y :=
  let z0 : (PUnit × PUnit × UInt64 × UInt64 × Int × PUnit) × List UInt64 × List UInt64 × PUnit := (((), (), Of a0, (0 : UInt64), (3 : Int), ()), [a1.w0, a1.w1, a1.w2, a1.w3], [(0 : UInt64), (0 : UInt64), (0 : UInt64), (0 : UInt64)], ())
  let z1 : Bool := ok0 z0
  let z2 : (PUnit × UInt64 × PUnit) × List UInt64 × PUnit := g0_0 z0
  let z3 := z2.snd.fst
  let z4 : Bool := decide ((4 / 1 : Nat) + 0 ≤ List.length z3)
  let z5 : List UInt64 := List.set (List.set (List.set (List.set z3 0 z2.fst.snd.fst) 1 (0 : UInt64)) 2 (0 : UInt64)) 3 (0 : UInt64)
  let z6 : Bool := decide (4 ≤ List.length z5)
  let z7 : af := { w0 := List.getD z5 0 0, w1 := List.getD z5 1 0, w2 := List.getD z5 2 0, w3 := List.getD z5 3 0 }
  let z8 : af := (dk (Int.toNat a0)).fst
  let z9 : (PUnit × PUnit × PUnit × PUnit) × List UInt64 × List UInt64 × List UInt64 × PUnit := (((), (), (), ()), [a1.w0, a1.w1, a1.w2, a1.w3], [(0 : UInt64), (0 : UInt64), (0 : UInt64), (0 : UInt64)], [z8.w0, z8.w1, z8.w2, z8.w3], ())
  let z10 := (g2_2 z9).snd
  let z11 := z10.fst
  let z12 := z10.snd.fst
  let z13 : List UInt64 := lay z12 z11 4 (0 : UInt64)
  (.br (a0 == (0 : Int))
  (gd [z1, z4, z6] (.ok ⟨lA, ((z7, ()), ())⟩))
  (.br (a0 == (1 : Int))
    (gd [z1, z4, z6] (.ok ⟨lA, ((z7, ()), ())⟩))
    (.br (aA a0)
      (gd [ok2 z9, decide (4 ≤ List.length z11), decide ((4 / 1 : Nat) + 0 ≤ List.length z12), decide (4 ≤ List.length z13)] (.ok ⟨lA, (({ w0 := List.getD z13 0 0, w1 := List.getD z13 1 0, w2 := List.getD z13 2 0, w3 := List.getD z13 3 0 }, ()), ())⟩))
      (.ok ⟨lA, (({ w0 := 0, w1 := 0, w2 := 0, w3 := 0 }, ()), ())⟩))))
theorem asL (ok0 : c9 → Bool) (g0_0 : c9 → lS) (ok2 : du → Bool) (g2_2 : du → lR) (x : PK) (Q : j1.Y → Prop) : wpf te n4 (bj 2 (cS Eb 2 ok2 (LX g2_2)) (bj 0 (cS Ec 0 ok0 (LY g0_0)) au)) 1000 Try.f17 (j1.inp.inj x).tm (j1.inp.inj x).hp (fnK j1 Y3 Q) (fun _ _ => False) = (Y5 ok0 g0_0 ok2 g2_2 (x.1.1) (x.1.2.1)).wpR Q := by kernel_rfl
theorem agR (ok0 : c9 → Bool) (g0_0 : c9 → lS) (ok2 : du → Bool) (g2_2 : du → lR) (h0 : ∀ s : c9, ok0 s = true → ∃ m e, ay (Ee) m s = some e ∧ (LY g0_0 s).run = some e) (h2 : ∀ s : du, ok2 s = true → ∃ m e, ay (Ed) m s = some e ∧ (LX g2_2 s).run = some e) (pre : PK → Bool) (F : PK → OT j1.Y) (hF : ∀ (x : PK) oy, pre x = true → (F x).run = some oy → (Y5 ok0 g0_0 ok2 g2_2 (x.1.1) (x.1.2.1)).run = some oy) : aa Try.prog 17 (j1.aE pre F) :=
  az ak kF qp (f := 17) (fn := Try.f17) (c := aj Try.f17) (by kernel_rfl) (by kernel_rfl) (by kernel_rfl) (S := j1) (k := 0) (by kernel_rfl) (fun R hR => (aH (c := (aj Try.f17)) (by kernel_rfl) (id := 2) (by kernel_rfl) (bg ak kF qp (sh := Eb) hR (xs := agO) (aF (by kernel_rfl) (by kernel_rfl) hR) aS ae (n := 1000) (T := Ed) (fun s Q => aqv s Q) (ok := ok2) (f := LX g2_2) h2) (aH (c := (aj Try.f17)) (by kernel_rfl) (id := 0) (by kernel_rfl) (bg ak kF qp (sh := Ec) hR (xs := agP) (aF (by kernel_rfl) (by kernel_rfl) hR) aS ae (n := 1000) (T := Ee) (fun s Q => aqw s Q) (ok := ok0) (f := LY g0_0) h0) ae))) (n := 1000) (sel := Y3) (fun v o h => by cases h; rfl) (pre := pre) (F := F) (T := fun x => Y5 ok0 g0_0 ok2 g2_2 (x.1.1) (x.1.2.1)) (fun x Q => asL ok0 g0_0 ok2 g2_2 x Q) hF
theorem asQ {r w m : Nat} : ((r * 4294967296 + w / 4294967296) % m * 4294967296 + w % 4294967296) % m = (r * 18446744073709551616 + w) % m := by
  have e : (r * 4294967296 + w / 4294967296) * 4294967296 + w % 4294967296 = r * 18446744073709551616 + w := by omega
  rw [Nat.add_mod, Nat.mul_mod, Nat.mod_mod, ← Nat.mul_mod, ← Nat.add_mod, e]
theorem aqN {r w m : UInt64} (hs : eQ m = true) (hr : r.toNat < m.toNat) : (bH ((bH r 32 + aX w 32) % m) 32 + (w &&& 4294967295)) % m = Rp r w m := by
  have hm := jQ hs
  have hb : m.toNat ≤ 16521217 := by rcases dx hs with rfl | rfl <;> decide
  have hw := w.toNat_lt
  have e1 : (bH r 32).toNat = r.toNat * 4294967296 := by
    have : (bH r 32).toNat = r.toNat * 2 ^ 32 % 2 ^ 64 := jR r 32 (by omega)
    rw [this]
    omega
  have e2 : (aX w 32).toNat = w.toNat / 4294967296 := eD w 32 (by omega)
  have e3 : ((bH r 32 + aX w 32) % m).toNat = (r.toNat * 4294967296 + w.toNat / 4294967296) % m.toNat := by
    rw [UInt64.toNat_mod, UInt64.toNat_add, e1, e2, Nat.mod_eq_of_lt (a := r.toNat * 4294967296 + w.toNat / 4294967296) (by omega)]
  generalize (bH r 32 + aX w 32) % m = q at e3
  have hq : q.toNat < m.toNat := by rw [e3]; exact Nat.mod_lt _ hm
  have e4 : (bH q 32).toNat = q.toNat * 4294967296 := by
    have : (bH q 32).toNat = q.toNat * 2 ^ 32 % 2 ^ 64 := jR q 32 (by omega)
    rw [this]
    omega
  rw [← UInt64.toNat_inj, nO hm, UInt64.toNat_mod, UInt64.toNat_add, e4, ik, Nat.mod_eq_of_lt (a := q.toNat * 4294967296 + w.toNat % 4294967296) (by omega), e3, asQ]
def CJ (s : c9) : Bool := decide (s.1.2.2.2.1 = 0 ∧ s.1.2.2.2.2.1 = 3 ∧ s.2.1.length = 4) && eQ s.1.2.2.1
def UA (s : c9) : lS := (((), asF s.2.1 s.1.2.2.1, ()), (s.2.2.1, ()))
theorem aqy : ∀ s : c9, CJ s = true → ∃ m e, ay Ee m s = some e ∧ (LY UA s).run = some e := by
  rintro ⟨⟨⟨⟩, ⟨⟩, sm, r, i, ⟨⟩⟩, ⟨c1, c2, ⟨⟩⟩⟩ h
  simp only [CJ, Bool.and_eq_true, decide_eq_true_eq] at h
  obtain ⟨⟨rfl, rfl, hl⟩, hs⟩ := h
  have hm := jQ hs
  have hz : (!(sm == 0)) = true := by rcases dx hs with rfl | rfl <;> rfl
  have := (aT (T := Ee) (fun k r => ((((), (), sm, r, 3 - (k : Int), ()), (c1, c2, ())) : c9)) (fun k r => Rp r (c1.getD (3 - k) 0) sm)
    (fun r => (⟨(.exit 0, vV), (((), r, ()), (c2, ()))⟩ : aJ)) 4 0 (fun _ r => r.toNat < sm.toNat) hm (fun k r hk hr => ⟨?_, ?_⟩) (fun r hr => ?_)).1
  · obtain ⟨m, hm⟩ := this
    exact ⟨m, _, hm, rfl⟩
  · have e1 : (3 - (k : Int)).toNat = 3 - k := by omega
    have e2 : (3 : Int) - (k : Int) - 1 = 3 - ((k + 1 : Nat) : Int) := by omega
    refine (OT.aw (decide_eq_true (by dsimp only; omega))).trans ((ah ?_).trans ?_)
    · simp only [e1, Nat.add_zero, hl, hz, List.all_cons, List.all_nil, Bool.and_true, Bool.true_and, Bool.and_eq_true]
      exact ⟨aI (by omega), decide_eq_true (by omega), aI (by omega), decide_eq_true (by omega), aK (by omega)⟩
    · simp only [OT.cn, e1, e2, Nat.add_zero, aqN hs hr]
  · rw [nO hm]
    exact Nat.mod_lt _ hm
  · exact OT.al (decide_eq_false (by dsimp only; omega))
def LW (s : du) : Bool := decide (s.2.1.length = 4 ∧ s.2.2.2.1.length = 4 ∧ 0 < (elemOf s.2.2.2.1).nat)
def Uz (s : du) : lR := (((), (), ()), (lst (ofN ((elemOf s.2.1).nat % (elemOf s.2.2.2.1).nat)), s.2.2.1, ()))
theorem abq {M : af} {c2 : List UInt64} (hm : 0 < M.nat) : ∀ (n : Nat) (a : af), a.nat = n →
    ∃ m, ay Ed m (((), (), (), ()), (lst a, c2, lst M, ())) = some ⟨(.exit 2, vU), (((), (), ()), (lst (ofN (a.nat % M.nat)), c2, ()))⟩ := by
  intro n
  induction n using Nat.strongRecOn with
  | _ n ih =>
    intro a hn
    rcases (Bool.eq_false_or_eq_true (Nat.blt a.nat M.nat)).symm with hb | hb
    · have hle : M.nat ≤ a.nat := by
        rcases Nat.lt_or_ge a.nat M.nat with h | h
        · have : Nat.blt a.nat M.nat = true := Nat.ble_eq_true_of_le h
          rw [this] at hb; cases hb
        · exact h
      have hd := uY hle
      obtain ⟨m, hm2⟩ := ih (a.nat - M.nat) (by omega) (jn a M).1 hd
      rw [hd, ← Nat.mod_eq_sub_mod hle] at hm2
      refine ⟨m + 1, aV ?_ hm2⟩
      refine (ah rfl).trans ((OT.aw (b := !Nat.blt a.nat M.nat) (by rw [hb]; rfl)).trans ((ah rfl).trans rfl))
    · have hlt := dB hb
      rw [Nat.mod_eq_of_lt hlt, Mo]
      refine ⟨1, bN ?_⟩
      exact (ah rfl).trans (OT.al (b := !Nat.blt a.nat M.nat) (by rw [hb]; rfl))
theorem aqx : ∀ s : du, LW s = true → ∃ m e, ay Ed m s = some e ∧ (LX Uz s).run = some e := by
  rintro ⟨⟨⟨⟩, ⟨⟩, ⟨⟩, ⟨⟩⟩, ⟨l, c2, l2, ⟨⟩⟩⟩ h
  have h' := of_decide_eq_true h
  dsimp only at h'
  obtain ⟨h1, h2, h3⟩ := h'
  obtain ⟨a, rfl⟩ : ∃ a, l = lst a := ⟨elemOf l, (bR h1).symm⟩
  obtain ⟨M, rfl⟩ : ∃ a, l2 = lst a := ⟨elemOf l2, (bR h2).symm⟩
  obtain ⟨m, hm⟩ := abq (c2 := c2) (M := M) h3 _ a rfl
  exact ⟨m, _, hm, rfl⟩
def ofP (p : Nat) (a : af) : af := ofN (a.nat % p)
def Y4 (_ : PK) : Bool := true
def an3 (x : PK) : OT j1.Y := .br (aA x.1.1) (.ok ⟨lA, ((ofP (pS x.1.1) x.1.2.1, ()), ())⟩) (.ok ⟨lA, ((⟨0, 0, 0, 0⟩, ()), ())⟩)
theorem Qh {a : af} {p : Nat} {m : UInt64} (hp : p = m.toNat) (hs : eQ m = true) : (⟨asF (lst a) m, 0, 0, 0⟩ : af) = ofP p a := by
  have hm := jQ hs
  unfold ofP
  rw [YQ hs, hp, pf (n := a.nat % m.toNat) (Nat.lt_trans (Nat.mod_lt _ hm) m.toNat_lt)]
theorem Zi {s : Int} {a : af} (h0 : (s == 0) = false) (h1 : (s == 1) = false) (hs : aA s = true) : (Y5 CJ UA LW Uz s a).run = some ⟨lA, ((ofP (pS s) a, ()), ())⟩ := by
  refine (OT.al h0).trans ((OT.al h1).trans ((OT.aw hs).trans ((ah ?_).trans rfl)))
  simp only [List.all_cons, List.all_nil, Bool.and_true, Bool.and_eq_true]
  exact ⟨decide_eq_true ⟨rfl, rfl, (Qe hs).1⟩, rfl, rfl, rfl⟩
theorem agQ : aa Try.prog 17 (j1.aE Y4 an3) := agR CJ UA LW Uz aqy aqx _ _ fun x oy _ ho => by
  rw [← ho]
  clear ho
  obtain ⟨⟨s, a, ⟨⟩⟩, ⟨⟩⟩ := x
  rcases (Bool.eq_false_or_eq_true (aA s)).symm with hs | hs
  · obtain ⟨h0, h1, _, _⟩ := qN hs
    exact (OT.al h0).trans ((OT.al h1).trans ((OT.al hs).trans (OT.al (b := aA s) hs).symm))
  · refine Eq.trans ?_ (OT.aw (b := aA s) hs).symm
    show _ = some (⟨lA, ((ofP (pS s) a, ()), ())⟩ : j1.Y)
    rcases cC hs with rfl | rfl | rfl | rfl
    · rw [← Qh (a := a) (p := pS 0) (m := 16513537) (by decide +kernel) rfl]
      refine (OT.aw rfl).trans ((ah ?_).trans rfl)
      exact rfl
    · rw [← Qh (a := a) (p := pS 1) (m := 16521217) (by decide +kernel) rfl]
      refine (OT.al rfl).trans ((OT.aw rfl).trans ((ah ?_).trans rfl))
      exact rfl
    · exact Zi rfl rfl rfl
    · exact Zi rfl rfl rfl
def Ea : bL := (j1.aE Y4 an3)
theorem abr : aa Try.prog 17 Ea := agQ
theorem abp : aB Ea := ax
def SJ : Env := av 17 Ea n4
theorem GX : aN Try.prog SJ := ag abr kF
theorem GY : aq SJ := ab abp xF
theorem adF : aU Try.prog te SJ := aG follows ak GX GY
def fE : ao := ⟨[.val false .int, .val true .elem, .val true .elem], [], true, 0, false⟩
abbrev Jg : Type := ((Int) × (af) × (af) × Unit) × (Unit)
def ck : ar := ⟨[.val true .elem], [], false⟩
def PW : SV → Option ar := fun _ => some ck
def UU (a0 : Int) (a1 : af) (a2 : af) : OT fE.Y :=
  let z0 : Bool := aA a0
  let z1 : UInt64 := Of a0
  let z2 : Bool := !z1 == (0 : UInt64)
  let z3 : Nat := pS a0
  let z4 : af := ofP z3 a1
  let z5 := z4.w0
  let z6 : af := ofP z3 a2
  let z7 := z6.w0
  let z8 : af := { w0 := (z5 + z7) % z1, w1 := 0, w2 := 0, w3 := 0 }
  let z9 : af := { w0 := (z5 + (0 : UInt64)) % z1, w1 := 0, w2 := 0, w3 := 0 }
  let z10 : af := { w0 := ((0 : UInt64) + z7) % z1, w1 := 0, w2 := 0, w3 := 0 }
  let z11 : af := { w0 := 0 % z1, w1 := 0, w2 := 0, w3 := 0 }
  let z12 : af := { w0 := 0, w1 := 0, w2 := 0, w3 := 0 }
  (.br (a0 == (0 : Int))
  (.br (z0)
    (.br (z0)
      (gd [z2] (.ok ⟨ck, ((z8, ()), ())⟩))
      (gd [z2] (.ok ⟨ck, ((z9, ()), ())⟩)))
    (.br (z0)
      (gd [z2] (.ok ⟨ck, ((z10, ()), ())⟩))
      (gd [z2] (.ok ⟨ck, ((z11, ()), ())⟩))))
  (.br (a0 == (1 : Int))
    (.br (z0)
      (.br (z0)
        (gd [z2] (.ok ⟨ck, ((z8, ()), ())⟩))
        (gd [z2] (.ok ⟨ck, ((z9, ()), ())⟩)))
      (.br (z0)
        (gd [z2] (.ok ⟨ck, ((z10, ()), ())⟩))
        (gd [z2] (.ok ⟨ck, ((z11, ()), ())⟩))))
    (.br (z0)
      (.br (z0)
        (.br (z0)
          (.ok ⟨ck, ((ofP z3 (A5 z4 z6).fst, ()), ())⟩)
          (.ok ⟨ck, ((z12, ()), ())⟩))
        (.br (z0)
          (.ok ⟨ck, ((ofP z3 (A5 z4 z12).fst, ()), ())⟩)
          (.ok ⟨ck, ((z12, ()), ())⟩)))
      (.br (z0)
        (.br (z0)
          (.ok ⟨ck, ((ofP z3 (A5 z12 z6).fst, ()), ())⟩)
          (.ok ⟨ck, ((z12, ()), ())⟩))
        (.br (z0)
          (.ok ⟨ck, ((ofP z3 z12, ()), ())⟩)
          (.ok ⟨ck, ((z12, ()), ())⟩))))))
theorem aqE (x : Jg) (Q : fE.Y → Prop) : wpf te SJ au 1000 Try.f28 (fE.inp.inj x).tm (fE.inp.inj x).hp (fnK fE PW Q) (fun _ _ => False) = (UU (x.1.1) (x.1.2.1) (x.1.2.2.1)).wpR Q := by kernel_rfl
theorem abG (pre : Jg → Bool) (F : Jg → OT fE.Y) (hF : ∀ (x : Jg) oy, pre x = true → (F x).run = some oy → (UU (x.1.1) (x.1.2.1) (x.1.2.2.1)).run = some oy) : aa Try.prog 28 (fE.aE pre F) :=
  az ak GX adF (f := 28) (fn := Try.f28) (c := aj Try.f28) (by kernel_rfl) (by kernel_rfl) (by kernel_rfl) (S := fE) (k := 0) (by kernel_rfl) (fun R hR => ae) (n := 1000) (sel := PW) (fun v o h => by cases h; rfl) (pre := pre) (F := F) (T := fun x => UU (x.1.1) (x.1.2.1) (x.1.2.2.1)) (fun x Q => aqE x Q) hF
theorem wh {s : Int} (h : s = 0 ∨ s = 1) : pS s = (Of s).toNat ∧ 0 < (Of s).toNat ∧ (Of s).toNat ≤ 16521217 ∧ (!(Of s == 0)) = true := by
  rcases h with rfl | rfl <;> exact ⟨by decide +kernel, by decide +kernel, by decide +kernel, rfl⟩
theorem adx {s : Int} (h : s = 0 ∨ s = 1) (a b : af) : (⟨((ofP (pS s) a).w0 + (ofP (pS s) b).w0) % Of s, 0, 0, 0⟩ : af) = su (pS s) a b := by
  obtain ⟨hp, h0, h1, _⟩ := wh h
  rw [hp]
  generalize Of s = m at *
  have ha := Nat.mod_lt a.nat h0
  have hb := Nat.mod_lt b.nat h0
  have hc := Nat.mod_lt (a.nat + b.nat) h0
  unfold su
  rw [pf (by omega)]
  have e : ((ofP m.toNat a).w0 + (ofP m.toNat b).w0) % m = UInt64.ofNat ((a.nat + b.nat) % m.toNat) := by
    show (UInt64.ofNat (a.nat % m.toNat) + UInt64.ofNat (b.nat % m.toNat)) % m = _
    rw [← UInt64.toNat_inj, UInt64.toNat_mod, UInt64.toNat_add, UInt64.toNat_ofNat', UInt64.toNat_ofNat', UInt64.toNat_ofNat', Nat.mod_eq_of_lt (a := a.nat % m.toNat) (by omega), Nat.mod_eq_of_lt (a := b.nat % m.toNat) (by omega),
      Nat.mod_eq_of_lt (a := a.nat % m.toNat + b.nat % m.toNat) (by omega), Nat.mod_eq_of_lt (a := (a.nat + b.nat) % m.toNat) (by omega), ← Nat.add_mod]
  rw [e]
def Et (x : Jg) : Bool := aA x.1.1
def agY (x : Jg) : OT fE.Y := .ok ⟨ck, ((su (pS x.1.1) x.1.2.1 x.1.2.2.1, ()), ())⟩
theorem amd : aa Try.prog 28 (fE.aE Et agY) := abG _ _ fun x oy hp ho => by
  rw [← ho]
  clear ho
  obtain ⟨⟨s, a, b, ⟨⟩⟩, ⟨⟩⟩ := x
  have hs : aA s = true := hp
  show _ = some (⟨ck, ((su (pS s) a b, ()), ())⟩ : fE.Y)
  have little : (s = 0 ∨ s = 1) → (gd [!(Of s == 0)] (.ok ⟨ck, ((⟨((ofP (pS s) a).w0 + (ofP (pS s) b).w0) % Of s, 0, 0, 0⟩, ()), ())⟩) : OT fE.Y).run = some (⟨ck, ((su (pS s) a b, ()), ())⟩ : fE.Y) := fun h => by
    obtain ⟨_, _, _, hz⟩ := wh h
    rw [adx h]
    exact ah (by simp only [hz, List.all_cons, List.all_nil, Bool.and_true])
  by_cases h0 : s = 0
  · exact (OT.aw (by simpa using h0)).trans ((OT.aw hs).trans ((OT.aw hs).trans (little (.inl h0))))
  · refine (OT.al (by simpa using h0)).trans ?_
    by_cases h1 : s = 1
    · exact (OT.aw (by simpa using h1)).trans ((OT.aw hs).trans ((OT.aw hs).trans (little (.inr h1))))
    · refine (OT.al (by simpa using h1)).trans ((OT.aw hs).trans ((OT.aw hs).trans ((OT.aw hs).trans ?_)))
      have e : ofP (pS s) (A5 (ofP (pS s) a) (ofP (pS s) b)).1 = su (pS s) a b := ajM (Qe hs) a b
      show some (⟨ck, ((ofP (pS s) (A5 (ofP (pS s) a) (ofP (pS s) b)).1, ()), ())⟩ : fE.Y) = _
      rw [e]
def zn : bL := (fE.aE Et agY)
theorem UT : aa Try.prog 28 zn := amd
theorem US : aB zn := ax
def AO : Env := av 28 zn SJ
theorem sc : aN Try.prog AO := ag UT GX
theorem B2 : aq AO := ab US GY
theorem G1 : aU Try.prog te AO := aG follows ak sc B2
def fD : ao := ⟨[.val false .int, .val true .elem, .val true .elem], [], true, 0, false⟩
abbrev Ja : Type := ((Int) × (af) × (af) × Unit) × (Unit)
def vW : Shape := ⟨80, [(4, .ptr 0 0 0), (5, .ptr 1 0 0), (6, .ptr 2 0 0), (7, .ptr 3 0 0), (9, .ptr 4 0 0), (10, .val false .int)], [(0, .row .u64), (1, .row .u64), (2, .row .u64), (3, .row .u64), (4, .row .u64)], 0, true⟩
abbrev bM : Type := ((Unit) × (Unit) × (Unit) × (Unit) × (Unit) × (Int) × Unit) × ((List (UInt64)) × (List (UInt64)) × (List (UInt64)) × (List (UInt64)) × (List (UInt64)) × Unit)
def qY : Shape := ⟨80, [(6, .ptr 0 0 0), (9, .ptr 1 0 0)], [(0, .row .u64), (1, .row .u64)], 0, true⟩
abbrev j4 : Type := ((Unit) × (Unit) × Unit) × ((List (UInt64)) × (List (UInt64)) × Unit)
def Y6 : SE → Option Shape := iX [(0, qY)] none
def L3 (a10 : Int) (c0 : List (UInt64)) (c1 : List (UInt64)) (c2 : List (UInt64)) (c3 : List (UInt64)) (c4 : List (UInt64)) : OT (Sum bM aJ) :=
  let z0 : Nat := List.length c4
  let z1 : Bool := decide (4 ≤ z0)
  let z2 : af := { w0 := List.getD c4 0 0, w1 := List.getD c4 1 0, w2 := List.getD c4 2 0, w3 := List.getD c4 3 0 }
  let z3 := (A5 z2 z2).fst
  let z4 : List UInt64 := List.set (List.set (List.set (List.set c4 0 z3.w0) 1 z3.w1) 2 z3.w2) 3 z3.w3
  let z5 : Nat := List.length z4
  let z6 : Bool := decide (4 ≤ z5)
  let z7 : Bool := decide (4 ≤ List.length c3)
  let z8 : af := { w0 := List.getD z4 0 0, w1 := List.getD z4 1 0, w2 := List.getD z4 2 0, w3 := List.getD z4 3 0 }
  let z9 : af := { w0 := List.getD c3 0 0, w1 := List.getD c3 1 0, w2 := List.getD c3 2 0, w3 := List.getD c3 3 0 }
  let z10 : Nat := af.nat z9
  let z11 : Int := Int.tdiv a10 (64 : Int)
  let z12 : Bool := true && inR z11
  let z13 : Bool := inB z11 4
  let z14 : Bool := decide (Int.toNat z11 + 0 < List.length c1)
  let z15 := (jn z8 z9).fst
  let z16 : List UInt64 := List.set (List.set (List.set (List.set z4 0 z15.w0) 1 z15.w1) 2 z15.w2) 3 z15.w3
  let z17 : Nat := List.length z16
  let z18 : Bool := decide (4 ≤ List.length c0)
  let z19 : af := { w0 := List.getD c0 0 0, w1 := List.getD c0 1 0, w2 := List.getD c0 2 0, w3 := List.getD c0 3 0 }
  let z20 : af := (A5 { w0 := List.getD z16 0 0, w1 := List.getD z16 1 0, w2 := List.getD z16 2 0, w3 := List.getD z16 3 0 } z19).fst
  let z21 : List UInt64 := List.set (List.set (List.set (List.set z16 0 z20.w0) 1 z20.w1) 2 z20.w2) 3 z20.w3
  let z22 : Nat := List.length z21
  let z23 : Bool := decide (4 ≤ z22)
  let z24 : af := { w0 := List.getD z21 0 0, w1 := List.getD z21 1 0, w2 := List.getD z21 2 0, w3 := List.getD z21 3 0 }
  let z25 : Bool := inR (a10 - (1 : Int))
  let z26 := (jn z24 z9).fst
  let z27 := (A5 z8 z19).fst
  let z28 : List UInt64 := List.set (List.set (List.set (List.set z4 0 z27.w0) 1 z27.w1) 2 z27.w2) 3 z27.w3
  let z29 : Nat := List.length z28
  let z30 : Bool := decide (4 ≤ z29)
  let z31 : af := { w0 := List.getD z28 0 0, w1 := List.getD z28 1 0, w2 := List.getD z28 2 0, w3 := List.getD z28 3 0 }
  let z32 := (jn z31 z9).fst
  (.br (decide ((0 : Int) ≤ a10))
  (gd [z1, z1, decide ((4 / 1 : Nat) + 0 ≤ z0), z6, z7] (.br (!Nat.blt (af.nat z8) z10)
    (gd [z6, z7, decide ((4 / 1 : Nat) + 0 ≤ z5), z12, z13, z14] (.br (aX (List.getD c1 (Int.toNat z11 + 0) (0 : UInt64)) (↑(UInt64.toNat (i2u (Int.tmod a10 (64 : Int)))) : Int) &&& (1 : UInt64) == (1 : UInt64))
      (gd [decide (4 ≤ z17), z18, decide ((4 / 1 : Nat) + 0 ≤ z17), z23, z7] (.br (!Nat.blt (af.nat z24) z10)
        (gd [z23, z7, decide ((4 / 1 : Nat) + 0 ≤ z22), z25] (.ok (.inl (((), ((), ((), ((), ((), (a10 - (1 : Int), ())))))), (c0, (c1, (c2, (c3, (List.set (List.set (List.set (List.set z21 0 z26.w0) 1 z26.w1) 2 z26.w2) 3 z26.w3, ())))))))))
        (gd [z25] (.ok (.inl (((), ((), ((), ((), ((), (a10 - (1 : Int), ())))))), (c0, (c1, (c2, (c3, (z21, ())))))))))))
      (gd [z25] (.ok (.inl (((), ((), ((), ((), ((), (a10 - (1 : Int), ())))))), (c0, (c1, (c2, (c3, (z16, ())))))))))))
    (gd [z12, z13, z14] (.br (aX (List.getD c1 (Int.toNat z11 + 0) (0 : UInt64)) (↑(UInt64.toNat (i2u (Int.tmod a10 (64 : Int)))) : Int) &&& (1 : UInt64) == (1 : UInt64))
      (gd [z6, z18, decide ((4 / 1 : Nat) + 0 ≤ z5), z30, z7] (.br (!Nat.blt (af.nat z31) z10)
        (gd [z30, z7, decide ((4 / 1 : Nat) + 0 ≤ z29), z25] (.ok (.inl (((), ((), ((), ((), ((), (a10 - (1 : Int), ())))))), (c0, (c1, (c2, (c3, (List.set (List.set (List.set (List.set z28 0 z32.w0) 1 z32.w1) 2 z32.w2) 3 z32.w3, ())))))))))
        (gd [z25] (.ok (.inl (((), ((), ((), ((), ((), (a10 - (1 : Int), ())))))), (c0, (c1, (c2, (c3, (z28, ())))))))))))
      (gd [z25] (.ok (.inl (((), ((), ((), ((), ((), (a10 - (1 : Int), ())))))), (c0, (c1, (c2, (c3, (z4, ())))))))))))))
  (.ok (.inr ⟨(.exit 0, qY), (((), ((), ())), (c2, (c4, ())))⟩)))
def qZ (s : bM) : OT (Sum bM aJ) := L3 (s.1.2.2.2.2.2.1) (s.2.1) (s.2.2.1) (s.2.2.2.1) (s.2.2.2.2.1) (s.2.2.2.2.2.1)
theorem al9 (s : bM) (Q : Sum bM aJ → Prop) : wps te AO au 1000 (bq (aj Try.f30) 0) (vW.inj s) (cE vW Y6 (Q : Sum vW.T aJ → Prop)) = (qZ s).wpR Q := by kernel_rfl
def CK (g0_0 : bM → j4) (s : bM) : OT aJ := (.ok ⟨(.exit 0, qY), g0_0 s⟩)
def cM : ar := ⟨[.val true .elem], [], false⟩
def PL : SV → Option ar := fun _ => some cM
def UH (ok0 : bM → Bool) (g0_0 : bM → j4) (a0 : Int) (a1 : af) (a2 : af) : OT fD.Y :=
  let z0 : Bool := aA a0
  let z1 : UInt64 := Of a0
  let z2 : Bool := !z1 == (0 : UInt64)
  let z3 : Nat := pS a0
  let z4 : af := ofP z3 a1
  let z5 := z4.w0
  let z6 : af := ofP z3 a2
  let z7 := z6.w0
  let z8 : af := { w0 := z5 * z7 % z1, w1 := 0, w2 := 0, w3 := 0 }
  let z9 : af := { w0 := z5 * (0 : UInt64) % z1, w1 := 0, w2 := 0, w3 := 0 }
  let z10 : af := { w0 := 0 * z7 % z1, w1 := 0, w2 := 0, w3 := 0 }
  let z11 : af := { w0 := 0 % z1, w1 := 0, w2 := 0, w3 := 0 }
  let z12 : PUnit × PUnit × PUnit × PUnit × PUnit × Int × PUnit := ((), (), (), (), (), (255 : Int), ())
  let z13 : af := (dk (Int.toNat a0)).fst
  let z14 : List UInt64 × List UInt64 × List UInt64 × PUnit := ([(0 : UInt64), (0 : UInt64), (0 : UInt64), (0 : UInt64)], [z13.w0, z13.w1, z13.w2, z13.w3], [(0 : UInt64), (0 : UInt64), (0 : UInt64), (0 : UInt64)], ())
  let z15 : List UInt64 × List UInt64 × List UInt64 × List UInt64 × PUnit := ([z7, z6.w1, z6.w2, z6.w3], z14)
  let z16 : (PUnit × PUnit × PUnit × PUnit × PUnit × Int × PUnit) × List UInt64 × List UInt64 × List UInt64 × List UInt64 × List UInt64 × PUnit := (z12, [z5, z4.w1, z4.w2, z4.w3], z15)
  let z17 := (g0_0 z16).snd
  let z18 := z17.snd.fst
  let z19 := z17.fst
  let z20 : List UInt64 := lay z19 z18 4 (0 : UInt64)
  let z21 : List UInt64 × List UInt64 × List UInt64 × List UInt64 × PUnit := ([(0 : UInt64), (0 : UInt64), (0 : UInt64), (0 : UInt64)], z14)
  let z22 : (PUnit × PUnit × PUnit × PUnit × PUnit × Int × PUnit) × List UInt64 × List UInt64 × List UInt64 × List UInt64 × List UInt64 × PUnit := (z12, [z5, z4.w1, z4.w2, z4.w3], z21)
  let z23 := (g0_0 z22).snd
  let z24 := z23.snd.fst
  let z25 := z23.fst
  let z26 : List UInt64 := lay z25 z24 4 (0 : UInt64)
  let z27 : (PUnit × PUnit × PUnit × PUnit × PUnit × Int × PUnit) × List UInt64 × List UInt64 × List UInt64 × List UInt64 × List UInt64 × PUnit := (z12, [(0 : UInt64), (0 : UInt64), (0 : UInt64), (0 : UInt64)], z15)
  let z28 := (g0_0 z27).snd
  let z29 := z28.snd.fst
  let z30 := z28.fst
  let z31 : List UInt64 := lay z30 z29 4 (0 : UInt64)
  let z32 : (PUnit × PUnit × PUnit × PUnit × PUnit × Int × PUnit) × List UInt64 × List UInt64 × List UInt64 × List UInt64 × List UInt64 × PUnit := (z12, [(0 : UInt64), (0 : UInt64), (0 : UInt64), (0 : UInt64)], z21)
  let z33 := (g0_0 z32).snd
  let z34 := z33.snd.fst
  let z35 := z33.fst
  let z36 : List UInt64 := lay z35 z34 4 (0 : UInt64)
  (.br (a0 == (0 : Int))
  (.br (z0)
    (.br (z0)
      (gd [z2] (.ok ⟨cM, ((z8, ()), ())⟩))
      (gd [z2] (.ok ⟨cM, ((z9, ()), ())⟩)))
    (.br (z0)
      (gd [z2] (.ok ⟨cM, ((z10, ()), ())⟩))
      (gd [z2] (.ok ⟨cM, ((z11, ()), ())⟩))))
  (.br (a0 == (1 : Int))
    (.br (z0)
      (.br (z0)
        (gd [z2] (.ok ⟨cM, ((z8, ()), ())⟩))
        (gd [z2] (.ok ⟨cM, ((z9, ()), ())⟩)))
      (.br (z0)
        (gd [z2] (.ok ⟨cM, ((z10, ()), ())⟩))
        (gd [z2] (.ok ⟨cM, ((z11, ()), ())⟩))))
    (.br (z0)
      (.br (z0)
        (.br (z0)
          (gd [ok0 z16, decide (4 ≤ List.length z18), decide ((4 / 1 : Nat) + 0 ≤ List.length z19), decide (4 ≤ List.length z20)] (.ok ⟨cM, (({ w0 := List.getD z20 0 0, w1 := List.getD z20 1 0, w2 := List.getD z20 2 0, w3 := List.getD z20 3 0 }, ()), ())⟩))
          (gd [ok0 z22, decide (4 ≤ List.length z24), decide ((4 / 1 : Nat) + 0 ≤ List.length z25), decide (4 ≤ List.length z26)] (.ok ⟨cM, (({ w0 := List.getD z26 0 0, w1 := List.getD z26 1 0, w2 := List.getD z26 2 0, w3 := List.getD z26 3 0 }, ()), ())⟩)))
        (.br (z0)
          (gd [ok0 z27, decide (4 ≤ List.length z29), decide ((4 / 1 : Nat) + 0 ≤ List.length z30), decide (4 ≤ List.length z31)] (.ok ⟨cM, (({ w0 := List.getD z31 0 0, w1 := List.getD z31 1 0, w2 := List.getD z31 2 0, w3 := List.getD z31 3 0 }, ()), ())⟩))
          (gd [ok0 z32, decide (4 ≤ List.length z34), decide ((4 / 1 : Nat) + 0 ≤ List.length z35), decide (4 ≤ List.length z36)] (.ok ⟨cM, (({ w0 := List.getD z36 0 0, w1 := List.getD z36 1 0, w2 := List.getD z36 2 0, w3 := List.getD z36 3 0 }, ()), ())⟩))))
      (.ok ⟨cM, (({ w0 := 0, w1 := 0, w2 := 0, w3 := 0 }, ()), ())⟩))))
theorem aqB (ok0 : bM → Bool) (g0_0 : bM → j4) (x : Ja) (Q : fD.Y → Prop) : wpf te AO (bj 0 (cS vW 0 ok0 (CK g0_0)) au) 1000 Try.f30 (fD.inp.inj x).tm (fD.inp.inj x).hp (fnK fD PL Q) (fun _ _ => False) = (UH ok0 g0_0 (x.1.1) (x.1.2.1) (x.1.2.2.1)).wpR Q := by kernel_rfl
theorem abu (ok0 : bM → Bool) (g0_0 : bM → j4) (h0 : ∀ s : bM, ok0 s = true → ∃ m e, ay (qZ) m s = some e ∧ (CK g0_0 s).run = some e) (pre : Ja → Bool) (F : Ja → OT fD.Y) (hF : ∀ (x : Ja) oy, pre x = true → (F x).run = some oy → (UH ok0 g0_0 (x.1.1) (x.1.2.1) (x.1.2.2.1)).run = some oy) : aa Try.prog 30 (fD.aE pre F) :=
  az ak sc G1 (f := 30) (fn := Try.f30) (c := aj Try.f30) (by kernel_rfl) (by kernel_rfl) (by kernel_rfl) (S := fD) (k := 0) (by kernel_rfl) (fun R hR => (aH (c := (aj Try.f30)) (by kernel_rfl) (id := 0) (by kernel_rfl) (bg ak sc G1 (sh := vW) hR (xs := Y6) (aF (by kernel_rfl) (by kernel_rfl) hR) aS ae (n := 1000) (T := qZ) (fun s Q => al9 s Q) (ok := ok0) (f := CK g0_0) h0) ae)) (n := 1000) (sel := PL) (fun v o h => by cases h; rfl) (pre := pre) (F := F) (T := fun x => UH ok0 g0_0 (x.1.1) (x.1.2.1) (x.1.2.2.1)) (fun x Q => aqB ok0 g0_0 x Q) hF
theorem ab1 {s : Int} (h : s = 0 ∨ s = 1) (a b : af) : (⟨(ofP (pS s) a).w0 * (ofP (pS s) b).w0 % Of s, 0, 0, 0⟩ : af) = wb (pS s) a b := by
  obtain ⟨hp, h0, h1, _⟩ := wh h
  rw [hp]
  generalize Of s = m at *
  have ha := Nat.mod_lt a.nat h0
  have hb := Nat.mod_lt b.nat h0
  have hc := Nat.mod_lt (a.nat * b.nat) h0
  have hab : a.nat % m.toNat * (b.nat % m.toNat) < 18446744073709551616 := by
    have : a.nat % m.toNat * (b.nat % m.toNat) ≤ 16521217 * 16521217 := Nat.mul_le_mul (by omega) (by omega)
    omega
  unfold wb
  rw [pf (n := a.nat * b.nat % m.toNat) (by omega)]
  have e : (ofP m.toNat a).w0 * (ofP m.toNat b).w0 % m = UInt64.ofNat (a.nat * b.nat % m.toNat) := by
    show UInt64.ofNat (a.nat % m.toNat) * UInt64.ofNat (b.nat % m.toNat) % m = _
    rw [← UInt64.toNat_inj, UInt64.toNat_mod, UInt64.toNat_mul, UInt64.toNat_ofNat', UInt64.toNat_ofNat', UInt64.toNat_ofNat', Nat.mod_eq_of_lt (a := a.nat % m.toNat) (by omega), Nat.mod_eq_of_lt (a := b.nat % m.toNat) (by omega),
      Nat.mod_eq_of_lt (a := a.nat % m.toNat * (b.nat % m.toNat)) (by omega), Nat.mod_eq_of_lt (a := a.nat * b.nat % m.toNat) (by omega), ← Nat.mul_mod]
  rw [e]
def wH (p a b : Nat) (n o : Nat) : Nat := cond (ar8 b (255 - n)) ((2 * o % p + a) % p) (2 * o % p)
theorem aiK (p a b : Nat) (hb : b < 2 ^ 256) : ∀ n, n ≤ 256 → upto (wH p a b) 0 n = a * (b / 2 ^ (256 - n)) % p
  | 0, _ => by
    show 0 = _
    rw [Nat.div_eq_of_lt (by exact hb), Nat.mul_zero, Nat.zero_mod]
  | n + 1, hn => by
    show wH p a b n (upto (wH p a b) 0 n) = _
    rw [aiK p a b hb n (by omega)]
    have e1 : 256 - n = (255 - n) + 1 := by omega
    have e2 : 256 - (n + 1) = 255 - n := by omega
    rw [e1, e2, Nat.pow_succ, ← Nat.div_div_eq_div_mul]
    unfold wH ar8
    generalize b / 2 ^ (255 - n) = q
    have hd : 2 * (a * (q / 2) % p) % p = a * (2 * (q / 2)) % p := by
      rw [Nat.mul_mod, Nat.mod_mod, ← Nat.mul_mod, Nat.mul_left_comm]
    cases hq : Nat.beq (q % 2) 1
    · simp only [cond_false]
      have : ¬ q % 2 = 1 := fun e => by rw [e] at hq; cases hq
      rw [hd, show 2 * (q / 2) = q by omega]
    · have hq := Nat.eq_of_beq_eq_true hq
      simp only [cond_true]
      rw [hd, Nat.mod_add_mod]
      have e3 : a * (2 * (q / 2)) + a = a * q := by
        rw [← Nat.mul_succ, show (2 * (q / 2)).succ = q by omega]
      rw [e3]
theorem asH {z M : af} (h : Nat.blt z.nat M.nat = true) : z = ofN (z.nat % M.nat) := by
  rw [Nat.mod_eq_of_lt (dB h), Mo]
theorem ahk {n m : Nat} (h : Nat.blt n m = false) : m ≤ n := by
  rcases Nat.lt_or_ge n m with h' | h'
  · have : Nat.blt n m = true := Nat.ble_eq_true_of_le h'
    rw [this] at h; cases h
  · exact h'
theorem asG {z M : af} (h : Nat.blt z.nat M.nat = false) (h2 : z.nat < 2 * M.nat) : (jn z M).1 = ofN (z.nat % M.nat) := by
  have hle := ahk h
  have hz := mf z
  apply tK
  rw [uY hle, Nat.mod_eq_sub_mod hle, Nat.mod_eq_of_lt (by omega), lB (by omega)]
theorem sum_nat {a b : af} (h : a.nat + b.nat < 115792089237316195423570985008687907853269984665640564039457584007913129639936) : (A5 a b).1.nat = a.nat + b.nat := lB h
theorem E8 {k : Nat} (hk : k < 64) : (((i2u (k : Int)).toNat : Nat) : Int) = (k : Int) := by
  unfold i2u
  rw [UInt64.toNat_ofNat']
  omega
theorem atj {b : af} {n : Nat} (hn : n < 256) : (aX (List.getD (lst b) (Int.toNat (Int.tdiv (255 - (n : Int)) 64) + 0) 0) (((i2u (Int.tmod (255 - (n : Int)) 64)).toNat : Nat) : Int) &&& 1 == 1) = ar8 b.nat (255 - n) := by
  have t0 : (255 : Int) - (n : Int) = ((255 - n : Nat) : Int) := by omega
  rw [t0]
  generalize hk : 255 - n = k
  have hk2 : k < 256 := by omega
  have t1 : Int.tdiv (k : Int) 64 = ((k / 64 : Nat) : Int) := by rw [Int.tdiv_eq_ediv_of_nonneg (by omega)]; omega
  have t2 : Int.tmod (k : Int) 64 = ((k % 64 : Nat) : Int) := by rw [Int.tmod_eq_emod_of_nonneg (by omega)]; omega
  rw [t1, t2, E8 (by omega), ajq, eD _ _ (by omega), Int.toNat_natCast, Nat.add_zero]
  have := rL (a := b) (q := k / 64) (r := k % 64) (by omega) (by omega)
  rw [show 64 * (k / 64) + k % 64 = k by omega] at this
  unfold ar8
  rw [← this]
theorem auc (e f : af) : List.set (List.set (List.set (List.set (lst e) 0 f.w0) 1 f.w1) 2 f.w2) 3 f.w3 = lst f := rfl
theorem auj (e : af) : (⟨List.getD (lst e) 0 0, List.getD (lst e) 1 0, List.getD (lst e) 2 0, List.getD (lst e) 3 0⟩ : af) = e := rfl
def aiL (A B : af) (c2 : List UInt64) (M : af) (n o : Nat) : bM := (((), (), (), (), (), 255 - (n : Int), ()), (lst A, lst B, c2, lst M, lst (ofN o), ()))
theorem arC {A B M : af} {c2 : List UInt64} {n o : Nat} (hn : n < 256) (hA : A.nat < M.nat) (ho : o < M.nat) (hM : 2 * M.nat ≤ 115792089237316195423570985008687907853269984665640564039457584007913129639936) :
    (qZ (aiL A B c2 M n o)).run = some (.inl (aiL A B c2 M (n + 1) (wH M.nat A.nat B.nat n o))) := by
  have e2 : (255 : Int) - (n : Int) - 1 = 255 - ((n + 1 : Nat) : Int) := by omega
  have hO : (ofN o).nat = o := lB (by omega)
  have hz : (A5 (ofN o) (ofN o)).1.nat = 2 * o := by rw [sum_nat (by omega), hO]; omega
  have hbit := atj (b := B) hn
  have t0 : (255 : Int) - (n : Int) = ((255 - n : Nat) : Int) := by omega
  have t1 : Int.tdiv (255 - (n : Int)) 64 = (((255 - n) / 64 : Nat) : Int) := by rw [t0, Int.tdiv_eq_ediv_of_nonneg (by omega)]; omega
  have gb : ∀ z : OT (Sum bM aJ), (gd [true && inR (Int.tdiv (255 - (n : Int)) 64), inB (Int.tdiv (255 - (n : Int)) 64) 4, decide (Int.toNat (Int.tdiv (255 - (n : Int)) 64) + 0 < (lst B).length)] z).run = z.run := fun z => ah (by
    simp only [t1, Int.toNat_natCast, Nat.add_zero, dl, List.all_cons, List.all_nil, Bool.and_true, Bool.true_and, Bool.and_eq_true]
    exact ⟨aK (by omega), aI (by omega), decide_eq_true (by omega)⟩)
  have gb2 : ∀ z : OT (Sum bM aJ), (gd [true, true, true, true && inR (Int.tdiv (255 - (n : Int)) 64), inB (Int.tdiv (255 - (n : Int)) 64) 4, decide (Int.toNat (Int.tdiv (255 - (n : Int)) 64) + 0 < (lst B).length)] z).run = z.run := fun z => ah (by
    simp only [t1, Int.toNat_natCast, Nat.add_zero, dl, List.all_cons, List.all_nil, Bool.and_true, Bool.true_and, Bool.and_eq_true]
    exact ⟨aK (by omega), aI (by omega), decide_eq_true (by omega)⟩)
  have hi : inR ((255 : Int) - (n : Int) - 1) = true := aK (by omega)
  have gi : ∀ z : OT (Sum bM aJ), (gd [inR ((255 : Int) - (n : Int) - 1)] z).run = z.run := fun z => ah (by simp only [hi, List.all_cons, List.all_nil, Bool.and_true])
  have gi2 : ∀ z : OT (Sum bM aJ), (gd [true, true, true, inR ((255 : Int) - (n : Int) - 1)] z).run = z.run := fun z => ah (by simp only [hi, List.all_cons, List.all_nil, Bool.and_true])
  -- behind the doubling
  have tail : ∀ D : af, D = ofN (2 * o % M.nat) →
      (OT.br (aX (List.getD (lst B) (Int.toNat (Int.tdiv (255 - (n : Int)) 64) + 0) 0) (((i2u (Int.tmod (255 - (n : Int)) 64)).toNat : Nat) : Int) &&& 1 == 1)
        (gd [true, true, true, true, true] (OT.br (!Nat.blt (A5 D A).1.nat M.nat)
          (gd [true, true, true, inR ((255 : Int) - (n : Int) - 1)] (.ok (.inl (((), (), (), (), (), (255 : Int) - (n : Int) - 1, ()), (lst A, lst B, c2, lst M, lst (jn (A5 D A).1 M).1, ())))))
          (gd [inR ((255 : Int) - (n : Int) - 1)] (.ok (.inl (((), (), (), (), (), (255 : Int) - (n : Int) - 1, ()), (lst A, lst B, c2, lst M, lst (A5 D A).1, ())))))))
        (gd [inR ((255 : Int) - (n : Int) - 1)] (.ok (.inl (((), (), (), (), (), (255 : Int) - (n : Int) - 1, ()), (lst A, lst B, c2, lst M, lst D, ()))))) : OT (Sum bM aJ)).run
      = some (.inl (aiL A B c2 M (n + 1) (wH M.nat A.nat B.nat n o))) := fun D hD => by
    rw [hbit, e2]
    rw [e2] at gi gi2
    have hlt := Nat.mod_lt (2 * o) (show 0 < M.nat by omega)
    have hDn : D.nat = 2 * o % M.nat := by rw [hD]; exact lB (by omega)
    have hw : (A5 D A).1.nat = 2 * o % M.nat + A.nat := by rw [sum_nat (by omega), hDn]
    unfold wH
    rcases (Bool.eq_false_or_eq_true (ar8 B.nat (255 - n))).symm with hb | hb
    · rw [hb, hD]
      exact (OT.al rfl).trans (gi _)
    · rw [hb]
      refine (OT.aw rfl).trans ((ah rfl).trans ?_)
      rcases (Bool.eq_false_or_eq_true (Nat.blt (A5 D A).1.nat M.nat)).symm with hc | hc
      · have er := asG hc (by omega)
        rw [hw] at er
        refine (OT.aw (by rw [hc]; rfl)).trans ((gi2 _).trans ?_)
        rw [er]
        rfl
      · have er := asH hc
        rw [hw] at er
        refine (OT.al (by rw [hc]; rfl)).trans ((gi _).trans ?_)
        rw [er]
        rfl
  show (L3 (255 - (n : Int)) (lst A) (lst B) c2 (lst M) (lst (ofN o))).run = _
  unfold L3
  simp only [auc, auj, dl]
  refine (OT.aw (decide_eq_true (by omega))).trans ((ah rfl).trans ?_)
  rcases (Bool.eq_false_or_eq_true (Nat.blt (A5 (ofN o) (ofN o)).1.nat M.nat)).symm with hc | hc
  · have er := asG hc (by omega)
    rw [hz] at er
    exact (OT.aw (b := !Nat.blt (A5 (ofN o) (ofN o)).1.nat M.nat) (by rw [hc]; rfl)).trans ((gb2 _).trans (tail _ er))
  · have er := asH hc
    rw [hz] at er
    exact (OT.al (b := !Nat.blt (A5 (ofN o) (ofN o)).1.nat M.nat) (by rw [hc]; rfl)).trans ((gb _).trans (tail _ er))
def PM (s : bM) : Bool := decide (s.1.2.2.2.2.2.1 = 255 ∧ s.2.1.length = 4 ∧ s.2.2.1.length = 4 ∧ s.2.2.2.2.1.length = 4 ∧ s.2.2.2.2.2.1 = [0, 0, 0, 0] ∧ (elemOf s.2.1).nat < (elemOf s.2.2.2.2.1).nat ∧ 2 * (elemOf s.2.2.2.2.1).nat ≤ 115792089237316195423570985008687907853269984665640564039457584007913129639936)
def Y7 (s : bM) : j4 := (((), (), ()), (s.2.2.2.1, lst (ofN ((elemOf s.2.1).nat * (elemOf s.2.2.1).nat % (elemOf s.2.2.2.2.1).nat)), ()))
theorem amb : ∀ s : bM, PM s = true → ∃ m e, ay qZ m s = some e ∧ (CK Y7 s).run = some e := by
  rintro ⟨⟨⟨⟩, ⟨⟩, ⟨⟩, ⟨⟩, ⟨⟩, i, ⟨⟩⟩, ⟨l0, l1, c2, l3, l4, ⟨⟩⟩⟩ h
  have h' := of_decide_eq_true h
  dsimp only at h'
  obtain ⟨rfl, h0, h1, h3, rfl, hA, hM⟩ := h'
  obtain ⟨A, rfl⟩ : ∃ a, l0 = lst a := ⟨elemOf l0, (bR h0).symm⟩
  obtain ⟨B, rfl⟩ : ∃ a, l1 = lst a := ⟨elemOf l1, (bR h1).symm⟩
  obtain ⟨M, rfl⟩ : ∃ a, l3 = lst a := ⟨elemOf l3, (bR h3).symm⟩
  have hA : A.nat < M.nat := hA
  have := (aT (T := qZ) (aiL A B c2 M) (wH M.nat A.nat B.nat)
    (fun o => (⟨(.exit 0, qY), (((), (), ()), (c2, lst (ofN o), ()))⟩ : aJ)) 256 0 (fun _ o => o < M.nat) (by omega) (fun n o hn ho => ⟨arC hn hA ho hM, ?_⟩) (fun o ho => ?_)).1
  · rw [aiK M.nat A.nat B.nat (mf B) 256 (by omega), Nat.sub_self, Nat.pow_zero, Nat.div_one] at this
    obtain ⟨m, hm⟩ := this
    exact ⟨m, _, hm, rfl⟩
  · unfold wH
    cases ar8 B.nat (255 - n)
    · exact Nat.mod_lt _ (by omega)
    · exact Nat.mod_lt _ (by omega)
  · exact OT.al (decide_eq_false (by dsimp only [aiL]; omega))
def o1 (x : Ja) : Bool := aA x.1.1
def agS (x : Ja) : OT fD.Y := .ok ⟨cM, ((wb (pS x.1.1) x.1.2.1 x.1.2.2.1, ()), ())⟩
theorem ahn {s : Int} (hs : aA s = true) (a b : af) : ofN ((ofP (pS s) a).nat * (ofP (pS s) b).nat % pS s) = wb (pS s) a b := by
  have hp := Qe hs
  unfold ofP wb
  rw [m9 hp, m9 hp, ← Nat.mul_mod]
theorem ama : aa Try.prog 30 (fD.aE o1 agS) := abu PM Y7 amb _ _ fun x oy hp ho => by
  rw [← ho]
  clear ho
  obtain ⟨⟨s, a, b, ⟨⟩⟩, ⟨⟩⟩ := x
  have hs : aA s = true := hp
  show _ = some (⟨cM, ((wb (pS s) a b, ()), ())⟩ : fD.Y)
  have little : (s = 0 ∨ s = 1) → (gd [!(Of s == 0)] (.ok ⟨cM, ((⟨(ofP (pS s) a).w0 * (ofP (pS s) b).w0 % Of s, 0, 0, 0⟩, ()), ())⟩) : OT fD.Y).run = some (⟨cM, ((wb (pS s) a b, ()), ())⟩ : fD.Y) := fun h => by
    obtain ⟨_, _, _, hz⟩ := wh h
    rw [ab1 h]
    exact ah (by simp only [hz, List.all_cons, List.all_nil, Bool.and_true])
  by_cases h0 : s = 0
  · exact (OT.aw (by simpa using h0)).trans ((OT.aw hs).trans ((OT.aw hs).trans (little (.inl h0))))
  · refine (OT.al (by simpa using h0)).trans ?_
    by_cases h1 : s = 1
    · exact (OT.aw (by simpa using h1)).trans ((OT.aw hs).trans ((OT.aw hs).trans (little (.inr h1))))
    · refine (OT.al (by simpa using h1)).trans ((OT.aw hs).trans ((OT.aw hs).trans ((OT.aw hs).trans ?_)))
      have hpp := Qe hs
      have hA : (ofP (pS s) a).nat < pS s := by
        show (ofN _).nat < _
        rw [m9 hpp]
        exact Nat.mod_lt _ hpp.1
      refine (ah ?_).trans ?_
      · simp only [List.all_cons, List.all_nil, Bool.and_true, Bool.and_eq_true]
        exact ⟨decide_eq_true ⟨rfl, rfl, rfl, rfl, rfl, hA, (by show 2 * pS s ≤ _; omega)⟩, rfl, rfl, rfl⟩
      · rw [← ahn hs]
        show some (⟨cM, ((elemOf (lay [0, 0, 0, 0] (lst (ofN ((ofP (pS s) a).nat * (ofP (pS s) b).nat % pS s))) 4 0), ()), ())⟩ : fD.Y) = _
        rw [auh _ _ rfl rfl]
        rfl
def zh : bL := (fD.aE o1 agS)
theorem UG : aa Try.prog 30 zh := ama
theorem UF : aB zh := ax
def WS : Env := av 30 zh AO
theorem adG : aN Try.prog WS := ag UG sc
theorem SK : aq WS := ab UF B2
end Go.Proofs.Ytohjofabochgfaa

namespace Go.Proofs.Ytohjofabochgfaa
namespace Sx
open Go Go.RowKit Go.ChangeShapes Go.WideShapes Go.ChangeAt
section
variable {H : Type} {enc : TypeId × Value → H} {P : Program} {te : TE} (hte : li P te) {w : World} {sp : Nat → Bool}
include hte
theorem TT {T e : TypeId} {ti ei : TI} (hT : te T = some ti) (hd : ti.desc = .slice e) (hei : te e = some ei) {ad : Option Addr} {n cap : Nat} {d : DataW H} {ps : List MemPlace}
    (h : DataW.Trod enc P w 0 sp true T (.slice ad n cap) d ps) (hw : ∀ n ∈ d.weights P T, n ≤ reachBytes) : n * ei.bytes ≤ reachBytes := by
  obtain ⟨fuel, hr⟩ := h
  obtain ⟨ds, hu, hds⟩ := (hte T ti hT).desc
  rw [hd] at hds
  simp only at hds
  subst hds
  cases fuel with
  | zero => simp [DataW.trod] at hr
  | succ fuel =>
    have hone : (Value.slice ad n cap).cells.toList = [.slice ad n cap] := rfl
    rw [hone] at hr
    simp only [DataW.trod, hu] at hr
    cases ad with
    | none =>
      rcases n with _ | n
      · rw [Nat.zero_mul]; exact Nat.zero_le _
      · cases cap <;> cases hr
    | some a =>
      simp only at hr
      split at hr
      · simp only [Option.bind_eq_some_iff, Option.map_eq_some_iff] at hr
        obtain ⟨elems, hm, rest, _, hx⟩ := hr
        cases hx
        obtain ⟨m1, _⟩ := zD hm
        rw [List.length_range] at m1
        have hwt := hw ((elems.length + rest.length) * P.bytesOf e) (by simp [DataW.weights, hu])
        rw [Km hte hei] at hwt
        refine Nat.le_trans (Nat.mul_le_mul_right _ ?_) hwt
        omega
      · cases hr
end
end Sx
end Go.Proofs.Ytohjofabochgfaa

namespace Go.Proofs.Ytohjofabochgfaa
namespace Sx
open Go
theorem OT.NE {α β : Type} {f : α → OT β} : ∀ {t : OT α} {a : α} {b : β}, t.run = some a → (f a).run = some b → (t.bind f).run = some b
  | .ok x, a, b, h, h2 => by
    cases h
    exact h2
  | .br c x y, a, b, h, h2 => by
    cases c
    · exact OT.NE (t := y) h h2
    · exact OT.NE (t := x) h h2
  | .fail, a, b, h, _ => by cases h
theorem m6 {P : Program} {n : FuncId} {S : ao} {pre pre' : S.T → Bool} {F F' : S.T → OT S.Y} (h : aa P n (S.aE pre F))
    (hw : ∀ x oy, pre' x = true → (F' x).run = some oy → pre x = true ∧ (F x).run = some oy) : aa P n (S.aE pre' F') := by
  refine ⟨fun R w d args vs out hm hr hrun => h.calls R w d args vs out hm hr ?_⟩
  simp only [ao.aE] at hrun ⊢
  split at hrun
  · cases hrun
  · rename_i x hx
    obtain ⟨hp, hrun⟩ := OT.aD hrun
    obtain ⟨oy, h1, h2⟩ := OT.run_bind hrun
    obtain ⟨h3, h4⟩ := hw x oy hp h1
    rw [h3]
    exact OT.NE h4 h2
end Sx
end Go.Proofs.Ytohjofabochgfaa
