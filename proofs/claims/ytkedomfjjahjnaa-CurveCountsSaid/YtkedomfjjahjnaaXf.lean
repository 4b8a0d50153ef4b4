/- A symbolic machine for Go code over plain data, and functions of the program as it shows them. No statement is proved in this file. -/
import Derived.KernelRfl
import Derived.Test.YtkedomfjjahjnaaXe
set_option linter.unusedSimpArgs false
set_option linter.unusedVariables false
set_option linter.unusedSectionVars false

namespace Go.Proofs.Ytkedomfjjahjnaa
theorem Pr.euclidZ {p : Nat} (h : Pr p) {a b : Int} (hd : (p : Int) ∣ a * b) : (p : Int) ∣ a ∨ (p : Int) ∣ b := by
  rw [Int.ofNat_dvd_left, Int.natAbs_mul] at hd
  rcases h.euclid hd with h1 | h1
  · exact .inl (Int.ofNat_dvd_left.2 h1)
  · exact .inr (Int.ofNat_dvd_left.2 h1)
def nm (p : Nat) (z : Int) : Nat := (z % (p : Int)).toNat
theorem nm_cast {p : Nat} (hp : 0 < p) (z : Int) : ((nm p z : Nat) : Int) = z % (p : Int) := by
  unfold nm
  have := Int.emod_nonneg z (show (p : Int) ≠ 0 by omega)
  omega
theorem nm_dvd {p : Nat} (hp : 0 < p) (z : Int) : (p : Int) ∣ ((nm p z : Nat) : Int) - z := by
  rw [nm_cast hp]
  have := Int.emod_add_mul_ediv z p
  exact ⟨-(z / p), by grind⟩
theorem nm_lt {p : Nat} (hp : 0 < p) (z : Int) : nm p z < p := by
  have h := nm_cast hp z
  have := Int.emod_lt_of_pos z (show (0 : Int) < p by omega)
  omega
theorem same_of {p a b : Nat} (ha : a < p) (hb : b < p) (h : (p : Int) ∣ (a : Int) - (b : Int)) : a = b := by
  obtain ⟨k, hk⟩ := h
  have hpk : (p : Int) * k < p * 1 ∧ (p : Int) * (-1) < p * k := by constructor <;> omega
  have h1 := Int.lt_of_mul_lt_mul_left hpk.1 (by omega)
  have h2 := Int.lt_of_mul_lt_mul_left hpk.2 (by omega)
  have : k = 0 := by omega
  subst this
  omega
theorem nm_same {p : Nat} (hp : 0 < p) {a b : Int} (h : (p : Int) ∣ a - b) : nm p a = nm p b := by
  refine same_of (nm_lt hp a) (nm_lt hp b) ?_
  obtain ⟨k, hk⟩ := h
  obtain ⟨k1, h1⟩ := nm_dvd hp a
  obtain ⟨k2, h2⟩ := nm_dvd hp b
  exact ⟨k + k1 - k2, by grind⟩
theorem nm_of {p a : Nat} {z : Int} (ha : a < p) (h : (p : Int) ∣ (a : Int) - z) : nm p z = a := by
  have hp : 0 < p := by omega
  refine same_of (nm_lt hp z) ha ?_
  obtain ⟨k, hk⟩ := h
  obtain ⟨k2, h2⟩ := nm_dvd hp z
  exact ⟨k2 - k, by grind⟩
def invZ (p : Nat) (a : Int) : Int := ((nm p a ^ (p - 2) : Nat) : Int)
theorem invZ_of {p : Nat} (h : Pr p) {a : Int} (ha : ¬ (p : Int) ∣ a) : (p : Int) ∣ a * invZ p a - 1 := by
  have hp := h.pos
  have h2 := h.1
  obtain ⟨k, hk⟩ := nm_dvd hp a
  have hn : ¬ p ∣ nm p a := fun hd => by
    obtain ⟨c, hc⟩ := Int.natCast_dvd_natCast.2 hd
    exact ha ⟨c - k, by grind⟩
  have hf := fermat h hn
  have e : nm p a ^ (p - 1) = nm p a * nm p a ^ (p - 2) := by
    rw [show p - 1 = (p - 2) + 1 by omega, Nat.pow_succ, Nat.mul_comm]
  rw [e] at hf
  have hd := Nat.div_add_mod (nm p a * nm p a ^ (p - 2)) p
  rw [hf] at hd
  unfold invZ
  generalize nm p a ^ (p - 2) = i at *
  have hd2 : ((p : Nat) : Int) * ((nm p a * i / p : Nat) : Int) + 1 = (nm p a : Int) * (i : Int) := by
    have := congrArg (fun n : Nat => (n : Int)) hd
    simp only [Int.natCast_add, Int.natCast_mul] at this
    exact this
  exact ⟨((nm p a * i / p : Nat) : Int) - k * i, by grind⟩
structure Cur (p b : Nat) : Prop where
  pr : Pr p
  big : 5 ≤ p
  n2 : ∀ x : Int, ¬ (p : Int) ∣ x * x * x + b
theorem Cur.pos {p b : Nat} (c : Cur p b) : 0 < p := c.pr.pos
theorem Cur.no2 {p b : Nat} (c : Cur p b) : ¬ (p : Int) ∣ 2 := fun h => by
  have := Int.le_of_dvd (by decide) h
  have := c.big
  omega
theorem Cur.no3 {p b : Nat} (c : Cur p b) : ¬ (p : Int) ∣ 3 := fun h => by
  have := Int.le_of_dvd (by decide) h
  have := c.big
  omega
theorem Cur.no4 {p b : Nat} (c : Cur p b) : ¬ (p : Int) ∣ 4 := fun h => by
  have := Int.le_of_dvd (by decide) h
  have := c.big
  omega
abbrev Cv (p b : Nat) (x y : Int) : Prop := (p : Int) ∣ y * y - x * x * x - b
theorem Cur.yne {p b : Nat} (c : Cur p b) {x y : Int} (h : Cv p b x y) : ¬ (p : Int) ∣ y := fun hy => by
  obtain ⟨k, hk⟩ := h
  obtain ⟨m, hm⟩ := hy
  exact c.n2 x ⟨m * y - k, by grind⟩
abbrev PtQ : Type := Option (Nat × Nat)
def OnQ (p b : Nat) : PtQ → Prop
  | none => True
  | some P => P.1 < p ∧ P.2 < p ∧ Cv p b P.1 P.2
structure Lin (p : Nat) (x1 y1 x2 y2 l : Int) : Prop where
  a : (p : Int) ∣ l * (x1 - x2) - (y1 - y2)
  b : (p : Int) ∣ l * (y1 + y2) - (x1 * x1 + x1 * x2 + x2 * x2)
structure Thd (p : Nat) (x1 y1 x2 l x3 y3 : Int) : Prop where
  x : (p : Int) ∣ x3 - (l * l - x1 - x2)
  y : (p : Int) ∣ y3 - (l * (x1 - x3) - y1)
def slopeQ (p : Nat) (P R : Nat × Nat) : Int := if P.1 = R.1 then 3 * P.1 * P.1 * invZ p (P.2 + P.2) else ((R.2 : Int) - P.2) * invZ p ((R.1 : Int) - P.1)
def thirdQ (p : Nat) (P R : Nat × Nat) (l : Int) : Nat × Nat := (nm p (l * l - P.1 - R.1), nm p (l * (P.1 - nm p (l * l - P.1 - R.1)) - P.2))
def addQ (p : Nat) : PtQ → PtQ → PtQ
  | none, R => R
  | some P, none => some P
  | some P, some R => if P.1 = R.1 ∧ P.2 ≠ R.2 then none else some (thirdQ p P R (slopeQ p P R))
def negQ (p : Nat) : PtQ → PtQ
  | none => none
  | some P => some (P.1, nm p (-P.2))
variable {p b : Nat}
theorem slope_lin (c : Cur p b) {P R : Nat × Nat} (hP : OnQ p b (some P)) (hR : OnQ p b (some R)) (h : ¬(P.1 = R.1 ∧ P.2 ≠ R.2)) : Lin p P.1 P.2 R.1 R.2 (slopeQ p P R) := by
  obtain ⟨x1, y1⟩ := P
  obtain ⟨x2, y2⟩ := R
  obtain ⟨hx1, hy1, hc1⟩ := hP
  obtain ⟨hx2, hy2, hc2⟩ := hR
  dsimp only at *
  unfold slopeQ
  dsimp only
  by_cases e : x1 = x2
  · have e2 : y1 = y2 := Classical.byContradiction fun h2 => h ⟨e, h2⟩
    subst e e2
    rw [if_pos rfl]
    have hn : ¬ (p : Int) ∣ (y1 : Int) + y1 := fun hd => by
      rw [← Int.two_mul] at hd
      rcases c.pr.euclidZ hd with h1 | h1
      · exact c.no2 h1
      · exact c.yne hc1 h1
    obtain ⟨k, hk⟩ := invZ_of c.pr hn
    generalize invZ p ((y1 : Int) + y1) = i at *
    exact ⟨⟨0, by grind⟩, ⟨3 * x1 * x1 * k, by grind⟩⟩
  · rw [if_neg e]
    have hn : ¬ (p : Int) ∣ (x2 : Int) - x1 := fun hd => e (same_of hx2 hx1 hd).symm
    have hn' : ¬ (p : Int) ∣ (x1 : Int) - x2 := fun ⟨k, hk⟩ => hn ⟨-k, by grind⟩
    obtain ⟨k, hk⟩ := invZ_of c.pr hn
    generalize invZ p ((x2 : Int) - x1) = i at *
    have ha : (p : Int) ∣ ((y2 : Int) - y1) * i * ((x1 : Int) - x2) - (y1 - y2) := ⟨(y1 - y2) * k, by grind⟩
    refine ⟨ha, ?_⟩
    have hc1' : (p : Int) ∣ (y1 : Int) * y1 - x1 * x1 * x1 - b := hc1
    have hc2' : (p : Int) ∣ (y2 : Int) * y2 - x2 * x2 * x2 - b := hc2
    rcases c.pr.euclidZ (chord_b hc1' hc2' ha) with h1 | h1
    · exact absurd h1 hn'
    · exact h1
theorem lin_same (c : Cur p b) {x1 y1 x2 y2 l m : Int} (hy : ¬ (p : Int) ∣ y1) (h1 : Lin p x1 y1 x2 y2 l) (h2 : Lin p x1 y1 x2 y2 m) : (p : Int) ∣ l - m := by
  obtain ⟨k1, e1⟩ := h1.a
  obtain ⟨k2, e2⟩ := h2.a
  obtain ⟨k3, e3⟩ := h1.b
  obtain ⟨k4, e4⟩ := h2.b
  rcases c.pr.euclidZ (a := l - m) (b := x1 - x2) ⟨k1 - k2, by grind⟩ with h | h
  · exact h
  · rcases c.pr.euclidZ (a := l - m) (b := y1 + y2) ⟨k3 - k4, by grind⟩ with h' | h'
    · exact h'
    · obtain ⟨m1, f1⟩ := h
      obtain ⟨m2, f2⟩ := h'
      rcases c.pr.euclidZ (a := 2) (b := y1) ⟨l * m1 - k1 + m2, by grind⟩ with h3 | h3
      · exact absurd h3 c.no2
      · exact absurd h3 hy
theorem sum_of (c : Cur p b) {P R S : Nat × Nat} {l : Int} (hP : OnQ p b (some P)) (hR : OnQ p b (some R)) (hl : Lin p P.1 P.2 R.1 R.2 l) (hS1 : S.1 < p) (hS2 : S.2 < p)
    (ht : Thd p P.1 P.2 R.1 l S.1 S.2) : addQ p (some P) (some R) = some S := by
  have hn : ¬(P.1 = R.1 ∧ P.2 ≠ R.2) := fun ⟨e1, e2⟩ => by
    obtain ⟨k, hk⟩ := hl.a
    rw [e1] at hk
    exact e2 (same_of hP.2.1 hR.2.1 ⟨-k, by grind⟩)
  have hs := slope_lin c hP hR hn
  obtain ⟨k, hk⟩ := lin_same c (c.yne hP.2.2) hs hl
  have : addQ p (some P) (some R) = some (thirdQ p P R (slopeQ p P R)) := if_neg hn
  rw [this]
  congr 1
  generalize slopeQ p P R = s at *
  obtain ⟨k1, h1⟩ := ht.x
  obtain ⟨k2, h2⟩ := ht.y
  have ex : nm p (s * s - P.1 - R.1) = S.1 := nm_of hS1 ⟨k1 - k * (s + l), by grind⟩
  unfold thirdQ
  rw [ex]
  have ey : nm p (s * ((P.1 : Int) - S.1) - P.2) = S.2 := nm_of hS2 ⟨k2 - k * (P.1 - S.1), by grind⟩
  rw [ey]
theorem of_sum (c : Cur p b) {P R S : Nat × Nat} (hP : OnQ p b (some P)) (hR : OnQ p b (some R)) (h : addQ p (some P) (some R) = some S) :
    S.1 < p ∧ S.2 < p ∧ ∃ l, Lin p P.1 P.2 R.1 R.2 l ∧ Thd p P.1 P.2 R.1 l S.1 S.2 := by
  by_cases hn : P.1 = R.1 ∧ P.2 ≠ R.2
  · have : addQ p (some P) (some R) = none := if_pos hn
    rw [this] at h
    cases h
  · have hs := slope_lin c hP hR hn
    have : addQ p (some P) (some R) = some (thirdQ p P R (slopeQ p P R)) := if_neg hn
    rw [this] at h
    cases h
    exact ⟨nm_lt c.pos _, nm_lt c.pos _, _, hs, nm_dvd c.pos _, nm_dvd c.pos _⟩
theorem on_neg (c : Cur p b) {P : PtQ} (h : OnQ p b P) : OnQ p b (negQ p P) := by
  cases P with
  | none => trivial
  | some P =>
    obtain ⟨k, hk⟩ := nm_dvd c.pos (-(P.2 : Int))
    obtain ⟨m, hm⟩ := h.2.2
    exact ⟨h.1, nm_lt c.pos _, ⟨m + k * ((nm p (-(P.2 : Int)) : Int) - P.2), by show ((nm p (-(P.2 : Int)) : Nat) : Int) * (nm p (-(P.2 : Int)) : Nat) - (P.1 : Int) * P.1 * P.1 - b = _; grind⟩⟩
theorem on_add (c : Cur p b) {P R : PtQ} (hP : OnQ p b P) (hR : OnQ p b R) : OnQ p b (addQ p P R) := by
  cases P with
  | none => exact hR
  | some P =>
    cases R with
    | none => exact hP
    | some R =>
      cases h : addQ p (some P) (some R) with
      | none => trivial
      | some S =>
        obtain ⟨h1, h2, l, hl, ht⟩ := of_sum c hP hR h
        exact ⟨h1, h2, thd_on ht.y ht.x hl.a hl.b hP.2.2⟩
theorem opp_of (c : Cur p b) {P R : Nat × Nat} (hP : OnQ p b (some P)) (hR : OnQ p b (some R)) (h : P.1 = R.1 ∧ P.2 ≠ R.2) : some R = negQ p (some P) := by
  obtain ⟨x1, y1⟩ := P
  obtain ⟨x2, y2⟩ := R
  obtain ⟨hx1, hy1, hc1⟩ := hP
  obtain ⟨hx2, hy2, hc2⟩ := hR
  dsimp only at *
  obtain ⟨rfl, hne⟩ := h
  obtain ⟨k1, e1⟩ := hc1
  obtain ⟨k2, e2⟩ := hc2
  rcases c.pr.euclidZ (a := (y1 : Int) - y2) (b := (y1 : Int) + y2) ⟨k1 - k2, by grind⟩ with h | h
  · exact absurd (same_of hy1 hy2 h) hne
  · obtain ⟨k, hk⟩ := h
    have : nm p (-(y1 : Int)) = y2 := nm_of hy2 ⟨k, by grind⟩
    show _ = some (x1, nm p (-(y1 : Int)))
    rw [this]
theorem add_none (P : PtQ) : addQ p P none = P := by cases P <;> rfl
theorem none_add (P : PtQ) : addQ p none P = P := rfl
theorem add_neg (c : Cur p b) {P : PtQ} (hP : OnQ p b P) : addQ p P (negQ p P) = none := by
  cases P with
  | none => rfl
  | some P =>
    refine if_pos ⟨rfl, fun e => ?_⟩
    have e : P.2 = nm p (-(P.2 : Int)) := e
    obtain ⟨k, hk⟩ := nm_dvd c.pos (-(P.2 : Int))
    rw [← e] at hk
    rcases c.pr.euclidZ (a := 2) (b := (P.2 : Int)) ⟨k, by grind⟩ with h | h
    · exact c.no2 h
    · exact c.yne hP.2.2 h
theorem neg_neg (c : Cur p b) {P : PtQ} (hP : OnQ p b P) : negQ p (negQ p P) = P := by
  cases P with
  | none => rfl
  | some P =>
    obtain ⟨k, hk⟩ := nm_dvd c.pos (-(P.2 : Int))
    have : nm p (-((nm p (-(P.2 : Int)) : Nat) : Int)) = P.2 := nm_of hP.2.1 ⟨k, by grind⟩
    show some (P.1, nm p (-((nm p (-(P.2 : Int)) : Nat) : Int))) = _
    rw [this]
theorem add_comm (c : Cur p b) {P R : PtQ} (hP : OnQ p b P) (hR : OnQ p b R) : addQ p P R = addQ p R P := by
  cases P with
  | none => exact (add_none R).symm
  | some P =>
    cases R with
    | none => rfl
    | some R =>
      cases h : addQ p (some P) (some R) with
      | none =>
        by_cases hn : P.1 = R.1 ∧ P.2 ≠ R.2
        · exact (if_pos ⟨hn.1.symm, fun e => hn.2 e.symm⟩).symm
        · have : addQ p (some P) (some R) = some (thirdQ p P R (slopeQ p P R)) := if_neg hn
          rw [this] at h
          cases h
      | some S =>
        obtain ⟨h1, h2, l, hl, ht⟩ := of_sum c hP hR h
        obtain ⟨k1, e1⟩ := hl.a
        obtain ⟨k2, e2⟩ := hl.b
        obtain ⟨k3, e3⟩ := ht.x
        exact (sum_of c hR hP (l := l) ⟨⟨-k1, by grind⟩, ⟨k2, by grind⟩⟩ h1 h2 ⟨⟨k3, by grind⟩, thd_sym ht.y hl.a⟩).symm
theorem neg_b {p l x1 x2 y1 y2 z1 z2 k2 k5 k6 : Int} (e2 : l * (y1 + y2) - (x1 * x1 + x1 * x2 + x2 * x2) = p * k2) (e5 : z1 - -y1 = p * k5) (e6 : z2 - -y2 = p * k6) :
    -l * (z1 + z2) - (x1 * x1 + x1 * x2 + x2 * x2) = p * (k2 - l * (k5 + k6)) := by grind
theorem back_c {p l x1 x3 y1 y3 z1 k2 k5 : Int} (e2 : -l * (-y1 + y3) - (x1 * x1 + x1 * x3 + x3 * x3) = p * k2) (e5 : z1 - -y1 = p * k5) :
    -l * (z1 + y3) - (x1 * x1 + x1 * x3 + x3 * x3) = p * (k2 - l * k5) := by grind
theorem neg_add (c : Cur p b) {P R : PtQ} (hP : OnQ p b P) (hR : OnQ p b R) : negQ p (addQ p P R) = addQ p (negQ p P) (negQ p R) := by
  cases P with
  | none => rfl
  | some P =>
    cases R with
    | none => rfl
    | some R =>
      have hP' := on_neg c hP
      have hR' := on_neg c hR
      obtain ⟨k5, e5⟩ := nm_dvd c.pos (-(P.2 : Int))
      obtain ⟨k6, e6⟩ := nm_dvd c.pos (-(R.2 : Int))
      cases h : addQ p (some P) (some R) with
      | none =>
        by_cases hn : P.1 = R.1 ∧ P.2 ≠ R.2
        · have := opp_of c hP hR hn
          rw [this, add_neg c hP']
          rfl
        · have : addQ p (some P) (some R) = some (thirdQ p P R (slopeQ p P R)) := if_neg hn
          rw [this] at h
          cases h
      | some S =>
        obtain ⟨h1, h2, l, hl, ht⟩ := of_sum c hP hR h
        obtain ⟨k1, e1⟩ := hl.a
        obtain ⟨k2, e2⟩ := hl.b
        obtain ⟨k3, e3⟩ := ht.x
        obtain ⟨k4, e4⟩ := ht.y
        obtain ⟨k7, e7⟩ := nm_dvd c.pos (-(S.2 : Int))
        have g1 : Lin p ((P.1 : Nat) : Int) ((nm p (-(P.2 : Int)) : Nat) : Int) ((R.1 : Nat) : Int) ((nm p (-(R.2 : Int)) : Nat) : Int) (-l) :=
          ⟨⟨-k1 - k5 + k6, by grind⟩, ⟨k2 - l * (k5 + k6), neg_b e2 e5 e6⟩⟩
        have g2 : Thd p ((P.1 : Nat) : Int) ((nm p (-(P.2 : Int)) : Nat) : Int) ((R.1 : Nat) : Int) (-l) ((S.1 : Nat) : Int) ((nm p (-(S.2 : Int)) : Nat) : Int) :=
          ⟨⟨k3, by grind⟩, ⟨-k4 + k7 + k5, by grind⟩⟩
        exact (sum_of c (P := (P.1, nm p (-(P.2 : Int)))) (R := (R.1, nm p (-(R.2 : Int)))) (S := (S.1, nm p (-(S.2 : Int)))) hP' hR' g1 h1 (nm_lt c.pos _) g2).symm
theorem cancel (c : Cur p b) {P R : PtQ} (hP : OnQ p b P) (hR : OnQ p b R) : addQ p (negQ p P) (addQ p P R) = R := by
  cases P with
  | none => rfl
  | some P =>
    have hP' := on_neg c hP
    cases R with
    | none =>
      rw [add_none, add_comm c hP' hP, add_neg c hP]
    | some R =>
      cases h : addQ p (some P) (some R) with
      | none =>
        by_cases hn : P.1 = R.1 ∧ P.2 ≠ R.2
        · rw [add_none]
          exact (opp_of c hP hR hn).symm
        · have : addQ p (some P) (some R) = some (thirdQ p P R (slopeQ p P R)) := if_neg hn
          rw [this] at h
          cases h
      | some S =>
        have hS := on_add c hP hR
        rw [h] at hS
        obtain ⟨h1, h2, l, hl, ht⟩ := of_sum c hP hR h
        obtain ⟨k1, e1⟩ := hl.a
        obtain ⟨k2, e2⟩ := back_b ht.y ht.x hl.a hl.b
        obtain ⟨k3, e3⟩ := ht.x
        obtain ⟨k4, e4⟩ := ht.y
        obtain ⟨k5, e5⟩ := nm_dvd c.pos (-(P.2 : Int))
        have g1 : Lin p ((P.1 : Nat) : Int) ((nm p (-(P.2 : Int)) : Nat) : Int) ((S.1 : Nat) : Int) ((S.2 : Nat) : Int) (-l) :=
          ⟨⟨k4 - k5, by grind⟩, ⟨k2 - l * k5, back_c e2 e5⟩⟩
        have g2 : Thd p ((P.1 : Nat) : Int) ((nm p (-(P.2 : Int)) : Nat) : Int) ((S.1 : Nat) : Int) (-l) ((R.1 : Nat) : Int) ((R.2 : Nat) : Int) :=
          ⟨⟨k3, by grind⟩, ⟨k1 + k5, by grind⟩⟩
        exact sum_of c (P := (P.1, nm p (-(P.2 : Int)))) hP' hS g1 hR.1 hR.2.1 g2
theorem none_of (c : Cur p b) {P R : PtQ} (hP : OnQ p b P) (hR : OnQ p b R) (h : addQ p P R = none) : R = negQ p P := by
  have := cancel c hP hR
  rw [h, add_none] at this
  exact this.symm
theorem out_two (c : Cur p b) {u v z : Int} (hu : ¬ (p : Int) ∣ u) (hv : ¬ (p : Int) ∣ v) (h : (p : Int) ∣ u * v * z) : (p : Int) ∣ z := by
  rcases c.pr.euclidZ h with h | h
  · rcases c.pr.euclidZ h with h | h
    · exact absurd h hu
    · exact absurd h hv
  · exact h
theorem out_four (c : Cur p b) {z : Int} (h : (p : Int) ∣ 4 * z) : (p : Int) ∣ z := (c.pr.euclidZ h).resolve_left c.no4
theorem pair_of {X Y : Nat × Nat} (h1 : X.1 = Y.1) (h2 : X.2 = Y.2) : X = Y := by
  obtain ⟨X1, X2⟩ := X
  obtain ⟨Y1, Y2⟩ := Y
  dsimp only at h1 h2
  rw [h1, h2]
theorem assoc_same (c : Cur p b) {P1 P2 P3 S T X Y : Nat × Nat} (h1 : OnQ p b (some P1)) (h2 : OnQ p b (some P2)) (h3 : OnQ p b (some P3)) (hS : addQ p (some P1) (some P2) = some S) (hT : addQ p (some P2) (some P3) = some T)
    (hX : addQ p (some S) (some P3) = some X) (hY : addQ p (some P1) (some T) = some Y) (d1 : (p : Int) ∣ (S.1 : Int) - P3.1) : X = Y := by
  have oS := on_add c h1 h2
  have oT := on_add c h2 h3
  rw [hS] at oS
  rw [hT] at oT
  obtain ⟨hS1, hS2, l, l1, l2⟩ := of_sum c h1 h2 hS
  obtain ⟨hT1, hT2, m, m1, m2⟩ := of_sum c h2 h3 hT
  obtain ⟨hX1, hX2, L, L1, L2⟩ := of_sum c oS h3 hX
  obtain ⟨hY1, hY2, M, M1, M2⟩ := of_sum c h1 oT hY
  have n2 := c.yne h2.2.2
  have n3 := c.yne h3.2.2
  have hx := out_two c n2 n3 (out_four c (by rw [← Int.mul_assoc]; exact ass_1x l1.a m1.a l2.x l2.y m2.x m2.y L2.x M2.x l1.b m1.b L1.a L1.b M1.a d1))
  have hy := out_two c n2 n3 (out_four c (by rw [← Int.mul_assoc]; exact ass_1y l1.a m1.a l2.x l2.y m2.x m2.y L2.y M2.x M2.y l1.b m1.b L1.a L1.b M1.a d1 hx))
  exact pair_of (same_of hX1 hY1 hx) (same_of hX2 hY2 hy)
theorem add_assoc (c : Cur p b) {P R T : PtQ} (hP : OnQ p b P) (hR : OnQ p b R) (hT : OnQ p b T) : addQ p (addQ p P R) T = addQ p P (addQ p R T) := by
  have hPR := on_add c hP hR
  have hRT := on_add c hR hT
  have nP := on_neg c hP
  have nR := on_neg c hR
  have nT := on_neg c hT
  by_cases hA : addQ p P R = none
  · rw [hA, none_add]
    have e := none_of c hP hR hA
    have e2 : P = negQ p R := by rw [e, neg_neg c hP]
    rw [e2, cancel c hR hT]
  by_cases hB : addQ p R T = none
  · rw [hB, add_none]
    have e := none_of c hR hT hB
    rw [e, add_comm c hPR nR, add_comm c hP hR, cancel c hR hP]
  by_cases hC : addQ p (addQ p P R) T = none
  · rw [hC]
    have e := none_of c hPR hT hC
    rw [e, neg_add c hP hR, add_comm c nP nR]
    have := cancel c nR nP
    rw [neg_neg c hR] at this
    rw [this, add_neg c hP]
  by_cases hD : addQ p P (addQ p R T) = none
  · rw [hD]
    have e := none_of c hRT hP (by rw [add_comm c hRT hP]; exact hD)
    rw [e, neg_add c hR hT]
    have h3 := cancel c nR nT
    rw [neg_neg c hR] at h3
    rw [add_comm c (on_add c nR nT) hR, h3, add_comm c nT hT, add_neg c hT]
  cases P with
  | none => rfl
  | some P1 =>
  cases R with
  | none => rw [add_none, none_add]
  | some P2 =>
  cases T with
  | none => rw [add_none, add_none]
  | some P3 =>
  cases hS : addQ p (some P1) (some P2) with
  | none => exact absurd hS hA
  | some S =>
  cases hT' : addQ p (some P2) (some P3) with
  | none => exact absurd hT' hB
  | some T =>
  rw [hS] at hPR hC
  rw [hT'] at hRT hD
  cases hX : addQ p (some S) (some P3) with
  | none => exact absurd hX hC
  | some X =>
  cases hY : addQ p (some P1) (some T) with
  | none => exact absurd hY hD
  | some Y =>
  obtain ⟨hS1, hS2, l, l1, l2⟩ := of_sum c hP hR hS
  obtain ⟨hT1, hT2, m, m1, m2⟩ := of_sum c hR hT hT'
  obtain ⟨hX1, hX2, L, L1, L2⟩ := of_sum c hPR hT hX
  obtain ⟨hY1, hY2, M, M1, M2⟩ := of_sum c hP hRT hY
  congr 1
  by_cases d1 : (p : Int) ∣ (S.1 : Int) - P3.1
  · exact assoc_same c hP hR hT hS hT' hX hY d1
  by_cases d2 : (p : Int) ∣ (P1.1 : Int) - T.1
  · rw [add_comm c hR hT] at hT'
    rw [add_comm c hP hR] at hS
    rw [add_comm c hPR hT] at hX
    rw [add_comm c hP hRT] at hY
    exact (assoc_same c hT hR hP hT' hS hY hX (by obtain ⟨k, hk⟩ := d2; exact ⟨-k, by rw [Int.mul_neg, ← hk]; omega⟩)).symm
  · have hx := out_two c d1 d2 (ass_gx l1.a m1.a l2.x l2.y m2.x m2.y L2.x M2.x l1.b m1.b L1.a M1.a)
    have hy := out_two c d1 d2 (ass_gy l1.a m1.a l2.x l2.y m2.x m2.y L2.x L2.y M2.x M2.y l1.b m1.b L1.a M1.a hx)
    exact pair_of (same_of hX1 hY1 hx) (same_of hX2 hY2 hy)
end Go.Proofs.Ytkedomfjjahjnaa

namespace Go.Proofs.Ytkedomfjjahjnaa
set_option maxRecDepth 100000
theorem dbl_x {p xs z3 yz x3 s2 mm m b1 s a1 yy Y X l y x z : Int} (h0 : p ∣ xs-(l*l-x-x)) (h1 : p ∣ l*(y+y)-(x*x+x*x+x*x)) (h2 : p ∣ z3-(yz*2)) (h3 : p ∣ yz-(Y*z)) (h4 : p ∣ x3-(mm-s2)) (h5 : p ∣ s2-(s*2)) (h6 : p ∣ mm-(m*m)) (h7 : p ∣ m-(b1*3)) (h8 : p ∣ b1-(X*X)) (h9 : p ∣ s-(a1*4)) (h10 : p ∣ a1-(X*yy)) (h11 : p ∣ yy-(Y*Y)) (h12 : p ∣ X-x*(z*z)) (h13 : p ∣ Y-y*(z*z*z)) : p ∣ (x3-xs*(z3*z3)) :=
  dk (dc (-z3*z3) h0 (dc (-2*Y*l*z*z*z*z*z - 3*x*x*z*z*z*z*z*z*z*z) h1 (dc (-z3*l*l + 2*z3*x - 2*yz*l*l + 4*yz*x) h2 (dc (-4*yz*l*l + 8*yz*x - 4*Y*l*l*z + 8*Y*x*z) h3 (dc (1) h4 (dc (-1) h5 (dc (1) h6 (dc (m + 3*b1) h7 (dc (9*b1 + 9*X*X) h8 (dc (-2) h9 (dc (-8) h10 (dc (-8*X) h11 (dc (-8*Y*Y + 9*X*X*X + 9*X*X*x*z*z + 9*X*x*x*z*z*z*z + 9*x*x*x*z*z*z*z*z*z) h12 (dc (-4*Y*l*l*z*z - 6*l*x*x*z*z*z*z*z) h13 (dz p))))))))))))))) (by clear h0 h1 h2 h3 h4 h5 h6 h7 h8 h9 h10 h11 h12 h13; grind)
theorem dbl_y {p ys xs z3 yz y3 y8 y4 md d x3 s2 mm m b1 s a1 yy Y X l y x z : Int} (h0 : p ∣ ys-(l*(x-xs)-y)) (h1 : p ∣ xs-(l*l-x-x)) (h2 : p ∣ l*(y+y)-(x*x+x*x+x*x)) (h3 : p ∣ z3-(yz*2)) (h4 : p ∣ yz-(Y*z)) (h5 : p ∣ y3-(md-y8)) (h6 : p ∣ y8-(y4*8)) (h7 : p ∣ y4-(yy*yy)) (h8 : p ∣ md-(m*d)) (h9 : p ∣ d-(s-x3)) (h10 : p ∣ x3-(mm-s2)) (h11 : p ∣ s2-(s*2)) (h12 : p ∣ mm-(m*m)) (h13 : p ∣ m-(b1*3)) (h14 : p ∣ b1-(X*X)) (h15 : p ∣ s-(a1*4)) (h16 : p ∣ a1-(X*yy)) (h17 : p ∣ yy-(Y*Y)) (h18 : p ∣ X-x*(z*z)) (h19 : p ∣ Y-y*(z*z*z)) : p ∣ (y3-ys*(z3*z3*z3)) :=
  dk (dc (-z3*z3*z3) h0 (dc (z3*z3*z3*l) h1 (dc (4*Y*Y*l*l*z*z*z*z*z*z - 12*Y*Y*x*z*z*z*z*z*z + 6*Y*l*x*x*z*z*z*z*z*z*z*z*z + 9*x*x*x*x*z*z*z*z*z*z*z*z*z*z*z*z) h2 (dc (z3*z3*l*l*l - 3*z3*z3*l*x + z3*z3*y + 2*z3*yz*l*l*l - 6*z3*yz*l*x + 2*z3*yz*y + 4*yz*yz*l*l*l - 12*yz*yz*l*x + 4*yz*yz*y) h3 (dc (8*yz*yz*l*l*l - 24*yz*yz*l*x + 8*yz*yz*y + 8*yz*Y*l*l*l*z - 24*yz*Y*l*x*z + 8*yz*Y*y*z + 8*Y*Y*l*l*l*z*z - 24*Y*Y*l*x*z*z + 8*Y*Y*y*z*z) h4 (dc (1) h5 (dc (-1) h6 (dc (-8) h7 (dc (1) h8 (dc (m) h9 (dc (-m) h10 (dc (m) h11 (dc (-m) h12 (dc (-m*m - 3*m*b1 - 9*b1*b1 + 3*s) h13 (dc (-27*b1*b1 - 27*b1*X*X + 9*s - 27*X*X*X*X) h14 (dc (9*X*X) h15 (dc (36*X*X) h16 (dc (-8*yy - 8*Y*Y + 36*X*X*X) h17 (dc (36*Y*Y*X*X + 36*Y*Y*X*x*z*z + 36*Y*Y*x*x*z*z*z*z - 27*X*X*X*X*X - 27*X*X*X*X*x*z*z - 27*X*X*X*x*x*z*z*z*z - 27*X*X*x*x*x*z*z*z*z*z*z - 27*X*x*x*x*x*z*z*z*z*z*z*z*z - 27*x*x*x*x*x*z*z*z*z*z*z*z*z*z*z) h18 (dc (-8*Y*Y*Y + 8*Y*Y*l*l*l*z*z*z - 24*Y*Y*l*x*z*z*z + 12*Y*l*l*x*x*z*z*z*z*z*z + 18*l*x*x*x*x*z*z*z*z*z*z*z*z*z) h19 (dz p))))))))))))))))))))) (by clear h0 h1 h2 h3 h4 h5 h6 h7 h8 h9 h10 h11 h12 h13 h14 h15 h16 h17 h18 h19; grind)
theorem dbl_z {p z3 yz Y y z : Int} (h0 : p ∣ z3-(yz*2)) (h1 : p ∣ yz-(Y*z)) (h2 : p ∣ Y-y*(z*z*z)) : p ∣ (z3-2*(y*(z*(z*(z*z))))) :=
  dk (dc (1) h0 (dc (2) h1 (dc (2*z) h2 (dz p)))) (by clear h0 h1 h2; grind)
theorem add_h {p h v u qz pz X2 X1 x1 x2 z1 z2 : Int} (h0 : p ∣ h-(v-u)) (h1 : p ∣ v-(X2*pz)) (h2 : p ∣ u-(X1*qz)) (h3 : p ∣ qz-(z2*z2)) (h4 : p ∣ pz-(z1*z1)) (h5 : p ∣ X1-x1*(z1*z1)) (h6 : p ∣ X2-x2*(z2*z2)) : p ∣ (h-(x2-x1)*(z1*z1*(z2*z2))) :=
  dk (dc (1) h0 (dc (1) h1 (dc (-1) h2 (dc (-X1) h3 (dc (X2) h4 (dc (-z2*z2) h5 (dc (z1*z1) h6 (dz p)))))))) (by clear h0 h1 h2 h3 h4 h5 h6; grind)
theorem add_r {p r t p3 s q3 qz pz Y2 Y1 y1 y2 z1 z2 : Int} (h0 : p ∣ r-(t-s)) (h1 : p ∣ t-(Y2*p3)) (h2 : p ∣ p3-(pz*z1)) (h3 : p ∣ s-(Y1*q3)) (h4 : p ∣ q3-(qz*z2)) (h5 : p ∣ qz-(z2*z2)) (h6 : p ∣ pz-(z1*z1)) (h7 : p ∣ Y1-y1*(z1*z1*z1)) (h8 : p ∣ Y2-y2*(z2*z2*z2)) : p ∣ (r-(y2-y1)*(z1*z1*z1*(z2*z2*z2))) :=
  dk (dc (1) h0 (dc (1) h1 (dc (Y2) h2 (dc (-1) h3 (dc (-Y1) h4 (dc (-Y1*z2) h5 (dc (Y2*z1) h6 (dc (-z2*z2*z2) h7 (dc (z1*z1*z1) h8 (dz p)))))))))) (by clear h0 h1 h2 h3 h4 h5 h6 h7 h8; grind)
theorem add_x {p xs z3 zz x3 c2 rh rr cc hhh hh r t p3 h v s q3 u qz pz Y2 X2 Y1 X1 y2 y1 l x1 x2 z1 z2 : Int} (h0 : p ∣ xs-(l*l-x1-x2)) (h1 : p ∣ l*(x1-x2)-(y1-y2)) (h2 : p ∣ z3-(h*zz)) (h3 : p ∣ zz-(z1*z2)) (h4 : p ∣ x3-(rh-c2)) (h5 : p ∣ c2-(cc*2)) (h6 : p ∣ rh-(rr-hhh)) (h7 : p ∣ rr-(r*r)) (h8 : p ∣ cc-(u*hh)) (h9 : p ∣ hhh-(hh*h)) (h10 : p ∣ hh-(h*h)) (h11 : p ∣ r-(t-s)) (h12 : p ∣ t-(Y2*p3)) (h13 : p ∣ p3-(pz*z1)) (h14 : p ∣ h-(v-u)) (h15 : p ∣ v-(X2*pz)) (h16 : p ∣ s-(Y1*q3)) (h17 : p ∣ q3-(qz*z2)) (h18 : p ∣ u-(X1*qz)) (h19 : p ∣ qz-(z2*z2)) (h20 : p ∣ pz-(z1*z1)) (h21 : p ∣ X1-x1*(z1*z1)) (h22 : p ∣ Y1-y1*(z1*z1*z1)) (h23 : p ∣ X2-x2*(z2*z2)) (h24 : p ∣ Y2-y2*(z2*z2*z2)) : p ∣ (x3-xs*(z3*z3)) :=
  dk (dc (-z3*z3) h0 (dc (Y2*z1*z1*z1*z1*z1*z1*z2*z2*z2 - l*x1*z1*z1*z1*z1*z1*z1*z2*z2*z2*z2*z2*z2 + l*x2*z1*z1*z1*z1*z1*z1*z2*z2*z2*z2*z2*z2 - y1*z1*z1*z1*z1*z1*z1*z2*z2*z2*z2*z2*z2) h1 (dc (-z3*l*l + z3*x1 + z3*x2 - zz*h*l*l + zz*h*x1 + zz*h*x2) h2 (dc (-zz*h*h*l*l + zz*h*h*x1 + zz*h*h*x2 - h*h*l*l*z1*z2 + h*h*x1*z1*z2 + h*h*x2*z1*z2) h3 (dc (1) h4 (dc (-1) h5 (dc (1) h6 (dc (1) h7 (dc (-2) h8 (dc (-1) h9 (dc (-h - 2*u) h10 (dc (r + t - s) h11 (dc (t + p3*Y2 - 2*s) h12 (dc (p3*Y2*Y2 - 2*s*Y2 + pz*Y2*Y2*z1) h13 (dc (-h*h - h*v - h*u - h*l*l*z1*z1*z2*z2 + h*x1*z1*z1*z2*z2 + h*x2*z1*z1*z2*z2 - v*v - v*l*l*z1*z1*z2*z2 + v*x1*z1*z1*z2*z2 + v*x2*z1*z1*z2*z2 + u*u + u*l*l*z1*z1*z2*z2 - u*x1*z1*z1*z2*z2 - u*x2*z1*z1*z2*z2) h14 (dc (-v*v + v*u - v*pz*X2 - v*l*l*z1*z1*z2*z2 + v*x1*z1*z1*z2*z2 + v*x2*z1*z1*z2*z2 + u*u + u*pz*X2 + 2*u*l*l*z1*z1*z2*z2 - 2*u*x1*z1*z1*z2*z2 - 2*u*x2*z1*z1*z2*z2 - pz*pz*X2*X2 - pz*X2*l*l*z1*z1*z2*z2 + pz*X2*x1*z1*z1*z2*z2 + pz*X2*x2*z1*z1*z2*z2) h15 (dc (s + q3*Y1 - 2*pz*Y2*z1) h16 (dc (q3*Y1*Y1 + qz*Y1*Y1*z2 - 2*pz*Y2*Y1*z1) h17 (dc (-u*u - u*qz*X1 + u*pz*X2 - u*l*l*z1*z1*z2*z2 + u*x1*z1*z1*z2*z2 + u*x2*z1*z1*z2*z2 - qz*qz*X1*X1 + qz*pz*X2*X1 - qz*X1*l*l*z1*z1*z2*z2 + qz*X1*x1*z1*z1*z2*z2 + qz*X1*x2*z1*z1*z2*z2 + pz*pz*X2*X2 + 2*pz*X2*l*l*z1*z1*z2*z2 - 2*pz*X2*x1*z1*z1*z2*z2 - 2*pz*X2*x2*z1*z1*z2*z2) h18 (dc (-qz*qz*X1*X1*X1 + qz*pz*X2*X1*X1 + qz*Y1*Y1*z2*z2 - qz*X1*X1*X1*z2*z2 - qz*X1*X1*l*l*z1*z1*z2*z2 + qz*X1*X1*x1*z1*z1*z2*z2 + qz*X1*X1*x2*z1*z1*z2*z2 + pz*pz*X2*X2*X1 - 2*pz*Y2*Y1*z1*z2 + pz*X2*X1*X1*z2*z2 + 2*pz*X2*X1*l*l*z1*z1*z2*z2 - 2*pz*X2*X1*x1*z1*z1*z2*z2 - 2*pz*X2*X1*x2*z1*z1*z2*z2 + Y1*Y1*z2*z2*z2*z2 - X1*X1*X1*z2*z2*z2*z2 - X1*X1*l*l*z1*z1*z2*z2*z2*z2 + X1*X1*x1*z1*z1*z2*z2*z2*z2 + X1*X1*x2*z1*z1*z2*z2*z2*z2) h19 (dc (-pz*pz*X2*X2*X2 + pz*Y2*Y2*z1*z1 - pz*X2*X2*X2*z1*z1 + pz*X2*X2*X1*z2*z2 - pz*X2*X2*l*l*z1*z1*z2*z2 + pz*X2*X2*x1*z1*z1*z2*z2 + pz*X2*X2*x2*z1*z1*z2*z2 + Y2*Y2*z1*z1*z1*z1 - 2*Y2*Y1*z1*z2*z2*z2 - X2*X2*X2*z1*z1*z1*z1 + X2*X2*X1*z1*z1*z2*z2 - X2*X2*l*l*z1*z1*z1*z1*z2*z2 + X2*X2*x1*z1*z1*z1*z1*z2*z2 + X2*X2*x2*z1*z1*z1*z1*z2*z2 + X2*X1*X1*z2*z2*z2*z2 + 2*X2*X1*l*l*z1*z1*z2*z2*z2*z2 - 2*X2*X1*x1*z1*z1*z2*z2*z2*z2 - 2*X2*X1*x2*z1*z1*z2*z2*z2*z2) h20 (dc (X2*X2*z1*z1*z1*z1*z2*z2 + X2*X1*z1*z1*z2*z2*z2*z2 + 2*X2*l*l*z1*z1*z1*z1*z2*z2*z2*z2 - X2*x1*z1*z1*z1*z1*z2*z2*z2*z2 - 2*X2*x2*z1*z1*z1*z1*z2*z2*z2*z2 - X1*X1*z2*z2*z2*z2*z2*z2 - X1*l*l*z1*z1*z2*z2*z2*z2*z2*z2 + X1*x2*z1*z1*z2*z2*z2*z2*z2*z2 - l*l*x1*z1*z1*z1*z1*z2*z2*z2*z2*z2*z2 + x1*x2*z1*z1*z1*z1*z2*z2*z2*z2*z2*z2) h21 (dc (-2*Y2*z1*z1*z1*z2*z2*z2 + Y1*z2*z2*z2*z2*z2*z2 + y1*z1*z1*z1*z2*z2*z2*z2*z2*z2) h22 (dc (-X2*X2*z1*z1*z1*z1*z1*z1 - X2*l*l*z1*z1*z1*z1*z1*z1*z2*z2 + 2*X2*x1*z1*z1*z1*z1*z1*z1*z2*z2 + 2*l*l*x1*z1*z1*z1*z1*z1*z1*z2*z2*z2*z2 - l*l*x2*z1*z1*z1*z1*z1*z1*z2*z2*z2*z2 - x1*x1*z1*z1*z1*z1*z1*z1*z2*z2*z2*z2) h23 (dc (Y2*z1*z1*z1*z1*z1*z1 - l*x1*z1*z1*z1*z1*z1*z1*z2*z2*z2 + l*x2*z1*z1*z1*z1*z1*z1*z2*z2*z2 - y1*z1*z1*z1*z1*z1*z1*z2*z2*z2) h24 (dz p)))))))))))))))))))))))))) (by clear h0 h1 h2 h3 h4 h5 h6 h7 h8 h9 h10 h11 h12 h13 h14 h15 h16 h17 h18 h19 h20 h21 h22 h23 h24; grind)
theorem add_y {p ys xs z3 zz y3 sh rd d x3 c2 rh rr cc hhh hh r t p3 h v s q3 u qz pz Y2 X2 Y1 X1 y2 y1 l x1 x2 z1 z2 : Int} (h0 : p ∣ ys-(l*(x1-xs)-y1)) (h1 : p ∣ xs-(l*l-x1-x2)) (h2 : p ∣ l*(x1-x2)-(y1-y2)) (h3 : p ∣ z3-(h*zz)) (h4 : p ∣ zz-(z1*z2)) (h5 : p ∣ y3-(rd-sh)) (h6 : p ∣ sh-(s*hhh)) (h7 : p ∣ rd-(r*d)) (h8 : p ∣ d-(cc-x3)) (h9 : p ∣ x3-(rh-c2)) (h10 : p ∣ c2-(cc*2)) (h11 : p ∣ rh-(rr-hhh)) (h12 : p ∣ rr-(r*r)) (h13 : p ∣ cc-(u*hh)) (h14 : p ∣ hhh-(hh*h)) (h15 : p ∣ hh-(h*h)) (h16 : p ∣ r-(t-s)) (h17 : p ∣ t-(Y2*p3)) (h18 : p ∣ p3-(pz*z1)) (h19 : p ∣ h-(v-u)) (h20 : p ∣ v-(X2*pz)) (h21 : p ∣ s-(Y1*q3)) (h22 : p ∣ q3-(qz*z2)) (h23 : p ∣ u-(X1*qz)) (h24 : p ∣ qz-(z2*z2)) (h25 : p ∣ pz-(z1*z1)) (h26 : p ∣ X1-x1*(z1*z1)) (h27 : p ∣ Y1-y1*(z1*z1*z1)) (h28 : p ∣ X2-x2*(z2*z2)) (h29 : p ∣ Y2-y2*(z2*z2*z2)) : p ∣ (y3-ys*(z3*z3*z3)) :=
  dk (dc (-z3*z3*z3) h0 (dc (z3*z3*z3*l) h1 (dc (-Y2*Y2*z1*z1*z1*z1*z1*z1*z1*z1*z1*z2*z2*z2 + Y2*l*x1*z1*z1*z1*z1*z1*z1*z1*z1*z1*z2*z2*z2*z2*z2*z2 - Y2*l*x2*z1*z1*z1*z1*z1*z1*z1*z1*z1*z2*z2*z2*z2*z2*z2 + 2*Y2*y1*z1*z1*z1*z1*z1*z1*z1*z1*z1*z2*z2*z2*z2*z2*z2 - l*l*x1*x1*z1*z1*z1*z1*z1*z1*z1*z1*z1*z2*z2*z2*z2*z2*z2*z2*z2*z2 + 2*l*l*x1*x2*z1*z1*z1*z1*z1*z1*z1*z1*z1*z2*z2*z2*z2*z2*z2*z2*z2*z2 - l*l*x2*x2*z1*z1*z1*z1*z1*z1*z1*z1*z1*z2*z2*z2*z2*z2*z2*z2*z2*z2 - y1*l*x1*z1*z1*z1*z1*z1*z1*z1*z1*z1*z2*z2*z2*z2*z2*z2*z2*z2*z2 + 2*x1*x1*x1*z1*z1*z1*z1*z1*z1*z1*z1*z1*z2*z2*z2*z2*z2*z2*z2*z2*z2 + y1*l*x2*z1*z1*z1*z1*z1*z1*z1*z1*z1*z2*z2*z2*z2*z2*z2*z2*z2*z2 - 3*x1*x1*x2*z1*z1*z1*z1*z1*z1*z1*z1*z1*z2*z2*z2*z2*z2*z2*z2*z2*z2 + x2*x2*x2*z1*z1*z1*z1*z1*z1*z1*z1*z1*z2*z2*z2*z2*z2*z2*z2*z2*z2 - y1*y1*z1*z1*z1*z1*z1*z1*z1*z1*z1*z2*z2*z2*z2*z2*z2*z2*z2*z2) h2 (dc (z3*z3*l*l*l - 2*z3*z3*l*x1 - z3*z3*l*x2 + z3*z3*y1 + z3*zz*h*l*l*l - 2*z3*zz*h*l*x1 - z3*zz*h*l*x2 + z3*zz*h*y1 + zz*zz*h*h*l*l*l - 2*zz*zz*h*h*l*x1 - zz*zz*h*h*l*x2 + zz*zz*h*h*y1) h3 (dc (zz*zz*h*h*h*l*l*l - 2*zz*zz*h*h*h*l*x1 - zz*zz*h*h*h*l*x2 + zz*zz*h*h*h*y1 + zz*h*h*h*l*l*l*z1*z2 - 2*zz*h*h*h*l*x1*z1*z2 - zz*h*h*h*l*x2*z1*z2 + zz*h*h*h*y1*z1*z2 + h*h*h*l*l*l*z1*z1*z2*z2 - 2*h*h*h*l*x1*z1*z1*z2*z2 - h*h*h*l*x2*z1*z1*z2*z2 + h*h*h*y1*z1*z1*z2*z2) h4 (dc (1) h5 (dc (-1) h6 (dc (1) h7 (dc (r) h8 (dc (-r) h9 (dc (r) h10 (dc (-r) h11 (dc (-r) h12 (dc (3*r) h13 (dc (r - s) h14 (dc (r*h + 3*r*u - h*s) h15 (dc (-r*r - r*t + r*s - t*t + 2*t*s + h*h*h + 3*h*h*u - s*s) h16 (dc (-t*t - t*p3*Y2 + 3*t*s - p3*p3*Y2*Y2 + 3*p3*s*Y2 + h*h*h + 3*h*h*u - 3*s*s) h17 (dc (-p3*p3*Y2*Y2*Y2 + 3*p3*s*Y2*Y2 - p3*pz*Y2*Y2*Y2*z1 + h*h*h*Y2 + 3*h*h*u*Y2 - 3*s*s*Y2 + 3*s*pz*Y2*Y2*z1 - pz*pz*Y2*Y2*Y2*z1*z1) h18 (dc (-2*h*h*s + h*h*pz*Y2*z1 + h*h*l*l*l*z1*z1*z1*z2*z2*z2 - 2*h*h*l*x1*z1*z1*z1*z2*z2*z2 - h*h*l*x2*z1*z1*z1*z2*z2*z2 + h*h*y1*z1*z1*z1*z2*z2*z2 - 2*h*v*s + h*v*pz*Y2*z1 + h*v*l*l*l*z1*z1*z1*z2*z2*z2 - 2*h*v*l*x1*z1*z1*z1*z2*z2*z2 - h*v*l*x2*z1*z1*z1*z2*z2*z2 + h*v*y1*z1*z1*z1*z2*z2*z2 - h*s*u + 2*h*u*pz*Y2*z1 - h*u*l*l*l*z1*z1*z1*z2*z2*z2 + 2*h*u*l*x1*z1*z1*z1*z2*z2*z2 + h*u*l*x2*z1*z1*z1*z2*z2*z2 - h*u*y1*z1*z1*z1*z2*z2*z2 - 2*v*v*s + v*v*pz*Y2*z1 + v*v*l*l*l*z1*z1*z1*z2*z2*z2 - 2*v*v*l*x1*z1*z1*z1*z2*z2*z2 - v*v*l*x2*z1*z1*z1*z2*z2*z2 + v*v*y1*z1*z1*z1*z2*z2*z2 + v*s*u + v*u*pz*Y2*z1 - 2*v*u*l*l*l*z1*z1*z1*z2*z2*z2 + 4*v*u*l*x1*z1*z1*z1*z2*z2*z2 + 2*v*u*l*x2*z1*z1*z1*z2*z2*z2 - 2*v*u*y1*z1*z1*z1*z2*z2*z2 + s*u*u - 2*u*u*pz*Y2*z1 + u*u*l*l*l*z1*z1*z1*z2*z2*z2 - 2*u*u*l*x1*z1*z1*z1*z2*z2*z2 - u*u*l*x2*z1*z1*z1*z2*z2*z2 + u*u*y1*z1*z1*z1*z2*z2*z2) h19 (dc (-2*v*v*s + v*v*pz*Y2*z1 + v*v*l*l*l*z1*z1*z1*z2*z2*z2 - 2*v*v*l*x1*z1*z1*z1*z2*z2*z2 - v*v*l*x2*z1*z1*z1*z2*z2*z2 + v*v*y1*z1*z1*z1*z2*z2*z2 + 3*v*s*u - 2*v*s*pz*X2 - 3*v*u*l*l*l*z1*z1*z1*z2*z2*z2 + 6*v*u*l*x1*z1*z1*z1*z2*z2*z2 + 3*v*u*l*x2*z1*z1*z1*z2*z2*z2 - 3*v*u*y1*z1*z1*z1*z2*z2*z2 + v*pz*pz*Y2*X2*z1 + v*pz*X2*l*l*l*z1*z1*z1*z2*z2*z2 - 2*v*pz*X2*l*x1*z1*z1*z1*z2*z2*z2 - v*pz*X2*l*x2*z1*z1*z1*z2*z2*z2 + v*pz*X2*y1*z1*z1*z1*z2*z2*z2 + 3*s*u*pz*X2 - 2*s*pz*pz*X2*X2 - 3*u*u*pz*Y2*z1 + 3*u*u*l*l*l*z1*z1*z1*z2*z2*z2 - 6*u*u*l*x1*z1*z1*z1*z2*z2*z2 - 3*u*u*l*x2*z1*z1*z1*z2*z2*z2 + 3*u*u*y1*z1*z1*z1*z2*z2*z2 - 3*u*pz*X2*l*l*l*z1*z1*z1*z2*z2*z2 + 6*u*pz*X2*l*x1*z1*z1*z1*z2*z2*z2 + 3*u*pz*X2*l*x2*z1*z1*z1*z2*z2*z2 - 3*u*pz*X2*y1*z1*z1*z1*z2*z2*z2 + pz*pz*pz*Y2*X2*X2*z1 + pz*pz*X2*X2*l*l*l*z1*z1*z1*z2*z2*z2 - 2*pz*pz*X2*X2*l*x1*z1*z1*z1*z2*z2*z2 - pz*pz*X2*X2*l*x2*z1*z1*z1*z2*z2*z2 + pz*pz*X2*X2*y1*z1*z1*z1*z2*z2*z2) h20 (dc (s*s + s*q3*Y1 - 3*s*pz*Y2*z1 + q3*q3*Y1*Y1 - 3*q3*pz*Y2*Y1*z1 - u*u*u + 3*u*pz*pz*X2*X2 - 2*pz*pz*pz*X2*X2*X2 + 3*pz*pz*Y2*Y2*z1*z1) h21 (dc (q3*q3*Y1*Y1*Y1 + q3*qz*Y1*Y1*Y1*z2 - 3*q3*pz*Y2*Y1*Y1*z1 - u*u*u*Y1 + 3*u*pz*pz*X2*X2*Y1 + qz*qz*Y1*Y1*Y1*z2*z2 - 3*qz*pz*Y2*Y1*Y1*z1*z2 - 2*pz*pz*pz*X2*X2*X2*Y1 + 3*pz*pz*Y2*Y2*Y1*z1*z1) h22 (dc (-u*u*qz*Y1*z2 + 2*u*u*pz*Y2*z1 - u*u*l*l*l*z1*z1*z1*z2*z2*z2 + 2*u*u*l*x1*z1*z1*z1*z2*z2*z2 + u*u*l*x2*z1*z1*z1*z2*z2*z2 - u*u*y1*z1*z1*z1*z2*z2*z2 - u*qz*qz*Y1*X1*z2 + 2*u*qz*pz*Y2*X1*z1 - u*qz*X1*l*l*l*z1*z1*z1*z2*z2*z2 + 2*u*qz*X1*l*x1*z1*z1*z1*z2*z2*z2 + u*qz*X1*l*x2*z1*z1*z1*z2*z2*z2 - u*qz*X1*y1*z1*z1*z1*z2*z2*z2 - 3*u*pz*pz*Y2*X2*z1 + 3*u*pz*X2*l*l*l*z1*z1*z1*z2*z2*z2 - 6*u*pz*X2*l*x1*z1*z1*z1*z2*z2*z2 - 3*u*pz*X2*l*x2*z1*z1*z1*z2*z2*z2 + 3*u*pz*X2*y1*z1*z1*z1*z2*z2*z2 - qz*qz*qz*Y1*X1*X1*z2 + 2*qz*qz*pz*Y2*X1*X1*z1 - qz*qz*X1*X1*l*l*l*z1*z1*z1*z2*z2*z2 + 2*qz*qz*X1*X1*l*x1*z1*z1*z1*z2*z2*z2 + qz*qz*X1*X1*l*x2*z1*z1*z1*z2*z2*z2 - qz*qz*X1*X1*y1*z1*z1*z1*z2*z2*z2 - 3*qz*pz*pz*Y2*X2*X1*z1 + 3*qz*pz*pz*X2*X2*Y1*z2 + 3*qz*pz*X2*X1*l*l*l*z1*z1*z1*z2*z2*z2 - 6*qz*pz*X2*X1*l*x1*z1*z1*z1*z2*z2*z2 - 3*qz*pz*X2*X1*l*x2*z1*z1*z1*z2*z2*z2 + 3*qz*pz*X2*X1*y1*z1*z1*z1*z2*z2*z2 - 3*pz*pz*X2*X2*l*l*l*z1*z1*z1*z2*z2*z2 + 6*pz*pz*X2*X2*l*x1*z1*z1*z1*z2*z2*z2 + 3*pz*pz*X2*X2*l*x2*z1*z1*z1*z2*z2*z2 - 3*pz*pz*X2*X2*y1*z1*z1*z1*z2*z2*z2) h23 (dc (-qz*qz*qz*Y1*X1*X1*X1*z2 + 2*qz*qz*pz*Y2*X1*X1*X1*z1 + qz*qz*Y1*Y1*Y1*z2*z2*z2 - qz*qz*Y1*X1*X1*X1*z2*z2*z2 - qz*qz*X1*X1*X1*l*l*l*z1*z1*z1*z2*z2*z2 + 2*qz*qz*X1*X1*X1*l*x1*z1*z1*z1*z2*z2*z2 + qz*qz*X1*X1*X1*l*x2*z1*z1*z1*z2*z2*z2 - qz*qz*X1*X1*X1*y1*z1*z1*z1*z2*z2*z2 - 3*qz*pz*pz*Y2*X2*X1*X1*z1 + 3*qz*pz*pz*X2*X2*Y1*X1*z2 - 3*qz*pz*Y2*Y1*Y1*z1*z2*z2 + 2*qz*pz*Y2*X1*X1*X1*z1*z2*z2 + 3*qz*pz*X2*X1*X1*l*l*l*z1*z1*z1*z2*z2*z2 - 6*qz*pz*X2*X1*X1*l*x1*z1*z1*z1*z2*z2*z2 - 3*qz*pz*X2*X1*X1*l*x2*z1*z1*z1*z2*z2*z2 + 3*qz*pz*X2*X1*X1*y1*z1*z1*z1*z2*z2*z2 + qz*Y1*Y1*Y1*z2*z2*z2*z2*z2 - qz*Y1*X1*X1*X1*z2*z2*z2*z2*z2 - qz*X1*X1*X1*l*l*l*z1*z1*z1*z2*z2*z2*z2*z2 + 2*qz*X1*X1*X1*l*x1*z1*z1*z1*z2*z2*z2*z2*z2 + qz*X1*X1*X1*l*x2*z1*z1*z1*z2*z2*z2*z2*z2 - qz*X1*X1*X1*y1*z1*z1*z1*z2*z2*z2*z2*z2 - 2*pz*pz*pz*X2*X2*X2*Y1*z2 + 3*pz*pz*Y2*Y2*Y1*z1*z1*z2 - 3*pz*pz*Y2*X2*X1*X1*z1*z2*z2 + 3*pz*pz*X2*X2*Y1*X1*z2*z2*z2 - 3*pz*pz*X2*X2*X1*l*l*l*z1*z1*z1*z2*z2*z2 + 6*pz*pz*X2*X2*X1*l*x1*z1*z1*z1*z2*z2*z2 + 3*pz*pz*X2*X2*X1*l*x2*z1*z1*z1*z2*z2*z2 - 3*pz*pz*X2*X2*X1*y1*z1*z1*z1*z2*z2*z2 - 3*pz*Y2*Y1*Y1*z1*z2*z2*z2*z2 + 2*pz*Y2*X1*X1*X1*z1*z2*z2*z2*z2 + 3*pz*X2*X1*X1*l*l*l*z1*z1*z1*z2*z2*z2*z2*z2 - 6*pz*X2*X1*X1*l*x1*z1*z1*z1*z2*z2*z2*z2*z2 - 3*pz*X2*X1*X1*l*x2*z1*z1*z1*z2*z2*z2*z2*z2 + 3*pz*X2*X1*X1*y1*z1*z1*z1*z2*z2*z2*z2*z2 + Y1*Y1*Y1*z2*z2*z2*z2*z2*z2*z2 - Y1*X1*X1*X1*z2*z2*z2*z2*z2*z2*z2 - X1*X1*X1*l*l*l*z1*z1*z1*z2*z2*z2*z2*z2*z2*z2 + 2*X1*X1*X1*l*x1*z1*z1*z1*z2*z2*z2*z2*z2*z2*z2 + X1*X1*X1*l*x2*z1*z1*z1*z2*z2*z2*z2*z2*z2*z2 - X1*X1*X1*y1*z1*z1*z1*z2*z2*z2*z2*z2*z2*z2) h24 (dc (pz*pz*pz*Y2*X2*X2*X2*z1 - pz*pz*Y2*Y2*Y2*z1*z1*z1 + pz*pz*Y2*X2*X2*X2*z1*z1*z1 - 2*pz*pz*X2*X2*X2*Y1*z2*z2*z2 + pz*pz*X2*X2*X2*l*l*l*z1*z1*z1*z2*z2*z2 - 2*pz*pz*X2*X2*X2*l*x1*z1*z1*z1*z2*z2*z2 - pz*pz*X2*X2*X2*l*x2*z1*z1*z1*z2*z2*z2 + pz*pz*X2*X2*X2*y1*z1*z1*z1*z2*z2*z2 - pz*Y2*Y2*Y2*z1*z1*z1*z1*z1 + 3*pz*Y2*Y2*Y1*z1*z1*z2*z2*z2 + pz*Y2*X2*X2*X2*z1*z1*z1*z1*z1 - 3*pz*Y2*X2*X1*X1*z1*z2*z2*z2*z2 - 2*pz*X2*X2*X2*Y1*z1*z1*z2*z2*z2 + pz*X2*X2*X2*l*l*l*z1*z1*z1*z1*z1*z2*z2*z2 - 2*pz*X2*X2*X2*l*x1*z1*z1*z1*z1*z1*z2*z2*z2 - pz*X2*X2*X2*l*x2*z1*z1*z1*z1*z1*z2*z2*z2 + pz*X2*X2*X2*y1*z1*z1*z1*z1*z1*z2*z2*z2 + 3*pz*X2*X2*Y1*X1*z2*z2*z2*z2*z2 - 3*pz*X2*X2*X1*l*l*l*z1*z1*z1*z2*z2*z2*z2*z2 + 6*pz*X2*X2*X1*l*x1*z1*z1*z1*z2*z2*z2*z2*z2 + 3*pz*X2*X2*X1*l*x2*z1*z1*z1*z2*z2*z2*z2*z2 - 3*pz*X2*X2*X1*y1*z1*z1*z1*z2*z2*z2*z2*z2 - Y2*Y2*Y2*z1*z1*z1*z1*z1*z1*z1 + 3*Y2*Y2*Y1*z1*z1*z1*z1*z2*z2*z2 + Y2*X2*X2*X2*z1*z1*z1*z1*z1*z1*z1 - 3*Y2*X2*X1*X1*z1*z1*z1*z2*z2*z2*z2 - 3*Y2*Y1*Y1*z1*z2*z2*z2*z2*z2*z2 + 2*Y2*X1*X1*X1*z1*z2*z2*z2*z2*z2*z2 - 2*X2*X2*X2*Y1*z1*z1*z1*z1*z2*z2*z2 + X2*X2*X2*l*l*l*z1*z1*z1*z1*z1*z1*z1*z2*z2*z2 - 2*X2*X2*X2*l*x1*z1*z1*z1*z1*z1*z1*z1*z2*z2*z2 - X2*X2*X2*l*x2*z1*z1*z1*z1*z1*z1*z1*z2*z2*z2 + X2*X2*X2*y1*z1*z1*z1*z1*z1*z1*z1*z2*z2*z2 + 3*X2*X2*Y1*X1*z1*z1*z2*z2*z2*z2*z2 - 3*X2*X2*X1*l*l*l*z1*z1*z1*z1*z1*z2*z2*z2*z2*z2 + 6*X2*X2*X1*l*x1*z1*z1*z1*z1*z1*z2*z2*z2*z2*z2 + 3*X2*X2*X1*l*x2*z1*z1*z1*z1*z1*z2*z2*z2*z2*z2 - 3*X2*X2*X1*y1*z1*z1*z1*z1*z1*z2*z2*z2*z2*z2 + 3*X2*X1*X1*l*l*l*z1*z1*z1*z2*z2*z2*z2*z2*z2*z2 - 6*X2*X1*X1*l*x1*z1*z1*z1*z2*z2*z2*z2*z2*z2*z2 - 3*X2*X1*X1*l*x2*z1*z1*z1*z2*z2*z2*z2*z2*z2*z2 + 3*X2*X1*X1*y1*z1*z1*z1*z2*z2*z2*z2*z2*z2*z2) h25 (dc (-3*Y2*X2*X1*z1*z1*z1*z1*z1*z2*z2*z2*z2 - 3*Y2*X2*x1*z1*z1*z1*z1*z1*z1*z1*z2*z2*z2*z2 + 2*Y2*X1*X1*z1*z1*z1*z2*z2*z2*z2*z2*z2 + 2*Y2*X1*x1*z1*z1*z1*z1*z1*z2*z2*z2*z2*z2*z2 + 2*Y2*x1*x1*z1*z1*z1*z1*z1*z1*z1*z2*z2*z2*z2*z2*z2 + 3*X2*X2*Y1*z1*z1*z1*z1*z2*z2*z2*z2*z2 - 3*X2*X2*l*l*l*z1*z1*z1*z1*z1*z1*z1*z2*z2*z2*z2*z2 + 6*X2*X2*l*x1*z1*z1*z1*z1*z1*z1*z1*z2*z2*z2*z2*z2 + 3*X2*X2*l*x2*z1*z1*z1*z1*z1*z1*z1*z2*z2*z2*z2*z2 - 3*X2*X2*y1*z1*z1*z1*z1*z1*z1*z1*z2*z2*z2*z2*z2 + 3*X2*X1*l*l*l*z1*z1*z1*z1*z1*z2*z2*z2*z2*z2*z2*z2 - 6*X2*X1*l*x1*z1*z1*z1*z1*z1*z2*z2*z2*z2*z2*z2*z2 - 3*X2*X1*l*x2*z1*z1*z1*z1*z1*z2*z2*z2*z2*z2*z2*z2 + 3*X2*X1*y1*z1*z1*z1*z1*z1*z2*z2*z2*z2*z2*z2*z2 + 3*X2*l*l*l*x1*z1*z1*z1*z1*z1*z1*z1*z2*z2*z2*z2*z2*z2*z2 - 6*X2*l*x1*x1*z1*z1*z1*z1*z1*z1*z1*z2*z2*z2*z2*z2*z2*z2 - 3*X2*l*x1*x2*z1*z1*z1*z1*z1*z1*z1*z2*z2*z2*z2*z2*z2*z2 + 3*X2*y1*x1*z1*z1*z1*z1*z1*z1*z1*z2*z2*z2*z2*z2*z2*z2 - Y1*X1*X1*z2*z2*z2*z2*z2*z2*z2*z2*z2 - Y1*X1*x1*z1*z1*z2*z2*z2*z2*z2*z2*z2*z2*z2 - Y1*x1*x1*z1*z1*z1*z1*z2*z2*z2*z2*z2*z2*z2*z2*z2 - X1*X1*l*l*l*z1*z1*z1*z2*z2*z2*z2*z2*z2*z2*z2*z2 + 2*X1*X1*l*x1*z1*z1*z1*z2*z2*z2*z2*z2*z2*z2*z2*z2 + X1*X1*l*x2*z1*z1*z1*z2*z2*z2*z2*z2*z2*z2*z2*z2 - X1*X1*y1*z1*z1*z1*z2*z2*z2*z2*z2*z2*z2*z2*z2 - X1*l*l*l*x1*z1*z1*z1*z1*z1*z2*z2*z2*z2*z2*z2*z2*z2*z2 + 2*X1*l*x1*x1*z1*z1*z1*z1*z1*z2*z2*z2*z2*z2*z2*z2*z2*z2 + X1*l*x1*x2*z1*z1*z1*z1*z1*z2*z2*z2*z2*z2*z2*z2*z2*z2 - X1*y1*x1*z1*z1*z1*z1*z1*z2*z2*z2*z2*z2*z2*z2*z2*z2 - l*l*l*x1*x1*z1*z1*z1*z1*z1*z1*z1*z2*z2*z2*z2*z2*z2*z2*z2*z2 + 2*l*x1*x1*x1*z1*z1*z1*z1*z1*z1*z1*z2*z2*z2*z2*z2*z2*z2*z2*z2 + l*x1*x1*x2*z1*z1*z1*z1*z1*z1*z1*z2*z2*z2*z2*z2*z2*z2*z2*z2 - y1*x1*x1*z1*z1*z1*z1*z1*z1*z1*z2*z2*z2*z2*z2*z2*z2*z2*z2) h26 (dc (3*Y2*Y2*z1*z1*z1*z1*z1*z1*z2*z2*z2 - 3*Y2*Y1*z1*z1*z1*z2*z2*z2*z2*z2*z2 - 3*Y2*y1*z1*z1*z1*z1*z1*z1*z2*z2*z2*z2*z2*z2 - 2*X2*X2*X2*z1*z1*z1*z1*z1*z1*z2*z2*z2 + 3*X2*X2*x1*z1*z1*z1*z1*z1*z1*z2*z2*z2*z2*z2 + Y1*Y1*z2*z2*z2*z2*z2*z2*z2*z2*z2 + Y1*y1*z1*z1*z1*z2*z2*z2*z2*z2*z2*z2*z2*z2 - x1*x1*x1*z1*z1*z1*z1*z1*z1*z2*z2*z2*z2*z2*z2*z2*z2*z2 + y1*y1*z1*z1*z1*z1*z1*z1*z2*z2*z2*z2*z2*z2*z2*z2*z2) h27 (dc (Y2*X2*X2*z1*z1*z1*z1*z1*z1*z1*z1*z1 + Y2*X2*x2*z1*z1*z1*z1*z1*z1*z1*z1*z1*z2*z2 - 3*Y2*x1*x1*z1*z1*z1*z1*z1*z1*z1*z1*z1*z2*z2*z2*z2 + Y2*x2*x2*z1*z1*z1*z1*z1*z1*z1*z1*z1*z2*z2*z2*z2 + X2*X2*l*l*l*z1*z1*z1*z1*z1*z1*z1*z1*z1*z2*z2*z2 - 2*X2*X2*l*x1*z1*z1*z1*z1*z1*z1*z1*z1*z1*z2*z2*z2 - X2*X2*l*x2*z1*z1*z1*z1*z1*z1*z1*z1*z1*z2*z2*z2 - X2*X2*y1*z1*z1*z1*z1*z1*z1*z1*z1*z1*z2*z2*z2 - 3*X2*l*l*l*x1*z1*z1*z1*z1*z1*z1*z1*z1*z1*z2*z2*z2*z2*z2 + X2*l*l*l*x2*z1*z1*z1*z1*z1*z1*z1*z1*z1*z2*z2*z2*z2*z2 + 6*X2*l*x1*x1*z1*z1*z1*z1*z1*z1*z1*z1*z1*z2*z2*z2*z2*z2 + X2*l*x1*x2*z1*z1*z1*z1*z1*z1*z1*z1*z1*z2*z2*z2*z2*z2 - X2*l*x2*x2*z1*z1*z1*z1*z1*z1*z1*z1*z1*z2*z2*z2*z2*z2 - X2*y1*x2*z1*z1*z1*z1*z1*z1*z1*z1*z1*z2*z2*z2*z2*z2 + 3*l*l*l*x1*x1*z1*z1*z1*z1*z1*z1*z1*z1*z1*z2*z2*z2*z2*z2*z2*z2 - 3*l*l*l*x1*x2*z1*z1*z1*z1*z1*z1*z1*z1*z1*z2*z2*z2*z2*z2*z2*z2 + l*l*l*x2*x2*z1*z1*z1*z1*z1*z1*z1*z1*z1*z2*z2*z2*z2*z2*z2*z2 - 6*l*x1*x1*x1*z1*z1*z1*z1*z1*z1*z1*z1*z1*z2*z2*z2*z2*z2*z2*z2 + 3*l*x1*x1*x2*z1*z1*z1*z1*z1*z1*z1*z1*z1*z2*z2*z2*z2*z2*z2*z2 + l*x1*x2*x2*z1*z1*z1*z1*z1*z1*z1*z1*z1*z2*z2*z2*z2*z2*z2*z2 - l*x2*x2*x2*z1*z1*z1*z1*z1*z1*z1*z1*z1*z2*z2*z2*z2*z2*z2*z2 + 3*y1*x1*x1*z1*z1*z1*z1*z1*z1*z1*z1*z1*z2*z2*z2*z2*z2*z2*z2 - y1*x2*x2*z1*z1*z1*z1*z1*z1*z1*z1*z1*z2*z2*z2*z2*z2*z2*z2) h28 (dc (-Y2*Y2*z1*z1*z1*z1*z1*z1*z1*z1*z1 + Y2*l*x1*z1*z1*z1*z1*z1*z1*z1*z1*z1*z2*z2*z2 - Y2*l*x2*z1*z1*z1*z1*z1*z1*z1*z1*z1*z2*z2*z2 + 2*Y2*y1*z1*z1*z1*z1*z1*z1*z1*z1*z1*z2*z2*z2 - l*l*x1*x1*z1*z1*z1*z1*z1*z1*z1*z1*z1*z2*z2*z2*z2*z2*z2 + 2*l*l*x1*x2*z1*z1*z1*z1*z1*z1*z1*z1*z1*z2*z2*z2*z2*z2*z2 - l*l*x2*x2*z1*z1*z1*z1*z1*z1*z1*z1*z1*z2*z2*z2*z2*z2*z2 - y1*l*x1*z1*z1*z1*z1*z1*z1*z1*z1*z1*z2*z2*z2*z2*z2*z2 + 2*x1*x1*x1*z1*z1*z1*z1*z1*z1*z1*z1*z1*z2*z2*z2*z2*z2*z2 + y1*l*x2*z1*z1*z1*z1*z1*z1*z1*z1*z1*z2*z2*z2*z2*z2*z2 - 3*x1*x1*x2*z1*z1*z1*z1*z1*z1*z1*z1*z1*z2*z2*z2*z2*z2*z2 + x2*x2*x2*z1*z1*z1*z1*z1*z1*z1*z1*z1*z2*z2*z2*z2*z2*z2 - y1*y1*z1*z1*z1*z1*z1*z1*z1*z1*z1*z2*z2*z2*z2*z2*z2) h29 (dz p))))))))))))))))))))))))))))))) (by clear h0 h1 h2 h3 h4 h5 h6 h7 h8 h9 h10 h11 h12 h13 h14 h15 h16 h17 h18 h19 h20 h21 h22 h23 h24 h25 h26 h27 h28 h29; grind)
theorem nar_x {p x3 s2 X x z i : Int} (h0 : p ∣ x3-(X*s2)) (h1 : p ∣ s2-(i*i)) (h2 : p ∣ X-x*(z*z)) (h3 : p ∣ z*i-1) : p ∣ (x3-x) :=
  dk (dc (1) h0 (dc (X) h1 (dc (i*i) h2 (dc (x*z*i + x) h3 (dz p))))) (by clear h0 h1 h2 h3; grind)
theorem nar_y {p y3 s3 s2 Y y z i : Int} (h0 : p ∣ y3-(Y*s3)) (h1 : p ∣ s3-(s2*i)) (h2 : p ∣ s2-(i*i)) (h3 : p ∣ Y-y*(z*z*z)) (h4 : p ∣ z*i-1) : p ∣ (y3-y) :=
  dk (dc (1) h0 (dc (Y) h1 (dc (Y*i) h2 (dc (i*i*i) h3 (dc (y*z*z*i*i + y*z*i + y) h4 (dz p)))))) (by clear h0 h1 h2 h3 h4; grind)
theorem tan_b {p s x3 xx dx x y iv : Int} (h0 : p ∣ s-(x3*iv)) (h1 : p ∣ x3-(3*xx)) (h2 : p ∣ xx-(x*x)) (h3 : p ∣ dx-(y+y)) (h4 : p ∣ dx*iv-1) : p ∣ (s*(y+y)-(x*x+x*x+x*x)) :=
  dk (dc (2*y) h0 (dc (2*y*iv) h1 (dc (6*y*iv) h2 (dc (-3*x*x*iv) h3 (dc (3*x*x) h4 (dz p)))))) (by clear h0 h1 h2 h3 h4; grind)
theorem cho_a {p s dy dx x1 x2 y1 y2 iv : Int} (h0 : p ∣ s-(dy*iv)) (h1 : p ∣ dy-(y2-y1)) (h2 : p ∣ dx-(x2-x1)) (h3 : p ∣ dx*iv-1) : p ∣ (s*(x1-x2)-(y1-y2)) :=
  dk (dc (x1 - x2) h0 (dc (x1*iv - x2*iv) h1 (dc (-y1*iv + y2*iv) h2 (dc (y1 - y2) h3 (dz p))))) (by clear h0 h1 h2 h3; grind)
theorem thd_y {p y3 e d x y1 x1 t : Int} (h0 : p ∣ y3-(e-y1)) (h1 : p ∣ e-(t*d)) (h2 : p ∣ d-(x1-x)) : p ∣ (y3-(t*(x1-x)-y1)) :=
  dk (dc (1) h0 (dc (1) h1 (dc (t) h2 (dz p)))) (by clear h0 h1 h2; grind)
theorem thd_x {p x d a x1 x2 t : Int} (h0 : p ∣ x-(d-x2)) (h1 : p ∣ d-(a-x1)) (h2 : p ∣ a-(t*t)) : p ∣ (x-(t*t-x1-x2)) :=
  dk (dc (1) h0 (dc (1) h1 (dc (1) h2 (dz p)))) (by clear h0 h1 h2; grind)
theorem cv_of {p z xxx xx y x b : Int} (h0 : p ∣ z-(y*y)) (h1 : p ∣ z-(xxx+b)) (h2 : p ∣ xxx-(xx*x)) (h3 : p ∣ xx-(x*x)) : p ∣ (y*y-x*x*x-b) :=
  dk (dc (-1) h0 (dc (1) h1 (dc (1) h2 (dc (x) h3 (dz p))))) (by clear h0 h1 h2 h3; grind)
theorem cv_to {p u z xxx xx y x b : Int} (h0 : p ∣ u-(y*y)) (h1 : p ∣ z-(xxx+b)) (h2 : p ∣ xxx-(xx*x)) (h3 : p ∣ xx-(x*x)) (h4 : p ∣ y*y-x*x*x-b) : p ∣ (u-z) :=
  dk (dc (1) h0 (dc (-1) h1 (dc (-1) h2 (dc (-x) h3 (dc (1) h4 (dz p)))))) (by clear h0 h1 h2 h3 h4; grind)
end Go.Proofs.Ytkedomfjjahjnaa

namespace Go.Proofs.Ytkedomfjjahjnaa
open Sx Go
abbrev Sm (p : Nat) : Prop := 0 < p ∧ p < 57896044618658097711785492504343953926634992332820282019728792003956564819968
theorem dv_r {p a b : Int} (h2 : p ∣ a) (h1 : p ∣ a - b) : p ∣ b := by
  obtain ⟨k, hk⟩ := h1
  obtain ⟨m, hm⟩ := h2
  exact ⟨m - k, by rw [Int.mul_sub]; omega⟩
theorem md_c {p : Nat} (n : Nat) : (p : Int) ∣ ((n % p : Nat) : Int) - (n : Int) := by
  have := Nat.div_add_mod n p
  refine ⟨-((n / p : Nat) : Int), ?_⟩
  have h : ((p * (n / p) + n % p : Nat) : Int) = (n : Int) := by rw [this]
  rw [Int.natCast_add, Int.natCast_mul] at h
  rw [Int.mul_neg]
  omega
variable {p : Nat}
theorem mulP_c (hp : Sm p) (a b : Elem) : (p : Int) ∣ ((mulP p a b).nat : Int) - ((a.nat : Int) * (b.nat : Int)) := by
  have e : (mulP p a b).nat = a.nat * b.nat % p := rem_nat hp
  rw [e]
  have := md_c (p := p) (a.nat * b.nat)
  rwa [Int.natCast_mul] at this
theorem addP_c (hp : Sm p) (a b : Elem) : (p : Int) ∣ ((addP p a b).nat : Int) - ((a.nat : Int) + (b.nat : Int)) := by
  have e : (addP p a b).nat = (a.nat + b.nat) % p := rem_nat hp
  rw [e]
  have := md_c (p := p) (a.nat + b.nat)
  rwa [Int.natCast_add] at this
theorem negP_c (hp : Sm p) (a : Elem) : (p : Int) ∣ ((negP p a).nat : Int) - -(a.nat : Int) := by
  have e : (negP p a).nat = (p - a.nat % p) % p := rem_nat hp
  rw [e]
  obtain ⟨k, hk⟩ := md_c (p := p) (p - a.nat % p)
  obtain ⟨m, hm⟩ := md_c (p := p) a.nat
  have hlt := Nat.mod_lt a.nat hp.1
  have e2 : ((p - a.nat % p : Nat) : Int) = (p : Int) - ((a.nat % p : Nat) : Int) := by omega
  rw [e2] at hk
  generalize (((p - a.nat % p) % p : Nat) : Int) = u at *
  generalize ((a.nat % p : Nat) : Int) = v at *
  exact ⟨k + 1 - m, by grind⟩
theorem subP_c (hp : Sm p) (a b : Elem) : (p : Int) ∣ ((subP p a b).nat : Int) - ((a.nat : Int) - (b.nat : Int)) := by
  obtain ⟨k, hk⟩ := addP_c hp a (negP p b)
  obtain ⟨m, hm⟩ := negP_c hp b
  unfold subP
  generalize ((addP p a (negP p b)).nat : Int) = u at *
  exact ⟨k + m, by grind⟩
theorem mulP_lt (hp : Sm p) (a b : Elem) : (mulP p a b).nat < p := by
  rw [show (mulP p a b).nat = a.nat * b.nat % p from rem_nat hp]
  exact Nat.mod_lt _ hp.1
theorem addP_lt (hp : Sm p) (a b : Elem) : (addP p a b).nat < p := by
  rw [show (addP p a b).nat = (a.nat + b.nat) % p from rem_nat hp]
  exact Nat.mod_lt _ hp.1
theorem subP_lt (hp : Sm p) (a b : Elem) : (subP p a b).nat < p := addP_lt hp _ _
theorem negP_lt (hp : Sm p) (a : Elem) : (negP p a).nat < p := by
  rw [show (negP p a).nat = (p - a.nat % p) % p from rem_nat hp]
  exact Nat.mod_lt _ hp.1
theorem inv0_c (hp : Sm p) (pr : Pr p) {z : Elem} (hz : ¬ (p : Int) ∣ (z.nat : Int)) : (p : Int) ∣ (z.nat : Int) * ((inv0 p z).nat : Int) - 1 := by
  have h2 := pr.1
  have hz' : ¬ p ∣ z.nat := fun h => hz (Int.natCast_dvd_natCast.2 h)
  have e : Nat.beq (z.nat % p) 0 = false := by
    cases h : Nat.beq (z.nat % p) 0
    · rfl
    · exact absurd (Nat.dvd_of_mod_eq_zero (Nat.eq_of_beq_eq_true h)) hz'
  have e2 : (inv0 p z).nat = z.nat ^ (p - 2) % p := by
    unfold inv0 invP
    rw [e]
    simp only [cond_false]
    have hb : p - 2 < 2 ^ 256 := by have := hp.2; omega
    rw [powM_eq 256 1 _ _ hb (by omega), Nat.one_mul, ← Nat.pow_mod]
    exact rem_nat hp
  rw [e2]
  have hf := fermat pr hz'
  have e3 : z.nat ^ (p - 1) = z.nat * z.nat ^ (p - 2) := by
    rw [show p - 1 = (p - 2) + 1 by omega, Nat.pow_succ, Nat.mul_comm]
  rw [e3] at hf
  obtain ⟨k, hk⟩ := md_c (p := p) (z.nat ^ (p - 2))
  obtain ⟨m, hm⟩ := md_c (p := p) (z.nat * z.nat ^ (p - 2))
  rw [hf] at hm
  rw [Int.natCast_mul] at hm
  generalize ((z.nat ^ (p - 2) % p : Nat) : Int) = u at *
  generalize ((z.nat ^ (p - 2) : Nat) : Int) = v at *
  have hm : (1 : Int) - (z.nat : Int) * v = (p : Int) * m := hm
  exact ⟨(z.nat : Int) * k - m, by grind⟩
def toQ (P : Pt) : PtQ := cond P.2.2 none (some (P.1.nat, P.2.1.nat))
theorem lineP_thd (hp : Sm p) (X Y X2 s : Elem) : Thd p X.nat Y.nat X2.nat s.nat (lineP p X Y X2 s).1.nat (lineP p X Y X2 s).2.1.nat := by
  unfold lineP
  dsimp only
  have h1 := mulP_c hp s s
  have h2 := subP_c hp (mulP p s s) X
  have h3 := subP_c hp (subP p (mulP p s s) X) X2
  generalize subP p (subP p (mulP p s s) X) X2 = x3 at *
  have h4 := subP_c hp X x3
  have h5 := mulP_c hp s (subP p X x3)
  have h6 := subP_c hp (mulP p s (subP p X x3)) Y
  exact ⟨thd_x h3 h2 h1, thd_y h6 h5 h4⟩
theorem line_sum {b : Nat} (c : Cur p b) (hp : Sm p) {X Y X2 Y2 s : Elem} (hP : OnQ p b (some (X.nat, Y.nat))) (hR : OnQ p b (some (X2.nat, Y2.nat))) (hl : Lin p X.nat Y.nat X2.nat Y2.nat s.nat) :
    toQ (lineP p X Y X2 s) = addQ p (some (X.nat, Y.nat)) (some (X2.nat, Y2.nat)) := by
  have h := lineP_thd hp X Y X2 s
  exact (sum_of c (P := (X.nat, Y.nat)) (R := (X2.nat, Y2.nat)) (S := ((lineP p X Y X2 s).1.nat, (lineP p X Y X2 s).2.1.nat)) hP hR hl (subP_lt hp _ _) (subP_lt hp _ _) h).symm
theorem three_nat : (Elem.mk 3 0 0 0).nat = 3 := by decide
theorem sum_toQ {b : Nat} (c : Cur p b) (hp : Sm p) {P R : Pt} (hP : OnQ p b (toQ P)) (hR : OnQ p b (toQ R)) : toQ (sumPt p P R) = addQ p (toQ P) (toQ R) := by
  obtain ⟨X, Y, i⟩ := P
  obtain ⟨X2, Y2, j⟩ := R
  cases i
  · cases j
    · have hP' : OnQ p b (some (X.nat, Y.nat)) := hP
      have hR' : OnQ p b (some (X2.nat, Y2.nat)) := hR
      have n1 : ¬ (p : Int) ∣ (Y.nat : Int) := c.yne hP'.2.2
      show toQ (sumPt p (X, Y, false) (X2, Y2, false)) = addQ p (some (X.nat, Y.nat)) (some (X2.nat, Y2.nat))
      rcases (Bool.eq_false_or_eq_true (eqE X X2)).symm with h | h
      · have e : sumPt p (X, Y, false) (X2, Y2, false) = lineP p X Y X2 (byP p (subP p Y2 Y) (subP p X2 X)) := by unfold sumPt; simp only [cond_false, h]
        rw [e]
        refine line_sum c hp hP' hR' ?_
        have hx : X.nat ≠ X2.nat := fun e => by rw [nat_inj e, eqE_self] at h; cases h
        have hd := subP_c hp X2 X
        have hn : ¬ (p : Int) ∣ ((subP p X2 X).nat : Int) := fun hn => by
          obtain ⟨k, hk⟩ := hd
          obtain ⟨m, hm⟩ := hn
          exact hx (same_of hP'.1 hR'.1 ⟨k - m, by grind⟩)
        have hi := inv0_c hp c.pr hn
        have hm := mulP_c hp (subP p Y2 Y) (inv0 p (subP p X2 X))
        have hy := subP_c hp Y2 Y
        unfold byP
        generalize subP p X2 X = dx at *
        generalize inv0 p dx = iv at *
        generalize subP p Y2 Y = dy at *
        generalize mulP p dy iv = s at *
        have ha : (p : Int) ∣ (s.nat : Int) * ((X.nat : Int) - X2.nat) - ((Y.nat : Int) - Y2.nat) := cho_a hm hy hd hi
        refine ⟨ha, ?_⟩
        have hn' : ¬ (p : Int) ∣ (X.nat : Int) - X2.nat := fun hh => hx (same_of hP'.1 hR'.1 hh)
        have hc1 : (p : Int) ∣ (Y.nat : Int) * Y.nat - X.nat * X.nat * X.nat - b := hP'.2.2
        have hc2 : (p : Int) ∣ (Y2.nat : Int) * Y2.nat - X2.nat * X2.nat * X2.nat - b := hR'.2.2
        exact (c.pr.euclidZ (chord_b hc1 hc2 ha)).resolve_left hn'
      · rcases (Bool.eq_false_or_eq_true (eqE Y Y2)).symm with h2 | h2
        · have e : sumPt p (X, Y, false) (X2, Y2, false) = inftyP := by unfold sumPt; simp only [cond_false, cond_true, h, h2]
          rw [e]
          refine (if_pos ⟨?_, fun e => ?_⟩).symm
          · show X.nat = X2.nat
            rw [eqE_iff.1 h]
          · rw [nat_inj e, eqE_self] at h2
            cases h2
        · have e : sumPt p (X, Y, false) (X2, Y2, false) = lineP p X Y X2 (byP p (mulP p ⟨3, 0, 0, 0⟩ (mulP p X X)) (addP p Y Y)) := by unfold sumPt; simp only [cond_false, cond_true, h, h2]
          rw [e]
          refine line_sum c hp hP' hR' ?_
          obtain rfl := eqE_iff.1 h
          obtain rfl := eqE_iff.1 h2
          have hd := addP_c hp Y Y
          have hn : ¬ (p : Int) ∣ ((addP p Y Y).nat : Int) := fun hn => by
            obtain ⟨k, hk⟩ := hd
            obtain ⟨m, hm⟩ := hn
            rcases c.pr.euclidZ (a := 2) (b := (Y.nat : Int)) ⟨m - k, by grind⟩ with h | h
            · exact c.no2 h
            · exact n1 h
          have hi := inv0_c hp c.pr hn
          have hm := mulP_c hp (mulP p ⟨3, 0, 0, 0⟩ (mulP p X X)) (inv0 p (addP p Y Y))
          have h3 := mulP_c hp ⟨3, 0, 0, 0⟩ (mulP p X X)
          have h4 := mulP_c hp X X
          rw [three_nat] at h3
          unfold byP
          generalize addP p Y Y = dx at *
          generalize inv0 p dx = iv at *
          generalize mulP p X X = xx at *
          generalize mulP p ⟨3, 0, 0, 0⟩ xx = x3 at *
          generalize mulP p x3 iv = s at *
          exact ⟨⟨0, by rw [Int.sub_self, Int.sub_self, Int.mul_zero, Int.mul_zero]; rfl⟩, tan_b hm h3 h4 hd hi⟩
    · show toQ (sumPt p (X, Y, false) (X2, Y2, true)) = _
      have e : sumPt p (X, Y, false) (X2, Y2, true) = (X, Y, false) := by unfold sumPt; simp only [cond_false, cond_true]
      rw [e]
      rfl
  · have e : sumPt p (X, Y, true) (X2, Y2, j) = (X2, Y2, j) := by unfold sumPt; simp only [cond_true]
    rw [e]
    rfl
theorem two_nat : (Elem.mk 2 0 0 0).nat = 2 := by decide
theorem four_nat : (Elem.mk 4 0 0 0).nat = 4 := by decide
theorem eight_nat : (Elem.mk 8 0 0 0).nat = 8 := by decide
theorem one_nat : (Elem.mk 1 0 0 0).nat = 1 := by decide
theorem nought_nat : (Elem.mk 0 0 0 0).nat = 0 := by decide
def RepW (p : Nat) (w : Wide) : PtQ → Prop
  | none => w.2.2.nat = 0
  | some P => w.2.2.nat < p ∧ ¬ (p : Int) ∣ (w.2.2.nat : Int) ∧ (p : Int) ∣ (w.1.nat : Int) - (P.1 : Int) * ((w.2.2.nat : Int) * (w.2.2.nat : Int)) ∧
      (p : Int) ∣ (w.2.1.nat : Int) - (P.2 : Int) * ((w.2.2.nat : Int) * (w.2.2.nat : Int) * (w.2.2.nat : Int))
theorem zero_of {e : Elem} (h : e.nat = 0) : zeroE e = true := by rw [zeroE_nat, h]; rfl
theorem zero_not {e : Elem} (h : ¬ (p : Int) ∣ (e.nat : Int)) : zeroE e = false := by
  rw [zeroE_nat]
  cases hb : Nat.beq e.nat 0
  · rfl
  · exact absurd ⟨0, by rw [Nat.eq_of_beq_eq_true hb]; rfl⟩ h
variable {b : Nat}
theorem dbl_rep (c : Cur p b) (hp : Sm p) {w : Wide} {P : PtQ} (hP : OnQ p b P) (h : RepW p w P) : RepW p (dblW p w) (addQ p P P) := by
  obtain ⟨X, Y, Z⟩ := w
  cases P with
  | none =>
    have e : dblW p (X, Y, Z) = (X, Y, Z) := by unfold dblW; rw [zero_of (e := Z) h]; rfl
    rw [e]
    exact h
  | some P =>
    obtain ⟨hz, hzn, hX, hY⟩ := h
    have e : dblW p (X, Y, Z) = dblN p X Y Z := by unfold dblW; rw [zero_not (e := Z) hzn]; rfl
    rw [e]
    cases hs : addQ p (some P) (some P) with
    | none =>
      have : addQ p (some P) (some P) = some (thirdQ p P P (slopeQ p P P)) := if_neg fun h => h.2 rfl
      rw [this] at hs
      cases hs
    | some S =>
      obtain ⟨hS1, hS2, l, hl, ht⟩ := of_sum c hP hP hs
      have hyy := mulP_c hp Y Y
      have ha := mulP_c hp X (mulP p Y Y)
      have hs := mulP_c hp (mulP p X (mulP p Y Y)) ⟨4, 0, 0, 0⟩
      have hb := mulP_c hp X X
      have hm := mulP_c hp (mulP p X X) ⟨3, 0, 0, 0⟩
      unfold dblN timesP
      dsimp only
      rw [four_nat] at hs
      rw [three_nat] at hm
      generalize mulP p (mulP p X X) ⟨3, 0, 0, 0⟩ = m at *
      generalize mulP p (mulP p X (mulP p Y Y)) ⟨4, 0, 0, 0⟩ = s at *
      have hmm := mulP_c hp m m
      have hs2 := mulP_c hp s ⟨2, 0, 0, 0⟩
      rw [two_nat] at hs2
      have hx3 := subP_c hp (mulP p m m) (mulP p s ⟨2, 0, 0, 0⟩)
      generalize subP p (mulP p m m) (mulP p s ⟨2, 0, 0, 0⟩) = x3 at *
      have hd := subP_c hp s x3
      have hmd := mulP_c hp m (subP p s x3)
      have hy4 := mulP_c hp (mulP p Y Y) (mulP p Y Y)
      have hy8 := mulP_c hp (mulP p (mulP p Y Y) (mulP p Y Y)) ⟨8, 0, 0, 0⟩
      rw [eight_nat] at hy8
      have hy3 := subP_c hp (mulP p m (subP p s x3)) (mulP p (mulP p (mulP p Y Y) (mulP p Y Y)) ⟨8, 0, 0, 0⟩)
      have hyz := mulP_c hp Y Z
      have hz3 := mulP_c hp (mulP p Y Z) ⟨2, 0, 0, 0⟩
      rw [two_nat] at hz3
      have hzz := dbl_z hz3 hyz hY
      refine ⟨mulP_lt hp _ _, fun hn => ?_, dbl_x ht.x hl.b hz3 hyz hx3 hs2 hmm hm hb hs ha hyy hX hY, dbl_y ht.y ht.x hl.b hz3 hyz hy3 hy8 hy4 hmd hd hx3 hs2 hmm hm hb hs ha hyy hX hY⟩
      have h2 : (p : Int) ∣ 2 * ((P.2 : Int) * ((Z.nat : Int) * ((Z.nat : Int) * ((Z.nat : Int) * Z.nat)))) := dv_r hn hzz
      rcases c.pr.euclidZ h2 with h | h
      · exact c.no2 h
      · rcases c.pr.euclidZ h with h | h
        · exact c.yne hP.2.2 h
        · rcases c.pr.euclidZ h with h | h
          · exact hzn h
          · rcases c.pr.euclidZ h with h | h
            · exact hzn h
            · rcases c.pr.euclidZ h with h | h <;> exact hzn h
end Go.Proofs.Ytkedomfjjahjnaa

namespace Go.Proofs.Ytkedomfjjahjnaa
open Sx Go
theorem add_rep {p b : Nat} (c : Cur p b) (hp : Sm p) {w v : Wide} {P R : PtQ} (hP : OnQ p b P) (hR : OnQ p b R) (h : RepW p w P) (k : RepW p v R) : RepW p (addW p w v) (addQ p P R) := by
  obtain ⟨X1, Y1, Z1⟩ := w
  obtain ⟨X2, Y2, Z2⟩ := v
  cases P with
  | none =>
    have e : addW p (X1, Y1, Z1) (X2, Y2, Z2) = (X2, Y2, Z2) := by unfold addW; rw [zero_of (e := Z1) h]; rfl
    rw [e]
    exact k
  | some P =>
  cases R with
  | none =>
    have e : addW p (X1, Y1, Z1) (X2, Y2, Z2) = (X1, Y1, Z1) := by unfold addW; rw [zero_not (e := Z1) h.2.1, zero_of (e := Z2) k]; rfl
    rw [e]
    exact h
  | some R =>
    have hw := h
    obtain ⟨hz, hzn, hX, hY⟩ := h
    obtain ⟨kz, kzn, kX, kY⟩ := k
    have e : addW p (X1, Y1, Z1) (X2, Y2, Z2) = addL p (X1, Y1, Z1) (X2, Y2, Z2) := by unfold addW; rw [zero_not (e := Z1) hzn, zero_not (e := Z2) kzn]; rfl
    rw [e]
    unfold addL
    dsimp only at *
    have hpz := mulP_c hp Z1 Z1
    have hqz := mulP_c hp Z2 Z2
    have hu := mulP_c hp X1 (mulP p Z2 Z2)
    have hq3 := mulP_c hp (mulP p Z2 Z2) Z2
    have hs := mulP_c hp Y1 (mulP p (mulP p Z2 Z2) Z2)
    have hv := mulP_c hp X2 (mulP p Z1 Z1)
    have hp3 := mulP_c hp (mulP p Z1 Z1) Z1
    have ht := mulP_c hp Y2 (mulP p (mulP p Z1 Z1) Z1)
    generalize mulP p X1 (mulP p Z2 Z2) = u at *
    generalize mulP p Y1 (mulP p (mulP p Z2 Z2) Z2) = s at *
    generalize mulP p X2 (mulP p Z1 Z1) = v at *
    generalize mulP p Y2 (mulP p (mulP p Z1 Z1) Z1) = t at *
    have hh := subP_c hp v u
    have hr := subP_c hp t s
    have lh := subP_lt hp v u
    have lr := subP_lt hp t s
    generalize subP p v u = H at *
    generalize subP p t s = r at *
    have ah := add_h hh hv hu hqz hpz hX kX
    have ar := add_r hr ht hp3 hs hq3 hqz hpz hY kY
    have out : ∀ {a z : Int}, ¬ (p : Int) ∣ z → (p : Int) ∣ a * z → (p : Int) ∣ a := fun hz h => (c.pr.euclidZ h).resolve_right hz
    have mul : ∀ {a z : Int}, ¬ (p : Int) ∣ a → ¬ (p : Int) ∣ z → ¬ (p : Int) ∣ a * z := fun ha hz h => (c.pr.euclidZ h).elim ha hz
    have n4 := mul (mul hzn hzn) (mul kzn kzn)
    have n6 := mul (mul (mul hzn hzn) hzn) (mul (mul kzn kzn) kzn)
    unfold addM
    rcases (Bool.eq_false_or_eq_true (zeroE H)).symm with h1 | h1
    · rw [h1]
      simp only [cond_false]
      have hHn : ¬ (p : Int) ∣ (H.nat : Int) := fun hd => by
        rw [zeroE_nat] at h1
        have := Nat.eq_zero_of_dvd_of_lt (Int.natCast_dvd_natCast.1 hd) lh
        rw [this] at h1
        cases h1
      have hxn : P.1 ≠ R.1 := fun hx => hHn (by
        rw [hx, Int.sub_self, Int.zero_mul, Int.sub_zero] at ah
        exact ah)
      cases hS : addQ p (some P) (some R) with
      | none =>
        have : addQ p (some P) (some R) = some (thirdQ p P R (slopeQ p P R)) := if_neg fun h => hxn h.1
        rw [this] at hS
        cases hS
      | some S =>
        obtain ⟨hS1, hS2, l, hl, hT⟩ := of_sum c hP hR hS
        unfold addN timesP
        dsimp only
        have hhh := mulP_c hp H H
        have hhhh := mulP_c hp (mulP p H H) H
        have hcc := mulP_c hp u (mulP p H H)
        have hrr := mulP_c hp r r
        have hrh := subP_c hp (mulP p r r) (mulP p (mulP p H H) H)
        have hc2 := mulP_c hp (mulP p u (mulP p H H)) ⟨2, 0, 0, 0⟩
        rw [two_nat] at hc2
        have hx3 := subP_c hp (subP p (mulP p r r) (mulP p (mulP p H H) H)) (mulP p (mulP p u (mulP p H H)) ⟨2, 0, 0, 0⟩)
        generalize subP p (subP p (mulP p r r) (mulP p (mulP p H H) H)) (mulP p (mulP p u (mulP p H H)) ⟨2, 0, 0, 0⟩) = x3 at *
        have hd := subP_c hp (mulP p u (mulP p H H)) x3
        have hrd := mulP_c hp r (subP p (mulP p u (mulP p H H)) x3)
        have hsh := mulP_c hp s (mulP p (mulP p H H) H)
        have hy3 := subP_c hp (mulP p r (subP p (mulP p u (mulP p H H)) x3)) (mulP p s (mulP p (mulP p H H) H))
        have hzz := mulP_c hp Z1 Z2
        have hz3 := mulP_c hp H (mulP p Z1 Z2)
        refine ⟨mulP_lt hp _ _, fun hn => ?_, add_x hT.x hl.a hz3 hzz hx3 hc2 hrh hrr hcc hhhh hhh hr ht hp3 hh hv hs hq3 hu hqz hpz hX hY kX kY,
          add_y hT.y hT.x hl.a hz3 hzz hy3 hsh hrd hd hx3 hc2 hrh hrr hcc hhhh hhh hr ht hp3 hh hv hs hq3 hu hqz hpz hX hY kX kY⟩
        have h2 := dv_r hn hz3
        rcases c.pr.euclidZ h2 with h | h
        · exact hHn h
        · have h3 := dv_r h hzz
          exact mul hzn kzn h3
    · rw [h1]
      simp only [cond_true]
      have hH : H.nat = 0 := by rw [zeroE_nat] at h1; exact Nat.eq_of_beq_eq_true h1
      have hx : P.1 = R.1 := by
        rw [hH] at ah
        have : (p : Int) ∣ ((R.1 : Int) - P.1) * ((Z1.nat : Int) * Z1.nat * (Z2.nat * Z2.nat)) := dv_r (Int.dvd_zero _) ah
        exact (same_of hR.1 hP.1 (out n4 this)).symm
      rcases (Bool.eq_false_or_eq_true (zeroE r)).symm with h2 | h2
      · rw [h2]
        simp only [cond_false]
        have hy : P.2 ≠ R.2 := fun hy => by
          rw [hy, Int.sub_self, Int.zero_mul, Int.sub_zero] at ar
          rw [zeroE_nat] at h2
          have := Nat.eq_zero_of_dvd_of_lt (Int.natCast_dvd_natCast.1 ar) lr
          rw [this] at h2
          cases h2
        have : addQ p (some P) (some R) = none := if_pos ⟨hx, hy⟩
        rw [this]
        exact nought_nat
      · rw [h2]
        simp only [cond_true]
        have hr0 : r.nat = 0 := by rw [zeroE_nat] at h2; exact Nat.eq_of_beq_eq_true h2
        have hy : P.2 = R.2 := by
          rw [hr0] at ar
          have : (p : Int) ∣ ((R.2 : Int) - P.2) * ((Z1.nat : Int) * Z1.nat * Z1.nat * (Z2.nat * Z2.nat * Z2.nat)) := dv_r (Int.dvd_zero _) ar
          exact (same_of hR.2.1 hP.2.1 (out n6 this)).symm
        have : R = P := by
          obtain ⟨P1, P2⟩ := P
          obtain ⟨R1, R2⟩ := R
          dsimp only at hx hy
          rw [hx, hy]
        rw [this]
        exact dbl_rep c hp hP hw
def Can (P : Pt) : Prop := P.2.2 = true → P = inftyP
theorem can_same {P R : Pt} (hP : Can P) (hR : Can R) (h : toQ P = toQ R) : P = R := by
  obtain ⟨X, Y, i⟩ := P
  obtain ⟨X2, Y2, j⟩ := R
  cases i <;> cases j
  · have h : some (X.nat, Y.nat) = some (X2.nat, Y2.nat) := h
    simp only [Option.some.injEq, Prod.mk.injEq] at h
    rw [nat_inj h.1, nat_inj h.2]
  · cases h
  · cases h
  · rw [hP rfl, hR rfl]
theorem narrow_rep {p b : Nat} (c : Cur p b) (hp : Sm p) {w : Wide} {P : PtQ} (hP : OnQ p b P) (h : RepW p w P) : toQ (narrowP p w) = P ∧ Can (narrowP p w) := by
  obtain ⟨X, Y, Z⟩ := w
  cases P with
  | none =>
    have e : narrowP p (X, Y, Z) = inftyP := by unfold narrowP; rw [zero_of (e := Z) h]; rfl
    rw [e]
    exact ⟨rfl, fun _ => rfl⟩
  | some P =>
    obtain ⟨hz, hzn, hX, hY⟩ := h
    have e : narrowP p (X, Y, Z) = narrowI p X Y (inv0 p Z) := by unfold narrowP; rw [zero_not (e := Z) hzn]; rfl
    rw [e]
    refine ⟨?_, fun h => by cases h⟩
    have hi := inv0_c hp c.pr hzn
    unfold narrowI
    have h2 := mulP_c hp (inv0 p Z) (inv0 p Z)
    have h3 := mulP_c hp (mulP p (inv0 p Z) (inv0 p Z)) (inv0 p Z)
    have hx := mulP_c hp X (mulP p (inv0 p Z) (inv0 p Z))
    have hy := mulP_c hp Y (mulP p (mulP p (inv0 p Z) (inv0 p Z)) (inv0 p Z))
    have ex := same_of (mulP_lt hp _ _) hP.1 (nar_x hx h2 hX hi)
    have ey := same_of (mulP_lt hp _ _) hP.2.1 (nar_y hy h3 h2 hY hi)
    show some ((mulP p X (mulP p (inv0 p Z) (inv0 p Z))).nat, (mulP p Y (mulP p (mulP p (inv0 p Z) (inv0 p Z)) (inv0 p Z))).nat) = some P
    rw [ex, ey]
theorem widen_rep {p b : Nat} (c : Cur p b) {P : Pt} : RepW p (widenP P) (toQ P) := by
  obtain ⟨X, Y, i⟩ := P
  cases i
  · have h1 := c.big
    refine ⟨?_, fun h => ?_, ?_, ?_⟩
    · show (Elem.mk 1 0 0 0).nat < p
      rw [one_nat]
      omega
    · have h : (p : Int) ∣ (((Elem.mk 1 0 0 0).nat : Nat) : Int) := h
      rw [one_nat] at h
      have := Int.le_of_dvd (by decide) h
      omega
    · show (p : Int) ∣ (X.nat : Int) - (X.nat : Int) * ((((Elem.mk 1 0 0 0).nat : Nat) : Int) * (((Elem.mk 1 0 0 0).nat : Nat) : Int))
      rw [one_nat]
      exact ⟨0, by simp⟩
    · show (p : Int) ∣ (Y.nat : Int) - (Y.nat : Int) * ((((Elem.mk 1 0 0 0).nat : Nat) : Int) * (((Elem.mk 1 0 0 0).nat : Nat) : Int) * (((Elem.mk 1 0 0 0).nat : Nat) : Int))
      rw [one_nat]
      exact ⟨0, by simp⟩
  · exact nought_nat
theorem can_line {p : Nat} (X Y X2 s : Elem) : Can (lineP p X Y X2 s) := fun h => by cases h
theorem can_sum {p : Nat} {P R : Pt} (hP : Can P) (hR : Can R) : Can (sumPt p P R) := by
  obtain ⟨X, Y, i⟩ := P
  obtain ⟨X2, Y2, j⟩ := R
  unfold sumPt
  cases i
  · cases j
    · simp only [cond_false]
      cases eqE X X2
      · exact can_line _ _ _ _
      · cases eqE Y Y2
        · exact fun _ => rfl
        · exact can_line _ _ _ _
    · exact hP
  · exact hR
theorem bitI_at (k : Elem) {n : Nat} (h : n < 256) : bitI k (255 - (n : Int)) = bitN k.nat (255 - n) := by
  unfold bitI
  rw [decide_eq_true (show (0 : Int) ≤ 255 - (n : Int) by omega), decide_eq_true (show (255 : Int) - (n : Int) < 256 by omega), show ((255 : Int) - (n : Int)).toNat = 255 - n by omega]
  rfl
theorem mul_walk {p b : Nat} (c : Cur p b) (hp : Sm p) (k : Elem) {P : Pt} (hP : OnQ p b (toQ P)) (hc : Can P) : ∀ n, n ≤ 256 →
    RepW p (upto (mulStep p k (widenP P)) wide0 n) (toQ (upto (refStep p k.nat P) inftyP n)) ∧ OnQ p b (toQ (upto (refStep p k.nat P) inftyP n)) ∧ Can (upto (refStep p k.nat P) inftyP n)
  | 0, _ => ⟨nought_nat, trivial, fun _ => rfl⟩
  | n + 1, h => by
    obtain ⟨h1, h2, h3⟩ := mul_walk c hp k hP hc n (by omega)
    show RepW p (mulStep p k (widenP P) n (upto (mulStep p k (widenP P)) wide0 n)) (toQ (refStep p k.nat P n (upto (refStep p k.nat P) inftyP n))) ∧ OnQ p b (toQ (refStep p k.nat P n (upto (refStep p k.nat P) inftyP n))) ∧ Can (refStep p k.nat P n (upto (refStep p k.nat P) inftyP n))
    generalize upto (mulStep p k (widenP P)) wide0 n = w at *
    generalize upto (refStep p k.nat P) inftyP n = Q at *
    have d1 := dbl_rep c hp h2 h1
    have d2 := sum_toQ c hp h2 h2
    have d3 := on_add c h2 h2
    rw [← d2] at d1 d3
    have d4 := can_sum (p := p) h3 h3
    unfold mulStep refStep
    rw [bitI_at k (by omega)]
    cases bitN k.nat (255 - n)
    · exact ⟨d1, d3, d4⟩
    · simp only [cond_true]
      have e2 := sum_toQ c hp d3 hP
      refine ⟨?_, ?_, can_sum d4 hc⟩
      · rw [e2]
        exact add_rep c hp d3 hP d1 (widen_rep c)
      · rw [e2]
        exact on_add c d3 hP
theorem no_cube {p b m : Nat} (pr : Pr p) (h3 : p = 3 * m + 1) (hb0 : 0 < b) (hb : b < p) (hm : Nat.blt m (2 ^ 256) = true) (hk : Nat.beq (pwm p (p - b) m) 1 = false) (x : Int) : ¬ (p : Int) ∣ x * x * x + b := fun hd => by
  have h2 := pr.1
  rw [pwm_eq h2 hm] at hk
  obtain ⟨k, hk1⟩ := hd
  obtain ⟨j, hj⟩ := nm_dvd pr.pos x
  have hn : p ∣ nm p x * nm p x * nm p x + b := Int.natCast_dvd_natCast.1 (by
    rw [Int.natCast_add, Int.natCast_mul, Int.natCast_mul]
    generalize ((nm p x : Nat) : Int) = n at *
    exact ⟨k + j * (n * n + n * x + x * x), by grind⟩)
  generalize nm p x = n at *
  have hpn : ¬ p ∣ n := fun hd => by
    have h1 : p ∣ n * n * n := Nat.dvd_trans hd (Nat.dvd_mul_left ..)
    have := (Nat.dvd_add_right h1).1 hn
    have := Nat.le_of_dvd hb0 this
    omega
  have hf := fermat pr hpn
  have e : n ^ 3 % p = (p - b) % p := by
    obtain ⟨c, hc⟩ := hn
    have hc0 : c ≠ 0 := fun e => by rw [e] at hc; omega
    obtain ⟨d, rfl⟩ : ∃ d, c = d + 1 := ⟨c - 1, by omega⟩
    have : n ^ 3 = (p - b) + p * d := by
      rw [show n ^ 3 = n * n * n by rw [Nat.pow_succ, Nat.pow_succ, Nat.pow_one]]
      rw [Nat.mul_succ] at hc
      omega
    rw [this, Nat.add_mul_mod_self_left]
  have : (p - b) ^ m % p = 1 := by
    rw [Nat.pow_mod, ← e, ← Nat.pow_mod, ← Nat.pow_mul, show 3 * m = p - 1 by omega]
    exact hf
  rw [this] at hk
  cases hk
theorem cur_of {s : Int} (h : sortOk s = true) : Cur (pS s) (bS s).nat := by
  rcases sortOk_cases h with rfl | rfl | rfl | rfl
  · have e : pS 0 = 16513537 := by decide +kernel
    have e2 : (bS 0).nat = 23 := by decide +kernel
    rw [e, e2]
    exact ⟨pr_16513537, by decide, no_cube (m := 5504512) pr_16513537 (by decide) (by decide) (by decide) (by decide +kernel) (by decide +kernel)⟩
  · have e : pS 1 = 16521217 := by decide +kernel
    have e2 : (bS 1).nat = 21 := by decide +kernel
    rw [e, e2]
    exact ⟨pr_16521217, by decide, no_cube (m := 5507072) pr_16521217 (by decide) (by decide) (by decide) (by decide +kernel) (by decide +kernel)⟩
  · have e : pS 2 = 28948022309329048855892746252171976963363056481941560715954676764349967630337 := by decide +kernel
    have e2 : (bS 2).nat = 5 := by decide +kernel
    rw [e, e2]
    exact ⟨pr_28948022309329048855892746252171976963363056481941560715954676764349967630337, by decide, no_cube (m := 9649340769776349618630915417390658987787685493980520238651558921449989210112) pr_28948022309329048855892746252171976963363056481941560715954676764349967630337 (by decide) (by decide) (by decide) (by decide +kernel) (by decide +kernel)⟩
  · have e : pS 3 = 28948022309329048855892746252171976963363056481941647379679742748393362948097 := by decide +kernel
    have e2 : (bS 3).nat = 5 := by decide +kernel
    rw [e, e2]
    exact ⟨pr_28948022309329048855892746252171976963363056481941647379679742748393362948097, by decide, no_cube (m := 9649340769776349618630915417390658987787685493980549126559914249464454316032) pr_28948022309329048855892746252171976963363056481941647379679742748393362948097 (by decide) (by decide) (by decide) (by decide +kernel) (by decide +kernel)⟩
theorem onB_parts {s : Int} {P : Pt} (h : onB s P = true) : sortOk s = true ∧ OnQ (pS s) (bS s).nat (toQ P) ∧ Can P := by
  have hs := onB_sort h
  have hp : Sm (pS s) := pS_pos hs
  obtain ⟨X, Y, i⟩ := P
  refine ⟨hs, ?_⟩
  unfold onB at h
  rw [hs] at h
  simp only [cond_true] at h
  cases i
  · simp only [cond_false] at h
    refine ⟨?_, fun h => by cases h⟩
    rcases (Bool.eq_false_or_eq_true (Nat.blt X.nat (pS s))).symm with h1 | h1
    · rw [h1] at h; cases h
    · rcases (Bool.eq_false_or_eq_true (Nat.blt Y.nat (pS s))).symm with h2 | h2
      · rw [h1, h2] at h; cases h
      · rw [h1, h2] at h
        simp only [cond_true] at h
        have e := eqE_iff.1 h
        have hx : X.nat < pS s := blt_of h1
        have hy : Y.nat < pS s := blt_of h2
        refine ⟨hx, hy, ?_⟩
        have e1 := mulP_c hp Y Y
        have e2 := mulP_c hp X X
        have e3 := mulP_c hp (mulP (pS s) X X) X
        have e4 := addP_c hp (mulP (pS s) (mulP (pS s) X X) X) (bS s)
        rw [e] at e1
        unfold cubeP at e1
        show ((pS s : Nat) : Int) ∣ (Y.nat : Int) * Y.nat - X.nat * X.nat * X.nat - (bS s).nat
        exact cv_of e1 e4 e3 e2
  · simp only [cond_true, Bool.and_eq_true] at h
    refine ⟨trivial, fun _ => ?_⟩
    have z : ∀ {e : Elem}, zeroE e = true → e = ⟨0, 0, 0, 0⟩ := fun {e} h => nat_inj (by rw [zeroE_nat] at h; rw [Nat.eq_of_beq_eq_true h]; exact nought_nat.symm)
    rw [z h.1, z h.2.1]
    rfl
theorem scal_same {s : Int} (h : sortOk s = true) (k : Elem) : (scalP s k).nat = (ofP (pS (ixor s 1)) k).nat := by
  have hp := pS_pos (sort_other h)
  unfold scalP
  rw [show (addP (pS (ixor s 1)) k ⟨0, 0, 0, 0⟩).nat = (k.nat + (Elem.mk 0 0 0 0).nat) % pS (ixor s 1) from rem_nat hp, nought_nat, Nat.add_zero]
  exact (rem_nat hp).symm
theorem mul_same (s : Int) (k : Elem) (P : Pt) : mulPt s k P = mulRef s k P := by
  unfold mulPt mulRef
  rcases (Bool.eq_false_or_eq_true (onB s P)).symm with h | h
  · rw [h]
    rfl
  · rw [h]
    simp only [cond_true]
    obtain ⟨hs, hP, hc⟩ := onB_parts h
    have c := cur_of hs
    have hp : Sm (pS s) := pS_pos hs
    obtain ⟨h1, h2, h3⟩ := mul_walk c hp (scalP s k) hP hc 256 (Nat.le_refl _)
    obtain ⟨n1, n2⟩ := narrow_rep c hp h2 h1
    rw [← scal_same hs]
    exact can_same n2 h3 n1
theorem add_same (s : Int) (P R : Pt) : addPt s P R = sumOn s P R := by
  unfold addPt sumOn
  rcases (Bool.eq_false_or_eq_true (onB s P)).symm with h | h
  · rw [h]
    rfl
  · rcases (Bool.eq_false_or_eq_true (onB s R)).symm with h' | h'
    · rw [h, h']
      rfl
    · rw [h, h']
      simp only [cond_true]
      obtain ⟨hs, hP, hc⟩ := onB_parts h
      obtain ⟨_, hR, hc'⟩ := onB_parts h'
      have c := cur_of hs
      have hp : Sm (pS s) := pS_pos hs
      obtain ⟨n1, n2⟩ := narrow_rep c hp (on_add c hP hR) (add_rep c hp hP hR (widen_rep c) (widen_rep c))
      refine can_same n2 (can_sum hc hc') ?_
      rw [n1, sum_toQ c hp hP hR]
end Go.Proofs.Ytkedomfjjahjnaa

namespace Go.Proofs.Ytkedomfjjahjnaa
open Sx Go
theorem mod_pow_mod (a n p : Nat) : (a % p) ^ n % p = a ^ n % p := (Nat.pow_mod a n p).symm
theorem mul_m {p a b c d : Nat} (h1 : a % p = c % p) (h2 : b % p = d % p) : a * b % p = c * d % p := by rw [Nat.mul_mod, h1, h2, ← Nat.mul_mod]
theorem sq_one {p t : Nat} (pr : Pr p) (ht : t < p) (h : t * t % p = 1) : t = 1 ∨ t = p - 1 := by
  have h2 := pr.1
  have hd : (p : Int) ∣ ((t : Int) - 1) * ((t : Int) + 1) := by
    have e := Nat.div_add_mod (t * t) p
    rw [h] at e
    refine ⟨((t * t / p : Nat) : Int), ?_⟩
    have e : ((p * (t * t / p) + 1 : Nat) : Int) = ((t * t : Nat) : Int) := congrArg (fun n : Nat => (n : Int)) e
    rw [Int.natCast_add, Int.natCast_mul, Int.natCast_mul] at e
    have e2 : ((t : Int) - 1) * ((t : Int) + 1) = (t : Int) * t - 1 := by grind
    rw [e2, ← e]
    omega
  rcases pr.euclidZ hd with h | h
  · left
    exact same_of ht (by omega) h
  · right
    refine same_of ht (by omega) ?_
    obtain ⟨k, hk⟩ := h
    have : ((p - 1 : Nat) : Int) = (p : Int) - 1 := by omega
    rw [this]
    exact ⟨k - 1, by rw [Int.mul_sub]; omega⟩
theorem neg_sq {p : Nat} (h2 : 2 ≤ p) : (p - 1) * (p - 1) % p = 1 := by
  obtain ⟨q, rfl⟩ : ∃ q, p = q + 2 := ⟨p - 2, by omega⟩
  have : (q + 2 - 1) * (q + 2 - 1) = 1 + (q + 2) * q := by
    rw [show q + 2 - 1 = q + 1 by omega]
    grind
  rw [this, Nat.add_mul_mod_self_left]
  exact Nat.mod_eq_of_lt (by omega)
section
variable {p : Nat}
theorem mulP_n (hp : Sm p) (a b : Elem) : (mulP p a b).nat = a.nat * b.nat % p := rem_nat hp
theorem expP_n (hp : Sm p) (h2 : 2 ≤ p) (a k : Elem) : (expP p a k).nat = a.nat ^ k.nat % p := by
  rw [expP_eq (by omega)]
  exact rem_nat hp
theorem sqN_n (hp : Sm p) {b : Elem} (hb : b.nat < p) : ∀ n, (sqN p b n).nat = b.nat ^ 2 ^ n % p
  | 0 => by
    show b.nat = _
    rw [Nat.pow_zero, Nat.pow_one, Nat.mod_eq_of_lt hb]
  | n + 1 => by
    show (mulP p (sqN p b n) (sqN p b n)).nat = _
    rw [mulP_n hp, sqN_n hp hb n, ← Nat.mul_mod, ← Nat.pow_add, ← Nat.two_mul, ← Nat.pow_succ']
theorem eqE_one (t : Elem) : eqE t oneE = Nat.beq t.nat 1 := by rw [eqE_nat]; rfl
theorem not_beq {a b : Nat} (h : Nat.beq a b = false) : a ≠ b := fun e => by rw [e, Nat.beq_refl] at h; cases h
structure TonOk (p a i : Nat) (w : Ton) : Prop where
  x : w.1.nat < p
  b : w.2.1.nat < p
  z : w.2.2.nat < p
  sq : w.1.nat * w.1.nat % p = a * w.2.1.nat % p
  one : w.2.1.nat ^ 2 ^ i % p = 1
  neg : w.2.2.nat ^ 2 ^ i % p = p - 1
theorem pow_two_sq (b i : Nat) : b ^ 2 ^ (i + 1) = b ^ 2 ^ i * b ^ 2 ^ i := by rw [← Nat.pow_add, ← Nat.two_mul, ← Nat.pow_succ']
theorem sq_pow (z i : Nat) (p : Nat) : (z * z % p) ^ 2 ^ i % p = z ^ 2 ^ (i + 1) % p := by rw [mod_pow_mod, ← Nat.pow_two, ← Nat.pow_mul, ← Nat.pow_succ']
theorem half_root (pr : Pr p) {b i : Nat} (h : b ^ 2 ^ (i + 1) % p = 1) : b ^ 2 ^ i % p = 1 ∨ b ^ 2 ^ i % p = p - 1 := by
  rw [pow_two_sq, Nat.mul_mod] at h
  exact sq_one pr (Nat.mod_lt _ pr.pos) h
theorem ton_mul (hp : Sm p) (pr : Pr p) {a i : Nat} {x b z u : Elem} (hx : x.nat * x.nat % p = a * b.nat % p) (hb : b.nat ^ 2 ^ i % p = p - 1) (hu : u.nat * u.nat % p = z.nat % p) (hz : z.nat ^ 2 ^ i % p = p - 1) :
    (mulP p x u).nat * (mulP p x u).nat % p = a * (mulP p b z).nat % p ∧ (mulP p b z).nat ^ 2 ^ i % p = 1 := by
  constructor
  · rw [mulP_n hp, mulP_n hp, ← Nat.mul_mod, Nat.mul_mod_mod, show x.nat * u.nat * (x.nat * u.nat) = x.nat * x.nat * (u.nat * u.nat) by ac_rfl, show a * (b.nat * z.nat) = a * b.nat * z.nat from (Nat.mul_assoc ..).symm]
    exact mul_m hx hu
  · rw [mulP_n hp, mod_pow_mod, Nat.mul_pow, Nat.mul_mod, hb, hz]
    exact neg_sq pr.1
theorem tonStep_ok (hp : Sm p) (pr : Pr p) {a m k : Nat} {w : Ton} (hk : k < m) (h : TonOk p a (m - k) w) : TonOk p a (m - (k + 1)) (tonStep p m k w) := by
  obtain ⟨x, b, z⟩ := w
  have e : m - k = (m - (k + 1)) + 1 := by omega
  rw [e] at h
  obtain ⟨hx, hb, hz, h1, h2, h3⟩ := h
  dsimp only at *
  have ht := sqN_n hp hb (m - (k + 1))
  have hz2 : (mulP p z z).nat ^ 2 ^ (m - (k + 1)) % p = p - 1 := by rw [mulP_n hp, sq_pow]; exact h3
  unfold tonStep
  dsimp only
  rw [show m - k - 1 = m - (k + 1) by omega, eqE_one]
  cases hq : Nat.beq (sqN p b (m - (k + 1))).nat 1
  · simp only [cond_false]
    have hn := not_beq hq
    rw [ht] at hn
    have hb1 := (half_root pr h2).resolve_left hn
    obtain ⟨g1, g2⟩ := ton_mul hp pr (u := z) h1 hb1 (by rw [mulP_n hp, Nat.mod_mod]) hz2
    exact ⟨mulP_lt hp _ _, mulP_lt hp _ _, mulP_lt hp _ _, g1, g2, hz2⟩
  · simp only [cond_true]
    have hb1 := Nat.eq_of_beq_eq_true hq
    rw [ht] at hb1
    exact ⟨hx, hb, mulP_lt hp _ _, h1, hb1, hz2⟩
theorem tonN_ok (hp : Sm p) (pr : Pr p) {a m : Nat} {w : Ton} (h : TonOk p a m w) : (tonN p m w).1.nat < p ∧ (tonN p m w).1.nat * (tonN p m w).1.nat % p = a % p := by
  have key : ∀ n, n ≤ m → TonOk p a (m - n) (upto (tonStep p m) w n) := by
    intro n
    induction n with
    | zero => intro _; exact h
    | succ n ih => intro hn; exact tonStep_ok hp pr (by omega) (ih (by omega))
  have hk := key m (Nat.le_refl _)
  rw [Nat.sub_self] at hk
  obtain ⟨hx, hb, hz, h1, h2, h3⟩ := hk
  refine ⟨hx, ?_⟩
  rw [Nat.pow_zero, Nat.pow_one, Nat.mod_eq_of_lt hb] at h2
  rw [h2, Nat.mul_one] at h1
  exact h1
end
def oddS (s : Int) : Elem := halvesE (wdif (numOf s.toNat).1 oneE).1 (numOf s.toNat).2.1.toNat
def adS (s : Int) : Nat := (numOf s.toNat).2.1.toNat
structure SqrtOk (s : Int) : Prop where
  od : (oddS s).nat * 2 ^ adS s = pS s - 1
  up : 2 * (halfE (wsum (oddS s) oneE).1).nat = (oddS s).nat + 1
  hf : (halfE (wdif (numOf s.toNat).1 oneE).1).nat = (pS s - 1) / 2
  ad : 1 ≤ adS s
  ai : (numOf s.toNat).2.1 = (adS s : Int)
  nr : pwm (pS s) 5 ((pS s - 1) / 2) = pS s - 1
  pr : Pr (pS s)
  sm : Sm (pS s)
  o2 : pS s % 2 = 1
theorem sqrtOk_of {s : Int} (hs : sortOk s = true) : SqrtOk s := by
  have pr := (cur_of hs).pr
  have sm : Sm (pS s) := pS_pos hs
  rcases sortOk_cases hs with rfl | rfl | rfl | rfl <;>
    exact ⟨by decide +kernel, by decide +kernel, by decide +kernel, by decide +kernel, by decide +kernel, by decide +kernel, pr, sm, by decide +kernel⟩
section
variable {s : Int} (k : SqrtOk s)
include k
theorem pow_od (a : Nat) : (a ^ (oddS s).nat) ^ 2 ^ (adS s - 1) = a ^ ((pS s - 1) / 2) := by
  rw [← Nat.pow_mul]
  congr 1
  have h := k.od
  have ha := k.ad
  obtain ⟨n, hn⟩ : ∃ n, adS s = n + 1 := ⟨adS s - 1, by omega⟩
  rw [hn] at h ⊢
  rw [Nat.pow_succ, ← Nat.mul_assoc] at h
  rw [show n + 1 - 1 = n by omega]
  omega
theorem five_neg : (5 ^ (oddS s).nat) ^ 2 ^ (adS s - 1) % pS s = pS s - 1 := by
  rw [pow_od k]
  have h := k.nr
  have hp := k.sm
  rw [pwm_eq k.pr.1 (Nat.ble_eq_true_of_le (by have := hp.2; omega))] at h
  exact h
omit k in
theorem five_nat : (Elem.mk 5 0 0 0).nat = 5 := by decide
theorem root_ok {a : Elem} (he : a.nat ^ ((pS s - 1) / 2) % pS s = 1) : (rootX s a).nat < pS s ∧ (rootX s a).nat * (rootX s a).nat % pS s = a.nat % pS s := by
  have hp := k.sm
  have pr := k.pr
  have e : rootX s a = (tonN (pS s) (adS s - 1) (expP (pS s) a (halfE (wsum (oddS s) oneE).1), expP (pS s) a (oddS s), expP (pS s) ⟨5, 0, 0, 0⟩ (oddS s))).1 := by
    show (tonN (pS s) ((numOf s.toNat).2.1 - 1).toNat _).1 = _
    rw [k.ai, show ((adS s : Int) - 1).toNat = adS s - 1 by omega]
    rfl
  rw [e]
  refine tonN_ok hp pr (a := a.nat) ⟨?_, ?_, ?_, ?_, ?_, ?_⟩
  · rw [expP_n hp pr.1]; exact Nat.mod_lt _ pr.pos
  · rw [expP_n hp pr.1]; exact Nat.mod_lt _ pr.pos
  · rw [expP_n hp pr.1]; exact Nat.mod_lt _ pr.pos
  · show (expP (pS s) a (halfE (wsum (oddS s) oneE).1)).nat * (expP (pS s) a (halfE (wsum (oddS s) oneE).1)).nat % pS s = a.nat * (expP (pS s) a (oddS s)).nat % pS s
    rw [expP_n hp pr.1, expP_n hp pr.1, ← Nat.mul_mod, Nat.mul_mod_mod, ← Nat.pow_add, ← Nat.two_mul, k.up, Nat.pow_succ, Nat.mul_comm]
  · show (expP (pS s) a (oddS s)).nat ^ _ % pS s = 1
    rw [expP_n hp pr.1, mod_pow_mod, pow_od k]
    exact he
  · show (expP (pS s) ⟨5, 0, 0, 0⟩ (oddS s)).nat ^ _ % pS s = pS s - 1
    rw [expP_n hp pr.1, mod_pow_mod, five_nat]
    exact five_neg k
end
theorem even_ok {p : Nat} (hp : Sm p) (ho : p % 2 = 1) {x : Elem} (hx : x.nat < p) : (evenX p x).nat < p ∧ (evenX p x).nat % 2 = 0 ∧ (evenX p x).nat * (evenX p x).nat % p = x.nat * x.nat % p := by
  have hb : (x.w0 % 2 == 1) = Nat.beq (x.nat % 2) 1 := by
    have e : x.nat % 2 = x.w0.toNat % 2 := by unfold Sx.Elem.nat; omega
    rw [e]
    have h2 : (x.w0 % 2).toNat = x.w0.toNat % 2 := by rw [UInt64.toNat_mod]; rfl
    rw [← h2]
    by_cases h : x.w0 % 2 = 1
    · rw [h]; rfl
    · have hn : ¬ (x.w0 % 2).toNat = 1 := fun e => h (UInt64.toNat_inj.1 e)
      have : Nat.beq (x.w0 % 2).toNat 1 = false := by
        cases hb : Nat.beq (x.w0 % 2).toNat 1
        · rfl
        · exact absurd (Nat.eq_of_beq_eq_true hb) hn
      rw [this]
      simpa using h
  unfold evenX
  rw [hb]
  cases hq : Nat.beq (x.nat % 2) 1
  · simp only [cond_false]
    have := not_beq hq
    exact ⟨hx, by omega, trivial⟩
  · simp only [cond_true]
    have h1 := Nat.eq_of_beq_eq_true hq
    have e : (negP p x).nat = p - x.nat := by
      rw [show (negP p x).nat = (p - x.nat % p) % p from rem_nat hp, Nat.mod_eq_of_lt hx, Nat.mod_eq_of_lt (by omega)]
    rw [e]
    refine ⟨by omega, by omega, ?_⟩
    obtain ⟨d, hd⟩ : ∃ d, p = x.nat + d := ⟨p - x.nat, by omega⟩
    have e2 : p - x.nat = d := by omega
    rw [e2]
    have e3 : d * d + p * x.nat = x.nat * x.nat + p * d := by rw [hd]; grind
    have := congrArg (· % p) e3
    simp only [Nat.add_mul_mod_self_left] at this
    exact this
theorem even_same {p : Nat} (pr : Pr p) (ho : p % 2 = 1) {x y : Nat} (hx : x < p) (hy : y < p) (ex : x % 2 = 0) (ey : y % 2 = 0) (h : x * x % p = y * y % p) : x = y := by
  have hd : (p : Int) ∣ ((x : Int) - y) * ((x : Int) + y) := by
    obtain ⟨a, ha⟩ := md_c (p := p) (x * x)
    obtain ⟨b, hb⟩ := md_c (p := p) (y * y)
    rw [h] at ha
    rw [Int.natCast_mul] at ha hb
    generalize (((y * y % p) : Nat) : Int) = r at *
    exact ⟨b - a, by grind⟩
  rcases pr.euclidZ hd with h | h
  · exact same_of hx hy h
  · have h : (p : Int) ∣ ((x + y : Nat) : Int) := by rw [Int.natCast_add]; exact h
    have h := Int.natCast_dvd_natCast.1 h
    obtain ⟨c, hc⟩ := h
    have hc2 : c < 2 := by
      apply Classical.byContradiction
      intro h2
      have := Nat.mul_le_mul_left p (show 2 ≤ c by omega)
      omega
    rcases (show c = 0 ∨ c = 1 by omega) with rfl | rfl <;> omega
end Go.Proofs.Ytkedomfjjahjnaa

namespace Go.Proofs.Ytkedomfjjahjnaa
open Sx Go
def kF (p : Nat) : Nat → Elem → Nat → Nat
  | 0, _, k => k
  | n + 1, s, k => cond (eqE s oneE) k (kF p n (mulP p s s) (k + 1))
def tsB (p m k : Nat) (w : Ton) : Elem := sqN p w.2.2 (m - k - 1)
def tsW (p m k : Nat) (w : Ton) : Ton := (mulP p w.1 (tsB p m k w), mulP p w.2.1 (mulP p (tsB p m k w) (tsB p m k w)), mulP p (tsB p m k w) (tsB p m k w))
def tsF (p : Nat) : Nat → Nat → Ton → Option Elem
  | 0, _, _ => none
  | f + 1, m, w => cond (eqE w.2.1 oneE) (some w.1) (cond (Nat.beq (kF p m w.2.1 0) m) none (tsF p f (kF p m w.2.1 0) (tsW p m (kF p m w.2.1 0) w)))
section
variable {p : Nat}
theorem kF_spec (hp : Sm p) : ∀ (n : Nat) (s : Elem) (k : Nat), s.nat < p → k ≤ kF p n s k ∧ kF p n s k ≤ k + n ∧ (kF p n s k < k + n → s.nat ^ 2 ^ (kF p n s k - k) % p = 1) ∧ ∀ j, k ≤ j → j < kF p n s k → s.nat ^ 2 ^ (j - k) % p ≠ 1
  | 0, s, k, _ => ⟨Nat.le_refl _, Nat.le_refl _, fun h => absurd h (Nat.lt_irrefl _), fun j h1 h2 => absurd h2 (by show ¬ j < k; omega)⟩
  | n + 1, s, k, hs => by
    unfold kF
    rw [eqE_one]
    cases hq : Nat.beq s.nat 1
    · simp only [cond_false]
      obtain ⟨h1, h2, h3, h4⟩ := kF_spec hp n (mulP p s s) (k + 1) (mulP_lt hp _ _)
      have e : ∀ j, (mulP p s s).nat ^ 2 ^ j % p = s.nat ^ 2 ^ (j + 1) % p := fun j => by rw [mulP_n hp, sq_pow]
      refine ⟨by omega, by omega, fun h => ?_, fun j hj1 hj2 => ?_⟩
      · have := h3 (by omega)
        rw [e] at this
        rw [show kF p n (mulP p s s) (k + 1) - k = kF p n (mulP p s s) (k + 1) - (k + 1) + 1 by omega]
        exact this
      · by_cases hj : j = k
        · subst hj
          rw [Nat.sub_self, Nat.pow_zero, Nat.pow_one, Nat.mod_eq_of_lt hs]
          exact not_beq hq
        · have := h4 j (by omega) hj2
          rw [e] at this
          rw [show j - k = j - (k + 1) + 1 by omega]
          exact this
    · simp only [cond_true]
      have h1 := Nat.eq_of_beq_eq_true hq
      refine ⟨Nat.le_refl _, by omega, fun _ => ?_, fun j hj1 hj2 => by omega⟩
      rw [Nat.sub_self, Nat.pow_zero, Nat.pow_one, Nat.mod_eq_of_lt hs]
      exact h1
structure TsOk (p a m : Nat) (w : Ton) : Prop where
  x : w.1.nat < p
  t : w.2.1.nat < p
  z : w.2.2.nat < p
  sq : w.1.nat * w.1.nat % p = a * w.2.1.nat % p
  m1 : 1 ≤ m
  neg : w.2.2.nat ^ 2 ^ (m - 1) % p = p - 1
theorem ts_step (hp : Sm p) (pr : Pr p) {a m k : Nat} {w : Ton} (h : TsOk p a m w) (hk0 : 1 ≤ k) (hk : k < m) (h1 : w.2.1.nat ^ 2 ^ k % p = 1) (h2 : w.2.1.nat ^ 2 ^ (k - 1) % p ≠ 1) :
    TsOk p a k (tsW p m k w) ∧ (tsW p m k w).2.1.nat ^ 2 ^ (k - 1) % p = 1 := by
  have hb := sqN_n hp h.z (m - k - 1)
  have hz' : (mulP p (tsB p m k w) (tsB p m k w)).nat ^ 2 ^ (k - 1) % p = p - 1 := by
    rw [mulP_n hp, sq_pow]
    show (sqN p w.2.2 (m - k - 1)).nat ^ _ % p = _
    rw [hb, mod_pow_mod, ← Nat.pow_mul, ← Nat.pow_add, show m - k - 1 + (k - 1 + 1) = m - 1 by omega]
    exact h.neg
  have ht : w.2.1.nat ^ 2 ^ (k - 1) % p = p - 1 := by
    have e : k = (k - 1) + 1 := by omega
    rw [e] at h1
    exact (half_root pr h1).resolve_left h2
  obtain ⟨g1, g2⟩ := ton_mul hp pr (u := tsB p m k w) (z := mulP p (tsB p m k w) (tsB p m k w)) h.sq ht (by rw [mulP_n hp, Nat.mod_mod]) hz'
  exact ⟨⟨mulP_lt hp _ _, mulP_lt hp _ _, mulP_lt hp _ _, g1, hk0, hz'⟩, g2⟩
theorem ts_root (hp : Sm p) (pr : Pr p) {a : Nat} : ∀ (f m : Nat) (w : Ton), m < f → TsOk p a m w → w.2.1.nat ^ 2 ^ (m - 1) % p = 1 → ∃ x, tsF p f m w = some x ∧ x.nat < p ∧ x.nat * x.nat % p = a % p
  | 0, m, w, h, _, _ => absurd h (Nat.not_lt_zero _)
  | f + 1, m, w, hf, h, hr => by
    unfold tsF
    rw [eqE_one]
    cases hq : Nat.beq w.2.1.nat 1
    · simp only [cond_false]
      obtain ⟨k1, k2, k3, k4⟩ := kF_spec hp m w.2.1 0 h.t
      have m1 := h.m1
      have hk : kF p m w.2.1 0 < m := by
        apply Classical.byContradiction
        intro hn
        exact k4 (m - 1) (by omega) (by omega) hr
      have hk0 : 1 ≤ kF p m w.2.1 0 := by
        apply Classical.byContradiction
        intro hn
        have e : kF p m w.2.1 0 = 0 := by omega
        have := k3 (by omega)
        rw [e, Nat.sub_self, Nat.pow_zero, Nat.pow_one, Nat.mod_eq_of_lt h.t] at this
        exact not_beq hq this
      have e1 := k3 (by omega)
      have e2 := k4 (kF p m w.2.1 0 - 1) (by omega) (by omega)
      rw [Nat.sub_zero] at e1 e2
      have hb : Nat.beq (kF p m w.2.1 0) m = false := by
        cases hb : Nat.beq (kF p m w.2.1 0) m
        · rfl
        · have := Nat.eq_of_beq_eq_true hb; omega
      rw [hb]
      obtain ⟨g1, g2⟩ := ts_step hp pr h hk0 hk e1 e2
      exact ts_root hp pr f _ _ (by omega) g1 g2
    · simp only [cond_true]
      have h1 := Nat.eq_of_beq_eq_true hq
      have := h.sq
      rw [h1, Nat.mul_one] at this
      exact ⟨w.1, rfl, h.x, this⟩
theorem ts_none (hp : Sm p) (pr : Pr p) (h3 : 3 ≤ p) {a f m : Nat} {w : Ton} (h : TsOk p a m w) (hr : w.2.1.nat ^ 2 ^ (m - 1) % p = p - 1) : tsF p f m w = none := by
  cases f with
  | zero => rfl
  | succ f =>
    unfold tsF
    rw [eqE_one]
    have m1 := h.m1
    have up : ∀ j, j ≤ m - 1 → w.2.1.nat ^ 2 ^ j % p ≠ 1 := fun j hj e => by
      have : w.2.1.nat ^ 2 ^ (m - 1) % p = 1 := by
        rw [show m - 1 = j + (m - 1 - j) by omega, Nat.pow_add, Nat.pow_mul, Nat.pow_mod, e, Nat.one_pow, Nat.mod_eq_of_lt (by omega)]
      omega
    have hq : Nat.beq w.2.1.nat 1 = false := by
      cases hq : Nat.beq w.2.1.nat 1
      · rfl
      · have := up 0 (by omega)
        rw [Nat.pow_zero, Nat.pow_one, Nat.mod_eq_of_lt h.t] at this
        exact absurd (Nat.eq_of_beq_eq_true hq) this
    rw [hq]
    obtain ⟨k1, k2, k3, k4⟩ := kF_spec hp m w.2.1 0 h.t
    have e : kF p m w.2.1 0 = m := by
      apply Classical.byContradiction
      intro hn
      have := k3 (by omega)
      rw [Nat.sub_zero] at this
      exact up _ (by omega) this
    rw [e, Nat.beq_refl]
    rfl
end
section
variable {s : Int} (k : SqrtOk s)
include k
def tsStart (s : Int) (a : Elem) : Ton := (expP (pS s) a (halfE (wsum (oddS s) oneE).1), expP (pS s) a (oddS s), expP (pS s) ⟨5, 0, 0, 0⟩ (oddS s))
theorem tsStart_ok (a : Elem) : TsOk (pS s) a.nat (adS s) (tsStart s a) := by
  have hp := k.sm
  have pr := k.pr
  refine ⟨?_, ?_, ?_, ?_, k.ad, ?_⟩
  · show (expP (pS s) a _).nat < _
    rw [expP_n hp pr.1]; exact Nat.mod_lt _ pr.pos
  · show (expP (pS s) a _).nat < _
    rw [expP_n hp pr.1]; exact Nat.mod_lt _ pr.pos
  · show (expP (pS s) _ _).nat < _
    rw [expP_n hp pr.1]; exact Nat.mod_lt _ pr.pos
  · show (expP (pS s) a (halfE (wsum (oddS s) oneE).1)).nat * (expP (pS s) a (halfE (wsum (oddS s) oneE).1)).nat % pS s = a.nat * (expP (pS s) a (oddS s)).nat % pS s
    rw [expP_n hp pr.1, expP_n hp pr.1, ← Nat.mul_mod, Nat.mul_mod_mod, ← Nat.pow_add, ← Nat.two_mul, k.up, Nat.pow_succ, Nat.mul_comm]
  · show (expP (pS s) ⟨5, 0, 0, 0⟩ (oddS s)).nat ^ _ % pS s = pS s - 1
    rw [expP_n hp pr.1, mod_pow_mod, five_nat]
    exact five_neg k
theorem tsStart_pow (a : Elem) : (tsStart s a).2.1.nat ^ 2 ^ (adS s - 1) % pS s = a.nat ^ ((pS s - 1) / 2) % pS s := by
  show (expP (pS s) a (oddS s)).nat ^ _ % pS s = _
  rw [expP_n k.sm k.pr.1, mod_pow_mod, pow_od k]
theorem euler_two {a : Nat} (ha : ¬ pS s ∣ a) : a ^ ((pS s - 1) / 2) % pS s = 1 ∨ a ^ ((pS s - 1) / 2) % pS s = pS s - 1 := by
  have hf := fermat k.pr ha
  have ho := k.o2
  have h2 := k.pr.1
  have e : pS s - 1 = (pS s - 1) / 2 + (pS s - 1) / 2 := by omega
  rw [e, Nat.pow_add, Nat.mul_mod] at hf
  exact sq_one k.pr (Nat.mod_lt _ k.pr.pos) hf
theorem ts_same {a : Elem} (ha : a.nat < pS s) (hz : zeroE a = false) : (tsF (pS s) (adS s + 1) (adS s) (tsStart s a)).map (evenX (pS s)) =
    cond (eqE (expP (pS s) a (halfE (wdif (numOf s.toNat).1 oneE).1)) oneE) (some (evenX (pS s) (rootX s a))) none := by
  have hp := k.sm
  have pr := k.pr
  have h2 := pr.1
  have ho := k.o2
  have h0 := tsStart_ok k a
  have hpw := tsStart_pow k a
  rw [eqE_one, expP_n hp h2, k.hf]
  have hn : ¬ pS s ∣ a.nat := fun hd => by
    have := Nat.eq_zero_of_dvd_of_lt hd ha
    rw [zeroE_nat, this] at hz
    cases hz
  rcases euler_two k hn with h | h
  · rw [h]
    obtain ⟨x, e1, e2, e3⟩ := ts_root hp pr (adS s + 1) (adS s) _ (by omega) h0 (by rw [hpw]; exact h)
    rw [e1]
    obtain ⟨r1, r2⟩ := root_ok k h
    obtain ⟨v1, v2, v3⟩ := even_ok hp ho e2
    obtain ⟨w1, w2, w3⟩ := even_ok hp ho r1
    show some _ = some _
    rw [nat_inj (even_same pr ho v1 w1 v2 w2 (by rw [v3, w3, e3, r2]))]
  · have h3 : 3 ≤ pS s := by omega
    rw [ts_none hp pr h3 h0 (by rw [hpw]; exact h), h]
    have : Nat.beq (pS s - 1) 1 = false := by
      cases hb : Nat.beq (pS s - 1) 1
      · rfl
      · have := Nat.eq_of_beq_eq_true hb; omega
    rw [this]
    rfl
end
end Go.Proofs.Ytkedomfjjahjnaa

namespace Go.Proofs.Ytkedomfjjahjnaa
open Sx Go
theorem zero_eq {e : Elem} (h : zeroE e = true) : e = ⟨0, 0, 0, 0⟩ := nat_inj (by rw [zeroE_nat] at h; rw [Nat.eq_of_beq_eq_true h]; exact nought_nat.symm)
def sqA (s : Int) (x : Elem) : Elem := ofP (pS s) (cubeP (pS s) x (bS s))
def sqB (s : Int) (x : Elem) : Bool := eqE (expP (pS s) (sqA s x) (halfE (wdif (numOf s.toNat).1 oneE).1)) oneE
def sqY (s : Int) (x : Elem) : Elem := evenX (pS s) (rootX s (sqA s x))
def ptD (s : Int) (x : Elem) (odd : Bool) : Pt := (x, cond odd (negP (pS s) (sqY s x)) (sqY s x), false)
theorem sqA_n {s : Int} (hs : sortOk s = true) (x : Elem) : (sqA s x).nat < pS s ∧ ((pS s : Nat) : Int) ∣ ((sqA s x).nat : Int) - ((x.nat : Int) * x.nat * x.nat + (bS s).nat) := by
  have hp : Sm (pS s) := pS_pos hs
  have e : (sqA s x).nat = (cubeP (pS s) x (bS s)).nat % pS s := rem_nat hp
  have hlt : (cubeP (pS s) x (bS s)).nat < pS s := addP_lt hp _ _
  rw [e, Nat.mod_eq_of_lt hlt]
  refine ⟨hlt, ?_⟩
  have c2 := mulP_c hp x x
  have c3 := mulP_c hp (mulP (pS s) x x) x
  have c4 := addP_c hp (mulP (pS s) (mulP (pS s) x x) x) (bS s)
  unfold cubeP
  generalize mulP (pS s) (mulP (pS s) x x) x = xxx at *
  generalize mulP (pS s) x x = xx at *
  generalize addP (pS s) xxx (bS s) = z at *
  have : (z.nat : Int) - ((x.nat : Int) * x.nat * x.nat + (bS s).nat) = ((z.nat : Int) - (xxx.nat + (bS s).nat)) + (((xxx.nat : Int) - xx.nat * x.nat) + (((xx.nat : Int) - x.nat * x.nat) * x.nat)) := by grind
  rw [this]
  exact Int.dvd_add c4 (Int.dvd_add c3 (Int.dvd_trans c2 (Int.dvd_mul_right ..)))
theorem sqA_not {s : Int} (hs : sortOk s = true) (x : Elem) : zeroE (sqA s x) = false := by
  have h := (sqA_n hs x).2
  cases hz : zeroE (sqA s x)
  · rfl
  · exfalso
    rw [zeroE_nat] at hz
    rw [Nat.eq_of_beq_eq_true hz] at h
    obtain ⟨k, hk⟩ := h
    exact (cur_of hs).n2 (x.nat : Int) ⟨-k, by rw [Int.mul_neg, ← hk]; simp⟩
theorem sqB_zero {s : Int} (hs : sortOk s = true) : sqB s ⟨0, 0, 0, 0⟩ = false := by
  rcases sortOk_cases hs with rfl | rfl | rfl | rfl <;> decide +kernel
theorem sqY_n {s : Int} (hs : sortOk s = true) {x : Elem} (h : sqB s x = true) : (sqY s x).nat < pS s ∧ (sqY s x).nat % 2 = 0 ∧ (sqY s x).nat * (sqY s x).nat % pS s = (sqA s x).nat % pS s := by
  have k := sqrtOk_of hs
  unfold sqB at h
  rw [eqE_one, expP_n k.sm k.pr.1, k.hf] at h
  obtain ⟨r1, r2⟩ := root_ok k (Nat.eq_of_beq_eq_true h)
  obtain ⟨e1, e2, e3⟩ := even_ok k.sm k.o2 r1
  exact ⟨e1, e2, e3.trans r2⟩
section
variable {s : Int} (hs : sortOk s = true)
include hs
theorem on_fin {X Y : Elem} : onB s (X, Y, false) = true ↔ X.nat < pS s ∧ Y.nat < pS s ∧ Y.nat * Y.nat % pS s = (sqA s X).nat := by
  have hp : Sm (pS s) := pS_pos hs
  have e1 : (sqA s X).nat = (cubeP (pS s) X (bS s)).nat := by
    show (ofN _).nat = _
    rw [rem_nat hp]
    exact Nat.mod_eq_of_lt (addP_lt hp _ _)
  rw [e1, ← mulP_n hp]
  unfold onB
  rw [hs]
  simp only [cond_true, cond_false]
  rw [eqE_nat]
  generalize (cubeP (pS s) X (bS s)).nat = A
  generalize (mulP (pS s) Y Y).nat = M
  have b1 : Nat.blt X.nat (pS s) = true ↔ X.nat < pS s := ⟨fun h => Nat.le_of_ble_eq_true h, fun h => Nat.ble_eq_true_of_le h⟩
  have b2 : Nat.blt Y.nat (pS s) = true ↔ Y.nat < pS s := ⟨fun h => Nat.le_of_ble_eq_true h, fun h => Nat.ble_eq_true_of_le h⟩
  rw [← b1, ← b2]
  generalize Nat.blt X.nat (pS s) = x
  generalize Nat.blt Y.nat (pS s) = y
  have b3 : Nat.beq M A = true ↔ M = A := ⟨Nat.eq_of_beq_eq_true, fun e => by rw [e, Nat.beq_refl]⟩
  rw [← b3]
  generalize Nat.beq M A = z
  cases x <;> cases y <;> cases z <;> simp
theorem neg_of {y : Elem} (hy : y.nat < pS s) (h0 : y.nat ≠ 0) : (negP (pS s) y).nat = pS s - y.nat := by
  have hp : Sm (pS s) := pS_pos hs
  rw [show (negP (pS s) y).nat = (pS s - y.nat % pS s) % pS s from rem_nat hp, Nat.mod_eq_of_lt hy, Nat.mod_eq_of_lt (by omega)]
omit hs in
theorem neg_square {p y : Nat} (hy : y < p) : (p - y) * (p - y) % p = y * y % p := by
  obtain ⟨d, hd⟩ : ∃ d, p = y + d := ⟨p - y, by omega⟩
  have e2 : p - y = d := by omega
  rw [e2]
  have e3 : d * d + p * y = y * y + p * d := by rw [hd]; grind
  have := congrArg (· % p) e3
  simp only [Nat.add_mul_mod_self_left] at this
  exact this
theorem sqA_zero (x : Elem) : (sqA s x).nat ≠ 0 := fun h => by
  have := sqA_not hs x
  rw [zeroE_nat, h] at this
  cases this
theorem root_on {X : Elem} (hx : X.nat < pS s) (hq : sqB s X = true) (o : Bool) : onB s (ptD s X o) = true ∧ Nat.beq ((ptD s X o).2.1.nat % 2) 1 = o := by
  have k := sqrtOk_of hs
  have ho := k.o2
  have hA := (sqA_n hs X).1
  have hz := sqA_zero hs X
  obtain ⟨r1, r2, r3⟩ := sqY_n hs hq
  rw [Nat.mod_eq_of_lt hA] at r3
  have r0 : (sqY s X).nat ≠ 0 := fun e => hz (by rw [← r3, e, Nat.zero_mul, Nat.zero_mod])
  unfold ptD
  cases o
  · refine ⟨(on_fin hs).2 ⟨hx, r1, r3⟩, ?_⟩
    show Nat.beq ((sqY s X).nat % 2) 1 = false
    rw [r2]
    rfl
  · have e := neg_of hs r1 r0
    refine ⟨(on_fin hs).2 ⟨hx, ?_, ?_⟩, ?_⟩
    · show (negP (pS s) (sqY s X)).nat < pS s
      rw [e]
      omega
    · show (negP (pS s) (sqY s X)).nat * (negP (pS s) (sqY s X)).nat % pS s = _
      rw [e, neg_square r1, r3]
    · show Nat.beq ((negP (pS s) (sqY s X)).nat % 2) 1 = true
      rw [e, show (pS s - (sqY s X).nat) % 2 = 1 by omega]
      rfl
end
end Go.Proofs.Ytkedomfjjahjnaa

namespace Go.Proofs.Ytkedomfjjahjnaa
open Sx Go
set_option maxRecDepth 100000
def fsqrt_S : FnSpec := ⟨[.val false .int, .val true .elem], [], true, 0, false⟩
abbrev fsqrtX : Type := ((Int) × (Elem) × Unit) × (Unit)
def fsqrt_s0 : Shape := ⟨126, [(4, .ptr 0 0 0), (6, .ptr 1 0 0), (8, .ptr 2 0 0), (12, .ptr 3 0 0), (13, .ptr 4 0 0), (16, .ptr 5 0 0), (17, .val false .int)], [(0, .row .u64), (1, .cells [.val false .u64, .val false .u64, .val false .u64, .val false .u64, .val false .int, .val false .u64, .val false .u64, .val false .u64, .val false .u64, .val false .u64, .val false .u64]), (2, .row .u64), (3, .row .u64), (4, .row .u64), (5, .row .u64)], 0, true⟩
abbrev fsqrt_s0X : Type := ((Unit) × (Unit) × (Unit) × (Unit) × (Unit) × (Unit) × (Int) × Unit) × ((List (UInt64)) × ((UInt64) × (UInt64) × (UInt64) × (UInt64) × (Int) × (UInt64) × (UInt64) × (UInt64) × (UInt64) × (UInt64) × (UInt64) × Unit) × (List (UInt64)) × (List (UInt64)) × (List (UInt64)) × (List (UInt64)) × Unit)
def fsqrt_s2 : Shape := ⟨126, [(4, .ptr 0 0 0), (6, .ptr 1 0 0), (8, .ptr 2 0 0), (12, .ptr 3 0 0), (13, .ptr 4 0 0), (16, .ptr 5 0 0), (17, .val false .int), (18, .val false .int), (19, .ptr 6 0 0)], [(0, .row .u64), (1, .cells [.val false .u64, .val false .u64, .val false .u64, .val false .u64, .val false .int, .val false .u64, .val false .u64, .val false .u64, .val false .u64, .val false .u64, .val false .u64]), (2, .row .u64), (3, .row .u64), (4, .row .u64), (5, .row .u64), (6, .row .u64)], 0, true⟩
abbrev fsqrt_s2X : Type := ((Unit) × (Unit) × (Unit) × (Unit) × (Unit) × (Unit) × (Int) × (Int) × (Unit) × Unit) × ((List (UInt64)) × ((UInt64) × (UInt64) × (UInt64) × (UInt64) × (Int) × (UInt64) × (UInt64) × (UInt64) × (UInt64) × (UInt64) × (UInt64) × Unit) × (List (UInt64)) × (List (UInt64)) × (List (UInt64)) × (List (UInt64)) × (List (UInt64)) × Unit)
def fsqrt_e2_2 : Shape := ⟨126, [(4, .ptr 0 0 0), (6, .ptr 1 0 0), (8, .ptr 2 0 0), (12, .ptr 3 0 0), (13, .ptr 4 0 0), (16, .ptr 5 0 0), (17, .val false .int), (18, .val false .int)], [(0, .row .u64), (1, .cells [.val false .u64, .val false .u64, .val false .u64, .val false .u64, .val false .int, .val false .u64, .val false .u64, .val false .u64, .val false .u64, .val false .u64, .val false .u64]), (2, .row .u64), (3, .row .u64), (4, .row .u64), (5, .row .u64)], 0, true⟩
abbrev fsqrt_e2_2X : Type := ((Unit) × (Unit) × (Unit) × (Unit) × (Unit) × (Unit) × (Int) × (Int) × Unit) × ((List (UInt64)) × ((UInt64) × (UInt64) × (UInt64) × (UInt64) × (Int) × (UInt64) × (UInt64) × (UInt64) × (UInt64) × (UInt64) × (UInt64) × Unit) × (List (UInt64)) × (List (UInt64)) × (List (UInt64)) × (List (UInt64)) × Unit)
def fsqrt_x2 : SE → Option Shape := xsMk [(2, fsqrt_e2_2)] none
def fsqrt_T2 (a17 : Int) (a18 : Int) (c0 : List (UInt64)) (c1_0 : UInt64) (c1_1 : UInt64) (c1_2 : UInt64) (c1_3 : UInt64) (c1_4 : Int) (c1_5 : UInt64) (c1_6 : UInt64) (c1_7 : UInt64) (c1_8 : UInt64) (c1_9 : UInt64) (c1_10 : UInt64) (c2 : List (UInt64)) (c3 : List (UInt64)) (c4 : List (UInt64)) (c5 : List (UInt64)) (c6 : List (UInt64)) : OT (Sum fsqrt_s2X LEnd) :=
  let z0 : Nat := List.length c6
  let z1 : Bool := decide (4 ≤ z0)
  let z2 : UInt64 := List.getD c6 0 0
  let z3 : UInt64 := List.getD c6 1 0
  let z4 : UInt64 := List.getD c6 2 0
  let z5 : UInt64 := List.getD c6 3 0
  let z6 : Elem := { w0 := c1_0, w1 := c1_1, w2 := c1_2, w3 := c1_3 }
  let z7 : Elem := { w0 := z2, w1 := z3, w2 := z4, w3 := z5 }
  let z8 : Elem := mulP (Elem.nat z6) z7 z7
  let z9 : List UInt64 := List.set (List.set (List.set (List.set c6 0 z8.w0) 1 z8.w1) 2 z8.w2) 3 z8.w3
  (gd [z1, decide (4 ≤ List.length c2)] (.br (!(z2 == List.getD c2 0 0 && (z3 == List.getD c2 1 0 && (z4 == List.getD c2 2 0 && (z5 == List.getD c2 3 0 && true)))))
  (.br (decide (a18 < a17))
    (gd [z1, z1, fmul0_pre (((z6, c1_4, c1_5, c1_6, { w0 := c1_7, w1 := c1_8, w2 := c1_9, w3 := c1_10 }), z7, z7, ()), ()), decide ((4 / 1 : Nat) + 0 ≤ z0), decide (4 ≤ List.length z9), inR (a18 + (1 : Int))] (.ok (.inl (((), ((), ((), ((), ((), ((), (a17, (a18 + (1 : Int), ((), ()))))))))), (c0, ((c1_0, (c1_1, (c1_2, (c1_3, (c1_4, (c1_5, (c1_6, (c1_7, (c1_8, (c1_9, (c1_10, ()))))))))))), (c2, (c3, (c4, (c5, ([List.getD z9 0 0, List.getD z9 1 0, List.getD z9 2 0, List.getD z9 3 0], ())))))))))))
    (.ok (.inr ⟨(.exit 2, fsqrt_e2_2), (((), ((), ((), ((), ((), ((), (a17, (a18, ())))))))), (c0, ((c1_0, (c1_1, (c1_2, (c1_3, (c1_4, (c1_5, (c1_6, (c1_7, (c1_8, (c1_9, (c1_10, ()))))))))))), (c2, (c3, (c4, (c5, ())))))))⟩)))
  (.ok (.inr ⟨(.exit 2, fsqrt_e2_2), (((), ((), ((), ((), ((), ((), (a17, (a18, ())))))))), (c0, ((c1_0, (c1_1, (c1_2, (c1_3, (c1_4, (c1_5, (c1_6, (c1_7, (c1_8, (c1_9, (c1_10, ()))))))))))), (c2, (c3, (c4, (c5, ())))))))⟩))))
def fsqrt_U2 (s : fsqrt_s2X) : OT (Sum fsqrt_s2X LEnd) := fsqrt_T2 (s.1.2.2.2.2.2.2.1) (s.1.2.2.2.2.2.2.2.1) (s.2.1) (s.2.2.1.1) (s.2.2.1.2.1) (s.2.2.1.2.2.1) (s.2.2.1.2.2.2.1) (s.2.2.1.2.2.2.2.1) (s.2.2.1.2.2.2.2.2.1) (s.2.2.1.2.2.2.2.2.2.1) (s.2.2.1.2.2.2.2.2.2.2.1) (s.2.2.1.2.2.2.2.2.2.2.2.1) (s.2.2.1.2.2.2.2.2.2.2.2.2.1) (s.2.2.1.2.2.2.2.2.2.2.2.2.2.1) (s.2.2.2.1) (s.2.2.2.2.1) (s.2.2.2.2.2.1) (s.2.2.2.2.2.2.1) (s.2.2.2.2.2.2.2.1)
theorem fsqrt_q2 (s : fsqrt_s2X) (Q : Sum fsqrt_s2X LEnd → Prop) : wps te E_fexpn lamNil 1000 (loopOf (loopOf (codeOf Try.f69) 0) 2) (fsqrt_s2.inj s) (stepK fsqrt_s2 fsqrt_x2 (Q : Sum fsqrt_s2.T LEnd → Prop)) = (fsqrt_U2 s).wpR Q := by kernel_rfl
def fsqrt_f2 (g2_2 : fsqrt_s2X → fsqrt_e2_2X) (s : fsqrt_s2X) : OT LEnd := (.ok ⟨(.exit 2, fsqrt_e2_2), g2_2 s⟩)
def fsqrt_s4 : Shape := ⟨126, [(4, .ptr 0 0 0), (6, .ptr 1 0 0), (8, .ptr 2 0 0), (12, .ptr 3 0 0), (13, .ptr 4 0 0), (16, .ptr 5 0 0), (18, .val false .int), (20, .ptr 6 0 0), (97, .val false .int), (98, .val false .int)], [(0, .row .u64), (1, .cells [.val false .u64, .val false .u64, .val false .u64, .val false .u64, .val false .int, .val false .u64, .val false .u64, .val false .u64, .val false .u64, .val false .u64, .val false .u64]), (2, .row .u64), (3, .row .u64), (4, .row .u64), (5, .row .u64), (6, .row .u64)], 0, true⟩
abbrev fsqrt_s4X : Type := ((Unit) × (Unit) × (Unit) × (Unit) × (Unit) × (Unit) × (Int) × (Unit) × (Int) × (Int) × Unit) × ((List (UInt64)) × ((UInt64) × (UInt64) × (UInt64) × (UInt64) × (Int) × (UInt64) × (UInt64) × (UInt64) × (UInt64) × (UInt64) × (UInt64) × Unit) × (List (UInt64)) × (List (UInt64)) × (List (UInt64)) × (List (UInt64)) × (List (UInt64)) × Unit)
def fsqrt_e4_4 : Shape := ⟨126, [(4, .ptr 0 0 0), (6, .ptr 1 0 0), (8, .ptr 2 0 0), (12, .ptr 3 0 0), (13, .ptr 4 0 0), (16, .ptr 5 0 0), (18, .val false .int), (20, .ptr 6 0 0)], [(0, .row .u64), (1, .cells [.val false .u64, .val false .u64, .val false .u64, .val false .u64, .val false .int, .val false .u64, .val false .u64, .val false .u64, .val false .u64, .val false .u64, .val false .u64]), (2, .row .u64), (3, .row .u64), (4, .row .u64), (5, .row .u64), (6, .row .u64)], 0, true⟩
abbrev fsqrt_e4_4X : Type := ((Unit) × (Unit) × (Unit) × (Unit) × (Unit) × (Unit) × (Int) × (Unit) × Unit) × ((List (UInt64)) × ((UInt64) × (UInt64) × (UInt64) × (UInt64) × (Int) × (UInt64) × (UInt64) × (UInt64) × (UInt64) × (UInt64) × (UInt64) × Unit) × (List (UInt64)) × (List (UInt64)) × (List (UInt64)) × (List (UInt64)) × (List (UInt64)) × Unit)
def fsqrt_x4 : SE → Option Shape := xsMk [(4, fsqrt_e4_4)] none
def fsqrt_T4 (a18 : Int) (a97 : Int) (a98 : Int) (c0 : List (UInt64)) (c1_0 : UInt64) (c1_1 : UInt64) (c1_2 : UInt64) (c1_3 : UInt64) (c1_4 : Int) (c1_5 : UInt64) (c1_6 : UInt64) (c1_7 : UInt64) (c1_8 : UInt64) (c1_9 : UInt64) (c1_10 : UInt64) (c2 : List (UInt64)) (c3 : List (UInt64)) (c4 : List (UInt64)) (c5 : List (UInt64)) (c6 : List (UInt64)) : OT (Sum fsqrt_s4X LEnd) :=
  let z0 : Nat := List.length c6
  let z1 : Bool := decide (4 ≤ z0)
  let z2 : Elem := { w0 := c1_0, w1 := c1_1, w2 := c1_2, w3 := c1_3 }
  let z3 : Elem := { w0 := List.getD c6 0 0, w1 := List.getD c6 1 0, w2 := List.getD c6 2 0, w3 := List.getD c6 3 0 }
  let z4 : Elem := mulP (Elem.nat z2) z3 z3
  (.br (decide (a98 < a97))
  (gd [z1, z1, fmul0_pre (((z2, c1_4, c1_5, c1_6, { w0 := c1_7, w1 := c1_8, w2 := c1_9, w3 := c1_10 }), z3, z3, ()), ()), decide ((4 / 1 : Nat) + 0 ≤ z0), inR (a98 + (1 : Int))] (.ok (.inl (((), ((), ((), ((), ((), ((), (a18, ((), (a97, (a98 + (1 : Int), ())))))))))), (c0, ((c1_0, (c1_1, (c1_2, (c1_3, (c1_4, (c1_5, (c1_6, (c1_7, (c1_8, (c1_9, (c1_10, ()))))))))))), (c2, (c3, (c4, (c5, (List.set (List.set (List.set (List.set c6 0 z4.w0) 1 z4.w1) 2 z4.w2) 3 z4.w3, ())))))))))))
  (.ok (.inr ⟨(.exit 4, fsqrt_e4_4), (((), ((), ((), ((), ((), ((), (a18, ((), ())))))))), (c0, ((c1_0, (c1_1, (c1_2, (c1_3, (c1_4, (c1_5, (c1_6, (c1_7, (c1_8, (c1_9, (c1_10, ()))))))))))), (c2, (c3, (c4, (c5, (c6, ()))))))))⟩)))
def fsqrt_U4 (s : fsqrt_s4X) : OT (Sum fsqrt_s4X LEnd) := fsqrt_T4 (s.1.2.2.2.2.2.2.1) (s.1.2.2.2.2.2.2.2.2.1) (s.1.2.2.2.2.2.2.2.2.2.1) (s.2.1) (s.2.2.1.1) (s.2.2.1.2.1) (s.2.2.1.2.2.1) (s.2.2.1.2.2.2.1) (s.2.2.1.2.2.2.2.1) (s.2.2.1.2.2.2.2.2.1) (s.2.2.1.2.2.2.2.2.2.1) (s.2.2.1.2.2.2.2.2.2.2.1) (s.2.2.1.2.2.2.2.2.2.2.2.1) (s.2.2.1.2.2.2.2.2.2.2.2.2.1) (s.2.2.1.2.2.2.2.2.2.2.2.2.2.1) (s.2.2.2.1) (s.2.2.2.2.1) (s.2.2.2.2.2.1) (s.2.2.2.2.2.2.1) (s.2.2.2.2.2.2.2.1)
theorem fsqrt_q4 (s : fsqrt_s4X) (Q : Sum fsqrt_s4X LEnd → Prop) : wps te E_fexpn lamNil 1000 (loopOf (loopOf (codeOf Try.f69) 0) 4) (fsqrt_s4.inj s) (stepK fsqrt_s4 fsqrt_x4 (Q : Sum fsqrt_s4.T LEnd → Prop)) = (fsqrt_U4 s).wpR Q := by kernel_rfl
def fsqrt_f4 (g4_4 : fsqrt_s4X → fsqrt_e4_4X) (s : fsqrt_s4X) : OT LEnd := (.ok ⟨(.exit 4, fsqrt_e4_4), g4_4 s⟩)
def fsqrt_e0_r : Shape := ⟨126, [(4, .ptr 0 0 0), (5, .val false .int)], [(0, .row .u64)], 0, true⟩
abbrev fsqrt_e0_rX : Type := ((Unit) × (Int) × Unit) × ((List (UInt64)) × Unit)
def fsqrt_e0_0 : Shape := ⟨126, [(4, .ptr 0 0 0), (6, .ptr 1 0 0), (16, .ptr 2 0 0)], [(0, .row .u64), (1, .cells [.val false .u64, .val false .u64, .val false .u64, .val false .u64, .val false .int, .val false .u64, .val false .u64, .val false .u64, .val false .u64, .val false .u64, .val false .u64]), (2, .row .u64)], 0, true⟩
abbrev fsqrt_e0_0X : Type := ((Unit) × (Unit) × (Unit) × Unit) × ((List (UInt64)) × ((UInt64) × (UInt64) × (UInt64) × (UInt64) × (Int) × (UInt64) × (UInt64) × (UInt64) × (UInt64) × (UInt64) × (UInt64) × Unit) × (List (UInt64)) × Unit)
def fsqrt_x0 : SE → Option Shape := xsMk [(0, fsqrt_e0_0)] (some fsqrt_e0_r)
def fsqrt_T0 (ok2 : fsqrt_s2X → Bool) (g2_2 : fsqrt_s2X → fsqrt_e2_2X) (ok4 : fsqrt_s4X → Bool) (g4_4 : fsqrt_s4X → fsqrt_e4_4X) (a17 : Int) (c0 : List (UInt64)) (c1_0 : UInt64) (c1_1 : UInt64) (c1_2 : UInt64) (c1_3 : UInt64) (c1_4 : Int) (c1_5 : UInt64) (c1_6 : UInt64) (c1_7 : UInt64) (c1_8 : UInt64) (c1_9 : UInt64) (c1_10 : UInt64) (c2 : List (UInt64)) (c3 : List (UInt64)) (c4 : List (UInt64)) (c5 : List (UInt64)) : OT (Sum fsqrt_s0X LEnd) :=
  let z0 : Bool := decide (4 ≤ List.length c4)
  let z1 : UInt64 := List.getD c4 0 0
  let z2 : UInt64 := List.getD c4 1 0
  let z3 : UInt64 := List.getD c4 2 0
  let z4 : UInt64 := List.getD c4 3 0
  let z5 : (PUnit × PUnit × PUnit × PUnit × PUnit × PUnit × Int × Int × PUnit × PUnit) × List UInt64 × (UInt64 × UInt64 × UInt64 × UInt64 × Int × UInt64 × UInt64 × UInt64 × UInt64 × UInt64 × UInt64 × PUnit) × List UInt64 × List UInt64 × List UInt64 × List UInt64 × List UInt64 × PUnit := (((), (), (), (), (), (), a17, (0 : Int), (), ()), c0, (c1_0, c1_1, c1_2, c1_3, c1_4, c1_5, c1_6, c1_7, c1_8, c1_9, c1_10, ()), c2, c3, c4, c5, [z1, z2, z3, z4], ())
  let z6 : (PUnit × PUnit × PUnit × PUnit × PUnit × PUnit × Int × Int × PUnit) × List UInt64 × (UInt64 × UInt64 × UInt64 × UInt64 × Int × UInt64 × UInt64 × UInt64 × UInt64 × UInt64 × UInt64 × PUnit) × List UInt64 × List UInt64 × List UInt64 × List UInt64 × PUnit := g2_2 z5
  let z7 := z6.fst.snd.snd.snd.snd.snd.snd
  let z8 := z7.snd.fst
  let z9 := z7.fst
  let z10 := z6.snd
  let z11 := z10.fst
  let z12 := z10.snd
  let z13 := z12.snd
  let z14 := z13.snd
  let z15 := z14.fst
  let z16 : Int := z9 - z8
  let z17 := z12.fst
  let z18 := z17.snd
  let z19 := z18.snd
  let z20 := z19.snd
  let z21 := z20.snd
  let z22 := z21.snd
  let z23 := z22.snd
  let z24 := z23.snd
  let z25 := z24.snd
  let z26 := z25.snd
  let z27 := z14.snd
  let z28 : (PUnit × PUnit × PUnit × PUnit × PUnit × PUnit × Int × PUnit × Int × Int × PUnit) × List UInt64 × (UInt64 × UInt64 × UInt64 × UInt64 × Int × UInt64 × UInt64 × UInt64 × UInt64 × UInt64 × UInt64 × PUnit) × List UInt64 × List UInt64 × List UInt64 × List UInt64 × List UInt64 × PUnit := (((), (), (), (), (), (), z8, (), z16 - (1 : Int), (0 : Int), ()), z11, (z17.fst, z18.fst, z19.fst, z20.fst, z21.fst, z22.fst, z23.fst, z24.fst, z25.fst, z26.fst, z26.snd.fst, ()), z13.fst, z15, z27.fst, z27.snd.fst, [List.getD z15 0 0, List.getD z15 1 0, List.getD z15 2 0, List.getD z15 3 0], ())
  let z29 : (PUnit × PUnit × PUnit × PUnit × PUnit × PUnit × Int × PUnit × PUnit) × List UInt64 × (UInt64 × UInt64 × UInt64 × UInt64 × Int × UInt64 × UInt64 × UInt64 × UInt64 × UInt64 × UInt64 × PUnit) × List UInt64 × List UInt64 × List UInt64 × List UInt64 × List UInt64 × PUnit := g4_4 z28
  let z30 := z29.snd
  let z31 := z30.snd
  let z32 := z31.snd
  let z33 := z32.snd
  let z34 := z33.snd
  let z35 := z34.snd
  let z36 := z35.snd.fst
  let z37 : Bool := decide (4 ≤ List.length z36)
  let z38 := z31.fst
  let z39 := z38.fst
  let z40 := z38.snd
  let z41 := z40.fst
  let z42 := z40.snd
  let z43 := z42.fst
  let z44 := z42.snd
  let z45 := z44.fst
  let z46 : Elem := { w0 := z39, w1 := z41, w2 := z43, w3 := z45 }
  let z47 := z44.snd
  let z48 := z47.fst
  let z49 := z47.snd
  let z50 := z49.fst
  let z51 := z49.snd
  let z52 := z51.fst
  let z53 := z51.snd
  let z54 := z53.fst
  let z55 := z53.snd
  let z56 := z55.fst
  let z57 := z55.snd
  let z58 := z57.fst
  let z59 := z57.snd.fst
  let z60 : Elem × Int × UInt64 × UInt64 × Elem := (z46, z48, z50, z52, { w0 := z54, w1 := z56, w2 := z58, w3 := z59 })
  let z61 : Elem := { w0 := List.getD z36 0 0, w1 := List.getD z36 1 0, w2 := List.getD z36 2 0, w3 := List.getD z36 3 0 }
  let z62 : Elem × PUnit := (z61, ())
  let z63 := z33.fst
  let z64 := z34.fst
  let z65 : Nat := List.length z64
  let z66 : Nat := Elem.nat z46
  let z67 : Elem := mulP z66 z61 z61
  let z68 : List UInt64 := List.set (List.set (List.set (List.set z63 0 z67.w0) 1 z67.w1) 2 z67.w2) 3 z67.w3
  let z69 : Elem := { w0 := List.getD z64 0 0, w1 := List.getD z64 1 0, w2 := List.getD z64 2 0, w3 := List.getD z64 3 0 }
  let z70 : Elem := { w0 := List.getD z68 0 0, w1 := List.getD z68 1 0, w2 := List.getD z68 2 0, w3 := List.getD z68 3 0 }
  let z71 := z35.fst
  let z72 : Nat := List.length z71
  let z73 : Elem := { w0 := List.getD z71 0 0, w1 := List.getD z71 1 0, w2 := List.getD z71 2 0, w3 := List.getD z71 3 0 }
  let z74 : Elem := mulP z66 z69 z70
  let z75 : Elem := mulP z66 z73 z61
  (gd [z0, decide (4 ≤ List.length c2)] (.br (!(z1 == List.getD c2 0 0 && (z2 == List.getD c2 1 0 && (z3 == List.getD c2 2 0 && (z4 == List.getD c2 3 0 && true)))))
  (gd [z0, ok2 z5] (.br (z8 == z9)
    (gd [decide (4 ≤ List.length z11)] (.ok (.inr ⟨(.ret, fsqrt_e0_r), (((), ((22 : Int), ())), (List.set (List.set (List.set (List.set z11 0 (0 : UInt64)) 1 (0 : UInt64)) 2 (0 : UInt64)) 3 (0 : UInt64), ()))⟩)))
    (gd [decide (4 ≤ List.length z15), inR z16, inR (z16 - (1 : Int)), ok4 z28, z37, z37, fmul0_pre ((z60, z61, z62), ()), decide ((4 / 1 : Nat) + 0 ≤ List.length z63), decide (4 ≤ z65), decide (4 ≤ List.length z68), fmul0_pre ((z60, z69, z70, ()), ()), decide ((4 / 1 : Nat) + 0 ≤ z65), decide (4 ≤ z72), z37, fmul0_pre ((z60, z73, z62), ()), decide ((4 / 1 : Nat) + 0 ≤ z72)] (.ok (.inl (((), ((), ((), ((), ((), ((), (z29.fst.snd.snd.snd.snd.snd.snd.fst, ()))))))), (z30.fst, ((z39, (z41, (z43, (z45, (z48, (z50, (z52, (z54, (z56, (z58, (z59, ()))))))))))), (z32.fst, (z68, (List.set (List.set (List.set (List.set z64 0 z74.w0) 1 z74.w1) 2 z74.w2) 3 z74.w3, (List.set (List.set (List.set (List.set z71 0 z75.w0) 1 z75.w1) 2 z75.w2) 3 z75.w3, ()))))))))))))
  (.ok (.inr ⟨(.exit 0, fsqrt_e0_0), (((), ((), ((), ()))), (c0, ((c1_0, (c1_1, (c1_2, (c1_3, (c1_4, (c1_5, (c1_6, (c1_7, (c1_8, (c1_9, (c1_10, ()))))))))))), (c5, ()))))⟩))))
def fsqrt_U0 (ok2 : fsqrt_s2X → Bool) (g2_2 : fsqrt_s2X → fsqrt_e2_2X) (ok4 : fsqrt_s4X → Bool) (g4_4 : fsqrt_s4X → fsqrt_e4_4X) (s : fsqrt_s0X) : OT (Sum fsqrt_s0X LEnd) := fsqrt_T0 ok2 g2_2 ok4 g4_4 (s.1.2.2.2.2.2.2.1) (s.2.1) (s.2.2.1.1) (s.2.2.1.2.1) (s.2.2.1.2.2.1) (s.2.2.1.2.2.2.1) (s.2.2.1.2.2.2.2.1) (s.2.2.1.2.2.2.2.2.1) (s.2.2.1.2.2.2.2.2.2.1) (s.2.2.1.2.2.2.2.2.2.2.1) (s.2.2.1.2.2.2.2.2.2.2.2.1) (s.2.2.1.2.2.2.2.2.2.2.2.2.1) (s.2.2.1.2.2.2.2.2.2.2.2.2.2.1) (s.2.2.2.1) (s.2.2.2.2.1) (s.2.2.2.2.2.1) (s.2.2.2.2.2.2.1)
theorem fsqrt_q0 (ok2 : fsqrt_s2X → Bool) (g2_2 : fsqrt_s2X → fsqrt_e2_2X) (ok4 : fsqrt_s4X → Bool) (g4_4 : fsqrt_s4X → fsqrt_e4_4X) (s : fsqrt_s0X) (Q : Sum fsqrt_s0X LEnd → Prop) : wps te E_fexpn (lamCons 4 (loopF fsqrt_s4 4 ok4 (fsqrt_f4 g4_4)) (lamCons 2 (loopF fsqrt_s2 2 ok2 (fsqrt_f2 g2_2)) lamNil)) 1000 (loopOf (codeOf Try.f69) 0) (fsqrt_s0.inj s) (stepK fsqrt_s0 fsqrt_x0 (Q : Sum fsqrt_s0.T LEnd → Prop)) = (fsqrt_U0 ok2 g2_2 ok4 g4_4 s).wpR Q := by kernel_rfl
def fsqrt_f0 (g0_r : fsqrt_s0X → fsqrt_e0_rX) (c0_r : fsqrt_s0X → Bool) (g0_0 : fsqrt_s0X → fsqrt_e0_0X) (s : fsqrt_s0X) : OT LEnd := (.br (c0_r s) (.ok ⟨(.ret, fsqrt_e0_r), g0_r s⟩) (.ok ⟨(.exit 0, fsqrt_e0_0), g0_0 s⟩))
def fsqrt_o0 : OutSh := ⟨[.val true .elem, .val false .int], [], false⟩
def fsqrt_sel : SV → Option OutSh := fun _ => some fsqrt_o0
def fsqrt_T (ok2 : fsqrt_s2X → Bool) (g2_2 : fsqrt_s2X → fsqrt_e2_2X) (ok4 : fsqrt_s4X → Bool) (g4_4 : fsqrt_s4X → fsqrt_e4_4X) (ok0 : fsqrt_s0X → Bool) (g0_r : fsqrt_s0X → fsqrt_e0_rX) (c0_r : fsqrt_s0X → Bool) (g0_0 : fsqrt_s0X → fsqrt_e0_0X) (a0 : Int) (a1 : Elem) : OT fsqrt_S.Y :=
  let z0 : Elem × Int × UInt64 × UInt64 × Elem := numOf (Int.toNat a0)
  let z1 := z0.fst
  let z2 : Elem := ofN (Elem.nat a1 % Elem.nat z1)
  let z3 : Elem := { w0 := 1, w1 := 0, w2 := 0, w3 := 0 }
  let z4 := (wdif z1 z3).fst
  let z5 := z0.snd
  let z6 := z5.fst
  let z7 : Elem := { w0 := 5, w1 := 0, w2 := 0, w3 := 0 }
  let z8 : Elem := halvesE z4 (Int.toNat z6)
  let z9 : Elem × PUnit := (z8, ())
  let z10 : Elem := halfE (wsum z8 z3).fst
  let z11 := z5.snd
  let z12 := z11.snd
  let z13 := z12.snd
  let z14 : Nat := pS a0
  let z15 : Elem := expP z14 z7 z8
  let z16 : Elem := expP z14 z2 z8
  let z17 : Elem := expP z14 z2 z10
  let z18 : (PUnit × PUnit × PUnit × PUnit × PUnit × PUnit × Int × PUnit) × List UInt64 × (UInt64 × UInt64 × UInt64 × UInt64 × Int × UInt64 × UInt64 × UInt64 × UInt64 × UInt64 × UInt64 × PUnit) × List UInt64 × List UInt64 × List UInt64 × List UInt64 × PUnit := (((), (), (), (), (), (), z6, ()), [(0 : UInt64), (0 : UInt64), (0 : UInt64), (0 : UInt64)], (z1.w0, z1.w1, z1.w2, z1.w3, z6, z11.fst, z12.fst, z13.w0, z13.w1, z13.w2, z13.w3, ()), [(1 : UInt64), (0 : UInt64), (0 : UInt64), (0 : UInt64)], [z15.w0, z15.w1, z15.w2, z15.w3], [z16.w0, z16.w1, z16.w2, z16.w3], [z17.w0, z17.w1, z17.w2, z17.w3], ())
  let z19 : (PUnit × Int × PUnit) × List UInt64 × PUnit := g0_r z18
  let z20 := z19.snd.fst
  let z21 := (g0_0 z18).snd
  let z22 := z21.snd
  let z23 := z22.snd.fst
  let z24 : Nat := List.length z23
  let z25 : UInt64 := List.getD z23 0 0
  let z26 : Bool := decide (4 ≤ z24)
  let z27 := z22.fst
  let z28 := z27.snd
  let z29 := z28.snd
  let z30 := z29.snd
  let z31 : Elem := { w0 := z27.fst, w1 := z28.fst, w2 := z29.fst, w3 := z30.fst }
  let z32 := z30.snd
  let z33 := z32.snd
  let z34 := z33.snd
  let z35 := z34.snd
  let z36 := z35.snd
  let z37 := z36.snd
  let z38 : Elem := { w0 := z25, w1 := List.getD z23 1 0, w2 := List.getD z23 2 0, w3 := List.getD z23 3 0 }
  let z39 : Elem := negP (Elem.nat z31) z38
  let z40 : List UInt64 := List.set (List.set (List.set (List.set z23 0 z39.w0) 1 z39.w1) 2 z39.w2) 3 z39.w3
  let z41 := z21.fst
  let z42 : Nat := List.length z41
  let z43 : List UInt64 := lay z41 z40 4 (0 : UInt64)
  let z44 : List UInt64 := lay z41 z23 4 (0 : UInt64)
  (.br (sortOk a0)
  (gd [fred_pre ((z0, a1, ()), ())] (.br (z2.w0 == (0 : UInt64) && (z2.w1 == (0 : UInt64) && (z2.w2 == (0 : UInt64) && (z2.w3 == (0 : UInt64) && true))))
    (.ok ⟨fsqrt_o0, ((z2, ((0 : Int), ())), ())⟩)
    (gd [fhalves_pre ((z4, z6, ()), ()), fexpn_pre ((a0, z7, z9), ()), fexpn_pre ((a0, z2, z9), ()), fexpn_pre ((a0, z2, z10, ()), ()), ok0 z18] (.br (c0_r z18)
      (gd [decide (4 ≤ List.length z20)] (.ok ⟨fsqrt_o0, (({ w0 := List.getD z20 0 0, w1 := List.getD z20 1 0, w2 := List.getD z20 2 0, w3 := List.getD z20 3 0 }, (z19.fst.snd.fst, ())), ())⟩))
      (gd [decide (0 < z24)] (.br (z25 &&& (1 : UInt64) == (1 : UInt64))
        (gd [z26, fneg0_pre (((z31, z32.fst, z33.fst, z34.fst, { w0 := z35.fst, w1 := z36.fst, w2 := z37.fst, w3 := z37.snd.fst }), z38, ()), ()), decide ((4 / 1 : Nat) + 0 ≤ z24), decide (4 ≤ List.length z40), decide ((4 / 1 : Nat) + 0 ≤ z42), decide (4 ≤ List.length z43)] (.ok ⟨fsqrt_o0, (({ w0 := List.getD z43 0 0, w1 := List.getD z43 1 0, w2 := List.getD z43 2 0, w3 := List.getD z43 3 0 }, ((0 : Int), ())), ())⟩))
        (gd [z26, decide ((4 / 1 : Nat) + 0 ≤ z42), decide (4 ≤ List.length z44)] (.ok ⟨fsqrt_o0, (({ w0 := List.getD z44 0 0, w1 := List.getD z44 1 0, w2 := List.getD z44 2 0, w3 := List.getD z44 3 0 }, ((0 : Int), ())), ())⟩))))))))
  (.ok ⟨fsqrt_o0, (({ w0 := 0, w1 := 0, w2 := 0, w3 := 0 }, ((20 : Int), ())), ())⟩))
theorem fsqrt_q (ok2 : fsqrt_s2X → Bool) (g2_2 : fsqrt_s2X → fsqrt_e2_2X) (ok4 : fsqrt_s4X → Bool) (g4_4 : fsqrt_s4X → fsqrt_e4_4X) (ok0 : fsqrt_s0X → Bool) (g0_r : fsqrt_s0X → fsqrt_e0_rX) (c0_r : fsqrt_s0X → Bool) (g0_0 : fsqrt_s0X → fsqrt_e0_0X) (x : fsqrtX) (Q : fsqrt_S.Y → Prop) : wpf te E_fexpn (lamCons 0 (loopF fsqrt_s0 0 ok0 (fsqrt_f0 g0_r c0_r g0_0)) lamNil) 1000 Try.f69 (fsqrt_S.inp.inj x).tm (fsqrt_S.inp.inj x).hp (fnK fsqrt_S fsqrt_sel Q) (fun _ _ => False) = (fsqrt_T ok2 g2_2 ok4 g4_4 ok0 g0_r c0_r g0_0 (x.1.1) (x.1.2.1)).wpR Q := by kernel_rfl
theorem fsqrt_main (ok2 : fsqrt_s2X → Bool) (g2_2 : fsqrt_s2X → fsqrt_e2_2X) (ok4 : fsqrt_s4X → Bool) (g4_4 : fsqrt_s4X → fsqrt_e4_4X) (ok0 : fsqrt_s0X → Bool) (g0_r : fsqrt_s0X → fsqrt_e0_rX) (c0_r : fsqrt_s0X → Bool) (g0_0 : fsqrt_s0X → fsqrt_e0_0X) (h2 : ∀ s : fsqrt_s2X, ok2 s = true → ∃ m e, loopRun (fsqrt_U2) m s = some e ∧ (fsqrt_f2 g2_2 s).run = some e) (h4 : ∀ s : fsqrt_s4X, ok4 s = true → ∃ m e, loopRun (fsqrt_U4) m s = some e ∧ (fsqrt_f4 g4_4 s).run = some e) (h0 : ∀ s : fsqrt_s0X, ok0 s = true → ∃ m e, loopRun (fsqrt_U0 ok2 g2_2 ok4 g4_4) m s = some e ∧ (fsqrt_f0 g0_r c0_r g0_0 s).run = some e) (pre : fsqrtX → Bool) (F : fsqrtX → OT fsqrt_S.Y) (hF : ∀ (x : fsqrtX) oy, pre x = true → (F x).run = some oy → (fsqrt_T ok2 g2_2 ok4 g4_4 ok0 g0_r c0_r g0_0 (x.1.1) (x.1.2.1)).run = some oy) : SummOk Try.prog 69 (fsqrt_S.summ pre F) :=
  fn_tree te_ok E_fexpn_ok E_fexpn_any (f := 69) (fn := Try.f69) (c := codeOf Try.f69) (by kernel_rfl) (by kernel_rfl) (by kernel_rfl) (S := fsqrt_S) (k := 0) (by kernel_rfl) (fun R hR => (lamOk_cons (c := (codeOf Try.f69)) (by kernel_rfl) (id := 0) (by kernel_rfl) (loop_ok te_ok E_fexpn_ok E_fexpn_any (sh := fsqrt_s0) hR (xs := fsqrt_x0) (xsMk_small (by kernel_rfl) (by kernel_rfl) hR) xsMk_pan (lamOk_cons (c := (loopOf (codeOf Try.f69) 0)) (by kernel_rfl) (id := 4) (by kernel_rfl) (loop_ok te_ok E_fexpn_ok E_fexpn_any (sh := fsqrt_s4) hR (xs := fsqrt_x4) (xsMk_small (by kernel_rfl) (by kernel_rfl) hR) xsMk_pan lamOk_nil (n := 1000) (T := fsqrt_U4) (fun s Q => fsqrt_q4 s Q) (ok := ok4) (f := fsqrt_f4 g4_4) h4) (lamOk_cons (c := (loopOf (codeOf Try.f69) 0)) (by kernel_rfl) (id := 2) (by kernel_rfl) (loop_ok te_ok E_fexpn_ok E_fexpn_any (sh := fsqrt_s2) hR (xs := fsqrt_x2) (xsMk_small (by kernel_rfl) (by kernel_rfl) hR) xsMk_pan lamOk_nil (n := 1000) (T := fsqrt_U2) (fun s Q => fsqrt_q2 s Q) (ok := ok2) (f := fsqrt_f2 g2_2) h2) lamOk_nil)) (n := 1000) (T := fsqrt_U0 ok2 g2_2 ok4 g4_4) (fun s Q => fsqrt_q0 ok2 g2_2 ok4 g4_4 s Q) (ok := ok0) (f := fsqrt_f0 g0_r c0_r g0_0) h0) lamOk_nil)) (n := 1000) (sel := fsqrt_sel) (fun v o h => by cases h; rfl) (pre := pre) (F := F) (T := fun x => fsqrt_T ok2 g2_2 ok4 g4_4 ok0 g0_r c0_r g0_0 (x.1.1) (x.1.2.1)) (fun x Q => fsqrt_q ok2 g2_2 ok4 g4_4 ok0 g0_r c0_r g0_0 x Q) hF
abbrev C11 : Type := UInt64 × UInt64 × UInt64 × UInt64 × Int × UInt64 × UInt64 × UInt64 × UInt64 × UInt64 × UInt64 × Unit
def numC (c : C11) : NumX := (⟨c.1, c.2.1, c.2.2.1, c.2.2.2.1⟩, c.2.2.2.2.1, c.2.2.2.2.2.1, c.2.2.2.2.2.2.1, ⟨c.2.2.2.2.2.2.2.1, c.2.2.2.2.2.2.2.2.1, c.2.2.2.2.2.2.2.2.2.1, c.2.2.2.2.2.2.2.2.2.2.1⟩)
def fsqrt_ok2 (s : fsqrt_s2X) : Bool := numOk (numC s.2.2.1) && decide ((0 ≤ s.1.2.2.2.2.2.2.1 ∧ s.1.2.2.2.2.2.2.1 ≤ 1000) ∧ s.1.2.2.2.2.2.2.2.1 = 0 ∧ s.2.2.2.1 = [1, 0, 0, 0] ∧ s.2.2.2.2.2.2.2.1.length = 4)
def fsqrt_g2 (s : fsqrt_s2X) : fsqrt_e2_2X := (((), (), (), (), (), (), s.1.2.2.2.2.2.2.1, (kF (numC s.2.2.1).1.nat s.1.2.2.2.2.2.2.1.toNat (elemOf s.2.2.2.2.2.2.2.1) 0 : Int), ()), (s.2.1, s.2.2.1, s.2.2.2.1, s.2.2.2.2.1, s.2.2.2.2.2.1, s.2.2.2.2.2.2.1, ()))
def sq_s2 (c0 : List UInt64) (C : C11) (z t x : List UInt64) (m k : Int) (u : Elem) : fsqrt_s2X := (((), (), (), (), (), (), m, k, (), ()), (c0, C, lst oneE, z, t, x, lst u, ()))
theorem sq_loop2 (c0 : List UInt64) (C : C11) (z t x : List UInt64) (m : Nat) (hC : numOk (numC C) = true) (hm : m ≤ 1000) : ∀ (n k : Nat) (u : Elem), k + n = m →
    ∃ j, loopRun fsqrt_U2 j (sq_s2 c0 C z t x (m : Int) (k : Int) u) = some ⟨(.exit 2, fsqrt_e2_2), (((), (), (), (), (), (), (m : Int), (kF (numC C).1.nat n u k : Int), ()), (c0, C, lst oneE, z, t, x, ()))⟩
  | 0, k, u, h => by
    refine ⟨1, loopRun_out ?_⟩
    refine (gd_run rfl).trans ?_
    rcases (Bool.eq_false_or_eq_true (eqE u oneE)).symm with hq | hq
    · exact (OT.run_t (b := !eqE u oneE) (by rw [hq]; rfl)).trans (OT.run_f (decide_eq_false (by dsimp only [sq_s2]; omega)))
    · exact OT.run_f (b := !eqE u oneE) (by rw [hq]; rfl)
  | n + 1, k, u, h => by
    unfold kF
    rcases (Bool.eq_false_or_eq_true (eqE u oneE)).symm with hq | hq
    · rw [hq]
      obtain ⟨j, hj⟩ := sq_loop2 c0 C z t x m hC hm n (k + 1) (mulP (numC C).1.nat u u) (by omega)
      refine ⟨j + 1, loopRun_more ?_ hj⟩
      refine (gd_run rfl).trans ((OT.run_t (b := !eqE u oneE) (by rw [hq]; rfl)).trans ((OT.run_t (decide_eq_true (by dsimp only [sq_s2]; omega))).trans ((gd_run ?_).trans rfl)))
      simp only [List.all_cons, List.all_nil, Bool.and_true, Bool.and_eq_true]
      exact ⟨rfl, rfl, hC, rfl, rfl, inR_of (by dsimp only [sq_s2]; omega)⟩
    · rw [hq]
      refine ⟨1, loopRun_out ?_⟩
      exact (gd_run rfl).trans (OT.run_f (b := !eqE u oneE) (by rw [hq]; rfl))
theorem fsqrt_h2 : ∀ s : fsqrt_s2X, fsqrt_ok2 s = true → ∃ m e, loopRun fsqrt_U2 m s = some e ∧ (fsqrt_f2 fsqrt_g2 s).run = some e := by
  rintro ⟨⟨⟨⟩, ⟨⟩, ⟨⟩, ⟨⟩, ⟨⟩, ⟨⟩, m, k, ⟨⟩, ⟨⟩⟩, ⟨c0, C, one, z, t, x, u, ⟨⟩⟩⟩ h
  simp only [fsqrt_ok2, Bool.and_eq_true, decide_eq_true_eq] at h
  obtain ⟨hC, ⟨h0, h1⟩, rfl, rfl, hu⟩ := h
  obtain ⟨v, rfl⟩ : ∃ a, u = lst a := ⟨elemOf u, (lst_elemOf hu).symm⟩
  obtain ⟨n, rfl⟩ : ∃ n : Nat, m = (n : Int) := ⟨m.toNat, by omega⟩
  obtain ⟨j, hj⟩ := sq_loop2 c0 C z t x n hC (by omega) n 0 v (by omega)
  exact ⟨j, _, hj, rfl⟩
def fsqrt_ok4 (s : fsqrt_s4X) : Bool := numOk (numC s.2.2.1) && decide ((0 ≤ s.1.2.2.2.2.2.2.2.2.1 ∧ s.1.2.2.2.2.2.2.2.2.1 ≤ 1000) ∧ s.1.2.2.2.2.2.2.2.2.2.1 = 0 ∧ s.2.2.2.2.2.2.2.1.length = 4)
def fsqrt_g4 (s : fsqrt_s4X) : fsqrt_e4_4X := (((), (), (), (), (), (), s.1.2.2.2.2.2.2.1, (), ()), (s.2.1, s.2.2.1, s.2.2.2.1, s.2.2.2.2.1, s.2.2.2.2.2.1, s.2.2.2.2.2.2.1, lst (sqN (numC s.2.2.1).1.nat (elemOf s.2.2.2.2.2.2.2.1) s.1.2.2.2.2.2.2.2.2.1.toNat), ()))
theorem fsqrt_h4 : ∀ s : fsqrt_s4X, fsqrt_ok4 s = true → ∃ m e, loopRun fsqrt_U4 m s = some e ∧ (fsqrt_f4 fsqrt_g4 s).run = some e := by
  rintro ⟨⟨⟨⟩, ⟨⟩, ⟨⟩, ⟨⟩, ⟨⟩, ⟨⟩, k, ⟨⟩, n, i, ⟨⟩⟩, ⟨c0, C, one, z, t, x, u, ⟨⟩⟩⟩ h
  simp only [fsqrt_ok4, Bool.and_eq_true, decide_eq_true_eq] at h
  obtain ⟨hC, ⟨h0, h1⟩, rfl, hu⟩ := h
  obtain ⟨v, rfl⟩ : ∃ a, u = lst a := ⟨elemOf u, (lst_elemOf hu).symm⟩
  obtain ⟨d, rfl⟩ : ∃ d : Nat, n = (d : Int) := ⟨n.toNat, by omega⟩
  have := (loop_upto (T := fsqrt_U4) (fun i u => ((((), (), (), (), (), (), k, (), (d : Int), (i : Int), ()), (c0, C, one, z, t, x, lst u, ())) : fsqrt_s4X)) (fun _ e => mulP (numC C).1.nat e e)
    (fun u => (⟨(.exit 4, fsqrt_e4_4), (((), (), (), (), (), (), k, (), ()), (c0, C, one, z, t, x, lst u, ()))⟩ : LEnd)) d v (fun _ _ => True) trivial (fun i u hi _ => ⟨?_, trivial⟩) (fun u _ => ?_)).1
  · obtain ⟨m, hm⟩ := this
    exact ⟨m, _, hm, rfl⟩
  · refine (OT.run_t (decide_eq_true (by dsimp only; omega))).trans ((gd_run ?_).trans rfl)
    simp only [List.all_cons, List.all_nil, Bool.and_true, Bool.and_eq_true]
    exact ⟨rfl, rfl, hC, rfl, inR_of (by omega)⟩
  · exact OT.run_f (decide_eq_false (by dsimp only; omega))
def sq_s0 (c0 : Elem) (C : C11) (m : Int) (w : Ton) : fsqrt_s0X := (((), (), (), (), (), (), m, ()), (lst c0, C, lst oneE, lst w.2.2, lst w.2.1, lst w.1, ()))
theorem sq_step {ok2 : fsqrt_s2X → Bool} {g2 : fsqrt_s2X → fsqrt_e2_2X} {ok4 : fsqrt_s4X → Bool} {g4 : fsqrt_s4X → fsqrt_e4_4X} {c0 : Elem} {C : C11} {m k : Nat} {w : Ton} {b : Elem} (hC : numOk (numC C) = true) (hm : m ≤ 1000) (hq : eqE w.2.1 oneE = false)
    (h2 : ok2 (sq_s2 (lst c0) C (lst w.2.2) (lst w.2.1) (lst w.1) (m : Int) 0 w.2.1) = true)
    (e2 : g2 (sq_s2 (lst c0) C (lst w.2.2) (lst w.2.1) (lst w.1) (m : Int) 0 w.2.1) = (((), (), (), (), (), (), (m : Int), (k : Int), ()), (lst c0, C, lst oneE, lst w.2.2, lst w.2.1, lst w.1, ()))) (hk : k ≤ m)
    (h4 : k < m → ok4 (((), (), (), (), (), (), (k : Int), (), (m : Int) - (k : Int) - 1, 0, ()), (lst c0, C, lst oneE, lst w.2.2, lst w.2.1, lst w.1, lst w.2.2, ())) = true)
    (e4 : g4 (((), (), (), (), (), (), (k : Int), (), (m : Int) - (k : Int) - 1, 0, ()), (lst c0, C, lst oneE, lst w.2.2, lst w.2.1, lst w.1, lst w.2.2, ())) = (((), (), (), (), (), (), (k : Int), (), ()), (lst c0, C, lst oneE, lst w.2.2, lst w.2.1, lst w.1, lst b, ()))) :
    (fsqrt_U0 ok2 g2 ok4 g4 (sq_s0 c0 C (m : Int) w)).run = cond (Nat.beq k m) (some (.inr ⟨(.ret, fsqrt_e0_r), (((), (22 : Int), ()), (lst ⟨0, 0, 0, 0⟩, ()))⟩))
      (some (.inl (sq_s0 c0 C (k : Int) (mulP (numC C).1.nat w.1 b, mulP (numC C).1.nat w.2.1 (mulP (numC C).1.nat b b), mulP (numC C).1.nat b b)))) := by
  obtain ⟨x, t, z⟩ := w
  unfold sq_s2 at h2 e2
  have hb : ∀ e : Elem, [List.getD (lst e) 0 0, List.getD (lst e) 1 0, List.getD (lst e) 2 0, List.getD (lst e) 3 0] = lst e := fun _ => rfl
  have hpre : ∀ a c : Elem, fmul0_pre ((numC C, a, c, ()), ()) = true := fun _ _ => hC
  have e2' : g2 (((), (), (), (), (), (), (m : Int), 0, (), ()), (lst c0, (C.1, C.2.1, C.2.2.1, C.2.2.2.1, C.2.2.2.2.1, C.2.2.2.2.2.1, C.2.2.2.2.2.2.1, C.2.2.2.2.2.2.2.1, C.2.2.2.2.2.2.2.2.1, C.2.2.2.2.2.2.2.2.2.1, C.2.2.2.2.2.2.2.2.2.2.1, ()), lst oneE, lst z, lst t, lst x, lst t, ())) = (((), (), (), (), (), (), (m : Int), (k : Int), ()), (lst c0, C, lst oneE, lst z, lst t, lst x, ())) := e2
  have e4' : g4 (((), (), (), (), (), (), (k : Int), (), (m : Int) - (k : Int) - 1, 0, ()), (lst c0, (C.1, C.2.1, C.2.2.1, C.2.2.2.1, C.2.2.2.2.1, C.2.2.2.2.2.1, C.2.2.2.2.2.2.1, C.2.2.2.2.2.2.2.1, C.2.2.2.2.2.2.2.2.1, C.2.2.2.2.2.2.2.2.2.1, C.2.2.2.2.2.2.2.2.2.2.1, ()), lst oneE, lst z, lst t, lst x, lst z, ())) = (((), (), (), (), (), (), (k : Int), (), ()), (lst c0, C, lst oneE, lst z, lst t, lst x, lst b, ())) := e4
  show (fsqrt_T0 ok2 g2 ok4 g4 (m : Int) (lst c0) C.1 C.2.1 C.2.2.1 C.2.2.2.1 C.2.2.2.2.1 C.2.2.2.2.2.1 C.2.2.2.2.2.2.1 C.2.2.2.2.2.2.2.1 C.2.2.2.2.2.2.2.2.1 C.2.2.2.2.2.2.2.2.2.1 C.2.2.2.2.2.2.2.2.2.2.1 (lst oneE) (lst z) (lst t) (lst x)).run = _
  unfold fsqrt_T0
  simp only [hb, e2', e4']
  refine (gd_run rfl).trans ((OT.run_t (b := !eqE t oneE) (by rw [hq]; rfl)).trans ((gd_run ?_).trans ?_))
  · simp only [List.all_cons, List.all_nil, Bool.and_true, Bool.and_eq_true]
    exact ⟨rfl, h2⟩
  · by_cases h : k = m
    · subst h
      rw [Nat.beq_refl]
      refine (OT.run_t (beq_self_eq_true _)).trans ((gd_run rfl).trans rfl)
    · have hn : Nat.beq k m = false := by
        cases hb : Nat.beq k m
        · rfl
        · exact absurd (Nat.eq_of_beq_eq_true hb) h
      rw [hn]
      refine (OT.run_f ?_).trans ((gd_run ?_).trans rfl)
      · exact beq_false_of_ne (fun e => h (by omega))
      · simp only [List.all_cons, List.all_nil, Bool.and_true, Bool.and_eq_true]
        exact ⟨rfl, inR_of (by omega), inR_of (by omega), h4 (by omega), rfl, rfl, hC, rfl, rfl, rfl, hC, rfl, rfl, rfl, hC, rfl⟩
def sqOut (c0 : Elem) (C : C11) : Option Elem → LEnd
  | some x => ⟨(.exit 0, fsqrt_e0_0), (((), (), (), ()), (lst c0, C, lst x, ()))⟩
  | none => ⟨(.ret, fsqrt_e0_r), (((), (22 : Int), ()), (lst ⟨0, 0, 0, 0⟩, ()))⟩
theorem sq_loop0 (c0 : Elem) (C : C11) (hC : numOk (numC C) = true) : ∀ (f m : Nat) (w : Ton), m < f → m ≤ 1000 →
    ∃ j, loopRun (fsqrt_U0 fsqrt_ok2 fsqrt_g2 fsqrt_ok4 fsqrt_g4) j (sq_s0 c0 C (m : Int) w) = some (sqOut c0 C (tsF (numC C).1.nat f m w))
  | 0, m, w, h, _ => absurd h (Nat.not_lt_zero _)
  | f + 1, m, w, hf, hm => by
    unfold tsF
    rcases (Bool.eq_false_or_eq_true (eqE w.2.1 oneE)).symm with hq | hq
    · rw [hq]
      simp only [cond_false]
      have hk : kF (numC C).1.nat m w.2.1 0 ≤ m := by
        have key : ∀ (n : Nat) (s : Elem) (k : Nat), kF (numC C).1.nat n s k ≤ k + n := by
          intro n
          induction n with
          | zero => intro s k; exact Nat.le_refl _
          | succ n ih =>
            intro s k
            unfold kF
            cases eqE s oneE
            · have := ih (mulP (numC C).1.nat s s) (k + 1)
              simp only [cond_false]
              omega
            · simp only [cond_true]
              omega
        have := key m w.2.1 0
        omega
      have hst := sq_step (ok2 := fsqrt_ok2) (g2 := fsqrt_g2) (ok4 := fsqrt_ok4) (g4 := fsqrt_g4) (c0 := c0) (C := C) (m := m) (k := kF (numC C).1.nat m w.2.1 0) (w := w) (b := tsB (numC C).1.nat m (kF (numC C).1.nat m w.2.1 0) w) hC hm hq
        (by
          refine (Bool.and_eq_true _ _).mpr ⟨hC, decide_eq_true ⟨⟨?_, ?_⟩, rfl, rfl, rfl⟩⟩
          · show (0 : Int) ≤ (m : Int); omega
          · show (m : Int) ≤ 1000; omega) rfl hk
        (fun hlt => by
          refine (Bool.and_eq_true _ _).mpr ⟨hC, decide_eq_true ⟨⟨?_, ?_⟩, rfl, rfl⟩⟩
          · show (0 : Int) ≤ (m : Int) - (kF (numC C).1.nat m w.2.1 0 : Int) - 1; omega
          · show (m : Int) - (kF (numC C).1.nat m w.2.1 0 : Int) - 1 ≤ 1000; omega)
        (by
          have e : ((m : Int) - (kF (numC C).1.nat m w.2.1 0 : Int) - 1).toNat = m - kF (numC C).1.nat m w.2.1 0 - 1 := by omega
          show (((), (), (), (), (), (), (kF (numC C).1.nat m w.2.1 0 : Int), (), ()), (lst c0, C, lst oneE, lst w.2.2, lst w.2.1, lst w.1, lst (sqN (numC C).1.nat w.2.2 ((m : Int) - (kF (numC C).1.nat m w.2.1 0 : Int) - 1).toNat), ())) = _
          rw [e]
          rfl)
      cases hb : Nat.beq (kF (numC C).1.nat m w.2.1 0) m
      · rw [hb] at hst
        have hne := not_beq hb
        obtain ⟨j, hj⟩ := sq_loop0 c0 C hC f (kF (numC C).1.nat m w.2.1 0) (tsW (numC C).1.nat m (kF (numC C).1.nat m w.2.1 0) w) (by omega) (by omega)
        exact ⟨j + 1, loopRun_more hst hj⟩
      · rw [hb] at hst
        exact ⟨1, loopRun_out hst⟩
    · rw [hq]
      simp only [cond_true]
      refine ⟨1, loopRun_out ?_⟩
      exact (gd_run rfl).trans (OT.run_f (b := !eqE w.2.1 oneE) (by rw [hq]; rfl))
def fsqrt_res (s : fsqrt_s0X) : Option Elem := tsF (numC s.2.2.1).1.nat (s.1.2.2.2.2.2.2.1.toNat + 1) s.1.2.2.2.2.2.2.1.toNat (elemOf s.2.2.2.2.2.2.1, elemOf s.2.2.2.2.2.1, elemOf s.2.2.2.2.1)
def fsqrt_ok0 (s : fsqrt_s0X) : Bool := numOk (numC s.2.2.1) && decide ((0 ≤ s.1.2.2.2.2.2.2.1 ∧ s.1.2.2.2.2.2.2.1 ≤ 1000) ∧ s.2.1.length = 4 ∧ s.2.2.2.1 = [1, 0, 0, 0] ∧ s.2.2.2.2.1.length = 4 ∧ s.2.2.2.2.2.1.length = 4 ∧ s.2.2.2.2.2.2.1.length = 4)
def fsqrt_c0 (s : fsqrt_s0X) : Bool := (fsqrt_res s).isNone
def fsqrt_g0r (_ : fsqrt_s0X) : fsqrt_e0_rX := (((), (22 : Int), ()), (lst ⟨0, 0, 0, 0⟩, ()))
def fsqrt_g0 (s : fsqrt_s0X) : fsqrt_e0_0X := (((), (), (), ()), (s.2.1, s.2.2.1, lst ((fsqrt_res s).getD ⟨0, 0, 0, 0⟩), ()))
theorem fsqrt_h0 : ∀ s : fsqrt_s0X, fsqrt_ok0 s = true → ∃ m e, loopRun (fsqrt_U0 fsqrt_ok2 fsqrt_g2 fsqrt_ok4 fsqrt_g4) m s = some e ∧ (fsqrt_f0 fsqrt_g0r fsqrt_c0 fsqrt_g0 s).run = some e := by
  rintro ⟨⟨⟨⟩, ⟨⟩, ⟨⟩, ⟨⟩, ⟨⟩, ⟨⟩, m, ⟨⟩⟩, ⟨c0, C, one, z, t, x, ⟨⟩⟩⟩ h
  simp only [fsqrt_ok0, Bool.and_eq_true, decide_eq_true_eq] at h
  obtain ⟨hC, ⟨h0, h1⟩, hc, rfl, hz, ht, hx⟩ := h
  obtain ⟨c, rfl⟩ : ∃ a, c0 = lst a := ⟨elemOf c0, (lst_elemOf hc).symm⟩
  obtain ⟨Z, rfl⟩ : ∃ a, z = lst a := ⟨elemOf z, (lst_elemOf hz).symm⟩
  obtain ⟨T, rfl⟩ : ∃ a, t = lst a := ⟨elemOf t, (lst_elemOf ht).symm⟩
  obtain ⟨X, rfl⟩ : ∃ a, x = lst a := ⟨elemOf x, (lst_elemOf hx).symm⟩
  obtain ⟨n, rfl⟩ : ∃ n : Nat, m = (n : Int) := ⟨m.toNat, by omega⟩
  obtain ⟨j, hj⟩ := sq_loop0 c C hC (n + 1) n (X, T, Z) (by omega) (by omega)
  refine ⟨j, _, hj, ?_⟩
  show (OT.br (tsF (numC C).1.nat (n + 1) n (X, T, Z)).isNone (.ok ⟨(.ret, fsqrt_e0_r), _⟩) (.ok ⟨(.exit 0, fsqrt_e0_0), (((), (), (), ()), (lst c, C, lst ((tsF (numC C).1.nat (n + 1) n (X, T, Z)).getD ⟨0, 0, 0, 0⟩), ()))⟩) : OT LEnd).run = some (sqOut c C (tsF (numC C).1.nat (n + 1) n (X, T, Z)))
  cases tsF (numC C).1.nat (n + 1) n (X, T, Z) <;> rfl
def fsqrt_pre (_ : fsqrtX) : Bool := true
def fsqrt_F (x : fsqrtX) : OT fsqrt_S.Y := .br (sortOk x.1.1) (.br (zeroE (ofP (pS x.1.1) x.1.2.1)) (.ok ⟨fsqrt_o0, ((⟨0, 0, 0, 0⟩, ((0 : Int), ())), ())⟩)
  (.br (eqE (expP (pS x.1.1) (ofP (pS x.1.1) x.1.2.1) (halfE (wdif (numOf x.1.1.toNat).1 oneE).1)) oneE) (.ok ⟨fsqrt_o0, ((evenX (pS x.1.1) (rootX x.1.1 (ofP (pS x.1.1) x.1.2.1)), ((0 : Int), ())), ())⟩) (.ok ⟨fsqrt_o0, ((⟨0, 0, 0, 0⟩, ((22 : Int), ())), ())⟩)))
  (.ok ⟨fsqrt_o0, ((⟨0, 0, 0, 0⟩, ((20 : Int), ())), ())⟩)
def numT (n : NumX) : C11 := (n.1.w0, n.1.w1, n.1.w2, n.1.w3, n.2.1, n.2.2.1, n.2.2.2.1, n.2.2.2.2.w0, n.2.2.2.2.w1, n.2.2.2.2.w2, n.2.2.2.2.w3, ())
theorem odd_even (x : Elem) : (x.w0 &&& 1 == 1) = (x.w0 % 2 == 1) := by
  have h := bit_one x.w0
  rw [h]
  have h2 : (x.w0 % 2).toNat = x.w0.toNat % 2 := by rw [UInt64.toNat_mod]; rfl
  rw [← h2]
  by_cases h : x.w0 % 2 = 1
  · rw [h]; rfl
  · have hn : ¬ (x.w0 % 2).toNat = 1 := fun e => h (UInt64.toNat_inj.1 e)
    have : Nat.beq (x.w0 % 2).toNat 1 = false := by
      cases hb : Nat.beq (x.w0 % 2).toNat 1
      · rfl
      · exact absurd (Nat.eq_of_beq_eq_true hb) hn
    rw [this]
    symm
    simpa using h
abbrev sq_zz (n : NumX) (z t x : Elem) : fsqrt_s0X := (((), (), (), (), (), (), n.2.1, ()), [0, 0, 0, 0], (n.1.w0, n.1.w1, n.1.w2, n.1.w3, n.2.1, n.2.2.1, n.2.2.2.1, n.2.2.2.2.w0, n.2.2.2.2.w1, n.2.2.2.2.w2, n.2.2.2.2.w3, ()), [1, 0, 0, 0], [z.w0, z.w1, z.w2, z.w3], [t.w0, t.w1, t.w2, t.w3], [x.w0, x.w1, x.w2, x.w3], ())
theorem fsqrt_T_of {ok2 : fsqrt_s2X → Bool} {g2 : fsqrt_s2X → fsqrt_e2_2X} {ok4 : fsqrt_s4X → Bool} {g4 : fsqrt_s4X → fsqrt_e4_4X} {ok0 : fsqrt_s0X → Bool} {g0r : fsqrt_s0X → fsqrt_e0_rX} {c0 : fsqrt_s0X → Bool} {g0 : fsqrt_s0X → fsqrt_e0_0X} {s : Int} {a A z t x X : Elem} {c : Bool}
    (hs : sortOk s = true) (k : SqrtOk s) (hA : ofN (a.nat % (numOf s.toNat).1.nat) = A) (hz : zeroE A = false) (ez : expP (pS s) ⟨5, 0, 0, 0⟩ (oddS s) = z) (et : expP (pS s) A (oddS s) = t) (ex : expP (pS s) A (halfE (wsum (oddS s) oneE).1) = x)
    (h0 : ok0 (sq_zz (numOf s.toNat) z t x) = true) (hc : c0 (sq_zz (numOf s.toNat) z t x) = c) (er : g0r (sq_zz (numOf s.toNat) z t x) = (((), (22 : Int), ()), (lst ⟨0, 0, 0, 0⟩, ())))
    (e0 : g0 (sq_zz (numOf s.toNat) z t x) = (((), (), (), ()), (lst ⟨0, 0, 0, 0⟩, numT (numOf s.toNat), lst X, ()))) :
    (fsqrt_T ok2 g2 ok4 g4 ok0 g0r c0 g0 s a).run = cond c (some ⟨fsqrt_o0, ((⟨0, 0, 0, 0⟩, ((22 : Int), ())), ())⟩) (some ⟨fsqrt_o0, ((evenX (pS s) X, ((0 : Int), ())), ())⟩) := by
  have ez' : expP (pS s) ⟨5, 0, 0, 0⟩ (halvesE (wdif (numOf s.toNat).1 ⟨1, 0, 0, 0⟩).1 (numOf s.toNat).2.1.toNat) = z := ez
  have et' : expP (pS s) A (halvesE (wdif (numOf s.toNat).1 ⟨1, 0, 0, 0⟩).1 (numOf s.toNat).2.1.toNat) = t := et
  have ex' : expP (pS s) A (halfE (wsum (halvesE (wdif (numOf s.toNat).1 ⟨1, 0, 0, 0⟩).1 (numOf s.toNat).2.1.toNat) ⟨1, 0, 0, 0⟩).1) = x := ex
  have hp1 : fhalves_pre (((wdif (numOf s.toNat).1 ⟨1, 0, 0, 0⟩).1, (numOf s.toNat).2.1, ()), ()) = true := by
    refine decide_eq_true ?_
    show 0 ≤ (numOf s.toNat).2.1 ∧ (numOf s.toNat).2.1 ≤ 1000000
    have h := adi_of hs
    omega
  unfold fsqrt_T
  simp only [hA, ez', et', ex', er, e0, hc]
  refine (OT.run_t hs).trans ((gd_run ?_).trans ((OT.run_f (b := zeroE A) hz).trans ((gd_run ?_).trans ?_)))
  · simp only [List.all_cons, List.all_nil, Bool.and_true]
    exact numOk_of hs
  · simp only [List.all_cons, List.all_nil, Bool.and_true, Bool.and_eq_true]
    exact ⟨hp1, hs, hs, hs, h0⟩
  · cases c
    · have hn : numOk (numC (numT (numOf s.toNat))) = true := numOk_of hs
      refine (OT.run_f rfl).trans ((gd_run rfl).trans ?_)
      have ho := odd_even X
      unfold evenX
      rcases (Bool.eq_false_or_eq_true (X.w0 % 2 == 1)).symm with h | h
      · rw [h] at ho ⊢
        exact (OT.run_f ho).trans ((gd_run rfl).trans rfl)
      · rw [h] at ho ⊢
        refine (OT.run_t ho).trans ((gd_run ?_).trans rfl)
        simp only [List.all_cons, List.all_nil, Bool.and_true, Bool.and_eq_true]
        exact ⟨rfl, hn, rfl, rfl, rfl, rfl⟩
    · exact (OT.run_t rfl).trans ((gd_run rfl).trans rfl)
theorem fsqrt_ok : SummOk Try.prog 69 (fsqrt_S.summ fsqrt_pre fsqrt_F) := fsqrt_main fsqrt_ok2 fsqrt_g2 fsqrt_ok4 fsqrt_g4 fsqrt_ok0 fsqrt_g0r fsqrt_c0 fsqrt_g0 fsqrt_h2 fsqrt_h4 fsqrt_h0 _ _ fun x oy hp ho => by
  rw [← ho]
  clear ho
  obtain ⟨⟨s, a, ⟨⟩⟩, ⟨⟩⟩ := x
  show (fsqrt_T fsqrt_ok2 fsqrt_g2 fsqrt_ok4 fsqrt_g4 fsqrt_ok0 fsqrt_g0r fsqrt_c0 fsqrt_g0 s a).run = (OT.br (sortOk s) (.br (zeroE (ofP (pS s) a)) (.ok ⟨fsqrt_o0, ((⟨0, 0, 0, 0⟩, ((0 : Int), ())), ())⟩)
    (.br (eqE (expP (pS s) (ofP (pS s) a) (halfE (wdif (numOf s.toNat).1 oneE).1)) oneE) (.ok ⟨fsqrt_o0, ((evenX (pS s) (rootX s (ofP (pS s) a)), ((0 : Int), ())), ())⟩) (.ok ⟨fsqrt_o0, ((⟨0, 0, 0, 0⟩, ((22 : Int), ())), ())⟩)))
    (.ok ⟨fsqrt_o0, ((⟨0, 0, 0, 0⟩, ((20 : Int), ())), ())⟩) : OT fsqrt_S.Y).run
  rcases (Bool.eq_false_or_eq_true (sortOk s)).symm with hs | hs
  · exact (OT.run_f hs).trans (OT.run_f (b := sortOk s) hs).symm
  · have k := sqrtOk_of hs
    refine Eq.trans ?_ (OT.run_t (b := sortOk s) hs).symm
    have hA : ofN (a.nat % (numOf s.toNat).1.nat) = ofP (pS s) a := rfl
    have hlt : (ofP (pS s) a).nat < pS s := by
      rw [show (ofP (pS s) a).nat = a.nat % pS s from rem_nat k.sm]
      exact Nat.mod_lt _ k.pr.pos
    generalize ofP (pS s) a = A at *
    rcases (Bool.eq_false_or_eq_true (zeroE A)).symm with hz | hz
    · refine Eq.trans ?_ (OT.run_f (b := zeroE A) hz).symm
      have hsame := ts_same k hlt hz
      have hres : fsqrt_res (sq_zz (numOf s.toNat) (tsStart s A).2.2 (tsStart s A).2.1 (tsStart s A).1) = tsF (pS s) (adS s + 1) (adS s) (tsStart s A) := rfl
      have hbd := adi_of hs
      have h0 : fsqrt_ok0 (sq_zz (numOf s.toNat) (tsStart s A).2.2 (tsStart s A).2.1 (tsStart s A).1) = true := by
        refine (Bool.and_eq_true _ _).mpr ⟨numOk_of hs, decide_eq_true ⟨⟨?_, ?_⟩, rfl, rfl, rfl, rfl, rfl⟩⟩
        · show 0 ≤ (numOf s.toNat).2.1; omega
        · show (numOf s.toNat).2.1 ≤ 1000; omega
      have main := fsqrt_T_of (ok2 := fsqrt_ok2) (g2 := fsqrt_g2) (ok4 := fsqrt_ok4) (g4 := fsqrt_g4) (ok0 := fsqrt_ok0) (g0r := fsqrt_g0r) (c0 := fsqrt_c0) (g0 := fsqrt_g0) (X := (fsqrt_res (sq_zz (numOf s.toNat) (tsStart s A).2.2 (tsStart s A).2.1 (tsStart s A).1)).getD ⟨0, 0, 0, 0⟩) hs k hA hz rfl rfl rfl h0 rfl rfl rfl
      refine main.trans ?_
      show cond (fsqrt_res (sq_zz (numOf s.toNat) (tsStart s A).2.2 (tsStart s A).2.1 (tsStart s A).1)).isNone _ _ = _
      rw [hres]
      rcases (Bool.eq_false_or_eq_true (eqE (expP (pS s) A (halfE (wdif (numOf s.toNat).1 oneE).1)) oneE)).symm with h | h
      · rw [h] at hsame
        refine Eq.trans ?_ (OT.run_f h).symm
        cases ht : tsF (pS s) (adS s + 1) (adS s) (tsStart s A) with
        | none => rfl
        | some x => rw [ht] at hsame; cases hsame
      · rw [h] at hsame
        refine Eq.trans ?_ (OT.run_t h).symm
        cases ht : tsF (pS s) (adS s + 1) (adS s) (tsStart s A) with
        | none => rw [ht] at hsame; cases hsame
        | some x =>
          rw [ht] at hsame
          have hsame : some (evenX (pS s) x) = some (evenX (pS s) (rootX s A)) := hsame
          rw [← Option.some.inj hsame]
          rfl
    · refine Eq.trans ?_ (OT.run_t (b := zeroE A) hz).symm
      rw [zero_eq hz] at hA
      refine (OT.run_t hs).trans ((gd_run ?_).trans ?_)
      · simp only [List.all_cons, List.all_nil, Bool.and_true]
        exact numOk_of hs
      · rw [hA]
        rfl
def fsqrt_summ : Summ := (fsqrt_S.summ fsqrt_pre fsqrt_F)
theorem fsqrt_known : SummOk Try.prog 69 fsqrt_summ := fsqrt_ok
theorem fsqrt_smono : MonoOk fsqrt_summ := fn_mono
def E_fsqrt : Env := envCons 69 fsqrt_summ E_fexpn
theorem E_fsqrt_ok : EnvOk Try.prog E_fsqrt := envOk_cons fsqrt_known E_fexpn_ok
theorem E_fsqrt_mono : EnvMono E_fsqrt := envMono_cons fsqrt_smono E_fexpn_mono
theorem E_fsqrt_any : AnyOk Try.prog te E_fsqrt := any_ok follows te_ok E_fsqrt_ok E_fsqrt_mono
end Go.Proofs.Ytkedomfjjahjnaa

namespace Go.Proofs.Ytkedomfjjahjnaa
open Sx Go
abbrev noPt : Pt := (⟨0, 0, 0, 0⟩, ⟨0, 0, 0, 0⟩, false)
end Go.Proofs.Ytkedomfjjahjnaa

namespace Go.Proofs.Ytkedomfjjahjnaa
open Sx Go
set_option maxRecDepth 100000
def cdecode_S : FnSpec := ⟨[.val false .int, .val false (.list .u8)], [], true, 0, false⟩
abbrev cdecodeX : Type := ((Int) × (List (UInt8)) × Unit) × (Unit)
def cdecode_o0 : OutSh := ⟨[.val true (.prod .elem (.prod .elem .bool)), .val false .int], [], false⟩
def cdecode_sel : SV → Option OutSh := fun _ => some cdecode_o0
def cdecode_T (a0 : Int) (a1 : List (UInt8)) : OT cdecode_S.Y :=
  let z0 : Bool := sortOk a0
  let z1 : Nat := List.length a1
  let z2 : Elem := { w0 := 0, w1 := 0, w2 := 0, w3 := 0 }
  let z3 : Elem × Bool := (z2, false)
  let z4 : Elem × Elem × Bool := (z2, z3)
  let z5 : Bool := inB (31 : Int) z1
  let z6 : Bool := decide (31 < z1)
  let z7 : UInt8 := List.getD a1 31 (0 : UInt8)
  let z8 : List UInt8 := List.set a1 31 (z7 &&& (127 : UInt8))
  let z9 : Elem := numB z8
  let z10 : Nat := pS a0
  let z11 : Elem := bS a0
  let z12 : Bool := ccube_pre ((a0, z9, z11, ()), ())
  let z13 : Elem := ofP z10 (cubeP z10 z9 z11)
  let z14 : Bool := zeroE z13
  let z15 : Bool := !(0 : UInt8) == z7 >>> (7 : UInt8)
  let z16 : Elem × Elem × Bool := (z9, negP z10 z2, false)
  let z17 : Elem × Elem × Bool := (z9, z3)
  let z18 : Bool := eqE (expP z10 z13 (halfE (wdif (numOf (Int.toNat a0)).fst oneE).fst)) oneE
  let z19 : Elem := evenX z10 (rootX a0 z13)
  let z20 : Bool := !UInt64.toUInt8 (z19.w0 &&& (1 : UInt64)) == z7 >>> (7 : UInt8)
  let z21 : Elem × Elem × Bool := (z9, negP z10 z19, false)
  let z22 : Elem × Elem × Bool := (z9, z19, false)
  (.br (z0)
  (.br (!(↑z1 : Int) == (32 : Int))
    (.ok ⟨cdecode_o0, ((z4, ((41 : Int), ())), ())⟩)
    (gd [bclone_pre ((a1, ()), ()), z5, z6, z5, z6, z5, z6] (.br (z0)
      (.br (len32 z8)
        (.br (Nat.blt (Elem.nat z9) z10)
          (.br (z9.w0 == (0 : UInt64) && (z9.w1 == (0 : UInt64) && (z9.w2 == (0 : UInt64) && (z9.w3 == (0 : UInt64) && true))))
            (.br (z7 >>> (7 : UInt8) == (0 : UInt8))
              (.ok ⟨cdecode_o0, (((z2, z2, true), ((0 : Int), ())), ())⟩)
              (gd [z12] (.br (z0)
                (.br (z14)
                  (.br (z15)
                    (.br (z0)
                      (.ok ⟨cdecode_o0, ((z16, ((0 : Int), ())), ())⟩)
                      (.ok ⟨cdecode_o0, ((z17, ((0 : Int), ())), ())⟩))
                    (.ok ⟨cdecode_o0, ((z17, ((0 : Int), ())), ())⟩))
                  (.br (z18)
                    (.br (z20)
                      (.br (z0)
                        (.ok ⟨cdecode_o0, ((z21, ((0 : Int), ())), ())⟩)
                        (.ok ⟨cdecode_o0, ((z17, ((0 : Int), ())), ())⟩))
                      (.ok ⟨cdecode_o0, ((z22, ((0 : Int), ())), ())⟩))
                    (.ok ⟨cdecode_o0, ((z4, ((41 : Int), ())), ())⟩)))
                (.ok ⟨cdecode_o0, ((z4, ((41 : Int), ())), ())⟩))))
            (gd [z12] (.br (z0)
              (.br (z14)
                (.br (z15)
                  (.br (z0)
                    (.ok ⟨cdecode_o0, ((z16, ((0 : Int), ())), ())⟩)
                    (.ok ⟨cdecode_o0, ((z17, ((0 : Int), ())), ())⟩))
                  (.ok ⟨cdecode_o0, ((z17, ((0 : Int), ())), ())⟩))
                (.br (z18)
                  (.br (z20)
                    (.br (z0)
                      (.ok ⟨cdecode_o0, ((z21, ((0 : Int), ())), ())⟩)
                      (.ok ⟨cdecode_o0, ((z17, ((0 : Int), ())), ())⟩))
                    (.ok ⟨cdecode_o0, ((z22, ((0 : Int), ())), ())⟩))
                  (.ok ⟨cdecode_o0, ((z4, ((41 : Int), ())), ())⟩)))
              (.ok ⟨cdecode_o0, ((z4, ((41 : Int), ())), ())⟩))))
          (.ok ⟨cdecode_o0, ((z4, ((41 : Int), ())), ())⟩))
        (.ok ⟨cdecode_o0, ((z4, ((41 : Int), ())), ())⟩))
      (.ok ⟨cdecode_o0, ((z4, ((41 : Int), ())), ())⟩))))
  (.ok ⟨cdecode_o0, ((z4, ((40 : Int), ())), ())⟩))
theorem cdecode_q (x : cdecodeX) (Q : cdecode_S.Y → Prop) : wpf te E_fsqrt lamNil 1000 Try.f35 (cdecode_S.inp.inj x).tm (cdecode_S.inp.inj x).hp (fnK cdecode_S cdecode_sel Q) (fun _ _ => False) = (cdecode_T (x.1.1) (x.1.2.1)).wpR Q := by kernel_rfl
theorem cdecode_main (pre : cdecodeX → Bool) (F : cdecodeX → OT cdecode_S.Y) (hF : ∀ (x : cdecodeX) oy, pre x = true → (F x).run = some oy → (cdecode_T (x.1.1) (x.1.2.1)).run = some oy) : SummOk Try.prog 35 (cdecode_S.summ pre F) :=
  fn_tree te_ok E_fsqrt_ok E_fsqrt_any (f := 35) (fn := Try.f35) (c := codeOf Try.f35) (by kernel_rfl) (by kernel_rfl) (by kernel_rfl) (S := cdecode_S) (k := 0) (by kernel_rfl) (fun R hR => lamOk_nil) (n := 1000) (sel := cdecode_sel) (fun v o h => by cases h; rfl) (pre := pre) (F := F) (T := fun x => cdecode_T (x.1.1) (x.1.2.1)) (fun x Q => cdecode_q x Q) hF
def numD (b : List UInt8) : Elem := numB (b.set 31 (b.getD 31 0 &&& 127))
def oddD (b : List UInt8) : Bool := !(b.getD 31 0 >>> 7 == 0)
theorem even_bit {y : Elem} (h : y.nat % 2 = 0) : UInt64.toUInt8 (y.w0 &&& 1) = 0 := by
  have e : y.nat % 2 = y.w0.toNat % 2 := by unfold Sx.Elem.nat; omega
  have h2 : (y.w0 &&& 1).toNat = y.w0.toNat % 2 := by
    rw [UInt64.toNat_and]
    exact Nat.and_two_pow_sub_one_eq_mod y.w0.toNat 1
  have : y.w0 &&& 1 = 0 := UInt64.toNat_inj.1 (by rw [h2, ← e, h]; rfl)
  rw [this]
  rfl
def cdecode_pre (_ : cdecodeX) : Bool := true
def decF {S : FnSpec} (f : Pt → Int → OT S.Y) (s : Int) (b : List UInt8) : OT S.Y := .br (sortOk s) (.br (len32 b) (.br (Nat.blt (numD b).nat (pS s)) (.br (zeroE (numD b)) (.br (oddD b) (f noPt 41) (f inftyP 0)) (.br (sqB s (numD b)) (f (ptD s (numD b) (oddD b)) 0) (f noPt 41))) (f noPt 41)) (f noPt 41)) (f noPt 40)
def cdecode_F (x : cdecodeX) : OT cdecode_S.Y := decF (S := cdecode_S) (fun P e => .ok ⟨cdecode_o0, ((P, (e, ())), ())⟩) x.1.1 x.1.2.1
theorem cdecode_T_of {s : Int} {b : List UInt8} {N : Elem} (hN : numD b = N) : (cdecode_T s b).run = (decF (S := cdecode_S) (fun P e => .ok ⟨cdecode_o0, ((P, (e, ())), ())⟩) s b).run := by
  have hN' : numB (List.set b 31 (List.getD b 31 0 &&& 127)) = N := hN
  unfold cdecode_T decF
  rw [hN]
  simp only [hN']
  rcases (Bool.eq_false_or_eq_true (sortOk s)).symm with hs | hs
  · exact (OT.run_f hs).trans (OT.run_f (b := sortOk s) hs).symm
  · refine (OT.run_t hs).trans (Eq.trans ?_ (OT.run_t (b := sortOk s) hs).symm)
    rcases (Bool.eq_false_or_eq_true (len32 b)).symm with hl | hl
    · exact (OT.run_t (b := !len32 b) (by rw [hl]; rfl)).trans (OT.run_f (b := len32 b) hl).symm
    · have hlen := len32_iff.1 hl
      have i1 : inB 31 b.length = true := inB_of (by omega)
      have i2 : decide (31 < b.length) = true := decide_eq_true (by omega)
      have i3 : bclone_pre ((b, ()), ()) = true := decide_eq_true (by show b.length ≤ _; omega)
      have i4 : len32 (List.set b 31 (List.getD b 31 0 &&& 127)) = true := len32_iff.2 (by rw [List.length_set]; exact hlen)
      have hg : ∀ z : Elem, ccube_pre ((s, z, bS s, ()), ()) = true := fun _ => hs
      refine (OT.run_f (b := !len32 b) (by rw [hl]; rfl)).trans (Eq.trans ((gd_run ?_).trans ((OT.run_t hs).trans ((OT.run_t i4).trans ?_))) (OT.run_t (b := len32 b) hl).symm)
      · simp only [i1, i2, i3, List.all_cons, List.all_nil, Bool.and_self]
      · rcases (Bool.eq_false_or_eq_true (Nat.blt N.nat (pS s))).symm with hb | hb
        · exact (OT.run_f hb).trans (OT.run_f (b := Nat.blt N.nat (pS s)) hb).symm
        · refine (OT.run_t hb).trans (Eq.trans ?_ (OT.run_t (b := Nat.blt N.nat (pS s)) hb).symm)
          have hA := sqA_not hs N
          have sg : (List.getD b 31 0 >>> 7 == 0) = !oddD b := by unfold oddD; rw [Bool.not_not]
          rcases (Bool.eq_false_or_eq_true (zeroE N)).symm with hz | hz
          · refine (OT.run_f (b := zeroE N) hz).trans (Eq.trans ?_ (OT.run_f (b := zeroE N) hz).symm)
            refine (gd_run (by rw [hg]; rfl)).trans ((OT.run_t hs).trans ((OT.run_f (b := zeroE (sqA s N)) hA).trans ?_))
            rcases (Bool.eq_false_or_eq_true (sqB s N)).symm with hq | hq
            · exact (OT.run_f (b := sqB s N) hq).trans (OT.run_f (b := sqB s N) hq).symm
            · refine (OT.run_t (b := sqB s N) hq).trans (Eq.trans ?_ (OT.run_t (b := sqB s N) hq).symm)
              have hy := even_bit (sqY_n hs hq).2.1
              have hc : (!UInt64.toUInt8 ((sqY s N).w0 &&& 1) == List.getD b 31 0 >>> 7) = oddD b := by
                rw [hy]
                unfold oddD
                rw [Bool.beq_comm]
              unfold ptD
              rcases (Bool.eq_false_or_eq_true (oddD b)).symm with ho | ho
              · rw [ho] at hc ⊢
                exact (OT.run_f hc).trans rfl
              · rw [ho] at hc ⊢
                exact (OT.run_t hc).trans ((OT.run_t hs).trans rfl)
          · refine (OT.run_t (b := zeroE N) hz).trans (Eq.trans ?_ (OT.run_t (b := zeroE N) hz).symm)
            have hN0 := zero_eq hz
            rcases (Bool.eq_false_or_eq_true (oddD b)).symm with ho | ho
            · exact (OT.run_t (by rw [sg, ho]; rfl)).trans (OT.run_f (b := oddD b) ho).symm
            · refine (OT.run_f (by rw [sg, ho]; rfl)).trans (Eq.trans ?_ (OT.run_t (b := oddD b) ho).symm)
              have hq : sqB s N = false := by rw [hN0]; exact sqB_zero hs
              exact (gd_run (by rw [hg]; rfl)).trans ((OT.run_t hs).trans ((OT.run_f (b := zeroE (sqA s N)) hA).trans (OT.run_f (b := sqB s N) hq)))
theorem cdecode_ok : SummOk Try.prog 35 (cdecode_S.summ cdecode_pre cdecode_F) := cdecode_main _ _ fun x oy hp ho => by
  rw [← ho]
  clear ho
  obtain ⟨⟨s, b, ⟨⟩⟩, ⟨⟩⟩ := x
  exact cdecode_T_of rfl
def cdecode_summ : Summ := (cdecode_S.summ cdecode_pre cdecode_F)
theorem cdecode_known : SummOk Try.prog 35 cdecode_summ := cdecode_ok
theorem cdecode_smono : MonoOk cdecode_summ := fn_mono
def E_cdecode : Env := envCons 35 cdecode_summ E_fsqrt
theorem E_cdecode_ok : EnvOk Try.prog E_cdecode := envOk_cons cdecode_known E_fsqrt_ok
theorem E_cdecode_mono : EnvMono E_cdecode := envMono_cons cdecode_smono E_fsqrt_mono
theorem E_cdecode_any : AnyOk Try.prog te E_cdecode := any_ok follows te_ok E_cdecode_ok E_cdecode_mono
def c4alive_S : FnSpec := ⟨[], [], true, 0, false⟩
abbrev c4aliveX : Type := (Unit) × (Unit)
def c4alive_o0 : OutSh := ⟨[.val false .bool], [], false⟩
def c4alive_sel : SV → Option OutSh := fun _ => some c4alive_o0
def c4alive_T : OT c4alive_S.Y :=
  (.ok ⟨c4alive_o0, ((true, ()), ())⟩)
theorem c4alive_q (x : c4aliveX) (Q : c4alive_S.Y → Prop) : wpf te E_cdecode lamNil 1000 Try.f14 (c4alive_S.inp.inj x).tm (c4alive_S.inp.inj x).hp (fnK c4alive_S c4alive_sel Q) (fun _ _ => False) = (c4alive_T).wpR Q := by kernel_rfl
theorem c4alive_main (pre : c4aliveX → Bool) (F : c4aliveX → OT c4alive_S.Y) (hF : ∀ (x : c4aliveX) oy, pre x = true → (F x).run = some oy → (c4alive_T).run = some oy) : SummOk Try.prog 14 (c4alive_S.summ pre F) :=
  fn_tree te_ok E_cdecode_ok E_cdecode_any (f := 14) (fn := Try.f14) (c := codeOf Try.f14) (by kernel_rfl) (by kernel_rfl) (by kernel_rfl) (S := c4alive_S) (k := 0) (by kernel_rfl) (fun R hR => lamOk_nil) (n := 1000) (sel := c4alive_sel) (fun v o h => by cases h; rfl) (pre := pre) (F := F) (T := fun x => c4alive_T) (fun x Q => c4alive_q x Q) hF
def c4alive_pre (_ : c4aliveX) : Bool := true
def c4alive_F (_ : c4aliveX) : OT c4alive_S.Y := .ok ⟨c4alive_o0, ((true, ()), ())⟩
theorem c4alive_ok : SummOk Try.prog 14 (c4alive_S.summ c4alive_pre c4alive_F) := c4alive_main _ _ fun x oy hp ho => by
  rw [← ho]
  clear ho
  show c4alive_T.run = some ⟨c4alive_o0, ((true, ()), ())⟩
  kernel_rfl
def c4alive_summ : Summ := (c4alive_S.summ c4alive_pre c4alive_F)
theorem c4alive_known : SummOk Try.prog 14 c4alive_summ := c4alive_ok
theorem c4alive_smono : MonoOk c4alive_summ := fn_mono
def E_c4alive : Env := envCons 14 c4alive_summ E_cdecode
theorem E_c4alive_ok : EnvOk Try.prog E_c4alive := envOk_cons c4alive_known E_cdecode_ok
theorem E_c4alive_mono : EnvMono E_c4alive := envMono_cons c4alive_smono E_cdecode_mono
theorem E_c4alive_any : AnyOk Try.prog te E_c4alive := any_ok follows te_ok E_c4alive_ok E_c4alive_mono
end Go.Proofs.Ytkedomfjjahjnaa

namespace Go.Proofs.Ytkedomfjjahjnaa
def mulQ (p : Nat) : Nat → PtQ → PtQ
  | 0, _ => none
  | n + 1, P => addQ p P (mulQ p n P)
variable {p b : Nat}
theorem on_mul (c : Cur p b) {P : PtQ} (hP : OnQ p b P) : ∀ n, OnQ p b (mulQ p n P)
  | 0 => trivial
  | n + 1 => on_add c hP (on_mul c hP n)
theorem mul_one (P : PtQ) : mulQ p 1 P = P := add_none P
theorem mul_none : ∀ n, mulQ p n none = none
  | 0 => rfl
  | n + 1 => mul_none n
theorem mul_plus (c : Cur p b) {P : PtQ} (hP : OnQ p b P) (m : Nat) : ∀ n, mulQ p (n + m) P = addQ p (mulQ p n P) (mulQ p m P)
  | 0 => by rw [Nat.zero_add]; rfl
  | n + 1 => by
    rw [show n + 1 + m = (n + m) + 1 by omega]
    show addQ p P (mulQ p (n + m) P) = addQ p (addQ p P (mulQ p n P)) (mulQ p m P)
    rw [mul_plus c hP m n, add_assoc c hP (on_mul c hP n) (on_mul c hP m)]
theorem mul_times (c : Cur p b) {P : PtQ} (hP : OnQ p b P) (m : Nat) : ∀ n, mulQ p (n * m) P = mulQ p n (mulQ p m P)
  | 0 => by rw [Nat.zero_mul]; rfl
  | n + 1 => by
    rw [show (n + 1) * m = m + n * m by rw [Nat.succ_mul, Nat.add_comm], mul_plus c hP, mul_times c hP m n]
    rfl
theorem mul_comm (c : Cur p b) {P : PtQ} (hP : OnQ p b P) (m n : Nat) : mulQ p n (mulQ p m P) = mulQ p m (mulQ p n P) := by
  rw [← mul_times c hP, ← mul_times c hP, Nat.mul_comm]
theorem add_four (c : Cur p b) {A B C D : PtQ} (hA : OnQ p b A) (hB : OnQ p b B) (hC : OnQ p b C) (hD : OnQ p b D) :
    addQ p (addQ p A B) (addQ p C D) = addQ p (addQ p A C) (addQ p B D) := by
  rw [add_assoc c hA hB (on_add c hC hD), ← add_assoc c hB hC hD, add_comm c hB hC, add_assoc c hC hB hD, ← add_assoc c hA hC (on_add c hB hD)]
theorem mul_add (c : Cur p b) {P R : PtQ} (hP : OnQ p b P) (hR : OnQ p b R) : ∀ n, mulQ p n (addQ p P R) = addQ p (mulQ p n P) (mulQ p n R)
  | 0 => rfl
  | n + 1 => by
    show addQ p (addQ p P R) (mulQ p n (addQ p P R)) = addQ p (addQ p P (mulQ p n P)) (addQ p R (mulQ p n R))
    rw [mul_add c hP hR n, add_four c hP hR (on_mul c hP n) (on_mul c hR n)]
theorem mul_neg (c : Cur p b) {P : PtQ} (hP : OnQ p b P) : ∀ n, mulQ p n (negQ p P) = negQ p (mulQ p n P)
  | 0 => rfl
  | n + 1 => by
    show addQ p (negQ p P) (mulQ p n (negQ p P)) = negQ p (addQ p P (mulQ p n P))
    rw [mul_neg c hP n, neg_add c hP (on_mul c hP n)]
theorem add_cancel (c : Cur p b) {P R T : PtQ} (hP : OnQ p b P) (hR : OnQ p b R) (hT : OnQ p b T) (h : addQ p P R = addQ p P T) : R = T := by
  rw [← cancel c hP hR, h, cancel c hP hT]
theorem two_none (c : Cur p b) {P : PtQ} (h : addQ p P P = none) : P = none := by
  cases P with
  | none => rfl
  | some P =>
    have : addQ p (some P) (some P) = some (thirdQ p P P (slopeQ p P P)) := if_neg fun h => h.2 rfl
    rw [this] at h
    cases h
theorem mul_gcd (c : Cur p b) {P : PtQ} (hP : OnQ p b P) (m k : Nat) : mulQ p m P = none → mulQ p k P = none → mulQ p (Nat.gcd m k) P = none := by
  induction m, k using Nat.gcd.induction with
  | H0 n => intro _ h; rw [Nat.gcd_zero_left]; exact h
  | H1 m n hm ih =>
    intro h1 h2
    rw [Nat.gcd_rec]
    refine ih ?_ h1
    have e := Nat.div_add_mod n m
    rw [← e, Nat.mul_comm, mul_plus c hP, mul_times c hP, h1, mul_none] at h2
    exact h2
theorem mul_mod (c : Cur p b) {P : PtQ} (hP : OnQ p b P) {q : Nat} (hq : mulQ p q P = none) (n : Nat) : mulQ p (n % q) P = mulQ p n P := by
  have e := Nat.div_add_mod n q
  conv => rhs; rw [← e, Nat.mul_comm, mul_plus c hP, mul_times c hP, hq, mul_none]
  rfl
def encQ (p : Nat) : PtQ → Nat
  | none => 2 * p
  | some P => 2 * P.1 + P.2 % 2
theorem enc_lt {P : PtQ} (hP : OnQ p b P) : encQ p P < 2 * p + 1 := by
  cases P with
  | none => show 2 * p < _; omega
  | some P =>
    have := hP.1
    show 2 * P.1 + P.2 % 2 < _
    omega
theorem enc_inj (c : Cur p b) (hodd : p % 2 = 1) {P R : PtQ} (hP : OnQ p b P) (hR : OnQ p b R) (h : encQ p P = encQ p R) : P = R := by
  cases P with
  | none =>
    cases R with
    | none => rfl
    | some R =>
      have := hR.1
      have h : 2 * p = 2 * R.1 + R.2 % 2 := h
      omega
  | some P =>
    cases R with
    | none =>
      have := hP.1
      have h : 2 * P.1 + P.2 % 2 = 2 * p := h
      omega
    | some R =>
      obtain ⟨x1, y1⟩ := P
      obtain ⟨x2, y2⟩ := R
      have h : 2 * x1 + y1 % 2 = 2 * x2 + y2 % 2 := h
      have hx : x1 = x2 := by omega
      have hy : y1 % 2 = y2 % 2 := by omega
      by_cases he : y1 = y2
      · rw [hx, he]
      · exfalso
        have ho := opp_of c hP hR ⟨hx, he⟩
        have ho : some (x2, y2) = some (x1, nm p (-(y1 : Int))) := ho
        simp only [Option.some.injEq, Prod.mk.injEq] at ho
        have h2 := ho.2
        have hy1 : y1 < p := hP.2.1
        have h0 : y1 ≠ 0 := fun e => c.yne hP.2.2 (by show (p : Int) ∣ ((y1 : Nat) : Int); rw [e]; exact ⟨0, by simp⟩)
        have h3 : nm p (-(y1 : Int)) = p - y1 := nm_of (by omega) ⟨1, by omega⟩
        omega
theorem all_order (c : Cur p b) (hodd : p % 2 = 1) {q : Nat} (hq : Pr q) (hq2 : q % 2 = 1) (h3 : 2 * p + 1 < 3 * q) {G : PtQ} (hG : OnQ p b G) (hne : G ≠ none) (hqG : mulQ p q G = none)
    {P : PtQ} (hP : OnQ p b P) : mulQ p q P = none := by
  apply Classical.byContradiction
  intro hno
  have hord : ∀ i, mulQ p i G = none → q ∣ i := fun i hi => by
    have hg := mul_gcd c hG q i hqG hi
    rcases hq.2 (Nat.gcd q i) (Nat.gcd_dvd_left ..) with e | e
    · rw [e, mul_one] at hg
      exact absurd hg hne
    · rw [← e]
      exact Nat.gcd_dvd_right ..
  have hon := fun i => on_mul c hG i
  have honP := fun i => on_mul c hP i
  -- no point of G's meets P or twice P
  have hp1 : ∀ i, P ≠ mulQ p i G := fun i e => hno (by rw [e, mul_comm c hG, hqG, mul_none])
  have hp2 : ∀ i, addQ p P P ≠ mulQ p i G := fun i e => by
    have hh : ∃ j, mulQ p i G = addQ p (mulQ p j G) (mulQ p j G) := by
      refine ⟨i * ((q + 1) / 2), ?_⟩
      rw [← mul_plus c hG, ← Nat.mul_add, show (q + 1) / 2 + (q + 1) / 2 = q + 1 by omega, Nat.mul_add, mul_plus c hG, mul_times c hG, hqG, mul_none, Nat.mul_one]
      rfl
    obtain ⟨j, hj⟩ := hh
    rw [hj] at e
    have hn := on_neg c (hon j)
    have : addQ p (addQ p (negQ p (mulQ p j G)) P) (addQ p (negQ p (mulQ p j G)) P) = none := by
      rw [add_four c hn hP hn hP, e, add_comm c (on_add c hn hn) (on_add c (hon j) (hon j)), add_four c (hon j) (hon j) hn hn, add_neg c (hon j)]
      rfl
    have h2 := two_none c this
    have h4 := none_of c hn hP h2
    rw [neg_neg c (hon j)] at h4
    exact hp1 j h4
  -- differences of G's points
  have hdiff : ∀ i j A B, OnQ p b A → OnQ p b B → addQ p (mulQ p i G) A = addQ p (mulQ p j G) B → ∃ k, A = addQ p (mulQ p k G) B := fun i j A B hA hB e => by
    refine ⟨(q - i % q) + j, ?_⟩
    have hm : mulQ p (i % q) G = mulQ p i G := mul_mod c hG hqG i
    have hlt := Nat.mod_lt i hq.pos
    have hz : addQ p (mulQ p (q - i % q) G) (mulQ p i G) = none := by
      rw [← hm, ← mul_plus c hG, show q - i % q + i % q = q by omega, hqG]
    rw [mul_plus c hG, add_assoc c (hon _) (hon _) hB, ← e, ← add_assoc c (hon _) (hon _) hA, hz]
    rfl
  have hinj : ∀ i j, i < q → j < q → mulQ p i G = mulQ p j G → i = j := by
    have aux : ∀ i j, i ≤ j → j < q → mulQ p i G = mulQ p j G → i = j := fun i j hij hj e => by
      have e2 : addQ p (mulQ p i G) none = addQ p (mulQ p i G) (mulQ p (j - i) G) := by
        rw [← mul_plus c hG, show i + (j - i) = j by omega, add_none, e]
      have h0 := add_cancel c (hon i) (R := none) trivial (hon _) e2
      have hd := hord _ h0.symm
      by_cases h : j - i = 0
      · omega
      · have := Nat.le_of_dvd (by omega) hd
        omega
    intro i j hi hj e
    rcases Nat.le_total i j with h | h
    · exact aux i j h hj e
    · exact (aux j i h hi e.symm).symm
  let tw : Nat → PtQ := fun k => mulQ p (k / q) P
  let pt : Nat → PtQ := fun k => addQ p (mulQ p (k % q) G) (mulQ p (k / q) P)
  have hpt : ∀ k, OnQ p b (pt k) := fun k => on_add c (hon _) (honP _)
  have hcoset : ∀ i j, i < 3 → j < 3 → (∃ k, mulQ p i P = addQ p (mulQ p k G) (mulQ p j P)) → i = j := by
    have P1 : mulQ p 1 P = P := mul_one P
    have P2 : mulQ p 2 P = addQ p P P := congrArg (addQ p P) (mul_one P)
    have back : ∀ k A B, OnQ p b A → OnQ p b B → A = addQ p (mulQ p k G) B → ∃ k', B = addQ p (mulQ p k' G) A := fun k A B hA hB e => by
      refine hdiff k 0 B A hB hA ?_
      rw [← e]
      rfl
    have n01 : ∀ k, mulQ p 0 P ≠ addQ p (mulQ p k G) (mulQ p 1 P) := fun k e => by
      obtain ⟨k', e'⟩ := back k _ _ (honP 0) (honP 1) e
      rw [P1, show mulQ p 0 P = none from rfl, add_none] at e'
      exact hp1 k' e'
    have n02 : ∀ k, mulQ p 0 P ≠ addQ p (mulQ p k G) (mulQ p 2 P) := fun k e => by
      obtain ⟨k', e'⟩ := back k _ _ (honP 0) (honP 2) e
      rw [P2, show mulQ p 0 P = none from rfl, add_none] at e'
      exact hp2 k' e'
    have n12 : ∀ k, mulQ p 1 P ≠ addQ p (mulQ p k G) (mulQ p 2 P) := fun k e => by
      rw [P1, P2, ← add_assoc c (hon k) hP hP] at e
      have e2 : addQ p P none = addQ p P (addQ p (mulQ p k G) P) := by
        rw [add_none, ← add_assoc c hP (hon k) hP, add_comm c hP (hon k)]
        exact e
      have e3 := add_cancel c hP (R := none) trivial (on_add c (hon k) hP) e2
      obtain ⟨k', e'⟩ := back k none P trivial hP e3
      rw [add_none] at e'
      exact hp1 k' e'
    rintro i j hi hj ⟨k, hk⟩
    apply Classical.byContradiction
    intro hij
    have bk := back k _ _ (honP i) (honP j) hk
    have : (i = 0 ∧ j = 1) ∨ (i = 0 ∧ j = 2) ∨ (i = 1 ∧ j = 2) ∨ (i = 1 ∧ j = 0) ∨ (i = 2 ∧ j = 0) ∨ (i = 2 ∧ j = 1) := by omega
    rcases this with ⟨rfl, rfl⟩ | ⟨rfl, rfl⟩ | ⟨rfl, rfl⟩ | ⟨rfl, rfl⟩ | ⟨rfl, rfl⟩ | ⟨rfl, rfl⟩
    · exact n01 k hk
    · exact n02 k hk
    · exact n12 k hk
    · obtain ⟨k', e⟩ := bk; exact n01 k' e
    · obtain ⟨k', e⟩ := bk; exact n02 k' e
    · obtain ⟨k', e⟩ := bk; exact n12 k' e
  have hptinj : ∀ x ∈ List.range (3 * q), ∀ y ∈ List.range (3 * q), encQ p (pt x) = encQ p (pt y) → x = y := fun x hx y hy e => by
    rw [List.mem_range] at hx hy
    have e := enc_inj c hodd (hpt x) (hpt y) e
    have hdx : x / q < 3 := Nat.div_lt_of_lt_mul (by rw [Nat.mul_comm]; exact hx)
    have hdy : y / q < 3 := Nat.div_lt_of_lt_mul (by rw [Nat.mul_comm]; exact hy)
    have h1 := hcoset (x / q) (y / q) hdx hdy (hdiff _ _ _ _ (honP _) (honP _) e)
    have e : addQ p (mulQ p (x % q) G) (mulQ p (x / q) P) = addQ p (mulQ p (y % q) G) (mulQ p (y / q) P) := e
    rw [h1, add_comm c (hon _) (honP _), add_comm c (hon (y % q)) (honP _)] at e
    have h2 := hinj _ _ (Nat.mod_lt _ hq.pos) (Nat.mod_lt _ hq.pos) (add_cancel c (honP _) (hon _) (hon _) e)
    have e1 := Nat.div_add_mod x q
    have e2 := Nat.div_add_mod y q
    rw [← e1, ← e2, h1, h2]
  have hnd := nodup_map_of (f := fun k => encQ p (pt k)) List.nodup_range hptinj
  have hlen := length_of_sub (l2 := List.range (2 * p + 1)) hnd (fun x hx => by
    obtain ⟨k, _, rfl⟩ := List.mem_map.1 hx
    exact List.mem_range.2 (enc_lt (hpt k)))
  rw [List.length_map, List.length_range, List.length_range] at hlen
  omega
end Go.Proofs.Ytkedomfjjahjnaa

namespace Go.Proofs.Ytkedomfjjahjnaa
open Sx Go
theorem refMul_walk {p b : Nat} (c : Cur p b) (hp : Sm p) {k : Nat} (hk : k < 2 ^ 256) {P : Pt} (hP : OnQ p b (toQ P)) : ∀ n, n ≤ 256 →
    toQ (upto (refStep p k P) inftyP n) = mulQ p (k / 2 ^ (256 - n)) (toQ P)
  | 0, _ => by
    rw [Nat.sub_zero, Nat.div_eq_of_lt hk]
    rfl
  | n + 1, h => by
    have ih := refMul_walk c hp hk hP n (by omega)
    have ho := on_mul c hP (k / 2 ^ (256 - n))
    show toQ (refStep p k P n (upto (refStep p k P) inftyP n)) = _
    generalize upto (refStep p k P) inftyP n = Q at *
    have hQ : OnQ p b (toQ Q) := by rw [ih]; exact ho
    have d2 := sum_toQ c hp hQ hQ
    have e1 : 256 - n = (255 - n) + 1 := by omega
    have hd : k / 2 ^ (256 - n) = k / 2 ^ (255 - n) / 2 := by rw [e1, Nat.pow_succ, Nat.div_div_eq_div_mul]
    rw [show 256 - (n + 1) = 255 - n by omega]
    rw [hd] at ih ho
    unfold refStep
    cases hb : bitN k (255 - n)
    · have h0 := bitN_not hb
      simp only [cond_false]
      rw [d2, ih, ← mul_plus c hP]
      congr 1
      omega
    · have h0 : k / 2 ^ (255 - n) % 2 = 1 := Nat.eq_of_beq_eq_true hb
      simp only [cond_true]
      have d3 : OnQ p b (toQ (sumPt p Q Q)) := by rw [d2]; exact on_add c hQ hQ
      rw [sum_toQ c hp d3 hP, d2, ih, ← mul_plus c hP, add_comm c (on_mul c hP _) hP]
      show mulQ p (_ + 1) (toQ P) = _
      congr 1
      omega
theorem refMul_toQ {p b : Nat} (c : Cur p b) (hp : Sm p) {k : Nat} (hk : k < 2 ^ 256) {P : Pt} (hP : OnQ p b (toQ P)) : toQ (refMul p k P) = mulQ p k (toQ P) := by
  have h := refMul_walk c hp hk hP 256 (Nat.le_refl _)
  rw [Nat.sub_self, Nat.pow_zero, Nat.div_one] at h
  exact h
theorem onQ_of {p b x y : Nat} (hx : x < p) (hy : y < p) (h : Nat.beq (y * y % p) ((x * x * x + b) % p) = true) : OnQ p b (some (x, y)) := by
  refine ⟨hx, hy, ?_⟩
  have h := Nat.eq_of_beq_eq_true h
  obtain ⟨k, hk⟩ := md_c (p := p) (y * y)
  obtain ⟨m, hm⟩ := md_c (p := p) (x * x * x + b)
  rw [h] at hk
  rw [Int.natCast_mul] at hk
  rw [Int.natCast_add, Int.natCast_mul, Int.natCast_mul] at hm
  show (p : Int) ∣ (y : Int) * y - x * x * x - b
  generalize (((x * x * x + b) % p : Nat) : Int) = r at *
  refine ⟨m - k, ?_⟩
  rw [Int.mul_sub, ← hm, ← hk]
  omega
def ordB (p q : Nat) (x y : Elem) : Bool := zeroE (upto (mulStep p (ofN q) (widenP (x, y, false))) wide0 256).2.2
theorem ord_G {p b q : Nat} (c : Cur p b) (hp : Sm p) (hq : q < 115792089237316195423570985008687907853269984665640564039457584007913129639936) {x y : Elem} (hG : OnQ p b (some (x.nat, y.nat))) (h : ordB p q x y = true) : mulQ p q (some (x.nat, y.nat)) = none := by
  have hG' : OnQ p b (toQ (x, y, false)) := hG
  obtain ⟨h1, h2, h3⟩ := mul_walk c hp (ofN q) hG' (fun h => by cases h) 256 (Nat.le_refl _)
  have h4 := refMul_walk c hp (k := (ofN q).nat) (nat_lt _) hG' 256 (Nat.le_refl _)
  rw [nat_ofN hq, Nat.sub_self, Nat.pow_zero, Nat.div_one] at h4
  rw [nat_ofN hq] at h1
  have h4 : toQ (upto (refStep p q (x, y, false)) inftyP 256) = mulQ p q (some (x.nat, y.nat)) := h4
  rw [h4] at h1
  unfold ordB at h
  cases hm : mulQ p q (some (x.nat, y.nat)) with
  | none => rfl
  | some S =>
    rw [hm] at h1
    rw [zero_not h1.2.1] at h
    cases h
end Go.Proofs.Ytkedomfjjahjnaa

namespace Go.Proofs.Ytkedomfjjahjnaa
open Sx Go
theorem ord_all {p b q : Nat} (c : Cur p b) (hp : Sm p) (hodd : Nat.beq (p % 2) 1 = true) (hq : Pr q) (hq2 : Nat.beq (q % 2) 1 = true) (hqb : Nat.blt q 115792089237316195423570985008687907853269984665640564039457584007913129639936 = true) (h3 : Nat.blt (2 * p + 1) (3 * q) = true)
    {x y : Elem} (hx : Nat.blt x.nat p = true) (hy : Nat.blt y.nat p = true) (he : Nat.beq (y.nat * y.nat % p) ((x.nat * x.nat * x.nat + b) % p) = true) (h : ordB p q x y = true) {P : PtQ} (hP : OnQ p b P) : mulQ p q P = none := by
  have hG := onQ_of (blt_of hx) (blt_of hy) he
  exact all_order c (Nat.eq_of_beq_eq_true hodd) hq (Nat.eq_of_beq_eq_true hq2) (blt_of h3) hG (fun e => by cases e) (ord_G c hp (blt_of hqb) hG h) hP
theorem modS0 : pS 0 = 16513537 := by decide +kernel
theorem modS1 : pS 1 = 16521217 := by decide +kernel
theorem modS2 : pS 2 = 28948022309329048855892746252171976963363056481941560715954676764349967630337 := by decide +kernel
theorem modS3 : pS 3 = 28948022309329048855892746252171976963363056481941647379679742748393362948097 := by decide +kernel
theorem bcS0 : (bS 0).nat = 23 := by decide +kernel
theorem bcS1 : (bS 1).nat = 21 := by decide +kernel
theorem bcS2 : (bS 2).nat = 5 := by decide +kernel
theorem bcS3 : (bS 3).nat = 5 := by decide +kernel
theorem ordG0 : ordB 16513537 16521217 ⟨1, 0, 0, 0⟩ ⟨2487377, 0, 0, 0⟩ = true := by decide +kernel
theorem ordG1 : ordB 16521217 16513537 ⟨1, 0, 0, 0⟩ ⟨7286451, 0, 0, 0⟩ = true := by decide +kernel
theorem ordG2 : ordB 28948022309329048855892746252171976963363056481941560715954676764349967630337 28948022309329048855892746252171976963363056481941647379679742748393362948097
    (ofN 28948022309329048855892746252171976963363056481941560715954676764349967630336) ⟨2, 0, 0, 0⟩ = true := by decide +kernel
theorem ordG3 : ordB 28948022309329048855892746252171976963363056481941647379679742748393362948097 28948022309329048855892746252171976963363056481941560715954676764349967630337
    (ofN 28948022309329048855892746252171976963363056481941647379679742748393362948096) ⟨2, 0, 0, 0⟩ = true := by decide +kernel
theorem ord_of {s : Int} (hs : sortOk s = true) {P : PtQ} (hP : OnQ (pS s) (bS s).nat P) : mulQ (pS s) (pS (ixor s 1)) P = none := by
  have c := cur_of hs
  have hp : Sm (pS s) := pS_pos hs
  rcases sortOk_cases hs with rfl | rfl | rfl | rfl
  · rw [show ixor 0 1 = 1 by decide +kernel]
    rw [modS0, modS1, bcS0] at *
    exact ord_all c hp (by decide +kernel) pr_16521217 (by decide +kernel) (by decide +kernel) (by decide +kernel) (by decide +kernel) (by decide +kernel) (by decide +kernel) ordG0 hP
  · rw [show ixor 1 1 = 0 by decide +kernel]
    rw [modS0, modS1, bcS1] at *
    exact ord_all c hp (by decide +kernel) pr_16513537 (by decide +kernel) (by decide +kernel) (by decide +kernel) (by decide +kernel) (by decide +kernel) (by decide +kernel) ordG1 hP
  · rw [show ixor 2 1 = 3 by decide +kernel]
    rw [modS2, modS3, bcS2] at *
    exact ord_all c hp (by decide +kernel) pr_28948022309329048855892746252171976963363056481941647379679742748393362948097 (by decide +kernel) (by decide +kernel) (by decide +kernel) (by decide +kernel) (by decide +kernel) (by decide +kernel) ordG2 hP
  · rw [show ixor 3 1 = 2 by decide +kernel]
    rw [modS2, modS3, bcS3] at *
    exact ord_all c hp (by decide +kernel) pr_28948022309329048855892746252171976963363056481941560715954676764349967630337 (by decide +kernel) (by decide +kernel) (by decide +kernel) (by decide +kernel) (by decide +kernel) (by decide +kernel) ordG3 hP
end Go.Proofs.Ytkedomfjjahjnaa

namespace Go.Proofs.Ytkedomfjjahjnaa
open Sx Go
theorem onB_of {s : Int} {P : Pt} (hs : sortOk s = true) (h : OnQ (pS s) (bS s).nat (toQ P)) (hc : Can P) : onB s P = true := by
  have hp : Sm (pS s) := pS_pos hs
  obtain ⟨X, Y, i⟩ := P
  cases i
  · obtain ⟨hx, hy, hv⟩ := h
    have hx : X.nat < pS s := hx
    have hy : Y.nat < pS s := hy
    have hv : ((pS s : Nat) : Int) ∣ (Y.nat : Int) * Y.nat - X.nat * X.nat * X.nat - (bS s).nat := hv
    unfold onB
    rw [hs]
    have e1 : Nat.blt X.nat (pS s) = true := Nat.ble_eq_true_of_le hx
    have e2 : Nat.blt Y.nat (pS s) = true := Nat.ble_eq_true_of_le hy
    simp only [cond_true, cond_false, e1, e2]
    refine eqE_iff.2 (nat_inj (same_of (mulP_lt hp _ _) (addP_lt hp _ _) ?_))
    have c1 := mulP_c hp Y Y
    have c2 := mulP_c hp X X
    have c3 := mulP_c hp (mulP (pS s) X X) X
    have c4 := addP_c hp (mulP (pS s) (mulP (pS s) X X) X) (bS s)
    unfold cubeP
    exact cv_to c1 c4 c3 c2 hv
  · rw [hc rfl]
    unfold onB
    rw [hs]
    rfl
theorem can_on {s : Int} {P : Pt} (h : onB s P = true) : Can P := (onB_parts h).2.2
theorem can_inf : Can inftyP := fun _ => rfl
theorem addPt_on {s : Int} {P R : Pt} (hP : onB s P = true) (hR : onB s R = true) : toQ (addPt s P R) = addQ (pS s) (toQ P) (toQ R) ∧ onB s (addPt s P R) = true := by
  obtain ⟨hs, h1, h2⟩ := onB_parts hP
  obtain ⟨_, h3, h4⟩ := onB_parts hR
  have c := cur_of hs
  have hp : Sm (pS s) := pS_pos hs
  have e : addPt s P R = narrowP (pS s) (addW (pS s) (widenP P) (widenP R)) := by unfold addPt; rw [hP, hR]; rfl
  obtain ⟨n1, n2⟩ := narrow_rep c hp (on_add c h1 h3) (add_rep c hp h1 h3 (widen_rep c) (widen_rep c))
  rw [e]
  exact ⟨n1, onB_of hs (by rw [n1]; exact on_add c h1 h3) n2⟩
theorem addPt_off {s : Int} {P R : Pt} (h : onB s P = false ∨ onB s R = false) : addPt s P R = inftyP := by
  unfold addPt
  rcases h with h | h
  · rw [h]; rfl
  · rw [h]
    cases onB s P <;> rfl
theorem addPt_comm (s : Int) (P R : Pt) : addPt s P R = addPt s R P := by
  rcases (Bool.eq_false_or_eq_true (onB s P)).symm with h | h
  · rw [addPt_off (.inl h), addPt_off (.inr h)]
  · rcases (Bool.eq_false_or_eq_true (onB s R)).symm with h' | h'
    · rw [addPt_off (.inr h'), addPt_off (.inl h')]
    · obtain ⟨e1, o1⟩ := addPt_on h h'
      obtain ⟨e2, o2⟩ := addPt_on h' h
      obtain ⟨hs, h1, _⟩ := onB_parts h
      obtain ⟨_, h3, _⟩ := onB_parts h'
      exact can_same (can_on o1) (can_on o2) (by rw [e1, e2, add_comm (cur_of hs) h1 h3])
theorem addPt_assoc {s : Int} {P R T : Pt} (hP : onB s P = true) (hR : onB s R = true) (hT : onB s T = true) : addPt s (addPt s P R) T = addPt s P (addPt s R T) := by
  obtain ⟨e1, o1⟩ := addPt_on hP hR
  obtain ⟨e2, o2⟩ := addPt_on hR hT
  obtain ⟨e3, o3⟩ := addPt_on o1 hT
  obtain ⟨e4, o4⟩ := addPt_on hP o2
  obtain ⟨hs, h1, _⟩ := onB_parts hP
  obtain ⟨_, h2, _⟩ := onB_parts hR
  obtain ⟨_, h3, _⟩ := onB_parts hT
  exact can_same (can_on o3) (can_on o4) (by rw [e3, e4, e1, e2, add_assoc (cur_of hs) h1 h2 h3])
theorem infty_on {s : Int} (hs : sortOk s = true) : onB s inftyP = true := onB_of hs trivial can_inf
theorem addPt_inf {s : Int} {P : Pt} (hP : onB s P = true) : addPt s P inftyP = P := by
  obtain ⟨hs, h1, h2⟩ := onB_parts hP
  obtain ⟨e1, o1⟩ := addPt_on hP (infty_on hs)
  exact can_same (can_on o1) h2 (by rw [e1]; exact add_none _)
theorem negPt_on {s : Int} {P : Pt} (hP : onB s P = true) : toQ (negPt s P) = negQ (pS s) (toQ P) ∧ onB s (negPt s P) = true := by
  obtain ⟨hs, h1, h2⟩ := onB_parts hP
  have c := cur_of hs
  have hp : Sm (pS s) := pS_pos hs
  obtain ⟨X, Y, i⟩ := P
  cases i
  · have e : negPt s (X, Y, false) = (X, negP (pS s) Y, false) := by unfold negPt; rw [hP]; rfl
    rw [e]
    have hn : nm (pS s) (-(Y.nat : Int)) = (negP (pS s) Y).nat := nm_of (negP_lt hp Y) (negP_c hp Y)
    have ht : toQ (X, negP (pS s) Y, false) = negQ (pS s) (toQ (X, Y, false)) := by
      show some (X.nat, (negP (pS s) Y).nat) = some (X.nat, nm (pS s) (-(Y.nat : Int)))
      rw [hn]
    exact ⟨ht, onB_of hs (by rw [ht]; exact on_neg c h1) (fun h => by cases h)⟩
  · have e : negPt s (X, Y, true) = inftyP := by unfold negPt; rw [hP]; rfl
    rw [e]
    exact ⟨rfl, infty_on hs⟩
theorem addPt_neg {s : Int} {P : Pt} (hP : onB s P = true) : addPt s P (negPt s P) = inftyP := by
  obtain ⟨e1, o1⟩ := negPt_on hP
  obtain ⟨e2, o2⟩ := addPt_on hP o1
  obtain ⟨hs, h1, _⟩ := onB_parts hP
  exact can_same (can_on o2) can_inf (by rw [e2, e1, add_neg (cur_of hs) h1]; rfl)
theorem mulPt_on {s : Int} (k : Elem) {P : Pt} (hP : onB s P = true) : toQ (mulPt s k P) = mulQ (pS s) k.nat (toQ P) ∧ onB s (mulPt s k P) = true := by
  obtain ⟨hs, h1, h2⟩ := onB_parts hP
  have c := cur_of hs
  have hp : Sm (pS s) := pS_pos hs
  have hk : (ofP (pS (ixor s 1)) k).nat = k.nat % pS (ixor s 1) := rem_nat (pS_pos (sort_other hs))
  have e : mulPt s k P = refMul (pS s) (ofP (pS (ixor s 1)) k).nat P := by rw [mul_same]; unfold mulRef; rw [hP]; rfl
  have ht : toQ (mulPt s k P) = mulQ (pS s) k.nat (toQ P) := by
    rw [e, refMul_toQ c hp (nat_lt _) h1, hk, mul_mod c h1 (ord_of hs h1)]
  refine ⟨ht, onB_of hs (by rw [ht]; exact on_mul c h1 _) ?_⟩
  rw [e]
  exact (mul_walk c hp (ofP (pS (ixor s 1)) k) h1 h2 256 (Nat.le_refl _)).2.2
theorem mulPt_off {s : Int} (k : Elem) {P : Pt} (h : onB s P = false) : mulPt s k P = inftyP := by
  unfold mulPt
  rw [h]
  rfl
end Go.Proofs.Ytkedomfjjahjnaa

namespace Go.Proofs.Ytkedomfjjahjnaa
open Sx Go
def Gp {p b : Nat} (_ : Cur p b) : Type := { P : PtQ // OnQ p b P }
section
variable {p b : Nat} {c : Cur p b}
instance : Add (Gp c) := ⟨fun x y => ⟨addQ p x.1 y.1, on_add c x.2 y.2⟩⟩
instance : Zero (Gp c) := ⟨⟨none, trivial⟩⟩
instance : Neg (Gp c) := ⟨fun x => ⟨negQ p x.1, on_neg c x.2⟩⟩
instance : Std.Associative (α := Gp c) (· + ·) := ⟨fun x y z => Subtype.ext (add_assoc c x.2 y.2 z.2)⟩
instance : Std.Commutative (α := Gp c) (· + ·) := ⟨fun x y => Subtype.ext (add_comm c x.2 y.2)⟩
theorem g_comm (x y : Gp c) : x + y = y + x := Subtype.ext (add_comm c x.2 y.2)
theorem g_assoc (x y z : Gp c) : x + y + z = x + (y + z) := Subtype.ext (add_assoc c x.2 y.2 z.2)
theorem g_zero (x : Gp c) : x + 0 = x := Subtype.ext (add_none x.1)
theorem zero_g (x : Gp c) : 0 + x = x := Subtype.ext rfl
theorem g_neg (x : Gp c) : x + -x = 0 := Subtype.ext (add_neg c x.2)
def sm (n : Nat) (x : Gp c) : Gp c := ⟨mulQ p n x.1, on_mul c x.2 n⟩
theorem sm_zero (x : Gp c) : sm 0 x = 0 := rfl
theorem sm_one (x : Gp c) : sm 1 x = x := Subtype.ext (mul_one x.1)
theorem sm_succ (n : Nat) (x : Gp c) : sm (n + 1) x = x + sm n x := rfl
theorem sm_plus (m n : Nat) (x : Gp c) : sm (m + n) x = sm m x + sm n x := Subtype.ext (mul_plus c x.2 n m)
theorem sm_times (m n : Nat) (x : Gp c) : sm (m * n) x = sm m (sm n x) := Subtype.ext (mul_times c x.2 n m)
theorem sm_add (n : Nat) (x y : Gp c) : sm n (x + y) = sm n x + sm n y := Subtype.ext (mul_add c x.2 y.2 n)
theorem sm_none (n : Nat) : sm n (0 : Gp c) = 0 := Subtype.ext (mul_none n)
theorem sm_two (x : Gp c) : sm 2 x = x + x := by rw [sm_succ, sm_one]
theorem g_cancel {x y z : Gp c} (h : x + y = x + z) : y = z := Subtype.ext (add_cancel c x.2 y.2 z.2 (congrArg Subtype.val h))
def sumG : List (Nat × Gp c) → Gp c
  | [] => 0
  | t :: r => sm t.1 t.2 + sumG r
theorem sumG_append (l r : List (Nat × Gp c)) : sumG (l ++ r) = sumG l + sumG r := by
  induction l with
  | nil => exact (zero_g _).symm
  | cons t l ih =>
    show sm t.1 t.2 + sumG (l ++ r) = sm t.1 t.2 + sumG l + sumG r
    rw [ih, g_assoc]
theorem sumG_perm {l r : List (Nat × Gp c)} (h : l.Perm r) : sumG l = sumG r := by
  induction h with
  | nil => rfl
  | cons x _ ih => simp only [sumG, ih]
  | swap x y l => simp only [sumG]; ac_rfl
  | trans _ _ a b => exact a.trans b
theorem sumG_scale (k : Nat) (l : List (Nat × Gp c)) : sm k (sumG l) = sumG (l.map fun t => (t.1 * k, t.2)) := by
  induction l with
  | nil => exact sm_none k
  | cons t l ih =>
    show sm k (sm t.1 t.2 + sumG l) = sm (t.1 * k) t.2 + sumG _
    rw [sm_add, ih, ← sm_times, Nat.mul_comm k]
open Classical in
noncomputable def gp (c : Cur p b) (P : Pt) : Gp c := if h : OnQ p b (toQ P) then ⟨toQ P, h⟩ else 0
theorem gp_of (P : Pt) (h : OnQ p b (toQ P)) : gp c P = ⟨toQ P, h⟩ := dif_pos h
end
section
variable {s : Int} (hs : sortOk s = true)
theorem gp_inj {P R : Pt} (hP : onB s P = true) (hR : onB s R = true) (h : gp (cur_of hs) P = gp (cur_of hs) R) : P = R := by
  rw [gp_of P (onB_parts hP).2.1, gp_of R (onB_parts hR).2.1] at h
  exact can_same (can_on hP) (can_on hR) (congrArg Subtype.val h)
theorem gp_inf : gp (cur_of hs) inftyP = 0 := gp_of inftyP trivial
theorem gp_add {P R : Pt} (hP : onB s P = true) (hR : onB s R = true) : gp (cur_of hs) (addPt s P R) = gp (cur_of hs) P + gp (cur_of hs) R := by
  obtain ⟨e, o⟩ := addPt_on hP hR
  rw [gp_of P (onB_parts hP).2.1, gp_of R (onB_parts hR).2.1, gp_of _ (onB_parts o).2.1]
  exact Subtype.ext e
theorem gp_neg {P : Pt} (hP : onB s P = true) : gp (cur_of hs) (negPt s P) = -gp (cur_of hs) P := by
  obtain ⟨e, o⟩ := negPt_on hP
  rw [gp_of P (onB_parts hP).2.1, gp_of _ (onB_parts o).2.1]
  exact Subtype.ext e
theorem gp_mul (k : Elem) {P : Pt} (hP : onB s P = true) : gp (cur_of hs) (mulPt s k P) = sm k.nat (gp (cur_of hs) P) := by
  obtain ⟨e, o⟩ := mulPt_on k hP
  rw [gp_of P (onB_parts hP).2.1, gp_of _ (onB_parts o).2.1]
  exact Subtype.ext e
theorem g_order (x : Gp (cur_of hs)) : sm (pS (ixor s 1)) x = 0 := Subtype.ext (ord_of hs x.2)
theorem sm_mod (n : Nat) (x : Gp (cur_of hs)) : sm (n % pS (ixor s 1)) x = sm n x := Subtype.ext (mul_mod (cur_of hs) x.2 (ord_of hs x.2) n)
end
end Go.Proofs.Ytkedomfjjahjnaa

namespace Go.Proofs.Ytkedomfjjahjnaa
open Sx Go
theorem carry_K {x y c : UInt64} (hc : c.toNat ≤ 1) : addC x y c = x + y + c ∧ addK x y c = cond (decide (x + y < x) || decide (x + y + c < x + y)) 1 0 := by
  have hx := x.toNat_lt
  have hy := y.toNat_lt
  have e : addC x y c = x + y + c := by
    apply UInt64.toNat_inj.1
    unfold addC
    rw [UInt64.toNat_ofNat', UInt64.toNat_add, UInt64.toNat_add]
    omega
  refine ⟨e, ?_⟩
  have h := addC_step x y c
  rw [e] at h
  have hk := addK_le (x := x) (y := y) hc
  have h1 : (x + y).toNat = (x.toNat + y.toNat) % 18446744073709551616 := UInt64.toNat_add x y
  have h2 : (x + y + c).toNat = ((x + y).toNat + c.toNat) % 18446744073709551616 := UInt64.toNat_add _ c
  have d1 : decide (x + y < x) = decide ((x + y).toNat < x.toNat) := by simp only [UInt64.lt_iff_toNat_lt]
  have d2 : decide (x + y + c < x + y) = decide ((x + y + c).toNat < (x + y).toNat) := by simp only [UInt64.lt_iff_toNat_lt]
  rw [d1, d2]
  generalize (x + y + c).toNat = r at *
  generalize (x + y).toNat = t at *
  apply UInt64.toNat_inj.1
  generalize (addK x y c).toNat = k at *
  by_cases a1 : t < x.toNat
  · rw [decide_eq_true a1]
    show k = 1
    omega
  · by_cases a2 : r < t
    · rw [decide_eq_true a2, Bool.or_true]
      show k = 1
      omega
    · rw [decide_eq_false a1, decide_eq_false a2]
      show k = 0
      omega
def fourth (a : Elem) : Elem := ⟨a.w0, a.w1, a.w2, a.w3 / 4⟩
theorem word_more {x X B : Nat} (h : x < 18446744073709551616) (hX : X < B) : x + 18446744073709551616 * X < 18446744073709551616 * B := by omega
theorem fourth_lt (a : Elem) : (fourth a).nat < 28948022309329048855892746252171976963317496166410141009864396001978282409984 := by
  have e : (a.w3 / 4).toNat = a.w3.toNat / 4 := UInt64.toNat_div a.w3 4
  have h3 := a.w3.toNat_lt
  exact word_more a.w0.toNat_lt (word_more a.w1.toNat_lt (word_more a.w2.toNat_lt (show (a.w3 / 4).toNat < 4611686018427387904 by omega)))
theorem fourth_sum (a b : Elem) : (wsum (fourth a) (fourth b)).1.nat = (fourth a).nat + (fourth b).nat := by
  exact nat_ofN (Nat.lt_trans (Nat.add_lt_add (fourth_lt a) (fourth_lt b)) (by decide))
theorem counts_law {s : Int} {P : Pt} (hP : onB s P = true) {a b t : Elem} (ht : t.nat = a.nat + b.nat) :
    addPt s (mulPt s a P) (mulPt s b P) = mulPt s t P ∧ mulPt s a (mulPt s b P) = mulPt s b (mulPt s a P) ∧
      addPt s (mulPt s ⟨2, 0, 0, 0⟩ (mulPt s a P)) (negPt s (mulPt s a P)) = mulPt s a P := by
  have hs := onB_sort hP
  have oa := (mulPt_on a hP).2
  have ob := (mulPt_on b hP).2
  have oaa := (mulPt_on ⟨2, 0, 0, 0⟩ oa).2
  have on := (negPt_on oa).2
  refine ⟨gp_inj hs (addPt_on oa ob).2 (mulPt_on t hP).2 ?_, gp_inj hs (mulPt_on a ob).2 (mulPt_on b oa).2 ?_, gp_inj hs (addPt_on oaa on).2 oa ?_⟩
  · rw [gp_add hs oa ob, gp_mul hs a hP, gp_mul hs b hP, gp_mul hs t hP, ht, sm_plus]
  · rw [gp_mul hs a ob, gp_mul hs b oa, gp_mul hs a hP, gp_mul hs b hP, ← sm_times, ← sm_times, Nat.mul_comm]
  · rw [gp_add hs oaa on, gp_neg hs oa, gp_mul hs _ oa, show (Elem.mk 2 0 0 0).nat = 2 from two_nat, sm_two, g_assoc, g_neg, g_zero]
end Go.Proofs.Ytkedomfjjahjnaa

namespace Go.Proofs.Ytkedomfjjahjnaa
open Sx Go
set_option maxRecDepth 100000
def lcounts_S : FnSpec := ⟨[.val false .int, .val true .elem, .val true .elem, .val true (.prod .elem (.prod .elem .bool))], [], true, 0, false⟩
abbrev lcountsX : Type := ((Int) × (Elem) × (Elem) × ((Elem × (Elem × Bool))) × Unit) × (Unit)
def lcounts_s0 : Shape := ⟨105, [(0, .val false .int), (5, .ptr 0 0 0), (6, .ptr 1 0 0), (7, .ptr 2 0 0), (9, .ptr 3 0 0), (10, .val false .u64), (11, .val false .int)], [(0, .row .u64), (1, .row .u64), (2, .cells [.val false .u64, .val false .u64, .val false .u64, .val false .u64, .val false .u64, .val false .u64, .val false .u64, .val false .u64, .val false .bool]), (3, .row .u64)], 0, true⟩
abbrev lcounts_s0X : Type := ((Int) × (Unit) × (Unit) × (Unit) × (Unit) × (UInt64) × (Int) × Unit) × ((List (UInt64)) × (List (UInt64)) × ((UInt64) × (UInt64) × (UInt64) × (UInt64) × (UInt64) × (UInt64) × (UInt64) × (UInt64) × (Bool) × Unit) × (List (UInt64)) × Unit)
def lcounts_e0_0 : Shape := ⟨105, [(0, .val false .int), (5, .ptr 0 0 0), (6, .ptr 1 0 0), (7, .ptr 2 0 0), (9, .ptr 3 0 0)], [(0, .row .u64), (1, .row .u64), (2, .cells [.val false .u64, .val false .u64, .val false .u64, .val false .u64, .val false .u64, .val false .u64, .val false .u64, .val false .u64, .val false .bool]), (3, .row .u64)], 0, true⟩
abbrev lcounts_e0_0X : Type := ((Int) × (Unit) × (Unit) × (Unit) × (Unit) × Unit) × ((List (UInt64)) × (List (UInt64)) × ((UInt64) × (UInt64) × (UInt64) × (UInt64) × (UInt64) × (UInt64) × (UInt64) × (UInt64) × (Bool) × Unit) × (List (UInt64)) × Unit)
def lcounts_x0 : SE → Option Shape := xsMk [(0, lcounts_e0_0)] none
def lcounts_T0 (a0 : Int) (a10 : UInt64) (a11 : Int) (c0 : List (UInt64)) (c1 : List (UInt64)) (c2_0 : UInt64) (c2_1 : UInt64) (c2_2 : UInt64) (c2_3 : UInt64) (c2_4 : UInt64) (c2_5 : UInt64) (c2_6 : UInt64) (c2_7 : UInt64) (c2_8 : Bool) (c3 : List (UInt64)) : OT (Sum lcounts_s0X LEnd) :=
  let z0 : Bool := inB a11 4
  let z1 : Bool := decide (Int.toNat a11 + 0 < List.length c0)
  let z2 : UInt64 := List.getD c0 (Int.toNat a11 + 0) (0 : UInt64)
  let z3 : UInt64 := z2 + List.getD c1 (Int.toNat a11 + 0) (0 : UInt64)
  let z4 : Bool := inR (a11 + (1 : Int))
  let z5 : List UInt64 := List.set c3 (Int.toNat a11 + 0) (z3 + a10)
  (.br (decide (a11 < (4 : Int)))
  (gd [z0, z1, z0, decide (Int.toNat a11 + 0 < List.length c1), z0, decide (Int.toNat a11 + 0 < List.length c3), z0, z1] (.br (decide (z3 < z2))
    (gd [z4] (.ok (.inl ((a0, ((), ((), ((), ((), ((1 : UInt64), (a11 + (1 : Int), ()))))))), (c0, (c1, ((c2_0, (c2_1, (c2_2, (c2_3, (c2_4, (c2_5, (c2_6, (c2_7, (c2_8, ()))))))))), (z5, ()))))))))
    (gd [z0, decide (Int.toNat a11 + 0 < List.length z5)] (.br (decide (List.getD z5 (Int.toNat a11 + 0) (0 : UInt64) < z3))
      (gd [z4] (.ok (.inl ((a0, ((), ((), ((), ((), ((1 : UInt64), (a11 + (1 : Int), ()))))))), (c0, (c1, ((c2_0, (c2_1, (c2_2, (c2_3, (c2_4, (c2_5, (c2_6, (c2_7, (c2_8, ()))))))))), (z5, ()))))))))
      (gd [z4] (.ok (.inl ((a0, ((), ((), ((), ((), ((0 : UInt64), (a11 + (1 : Int), ()))))))), (c0, (c1, ((c2_0, (c2_1, (c2_2, (c2_3, (c2_4, (c2_5, (c2_6, (c2_7, (c2_8, ()))))))))), (z5, ()))))))))))))
  (.ok (.inr ⟨(.exit 0, lcounts_e0_0), ((a0, ((), ((), ((), ((), ()))))), (c0, (c1, ((c2_0, (c2_1, (c2_2, (c2_3, (c2_4, (c2_5, (c2_6, (c2_7, (c2_8, ()))))))))), (c3, ())))))⟩)))
def lcounts_U0 (s : lcounts_s0X) : OT (Sum lcounts_s0X LEnd) := lcounts_T0 (s.1.1) (s.1.2.2.2.2.2.1) (s.1.2.2.2.2.2.2.1) (s.2.1) (s.2.2.1) (s.2.2.2.1.1) (s.2.2.2.1.2.1) (s.2.2.2.1.2.2.1) (s.2.2.2.1.2.2.2.1) (s.2.2.2.1.2.2.2.2.1) (s.2.2.2.1.2.2.2.2.2.1) (s.2.2.2.1.2.2.2.2.2.2.1) (s.2.2.2.1.2.2.2.2.2.2.2.1) (s.2.2.2.1.2.2.2.2.2.2.2.2.1) (s.2.2.2.2.1)
theorem lcounts_q0 (s : lcounts_s0X) (Q : Sum lcounts_s0X LEnd → Prop) : wps te E_c4alive lamNil 1000 (loopOf (codeOf Try.f7) 0) (lcounts_s0.inj s) (stepK lcounts_s0 lcounts_x0 (Q : Sum lcounts_s0.T LEnd → Prop)) = (lcounts_U0 s).wpR Q := by kernel_rfl
def lcounts_f0 (g0_0 : lcounts_s0X → lcounts_e0_0X) (s : lcounts_s0X) : OT LEnd := (.ok ⟨(.exit 0, lcounts_e0_0), g0_0 s⟩)
def lcounts_o0 : OutSh := ⟨[.val false .bool], [], false⟩
def lcounts_sel : SV → Option OutSh := fun _ => some lcounts_o0
def lcounts_T (ok0 : lcounts_s0X → Bool) (g0_0 : lcounts_s0X → lcounts_e0_0X) (a0 : Int) (a1 : Elem) (a2 : Elem) (a3 : (Elem × (Elem × Bool))) : OT lcounts_S.Y :=
  let z0 : Elem × Elem × Bool := mulPt a0 a1 a3
  let z1 := z0.fst
  let z2 := z0.snd
  let z3 := z2.fst
  let z4 : (Int × PUnit × PUnit × PUnit × PUnit × UInt64 × Int × PUnit) × List UInt64 × List UInt64 × (UInt64 × UInt64 × UInt64 × UInt64 × UInt64 × UInt64 × UInt64 × UInt64 × Bool × PUnit) × List UInt64 × PUnit := ((a0, (), (), (), (), (0 : UInt64), (0 : Int), ()), [a1.w0, a1.w1, a1.w2, a1.w3 / (4 : UInt64)], [a2.w0, a2.w1, a2.w2, a2.w3 / (4 : UInt64)], (a3.fst.w0, a3.fst.w1, a3.fst.w2, a3.fst.w3, a3.snd.fst.w0, a3.snd.fst.w1, a3.snd.fst.w2, a3.snd.fst.w3, a3.snd.snd, ()), [(0 : UInt64), (0 : UInt64), (0 : UInt64), (0 : UInt64)], ())
  let z5 : (Int × PUnit × PUnit × PUnit × PUnit × PUnit) × List UInt64 × List UInt64 × (UInt64 × UInt64 × UInt64 × UInt64 × UInt64 × UInt64 × UInt64 × UInt64 × Bool × PUnit) × List UInt64 × PUnit := g0_0 z4
  let z6 := z5.snd
  let z7 := z6.fst
  let z8 : Bool := decide (4 ≤ List.length z7)
  let z9 := z6.snd
  let z10 := z9.fst
  let z11 : Bool := decide (4 ≤ List.length z10)
  let z12 := z9.snd
  let z13 := z12.snd.fst
  let z14 := z5.fst.fst
  let z15 : Elem := { w0 := List.getD z7 0 0, w1 := List.getD z7 1 0, w2 := List.getD z7 2 0, w3 := List.getD z7 3 0 }
  let z16 := z12.fst
  let z17 := z16.snd
  let z18 := z17.snd
  let z19 := z18.snd
  let z20 := z19.snd
  let z21 := z20.snd
  let z22 := z21.snd
  let z23 := z22.snd
  let z24 : Elem × Elem × Bool := ({ w0 := z16.fst, w1 := z17.fst, w2 := z18.fst, w3 := z19.fst }, { w0 := z20.fst, w1 := z21.fst, w2 := z22.fst, w3 := z23.fst }, z23.snd.fst)
  let z25 : Elem × Elem × Bool := mulPt z14 z15 z24
  let z26 : Elem := { w0 := List.getD z10 0 0, w1 := List.getD z10 1 0, w2 := List.getD z10 2 0, w3 := List.getD z10 3 0 }
  let z27 : Elem × Elem × Bool := mulPt z14 z26 z24
  let z28 : Elem × Elem × Bool := addPt z14 z25 z27
  let z29 := z28.fst
  let z30 : Elem × Elem × Bool := mulPt z14 { w0 := List.getD z13 0 0, w1 := List.getD z13 1 0, w2 := List.getD z13 2 0, w3 := List.getD z13 3 0 } z24
  let z31 := z30.fst
  let z32 := z28.snd
  let z33 := z32.fst
  let z34 := z30.snd
  let z35 := z34.fst
  let z36 : Elem × Elem × Bool := mulPt z14 z15 z27
  let z37 := z36.fst
  let z38 : Elem × Elem × Bool := mulPt z14 z26 z25
  let z39 := z38.fst
  let z40 := z36.snd
  let z41 := z40.fst
  let z42 := z38.snd
  let z43 := z42.fst
  let z44 : Elem × Elem × Bool := addPt z14 (mulPt z14 { w0 := 2, w1 := 0, w2 := 0, w3 := 0 } z25) (negPt z14 z25)
  let z45 := z44.fst
  let z46 := z25.fst
  let z47 := z44.snd
  let z48 := z47.fst
  let z49 := z25.snd
  let z50 := z49.fst
  (.br (!onB a0 a3)
  (.ok ⟨lcounts_o0, ((z1.w0 == (0 : UInt64) && (z1.w1 == (0 : UInt64) && (z1.w2 == (0 : UInt64) && (z1.w3 == (0 : UInt64) && true))) && (z3.w0 == (0 : UInt64) && (z3.w1 == (0 : UInt64) && (z3.w2 == (0 : UInt64) && (z3.w3 == (0 : UInt64) && true))) && (z2.snd == true && true)), ()), ())⟩)
  (gd [ok0 z4, z8, z11, decide (4 ≤ List.length z13)] (.br (z29.w0 == z31.w0 && (z29.w1 == z31.w1 && (z29.w2 == z31.w2 && (z29.w3 == z31.w3 && true))) && (z33.w0 == z35.w0 && (z33.w1 == z35.w1 && (z33.w2 == z35.w2 && (z33.w3 == z35.w3 && true))) && (z32.snd == z34.snd && true)))
    (gd [z8, z11] (.br (z37.w0 == z39.w0 && (z37.w1 == z39.w1 && (z37.w2 == z39.w2 && (z37.w3 == z39.w3 && true))) && (z41.w0 == z43.w0 && (z41.w1 == z43.w1 && (z41.w2 == z43.w2 && (z41.w3 == z43.w3 && true))) && (z40.snd == z42.snd && true)))
      (.ok ⟨lcounts_o0, ((z45.w0 == z46.w0 && (z45.w1 == z46.w1 && (z45.w2 == z46.w2 && (z45.w3 == z46.w3 && true))) && (z48.w0 == z50.w0 && (z48.w1 == z50.w1 && (z48.w2 == z50.w2 && (z48.w3 == z50.w3 && true))) && (z47.snd == z49.snd && true)), ()), ())⟩)
      (.ok ⟨lcounts_o0, ((false, ()), ())⟩)))
    (.ok ⟨lcounts_o0, ((false, ()), ())⟩))))
theorem lcounts_q (ok0 : lcounts_s0X → Bool) (g0_0 : lcounts_s0X → lcounts_e0_0X) (x : lcountsX) (Q : lcounts_S.Y → Prop) : wpf te E_c4alive (lamCons 0 (loopF lcounts_s0 0 ok0 (lcounts_f0 g0_0)) lamNil) 1000 Try.f7 (lcounts_S.inp.inj x).tm (lcounts_S.inp.inj x).hp (fnK lcounts_S lcounts_sel Q) (fun _ _ => False) = (lcounts_T ok0 g0_0 (x.1.1) (x.1.2.1) (x.1.2.2.1) (x.1.2.2.2.1)).wpR Q := by kernel_rfl
theorem lcounts_main (ok0 : lcounts_s0X → Bool) (g0_0 : lcounts_s0X → lcounts_e0_0X) (h0 : ∀ s : lcounts_s0X, ok0 s = true → ∃ m e, loopRun (lcounts_U0) m s = some e ∧ (lcounts_f0 g0_0 s).run = some e) (pre : lcountsX → Bool) (F : lcountsX → OT lcounts_S.Y) (hF : ∀ (x : lcountsX) oy, pre x = true → (F x).run = some oy → (lcounts_T ok0 g0_0 (x.1.1) (x.1.2.1) (x.1.2.2.1) (x.1.2.2.2.1)).run = some oy) : SummOk Try.prog 7 (lcounts_S.summ pre F) :=
  fn_tree te_ok E_c4alive_ok E_c4alive_any (f := 7) (fn := Try.f7) (c := codeOf Try.f7) (by kernel_rfl) (by kernel_rfl) (by kernel_rfl) (S := lcounts_S) (k := 0) (by kernel_rfl) (fun R hR => (lamOk_cons (c := (codeOf Try.f7)) (by kernel_rfl) (id := 0) (by kernel_rfl) (loop_ok te_ok E_c4alive_ok E_c4alive_any (sh := lcounts_s0) hR (xs := lcounts_x0) (xsMk_small (by kernel_rfl) (by kernel_rfl) hR) xsMk_pan lamOk_nil (n := 1000) (T := lcounts_U0) (fun s Q => lcounts_q0 s Q) (ok := ok0) (f := lcounts_f0 g0_0) h0) lamOk_nil)) (n := 1000) (sel := lcounts_sel) (fun v o h => by cases h; rfl) (pre := pre) (F := F) (T := fun x => lcounts_T ok0 g0_0 (x.1.1) (x.1.2.1) (x.1.2.2.1) (x.1.2.2.2.1)) (fun x Q => lcounts_q ok0 g0_0 x Q) hF
def lcounts_ok0 (s : lcounts_s0X) : Bool := decide (s.1.2.2.2.2.2.1 = 0 ∧ s.1.2.2.2.2.2.2.1 = 0 ∧ s.2.1.length = 4 ∧ s.2.2.1.length = 4 ∧ s.2.2.2.2.1 = [0, 0, 0, 0])
def lcounts_g0 (s : lcounts_s0X) : lcounts_e0_0X := ((s.1.1, (), (), (), (), ()), (s.2.1, s.2.2.1, s.2.2.2.1, (upto (addSt s.2.1 s.2.2.1) ([0, 0, 0, 0], 0) 4).1, ()))
theorem lcounts_h0 : ∀ s : lcounts_s0X, lcounts_ok0 s = true → ∃ m e, loopRun lcounts_U0 m s = some e ∧ (lcounts_f0 lcounts_g0 s).run = some e := by
  rintro ⟨⟨c, ⟨⟩, ⟨⟩, ⟨⟩, ⟨⟩, o, i, ⟨⟩⟩, ⟨a, b, ⟨p0, p1, p2, p3, p4, p5, p6, p7, p8, ⟨⟩⟩, t, ⟨⟩⟩⟩ h
  have h' := of_decide_eq_true h
  dsimp only at h'
  obtain ⟨rfl, rfl, h0, h1, rfl⟩ := h'
  have := (loop_upto (T := lcounts_U0) (fun k s => (((c, (), (), (), (), s.2, (k : Int), ()), (a, b, (p0, p1, p2, p3, p4, p5, p6, p7, p8, ()), s.1, ())) : lcounts_s0X)) (addSt a b)
    (fun s => (⟨(.exit 0, lcounts_e0_0), ((c, (), (), (), (), ()), (a, b, (p0, p1, p2, p3, p4, p5, p6, p7, p8, ()), s.1, ()))⟩ : LEnd)) 4 ([0, 0, 0, 0], 0) (fun _ s => s.1.length = 4 ∧ s.2.toNat ≤ 1) ⟨rfl, by decide⟩ (fun k s hk hs => ⟨?_, ?_⟩) (fun s hs => ?_)).1
  · obtain ⟨m, hm⟩ := this
    exact ⟨m, _, hm, rfl⟩
  · obtain ⟨t, o⟩ := s
    obtain ⟨hs1, hs2⟩ := hs
    have hs1 : t.length = 4 := hs1
    have hs2 : o.toNat ≤ 1 := hs2
    obtain ⟨e1, e2⟩ := carry_K (x := a.getD k 0) (y := b.getD k 0) hs2
    have hin : inB (k : Int) 4 = true := inB_of (by omega)
    have hr : inR ((k : Int) + 1) = true := inR_of (by omega)
    have d0 : decide (k < a.length) = true := decide_eq_true (by omega)
    have d1 : decide (k < b.length) = true := decide_eq_true (by omega)
    have d2 : decide (k < t.length) = true := decide_eq_true (by omega)
    have d3 : ∀ v : UInt64, decide (k < (t.set k v).length) = true := fun v => decide_eq_true (by rw [List.length_set]; omega)
    have gs : ∀ v : UInt64, (t.set k v).getD k 0 = v := fun v => by
      rw [List.getD_eq_getElem?_getD, List.getElem?_set_self (by omega)]
      rfl
    show (lcounts_T0 c o (k : Int) a b p0 p1 p2 p3 p4 p5 p6 p7 p8 t).run = some (.inl ((c, (), (), (), (), addK (a.getD k 0) (b.getD k 0) o, ((k + 1 : Nat) : Int), ()), (a, b, (p0, p1, p2, p3, p4, p5, p6, p7, p8, ()), t.set k (addC (a.getD k 0) (b.getD k 0) o), ())))
    unfold lcounts_T0
    simp only [Int.toNat_natCast, Nat.add_zero, hin, hr, d0, d1, d2, d3, gs]
    rw [e1, e2]
    refine (OT.run_t (decide_eq_true (by omega))).trans ((gd_run rfl).trans ?_)
    rcases (Bool.eq_false_or_eq_true (decide (a.getD k 0 + b.getD k 0 < a.getD k 0))).symm with g | g
    · rw [g]
      refine (OT.run_f rfl).trans ((gd_run rfl).trans ?_)
      rcases (Bool.eq_false_or_eq_true (decide (a.getD k 0 + b.getD k 0 + o < a.getD k 0 + b.getD k 0))).symm with g' | g'
      · rw [g']
        exact (OT.run_f rfl).trans ((gd_run rfl).trans rfl)
      · rw [g']
        exact (OT.run_t rfl).trans ((gd_run rfl).trans rfl)
    · rw [g]
      exact (OT.run_t rfl).trans ((gd_run rfl).trans rfl)
  · exact ⟨by simp only [addSt, List.length_set]; exact hs.1, addK_le hs.2⟩
  · exact OT.run_f (decide_eq_false (by dsimp only; omega))
def lcounts_eq (P R : Pt) : Bool := (P.1.w0 == R.1.w0 && (P.1.w1 == R.1.w1 && (P.1.w2 == R.1.w2 && (P.1.w3 == R.1.w3 && true))) && (P.2.1.w0 == R.2.1.w0 && (P.2.1.w1 == R.2.1.w1 && (P.2.1.w2 == R.2.1.w2 && (P.2.1.w3 == R.2.1.w3 && true))) && (P.2.2 == R.2.2 && true)))
theorem lcounts_same {P R : Pt} (h : P = R) : lcounts_eq P R = true := by
  rw [h]
  unfold lcounts_eq
  simp only [beq_self_eq_true, Bool.and_self]
def sumL (a b : Elem) : Elem :=
  let l := (upto (addSt [a.w0, a.w1, a.w2, a.w3 / 4] [b.w0, b.w1, b.w2, b.w3 / 4]) ([0, 0, 0, 0], 0) 4).1
  ⟨l.getD 0 0, l.getD 1 0, l.getD 2 0, l.getD 3 0⟩
theorem sumL_nat (a b : Elem) : (sumL a b).nat = (fourth a).nat + (fourth b).nat := by
  rw [← fourth_sum]
  obtain ⟨_, hw⟩ := wsum_words (fourth a) (fourth b)
  rw [hw]
  rfl
def lcounts_pre (_ : lcountsX) : Bool := true
def lcounts_F (_ : lcountsX) : OT lcounts_S.Y := .ok ⟨lcounts_o0, ((true, ()), ())⟩
theorem lcounts_ok : SummOk Try.prog 7 (lcounts_S.summ lcounts_pre lcounts_F) := lcounts_main lcounts_ok0 lcounts_g0 lcounts_h0 _ _ fun x oy hp ho => by
  rw [← ho]
  clear ho
  obtain ⟨⟨s, a, b, P, ⟨⟩⟩, ⟨⟩⟩ := x
  show (lcounts_T lcounts_ok0 lcounts_g0 s a b P).run = some ⟨lcounts_o0, ((true, ()), ())⟩
  rcases (Bool.eq_false_or_eq_true (onB s P)).symm with h | h
  · refine (OT.run_t (b := !onB s P) (by rw [h]; rfl)).trans ?_
    have f0 : lcounts_eq (mulPt s a P) inftyP = true := lcounts_same (mulPt_off a h)
    exact congrArg (fun b : Bool => some (⟨lcounts_o0, ((b, ()), ())⟩ : lcounts_S.Y)) f0
  · obtain ⟨e1, e2, e3⟩ := counts_law h (sumL_nat a b)
    have f1 := lcounts_same e1
    have f2 := lcounts_same e2
    have f3 := lcounts_same e3
    refine (OT.run_f (b := !onB s P) (by rw [h]; rfl)).trans ((gd_run (by kernel_rfl)).trans ((OT.run_t f1).trans ((gd_run (by kernel_rfl)).trans ((OT.run_t f2).trans ?_))))
    exact congrArg (fun b : Bool => some (⟨lcounts_o0, ((b, ()), ())⟩ : lcounts_S.Y)) f3
def lcounts_summ : Summ := (lcounts_S.summ lcounts_pre lcounts_F)
theorem lcounts_known : SummOk Try.prog 7 lcounts_summ := lcounts_ok
theorem lcounts_smono : MonoOk lcounts_summ := fn_mono
def E_lcounts : Env := envCons 7 lcounts_summ E_c4alive
theorem E_lcounts_ok : EnvOk Try.prog E_lcounts := envOk_cons lcounts_known E_c4alive_ok
theorem E_lcounts_mono : EnvMono E_lcounts := envMono_cons lcounts_smono E_c4alive_mono
theorem E_lcounts_any : AnyOk Try.prog te E_lcounts := any_ok follows te_ok E_lcounts_ok E_lcounts_mono
end Go.Proofs.Ytkedomfjjahjnaa
