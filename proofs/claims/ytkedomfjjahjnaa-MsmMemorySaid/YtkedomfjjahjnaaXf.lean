/- A symbolic machine for Go code over plain data, and functions of the program as it shows them. No statement is proved in this file. -/
import Derived.KernelRfl
import Derived.Test.YtkedomfjjahjnaaXe
set_option linter.unusedSimpArgs false
set_option linter.unusedVariables false
set_option linter.unusedSectionVars false
/- Plain laws of the curve's points, as divisibilities; printed by a program of this claim's own. No statement of a seat is proved here. -/
namespace Go.Proofs.Ytkedomfjjahjnaa
set_option maxRecDepth 100000

theorem thd_on_e (y3 x3 b y1 y2 x1 x2 l : Int) : (y3*y3-x3*x3*x3-b) = (y3 - x3*l + x1*l - y1) * (y3-(l*(x1-x3)-y1)) + (-x3*x3 + x3*x1 + x3*x2 - x1*l*l + x2*l*l - x1*x1 - 2*x1*x2 - x2*x2 + 2*y1*l) * (x3-(l*l-x1-x2)) + (-l*l*l + 2*x1*l + x2*l) * (l*(x1-x2)-(y1-y2)) + (l*l - 2*x1 - x2) * (l*(y1+y2)-(x1*x1+x1*x2+x2*x2)) + (1) * (y1*y1-x1*x1*x1-b) := by grind
/-- The third point is on the curve. -/
theorem thd_on {p y3 x3 b y1 y2 x1 x2 l : Int} (h0 : p ∣ y3-(l*(x1-x3)-y1)) (h1 : p ∣ x3-(l*l-x1-x2)) (h2 : p ∣ l*(x1-x2)-(y1-y2)) (h3 : p ∣ l*(y1+y2)-(x1*x1+x1*x2+x2*x2)) (h4 : p ∣ y1*y1-x1*x1*x1-b) : p ∣ (y3*y3-x3*x3*x3-b) := by
  rw [thd_on_e y3 x3 b y1 y2 x1 x2 l]
  exact (Int.dvd_add (Int.dvd_add (Int.dvd_add (Int.dvd_add (Int.dvd_trans h0 (Int.dvd_mul_left ..)) (Int.dvd_trans h1 (Int.dvd_mul_left ..))) (Int.dvd_trans h2 (Int.dvd_mul_left ..))) (Int.dvd_trans h3 (Int.dvd_mul_left ..))) (Int.dvd_trans h4 (Int.dvd_mul_left ..)))

theorem thd_sym_e (y3 x3 y1 y2 x1 x2 l : Int) : (y3-(l*(x2-x3)-y2)) = (1) * (y3-(l*(x1-x3)-y1)) + (1) * (l*(x1-x2)-(y1-y2)) := by grind
theorem thd_sym {p y3 x3 y1 y2 x1 x2 l : Int} (h0 : p ∣ y3-(l*(x1-x3)-y1)) (h1 : p ∣ l*(x1-x2)-(y1-y2)) : p ∣ (y3-(l*(x2-x3)-y2)) := by
  rw [thd_sym_e y3 x3 y1 y2 x1 x2 l]
  exact (Int.dvd_add (Int.dvd_trans h0 (Int.dvd_mul_left ..)) (Int.dvd_trans h1 (Int.dvd_mul_left ..)))

theorem back_b_e (y3 x3 y1 y2 x1 x2 l : Int) : ((-l)*((-y1)+y3)-(x1*x1+x1*x3+x3*x3)) = (-l) * (y3-(l*(x1-x3)-y1)) + (-x3 + x2) * (x3-(l*l-x1-x2)) + (-l) * (l*(x1-x2)-(y1-y2)) + (1) * (l*(y1+y2)-(x1*x1+x1*x2+x2*x2)) := by grind
theorem back_b {p y3 x3 y1 y2 x1 x2 l : Int} (h0 : p ∣ y3-(l*(x1-x3)-y1)) (h1 : p ∣ x3-(l*l-x1-x2)) (h2 : p ∣ l*(x1-x2)-(y1-y2)) (h3 : p ∣ l*(y1+y2)-(x1*x1+x1*x2+x2*x2)) : p ∣ ((-l)*((-y1)+y3)-(x1*x1+x1*x3+x3*x3)) := by
  rw [back_b_e y3 x3 y1 y2 x1 x2 l]
  exact (Int.dvd_add (Int.dvd_add (Int.dvd_add (Int.dvd_trans h0 (Int.dvd_mul_left ..)) (Int.dvd_trans h1 (Int.dvd_mul_left ..))) (Int.dvd_trans h2 (Int.dvd_mul_left ..))) (Int.dvd_trans h3 (Int.dvd_mul_left ..)))

theorem chord_b_e (b y1 y2 x1 x2 l : Int) : (x1-x2) * (l*(y1+y2)-(x1*x1+x1*x2+x2*x2)) = (1) * (y1*y1-x1*x1*x1-b) + (-1) * (y2*y2-x2*x2*x2-b) + (y1 + y2) * (l*(x1-x2)-(y1-y2)) := by grind
theorem chord_b {p b y1 y2 x1 x2 l : Int} (h0 : p ∣ y1*y1-x1*x1*x1-b) (h1 : p ∣ y2*y2-x2*x2*x2-b) (h2 : p ∣ l*(x1-x2)-(y1-y2)) : p ∣ (x1-x2) * (l*(y1+y2)-(x1*x1+x1*x2+x2*x2)) := by
  rw [chord_b_e b y1 y2 x1 x2 l]
  exact (Int.dvd_add (Int.dvd_add (Int.dvd_trans h0 (Int.dvd_mul_left ..)) (Int.dvd_trans h1 (Int.dvd_mul_left ..))) (Int.dvd_trans h2 (Int.dvd_mul_left ..)))

theorem ass_gx_e (x7 x5 yt xt ys xs y1 y3 L M l m x1 x3 y2 x2 : Int) : ((xs-x3)*(x1-xt)) * (x5-x7) = (-L*l*l - l*l*l - L*l*m - M*l*m - l*l*m - L*m*m + L*x1 - M*x1 + 2*l*x1 + 2*m*x1 + L*x3 - M*x3 + L*x2 - M*x2 + l*x2 + m*x2) * (l*(x1-x2)-(y1-y2)) + (-L*l*m - M*l*m - l*l*m - M*m*m - l*m*m - m*m*m - L*x1 + m*x1 - L*x3 + l*x3 + 2*m*x3 - L*x2 + 2*l*x2 + 3*m*x2 - 2*y2) * (m*(x2-x3)-(y2-y3)) + (x7*xt - x7*x1 - x5*xt + x5*x1 + L*L*m*m - L*L*x1 - L*l*x1 - l*l*x1 - L*m*x1 - l*m*x1 - m*m*x1 - L*L*x3 - m*m*x3 - L*L*x2 + L*l*x2 + l*l*x2 + L*m*x2 + l*m*x2 - m*m*x2 + x1*x1 + 2*x1*x3 + x3*x3 - 2*L*y2 - 2*l*y2 + 2*x1*x2 + 2*x3*x2 + x2*x2) * (xs-(l*l-x1-x2)) + (-L*m*m + l*m*m + L*x1 + m*x1 + L*x3 - l*x3 + L*x2 - 2*l*x2 - m*x2 + 2*y2) * (ys-(l*(x1-xs)-y1)) + (x7*l*l - x7*x1 - x7*x3 - x7*x2 - x5*l*l + x5*x1 + x5*x3 + x5*x2 - M*M*l*l + M*M*x1 + l*l*x1 + M*M*x3 + M*l*x3 + l*l*x3 + M*m*x3 + l*m*x3 + m*m*x3 + M*M*x2 - M*l*x2 + l*l*x2 - M*m*x2 - l*m*x2 - m*m*x2 - x1*x1 - 2*x1*x3 - x3*x3 + 2*M*y2 + 2*m*y2 - 2*x1*x2 - 2*x3*x2 - x2*x2) * (xt-(m*m-x2-x3)) + (M*l*l - l*l*m - M*x1 + m*x1 - M*x3 - l*x3 - M*x2 + l*x2 + 2*m*x2 - 2*y2) * (yt-(m*(x2-xt)-y2)) + (-l*l*m*m + l*l*x1 + m*m*x1 + l*l*x3 + m*m*x3 + l*l*x2 + m*m*x2 - x1*x1 - 2*x1*x3 - x3*x3 - 2*x1*x2 - 2*x3*x2 - x2*x2) * (x5-(L*L-xs-x3)) + (l*l*m*m - l*l*x1 - m*m*x1 - l*l*x3 - m*m*x3 - l*l*x2 - m*m*x2 + x1*x1 + 2*x1*x3 + x3*x3 + 2*x1*x2 + 2*x3*x2 + x2*x2) * (x7-(M*M-x1-xt)) + (-L*l - M*l - l*l - L*m - M*m - m*m + 2*x1 + 2*x3 + 2*x2) * (l*(y1+y2)-(x1*x1+x1*x2+x2*x2)) + (L*l + M*l + l*l + L*m + M*m + m*m - 2*x1 - 2*x3 - 2*x2) * (m*(y2+y3)-(x2*x2+x2*x3+x3*x3)) + (-L*m*m + l*m*m + L*x1 + m*x1 + L*x3 - l*x3 + L*x2 - 2*l*x2 - m*x2 + 2*y2) * (L*(xs-x3)-(ys-y3)) + (-M*l*l + l*l*m + M*x1 - m*x1 + M*x3 + l*x3 + M*x2 - l*x2 - 2*m*x2 + 2*y2) * (M*(x1-xt)-(y1-yt)) := by grind
theorem ass_gx {p x7 x5 yt xt ys xs y1 y3 L M l m x1 x3 y2 x2 : Int} (h0 : p ∣ l*(x1-x2)-(y1-y2)) (h1 : p ∣ m*(x2-x3)-(y2-y3)) (h2 : p ∣ xs-(l*l-x1-x2)) (h3 : p ∣ ys-(l*(x1-xs)-y1)) (h4 : p ∣ xt-(m*m-x2-x3)) (h5 : p ∣ yt-(m*(x2-xt)-y2)) (h6 : p ∣ x5-(L*L-xs-x3)) (h7 : p ∣ x7-(M*M-x1-xt)) (h8 : p ∣ l*(y1+y2)-(x1*x1+x1*x2+x2*x2)) (h9 : p ∣ m*(y2+y3)-(x2*x2+x2*x3+x3*x3)) (h10 : p ∣ L*(xs-x3)-(ys-y3)) (h11 : p ∣ M*(x1-xt)-(y1-yt)) : p ∣ ((xs-x3)*(x1-xt)) * (x5-x7) := by
  rw [ass_gx_e x7 x5 yt xt ys xs y1 y3 L M l m x1 x3 y2 x2]
  exact (Int.dvd_add (Int.dvd_add (Int.dvd_add (Int.dvd_add (Int.dvd_add (Int.dvd_add (Int.dvd_add (Int.dvd_add (Int.dvd_add (Int.dvd_add (Int.dvd_add (Int.dvd_trans h0 (Int.dvd_mul_left ..)) (Int.dvd_trans h1 (Int.dvd_mul_left ..))) (Int.dvd_trans h2 (Int.dvd_mul_left ..))) (Int.dvd_trans h3 (Int.dvd_mul_left ..))) (Int.dvd_trans h4 (Int.dvd_mul_left ..))) (Int.dvd_trans h5 (Int.dvd_mul_left ..))) (Int.dvd_trans h6 (Int.dvd_mul_left ..))) (Int.dvd_trans h7 (Int.dvd_mul_left ..))) (Int.dvd_trans h8 (Int.dvd_mul_left ..))) (Int.dvd_trans h9 (Int.dvd_mul_left ..))) (Int.dvd_trans h10 (Int.dvd_mul_left ..))) (Int.dvd_trans h11 (Int.dvd_mul_left ..)))

theorem ass_gy_e (y7 x7 y5 x5 yt xt ys xs y1 y3 L M l m x1 x3 y2 x2 : Int) : ((xs-x3)*(x1-xt)) * (y5-y7) = (-L*L*L*l + L*M*M*l - 2*L*L*l*l - L*M*l*l + M*M*l*l - M*l*l*l + l*l*l*l - L*L*l*m - L*M*l*m + M*M*l*m - 2*L*l*l*m - M*l*l*m - l*l*l*m + L*L*m*m - 3*L*l*m*m + M*l*m*m - 3*l*l*m*m - M*l*x1 - 2*l*l*x1 + L*m*x1 + l*m*x1 + 2*m*m*x1 - L*L*x3 + M*M*x3 + 2*L*l*x3 - 3*M*l*x3 + 3*l*l*x3 - L*m*x3 - 2*M*m*x3 + l*m*x3 - m*m*x3 - 2*L*L*x2 + 2*M*M*x2 + L*l*x2 - 2*M*l*x2 + 2*l*l*x2 - M*m*x2 - 2*l*m*x2 - 4*m*m*x2 + 2*x1*x1 + 2*x3*x3 + 6*m*y2 - x1*x2 + 5*x3*x2 + x2*x2) * (l*(x1-x2)-(y1-y2)) + (L*L*l*m - L*M*l*m - M*M*l*m - M*l*l*m - l*l*l*m - L*M*m*m - M*M*m*m - L*l*m*m - 2*M*l*m*m - 2*l*l*m*m - L*m*m*m - l*m*m*m + m*m*m*m + M*M*x1 - 2*L*l*x1 - M*l*x1 - 2*L*m*x1 - 2*M*m*x1 + 3*l*m*x1 + L*L*x3 - L*l*x3 - l*l*x3 - L*m*x3 - M*m*x3 + 2*L*L*x2 - M*M*x2 + M*l*x2 - 2*l*l*x2 + 3*x1*x3 - 2*L*y2 - 2*M*y2 + 2*m*y2 + 6*x1*x2 + 3*x2*x2) * (m*(x2-x3)-(y2-y3)) + (y7*xt - y7*x1 - y5*xt + y5*x1 - L*L*L*m*m + L*M*M*x1 - 2*L*L*l*x1 - L*M*l*x1 + M*M*l*x1 - M*l*l*x1 + l*l*l*x1 - L*L*m*x1 - L*M*m*x1 - 2*L*l*m*x1 - M*l*m*x1 - l*l*m*x1 - 2*L*m*m*x1 - 3*l*m*m*x1 + L*L*L*x3 + 2*L*m*m*x3 + l*m*m*x3 + 2*L*L*L*x2 - L*M*M*x2 + 2*L*L*l*x2 + L*M*l*x2 - M*M*l*x2 + M*l*l*x2 - l*l*l*x2 + L*L*m*x2 + L*M*m*x2 + 2*L*l*m*x2 + M*l*m*x2 + l*l*m*x2 + 3*L*m*m*x2 + 2*l*m*m*x2 - 2*L*x1*x1 - l*x1*x1 + 3*l*x1*x3 + m*x1*x3 - 2*L*x3*x3 - l*x3*x3 - 2*L*L*y2 - 2*L*M*y2 - 2*M*l*y2 + 2*l*l*y2 - 4*L*m*y2 + L*x1*x2 + 2*l*x1*x2 - m*x1*x2 - 5*L*x3*x2 - 4*l*x3*x2 - m*x3*x2 - L*x2*x2 - 5*l*x2*x2 - 5*m*x2*x2 + 2*x1*y2 + 4*x3*y2 + 6*y2*x2) * (xs-(l*l-x1-x2)) + (L*L*m*m - L*l*m*m - M*M*x1 + 2*L*l*x1 + M*l*x1 - l*l*x1 + L*m*x1 + M*m*x1 + l*m*x1 + 3*m*m*x1 - L*L*x3 + L*l*x3 - m*m*x3 - 2*L*L*x2 + M*M*x2 - M*l*x2 + l*l*x2 - L*m*x2 - M*m*x2 - l*m*x2 - 2*m*m*x2 + x1*x1 - x1*x3 + x3*x3 + 2*L*y2 + 2*M*y2 + 4*m*y2 - 4*x1*x2 + 2*x3*x2 - 2*x2*x2) * (ys-(l*(x1-xs)-y1)) + (y7*l*l - y7*x1 - y7*x3 - y7*x2 - y5*l*l + y5*x1 + y5*x3 + y5*x2 + M*M*M*l*l - M*M*M*x1 - M*l*l*x1 - M*M*M*x3 + L*M*l*x3 + M*M*l*x3 + M*l*l*x3 + L*M*m*x3 + M*M*m*x3 + L*l*m*x3 + 2*M*l*m*x3 + 2*l*l*m*x3 + L*m*m*x3 + l*m*m*x3 - m*m*m*x3 - M*M*M*x2 - L*M*l*x2 - M*M*l*x2 - 3*M*l*l*x2 - L*M*m*x2 - M*M*m*x2 - L*l*m*x2 - 2*M*l*m*x2 - 2*l*l*m*x2 - L*m*m*x2 - l*m*m*x2 + m*m*m*x2 + M*x1*x1 - L*x1*x3 + 3*M*x1*x3 - 2*l*x1*x3 + M*x3*x3 + 2*L*M*y2 + 2*M*M*y2 - 2*L*l*y2 + 6*M*l*y2 - 2*l*l*y2 + 2*L*m*y2 + 2*l*m*y2 - 2*m*m*y2 + L*x1*x2 + M*x1*x2 + 2*l*x1*x2 + L*x3*x2 + M*x3*x2 + 2*l*x3*x2 + 2*L*x2*x2 - M*x2*x2 + 7*l*x2*x2 + 3*m*x2*x2 - 2*x1*y2 - 4*x3*y2 - 6*y2*x2) * (xt-(m*m-x2-x3)) + (-M*M*l*l + M*l*l*m + M*M*x1 - M*m*x1 + M*M*x3 - L*l*x3 - M*l*x3 - 2*l*l*x3 - L*m*x3 - 2*M*m*x3 - l*m*x3 + m*m*x3 + M*M*x2 + L*l*x2 + M*l*x2 + 2*l*l*x2 + L*m*x2 + l*m*x2 - m*m*x2 - x1*x3 - 2*L*y2 - 2*M*y2 - 6*l*y2 + 2*m*y2 + x1*x2 + x3*x2 + 2*x2*x2) * (yt-(m*(x2-xt)-y2)) + (L*l*l*m*m - L*l*l*x1 - L*m*m*x1 - L*l*l*x3 - L*m*m*x3 - L*l*l*x2 - L*m*m*x2 + L*x1*x1 + L*x1*x3 - 2*l*x1*x3 - m*x1*x3 + L*x3*x3 - 2*L*l*y2 - 2*l*l*y2 - 4*l*m*y2 + 3*L*x1*x2 + 2*l*x1*x2 + m*x1*x2 + 3*L*x3*x2 + 2*l*x3*x2 + m*x3*x2 + 3*L*x2*x2 + 7*l*x2*x2 + 5*m*x2*x2 - 2*x1*y2 - 4*x3*y2 - 6*y2*x2) * (x5-(L*L-xs-x3)) + (-l*l*m*m + l*l*x1 + m*m*x1 + l*l*x3 + m*m*x3 + l*l*x2 + m*m*x2 - x1*x1 - 2*x1*x3 - x3*x3 - 2*x1*x2 - 2*x3*x2 - x2*x2) * (y5-(L*(xs-x5)-ys)) + (-M*l*l*m*m + M*l*l*x1 + M*m*m*x1 + M*l*l*x3 + M*m*m*x3 + M*l*l*x2 + M*m*m*x2 - M*x1*x1 + L*x1*x3 - 2*M*x1*x3 + 2*l*x1*x3 + m*x1*x3 - M*x3*x3 + 2*L*l*y2 + 2*l*l*y2 + 4*l*m*y2 - L*x1*x2 - 2*M*x1*x2 - 2*l*x1*x2 - m*x1*x2 - L*x3*x2 - 2*M*x3*x2 - 2*l*x3*x2 - m*x3*x2 - 2*L*x2*x2 - M*x2*x2 - 7*l*x2*x2 - 5*m*x2*x2 + 2*x1*y2 + 4*x3*y2 + 6*y2*x2) * (x7-(M*M-x1-xt)) + (l*l*m*m - l*l*x1 - m*m*x1 - l*l*x3 - m*m*x3 - l*l*x2 - m*m*x2 + x1*x1 + 2*x1*x3 + x3*x3 + 2*x1*x2 + 2*x3*x2 + x2*x2) * (y7-(M*(x1-x7)-y1)) + (-L*L*L + L*M*M - 2*L*L*l - L*M*l + 2*M*M*l - M*l*l + l*l*l - L*L*m - L*M*m + M*M*m - 2*L*l*m - 2*M*l*m - l*l*m - 2*L*m*m + M*m*m - 4*l*m*m - 2*L*x1 - 2*M*x1 + 2*L*x3 - 2*M*x3 + 6*l*x3 + 2*m*x3 - 2*M*x2 - 2*m*x2 + 6*y2) * (l*(y1+y2)-(x1*x1+x1*x2+x2*x2)) + (-L*L*l + L*M*l + M*M*l + M*l*l + l*l*l - L*L*m + L*M*m + M*M*m + 2*L*l*m + 2*M*l*m + 3*l*l*m + L*m*m + l*m*m - m*m*m + L*x1 + M*x1 - 4*l*x1 - 4*m*x1 + L*x3 + M*x3 + L*x2 + M*x2 + l*x2 + m*x2 - 6*y2) * (m*(y2+y3)-(x2*x2+x2*x3+x3*x3)) + (L*L*m*m - L*l*m*m - l*l*m*m - M*M*x1 + 2*L*l*x1 + M*l*x1 + L*m*x1 + M*m*x1 + l*m*x1 + 4*m*m*x1 - L*L*x3 + L*l*x3 + l*l*x3 - 2*L*L*x2 + M*M*x2 - M*l*x2 + 2*l*l*x2 - L*m*x2 - M*m*x2 - l*m*x2 - m*m*x2 - 3*x1*x3 + 2*L*y2 + 2*M*y2 + 4*m*y2 - 6*x1*x2 - 3*x2*x2) * (L*(xs-x3)-(ys-y3)) + (M*M*l*l - M*l*l*m - M*M*x1 + M*m*x1 - M*M*x3 + L*l*x3 + M*l*x3 + 2*l*l*x3 + L*m*x3 + 2*M*m*x3 + l*m*x3 - m*m*x3 - M*M*x2 - L*l*x2 - M*l*x2 - 2*l*l*x2 - L*m*x2 - l*m*x2 + m*m*x2 + x1*x3 + 2*L*y2 + 2*M*y2 + 6*l*y2 - 2*m*y2 - x1*x2 - x3*x2 - 2*x2*x2) * (M*(x1-xt)-(y1-yt)) + (L*x1*x3 + 2*l*x1*x3 + m*x1*x3 + 2*L*l*y2 + 2*l*l*y2 + 4*l*m*y2 - L*x1*x2 - 2*l*x1*x2 - m*x1*x2 - L*x3*x2 - 2*l*x3*x2 - m*x3*x2 - 2*L*x2*x2 - 7*l*x2*x2 - 5*m*x2*x2 + 2*x1*y2 + 4*x3*y2 + 6*y2*x2) * (x5-x7) := by grind
theorem ass_gy {p y7 x7 y5 x5 yt xt ys xs y1 y3 L M l m x1 x3 y2 x2 : Int} (h0 : p ∣ l*(x1-x2)-(y1-y2)) (h1 : p ∣ m*(x2-x3)-(y2-y3)) (h2 : p ∣ xs-(l*l-x1-x2)) (h3 : p ∣ ys-(l*(x1-xs)-y1)) (h4 : p ∣ xt-(m*m-x2-x3)) (h5 : p ∣ yt-(m*(x2-xt)-y2)) (h6 : p ∣ x5-(L*L-xs-x3)) (h7 : p ∣ y5-(L*(xs-x5)-ys)) (h8 : p ∣ x7-(M*M-x1-xt)) (h9 : p ∣ y7-(M*(x1-x7)-y1)) (h10 : p ∣ l*(y1+y2)-(x1*x1+x1*x2+x2*x2)) (h11 : p ∣ m*(y2+y3)-(x2*x2+x2*x3+x3*x3)) (h12 : p ∣ L*(xs-x3)-(ys-y3)) (h13 : p ∣ M*(x1-xt)-(y1-yt)) (h14 : p ∣ x5-x7) : p ∣ ((xs-x3)*(x1-xt)) * (y5-y7) := by
  rw [ass_gy_e y7 x7 y5 x5 yt xt ys xs y1 y3 L M l m x1 x3 y2 x2]
  exact (Int.dvd_add (Int.dvd_add (Int.dvd_add (Int.dvd_add (Int.dvd_add (Int.dvd_add (Int.dvd_add (Int.dvd_add (Int.dvd_add (Int.dvd_add (Int.dvd_add (Int.dvd_add (Int.dvd_add (Int.dvd_add (Int.dvd_trans h0 (Int.dvd_mul_left ..)) (Int.dvd_trans h1 (Int.dvd_mul_left ..))) (Int.dvd_trans h2 (Int.dvd_mul_left ..))) (Int.dvd_trans h3 (Int.dvd_mul_left ..))) (Int.dvd_trans h4 (Int.dvd_mul_left ..))) (Int.dvd_trans h5 (Int.dvd_mul_left ..))) (Int.dvd_trans h6 (Int.dvd_mul_left ..))) (Int.dvd_trans h7 (Int.dvd_mul_left ..))) (Int.dvd_trans h8 (Int.dvd_mul_left ..))) (Int.dvd_trans h9 (Int.dvd_mul_left ..))) (Int.dvd_trans h10 (Int.dvd_mul_left ..))) (Int.dvd_trans h11 (Int.dvd_mul_left ..))) (Int.dvd_trans h12 (Int.dvd_mul_left ..))) (Int.dvd_trans h13 (Int.dvd_mul_left ..))) (Int.dvd_trans h14 (Int.dvd_mul_left ..)))

theorem ass_1x_e (x7 x5 yt xt ys xs y1 y3 L M l m x1 x3 y2 x2 : Int) : 4 * (y2*y3) * (x5-x7) = (L*M*l*x3 + M*M*l*x3 - 2*L*l*l*x3 - 2*M*l*l*x3 + 2*L*M*m*x3 - L*l*m*x3 - 2*M*l*m*x3 + 2*l*l*m*x3 - M*m*m*x3 + l*m*m*x3 + m*m*m*x3 - L*M*l*x2 - M*M*l*x2 + 2*L*l*l*x2 + 2*M*l*l*x2 - 2*L*M*m*x2 + L*l*m*x2 + 2*M*l*m*x2 - 2*l*l*m*x2 + M*m*m*x2 - l*m*m*x2 - m*m*m*x2 + L*x1*x3 + M*x1*x3 + 3*L*x3*x3 - 5*m*x3*x3 - 2*M*M*y2 + 2*L*l*y2 - 2*l*l*y2 + 2*L*m*y2 + 2*M*m*y2 - 2*l*m*y2 - 4*m*m*y2 - L*x1*x2 - M*x1*x2 - L*x3*x2 - M*x3*x2 + 4*m*x3*x2 - 2*L*x2*x2 - 2*M*x2*x2 + 4*m*x2*x2 + 4*x1*y2 - 4*x3*y2) * (l*(x1-x2)-(y1-y2)) + (-4*x7*y2 + 4*x5*y2 + 2*L*M*l*x3 + M*l*l*x3 + L*M*m*x3 + M*M*m*x3 - M*l*m*x3 + l*l*m*x3 + L*m*m*x3 - M*m*m*x3 + l*m*m*x3 - 2*m*m*m*x3 - 2*L*M*l*x2 - M*l*l*x2 - L*M*m*x2 - M*M*m*x2 + M*l*m*x2 - l*l*m*x2 - L*m*m*x2 + M*m*m*x2 - l*m*m*x2 + 2*m*m*m*x2 - L*x1*x3 - M*x1*x3 - 2*L*x3*x3 + M*x3*x3 + 3*m*x3*x3 - 4*L*L*y2 + 2*M*M*y2 + 2*L*l*y2 + 2*l*l*y2 - 4*l*m*y2 - 2*m*m*y2 + L*x1*x2 + M*x1*x2 - L*x3*x2 - M*x3*x2 + 3*L*x2*x2 + 3*M*x2*x2 - 6*m*x2*x2 - 4*x1*y2 + 2*x3*y2 + 2*y2*x2) * (m*(x2-x3)-(y2-y3)) + (-xs*M*l*x3 - xs*M*m*x3 - xs*l*m*x3 - xs*m*m*x3 + xs*M*l*x2 + xs*M*m*x2 + xs*l*m*x2 + xs*m*m*x2 + 2*xs*L*y2 - 2*xs*l*y2 + L*M*x1*x3 + M*M*x1*x3 - 2*L*l*x1*x3 - M*l*x1*x3 - L*m*x1*x3 - 2*M*m*x1*x3 + 3*l*m*x1*x3 + m*m*x1*x3 - L*M*x1*x2 - M*M*x1*x2 + 2*L*l*x1*x2 + M*l*x1*x2 + L*m*x1*x2 + 2*M*m*x1*x2 - 3*l*m*x1*x2 - m*m*x1*x2 - L*M*x3*x2 - M*M*x3*x2 + 2*L*l*x3*x2 + 2*M*l*x3*x2 + L*m*x3*x2 + 3*M*m*x3*x2 - 2*l*m*x3*x2 + L*M*x2*x2 + M*M*x2*x2 - 2*L*l*x2*x2 - 2*M*l*x2*x2 - L*m*x2*x2 - 3*M*m*x2*x2 + 2*l*m*x2*x2 - 4*m*x1*y2 - 4*L*x3*y2 - 4*M*x3*y2 + 4*m*x3*y2 + 2*L*y2*x2 + 4*M*y2*x2 + 2*l*y2*x2 - 4*y2*y2) * (xs-(l*l-x1-x2)) + (-M*l*l*x3 + 2*L*M*m*x3 - l*l*m*x3 - M*m*m*x3 + m*m*m*x3 + M*l*l*x2 - 2*L*M*m*x2 + l*l*m*x2 + M*m*m*x2 - m*m*m*x2 + L*x1*x3 + M*x1*x3 + 2*L*x3*x3 - M*x3*x3 - 3*m*x3*x3 - 2*M*M*y2 + 2*L*l*y2 - 2*l*l*y2 + 2*L*m*y2 + 2*M*m*y2 + 2*l*m*y2 - 4*m*m*y2 - L*x1*x2 - M*x1*x2 + L*x3*x2 + M*x3*x2 - 3*L*x2*x2 - 3*M*x2*x2 + 6*m*x2*x2 + 4*x1*y2 - 2*x3*y2 - 2*y2*x2) * (ys-(l*(x1-xs)-y1)) + (-L*M*x3*x3 - M*M*x3*x3 - L*m*x3*x3 + M*m*x3*x3 + 2*m*m*x3*x3 + 2*L*M*x3*x2 + 2*M*M*x3*x2 + 2*L*m*x3*x2 - 2*M*m*x3*x2 - 4*m*m*x3*x2 - L*M*x2*x2 - M*M*x2*x2 - L*m*x2*x2 + M*m*x2*x2 + 2*m*m*x2*x2 + 2*M*x3*y2 + 6*m*x3*y2 - 2*M*y2*x2 - 6*m*y2*x2 + 4*y2*y2) * (xt-(m*m-x2-x3)) + (L*x3*x3 + M*x3*x3 - 2*m*x3*x3 - 2*L*x3*x2 - 2*M*x3*x2 + 4*m*x3*x2 + L*x2*x2 + M*x2*x2 - 2*m*x2*x2 - 2*x3*y2 + 2*y2*x2) * (yt-(m*(x2-xt)-y2)) + (4*m*x3*y2 - 4*m*y2*x2 + 4*y2*y2) * (x5-(L*L-xs-x3)) + (-4*m*x3*y2 + 4*m*y2*x2 - 4*y2*y2) * (x7-(M*M-x1-xt)) + (L*M*x3 + M*M*x3 - 2*L*l*x3 - M*l*x3 - L*m*x3 - 2*M*m*x3 + 3*l*m*x3 + m*m*x3 - L*M*x2 - M*M*x2 + 2*L*l*x2 + M*l*x2 + L*m*x2 + 2*M*m*x2 - 3*l*m*x2 - m*m*x2 - 4*m*y2) * (l*(y1+y2)-(x1*x1+x1*x2+x2*x2)) + (-L*M*x3 - M*M*x3 + 2*L*l*x3 + M*l*x3 + L*m*x3 + 2*M*m*x3 - l*m*x3 + m*m*x3 + L*M*x2 + M*M*x2 - 2*L*l*x2 - M*l*x2 - L*m*x2 - 2*M*m*x2 + l*m*x2 - m*m*x2 - 2*L*y2 - 2*M*y2 + 2*l*y2 + 6*m*y2) * (m*(y2+y3)-(x2*x2+x2*x3+x3*x3)) + (-L*M*l*x3 - M*l*l*x3 + L*M*m*x3 - L*l*m*x3 - l*l*m*x3 - L*m*m*x3 - M*m*m*x3 + m*m*m*x3 + L*M*l*x2 + M*l*l*x2 - L*M*m*x2 + L*l*m*x2 + l*l*m*x2 + L*m*m*x2 + M*m*m*x2 - m*m*m*x2 + L*x1*x3 + M*x1*x3 + 2*L*x3*x3 - M*x3*x3 - 3*m*x3*x3 + 2*L*L*y2 - 2*M*M*y2 - 2*l*l*y2 + 2*L*m*y2 + 2*M*m*y2 + 2*l*m*y2 - 4*m*m*y2 - L*x1*x2 - M*x1*x2 + L*x3*x2 + M*x3*x2 - 3*L*x2*x2 - 3*M*x2*x2 + 6*m*x2*x2 + 4*x1*y2 - 2*x3*y2 - 2*y2*x2) * (L*(xs-x3)-(ys-y3)) + (-M*l*x3 - M*m*x3 - l*m*x3 - m*m*x3 + M*l*x2 + M*m*x2 + l*m*x2 + m*m*x2 + 2*L*y2 - 2*l*y2) * (L*(ys+y3)-(xs*xs+xs*x3+x3*x3)) + (-L*x3*x3 - M*x3*x3 + 2*m*x3*x3 + 2*L*x3*x2 + 2*M*x3*x2 - 4*m*x3*x2 - L*x2*x2 - M*x2*x2 + 2*m*x2*x2 + 2*x3*y2 - 2*y2*x2) * (M*(x1-xt)-(y1-yt)) + (L*L*M*l*x3 + L*M*l*l*x3 - L*L*M*m*x3 + L*L*l*m*x3 - 2*L*M*l*m*x3 + L*l*l*m*x3 - M*l*l*m*x3 + L*L*m*m*x3 + L*M*m*m*x3 + M*l*m*m*x3 - l*l*m*m*x3 - L*m*m*m*x3 - l*m*m*m*x3 - L*L*M*l*x2 - L*M*l*l*x2 + L*L*M*m*x2 - L*L*l*m*x2 + 2*L*M*l*m*x2 - L*l*l*m*x2 + M*l*l*m*x2 - L*L*m*m*x2 - L*M*m*m*x2 - M*l*m*m*x2 + l*l*m*m*x2 + L*m*m*m*x2 + l*m*m*m*x2 - L*L*x1*x3 - 2*L*M*x1*x3 - M*M*x1*x3 + L*l*x1*x3 + M*l*x1*x3 + L*m*x1*x3 + 3*M*m*x1*x3 - 2*l*m*x1*x3 - 2*L*L*x3*x3 + L*M*x3*x3 - 2*L*l*x3*x3 + 3*L*m*x3*x3 - M*m*x3*x3 + 2*l*m*x3*x3 - m*m*x3*x3 - 2*L*L*L*y2 + 2*L*M*M*y2 + 2*M*M*l*y2 + 2*L*l*l*y2 - 2*L*L*m*y2 - 2*L*M*m*y2 - 4*L*l*m*y2 - 2*M*l*m*y2 - 2*l*l*m*y2 + 4*L*m*m*y2 + 4*l*m*m*y2 + L*L*x1*x2 + 2*L*M*x1*x2 + M*M*x1*x2 - L*l*x1*x2 - M*l*x1*x2 - L*m*x1*x2 - 3*M*m*x1*x2 + 2*l*m*x1*x2 - L*L*x3*x2 + M*M*x3*x2 - 3*L*l*x3*x2 - M*l*x3*x2 - L*m*x3*x2 - M*m*x3*x2 + 4*l*m*x3*x2 + 2*m*m*x3*x2 + 3*L*L*x2*x2 + 2*L*M*x2*x2 - M*M*x2*x2 + 5*L*l*x2*x2 + 4*M*l*x2*x2 - 5*L*m*x2*x2 + 2*M*m*x2*x2 - 9*l*m*x2*x2 - m*m*x2*x2 - 6*L*x1*y2 - 2*l*x1*y2 + 4*m*x1*y2 + 8*L*x3*y2 + 4*M*x3*y2 - 8*m*x3*y2 - 2*L*y2*x2 - 4*M*y2*x2 + 2*l*y2*x2 + 4*m*y2*x2) * (xs-x3) := by grind
theorem ass_1x {p x7 x5 yt xt ys xs y1 y3 L M l m x1 x3 y2 x2 : Int} (h0 : p ∣ l*(x1-x2)-(y1-y2)) (h1 : p ∣ m*(x2-x3)-(y2-y3)) (h2 : p ∣ xs-(l*l-x1-x2)) (h3 : p ∣ ys-(l*(x1-xs)-y1)) (h4 : p ∣ xt-(m*m-x2-x3)) (h5 : p ∣ yt-(m*(x2-xt)-y2)) (h6 : p ∣ x5-(L*L-xs-x3)) (h7 : p ∣ x7-(M*M-x1-xt)) (h8 : p ∣ l*(y1+y2)-(x1*x1+x1*x2+x2*x2)) (h9 : p ∣ m*(y2+y3)-(x2*x2+x2*x3+x3*x3)) (h10 : p ∣ L*(xs-x3)-(ys-y3)) (h11 : p ∣ L*(ys+y3)-(xs*xs+xs*x3+x3*x3)) (h12 : p ∣ M*(x1-xt)-(y1-yt)) (h13 : p ∣ xs-x3) : p ∣ 4 * (y2*y3) * (x5-x7) := by
  rw [ass_1x_e x7 x5 yt xt ys xs y1 y3 L M l m x1 x3 y2 x2]
  exact (Int.dvd_add (Int.dvd_add (Int.dvd_add (Int.dvd_add (Int.dvd_add (Int.dvd_add (Int.dvd_add (Int.dvd_add (Int.dvd_add (Int.dvd_add (Int.dvd_add (Int.dvd_add (Int.dvd_add (Int.dvd_trans h0 (Int.dvd_mul_left ..)) (Int.dvd_trans h1 (Int.dvd_mul_left ..))) (Int.dvd_trans h2 (Int.dvd_mul_left ..))) (Int.dvd_trans h3 (Int.dvd_mul_left ..))) (Int.dvd_trans h4 (Int.dvd_mul_left ..))) (Int.dvd_trans h5 (Int.dvd_mul_left ..))) (Int.dvd_trans h6 (Int.dvd_mul_left ..))) (Int.dvd_trans h7 (Int.dvd_mul_left ..))) (Int.dvd_trans h8 (Int.dvd_mul_left ..))) (Int.dvd_trans h9 (Int.dvd_mul_left ..))) (Int.dvd_trans h10 (Int.dvd_mul_left ..))) (Int.dvd_trans h11 (Int.dvd_mul_left ..))) (Int.dvd_trans h12 (Int.dvd_mul_left ..))) (Int.dvd_trans h13 (Int.dvd_mul_left ..)))

theorem ass_1y_e (y7 x7 y5 x5 yt xt ys xs y1 y3 L M l m x1 x3 y2 x2 : Int) : 4 * (y2*y3) * (y5-y7) = (-M*M*M*l*x3 + M*M*l*l*x3 + 2*L*M*l*m*x3 + 2*M*M*l*m*x3 - 4*L*l*l*m*x3 - 4*M*l*l*m*x3 + 4*L*M*m*m*x3 - 2*L*l*m*m*x3 - 2*M*l*m*m*x3 + 2*l*l*m*m*x3 - 2*M*m*m*m*x3 + 2*l*m*m*m*x3 + 2*m*m*m*m*x3 + M*M*M*l*x2 - M*M*l*l*x2 - 2*L*M*l*m*x2 - 2*M*M*l*m*x2 + 4*L*l*l*m*x2 + 4*M*l*l*m*x2 - 4*L*M*m*m*x2 + 2*L*l*m*m*x2 + 2*M*l*m*m*x2 - 2*l*l*m*m*x2 + 2*M*m*m*m*x2 - 2*l*m*m*m*x2 - 2*m*m*m*m*x2 + 2*L*m*x1*x3 + 2*M*m*x1*x3 - M*M*x3*x3 - 2*M*l*x3*x3 + 2*l*l*x3*x3 + 6*L*m*x3*x3 - 8*m*m*x3*x3 + 2*M*M*M*y2 + 2*L*M*l*y2 + 4*L*l*l*y2 + 4*L*M*m*y2 - 2*M*M*m*y2 + 6*L*l*m*y2 - 2*M*l*m*y2 - 4*l*l*m*y2 + 8*L*m*m*y2 - 2*M*m*m*y2 - 6*l*m*m*y2 - 8*m*m*m*y2 - 2*L*m*x1*x2 - 2*M*m*x1*x2 + 2*M*M*x3*x2 + M*l*x3*x2 - l*l*x3*x2 - 2*L*m*x3*x2 - 2*M*m*x3*x2 + 4*m*m*x3*x2 + 2*M*M*x2*x2 + 4*M*l*x2*x2 - l*l*x2*x2 - 4*L*m*x2*x2 - 4*M*m*x2*x2 + 3*l*m*x2*x2 + 4*m*m*x2*x2 - 2*x3*x3*x3 - 6*L*x1*y2 - 2*M*x1*y2 + 6*m*x1*y2 - 2*L*x3*y2 + 4*M*x3*y2 + 2*l*x3*y2 - 2*m*x3*y2 + 3*x3*x3*x2 - 4*L*y2*x2 + 4*M*y2*x2 - 2*l*y2*x2 + 8*m*y2*x2 - 3*x1*x2*x2 + 9*x3*x2*x2 + 2*x2*x2*x2 - 4*y2*y2) * (l*(x1-x2)-(y1-y2)) + (-4*y7*y2 + 4*y5*y2 - M*M*M*m*x3 + 4*L*M*l*m*x3 + 2*M*l*l*m*x3 + 2*L*M*m*m*x3 + M*M*m*m*x3 - 2*M*l*m*m*x3 + 2*l*l*m*m*x3 + 2*L*m*m*m*x3 + 2*l*m*m*m*x3 - 2*m*m*m*m*x3 + M*M*M*m*x2 - 4*L*M*l*m*x2 - 2*M*l*l*m*x2 - 2*L*M*m*m*x2 - M*M*m*m*x2 + 2*M*l*m*m*x2 - 2*l*l*m*m*x2 - 2*L*m*m*m*x2 - 2*l*m*m*m*x2 + 2*m*m*m*m*x2 - 2*L*m*x1*x3 - 2*M*m*x1*x3 - 4*L*m*x3*x3 + 4*m*m*x3*x3 + 4*L*M*M*y2 - 2*M*M*M*y2 + 4*L*M*l*y2 + 2*M*M*l*y2 + 2*M*l*l*y2 + 2*L*M*m*y2 + 8*L*l*m*y2 - 2*M*l*m*y2 + 2*l*l*m*y2 - 2*L*m*m*y2 + 4*M*m*m*y2 - 8*l*m*m*y2 + 2*m*m*m*y2 + 2*L*m*x1*x2 + 2*M*m*x1*x2 - 2*L*m*x3*x2 - M*m*x3*x2 + m*m*x3*x2 - 3*M*M*x2*x2 + 6*L*m*x2*x2 + 10*M*m*x2*x2 - 2*m*m*x2*x2 - 2*L*x1*y2 + 2*M*x1*y2 - 4*l*x1*y2 - 4*m*x1*y2 + 8*L*x3*y2 - 2*M*x3*y2 + 2*l*x3*y2 - 12*m*x3*y2 + 6*L*y2*x2 - 6*M*y2*x2 + 2*l*y2*x2 - 2*m*y2*x2 + 3*x1*x2*x2 - 6*x3*x2*x2 - 6*x2*x2*x2) * (m*(x2-x3)-(y2-y3)) + (-2*xs*M*l*m*x3 - 2*xs*M*m*m*x3 - 2*xs*l*m*m*x3 - 2*xs*m*m*m*x3 + 2*xs*M*l*m*x2 + 2*xs*M*m*m*x2 + 2*xs*l*m*m*x2 + 2*xs*m*m*m*x2 - 2*xs*M*M*y2 - 2*xs*M*l*y2 - 2*xs*M*m*y2 - 2*xs*l*m*y2 + 4*xs*x1*y2 - 2*xs*x3*y2 - 2*xs*y2*x2 - M*M*M*x1*x3 + M*M*l*x1*x3 + 2*L*M*m*x1*x3 + 2*M*M*m*x1*x3 - 4*L*l*m*x1*x3 - 2*M*l*m*x1*x3 - 2*L*m*m*x1*x3 - 2*M*m*m*x1*x3 + 4*l*m*m*x1*x3 + 2*m*m*m*x1*x3 + M*M*M*x1*x2 - M*M*l*x1*x2 - 2*L*M*m*x1*x2 - 2*M*M*m*x1*x2 + 4*L*l*m*x1*x2 + 2*M*l*m*x1*x2 + 2*L*m*m*x1*x2 + 2*M*m*m*x1*x2 - 4*l*m*m*x1*x2 - 2*m*m*m*x1*x2 + M*M*M*x3*x2 - M*M*l*x3*x2 - 2*L*M*m*x3*x2 - 2*M*M*m*x3*x2 + 4*L*l*m*x3*x2 + 4*M*l*m*x3*x2 + 2*L*m*m*x3*x2 + 4*M*m*m*x3*x2 - 2*l*m*m*x3*x2 - M*M*M*x2*x2 + M*M*l*x2*x2 + 2*L*M*m*x2*x2 + 2*M*M*m*x2*x2 - 4*L*l*m*x2*x2 - 4*M*l*m*x2*x2 - 2*L*m*m*x2*x2 - 4*M*m*m*x2*x2 + 2*l*m*m*x2*x2 - 2*M*x1*x3*x3 + 2*l*x1*x3*x3 + 2*L*M*x1*y2 + 2*M*M*x1*y2 + 4*L*l*x1*y2 + 2*M*l*x1*y2 + 6*L*m*x1*y2 - 2*M*m*x1*y2 - 2*l*m*x1*y2 - 8*m*m*x1*y2 + 2*M*M*x3*y2 - 8*L*m*x3*y2 - 8*M*m*x3*y2 + 4*m*m*x3*y2 + M*x1*x3*x2 - l*x1*x3*x2 + 2*M*x3*x3*x2 - 2*l*x3*x3*x2 - 2*L*M*y2*x2 - 2*M*M*y2*x2 - 4*L*l*y2*x2 + 2*L*m*y2*x2 + 12*M*m*y2*x2 + 4*l*m*y2*x2 + 4*m*m*y2*x2 + 4*M*x1*x2*x2 - l*x1*x2*x2 + 3*m*x1*x2*x2 - M*x3*x2*x2 + l*x3*x2*x2 - 4*M*x2*x2*x2 + l*x2*x2*x2 - 3*m*x2*x2*x2 - 4*x1*x1*y2 + 4*x1*x3*y2 + 4*x3*x3*y2 + 8*L*y2*y2 - 8*m*y2*y2 - 4*x3*y2*x2) * (xs-(l*l-x1-x2)) + (-2*M*l*l*m*x3 + 4*L*M*m*m*x3 - 2*l*l*m*m*x3 - 2*M*m*m*m*x3 + 2*m*m*m*m*x3 + 2*M*l*l*m*x2 - 4*L*M*m*m*x2 + 2*l*l*m*m*x2 + 2*M*m*m*m*x2 - 2*m*m*m*m*x2 + 2*L*m*x1*x3 + 2*M*m*x1*x3 + 4*L*m*x3*x3 - 2*M*m*x3*x3 - 6*m*m*x3*x3 + 2*M*M*M*y2 - 2*M*M*l*y2 - 2*M*l*l*y2 + 4*L*M*m*y2 - 2*M*M*m*y2 - 2*l*l*m*y2 + 8*L*m*m*y2 - 2*M*m*m*y2 + 2*l*m*m*y2 - 8*m*m*m*y2 - 2*L*m*x1*x2 - 2*M*m*x1*x2 + 2*L*m*x3*x2 + 2*M*m*x3*x2 + 3*M*M*x2*x2 - 6*L*m*x2*x2 - 6*M*m*x2*x2 + 6*m*m*x2*x2 - 6*L*x1*y2 - 2*M*x1*y2 + 4*l*x1*y2 + 6*m*x1*y2 - 4*L*x3*y2 + 2*M*x3*y2 - 2*l*x3*y2 + 4*m*x3*y2 - 2*L*y2*x2 + 6*M*y2*x2 - 2*l*y2*x2 + 2*m*y2*x2 - 3*x1*x2*x2 + 6*x3*x2*x2 + 6*x2*x2*x2 - 4*y2*y2) * (ys-(l*(x1-xs)-y1)) + (M*M*M*x3*x3 - 2*L*M*m*x3*x3 - M*M*m*x3*x3 - 2*L*m*m*x3*x3 + 2*m*m*m*x3*x3 - 2*M*M*M*x3*x2 + 4*L*M*m*x3*x2 + 2*M*M*m*x3*x2 + 4*L*m*m*x3*x2 - 4*m*m*m*x3*x2 + M*M*M*x2*x2 - 2*L*M*m*x2*x2 - M*M*m*x2*x2 - 2*L*m*m*x2*x2 + 2*m*m*m*x2*x2 + 2*M*x3*x3*x3 + 2*m*x3*x3*x3 - 2*L*M*x3*y2 - 2*M*M*x3*y2 + 2*L*m*x3*y2 - 4*M*m*x3*y2 + 2*m*m*x3*y2 - 3*M*x3*x3*x2 - 3*m*x3*x3*x2 + 2*L*M*y2*x2 + 2*M*M*y2*x2 - 2*L*m*y2*x2 + 4*M*m*y2*x2 - 2*m*m*y2*x2 - 3*M*x3*x2*x2 - 3*m*x3*x2*x2 + 4*M*x2*x2*x2 + 4*m*x2*x2*x2 + 4*L*y2*y2 - 8*M*y2*y2 - 4*m*y2*y2) * (xt-(m*m-x2-x3)) + (-M*M*x3*x3 + 2*L*m*x3*x3 + 2*M*m*x3*x3 - 2*m*m*x3*x3 + 2*M*M*x3*x2 - 4*L*m*x3*x2 - 4*M*m*x3*x2 + 4*m*m*x3*x2 - M*M*x2*x2 + 2*L*m*x2*x2 + 2*M*m*x2*x2 - 2*m*m*x2*x2 - 2*x3*x3*x3 + 2*L*x3*y2 + 2*M*x3*y2 - 2*m*x3*y2 + 3*x3*x3*x2 - 2*L*y2*x2 - 2*M*y2*x2 + 2*m*y2*x2 + 3*x3*x2*x2 - 4*x2*x2*x2 + 4*y2*y2) * (yt-(m*(x2-xt)-y2)) + (4*m*x3*y2 - 4*m*y2*x2 + 4*y2*y2) * (y5-(L*(xs-x5)-ys)) + (-4*L*m*x3*y2 + 4*M*m*x3*y2 + 4*L*m*y2*x2 - 4*M*m*y2*x2 - 4*L*y2*y2 + 4*M*y2*y2) * (x7-(M*M-x1-xt)) + (-4*m*x3*y2 + 4*m*y2*x2 - 4*y2*y2) * (y7-(M*(x1-x7)-y1)) + (-M*M*M*x3 + M*M*l*x3 + 2*L*M*m*x3 + 2*M*M*m*x3 - 4*L*l*m*x3 - 2*M*l*m*x3 - 2*L*m*m*x3 - 2*M*m*m*x3 + 4*l*m*m*x3 + 2*m*m*m*x3 + M*M*M*x2 - M*M*l*x2 - 2*L*M*m*x2 - 2*M*M*m*x2 + 4*L*l*m*x2 + 2*M*l*m*x2 + 2*L*m*m*x2 + 2*M*m*m*x2 - 4*l*m*m*x2 - 2*m*m*m*x2 - 2*M*x3*x3 + 2*l*x3*x3 + 2*L*M*y2 + 2*M*M*y2 + 4*L*l*y2 + 2*M*l*y2 + 6*L*m*y2 - 2*M*m*y2 - 2*l*m*y2 - 8*m*m*y2 + M*x3*x2 - l*x3*x2 + 4*M*x2*x2 - l*x2*x2 + 3*m*x2*x2 - 4*x1*y2 + 4*x3*y2) * (l*(y1+y2)-(x1*x1+x1*x2+x2*x2)) + (M*M*M*x3 - 2*L*M*m*x3 - M*M*m*x3 + 4*L*l*m*x3 + 2*M*l*m*x3 + 2*L*m*m*x3 + 2*M*m*m*x3 - 2*l*m*m*x3 - M*M*M*x2 + 2*L*M*m*x2 + M*M*m*x2 - 4*L*l*m*x2 - 2*M*l*m*x2 - 2*L*m*m*x2 - 2*M*m*m*x2 + 2*l*m*m*x2 + 2*M*x3*x3 + 2*m*x3*x3 - 2*L*M*y2 + 2*M*M*y2 - 4*L*l*y2 + 2*M*l*y2 - 6*L*m*y2 - 2*M*m*y2 + 6*l*m*y2 + 6*m*m*y2 - M*x3*x2 - m*x3*x2 - 4*M*x2*x2 - 4*m*x2*x2 - 2*x1*y2 + 4*x3*y2 + 4*y2*x2) * (m*(y2+y3)-(x2*x2+x2*x3+x3*x3)) + (-2*L*M*l*m*x3 - 2*M*l*l*m*x3 + 2*L*M*m*m*x3 - 2*L*l*m*m*x3 - 2*l*l*m*m*x3 - 2*L*m*m*m*x3 - 2*M*m*m*m*x3 + 2*m*m*m*m*x3 + 2*L*M*l*m*x2 + 2*M*l*l*m*x2 - 2*L*M*m*m*x2 + 2*L*l*m*m*x2 + 2*l*l*m*m*x2 + 2*L*m*m*m*x2 + 2*M*m*m*m*x2 - 2*m*m*m*m*x2 + 2*L*m*x1*x3 + 2*M*m*x1*x3 + 4*L*m*x3*x3 - 2*M*m*x3*x3 - 6*m*m*x3*x3 - 2*L*M*M*y2 + 2*M*M*M*y2 - 2*L*M*l*y2 - 2*M*M*l*y2 - 2*M*l*l*y2 + 2*L*M*m*y2 - 2*M*M*m*y2 - 2*L*l*m*y2 - 2*l*l*m*y2 + 8*L*m*m*y2 - 2*M*m*m*y2 + 2*l*m*m*y2 - 8*m*m*m*y2 - 2*L*m*x1*x2 - 2*M*m*x1*x2 + 2*L*m*x3*x2 + 2*M*m*x3*x2 + 3*M*M*x2*x2 - 6*L*m*x2*x2 - 6*M*m*x2*x2 + 6*m*m*x2*x2 - 2*L*x1*y2 - 2*M*x1*y2 + 4*l*x1*y2 + 6*m*x1*y2 - 6*L*x3*y2 + 2*M*x3*y2 - 2*l*x3*y2 + 8*m*x3*y2 - 4*L*y2*x2 + 6*M*y2*x2 - 2*l*y2*x2 - 2*m*y2*x2 - 3*x1*x2*x2 + 6*x3*x2*x2 + 6*x2*x2*x2) * (L*(xs-x3)-(ys-y3)) + (-2*M*l*m*x3 - 2*M*m*m*x3 - 2*l*m*m*x3 - 2*m*m*m*x3 + 2*M*l*m*x2 + 2*M*m*m*x2 + 2*l*m*m*x2 + 2*m*m*m*x2 - 2*M*M*y2 - 2*M*l*y2 - 2*M*m*y2 - 2*l*m*y2 + 4*x1*y2 - 2*x3*y2 - 2*y2*x2) * (L*(ys+y3)-(xs*xs+xs*x3+x3*x3)) + (M*M*x3*x3 - 2*L*m*x3*x3 - 2*M*m*x3*x3 + 2*m*m*x3*x3 - 2*M*M*x3*x2 + 4*L*m*x3*x2 + 4*M*m*x3*x2 - 4*m*m*x3*x2 + M*M*x2*x2 - 2*L*m*x2*x2 - 2*M*m*x2*x2 + 2*m*m*x2*x2 + 2*x3*x3*x3 - 2*L*x3*y2 - 2*M*x3*y2 + 2*m*x3*y2 - 3*x3*x3*x2 + 2*L*y2*x2 + 2*M*y2*x2 - 2*m*y2*x2 - 3*x3*x2*x2 + 4*x2*x2*x2 - 4*y2*y2) * (M*(x1-xt)-(y1-yt)) + (2*L*L*M*l*m*x3 + 2*L*M*l*l*m*x3 - 2*L*L*M*m*m*x3 + 2*L*L*l*m*m*x3 - 4*L*M*l*m*m*x3 + 2*L*l*l*m*m*x3 - 2*M*l*l*m*m*x3 + 2*L*L*m*m*m*x3 + 2*L*M*m*m*m*x3 + 2*M*l*m*m*m*x3 - 2*l*l*m*m*m*x3 - 2*L*m*m*m*m*x3 - 2*l*m*m*m*m*x3 - 2*L*L*M*l*m*x2 - 2*L*M*l*l*m*x2 + 2*L*L*M*m*m*x2 - 2*L*L*l*m*m*x2 + 4*L*M*l*m*m*x2 - 2*L*l*l*m*m*x2 + 2*M*l*l*m*m*x2 - 2*L*L*m*m*m*x2 - 2*L*M*m*m*m*x2 - 2*M*l*m*m*m*x2 + 2*l*l*m*m*m*x2 + 2*L*m*m*m*m*x2 + 2*l*m*m*m*m*x2 + M*M*M*x1*x3 - M*M*l*x1*x3 - 2*L*L*m*x1*x3 - 4*L*M*m*x1*x3 - 2*M*M*m*x1*x3 + 2*L*l*m*x1*x3 + 2*M*l*m*x1*x3 + 2*L*m*m*x1*x3 + 4*M*m*m*x1*x3 - 2*l*m*m*x1*x3 - 4*L*L*m*x3*x3 + 2*L*M*m*x3*x3 - 4*L*l*m*x3*x3 + 6*L*m*m*x3*x3 - 2*M*m*m*x3*x3 + 4*l*m*m*x3*x3 - 2*m*m*m*x3*x3 + 2*L*L*M*M*y2 - 2*L*M*M*M*y2 + 2*L*L*M*l*y2 + 2*L*M*M*l*y2 - 2*M*M*M*l*y2 + 2*L*M*l*l*y2 - 2*L*L*M*m*y2 + 2*L*M*M*m*y2 + 2*L*L*l*m*y2 - 4*L*M*l*m*y2 + 2*M*M*l*m*y2 + 2*L*l*l*m*y2 - 2*M*l*l*m*y2 - 8*L*L*m*m*y2 + 2*L*M*m*m*y2 - 10*L*l*m*m*y2 + 2*M*l*m*m*y2 - 2*l*l*m*m*y2 + 8*L*m*m*m*y2 + 8*l*m*m*m*y2 - M*M*M*x1*x2 + M*M*l*x1*x2 + 2*L*L*m*x1*x2 + 4*L*M*m*x1*x2 + 2*M*M*m*x1*x2 - 2*L*l*m*x1*x2 - 2*M*l*m*x1*x2 - 2*L*m*m*x1*x2 - 4*M*m*m*x1*x2 + 2*l*m*m*x1*x2 - M*M*M*x3*x2 + M*M*l*x3*x2 - 2*L*L*m*x3*x2 + 2*M*M*m*x3*x2 - 6*L*l*m*x3*x2 - 2*M*l*m*x3*x2 - 2*L*m*m*x3*x2 + 6*l*m*m*x3*x2 + 4*m*m*m*x3*x2 - 3*L*M*M*x2*x2 + M*M*M*x2*x2 - 4*M*M*l*x2*x2 + 6*L*L*m*x2*x2 + 4*L*M*m*x2*x2 - 2*M*M*m*x2*x2 + 10*L*l*m*x2*x2 + 8*M*l*m*x2*x2 - 4*L*m*m*x2*x2 + 2*M*m*m*x2*x2 - 10*l*m*m*x2*x2 - 2*m*m*m*x2*x2 + 2*M*x1*x3*x3 - 2*l*x1*x3*x3 + 2*L*L*x1*y2 - 2*L*l*x1*y2 + 2*M*l*x1*y2 - 12*L*m*x1*y2 + 4*M*m*x1*y2 - 2*l*m*x1*y2 + 8*m*m*x1*y2 + 6*L*L*x3*y2 - 2*L*M*x3*y2 - 4*M*M*x3*y2 + 6*L*l*x3*y2 - 4*M*l*x3*y2 + 4*L*m*x3*y2 + 6*M*m*x3*y2 - 6*l*m*x3*y2 - 4*m*m*x3*y2 - M*x1*x3*x2 + l*x1*x3*x2 - 2*M*x3*x3*x2 + 2*l*x3*x3*x2 + 4*L*L*y2*x2 - 4*L*M*y2*x2 + 4*M*M*y2*x2 + 8*L*l*y2*x2 - 4*M*l*y2*x2 - 4*L*m*y2*x2 - 10*M*m*y2*x2 - 4*l*m*y2*x2 - 4*m*m*y2*x2 + 3*L*x1*x2*x2 - 4*M*x1*x2*x2 + 4*l*x1*x2*x2 - 3*m*x1*x2*x2 - 6*L*x3*x2*x2 + M*x3*x2*x2 - 7*l*x3*x2*x2 - 6*L*x2*x2*x2 + 4*M*x2*x2*x2 - 7*l*x2*x2*x2 + 3*m*x2*x2*x2 + 2*x1*x3*y2 - 6*x3*x3*y2 - 4*L*y2*y2 + 4*l*y2*y2 + 8*m*y2*y2 - 2*x1*y2*x2 + 4*x3*y2*x2 + 2*y2*x2*x2) * (xs-x3) + (-4*L*m*x3*y2 + 4*L*m*y2*x2 - 4*L*y2*y2) * (x5-x7) := by grind
theorem ass_1y {p y7 x7 y5 x5 yt xt ys xs y1 y3 L M l m x1 x3 y2 x2 : Int} (h0 : p ∣ l*(x1-x2)-(y1-y2)) (h1 : p ∣ m*(x2-x3)-(y2-y3)) (h2 : p ∣ xs-(l*l-x1-x2)) (h3 : p ∣ ys-(l*(x1-xs)-y1)) (h4 : p ∣ xt-(m*m-x2-x3)) (h5 : p ∣ yt-(m*(x2-xt)-y2)) (h6 : p ∣ y5-(L*(xs-x5)-ys)) (h7 : p ∣ x7-(M*M-x1-xt)) (h8 : p ∣ y7-(M*(x1-x7)-y1)) (h9 : p ∣ l*(y1+y2)-(x1*x1+x1*x2+x2*x2)) (h10 : p ∣ m*(y2+y3)-(x2*x2+x2*x3+x3*x3)) (h11 : p ∣ L*(xs-x3)-(ys-y3)) (h12 : p ∣ L*(ys+y3)-(xs*xs+xs*x3+x3*x3)) (h13 : p ∣ M*(x1-xt)-(y1-yt)) (h14 : p ∣ xs-x3) (h15 : p ∣ x5-x7) : p ∣ 4 * (y2*y3) * (y5-y7) := by
  rw [ass_1y_e y7 x7 y5 x5 yt xt ys xs y1 y3 L M l m x1 x3 y2 x2]
  exact (Int.dvd_add (Int.dvd_add (Int.dvd_add (Int.dvd_add (Int.dvd_add (Int.dvd_add (Int.dvd_add (Int.dvd_add (Int.dvd_add (Int.dvd_add (Int.dvd_add (Int.dvd_add (Int.dvd_add (Int.dvd_add (Int.dvd_add (Int.dvd_trans h0 (Int.dvd_mul_left ..)) (Int.dvd_trans h1 (Int.dvd_mul_left ..))) (Int.dvd_trans h2 (Int.dvd_mul_left ..))) (Int.dvd_trans h3 (Int.dvd_mul_left ..))) (Int.dvd_trans h4 (Int.dvd_mul_left ..))) (Int.dvd_trans h5 (Int.dvd_mul_left ..))) (Int.dvd_trans h6 (Int.dvd_mul_left ..))) (Int.dvd_trans h7 (Int.dvd_mul_left ..))) (Int.dvd_trans h8 (Int.dvd_mul_left ..))) (Int.dvd_trans h9 (Int.dvd_mul_left ..))) (Int.dvd_trans h10 (Int.dvd_mul_left ..))) (Int.dvd_trans h11 (Int.dvd_mul_left ..))) (Int.dvd_trans h12 (Int.dvd_mul_left ..))) (Int.dvd_trans h13 (Int.dvd_mul_left ..))) (Int.dvd_trans h14 (Int.dvd_mul_left ..))) (Int.dvd_trans h15 (Int.dvd_mul_left ..)))

end Go.Proofs.Ytkedomfjjahjnaa

/- Plain laws of a curve's points: the sum and its laws of a group. No statement of a seat is proved here. -/
namespace Go.Proofs.Ytkedomfjjahjnaa

theorem Pr.euclidZ {p : Nat} (h : Pr p) {a b : Int} (hd : (p : Int) ∣ a * b) : (p : Int) ∣ a ∨ (p : Int) ∣ b := by
  rw [Int.ofNat_dvd_left, Int.natAbs_mul] at hd
  rcases h.euclid hd with h1 | h1
  · exact .inl (Int.ofNat_dvd_left.2 h1)
  · exact .inr (Int.ofNat_dvd_left.2 h1)

/-- The remainder of a whole number. -/
def nm (p : Nat) (z : Int) : Nat := (z % (p : Int)).toNat
theorem nm_cast {p : Nat} (hp : 0 < p) (z : Int) : ((nm p z : Nat) : Int) = z % (p : Int) := by
  unfold nm
  have := Int.emod_nonneg z (show (p : Int) ≠ 0 by omega)
  omega
theorem nm_dvd {p : Nat} (hp : 0 < p) (z : Int) : (p : Int) ∣ ((nm p z : Nat) : Int) - z := by
  rw [nm_cast hp]
  have := Int.emod_add_mul_ediv z p
  exact ⟨-(z / p), by grind⟩
theorem nm_lt {p : Nat} (hp : 0 < p) (z : Int) : nm p z < p := by
  have h := nm_cast hp z
  have := Int.emod_lt_of_pos z (show (0 : Int) < p by omega)
  omega
theorem same_of {p a b : Nat} (ha : a < p) (hb : b < p) (h : (p : Int) ∣ (a : Int) - (b : Int)) : a = b := by
  obtain ⟨k, hk⟩ := h
  have hpk : (p : Int) * k < p * 1 ∧ (p : Int) * (-1) < p * k := by constructor <;> omega
  have h1 := Int.lt_of_mul_lt_mul_left hpk.1 (by omega)
  have h2 := Int.lt_of_mul_lt_mul_left hpk.2 (by omega)
  have : k = 0 := by omega
  subst this
  omega
theorem nm_same {p : Nat} (hp : 0 < p) {a b : Int} (h : (p : Int) ∣ a - b) : nm p a = nm p b := by
  refine same_of (nm_lt hp a) (nm_lt hp b) ?_
  obtain ⟨k, hk⟩ := h
  obtain ⟨k1, h1⟩ := nm_dvd hp a
  obtain ⟨k2, h2⟩ := nm_dvd hp b
  exact ⟨k + k1 - k2, by grind⟩
theorem nm_of {p a : Nat} {z : Int} (ha : a < p) (h : (p : Int) ∣ (a : Int) - z) : nm p z = a := by
  have hp : 0 < p := by omega
  refine same_of (nm_lt hp z) ha ?_
  obtain ⟨k, hk⟩ := h
  obtain ⟨k2, h2⟩ := nm_dvd hp z
  exact ⟨k2 - k, by grind⟩

/-- 1 by a number. -/
def invZ (p : Nat) (a : Int) : Int := ((nm p a ^ (p - 2) : Nat) : Int)
theorem invZ_of {p : Nat} (h : Pr p) {a : Int} (ha : ¬ (p : Int) ∣ a) : (p : Int) ∣ a * invZ p a - 1 := by
  have hp := h.pos
  have h2 := h.1
  obtain ⟨k, hk⟩ := nm_dvd hp a
  have hn : ¬ p ∣ nm p a := fun hd => by
    obtain ⟨c, hc⟩ := Int.natCast_dvd_natCast.2 hd
    exact ha ⟨c - k, by grind⟩
  have hf := fermat h hn
  have e : nm p a ^ (p - 1) = nm p a * nm p a ^ (p - 2) := by
    rw [show p - 1 = (p - 2) + 1 by omega, Nat.pow_succ, Nat.mul_comm]
  rw [e] at hf
  have hd := Nat.div_add_mod (nm p a * nm p a ^ (p - 2)) p
  rw [hf] at hd
  unfold invZ
  generalize nm p a ^ (p - 2) = i at *
  have hd2 : ((p : Nat) : Int) * ((nm p a * i / p : Nat) : Int) + 1 = (nm p a : Int) * (i : Int) := by
    have := congrArg (fun n : Nat => (n : Int)) hd
    simp only [Int.natCast_add, Int.natCast_mul] at this
    exact this
  exact ⟨((nm p a * i / p : Nat) : Int) - k * i, by grind⟩

/-- A curve over a prime field, without a point of order two. -/
structure Cur (p b : Nat) : Prop where
  pr : Pr p
  big : 5 ≤ p
  n2 : ∀ x : Int, ¬ (p : Int) ∣ x * x * x + b

theorem Cur.pos {p b : Nat} (c : Cur p b) : 0 < p := c.pr.pos
theorem Cur.no2 {p b : Nat} (c : Cur p b) : ¬ (p : Int) ∣ 2 := fun h => by
  have := Int.le_of_dvd (by decide) h
  have := c.big
  omega
theorem Cur.no3 {p b : Nat} (c : Cur p b) : ¬ (p : Int) ∣ 3 := fun h => by
  have := Int.le_of_dvd (by decide) h
  have := c.big
  omega
theorem Cur.no4 {p b : Nat} (c : Cur p b) : ¬ (p : Int) ∣ 4 := fun h => by
  have := Int.le_of_dvd (by decide) h
  have := c.big
  omega

abbrev Cv (p b : Nat) (x y : Int) : Prop := (p : Int) ∣ y * y - x * x * x - b
theorem Cur.yne {p b : Nat} (c : Cur p b) {x y : Int} (h : Cv p b x y) : ¬ (p : Int) ∣ y := fun hy => by
  obtain ⟨k, hk⟩ := h
  obtain ⟨m, hm⟩ := hy
  exact c.n2 x ⟨m * y - k, by grind⟩

abbrev PtQ : Type := Option (Nat × Nat)
def OnQ (p b : Nat) : PtQ → Prop
  | none => True
  | some P => P.1 < p ∧ P.2 < p ∧ Cv p b P.1 P.2

structure Lin (p : Nat) (x1 y1 x2 y2 l : Int) : Prop where
  a : (p : Int) ∣ l * (x1 - x2) - (y1 - y2)
  b : (p : Int) ∣ l * (y1 + y2) - (x1 * x1 + x1 * x2 + x2 * x2)
structure Thd (p : Nat) (x1 y1 x2 l x3 y3 : Int) : Prop where
  x : (p : Int) ∣ x3 - (l * l - x1 - x2)
  y : (p : Int) ∣ y3 - (l * (x1 - x3) - y1)

def slopeQ (p : Nat) (P R : Nat × Nat) : Int := if P.1 = R.1 then 3 * P.1 * P.1 * invZ p (P.2 + P.2) else ((R.2 : Int) - P.2) * invZ p ((R.1 : Int) - P.1)
def thirdQ (p : Nat) (P R : Nat × Nat) (l : Int) : Nat × Nat := (nm p (l * l - P.1 - R.1), nm p (l * (P.1 - nm p (l * l - P.1 - R.1)) - P.2))
/-- The sum of points. -/
def addQ (p : Nat) : PtQ → PtQ → PtQ
  | none, R => R
  | some P, none => some P
  | some P, some R => if P.1 = R.1 ∧ P.2 ≠ R.2 then none else some (thirdQ p P R (slopeQ p P R))
def negQ (p : Nat) : PtQ → PtQ
  | none => none
  | some P => some (P.1, nm p (-P.2))

variable {p b : Nat}

theorem slope_lin (c : Cur p b) {P R : Nat × Nat} (hP : OnQ p b (some P)) (hR : OnQ p b (some R)) (h : ¬(P.1 = R.1 ∧ P.2 ≠ R.2)) : Lin p P.1 P.2 R.1 R.2 (slopeQ p P R) := by
  obtain ⟨x1, y1⟩ := P
  obtain ⟨x2, y2⟩ := R
  obtain ⟨hx1, hy1, hc1⟩ := hP
  obtain ⟨hx2, hy2, hc2⟩ := hR
  dsimp only at *
  unfold slopeQ
  dsimp only
  by_cases e : x1 = x2
  · have e2 : y1 = y2 := Classical.byContradiction fun h2 => h ⟨e, h2⟩
    subst e e2
    rw [if_pos rfl]
    have hn : ¬ (p : Int) ∣ (y1 : Int) + y1 := fun hd => by
      rw [← Int.two_mul] at hd
      rcases c.pr.euclidZ hd with h1 | h1
      · exact c.no2 h1
      · exact c.yne hc1 h1
    obtain ⟨k, hk⟩ := invZ_of c.pr hn
    generalize invZ p ((y1 : Int) + y1) = i at *
    exact ⟨⟨0, by grind⟩, ⟨3 * x1 * x1 * k, by grind⟩⟩
  · rw [if_neg e]
    have hn : ¬ (p : Int) ∣ (x2 : Int) - x1 := fun hd => e (same_of hx2 hx1 hd).symm
    have hn' : ¬ (p : Int) ∣ (x1 : Int) - x2 := fun ⟨k, hk⟩ => hn ⟨-k, by grind⟩
    obtain ⟨k, hk⟩ := invZ_of c.pr hn
    generalize invZ p ((x2 : Int) - x1) = i at *
    have ha : (p : Int) ∣ ((y2 : Int) - y1) * i * ((x1 : Int) - x2) - (y1 - y2) := ⟨(y1 - y2) * k, by grind⟩
    refine ⟨ha, ?_⟩
    have hc1' : (p : Int) ∣ (y1 : Int) * y1 - x1 * x1 * x1 - b := hc1
    have hc2' : (p : Int) ∣ (y2 : Int) * y2 - x2 * x2 * x2 - b := hc2
    rcases c.pr.euclidZ (chord_b hc1' hc2' ha) with h1 | h1
    · exact absurd h1 hn'
    · exact h1

theorem lin_same (c : Cur p b) {x1 y1 x2 y2 l m : Int} (hy : ¬ (p : Int) ∣ y1) (h1 : Lin p x1 y1 x2 y2 l) (h2 : Lin p x1 y1 x2 y2 m) : (p : Int) ∣ l - m := by
  obtain ⟨k1, e1⟩ := h1.a
  obtain ⟨k2, e2⟩ := h2.a
  obtain ⟨k3, e3⟩ := h1.b
  obtain ⟨k4, e4⟩ := h2.b
  rcases c.pr.euclidZ (a := l - m) (b := x1 - x2) ⟨k1 - k2, by grind⟩ with h | h
  · exact h
  · rcases c.pr.euclidZ (a := l - m) (b := y1 + y2) ⟨k3 - k4, by grind⟩ with h' | h'
    · exact h'
    · obtain ⟨m1, f1⟩ := h
      obtain ⟨m2, f2⟩ := h'
      rcases c.pr.euclidZ (a := 2) (b := y1) ⟨l * m1 - k1 + m2, by grind⟩ with h3 | h3
      · exact absurd h3 c.no2
      · exact absurd h3 hy

/-- A sum, by any slope that is right. -/
theorem sum_of (c : Cur p b) {P R S : Nat × Nat} {l : Int} (hP : OnQ p b (some P)) (hR : OnQ p b (some R)) (hl : Lin p P.1 P.2 R.1 R.2 l) (hS1 : S.1 < p) (hS2 : S.2 < p)
    (ht : Thd p P.1 P.2 R.1 l S.1 S.2) : addQ p (some P) (some R) = some S := by
  have hn : ¬(P.1 = R.1 ∧ P.2 ≠ R.2) := fun ⟨e1, e2⟩ => by
    obtain ⟨k, hk⟩ := hl.a
    rw [e1] at hk
    exact e2 (same_of hP.2.1 hR.2.1 ⟨-k, by grind⟩)
  have hs := slope_lin c hP hR hn
  obtain ⟨k, hk⟩ := lin_same c (c.yne hP.2.2) hs hl
  have : addQ p (some P) (some R) = some (thirdQ p P R (slopeQ p P R)) := if_neg hn
  rw [this]
  congr 1
  generalize slopeQ p P R = s at *
  obtain ⟨k1, h1⟩ := ht.x
  obtain ⟨k2, h2⟩ := ht.y
  have ex : nm p (s * s - P.1 - R.1) = S.1 := nm_of hS1 ⟨k1 - k * (s + l), by grind⟩
  unfold thirdQ
  rw [ex]
  have ey : nm p (s * ((P.1 : Int) - S.1) - P.2) = S.2 := nm_of hS2 ⟨k2 - k * (P.1 - S.1), by grind⟩
  rw [ey]

theorem of_sum (c : Cur p b) {P R S : Nat × Nat} (hP : OnQ p b (some P)) (hR : OnQ p b (some R)) (h : addQ p (some P) (some R) = some S) :
    S.1 < p ∧ S.2 < p ∧ ∃ l, Lin p P.1 P.2 R.1 R.2 l ∧ Thd p P.1 P.2 R.1 l S.1 S.2 := by
  by_cases hn : P.1 = R.1 ∧ P.2 ≠ R.2
  · have : addQ p (some P) (some R) = none := if_pos hn
    rw [this] at h
    cases h
  · have hs := slope_lin c hP hR hn
    have : addQ p (some P) (some R) = some (thirdQ p P R (slopeQ p P R)) := if_neg hn
    rw [this] at h
    cases h
    exact ⟨nm_lt c.pos _, nm_lt c.pos _, _, hs, nm_dvd c.pos _, nm_dvd c.pos _⟩

theorem on_neg (c : Cur p b) {P : PtQ} (h : OnQ p b P) : OnQ p b (negQ p P) := by
  cases P with
  | none => trivial
  | some P =>
    obtain ⟨k, hk⟩ := nm_dvd c.pos (-(P.2 : Int))
    obtain ⟨m, hm⟩ := h.2.2
    exact ⟨h.1, nm_lt c.pos _, ⟨m + k * ((nm p (-(P.2 : Int)) : Int) - P.2), by show ((nm p (-(P.2 : Int)) : Nat) : Int) * (nm p (-(P.2 : Int)) : Nat) - (P.1 : Int) * P.1 * P.1 - b = _; grind⟩⟩

theorem on_add (c : Cur p b) {P R : PtQ} (hP : OnQ p b P) (hR : OnQ p b R) : OnQ p b (addQ p P R) := by
  cases P with
  | none => exact hR
  | some P =>
    cases R with
    | none => exact hP
    | some R =>
      cases h : addQ p (some P) (some R) with
      | none => trivial
      | some S =>
        obtain ⟨h1, h2, l, hl, ht⟩ := of_sum c hP hR h
        exact ⟨h1, h2, thd_on ht.y ht.x hl.a hl.b hP.2.2⟩

/-- Two points of one X. -/
theorem opp_of (c : Cur p b) {P R : Nat × Nat} (hP : OnQ p b (some P)) (hR : OnQ p b (some R)) (h : P.1 = R.1 ∧ P.2 ≠ R.2) : some R = negQ p (some P) := by
  obtain ⟨x1, y1⟩ := P
  obtain ⟨x2, y2⟩ := R
  obtain ⟨hx1, hy1, hc1⟩ := hP
  obtain ⟨hx2, hy2, hc2⟩ := hR
  dsimp only at *
  obtain ⟨rfl, hne⟩ := h
  obtain ⟨k1, e1⟩ := hc1
  obtain ⟨k2, e2⟩ := hc2
  rcases c.pr.euclidZ (a := (y1 : Int) - y2) (b := (y1 : Int) + y2) ⟨k1 - k2, by grind⟩ with h | h
  · exact absurd (same_of hy1 hy2 h) hne
  · obtain ⟨k, hk⟩ := h
    have : nm p (-(y1 : Int)) = y2 := nm_of hy2 ⟨k, by grind⟩
    show _ = some (x1, nm p (-(y1 : Int)))
    rw [this]

theorem add_none (P : PtQ) : addQ p P none = P := by cases P <;> rfl
theorem none_add (P : PtQ) : addQ p none P = P := rfl

theorem add_neg (c : Cur p b) {P : PtQ} (hP : OnQ p b P) : addQ p P (negQ p P) = none := by
  cases P with
  | none => rfl
  | some P =>
    refine if_pos ⟨rfl, fun e => ?_⟩
    have e : P.2 = nm p (-(P.2 : Int)) := e
    obtain ⟨k, hk⟩ := nm_dvd c.pos (-(P.2 : Int))
    rw [← e] at hk
    rcases c.pr.euclidZ (a := 2) (b := (P.2 : Int)) ⟨k, by grind⟩ with h | h
    · exact c.no2 h
    · exact c.yne hP.2.2 h

theorem neg_neg (c : Cur p b) {P : PtQ} (hP : OnQ p b P) : negQ p (negQ p P) = P := by
  cases P with
  | none => rfl
  | some P =>
    obtain ⟨k, hk⟩ := nm_dvd c.pos (-(P.2 : Int))
    have : nm p (-((nm p (-(P.2 : Int)) : Nat) : Int)) = P.2 := nm_of hP.2.1 ⟨k, by grind⟩
    show some (P.1, nm p (-((nm p (-(P.2 : Int)) : Nat) : Int))) = _
    rw [this]

theorem add_comm (c : Cur p b) {P R : PtQ} (hP : OnQ p b P) (hR : OnQ p b R) : addQ p P R = addQ p R P := by
  cases P with
  | none => exact (add_none R).symm
  | some P =>
    cases R with
    | none => rfl
    | some R =>
      cases h : addQ p (some P) (some R) with
      | none =>
        by_cases hn : P.1 = R.1 ∧ P.2 ≠ R.2
        · exact (if_pos ⟨hn.1.symm, fun e => hn.2 e.symm⟩).symm
        · have : addQ p (some P) (some R) = some (thirdQ p P R (slopeQ p P R)) := if_neg hn
          rw [this] at h
          cases h
      | some S =>
        obtain ⟨h1, h2, l, hl, ht⟩ := of_sum c hP hR h
        obtain ⟨k1, e1⟩ := hl.a
        obtain ⟨k2, e2⟩ := hl.b
        obtain ⟨k3, e3⟩ := ht.x
        exact (sum_of c hR hP (l := l) ⟨⟨-k1, by grind⟩, ⟨k2, by grind⟩⟩ h1 h2 ⟨⟨k3, by grind⟩, thd_sym ht.y hl.a⟩).symm

theorem neg_b {p l x1 x2 y1 y2 z1 z2 k2 k5 k6 : Int} (e2 : l * (y1 + y2) - (x1 * x1 + x1 * x2 + x2 * x2) = p * k2) (e5 : z1 - -y1 = p * k5) (e6 : z2 - -y2 = p * k6) :
    -l * (z1 + z2) - (x1 * x1 + x1 * x2 + x2 * x2) = p * (k2 - l * (k5 + k6)) := by grind
theorem back_c {p l x1 x3 y1 y3 z1 k2 k5 : Int} (e2 : -l * (-y1 + y3) - (x1 * x1 + x1 * x3 + x3 * x3) = p * k2) (e5 : z1 - -y1 = p * k5) :
    -l * (z1 + y3) - (x1 * x1 + x1 * x3 + x3 * x3) = p * (k2 - l * k5) := by grind

theorem neg_add (c : Cur p b) {P R : PtQ} (hP : OnQ p b P) (hR : OnQ p b R) : negQ p (addQ p P R) = addQ p (negQ p P) (negQ p R) := by
  cases P with
  | none => rfl
  | some P =>
    cases R with
    | none => rfl
    | some R =>
      have hP' := on_neg c hP
      have hR' := on_neg c hR
      obtain ⟨k5, e5⟩ := nm_dvd c.pos (-(P.2 : Int))
      obtain ⟨k6, e6⟩ := nm_dvd c.pos (-(R.2 : Int))
      cases h : addQ p (some P) (some R) with
      | none =>
        by_cases hn : P.1 = R.1 ∧ P.2 ≠ R.2
        · have := opp_of c hP hR hn
          rw [this, add_neg c hP']
          rfl
        · have : addQ p (some P) (some R) = some (thirdQ p P R (slopeQ p P R)) := if_neg hn
          rw [this] at h
          cases h
      | some S =>
        obtain ⟨h1, h2, l, hl, ht⟩ := of_sum c hP hR h
        obtain ⟨k1, e1⟩ := hl.a
        obtain ⟨k2, e2⟩ := hl.b
        obtain ⟨k3, e3⟩ := ht.x
        obtain ⟨k4, e4⟩ := ht.y
        obtain ⟨k7, e7⟩ := nm_dvd c.pos (-(S.2 : Int))
        have g1 : Lin p ((P.1 : Nat) : Int) ((nm p (-(P.2 : Int)) : Nat) : Int) ((R.1 : Nat) : Int) ((nm p (-(R.2 : Int)) : Nat) : Int) (-l) :=
          ⟨⟨-k1 - k5 + k6, by grind⟩, ⟨k2 - l * (k5 + k6), neg_b e2 e5 e6⟩⟩
        have g2 : Thd p ((P.1 : Nat) : Int) ((nm p (-(P.2 : Int)) : Nat) : Int) ((R.1 : Nat) : Int) (-l) ((S.1 : Nat) : Int) ((nm p (-(S.2 : Int)) : Nat) : Int) :=
          ⟨⟨k3, by grind⟩, ⟨-k4 + k7 + k5, by grind⟩⟩
        exact (sum_of c (P := (P.1, nm p (-(P.2 : Int)))) (R := (R.1, nm p (-(R.2 : Int)))) (S := (S.1, nm p (-(S.2 : Int)))) hP' hR' g1 h1 (nm_lt c.pos _) g2).symm

/-- What is added is taken away. -/
theorem cancel (c : Cur p b) {P R : PtQ} (hP : OnQ p b P) (hR : OnQ p b R) : addQ p (negQ p P) (addQ p P R) = R := by
  cases P with
  | none => rfl
  | some P =>
    have hP' := on_neg c hP
    cases R with
    | none =>
      rw [add_none, add_comm c hP' hP, add_neg c hP]
    | some R =>
      cases h : addQ p (some P) (some R) with
      | none =>
        by_cases hn : P.1 = R.1 ∧ P.2 ≠ R.2
        · rw [add_none]
          exact (opp_of c hP hR hn).symm
        · have : addQ p (some P) (some R) = some (thirdQ p P R (slopeQ p P R)) := if_neg hn
          rw [this] at h
          cases h
      | some S =>
        have hS := on_add c hP hR
        rw [h] at hS
        obtain ⟨h1, h2, l, hl, ht⟩ := of_sum c hP hR h
        obtain ⟨k1, e1⟩ := hl.a
        obtain ⟨k2, e2⟩ := back_b ht.y ht.x hl.a hl.b
        obtain ⟨k3, e3⟩ := ht.x
        obtain ⟨k4, e4⟩ := ht.y
        obtain ⟨k5, e5⟩ := nm_dvd c.pos (-(P.2 : Int))
        have g1 : Lin p ((P.1 : Nat) : Int) ((nm p (-(P.2 : Int)) : Nat) : Int) ((S.1 : Nat) : Int) ((S.2 : Nat) : Int) (-l) :=
          ⟨⟨k4 - k5, by grind⟩, ⟨k2 - l * k5, back_c e2 e5⟩⟩
        have g2 : Thd p ((P.1 : Nat) : Int) ((nm p (-(P.2 : Int)) : Nat) : Int) ((S.1 : Nat) : Int) (-l) ((R.1 : Nat) : Int) ((R.2 : Nat) : Int) :=
          ⟨⟨k3, by grind⟩, ⟨k1 + k5, by grind⟩⟩
        exact sum_of c (P := (P.1, nm p (-(P.2 : Int)))) hP' hS g1 hR.1 hR.2.1 g2

theorem none_of (c : Cur p b) {P R : PtQ} (hP : OnQ p b P) (hR : OnQ p b R) (h : addQ p P R = none) : R = negQ p P := by
  have := cancel c hP hR
  rw [h, add_none] at this
  exact this.symm

theorem out_two (c : Cur p b) {u v z : Int} (hu : ¬ (p : Int) ∣ u) (hv : ¬ (p : Int) ∣ v) (h : (p : Int) ∣ u * v * z) : (p : Int) ∣ z := by
  rcases c.pr.euclidZ h with h | h
  · rcases c.pr.euclidZ h with h | h
    · exact absurd h hu
    · exact absurd h hv
  · exact h
theorem out_four (c : Cur p b) {z : Int} (h : (p : Int) ∣ 4 * z) : (p : Int) ∣ z := (c.pr.euclidZ h).resolve_left c.no4
theorem pair_of {X Y : Nat × Nat} (h1 : X.1 = Y.1) (h2 : X.2 = Y.2) : X = Y := by
  obtain ⟨X1, X2⟩ := X
  obtain ⟨Y1, Y2⟩ := Y
  dsimp only at h1 h2
  rw [h1, h2]
/-- Where the second sum is of a point to itself. -/
theorem assoc_same (c : Cur p b) {P1 P2 P3 S T X Y : Nat × Nat} (h1 : OnQ p b (some P1)) (h2 : OnQ p b (some P2)) (h3 : OnQ p b (some P3)) (hS : addQ p (some P1) (some P2) = some S) (hT : addQ p (some P2) (some P3) = some T)
    (hX : addQ p (some S) (some P3) = some X) (hY : addQ p (some P1) (some T) = some Y) (d1 : (p : Int) ∣ (S.1 : Int) - P3.1) : X = Y := by
  have oS := on_add c h1 h2
  have oT := on_add c h2 h3
  rw [hS] at oS
  rw [hT] at oT
  obtain ⟨hS1, hS2, l, l1, l2⟩ := of_sum c h1 h2 hS
  obtain ⟨hT1, hT2, m, m1, m2⟩ := of_sum c h2 h3 hT
  obtain ⟨hX1, hX2, L, L1, L2⟩ := of_sum c oS h3 hX
  obtain ⟨hY1, hY2, M, M1, M2⟩ := of_sum c h1 oT hY
  have n2 := c.yne h2.2.2
  have n3 := c.yne h3.2.2
  have hx := out_two c n2 n3 (out_four c (by rw [← Int.mul_assoc]; exact ass_1x l1.a m1.a l2.x l2.y m2.x m2.y L2.x M2.x l1.b m1.b L1.a L1.b M1.a d1))
  have hy := out_two c n2 n3 (out_four c (by rw [← Int.mul_assoc]; exact ass_1y l1.a m1.a l2.x l2.y m2.x m2.y L2.y M2.x M2.y l1.b m1.b L1.a L1.b M1.a d1 hx))
  exact pair_of (same_of hX1 hY1 hx) (same_of hX2 hY2 hy)

/-- Sums in any order. -/
theorem add_assoc (c : Cur p b) {P R T : PtQ} (hP : OnQ p b P) (hR : OnQ p b R) (hT : OnQ p b T) : addQ p (addQ p P R) T = addQ p P (addQ p R T) := by
  have hPR := on_add c hP hR
  have hRT := on_add c hR hT
  have nP := on_neg c hP
  have nR := on_neg c hR
  have nT := on_neg c hT
  by_cases hA : addQ p P R = none
  · rw [hA, none_add]
    have e := none_of c hP hR hA
    have e2 : P = negQ p R := by rw [e, neg_neg c hP]
    rw [e2, cancel c hR hT]
  by_cases hB : addQ p R T = none
  · rw [hB, add_none]
    have e := none_of c hR hT hB
    rw [e, add_comm c hPR nR, add_comm c hP hR, cancel c hR hP]
  by_cases hC : addQ p (addQ p P R) T = none
  · rw [hC]
    have e := none_of c hPR hT hC
    rw [e, neg_add c hP hR, add_comm c nP nR]
    have := cancel c nR nP
    rw [neg_neg c hR] at this
    rw [this, add_neg c hP]
  by_cases hD : addQ p P (addQ p R T) = none
  · rw [hD]
    have e := none_of c hRT hP (by rw [add_comm c hRT hP]; exact hD)
    rw [e, neg_add c hR hT]
    have h3 := cancel c nR nT
    rw [neg_neg c hR] at h3
    rw [add_comm c (on_add c nR nT) hR, h3, add_comm c nT hT, add_neg c hT]
  cases P with
  | none => rfl
  | some P1 =>
  cases R with
  | none => rw [add_none, none_add]
  | some P2 =>
  cases T with
  | none => rw [add_none, add_none]
  | some P3 =>
  cases hS : addQ p (some P1) (some P2) with
  | none => exact absurd hS hA
  | some S =>
  cases hT' : addQ p (some P2) (some P3) with
  | none => exact absurd hT' hB
  | some T =>
  rw [hS] at hPR hC
  rw [hT'] at hRT hD
  cases hX : addQ p (some S) (some P3) with
  | none => exact absurd hX hC
  | some X =>
  cases hY : addQ p (some P1) (some T) with
  | none => exact absurd hY hD
  | some Y =>
  obtain ⟨hS1, hS2, l, l1, l2⟩ := of_sum c hP hR hS
  obtain ⟨hT1, hT2, m, m1, m2⟩ := of_sum c hR hT hT'
  obtain ⟨hX1, hX2, L, L1, L2⟩ := of_sum c hPR hT hX
  obtain ⟨hY1, hY2, M, M1, M2⟩ := of_sum c hP hRT hY
  congr 1
  by_cases d1 : (p : Int) ∣ (S.1 : Int) - P3.1
  · exact assoc_same c hP hR hT hS hT' hX hY d1
  by_cases d2 : (p : Int) ∣ (P1.1 : Int) - T.1
  · rw [add_comm c hR hT] at hT'
    rw [add_comm c hP hR] at hS
    rw [add_comm c hPR hT] at hX
    rw [add_comm c hP hRT] at hY
    exact (assoc_same c hT hR hP hT' hS hY hX (by obtain ⟨k, hk⟩ := d2; exact ⟨-k, by rw [Int.mul_neg, ← hk]; omega⟩)).symm
  · have hx := out_two c d1 d2 (ass_gx l1.a m1.a l2.x l2.y m2.x m2.y L2.x M2.x l1.b m1.b L1.a M1.a)
    have hy := out_two c d1 d2 (ass_gy l1.a m1.a l2.x l2.y m2.x m2.y L2.x L2.y M2.x M2.y l1.b m1.b L1.a M1.a hx)
    exact pair_of (same_of hX1 hY1 hx) (same_of hX2 hY2 hy)

end Go.Proofs.Ytkedomfjjahjnaa

/- Plain laws: how often a point counts, and the order that brings all points to infinity. No statement of a seat is proved here. -/
namespace Go.Proofs.Ytkedomfjjahjnaa

/-- So often a point. -/
def mulQ (p : Nat) : Nat → PtQ → PtQ
  | 0, _ => none
  | n + 1, P => addQ p P (mulQ p n P)

variable {p b : Nat}
theorem on_mul (c : Cur p b) {P : PtQ} (hP : OnQ p b P) : ∀ n, OnQ p b (mulQ p n P)
  | 0 => trivial
  | n + 1 => on_add c hP (on_mul c hP n)
theorem mul_one (P : PtQ) : mulQ p 1 P = P := add_none P
theorem mul_none : ∀ n, mulQ p n none = none
  | 0 => rfl
  | n + 1 => mul_none n
theorem mul_plus (c : Cur p b) {P : PtQ} (hP : OnQ p b P) (m : Nat) : ∀ n, mulQ p (n + m) P = addQ p (mulQ p n P) (mulQ p m P)
  | 0 => by rw [Nat.zero_add]; rfl
  | n + 1 => by
    rw [show n + 1 + m = (n + m) + 1 by omega]
    show addQ p P (mulQ p (n + m) P) = addQ p (addQ p P (mulQ p n P)) (mulQ p m P)
    rw [mul_plus c hP m n, add_assoc c hP (on_mul c hP n) (on_mul c hP m)]
theorem mul_times (c : Cur p b) {P : PtQ} (hP : OnQ p b P) (m : Nat) : ∀ n, mulQ p (n * m) P = mulQ p n (mulQ p m P)
  | 0 => by rw [Nat.zero_mul]; rfl
  | n + 1 => by
    rw [show (n + 1) * m = m + n * m by rw [Nat.succ_mul, Nat.add_comm], mul_plus c hP, mul_times c hP m n]
    rfl
theorem mul_comm (c : Cur p b) {P : PtQ} (hP : OnQ p b P) (m n : Nat) : mulQ p n (mulQ p m P) = mulQ p m (mulQ p n P) := by
  rw [← mul_times c hP, ← mul_times c hP, Nat.mul_comm]
theorem add_four (c : Cur p b) {A B C D : PtQ} (hA : OnQ p b A) (hB : OnQ p b B) (hC : OnQ p b C) (hD : OnQ p b D) :
    addQ p (addQ p A B) (addQ p C D) = addQ p (addQ p A C) (addQ p B D) := by
  rw [add_assoc c hA hB (on_add c hC hD), ← add_assoc c hB hC hD, add_comm c hB hC, add_assoc c hC hB hD, ← add_assoc c hA hC (on_add c hB hD)]
theorem mul_add (c : Cur p b) {P R : PtQ} (hP : OnQ p b P) (hR : OnQ p b R) : ∀ n, mulQ p n (addQ p P R) = addQ p (mulQ p n P) (mulQ p n R)
  | 0 => rfl
  | n + 1 => by
    show addQ p (addQ p P R) (mulQ p n (addQ p P R)) = addQ p (addQ p P (mulQ p n P)) (addQ p R (mulQ p n R))
    rw [mul_add c hP hR n, add_four c hP hR (on_mul c hP n) (on_mul c hR n)]
theorem mul_neg (c : Cur p b) {P : PtQ} (hP : OnQ p b P) : ∀ n, mulQ p n (negQ p P) = negQ p (mulQ p n P)
  | 0 => rfl
  | n + 1 => by
    show addQ p (negQ p P) (mulQ p n (negQ p P)) = negQ p (addQ p P (mulQ p n P))
    rw [mul_neg c hP n, neg_add c hP (on_mul c hP n)]
theorem add_cancel (c : Cur p b) {P R T : PtQ} (hP : OnQ p b P) (hR : OnQ p b R) (hT : OnQ p b T) (h : addQ p P R = addQ p P T) : R = T := by
  rw [← cancel c hP hR, h, cancel c hP hT]
theorem two_none (c : Cur p b) {P : PtQ} (h : addQ p P P = none) : P = none := by
  cases P with
  | none => rfl
  | some P =>
    have : addQ p (some P) (some P) = some (thirdQ p P P (slopeQ p P P)) := if_neg fun h => h.2 rfl
    rw [this] at h
    cases h
/-- Both counts that bring infinity have a common divisor that does. -/
theorem mul_gcd (c : Cur p b) {P : PtQ} (hP : OnQ p b P) (m k : Nat) : mulQ p m P = none → mulQ p k P = none → mulQ p (Nat.gcd m k) P = none := by
  induction m, k using Nat.gcd.induction with
  | H0 n => intro _ h; rw [Nat.gcd_zero_left]; exact h
  | H1 m n hm ih =>
    intro h1 h2
    rw [Nat.gcd_rec]
    refine ih ?_ h1
    have e := Nat.div_add_mod n m
    rw [← e, Nat.mul_comm, mul_plus c hP, mul_times c hP, h1, mul_none] at h2
    exact h2
theorem mul_mod (c : Cur p b) {P : PtQ} (hP : OnQ p b P) {q : Nat} (hq : mulQ p q P = none) (n : Nat) : mulQ p (n % q) P = mulQ p n P := by
  have e := Nat.div_add_mod n q
  conv => rhs; rw [← e, Nat.mul_comm, mul_plus c hP, mul_times c hP, hq, mul_none]
  rfl

/-- A point's number, below twice the modulus and 1. -/
def encQ (p : Nat) : PtQ → Nat
  | none => 2 * p
  | some P => 2 * P.1 + P.2 % 2
theorem enc_lt {P : PtQ} (hP : OnQ p b P) : encQ p P < 2 * p + 1 := by
  cases P with
  | none => show 2 * p < _; omega
  | some P =>
    have := hP.1
    show 2 * P.1 + P.2 % 2 < _
    omega
theorem enc_inj (c : Cur p b) (hodd : p % 2 = 1) {P R : PtQ} (hP : OnQ p b P) (hR : OnQ p b R) (h : encQ p P = encQ p R) : P = R := by
  cases P with
  | none =>
    cases R with
    | none => rfl
    | some R =>
      have := hR.1
      have h : 2 * p = 2 * R.1 + R.2 % 2 := h
      omega
  | some P =>
    cases R with
    | none =>
      have := hP.1
      have h : 2 * P.1 + P.2 % 2 = 2 * p := h
      omega
    | some R =>
      obtain ⟨x1, y1⟩ := P
      obtain ⟨x2, y2⟩ := R
      have h : 2 * x1 + y1 % 2 = 2 * x2 + y2 % 2 := h
      have hx : x1 = x2 := by omega
      have hy : y1 % 2 = y2 % 2 := by omega
      by_cases he : y1 = y2
      · rw [hx, he]
      · exfalso
        have ho := opp_of c hP hR ⟨hx, he⟩
        have ho : some (x2, y2) = some (x1, nm p (-(y1 : Int))) := ho
        simp only [Option.some.injEq, Prod.mk.injEq] at ho
        have h2 := ho.2
        have hy1 : y1 < p := hP.2.1
        have h0 : y1 ≠ 0 := fun e => c.yne hP.2.2 (by show (p : Int) ∣ ((y1 : Nat) : Int); rw [e]; exact ⟨0, by simp⟩)
        have h3 : nm p (-(y1 : Int)) = p - y1 := nm_of (by omega) ⟨1, by omega⟩
        omega

/-- Where a point other than infinity has a prime order that is great enough, it is every point's. -/
theorem all_order (c : Cur p b) (hodd : p % 2 = 1) {q : Nat} (hq : Pr q) (hq2 : q % 2 = 1) (h3 : 2 * p + 1 < 3 * q) {G : PtQ} (hG : OnQ p b G) (hne : G ≠ none) (hqG : mulQ p q G = none)
    {P : PtQ} (hP : OnQ p b P) : mulQ p q P = none := by
  apply Classical.byContradiction
  intro hno
  have hord : ∀ i, mulQ p i G = none → q ∣ i := fun i hi => by
    have hg := mul_gcd c hG q i hqG hi
    rcases hq.2 (Nat.gcd q i) (Nat.gcd_dvd_left ..) with e | e
    · rw [e, mul_one] at hg
      exact absurd hg hne
    · rw [← e]
      exact Nat.gcd_dvd_right ..
  have hon := fun i => on_mul c hG i
  have honP := fun i => on_mul c hP i
  -- no point of G's meets P or twice P
  have hp1 : ∀ i, P ≠ mulQ p i G := fun i e => hno (by rw [e, mul_comm c hG, hqG, mul_none])
  have hp2 : ∀ i, addQ p P P ≠ mulQ p i G := fun i e => by
    have hh : ∃ j, mulQ p i G = addQ p (mulQ p j G) (mulQ p j G) := by
      refine ⟨i * ((q + 1) / 2), ?_⟩
      rw [← mul_plus c hG, ← Nat.mul_add, show (q + 1) / 2 + (q + 1) / 2 = q + 1 by omega, Nat.mul_add, mul_plus c hG, mul_times c hG, hqG, mul_none, Nat.mul_one]
      rfl
    obtain ⟨j, hj⟩ := hh
    rw [hj] at e
    have hn := on_neg c (hon j)
    have : addQ p (addQ p (negQ p (mulQ p j G)) P) (addQ p (negQ p (mulQ p j G)) P) = none := by
      rw [add_four c hn hP hn hP, e, add_comm c (on_add c hn hn) (on_add c (hon j) (hon j)), add_four c (hon j) (hon j) hn hn, add_neg c (hon j)]
      rfl
    have h2 := two_none c this
    have h4 := none_of c hn hP h2
    rw [neg_neg c (hon j)] at h4
    exact hp1 j h4
  -- differences of G's points
  have hdiff : ∀ i j A B, OnQ p b A → OnQ p b B → addQ p (mulQ p i G) A = addQ p (mulQ p j G) B → ∃ k, A = addQ p (mulQ p k G) B := fun i j A B hA hB e => by
    refine ⟨(q - i % q) + j, ?_⟩
    have hm : mulQ p (i % q) G = mulQ p i G := mul_mod c hG hqG i
    have hlt := Nat.mod_lt i hq.pos
    have hz : addQ p (mulQ p (q - i % q) G) (mulQ p i G) = none := by
      rw [← hm, ← mul_plus c hG, show q - i % q + i % q = q by omega, hqG]
    rw [mul_plus c hG, add_assoc c (hon _) (hon _) hB, ← e, ← add_assoc c (hon _) (hon _) hA, hz]
    rfl
  have hinj : ∀ i j, i < q → j < q → mulQ p i G = mulQ p j G → i = j := by
    have aux : ∀ i j, i ≤ j → j < q → mulQ p i G = mulQ p j G → i = j := fun i j hij hj e => by
      have e2 : addQ p (mulQ p i G) none = addQ p (mulQ p i G) (mulQ p (j - i) G) := by
        rw [← mul_plus c hG, show i + (j - i) = j by omega, add_none, e]
      have h0 := add_cancel c (hon i) (R := none) trivial (hon _) e2
      have hd := hord _ h0.symm
      by_cases h : j - i = 0
      · omega
      · have := Nat.le_of_dvd (by omega) hd
        omega
    intro i j hi hj e
    rcases Nat.le_total i j with h | h
    · exact aux i j h hj e
    · exact (aux j i h hi e.symm).symm
  let tw : Nat → PtQ := fun k => mulQ p (k / q) P
  let pt : Nat → PtQ := fun k => addQ p (mulQ p (k % q) G) (mulQ p (k / q) P)
  have hpt : ∀ k, OnQ p b (pt k) := fun k => on_add c (hon _) (honP _)
  have hcoset : ∀ i j, i < 3 → j < 3 → (∃ k, mulQ p i P = addQ p (mulQ p k G) (mulQ p j P)) → i = j := by
    have P1 : mulQ p 1 P = P := mul_one P
    have P2 : mulQ p 2 P = addQ p P P := congrArg (addQ p P) (mul_one P)
    have back : ∀ k A B, OnQ p b A → OnQ p b B → A = addQ p (mulQ p k G) B → ∃ k', B = addQ p (mulQ p k' G) A := fun k A B hA hB e => by
      refine hdiff k 0 B A hB hA ?_
      rw [← e]
      rfl
    have n01 : ∀ k, mulQ p 0 P ≠ addQ p (mulQ p k G) (mulQ p 1 P) := fun k e => by
      obtain ⟨k', e'⟩ := back k _ _ (honP 0) (honP 1) e
      rw [P1, show mulQ p 0 P = none from rfl, add_none] at e'
      exact hp1 k' e'
    have n02 : ∀ k, mulQ p 0 P ≠ addQ p (mulQ p k G) (mulQ p 2 P) := fun k e => by
      obtain ⟨k', e'⟩ := back k _ _ (honP 0) (honP 2) e
      rw [P2, show mulQ p 0 P = none from rfl, add_none] at e'
      exact hp2 k' e'
    have n12 : ∀ k, mulQ p 1 P ≠ addQ p (mulQ p k G) (mulQ p 2 P) := fun k e => by
      rw [P1, P2, ← add_assoc c (hon k) hP hP] at e
      have e2 : addQ p P none = addQ p P (addQ p (mulQ p k G) P) := by
        rw [add_none, ← add_assoc c hP (hon k) hP, add_comm c hP (hon k)]
        exact e
      have e3 := add_cancel c hP (R := none) trivial (on_add c (hon k) hP) e2
      obtain ⟨k', e'⟩ := back k none P trivial hP e3
      rw [add_none] at e'
      exact hp1 k' e'
    rintro i j hi hj ⟨k, hk⟩
    apply Classical.byContradiction
    intro hij
    have bk := back k _ _ (honP i) (honP j) hk
    have : (i = 0 ∧ j = 1) ∨ (i = 0 ∧ j = 2) ∨ (i = 1 ∧ j = 2) ∨ (i = 1 ∧ j = 0) ∨ (i = 2 ∧ j = 0) ∨ (i = 2 ∧ j = 1) := by omega
    rcases this with ⟨rfl, rfl⟩ | ⟨rfl, rfl⟩ | ⟨rfl, rfl⟩ | ⟨rfl, rfl⟩ | ⟨rfl, rfl⟩ | ⟨rfl, rfl⟩
    · exact n01 k hk
    · exact n02 k hk
    · exact n12 k hk
    · obtain ⟨k', e⟩ := bk; exact n01 k' e
    · obtain ⟨k', e⟩ := bk; exact n02 k' e
    · obtain ⟨k', e⟩ := bk; exact n12 k' e
  have hptinj : ∀ x ∈ List.range (3 * q), ∀ y ∈ List.range (3 * q), encQ p (pt x) = encQ p (pt y) → x = y := fun x hx y hy e => by
    rw [List.mem_range] at hx hy
    have e := enc_inj c hodd (hpt x) (hpt y) e
    have hdx : x / q < 3 := Nat.div_lt_of_lt_mul (by rw [Nat.mul_comm]; exact hx)
    have hdy : y / q < 3 := Nat.div_lt_of_lt_mul (by rw [Nat.mul_comm]; exact hy)
    have h1 := hcoset (x / q) (y / q) hdx hdy (hdiff _ _ _ _ (honP _) (honP _) e)
    have e : addQ p (mulQ p (x % q) G) (mulQ p (x / q) P) = addQ p (mulQ p (y % q) G) (mulQ p (y / q) P) := e
    rw [h1, add_comm c (hon _) (honP _), add_comm c (hon (y % q)) (honP _)] at e
    have h2 := hinj _ _ (Nat.mod_lt _ hq.pos) (Nat.mod_lt _ hq.pos) (add_cancel c (honP _) (hon _) (hon _) e)
    have e1 := Nat.div_add_mod x q
    have e2 := Nat.div_add_mod y q
    rw [← e1, ← e2, h1, h2]
  have hnd := nodup_map_of (f := fun k => encQ p (pt k)) List.nodup_range hptinj
  have hlen := length_of_sub (l2 := List.range (2 * p + 1)) hnd (fun x hx => by
    obtain ⟨k, _, rfl⟩ := List.mem_map.1 hx
    exact List.mem_range.2 (enc_lt (hpt k)))
  rw [List.length_map, List.length_range, List.length_range] at hlen
  omega

end Go.Proofs.Ytkedomfjjahjnaa

/- The function slices.Clone[[]sigil/api.Term,sigil/api.Term]: what it makes of its arguments. No statement of a seat is proved here. -/
namespace Go.Proofs.Ytkedomfjjahjnaa
open Sx Go
set_option maxRecDepth 100000

abbrev termT : Ty := .prod .elem (.prod .elem (.prod .elem .bool))
def mclone_S : FnSpec := ⟨[.val false (.list termT)], [], true, 0, false⟩

abbrev mcloneX : Type := ((List termT.T) × Unit) × (Unit)

def mclone_o0 : OutSh := ⟨[.own 0], [(0, .row termT)], false⟩

def mclone_sel : SV → Option OutSh := fun _ => some mclone_o0

def mclone_T (a0 : List termT.T) : OT mclone_S.Y :=
  (gd [decide (((0 : Nat) + List.length a0) * (104 : Nat) ≤ (140737488355328 : Nat))] (.ok ⟨mclone_o0, (((), ()), ([] ++ a0, ()))⟩))
def mclone_T' : OT mclone_S.Y := .ok ⟨mclone_o0, (((), ()), ([], ()))⟩

theorem mclone_q (x : mcloneX) (Q : mclone_S.Y → Prop) : wpf te E_r4some lamNil 1000 Try.f65 (mclone_S.inp.inj x).tm (mclone_S.inp.inj x).hp (fnK mclone_S mclone_sel Q) (fun _ _ => False) =
    Bool.rec (motive := fun _ => Prop) ((mclone_T x.1.1).wpR Q) (mclone_T'.wpR Q ∧ (mclone_T x.1.1).wpR Q) (List.isEmpty x.1.1) := by kernel_rfl

def mclone_pre (x : mcloneX) : Bool := decide (x.1.1.length * 104 ≤ 140737488355328)
def mclone_F (x : mcloneX) : OT mclone_S.Y := .ok ⟨mclone_o0, (((), ()), (x.1.1, ()))⟩

theorem mclone_ok : SummOk Try.prog 65 (mclone_S.summ mclone_pre mclone_F) := by
  refine fn_ok te_ok E_r4some_ok E_r4some_any (f := 65) (fn := Try.f65) (c := codeOf Try.f65) (by kernel_rfl) (by kernel_rfl) (by kernel_rfl) (S := mclone_S) (k := 0) (by kernel_rfl) (Λ := lamNil) (fun R hR => lamOk_nil) (n := 1000) fun x oy hp hr => ⟨fnK mclone_S mclone_sel (fun z => z = oy), fun _ _ => False, ?_, fun v hp hq => ?_, fun _ _ hq => hq.elim⟩
  · refine (mclone_q x _).mpr ?_
    cases hr
    have hp' : x.1.1.length * 104 ≤ 140737488355328 := of_decide_eq_true hp
    have h1 : (mclone_T x.1.1).wpR (fun z => z = ⟨mclone_o0, (((), ()), (x.1.1, ()))⟩) := by
      rw [OT.wpR_eq]
      refine OT.wp_of_run (gd_run ?_) rfl
      simp only [List.all_cons, List.all_nil, Bool.and_true]
      exact decide_eq_true (by omega)
    cases hb : List.isEmpty x.1.1
    · exact h1
    · refine ⟨?_, h1⟩
      rw [List.isEmpty_iff.1 hb]
      rfl
  · unfold fnK at hq
    split at hq
    · rename_i o ho
      split at hq
      · rename_i y hy
        subst hq
        exact ⟨by cases ho; rfl, hy⟩
      · exact hq.elim
    · exact hq.elim

def mclone_summ : Summ := (mclone_S.summ mclone_pre mclone_F)
theorem mclone_known : SummOk Try.prog 65 mclone_summ := mclone_ok
theorem mclone_smono : MonoOk mclone_summ := fn_mono

def E_mclone : Env := envCons 65 mclone_summ E_r4some
theorem E_mclone_ok : EnvOk Try.prog E_mclone := envOk_cons mclone_known E_r4some_ok
theorem E_mclone_mono : EnvMono E_mclone := envMono_cons mclone_smono E_r4some_mono
theorem E_mclone_any : AnyOk Try.prog te E_mclone := any_ok follows te_ok E_mclone_ok E_mclone_mono

end Go.Proofs.Ytkedomfjjahjnaa

/- The function sigil/msm.New: what it makes of its arguments. No statement of a seat is proved here. -/
namespace Go.Proofs.Ytkedomfjjahjnaa
open Sx Go
set_option maxRecDepth 100000

def mnew_S : FnSpec := ⟨[.val false .int], [], true, 0, false⟩
def mnew_o0 : OutSh := ⟨[.nilp, .val false .int], [], false⟩
def mnew_o1 : OutSh := ⟨[.ptr 0 0 0, .val false .int], [(0, .cells [.val false .int, .own 1]), (1, .row termT)], false⟩

abbrev mnewX : Type := ((Int) × Unit) × (Unit)

def mnew_outs : List OutSh := [mnew_o0, mnew_o1]

def mnew_T (a0 : Int) : OT mnew_S.Y :=
  (.br (decide (a0 < (0 : Int)))
  (.ok ⟨mnew_o0, (((), ((40 : Int), ())), ())⟩)
  (.br (decide ((3 : Int) < a0))
    (.ok ⟨mnew_o0, (((), ((40 : Int), ())), ())⟩)
    (.ok ⟨mnew_o1, (((), ((0 : Int), ())), ((a0, ((), ())), ([], ())))⟩)))

theorem mnew_q (x : mnewX) (Q : mnew_S.Y → Prop) : wpf te E_mclone lamNil 1000 Try.f28 (mnew_S.inp.inj x).tm (mnew_S.inp.inj x).hp (fnKL mnew_S mnew_outs Q) (fun _ _ => False) = (mnew_T (x.1.1)).wpR Q := by kernel_rfl

theorem mnew_main (pre : mnewX → Bool) (F : mnewX → OT mnew_S.Y) (hF : ∀ (x : mnewX) oy, pre x = true → (F x).run = some oy → (mnew_T (x.1.1)).run = some oy) : SummOk Try.prog 28 (mnew_S.summ pre F) :=
  fn_treeL te_ok E_mclone_ok E_mclone_any (f := 28) (fn := Try.f28) (c := codeOf Try.f28) (by kernel_rfl) (by kernel_rfl) (by kernel_rfl) (S := mnew_S) (k := 0) (by kernel_rfl) (fun R hR => lamOk_nil) (n := 1000) (outs := mnew_outs) (by kernel_rfl) (pre := pre) (F := F) (T := fun x => mnew_T (x.1.1)) (fun x Q => mnew_q x Q) hF

/-- A sum without terms. -/
def mnew_pre (_ : mnewX) : Bool := true
def mnew_F (x : mnewX) : OT mnew_S.Y := .br (sortOk x.1.1) (.ok ⟨mnew_o1, (((), ((0 : Int), ())), ((x.1.1, ((), ())), ([], ())))⟩) (.ok ⟨mnew_o0, (((), ((40 : Int), ())), ())⟩)
theorem mnew_ok : SummOk Try.prog 28 (mnew_S.summ mnew_pre mnew_F) := mnew_main _ _ fun x oy _ ho => by
  rw [← ho]
  clear ho
  obtain ⟨⟨s, ⟨⟩⟩, ⟨⟩⟩ := x
  show (mnew_T s).run = (OT.br (sortOk s) _ _ : OT mnew_S.Y).run
  by_cases h0 : s < 0
  · refine (OT.run_t (decide_eq_true h0)).trans (OT.run_f (b := sortOk s) ?_).symm
    simp only [sortOk, decide_eq_false (show ¬ (0 : Int) ≤ s by omega), Bool.false_and]
  · refine (OT.run_f (decide_eq_false h0)).trans ?_
    by_cases h3 : 3 < s
    · refine (OT.run_t (decide_eq_true h3)).trans (OT.run_f (b := sortOk s) ?_).symm
      simp only [sortOk, decide_eq_false (show ¬ s < 4 by omega), Bool.and_false]
    · refine (OT.run_f (decide_eq_false h3)).trans (OT.run_t (b := sortOk s) ?_).symm
      simp only [sortOk, decide_eq_true (show (0 : Int) ≤ s by omega), decide_eq_true (show s < 4 by omega), Bool.and_self]

def mnew_summ : Summ := (mnew_S.summ mnew_pre mnew_F)
theorem mnew_known : SummOk Try.prog 28 mnew_summ := mnew_ok
theorem mnew_smono : MonoOk mnew_summ := fn_mono

def E_mnew : Env := envCons 28 mnew_summ E_mclone
theorem E_mnew_ok : EnvOk Try.prog E_mnew := envOk_cons mnew_known E_mclone_ok
theorem E_mnew_mono : EnvMono E_mnew := envMono_cons mnew_smono E_mclone_mono
theorem E_mnew_any : AnyOk Try.prog te E_mnew := any_ok follows te_ok E_mnew_ok E_mnew_mono

end Go.Proofs.Ytkedomfjjahjnaa

/- The function (*sigil/msm.Lazy).Add: what it makes of its arguments. No statement of a seat is proved here. -/
namespace Go.Proofs.Ytkedomfjjahjnaa
open Sx Go
set_option maxRecDepth 100000

/-- A sum that is put off: its curve, its terms. -/
def lazC (w : Sh) : CSh := .cells [.val false .int, w]
def madd_S : FnSpec := ⟨[.ptr 0 0 0, .val true .elem, .val true (.prod .elem (.prod .elem .bool))], [(0, lazC (.own 1)), (1, .row termT)], false, 1, true⟩

abbrev maddX : Type := ((Unit) × (Elem) × ((Elem × (Elem × Bool))) × Unit) × (((Int) × (Unit) × Unit) × (List ((Elem × (Elem × (Elem × Bool))))) × Unit)

def madd_o0 : OutSh := ⟨[.val false .int], [(0, .cells [.val false .int, .own 1]), (1, .row (.prod .elem (.prod .elem (.prod .elem .bool))))], false⟩

def madd_sel : SV → Option OutSh := fun _ => some madd_o0

def madd_T (a1 : Elem) (a2 : (Elem × (Elem × Bool))) (c0_0 : Int) (c1 : List ((Elem × (Elem × (Elem × Bool))))) : OT madd_S.Y :=
  let z0 : Int := ixor c0_0 (1 : Int)
  let z1 : Elem := { w0 := (0 : UInt64), w1 := (0 : UInt64), w2 := (0 : UInt64), w3 := (0 : UInt64) }
  (.br (!onB c0_0 a2)
  (.ok ⟨madd_o0, (((41 : Int), ()), ((c0_0, ((), ())), (c1, ())))⟩)
  (.br (decide ((100000 : Int) ≤ (↑(List.length c1) : Int)))
    (.ok ⟨madd_o0, (((50 : Int), ()), ((c0_0, ((), ())), (c1, ())))⟩)
    (.br (sortOk z0)
      (gd [decide ((List.length c1 + (1 : Nat)) * (104 : Nat) ≤ (140737488355328 : Nat))] (.ok ⟨madd_o0, (((0 : Int), ()), ((c0_0, ((), ())), (c1 ++ [(addP (pS z0) a1 z1, a2)], ())))⟩))
      (gd [decide ((List.length c1 + (1 : Nat)) * (104 : Nat) ≤ (140737488355328 : Nat))] (.ok ⟨madd_o0, (((0 : Int), ()), ((c0_0, ((), ())), (c1 ++ [(z1, a2)], ())))⟩)))))

theorem madd_q (x : maddX) (Q : madd_S.Y → Prop) : wpf te E_mnew lamNil 1000 Try.f29 (madd_S.inp.inj x).tm (madd_S.inp.inj x).hp (fnK madd_S madd_sel Q) (fun _ _ => False) = (madd_T (x.1.2.1) (x.1.2.2.1) (x.2.1.1) (x.2.2.1)).wpR Q := by kernel_rfl

theorem madd_main (pre : maddX → Bool) (F : maddX → OT madd_S.Y) (hF : ∀ (x : maddX) oy, pre x = true → (F x).run = some oy → (madd_T (x.1.2.1) (x.1.2.2.1) (x.2.1.1) (x.2.2.1)).run = some oy) : SummOk Try.prog 29 (madd_S.summ pre F) :=
  fn_tree te_ok E_mnew_ok E_mnew_any (f := 29) (fn := Try.f29) (c := codeOf Try.f29) (by kernel_rfl) (by kernel_rfl) (by kernel_rfl) (S := madd_S) (k := 2) (by kernel_rfl) (fun R hR => lamOk_nil) (n := 1000) (sel := madd_sel) (fun v o h => by cases h; rfl) (pre := pre) (F := F) (T := fun x => madd_T (x.1.2.1) (x.1.2.2.1) (x.2.1.1) (x.2.2.1)) (fun x Q => madd_q x Q) hF

abbrev Tm : Type := termT.T
def noTm0 : Tm := (⟨0, 0, 0, 0⟩, ⟨0, 0, 0, 0⟩, ⟨0, 0, 0, 0⟩, false)
def roomT (l : List Tm) : Bool := decide (l.length < 100000)
def madd_pre (_ : maddX) : Bool := true
def madd_F (x : maddX) : OT madd_S.Y := .br (onB x.2.1.1 x.1.2.2.1) (.br (roomT x.2.2.1) (.ok ⟨madd_o0, (((0 : Int), ()), ((x.2.1.1, ((), ())), (x.2.2.1 ++ [(scalP x.2.1.1 x.1.2.1, x.1.2.2.1)], ())))⟩)
  (.ok ⟨madd_o0, (((50 : Int), ()), ((x.2.1.1, ((), ())), (x.2.2.1, ())))⟩)) (.ok ⟨madd_o0, (((41 : Int), ()), ((x.2.1.1, ((), ())), (x.2.2.1, ())))⟩)
theorem madd_ok : SummOk Try.prog 29 (madd_S.summ madd_pre madd_F) := madd_main _ _ fun x oy _ ho => by
  rw [← ho]
  clear ho
  obtain ⟨⟨⟨⟩, k, P, ⟨⟩⟩, ⟨⟨c, ⟨⟩, ⟨⟩⟩, l, ⟨⟩⟩⟩ := x
  show (madd_T k P c l).run = (OT.br (onB c P) (.br (roomT l) _ _) _ : OT madd_S.Y).run
  rcases (Bool.eq_false_or_eq_true (onB c P)).symm with h | h
  · exact (OT.run_t (b := !onB c P) (by rw [h]; rfl)).trans (OT.run_f (b := onB c P) h).symm
  · refine (OT.run_f (b := !onB c P) (by rw [h]; rfl)).trans (Eq.trans ?_ (OT.run_t (b := onB c P) h).symm)
    rcases (Bool.eq_false_or_eq_true (roomT l)).symm with h2 | h2
    · have h3 := of_decide_eq_false h2
      exact (OT.run_t (decide_eq_true (by omega))).trans (OT.run_f (b := roomT l) h2).symm
    · have h3 := of_decide_eq_true h2
      refine (OT.run_f (decide_eq_false (by omega))).trans (Eq.trans ?_ (OT.run_t (b := roomT l) h2).symm)
      refine (OT.run_t (sort_other (onB_sort h))).trans ((gd_run ?_).trans rfl)
      simp only [List.all_cons, List.all_nil, Bool.and_true]
      exact decide_eq_true (by omega)

def madd_summ : Summ := (madd_S.summ madd_pre madd_F)
theorem madd_known : SummOk Try.prog 29 madd_summ := madd_ok
theorem madd_smono : MonoOk madd_summ := fn_mono

def E_madd : Env := envCons 29 madd_summ E_mnew
theorem E_madd_ok : EnvOk Try.prog E_madd := envOk_cons madd_known E_mnew_ok
theorem E_madd_mono : EnvMono E_madd := envMono_cons madd_smono E_mnew_mono
theorem E_madd_any : AnyOk Try.prog te E_madd := any_ok follows te_ok E_madd_ok E_madd_mono

end Go.Proofs.Ytkedomfjjahjnaa

/- The function (*sigil/msm.Lazy).Terms: what it makes of its arguments. No statement of a seat is proved here. -/
namespace Go.Proofs.Ytkedomfjjahjnaa
open Sx Go
set_option maxRecDepth 100000

def mterms_S : FnSpec := ⟨[.ptr 0 0 0], [(0, lazC (.own 1)), (1, .row termT)], false, 2, true⟩

abbrev mtermsX : Type := ((Unit) × Unit) × (((Int) × (Unit) × Unit) × (List ((Elem × (Elem × (Elem × Bool))))) × Unit)

def mterms_o0 : OutSh := ⟨[.own 2], [(0, .cells [.val false .int, .own 1]), (1, .row (.prod .elem (.prod .elem (.prod .elem .bool)))), (2, .row (.prod .elem (.prod .elem (.prod .elem .bool))))], false⟩

def mterms_sel : SV → Option OutSh := fun _ => some mterms_o0

def mterms_T (c0_0 : Int) (c1 : List ((Elem × (Elem × (Elem × Bool))))) : OT mterms_S.Y :=
  (gd [mclone_pre ((c1, ()), ())] (.ok ⟨mterms_o0, (((), ()), ((c0_0, ((), ())), (c1, (c1, ()))))⟩))

theorem mterms_q (x : mtermsX) (Q : mterms_S.Y → Prop) : wpf te E_madd lamNil 1000 Try.f30 (mterms_S.inp.inj x).tm (mterms_S.inp.inj x).hp (fnK mterms_S mterms_sel Q) (fun _ _ => False) = (mterms_T (x.2.1.1) (x.2.2.1)).wpR Q := by kernel_rfl

theorem mterms_main (pre : mtermsX → Bool) (F : mtermsX → OT mterms_S.Y) (hF : ∀ (x : mtermsX) oy, pre x = true → (F x).run = some oy → (mterms_T (x.2.1.1) (x.2.2.1)).run = some oy) : SummOk Try.prog 30 (mterms_S.summ pre F) :=
  fn_tree te_ok E_madd_ok E_madd_any (f := 30) (fn := Try.f30) (c := codeOf Try.f30) (by kernel_rfl) (by kernel_rfl) (by kernel_rfl) (S := mterms_S) (k := 2) (by kernel_rfl) (fun R hR => lamOk_nil) (n := 1000) (sel := mterms_sel) (fun v o h => by cases h; rfl) (pre := pre) (F := F) (T := fun x => mterms_T (x.2.1.1) (x.2.2.1)) (fun x Q => mterms_q x Q) hF

def mterms_pre (x : mtermsX) : Bool := decide (x.2.2.1.length * 104 ≤ 140737488355328)
def mterms_F (x : mtermsX) : OT mterms_S.Y := .ok ⟨mterms_o0, (((), ()), ((x.2.1.1, ((), ())), (x.2.2.1, (x.2.2.1, ()))))⟩
theorem mterms_ok : SummOk Try.prog 30 (mterms_S.summ mterms_pre mterms_F) := mterms_main _ _ fun x oy hp ho => by
  rw [← ho]
  clear ho
  refine (gd_run ?_).trans rfl
  simp only [List.all_cons, List.all_nil, Bool.and_true]
  exact hp

def mterms_summ : Summ := (mterms_S.summ mterms_pre mterms_F)
theorem mterms_known : SummOk Try.prog 30 mterms_summ := mterms_ok
theorem mterms_smono : MonoOk mterms_summ := fn_mono

def E_mterms : Env := envCons 30 mterms_summ E_madd
theorem E_mterms_ok : EnvOk Try.prog E_mterms := envOk_cons mterms_known E_madd_ok
theorem E_mterms_mono : EnvMono E_mterms := envMono_cons mterms_smono E_madd_mono
theorem E_mterms_any : AnyOk Try.prog te E_mterms := any_ok follows te_ok E_mterms_ok E_mterms_mono

end Go.Proofs.Ytkedomfjjahjnaa

/- The function sigil/msm.single: what it makes of its arguments. No statement of a seat is proved here. -/
namespace Go.Proofs.Ytkedomfjjahjnaa
open Sx Go
set_option maxRecDepth 100000

def msingle_S : FnSpec := ⟨[.val false .int, .val false (.list termT)], [], true, 0, false⟩

abbrev msingleX : Type := ((Int) × (List ((Elem × (Elem × (Elem × Bool))))) × Unit) × (Unit)

def msingle_s0 : Shape := ⟨26, [(0, .val false .int), (4, .ptr 0 0 0), (5, .ptr 1 0 0), (9, .val false (.list (.prod .elem (.prod .elem (.prod .elem .bool))))), (10, .val false .int), (11, .val false .int)], [(0, .cells [.val false .u64, .val false .u64, .val false .u64, .val false .u64, .val false .u64, .val false .u64, .val false .u64, .val false .u64, .val false .bool]), (1, .cells [.val false .u64, .val false .u64, .val false .u64, .val false .u64, .val false .u64, .val false .u64, .val false .u64, .val false .u64, .val false .bool])], 0, true⟩

abbrev msingle_s0X : Type := ((Int) × (Unit) × (Unit) × (List ((Elem × (Elem × (Elem × Bool))))) × (Int) × (Int) × Unit) × (((UInt64) × (UInt64) × (UInt64) × (UInt64) × (UInt64) × (UInt64) × (UInt64) × (UInt64) × (Bool) × Unit) × ((UInt64) × (UInt64) × (UInt64) × (UInt64) × (UInt64) × (UInt64) × (UInt64) × (UInt64) × (Bool) × Unit) × Unit)

def msingle_e0_0 : Shape := ⟨26, [(4, .ptr 0 0 0), (5, .ptr 1 0 0)], [(0, .cells [.val false .u64, .val false .u64, .val false .u64, .val false .u64, .val false .u64, .val false .u64, .val false .u64, .val false .u64, .val false .bool]), (1, .cells [.val false .u64, .val false .u64, .val false .u64, .val false .u64, .val false .u64, .val false .u64, .val false .u64, .val false .u64, .val false .bool])], 0, true⟩

abbrev msingle_e0_0X : Type := ((Unit) × (Unit) × Unit) × (((UInt64) × (UInt64) × (UInt64) × (UInt64) × (UInt64) × (UInt64) × (UInt64) × (UInt64) × (Bool) × Unit) × ((UInt64) × (UInt64) × (UInt64) × (UInt64) × (UInt64) × (UInt64) × (UInt64) × (UInt64) × (Bool) × Unit) × Unit)

def msingle_x0 : SE → Option Shape := xsMk [(0, msingle_e0_0)] none

def msingle_T0 (a0 : Int) (a9 : List ((Elem × (Elem × (Elem × Bool))))) (a10 : Int) (a11 : Int) (c0_0 : UInt64) (c0_1 : UInt64) (c0_2 : UInt64) (c0_3 : UInt64) (c0_4 : UInt64) (c0_5 : UInt64) (c0_6 : UInt64) (c0_7 : UInt64) (c0_8 : Bool) (c1_0 : UInt64) (c1_1 : UInt64) (c1_2 : UInt64) (c1_3 : UInt64) (c1_4 : UInt64) (c1_5 : UInt64) (c1_6 : UInt64) (c1_7 : UInt64) (c1_8 : Bool) : OT (Sum msingle_s0X LEnd) :=
  let z0 : Elem := { w0 := (0 : UInt64), w1 := (0 : UInt64), w2 := (0 : UInt64), w3 := (0 : UInt64) }
  let z1 : Elem × Elem × Elem × Bool := List.getD a9 (Int.toNat a11) (z0, z0, z0, false)
  let z2 : Elem × Elem × Bool := addPt a0 ({ w0 := c1_0, w1 := c1_1, w2 := c1_2, w3 := c1_3 }, { w0 := c1_4, w1 := c1_5, w2 := c1_6, w3 := c1_7 }, c1_8) (mulPt a0 z1.fst z1.snd)
  let z3 : Elem := z2.fst
  let z4 : Elem × Bool := z2.snd
  let z5 : Elem := z4.fst
  (.br (decide (a11 < a10))
  (gd [inB a11 (List.length a9), inR (a11 + (1 : Int))] (.ok (.inl ((a0, ((), ((), (a9, (a10, (a11 + (1 : Int), ())))))), ((c0_0, (c0_1, (c0_2, (c0_3, (c0_4, (c0_5, (c0_6, (c0_7, (c0_8, ()))))))))), ((z3.w0, (z3.w1, (z3.w2, (z3.w3, (z5.w0, (z5.w1, (z5.w2, (z5.w3, (z4.snd, ()))))))))), ()))))))
  (.ok (.inr ⟨(.exit 0, msingle_e0_0), (((), ((), ())), ((c0_0, (c0_1, (c0_2, (c0_3, (c0_4, (c0_5, (c0_6, (c0_7, (c0_8, ()))))))))), ((c1_0, (c1_1, (c1_2, (c1_3, (c1_4, (c1_5, (c1_6, (c1_7, (c1_8, ()))))))))), ())))⟩)))

def msingle_U0 (s : msingle_s0X) : OT (Sum msingle_s0X LEnd) := msingle_T0 (s.1.1) (s.1.2.2.2.1) (s.1.2.2.2.2.1) (s.1.2.2.2.2.2.1) (s.2.1.1) (s.2.1.2.1) (s.2.1.2.2.1) (s.2.1.2.2.2.1) (s.2.1.2.2.2.2.1) (s.2.1.2.2.2.2.2.1) (s.2.1.2.2.2.2.2.2.1) (s.2.1.2.2.2.2.2.2.2.1) (s.2.1.2.2.2.2.2.2.2.2.1) (s.2.2.1.1) (s.2.2.1.2.1) (s.2.2.1.2.2.1) (s.2.2.1.2.2.2.1) (s.2.2.1.2.2.2.2.1) (s.2.2.1.2.2.2.2.2.1) (s.2.2.1.2.2.2.2.2.2.1) (s.2.2.1.2.2.2.2.2.2.2.1) (s.2.2.1.2.2.2.2.2.2.2.2.1)

theorem msingle_q0 (s : msingle_s0X) (Q : Sum msingle_s0X LEnd → Prop) : wps te E_mterms lamNil 1000 (loopOf (codeOf Try.f94) 0) (msingle_s0.inj s) (stepK msingle_s0 msingle_x0 (Q : Sum msingle_s0.T LEnd → Prop)) = (msingle_U0 s).wpR Q := by kernel_rfl

def msingle_f0 (g0_0 : msingle_s0X → msingle_e0_0X) (s : msingle_s0X) : OT LEnd := (.ok ⟨(.exit 0, msingle_e0_0), g0_0 s⟩)

def msingle_o0 : OutSh := ⟨[.val true (.prod .elem (.prod .elem .bool))], [], false⟩

def msingle_sel : SV → Option OutSh := fun _ => some msingle_o0

def msingle_T (ok0 : msingle_s0X → Bool) (g0_0 : msingle_s0X → msingle_e0_0X) (a0 : Int) (a1 : List ((Elem × (Elem × (Elem × Bool))))) : OT msingle_S.Y :=
  let z0 : (Int × PUnit × PUnit × List (Elem × Elem × Elem × Bool) × Int × Int × PUnit) × (UInt64 × UInt64 × UInt64 × UInt64 × UInt64 × UInt64 × UInt64 × UInt64 × Bool × PUnit) × (UInt64 × UInt64 × UInt64 × UInt64 × UInt64 × UInt64 × UInt64 × UInt64 × Bool × PUnit) × PUnit := ((a0, (), (), a1, (↑(List.length a1) : Int), (0 : Int), ()), ((0 : UInt64), (0 : UInt64), (0 : UInt64), (0 : UInt64), (0 : UInt64), (0 : UInt64), (0 : UInt64), (0 : UInt64), false, ()), ((0 : UInt64), (0 : UInt64), (0 : UInt64), (0 : UInt64), (0 : UInt64), (0 : UInt64), (0 : UInt64), (0 : UInt64), true, ()), ())
  let z1 : UInt64 × UInt64 × UInt64 × UInt64 × UInt64 × UInt64 × UInt64 × UInt64 × Bool × PUnit := (g0_0 z0).snd.snd.fst
  let z2 : UInt64 × UInt64 × UInt64 × UInt64 × UInt64 × UInt64 × UInt64 × Bool × PUnit := z1.snd
  let z3 : UInt64 × UInt64 × UInt64 × UInt64 × UInt64 × UInt64 × Bool × PUnit := z2.snd
  let z4 : UInt64 × UInt64 × UInt64 × UInt64 × UInt64 × Bool × PUnit := z3.snd
  let z5 : UInt64 × UInt64 × UInt64 × UInt64 × Bool × PUnit := z4.snd
  let z6 : UInt64 × UInt64 × UInt64 × Bool × PUnit := z5.snd
  let z7 : UInt64 × UInt64 × Bool × PUnit := z6.snd
  let z8 : UInt64 × Bool × PUnit := z7.snd
  (gd [ok0 z0] (.ok ⟨msingle_o0, ((({ w0 := z1.fst, w1 := z2.fst, w2 := z3.fst, w3 := z4.fst }, { w0 := z5.fst, w1 := z6.fst, w2 := z7.fst, w3 := z8.fst }, z8.snd.fst), ()), ())⟩))

theorem msingle_q (ok0 : msingle_s0X → Bool) (g0_0 : msingle_s0X → msingle_e0_0X) (x : msingleX) (Q : msingle_S.Y → Prop) : wpf te E_mterms (lamCons 0 (loopF msingle_s0 0 ok0 (msingle_f0 g0_0)) lamNil) 1000 Try.f94 (msingle_S.inp.inj x).tm (msingle_S.inp.inj x).hp (fnK msingle_S msingle_sel Q) (fun _ _ => False) = (msingle_T ok0 g0_0 (x.1.1) (x.1.2.1)).wpR Q := by kernel_rfl

theorem msingle_main (ok0 : msingle_s0X → Bool) (g0_0 : msingle_s0X → msingle_e0_0X) (h0 : ∀ s : msingle_s0X, ok0 s = true → ∃ m e, loopRun (msingle_U0) m s = some e ∧ (msingle_f0 g0_0 s).run = some e) (pre : msingleX → Bool) (F : msingleX → OT msingle_S.Y) (hF : ∀ (x : msingleX) oy, pre x = true → (F x).run = some oy → (msingle_T ok0 g0_0 (x.1.1) (x.1.2.1)).run = some oy) : SummOk Try.prog 94 (msingle_S.summ pre F) :=
  fn_tree te_ok E_mterms_ok E_mterms_any (f := 94) (fn := Try.f94) (c := codeOf Try.f94) (by kernel_rfl) (by kernel_rfl) (by kernel_rfl) (S := msingle_S) (k := 0) (by kernel_rfl) (fun R hR => (lamOk_cons (c := (codeOf Try.f94)) (by kernel_rfl) (id := 0) (by kernel_rfl) (loop_ok te_ok E_mterms_ok E_mterms_any (sh := msingle_s0) hR (xs := msingle_x0) (xsMk_small (by kernel_rfl) (by kernel_rfl) hR) xsMk_pan lamOk_nil (n := 1000) (T := msingle_U0) (fun s Q => msingle_q0 s Q) (ok := ok0) (f := msingle_f0 g0_0) h0) lamOk_nil)) (n := 1000) (sel := msingle_sel) (fun v o h => by cases h; rfl) (pre := pre) (F := F) (T := fun x => msingle_T ok0 g0_0 (x.1.1) (x.1.2.1)) (fun x Q => msingle_q ok0 g0_0 x Q) hF

/-- Terms summed, each by itself. -/
def singleStep (c : Int) (l : List Tm) (k : Nat) (O : Pt) : Pt := addPt c O (mulPt c (l.getD k noTm0).1 (l.getD k noTm0).2)
def singlePt (c : Int) (l : List Tm) : Pt := upto (singleStep c l) inftyP l.length
def msingle_ok0 (s : msingle_s0X) : Bool := decide (s.1.2.2.2.2.1 = (s.1.2.2.2.1.length : Int) ∧ s.1.2.2.2.2.2.1 = 0 ∧ cellP s.2.2.1 = inftyP ∧ s.1.2.2.2.1.length ≤ 140737488355328)
def msingle_g0 (s : msingle_s0X) : msingle_e0_0X := (((), (), ()), (s.2.1, flatP (singlePt s.1.1 s.1.2.2.2.1), ()))
theorem msingle_h0 : ∀ s : msingle_s0X, msingle_ok0 s = true → ∃ m e, loopRun msingle_U0 m s = some e ∧ (msingle_f0 msingle_g0 s).run = some e := by
  rintro ⟨⟨c, ⟨⟩, ⟨⟩, l, n, i, ⟨⟩⟩, ⟨c0, c1, ⟨⟩⟩⟩ h
  have h' := of_decide_eq_true h
  dsimp only at h'
  obtain ⟨rfl, rfl, hO, hl⟩ := h'
  have hO2 : c1 = flatP inftyP := by rw [← hO]; rfl
  subst hO2
  have := (loop_upto (T := msingle_U0) (fun i O => (((c, (), (), l, (l.length : Int), (i : Int), ()), (c0, flatP O, ())) : msingle_s0X)) (singleStep c l)
    (fun O => (⟨(.exit 0, msingle_e0_0), (((), (), ()), (c0, flatP O, ()))⟩ : LEnd)) l.length inftyP (fun _ _ => True) trivial (fun k O hk _ => ⟨?_, trivial⟩) (fun O _ => ?_)).1
  · obtain ⟨m, hm⟩ := this
    exact ⟨m, _, hm, rfl⟩
  · refine (OT.run_t (decide_eq_true (by dsimp only; omega))).trans ((gd_run ?_).trans ?_)
    · simp only [List.all_cons, List.all_nil, Bool.and_true, Bool.and_eq_true]
      exact ⟨inB_of (by omega), inR_of (by omega)⟩
    · simp only [OT.run_ok, Int.toNat_natCast]
      rfl
  · exact OT.run_f (decide_eq_false (by dsimp only; omega))
def msingle_pre (x : msingleX) : Bool := decide (x.1.2.1.length ≤ 140737488355328)
def msingle_F (x : msingleX) : OT msingle_S.Y := .ok ⟨msingle_o0, ((singlePt x.1.1 x.1.2.1, ()), ())⟩
theorem msingle_ok : SummOk Try.prog 94 (msingle_S.summ msingle_pre msingle_F) := msingle_main msingle_ok0 msingle_g0 msingle_h0 _ _ fun x oy hp ho => by
  rw [← ho]
  clear ho
  obtain ⟨⟨c, l, ⟨⟩⟩, ⟨⟩⟩ := x
  have hl : l.length ≤ 140737488355328 := of_decide_eq_true hp
  refine (gd_run ?_).trans rfl
  simp only [List.all_cons, List.all_nil, Bool.and_true]
  exact decide_eq_true ⟨rfl, rfl, rfl, hl⟩

def msingle_summ : Summ := (msingle_S.summ msingle_pre msingle_F)
theorem msingle_known : SummOk Try.prog 94 msingle_summ := msingle_ok
theorem msingle_smono : MonoOk msingle_summ := fn_mono

def E_msingle : Env := envCons 94 msingle_summ E_mterms
theorem E_msingle_ok : EnvOk Try.prog E_msingle := envOk_cons msingle_known E_mterms_ok
theorem E_msingle_mono : EnvMono E_msingle := envMono_cons msingle_smono E_mterms_mono
theorem E_msingle_any : AnyOk Try.prog te E_msingle := any_ok follows te_ok E_msingle_ok E_msingle_mono

end Go.Proofs.Ytkedomfjjahjnaa

/- The function sigil/msm.top$1: what it makes of its arguments. No statement of a seat is proved here. -/
namespace Go.Proofs.Ytkedomfjjahjnaa
open Sx Go
set_option maxRecDepth 100000

def mtop1_S : FnSpec := ⟨[.val true termT, .ptr 0 0 0], [(0, .cells [.val false .int])], false, 1, true⟩

abbrev mtop1X : Type := (((Elem × (Elem × (Elem × Bool)))) × (Unit) × Unit) × (((Int) × Unit) × Unit)

def mtop1_o0 : OutSh := ⟨[.val false .bool], [(0, .cells [.val false .int])], false⟩

def mtop1_sel : SV → Option OutSh := fun _ => some mtop1_o0

def mtop1_T (a0 : (Elem × (Elem × (Elem × Bool)))) (c0_0 : Int) : OT mtop1_S.Y :=
  (.ok ⟨mtop1_o0, ((bitI a0.fst c0_0, ()), ((c0_0, ()), ()))⟩)

theorem mtop1_q (x : mtop1X) (Q : mtop1_S.Y → Prop) : wpf te E_msingle lamNil 1000 Try.f112 (mtop1_S.inp.inj x).tm (mtop1_S.inp.inj x).hp (fnK mtop1_S mtop1_sel Q) (fun _ _ => False) = (mtop1_T (x.1.1) (x.2.1.1)).wpR Q := by kernel_rfl

theorem mtop1_main (pre : mtop1X → Bool) (F : mtop1X → OT mtop1_S.Y) (hF : ∀ (x : mtop1X) oy, pre x = true → (F x).run = some oy → (mtop1_T (x.1.1) (x.2.1.1)).run = some oy) : SummOk Try.prog 112 (mtop1_S.summ pre F) :=
  fn_tree te_ok E_msingle_ok E_msingle_any (f := 112) (fn := Try.f112) (c := codeOf Try.f112) (by kernel_rfl) (by kernel_rfl) (by kernel_rfl) (S := mtop1_S) (k := 1) (by kernel_rfl) (fun R hR => lamOk_nil) (n := 1000) (sel := mtop1_sel) (fun v o h => by cases h; rfl) (pre := pre) (F := F) (T := fun x => mtop1_T (x.1.1) (x.2.1.1)) (fun x Q => mtop1_q x Q) hF

def mtop1_pre (_ : mtop1X) : Bool := true
def mtop1_F (x : mtop1X) : OT mtop1_S.Y := .ok ⟨mtop1_o0, ((bitI x.1.1.1 x.2.1.1, ()), ((x.2.1.1, ()), ()))⟩
theorem mtop1_ok : SummOk Try.prog 112 (mtop1_S.summ mtop1_pre mtop1_F) := mtop1_main _ _ fun x oy hp ho => by
  rw [← ho]
  rfl

def mtop1_summ : Summ := (mtop1_S.summ mtop1_pre mtop1_F)
theorem mtop1_known : SummOk Try.prog 112 mtop1_summ := mtop1_ok
theorem mtop1_smono : MonoOk mtop1_summ := fn_mono

def E_mtop1 : Env := envCons 112 mtop1_summ E_msingle
theorem E_mtop1_ok : EnvOk Try.prog E_mtop1 := envOk_cons mtop1_known E_msingle_ok
theorem E_mtop1_mono : EnvMono E_mtop1 := envMono_cons mtop1_smono E_msingle_mono
theorem E_mtop1_any : AnyOk Try.prog te E_mtop1 := any_ok follows te_ok E_mtop1_ok E_mtop1_mono

end Go.Proofs.Ytkedomfjjahjnaa

/- The function slices.IndexFunc[[]sigil/api.Term,sigil/api.Term]: what it makes of its arguments. No statement of a seat is proved here. -/
namespace Go.Proofs.Ytkedomfjjahjnaa
open Sx Go
set_option maxRecDepth 100000

def mindexf_S : FnSpec := ⟨[.val false (.list termT), .fn 112 [0]], [(0, .cells [.val false .int])], true, 1, true⟩

abbrev mindexfX : Type := ((List ((Elem × (Elem × (Elem × Bool))))) × (Unit) × Unit) × (((Int) × Unit) × Unit)

def mindexf_s0 : Shape := ⟨19, [(0, .val false (.list (.prod .elem (.prod .elem (.prod .elem .bool))))), (1, .fn 112 [0]), (7, .val false .int), (8, .val false .int)], [(0, .cells [.val false .int])], 1, true⟩

abbrev mindexf_s0X : Type := ((List ((Elem × (Elem × (Elem × Bool))))) × (Unit) × (Int) × (Int) × Unit) × (((Int) × Unit) × Unit)

def mindexf_e0_r : Shape := ⟨19, [(4, .val false .int)], [(0, .cells [.val false .int])], 1, true⟩

abbrev mindexf_e0_rX : Type := ((Int) × Unit) × (((Int) × Unit) × Unit)

def mindexf_e0_0 : Shape := ⟨19, [], [(0, .cells [.val false .int])], 1, true⟩

abbrev mindexf_e0_0X : Type := (Unit) × (((Int) × Unit) × Unit)

def mindexf_x0 : SE → Option Shape := xsMk [(0, mindexf_e0_0)] (some mindexf_e0_r)

def mindexf_T0 (a0 : List ((Elem × (Elem × (Elem × Bool))))) (a7 : Int) (a8 : Int) (c0_0 : Int) : OT (Sum mindexf_s0X LEnd) :=
  let z0 : Elem := { w0 := (0 : UInt64), w1 := (0 : UInt64), w2 := (0 : UInt64), w3 := (0 : UInt64) }
  (.br (decide (a8 < a7))
  (gd [inB a8 (List.length a0)] (.br (bitI (List.getD a0 (Int.toNat a8) (z0, z0, z0, false)).fst c0_0)
    (.ok (.inr ⟨(.ret, mindexf_e0_r), ((a8, ()), ((c0_0, ()), ()))⟩))
    (gd [inR (a8 + (1 : Int))] (.ok (.inl ((a0, ((), (a7, (a8 + (1 : Int), ())))), ((c0_0, ()), ())))))))
  (.ok (.inr ⟨(.exit 0, mindexf_e0_0), ((), ((c0_0, ()), ()))⟩)))

def mindexf_U0 (s : mindexf_s0X) : OT (Sum mindexf_s0X LEnd) := mindexf_T0 (s.1.1) (s.1.2.2.1) (s.1.2.2.2.1) (s.2.1.1)

theorem mindexf_q0 (s : mindexf_s0X) (Q : Sum mindexf_s0X LEnd → Prop) : wps te E_mtop1 lamNil 1000 (loopOf (codeOf Try.f116) 0) (mindexf_s0.inj s) (stepK mindexf_s0 mindexf_x0 (Q : Sum mindexf_s0.T LEnd → Prop)) = (mindexf_U0 s).wpR Q := by kernel_rfl

def mindexf_f0 (g0_r : mindexf_s0X → mindexf_e0_rX) (c0_r : mindexf_s0X → Bool) (g0_0 : mindexf_s0X → mindexf_e0_0X) (s : mindexf_s0X) : OT LEnd := (.br (c0_r s) (.ok ⟨(.ret, mindexf_e0_r), g0_r s⟩) (.ok ⟨(.exit 0, mindexf_e0_0), g0_0 s⟩))

def mindexf_o0 : OutSh := ⟨[.val false .int], [(0, .cells [.val false .int])], false⟩

def mindexf_sel : SV → Option OutSh := fun _ => some mindexf_o0

def mindexf_T (ok0 : mindexf_s0X → Bool) (g0_r : mindexf_s0X → mindexf_e0_rX) (c0_r : mindexf_s0X → Bool) (g0_0 : mindexf_s0X → mindexf_e0_0X) (a0 : List ((Elem × (Elem × (Elem × Bool))))) (c0_0 : Int) : OT mindexf_S.Y :=
  let z0 : (List (Elem × Elem × Elem × Bool) × PUnit × Int × Int × PUnit) × (Int × PUnit) × PUnit := ((a0, (), (↑(List.length a0) : Int), (0 : Int), ()), (c0_0, ()), ())
  let z1 : (Int × PUnit) × (Int × PUnit) × PUnit := g0_r z0
  (gd [ok0 z0] (.br (c0_r z0)
  (.ok ⟨mindexf_o0, ((z1.fst.fst, ()), ((z1.snd.fst.fst, ()), ()))⟩)
  (.ok ⟨mindexf_o0, (((-1 : Int), ()), (((g0_0 z0).snd.fst.fst, ()), ()))⟩)))

theorem mindexf_q (ok0 : mindexf_s0X → Bool) (g0_r : mindexf_s0X → mindexf_e0_rX) (c0_r : mindexf_s0X → Bool) (g0_0 : mindexf_s0X → mindexf_e0_0X) (x : mindexfX) (Q : mindexf_S.Y → Prop) : wpf te E_mtop1 (lamCons 0 (loopF mindexf_s0 0 ok0 (mindexf_f0 g0_r c0_r g0_0)) lamNil) 1000 Try.f116 (mindexf_S.inp.inj x).tm (mindexf_S.inp.inj x).hp (fnK mindexf_S mindexf_sel Q) (fun _ _ => False) = (mindexf_T ok0 g0_r c0_r g0_0 (x.1.1) (x.2.1.1)).wpR Q := by kernel_rfl

theorem mindexf_main (ok0 : mindexf_s0X → Bool) (g0_r : mindexf_s0X → mindexf_e0_rX) (c0_r : mindexf_s0X → Bool) (g0_0 : mindexf_s0X → mindexf_e0_0X) (h0 : ∀ s : mindexf_s0X, ok0 s = true → ∃ m e, loopRun (mindexf_U0) m s = some e ∧ (mindexf_f0 g0_r c0_r g0_0 s).run = some e) (pre : mindexfX → Bool) (F : mindexfX → OT mindexf_S.Y) (hF : ∀ (x : mindexfX) oy, pre x = true → (F x).run = some oy → (mindexf_T ok0 g0_r c0_r g0_0 (x.1.1) (x.2.1.1)).run = some oy) : SummOk Try.prog 116 (mindexf_S.summ pre F) :=
  fn_tree te_ok E_mtop1_ok E_mtop1_any (f := 116) (fn := Try.f116) (c := codeOf Try.f116) (by kernel_rfl) (by kernel_rfl) (by kernel_rfl) (S := mindexf_S) (k := 1) (by kernel_rfl) (fun R hR => (lamOk_cons (c := (codeOf Try.f116)) (by kernel_rfl) (id := 0) (by kernel_rfl) (loop_ok te_ok E_mtop1_ok E_mtop1_any (sh := mindexf_s0) hR (xs := mindexf_x0) (xsMk_small (by kernel_rfl) (by kernel_rfl) hR) xsMk_pan lamOk_nil (n := 1000) (T := mindexf_U0) (fun s Q => mindexf_q0 s Q) (ok := ok0) (f := mindexf_f0 g0_r c0_r g0_0) h0) lamOk_nil)) (n := 1000) (sel := mindexf_sel) (fun v o h => by cases h; rfl) (pre := pre) (F := F) (T := fun x => mindexf_T ok0 g0_r c0_r g0_0 (x.1.1) (x.2.1.1)) (fun x Q => mindexf_q ok0 g0_r c0_r g0_0 x Q) hF

/-- The first place from one on that has the bit, or -1. -/
def firstT (l : List Tm) (i : Int) : Nat → Nat → Int
  | 0, _ => -1
  | n + 1, k => cond (bitI (l.getD k noTm0).1 i) (k : Int) (firstT l i n (k + 1))
def mindexf_ok0 (s : mindexf_s0X) : Bool := decide (s.1.2.2.1 = (s.1.1.length : Int) ∧ s.1.2.2.2.1 = 0 ∧ s.1.1.length ≤ 140737488355328)
def firstOf (l : List Tm) (i : Int) : Int := firstT l i l.length 0
def mindexf_g0r (s : mindexf_s0X) : mindexf_e0_rX := ((firstOf s.1.1 s.2.1.1, ()), s.2)
def mindexf_c0 (s : mindexf_s0X) : Bool := decide (0 ≤ firstOf s.1.1 s.2.1.1)
def mindexf_g0 (s : mindexf_s0X) : mindexf_e0_0X := ((), s.2)
def idx_st (l : List Tm) (i k : Int) : mindexf_s0X := ((l, (), (l.length : Int), k, ()), ((i, ()), ()))
theorem first_neg (l : List Tm) (i : Int) : ∀ n k, firstT l i n k = -1 ∨ 0 ≤ firstT l i n k
  | 0, _ => .inl rfl
  | n + 1, k => by
    unfold firstT
    cases bitI (l.getD k noTm0).1 i
    · exact first_neg l i n (k + 1)
    · right
      show (0 : Int) ≤ (k : Int)
      omega
theorem idx_loop (l : List Tm) (i : Int) (hl : l.length ≤ 140737488355328) : ∀ n k : Nat, k + n = l.length →
    ∃ m, loopRun mindexf_U0 m (idx_st l i (k : Int)) = some (cond (decide (0 ≤ firstT l i n k)) ⟨(.ret, mindexf_e0_r), ((firstT l i n k, ()), ((i, ()), ()))⟩ ⟨(.exit 0, mindexf_e0_0), ((), ((i, ()), ()))⟩)
  | 0, k, h => ⟨1, loopRun_out (OT.run_f (decide_eq_false (by dsimp only [idx_st]; omega)))⟩
  | n + 1, k, h => by
    have hin : inB (k : Int) l.length = true := inB_of (by omega)
    have hgd : ∀ z : OT (Sum mindexf_s0X LEnd), (gd [inB (k : Int) l.length] z).run = z.run := fun z => gd_run (by rw [hin]; rfl)
    unfold firstT
    rcases (Bool.eq_false_or_eq_true (bitI (l.getD k noTm0).1 i)).symm with hb | hb
    · obtain ⟨m, hm⟩ := idx_loop l i hl n (k + 1) (by omega)
      rw [hb]
      refine ⟨m + 1, loopRun_more ?_ hm⟩
      refine (OT.run_t (decide_eq_true (by dsimp only [idx_st]; omega))).trans ((hgd _).trans ((OT.run_f hb).trans ((gd_run ?_).trans rfl)))
      simp only [List.all_cons, List.all_nil, Bool.and_true]
      exact inR_of (by dsimp only [idx_st]; omega)
    · rw [hb]
      have e : decide ((0 : Int) ≤ cond true (k : Int) (firstT l i n (k + 1))) = true := decide_eq_true (by show (0 : Int) ≤ (k : Int); omega)
      rw [e]
      refine ⟨1, loopRun_out ?_⟩
      exact (OT.run_t (decide_eq_true (by dsimp only [idx_st]; omega))).trans ((hgd _).trans ((OT.run_t hb).trans rfl))
theorem mindexf_h0 : ∀ s : mindexf_s0X, mindexf_ok0 s = true → ∃ m e, loopRun mindexf_U0 m s = some e ∧ (mindexf_f0 mindexf_g0r mindexf_c0 mindexf_g0 s).run = some e := by
  rintro ⟨⟨l, ⟨⟩, n, k, ⟨⟩⟩, ⟨⟨i, ⟨⟩⟩, ⟨⟩⟩⟩ h
  have h' := of_decide_eq_true h
  dsimp only at h'
  obtain ⟨rfl, rfl, hl⟩ := h'
  obtain ⟨m, hm⟩ := idx_loop l i hl l.length 0 (by omega)
  refine ⟨m, _, hm, ?_⟩
  show (OT.br (decide (0 ≤ firstOf l i)) _ _ : OT LEnd).run = some (cond (decide (0 ≤ firstOf l i)) _ _)
  cases decide (0 ≤ firstOf l i) <;> rfl
def mindexf_pre (x : mindexfX) : Bool := decide (x.1.1.length ≤ 140737488355328)
def mindexf_F (x : mindexfX) : OT mindexf_S.Y := .ok ⟨mindexf_o0, ((firstOf x.1.1 x.2.1.1, ()), x.2)⟩
theorem mindexf_ok : SummOk Try.prog 116 (mindexf_S.summ mindexf_pre mindexf_F) := mindexf_main mindexf_ok0 mindexf_g0r mindexf_c0 mindexf_g0 mindexf_h0 _ _ fun x oy hp ho => by
  rw [← ho]
  clear ho
  obtain ⟨⟨l, ⟨⟩, ⟨⟩⟩, ⟨⟨i, ⟨⟩⟩, ⟨⟩⟩⟩ := x
  have hl : l.length ≤ 140737488355328 := of_decide_eq_true hp
  refine (gd_run ?_).trans ?_
  · simp only [List.all_cons, List.all_nil, Bool.and_true]
    exact decide_eq_true ⟨rfl, rfl, hl⟩
  · show (OT.br (decide (0 ≤ firstOf l i)) (.ok ⟨mindexf_o0, ((firstOf l i, ()), ((i, ()), ()))⟩) (.ok ⟨mindexf_o0, (((-1 : Int), ()), ((i, ()), ()))⟩) : OT mindexf_S.Y).run = some ⟨mindexf_o0, ((firstOf l i, ()), ((i, ()), ()))⟩
    rcases first_neg l i l.length 0 with h | h
    · have h : firstOf l i = -1 := h
      rw [h]
      rfl
    · exact OT.run_t (decide_eq_true h)

def mindexf_summ : Summ := (mindexf_S.summ mindexf_pre mindexf_F)
theorem mindexf_known : SummOk Try.prog 116 mindexf_summ := mindexf_ok
theorem mindexf_smono : MonoOk mindexf_summ := fn_mono

def E_mindexf : Env := envCons 116 mindexf_summ E_mtop1
theorem E_mindexf_ok : EnvOk Try.prog E_mindexf := envOk_cons mindexf_known E_mtop1_ok
theorem E_mindexf_mono : EnvMono E_mindexf := envMono_cons mindexf_smono E_mtop1_mono
theorem E_mindexf_any : AnyOk Try.prog te E_mindexf := any_ok follows te_ok E_mindexf_ok E_mindexf_mono

end Go.Proofs.Ytkedomfjjahjnaa

/- The function slices.ContainsFunc[[]sigil/api.Term,sigil/api.Term]: what it makes of its arguments. No statement of a seat is proved here. -/
namespace Go.Proofs.Ytkedomfjjahjnaa
open Sx Go
set_option maxRecDepth 100000

def mcontf_S : FnSpec := ⟨[.val false (.list termT), .fn 112 [0]], [(0, .cells [.val false .int])], true, 1, true⟩

abbrev mcontfX : Type := ((List ((Elem × (Elem × (Elem × Bool))))) × (Unit) × Unit) × (((Int) × Unit) × Unit)

def mcontf_o0 : OutSh := ⟨[.val false .bool], [(0, .cells [.val false .int])], false⟩

def mcontf_sel : SV → Option OutSh := fun _ => some mcontf_o0

def mcontf_T (a0 : List ((Elem × (Elem × (Elem × Bool))))) (c0_0 : Int) : OT mcontf_S.Y :=
  (gd [mindexf_pre ((a0, (), ()), (c0_0, ()), ())] (.ok ⟨mcontf_o0, ((decide ((0 : Int) ≤ firstOf a0 c0_0), ()), ((c0_0, ()), ()))⟩))

theorem mcontf_q (x : mcontfX) (Q : mcontf_S.Y → Prop) : wpf te E_mindexf lamNil 1000 Try.f111 (mcontf_S.inp.inj x).tm (mcontf_S.inp.inj x).hp (fnK mcontf_S mcontf_sel Q) (fun _ _ => False) = (mcontf_T (x.1.1) (x.2.1.1)).wpR Q := by kernel_rfl

theorem mcontf_main (pre : mcontfX → Bool) (F : mcontfX → OT mcontf_S.Y) (hF : ∀ (x : mcontfX) oy, pre x = true → (F x).run = some oy → (mcontf_T (x.1.1) (x.2.1.1)).run = some oy) : SummOk Try.prog 111 (mcontf_S.summ pre F) :=
  fn_tree te_ok E_mindexf_ok E_mindexf_any (f := 111) (fn := Try.f111) (c := codeOf Try.f111) (by kernel_rfl) (by kernel_rfl) (by kernel_rfl) (S := mcontf_S) (k := 1) (by kernel_rfl) (fun R hR => lamOk_nil) (n := 1000) (sel := mcontf_sel) (fun v o h => by cases h; rfl) (pre := pre) (F := F) (T := fun x => mcontf_T (x.1.1) (x.2.1.1)) (fun x Q => mcontf_q x Q) hF

/-- Has a term the bit? -/
def anyT (l : List Tm) (i : Int) : Bool := decide (0 ≤ firstOf l i)
def mcontf_pre (x : mcontfX) : Bool := decide (x.1.1.length ≤ 140737488355328)
def mcontf_F (x : mcontfX) : OT mcontf_S.Y := .ok ⟨mcontf_o0, ((anyT x.1.1 x.2.1.1, ()), x.2)⟩
theorem mcontf_ok : SummOk Try.prog 111 (mcontf_S.summ mcontf_pre mcontf_F) := mcontf_main _ _ fun x oy hp ho => by
  rw [← ho]
  clear ho
  refine (gd_run ?_).trans rfl
  simp only [List.all_cons, List.all_nil, Bool.and_true]
  exact hp

def mcontf_summ : Summ := (mcontf_S.summ mcontf_pre mcontf_F)
theorem mcontf_known : SummOk Try.prog 111 mcontf_summ := mcontf_ok
theorem mcontf_smono : MonoOk mcontf_summ := fn_mono

def E_mcontf : Env := envCons 111 mcontf_summ E_mindexf
theorem E_mcontf_ok : EnvOk Try.prog E_mcontf := envOk_cons mcontf_known E_mindexf_ok
theorem E_mcontf_mono : EnvMono E_mcontf := envMono_cons mcontf_smono E_mindexf_mono
theorem E_mcontf_any : AnyOk Try.prog te E_mcontf := any_ok follows te_ok E_mcontf_ok E_mcontf_mono

end Go.Proofs.Ytkedomfjjahjnaa

/- The function sigil/msm.top: what it makes of its arguments. No statement of a seat is proved here. -/
namespace Go.Proofs.Ytkedomfjjahjnaa
open Sx Go
set_option maxRecDepth 100000

def mtop_S : FnSpec := ⟨[.val false (.list termT)], [], true, 0, false⟩

abbrev mtopX : Type := ((List ((Elem × (Elem × (Elem × Bool))))) × Unit) × (Unit)

def mtop_s0 : Shape := ⟨14, [(0, .val false (.list (.prod .elem (.prod .elem (.prod .elem .bool))))), (3, .ptr 0 0 0)], [(0, .cells [.val false .int])], 0, true⟩

abbrev mtop_s0X : Type := ((List ((Elem × (Elem × (Elem × Bool))))) × (Unit) × Unit) × (((Int) × Unit) × Unit)

def mtop_e0_r : Shape := ⟨14, [(2, .val false .int)], [], 0, true⟩

abbrev mtop_e0_rX : Type := ((Int) × Unit) × (Unit)

def mtop_e0_0 : Shape := ⟨14, [], [], 0, true⟩

abbrev mtop_e0_0X : Type := (Unit) × (Unit)

def mtop_x0 : SE → Option Shape := xsMk [(0, mtop_e0_0)] (some mtop_e0_r)

def mtop_T0 (a0 : List ((Elem × (Elem × (Elem × Bool))))) (c0_0 : Int) : OT (Sum mtop_s0X LEnd) :=
  (.br (decide ((0 : Int) ≤ c0_0))
  (gd [mcontf_pre ((a0, (), ()), (c0_0, ()), ())] (.br (anyT a0 c0_0)
    (gd [inR (c0_0 + (1 : Int))] (.ok (.inr ⟨(.ret, mtop_e0_r), ((c0_0 + (1 : Int), ()), ())⟩)))
    (gd [inR (c0_0 - (1 : Int))] (.ok (.inl ((a0, ((), ())), ((c0_0 - (1 : Int), ()), ())))))))
  (.ok (.inr ⟨(.exit 0, mtop_e0_0), ((), ())⟩)))

def mtop_U0 (s : mtop_s0X) : OT (Sum mtop_s0X LEnd) := mtop_T0 (s.1.1) (s.2.1.1)

theorem mtop_q0 (s : mtop_s0X) (Q : Sum mtop_s0X LEnd → Prop) : wps te E_mcontf lamNil 1000 (loopOf (codeOf Try.f95) 0) (mtop_s0.inj s) (stepK mtop_s0 mtop_x0 (Q : Sum mtop_s0.T LEnd → Prop)) = (mtop_U0 s).wpR Q := by kernel_rfl

def mtop_f0 (g0_r : mtop_s0X → mtop_e0_rX) (c0_r : mtop_s0X → Bool) (g0_0 : mtop_s0X → mtop_e0_0X) (s : mtop_s0X) : OT LEnd := (.br (c0_r s) (.ok ⟨(.ret, mtop_e0_r), g0_r s⟩) (.ok ⟨(.exit 0, mtop_e0_0), g0_0 s⟩))

def mtop_o0 : OutSh := ⟨[.val false .int], [], false⟩

def mtop_sel : SV → Option OutSh := fun _ => some mtop_o0

def mtop_T (ok0 : mtop_s0X → Bool) (g0_r : mtop_s0X → mtop_e0_rX) (c0_r : mtop_s0X → Bool) (g0_0 : mtop_s0X → mtop_e0_0X) (a0 : List ((Elem × (Elem × (Elem × Bool))))) : OT mtop_S.Y :=
  let z0 : (List (Elem × Elem × Elem × Bool) × PUnit × PUnit) × (Int × PUnit) × PUnit := ((a0, (), ()), ((255 : Int), ()), ())
  (gd [ok0 z0] (.br (c0_r z0)
  (.ok ⟨mtop_o0, (((g0_r z0).fst.fst, ()), ())⟩)
  (.ok ⟨mtop_o0, (((0 : Int), ()), ())⟩)))

theorem mtop_q (ok0 : mtop_s0X → Bool) (g0_r : mtop_s0X → mtop_e0_rX) (c0_r : mtop_s0X → Bool) (g0_0 : mtop_s0X → mtop_e0_0X) (x : mtopX) (Q : mtop_S.Y → Prop) : wpf te E_mcontf (lamCons 0 (loopF mtop_s0 0 ok0 (mtop_f0 g0_r c0_r g0_0)) lamNil) 1000 Try.f95 (mtop_S.inp.inj x).tm (mtop_S.inp.inj x).hp (fnK mtop_S mtop_sel Q) (fun _ _ => False) = (mtop_T ok0 g0_r c0_r g0_0 (x.1.1)).wpR Q := by kernel_rfl

theorem mtop_main (ok0 : mtop_s0X → Bool) (g0_r : mtop_s0X → mtop_e0_rX) (c0_r : mtop_s0X → Bool) (g0_0 : mtop_s0X → mtop_e0_0X) (h0 : ∀ s : mtop_s0X, ok0 s = true → ∃ m e, loopRun (mtop_U0) m s = some e ∧ (mtop_f0 g0_r c0_r g0_0 s).run = some e) (pre : mtopX → Bool) (F : mtopX → OT mtop_S.Y) (hF : ∀ (x : mtopX) oy, pre x = true → (F x).run = some oy → (mtop_T ok0 g0_r c0_r g0_0 (x.1.1)).run = some oy) : SummOk Try.prog 95 (mtop_S.summ pre F) :=
  fn_tree te_ok E_mcontf_ok E_mcontf_any (f := 95) (fn := Try.f95) (c := codeOf Try.f95) (by kernel_rfl) (by kernel_rfl) (by kernel_rfl) (S := mtop_S) (k := 0) (by kernel_rfl) (fun R hR => (lamOk_cons (c := (codeOf Try.f95)) (by kernel_rfl) (id := 0) (by kernel_rfl) (loop_ok te_ok E_mcontf_ok E_mcontf_any (sh := mtop_s0) hR (xs := mtop_x0) (xsMk_small (by kernel_rfl) (by kernel_rfl) hR) xsMk_pan lamOk_nil (n := 1000) (T := mtop_U0) (fun s Q => mtop_q0 s Q) (ok := ok0) (f := mtop_f0 g0_r c0_r g0_0) h0) lamOk_nil)) (n := 1000) (sel := mtop_sel) (fun v o h => by cases h; rfl) (pre := pre) (F := F) (T := fun x => mtop_T ok0 g0_r c0_r g0_0 (x.1.1)) (fun x Q => mtop_q ok0 g0_r c0_r g0_0 x Q) hF

/-- How many bits the greatest scalar has, of the first so many. -/
def topB (l : List Tm) : Nat → Nat
  | 0 => 0
  | n + 1 => cond (anyT l (n : Int)) (n + 1) (topB l n)
def topT (l : List Tm) : Nat := topB l 256
def mtop_ok0 (s : mtop_s0X) : Bool := decide (s.2.1.1 = 255 ∧ s.1.1.length ≤ 140737488355328)
def mtop_g0r (s : mtop_s0X) : mtop_e0_rX := (((topT s.1.1 : Int), ()), ())
def mtop_c0 (s : mtop_s0X) : Bool := decide ((0 : Int) < (topT s.1.1 : Int))
def mtop_g0 (_ : mtop_s0X) : mtop_e0_0X := ((), ())
def top_st (l : List Tm) (i : Int) : mtop_s0X := ((l, (), ()), ((i, ()), ()))
theorem top_loop (l : List Tm) (hl : l.length ≤ 140737488355328) : ∀ n : Nat, n ≤ 256 →
    ∃ m, loopRun mtop_U0 m (top_st l ((n : Int) - 1)) = some (cond (decide ((0 : Int) < (topB l n : Int))) ⟨(.ret, mtop_e0_r), (((topB l n : Int), ()), ())⟩ ⟨(.exit 0, mtop_e0_0), ((), ())⟩)
  | 0, _ => ⟨1, loopRun_out (OT.run_f (decide_eq_false (by dsimp only [top_st]; omega)))⟩
  | n + 1, h => by
    rw [show ((n + 1 : Nat) : Int) - 1 = (n : Int) by omega]
    have hgd : ∀ z : OT (Sum mtop_s0X LEnd), (gd [mcontf_pre ((l, (), ()), ((n : Int), ()), ())] z).run = z.run := fun z => gd_run (by
      simp only [List.all_cons, List.all_nil, Bool.and_true]
      exact decide_eq_true hl)
    unfold topB
    rcases (Bool.eq_false_or_eq_true (anyT l (n : Int))).symm with hb | hb
    · obtain ⟨m, hm⟩ := top_loop l hl n (by omega)
      rw [hb]
      refine ⟨m + 1, loopRun_more ?_ hm⟩
      refine (OT.run_t (decide_eq_true (by dsimp only [top_st]; omega))).trans ((hgd _).trans ((OT.run_f hb).trans ((gd_run ?_).trans rfl)))
      simp only [List.all_cons, List.all_nil, Bool.and_true]
      exact inR_of (by dsimp only [top_st]; omega)
    · rw [hb]
      simp only [cond_true]
      rw [decide_eq_true (show (0 : Int) < ((n + 1 : Nat) : Int) by omega)]
      refine ⟨1, loopRun_out ?_⟩
      refine (OT.run_t (decide_eq_true (by dsimp only [top_st]; omega))).trans ((hgd _).trans ((OT.run_t hb).trans ((gd_run ?_).trans rfl)))
      simp only [List.all_cons, List.all_nil, Bool.and_true]
      exact inR_of (by dsimp only [top_st]; omega)
theorem mtop_h0 : ∀ s : mtop_s0X, mtop_ok0 s = true → ∃ m e, loopRun mtop_U0 m s = some e ∧ (mtop_f0 mtop_g0r mtop_c0 mtop_g0 s).run = some e := by
  rintro ⟨⟨l, ⟨⟩, ⟨⟩⟩, ⟨⟨i, ⟨⟩⟩, ⟨⟩⟩⟩ h
  have h' := of_decide_eq_true h
  dsimp only at h'
  obtain ⟨rfl, hl⟩ := h'
  obtain ⟨m, hm⟩ := top_loop l hl 256 (by omega)
  refine ⟨m, _, hm, ?_⟩
  show (OT.br (decide ((0 : Int) < (topB l 256 : Int))) _ _ : OT LEnd).run = some (cond (decide ((0 : Int) < (topB l 256 : Int))) _ _)
  cases decide ((0 : Int) < (topB l 256 : Int)) <;> rfl
def mtop_pre (x : mtopX) : Bool := decide (x.1.1.length ≤ 140737488355328)
def mtop_F (x : mtopX) : OT mtop_S.Y := .ok ⟨mtop_o0, (((topT x.1.1 : Int), ()), ())⟩
theorem mtop_ok : SummOk Try.prog 95 (mtop_S.summ mtop_pre mtop_F) := mtop_main mtop_ok0 mtop_g0r mtop_c0 mtop_g0 mtop_h0 _ _ fun x oy hp ho => by
  rw [← ho]
  clear ho
  obtain ⟨⟨l, ⟨⟩⟩, ⟨⟩⟩ := x
  have hl : l.length ≤ 140737488355328 := of_decide_eq_true hp
  refine (gd_run ?_).trans ?_
  · simp only [List.all_cons, List.all_nil, Bool.and_true]
    exact decide_eq_true ⟨rfl, hl⟩
  · show (OT.br (decide ((0 : Int) < (topT l : Int))) (.ok ⟨mtop_o0, (((topT l : Int), ()), ())⟩) (.ok ⟨mtop_o0, (((0 : Int), ()), ())⟩) : OT mtop_S.Y).run = some ⟨mtop_o0, (((topT l : Int), ()), ())⟩
    by_cases h : (0 : Int) < (topT l : Int)
    · exact OT.run_t (decide_eq_true h)
    · have e : topT l = 0 := by omega
      rw [e]
      rfl

def mtop_summ : Summ := (mtop_S.summ mtop_pre mtop_F)
theorem mtop_known : SummOk Try.prog 95 mtop_summ := mtop_ok
theorem mtop_smono : MonoOk mtop_summ := fn_mono

def E_mtop : Env := envCons 95 mtop_summ E_mcontf
theorem E_mtop_ok : EnvOk Try.prog E_mtop := envOk_cons mtop_known E_mcontf_ok
theorem E_mtop_mono : EnvMono E_mtop := envMono_cons mtop_smono E_mcontf_mono
theorem E_mtop_any : AnyOk Try.prog te E_mtop := any_ok follows te_ok E_mtop_ok E_mtop_mono

end Go.Proofs.Ytkedomfjjahjnaa

/- The function sigil/msm.buckets: what it makes of its arguments. No statement of a seat is proved here. -/
namespace Go.Proofs.Ytkedomfjjahjnaa
open Sx Go
set_option maxRecDepth 100000

def mbuckets_S : FnSpec := ⟨[.val false .int, .val false (.list termT), .val false .int], [], true, 0, false⟩

abbrev mbucketsX : Type := ((Int) × (List ((Elem × (Elem × (Elem × Bool))))) × (Int) × Unit) × (Unit)

def mbuckets_s0 : Shape := ⟨74, [(0, .val false .int), (1, .val false (.list (.prod .elem (.prod .elem (.prod .elem .bool))))), (2, .val false .int), (6, .ptr 0 0 0), (7, .ptr 1 0 0), (16, .val false .int)], [(0, .cells [.val false .u64, .val false .u64, .val false .u64, .val false .u64, .val false .u64, .val false .u64, .val false .u64, .val false .u64, .val false .bool]), (1, .row (.prod .elem (.prod .elem .bool)))], 0, true⟩

abbrev mbuckets_s0X : Type := ((Int) × (List ((Elem × (Elem × (Elem × Bool))))) × (Int) × (Unit) × (Unit) × (Int) × Unit) × (((UInt64) × (UInt64) × (UInt64) × (UInt64) × (UInt64) × (UInt64) × (UInt64) × (UInt64) × (Bool) × Unit) × (List ((Elem × (Elem × Bool)))) × Unit)

def mbuckets_e0_0 : Shape := ⟨74, [(0, .val false .int), (1, .val false (.list (.prod .elem (.prod .elem (.prod .elem .bool))))), (2, .val false .int), (6, .ptr 0 0 0), (7, .ptr 1 0 0)], [(0, .cells [.val false .u64, .val false .u64, .val false .u64, .val false .u64, .val false .u64, .val false .u64, .val false .u64, .val false .u64, .val false .bool]), (1, .row (.prod .elem (.prod .elem .bool)))], 0, true⟩

abbrev mbuckets_e0_0X : Type := ((Int) × (List ((Elem × (Elem × (Elem × Bool))))) × (Int) × (Unit) × (Unit) × Unit) × (((UInt64) × (UInt64) × (UInt64) × (UInt64) × (UInt64) × (UInt64) × (UInt64) × (UInt64) × (Bool) × Unit) × (List ((Elem × (Elem × Bool)))) × Unit)

def mbuckets_x0 : SE → Option Shape := xsMk [(0, mbuckets_e0_0)] none

def mbuckets_T0 (a0 : Int) (a1 : List ((Elem × (Elem × (Elem × Bool))))) (a2 : Int) (a16 : Int) (c0_0 : UInt64) (c0_1 : UInt64) (c0_2 : UInt64) (c0_3 : UInt64) (c0_4 : UInt64) (c0_5 : UInt64) (c0_6 : UInt64) (c0_7 : UInt64) (c0_8 : Bool) (c1 : List ((Elem × (Elem × Bool)))) : OT (Sum mbuckets_s0X LEnd) :=
  let z0 : Elem := { w0 := (0 : UInt64), w1 := (0 : UInt64), w2 := (0 : UInt64), w3 := (0 : UInt64) }
  (.br (decide (a16 < (15 : Int)))
  (gd [inB a16 (15 : Nat), decide (Int.toNat a16 + (0 : Nat) < List.length c1), inR (a16 + (1 : Int))] (.ok (.inl ((a0, (a1, (a2, ((), ((), (a16 + (1 : Int), ())))))), ((c0_0, (c0_1, (c0_2, (c0_3, (c0_4, (c0_5, (c0_6, (c0_7, (c0_8, ()))))))))), (List.set c1 (Int.toNat a16 + (0 : Nat)) (z0, z0, true), ()))))))
  (.ok (.inr ⟨(.exit 0, mbuckets_e0_0), ((a0, (a1, (a2, ((), ((), ()))))), ((c0_0, (c0_1, (c0_2, (c0_3, (c0_4, (c0_5, (c0_6, (c0_7, (c0_8, ()))))))))), (c1, ())))⟩)))

def mbuckets_U0 (s : mbuckets_s0X) : OT (Sum mbuckets_s0X LEnd) := mbuckets_T0 (s.1.1) (s.1.2.1) (s.1.2.2.1) (s.1.2.2.2.2.2.1) (s.2.1.1) (s.2.1.2.1) (s.2.1.2.2.1) (s.2.1.2.2.2.1) (s.2.1.2.2.2.2.1) (s.2.1.2.2.2.2.2.1) (s.2.1.2.2.2.2.2.2.1) (s.2.1.2.2.2.2.2.2.2.1) (s.2.1.2.2.2.2.2.2.2.2.1) (s.2.2.1)

theorem mbuckets_q0 (s : mbuckets_s0X) (Q : Sum mbuckets_s0X LEnd → Prop) : wps te E_mtop lamNil 1000 (loopOf (codeOf Try.f96) 0) (mbuckets_s0.inj s) (stepK mbuckets_s0 mbuckets_x0 (Q : Sum mbuckets_s0.T LEnd → Prop)) = (mbuckets_U0 s).wpR Q := by kernel_rfl

def mbuckets_f0 (g0_0 : mbuckets_s0X → mbuckets_e0_0X) (s : mbuckets_s0X) : OT LEnd := (.ok ⟨(.exit 0, mbuckets_e0_0), g0_0 s⟩)

def mbuckets_s2 : Shape := ⟨74, [(0, .val false .int), (2, .val false .int), (6, .ptr 0 0 0), (7, .ptr 1 0 0), (23, .val false (.list (.prod .elem (.prod .elem (.prod .elem .bool))))), (24, .val false .int), (25, .val false .int)], [(0, .cells [.val false .u64, .val false .u64, .val false .u64, .val false .u64, .val false .u64, .val false .u64, .val false .u64, .val false .u64, .val false .bool]), (1, .row (.prod .elem (.prod .elem .bool)))], 0, true⟩

abbrev mbuckets_s2X : Type := ((Int) × (Int) × (Unit) × (Unit) × (List ((Elem × (Elem × (Elem × Bool))))) × (Int) × (Int) × Unit) × (((UInt64) × (UInt64) × (UInt64) × (UInt64) × (UInt64) × (UInt64) × (UInt64) × (UInt64) × (Bool) × Unit) × (List ((Elem × (Elem × Bool)))) × Unit)

def mbuckets_s4 : Shape := ⟨74, [(0, .val false .int), (2, .val false .int), (6, .ptr 0 0 0), (7, .ptr 1 0 0), (10, .ptr 2 0 0), (11, .val false .int), (23, .val false (.list (.prod .elem (.prod .elem (.prod .elem .bool))))), (24, .val false .int), (25, .val false .int), (29, .val false .int)], [(0, .cells [.val false .u64, .val false .u64, .val false .u64, .val false .u64, .val false .u64, .val false .u64, .val false .u64, .val false .u64, .val false .bool]), (1, .row (.prod .elem (.prod .elem .bool))), (2, .cells [.val false .u64, .val false .u64, .val false .u64, .val false .u64, .val false .u64, .val false .u64, .val false .u64, .val false .u64, .val false .u64, .val false .u64, .val false .u64, .val false .u64, .val false .bool])], 0, true⟩

abbrev mbuckets_s4X : Type := ((Int) × (Int) × (Unit) × (Unit) × (Unit) × (Int) × (List ((Elem × (Elem × (Elem × Bool))))) × (Int) × (Int) × (Int) × Unit) × (((UInt64) × (UInt64) × (UInt64) × (UInt64) × (UInt64) × (UInt64) × (UInt64) × (UInt64) × (Bool) × Unit) × (List ((Elem × (Elem × Bool)))) × ((UInt64) × (UInt64) × (UInt64) × (UInt64) × (UInt64) × (UInt64) × (UInt64) × (UInt64) × (UInt64) × (UInt64) × (UInt64) × (UInt64) × (Bool) × Unit) × Unit)

def mbuckets_e4_4 : Shape := ⟨74, [(0, .val false .int), (2, .val false .int), (6, .ptr 0 0 0), (7, .ptr 1 0 0), (10, .ptr 2 0 0), (11, .val false .int), (23, .val false (.list (.prod .elem (.prod .elem (.prod .elem .bool))))), (24, .val false .int), (25, .val false .int)], [(0, .cells [.val false .u64, .val false .u64, .val false .u64, .val false .u64, .val false .u64, .val false .u64, .val false .u64, .val false .u64, .val false .bool]), (1, .row (.prod .elem (.prod .elem .bool))), (2, .cells [.val false .u64, .val false .u64, .val false .u64, .val false .u64, .val false .u64, .val false .u64, .val false .u64, .val false .u64, .val false .u64, .val false .u64, .val false .u64, .val false .u64, .val false .bool])], 0, true⟩

abbrev mbuckets_e4_4X : Type := ((Int) × (Int) × (Unit) × (Unit) × (Unit) × (Int) × (List ((Elem × (Elem × (Elem × Bool))))) × (Int) × (Int) × Unit) × (((UInt64) × (UInt64) × (UInt64) × (UInt64) × (UInt64) × (UInt64) × (UInt64) × (UInt64) × (Bool) × Unit) × (List ((Elem × (Elem × Bool)))) × ((UInt64) × (UInt64) × (UInt64) × (UInt64) × (UInt64) × (UInt64) × (UInt64) × (UInt64) × (UInt64) × (UInt64) × (UInt64) × (UInt64) × (Bool) × Unit) × Unit)

def mbuckets_x4 : SE → Option Shape := xsMk [(4, mbuckets_e4_4)] none

def mbuckets_T4 (a0 : Int) (a2 : Int) (a11 : Int) (a23 : List ((Elem × (Elem × (Elem × Bool))))) (a24 : Int) (a25 : Int) (a29 : Int) (c0_0 : UInt64) (c0_1 : UInt64) (c0_2 : UInt64) (c0_3 : UInt64) (c0_4 : UInt64) (c0_5 : UInt64) (c0_6 : UInt64) (c0_7 : UInt64) (c0_8 : Bool) (c1 : List ((Elem × (Elem × Bool)))) (c2_0 : UInt64) (c2_1 : UInt64) (c2_2 : UInt64) (c2_3 : UInt64) (c2_4 : UInt64) (c2_5 : UInt64) (c2_6 : UInt64) (c2_7 : UInt64) (c2_8 : UInt64) (c2_9 : UInt64) (c2_10 : UInt64) (c2_11 : UInt64) (c2_12 : Bool) : OT (Sum mbuckets_s4X LEnd) :=
  let z0 : Bool := inR (a29 + (1 : Int))
  (.br (decide (a29 < (4 : Int)))
  (gd [inR (a2 + a29)] (.br (bitI { w0 := c2_0, w1 := c2_1, w2 := c2_2, w3 := c2_3 } (a2 + a29))
    (gd [decide ((0 : Int) ≤ a29), z0] (.ok (.inl ((a0, (a2, ((), ((), ((), (ior a11 (ishl (1 : Int) a29), (a23, (a24, (a25, (a29 + (1 : Int), ())))))))))), ((c0_0, (c0_1, (c0_2, (c0_3, (c0_4, (c0_5, (c0_6, (c0_7, (c0_8, ()))))))))), (c1, ((c2_0, (c2_1, (c2_2, (c2_3, (c2_4, (c2_5, (c2_6, (c2_7, (c2_8, (c2_9, (c2_10, (c2_11, (c2_12, ()))))))))))))), ())))))))
    (gd [z0] (.ok (.inl ((a0, (a2, ((), ((), ((), (a11, (a23, (a24, (a25, (a29 + (1 : Int), ())))))))))), ((c0_0, (c0_1, (c0_2, (c0_3, (c0_4, (c0_5, (c0_6, (c0_7, (c0_8, ()))))))))), (c1, ((c2_0, (c2_1, (c2_2, (c2_3, (c2_4, (c2_5, (c2_6, (c2_7, (c2_8, (c2_9, (c2_10, (c2_11, (c2_12, ()))))))))))))), ())))))))))
  (.ok (.inr ⟨(.exit 4, mbuckets_e4_4), ((a0, (a2, ((), ((), ((), (a11, (a23, (a24, (a25, ()))))))))), ((c0_0, (c0_1, (c0_2, (c0_3, (c0_4, (c0_5, (c0_6, (c0_7, (c0_8, ()))))))))), (c1, ((c2_0, (c2_1, (c2_2, (c2_3, (c2_4, (c2_5, (c2_6, (c2_7, (c2_8, (c2_9, (c2_10, (c2_11, (c2_12, ()))))))))))))), ()))))⟩)))

def mbuckets_U4 (s : mbuckets_s4X) : OT (Sum mbuckets_s4X LEnd) := mbuckets_T4 (s.1.1) (s.1.2.1) (s.1.2.2.2.2.2.1) (s.1.2.2.2.2.2.2.1) (s.1.2.2.2.2.2.2.2.1) (s.1.2.2.2.2.2.2.2.2.1) (s.1.2.2.2.2.2.2.2.2.2.1) (s.2.1.1) (s.2.1.2.1) (s.2.1.2.2.1) (s.2.1.2.2.2.1) (s.2.1.2.2.2.2.1) (s.2.1.2.2.2.2.2.1) (s.2.1.2.2.2.2.2.2.1) (s.2.1.2.2.2.2.2.2.2.1) (s.2.1.2.2.2.2.2.2.2.2.1) (s.2.2.1) (s.2.2.2.1.1) (s.2.2.2.1.2.1) (s.2.2.2.1.2.2.1) (s.2.2.2.1.2.2.2.1) (s.2.2.2.1.2.2.2.2.1) (s.2.2.2.1.2.2.2.2.2.1) (s.2.2.2.1.2.2.2.2.2.2.1) (s.2.2.2.1.2.2.2.2.2.2.2.1) (s.2.2.2.1.2.2.2.2.2.2.2.2.1) (s.2.2.2.1.2.2.2.2.2.2.2.2.2.1) (s.2.2.2.1.2.2.2.2.2.2.2.2.2.2.1) (s.2.2.2.1.2.2.2.2.2.2.2.2.2.2.2.1) (s.2.2.2.1.2.2.2.2.2.2.2.2.2.2.2.2.1)

theorem mbuckets_q4 (s : mbuckets_s4X) (Q : Sum mbuckets_s4X LEnd → Prop) : wps te E_mtop lamNil 1000 (loopOf (loopOf (codeOf Try.f96) 2) 4) (mbuckets_s4.inj s) (stepK mbuckets_s4 mbuckets_x4 (Q : Sum mbuckets_s4.T LEnd → Prop)) = (mbuckets_U4 s).wpR Q := by kernel_rfl

def mbuckets_f4 (g4_4 : mbuckets_s4X → mbuckets_e4_4X) (s : mbuckets_s4X) : OT LEnd := (.ok ⟨(.exit 4, mbuckets_e4_4), g4_4 s⟩)

def mbuckets_e2_2 : Shape := ⟨74, [(0, .val false .int), (6, .ptr 0 0 0), (7, .ptr 1 0 0)], [(0, .cells [.val false .u64, .val false .u64, .val false .u64, .val false .u64, .val false .u64, .val false .u64, .val false .u64, .val false .u64, .val false .bool]), (1, .row (.prod .elem (.prod .elem .bool)))], 0, true⟩

abbrev mbuckets_e2_2X : Type := ((Int) × (Unit) × (Unit) × Unit) × (((UInt64) × (UInt64) × (UInt64) × (UInt64) × (UInt64) × (UInt64) × (UInt64) × (UInt64) × (Bool) × Unit) × (List ((Elem × (Elem × Bool)))) × Unit)

def mbuckets_x2 : SE → Option Shape := xsMk [(2, mbuckets_e2_2)] none

def mbuckets_T2 (ok4 : mbuckets_s4X → Bool) (g4_4 : mbuckets_s4X → mbuckets_e4_4X) (a0 : Int) (a2 : Int) (a23 : List ((Elem × (Elem × (Elem × Bool))))) (a24 : Int) (a25 : Int) (c0_0 : UInt64) (c0_1 : UInt64) (c0_2 : UInt64) (c0_3 : UInt64) (c0_4 : UInt64) (c0_5 : UInt64) (c0_6 : UInt64) (c0_7 : UInt64) (c0_8 : Bool) (c1 : List ((Elem × (Elem × Bool)))) : OT (Sum mbuckets_s2X LEnd) :=
  let z0 : Elem := { w0 := (0 : UInt64), w1 := (0 : UInt64), w2 := (0 : UInt64), w3 := (0 : UInt64) }
  let z1 : Elem × Elem × Bool := (z0, z0, false)
  let z2 : Elem × Elem × Elem × Bool := List.getD a23 (Int.toNat a25) (z0, z1)
  let z3 : Elem := z2.fst
  let z4 : Elem × Elem × Bool := z2.snd
  let z5 : Elem := z4.fst
  let z6 : Elem × Bool := z4.snd
  let z7 : Elem := z6.fst
  let z8 : (Int × Int × PUnit × PUnit × PUnit × Int × List (Elem × Elem × Elem × Bool) × Int × Int × Int × PUnit) × (UInt64 × UInt64 × UInt64 × UInt64 × UInt64 × UInt64 × UInt64 × UInt64 × Bool × PUnit) × List (Elem × Elem × Bool) × (UInt64 × UInt64 × UInt64 × UInt64 × UInt64 × UInt64 × UInt64 × UInt64 × UInt64 × UInt64 × UInt64 × UInt64 × Bool × PUnit) × PUnit := ((a0, a2, (), (), (), (0 : Int), a23, a24, a25, (0 : Int), ()), (c0_0, c0_1, c0_2, c0_3, c0_4, c0_5, c0_6, c0_7, c0_8, ()), c1, (z3.w0, z3.w1, z3.w2, z3.w3, z5.w0, z5.w1, z5.w2, z5.w3, z7.w0, z7.w1, z7.w2, z7.w3, z6.snd, ()), ())
  let z9 : (Int × Int × PUnit × PUnit × PUnit × Int × List (Elem × Elem × Elem × Bool) × Int × Int × PUnit) × (UInt64 × UInt64 × UInt64 × UInt64 × UInt64 × UInt64 × UInt64 × UInt64 × Bool × PUnit) × List (Elem × Elem × Bool) × (UInt64 × UInt64 × UInt64 × UInt64 × UInt64 × UInt64 × UInt64 × UInt64 × UInt64 × UInt64 × UInt64 × UInt64 × Bool × PUnit) × PUnit := g4_4 z8
  let z10 : Int × Int × PUnit × PUnit × PUnit × Int × List (Elem × Elem × Elem × Bool) × Int × Int × PUnit := z9.fst
  let z11 : Int × PUnit × PUnit × PUnit × Int × List (Elem × Elem × Elem × Bool) × Int × Int × PUnit := z10.snd
  let z12 : Int × List (Elem × Elem × Elem × Bool) × Int × Int × PUnit := z11.snd.snd.snd.snd
  let z13 : Int := z12.fst
  let z14 : Bool := inR (z13 - (1 : Int))
  let z15 : Bool := inB (z13 - (1 : Int)) (15 : Nat)
  let z16 : (UInt64 × UInt64 × UInt64 × UInt64 × UInt64 × UInt64 × UInt64 × UInt64 × Bool × PUnit) × List (Elem × Elem × Bool) × (UInt64 × UInt64 × UInt64 × UInt64 × UInt64 × UInt64 × UInt64 × UInt64 × UInt64 × UInt64 × UInt64 × UInt64 × Bool × PUnit) × PUnit := z9.snd
  let z17 : List (Elem × Elem × Bool) × (UInt64 × UInt64 × UInt64 × UInt64 × UInt64 × UInt64 × UInt64 × UInt64 × UInt64 × UInt64 × UInt64 × UInt64 × Bool × PUnit) × PUnit := z16.snd
  let z18 : List (Elem × Elem × Bool) := z17.fst
  let z19 : Bool := decide (Int.toNat (z13 - (1 : Int)) + (0 : Nat) < List.length z18)
  let z20 : List (Elem × Elem × Elem × Bool) × Int × Int × PUnit := z12.snd
  let z21 : Int × Int × PUnit := z20.snd
  let z22 : Bool := inR (z21.snd.fst + (1 : Int))
  let z23 : Int := z10.fst
  let z24 : Int := z11.fst
  let z25 : List (Elem × Elem × Elem × Bool) := z20.fst
  let z26 : Int := z21.fst
  let z27 : UInt64 × UInt64 × UInt64 × UInt64 × UInt64 × UInt64 × UInt64 × UInt64 × Bool × PUnit := z16.fst
  let z28 : UInt64 := z27.fst
  let z29 : UInt64 × UInt64 × UInt64 × UInt64 × UInt64 × UInt64 × UInt64 × Bool × PUnit := z27.snd
  let z30 : UInt64 := z29.fst
  let z31 : UInt64 × UInt64 × UInt64 × UInt64 × UInt64 × UInt64 × Bool × PUnit := z29.snd
  let z32 : UInt64 := z31.fst
  let z33 : UInt64 × UInt64 × UInt64 × UInt64 × UInt64 × Bool × PUnit := z31.snd
  let z34 : UInt64 := z33.fst
  let z35 : UInt64 × UInt64 × UInt64 × UInt64 × Bool × PUnit := z33.snd
  let z36 : UInt64 := z35.fst
  let z37 : UInt64 × UInt64 × UInt64 × Bool × PUnit := z35.snd
  let z38 : UInt64 := z37.fst
  let z39 : UInt64 × UInt64 × Bool × PUnit := z37.snd
  let z40 : UInt64 := z39.fst
  let z41 : UInt64 × Bool × PUnit := z39.snd
  let z42 : UInt64 := z41.fst
  let z43 : Bool := z41.snd.fst
  let z44 : UInt64 × UInt64 × UInt64 × UInt64 × UInt64 × UInt64 × UInt64 × UInt64 × Bool × PUnit := z17.snd.fst.snd.snd.snd.snd
  let z45 : UInt64 × UInt64 × UInt64 × UInt64 × UInt64 × UInt64 × UInt64 × Bool × PUnit := z44.snd
  let z46 : UInt64 × UInt64 × UInt64 × UInt64 × UInt64 × UInt64 × Bool × PUnit := z45.snd
  let z47 : UInt64 × UInt64 × UInt64 × UInt64 × UInt64 × Bool × PUnit := z46.snd
  let z48 : UInt64 × UInt64 × UInt64 × UInt64 × Bool × PUnit := z47.snd
  let z49 : UInt64 × UInt64 × UInt64 × Bool × PUnit := z48.snd
  let z50 : UInt64 × UInt64 × Bool × PUnit := z49.snd
  let z51 : UInt64 × Bool × PUnit := z50.snd
  (.br (decide (a25 < a24))
  (gd [inB a25 (List.length a23), ok4 z8] (.br (decide ((0 : Int) < z13))
    (gd [z14, z14, z15, z19, z15, z19, z22] (.ok (.inl ((z23, (z24, ((), ((), (z25, (z26, (z21.snd.fst + (1 : Int), ()))))))), ((z28, (z30, (z32, (z34, (z36, (z38, (z40, (z42, (z43, ()))))))))), (List.set z18 (Int.toNat (z13 - (1 : Int)) + (0 : Nat)) (addPt z23 (List.getD z18 (Int.toNat (z13 - (1 : Int)) + (0 : Nat)) z1) ({ w0 := z44.fst, w1 := z45.fst, w2 := z46.fst, w3 := z47.fst }, { w0 := z48.fst, w1 := z49.fst, w2 := z50.fst, w3 := z51.fst }, z51.snd.fst)), ()))))))
    (gd [z22] (.ok (.inl ((z23, (z24, ((), ((), (z25, (z26, (z21.snd.fst + (1 : Int), ()))))))), ((z28, (z30, (z32, (z34, (z36, (z38, (z40, (z42, (z43, ()))))))))), (z18, ()))))))))
  (.ok (.inr ⟨(.exit 2, mbuckets_e2_2), ((a0, ((), ((), ()))), ((c0_0, (c0_1, (c0_2, (c0_3, (c0_4, (c0_5, (c0_6, (c0_7, (c0_8, ()))))))))), (c1, ())))⟩)))

def mbuckets_U2 (ok4 : mbuckets_s4X → Bool) (g4_4 : mbuckets_s4X → mbuckets_e4_4X) (s : mbuckets_s2X) : OT (Sum mbuckets_s2X LEnd) := mbuckets_T2 ok4 g4_4 (s.1.1) (s.1.2.1) (s.1.2.2.2.2.1) (s.1.2.2.2.2.2.1) (s.1.2.2.2.2.2.2.1) (s.2.1.1) (s.2.1.2.1) (s.2.1.2.2.1) (s.2.1.2.2.2.1) (s.2.1.2.2.2.2.1) (s.2.1.2.2.2.2.2.1) (s.2.1.2.2.2.2.2.2.1) (s.2.1.2.2.2.2.2.2.2.1) (s.2.1.2.2.2.2.2.2.2.2.1) (s.2.2.1)

theorem mbuckets_q2 (ok4 : mbuckets_s4X → Bool) (g4_4 : mbuckets_s4X → mbuckets_e4_4X) (s : mbuckets_s2X) (Q : Sum mbuckets_s2X LEnd → Prop) : wps te E_mtop (lamCons 4 (loopF mbuckets_s4 4 ok4 (mbuckets_f4 g4_4)) lamNil) 1000 (loopOf (codeOf Try.f96) 2) (mbuckets_s2.inj s) (stepK mbuckets_s2 mbuckets_x2 (Q : Sum mbuckets_s2.T LEnd → Prop)) = (mbuckets_U2 ok4 g4_4 s).wpR Q := by kernel_rfl

def mbuckets_f2 (g2_2 : mbuckets_s2X → mbuckets_e2_2X) (s : mbuckets_s2X) : OT LEnd := (.ok ⟨(.exit 2, mbuckets_e2_2), g2_2 s⟩)

def mbuckets_s6 : Shape := ⟨74, [(0, .val false .int), (6, .ptr 0 0 0), (7, .ptr 1 0 0), (13, .ptr 2 0 0), (14, .ptr 3 0 0), (15, .val false .int)], [(0, .cells [.val false .u64, .val false .u64, .val false .u64, .val false .u64, .val false .u64, .val false .u64, .val false .u64, .val false .u64, .val false .bool]), (1, .row (.prod .elem (.prod .elem .bool))), (2, .cells [.val false .u64, .val false .u64, .val false .u64, .val false .u64, .val false .u64, .val false .u64, .val false .u64, .val false .u64, .val false .bool]), (3, .cells [.val false .u64, .val false .u64, .val false .u64, .val false .u64, .val false .u64, .val false .u64, .val false .u64, .val false .u64, .val false .bool])], 0, true⟩

abbrev mbuckets_s6X : Type := ((Int) × (Unit) × (Unit) × (Unit) × (Unit) × (Int) × Unit) × (((UInt64) × (UInt64) × (UInt64) × (UInt64) × (UInt64) × (UInt64) × (UInt64) × (UInt64) × (Bool) × Unit) × (List ((Elem × (Elem × Bool)))) × ((UInt64) × (UInt64) × (UInt64) × (UInt64) × (UInt64) × (UInt64) × (UInt64) × (UInt64) × (Bool) × Unit) × ((UInt64) × (UInt64) × (UInt64) × (UInt64) × (UInt64) × (UInt64) × (UInt64) × (UInt64) × (Bool) × Unit) × Unit)

def mbuckets_e6_6 : Shape := ⟨74, [(6, .ptr 0 0 0), (14, .ptr 1 0 0)], [(0, .cells [.val false .u64, .val false .u64, .val false .u64, .val false .u64, .val false .u64, .val false .u64, .val false .u64, .val false .u64, .val false .bool]), (1, .cells [.val false .u64, .val false .u64, .val false .u64, .val false .u64, .val false .u64, .val false .u64, .val false .u64, .val false .u64, .val false .bool])], 0, true⟩

abbrev mbuckets_e6_6X : Type := ((Unit) × (Unit) × Unit) × (((UInt64) × (UInt64) × (UInt64) × (UInt64) × (UInt64) × (UInt64) × (UInt64) × (UInt64) × (Bool) × Unit) × ((UInt64) × (UInt64) × (UInt64) × (UInt64) × (UInt64) × (UInt64) × (UInt64) × (UInt64) × (Bool) × Unit) × Unit)

def mbuckets_x6 : SE → Option Shape := xsMk [(6, mbuckets_e6_6)] none

def mbuckets_T6 (a0 : Int) (a15 : Int) (c0_0 : UInt64) (c0_1 : UInt64) (c0_2 : UInt64) (c0_3 : UInt64) (c0_4 : UInt64) (c0_5 : UInt64) (c0_6 : UInt64) (c0_7 : UInt64) (c0_8 : Bool) (c1 : List ((Elem × (Elem × Bool)))) (c2_0 : UInt64) (c2_1 : UInt64) (c2_2 : UInt64) (c2_3 : UInt64) (c2_4 : UInt64) (c2_5 : UInt64) (c2_6 : UInt64) (c2_7 : UInt64) (c2_8 : Bool) (c3_0 : UInt64) (c3_1 : UInt64) (c3_2 : UInt64) (c3_3 : UInt64) (c3_4 : UInt64) (c3_5 : UInt64) (c3_6 : UInt64) (c3_7 : UInt64) (c3_8 : Bool) : OT (Sum mbuckets_s6X LEnd) :=
  let z0 : Elem := { w0 := (0 : UInt64), w1 := (0 : UInt64), w2 := (0 : UInt64), w3 := (0 : UInt64) }
  let z1 : Elem × Elem × Bool := addPt a0 ({ w0 := c2_0, w1 := c2_1, w2 := c2_2, w3 := c2_3 }, { w0 := c2_4, w1 := c2_5, w2 := c2_6, w3 := c2_7 }, c2_8) (List.getD c1 (Int.toNat a15 + (0 : Nat)) (z0, z0, false))
  let z2 : Elem := z1.fst
  let z3 : Elem × Bool := z1.snd
  let z4 : Elem := z3.fst
  let z5 : Elem × Elem × Bool := addPt a0 ({ w0 := c3_0, w1 := c3_1, w2 := c3_2, w3 := c3_3 }, { w0 := c3_4, w1 := c3_5, w2 := c3_6, w3 := c3_7 }, c3_8) z1
  let z6 : Elem := z5.fst
  let z7 : Elem × Bool := z5.snd
  let z8 : Elem := z7.fst
  (.br (decide ((0 : Int) ≤ a15))
  (gd [inB a15 (15 : Nat), decide (Int.toNat a15 + (0 : Nat) < List.length c1), inR (a15 - (1 : Int))] (.ok (.inl ((a0, ((), ((), ((), ((), (a15 - (1 : Int), ())))))), ((c0_0, (c0_1, (c0_2, (c0_3, (c0_4, (c0_5, (c0_6, (c0_7, (c0_8, ()))))))))), (c1, ((z2.w0, (z2.w1, (z2.w2, (z2.w3, (z4.w0, (z4.w1, (z4.w2, (z4.w3, (z3.snd, ()))))))))), ((z6.w0, (z6.w1, (z6.w2, (z6.w3, (z8.w0, (z8.w1, (z8.w2, (z8.w3, (z7.snd, ()))))))))), ()))))))))
  (.ok (.inr ⟨(.exit 6, mbuckets_e6_6), (((), ((), ())), ((c0_0, (c0_1, (c0_2, (c0_3, (c0_4, (c0_5, (c0_6, (c0_7, (c0_8, ()))))))))), ((c3_0, (c3_1, (c3_2, (c3_3, (c3_4, (c3_5, (c3_6, (c3_7, (c3_8, ()))))))))), ())))⟩)))

def mbuckets_U6 (s : mbuckets_s6X) : OT (Sum mbuckets_s6X LEnd) := mbuckets_T6 (s.1.1) (s.1.2.2.2.2.2.1) (s.2.1.1) (s.2.1.2.1) (s.2.1.2.2.1) (s.2.1.2.2.2.1) (s.2.1.2.2.2.2.1) (s.2.1.2.2.2.2.2.1) (s.2.1.2.2.2.2.2.2.1) (s.2.1.2.2.2.2.2.2.2.1) (s.2.1.2.2.2.2.2.2.2.2.1) (s.2.2.1) (s.2.2.2.1.1) (s.2.2.2.1.2.1) (s.2.2.2.1.2.2.1) (s.2.2.2.1.2.2.2.1) (s.2.2.2.1.2.2.2.2.1) (s.2.2.2.1.2.2.2.2.2.1) (s.2.2.2.1.2.2.2.2.2.2.1) (s.2.2.2.1.2.2.2.2.2.2.2.1) (s.2.2.2.1.2.2.2.2.2.2.2.2.1) (s.2.2.2.2.1.1) (s.2.2.2.2.1.2.1) (s.2.2.2.2.1.2.2.1) (s.2.2.2.2.1.2.2.2.1) (s.2.2.2.2.1.2.2.2.2.1) (s.2.2.2.2.1.2.2.2.2.2.1) (s.2.2.2.2.1.2.2.2.2.2.2.1) (s.2.2.2.2.1.2.2.2.2.2.2.2.1) (s.2.2.2.2.1.2.2.2.2.2.2.2.2.1)

theorem mbuckets_q6 (s : mbuckets_s6X) (Q : Sum mbuckets_s6X LEnd → Prop) : wps te E_mtop lamNil 1000 (loopOf (codeOf Try.f96) 6) (mbuckets_s6.inj s) (stepK mbuckets_s6 mbuckets_x6 (Q : Sum mbuckets_s6.T LEnd → Prop)) = (mbuckets_U6 s).wpR Q := by kernel_rfl

def mbuckets_f6 (g6_6 : mbuckets_s6X → mbuckets_e6_6X) (s : mbuckets_s6X) : OT LEnd := (.ok ⟨(.exit 6, mbuckets_e6_6), g6_6 s⟩)

def mbuckets_o0 : OutSh := ⟨[.val true (.prod .elem (.prod .elem .bool))], [], false⟩

def mbuckets_sel : SV → Option OutSh := fun _ => some mbuckets_o0

def mbuckets_T (ok0 : mbuckets_s0X → Bool) (g0_0 : mbuckets_s0X → mbuckets_e0_0X) (ok4 : mbuckets_s4X → Bool) (g4_4 : mbuckets_s4X → mbuckets_e4_4X) (ok2 : mbuckets_s2X → Bool) (g2_2 : mbuckets_s2X → mbuckets_e2_2X) (ok6 : mbuckets_s6X → Bool) (g6_6 : mbuckets_s6X → mbuckets_e6_6X) (a0 : Int) (a1 : List ((Elem × (Elem × (Elem × Bool))))) (a2 : Int) : OT mbuckets_S.Y :=
  let z0 : Elem := { w0 := (0 : UInt64), w1 := (0 : UInt64), w2 := (0 : UInt64), w3 := (0 : UInt64) }
  let z1 : Elem × Elem × Bool := (z0, z0, false)
  let z2 : (Int × List (Elem × Elem × Elem × Bool) × Int × PUnit × PUnit × Int × PUnit) × (UInt64 × UInt64 × UInt64 × UInt64 × UInt64 × UInt64 × UInt64 × UInt64 × Bool × PUnit) × List (Elem × Elem × Bool) × PUnit := ((a0, a1, a2, (), (), (0 : Int), ()), ((0 : UInt64), (0 : UInt64), (0 : UInt64), (0 : UInt64), (0 : UInt64), (0 : UInt64), (0 : UInt64), (0 : UInt64), false, ()), [z1, z1, z1, z1, z1, z1, z1, z1, z1, z1, z1, z1, z1, z1, z1], ())
  let z3 : (Int × List (Elem × Elem × Elem × Bool) × Int × PUnit × PUnit × PUnit) × (UInt64 × UInt64 × UInt64 × UInt64 × UInt64 × UInt64 × UInt64 × UInt64 × Bool × PUnit) × List (Elem × Elem × Bool) × PUnit := g0_0 z2
  let z4 : Int × List (Elem × Elem × Elem × Bool) × Int × PUnit × PUnit × PUnit := z3.fst
  let z5 : List (Elem × Elem × Elem × Bool) × Int × PUnit × PUnit × PUnit := z4.snd
  let z6 : List (Elem × Elem × Elem × Bool) := z5.fst
  let z7 : (UInt64 × UInt64 × UInt64 × UInt64 × UInt64 × UInt64 × UInt64 × UInt64 × Bool × PUnit) × List (Elem × Elem × Bool) × PUnit := z3.snd
  let z8 : UInt64 × UInt64 × UInt64 × UInt64 × UInt64 × UInt64 × UInt64 × UInt64 × Bool × PUnit := z7.fst
  let z9 : UInt64 × UInt64 × UInt64 × UInt64 × UInt64 × UInt64 × UInt64 × Bool × PUnit := z8.snd
  let z10 : UInt64 × UInt64 × UInt64 × UInt64 × UInt64 × UInt64 × Bool × PUnit := z9.snd
  let z11 : UInt64 × UInt64 × UInt64 × UInt64 × UInt64 × Bool × PUnit := z10.snd
  let z12 : UInt64 × UInt64 × UInt64 × UInt64 × Bool × PUnit := z11.snd
  let z13 : UInt64 × UInt64 × UInt64 × Bool × PUnit := z12.snd
  let z14 : UInt64 × UInt64 × Bool × PUnit := z13.snd
  let z15 : UInt64 × Bool × PUnit := z14.snd
  let z16 : (Int × Int × PUnit × PUnit × List (Elem × Elem × Elem × Bool) × Int × Int × PUnit) × (UInt64 × UInt64 × UInt64 × UInt64 × UInt64 × UInt64 × UInt64 × UInt64 × Bool × PUnit) × List (Elem × Elem × Bool) × PUnit := ((z4.fst, z5.snd.fst, (), (), z6, (↑(List.length z6) : Int), (0 : Int), ()), (z8.fst, z9.fst, z10.fst, z11.fst, z12.fst, z13.fst, z14.fst, z15.fst, z15.snd.fst, ()), z7.snd.fst, ())
  let z17 : (Int × PUnit × PUnit × PUnit) × (UInt64 × UInt64 × UInt64 × UInt64 × UInt64 × UInt64 × UInt64 × UInt64 × Bool × PUnit) × List (Elem × Elem × Bool) × PUnit := g2_2 z16
  let z18 : (UInt64 × UInt64 × UInt64 × UInt64 × UInt64 × UInt64 × UInt64 × UInt64 × Bool × PUnit) × List (Elem × Elem × Bool) × PUnit := z17.snd
  let z19 : UInt64 × UInt64 × UInt64 × UInt64 × UInt64 × UInt64 × UInt64 × UInt64 × Bool × PUnit := z18.fst
  let z20 : UInt64 × UInt64 × UInt64 × UInt64 × UInt64 × UInt64 × UInt64 × Bool × PUnit := z19.snd
  let z21 : UInt64 × UInt64 × UInt64 × UInt64 × UInt64 × UInt64 × Bool × PUnit := z20.snd
  let z22 : UInt64 × UInt64 × UInt64 × UInt64 × UInt64 × Bool × PUnit := z21.snd
  let z23 : UInt64 × UInt64 × UInt64 × UInt64 × Bool × PUnit := z22.snd
  let z24 : UInt64 × UInt64 × UInt64 × Bool × PUnit := z23.snd
  let z25 : UInt64 × UInt64 × Bool × PUnit := z24.snd
  let z26 : UInt64 × Bool × PUnit := z25.snd
  let z27 : UInt64 × UInt64 × UInt64 × UInt64 × UInt64 × UInt64 × UInt64 × UInt64 × Bool × PUnit := ((0 : UInt64), (0 : UInt64), (0 : UInt64), (0 : UInt64), (0 : UInt64), (0 : UInt64), (0 : UInt64), (0 : UInt64), true, ())
  let z28 : (Int × PUnit × PUnit × PUnit × PUnit × Int × PUnit) × (UInt64 × UInt64 × UInt64 × UInt64 × UInt64 × UInt64 × UInt64 × UInt64 × Bool × PUnit) × List (Elem × Elem × Bool) × (UInt64 × UInt64 × UInt64 × UInt64 × UInt64 × UInt64 × UInt64 × UInt64 × Bool × PUnit) × (UInt64 × UInt64 × UInt64 × UInt64 × UInt64 × UInt64 × UInt64 × UInt64 × Bool × PUnit) × PUnit := ((z17.fst.fst, (), (), (), (), (14 : Int), ()), (z19.fst, z20.fst, z21.fst, z22.fst, z23.fst, z24.fst, z25.fst, z26.fst, z26.snd.fst, ()), z18.snd.fst, z27, z27, ())
  let z29 : UInt64 × UInt64 × UInt64 × UInt64 × UInt64 × UInt64 × UInt64 × UInt64 × Bool × PUnit := (g6_6 z28).snd.snd.fst
  let z30 : UInt64 × UInt64 × UInt64 × UInt64 × UInt64 × UInt64 × UInt64 × Bool × PUnit := z29.snd
  let z31 : UInt64 × UInt64 × UInt64 × UInt64 × UInt64 × UInt64 × Bool × PUnit := z30.snd
  let z32 : UInt64 × UInt64 × UInt64 × UInt64 × UInt64 × Bool × PUnit := z31.snd
  let z33 : UInt64 × UInt64 × UInt64 × UInt64 × Bool × PUnit := z32.snd
  let z34 : UInt64 × UInt64 × UInt64 × Bool × PUnit := z33.snd
  let z35 : UInt64 × UInt64 × Bool × PUnit := z34.snd
  let z36 : UInt64 × Bool × PUnit := z35.snd
  (gd [ok0 z2, ok2 z16, ok6 z28] (.ok ⟨mbuckets_o0, ((({ w0 := z29.fst, w1 := z30.fst, w2 := z31.fst, w3 := z32.fst }, { w0 := z33.fst, w1 := z34.fst, w2 := z35.fst, w3 := z36.fst }, z36.snd.fst), ()), ())⟩))

theorem mbuckets_q (ok0 : mbuckets_s0X → Bool) (g0_0 : mbuckets_s0X → mbuckets_e0_0X) (ok4 : mbuckets_s4X → Bool) (g4_4 : mbuckets_s4X → mbuckets_e4_4X) (ok2 : mbuckets_s2X → Bool) (g2_2 : mbuckets_s2X → mbuckets_e2_2X) (ok6 : mbuckets_s6X → Bool) (g6_6 : mbuckets_s6X → mbuckets_e6_6X) (x : mbucketsX) (Q : mbuckets_S.Y → Prop) : wpf te E_mtop (lamCons 6 (loopF mbuckets_s6 6 ok6 (mbuckets_f6 g6_6)) (lamCons 2 (loopF mbuckets_s2 2 ok2 (mbuckets_f2 g2_2)) (lamCons 0 (loopF mbuckets_s0 0 ok0 (mbuckets_f0 g0_0)) lamNil))) 1000 Try.f96 (mbuckets_S.inp.inj x).tm (mbuckets_S.inp.inj x).hp (fnK mbuckets_S mbuckets_sel Q) (fun _ _ => False) = (mbuckets_T ok0 g0_0 ok4 g4_4 ok2 g2_2 ok6 g6_6 (x.1.1) (x.1.2.1) (x.1.2.2.1)).wpR Q := by kernel_rfl

theorem mbuckets_main (ok0 : mbuckets_s0X → Bool) (g0_0 : mbuckets_s0X → mbuckets_e0_0X) (ok4 : mbuckets_s4X → Bool) (g4_4 : mbuckets_s4X → mbuckets_e4_4X) (ok2 : mbuckets_s2X → Bool) (g2_2 : mbuckets_s2X → mbuckets_e2_2X) (ok6 : mbuckets_s6X → Bool) (g6_6 : mbuckets_s6X → mbuckets_e6_6X) (h0 : ∀ s : mbuckets_s0X, ok0 s = true → ∃ m e, loopRun (mbuckets_U0) m s = some e ∧ (mbuckets_f0 g0_0 s).run = some e) (h4 : ∀ s : mbuckets_s4X, ok4 s = true → ∃ m e, loopRun (mbuckets_U4) m s = some e ∧ (mbuckets_f4 g4_4 s).run = some e) (h2 : ∀ s : mbuckets_s2X, ok2 s = true → ∃ m e, loopRun (mbuckets_U2 ok4 g4_4) m s = some e ∧ (mbuckets_f2 g2_2 s).run = some e) (h6 : ∀ s : mbuckets_s6X, ok6 s = true → ∃ m e, loopRun (mbuckets_U6) m s = some e ∧ (mbuckets_f6 g6_6 s).run = some e) (pre : mbucketsX → Bool) (F : mbucketsX → OT mbuckets_S.Y) (hF : ∀ (x : mbucketsX) oy, pre x = true → (F x).run = some oy → (mbuckets_T ok0 g0_0 ok4 g4_4 ok2 g2_2 ok6 g6_6 (x.1.1) (x.1.2.1) (x.1.2.2.1)).run = some oy) : SummOk Try.prog 96 (mbuckets_S.summ pre F) :=
  fn_tree te_ok E_mtop_ok E_mtop_any (f := 96) (fn := Try.f96) (c := codeOf Try.f96) (by kernel_rfl) (by kernel_rfl) (by kernel_rfl) (S := mbuckets_S) (k := 0) (by kernel_rfl) (fun R hR => (lamOk_cons (c := (codeOf Try.f96)) (by kernel_rfl) (id := 6) (by kernel_rfl) (loop_ok te_ok E_mtop_ok E_mtop_any (sh := mbuckets_s6) hR (xs := mbuckets_x6) (xsMk_small (by kernel_rfl) (by kernel_rfl) hR) xsMk_pan lamOk_nil (n := 1000) (T := mbuckets_U6) (fun s Q => mbuckets_q6 s Q) (ok := ok6) (f := mbuckets_f6 g6_6) h6) (lamOk_cons (c := (codeOf Try.f96)) (by kernel_rfl) (id := 2) (by kernel_rfl) (loop_ok te_ok E_mtop_ok E_mtop_any (sh := mbuckets_s2) hR (xs := mbuckets_x2) (xsMk_small (by kernel_rfl) (by kernel_rfl) hR) xsMk_pan (lamOk_cons (c := (loopOf (codeOf Try.f96) 2)) (by kernel_rfl) (id := 4) (by kernel_rfl) (loop_ok te_ok E_mtop_ok E_mtop_any (sh := mbuckets_s4) hR (xs := mbuckets_x4) (xsMk_small (by kernel_rfl) (by kernel_rfl) hR) xsMk_pan lamOk_nil (n := 1000) (T := mbuckets_U4) (fun s Q => mbuckets_q4 s Q) (ok := ok4) (f := mbuckets_f4 g4_4) h4) lamOk_nil) (n := 1000) (T := mbuckets_U2 ok4 g4_4) (fun s Q => mbuckets_q2 ok4 g4_4 s Q) (ok := ok2) (f := mbuckets_f2 g2_2) h2) (lamOk_cons (c := (codeOf Try.f96)) (by kernel_rfl) (id := 0) (by kernel_rfl) (loop_ok te_ok E_mtop_ok E_mtop_any (sh := mbuckets_s0) hR (xs := mbuckets_x0) (xsMk_small (by kernel_rfl) (by kernel_rfl) hR) xsMk_pan lamOk_nil (n := 1000) (T := mbuckets_U0) (fun s Q => mbuckets_q0 s Q) (ok := ok0) (f := mbuckets_f0 g0_0) h0) lamOk_nil)))) (n := 1000) (sel := mbuckets_sel) (fun v o h => by cases h; rfl) (pre := pre) (F := F) (T := fun x => mbuckets_T ok0 g0_0 ok4 g4_4 ok2 g2_2 ok6 g6_6 (x.1.1) (x.1.2.1) (x.1.2.2.1)) (fun x Q => mbuckets_q ok0 g0_0 ok4 g4_4 ok2 g2_2 ok6 g6_6 x Q) hF

abbrev noPt : Pt := (⟨0, 0, 0, 0⟩, ⟨0, 0, 0, 0⟩, false)
abbrev C13 : Type := UInt64 × UInt64 × UInt64 × UInt64 × UInt64 × UInt64 × UInt64 × UInt64 × UInt64 × UInt64 × UInt64 × UInt64 × Bool × Unit
def flatTm (t : Tm) : C13 := (t.1.w0, t.1.w1, t.1.w2, t.1.w3, t.2.1.w0, t.2.1.w1, t.2.1.w2, t.2.1.w3, t.2.2.1.w0, t.2.2.1.w1, t.2.2.1.w2, t.2.2.1.w3, t.2.2.2, ())
theorem set_all {α : Type} (x : α) (l : List α) : ∀ n, n ≤ l.length → upto (fun k (o : List α) => o.set k x) l n = List.replicate n x ++ l.drop n
  | 0, _ => rfl
  | n + 1, h => by
    show (upto (fun k (o : List α) => o.set k x) l n).set n x = _
    rw [set_all x l n (by omega), List.set_append_right _ _ (by rw [List.length_replicate]; omega), List.length_replicate, Nat.sub_self, List.drop_eq_getElem_cons (by omega), List.set_cons_zero, List.replicate_succ', List.append_assoc]
    rfl
def mbuckets_ok0 (s : mbuckets_s0X) : Bool := decide (s.1.2.2.2.2.2.1 = 0 ∧ s.2.2.1.length = 15)
def mbuckets_g0 (s : mbuckets_s0X) : mbuckets_e0_0X := ((s.1.1, s.1.2.1, s.1.2.2.1, (), (), ()), (s.2.1, List.replicate 15 inftyP, ()))
theorem mbuckets_h0 : ∀ s : mbuckets_s0X, mbuckets_ok0 s = true → ∃ m e, loopRun mbuckets_U0 m s = some e ∧ (mbuckets_f0 mbuckets_g0 s).run = some e := by
  rintro ⟨⟨c, l, at', ⟨⟩, ⟨⟩, i, ⟨⟩⟩, ⟨c0, S, ⟨⟩⟩⟩ h
  have h' := of_decide_eq_true h
  dsimp only at h'
  obtain ⟨rfl, hS⟩ := h'
  have := (loop_upto (T := mbuckets_U0) (fun i o => (((c, l, at', (), (), (i : Int), ()), (c0, o, ())) : mbuckets_s0X)) (fun k (o : List Pt) => o.set k inftyP)
    (fun o => (⟨(.exit 0, mbuckets_e0_0), ((c, l, at', (), (), ()), (c0, o, ()))⟩ : LEnd)) 15 S (fun _ o => o.length = 15) hS (fun k o hk ho => ⟨?_, (List.length_set ..).trans ho⟩) (fun o ho => ?_)).1
  · obtain ⟨m, hm⟩ := this
    rw [set_all inftyP S 15 (by omega), List.drop_eq_nil_of_le (by omega), List.append_nil] at hm
    exact ⟨m, _, hm, rfl⟩
  · refine (OT.run_t (decide_eq_true (by dsimp only; omega))).trans ((gd_run ?_).trans ?_)
    · simp only [ho, Int.toNat_natCast, Nat.add_zero, List.all_cons, List.all_nil, Bool.and_true, Bool.and_eq_true]
      exact ⟨inB_of (by omega), decide_eq_true (by omega), inR_of (by omega)⟩
    · simp only [OT.run_ok, Int.toNat_natCast, Nat.add_zero]
      rfl
  · exact OT.run_f (decide_eq_false (by dsimp only; omega))

/-- A scalar's digit from a place on. -/
def digStep (k : Elem) (a : Int) (n : Nat) (d : Int) : Int := cond (bitI k (a + (n : Int))) (ior d (ishl 1 (n : Int))) d
def digT (k : Elem) (a : Int) : Int := upto (digStep k a) 0 4
def bitV (b : Bool) : Int := cond b 1 0
theorem digT_eq (k : Elem) (a : Int) : digT k a = bitV (bitI k a) + 2 * bitV (bitI k (a + 1)) + 4 * bitV (bitI k (a + 2)) + 8 * bitV (bitI k (a + 3)) := by
  have e0 : a + ((0 : Nat) : Int) = a := by omega
  show digStep k a 3 (digStep k a 2 (digStep k a 1 (digStep k a 0 0))) = _
  unfold digStep
  rw [e0, show a + ((1 : Nat) : Int) = a + 1 by omega, show a + ((2 : Nat) : Int) = a + 2 by omega, show a + ((3 : Nat) : Int) = a + 3 by omega]
  generalize bitI k a = b0
  generalize bitI k (a + 1) = b1
  generalize bitI k (a + 2) = b2
  generalize bitI k (a + 3) = b3
  cases b0 <;> cases b1 <;> cases b2 <;> cases b3 <;> decide +kernel
theorem digT_le (k : Elem) (a : Int) : 0 ≤ digT k a ∧ digT k a ≤ 15 := by
  rw [digT_eq]
  have h : ∀ b, 0 ≤ bitV b ∧ bitV b ≤ 1 := fun b => by cases b <;> decide
  have h0 := h (bitI k a)
  have h1 := h (bitI k (a + 1))
  have h2 := h (bitI k (a + 2))
  have h3 := h (bitI k (a + 3))
  omega
def buck_s4 (c at' d : Int) (l : List Tm) (n i : Int) (b : Int) (c0 : C9) (S : List Pt) (t : C13) : mbuckets_s4X := ((c, at', (), (), (), d, l, n, i, b, ()), (c0, S, t, ()))
def keyOf (t : C13) : Elem := ⟨t.1, t.2.1, t.2.2.1, t.2.2.2.1⟩
def mbuckets_ok4 (s : mbuckets_s4X) : Bool := decide (s.1.2.2.2.2.2.1 = 0 ∧ s.1.2.2.2.2.2.2.2.2.2.1 = 0 ∧ 0 ≤ s.1.2.1 ∧ s.1.2.1 ≤ 1000)
def mbuckets_g4 (s : mbuckets_s4X) : mbuckets_e4_4X := ((s.1.1, s.1.2.1, (), (), (), digT (keyOf s.2.2.2.1) s.1.2.1, s.1.2.2.2.2.2.2.1, s.1.2.2.2.2.2.2.2.1, s.1.2.2.2.2.2.2.2.2.1, ()), s.2)
theorem mbuckets_h4 : ∀ s : mbuckets_s4X, mbuckets_ok4 s = true → ∃ m e, loopRun mbuckets_U4 m s = some e ∧ (mbuckets_f4 mbuckets_g4 s).run = some e := by
  rintro ⟨⟨c, at', ⟨⟩, ⟨⟩, ⟨⟩, d, l, n, i, b, ⟨⟩⟩, ⟨c0, S, t, ⟨⟩⟩⟩ h
  have h' := of_decide_eq_true h
  dsimp only at h'
  obtain ⟨rfl, rfl, ha0, ha1⟩ := h'
  have := (loop_upto (T := mbuckets_U4) (fun b d => (((c, at', (), (), (), d, l, n, i, (b : Int), ()), (c0, S, t, ())) : mbuckets_s4X)) (digStep (keyOf t) at')
    (fun d => (⟨(.exit 4, mbuckets_e4_4), ((c, at', (), (), (), d, l, n, i, ()), (c0, S, t, ()))⟩ : LEnd)) 4 0 (fun _ _ => True) trivial (fun k d hk _ => ⟨?_, trivial⟩) (fun d _ => ?_)).1
  · obtain ⟨m, hm⟩ := this
    exact ⟨m, _, hm, rfl⟩
  · have hr : inR ((k : Int) + 1) = true := inR_of (by omega)
    have hgr : ∀ z : OT (Sum mbuckets_s4X LEnd), (gd [inR ((k : Int) + 1)] z).run = z.run := fun z => gd_run (by rw [hr]; rfl)
    refine (OT.run_t (decide_eq_true (by dsimp only; omega))).trans ((gd_run ?_).trans ?_)
    · simp only [List.all_cons, List.all_nil, Bool.and_true]
      exact inR_of (by omega)
    · unfold digStep
      rcases (Bool.eq_false_or_eq_true (bitI (keyOf t) (at' + (k : Int)))).symm with hb | hb
      · rw [hb]
        exact (OT.run_f hb).trans ((hgr _).trans rfl)
      · rw [hb]
        refine (OT.run_t hb).trans ((gd_run ?_).trans rfl)
        simp only [List.all_cons, List.all_nil, Bool.and_true, Bool.and_eq_true]
        exact ⟨decide_eq_true (by omega), hr⟩
  · exact OT.run_f (decide_eq_false (by dsimp only; omega))

/-- A term, put to its digit's sum. -/
def buckStep (c a : Int) (l : List Tm) (k : Nat) (S : List Pt) : List Pt := cond (decide (0 < digT (l.getD k noTm0).1 a))
  (S.set (digT (l.getD k noTm0).1 a - 1).toNat (addPt c (S.getD (digT (l.getD k noTm0).1 a - 1).toNat noPt) (l.getD k noTm0).2)) S
theorem buckStep_length (c a : Int) (l : List Tm) (k : Nat) (S : List Pt) : (buckStep c a l k S).length = S.length := by
  unfold buckStep
  cases decide (0 < digT (l.getD k noTm0).1 a)
  · rfl
  · exact List.length_set ..
def sumsT (c a : Int) (l : List Tm) (S : List Pt) : List Pt := upto (buckStep c a l) S l.length
def mbuckets_ok2 (s : mbuckets_s2X) : Bool := decide (s.1.2.2.2.2.2.1 = (s.1.2.2.2.2.1.length : Int) ∧ s.1.2.2.2.2.2.2.1 = 0 ∧ s.2.2.1.length = 15 ∧ (0 ≤ s.1.2.1 ∧ s.1.2.1 ≤ 1000) ∧ s.1.2.2.2.2.1.length ≤ 140737488355328)
def mbuckets_g2 (s : mbuckets_s2X) : mbuckets_e2_2X := ((s.1.1, (), (), ()), (s.2.1, sumsT s.1.1 s.1.2.1 s.1.2.2.2.2.1 s.2.2.1, ()))
theorem buck_T2 {ok4 : mbuckets_s4X → Bool} {g4 : mbuckets_s4X → mbuckets_e4_4X} {c a : Int} {l : List Tm} {k : Nat} {c0 : C9} {S : List Pt} {t : Tm} {d : Int} (ht : l.getD k noTm0 = t) (hk : k < l.length) (hl : l.length ≤ 140737488355328) (hS : S.length = 15) (hd : 0 ≤ d ∧ d ≤ 15)
    (h4 : ok4 (buck_s4 c a 0 l (l.length : Int) (k : Int) 0 c0 S (flatTm t)) = true)
    (e4 : g4 (buck_s4 c a 0 l (l.length : Int) (k : Int) 0 c0 S (flatTm t)) = ((c, a, (), (), (), d, l, (l.length : Int), (k : Int), ()), (c0, S, flatTm t, ()))) :
    (mbuckets_U2 ok4 g4 ((c, a, (), (), l, (l.length : Int), (k : Int), ()), (c0, S, ()))).run = some (.inl ((c, a, (), (), l, (l.length : Int), ((k + 1 : Nat) : Int), ()), (c0, cond (decide (0 < d)) (S.set (d - 1).toNat (addPt c (S.getD (d - 1).toNat noPt) t.2)) S, ()))) := by
  have hr : inR ((k : Int) + 1) = true := inR_of (by omega)
  unfold buck_s4 at h4 e4
  unfold mbuckets_U2 mbuckets_T2
  have ht' : List.getD l (Int.toNat (k : Int)) (⟨0, 0, 0, 0⟩, ⟨0, 0, 0, 0⟩, ⟨0, 0, 0, 0⟩, false) = t := by rw [Int.toNat_natCast]; exact ht
  simp only [ht']
  refine (OT.run_t (decide_eq_true (by omega))).trans ((gd_run ?_).trans ?_)
  · simp only [List.all_cons, List.all_nil, Bool.and_true, Bool.and_eq_true]
    exact ⟨inB_of (by omega), h4⟩
  · have e4' : g4 ((c, a, (), (), (), 0, l, (l.length : Int), (k : Int), 0, ()), (c0.1, c0.2.1, c0.2.2.1, c0.2.2.2.1, c0.2.2.2.2.1, c0.2.2.2.2.2.1, c0.2.2.2.2.2.2.1, c0.2.2.2.2.2.2.2.1, c0.2.2.2.2.2.2.2.2.1, ()), S, (t.1.w0, t.1.w1, t.1.w2, t.1.w3, t.2.1.w0, t.2.1.w1, t.2.1.w2, t.2.1.w3, t.2.2.1.w0, t.2.2.1.w1, t.2.2.1.w2, t.2.2.1.w3, t.2.2.2, ()), ()) = ((c, a, (), (), (), d, l, (l.length : Int), (k : Int), ()), (c0, S, flatTm t, ())) := e4
    simp only [e4']
    by_cases h0 : 0 < d
    · rw [decide_eq_true h0]
      refine (OT.run_t rfl).trans ((gd_run ?_).trans ?_)
      · simp only [hS, Nat.add_zero, hr, List.all_cons, List.all_nil, Bool.and_true, Bool.and_eq_true]
        have i1 : inR (d - 1) = true := inR_of (by omega)
        have i2 : inB (d - 1) 15 = true := inB_of (by omega)
        have i3 : decide ((d - 1).toNat < 15) = true := decide_eq_true (by omega)
        exact ⟨i1, i1, i2, i3, i2, i3⟩
      · rfl
    · rw [decide_eq_false h0]
      refine (OT.run_f rfl).trans ((gd_run ?_).trans rfl)
      simp only [hr, List.all_cons, List.all_nil, Bool.and_true]
theorem mbuckets_h2 : ∀ s : mbuckets_s2X, mbuckets_ok2 s = true → ∃ m e, loopRun (mbuckets_U2 mbuckets_ok4 mbuckets_g4) m s = some e ∧ (mbuckets_f2 mbuckets_g2 s).run = some e := by
  rintro ⟨⟨c, at', ⟨⟩, ⟨⟩, l, n, i, ⟨⟩⟩, ⟨c0, S, ⟨⟩⟩⟩ h
  have h' := of_decide_eq_true h
  dsimp only at h'
  obtain ⟨rfl, rfl, hS, ⟨ha0, ha1⟩, hl⟩ := h'
  have := (loop_upto (T := mbuckets_U2 mbuckets_ok4 mbuckets_g4) (fun i o => (((c, at', (), (), l, (l.length : Int), (i : Int), ()), (c0, o, ())) : mbuckets_s2X)) (buckStep c at' l)
    (fun o => (⟨(.exit 2, mbuckets_e2_2), ((c, (), (), ()), (c0, o, ()))⟩ : LEnd)) l.length S (fun _ o => o.length = 15) hS (fun k o hk ho => ⟨?_, (buckStep_length c at' l k o).trans ho⟩) (fun o ho => ?_)).1
  · obtain ⟨m, hm⟩ := this
    exact ⟨m, _, hm, rfl⟩
  · exact buck_T2 rfl hk hl ho (digT_le _ _) (decide_eq_true ⟨rfl, rfl, ha0, ha1⟩) rfl
  · exact OT.run_f (decide_eq_false (by dsimp only; omega))

/-- The sums, so often each. -/
def redStep (c : Int) (S : List Pt) (n : Nat) (w : Pt × Pt) : Pt × Pt := (addPt c w.1 (S.getD (14 - n) noPt), addPt c w.2 (addPt c w.1 (S.getD (14 - n) noPt)))
def redS (c : Int) (S : List Pt) : Pt × Pt := upto (redStep c S) (inftyP, inftyP) 15
def mbuckets_ok6 (s : mbuckets_s6X) : Bool := decide (s.1.2.2.2.2.2.1 = 14 ∧ s.2.2.1.length = 15 ∧ cellP s.2.2.2.1 = inftyP ∧ cellP s.2.2.2.2.1 = inftyP)
def mbuckets_g6 (s : mbuckets_s6X) : mbuckets_e6_6X := (((), (), ()), (s.2.1, flatP (redS s.1.1 s.2.2.1).2, ()))
theorem mbuckets_h6 : ∀ s : mbuckets_s6X, mbuckets_ok6 s = true → ∃ m e, loopRun mbuckets_U6 m s = some e ∧ (mbuckets_f6 mbuckets_g6 s).run = some e := by
  rintro ⟨⟨c, ⟨⟩, ⟨⟩, ⟨⟩, ⟨⟩, i, ⟨⟩⟩, ⟨c0, S, r, a, ⟨⟩⟩⟩ h
  have h' := of_decide_eq_true h
  dsimp only at h'
  obtain ⟨rfl, hS, hr, ha⟩ := h'
  have hr2 : r = flatP inftyP := by rw [← hr]; rfl
  have ha2 : a = flatP inftyP := by rw [← ha]; rfl
  subst hr2 ha2
  have := (loop_upto (T := mbuckets_U6) (fun n w => (((c, (), (), (), (), 14 - (n : Int), ()), (c0, S, flatP w.1, flatP w.2, ())) : mbuckets_s6X)) (redStep c S)
    (fun w => (⟨(.exit 6, mbuckets_e6_6), (((), (), ()), (c0, flatP w.2, ()))⟩ : LEnd)) 15 (inftyP, inftyP) (fun _ _ => True) trivial (fun n w hn _ => ⟨?_, trivial⟩) (fun w _ => ?_)).1
  · obtain ⟨m, hm⟩ := this
    exact ⟨m, _, hm, rfl⟩
  · have e1 : ((14 : Int) - (n : Int)).toNat = 14 - n := by omega
    have e2 : (14 : Int) - (n : Int) - 1 = 14 - ((n + 1 : Nat) : Int) := by omega
    refine (OT.run_t (decide_eq_true (by dsimp only; omega))).trans ((gd_run ?_).trans ?_)
    · simp only [e1, hS, Nat.add_zero, List.all_cons, List.all_nil, Bool.and_true, Bool.and_eq_true]
      exact ⟨inB_of (by omega), decide_eq_true (by omega), inR_of (by omega)⟩
    · rw [← e2]
      simp only [OT.run_ok, e1, Nat.add_zero]
      rfl
  · exact OT.run_f (decide_eq_false (by dsimp only; omega))

/-- The terms' sum by their digits from a place on. -/
def buckP (c : Int) (l : List Tm) (a : Int) : Pt := (redS c (sumsT c a l (List.replicate 15 inftyP))).2
theorem mbuckets_T_of {ok4 : mbuckets_s4X → Bool} {g4 : mbuckets_s4X → mbuckets_e4_4X} {ok0 : mbuckets_s0X → Bool} {g0 : mbuckets_s0X → mbuckets_e0_0X} {ok2 : mbuckets_s2X → Bool} {g2 : mbuckets_s2X → mbuckets_e2_2X} {ok6 : mbuckets_s6X → Bool} {g6 : mbuckets_s6X → mbuckets_e6_6X} {c a : Int} {l : List Tm} {S0 S : List Pt} {R : Pt} {z : C9}
    (h0 : ok0 ((c, l, a, (), (), 0, ()), (flatP noPt, List.replicate 15 noPt, ())) = true) (e0 : g0 ((c, l, a, (), (), 0, ()), (flatP noPt, List.replicate 15 noPt, ())) = ((c, l, a, (), (), ()), (flatP noPt, S0, ())))
    (h2 : ok2 ((c, a, (), (), l, (l.length : Int), 0, ()), (flatP noPt, S0, ())) = true) (e2 : g2 ((c, a, (), (), l, (l.length : Int), 0, ()), (flatP noPt, S0, ())) = ((c, (), (), ()), (flatP noPt, S, ())))
    (h6 : ok6 ((c, (), (), (), (), 14, ()), (flatP noPt, S, flatP inftyP, flatP inftyP, ())) = true) (e6 : g6 ((c, (), (), (), (), 14, ()), (flatP noPt, S, flatP inftyP, flatP inftyP, ())) = (((), (), ()), (z, flatP R, ()))) :
    (mbuckets_T ok0 g0 ok4 g4 ok2 g2 ok6 g6 c l a).run = some ⟨mbuckets_o0, ((R, ()), ())⟩ := by
  have e0' : g0 ((c, l, a, (), (), 0, ()), ((0, 0, 0, 0, 0, 0, 0, 0, false, ()), [((⟨0, 0, 0, 0⟩, ⟨0, 0, 0, 0⟩, false) : Pt), ((⟨0, 0, 0, 0⟩, ⟨0, 0, 0, 0⟩, false) : Pt), ((⟨0, 0, 0, 0⟩, ⟨0, 0, 0, 0⟩, false) : Pt), ((⟨0, 0, 0, 0⟩, ⟨0, 0, 0, 0⟩, false) : Pt), ((⟨0, 0, 0, 0⟩, ⟨0, 0, 0, 0⟩, false) : Pt), ((⟨0, 0, 0, 0⟩, ⟨0, 0, 0, 0⟩, false) : Pt), ((⟨0, 0, 0, 0⟩, ⟨0, 0, 0, 0⟩, false) : Pt), ((⟨0, 0, 0, 0⟩, ⟨0, 0, 0, 0⟩, false) : Pt), ((⟨0, 0, 0, 0⟩, ⟨0, 0, 0, 0⟩, false) : Pt), ((⟨0, 0, 0, 0⟩, ⟨0, 0, 0, 0⟩, false) : Pt), ((⟨0, 0, 0, 0⟩, ⟨0, 0, 0, 0⟩, false) : Pt), ((⟨0, 0, 0, 0⟩, ⟨0, 0, 0, 0⟩, false) : Pt), ((⟨0, 0, 0, 0⟩, ⟨0, 0, 0, 0⟩, false) : Pt), ((⟨0, 0, 0, 0⟩, ⟨0, 0, 0, 0⟩, false) : Pt), ((⟨0, 0, 0, 0⟩, ⟨0, 0, 0, 0⟩, false) : Pt)], ())) = ((c, l, a, (), (), ()), (flatP noPt, S0, ())) := e0
  have e2' : g2 ((c, a, (), (), l, (l.length : Int), 0, ()), ((flatP noPt).1, (flatP noPt).2.1, (flatP noPt).2.2.1, (flatP noPt).2.2.2.1, (flatP noPt).2.2.2.2.1, (flatP noPt).2.2.2.2.2.1, (flatP noPt).2.2.2.2.2.2.1, (flatP noPt).2.2.2.2.2.2.2.1, (flatP noPt).2.2.2.2.2.2.2.2.1, ()), S0, ()) = ((c, (), (), ()), (flatP noPt, S, ())) := e2
  have e6' : g6 ((c, (), (), (), (), 14, ()), ((flatP noPt).1, (flatP noPt).2.1, (flatP noPt).2.2.1, (flatP noPt).2.2.2.1, (flatP noPt).2.2.2.2.1, (flatP noPt).2.2.2.2.2.1, (flatP noPt).2.2.2.2.2.2.1, (flatP noPt).2.2.2.2.2.2.2.1, (flatP noPt).2.2.2.2.2.2.2.2.1, ()), S, (0, 0, 0, 0, 0, 0, 0, 0, true, ()), (0, 0, 0, 0, 0, 0, 0, 0, true, ()), ()) = (((), (), ()), (z, flatP R, ())) := e6
  unfold mbuckets_T
  simp only [e0', e2', e6']
  refine (gd_run ?_).trans rfl
  simp only [List.all_cons, List.all_nil, Bool.and_true, Bool.and_eq_true]
  exact ⟨h0, h2, h6⟩
theorem sums_length (c a : Int) (l : List Tm) (S : List Pt) : ∀ n, (upto (buckStep c a l) S n).length = S.length
  | 0 => rfl
  | n + 1 => (buckStep_length c a l n _).trans (sums_length c a l S n)
def mbuckets_pre (x : mbucketsX) : Bool := decide ((0 ≤ x.1.2.2.1 ∧ x.1.2.2.1 ≤ 1000) ∧ x.1.2.1.length ≤ 140737488355328)
def mbuckets_F (x : mbucketsX) : OT mbuckets_S.Y := .ok ⟨mbuckets_o0, ((buckP x.1.1 x.1.2.1 x.1.2.2.1, ()), ())⟩
theorem mbuckets_ok : SummOk Try.prog 96 (mbuckets_S.summ mbuckets_pre mbuckets_F) := mbuckets_main mbuckets_ok0 mbuckets_g0 mbuckets_ok4 mbuckets_g4 mbuckets_ok2 mbuckets_g2 mbuckets_ok6 mbuckets_g6 mbuckets_h0 mbuckets_h4 mbuckets_h2 mbuckets_h6 _ _ fun x oy hp ho => by
  rw [← ho]
  clear ho
  obtain ⟨⟨c, l, a, ⟨⟩⟩, ⟨⟩⟩ := x
  obtain ⟨ha, hl⟩ := of_decide_eq_true hp
  exact mbuckets_T_of (S0 := List.replicate 15 inftyP) (S := sumsT c a l (List.replicate 15 inftyP)) (R := buckP c l a) (z := flatP noPt) (decide_eq_true ⟨rfl, rfl⟩) rfl
    (decide_eq_true ⟨rfl, rfl, rfl, ha, hl⟩) rfl (decide_eq_true ⟨rfl, sums_length c a l _ l.length, rfl, rfl⟩) rfl

def mbuckets_summ : Summ := (mbuckets_S.summ mbuckets_pre mbuckets_F)
theorem mbuckets_known : SummOk Try.prog 96 mbuckets_summ := mbuckets_ok
theorem mbuckets_smono : MonoOk mbuckets_summ := fn_mono

def E_mbuckets : Env := envCons 96 mbuckets_summ E_mtop
theorem E_mbuckets_ok : EnvOk Try.prog E_mbuckets := envOk_cons mbuckets_known E_mtop_ok
theorem E_mbuckets_mono : EnvMono E_mbuckets := envMono_cons mbuckets_smono E_mtop_mono
theorem E_mbuckets_any : AnyOk Try.prog te E_mbuckets := any_ok follows te_ok E_mbuckets_ok E_mbuckets_mono

end Go.Proofs.Ytkedomfjjahjnaa

/- The function sigil/msm.sum: what it makes of its arguments. No statement of a seat is proved here. -/
namespace Go.Proofs.Ytkedomfjjahjnaa
open Sx Go
set_option maxRecDepth 100000

def msum0_S : FnSpec := ⟨[.val false .int, .val false (.list termT)], [], true, 0, false⟩

abbrev msum0X : Type := ((Int) × (List ((Elem × (Elem × (Elem × Bool))))) × Unit) × (Unit)

def msum0_s0 : Shape := ⟨39, [(0, .val false .int), (1, .val false (.list (.prod .elem (.prod .elem (.prod .elem .bool))))), (4, .ptr 0 0 0), (5, .ptr 1 0 0), (6, .val false .int)], [(0, .cells [.val false .u64, .val false .u64, .val false .u64, .val false .u64, .val false .u64, .val false .u64, .val false .u64, .val false .u64, .val false .bool]), (1, .cells [.val false .u64, .val false .u64, .val false .u64, .val false .u64, .val false .u64, .val false .u64, .val false .u64, .val false .u64, .val false .bool])], 0, true⟩

abbrev msum0_s0X : Type := ((Int) × (List ((Elem × (Elem × (Elem × Bool))))) × (Unit) × (Unit) × (Int) × Unit) × (((UInt64) × (UInt64) × (UInt64) × (UInt64) × (UInt64) × (UInt64) × (UInt64) × (UInt64) × (Bool) × Unit) × ((UInt64) × (UInt64) × (UInt64) × (UInt64) × (UInt64) × (UInt64) × (UInt64) × (UInt64) × (Bool) × Unit) × Unit)

def msum0_s2 : Shape := ⟨39, [(0, .val false .int), (1, .val false (.list (.prod .elem (.prod .elem (.prod .elem .bool))))), (4, .ptr 0 0 0), (5, .ptr 1 0 0), (6, .val false .int), (24, .val false .int)], [(0, .cells [.val false .u64, .val false .u64, .val false .u64, .val false .u64, .val false .u64, .val false .u64, .val false .u64, .val false .u64, .val false .bool]), (1, .cells [.val false .u64, .val false .u64, .val false .u64, .val false .u64, .val false .u64, .val false .u64, .val false .u64, .val false .u64, .val false .bool])], 0, true⟩

abbrev msum0_s2X : Type := ((Int) × (List ((Elem × (Elem × (Elem × Bool))))) × (Unit) × (Unit) × (Int) × (Int) × Unit) × (((UInt64) × (UInt64) × (UInt64) × (UInt64) × (UInt64) × (UInt64) × (UInt64) × (UInt64) × (Bool) × Unit) × ((UInt64) × (UInt64) × (UInt64) × (UInt64) × (UInt64) × (UInt64) × (UInt64) × (UInt64) × (Bool) × Unit) × Unit)

def msum0_e2_2 : Shape := ⟨39, [(0, .val false .int), (1, .val false (.list (.prod .elem (.prod .elem (.prod .elem .bool))))), (4, .ptr 0 0 0), (5, .ptr 1 0 0), (6, .val false .int)], [(0, .cells [.val false .u64, .val false .u64, .val false .u64, .val false .u64, .val false .u64, .val false .u64, .val false .u64, .val false .u64, .val false .bool]), (1, .cells [.val false .u64, .val false .u64, .val false .u64, .val false .u64, .val false .u64, .val false .u64, .val false .u64, .val false .u64, .val false .bool])], 0, true⟩

abbrev msum0_e2_2X : Type := ((Int) × (List ((Elem × (Elem × (Elem × Bool))))) × (Unit) × (Unit) × (Int) × Unit) × (((UInt64) × (UInt64) × (UInt64) × (UInt64) × (UInt64) × (UInt64) × (UInt64) × (UInt64) × (Bool) × Unit) × ((UInt64) × (UInt64) × (UInt64) × (UInt64) × (UInt64) × (UInt64) × (UInt64) × (UInt64) × (Bool) × Unit) × Unit)

def msum0_x2 : SE → Option Shape := xsMk [(2, msum0_e2_2)] none

def msum0_T2 (a0 : Int) (a1 : List ((Elem × (Elem × (Elem × Bool))))) (a6 : Int) (a24 : Int) (c0_0 : UInt64) (c0_1 : UInt64) (c0_2 : UInt64) (c0_3 : UInt64) (c0_4 : UInt64) (c0_5 : UInt64) (c0_6 : UInt64) (c0_7 : UInt64) (c0_8 : Bool) (c1_0 : UInt64) (c1_1 : UInt64) (c1_2 : UInt64) (c1_3 : UInt64) (c1_4 : UInt64) (c1_5 : UInt64) (c1_6 : UInt64) (c1_7 : UInt64) (c1_8 : Bool) : OT (Sum msum0_s2X LEnd) :=
  let z0 : Elem × Elem × Bool := ({ w0 := c1_0, w1 := c1_1, w2 := c1_2, w3 := c1_3 }, { w0 := c1_4, w1 := c1_5, w2 := c1_6, w3 := c1_7 }, c1_8)
  let z1 : Elem × Elem × Bool := addPt a0 z0 z0
  let z2 : Elem := z1.fst
  let z3 : Elem × Bool := z1.snd
  let z4 : Elem := z3.fst
  (.br (decide (a24 < (4 : Int)))
  (gd [inR (a24 + (1 : Int))] (.ok (.inl ((a0, (a1, ((), ((), (a6, (a24 + (1 : Int), ())))))), ((c0_0, (c0_1, (c0_2, (c0_3, (c0_4, (c0_5, (c0_6, (c0_7, (c0_8, ()))))))))), ((z2.w0, (z2.w1, (z2.w2, (z2.w3, (z4.w0, (z4.w1, (z4.w2, (z4.w3, (z3.snd, ()))))))))), ()))))))
  (.ok (.inr ⟨(.exit 2, msum0_e2_2), ((a0, (a1, ((), ((), (a6, ()))))), ((c0_0, (c0_1, (c0_2, (c0_3, (c0_4, (c0_5, (c0_6, (c0_7, (c0_8, ()))))))))), ((c1_0, (c1_1, (c1_2, (c1_3, (c1_4, (c1_5, (c1_6, (c1_7, (c1_8, ()))))))))), ())))⟩)))

def msum0_U2 (s : msum0_s2X) : OT (Sum msum0_s2X LEnd) := msum0_T2 (s.1.1) (s.1.2.1) (s.1.2.2.2.2.1) (s.1.2.2.2.2.2.1) (s.2.1.1) (s.2.1.2.1) (s.2.1.2.2.1) (s.2.1.2.2.2.1) (s.2.1.2.2.2.2.1) (s.2.1.2.2.2.2.2.1) (s.2.1.2.2.2.2.2.2.1) (s.2.1.2.2.2.2.2.2.2.1) (s.2.1.2.2.2.2.2.2.2.2.1) (s.2.2.1.1) (s.2.2.1.2.1) (s.2.2.1.2.2.1) (s.2.2.1.2.2.2.1) (s.2.2.1.2.2.2.2.1) (s.2.2.1.2.2.2.2.2.1) (s.2.2.1.2.2.2.2.2.2.1) (s.2.2.1.2.2.2.2.2.2.2.1) (s.2.2.1.2.2.2.2.2.2.2.2.1)

theorem msum0_q2 (s : msum0_s2X) (Q : Sum msum0_s2X LEnd → Prop) : wps te E_mbuckets lamNil 1000 (loopOf (loopOf (codeOf Try.f66) 0) 2) (msum0_s2.inj s) (stepK msum0_s2 msum0_x2 (Q : Sum msum0_s2.T LEnd → Prop)) = (msum0_U2 s).wpR Q := by kernel_rfl

def msum0_f2 (g2_2 : msum0_s2X → msum0_e2_2X) (s : msum0_s2X) : OT LEnd := (.ok ⟨(.exit 2, msum0_e2_2), g2_2 s⟩)

def msum0_e0_0 : Shape := ⟨39, [(4, .ptr 0 0 0), (5, .ptr 1 0 0)], [(0, .cells [.val false .u64, .val false .u64, .val false .u64, .val false .u64, .val false .u64, .val false .u64, .val false .u64, .val false .u64, .val false .bool]), (1, .cells [.val false .u64, .val false .u64, .val false .u64, .val false .u64, .val false .u64, .val false .u64, .val false .u64, .val false .u64, .val false .bool])], 0, true⟩

abbrev msum0_e0_0X : Type := ((Unit) × (Unit) × Unit) × (((UInt64) × (UInt64) × (UInt64) × (UInt64) × (UInt64) × (UInt64) × (UInt64) × (UInt64) × (Bool) × Unit) × ((UInt64) × (UInt64) × (UInt64) × (UInt64) × (UInt64) × (UInt64) × (UInt64) × (UInt64) × (Bool) × Unit) × Unit)

def msum0_x0 : SE → Option Shape := xsMk [(0, msum0_e0_0)] none

def msum0_T0 (ok2 : msum0_s2X → Bool) (g2_2 : msum0_s2X → msum0_e2_2X) (a0 : Int) (a1 : List ((Elem × (Elem × (Elem × Bool))))) (a6 : Int) (c0_0 : UInt64) (c0_1 : UInt64) (c0_2 : UInt64) (c0_3 : UInt64) (c0_4 : UInt64) (c0_5 : UInt64) (c0_6 : UInt64) (c0_7 : UInt64) (c0_8 : Bool) (c1_0 : UInt64) (c1_1 : UInt64) (c1_2 : UInt64) (c1_3 : UInt64) (c1_4 : UInt64) (c1_5 : UInt64) (c1_6 : UInt64) (c1_7 : UInt64) (c1_8 : Bool) : OT (Sum msum0_s0X LEnd) :=
  let z0 : (Int × List (Elem × Elem × Elem × Bool) × PUnit × PUnit × Int × Int × PUnit) × (UInt64 × UInt64 × UInt64 × UInt64 × UInt64 × UInt64 × UInt64 × UInt64 × Bool × PUnit) × (UInt64 × UInt64 × UInt64 × UInt64 × UInt64 × UInt64 × UInt64 × UInt64 × Bool × PUnit) × PUnit := ((a0, a1, (), (), a6, (0 : Int), ()), (c0_0, c0_1, c0_2, c0_3, c0_4, c0_5, c0_6, c0_7, c0_8, ()), (c1_0, c1_1, c1_2, c1_3, c1_4, c1_5, c1_6, c1_7, c1_8, ()), ())
  let z1 : (Int × List (Elem × Elem × Elem × Bool) × PUnit × PUnit × Int × PUnit) × (UInt64 × UInt64 × UInt64 × UInt64 × UInt64 × UInt64 × UInt64 × UInt64 × Bool × PUnit) × (UInt64 × UInt64 × UInt64 × UInt64 × UInt64 × UInt64 × UInt64 × UInt64 × Bool × PUnit) × PUnit := g2_2 z0
  let z2 : Int × List (Elem × Elem × Elem × Bool) × PUnit × PUnit × Int × PUnit := z1.fst
  let z3 : Int := z2.fst
  let z4 : List (Elem × Elem × Elem × Bool) × PUnit × PUnit × Int × PUnit := z2.snd
  let z5 : List (Elem × Elem × Elem × Bool) := z4.fst
  let z6 : Int := z4.snd.snd.snd.fst
  let z7 : (UInt64 × UInt64 × UInt64 × UInt64 × UInt64 × UInt64 × UInt64 × UInt64 × Bool × PUnit) × (UInt64 × UInt64 × UInt64 × UInt64 × UInt64 × UInt64 × UInt64 × UInt64 × Bool × PUnit) × PUnit := z1.snd
  let z8 : UInt64 × UInt64 × UInt64 × UInt64 × UInt64 × UInt64 × UInt64 × UInt64 × Bool × PUnit := z7.fst
  let z9 : UInt64 × UInt64 × UInt64 × UInt64 × UInt64 × UInt64 × UInt64 × Bool × PUnit := z8.snd
  let z10 : UInt64 × UInt64 × UInt64 × UInt64 × UInt64 × UInt64 × Bool × PUnit := z9.snd
  let z11 : UInt64 × UInt64 × UInt64 × UInt64 × UInt64 × Bool × PUnit := z10.snd
  let z12 : UInt64 × UInt64 × UInt64 × UInt64 × Bool × PUnit := z11.snd
  let z13 : UInt64 × UInt64 × UInt64 × Bool × PUnit := z12.snd
  let z14 : UInt64 × UInt64 × Bool × PUnit := z13.snd
  let z15 : UInt64 × Bool × PUnit := z14.snd
  let z16 : UInt64 × UInt64 × UInt64 × UInt64 × UInt64 × UInt64 × UInt64 × UInt64 × Bool × PUnit := z7.snd.fst
  let z17 : UInt64 × UInt64 × UInt64 × UInt64 × UInt64 × UInt64 × UInt64 × Bool × PUnit := z16.snd
  let z18 : UInt64 × UInt64 × UInt64 × UInt64 × UInt64 × UInt64 × Bool × PUnit := z17.snd
  let z19 : UInt64 × UInt64 × UInt64 × UInt64 × UInt64 × Bool × PUnit := z18.snd
  let z20 : UInt64 × UInt64 × UInt64 × UInt64 × Bool × PUnit := z19.snd
  let z21 : UInt64 × UInt64 × UInt64 × Bool × PUnit := z20.snd
  let z22 : UInt64 × UInt64 × Bool × PUnit := z21.snd
  let z23 : UInt64 × Bool × PUnit := z22.snd
  let z24 : Elem × Elem × Bool := addPt z3 ({ w0 := z16.fst, w1 := z17.fst, w2 := z18.fst, w3 := z19.fst }, { w0 := z20.fst, w1 := z21.fst, w2 := z22.fst, w3 := z23.fst }, z23.snd.fst) (buckP z3 z5 z6)
  let z25 : Elem := z24.fst
  let z26 : Elem × Bool := z24.snd
  let z27 : Elem := z26.fst
  (.br (decide ((0 : Int) ≤ a6))
  (gd [ok2 z0, mbuckets_pre ((z3, z5, z6, ()), ()), inR (z6 - (4 : Int))] (.ok (.inl ((z3, (z5, ((), ((), (z6 - (4 : Int), ()))))), ((z8.fst, (z9.fst, (z10.fst, (z11.fst, (z12.fst, (z13.fst, (z14.fst, (z15.fst, (z15.snd.fst, ()))))))))), ((z25.w0, (z25.w1, (z25.w2, (z25.w3, (z27.w0, (z27.w1, (z27.w2, (z27.w3, (z26.snd, ()))))))))), ()))))))
  (.ok (.inr ⟨(.exit 0, msum0_e0_0), (((), ((), ())), ((c0_0, (c0_1, (c0_2, (c0_3, (c0_4, (c0_5, (c0_6, (c0_7, (c0_8, ()))))))))), ((c1_0, (c1_1, (c1_2, (c1_3, (c1_4, (c1_5, (c1_6, (c1_7, (c1_8, ()))))))))), ())))⟩)))

def msum0_U0 (ok2 : msum0_s2X → Bool) (g2_2 : msum0_s2X → msum0_e2_2X) (s : msum0_s0X) : OT (Sum msum0_s0X LEnd) := msum0_T0 ok2 g2_2 (s.1.1) (s.1.2.1) (s.1.2.2.2.2.1) (s.2.1.1) (s.2.1.2.1) (s.2.1.2.2.1) (s.2.1.2.2.2.1) (s.2.1.2.2.2.2.1) (s.2.1.2.2.2.2.2.1) (s.2.1.2.2.2.2.2.2.1) (s.2.1.2.2.2.2.2.2.2.1) (s.2.1.2.2.2.2.2.2.2.2.1) (s.2.2.1.1) (s.2.2.1.2.1) (s.2.2.1.2.2.1) (s.2.2.1.2.2.2.1) (s.2.2.1.2.2.2.2.1) (s.2.2.1.2.2.2.2.2.1) (s.2.2.1.2.2.2.2.2.2.1) (s.2.2.1.2.2.2.2.2.2.2.1) (s.2.2.1.2.2.2.2.2.2.2.2.1)

theorem msum0_q0 (ok2 : msum0_s2X → Bool) (g2_2 : msum0_s2X → msum0_e2_2X) (s : msum0_s0X) (Q : Sum msum0_s0X LEnd → Prop) : wps te E_mbuckets (lamCons 2 (loopF msum0_s2 2 ok2 (msum0_f2 g2_2)) lamNil) 1000 (loopOf (codeOf Try.f66) 0) (msum0_s0.inj s) (stepK msum0_s0 msum0_x0 (Q : Sum msum0_s0.T LEnd → Prop)) = (msum0_U0 ok2 g2_2 s).wpR Q := by kernel_rfl

def msum0_f0 (g0_0 : msum0_s0X → msum0_e0_0X) (s : msum0_s0X) : OT LEnd := (.ok ⟨(.exit 0, msum0_e0_0), g0_0 s⟩)

def msum0_o0 : OutSh := ⟨[.val true (.prod .elem (.prod .elem .bool))], [], false⟩

def msum0_sel : SV → Option OutSh := fun _ => some msum0_o0

def msum0_T (ok2 : msum0_s2X → Bool) (g2_2 : msum0_s2X → msum0_e2_2X) (ok0 : msum0_s0X → Bool) (g0_0 : msum0_s0X → msum0_e0_0X) (a0 : Int) (a1 : List ((Elem × (Elem × (Elem × Bool))))) : OT msum0_S.Y :=
  let z0 : Int := Int.tdiv ((↑(topT a1) : Int) + (4 : Int) - (1 : Int)) (4 : Int)
  let z1 : (Int × List (Elem × Elem × Elem × Bool) × PUnit × PUnit × Int × PUnit) × (UInt64 × UInt64 × UInt64 × UInt64 × UInt64 × UInt64 × UInt64 × UInt64 × Bool × PUnit) × (UInt64 × UInt64 × UInt64 × UInt64 × UInt64 × UInt64 × UInt64 × UInt64 × Bool × PUnit) × PUnit := ((a0, a1, (), (), z0 * (4 : Int), ()), ((0 : UInt64), (0 : UInt64), (0 : UInt64), (0 : UInt64), (0 : UInt64), (0 : UInt64), (0 : UInt64), (0 : UInt64), false, ()), ((0 : UInt64), (0 : UInt64), (0 : UInt64), (0 : UInt64), (0 : UInt64), (0 : UInt64), (0 : UInt64), (0 : UInt64), true, ()), ())
  let z2 : UInt64 × UInt64 × UInt64 × UInt64 × UInt64 × UInt64 × UInt64 × UInt64 × Bool × PUnit := (g0_0 z1).snd.snd.fst
  let z3 : UInt64 × UInt64 × UInt64 × UInt64 × UInt64 × UInt64 × UInt64 × Bool × PUnit := z2.snd
  let z4 : UInt64 × UInt64 × UInt64 × UInt64 × UInt64 × UInt64 × Bool × PUnit := z3.snd
  let z5 : UInt64 × UInt64 × UInt64 × UInt64 × UInt64 × Bool × PUnit := z4.snd
  let z6 : UInt64 × UInt64 × UInt64 × UInt64 × Bool × PUnit := z5.snd
  let z7 : UInt64 × UInt64 × UInt64 × Bool × PUnit := z6.snd
  let z8 : UInt64 × UInt64 × Bool × PUnit := z7.snd
  let z9 : UInt64 × Bool × PUnit := z8.snd
  (.br (decide ((↑(List.length a1) : Int) < (24 : Int)))
  (gd [msingle_pre ((a0, a1, ()), ())] (.ok ⟨msum0_o0, ((singlePt a0 a1, ()), ())⟩))
  (gd [mtop_pre ((a1, ()), ()), inR ((↑(topT a1) : Int) + (4 : Int)), inR ((↑(topT a1) : Int) + (4 : Int) - (1 : Int)), true && inR z0, inR (z0 * (4 : Int)), ok0 z1] (.ok ⟨msum0_o0, ((({ w0 := z2.fst, w1 := z3.fst, w2 := z4.fst, w3 := z5.fst }, { w0 := z6.fst, w1 := z7.fst, w2 := z8.fst, w3 := z9.fst }, z9.snd.fst), ()), ())⟩)))

theorem msum0_q (ok2 : msum0_s2X → Bool) (g2_2 : msum0_s2X → msum0_e2_2X) (ok0 : msum0_s0X → Bool) (g0_0 : msum0_s0X → msum0_e0_0X) (x : msum0X) (Q : msum0_S.Y → Prop) : wpf te E_mbuckets (lamCons 0 (loopF msum0_s0 0 ok0 (msum0_f0 g0_0)) lamNil) 1000 Try.f66 (msum0_S.inp.inj x).tm (msum0_S.inp.inj x).hp (fnK msum0_S msum0_sel Q) (fun _ _ => False) = (msum0_T ok2 g2_2 ok0 g0_0 (x.1.1) (x.1.2.1)).wpR Q := by kernel_rfl

theorem msum0_main (ok2 : msum0_s2X → Bool) (g2_2 : msum0_s2X → msum0_e2_2X) (ok0 : msum0_s0X → Bool) (g0_0 : msum0_s0X → msum0_e0_0X) (h2 : ∀ s : msum0_s2X, ok2 s = true → ∃ m e, loopRun (msum0_U2) m s = some e ∧ (msum0_f2 g2_2 s).run = some e) (h0 : ∀ s : msum0_s0X, ok0 s = true → ∃ m e, loopRun (msum0_U0 ok2 g2_2) m s = some e ∧ (msum0_f0 g0_0 s).run = some e) (pre : msum0X → Bool) (F : msum0X → OT msum0_S.Y) (hF : ∀ (x : msum0X) oy, pre x = true → (F x).run = some oy → (msum0_T ok2 g2_2 ok0 g0_0 (x.1.1) (x.1.2.1)).run = some oy) : SummOk Try.prog 66 (msum0_S.summ pre F) :=
  fn_tree te_ok E_mbuckets_ok E_mbuckets_any (f := 66) (fn := Try.f66) (c := codeOf Try.f66) (by kernel_rfl) (by kernel_rfl) (by kernel_rfl) (S := msum0_S) (k := 0) (by kernel_rfl) (fun R hR => (lamOk_cons (c := (codeOf Try.f66)) (by kernel_rfl) (id := 0) (by kernel_rfl) (loop_ok te_ok E_mbuckets_ok E_mbuckets_any (sh := msum0_s0) hR (xs := msum0_x0) (xsMk_small (by kernel_rfl) (by kernel_rfl) hR) xsMk_pan (lamOk_cons (c := (loopOf (codeOf Try.f66) 0)) (by kernel_rfl) (id := 2) (by kernel_rfl) (loop_ok te_ok E_mbuckets_ok E_mbuckets_any (sh := msum0_s2) hR (xs := msum0_x2) (xsMk_small (by kernel_rfl) (by kernel_rfl) hR) xsMk_pan lamOk_nil (n := 1000) (T := msum0_U2) (fun s Q => msum0_q2 s Q) (ok := ok2) (f := msum0_f2 g2_2) h2) lamOk_nil) (n := 1000) (T := msum0_U0 ok2 g2_2) (fun s Q => msum0_q0 ok2 g2_2 s Q) (ok := ok0) (f := msum0_f0 g0_0) h0) lamOk_nil)) (n := 1000) (sel := msum0_sel) (fun v o h => by cases h; rfl) (pre := pre) (F := F) (T := fun x => msum0_T ok2 g2_2 ok0 g0_0 (x.1.1) (x.1.2.1)) (fun x Q => msum0_q ok2 g2_2 ok0 g0_0 x Q) hF

theorem topB_le (l : List Tm) : ∀ n, topB l n ≤ n
  | 0 => Nat.le_refl _
  | n + 1 => by
    unfold topB
    cases anyT l (n : Int)
    · exact Nat.le_succ_of_le (topB_le l n)
    · exact Nat.le_refl _
def dbl4 (c : Int) (O : Pt) : Pt := upto (fun _ o => addPt c o o) O 4
def msum0_ok2 (s : msum0_s2X) : Bool := decide (s.1.2.2.2.2.2.1 = 0)
def msum0_g2 (s : msum0_s2X) : msum0_e2_2X := ((s.1.1, s.1.2.1, (), (), s.1.2.2.2.2.1, ()), (s.2.1, flatP (dbl4 s.1.1 (cellP s.2.2.1)), ()))
theorem msum0_h2 : ∀ s : msum0_s2X, msum0_ok2 s = true → ∃ m e, loopRun msum0_U2 m s = some e ∧ (msum0_f2 msum0_g2 s).run = some e := by
  rintro ⟨⟨c, l, ⟨⟩, ⟨⟩, a, i, ⟨⟩⟩, ⟨c0, c1, ⟨⟩⟩⟩ h
  have h' := of_decide_eq_true h
  dsimp only at h'
  subst h'
  have := (loop_upto (T := msum0_U2) (fun i O => (((c, l, (), (), a, (i : Int), ()), (c0, flatP O, ())) : msum0_s2X)) (fun _ o => addPt c o o)
    (fun O => (⟨(.exit 2, msum0_e2_2), ((c, l, (), (), a, ()), (c0, flatP O, ()))⟩ : LEnd)) 4 (cellP c1) (fun _ _ => True) trivial (fun k O hk _ => ⟨?_, trivial⟩) (fun O _ => ?_)).1
  · obtain ⟨m, hm⟩ := this
    exact ⟨m, _, hm, rfl⟩
  · refine (OT.run_t (decide_eq_true (by dsimp only; omega))).trans ((gd_run ?_).trans rfl)
    simp only [List.all_cons, List.all_nil, Bool.and_true]
    exact inR_of (by omega)
  · exact OT.run_f (decide_eq_false (by dsimp only; omega))
def winStep (c : Int) (l : List Tm) (W n : Nat) (O : Pt) : Pt := addPt c (dbl4 c O) (buckP c l (4 * (W : Int) - 4 * (n : Int)))
def topW (l : List Tm) : Nat := (topT l + 3) / 4
/-- Terms summed by their digits. -/
def winP (c : Int) (l : List Tm) : Pt := upto (winStep c l (topW l)) inftyP (topW l + 1)
def win_s2 (c : Int) (l : List Tm) (a : Int) (c0 : C9) (O : Pt) : msum0_s2X := ((c, l, (), (), a, 0, ()), (c0, flatP O, ()))
theorem win_T0 {ok2 : msum0_s2X → Bool} {g2 : msum0_s2X → msum0_e2_2X} {c a : Int} {l : List Tm} {c0 : C9} {O D : Pt} (h0 : 0 ≤ a) (h1 : a ≤ 1000) (hl : l.length ≤ 140737488355328) (hok : ok2 (win_s2 c l a c0 O) = true)
    (e2 : g2 (win_s2 c l a c0 O) = ((c, l, (), (), a, ()), (c0, flatP D, ()))) :
    (msum0_U0 ok2 g2 ((c, l, (), (), a, ()), (c0, flatP O, ()))).run = some (.inl ((c, l, (), (), a - 4, ()), (c0, flatP (addPt c D (buckP c l a)), ()))) := by
  unfold win_s2 at hok e2
  have e2' : g2 ((c, l, (), (), a, 0, ()), (c0.1, c0.2.1, c0.2.2.1, c0.2.2.2.1, c0.2.2.2.2.1, c0.2.2.2.2.2.1, c0.2.2.2.2.2.2.1, c0.2.2.2.2.2.2.2.1, c0.2.2.2.2.2.2.2.2.1, ()), ((flatP O).1, (flatP O).2.1, (flatP O).2.2.1, (flatP O).2.2.2.1, (flatP O).2.2.2.2.1, (flatP O).2.2.2.2.2.1, (flatP O).2.2.2.2.2.2.1, (flatP O).2.2.2.2.2.2.2.1, (flatP O).2.2.2.2.2.2.2.2.1, ()), ()) = ((c, l, (), (), a, ()), (c0, flatP D, ())) := e2
  unfold msum0_U0 msum0_T0
  simp only [e2']
  refine (OT.run_t (decide_eq_true h0)).trans ((gd_run ?_).trans rfl)
  simp only [List.all_cons, List.all_nil, Bool.and_true, Bool.and_eq_true]
  exact ⟨hok, decide_eq_true ⟨⟨h0, h1⟩, hl⟩, inR_of (by omega)⟩
def msum0_ok0 (s : msum0_s0X) : Bool := decide (s.1.2.2.2.2.1 = 4 * (topW s.1.2.1 : Int) ∧ cellP s.2.2.1 = inftyP ∧ s.1.2.1.length ≤ 140737488355328)
def msum0_g0 (s : msum0_s0X) : msum0_e0_0X := (((), (), ()), (s.2.1, flatP (winP s.1.1 s.1.2.1), ()))
theorem msum0_h0 : ∀ s : msum0_s0X, msum0_ok0 s = true → ∃ m e, loopRun (msum0_U0 msum0_ok2 msum0_g2) m s = some e ∧ (msum0_f0 msum0_g0 s).run = some e := by
  rintro ⟨⟨c, l, ⟨⟩, ⟨⟩, a, ⟨⟩⟩, ⟨c0, c1, ⟨⟩⟩⟩ h
  have h' := of_decide_eq_true h
  dsimp only at h'
  obtain ⟨rfl, hO, hl⟩ := h'
  have hO2 : c1 = flatP inftyP := by rw [← hO]; rfl
  subst hO2
  have hW : topW l ≤ 64 := by
    have := topB_le l 256
    unfold topW topT
    omega
  have := (loop_upto (T := msum0_U0 msum0_ok2 msum0_g2) (fun n O => (((c, l, (), (), 4 * (topW l : Int) - 4 * (n : Int), ()), (c0, flatP O, ())) : msum0_s0X)) (winStep c l (topW l))
    (fun O => (⟨(.exit 0, msum0_e0_0), (((), (), ()), (c0, flatP O, ()))⟩ : LEnd)) (topW l + 1) inftyP (fun _ _ => True) trivial (fun n O hn _ => ⟨?_, trivial⟩) (fun O _ => ?_)).1
  · obtain ⟨m, hm⟩ := this
    refine ⟨m, _, ?_, rfl⟩
    have e : 4 * (topW l : Int) - 4 * ((0 : Nat) : Int) = 4 * (topW l : Int) := by omega
    rw [e] at hm
    exact hm
  · have e : 4 * (topW l : Int) - 4 * ((n + 1 : Nat) : Int) = 4 * (topW l : Int) - 4 * (n : Int) - 4 := by omega
    rw [e]
    exact win_T0 (D := dbl4 c O) (by omega) (by omega) hl (decide_eq_true rfl) rfl
  · exact OT.run_f (decide_eq_false (by dsimp only; omega))
def fewT (l : List Tm) : Bool := decide ((l.length : Int) < 24)
/-- The terms' sum. -/
def sumP (c : Int) (l : List Tm) : Pt := cond (fewT l) (singlePt c l) (winP c l)
def msum0_pre (x : msum0X) : Bool := decide (x.1.2.1.length ≤ 140737488355328)
def msum0_F (x : msum0X) : OT msum0_S.Y := .ok ⟨msum0_o0, ((sumP x.1.1 x.1.2.1, ()), ())⟩
theorem msum0_T_of {ok2 : msum0_s2X → Bool} {g2 : msum0_s2X → msum0_e2_2X} {ok0 : msum0_s0X → Bool} {g0 : msum0_s0X → msum0_e0_0X} {c : Int} {l : List Tm} {R : Pt} (hl : l.length ≤ 140737488355328) (hf : fewT l = false)
    (h0 : ok0 ((c, l, (), (), 4 * (topW l : Int), ()), (flatP noPt, flatP inftyP, ())) = true) (e0 : g0 ((c, l, (), (), 4 * (topW l : Int), ()), (flatP noPt, flatP inftyP, ())) = (((), (), ()), (flatP noPt, flatP R, ()))) :
    (msum0_T ok2 g2 ok0 g0 c l).run = some ⟨msum0_o0, ((R, ()), ())⟩ := by
  have ht : Int.tdiv ((topT l : Int) + 4 - 1) 4 = (topW l : Int) := by
    unfold topW
    rw [Int.tdiv_eq_ediv_of_nonneg (by omega)]
    omega
  have hW := topB_le l 256
  have hW : topT l ≤ 256 := hW
  have hW2 : topW l ≤ 64 := by unfold topW; omega
  have e1 : (topW l : Int) * 4 = 4 * (topW l : Int) := Int.mul_comm _ _
  unfold msum0_T
  have e0' : g0 ((c, l, (), (), 4 * (topW l : Int), ()), (0, 0, 0, 0, 0, 0, 0, 0, false, ()), (0, 0, 0, 0, 0, 0, 0, 0, true, ()), ()) = (((), (), ()), (flatP noPt, flatP R, ())) := e0
  simp only [ht, e1, e0']
  refine (OT.run_f hf).trans ((gd_run ?_).trans rfl)
  simp only [List.all_cons, List.all_nil, Bool.and_true, Bool.true_and, Bool.and_eq_true]
  exact ⟨decide_eq_true hl, inR_of (by omega), inR_of (by omega), inR_of (by omega), inR_of (by omega), h0⟩
theorem msum0_ok : SummOk Try.prog 66 (msum0_S.summ msum0_pre msum0_F) := msum0_main msum0_ok2 msum0_g2 msum0_ok0 msum0_g0 msum0_h2 msum0_h0 _ _ fun x oy hp ho => by
  rw [← ho]
  clear ho
  obtain ⟨⟨c, l, ⟨⟩⟩, ⟨⟩⟩ := x
  have hl : l.length ≤ 140737488355328 := of_decide_eq_true hp
  show (msum0_T msum0_ok2 msum0_g2 msum0_ok0 msum0_g0 c l).run = some ⟨msum0_o0, ((sumP c l, ()), ())⟩
  rcases (Bool.eq_false_or_eq_true (fewT l)).symm with hf | hf
  · have e : sumP c l = winP c l := by unfold sumP; rw [hf]; rfl
    rw [e]
    exact msum0_T_of (R := winP c l) hl hf (decide_eq_true ⟨rfl, rfl, hl⟩) rfl
  · have e : sumP c l = singlePt c l := by unfold sumP; rw [hf]; rfl
    rw [e]
    refine (OT.run_t hf).trans ((gd_run ?_).trans rfl)
    simp only [List.all_cons, List.all_nil, Bool.and_true]
    exact hp

def msum0_summ : Summ := (msum0_S.summ msum0_pre msum0_F)
theorem msum0_known : SummOk Try.prog 66 msum0_summ := msum0_ok
theorem msum0_smono : MonoOk msum0_summ := fn_mono

def E_msum0 : Env := envCons 66 msum0_summ E_mbuckets
theorem E_msum0_ok : EnvOk Try.prog E_msum0 := envOk_cons msum0_known E_mbuckets_ok
theorem E_msum0_mono : EnvMono E_msum0 := envMono_cons msum0_smono E_mbuckets_mono
theorem E_msum0_any : AnyOk Try.prog te E_msum0 := any_ok follows te_ok E_msum0_ok E_msum0_mono

end Go.Proofs.Ytkedomfjjahjnaa

/- The function (*sigil/msm.Lazy).Value: what it makes of its arguments. No statement of a seat is proved here. -/
namespace Go.Proofs.Ytkedomfjjahjnaa
open Sx Go
set_option maxRecDepth 100000

def mvalue_S : FnSpec := ⟨[.ptr 0 0 0], [(0, lazC (.own 1)), (1, .row termT)], false, 2, true⟩

abbrev mvalueX : Type := ((Unit) × Unit) × (((Int) × (Unit) × Unit) × (List ((Elem × (Elem × (Elem × Bool))))) × Unit)

def mvalue_o0 : OutSh := ⟨[.val true (.prod .elem (.prod .elem .bool))], [(0, .cells [.val false .int, .own 1]), (1, .row (.prod .elem (.prod .elem (.prod .elem .bool))))], false⟩

def mvalue_sel : SV → Option OutSh := fun _ => some mvalue_o0

def mvalue_T (c0_0 : Int) (c1 : List ((Elem × (Elem × (Elem × Bool))))) : OT mvalue_S.Y :=
  (gd [msum0_pre ((c0_0, c1, ()), ())] (.ok ⟨mvalue_o0, ((sumP c0_0 c1, ()), ((c0_0, ((), ())), (c1, ())))⟩))

theorem mvalue_q (x : mvalueX) (Q : mvalue_S.Y → Prop) : wpf te E_msum0 lamNil 1000 Try.f33 (mvalue_S.inp.inj x).tm (mvalue_S.inp.inj x).hp (fnK mvalue_S mvalue_sel Q) (fun _ _ => False) = (mvalue_T (x.2.1.1) (x.2.2.1)).wpR Q := by kernel_rfl

theorem mvalue_main (pre : mvalueX → Bool) (F : mvalueX → OT mvalue_S.Y) (hF : ∀ (x : mvalueX) oy, pre x = true → (F x).run = some oy → (mvalue_T (x.2.1.1) (x.2.2.1)).run = some oy) : SummOk Try.prog 33 (mvalue_S.summ pre F) :=
  fn_tree te_ok E_msum0_ok E_msum0_any (f := 33) (fn := Try.f33) (c := codeOf Try.f33) (by kernel_rfl) (by kernel_rfl) (by kernel_rfl) (S := mvalue_S) (k := 2) (by kernel_rfl) (fun R hR => lamOk_nil) (n := 1000) (sel := mvalue_sel) (fun v o h => by cases h; rfl) (pre := pre) (F := F) (T := fun x => mvalue_T (x.2.1.1) (x.2.2.1)) (fun x Q => mvalue_q x Q) hF

def mvalue_pre (x : mvalueX) : Bool := msum0_pre ((x.2.1.1, x.2.2.1, ()), ())
def mvalue_F (x : mvalueX) : OT mvalue_S.Y := .ok ⟨mvalue_o0, ((sumP x.2.1.1 x.2.2.1, ()), ((x.2.1.1, ((), ())), (x.2.2.1, ())))⟩
theorem mvalue_ok : SummOk Try.prog 33 (mvalue_S.summ mvalue_pre mvalue_F) := mvalue_main _ _ fun x oy hp ho => by
  rw [← ho]
  clear ho
  refine (gd_run ?_).trans rfl
  simp only [List.all_cons, List.all_nil, Bool.and_true]
  exact hp

def mvalue_summ : Summ := (mvalue_S.summ mvalue_pre mvalue_F)
theorem mvalue_known : SummOk Try.prog 33 mvalue_summ := mvalue_ok
theorem mvalue_smono : MonoOk mvalue_summ := fn_mono

def E_mvalue : Env := envCons 33 mvalue_summ E_msum0
theorem E_mvalue_ok : EnvOk Try.prog E_mvalue := envOk_cons mvalue_known E_msum0_ok
theorem E_mvalue_mono : EnvMono E_mvalue := envMono_cons mvalue_smono E_msum0_mono
theorem E_mvalue_any : AnyOk Try.prog te E_mvalue := any_ok follows te_ok E_mvalue_ok E_mvalue_mono

end Go.Proofs.Ytkedomfjjahjnaa

/- The function sigil/msm.Sum: what it makes of its arguments. No statement of a seat is proved here. -/
namespace Go.Proofs.Ytkedomfjjahjnaa
open Sx Go
set_option maxRecDepth 100000

def msum_S : FnSpec := ⟨[.val false .int, .val false (.list termT)], [], true, 0, false⟩

abbrev msumX : Type := ((Int) × (List ((Elem × (Elem × (Elem × Bool))))) × Unit) × (Unit)

def msum_s1 : Shape := ⟨45, [(4, .ptr 0 0 0), (6, .ptr 1 0 0), (26, .val false (.list (.prod .elem (.prod .elem (.prod .elem .bool))))), (27, .val false .int), (28, .val false .int)], [(0, .cells [.val false .u64, .val false .u64, .val false .u64, .val false .u64, .val false .u64, .val false .u64, .val false .u64, .val false .u64, .val false .bool]), (1, .cells [.val false .int, .own 2]), (2, .row (.prod .elem (.prod .elem (.prod .elem .bool))))], 0, true⟩

abbrev msum_s1X : Type := ((Unit) × (Unit) × (List ((Elem × (Elem × (Elem × Bool))))) × (Int) × (Int) × Unit) × (((UInt64) × (UInt64) × (UInt64) × (UInt64) × (UInt64) × (UInt64) × (UInt64) × (UInt64) × (Bool) × Unit) × ((Int) × (Unit) × Unit) × (List ((Elem × (Elem × (Elem × Bool))))) × Unit)

def msum_e1_r : Shape := ⟨45, [(4, .ptr 0 0 0), (5, .val false .int)], [(0, .cells [.val false .u64, .val false .u64, .val false .u64, .val false .u64, .val false .u64, .val false .u64, .val false .u64, .val false .u64, .val false .bool])], 0, true⟩

abbrev msum_e1_rX : Type := ((Unit) × (Int) × Unit) × (((UInt64) × (UInt64) × (UInt64) × (UInt64) × (UInt64) × (UInt64) × (UInt64) × (UInt64) × (Bool) × Unit) × Unit)

def msum_e1_1 : Shape := ⟨45, [(4, .ptr 0 0 0), (6, .ptr 1 0 0)], [(0, .cells [.val false .u64, .val false .u64, .val false .u64, .val false .u64, .val false .u64, .val false .u64, .val false .u64, .val false .u64, .val false .bool]), (1, .cells [.val false .int, .own 2]), (2, .row (.prod .elem (.prod .elem (.prod .elem .bool))))], 0, true⟩

abbrev msum_e1_1X : Type := ((Unit) × (Unit) × Unit) × (((UInt64) × (UInt64) × (UInt64) × (UInt64) × (UInt64) × (UInt64) × (UInt64) × (UInt64) × (Bool) × Unit) × ((Int) × (Unit) × Unit) × (List ((Elem × (Elem × (Elem × Bool))))) × Unit)

def msum_x1 : SE → Option Shape := xsMk [(1, msum_e1_1)] (some msum_e1_r)

def msum_T1 (a26 : List ((Elem × (Elem × (Elem × Bool))))) (a27 : Int) (a28 : Int) (c0_0 : UInt64) (c0_1 : UInt64) (c0_2 : UInt64) (c0_3 : UInt64) (c0_4 : UInt64) (c0_5 : UInt64) (c0_6 : UInt64) (c0_7 : UInt64) (c0_8 : Bool) (c1_0 : Int) (c2 : List ((Elem × (Elem × (Elem × Bool))))) : OT (Sum msum_s1X LEnd) :=
  let z0 : Elem := { w0 := (0 : UInt64), w1 := (0 : UInt64), w2 := (0 : UInt64), w3 := (0 : UInt64) }
  let z1 : Elem × Elem × Elem × Bool := List.getD a26 (Int.toNat a28) (z0, z0, z0, false)
  let z2 : Elem × Elem × Bool := z1.snd
  (.br (decide (a28 < a27))
  (gd [inB a28 (List.length a26)] (.br (onB c1_0 z2)
    (.br (roomT c2)
      (gd [inR (a28 + (1 : Int))] (.ok (.inl (((), ((), (a26, (a27, (a28 + (1 : Int), ()))))), ((c0_0, (c0_1, (c0_2, (c0_3, (c0_4, (c0_5, (c0_6, (c0_7, (c0_8, ()))))))))), ((c1_0, ((), ())), (c2 ++ [(scalP c1_0 z1.fst, z2)], ())))))))
      (.ok (.inr ⟨(.ret, msum_e1_r), (((), ((50 : Int), ())), (((0 : UInt64), ((0 : UInt64), ((0 : UInt64), ((0 : UInt64), ((0 : UInt64), ((0 : UInt64), ((0 : UInt64), ((0 : UInt64), (false, ()))))))))), ()))⟩)))
    (.ok (.inr ⟨(.ret, msum_e1_r), (((), ((41 : Int), ())), (((0 : UInt64), ((0 : UInt64), ((0 : UInt64), ((0 : UInt64), ((0 : UInt64), ((0 : UInt64), ((0 : UInt64), ((0 : UInt64), (false, ()))))))))), ()))⟩))))
  (.ok (.inr ⟨(.exit 1, msum_e1_1), (((), ((), ())), ((c0_0, (c0_1, (c0_2, (c0_3, (c0_4, (c0_5, (c0_6, (c0_7, (c0_8, ()))))))))), ((c1_0, ((), ())), (c2, ()))))⟩)))

def msum_U1 (s : msum_s1X) : OT (Sum msum_s1X LEnd) := msum_T1 (s.1.2.2.1) (s.1.2.2.2.1) (s.1.2.2.2.2.1) (s.2.1.1) (s.2.1.2.1) (s.2.1.2.2.1) (s.2.1.2.2.2.1) (s.2.1.2.2.2.2.1) (s.2.1.2.2.2.2.2.1) (s.2.1.2.2.2.2.2.2.1) (s.2.1.2.2.2.2.2.2.2.1) (s.2.1.2.2.2.2.2.2.2.2.1) (s.2.2.1.1) (s.2.2.2.1)

theorem msum_q1 (s : msum_s1X) (Q : Sum msum_s1X LEnd → Prop) : wps te E_mvalue lamNil 1000 (loopOf (codeOf Try.f18) 1) (msum_s1.inj s) (stepK msum_s1 msum_x1 (Q : Sum msum_s1.T LEnd → Prop)) = (msum_U1 s).wpR Q := by kernel_rfl

def msum_f1 (g1_r : msum_s1X → msum_e1_rX) (c1_r : msum_s1X → Bool) (g1_1 : msum_s1X → msum_e1_1X) (s : msum_s1X) : OT LEnd := (.br (c1_r s) (.ok ⟨(.ret, msum_e1_r), g1_r s⟩) (.ok ⟨(.exit 1, msum_e1_1), g1_1 s⟩))

def msum_o0 : OutSh := ⟨[.val true (.prod .elem (.prod .elem .bool)), .val false .int], [], false⟩

def msum_sel : SV → Option OutSh := fun _ => some msum_o0

def msum_T (ok1 : msum_s1X → Bool) (g1_r : msum_s1X → msum_e1_rX) (c1_r : msum_s1X → Bool) (g1_1 : msum_s1X → msum_e1_1X) (a0 : Int) (a1 : List ((Elem × (Elem × (Elem × Bool))))) : OT msum_S.Y :=
  let z0 : Int := (↑(List.length a1) : Int)
  let z1 : Elem := { w0 := (0 : UInt64), w1 := (0 : UInt64), w2 := (0 : UInt64), w3 := (0 : UInt64) }
  let z2 : Elem × Elem × Bool := (z1, z1, false)
  let z3 : (PUnit × PUnit × List (Elem × Elem × Elem × Bool) × Int × Int × PUnit) × (UInt64 × UInt64 × UInt64 × UInt64 × UInt64 × UInt64 × UInt64 × UInt64 × Bool × PUnit) × (Int × PUnit × PUnit) × List (Elem × Elem × Elem × Bool) × PUnit := (((), (), a1, z0, (0 : Int), ()), ((0 : UInt64), (0 : UInt64), (0 : UInt64), (0 : UInt64), (0 : UInt64), (0 : UInt64), (0 : UInt64), (0 : UInt64), false, ()), (a0, (), ()), [], ())
  let z4 : (PUnit × Int × PUnit) × (UInt64 × UInt64 × UInt64 × UInt64 × UInt64 × UInt64 × UInt64 × UInt64 × Bool × PUnit) × PUnit := g1_r z3
  let z5 : UInt64 × UInt64 × UInt64 × UInt64 × UInt64 × UInt64 × UInt64 × UInt64 × Bool × PUnit := z4.snd.fst
  let z6 : UInt64 × UInt64 × UInt64 × UInt64 × UInt64 × UInt64 × UInt64 × Bool × PUnit := z5.snd
  let z7 : UInt64 × UInt64 × UInt64 × UInt64 × UInt64 × UInt64 × Bool × PUnit := z6.snd
  let z8 : UInt64 × UInt64 × UInt64 × UInt64 × UInt64 × Bool × PUnit := z7.snd
  let z9 : UInt64 × UInt64 × UInt64 × UInt64 × Bool × PUnit := z8.snd
  let z10 : UInt64 × UInt64 × UInt64 × Bool × PUnit := z9.snd
  let z11 : UInt64 × UInt64 × Bool × PUnit := z10.snd
  let z12 : UInt64 × Bool × PUnit := z11.snd
  let z13 : (Int × PUnit × PUnit) × List (Elem × Elem × Elem × Bool) × PUnit := (g1_1 z3).snd.snd
  let z14 : Int := z13.fst.fst
  let z15 : List (Elem × Elem × Elem × Bool) := z13.snd.fst
  (.br (sortOk a0)
  (.br (decide ((100000 : Int) < z0))
    (.ok ⟨msum_o0, ((z2, ((50 : Int), ())), ())⟩)
    (gd [ok1 z3] (.br (c1_r z3)
      (.ok ⟨msum_o0, ((({ w0 := z5.fst, w1 := z6.fst, w2 := z7.fst, w3 := z8.fst }, { w0 := z9.fst, w1 := z10.fst, w2 := z11.fst, w3 := z12.fst }, z12.snd.fst), (z4.fst.snd.fst, ())), ())⟩)
      (gd [mvalue_pre (((), ()), (z14, (), ()), z15, ())] (.ok ⟨msum_o0, ((sumP z14 z15, ((0 : Int), ())), ())⟩)))))
  (.ok ⟨msum_o0, ((z2, ((40 : Int), ())), ())⟩))

theorem msum_q (ok1 : msum_s1X → Bool) (g1_r : msum_s1X → msum_e1_rX) (c1_r : msum_s1X → Bool) (g1_1 : msum_s1X → msum_e1_1X) (x : msumX) (Q : msum_S.Y → Prop) : wpf te E_mvalue (lamCons 1 (loopF msum_s1 1 ok1 (msum_f1 g1_r c1_r g1_1)) lamNil) 1000 Try.f18 (msum_S.inp.inj x).tm (msum_S.inp.inj x).hp (fnK msum_S msum_sel Q) (fun _ _ => False) = (msum_T ok1 g1_r c1_r g1_1 (x.1.1) (x.1.2.1)).wpR Q := by kernel_rfl

theorem msum_main (ok1 : msum_s1X → Bool) (g1_r : msum_s1X → msum_e1_rX) (c1_r : msum_s1X → Bool) (g1_1 : msum_s1X → msum_e1_1X) (h1 : ∀ s : msum_s1X, ok1 s = true → ∃ m e, loopRun (msum_U1) m s = some e ∧ (msum_f1 g1_r c1_r g1_1 s).run = some e) (pre : msumX → Bool) (F : msumX → OT msum_S.Y) (hF : ∀ (x : msumX) oy, pre x = true → (F x).run = some oy → (msum_T ok1 g1_r c1_r g1_1 (x.1.1) (x.1.2.1)).run = some oy) : SummOk Try.prog 18 (msum_S.summ pre F) :=
  fn_tree te_ok E_mvalue_ok E_mvalue_any (f := 18) (fn := Try.f18) (c := codeOf Try.f18) (by kernel_rfl) (by kernel_rfl) (by kernel_rfl) (S := msum_S) (k := 0) (by kernel_rfl) (fun R hR => (lamOk_cons (c := (codeOf Try.f18)) (by kernel_rfl) (id := 1) (by kernel_rfl) (loop_ok te_ok E_mvalue_ok E_mvalue_any (sh := msum_s1) hR (xs := msum_x1) (xsMk_small (by kernel_rfl) (by kernel_rfl) hR) xsMk_pan lamOk_nil (n := 1000) (T := msum_U1) (fun s Q => msum_q1 s Q) (ok := ok1) (f := msum_f1 g1_r c1_r g1_1) h1) lamOk_nil)) (n := 1000) (sel := msum_sel) (fun v o h => by cases h; rfl) (pre := pre) (F := F) (T := fun x => msum_T ok1 g1_r c1_r g1_1 (x.1.1) (x.1.2.1)) (fun x Q => msum_q ok1 g1_r c1_r g1_1 x Q) hF

/-- The terms as they are kept. -/
def redT (c : Int) (l : List Tm) : List Tm := l.map fun t => (scalP c t.1, t.2)
def allOn (c : Int) (l : List Tm) : Bool := l.all fun t => onB c t.2
def msum_ok1 (s : msum_s1X) : Bool := decide (s.1.2.2.2.1 = (s.1.2.2.1.length : Int) ∧ s.1.2.2.2.2.1 = 0 ∧ s.2.2.2.1 = [] ∧ s.1.2.2.1.length ≤ 100000)
def msum_g1r (_ : msum_s1X) : msum_e1_rX := (((), (41 : Int), ()), (flatP noPt, ()))
def msum_c1 (s : msum_s1X) : Bool := !allOn s.2.2.1.1 s.1.2.2.1
def msum_g1 (s : msum_s1X) : msum_e1_1X := (((), (), ()), (s.2.1, (s.2.2.1.1, (), ()), redT s.2.2.1.1 s.1.2.2.1, ()))
def sum_st (c : Int) (l : List Tm) (c0 : C9) (k : Int) (o : List Tm) : msum_s1X := (((), (), l, (l.length : Int), k, ()), (c0, (c, (), ()), o, ()))
theorem sum_loop (c : Int) (l : List Tm) (c0 : C9) (hl : l.length ≤ 100000) : ∀ d k : Nat, k + d = l.length →
    ∃ m, loopRun msum_U1 m (sum_st c l c0 (k : Int) (redT c (l.take k))) = some (cond (allOn c (l.drop k)) ⟨(.exit 1, msum_e1_1), (((), (), ()), (c0, (c, (), ()), redT c l, ()))⟩ ⟨(.ret, msum_e1_r), (((), (41 : Int), ()), (flatP noPt, ()))⟩)
  | 0, k, h => by
    rw [List.drop_eq_nil_of_le (by omega), List.take_of_length_le (by omega)]
    exact ⟨1, loopRun_out (OT.run_f (decide_eq_false (by dsimp only [sum_st]; omega)))⟩
  | d + 1, k, h => by
    have hk : k < l.length := by omega
    have e1 : l.drop k = l[k] :: l.drop (k + 1) := List.drop_eq_getElem_cons hk
    have e2 : l.take (k + 1) = l.take k ++ [l[k]] := (List.take_append_getElem hk).symm
    have e3 : l.getD k noTm0 = l[k] := by rw [List.getD_eq_getElem?_getD, List.getElem?_eq_getElem hk]; rfl
    have hgd : ∀ z : OT (Sum msum_s1X LEnd), (gd [inB (k : Int) l.length] z).run = z.run := fun z => gd_run (by rw [inB_of (by omega)]; rfl)
    have ea : allOn c (l.drop k) = (onB c l[k].2 && allOn c (l.drop (k + 1))) := by rw [e1]; rfl
    rw [ea]
    have hr : roomT (redT c (l.take k)) = true := decide_eq_true (by rw [redT, List.length_map, List.length_take]; omega)
    have first : ∀ e : LEnd ⊕ Unit, (msum_U1 (sum_st c l c0 (k : Int) (redT c (l.take k)))).run = (OT.br (onB c (l.getD k noTm0).2) (.br (roomT (redT c (l.take k))) (gd [inR ((k : Int) + 1)] (.ok (.inl (sum_st c l c0 ((k : Int) + 1) (redT c (l.take k) ++ [(scalP c (l.getD k noTm0).1, (l.getD k noTm0).2)])))))
        (.ok (.inr ⟨(.ret, msum_e1_r), (((), (50 : Int), ()), (flatP noPt, ()))⟩))) (.ok (.inr ⟨(.ret, msum_e1_r), (((), (41 : Int), ()), (flatP noPt, ()))⟩)) : OT (Sum msum_s1X LEnd)).run := fun _ =>
      (OT.run_t (decide_eq_true (by dsimp only [sum_st]; omega))).trans ((hgd _).trans rfl)
    have first := first (.inr ())
    rw [e3] at first
    rcases (Bool.eq_false_or_eq_true (onB c l[k].2)).symm with hb | hb
    · rw [hb]
      exact ⟨1, loopRun_out (first.trans (OT.run_f hb))⟩
    · rw [hb]
      obtain ⟨m, hm⟩ := sum_loop c l c0 hl d (k + 1) (by omega)
      refine ⟨m + 1, loopRun_more ?_ hm⟩
      refine first.trans ((OT.run_t hb).trans ((OT.run_t hr).trans ((gd_run ?_).trans ?_)))
      · simp only [List.all_cons, List.all_nil, Bool.and_true]
        exact inR_of (by omega)
      · rw [e2]
        simp only [redT, List.map_append, List.map_cons, List.map_nil]
        rfl
theorem msum_h1 : ∀ s : msum_s1X, msum_ok1 s = true → ∃ m e, loopRun msum_U1 m s = some e ∧ (msum_f1 msum_g1r msum_c1 msum_g1 s).run = some e := by
  rintro ⟨⟨⟨⟩, ⟨⟩, l, n, k, ⟨⟩⟩, ⟨c0, ⟨c, ⟨⟩, ⟨⟩⟩, o, ⟨⟩⟩⟩ h
  have h' := of_decide_eq_true h
  dsimp only at h'
  obtain ⟨rfl, rfl, rfl, hl⟩ := h'
  obtain ⟨m, hm⟩ := sum_loop c l c0 hl l.length 0 (by omega)
  refine ⟨m, _, hm, ?_⟩
  show (OT.br (!allOn c l) _ _ : OT LEnd).run = some (cond (allOn c l) _ _)
  cases allOn c l <;> rfl
def msum_pre (_ : msumX) : Bool := true
def msum_F (x : msumX) : OT msum_S.Y := .br (sortOk x.1.1) (.br (decide (x.1.2.1.length ≤ 100000)) (.br (allOn x.1.1 x.1.2.1) (.ok ⟨msum_o0, ((sumP x.1.1 (redT x.1.1 x.1.2.1), ((0 : Int), ())), ())⟩)
  (.ok ⟨msum_o0, ((noPt, ((41 : Int), ())), ())⟩)) (.ok ⟨msum_o0, ((noPt, ((50 : Int), ())), ())⟩)) (.ok ⟨msum_o0, ((noPt, ((40 : Int), ())), ())⟩)
theorem msum_ok : SummOk Try.prog 18 (msum_S.summ msum_pre msum_F) := msum_main msum_ok1 msum_g1r msum_c1 msum_g1 msum_h1 _ _ fun x oy hp ho => by
  rw [← ho]
  clear ho
  obtain ⟨⟨c, l, ⟨⟩⟩, ⟨⟩⟩ := x
  show (msum_T msum_ok1 msum_g1r msum_c1 msum_g1 c l).run = (OT.br (sortOk c) (.br (decide (l.length ≤ 100000)) (.br (allOn c l) (.ok ⟨msum_o0, ((sumP c (redT c l), ((0 : Int), ())), ())⟩)
    (.ok ⟨msum_o0, ((noPt, ((41 : Int), ())), ())⟩)) (.ok ⟨msum_o0, ((noPt, ((50 : Int), ())), ())⟩)) (.ok ⟨msum_o0, ((noPt, ((40 : Int), ())), ())⟩) : OT msum_S.Y).run
  rcases (Bool.eq_false_or_eq_true (sortOk c)).symm with hs | hs
  · exact (OT.run_f hs).trans (OT.run_f (b := sortOk c) hs).symm
  · refine (OT.run_t hs).trans (Eq.trans ?_ (OT.run_t (b := sortOk c) hs).symm)
    by_cases hl : l.length ≤ 100000
    · refine (OT.run_f (decide_eq_false (by omega))).trans (Eq.trans ?_ (OT.run_t (b := decide (l.length ≤ 100000)) (decide_eq_true hl)).symm)
      refine (gd_run ?_).trans ?_
      · simp only [List.all_cons, List.all_nil, Bool.and_true]
        exact decide_eq_true ⟨rfl, rfl, rfl, hl⟩
      · rcases (Bool.eq_false_or_eq_true (allOn c l)).symm with ha | ha
        · exact (OT.run_t (b := !allOn c l) (by rw [ha]; rfl)).trans (OT.run_f (b := allOn c l) ha).symm
        · refine (OT.run_f (b := !allOn c l) (by rw [ha]; rfl)).trans (Eq.trans ?_ (OT.run_t (b := allOn c l) ha).symm)
          refine (gd_run ?_).trans rfl
          simp only [List.all_cons, List.all_nil, Bool.and_true]
          refine decide_eq_true ?_
          show (redT c l).length ≤ _
          rw [redT, List.length_map]
          omega
    · exact (OT.run_t (decide_eq_true (by omega))).trans (OT.run_f (b := decide (l.length ≤ 100000)) (decide_eq_false hl)).symm

def msum_summ : Summ := (msum_S.summ msum_pre msum_F)
theorem msum_known : SummOk Try.prog 18 msum_summ := msum_ok
theorem msum_smono : MonoOk msum_summ := fn_mono

def E_msum : Env := envCons 18 msum_summ E_mvalue
theorem E_msum_ok : EnvOk Try.prog E_msum := envOk_cons msum_known E_mvalue_ok
theorem E_msum_mono : EnvMono E_msum := envMono_cons msum_smono E_mvalue_mono
theorem E_msum_any : AnyOk Try.prog te E_msum := any_ok follows te_ok E_msum_ok E_msum_mono

end Go.Proofs.Ytkedomfjjahjnaa

/- The function sigil/sigillaw05.sameTerms: what it makes of its arguments. No statement of a seat is proved here. -/
namespace Go.Proofs.Ytkedomfjjahjnaa
open Sx Go
set_option maxRecDepth 100000

def msamet_S : FnSpec := ⟨[.val false (.list termT), .val false (.list termT)], [], true, 0, false⟩

abbrev msametX : Type := ((List ((Elem × (Elem × (Elem × Bool))))) × (List ((Elem × (Elem × (Elem × Bool))))) × Unit) × (Unit)

def msamet_s0 : Shape := ⟨26, [(0, .val false (.list (.prod .elem (.prod .elem (.prod .elem .bool))))), (1, .val false (.list (.prod .elem (.prod .elem (.prod .elem .bool))))), (5, .val false .int)], [], 0, true⟩

abbrev msamet_s0X : Type := ((List ((Elem × (Elem × (Elem × Bool))))) × (List ((Elem × (Elem × (Elem × Bool))))) × (Int) × Unit) × (Unit)

def msamet_e0_r : Shape := ⟨26, [(4, .val false .bool)], [], 0, true⟩

abbrev msamet_e0_rX : Type := ((Bool) × Unit) × (Unit)

def msamet_e0_0 : Shape := ⟨26, [], [], 0, true⟩

abbrev msamet_e0_0X : Type := (Unit) × (Unit)

def msamet_x0 : SE → Option Shape := xsMk [(0, msamet_e0_0)] (some msamet_e0_r)

def msamet_T0 (a0 : List ((Elem × (Elem × (Elem × Bool))))) (a1 : List ((Elem × (Elem × (Elem × Bool))))) (a5 : Int) : OT (Sum msamet_s0X LEnd) :=
  let z0 : Nat := List.length a0
  let z1 : Nat := Int.toNat a5
  let z2 : Elem := { w0 := (0 : UInt64), w1 := (0 : UInt64), w2 := (0 : UInt64), w3 := (0 : UInt64) }
  let z3 : Elem × Elem × Elem × Bool := (z2, z2, z2, false)
  let z4 : Elem × Elem × Elem × Bool := List.getD a0 z1 z3
  let z5 : Elem := z4.fst
  let z6 : Elem × Elem × Elem × Bool := List.getD a1 z1 z3
  let z7 : Elem := z6.fst
  let z8 : Elem × Elem × Bool := z4.snd
  let z9 : Elem := z8.fst
  let z10 : Elem × Elem × Bool := z6.snd
  let z11 : Elem := z10.fst
  let z12 : Elem × Bool := z8.snd
  let z13 : Elem := z12.fst
  let z14 : Elem × Bool := z10.snd
  let z15 : Elem := z14.fst
  (.br (decide (a5 < (↑z0 : Int)))
  (gd [inB a5 z0, inB a5 (List.length a1)] (.br (!(z5.w0 == z7.w0 && (z5.w1 == z7.w1 && (z5.w2 == z7.w2 && (z5.w3 == z7.w3 && true))) && (z9.w0 == z11.w0 && (z9.w1 == z11.w1 && (z9.w2 == z11.w2 && (z9.w3 == z11.w3 && true))) && (z13.w0 == z15.w0 && (z13.w1 == z15.w1 && (z13.w2 == z15.w2 && (z13.w3 == z15.w3 && true))) && (z12.snd == z14.snd && true)) && true)))
    (.ok (.inr ⟨(.ret, msamet_e0_r), ((false, ()), ())⟩))
    (gd [inR (a5 + (1 : Int))] (.ok (.inl ((a0, (a1, (a5 + (1 : Int), ()))), ()))))))
  (.ok (.inr ⟨(.exit 0, msamet_e0_0), ((), ())⟩)))

def msamet_U0 (s : msamet_s0X) : OT (Sum msamet_s0X LEnd) := msamet_T0 (s.1.1) (s.1.2.1) (s.1.2.2.1)

theorem msamet_q0 (s : msamet_s0X) (Q : Sum msamet_s0X LEnd → Prop) : wps te E_msum lamNil 1000 (loopOf (codeOf Try.f31) 0) (msamet_s0.inj s) (stepK msamet_s0 msamet_x0 (Q : Sum msamet_s0.T LEnd → Prop)) = (msamet_U0 s).wpR Q := by kernel_rfl

def msamet_f0 (g0_r : msamet_s0X → msamet_e0_rX) (c0_r : msamet_s0X → Bool) (g0_0 : msamet_s0X → msamet_e0_0X) (s : msamet_s0X) : OT LEnd := (.br (c0_r s) (.ok ⟨(.ret, msamet_e0_r), g0_r s⟩) (.ok ⟨(.exit 0, msamet_e0_0), g0_0 s⟩))

def msamet_o0 : OutSh := ⟨[.val false .bool], [], false⟩

def msamet_sel : SV → Option OutSh := fun _ => some msamet_o0

def msamet_T (ok0 : msamet_s0X → Bool) (g0_r : msamet_s0X → msamet_e0_rX) (c0_r : msamet_s0X → Bool) (g0_0 : msamet_s0X → msamet_e0_0X) (a0 : List ((Elem × (Elem × (Elem × Bool))))) (a1 : List ((Elem × (Elem × (Elem × Bool))))) : OT msamet_S.Y :=
  let z0 : (List (Elem × Elem × Elem × Bool) × List (Elem × Elem × Elem × Bool) × Int × PUnit) × PUnit := ((a0, a1, (0 : Int), ()), ())
  (.br (!(↑(List.length a0) : Int) == (↑(List.length a1) : Int))
  (.ok ⟨msamet_o0, ((false, ()), ())⟩)
  (gd [ok0 z0] (.br (c0_r z0)
    (.ok ⟨msamet_o0, (((g0_r z0).fst.fst, ()), ())⟩)
    (.ok ⟨msamet_o0, ((true, ()), ())⟩))))

theorem msamet_q (ok0 : msamet_s0X → Bool) (g0_r : msamet_s0X → msamet_e0_rX) (c0_r : msamet_s0X → Bool) (g0_0 : msamet_s0X → msamet_e0_0X) (x : msametX) (Q : msamet_S.Y → Prop) : wpf te E_msum (lamCons 0 (loopF msamet_s0 0 ok0 (msamet_f0 g0_r c0_r g0_0)) lamNil) 1000 Try.f31 (msamet_S.inp.inj x).tm (msamet_S.inp.inj x).hp (fnK msamet_S msamet_sel Q) (fun _ _ => False) = (msamet_T ok0 g0_r c0_r g0_0 (x.1.1) (x.1.2.1)).wpR Q := by kernel_rfl

theorem msamet_main (ok0 : msamet_s0X → Bool) (g0_r : msamet_s0X → msamet_e0_rX) (c0_r : msamet_s0X → Bool) (g0_0 : msamet_s0X → msamet_e0_0X) (h0 : ∀ s : msamet_s0X, ok0 s = true → ∃ m e, loopRun (msamet_U0) m s = some e ∧ (msamet_f0 g0_r c0_r g0_0 s).run = some e) (pre : msametX → Bool) (F : msametX → OT msamet_S.Y) (hF : ∀ (x : msametX) oy, pre x = true → (F x).run = some oy → (msamet_T ok0 g0_r c0_r g0_0 (x.1.1) (x.1.2.1)).run = some oy) : SummOk Try.prog 31 (msamet_S.summ pre F) :=
  fn_tree te_ok E_msum_ok E_msum_any (f := 31) (fn := Try.f31) (c := codeOf Try.f31) (by kernel_rfl) (by kernel_rfl) (by kernel_rfl) (S := msamet_S) (k := 0) (by kernel_rfl) (fun R hR => (lamOk_cons (c := (codeOf Try.f31)) (by kernel_rfl) (id := 0) (by kernel_rfl) (loop_ok te_ok E_msum_ok E_msum_any (sh := msamet_s0) hR (xs := msamet_x0) (xsMk_small (by kernel_rfl) (by kernel_rfl) hR) xsMk_pan lamOk_nil (n := 1000) (T := msamet_U0) (fun s Q => msamet_q0 s Q) (ok := ok0) (f := msamet_f0 g0_r c0_r g0_0) h0) lamOk_nil)) (n := 1000) (sel := msamet_sel) (fun v o h => by cases h; rfl) (pre := pre) (F := F) (T := fun x => msamet_T ok0 g0_r c0_r g0_0 (x.1.1) (x.1.2.1)) (fun x Q => msamet_q ok0 g0_r c0_r g0_0 x Q) hF

def eqTm (a b : Tm) : Bool := (a.1.w0 == b.1.w0 && (a.1.w1 == b.1.w1 && (a.1.w2 == b.1.w2 && (a.1.w3 == b.1.w3 && true))) && (a.2.1.w0 == b.2.1.w0 && (a.2.1.w1 == b.2.1.w1 && (a.2.1.w2 == b.2.1.w2 && (a.2.1.w3 == b.2.1.w3 && true))) && (a.2.2.1.w0 == b.2.2.1.w0 && (a.2.2.1.w1 == b.2.2.1.w1 && (a.2.2.1.w2 == b.2.2.1.w2 && (a.2.2.1.w3 == b.2.2.1.w3 && true))) && (a.2.2.2 == b.2.2.2 && true)) && true))
theorem eqTm_iff {a b : Tm} : eqTm a b = true ↔ a = b := by
  obtain ⟨⟨a0, a1, a2, a3⟩, ⟨a4, a5, a6, a7⟩, ⟨a8, a9, a10, a11⟩, a12⟩ := a
  obtain ⟨⟨b0, b1, b2, b3⟩, ⟨b4, b5, b6, b7⟩, ⟨b8, b9, b10, b11⟩, b12⟩ := b
  simp only [eqTm, Bool.and_eq_true, beq_iff_eq, and_true, Prod.mk.injEq, Elem.mk.injEq]
def msamet_ok0 (s : msamet_s0X) : Bool := decide (s.1.2.2.1 = 0 ∧ s.1.1.length = s.1.2.1.length ∧ s.1.1.length ≤ 140737488355328)
def msamet_g0r (_ : msamet_s0X) : msamet_e0_rX := ((false, ()), ())
def msamet_c0 (s : msamet_s0X) : Bool := !decide (s.1.1 = s.1.2.1)
def msamet_g0 (_ : msamet_s0X) : msamet_e0_0X := ((), ())

theorem msamet_loop {a b : List Tm} (hab : a.length = b.length) (hl : a.length ≤ 140737488355328) : ∀ d i, i + d = a.length →
    ∃ m, loopRun msamet_U0 m ((a, b, (i : Int), ()), ()) = some (cond (decide (a.drop i = b.drop i)) ⟨(.exit 0, msamet_e0_0), ((), ())⟩ ⟨(.ret, msamet_e0_r), ((false, ()), ())⟩)
  | 0, i, h => by
    refine ⟨1, ?_⟩
    have h1 : a.drop i = [] := List.drop_eq_nil_of_le (by omega)
    have h2 : b.drop i = [] := List.drop_eq_nil_of_le (by omega)
    rw [h1, h2, decide_eq_true rfl]
    exact loopRun_out (OT.run_f (decide_eq_false (by dsimp only; omega)))
  | d + 1, i, h => by
    have hi : i < a.length := by omega
    have hi' : i < b.length := by omega
    have e1 : a.drop i = a[i] :: a.drop (i + 1) := List.drop_eq_getElem_cons hi
    have e2 : b.drop i = b[i] :: b.drop (i + 1) := List.drop_eq_getElem_cons hi'
    have g1 : a.getD i noTm0 = a[i] := by rw [List.getD_eq_getElem?_getD, List.getElem?_eq_getElem hi]; rfl
    have g2 : b.getD i noTm0 = b[i] := by rw [List.getD_eq_getElem?_getD, List.getElem?_eq_getElem hi']; rfl
    have hg : ∀ x : OT (Sum msamet_s0X LEnd), (gd [inB (i : Int) a.length, inB (i : Int) b.length] x).run = x.run := fun x => gd_run (by simp only [List.all_cons, List.all_nil, Bool.and_true, Bool.and_eq_true]; exact ⟨inB_of (by omega), inB_of (by omega)⟩)
    by_cases hx : a[i] = b[i]
    · obtain ⟨m, hm⟩ := msamet_loop hab hl d (i + 1) (by omega)
      refine ⟨m + 1, loopRun_more (s' := ((a, b, ((i + 1 : Nat) : Int), ()), ())) ?_ ?_⟩
      · refine (OT.run_t (decide_eq_true (by dsimp only; omega))).trans ((hg _).trans ((OT.run_f ?_).trans ((gd_run ?_).trans rfl)))
        · show (!eqTm (a.getD i noTm0) (b.getD i noTm0)) = false
          rw [g1, g2, hx, eqTm_iff.2 rfl]
          rfl
        · simp only [List.all_cons, List.all_nil, Bool.and_true]
          exact inR_of (by omega)
      · rw [hm, e1, e2, hx]
        simp only [List.cons.injEq, true_and]
    · refine ⟨1, ?_⟩
      have : decide (a.drop i = b.drop i) = false := decide_eq_false (by rw [e1, e2]; intro h; exact hx (List.cons.inj h).1)
      rw [this]
      refine loopRun_out ((OT.run_t (decide_eq_true (by dsimp only; omega))).trans ((hg _).trans ((OT.run_t ?_).trans rfl)))
      show (!eqTm (a.getD i noTm0) (b.getD i noTm0)) = true
      rw [g1, g2]
      cases hq : eqTm a[i] b[i]
      · rfl
      · exact absurd (eqTm_iff.1 hq) hx

theorem msamet_h0 : ∀ s : msamet_s0X, msamet_ok0 s = true → ∃ m e, loopRun msamet_U0 m s = some e ∧ (msamet_f0 msamet_g0r msamet_c0 msamet_g0 s).run = some e := by
  rintro ⟨⟨a, b, i, ⟨⟩⟩, ⟨⟩⟩ h
  have h' := of_decide_eq_true h
  dsimp only at h'
  obtain ⟨rfl, hab, hl⟩ := h'
  obtain ⟨m, hm⟩ := msamet_loop hab hl a.length 0 (by omega)
  refine ⟨m, _, hm, ?_⟩
  simp only [List.drop_zero]
  by_cases hx : a = b
  · simp only [msamet_f0, msamet_c0, hx, decide_true, Bool.not_true]
    rfl
  · have : decide (a = b) = false := decide_eq_false hx
    simp only [msamet_f0, msamet_c0, this, Bool.not_false]
    rfl

def msamet_pre (x : msametX) : Bool := decide (x.1.1.length ≤ 140737488355328)
def msamet_F (x : msametX) : OT msamet_S.Y := .ok ⟨msamet_o0, ((decide (x.1.1 = x.1.2.1), ()), ())⟩
theorem msamet_ok : SummOk Try.prog 31 (msamet_S.summ msamet_pre msamet_F) := msamet_main msamet_ok0 msamet_g0r msamet_c0 msamet_g0 msamet_h0 _ _ fun x oy hp ho => by
  rw [← ho]
  clear ho
  obtain ⟨⟨a, b, ⟨⟩⟩, ⟨⟩⟩ := x
  have hp' : a.length ≤ 140737488355328 := of_decide_eq_true hp
  by_cases hab : a.length = b.length
  · refine (OT.run_f (by simp [hab])).trans ((gd_run ?_).trans ?_)
    · simp only [List.all_cons, List.all_nil, Bool.and_true]
      exact decide_eq_true ⟨rfl, hab, hp'⟩
    · by_cases hx : a = b
      · refine (OT.run_f (by simp [msamet_c0, hx])).trans ?_
        simp only [msamet_F, hx, decide_true]
      · refine (OT.run_t (by simp [msamet_c0, hx])).trans ?_
        have : decide (a = b) = false := decide_eq_false hx
        simp only [msamet_F, this]
        rfl
  · refine (OT.run_t (by simp; omega)).trans ?_
    have : decide (a = b) = false := decide_eq_false fun e => hab (by rw [e])
    simp only [msamet_F, this]

def msamet_summ : Summ := (msamet_S.summ msamet_pre msamet_F)
theorem msamet_known : SummOk Try.prog 31 msamet_summ := msamet_ok
theorem msamet_smono : MonoOk msamet_summ := fn_mono

def E_msamet : Env := envCons 31 msamet_summ E_msum
theorem E_msamet_ok : EnvOk Try.prog E_msamet := envOk_cons msamet_known E_msum_ok
theorem E_msamet_mono : EnvMono E_msamet := envMono_cons msamet_smono E_msum_mono
theorem E_msamet_any : AnyOk Try.prog te E_msamet := any_ok follows te_ok E_msamet_ok E_msamet_mono

end Go.Proofs.Ytkedomfjjahjnaa

/- The function sigil/sigillaw05.alive: what it makes of its arguments. No statement of a seat is proved here. -/
namespace Go.Proofs.Ytkedomfjjahjnaa
open Sx Go
set_option maxRecDepth 100000

def c5alive_S : FnSpec := ⟨[], [], true, 0, false⟩

abbrev c5aliveX : Type := (Unit) × (Unit)

def c5alive_o0 : OutSh := ⟨[.val false .bool], [], false⟩

def c5alive_sel : SV → Option OutSh := fun _ => some c5alive_o0

def c5alive_T : OT c5alive_S.Y :=
  (.ok ⟨c5alive_o0, ((true, ()), ())⟩)

theorem c5alive_q (x : c5aliveX) (Q : c5alive_S.Y → Prop) : wpf te E_msamet lamNil 1000 Try.f17 (c5alive_S.inp.inj x).tm (c5alive_S.inp.inj x).hp (fnK c5alive_S c5alive_sel Q) (fun _ _ => False) = (c5alive_T).wpR Q := by kernel_rfl

theorem c5alive_main (pre : c5aliveX → Bool) (F : c5aliveX → OT c5alive_S.Y) (hF : ∀ (x : c5aliveX) oy, pre x = true → (F x).run = some oy → (c5alive_T).run = some oy) : SummOk Try.prog 17 (c5alive_S.summ pre F) :=
  fn_tree te_ok E_msamet_ok E_msamet_any (f := 17) (fn := Try.f17) (c := codeOf Try.f17) (by kernel_rfl) (by kernel_rfl) (by kernel_rfl) (S := c5alive_S) (k := 0) (by kernel_rfl) (fun R hR => lamOk_nil) (n := 1000) (sel := c5alive_sel) (fun v o h => by cases h; rfl) (pre := pre) (F := F) (T := fun x => c5alive_T) (fun x Q => c5alive_q x Q) hF

def c5alive_pre (_ : c5aliveX) : Bool := true
def c5alive_F (_ : c5aliveX) : OT c5alive_S.Y := .ok ⟨c5alive_o0, ((true, ()), ())⟩
theorem c5alive_ok : SummOk Try.prog 17 (c5alive_S.summ c5alive_pre c5alive_F) := c5alive_main _ _ fun x oy hp ho => by
  rw [← ho]
  clear ho
  show c5alive_T.run = some ⟨c5alive_o0, ((true, ()), ())⟩
  kernel_rfl

def c5alive_summ : Summ := (c5alive_S.summ c5alive_pre c5alive_F)
theorem c5alive_known : SummOk Try.prog 17 c5alive_summ := c5alive_ok
theorem c5alive_smono : MonoOk c5alive_summ := fn_mono

def E_c5alive : Env := envCons 17 c5alive_summ E_msamet
theorem E_c5alive_ok : EnvOk Try.prog E_c5alive := envOk_cons c5alive_known E_msamet_ok
theorem E_c5alive_mono : EnvMono E_c5alive := envMono_cons c5alive_smono E_msamet_mono
theorem E_c5alive_any : AnyOk Try.prog te E_c5alive := any_ok follows te_ok E_c5alive_ok E_c5alive_mono

end Go.Proofs.Ytkedomfjjahjnaa

/- The function sigil/sigillaw05.MsmMemory: what it makes of its arguments. No statement of a seat is proved here. -/
namespace Go.Proofs.Ytkedomfjjahjnaa
open Sx Go
set_option maxRecDepth 100000

def lmem_S : FnSpec := ⟨[.val false .int, .val false (.list termT)], [], true, 0, false⟩

abbrev lmemX : Type := ((Int) × (List ((Elem × (Elem × (Elem × Bool))))) × Unit) × (Unit)

def lmem_s0 : Shape := ⟨80, [(1, .val false (.list (.prod .elem (.prod .elem (.prod .elem .bool))))), (5, .ptr 0 0 0), (7, .val false .int)], [(0, .cells [.val false .int, .own 1]), (1, .row (.prod .elem (.prod .elem (.prod .elem .bool))))], 0, true⟩

abbrev lmem_s0X : Type := ((List ((Elem × (Elem × (Elem × Bool))))) × (Unit) × (Int) × Unit) × (((Int) × (Unit) × Unit) × (List ((Elem × (Elem × (Elem × Bool))))) × Unit)

def lmem_e0_0 : Shape := ⟨80, [(5, .ptr 0 0 0)], [(0, .cells [.val false .int, .own 1]), (1, .row (.prod .elem (.prod .elem (.prod .elem .bool))))], 0, true⟩

abbrev lmem_e0_0X : Type := ((Unit) × Unit) × (((Int) × (Unit) × Unit) × (List ((Elem × (Elem × (Elem × Bool))))) × Unit)

def lmem_x0 : SE → Option Shape := xsMk [(0, lmem_e0_0)] none

def lmem_T0 (a1 : List ((Elem × (Elem × (Elem × Bool))))) (a7 : Int) (c0_0 : Int) (c1 : List ((Elem × (Elem × (Elem × Bool))))) : OT (Sum lmem_s0X LEnd) :=
  let z0 : Nat := List.length a1
  let z1 : Bool := inB a7 z0
  let z2 : Elem := { w0 := (0 : UInt64), w1 := (0 : UInt64), w2 := (0 : UInt64), w3 := (0 : UInt64) }
  let z3 : Elem × Elem × Elem × Bool := List.getD a1 (Int.toNat a7) (z2, z2, z2, false)
  let z4 : Elem × Elem × Bool := z3.snd
  let z5 : Bool := inR (a7 + (1 : Int))
  (.br (decide (a7 < (↑z0 : Int)))
  (gd [z1, z1] (.br (onB c0_0 z4)
    (.br (roomT c1)
      (gd [z5] (.ok (.inl ((a1, ((), (a7 + (1 : Int), ()))), ((c0_0, ((), ())), (c1 ++ [(scalP c0_0 z3.fst, z4)], ()))))))
      (gd [z5] (.ok (.inl ((a1, ((), (a7 + (1 : Int), ()))), ((c0_0, ((), ())), (c1, ())))))))
    (gd [z5] (.ok (.inl ((a1, ((), (a7 + (1 : Int), ()))), ((c0_0, ((), ())), (c1, ()))))))))
  (.ok (.inr ⟨(.exit 0, lmem_e0_0), (((), ()), ((c0_0, ((), ())), (c1, ())))⟩)))

def lmem_U0 (s : lmem_s0X) : OT (Sum lmem_s0X LEnd) := lmem_T0 (s.1.1) (s.1.2.2.1) (s.2.1.1) (s.2.2.1)

theorem lmem_q0 (s : lmem_s0X) (Q : Sum lmem_s0X LEnd → Prop) : wps te E_c5alive lamNil 1000 (loopOf (codeOf Try.f8) 0) (lmem_s0.inj s) (stepK lmem_s0 lmem_x0 (Q : Sum lmem_s0.T LEnd → Prop)) = (lmem_U0 s).wpR Q := by kernel_rfl

def lmem_f0 (g0_0 : lmem_s0X → lmem_e0_0X) (s : lmem_s0X) : OT LEnd := (.ok ⟨(.exit 0, lmem_e0_0), g0_0 s⟩)

def lmem_s2 : Shape := ⟨80, [(5, .ptr 0 0 0), (8, .own 1), (9, .own 2), (10, .val false .int)], [(0, .cells [.val false .int, .own 3]), (1, .row (.prod .elem (.prod .elem (.prod .elem .bool)))), (2, .row (.prod .elem (.prod .elem (.prod .elem .bool)))), (3, .row (.prod .elem (.prod .elem (.prod .elem .bool))))], 0, true⟩

abbrev lmem_s2X : Type := ((Unit) × (Unit) × (Unit) × (Int) × Unit) × (((Int) × (Unit) × Unit) × (List ((Elem × (Elem × (Elem × Bool))))) × (List ((Elem × (Elem × (Elem × Bool))))) × (List ((Elem × (Elem × (Elem × Bool))))) × Unit)

def lmem_e2_2 : Shape := ⟨80, [(5, .ptr 0 0 0), (8, .own 1), (9, .own 2)], [(0, .cells [.val false .int, .own 3]), (1, .row (.prod .elem (.prod .elem (.prod .elem .bool)))), (2, .row (.prod .elem (.prod .elem (.prod .elem .bool)))), (3, .row (.prod .elem (.prod .elem (.prod .elem .bool))))], 0, true⟩

abbrev lmem_e2_2X : Type := ((Unit) × (Unit) × (Unit) × Unit) × (((Int) × (Unit) × Unit) × (List ((Elem × (Elem × (Elem × Bool))))) × (List ((Elem × (Elem × (Elem × Bool))))) × (List ((Elem × (Elem × (Elem × Bool))))) × Unit)

def lmem_x2 : SE → Option Shape := xsMk [(2, lmem_e2_2)] none

def lmem_T2 (a10 : Int) (c0_0 : Int) (c1 : List ((Elem × (Elem × (Elem × Bool))))) (c2 : List ((Elem × (Elem × (Elem × Bool))))) (c3 : List ((Elem × (Elem × (Elem × Bool))))) : OT (Sum lmem_s2X LEnd) :=
  let z0 : Nat := List.length c1
  let z1 : Nat := Int.toNat a10
  let z2 : Elem := { w0 := (0 : UInt64), w1 := (0 : UInt64), w2 := (0 : UInt64), w3 := (0 : UInt64) }
  (.br (decide (a10 < (↑z0 : Int)))
  (gd [inB a10 z0, decide (z1 < z0), inR (a10 + (1 : Int))] (.ok (.inl (((), ((), ((), (a10 + (1 : Int), ())))), ((c0_0, ((), ())), (List.set c1 z1 ({ w0 := (99 : UInt64), w1 := (0 : UInt64), w2 := (0 : UInt64), w3 := (0 : UInt64) }, (List.getD c1 z1 (z2, z2, z2, false)).snd), (c2, (c3, ()))))))))
  (.ok (.inr ⟨(.exit 2, lmem_e2_2), (((), ((), ((), ()))), ((c0_0, ((), ())), (c1, (c2, (c3, ())))))⟩)))

def lmem_U2 (s : lmem_s2X) : OT (Sum lmem_s2X LEnd) := lmem_T2 (s.1.2.2.2.1) (s.2.1.1) (s.2.2.1) (s.2.2.2.1) (s.2.2.2.2.1)

theorem lmem_q2 (s : lmem_s2X) (Q : Sum lmem_s2X LEnd → Prop) : wps te E_c5alive lamNil 1000 (loopOf (codeOf Try.f8) 2) (lmem_s2.inj s) (stepK lmem_s2 lmem_x2 (Q : Sum lmem_s2.T LEnd → Prop)) = (lmem_U2 s).wpR Q := by kernel_rfl

def lmem_f2 (g2_2 : lmem_s2X → lmem_e2_2X) (s : lmem_s2X) : OT LEnd := (.ok ⟨(.exit 2, lmem_e2_2), g2_2 s⟩)

def lmem_o0 : OutSh := ⟨[.val false .bool], [], false⟩

def lmem_sel : SV → Option OutSh := fun _ => some lmem_o0

def lmem_T (ok0 : lmem_s0X → Bool) (g0_0 : lmem_s0X → lmem_e0_0X) (ok2 : lmem_s2X → Bool) (g2_2 : lmem_s2X → lmem_e2_2X) (a0 : Int) (a1 : List ((Elem × (Elem × (Elem × Bool))))) : OT lmem_S.Y :=
  let z0 : PUnit × PUnit := ((), ())
  let z1 : (List (Elem × Elem × Elem × Bool) × PUnit × Int × PUnit) × (Int × PUnit × PUnit) × List (Elem × Elem × Elem × Bool) × PUnit := ((a1, (), (0 : Int), ()), (a0, z0), [], ())
  let z2 : PUnit × PUnit := ((), ())
  let z3 : (Int × PUnit × PUnit) × List (Elem × Elem × Elem × Bool) × PUnit := (g0_0 z1).snd
  let z4 : Int := z3.fst.fst
  let z5 : List (Elem × Elem × Elem × Bool) := z3.snd.fst
  let z6 : Bool := mterms_pre (z2, (z4, z0), z5, ())
  let z7 : (PUnit × PUnit × PUnit × Int × PUnit) × (Int × PUnit × PUnit) × List (Elem × Elem × Elem × Bool) × List (Elem × Elem × Elem × Bool) × List (Elem × Elem × Elem × Bool) × PUnit := (((), (), (), (0 : Int), ()), (z4, (), ()), z5, z5, z5, ())
  let z8 : (Int × PUnit × PUnit) × List (Elem × Elem × Elem × Bool) × List (Elem × Elem × Elem × Bool) × List (Elem × Elem × Elem × Bool) × PUnit := (g2_2 z7).snd
  let z9 : List (Elem × Elem × Elem × Bool) × List (Elem × Elem × Elem × Bool) × List (Elem × Elem × Elem × Bool) × PUnit := z8.snd
  let z10 : List (Elem × Elem × Elem × Bool) := z9.fst
  let z11 : List (Elem × Elem × Elem × Bool) × List (Elem × Elem × Elem × Bool) × PUnit := z9.snd
  let z12 : List (Elem × Elem × Elem × Bool) := z11.fst
  let z13 : Elem := { w0 := (0 : UInt64), w1 := (0 : UInt64), w2 := (0 : UInt64), w3 := (0 : UInt64) }
  let z14 : List (Elem × Elem × Elem × Bool) := z11.snd.fst
  (.br (decide ((60 : Int) < (↑(List.length a1) : Int)))
  (.ok ⟨lmem_o0, ((true, ()), ())⟩)
  (.br (decide (a0 < (0 : Int)))
    (.ok ⟨lmem_o0, ((true, ()), ())⟩)
    (.br (decide ((3 : Int) < a0))
      (.ok ⟨lmem_o0, ((true, ()), ())⟩)
      (.br (sortOk a0)
        (gd [ok0 z1, z6, z6, ok2 z7, decide ((List.length z10 + (1 : Nat)) * (104 : Nat) ≤ (140737488355328 : Nat)), inR ((↑(List.length z12) : Int) + (1 : Int))] (.br ((↑(List.length (z10 ++ [(z13, z13, z13, false)])) : Int) == (↑(List.length z12) : Int) + (1 : Int))
          (gd [mterms_pre (z2, (z8.fst.fst, z0), z14, ()), msamet_pre ((z12, z14, ()), ())] (.ok ⟨lmem_o0, ((decide (z12 = z14), ()), ())⟩))
          (.ok ⟨lmem_o0, ((false, ()), ())⟩)))
        (.ok ⟨lmem_o0, ((false, ()), ())⟩)))))

theorem lmem_q (ok0 : lmem_s0X → Bool) (g0_0 : lmem_s0X → lmem_e0_0X) (ok2 : lmem_s2X → Bool) (g2_2 : lmem_s2X → lmem_e2_2X) (x : lmemX) (Q : lmem_S.Y → Prop) : wpf te E_c5alive (lamCons 2 (loopF lmem_s2 2 ok2 (lmem_f2 g2_2)) (lamCons 0 (loopF lmem_s0 0 ok0 (lmem_f0 g0_0)) lamNil)) 1000 Try.f8 (lmem_S.inp.inj x).tm (lmem_S.inp.inj x).hp (fnK lmem_S lmem_sel Q) (fun _ _ => False) = (lmem_T ok0 g0_0 ok2 g2_2 (x.1.1) (x.1.2.1)).wpR Q := by kernel_rfl

theorem lmem_main (ok0 : lmem_s0X → Bool) (g0_0 : lmem_s0X → lmem_e0_0X) (ok2 : lmem_s2X → Bool) (g2_2 : lmem_s2X → lmem_e2_2X) (h0 : ∀ s : lmem_s0X, ok0 s = true → ∃ m e, loopRun (lmem_U0) m s = some e ∧ (lmem_f0 g0_0 s).run = some e) (h2 : ∀ s : lmem_s2X, ok2 s = true → ∃ m e, loopRun (lmem_U2) m s = some e ∧ (lmem_f2 g2_2 s).run = some e) (pre : lmemX → Bool) (F : lmemX → OT lmem_S.Y) (hF : ∀ (x : lmemX) oy, pre x = true → (F x).run = some oy → (lmem_T ok0 g0_0 ok2 g2_2 (x.1.1) (x.1.2.1)).run = some oy) : SummOk Try.prog 8 (lmem_S.summ pre F) :=
  fn_tree te_ok E_c5alive_ok E_c5alive_any (f := 8) (fn := Try.f8) (c := codeOf Try.f8) (by kernel_rfl) (by kernel_rfl) (by kernel_rfl) (S := lmem_S) (k := 0) (by kernel_rfl) (fun R hR => (lamOk_cons (c := (codeOf Try.f8)) (by kernel_rfl) (id := 2) (by kernel_rfl) (loop_ok te_ok E_c5alive_ok E_c5alive_any (sh := lmem_s2) hR (xs := lmem_x2) (xsMk_small (by kernel_rfl) (by kernel_rfl) hR) xsMk_pan lamOk_nil (n := 1000) (T := lmem_U2) (fun s Q => lmem_q2 s Q) (ok := ok2) (f := lmem_f2 g2_2) h2) (lamOk_cons (c := (codeOf Try.f8)) (by kernel_rfl) (id := 0) (by kernel_rfl) (loop_ok te_ok E_c5alive_ok E_c5alive_any (sh := lmem_s0) hR (xs := lmem_x0) (xsMk_small (by kernel_rfl) (by kernel_rfl) hR) xsMk_pan lamOk_nil (n := 1000) (T := lmem_U0) (fun s Q => lmem_q0 s Q) (ok := ok0) (f := lmem_f0 g0_0) h0) lamOk_nil))) (n := 1000) (sel := lmem_sel) (fun v o h => by cases h; rfl) (pre := pre) (F := F) (T := fun x => lmem_T ok0 g0_0 ok2 g2_2 (x.1.1) (x.1.2.1)) (fun x Q => lmem_q ok0 g0_0 ok2 g2_2 x Q) hF

/-- A term more, where it may be. -/
def addStep (c : Int) (l : List Tm) (k : Nat) (o : List Tm) : List Tm := cond (onB c (l.getD k noTm0).2) (cond (roomT o) (o ++ [(scalP c (l.getD k noTm0).1, (l.getD k noTm0).2)]) o) o
/-- The terms that a sum keeps. -/
def keptT (c : Int) (l : List Tm) : List Tm := upto (addStep c l) [] l.length
theorem addStep_length (c : Int) (l : List Tm) (k : Nat) (o : List Tm) : (addStep c l k o).length ≤ o.length + 1 := by
  unfold addStep
  cases onB c (l.getD k noTm0).2
  · exact Nat.le_succ _
  · cases roomT o
    · exact Nat.le_succ _
    · simp only [cond_true, List.length_append, List.length_cons, List.length_nil]
      omega
theorem kept_le (c : Int) (l : List Tm) : ∀ n, (upto (addStep c l) [] n).length ≤ n
  | 0 => Nat.le_refl _
  | n + 1 => by
    have h1 := kept_le c l n
    have h2 := addStep_length c l n (upto (addStep c l) [] n)
    show (addStep c l n (upto (addStep c l) [] n)).length ≤ _
    omega
def lmem_ok0 (s : lmem_s0X) : Bool := decide (s.1.2.2.1 = 0 ∧ s.2.2.1 = [] ∧ s.1.1.length ≤ 60)
def lmem_g0 (s : lmem_s0X) : lmem_e0_0X := (((), ()), ((s.2.1.1, (), ()), keptT s.2.1.1 s.1.1, ()))
theorem lmem_h0 : ∀ s : lmem_s0X, lmem_ok0 s = true → ∃ m e, loopRun lmem_U0 m s = some e ∧ (lmem_f0 lmem_g0 s).run = some e := by
  rintro ⟨⟨l, ⟨⟩, k, ⟨⟩⟩, ⟨⟨c, ⟨⟩, ⟨⟩⟩, o, ⟨⟩⟩⟩ h
  have h' := of_decide_eq_true h
  dsimp only at h'
  obtain ⟨rfl, rfl, hl⟩ := h'
  have := (loop_upto (T := lmem_U0) (fun k o => (((l, (), (k : Int), ()), ((c, (), ()), o, ())) : lmem_s0X)) (addStep c l)
    (fun o => (⟨(.exit 0, lmem_e0_0), (((), ()), ((c, (), ()), o, ()))⟩ : LEnd)) l.length [] (fun _ _ => True) trivial (fun k o hk _ => ⟨?_, trivial⟩) (fun o _ => ?_)).1
  · obtain ⟨m, hm⟩ := this
    exact ⟨m, _, hm, rfl⟩
  · have hin : inB (k : Int) l.length = true := inB_of (by omega)
    have hgd : ∀ z : OT (Sum lmem_s0X LEnd), (gd [inB (k : Int) l.length, inB (k : Int) l.length] z).run = z.run := fun z => gd_run (by rw [hin]; rfl)
    have hr : inR ((k : Int) + 1) = true := inR_of (by omega)
    have hgr : ∀ z : OT (Sum lmem_s0X LEnd), (gd [inR ((k : Int) + 1)] z).run = z.run := fun z => gd_run (by rw [hr]; rfl)
    refine (OT.run_t (decide_eq_true (by dsimp only; omega))).trans ((hgd _).trans ?_)
    unfold addStep
    rcases (Bool.eq_false_or_eq_true (onB c (l.getD k noTm0).2)).symm with h1 | h1
    · rw [h1]
      exact (OT.run_f h1).trans ((hgr _).trans rfl)
    · rcases (Bool.eq_false_or_eq_true (roomT o)).symm with h2 | h2
      · rw [h1, h2]
        exact (OT.run_t h1).trans ((OT.run_f rfl).trans ((hgr _).trans rfl))
      · rw [h1, h2]
        exact (OT.run_t h1).trans ((OT.run_t rfl).trans ((hgr _).trans rfl))
  · exact OT.run_f (decide_eq_false (by dsimp only; omega))
def spoilStep (k : Nat) (o : List Tm) : List Tm := o.set k (⟨99, 0, 0, 0⟩, (o.getD k noTm0).2)
def spoilT (l : List Tm) : List Tm := upto spoilStep l l.length
theorem spoil_length (l : List Tm) : ∀ n, (upto spoilStep l n).length = l.length
  | 0 => rfl
  | n + 1 => (List.length_set ..).trans (spoil_length l n)
def lmem_ok2 (s : lmem_s2X) : Bool := decide (s.1.2.2.2.1 = 0 ∧ s.2.2.1.length ≤ 60)
def lmem_g2 (s : lmem_s2X) : lmem_e2_2X := (((), (), (), ()), (s.2.1, spoilT s.2.2.1, s.2.2.2.1, s.2.2.2.2.1, ()))
theorem lmem_h2 : ∀ s : lmem_s2X, lmem_ok2 s = true → ∃ m e, loopRun lmem_U2 m s = some e ∧ (lmem_f2 lmem_g2 s).run = some e := by
  rintro ⟨⟨⟨⟩, ⟨⟩, ⟨⟩, k, ⟨⟩⟩, ⟨c0, l, c2, c3, ⟨⟩⟩⟩ h
  have h' := of_decide_eq_true h
  dsimp only at h'
  obtain ⟨rfl, hl⟩ := h'
  have := (loop_upto (T := lmem_U2) (fun k o => ((((), (), (), (k : Int), ()), (c0, o, c2, c3, ())) : lmem_s2X)) spoilStep
    (fun o => (⟨(.exit 2, lmem_e2_2), (((), (), (), ()), (c0, o, c2, c3, ()))⟩ : LEnd)) l.length l (fun _ o => o.length = l.length) rfl (fun k o hk ho => ⟨?_, (List.length_set ..).trans ho⟩) (fun o ho => ?_)).1
  · obtain ⟨m, hm⟩ := this
    exact ⟨m, _, hm, rfl⟩
  · refine (OT.run_t (decide_eq_true (by dsimp only; omega))).trans ((gd_run ?_).trans ?_)
    · simp only [ho, Int.toNat_natCast, List.all_cons, List.all_nil, Bool.and_true, Bool.and_eq_true]
      exact ⟨inB_of (by omega), decide_eq_true (by omega), inR_of (by omega)⟩
    · simp only [OT.run_ok, Int.toNat_natCast]
      rfl
  · exact OT.run_f (decide_eq_false (by dsimp only; omega))
def lmem_pre (_ : lmemX) : Bool := true
def lmem_F (_ : lmemX) : OT lmem_S.Y := .ok ⟨lmem_o0, ((true, ()), ())⟩
theorem lmem_T_of {ok0 : lmem_s0X → Bool} {g0 : lmem_s0X → lmem_e0_0X} {ok2 : lmem_s2X → Bool} {g2 : lmem_s2X → lmem_e2_2X} {c : Int} {l K S : List Tm} (hK : K.length ≤ 60) (hS : S.length = K.length)
    (h0 : ok0 ((l, (), 0, ()), ((c, (), ()), [], ())) = true) (e0 : g0 ((l, (), 0, ()), ((c, (), ()), [], ())) = (((), ()), ((c, (), ()), K, ())))
    (h2 : ok2 (((), (), (), 0, ()), ((c, (), ()), K, K, K, ())) = true) (e2 : g2 (((), (), (), 0, ()), ((c, (), ()), K, K, K, ())) = (((), (), (), ()), ((c, (), ()), S, K, K, ())))
    (hl : l.length ≤ 60) (hs : sortOk c = true) : (lmem_T ok0 g0 ok2 g2 c l).run = some ⟨lmem_o0, ((true, ()), ())⟩ := by
  have hc : 0 ≤ c ∧ c < 4 := by simpa [sortOk] using hs
  unfold lmem_T
  simp only [e0, e2]
  refine (OT.run_f (decide_eq_false (by omega))).trans ((OT.run_f (decide_eq_false (by omega))).trans ((OT.run_f (decide_eq_false (by omega))).trans ((OT.run_t hs).trans ((gd_run ?_).trans ?_))))
  · simp only [List.all_cons, List.all_nil, Bool.and_true, Bool.and_eq_true]
    have hm : mterms_pre (((), ()), (c, ((), ())), K, ()) = true := decide_eq_true (show K.length * 104 ≤ _ by omega)
    exact ⟨h0, hm, hm, h2, decide_eq_true (by omega), inR_of (by omega)⟩
  · refine (OT.run_t ?_).trans ((gd_run ?_).trans ?_)
    · rw [List.length_append, hS]
      simp
    · simp only [List.all_cons, List.all_nil, Bool.and_true, Bool.and_eq_true]
      exact ⟨decide_eq_true (show K.length * 104 ≤ _ by omega), decide_eq_true (show K.length ≤ _ by omega)⟩
    · exact congrArg (fun b : Bool => some (⟨lmem_o0, ((b, ()), ())⟩ : lmem_S.Y)) (decide_eq_true trivial)
theorem lmem_ok : SummOk Try.prog 8 (lmem_S.summ lmem_pre lmem_F) := lmem_main lmem_ok0 lmem_g0 lmem_ok2 lmem_g2 lmem_h0 lmem_h2 _ _ fun x oy hp ho => by
  rw [← ho]
  clear ho
  obtain ⟨⟨c, l, ⟨⟩⟩, ⟨⟩⟩ := x
  show (lmem_T lmem_ok0 lmem_g0 lmem_ok2 lmem_g2 c l).run = some ⟨lmem_o0, ((true, ()), ())⟩
  by_cases hl : (60 : Int) < (l.length : Int)
  · exact (OT.run_t (decide_eq_true hl)).trans rfl
  · rcases (Bool.eq_false_or_eq_true (sortOk c)).symm with hs | hs
    · refine (OT.run_f (decide_eq_false hl)).trans ?_
      by_cases h1 : c < 0
      · exact (OT.run_t (decide_eq_true h1)).trans rfl
      · refine (OT.run_f (decide_eq_false h1)).trans ((OT.run_t (decide_eq_true ?_)).trans rfl)
        simp only [sortOk, Bool.and_eq_false_iff, decide_eq_false_iff_not] at hs
        omega
    · have hk : (keptT c l).length ≤ l.length := kept_le c l l.length
      exact lmem_T_of (K := keptT c l) (S := spoilT (keptT c l)) (by omega) (spoil_length _ _) (decide_eq_true ⟨rfl, rfl, (by show l.length ≤ 60; omega)⟩) rfl (decide_eq_true ⟨rfl, (by show (keptT c l).length ≤ 60; omega)⟩) rfl (by omega) hs

def lmem_summ : Summ := (lmem_S.summ lmem_pre lmem_F)
theorem lmem_known : SummOk Try.prog 8 lmem_summ := lmem_ok
theorem lmem_smono : MonoOk lmem_summ := fn_mono

def E_lmem : Env := envCons 8 lmem_summ E_c5alive
theorem E_lmem_ok : EnvOk Try.prog E_lmem := envOk_cons lmem_known E_c5alive_ok
theorem E_lmem_mono : EnvMono E_lmem := envMono_cons lmem_smono E_c5alive_mono
theorem E_lmem_any : AnyOk Try.prog te E_lmem := any_ok follows te_ok E_lmem_ok E_lmem_mono

end Go.Proofs.Ytkedomfjjahjnaa
