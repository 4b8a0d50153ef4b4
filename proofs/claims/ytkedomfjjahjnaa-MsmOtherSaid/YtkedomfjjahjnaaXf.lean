/- A symbolic machine for Go code over plain data, and functions of the program as it shows them. No statement is proved in this file. -/
import Derived.KernelRfl
import Derived.Test.YtkedomfjjahjnaaXe
set_option linter.unusedSimpArgs false
set_option linter.unusedVariables false
set_option linter.unusedSectionVars false

namespace Go.Proofs.Ytkedomfjjahjnaa
set_option maxRecDepth 100000
theorem dbl_x {p xs z3 yz x3 s2 mm m b1 s a1 yy Y X l y x z : Int} (h0 : p ∣ xs-(l*l-x-x)) (h1 : p ∣ l*(y+y)-(x*x+x*x+x*x)) (h2 : p ∣ z3-(yz*2)) (h3 : p ∣ yz-(Y*z)) (h4 : p ∣ x3-(mm-s2)) (h5 : p ∣ s2-(s*2)) (h6 : p ∣ mm-(m*m)) (h7 : p ∣ m-(b1*3)) (h8 : p ∣ b1-(X*X)) (h9 : p ∣ s-(a1*4)) (h10 : p ∣ a1-(X*yy)) (h11 : p ∣ yy-(Y*Y)) (h12 : p ∣ X-x*(z*z)) (h13 : p ∣ Y-y*(z*z*z)) : p ∣ (x3-xs*(z3*z3)) :=
  dk (dc (-z3*z3) h0 (dc (-2*Y*l*z*z*z*z*z - 3*x*x*z*z*z*z*z*z*z*z) h1 (dc (-z3*l*l + 2*z3*x - 2*yz*l*l + 4*yz*x) h2 (dc (-4*yz*l*l + 8*yz*x - 4*Y*l*l*z + 8*Y*x*z) h3 (dc (1) h4 (dc (-1) h5 (dc (1) h6 (dc (m + 3*b1) h7 (dc (9*b1 + 9*X*X) h8 (dc (-2) h9 (dc (-8) h10 (dc (-8*X) h11 (dc (-8*Y*Y + 9*X*X*X + 9*X*X*x*z*z + 9*X*x*x*z*z*z*z + 9*x*x*x*z*z*z*z*z*z) h12 (dc (-4*Y*l*l*z*z - 6*l*x*x*z*z*z*z*z) h13 (dz p))))))))))))))) (by clear h0 h1 h2 h3 h4 h5 h6 h7 h8 h9 h10 h11 h12 h13; grind)
theorem dbl_y {p ys xs z3 yz y3 y8 y4 md d x3 s2 mm m b1 s a1 yy Y X l y x z : Int} (h0 : p ∣ ys-(l*(x-xs)-y)) (h1 : p ∣ xs-(l*l-x-x)) (h2 : p ∣ l*(y+y)-(x*x+x*x+x*x)) (h3 : p ∣ z3-(yz*2)) (h4 : p ∣ yz-(Y*z)) (h5 : p ∣ y3-(md-y8)) (h6 : p ∣ y8-(y4*8)) (h7 : p ∣ y4-(yy*yy)) (h8 : p ∣ md-(m*d)) (h9 : p ∣ d-(s-x3)) (h10 : p ∣ x3-(mm-s2)) (h11 : p ∣ s2-(s*2)) (h12 : p ∣ mm-(m*m)) (h13 : p ∣ m-(b1*3)) (h14 : p ∣ b1-(X*X)) (h15 : p ∣ s-(a1*4)) (h16 : p ∣ a1-(X*yy)) (h17 : p ∣ yy-(Y*Y)) (h18 : p ∣ X-x*(z*z)) (h19 : p ∣ Y-y*(z*z*z)) : p ∣ (y3-ys*(z3*z3*z3)) :=
  dk (dc (-z3*z3*z3) h0 (dc (z3*z3*z3*l) h1 (dc (4*Y*Y*l*l*z*z*z*z*z*z - 12*Y*Y*x*z*z*z*z*z*z + 6*Y*l*x*x*z*z*z*z*z*z*z*z*z + 9*x*x*x*x*z*z*z*z*z*z*z*z*z*z*z*z) h2 (dc (z3*z3*l*l*l - 3*z3*z3*l*x + z3*z3*y + 2*z3*yz*l*l*l - 6*z3*yz*l*x + 2*z3*yz*y + 4*yz*yz*l*l*l - 12*yz*yz*l*x + 4*yz*yz*y) h3 (dc (8*yz*yz*l*l*l - 24*yz*yz*l*x + 8*yz*yz*y + 8*yz*Y*l*l*l*z - 24*yz*Y*l*x*z + 8*yz*Y*y*z + 8*Y*Y*l*l*l*z*z - 24*Y*Y*l*x*z*z + 8*Y*Y*y*z*z) h4 (dc (1) h5 (dc (-1) h6 (dc (-8) h7 (dc (1) h8 (dc (m) h9 (dc (-m) h10 (dc (m) h11 (dc (-m) h12 (dc (-m*m - 3*m*b1 - 9*b1*b1 + 3*s) h13 (dc (-27*b1*b1 - 27*b1*X*X + 9*s - 27*X*X*X*X) h14 (dc (9*X*X) h15 (dc (36*X*X) h16 (dc (-8*yy - 8*Y*Y + 36*X*X*X) h17 (dc (36*Y*Y*X*X + 36*Y*Y*X*x*z*z + 36*Y*Y*x*x*z*z*z*z - 27*X*X*X*X*X - 27*X*X*X*X*x*z*z - 27*X*X*X*x*x*z*z*z*z - 27*X*X*x*x*x*z*z*z*z*z*z - 27*X*x*x*x*x*z*z*z*z*z*z*z*z - 27*x*x*x*x*x*z*z*z*z*z*z*z*z*z*z) h18 (dc (-8*Y*Y*Y + 8*Y*Y*l*l*l*z*z*z - 24*Y*Y*l*x*z*z*z + 12*Y*l*l*x*x*z*z*z*z*z*z + 18*l*x*x*x*x*z*z*z*z*z*z*z*z*z) h19 (dz p))))))))))))))))))))) (by clear h0 h1 h2 h3 h4 h5 h6 h7 h8 h9 h10 h11 h12 h13 h14 h15 h16 h17 h18 h19; grind)
theorem dbl_z {p z3 yz Y y z : Int} (h0 : p ∣ z3-(yz*2)) (h1 : p ∣ yz-(Y*z)) (h2 : p ∣ Y-y*(z*z*z)) : p ∣ (z3-2*(y*(z*(z*(z*z))))) :=
  dk (dc (1) h0 (dc (2) h1 (dc (2*z) h2 (dz p)))) (by clear h0 h1 h2; grind)
theorem add_h {p h v u qz pz X2 X1 x1 x2 z1 z2 : Int} (h0 : p ∣ h-(v-u)) (h1 : p ∣ v-(X2*pz)) (h2 : p ∣ u-(X1*qz)) (h3 : p ∣ qz-(z2*z2)) (h4 : p ∣ pz-(z1*z1)) (h5 : p ∣ X1-x1*(z1*z1)) (h6 : p ∣ X2-x2*(z2*z2)) : p ∣ (h-(x2-x1)*(z1*z1*(z2*z2))) :=
  dk (dc (1) h0 (dc (1) h1 (dc (-1) h2 (dc (-X1) h3 (dc (X2) h4 (dc (-z2*z2) h5 (dc (z1*z1) h6 (dz p)))))))) (by clear h0 h1 h2 h3 h4 h5 h6; grind)
theorem add_r {p r t p3 s q3 qz pz Y2 Y1 y1 y2 z1 z2 : Int} (h0 : p ∣ r-(t-s)) (h1 : p ∣ t-(Y2*p3)) (h2 : p ∣ p3-(pz*z1)) (h3 : p ∣ s-(Y1*q3)) (h4 : p ∣ q3-(qz*z2)) (h5 : p ∣ qz-(z2*z2)) (h6 : p ∣ pz-(z1*z1)) (h7 : p ∣ Y1-y1*(z1*z1*z1)) (h8 : p ∣ Y2-y2*(z2*z2*z2)) : p ∣ (r-(y2-y1)*(z1*z1*z1*(z2*z2*z2))) :=
  dk (dc (1) h0 (dc (1) h1 (dc (Y2) h2 (dc (-1) h3 (dc (-Y1) h4 (dc (-Y1*z2) h5 (dc (Y2*z1) h6 (dc (-z2*z2*z2) h7 (dc (z1*z1*z1) h8 (dz p)))))))))) (by clear h0 h1 h2 h3 h4 h5 h6 h7 h8; grind)
theorem add_x {p xs z3 zz x3 c2 rh rr cc hhh hh r t p3 h v s q3 u qz pz Y2 X2 Y1 X1 y2 y1 l x1 x2 z1 z2 : Int} (h0 : p ∣ xs-(l*l-x1-x2)) (h1 : p ∣ l*(x1-x2)-(y1-y2)) (h2 : p ∣ z3-(h*zz)) (h3 : p ∣ zz-(z1*z2)) (h4 : p ∣ x3-(rh-c2)) (h5 : p ∣ c2-(cc*2)) (h6 : p ∣ rh-(rr-hhh)) (h7 : p ∣ rr-(r*r)) (h8 : p ∣ cc-(u*hh)) (h9 : p ∣ hhh-(hh*h)) (h10 : p ∣ hh-(h*h)) (h11 : p ∣ r-(t-s)) (h12 : p ∣ t-(Y2*p3)) (h13 : p ∣ p3-(pz*z1)) (h14 : p ∣ h-(v-u)) (h15 : p ∣ v-(X2*pz)) (h16 : p ∣ s-(Y1*q3)) (h17 : p ∣ q3-(qz*z2)) (h18 : p ∣ u-(X1*qz)) (h19 : p ∣ qz-(z2*z2)) (h20 : p ∣ pz-(z1*z1)) (h21 : p ∣ X1-x1*(z1*z1)) (h22 : p ∣ Y1-y1*(z1*z1*z1)) (h23 : p ∣ X2-x2*(z2*z2)) (h24 : p ∣ Y2-y2*(z2*z2*z2)) : p ∣ (x3-xs*(z3*z3)) :=
  dk (dc (-z3*z3) h0 (dc (Y2*z1*z1*z1*z1*z1*z1*z2*z2*z2 - l*x1*z1*z1*z1*z1*z1*z1*z2*z2*z2*z2*z2*z2 + l*x2*z1*z1*z1*z1*z1*z1*z2*z2*z2*z2*z2*z2 - y1*z1*z1*z1*z1*z1*z1*z2*z2*z2*z2*z2*z2) h1 (dc (-z3*l*l + z3*x1 + z3*x2 - zz*h*l*l + zz*h*x1 + zz*h*x2) h2 (dc (-zz*h*h*l*l + zz*h*h*x1 + zz*h*h*x2 - h*h*l*l*z1*z2 + h*h*x1*z1*z2 + h*h*x2*z1*z2) h3 (dc (1) h4 (dc (-1) h5 (dc (1) h6 (dc (1) h7 (dc (-2) h8 (dc (-1) h9 (dc (-h - 2*u) h10 (dc (r + t - s) h11 (dc (t + p3*Y2 - 2*s) h12 (dc (p3*Y2*Y2 - 2*s*Y2 + pz*Y2*Y2*z1) h13 (dc (-h*h - h*v - h*u - h*l*l*z1*z1*z2*z2 + h*x1*z1*z1*z2*z2 + h*x2*z1*z1*z2*z2 - v*v - v*l*l*z1*z1*z2*z2 + v*x1*z1*z1*z2*z2 + v*x2*z1*z1*z2*z2 + u*u + u*l*l*z1*z1*z2*z2 - u*x1*z1*z1*z2*z2 - u*x2*z1*z1*z2*z2) h14 (dc (-v*v + v*u - v*pz*X2 - v*l*l*z1*z1*z2*z2 + v*x1*z1*z1*z2*z2 + v*x2*z1*z1*z2*z2 + u*u + u*pz*X2 + 2*u*l*l*z1*z1*z2*z2 - 2*u*x1*z1*z1*z2*z2 - 2*u*x2*z1*z1*z2*z2 - pz*pz*X2*X2 - pz*X2*l*l*z1*z1*z2*z2 + pz*X2*x1*z1*z1*z2*z2 + pz*X2*x2*z1*z1*z2*z2) h15 (dc (s + q3*Y1 - 2*pz*Y2*z1) h16 (dc (q3*Y1*Y1 + qz*Y1*Y1*z2 - 2*pz*Y2*Y1*z1) h17 (dc (-u*u - u*qz*X1 + u*pz*X2 - u*l*l*z1*z1*z2*z2 + u*x1*z1*z1*z2*z2 + u*x2*z1*z1*z2*z2 - qz*qz*X1*X1 + qz*pz*X2*X1 - qz*X1*l*l*z1*z1*z2*z2 + qz*X1*x1*z1*z1*z2*z2 + qz*X1*x2*z1*z1*z2*z2 + pz*pz*X2*X2 + 2*pz*X2*l*l*z1*z1*z2*z2 - 2*pz*X2*x1*z1*z1*z2*z2 - 2*pz*X2*x2*z1*z1*z2*z2) h18 (dc (-qz*qz*X1*X1*X1 + qz*pz*X2*X1*X1 + qz*Y1*Y1*z2*z2 - qz*X1*X1*X1*z2*z2 - qz*X1*X1*l*l*z1*z1*z2*z2 + qz*X1*X1*x1*z1*z1*z2*z2 + qz*X1*X1*x2*z1*z1*z2*z2 + pz*pz*X2*X2*X1 - 2*pz*Y2*Y1*z1*z2 + pz*X2*X1*X1*z2*z2 + 2*pz*X2*X1*l*l*z1*z1*z2*z2 - 2*pz*X2*X1*x1*z1*z1*z2*z2 - 2*pz*X2*X1*x2*z1*z1*z2*z2 + Y1*Y1*z2*z2*z2*z2 - X1*X1*X1*z2*z2*z2*z2 - X1*X1*l*l*z1*z1*z2*z2*z2*z2 + X1*X1*x1*z1*z1*z2*z2*z2*z2 + X1*X1*x2*z1*z1*z2*z2*z2*z2) h19 (dc (-pz*pz*X2*X2*X2 + pz*Y2*Y2*z1*z1 - pz*X2*X2*X2*z1*z1 + pz*X2*X2*X1*z2*z2 - pz*X2*X2*l*l*z1*z1*z2*z2 + pz*X2*X2*x1*z1*z1*z2*z2 + pz*X2*X2*x2*z1*z1*z2*z2 + Y2*Y2*z1*z1*z1*z1 - 2*Y2*Y1*z1*z2*z2*z2 - X2*X2*X2*z1*z1*z1*z1 + X2*X2*X1*z1*z1*z2*z2 - X2*X2*l*l*z1*z1*z1*z1*z2*z2 + X2*X2*x1*z1*z1*z1*z1*z2*z2 + X2*X2*x2*z1*z1*z1*z1*z2*z2 + X2*X1*X1*z2*z2*z2*z2 + 2*X2*X1*l*l*z1*z1*z2*z2*z2*z2 - 2*X2*X1*x1*z1*z1*z2*z2*z2*z2 - 2*X2*X1*x2*z1*z1*z2*z2*z2*z2) h20 (dc (X2*X2*z1*z1*z1*z1*z2*z2 + X2*X1*z1*z1*z2*z2*z2*z2 + 2*X2*l*l*z1*z1*z1*z1*z2*z2*z2*z2 - X2*x1*z1*z1*z1*z1*z2*z2*z2*z2 - 2*X2*x2*z1*z1*z1*z1*z2*z2*z2*z2 - X1*X1*z2*z2*z2*z2*z2*z2 - X1*l*l*z1*z1*z2*z2*z2*z2*z2*z2 + X1*x2*z1*z1*z2*z2*z2*z2*z2*z2 - l*l*x1*z1*z1*z1*z1*z2*z2*z2*z2*z2*z2 + x1*x2*z1*z1*z1*z1*z2*z2*z2*z2*z2*z2) h21 (dc (-2*Y2*z1*z1*z1*z2*z2*z2 + Y1*z2*z2*z2*z2*z2*z2 + y1*z1*z1*z1*z2*z2*z2*z2*z2*z2) h22 (dc (-X2*X2*z1*z1*z1*z1*z1*z1 - X2*l*l*z1*z1*z1*z1*z1*z1*z2*z2 + 2*X2*x1*z1*z1*z1*z1*z1*z1*z2*z2 + 2*l*l*x1*z1*z1*z1*z1*z1*z1*z2*z2*z2*z2 - l*l*x2*z1*z1*z1*z1*z1*z1*z2*z2*z2*z2 - x1*x1*z1*z1*z1*z1*z1*z1*z2*z2*z2*z2) h23 (dc (Y2*z1*z1*z1*z1*z1*z1 - l*x1*z1*z1*z1*z1*z1*z1*z2*z2*z2 + l*x2*z1*z1*z1*z1*z1*z1*z2*z2*z2 - y1*z1*z1*z1*z1*z1*z1*z2*z2*z2) h24 (dz p)))))))))))))))))))))))))) (by clear h0 h1 h2 h3 h4 h5 h6 h7 h8 h9 h10 h11 h12 h13 h14 h15 h16 h17 h18 h19 h20 h21 h22 h23 h24; grind)
theorem add_y {p ys xs z3 zz y3 sh rd d x3 c2 rh rr cc hhh hh r t p3 h v s q3 u qz pz Y2 X2 Y1 X1 y2 y1 l x1 x2 z1 z2 : Int} (h0 : p ∣ ys-(l*(x1-xs)-y1)) (h1 : p ∣ xs-(l*l-x1-x2)) (h2 : p ∣ l*(x1-x2)-(y1-y2)) (h3 : p ∣ z3-(h*zz)) (h4 : p ∣ zz-(z1*z2)) (h5 : p ∣ y3-(rd-sh)) (h6 : p ∣ sh-(s*hhh)) (h7 : p ∣ rd-(r*d)) (h8 : p ∣ d-(cc-x3)) (h9 : p ∣ x3-(rh-c2)) (h10 : p ∣ c2-(cc*2)) (h11 : p ∣ rh-(rr-hhh)) (h12 : p ∣ rr-(r*r)) (h13 : p ∣ cc-(u*hh)) (h14 : p ∣ hhh-(hh*h)) (h15 : p ∣ hh-(h*h)) (h16 : p ∣ r-(t-s)) (h17 : p ∣ t-(Y2*p3)) (h18 : p ∣ p3-(pz*z1)) (h19 : p ∣ h-(v-u)) (h20 : p ∣ v-(X2*pz)) (h21 : p ∣ s-(Y1*q3)) (h22 : p ∣ q3-(qz*z2)) (h23 : p ∣ u-(X1*qz)) (h24 : p ∣ qz-(z2*z2)) (h25 : p ∣ pz-(z1*z1)) (h26 : p ∣ X1-x1*(z1*z1)) (h27 : p ∣ Y1-y1*(z1*z1*z1)) (h28 : p ∣ X2-x2*(z2*z2)) (h29 : p ∣ Y2-y2*(z2*z2*z2)) : p ∣ (y3-ys*(z3*z3*z3)) :=
  dk (dc (-z3*z3*z3) h0 (dc (z3*z3*z3*l) h1 (dc (-Y2*Y2*z1*z1*z1*z1*z1*z1*z1*z1*z1*z2*z2*z2 + Y2*l*x1*z1*z1*z1*z1*z1*z1*z1*z1*z1*z2*z2*z2*z2*z2*z2 - Y2*l*x2*z1*z1*z1*z1*z1*z1*z1*z1*z1*z2*z2*z2*z2*z2*z2 + 2*Y2*y1*z1*z1*z1*z1*z1*z1*z1*z1*z1*z2*z2*z2*z2*z2*z2 - l*l*x1*x1*z1*z1*z1*z1*z1*z1*z1*z1*z1*z2*z2*z2*z2*z2*z2*z2*z2*z2 + 2*l*l*x1*x2*z1*z1*z1*z1*z1*z1*z1*z1*z1*z2*z2*z2*z2*z2*z2*z2*z2*z2 - l*l*x2*x2*z1*z1*z1*z1*z1*z1*z1*z1*z1*z2*z2*z2*z2*z2*z2*z2*z2*z2 - y1*l*x1*z1*z1*z1*z1*z1*z1*z1*z1*z1*z2*z2*z2*z2*z2*z2*z2*z2*z2 + 2*x1*x1*x1*z1*z1*z1*z1*z1*z1*z1*z1*z1*z2*z2*z2*z2*z2*z2*z2*z2*z2 + y1*l*x2*z1*z1*z1*z1*z1*z1*z1*z1*z1*z2*z2*z2*z2*z2*z2*z2*z2*z2 - 3*x1*x1*x2*z1*z1*z1*z1*z1*z1*z1*z1*z1*z2*z2*z2*z2*z2*z2*z2*z2*z2 + x2*x2*x2*z1*z1*z1*z1*z1*z1*z1*z1*z1*z2*z2*z2*z2*z2*z2*z2*z2*z2 - y1*y1*z1*z1*z1*z1*z1*z1*z1*z1*z1*z2*z2*z2*z2*z2*z2*z2*z2*z2) h2 (dc (z3*z3*l*l*l - 2*z3*z3*l*x1 - z3*z3*l*x2 + z3*z3*y1 + z3*zz*h*l*l*l - 2*z3*zz*h*l*x1 - z3*zz*h*l*x2 + z3*zz*h*y1 + zz*zz*h*h*l*l*l - 2*zz*zz*h*h*l*x1 - zz*zz*h*h*l*x2 + zz*zz*h*h*y1) h3 (dc (zz*zz*h*h*h*l*l*l - 2*zz*zz*h*h*h*l*x1 - zz*zz*h*h*h*l*x2 + zz*zz*h*h*h*y1 + zz*h*h*h*l*l*l*z1*z2 - 2*zz*h*h*h*l*x1*z1*z2 - zz*h*h*h*l*x2*z1*z2 + zz*h*h*h*y1*z1*z2 + h*h*h*l*l*l*z1*z1*z2*z2 - 2*h*h*h*l*x1*z1*z1*z2*z2 - h*h*h*l*x2*z1*z1*z2*z2 + h*h*h*y1*z1*z1*z2*z2) h4 (dc (1) h5 (dc (-1) h6 (dc (1) h7 (dc (r) h8 (dc (-r) h9 (dc (r) h10 (dc (-r) h11 (dc (-r) h12 (dc (3*r) h13 (dc (r - s) h14 (dc (r*h + 3*r*u - h*s) h15 (dc (-r*r - r*t + r*s - t*t + 2*t*s + h*h*h + 3*h*h*u - s*s) h16 (dc (-t*t - t*p3*Y2 + 3*t*s - p3*p3*Y2*Y2 + 3*p3*s*Y2 + h*h*h + 3*h*h*u - 3*s*s) h17 (dc (-p3*p3*Y2*Y2*Y2 + 3*p3*s*Y2*Y2 - p3*pz*Y2*Y2*Y2*z1 + h*h*h*Y2 + 3*h*h*u*Y2 - 3*s*s*Y2 + 3*s*pz*Y2*Y2*z1 - pz*pz*Y2*Y2*Y2*z1*z1) h18 (dc (-2*h*h*s + h*h*pz*Y2*z1 + h*h*l*l*l*z1*z1*z1*z2*z2*z2 - 2*h*h*l*x1*z1*z1*z1*z2*z2*z2 - h*h*l*x2*z1*z1*z1*z2*z2*z2 + h*h*y1*z1*z1*z1*z2*z2*z2 - 2*h*v*s + h*v*pz*Y2*z1 + h*v*l*l*l*z1*z1*z1*z2*z2*z2 - 2*h*v*l*x1*z1*z1*z1*z2*z2*z2 - h*v*l*x2*z1*z1*z1*z2*z2*z2 + h*v*y1*z1*z1*z1*z2*z2*z2 - h*s*u + 2*h*u*pz*Y2*z1 - h*u*l*l*l*z1*z1*z1*z2*z2*z2 + 2*h*u*l*x1*z1*z1*z1*z2*z2*z2 + h*u*l*x2*z1*z1*z1*z2*z2*z2 - h*u*y1*z1*z1*z1*z2*z2*z2 - 2*v*v*s + v*v*pz*Y2*z1 + v*v*l*l*l*z1*z1*z1*z2*z2*z2 - 2*v*v*l*x1*z1*z1*z1*z2*z2*z2 - v*v*l*x2*z1*z1*z1*z2*z2*z2 + v*v*y1*z1*z1*z1*z2*z2*z2 + v*s*u + v*u*pz*Y2*z1 - 2*v*u*l*l*l*z1*z1*z1*z2*z2*z2 + 4*v*u*l*x1*z1*z1*z1*z2*z2*z2 + 2*v*u*l*x2*z1*z1*z1*z2*z2*z2 - 2*v*u*y1*z1*z1*z1*z2*z2*z2 + s*u*u - 2*u*u*pz*Y2*z1 + u*u*l*l*l*z1*z1*z1*z2*z2*z2 - 2*u*u*l*x1*z1*z1*z1*z2*z2*z2 - u*u*l*x2*z1*z1*z1*z2*z2*z2 + u*u*y1*z1*z1*z1*z2*z2*z2) h19 (dc (-2*v*v*s + v*v*pz*Y2*z1 + v*v*l*l*l*z1*z1*z1*z2*z2*z2 - 2*v*v*l*x1*z1*z1*z1*z2*z2*z2 - v*v*l*x2*z1*z1*z1*z2*z2*z2 + v*v*y1*z1*z1*z1*z2*z2*z2 + 3*v*s*u - 2*v*s*pz*X2 - 3*v*u*l*l*l*z1*z1*z1*z2*z2*z2 + 6*v*u*l*x1*z1*z1*z1*z2*z2*z2 + 3*v*u*l*x2*z1*z1*z1*z2*z2*z2 - 3*v*u*y1*z1*z1*z1*z2*z2*z2 + v*pz*pz*Y2*X2*z1 + v*pz*X2*l*l*l*z1*z1*z1*z2*z2*z2 - 2*v*pz*X2*l*x1*z1*z1*z1*z2*z2*z2 - v*pz*X2*l*x2*z1*z1*z1*z2*z2*z2 + v*pz*X2*y1*z1*z1*z1*z2*z2*z2 + 3*s*u*pz*X2 - 2*s*pz*pz*X2*X2 - 3*u*u*pz*Y2*z1 + 3*u*u*l*l*l*z1*z1*z1*z2*z2*z2 - 6*u*u*l*x1*z1*z1*z1*z2*z2*z2 - 3*u*u*l*x2*z1*z1*z1*z2*z2*z2 + 3*u*u*y1*z1*z1*z1*z2*z2*z2 - 3*u*pz*X2*l*l*l*z1*z1*z1*z2*z2*z2 + 6*u*pz*X2*l*x1*z1*z1*z1*z2*z2*z2 + 3*u*pz*X2*l*x2*z1*z1*z1*z2*z2*z2 - 3*u*pz*X2*y1*z1*z1*z1*z2*z2*z2 + pz*pz*pz*Y2*X2*X2*z1 + pz*pz*X2*X2*l*l*l*z1*z1*z1*z2*z2*z2 - 2*pz*pz*X2*X2*l*x1*z1*z1*z1*z2*z2*z2 - pz*pz*X2*X2*l*x2*z1*z1*z1*z2*z2*z2 + pz*pz*X2*X2*y1*z1*z1*z1*z2*z2*z2) h20 (dc (s*s + s*q3*Y1 - 3*s*pz*Y2*z1 + q3*q3*Y1*Y1 - 3*q3*pz*Y2*Y1*z1 - u*u*u + 3*u*pz*pz*X2*X2 - 2*pz*pz*pz*X2*X2*X2 + 3*pz*pz*Y2*Y2*z1*z1) h21 (dc (q3*q3*Y1*Y1*Y1 + q3*qz*Y1*Y1*Y1*z2 - 3*q3*pz*Y2*Y1*Y1*z1 - u*u*u*Y1 + 3*u*pz*pz*X2*X2*Y1 + qz*qz*Y1*Y1*Y1*z2*z2 - 3*qz*pz*Y2*Y1*Y1*z1*z2 - 2*pz*pz*pz*X2*X2*X2*Y1 + 3*pz*pz*Y2*Y2*Y1*z1*z1) h22 (dc (-u*u*qz*Y1*z2 + 2*u*u*pz*Y2*z1 - u*u*l*l*l*z1*z1*z1*z2*z2*z2 + 2*u*u*l*x1*z1*z1*z1*z2*z2*z2 + u*u*l*x2*z1*z1*z1*z2*z2*z2 - u*u*y1*z1*z1*z1*z2*z2*z2 - u*qz*qz*Y1*X1*z2 + 2*u*qz*pz*Y2*X1*z1 - u*qz*X1*l*l*l*z1*z1*z1*z2*z2*z2 + 2*u*qz*X1*l*x1*z1*z1*z1*z2*z2*z2 + u*qz*X1*l*x2*z1*z1*z1*z2*z2*z2 - u*qz*X1*y1*z1*z1*z1*z2*z2*z2 - 3*u*pz*pz*Y2*X2*z1 + 3*u*pz*X2*l*l*l*z1*z1*z1*z2*z2*z2 - 6*u*pz*X2*l*x1*z1*z1*z1*z2*z2*z2 - 3*u*pz*X2*l*x2*z1*z1*z1*z2*z2*z2 + 3*u*pz*X2*y1*z1*z1*z1*z2*z2*z2 - qz*qz*qz*Y1*X1*X1*z2 + 2*qz*qz*pz*Y2*X1*X1*z1 - qz*qz*X1*X1*l*l*l*z1*z1*z1*z2*z2*z2 + 2*qz*qz*X1*X1*l*x1*z1*z1*z1*z2*z2*z2 + qz*qz*X1*X1*l*x2*z1*z1*z1*z2*z2*z2 - qz*qz*X1*X1*y1*z1*z1*z1*z2*z2*z2 - 3*qz*pz*pz*Y2*X2*X1*z1 + 3*qz*pz*pz*X2*X2*Y1*z2 + 3*qz*pz*X2*X1*l*l*l*z1*z1*z1*z2*z2*z2 - 6*qz*pz*X2*X1*l*x1*z1*z1*z1*z2*z2*z2 - 3*qz*pz*X2*X1*l*x2*z1*z1*z1*z2*z2*z2 + 3*qz*pz*X2*X1*y1*z1*z1*z1*z2*z2*z2 - 3*pz*pz*X2*X2*l*l*l*z1*z1*z1*z2*z2*z2 + 6*pz*pz*X2*X2*l*x1*z1*z1*z1*z2*z2*z2 + 3*pz*pz*X2*X2*l*x2*z1*z1*z1*z2*z2*z2 - 3*pz*pz*X2*X2*y1*z1*z1*z1*z2*z2*z2) h23 (dc (-qz*qz*qz*Y1*X1*X1*X1*z2 + 2*qz*qz*pz*Y2*X1*X1*X1*z1 + qz*qz*Y1*Y1*Y1*z2*z2*z2 - qz*qz*Y1*X1*X1*X1*z2*z2*z2 - qz*qz*X1*X1*X1*l*l*l*z1*z1*z1*z2*z2*z2 + 2*qz*qz*X1*X1*X1*l*x1*z1*z1*z1*z2*z2*z2 + qz*qz*X1*X1*X1*l*x2*z1*z1*z1*z2*z2*z2 - qz*qz*X1*X1*X1*y1*z1*z1*z1*z2*z2*z2 - 3*qz*pz*pz*Y2*X2*X1*X1*z1 + 3*qz*pz*pz*X2*X2*Y1*X1*z2 - 3*qz*pz*Y2*Y1*Y1*z1*z2*z2 + 2*qz*pz*Y2*X1*X1*X1*z1*z2*z2 + 3*qz*pz*X2*X1*X1*l*l*l*z1*z1*z1*z2*z2*z2 - 6*qz*pz*X2*X1*X1*l*x1*z1*z1*z1*z2*z2*z2 - 3*qz*pz*X2*X1*X1*l*x2*z1*z1*z1*z2*z2*z2 + 3*qz*pz*X2*X1*X1*y1*z1*z1*z1*z2*z2*z2 + qz*Y1*Y1*Y1*z2*z2*z2*z2*z2 - qz*Y1*X1*X1*X1*z2*z2*z2*z2*z2 - qz*X1*X1*X1*l*l*l*z1*z1*z1*z2*z2*z2*z2*z2 + 2*qz*X1*X1*X1*l*x1*z1*z1*z1*z2*z2*z2*z2*z2 + qz*X1*X1*X1*l*x2*z1*z1*z1*z2*z2*z2*z2*z2 - qz*X1*X1*X1*y1*z1*z1*z1*z2*z2*z2*z2*z2 - 2*pz*pz*pz*X2*X2*X2*Y1*z2 + 3*pz*pz*Y2*Y2*Y1*z1*z1*z2 - 3*pz*pz*Y2*X2*X1*X1*z1*z2*z2 + 3*pz*pz*X2*X2*Y1*X1*z2*z2*z2 - 3*pz*pz*X2*X2*X1*l*l*l*z1*z1*z1*z2*z2*z2 + 6*pz*pz*X2*X2*X1*l*x1*z1*z1*z1*z2*z2*z2 + 3*pz*pz*X2*X2*X1*l*x2*z1*z1*z1*z2*z2*z2 - 3*pz*pz*X2*X2*X1*y1*z1*z1*z1*z2*z2*z2 - 3*pz*Y2*Y1*Y1*z1*z2*z2*z2*z2 + 2*pz*Y2*X1*X1*X1*z1*z2*z2*z2*z2 + 3*pz*X2*X1*X1*l*l*l*z1*z1*z1*z2*z2*z2*z2*z2 - 6*pz*X2*X1*X1*l*x1*z1*z1*z1*z2*z2*z2*z2*z2 - 3*pz*X2*X1*X1*l*x2*z1*z1*z1*z2*z2*z2*z2*z2 + 3*pz*X2*X1*X1*y1*z1*z1*z1*z2*z2*z2*z2*z2 + Y1*Y1*Y1*z2*z2*z2*z2*z2*z2*z2 - Y1*X1*X1*X1*z2*z2*z2*z2*z2*z2*z2 - X1*X1*X1*l*l*l*z1*z1*z1*z2*z2*z2*z2*z2*z2*z2 + 2*X1*X1*X1*l*x1*z1*z1*z1*z2*z2*z2*z2*z2*z2*z2 + X1*X1*X1*l*x2*z1*z1*z1*z2*z2*z2*z2*z2*z2*z2 - X1*X1*X1*y1*z1*z1*z1*z2*z2*z2*z2*z2*z2*z2) h24 (dc (pz*pz*pz*Y2*X2*X2*X2*z1 - pz*pz*Y2*Y2*Y2*z1*z1*z1 + pz*pz*Y2*X2*X2*X2*z1*z1*z1 - 2*pz*pz*X2*X2*X2*Y1*z2*z2*z2 + pz*pz*X2*X2*X2*l*l*l*z1*z1*z1*z2*z2*z2 - 2*pz*pz*X2*X2*X2*l*x1*z1*z1*z1*z2*z2*z2 - pz*pz*X2*X2*X2*l*x2*z1*z1*z1*z2*z2*z2 + pz*pz*X2*X2*X2*y1*z1*z1*z1*z2*z2*z2 - pz*Y2*Y2*Y2*z1*z1*z1*z1*z1 + 3*pz*Y2*Y2*Y1*z1*z1*z2*z2*z2 + pz*Y2*X2*X2*X2*z1*z1*z1*z1*z1 - 3*pz*Y2*X2*X1*X1*z1*z2*z2*z2*z2 - 2*pz*X2*X2*X2*Y1*z1*z1*z2*z2*z2 + pz*X2*X2*X2*l*l*l*z1*z1*z1*z1*z1*z2*z2*z2 - 2*pz*X2*X2*X2*l*x1*z1*z1*z1*z1*z1*z2*z2*z2 - pz*X2*X2*X2*l*x2*z1*z1*z1*z1*z1*z2*z2*z2 + pz*X2*X2*X2*y1*z1*z1*z1*z1*z1*z2*z2*z2 + 3*pz*X2*X2*Y1*X1*z2*z2*z2*z2*z2 - 3*pz*X2*X2*X1*l*l*l*z1*z1*z1*z2*z2*z2*z2*z2 + 6*pz*X2*X2*X1*l*x1*z1*z1*z1*z2*z2*z2*z2*z2 + 3*pz*X2*X2*X1*l*x2*z1*z1*z1*z2*z2*z2*z2*z2 - 3*pz*X2*X2*X1*y1*z1*z1*z1*z2*z2*z2*z2*z2 - Y2*Y2*Y2*z1*z1*z1*z1*z1*z1*z1 + 3*Y2*Y2*Y1*z1*z1*z1*z1*z2*z2*z2 + Y2*X2*X2*X2*z1*z1*z1*z1*z1*z1*z1 - 3*Y2*X2*X1*X1*z1*z1*z1*z2*z2*z2*z2 - 3*Y2*Y1*Y1*z1*z2*z2*z2*z2*z2*z2 + 2*Y2*X1*X1*X1*z1*z2*z2*z2*z2*z2*z2 - 2*X2*X2*X2*Y1*z1*z1*z1*z1*z2*z2*z2 + X2*X2*X2*l*l*l*z1*z1*z1*z1*z1*z1*z1*z2*z2*z2 - 2*X2*X2*X2*l*x1*z1*z1*z1*z1*z1*z1*z1*z2*z2*z2 - X2*X2*X2*l*x2*z1*z1*z1*z1*z1*z1*z1*z2*z2*z2 + X2*X2*X2*y1*z1*z1*z1*z1*z1*z1*z1*z2*z2*z2 + 3*X2*X2*Y1*X1*z1*z1*z2*z2*z2*z2*z2 - 3*X2*X2*X1*l*l*l*z1*z1*z1*z1*z1*z2*z2*z2*z2*z2 + 6*X2*X2*X1*l*x1*z1*z1*z1*z1*z1*z2*z2*z2*z2*z2 + 3*X2*X2*X1*l*x2*z1*z1*z1*z1*z1*z2*z2*z2*z2*z2 - 3*X2*X2*X1*y1*z1*z1*z1*z1*z1*z2*z2*z2*z2*z2 + 3*X2*X1*X1*l*l*l*z1*z1*z1*z2*z2*z2*z2*z2*z2*z2 - 6*X2*X1*X1*l*x1*z1*z1*z1*z2*z2*z2*z2*z2*z2*z2 - 3*X2*X1*X1*l*x2*z1*z1*z1*z2*z2*z2*z2*z2*z2*z2 + 3*X2*X1*X1*y1*z1*z1*z1*z2*z2*z2*z2*z2*z2*z2) h25 (dc (-3*Y2*X2*X1*z1*z1*z1*z1*z1*z2*z2*z2*z2 - 3*Y2*X2*x1*z1*z1*z1*z1*z1*z1*z1*z2*z2*z2*z2 + 2*Y2*X1*X1*z1*z1*z1*z2*z2*z2*z2*z2*z2 + 2*Y2*X1*x1*z1*z1*z1*z1*z1*z2*z2*z2*z2*z2*z2 + 2*Y2*x1*x1*z1*z1*z1*z1*z1*z1*z1*z2*z2*z2*z2*z2*z2 + 3*X2*X2*Y1*z1*z1*z1*z1*z2*z2*z2*z2*z2 - 3*X2*X2*l*l*l*z1*z1*z1*z1*z1*z1*z1*z2*z2*z2*z2*z2 + 6*X2*X2*l*x1*z1*z1*z1*z1*z1*z1*z1*z2*z2*z2*z2*z2 + 3*X2*X2*l*x2*z1*z1*z1*z1*z1*z1*z1*z2*z2*z2*z2*z2 - 3*X2*X2*y1*z1*z1*z1*z1*z1*z1*z1*z2*z2*z2*z2*z2 + 3*X2*X1*l*l*l*z1*z1*z1*z1*z1*z2*z2*z2*z2*z2*z2*z2 - 6*X2*X1*l*x1*z1*z1*z1*z1*z1*z2*z2*z2*z2*z2*z2*z2 - 3*X2*X1*l*x2*z1*z1*z1*z1*z1*z2*z2*z2*z2*z2*z2*z2 + 3*X2*X1*y1*z1*z1*z1*z1*z1*z2*z2*z2*z2*z2*z2*z2 + 3*X2*l*l*l*x1*z1*z1*z1*z1*z1*z1*z1*z2*z2*z2*z2*z2*z2*z2 - 6*X2*l*x1*x1*z1*z1*z1*z1*z1*z1*z1*z2*z2*z2*z2*z2*z2*z2 - 3*X2*l*x1*x2*z1*z1*z1*z1*z1*z1*z1*z2*z2*z2*z2*z2*z2*z2 + 3*X2*y1*x1*z1*z1*z1*z1*z1*z1*z1*z2*z2*z2*z2*z2*z2*z2 - Y1*X1*X1*z2*z2*z2*z2*z2*z2*z2*z2*z2 - Y1*X1*x1*z1*z1*z2*z2*z2*z2*z2*z2*z2*z2*z2 - Y1*x1*x1*z1*z1*z1*z1*z2*z2*z2*z2*z2*z2*z2*z2*z2 - X1*X1*l*l*l*z1*z1*z1*z2*z2*z2*z2*z2*z2*z2*z2*z2 + 2*X1*X1*l*x1*z1*z1*z1*z2*z2*z2*z2*z2*z2*z2*z2*z2 + X1*X1*l*x2*z1*z1*z1*z2*z2*z2*z2*z2*z2*z2*z2*z2 - X1*X1*y1*z1*z1*z1*z2*z2*z2*z2*z2*z2*z2*z2*z2 - X1*l*l*l*x1*z1*z1*z1*z1*z1*z2*z2*z2*z2*z2*z2*z2*z2*z2 + 2*X1*l*x1*x1*z1*z1*z1*z1*z1*z2*z2*z2*z2*z2*z2*z2*z2*z2 + X1*l*x1*x2*z1*z1*z1*z1*z1*z2*z2*z2*z2*z2*z2*z2*z2*z2 - X1*y1*x1*z1*z1*z1*z1*z1*z2*z2*z2*z2*z2*z2*z2*z2*z2 - l*l*l*x1*x1*z1*z1*z1*z1*z1*z1*z1*z2*z2*z2*z2*z2*z2*z2*z2*z2 + 2*l*x1*x1*x1*z1*z1*z1*z1*z1*z1*z1*z2*z2*z2*z2*z2*z2*z2*z2*z2 + l*x1*x1*x2*z1*z1*z1*z1*z1*z1*z1*z2*z2*z2*z2*z2*z2*z2*z2*z2 - y1*x1*x1*z1*z1*z1*z1*z1*z1*z1*z2*z2*z2*z2*z2*z2*z2*z2*z2) h26 (dc (3*Y2*Y2*z1*z1*z1*z1*z1*z1*z2*z2*z2 - 3*Y2*Y1*z1*z1*z1*z2*z2*z2*z2*z2*z2 - 3*Y2*y1*z1*z1*z1*z1*z1*z1*z2*z2*z2*z2*z2*z2 - 2*X2*X2*X2*z1*z1*z1*z1*z1*z1*z2*z2*z2 + 3*X2*X2*x1*z1*z1*z1*z1*z1*z1*z2*z2*z2*z2*z2 + Y1*Y1*z2*z2*z2*z2*z2*z2*z2*z2*z2 + Y1*y1*z1*z1*z1*z2*z2*z2*z2*z2*z2*z2*z2*z2 - x1*x1*x1*z1*z1*z1*z1*z1*z1*z2*z2*z2*z2*z2*z2*z2*z2*z2 + y1*y1*z1*z1*z1*z1*z1*z1*z2*z2*z2*z2*z2*z2*z2*z2*z2) h27 (dc (Y2*X2*X2*z1*z1*z1*z1*z1*z1*z1*z1*z1 + Y2*X2*x2*z1*z1*z1*z1*z1*z1*z1*z1*z1*z2*z2 - 3*Y2*x1*x1*z1*z1*z1*z1*z1*z1*z1*z1*z1*z2*z2*z2*z2 + Y2*x2*x2*z1*z1*z1*z1*z1*z1*z1*z1*z1*z2*z2*z2*z2 + X2*X2*l*l*l*z1*z1*z1*z1*z1*z1*z1*z1*z1*z2*z2*z2 - 2*X2*X2*l*x1*z1*z1*z1*z1*z1*z1*z1*z1*z1*z2*z2*z2 - X2*X2*l*x2*z1*z1*z1*z1*z1*z1*z1*z1*z1*z2*z2*z2 - X2*X2*y1*z1*z1*z1*z1*z1*z1*z1*z1*z1*z2*z2*z2 - 3*X2*l*l*l*x1*z1*z1*z1*z1*z1*z1*z1*z1*z1*z2*z2*z2*z2*z2 + X2*l*l*l*x2*z1*z1*z1*z1*z1*z1*z1*z1*z1*z2*z2*z2*z2*z2 + 6*X2*l*x1*x1*z1*z1*z1*z1*z1*z1*z1*z1*z1*z2*z2*z2*z2*z2 + X2*l*x1*x2*z1*z1*z1*z1*z1*z1*z1*z1*z1*z2*z2*z2*z2*z2 - X2*l*x2*x2*z1*z1*z1*z1*z1*z1*z1*z1*z1*z2*z2*z2*z2*z2 - X2*y1*x2*z1*z1*z1*z1*z1*z1*z1*z1*z1*z2*z2*z2*z2*z2 + 3*l*l*l*x1*x1*z1*z1*z1*z1*z1*z1*z1*z1*z1*z2*z2*z2*z2*z2*z2*z2 - 3*l*l*l*x1*x2*z1*z1*z1*z1*z1*z1*z1*z1*z1*z2*z2*z2*z2*z2*z2*z2 + l*l*l*x2*x2*z1*z1*z1*z1*z1*z1*z1*z1*z1*z2*z2*z2*z2*z2*z2*z2 - 6*l*x1*x1*x1*z1*z1*z1*z1*z1*z1*z1*z1*z1*z2*z2*z2*z2*z2*z2*z2 + 3*l*x1*x1*x2*z1*z1*z1*z1*z1*z1*z1*z1*z1*z2*z2*z2*z2*z2*z2*z2 + l*x1*x2*x2*z1*z1*z1*z1*z1*z1*z1*z1*z1*z2*z2*z2*z2*z2*z2*z2 - l*x2*x2*x2*z1*z1*z1*z1*z1*z1*z1*z1*z1*z2*z2*z2*z2*z2*z2*z2 + 3*y1*x1*x1*z1*z1*z1*z1*z1*z1*z1*z1*z1*z2*z2*z2*z2*z2*z2*z2 - y1*x2*x2*z1*z1*z1*z1*z1*z1*z1*z1*z1*z2*z2*z2*z2*z2*z2*z2) h28 (dc (-Y2*Y2*z1*z1*z1*z1*z1*z1*z1*z1*z1 + Y2*l*x1*z1*z1*z1*z1*z1*z1*z1*z1*z1*z2*z2*z2 - Y2*l*x2*z1*z1*z1*z1*z1*z1*z1*z1*z1*z2*z2*z2 + 2*Y2*y1*z1*z1*z1*z1*z1*z1*z1*z1*z1*z2*z2*z2 - l*l*x1*x1*z1*z1*z1*z1*z1*z1*z1*z1*z1*z2*z2*z2*z2*z2*z2 + 2*l*l*x1*x2*z1*z1*z1*z1*z1*z1*z1*z1*z1*z2*z2*z2*z2*z2*z2 - l*l*x2*x2*z1*z1*z1*z1*z1*z1*z1*z1*z1*z2*z2*z2*z2*z2*z2 - y1*l*x1*z1*z1*z1*z1*z1*z1*z1*z1*z1*z2*z2*z2*z2*z2*z2 + 2*x1*x1*x1*z1*z1*z1*z1*z1*z1*z1*z1*z1*z2*z2*z2*z2*z2*z2 + y1*l*x2*z1*z1*z1*z1*z1*z1*z1*z1*z1*z2*z2*z2*z2*z2*z2 - 3*x1*x1*x2*z1*z1*z1*z1*z1*z1*z1*z1*z1*z2*z2*z2*z2*z2*z2 + x2*x2*x2*z1*z1*z1*z1*z1*z1*z1*z1*z1*z2*z2*z2*z2*z2*z2 - y1*y1*z1*z1*z1*z1*z1*z1*z1*z1*z1*z2*z2*z2*z2*z2*z2) h29 (dz p))))))))))))))))))))))))))))))) (by clear h0 h1 h2 h3 h4 h5 h6 h7 h8 h9 h10 h11 h12 h13 h14 h15 h16 h17 h18 h19 h20 h21 h22 h23 h24 h25 h26 h27 h28 h29; grind)
theorem nar_x {p x3 s2 X x z i : Int} (h0 : p ∣ x3-(X*s2)) (h1 : p ∣ s2-(i*i)) (h2 : p ∣ X-x*(z*z)) (h3 : p ∣ z*i-1) : p ∣ (x3-x) :=
  dk (dc (1) h0 (dc (X) h1 (dc (i*i) h2 (dc (x*z*i + x) h3 (dz p))))) (by clear h0 h1 h2 h3; grind)
theorem nar_y {p y3 s3 s2 Y y z i : Int} (h0 : p ∣ y3-(Y*s3)) (h1 : p ∣ s3-(s2*i)) (h2 : p ∣ s2-(i*i)) (h3 : p ∣ Y-y*(z*z*z)) (h4 : p ∣ z*i-1) : p ∣ (y3-y) :=
  dk (dc (1) h0 (dc (Y) h1 (dc (Y*i) h2 (dc (i*i*i) h3 (dc (y*z*z*i*i + y*z*i + y) h4 (dz p)))))) (by clear h0 h1 h2 h3 h4; grind)
theorem tan_b {p s x3 xx dx x y iv : Int} (h0 : p ∣ s-(x3*iv)) (h1 : p ∣ x3-(3*xx)) (h2 : p ∣ xx-(x*x)) (h3 : p ∣ dx-(y+y)) (h4 : p ∣ dx*iv-1) : p ∣ (s*(y+y)-(x*x+x*x+x*x)) :=
  dk (dc (2*y) h0 (dc (2*y*iv) h1 (dc (6*y*iv) h2 (dc (-3*x*x*iv) h3 (dc (3*x*x) h4 (dz p)))))) (by clear h0 h1 h2 h3 h4; grind)
theorem cho_a {p s dy dx x1 x2 y1 y2 iv : Int} (h0 : p ∣ s-(dy*iv)) (h1 : p ∣ dy-(y2-y1)) (h2 : p ∣ dx-(x2-x1)) (h3 : p ∣ dx*iv-1) : p ∣ (s*(x1-x2)-(y1-y2)) :=
  dk (dc (x1 - x2) h0 (dc (x1*iv - x2*iv) h1 (dc (-y1*iv + y2*iv) h2 (dc (y1 - y2) h3 (dz p))))) (by clear h0 h1 h2 h3; grind)
theorem thd_y {p y3 e d x y1 x1 t : Int} (h0 : p ∣ y3-(e-y1)) (h1 : p ∣ e-(t*d)) (h2 : p ∣ d-(x1-x)) : p ∣ (y3-(t*(x1-x)-y1)) :=
  dk (dc (1) h0 (dc (1) h1 (dc (t) h2 (dz p)))) (by clear h0 h1 h2; grind)
theorem thd_x {p x d a x1 x2 t : Int} (h0 : p ∣ x-(d-x2)) (h1 : p ∣ d-(a-x1)) (h2 : p ∣ a-(t*t)) : p ∣ (x-(t*t-x1-x2)) :=
  dk (dc (1) h0 (dc (1) h1 (dc (1) h2 (dz p)))) (by clear h0 h1 h2; grind)
theorem cv_of {p z xxx xx y x b : Int} (h0 : p ∣ z-(y*y)) (h1 : p ∣ z-(xxx+b)) (h2 : p ∣ xxx-(xx*x)) (h3 : p ∣ xx-(x*x)) : p ∣ (y*y-x*x*x-b) :=
  dk (dc (-1) h0 (dc (1) h1 (dc (1) h2 (dc (x) h3 (dz p))))) (by clear h0 h1 h2 h3; grind)
theorem cv_to {p u z xxx xx y x b : Int} (h0 : p ∣ u-(y*y)) (h1 : p ∣ z-(xxx+b)) (h2 : p ∣ xxx-(xx*x)) (h3 : p ∣ xx-(x*x)) (h4 : p ∣ y*y-x*x*x-b) : p ∣ (u-z) :=
  dk (dc (1) h0 (dc (-1) h1 (dc (-1) h2 (dc (-x) h3 (dc (1) h4 (dz p)))))) (by clear h0 h1 h2 h3 h4; grind)
end Go.Proofs.Ytkedomfjjahjnaa

namespace Go.Proofs.Ytkedomfjjahjnaa
open Sx Go
abbrev Sm (p : Nat) : Prop := 0 < p ∧ p < 57896044618658097711785492504343953926634992332820282019728792003956564819968
theorem dv_r {p a b : Int} (h2 : p ∣ a) (h1 : p ∣ a - b) : p ∣ b := by
  obtain ⟨k, hk⟩ := h1
  obtain ⟨m, hm⟩ := h2
  exact ⟨m - k, by rw [Int.mul_sub]; omega⟩
theorem md_c {p : Nat} (n : Nat) : (p : Int) ∣ ((n % p : Nat) : Int) - (n : Int) := by
  have := Nat.div_add_mod n p
  refine ⟨-((n / p : Nat) : Int), ?_⟩
  have h : ((p * (n / p) + n % p : Nat) : Int) = (n : Int) := by rw [this]
  rw [Int.natCast_add, Int.natCast_mul] at h
  rw [Int.mul_neg]
  omega
variable {p : Nat}
theorem mulP_c (hp : Sm p) (a b : Elem) : (p : Int) ∣ ((mulP p a b).nat : Int) - ((a.nat : Int) * (b.nat : Int)) := by
  have e : (mulP p a b).nat = a.nat * b.nat % p := rem_nat hp
  rw [e]
  have := md_c (p := p) (a.nat * b.nat)
  rwa [Int.natCast_mul] at this
theorem addP_c (hp : Sm p) (a b : Elem) : (p : Int) ∣ ((addP p a b).nat : Int) - ((a.nat : Int) + (b.nat : Int)) := by
  have e : (addP p a b).nat = (a.nat + b.nat) % p := rem_nat hp
  rw [e]
  have := md_c (p := p) (a.nat + b.nat)
  rwa [Int.natCast_add] at this
theorem negP_c (hp : Sm p) (a : Elem) : (p : Int) ∣ ((negP p a).nat : Int) - -(a.nat : Int) := by
  have e : (negP p a).nat = (p - a.nat % p) % p := rem_nat hp
  rw [e]
  obtain ⟨k, hk⟩ := md_c (p := p) (p - a.nat % p)
  obtain ⟨m, hm⟩ := md_c (p := p) a.nat
  have hlt := Nat.mod_lt a.nat hp.1
  have e2 : ((p - a.nat % p : Nat) : Int) = (p : Int) - ((a.nat % p : Nat) : Int) := by omega
  rw [e2] at hk
  generalize (((p - a.nat % p) % p : Nat) : Int) = u at *
  generalize ((a.nat % p : Nat) : Int) = v at *
  exact ⟨k + 1 - m, by grind⟩
theorem subP_c (hp : Sm p) (a b : Elem) : (p : Int) ∣ ((subP p a b).nat : Int) - ((a.nat : Int) - (b.nat : Int)) := by
  obtain ⟨k, hk⟩ := addP_c hp a (negP p b)
  obtain ⟨m, hm⟩ := negP_c hp b
  unfold subP
  generalize ((addP p a (negP p b)).nat : Int) = u at *
  exact ⟨k + m, by grind⟩
theorem mulP_lt (hp : Sm p) (a b : Elem) : (mulP p a b).nat < p := by
  rw [show (mulP p a b).nat = a.nat * b.nat % p from rem_nat hp]
  exact Nat.mod_lt _ hp.1
theorem addP_lt (hp : Sm p) (a b : Elem) : (addP p a b).nat < p := by
  rw [show (addP p a b).nat = (a.nat + b.nat) % p from rem_nat hp]
  exact Nat.mod_lt _ hp.1
theorem subP_lt (hp : Sm p) (a b : Elem) : (subP p a b).nat < p := addP_lt hp _ _
theorem negP_lt (hp : Sm p) (a : Elem) : (negP p a).nat < p := by
  rw [show (negP p a).nat = (p - a.nat % p) % p from rem_nat hp]
  exact Nat.mod_lt _ hp.1
theorem inv0_c (hp : Sm p) (pr : Pr p) {z : Elem} (hz : ¬ (p : Int) ∣ (z.nat : Int)) : (p : Int) ∣ (z.nat : Int) * ((inv0 p z).nat : Int) - 1 := by
  have h2 := pr.1
  have hz' : ¬ p ∣ z.nat := fun h => hz (Int.natCast_dvd_natCast.2 h)
  have e : Nat.beq (z.nat % p) 0 = false := by
    cases h : Nat.beq (z.nat % p) 0
    · rfl
    · exact absurd (Nat.dvd_of_mod_eq_zero (Nat.eq_of_beq_eq_true h)) hz'
  have e2 : (inv0 p z).nat = z.nat ^ (p - 2) % p := by
    unfold inv0 invP
    rw [e]
    simp only [cond_false]
    have hb : p - 2 < 2 ^ 256 := by have := hp.2; omega
    rw [powM_eq 256 1 _ _ hb (by omega), Nat.one_mul, ← Nat.pow_mod]
    exact rem_nat hp
  rw [e2]
  have hf := fermat pr hz'
  have e3 : z.nat ^ (p - 1) = z.nat * z.nat ^ (p - 2) := by
    rw [show p - 1 = (p - 2) + 1 by omega, Nat.pow_succ, Nat.mul_comm]
  rw [e3] at hf
  obtain ⟨k, hk⟩ := md_c (p := p) (z.nat ^ (p - 2))
  obtain ⟨m, hm⟩ := md_c (p := p) (z.nat * z.nat ^ (p - 2))
  rw [hf] at hm
  rw [Int.natCast_mul] at hm
  generalize ((z.nat ^ (p - 2) % p : Nat) : Int) = u at *
  generalize ((z.nat ^ (p - 2) : Nat) : Int) = v at *
  have hm : (1 : Int) - (z.nat : Int) * v = (p : Int) * m := hm
  exact ⟨(z.nat : Int) * k - m, by grind⟩
def toQ (P : Pt) : PtQ := cond P.2.2 none (some (P.1.nat, P.2.1.nat))
theorem lineP_thd (hp : Sm p) (X Y X2 s : Elem) : Thd p X.nat Y.nat X2.nat s.nat (lineP p X Y X2 s).1.nat (lineP p X Y X2 s).2.1.nat := by
  unfold lineP
  dsimp only
  have h1 := mulP_c hp s s
  have h2 := subP_c hp (mulP p s s) X
  have h3 := subP_c hp (subP p (mulP p s s) X) X2
  generalize subP p (subP p (mulP p s s) X) X2 = x3 at *
  have h4 := subP_c hp X x3
  have h5 := mulP_c hp s (subP p X x3)
  have h6 := subP_c hp (mulP p s (subP p X x3)) Y
  exact ⟨thd_x h3 h2 h1, thd_y h6 h5 h4⟩
theorem line_sum {b : Nat} (c : Cur p b) (hp : Sm p) {X Y X2 Y2 s : Elem} (hP : OnQ p b (some (X.nat, Y.nat))) (hR : OnQ p b (some (X2.nat, Y2.nat))) (hl : Lin p X.nat Y.nat X2.nat Y2.nat s.nat) :
    toQ (lineP p X Y X2 s) = addQ p (some (X.nat, Y.nat)) (some (X2.nat, Y2.nat)) := by
  have h := lineP_thd hp X Y X2 s
  exact (sum_of c (P := (X.nat, Y.nat)) (R := (X2.nat, Y2.nat)) (S := ((lineP p X Y X2 s).1.nat, (lineP p X Y X2 s).2.1.nat)) hP hR hl (subP_lt hp _ _) (subP_lt hp _ _) h).symm
theorem three_nat : (Elem.mk 3 0 0 0).nat = 3 := by decide
theorem sum_toQ {b : Nat} (c : Cur p b) (hp : Sm p) {P R : Pt} (hP : OnQ p b (toQ P)) (hR : OnQ p b (toQ R)) : toQ (sumPt p P R) = addQ p (toQ P) (toQ R) := by
  obtain ⟨X, Y, i⟩ := P
  obtain ⟨X2, Y2, j⟩ := R
  cases i
  · cases j
    · have hP' : OnQ p b (some (X.nat, Y.nat)) := hP
      have hR' : OnQ p b (some (X2.nat, Y2.nat)) := hR
      have n1 : ¬ (p : Int) ∣ (Y.nat : Int) := c.yne hP'.2.2
      show toQ (sumPt p (X, Y, false) (X2, Y2, false)) = addQ p (some (X.nat, Y.nat)) (some (X2.nat, Y2.nat))
      rcases (Bool.eq_false_or_eq_true (eqE X X2)).symm with h | h
      · have e : sumPt p (X, Y, false) (X2, Y2, false) = lineP p X Y X2 (byP p (subP p Y2 Y) (subP p X2 X)) := by unfold sumPt; simp only [cond_false, h]
        rw [e]
        refine line_sum c hp hP' hR' ?_
        have hx : X.nat ≠ X2.nat := fun e => by rw [nat_inj e, eqE_self] at h; cases h
        have hd := subP_c hp X2 X
        have hn : ¬ (p : Int) ∣ ((subP p X2 X).nat : Int) := fun hn => by
          obtain ⟨k, hk⟩ := hd
          obtain ⟨m, hm⟩ := hn
          exact hx (same_of hP'.1 hR'.1 ⟨k - m, by grind⟩)
        have hi := inv0_c hp c.pr hn
        have hm := mulP_c hp (subP p Y2 Y) (inv0 p (subP p X2 X))
        have hy := subP_c hp Y2 Y
        unfold byP
        generalize subP p X2 X = dx at *
        generalize inv0 p dx = iv at *
        generalize subP p Y2 Y = dy at *
        generalize mulP p dy iv = s at *
        have ha : (p : Int) ∣ (s.nat : Int) * ((X.nat : Int) - X2.nat) - ((Y.nat : Int) - Y2.nat) := cho_a hm hy hd hi
        refine ⟨ha, ?_⟩
        have hn' : ¬ (p : Int) ∣ (X.nat : Int) - X2.nat := fun hh => hx (same_of hP'.1 hR'.1 hh)
        have hc1 : (p : Int) ∣ (Y.nat : Int) * Y.nat - X.nat * X.nat * X.nat - b := hP'.2.2
        have hc2 : (p : Int) ∣ (Y2.nat : Int) * Y2.nat - X2.nat * X2.nat * X2.nat - b := hR'.2.2
        exact (c.pr.euclidZ (chord_b hc1 hc2 ha)).resolve_left hn'
      · rcases (Bool.eq_false_or_eq_true (eqE Y Y2)).symm with h2 | h2
        · have e : sumPt p (X, Y, false) (X2, Y2, false) = inftyP := by unfold sumPt; simp only [cond_false, cond_true, h, h2]
          rw [e]
          refine (if_pos ⟨?_, fun e => ?_⟩).symm
          · show X.nat = X2.nat
            rw [eqE_iff.1 h]
          · rw [nat_inj e, eqE_self] at h2
            cases h2
        · have e : sumPt p (X, Y, false) (X2, Y2, false) = lineP p X Y X2 (byP p (mulP p ⟨3, 0, 0, 0⟩ (mulP p X X)) (addP p Y Y)) := by unfold sumPt; simp only [cond_false, cond_true, h, h2]
          rw [e]
          refine line_sum c hp hP' hR' ?_
          obtain rfl := eqE_iff.1 h
          obtain rfl := eqE_iff.1 h2
          have hd := addP_c hp Y Y
          have hn : ¬ (p : Int) ∣ ((addP p Y Y).nat : Int) := fun hn => by
            obtain ⟨k, hk⟩ := hd
            obtain ⟨m, hm⟩ := hn
            rcases c.pr.euclidZ (a := 2) (b := (Y.nat : Int)) ⟨m - k, by grind⟩ with h | h
            · exact c.no2 h
            · exact n1 h
          have hi := inv0_c hp c.pr hn
          have hm := mulP_c hp (mulP p ⟨3, 0, 0, 0⟩ (mulP p X X)) (inv0 p (addP p Y Y))
          have h3 := mulP_c hp ⟨3, 0, 0, 0⟩ (mulP p X X)
          have h4 := mulP_c hp X X
          rw [three_nat] at h3
          unfold byP
          generalize addP p Y Y = dx at *
          generalize inv0 p dx = iv at *
          generalize mulP p X X = xx at *
          generalize mulP p ⟨3, 0, 0, 0⟩ xx = x3 at *
          generalize mulP p x3 iv = s at *
          exact ⟨⟨0, by rw [Int.sub_self, Int.sub_self, Int.mul_zero, Int.mul_zero]; rfl⟩, tan_b hm h3 h4 hd hi⟩
    · show toQ (sumPt p (X, Y, false) (X2, Y2, true)) = _
      have e : sumPt p (X, Y, false) (X2, Y2, true) = (X, Y, false) := by unfold sumPt; simp only [cond_false, cond_true]
      rw [e]
      rfl
  · have e : sumPt p (X, Y, true) (X2, Y2, j) = (X2, Y2, j) := by unfold sumPt; simp only [cond_true]
    rw [e]
    rfl
theorem two_nat : (Elem.mk 2 0 0 0).nat = 2 := by decide
theorem four_nat : (Elem.mk 4 0 0 0).nat = 4 := by decide
theorem eight_nat : (Elem.mk 8 0 0 0).nat = 8 := by decide
theorem one_nat : (Elem.mk 1 0 0 0).nat = 1 := by decide
theorem nought_nat : (Elem.mk 0 0 0 0).nat = 0 := by decide
def RepW (p : Nat) (w : Wide) : PtQ → Prop
  | none => w.2.2.nat = 0
  | some P => w.2.2.nat < p ∧ ¬ (p : Int) ∣ (w.2.2.nat : Int) ∧ (p : Int) ∣ (w.1.nat : Int) - (P.1 : Int) * ((w.2.2.nat : Int) * (w.2.2.nat : Int)) ∧
      (p : Int) ∣ (w.2.1.nat : Int) - (P.2 : Int) * ((w.2.2.nat : Int) * (w.2.2.nat : Int) * (w.2.2.nat : Int))
theorem zero_of {e : Elem} (h : e.nat = 0) : zeroE e = true := by rw [zeroE_nat, h]; rfl
theorem zero_not {e : Elem} (h : ¬ (p : Int) ∣ (e.nat : Int)) : zeroE e = false := by
  rw [zeroE_nat]
  cases hb : Nat.beq e.nat 0
  · rfl
  · exact absurd ⟨0, by rw [Nat.eq_of_beq_eq_true hb]; rfl⟩ h
variable {b : Nat}
theorem dbl_rep (c : Cur p b) (hp : Sm p) {w : Wide} {P : PtQ} (hP : OnQ p b P) (h : RepW p w P) : RepW p (dblW p w) (addQ p P P) := by
  obtain ⟨X, Y, Z⟩ := w
  cases P with
  | none =>
    have e : dblW p (X, Y, Z) = (X, Y, Z) := by unfold dblW; rw [zero_of (e := Z) h]; rfl
    rw [e]
    exact h
  | some P =>
    obtain ⟨hz, hzn, hX, hY⟩ := h
    have e : dblW p (X, Y, Z) = dblN p X Y Z := by unfold dblW; rw [zero_not (e := Z) hzn]; rfl
    rw [e]
    cases hs : addQ p (some P) (some P) with
    | none =>
      have : addQ p (some P) (some P) = some (thirdQ p P P (slopeQ p P P)) := if_neg fun h => h.2 rfl
      rw [this] at hs
      cases hs
    | some S =>
      obtain ⟨hS1, hS2, l, hl, ht⟩ := of_sum c hP hP hs
      have hyy := mulP_c hp Y Y
      have ha := mulP_c hp X (mulP p Y Y)
      have hs := mulP_c hp (mulP p X (mulP p Y Y)) ⟨4, 0, 0, 0⟩
      have hb := mulP_c hp X X
      have hm := mulP_c hp (mulP p X X) ⟨3, 0, 0, 0⟩
      unfold dblN timesP
      dsimp only
      rw [four_nat] at hs
      rw [three_nat] at hm
      generalize mulP p (mulP p X X) ⟨3, 0, 0, 0⟩ = m at *
      generalize mulP p (mulP p X (mulP p Y Y)) ⟨4, 0, 0, 0⟩ = s at *
      have hmm := mulP_c hp m m
      have hs2 := mulP_c hp s ⟨2, 0, 0, 0⟩
      rw [two_nat] at hs2
      have hx3 := subP_c hp (mulP p m m) (mulP p s ⟨2, 0, 0, 0⟩)
      generalize subP p (mulP p m m) (mulP p s ⟨2, 0, 0, 0⟩) = x3 at *
      have hd := subP_c hp s x3
      have hmd := mulP_c hp m (subP p s x3)
      have hy4 := mulP_c hp (mulP p Y Y) (mulP p Y Y)
      have hy8 := mulP_c hp (mulP p (mulP p Y Y) (mulP p Y Y)) ⟨8, 0, 0, 0⟩
      rw [eight_nat] at hy8
      have hy3 := subP_c hp (mulP p m (subP p s x3)) (mulP p (mulP p (mulP p Y Y) (mulP p Y Y)) ⟨8, 0, 0, 0⟩)
      have hyz := mulP_c hp Y Z
      have hz3 := mulP_c hp (mulP p Y Z) ⟨2, 0, 0, 0⟩
      rw [two_nat] at hz3
      have hzz := dbl_z hz3 hyz hY
      refine ⟨mulP_lt hp _ _, fun hn => ?_, dbl_x ht.x hl.b hz3 hyz hx3 hs2 hmm hm hb hs ha hyy hX hY, dbl_y ht.y ht.x hl.b hz3 hyz hy3 hy8 hy4 hmd hd hx3 hs2 hmm hm hb hs ha hyy hX hY⟩
      have h2 : (p : Int) ∣ 2 * ((P.2 : Int) * ((Z.nat : Int) * ((Z.nat : Int) * ((Z.nat : Int) * Z.nat)))) := dv_r hn hzz
      rcases c.pr.euclidZ h2 with h | h
      · exact c.no2 h
      · rcases c.pr.euclidZ h with h | h
        · exact c.yne hP.2.2 h
        · rcases c.pr.euclidZ h with h | h
          · exact hzn h
          · rcases c.pr.euclidZ h with h | h
            · exact hzn h
            · rcases c.pr.euclidZ h with h | h <;> exact hzn h
end Go.Proofs.Ytkedomfjjahjnaa

namespace Go.Proofs.Ytkedomfjjahjnaa
open Sx Go
theorem add_rep {p b : Nat} (c : Cur p b) (hp : Sm p) {w v : Wide} {P R : PtQ} (hP : OnQ p b P) (hR : OnQ p b R) (h : RepW p w P) (k : RepW p v R) : RepW p (addW p w v) (addQ p P R) := by
  obtain ⟨X1, Y1, Z1⟩ := w
  obtain ⟨X2, Y2, Z2⟩ := v
  cases P with
  | none =>
    have e : addW p (X1, Y1, Z1) (X2, Y2, Z2) = (X2, Y2, Z2) := by unfold addW; rw [zero_of (e := Z1) h]; rfl
    rw [e]
    exact k
  | some P =>
  cases R with
  | none =>
    have e : addW p (X1, Y1, Z1) (X2, Y2, Z2) = (X1, Y1, Z1) := by unfold addW; rw [zero_not (e := Z1) h.2.1, zero_of (e := Z2) k]; rfl
    rw [e]
    exact h
  | some R =>
    have hw := h
    obtain ⟨hz, hzn, hX, hY⟩ := h
    obtain ⟨kz, kzn, kX, kY⟩ := k
    have e : addW p (X1, Y1, Z1) (X2, Y2, Z2) = addL p (X1, Y1, Z1) (X2, Y2, Z2) := by unfold addW; rw [zero_not (e := Z1) hzn, zero_not (e := Z2) kzn]; rfl
    rw [e]
    unfold addL
    dsimp only at *
    have hpz := mulP_c hp Z1 Z1
    have hqz := mulP_c hp Z2 Z2
    have hu := mulP_c hp X1 (mulP p Z2 Z2)
    have hq3 := mulP_c hp (mulP p Z2 Z2) Z2
    have hs := mulP_c hp Y1 (mulP p (mulP p Z2 Z2) Z2)
    have hv := mulP_c hp X2 (mulP p Z1 Z1)
    have hp3 := mulP_c hp (mulP p Z1 Z1) Z1
    have ht := mulP_c hp Y2 (mulP p (mulP p Z1 Z1) Z1)
    generalize mulP p X1 (mulP p Z2 Z2) = u at *
    generalize mulP p Y1 (mulP p (mulP p Z2 Z2) Z2) = s at *
    generalize mulP p X2 (mulP p Z1 Z1) = v at *
    generalize mulP p Y2 (mulP p (mulP p Z1 Z1) Z1) = t at *
    have hh := subP_c hp v u
    have hr := subP_c hp t s
    have lh := subP_lt hp v u
    have lr := subP_lt hp t s
    generalize subP p v u = H at *
    generalize subP p t s = r at *
    have ah := add_h hh hv hu hqz hpz hX kX
    have ar := add_r hr ht hp3 hs hq3 hqz hpz hY kY
    have out : ∀ {a z : Int}, ¬ (p : Int) ∣ z → (p : Int) ∣ a * z → (p : Int) ∣ a := fun hz h => (c.pr.euclidZ h).resolve_right hz
    have mul : ∀ {a z : Int}, ¬ (p : Int) ∣ a → ¬ (p : Int) ∣ z → ¬ (p : Int) ∣ a * z := fun ha hz h => (c.pr.euclidZ h).elim ha hz
    have n4 := mul (mul hzn hzn) (mul kzn kzn)
    have n6 := mul (mul (mul hzn hzn) hzn) (mul (mul kzn kzn) kzn)
    unfold addM
    rcases (Bool.eq_false_or_eq_true (zeroE H)).symm with h1 | h1
    · rw [h1]
      simp only [cond_false]
      have hHn : ¬ (p : Int) ∣ (H.nat : Int) := fun hd => by
        rw [zeroE_nat] at h1
        have := Nat.eq_zero_of_dvd_of_lt (Int.natCast_dvd_natCast.1 hd) lh
        rw [this] at h1
        cases h1
      have hxn : P.1 ≠ R.1 := fun hx => hHn (by
        rw [hx, Int.sub_self, Int.zero_mul, Int.sub_zero] at ah
        exact ah)
      cases hS : addQ p (some P) (some R) with
      | none =>
        have : addQ p (some P) (some R) = some (thirdQ p P R (slopeQ p P R)) := if_neg fun h => hxn h.1
        rw [this] at hS
        cases hS
      | some S =>
        obtain ⟨hS1, hS2, l, hl, hT⟩ := of_sum c hP hR hS
        unfold addN timesP
        dsimp only
        have hhh := mulP_c hp H H
        have hhhh := mulP_c hp (mulP p H H) H
        have hcc := mulP_c hp u (mulP p H H)
        have hrr := mulP_c hp r r
        have hrh := subP_c hp (mulP p r r) (mulP p (mulP p H H) H)
        have hc2 := mulP_c hp (mulP p u (mulP p H H)) ⟨2, 0, 0, 0⟩
        rw [two_nat] at hc2
        have hx3 := subP_c hp (subP p (mulP p r r) (mulP p (mulP p H H) H)) (mulP p (mulP p u (mulP p H H)) ⟨2, 0, 0, 0⟩)
        generalize subP p (subP p (mulP p r r) (mulP p (mulP p H H) H)) (mulP p (mulP p u (mulP p H H)) ⟨2, 0, 0, 0⟩) = x3 at *
        have hd := subP_c hp (mulP p u (mulP p H H)) x3
        have hrd := mulP_c hp r (subP p (mulP p u (mulP p H H)) x3)
        have hsh := mulP_c hp s (mulP p (mulP p H H) H)
        have hy3 := subP_c hp (mulP p r (subP p (mulP p u (mulP p H H)) x3)) (mulP p s (mulP p (mulP p H H) H))
        have hzz := mulP_c hp Z1 Z2
        have hz3 := mulP_c hp H (mulP p Z1 Z2)
        refine ⟨mulP_lt hp _ _, fun hn => ?_, add_x hT.x hl.a hz3 hzz hx3 hc2 hrh hrr hcc hhhh hhh hr ht hp3 hh hv hs hq3 hu hqz hpz hX hY kX kY,
          add_y hT.y hT.x hl.a hz3 hzz hy3 hsh hrd hd hx3 hc2 hrh hrr hcc hhhh hhh hr ht hp3 hh hv hs hq3 hu hqz hpz hX hY kX kY⟩
        have h2 := dv_r hn hz3
        rcases c.pr.euclidZ h2 with h | h
        · exact hHn h
        · have h3 := dv_r h hzz
          exact mul hzn kzn h3
    · rw [h1]
      simp only [cond_true]
      have hH : H.nat = 0 := by rw [zeroE_nat] at h1; exact Nat.eq_of_beq_eq_true h1
      have hx : P.1 = R.1 := by
        rw [hH] at ah
        have : (p : Int) ∣ ((R.1 : Int) - P.1) * ((Z1.nat : Int) * Z1.nat * (Z2.nat * Z2.nat)) := dv_r (Int.dvd_zero _) ah
        exact (same_of hR.1 hP.1 (out n4 this)).symm
      rcases (Bool.eq_false_or_eq_true (zeroE r)).symm with h2 | h2
      · rw [h2]
        simp only [cond_false]
        have hy : P.2 ≠ R.2 := fun hy => by
          rw [hy, Int.sub_self, Int.zero_mul, Int.sub_zero] at ar
          rw [zeroE_nat] at h2
          have := Nat.eq_zero_of_dvd_of_lt (Int.natCast_dvd_natCast.1 ar) lr
          rw [this] at h2
          cases h2
        have : addQ p (some P) (some R) = none := if_pos ⟨hx, hy⟩
        rw [this]
        exact nought_nat
      · rw [h2]
        simp only [cond_true]
        have hr0 : r.nat = 0 := by rw [zeroE_nat] at h2; exact Nat.eq_of_beq_eq_true h2
        have hy : P.2 = R.2 := by
          rw [hr0] at ar
          have : (p : Int) ∣ ((R.2 : Int) - P.2) * ((Z1.nat : Int) * Z1.nat * Z1.nat * (Z2.nat * Z2.nat * Z2.nat)) := dv_r (Int.dvd_zero _) ar
          exact (same_of hR.2.1 hP.2.1 (out n6 this)).symm
        have : R = P := by
          obtain ⟨P1, P2⟩ := P
          obtain ⟨R1, R2⟩ := R
          dsimp only at hx hy
          rw [hx, hy]
        rw [this]
        exact dbl_rep c hp hP hw
def Can (P : Pt) : Prop := P.2.2 = true → P = inftyP
theorem can_same {P R : Pt} (hP : Can P) (hR : Can R) (h : toQ P = toQ R) : P = R := by
  obtain ⟨X, Y, i⟩ := P
  obtain ⟨X2, Y2, j⟩ := R
  cases i <;> cases j
  · have h : some (X.nat, Y.nat) = some (X2.nat, Y2.nat) := h
    simp only [Option.some.injEq, Prod.mk.injEq] at h
    rw [nat_inj h.1, nat_inj h.2]
  · cases h
  · cases h
  · rw [hP rfl, hR rfl]
theorem narrow_rep {p b : Nat} (c : Cur p b) (hp : Sm p) {w : Wide} {P : PtQ} (hP : OnQ p b P) (h : RepW p w P) : toQ (narrowP p w) = P ∧ Can (narrowP p w) := by
  obtain ⟨X, Y, Z⟩ := w
  cases P with
  | none =>
    have e : narrowP p (X, Y, Z) = inftyP := by unfold narrowP; rw [zero_of (e := Z) h]; rfl
    rw [e]
    exact ⟨rfl, fun _ => rfl⟩
  | some P =>
    obtain ⟨hz, hzn, hX, hY⟩ := h
    have e : narrowP p (X, Y, Z) = narrowI p X Y (inv0 p Z) := by unfold narrowP; rw [zero_not (e := Z) hzn]; rfl
    rw [e]
    refine ⟨?_, fun h => by cases h⟩
    have hi := inv0_c hp c.pr hzn
    unfold narrowI
    have h2 := mulP_c hp (inv0 p Z) (inv0 p Z)
    have h3 := mulP_c hp (mulP p (inv0 p Z) (inv0 p Z)) (inv0 p Z)
    have hx := mulP_c hp X (mulP p (inv0 p Z) (inv0 p Z))
    have hy := mulP_c hp Y (mulP p (mulP p (inv0 p Z) (inv0 p Z)) (inv0 p Z))
    have ex := same_of (mulP_lt hp _ _) hP.1 (nar_x hx h2 hX hi)
    have ey := same_of (mulP_lt hp _ _) hP.2.1 (nar_y hy h3 h2 hY hi)
    show some ((mulP p X (mulP p (inv0 p Z) (inv0 p Z))).nat, (mulP p Y (mulP p (mulP p (inv0 p Z) (inv0 p Z)) (inv0 p Z))).nat) = some P
    rw [ex, ey]
theorem widen_rep {p b : Nat} (c : Cur p b) {P : Pt} : RepW p (widenP P) (toQ P) := by
  obtain ⟨X, Y, i⟩ := P
  cases i
  · have h1 := c.big
    refine ⟨?_, fun h => ?_, ?_, ?_⟩
    · show (Elem.mk 1 0 0 0).nat < p
      rw [one_nat]
      omega
    · have h : (p : Int) ∣ (((Elem.mk 1 0 0 0).nat : Nat) : Int) := h
      rw [one_nat] at h
      have := Int.le_of_dvd (by decide) h
      omega
    · show (p : Int) ∣ (X.nat : Int) - (X.nat : Int) * ((((Elem.mk 1 0 0 0).nat : Nat) : Int) * (((Elem.mk 1 0 0 0).nat : Nat) : Int))
      rw [one_nat]
      exact ⟨0, by simp⟩
    · show (p : Int) ∣ (Y.nat : Int) - (Y.nat : Int) * ((((Elem.mk 1 0 0 0).nat : Nat) : Int) * (((Elem.mk 1 0 0 0).nat : Nat) : Int) * (((Elem.mk 1 0 0 0).nat : Nat) : Int))
      rw [one_nat]
      exact ⟨0, by simp⟩
  · exact nought_nat
theorem can_line {p : Nat} (X Y X2 s : Elem) : Can (lineP p X Y X2 s) := fun h => by cases h
theorem can_sum {p : Nat} {P R : Pt} (hP : Can P) (hR : Can R) : Can (sumPt p P R) := by
  obtain ⟨X, Y, i⟩ := P
  obtain ⟨X2, Y2, j⟩ := R
  unfold sumPt
  cases i
  · cases j
    · simp only [cond_false]
      cases eqE X X2
      · exact can_line _ _ _ _
      · cases eqE Y Y2
        · exact fun _ => rfl
        · exact can_line _ _ _ _
    · exact hP
  · exact hR
theorem bitI_at (k : Elem) {n : Nat} (h : n < 256) : bitI k (255 - (n : Int)) = bitN k.nat (255 - n) := by
  unfold bitI
  rw [decide_eq_true (show (0 : Int) ≤ 255 - (n : Int) by omega), decide_eq_true (show (255 : Int) - (n : Int) < 256 by omega), show ((255 : Int) - (n : Int)).toNat = 255 - n by omega]
  rfl
theorem mul_walk {p b : Nat} (c : Cur p b) (hp : Sm p) (k : Elem) {P : Pt} (hP : OnQ p b (toQ P)) (hc : Can P) : ∀ n, n ≤ 256 →
    RepW p (upto (mulStep p k (widenP P)) wide0 n) (toQ (upto (refStep p k.nat P) inftyP n)) ∧ OnQ p b (toQ (upto (refStep p k.nat P) inftyP n)) ∧ Can (upto (refStep p k.nat P) inftyP n)
  | 0, _ => ⟨nought_nat, trivial, fun _ => rfl⟩
  | n + 1, h => by
    obtain ⟨h1, h2, h3⟩ := mul_walk c hp k hP hc n (by omega)
    show RepW p (mulStep p k (widenP P) n (upto (mulStep p k (widenP P)) wide0 n)) (toQ (refStep p k.nat P n (upto (refStep p k.nat P) inftyP n))) ∧ OnQ p b (toQ (refStep p k.nat P n (upto (refStep p k.nat P) inftyP n))) ∧ Can (refStep p k.nat P n (upto (refStep p k.nat P) inftyP n))
    generalize upto (mulStep p k (widenP P)) wide0 n = w at *
    generalize upto (refStep p k.nat P) inftyP n = Q at *
    have d1 := dbl_rep c hp h2 h1
    have d2 := sum_toQ c hp h2 h2
    have d3 := on_add c h2 h2
    rw [← d2] at d1 d3
    have d4 := can_sum (p := p) h3 h3
    unfold mulStep refStep
    rw [bitI_at k (by omega)]
    cases bitN k.nat (255 - n)
    · exact ⟨d1, d3, d4⟩
    · simp only [cond_true]
      have e2 := sum_toQ c hp d3 hP
      refine ⟨?_, ?_, can_sum d4 hc⟩
      · rw [e2]
        exact add_rep c hp d3 hP d1 (widen_rep c)
      · rw [e2]
        exact on_add c d3 hP
theorem no_cube {p b m : Nat} (pr : Pr p) (h3 : p = 3 * m + 1) (hb0 : 0 < b) (hb : b < p) (hm : Nat.blt m (2 ^ 256) = true) (hk : Nat.beq (pwm p (p - b) m) 1 = false) (x : Int) : ¬ (p : Int) ∣ x * x * x + b := fun hd => by
  have h2 := pr.1
  rw [pwm_eq h2 hm] at hk
  obtain ⟨k, hk1⟩ := hd
  obtain ⟨j, hj⟩ := nm_dvd pr.pos x
  have hn : p ∣ nm p x * nm p x * nm p x + b := Int.natCast_dvd_natCast.1 (by
    rw [Int.natCast_add, Int.natCast_mul, Int.natCast_mul]
    generalize ((nm p x : Nat) : Int) = n at *
    exact ⟨k + j * (n * n + n * x + x * x), by grind⟩)
  generalize nm p x = n at *
  have hpn : ¬ p ∣ n := fun hd => by
    have h1 : p ∣ n * n * n := Nat.dvd_trans hd (Nat.dvd_mul_left ..)
    have := (Nat.dvd_add_right h1).1 hn
    have := Nat.le_of_dvd hb0 this
    omega
  have hf := fermat pr hpn
  have e : n ^ 3 % p = (p - b) % p := by
    obtain ⟨c, hc⟩ := hn
    have hc0 : c ≠ 0 := fun e => by rw [e] at hc; omega
    obtain ⟨d, rfl⟩ : ∃ d, c = d + 1 := ⟨c - 1, by omega⟩
    have : n ^ 3 = (p - b) + p * d := by
      rw [show n ^ 3 = n * n * n by rw [Nat.pow_succ, Nat.pow_succ, Nat.pow_one]]
      rw [Nat.mul_succ] at hc
      omega
    rw [this, Nat.add_mul_mod_self_left]
  have : (p - b) ^ m % p = 1 := by
    rw [Nat.pow_mod, ← e, ← Nat.pow_mod, ← Nat.pow_mul, show 3 * m = p - 1 by omega]
    exact hf
  rw [this] at hk
  cases hk
theorem cur_of {s : Int} (h : sortOk s = true) : Cur (pS s) (bS s).nat := by
  rcases sortOk_cases h with rfl | rfl | rfl | rfl
  · have e : pS 0 = 16513537 := by decide +kernel
    have e2 : (bS 0).nat = 23 := by decide +kernel
    rw [e, e2]
    exact ⟨pr_16513537, by decide, no_cube (m := 5504512) pr_16513537 (by decide) (by decide) (by decide) (by decide +kernel) (by decide +kernel)⟩
  · have e : pS 1 = 16521217 := by decide +kernel
    have e2 : (bS 1).nat = 21 := by decide +kernel
    rw [e, e2]
    exact ⟨pr_16521217, by decide, no_cube (m := 5507072) pr_16521217 (by decide) (by decide) (by decide) (by decide +kernel) (by decide +kernel)⟩
  · have e : pS 2 = 28948022309329048855892746252171976963363056481941560715954676764349967630337 := by decide +kernel
    have e2 : (bS 2).nat = 5 := by decide +kernel
    rw [e, e2]
    exact ⟨pr_28948022309329048855892746252171976963363056481941560715954676764349967630337, by decide, no_cube (m := 9649340769776349618630915417390658987787685493980520238651558921449989210112) pr_28948022309329048855892746252171976963363056481941560715954676764349967630337 (by decide) (by decide) (by decide) (by decide +kernel) (by decide +kernel)⟩
  · have e : pS 3 = 28948022309329048855892746252171976963363056481941647379679742748393362948097 := by decide +kernel
    have e2 : (bS 3).nat = 5 := by decide +kernel
    rw [e, e2]
    exact ⟨pr_28948022309329048855892746252171976963363056481941647379679742748393362948097, by decide, no_cube (m := 9649340769776349618630915417390658987787685493980549126559914249464454316032) pr_28948022309329048855892746252171976963363056481941647379679742748393362948097 (by decide) (by decide) (by decide) (by decide +kernel) (by decide +kernel)⟩
theorem onB_parts {s : Int} {P : Pt} (h : onB s P = true) : sortOk s = true ∧ OnQ (pS s) (bS s).nat (toQ P) ∧ Can P := by
  have hs := onB_sort h
  have hp : Sm (pS s) := pS_pos hs
  obtain ⟨X, Y, i⟩ := P
  refine ⟨hs, ?_⟩
  unfold onB at h
  rw [hs] at h
  simp only [cond_true] at h
  cases i
  · simp only [cond_false] at h
    refine ⟨?_, fun h => by cases h⟩
    rcases (Bool.eq_false_or_eq_true (Nat.blt X.nat (pS s))).symm with h1 | h1
    · rw [h1] at h; cases h
    · rcases (Bool.eq_false_or_eq_true (Nat.blt Y.nat (pS s))).symm with h2 | h2
      · rw [h1, h2] at h; cases h
      · rw [h1, h2] at h
        simp only [cond_true] at h
        have e := eqE_iff.1 h
        have hx : X.nat < pS s := blt_of h1
        have hy : Y.nat < pS s := blt_of h2
        refine ⟨hx, hy, ?_⟩
        have e1 := mulP_c hp Y Y
        have e2 := mulP_c hp X X
        have e3 := mulP_c hp (mulP (pS s) X X) X
        have e4 := addP_c hp (mulP (pS s) (mulP (pS s) X X) X) (bS s)
        rw [e] at e1
        unfold cubeP at e1
        show ((pS s : Nat) : Int) ∣ (Y.nat : Int) * Y.nat - X.nat * X.nat * X.nat - (bS s).nat
        exact cv_of e1 e4 e3 e2
  · simp only [cond_true, Bool.and_eq_true] at h
    refine ⟨trivial, fun _ => ?_⟩
    have z : ∀ {e : Elem}, zeroE e = true → e = ⟨0, 0, 0, 0⟩ := fun {e} h => nat_inj (by rw [zeroE_nat] at h; rw [Nat.eq_of_beq_eq_true h]; exact nought_nat.symm)
    rw [z h.1, z h.2.1]
    rfl
theorem scal_same {s : Int} (h : sortOk s = true) (k : Elem) : (scalP s k).nat = (ofP (pS (ixor s 1)) k).nat := by
  have hp := pS_pos (sort_other h)
  unfold scalP
  rw [show (addP (pS (ixor s 1)) k ⟨0, 0, 0, 0⟩).nat = (k.nat + (Elem.mk 0 0 0 0).nat) % pS (ixor s 1) from rem_nat hp, nought_nat, Nat.add_zero]
  exact (rem_nat hp).symm
theorem mul_same (s : Int) (k : Elem) (P : Pt) : mulPt s k P = mulRef s k P := by
  unfold mulPt mulRef
  rcases (Bool.eq_false_or_eq_true (onB s P)).symm with h | h
  · rw [h]
    rfl
  · rw [h]
    simp only [cond_true]
    obtain ⟨hs, hP, hc⟩ := onB_parts h
    have c := cur_of hs
    have hp : Sm (pS s) := pS_pos hs
    obtain ⟨h1, h2, h3⟩ := mul_walk c hp (scalP s k) hP hc 256 (Nat.le_refl _)
    obtain ⟨n1, n2⟩ := narrow_rep c hp h2 h1
    rw [← scal_same hs]
    exact can_same n2 h3 n1
theorem add_same (s : Int) (P R : Pt) : addPt s P R = sumOn s P R := by
  unfold addPt sumOn
  rcases (Bool.eq_false_or_eq_true (onB s P)).symm with h | h
  · rw [h]
    rfl
  · rcases (Bool.eq_false_or_eq_true (onB s R)).symm with h' | h'
    · rw [h, h']
      rfl
    · rw [h, h']
      simp only [cond_true]
      obtain ⟨hs, hP, hc⟩ := onB_parts h
      obtain ⟨_, hR, hc'⟩ := onB_parts h'
      have c := cur_of hs
      have hp : Sm (pS s) := pS_pos hs
      obtain ⟨n1, n2⟩ := narrow_rep c hp (on_add c hP hR) (add_rep c hp hP hR (widen_rep c) (widen_rep c))
      refine can_same n2 (can_sum hc hc') ?_
      rw [n1, sum_toQ c hp hP hR]
end Go.Proofs.Ytkedomfjjahjnaa

namespace Go.Proofs.Ytkedomfjjahjnaa
open Sx Go
theorem mod_pow_mod (a n p : Nat) : (a % p) ^ n % p = a ^ n % p := (Nat.pow_mod a n p).symm
theorem mul_m {p a b c d : Nat} (h1 : a % p = c % p) (h2 : b % p = d % p) : a * b % p = c * d % p := by rw [Nat.mul_mod, h1, h2, ← Nat.mul_mod]
theorem sq_one {p t : Nat} (pr : Pr p) (ht : t < p) (h : t * t % p = 1) : t = 1 ∨ t = p - 1 := by
  have h2 := pr.1
  have hd : (p : Int) ∣ ((t : Int) - 1) * ((t : Int) + 1) := by
    have e := Nat.div_add_mod (t * t) p
    rw [h] at e
    refine ⟨((t * t / p : Nat) : Int), ?_⟩
    have e : ((p * (t * t / p) + 1 : Nat) : Int) = ((t * t : Nat) : Int) := congrArg (fun n : Nat => (n : Int)) e
    rw [Int.natCast_add, Int.natCast_mul, Int.natCast_mul] at e
    have e2 : ((t : Int) - 1) * ((t : Int) + 1) = (t : Int) * t - 1 := by grind
    rw [e2, ← e]
    omega
  rcases pr.euclidZ hd with h | h
  · left
    exact same_of ht (by omega) h
  · right
    refine same_of ht (by omega) ?_
    obtain ⟨k, hk⟩ := h
    have : ((p - 1 : Nat) : Int) = (p : Int) - 1 := by omega
    rw [this]
    exact ⟨k - 1, by rw [Int.mul_sub]; omega⟩
theorem neg_sq {p : Nat} (h2 : 2 ≤ p) : (p - 1) * (p - 1) % p = 1 := by
  obtain ⟨q, rfl⟩ : ∃ q, p = q + 2 := ⟨p - 2, by omega⟩
  have : (q + 2 - 1) * (q + 2 - 1) = 1 + (q + 2) * q := by
    rw [show q + 2 - 1 = q + 1 by omega]
    grind
  rw [this, Nat.add_mul_mod_self_left]
  exact Nat.mod_eq_of_lt (by omega)
section
variable {p : Nat}
theorem mulP_n (hp : Sm p) (a b : Elem) : (mulP p a b).nat = a.nat * b.nat % p := rem_nat hp
theorem expP_n (hp : Sm p) (h2 : 2 ≤ p) (a k : Elem) : (expP p a k).nat = a.nat ^ k.nat % p := by
  rw [expP_eq (by omega)]
  exact rem_nat hp
theorem sqN_n (hp : Sm p) {b : Elem} (hb : b.nat < p) : ∀ n, (sqN p b n).nat = b.nat ^ 2 ^ n % p
  | 0 => by
    show b.nat = _
    rw [Nat.pow_zero, Nat.pow_one, Nat.mod_eq_of_lt hb]
  | n + 1 => by
    show (mulP p (sqN p b n) (sqN p b n)).nat = _
    rw [mulP_n hp, sqN_n hp hb n, ← Nat.mul_mod, ← Nat.pow_add, ← Nat.two_mul, ← Nat.pow_succ']
theorem eqE_one (t : Elem) : eqE t oneE = Nat.beq t.nat 1 := by rw [eqE_nat]; rfl
theorem not_beq {a b : Nat} (h : Nat.beq a b = false) : a ≠ b := fun e => by rw [e, Nat.beq_refl] at h; cases h
structure TonOk (p a i : Nat) (w : Ton) : Prop where
  x : w.1.nat < p
  b : w.2.1.nat < p
  z : w.2.2.nat < p
  sq : w.1.nat * w.1.nat % p = a * w.2.1.nat % p
  one : w.2.1.nat ^ 2 ^ i % p = 1
  neg : w.2.2.nat ^ 2 ^ i % p = p - 1
theorem pow_two_sq (b i : Nat) : b ^ 2 ^ (i + 1) = b ^ 2 ^ i * b ^ 2 ^ i := by rw [← Nat.pow_add, ← Nat.two_mul, ← Nat.pow_succ']
theorem sq_pow (z i : Nat) (p : Nat) : (z * z % p) ^ 2 ^ i % p = z ^ 2 ^ (i + 1) % p := by rw [mod_pow_mod, ← Nat.pow_two, ← Nat.pow_mul, ← Nat.pow_succ']
theorem half_root (pr : Pr p) {b i : Nat} (h : b ^ 2 ^ (i + 1) % p = 1) : b ^ 2 ^ i % p = 1 ∨ b ^ 2 ^ i % p = p - 1 := by
  rw [pow_two_sq, Nat.mul_mod] at h
  exact sq_one pr (Nat.mod_lt _ pr.pos) h
theorem ton_mul (hp : Sm p) (pr : Pr p) {a i : Nat} {x b z u : Elem} (hx : x.nat * x.nat % p = a * b.nat % p) (hb : b.nat ^ 2 ^ i % p = p - 1) (hu : u.nat * u.nat % p = z.nat % p) (hz : z.nat ^ 2 ^ i % p = p - 1) :
    (mulP p x u).nat * (mulP p x u).nat % p = a * (mulP p b z).nat % p ∧ (mulP p b z).nat ^ 2 ^ i % p = 1 := by
  constructor
  · rw [mulP_n hp, mulP_n hp, ← Nat.mul_mod, Nat.mul_mod_mod, show x.nat * u.nat * (x.nat * u.nat) = x.nat * x.nat * (u.nat * u.nat) by ac_rfl, show a * (b.nat * z.nat) = a * b.nat * z.nat from (Nat.mul_assoc ..).symm]
    exact mul_m hx hu
  · rw [mulP_n hp, mod_pow_mod, Nat.mul_pow, Nat.mul_mod, hb, hz]
    exact neg_sq pr.1
theorem tonStep_ok (hp : Sm p) (pr : Pr p) {a m k : Nat} {w : Ton} (hk : k < m) (h : TonOk p a (m - k) w) : TonOk p a (m - (k + 1)) (tonStep p m k w) := by
  obtain ⟨x, b, z⟩ := w
  have e : m - k = (m - (k + 1)) + 1 := by omega
  rw [e] at h
  obtain ⟨hx, hb, hz, h1, h2, h3⟩ := h
  dsimp only at *
  have ht := sqN_n hp hb (m - (k + 1))
  have hz2 : (mulP p z z).nat ^ 2 ^ (m - (k + 1)) % p = p - 1 := by rw [mulP_n hp, sq_pow]; exact h3
  unfold tonStep
  dsimp only
  rw [show m - k - 1 = m - (k + 1) by omega, eqE_one]
  cases hq : Nat.beq (sqN p b (m - (k + 1))).nat 1
  · simp only [cond_false]
    have hn := not_beq hq
    rw [ht] at hn
    have hb1 := (half_root pr h2).resolve_left hn
    obtain ⟨g1, g2⟩ := ton_mul hp pr (u := z) h1 hb1 (by rw [mulP_n hp, Nat.mod_mod]) hz2
    exact ⟨mulP_lt hp _ _, mulP_lt hp _ _, mulP_lt hp _ _, g1, g2, hz2⟩
  · simp only [cond_true]
    have hb1 := Nat.eq_of_beq_eq_true hq
    rw [ht] at hb1
    exact ⟨hx, hb, mulP_lt hp _ _, h1, hb1, hz2⟩
theorem tonN_ok (hp : Sm p) (pr : Pr p) {a m : Nat} {w : Ton} (h : TonOk p a m w) : (tonN p m w).1.nat < p ∧ (tonN p m w).1.nat * (tonN p m w).1.nat % p = a % p := by
  have key : ∀ n, n ≤ m → TonOk p a (m - n) (upto (tonStep p m) w n) := by
    intro n
    induction n with
    | zero => intro _; exact h
    | succ n ih => intro hn; exact tonStep_ok hp pr (by omega) (ih (by omega))
  have hk := key m (Nat.le_refl _)
  rw [Nat.sub_self] at hk
  obtain ⟨hx, hb, hz, h1, h2, h3⟩ := hk
  refine ⟨hx, ?_⟩
  rw [Nat.pow_zero, Nat.pow_one, Nat.mod_eq_of_lt hb] at h2
  rw [h2, Nat.mul_one] at h1
  exact h1
end
def oddS (s : Int) : Elem := halvesE (wdif (numOf s.toNat).1 oneE).1 (numOf s.toNat).2.1.toNat
def adS (s : Int) : Nat := (numOf s.toNat).2.1.toNat
structure SqrtOk (s : Int) : Prop where
  od : (oddS s).nat * 2 ^ adS s = pS s - 1
  up : 2 * (halfE (wsum (oddS s) oneE).1).nat = (oddS s).nat + 1
  hf : (halfE (wdif (numOf s.toNat).1 oneE).1).nat = (pS s - 1) / 2
  ad : 1 ≤ adS s
  ai : (numOf s.toNat).2.1 = (adS s : Int)
  nr : pwm (pS s) 5 ((pS s - 1) / 2) = pS s - 1
  pr : Pr (pS s)
  sm : Sm (pS s)
  o2 : pS s % 2 = 1
theorem sqrtOk_of {s : Int} (hs : sortOk s = true) : SqrtOk s := by
  have pr := (cur_of hs).pr
  have sm : Sm (pS s) := pS_pos hs
  rcases sortOk_cases hs with rfl | rfl | rfl | rfl <;>
    exact ⟨by decide +kernel, by decide +kernel, by decide +kernel, by decide +kernel, by decide +kernel, by decide +kernel, pr, sm, by decide +kernel⟩
section
variable {s : Int} (k : SqrtOk s)
include k
theorem pow_od (a : Nat) : (a ^ (oddS s).nat) ^ 2 ^ (adS s - 1) = a ^ ((pS s - 1) / 2) := by
  rw [← Nat.pow_mul]
  congr 1
  have h := k.od
  have ha := k.ad
  obtain ⟨n, hn⟩ : ∃ n, adS s = n + 1 := ⟨adS s - 1, by omega⟩
  rw [hn] at h ⊢
  rw [Nat.pow_succ, ← Nat.mul_assoc] at h
  rw [show n + 1 - 1 = n by omega]
  omega
theorem five_neg : (5 ^ (oddS s).nat) ^ 2 ^ (adS s - 1) % pS s = pS s - 1 := by
  rw [pow_od k]
  have h := k.nr
  have hp := k.sm
  rw [pwm_eq k.pr.1 (Nat.ble_eq_true_of_le (by have := hp.2; omega))] at h
  exact h
omit k in
theorem five_nat : (Elem.mk 5 0 0 0).nat = 5 := by decide
theorem root_ok {a : Elem} (he : a.nat ^ ((pS s - 1) / 2) % pS s = 1) : (rootX s a).nat < pS s ∧ (rootX s a).nat * (rootX s a).nat % pS s = a.nat % pS s := by
  have hp := k.sm
  have pr := k.pr
  have e : rootX s a = (tonN (pS s) (adS s - 1) (expP (pS s) a (halfE (wsum (oddS s) oneE).1), expP (pS s) a (oddS s), expP (pS s) ⟨5, 0, 0, 0⟩ (oddS s))).1 := by
    show (tonN (pS s) ((numOf s.toNat).2.1 - 1).toNat _).1 = _
    rw [k.ai, show ((adS s : Int) - 1).toNat = adS s - 1 by omega]
    rfl
  rw [e]
  refine tonN_ok hp pr (a := a.nat) ⟨?_, ?_, ?_, ?_, ?_, ?_⟩
  · rw [expP_n hp pr.1]; exact Nat.mod_lt _ pr.pos
  · rw [expP_n hp pr.1]; exact Nat.mod_lt _ pr.pos
  · rw [expP_n hp pr.1]; exact Nat.mod_lt _ pr.pos
  · show (expP (pS s) a (halfE (wsum (oddS s) oneE).1)).nat * (expP (pS s) a (halfE (wsum (oddS s) oneE).1)).nat % pS s = a.nat * (expP (pS s) a (oddS s)).nat % pS s
    rw [expP_n hp pr.1, expP_n hp pr.1, ← Nat.mul_mod, Nat.mul_mod_mod, ← Nat.pow_add, ← Nat.two_mul, k.up, Nat.pow_succ, Nat.mul_comm]
  · show (expP (pS s) a (oddS s)).nat ^ _ % pS s = 1
    rw [expP_n hp pr.1, mod_pow_mod, pow_od k]
    exact he
  · show (expP (pS s) ⟨5, 0, 0, 0⟩ (oddS s)).nat ^ _ % pS s = pS s - 1
    rw [expP_n hp pr.1, mod_pow_mod, five_nat]
    exact five_neg k
end
theorem even_ok {p : Nat} (hp : Sm p) (ho : p % 2 = 1) {x : Elem} (hx : x.nat < p) : (evenX p x).nat < p ∧ (evenX p x).nat % 2 = 0 ∧ (evenX p x).nat * (evenX p x).nat % p = x.nat * x.nat % p := by
  have hb : (x.w0 % 2 == 1) = Nat.beq (x.nat % 2) 1 := by
    have e : x.nat % 2 = x.w0.toNat % 2 := by unfold Sx.Elem.nat; omega
    rw [e]
    have h2 : (x.w0 % 2).toNat = x.w0.toNat % 2 := by rw [UInt64.toNat_mod]; rfl
    rw [← h2]
    by_cases h : x.w0 % 2 = 1
    · rw [h]; rfl
    · have hn : ¬ (x.w0 % 2).toNat = 1 := fun e => h (UInt64.toNat_inj.1 e)
      have : Nat.beq (x.w0 % 2).toNat 1 = false := by
        cases hb : Nat.beq (x.w0 % 2).toNat 1
        · rfl
        · exact absurd (Nat.eq_of_beq_eq_true hb) hn
      rw [this]
      simpa using h
  unfold evenX
  rw [hb]
  cases hq : Nat.beq (x.nat % 2) 1
  · simp only [cond_false]
    have := not_beq hq
    exact ⟨hx, by omega, trivial⟩
  · simp only [cond_true]
    have h1 := Nat.eq_of_beq_eq_true hq
    have e : (negP p x).nat = p - x.nat := by
      rw [show (negP p x).nat = (p - x.nat % p) % p from rem_nat hp, Nat.mod_eq_of_lt hx, Nat.mod_eq_of_lt (by omega)]
    rw [e]
    refine ⟨by omega, by omega, ?_⟩
    obtain ⟨d, hd⟩ : ∃ d, p = x.nat + d := ⟨p - x.nat, by omega⟩
    have e2 : p - x.nat = d := by omega
    rw [e2]
    have e3 : d * d + p * x.nat = x.nat * x.nat + p * d := by rw [hd]; grind
    have := congrArg (· % p) e3
    simp only [Nat.add_mul_mod_self_left] at this
    exact this
theorem even_same {p : Nat} (pr : Pr p) (ho : p % 2 = 1) {x y : Nat} (hx : x < p) (hy : y < p) (ex : x % 2 = 0) (ey : y % 2 = 0) (h : x * x % p = y * y % p) : x = y := by
  have hd : (p : Int) ∣ ((x : Int) - y) * ((x : Int) + y) := by
    obtain ⟨a, ha⟩ := md_c (p := p) (x * x)
    obtain ⟨b, hb⟩ := md_c (p := p) (y * y)
    rw [h] at ha
    rw [Int.natCast_mul] at ha hb
    generalize (((y * y % p) : Nat) : Int) = r at *
    exact ⟨b - a, by grind⟩
  rcases pr.euclidZ hd with h | h
  · exact same_of hx hy h
  · have h : (p : Int) ∣ ((x + y : Nat) : Int) := by rw [Int.natCast_add]; exact h
    have h := Int.natCast_dvd_natCast.1 h
    obtain ⟨c, hc⟩ := h
    have hc2 : c < 2 := by
      apply Classical.byContradiction
      intro h2
      have := Nat.mul_le_mul_left p (show 2 ≤ c by omega)
      omega
    rcases (show c = 0 ∨ c = 1 by omega) with rfl | rfl <;> omega
end Go.Proofs.Ytkedomfjjahjnaa

namespace Go.Proofs.Ytkedomfjjahjnaa
open Sx Go
theorem zero_eq {e : Elem} (h : zeroE e = true) : e = ⟨0, 0, 0, 0⟩ := nat_inj (by rw [zeroE_nat] at h; rw [Nat.eq_of_beq_eq_true h]; exact nought_nat.symm)
def sqA (s : Int) (x : Elem) : Elem := ofP (pS s) (cubeP (pS s) x (bS s))
def sqB (s : Int) (x : Elem) : Bool := eqE (expP (pS s) (sqA s x) (halfE (wdif (numOf s.toNat).1 oneE).1)) oneE
def sqY (s : Int) (x : Elem) : Elem := evenX (pS s) (rootX s (sqA s x))
def ptD (s : Int) (x : Elem) (odd : Bool) : Pt := (x, cond odd (negP (pS s) (sqY s x)) (sqY s x), false)
theorem sqA_n {s : Int} (hs : sortOk s = true) (x : Elem) : (sqA s x).nat < pS s ∧ ((pS s : Nat) : Int) ∣ ((sqA s x).nat : Int) - ((x.nat : Int) * x.nat * x.nat + (bS s).nat) := by
  have hp : Sm (pS s) := pS_pos hs
  have e : (sqA s x).nat = (cubeP (pS s) x (bS s)).nat % pS s := rem_nat hp
  have hlt : (cubeP (pS s) x (bS s)).nat < pS s := addP_lt hp _ _
  rw [e, Nat.mod_eq_of_lt hlt]
  refine ⟨hlt, ?_⟩
  have c2 := mulP_c hp x x
  have c3 := mulP_c hp (mulP (pS s) x x) x
  have c4 := addP_c hp (mulP (pS s) (mulP (pS s) x x) x) (bS s)
  unfold cubeP
  generalize mulP (pS s) (mulP (pS s) x x) x = xxx at *
  generalize mulP (pS s) x x = xx at *
  generalize addP (pS s) xxx (bS s) = z at *
  have : (z.nat : Int) - ((x.nat : Int) * x.nat * x.nat + (bS s).nat) = ((z.nat : Int) - (xxx.nat + (bS s).nat)) + (((xxx.nat : Int) - xx.nat * x.nat) + (((xx.nat : Int) - x.nat * x.nat) * x.nat)) := by grind
  rw [this]
  exact Int.dvd_add c4 (Int.dvd_add c3 (Int.dvd_trans c2 (Int.dvd_mul_right ..)))
theorem sqA_not {s : Int} (hs : sortOk s = true) (x : Elem) : zeroE (sqA s x) = false := by
  have h := (sqA_n hs x).2
  cases hz : zeroE (sqA s x)
  · rfl
  · exfalso
    rw [zeroE_nat] at hz
    rw [Nat.eq_of_beq_eq_true hz] at h
    obtain ⟨k, hk⟩ := h
    exact (cur_of hs).n2 (x.nat : Int) ⟨-k, by rw [Int.mul_neg, ← hk]; simp⟩
theorem sqB_zero {s : Int} (hs : sortOk s = true) : sqB s ⟨0, 0, 0, 0⟩ = false := by
  rcases sortOk_cases hs with rfl | rfl | rfl | rfl <;> decide +kernel
theorem sqY_n {s : Int} (hs : sortOk s = true) {x : Elem} (h : sqB s x = true) : (sqY s x).nat < pS s ∧ (sqY s x).nat % 2 = 0 ∧ (sqY s x).nat * (sqY s x).nat % pS s = (sqA s x).nat % pS s := by
  have k := sqrtOk_of hs
  unfold sqB at h
  rw [eqE_one, expP_n k.sm k.pr.1, k.hf] at h
  obtain ⟨r1, r2⟩ := root_ok k (Nat.eq_of_beq_eq_true h)
  obtain ⟨e1, e2, e3⟩ := even_ok k.sm k.o2 r1
  exact ⟨e1, e2, e3.trans r2⟩
section
variable {s : Int} (hs : sortOk s = true)
include hs
theorem on_fin {X Y : Elem} : onB s (X, Y, false) = true ↔ X.nat < pS s ∧ Y.nat < pS s ∧ Y.nat * Y.nat % pS s = (sqA s X).nat := by
  have hp : Sm (pS s) := pS_pos hs
  have e1 : (sqA s X).nat = (cubeP (pS s) X (bS s)).nat := by
    show (ofN _).nat = _
    rw [rem_nat hp]
    exact Nat.mod_eq_of_lt (addP_lt hp _ _)
  rw [e1, ← mulP_n hp]
  unfold onB
  rw [hs]
  simp only [cond_true, cond_false]
  rw [eqE_nat]
  generalize (cubeP (pS s) X (bS s)).nat = A
  generalize (mulP (pS s) Y Y).nat = M
  have b1 : Nat.blt X.nat (pS s) = true ↔ X.nat < pS s := ⟨fun h => Nat.le_of_ble_eq_true h, fun h => Nat.ble_eq_true_of_le h⟩
  have b2 : Nat.blt Y.nat (pS s) = true ↔ Y.nat < pS s := ⟨fun h => Nat.le_of_ble_eq_true h, fun h => Nat.ble_eq_true_of_le h⟩
  rw [← b1, ← b2]
  generalize Nat.blt X.nat (pS s) = x
  generalize Nat.blt Y.nat (pS s) = y
  have b3 : Nat.beq M A = true ↔ M = A := ⟨Nat.eq_of_beq_eq_true, fun e => by rw [e, Nat.beq_refl]⟩
  rw [← b3]
  generalize Nat.beq M A = z
  cases x <;> cases y <;> cases z <;> simp
theorem neg_of {y : Elem} (hy : y.nat < pS s) (h0 : y.nat ≠ 0) : (negP (pS s) y).nat = pS s - y.nat := by
  have hp : Sm (pS s) := pS_pos hs
  rw [show (negP (pS s) y).nat = (pS s - y.nat % pS s) % pS s from rem_nat hp, Nat.mod_eq_of_lt hy, Nat.mod_eq_of_lt (by omega)]
omit hs in
theorem neg_square {p y : Nat} (hy : y < p) : (p - y) * (p - y) % p = y * y % p := by
  obtain ⟨d, hd⟩ : ∃ d, p = y + d := ⟨p - y, by omega⟩
  have e2 : p - y = d := by omega
  rw [e2]
  have e3 : d * d + p * y = y * y + p * d := by rw [hd]; grind
  have := congrArg (· % p) e3
  simp only [Nat.add_mul_mod_self_left] at this
  exact this
theorem sqA_zero (x : Elem) : (sqA s x).nat ≠ 0 := fun h => by
  have := sqA_not hs x
  rw [zeroE_nat, h] at this
  cases this
theorem root_on {X : Elem} (hx : X.nat < pS s) (hq : sqB s X = true) (o : Bool) : onB s (ptD s X o) = true ∧ Nat.beq ((ptD s X o).2.1.nat % 2) 1 = o := by
  have k := sqrtOk_of hs
  have ho := k.o2
  have hA := (sqA_n hs X).1
  have hz := sqA_zero hs X
  obtain ⟨r1, r2, r3⟩ := sqY_n hs hq
  rw [Nat.mod_eq_of_lt hA] at r3
  have r0 : (sqY s X).nat ≠ 0 := fun e => hz (by rw [← r3, e, Nat.zero_mul, Nat.zero_mod])
  unfold ptD
  cases o
  · refine ⟨(on_fin hs).2 ⟨hx, r1, r3⟩, ?_⟩
    show Nat.beq ((sqY s X).nat % 2) 1 = false
    rw [r2]
    rfl
  · have e := neg_of hs r1 r0
    refine ⟨(on_fin hs).2 ⟨hx, ?_, ?_⟩, ?_⟩
    · show (negP (pS s) (sqY s X)).nat < pS s
      rw [e]
      omega
    · show (negP (pS s) (sqY s X)).nat * (negP (pS s) (sqY s X)).nat % pS s = _
      rw [e, neg_square r1, r3]
    · show Nat.beq ((negP (pS s) (sqY s X)).nat % 2) 1 = true
      rw [e, show (pS s - (sqY s X).nat) % 2 = 1 by omega]
      rfl
end
end Go.Proofs.Ytkedomfjjahjnaa

namespace Go.Proofs.Ytkedomfjjahjnaa
open Sx Go
abbrev noPt : Pt := (⟨0, 0, 0, 0⟩, ⟨0, 0, 0, 0⟩, false)
end Go.Proofs.Ytkedomfjjahjnaa

namespace Go.Proofs.Ytkedomfjjahjnaa
def mulQ (p : Nat) : Nat → PtQ → PtQ
  | 0, _ => none
  | n + 1, P => addQ p P (mulQ p n P)
variable {p b : Nat}
theorem on_mul (c : Cur p b) {P : PtQ} (hP : OnQ p b P) : ∀ n, OnQ p b (mulQ p n P)
  | 0 => trivial
  | n + 1 => on_add c hP (on_mul c hP n)
theorem mul_one (P : PtQ) : mulQ p 1 P = P := add_none P
theorem mul_none : ∀ n, mulQ p n none = none
  | 0 => rfl
  | n + 1 => mul_none n
theorem mul_plus (c : Cur p b) {P : PtQ} (hP : OnQ p b P) (m : Nat) : ∀ n, mulQ p (n + m) P = addQ p (mulQ p n P) (mulQ p m P)
  | 0 => by rw [Nat.zero_add]; rfl
  | n + 1 => by
    rw [show n + 1 + m = (n + m) + 1 by omega]
    show addQ p P (mulQ p (n + m) P) = addQ p (addQ p P (mulQ p n P)) (mulQ p m P)
    rw [mul_plus c hP m n, add_assoc c hP (on_mul c hP n) (on_mul c hP m)]
theorem mul_times (c : Cur p b) {P : PtQ} (hP : OnQ p b P) (m : Nat) : ∀ n, mulQ p (n * m) P = mulQ p n (mulQ p m P)
  | 0 => by rw [Nat.zero_mul]; rfl
  | n + 1 => by
    rw [show (n + 1) * m = m + n * m by rw [Nat.succ_mul, Nat.add_comm], mul_plus c hP, mul_times c hP m n]
    rfl
theorem mul_comm (c : Cur p b) {P : PtQ} (hP : OnQ p b P) (m n : Nat) : mulQ p n (mulQ p m P) = mulQ p m (mulQ p n P) := by
  rw [← mul_times c hP, ← mul_times c hP, Nat.mul_comm]
theorem add_four (c : Cur p b) {A B C D : PtQ} (hA : OnQ p b A) (hB : OnQ p b B) (hC : OnQ p b C) (hD : OnQ p b D) :
    addQ p (addQ p A B) (addQ p C D) = addQ p (addQ p A C) (addQ p B D) := by
  rw [add_assoc c hA hB (on_add c hC hD), ← add_assoc c hB hC hD, add_comm c hB hC, add_assoc c hC hB hD, ← add_assoc c hA hC (on_add c hB hD)]
theorem mul_add (c : Cur p b) {P R : PtQ} (hP : OnQ p b P) (hR : OnQ p b R) : ∀ n, mulQ p n (addQ p P R) = addQ p (mulQ p n P) (mulQ p n R)
  | 0 => rfl
  | n + 1 => by
    show addQ p (addQ p P R) (mulQ p n (addQ p P R)) = addQ p (addQ p P (mulQ p n P)) (addQ p R (mulQ p n R))
    rw [mul_add c hP hR n, add_four c hP hR (on_mul c hP n) (on_mul c hR n)]
theorem mul_neg (c : Cur p b) {P : PtQ} (hP : OnQ p b P) : ∀ n, mulQ p n (negQ p P) = negQ p (mulQ p n P)
  | 0 => rfl
  | n + 1 => by
    show addQ p (negQ p P) (mulQ p n (negQ p P)) = negQ p (addQ p P (mulQ p n P))
    rw [mul_neg c hP n, neg_add c hP (on_mul c hP n)]
theorem add_cancel (c : Cur p b) {P R T : PtQ} (hP : OnQ p b P) (hR : OnQ p b R) (hT : OnQ p b T) (h : addQ p P R = addQ p P T) : R = T := by
  rw [← cancel c hP hR, h, cancel c hP hT]
theorem two_none (c : Cur p b) {P : PtQ} (h : addQ p P P = none) : P = none := by
  cases P with
  | none => rfl
  | some P =>
    have : addQ p (some P) (some P) = some (thirdQ p P P (slopeQ p P P)) := if_neg fun h => h.2 rfl
    rw [this] at h
    cases h
theorem mul_gcd (c : Cur p b) {P : PtQ} (hP : OnQ p b P) (m k : Nat) : mulQ p m P = none → mulQ p k P = none → mulQ p (Nat.gcd m k) P = none := by
  induction m, k using Nat.gcd.induction with
  | H0 n => intro _ h; rw [Nat.gcd_zero_left]; exact h
  | H1 m n hm ih =>
    intro h1 h2
    rw [Nat.gcd_rec]
    refine ih ?_ h1
    have e := Nat.div_add_mod n m
    rw [← e, Nat.mul_comm, mul_plus c hP, mul_times c hP, h1, mul_none] at h2
    exact h2
theorem mul_mod (c : Cur p b) {P : PtQ} (hP : OnQ p b P) {q : Nat} (hq : mulQ p q P = none) (n : Nat) : mulQ p (n % q) P = mulQ p n P := by
  have e := Nat.div_add_mod n q
  conv => rhs; rw [← e, Nat.mul_comm, mul_plus c hP, mul_times c hP, hq, mul_none]
  rfl
def encQ (p : Nat) : PtQ → Nat
  | none => 2 * p
  | some P => 2 * P.1 + P.2 % 2
theorem enc_lt {P : PtQ} (hP : OnQ p b P) : encQ p P < 2 * p + 1 := by
  cases P with
  | none => show 2 * p < _; omega
  | some P =>
    have := hP.1
    show 2 * P.1 + P.2 % 2 < _
    omega
theorem enc_inj (c : Cur p b) (hodd : p % 2 = 1) {P R : PtQ} (hP : OnQ p b P) (hR : OnQ p b R) (h : encQ p P = encQ p R) : P = R := by
  cases P with
  | none =>
    cases R with
    | none => rfl
    | some R =>
      have := hR.1
      have h : 2 * p = 2 * R.1 + R.2 % 2 := h
      omega
  | some P =>
    cases R with
    | none =>
      have := hP.1
      have h : 2 * P.1 + P.2 % 2 = 2 * p := h
      omega
    | some R =>
      obtain ⟨x1, y1⟩ := P
      obtain ⟨x2, y2⟩ := R
      have h : 2 * x1 + y1 % 2 = 2 * x2 + y2 % 2 := h
      have hx : x1 = x2 := by omega
      have hy : y1 % 2 = y2 % 2 := by omega
      by_cases he : y1 = y2
      · rw [hx, he]
      · exfalso
        have ho := opp_of c hP hR ⟨hx, he⟩
        have ho : some (x2, y2) = some (x1, nm p (-(y1 : Int))) := ho
        simp only [Option.some.injEq, Prod.mk.injEq] at ho
        have h2 := ho.2
        have hy1 : y1 < p := hP.2.1
        have h0 : y1 ≠ 0 := fun e => c.yne hP.2.2 (by show (p : Int) ∣ ((y1 : Nat) : Int); rw [e]; exact ⟨0, by simp⟩)
        have h3 : nm p (-(y1 : Int)) = p - y1 := nm_of (by omega) ⟨1, by omega⟩
        omega
theorem all_order (c : Cur p b) (hodd : p % 2 = 1) {q : Nat} (hq : Pr q) (hq2 : q % 2 = 1) (h3 : 2 * p + 1 < 3 * q) {G : PtQ} (hG : OnQ p b G) (hne : G ≠ none) (hqG : mulQ p q G = none)
    {P : PtQ} (hP : OnQ p b P) : mulQ p q P = none := by
  apply Classical.byContradiction
  intro hno
  have hord : ∀ i, mulQ p i G = none → q ∣ i := fun i hi => by
    have hg := mul_gcd c hG q i hqG hi
    rcases hq.2 (Nat.gcd q i) (Nat.gcd_dvd_left ..) with e | e
    · rw [e, mul_one] at hg
      exact absurd hg hne
    · rw [← e]
      exact Nat.gcd_dvd_right ..
  have hon := fun i => on_mul c hG i
  have honP := fun i => on_mul c hP i
  -- no point of G's meets P or twice P
  have hp1 : ∀ i, P ≠ mulQ p i G := fun i e => hno (by rw [e, mul_comm c hG, hqG, mul_none])
  have hp2 : ∀ i, addQ p P P ≠ mulQ p i G := fun i e => by
    have hh : ∃ j, mulQ p i G = addQ p (mulQ p j G) (mulQ p j G) := by
      refine ⟨i * ((q + 1) / 2), ?_⟩
      rw [← mul_plus c hG, ← Nat.mul_add, show (q + 1) / 2 + (q + 1) / 2 = q + 1 by omega, Nat.mul_add, mul_plus c hG, mul_times c hG, hqG, mul_none, Nat.mul_one]
      rfl
    obtain ⟨j, hj⟩ := hh
    rw [hj] at e
    have hn := on_neg c (hon j)
    have : addQ p (addQ p (negQ p (mulQ p j G)) P) (addQ p (negQ p (mulQ p j G)) P) = none := by
      rw [add_four c hn hP hn hP, e, add_comm c (on_add c hn hn) (on_add c (hon j) (hon j)), add_four c (hon j) (hon j) hn hn, add_neg c (hon j)]
      rfl
    have h2 := two_none c this
    have h4 := none_of c hn hP h2
    rw [neg_neg c (hon j)] at h4
    exact hp1 j h4
  -- differences of G's points
  have hdiff : ∀ i j A B, OnQ p b A → OnQ p b B → addQ p (mulQ p i G) A = addQ p (mulQ p j G) B → ∃ k, A = addQ p (mulQ p k G) B := fun i j A B hA hB e => by
    refine ⟨(q - i % q) + j, ?_⟩
    have hm : mulQ p (i % q) G = mulQ p i G := mul_mod c hG hqG i
    have hlt := Nat.mod_lt i hq.pos
    have hz : addQ p (mulQ p (q - i % q) G) (mulQ p i G) = none := by
      rw [← hm, ← mul_plus c hG, show q - i % q + i % q = q by omega, hqG]
    rw [mul_plus c hG, add_assoc c (hon _) (hon _) hB, ← e, ← add_assoc c (hon _) (hon _) hA, hz]
    rfl
  have hinj : ∀ i j, i < q → j < q → mulQ p i G = mulQ p j G → i = j := by
    have aux : ∀ i j, i ≤ j → j < q → mulQ p i G = mulQ p j G → i = j := fun i j hij hj e => by
      have e2 : addQ p (mulQ p i G) none = addQ p (mulQ p i G) (mulQ p (j - i) G) := by
        rw [← mul_plus c hG, show i + (j - i) = j by omega, add_none, e]
      have h0 := add_cancel c (hon i) (R := none) trivial (hon _) e2
      have hd := hord _ h0.symm
      by_cases h : j - i = 0
      · omega
      · have := Nat.le_of_dvd (by omega) hd
        omega
    intro i j hi hj e
    rcases Nat.le_total i j with h | h
    · exact aux i j h hj e
    · exact (aux j i h hi e.symm).symm
  let tw : Nat → PtQ := fun k => mulQ p (k / q) P
  let pt : Nat → PtQ := fun k => addQ p (mulQ p (k % q) G) (mulQ p (k / q) P)
  have hpt : ∀ k, OnQ p b (pt k) := fun k => on_add c (hon _) (honP _)
  have hcoset : ∀ i j, i < 3 → j < 3 → (∃ k, mulQ p i P = addQ p (mulQ p k G) (mulQ p j P)) → i = j := by
    have P1 : mulQ p 1 P = P := mul_one P
    have P2 : mulQ p 2 P = addQ p P P := congrArg (addQ p P) (mul_one P)
    have back : ∀ k A B, OnQ p b A → OnQ p b B → A = addQ p (mulQ p k G) B → ∃ k', B = addQ p (mulQ p k' G) A := fun k A B hA hB e => by
      refine hdiff k 0 B A hB hA ?_
      rw [← e]
      rfl
    have n01 : ∀ k, mulQ p 0 P ≠ addQ p (mulQ p k G) (mulQ p 1 P) := fun k e => by
      obtain ⟨k', e'⟩ := back k _ _ (honP 0) (honP 1) e
      rw [P1, show mulQ p 0 P = none from rfl, add_none] at e'
      exact hp1 k' e'
    have n02 : ∀ k, mulQ p 0 P ≠ addQ p (mulQ p k G) (mulQ p 2 P) := fun k e => by
      obtain ⟨k', e'⟩ := back k _ _ (honP 0) (honP 2) e
      rw [P2, show mulQ p 0 P = none from rfl, add_none] at e'
      exact hp2 k' e'
    have n12 : ∀ k, mulQ p 1 P ≠ addQ p (mulQ p k G) (mulQ p 2 P) := fun k e => by
      rw [P1, P2, ← add_assoc c (hon k) hP hP] at e
      have e2 : addQ p P none = addQ p P (addQ p (mulQ p k G) P) := by
        rw [add_none, ← add_assoc c hP (hon k) hP, add_comm c hP (hon k)]
        exact e
      have e3 := add_cancel c hP (R := none) trivial (on_add c (hon k) hP) e2
      obtain ⟨k', e'⟩ := back k none P trivial hP e3
      rw [add_none] at e'
      exact hp1 k' e'
    rintro i j hi hj ⟨k, hk⟩
    apply Classical.byContradiction
    intro hij
    have bk := back k _ _ (honP i) (honP j) hk
    have : (i = 0 ∧ j = 1) ∨ (i = 0 ∧ j = 2) ∨ (i = 1 ∧ j = 2) ∨ (i = 1 ∧ j = 0) ∨ (i = 2 ∧ j = 0) ∨ (i = 2 ∧ j = 1) := by omega
    rcases this with ⟨rfl, rfl⟩ | ⟨rfl, rfl⟩ | ⟨rfl, rfl⟩ | ⟨rfl, rfl⟩ | ⟨rfl, rfl⟩ | ⟨rfl, rfl⟩
    · exact n01 k hk
    · exact n02 k hk
    · exact n12 k hk
    · obtain ⟨k', e⟩ := bk; exact n01 k' e
    · obtain ⟨k', e⟩ := bk; exact n02 k' e
    · obtain ⟨k', e⟩ := bk; exact n12 k' e
  have hptinj : ∀ x ∈ List.range (3 * q), ∀ y ∈ List.range (3 * q), encQ p (pt x) = encQ p (pt y) → x = y := fun x hx y hy e => by
    rw [List.mem_range] at hx hy
    have e := enc_inj c hodd (hpt x) (hpt y) e
    have hdx : x / q < 3 := Nat.div_lt_of_lt_mul (by rw [Nat.mul_comm]; exact hx)
    have hdy : y / q < 3 := Nat.div_lt_of_lt_mul (by rw [Nat.mul_comm]; exact hy)
    have h1 := hcoset (x / q) (y / q) hdx hdy (hdiff _ _ _ _ (honP _) (honP _) e)
    have e : addQ p (mulQ p (x % q) G) (mulQ p (x / q) P) = addQ p (mulQ p (y % q) G) (mulQ p (y / q) P) := e
    rw [h1, add_comm c (hon _) (honP _), add_comm c (hon (y % q)) (honP _)] at e
    have h2 := hinj _ _ (Nat.mod_lt _ hq.pos) (Nat.mod_lt _ hq.pos) (add_cancel c (honP _) (hon _) (hon _) e)
    have e1 := Nat.div_add_mod x q
    have e2 := Nat.div_add_mod y q
    rw [← e1, ← e2, h1, h2]
  have hnd := nodup_map_of (f := fun k => encQ p (pt k)) List.nodup_range hptinj
  have hlen := length_of_sub (l2 := List.range (2 * p + 1)) hnd (fun x hx => by
    obtain ⟨k, _, rfl⟩ := List.mem_map.1 hx
    exact List.mem_range.2 (enc_lt (hpt k)))
  rw [List.length_map, List.length_range, List.length_range] at hlen
  omega
end Go.Proofs.Ytkedomfjjahjnaa

namespace Go.Proofs.Ytkedomfjjahjnaa
open Sx Go
theorem refMul_walk {p b : Nat} (c : Cur p b) (hp : Sm p) {k : Nat} (hk : k < 2 ^ 256) {P : Pt} (hP : OnQ p b (toQ P)) : ∀ n, n ≤ 256 →
    toQ (upto (refStep p k P) inftyP n) = mulQ p (k / 2 ^ (256 - n)) (toQ P)
  | 0, _ => by
    rw [Nat.sub_zero, Nat.div_eq_of_lt hk]
    rfl
  | n + 1, h => by
    have ih := refMul_walk c hp hk hP n (by omega)
    have ho := on_mul c hP (k / 2 ^ (256 - n))
    show toQ (refStep p k P n (upto (refStep p k P) inftyP n)) = _
    generalize upto (refStep p k P) inftyP n = Q at *
    have hQ : OnQ p b (toQ Q) := by rw [ih]; exact ho
    have d2 := sum_toQ c hp hQ hQ
    have e1 : 256 - n = (255 - n) + 1 := by omega
    have hd : k / 2 ^ (256 - n) = k / 2 ^ (255 - n) / 2 := by rw [e1, Nat.pow_succ, Nat.div_div_eq_div_mul]
    rw [show 256 - (n + 1) = 255 - n by omega]
    rw [hd] at ih ho
    unfold refStep
    cases hb : bitN k (255 - n)
    · have h0 := bitN_not hb
      simp only [cond_false]
      rw [d2, ih, ← mul_plus c hP]
      congr 1
      omega
    · have h0 : k / 2 ^ (255 - n) % 2 = 1 := Nat.eq_of_beq_eq_true hb
      simp only [cond_true]
      have d3 : OnQ p b (toQ (sumPt p Q Q)) := by rw [d2]; exact on_add c hQ hQ
      rw [sum_toQ c hp d3 hP, d2, ih, ← mul_plus c hP, add_comm c (on_mul c hP _) hP]
      show mulQ p (_ + 1) (toQ P) = _
      congr 1
      omega
theorem refMul_toQ {p b : Nat} (c : Cur p b) (hp : Sm p) {k : Nat} (hk : k < 2 ^ 256) {P : Pt} (hP : OnQ p b (toQ P)) : toQ (refMul p k P) = mulQ p k (toQ P) := by
  have h := refMul_walk c hp hk hP 256 (Nat.le_refl _)
  rw [Nat.sub_self, Nat.pow_zero, Nat.div_one] at h
  exact h
theorem onQ_of {p b x y : Nat} (hx : x < p) (hy : y < p) (h : Nat.beq (y * y % p) ((x * x * x + b) % p) = true) : OnQ p b (some (x, y)) := by
  refine ⟨hx, hy, ?_⟩
  have h := Nat.eq_of_beq_eq_true h
  obtain ⟨k, hk⟩ := md_c (p := p) (y * y)
  obtain ⟨m, hm⟩ := md_c (p := p) (x * x * x + b)
  rw [h] at hk
  rw [Int.natCast_mul] at hk
  rw [Int.natCast_add, Int.natCast_mul, Int.natCast_mul] at hm
  show (p : Int) ∣ (y : Int) * y - x * x * x - b
  generalize (((x * x * x + b) % p : Nat) : Int) = r at *
  refine ⟨m - k, ?_⟩
  rw [Int.mul_sub, ← hm, ← hk]
  omega
def ordB (p q : Nat) (x y : Elem) : Bool := zeroE (upto (mulStep p (ofN q) (widenP (x, y, false))) wide0 256).2.2
theorem ord_G {p b q : Nat} (c : Cur p b) (hp : Sm p) (hq : q < 115792089237316195423570985008687907853269984665640564039457584007913129639936) {x y : Elem} (hG : OnQ p b (some (x.nat, y.nat))) (h : ordB p q x y = true) : mulQ p q (some (x.nat, y.nat)) = none := by
  have hG' : OnQ p b (toQ (x, y, false)) := hG
  obtain ⟨h1, h2, h3⟩ := mul_walk c hp (ofN q) hG' (fun h => by cases h) 256 (Nat.le_refl _)
  have h4 := refMul_walk c hp (k := (ofN q).nat) (nat_lt _) hG' 256 (Nat.le_refl _)
  rw [nat_ofN hq, Nat.sub_self, Nat.pow_zero, Nat.div_one] at h4
  rw [nat_ofN hq] at h1
  have h4 : toQ (upto (refStep p q (x, y, false)) inftyP 256) = mulQ p q (some (x.nat, y.nat)) := h4
  rw [h4] at h1
  unfold ordB at h
  cases hm : mulQ p q (some (x.nat, y.nat)) with
  | none => rfl
  | some S =>
    rw [hm] at h1
    rw [zero_not h1.2.1] at h
    cases h
end Go.Proofs.Ytkedomfjjahjnaa

namespace Go.Proofs.Ytkedomfjjahjnaa
open Sx Go
theorem ord_all {p b q : Nat} (c : Cur p b) (hp : Sm p) (hodd : Nat.beq (p % 2) 1 = true) (hq : Pr q) (hq2 : Nat.beq (q % 2) 1 = true) (hqb : Nat.blt q 115792089237316195423570985008687907853269984665640564039457584007913129639936 = true) (h3 : Nat.blt (2 * p + 1) (3 * q) = true)
    {x y : Elem} (hx : Nat.blt x.nat p = true) (hy : Nat.blt y.nat p = true) (he : Nat.beq (y.nat * y.nat % p) ((x.nat * x.nat * x.nat + b) % p) = true) (h : ordB p q x y = true) {P : PtQ} (hP : OnQ p b P) : mulQ p q P = none := by
  have hG := onQ_of (blt_of hx) (blt_of hy) he
  exact all_order c (Nat.eq_of_beq_eq_true hodd) hq (Nat.eq_of_beq_eq_true hq2) (blt_of h3) hG (fun e => by cases e) (ord_G c hp (blt_of hqb) hG h) hP
theorem modS0 : pS 0 = 16513537 := by decide +kernel
theorem modS1 : pS 1 = 16521217 := by decide +kernel
theorem modS2 : pS 2 = 28948022309329048855892746252171976963363056481941560715954676764349967630337 := by decide +kernel
theorem modS3 : pS 3 = 28948022309329048855892746252171976963363056481941647379679742748393362948097 := by decide +kernel
theorem bcS0 : (bS 0).nat = 23 := by decide +kernel
theorem bcS1 : (bS 1).nat = 21 := by decide +kernel
theorem bcS2 : (bS 2).nat = 5 := by decide +kernel
theorem bcS3 : (bS 3).nat = 5 := by decide +kernel
theorem ordG0 : ordB 16513537 16521217 ⟨1, 0, 0, 0⟩ ⟨2487377, 0, 0, 0⟩ = true := by decide +kernel
theorem ordG1 : ordB 16521217 16513537 ⟨1, 0, 0, 0⟩ ⟨7286451, 0, 0, 0⟩ = true := by decide +kernel
theorem ordG2 : ordB 28948022309329048855892746252171976963363056481941560715954676764349967630337 28948022309329048855892746252171976963363056481941647379679742748393362948097
    (ofN 28948022309329048855892746252171976963363056481941560715954676764349967630336) ⟨2, 0, 0, 0⟩ = true := by decide +kernel
theorem ordG3 : ordB 28948022309329048855892746252171976963363056481941647379679742748393362948097 28948022309329048855892746252171976963363056481941560715954676764349967630337
    (ofN 28948022309329048855892746252171976963363056481941647379679742748393362948096) ⟨2, 0, 0, 0⟩ = true := by decide +kernel
theorem ord_of {s : Int} (hs : sortOk s = true) {P : PtQ} (hP : OnQ (pS s) (bS s).nat P) : mulQ (pS s) (pS (ixor s 1)) P = none := by
  have c := cur_of hs
  have hp : Sm (pS s) := pS_pos hs
  rcases sortOk_cases hs with rfl | rfl | rfl | rfl
  · rw [show ixor 0 1 = 1 by decide +kernel]
    rw [modS0, modS1, bcS0] at *
    exact ord_all c hp (by decide +kernel) pr_16521217 (by decide +kernel) (by decide +kernel) (by decide +kernel) (by decide +kernel) (by decide +kernel) (by decide +kernel) ordG0 hP
  · rw [show ixor 1 1 = 0 by decide +kernel]
    rw [modS0, modS1, bcS1] at *
    exact ord_all c hp (by decide +kernel) pr_16513537 (by decide +kernel) (by decide +kernel) (by decide +kernel) (by decide +kernel) (by decide +kernel) (by decide +kernel) ordG1 hP
  · rw [show ixor 2 1 = 3 by decide +kernel]
    rw [modS2, modS3, bcS2] at *
    exact ord_all c hp (by decide +kernel) pr_28948022309329048855892746252171976963363056481941647379679742748393362948097 (by decide +kernel) (by decide +kernel) (by decide +kernel) (by decide +kernel) (by decide +kernel) (by decide +kernel) ordG2 hP
  · rw [show ixor 3 1 = 2 by decide +kernel]
    rw [modS2, modS3, bcS3] at *
    exact ord_all c hp (by decide +kernel) pr_28948022309329048855892746252171976963363056481941560715954676764349967630337 (by decide +kernel) (by decide +kernel) (by decide +kernel) (by decide +kernel) (by decide +kernel) (by decide +kernel) ordG3 hP
end Go.Proofs.Ytkedomfjjahjnaa

namespace Go.Proofs.Ytkedomfjjahjnaa
open Sx Go
theorem onB_of {s : Int} {P : Pt} (hs : sortOk s = true) (h : OnQ (pS s) (bS s).nat (toQ P)) (hc : Can P) : onB s P = true := by
  have hp : Sm (pS s) := pS_pos hs
  obtain ⟨X, Y, i⟩ := P
  cases i
  · obtain ⟨hx, hy, hv⟩ := h
    have hx : X.nat < pS s := hx
    have hy : Y.nat < pS s := hy
    have hv : ((pS s : Nat) : Int) ∣ (Y.nat : Int) * Y.nat - X.nat * X.nat * X.nat - (bS s).nat := hv
    unfold onB
    rw [hs]
    have e1 : Nat.blt X.nat (pS s) = true := Nat.ble_eq_true_of_le hx
    have e2 : Nat.blt Y.nat (pS s) = true := Nat.ble_eq_true_of_le hy
    simp only [cond_true, cond_false, e1, e2]
    refine eqE_iff.2 (nat_inj (same_of (mulP_lt hp _ _) (addP_lt hp _ _) ?_))
    have c1 := mulP_c hp Y Y
    have c2 := mulP_c hp X X
    have c3 := mulP_c hp (mulP (pS s) X X) X
    have c4 := addP_c hp (mulP (pS s) (mulP (pS s) X X) X) (bS s)
    unfold cubeP
    exact cv_to c1 c4 c3 c2 hv
  · rw [hc rfl]
    unfold onB
    rw [hs]
    rfl
theorem can_on {s : Int} {P : Pt} (h : onB s P = true) : Can P := (onB_parts h).2.2
theorem can_inf : Can inftyP := fun _ => rfl
theorem addPt_on {s : Int} {P R : Pt} (hP : onB s P = true) (hR : onB s R = true) : toQ (addPt s P R) = addQ (pS s) (toQ P) (toQ R) ∧ onB s (addPt s P R) = true := by
  obtain ⟨hs, h1, h2⟩ := onB_parts hP
  obtain ⟨_, h3, h4⟩ := onB_parts hR
  have c := cur_of hs
  have hp : Sm (pS s) := pS_pos hs
  have e : addPt s P R = narrowP (pS s) (addW (pS s) (widenP P) (widenP R)) := by unfold addPt; rw [hP, hR]; rfl
  obtain ⟨n1, n2⟩ := narrow_rep c hp (on_add c h1 h3) (add_rep c hp h1 h3 (widen_rep c) (widen_rep c))
  rw [e]
  exact ⟨n1, onB_of hs (by rw [n1]; exact on_add c h1 h3) n2⟩
theorem addPt_off {s : Int} {P R : Pt} (h : onB s P = false ∨ onB s R = false) : addPt s P R = inftyP := by
  unfold addPt
  rcases h with h | h
  · rw [h]; rfl
  · rw [h]
    cases onB s P <;> rfl
theorem addPt_comm (s : Int) (P R : Pt) : addPt s P R = addPt s R P := by
  rcases (Bool.eq_false_or_eq_true (onB s P)).symm with h | h
  · rw [addPt_off (.inl h), addPt_off (.inr h)]
  · rcases (Bool.eq_false_or_eq_true (onB s R)).symm with h' | h'
    · rw [addPt_off (.inr h'), addPt_off (.inl h')]
    · obtain ⟨e1, o1⟩ := addPt_on h h'
      obtain ⟨e2, o2⟩ := addPt_on h' h
      obtain ⟨hs, h1, _⟩ := onB_parts h
      obtain ⟨_, h3, _⟩ := onB_parts h'
      exact can_same (can_on o1) (can_on o2) (by rw [e1, e2, add_comm (cur_of hs) h1 h3])
theorem addPt_assoc {s : Int} {P R T : Pt} (hP : onB s P = true) (hR : onB s R = true) (hT : onB s T = true) : addPt s (addPt s P R) T = addPt s P (addPt s R T) := by
  obtain ⟨e1, o1⟩ := addPt_on hP hR
  obtain ⟨e2, o2⟩ := addPt_on hR hT
  obtain ⟨e3, o3⟩ := addPt_on o1 hT
  obtain ⟨e4, o4⟩ := addPt_on hP o2
  obtain ⟨hs, h1, _⟩ := onB_parts hP
  obtain ⟨_, h2, _⟩ := onB_parts hR
  obtain ⟨_, h3, _⟩ := onB_parts hT
  exact can_same (can_on o3) (can_on o4) (by rw [e3, e4, e1, e2, add_assoc (cur_of hs) h1 h2 h3])
theorem infty_on {s : Int} (hs : sortOk s = true) : onB s inftyP = true := onB_of hs trivial can_inf
theorem addPt_inf {s : Int} {P : Pt} (hP : onB s P = true) : addPt s P inftyP = P := by
  obtain ⟨hs, h1, h2⟩ := onB_parts hP
  obtain ⟨e1, o1⟩ := addPt_on hP (infty_on hs)
  exact can_same (can_on o1) h2 (by rw [e1]; exact add_none _)
theorem negPt_on {s : Int} {P : Pt} (hP : onB s P = true) : toQ (negPt s P) = negQ (pS s) (toQ P) ∧ onB s (negPt s P) = true := by
  obtain ⟨hs, h1, h2⟩ := onB_parts hP
  have c := cur_of hs
  have hp : Sm (pS s) := pS_pos hs
  obtain ⟨X, Y, i⟩ := P
  cases i
  · have e : negPt s (X, Y, false) = (X, negP (pS s) Y, false) := by unfold negPt; rw [hP]; rfl
    rw [e]
    have hn : nm (pS s) (-(Y.nat : Int)) = (negP (pS s) Y).nat := nm_of (negP_lt hp Y) (negP_c hp Y)
    have ht : toQ (X, negP (pS s) Y, false) = negQ (pS s) (toQ (X, Y, false)) := by
      show some (X.nat, (negP (pS s) Y).nat) = some (X.nat, nm (pS s) (-(Y.nat : Int)))
      rw [hn]
    exact ⟨ht, onB_of hs (by rw [ht]; exact on_neg c h1) (fun h => by cases h)⟩
  · have e : negPt s (X, Y, true) = inftyP := by unfold negPt; rw [hP]; rfl
    rw [e]
    exact ⟨rfl, infty_on hs⟩
theorem addPt_neg {s : Int} {P : Pt} (hP : onB s P = true) : addPt s P (negPt s P) = inftyP := by
  obtain ⟨e1, o1⟩ := negPt_on hP
  obtain ⟨e2, o2⟩ := addPt_on hP o1
  obtain ⟨hs, h1, _⟩ := onB_parts hP
  exact can_same (can_on o2) can_inf (by rw [e2, e1, add_neg (cur_of hs) h1]; rfl)
theorem mulPt_on {s : Int} (k : Elem) {P : Pt} (hP : onB s P = true) : toQ (mulPt s k P) = mulQ (pS s) k.nat (toQ P) ∧ onB s (mulPt s k P) = true := by
  obtain ⟨hs, h1, h2⟩ := onB_parts hP
  have c := cur_of hs
  have hp : Sm (pS s) := pS_pos hs
  have hk : (ofP (pS (ixor s 1)) k).nat = k.nat % pS (ixor s 1) := rem_nat (pS_pos (sort_other hs))
  have e : mulPt s k P = refMul (pS s) (ofP (pS (ixor s 1)) k).nat P := by rw [mul_same]; unfold mulRef; rw [hP]; rfl
  have ht : toQ (mulPt s k P) = mulQ (pS s) k.nat (toQ P) := by
    rw [e, refMul_toQ c hp (nat_lt _) h1, hk, mul_mod c h1 (ord_of hs h1)]
  refine ⟨ht, onB_of hs (by rw [ht]; exact on_mul c h1 _) ?_⟩
  rw [e]
  exact (mul_walk c hp (ofP (pS (ixor s 1)) k) h1 h2 256 (Nat.le_refl _)).2.2
theorem mulPt_off {s : Int} (k : Elem) {P : Pt} (h : onB s P = false) : mulPt s k P = inftyP := by
  unfold mulPt
  rw [h]
  rfl
end Go.Proofs.Ytkedomfjjahjnaa

namespace Go.Proofs.Ytkedomfjjahjnaa
open Sx Go
set_option maxRecDepth 100000
abbrev termT : Ty := .prod .elem (.prod .elem (.prod .elem .bool))
def mclone_S : FnSpec := ⟨[.val false (.list termT)], [], true, 0, false⟩
abbrev mcloneX : Type := ((List termT.T) × Unit) × (Unit)
def mclone_o0 : OutSh := ⟨[.own 0], [(0, .row termT)], false⟩
def mclone_sel : SV → Option OutSh := fun _ => some mclone_o0
def mclone_T (a0 : List termT.T) : OT mclone_S.Y :=
  (gd [decide (((0 : Nat) + List.length a0) * (104 : Nat) ≤ (140737488355328 : Nat))] (.ok ⟨mclone_o0, (((), ()), ([] ++ a0, ()))⟩))
def mclone_T' : OT mclone_S.Y := .ok ⟨mclone_o0, (((), ()), ([], ()))⟩
theorem mclone_q (x : mcloneX) (Q : mclone_S.Y → Prop) : wpf te E_r4some lamNil 1000 Try.f65 (mclone_S.inp.inj x).tm (mclone_S.inp.inj x).hp (fnK mclone_S mclone_sel Q) (fun _ _ => False) =
    Bool.rec (motive := fun _ => Prop) ((mclone_T x.1.1).wpR Q) (mclone_T'.wpR Q ∧ (mclone_T x.1.1).wpR Q) (List.isEmpty x.1.1) := by kernel_rfl
def mclone_pre (x : mcloneX) : Bool := decide (x.1.1.length * 104 ≤ 140737488355328)
def mclone_F (x : mcloneX) : OT mclone_S.Y := .ok ⟨mclone_o0, (((), ()), (x.1.1, ()))⟩
theorem mclone_ok : SummOk Try.prog 65 (mclone_S.summ mclone_pre mclone_F) := by
  refine fn_ok te_ok E_r4some_ok E_r4some_any (f := 65) (fn := Try.f65) (c := codeOf Try.f65) (by kernel_rfl) (by kernel_rfl) (by kernel_rfl) (S := mclone_S) (k := 0) (by kernel_rfl) (Λ := lamNil) (fun R hR => lamOk_nil) (n := 1000) fun x oy hp hr => ⟨fnK mclone_S mclone_sel (fun z => z = oy), fun _ _ => False, ?_, fun v hp hq => ?_, fun _ _ hq => hq.elim⟩
  · refine (mclone_q x _).mpr ?_
    cases hr
    have hp' : x.1.1.length * 104 ≤ 140737488355328 := of_decide_eq_true hp
    have h1 : (mclone_T x.1.1).wpR (fun z => z = ⟨mclone_o0, (((), ()), (x.1.1, ()))⟩) := by
      rw [OT.wpR_eq]
      refine OT.wp_of_run (gd_run ?_) rfl
      simp only [List.all_cons, List.all_nil, Bool.and_true]
      exact decide_eq_true (by omega)
    cases hb : List.isEmpty x.1.1
    · exact h1
    · refine ⟨?_, h1⟩
      rw [List.isEmpty_iff.1 hb]
      rfl
  · unfold fnK at hq
    split at hq
    · rename_i o ho
      split at hq
      · rename_i y hy
        subst hq
        exact ⟨by cases ho; rfl, hy⟩
      · exact hq.elim
    · exact hq.elim
def mclone_summ : Summ := (mclone_S.summ mclone_pre mclone_F)
theorem mclone_known : SummOk Try.prog 65 mclone_summ := mclone_ok
theorem mclone_smono : MonoOk mclone_summ := fn_mono
def E_mclone : Env := envCons 65 mclone_summ E_r4some
theorem E_mclone_ok : EnvOk Try.prog E_mclone := envOk_cons mclone_known E_r4some_ok
theorem E_mclone_mono : EnvMono E_mclone := envMono_cons mclone_smono E_r4some_mono
theorem E_mclone_any : AnyOk Try.prog te E_mclone := any_ok follows te_ok E_mclone_ok E_mclone_mono
def mnew_S : FnSpec := ⟨[.val false .int], [], true, 0, false⟩
def mnew_o0 : OutSh := ⟨[.nilp, .val false .int], [], false⟩
def mnew_o1 : OutSh := ⟨[.ptr 0 0 0, .val false .int], [(0, .cells [.val false .int, .own 1]), (1, .row termT)], false⟩
abbrev mnewX : Type := ((Int) × Unit) × (Unit)
def mnew_outs : List OutSh := [mnew_o0, mnew_o1]
def mnew_T (a0 : Int) : OT mnew_S.Y :=
  (.br (decide (a0 < (0 : Int)))
  (.ok ⟨mnew_o0, (((), ((40 : Int), ())), ())⟩)
  (.br (decide ((3 : Int) < a0))
    (.ok ⟨mnew_o0, (((), ((40 : Int), ())), ())⟩)
    (.ok ⟨mnew_o1, (((), ((0 : Int), ())), ((a0, ((), ())), ([], ())))⟩)))
theorem mnew_q (x : mnewX) (Q : mnew_S.Y → Prop) : wpf te E_mclone lamNil 1000 Try.f28 (mnew_S.inp.inj x).tm (mnew_S.inp.inj x).hp (fnKL mnew_S mnew_outs Q) (fun _ _ => False) = (mnew_T (x.1.1)).wpR Q := by kernel_rfl
theorem mnew_main (pre : mnewX → Bool) (F : mnewX → OT mnew_S.Y) (hF : ∀ (x : mnewX) oy, pre x = true → (F x).run = some oy → (mnew_T (x.1.1)).run = some oy) : SummOk Try.prog 28 (mnew_S.summ pre F) :=
  fn_treeL te_ok E_mclone_ok E_mclone_any (f := 28) (fn := Try.f28) (c := codeOf Try.f28) (by kernel_rfl) (by kernel_rfl) (by kernel_rfl) (S := mnew_S) (k := 0) (by kernel_rfl) (fun R hR => lamOk_nil) (n := 1000) (outs := mnew_outs) (by kernel_rfl) (pre := pre) (F := F) (T := fun x => mnew_T (x.1.1)) (fun x Q => mnew_q x Q) hF
def mnew_pre (_ : mnewX) : Bool := true
def mnew_F (x : mnewX) : OT mnew_S.Y := .br (sortOk x.1.1) (.ok ⟨mnew_o1, (((), ((0 : Int), ())), ((x.1.1, ((), ())), ([], ())))⟩) (.ok ⟨mnew_o0, (((), ((40 : Int), ())), ())⟩)
theorem mnew_ok : SummOk Try.prog 28 (mnew_S.summ mnew_pre mnew_F) := mnew_main _ _ fun x oy _ ho => by
  rw [← ho]
  clear ho
  obtain ⟨⟨s, ⟨⟩⟩, ⟨⟩⟩ := x
  show (mnew_T s).run = (OT.br (sortOk s) _ _ : OT mnew_S.Y).run
  by_cases h0 : s < 0
  · refine (OT.run_t (decide_eq_true h0)).trans (OT.run_f (b := sortOk s) ?_).symm
    simp only [sortOk, decide_eq_false (show ¬ (0 : Int) ≤ s by omega), Bool.false_and]
  · refine (OT.run_f (decide_eq_false h0)).trans ?_
    by_cases h3 : 3 < s
    · refine (OT.run_t (decide_eq_true h3)).trans (OT.run_f (b := sortOk s) ?_).symm
      simp only [sortOk, decide_eq_false (show ¬ s < 4 by omega), Bool.and_false]
    · refine (OT.run_f (decide_eq_false h3)).trans (OT.run_t (b := sortOk s) ?_).symm
      simp only [sortOk, decide_eq_true (show (0 : Int) ≤ s by omega), decide_eq_true (show s < 4 by omega), Bool.and_self]
def mnew_summ : Summ := (mnew_S.summ mnew_pre mnew_F)
theorem mnew_known : SummOk Try.prog 28 mnew_summ := mnew_ok
theorem mnew_smono : MonoOk mnew_summ := fn_mono
def E_mnew : Env := envCons 28 mnew_summ E_mclone
theorem E_mnew_ok : EnvOk Try.prog E_mnew := envOk_cons mnew_known E_mclone_ok
theorem E_mnew_mono : EnvMono E_mnew := envMono_cons mnew_smono E_mclone_mono
theorem E_mnew_any : AnyOk Try.prog te E_mnew := any_ok follows te_ok E_mnew_ok E_mnew_mono
def lazC (w : Sh) : CSh := .cells [.val false .int, w]
def madd_S : FnSpec := ⟨[.ptr 0 0 0, .val true .elem, .val true (.prod .elem (.prod .elem .bool))], [(0, lazC (.own 1)), (1, .row termT)], false, 1, true⟩
abbrev maddX : Type := ((Unit) × (Elem) × ((Elem × (Elem × Bool))) × Unit) × (((Int) × (Unit) × Unit) × (List ((Elem × (Elem × (Elem × Bool))))) × Unit)
def madd_o0 : OutSh := ⟨[.val false .int], [(0, .cells [.val false .int, .own 1]), (1, .row (.prod .elem (.prod .elem (.prod .elem .bool))))], false⟩
def madd_sel : SV → Option OutSh := fun _ => some madd_o0
def madd_T (a1 : Elem) (a2 : (Elem × (Elem × Bool))) (c0_0 : Int) (c1 : List ((Elem × (Elem × (Elem × Bool))))) : OT madd_S.Y :=
  let z0 : Int := ixor c0_0 (1 : Int)
  let z1 : Elem := { w0 := 0, w1 := 0, w2 := 0, w3 := 0 }
  (.br (!onB c0_0 a2)
  (.ok ⟨madd_o0, (((41 : Int), ()), ((c0_0, ((), ())), (c1, ())))⟩)
  (.br (decide ((100000 : Int) ≤ (↑(List.length c1) : Int)))
    (.ok ⟨madd_o0, (((50 : Int), ()), ((c0_0, ((), ())), (c1, ())))⟩)
    (.br (sortOk z0)
      (gd [decide ((List.length c1 + 1) * 104 ≤ 140737488355328)] (.ok ⟨madd_o0, (((0 : Int), ()), ((c0_0, ((), ())), (c1 ++ [(addP (pS z0) a1 z1, a2)], ())))⟩))
      (gd [decide ((List.length c1 + 1) * 104 ≤ 140737488355328)] (.ok ⟨madd_o0, (((0 : Int), ()), ((c0_0, ((), ())), (c1 ++ [(z1, a2)], ())))⟩)))))
theorem madd_q (x : maddX) (Q : madd_S.Y → Prop) : wpf te E_mnew lamNil 1000 Try.f29 (madd_S.inp.inj x).tm (madd_S.inp.inj x).hp (fnK madd_S madd_sel Q) (fun _ _ => False) = (madd_T (x.1.2.1) (x.1.2.2.1) (x.2.1.1) (x.2.2.1)).wpR Q := by kernel_rfl
theorem madd_main (pre : maddX → Bool) (F : maddX → OT madd_S.Y) (hF : ∀ (x : maddX) oy, pre x = true → (F x).run = some oy → (madd_T (x.1.2.1) (x.1.2.2.1) (x.2.1.1) (x.2.2.1)).run = some oy) : SummOk Try.prog 29 (madd_S.summ pre F) :=
  fn_tree te_ok E_mnew_ok E_mnew_any (f := 29) (fn := Try.f29) (c := codeOf Try.f29) (by kernel_rfl) (by kernel_rfl) (by kernel_rfl) (S := madd_S) (k := 2) (by kernel_rfl) (fun R hR => lamOk_nil) (n := 1000) (sel := madd_sel) (fun v o h => by cases h; rfl) (pre := pre) (F := F) (T := fun x => madd_T (x.1.2.1) (x.1.2.2.1) (x.2.1.1) (x.2.2.1)) (fun x Q => madd_q x Q) hF
abbrev Tm : Type := termT.T
def noTm0 : Tm := (⟨0, 0, 0, 0⟩, ⟨0, 0, 0, 0⟩, ⟨0, 0, 0, 0⟩, false)
def roomT (l : List Tm) : Bool := decide (l.length < 100000)
def madd_pre (_ : maddX) : Bool := true
def madd_F (x : maddX) : OT madd_S.Y := .br (onB x.2.1.1 x.1.2.2.1) (.br (roomT x.2.2.1) (.ok ⟨madd_o0, (((0 : Int), ()), ((x.2.1.1, ((), ())), (x.2.2.1 ++ [(scalP x.2.1.1 x.1.2.1, x.1.2.2.1)], ())))⟩)
  (.ok ⟨madd_o0, (((50 : Int), ()), ((x.2.1.1, ((), ())), (x.2.2.1, ())))⟩)) (.ok ⟨madd_o0, (((41 : Int), ()), ((x.2.1.1, ((), ())), (x.2.2.1, ())))⟩)
theorem madd_ok : SummOk Try.prog 29 (madd_S.summ madd_pre madd_F) := madd_main _ _ fun x oy _ ho => by
  rw [← ho]
  clear ho
  obtain ⟨⟨⟨⟩, k, P, ⟨⟩⟩, ⟨⟨c, ⟨⟩, ⟨⟩⟩, l, ⟨⟩⟩⟩ := x
  show (madd_T k P c l).run = (OT.br (onB c P) (.br (roomT l) _ _) _ : OT madd_S.Y).run
  rcases (Bool.eq_false_or_eq_true (onB c P)).symm with h | h
  · exact (OT.run_t (b := !onB c P) (by rw [h]; rfl)).trans (OT.run_f (b := onB c P) h).symm
  · refine (OT.run_f (b := !onB c P) (by rw [h]; rfl)).trans (Eq.trans ?_ (OT.run_t (b := onB c P) h).symm)
    rcases (Bool.eq_false_or_eq_true (roomT l)).symm with h2 | h2
    · have h3 := of_decide_eq_false h2
      exact (OT.run_t (decide_eq_true (by omega))).trans (OT.run_f (b := roomT l) h2).symm
    · have h3 := of_decide_eq_true h2
      refine (OT.run_f (decide_eq_false (by omega))).trans (Eq.trans ?_ (OT.run_t (b := roomT l) h2).symm)
      refine (OT.run_t (sort_other (onB_sort h))).trans ((gd_run ?_).trans rfl)
      simp only [List.all_cons, List.all_nil, Bool.and_true]
      exact decide_eq_true (by omega)
def madd_summ : Summ := (madd_S.summ madd_pre madd_F)
theorem madd_known : SummOk Try.prog 29 madd_summ := madd_ok
theorem madd_smono : MonoOk madd_summ := fn_mono
def E_madd : Env := envCons 29 madd_summ E_mnew
theorem E_madd_ok : EnvOk Try.prog E_madd := envOk_cons madd_known E_mnew_ok
theorem E_madd_mono : EnvMono E_madd := envMono_cons madd_smono E_mnew_mono
theorem E_madd_any : AnyOk Try.prog te E_madd := any_ok follows te_ok E_madd_ok E_madd_mono
def mterms_S : FnSpec := ⟨[.ptr 0 0 0], [(0, lazC (.own 1)), (1, .row termT)], false, 2, true⟩
abbrev mtermsX : Type := ((Unit) × Unit) × (((Int) × (Unit) × Unit) × (List ((Elem × (Elem × (Elem × Bool))))) × Unit)
def mterms_o0 : OutSh := ⟨[.own 2], [(0, .cells [.val false .int, .own 1]), (1, .row (.prod .elem (.prod .elem (.prod .elem .bool)))), (2, .row (.prod .elem (.prod .elem (.prod .elem .bool))))], false⟩
def mterms_sel : SV → Option OutSh := fun _ => some mterms_o0
def mterms_T (c0_0 : Int) (c1 : List ((Elem × (Elem × (Elem × Bool))))) : OT mterms_S.Y :=
  (gd [mclone_pre ((c1, ()), ())] (.ok ⟨mterms_o0, (((), ()), ((c0_0, ((), ())), (c1, (c1, ()))))⟩))
theorem mterms_q (x : mtermsX) (Q : mterms_S.Y → Prop) : wpf te E_madd lamNil 1000 Try.f30 (mterms_S.inp.inj x).tm (mterms_S.inp.inj x).hp (fnK mterms_S mterms_sel Q) (fun _ _ => False) = (mterms_T (x.2.1.1) (x.2.2.1)).wpR Q := by kernel_rfl
theorem mterms_main (pre : mtermsX → Bool) (F : mtermsX → OT mterms_S.Y) (hF : ∀ (x : mtermsX) oy, pre x = true → (F x).run = some oy → (mterms_T (x.2.1.1) (x.2.2.1)).run = some oy) : SummOk Try.prog 30 (mterms_S.summ pre F) :=
  fn_tree te_ok E_madd_ok E_madd_any (f := 30) (fn := Try.f30) (c := codeOf Try.f30) (by kernel_rfl) (by kernel_rfl) (by kernel_rfl) (S := mterms_S) (k := 2) (by kernel_rfl) (fun R hR => lamOk_nil) (n := 1000) (sel := mterms_sel) (fun v o h => by cases h; rfl) (pre := pre) (F := F) (T := fun x => mterms_T (x.2.1.1) (x.2.2.1)) (fun x Q => mterms_q x Q) hF
def mterms_pre (x : mtermsX) : Bool := decide (x.2.2.1.length * 104 ≤ 140737488355328)
def mterms_F (x : mtermsX) : OT mterms_S.Y := .ok ⟨mterms_o0, (((), ()), ((x.2.1.1, ((), ())), (x.2.2.1, (x.2.2.1, ()))))⟩
theorem mterms_ok : SummOk Try.prog 30 (mterms_S.summ mterms_pre mterms_F) := mterms_main _ _ fun x oy hp ho => by
  rw [← ho]
  clear ho
  refine (gd_run ?_).trans rfl
  simp only [List.all_cons, List.all_nil, Bool.and_true]
  exact hp
def mterms_summ : Summ := (mterms_S.summ mterms_pre mterms_F)
theorem mterms_known : SummOk Try.prog 30 mterms_summ := mterms_ok
theorem mterms_smono : MonoOk mterms_summ := fn_mono
def E_mterms : Env := envCons 30 mterms_summ E_madd
theorem E_mterms_ok : EnvOk Try.prog E_mterms := envOk_cons mterms_known E_madd_ok
theorem E_mterms_mono : EnvMono E_mterms := envMono_cons mterms_smono E_madd_mono
theorem E_mterms_any : AnyOk Try.prog te E_mterms := any_ok follows te_ok E_mterms_ok E_mterms_mono
def msingle_S : FnSpec := ⟨[.val false .int, .val false (.list termT)], [], true, 0, false⟩
abbrev msingleX : Type := ((Int) × (List ((Elem × (Elem × (Elem × Bool))))) × Unit) × (Unit)
def msingle_s0 : Shape := ⟨26, [(0, .val false .int), (4, .ptr 0 0 0), (5, .ptr 1 0 0), (9, .val false (.list (.prod .elem (.prod .elem (.prod .elem .bool))))), (10, .val false .int), (11, .val false .int)], [(0, .cells [.val false .u64, .val false .u64, .val false .u64, .val false .u64, .val false .u64, .val false .u64, .val false .u64, .val false .u64, .val false .bool]), (1, .cells [.val false .u64, .val false .u64, .val false .u64, .val false .u64, .val false .u64, .val false .u64, .val false .u64, .val false .u64, .val false .bool])], 0, true⟩
abbrev msingle_s0X : Type := ((Int) × (Unit) × (Unit) × (List ((Elem × (Elem × (Elem × Bool))))) × (Int) × (Int) × Unit) × (((UInt64) × (UInt64) × (UInt64) × (UInt64) × (UInt64) × (UInt64) × (UInt64) × (UInt64) × (Bool) × Unit) × ((UInt64) × (UInt64) × (UInt64) × (UInt64) × (UInt64) × (UInt64) × (UInt64) × (UInt64) × (Bool) × Unit) × Unit)
def msingle_e0_0 : Shape := ⟨26, [(4, .ptr 0 0 0), (5, .ptr 1 0 0)], [(0, .cells [.val false .u64, .val false .u64, .val false .u64, .val false .u64, .val false .u64, .val false .u64, .val false .u64, .val false .u64, .val false .bool]), (1, .cells [.val false .u64, .val false .u64, .val false .u64, .val false .u64, .val false .u64, .val false .u64, .val false .u64, .val false .u64, .val false .bool])], 0, true⟩
abbrev msingle_e0_0X : Type := ((Unit) × (Unit) × Unit) × (((UInt64) × (UInt64) × (UInt64) × (UInt64) × (UInt64) × (UInt64) × (UInt64) × (UInt64) × (Bool) × Unit) × ((UInt64) × (UInt64) × (UInt64) × (UInt64) × (UInt64) × (UInt64) × (UInt64) × (UInt64) × (Bool) × Unit) × Unit)
def msingle_x0 : SE → Option Shape := xsMk [(0, msingle_e0_0)] none
def msingle_T0 (a0 : Int) (a9 : List ((Elem × (Elem × (Elem × Bool))))) (a10 : Int) (a11 : Int) (c0_0 : UInt64) (c0_1 : UInt64) (c0_2 : UInt64) (c0_3 : UInt64) (c0_4 : UInt64) (c0_5 : UInt64) (c0_6 : UInt64) (c0_7 : UInt64) (c0_8 : Bool) (c1_0 : UInt64) (c1_1 : UInt64) (c1_2 : UInt64) (c1_3 : UInt64) (c1_4 : UInt64) (c1_5 : UInt64) (c1_6 : UInt64) (c1_7 : UInt64) (c1_8 : Bool) : OT (Sum msingle_s0X LEnd) :=
  let z0 : Elem := { w0 := 0, w1 := 0, w2 := 0, w3 := 0 }
  let z1 : Elem × Elem × Elem × Bool := List.getD a9 (Int.toNat a11) (z0, z0, z0, false)
  let z2 : Elem × Elem × Bool := addPt a0 ({ w0 := c1_0, w1 := c1_1, w2 := c1_2, w3 := c1_3 }, { w0 := c1_4, w1 := c1_5, w2 := c1_6, w3 := c1_7 }, c1_8) (mulPt a0 z1.fst z1.snd)
  let z3 := z2.fst
  let z4 := z2.snd
  let z5 := z4.fst
  (.br (decide (a11 < a10))
  (gd [inB a11 (List.length a9), inR (a11 + (1 : Int))] (.ok (.inl ((a0, ((), ((), (a9, (a10, (a11 + (1 : Int), ())))))), ((c0_0, (c0_1, (c0_2, (c0_3, (c0_4, (c0_5, (c0_6, (c0_7, (c0_8, ()))))))))), ((z3.w0, (z3.w1, (z3.w2, (z3.w3, (z5.w0, (z5.w1, (z5.w2, (z5.w3, (z4.snd, ()))))))))), ()))))))
  (.ok (.inr ⟨(.exit 0, msingle_e0_0), (((), ((), ())), ((c0_0, (c0_1, (c0_2, (c0_3, (c0_4, (c0_5, (c0_6, (c0_7, (c0_8, ()))))))))), ((c1_0, (c1_1, (c1_2, (c1_3, (c1_4, (c1_5, (c1_6, (c1_7, (c1_8, ()))))))))), ())))⟩)))
def msingle_U0 (s : msingle_s0X) : OT (Sum msingle_s0X LEnd) := msingle_T0 (s.1.1) (s.1.2.2.2.1) (s.1.2.2.2.2.1) (s.1.2.2.2.2.2.1) (s.2.1.1) (s.2.1.2.1) (s.2.1.2.2.1) (s.2.1.2.2.2.1) (s.2.1.2.2.2.2.1) (s.2.1.2.2.2.2.2.1) (s.2.1.2.2.2.2.2.2.1) (s.2.1.2.2.2.2.2.2.2.1) (s.2.1.2.2.2.2.2.2.2.2.1) (s.2.2.1.1) (s.2.2.1.2.1) (s.2.2.1.2.2.1) (s.2.2.1.2.2.2.1) (s.2.2.1.2.2.2.2.1) (s.2.2.1.2.2.2.2.2.1) (s.2.2.1.2.2.2.2.2.2.1) (s.2.2.1.2.2.2.2.2.2.2.1) (s.2.2.1.2.2.2.2.2.2.2.2.1)
theorem msingle_q0 (s : msingle_s0X) (Q : Sum msingle_s0X LEnd → Prop) : wps te E_mterms lamNil 1000 (loopOf (codeOf Try.f94) 0) (msingle_s0.inj s) (stepK msingle_s0 msingle_x0 (Q : Sum msingle_s0.T LEnd → Prop)) = (msingle_U0 s).wpR Q := by kernel_rfl
def msingle_f0 (g0_0 : msingle_s0X → msingle_e0_0X) (s : msingle_s0X) : OT LEnd := (.ok ⟨(.exit 0, msingle_e0_0), g0_0 s⟩)
def msingle_o0 : OutSh := ⟨[.val true (.prod .elem (.prod .elem .bool))], [], false⟩
def msingle_sel : SV → Option OutSh := fun _ => some msingle_o0
def msingle_T (ok0 : msingle_s0X → Bool) (g0_0 : msingle_s0X → msingle_e0_0X) (a0 : Int) (a1 : List ((Elem × (Elem × (Elem × Bool))))) : OT msingle_S.Y :=
  let z0 : (Int × PUnit × PUnit × List (Elem × Elem × Elem × Bool) × Int × Int × PUnit) × (UInt64 × UInt64 × UInt64 × UInt64 × UInt64 × UInt64 × UInt64 × UInt64 × Bool × PUnit) × (UInt64 × UInt64 × UInt64 × UInt64 × UInt64 × UInt64 × UInt64 × UInt64 × Bool × PUnit) × PUnit := ((a0, (), (), a1, (↑(List.length a1) : Int), (0 : Int), ()), ((0 : UInt64), (0 : UInt64), (0 : UInt64), (0 : UInt64), (0 : UInt64), (0 : UInt64), (0 : UInt64), (0 : UInt64), false, ()), ((0 : UInt64), (0 : UInt64), (0 : UInt64), (0 : UInt64), (0 : UInt64), (0 : UInt64), (0 : UInt64), (0 : UInt64), true, ()), ())
  let z1 := (g0_0 z0).snd.snd.fst
  let z2 := z1.snd
  let z3 := z2.snd
  let z4 := z3.snd
  let z5 := z4.snd
  let z6 := z5.snd
  let z7 := z6.snd
  let z8 := z7.snd
  (gd [ok0 z0] (.ok ⟨msingle_o0, ((({ w0 := z1.fst, w1 := z2.fst, w2 := z3.fst, w3 := z4.fst }, { w0 := z5.fst, w1 := z6.fst, w2 := z7.fst, w3 := z8.fst }, z8.snd.fst), ()), ())⟩))
theorem msingle_q (ok0 : msingle_s0X → Bool) (g0_0 : msingle_s0X → msingle_e0_0X) (x : msingleX) (Q : msingle_S.Y → Prop) : wpf te E_mterms (lamCons 0 (loopF msingle_s0 0 ok0 (msingle_f0 g0_0)) lamNil) 1000 Try.f94 (msingle_S.inp.inj x).tm (msingle_S.inp.inj x).hp (fnK msingle_S msingle_sel Q) (fun _ _ => False) = (msingle_T ok0 g0_0 (x.1.1) (x.1.2.1)).wpR Q := by kernel_rfl
theorem msingle_main (ok0 : msingle_s0X → Bool) (g0_0 : msingle_s0X → msingle_e0_0X) (h0 : ∀ s : msingle_s0X, ok0 s = true → ∃ m e, loopRun (msingle_U0) m s = some e ∧ (msingle_f0 g0_0 s).run = some e) (pre : msingleX → Bool) (F : msingleX → OT msingle_S.Y) (hF : ∀ (x : msingleX) oy, pre x = true → (F x).run = some oy → (msingle_T ok0 g0_0 (x.1.1) (x.1.2.1)).run = some oy) : SummOk Try.prog 94 (msingle_S.summ pre F) :=
  fn_tree te_ok E_mterms_ok E_mterms_any (f := 94) (fn := Try.f94) (c := codeOf Try.f94) (by kernel_rfl) (by kernel_rfl) (by kernel_rfl) (S := msingle_S) (k := 0) (by kernel_rfl) (fun R hR => (lamOk_cons (c := (codeOf Try.f94)) (by kernel_rfl) (id := 0) (by kernel_rfl) (loop_ok te_ok E_mterms_ok E_mterms_any (sh := msingle_s0) hR (xs := msingle_x0) (xsMk_small (by kernel_rfl) (by kernel_rfl) hR) xsMk_pan lamOk_nil (n := 1000) (T := msingle_U0) (fun s Q => msingle_q0 s Q) (ok := ok0) (f := msingle_f0 g0_0) h0) lamOk_nil)) (n := 1000) (sel := msingle_sel) (fun v o h => by cases h; rfl) (pre := pre) (F := F) (T := fun x => msingle_T ok0 g0_0 (x.1.1) (x.1.2.1)) (fun x Q => msingle_q ok0 g0_0 x Q) hF
def singleStep (c : Int) (l : List Tm) (k : Nat) (O : Pt) : Pt := addPt c O (mulPt c (l.getD k noTm0).1 (l.getD k noTm0).2)
def singlePt (c : Int) (l : List Tm) : Pt := upto (singleStep c l) inftyP l.length
def msingle_ok0 (s : msingle_s0X) : Bool := decide (s.1.2.2.2.2.1 = (s.1.2.2.2.1.length : Int) ∧ s.1.2.2.2.2.2.1 = 0 ∧ cellP s.2.2.1 = inftyP ∧ s.1.2.2.2.1.length ≤ 140737488355328)
def msingle_g0 (s : msingle_s0X) : msingle_e0_0X := (((), (), ()), (s.2.1, flatP (singlePt s.1.1 s.1.2.2.2.1), ()))
theorem msingle_h0 : ∀ s : msingle_s0X, msingle_ok0 s = true → ∃ m e, loopRun msingle_U0 m s = some e ∧ (msingle_f0 msingle_g0 s).run = some e := by
  rintro ⟨⟨c, ⟨⟩, ⟨⟩, l, n, i, ⟨⟩⟩, ⟨c0, c1, ⟨⟩⟩⟩ h
  have h' := of_decide_eq_true h
  dsimp only at h'
  obtain ⟨rfl, rfl, hO, hl⟩ := h'
  have hO2 : c1 = flatP inftyP := by rw [← hO]; rfl
  subst hO2
  have := (loop_upto (T := msingle_U0) (fun i O => (((c, (), (), l, (l.length : Int), (i : Int), ()), (c0, flatP O, ())) : msingle_s0X)) (singleStep c l)
    (fun O => (⟨(.exit 0, msingle_e0_0), (((), (), ()), (c0, flatP O, ()))⟩ : LEnd)) l.length inftyP (fun _ _ => True) trivial (fun k O hk _ => ⟨?_, trivial⟩) (fun O _ => ?_)).1
  · obtain ⟨m, hm⟩ := this
    exact ⟨m, _, hm, rfl⟩
  · refine (OT.run_t (decide_eq_true (by dsimp only; omega))).trans ((gd_run ?_).trans ?_)
    · simp only [List.all_cons, List.all_nil, Bool.and_true, Bool.and_eq_true]
      exact ⟨inB_of (by omega), inR_of (by omega)⟩
    · simp only [OT.run_ok, Int.toNat_natCast]
      rfl
  · exact OT.run_f (decide_eq_false (by dsimp only; omega))
def msingle_pre (x : msingleX) : Bool := decide (x.1.2.1.length ≤ 140737488355328)
def msingle_F (x : msingleX) : OT msingle_S.Y := .ok ⟨msingle_o0, ((singlePt x.1.1 x.1.2.1, ()), ())⟩
theorem msingle_ok : SummOk Try.prog 94 (msingle_S.summ msingle_pre msingle_F) := msingle_main msingle_ok0 msingle_g0 msingle_h0 _ _ fun x oy hp ho => by
  rw [← ho]
  clear ho
  obtain ⟨⟨c, l, ⟨⟩⟩, ⟨⟩⟩ := x
  have hl : l.length ≤ 140737488355328 := of_decide_eq_true hp
  refine (gd_run ?_).trans rfl
  simp only [List.all_cons, List.all_nil, Bool.and_true]
  exact decide_eq_true ⟨rfl, rfl, rfl, hl⟩
def msingle_summ : Summ := (msingle_S.summ msingle_pre msingle_F)
theorem msingle_known : SummOk Try.prog 94 msingle_summ := msingle_ok
theorem msingle_smono : MonoOk msingle_summ := fn_mono
def E_msingle : Env := envCons 94 msingle_summ E_mterms
theorem E_msingle_ok : EnvOk Try.prog E_msingle := envOk_cons msingle_known E_mterms_ok
theorem E_msingle_mono : EnvMono E_msingle := envMono_cons msingle_smono E_mterms_mono
theorem E_msingle_any : AnyOk Try.prog te E_msingle := any_ok follows te_ok E_msingle_ok E_msingle_mono
def mtop1_S : FnSpec := ⟨[.val true termT, .ptr 0 0 0], [(0, .cells [.val false .int])], false, 1, true⟩
abbrev mtop1X : Type := (((Elem × (Elem × (Elem × Bool)))) × (Unit) × Unit) × (((Int) × Unit) × Unit)
def mtop1_o0 : OutSh := ⟨[.val false .bool], [(0, .cells [.val false .int])], false⟩
def mtop1_sel : SV → Option OutSh := fun _ => some mtop1_o0
def mtop1_T (a0 : (Elem × (Elem × (Elem × Bool)))) (c0_0 : Int) : OT mtop1_S.Y :=
  (.ok ⟨mtop1_o0, ((bitI a0.fst c0_0, ()), ((c0_0, ()), ()))⟩)
theorem mtop1_q (x : mtop1X) (Q : mtop1_S.Y → Prop) : wpf te E_msingle lamNil 1000 Try.f112 (mtop1_S.inp.inj x).tm (mtop1_S.inp.inj x).hp (fnK mtop1_S mtop1_sel Q) (fun _ _ => False) = (mtop1_T (x.1.1) (x.2.1.1)).wpR Q := by kernel_rfl
theorem mtop1_main (pre : mtop1X → Bool) (F : mtop1X → OT mtop1_S.Y) (hF : ∀ (x : mtop1X) oy, pre x = true → (F x).run = some oy → (mtop1_T (x.1.1) (x.2.1.1)).run = some oy) : SummOk Try.prog 112 (mtop1_S.summ pre F) :=
  fn_tree te_ok E_msingle_ok E_msingle_any (f := 112) (fn := Try.f112) (c := codeOf Try.f112) (by kernel_rfl) (by kernel_rfl) (by kernel_rfl) (S := mtop1_S) (k := 1) (by kernel_rfl) (fun R hR => lamOk_nil) (n := 1000) (sel := mtop1_sel) (fun v o h => by cases h; rfl) (pre := pre) (F := F) (T := fun x => mtop1_T (x.1.1) (x.2.1.1)) (fun x Q => mtop1_q x Q) hF
def mtop1_pre (_ : mtop1X) : Bool := true
def mtop1_F (x : mtop1X) : OT mtop1_S.Y := .ok ⟨mtop1_o0, ((bitI x.1.1.1 x.2.1.1, ()), ((x.2.1.1, ()), ()))⟩
theorem mtop1_ok : SummOk Try.prog 112 (mtop1_S.summ mtop1_pre mtop1_F) := mtop1_main _ _ fun x oy hp ho => by
  rw [← ho]
  rfl
def mtop1_summ : Summ := (mtop1_S.summ mtop1_pre mtop1_F)
theorem mtop1_known : SummOk Try.prog 112 mtop1_summ := mtop1_ok
theorem mtop1_smono : MonoOk mtop1_summ := fn_mono
def E_mtop1 : Env := envCons 112 mtop1_summ E_msingle
theorem E_mtop1_ok : EnvOk Try.prog E_mtop1 := envOk_cons mtop1_known E_msingle_ok
theorem E_mtop1_mono : EnvMono E_mtop1 := envMono_cons mtop1_smono E_msingle_mono
theorem E_mtop1_any : AnyOk Try.prog te E_mtop1 := any_ok follows te_ok E_mtop1_ok E_mtop1_mono
def mindexf_S : FnSpec := ⟨[.val false (.list termT), .fn 112 [0]], [(0, .cells [.val false .int])], true, 1, true⟩
abbrev mindexfX : Type := ((List ((Elem × (Elem × (Elem × Bool))))) × (Unit) × Unit) × (((Int) × Unit) × Unit)
def mindexf_s0 : Shape := ⟨19, [(0, .val false (.list (.prod .elem (.prod .elem (.prod .elem .bool))))), (1, .fn 112 [0]), (7, .val false .int), (8, .val false .int)], [(0, .cells [.val false .int])], 1, true⟩
abbrev mindexf_s0X : Type := ((List ((Elem × (Elem × (Elem × Bool))))) × (Unit) × (Int) × (Int) × Unit) × (((Int) × Unit) × Unit)
def mindexf_e0_r : Shape := ⟨19, [(4, .val false .int)], [(0, .cells [.val false .int])], 1, true⟩
abbrev mindexf_e0_rX : Type := ((Int) × Unit) × (((Int) × Unit) × Unit)
def mindexf_e0_0 : Shape := ⟨19, [], [(0, .cells [.val false .int])], 1, true⟩
abbrev mindexf_e0_0X : Type := (Unit) × (((Int) × Unit) × Unit)
def mindexf_x0 : SE → Option Shape := xsMk [(0, mindexf_e0_0)] (some mindexf_e0_r)
def mindexf_T0 (a0 : List ((Elem × (Elem × (Elem × Bool))))) (a7 : Int) (a8 : Int) (c0_0 : Int) : OT (Sum mindexf_s0X LEnd) :=
  let z0 : Elem := { w0 := 0, w1 := 0, w2 := 0, w3 := 0 }
  (.br (decide (a8 < a7))
  (gd [inB a8 (List.length a0)] (.br (bitI (List.getD a0 (Int.toNat a8) (z0, z0, z0, false)).fst c0_0)
    (.ok (.inr ⟨(.ret, mindexf_e0_r), ((a8, ()), ((c0_0, ()), ()))⟩))
    (gd [inR (a8 + (1 : Int))] (.ok (.inl ((a0, ((), (a7, (a8 + (1 : Int), ())))), ((c0_0, ()), ())))))))
  (.ok (.inr ⟨(.exit 0, mindexf_e0_0), ((), ((c0_0, ()), ()))⟩)))
def mindexf_U0 (s : mindexf_s0X) : OT (Sum mindexf_s0X LEnd) := mindexf_T0 (s.1.1) (s.1.2.2.1) (s.1.2.2.2.1) (s.2.1.1)
theorem mindexf_q0 (s : mindexf_s0X) (Q : Sum mindexf_s0X LEnd → Prop) : wps te E_mtop1 lamNil 1000 (loopOf (codeOf Try.f116) 0) (mindexf_s0.inj s) (stepK mindexf_s0 mindexf_x0 (Q : Sum mindexf_s0.T LEnd → Prop)) = (mindexf_U0 s).wpR Q := by kernel_rfl
def mindexf_f0 (g0_r : mindexf_s0X → mindexf_e0_rX) (c0_r : mindexf_s0X → Bool) (g0_0 : mindexf_s0X → mindexf_e0_0X) (s : mindexf_s0X) : OT LEnd := (.br (c0_r s) (.ok ⟨(.ret, mindexf_e0_r), g0_r s⟩) (.ok ⟨(.exit 0, mindexf_e0_0), g0_0 s⟩))
def mindexf_o0 : OutSh := ⟨[.val false .int], [(0, .cells [.val false .int])], false⟩
def mindexf_sel : SV → Option OutSh := fun _ => some mindexf_o0
def mindexf_T (ok0 : mindexf_s0X → Bool) (g0_r : mindexf_s0X → mindexf_e0_rX) (c0_r : mindexf_s0X → Bool) (g0_0 : mindexf_s0X → mindexf_e0_0X) (a0 : List ((Elem × (Elem × (Elem × Bool))))) (c0_0 : Int) : OT mindexf_S.Y :=
  let z0 : (List (Elem × Elem × Elem × Bool) × PUnit × Int × Int × PUnit) × (Int × PUnit) × PUnit := ((a0, (), (↑(List.length a0) : Int), (0 : Int), ()), (c0_0, ()), ())
  let z1 : (Int × PUnit) × (Int × PUnit) × PUnit := g0_r z0
  (gd [ok0 z0] (.br (c0_r z0)
  (.ok ⟨mindexf_o0, ((z1.fst.fst, ()), ((z1.snd.fst.fst, ()), ()))⟩)
  (.ok ⟨mindexf_o0, (((-1 : Int), ()), (((g0_0 z0).snd.fst.fst, ()), ()))⟩)))
theorem mindexf_q (ok0 : mindexf_s0X → Bool) (g0_r : mindexf_s0X → mindexf_e0_rX) (c0_r : mindexf_s0X → Bool) (g0_0 : mindexf_s0X → mindexf_e0_0X) (x : mindexfX) (Q : mindexf_S.Y → Prop) : wpf te E_mtop1 (lamCons 0 (loopF mindexf_s0 0 ok0 (mindexf_f0 g0_r c0_r g0_0)) lamNil) 1000 Try.f116 (mindexf_S.inp.inj x).tm (mindexf_S.inp.inj x).hp (fnK mindexf_S mindexf_sel Q) (fun _ _ => False) = (mindexf_T ok0 g0_r c0_r g0_0 (x.1.1) (x.2.1.1)).wpR Q := by kernel_rfl
theorem mindexf_main (ok0 : mindexf_s0X → Bool) (g0_r : mindexf_s0X → mindexf_e0_rX) (c0_r : mindexf_s0X → Bool) (g0_0 : mindexf_s0X → mindexf_e0_0X) (h0 : ∀ s : mindexf_s0X, ok0 s = true → ∃ m e, loopRun (mindexf_U0) m s = some e ∧ (mindexf_f0 g0_r c0_r g0_0 s).run = some e) (pre : mindexfX → Bool) (F : mindexfX → OT mindexf_S.Y) (hF : ∀ (x : mindexfX) oy, pre x = true → (F x).run = some oy → (mindexf_T ok0 g0_r c0_r g0_0 (x.1.1) (x.2.1.1)).run = some oy) : SummOk Try.prog 116 (mindexf_S.summ pre F) :=
  fn_tree te_ok E_mtop1_ok E_mtop1_any (f := 116) (fn := Try.f116) (c := codeOf Try.f116) (by kernel_rfl) (by kernel_rfl) (by kernel_rfl) (S := mindexf_S) (k := 1) (by kernel_rfl) (fun R hR => (lamOk_cons (c := (codeOf Try.f116)) (by kernel_rfl) (id := 0) (by kernel_rfl) (loop_ok te_ok E_mtop1_ok E_mtop1_any (sh := mindexf_s0) hR (xs := mindexf_x0) (xsMk_small (by kernel_rfl) (by kernel_rfl) hR) xsMk_pan lamOk_nil (n := 1000) (T := mindexf_U0) (fun s Q => mindexf_q0 s Q) (ok := ok0) (f := mindexf_f0 g0_r c0_r g0_0) h0) lamOk_nil)) (n := 1000) (sel := mindexf_sel) (fun v o h => by cases h; rfl) (pre := pre) (F := F) (T := fun x => mindexf_T ok0 g0_r c0_r g0_0 (x.1.1) (x.2.1.1)) (fun x Q => mindexf_q ok0 g0_r c0_r g0_0 x Q) hF
def firstT (l : List Tm) (i : Int) : Nat → Nat → Int
  | 0, _ => -1
  | n + 1, k => cond (bitI (l.getD k noTm0).1 i) (k : Int) (firstT l i n (k + 1))
def mindexf_ok0 (s : mindexf_s0X) : Bool := decide (s.1.2.2.1 = (s.1.1.length : Int) ∧ s.1.2.2.2.1 = 0 ∧ s.1.1.length ≤ 140737488355328)
def firstOf (l : List Tm) (i : Int) : Int := firstT l i l.length 0
def mindexf_g0r (s : mindexf_s0X) : mindexf_e0_rX := ((firstOf s.1.1 s.2.1.1, ()), s.2)
def mindexf_c0 (s : mindexf_s0X) : Bool := decide (0 ≤ firstOf s.1.1 s.2.1.1)
def mindexf_g0 (s : mindexf_s0X) : mindexf_e0_0X := ((), s.2)
def idx_st (l : List Tm) (i k : Int) : mindexf_s0X := ((l, (), (l.length : Int), k, ()), ((i, ()), ()))
theorem first_neg (l : List Tm) (i : Int) : ∀ n k, firstT l i n k = -1 ∨ 0 ≤ firstT l i n k
  | 0, _ => .inl rfl
  | n + 1, k => by
    unfold firstT
    cases bitI (l.getD k noTm0).1 i
    · exact first_neg l i n (k + 1)
    · right
      show (0 : Int) ≤ (k : Int)
      omega
theorem idx_loop (l : List Tm) (i : Int) (hl : l.length ≤ 140737488355328) : ∀ n k : Nat, k + n = l.length →
    ∃ m, loopRun mindexf_U0 m (idx_st l i (k : Int)) = some (cond (decide (0 ≤ firstT l i n k)) ⟨(.ret, mindexf_e0_r), ((firstT l i n k, ()), ((i, ()), ()))⟩ ⟨(.exit 0, mindexf_e0_0), ((), ((i, ()), ()))⟩)
  | 0, k, h => ⟨1, loopRun_out (OT.run_f (decide_eq_false (by dsimp only [idx_st]; omega)))⟩
  | n + 1, k, h => by
    have hin : inB (k : Int) l.length = true := inB_of (by omega)
    have hgd : ∀ z : OT (Sum mindexf_s0X LEnd), (gd [inB (k : Int) l.length] z).run = z.run := fun z => gd_run (by rw [hin]; rfl)
    unfold firstT
    rcases (Bool.eq_false_or_eq_true (bitI (l.getD k noTm0).1 i)).symm with hb | hb
    · obtain ⟨m, hm⟩ := idx_loop l i hl n (k + 1) (by omega)
      rw [hb]
      refine ⟨m + 1, loopRun_more ?_ hm⟩
      refine (OT.run_t (decide_eq_true (by dsimp only [idx_st]; omega))).trans ((hgd _).trans ((OT.run_f hb).trans ((gd_run ?_).trans rfl)))
      simp only [List.all_cons, List.all_nil, Bool.and_true]
      exact inR_of (by dsimp only [idx_st]; omega)
    · rw [hb]
      have e : decide ((0 : Int) ≤ cond true (k : Int) (firstT l i n (k + 1))) = true := decide_eq_true (by show (0 : Int) ≤ (k : Int); omega)
      rw [e]
      refine ⟨1, loopRun_out ?_⟩
      exact (OT.run_t (decide_eq_true (by dsimp only [idx_st]; omega))).trans ((hgd _).trans ((OT.run_t hb).trans rfl))
theorem mindexf_h0 : ∀ s : mindexf_s0X, mindexf_ok0 s = true → ∃ m e, loopRun mindexf_U0 m s = some e ∧ (mindexf_f0 mindexf_g0r mindexf_c0 mindexf_g0 s).run = some e := by
  rintro ⟨⟨l, ⟨⟩, n, k, ⟨⟩⟩, ⟨⟨i, ⟨⟩⟩, ⟨⟩⟩⟩ h
  have h' := of_decide_eq_true h
  dsimp only at h'
  obtain ⟨rfl, rfl, hl⟩ := h'
  obtain ⟨m, hm⟩ := idx_loop l i hl l.length 0 (by omega)
  refine ⟨m, _, hm, ?_⟩
  show (OT.br (decide (0 ≤ firstOf l i)) _ _ : OT LEnd).run = some (cond (decide (0 ≤ firstOf l i)) _ _)
  cases decide (0 ≤ firstOf l i) <;> rfl
def mindexf_pre (x : mindexfX) : Bool := decide (x.1.1.length ≤ 140737488355328)
def mindexf_F (x : mindexfX) : OT mindexf_S.Y := .ok ⟨mindexf_o0, ((firstOf x.1.1 x.2.1.1, ()), x.2)⟩
theorem mindexf_ok : SummOk Try.prog 116 (mindexf_S.summ mindexf_pre mindexf_F) := mindexf_main mindexf_ok0 mindexf_g0r mindexf_c0 mindexf_g0 mindexf_h0 _ _ fun x oy hp ho => by
  rw [← ho]
  clear ho
  obtain ⟨⟨l, ⟨⟩, ⟨⟩⟩, ⟨⟨i, ⟨⟩⟩, ⟨⟩⟩⟩ := x
  have hl : l.length ≤ 140737488355328 := of_decide_eq_true hp
  refine (gd_run ?_).trans ?_
  · simp only [List.all_cons, List.all_nil, Bool.and_true]
    exact decide_eq_true ⟨rfl, rfl, hl⟩
  · show (OT.br (decide (0 ≤ firstOf l i)) (.ok ⟨mindexf_o0, ((firstOf l i, ()), ((i, ()), ()))⟩) (.ok ⟨mindexf_o0, (((-1 : Int), ()), ((i, ()), ()))⟩) : OT mindexf_S.Y).run = some ⟨mindexf_o0, ((firstOf l i, ()), ((i, ()), ()))⟩
    rcases first_neg l i l.length 0 with h | h
    · have h : firstOf l i = -1 := h
      rw [h]
      rfl
    · exact OT.run_t (decide_eq_true h)
def mindexf_summ : Summ := (mindexf_S.summ mindexf_pre mindexf_F)
theorem mindexf_known : SummOk Try.prog 116 mindexf_summ := mindexf_ok
theorem mindexf_smono : MonoOk mindexf_summ := fn_mono
def E_mindexf : Env := envCons 116 mindexf_summ E_mtop1
theorem E_mindexf_ok : EnvOk Try.prog E_mindexf := envOk_cons mindexf_known E_mtop1_ok
theorem E_mindexf_mono : EnvMono E_mindexf := envMono_cons mindexf_smono E_mtop1_mono
theorem E_mindexf_any : AnyOk Try.prog te E_mindexf := any_ok follows te_ok E_mindexf_ok E_mindexf_mono
def mcontf_S : FnSpec := ⟨[.val false (.list termT), .fn 112 [0]], [(0, .cells [.val false .int])], true, 1, true⟩
abbrev mcontfX : Type := ((List ((Elem × (Elem × (Elem × Bool))))) × (Unit) × Unit) × (((Int) × Unit) × Unit)
def mcontf_o0 : OutSh := ⟨[.val false .bool], [(0, .cells [.val false .int])], false⟩
def mcontf_sel : SV → Option OutSh := fun _ => some mcontf_o0
def mcontf_T (a0 : List ((Elem × (Elem × (Elem × Bool))))) (c0_0 : Int) : OT mcontf_S.Y :=
  (gd [mindexf_pre ((a0, (), ()), (c0_0, ()), ())] (.ok ⟨mcontf_o0, ((decide ((0 : Int) ≤ firstOf a0 c0_0), ()), ((c0_0, ()), ()))⟩))
theorem mcontf_q (x : mcontfX) (Q : mcontf_S.Y → Prop) : wpf te E_mindexf lamNil 1000 Try.f111 (mcontf_S.inp.inj x).tm (mcontf_S.inp.inj x).hp (fnK mcontf_S mcontf_sel Q) (fun _ _ => False) = (mcontf_T (x.1.1) (x.2.1.1)).wpR Q := by kernel_rfl
theorem mcontf_main (pre : mcontfX → Bool) (F : mcontfX → OT mcontf_S.Y) (hF : ∀ (x : mcontfX) oy, pre x = true → (F x).run = some oy → (mcontf_T (x.1.1) (x.2.1.1)).run = some oy) : SummOk Try.prog 111 (mcontf_S.summ pre F) :=
  fn_tree te_ok E_mindexf_ok E_mindexf_any (f := 111) (fn := Try.f111) (c := codeOf Try.f111) (by kernel_rfl) (by kernel_rfl) (by kernel_rfl) (S := mcontf_S) (k := 1) (by kernel_rfl) (fun R hR => lamOk_nil) (n := 1000) (sel := mcontf_sel) (fun v o h => by cases h; rfl) (pre := pre) (F := F) (T := fun x => mcontf_T (x.1.1) (x.2.1.1)) (fun x Q => mcontf_q x Q) hF
def anyT (l : List Tm) (i : Int) : Bool := decide (0 ≤ firstOf l i)
def mcontf_pre (x : mcontfX) : Bool := decide (x.1.1.length ≤ 140737488355328)
def mcontf_F (x : mcontfX) : OT mcontf_S.Y := .ok ⟨mcontf_o0, ((anyT x.1.1 x.2.1.1, ()), x.2)⟩
theorem mcontf_ok : SummOk Try.prog 111 (mcontf_S.summ mcontf_pre mcontf_F) := mcontf_main _ _ fun x oy hp ho => by
  rw [← ho]
  clear ho
  refine (gd_run ?_).trans rfl
  simp only [List.all_cons, List.all_nil, Bool.and_true]
  exact hp
def mcontf_summ : Summ := (mcontf_S.summ mcontf_pre mcontf_F)
theorem mcontf_known : SummOk Try.prog 111 mcontf_summ := mcontf_ok
theorem mcontf_smono : MonoOk mcontf_summ := fn_mono
def E_mcontf : Env := envCons 111 mcontf_summ E_mindexf
theorem E_mcontf_ok : EnvOk Try.prog E_mcontf := envOk_cons mcontf_known E_mindexf_ok
theorem E_mcontf_mono : EnvMono E_mcontf := envMono_cons mcontf_smono E_mindexf_mono
theorem E_mcontf_any : AnyOk Try.prog te E_mcontf := any_ok follows te_ok E_mcontf_ok E_mcontf_mono
def mtop_S : FnSpec := ⟨[.val false (.list termT)], [], true, 0, false⟩
abbrev mtopX : Type := ((List ((Elem × (Elem × (Elem × Bool))))) × Unit) × (Unit)
def mtop_s0 : Shape := ⟨14, [(0, .val false (.list (.prod .elem (.prod .elem (.prod .elem .bool))))), (3, .ptr 0 0 0)], [(0, .cells [.val false .int])], 0, true⟩
abbrev mtop_s0X : Type := ((List ((Elem × (Elem × (Elem × Bool))))) × (Unit) × Unit) × (((Int) × Unit) × Unit)
def mtop_e0_r : Shape := ⟨14, [(2, .val false .int)], [], 0, true⟩
abbrev mtop_e0_rX : Type := ((Int) × Unit) × (Unit)
def mtop_e0_0 : Shape := ⟨14, [], [], 0, true⟩
abbrev mtop_e0_0X : Type := (Unit) × (Unit)
def mtop_x0 : SE → Option Shape := xsMk [(0, mtop_e0_0)] (some mtop_e0_r)
def mtop_T0 (a0 : List ((Elem × (Elem × (Elem × Bool))))) (c0_0 : Int) : OT (Sum mtop_s0X LEnd) :=
  (.br (decide ((0 : Int) ≤ c0_0))
  (gd [mcontf_pre ((a0, (), ()), (c0_0, ()), ())] (.br (anyT a0 c0_0)
    (gd [inR (c0_0 + (1 : Int))] (.ok (.inr ⟨(.ret, mtop_e0_r), ((c0_0 + (1 : Int), ()), ())⟩)))
    (gd [inR (c0_0 - (1 : Int))] (.ok (.inl ((a0, ((), ())), ((c0_0 - (1 : Int), ()), ())))))))
  (.ok (.inr ⟨(.exit 0, mtop_e0_0), ((), ())⟩)))
def mtop_U0 (s : mtop_s0X) : OT (Sum mtop_s0X LEnd) := mtop_T0 (s.1.1) (s.2.1.1)
theorem mtop_q0 (s : mtop_s0X) (Q : Sum mtop_s0X LEnd → Prop) : wps te E_mcontf lamNil 1000 (loopOf (codeOf Try.f95) 0) (mtop_s0.inj s) (stepK mtop_s0 mtop_x0 (Q : Sum mtop_s0.T LEnd → Prop)) = (mtop_U0 s).wpR Q := by kernel_rfl
def mtop_f0 (g0_r : mtop_s0X → mtop_e0_rX) (c0_r : mtop_s0X → Bool) (g0_0 : mtop_s0X → mtop_e0_0X) (s : mtop_s0X) : OT LEnd := (.br (c0_r s) (.ok ⟨(.ret, mtop_e0_r), g0_r s⟩) (.ok ⟨(.exit 0, mtop_e0_0), g0_0 s⟩))
def mtop_o0 : OutSh := ⟨[.val false .int], [], false⟩
def mtop_sel : SV → Option OutSh := fun _ => some mtop_o0
def mtop_T (ok0 : mtop_s0X → Bool) (g0_r : mtop_s0X → mtop_e0_rX) (c0_r : mtop_s0X → Bool) (g0_0 : mtop_s0X → mtop_e0_0X) (a0 : List ((Elem × (Elem × (Elem × Bool))))) : OT mtop_S.Y :=
  let z0 : (List (Elem × Elem × Elem × Bool) × PUnit × PUnit) × (Int × PUnit) × PUnit := ((a0, (), ()), ((255 : Int), ()), ())
  (gd [ok0 z0] (.br (c0_r z0)
  (.ok ⟨mtop_o0, (((g0_r z0).fst.fst, ()), ())⟩)
  (.ok ⟨mtop_o0, (((0 : Int), ()), ())⟩)))
theorem mtop_q (ok0 : mtop_s0X → Bool) (g0_r : mtop_s0X → mtop_e0_rX) (c0_r : mtop_s0X → Bool) (g0_0 : mtop_s0X → mtop_e0_0X) (x : mtopX) (Q : mtop_S.Y → Prop) : wpf te E_mcontf (lamCons 0 (loopF mtop_s0 0 ok0 (mtop_f0 g0_r c0_r g0_0)) lamNil) 1000 Try.f95 (mtop_S.inp.inj x).tm (mtop_S.inp.inj x).hp (fnK mtop_S mtop_sel Q) (fun _ _ => False) = (mtop_T ok0 g0_r c0_r g0_0 (x.1.1)).wpR Q := by kernel_rfl
theorem mtop_main (ok0 : mtop_s0X → Bool) (g0_r : mtop_s0X → mtop_e0_rX) (c0_r : mtop_s0X → Bool) (g0_0 : mtop_s0X → mtop_e0_0X) (h0 : ∀ s : mtop_s0X, ok0 s = true → ∃ m e, loopRun (mtop_U0) m s = some e ∧ (mtop_f0 g0_r c0_r g0_0 s).run = some e) (pre : mtopX → Bool) (F : mtopX → OT mtop_S.Y) (hF : ∀ (x : mtopX) oy, pre x = true → (F x).run = some oy → (mtop_T ok0 g0_r c0_r g0_0 (x.1.1)).run = some oy) : SummOk Try.prog 95 (mtop_S.summ pre F) :=
  fn_tree te_ok E_mcontf_ok E_mcontf_any (f := 95) (fn := Try.f95) (c := codeOf Try.f95) (by kernel_rfl) (by kernel_rfl) (by kernel_rfl) (S := mtop_S) (k := 0) (by kernel_rfl) (fun R hR => (lamOk_cons (c := (codeOf Try.f95)) (by kernel_rfl) (id := 0) (by kernel_rfl) (loop_ok te_ok E_mcontf_ok E_mcontf_any (sh := mtop_s0) hR (xs := mtop_x0) (xsMk_small (by kernel_rfl) (by kernel_rfl) hR) xsMk_pan lamOk_nil (n := 1000) (T := mtop_U0) (fun s Q => mtop_q0 s Q) (ok := ok0) (f := mtop_f0 g0_r c0_r g0_0) h0) lamOk_nil)) (n := 1000) (sel := mtop_sel) (fun v o h => by cases h; rfl) (pre := pre) (F := F) (T := fun x => mtop_T ok0 g0_r c0_r g0_0 (x.1.1)) (fun x Q => mtop_q ok0 g0_r c0_r g0_0 x Q) hF
def topB (l : List Tm) : Nat → Nat
  | 0 => 0
  | n + 1 => cond (anyT l (n : Int)) (n + 1) (topB l n)
def topT (l : List Tm) : Nat := topB l 256
def mtop_ok0 (s : mtop_s0X) : Bool := decide (s.2.1.1 = 255 ∧ s.1.1.length ≤ 140737488355328)
def mtop_g0r (s : mtop_s0X) : mtop_e0_rX := (((topT s.1.1 : Int), ()), ())
def mtop_c0 (s : mtop_s0X) : Bool := decide ((0 : Int) < (topT s.1.1 : Int))
def mtop_g0 (_ : mtop_s0X) : mtop_e0_0X := ((), ())
def top_st (l : List Tm) (i : Int) : mtop_s0X := ((l, (), ()), ((i, ()), ()))
theorem top_loop (l : List Tm) (hl : l.length ≤ 140737488355328) : ∀ n : Nat, n ≤ 256 →
    ∃ m, loopRun mtop_U0 m (top_st l ((n : Int) - 1)) = some (cond (decide ((0 : Int) < (topB l n : Int))) ⟨(.ret, mtop_e0_r), (((topB l n : Int), ()), ())⟩ ⟨(.exit 0, mtop_e0_0), ((), ())⟩)
  | 0, _ => ⟨1, loopRun_out (OT.run_f (decide_eq_false (by dsimp only [top_st]; omega)))⟩
  | n + 1, h => by
    rw [show ((n + 1 : Nat) : Int) - 1 = (n : Int) by omega]
    have hgd : ∀ z : OT (Sum mtop_s0X LEnd), (gd [mcontf_pre ((l, (), ()), ((n : Int), ()), ())] z).run = z.run := fun z => gd_run (by
      simp only [List.all_cons, List.all_nil, Bool.and_true]
      exact decide_eq_true hl)
    unfold topB
    rcases (Bool.eq_false_or_eq_true (anyT l (n : Int))).symm with hb | hb
    · obtain ⟨m, hm⟩ := top_loop l hl n (by omega)
      rw [hb]
      refine ⟨m + 1, loopRun_more ?_ hm⟩
      refine (OT.run_t (decide_eq_true (by dsimp only [top_st]; omega))).trans ((hgd _).trans ((OT.run_f hb).trans ((gd_run ?_).trans rfl)))
      simp only [List.all_cons, List.all_nil, Bool.and_true]
      exact inR_of (by dsimp only [top_st]; omega)
    · rw [hb]
      simp only [cond_true]
      rw [decide_eq_true (show (0 : Int) < ((n + 1 : Nat) : Int) by omega)]
      refine ⟨1, loopRun_out ?_⟩
      refine (OT.run_t (decide_eq_true (by dsimp only [top_st]; omega))).trans ((hgd _).trans ((OT.run_t hb).trans ((gd_run ?_).trans rfl)))
      simp only [List.all_cons, List.all_nil, Bool.and_true]
      exact inR_of (by dsimp only [top_st]; omega)
theorem mtop_h0 : ∀ s : mtop_s0X, mtop_ok0 s = true → ∃ m e, loopRun mtop_U0 m s = some e ∧ (mtop_f0 mtop_g0r mtop_c0 mtop_g0 s).run = some e := by
  rintro ⟨⟨l, ⟨⟩, ⟨⟩⟩, ⟨⟨i, ⟨⟩⟩, ⟨⟩⟩⟩ h
  have h' := of_decide_eq_true h
  dsimp only at h'
  obtain ⟨rfl, hl⟩ := h'
  obtain ⟨m, hm⟩ := top_loop l hl 256 (by omega)
  refine ⟨m, _, hm, ?_⟩
  show (OT.br (decide ((0 : Int) < (topB l 256 : Int))) _ _ : OT LEnd).run = some (cond (decide ((0 : Int) < (topB l 256 : Int))) _ _)
  cases decide ((0 : Int) < (topB l 256 : Int)) <;> rfl
def mtop_pre (x : mtopX) : Bool := decide (x.1.1.length ≤ 140737488355328)
def mtop_F (x : mtopX) : OT mtop_S.Y := .ok ⟨mtop_o0, (((topT x.1.1 : Int), ()), ())⟩
theorem mtop_ok : SummOk Try.prog 95 (mtop_S.summ mtop_pre mtop_F) := mtop_main mtop_ok0 mtop_g0r mtop_c0 mtop_g0 mtop_h0 _ _ fun x oy hp ho => by
  rw [← ho]
  clear ho
  obtain ⟨⟨l, ⟨⟩⟩, ⟨⟩⟩ := x
  have hl : l.length ≤ 140737488355328 := of_decide_eq_true hp
  refine (gd_run ?_).trans ?_
  · simp only [List.all_cons, List.all_nil, Bool.and_true]
    exact decide_eq_true ⟨rfl, hl⟩
  · show (OT.br (decide ((0 : Int) < (topT l : Int))) (.ok ⟨mtop_o0, (((topT l : Int), ()), ())⟩) (.ok ⟨mtop_o0, (((0 : Int), ()), ())⟩) : OT mtop_S.Y).run = some ⟨mtop_o0, (((topT l : Int), ()), ())⟩
    by_cases h : (0 : Int) < (topT l : Int)
    · exact OT.run_t (decide_eq_true h)
    · have e : topT l = 0 := by omega
      rw [e]
      rfl
def mtop_summ : Summ := (mtop_S.summ mtop_pre mtop_F)
theorem mtop_known : SummOk Try.prog 95 mtop_summ := mtop_ok
theorem mtop_smono : MonoOk mtop_summ := fn_mono
def E_mtop : Env := envCons 95 mtop_summ E_mcontf
theorem E_mtop_ok : EnvOk Try.prog E_mtop := envOk_cons mtop_known E_mcontf_ok
theorem E_mtop_mono : EnvMono E_mtop := envMono_cons mtop_smono E_mcontf_mono
theorem E_mtop_any : AnyOk Try.prog te E_mtop := any_ok follows te_ok E_mtop_ok E_mtop_mono
def mbuckets_S : FnSpec := ⟨[.val false .int, .val false (.list termT), .val false .int], [], true, 0, false⟩
abbrev mbucketsX : Type := ((Int) × (List ((Elem × (Elem × (Elem × Bool))))) × (Int) × Unit) × (Unit)
def mbuckets_s0 : Shape := ⟨74, [(0, .val false .int), (1, .val false (.list (.prod .elem (.prod .elem (.prod .elem .bool))))), (2, .val false .int), (6, .ptr 0 0 0), (7, .ptr 1 0 0), (16, .val false .int)], [(0, .cells [.val false .u64, .val false .u64, .val false .u64, .val false .u64, .val false .u64, .val false .u64, .val false .u64, .val false .u64, .val false .bool]), (1, .row (.prod .elem (.prod .elem .bool)))], 0, true⟩
abbrev mbuckets_s0X : Type := ((Int) × (List ((Elem × (Elem × (Elem × Bool))))) × (Int) × (Unit) × (Unit) × (Int) × Unit) × (((UInt64) × (UInt64) × (UInt64) × (UInt64) × (UInt64) × (UInt64) × (UInt64) × (UInt64) × (Bool) × Unit) × (List ((Elem × (Elem × Bool)))) × Unit)
def mbuckets_e0_0 : Shape := ⟨74, [(0, .val false .int), (1, .val false (.list (.prod .elem (.prod .elem (.prod .elem .bool))))), (2, .val false .int), (6, .ptr 0 0 0), (7, .ptr 1 0 0)], [(0, .cells [.val false .u64, .val false .u64, .val false .u64, .val false .u64, .val false .u64, .val false .u64, .val false .u64, .val false .u64, .val false .bool]), (1, .row (.prod .elem (.prod .elem .bool)))], 0, true⟩
abbrev mbuckets_e0_0X : Type := ((Int) × (List ((Elem × (Elem × (Elem × Bool))))) × (Int) × (Unit) × (Unit) × Unit) × (((UInt64) × (UInt64) × (UInt64) × (UInt64) × (UInt64) × (UInt64) × (UInt64) × (UInt64) × (Bool) × Unit) × (List ((Elem × (Elem × Bool)))) × Unit)
def mbuckets_x0 : SE → Option Shape := xsMk [(0, mbuckets_e0_0)] none
def mbuckets_T0 (a0 : Int) (a1 : List ((Elem × (Elem × (Elem × Bool))))) (a2 : Int) (a16 : Int) (c0_0 : UInt64) (c0_1 : UInt64) (c0_2 : UInt64) (c0_3 : UInt64) (c0_4 : UInt64) (c0_5 : UInt64) (c0_6 : UInt64) (c0_7 : UInt64) (c0_8 : Bool) (c1 : List ((Elem × (Elem × Bool)))) : OT (Sum mbuckets_s0X LEnd) :=
  let z0 : Elem := { w0 := 0, w1 := 0, w2 := 0, w3 := 0 }
  (.br (decide (a16 < (15 : Int)))
  (gd [inB a16 15, decide (Int.toNat a16 + 0 < List.length c1), inR (a16 + (1 : Int))] (.ok (.inl ((a0, (a1, (a2, ((), ((), (a16 + (1 : Int), ())))))), ((c0_0, (c0_1, (c0_2, (c0_3, (c0_4, (c0_5, (c0_6, (c0_7, (c0_8, ()))))))))), (List.set c1 (Int.toNat a16 + 0) (z0, z0, true), ()))))))
  (.ok (.inr ⟨(.exit 0, mbuckets_e0_0), ((a0, (a1, (a2, ((), ((), ()))))), ((c0_0, (c0_1, (c0_2, (c0_3, (c0_4, (c0_5, (c0_6, (c0_7, (c0_8, ()))))))))), (c1, ())))⟩)))
def mbuckets_U0 (s : mbuckets_s0X) : OT (Sum mbuckets_s0X LEnd) := mbuckets_T0 (s.1.1) (s.1.2.1) (s.1.2.2.1) (s.1.2.2.2.2.2.1) (s.2.1.1) (s.2.1.2.1) (s.2.1.2.2.1) (s.2.1.2.2.2.1) (s.2.1.2.2.2.2.1) (s.2.1.2.2.2.2.2.1) (s.2.1.2.2.2.2.2.2.1) (s.2.1.2.2.2.2.2.2.2.1) (s.2.1.2.2.2.2.2.2.2.2.1) (s.2.2.1)
theorem mbuckets_q0 (s : mbuckets_s0X) (Q : Sum mbuckets_s0X LEnd → Prop) : wps te E_mtop lamNil 1000 (loopOf (codeOf Try.f96) 0) (mbuckets_s0.inj s) (stepK mbuckets_s0 mbuckets_x0 (Q : Sum mbuckets_s0.T LEnd → Prop)) = (mbuckets_U0 s).wpR Q := by kernel_rfl
def mbuckets_f0 (g0_0 : mbuckets_s0X → mbuckets_e0_0X) (s : mbuckets_s0X) : OT LEnd := (.ok ⟨(.exit 0, mbuckets_e0_0), g0_0 s⟩)
def mbuckets_s2 : Shape := ⟨74, [(0, .val false .int), (2, .val false .int), (6, .ptr 0 0 0), (7, .ptr 1 0 0), (23, .val false (.list (.prod .elem (.prod .elem (.prod .elem .bool))))), (24, .val false .int), (25, .val false .int)], [(0, .cells [.val false .u64, .val false .u64, .val false .u64, .val false .u64, .val false .u64, .val false .u64, .val false .u64, .val false .u64, .val false .bool]), (1, .row (.prod .elem (.prod .elem .bool)))], 0, true⟩
abbrev mbuckets_s2X : Type := ((Int) × (Int) × (Unit) × (Unit) × (List ((Elem × (Elem × (Elem × Bool))))) × (Int) × (Int) × Unit) × (((UInt64) × (UInt64) × (UInt64) × (UInt64) × (UInt64) × (UInt64) × (UInt64) × (UInt64) × (Bool) × Unit) × (List ((Elem × (Elem × Bool)))) × Unit)
def mbuckets_s4 : Shape := ⟨74, [(0, .val false .int), (2, .val false .int), (6, .ptr 0 0 0), (7, .ptr 1 0 0), (10, .ptr 2 0 0), (11, .val false .int), (23, .val false (.list (.prod .elem (.prod .elem (.prod .elem .bool))))), (24, .val false .int), (25, .val false .int), (29, .val false .int)], [(0, .cells [.val false .u64, .val false .u64, .val false .u64, .val false .u64, .val false .u64, .val false .u64, .val false .u64, .val false .u64, .val false .bool]), (1, .row (.prod .elem (.prod .elem .bool))), (2, .cells [.val false .u64, .val false .u64, .val false .u64, .val false .u64, .val false .u64, .val false .u64, .val false .u64, .val false .u64, .val false .u64, .val false .u64, .val false .u64, .val false .u64, .val false .bool])], 0, true⟩
abbrev mbuckets_s4X : Type := ((Int) × (Int) × (Unit) × (Unit) × (Unit) × (Int) × (List ((Elem × (Elem × (Elem × Bool))))) × (Int) × (Int) × (Int) × Unit) × (((UInt64) × (UInt64) × (UInt64) × (UInt64) × (UInt64) × (UInt64) × (UInt64) × (UInt64) × (Bool) × Unit) × (List ((Elem × (Elem × Bool)))) × ((UInt64) × (UInt64) × (UInt64) × (UInt64) × (UInt64) × (UInt64) × (UInt64) × (UInt64) × (UInt64) × (UInt64) × (UInt64) × (UInt64) × (Bool) × Unit) × Unit)
def mbuckets_e4_4 : Shape := ⟨74, [(0, .val false .int), (2, .val false .int), (6, .ptr 0 0 0), (7, .ptr 1 0 0), (10, .ptr 2 0 0), (11, .val false .int), (23, .val false (.list (.prod .elem (.prod .elem (.prod .elem .bool))))), (24, .val false .int), (25, .val false .int)], [(0, .cells [.val false .u64, .val false .u64, .val false .u64, .val false .u64, .val false .u64, .val false .u64, .val false .u64, .val false .u64, .val false .bool]), (1, .row (.prod .elem (.prod .elem .bool))), (2, .cells [.val false .u64, .val false .u64, .val false .u64, .val false .u64, .val false .u64, .val false .u64, .val false .u64, .val false .u64, .val false .u64, .val false .u64, .val false .u64, .val false .u64, .val false .bool])], 0, true⟩
abbrev mbuckets_e4_4X : Type := ((Int) × (Int) × (Unit) × (Unit) × (Unit) × (Int) × (List ((Elem × (Elem × (Elem × Bool))))) × (Int) × (Int) × Unit) × (((UInt64) × (UInt64) × (UInt64) × (UInt64) × (UInt64) × (UInt64) × (UInt64) × (UInt64) × (Bool) × Unit) × (List ((Elem × (Elem × Bool)))) × ((UInt64) × (UInt64) × (UInt64) × (UInt64) × (UInt64) × (UInt64) × (UInt64) × (UInt64) × (UInt64) × (UInt64) × (UInt64) × (UInt64) × (Bool) × Unit) × Unit)
def mbuckets_x4 : SE → Option Shape := xsMk [(4, mbuckets_e4_4)] none
def mbuckets_T4 (a0 : Int) (a2 : Int) (a11 : Int) (a23 : List ((Elem × (Elem × (Elem × Bool))))) (a24 : Int) (a25 : Int) (a29 : Int) (c0_0 : UInt64) (c0_1 : UInt64) (c0_2 : UInt64) (c0_3 : UInt64) (c0_4 : UInt64) (c0_5 : UInt64) (c0_6 : UInt64) (c0_7 : UInt64) (c0_8 : Bool) (c1 : List ((Elem × (Elem × Bool)))) (c2_0 : UInt64) (c2_1 : UInt64) (c2_2 : UInt64) (c2_3 : UInt64) (c2_4 : UInt64) (c2_5 : UInt64) (c2_6 : UInt64) (c2_7 : UInt64) (c2_8 : UInt64) (c2_9 : UInt64) (c2_10 : UInt64) (c2_11 : UInt64) (c2_12 : Bool) : OT (Sum mbuckets_s4X LEnd) :=
  let z0 : Bool := inR (a29 + (1 : Int))
  (.br (decide (a29 < (4 : Int)))
  (gd [inR (a2 + a29)] (.br (bitI { w0 := c2_0, w1 := c2_1, w2 := c2_2, w3 := c2_3 } (a2 + a29))
    (gd [decide ((0 : Int) ≤ a29), z0] (.ok (.inl ((a0, (a2, ((), ((), ((), (ior a11 (ishl (1 : Int) a29), (a23, (a24, (a25, (a29 + (1 : Int), ())))))))))), ((c0_0, (c0_1, (c0_2, (c0_3, (c0_4, (c0_5, (c0_6, (c0_7, (c0_8, ()))))))))), (c1, ((c2_0, (c2_1, (c2_2, (c2_3, (c2_4, (c2_5, (c2_6, (c2_7, (c2_8, (c2_9, (c2_10, (c2_11, (c2_12, ()))))))))))))), ())))))))
    (gd [z0] (.ok (.inl ((a0, (a2, ((), ((), ((), (a11, (a23, (a24, (a25, (a29 + (1 : Int), ())))))))))), ((c0_0, (c0_1, (c0_2, (c0_3, (c0_4, (c0_5, (c0_6, (c0_7, (c0_8, ()))))))))), (c1, ((c2_0, (c2_1, (c2_2, (c2_3, (c2_4, (c2_5, (c2_6, (c2_7, (c2_8, (c2_9, (c2_10, (c2_11, (c2_12, ()))))))))))))), ())))))))))
  (.ok (.inr ⟨(.exit 4, mbuckets_e4_4), ((a0, (a2, ((), ((), ((), (a11, (a23, (a24, (a25, ()))))))))), ((c0_0, (c0_1, (c0_2, (c0_3, (c0_4, (c0_5, (c0_6, (c0_7, (c0_8, ()))))))))), (c1, ((c2_0, (c2_1, (c2_2, (c2_3, (c2_4, (c2_5, (c2_6, (c2_7, (c2_8, (c2_9, (c2_10, (c2_11, (c2_12, ()))))))))))))), ()))))⟩)))
def mbuckets_U4 (s : mbuckets_s4X) : OT (Sum mbuckets_s4X LEnd) := mbuckets_T4 (s.1.1) (s.1.2.1) (s.1.2.2.2.2.2.1) (s.1.2.2.2.2.2.2.1) (s.1.2.2.2.2.2.2.2.1) (s.1.2.2.2.2.2.2.2.2.1) (s.1.2.2.2.2.2.2.2.2.2.1) (s.2.1.1) (s.2.1.2.1) (s.2.1.2.2.1) (s.2.1.2.2.2.1) (s.2.1.2.2.2.2.1) (s.2.1.2.2.2.2.2.1) (s.2.1.2.2.2.2.2.2.1) (s.2.1.2.2.2.2.2.2.2.1) (s.2.1.2.2.2.2.2.2.2.2.1) (s.2.2.1) (s.2.2.2.1.1) (s.2.2.2.1.2.1) (s.2.2.2.1.2.2.1) (s.2.2.2.1.2.2.2.1) (s.2.2.2.1.2.2.2.2.1) (s.2.2.2.1.2.2.2.2.2.1) (s.2.2.2.1.2.2.2.2.2.2.1) (s.2.2.2.1.2.2.2.2.2.2.2.1) (s.2.2.2.1.2.2.2.2.2.2.2.2.1) (s.2.2.2.1.2.2.2.2.2.2.2.2.2.1) (s.2.2.2.1.2.2.2.2.2.2.2.2.2.2.1) (s.2.2.2.1.2.2.2.2.2.2.2.2.2.2.2.1) (s.2.2.2.1.2.2.2.2.2.2.2.2.2.2.2.2.1)
theorem mbuckets_q4 (s : mbuckets_s4X) (Q : Sum mbuckets_s4X LEnd → Prop) : wps te E_mtop lamNil 1000 (loopOf (loopOf (codeOf Try.f96) 2) 4) (mbuckets_s4.inj s) (stepK mbuckets_s4 mbuckets_x4 (Q : Sum mbuckets_s4.T LEnd → Prop)) = (mbuckets_U4 s).wpR Q := by kernel_rfl
def mbuckets_f4 (g4_4 : mbuckets_s4X → mbuckets_e4_4X) (s : mbuckets_s4X) : OT LEnd := (.ok ⟨(.exit 4, mbuckets_e4_4), g4_4 s⟩)
def mbuckets_e2_2 : Shape := ⟨74, [(0, .val false .int), (6, .ptr 0 0 0), (7, .ptr 1 0 0)], [(0, .cells [.val false .u64, .val false .u64, .val false .u64, .val false .u64, .val false .u64, .val false .u64, .val false .u64, .val false .u64, .val false .bool]), (1, .row (.prod .elem (.prod .elem .bool)))], 0, true⟩
abbrev mbuckets_e2_2X : Type := ((Int) × (Unit) × (Unit) × Unit) × (((UInt64) × (UInt64) × (UInt64) × (UInt64) × (UInt64) × (UInt64) × (UInt64) × (UInt64) × (Bool) × Unit) × (List ((Elem × (Elem × Bool)))) × Unit)
def mbuckets_x2 : SE → Option Shape := xsMk [(2, mbuckets_e2_2)] none
def mbuckets_T2 (ok4 : mbuckets_s4X → Bool) (g4_4 : mbuckets_s4X → mbuckets_e4_4X) (a0 : Int) (a2 : Int) (a23 : List ((Elem × (Elem × (Elem × Bool))))) (a24 : Int) (a25 : Int) (c0_0 : UInt64) (c0_1 : UInt64) (c0_2 : UInt64) (c0_3 : UInt64) (c0_4 : UInt64) (c0_5 : UInt64) (c0_6 : UInt64) (c0_7 : UInt64) (c0_8 : Bool) (c1 : List ((Elem × (Elem × Bool)))) : OT (Sum mbuckets_s2X LEnd) :=
  let z0 : Elem := { w0 := 0, w1 := 0, w2 := 0, w3 := 0 }
  let z1 : Elem × Elem × Bool := (z0, z0, false)
  let z2 : Elem × Elem × Elem × Bool := List.getD a23 (Int.toNat a25) (z0, z1)
  let z3 := z2.fst
  let z4 := z2.snd
  let z5 := z4.fst
  let z6 := z4.snd
  let z7 := z6.fst
  let z8 : (Int × Int × PUnit × PUnit × PUnit × Int × List (Elem × Elem × Elem × Bool) × Int × Int × Int × PUnit) × (UInt64 × UInt64 × UInt64 × UInt64 × UInt64 × UInt64 × UInt64 × UInt64 × Bool × PUnit) × List (Elem × Elem × Bool) × (UInt64 × UInt64 × UInt64 × UInt64 × UInt64 × UInt64 × UInt64 × UInt64 × UInt64 × UInt64 × UInt64 × UInt64 × Bool × PUnit) × PUnit := ((a0, a2, (), (), (), (0 : Int), a23, a24, a25, (0 : Int), ()), (c0_0, c0_1, c0_2, c0_3, c0_4, c0_5, c0_6, c0_7, c0_8, ()), c1, (z3.w0, z3.w1, z3.w2, z3.w3, z5.w0, z5.w1, z5.w2, z5.w3, z7.w0, z7.w1, z7.w2, z7.w3, z6.snd, ()), ())
  let z9 : (Int × Int × PUnit × PUnit × PUnit × Int × List (Elem × Elem × Elem × Bool) × Int × Int × PUnit) × (UInt64 × UInt64 × UInt64 × UInt64 × UInt64 × UInt64 × UInt64 × UInt64 × Bool × PUnit) × List (Elem × Elem × Bool) × (UInt64 × UInt64 × UInt64 × UInt64 × UInt64 × UInt64 × UInt64 × UInt64 × UInt64 × UInt64 × UInt64 × UInt64 × Bool × PUnit) × PUnit := g4_4 z8
  let z10 := z9.fst
  let z11 := z10.snd
  let z12 := z11.snd.snd.snd.snd
  let z13 := z12.fst
  let z14 : Bool := inR (z13 - (1 : Int))
  let z15 : Bool := inB (z13 - (1 : Int)) 15
  let z16 := z9.snd
  let z17 := z16.snd
  let z18 := z17.fst
  let z19 : Bool := decide (Int.toNat (z13 - (1 : Int)) + 0 < List.length z18)
  let z20 := z12.snd
  let z21 := z20.snd
  let z22 : Bool := inR (z21.snd.fst + (1 : Int))
  let z23 := z10.fst
  let z24 := z11.fst
  let z25 := z20.fst
  let z26 := z21.fst
  let z27 := z16.fst
  let z28 := z27.fst
  let z29 := z27.snd
  let z30 := z29.fst
  let z31 := z29.snd
  let z32 := z31.fst
  let z33 := z31.snd
  let z34 := z33.fst
  let z35 := z33.snd
  let z36 := z35.fst
  let z37 := z35.snd
  let z38 := z37.fst
  let z39 := z37.snd
  let z40 := z39.fst
  let z41 := z39.snd
  let z42 := z41.fst
  let z43 := z41.snd.fst
  let z44 := z17.snd.fst.snd.snd.snd.snd
  let z45 := z44.snd
  let z46 := z45.snd
  let z47 := z46.snd
  let z48 := z47.snd
  let z49 := z48.snd
  let z50 := z49.snd
  let z51 := z50.snd
  (.br (decide (a25 < a24))
  (gd [inB a25 (List.length a23), ok4 z8] (.br (decide ((0 : Int) < z13))
    (gd [z14, z14, z15, z19, z15, z19, z22] (.ok (.inl ((z23, (z24, ((), ((), (z25, (z26, (z21.snd.fst + (1 : Int), ()))))))), ((z28, (z30, (z32, (z34, (z36, (z38, (z40, (z42, (z43, ()))))))))), (List.set z18 (Int.toNat (z13 - (1 : Int)) + 0) (addPt z23 (List.getD z18 (Int.toNat (z13 - (1 : Int)) + 0) z1) ({ w0 := z44.fst, w1 := z45.fst, w2 := z46.fst, w3 := z47.fst }, { w0 := z48.fst, w1 := z49.fst, w2 := z50.fst, w3 := z51.fst }, z51.snd.fst)), ()))))))
    (gd [z22] (.ok (.inl ((z23, (z24, ((), ((), (z25, (z26, (z21.snd.fst + (1 : Int), ()))))))), ((z28, (z30, (z32, (z34, (z36, (z38, (z40, (z42, (z43, ()))))))))), (z18, ()))))))))
  (.ok (.inr ⟨(.exit 2, mbuckets_e2_2), ((a0, ((), ((), ()))), ((c0_0, (c0_1, (c0_2, (c0_3, (c0_4, (c0_5, (c0_6, (c0_7, (c0_8, ()))))))))), (c1, ())))⟩)))
def mbuckets_U2 (ok4 : mbuckets_s4X → Bool) (g4_4 : mbuckets_s4X → mbuckets_e4_4X) (s : mbuckets_s2X) : OT (Sum mbuckets_s2X LEnd) := mbuckets_T2 ok4 g4_4 (s.1.1) (s.1.2.1) (s.1.2.2.2.2.1) (s.1.2.2.2.2.2.1) (s.1.2.2.2.2.2.2.1) (s.2.1.1) (s.2.1.2.1) (s.2.1.2.2.1) (s.2.1.2.2.2.1) (s.2.1.2.2.2.2.1) (s.2.1.2.2.2.2.2.1) (s.2.1.2.2.2.2.2.2.1) (s.2.1.2.2.2.2.2.2.2.1) (s.2.1.2.2.2.2.2.2.2.2.1) (s.2.2.1)
theorem mbuckets_q2 (ok4 : mbuckets_s4X → Bool) (g4_4 : mbuckets_s4X → mbuckets_e4_4X) (s : mbuckets_s2X) (Q : Sum mbuckets_s2X LEnd → Prop) : wps te E_mtop (lamCons 4 (loopF mbuckets_s4 4 ok4 (mbuckets_f4 g4_4)) lamNil) 1000 (loopOf (codeOf Try.f96) 2) (mbuckets_s2.inj s) (stepK mbuckets_s2 mbuckets_x2 (Q : Sum mbuckets_s2.T LEnd → Prop)) = (mbuckets_U2 ok4 g4_4 s).wpR Q := by kernel_rfl
def mbuckets_f2 (g2_2 : mbuckets_s2X → mbuckets_e2_2X) (s : mbuckets_s2X) : OT LEnd := (.ok ⟨(.exit 2, mbuckets_e2_2), g2_2 s⟩)
def mbuckets_s6 : Shape := ⟨74, [(0, .val false .int), (6, .ptr 0 0 0), (7, .ptr 1 0 0), (13, .ptr 2 0 0), (14, .ptr 3 0 0), (15, .val false .int)], [(0, .cells [.val false .u64, .val false .u64, .val false .u64, .val false .u64, .val false .u64, .val false .u64, .val false .u64, .val false .u64, .val false .bool]), (1, .row (.prod .elem (.prod .elem .bool))), (2, .cells [.val false .u64, .val false .u64, .val false .u64, .val false .u64, .val false .u64, .val false .u64, .val false .u64, .val false .u64, .val false .bool]), (3, .cells [.val false .u64, .val false .u64, .val false .u64, .val false .u64, .val false .u64, .val false .u64, .val false .u64, .val false .u64, .val false .bool])], 0, true⟩
abbrev mbuckets_s6X : Type := ((Int) × (Unit) × (Unit) × (Unit) × (Unit) × (Int) × Unit) × (((UInt64) × (UInt64) × (UInt64) × (UInt64) × (UInt64) × (UInt64) × (UInt64) × (UInt64) × (Bool) × Unit) × (List ((Elem × (Elem × Bool)))) × ((UInt64) × (UInt64) × (UInt64) × (UInt64) × (UInt64) × (UInt64) × (UInt64) × (UInt64) × (Bool) × Unit) × ((UInt64) × (UInt64) × (UInt64) × (UInt64) × (UInt64) × (UInt64) × (UInt64) × (UInt64) × (Bool) × Unit) × Unit)
def mbuckets_e6_6 : Shape := ⟨74, [(6, .ptr 0 0 0), (14, .ptr 1 0 0)], [(0, .cells [.val false .u64, .val false .u64, .val false .u64, .val false .u64, .val false .u64, .val false .u64, .val false .u64, .val false .u64, .val false .bool]), (1, .cells [.val false .u64, .val false .u64, .val false .u64, .val false .u64, .val false .u64, .val false .u64, .val false .u64, .val false .u64, .val false .bool])], 0, true⟩
abbrev mbuckets_e6_6X : Type := ((Unit) × (Unit) × Unit) × (((UInt64) × (UInt64) × (UInt64) × (UInt64) × (UInt64) × (UInt64) × (UInt64) × (UInt64) × (Bool) × Unit) × ((UInt64) × (UInt64) × (UInt64) × (UInt64) × (UInt64) × (UInt64) × (UInt64) × (UInt64) × (Bool) × Unit) × Unit)
def mbuckets_x6 : SE → Option Shape := xsMk [(6, mbuckets_e6_6)] none
def mbuckets_T6 (a0 : Int) (a15 : Int) (c0_0 : UInt64) (c0_1 : UInt64) (c0_2 : UInt64) (c0_3 : UInt64) (c0_4 : UInt64) (c0_5 : UInt64) (c0_6 : UInt64) (c0_7 : UInt64) (c0_8 : Bool) (c1 : List ((Elem × (Elem × Bool)))) (c2_0 : UInt64) (c2_1 : UInt64) (c2_2 : UInt64) (c2_3 : UInt64) (c2_4 : UInt64) (c2_5 : UInt64) (c2_6 : UInt64) (c2_7 : UInt64) (c2_8 : Bool) (c3_0 : UInt64) (c3_1 : UInt64) (c3_2 : UInt64) (c3_3 : UInt64) (c3_4 : UInt64) (c3_5 : UInt64) (c3_6 : UInt64) (c3_7 : UInt64) (c3_8 : Bool) : OT (Sum mbuckets_s6X LEnd) :=
  let z0 : Elem := { w0 := 0, w1 := 0, w2 := 0, w3 := 0 }
  let z1 : Elem × Elem × Bool := addPt a0 ({ w0 := c2_0, w1 := c2_1, w2 := c2_2, w3 := c2_3 }, { w0 := c2_4, w1 := c2_5, w2 := c2_6, w3 := c2_7 }, c2_8) (List.getD c1 (Int.toNat a15 + 0) (z0, z0, false))
  let z2 := z1.fst
  let z3 := z1.snd
  let z4 := z3.fst
  let z5 : Elem × Elem × Bool := addPt a0 ({ w0 := c3_0, w1 := c3_1, w2 := c3_2, w3 := c3_3 }, { w0 := c3_4, w1 := c3_5, w2 := c3_6, w3 := c3_7 }, c3_8) z1
  let z6 := z5.fst
  let z7 := z5.snd
  let z8 := z7.fst
  (.br (decide ((0 : Int) ≤ a15))
  (gd [inB a15 15, decide (Int.toNat a15 + 0 < List.length c1), inR (a15 - (1 : Int))] (.ok (.inl ((a0, ((), ((), ((), ((), (a15 - (1 : Int), ())))))), ((c0_0, (c0_1, (c0_2, (c0_3, (c0_4, (c0_5, (c0_6, (c0_7, (c0_8, ()))))))))), (c1, ((z2.w0, (z2.w1, (z2.w2, (z2.w3, (z4.w0, (z4.w1, (z4.w2, (z4.w3, (z3.snd, ()))))))))), ((z6.w0, (z6.w1, (z6.w2, (z6.w3, (z8.w0, (z8.w1, (z8.w2, (z8.w3, (z7.snd, ()))))))))), ()))))))))
  (.ok (.inr ⟨(.exit 6, mbuckets_e6_6), (((), ((), ())), ((c0_0, (c0_1, (c0_2, (c0_3, (c0_4, (c0_5, (c0_6, (c0_7, (c0_8, ()))))))))), ((c3_0, (c3_1, (c3_2, (c3_3, (c3_4, (c3_5, (c3_6, (c3_7, (c3_8, ()))))))))), ())))⟩)))
def mbuckets_U6 (s : mbuckets_s6X) : OT (Sum mbuckets_s6X LEnd) := mbuckets_T6 (s.1.1) (s.1.2.2.2.2.2.1) (s.2.1.1) (s.2.1.2.1) (s.2.1.2.2.1) (s.2.1.2.2.2.1) (s.2.1.2.2.2.2.1) (s.2.1.2.2.2.2.2.1) (s.2.1.2.2.2.2.2.2.1) (s.2.1.2.2.2.2.2.2.2.1) (s.2.1.2.2.2.2.2.2.2.2.1) (s.2.2.1) (s.2.2.2.1.1) (s.2.2.2.1.2.1) (s.2.2.2.1.2.2.1) (s.2.2.2.1.2.2.2.1) (s.2.2.2.1.2.2.2.2.1) (s.2.2.2.1.2.2.2.2.2.1) (s.2.2.2.1.2.2.2.2.2.2.1) (s.2.2.2.1.2.2.2.2.2.2.2.1) (s.2.2.2.1.2.2.2.2.2.2.2.2.1) (s.2.2.2.2.1.1) (s.2.2.2.2.1.2.1) (s.2.2.2.2.1.2.2.1) (s.2.2.2.2.1.2.2.2.1) (s.2.2.2.2.1.2.2.2.2.1) (s.2.2.2.2.1.2.2.2.2.2.1) (s.2.2.2.2.1.2.2.2.2.2.2.1) (s.2.2.2.2.1.2.2.2.2.2.2.2.1) (s.2.2.2.2.1.2.2.2.2.2.2.2.2.1)
theorem mbuckets_q6 (s : mbuckets_s6X) (Q : Sum mbuckets_s6X LEnd → Prop) : wps te E_mtop lamNil 1000 (loopOf (codeOf Try.f96) 6) (mbuckets_s6.inj s) (stepK mbuckets_s6 mbuckets_x6 (Q : Sum mbuckets_s6.T LEnd → Prop)) = (mbuckets_U6 s).wpR Q := by kernel_rfl
def mbuckets_f6 (g6_6 : mbuckets_s6X → mbuckets_e6_6X) (s : mbuckets_s6X) : OT LEnd := (.ok ⟨(.exit 6, mbuckets_e6_6), g6_6 s⟩)
def mbuckets_o0 : OutSh := ⟨[.val true (.prod .elem (.prod .elem .bool))], [], false⟩
def mbuckets_sel : SV → Option OutSh := fun _ => some mbuckets_o0
def mbuckets_T (ok0 : mbuckets_s0X → Bool) (g0_0 : mbuckets_s0X → mbuckets_e0_0X) (ok4 : mbuckets_s4X → Bool) (g4_4 : mbuckets_s4X → mbuckets_e4_4X) (ok2 : mbuckets_s2X → Bool) (g2_2 : mbuckets_s2X → mbuckets_e2_2X) (ok6 : mbuckets_s6X → Bool) (g6_6 : mbuckets_s6X → mbuckets_e6_6X) (a0 : Int) (a1 : List ((Elem × (Elem × (Elem × Bool))))) (a2 : Int) : OT mbuckets_S.Y :=
  let z0 : Elem := { w0 := 0, w1 := 0, w2 := 0, w3 := 0 }
  let z1 : Elem × Elem × Bool := (z0, z0, false)
  let z2 : (Int × List (Elem × Elem × Elem × Bool) × Int × PUnit × PUnit × Int × PUnit) × (UInt64 × UInt64 × UInt64 × UInt64 × UInt64 × UInt64 × UInt64 × UInt64 × Bool × PUnit) × List (Elem × Elem × Bool) × PUnit := ((a0, a1, a2, (), (), (0 : Int), ()), ((0 : UInt64), (0 : UInt64), (0 : UInt64), (0 : UInt64), (0 : UInt64), (0 : UInt64), (0 : UInt64), (0 : UInt64), false, ()), [z1, z1, z1, z1, z1, z1, z1, z1, z1, z1, z1, z1, z1, z1, z1], ())
  let z3 : (Int × List (Elem × Elem × Elem × Bool) × Int × PUnit × PUnit × PUnit) × (UInt64 × UInt64 × UInt64 × UInt64 × UInt64 × UInt64 × UInt64 × UInt64 × Bool × PUnit) × List (Elem × Elem × Bool) × PUnit := g0_0 z2
  let z4 := z3.fst
  let z5 := z4.snd
  let z6 := z5.fst
  let z7 := z3.snd
  let z8 := z7.fst
  let z9 := z8.snd
  let z10 := z9.snd
  let z11 := z10.snd
  let z12 := z11.snd
  let z13 := z12.snd
  let z14 := z13.snd
  let z15 := z14.snd
  let z16 : (Int × Int × PUnit × PUnit × List (Elem × Elem × Elem × Bool) × Int × Int × PUnit) × (UInt64 × UInt64 × UInt64 × UInt64 × UInt64 × UInt64 × UInt64 × UInt64 × Bool × PUnit) × List (Elem × Elem × Bool) × PUnit := ((z4.fst, z5.snd.fst, (), (), z6, (↑(List.length z6) : Int), (0 : Int), ()), (z8.fst, z9.fst, z10.fst, z11.fst, z12.fst, z13.fst, z14.fst, z15.fst, z15.snd.fst, ()), z7.snd.fst, ())
  let z17 : (Int × PUnit × PUnit × PUnit) × (UInt64 × UInt64 × UInt64 × UInt64 × UInt64 × UInt64 × UInt64 × UInt64 × Bool × PUnit) × List (Elem × Elem × Bool) × PUnit := g2_2 z16
  let z18 := z17.snd
  let z19 := z18.fst
  let z20 := z19.snd
  let z21 := z20.snd
  let z22 := z21.snd
  let z23 := z22.snd
  let z24 := z23.snd
  let z25 := z24.snd
  let z26 := z25.snd
  let z27 : UInt64 × UInt64 × UInt64 × UInt64 × UInt64 × UInt64 × UInt64 × UInt64 × Bool × PUnit := ((0 : UInt64), (0 : UInt64), (0 : UInt64), (0 : UInt64), (0 : UInt64), (0 : UInt64), (0 : UInt64), (0 : UInt64), true, ())
  let z28 : (Int × PUnit × PUnit × PUnit × PUnit × Int × PUnit) × (UInt64 × UInt64 × UInt64 × UInt64 × UInt64 × UInt64 × UInt64 × UInt64 × Bool × PUnit) × List (Elem × Elem × Bool) × (UInt64 × UInt64 × UInt64 × UInt64 × UInt64 × UInt64 × UInt64 × UInt64 × Bool × PUnit) × (UInt64 × UInt64 × UInt64 × UInt64 × UInt64 × UInt64 × UInt64 × UInt64 × Bool × PUnit) × PUnit := ((z17.fst.fst, (), (), (), (), (14 : Int), ()), (z19.fst, z20.fst, z21.fst, z22.fst, z23.fst, z24.fst, z25.fst, z26.fst, z26.snd.fst, ()), z18.snd.fst, z27, z27, ())
  let z29 := (g6_6 z28).snd.snd.fst
  let z30 := z29.snd
  let z31 := z30.snd
  let z32 := z31.snd
  let z33 := z32.snd
  let z34 := z33.snd
  let z35 := z34.snd
  let z36 := z35.snd
  (gd [ok0 z2, ok2 z16, ok6 z28] (.ok ⟨mbuckets_o0, ((({ w0 := z29.fst, w1 := z30.fst, w2 := z31.fst, w3 := z32.fst }, { w0 := z33.fst, w1 := z34.fst, w2 := z35.fst, w3 := z36.fst }, z36.snd.fst), ()), ())⟩))
theorem mbuckets_q (ok0 : mbuckets_s0X → Bool) (g0_0 : mbuckets_s0X → mbuckets_e0_0X) (ok4 : mbuckets_s4X → Bool) (g4_4 : mbuckets_s4X → mbuckets_e4_4X) (ok2 : mbuckets_s2X → Bool) (g2_2 : mbuckets_s2X → mbuckets_e2_2X) (ok6 : mbuckets_s6X → Bool) (g6_6 : mbuckets_s6X → mbuckets_e6_6X) (x : mbucketsX) (Q : mbuckets_S.Y → Prop) : wpf te E_mtop (lamCons 6 (loopF mbuckets_s6 6 ok6 (mbuckets_f6 g6_6)) (lamCons 2 (loopF mbuckets_s2 2 ok2 (mbuckets_f2 g2_2)) (lamCons 0 (loopF mbuckets_s0 0 ok0 (mbuckets_f0 g0_0)) lamNil))) 1000 Try.f96 (mbuckets_S.inp.inj x).tm (mbuckets_S.inp.inj x).hp (fnK mbuckets_S mbuckets_sel Q) (fun _ _ => False) = (mbuckets_T ok0 g0_0 ok4 g4_4 ok2 g2_2 ok6 g6_6 (x.1.1) (x.1.2.1) (x.1.2.2.1)).wpR Q := by kernel_rfl
theorem mbuckets_main (ok0 : mbuckets_s0X → Bool) (g0_0 : mbuckets_s0X → mbuckets_e0_0X) (ok4 : mbuckets_s4X → Bool) (g4_4 : mbuckets_s4X → mbuckets_e4_4X) (ok2 : mbuckets_s2X → Bool) (g2_2 : mbuckets_s2X → mbuckets_e2_2X) (ok6 : mbuckets_s6X → Bool) (g6_6 : mbuckets_s6X → mbuckets_e6_6X) (h0 : ∀ s : mbuckets_s0X, ok0 s = true → ∃ m e, loopRun (mbuckets_U0) m s = some e ∧ (mbuckets_f0 g0_0 s).run = some e) (h4 : ∀ s : mbuckets_s4X, ok4 s = true → ∃ m e, loopRun (mbuckets_U4) m s = some e ∧ (mbuckets_f4 g4_4 s).run = some e) (h2 : ∀ s : mbuckets_s2X, ok2 s = true → ∃ m e, loopRun (mbuckets_U2 ok4 g4_4) m s = some e ∧ (mbuckets_f2 g2_2 s).run = some e) (h6 : ∀ s : mbuckets_s6X, ok6 s = true → ∃ m e, loopRun (mbuckets_U6) m s = some e ∧ (mbuckets_f6 g6_6 s).run = some e) (pre : mbucketsX → Bool) (F : mbucketsX → OT mbuckets_S.Y) (hF : ∀ (x : mbucketsX) oy, pre x = true → (F x).run = some oy → (mbuckets_T ok0 g0_0 ok4 g4_4 ok2 g2_2 ok6 g6_6 (x.1.1) (x.1.2.1) (x.1.2.2.1)).run = some oy) : SummOk Try.prog 96 (mbuckets_S.summ pre F) :=
  fn_tree te_ok E_mtop_ok E_mtop_any (f := 96) (fn := Try.f96) (c := codeOf Try.f96) (by kernel_rfl) (by kernel_rfl) (by kernel_rfl) (S := mbuckets_S) (k := 0) (by kernel_rfl) (fun R hR => (lamOk_cons (c := (codeOf Try.f96)) (by kernel_rfl) (id := 6) (by kernel_rfl) (loop_ok te_ok E_mtop_ok E_mtop_any (sh := mbuckets_s6) hR (xs := mbuckets_x6) (xsMk_small (by kernel_rfl) (by kernel_rfl) hR) xsMk_pan lamOk_nil (n := 1000) (T := mbuckets_U6) (fun s Q => mbuckets_q6 s Q) (ok := ok6) (f := mbuckets_f6 g6_6) h6) (lamOk_cons (c := (codeOf Try.f96)) (by kernel_rfl) (id := 2) (by kernel_rfl) (loop_ok te_ok E_mtop_ok E_mtop_any (sh := mbuckets_s2) hR (xs := mbuckets_x2) (xsMk_small (by kernel_rfl) (by kernel_rfl) hR) xsMk_pan (lamOk_cons (c := (loopOf (codeOf Try.f96) 2)) (by kernel_rfl) (id := 4) (by kernel_rfl) (loop_ok te_ok E_mtop_ok E_mtop_any (sh := mbuckets_s4) hR (xs := mbuckets_x4) (xsMk_small (by kernel_rfl) (by kernel_rfl) hR) xsMk_pan lamOk_nil (n := 1000) (T := mbuckets_U4) (fun s Q => mbuckets_q4 s Q) (ok := ok4) (f := mbuckets_f4 g4_4) h4) lamOk_nil) (n := 1000) (T := mbuckets_U2 ok4 g4_4) (fun s Q => mbuckets_q2 ok4 g4_4 s Q) (ok := ok2) (f := mbuckets_f2 g2_2) h2) (lamOk_cons (c := (codeOf Try.f96)) (by kernel_rfl) (id := 0) (by kernel_rfl) (loop_ok te_ok E_mtop_ok E_mtop_any (sh := mbuckets_s0) hR (xs := mbuckets_x0) (xsMk_small (by kernel_rfl) (by kernel_rfl) hR) xsMk_pan lamOk_nil (n := 1000) (T := mbuckets_U0) (fun s Q => mbuckets_q0 s Q) (ok := ok0) (f := mbuckets_f0 g0_0) h0) lamOk_nil)))) (n := 1000) (sel := mbuckets_sel) (fun v o h => by cases h; rfl) (pre := pre) (F := F) (T := fun x => mbuckets_T ok0 g0_0 ok4 g4_4 ok2 g2_2 ok6 g6_6 (x.1.1) (x.1.2.1) (x.1.2.2.1)) (fun x Q => mbuckets_q ok0 g0_0 ok4 g4_4 ok2 g2_2 ok6 g6_6 x Q) hF
abbrev C13 : Type := UInt64 × UInt64 × UInt64 × UInt64 × UInt64 × UInt64 × UInt64 × UInt64 × UInt64 × UInt64 × UInt64 × UInt64 × Bool × Unit
def flatTm (t : Tm) : C13 := (t.1.w0, t.1.w1, t.1.w2, t.1.w3, t.2.1.w0, t.2.1.w1, t.2.1.w2, t.2.1.w3, t.2.2.1.w0, t.2.2.1.w1, t.2.2.1.w2, t.2.2.1.w3, t.2.2.2, ())
theorem set_all {α : Type} (x : α) (l : List α) : ∀ n, n ≤ l.length → upto (fun k (o : List α) => o.set k x) l n = List.replicate n x ++ l.drop n
  | 0, _ => rfl
  | n + 1, h => by
    show (upto (fun k (o : List α) => o.set k x) l n).set n x = _
    rw [set_all x l n (by omega), List.set_append_right _ _ (by rw [List.length_replicate]; omega), List.length_replicate, Nat.sub_self, List.drop_eq_getElem_cons (by omega), List.set_cons_zero, List.replicate_succ', List.append_assoc]
    rfl
def mbuckets_ok0 (s : mbuckets_s0X) : Bool := decide (s.1.2.2.2.2.2.1 = 0 ∧ s.2.2.1.length = 15)
def mbuckets_g0 (s : mbuckets_s0X) : mbuckets_e0_0X := ((s.1.1, s.1.2.1, s.1.2.2.1, (), (), ()), (s.2.1, List.replicate 15 inftyP, ()))
theorem mbuckets_h0 : ∀ s : mbuckets_s0X, mbuckets_ok0 s = true → ∃ m e, loopRun mbuckets_U0 m s = some e ∧ (mbuckets_f0 mbuckets_g0 s).run = some e := by
  rintro ⟨⟨c, l, at', ⟨⟩, ⟨⟩, i, ⟨⟩⟩, ⟨c0, S, ⟨⟩⟩⟩ h
  have h' := of_decide_eq_true h
  dsimp only at h'
  obtain ⟨rfl, hS⟩ := h'
  have := (loop_upto (T := mbuckets_U0) (fun i o => (((c, l, at', (), (), (i : Int), ()), (c0, o, ())) : mbuckets_s0X)) (fun k (o : List Pt) => o.set k inftyP)
    (fun o => (⟨(.exit 0, mbuckets_e0_0), ((c, l, at', (), (), ()), (c0, o, ()))⟩ : LEnd)) 15 S (fun _ o => o.length = 15) hS (fun k o hk ho => ⟨?_, (List.length_set ..).trans ho⟩) (fun o ho => ?_)).1
  · obtain ⟨m, hm⟩ := this
    rw [set_all inftyP S 15 (by omega), List.drop_eq_nil_of_le (by omega), List.append_nil] at hm
    exact ⟨m, _, hm, rfl⟩
  · refine (OT.run_t (decide_eq_true (by dsimp only; omega))).trans ((gd_run ?_).trans ?_)
    · simp only [ho, Int.toNat_natCast, Nat.add_zero, List.all_cons, List.all_nil, Bool.and_true, Bool.and_eq_true]
      exact ⟨inB_of (by omega), decide_eq_true (by omega), inR_of (by omega)⟩
    · simp only [OT.run_ok, Int.toNat_natCast, Nat.add_zero]
      rfl
  · exact OT.run_f (decide_eq_false (by dsimp only; omega))
def digStep (k : Elem) (a : Int) (n : Nat) (d : Int) : Int := cond (bitI k (a + (n : Int))) (ior d (ishl 1 (n : Int))) d
def digT (k : Elem) (a : Int) : Int := upto (digStep k a) 0 4
def bitV (b : Bool) : Int := cond b 1 0
theorem digT_eq (k : Elem) (a : Int) : digT k a = bitV (bitI k a) + 2 * bitV (bitI k (a + 1)) + 4 * bitV (bitI k (a + 2)) + 8 * bitV (bitI k (a + 3)) := by
  have e0 : a + ((0 : Nat) : Int) = a := by omega
  show digStep k a 3 (digStep k a 2 (digStep k a 1 (digStep k a 0 0))) = _
  unfold digStep
  rw [e0, show a + ((1 : Nat) : Int) = a + 1 by omega, show a + ((2 : Nat) : Int) = a + 2 by omega, show a + ((3 : Nat) : Int) = a + 3 by omega]
  generalize bitI k a = b0
  generalize bitI k (a + 1) = b1
  generalize bitI k (a + 2) = b2
  generalize bitI k (a + 3) = b3
  cases b0 <;> cases b1 <;> cases b2 <;> cases b3 <;> decide +kernel
theorem digT_le (k : Elem) (a : Int) : 0 ≤ digT k a ∧ digT k a ≤ 15 := by
  rw [digT_eq]
  have h : ∀ b, 0 ≤ bitV b ∧ bitV b ≤ 1 := fun b => by cases b <;> decide
  have h0 := h (bitI k a)
  have h1 := h (bitI k (a + 1))
  have h2 := h (bitI k (a + 2))
  have h3 := h (bitI k (a + 3))
  omega
def buck_s4 (c at' d : Int) (l : List Tm) (n i : Int) (b : Int) (c0 : C9) (S : List Pt) (t : C13) : mbuckets_s4X := ((c, at', (), (), (), d, l, n, i, b, ()), (c0, S, t, ()))
def keyOf (t : C13) : Elem := ⟨t.1, t.2.1, t.2.2.1, t.2.2.2.1⟩
def mbuckets_ok4 (s : mbuckets_s4X) : Bool := decide (s.1.2.2.2.2.2.1 = 0 ∧ s.1.2.2.2.2.2.2.2.2.2.1 = 0 ∧ 0 ≤ s.1.2.1 ∧ s.1.2.1 ≤ 1000)
def mbuckets_g4 (s : mbuckets_s4X) : mbuckets_e4_4X := ((s.1.1, s.1.2.1, (), (), (), digT (keyOf s.2.2.2.1) s.1.2.1, s.1.2.2.2.2.2.2.1, s.1.2.2.2.2.2.2.2.1, s.1.2.2.2.2.2.2.2.2.1, ()), s.2)
theorem mbuckets_h4 : ∀ s : mbuckets_s4X, mbuckets_ok4 s = true → ∃ m e, loopRun mbuckets_U4 m s = some e ∧ (mbuckets_f4 mbuckets_g4 s).run = some e := by
  rintro ⟨⟨c, at', ⟨⟩, ⟨⟩, ⟨⟩, d, l, n, i, b, ⟨⟩⟩, ⟨c0, S, t, ⟨⟩⟩⟩ h
  have h' := of_decide_eq_true h
  dsimp only at h'
  obtain ⟨rfl, rfl, ha0, ha1⟩ := h'
  have := (loop_upto (T := mbuckets_U4) (fun b d => (((c, at', (), (), (), d, l, n, i, (b : Int), ()), (c0, S, t, ())) : mbuckets_s4X)) (digStep (keyOf t) at')
    (fun d => (⟨(.exit 4, mbuckets_e4_4), ((c, at', (), (), (), d, l, n, i, ()), (c0, S, t, ()))⟩ : LEnd)) 4 0 (fun _ _ => True) trivial (fun k d hk _ => ⟨?_, trivial⟩) (fun d _ => ?_)).1
  · obtain ⟨m, hm⟩ := this
    exact ⟨m, _, hm, rfl⟩
  · have hr : inR ((k : Int) + 1) = true := inR_of (by omega)
    have hgr : ∀ z : OT (Sum mbuckets_s4X LEnd), (gd [inR ((k : Int) + 1)] z).run = z.run := fun z => gd_run (by rw [hr]; rfl)
    refine (OT.run_t (decide_eq_true (by dsimp only; omega))).trans ((gd_run ?_).trans ?_)
    · simp only [List.all_cons, List.all_nil, Bool.and_true]
      exact inR_of (by omega)
    · unfold digStep
      rcases (Bool.eq_false_or_eq_true (bitI (keyOf t) (at' + (k : Int)))).symm with hb | hb
      · rw [hb]
        exact (OT.run_f hb).trans ((hgr _).trans rfl)
      · rw [hb]
        refine (OT.run_t hb).trans ((gd_run ?_).trans rfl)
        simp only [List.all_cons, List.all_nil, Bool.and_true, Bool.and_eq_true]
        exact ⟨decide_eq_true (by omega), hr⟩
  · exact OT.run_f (decide_eq_false (by dsimp only; omega))
def buckStep (c a : Int) (l : List Tm) (k : Nat) (S : List Pt) : List Pt := cond (decide (0 < digT (l.getD k noTm0).1 a))
  (S.set (digT (l.getD k noTm0).1 a - 1).toNat (addPt c (S.getD (digT (l.getD k noTm0).1 a - 1).toNat noPt) (l.getD k noTm0).2)) S
theorem buckStep_length (c a : Int) (l : List Tm) (k : Nat) (S : List Pt) : (buckStep c a l k S).length = S.length := by
  unfold buckStep
  cases decide (0 < digT (l.getD k noTm0).1 a)
  · rfl
  · exact List.length_set ..
def sumsT (c a : Int) (l : List Tm) (S : List Pt) : List Pt := upto (buckStep c a l) S l.length
def mbuckets_ok2 (s : mbuckets_s2X) : Bool := decide (s.1.2.2.2.2.2.1 = (s.1.2.2.2.2.1.length : Int) ∧ s.1.2.2.2.2.2.2.1 = 0 ∧ s.2.2.1.length = 15 ∧ (0 ≤ s.1.2.1 ∧ s.1.2.1 ≤ 1000) ∧ s.1.2.2.2.2.1.length ≤ 140737488355328)
def mbuckets_g2 (s : mbuckets_s2X) : mbuckets_e2_2X := ((s.1.1, (), (), ()), (s.2.1, sumsT s.1.1 s.1.2.1 s.1.2.2.2.2.1 s.2.2.1, ()))
theorem buck_T2 {ok4 : mbuckets_s4X → Bool} {g4 : mbuckets_s4X → mbuckets_e4_4X} {c a : Int} {l : List Tm} {k : Nat} {c0 : C9} {S : List Pt} {t : Tm} {d : Int} (ht : l.getD k noTm0 = t) (hk : k < l.length) (hl : l.length ≤ 140737488355328) (hS : S.length = 15) (hd : 0 ≤ d ∧ d ≤ 15)
    (h4 : ok4 (buck_s4 c a 0 l (l.length : Int) (k : Int) 0 c0 S (flatTm t)) = true)
    (e4 : g4 (buck_s4 c a 0 l (l.length : Int) (k : Int) 0 c0 S (flatTm t)) = ((c, a, (), (), (), d, l, (l.length : Int), (k : Int), ()), (c0, S, flatTm t, ()))) :
    (mbuckets_U2 ok4 g4 ((c, a, (), (), l, (l.length : Int), (k : Int), ()), (c0, S, ()))).run = some (.inl ((c, a, (), (), l, (l.length : Int), ((k + 1 : Nat) : Int), ()), (c0, cond (decide (0 < d)) (S.set (d - 1).toNat (addPt c (S.getD (d - 1).toNat noPt) t.2)) S, ()))) := by
  have hr : inR ((k : Int) + 1) = true := inR_of (by omega)
  unfold buck_s4 at h4 e4
  unfold mbuckets_U2 mbuckets_T2
  have ht' : List.getD l (Int.toNat (k : Int)) (⟨0, 0, 0, 0⟩, ⟨0, 0, 0, 0⟩, ⟨0, 0, 0, 0⟩, false) = t := by rw [Int.toNat_natCast]; exact ht
  simp only [ht']
  refine (OT.run_t (decide_eq_true (by omega))).trans ((gd_run ?_).trans ?_)
  · simp only [List.all_cons, List.all_nil, Bool.and_true, Bool.and_eq_true]
    exact ⟨inB_of (by omega), h4⟩
  · have e4' : g4 ((c, a, (), (), (), 0, l, (l.length : Int), (k : Int), 0, ()), (c0.1, c0.2.1, c0.2.2.1, c0.2.2.2.1, c0.2.2.2.2.1, c0.2.2.2.2.2.1, c0.2.2.2.2.2.2.1, c0.2.2.2.2.2.2.2.1, c0.2.2.2.2.2.2.2.2.1, ()), S, (t.1.w0, t.1.w1, t.1.w2, t.1.w3, t.2.1.w0, t.2.1.w1, t.2.1.w2, t.2.1.w3, t.2.2.1.w0, t.2.2.1.w1, t.2.2.1.w2, t.2.2.1.w3, t.2.2.2, ()), ()) = ((c, a, (), (), (), d, l, (l.length : Int), (k : Int), ()), (c0, S, flatTm t, ())) := e4
    simp only [e4']
    by_cases h0 : 0 < d
    · rw [decide_eq_true h0]
      refine (OT.run_t rfl).trans ((gd_run ?_).trans ?_)
      · simp only [hS, Nat.add_zero, hr, List.all_cons, List.all_nil, Bool.and_true, Bool.and_eq_true]
        have i1 : inR (d - 1) = true := inR_of (by omega)
        have i2 : inB (d - 1) 15 = true := inB_of (by omega)
        have i3 : decide ((d - 1).toNat < 15) = true := decide_eq_true (by omega)
        exact ⟨i1, i1, i2, i3, i2, i3⟩
      · rfl
    · rw [decide_eq_false h0]
      refine (OT.run_f rfl).trans ((gd_run ?_).trans rfl)
      simp only [hr, List.all_cons, List.all_nil, Bool.and_true]
theorem mbuckets_h2 : ∀ s : mbuckets_s2X, mbuckets_ok2 s = true → ∃ m e, loopRun (mbuckets_U2 mbuckets_ok4 mbuckets_g4) m s = some e ∧ (mbuckets_f2 mbuckets_g2 s).run = some e := by
  rintro ⟨⟨c, at', ⟨⟩, ⟨⟩, l, n, i, ⟨⟩⟩, ⟨c0, S, ⟨⟩⟩⟩ h
  have h' := of_decide_eq_true h
  dsimp only at h'
  obtain ⟨rfl, rfl, hS, ⟨ha0, ha1⟩, hl⟩ := h'
  have := (loop_upto (T := mbuckets_U2 mbuckets_ok4 mbuckets_g4) (fun i o => (((c, at', (), (), l, (l.length : Int), (i : Int), ()), (c0, o, ())) : mbuckets_s2X)) (buckStep c at' l)
    (fun o => (⟨(.exit 2, mbuckets_e2_2), ((c, (), (), ()), (c0, o, ()))⟩ : LEnd)) l.length S (fun _ o => o.length = 15) hS (fun k o hk ho => ⟨?_, (buckStep_length c at' l k o).trans ho⟩) (fun o ho => ?_)).1
  · obtain ⟨m, hm⟩ := this
    exact ⟨m, _, hm, rfl⟩
  · exact buck_T2 rfl hk hl ho (digT_le _ _) (decide_eq_true ⟨rfl, rfl, ha0, ha1⟩) rfl
  · exact OT.run_f (decide_eq_false (by dsimp only; omega))
def redStep (c : Int) (S : List Pt) (n : Nat) (w : Pt × Pt) : Pt × Pt := (addPt c w.1 (S.getD (14 - n) noPt), addPt c w.2 (addPt c w.1 (S.getD (14 - n) noPt)))
def redS (c : Int) (S : List Pt) : Pt × Pt := upto (redStep c S) (inftyP, inftyP) 15
def mbuckets_ok6 (s : mbuckets_s6X) : Bool := decide (s.1.2.2.2.2.2.1 = 14 ∧ s.2.2.1.length = 15 ∧ cellP s.2.2.2.1 = inftyP ∧ cellP s.2.2.2.2.1 = inftyP)
def mbuckets_g6 (s : mbuckets_s6X) : mbuckets_e6_6X := (((), (), ()), (s.2.1, flatP (redS s.1.1 s.2.2.1).2, ()))
theorem mbuckets_h6 : ∀ s : mbuckets_s6X, mbuckets_ok6 s = true → ∃ m e, loopRun mbuckets_U6 m s = some e ∧ (mbuckets_f6 mbuckets_g6 s).run = some e := by
  rintro ⟨⟨c, ⟨⟩, ⟨⟩, ⟨⟩, ⟨⟩, i, ⟨⟩⟩, ⟨c0, S, r, a, ⟨⟩⟩⟩ h
  have h' := of_decide_eq_true h
  dsimp only at h'
  obtain ⟨rfl, hS, hr, ha⟩ := h'
  have hr2 : r = flatP inftyP := by rw [← hr]; rfl
  have ha2 : a = flatP inftyP := by rw [← ha]; rfl
  subst hr2 ha2
  have := (loop_upto (T := mbuckets_U6) (fun n w => (((c, (), (), (), (), 14 - (n : Int), ()), (c0, S, flatP w.1, flatP w.2, ())) : mbuckets_s6X)) (redStep c S)
    (fun w => (⟨(.exit 6, mbuckets_e6_6), (((), (), ()), (c0, flatP w.2, ()))⟩ : LEnd)) 15 (inftyP, inftyP) (fun _ _ => True) trivial (fun n w hn _ => ⟨?_, trivial⟩) (fun w _ => ?_)).1
  · obtain ⟨m, hm⟩ := this
    exact ⟨m, _, hm, rfl⟩
  · have e1 : ((14 : Int) - (n : Int)).toNat = 14 - n := by omega
    have e2 : (14 : Int) - (n : Int) - 1 = 14 - ((n + 1 : Nat) : Int) := by omega
    refine (OT.run_t (decide_eq_true (by dsimp only; omega))).trans ((gd_run ?_).trans ?_)
    · simp only [e1, hS, Nat.add_zero, List.all_cons, List.all_nil, Bool.and_true, Bool.and_eq_true]
      exact ⟨inB_of (by omega), decide_eq_true (by omega), inR_of (by omega)⟩
    · rw [← e2]
      simp only [OT.run_ok, e1, Nat.add_zero]
      rfl
  · exact OT.run_f (decide_eq_false (by dsimp only; omega))
def buckP (c : Int) (l : List Tm) (a : Int) : Pt := (redS c (sumsT c a l (List.replicate 15 inftyP))).2
theorem mbuckets_T_of {ok4 : mbuckets_s4X → Bool} {g4 : mbuckets_s4X → mbuckets_e4_4X} {ok0 : mbuckets_s0X → Bool} {g0 : mbuckets_s0X → mbuckets_e0_0X} {ok2 : mbuckets_s2X → Bool} {g2 : mbuckets_s2X → mbuckets_e2_2X} {ok6 : mbuckets_s6X → Bool} {g6 : mbuckets_s6X → mbuckets_e6_6X} {c a : Int} {l : List Tm} {S0 S : List Pt} {R : Pt} {z : C9}
    (h0 : ok0 ((c, l, a, (), (), 0, ()), (flatP noPt, List.replicate 15 noPt, ())) = true) (e0 : g0 ((c, l, a, (), (), 0, ()), (flatP noPt, List.replicate 15 noPt, ())) = ((c, l, a, (), (), ()), (flatP noPt, S0, ())))
    (h2 : ok2 ((c, a, (), (), l, (l.length : Int), 0, ()), (flatP noPt, S0, ())) = true) (e2 : g2 ((c, a, (), (), l, (l.length : Int), 0, ()), (flatP noPt, S0, ())) = ((c, (), (), ()), (flatP noPt, S, ())))
    (h6 : ok6 ((c, (), (), (), (), 14, ()), (flatP noPt, S, flatP inftyP, flatP inftyP, ())) = true) (e6 : g6 ((c, (), (), (), (), 14, ()), (flatP noPt, S, flatP inftyP, flatP inftyP, ())) = (((), (), ()), (z, flatP R, ()))) :
    (mbuckets_T ok0 g0 ok4 g4 ok2 g2 ok6 g6 c l a).run = some ⟨mbuckets_o0, ((R, ()), ())⟩ := by
  have e0' : g0 ((c, l, a, (), (), 0, ()), ((0, 0, 0, 0, 0, 0, 0, 0, false, ()), [((⟨0, 0, 0, 0⟩, ⟨0, 0, 0, 0⟩, false) : Pt), ((⟨0, 0, 0, 0⟩, ⟨0, 0, 0, 0⟩, false) : Pt), ((⟨0, 0, 0, 0⟩, ⟨0, 0, 0, 0⟩, false) : Pt), ((⟨0, 0, 0, 0⟩, ⟨0, 0, 0, 0⟩, false) : Pt), ((⟨0, 0, 0, 0⟩, ⟨0, 0, 0, 0⟩, false) : Pt), ((⟨0, 0, 0, 0⟩, ⟨0, 0, 0, 0⟩, false) : Pt), ((⟨0, 0, 0, 0⟩, ⟨0, 0, 0, 0⟩, false) : Pt), ((⟨0, 0, 0, 0⟩, ⟨0, 0, 0, 0⟩, false) : Pt), ((⟨0, 0, 0, 0⟩, ⟨0, 0, 0, 0⟩, false) : Pt), ((⟨0, 0, 0, 0⟩, ⟨0, 0, 0, 0⟩, false) : Pt), ((⟨0, 0, 0, 0⟩, ⟨0, 0, 0, 0⟩, false) : Pt), ((⟨0, 0, 0, 0⟩, ⟨0, 0, 0, 0⟩, false) : Pt), ((⟨0, 0, 0, 0⟩, ⟨0, 0, 0, 0⟩, false) : Pt), ((⟨0, 0, 0, 0⟩, ⟨0, 0, 0, 0⟩, false) : Pt), ((⟨0, 0, 0, 0⟩, ⟨0, 0, 0, 0⟩, false) : Pt)], ())) = ((c, l, a, (), (), ()), (flatP noPt, S0, ())) := e0
  have e2' : g2 ((c, a, (), (), l, (l.length : Int), 0, ()), ((flatP noPt).1, (flatP noPt).2.1, (flatP noPt).2.2.1, (flatP noPt).2.2.2.1, (flatP noPt).2.2.2.2.1, (flatP noPt).2.2.2.2.2.1, (flatP noPt).2.2.2.2.2.2.1, (flatP noPt).2.2.2.2.2.2.2.1, (flatP noPt).2.2.2.2.2.2.2.2.1, ()), S0, ()) = ((c, (), (), ()), (flatP noPt, S, ())) := e2
  have e6' : g6 ((c, (), (), (), (), 14, ()), ((flatP noPt).1, (flatP noPt).2.1, (flatP noPt).2.2.1, (flatP noPt).2.2.2.1, (flatP noPt).2.2.2.2.1, (flatP noPt).2.2.2.2.2.1, (flatP noPt).2.2.2.2.2.2.1, (flatP noPt).2.2.2.2.2.2.2.1, (flatP noPt).2.2.2.2.2.2.2.2.1, ()), S, (0, 0, 0, 0, 0, 0, 0, 0, true, ()), (0, 0, 0, 0, 0, 0, 0, 0, true, ()), ()) = (((), (), ()), (z, flatP R, ())) := e6
  unfold mbuckets_T
  simp only [e0', e2', e6']
  refine (gd_run ?_).trans rfl
  simp only [List.all_cons, List.all_nil, Bool.and_true, Bool.and_eq_true]
  exact ⟨h0, h2, h6⟩
theorem sums_length (c a : Int) (l : List Tm) (S : List Pt) : ∀ n, (upto (buckStep c a l) S n).length = S.length
  | 0 => rfl
  | n + 1 => (buckStep_length c a l n _).trans (sums_length c a l S n)
def mbuckets_pre (x : mbucketsX) : Bool := decide ((0 ≤ x.1.2.2.1 ∧ x.1.2.2.1 ≤ 1000) ∧ x.1.2.1.length ≤ 140737488355328)
def mbuckets_F (x : mbucketsX) : OT mbuckets_S.Y := .ok ⟨mbuckets_o0, ((buckP x.1.1 x.1.2.1 x.1.2.2.1, ()), ())⟩
theorem mbuckets_ok : SummOk Try.prog 96 (mbuckets_S.summ mbuckets_pre mbuckets_F) := mbuckets_main mbuckets_ok0 mbuckets_g0 mbuckets_ok4 mbuckets_g4 mbuckets_ok2 mbuckets_g2 mbuckets_ok6 mbuckets_g6 mbuckets_h0 mbuckets_h4 mbuckets_h2 mbuckets_h6 _ _ fun x oy hp ho => by
  rw [← ho]
  clear ho
  obtain ⟨⟨c, l, a, ⟨⟩⟩, ⟨⟩⟩ := x
  obtain ⟨ha, hl⟩ := of_decide_eq_true hp
  exact mbuckets_T_of (S0 := List.replicate 15 inftyP) (S := sumsT c a l (List.replicate 15 inftyP)) (R := buckP c l a) (z := flatP noPt) (decide_eq_true ⟨rfl, rfl⟩) rfl
    (decide_eq_true ⟨rfl, rfl, rfl, ha, hl⟩) rfl (decide_eq_true ⟨rfl, sums_length c a l _ l.length, rfl, rfl⟩) rfl
def mbuckets_summ : Summ := (mbuckets_S.summ mbuckets_pre mbuckets_F)
theorem mbuckets_known : SummOk Try.prog 96 mbuckets_summ := mbuckets_ok
theorem mbuckets_smono : MonoOk mbuckets_summ := fn_mono
def E_mbuckets : Env := envCons 96 mbuckets_summ E_mtop
theorem E_mbuckets_ok : EnvOk Try.prog E_mbuckets := envOk_cons mbuckets_known E_mtop_ok
theorem E_mbuckets_mono : EnvMono E_mbuckets := envMono_cons mbuckets_smono E_mtop_mono
theorem E_mbuckets_any : AnyOk Try.prog te E_mbuckets := any_ok follows te_ok E_mbuckets_ok E_mbuckets_mono
def msum0_S : FnSpec := ⟨[.val false .int, .val false (.list termT)], [], true, 0, false⟩
abbrev msum0X : Type := ((Int) × (List ((Elem × (Elem × (Elem × Bool))))) × Unit) × (Unit)
def msum0_s0 : Shape := ⟨39, [(0, .val false .int), (1, .val false (.list (.prod .elem (.prod .elem (.prod .elem .bool))))), (4, .ptr 0 0 0), (5, .ptr 1 0 0), (6, .val false .int)], [(0, .cells [.val false .u64, .val false .u64, .val false .u64, .val false .u64, .val false .u64, .val false .u64, .val false .u64, .val false .u64, .val false .bool]), (1, .cells [.val false .u64, .val false .u64, .val false .u64, .val false .u64, .val false .u64, .val false .u64, .val false .u64, .val false .u64, .val false .bool])], 0, true⟩
abbrev msum0_s0X : Type := ((Int) × (List ((Elem × (Elem × (Elem × Bool))))) × (Unit) × (Unit) × (Int) × Unit) × (((UInt64) × (UInt64) × (UInt64) × (UInt64) × (UInt64) × (UInt64) × (UInt64) × (UInt64) × (Bool) × Unit) × ((UInt64) × (UInt64) × (UInt64) × (UInt64) × (UInt64) × (UInt64) × (UInt64) × (UInt64) × (Bool) × Unit) × Unit)
def msum0_s2 : Shape := ⟨39, [(0, .val false .int), (1, .val false (.list (.prod .elem (.prod .elem (.prod .elem .bool))))), (4, .ptr 0 0 0), (5, .ptr 1 0 0), (6, .val false .int), (24, .val false .int)], [(0, .cells [.val false .u64, .val false .u64, .val false .u64, .val false .u64, .val false .u64, .val false .u64, .val false .u64, .val false .u64, .val false .bool]), (1, .cells [.val false .u64, .val false .u64, .val false .u64, .val false .u64, .val false .u64, .val false .u64, .val false .u64, .val false .u64, .val false .bool])], 0, true⟩
abbrev msum0_s2X : Type := ((Int) × (List ((Elem × (Elem × (Elem × Bool))))) × (Unit) × (Unit) × (Int) × (Int) × Unit) × (((UInt64) × (UInt64) × (UInt64) × (UInt64) × (UInt64) × (UInt64) × (UInt64) × (UInt64) × (Bool) × Unit) × ((UInt64) × (UInt64) × (UInt64) × (UInt64) × (UInt64) × (UInt64) × (UInt64) × (UInt64) × (Bool) × Unit) × Unit)
def msum0_e2_2 : Shape := ⟨39, [(0, .val false .int), (1, .val false (.list (.prod .elem (.prod .elem (.prod .elem .bool))))), (4, .ptr 0 0 0), (5, .ptr 1 0 0), (6, .val false .int)], [(0, .cells [.val false .u64, .val false .u64, .val false .u64, .val false .u64, .val false .u64, .val false .u64, .val false .u64, .val false .u64, .val false .bool]), (1, .cells [.val false .u64, .val false .u64, .val false .u64, .val false .u64, .val false .u64, .val false .u64, .val false .u64, .val false .u64, .val false .bool])], 0, true⟩
abbrev msum0_e2_2X : Type := ((Int) × (List ((Elem × (Elem × (Elem × Bool))))) × (Unit) × (Unit) × (Int) × Unit) × (((UInt64) × (UInt64) × (UInt64) × (UInt64) × (UInt64) × (UInt64) × (UInt64) × (UInt64) × (Bool) × Unit) × ((UInt64) × (UInt64) × (UInt64) × (UInt64) × (UInt64) × (UInt64) × (UInt64) × (UInt64) × (Bool) × Unit) × Unit)
def msum0_x2 : SE → Option Shape := xsMk [(2, msum0_e2_2)] none
def msum0_T2 (a0 : Int) (a1 : List ((Elem × (Elem × (Elem × Bool))))) (a6 : Int) (a24 : Int) (c0_0 : UInt64) (c0_1 : UInt64) (c0_2 : UInt64) (c0_3 : UInt64) (c0_4 : UInt64) (c0_5 : UInt64) (c0_6 : UInt64) (c0_7 : UInt64) (c0_8 : Bool) (c1_0 : UInt64) (c1_1 : UInt64) (c1_2 : UInt64) (c1_3 : UInt64) (c1_4 : UInt64) (c1_5 : UInt64) (c1_6 : UInt64) (c1_7 : UInt64) (c1_8 : Bool) : OT (Sum msum0_s2X LEnd) :=
  let z0 : Elem × Elem × Bool := ({ w0 := c1_0, w1 := c1_1, w2 := c1_2, w3 := c1_3 }, { w0 := c1_4, w1 := c1_5, w2 := c1_6, w3 := c1_7 }, c1_8)
  let z1 : Elem × Elem × Bool := addPt a0 z0 z0
  let z2 := z1.fst
  let z3 := z1.snd
  let z4 := z3.fst
  (.br (decide (a24 < (4 : Int)))
  (gd [inR (a24 + (1 : Int))] (.ok (.inl ((a0, (a1, ((), ((), (a6, (a24 + (1 : Int), ())))))), ((c0_0, (c0_1, (c0_2, (c0_3, (c0_4, (c0_5, (c0_6, (c0_7, (c0_8, ()))))))))), ((z2.w0, (z2.w1, (z2.w2, (z2.w3, (z4.w0, (z4.w1, (z4.w2, (z4.w3, (z3.snd, ()))))))))), ()))))))
  (.ok (.inr ⟨(.exit 2, msum0_e2_2), ((a0, (a1, ((), ((), (a6, ()))))), ((c0_0, (c0_1, (c0_2, (c0_3, (c0_4, (c0_5, (c0_6, (c0_7, (c0_8, ()))))))))), ((c1_0, (c1_1, (c1_2, (c1_3, (c1_4, (c1_5, (c1_6, (c1_7, (c1_8, ()))))))))), ())))⟩)))
def msum0_U2 (s : msum0_s2X) : OT (Sum msum0_s2X LEnd) := msum0_T2 (s.1.1) (s.1.2.1) (s.1.2.2.2.2.1) (s.1.2.2.2.2.2.1) (s.2.1.1) (s.2.1.2.1) (s.2.1.2.2.1) (s.2.1.2.2.2.1) (s.2.1.2.2.2.2.1) (s.2.1.2.2.2.2.2.1) (s.2.1.2.2.2.2.2.2.1) (s.2.1.2.2.2.2.2.2.2.1) (s.2.1.2.2.2.2.2.2.2.2.1) (s.2.2.1.1) (s.2.2.1.2.1) (s.2.2.1.2.2.1) (s.2.2.1.2.2.2.1) (s.2.2.1.2.2.2.2.1) (s.2.2.1.2.2.2.2.2.1) (s.2.2.1.2.2.2.2.2.2.1) (s.2.2.1.2.2.2.2.2.2.2.1) (s.2.2.1.2.2.2.2.2.2.2.2.1)
theorem msum0_q2 (s : msum0_s2X) (Q : Sum msum0_s2X LEnd → Prop) : wps te E_mbuckets lamNil 1000 (loopOf (loopOf (codeOf Try.f66) 0) 2) (msum0_s2.inj s) (stepK msum0_s2 msum0_x2 (Q : Sum msum0_s2.T LEnd → Prop)) = (msum0_U2 s).wpR Q := by kernel_rfl
def msum0_f2 (g2_2 : msum0_s2X → msum0_e2_2X) (s : msum0_s2X) : OT LEnd := (.ok ⟨(.exit 2, msum0_e2_2), g2_2 s⟩)
def msum0_e0_0 : Shape := ⟨39, [(4, .ptr 0 0 0), (5, .ptr 1 0 0)], [(0, .cells [.val false .u64, .val false .u64, .val false .u64, .val false .u64, .val false .u64, .val false .u64, .val false .u64, .val false .u64, .val false .bool]), (1, .cells [.val false .u64, .val false .u64, .val false .u64, .val false .u64, .val false .u64, .val false .u64, .val false .u64, .val false .u64, .val false .bool])], 0, true⟩
abbrev msum0_e0_0X : Type := ((Unit) × (Unit) × Unit) × (((UInt64) × (UInt64) × (UInt64) × (UInt64) × (UInt64) × (UInt64) × (UInt64) × (UInt64) × (Bool) × Unit) × ((UInt64) × (UInt64) × (UInt64) × (UInt64) × (UInt64) × (UInt64) × (UInt64) × (UInt64) × (Bool) × Unit) × Unit)
def msum0_x0 : SE → Option Shape := xsMk [(0, msum0_e0_0)] none
def msum0_T0 (ok2 : msum0_s2X → Bool) (g2_2 : msum0_s2X → msum0_e2_2X) (a0 : Int) (a1 : List ((Elem × (Elem × (Elem × Bool))))) (a6 : Int) (c0_0 : UInt64) (c0_1 : UInt64) (c0_2 : UInt64) (c0_3 : UInt64) (c0_4 : UInt64) (c0_5 : UInt64) (c0_6 : UInt64) (c0_7 : UInt64) (c0_8 : Bool) (c1_0 : UInt64) (c1_1 : UInt64) (c1_2 : UInt64) (c1_3 : UInt64) (c1_4 : UInt64) (c1_5 : UInt64) (c1_6 : UInt64) (c1_7 : UInt64) (c1_8 : Bool) : OT (Sum msum0_s0X LEnd) :=
  let z0 : (Int × List (Elem × Elem × Elem × Bool) × PUnit × PUnit × Int × Int × PUnit) × (UInt64 × UInt64 × UInt64 × UInt64 × UInt64 × UInt64 × UInt64 × UInt64 × Bool × PUnit) × (UInt64 × UInt64 × UInt64 × UInt64 × UInt64 × UInt64 × UInt64 × UInt64 × Bool × PUnit) × PUnit := ((a0, a1, (), (), a6, (0 : Int), ()), (c0_0, c0_1, c0_2, c0_3, c0_4, c0_5, c0_6, c0_7, c0_8, ()), (c1_0, c1_1, c1_2, c1_3, c1_4, c1_5, c1_6, c1_7, c1_8, ()), ())
  let z1 : (Int × List (Elem × Elem × Elem × Bool) × PUnit × PUnit × Int × PUnit) × (UInt64 × UInt64 × UInt64 × UInt64 × UInt64 × UInt64 × UInt64 × UInt64 × Bool × PUnit) × (UInt64 × UInt64 × UInt64 × UInt64 × UInt64 × UInt64 × UInt64 × UInt64 × Bool × PUnit) × PUnit := g2_2 z0
  let z2 := z1.fst
  let z3 := z2.fst
  let z4 := z2.snd
  let z5 := z4.fst
  let z6 := z4.snd.snd.snd.fst
  let z7 := z1.snd
  let z8 := z7.fst
  let z9 := z8.snd
  let z10 := z9.snd
  let z11 := z10.snd
  let z12 := z11.snd
  let z13 := z12.snd
  let z14 := z13.snd
  let z15 := z14.snd
  let z16 := z7.snd.fst
  let z17 := z16.snd
  let z18 := z17.snd
  let z19 := z18.snd
  let z20 := z19.snd
  let z21 := z20.snd
  let z22 := z21.snd
  let z23 := z22.snd
  let z24 : Elem × Elem × Bool := addPt z3 ({ w0 := z16.fst, w1 := z17.fst, w2 := z18.fst, w3 := z19.fst }, { w0 := z20.fst, w1 := z21.fst, w2 := z22.fst, w3 := z23.fst }, z23.snd.fst) (buckP z3 z5 z6)
  let z25 := z24.fst
  let z26 := z24.snd
  let z27 := z26.fst
  (.br (decide ((0 : Int) ≤ a6))
  (gd [ok2 z0, mbuckets_pre ((z3, z5, z6, ()), ()), inR (z6 - (4 : Int))] (.ok (.inl ((z3, (z5, ((), ((), (z6 - (4 : Int), ()))))), ((z8.fst, (z9.fst, (z10.fst, (z11.fst, (z12.fst, (z13.fst, (z14.fst, (z15.fst, (z15.snd.fst, ()))))))))), ((z25.w0, (z25.w1, (z25.w2, (z25.w3, (z27.w0, (z27.w1, (z27.w2, (z27.w3, (z26.snd, ()))))))))), ()))))))
  (.ok (.inr ⟨(.exit 0, msum0_e0_0), (((), ((), ())), ((c0_0, (c0_1, (c0_2, (c0_3, (c0_4, (c0_5, (c0_6, (c0_7, (c0_8, ()))))))))), ((c1_0, (c1_1, (c1_2, (c1_3, (c1_4, (c1_5, (c1_6, (c1_7, (c1_8, ()))))))))), ())))⟩)))
def msum0_U0 (ok2 : msum0_s2X → Bool) (g2_2 : msum0_s2X → msum0_e2_2X) (s : msum0_s0X) : OT (Sum msum0_s0X LEnd) := msum0_T0 ok2 g2_2 (s.1.1) (s.1.2.1) (s.1.2.2.2.2.1) (s.2.1.1) (s.2.1.2.1) (s.2.1.2.2.1) (s.2.1.2.2.2.1) (s.2.1.2.2.2.2.1) (s.2.1.2.2.2.2.2.1) (s.2.1.2.2.2.2.2.2.1) (s.2.1.2.2.2.2.2.2.2.1) (s.2.1.2.2.2.2.2.2.2.2.1) (s.2.2.1.1) (s.2.2.1.2.1) (s.2.2.1.2.2.1) (s.2.2.1.2.2.2.1) (s.2.2.1.2.2.2.2.1) (s.2.2.1.2.2.2.2.2.1) (s.2.2.1.2.2.2.2.2.2.1) (s.2.2.1.2.2.2.2.2.2.2.1) (s.2.2.1.2.2.2.2.2.2.2.2.1)
theorem msum0_q0 (ok2 : msum0_s2X → Bool) (g2_2 : msum0_s2X → msum0_e2_2X) (s : msum0_s0X) (Q : Sum msum0_s0X LEnd → Prop) : wps te E_mbuckets (lamCons 2 (loopF msum0_s2 2 ok2 (msum0_f2 g2_2)) lamNil) 1000 (loopOf (codeOf Try.f66) 0) (msum0_s0.inj s) (stepK msum0_s0 msum0_x0 (Q : Sum msum0_s0.T LEnd → Prop)) = (msum0_U0 ok2 g2_2 s).wpR Q := by kernel_rfl
def msum0_f0 (g0_0 : msum0_s0X → msum0_e0_0X) (s : msum0_s0X) : OT LEnd := (.ok ⟨(.exit 0, msum0_e0_0), g0_0 s⟩)
def msum0_o0 : OutSh := ⟨[.val true (.prod .elem (.prod .elem .bool))], [], false⟩
def msum0_sel : SV → Option OutSh := fun _ => some msum0_o0
def msum0_T (ok2 : msum0_s2X → Bool) (g2_2 : msum0_s2X → msum0_e2_2X) (ok0 : msum0_s0X → Bool) (g0_0 : msum0_s0X → msum0_e0_0X) (a0 : Int) (a1 : List ((Elem × (Elem × (Elem × Bool))))) : OT msum0_S.Y :=
  let z0 : Int := Int.tdiv ((↑(topT a1) : Int) + (4 : Int) - (1 : Int)) (4 : Int)
  let z1 : (Int × List (Elem × Elem × Elem × Bool) × PUnit × PUnit × Int × PUnit) × (UInt64 × UInt64 × UInt64 × UInt64 × UInt64 × UInt64 × UInt64 × UInt64 × Bool × PUnit) × (UInt64 × UInt64 × UInt64 × UInt64 × UInt64 × UInt64 × UInt64 × UInt64 × Bool × PUnit) × PUnit := ((a0, a1, (), (), z0 * (4 : Int), ()), ((0 : UInt64), (0 : UInt64), (0 : UInt64), (0 : UInt64), (0 : UInt64), (0 : UInt64), (0 : UInt64), (0 : UInt64), false, ()), ((0 : UInt64), (0 : UInt64), (0 : UInt64), (0 : UInt64), (0 : UInt64), (0 : UInt64), (0 : UInt64), (0 : UInt64), true, ()), ())
  let z2 := (g0_0 z1).snd.snd.fst
  let z3 := z2.snd
  let z4 := z3.snd
  let z5 := z4.snd
  let z6 := z5.snd
  let z7 := z6.snd
  let z8 := z7.snd
  let z9 := z8.snd
  (.br (decide ((↑(List.length a1) : Int) < (24 : Int)))
  (gd [msingle_pre ((a0, a1, ()), ())] (.ok ⟨msum0_o0, ((singlePt a0 a1, ()), ())⟩))
  (gd [mtop_pre ((a1, ()), ()), inR ((↑(topT a1) : Int) + (4 : Int)), inR ((↑(topT a1) : Int) + (4 : Int) - (1 : Int)), true && inR z0, inR (z0 * (4 : Int)), ok0 z1] (.ok ⟨msum0_o0, ((({ w0 := z2.fst, w1 := z3.fst, w2 := z4.fst, w3 := z5.fst }, { w0 := z6.fst, w1 := z7.fst, w2 := z8.fst, w3 := z9.fst }, z9.snd.fst), ()), ())⟩)))
theorem msum0_q (ok2 : msum0_s2X → Bool) (g2_2 : msum0_s2X → msum0_e2_2X) (ok0 : msum0_s0X → Bool) (g0_0 : msum0_s0X → msum0_e0_0X) (x : msum0X) (Q : msum0_S.Y → Prop) : wpf te E_mbuckets (lamCons 0 (loopF msum0_s0 0 ok0 (msum0_f0 g0_0)) lamNil) 1000 Try.f66 (msum0_S.inp.inj x).tm (msum0_S.inp.inj x).hp (fnK msum0_S msum0_sel Q) (fun _ _ => False) = (msum0_T ok2 g2_2 ok0 g0_0 (x.1.1) (x.1.2.1)).wpR Q := by kernel_rfl
theorem msum0_main (ok2 : msum0_s2X → Bool) (g2_2 : msum0_s2X → msum0_e2_2X) (ok0 : msum0_s0X → Bool) (g0_0 : msum0_s0X → msum0_e0_0X) (h2 : ∀ s : msum0_s2X, ok2 s = true → ∃ m e, loopRun (msum0_U2) m s = some e ∧ (msum0_f2 g2_2 s).run = some e) (h0 : ∀ s : msum0_s0X, ok0 s = true → ∃ m e, loopRun (msum0_U0 ok2 g2_2) m s = some e ∧ (msum0_f0 g0_0 s).run = some e) (pre : msum0X → Bool) (F : msum0X → OT msum0_S.Y) (hF : ∀ (x : msum0X) oy, pre x = true → (F x).run = some oy → (msum0_T ok2 g2_2 ok0 g0_0 (x.1.1) (x.1.2.1)).run = some oy) : SummOk Try.prog 66 (msum0_S.summ pre F) :=
  fn_tree te_ok E_mbuckets_ok E_mbuckets_any (f := 66) (fn := Try.f66) (c := codeOf Try.f66) (by kernel_rfl) (by kernel_rfl) (by kernel_rfl) (S := msum0_S) (k := 0) (by kernel_rfl) (fun R hR => (lamOk_cons (c := (codeOf Try.f66)) (by kernel_rfl) (id := 0) (by kernel_rfl) (loop_ok te_ok E_mbuckets_ok E_mbuckets_any (sh := msum0_s0) hR (xs := msum0_x0) (xsMk_small (by kernel_rfl) (by kernel_rfl) hR) xsMk_pan (lamOk_cons (c := (loopOf (codeOf Try.f66) 0)) (by kernel_rfl) (id := 2) (by kernel_rfl) (loop_ok te_ok E_mbuckets_ok E_mbuckets_any (sh := msum0_s2) hR (xs := msum0_x2) (xsMk_small (by kernel_rfl) (by kernel_rfl) hR) xsMk_pan lamOk_nil (n := 1000) (T := msum0_U2) (fun s Q => msum0_q2 s Q) (ok := ok2) (f := msum0_f2 g2_2) h2) lamOk_nil) (n := 1000) (T := msum0_U0 ok2 g2_2) (fun s Q => msum0_q0 ok2 g2_2 s Q) (ok := ok0) (f := msum0_f0 g0_0) h0) lamOk_nil)) (n := 1000) (sel := msum0_sel) (fun v o h => by cases h; rfl) (pre := pre) (F := F) (T := fun x => msum0_T ok2 g2_2 ok0 g0_0 (x.1.1) (x.1.2.1)) (fun x Q => msum0_q ok2 g2_2 ok0 g0_0 x Q) hF
theorem topB_le (l : List Tm) : ∀ n, topB l n ≤ n
  | 0 => Nat.le_refl _
  | n + 1 => by
    unfold topB
    cases anyT l (n : Int)
    · exact Nat.le_succ_of_le (topB_le l n)
    · exact Nat.le_refl _
def dbl4 (c : Int) (O : Pt) : Pt := upto (fun _ o => addPt c o o) O 4
def msum0_ok2 (s : msum0_s2X) : Bool := decide (s.1.2.2.2.2.2.1 = 0)
def msum0_g2 (s : msum0_s2X) : msum0_e2_2X := ((s.1.1, s.1.2.1, (), (), s.1.2.2.2.2.1, ()), (s.2.1, flatP (dbl4 s.1.1 (cellP s.2.2.1)), ()))
theorem msum0_h2 : ∀ s : msum0_s2X, msum0_ok2 s = true → ∃ m e, loopRun msum0_U2 m s = some e ∧ (msum0_f2 msum0_g2 s).run = some e := by
  rintro ⟨⟨c, l, ⟨⟩, ⟨⟩, a, i, ⟨⟩⟩, ⟨c0, c1, ⟨⟩⟩⟩ h
  have h' := of_decide_eq_true h
  dsimp only at h'
  subst h'
  have := (loop_upto (T := msum0_U2) (fun i O => (((c, l, (), (), a, (i : Int), ()), (c0, flatP O, ())) : msum0_s2X)) (fun _ o => addPt c o o)
    (fun O => (⟨(.exit 2, msum0_e2_2), ((c, l, (), (), a, ()), (c0, flatP O, ()))⟩ : LEnd)) 4 (cellP c1) (fun _ _ => True) trivial (fun k O hk _ => ⟨?_, trivial⟩) (fun O _ => ?_)).1
  · obtain ⟨m, hm⟩ := this
    exact ⟨m, _, hm, rfl⟩
  · refine (OT.run_t (decide_eq_true (by dsimp only; omega))).trans ((gd_run ?_).trans rfl)
    simp only [List.all_cons, List.all_nil, Bool.and_true]
    exact inR_of (by omega)
  · exact OT.run_f (decide_eq_false (by dsimp only; omega))
def winStep (c : Int) (l : List Tm) (W n : Nat) (O : Pt) : Pt := addPt c (dbl4 c O) (buckP c l (4 * (W : Int) - 4 * (n : Int)))
def topW (l : List Tm) : Nat := (topT l + 3) / 4
def winP (c : Int) (l : List Tm) : Pt := upto (winStep c l (topW l)) inftyP (topW l + 1)
def win_s2 (c : Int) (l : List Tm) (a : Int) (c0 : C9) (O : Pt) : msum0_s2X := ((c, l, (), (), a, 0, ()), (c0, flatP O, ()))
theorem win_T0 {ok2 : msum0_s2X → Bool} {g2 : msum0_s2X → msum0_e2_2X} {c a : Int} {l : List Tm} {c0 : C9} {O D : Pt} (h0 : 0 ≤ a) (h1 : a ≤ 1000) (hl : l.length ≤ 140737488355328) (hok : ok2 (win_s2 c l a c0 O) = true)
    (e2 : g2 (win_s2 c l a c0 O) = ((c, l, (), (), a, ()), (c0, flatP D, ()))) :
    (msum0_U0 ok2 g2 ((c, l, (), (), a, ()), (c0, flatP O, ()))).run = some (.inl ((c, l, (), (), a - 4, ()), (c0, flatP (addPt c D (buckP c l a)), ()))) := by
  unfold win_s2 at hok e2
  have e2' : g2 ((c, l, (), (), a, 0, ()), (c0.1, c0.2.1, c0.2.2.1, c0.2.2.2.1, c0.2.2.2.2.1, c0.2.2.2.2.2.1, c0.2.2.2.2.2.2.1, c0.2.2.2.2.2.2.2.1, c0.2.2.2.2.2.2.2.2.1, ()), ((flatP O).1, (flatP O).2.1, (flatP O).2.2.1, (flatP O).2.2.2.1, (flatP O).2.2.2.2.1, (flatP O).2.2.2.2.2.1, (flatP O).2.2.2.2.2.2.1, (flatP O).2.2.2.2.2.2.2.1, (flatP O).2.2.2.2.2.2.2.2.1, ()), ()) = ((c, l, (), (), a, ()), (c0, flatP D, ())) := e2
  unfold msum0_U0 msum0_T0
  simp only [e2']
  refine (OT.run_t (decide_eq_true h0)).trans ((gd_run ?_).trans rfl)
  simp only [List.all_cons, List.all_nil, Bool.and_true, Bool.and_eq_true]
  exact ⟨hok, decide_eq_true ⟨⟨h0, h1⟩, hl⟩, inR_of (by omega)⟩
def msum0_ok0 (s : msum0_s0X) : Bool := decide (s.1.2.2.2.2.1 = 4 * (topW s.1.2.1 : Int) ∧ cellP s.2.2.1 = inftyP ∧ s.1.2.1.length ≤ 140737488355328)
def msum0_g0 (s : msum0_s0X) : msum0_e0_0X := (((), (), ()), (s.2.1, flatP (winP s.1.1 s.1.2.1), ()))
theorem msum0_h0 : ∀ s : msum0_s0X, msum0_ok0 s = true → ∃ m e, loopRun (msum0_U0 msum0_ok2 msum0_g2) m s = some e ∧ (msum0_f0 msum0_g0 s).run = some e := by
  rintro ⟨⟨c, l, ⟨⟩, ⟨⟩, a, ⟨⟩⟩, ⟨c0, c1, ⟨⟩⟩⟩ h
  have h' := of_decide_eq_true h
  dsimp only at h'
  obtain ⟨rfl, hO, hl⟩ := h'
  have hO2 : c1 = flatP inftyP := by rw [← hO]; rfl
  subst hO2
  have hW : topW l ≤ 64 := by
    have := topB_le l 256
    unfold topW topT
    omega
  have := (loop_upto (T := msum0_U0 msum0_ok2 msum0_g2) (fun n O => (((c, l, (), (), 4 * (topW l : Int) - 4 * (n : Int), ()), (c0, flatP O, ())) : msum0_s0X)) (winStep c l (topW l))
    (fun O => (⟨(.exit 0, msum0_e0_0), (((), (), ()), (c0, flatP O, ()))⟩ : LEnd)) (topW l + 1) inftyP (fun _ _ => True) trivial (fun n O hn _ => ⟨?_, trivial⟩) (fun O _ => ?_)).1
  · obtain ⟨m, hm⟩ := this
    refine ⟨m, _, ?_, rfl⟩
    have e : 4 * (topW l : Int) - 4 * ((0 : Nat) : Int) = 4 * (topW l : Int) := by omega
    rw [e] at hm
    exact hm
  · have e : 4 * (topW l : Int) - 4 * ((n + 1 : Nat) : Int) = 4 * (topW l : Int) - 4 * (n : Int) - 4 := by omega
    rw [e]
    exact win_T0 (D := dbl4 c O) (by omega) (by omega) hl (decide_eq_true rfl) rfl
  · exact OT.run_f (decide_eq_false (by dsimp only; omega))
def fewT (l : List Tm) : Bool := decide ((l.length : Int) < 24)
def sumP (c : Int) (l : List Tm) : Pt := cond (fewT l) (singlePt c l) (winP c l)
def msum0_pre (x : msum0X) : Bool := decide (x.1.2.1.length ≤ 140737488355328)
def msum0_F (x : msum0X) : OT msum0_S.Y := .ok ⟨msum0_o0, ((sumP x.1.1 x.1.2.1, ()), ())⟩
theorem msum0_T_of {ok2 : msum0_s2X → Bool} {g2 : msum0_s2X → msum0_e2_2X} {ok0 : msum0_s0X → Bool} {g0 : msum0_s0X → msum0_e0_0X} {c : Int} {l : List Tm} {R : Pt} (hl : l.length ≤ 140737488355328) (hf : fewT l = false)
    (h0 : ok0 ((c, l, (), (), 4 * (topW l : Int), ()), (flatP noPt, flatP inftyP, ())) = true) (e0 : g0 ((c, l, (), (), 4 * (topW l : Int), ()), (flatP noPt, flatP inftyP, ())) = (((), (), ()), (flatP noPt, flatP R, ()))) :
    (msum0_T ok2 g2 ok0 g0 c l).run = some ⟨msum0_o0, ((R, ()), ())⟩ := by
  have ht : Int.tdiv ((topT l : Int) + 4 - 1) 4 = (topW l : Int) := by
    unfold topW
    rw [Int.tdiv_eq_ediv_of_nonneg (by omega)]
    omega
  have hW := topB_le l 256
  have hW : topT l ≤ 256 := hW
  have hW2 : topW l ≤ 64 := by unfold topW; omega
  have e1 : (topW l : Int) * 4 = 4 * (topW l : Int) := Int.mul_comm _ _
  unfold msum0_T
  have e0' : g0 ((c, l, (), (), 4 * (topW l : Int), ()), (0, 0, 0, 0, 0, 0, 0, 0, false, ()), (0, 0, 0, 0, 0, 0, 0, 0, true, ()), ()) = (((), (), ()), (flatP noPt, flatP R, ())) := e0
  simp only [ht, e1, e0']
  refine (OT.run_f hf).trans ((gd_run ?_).trans rfl)
  simp only [List.all_cons, List.all_nil, Bool.and_true, Bool.true_and, Bool.and_eq_true]
  exact ⟨decide_eq_true hl, inR_of (by omega), inR_of (by omega), inR_of (by omega), inR_of (by omega), h0⟩
theorem msum0_ok : SummOk Try.prog 66 (msum0_S.summ msum0_pre msum0_F) := msum0_main msum0_ok2 msum0_g2 msum0_ok0 msum0_g0 msum0_h2 msum0_h0 _ _ fun x oy hp ho => by
  rw [← ho]
  clear ho
  obtain ⟨⟨c, l, ⟨⟩⟩, ⟨⟩⟩ := x
  have hl : l.length ≤ 140737488355328 := of_decide_eq_true hp
  show (msum0_T msum0_ok2 msum0_g2 msum0_ok0 msum0_g0 c l).run = some ⟨msum0_o0, ((sumP c l, ()), ())⟩
  rcases (Bool.eq_false_or_eq_true (fewT l)).symm with hf | hf
  · have e : sumP c l = winP c l := by unfold sumP; rw [hf]; rfl
    rw [e]
    exact msum0_T_of (R := winP c l) hl hf (decide_eq_true ⟨rfl, rfl, hl⟩) rfl
  · have e : sumP c l = singlePt c l := by unfold sumP; rw [hf]; rfl
    rw [e]
    refine (OT.run_t hf).trans ((gd_run ?_).trans rfl)
    simp only [List.all_cons, List.all_nil, Bool.and_true]
    exact hp
def msum0_summ : Summ := (msum0_S.summ msum0_pre msum0_F)
theorem msum0_known : SummOk Try.prog 66 msum0_summ := msum0_ok
theorem msum0_smono : MonoOk msum0_summ := fn_mono
def E_msum0 : Env := envCons 66 msum0_summ E_mbuckets
theorem E_msum0_ok : EnvOk Try.prog E_msum0 := envOk_cons msum0_known E_mbuckets_ok
theorem E_msum0_mono : EnvMono E_msum0 := envMono_cons msum0_smono E_mbuckets_mono
theorem E_msum0_any : AnyOk Try.prog te E_msum0 := any_ok follows te_ok E_msum0_ok E_msum0_mono
def mvalue_S : FnSpec := ⟨[.ptr 0 0 0], [(0, lazC (.own 1)), (1, .row termT)], false, 2, true⟩
abbrev mvalueX : Type := ((Unit) × Unit) × (((Int) × (Unit) × Unit) × (List ((Elem × (Elem × (Elem × Bool))))) × Unit)
def mvalue_o0 : OutSh := ⟨[.val true (.prod .elem (.prod .elem .bool))], [(0, .cells [.val false .int, .own 1]), (1, .row (.prod .elem (.prod .elem (.prod .elem .bool))))], false⟩
def mvalue_sel : SV → Option OutSh := fun _ => some mvalue_o0
def mvalue_T (c0_0 : Int) (c1 : List ((Elem × (Elem × (Elem × Bool))))) : OT mvalue_S.Y :=
  (gd [msum0_pre ((c0_0, c1, ()), ())] (.ok ⟨mvalue_o0, ((sumP c0_0 c1, ()), ((c0_0, ((), ())), (c1, ())))⟩))
theorem mvalue_q (x : mvalueX) (Q : mvalue_S.Y → Prop) : wpf te E_msum0 lamNil 1000 Try.f33 (mvalue_S.inp.inj x).tm (mvalue_S.inp.inj x).hp (fnK mvalue_S mvalue_sel Q) (fun _ _ => False) = (mvalue_T (x.2.1.1) (x.2.2.1)).wpR Q := by kernel_rfl
theorem mvalue_main (pre : mvalueX → Bool) (F : mvalueX → OT mvalue_S.Y) (hF : ∀ (x : mvalueX) oy, pre x = true → (F x).run = some oy → (mvalue_T (x.2.1.1) (x.2.2.1)).run = some oy) : SummOk Try.prog 33 (mvalue_S.summ pre F) :=
  fn_tree te_ok E_msum0_ok E_msum0_any (f := 33) (fn := Try.f33) (c := codeOf Try.f33) (by kernel_rfl) (by kernel_rfl) (by kernel_rfl) (S := mvalue_S) (k := 2) (by kernel_rfl) (fun R hR => lamOk_nil) (n := 1000) (sel := mvalue_sel) (fun v o h => by cases h; rfl) (pre := pre) (F := F) (T := fun x => mvalue_T (x.2.1.1) (x.2.2.1)) (fun x Q => mvalue_q x Q) hF
def mvalue_pre (x : mvalueX) : Bool := msum0_pre ((x.2.1.1, x.2.2.1, ()), ())
def mvalue_F (x : mvalueX) : OT mvalue_S.Y := .ok ⟨mvalue_o0, ((sumP x.2.1.1 x.2.2.1, ()), ((x.2.1.1, ((), ())), (x.2.2.1, ())))⟩
theorem mvalue_ok : SummOk Try.prog 33 (mvalue_S.summ mvalue_pre mvalue_F) := mvalue_main _ _ fun x oy hp ho => by
  rw [← ho]
  clear ho
  refine (gd_run ?_).trans rfl
  simp only [List.all_cons, List.all_nil, Bool.and_true]
  exact hp
def mvalue_summ : Summ := (mvalue_S.summ mvalue_pre mvalue_F)
theorem mvalue_known : SummOk Try.prog 33 mvalue_summ := mvalue_ok
theorem mvalue_smono : MonoOk mvalue_summ := fn_mono
def E_mvalue : Env := envCons 33 mvalue_summ E_msum0
theorem E_mvalue_ok : EnvOk Try.prog E_mvalue := envOk_cons mvalue_known E_msum0_ok
theorem E_mvalue_mono : EnvMono E_mvalue := envMono_cons mvalue_smono E_msum0_mono
theorem E_mvalue_any : AnyOk Try.prog te E_mvalue := any_ok follows te_ok E_mvalue_ok E_mvalue_mono
def msum_S : FnSpec := ⟨[.val false .int, .val false (.list termT)], [], true, 0, false⟩
abbrev msumX : Type := ((Int) × (List ((Elem × (Elem × (Elem × Bool))))) × Unit) × (Unit)
def msum_s1 : Shape := ⟨45, [(4, .ptr 0 0 0), (6, .ptr 1 0 0), (26, .val false (.list (.prod .elem (.prod .elem (.prod .elem .bool))))), (27, .val false .int), (28, .val false .int)], [(0, .cells [.val false .u64, .val false .u64, .val false .u64, .val false .u64, .val false .u64, .val false .u64, .val false .u64, .val false .u64, .val false .bool]), (1, .cells [.val false .int, .own 2]), (2, .row (.prod .elem (.prod .elem (.prod .elem .bool))))], 0, true⟩
abbrev msum_s1X : Type := ((Unit) × (Unit) × (List ((Elem × (Elem × (Elem × Bool))))) × (Int) × (Int) × Unit) × (((UInt64) × (UInt64) × (UInt64) × (UInt64) × (UInt64) × (UInt64) × (UInt64) × (UInt64) × (Bool) × Unit) × ((Int) × (Unit) × Unit) × (List ((Elem × (Elem × (Elem × Bool))))) × Unit)
def msum_e1_r : Shape := ⟨45, [(4, .ptr 0 0 0), (5, .val false .int)], [(0, .cells [.val false .u64, .val false .u64, .val false .u64, .val false .u64, .val false .u64, .val false .u64, .val false .u64, .val false .u64, .val false .bool])], 0, true⟩
abbrev msum_e1_rX : Type := ((Unit) × (Int) × Unit) × (((UInt64) × (UInt64) × (UInt64) × (UInt64) × (UInt64) × (UInt64) × (UInt64) × (UInt64) × (Bool) × Unit) × Unit)
def msum_e1_1 : Shape := ⟨45, [(4, .ptr 0 0 0), (6, .ptr 1 0 0)], [(0, .cells [.val false .u64, .val false .u64, .val false .u64, .val false .u64, .val false .u64, .val false .u64, .val false .u64, .val false .u64, .val false .bool]), (1, .cells [.val false .int, .own 2]), (2, .row (.prod .elem (.prod .elem (.prod .elem .bool))))], 0, true⟩
abbrev msum_e1_1X : Type := ((Unit) × (Unit) × Unit) × (((UInt64) × (UInt64) × (UInt64) × (UInt64) × (UInt64) × (UInt64) × (UInt64) × (UInt64) × (Bool) × Unit) × ((Int) × (Unit) × Unit) × (List ((Elem × (Elem × (Elem × Bool))))) × Unit)
def msum_x1 : SE → Option Shape := xsMk [(1, msum_e1_1)] (some msum_e1_r)
def msum_T1 (a26 : List ((Elem × (Elem × (Elem × Bool))))) (a27 : Int) (a28 : Int) (c0_0 : UInt64) (c0_1 : UInt64) (c0_2 : UInt64) (c0_3 : UInt64) (c0_4 : UInt64) (c0_5 : UInt64) (c0_6 : UInt64) (c0_7 : UInt64) (c0_8 : Bool) (c1_0 : Int) (c2 : List ((Elem × (Elem × (Elem × Bool))))) : OT (Sum msum_s1X LEnd) :=
  let z0 : Elem := { w0 := 0, w1 := 0, w2 := 0, w3 := 0 }
  let z1 : Elem × Elem × Elem × Bool := List.getD a26 (Int.toNat a28) (z0, z0, z0, false)
  let z2 := z1.snd
  (.br (decide (a28 < a27))
  (gd [inB a28 (List.length a26)] (.br (onB c1_0 z2)
    (.br (roomT c2)
      (gd [inR (a28 + (1 : Int))] (.ok (.inl (((), ((), (a26, (a27, (a28 + (1 : Int), ()))))), ((c0_0, (c0_1, (c0_2, (c0_3, (c0_4, (c0_5, (c0_6, (c0_7, (c0_8, ()))))))))), ((c1_0, ((), ())), (c2 ++ [(scalP c1_0 z1.fst, z2)], ())))))))
      (.ok (.inr ⟨(.ret, msum_e1_r), (((), ((50 : Int), ())), (((0 : UInt64), ((0 : UInt64), ((0 : UInt64), ((0 : UInt64), ((0 : UInt64), ((0 : UInt64), ((0 : UInt64), ((0 : UInt64), (false, ()))))))))), ()))⟩)))
    (.ok (.inr ⟨(.ret, msum_e1_r), (((), ((41 : Int), ())), (((0 : UInt64), ((0 : UInt64), ((0 : UInt64), ((0 : UInt64), ((0 : UInt64), ((0 : UInt64), ((0 : UInt64), ((0 : UInt64), (false, ()))))))))), ()))⟩))))
  (.ok (.inr ⟨(.exit 1, msum_e1_1), (((), ((), ())), ((c0_0, (c0_1, (c0_2, (c0_3, (c0_4, (c0_5, (c0_6, (c0_7, (c0_8, ()))))))))), ((c1_0, ((), ())), (c2, ()))))⟩)))
def msum_U1 (s : msum_s1X) : OT (Sum msum_s1X LEnd) := msum_T1 (s.1.2.2.1) (s.1.2.2.2.1) (s.1.2.2.2.2.1) (s.2.1.1) (s.2.1.2.1) (s.2.1.2.2.1) (s.2.1.2.2.2.1) (s.2.1.2.2.2.2.1) (s.2.1.2.2.2.2.2.1) (s.2.1.2.2.2.2.2.2.1) (s.2.1.2.2.2.2.2.2.2.1) (s.2.1.2.2.2.2.2.2.2.2.1) (s.2.2.1.1) (s.2.2.2.1)
theorem msum_q1 (s : msum_s1X) (Q : Sum msum_s1X LEnd → Prop) : wps te E_mvalue lamNil 1000 (loopOf (codeOf Try.f18) 1) (msum_s1.inj s) (stepK msum_s1 msum_x1 (Q : Sum msum_s1.T LEnd → Prop)) = (msum_U1 s).wpR Q := by kernel_rfl
def msum_f1 (g1_r : msum_s1X → msum_e1_rX) (c1_r : msum_s1X → Bool) (g1_1 : msum_s1X → msum_e1_1X) (s : msum_s1X) : OT LEnd := (.br (c1_r s) (.ok ⟨(.ret, msum_e1_r), g1_r s⟩) (.ok ⟨(.exit 1, msum_e1_1), g1_1 s⟩))
def msum_o0 : OutSh := ⟨[.val true (.prod .elem (.prod .elem .bool)), .val false .int], [], false⟩
def msum_sel : SV → Option OutSh := fun _ => some msum_o0
def msum_T (ok1 : msum_s1X → Bool) (g1_r : msum_s1X → msum_e1_rX) (c1_r : msum_s1X → Bool) (g1_1 : msum_s1X → msum_e1_1X) (a0 : Int) (a1 : List ((Elem × (Elem × (Elem × Bool))))) : OT msum_S.Y :=
  let z0 : Int := (↑(List.length a1) : Int)
  let z1 : Elem := { w0 := 0, w1 := 0, w2 := 0, w3 := 0 }
  let z2 : Elem × Elem × Bool := (z1, z1, false)
  let z3 : (PUnit × PUnit × List (Elem × Elem × Elem × Bool) × Int × Int × PUnit) × (UInt64 × UInt64 × UInt64 × UInt64 × UInt64 × UInt64 × UInt64 × UInt64 × Bool × PUnit) × (Int × PUnit × PUnit) × List (Elem × Elem × Elem × Bool) × PUnit := (((), (), a1, z0, (0 : Int), ()), ((0 : UInt64), (0 : UInt64), (0 : UInt64), (0 : UInt64), (0 : UInt64), (0 : UInt64), (0 : UInt64), (0 : UInt64), false, ()), (a0, (), ()), [], ())
  let z4 : (PUnit × Int × PUnit) × (UInt64 × UInt64 × UInt64 × UInt64 × UInt64 × UInt64 × UInt64 × UInt64 × Bool × PUnit) × PUnit := g1_r z3
  let z5 := z4.snd.fst
  let z6 := z5.snd
  let z7 := z6.snd
  let z8 := z7.snd
  let z9 := z8.snd
  let z10 := z9.snd
  let z11 := z10.snd
  let z12 := z11.snd
  let z13 := (g1_1 z3).snd.snd
  let z14 := z13.fst.fst
  let z15 := z13.snd.fst
  (.br (sortOk a0)
  (.br (decide ((100000 : Int) < z0))
    (.ok ⟨msum_o0, ((z2, ((50 : Int), ())), ())⟩)
    (gd [ok1 z3] (.br (c1_r z3)
      (.ok ⟨msum_o0, ((({ w0 := z5.fst, w1 := z6.fst, w2 := z7.fst, w3 := z8.fst }, { w0 := z9.fst, w1 := z10.fst, w2 := z11.fst, w3 := z12.fst }, z12.snd.fst), (z4.fst.snd.fst, ())), ())⟩)
      (gd [mvalue_pre (((), ()), (z14, (), ()), z15, ())] (.ok ⟨msum_o0, ((sumP z14 z15, ((0 : Int), ())), ())⟩)))))
  (.ok ⟨msum_o0, ((z2, ((40 : Int), ())), ())⟩))
theorem msum_q (ok1 : msum_s1X → Bool) (g1_r : msum_s1X → msum_e1_rX) (c1_r : msum_s1X → Bool) (g1_1 : msum_s1X → msum_e1_1X) (x : msumX) (Q : msum_S.Y → Prop) : wpf te E_mvalue (lamCons 1 (loopF msum_s1 1 ok1 (msum_f1 g1_r c1_r g1_1)) lamNil) 1000 Try.f18 (msum_S.inp.inj x).tm (msum_S.inp.inj x).hp (fnK msum_S msum_sel Q) (fun _ _ => False) = (msum_T ok1 g1_r c1_r g1_1 (x.1.1) (x.1.2.1)).wpR Q := by kernel_rfl
theorem msum_main (ok1 : msum_s1X → Bool) (g1_r : msum_s1X → msum_e1_rX) (c1_r : msum_s1X → Bool) (g1_1 : msum_s1X → msum_e1_1X) (h1 : ∀ s : msum_s1X, ok1 s = true → ∃ m e, loopRun (msum_U1) m s = some e ∧ (msum_f1 g1_r c1_r g1_1 s).run = some e) (pre : msumX → Bool) (F : msumX → OT msum_S.Y) (hF : ∀ (x : msumX) oy, pre x = true → (F x).run = some oy → (msum_T ok1 g1_r c1_r g1_1 (x.1.1) (x.1.2.1)).run = some oy) : SummOk Try.prog 18 (msum_S.summ pre F) :=
  fn_tree te_ok E_mvalue_ok E_mvalue_any (f := 18) (fn := Try.f18) (c := codeOf Try.f18) (by kernel_rfl) (by kernel_rfl) (by kernel_rfl) (S := msum_S) (k := 0) (by kernel_rfl) (fun R hR => (lamOk_cons (c := (codeOf Try.f18)) (by kernel_rfl) (id := 1) (by kernel_rfl) (loop_ok te_ok E_mvalue_ok E_mvalue_any (sh := msum_s1) hR (xs := msum_x1) (xsMk_small (by kernel_rfl) (by kernel_rfl) hR) xsMk_pan lamOk_nil (n := 1000) (T := msum_U1) (fun s Q => msum_q1 s Q) (ok := ok1) (f := msum_f1 g1_r c1_r g1_1) h1) lamOk_nil)) (n := 1000) (sel := msum_sel) (fun v o h => by cases h; rfl) (pre := pre) (F := F) (T := fun x => msum_T ok1 g1_r c1_r g1_1 (x.1.1) (x.1.2.1)) (fun x Q => msum_q ok1 g1_r c1_r g1_1 x Q) hF
def redT (c : Int) (l : List Tm) : List Tm := l.map fun t => (scalP c t.1, t.2)
def allOn (c : Int) (l : List Tm) : Bool := l.all fun t => onB c t.2
def msum_ok1 (s : msum_s1X) : Bool := decide (s.1.2.2.2.1 = (s.1.2.2.1.length : Int) ∧ s.1.2.2.2.2.1 = 0 ∧ s.2.2.2.1 = [] ∧ s.1.2.2.1.length ≤ 100000)
def msum_g1r (_ : msum_s1X) : msum_e1_rX := (((), (41 : Int), ()), (flatP noPt, ()))
def msum_c1 (s : msum_s1X) : Bool := !allOn s.2.2.1.1 s.1.2.2.1
def msum_g1 (s : msum_s1X) : msum_e1_1X := (((), (), ()), (s.2.1, (s.2.2.1.1, (), ()), redT s.2.2.1.1 s.1.2.2.1, ()))
def sum_st (c : Int) (l : List Tm) (c0 : C9) (k : Int) (o : List Tm) : msum_s1X := (((), (), l, (l.length : Int), k, ()), (c0, (c, (), ()), o, ()))
theorem sum_loop (c : Int) (l : List Tm) (c0 : C9) (hl : l.length ≤ 100000) : ∀ d k : Nat, k + d = l.length →
    ∃ m, loopRun msum_U1 m (sum_st c l c0 (k : Int) (redT c (l.take k))) = some (cond (allOn c (l.drop k)) ⟨(.exit 1, msum_e1_1), (((), (), ()), (c0, (c, (), ()), redT c l, ()))⟩ ⟨(.ret, msum_e1_r), (((), (41 : Int), ()), (flatP noPt, ()))⟩)
  | 0, k, h => by
    rw [List.drop_eq_nil_of_le (by omega), List.take_of_length_le (by omega)]
    exact ⟨1, loopRun_out (OT.run_f (decide_eq_false (by dsimp only [sum_st]; omega)))⟩
  | d + 1, k, h => by
    have hk : k < l.length := by omega
    have e1 : l.drop k = l[k] :: l.drop (k + 1) := List.drop_eq_getElem_cons hk
    have e2 : l.take (k + 1) = l.take k ++ [l[k]] := (List.take_append_getElem hk).symm
    have e3 : l.getD k noTm0 = l[k] := by rw [List.getD_eq_getElem?_getD, List.getElem?_eq_getElem hk]; rfl
    have hgd : ∀ z : OT (Sum msum_s1X LEnd), (gd [inB (k : Int) l.length] z).run = z.run := fun z => gd_run (by rw [inB_of (by omega)]; rfl)
    have ea : allOn c (l.drop k) = (onB c l[k].2 && allOn c (l.drop (k + 1))) := by rw [e1]; rfl
    rw [ea]
    have hr : roomT (redT c (l.take k)) = true := decide_eq_true (by rw [redT, List.length_map, List.length_take]; omega)
    have first : ∀ e : LEnd ⊕ Unit, (msum_U1 (sum_st c l c0 (k : Int) (redT c (l.take k)))).run = (OT.br (onB c (l.getD k noTm0).2) (.br (roomT (redT c (l.take k))) (gd [inR ((k : Int) + 1)] (.ok (.inl (sum_st c l c0 ((k : Int) + 1) (redT c (l.take k) ++ [(scalP c (l.getD k noTm0).1, (l.getD k noTm0).2)])))))
        (.ok (.inr ⟨(.ret, msum_e1_r), (((), (50 : Int), ()), (flatP noPt, ()))⟩))) (.ok (.inr ⟨(.ret, msum_e1_r), (((), (41 : Int), ()), (flatP noPt, ()))⟩)) : OT (Sum msum_s1X LEnd)).run := fun _ =>
      (OT.run_t (decide_eq_true (by dsimp only [sum_st]; omega))).trans ((hgd _).trans rfl)
    have first := first (.inr ())
    rw [e3] at first
    rcases (Bool.eq_false_or_eq_true (onB c l[k].2)).symm with hb | hb
    · rw [hb]
      exact ⟨1, loopRun_out (first.trans (OT.run_f hb))⟩
    · rw [hb]
      obtain ⟨m, hm⟩ := sum_loop c l c0 hl d (k + 1) (by omega)
      refine ⟨m + 1, loopRun_more ?_ hm⟩
      refine first.trans ((OT.run_t hb).trans ((OT.run_t hr).trans ((gd_run ?_).trans ?_)))
      · simp only [List.all_cons, List.all_nil, Bool.and_true]
        exact inR_of (by omega)
      · rw [e2]
        simp only [redT, List.map_append, List.map_cons, List.map_nil]
        rfl
theorem msum_h1 : ∀ s : msum_s1X, msum_ok1 s = true → ∃ m e, loopRun msum_U1 m s = some e ∧ (msum_f1 msum_g1r msum_c1 msum_g1 s).run = some e := by
  rintro ⟨⟨⟨⟩, ⟨⟩, l, n, k, ⟨⟩⟩, ⟨c0, ⟨c, ⟨⟩, ⟨⟩⟩, o, ⟨⟩⟩⟩ h
  have h' := of_decide_eq_true h
  dsimp only at h'
  obtain ⟨rfl, rfl, rfl, hl⟩ := h'
  obtain ⟨m, hm⟩ := sum_loop c l c0 hl l.length 0 (by omega)
  refine ⟨m, _, hm, ?_⟩
  show (OT.br (!allOn c l) _ _ : OT LEnd).run = some (cond (allOn c l) _ _)
  cases allOn c l <;> rfl
def msum_pre (_ : msumX) : Bool := true
def msum_F (x : msumX) : OT msum_S.Y := .br (sortOk x.1.1) (.br (decide (x.1.2.1.length ≤ 100000)) (.br (allOn x.1.1 x.1.2.1) (.ok ⟨msum_o0, ((sumP x.1.1 (redT x.1.1 x.1.2.1), ((0 : Int), ())), ())⟩)
  (.ok ⟨msum_o0, ((noPt, ((41 : Int), ())), ())⟩)) (.ok ⟨msum_o0, ((noPt, ((50 : Int), ())), ())⟩)) (.ok ⟨msum_o0, ((noPt, ((40 : Int), ())), ())⟩)
theorem msum_ok : SummOk Try.prog 18 (msum_S.summ msum_pre msum_F) := msum_main msum_ok1 msum_g1r msum_c1 msum_g1 msum_h1 _ _ fun x oy hp ho => by
  rw [← ho]
  clear ho
  obtain ⟨⟨c, l, ⟨⟩⟩, ⟨⟩⟩ := x
  show (msum_T msum_ok1 msum_g1r msum_c1 msum_g1 c l).run = (OT.br (sortOk c) (.br (decide (l.length ≤ 100000)) (.br (allOn c l) (.ok ⟨msum_o0, ((sumP c (redT c l), ((0 : Int), ())), ())⟩)
    (.ok ⟨msum_o0, ((noPt, ((41 : Int), ())), ())⟩)) (.ok ⟨msum_o0, ((noPt, ((50 : Int), ())), ())⟩)) (.ok ⟨msum_o0, ((noPt, ((40 : Int), ())), ())⟩) : OT msum_S.Y).run
  rcases (Bool.eq_false_or_eq_true (sortOk c)).symm with hs | hs
  · exact (OT.run_f hs).trans (OT.run_f (b := sortOk c) hs).symm
  · refine (OT.run_t hs).trans (Eq.trans ?_ (OT.run_t (b := sortOk c) hs).symm)
    by_cases hl : l.length ≤ 100000
    · refine (OT.run_f (decide_eq_false (by omega))).trans (Eq.trans ?_ (OT.run_t (b := decide (l.length ≤ 100000)) (decide_eq_true hl)).symm)
      refine (gd_run ?_).trans ?_
      · simp only [List.all_cons, List.all_nil, Bool.and_true]
        exact decide_eq_true ⟨rfl, rfl, rfl, hl⟩
      · rcases (Bool.eq_false_or_eq_true (allOn c l)).symm with ha | ha
        · exact (OT.run_t (b := !allOn c l) (by rw [ha]; rfl)).trans (OT.run_f (b := allOn c l) ha).symm
        · refine (OT.run_f (b := !allOn c l) (by rw [ha]; rfl)).trans (Eq.trans ?_ (OT.run_t (b := allOn c l) ha).symm)
          refine (gd_run ?_).trans rfl
          simp only [List.all_cons, List.all_nil, Bool.and_true]
          refine decide_eq_true ?_
          show (redT c l).length ≤ _
          rw [redT, List.length_map]
          omega
    · exact (OT.run_t (decide_eq_true (by omega))).trans (OT.run_f (b := decide (l.length ≤ 100000)) (decide_eq_false hl)).symm
def msum_summ : Summ := (msum_S.summ msum_pre msum_F)
theorem msum_known : SummOk Try.prog 18 msum_summ := msum_ok
theorem msum_smono : MonoOk msum_summ := fn_mono
def E_msum : Env := envCons 18 msum_summ E_mvalue
theorem E_msum_ok : EnvOk Try.prog E_msum := envOk_cons msum_known E_mvalue_ok
theorem E_msum_mono : EnvMono E_msum := envMono_cons msum_smono E_mvalue_mono
theorem E_msum_any : AnyOk Try.prog te E_msum := any_ok follows te_ok E_msum_ok E_msum_mono
def c5alive_S : FnSpec := ⟨[], [], true, 0, false⟩
abbrev c5aliveX : Type := (Unit) × (Unit)
def c5alive_o0 : OutSh := ⟨[.val false .bool], [], false⟩
def c5alive_sel : SV → Option OutSh := fun _ => some c5alive_o0
def c5alive_T : OT c5alive_S.Y :=
  (.ok ⟨c5alive_o0, ((true, ()), ())⟩)
theorem c5alive_q (x : c5aliveX) (Q : c5alive_S.Y → Prop) : wpf te E_msum lamNil 1000 Try.f17 (c5alive_S.inp.inj x).tm (c5alive_S.inp.inj x).hp (fnK c5alive_S c5alive_sel Q) (fun _ _ => False) = (c5alive_T).wpR Q := by kernel_rfl
theorem c5alive_main (pre : c5aliveX → Bool) (F : c5aliveX → OT c5alive_S.Y) (hF : ∀ (x : c5aliveX) oy, pre x = true → (F x).run = some oy → (c5alive_T).run = some oy) : SummOk Try.prog 17 (c5alive_S.summ pre F) :=
  fn_tree te_ok E_msum_ok E_msum_any (f := 17) (fn := Try.f17) (c := codeOf Try.f17) (by kernel_rfl) (by kernel_rfl) (by kernel_rfl) (S := c5alive_S) (k := 0) (by kernel_rfl) (fun R hR => lamOk_nil) (n := 1000) (sel := c5alive_sel) (fun v o h => by cases h; rfl) (pre := pre) (F := F) (T := fun x => c5alive_T) (fun x Q => c5alive_q x Q) hF
def c5alive_pre (_ : c5aliveX) : Bool := true
def c5alive_F (_ : c5aliveX) : OT c5alive_S.Y := .ok ⟨c5alive_o0, ((true, ()), ())⟩
theorem c5alive_ok : SummOk Try.prog 17 (c5alive_S.summ c5alive_pre c5alive_F) := c5alive_main _ _ fun x oy hp ho => by
  rw [← ho]
  clear ho
  show c5alive_T.run = some ⟨c5alive_o0, ((true, ()), ())⟩
  kernel_rfl
def c5alive_summ : Summ := (c5alive_S.summ c5alive_pre c5alive_F)
theorem c5alive_known : SummOk Try.prog 17 c5alive_summ := c5alive_ok
theorem c5alive_smono : MonoOk c5alive_summ := fn_mono
def E_c5alive : Env := envCons 17 c5alive_summ E_msum
theorem E_c5alive_ok : EnvOk Try.prog E_c5alive := envOk_cons c5alive_known E_msum_ok
theorem E_c5alive_mono : EnvMono E_c5alive := envMono_cons c5alive_smono E_msum_mono
theorem E_c5alive_any : AnyOk Try.prog te E_c5alive := any_ok follows te_ok E_c5alive_ok E_c5alive_mono
def mjoin_S : FnSpec := ⟨[.ptr 0 0 0, .ptr 1 0 0], [(0, lazC (.own 3)), (1, lazC (.own 2)), (2, .row termT), (3, .row termT)], false, 3, true⟩
abbrev mjoinX : Type := ((Unit) × (Unit) × Unit) × (((Int) × (Unit) × Unit) × ((Int) × (Unit) × Unit) × (List ((Elem × (Elem × (Elem × Bool))))) × (List ((Elem × (Elem × (Elem × Bool))))) × Unit)
def mjoin_o0 : OutSh := ⟨[.val false .int], [(0, .cells [.val false .int, .own 3]), (1, .cells [.val false .int, .own 2]), (2, .row (.prod .elem (.prod .elem (.prod .elem .bool)))), (3, .row (.prod .elem (.prod .elem (.prod .elem .bool))))], false⟩
def mjoin_sel : SV → Option OutSh := fun _ => some mjoin_o0
def mjoin_T (c0_0 : Int) (c1_0 : Int) (c2 : List ((Elem × (Elem × (Elem × Bool))))) (c3 : List ((Elem × (Elem × (Elem × Bool))))) : OT mjoin_S.Y :=
  let z0 : Int := (↑(List.length c3) : Int) + (↑(List.length c2) : Int)
  (.br (!c1_0 == c0_0)
  (.ok ⟨mjoin_o0, (((40 : Int), ()), ((c0_0, ((), ())), ((c1_0, ((), ())), (c2, (c3, ())))))⟩)
  (gd [inR z0] (.br (decide ((100000 : Int) < z0))
    (.ok ⟨mjoin_o0, (((50 : Int), ()), ((c0_0, ((), ())), ((c1_0, ((), ())), (c2, (c3, ())))))⟩)
    (gd [decide ((List.length c3 + List.length c2) * 104 ≤ 140737488355328)] (.ok ⟨mjoin_o0, (((0 : Int), ()), ((c0_0, ((), ())), ((c1_0, ((), ())), (c2, (c3 ++ c2, ())))))⟩)))))
theorem mjoin_q (x : mjoinX) (Q : mjoin_S.Y → Prop) : wpf te E_c5alive lamNil 1000 Try.f42 (mjoin_S.inp.inj x).tm (mjoin_S.inp.inj x).hp (fnK mjoin_S mjoin_sel Q) (fun _ _ => False) = (mjoin_T (x.2.1.1) (x.2.2.1.1) (x.2.2.2.1) (x.2.2.2.2.1)).wpR Q := by kernel_rfl
theorem mjoin_main (pre : mjoinX → Bool) (F : mjoinX → OT mjoin_S.Y) (hF : ∀ (x : mjoinX) oy, pre x = true → (F x).run = some oy → (mjoin_T (x.2.1.1) (x.2.2.1.1) (x.2.2.2.1) (x.2.2.2.2.1)).run = some oy) : SummOk Try.prog 42 (mjoin_S.summ pre F) :=
  fn_tree te_ok E_c5alive_ok E_c5alive_any (f := 42) (fn := Try.f42) (c := codeOf Try.f42) (by kernel_rfl) (by kernel_rfl) (by kernel_rfl) (S := mjoin_S) (k := 4) (by kernel_rfl) (fun R hR => lamOk_nil) (n := 1000) (sel := mjoin_sel) (fun v o h => by cases h; rfl) (pre := pre) (F := F) (T := fun x => mjoin_T (x.2.1.1) (x.2.2.1.1) (x.2.2.2.1) (x.2.2.2.2.1)) (fun x Q => mjoin_q x Q) hF
def mjoin_pre (x : mjoinX) : Bool := decide (x.2.2.2.1.length + x.2.2.2.2.1.length ≤ 140737488355328)
def fitT (l o : List Tm) : Bool := decide (l.length + o.length ≤ 100000)
def mjoin_F (x : mjoinX) : OT mjoin_S.Y := .br (x.2.2.1.1 == x.2.1.1) (.br (fitT x.2.2.2.2.1 x.2.2.2.1) (.ok ⟨mjoin_o0, (((0 : Int), ()), ((x.2.1.1, ((), ())), ((x.2.2.1.1, ((), ())), (x.2.2.2.1, (x.2.2.2.2.1 ++ x.2.2.2.1, ())))))⟩)
  (.ok ⟨mjoin_o0, (((50 : Int), ()), ((x.2.1.1, ((), ())), ((x.2.2.1.1, ((), ())), (x.2.2.2.1, (x.2.2.2.2.1, ())))))⟩)) (.ok ⟨mjoin_o0, (((40 : Int), ()), ((x.2.1.1, ((), ())), ((x.2.2.1.1, ((), ())), (x.2.2.2.1, (x.2.2.2.2.1, ())))))⟩)
theorem mjoin_ok : SummOk Try.prog 42 (mjoin_S.summ mjoin_pre mjoin_F) := mjoin_main _ _ fun x oy hp ho => by
  rw [← ho]
  clear ho
  obtain ⟨⟨⟨⟩, ⟨⟩, ⟨⟩⟩, ⟨⟨c, ⟨⟩, ⟨⟩⟩, ⟨d, ⟨⟩, ⟨⟩⟩, o, l, ⟨⟩⟩⟩ := x
  have hp : o.length + l.length ≤ 140737488355328 := of_decide_eq_true hp
  show (mjoin_T c d o l).run = (OT.br (d == c) (.br (fitT l o) _ _) _ : OT mjoin_S.Y).run
  rcases (Bool.eq_false_or_eq_true (d == c)).symm with h | h
  · exact (OT.run_t (b := !(d == c)) (by rw [h]; rfl)).trans (OT.run_f (b := d == c) h).symm
  · refine (OT.run_f (b := !(d == c)) (by rw [h]; rfl)).trans (Eq.trans ((gd_run ?_).trans ?_) (OT.run_t (b := d == c) h).symm)
    · simp only [List.all_cons, List.all_nil, Bool.and_true]
      exact inR_of (by omega)
    · by_cases h2 : l.length + o.length ≤ 100000
      · refine (OT.run_f (decide_eq_false (by omega))).trans (Eq.trans ((gd_run ?_).trans rfl) (OT.run_t (b := fitT l o) (decide_eq_true h2)).symm)
        simp only [List.all_cons, List.all_nil, Bool.and_true]
        exact decide_eq_true (by omega)
      · exact (OT.run_t (decide_eq_true (by omega))).trans (OT.run_f (b := fitT l o) (decide_eq_false h2)).symm
def mjoin_summ : Summ := (mjoin_S.summ mjoin_pre mjoin_F)
theorem mjoin_known : SummOk Try.prog 42 mjoin_summ := mjoin_ok
theorem mjoin_smono : MonoOk mjoin_summ := fn_mono
def E_mjoin : Env := envCons 42 mjoin_summ E_c5alive
theorem E_mjoin_ok : EnvOk Try.prog E_mjoin := envOk_cons mjoin_known E_c5alive_ok
theorem E_mjoin_mono : EnvMono E_mjoin := envMono_cons mjoin_smono E_c5alive_mono
theorem E_mjoin_any : AnyOk Try.prog te E_mjoin := any_ok follows te_ok E_mjoin_ok E_mjoin_mono
end Go.Proofs.Ytkedomfjjahjnaa

namespace Go.Proofs.Ytkedomfjjahjnaa
open Sx Go
def Gp {p b : Nat} (_ : Cur p b) : Type := { P : PtQ // OnQ p b P }
section
variable {p b : Nat} {c : Cur p b}
instance : Add (Gp c) := ⟨fun x y => ⟨addQ p x.1 y.1, on_add c x.2 y.2⟩⟩
instance : Zero (Gp c) := ⟨⟨none, trivial⟩⟩
instance : Neg (Gp c) := ⟨fun x => ⟨negQ p x.1, on_neg c x.2⟩⟩
instance : Std.Associative (α := Gp c) (· + ·) := ⟨fun x y z => Subtype.ext (add_assoc c x.2 y.2 z.2)⟩
instance : Std.Commutative (α := Gp c) (· + ·) := ⟨fun x y => Subtype.ext (add_comm c x.2 y.2)⟩
theorem g_comm (x y : Gp c) : x + y = y + x := Subtype.ext (add_comm c x.2 y.2)
theorem g_assoc (x y z : Gp c) : x + y + z = x + (y + z) := Subtype.ext (add_assoc c x.2 y.2 z.2)
theorem g_zero (x : Gp c) : x + 0 = x := Subtype.ext (add_none x.1)
theorem zero_g (x : Gp c) : 0 + x = x := Subtype.ext rfl
theorem g_neg (x : Gp c) : x + -x = 0 := Subtype.ext (add_neg c x.2)
def sm (n : Nat) (x : Gp c) : Gp c := ⟨mulQ p n x.1, on_mul c x.2 n⟩
theorem sm_zero (x : Gp c) : sm 0 x = 0 := rfl
theorem sm_one (x : Gp c) : sm 1 x = x := Subtype.ext (mul_one x.1)
theorem sm_succ (n : Nat) (x : Gp c) : sm (n + 1) x = x + sm n x := rfl
theorem sm_plus (m n : Nat) (x : Gp c) : sm (m + n) x = sm m x + sm n x := Subtype.ext (mul_plus c x.2 n m)
theorem sm_times (m n : Nat) (x : Gp c) : sm (m * n) x = sm m (sm n x) := Subtype.ext (mul_times c x.2 n m)
theorem sm_add (n : Nat) (x y : Gp c) : sm n (x + y) = sm n x + sm n y := Subtype.ext (mul_add c x.2 y.2 n)
theorem sm_none (n : Nat) : sm n (0 : Gp c) = 0 := Subtype.ext (mul_none n)
theorem sm_two (x : Gp c) : sm 2 x = x + x := by rw [sm_succ, sm_one]
theorem g_cancel {x y z : Gp c} (h : x + y = x + z) : y = z := Subtype.ext (add_cancel c x.2 y.2 z.2 (congrArg Subtype.val h))
def sumG : List (Nat × Gp c) → Gp c
  | [] => 0
  | t :: r => sm t.1 t.2 + sumG r
theorem sumG_append (l r : List (Nat × Gp c)) : sumG (l ++ r) = sumG l + sumG r := by
  induction l with
  | nil => exact (zero_g _).symm
  | cons t l ih =>
    show sm t.1 t.2 + sumG (l ++ r) = sm t.1 t.2 + sumG l + sumG r
    rw [ih, g_assoc]
theorem sumG_perm {l r : List (Nat × Gp c)} (h : l.Perm r) : sumG l = sumG r := by
  induction h with
  | nil => rfl
  | cons x _ ih => simp only [sumG, ih]
  | swap x y l => simp only [sumG]; ac_rfl
  | trans _ _ a b => exact a.trans b
theorem sumG_scale (k : Nat) (l : List (Nat × Gp c)) : sm k (sumG l) = sumG (l.map fun t => (t.1 * k, t.2)) := by
  induction l with
  | nil => exact sm_none k
  | cons t l ih =>
    show sm k (sm t.1 t.2 + sumG l) = sm (t.1 * k) t.2 + sumG _
    rw [sm_add, ih, ← sm_times, Nat.mul_comm k]
open Classical in
noncomputable def gp (c : Cur p b) (P : Pt) : Gp c := if h : OnQ p b (toQ P) then ⟨toQ P, h⟩ else 0
theorem gp_of (P : Pt) (h : OnQ p b (toQ P)) : gp c P = ⟨toQ P, h⟩ := dif_pos h
end
section
variable {s : Int} (hs : sortOk s = true)
theorem gp_inj {P R : Pt} (hP : onB s P = true) (hR : onB s R = true) (h : gp (cur_of hs) P = gp (cur_of hs) R) : P = R := by
  rw [gp_of P (onB_parts hP).2.1, gp_of R (onB_parts hR).2.1] at h
  exact can_same (can_on hP) (can_on hR) (congrArg Subtype.val h)
theorem gp_inf : gp (cur_of hs) inftyP = 0 := gp_of inftyP trivial
theorem gp_add {P R : Pt} (hP : onB s P = true) (hR : onB s R = true) : gp (cur_of hs) (addPt s P R) = gp (cur_of hs) P + gp (cur_of hs) R := by
  obtain ⟨e, o⟩ := addPt_on hP hR
  rw [gp_of P (onB_parts hP).2.1, gp_of R (onB_parts hR).2.1, gp_of _ (onB_parts o).2.1]
  exact Subtype.ext e
theorem gp_neg {P : Pt} (hP : onB s P = true) : gp (cur_of hs) (negPt s P) = -gp (cur_of hs) P := by
  obtain ⟨e, o⟩ := negPt_on hP
  rw [gp_of P (onB_parts hP).2.1, gp_of _ (onB_parts o).2.1]
  exact Subtype.ext e
theorem gp_mul (k : Elem) {P : Pt} (hP : onB s P = true) : gp (cur_of hs) (mulPt s k P) = sm k.nat (gp (cur_of hs) P) := by
  obtain ⟨e, o⟩ := mulPt_on k hP
  rw [gp_of P (onB_parts hP).2.1, gp_of _ (onB_parts o).2.1]
  exact Subtype.ext e
theorem g_order (x : Gp (cur_of hs)) : sm (pS (ixor s 1)) x = 0 := Subtype.ext (ord_of hs x.2)
theorem sm_mod (n : Nat) (x : Gp (cur_of hs)) : sm (n % pS (ixor s 1)) x = sm n x := Subtype.ext (mul_mod (cur_of hs) x.2 (ord_of hs x.2) n)
end
end Go.Proofs.Ytkedomfjjahjnaa

namespace Go.Proofs.Ytkedomfjjahjnaa
open Sx Go
set_option maxRecDepth 100000
def lother_S : FnSpec := ⟨[.val false .int, .val false .int, .val true .elem, .val false .int], [], true, 0, false⟩
abbrev lotherX : Type := ((Int) × (Int) × (Elem) × (Int) × Unit) × (Unit)
def lother_o0 : OutSh := ⟨[.val false .bool], [], false⟩
def lother_sel : SV → Option OutSh := fun _ => some lother_o0
def lother_T (a0 : Int) (a1 : Int) (a2 : Elem) (a3 : Int) : OT lother_S.Y :=
  let z0 : Bool := sortOk a1
  let z1 : Int := iand a3 (1023 : Int)
  let z2 : Int × PUnit := (z1, ())
  let z3 : Bool := r4some_pre ((a1, z2), ())
  let z4 : Bool := onB a1 (somePt a1 z1)
  let z5 : Int := (↑1 : Int)
  let z6 : Int := (↑0 : Int)
  (.br (decide (a0 < (0 : Int)))
  (.ok ⟨lother_o0, ((true, ()), ())⟩)
  (.br (decide ((3 : Int) < a0))
    (.ok ⟨lother_o0, ((true, ()), ())⟩)
    (.br (decide (a1 < (0 : Int)))
      (.ok ⟨lother_o0, ((true, ()), ())⟩)
      (.br (decide ((3 : Int) < a1))
        (.ok ⟨lother_o0, ((true, ()), ())⟩)
        (.br (sortOk a0)
          (.br (z0)
            (gd [r4some_pre ((a0, z2), ())] (.br (onB a0 (somePt a0 z1))
              (gd [z3] (.br (z4)
                (.br (a1 == a0)
                  (.br (a0 == a1)
                    (.ok ⟨lother_o0, (((↑2 : Int) == (2 : Int), ()), ())⟩)
                    (.ok ⟨lother_o0, ((false, ()), ())⟩))
                  (.br (a0 == a1)
                    (.ok ⟨lother_o0, ((false, ()), ())⟩)
                    (.ok ⟨lother_o0, ((z5 == (1 : Int), ()), ())⟩)))
                (.br (a1 == a0)
                  (.br (a0 == a1)
                    (.ok ⟨lother_o0, ((z5 == (2 : Int), ()), ())⟩)
                    (.ok ⟨lother_o0, ((false, ()), ())⟩))
                  (.br (a0 == a1)
                    (.ok ⟨lother_o0, ((false, ()), ())⟩)
                    (.ok ⟨lother_o0, ((z6 == (1 : Int), ()), ())⟩)))))
              (gd [z3] (.br (z4)
                (.br (a1 == a0)
                  (.br (a0 == a1)
                    (.ok ⟨lother_o0, ((z5 == (2 : Int), ()), ())⟩)
                    (.ok ⟨lother_o0, ((false, ()), ())⟩))
                  (.br (a0 == a1)
                    (.ok ⟨lother_o0, ((false, ()), ())⟩)
                    (.ok ⟨lother_o0, ((false, ()), ())⟩)))
                (.br (a1 == a0)
                  (.br (a0 == a1)
                    (.ok ⟨lother_o0, ((z6 == (2 : Int), ()), ())⟩)
                    (.ok ⟨lother_o0, ((false, ()), ())⟩))
                  (.br (a0 == a1)
                    (.ok ⟨lother_o0, ((false, ()), ())⟩)
                    (.ok ⟨lother_o0, ((false, ()), ())⟩)))))))
            (.ok ⟨lother_o0, ((false, ()), ())⟩))
          (.br (z0)
            (.ok ⟨lother_o0, ((false, ()), ())⟩)
            (.ok ⟨lother_o0, ((false, ()), ())⟩)))))))
theorem lother_q (x : lotherX) (Q : lother_S.Y → Prop) : wpf te E_mjoin lamNil 1000 Try.f12 (lother_S.inp.inj x).tm (lother_S.inp.inj x).hp (fnK lother_S lother_sel Q) (fun _ _ => False) = (lother_T (x.1.1) (x.1.2.1) (x.1.2.2.1) (x.1.2.2.2.1)).wpR Q := by kernel_rfl
theorem lother_main (pre : lotherX → Bool) (F : lotherX → OT lother_S.Y) (hF : ∀ (x : lotherX) oy, pre x = true → (F x).run = some oy → (lother_T (x.1.1) (x.1.2.1) (x.1.2.2.1) (x.1.2.2.2.1)).run = some oy) : SummOk Try.prog 12 (lother_S.summ pre F) :=
  fn_tree te_ok E_mjoin_ok E_mjoin_any (f := 12) (fn := Try.f12) (c := codeOf Try.f12) (by kernel_rfl) (by kernel_rfl) (by kernel_rfl) (S := lother_S) (k := 0) (by kernel_rfl) (fun R hR => lamOk_nil) (n := 1000) (sel := lother_sel) (fun v o h => by cases h; rfl) (pre := pre) (F := F) (T := fun x => lother_T (x.1.1) (x.1.2.1) (x.1.2.2.1) (x.1.2.2.2.1)) (fun x Q => lother_q x Q) hF
theorem and_low (n : Int) : 0 ≤ iand n 1023 ∧ iand n 1023 ≤ 1023 := by
  have h : (BitVec.ofInt 64 n &&& BitVec.ofInt 64 1023).toNat ≤ 1023 := by
    rw [BitVec.toNat_and]
    exact Nat.and_le_right
  unfold iand
  generalize (BitVec.ofInt 64 n &&& BitVec.ofInt 64 1023).toNat = m at *
  have e : w64 (m : Int) = m := by
    unfold w64
    rw [wrap_i64]
    split <;> omega
  rw [e]
  omega
theorem from_some {s : Int} : ∀ (k : Nat) (n : Int) (j : Nat), j < k → (someOne s (n + j)).isSome = true → (someFrom s k n).isSome = true
  | 0, _, _, h, _ => by omega
  | k + 1, n, j, h, ho => by
    unfold someFrom
    cases e : someOne s n with
    | some P => rfl
    | none =>
      cases j with
      | zero =>
        rw [show n + ((0 : Nat) : Int) = n by omega, e] at ho
        cases ho
      | succ j => exact from_some k (n + 1) j (by omega) (by rw [show n + 1 + (j : Int) = n + ((j + 1 : Nat) : Int) by omega]; exact ho)
def witS (s : Int) : Int := cond (s == 2) 1025 (cond (s == 3) 1024 1023)
theorem wit_some {s : Int} (hs : sortOk s = true) : (someOne s (witS s)).isSome = true ∧ 1023 ≤ witS s ∧ witS s ≤ 1025 := by
  rcases sortOk_cases hs with rfl | rfl | rfl | rfl <;> exact ⟨by decide +kernel, by decide, by decide⟩
theorem some_all {s n : Int} (hs : sortOk s = true) (h0 : 0 ≤ n) (h1 : n ≤ 1023) : (someFrom s someFuel n).isSome = true := by
  obtain ⟨w1, w2, w3⟩ := wit_some hs
  refine from_some someFuel n (witS s - n).toNat ?_ ?_
  · show (witS s - n).toNat < 2000
    omega
  · rw [show n + ((witS s - n).toNat : Int) = witS s by omega]
    exact w1
theorem intP_lt {s : Int} (hs : sortOk s = true) (n : Int) : (intP (pS s) n).nat < pS s := by
  have hp : Sm (pS s) := pS_pos hs
  unfold intP
  rcases (Bool.eq_false_or_eq_true (decide (0 ≤ n))).symm with h | h
  · rw [h]
    exact negP_lt hp _
  · rw [h]
    show (ofP (pS s) _).nat < pS s
    have e : ∀ x : Elem, (ofP (pS s) x).nat = x.nat % pS s := fun x => rem_nat hp
    rw [e]
    exact Nat.mod_lt _ hp.1
theorem one_of {a : Bool} {b : Bool} {c d : Bool} {P Q : Pt} (h : cond a none (cond b (cond c none (cond d none (some P))) none) = some Q) : b = true ∧ P = Q := by
  cases a <;> cases b <;> cases c <;> cases d <;> simp at h ⊢ <;> exact h
theorem one_on {s n : Int} (hs : sortOk s = true) {P : Pt} (h : someOne s n = some P) : onB s P = true := by
  obtain ⟨h1, h2⟩ := one_of h
  have g := (root_on hs (X := someX s n) (intP_lt hs n) h1 false).1
  rw [← h2]
  exact g
theorem from_on {s : Int} (hs : sortOk s = true) {P : Pt} : ∀ (k : Nat) (n : Int), someFrom s k n = some P → onB s P = true
  | 0, _, h => by cases h
  | k + 1, n, h => by
    unfold someFrom at h
    cases e : someOne s n with
    | some Q =>
      rw [e] at h
      obtain rfl := Option.some.inj h
      exact one_on hs e
    | none =>
      rw [e] at h
      exact from_on hs k (n + 1) h
theorem somePt_on {s n : Int} (hs : sortOk s = true) (h0 : 0 ≤ n) (h1 : n ≤ 1023) : onB s (somePt s n) = true := by
  obtain ⟨P, hP⟩ := Option.isSome_iff_exists.1 (some_all hs h0 h1)
  unfold somePt
  rw [hP]
  exact from_on hs _ _ hP
def lother_pre (_ : lotherX) : Bool := true
def lother_F (_ : lotherX) : OT lother_S.Y := .ok ⟨lother_o0, ((true, ()), ())⟩
theorem lother_T_of {c d n : Int} {k : Elem} {P Q : Pt} (hP : somePt c (iand n 1023) = P) (hQ : somePt d (iand n 1023) = Q) (h : sortOk c = true → onB c P = true ∧ r4some_pre ((c, iand n 1023, ()), ()) = true) (h' : sortOk d = true → onB d Q = true ∧ r4some_pre ((d, iand n 1023, ()), ()) = true) :
    (lother_T c d k n).run = some ⟨lother_o0, ((true, ()), ())⟩ := by
  unfold lother_T
  simp only [hP, hQ]
  rcases (Bool.eq_false_or_eq_true (decide (c < 0))).symm with h1 | h1
  · rcases (Bool.eq_false_or_eq_true (decide (3 < c))).symm with h2 | h2
    · rcases (Bool.eq_false_or_eq_true (decide (d < 0))).symm with h3 | h3
      · rcases (Bool.eq_false_or_eq_true (decide (3 < d))).symm with h4 | h4
        · have sc : sortOk c = true := by
            simp only [decide_eq_false_iff_not] at h1 h2
            simp only [sortOk, Bool.and_eq_true, decide_eq_true_eq]
            omega
          have sd : sortOk d = true := by
            simp only [decide_eq_false_iff_not] at h3 h4
            simp only [sortOk, Bool.and_eq_true, decide_eq_true_eq]
            omega
          obtain ⟨a1, a2⟩ := h sc
          obtain ⟨b1, b2⟩ := h' sd
          refine (OT.run_f h1).trans ((OT.run_f h2).trans ((OT.run_f h3).trans ((OT.run_f h4).trans ((OT.run_t sc).trans ((OT.run_t sd).trans ((gd_run (by rw [a2]; rfl)).trans ((OT.run_t a1).trans ((gd_run (by rw [b2]; rfl)).trans ((OT.run_t b1).trans ?_)))))))))
          by_cases e : c = d
          · have e1 : (d == c) = true := by simpa using e.symm
            have e2 : (c == d) = true := by simpa using e
            exact (OT.run_t e1).trans ((OT.run_t e2).trans rfl)
          · have e1 : (d == c) = false := by simpa using fun h => e h.symm
            have e2 : (c == d) = false := by simpa using e
            exact (OT.run_f e1).trans ((OT.run_f e2).trans rfl)
        · exact (OT.run_f h1).trans ((OT.run_f h2).trans ((OT.run_f h3).trans ((OT.run_t h4).trans rfl)))
      · exact (OT.run_f h1).trans ((OT.run_f h2).trans ((OT.run_t h3).trans rfl))
    · exact (OT.run_f h1).trans ((OT.run_t h2).trans rfl)
  · exact (OT.run_t h1).trans rfl
theorem other_one {s n : Int} (hs : sortOk s = true) : onB s (somePt s (iand n 1023)) = true ∧ r4some_pre ((s, iand n 1023, ()), ()) = true := by
  obtain ⟨h0, h1⟩ := and_low n
  refine ⟨somePt_on hs h0 h1, ?_⟩
  have := some_all hs h0 h1
  show (sortOk s && decide (0 ≤ iand n 1023 ∧ iand n 1023 ≤ 2000) && (someFrom s someFuel (iand n 1023)).isSome) = true
  rw [hs, this, decide_eq_true (by omega)]
  rfl
theorem lother_ok : SummOk Try.prog 12 (lother_S.summ lother_pre lother_F) := lother_main _ _ fun x oy hp ho => by
  rw [← ho]
  clear ho
  obtain ⟨⟨c, d, k, n, ⟨⟩⟩, ⟨⟩⟩ := x
  exact lother_T_of rfl rfl other_one other_one
def lother_summ : Summ := (lother_S.summ lother_pre lother_F)
theorem lother_known : SummOk Try.prog 12 lother_summ := lother_ok
theorem lother_smono : MonoOk lother_summ := fn_mono
def E_lother : Env := envCons 12 lother_summ E_mjoin
theorem E_lother_ok : EnvOk Try.prog E_lother := envOk_cons lother_known E_mjoin_ok
theorem E_lother_mono : EnvMono E_lother := envMono_cons lother_smono E_mjoin_mono
theorem E_lother_any : AnyOk Try.prog te E_lother := any_ok follows te_ok E_lother_ok E_lother_mono
end Go.Proofs.Ytkedomfjjahjnaa
