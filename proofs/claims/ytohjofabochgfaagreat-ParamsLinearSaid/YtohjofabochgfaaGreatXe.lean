/- A symbolic machine for Go code over plain data, and functions of the program as it shows them. No statement is proved in this file. -/
import Derived.KernelRfl
import Derived.Test.YtohjofabochgfaaGreatXd
set_option linter.unusedSimpArgs false
set_option linter.unusedVariables false
set_option linter.unusedSectionVars false

namespace Go.Proofs.YtohjofabochgfaaGreat
set_option maxRecDepth 100000
theorem arz {p xs z3 yz x3 s2 mm m b1 s a1 yy Y X l y x z:Int} (h0:p∣xs-(l*l-x-x)) (h1:p∣l*(y+y)-(x*x+x*x+x*x)) (h2:p∣z3-(yz*2)) (h3:p∣yz-(Y*z)) (h4:p∣x3-(mm-s2)) (h5:p∣s2-(s*2)) (h6:p∣mm-(m*m)) (h7:p∣m-(b1*3)) (h8:p∣b1-(X*X)) (h9:p∣s-(a1*4)) (h10:p∣a1-(X*yy)) (h11:p∣yy-(Y*Y)) (h12:p∣X-x*(z*z)) (h13:p∣Y-y*(z*z*z)):p∣(x3-xs*(z3*z3)):=
 dk (dc (-z3*z3) h0 (dc (-2*Y*l*z*z*z*z*z-3*x*x*z*z*z*z*z*z*z*z) h1 (dc (-z3*l*l+2*z3*x-2*yz*l*l+4*yz*x) h2 (dc (-4*yz*l*l+8*yz*x-4*Y*l*l*z+8*Y*x*z) h3 (dc (1) h4 (dc (-1) h5 (dc (1) h6 (dc (m+3*b1) h7 (dc (9*b1+9*X*X) h8 (dc (-2) h9 (dc (-8) h10 (dc (-8*X) h11 (dc (-8*Y*Y+9*X*X*X+9*X*X*x*z*z+9*X*x*x*z*z*z*z+9*x*x*x*z*z*z*z*z*z) h12 (dc (-4*Y*l*l*z*z-6*l*x*x*z*z*z*z*z) h13 (dz p))))))))))))))) (by clear h0 h1 h2 h3 h4 h5 h6 h7 h8 h9 h10 h11 h12 h13;grind)
theorem ary {p ys xs z3 yz y3 y8 y4 md d x3 s2 mm m b1 s a1 yy Y X l y x z:Int} (h0:p∣ys-(l*(x-xs)-y)) (h1:p∣xs-(l*l-x-x)) (h2:p∣l*(y+y)-(x*x+x*x+x*x)) (h3:p∣z3-(yz*2)) (h4:p∣yz-(Y*z)) (h5:p∣y3-(md-y8)) (h6:p∣y8-(y4*8)) (h7:p∣y4-(yy*yy)) (h8:p∣md-(m*d)) (h9:p∣d-(s-x3)) (h10:p∣x3-(mm-s2)) (h11:p∣s2-(s*2)) (h12:p∣mm-(m*m)) (h13:p∣m-(b1*3)) (h14:p∣b1-(X*X)) (h15:p∣s-(a1*4)) (h16:p∣a1-(X*yy)) (h17:p∣yy-(Y*Y)) (h18:p∣X-x*(z*z)) (h19:p∣Y-y*(z*z*z)):p∣(y3-ys*(z3*z3*z3)):=
 dk (dc (-z3*z3*z3) h0 (dc (z3*z3*z3*l) h1 (dc (4*Y*Y*l*l*z*z*z*z*z*z-12*Y*Y*x*z*z*z*z*z*z+6*Y*l*x*x*z*z*z*z*z*z*z*z*z+9*x*x*x*x*z*z*z*z*z*z*z*z*z*z*z*z) h2 (dc (z3*z3*l*l*l-3*z3*z3*l*x+z3*z3*y+2*z3*yz*l*l*l-6*z3*yz*l*x+2*z3*yz*y+4*yz*yz*l*l*l-12*yz*yz*l*x+4*yz*yz*y) h3 (dc (8*yz*yz*l*l*l-24*yz*yz*l*x+8*yz*yz*y+8*yz*Y*l*l*l*z-24*yz*Y*l*x*z+8*yz*Y*y*z+8*Y*Y*l*l*l*z*z-24*Y*Y*l*x*z*z+8*Y*Y*y*z*z) h4 (dc (1) h5 (dc (-1) h6 (dc (-8) h7 (dc (1) h8 (dc (m) h9 (dc (-m) h10 (dc (m) h11 (dc (-m) h12 (dc (-m*m-3*m*b1-9*b1*b1+3*s) h13 (dc (-27*b1*b1-27*b1*X*X+9*s-27*X*X*X*X) h14 (dc (9*X*X) h15 (dc (36*X*X) h16 (dc (-8*yy-8*Y*Y+36*X*X*X) h17 (dc (36*Y*Y*X*X+36*Y*Y*X*x*z*z+36*Y*Y*x*x*z*z*z*z-27*X*X*X*X*X-27*X*X*X*X*x*z*z-27*X*X*X*x*x*z*z*z*z-27*X*X*x*x*x*z*z*z*z*z*z-27*X*x*x*x*x*z*z*z*z*z*z*z*z-27*x*x*x*x*x*z*z*z*z*z*z*z*z*z*z) h18 (dc (-8*Y*Y*Y+8*Y*Y*l*l*l*z*z*z-24*Y*Y*l*x*z*z*z+12*Y*l*l*x*x*z*z*z*z*z*z+18*l*x*x*x*x*z*z*z*z*z*z*z*z*z) h19 (dz p))))))))))))))))))))) (by clear h0 h1 h2 h3 h4 h5 h6 h7 h8 h9 h10 h11 h12 h13 h14 h15 h16 h17 h18 h19;grind)
theorem arx {p z3 yz Y y z:Int} (h0:p∣z3-(yz*2)) (h1:p∣yz-(Y*z)) (h2:p∣Y-y*(z*z*z)):p∣(z3-2*(y*(z*(z*(z*z))))):=
 dk (dc (1) h0 (dc (2) h1 (dc (2*z) h2 (dz p)))) (by clear h0 h1 h2;grind)
theorem arL {p h v u qz pz X2 X1 x1 x2 z1 z2:Int} (h0:p∣h-(v-u)) (h1:p∣v-(X2*pz)) (h2:p∣u-(X1*qz)) (h3:p∣qz-(z2*z2)) (h4:p∣pz-(z1*z1)) (h5:p∣X1-x1*(z1*z1)) (h6:p∣X2-x2*(z2*z2)):p∣(h-(x2-x1)*(z1*z1*(z2*z2))):=
 dk (dc (1) h0 (dc (1) h1 (dc (-1) h2 (dc (-X1) h3 (dc (X2) h4 (dc (-z2*z2) h5 (dc (z1*z1) h6 (dz p)))))))) (by clear h0 h1 h2 h3 h4 h5 h6;grind)
theorem arK {p r t p3 s q3 qz pz Y2 Y1 y1 y2 z1 z2:Int} (h0:p∣r-(t-s)) (h1:p∣t-(Y2*p3)) (h2:p∣p3-(pz*z1)) (h3:p∣s-(Y1*q3)) (h4:p∣q3-(qz*z2)) (h5:p∣qz-(z2*z2)) (h6:p∣pz-(z1*z1)) (h7:p∣Y1-y1*(z1*z1*z1)) (h8:p∣Y2-y2*(z2*z2*z2)):p∣(r-(y2-y1)*(z1*z1*z1*(z2*z2*z2))):=
 dk (dc (1) h0 (dc (1) h1 (dc (Y2) h2 (dc (-1) h3 (dc (-Y1) h4 (dc (-Y1*z2) h5 (dc (Y2*z1) h6 (dc (-z2*z2*z2) h7 (dc (z1*z1*z1) h8 (dz p)))))))))) (by clear h0 h1 h2 h3 h4 h5 h6 h7 h8;grind)
theorem arJ {p xs z3 zz x3 c2 rh rr cc hhh hh r t p3 h v s q3 u qz pz Y2 X2 Y1 X1 y2 y1 l x1 x2 z1 z2:Int} (h0:p∣xs-(l*l-x1-x2)) (h1:p∣l*(x1-x2)-(y1-y2)) (h2:p∣z3-(h*zz)) (h3:p∣zz-(z1*z2)) (h4:p∣x3-(rh-c2)) (h5:p∣c2-(cc*2)) (h6:p∣rh-(rr-hhh)) (h7:p∣rr-(r*r)) (h8:p∣cc-(u*hh)) (h9:p∣hhh-(hh*h)) (h10:p∣hh-(h*h)) (h11:p∣r-(t-s)) (h12:p∣t-(Y2*p3)) (h13:p∣p3-(pz*z1)) (h14:p∣h-(v-u)) (h15:p∣v-(X2*pz)) (h16:p∣s-(Y1*q3)) (h17:p∣q3-(qz*z2)) (h18:p∣u-(X1*qz)) (h19:p∣qz-(z2*z2)) (h20:p∣pz-(z1*z1)) (h21:p∣X1-x1*(z1*z1)) (h22:p∣Y1-y1*(z1*z1*z1)) (h23:p∣X2-x2*(z2*z2)) (h24:p∣Y2-y2*(z2*z2*z2)):p∣(x3-xs*(z3*z3)):=
 dk (dc (-z3*z3) h0 (dc (Y2*z1*z1*z1*z1*z1*z1*z2*z2*z2-l*x1*z1*z1*z1*z1*z1*z1*z2*z2*z2*z2*z2*z2+l*x2*z1*z1*z1*z1*z1*z1*z2*z2*z2*z2*z2*z2-y1*z1*z1*z1*z1*z1*z1*z2*z2*z2*z2*z2*z2) h1 (dc (-z3*l*l+z3*x1+z3*x2-zz*h*l*l+zz*h*x1+zz*h*x2) h2 (dc (-zz*h*h*l*l+zz*h*h*x1+zz*h*h*x2-h*h*l*l*z1*z2+h*h*x1*z1*z2+h*h*x2*z1*z2) h3 (dc (1) h4 (dc (-1) h5 (dc (1) h6 (dc (1) h7 (dc (-2) h8 (dc (-1) h9 (dc (-h-2*u) h10 (dc (r+t-s) h11 (dc (t+p3*Y2-2*s) h12 (dc (p3*Y2*Y2-2*s*Y2+pz*Y2*Y2*z1) h13 (dc (-h*h-h*v-h*u-h*l*l*z1*z1*z2*z2+h*x1*z1*z1*z2*z2+h*x2*z1*z1*z2*z2-v*v-v*l*l*z1*z1*z2*z2+v*x1*z1*z1*z2*z2+v*x2*z1*z1*z2*z2+u*u+u*l*l*z1*z1*z2*z2-u*x1*z1*z1*z2*z2-u*x2*z1*z1*z2*z2) h14 (dc (-v*v+v*u-v*pz*X2-v*l*l*z1*z1*z2*z2+v*x1*z1*z1*z2*z2+v*x2*z1*z1*z2*z2+u*u+u*pz*X2+2*u*l*l*z1*z1*z2*z2-2*u*x1*z1*z1*z2*z2-2*u*x2*z1*z1*z2*z2-pz*pz*X2*X2-pz*X2*l*l*z1*z1*z2*z2+pz*X2*x1*z1*z1*z2*z2+pz*X2*x2*z1*z1*z2*z2) h15 (dc (s+q3*Y1-2*pz*Y2*z1) h16 (dc (q3*Y1*Y1+qz*Y1*Y1*z2-2*pz*Y2*Y1*z1) h17 (dc (-u*u-u*qz*X1+u*pz*X2-u*l*l*z1*z1*z2*z2+u*x1*z1*z1*z2*z2+u*x2*z1*z1*z2*z2-qz*qz*X1*X1+qz*pz*X2*X1-qz*X1*l*l*z1*z1*z2*z2+qz*X1*x1*z1*z1*z2*z2+qz*X1*x2*z1*z1*z2*z2+pz*pz*X2*X2+2*pz*X2*l*l*z1*z1*z2*z2-2*pz*X2*x1*z1*z1*z2*z2-2*pz*X2*x2*z1*z1*z2*z2) h18 (dc (-qz*qz*X1*X1*X1+qz*pz*X2*X1*X1+qz*Y1*Y1*z2*z2-qz*X1*X1*X1*z2*z2-qz*X1*X1*l*l*z1*z1*z2*z2+qz*X1*X1*x1*z1*z1*z2*z2+qz*X1*X1*x2*z1*z1*z2*z2+pz*pz*X2*X2*X1-2*pz*Y2*Y1*z1*z2+pz*X2*X1*X1*z2*z2+2*pz*X2*X1*l*l*z1*z1*z2*z2-2*pz*X2*X1*x1*z1*z1*z2*z2-2*pz*X2*X1*x2*z1*z1*z2*z2+Y1*Y1*z2*z2*z2*z2-X1*X1*X1*z2*z2*z2*z2-X1*X1*l*l*z1*z1*z2*z2*z2*z2+X1*X1*x1*z1*z1*z2*z2*z2*z2+X1*X1*x2*z1*z1*z2*z2*z2*z2) h19 (dc (-pz*pz*X2*X2*X2+pz*Y2*Y2*z1*z1-pz*X2*X2*X2*z1*z1+pz*X2*X2*X1*z2*z2-pz*X2*X2*l*l*z1*z1*z2*z2+pz*X2*X2*x1*z1*z1*z2*z2+pz*X2*X2*x2*z1*z1*z2*z2+Y2*Y2*z1*z1*z1*z1-2*Y2*Y1*z1*z2*z2*z2-X2*X2*X2*z1*z1*z1*z1+X2*X2*X1*z1*z1*z2*z2-X2*X2*l*l*z1*z1*z1*z1*z2*z2+X2*X2*x1*z1*z1*z1*z1*z2*z2+X2*X2*x2*z1*z1*z1*z1*z2*z2+X2*X1*X1*z2*z2*z2*z2+2*X2*X1*l*l*z1*z1*z2*z2*z2*z2-2*X2*X1*x1*z1*z1*z2*z2*z2*z2-2*X2*X1*x2*z1*z1*z2*z2*z2*z2) h20 (dc (X2*X2*z1*z1*z1*z1*z2*z2+X2*X1*z1*z1*z2*z2*z2*z2+2*X2*l*l*z1*z1*z1*z1*z2*z2*z2*z2-X2*x1*z1*z1*z1*z1*z2*z2*z2*z2-2*X2*x2*z1*z1*z1*z1*z2*z2*z2*z2-X1*X1*z2*z2*z2*z2*z2*z2-X1*l*l*z1*z1*z2*z2*z2*z2*z2*z2+X1*x2*z1*z1*z2*z2*z2*z2*z2*z2-l*l*x1*z1*z1*z1*z1*z2*z2*z2*z2*z2*z2+x1*x2*z1*z1*z1*z1*z2*z2*z2*z2*z2*z2) h21 (dc (-2*Y2*z1*z1*z1*z2*z2*z2+Y1*z2*z2*z2*z2*z2*z2+y1*z1*z1*z1*z2*z2*z2*z2*z2*z2) h22 (dc (-X2*X2*z1*z1*z1*z1*z1*z1-X2*l*l*z1*z1*z1*z1*z1*z1*z2*z2+2*X2*x1*z1*z1*z1*z1*z1*z1*z2*z2+2*l*l*x1*z1*z1*z1*z1*z1*z1*z2*z2*z2*z2-l*l*x2*z1*z1*z1*z1*z1*z1*z2*z2*z2*z2-x1*x1*z1*z1*z1*z1*z1*z1*z2*z2*z2*z2) h23 (dc (Y2*z1*z1*z1*z1*z1*z1-l*x1*z1*z1*z1*z1*z1*z1*z2*z2*z2+l*x2*z1*z1*z1*z1*z1*z1*z2*z2*z2-y1*z1*z1*z1*z1*z1*z1*z2*z2*z2) h24 (dz p)))))))))))))))))))))))))) (by clear h0 h1 h2 h3 h4 h5 h6 h7 h8 h9 h10 h11 h12 h13 h14 h15 h16 h17 h18 h19 h20 h21 h22 h23 h24;grind)
theorem arI {p ys xs z3 zz y3 sh rd d x3 c2 rh rr cc hhh hh r t p3 h v s q3 u qz pz Y2 X2 Y1 X1 y2 y1 l x1 x2 z1 z2:Int} (h0:p∣ys-(l*(x1-xs)-y1)) (h1:p∣xs-(l*l-x1-x2)) (h2:p∣l*(x1-x2)-(y1-y2)) (h3:p∣z3-(h*zz)) (h4:p∣zz-(z1*z2)) (h5:p∣y3-(rd-sh)) (h6:p∣sh-(s*hhh)) (h7:p∣rd-(r*d)) (h8:p∣d-(cc-x3)) (h9:p∣x3-(rh-c2)) (h10:p∣c2-(cc*2)) (h11:p∣rh-(rr-hhh)) (h12:p∣rr-(r*r)) (h13:p∣cc-(u*hh)) (h14:p∣hhh-(hh*h)) (h15:p∣hh-(h*h)) (h16:p∣r-(t-s)) (h17:p∣t-(Y2*p3)) (h18:p∣p3-(pz*z1)) (h19:p∣h-(v-u)) (h20:p∣v-(X2*pz)) (h21:p∣s-(Y1*q3)) (h22:p∣q3-(qz*z2)) (h23:p∣u-(X1*qz)) (h24:p∣qz-(z2*z2)) (h25:p∣pz-(z1*z1)) (h26:p∣X1-x1*(z1*z1)) (h27:p∣Y1-y1*(z1*z1*z1)) (h28:p∣X2-x2*(z2*z2)) (h29:p∣Y2-y2*(z2*z2*z2)):p∣(y3-ys*(z3*z3*z3)):=
 dk (dc (-z3*z3*z3) h0 (dc (z3*z3*z3*l) h1 (dc (-Y2*Y2*z1*z1*z1*z1*z1*z1*z1*z1*z1*z2*z2*z2+Y2*l*x1*z1*z1*z1*z1*z1*z1*z1*z1*z1*z2*z2*z2*z2*z2*z2-Y2*l*x2*z1*z1*z1*z1*z1*z1*z1*z1*z1*z2*z2*z2*z2*z2*z2+2*Y2*y1*z1*z1*z1*z1*z1*z1*z1*z1*z1*z2*z2*z2*z2*z2*z2-l*l*x1*x1*z1*z1*z1*z1*z1*z1*z1*z1*z1*z2*z2*z2*z2*z2*z2*z2*z2*z2+2*l*l*x1*x2*z1*z1*z1*z1*z1*z1*z1*z1*z1*z2*z2*z2*z2*z2*z2*z2*z2*z2-l*l*x2*x2*z1*z1*z1*z1*z1*z1*z1*z1*z1*z2*z2*z2*z2*z2*z2*z2*z2*z2-y1*l*x1*z1*z1*z1*z1*z1*z1*z1*z1*z1*z2*z2*z2*z2*z2*z2*z2*z2*z2+2*x1*x1*x1*z1*z1*z1*z1*z1*z1*z1*z1*z1*z2*z2*z2*z2*z2*z2*z2*z2*z2+y1*l*x2*z1*z1*z1*z1*z1*z1*z1*z1*z1*z2*z2*z2*z2*z2*z2*z2*z2*z2-3*x1*x1*x2*z1*z1*z1*z1*z1*z1*z1*z1*z1*z2*z2*z2*z2*z2*z2*z2*z2*z2+x2*x2*x2*z1*z1*z1*z1*z1*z1*z1*z1*z1*z2*z2*z2*z2*z2*z2*z2*z2*z2-y1*y1*z1*z1*z1*z1*z1*z1*z1*z1*z1*z2*z2*z2*z2*z2*z2*z2*z2*z2) h2 (dc (z3*z3*l*l*l-2*z3*z3*l*x1-z3*z3*l*x2+z3*z3*y1+z3*zz*h*l*l*l-2*z3*zz*h*l*x1-z3*zz*h*l*x2+z3*zz*h*y1+zz*zz*h*h*l*l*l-2*zz*zz*h*h*l*x1-zz*zz*h*h*l*x2+zz*zz*h*h*y1) h3 (dc (zz*zz*h*h*h*l*l*l-2*zz*zz*h*h*h*l*x1-zz*zz*h*h*h*l*x2+zz*zz*h*h*h*y1+zz*h*h*h*l*l*l*z1*z2-2*zz*h*h*h*l*x1*z1*z2-zz*h*h*h*l*x2*z1*z2+zz*h*h*h*y1*z1*z2+h*h*h*l*l*l*z1*z1*z2*z2-2*h*h*h*l*x1*z1*z1*z2*z2-h*h*h*l*x2*z1*z1*z2*z2+h*h*h*y1*z1*z1*z2*z2) h4 (dc (1) h5 (dc (-1) h6 (dc (1) h7 (dc (r) h8 (dc (-r) h9 (dc (r) h10 (dc (-r) h11 (dc (-r) h12 (dc (3*r) h13 (dc (r-s) h14 (dc (r*h+3*r*u-h*s) h15 (dc (-r*r-r*t+r*s-t*t+2*t*s+h*h*h+3*h*h*u-s*s) h16 (dc (-t*t-t*p3*Y2+3*t*s-p3*p3*Y2*Y2+3*p3*s*Y2+h*h*h+3*h*h*u-3*s*s) h17 (dc (-p3*p3*Y2*Y2*Y2+3*p3*s*Y2*Y2-p3*pz*Y2*Y2*Y2*z1+h*h*h*Y2+3*h*h*u*Y2-3*s*s*Y2+3*s*pz*Y2*Y2*z1-pz*pz*Y2*Y2*Y2*z1*z1) h18 (dc (-2*h*h*s+h*h*pz*Y2*z1+h*h*l*l*l*z1*z1*z1*z2*z2*z2-2*h*h*l*x1*z1*z1*z1*z2*z2*z2-h*h*l*x2*z1*z1*z1*z2*z2*z2+h*h*y1*z1*z1*z1*z2*z2*z2-2*h*v*s+h*v*pz*Y2*z1+h*v*l*l*l*z1*z1*z1*z2*z2*z2-2*h*v*l*x1*z1*z1*z1*z2*z2*z2-h*v*l*x2*z1*z1*z1*z2*z2*z2+h*v*y1*z1*z1*z1*z2*z2*z2-h*s*u+2*h*u*pz*Y2*z1-h*u*l*l*l*z1*z1*z1*z2*z2*z2+2*h*u*l*x1*z1*z1*z1*z2*z2*z2+h*u*l*x2*z1*z1*z1*z2*z2*z2-h*u*y1*z1*z1*z1*z2*z2*z2-2*v*v*s+v*v*pz*Y2*z1+v*v*l*l*l*z1*z1*z1*z2*z2*z2-2*v*v*l*x1*z1*z1*z1*z2*z2*z2-v*v*l*x2*z1*z1*z1*z2*z2*z2+v*v*y1*z1*z1*z1*z2*z2*z2+v*s*u+v*u*pz*Y2*z1-2*v*u*l*l*l*z1*z1*z1*z2*z2*z2+4*v*u*l*x1*z1*z1*z1*z2*z2*z2+2*v*u*l*x2*z1*z1*z1*z2*z2*z2-2*v*u*y1*z1*z1*z1*z2*z2*z2+s*u*u-2*u*u*pz*Y2*z1+u*u*l*l*l*z1*z1*z1*z2*z2*z2-2*u*u*l*x1*z1*z1*z1*z2*z2*z2-u*u*l*x2*z1*z1*z1*z2*z2*z2+u*u*y1*z1*z1*z1*z2*z2*z2) h19 (dc (-2*v*v*s+v*v*pz*Y2*z1+v*v*l*l*l*z1*z1*z1*z2*z2*z2-2*v*v*l*x1*z1*z1*z1*z2*z2*z2-v*v*l*x2*z1*z1*z1*z2*z2*z2+v*v*y1*z1*z1*z1*z2*z2*z2+3*v*s*u-2*v*s*pz*X2-3*v*u*l*l*l*z1*z1*z1*z2*z2*z2+6*v*u*l*x1*z1*z1*z1*z2*z2*z2+3*v*u*l*x2*z1*z1*z1*z2*z2*z2-3*v*u*y1*z1*z1*z1*z2*z2*z2+v*pz*pz*Y2*X2*z1+v*pz*X2*l*l*l*z1*z1*z1*z2*z2*z2-2*v*pz*X2*l*x1*z1*z1*z1*z2*z2*z2-v*pz*X2*l*x2*z1*z1*z1*z2*z2*z2+v*pz*X2*y1*z1*z1*z1*z2*z2*z2+3*s*u*pz*X2-2*s*pz*pz*X2*X2-3*u*u*pz*Y2*z1+3*u*u*l*l*l*z1*z1*z1*z2*z2*z2-6*u*u*l*x1*z1*z1*z1*z2*z2*z2-3*u*u*l*x2*z1*z1*z1*z2*z2*z2+3*u*u*y1*z1*z1*z1*z2*z2*z2-3*u*pz*X2*l*l*l*z1*z1*z1*z2*z2*z2+6*u*pz*X2*l*x1*z1*z1*z1*z2*z2*z2+3*u*pz*X2*l*x2*z1*z1*z1*z2*z2*z2-3*u*pz*X2*y1*z1*z1*z1*z2*z2*z2+pz*pz*pz*Y2*X2*X2*z1+pz*pz*X2*X2*l*l*l*z1*z1*z1*z2*z2*z2-2*pz*pz*X2*X2*l*x1*z1*z1*z1*z2*z2*z2-pz*pz*X2*X2*l*x2*z1*z1*z1*z2*z2*z2+pz*pz*X2*X2*y1*z1*z1*z1*z2*z2*z2) h20 (dc (s*s+s*q3*Y1-3*s*pz*Y2*z1+q3*q3*Y1*Y1-3*q3*pz*Y2*Y1*z1-u*u*u+3*u*pz*pz*X2*X2-2*pz*pz*pz*X2*X2*X2+3*pz*pz*Y2*Y2*z1*z1) h21 (dc (q3*q3*Y1*Y1*Y1+q3*qz*Y1*Y1*Y1*z2-3*q3*pz*Y2*Y1*Y1*z1-u*u*u*Y1+3*u*pz*pz*X2*X2*Y1+qz*qz*Y1*Y1*Y1*z2*z2-3*qz*pz*Y2*Y1*Y1*z1*z2-2*pz*pz*pz*X2*X2*X2*Y1+3*pz*pz*Y2*Y2*Y1*z1*z1) h22 (dc (-u*u*qz*Y1*z2+2*u*u*pz*Y2*z1-u*u*l*l*l*z1*z1*z1*z2*z2*z2+2*u*u*l*x1*z1*z1*z1*z2*z2*z2+u*u*l*x2*z1*z1*z1*z2*z2*z2-u*u*y1*z1*z1*z1*z2*z2*z2-u*qz*qz*Y1*X1*z2+2*u*qz*pz*Y2*X1*z1-u*qz*X1*l*l*l*z1*z1*z1*z2*z2*z2+2*u*qz*X1*l*x1*z1*z1*z1*z2*z2*z2+u*qz*X1*l*x2*z1*z1*z1*z2*z2*z2-u*qz*X1*y1*z1*z1*z1*z2*z2*z2-3*u*pz*pz*Y2*X2*z1+3*u*pz*X2*l*l*l*z1*z1*z1*z2*z2*z2-6*u*pz*X2*l*x1*z1*z1*z1*z2*z2*z2-3*u*pz*X2*l*x2*z1*z1*z1*z2*z2*z2+3*u*pz*X2*y1*z1*z1*z1*z2*z2*z2-qz*qz*qz*Y1*X1*X1*z2+2*qz*qz*pz*Y2*X1*X1*z1-qz*qz*X1*X1*l*l*l*z1*z1*z1*z2*z2*z2+2*qz*qz*X1*X1*l*x1*z1*z1*z1*z2*z2*z2+qz*qz*X1*X1*l*x2*z1*z1*z1*z2*z2*z2-qz*qz*X1*X1*y1*z1*z1*z1*z2*z2*z2-3*qz*pz*pz*Y2*X2*X1*z1+3*qz*pz*pz*X2*X2*Y1*z2+3*qz*pz*X2*X1*l*l*l*z1*z1*z1*z2*z2*z2-6*qz*pz*X2*X1*l*x1*z1*z1*z1*z2*z2*z2-3*qz*pz*X2*X1*l*x2*z1*z1*z1*z2*z2*z2+3*qz*pz*X2*X1*y1*z1*z1*z1*z2*z2*z2-3*pz*pz*X2*X2*l*l*l*z1*z1*z1*z2*z2*z2+6*pz*pz*X2*X2*l*x1*z1*z1*z1*z2*z2*z2+3*pz*pz*X2*X2*l*x2*z1*z1*z1*z2*z2*z2-3*pz*pz*X2*X2*y1*z1*z1*z1*z2*z2*z2) h23 (dc (-qz*qz*qz*Y1*X1*X1*X1*z2+2*qz*qz*pz*Y2*X1*X1*X1*z1+qz*qz*Y1*Y1*Y1*z2*z2*z2-qz*qz*Y1*X1*X1*X1*z2*z2*z2-qz*qz*X1*X1*X1*l*l*l*z1*z1*z1*z2*z2*z2+2*qz*qz*X1*X1*X1*l*x1*z1*z1*z1*z2*z2*z2+qz*qz*X1*X1*X1*l*x2*z1*z1*z1*z2*z2*z2-qz*qz*X1*X1*X1*y1*z1*z1*z1*z2*z2*z2-3*qz*pz*pz*Y2*X2*X1*X1*z1+3*qz*pz*pz*X2*X2*Y1*X1*z2-3*qz*pz*Y2*Y1*Y1*z1*z2*z2+2*qz*pz*Y2*X1*X1*X1*z1*z2*z2+3*qz*pz*X2*X1*X1*l*l*l*z1*z1*z1*z2*z2*z2-6*qz*pz*X2*X1*X1*l*x1*z1*z1*z1*z2*z2*z2-3*qz*pz*X2*X1*X1*l*x2*z1*z1*z1*z2*z2*z2+3*qz*pz*X2*X1*X1*y1*z1*z1*z1*z2*z2*z2+qz*Y1*Y1*Y1*z2*z2*z2*z2*z2-qz*Y1*X1*X1*X1*z2*z2*z2*z2*z2-qz*X1*X1*X1*l*l*l*z1*z1*z1*z2*z2*z2*z2*z2+2*qz*X1*X1*X1*l*x1*z1*z1*z1*z2*z2*z2*z2*z2+qz*X1*X1*X1*l*x2*z1*z1*z1*z2*z2*z2*z2*z2-qz*X1*X1*X1*y1*z1*z1*z1*z2*z2*z2*z2*z2-2*pz*pz*pz*X2*X2*X2*Y1*z2+3*pz*pz*Y2*Y2*Y1*z1*z1*z2-3*pz*pz*Y2*X2*X1*X1*z1*z2*z2+3*pz*pz*X2*X2*Y1*X1*z2*z2*z2-3*pz*pz*X2*X2*X1*l*l*l*z1*z1*z1*z2*z2*z2+6*pz*pz*X2*X2*X1*l*x1*z1*z1*z1*z2*z2*z2+3*pz*pz*X2*X2*X1*l*x2*z1*z1*z1*z2*z2*z2-3*pz*pz*X2*X2*X1*y1*z1*z1*z1*z2*z2*z2-3*pz*Y2*Y1*Y1*z1*z2*z2*z2*z2+2*pz*Y2*X1*X1*X1*z1*z2*z2*z2*z2+3*pz*X2*X1*X1*l*l*l*z1*z1*z1*z2*z2*z2*z2*z2-6*pz*X2*X1*X1*l*x1*z1*z1*z1*z2*z2*z2*z2*z2-3*pz*X2*X1*X1*l*x2*z1*z1*z1*z2*z2*z2*z2*z2+3*pz*X2*X1*X1*y1*z1*z1*z1*z2*z2*z2*z2*z2+Y1*Y1*Y1*z2*z2*z2*z2*z2*z2*z2-Y1*X1*X1*X1*z2*z2*z2*z2*z2*z2*z2-X1*X1*X1*l*l*l*z1*z1*z1*z2*z2*z2*z2*z2*z2*z2+2*X1*X1*X1*l*x1*z1*z1*z1*z2*z2*z2*z2*z2*z2*z2+X1*X1*X1*l*x2*z1*z1*z1*z2*z2*z2*z2*z2*z2*z2-X1*X1*X1*y1*z1*z1*z1*z2*z2*z2*z2*z2*z2*z2) h24 (dc (pz*pz*pz*Y2*X2*X2*X2*z1-pz*pz*Y2*Y2*Y2*z1*z1*z1+pz*pz*Y2*X2*X2*X2*z1*z1*z1-2*pz*pz*X2*X2*X2*Y1*z2*z2*z2+pz*pz*X2*X2*X2*l*l*l*z1*z1*z1*z2*z2*z2-2*pz*pz*X2*X2*X2*l*x1*z1*z1*z1*z2*z2*z2-pz*pz*X2*X2*X2*l*x2*z1*z1*z1*z2*z2*z2+pz*pz*X2*X2*X2*y1*z1*z1*z1*z2*z2*z2-pz*Y2*Y2*Y2*z1*z1*z1*z1*z1+3*pz*Y2*Y2*Y1*z1*z1*z2*z2*z2+pz*Y2*X2*X2*X2*z1*z1*z1*z1*z1-3*pz*Y2*X2*X1*X1*z1*z2*z2*z2*z2-2*pz*X2*X2*X2*Y1*z1*z1*z2*z2*z2+pz*X2*X2*X2*l*l*l*z1*z1*z1*z1*z1*z2*z2*z2-2*pz*X2*X2*X2*l*x1*z1*z1*z1*z1*z1*z2*z2*z2-pz*X2*X2*X2*l*x2*z1*z1*z1*z1*z1*z2*z2*z2+pz*X2*X2*X2*y1*z1*z1*z1*z1*z1*z2*z2*z2+3*pz*X2*X2*Y1*X1*z2*z2*z2*z2*z2-3*pz*X2*X2*X1*l*l*l*z1*z1*z1*z2*z2*z2*z2*z2+6*pz*X2*X2*X1*l*x1*z1*z1*z1*z2*z2*z2*z2*z2+3*pz*X2*X2*X1*l*x2*z1*z1*z1*z2*z2*z2*z2*z2-3*pz*X2*X2*X1*y1*z1*z1*z1*z2*z2*z2*z2*z2-Y2*Y2*Y2*z1*z1*z1*z1*z1*z1*z1+3*Y2*Y2*Y1*z1*z1*z1*z1*z2*z2*z2+Y2*X2*X2*X2*z1*z1*z1*z1*z1*z1*z1-3*Y2*X2*X1*X1*z1*z1*z1*z2*z2*z2*z2-3*Y2*Y1*Y1*z1*z2*z2*z2*z2*z2*z2+2*Y2*X1*X1*X1*z1*z2*z2*z2*z2*z2*z2-2*X2*X2*X2*Y1*z1*z1*z1*z1*z2*z2*z2+X2*X2*X2*l*l*l*z1*z1*z1*z1*z1*z1*z1*z2*z2*z2-2*X2*X2*X2*l*x1*z1*z1*z1*z1*z1*z1*z1*z2*z2*z2-X2*X2*X2*l*x2*z1*z1*z1*z1*z1*z1*z1*z2*z2*z2+X2*X2*X2*y1*z1*z1*z1*z1*z1*z1*z1*z2*z2*z2+3*X2*X2*Y1*X1*z1*z1*z2*z2*z2*z2*z2-3*X2*X2*X1*l*l*l*z1*z1*z1*z1*z1*z2*z2*z2*z2*z2+6*X2*X2*X1*l*x1*z1*z1*z1*z1*z1*z2*z2*z2*z2*z2+3*X2*X2*X1*l*x2*z1*z1*z1*z1*z1*z2*z2*z2*z2*z2-3*X2*X2*X1*y1*z1*z1*z1*z1*z1*z2*z2*z2*z2*z2+3*X2*X1*X1*l*l*l*z1*z1*z1*z2*z2*z2*z2*z2*z2*z2-6*X2*X1*X1*l*x1*z1*z1*z1*z2*z2*z2*z2*z2*z2*z2-3*X2*X1*X1*l*x2*z1*z1*z1*z2*z2*z2*z2*z2*z2*z2+3*X2*X1*X1*y1*z1*z1*z1*z2*z2*z2*z2*z2*z2*z2) h25 (dc (-3*Y2*X2*X1*z1*z1*z1*z1*z1*z2*z2*z2*z2-3*Y2*X2*x1*z1*z1*z1*z1*z1*z1*z1*z2*z2*z2*z2+2*Y2*X1*X1*z1*z1*z1*z2*z2*z2*z2*z2*z2+2*Y2*X1*x1*z1*z1*z1*z1*z1*z2*z2*z2*z2*z2*z2+2*Y2*x1*x1*z1*z1*z1*z1*z1*z1*z1*z2*z2*z2*z2*z2*z2+3*X2*X2*Y1*z1*z1*z1*z1*z2*z2*z2*z2*z2-3*X2*X2*l*l*l*z1*z1*z1*z1*z1*z1*z1*z2*z2*z2*z2*z2+6*X2*X2*l*x1*z1*z1*z1*z1*z1*z1*z1*z2*z2*z2*z2*z2+3*X2*X2*l*x2*z1*z1*z1*z1*z1*z1*z1*z2*z2*z2*z2*z2-3*X2*X2*y1*z1*z1*z1*z1*z1*z1*z1*z2*z2*z2*z2*z2+3*X2*X1*l*l*l*z1*z1*z1*z1*z1*z2*z2*z2*z2*z2*z2*z2-6*X2*X1*l*x1*z1*z1*z1*z1*z1*z2*z2*z2*z2*z2*z2*z2-3*X2*X1*l*x2*z1*z1*z1*z1*z1*z2*z2*z2*z2*z2*z2*z2+3*X2*X1*y1*z1*z1*z1*z1*z1*z2*z2*z2*z2*z2*z2*z2+3*X2*l*l*l*x1*z1*z1*z1*z1*z1*z1*z1*z2*z2*z2*z2*z2*z2*z2-6*X2*l*x1*x1*z1*z1*z1*z1*z1*z1*z1*z2*z2*z2*z2*z2*z2*z2-3*X2*l*x1*x2*z1*z1*z1*z1*z1*z1*z1*z2*z2*z2*z2*z2*z2*z2+3*X2*y1*x1*z1*z1*z1*z1*z1*z1*z1*z2*z2*z2*z2*z2*z2*z2-Y1*X1*X1*z2*z2*z2*z2*z2*z2*z2*z2*z2-Y1*X1*x1*z1*z1*z2*z2*z2*z2*z2*z2*z2*z2*z2-Y1*x1*x1*z1*z1*z1*z1*z2*z2*z2*z2*z2*z2*z2*z2*z2-X1*X1*l*l*l*z1*z1*z1*z2*z2*z2*z2*z2*z2*z2*z2*z2+2*X1*X1*l*x1*z1*z1*z1*z2*z2*z2*z2*z2*z2*z2*z2*z2+X1*X1*l*x2*z1*z1*z1*z2*z2*z2*z2*z2*z2*z2*z2*z2-X1*X1*y1*z1*z1*z1*z2*z2*z2*z2*z2*z2*z2*z2*z2-X1*l*l*l*x1*z1*z1*z1*z1*z1*z2*z2*z2*z2*z2*z2*z2*z2*z2+2*X1*l*x1*x1*z1*z1*z1*z1*z1*z2*z2*z2*z2*z2*z2*z2*z2*z2+X1*l*x1*x2*z1*z1*z1*z1*z1*z2*z2*z2*z2*z2*z2*z2*z2*z2-X1*y1*x1*z1*z1*z1*z1*z1*z2*z2*z2*z2*z2*z2*z2*z2*z2-l*l*l*x1*x1*z1*z1*z1*z1*z1*z1*z1*z2*z2*z2*z2*z2*z2*z2*z2*z2+2*l*x1*x1*x1*z1*z1*z1*z1*z1*z1*z1*z2*z2*z2*z2*z2*z2*z2*z2*z2+l*x1*x1*x2*z1*z1*z1*z1*z1*z1*z1*z2*z2*z2*z2*z2*z2*z2*z2*z2-y1*x1*x1*z1*z1*z1*z1*z1*z1*z1*z2*z2*z2*z2*z2*z2*z2*z2*z2) h26 (dc (3*Y2*Y2*z1*z1*z1*z1*z1*z1*z2*z2*z2-3*Y2*Y1*z1*z1*z1*z2*z2*z2*z2*z2*z2-3*Y2*y1*z1*z1*z1*z1*z1*z1*z2*z2*z2*z2*z2*z2-2*X2*X2*X2*z1*z1*z1*z1*z1*z1*z2*z2*z2+3*X2*X2*x1*z1*z1*z1*z1*z1*z1*z2*z2*z2*z2*z2+Y1*Y1*z2*z2*z2*z2*z2*z2*z2*z2*z2+Y1*y1*z1*z1*z1*z2*z2*z2*z2*z2*z2*z2*z2*z2-x1*x1*x1*z1*z1*z1*z1*z1*z1*z2*z2*z2*z2*z2*z2*z2*z2*z2+y1*y1*z1*z1*z1*z1*z1*z1*z2*z2*z2*z2*z2*z2*z2*z2*z2) h27 (dc (Y2*X2*X2*z1*z1*z1*z1*z1*z1*z1*z1*z1+Y2*X2*x2*z1*z1*z1*z1*z1*z1*z1*z1*z1*z2*z2-3*Y2*x1*x1*z1*z1*z1*z1*z1*z1*z1*z1*z1*z2*z2*z2*z2+Y2*x2*x2*z1*z1*z1*z1*z1*z1*z1*z1*z1*z2*z2*z2*z2+X2*X2*l*l*l*z1*z1*z1*z1*z1*z1*z1*z1*z1*z2*z2*z2-2*X2*X2*l*x1*z1*z1*z1*z1*z1*z1*z1*z1*z1*z2*z2*z2-X2*X2*l*x2*z1*z1*z1*z1*z1*z1*z1*z1*z1*z2*z2*z2-X2*X2*y1*z1*z1*z1*z1*z1*z1*z1*z1*z1*z2*z2*z2-3*X2*l*l*l*x1*z1*z1*z1*z1*z1*z1*z1*z1*z1*z2*z2*z2*z2*z2+X2*l*l*l*x2*z1*z1*z1*z1*z1*z1*z1*z1*z1*z2*z2*z2*z2*z2+6*X2*l*x1*x1*z1*z1*z1*z1*z1*z1*z1*z1*z1*z2*z2*z2*z2*z2+X2*l*x1*x2*z1*z1*z1*z1*z1*z1*z1*z1*z1*z2*z2*z2*z2*z2-X2*l*x2*x2*z1*z1*z1*z1*z1*z1*z1*z1*z1*z2*z2*z2*z2*z2-X2*y1*x2*z1*z1*z1*z1*z1*z1*z1*z1*z1*z2*z2*z2*z2*z2+3*l*l*l*x1*x1*z1*z1*z1*z1*z1*z1*z1*z1*z1*z2*z2*z2*z2*z2*z2*z2-3*l*l*l*x1*x2*z1*z1*z1*z1*z1*z1*z1*z1*z1*z2*z2*z2*z2*z2*z2*z2+l*l*l*x2*x2*z1*z1*z1*z1*z1*z1*z1*z1*z1*z2*z2*z2*z2*z2*z2*z2-6*l*x1*x1*x1*z1*z1*z1*z1*z1*z1*z1*z1*z1*z2*z2*z2*z2*z2*z2*z2+3*l*x1*x1*x2*z1*z1*z1*z1*z1*z1*z1*z1*z1*z2*z2*z2*z2*z2*z2*z2+l*x1*x2*x2*z1*z1*z1*z1*z1*z1*z1*z1*z1*z2*z2*z2*z2*z2*z2*z2-l*x2*x2*x2*z1*z1*z1*z1*z1*z1*z1*z1*z1*z2*z2*z2*z2*z2*z2*z2+3*y1*x1*x1*z1*z1*z1*z1*z1*z1*z1*z1*z1*z2*z2*z2*z2*z2*z2*z2-y1*x2*x2*z1*z1*z1*z1*z1*z1*z1*z1*z1*z2*z2*z2*z2*z2*z2*z2) h28 (dc (-Y2*Y2*z1*z1*z1*z1*z1*z1*z1*z1*z1+Y2*l*x1*z1*z1*z1*z1*z1*z1*z1*z1*z1*z2*z2*z2-Y2*l*x2*z1*z1*z1*z1*z1*z1*z1*z1*z1*z2*z2*z2+2*Y2*y1*z1*z1*z1*z1*z1*z1*z1*z1*z1*z2*z2*z2-l*l*x1*x1*z1*z1*z1*z1*z1*z1*z1*z1*z1*z2*z2*z2*z2*z2*z2+2*l*l*x1*x2*z1*z1*z1*z1*z1*z1*z1*z1*z1*z2*z2*z2*z2*z2*z2-l*l*x2*x2*z1*z1*z1*z1*z1*z1*z1*z1*z1*z2*z2*z2*z2*z2*z2-y1*l*x1*z1*z1*z1*z1*z1*z1*z1*z1*z1*z2*z2*z2*z2*z2*z2+2*x1*x1*x1*z1*z1*z1*z1*z1*z1*z1*z1*z1*z2*z2*z2*z2*z2*z2+y1*l*x2*z1*z1*z1*z1*z1*z1*z1*z1*z1*z2*z2*z2*z2*z2*z2-3*x1*x1*x2*z1*z1*z1*z1*z1*z1*z1*z1*z1*z2*z2*z2*z2*z2*z2+x2*x2*x2*z1*z1*z1*z1*z1*z1*z1*z1*z1*z2*z2*z2*z2*z2*z2-y1*y1*z1*z1*z1*z1*z1*z1*z1*z1*z1*z2*z2*z2*z2*z2*z2) h29 (dz p))))))))))))))))))))))))))))))) (by clear h0 h1 h2 h3 h4 h5 h6 h7 h8 h9 h10 h11 h12 h13 h14 h15 h16 h17 h18 h19 h20 h21 h22 h23 h24 h25 h26 h27 h28 h29;grind)
theorem arq {p x3 s2 X x z i:Int} (h0:p∣x3-(X*s2)) (h1:p∣s2-(i*i)) (h2:p∣X-x*(z*z)) (h3:p∣z*i-1):p∣(x3-x):=
 dk (dc (1) h0 (dc (X) h1 (dc (i*i) h2 (dc (x*z*i+x) h3 (dz p))))) (by clear h0 h1 h2 h3;grind)
theorem arp {p y3 s3 s2 Y y z i:Int} (h0:p∣y3-(Y*s3)) (h1:p∣s3-(s2*i)) (h2:p∣s2-(i*i)) (h3:p∣Y-y*(z*z*z)) (h4:p∣z*i-1):p∣(y3-y):=
 dk (dc (1) h0 (dc (Y) h1 (dc (Y*i) h2 (dc (i*i*i) h3 (dc (y*z*z*i*i+y*z*i+y) h4 (dz p)))))) (by clear h0 h1 h2 h3 h4;grind)
theorem arc {p s x3 xx dx x y iv:Int} (h0:p∣s-(x3*iv)) (h1:p∣x3-(3*xx)) (h2:p∣xx-(x*x)) (h3:p∣dx-(y+y)) (h4:p∣dx*iv-1):p∣(s*(y+y)-(x*x+x*x+x*x)):=
 dk (dc (2*y) h0 (dc (2*y*iv) h1 (dc (6*y*iv) h2 (dc (-3*x*x*iv) h3 (dc (3*x*x) h4 (dz p)))))) (by clear h0 h1 h2 h3 h4;grind)
theorem arE {p s dy dx x1 x2 y1 y2 iv:Int} (h0:p∣s-(dy*iv)) (h1:p∣dy-(y2-y1)) (h2:p∣dx-(x2-x1)) (h3:p∣dx*iv-1):p∣(s*(x1-x2)-(y1-y2)):=
 dk (dc (x1-x2) h0 (dc (x1*iv-x2*iv) h1 (dc (-y1*iv+y2*iv) h2 (dc (y1-y2) h3 (dz p))))) (by clear h0 h1 h2 h3;grind)
theorem ara {p y3 e d x y1 x1 t:Int} (h0:p∣y3-(e-y1)) (h1:p∣e-(t*d)) (h2:p∣d-(x1-x)):p∣(y3-(t*(x1-x)-y1)):=
 dk (dc (1) h0 (dc (1) h1 (dc (t) h2 (dz p)))) (by clear h0 h1 h2;grind)
theorem arb {p x d a x1 x2 t:Int} (h0:p∣x-(d-x2)) (h1:p∣d-(a-x1)) (h2:p∣a-(t*t)):p∣(x-(t*t-x1-x2)):=
 dk (dc (1) h0 (dc (1) h1 (dc (1) h2 (dz p)))) (by clear h0 h1 h2;grind)
theorem arC {p z xxx xx y x b:Int} (h0:p∣z-(y*y)) (h1:p∣z-(xxx+b)) (h2:p∣xxx-(xx*x)) (h3:p∣xx-(x*x)):p∣(y*y-x*x*x-b):=
 dk (dc (-1) h0 (dc (1) h1 (dc (1) h2 (dc (x) h3 (dz p))))) (by clear h0 h1 h2 h3;grind)
theorem arB {p u z xxx xx y x b:Int} (h0:p∣u-(y*y)) (h1:p∣z-(xxx+b)) (h2:p∣xxx-(xx*x)) (h3:p∣xx-(x*x)) (h4:p∣y*y-x*x*x-b):p∣(u-z):=
 dk (dc (1) h0 (dc (-1) h1 (dc (-1) h2 (dc (-x) h3 (dc (1) h4 (dz p)))))) (by clear h0 h1 h2 h3 h4;grind)
end Go.Proofs.YtohjofabochgfaaGreat

namespace Go.Proofs.YtohjofabochgfaaGreat
open Sx Go
abbrev Sm (p:Nat):Prop:=0<p/\p<57896044618658097711785492504343953926634992332820282019728792003956564819968
theorem aqz {p a b:Int} (h2:p∣a) (h1:p∣a-b):p∣b:=by
 obtain ⟨k,hk⟩:=h1
 obtain ⟨m,hm⟩:=h2
 exact ⟨m-k,by rw [Int.mul_sub];omega⟩
theorem ak4 {p:Nat} (n:Nat):(p:Int)∣((n%p:Nat):Int)-(n:Int):=by
 have:=Nat.div_add_mod n p
 refine ⟨-((n/p:Nat):Int),?_⟩
 have h:((p*(n/p)+n%p:Nat):Int)=(n:Int):=by rw [this]
 rw [Int.natCast_add,Int.natCast_mul] at h
 rw [Int.mul_neg]
 omega
variable {p:Nat}
theorem bV (hp:Sm p) (a b:aa):(p:Int)∣((aN p a b).nat:Int)-((a.nat:Int)*(b.nat:Int)):=by
 have e:(aN p a b).nat=a.nat*b.nat%p:=cv hp
 rw [e]
 have:=ak4 (p:=p) (a.nat*b.nat)
 rwa [Int.natCast_mul] at this
theorem Xb (hp:Sm p) (a b:aa):(p:Int)∣((im p a b).nat:Int)-((a.nat:Int)+(b.nat:Int)):=by
 have e:(im p a b).nat=(a.nat+b.nat)%p:=cv hp
 rw [e]
 have:=ak4 (p:=p) (a.nat+b.nat)
 rwa [Int.natCast_add] at this
theorem apY (hp:Sm p) (a:aa):(p:Int)∣((EZ p a).nat:Int)- -(a.nat:Int):=by
 have e:(EZ p a).nat=(p-a.nat%p)%p:=cv hp
 rw [e]
 obtain ⟨k,hk⟩:=ak4 (p:=p) (p-a.nat%p)
 obtain ⟨m,hm⟩:=ak4 (p:=p) a.nat
 have hlt:=Nat.mod_lt a.nat hp.1
 have e2:((p-a.nat%p:Nat):Int)=(p:Int)-((a.nat%p:Nat):Int):=by omega
 rw [e2] at hk
 generalize (((p-a.nat%p)%p:Nat):Int)=u at*
 generalize ((a.nat%p:Nat):Int)=v at*
 exact ⟨k+1-m,by grind⟩
theorem jr (hp:Sm p) (a b:aa):(p:Int)∣((eW p a b).nat:Int)-((a.nat:Int)-(b.nat:Int)):=by
 obtain ⟨k,hk⟩:=Xb hp a (EZ p b)
 obtain ⟨m,hm⟩:=apY hp b
 unfold eW
 generalize ((im p a (EZ p b)).nat:Int)=u at*
 exact ⟨k+m,by grind⟩
theorem BZ (hp:Sm p) (a b:aa):(aN p a b).nat<p:=by
 rw [show (aN p a b).nat=a.nat*b.nat%p from cv hp]
 exact Nat.mod_lt _ hp.1
theorem aga (hp:Sm p) (a b:aa):(im p a b).nat<p:=by
 rw [show (im p a b).nat=(a.nat+b.nat)%p from cv hp]
 exact Nat.mod_lt _ hp.1
theorem HL (hp:Sm p) (a b:aa):(eW p a b).nat<p:=aga hp _ _
theorem aeh (hp:Sm p) (pr:Pr p) {z:aa} (hz:¬(p:Int)∣(z.nat:Int)):(p:Int)∣(z.nat:Int)*((td p z).nat:Int)-1:=by
 have h2:=pr.1
 have hz':¬p∣z.nat:=λh=>hz (Int.natCast_dvd_natCast.2 h)
 have e:Nat.beq (z.nat%p) 0=false:=by
  cases h:Nat.beq (z.nat%p) 0
  ·rfl
  ·exact absurd (Nat.dvd_of_mod_eq_zero (Nat.eq_of_beq_eq_true h)) hz'
 have e2:(td p z).nat=z.nat^(p-2)%p:=by
  unfold td agn
  rw [e]
  simp only [cond_false]
  have hb:p-2<2^256:=by have:=hp.2;omega
  rw [Im 256 1 _ _ hb (by omega),Nat.one_mul,<-Nat.pow_mod]
  exact cv hp
 rw [e2]
 have hf:=Wx pr hz'
 have e3:z.nat^(p-1)=z.nat*z.nat^(p-2):=by
  rw [show p-1=(p-2)+1 by omega,Nat.pow_succ,Nat.mul_comm]
 rw [e3] at hf
 obtain ⟨k,hk⟩:=ak4 (p:=p) (z.nat^(p-2))
 obtain ⟨m,hm⟩:=ak4 (p:=p) (z.nat*z.nat^(p-2))
 rw [hf] at hm
 rw [Int.natCast_mul] at hm
 generalize ((z.nat^(p-2)%p:Nat):Int)=u at*
 generalize ((z.nat^(p-2):Nat):Int)=v at*
 have hm:(1:Int)-(z.nat:Int)*v=(p:Int)*m:=hm
 exact ⟨(z.nat:Int)*k-m,by grind⟩
def toQ (P:Pt):PtQ:=cond P.2.2 none (some (P.1.nat,P.2.1.nat))
theorem ad7 (hp:Sm p) (X Y X2 s:aa):Thd p X.nat Y.nat X2.nat s.nat (xu p X Y X2 s).1.nat (xu p X Y X2 s).2.1.nat:=by
 unfold xu
 dsimp only
 have h1:=bV hp s s
 have h2:=jr hp (aN p s s) X
 have h3:=jr hp (eW p (aN p s s) X) X2
 generalize eW p (eW p (aN p s s) X) X2=x3 at*
 have h4:=jr hp X x3
 have h5:=bV hp s (eW p X x3)
 have h6:=jr hp (aN p s (eW p X x3)) Y
 exact ⟨arb h3 h2 h1,ara h6 h5 h4⟩
theorem V4 {b:Nat} (c:Cur p b) (hp:Sm p) {X Y X2 Y2 s:aa} (hP:OnQ p b (some (X.nat,Y.nat))) (hR:OnQ p b (some (X2.nat,Y2.nat))) (hl:Lin p X.nat Y.nat X2.nat Y2.nat s.nat):
 toQ (xu p X Y X2 s)=cM p (some (X.nat,Y.nat)) (some (X2.nat,Y2.nat)):=by
 have h:=ad7 hp X Y X2 s
 exact (UP c (P:=(X.nat,Y.nat)) (R:=(X2.nat,Y2.nat)) (S:=((xu p X Y X2 s).1.nat,(xu p X Y X2 s).2.1.nat)) hP hR hl (HL hp _ _) (HL hp _ _) h).symm
theorem KD:(aa.mk 3 0 0 0).nat=3:=by decide
theorem HJ {b:Nat} (c:Cur p b) (hp:Sm p) {P R:Pt} (hP:OnQ p b (toQ P)) (hR:OnQ p b (toQ R)):toQ (dQ p P R)=cM p (toQ P) (toQ R):=by
 obtain ⟨X,Y,i⟩:=P
 obtain ⟨X2,Y2,j⟩:=R
 cases i
 ·cases j
  ·have hP':OnQ p b (some (X.nat,Y.nat)):=hP
   have hR':OnQ p b (some (X2.nat,Y2.nat)):=hR
   have n1:¬(p:Int)∣(Y.nat:Int):=c.yne hP'.2.2
   show toQ (dQ p (X,Y,false) (X2,Y2,false))=cM p (some (X.nat,Y.nat)) (some (X2.nat,Y2.nat))
   rcases (Bool.eq_false_or_eq_true (eqE X X2)).symm with h|h
   ·have e:dQ p (X,Y,false) (X2,Y2,false)=xu p X Y X2 (byP p (eW p Y2 Y) (eW p X2 X)):=by unfold dQ;simp only [cond_false,h]
    rw [e]
    refine V4 c hp hP' hR' ?_
    have hx:X.nat≠X2.nat:=λe=>by rw [jP e,Jy] at h;cases h
    have hd:=jr hp X2 X
    have hn:¬(p:Int)∣((eW p X2 X).nat:Int):=λhn=>by
     obtain ⟨k,hk⟩:=hd
     obtain ⟨m,hm⟩:=hn
     exact hx (fD hP'.1 hR'.1 ⟨k-m,by grind⟩)
    have hi:=aeh hp c.pr hn
    have hm:=bV hp (eW p Y2 Y) (td p (eW p X2 X))
    have hy:=jr hp Y2 Y
    unfold byP
    generalize eW p X2 X=dx at*
    generalize td p dx=iv at*
    generalize eW p Y2 Y=dy at*
    generalize aN p dy iv=s at*
    have ha:(p:Int)∣(s.nat:Int)*((X.nat:Int)-X2.nat)-((Y.nat:Int)-Y2.nat):=arE hm hy hd hi
    refine ⟨ha,?_⟩
    have hn':¬(p:Int)∣(X.nat:Int)-X2.nat:=λhh=>hx (fD hP'.1 hR'.1 hh)
    have hc1:(p:Int)∣(Y.nat:Int)*Y.nat-X.nat*X.nat*X.nat-b:=hP'.2.2
    have hc2:(p:Int)∣(Y2.nat:Int)*Y2.nat-X2.nat*X2.nat*X2.nat-b:=hR'.2.2
    exact (c.pr.dN (afA hc1 hc2 ha)).resolve_left hn'
   ·rcases (Bool.eq_false_or_eq_true (eqE Y Y2)).symm with h2|h2
    ·have e:dQ p (X,Y,false) (X2,Y2,false)=aC:=by unfold dQ;simp only [cond_false,cond_true,h,h2]
     rw [e]
     refine (if_pos ⟨?_,λe=> ?_⟩).symm
     ·show X.nat=X2.nat
      rw [k8.1 h]
     ·rw [jP e,Jy] at h2
      cases h2
    ·have e:dQ p (X,Y,false) (X2,Y2,false)=xu p X Y X2 (byP p (aN p ⟨3,0,0,0⟩ (aN p X X)) (im p Y Y)):=by unfold dQ;simp only [cond_false,cond_true,h,h2]
     rw [e]
     refine V4 c hp hP' hR' ?_
     obtain rfl:=k8.1 h
     obtain rfl:=k8.1 h2
     have hd:=Xb hp Y Y
     have hn:¬(p:Int)∣((im p Y Y).nat:Int):=λhn=>by
      obtain ⟨k,hk⟩:=hd
      obtain ⟨m,hm⟩:=hn
      rcases c.pr.dN (a:=2) (b:=(Y.nat:Int)) ⟨m-k,by grind⟩ with h|h
      ·exact c.no2 h
      ·exact n1 h
     have hi:=aeh hp c.pr hn
     have hm:=bV hp (aN p ⟨3,0,0,0⟩ (aN p X X)) (td p (im p Y Y))
     have h3:=bV hp ⟨3,0,0,0⟩ (aN p X X)
     have h4:=bV hp X X
     rw [KD] at h3
     unfold byP
     generalize im p Y Y=dx at*
     generalize td p dx=iv at*
     generalize aN p X X=xx at*
     generalize aN p ⟨3,0,0,0⟩ xx=x3 at*
     generalize aN p x3 iv=s at*
     exact ⟨⟨0,by rw [Int.sub_self,Int.sub_self,Int.mul_zero,Int.mul_zero];rfl⟩,arc hm h3 h4 hd hi⟩
  ·show toQ (dQ p (X,Y,false) (X2,Y2,true))=_
   have e:dQ p (X,Y,false) (X2,Y2,true)=(X,Y,false):=by unfold dQ;simp only [cond_false,cond_true]
   rw [e]
   rfl
 ·have e:dQ p (X,Y,true) (X2,Y2,j)=(X2,Y2,j):=by unfold dQ;simp only [cond_true]
  rw [e]
  rfl
theorem OR:(aa.mk 2 0 0 0).nat=2:=by decide
theorem ajW:(aa.mk 4 0 0 0).nat=4:=by decide
theorem afb:(aa.mk 8 0 0 0).nat=8:=by decide
theorem Ix:(aa.mk 1 0 0 0).nat=1:=by decide
theorem lF:(aa.mk 0 0 0 0).nat=0:=by decide
def akz (p:Nat) (w:AP):PtQ->Prop
 |none=>w.2.2.nat=0
 |some P=>w.2.2.nat<p/\¬(p:Int)∣(w.2.2.nat:Int)/\(p:Int)∣(w.1.nat:Int)-(P.1:Int)*((w.2.2.nat:Int)*(w.2.2.nat:Int))/\
  (p:Int)∣(w.2.1.nat:Int)-(P.2:Int)*((w.2.2.nat:Int)*(w.2.2.nat:Int)*(w.2.2.nat:Int))
theorem Hz {e:aa} (h:e.nat=0):cr e=true:=by rw [fm,h];rfl
theorem pA {e:aa} (h:¬(p:Int)∣(e.nat:Int)):cr e=false:=by
 rw [fm]
 cases hb:Nat.beq e.nat 0
 ·rfl
 ·exact absurd ⟨0,by rw [Nat.eq_of_beq_eq_true hb];rfl⟩ h
variable {b:Nat}
theorem aff (c:Cur p b) (hp:Sm p) {w:AP} {P:PtQ} (hP:OnQ p b P) (h:akz p w P):akz p (Rq p w) (cM p P P):=by
 obtain ⟨X,Y,Z⟩:=w
 cases P with
 |none=>
  have e:Rq p (X,Y,Z)=(X,Y,Z):=by unfold Rq;rw [Hz (e:=Z) h];rfl
  rw [e]
  exact h
 |some P=>
  obtain ⟨hz,hzn,hX,hY⟩:=h
  have e:Rq p (X,Y,Z)=arA p X Y Z:=by unfold Rq;rw [pA (e:=Z) hzn];rfl
  rw [e]
  cases hs:cM p (some P) (some P) with
  |none=>
   have:cM p (some P) (some P)=some (qZ p P P (nk p P P)):=if_neg λh=>h.2 rfl
   rw [this] at hs
   cases hs
  |some S=>
   obtain ⟨hS1,hS2,l,hl,ht⟩:=kD c hP hP hs
   have hyy:=bV hp Y Y
   have ha:=bV hp X (aN p Y Y)
   have hs:=bV hp (aN p X (aN p Y Y)) ⟨4,0,0,0⟩
   have hb:=bV hp X X
   have hm:=bV hp (aN p X X) ⟨3,0,0,0⟩
   unfold arA jq
   dsimp only
   rw [ajW] at hs
   rw [KD] at hm
   generalize aN p (aN p X X) ⟨3,0,0,0⟩=m at*
   generalize aN p (aN p X (aN p Y Y)) ⟨4,0,0,0⟩=s at*
   have hmm:=bV hp m m
   have hs2:=bV hp s ⟨2,0,0,0⟩
   rw [OR] at hs2
   have hx3:=jr hp (aN p m m) (aN p s ⟨2,0,0,0⟩)
   generalize eW p (aN p m m) (aN p s ⟨2,0,0,0⟩)=x3 at*
   have hd:=jr hp s x3
   have hmd:=bV hp m (eW p s x3)
   have hy4:=bV hp (aN p Y Y) (aN p Y Y)
   have hy8:=bV hp (aN p (aN p Y Y) (aN p Y Y)) ⟨8,0,0,0⟩
   rw [afb] at hy8
   have hy3:=jr hp (aN p m (eW p s x3)) (aN p (aN p (aN p Y Y) (aN p Y Y)) ⟨8,0,0,0⟩)
   have hyz:=bV hp Y Z
   have hz3:=bV hp (aN p Y Z) ⟨2,0,0,0⟩
   rw [OR] at hz3
   have hzz:=arx hz3 hyz hY
   refine ⟨BZ hp _ _,λhn=> ?_,arz ht.x hl.b hz3 hyz hx3 hs2 hmm hm hb hs ha hyy hX hY,ary ht.y ht.x hl.b hz3 hyz hy3 hy8 hy4 hmd hd hx3 hs2 hmm hm hb hs ha hyy hX hY⟩
   have h2:(p:Int)∣2*((P.2:Int)*((Z.nat:Int)*((Z.nat:Int)*((Z.nat:Int)*Z.nat)))):=aqz hn hzz
   rcases c.pr.dN h2 with h|h
   ·exact c.no2 h
   ·rcases c.pr.dN h with h|h
    ·exact c.yne hP.2.2 h
    ·rcases c.pr.dN h with h|h
     ·exact hzn h
     ·rcases c.pr.dN h with h|h
      ·exact hzn h
      ·rcases c.pr.dN h with h|h<;>exact hzn h
end Go.Proofs.YtohjofabochgfaaGreat

namespace Go.Proofs.YtohjofabochgfaaGreat
open Sx Go
theorem af9 {p b:Nat} (c:Cur p b) (hp:Sm p) {w v:AP} {P R:PtQ} (hP:OnQ p b P) (hR:OnQ p b R) (h:akz p w P) (k:akz p v R):akz p (N9 p w v) (cM p P R):=by
 obtain ⟨X1,Y1,Z1⟩:=w
 obtain ⟨X2,Y2,Z2⟩:=v
 cases P with
 |none=>
  have e:N9 p (X1,Y1,Z1) (X2,Y2,Z2)=(X2,Y2,Z2):=by unfold N9;rw [Hz (e:=Z1) h];rfl
  rw [e]
  exact k
 |some P=>
 cases R with
 |none=>
  have e:N9 p (X1,Y1,Z1) (X2,Y2,Z2)=(X1,Y1,Z1):=by unfold N9;rw [pA (e:=Z1) h.2.1,Hz (e:=Z2) k];rfl
  rw [e]
  exact h
 |some R=>
  have hw:=h
  obtain ⟨hz,hzn,hX,hY⟩:=h
  obtain ⟨kz,kzn,kX,kY⟩:=k
  have e:N9 p (X1,Y1,Z1) (X2,Y2,Z2)=aq9 p (X1,Y1,Z1) (X2,Y2,Z2):=by unfold N9;rw [pA (e:=Z1) hzn,pA (e:=Z2) kzn];rfl
  rw [e]
  unfold aq9
  dsimp only at*
  have hpz:=bV hp Z1 Z1
  have hqz:=bV hp Z2 Z2
  have hu:=bV hp X1 (aN p Z2 Z2)
  have hq3:=bV hp (aN p Z2 Z2) Z2
  have hs:=bV hp Y1 (aN p (aN p Z2 Z2) Z2)
  have hv:=bV hp X2 (aN p Z1 Z1)
  have hp3:=bV hp (aN p Z1 Z1) Z1
  have ht:=bV hp Y2 (aN p (aN p Z1 Z1) Z1)
  generalize aN p X1 (aN p Z2 Z2)=u at*
  generalize aN p Y1 (aN p (aN p Z2 Z2) Z2)=s at*
  generalize aN p X2 (aN p Z1 Z1)=v at*
  generalize aN p Y2 (aN p (aN p Z1 Z1) Z1)=t at*
  have hh:=jr hp v u
  have hr:=jr hp t s
  have lh:=HL hp v u
  have lr:=HL hp t s
  generalize eW p v u=H at*
  generalize eW p t s=r at*
  have ah:=arL hh hv hu hqz hpz hX kX
  have ar:=arK hr ht hp3 hs hq3 hqz hpz hY kY
  have out:∀ {a z:Int},¬(p:Int)∣z->(p:Int)∣a*z->(p:Int)∣a:=λhz h=>(c.pr.dN h).resolve_right hz
  have mul:∀ {a z:Int},¬(p:Int)∣a->¬(p:Int)∣z->¬(p:Int)∣a*z:=λha hz h=>(c.pr.dN h).elim ha hz
  have n4:=mul (mul hzn hzn) (mul kzn kzn)
  have n6:=mul (mul (mul hzn hzn) hzn) (mul (mul kzn kzn) kzn)
  unfold arM
  rcases (Bool.eq_false_or_eq_true (cr H)).symm with h1|h1
  ·rw [h1]
   simp only [cond_false]
   have hHn:¬(p:Int)∣(H.nat:Int):=λhd=>by
    rw [fm] at h1
    have:=Nat.eq_zero_of_dvd_of_lt (Int.natCast_dvd_natCast.1 hd) lh
    rw [this] at h1
    cases h1
   have hxn:P.1≠R.1:=λhx=>hHn (by
    rw [hx,Int.sub_self,Int.zero_mul,Int.sub_zero] at ah
    exact ah)
   cases hS:cM p (some P) (some R) with
   |none=>
    have:cM p (some P) (some R)=some (qZ p P R (nk p P R)):=if_neg λh=>hxn h.1
    rw [this] at hS
    cases hS
   |some S=>
    obtain ⟨hS1,hS2,l,hl,hT⟩:=kD c hP hR hS
    unfold arZ jq
    dsimp only
    have hhh:=bV hp H H
    have hhhh:=bV hp (aN p H H) H
    have hcc:=bV hp u (aN p H H)
    have hrr:=bV hp r r
    have hrh:=jr hp (aN p r r) (aN p (aN p H H) H)
    have hc2:=bV hp (aN p u (aN p H H)) ⟨2,0,0,0⟩
    rw [OR] at hc2
    have hx3:=jr hp (eW p (aN p r r) (aN p (aN p H H) H)) (aN p (aN p u (aN p H H)) ⟨2,0,0,0⟩)
    generalize eW p (eW p (aN p r r) (aN p (aN p H H) H)) (aN p (aN p u (aN p H H)) ⟨2,0,0,0⟩)=x3 at*
    have hd:=jr hp (aN p u (aN p H H)) x3
    have hrd:=bV hp r (eW p (aN p u (aN p H H)) x3)
    have hsh:=bV hp s (aN p (aN p H H) H)
    have hy3:=jr hp (aN p r (eW p (aN p u (aN p H H)) x3)) (aN p s (aN p (aN p H H) H))
    have hzz:=bV hp Z1 Z2
    have hz3:=bV hp H (aN p Z1 Z2)
    refine ⟨BZ hp _ _,λhn=> ?_,arJ hT.x hl.a hz3 hzz hx3 hc2 hrh hrr hcc hhhh hhh hr ht hp3 hh hv hs hq3 hu hqz hpz hX hY kX kY,
     arI hT.y hT.x hl.a hz3 hzz hy3 hsh hrd hd hx3 hc2 hrh hrr hcc hhhh hhh hr ht hp3 hh hv hs hq3 hu hqz hpz hX hY kX kY⟩
    have h2:=aqz hn hz3
    rcases c.pr.dN h2 with h|h
    ·exact hHn h
    ·have h3:=aqz h hzz
     exact mul hzn kzn h3
  ·rw [h1]
   simp only [cond_true]
   have hH:H.nat=0:=by rw [fm] at h1;exact Nat.eq_of_beq_eq_true h1
   have hx:P.1=R.1:=by
    rw [hH] at ah
    have:(p:Int)∣((R.1:Int)-P.1)*((Z1.nat:Int)*Z1.nat*(Z2.nat*Z2.nat)):=aqz (Int.dvd_zero _) ah
    exact (fD hR.1 hP.1 (out n4 this)).symm
   rcases (Bool.eq_false_or_eq_true (cr r)).symm with h2|h2
   ·rw [h2]
    simp only [cond_false]
    have hy:P.2≠R.2:=λhy=>by
     rw [hy,Int.sub_self,Int.zero_mul,Int.sub_zero] at ar
     rw [fm] at h2
     have:=Nat.eq_zero_of_dvd_of_lt (Int.natCast_dvd_natCast.1 ar) lr
     rw [this] at h2
     cases h2
    have:cM p (some P) (some R)=none:=if_pos ⟨hx,hy⟩
    rw [this]
    exact lF
   ·rw [h2]
    simp only [cond_true]
    have hr0:r.nat=0:=by rw [fm] at h2;exact Nat.eq_of_beq_eq_true h2
    have hy:P.2=R.2:=by
     rw [hr0] at ar
     have:(p:Int)∣((R.2:Int)-P.2)*((Z1.nat:Int)*Z1.nat*Z1.nat*(Z2.nat*Z2.nat*Z2.nat)):=aqz (Int.dvd_zero _) ar
     exact (fD hR.2.1 hP.2.1 (out n6 this)).symm
    have:R=P:=by
     obtain ⟨P1,P2⟩:=P
     obtain ⟨R1,R2⟩:=R
     dsimp only at hx hy
     rw [hx,hy]
    rw [this]
    exact aff c hp hP hw
def Can (P:Pt):Prop:=P.2.2=true->P=aC
theorem WX {P R:Pt} (hP:Can P) (hR:Can R) (h:toQ P=toQ R):P=R:=by
 obtain ⟨X,Y,i⟩:=P
 obtain ⟨X2,Y2,j⟩:=R
 cases i<;>cases j
 ·have h:some (X.nat,Y.nat)=some (X2.nat,Y2.nat):=h
  simp only [Option.some.injEq,Prod.mk.injEq] at h
  rw [jP h.1,jP h.2]
 ·cases h
 ·cases h
 ·rw [hP rfl,hR rfl]
theorem Gi {p b:Nat} (c:Cur p b) (hp:Sm p) {w:AP} {P:PtQ} (hP:OnQ p b P) (h:akz p w P):toQ (eQ p w)=P/\Can (eQ p w):=by
 obtain ⟨X,Y,Z⟩:=w
 cases P with
 |none=>
  have e:eQ p (X,Y,Z)=aC:=by unfold eQ;rw [Hz (e:=Z) h];rfl
  rw [e]
  exact ⟨rfl,λ_=>rfl⟩
 |some P=>
  obtain ⟨hz,hzn,hX,hY⟩:=h
  have e:eQ p (X,Y,Z)=Qs p X Y (td p Z):=by unfold eQ;rw [pA (e:=Z) hzn];rfl
  rw [e]
  refine ⟨?_,λh=>by cases h⟩
  have hi:=aeh hp c.pr hzn
  unfold Qs
  have h2:=bV hp (td p Z) (td p Z)
  have h3:=bV hp (aN p (td p Z) (td p Z)) (td p Z)
  have hx:=bV hp X (aN p (td p Z) (td p Z))
  have hy:=bV hp Y (aN p (aN p (td p Z) (td p Z)) (td p Z))
  have ex:=fD (BZ hp _ _) hP.1 (arq hx h2 hX hi)
  have ey:=fD (BZ hp _ _) hP.2.1 (arp hy h3 h2 hY hi)
  show some ((aN p X (aN p (td p Z) (td p Z))).nat,(aN p Y (aN p (aN p (td p Z) (td p Z)) (td p Z))).nat)=some P
  rw [ex,ey]
theorem AV {p b:Nat} (c:Cur p b) {P:Pt}:akz p (eH P) (toQ P):=by
 obtain ⟨X,Y,i⟩:=P
 cases i
 ·have h1:=c.big
  refine ⟨?_,λh=> ?_,?_,?_⟩
  ·show (aa.mk 1 0 0 0).nat<p
   rw [Ix]
   omega
  ·have h:(p:Int)∣(((aa.mk 1 0 0 0).nat:Nat):Int):=h
   rw [Ix] at h
   have:=Int.le_of_dvd (by decide) h
   omega
  ·show (p:Int)∣(X.nat:Int)-(X.nat:Int)*((((aa.mk 1 0 0 0).nat:Nat):Int)*(((aa.mk 1 0 0 0).nat:Nat):Int))
   rw [Ix]
   exact ⟨0,by simp⟩
  ·show (p:Int)∣(Y.nat:Int)-(Y.nat:Int)*((((aa.mk 1 0 0 0).nat:Nat):Int)*(((aa.mk 1 0 0 0).nat:Nat):Int)*(((aa.mk 1 0 0 0).nat:Nat):Int))
   rw [Ix]
   exact ⟨0,by simp⟩
 ·exact lF
theorem WY {p:Nat} (X Y X2 s:aa):Can (xu p X Y X2 s):=λh=>by cases h
theorem afF {p:Nat} {P R:Pt} (hP:Can P) (hR:Can R):Can (dQ p P R):=by
 obtain ⟨X,Y,i⟩:=P
 obtain ⟨X2,Y2,j⟩:=R
 unfold dQ
 cases i
 ·cases j
  ·simp only [cond_false]
   cases eqE X X2
   ·exact WY _ _ _ _
   ·cases eqE Y Y2
    ·exact λ_=>rfl
    ·exact WY _ _ _ _
  ·exact hP
 ·exact hR
theorem aoW (k:aa) {n:Nat} (h:n<256):ny k (255-(n:Int))=Aj k.nat (255-n):=by
 unfold ny
 rw [decide_eq_true (show (0:Int)<=255-(n:Int) by omega),decide_eq_true (show (255:Int)-(n:Int)<256 by omega),show ((255:Int)-(n:Int)).toNat=255-n by omega]
 rfl
theorem Az {p b:Nat} (c:Cur p b) (hp:Sm p) (k:aa) {P:Pt} (hP:OnQ p b (toQ P)) (hc:Can P):∀ n,n<=256->
 akz p (upto (gY p k (eH P)) aaB n) (toQ (upto (cn p k.nat P) aC n))/\OnQ p b (toQ (upto (cn p k.nat P) aC n))/\Can (upto (cn p k.nat P) aC n)
 |0,_=>⟨lF,trivial,λ_=>rfl⟩
 |n+1,h=>by
  obtain ⟨h1,h2,h3⟩:=Az c hp k hP hc n (by omega)
  show akz p (gY p k (eH P) n (upto (gY p k (eH P)) aaB n)) (toQ (cn p k.nat P n (upto (cn p k.nat P) aC n)))/\OnQ p b (toQ (cn p k.nat P n (upto (cn p k.nat P) aC n)))/\Can (cn p k.nat P n (upto (cn p k.nat P) aC n))
  generalize upto (gY p k (eH P)) aaB n=w at*
  generalize upto (cn p k.nat P) aC n=Q at*
  have d1:=aff c hp h2 h1
  have d2:=HJ c hp h2 h2
  have d3:=gu c h2 h2
  rw [<-d2] at d1 d3
  have d4:=afF (p:=p) h3 h3
  unfold gY cn
  rw [aoW k (by omega)]
  cases Aj k.nat (255-n)
  ·exact ⟨d1,d3,d4⟩
  ·simp only [cond_true]
   have e2:=HJ c hp d3 hP
   refine ⟨?_,?_,afF d4 hc⟩
   ·rw [e2]
    exact af9 c hp d3 hP d1 (AV c)
   ·rw [e2]
    exact gu c d3 hP
theorem IA {p b m:Nat} (pr:Pr p) (h3:p=3*m+1) (hb0:0<b) (hb:b<p) (hm:Nat.blt m (2^256)=true) (hk:Nat.beq (pwm p (p-b) m) 1=false) (x:Int):¬(p:Int)∣x*x*x+b:=λhd=>by
 have h2:=pr.1
 rw [adg h2 hm] at hk
 obtain ⟨k,hk1⟩:=hd
 obtain ⟨j,hj⟩:=np pr.pos x
 have hn:p∣nm p x*nm p x*nm p x+b:=Int.natCast_dvd_natCast.1 (by
  rw [Int.natCast_add,Int.natCast_mul,Int.natCast_mul]
  generalize ((nm p x:Nat):Int)=n at*
  exact ⟨k+j*(n*n+n*x+x*x),by grind⟩)
 generalize nm p x=n at*
 have hpn:¬p∣n:=λhd=>by
  have h1:p∣n*n*n:=Nat.dvd_trans hd (Nat.dvd_mul_left ..)
  have:=(Nat.dvd_add_right h1).1 hn
  have:=Nat.le_of_dvd hb0 this
  omega
 have hf:=Wx pr hpn
 have e:n^3%p=(p-b)%p:=by
  obtain ⟨c,hc⟩:=hn
  have hc0:c≠0:=λe=>by rw [e] at hc;omega
  obtain ⟨d,rfl⟩:∃ d,c=d+1:=⟨c-1,by omega⟩
  have:n^3=(p-b)+p*d:=by
   rw [show n^3=n*n*n by rw [Nat.pow_succ,Nat.pow_succ,Nat.pow_one]]
   rw [Nat.mul_succ] at hc
   omega
  rw [this,Nat.add_mul_mod_self_left]
 have:(p-b)^m%p=1:=by
  rw [Nat.pow_mod,<-e,<-Nat.pow_mod,<-Nat.pow_mul,show 3*m=p-1 by omega]
  exact hf
 rw [this] at hk
 cases hk
theorem ba {s:Int} (h:ak s=true):Cur (pS s) (bS s).nat:=by
 rcases cu h with rfl|rfl|rfl|rfl
 ·have e:pS 0=16513537:=by decide+kernel
  have e2:(bS 0).nat=23:=by decide+kernel
  rw [e,e2]
  exact ⟨rV,by decide,IA (m:=5504512) rV (by decide) (by decide) (by decide) (by decide+kernel) (by decide+kernel)⟩
 ·have e:pS 1=16521217:=by decide+kernel
  have e2:(bS 1).nat=21:=by decide+kernel
  rw [e,e2]
  exact ⟨rU,by decide,IA (m:=5507072) rU (by decide) (by decide) (by decide) (by decide+kernel) (by decide+kernel)⟩
 ·have e:pS 2=28948022309329048855892746252171976963363056481941560715954676764349967630337:=by decide+kernel
  have e2:(bS 2).nat=5:=by decide+kernel
  rw [e,e2]
  exact ⟨aG,by decide,IA (m:=9649340769776349618630915417390658987787685493980520238651558921449989210112) aG (by decide) (by decide) (by decide) (by decide+kernel) (by decide+kernel)⟩
 ·have e:pS 3=28948022309329048855892746252171976963363056481941647379679742748393362948097:=by decide+kernel
  have e2:(bS 3).nat=5:=by decide+kernel
  rw [e,e2]
  exact ⟨aF,by decide,IA (m:=9649340769776349618630915417390658987787685493980549126559914249464454316032) aF (by decide) (by decide) (by decide) (by decide+kernel) (by decide+kernel)⟩
theorem dZ {s:Int} {P:Pt} (h:onB s P=true):ak s=true/\OnQ (pS s) (bS s).nat (toQ P)/\Can P:=by
 have hs:=qe h
 have hp:Sm (pS s):=fh hs
 obtain ⟨X,Y,i⟩:=P
 refine ⟨hs,?_⟩
 unfold onB at h
 rw [hs] at h
 simp only [cond_true] at h
 cases i
 ·simp only [cond_false] at h
  refine ⟨?_,λh=>by cases h⟩
  rcases (Bool.eq_false_or_eq_true (Nat.blt X.nat (pS s))).symm with h1|h1
  ·rw [h1] at h;cases h
  ·rcases (Bool.eq_false_or_eq_true (Nat.blt Y.nat (pS s))).symm with h2|h2
   ·rw [h1,h2] at h;cases h
   ·rw [h1,h2] at h
    simp only [cond_true] at h
    have e:=k8.1 h
    have hx:X.nat<pS s:=cJ h1
    have hy:Y.nat<pS s:=cJ h2
    refine ⟨hx,hy,?_⟩
    have e1:=bV hp Y Y
    have e2:=bV hp X X
    have e3:=bV hp (aN (pS s) X X) X
    have e4:=Xb hp (aN (pS s) (aN (pS s) X X) X) (bS s)
    rw [e] at e1
    unfold Ad at e1
    show ((pS s:Nat):Int)∣(Y.nat:Int)*Y.nat-X.nat*X.nat*X.nat-(bS s).nat
    exact arC e1 e4 e3 e2
 ·simp only [cond_true,Bool.and_eq_true] at h
  refine ⟨trivial,λ_=> ?_⟩
  have z:∀ {e:aa},cr e=true->e=⟨0,0,0,0⟩:=λ{e} h=>jP (by rw [fm] at h;rw [Nat.eq_of_beq_eq_true h];exact lF.symm)
  rw [z h.1,z h.2.1]
  rfl
theorem KS {s:Int} (h:ak s=true) (k:aa):(zY s k).nat=(ofP (pS (fQ s 1)) k).nat:=by
 have hp:=fh (eY h)
 unfold zY
 rw [show (im (pS (fQ s 1)) k ⟨0,0,0,0⟩).nat=(k.nat+(aa.mk 0 0 0 0).nat)%pS (fQ s 1) from cv hp,lF,Nat.add_zero]
 exact (cv hp).symm
theorem ajq (s:Int) (k:aa) (P:Pt):nA s k P=uj s k P:=by
 unfold nA uj
 rcases (Bool.eq_false_or_eq_true (onB s P)).symm with h|h
 ·rw [h]
  rfl
 ·rw [h]
  simp only [cond_true]
  obtain ⟨hs,hP,hc⟩:=dZ h
  have c:=ba hs
  have hp:Sm (pS s):=fh hs
  obtain ⟨h1,h2,h3⟩:=Az c hp (zY s k) hP hc 256 (Nat.le_refl _)
  obtain ⟨n1,n2⟩:=Gi c hp h2 h1
  rw [<-KS hs]
  exact WX n2 h3 n1
end Go.Proofs.YtohjofabochgfaaGreat

namespace Go.Proofs.YtohjofabochgfaaGreat
open Sx Go
abbrev gQ:Pt:=(⟨0,0,0,0⟩,⟨0,0,0,0⟩,false)
end Go.Proofs.YtohjofabochgfaaGreat

namespace Go.Proofs.YtohjofabochgfaaGreat
open Sx Go
set_option maxRecDepth 100000
def nu:aq:=⟨[.val false .int],[],true,0,false⟩
def IW:ax:=⟨[.nq,.val false .int],[],false⟩
def QC:ax:=⟨[.ptr 0 0 0,.val false .int],[(0,.cells [.val false .int,.own 1]),(1,.row zV)],false⟩
abbrev YE:Type:=((Int)×Unit)×(Unit)
def Mt:List ax:= [IW,QC]
def VV (a0:Int):OT nu.Y:=
 (.br (decide (a0<(0:Int)))
 (.ok ⟨IW,(((),((40:Int),())),())⟩)
 (.br (decide ((3:Int)<a0))
  (.ok ⟨IW,(((),((40:Int),())),())⟩)
  (.ok ⟨QC,(((),((0:Int),())),((a0,((),())),([],())))⟩)))
theorem ap7 (x:YE) (Q:nu.Y->Prop):wpf te ve az 1000 Tryz.f114 (nu.inp.inj x).tm (nu.inp.inj x).hp (apd nu Mt Q) (λ_ _=>False)=(VV (x.1.1)).wpR Q:=by kernel_rfl
theorem adY (pre:YE->Bool) (F:YE->OT nu.Y) (hF:∀ (x:YE) oy,pre x=true->(F x).run=some oy->(VV (x.1.1)).run=some oy):ac Tryz.prog 114 (nu.aI pre F):=
 ajZ au sM Od (f:=114) (fn:=Tryz.f114) (c:=ao Tryz.f114) (by kernel_rfl) (by kernel_rfl) (by kernel_rfl) (S:=nu) (k:=0) (by kernel_rfl) (λR hR=>ag) (n:=1000) (outs:=Mt) (by kernel_rfl) (pre:=pre) (F:=F) (T:=λx=>VV (x.1.1)) (λx Q=>ap7 x Q) hF
def VU (_:YE):Bool:=true
def ak3 (x:YE):OT nu.Y:=.br (ak x.1.1) (.ok ⟨QC,(((),((0:Int),())),((x.1.1,((),())),([],())))⟩) (.ok ⟨IW,(((),((40:Int),())),())⟩)
theorem an1:ac Tryz.prog 114 (nu.aI VU ak3):=adY _ _ λx oy _ ho=>by
 rw [<-ho]
 clear ho
 obtain ⟨⟨s,⟨⟩⟩,⟨⟩⟩:=x
 show (VV s).run=(OT.br (ak s) _ _:OT nu.Y).run
 by_cases h0:s<0
 ·refine (OT.ap (decide_eq_true h0)).trans (OT.ay (b:=ak s) ?_).symm
  simp only [ak,decide_eq_false (show ¬(0:Int)<=s by omega),Bool.false_and]
 ·refine (OT.ay (decide_eq_false h0)).trans ?_
  by_cases h3:3<s
  ·refine (OT.ap (decide_eq_true h3)).trans (OT.ay (b:=ak s) ?_).symm
   simp only [ak,decide_eq_false (show ¬s<4 by omega),Bool.and_false]
  ·refine (OT.ay (decide_eq_false h3)).trans (OT.ap (b:=ak s) ?_).symm
   simp only [ak,decide_eq_true (show (0:Int)<=s by omega),decide_eq_true (show s<4 by omega),Bool.and_self]
def B9:cN:=(nu.aI VU ak3)
theorem YD:ac Tryz.prog 114 B9:=an1
theorem YC:aK B9:=aB
def On:Env:=aA 114 B9 ve
theorem Ef:aW Tryz.prog On:=ai YD sM
theorem Eg:aw On:=ae YC vd
theorem aae:bc Tryz.prog te On:=aO follows au Ef Eg
def arV (w:Sh):CSh:=.cells [.val false .int,w]
def nv:aq:=⟨[.ptr 0 0 0,.val true .elem,.val true (.prod .elem (.prod .elem .bool))],[(0,arV (.own 1)),(1,.row zV)],false,1,true⟩
abbrev YO:Type:=((Unit)×(aa)×((aa×(aa×Bool)))×Unit)×(((Int)×(Unit)×Unit)×(List ((aa×(aa×(aa×Bool)))))×Unit)
def ox:ax:=⟨[.val false .int],[(0,.cells [.val false .int,.own 1]),(1,.row (.prod .elem (.prod .elem (.prod .elem .bool))))],false⟩
def VZ:SV->Option ax:=λ_=>some ox
def V1 (a1:aa) (a2:(aa×(aa×Bool))) (c0_0:Int) (c1:List ((aa×(aa×(aa×Bool))))):OT nv.Y:=
 let z0:Int:=fQ c0_0 (1:Int)
 let z1:aa:= {w0:=0,w1:=0,w2:=0,w3:=0}
 (.br (!onB c0_0 a2)
 (.ok ⟨ox,(((41:Int),()),((c0_0,((),())),(c1,())))⟩)
 (.br (decide ((100000:Int)<=(↑(List.length c1):Int)))
  (.ok ⟨ox,(((50:Int),()),((c0_0,((),())),(c1,())))⟩)
  (.br (ak z0)
   (gd [decide ((List.length c1+1)*104<=140737488355328)] (.ok ⟨ox,(((0:Int),()),((c0_0,((),())),(c1++ [(im (pS z0) a1 z1,a2)],())))⟩))
   (gd [decide ((List.length c1+1)*104<=140737488355328)] (.ok ⟨ox,(((0:Int),()),((c0_0,((),())),(c1++ [(z1,a2)],())))⟩)))))
theorem ap8 (x:YO) (Q:nv.Y->Prop):wpf te On az 1000 Tryz.f115 (nv.inp.inj x).tm (nv.inp.inj x).hp (fnK nv VZ Q) (λ_ _=>False)=(V1 (x.1.2.1) (x.1.2.2.1) (x.2.1.1) (x.2.2.1)).wpR Q:=by kernel_rfl
theorem ad4 (pre:YO->Bool) (F:YO->OT nv.Y) (hF:∀ (x:YO) oy,pre x=true->(F x).run=some oy->(V1 (x.1.2.1) (x.1.2.2.1) (x.2.1.1) (x.2.2.1)).run=some oy):ac Tryz.prog 115 (nv.aI pre F):=
 aE au Ef aae (f:=115) (fn:=Tryz.f115) (c:=ao Tryz.f115) (by kernel_rfl) (by kernel_rfl) (by kernel_rfl) (S:=nv) (k:=2) (by kernel_rfl) (λR hR=>ag) (n:=1000) (sel:=VZ) (λv o h=>by cases h;rfl) (pre:=pre) (F:=F) (T:=λx=>V1 (x.1.2.1) (x.1.2.2.1) (x.2.1.1) (x.2.2.1)) (λx Q=>ap8 x Q) hF
abbrev Tm:Type:=zV.T
def iK:Tm:=(⟨0,0,0,0⟩,⟨0,0,0,0⟩,⟨0,0,0,0⟩,false)
def KX (l:List Tm):Bool:=decide (l.length<100000)
def V0 (_:YO):Bool:=true
def ak5 (x:YO):OT nv.Y:=.br (onB x.2.1.1 x.1.2.2.1) (.br (KX x.2.2.1) (.ok ⟨ox,(((0:Int),()),((x.2.1.1,((),())),(x.2.2.1++ [(zY x.2.1.1 x.1.2.1,x.1.2.2.1)],())))⟩)
 (.ok ⟨ox,(((50:Int),()),((x.2.1.1,((),())),(x.2.2.1,())))⟩)) (.ok ⟨ox,(((41:Int),()),((x.2.1.1,((),())),(x.2.2.1,())))⟩)
theorem an2:ac Tryz.prog 115 (nv.aI V0 ak5):=ad4 _ _ λx oy _ ho=>by
 rw [<-ho]
 clear ho
 obtain ⟨⟨⟨⟩,k,P,⟨⟩⟩,⟨⟨c,⟨⟩,⟨⟩⟩,l,⟨⟩⟩⟩:=x
 show (V1 k P c l).run=(OT.br (onB c P) (.br (KX l) _ _) _:OT nv.Y).run
 rcases (Bool.eq_false_or_eq_true (onB c P)).symm with h|h
 ·exact (OT.ap (b:= !onB c P) (by rw [h];rfl)).trans (OT.ay (b:=onB c P) h).symm
 ·refine (OT.ay (b:= !onB c P) (by rw [h];rfl)).trans (Eq.trans ?_ (OT.ap (b:=onB c P) h).symm)
  rcases (Bool.eq_false_or_eq_true (KX l)).symm with h2|h2
  ·have h3:=of_decide_eq_false h2
   exact (OT.ap (decide_eq_true (by omega))).trans (OT.ay (b:=KX l) h2).symm
  ·have h3:=of_decide_eq_true h2
   refine (OT.ay (decide_eq_false (by omega))).trans (Eq.trans ?_ (OT.ap (b:=KX l) h2).symm)
   refine (OT.ap (eY (qe h))).trans ((al ?_).trans rfl)
   simp only [List.all_cons,List.all_nil,Bool.and_true]
   exact decide_eq_true (by omega)
def Cr:cN:=(nv.aI V0 ak5)
theorem YN:ac Tryz.prog 115 Cr:=an2
theorem YM:aK Cr:=aB
def Hn:Env:=aA 115 Cr On
theorem vC:aW Tryz.prog Hn:=ai YN Ef
theorem Eh:aw Hn:=ae YM Eg
theorem Hm:bc Tryz.prog te Hn:=aO follows au vC Eh
def eR:aq:=⟨[.val false .int,.val false (.list zV)],[],true,0,false⟩
abbrev qm:Type:=((Int)×(List ((aa×(aa×(aa×Bool)))))×Unit)×(Unit)
def lK:Shape:=⟨26,[(0,.val false .int),(4,.ptr 0 0 0),(5,.ptr 1 0 0),(9,.val false (.list (.prod .elem (.prod .elem (.prod .elem .bool))))),(10,.val false .int),(11,.val false .int)],[(0,.cells [.val false .u64,.val false .u64,.val false .u64,.val false .u64,.val false .u64,.val false .u64,.val false .u64,.val false .u64,.val false .bool]),(1,.cells [.val false .u64,.val false .u64,.val false .u64,.val false .u64,.val false .u64,.val false .u64,.val false .u64,.val false .u64,.val false .bool])],0,true⟩
abbrev bI:Type:=((Int)×(Unit)×(Unit)×(List ((aa×(aa×(aa×Bool)))))×(Int)×(Int)×Unit)×(((UInt64)×(UInt64)×(UInt64)×(UInt64)×(UInt64)×(UInt64)×(UInt64)×(UInt64)×(Bool)×Unit)×((UInt64)×(UInt64)×(UInt64)×(UInt64)×(UInt64)×(UInt64)×(UInt64)×(UInt64)×(Bool)×Unit)×Unit)
def kE:Shape:=⟨26,[(4,.ptr 0 0 0),(5,.ptr 1 0 0)],[(0,.cells [.val false .u64,.val false .u64,.val false .u64,.val false .u64,.val false .u64,.val false .u64,.val false .u64,.val false .u64,.val false .bool]),(1,.cells [.val false .u64,.val false .u64,.val false .u64,.val false .u64,.val false .u64,.val false .u64,.val false .u64,.val false .u64,.val false .bool])],0,true⟩
abbrev gx:Type:=((Unit)×(Unit)×Unit)×(((UInt64)×(UInt64)×(UInt64)×(UInt64)×(UInt64)×(UInt64)×(UInt64)×(UInt64)×(Bool)×Unit)×((UInt64)×(UInt64)×(UInt64)×(UInt64)×(UInt64)×(UInt64)×(UInt64)×(UInt64)×(Bool)×Unit)×Unit)
def Gm:SE->Option Shape:=kn [(0,kE)] none
def YA (a0:Int) (a9:List ((aa×(aa×(aa×Bool))))) (a10:Int) (a11:Int) (c0_0:UInt64) (c0_1:UInt64) (c0_2:UInt64) (c0_3:UInt64) (c0_4:UInt64) (c0_5:UInt64) (c0_6:UInt64) (c0_7:UInt64) (c0_8:Bool) (c1_0:UInt64) (c1_1:UInt64) (c1_2:UInt64) (c1_3:UInt64) (c1_4:UInt64) (c1_5:UInt64) (c1_6:UInt64) (c1_7:UInt64) (c1_8:Bool):OT (Sum bI aQ):=
 let z0:aa:= {w0:=0,w1:=0,w2:=0,w3:=0}
 let z1:aa×aa×aa×Bool:=List.getD a9 (Int.toNat a11) (z0,z0,z0,false)
 let z2:aa×aa×Bool:=ek a0 ({w0:=c1_0,w1:=c1_1,w2:=c1_2,w3:=c1_3},{w0:=c1_4,w1:=c1_5,w2:=c1_6,w3:=c1_7},c1_8) (nA a0 z1.fst z1.snd)
 let z3:=z2.fst
 let z4:=z2.snd
 let z5:=z4.fst
 (.br (decide (a11<a10))
 (gd [inB a11 (List.length a9),inR (a11+(1:Int))] (.ok (.inl ((a0,((),((),(a9,(a10,(a11+(1:Int),())))))),((c0_0,(c0_1,(c0_2,(c0_3,(c0_4,(c0_5,(c0_6,(c0_7,(c0_8,()))))))))),((z3.w0,(z3.w1,(z3.w2,(z3.w3,(z5.w0,(z5.w1,(z5.w2,(z5.w3,(z4.snd,()))))))))),()))))))
 (.ok (.inr ⟨(.exit 0,kE),(((),((),())),((c0_0,(c0_1,(c0_2,(c0_3,(c0_4,(c0_5,(c0_6,(c0_7,(c0_8,()))))))))),((c1_0,(c1_1,(c1_2,(c1_3,(c1_4,(c1_5,(c1_6,(c1_7,(c1_8,()))))))))),())))⟩)))
def lL (s:bI):OT (Sum bI aQ):=YA (s.1.1) (s.1.2.2.2.1) (s.1.2.2.2.2.1) (s.1.2.2.2.2.2.1) (s.2.1.1) (s.2.1.2.1) (s.2.1.2.2.1) (s.2.1.2.2.2.1) (s.2.1.2.2.2.2.1) (s.2.1.2.2.2.2.2.1) (s.2.1.2.2.2.2.2.2.1) (s.2.1.2.2.2.2.2.2.2.1) (s.2.1.2.2.2.2.2.2.2.2.1) (s.2.2.1.1) (s.2.2.1.2.1) (s.2.2.1.2.2.1) (s.2.2.1.2.2.2.1) (s.2.2.1.2.2.2.2.1) (s.2.2.1.2.2.2.2.2.1) (s.2.2.1.2.2.2.2.2.2.1) (s.2.2.1.2.2.2.2.2.2.2.1) (s.2.2.1.2.2.2.2.2.2.2.2.1)
theorem Yx (s:bI) (Q:Sum bI aQ->Prop):wps te Hn az 1000 (bL (ao Tryz.f160) 0) (lK.inj s) (df lK Gm (Q:Sum lK.T aQ->Prop))=(lL s).wpR Q:=by kernel_rfl
def ql (g0_0:bI->gx) (s:bI):OT aQ:=(.ok ⟨(.exit 0,kE),g0_0 s⟩)
def xq:ax:=⟨[.val true (.prod .elem (.prod .elem .bool))],[],false⟩
def B6:SV->Option ax:=λ_=>some xq
def B8 (ok0:bI->Bool) (g0_0:bI->gx) (a0:Int) (a1:List ((aa×(aa×(aa×Bool))))):OT eR.Y:=
 let z0:(Int×PUnit×PUnit×List (aa×aa×aa×Bool)×Int×Int×PUnit)×(UInt64×UInt64×UInt64×UInt64×UInt64×UInt64×UInt64×UInt64×Bool×PUnit)×(UInt64×UInt64×UInt64×UInt64×UInt64×UInt64×UInt64×UInt64×Bool×PUnit)×PUnit:=((a0,(),(),a1,(↑(List.length a1):Int),(0:Int),()),((0:UInt64),(0:UInt64),(0:UInt64),(0:UInt64),(0:UInt64),(0:UInt64),(0:UInt64),(0:UInt64),false,()),((0:UInt64),(0:UInt64),(0:UInt64),(0:UInt64),(0:UInt64),(0:UInt64),(0:UInt64),(0:UInt64),true,()),())
 let z1:=(g0_0 z0).snd.snd.fst
 let z2:=z1.snd
 let z3:=z2.snd
 let z4:=z3.snd
 let z5:=z4.snd
 let z6:=z5.snd
 let z7:=z6.snd
 let z8:=z7.snd
 (gd [ok0 z0] (.ok ⟨xq,((({w0:=z1.fst,w1:=z2.fst,w2:=z3.fst,w3:=z4.fst},{w0:=z5.fst,w1:=z6.fst,w2:=z7.fst,w3:=z8.fst},z8.snd.fst),()),())⟩))
theorem adV (ok0:bI->Bool) (g0_0:bI->gx) (x:qm) (Q:eR.Y->Prop):wpf te Hn (bn 0 (dC lK 0 ok0 (ql g0_0)) az) 1000 Tryz.f160 (eR.inp.inj x).tm (eR.inp.inj x).hp (fnK eR B6 Q) (λ_ _=>False)=(B8 ok0 g0_0 (x.1.1) (x.1.2.1)).wpR Q:=by kernel_rfl
theorem Mr (ok0:bI->Bool) (g0_0:bI->gx) (h0:∀ s:bI,ok0 s=true->∃ m e,av (lL) m s=some e/\(ql g0_0 s).run=some e) (pre:qm->Bool) (F:qm->OT eR.Y) (hF:∀ (x:qm) oy,pre x=true->(F x).run=some oy->(B8 ok0 g0_0 (x.1.1) (x.1.2.1)).run=some oy):ac Tryz.prog 160 (eR.aI pre F):=
 aE au vC Hm (f:=160) (fn:=Tryz.f160) (c:=ao Tryz.f160) (by kernel_rfl) (by kernel_rfl) (by kernel_rfl) (S:=eR) (k:=0) (by kernel_rfl) (λR hR=>(aH (c:=(ao Tryz.f160)) (by kernel_rfl) (id:=0) (by kernel_rfl) (bz au vC Hm (sh:=lK) hR (xs:=Gm) (aJ (by kernel_rfl) (by kernel_rfl) hR) aY ag (n:=1000) (T:=lL) (λs Q=>Yx s Q) (ok:=ok0) (f:=ql g0_0) h0) ag)) (n:=1000) (sel:=B6) (λv o h=>by cases h;rfl) (pre:=pre) (F:=F) (T:=λx=>B8 ok0 g0_0 (x.1.1) (x.1.2.1)) (λx Q=>adV ok0 g0_0 x Q) hF
def eo (c:Int) (l:List Tm) (k:Nat) (O:Pt):Pt:=ek c O (nA c (l.getD k iK).1 (l.getD k iK).2)
def mw (c:Int) (l:List Tm):Pt:=upto (eo c l) aC l.length
def B7 (s:bI):Bool:=decide (s.1.2.2.2.2.1=(s.1.2.2.2.1.length:Int)/\s.1.2.2.2.2.2.1=0/\k9 s.2.2.1=aC/\s.1.2.2.2.1.length<=140737488355328)
def Gn (s:bI):gx:=(((),(),()),(s.2.1,bm (mw s.1.1 s.1.2.2.2.1),()))
theorem Yz:∀ s:bI,B7 s=true->∃ m e,av lL m s=some e/\(ql Gn s).run=some e:=by
 rintro ⟨⟨c,⟨⟩,⟨⟩,l,n,i,⟨⟩⟩,⟨c0,c1,⟨⟩⟩⟩ h
 have h':=of_decide_eq_true h
 dsimp only at h'
 obtain ⟨rfl,rfl,hO,hl⟩:=h'
 have hO2:c1=bm aC:=by rw [<-hO];rfl
 subst hO2
 have:=(bP (T:=lL) (λi O=>(((c,(),(),l,(l.length:Int),(i:Int),()),(c0,bm O,())):bI)) (eo c l)
  (λO=>(⟨(.exit 0,kE),(((),(),()),(c0,bm O,()))⟩:aQ)) l.length aC (λ_ _=>True) trivial (λk O hk _=>⟨?_,trivial⟩) (λO _=> ?_)).1
 ·obtain ⟨m,hm⟩:=this
  exact ⟨m,_,hm,rfl⟩
 ·refine (OT.ap (decide_eq_true (by dsimp only;omega))).trans ((al ?_).trans ?_)
  ·simp only [List.all_cons,List.all_nil,Bool.and_true,Bool.and_eq_true]
   exact ⟨bG (by omega),bF (by omega)⟩
  ·simp only [OT.kq,Int.toNat_natCast]
   rfl
 ·exact OT.ay (decide_eq_false (by dsimp only;omega))
def se (x:qm):Bool:=decide (x.1.2.1.length<=140737488355328)
def Ms (x:qm):OT eR.Y:=.ok ⟨xq,((mw x.1.1 x.1.2.1,()),())⟩
theorem Yy:ac Tryz.prog 160 (eR.aI se Ms):=Mr B7 Gn Yz _ _ λx oy hp ho=>by
 rw [<-ho]
 clear ho
 obtain ⟨⟨c,l,⟨⟩⟩,⟨⟩⟩:=x
 have hl:l.length<=140737488355328:=of_decide_eq_true hp
 refine (al ?_).trans rfl
 simp only [List.all_cons,List.all_nil,Bool.and_true]
 exact decide_eq_true ⟨rfl,rfl,rfl,hl⟩
def ot:cN:=(eR.aI se Ms)
theorem IR:ac Tryz.prog 160 ot:=Yy
theorem IQ:aK ot:=aB
def pj:Env:=aA 160 ot Hn
theorem pi:aW Tryz.prog pj:=ai IR vC
theorem rq:aw pj:=ae IQ Eh
theorem Kh:bc Tryz.prog te pj:=aO follows au pi rq
def jR:aq:=⟨[.val true zV,.ptr 0 0 0],[(0,.cells [.val false .int])],false,1,true⟩
abbrev Gk:Type:=(((aa×(aa×(aa×Bool))))×(Unit)×Unit)×(((Int)×Unit)×Unit)
def IJ:ax:=⟨[.val false .bool],[(0,.cells [.val false .int])],false⟩
def Mo:SV->Option ax:=λ_=>some IJ
def Qx (a0:(aa×(aa×(aa×Bool)))) (c0_0:Int):OT jR.Y:=
 (.ok ⟨IJ,((ny a0.fst c0_0,()),((c0_0,()),()))⟩)
theorem anS (x:Gk) (Q:jR.Y->Prop):wpf te pj az 1000 Tryz.f169 (jR.inp.inj x).tm (jR.inp.inj x).hp (fnK jR Mo Q) (λ_ _=>False)=(Qx (x.1.1) (x.2.1.1)).wpR Q:=by kernel_rfl
theorem Yr (pre:Gk->Bool) (F:Gk->OT jR.Y) (hF:∀ (x:Gk) oy,pre x=true->(F x).run=some oy->(Qx (x.1.1) (x.2.1.1)).run=some oy):ac Tryz.prog 169 (jR.aI pre F):=
 aE au pi Kh (f:=169) (fn:=Tryz.f169) (c:=ao Tryz.f169) (by kernel_rfl) (by kernel_rfl) (by kernel_rfl) (S:=jR) (k:=1) (by kernel_rfl) (λR hR=>ag) (n:=1000) (sel:=Mo) (λv o h=>by cases h;rfl) (pre:=pre) (F:=F) (T:=λx=>Qx (x.1.1) (x.2.1.1)) (λx Q=>anS x Q) hF
def Mp (_:Gk):Bool:=true
def adR (x:Gk):OT jR.Y:=.ok ⟨IJ,((ny x.1.1.1 x.2.1.1,()),((x.2.1.1,()),()))⟩
theorem ajs:ac Tryz.prog 169 (jR.aI Mp adR):=Yr _ _ λx oy hp ho=>by
 rw [<-ho]
 rfl
def xm:cN:=(jR.aI Mp adR)
theorem Qw:ac Tryz.prog 169 xm:=ajs
theorem Qv:aK xm:=aB
def yu:Env:=aA 169 xm pj
theorem qT:aW Tryz.prog yu:=ai Qw pi
theorem zH:aw yu:=ae Qv rq
theorem Eb:bc Tryz.prog te yu:=aO follows au qT zH
def ee:aq:=⟨[.val false (.list zV),.fn 169 [0]],[(0,.cells [.val false .int])],true,1,true⟩
abbrev qo:Type:=((List ((aa×(aa×(aa×Bool)))))×(Unit)×Unit)×(((Int)×Unit)×Unit)
def lM:Shape:=⟨19,[(0,.val false (.list (.prod .elem (.prod .elem (.prod .elem .bool))))),(1,.fn 169 [0]),(7,.val false .int),(8,.val false .int)],[(0,.cells [.val false .int])],1,true⟩
abbrev aT:Type:=((List ((aa×(aa×(aa×Bool)))))×(Unit)×(Int)×(Int)×Unit)×(((Int)×Unit)×Unit)
def kF:Shape:=⟨19,[(4,.val false .int)],[(0,.cells [.val false .int])],1,true⟩
abbrev gy:Type:=((Int)×Unit)×(((Int)×Unit)×Unit)
def kG:Shape:=⟨19,[],[(0,.cells [.val false .int])],1,true⟩
abbrev gz:Type:=(Unit)×(((Int)×Unit)×Unit)
def Gq:SE->Option Shape:=kn [(0,kG)] (some kF)
def YJ (a0:List ((aa×(aa×(aa×Bool))))) (a7:Int) (a8:Int) (c0_0:Int):OT (Sum aT aQ):=
 let z0:aa:= {w0:=0,w1:=0,w2:=0,w3:=0}
 (.br (decide (a8<a7))
 (gd [inB a8 (List.length a0)] (.br (ny (List.getD a0 (Int.toNat a8) (z0,z0,z0,false)).fst c0_0)
  (.ok (.inr ⟨(.ret,kF),((a8,()),((c0_0,()),()))⟩))
  (gd [inR (a8+(1:Int))] (.ok (.inl ((a0,((),(a7,(a8+(1:Int),())))),((c0_0,()),())))))))
 (.ok (.inr ⟨(.exit 0,kG),((),((c0_0,()),()))⟩)))
def lN (s:aT):OT (Sum aT aQ):=YJ (s.1.1) (s.1.2.2.1) (s.1.2.2.2.1) (s.2.1.1)
theorem YG (s:aT) (Q:Sum aT aQ->Prop):wps te yu az 1000 (bL (ao Tryz.f171) 0) (lM.inj s) (df lM Gq (Q:Sum lM.T aQ->Prop))=(lN s).wpR Q:=by kernel_rfl
def qn (g0_r:aT->gy) (c0_r:aT->Bool) (g0_0:aT->gz) (s:aT):OT aQ:=(.br (c0_r s) (.ok ⟨(.ret,kF),g0_r s⟩) (.ok ⟨(.exit 0,kG),g0_0 s⟩))
def hJ:ax:=⟨[.val false .int],[(0,.cells [.val false .int])],false⟩
def Cb:SV->Option ax:=λ_=>some hJ
def Ce (ok0:aT->Bool) (g0_r:aT->gy) (c0_r:aT->Bool) (g0_0:aT->gz) (a0:List ((aa×(aa×(aa×Bool))))) (c0_0:Int):OT ee.Y:=
 let z0:(List (aa×aa×aa×Bool)×PUnit×Int×Int×PUnit)×(Int×PUnit)×PUnit:=((a0,(),(↑(List.length a0):Int),(0:Int),()),(c0_0,()),())
 let z1:(Int×PUnit)×(Int×PUnit)×PUnit:=g0_r z0
 (gd [ok0 z0] (.br (c0_r z0)
 (.ok ⟨hJ,((z1.fst.fst,()),((z1.snd.fst.fst,()),()))⟩)
 (.ok ⟨hJ,(((-1:Int),()),(((g0_0 z0).snd.fst.fst,()),()))⟩)))
theorem ad0 (ok0:aT->Bool) (g0_r:aT->gy) (c0_r:aT->Bool) (g0_0:aT->gz) (x:qo) (Q:ee.Y->Prop):wpf te yu (bn 0 (dC lM 0 ok0 (qn g0_r c0_r g0_0)) az) 1000 Tryz.f171 (ee.inp.inj x).tm (ee.inp.inj x).hp (fnK ee Cb Q) (λ_ _=>False)=(Ce ok0 g0_r c0_r g0_0 (x.1.1) (x.2.1.1)).wpR Q:=by kernel_rfl
theorem Mu (ok0:aT->Bool) (g0_r:aT->gy) (c0_r:aT->Bool) (g0_0:aT->gz) (h0:∀ s:aT,ok0 s=true->∃ m e,av (lN) m s=some e/\(qn g0_r c0_r g0_0 s).run=some e) (pre:qo->Bool) (F:qo->OT ee.Y) (hF:∀ (x:qo) oy,pre x=true->(F x).run=some oy->(Ce ok0 g0_r c0_r g0_0 (x.1.1) (x.2.1.1)).run=some oy):ac Tryz.prog 171 (ee.aI pre F):=
 aE au qT Eb (f:=171) (fn:=Tryz.f171) (c:=ao Tryz.f171) (by kernel_rfl) (by kernel_rfl) (by kernel_rfl) (S:=ee) (k:=1) (by kernel_rfl) (λR hR=>(aH (c:=(ao Tryz.f171)) (by kernel_rfl) (id:=0) (by kernel_rfl) (bz au qT Eb (sh:=lM) hR (xs:=Gq) (aJ (by kernel_rfl) (by kernel_rfl) hR) aY ag (n:=1000) (T:=lN) (λs Q=>YG s Q) (ok:=ok0) (f:=qn g0_r c0_r g0_0) h0) ag)) (n:=1000) (sel:=Cb) (λv o h=>by cases h;rfl) (pre:=pre) (F:=F) (T:=λx=>Ce ok0 g0_r c0_r g0_0 (x.1.1) (x.2.1.1)) (λx Q=>ad0 ok0 g0_r c0_r g0_0 x Q) hF
def lV (l:List Tm) (i:Int):Nat->Nat->Int
 |0,_=> -1
 |n+1,k=>cond (ny (l.getD k iK).1 i) (k:Int) (lV l i n (k+1))
def Cc (s:aT):Bool:=decide (s.1.2.2.1=(s.1.1.length:Int)/\s.1.2.2.2.1=0/\s.1.1.length<=140737488355328)
def ia (l:List Tm) (i:Int):Int:=lV l i l.length 0
def Cd (s:aT):gy:=((ia s.1.1 s.2.1.1,()),s.2)
def Gt (s:aT):Bool:=decide (0<=ia s.1.1 s.2.1.1)
def Gr (s:aT):gz:=((),s.2)
def MH (l:List Tm) (i k:Int):aT:=((l,(),(l.length:Int),k,()),((i,()),()))
theorem M4 (l:List Tm) (i:Int):∀ n k,lV l i n k= -1\/0<=lV l i n k
 |0,_=>.inl rfl
 |n+1,k=>by
  unfold lV
  cases ny (l.getD k iK).1 i
  ·exact M4 l i n (k+1)
  ·right
   show (0:Int)<=(k:Int)
   omega
theorem V8 (l:List Tm) (i:Int) (hl:l.length<=140737488355328):∀ n k:Nat,k+n=l.length->
 ∃ m,av lN m (MH l i (k:Int))=some (cond (decide (0<=lV l i n k)) ⟨(.ret,kF),((lV l i n k,()),((i,()),()))⟩ ⟨(.exit 0,kG),((),((i,()),()))⟩)
 |0,k,h=>⟨1,aR (OT.ay (decide_eq_false (by dsimp only [MH];omega)))⟩
 |n+1,k,h=>by
  have hin:inB (k:Int) l.length=true:=bG (by omega)
  have hgd:∀ z:OT (Sum aT aQ),(gd [inB (k:Int) l.length] z).run=z.run:=λz=>al (by rw [hin];rfl)
  unfold lV
  rcases (Bool.eq_false_or_eq_true (ny (l.getD k iK).1 i)).symm with hb|hb
  ·obtain ⟨m,hm⟩:=V8 l i hl n (k+1) (by omega)
   rw [hb]
   refine ⟨m+1,aM ?_ hm⟩
   refine (OT.ap (decide_eq_true (by dsimp only [MH];omega))).trans ((hgd _).trans ((OT.ay hb).trans ((al ?_).trans rfl)))
   simp only [List.all_cons,List.all_nil,Bool.and_true]
   exact bF (by dsimp only [MH];omega)
  ·rw [hb]
   have e:decide ((0:Int)<=cond true (k:Int) (lV l i n (k+1)))=true:=decide_eq_true (by show (0:Int)<=(k:Int);omega)
   rw [e]
   refine ⟨1,aR ?_⟩
   exact (OT.ap (decide_eq_true (by dsimp only [MH];omega))).trans ((hgd _).trans ((OT.ap hb).trans rfl))
theorem YI:∀ s:aT,Cc s=true->∃ m e,av lN m s=some e/\(qn Cd Gt Gr s).run=some e:=by
 rintro ⟨⟨l,⟨⟩,n,k,⟨⟩⟩,⟨⟨i,⟨⟩⟩,⟨⟩⟩⟩ h
 have h':=of_decide_eq_true h
 dsimp only at h'
 obtain ⟨rfl,rfl,hl⟩:=h'
 obtain ⟨m,hm⟩:=V8 l i hl l.length 0 (by omega)
 refine ⟨m,_,hm,?_⟩
 show (OT.br (decide (0<=ia l i)) _ _:OT aQ).run=some (cond (decide (0<=ia l i)) _ _)
 cases decide (0<=ia l i)<;>rfl
def sf (x:qo):Bool:=decide (x.1.1.length<=140737488355328)
def Mv (x:qo):OT ee.Y:=.ok ⟨hJ,((ia x.1.1 x.2.1.1,()),x.2)⟩
theorem YH:ac Tryz.prog 171 (ee.aI sf Mv):=Mu Cc Cd Gt Gr YI _ _ λx oy hp ho=>by
 rw [<-ho]
 clear ho
 obtain ⟨⟨l,⟨⟩,⟨⟩⟩,⟨⟨i,⟨⟩⟩,⟨⟩⟩⟩:=x
 have hl:l.length<=140737488355328:=of_decide_eq_true hp
 refine (al ?_).trans ?_
 ·simp only [List.all_cons,List.all_nil,Bool.and_true]
  exact decide_eq_true ⟨rfl,rfl,hl⟩
 ·show (OT.br (decide (0<=ia l i)) (.ok ⟨hJ,((ia l i,()),((i,()),()))⟩) (.ok ⟨hJ,(((-1:Int),()),((i,()),()))⟩):OT ee.Y).run=some ⟨hJ,((ia l i,()),((i,()),()))⟩
  rcases M4 l i l.length 0 with h|h
  ·have h:ia l i= -1:=h
   rw [h]
   rfl
  ·exact OT.ap (decide_eq_true h)
def ou:cN:=(ee.aI sf Mv)
theorem IY:ac Tryz.prog 171 ou:=YH
theorem IX:aK ou:=aB
def pl:Env:=aA 171 ou yu
theorem pk:aW Tryz.prog pl:=ai IY qT
theorem ru:aw pl:=ae IX zH
theorem Ki:bc Tryz.prog te pl:=aO follows au pk ru
def gA:aq:=⟨[.val false (.list zV),.fn 169 [0]],[(0,.cells [.val false .int])],true,1,true⟩
abbrev xr:Type:=((List ((aa×(aa×(aa×Bool)))))×(Unit)×Unit)×(((Int)×Unit)×Unit)
def Cf:ax:=⟨[.val false .bool],[(0,.cells [.val false .int])],false⟩
def Gv:SV->Option ax:=λ_=>some Cf
def IZ (a0:List ((aa×(aa×(aa×Bool))))) (c0_0:Int):OT gA.Y:=
 (gd [sf ((a0,(),()),(c0_0,()),())] (.ok ⟨Cf,((decide ((0:Int)<=ia a0 c0_0),()),((c0_0,()),()))⟩))
theorem ajD (x:xr) (Q:gA.Y->Prop):wpf te pl az 1000 Tryz.f168 (gA.inp.inj x).tm (gA.inp.inj x).hp (fnK gA Gv Q) (λ_ _=>False)=(IZ (x.1.1) (x.2.1.1)).wpR Q:=by kernel_rfl
theorem QD (pre:xr->Bool) (F:xr->OT gA.Y) (hF:∀ (x:xr) oy,pre x=true->(F x).run=some oy->(IZ (x.1.1) (x.2.1.1)).run=some oy):ac Tryz.prog 168 (gA.aI pre F):=
 aE au pk Ki (f:=168) (fn:=Tryz.f168) (c:=ao Tryz.f168) (by kernel_rfl) (by kernel_rfl) (by kernel_rfl) (S:=gA) (k:=1) (by kernel_rfl) (λR hR=>ag) (n:=1000) (sel:=Gv) (λv o h=>by cases h;rfl) (pre:=pre) (F:=F) (T:=λx=>IZ (x.1.1) (x.2.1.1)) (λx Q=>ajD x Q) hF
def apj (l:List Tm) (i:Int):Bool:=decide (0<=ia l i)
def qp (x:xr):Bool:=decide (x.1.1.length<=140737488355328)
def VX (x:xr):OT gA.Y:=.ok ⟨Cf,((apj x.1.1 x.2.1.1,()),x.2)⟩
theorem ad3:ac Tryz.prog 168 (gA.aI qp VX):=QD _ _ λx oy hp ho=>by
 rw [<-ho]
 clear ho
 refine (al ?_).trans rfl
 simp only [List.all_cons,List.all_nil,Bool.and_true]
 exact hp
def sg:cN:=(gA.aI qp VX)
theorem Mx:ac Tryz.prog 168 sg:=ad3
theorem Mw:aK sg:=aB
def qU:Env:=aA 168 sg pl
theorem ng:aW Tryz.prog qU:=ai Mx pk
theorem vB:aw qU:=ae Mw ru
theorem zJ:bc Tryz.prog te qU:=aO follows au ng vB
def nr:aq:=⟨[.val false (.list zV)],[],true,0,false⟩
abbrev Yq:Type:=((List ((aa×(aa×(aa×Bool)))))×Unit)×(Unit)
def B1:Shape:=⟨14,[(0,.val false (.list (.prod .elem (.prod .elem (.prod .elem .bool))))),(3,.ptr 0 0 0)],[(0,.cells [.val false .int])],0,true⟩
abbrev bK:Type:=((List ((aa×(aa×(aa×Bool)))))×(Unit)×Unit)×(((Int)×Unit)×Unit)
def uk:Shape:=⟨14,[(2,.val false .int)],[],0,true⟩
abbrev lG:Type:=((Int)×Unit)×(Unit)
def ul:Shape:=⟨14,[],[],0,true⟩
abbrev lH:Type:=(Unit)×(Unit)
def adM:SE->Option Shape:=kn [(0,ul)] (some uk)
def anR (a0:List ((aa×(aa×(aa×Bool))))) (c0_0:Int):OT (Sum bK aQ):=
 (.br (decide ((0:Int)<=c0_0))
 (gd [qp ((a0,(),()),(c0_0,()),())] (.br (apj a0 c0_0)
  (gd [inR (c0_0+(1:Int))] (.ok (.inr ⟨(.ret,uk),((c0_0+(1:Int),()),())⟩)))
  (gd [inR (c0_0-(1:Int))] (.ok (.inl ((a0,((),())),((c0_0-(1:Int),()),())))))))
 (.ok (.inr ⟨(.exit 0,ul),((),())⟩)))
def B2 (s:bK):OT (Sum bK aQ):=anR (s.1.1) (s.2.1.1)
theorem anO (s:bK) (Q:Sum bK aQ->Prop):wps te qU az 1000 (bL (ao Tryz.f161) 0) (B1.inj s) (df B1 adM (Q:Sum B1.T aQ->Prop))=(B2 s).wpR Q:=by kernel_rfl
def II (g0_r:bK->lG) (c0_r:bK->Bool) (g0_0:bK->lH) (s:bK):OT aQ:=(.br (c0_r s) (.ok ⟨(.ret,uk),g0_r s⟩) (.ok ⟨(.exit 0,ul),g0_0 s⟩))
def sd:ax:=⟨[.val false .int],[],false⟩
def VL:SV->Option ax:=λ_=>some sd
def adQ (ok0:bK->Bool) (g0_r:bK->lG) (c0_r:bK->Bool) (g0_0:bK->lH) (a0:List ((aa×(aa×(aa×Bool))))):OT nr.Y:=
 let z0:(List (aa×aa×aa×Bool)×PUnit×PUnit)×(Int×PUnit)×PUnit:=((a0,(),()),((255:Int),()),())
 (gd [ok0 z0] (.br (c0_r z0)
 (.ok ⟨sd,(((g0_r z0).fst.fst,()),())⟩)
 (.ok ⟨sd,(((0:Int),()),())⟩)))
theorem ap0 (ok0:bK->Bool) (g0_r:bK->lG) (c0_r:bK->Bool) (g0_0:bK->lH) (x:Yq) (Q:nr.Y->Prop):wpf te qU (bn 0 (dC B1 0 ok0 (II g0_r c0_r g0_0)) az) 1000 Tryz.f161 (nr.inp.inj x).tm (nr.inp.inj x).hp (fnK nr VL Q) (λ_ _=>False)=(adQ ok0 g0_r c0_r g0_0 (x.1.1)).wpR Q:=by kernel_rfl
theorem adN (ok0:bK->Bool) (g0_r:bK->lG) (c0_r:bK->Bool) (g0_0:bK->lH) (h0:∀ s:bK,ok0 s=true->∃ m e,av (B2) m s=some e/\(II g0_r c0_r g0_0 s).run=some e) (pre:Yq->Bool) (F:Yq->OT nr.Y) (hF:∀ (x:Yq) oy,pre x=true->(F x).run=some oy->(adQ ok0 g0_r c0_r g0_0 (x.1.1)).run=some oy):ac Tryz.prog 161 (nr.aI pre F):=
 aE au ng zJ (f:=161) (fn:=Tryz.f161) (c:=ao Tryz.f161) (by kernel_rfl) (by kernel_rfl) (by kernel_rfl) (S:=nr) (k:=0) (by kernel_rfl) (λR hR=>(aH (c:=(ao Tryz.f161)) (by kernel_rfl) (id:=0) (by kernel_rfl) (bz au ng zJ (sh:=B1) hR (xs:=adM) (aJ (by kernel_rfl) (by kernel_rfl) hR) aY ag (n:=1000) (T:=B2) (λs Q=>anO s Q) (ok:=ok0) (f:=II g0_r c0_r g0_0) h0) ag)) (n:=1000) (sel:=VL) (λv o h=>by cases h;rfl) (pre:=pre) (F:=F) (T:=λx=>adQ ok0 g0_r c0_r g0_0 (x.1.1)) (λx Q=>ap0 ok0 g0_r c0_r g0_0 x Q) hF
def aao (l:List Tm):Nat->Nat
 |0=>0
 |n+1=>cond (apj l (n:Int)) (n+1) (aao l n)
def OJ (l:List Tm):Nat:=aao l 256
def VM (s:bK):Bool:=decide (s.2.1.1=255/\s.1.1.length<=140737488355328)
def VN (s:bK):lG:=(((OJ s.1.1:Int),()),())
def adP (s:bK):Bool:=decide ((0:Int)<(OJ s.1.1:Int))
def adO (_:bK):lH:=((),())
def Fl (l:List Tm) (i:Int):bK:=((l,(),()),((i,()),()))
theorem SJ (l:List Tm) (hl:l.length<=140737488355328):∀ n:Nat,n<=256->
 ∃ m,av B2 m (Fl l ((n:Int)-1))=some (cond (decide ((0:Int)<(aao l n:Int))) ⟨(.ret,uk),(((aao l n:Int),()),())⟩ ⟨(.exit 0,ul),((),())⟩)
 |0,_=>⟨1,aR (OT.ay (decide_eq_false (by dsimp only [Fl];omega)))⟩
 |n+1,h=>by
  rw [show ((n+1:Nat):Int)-1=(n:Int) by omega]
  have hgd:∀ z:OT (Sum bK aQ),(gd [qp ((l,(),()),((n:Int),()),())] z).run=z.run:=λz=>al (by
   simp only [List.all_cons,List.all_nil,Bool.and_true]
   exact decide_eq_true hl)
  unfold aao
  rcases (Bool.eq_false_or_eq_true (apj l (n:Int))).symm with hb|hb
  ·obtain ⟨m,hm⟩:=SJ l hl n (by omega)
   rw [hb]
   refine ⟨m+1,aM ?_ hm⟩
   refine (OT.ap (decide_eq_true (by dsimp only [Fl];omega))).trans ((hgd _).trans ((OT.ay hb).trans ((al ?_).trans rfl)))
   simp only [List.all_cons,List.all_nil,Bool.and_true]
   exact bF (by dsimp only [Fl];omega)
  ·rw [hb]
   simp only [cond_true]
   rw [decide_eq_true (show (0:Int)<((n+1:Nat):Int) by omega)]
   refine ⟨1,aR ?_⟩
   refine (OT.ap (decide_eq_true (by dsimp only [Fl];omega))).trans ((hgd _).trans ((OT.ap hb).trans ((al ?_).trans rfl)))
   simp only [List.all_cons,List.all_nil,Bool.and_true]
   exact bF (by dsimp only [Fl];omega)
theorem anQ:∀ s:bK,VM s=true->∃ m e,av B2 m s=some e/\(II VN adP adO s).run=some e:=by
 rintro ⟨⟨l,⟨⟩,⟨⟩⟩,⟨⟨i,⟨⟩⟩,⟨⟩⟩⟩ h
 have h':=of_decide_eq_true h
 dsimp only at h'
 obtain ⟨rfl,hl⟩:=h'
 obtain ⟨m,hm⟩:=SJ l hl 256 (by omega)
 refine ⟨m,_,hm,?_⟩
 show (OT.br (decide ((0:Int)<(aao l 256:Int))) _ _:OT aQ).run=some (cond (decide ((0:Int)<(aao l 256:Int))) _ _)
 cases decide ((0:Int)<(aao l 256:Int))<;>rfl
def IH (x:Yq):Bool:=decide (x.1.1.length<=140737488355328)
def ak1 (x:Yq):OT nr.Y:=.ok ⟨sd,(((OJ x.1.1:Int),()),())⟩
theorem anP:ac Tryz.prog 161 (nr.aI IH ak1):=adN VM VN adP adO anQ _ _ λx oy hp ho=>by
 rw [<-ho]
 clear ho
 obtain ⟨⟨l,⟨⟩⟩,⟨⟩⟩:=x
 have hl:l.length<=140737488355328:=of_decide_eq_true hp
 refine (al ?_).trans ?_
 ·simp only [List.all_cons,List.all_nil,Bool.and_true]
  exact decide_eq_true ⟨rfl,hl⟩
 ·show (OT.br (decide ((0:Int)<(OJ l:Int))) (.ok ⟨sd,(((OJ l:Int),()),())⟩) (.ok ⟨sd,(((0:Int),()),())⟩):OT nr.Y).run=some ⟨sd,(((OJ l:Int),()),())⟩
  by_cases h:(0:Int)<(OJ l:Int)
  ·exact OT.ap (decide_eq_true h)
  ·have e:OJ l=0:=by omega
   rw [e]
   rfl
def B0:cN:=(nr.aI IH ak1)
theorem Yp:ac Tryz.prog 161 B0:=anP
theorem Yo:aK B0:=aB
def vA:Env:=aA 161 B0 qU
theorem kk:aW Tryz.prog vA:=ai Yp ng
theorem Ea:aw vA:=ae Yo vB
theorem mi:bc Tryz.prog te vA:=aO follows au kk Ea
def dJ:aq:=⟨[.val false .int,.val false (.list zV),.val false .int],[],true,0,false⟩
abbrev lP:Type:=((Int)×(List ((aa×(aa×(aa×Bool)))))×(Int)×Unit)×(Unit)
def jX:Shape:=⟨74,[(0,.val false .int),(1,.val false (.list (.prod .elem (.prod .elem (.prod .elem .bool))))),(2,.val false .int),(6,.ptr 0 0 0),(7,.ptr 1 0 0),(16,.val false .int)],[(0,.cells [.val false .u64,.val false .u64,.val false .u64,.val false .u64,.val false .u64,.val false .u64,.val false .u64,.val false .u64,.val false .bool]),(1,.row (.prod .elem (.prod .elem .bool)))],0,true⟩
abbrev bg:Type:=((Int)×(List ((aa×(aa×(aa×Bool)))))×(Int)×(Unit)×(Unit)×(Int)×Unit)×(((UInt64)×(UInt64)×(UInt64)×(UInt64)×(UInt64)×(UInt64)×(UInt64)×(UInt64)×(Bool)×Unit)×(List ((aa×(aa×Bool))))×Unit)
def jb:Shape:=⟨74,[(0,.val false .int),(1,.val false (.list (.prod .elem (.prod .elem (.prod .elem .bool))))),(2,.val false .int),(6,.ptr 0 0 0),(7,.ptr 1 0 0)],[(0,.cells [.val false .u64,.val false .u64,.val false .u64,.val false .u64,.val false .u64,.val false .u64,.val false .u64,.val false .u64,.val false .bool]),(1,.row (.prod .elem (.prod .elem .bool)))],0,true⟩
abbrev eA:Type:=((Int)×(List ((aa×(aa×(aa×Bool)))))×(Int)×(Unit)×(Unit)×Unit)×(((UInt64)×(UInt64)×(UInt64)×(UInt64)×(UInt64)×(UInt64)×(UInt64)×(UInt64)×(Bool)×Unit)×(List ((aa×(aa×Bool))))×Unit)
def Ck:SE->Option Shape:=kn [(0,jb)] none
def QP (a0:Int) (a1:List ((aa×(aa×(aa×Bool))))) (a2:Int) (a16:Int) (c0_0:UInt64) (c0_1:UInt64) (c0_2:UInt64) (c0_3:UInt64) (c0_4:UInt64) (c0_5:UInt64) (c0_6:UInt64) (c0_7:UInt64) (c0_8:Bool) (c1:List ((aa×(aa×Bool)))):OT (Sum bg aQ):=
 let z0:aa:= {w0:=0,w1:=0,w2:=0,w3:=0}
 (.br (decide (a16<(15:Int)))
 (gd [inB a16 15,decide (Int.toNat a16+0<List.length c1),inR (a16+(1:Int))] (.ok (.inl ((a0,(a1,(a2,((),((),(a16+(1:Int),())))))),((c0_0,(c0_1,(c0_2,(c0_3,(c0_4,(c0_5,(c0_6,(c0_7,(c0_8,()))))))))),(List.set c1 (Int.toNat a16+0) (z0,z0,true),()))))))
 (.ok (.inr ⟨(.exit 0,jb),((a0,(a1,(a2,((),((),()))))),((c0_0,(c0_1,(c0_2,(c0_3,(c0_4,(c0_5,(c0_6,(c0_7,(c0_8,()))))))))),(c1,())))⟩)))
def j0 (s:bg):OT (Sum bg aQ):=QP (s.1.1) (s.1.2.1) (s.1.2.2.1) (s.1.2.2.2.2.2.1) (s.2.1.1) (s.2.1.2.1) (s.2.1.2.2.1) (s.2.1.2.2.2.1) (s.2.1.2.2.2.2.1) (s.2.1.2.2.2.2.2.1) (s.2.1.2.2.2.2.2.2.1) (s.2.1.2.2.2.2.2.2.2.1) (s.2.1.2.2.2.2.2.2.2.2.1) (s.2.2.1)
theorem QH (s:bg) (Q:Sum bg aQ->Prop):wps te vA az 1000 (bL (ao Tryz.f162) 0) (jX.inj s) (df jX Ck (Q:Sum jX.T aQ->Prop))=(j0 s).wpR Q:=by kernel_rfl
def mR (g0_0:bg->eA) (s:bg):OT aQ:=(.ok ⟨(.exit 0,jb),g0_0 s⟩)
def jW:Shape:=⟨74,[(0,.val false .int),(2,.val false .int),(6,.ptr 0 0 0),(7,.ptr 1 0 0),(23,.val false (.list (.prod .elem (.prod .elem (.prod .elem .bool))))),(24,.val false .int),(25,.val false .int)],[(0,.cells [.val false .u64,.val false .u64,.val false .u64,.val false .u64,.val false .u64,.val false .u64,.val false .u64,.val false .u64,.val false .bool]),(1,.row (.prod .elem (.prod .elem .bool)))],0,true⟩
abbrev bf:Type:=((Int)×(Int)×(Unit)×(Unit)×(List ((aa×(aa×(aa×Bool)))))×(Int)×(Int)×Unit)×(((UInt64)×(UInt64)×(UInt64)×(UInt64)×(UInt64)×(UInt64)×(UInt64)×(UInt64)×(Bool)×Unit)×(List ((aa×(aa×Bool))))×Unit)
def jV:Shape:=⟨74,[(0,.val false .int),(2,.val false .int),(6,.ptr 0 0 0),(7,.ptr 1 0 0),(10,.ptr 2 0 0),(11,.val false .int),(23,.val false (.list (.prod .elem (.prod .elem (.prod .elem .bool))))),(24,.val false .int),(25,.val false .int),(29,.val false .int)],[(0,.cells [.val false .u64,.val false .u64,.val false .u64,.val false .u64,.val false .u64,.val false .u64,.val false .u64,.val false .u64,.val false .bool]),(1,.row (.prod .elem (.prod .elem .bool))),(2,.cells [.val false .u64,.val false .u64,.val false .u64,.val false .u64,.val false .u64,.val false .u64,.val false .u64,.val false .u64,.val false .u64,.val false .u64,.val false .u64,.val false .u64,.val false .bool])],0,true⟩
abbrev aL:Type:=((Int)×(Int)×(Unit)×(Unit)×(Unit)×(Int)×(List ((aa×(aa×(aa×Bool)))))×(Int)×(Int)×(Int)×Unit)×(((UInt64)×(UInt64)×(UInt64)×(UInt64)×(UInt64)×(UInt64)×(UInt64)×(UInt64)×(Bool)×Unit)×(List ((aa×(aa×Bool))))×((UInt64)×(UInt64)×(UInt64)×(UInt64)×(UInt64)×(UInt64)×(UInt64)×(UInt64)×(UInt64)×(UInt64)×(UInt64)×(UInt64)×(Bool)×Unit)×Unit)
def iZ:Shape:=⟨74,[(0,.val false .int),(2,.val false .int),(6,.ptr 0 0 0),(7,.ptr 1 0 0),(10,.ptr 2 0 0),(11,.val false .int),(23,.val false (.list (.prod .elem (.prod .elem (.prod .elem .bool))))),(24,.val false .int),(25,.val false .int)],[(0,.cells [.val false .u64,.val false .u64,.val false .u64,.val false .u64,.val false .u64,.val false .u64,.val false .u64,.val false .u64,.val false .bool]),(1,.row (.prod .elem (.prod .elem .bool))),(2,.cells [.val false .u64,.val false .u64,.val false .u64,.val false .u64,.val false .u64,.val false .u64,.val false .u64,.val false .u64,.val false .u64,.val false .u64,.val false .u64,.val false .u64,.val false .bool])],0,true⟩
abbrev ck:Type:=((Int)×(Int)×(Unit)×(Unit)×(Unit)×(Int)×(List ((aa×(aa×(aa×Bool)))))×(Int)×(Int)×Unit)×(((UInt64)×(UInt64)×(UInt64)×(UInt64)×(UInt64)×(UInt64)×(UInt64)×(UInt64)×(Bool)×Unit)×(List ((aa×(aa×Bool))))×((UInt64)×(UInt64)×(UInt64)×(UInt64)×(UInt64)×(UInt64)×(UInt64)×(UInt64)×(UInt64)×(UInt64)×(UInt64)×(UInt64)×(Bool)×Unit)×Unit)
def Ci:SE->Option Shape:=kn [(4,iZ)] none
def QO (a0:Int) (a2:Int) (a11:Int) (a23:List ((aa×(aa×(aa×Bool))))) (a24:Int) (a25:Int) (a29:Int) (c0_0:UInt64) (c0_1:UInt64) (c0_2:UInt64) (c0_3:UInt64) (c0_4:UInt64) (c0_5:UInt64) (c0_6:UInt64) (c0_7:UInt64) (c0_8:Bool) (c1:List ((aa×(aa×Bool)))) (c2_0:UInt64) (c2_1:UInt64) (c2_2:UInt64) (c2_3:UInt64) (c2_4:UInt64) (c2_5:UInt64) (c2_6:UInt64) (c2_7:UInt64) (c2_8:UInt64) (c2_9:UInt64) (c2_10:UInt64) (c2_11:UInt64) (c2_12:Bool):OT (Sum aL aQ):=
 let z0:Bool:=inR (a29+(1:Int))
 (.br (decide (a29<(4:Int)))
 (gd [inR (a2+a29)] (.br (ny {w0:=c2_0,w1:=c2_1,w2:=c2_2,w3:=c2_3} (a2+a29))
  (gd [decide ((0:Int)<=a29),z0] (.ok (.inl ((a0,(a2,((),((),((),(ior a11 (aed (1:Int) a29),(a23,(a24,(a25,(a29+(1:Int),())))))))))),((c0_0,(c0_1,(c0_2,(c0_3,(c0_4,(c0_5,(c0_6,(c0_7,(c0_8,()))))))))),(c1,((c2_0,(c2_1,(c2_2,(c2_3,(c2_4,(c2_5,(c2_6,(c2_7,(c2_8,(c2_9,(c2_10,(c2_11,(c2_12,()))))))))))))),())))))))
  (gd [z0] (.ok (.inl ((a0,(a2,((),((),((),(a11,(a23,(a24,(a25,(a29+(1:Int),())))))))))),((c0_0,(c0_1,(c0_2,(c0_3,(c0_4,(c0_5,(c0_6,(c0_7,(c0_8,()))))))))),(c1,((c2_0,(c2_1,(c2_2,(c2_3,(c2_4,(c2_5,(c2_6,(c2_7,(c2_8,(c2_9,(c2_10,(c2_11,(c2_12,()))))))))))))),())))))))))
 (.ok (.inr ⟨(.exit 4,iZ),((a0,(a2,((),((),((),(a11,(a23,(a24,(a25,()))))))))),((c0_0,(c0_1,(c0_2,(c0_3,(c0_4,(c0_5,(c0_6,(c0_7,(c0_8,()))))))))),(c1,((c2_0,(c2_1,(c2_2,(c2_3,(c2_4,(c2_5,(c2_6,(c2_7,(c2_8,(c2_9,(c2_10,(c2_11,(c2_12,()))))))))))))),()))))⟩)))
def jZ (s:aL):OT (Sum aL aQ):=QO (s.1.1) (s.1.2.1) (s.1.2.2.2.2.2.1) (s.1.2.2.2.2.2.2.1) (s.1.2.2.2.2.2.2.2.1) (s.1.2.2.2.2.2.2.2.2.1) (s.1.2.2.2.2.2.2.2.2.2.1) (s.2.1.1) (s.2.1.2.1) (s.2.1.2.2.1) (s.2.1.2.2.2.1) (s.2.1.2.2.2.2.1) (s.2.1.2.2.2.2.2.1) (s.2.1.2.2.2.2.2.2.1) (s.2.1.2.2.2.2.2.2.2.1) (s.2.1.2.2.2.2.2.2.2.2.1) (s.2.2.1) (s.2.2.2.1.1) (s.2.2.2.1.2.1) (s.2.2.2.1.2.2.1) (s.2.2.2.1.2.2.2.1) (s.2.2.2.1.2.2.2.2.1) (s.2.2.2.1.2.2.2.2.2.1) (s.2.2.2.1.2.2.2.2.2.2.1) (s.2.2.2.1.2.2.2.2.2.2.2.1) (s.2.2.2.1.2.2.2.2.2.2.2.2.1) (s.2.2.2.1.2.2.2.2.2.2.2.2.2.1) (s.2.2.2.1.2.2.2.2.2.2.2.2.2.2.1) (s.2.2.2.1.2.2.2.2.2.2.2.2.2.2.2.1) (s.2.2.2.1.2.2.2.2.2.2.2.2.2.2.2.2.1)
theorem QF (s:aL) (Q:Sum aL aQ->Prop):wps te vA az 1000 (bL (bL (ao Tryz.f162) 2) 4) (jV.inj s) (df jV Ci (Q:Sum jV.T aQ->Prop))=(jZ s).wpR Q:=by kernel_rfl
def mP (g4_4:aL->ck) (s:aL):OT aQ:=(.ok ⟨(.exit 4,iZ),g4_4 s⟩)
def ja:Shape:=⟨74,[(0,.val false .int),(6,.ptr 0 0 0),(7,.ptr 1 0 0)],[(0,.cells [.val false .u64,.val false .u64,.val false .u64,.val false .u64,.val false .u64,.val false .u64,.val false .u64,.val false .u64,.val false .bool]),(1,.row (.prod .elem (.prod .elem .bool)))],0,true⟩
abbrev ez:Type:=((Int)×(Unit)×(Unit)×Unit)×(((UInt64)×(UInt64)×(UInt64)×(UInt64)×(UInt64)×(UInt64)×(UInt64)×(UInt64)×(Bool)×Unit)×(List ((aa×(aa×Bool))))×Unit)
def Cj:SE->Option Shape:=kn [(2,ja)] none
def Co (ok4:aL->Bool) (g4_4:aL->ck) (a0:Int) (a2:Int) (a23:List ((aa×(aa×(aa×Bool))))) (a24:Int) (a25:Int) (c0_0:UInt64) (c0_1:UInt64) (c0_2:UInt64) (c0_3:UInt64) (c0_4:UInt64) (c0_5:UInt64) (c0_6:UInt64) (c0_7:UInt64) (c0_8:Bool) (c1:List ((aa×(aa×Bool)))):OT (Sum bf aQ):=
 let z0:aa:= {w0:=0,w1:=0,w2:=0,w3:=0}
 let z1:aa×aa×Bool:=(z0,z0,false)
 let z2:aa×aa×aa×Bool:=List.getD a23 (Int.toNat a25) (z0,z1)
 let z3:=z2.fst
 let z4:=z2.snd
 let z5:=z4.fst
 let z6:=z4.snd
 let z7:=z6.fst
 let z8:(Int×Int×PUnit×PUnit×PUnit×Int×List (aa×aa×aa×Bool)×Int×Int×Int×PUnit)×(UInt64×UInt64×UInt64×UInt64×UInt64×UInt64×UInt64×UInt64×Bool×PUnit)×List (aa×aa×Bool)×(UInt64×UInt64×UInt64×UInt64×UInt64×UInt64×UInt64×UInt64×UInt64×UInt64×UInt64×UInt64×Bool×PUnit)×PUnit:=((a0,a2,(),(),(),(0:Int),a23,a24,a25,(0:Int),()),(c0_0,c0_1,c0_2,c0_3,c0_4,c0_5,c0_6,c0_7,c0_8,()),c1,(z3.w0,z3.w1,z3.w2,z3.w3,z5.w0,z5.w1,z5.w2,z5.w3,z7.w0,z7.w1,z7.w2,z7.w3,z6.snd,()),())
 let z9:(Int×Int×PUnit×PUnit×PUnit×Int×List (aa×aa×aa×Bool)×Int×Int×PUnit)×(UInt64×UInt64×UInt64×UInt64×UInt64×UInt64×UInt64×UInt64×Bool×PUnit)×List (aa×aa×Bool)×(UInt64×UInt64×UInt64×UInt64×UInt64×UInt64×UInt64×UInt64×UInt64×UInt64×UInt64×UInt64×Bool×PUnit)×PUnit:=g4_4 z8
 let z10:=z9.fst
 let z11:=z10.snd
 let z12:=z11.snd.snd.snd.snd
 let z13:=z12.fst
 let z14:Bool:=inR (z13-(1:Int))
 let z15:Bool:=inB (z13-(1:Int)) 15
 let z16:=z9.snd
 let z17:=z16.snd
 let z18:=z17.fst
 let z19:Bool:=decide (Int.toNat (z13-(1:Int))+0<List.length z18)
 let z20:=z12.snd
 let z21:=z20.snd
 let z22:Bool:=inR (z21.snd.fst+(1:Int))
 let z23:=z10.fst
 let z24:=z11.fst
 let z25:=z20.fst
 let z26:=z21.fst
 let z27:=z16.fst
 let z28:=z27.fst
 let z29:=z27.snd
 let z30:=z29.fst
 let z31:=z29.snd
 let z32:=z31.fst
 let z33:=z31.snd
 let z34:=z33.fst
 let z35:=z33.snd
 let z36:=z35.fst
 let z37:=z35.snd
 let z38:=z37.fst
 let z39:=z37.snd
 let z40:=z39.fst
 let z41:=z39.snd
 let z42:=z41.fst
 let z43:=z41.snd.fst
 let z44:=z17.snd.fst.snd.snd.snd.snd
 let z45:=z44.snd
 let z46:=z45.snd
 let z47:=z46.snd
 let z48:=z47.snd
 let z49:=z48.snd
 let z50:=z49.snd
 let z51:=z50.snd
 (.br (decide (a25<a24))
 (gd [inB a25 (List.length a23),ok4 z8] (.br (decide ((0:Int)<z13))
  (gd [z14,z14,z15,z19,z15,z19,z22] (.ok (.inl ((z23,(z24,((),((),(z25,(z26,(z21.snd.fst+(1:Int),()))))))),((z28,(z30,(z32,(z34,(z36,(z38,(z40,(z42,(z43,()))))))))),(List.set z18 (Int.toNat (z13-(1:Int))+0) (ek z23 (List.getD z18 (Int.toNat (z13-(1:Int))+0) z1) ({w0:=z44.fst,w1:=z45.fst,w2:=z46.fst,w3:=z47.fst},{w0:=z48.fst,w1:=z49.fst,w2:=z50.fst,w3:=z51.fst},z51.snd.fst)),()))))))
  (gd [z22] (.ok (.inl ((z23,(z24,((),((),(z25,(z26,(z21.snd.fst+(1:Int),()))))))),((z28,(z30,(z32,(z34,(z36,(z38,(z40,(z42,(z43,()))))))))),(z18,()))))))))
 (.ok (.inr ⟨(.exit 2,ja),((a0,((),((),()))),((c0_0,(c0_1,(c0_2,(c0_3,(c0_4,(c0_5,(c0_6,(c0_7,(c0_8,()))))))))),(c1,())))⟩)))
def fH (ok4:aL->Bool) (g4_4:aL->ck) (s:bf):OT (Sum bf aQ):=Co ok4 g4_4 (s.1.1) (s.1.2.1) (s.1.2.2.2.2.1) (s.1.2.2.2.2.2.1) (s.1.2.2.2.2.2.2.1) (s.2.1.1) (s.2.1.2.1) (s.2.1.2.2.1) (s.2.1.2.2.2.1) (s.2.1.2.2.2.2.1) (s.2.1.2.2.2.2.2.1) (s.2.1.2.2.2.2.2.2.1) (s.2.1.2.2.2.2.2.2.2.1) (s.2.1.2.2.2.2.2.2.2.2.1) (s.2.2.1)
theorem QG (ok4:aL->Bool) (g4_4:aL->ck) (s:bf) (Q:Sum bf aQ->Prop):wps te vA (bn 4 (dC jV 4 ok4 (mP g4_4)) az) 1000 (bL (ao Tryz.f162) 2) (jW.inj s) (df jW Cj (Q:Sum jW.T aQ->Prop))=(fH ok4 g4_4 s).wpR Q:=by kernel_rfl
def mQ (g2_2:bf->ez) (s:bf):OT aQ:=(.ok ⟨(.exit 2,ja),g2_2 s⟩)
def jU:Shape:=⟨74,[(0,.val false .int),(6,.ptr 0 0 0),(7,.ptr 1 0 0),(13,.ptr 2 0 0),(14,.ptr 3 0 0),(15,.val false .int)],[(0,.cells [.val false .u64,.val false .u64,.val false .u64,.val false .u64,.val false .u64,.val false .u64,.val false .u64,.val false .u64,.val false .bool]),(1,.row (.prod .elem (.prod .elem .bool))),(2,.cells [.val false .u64,.val false .u64,.val false .u64,.val false .u64,.val false .u64,.val false .u64,.val false .u64,.val false .u64,.val false .bool]),(3,.cells [.val false .u64,.val false .u64,.val false .u64,.val false .u64,.val false .u64,.val false .u64,.val false .u64,.val false .u64,.val false .bool])],0,true⟩
abbrev be:Type:=((Int)×(Unit)×(Unit)×(Unit)×(Unit)×(Int)×Unit)×(((UInt64)×(UInt64)×(UInt64)×(UInt64)×(UInt64)×(UInt64)×(UInt64)×(UInt64)×(Bool)×Unit)×(List ((aa×(aa×Bool))))×((UInt64)×(UInt64)×(UInt64)×(UInt64)×(UInt64)×(UInt64)×(UInt64)×(UInt64)×(Bool)×Unit)×((UInt64)×(UInt64)×(UInt64)×(UInt64)×(UInt64)×(UInt64)×(UInt64)×(UInt64)×(Bool)×Unit)×Unit)
def iY:Shape:=⟨74,[(6,.ptr 0 0 0),(14,.ptr 1 0 0)],[(0,.cells [.val false .u64,.val false .u64,.val false .u64,.val false .u64,.val false .u64,.val false .u64,.val false .u64,.val false .u64,.val false .bool]),(1,.cells [.val false .u64,.val false .u64,.val false .u64,.val false .u64,.val false .u64,.val false .u64,.val false .u64,.val false .u64,.val false .bool])],0,true⟩
abbrev eu:Type:=((Unit)×(Unit)×Unit)×(((UInt64)×(UInt64)×(UInt64)×(UInt64)×(UInt64)×(UInt64)×(UInt64)×(UInt64)×(Bool)×Unit)×((UInt64)×(UInt64)×(UInt64)×(UInt64)×(UInt64)×(UInt64)×(UInt64)×(UInt64)×(Bool)×Unit)×Unit)
def Cg:SE->Option Shape:=kn [(6,iY)] none
def QN (a0:Int) (a15:Int) (c0_0:UInt64) (c0_1:UInt64) (c0_2:UInt64) (c0_3:UInt64) (c0_4:UInt64) (c0_5:UInt64) (c0_6:UInt64) (c0_7:UInt64) (c0_8:Bool) (c1:List ((aa×(aa×Bool)))) (c2_0:UInt64) (c2_1:UInt64) (c2_2:UInt64) (c2_3:UInt64) (c2_4:UInt64) (c2_5:UInt64) (c2_6:UInt64) (c2_7:UInt64) (c2_8:Bool) (c3_0:UInt64) (c3_1:UInt64) (c3_2:UInt64) (c3_3:UInt64) (c3_4:UInt64) (c3_5:UInt64) (c3_6:UInt64) (c3_7:UInt64) (c3_8:Bool):OT (Sum be aQ):=
 let z0:aa:= {w0:=0,w1:=0,w2:=0,w3:=0}
 let z1:aa×aa×Bool:=ek a0 ({w0:=c2_0,w1:=c2_1,w2:=c2_2,w3:=c2_3},{w0:=c2_4,w1:=c2_5,w2:=c2_6,w3:=c2_7},c2_8) (List.getD c1 (Int.toNat a15+0) (z0,z0,false))
 let z2:=z1.fst
 let z3:=z1.snd
 let z4:=z3.fst
 let z5:aa×aa×Bool:=ek a0 ({w0:=c3_0,w1:=c3_1,w2:=c3_2,w3:=c3_3},{w0:=c3_4,w1:=c3_5,w2:=c3_6,w3:=c3_7},c3_8) z1
 let z6:=z5.fst
 let z7:=z5.snd
 let z8:=z7.fst
 (.br (decide ((0:Int)<=a15))
 (gd [inB a15 15,decide (Int.toNat a15+0<List.length c1),inR (a15-(1:Int))] (.ok (.inl ((a0,((),((),((),((),(a15-(1:Int),())))))),((c0_0,(c0_1,(c0_2,(c0_3,(c0_4,(c0_5,(c0_6,(c0_7,(c0_8,()))))))))),(c1,((z2.w0,(z2.w1,(z2.w2,(z2.w3,(z4.w0,(z4.w1,(z4.w2,(z4.w3,(z3.snd,()))))))))),((z6.w0,(z6.w1,(z6.w2,(z6.w3,(z8.w0,(z8.w1,(z8.w2,(z8.w3,(z7.snd,()))))))))),()))))))))
 (.ok (.inr ⟨(.exit 6,iY),(((),((),())),((c0_0,(c0_1,(c0_2,(c0_3,(c0_4,(c0_5,(c0_6,(c0_7,(c0_8,()))))))))),((c3_0,(c3_1,(c3_2,(c3_3,(c3_4,(c3_5,(c3_6,(c3_7,(c3_8,()))))))))),())))⟩)))
def jY (s:be):OT (Sum be aQ):=QN (s.1.1) (s.1.2.2.2.2.2.1) (s.2.1.1) (s.2.1.2.1) (s.2.1.2.2.1) (s.2.1.2.2.2.1) (s.2.1.2.2.2.2.1) (s.2.1.2.2.2.2.2.1) (s.2.1.2.2.2.2.2.2.1) (s.2.1.2.2.2.2.2.2.2.1) (s.2.1.2.2.2.2.2.2.2.2.1) (s.2.2.1) (s.2.2.2.1.1) (s.2.2.2.1.2.1) (s.2.2.2.1.2.2.1) (s.2.2.2.1.2.2.2.1) (s.2.2.2.1.2.2.2.2.1) (s.2.2.2.1.2.2.2.2.2.1) (s.2.2.2.1.2.2.2.2.2.2.1) (s.2.2.2.1.2.2.2.2.2.2.2.1) (s.2.2.2.1.2.2.2.2.2.2.2.2.1) (s.2.2.2.2.1.1) (s.2.2.2.2.1.2.1) (s.2.2.2.2.1.2.2.1) (s.2.2.2.2.1.2.2.2.1) (s.2.2.2.2.1.2.2.2.2.1) (s.2.2.2.2.1.2.2.2.2.2.1) (s.2.2.2.2.1.2.2.2.2.2.2.1) (s.2.2.2.2.1.2.2.2.2.2.2.2.1) (s.2.2.2.2.1.2.2.2.2.2.2.2.2.1)
theorem QE (s:be) (Q:Sum be aQ->Prop):wps te vA az 1000 (bL (ao Tryz.f162) 6) (jU.inj s) (df jU Cg (Q:Sum jU.T aQ->Prop))=(jY s).wpR Q:=by kernel_rfl
def mO (g6_6:be->eu) (s:be):OT aQ:=(.ok ⟨(.exit 6,iY),g6_6 s⟩)
def mM:ax:=⟨[.val true (.prod .elem (.prod .elem .bool))],[],false⟩
def yY:SV->Option ax:=λ_=>some mM
def lO (ok0:bg->Bool) (g0_0:bg->eA) (ok4:aL->Bool) (g4_4:aL->ck) (ok2:bf->Bool) (g2_2:bf->ez) (ok6:be->Bool) (g6_6:be->eu) (a0:Int) (a1:List ((aa×(aa×(aa×Bool))))) (a2:Int):OT dJ.Y:=
 let z0:aa:= {w0:=0,w1:=0,w2:=0,w3:=0}
 let z1:aa×aa×Bool:=(z0,z0,false)
 let z2:(Int×List (aa×aa×aa×Bool)×Int×PUnit×PUnit×Int×PUnit)×(UInt64×UInt64×UInt64×UInt64×UInt64×UInt64×UInt64×UInt64×Bool×PUnit)×List (aa×aa×Bool)×PUnit:=((a0,a1,a2,(),(),(0:Int),()),((0:UInt64),(0:UInt64),(0:UInt64),(0:UInt64),(0:UInt64),(0:UInt64),(0:UInt64),(0:UInt64),false,()),[z1,z1,z1,z1,z1,z1,z1,z1,z1,z1,z1,z1,z1,z1,z1],())
 let z3:(Int×List (aa×aa×aa×Bool)×Int×PUnit×PUnit×PUnit)×(UInt64×UInt64×UInt64×UInt64×UInt64×UInt64×UInt64×UInt64×Bool×PUnit)×List (aa×aa×Bool)×PUnit:=g0_0 z2
 let z4:=z3.fst
 let z5:=z4.snd
 let z6:=z5.fst
 let z7:=z3.snd
 let z8:=z7.fst
 let z9:=z8.snd
 let z10:=z9.snd
 let z11:=z10.snd
 let z12:=z11.snd
 let z13:=z12.snd
 let z14:=z13.snd
 let z15:=z14.snd
 let z16:(Int×Int×PUnit×PUnit×List (aa×aa×aa×Bool)×Int×Int×PUnit)×(UInt64×UInt64×UInt64×UInt64×UInt64×UInt64×UInt64×UInt64×Bool×PUnit)×List (aa×aa×Bool)×PUnit:=((z4.fst,z5.snd.fst,(),(),z6,(↑(List.length z6):Int),(0:Int),()),(z8.fst,z9.fst,z10.fst,z11.fst,z12.fst,z13.fst,z14.fst,z15.fst,z15.snd.fst,()),z7.snd.fst,())
 let z17:(Int×PUnit×PUnit×PUnit)×(UInt64×UInt64×UInt64×UInt64×UInt64×UInt64×UInt64×UInt64×Bool×PUnit)×List (aa×aa×Bool)×PUnit:=g2_2 z16
 let z18:=z17.snd
 let z19:=z18.fst
 let z20:=z19.snd
 let z21:=z20.snd
 let z22:=z21.snd
 let z23:=z22.snd
 let z24:=z23.snd
 let z25:=z24.snd
 let z26:=z25.snd
 let z27:UInt64×UInt64×UInt64×UInt64×UInt64×UInt64×UInt64×UInt64×Bool×PUnit:=((0:UInt64),(0:UInt64),(0:UInt64),(0:UInt64),(0:UInt64),(0:UInt64),(0:UInt64),(0:UInt64),true,())
 let z28:(Int×PUnit×PUnit×PUnit×PUnit×Int×PUnit)×(UInt64×UInt64×UInt64×UInt64×UInt64×UInt64×UInt64×UInt64×Bool×PUnit)×List (aa×aa×Bool)×(UInt64×UInt64×UInt64×UInt64×UInt64×UInt64×UInt64×UInt64×Bool×PUnit)×(UInt64×UInt64×UInt64×UInt64×UInt64×UInt64×UInt64×UInt64×Bool×PUnit)×PUnit:=((z17.fst.fst,(),(),(),(),(14:Int),()),(z19.fst,z20.fst,z21.fst,z22.fst,z23.fst,z24.fst,z25.fst,z26.fst,z26.snd.fst,()),z18.snd.fst,z27,z27,())
 let z29:=(g6_6 z28).snd.snd.fst
 let z30:=z29.snd
 let z31:=z30.snd
 let z32:=z31.snd
 let z33:=z32.snd
 let z34:=z33.snd
 let z35:=z34.snd
 let z36:=z35.snd
 (gd [ok0 z2,ok2 z16,ok6 z28] (.ok ⟨mM,((({w0:=z29.fst,w1:=z30.fst,w2:=z31.fst,w3:=z32.fst},{w0:=z33.fst,w1:=z34.fst,w2:=z35.fst,w3:=z36.fst},z36.snd.fst),()),())⟩))
theorem YL (ok0:bg->Bool) (g0_0:bg->eA) (ok4:aL->Bool) (g4_4:aL->ck) (ok2:bf->Bool) (g2_2:bf->ez) (ok6:be->Bool) (g6_6:be->eu) (x:lP) (Q:dJ.Y->Prop):wpf te vA (bn 6 (dC jU 6 ok6 (mO g6_6)) (bn 2 (dC jW 2 ok2 (mQ g2_2)) (bn 0 (dC jX 0 ok0 (mR g0_0)) az))) 1000 Tryz.f162 (dJ.inp.inj x).tm (dJ.inp.inj x).hp (fnK dJ yY Q) (λ_ _=>False)=(lO ok0 g0_0 ok4 g4_4 ok2 g2_2 ok6 g6_6 (x.1.1) (x.1.2.1) (x.1.2.2.1)).wpR Q:=by kernel_rfl
theorem I0 (ok0:bg->Bool) (g0_0:bg->eA) (ok4:aL->Bool) (g4_4:aL->ck) (ok2:bf->Bool) (g2_2:bf->ez) (ok6:be->Bool) (g6_6:be->eu) (h0:∀ s:bg,ok0 s=true->∃ m e,av (j0) m s=some e/\(mR g0_0 s).run=some e) (h4:∀ s:aL,ok4 s=true->∃ m e,av (jZ) m s=some e/\(mP g4_4 s).run=some e) (h2:∀ s:bf,ok2 s=true->∃ m e,av (fH ok4 g4_4) m s=some e/\(mQ g2_2 s).run=some e) (h6:∀ s:be,ok6 s=true->∃ m e,av (jY) m s=some e/\(mO g6_6 s).run=some e) (pre:lP->Bool) (F:lP->OT dJ.Y) (hF:∀ (x:lP) oy,pre x=true->(F x).run=some oy->(lO ok0 g0_0 ok4 g4_4 ok2 g2_2 ok6 g6_6 (x.1.1) (x.1.2.1) (x.1.2.2.1)).run=some oy):ac Tryz.prog 162 (dJ.aI pre F):=
 aE au kk mi (f:=162) (fn:=Tryz.f162) (c:=ao Tryz.f162) (by kernel_rfl) (by kernel_rfl) (by kernel_rfl) (S:=dJ) (k:=0) (by kernel_rfl) (λR hR=>(aH (c:=(ao Tryz.f162)) (by kernel_rfl) (id:=6) (by kernel_rfl) (bz au kk mi (sh:=jU) hR (xs:=Cg) (aJ (by kernel_rfl) (by kernel_rfl) hR) aY ag (n:=1000) (T:=jY) (λs Q=>QE s Q) (ok:=ok6) (f:=mO g6_6) h6) (aH (c:=(ao Tryz.f162)) (by kernel_rfl) (id:=2) (by kernel_rfl) (bz au kk mi (sh:=jW) hR (xs:=Cj) (aJ (by kernel_rfl) (by kernel_rfl) hR) aY (aH (c:=(bL (ao Tryz.f162) 2)) (by kernel_rfl) (id:=4) (by kernel_rfl) (bz au kk mi (sh:=jV) hR (xs:=Ci) (aJ (by kernel_rfl) (by kernel_rfl) hR) aY ag (n:=1000) (T:=jZ) (λs Q=>QF s Q) (ok:=ok4) (f:=mP g4_4) h4) ag) (n:=1000) (T:=fH ok4 g4_4) (λs Q=>QG ok4 g4_4 s Q) (ok:=ok2) (f:=mQ g2_2) h2) (aH (c:=(ao Tryz.f162)) (by kernel_rfl) (id:=0) (by kernel_rfl) (bz au kk mi (sh:=jX) hR (xs:=Ck) (aJ (by kernel_rfl) (by kernel_rfl) hR) aY ag (n:=1000) (T:=j0) (λs Q=>QH s Q) (ok:=ok0) (f:=mR g0_0) h0) ag)))) (n:=1000) (sel:=yY) (λv o h=>by cases h;rfl) (pre:=pre) (F:=F) (T:=λx=>lO ok0 g0_0 ok4 g4_4 ok2 g2_2 ok6 g6_6 (x.1.1) (x.1.2.1) (x.1.2.2.1)) (λx Q=>YL ok0 g0_0 ok4 g4_4 ok2 g2_2 ok6 g6_6 x Q) hF
abbrev C13:Type:=UInt64×UInt64×UInt64×UInt64×UInt64×UInt64×UInt64×UInt64×UInt64×UInt64×UInt64×UInt64×Bool×Unit
def Ws (t:Tm):C13:=(t.1.w0,t.1.w1,t.1.w2,t.1.w3,t.2.1.w0,t.2.1.w1,t.2.1.w2,t.2.1.w3,t.2.2.1.w0,t.2.2.1.w1,t.2.2.1.w2,t.2.2.1.w3,t.2.2.2,())
theorem US {α:Type} (x:α) (l:List α):∀ n,n<=l.length->upto (λk (o:List α)=>o.set k x) l n=List.replicate n x++l.drop n
 |0,_=>rfl
 |n+1,h=>by
  show (upto (λk (o:List α)=>o.set k x) l n).set n x=_
  rw [US x l n (by omega),List.set_append_right _ _ (by rw [List.length_replicate];omega),List.length_replicate,Nat.sub_self,List.drop_eq_getElem_cons (by omega),List.set_cons_zero,List.replicate_succ',List.append_assoc]
  rfl
def y6 (s:bg):Bool:=decide (s.1.2.2.2.2.2.1=0/\s.2.2.1.length=15)
def Cn (s:bg):eA:=((s.1.1,s.1.2.1,s.1.2.2.1,(),(),()),(s.2.1,List.replicate 15 aC,()))
theorem QM:∀ s:bg,y6 s=true->∃ m e,av j0 m s=some e/\(mR Cn s).run=some e:=by
 rintro ⟨⟨c,l,at',⟨⟩,⟨⟩,i,⟨⟩⟩,⟨c0,S,⟨⟩⟩⟩ h
 have h':=of_decide_eq_true h
 dsimp only at h'
 obtain ⟨rfl,hS⟩:=h'
 have:=(bP (T:=j0) (λi o=>(((c,l,at',(),(),(i:Int),()),(c0,o,())):bg)) (λk (o:List Pt)=>o.set k aC)
  (λo=>(⟨(.exit 0,jb),((c,l,at',(),(),()),(c0,o,()))⟩:aQ)) 15 S (λ_ o=>o.length=15) hS (λk o hk ho=>⟨?_,(List.length_set ..).trans ho⟩) (λo ho=> ?_)).1
 ·obtain ⟨m,hm⟩:=this
  rw [US aC S 15 (by omega),List.drop_eq_nil_of_le (by omega),List.append_nil] at hm
  exact ⟨m,_,hm,rfl⟩
 ·refine (OT.ap (decide_eq_true (by dsimp only;omega))).trans ((al ?_).trans ?_)
  ·simp only [ho,Int.toNat_natCast,Nat.add_zero,List.all_cons,List.all_nil,Bool.and_true,Bool.and_eq_true]
   exact ⟨bG (by omega),decide_eq_true (by omega),bF (by omega)⟩
  ·simp only [OT.kq,Int.toNat_natCast,Nat.add_zero]
   rfl
 ·exact OT.ay (decide_eq_false (by dsimp only;omega))
def oZ (k:aa) (a:Int) (n:Nat) (d:Int):Int:=cond (ny k (a+(n:Int))) (ior d (aed 1 (n:Int))) d
def Nk (k:aa) (a:Int):Int:=upto (oZ k a) 0 4
def als (b:Bool):Int:=cond b 1 0
theorem afe (k:aa) (a:Int):Nk k a=als (ny k a)+2*als (ny k (a+1))+4*als (ny k (a+2))+8*als (ny k (a+3)):=by
 have e0:a+((0:Nat):Int)=a:=by omega
 show oZ k a 3 (oZ k a 2 (oZ k a 1 (oZ k a 0 0)))=_
 unfold oZ
 rw [e0,show a+((1:Nat):Int)=a+1 by omega,show a+((2:Nat):Int)=a+2 by omega,show a+((3:Nat):Int)=a+3 by omega]
 generalize ny k a=b0
 generalize ny k (a+1)=b1
 generalize ny k (a+2)=b2
 generalize ny k (a+3)=b3
 cases b0<;>cases b1<;>cases b2<;>cases b3<;>decide+kernel
theorem afd (k:aa) (a:Int):0<=Nk k a/\Nk k a<=15:=by
 rw [afe]
 have h:∀ b,0<=als b/\als b<=1:=λb=>by cases b<;>decide
 have h0:=h (ny k a)
 have h1:=h (ny k (a+1))
 have h2:=h (ny k (a+2))
 have h3:=h (ny k (a+3))
 omega
def RI (c at' d:Int) (l:List Tm) (n i:Int) (b:Int) (c0:C9) (S:List Pt) (t:C13):aL:=((c,at',(),(),(),d,l,n,i,b,()),(c0,S,t,()))
def keyOf (t:C13):aa:=⟨t.1,t.2.1,t.2.2.1,t.2.2.2.1⟩
def kH (s:aL):Bool:=decide (s.1.2.2.2.2.2.1=0/\s.1.2.2.2.2.2.2.2.2.2.1=0/\0<=s.1.2.1/\s.1.2.1<=1000)
def mN (s:aL):ck:=((s.1.1,s.1.2.1,(),(),(),Nk (keyOf s.2.2.2.1) s.1.2.1,s.1.2.2.2.2.2.2.1,s.1.2.2.2.2.2.2.2.1,s.1.2.2.2.2.2.2.2.2.1,()),s.2)
theorem QK:∀ s:aL,kH s=true->∃ m e,av jZ m s=some e/\(mP mN s).run=some e:=by
 rintro ⟨⟨c,at',⟨⟩,⟨⟩,⟨⟩,d,l,n,i,b,⟨⟩⟩,⟨c0,S,t,⟨⟩⟩⟩ h
 have h':=of_decide_eq_true h
 dsimp only at h'
 obtain ⟨rfl,rfl,ha0,ha1⟩:=h'
 have:=(bP (T:=jZ) (λb d=>(((c,at',(),(),(),d,l,n,i,(b:Int),()),(c0,S,t,())):aL)) (oZ (keyOf t) at')
  (λd=>(⟨(.exit 4,iZ),((c,at',(),(),(),d,l,n,i,()),(c0,S,t,()))⟩:aQ)) 4 0 (λ_ _=>True) trivial (λk d hk _=>⟨?_,trivial⟩) (λd _=> ?_)).1
 ·obtain ⟨m,hm⟩:=this
  exact ⟨m,_,hm,rfl⟩
 ·have hr:inR ((k:Int)+1)=true:=bF (by omega)
  have hgr:∀ z:OT (Sum aL aQ),(gd [inR ((k:Int)+1)] z).run=z.run:=λz=>al (by rw [hr];rfl)
  refine (OT.ap (decide_eq_true (by dsimp only;omega))).trans ((al ?_).trans ?_)
  ·simp only [List.all_cons,List.all_nil,Bool.and_true]
   exact bF (by omega)
  ·unfold oZ
   rcases (Bool.eq_false_or_eq_true (ny (keyOf t) (at'+(k:Int)))).symm with hb|hb
   ·rw [hb]
    exact (OT.ay hb).trans ((hgr _).trans rfl)
   ·rw [hb]
    refine (OT.ap hb).trans ((al ?_).trans rfl)
    simp only [List.all_cons,List.all_nil,Bool.and_true,Bool.and_eq_true]
    exact ⟨decide_eq_true (by omega),hr⟩
 ·exact OT.ay (decide_eq_false (by dsimp only;omega))
def dE (c a:Int) (l:List Tm) (k:Nat) (S:List Pt):List Pt:=cond (decide (0<Nk (l.getD k iK).1 a))
 (S.set (Nk (l.getD k iK).1 a-1).toNat (ek c (S.getD (Nk (l.getD k iK).1 a-1).toNat gQ) (l.getD k iK).2)) S
theorem kc (c a:Int) (l:List Tm) (k:Nat) (S:List Pt):(dE c a l k S).length=S.length:=by
 unfold dE
 cases decide (0<Nk (l.getD k iK).1 a)
 ·rfl
 ·exact List.length_set ..
def am1 (c a:Int) (l:List Tm) (S:List Pt):List Pt:=upto (dE c a l) S l.length
def y0 (s:bf):Bool:=decide (s.1.2.2.2.2.2.1=(s.1.2.2.2.2.1.length:Int)/\s.1.2.2.2.2.2.2.1=0/\s.2.2.1.length=15/\(0<=s.1.2.1/\s.1.2.1<=1000)/\s.1.2.2.2.2.1.length<=140737488355328)
def Cm (s:bf):ez:=((s.1.1,(),(),()),(s.2.1,am1 s.1.1 s.1.2.1 s.1.2.2.2.2.1 s.2.2.1,()))
theorem aoU {ok4:aL->Bool} {g4:aL->ck} {c a:Int} {l:List Tm} {k:Nat} {c0:C9} {S:List Pt} {t:Tm} {d:Int} (ht:l.getD k iK=t) (hk:k<l.length) (hl:l.length<=140737488355328) (hS:S.length=15) (hd:0<=d/\d<=15)
 (h4:ok4 (RI c a 0 l (l.length:Int) (k:Int) 0 c0 S (Ws t))=true)
 (e4:g4 (RI c a 0 l (l.length:Int) (k:Int) 0 c0 S (Ws t))=((c,a,(),(),(),d,l,(l.length:Int),(k:Int),()),(c0,S,Ws t,()))):
 (fH ok4 g4 ((c,a,(),(),l,(l.length:Int),(k:Int),()),(c0,S,()))).run=some (.inl ((c,a,(),(),l,(l.length:Int),((k+1:Nat):Int),()),(c0,cond (decide (0<d)) (S.set (d-1).toNat (ek c (S.getD (d-1).toNat gQ) t.2)) S,()))):=by
 have hr:inR ((k:Int)+1)=true:=bF (by omega)
 unfold RI at h4 e4
 unfold fH Co
 have ht':List.getD l (Int.toNat (k:Int)) (⟨0,0,0,0⟩,⟨0,0,0,0⟩,⟨0,0,0,0⟩,false)=t:=by rw [Int.toNat_natCast];exact ht
 simp only [ht']
 refine (OT.ap (decide_eq_true (by omega))).trans ((al ?_).trans ?_)
 ·simp only [List.all_cons,List.all_nil,Bool.and_true,Bool.and_eq_true]
  exact ⟨bG (by omega),h4⟩
 ·have e4':g4 ((c,a,(),(),(),0,l,(l.length:Int),(k:Int),0,()),(c0.1,c0.2.1,c0.2.2.1,c0.2.2.2.1,c0.2.2.2.2.1,c0.2.2.2.2.2.1,c0.2.2.2.2.2.2.1,c0.2.2.2.2.2.2.2.1,c0.2.2.2.2.2.2.2.2.1,()),S,(t.1.w0,t.1.w1,t.1.w2,t.1.w3,t.2.1.w0,t.2.1.w1,t.2.1.w2,t.2.1.w3,t.2.2.1.w0,t.2.2.1.w1,t.2.2.1.w2,t.2.2.1.w3,t.2.2.2,()),())=((c,a,(),(),(),d,l,(l.length:Int),(k:Int),()),(c0,S,Ws t,())):=e4
  simp only [e4']
  by_cases h0:0<d
  ·rw [decide_eq_true h0]
   refine (OT.ap rfl).trans ((al ?_).trans ?_)
   ·simp only [hS,Nat.add_zero,hr,List.all_cons,List.all_nil,Bool.and_true,Bool.and_eq_true]
    have i1:inR (d-1)=true:=bF (by omega)
    have i2:inB (d-1) 15=true:=bG (by omega)
    have i3:decide ((d-1).toNat<15)=true:=decide_eq_true (by omega)
    exact ⟨i1,i1,i2,i3,i2,i3⟩
   ·rfl
  ·rw [decide_eq_false h0]
   refine (OT.ay rfl).trans ((al ?_).trans rfl)
   simp only [hr,List.all_cons,List.all_nil,Bool.and_true]
theorem QL:∀ s:bf,y0 s=true->∃ m e,av (fH kH mN) m s=some e/\(mQ Cm s).run=some e:=by
 rintro ⟨⟨c,at',⟨⟩,⟨⟩,l,n,i,⟨⟩⟩,⟨c0,S,⟨⟩⟩⟩ h
 have h':=of_decide_eq_true h
 dsimp only at h'
 obtain ⟨rfl,rfl,hS,⟨ha0,ha1⟩,hl⟩:=h'
 have:=(bP (T:=fH kH mN) (λi o=>(((c,at',(),(),l,(l.length:Int),(i:Int),()),(c0,o,())):bf)) (dE c at' l)
  (λo=>(⟨(.exit 2,ja),((c,(),(),()),(c0,o,()))⟩:aQ)) l.length S (λ_ o=>o.length=15) hS (λk o hk ho=>⟨?_,(kc c at' l k o).trans ho⟩) (λo ho=> ?_)).1
 ·obtain ⟨m,hm⟩:=this
  exact ⟨m,_,hm,rfl⟩
 ·exact aoU rfl hk hl ho (afd _ _) (decide_eq_true ⟨rfl,rfl,ha0,ha1⟩) rfl
 ·exact OT.ay (decide_eq_false (by dsimp only;omega))
def fj (c:Int) (S:List Pt) (n:Nat) (w:Pt×Pt):Pt×Pt:=(ek c w.1 (S.getD (14-n) gQ),ek c w.2 (ek c w.1 (S.getD (14-n) gQ)))
def aqZ (c:Int) (S:List Pt):Pt×Pt:=upto (fj c S) (aC,aC) 15
def yZ (s:be):Bool:=decide (s.1.2.2.2.2.2.1=14/\s.2.2.1.length=15/\k9 s.2.2.2.1=aC/\k9 s.2.2.2.2.1=aC)
def Cl (s:be):eu:=(((),(),()),(s.2.1,bm (aqZ s.1.1 s.2.2.1).2,()))
theorem QJ:∀ s:be,yZ s=true->∃ m e,av jY m s=some e/\(mO Cl s).run=some e:=by
 rintro ⟨⟨c,⟨⟩,⟨⟩,⟨⟩,⟨⟩,i,⟨⟩⟩,⟨c0,S,r,a,⟨⟩⟩⟩ h
 have h':=of_decide_eq_true h
 dsimp only at h'
 obtain ⟨rfl,hS,hr,ha⟩:=h'
 have hr2:r=bm aC:=by rw [<-hr];rfl
 have ha2:a=bm aC:=by rw [<-ha];rfl
 subst hr2 ha2
 have:=(bP (T:=jY) (λn w=>(((c,(),(),(),(),14-(n:Int),()),(c0,S,bm w.1,bm w.2,())):be)) (fj c S)
  (λw=>(⟨(.exit 6,iY),(((),(),()),(c0,bm w.2,()))⟩:aQ)) 15 (aC,aC) (λ_ _=>True) trivial (λn w hn _=>⟨?_,trivial⟩) (λw _=> ?_)).1
 ·obtain ⟨m,hm⟩:=this
  exact ⟨m,_,hm,rfl⟩
 ·have e1:((14:Int)-(n:Int)).toNat=14-n:=by omega
  have e2:(14:Int)-(n:Int)-1=14-((n+1:Nat):Int):=by omega
  refine (OT.ap (decide_eq_true (by dsimp only;omega))).trans ((al ?_).trans ?_)
  ·simp only [e1,hS,Nat.add_zero,List.all_cons,List.all_nil,Bool.and_true,Bool.and_eq_true]
   exact ⟨bG (by omega),decide_eq_true (by omega),bF (by omega)⟩
  ·rw [<-e2]
   simp only [OT.kq,e1,Nat.add_zero]
   rfl
 ·exact OT.ay (decide_eq_false (by dsimp only;omega))
def RJ (c:Int) (l:List Tm) (a:Int):Pt:=(aqZ c (am1 c a l (List.replicate 15 aC))).2
theorem I1 {ok4:aL->Bool} {g4:aL->ck} {ok0:bg->Bool} {g0:bg->eA} {ok2:bf->Bool} {g2:bf->ez} {ok6:be->Bool} {g6:be->eu} {c a:Int} {l:List Tm} {S0 S:List Pt} {R:Pt} {z:C9}
 (h0:ok0 ((c,l,a,(),(),0,()),(bm gQ,List.replicate 15 gQ,()))=true) (e0:g0 ((c,l,a,(),(),0,()),(bm gQ,List.replicate 15 gQ,()))=((c,l,a,(),(),()),(bm gQ,S0,())))
 (h2:ok2 ((c,a,(),(),l,(l.length:Int),0,()),(bm gQ,S0,()))=true) (e2:g2 ((c,a,(),(),l,(l.length:Int),0,()),(bm gQ,S0,()))=((c,(),(),()),(bm gQ,S,())))
 (h6:ok6 ((c,(),(),(),(),14,()),(bm gQ,S,bm aC,bm aC,()))=true) (e6:g6 ((c,(),(),(),(),14,()),(bm gQ,S,bm aC,bm aC,()))=(((),(),()),(z,bm R,()))):
 (lO ok0 g0 ok4 g4 ok2 g2 ok6 g6 c l a).run=some ⟨mM,((R,()),())⟩:=by
 have e0':g0 ((c,l,a,(),(),0,()),((0,0,0,0,0,0,0,0,false,()),[((⟨0,0,0,0⟩,⟨0,0,0,0⟩,false):Pt),((⟨0,0,0,0⟩,⟨0,0,0,0⟩,false):Pt),((⟨0,0,0,0⟩,⟨0,0,0,0⟩,false):Pt),((⟨0,0,0,0⟩,⟨0,0,0,0⟩,false):Pt),((⟨0,0,0,0⟩,⟨0,0,0,0⟩,false):Pt),((⟨0,0,0,0⟩,⟨0,0,0,0⟩,false):Pt),((⟨0,0,0,0⟩,⟨0,0,0,0⟩,false):Pt),((⟨0,0,0,0⟩,⟨0,0,0,0⟩,false):Pt),((⟨0,0,0,0⟩,⟨0,0,0,0⟩,false):Pt),((⟨0,0,0,0⟩,⟨0,0,0,0⟩,false):Pt),((⟨0,0,0,0⟩,⟨0,0,0,0⟩,false):Pt),((⟨0,0,0,0⟩,⟨0,0,0,0⟩,false):Pt),((⟨0,0,0,0⟩,⟨0,0,0,0⟩,false):Pt),((⟨0,0,0,0⟩,⟨0,0,0,0⟩,false):Pt),((⟨0,0,0,0⟩,⟨0,0,0,0⟩,false):Pt)],()))=((c,l,a,(),(),()),(bm gQ,S0,())):=e0
 have e2':g2 ((c,a,(),(),l,(l.length:Int),0,()),((bm gQ).1,(bm gQ).2.1,(bm gQ).2.2.1,(bm gQ).2.2.2.1,(bm gQ).2.2.2.2.1,(bm gQ).2.2.2.2.2.1,(bm gQ).2.2.2.2.2.2.1,(bm gQ).2.2.2.2.2.2.2.1,(bm gQ).2.2.2.2.2.2.2.2.1,()),S0,())=((c,(),(),()),(bm gQ,S,())):=e2
 have e6':g6 ((c,(),(),(),(),14,()),((bm gQ).1,(bm gQ).2.1,(bm gQ).2.2.1,(bm gQ).2.2.2.1,(bm gQ).2.2.2.2.1,(bm gQ).2.2.2.2.2.1,(bm gQ).2.2.2.2.2.2.1,(bm gQ).2.2.2.2.2.2.2.1,(bm gQ).2.2.2.2.2.2.2.2.1,()),S,(0,0,0,0,0,0,0,0,true,()),(0,0,0,0,0,0,0,0,true,()),())=(((),(),()),(z,bm R,())):=e6
 unfold lO
 simp only [e0',e2',e6']
 refine (al ?_).trans rfl
 simp only [List.all_cons,List.all_nil,Bool.and_true,Bool.and_eq_true]
 exact ⟨h0,h2,h6⟩
theorem A4 (c a:Int) (l:List Tm) (S:List Pt):∀ n,(upto (dE c a l) S n).length=S.length
 |0=>rfl
 |n+1=>(kc c a l n _).trans (A4 c a l S n)
def ov (x:lP):Bool:=decide ((0<=x.1.2.2.1/\x.1.2.2.1<=1000)/\x.1.2.1.length<=140737488355328)
def Gw (x:lP):OT dJ.Y:=.ok ⟨mM,((RJ x.1.1 x.1.2.1 x.1.2.2.1,()),())⟩
theorem QI:ac Tryz.prog 162 (dJ.aI ov Gw):=I0 y6 Cn kH mN y0 Cm yZ Cl QM QK QL QJ _ _ λx oy hp ho=>by
 rw [<-ho]
 clear ho
 obtain ⟨⟨c,l,a,⟨⟩⟩,⟨⟩⟩:=x
 obtain ⟨ha,hl⟩:=of_decide_eq_true hp
 exact I1 (S0:=List.replicate 15 aC) (S:=am1 c a l (List.replicate 15 aC)) (R:=RJ c l a) (z:=bm gQ) (decide_eq_true ⟨rfl,rfl⟩) rfl
  (decide_eq_true ⟨rfl,rfl,rfl,ha,hl⟩) rfl (decide_eq_true ⟨rfl,A4 c a l _ l.length,rfl,rfl⟩) rfl
def mL:cN:=(dJ.aI ov Gw)
theorem E3:ac Tryz.prog 162 mL:=QI
theorem E1:aK mL:=aB
def ij:Env:=aA 162 mL vA
theorem gP:aW Tryz.prog ij:=ai E3 kk
theorem pn:aw ij:=ae E1 Ea
theorem lb:bc Tryz.prog te ij:=aO follows au gP pn
def jT:aq:=⟨[.val false .int,.val false (.list zV)],[],true,0,false⟩
abbrev Gl:Type:=((Int)×(List ((aa×(aa×(aa×Bool)))))×Unit)×(Unit)
def uq:Shape:=⟨39,[(0,.val false .int),(1,.val false (.list (.prod .elem (.prod .elem (.prod .elem .bool))))),(4,.ptr 0 0 0),(5,.ptr 1 0 0),(6,.val false .int)],[(0,.cells [.val false .u64,.val false .u64,.val false .u64,.val false .u64,.val false .u64,.val false .u64,.val false .u64,.val false .u64,.val false .bool]),(1,.cells [.val false .u64,.val false .u64,.val false .u64,.val false .u64,.val false .u64,.val false .u64,.val false .u64,.val false .u64,.val false .bool])],0,true⟩
abbrev cd:Type:=((Int)×(List ((aa×(aa×(aa×Bool)))))×(Unit)×(Unit)×(Int)×Unit)×(((UInt64)×(UInt64)×(UInt64)×(UInt64)×(UInt64)×(UInt64)×(UInt64)×(UInt64)×(Bool)×Unit)×((UInt64)×(UInt64)×(UInt64)×(UInt64)×(UInt64)×(UInt64)×(UInt64)×(UInt64)×(Bool)×Unit)×Unit)
def uo:Shape:=⟨39,[(0,.val false .int),(1,.val false (.list (.prod .elem (.prod .elem (.prod .elem .bool))))),(4,.ptr 0 0 0),(5,.ptr 1 0 0),(6,.val false .int),(24,.val false .int)],[(0,.cells [.val false .u64,.val false .u64,.val false .u64,.val false .u64,.val false .u64,.val false .u64,.val false .u64,.val false .u64,.val false .bool]),(1,.cells [.val false .u64,.val false .u64,.val false .u64,.val false .u64,.val false .u64,.val false .u64,.val false .u64,.val false .u64,.val false .bool])],0,true⟩
abbrev bl:Type:=((Int)×(List ((aa×(aa×(aa×Bool)))))×(Unit)×(Unit)×(Int)×(Int)×Unit)×(((UInt64)×(UInt64)×(UInt64)×(UInt64)×(UInt64)×(UInt64)×(UInt64)×(UInt64)×(Bool)×Unit)×((UInt64)×(UInt64)×(UInt64)×(UInt64)×(UInt64)×(UInt64)×(UInt64)×(UInt64)×(Bool)×Unit)×Unit)
def qj:Shape:=⟨39,[(0,.val false .int),(1,.val false (.list (.prod .elem (.prod .elem (.prod .elem .bool))))),(4,.ptr 0 0 0),(5,.ptr 1 0 0),(6,.val false .int)],[(0,.cells [.val false .u64,.val false .u64,.val false .u64,.val false .u64,.val false .u64,.val false .u64,.val false .u64,.val false .u64,.val false .bool]),(1,.cells [.val false .u64,.val false .u64,.val false .u64,.val false .u64,.val false .u64,.val false .u64,.val false .u64,.val false .u64,.val false .bool])],0,true⟩
abbrev dv:Type:=((Int)×(List ((aa×(aa×(aa×Bool)))))×(Unit)×(Unit)×(Int)×Unit)×(((UInt64)×(UInt64)×(UInt64)×(UInt64)×(UInt64)×(UInt64)×(UInt64)×(UInt64)×(Bool)×Unit)×((UInt64)×(UInt64)×(UInt64)×(UInt64)×(UInt64)×(UInt64)×(UInt64)×(UInt64)×(Bool)×Unit)×Unit)
def VR:SE->Option Shape:=kn [(2,qj)] none
def ajy (a0:Int) (a1:List ((aa×(aa×(aa×Bool))))) (a6:Int) (a24:Int) (c0_0:UInt64) (c0_1:UInt64) (c0_2:UInt64) (c0_3:UInt64) (c0_4:UInt64) (c0_5:UInt64) (c0_6:UInt64) (c0_7:UInt64) (c0_8:Bool) (c1_0:UInt64) (c1_1:UInt64) (c1_2:UInt64) (c1_3:UInt64) (c1_4:UInt64) (c1_5:UInt64) (c1_6:UInt64) (c1_7:UInt64) (c1_8:Bool):OT (Sum bl aQ):=
 let z0:aa×aa×Bool:=({w0:=c1_0,w1:=c1_1,w2:=c1_2,w3:=c1_3},{w0:=c1_4,w1:=c1_5,w2:=c1_6,w3:=c1_7},c1_8)
 let z1:aa×aa×Bool:=ek a0 z0 z0
 let z2:=z1.fst
 let z3:=z1.snd
 let z4:=z3.fst
 (.br (decide (a24<(4:Int)))
 (gd [inR (a24+(1:Int))] (.ok (.inl ((a0,(a1,((),((),(a6,(a24+(1:Int),())))))),((c0_0,(c0_1,(c0_2,(c0_3,(c0_4,(c0_5,(c0_6,(c0_7,(c0_8,()))))))))),((z2.w0,(z2.w1,(z2.w2,(z2.w3,(z4.w0,(z4.w1,(z4.w2,(z4.w3,(z3.snd,()))))))))),()))))))
 (.ok (.inr ⟨(.exit 2,qj),((a0,(a1,((),((),(a6,()))))),((c0_0,(c0_1,(c0_2,(c0_3,(c0_4,(c0_5,(c0_6,(c0_7,(c0_8,()))))))))),((c1_0,(c1_1,(c1_2,(c1_3,(c1_4,(c1_5,(c1_6,(c1_7,(c1_8,()))))))))),())))⟩)))
def uv (s:bl):OT (Sum bl aQ):=ajy (s.1.1) (s.1.2.1) (s.1.2.2.2.2.1) (s.1.2.2.2.2.2.1) (s.2.1.1) (s.2.1.2.1) (s.2.1.2.2.1) (s.2.1.2.2.2.1) (s.2.1.2.2.2.2.1) (s.2.1.2.2.2.2.2.1) (s.2.1.2.2.2.2.2.2.1) (s.2.1.2.2.2.2.2.2.2.1) (s.2.1.2.2.2.2.2.2.2.2.1) (s.2.2.1.1) (s.2.2.1.2.1) (s.2.2.1.2.2.1) (s.2.2.1.2.2.2.1) (s.2.2.1.2.2.2.2.1) (s.2.2.1.2.2.2.2.2.1) (s.2.2.1.2.2.2.2.2.2.1) (s.2.2.1.2.2.2.2.2.2.2.1) (s.2.2.1.2.2.2.2.2.2.2.2.1)
theorem ajt (s:bl) (Q:Sum bl aQ->Prop):wps te ij az 1000 (bL (bL (ao Tryz.f148) 0) 2) (uo.inj s) (df uo VR (Q:Sum uo.T aQ->Prop))=(uv s).wpR Q:=by kernel_rfl
def AA (g2_2:bl->dv) (s:bl):OT aQ:=(.ok ⟨(.exit 2,qj),g2_2 s⟩)
def qk:Shape:=⟨39,[(4,.ptr 0 0 0),(5,.ptr 1 0 0)],[(0,.cells [.val false .u64,.val false .u64,.val false .u64,.val false .u64,.val false .u64,.val false .u64,.val false .u64,.val false .u64,.val false .bool]),(1,.cells [.val false .u64,.val false .u64,.val false .u64,.val false .u64,.val false .u64,.val false .u64,.val false .u64,.val false .u64,.val false .bool])],0,true⟩
abbrev hI:Type:=((Unit)×(Unit)×Unit)×(((UInt64)×(UInt64)×(UInt64)×(UInt64)×(UInt64)×(UInt64)×(UInt64)×(UInt64)×(Bool)×Unit)×((UInt64)×(UInt64)×(UInt64)×(UInt64)×(UInt64)×(UInt64)×(UInt64)×(UInt64)×(Bool)×Unit)×Unit)
def VS:SE->Option Shape:=kn [(0,qk)] none
def VT (ok2:bl->Bool) (g2_2:bl->dv) (a0:Int) (a1:List ((aa×(aa×(aa×Bool))))) (a6:Int) (c0_0:UInt64) (c0_1:UInt64) (c0_2:UInt64) (c0_3:UInt64) (c0_4:UInt64) (c0_5:UInt64) (c0_6:UInt64) (c0_7:UInt64) (c0_8:Bool) (c1_0:UInt64) (c1_1:UInt64) (c1_2:UInt64) (c1_3:UInt64) (c1_4:UInt64) (c1_5:UInt64) (c1_6:UInt64) (c1_7:UInt64) (c1_8:Bool):OT (Sum cd aQ):=
 let z0:(Int×List (aa×aa×aa×Bool)×PUnit×PUnit×Int×Int×PUnit)×(UInt64×UInt64×UInt64×UInt64×UInt64×UInt64×UInt64×UInt64×Bool×PUnit)×(UInt64×UInt64×UInt64×UInt64×UInt64×UInt64×UInt64×UInt64×Bool×PUnit)×PUnit:=((a0,a1,(),(),a6,(0:Int),()),(c0_0,c0_1,c0_2,c0_3,c0_4,c0_5,c0_6,c0_7,c0_8,()),(c1_0,c1_1,c1_2,c1_3,c1_4,c1_5,c1_6,c1_7,c1_8,()),())
 let z1:(Int×List (aa×aa×aa×Bool)×PUnit×PUnit×Int×PUnit)×(UInt64×UInt64×UInt64×UInt64×UInt64×UInt64×UInt64×UInt64×Bool×PUnit)×(UInt64×UInt64×UInt64×UInt64×UInt64×UInt64×UInt64×UInt64×Bool×PUnit)×PUnit:=g2_2 z0
 let z2:=z1.fst
 let z3:=z2.fst
 let z4:=z2.snd
 let z5:=z4.fst
 let z6:=z4.snd.snd.snd.fst
 let z7:=z1.snd
 let z8:=z7.fst
 let z9:=z8.snd
 let z10:=z9.snd
 let z11:=z10.snd
 let z12:=z11.snd
 let z13:=z12.snd
 let z14:=z13.snd
 let z15:=z14.snd
 let z16:=z7.snd.fst
 let z17:=z16.snd
 let z18:=z17.snd
 let z19:=z18.snd
 let z20:=z19.snd
 let z21:=z20.snd
 let z22:=z21.snd
 let z23:=z22.snd
 let z24:aa×aa×Bool:=ek z3 ({w0:=z16.fst,w1:=z17.fst,w2:=z18.fst,w3:=z19.fst},{w0:=z20.fst,w1:=z21.fst,w2:=z22.fst,w3:=z23.fst},z23.snd.fst) (RJ z3 z5 z6)
 let z25:=z24.fst
 let z26:=z24.snd
 let z27:=z26.fst
 (.br (decide ((0:Int)<=a6))
 (gd [ok2 z0,ov ((z3,z5,z6,()),()),inR (z6-(4:Int))] (.ok (.inl ((z3,(z5,((),((),(z6-(4:Int),()))))),((z8.fst,(z9.fst,(z10.fst,(z11.fst,(z12.fst,(z13.fst,(z14.fst,(z15.fst,(z15.snd.fst,()))))))))),((z25.w0,(z25.w1,(z25.w2,(z25.w3,(z27.w0,(z27.w1,(z27.w2,(z27.w3,(z26.snd,()))))))))),()))))))
 (.ok (.inr ⟨(.exit 0,qk),(((),((),())),((c0_0,(c0_1,(c0_2,(c0_3,(c0_4,(c0_5,(c0_6,(c0_7,(c0_8,()))))))))),((c1_0,(c1_1,(c1_2,(c1_3,(c1_4,(c1_5,(c1_6,(c1_7,(c1_8,()))))))))),())))⟩)))
def mK (ok2:bl->Bool) (g2_2:bl->dv) (s:cd):OT (Sum cd aQ):=VT ok2 g2_2 (s.1.1) (s.1.2.1) (s.1.2.2.2.2.1) (s.2.1.1) (s.2.1.2.1) (s.2.1.2.2.1) (s.2.1.2.2.2.1) (s.2.1.2.2.2.2.1) (s.2.1.2.2.2.2.2.1) (s.2.1.2.2.2.2.2.2.1) (s.2.1.2.2.2.2.2.2.2.1) (s.2.1.2.2.2.2.2.2.2.2.1) (s.2.2.1.1) (s.2.2.1.2.1) (s.2.2.1.2.2.1) (s.2.2.1.2.2.2.1) (s.2.2.1.2.2.2.2.1) (s.2.2.1.2.2.2.2.2.1) (s.2.2.1.2.2.2.2.2.2.1) (s.2.2.1.2.2.2.2.2.2.2.1) (s.2.2.1.2.2.2.2.2.2.2.2.1)
theorem aju (ok2:bl->Bool) (g2_2:bl->dv) (s:cd) (Q:Sum cd aQ->Prop):wps te ij (bn 2 (dC uo 2 ok2 (AA g2_2)) az) 1000 (bL (ao Tryz.f148) 0) (uq.inj s) (df uq VS (Q:Sum uq.T aQ->Prop))=(mK ok2 g2_2 s).wpR Q:=by kernel_rfl
def AB (g0_0:cd->hI) (s:cd):OT aQ:=(.ok ⟨(.exit 0,qk),g0_0 s⟩)
def qi:ax:=⟨[.val true (.prod .elem (.prod .elem .bool))],[],false⟩
def Mq:SV->Option ax:=λ_=>some qi
def xp (ok2:bl->Bool) (g2_2:bl->dv) (ok0:cd->Bool) (g0_0:cd->hI) (a0:Int) (a1:List ((aa×(aa×(aa×Bool))))):OT jT.Y:=
 let z0:Int:=Int.tdiv ((↑(OJ a1):Int)+(4:Int)-(1:Int)) (4:Int)
 let z1:(Int×List (aa×aa×aa×Bool)×PUnit×PUnit×Int×PUnit)×(UInt64×UInt64×UInt64×UInt64×UInt64×UInt64×UInt64×UInt64×Bool×PUnit)×(UInt64×UInt64×UInt64×UInt64×UInt64×UInt64×UInt64×UInt64×Bool×PUnit)×PUnit:=((a0,a1,(),(),z0*(4:Int),()),((0:UInt64),(0:UInt64),(0:UInt64),(0:UInt64),(0:UInt64),(0:UInt64),(0:UInt64),(0:UInt64),false,()),((0:UInt64),(0:UInt64),(0:UInt64),(0:UInt64),(0:UInt64),(0:UInt64),(0:UInt64),(0:UInt64),true,()),())
 let z2:=(g0_0 z1).snd.snd.fst
 let z3:=z2.snd
 let z4:=z3.snd
 let z5:=z4.snd
 let z6:=z5.snd
 let z7:=z6.snd
 let z8:=z7.snd
 let z9:=z8.snd
 (.br (decide ((↑(List.length a1):Int)<(24:Int)))
 (gd [se ((a0,a1,()),())] (.ok ⟨qi,((mw a0 a1,()),())⟩))
 (gd [IH ((a1,()),()),inR ((↑(OJ a1):Int)+(4:Int)),inR ((↑(OJ a1):Int)+(4:Int)-(1:Int)),true&&inR z0,inR (z0*(4:Int)),ok0 z1] (.ok ⟨qi,((({w0:=z2.fst,w1:=z3.fst,w2:=z4.fst,w3:=z5.fst},{w0:=z6.fst,w1:=z7.fst,w2:=z8.fst,w3:=z9.fst},z9.snd.fst),()),())⟩)))
theorem anX (ok2:bl->Bool) (g2_2:bl->dv) (ok0:cd->Bool) (g0_0:cd->hI) (x:Gl) (Q:jT.Y->Prop):wpf te ij (bn 0 (dC uq 0 ok0 (AB g0_0)) az) 1000 Tryz.f148 (jT.inp.inj x).tm (jT.inp.inj x).hp (fnK jT Mq Q) (λ_ _=>False)=(xp ok2 g2_2 ok0 g0_0 (x.1.1) (x.1.2.1)).wpR Q:=by kernel_rfl
theorem Yv (ok2:bl->Bool) (g2_2:bl->dv) (ok0:cd->Bool) (g0_0:cd->hI) (h2:∀ s:bl,ok2 s=true->∃ m e,av (uv) m s=some e/\(AA g2_2 s).run=some e) (h0:∀ s:cd,ok0 s=true->∃ m e,av (mK ok2 g2_2) m s=some e/\(AB g0_0 s).run=some e) (pre:Gl->Bool) (F:Gl->OT jT.Y) (hF:∀ (x:Gl) oy,pre x=true->(F x).run=some oy->(xp ok2 g2_2 ok0 g0_0 (x.1.1) (x.1.2.1)).run=some oy):ac Tryz.prog 148 (jT.aI pre F):=
 aE au gP lb (f:=148) (fn:=Tryz.f148) (c:=ao Tryz.f148) (by kernel_rfl) (by kernel_rfl) (by kernel_rfl) (S:=jT) (k:=0) (by kernel_rfl) (λR hR=>(aH (c:=(ao Tryz.f148)) (by kernel_rfl) (id:=0) (by kernel_rfl) (bz au gP lb (sh:=uq) hR (xs:=VS) (aJ (by kernel_rfl) (by kernel_rfl) hR) aY (aH (c:=(bL (ao Tryz.f148) 0)) (by kernel_rfl) (id:=2) (by kernel_rfl) (bz au gP lb (sh:=uo) hR (xs:=VR) (aJ (by kernel_rfl) (by kernel_rfl) hR) aY ag (n:=1000) (T:=uv) (λs Q=>ajt s Q) (ok:=ok2) (f:=AA g2_2) h2) ag) (n:=1000) (T:=mK ok2 g2_2) (λs Q=>aju ok2 g2_2 s Q) (ok:=ok0) (f:=AB g0_0) h0) ag)) (n:=1000) (sel:=Mq) (λv o h=>by cases h;rfl) (pre:=pre) (F:=F) (T:=λx=>xp ok2 g2_2 ok0 g0_0 (x.1.1) (x.1.2.1)) (λx Q=>anX ok2 g2_2 ok0 g0_0 x Q) hF
theorem OS (l:List Tm):∀ n,aao l n<=n
 |0=>Nat.le_refl _
 |n+1=>by
  unfold aao
  cases apj l (n:Int)
  ·exact Nat.le_succ_of_le (OS l n)
  ·exact Nat.le_refl _
def aqC (c:Int) (O:Pt):Pt:=upto (λ_ o=>ek c o o) O 4
def oq (s:bl):Bool:=decide (s.1.2.2.2.2.2.1=0)
def uu (s:bl):dv:=((s.1.1,s.1.2.1,(),(),s.1.2.2.2.2.1,()),(s.2.1,bm (aqC s.1.1 (k9 s.2.2.1)),()))
theorem ajw:∀ s:bl,oq s=true->∃ m e,av uv m s=some e/\(AA uu s).run=some e:=by
 rintro ⟨⟨c,l,⟨⟩,⟨⟩,a,i,⟨⟩⟩,⟨c0,c1,⟨⟩⟩⟩ h
 have h':=of_decide_eq_true h
 dsimp only at h'
 subst h'
 have:=(bP (T:=uv) (λi O=>(((c,l,(),(),a,(i:Int),()),(c0,bm O,())):bl)) (λ_ o=>ek c o o)
  (λO=>(⟨(.exit 2,qj),((c,l,(),(),a,()),(c0,bm O,()))⟩:aQ)) 4 (k9 c1) (λ_ _=>True) trivial (λk O hk _=>⟨?_,trivial⟩) (λO _=> ?_)).1
 ·obtain ⟨m,hm⟩:=this
  exact ⟨m,_,hm,rfl⟩
 ·refine (OT.ap (decide_eq_true (by dsimp only;omega))).trans ((al ?_).trans rfl)
  simp only [List.all_cons,List.all_nil,Bool.and_true]
  exact bF (by omega)
 ·exact OT.ay (decide_eq_false (by dsimp only;omega))
def kR (c:Int) (l:List Tm) (W n:Nat) (O:Pt):Pt:=ek c (aqC c O) (RJ c l (4*(W:Int)-4*(n:Int)))
def nj (l:List Tm):Nat:=(OJ l+3)/4
def aqU (c:Int) (l:List Tm):Pt:=upto (kR c l (nj l)) aC (nj l+1)
def aaA (c:Int) (l:List Tm) (a:Int) (c0:C9) (O:Pt):bl:=((c,l,(),(),a,0,()),(c0,bm O,()))
theorem apm {ok2:bl->Bool} {g2:bl->dv} {c a:Int} {l:List Tm} {c0:C9} {O D:Pt} (h0:0<=a) (h1:a<=1000) (hl:l.length<=140737488355328) (hok:ok2 (aaA c l a c0 O)=true)
 (e2:g2 (aaA c l a c0 O)=((c,l,(),(),a,()),(c0,bm D,()))):
 (mK ok2 g2 ((c,l,(),(),a,()),(c0,bm O,()))).run=some (.inl ((c,l,(),(),a-4,()),(c0,bm (ek c D (RJ c l a)),()))):=by
 unfold aaA at hok e2
 have e2':g2 ((c,l,(),(),a,0,()),(c0.1,c0.2.1,c0.2.2.1,c0.2.2.2.1,c0.2.2.2.2.1,c0.2.2.2.2.2.1,c0.2.2.2.2.2.2.1,c0.2.2.2.2.2.2.2.1,c0.2.2.2.2.2.2.2.2.1,()),((bm O).1,(bm O).2.1,(bm O).2.2.1,(bm O).2.2.2.1,(bm O).2.2.2.2.1,(bm O).2.2.2.2.2.1,(bm O).2.2.2.2.2.2.1,(bm O).2.2.2.2.2.2.2.1,(bm O).2.2.2.2.2.2.2.2.1,()),())=((c,l,(),(),a,()),(c0,bm D,())):=e2
 unfold mK VT
 simp only [e2']
 refine (OT.ap (decide_eq_true h0)).trans ((al ?_).trans rfl)
 simp only [List.all_cons,List.all_nil,Bool.and_true,Bool.and_eq_true]
 exact ⟨hok,decide_eq_true ⟨⟨h0,h1⟩,hl⟩,bF (by omega)⟩
def B5 (s:cd):Bool:=decide (s.1.2.2.2.2.1=4*(nj s.1.2.1:Int)/\k9 s.2.2.1=aC/\s.1.2.1.length<=140737488355328)
def IP (s:cd):hI:=(((),(),()),(s.2.1,bm (aqU s.1.1 s.1.2.1),()))
theorem ajx:∀ s:cd,B5 s=true->∃ m e,av (mK oq uu) m s=some e/\(AB IP s).run=some e:=by
 rintro ⟨⟨c,l,⟨⟩,⟨⟩,a,⟨⟩⟩,⟨c0,c1,⟨⟩⟩⟩ h
 have h':=of_decide_eq_true h
 dsimp only at h'
 obtain ⟨rfl,hO,hl⟩:=h'
 have hO2:c1=bm aC:=by rw [<-hO];rfl
 subst hO2
 have hW:nj l<=64:=by
  have:=OS l 256
  unfold nj OJ
  omega
 have:=(bP (T:=mK oq uu) (λn O=>(((c,l,(),(),4*(nj l:Int)-4*(n:Int),()),(c0,bm O,())):cd)) (kR c l (nj l))
  (λO=>(⟨(.exit 0,qk),(((),(),()),(c0,bm O,()))⟩:aQ)) (nj l+1) aC (λ_ _=>True) trivial (λn O hn _=>⟨?_,trivial⟩) (λO _=> ?_)).1
 ·obtain ⟨m,hm⟩:=this
  refine ⟨m,_,?_,rfl⟩
  have e:4*(nj l:Int)-4*((0:Nat):Int)=4*(nj l:Int):=by omega
  rw [e] at hm
  exact hm
 ·have e:4*(nj l:Int)-4*((n+1:Nat):Int)=4*(nj l:Int)-4*(n:Int)-4:=by omega
  rw [e]
  exact apm (D:=aqC c O) (by omega) (by omega) hl (decide_eq_true rfl) rfl
 ·exact OT.ay (decide_eq_false (by dsimp only;omega))
def aq5 (l:List Tm):Bool:=decide ((l.length:Int)<24)
def Fm (c:Int) (l:List Tm):Pt:=cond (aq5 l) (mw c l) (aqU c l)
def ur (x:Gl):Bool:=decide (x.1.2.1.length<=140737488355328)
def adU (x:Gl):OT jT.Y:=.ok ⟨qi,((Fm x.1.1 x.1.2.1,()),())⟩
theorem Yw {ok2:bl->Bool} {g2:bl->dv} {ok0:cd->Bool} {g0:cd->hI} {c:Int} {l:List Tm} {R:Pt} (hl:l.length<=140737488355328) (hf:aq5 l=false)
 (h0:ok0 ((c,l,(),(),4*(nj l:Int),()),(bm gQ,bm aC,()))=true) (e0:g0 ((c,l,(),(),4*(nj l:Int),()),(bm gQ,bm aC,()))=(((),(),()),(bm gQ,bm R,()))):
 (xp ok2 g2 ok0 g0 c l).run=some ⟨qi,((R,()),())⟩:=by
 have ht:Int.tdiv ((OJ l:Int)+4-1) 4=(nj l:Int):=by
  unfold nj
  rw [Int.tdiv_eq_ediv_of_nonneg (by omega)]
  omega
 have hW:=OS l 256
 have hW:OJ l<=256:=hW
 have hW2:nj l<=64:=by unfold nj;omega
 have e1:(nj l:Int)*4=4*(nj l:Int):=Int.mul_comm _ _
 unfold xp
 have e0':g0 ((c,l,(),(),4*(nj l:Int),()),(0,0,0,0,0,0,0,0,false,()),(0,0,0,0,0,0,0,0,true,()),())=(((),(),()),(bm gQ,bm R,())):=e0
 simp only [ht,e1,e0']
 refine (OT.ay hf).trans ((al ?_).trans rfl)
 simp only [List.all_cons,List.all_nil,Bool.and_true,Bool.true_and,Bool.and_eq_true]
 exact ⟨decide_eq_true hl,bF (by omega),bF (by omega),bF (by omega),bF (by omega),h0⟩
theorem ajv:ac Tryz.prog 148 (jT.aI ur adU):=Yv oq uu B5 IP ajw ajx _ _ λx oy hp ho=>by
 rw [<-ho]
 clear ho
 obtain ⟨⟨c,l,⟨⟩⟩,⟨⟩⟩:=x
 have hl:l.length<=140737488355328:=of_decide_eq_true hp
 show (xp oq uu B5 IP c l).run=some ⟨qi,((Fm c l,()),())⟩
 rcases (Bool.eq_false_or_eq_true (aq5 l)).symm with hf|hf
 ·have e:Fm c l=aqU c l:=by unfold Fm;rw [hf];rfl
  rw [e]
  exact Yw (R:=aqU c l) hl hf (decide_eq_true ⟨rfl,rfl,hl⟩) rfl
 ·have e:Fm c l=mw c l:=by unfold Fm;rw [hf];rfl
  rw [e]
  refine (OT.ap hf).trans ((al ?_).trans rfl)
  simp only [List.all_cons,List.all_nil,Bool.and_true]
  exact hp
def xo:cN:=(jT.aI ur adU)
theorem QB:ac Tryz.prog 148 xo:=ajv
theorem QA:aK xo:=aB
def Ee:Env:=aA 148 xo ij
theorem yv:aW Tryz.prog Ee:=ai QB gP
theorem zI:aw Ee:=ae QA pn
theorem Si:bc Tryz.prog te Ee:=aO follows au yv zI
def gw:aq:=⟨[.ptr 0 0 0],[(0,arV (.own 1)),(1,.row zV)],false,2,true⟩
abbrev xl:Type:=((Unit)×Unit)×(((Int)×(Unit)×Unit)×(List ((aa×(aa×(aa×Bool)))))×Unit)
def BX:ax:=⟨[.val true (.prod .elem (.prod .elem .bool))],[(0,.cells [.val false .int,.own 1]),(1,.row (.prod .elem (.prod .elem (.prod .elem .bool))))],false⟩
def Gj:SV->Option ax:=λ_=>some BX
def IF (c0_0:Int) (c1:List ((aa×(aa×(aa×Bool))))):OT gw.Y:=
 (gd [ur ((c0_0,c1,()),())] (.ok ⟨BX,((Fm c0_0 c1,()),((c0_0,((),())),(c1,())))⟩))
theorem ajp (x:xl) (Q:gw.Y->Prop):wpf te Ee az 1000 Tryz.f116 (gw.inp.inj x).tm (gw.inp.inj x).hp (fnK gw Gj Q) (λ_ _=>False)=(IF (x.2.1.1) (x.2.2.1)).wpR Q:=by kernel_rfl
theorem Qt (pre:xl->Bool) (F:xl->OT gw.Y) (hF:∀ (x:xl) oy,pre x=true->(F x).run=some oy->(IF (x.2.1.1) (x.2.2.1)).run=some oy):ac Tryz.prog 116 (gw.aI pre F):=
 aE au yv Si (f:=116) (fn:=Tryz.f116) (c:=ao Tryz.f116) (by kernel_rfl) (by kernel_rfl) (by kernel_rfl) (S:=gw) (k:=2) (by kernel_rfl) (λR hR=>ag) (n:=1000) (sel:=Gj) (λv o h=>by cases h;rfl) (pre:=pre) (F:=F) (T:=λx=>IF (x.2.1.1) (x.2.2.1)) (λx Q=>ajp x Q) hF
def xk (x:xl):Bool:=ur ((x.2.1.1,x.2.2.1,()),())
def VK (x:xl):OT gw.Y:=.ok ⟨BX,((Fm x.2.1.1 x.2.2.1,()),((x.2.1.1,((),())),(x.2.2.1,())))⟩
theorem adI:ac Tryz.prog 116 (gw.aI xk VK):=Qt _ _ λx oy hp ho=>by
 rw [<-ho]
 clear ho
 refine (al ?_).trans rfl
 simp only [List.all_cons,List.all_nil,Bool.and_true]
 exact hp
def sc:cN:=(gw.aI xk VK)
theorem Mn:ac Tryz.prog 116 sc:=adI
theorem Mm:aK sc:=aB
def qS:Env:=aA 116 sc Ee
theorem nd:aW Tryz.prog qS:=ai Mn yv
theorem vz:aw qS:=ae Mm zI
theorem zG:bc Tryz.prog te qS:=aO follows au nd vz
def nt:aq:=⟨[.val false .int,.val false (.list zV)],[],true,0,false⟩
abbrev Yu:Type:=((Int)×(List ((aa×(aa×(aa×Bool)))))×Unit)×(Unit)
def B4:Shape:=⟨45,[(4,.ptr 0 0 0),(6,.ptr 1 0 0),(26,.val false (.list (.prod .elem (.prod .elem (.prod .elem .bool))))),(27,.val false .int),(28,.val false .int)],[(0,.cells [.val false .u64,.val false .u64,.val false .u64,.val false .u64,.val false .u64,.val false .u64,.val false .u64,.val false .u64,.val false .bool]),(1,.cells [.val false .int,.own 2]),(2,.row (.prod .elem (.prod .elem (.prod .elem .bool))))],0,true⟩
abbrev bE:Type:=((Unit)×(Unit)×(List ((aa×(aa×(aa×Bool)))))×(Int)×(Int)×Unit)×(((UInt64)×(UInt64)×(UInt64)×(UInt64)×(UInt64)×(UInt64)×(UInt64)×(UInt64)×(Bool)×Unit)×((Int)×(Unit)×Unit)×(List ((aa×(aa×(aa×Bool)))))×Unit)
def jS:Shape:=⟨45,[(4,.ptr 0 0 0),(5,.val false .int)],[(0,.cells [.val false .u64,.val false .u64,.val false .u64,.val false .u64,.val false .u64,.val false .u64,.val false .u64,.val false .u64,.val false .bool])],0,true⟩
abbrev lI:Type:=((Unit)×(Int)×Unit)×(((UInt64)×(UInt64)×(UInt64)×(UInt64)×(UInt64)×(UInt64)×(UInt64)×(UInt64)×(Bool)×Unit)×Unit)
def um:Shape:=⟨45,[(4,.ptr 0 0 0),(6,.ptr 1 0 0)],[(0,.cells [.val false .u64,.val false .u64,.val false .u64,.val false .u64,.val false .u64,.val false .u64,.val false .u64,.val false .u64,.val false .bool]),(1,.cells [.val false .int,.own 2]),(2,.row (.prod .elem (.prod .elem (.prod .elem .bool))))],0,true⟩
abbrev lJ:Type:=((Unit)×(Unit)×Unit)×(((UInt64)×(UInt64)×(UInt64)×(UInt64)×(UInt64)×(UInt64)×(UInt64)×(UInt64)×(Bool)×Unit)×((Int)×(Unit)×Unit)×(List ((aa×(aa×(aa×Bool)))))×Unit)
def adS:SE->Option Shape:=kn [(1,um)] (some jS)
def anW (a26:List ((aa×(aa×(aa×Bool))))) (a27:Int) (a28:Int) (c0_0:UInt64) (c0_1:UInt64) (c0_2:UInt64) (c0_3:UInt64) (c0_4:UInt64) (c0_5:UInt64) (c0_6:UInt64) (c0_7:UInt64) (c0_8:Bool) (c1_0:Int) (c2:List ((aa×(aa×(aa×Bool))))):OT (Sum bE aQ):=
 let z0:aa:= {w0:=0,w1:=0,w2:=0,w3:=0}
 let z1:aa×aa×aa×Bool:=List.getD a26 (Int.toNat a28) (z0,z0,z0,false)
 let z2:=z1.snd
 (.br (decide (a28<a27))
 (gd [inB a28 (List.length a26)] (.br (onB c1_0 z2)
  (.br (KX c2)
   (gd [inR (a28+(1:Int))] (.ok (.inl (((),((),(a26,(a27,(a28+(1:Int),()))))),((c0_0,(c0_1,(c0_2,(c0_3,(c0_4,(c0_5,(c0_6,(c0_7,(c0_8,()))))))))),((c1_0,((),())),(c2++ [(zY c1_0 z1.fst,z2)],())))))))
   (.ok (.inr ⟨(.ret,jS),(((),((50:Int),())),(((0:UInt64),((0:UInt64),((0:UInt64),((0:UInt64),((0:UInt64),((0:UInt64),((0:UInt64),((0:UInt64),(false,()))))))))),()))⟩)))
  (.ok (.inr ⟨(.ret,jS),(((),((41:Int),())),(((0:UInt64),((0:UInt64),((0:UInt64),((0:UInt64),((0:UInt64),((0:UInt64),((0:UInt64),((0:UInt64),(false,()))))))))),()))⟩))))
 (.ok (.inr ⟨(.exit 1,um),(((),((),())),((c0_0,(c0_1,(c0_2,(c0_3,(c0_4,(c0_5,(c0_6,(c0_7,(c0_8,()))))))))),((c1_0,((),())),(c2,()))))⟩)))
def xn (s:bE):OT (Sum bE aQ):=anW (s.1.2.2.1) (s.1.2.2.2.1) (s.1.2.2.2.2.1) (s.2.1.1) (s.2.1.2.1) (s.2.1.2.2.1) (s.2.1.2.2.2.1) (s.2.1.2.2.2.2.1) (s.2.1.2.2.2.2.2.1) (s.2.1.2.2.2.2.2.2.1) (s.2.1.2.2.2.2.2.2.2.1) (s.2.1.2.2.2.2.2.2.2.2.1) (s.2.2.1.1) (s.2.2.2.1)
theorem anT (s:bE) (Q:Sum bE aQ->Prop):wps te qS az 1000 (bL (ao Tryz.f74) 1) (B4.inj s) (df B4 adS (Q:Sum B4.T aQ->Prop))=(xn s).wpR Q:=by kernel_rfl
def IM (g1_r:bE->lI) (c1_r:bE->Bool) (g1_1:bE->lJ) (s:bE):OT aQ:=(.br (c1_r s) (.ok ⟨(.ret,jS),g1_r s⟩) (.ok ⟨(.exit 1,um),g1_1 s⟩))
def gZ:ax:=⟨[.val true (.prod .elem (.prod .elem .bool)),.val false .int],[],false⟩
def VO:SV->Option ax:=λ_=>some gZ
def VQ (ok1:bE->Bool) (g1_r:bE->lI) (c1_r:bE->Bool) (g1_1:bE->lJ) (a0:Int) (a1:List ((aa×(aa×(aa×Bool))))):OT nt.Y:=
 let z0:Int:=(↑(List.length a1):Int)
 let z1:aa:= {w0:=0,w1:=0,w2:=0,w3:=0}
 let z2:aa×aa×Bool:=(z1,z1,false)
 let z3:(PUnit×PUnit×List (aa×aa×aa×Bool)×Int×Int×PUnit)×(UInt64×UInt64×UInt64×UInt64×UInt64×UInt64×UInt64×UInt64×Bool×PUnit)×(Int×PUnit×PUnit)×List (aa×aa×aa×Bool)×PUnit:=(((),(),a1,z0,(0:Int),()),((0:UInt64),(0:UInt64),(0:UInt64),(0:UInt64),(0:UInt64),(0:UInt64),(0:UInt64),(0:UInt64),false,()),(a0,(),()),[],())
 let z4:(PUnit×Int×PUnit)×(UInt64×UInt64×UInt64×UInt64×UInt64×UInt64×UInt64×UInt64×Bool×PUnit)×PUnit:=g1_r z3
 let z5:=z4.snd.fst
 let z6:=z5.snd
 let z7:=z6.snd
 let z8:=z7.snd
 let z9:=z8.snd
 let z10:=z9.snd
 let z11:=z10.snd
 let z12:=z11.snd
 let z13:=(g1_1 z3).snd.snd
 let z14:=z13.fst.fst
 let z15:=z13.snd.fst
 (.br (ak a0)
 (.br (decide ((100000:Int)<z0))
  (.ok ⟨gZ,((z2,((50:Int),())),())⟩)
  (gd [ok1 z3] (.br (c1_r z3)
   (.ok ⟨gZ,((({w0:=z5.fst,w1:=z6.fst,w2:=z7.fst,w3:=z8.fst},{w0:=z9.fst,w1:=z10.fst,w2:=z11.fst,w3:=z12.fst},z12.snd.fst),(z4.fst.snd.fst,())),())⟩)
   (gd [xk (((),()),(z14,(),()),z15,())] (.ok ⟨gZ,((Fm z14 z15,((0:Int),())),())⟩)))))
 (.ok ⟨gZ,((z2,((40:Int),())),())⟩))
theorem ap1 (ok1:bE->Bool) (g1_r:bE->lI) (c1_r:bE->Bool) (g1_1:bE->lJ) (x:Yu) (Q:nt.Y->Prop):wpf te qS (bn 1 (dC B4 1 ok1 (IM g1_r c1_r g1_1)) az) 1000 Tryz.f74 (nt.inp.inj x).tm (nt.inp.inj x).hp (fnK nt VO Q) (λ_ _=>False)=(VQ ok1 g1_r c1_r g1_1 (x.1.1) (x.1.2.1)).wpR Q:=by kernel_rfl
theorem adT (ok1:bE->Bool) (g1_r:bE->lI) (c1_r:bE->Bool) (g1_1:bE->lJ) (h1:∀ s:bE,ok1 s=true->∃ m e,av (xn) m s=some e/\(IM g1_r c1_r g1_1 s).run=some e) (pre:Yu->Bool) (F:Yu->OT nt.Y) (hF:∀ (x:Yu) oy,pre x=true->(F x).run=some oy->(VQ ok1 g1_r c1_r g1_1 (x.1.1) (x.1.2.1)).run=some oy):ac Tryz.prog 74 (nt.aI pre F):=
 aE au nd zG (f:=74) (fn:=Tryz.f74) (c:=ao Tryz.f74) (by kernel_rfl) (by kernel_rfl) (by kernel_rfl) (S:=nt) (k:=0) (by kernel_rfl) (λR hR=>(aH (c:=(ao Tryz.f74)) (by kernel_rfl) (id:=1) (by kernel_rfl) (bz au nd zG (sh:=B4) hR (xs:=adS) (aJ (by kernel_rfl) (by kernel_rfl) hR) aY ag (n:=1000) (T:=xn) (λs Q=>anT s Q) (ok:=ok1) (f:=IM g1_r c1_r g1_1) h1) ag)) (n:=1000) (sel:=VO) (λv o h=>by cases h;rfl) (pre:=pre) (F:=F) (T:=λx=>VQ ok1 g1_r c1_r g1_1 (x.1.1) (x.1.2.1)) (λx Q=>ap1 ok1 g1_r c1_r g1_1 x Q) hF
def Ap (c:Int) (l:List Tm):List Tm:=l.map λt=>(zY c t.1,t.2)
def eU (c:Int) (l:List Tm):Bool:=l.all λt=>onB c t.2
def IK (s:bE):Bool:=decide (s.1.2.2.2.1=(s.1.2.2.1.length:Int)/\s.1.2.2.2.2.1=0/\s.2.2.2.1= []/\s.1.2.2.1.length<=100000)
def IL (_:bE):lI:=(((),(41:Int),()),(bm gQ,()))
def Qz (s:bE):Bool:= !eU s.2.2.1.1 s.1.2.2.1
def Qy (s:bE):lJ:=(((),(),()),(s.2.1,(s.2.2.1.1,(),()),Ap s.2.2.1.1 s.1.2.2.1,()))
def KE (c:Int) (l:List Tm) (c0:C9) (k:Int) (o:List Tm):bE:=(((),(),l,(l.length:Int),k,()),(c0,(c,(),()),o,()))
theorem UQ (c:Int) (l:List Tm) (c0:C9) (hl:l.length<=100000):∀ d k:Nat,k+d=l.length->
 ∃ m,av xn m (KE c l c0 (k:Int) (Ap c (l.take k)))=some (cond (eU c (l.drop k)) ⟨(.exit 1,um),(((),(),()),(c0,(c,(),()),Ap c l,()))⟩ ⟨(.ret,jS),(((),(41:Int),()),(bm gQ,()))⟩)
 |0,k,h=>by
  rw [List.drop_eq_nil_of_le (by omega),List.take_of_length_le (by omega)]
  exact ⟨1,aR (OT.ay (decide_eq_false (by dsimp only [KE];omega)))⟩
 |d+1,k,h=>by
  have hk:k<l.length:=by omega
  have e1:l.drop k=l[k]::l.drop (k+1):=List.drop_eq_getElem_cons hk
  have e2:l.take (k+1)=l.take k++ [l[k]]:=(List.take_append_getElem hk).symm
  have e3:l.getD k iK=l[k]:=by rw [List.getD_eq_getElem?_getD,List.getElem?_eq_getElem hk];rfl
  have hgd:∀ z:OT (Sum bE aQ),(gd [inB (k:Int) l.length] z).run=z.run:=λz=>al (by rw [bG (by omega)];rfl)
  have ea:eU c (l.drop k)=(onB c l[k].2&&eU c (l.drop (k+1))):=by rw [e1];rfl
  rw [ea]
  have hr:KX (Ap c (l.take k))=true:=decide_eq_true (by rw [Ap,List.length_map,List.length_take];omega)
  have first:∀ e:aQ ⊕ Unit,(xn (KE c l c0 (k:Int) (Ap c (l.take k)))).run=(OT.br (onB c (l.getD k iK).2) (.br (KX (Ap c (l.take k))) (gd [inR ((k:Int)+1)] (.ok (.inl (KE c l c0 ((k:Int)+1) (Ap c (l.take k)++ [(zY c (l.getD k iK).1,(l.getD k iK).2)])))))
   (.ok (.inr ⟨(.ret,jS),(((),(50:Int),()),(bm gQ,()))⟩))) (.ok (.inr ⟨(.ret,jS),(((),(41:Int),()),(bm gQ,()))⟩)):OT (Sum bE aQ)).run:=λ_=>
   (OT.ap (decide_eq_true (by dsimp only [KE];omega))).trans ((hgd _).trans rfl)
  have first:=first (.inr ())
  rw [e3] at first
  rcases (Bool.eq_false_or_eq_true (onB c l[k].2)).symm with hb|hb
  ·rw [hb]
   exact ⟨1,aR (first.trans (OT.ay hb))⟩
  ·rw [hb]
   obtain ⟨m,hm⟩:=UQ c l c0 hl d (k+1) (by omega)
   refine ⟨m+1,aM ?_ hm⟩
   refine first.trans ((OT.ap hb).trans ((OT.ap hr).trans ((al ?_).trans ?_)))
   ·simp only [List.all_cons,List.all_nil,Bool.and_true]
    exact bF (by omega)
   ·rw [e2]
    simp only [Ap,List.map_append,List.map_cons,List.map_nil]
    rfl
theorem anV:∀ s:bE,IK s=true->∃ m e,av xn m s=some e/\(IM IL Qz Qy s).run=some e:=by
 rintro ⟨⟨⟨⟩,⟨⟩,l,n,k,⟨⟩⟩,⟨c0,⟨c,⟨⟩,⟨⟩⟩,o,⟨⟩⟩⟩ h
 have h':=of_decide_eq_true h
 dsimp only at h'
 obtain ⟨rfl,rfl,rfl,hl⟩:=h'
 obtain ⟨m,hm⟩:=UQ c l c0 hl l.length 0 (by omega)
 refine ⟨m,_,hm,?_⟩
 show (OT.br (!eU c l) _ _:OT aQ).run=some (cond (eU c l) _ _)
 cases eU c l<;>rfl
def VP (_:Yu):Bool:=true
def ak2 (x:Yu):OT nt.Y:=.br (ak x.1.1) (.br (decide (x.1.2.1.length<=100000)) (.br (eU x.1.1 x.1.2.1) (.ok ⟨gZ,((Fm x.1.1 (Ap x.1.1 x.1.2.1),((0:Int),())),())⟩)
 (.ok ⟨gZ,((gQ,((41:Int),())),())⟩)) (.ok ⟨gZ,((gQ,((50:Int),())),())⟩)) (.ok ⟨gZ,((gQ,((40:Int),())),())⟩)
theorem anU:ac Tryz.prog 74 (nt.aI VP ak2):=adT IK IL Qz Qy anV _ _ λx oy hp ho=>by
 rw [<-ho]
 clear ho
 obtain ⟨⟨c,l,⟨⟩⟩,⟨⟩⟩:=x
 show (VQ IK IL Qz Qy c l).run=(OT.br (ak c) (.br (decide (l.length<=100000)) (.br (eU c l) (.ok ⟨gZ,((Fm c (Ap c l),((0:Int),())),())⟩)
  (.ok ⟨gZ,((gQ,((41:Int),())),())⟩)) (.ok ⟨gZ,((gQ,((50:Int),())),())⟩)) (.ok ⟨gZ,((gQ,((40:Int),())),())⟩):OT nt.Y).run
 rcases (Bool.eq_false_or_eq_true (ak c)).symm with hs|hs
 ·exact (OT.ay hs).trans (OT.ay (b:=ak c) hs).symm
 ·refine (OT.ap hs).trans (Eq.trans ?_ (OT.ap (b:=ak c) hs).symm)
  by_cases hl:l.length<=100000
  ·refine (OT.ay (decide_eq_false (by omega))).trans (Eq.trans ?_ (OT.ap (b:=decide (l.length<=100000)) (decide_eq_true hl)).symm)
   refine (al ?_).trans ?_
   ·simp only [List.all_cons,List.all_nil,Bool.and_true]
    exact decide_eq_true ⟨rfl,rfl,rfl,hl⟩
   ·rcases (Bool.eq_false_or_eq_true (eU c l)).symm with ha|ha
    ·exact (OT.ap (b:= !eU c l) (by rw [ha];rfl)).trans (OT.ay (b:=eU c l) ha).symm
    ·refine (OT.ay (b:= !eU c l) (by rw [ha];rfl)).trans (Eq.trans ?_ (OT.ap (b:=eU c l) ha).symm)
     refine (al ?_).trans rfl
     simp only [List.all_cons,List.all_nil,Bool.and_true]
     refine decide_eq_true ?_
     show (Ap c l).length<=_
     rw [Ap,List.length_map]
     omega
  ·exact (OT.ap (decide_eq_true (by omega))).trans (OT.ay (b:=decide (l.length<=100000)) (decide_eq_false hl)).symm
def B3:cN:=(nt.aI VP ak2)
theorem Yt:ac Tryz.prog 74 B3:=anU
theorem Ys:aK B3:=aB
def Om:Env:=aA 74 B3 qS
theorem Ec:aW Tryz.prog Om:=ai Yt nd
theorem Ed:aw Om:=ae Ys vz
theorem aad:bc Tryz.prog te Om:=aO follows au Ec Ed
abbrev aq2:Ty:=.prod .int (.prod .int (.prod (.list (.prod .elem (.prod .elem .bool))) (.prod (.prod .elem (.prod .elem .bool)) (.prod .elem (.prod .elem .bool)))))
def arh:CSh:=.cells [.val false .int,.val false .int,.val false (.list (.prod .elem (.prod .elem .bool))),.val false .u64,.val false .u64,.val false .u64,.val false .u64,.val false .u64,.val false .u64,.val false .u64,.val false .u64,.val false .bool,.val false .u64,.val false .u64,.val false .u64,.val false .u64,.val false .u64,.val false .u64,.val false .u64,.val false .u64,.val false .bool]
def fx:aq:=⟨[.val true (.prod .elem (.prod .elem .bool)),.ptr 0 0 0],[(0,arh)],false,1,true⟩
abbrev wU:Type:=(((aa×(aa×Bool)))×(Unit)×Unit)×(((Int)×(Int)×(List ((aa×(aa×Bool))))×(UInt64)×(UInt64)×(UInt64)×(UInt64)×(UInt64)×(UInt64)×(UInt64)×(UInt64)×(Bool)×(UInt64)×(UInt64)×(UInt64)×(UInt64)×(UInt64)×(UInt64)×(UInt64)×(UInt64)×(Bool)×Unit)×Unit)
def n8:ax:=⟨[.val false .bool],[(0,.cells [.val false .int,.val false .int,.val false (.list (.prod .elem (.prod .elem .bool))),.val false .u64,.val false .u64,.val false .u64,.val false .u64,.val false .u64,.val false .u64,.val false .u64,.val false .u64,.val false .bool,.val false .u64,.val false .u64,.val false .u64,.val false .u64,.val false .u64,.val false .u64,.val false .u64,.val false .u64,.val false .bool])],false⟩
def FV:SV->Option ax:=λ_=>some n8
def Ii (a0:(aa×(aa×Bool))) (c0_0:Int) (c0_1:Int) (c0_2:List ((aa×(aa×Bool)))) (c0_3:UInt64) (c0_4:UInt64) (c0_5:UInt64) (c0_6:UInt64) (c0_7:UInt64) (c0_8:UInt64) (c0_9:UInt64) (c0_10:UInt64) (c0_11:Bool) (c0_12:UInt64) (c0_13:UInt64) (c0_14:UInt64) (c0_15:UInt64) (c0_16:UInt64) (c0_17:UInt64) (c0_18:UInt64) (c0_19:UInt64) (c0_20:Bool):OT fx.Y:=
 (.br (a0.snd.snd)
 (.ok ⟨n8,((true,()),((c0_0,(c0_1,(c0_2,(c0_3,(c0_4,(c0_5,(c0_6,(c0_7,(c0_8,(c0_9,(c0_10,(c0_11,(c0_12,(c0_13,(c0_14,(c0_15,(c0_16,(c0_17,(c0_18,(c0_19,(c0_20,()))))))))))))))))))))),()))⟩)
 (.ok ⟨n8,((!onB c0_0 a0,()),((c0_0,(c0_1,(c0_2,(c0_3,(c0_4,(c0_5,(c0_6,(c0_7,(c0_8,(c0_9,(c0_10,(c0_11,(c0_12,(c0_13,(c0_14,(c0_15,(c0_16,(c0_17,(c0_18,(c0_19,(c0_20,()))))))))))))))))))))),()))⟩))
theorem ai3 (x:wU) (Q:fx.Y->Prop):wpf te Om az 1000 Tryz.f71 (fx.inp.inj x).tm (fx.inp.inj x).hp (fnK fx FV Q) (λ_ _=>False)=(Ii (x.1.1) (x.2.1.1) (x.2.1.2.1) (x.2.1.2.2.1) (x.2.1.2.2.2.1) (x.2.1.2.2.2.2.1) (x.2.1.2.2.2.2.2.1) (x.2.1.2.2.2.2.2.2.1) (x.2.1.2.2.2.2.2.2.2.1) (x.2.1.2.2.2.2.2.2.2.2.1) (x.2.1.2.2.2.2.2.2.2.2.2.1) (x.2.1.2.2.2.2.2.2.2.2.2.2.1) (x.2.1.2.2.2.2.2.2.2.2.2.2.2.1) (x.2.1.2.2.2.2.2.2.2.2.2.2.2.2.1) (x.2.1.2.2.2.2.2.2.2.2.2.2.2.2.2.1) (x.2.1.2.2.2.2.2.2.2.2.2.2.2.2.2.2.1) (x.2.1.2.2.2.2.2.2.2.2.2.2.2.2.2.2.2.1) (x.2.1.2.2.2.2.2.2.2.2.2.2.2.2.2.2.2.2.1) (x.2.1.2.2.2.2.2.2.2.2.2.2.2.2.2.2.2.2.2.1) (x.2.1.2.2.2.2.2.2.2.2.2.2.2.2.2.2.2.2.2.2.1) (x.2.1.2.2.2.2.2.2.2.2.2.2.2.2.2.2.2.2.2.2.2.1) (x.2.1.2.2.2.2.2.2.2.2.2.2.2.2.2.2.2.2.2.2.2.2.1)).wpR Q:=by kernel_rfl
theorem P7 (pre:wU->Bool) (F:wU->OT fx.Y) (hF:∀ (x:wU) oy,pre x=true->(F x).run=some oy->(Ii (x.1.1) (x.2.1.1) (x.2.1.2.1) (x.2.1.2.2.1) (x.2.1.2.2.2.1) (x.2.1.2.2.2.2.1) (x.2.1.2.2.2.2.2.1) (x.2.1.2.2.2.2.2.2.1) (x.2.1.2.2.2.2.2.2.2.1) (x.2.1.2.2.2.2.2.2.2.2.1) (x.2.1.2.2.2.2.2.2.2.2.2.1) (x.2.1.2.2.2.2.2.2.2.2.2.2.1) (x.2.1.2.2.2.2.2.2.2.2.2.2.2.1) (x.2.1.2.2.2.2.2.2.2.2.2.2.2.2.1) (x.2.1.2.2.2.2.2.2.2.2.2.2.2.2.2.1) (x.2.1.2.2.2.2.2.2.2.2.2.2.2.2.2.2.1) (x.2.1.2.2.2.2.2.2.2.2.2.2.2.2.2.2.2.1) (x.2.1.2.2.2.2.2.2.2.2.2.2.2.2.2.2.2.2.1) (x.2.1.2.2.2.2.2.2.2.2.2.2.2.2.2.2.2.2.2.1) (x.2.1.2.2.2.2.2.2.2.2.2.2.2.2.2.2.2.2.2.2.1) (x.2.1.2.2.2.2.2.2.2.2.2.2.2.2.2.2.2.2.2.2.2.1) (x.2.1.2.2.2.2.2.2.2.2.2.2.2.2.2.2.2.2.2.2.2.2.1)).run=some oy):ac Tryz.prog 71 (fx.aI pre F):=
 aE au Ec aad (f:=71) (fn:=Tryz.f71) (c:=ao Tryz.f71) (by kernel_rfl) (by kernel_rfl) (by kernel_rfl) (S:=fx) (k:=1) (by kernel_rfl) (λR hR=>ag) (n:=1000) (sel:=FV) (λv o h=>by cases h;rfl) (pre:=pre) (F:=F) (T:=λx=>Ii (x.1.1) (x.2.1.1) (x.2.1.2.1) (x.2.1.2.2.1) (x.2.1.2.2.2.1) (x.2.1.2.2.2.2.1) (x.2.1.2.2.2.2.2.1) (x.2.1.2.2.2.2.2.2.1) (x.2.1.2.2.2.2.2.2.2.1) (x.2.1.2.2.2.2.2.2.2.2.1) (x.2.1.2.2.2.2.2.2.2.2.2.1) (x.2.1.2.2.2.2.2.2.2.2.2.2.1) (x.2.1.2.2.2.2.2.2.2.2.2.2.2.1) (x.2.1.2.2.2.2.2.2.2.2.2.2.2.2.1) (x.2.1.2.2.2.2.2.2.2.2.2.2.2.2.2.1) (x.2.1.2.2.2.2.2.2.2.2.2.2.2.2.2.2.1) (x.2.1.2.2.2.2.2.2.2.2.2.2.2.2.2.2.2.1) (x.2.1.2.2.2.2.2.2.2.2.2.2.2.2.2.2.2.2.1) (x.2.1.2.2.2.2.2.2.2.2.2.2.2.2.2.2.2.2.2.1) (x.2.1.2.2.2.2.2.2.2.2.2.2.2.2.2.2.2.2.2.2.1) (x.2.1.2.2.2.2.2.2.2.2.2.2.2.2.2.2.2.2.2.2.2.1) (x.2.1.2.2.2.2.2.2.2.2.2.2.2.2.2.2.2.2.2.2.2.2.1)) (λx Q=>ai3 x Q) hF
abbrev alt:Type:=Int×(Int×(List Pt×(UInt64×(UInt64×(UInt64×(UInt64×(UInt64×(UInt64×(UInt64×(UInt64×(Bool×(UInt64×(UInt64×(UInt64×(UInt64×(UInt64×(UInt64×(UInt64×(UInt64×(Bool×Unit))))))))))))))))))))
def yV:Pt:=(⟨0,0,0,0⟩,⟨0,0,0,0⟩,false)
def Ak (c:Int) (P:Pt):Bool:=cond P.2.2 true (!onB c P)
def FW (_:wU):Bool:=true
def Vt (x:wU):OT fx.Y:=.ok ⟨n8,((Ak x.2.1.1 x.1.1,()),x.2)⟩
theorem adf:ac Tryz.prog 71 (fx.aI FW Vt):=P7 _ _ λx oy hp ho=>by
 rw [<-ho]
 clear ho
 obtain ⟨⟨P,⟨⟩,⟨⟩⟩,⟨i,⟨⟩⟩⟩:=x
 show _=some (⟨n8,((Ak i.1 P,()),(i,()))⟩:fx.Y)
 unfold Ak
 rcases (Bool.eq_false_or_eq_true P.2.2).symm with h|h
 ·rw [h]
  exact (OT.ay h).trans rfl
 ·rw [h]
  exact (OT.ap h).trans rfl
def rQ:cN:=(fx.aI FW Vt)
theorem LN:ac Tryz.prog 71 rQ:=adf
theorem LM:aK rQ:=aB
def qP:Env:=aA 71 rQ Om
theorem na:aW Tryz.prog qP:=ai LN Ec
theorem vo:aw qP:=ae LM Ed
theorem zC:bc Tryz.prog te qP:=aO follows au na vo
def dY:aq:=⟨[.val false (.list (.prod .elem (.prod .elem .bool))),.fn 71 [0]],[(0,arh)],false,1,true⟩
abbrev qa:Type:=((List ((aa×(aa×Bool))))×(Unit)×Unit)×(((Int)×(Int)×(List ((aa×(aa×Bool))))×(UInt64)×(UInt64)×(UInt64)×(UInt64)×(UInt64)×(UInt64)×(UInt64)×(UInt64)×(Bool)×(UInt64)×(UInt64)×(UInt64)×(UInt64)×(UInt64)×(UInt64)×(UInt64)×(UInt64)×(Bool)×Unit)×Unit)
def lz:Shape:=⟨19,[(0,.val false (.list (.prod .elem (.prod .elem .bool)))),(1,.fn 71 [0]),(7,.val false .int),(8,.val false .int)],[(0,.cells [.val false .int,.val false .int,.val false (.list (.prod .elem (.prod .elem .bool))),.val false .u64,.val false .u64,.val false .u64,.val false .u64,.val false .u64,.val false .u64,.val false .u64,.val false .u64,.val false .bool,.val false .u64,.val false .u64,.val false .u64,.val false .u64,.val false .u64,.val false .u64,.val false .u64,.val false .u64,.val false .bool])],1,true⟩
abbrev aS:Type:=((List ((aa×(aa×Bool))))×(Unit)×(Int)×(Int)×Unit)×(((Int)×(Int)×(List ((aa×(aa×Bool))))×(UInt64)×(UInt64)×(UInt64)×(UInt64)×(UInt64)×(UInt64)×(UInt64)×(UInt64)×(Bool)×(UInt64)×(UInt64)×(UInt64)×(UInt64)×(UInt64)×(UInt64)×(UInt64)×(UInt64)×(Bool)×Unit)×Unit)
def kA:Shape:=⟨19,[(4,.val false .int)],[(0,.cells [.val false .int,.val false .int,.val false (.list (.prod .elem (.prod .elem .bool))),.val false .u64,.val false .u64,.val false .u64,.val false .u64,.val false .u64,.val false .u64,.val false .u64,.val false .u64,.val false .bool,.val false .u64,.val false .u64,.val false .u64,.val false .u64,.val false .u64,.val false .u64,.val false .u64,.val false .u64,.val false .bool])],1,true⟩
abbrev gk:Type:=((Int)×Unit)×(((Int)×(Int)×(List ((aa×(aa×Bool))))×(UInt64)×(UInt64)×(UInt64)×(UInt64)×(UInt64)×(UInt64)×(UInt64)×(UInt64)×(Bool)×(UInt64)×(UInt64)×(UInt64)×(UInt64)×(UInt64)×(UInt64)×(UInt64)×(UInt64)×(Bool)×Unit)×Unit)
def kB:Shape:=⟨19,[],[(0,.cells [.val false .int,.val false .int,.val false (.list (.prod .elem (.prod .elem .bool))),.val false .u64,.val false .u64,.val false .u64,.val false .u64,.val false .u64,.val false .u64,.val false .u64,.val false .u64,.val false .bool,.val false .u64,.val false .u64,.val false .u64,.val false .u64,.val false .u64,.val false .u64,.val false .u64,.val false .u64,.val false .bool])],1,true⟩
abbrev gl:Type:=(Unit)×(((Int)×(Int)×(List ((aa×(aa×Bool))))×(UInt64)×(UInt64)×(UInt64)×(UInt64)×(UInt64)×(UInt64)×(UInt64)×(UInt64)×(Bool)×(UInt64)×(UInt64)×(UInt64)×(UInt64)×(UInt64)×(UInt64)×(UInt64)×(UInt64)×(Bool)×Unit)×Unit)
def F3:SE->Option Shape:=kn [(0,kB)] (some kA)
def Yg (a0:List ((aa×(aa×Bool)))) (a7:Int) (a8:Int) (c0_0:Int) (c0_1:Int) (c0_2:List ((aa×(aa×Bool)))) (c0_3:UInt64) (c0_4:UInt64) (c0_5:UInt64) (c0_6:UInt64) (c0_7:UInt64) (c0_8:UInt64) (c0_9:UInt64) (c0_10:UInt64) (c0_11:Bool) (c0_12:UInt64) (c0_13:UInt64) (c0_14:UInt64) (c0_15:UInt64) (c0_16:UInt64) (c0_17:UInt64) (c0_18:UInt64) (c0_19:UInt64) (c0_20:Bool):OT (Sum aS aQ):=
 let z0:aa:= {w0:=0,w1:=0,w2:=0,w3:=0}
 (.br (decide (a8<a7))
 (gd [inB a8 (List.length a0)] (.br (Ak c0_0 (List.getD a0 (Int.toNat a8) (z0,z0,false)))
  (.ok (.inr ⟨(.ret,kA),((a8,()),((c0_0,(c0_1,(c0_2,(c0_3,(c0_4,(c0_5,(c0_6,(c0_7,(c0_8,(c0_9,(c0_10,(c0_11,(c0_12,(c0_13,(c0_14,(c0_15,(c0_16,(c0_17,(c0_18,(c0_19,(c0_20,()))))))))))))))))))))),()))⟩))
  (gd [inR (a8+(1:Int))] (.ok (.inl ((a0,((),(a7,(a8+(1:Int),())))),((c0_0,(c0_1,(c0_2,(c0_3,(c0_4,(c0_5,(c0_6,(c0_7,(c0_8,(c0_9,(c0_10,(c0_11,(c0_12,(c0_13,(c0_14,(c0_15,(c0_16,(c0_17,(c0_18,(c0_19,(c0_20,()))))))))))))))))))))),())))))))
 (.ok (.inr ⟨(.exit 0,kB),((),((c0_0,(c0_1,(c0_2,(c0_3,(c0_4,(c0_5,(c0_6,(c0_7,(c0_8,(c0_9,(c0_10,(c0_11,(c0_12,(c0_13,(c0_14,(c0_15,(c0_16,(c0_17,(c0_18,(c0_19,(c0_20,()))))))))))))))))))))),()))⟩)))
def lA (s:aS):OT (Sum aS aQ):=Yg (s.1.1) (s.1.2.2.1) (s.1.2.2.2.1) (s.2.1.1) (s.2.1.2.1) (s.2.1.2.2.1) (s.2.1.2.2.2.1) (s.2.1.2.2.2.2.1) (s.2.1.2.2.2.2.2.1) (s.2.1.2.2.2.2.2.2.1) (s.2.1.2.2.2.2.2.2.2.1) (s.2.1.2.2.2.2.2.2.2.2.1) (s.2.1.2.2.2.2.2.2.2.2.2.1) (s.2.1.2.2.2.2.2.2.2.2.2.2.1) (s.2.1.2.2.2.2.2.2.2.2.2.2.2.1) (s.2.1.2.2.2.2.2.2.2.2.2.2.2.2.1) (s.2.1.2.2.2.2.2.2.2.2.2.2.2.2.2.1) (s.2.1.2.2.2.2.2.2.2.2.2.2.2.2.2.2.1) (s.2.1.2.2.2.2.2.2.2.2.2.2.2.2.2.2.2.1) (s.2.1.2.2.2.2.2.2.2.2.2.2.2.2.2.2.2.2.1) (s.2.1.2.2.2.2.2.2.2.2.2.2.2.2.2.2.2.2.2.1) (s.2.1.2.2.2.2.2.2.2.2.2.2.2.2.2.2.2.2.2.2.1) (s.2.1.2.2.2.2.2.2.2.2.2.2.2.2.2.2.2.2.2.2.2.1) (s.2.1.2.2.2.2.2.2.2.2.2.2.2.2.2.2.2.2.2.2.2.2.1)
theorem Yd (s:aS) (Q:Sum aS aQ->Prop):wps te qP az 1000 (bL (ao Tryz.f112) 0) (lz.inj s) (df lz F3 (Q:Sum lz.T aQ->Prop))=(lA s).wpR Q:=by kernel_rfl
def p9 (g0_r:aS->gk) (c0_r:aS->Bool) (g0_0:aS->gl) (s:aS):OT aQ:=(.br (c0_r s) (.ok ⟨(.ret,kA),g0_r s⟩) (.ok ⟨(.exit 0,kB),g0_0 s⟩))
def gV:ax:=⟨[.val false .int],[(0,.cells [.val false .int,.val false .int,.val false (.list (.prod .elem (.prod .elem .bool))),.val false .u64,.val false .u64,.val false .u64,.val false .u64,.val false .u64,.val false .u64,.val false .u64,.val false .u64,.val false .bool,.val false .u64,.val false .u64,.val false .u64,.val false .u64,.val false .u64,.val false .u64,.val false .u64,.val false .u64,.val false .bool])],false⟩
def BJ:SV->Option ax:=λ_=>some gV
def BM (ok0:aS->Bool) (g0_r:aS->gk) (c0_r:aS->Bool) (g0_0:aS->gl) (a0:List ((aa×(aa×Bool)))) (c0_0:Int) (c0_1:Int) (c0_2:List ((aa×(aa×Bool)))) (c0_3:UInt64) (c0_4:UInt64) (c0_5:UInt64) (c0_6:UInt64) (c0_7:UInt64) (c0_8:UInt64) (c0_9:UInt64) (c0_10:UInt64) (c0_11:Bool) (c0_12:UInt64) (c0_13:UInt64) (c0_14:UInt64) (c0_15:UInt64) (c0_16:UInt64) (c0_17:UInt64) (c0_18:UInt64) (c0_19:UInt64) (c0_20:Bool):OT dY.Y:=
 let z0:(List (aa×aa×Bool)×PUnit×Int×Int×PUnit)×(Int×Int×List (aa×aa×Bool)×UInt64×UInt64×UInt64×UInt64×UInt64×UInt64×UInt64×UInt64×Bool×UInt64×UInt64×UInt64×UInt64×UInt64×UInt64×UInt64×UInt64×Bool×PUnit)×PUnit:=((a0,(),(↑(List.length a0):Int),(0:Int),()),(c0_0,c0_1,c0_2,c0_3,c0_4,c0_5,c0_6,c0_7,c0_8,c0_9,c0_10,c0_11,c0_12,c0_13,c0_14,c0_15,c0_16,c0_17,c0_18,c0_19,c0_20,()),())
 let z1:(Int×PUnit)×(Int×Int×List (aa×aa×Bool)×UInt64×UInt64×UInt64×UInt64×UInt64×UInt64×UInt64×UInt64×Bool×UInt64×UInt64×UInt64×UInt64×UInt64×UInt64×UInt64×UInt64×Bool×PUnit)×PUnit:=g0_r z0
 let z2:=z1.snd.fst
 let z3:=z2.snd
 let z4:=z3.snd
 let z5:=z4.snd
 let z6:=z5.snd
 let z7:=z6.snd
 let z8:=z7.snd
 let z9:=z8.snd
 let z10:=z9.snd
 let z11:=z10.snd
 let z12:=z11.snd
 let z13:=z12.snd
 let z14:=z13.snd
 let z15:=z14.snd
 let z16:=z15.snd
 let z17:=z16.snd
 let z18:=z17.snd
 let z19:=z18.snd
 let z20:=z19.snd
 let z21:=z20.snd
 let z22:=(g0_0 z0).snd.fst
 let z23:=z22.snd
 let z24:=z23.snd
 let z25:=z24.snd
 let z26:=z25.snd
 let z27:=z26.snd
 let z28:=z27.snd
 let z29:=z28.snd
 let z30:=z29.snd
 let z31:=z30.snd
 let z32:=z31.snd
 let z33:=z32.snd
 let z34:=z33.snd
 let z35:=z34.snd
 let z36:=z35.snd
 let z37:=z36.snd
 let z38:=z37.snd
 let z39:=z38.snd
 let z40:=z39.snd
 let z41:=z40.snd
 (gd [ok0 z0] (.br (c0_r z0)
 (.ok ⟨gV,((z1.fst.fst,()),((z2.fst,(z3.fst,(z4.fst,(z5.fst,(z6.fst,(z7.fst,(z8.fst,(z9.fst,(z10.fst,(z11.fst,(z12.fst,(z13.fst,(z14.fst,(z15.fst,(z16.fst,(z17.fst,(z18.fst,(z19.fst,(z20.fst,(z21.fst,(z21.snd.fst,()))))))))))))))))))))),()))⟩)
 (.ok ⟨gV,(((-1:Int),()),((z22.fst,(z23.fst,(z24.fst,(z25.fst,(z26.fst,(z27.fst,(z28.fst,(z29.fst,(z30.fst,(z31.fst,(z32.fst,(z33.fst,(z34.fst,(z35.fst,(z36.fst,(z37.fst,(z38.fst,(z39.fst,(z40.fst,(z41.fst,(z41.snd.fst,()))))))))))))))))))))),()))⟩)))
theorem adp (ok0:aS->Bool) (g0_r:aS->gk) (c0_r:aS->Bool) (g0_0:aS->gl) (x:qa) (Q:dY.Y->Prop):wpf te qP (bn 0 (dC lz 0 ok0 (p9 g0_r c0_r g0_0)) az) 1000 Tryz.f112 (dY.inp.inj x).tm (dY.inp.inj x).hp (fnK dY BJ Q) (λ_ _=>False)=(BM ok0 g0_r c0_r g0_0 (x.1.1) (x.2.1.1) (x.2.1.2.1) (x.2.1.2.2.1) (x.2.1.2.2.2.1) (x.2.1.2.2.2.2.1) (x.2.1.2.2.2.2.2.1) (x.2.1.2.2.2.2.2.2.1) (x.2.1.2.2.2.2.2.2.2.1) (x.2.1.2.2.2.2.2.2.2.2.1) (x.2.1.2.2.2.2.2.2.2.2.2.1) (x.2.1.2.2.2.2.2.2.2.2.2.2.1) (x.2.1.2.2.2.2.2.2.2.2.2.2.2.1) (x.2.1.2.2.2.2.2.2.2.2.2.2.2.2.1) (x.2.1.2.2.2.2.2.2.2.2.2.2.2.2.2.1) (x.2.1.2.2.2.2.2.2.2.2.2.2.2.2.2.2.1) (x.2.1.2.2.2.2.2.2.2.2.2.2.2.2.2.2.2.1) (x.2.1.2.2.2.2.2.2.2.2.2.2.2.2.2.2.2.2.1) (x.2.1.2.2.2.2.2.2.2.2.2.2.2.2.2.2.2.2.2.1) (x.2.1.2.2.2.2.2.2.2.2.2.2.2.2.2.2.2.2.2.2.1) (x.2.1.2.2.2.2.2.2.2.2.2.2.2.2.2.2.2.2.2.2.2.1) (x.2.1.2.2.2.2.2.2.2.2.2.2.2.2.2.2.2.2.2.2.2.2.1)).wpR Q:=by kernel_rfl
theorem L0 (ok0:aS->Bool) (g0_r:aS->gk) (c0_r:aS->Bool) (g0_0:aS->gl) (h0:∀ s:aS,ok0 s=true->∃ m e,av (lA) m s=some e/\(p9 g0_r c0_r g0_0 s).run=some e) (pre:qa->Bool) (F:qa->OT dY.Y) (hF:∀ (x:qa) oy,pre x=true->(F x).run=some oy->(BM ok0 g0_r c0_r g0_0 (x.1.1) (x.2.1.1) (x.2.1.2.1) (x.2.1.2.2.1) (x.2.1.2.2.2.1) (x.2.1.2.2.2.2.1) (x.2.1.2.2.2.2.2.1) (x.2.1.2.2.2.2.2.2.1) (x.2.1.2.2.2.2.2.2.2.1) (x.2.1.2.2.2.2.2.2.2.2.1) (x.2.1.2.2.2.2.2.2.2.2.2.1) (x.2.1.2.2.2.2.2.2.2.2.2.2.1) (x.2.1.2.2.2.2.2.2.2.2.2.2.2.1) (x.2.1.2.2.2.2.2.2.2.2.2.2.2.2.1) (x.2.1.2.2.2.2.2.2.2.2.2.2.2.2.2.1) (x.2.1.2.2.2.2.2.2.2.2.2.2.2.2.2.2.1) (x.2.1.2.2.2.2.2.2.2.2.2.2.2.2.2.2.2.1) (x.2.1.2.2.2.2.2.2.2.2.2.2.2.2.2.2.2.2.1) (x.2.1.2.2.2.2.2.2.2.2.2.2.2.2.2.2.2.2.2.1) (x.2.1.2.2.2.2.2.2.2.2.2.2.2.2.2.2.2.2.2.2.1) (x.2.1.2.2.2.2.2.2.2.2.2.2.2.2.2.2.2.2.2.2.2.1) (x.2.1.2.2.2.2.2.2.2.2.2.2.2.2.2.2.2.2.2.2.2.2.1)).run=some oy):ac Tryz.prog 112 (dY.aI pre F):=
 aE au na zC (f:=112) (fn:=Tryz.f112) (c:=ao Tryz.f112) (by kernel_rfl) (by kernel_rfl) (by kernel_rfl) (S:=dY) (k:=1) (by kernel_rfl) (λR hR=>(aH (c:=(ao Tryz.f112)) (by kernel_rfl) (id:=0) (by kernel_rfl) (bz au na zC (sh:=lz) hR (xs:=F3) (aJ (by kernel_rfl) (by kernel_rfl) hR) aY ag (n:=1000) (T:=lA) (λs Q=>Yd s Q) (ok:=ok0) (f:=p9 g0_r c0_r g0_0) h0) ag)) (n:=1000) (sel:=BJ) (λv o h=>by cases h;rfl) (pre:=pre) (F:=F) (T:=λx=>BM ok0 g0_r c0_r g0_0 (x.1.1) (x.2.1.1) (x.2.1.2.1) (x.2.1.2.2.1) (x.2.1.2.2.2.1) (x.2.1.2.2.2.2.1) (x.2.1.2.2.2.2.2.1) (x.2.1.2.2.2.2.2.2.1) (x.2.1.2.2.2.2.2.2.2.1) (x.2.1.2.2.2.2.2.2.2.2.1) (x.2.1.2.2.2.2.2.2.2.2.2.1) (x.2.1.2.2.2.2.2.2.2.2.2.2.1) (x.2.1.2.2.2.2.2.2.2.2.2.2.2.1) (x.2.1.2.2.2.2.2.2.2.2.2.2.2.2.1) (x.2.1.2.2.2.2.2.2.2.2.2.2.2.2.2.1) (x.2.1.2.2.2.2.2.2.2.2.2.2.2.2.2.2.1) (x.2.1.2.2.2.2.2.2.2.2.2.2.2.2.2.2.2.1) (x.2.1.2.2.2.2.2.2.2.2.2.2.2.2.2.2.2.2.1) (x.2.1.2.2.2.2.2.2.2.2.2.2.2.2.2.2.2.2.2.1) (x.2.1.2.2.2.2.2.2.2.2.2.2.2.2.2.2.2.2.2.2.1) (x.2.1.2.2.2.2.2.2.2.2.2.2.2.2.2.2.2.2.2.2.2.1) (x.2.1.2.2.2.2.2.2.2.2.2.2.2.2.2.2.2.2.2.2.2.2.1)) (λx Q=>adp ok0 g0_r c0_r g0_0 x Q) hF
def oP (l:List Pt) (i:alt):Nat->Nat->Int
 |0,_=> -1
 |n+1,k=>cond (Ak i.1 (l.getD k yV)) (k:Int) (oP l i n (k+1))
def BK (s:aS):Bool:=decide (s.1.2.2.1=(s.1.1.length:Int)/\s.1.2.2.2.1=0/\s.1.1.length<=140737488355328)
def iP (l:List Pt) (i:alt):Int:=oP l i l.length 0
def BL (s:aS):gk:=((iP s.1.1 s.2.1,()),s.2)
def F5 (s:aS):Bool:=decide (0<=iP s.1.1 s.2.1)
def F4 (s:aS):gl:=((),s.2)
def BN (l:List Pt) (i:alt) (k:Int):aS:=((l,(),(l.length:Int),k,()),(i,()))
theorem GI (l:List Pt) (i:alt):∀ n k,oP l i n k= -1\/0<=oP l i n k
 |0,_=>.inl rfl
 |n+1,k=>by
  unfold oP
  cases Ak i.1 (l.getD k yV)
  ·exact GI l i n (k+1)
  ·right
   show (0:Int)<=(k:Int)
   omega
theorem L4 (l:List Pt) (i:alt) (hl:l.length<=140737488355328):∀ n k:Nat,k+n=l.length->
 ∃ m,av lA m (BN l i (k:Int))=some (cond (decide (0<=oP l i n k)) ⟨(.ret,kA),((oP l i n k,()),(i,()))⟩ ⟨(.exit 0,kB),((),(i,()))⟩)
 |0,k,h=>⟨1,aR (OT.ay (decide_eq_false (by dsimp only [BN];omega)))⟩
 |n+1,k,h=>by
  have hin:inB (k:Int) l.length=true:=bG (by omega)
  have hgd:∀ z:OT (Sum aS aQ),(gd [inB (k:Int) l.length] z).run=z.run:=λz=>al (by rw [hin];rfl)
  unfold oP
  rcases (Bool.eq_false_or_eq_true (Ak i.1 (l.getD k yV))).symm with hb|hb
  ·obtain ⟨m,hm⟩:=L4 l i hl n (k+1) (by omega)
   rw [hb]
   refine ⟨m+1,aM ?_ hm⟩
   refine (OT.ap (decide_eq_true (by dsimp only [BN];omega))).trans ((hgd _).trans ((OT.ay hb).trans ((al ?_).trans rfl)))
   simp only [List.all_cons,List.all_nil,Bool.and_true]
   exact bF (by dsimp only [BN];omega)
  ·rw [hb]
   have e:decide ((0:Int)<=cond true (k:Int) (oP l i n (k+1)))=true:=decide_eq_true (by show (0:Int)<=(k:Int);omega)
   rw [e]
   refine ⟨1,aR ?_⟩
   exact (OT.ap (decide_eq_true (by dsimp only [BN];omega))).trans ((hgd _).trans ((OT.ap hb).trans rfl))
theorem Yf:∀ s:aS,BK s=true->∃ m e,av lA m s=some e/\(p9 BL F5 F4 s).run=some e:=by
 rintro ⟨⟨l,⟨⟩,n,k,⟨⟩⟩,⟨i,⟨⟩⟩⟩ h
 have h':=of_decide_eq_true h
 dsimp only at h'
 obtain ⟨rfl,rfl,hl⟩:=h'
 obtain ⟨m,hm⟩:=L4 l i hl l.length 0 (by omega)
 refine ⟨m,_,hm,?_⟩
 show (OT.br (decide (0<=iP l i)) _ _:OT aQ).run=some (cond (decide (0<=iP l i)) _ _)
 cases decide (0<=iP l i)<;>rfl
def rW (x:qa):Bool:=decide (x.1.1.length<=140737488355328)
def L3 (x:qa):OT dY.Y:=.ok ⟨gV,((iP x.1.1 x.2.1,()),x.2)⟩
theorem Ye:ac Tryz.prog 112 (dY.aI rW L3):=L0 BK BL F5 F4 Yf _ _ λx oy hp ho=>by
 rw [<-ho]
 clear ho
 obtain ⟨⟨l,⟨⟩,⟨⟩⟩,⟨i,⟨⟩⟩⟩:=x
 have hl:l.length<=140737488355328:=of_decide_eq_true hp
 refine (al ?_).trans ?_
 ·simp only [List.all_cons,List.all_nil,Bool.and_true]
  exact decide_eq_true ⟨rfl,rfl,hl⟩
 ·show (OT.br (decide (0<=iP l i)) (.ok ⟨gV,((iP l i,()),(i,()))⟩) (.ok ⟨gV,(((-1:Int),()),(i,()))⟩):OT dY.Y).run=some ⟨gV,((iP l i,()),(i,()))⟩
  rcases GI l i l.length 0 with h|h
  ·have h:iP l i= -1:=h
   rw [h]
   rfl
  ·exact OT.ap (decide_eq_true h)
def og:cN:=(dY.aI rW L3)
theorem Ip:ac Tryz.prog 112 og:=Ye
theorem Io:aK og:=aB
def pf:Env:=aA 112 og qP
theorem pe:aW Tryz.prog pf:=ai Ip na
theorem rn:aw pf:=ae Io vo
theorem Kf:bc Tryz.prog te pf:=aO follows au pe rn
def gn:aq:=⟨[.val false (.list (.prod .elem (.prod .elem .bool))),.fn 71 [0]],[(0,arh)],false,1,true⟩
abbrev xe:Type:=((List ((aa×(aa×Bool))))×(Unit)×Unit)×(((Int)×(Int)×(List ((aa×(aa×Bool))))×(UInt64)×(UInt64)×(UInt64)×(UInt64)×(UInt64)×(UInt64)×(UInt64)×(UInt64)×(Bool)×(UInt64)×(UInt64)×(UInt64)×(UInt64)×(UInt64)×(UInt64)×(UInt64)×(UInt64)×(Bool)×Unit)×Unit)
def BR:ax:=⟨[.val false .bool],[(0,.cells [.val false .int,.val false .int,.val false (.list (.prod .elem (.prod .elem .bool))),.val false .u64,.val false .u64,.val false .u64,.val false .u64,.val false .u64,.val false .u64,.val false .u64,.val false .u64,.val false .bool,.val false .u64,.val false .u64,.val false .u64,.val false .u64,.val false .u64,.val false .u64,.val false .u64,.val false .u64,.val false .bool])],false⟩
def F8:SV->Option ax:=λ_=>some BR
def Is (a0:List ((aa×(aa×Bool)))) (c0_0:Int) (c0_1:Int) (c0_2:List ((aa×(aa×Bool)))) (c0_3:UInt64) (c0_4:UInt64) (c0_5:UInt64) (c0_6:UInt64) (c0_7:UInt64) (c0_8:UInt64) (c0_9:UInt64) (c0_10:UInt64) (c0_11:Bool) (c0_12:UInt64) (c0_13:UInt64) (c0_14:UInt64) (c0_15:UInt64) (c0_16:UInt64) (c0_17:UInt64) (c0_18:UInt64) (c0_19:UInt64) (c0_20:Bool):OT gn.Y:=
 let z0:Int×Int×List (aa×aa×Bool)×UInt64×UInt64×UInt64×UInt64×UInt64×UInt64×UInt64×UInt64×Bool×UInt64×UInt64×UInt64×UInt64×UInt64×UInt64×UInt64×UInt64×Bool×PUnit:=(c0_0,c0_1,c0_2,c0_3,c0_4,c0_5,c0_6,c0_7,c0_8,c0_9,c0_10,c0_11,c0_12,c0_13,c0_14,c0_15,c0_16,c0_17,c0_18,c0_19,c0_20,())
 (gd [rW ((a0,(),()),z0,())] (.ok ⟨BR,((decide ((0:Int)<=iP a0 z0),()),((c0_0,(c0_1,(c0_2,(c0_3,(c0_4,(c0_5,(c0_6,(c0_7,(c0_8,(c0_9,(c0_10,(c0_11,(c0_12,(c0_13,(c0_14,(c0_15,(c0_16,(c0_17,(c0_18,(c0_19,(c0_20,()))))))))))))))))))))),()))⟩))
theorem ajh (x:xe) (Q:gn.Y->Prop):wpf te pf az 1000 Tryz.f72 (gn.inp.inj x).tm (gn.inp.inj x).hp (fnK gn F8 Q) (λ_ _=>False)=(Is (x.1.1) (x.2.1.1) (x.2.1.2.1) (x.2.1.2.2.1) (x.2.1.2.2.2.1) (x.2.1.2.2.2.2.1) (x.2.1.2.2.2.2.2.1) (x.2.1.2.2.2.2.2.2.1) (x.2.1.2.2.2.2.2.2.2.1) (x.2.1.2.2.2.2.2.2.2.2.1) (x.2.1.2.2.2.2.2.2.2.2.2.1) (x.2.1.2.2.2.2.2.2.2.2.2.2.1) (x.2.1.2.2.2.2.2.2.2.2.2.2.2.1) (x.2.1.2.2.2.2.2.2.2.2.2.2.2.2.1) (x.2.1.2.2.2.2.2.2.2.2.2.2.2.2.2.1) (x.2.1.2.2.2.2.2.2.2.2.2.2.2.2.2.2.1) (x.2.1.2.2.2.2.2.2.2.2.2.2.2.2.2.2.2.1) (x.2.1.2.2.2.2.2.2.2.2.2.2.2.2.2.2.2.2.1) (x.2.1.2.2.2.2.2.2.2.2.2.2.2.2.2.2.2.2.2.1) (x.2.1.2.2.2.2.2.2.2.2.2.2.2.2.2.2.2.2.2.2.1) (x.2.1.2.2.2.2.2.2.2.2.2.2.2.2.2.2.2.2.2.2.2.1) (x.2.1.2.2.2.2.2.2.2.2.2.2.2.2.2.2.2.2.2.2.2.2.1)).wpR Q:=by kernel_rfl
theorem Qk (pre:xe->Bool) (F:xe->OT gn.Y) (hF:∀ (x:xe) oy,pre x=true->(F x).run=some oy->(Is (x.1.1) (x.2.1.1) (x.2.1.2.1) (x.2.1.2.2.1) (x.2.1.2.2.2.1) (x.2.1.2.2.2.2.1) (x.2.1.2.2.2.2.2.1) (x.2.1.2.2.2.2.2.2.1) (x.2.1.2.2.2.2.2.2.2.1) (x.2.1.2.2.2.2.2.2.2.2.1) (x.2.1.2.2.2.2.2.2.2.2.2.1) (x.2.1.2.2.2.2.2.2.2.2.2.2.1) (x.2.1.2.2.2.2.2.2.2.2.2.2.2.1) (x.2.1.2.2.2.2.2.2.2.2.2.2.2.2.1) (x.2.1.2.2.2.2.2.2.2.2.2.2.2.2.2.1) (x.2.1.2.2.2.2.2.2.2.2.2.2.2.2.2.2.1) (x.2.1.2.2.2.2.2.2.2.2.2.2.2.2.2.2.2.1) (x.2.1.2.2.2.2.2.2.2.2.2.2.2.2.2.2.2.2.1) (x.2.1.2.2.2.2.2.2.2.2.2.2.2.2.2.2.2.2.2.1) (x.2.1.2.2.2.2.2.2.2.2.2.2.2.2.2.2.2.2.2.2.1) (x.2.1.2.2.2.2.2.2.2.2.2.2.2.2.2.2.2.2.2.2.2.1) (x.2.1.2.2.2.2.2.2.2.2.2.2.2.2.2.2.2.2.2.2.2.2.1)).run=some oy):ac Tryz.prog 72 (gn.aI pre F):=
 aE au pe Kf (f:=72) (fn:=Tryz.f72) (c:=ao Tryz.f72) (by kernel_rfl) (by kernel_rfl) (by kernel_rfl) (S:=gn) (k:=1) (by kernel_rfl) (λR hR=>ag) (n:=1000) (sel:=F8) (λv o h=>by cases h;rfl) (pre:=pre) (F:=F) (T:=λx=>Is (x.1.1) (x.2.1.1) (x.2.1.2.1) (x.2.1.2.2.1) (x.2.1.2.2.2.1) (x.2.1.2.2.2.2.1) (x.2.1.2.2.2.2.2.1) (x.2.1.2.2.2.2.2.2.1) (x.2.1.2.2.2.2.2.2.2.1) (x.2.1.2.2.2.2.2.2.2.2.1) (x.2.1.2.2.2.2.2.2.2.2.2.1) (x.2.1.2.2.2.2.2.2.2.2.2.2.1) (x.2.1.2.2.2.2.2.2.2.2.2.2.2.1) (x.2.1.2.2.2.2.2.2.2.2.2.2.2.2.1) (x.2.1.2.2.2.2.2.2.2.2.2.2.2.2.2.1) (x.2.1.2.2.2.2.2.2.2.2.2.2.2.2.2.2.1) (x.2.1.2.2.2.2.2.2.2.2.2.2.2.2.2.2.2.1) (x.2.1.2.2.2.2.2.2.2.2.2.2.2.2.2.2.2.2.1) (x.2.1.2.2.2.2.2.2.2.2.2.2.2.2.2.2.2.2.2.1) (x.2.1.2.2.2.2.2.2.2.2.2.2.2.2.2.2.2.2.2.2.1) (x.2.1.2.2.2.2.2.2.2.2.2.2.2.2.2.2.2.2.2.2.2.1) (x.2.1.2.2.2.2.2.2.2.2.2.2.2.2.2.2.2.2.2.2.2.2.1)) (λx Q=>ajh x Q) hF
def af4 (l:List Pt) (i:alt):Bool:=decide (0<=iP l i)
def xd (x:xe):Bool:=decide (x.1.1.length<=140737488355328)
def VA (x:xe):OT gn.Y:=.ok ⟨BR,((af4 x.1.1 x.2.1,()),x.2)⟩
theorem ads:ac Tryz.prog 72 (gn.aI xd VA):=Qk _ _ λx oy hp ho=>by
 rw [<-ho]
 clear ho
 refine (al ?_).trans rfl
 simp only [List.all_cons,List.all_nil,Bool.and_true]
 exact hp
def rY:cN:=(gn.aI xd VA)
theorem L9:ac Tryz.prog 72 rY:=ads
theorem L8:aK rY:=aB
def vu:Env:=aA 72 rY pf
theorem sW:aW Tryz.prog vu:=ai L9 pe
theorem vt:aw vu:=ae L8 rn
theorem Oj:bc Tryz.prog te vu:=aO follows au sW vt
def fy:aq:=⟨[.val true aq2],[],true,0,false⟩
abbrev xg:Type:=(((Int×(Int×(List ((aa×(aa×Bool)))×((aa×(aa×Bool))×(aa×(aa×Bool)))))))×Unit)×(Unit)
def eP:ax:=⟨[.val false .int],[],false⟩
def Ga:SV->Option ax:=λ_=>some eP
def ue (a0:(Int×(Int×(List ((aa×(aa×Bool)))×((aa×(aa×Bool))×(aa×(aa×Bool))))))):OT fy.Y:=
 let z0:Int×Int×List (aa×aa×Bool)×UInt64×UInt64×UInt64×UInt64×UInt64×UInt64×UInt64×UInt64×Bool×UInt64×UInt64×UInt64×UInt64×UInt64×UInt64×UInt64×UInt64×Bool×PUnit:=(a0.fst,a0.snd.fst,a0.snd.snd.fst,a0.snd.snd.snd.fst.fst.w0,a0.snd.snd.snd.fst.fst.w1,a0.snd.snd.snd.fst.fst.w2,a0.snd.snd.snd.fst.fst.w3,a0.snd.snd.snd.fst.snd.fst.w0,a0.snd.snd.snd.fst.snd.fst.w1,a0.snd.snd.snd.fst.snd.fst.w2,a0.snd.snd.snd.fst.snd.fst.w3,a0.snd.snd.snd.fst.snd.snd,a0.snd.snd.snd.snd.fst.w0,a0.snd.snd.snd.snd.fst.w1,a0.snd.snd.snd.snd.fst.w2,a0.snd.snd.snd.snd.fst.w3,a0.snd.snd.snd.snd.snd.fst.w0,a0.snd.snd.snd.snd.snd.fst.w1,a0.snd.snd.snd.snd.snd.fst.w2,a0.snd.snd.snd.snd.snd.fst.w3,a0.snd.snd.snd.snd.snd.snd,())
 (.br (ak a0.fst)
 (.br (decide (a0.snd.fst<(0:Int)))
  (.ok ⟨eP,(((60:Int),()),())⟩)
  (.br (decide ((5:Int)<a0.snd.fst))
   (.ok ⟨eP,(((60:Int),()),())⟩)
   (gd [decide ((0:Int)<=a0.snd.fst)] (.br (!(↑(List.length a0.snd.snd.fst):Int)==aed (1:Int) a0.snd.fst)
    (.ok ⟨eP,(((90:Int),()),())⟩)
    (gd [xd ((a0.snd.snd.fst,(),()),z0,())] (.br (af4 a0.snd.snd.fst z0)
     (.ok ⟨eP,(((90:Int),()),())⟩)
     (.br (Ak a0.fst a0.snd.snd.snd.fst)
      (.ok ⟨eP,(((90:Int),()),())⟩)
      (.br (Ak a0.fst a0.snd.snd.snd.snd)
       (.ok ⟨eP,(((90:Int),()),())⟩)
       (.ok ⟨eP,(((0:Int),()),())⟩)))))))))
 (.ok ⟨eP,(((40:Int),()),())⟩))
theorem aji (x:xg) (Q:fy.Y->Prop):wpf te vu az 1000 Tryz.f35 (fy.inp.inj x).tm (fy.inp.inj x).hp (fnK fy Ga Q) (λ_ _=>False)=(ue (x.1.1)).wpR Q:=by kernel_rfl
theorem Ql (pre:xg->Bool) (F:xg->OT fy.Y) (hF:∀ (x:xg) oy,pre x=true->(F x).run=some oy->(ue (x.1.1)).run=some oy):ac Tryz.prog 35 (fy.aI pre F):=
 aE au sW Oj (f:=35) (fn:=Tryz.f35) (c:=ao Tryz.f35) (by kernel_rfl) (by kernel_rfl) (by kernel_rfl) (S:=fy) (k:=0) (by kernel_rfl) (λR hR=>ag) (n:=1000) (sel:=Ga) (λv o h=>by cases h;rfl) (pre:=pre) (F:=F) (T:=λx=>ue (x.1.1)) (λx Q=>aji x Q) hF
abbrev alu:Type:=Int×(Int×(List Pt×(Pt×Pt)))
theorem W9 (l:List Pt) (i:alt):∀ n k:Nat,k+n=l.length->decide (0<=oP l i n k)=(l.drop k).any (Ak i.1)
 |0,k,h=>by
  rw [List.drop_eq_nil_of_le (by omega)]
  rfl
 |n+1,k,h=>by
  have hk:k<l.length:=by omega
  have e1:l.drop k=l[k]::l.drop (k+1):=List.drop_eq_getElem_cons hk
  have e3:l.getD k yV=l[k]:=by rw [List.getD_eq_getElem?_getD,List.getElem?_eq_getElem hk];rfl
  rw [e1,List.any_cons]
  unfold oP
  rw [e3]
  cases Ak i.1 l[k]
  ·rw [cond_false,Bool.false_or]
   exact W9 l i n (k+1) (by omega)
  ·rw [cond_true,Bool.true_or]
   exact decide_eq_true (by omega)
theorem aoZ (l:List Pt) (i:alt):af4 l i=l.any (Ak i.1):=W9 l i l.length 0 (by omega)
def gK (p:alu):Int:=cond (ak p.1) (cond (decide (p.2.1<0)) 60 (cond (decide (5<p.2.1)) 60 (cond (!((p.2.2.1.length:Int)==aed 1 p.2.1)) 90 (cond (p.2.2.1.any (Ak p.1)) 90 (cond (Ak p.1 p.2.2.2.1) 90 (cond (Ak p.1 p.2.2.2.2) 90 0)))))) 40
def jh (x:xg):Bool:=decide (x.1.1.2.2.1.length<=140737488355328)
def VB (x:xg):OT fy.Y:=.ok ⟨eP,((gK x.1.1,()),())⟩
theorem adu:ac Tryz.prog 35 (fy.aI jh VB):=Ql _ _ λx oy hp ho=>by
 rw [<-ho]
 clear ho
 obtain ⟨⟨p,⟨⟩⟩,⟨⟩⟩:=x
 show (ue p).run=some (⟨eP,((gK p,()),())⟩:fy.Y)
 have hp:decide (p.2.2.1.length<=140737488355328)=true:=hp
 unfold ue gK
 simp only [aoZ]
 rcases (Bool.eq_false_or_eq_true (ak p.1)).symm with h1|h1
 ·rw [h1];exact (OT.ay rfl).trans rfl
 ·rw [h1]
  refine (OT.ap rfl).trans ?_
  by_cases h2:p.2.1<0
  ·rw [decide_eq_true h2];exact (OT.ap rfl).trans rfl
  ·rw [decide_eq_false h2]
   refine (OT.ay rfl).trans ?_
   by_cases h3:5<p.2.1
   ·rw [decide_eq_true h3];exact (OT.ap rfl).trans rfl
   ·rw [decide_eq_false h3]
    refine (OT.ay rfl).trans ((al (by rw [decide_eq_true (show 0<=p.2.1 by omega)];rfl)).trans ?_)
    rcases (Bool.eq_false_or_eq_true (!((p.2.2.1.length:Int)==aed 1 p.2.1))).symm with h4|h4
    ·rw [h4]
     refine (OT.ay rfl).trans ((al ?_).trans ?_)
     ·simp only [List.all_cons,List.all_nil,Bool.and_true]
      exact hp
     ·rcases (Bool.eq_false_or_eq_true (p.2.2.1.any (Ak p.1))).symm with h5|h5
      ·rw [h5]
       refine (OT.ay rfl).trans ?_
       rcases (Bool.eq_false_or_eq_true (Ak p.1 p.2.2.2.1)).symm with h6|h6
       ·rw [h6]
        refine (OT.ay rfl).trans ?_
        rcases (Bool.eq_false_or_eq_true (Ak p.1 p.2.2.2.2)).symm with h7|h7
        ·rw [h7];exact (OT.ay rfl).trans rfl
        ·rw [h7];exact (OT.ap rfl).trans rfl
       ·rw [h6];exact (OT.ap rfl).trans rfl
      ·rw [h5];exact (OT.ap rfl).trans rfl
    ·rw [h4];exact (OT.ap rfl).trans rfl
def r6:cN:=(fy.aI jh VB)
theorem Md:ac Tryz.prog 35 r6:=adu
theorem Mc:aK r6:=aB
def vw:Env:=aA 35 r6 vu
theorem sX:aW Tryz.prog vw:=ai Md sW
theorem vv:aw vw:=ae Mc vt
theorem Ok:bc Tryz.prog te vw:=aO follows au sX vv
def jO:aq:=⟨[.val false (.list (.prod .elem (.prod .elem .bool)))],[],true,0,false⟩
abbrev F7:Type:=((List ((aa×(aa×Bool))))×Unit)×(Unit)
def Ir:ax:=⟨[.own 0],[(0,.row (.prod .elem (.prod .elem .bool)))],false⟩
def L7:SV->Option ax:=λ_=>some Ir
def Qj (a0:List ((aa×(aa×Bool)))):OT jO.Y:=
 (gd [decide ((0+List.length a0)*72<=140737488355328)] (.ok ⟨Ir,(((),()),([]++a0,()))⟩))
theorem anH (x:F7) (Q:jO.Y->Prop):wpf te vw az 1000 Tryz.f46 (jO.inp.inj x).tm (jO.inp.inj x).hp (fnK jO L7 Q) (λ_ _=>False)=(Qj (x.1.1)).wpR Q:=by kernel_rfl
theorem Yh (pre:F7->Bool) (F:F7->OT jO.Y) (hF:∀ (x:F7) oy,pre x=true->(F x).run=some oy->(Qj (x.1.1)).run=some oy):ac Tryz.prog 46 (jO.aI pre F):=
 aE au sX Ok (f:=46) (fn:=Tryz.f46) (c:=ao Tryz.f46) (by kernel_rfl) (by kernel_rfl) (by kernel_rfl) (S:=jO) (k:=0) (by kernel_rfl) (λR hR=>ag) (n:=1000) (sel:=L7) (λv o h=>by cases h;rfl) (pre:=pre) (F:=F) (T:=λx=>Qj (x.1.1)) (λx Q=>anH x Q) hF
def BQ (x:F7):Bool:=decide (x.1.1.length*72<=140737488355328)
def adr (x:F7):OT jO.Y:=.ok ⟨Ir,(((),()),(x.1.1,()))⟩
theorem ajg:ac Tryz.prog 46 (jO.aI BQ adr):=Yh _ _ λx oy hp ho=>by
 rw [<-ho]
 have hp':x.1.1.length*72<=140737488355328:=of_decide_eq_true hp
 refine (al ?_).trans rfl
 simp only [List.all_cons,List.all_nil,Bool.and_true,Bool.and_eq_true]
 exact decide_eq_true (by omega)
def xb:cN:=(jO.aI BQ adr)
theorem Qi:ac Tryz.prog 46 xb:=ajg
theorem Qh:aK xb:=aB
def D9:Env:=aA 46 xb vw
theorem yr:aW Tryz.prog D9:=ai Qi sX
theorem zF:aw D9:=ae Qh vv
theorem Sg:bc Tryz.prog te D9:=aO follows au yr zF
def gm:aq:=⟨[.val true aq2],[],false,0,false⟩
abbrev xa:Type:=(((Int×(Int×(List ((aa×(aa×Bool)))×((aa×(aa×Bool))×(aa×(aa×Bool)))))))×Unit)×(Unit)
def BP:ax:=⟨[.val true (.prod .int (.prod .int (.prod (.list (.prod .elem (.prod .elem .bool))) (.prod (.prod .elem (.prod .elem .bool)) (.prod .elem (.prod .elem .bool))))))],[],false⟩
def F6:SV->Option ax:=λ_=>some BP
def Iq (a0:(Int×(Int×(List ((aa×(aa×Bool)))×((aa×(aa×Bool))×(aa×(aa×Bool))))))):OT gm.Y:=
 (gd [BQ ((a0.snd.snd.fst,()),())] (.ok ⟨BP,((a0,()),())⟩))
theorem ajf (x:xa) (Q:gm.Y->Prop):wpf te D9 az 1000 Tryz.f36 (gm.inp.inj x).tm (gm.inp.inj x).hp (fnK gm F6 Q) (λ_ _=>False)=(Iq (x.1.1)).wpR Q:=by kernel_rfl
theorem Qg (pre:xa->Bool) (F:xa->OT gm.Y) (hF:∀ (x:xa) oy,pre x=true->(F x).run=some oy->(Iq (x.1.1)).run=some oy):ac Tryz.prog 36 (gm.aI pre F):=
 aE au yr Sg (f:=36) (fn:=Tryz.f36) (c:=ao Tryz.f36) (by kernel_rfl) (by kernel_rfl) (by kernel_rfl) (S:=gm) (k:=0) (by kernel_rfl) (λR hR=>ag) (n:=1000) (sel:=F6) (λv o h=>by cases h;rfl) (pre:=pre) (F:=F) (T:=λx=>Iq (x.1.1)) (λx Q=>ajf x Q) hF
def lB (x:xa):Bool:=decide (x.1.1.2.2.1.length*72<=140737488355328)
def Vz (x:xa):OT gm.Y:=.ok ⟨BP,((x.1.1,()),())⟩
theorem adq:ac Tryz.prog 36 (gm.aI lB Vz):=Qg _ _ λx oy hp ho=>by
 rw [<-ho]
 clear ho
 obtain ⟨⟨⟨c,k,G,W,U⟩,⟨⟩⟩,⟨⟩⟩:=x
 refine (al ?_).trans rfl
 simp only [List.all_cons,List.all_nil,Bool.and_true]
 exact hp
def rX:cN:=(gm.aI lB Vz)
theorem L6:ac Tryz.prog 36 rX:=adq
theorem L5:aK rX:=aB
def qR:Env:=aA 36 rX D9
theorem nc:aW Tryz.prog qR:=ai L6 yr
theorem vr:aw qR:=ae L5 zF
theorem zE:bc Tryz.prog te qR:=aO follows au nc vr
def jM:aq:=⟨[.val false (.list (.prod .elem (.prod .elem .bool))),.val false (.list (.prod .elem (.prod .elem .bool)))],[],true,0,false⟩
abbrev F1:Type:=((List ((aa×(aa×Bool))))×(List ((aa×(aa×Bool))))×Unit)×(Unit)
def tY:Shape:=⟨26,[(0,.val false (.list (.prod .elem (.prod .elem .bool)))),(1,.val false (.list (.prod .elem (.prod .elem .bool)))),(5,.val false .int)],[],0,true⟩
abbrev bt:Type:=((List ((aa×(aa×Bool))))×(List ((aa×(aa×Bool))))×(Int)×Unit)×(Unit)
def pW:Shape:=⟨26,[(4,.val false .bool)],[],0,true⟩
abbrev jK:Type:=((Bool)×Unit)×(Unit)
def pX:Shape:=⟨26,[],[],0,true⟩
abbrev jL:Type:=(Unit)×(Unit)
def Vx:SE->Option Shape:=kn [(0,pX)] (some pW)
def ai9 (a0:List ((aa×(aa×Bool)))) (a1:List ((aa×(aa×Bool)))) (a5:Int):OT (Sum bt aQ):=
 let z0:Nat:=List.length a0
 let z1:Nat:=Int.toNat a5
 let z2:aa:= {w0:=0,w1:=0,w2:=0,w3:=0}
 let z3:aa×aa×Bool:=(z2,z2,false)
 let z4:aa×aa×Bool:=List.getD a0 z1 z3
 let z5:=z4.fst
 let z6:aa×aa×Bool:=List.getD a1 z1 z3
 let z7:=z6.fst
 let z8:=z4.snd
 let z9:=z8.fst
 let z10:=z6.snd
 let z11:=z10.fst
 (.br (decide (a5<(↑z0:Int)))
 (gd [inB a5 z0,inB a5 (List.length a1)] (.br (!(z5.w0==z7.w0&&(z5.w1==z7.w1&&(z5.w2==z7.w2&&(z5.w3==z7.w3&&true)))&&(z9.w0==z11.w0&&(z9.w1==z11.w1&&(z9.w2==z11.w2&&(z9.w3==z11.w3&&true)))&&(z8.snd==z10.snd&&true))))
  (.ok (.inr ⟨(.ret,pW),((false,()),())⟩))
  (gd [inR (a5+(1:Int))] (.ok (.inl ((a0,(a1,(a5+(1:Int),()))),()))))))
 (.ok (.inr ⟨(.exit 0,pX),((),())⟩)))
def ua (s:bt):OT (Sum bt aQ):=ai9 (s.1.1) (s.1.2.1) (s.1.2.2.1)
theorem ai6 (s:bt) (Q:Sum bt aQ->Prop):wps te qR az 1000 (bL (ao Tryz.f70) 0) (tY.inj s) (df tY Vx (Q:Sum tY.T aQ->Prop))=(ua s).wpR Q:=by kernel_rfl
def pV (g0_r:bt->jK) (c0_r:bt->Bool) (g0_0:bt->jL) (s:bt):OT aQ:=(.br (c0_r s) (.ok ⟨(.ret,pW),g0_r s⟩) (.ok ⟨(.exit 0,pX),g0_0 s⟩))
def tZ:ax:=⟨[.val false .bool],[],false⟩
def LR:SV->Option ax:=λ_=>some tZ
def Qd (ok0:bt->Bool) (g0_r:bt->jK) (c0_r:bt->Bool) (g0_0:bt->jL) (a0:List ((aa×(aa×Bool)))) (a1:List ((aa×(aa×Bool)))):OT jM.Y:=
 let z0:(List (aa×aa×Bool)×List (aa×aa×Bool)×Int×PUnit)×PUnit:=((a0,a1,(0:Int),()),())
 (.br (!(↑(List.length a0):Int)==(↑(List.length a1):Int))
 (.ok ⟨tZ,((false,()),())⟩)
 (gd [ok0 z0] (.br (c0_r z0)
  (.ok ⟨tZ,(((g0_r z0).fst.fst,()),())⟩)
  (.ok ⟨tZ,((true,()),())⟩))))
theorem anC (ok0:bt->Bool) (g0_r:bt->jK) (c0_r:bt->Bool) (g0_0:bt->jL) (x:F1) (Q:jM.Y->Prop):wpf te qR (bn 0 (dC tY 0 ok0 (pV g0_r c0_r g0_0)) az) 1000 Tryz.f70 (jM.inp.inj x).tm (jM.inp.inj x).hp (fnK jM LR Q) (λ_ _=>False)=(Qd ok0 g0_r c0_r g0_0 (x.1.1) (x.1.2.1)).wpR Q:=by kernel_rfl
theorem X9 (ok0:bt->Bool) (g0_r:bt->jK) (c0_r:bt->Bool) (g0_0:bt->jL) (h0:∀ s:bt,ok0 s=true->∃ m e,av (ua) m s=some e/\(pV g0_r c0_r g0_0 s).run=some e) (pre:F1->Bool) (F:F1->OT jM.Y) (hF:∀ (x:F1) oy,pre x=true->(F x).run=some oy->(Qd ok0 g0_r c0_r g0_0 (x.1.1) (x.1.2.1)).run=some oy):ac Tryz.prog 70 (jM.aI pre F):=
 aE au nc zE (f:=70) (fn:=Tryz.f70) (c:=ao Tryz.f70) (by kernel_rfl) (by kernel_rfl) (by kernel_rfl) (S:=jM) (k:=0) (by kernel_rfl) (λR hR=>(aH (c:=(ao Tryz.f70)) (by kernel_rfl) (id:=0) (by kernel_rfl) (bz au nc zE (sh:=tY) hR (xs:=Vx) (aJ (by kernel_rfl) (by kernel_rfl) hR) aY ag (n:=1000) (T:=ua) (λs Q=>ai6 s Q) (ok:=ok0) (f:=pV g0_r c0_r g0_0) h0) ag)) (n:=1000) (sel:=LR) (λv o h=>by cases h;rfl) (pre:=pre) (F:=F) (T:=λx=>Qd ok0 g0_r c0_r g0_0 (x.1.1) (x.1.2.1)) (λx Q=>anC ok0 g0_r c0_r g0_0 x Q) hF
def ape (a b:Pt):Bool:=(a.1.w0==b.1.w0&&(a.1.w1==b.1.w1&&(a.1.w2==b.1.w2&&(a.1.w3==b.1.w3&&true)))&&(a.2.1.w0==b.2.1.w0&&(a.2.1.w1==b.2.1.w1&&(a.2.1.w2==b.2.1.w2&&(a.2.1.w3==b.2.1.w3&&true)))&&(a.2.2==b.2.2&&true)))
theorem Jx {a b:Pt}:ape a b=true ↔ a=b:=by
 obtain ⟨⟨a0,a1,a2,a3⟩,⟨a4,a5,a6,a7⟩,a8⟩:=a
 obtain ⟨⟨b0,b1,b2,b3⟩,⟨b4,b5,b6,b7⟩,b8⟩:=b
 simp only [ape,Bool.and_eq_true,beq_iff_eq,and_true,Prod.mk.injEq,aa.mk.injEq]
def LU (s:bt):Bool:=decide (s.1.2.2.1=0/\s.1.1.length=s.1.2.1.length/\s.1.1.length<=140737488355328)
def LV (_:bt):jK:=((false,()),())
def pY (s:bt):Bool:= !decide (s.1.1=s.1.2.1)
def Vy (_:bt):jL:=((),())
theorem F0 {a b:List Pt} (hab:a.length=b.length) (hl:a.length<=140737488355328):∀ d i,i+d=a.length->
 ∃ m,av ua m ((a,b,(i:Int),()),())=some (cond (decide (a.drop i=b.drop i)) ⟨(.exit 0,pX),((),())⟩ ⟨(.ret,pW),((false,()),())⟩)
 |0,i,h=>by
  refine ⟨1,?_⟩
  have h1:a.drop i= []:=List.drop_eq_nil_of_le (by omega)
  have h2:b.drop i= []:=List.drop_eq_nil_of_le (by omega)
  rw [h1,h2,decide_eq_true rfl]
  exact aR (OT.ay (decide_eq_false (by dsimp only;omega)))
 |d+1,i,h=>by
  have hi:i<a.length:=by omega
  have hi':i<b.length:=by omega
  have e1:a.drop i=a[i]::a.drop (i+1):=List.drop_eq_getElem_cons hi
  have e2:b.drop i=b[i]::b.drop (i+1):=List.drop_eq_getElem_cons hi'
  have g1:a.getD i yV=a[i]:=by rw [List.getD_eq_getElem?_getD,List.getElem?_eq_getElem hi];rfl
  have g2:b.getD i yV=b[i]:=by rw [List.getD_eq_getElem?_getD,List.getElem?_eq_getElem hi'];rfl
  have hg:∀ x:OT (Sum bt aQ),(gd [inB (i:Int) a.length,inB (i:Int) b.length] x).run=x.run:=λx=>al (by simp only [List.all_cons,List.all_nil,Bool.and_true,Bool.and_eq_true];exact ⟨bG (by omega),bG (by omega)⟩)
  by_cases hx:a[i]=b[i]
  ·obtain ⟨m,hm⟩:=F0 hab hl d (i+1) (by omega)
   refine ⟨m+1,aM (s':=((a,b,((i+1:Nat):Int),()),())) ?_ ?_⟩
   ·refine (OT.ap (decide_eq_true (by dsimp only;omega))).trans ((hg _).trans ((OT.ay ?_).trans ((al ?_).trans rfl)))
    ·show (!ape (a.getD i yV) (b.getD i yV))=false
     rw [g1,g2,hx,Jx.2 rfl]
     rfl
    ·simp only [List.all_cons,List.all_nil,Bool.and_true]
     exact bF (by omega)
   ·rw [hm,e1,e2,hx]
    simp only [List.cons.injEq,true_and]
  ·refine ⟨1,?_⟩
   have:decide (a.drop i=b.drop i)=false:=decide_eq_false (by rw [e1,e2];intro h;exact hx (List.cons.inj h).1)
   rw [this]
   refine aR ((OT.ap (decide_eq_true (by dsimp only;omega))).trans ((hg _).trans ((OT.ap ?_).trans rfl)))
   show (!ape (a.getD i yV) (b.getD i yV))=true
   rw [g1,g2]
   cases hq:ape a[i] b[i]
   ·rfl
   ·exact absurd (Jx.1 hq) hx
theorem ai8:∀ s:bt,LU s=true->∃ m e,av ua m s=some e/\(pV LV pY Vy s).run=some e:=by
 rintro ⟨⟨a,b,i,⟨⟩⟩,⟨⟩⟩ h
 have h':=of_decide_eq_true h
 dsimp only at h'
 obtain ⟨rfl,hab,hl⟩:=h'
 obtain ⟨m,hm⟩:=F0 hab hl a.length 0 (by omega)
 refine ⟨m,_,hm,?_⟩
 simp only [List.drop_zero]
 by_cases hx:a=b
 ·simp only [pV,pY,hx,decide_true,Bool.not_true]
  rfl
 ·have:decide (a=b)=false:=decide_eq_false hx
  simp only [pV,pY,this,Bool.not_false]
  rfl
def LS (x:F1):Bool:=decide (x.1.1.length<=140737488355328)
def BI (x:F1):OT jM.Y:=.ok ⟨tZ,((decide (x.1.1=x.1.2.1),()),())⟩
theorem ai7:ac Tryz.prog 70 (jM.aI LS BI):=X9 LU LV pY Vy ai8 _ _ λx oy hp ho=>by
 rw [<-ho]
 clear ho
 obtain ⟨⟨a,b,⟨⟩⟩,⟨⟩⟩:=x
 have hp':a.length<=140737488355328:=of_decide_eq_true hp
 by_cases hab:a.length=b.length
 ·refine (OT.ay (by simp [hab])).trans ((al ?_).trans ?_)
  ·simp only [List.all_cons,List.all_nil,Bool.and_true]
   exact decide_eq_true ⟨rfl,hab,hp'⟩
  ·by_cases hx:a=b
   ·refine (OT.ay (by simp [pY,hx])).trans ?_
    simp only [BI,hx,decide_true]
   ·refine (OT.ap (by simp [pY,hx])).trans ?_
    have:decide (a=b)=false:=decide_eq_false hx
    simp only [BI,this]
    rfl
 ·refine (OT.ap (by simp;omega)).trans ?_
  have:decide (a=b)=false:=decide_eq_false λe=>hab (by rw [e])
  simp only [BI,this]
def wW:cN:=(jM.aI LS BI)
theorem Qc:ac Tryz.prog 70 wW:=ai7
theorem Qb:aK wW:=aB
def yq:Env:=aA 70 wW qR
theorem qQ:aW Tryz.prog yq:=ai Qc nc
theorem zD:aw yq:=ae Qb vr
theorem D8:bc Tryz.prog te yq:=aO follows au qQ zD
def dI:aq:=⟨[.val true aq2,.val false (.list .elem),.val true .elem],[],true,0,false⟩
abbrev qc:Type:=(((Int×(Int×(List ((aa×(aa×Bool)))×((aa×(aa×Bool))×(aa×(aa×Bool)))))))×(List (aa))×(aa)×Unit)×(Unit)
def lC:Shape:=⟨54,[(3,.ptr 0 0 0),(6,.ptr 1 0 0),(9,.own 2),(30,.val false (.list .elem)),(31,.val false .int),(32,.val false .int)],[(0,.cells [.val false .int,.val false .int,.val false (.list (.prod .elem (.prod .elem .bool))),.val false .u64,.val false .u64,.val false .u64,.val false .u64,.val false .u64,.val false .u64,.val false .u64,.val false .u64,.val false .bool,.val false .u64,.val false .u64,.val false .u64,.val false .u64,.val false .u64,.val false .u64,.val false .u64,.val false .u64,.val false .bool]),(1,.cells [.val false .u64,.val false .u64,.val false .u64,.val false .u64,.val false .u64,.val false .u64,.val false .u64,.val false .u64,.val false .bool]),(2,.row (.prod .elem (.prod .elem (.prod .elem .bool))))],0,true⟩
abbrev bH:Type:=((Unit)×(Unit)×(Unit)×(List (aa))×(Int)×(Int)×Unit)×(((Int)×(Int)×(List ((aa×(aa×Bool))))×(UInt64)×(UInt64)×(UInt64)×(UInt64)×(UInt64)×(UInt64)×(UInt64)×(UInt64)×(Bool)×(UInt64)×(UInt64)×(UInt64)×(UInt64)×(UInt64)×(UInt64)×(UInt64)×(UInt64)×(Bool)×Unit)×((UInt64)×(UInt64)×(UInt64)×(UInt64)×(UInt64)×(UInt64)×(UInt64)×(UInt64)×(Bool)×Unit)×(List ((aa×(aa×(aa×Bool)))))×Unit)
def kC:Shape:=⟨54,[(3,.ptr 0 0 0),(6,.ptr 1 0 0),(9,.own 2)],[(0,.cells [.val false .int,.val false .int,.val false (.list (.prod .elem (.prod .elem .bool))),.val false .u64,.val false .u64,.val false .u64,.val false .u64,.val false .u64,.val false .u64,.val false .u64,.val false .u64,.val false .bool,.val false .u64,.val false .u64,.val false .u64,.val false .u64,.val false .u64,.val false .u64,.val false .u64,.val false .u64,.val false .bool]),(1,.cells [.val false .u64,.val false .u64,.val false .u64,.val false .u64,.val false .u64,.val false .u64,.val false .u64,.val false .u64,.val false .bool]),(2,.row (.prod .elem (.prod .elem (.prod .elem .bool))))],0,true⟩
abbrev gq:Type:=((Unit)×(Unit)×(Unit)×Unit)×(((Int)×(Int)×(List ((aa×(aa×Bool))))×(UInt64)×(UInt64)×(UInt64)×(UInt64)×(UInt64)×(UInt64)×(UInt64)×(UInt64)×(Bool)×(UInt64)×(UInt64)×(UInt64)×(UInt64)×(UInt64)×(UInt64)×(UInt64)×(UInt64)×(Bool)×Unit)×((UInt64)×(UInt64)×(UInt64)×(UInt64)×(UInt64)×(UInt64)×(UInt64)×(UInt64)×(Bool)×Unit)×(List ((aa×(aa×(aa×Bool)))))×Unit)
def F9:SE->Option Shape:=kn [(0,kC)] none
def Yl (a30:List (aa)) (a31:Int) (a32:Int) (c0_0:Int) (c0_1:Int) (c0_2:List ((aa×(aa×Bool)))) (c0_3:UInt64) (c0_4:UInt64) (c0_5:UInt64) (c0_6:UInt64) (c0_7:UInt64) (c0_8:UInt64) (c0_9:UInt64) (c0_10:UInt64) (c0_11:Bool) (c0_12:UInt64) (c0_13:UInt64) (c0_14:UInt64) (c0_15:UInt64) (c0_16:UInt64) (c0_17:UInt64) (c0_18:UInt64) (c0_19:UInt64) (c0_20:Bool) (c1_0:UInt64) (c1_1:UInt64) (c1_2:UInt64) (c1_3:UInt64) (c1_4:UInt64) (c1_5:UInt64) (c1_6:UInt64) (c1_7:UInt64) (c1_8:Bool) (c2:List ((aa×(aa×(aa×Bool))))):OT (Sum bH aQ):=
 let z0:Nat:=Int.toNat a32
 let z1:aa:= {w0:=0,w1:=0,w2:=0,w3:=0}
 (.br (decide (a32<a31))
 (gd [inB a32 (List.length a30),inB a32 (List.length c0_2),decide ((List.length c2+1)*104<=140737488355328),inR (a32+(1:Int))] (.ok (.inl (((),((),((),(a30,(a31,(a32+(1:Int),())))))),((c0_0,(c0_1,(c0_2,(c0_3,(c0_4,(c0_5,(c0_6,(c0_7,(c0_8,(c0_9,(c0_10,(c0_11,(c0_12,(c0_13,(c0_14,(c0_15,(c0_16,(c0_17,(c0_18,(c0_19,(c0_20,()))))))))))))))))))))),((c1_0,(c1_1,(c1_2,(c1_3,(c1_4,(c1_5,(c1_6,(c1_7,(c1_8,()))))))))),(c2++ [(List.getD a30 z0 z1,List.getD c0_2 z0 (z1,z1,false))],())))))))
 (.ok (.inr ⟨(.exit 0,kC),(((),((),((),()))),((c0_0,(c0_1,(c0_2,(c0_3,(c0_4,(c0_5,(c0_6,(c0_7,(c0_8,(c0_9,(c0_10,(c0_11,(c0_12,(c0_13,(c0_14,(c0_15,(c0_16,(c0_17,(c0_18,(c0_19,(c0_20,()))))))))))))))))))))),((c1_0,(c1_1,(c1_2,(c1_3,(c1_4,(c1_5,(c1_6,(c1_7,(c1_8,()))))))))),(c2,()))))⟩)))
def lD (s:bH):OT (Sum bH aQ):=Yl (s.1.2.2.2.1) (s.1.2.2.2.2.1) (s.1.2.2.2.2.2.1) (s.2.1.1) (s.2.1.2.1) (s.2.1.2.2.1) (s.2.1.2.2.2.1) (s.2.1.2.2.2.2.1) (s.2.1.2.2.2.2.2.1) (s.2.1.2.2.2.2.2.2.1) (s.2.1.2.2.2.2.2.2.2.1) (s.2.1.2.2.2.2.2.2.2.2.1) (s.2.1.2.2.2.2.2.2.2.2.2.1) (s.2.1.2.2.2.2.2.2.2.2.2.2.1) (s.2.1.2.2.2.2.2.2.2.2.2.2.2.1) (s.2.1.2.2.2.2.2.2.2.2.2.2.2.2.1) (s.2.1.2.2.2.2.2.2.2.2.2.2.2.2.2.1) (s.2.1.2.2.2.2.2.2.2.2.2.2.2.2.2.2.1) (s.2.1.2.2.2.2.2.2.2.2.2.2.2.2.2.2.2.1) (s.2.1.2.2.2.2.2.2.2.2.2.2.2.2.2.2.2.2.1) (s.2.1.2.2.2.2.2.2.2.2.2.2.2.2.2.2.2.2.2.1) (s.2.1.2.2.2.2.2.2.2.2.2.2.2.2.2.2.2.2.2.2.1) (s.2.1.2.2.2.2.2.2.2.2.2.2.2.2.2.2.2.2.2.2.2.1) (s.2.1.2.2.2.2.2.2.2.2.2.2.2.2.2.2.2.2.2.2.2.2.1) (s.2.2.1.1) (s.2.2.1.2.1) (s.2.2.1.2.2.1) (s.2.2.1.2.2.2.1) (s.2.2.1.2.2.2.2.1) (s.2.2.1.2.2.2.2.2.1) (s.2.2.1.2.2.2.2.2.2.1) (s.2.2.1.2.2.2.2.2.2.2.1) (s.2.2.1.2.2.2.2.2.2.2.2.1) (s.2.2.2.1)
theorem Yi (s:bH) (Q:Sum bH aQ->Prop):wps te yq az 1000 (bL (ao Tryz.f39) 0) (lC.inj s) (df lC F9 (Q:Sum lC.T aQ->Prop))=(lD s).wpR Q:=by kernel_rfl
def qb (g0_0:bH->gq) (s:bH):OT aQ:=(.ok ⟨(.exit 0,kC),g0_0 s⟩)
def cR:ax:=⟨[.val true (.prod .elem (.prod .elem .bool)),.val false .int],[],false⟩
def BS:SV->Option ax:=λ_=>some cR
def ud (ok0:bH->Bool) (g0_0:bH->gq) (a0:(Int×(Int×(List ((aa×(aa×Bool)))×((aa×(aa×Bool))×(aa×(aa×Bool))))))) (a1:List (aa)) (a2:aa):OT dI.Y:=
 let z0:Int:=gK a0
 let z1:aa:= {w0:=0,w1:=0,w2:=0,w3:=0}
 let z2:aa×aa×Bool:=(z1,z1,false)
 let z3:Int:=(↑(List.length a1):Int)
 let z4:(PUnit×PUnit×PUnit×List aa×Int×Int×PUnit)×(Int×Int×List (aa×aa×Bool)×UInt64×UInt64×UInt64×UInt64×UInt64×UInt64×UInt64×UInt64×Bool×UInt64×UInt64×UInt64×UInt64×UInt64×UInt64×UInt64×UInt64×Bool×PUnit)×(UInt64×UInt64×UInt64×UInt64×UInt64×UInt64×UInt64×UInt64×Bool×PUnit)×List (aa×aa×aa×Bool)×PUnit:=(((),(),(),a1,z3,(0:Int),()),(a0.fst,a0.snd.fst,a0.snd.snd.fst,a0.snd.snd.snd.fst.fst.w0,a0.snd.snd.snd.fst.fst.w1,a0.snd.snd.snd.fst.fst.w2,a0.snd.snd.snd.fst.fst.w3,a0.snd.snd.snd.fst.snd.fst.w0,a0.snd.snd.snd.fst.snd.fst.w1,a0.snd.snd.snd.fst.snd.fst.w2,a0.snd.snd.snd.fst.snd.fst.w3,a0.snd.snd.snd.fst.snd.snd,a0.snd.snd.snd.snd.fst.w0,a0.snd.snd.snd.snd.fst.w1,a0.snd.snd.snd.snd.fst.w2,a0.snd.snd.snd.snd.fst.w3,a0.snd.snd.snd.snd.snd.fst.w0,a0.snd.snd.snd.snd.snd.fst.w1,a0.snd.snd.snd.snd.snd.fst.w2,a0.snd.snd.snd.snd.snd.fst.w3,a0.snd.snd.snd.snd.snd.snd,()),((0:UInt64),(0:UInt64),(0:UInt64),(0:UInt64),(0:UInt64),(0:UInt64),(0:UInt64),(0:UInt64),false,()),[(a2,a0.snd.snd.snd.fst)],())
 let z5:=(g0_0 z4).snd
 let z6:=z5.fst.fst
 let z7:=z5.snd.snd.fst
 (gd [jh ((a0,()),())] (.br (!z0==(0:Int))
 (.ok ⟨cR,((z2,(z0,())),())⟩)
 (.br (decide ((↑(List.length a0.snd.snd.fst):Int)<z3))
  (.ok ⟨cR,((z2,((50:Int),())),())⟩)
  (gd [ok0 z4] (.br (ak z6)
   (.br (decide (List.length z7<=100000))
    (.br (eU z6 z7)
     (.ok ⟨cR,((Fm z6 (Ap z6 z7),((0:Int),())),())⟩)
     (.ok ⟨cR,((z2,((41:Int),())),())⟩))
    (.ok ⟨cR,((z2,((50:Int),())),())⟩))
   (.ok ⟨cR,((z2,((40:Int),())),())⟩))))))
theorem adt (ok0:bH->Bool) (g0_0:bH->gq) (x:qc) (Q:dI.Y->Prop):wpf te yq (bn 0 (dC lC 0 ok0 (qb g0_0)) az) 1000 Tryz.f39 (dI.inp.inj x).tm (dI.inp.inj x).hp (fnK dI BS Q) (λ_ _=>False)=(ud ok0 g0_0 (x.1.1) (x.1.2.1) (x.1.2.2.1)).wpR Q:=by kernel_rfl
theorem Ma (ok0:bH->Bool) (g0_0:bH->gq) (h0:∀ s:bH,ok0 s=true->∃ m e,av (lD) m s=some e/\(qb g0_0 s).run=some e) (pre:qc->Bool) (F:qc->OT dI.Y) (hF:∀ (x:qc) oy,pre x=true->(F x).run=some oy->(ud ok0 g0_0 (x.1.1) (x.1.2.1) (x.1.2.2.1)).run=some oy):ac Tryz.prog 39 (dI.aI pre F):=
 aE au qQ D8 (f:=39) (fn:=Tryz.f39) (c:=ao Tryz.f39) (by kernel_rfl) (by kernel_rfl) (by kernel_rfl) (S:=dI) (k:=0) (by kernel_rfl) (λR hR=>(aH (c:=(ao Tryz.f39)) (by kernel_rfl) (id:=0) (by kernel_rfl) (bz au qQ D8 (sh:=lC) hR (xs:=F9) (aJ (by kernel_rfl) (by kernel_rfl) hR) aY ag (n:=1000) (T:=lD) (λs Q=>Yi s Q) (ok:=ok0) (f:=qb g0_0) h0) ag)) (n:=1000) (sel:=BS) (λv o h=>by cases h;rfl) (pre:=pre) (F:=F) (T:=λx=>ud ok0 g0_0 (x.1.1) (x.1.2.1) (x.1.2.2.1)) (λx Q=>adt ok0 g0_0 x Q) hF
theorem Dx {p:alu} (h:(gK p==0)=true):p.2.2.1.length<=32:=by
 unfold gK at h
 cases h1:ak p.1
 ·rw [h1] at h;cases h
 ·rw [h1] at h
  by_cases h2:p.2.1<0
  ·rw [decide_eq_true h2] at h;cases h
  ·rw [decide_eq_false h2] at h
   by_cases h3:5<p.2.1
   ·rw [decide_eq_true h3] at h;cases h
   ·rw [decide_eq_false h3] at h
    cases h4:(p.2.2.1.length:Int)==aed 1 p.2.1
    ·rw [h4] at h;cases h
    ·rw [beq_iff_eq] at h4
     have h6:aed 1 p.2.1<=32:=by
      have:p.2.1=0\/p.2.1=1\/p.2.1=2\/p.2.1=3\/p.2.1=4\/p.2.1=5:=by omega
      rcases this with e|e|e|e|e|e<;>rw [e]<;>decide
     omega
def E8 (G:List Pt) (l:List aa) (k:Nat) (o:List Tm):List Tm:=o++ [(l.getD k ⟨0,0,0,0⟩,G.getD k yV)]
def ZJ (p:alu) (l:List aa) (b:aa):List Tm:=upto (E8 p.2.2.1 l) [(b,p.2.2.2.1)] l.length
theorem GX (G:List Pt) (l:List aa) (t:Tm):∀ n,(upto (E8 G l) [t] n).length=n+1
 |0=>rfl
 |n+1=>by
  show (upto (E8 G l) [t] n++ [_]).length=_
  rw [List.length_append,GX G l t n]
  rfl
def rZ (s:bH):Bool:=decide (s.1.2.2.2.2.1=(s.1.2.2.2.1.length:Int)/\s.1.2.2.2.2.2.1=0/\s.1.2.2.2.1.length<=s.2.1.2.2.1.length/\s.2.1.2.2.1.length<=32/\s.2.2.2.1.length=1)
def xf (s:bH):gq:=(((),(),(),()),(s.2.1,s.2.2.1,upto (E8 s.2.1.2.2.1 s.1.2.2.2.1) s.2.2.2.1 s.1.2.2.2.1.length,()))
theorem Yk:∀ s:bH,rZ s=true->∃ m e,av lD m s=some e/\(qb xf s).run=some e:=by
 rintro ⟨⟨⟨⟩,⟨⟩,⟨⟩,l,n,i,⟨⟩⟩,⟨q,t,o,⟨⟩⟩⟩ h
 have h':=of_decide_eq_true h
 dsimp only at h'
 obtain ⟨rfl,rfl,hl,hG,ho⟩:=h'
 obtain ⟨u,rfl⟩:∃ u,o= [u]:=by
  match o,ho with
  | [u],_=>exact ⟨u,rfl⟩
 have:=(bP (T:=lD) (λk o=>((((),(),(),l,(l.length:Int),(k:Int),()),(q,t,o,())):bH)) (E8 q.2.2.1 l)
  (λo=>(⟨(.exit 0,kC),(((),(),(),()),(q,t,o,()))⟩:aQ)) l.length [u] (λk o=>o.length=k+1) rfl (λk o hk hq=>⟨?_,?_⟩) (λo _=> ?_)).1
 ·obtain ⟨m,hm⟩:=this
  exact ⟨m,_,hm,rfl⟩
 ·have hq:o.length=k+1:=hq
  refine (OT.ap (decide_eq_true (by dsimp only;omega))).trans ((al ?_).trans rfl)
  simp only [List.all_cons,List.all_nil,Bool.and_true,Bool.and_eq_true]
  exact ⟨bG (by omega),bG (by omega),decide_eq_true (by omega),bF (by omega)⟩
 ·show (o++ [_]).length=_
  rw [List.length_append,show o.length=k+1 from hq]
  rfl
 ·exact OT.ay (decide_eq_false (by dsimp only;omega))
def E9 (p:alu) (l:List aa) (b:aa):Pt×Int:=cond (!(gK p==0)) (yV,gK p) (cond (decide ((p.2.2.1.length:Int)<(l.length:Int))) (yV,50)
 (cond (ak p.1) (cond (decide ((ZJ p l b).length<=100000)) (cond (eU p.1 (ZJ p l b)) (Fm p.1 (Ap p.1 (ZJ p l b)),0) (yV,41)) (yV,50)) (yV,40)))
def eO (x:qc):Bool:=decide (x.1.1.2.2.1.length<=140737488355328)
def Mb (x:qc):OT dI.Y:=.ok ⟨cR,(((E9 x.1.1 x.1.2.1 x.1.2.2.1).1,((E9 x.1.1 x.1.2.1 x.1.2.2.1).2,())),())⟩
theorem Yj:ac Tryz.prog 39 (dI.aI eO Mb):=Ma rZ xf Yk _ _ λx oy hp ho=>by
 rw [<-ho]
 clear ho
 obtain ⟨⟨p,l,b,⟨⟩⟩,⟨⟩⟩:=x
 show (ud rZ xf p l b).run=some (⟨cR,(((E9 p l b).1,((E9 p l b).2,())),())⟩:dI.Y)
 have hp:jh ((p,()),())=true:=hp
 unfold E9
 refine (al (by rw [hp];rfl)).trans ?_
 rcases (Bool.eq_false_or_eq_true (!(gK p==0))).symm with h1|h1
 ·rw [h1]
  refine (OT.ay rfl).trans ?_
  by_cases h2:(p.2.2.1.length:Int)<(l.length:Int)
  ·rw [decide_eq_true h2]
   exact (OT.ap rfl).trans rfl
  ·rw [decide_eq_false h2]
   have h0:(gK p==0)=true:=by
    cases hq:gK p==0
    ·rw [hq] at h1;cases h1
    ·rfl
   have hG:=Dx h0
   refine (OT.ay rfl).trans ((al ?_).trans ?_)
   ·simp only [List.all_cons,List.all_nil,Bool.and_true]
    exact decide_eq_true ⟨rfl,rfl,by show l.length<=p.2.2.1.length;omega,hG,rfl⟩
   ·show (OT.br (ak p.1) (.br (decide ((ZJ p l b).length<=100000)) (.br (eU p.1 (ZJ p l b)) (.ok ⟨cR,((Fm p.1 (Ap p.1 (ZJ p l b)),((0:Int),())),())⟩) (.ok ⟨cR,((yV,((41:Int),())),())⟩)) (.ok ⟨cR,((yV,((50:Int),())),())⟩)) (.ok ⟨cR,((yV,((40:Int),())),())⟩):OT dI.Y).run=_
    generalize ZJ p l b=t
    cases ak p.1<;>cases decide (t.length<=100000)<;>cases eU p.1 t<;>rfl
 ·rw [h1]
  exact (OT.ap rfl).trans rfl
def oh:cN:=(dI.aI eO Mb)
theorem Iu:ac Tryz.prog 39 oh:=Yj
theorem It:aK oh:=aB
def ph:Env:=aA 39 oh yq
theorem pg:aW Tryz.prog ph:=ai Iu qQ
theorem rp:aw ph:=ae It zD
theorem Kg:bc Tryz.prog te ph:=aO follows au pg rp
def gh:aq:=⟨[.val false .int,.val false .int,.val false (.list .u8)],[],false,0,false⟩
abbrev wV:Type:=((Int)×(Int)×(List (UInt8))×Unit)×(Unit)
def oc:ax:=⟨[.val true (.prod .int (.prod .int (.prod (.list (.prod .elem (.prod .elem .bool))) (.prod (.prod .elem (.prod .elem .bool)) (.prod .elem (.prod .elem .bool)))))),.val false .int],[],false⟩
def FY:SV->Option ax:=λ_=>some oc
def Ij (a0:Int) (a1:Int) (a2:List (UInt8)):OT gh.Y:=
 let z0:aa:= {w0:=0,w1:=0,w2:=0,w3:=0}
 let z1:aa×aa×Bool:=(z0,z0,false)
 let z2:Int×Int×List (aa×aa×Bool)×(aa×aa×Bool)×aa×aa×Bool:=((0:Int),(0:Int),[],z1,z1)
 (.br (ak a0)
 (.br (decide (a1<(0:Int)))
  (.ok ⟨oc,((z2,((60:Int),())),())⟩)
  (.br (decide ((5:Int)<a1))
   (.ok ⟨oc,((z2,((60:Int),())),())⟩)
   (gd [decide ((0:Int)<=a1),inR (aed (1:Int) a1+(2:Int))] .fail)))
 (.ok ⟨oc,((z2,((40:Int),())),())⟩))
theorem ai5 (x:wV) (Q:gh.Y->Prop):wpf te ph (bn 0 (λ_ _=>False) az) 1000 Tryz.f31 (gh.inp.inj x).tm (gh.inp.inj x).hp (fnK gh FY Q) (λ_ _=>False)=(Ij (x.1.1) (x.1.2.1) (x.1.2.2.1)).wpR Q:=by kernel_rfl
theorem Qa (pre:wV->Bool) (F:wV->OT gh.Y) (hF:∀ (x:wV) oy,pre x=true->(F x).run=some oy->(Ij (x.1.1) (x.1.2.1) (x.1.2.2.1)).run=some oy):ac Tryz.prog 31 (gh.aI pre F):=
 aE au pg Kg (f:=31) (fn:=Tryz.f31) (c:=ao Tryz.f31) (by kernel_rfl) (by kernel_rfl) (by kernel_rfl) (S:=gh) (k:=0) (by kernel_rfl) (λR hR=>(aH (c:=(ao Tryz.f31)) (by kernel_rfl) (id:=0) (by kernel_rfl) (λ_ _ _ _ _ _ _ _ h _=>h.elim) ag)) (n:=1000) (sel:=FY) (λv o h=>by cases h;rfl) (pre:=pre) (F:=F) (T:=λx=>Ij (x.1.1) (x.1.2.1) (x.1.2.2.1)) (λx Q=>ai5 x Q) hF
def arn:alu:=(0,0,[],yV,yV)
def FZ (x:wV):Bool:=ak x.1.1&&decide (5<x.1.2.1)
def Vw (_:wV):OT gh.Y:=.ok ⟨oc,((arn,((60:Int),())),())⟩
theorem adj:ac Tryz.prog 31 (gh.aI FZ Vw):=Qa _ _ λx oy hp ho=>by
 rw [<-ho]
 clear ho
 obtain ⟨⟨c,k,b,⟨⟩⟩,⟨⟩⟩:=x
 obtain ⟨hs,hk⟩:=(Bool.and_eq_true _ _).mp hp
 have hk:5<k:=of_decide_eq_true hk
 exact (OT.ap hs).trans ((OT.ay (decide_eq_false (show ¬k<0 by omega))).trans ((OT.ap (decide_eq_true hk)).trans rfl))
def rT:cN:=(gh.aI FZ Vw)
theorem LQ:ac Tryz.prog 31 rT:=adj
theorem LP:aK rT:=aB
def vq:Env:=aA 31 rT ph
theorem sV:aW Tryz.prog vq:=ai LQ pg
theorem vp:aw vq:=ae LP rp
theorem Oi:bc Tryz.prog te vq:=aO follows au sV vp
def gr:aq:=⟨[],[],true,0,false⟩
abbrev xi:Type:=(Unit)×(Unit)
def uf:ax:=⟨[.val false .bool],[],false⟩
def Gb:SV->Option ax:=λ_=>some uf
def Ay:OT gr.Y:=
 (.ok ⟨uf,((true,()),())⟩)
theorem ajj (x:xi) (Q:gr.Y->Prop):wpf te vq az 1000 Tryz.f28 (gr.inp.inj x).tm (gr.inp.inj x).hp (fnK gr Gb Q) (λ_ _=>False)=(Ay).wpR Q:=by kernel_rfl
theorem Qm (pre:xi->Bool) (F:xi->OT gr.Y) (hF:∀ (x:xi) oy,pre x=true->(F x).run=some oy->(Ay).run=some oy):ac Tryz.prog 28 (gr.aI pre F):=
 aE au sV Oi (f:=28) (fn:=Tryz.f28) (c:=ao Tryz.f28) (by kernel_rfl) (by kernel_rfl) (by kernel_rfl) (S:=gr) (k:=0) (by kernel_rfl) (λR hR=>ag) (n:=1000) (sel:=Gb) (λv o h=>by cases h;rfl) (pre:=pre) (F:=F) (T:=λx=>Ay) (λx Q=>ajj x Q) hF
def Gc (_:xi):Bool:=true
def VE (_:xi):OT gr.Y:=.ok ⟨uf,((true,()),())⟩
theorem adv:ac Tryz.prog 28 (gr.aI Gc VE):=Qm _ _ λx oy hp ho=>by
 rw [<-ho]
 clear ho
 show Ay.run=some ⟨uf,((true,()),())⟩
 kernel_rfl
def r7:cN:=(gr.aI Gc VE)
theorem Mg:ac Tryz.prog 28 r7:=adv
theorem Mf:aK r7:=aB
def vy:Env:=aA 28 r7 vq
theorem sY:aW Tryz.prog vy:=ai Mg sV
theorem vx:aw vy:=ae Mf vp
theorem Ol:bc Tryz.prog te vy:=aO follows au sY vx
def fS:aq:=⟨[.val false (.list .elem)],[],true,0,false⟩
abbrev wa:Type:=((List (aa))×Unit)×(Unit)
def A2:ax:=⟨[.own 0],[(0,.row .elem)],false⟩
def Fk:SV->Option ax:=λ_=>some A2
def HF (a0:List (aa)):OT fS.Y:=
 (gd [decide ((0+List.length a0)*32<=140737488355328)] (.ok ⟨A2,(((),()),([]++a0,()))⟩))
theorem ags (x:wa) (Q:fS.Y->Prop):wpf te vy az 1000 Tryz.f38 (fS.inp.inj x).tm (fS.inp.inj x).hp (fnK fS Fk Q) (λ_ _=>False)=(HF (x.1.1)).wpR Q:=by kernel_rfl
theorem OQ (pre:wa->Bool) (F:wa->OT fS.Y) (hF:∀ (x:wa) oy,pre x=true->(F x).run=some oy->(HF (x.1.1)).run=some oy):ac Tryz.prog 38 (fS.aI pre F):=
 aE au sY Ol (f:=38) (fn:=Tryz.f38) (c:=ao Tryz.f38) (by kernel_rfl) (by kernel_rfl) (by kernel_rfl) (S:=fS) (k:=0) (by kernel_rfl) (λR hR=>ag) (n:=1000) (sel:=Fk) (λv o h=>by cases h;rfl) (pre:=pre) (F:=F) (T:=λx=>HF (x.1.1)) (λx Q=>ags x Q) hF
def jf (x:wa):Bool:=decide (x.1.1.length*32<=140737488355328)
def SI (x:wa):OT fS.Y:=.ok ⟨A2,(((),()),(x.1.1,()))⟩
theorem aaK:ac Tryz.prog 38 (fS.aI jf SI):=OQ _ _ λx oy hp ho=>by
 rw [<-ho]
 have hp':x.1.1.length*32<=140737488355328:=of_decide_eq_true hp
 refine (al ?_).trans rfl
 simp only [List.all_cons,List.all_nil,Bool.and_true]
 exact decide_eq_true (by omega)
def rA:cN:=(fS.aI jf SI)
theorem KA:ac Tryz.prog 38 rA:=aaK
theorem Kz:aK rA:=aB
def vc:Env:=aA 38 rA vy
theorem sL:aW Tryz.prog vc:=ai KA sY
theorem J8:aw vc:=ae Kz vx
theorem zi:bc Tryz.prog te vc:=aO follows au sL J8
end Go.Proofs.YtohjofabochgfaaGreat

namespace Go.Proofs.YtohjofabochgfaaGreat
def cY (p:Nat):Nat->PtQ->PtQ
 |0,_=>none
 |n+1,P=>cM p P (cY p n P)
variable {p b:Nat}
theorem nn (c:Cur p b) {P:PtQ} (hP:OnQ p b P):∀ n,OnQ p b (cY p n P)
 |0=>trivial
 |n+1=>gu c hP (nn c hP n)
theorem mul_one (P:PtQ):cY p 1 P=P:=bU P
theorem qh:∀ n,cY p n none=none
 |0=>rfl
 |n+1=>qh n
theorem fA (c:Cur p b) {P:PtQ} (hP:OnQ p b P) (m:Nat):∀ n,cY p (n+m) P=cM p (cY p n P) (cY p m P)
 |0=>by rw [Nat.zero_add];rfl
 |n+1=>by
  rw [show n+1+m=(n+m)+1 by omega]
  show cM p P (cY p (n+m) P)=cM p (cM p P (cY p n P)) (cY p m P)
  rw [fA c hP m n,add_assoc c hP (nn c hP n) (nn c hP m)]
theorem jQ (c:Cur p b) {P:PtQ} (hP:OnQ p b P) (m:Nat):∀ n,cY p (n*m) P=cY p n (cY p m P)
 |0=>by rw [Nat.zero_mul];rfl
 |n+1=>by
  rw [show (n+1)*m=m+n*m by rw [Nat.succ_mul,Nat.add_comm],fA c hP,jQ c hP m n]
  rfl
theorem mul_comm (c:Cur p b) {P:PtQ} (hP:OnQ p b P) (m n:Nat):cY p n (cY p m P)=cY p m (cY p n P):=by
 rw [<-jQ c hP,<-jQ c hP,Nat.mul_comm]
theorem J2 (c:Cur p b) {A B C D:PtQ} (hA:OnQ p b A) (hB:OnQ p b B) (hC:OnQ p b C) (hD:OnQ p b D):
 cM p (cM p A B) (cM p C D)=cM p (cM p A C) (cM p B D):=by
 rw [add_assoc c hA hB (gu c hC hD),<-add_assoc c hB hC hD,add_comm c hB hC,add_assoc c hC hB hD,<-add_assoc c hA hC (gu c hB hD)]
theorem mul_add (c:Cur p b) {P R:PtQ} (hP:OnQ p b P) (hR:OnQ p b R):∀ n,cY p n (cM p P R)=cM p (cY p n P) (cY p n R)
 |0=>rfl
 |n+1=>by
  show cM p (cM p P R) (cY p n (cM p P R))=cM p (cM p P (cY p n P)) (cM p R (cY p n R))
  rw [mul_add c hP hR n,J2 c hP hR (nn c hP n) (nn c hR n)]
theorem mul_neg (c:Cur p b) {P:PtQ} (hP:OnQ p b P):∀ n,cY p n (ID p P)=ID p (cY p n P)
 |0=>rfl
 |n+1=>by
  show cM p (ID p P) (cY p n (ID p P))=ID p (cM p P (cY p n P))
  rw [mul_neg c hP n,neg_add c hP (nn c hP n)]
theorem xZ (c:Cur p b) {P R T:PtQ} (hP:OnQ p b P) (hR:OnQ p b R) (hT:OnQ p b T) (h:cM p P R=cM p P T):R=T:=by
 rw [<-cancel c hP hR,h,cancel c hP hT]
theorem agt (c:Cur p b) {P:PtQ} (h:cM p P P=none):P=none:=by
 cases P with
 |none=>rfl
 |some P=>
  have:cM p (some P) (some P)=some (qZ p P P (nk p P P)):=if_neg λh=>h.2 rfl
  rw [this] at h
  cases h
theorem mul_gcd (c:Cur p b) {P:PtQ} (hP:OnQ p b P) (m k:Nat):cY p m P=none->cY p k P=none->cY p (Nat.gcd m k) P=none:=by
 induction m,k using Nat.gcd.induction with
 |H0 n=>intro _ h;rw [Nat.gcd_zero_left];exact h
 |H1 m n hm ih=>
  intro h1 h2
  rw [Nat.gcd_rec]
  refine ih ?_ h1
  have e:=Nat.div_add_mod n m
  rw [<-e,Nat.mul_comm,fA c hP,jQ c hP,h1,qh] at h2
  exact h2
theorem mul_mod (c:Cur p b) {P:PtQ} (hP:OnQ p b P) {q:Nat} (hq:cY p q P=none) (n:Nat):cY p (n%q) P=cY p n P:=by
 have e:=Nat.div_add_mod n q
 conv=>rhs;rw [<-e,Nat.mul_comm,fA c hP,jQ c hP,hq,qh]
 rfl
def apg (p:Nat):PtQ->Nat
 |none=>2*p
 |some P=>2*P.1+P.2%2
theorem aqy {P:PtQ} (hP:OnQ p b P):apg p P<2*p+1:=by
 cases P with
 |none=>show 2*p<_;omega
 |some P=>
  have:=hP.1
  show 2*P.1+P.2%2<_
  omega
theorem aoG (c:Cur p b) (hodd:p%2=1) {P R:PtQ} (hP:OnQ p b P) (hR:OnQ p b R) (h:apg p P=apg p R):P=R:=by
 cases P with
 |none=>
  cases R with
  |none=>rfl
  |some R=>
   have:=hR.1
   have h:2*p=2*R.1+R.2%2:=h
   omega
 |some P=>
  cases R with
  |none=>
   have:=hP.1
   have h:2*P.1+P.2%2=2*p:=h
   omega
  |some R=>
   obtain ⟨x1,y1⟩:=P
   obtain ⟨x2,y2⟩:=R
   have h:2*x1+y1%2=2*x2+y2%2:=h
   have hx:x1=x2:=by omega
   have hy:y1%2=y2%2:=by omega
   by_cases he:y1=y2
   ·rw [hx,he]
   ·exfalso
    have ho:=adC c hP hR ⟨hx,he⟩
    have ho:some (x2,y2)=some (x1,nm p (-(y1:Int))):=ho
    simp only [Option.some.injEq,Prod.mk.injEq] at ho
    have h2:=ho.2
    have hy1:y1<p:=hP.2.1
    have h0:y1≠0:=λe=>c.yne hP.2.2 (by show (p:Int)∣((y1:Nat):Int);rw [e];exact ⟨0,by simp⟩)
    have h3:nm p (-(y1:Int))=p-y1:=adG (by omega) ⟨1,by omega⟩
    omega
theorem af5 (c:Cur p b) (hodd:p%2=1) {q:Nat} (hq:Pr q) (hq2:q%2=1) (h3:2*p+1<3*q) {G:PtQ} (hG:OnQ p b G) (hne:G≠none) (hqG:cY p q G=none)
 {P:PtQ} (hP:OnQ p b P):cY p q P=none:=by
 apply Classical.byContradiction
 intro hno
 have hord:∀ i,cY p i G=none->q∣i:=λi hi=>by
  have hg:=mul_gcd c hG q i hqG hi
  rcases hq.2 (Nat.gcd q i) (Nat.gcd_dvd_left ..) with e|e
  ·rw [e,mul_one] at hg
   exact absurd hg hne
  ·rw [<-e]
   exact Nat.gcd_dvd_right ..
 have hon:=λi=>nn c hG i
 have honP:=λi=>nn c hP i
 --no point of G's meets P or twice P
 have hp1:∀ i,P≠cY p i G:=λi e=>hno (by rw [e,mul_comm c hG,hqG,qh])
 have hp2:∀ i,cM p P P≠cY p i G:=λi e=>by
  have hh:∃ j,cY p i G=cM p (cY p j G) (cY p j G):=by
   refine ⟨i*((q+1)/2),?_⟩
   rw [<-fA c hG,<-Nat.mul_add,show (q+1)/2+(q+1)/2=q+1 by omega,Nat.mul_add,fA c hG,jQ c hG,hqG,qh,Nat.mul_one]
   rfl
  obtain ⟨j,hj⟩:=hh
  rw [hj] at e
  have hn:=yU c (hon j)
  have:cM p (cM p (ID p (cY p j G)) P) (cM p (ID p (cY p j G)) P)=none:=by
   rw [J2 c hn hP hn hP,e,add_comm c (gu c hn hn) (gu c (hon j) (hon j)),J2 c (hon j) (hon j) hn hn,add_neg c (hon j)]
   rfl
  have h2:=agt c this
  have h4:=BV c hn hP h2
  rw [neg_neg c (hon j)] at h4
  exact hp1 j h4
 --differences of G's points
 have hdiff:∀ i j A B,OnQ p b A->OnQ p b B->cM p (cY p i G) A=cM p (cY p j G) B->∃ k,A=cM p (cY p k G) B:=λi j A B hA hB e=>by
  refine ⟨(q-i%q)+j,?_⟩
  have hm:cY p (i%q) G=cY p i G:=mul_mod c hG hqG i
  have hlt:=Nat.mod_lt i hq.pos
  have hz:cM p (cY p (q-i%q) G) (cY p i G)=none:=by
   rw [<-hm,<-fA c hG,show q-i%q+i%q=q by omega,hqG]
  rw [fA c hG,add_assoc c (hon _) (hon _) hB,<-e,<-add_assoc c (hon _) (hon _) hA,hz]
  rfl
 have hinj:∀ i j,i<q->j<q->cY p i G=cY p j G->i=j:=by
  have aux:∀ i j,i<=j->j<q->cY p i G=cY p j G->i=j:=λi j hij hj e=>by
   have e2:cM p (cY p i G) none=cM p (cY p i G) (cY p (j-i) G):=by
    rw [<-fA c hG,show i+(j-i)=j by omega,bU,e]
   have h0:=xZ c (hon i) (R:=none) trivial (hon _) e2
   have hd:=hord _ h0.symm
   by_cases h:j-i=0
   ·omega
   ·have:=Nat.le_of_dvd (by omega) hd
    omega
  intro i j hi hj e
  rcases Nat.le_total i j with h|h
  ·exact aux i j h hj e
  ·exact (aux j i h hi e.symm).symm
 let tw:Nat->PtQ:=λk=>cY p (k/q) P
 let pt:Nat->PtQ:=λk=>cM p (cY p (k%q) G) (cY p (k/q) P)
 have hpt:∀ k,OnQ p b (pt k):=λk=>gu c (hon _) (honP _)
 have hcoset:∀ i j,i<3->j<3->(∃ k,cY p i P=cM p (cY p k G) (cY p j P))->i=j:=by
  have P1:cY p 1 P=P:=mul_one P
  have P2:cY p 2 P=cM p P P:=congrArg (cM p P) (mul_one P)
  have back:∀ k A B,OnQ p b A->OnQ p b B->A=cM p (cY p k G) B->∃ k',B=cM p (cY p k' G) A:=λk A B hA hB e=>by
   refine hdiff k 0 B A hB hA ?_
   rw [<-e]
   rfl
  have n01:∀ k,cY p 0 P≠cM p (cY p k G) (cY p 1 P):=λk e=>by
   obtain ⟨k',e'⟩:=back k _ _ (honP 0) (honP 1) e
   rw [P1,show cY p 0 P=none from rfl,bU] at e'
   exact hp1 k' e'
  have n02:∀ k,cY p 0 P≠cM p (cY p k G) (cY p 2 P):=λk e=>by
   obtain ⟨k',e'⟩:=back k _ _ (honP 0) (honP 2) e
   rw [P2,show cY p 0 P=none from rfl,bU] at e'
   exact hp2 k' e'
  have n12:∀ k,cY p 1 P≠cM p (cY p k G) (cY p 2 P):=λk e=>by
   rw [P1,P2,<-add_assoc c (hon k) hP hP] at e
   have e2:cM p P none=cM p P (cM p (cY p k G) P):=by
    rw [bU,<-add_assoc c hP (hon k) hP,add_comm c hP (hon k)]
    exact e
   have e3:=xZ c hP (R:=none) trivial (gu c (hon k) hP) e2
   obtain ⟨k',e'⟩:=back k none P trivial hP e3
   rw [bU] at e'
   exact hp1 k' e'
  rintro i j hi hj ⟨k,hk⟩
  apply Classical.byContradiction
  intro hij
  have bk:=back k _ _ (honP i) (honP j) hk
  have:(i=0/\j=1)\/(i=0/\j=2)\/(i=1/\j=2)\/(i=1/\j=0)\/(i=2/\j=0)\/(i=2/\j=1):=by omega
  rcases this with ⟨rfl,rfl⟩|⟨rfl,rfl⟩|⟨rfl,rfl⟩|⟨rfl,rfl⟩|⟨rfl,rfl⟩|⟨rfl,rfl⟩
  ·exact n01 k hk
  ·exact n02 k hk
  ·exact n12 k hk
  ·obtain ⟨k',e⟩:=bk;exact n01 k' e
  ·obtain ⟨k',e⟩:=bk;exact n02 k' e
  ·obtain ⟨k',e⟩:=bk;exact n12 k' e
 have hptinj:∀ x ∈ List.range (3*q),∀ y ∈ List.range (3*q),apg p (pt x)=apg p (pt y)->x=y:=λx hx y hy e=>by
  rw [List.mem_range] at hx hy
  have e:=aoG c hodd (hpt x) (hpt y) e
  have hdx:x/q<3:=Nat.div_lt_of_lt_mul (by rw [Nat.mul_comm];exact hx)
  have hdy:y/q<3:=Nat.div_lt_of_lt_mul (by rw [Nat.mul_comm];exact hy)
  have h1:=hcoset (x/q) (y/q) hdx hdy (hdiff _ _ _ _ (honP _) (honP _) e)
  have e:cM p (cY p (x%q) G) (cY p (x/q) P)=cM p (cY p (y%q) G) (cY p (y/q) P):=e
  rw [h1,add_comm c (hon _) (honP _),add_comm c (hon (y%q)) (honP _)] at e
  have h2:=hinj _ _ (Nat.mod_lt _ hq.pos) (Nat.mod_lt _ hq.pos) (xZ c (honP _) (hon _) (hon _) e)
  have e1:=Nat.div_add_mod x q
  have e2:=Nat.div_add_mod y q
  rw [<-e1,<-e2,h1,h2]
 have hnd:=oo (f:=λk=>apg p (pt k)) List.nodup_range hptinj
 have hlen:=uD (l2:=List.range (2*p+1)) hnd (λx hx=>by
  obtain ⟨k,_,rfl⟩:=List.mem_map.1 hx
  exact List.mem_range.2 (aqy (hpt k)))
 rw [List.length_map,List.length_range,List.length_range] at hlen
 omega
end Go.Proofs.YtohjofabochgfaaGreat

namespace Go.Proofs.YtohjofabochgfaaGreat
open Sx Go
theorem rI {p b:Nat} (c:Cur p b) (hp:Sm p) {k:Nat} (hk:k<2^256) {P:Pt} (hP:OnQ p b (toQ P)):∀ n,n<=256->
 toQ (upto (cn p k P) aC n)=cY p (k/2^(256-n)) (toQ P)
 |0,_=>by
  rw [Nat.sub_zero,Nat.div_eq_of_lt hk]
  rfl
 |n+1,h=>by
  have ih:=rI c hp hk hP n (by omega)
  have ho:=nn c hP (k/2^(256-n))
  show toQ (cn p k P n (upto (cn p k P) aC n))=_
  generalize upto (cn p k P) aC n=Q at*
  have hQ:OnQ p b (toQ Q):=by rw [ih];exact ho
  have d2:=HJ c hp hQ hQ
  have e1:256-n=(255-n)+1:=by omega
  have hd:k/2^(256-n)=k/2^(255-n)/2:=by rw [e1,Nat.pow_succ,Nat.div_div_eq_div_mul]
  rw [show 256-(n+1)=255-n by omega]
  rw [hd] at ih ho
  unfold cn
  cases hb:Aj k (255-n)
  ·have h0:=JU hb
   simp only [cond_false]
   rw [d2,ih,<-fA c hP]
   congr 1
   omega
  ·have h0:k/2^(255-n)%2=1:=Nat.eq_of_beq_eq_true hb
   simp only [cond_true]
   have d3:OnQ p b (toQ (dQ p Q Q)):=by rw [d2];exact gu c hQ hQ
   rw [HJ c hp d3 hP,d2,ih,<-fA c hP,add_comm c (nn c hP _) hP]
   show cY p (_+1) (toQ P)=_
   congr 1
   omega
theorem Xz {p b:Nat} (c:Cur p b) (hp:Sm p) {k:Nat} (hk:k<2^256) {P:Pt} (hP:OnQ p b (toQ P)):toQ (Bb p k P)=cY p k (toQ P):=by
 have h:=rI c hp hk hP 256 (Nat.le_refl _)
 rw [Nat.sub_self,Nat.pow_zero,Nat.div_one] at h
 exact h
theorem apV {p b x y:Nat} (hx:x<p) (hy:y<p) (h:Nat.beq (y*y%p) ((x*x*x+b)%p)=true):OnQ p b (some (x,y)):=by
 refine ⟨hx,hy,?_⟩
 have h:=Nat.eq_of_beq_eq_true h
 obtain ⟨k,hk⟩:=ak4 (p:=p) (y*y)
 obtain ⟨m,hm⟩:=ak4 (p:=p) (x*x*x+b)
 rw [h] at hk
 rw [Int.natCast_mul] at hk
 rw [Int.natCast_add,Int.natCast_mul,Int.natCast_mul] at hm
 show (p:Int)∣(y:Int)*y-x*x*x-b
 generalize (((x*x*x+b)%p:Nat):Int)=r at*
 refine ⟨m-k,?_⟩
 rw [Int.mul_sub,<-hm,<-hk]
 omega
def anJ (p q:Nat) (x y:aa):Bool:=cr (upto (gY p (ofN q) (eH (x,y,false))) aaB 256).2.2
theorem ari {p b q:Nat} (c:Cur p b) (hp:Sm p) (hq:q<115792089237316195423570985008687907853269984665640564039457584007913129639936) {x y:aa} (hG:OnQ p b (some (x.nat,y.nat))) (h:anJ p q x y=true):cY p q (some (x.nat,y.nat))=none:=by
 have hG':OnQ p b (toQ (x,y,false)):=hG
 obtain ⟨h1,h2,h3⟩:=Az c hp (ofN q) hG' (λh=>by cases h) 256 (Nat.le_refl _)
 have h4:=rI c hp (k:=(ofN q).nat) (gv _) hG' 256 (Nat.le_refl _)
 rw [gX hq,Nat.sub_self,Nat.pow_zero,Nat.div_one] at h4
 rw [gX hq] at h1
 have h4:toQ (upto (cn p q (x,y,false)) aC 256)=cY p q (some (x.nat,y.nat)):=h4
 rw [h4] at h1
 unfold anJ at h
 cases hm:cY p q (some (x.nat,y.nat)) with
 |none=>rfl
 |some S=>
  rw [hm] at h1
  rw [pA h1.2.1] at h
  cases h
end Go.Proofs.YtohjofabochgfaaGreat

namespace Go.Proofs.YtohjofabochgfaaGreat
open Sx Go
theorem Iw {p b q:Nat} (c:Cur p b) (hp:Sm p) (hodd:Nat.beq (p%2) 1=true) (hq:Pr q) (hq2:Nat.beq (q%2) 1=true) (hqb:Nat.blt q 115792089237316195423570985008687907853269984665640564039457584007913129639936=true) (h3:Nat.blt (2*p+1) (3*q)=true)
 {x y:aa} (hx:Nat.blt x.nat p=true) (hy:Nat.blt y.nat p=true) (he:Nat.beq (y.nat*y.nat%p) ((x.nat*x.nat*x.nat+b)%p)=true) (h:anJ p q x y=true) {P:PtQ} (hP:OnQ p b P):cY p q P=none:=by
 have hG:=apV (cJ hx) (cJ hy) he
 exact af5 c (Nat.eq_of_beq_eq_true hodd) hq (Nat.eq_of_beq_eq_true hq2) (cJ h3) hG (λe=>by cases e) (ari c hp (cJ hqb) hG h) hP
theorem ap6:pS 0=16513537:=by decide+kernel
theorem ap5:pS 1=16521217:=by decide+kernel
theorem ap4:pS 2=28948022309329048855892746252171976963363056481941560715954676764349967630337:=by decide+kernel
theorem ap3:pS 3=28948022309329048855892746252171976963363056481941647379679742748393362948097:=by decide+kernel
theorem asa:(bS 0).nat=23:=by decide+kernel
theorem ar9:(bS 1).nat=21:=by decide+kernel
theorem ar8:(bS 2).nat=5:=by decide+kernel
theorem ar7:(bS 3).nat=5:=by decide+kernel
theorem arm:anJ 16513537 16521217 ⟨1,0,0,0⟩ ⟨2487377,0,0,0⟩=true:=by decide+kernel
theorem arl:anJ 16521217 16513537 ⟨1,0,0,0⟩ ⟨7286451,0,0,0⟩=true:=by decide+kernel
theorem ark:anJ 28948022309329048855892746252171976963363056481941560715954676764349967630337 28948022309329048855892746252171976963363056481941647379679742748393362948097
 (ofN 28948022309329048855892746252171976963363056481941560715954676764349967630336) ⟨2,0,0,0⟩=true:=by decide+kernel
theorem arj:anJ 28948022309329048855892746252171976963363056481941647379679742748393362948097 28948022309329048855892746252171976963363056481941560715954676764349967630337
 (ofN 28948022309329048855892746252171976963363056481941647379679742748393362948096) ⟨2,0,0,0⟩=true:=by decide+kernel
theorem akZ {s:Int} (hs:ak s=true) {P:PtQ} (hP:OnQ (pS s) (bS s).nat P):cY (pS s) (pS (fQ s 1)) P=none:=by
 have c:=ba hs
 have hp:Sm (pS s):=fh hs
 rcases cu hs with rfl|rfl|rfl|rfl
 ·rw [show fQ 0 1=1 by decide+kernel]
  rw [ap6,ap5,asa] at*
  exact Iw c hp (by decide+kernel) rU (by decide+kernel) (by decide+kernel) (by decide+kernel) (by decide+kernel) (by decide+kernel) (by decide+kernel) arm hP
 ·rw [show fQ 1 1=0 by decide+kernel]
  rw [ap6,ap5,ar9] at*
  exact Iw c hp (by decide+kernel) rV (by decide+kernel) (by decide+kernel) (by decide+kernel) (by decide+kernel) (by decide+kernel) (by decide+kernel) arl hP
 ·rw [show fQ 2 1=3 by decide+kernel]
  rw [ap4,ap3,ar8] at*
  exact Iw c hp (by decide+kernel) aF (by decide+kernel) (by decide+kernel) (by decide+kernel) (by decide+kernel) (by decide+kernel) (by decide+kernel) ark hP
 ·rw [show fQ 3 1=2 by decide+kernel]
  rw [ap4,ap3,ar7] at*
  exact Iw c hp (by decide+kernel) aG (by decide+kernel) (by decide+kernel) (by decide+kernel) (by decide+kernel) (by decide+kernel) (by decide+kernel) arj hP
end Go.Proofs.YtohjofabochgfaaGreat

namespace Go.Proofs.YtohjofabochgfaaGreat
open Sx Go
end Go.Proofs.YtohjofabochgfaaGreat

namespace Go.Proofs.YtohjofabochgfaaGreat
open Sx Go
theorem adD {s:Int} {P:Pt} (hs:ak s=true) (h:OnQ (pS s) (bS s).nat (toQ P)) (hc:Can P):onB s P=true:=by
 have hp:Sm (pS s):=fh hs
 obtain ⟨X,Y,i⟩:=P
 cases i
 ·obtain ⟨hx,hy,hv⟩:=h
  have hx:X.nat<pS s:=hx
  have hy:Y.nat<pS s:=hy
  have hv:((pS s:Nat):Int)∣(Y.nat:Int)*Y.nat-X.nat*X.nat*X.nat-(bS s).nat:=hv
  unfold onB
  rw [hs]
  have e1:Nat.blt X.nat (pS s)=true:=Nat.ble_eq_true_of_le hx
  have e2:Nat.blt Y.nat (pS s)=true:=Nat.ble_eq_true_of_le hy
  simp only [cond_true,cond_false,e1,e2]
  refine k8.2 (jP (fD (BZ hp _ _) (aga hp _ _) ?_))
  have c1:=bV hp Y Y
  have c2:=bV hp X X
  have c3:=bV hp (aN (pS s) X X) X
  have c4:=Xb hp (aN (pS s) (aN (pS s) X X) X) (bS s)
  unfold Ad
  exact arB c1 c4 c3 c2 hv
 ·rw [hc rfl]
  unfold onB
  rw [hs]
  rfl
theorem alp {s:Int} {P:Pt} (h:onB s P=true):Can P:=(dZ h).2.2
theorem aoQ:Can aC:=λ_=>rfl
theorem kM {s:Int} {P R:Pt} (hP:onB s P=true) (hR:onB s R=true):toQ (ek s P R)=cM (pS s) (toQ P) (toQ R)/\onB s (ek s P R)=true:=by
 obtain ⟨hs,h1,h2⟩:=dZ hP
 obtain ⟨_,h3,h4⟩:=dZ hR
 have c:=ba hs
 have hp:Sm (pS s):=fh hs
 have e:ek s P R=eQ (pS s) (N9 (pS s) (eH P) (eH R)):=by unfold ek;rw [hP,hR];rfl
 obtain ⟨n1,n2⟩:=Gi c hp (gu c h1 h3) (af9 c hp h1 h3 (AV c) (AV c))
 rw [e]
 exact ⟨n1,adD hs (by rw [n1];exact gu c h1 h3) n2⟩
theorem uF {s:Int} (hs:ak s=true):onB s aC=true:=adD hs trivial aoQ
theorem IG {s:Int} (k:aa) {P:Pt} (hP:onB s P=true):toQ (nA s k P)=cY (pS s) k.nat (toQ P)/\onB s (nA s k P)=true:=by
 obtain ⟨hs,h1,h2⟩:=dZ hP
 have c:=ba hs
 have hp:Sm (pS s):=fh hs
 have hk:(ofP (pS (fQ s 1)) k).nat=k.nat%pS (fQ s 1):=cv (fh (eY hs))
 have e:nA s k P=Bb (pS s) (ofP (pS (fQ s 1)) k).nat P:=by rw [ajq];unfold uj;rw [hP];rfl
 have ht:toQ (nA s k P)=cY (pS s) k.nat (toQ P):=by
  rw [e,Xz c hp (gv _) h1,hk,mul_mod c h1 (akZ hs h1)]
 refine ⟨ht,adD hs (by rw [ht];exact nn c h1 _) ?_⟩
 rw [e]
 exact (Az c hp (ofP (pS (fQ s 1)) k) h1 h2 256 (Nat.le_refl _)).2.2
end Go.Proofs.YtohjofabochgfaaGreat

namespace Go.Proofs.YtohjofabochgfaaGreat
open Sx Go
def Gp {p b:Nat} (_:Cur p b):Type:= {P:PtQ//OnQ p b P}
section
variable {p b:Nat} {c:Cur p b}
instance:Add (Gp c):=⟨λx y=>⟨cM p x.1 y.1,gu c x.2 y.2⟩⟩
instance:Zero (Gp c):=⟨⟨none,trivial⟩⟩
instance:Neg (Gp c):=⟨λx=>⟨ID p x.1,yU c x.2⟩⟩
instance:Std.Associative (α:=Gp c) (· + ·):=⟨λx y z=>Subtype.ext (add_assoc c x.2 y.2 z.2)⟩
instance:Std.Commutative (α:=Gp c) (· + ·):=⟨λx y=>Subtype.ext (add_comm c x.2 y.2)⟩
theorem ala (x y:Gp c):x+y=y+x:=Subtype.ext (add_comm c x.2 y.2)
theorem CI (x y z:Gp c):x+y+z=x+(y+z):=Subtype.ext (add_assoc c x.2 y.2 z.2)
theorem oE (x:Gp c):x+0=x:=Subtype.ext (bU x.1)
theorem aaq (x:Gp c):0+x=x:=Subtype.ext rfl
def sm (n:Nat) (x:Gp c):Gp c:=⟨cY p n x.1,nn c x.2 n⟩
theorem O1 (x:Gp c):sm 0 x=0:=rfl
theorem akP (x:Gp c):sm 1 x=x:=Subtype.ext (mul_one x.1)
theorem am4 (n:Nat) (x:Gp c):sm (n+1) x=x+sm n x:=rfl
theorem O2 (m n:Nat) (x:Gp c):sm (m+n) x=sm m x+sm n x:=Subtype.ext (fA c x.2 n m)
theorem UR (m n:Nat) (x:Gp c):sm (m*n) x=sm m (sm n x):=Subtype.ext (jQ c x.2 n m)
theorem akQ (n:Nat) (x y:Gp c):sm n (x+y)=sm n x+sm n y:=Subtype.ext (mul_add c x.2 y.2 n)
theorem ab9 (n:Nat):sm n (0:Gp c)=0:=Subtype.ext (qh n)
def nF:List (Nat×Gp c)->Gp c
 | []=>0
 |t::r=>sm t.1 t.2+nF r
theorem rC (l r:List (Nat×Gp c)):nF (l++r)=nF l+nF r:=by
 induction l with
 |nil=>exact (aaq _).symm
 |cons t l ih=>
  show sm t.1 t.2+nF (l++r)=sm t.1 t.2+nF l+nF r
  rw [ih,CI]
open Classical in
noncomputable def gp (c:Cur p b) (P:Pt):Gp c:=if h:OnQ p b (toQ P) then ⟨toQ P,h⟩ else 0
theorem MM (P:Pt) (h:OnQ p b (toQ P)):gp c P=⟨toQ P,h⟩:=dif_pos h
end
section
variable {s:Int} (hs:ak s=true)
theorem aqi {P R:Pt} (hP:onB s P=true) (hR:onB s R=true) (h:gp (ba hs) P=gp (ba hs) R):P=R:=by
 rw [MM P (dZ hP).2.1,MM R (dZ hR).2.1] at h
 exact WX (alp hP) (alp hR) (congrArg Subtype.val h)
theorem MN:gp (ba hs) aC=0:=MM aC trivial
theorem CF {P R:Pt} (hP:onB s P=true) (hR:onB s R=true):gp (ba hs) (ek s P R)=gp (ba hs) P+gp (ba hs) R:=by
 obtain ⟨e,o⟩:=kM hP hR
 rw [MM P (dZ hP).2.1,MM R (dZ hR).2.1,MM _ (dZ o).2.1]
 exact Subtype.ext e
theorem ak9 (k:aa) {P:Pt} (hP:onB s P=true):gp (ba hs) (nA s k P)=sm k.nat (gp (ba hs) P):=by
 obtain ⟨e,o⟩:=IG k hP
 rw [MM P (dZ hP).2.1,MM _ (dZ o).2.1]
 exact Subtype.ext e
theorem aca (n:Nat) (x:Gp (ba hs)):sm (n%pS (fQ s 1)) x=sm n x:=Subtype.ext (mul_mod (ba hs) x.2 (akZ hs x.2) n)
end
end Go.Proofs.YtohjofabochgfaaGreat

namespace Go.Proofs.YtohjofabochgfaaGreat
open Sx Go
section
variable {s:Int} (hs:ak s=true)
abbrev Gs (hs:ak s=true):Type:=Gp (ba hs)
noncomputable def tG (l:List Tm):List (Nat×Gs hs):=l.map λt=>(t.1.nat,gp (ba hs) t.2)
theorem CH {α:Type} {l:List α} {k:Nat} (h:k<l.length) (d:α):l.getD k d=l[k]:=by rw [List.getD_eq_getElem?_getD,List.getElem?_eq_getElem h];rfl
theorem af6 {c:Int} {l:List Tm} (ha:eU c l=true) {k:Nat} (h:k<l.length):onB c l[k].2=true:=List.all_eq_true.1 ha _ (List.getElem_mem h)
theorem A5 {l:List Tm} (ha:eU s l=true):∀ n,n<=l.length->onB s (upto (eo s l) aC n)=true/\gp (ba hs) (upto (eo s l) aC n)=nF (tG hs (l.take n))
 |0,_=>⟨uF hs,MN hs⟩
 |n+1,h=>by
  obtain ⟨h1,h2⟩:=A5 ha n (by omega)
  have hk:n<l.length:=by omega
  show onB s (eo s l n (upto (eo s l) aC n))=true/\gp (ba hs) (eo s l n (upto (eo s l) aC n))=_
  generalize upto (eo s l) aC n=O at*
  unfold eo
  rw [CH hk]
  have hp:=af6 ha hk
  have hm:=(IG l[n].1 hp).2
  refine ⟨(kM h1 hm).2,?_⟩
  rw [CF hs h1 hm,ak9 hs _ hp,h2,<-List.take_append_getElem hk,tG,tG,List.map_append,rC]
  congr 1
  exact (oE _).symm
theorem Xv {l:List Tm} (ha:eU s l=true):onB s (mw s l)=true/\gp (ba hs) (mw s l)=nF (tG hs l):=by
 have h:=A5 hs ha l.length (Nat.le_refl _)
 rw [List.take_length] at h
 exact h
noncomputable def Ks:List Pt->Gs hs
 | []=>0
 |P::r=>gp (ba hs) P+Ks r
noncomputable def Xm:List Pt->Gs hs
 | []=>0
 |P::r=>Xm r+Ks hs (P::r)
theorem HR {P R:Pt} (hR:onB s R=true):∀ (S:List Pt) (d:Nat),d<S.length->onB s (S.getD d gQ)=true->P=ek s (S.getD d gQ) R->Ks hs (S.set d P)=Ks hs S+gp (ba hs) R
 | [],d,h,_,_=>by cases h
 |X::S,0,_,ho,e=>by
  subst e
  have ho:onB s X=true:=ho
  show gp (ba hs) (ek s X R)+Ks hs S=gp (ba hs) X+Ks hs S+gp (ba hs) R
  rw [CF hs ho hR]
  ac_rfl
 |X::S,d+1,h,ho,e=>by
  have ih:=HR hR S d (by simpa using h) ho e
  show gp (ba hs) X+Ks hs (S.set d P)=gp (ba hs) X+Ks hs S+gp (ba hs) R
  rw [ih]
  ac_rfl
theorem SD {P R:Pt} (hR:onB s R=true):∀ (S:List Pt) (d:Nat),d<S.length->onB s (S.getD d gQ)=true->P=ek s (S.getD d gQ) R->Xm hs (S.set d P)=Xm hs S+sm (d+1) (gp (ba hs) R)
 | [],d,h,_,_=>by cases h
 |X::S,0,h,ho,e=>by
  have hr:=HR hs hR (X::S) 0 h ho e
  show Xm hs S+Ks hs (P::S)=Xm hs S+Ks hs (X::S)+sm 1 (gp (ba hs) R)
  have hr:Ks hs (P::S)=_:=hr
  rw [hr,akP]
  ac_rfl
 |X::S,d+1,h,ho,e=>by
  have hr:=HR hs hR (X::S) (d+1) h ho e
  have ih:=SD hR S d (by simpa using h) ho e
  show Xm hs (S.set d P)+Ks hs ((X::S).set (d+1) P)=Xm hs S+Ks hs (X::S)+sm (d+1+1) (gp (ba hs) R)
  rw [hr,ih,am4 (d+1)]
  ac_rfl
def ao0 (s:Int) (S:List Pt):Prop:=∀ k,k<S.length->onB s (S.getD k gQ)=true
theorem akw {S:List Pt} (h:ao0 s S) {d:Nat} {P:Pt} (hP:onB s P=true):ao0 s (S.set d P):=λk hk=>by
 rw [List.length_set] at hk
 by_cases e:d=k
 ·subst e
  rw [List.getD_eq_getElem?_getD,List.getElem?_set_self hk]
  exact hP
 ·rw [List.getD_eq_getElem?_getD,List.getElem?_set_ne e,<-List.getD_eq_getElem?_getD]
  exact h k hk
theorem U2 {S:List Pt} (hS:S.length=15) (hp:ao0 s S):∀ n,n<=15->
 (onB s (upto (fj s S) (aC,aC) n).1=true/\onB s (upto (fj s S) (aC,aC) n).2=true)/\
 gp (ba hs) (upto (fj s S) (aC,aC) n).1=Ks hs (S.drop (15-n))/\gp (ba hs) (upto (fj s S) (aC,aC) n).2=Xm hs (S.drop (15-n))
 |0,_=>by
  rw [List.drop_eq_nil_of_le (by omega)]
  exact ⟨⟨uF hs,uF hs⟩,MN hs,MN hs⟩
 |n+1,h=>by
  obtain ⟨⟨h1,h2⟩,h3,h4⟩:=U2 hS hp n (by omega)
  show (onB s (fj s S n (upto (fj s S) (aC,aC) n)).1=true/\onB s (fj s S n (upto (fj s S) (aC,aC) n)).2=true)/\
   gp (ba hs) (fj s S n (upto (fj s S) (aC,aC) n)).1=_/\gp (ba hs) (fj s S n (upto (fj s S) (aC,aC) n)).2=_
  generalize upto (fj s S) (aC,aC) n=w at*
  have hk:14-n<S.length:=by omega
  have ho:=hp (14-n) hk
  have e1:S.drop (15-(n+1))=S.getD (14-n) gQ::S.drop (15-n):=by
   rw [CH hk,show 15-(n+1)=14-n by omega,List.drop_eq_getElem_cons hk,show 14-n+1=15-n by omega]
  rw [e1]
  unfold fj
  dsimp only
  have o1:=(kM h1 ho).2
  have o2:=(kM h2 o1).2
  have e2:gp (ba hs) (ek s w.1 (S.getD (14-n) gQ))=Ks hs (S.getD (14-n) gQ::S.drop (15-n)):=by
   rw [CF hs h1 ho,h3]
   exact ala _ _
  refine ⟨⟨o1,o2⟩,e2,?_⟩
  rw [CF hs h2 o1,h4,e2]
  rfl
theorem ana {S:List Pt} (hS:S.length=15) (hp:ao0 s S):onB s (aqZ s S).2=true/\gp (ba hs) (aqZ s S).2=Xm hs S:=by
 obtain ⟨⟨_,h2⟩,_,h4⟩:=U2 hs hS hp 15 (Nat.le_refl _)
 exact ⟨h2,h4⟩
theorem KU:∀ n,Ks hs (List.replicate n aC)=0
 |0=>rfl
 |n+1=>by
  rw [List.replicate_succ]
  show gp (ba hs) aC+Ks hs (List.replicate n aC)=0
  rw [KU n,MN hs,oE]
theorem Ky:∀ n,Xm hs (List.replicate n aC)=0
 |0=>rfl
 |n+1=>by
  have h:=KU hs (n+1)
  rw [List.replicate_succ] at h⊢
  show Xm hs (List.replicate n aC)+Ks hs (aC::List.replicate n aC)=0
  rw [h,Ky n,oE]
theorem af7 (hs:ak s=true) (n:Nat):ao0 s (List.replicate n aC):=λk hk=>by
 rw [CH hk,List.getElem_replicate]
 exact uF hs
noncomputable def dG (a:Int) (l:List Tm):List (Nat×Gs hs):=l.map λt=>((Nk t.1 a).toNat,gp (ba hs) t.2)
theorem NG {l:List Tm} (ha:eU s l=true) (a:Int):∀ n,n<=l.length->(upto (dE s a l) (List.replicate 15 aC) n).length=15/\ao0 s (upto (dE s a l) (List.replicate 15 aC) n)/\
 Xm hs (upto (dE s a l) (List.replicate 15 aC) n)=nF (dG hs a (l.take n))
 |0,_=>⟨rfl,af7 hs 15,Ky hs 15⟩
 |n+1,h=>by
  obtain ⟨h1,h2,h3⟩:=NG ha a n (by omega)
  have hk:n<l.length:=by omega
  show (dE s a l n (upto (dE s a l) (List.replicate 15 aC) n)).length=15/\ao0 s (dE s a l n (upto (dE s a l) (List.replicate 15 aC) n))/\Xm hs (dE s a l n (upto (dE s a l) (List.replicate 15 aC) n))=_
  generalize upto (dE s a l) (List.replicate 15 aC) n=S at*
  have hp:=af6 ha hk
  refine ⟨(kc s a l n S).trans h1,?_⟩
  have ed:nF (dG hs a (l.take (n+1)))=nF (dG hs a (l.take n))+sm (Nk l[n].1 a).toNat (gp (ba hs) l[n].2):=by
   rw [<-List.take_append_getElem hk,dG,dG,List.map_append,rC]
   congr 1
   exact oE _
  rw [ed]
  unfold dE
  rw [CH hk]
  have hd:=afd l[n].1 a
  by_cases h0:0<Nk l[n].1 a
  ·rw [decide_eq_true h0]
   simp only [cond_true]
   have hlt:(Nk l[n].1 a-1).toNat<S.length:=by omega
   have ho:=h2 _ hlt
   refine ⟨akw h2 (kM ho hp).2,?_⟩
   rw [SD hs hp S _ hlt ho rfl,h3,show (Nk l[n].1 a-1).toNat+1=(Nk l[n].1 a).toNat by omega]
  ·rw [decide_eq_false h0]
   simp only [cond_false]
   refine ⟨h2,?_⟩
   rw [h3,show (Nk l[n].1 a).toNat=0 by omega,O1,oE]
theorem akp {l:List Tm} (ha:eU s l=true) (a:Int):onB s (RJ s l a)=true/\gp (ba hs) (RJ s l a)=nF (dG hs a l):=by
 obtain ⟨h1,h2,h3⟩:=NG hs ha a l.length (Nat.le_refl _)
 rw [List.take_length] at h3
 obtain ⟨h4,h5⟩:=ana hs h1 h2
 exact ⟨h4,h5.trans h3⟩
noncomputable def vG (a:Nat) (l:List Tm):List (Nat×Gs hs):=l.map λt=>(t.1.nat/2^a,gp (ba hs) t.2)
theorem uY (k:aa) (i:Nat):als (ny k (i:Int))=((k.nat/2^i%2:Nat):Int):=by
 unfold ny
 rw [decide_eq_true (show (0:Int)<=(i:Int) by omega),Int.toNat_natCast]
 by_cases h:(i:Int)<256
 ·rw [decide_eq_true h]
  show als (Aj k.nat i)=_
  unfold Aj
  have h2:k.nat/2^i%2=0\/k.nat/2^i%2=1:=by omega
  rcases h2 with h2|h2<;>rw [h2]<;>rfl
 ·rw [decide_eq_false h]
  have hlt:=gv k
  have:k.nat/2^i=0:=Nat.div_eq_of_lt (Nat.lt_of_lt_of_le hlt (by
   have:2^256<=2^i:=Nat.pow_le_pow_right (by decide) (by omega)
   exact this))
  rw [this]
  rfl
theorem aka (k:aa) (a:Nat):(Nk k (a:Int)).toNat=k.nat/2^a%16:=by
 rw [afe,show (a:Int)+1=((a+1:Nat):Int) by omega,show (a:Int)+2=((a+2:Nat):Int) by omega,show (a:Int)+3=((a+3:Nat):Int) by omega]
 rw [uY,uY,uY,uY]
 have e1:k.nat/2^(a+1)=k.nat/2^a/2:=by rw [Nat.pow_succ,Nat.div_div_eq_div_mul]
 have e2:k.nat/2^(a+2)=k.nat/2^a/2/2:=by rw [show a+2=(a+1)+1 by omega,Nat.pow_succ,<-Nat.div_div_eq_div_mul,e1]
 have e3:k.nat/2^(a+3)=k.nat/2^a/2/2/2:=by rw [show a+3=(a+2)+1 by omega,Nat.pow_succ,<-Nat.div_div_eq_div_mul,e2]
 rw [e1,e2,e3]
 omega
theorem alH (l:List Tm) (a:Nat):sm 16 (nF (vG hs (a+4) l))+nF (dG hs (a:Int) l)=nF (vG hs a l):=by
 induction l with
 |nil=>exact (oE _).trans (ab9 16)
 |cons t l ih=>
  show sm 16 (sm (t.1.nat/2^(a+4)) (gp (ba hs) t.2)+nF (vG hs (a+4) l))+(sm (Nk t.1 (a:Int)).toNat (gp (ba hs) t.2)+nF (dG hs (a:Int) l))=sm (t.1.nat/2^a) (gp (ba hs) t.2)+nF (vG hs a l)
  rw [<-ih,akQ,<-UR,aka]
  have e:t.1.nat/2^a=16*(t.1.nat/2^(a+4))+t.1.nat/2^a%16:=by
   rw [Nat.pow_add,<-Nat.div_div_eq_div_mul]
   have:2^4=16:=rfl
   rw [this]
   omega
  have e2:sm (t.1.nat/2^a) (gp (ba hs) t.2)=sm (16*(t.1.nat/2^(a+4))) (gp (ba hs) t.2)+sm (t.1.nat/2^a%16) (gp (ba hs) t.2):=by
   rw [<-O2,<-e]
  rw [e2]
  ac_rfl
theorem alG (l:List Tm):nF (vG hs 0 l)=nF (tG hs l):=by
 unfold vG tG
 congr 1
 apply List.map_congr_left
 intro t _
 rw [Nat.pow_zero,Nat.div_one]
theorem akb {O:Pt} (h:onB s O=true):onB s (aqC s O)=true/\gp (ba hs) (aqC s O)=sm 16 (gp (ba hs) O):=by
 have step:∀ {P:Pt} {n:Nat},onB s P=true/\gp (ba hs) P=sm n (gp (ba hs) O)->onB s (ek s P P)=true/\gp (ba hs) (ek s P P)=sm (n+n) (gp (ba hs) O):=λ⟨o,e⟩=>
  ⟨(kM o o).2,by rw [CF hs o o,e,<-O2]⟩
 exact step (step (step (step (n:=1) ⟨h,(akP _).symm⟩)))
theorem aoY {l:List Tm} {i n k:Nat} (h:lV l (i:Int) n k<0):∀ j,k<=j->j<k+n->ny (l.getD j iK).1 (i:Int)=false:=by
 induction n generalizing k with
 |zero=>intro j h1 h2;omega
 |succ n ih=>
  intro j h1 h2
  unfold lV at h
  cases hb:ny (l.getD k iK).1 (i:Int)
  ·rw [hb] at h
   by_cases e:j=k
   ·rw [e];exact hb
   ·exact ih h j (by omega) (by omega)
  ·rw [hb] at h
   have h:(k:Int)<0:=h
   omega
theorem KB (l:List Tm):∀ n,(∀ j,j<l.length->(l.getD j iK).1.nat<2^n)->∀ j,j<l.length->(l.getD j iK).1.nat<2^aao l n
 |0,h=>h
 |n+1,h=>by
  unfold aao
  cases ha:apj l (n:Int)
  ·simp only [cond_false]
   refine KB l n λj hj=> ?_
   have hf:lV l (n:Int) l.length 0<0:=by
    have:¬(0:Int)<=ia l (n:Int):=of_decide_eq_false ha
    have:¬(0:Int)<=lV l (n:Int) l.length 0:=this
    omega
   have hb:=aoY hf j (by omega) (by omega)
   have h2:=uY (l.getD j iK).1 n
   rw [hb] at h2
   have h3:(l.getD j iK).1.nat/2^n%2=0:=by
    have h2:((0:Nat):Int)=(((l.getD j iK).1.nat/2^n%2:Nat):Int):=h2
    exact (Int.ofNat_inj.1 h2).symm
   have h4:=h j hj
   rw [Nat.pow_succ] at h4
   have h5:(l.getD j iK).1.nat/2^n<2:=Nat.div_lt_of_lt_mul h4
   have h6:(l.getD j iK).1.nat/2^n=0:=by
    generalize (l.getD j iK).1.nat/2^n=q at h3 h5
    omega
   rcases Nat.div_eq_zero_iff.1 h6 with h7|h7
   ·have:=Nat.two_pow_pos n;omega
   ·exact h7
  ·exact h
theorem app (l:List Tm) {a:Nat} (h:OJ l<=a):nF (vG hs a l)=0:=by
 have hall:=KB l 256 λj _=>gv _
 have hz:∀ t ∈ l,t.1.nat/2^a=0:=λt ht=>by
  obtain ⟨j,hj,rfl⟩:=List.getElem_of_mem ht
  have:=hall j hj
  rw [CH hj] at this
  exact Nat.div_eq_of_lt (Nat.lt_of_lt_of_le this (Nat.pow_le_pow_right (by decide) h))
 clear hall h
 induction l with
 |nil=>rfl
 |cons t l ih=>
  show sm (t.1.nat/2^a) (gp (ba hs) t.2)+nF (vG hs a l)=0
  rw [hz t (List.mem_cons_self ..),O1,ih λu hu=>hz u (List.mem_cons_of_mem _ hu),oE]
theorem SA {l:List Tm} (ha:eU s l=true):∀ n,n<=nj l+1->onB s (upto (kR s l (nj l)) aC n)=true/\gp (ba hs) (upto (kR s l (nj l)) aC n)=nF (vG hs (4*(nj l+1-n)) l)
 |0,_=>by
  refine ⟨uF hs,(MN hs).trans (app hs l ?_).symm⟩
  unfold nj
  omega
 |n+1,h=>by
  obtain ⟨h1,h2⟩:=SA ha n (by omega)
  show onB s (kR s l (nj l) n (upto (kR s l (nj l)) aC n))=true/\gp (ba hs) (kR s l (nj l) n (upto (kR s l (nj l)) aC n))=_
  generalize upto (kR s l (nj l)) aC n=O at*
  unfold kR
  have e:4*(nj l:Int)-4*(n:Int)=((4*(nj l+1-(n+1)):Nat):Int):=by omega
  rw [e]
  obtain ⟨d1,d2⟩:=akb hs h1
  obtain ⟨b1,b2⟩:=akp hs ha ((4*(nj l+1-(n+1)):Nat):Int)
  refine ⟨(kM d1 b1).2,?_⟩
  rw [CF hs d1 b1,d2,b2,h2,<-alH hs l (4*(nj l+1-(n+1))),show 4*(nj l+1-n)=4*(nj l+1-(n+1))+4 by omega]
theorem am2 {l:List Tm} (ha:eU s l=true):onB s (Fm s l)=true/\gp (ba hs) (Fm s l)=nF (tG hs l):=by
 unfold Fm
 cases aq5 l
 ·obtain ⟨h1,h2⟩:=SA hs ha (nj l+1) (Nat.le_refl _)
  rw [Nat.sub_self,Nat.mul_zero,alG] at h2
  exact ⟨h1,h2⟩
 ·exact Xv hs ha
end
end Go.Proofs.YtohjofabochgfaaGreat

namespace Go.Proofs.YtohjofabochgfaaGreat
open Sx Go
section
variable {s:Int} (hs:ak s=true)
theorem ait (k:aa) (x:Gs hs):sm (zY s k).nat x=sm k.nat x:=by
 rw [KS hs,show (ofP (pS (fQ s 1)) k).nat=k.nat%pS (fQ s 1) from cv (fh (eY hs)),aca hs]
theorem af8 (l:List Tm):eU s (Ap s l)=eU s l:=by
 unfold eU Ap
 rw [List.all_map]
 rfl
theorem apH (l:List Tm):nF (tG hs (Ap s l))=nF (tG hs l):=by
 induction l with
 |nil=>rfl
 |cons t l ih=>
  show sm (zY s t.1).nat (gp (ba hs) t.2)+nF (tG hs (Ap s l))=sm t.1.nat (gp (ba hs) t.2)+nF (tG hs l)
  rw [ih,ait hs]
theorem Bc {l:List Tm} (ha:eU s l=true):onB s (Fm s (Ap s l))=true/\gp (ba hs) (Fm s (Ap s l))=nF (tG hs l):=by
 obtain ⟨h1,h2⟩:=am2 hs (l:=Ap s l) (by rw [af8];exact ha)
 exact ⟨h1,h2.trans (apH hs l)⟩
theorem ab2 (l r:List Tm):nF (tG hs (l++r))=nF (tG hs l)+nF (tG hs r):=by
 unfold tG
 rw [List.map_append,rC]
end
end Go.Proofs.YtohjofabochgfaaGreat

namespace Go.Proofs.YtohjofabochgfaaGreat
open Sx Go
theorem Nt {p:alu} (h:(gK p==0)=true) (l:List aa) (b:aa) (hl:l.length<=p.2.2.1.length):ak p.1=true/\eU p.1 (ZJ p l b)=true:=by
 have hG:p.2.2.1.any (Ak p.1)=false/\Ak p.1 p.2.2.2.1=false/\ak p.1=true:=by
  unfold gK at h
  cases h1:ak p.1
  ·rw [h1] at h;cases h
  ·rw [h1] at h
   by_cases h2:p.2.1<0
   ·rw [decide_eq_true h2] at h;cases h
   ·rw [decide_eq_false h2] at h
    by_cases h3:5<p.2.1
    ·rw [decide_eq_true h3] at h;cases h
    ·rw [decide_eq_false h3] at h
     cases h4:(p.2.2.1.length:Int)==aed 1 p.2.1
     ·rw [h4] at h;cases h
     ·rw [h4] at h
      cases h5:p.2.2.1.any (Ak p.1)
      ·rw [h5] at h
       cases h6:Ak p.1 p.2.2.2.1
       ·exact ⟨rfl,rfl,rfl⟩
       ·rw [h6] at h;cases h
      ·rw [h5] at h;cases h
 obtain ⟨hG,hW,hs⟩:=hG
 have bad:∀ {P:Pt},Ak p.1 P=false->onB p.1 P=true:=λ{P} hb=>by
  unfold Ak at hb
  cases ho:onB p.1 P
  ·rw [ho] at hb;cases h2:P.2.2<;>rw [h2] at hb<;>cases hb
  ·rfl
 refine ⟨hs,?_⟩
 have go:∀ n,n<=l.length->eU p.1 (upto (E8 p.2.2.1 l) [(b,p.2.2.2.1)] n)=true:=by
  intro n
  induction n with
  |zero=>
   intro _
   show eU p.1 [(b,p.2.2.2.1)]=true
   unfold eU
   rw [List.all_cons,bad hW]
   rfl
  |succ n ih=>
   intro hn
   show eU p.1 (upto (E8 p.2.2.1 l) [(b,p.2.2.2.1)] n++ [_])=true
   have h1:=ih (by omega)
   unfold eU at h1⊢
   have hk:n<p.2.2.1.length:=by omega
   have e3:p.2.2.1.getD n yV=p.2.2.1[n]:=by rw [List.getD_eq_getElem?_getD,List.getElem?_eq_getElem hk];rfl
   have hb:Ak p.1 p.2.2.1[n]=false:=by
    have:=List.any_eq_false.1 hG _ (List.getElem_mem hk)
    simpa using this
   rw [List.all_append,h1,List.all_cons,e3,bad hb]
   rfl
 exact go _ (Nat.le_refl _)
theorem Dq {p:alu} (h:(gK p==0)=true) (l:List aa) (b:aa) (hl:l.length<=p.2.2.1.length):E9 p l b=(Fm p.1 (Ap p.1 (ZJ p l b)),0):=by
 obtain ⟨hs,ha⟩:=Nt h l b hl
 have hG:=Dx h
 have hn:(ZJ p l b).length<=100000:=by
  unfold ZJ
  rw [GX]
  omega
 unfold E9
 rw [h,decide_eq_false (by omega),hs,ha,decide_eq_true hn]
 rfl
def zeE:aa:=⟨0,0,0,0⟩
def YR (p:Nat) (k:aa) (a b:List aa) (i:Nat):aa:=
 cond (decide (i<a.length)) (cond (decide (i<b.length)) (im p (aN p k (a.getD i zeE)) (b.getD i zeE)) (aN p k (a.getD i zeE)))
  (cond (decide (i<b.length)) (im p zeE (b.getD i zeE)) zeE)
def aap (p:Nat) (k:aa) (a b:List aa) (n:Nat):List aa:=upto (λi o=>o++ [YR p k a b i]) [] n
theorem HE {α:Type} (f:Nat->α):∀ n,upto (λi (o:List α)=>o++ [f i]) [] n=(List.range n).map f
 |0=>rfl
 |n+1=>by
  rw [List.range_succ,List.map_append,<-HE f n]
  rfl
theorem uG {α:Type} {l:List α} {i:Nat} {d:α} (h:l.length<=i):l.getD i d=d:=by
 rw [List.getD_eq_getElem?_getD,List.getElem?_eq_none h]
 rfl
theorem sk (p:Nat) (k:aa) (a b:List aa) (n:Nat):(aap p k a b n).length=n:=by
 unfold aap
 rw [HE,List.length_map,List.length_range]
theorem ajM {p:Nat} {k:aa} {a b:List aa} {n:Nat} (ha:a.length<=n) (hb:b.length<=n) (i:Nat):(aap p k a b n).getD i zeE=YR p k a b i:=by
 by_cases h:i<n
 ·unfold aap
  rw [HE,List.getD_eq_getElem?_getD,List.getElem?_map,List.getElem?_range h]
  rfl
 ·rw [uG (by rw [sk];omega)]
  unfold YR
  rw [decide_eq_false (by omega),decide_eq_false (by omega)]
  rfl
section
variable {s:Int} (hs:ak s=true)
theorem RY (x y:aa) (g:Gs hs):sm (im (pS (fQ s 1)) x y).nat g=sm x.nat g+sm y.nat g:=by
 rw [show (im (pS (fQ s 1)) x y).nat=(x.nat+y.nat)%pS (fQ s 1) from cv (fh (eY hs)),aca hs,O2]
theorem Qu (x y:aa) (g:Gs hs):sm (aN (pS (fQ s 1)) x y).nat g=sm x.nat (sm y.nat g):=by
 rw [show (aN (pS (fQ s 1)) x y).nat=x.nat*y.nat%pS (fQ s 1) from cv (fh (eY hs)),aca hs,UR]
theorem HA (g:Gs hs):sm zeE.nat g=0:=O1 g
theorem an4 (k:aa) (a b:List aa) (i:Nat) (g:Gs hs):sm (YR (pS (fQ s 1)) k a b i).nat g=sm k.nat (sm (a.getD i zeE).nat g)+sm (b.getD i zeE).nat g:=by
 unfold YR
 by_cases h1:i<a.length
 ·rw [decide_eq_true h1,cond_true]
  by_cases h2:i<b.length
  ·rw [decide_eq_true h2,cond_true,RY hs,Qu hs]
  ·rw [decide_eq_false h2,cond_false,Qu hs,uG (l:=b) (by omega),HA hs,oE]
 ·rw [decide_eq_false h1,cond_false,uG (l:=a) (by omega),HA hs,ab9,aaq]
  by_cases h2:i<b.length
  ·rw [decide_eq_true h2,cond_true,RY hs,HA hs,aaq]
  ·rw [decide_eq_false h2,cond_false,uG (l:=b) (by omega)]
noncomputable def tC (G:List Pt) (W:Pt) (l:List aa) (b:aa) (n:Nat):Gs hs:=nF (tG hs (upto (E8 G l) [(b,W)] n))
theorem OV (G:List Pt) (W:Pt) (l:List aa) (b:aa):tC hs G W l b 0=sm b.nat (gp (ba hs) W):=oE _
theorem HI (G:List Pt) (W:Pt) (l:List aa) (b:aa) (n:Nat):tC hs G W l b (n+1)=tC hs G W l b n+sm (l.getD n zeE).nat (gp (ba hs) (G.getD n yV)):=by
 show nF (tG hs (upto (E8 G l) [(b,W)] n++ [(l.getD n zeE,G.getD n yV)]))=_
 rw [ab2]
 exact congrArg (tC hs G W l b n+ ·) (oE _)
theorem ab3 (G:List Pt) (W:Pt) (l:List aa) (b:aa):∀ d,tC hs G W l b (l.length+d)=tC hs G W l b l.length
 |0=>rfl
 |d+1=>by
  show tC hs G W l b (l.length+d+1)=_
  rw [HI,ab3 G W l b d,uG (by omega),HA hs,oE]
theorem akM {G:List Pt} {W:Pt} {l:List aa} {b:aa} {n:Nat} (h:l.length<=n):tC hs G W l b n=tC hs G W l b l.length:=by
 rw [<-ab3 hs G W l b (n-l.length),Nat.add_sub_cancel' h]
theorem akL (G:List Pt) (W:Pt) (k:aa) {a b l:List aa} (r t:aa) (hl:∀ i,l.getD i zeE=YR (pS (fQ s 1)) k a b i):
 ∀ n,tC hs G W l (im (pS (fQ s 1)) (aN (pS (fQ s 1)) k r) t) n=sm k.nat (tC hs G W a r n)+tC hs G W b t n
 |0=>by rw [OV,OV,OV,RY hs,Qu hs]
 |n+1=>by
  rw [HI,HI,HI,akL G W k r t hl n,hl,an4 hs,akQ]
  generalize sm k.nat (tC hs G W a r n)=u
  generalize tC hs G W b t n=v
  generalize sm k.nat (sm (a.getD n zeE).nat (gp (ba hs) (G.getD n yV)))=x
  generalize sm (b.getD n zeE).nat (gp (ba hs) (G.getD n yV))=y
  rw [CI,CI,<-CI v x y,ala v x,CI x v y]
end
theorem aoL {p:alu} (h:(gK p==0)=true) (k:aa) {a b:List aa} (r t:aa) (ha:a.length<=p.2.2.1.length) (hb:b.length<=p.2.2.1.length):
 E9 p (aap (pS (fQ p.1 1)) k a b (max a.length b.length)) (im (pS (fQ p.1 1)) (aN (pS (fQ p.1 1)) k r) t)=(ek p.1 (nA p.1 k (E9 p a r).1) (E9 p b t).1,0):=by
 obtain ⟨hs,oa⟩:=Nt h a r ha
 obtain ⟨_,ob⟩:=Nt h b t hb
 have hn:(aap (pS (fQ p.1 1)) k a b (max a.length b.length)).length<=p.2.2.1.length:=by
  rw [sk]
  omega
 obtain ⟨_,ol⟩:=Nt h _ (im (pS (fQ p.1 1)) (aN (pS (fQ p.1 1)) k r) t) hn
 rw [Dq h a r ha,Dq h b t hb,Dq h _ _ hn]
 obtain ⟨a1,a2⟩:=Bc hs oa
 obtain ⟨b1,b2⟩:=Bc hs ob
 obtain ⟨l1,l2⟩:=Bc hs ol
 have m1:=(IG k a1).2
 refine congrArg (λP:Pt=>(P,(0:Int))) (aqi hs l1 (kM m1 b1).2 ?_)
 rw [l2,CF hs m1 b1,ak9 hs k a1,a2,b2]
 have e:=akL hs p.2.2.1 p.2.2.2.1 k r t (ajM (p:=pS (fQ p.1 1)) (k:=k) (a:=a) (b:=b) (n:=max a.length b.length) (by omega) (by omega)) (max a.length b.length)
 rw [akM hs (l:=a) (by omega),akM hs (l:=b) (by omega)] at e
 have e2:(ZJ p (aap (pS (fQ p.1 1)) k a b (max a.length b.length)) (im (pS (fQ p.1 1)) (aN (pS (fQ p.1 1)) k r) t))=upto (E8 p.2.2.1 (aap (pS (fQ p.1 1)) k a b (max a.length b.length))) [(im (pS (fQ p.1 1)) (aN (pS (fQ p.1 1)) k r) t,p.2.2.2.1)] (max a.length b.length):=by
  unfold ZJ
  rw [sk]
 rw [e2]
 exact e
end Go.Proofs.YtohjofabochgfaaGreat
