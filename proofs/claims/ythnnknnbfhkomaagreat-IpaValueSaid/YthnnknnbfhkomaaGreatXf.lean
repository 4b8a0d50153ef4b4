/- A symbolic machine for Go code over plain data, and functions of the program as it shows them. No statement is proved in this file. -/
import Derived.KernelRfl
import Derived.Test.YthnnknnbfhkomaaGreatXe
set_option linter.unusedSimpArgs false
set_option linter.unusedVariables false
set_option linter.unusedSectionVars false
namespace Go.Proofs.YthnnknnbfhkomaaGreat
section
open Sx Go
set_option maxRecDepth 100000
def jp:af:=⟨[Pb,eX,lC,dw,dw],m7,false,2,true⟩
noncomputable abbrev VU:anU:=aHL
def aq6:Nat:=3
theorem acb:L8 aj VU:=apz
abbrev vI:Type:=(kW×Unit×eC×xo)×F1
def aq7:Shape:=⟨215,[rG,(2,lC),uJ,(8,gv),(9,CE),n0,nZ,(212,F3),(213,F3),(214,Cz)],[aes,lc,(2,uE),nY,Cy,(5,.cells [.own 7]),(6,pc),(7,F6)],2,true⟩
def al2:Shape:=⟨212,[rG,uJ,(8,gv),(9,CE),n0,nZ,(12,aC),(40,lC),(41,aC),(42,aC)],aiW,8,true⟩
abbrev bP:Type:=(Unit×Unit×Unit×Unit×Unit×Unit×Int×eC×jR)×aiO
def kN:Shape:=⟨212,[n0,nZ],aiW,8,true⟩
abbrev ql:Type:=m6×aiO
def nL:Shape:=⟨212,[rG,uJ,(8,gv),(9,CE),n0,nZ,(12,aC)],aiW,8,true⟩
abbrev lT:Type:=(Unit×LU)×aiO
def al9 (a12:Int) (a40:eC) (a41:Int) (a42:Int) (c0_0:Int) (c0_2:aF) (c1_0:Int) (c1_1:aB) (c2_0:kW) (c3:ap) (c4:ap) (c6_0:Int) (c8:eC):OT (Sum bP aZ):=
 let z0:ab:= {w0:=0,w1:=0,w2:=0,w3:=0}
 let z1:ab×cK:=List.getD a40 (Int.toNat a42) (z0,z0,z0,false)
 let z2:=z1.snd
 let z3:=z1.fst
 (.br (decide (a42<a41))
 (gd [inB a42 (List.length a40)] (.br (onB c2_0.fst z2)
  (gd [gT ((a12,z3,z0,()),()),decide ((List.length c8+1)*104<=140737488355328),inR (a42+(1:Int))] (.ok (.inl (((),(),(),(),(),(),a12,a40,a41,a42+(1:Int),()),(c0_0,(),c0_2,()),(c1_0,c1_1,()),(c2_0,()),c3,c4,((),()),(c6_0,()),(),c8++ [(dv (pS a12) z3 z0,z2)],()))))
  (.ok (.inr ⟨(.pan (.iface 175 (.agg [.int (41:Int)])),kN),(((),(),()),(c0_0,(),c0_2,()),(c1_0,c1_1,()),(c2_0,()),c3,c4,((),()),(c6_0,()),(),c8,())⟩))))
 (.ok (.inr ⟨(.exit 0,nL),(((),(),(),(),(),(),a12,()),(c0_0,(),c0_2,()),(c1_0,c1_1,()),(c2_0,()),c3,c4,((),()),(c6_0,()),(),c8,())⟩)))
def oC (s:bP):OT (Sum bP aZ):=al9 s.1.2.2.2.2.2.2.1 s.1.2.2.2.2.2.2.2.1 s.1.2.2.2.2.2.2.2.2.1 s.1.2.2.2.2.2.2.2.2.2.1 s.2.1.1 s.2.1.2.2.1 s.2.2.1.1 s.2.2.1.2.1 s.2.2.2.1.1 s.2.2.2.2.1 s.2.2.2.2.2.1 s.2.2.2.2.2.2.2.1.1 s.2.2.2.2.2.2.2.2.2.1
def N5 (g0_p:bP->ql) (v0:bP->Int) (c0_p:bP->Bool) (g0_0:bP->lT) (s:bP):OT aZ:=(.br (c0_p s) (.ok ⟨(.pan (.iface 175 (.agg [.int (v0 s)])),kN),g0_p s⟩) (.ok ⟨(.exit 0,nL),g0_0 s⟩))
def al1:Shape:=⟨212,[rG,uJ,(8,gv),n0,nZ,(12,aC),(17,LZ),(18,.ptr 9 0 0),(19,.own 10),(99,aC),(100,aC)],aBS,8,true⟩
abbrev bz:Type:=(Unit×Unit×Unit×Unit×Unit×Int×Unit×rF)×aBJ
def cT:Shape:=⟨212,[n0,nZ],aiW,8,true⟩
abbrev qk:Type:=m6×aiO
def kM:Shape:=⟨212,[rG,uJ,n0,nZ,(12,aC),(17,LZ),(18,.ptr 9 0 0),(19,.own 10)],aBS,8,true⟩
abbrev lS:Type:=(Unit×Unit×Unit×Unit×Int×nW)×aBJ
def al8 (a12:Int) (a99:Int) (a100:Int) (c0_0:Int) (c0_2:aF) (c1_0:Int) (c1_1:aB) (c2_0:kW) (c3:ap) (c4:ap) (c6_0:Int) (c8:ap) (c9:ap) (c10:aB) (c11:eC):OT (Sum bz aZ):=
 let z0:Cq×aF:=dB c0_0 c0_2
 let z1:=z0.fst
 let z2:=z1.snd
 let z3:=z0.snd
 let z4:Cq×aF:=dB c0_0 z3
 let z5:=z4.fst
 let z6:=z5.snd
 let z7:=z4.snd
 let z8:mZ:=ao c1_1
 let z9:=z8.snd
 let z10:=z9.fst
 let z11:ab:=dv (pS c1_0) z8.fst {w0:=0,w1:=0,w2:=0,w3:=0}
 let z12:=z9.snd
 let z13:ab:= {w0:=List.getD c3 0 0,w1:=List.getD c3 1 0,w2:=List.getD c3 2 0,w3:=List.getD c3 3 0}
 let z14:ab:= {w0:=cE (1:UInt64) (c2_0.snd.fst-(1:Int)-a100),w1:=0,w2:=0,w3:=0}
 let z15:Nat:=List.length c9
 let z16:Nat:=pS a12
 let z17:ab:=lv z16 z13 z14
 let z18:ab:= {w0:=1,w1:=0,w2:=0,w3:=0}
 let z19:ab:=aR z16 z11 z17
 let z20:ab:= {w0:=List.getD c9 0 0,w1:=List.getD c9 1 0,w2:=List.getD c9 2 0,w3:=List.getD c9 3 0}
 let z21:ab:=dv z16 z18 z19
 let z22:ab:=aR z16 z20 z21
 (.br (decide (a100<a99))
 (.br (z2==(0:Int))
  (.br (z6==(0:Int))
   (gd [rY (((),()),(c0_0,(),z7,()),(c1_0,c1_1,()),())] (.br (z10==(0:Int))
    (.br (bC z11)
     (.ok (.inr ⟨(.pan (.iface 175 (.agg [.int (100:Int)])),cT),(((),(),()),(c0_0,(),z7,()),(c1_0,z12,()),(c2_0,()),c3,c4,((),()),(c6_0,()),(),c11,())⟩))
     (gd [decide ((List.length c10+1)*32<=140737488355328),tT ((a12,z11,()),()),decide ((List.length c11+2)*104<=140737488355328),decide (4<=List.length c3),inR (c2_0.snd.fst-(1:Int)),inR (c2_0.snd.fst-(1:Int)-a100),decide ((0:Int)<=c2_0.snd.fst-(1:Int)-a100),oP ((a12,z13,z14,()),()),decide (4<=z15),ee ((a12,z11,z17,()),()),gT ((a12,z18,z19,()),()),ee ((a12,z20,z21,()),()),decide ((4/1:Nat)+0<=z15),inR (a100+(1:Int))] (.ok (.inl (((),(),(),(),(),a12,(),(),(),a99,a100+(1:Int),()),(c0_0,(),z7,()),(c1_0,z12,()),(c2_0,()),c3,c4,((),()),(c6_0,()),(),c8,List.set (List.set (List.set (List.set c9 0 z22.w0) 1 z22.w1) 2 z22.w2) 3 z22.w3,c10++ [z11],c11++ [(CO z16 z11,z1.fst),(z11,z5.fst)],())))))
    (.ok (.inr ⟨(.pan (.iface 175 (.agg [.int z10])),cT),(((),(),()),(c0_0,(),z7,()),(c1_0,z12,()),(c2_0,()),c3,c4,((),()),(c6_0,()),(),c11,())⟩))))
   (.ok (.inr ⟨(.pan (.iface 175 (.agg [.int z6])),cT),(((),(),()),(c0_0,(),z7,()),(c1_0,c1_1,()),(c2_0,()),c3,c4,((),()),(c6_0,()),(),c11,())⟩)))
  (.ok (.inr ⟨(.pan (.iface 175 (.agg [.int z2])),cT),(((),(),()),(c0_0,(),z3,()),(c1_0,c1_1,()),(c2_0,()),c3,c4,((),()),(c6_0,()),(),c11,())⟩)))
 (.ok (.inr ⟨(.exit 2,kM),(((),(),(),(),a12,(),(),(),()),(c0_0,(),c0_2,()),(c1_0,c1_1,()),(c2_0,()),c3,c4,((),()),(c6_0,()),(),c8,c9,c10,c11,())⟩)))
def oB (s:bz):OT (Sum bz aZ):=al8 s.1.2.2.2.2.2.1 s.1.2.2.2.2.2.2.2.2.2.1 s.1.2.2.2.2.2.2.2.2.2.2.1 s.2.1.1 s.2.1.2.2.1 s.2.2.1.1 s.2.2.1.2.1 s.2.2.2.1.1 s.2.2.2.2.1 s.2.2.2.2.2.1 s.2.2.2.2.2.2.2.1.1 s.2.2.2.2.2.2.2.2.2.1 s.2.2.2.2.2.2.2.2.2.2.1 s.2.2.2.2.2.2.2.2.2.2.2.1 s.2.2.2.2.2.2.2.2.2.2.2.2.1
def N4 (g2_p:bz->qk) (v2:bz->Int) (c2_p:bz->Bool) (g2_2:bz->lS) (s:bz):OT aZ:=(.br (c2_p s) (.ok ⟨(.pan (.iface 175 (.agg [.int (v2 s)])),cT),g2_p s⟩) (.ok ⟨(.exit 2,kM),g2_2 s⟩))
def al0:Shape:=⟨212,[uJ,n0,nZ,(12,aC),(17,LZ),(18,.ptr 9 0 0),(26,.ptr 10 0 0),(27,.ptr 11 0 0),(175,.own 12),(176,aC),(177,aC)],[aes,lc,(2,uE),nY,Cy,(5,.cells [.own 13]),(6,pc),(7,.gone),(8,gx),(9,gx),(10,gx),(11,gx),(12,fL),(13,F6)],8,true⟩
abbrev dZ:Type:=(Unit×Unit×Unit×Int×YS)×YP×jT×rB×ap×ap×ct×eU×Unit×ap×ap×ap×ap×aB×o6
def nK:Shape:=⟨212,[uJ,n0,nZ,(12,aC),(17,LZ),(18,.ptr 9 0 0),(26,.ptr 10 0 0),(27,.ptr 11 0 0)],[aes,lc,(2,uE),nY,Cy,(5,.cells [.own 12]),(6,pc),(7,.gone),(8,gx),(9,gx),(10,gx),(11,gx),(12,F6)],8,true⟩
abbrev lR:Type:=(Unit×Unit×Unit×Int×LR)×YP×jT×rB×ap×ap×ct×eU×Unit×ap×ap×ap×ap×o6
def al7 (a12:Int) (a176:Int) (a177:Int) (c0_0:Int) (c0_2:aF) (c1_0:Int) (c1_1:aB) (c2_0:kW) (c3:ap) (c4:ap) (c6_0:Int) (c8:ap) (c9:ap) (c10:ap) (c11:ap) (c12:aB) (c13:eC):OT (Sum dZ aZ):=
 let z0:Nat:=List.length c12
 let z1:Nat:=Int.toNat a177
 let z2:ab:= {w0:=0,w1:=0,w2:=0,w3:=0}
 (.br (decide (a177<a176))
 (gd [inB a177 z0,decide (z1<z0),inB a177 (List.length c2_0.snd.snd.fst),decide ((List.length c13+1)*104<=140737488355328),inR (a177+(1:Int))] (.ok (.inl (((),(),(),a12,(),(),(),(),(),a176,a177+(1:Int),()),(c0_0,(),c0_2,()),(c1_0,c1_1,()),(c2_0,()),c3,c4,((),()),(c6_0,()),(),c8,c9,c10,c11,c12,c13++ [(List.getD c12 z1 z2,List.getD c2_0.snd.snd.fst z1 (z2,z2,false))],()))))
 (.ok (.inr ⟨(.exit 4,nK),(((),(),(),a12,(),(),(),(),()),(c0_0,(),c0_2,()),(c1_0,c1_1,()),(c2_0,()),c3,c4,((),()),(c6_0,()),(),c8,c9,c10,c11,c13,())⟩)))
def vH (s:dZ):OT (Sum dZ aZ):=al7 s.1.2.2.2.1 s.1.2.2.2.2.2.2.2.2.2.1 s.1.2.2.2.2.2.2.2.2.2.2.1 s.2.1.1 s.2.1.2.2.1 s.2.2.1.1 s.2.2.1.2.1 s.2.2.2.1.1 s.2.2.2.2.1 s.2.2.2.2.2.1 s.2.2.2.2.2.2.2.1.1 s.2.2.2.2.2.2.2.2.2.1 s.2.2.2.2.2.2.2.2.2.2.1 s.2.2.2.2.2.2.2.2.2.2.2.1 s.2.2.2.2.2.2.2.2.2.2.2.2.1 s.2.2.2.2.2.2.2.2.2.2.2.2.2.1 s.2.2.2.2.2.2.2.2.2.2.2.2.2.2.1
def N3 (g4_4:dZ->lR) (s:dZ):OT aZ:=(.ok ⟨(.exit 4,nK),g4_4 s⟩)
def b8:aL:=⟨[.own 2,aC],[aes,lc,Ag],false⟩
section
variable (ok0:bP->Bool) (g0_p:bP->ql) (v0:bP->Int) (c0_p:bP->Bool) (g0_0:bP->lT) (ok2:bz->Bool) (g2_p:bz->qk) (v2:bz->Int) (c2_p:bz->Bool) (g2_2:bz->lS) (ok4:dZ->Bool) (g4_4:dZ->lR)
def BA (a0:kW) (a2:eC) (a3:ab) (a4:ab) (c0_0:Int) (c0_2:aF) (c1_0:Int) (c1_1:aB):OT jp.Y:=
 let z0:Int:=gE a0 c0_0
 let z1:bP:=(((),(),(),(),(),(),ay a0.fst (1:Int),a2,(↑(List.length a2):Int),(0:Int),()),(c0_0,(),c0_2,()),(c1_0,c1_1,()),(a0,()),[a3.w0,a3.w1,a3.w2,a3.w3],[a4.w0,a4.w1,a4.w2,a4.w3],((),()),((0:Int),()),(),[],())
 let z2:Int:=v0 z1
 let z3:=(g0_p z1).snd
 let z4:=z3.fst
 let z5:=z4.fst
 let z6:=z4.snd.snd.fst
 let z7:=z3.snd
 let z8:=z7.fst
 let z9:=z8.fst
 let z10:=z8.snd.fst
 let z11:lT:=g0_0 z1
 let z12:=z11.snd
 let z13:=z12.fst
 let z14:=z13.fst
 let z15:Cq×aF:=dB z14 z13.snd.snd.fst
 let z16:=z15.fst
 let z17:=z16.snd
 let z18:PUnit×PUnit:=((),())
 let z19:=z15.snd
 let z20:Int×PUnit×FZ:=(z14,(),z19,())
 let z21:=z12.snd
 let z22:=z21.fst
 let z23:=z22.fst
 let z24:=z22.snd.fst
 let z25:mZ:=ao z24
 let z26:=z25.snd
 let z27:=z26.fst
 let z28:=z26.snd
 let z29:mZ:=ao z28
 let z30:=z29.snd
 let z31:=z30.fst
 let z32:Nat:=pS z23
 let z33:ab:= {w0:=0,w1:=0,w2:=0,w3:=0}
 let z34:ab:=dv z32 z29.fst z33
 let z35:=z30.snd
 let z36:=z21.snd
 let z37:=z36.snd
 let z38:=z37.snd
 let z39:=z38.fst
 let z40:=z11.fst.snd.snd.snd.snd.snd.snd.fst
 let z41:ab:= {w0:=List.getD z39 0 0,w1:=List.getD z39 1 0,w2:=List.getD z39 2 0,w3:=List.getD z39 3 0}
 let z42:=z36.fst.fst
 let z43:=z42.snd
 let z44:=z43.snd.fst
 let z45:=z38.snd.snd
 let z46:=z45.snd.snd.fst
 let z47:bz:=(((),(),(),(),(),z40,(),(),(),z43.fst,(0:Int),()),z20,(z23,z35,()),(z42,()),z37.fst,z39,((),()),(z45.fst.fst,()),(),[z34.w0,z34.w1,z34.w2,z34.w3],[(1:UInt64),(0:UInt64),(0:UInt64),(0:UInt64)],[],z46++ [(lf (pS z40) z41,List.getD z44 0 (z33,z33,false)),(dv z32 z25.fst z33,z16.fst)],())
 let z48:Int:=v2 z47
 let z49:=(g2_p z47).snd
 let z50:=z49.fst
 let z51:=z50.fst
 let z52:=z50.snd.snd.fst
 let z53:=z49.snd
 let z54:=z53.fst
 let z55:=z54.fst
 let z56:=z54.snd.fst
 let z57:lS:=g2_2 z47
 let z58:=z57.snd
 let z59:=z58.fst
 let z60:=z59.fst
 let z61:Int:=ay z60 (1:Int)
 let z62:(ab×Int)×aF:=dR z61 z59.snd.snd.fst
 let z63:=z62.fst
 let z64:=z63.snd
 let z65:=z62.snd
 let z66:(ab×Int)×aF:=dR z61 z65
 let z67:=z66.fst
 let z68:=z67.snd
 let z69:=z57.fst.snd.snd.snd.snd.fst
 let z70:=z63.fst
 let z71:Nat:=pS z69
 let z72:ab:=lf z71 z70
 let z73:=z58.snd
 let z74:=z73.snd
 let z75:=z74.snd
 let z76:=z75.snd
 let z77:=z76.snd.snd
 let z78:=z77.snd.snd
 let z79:=z78.snd
 let z80:=z79.snd
 let z81:=z80.fst
 let z82:aB:=wtE z71 z72 z81
 let z83:=z66.snd
 let z84:=z73.fst
 let z85:=z84.fst
 let z86:=z84.snd.fst
 let z87:=z67.fst
 let z88:=z80.snd.fst
 let z89:dZ:=(((),(),(),z69,(),(),(),(),(),(↑(List.length z82):Int),(0:Int),()),(z60,(),z83,()),(z85,z86,()),(z74.fst.fst,()),z75.fst,z76.fst,((),()),(z77.fst.fst,()),(),z78.fst,z79.fst,[z87.w0,z87.w1,z87.w2,z87.w3],[z72.w0,z72.w1,z72.w2,z72.w3],z82,z88,())
 let z90:lR:=g4_4 z89
 let z91:=z90.snd
 let z92:=z91.snd
 let z93:=z92.snd
 let z94:=z93.snd.snd.snd.snd.snd.snd
 let z95:=z94.snd
 let z96:=z95.snd
 let z97:=z96.snd
 let z98:=z97.fst
 let z99:=z95.fst
 let z100:=z94.fst
 let z101:=z90.fst.snd.snd.snd.fst
 let z102:ab:= {w0:=List.getD z99 0 0,w1:=List.getD z99 1 0,w2:=List.getD z99 2 0,w3:=List.getD z99 3 0}
 let z103:ab:= {w0:=List.getD z100 0 0,w1:=List.getD z100 1 0,w2:=List.getD z100 2 0,w3:=List.getD z100 3 0}
 let z104:ab:= {w0:=List.getD z98 0 0,w1:=List.getD z98 1 0,w2:=List.getD z98 2 0,w3:=List.getD z98 3 0}
 let z105:Nat:=pS z101
 let z106:ab:=aR z105 z102 z103
 let z107:=z96.fst
 let z108:ab:= {w0:=List.getD z107 0 0,w1:=List.getD z107 1 0,w2:=List.getD z107 2 0,w3:=List.getD z107 3 0}
 let z109:=z97.snd.fst
 let z110:=z91.fst
 let z111:=z92.fst
 let z112:=z93.fst.fst.snd.snd.snd
 (gd [vK ((a0,c0_0,()),())] (.br (z0==(0:Int))
 (gd [ok0 z1] (.br (c0_p z1)
  (.br (!z2==(0:Int))
   (.ok ⟨b8,(((),z2,()),(z5,(),z6,()),(z9,z10,()),[],())⟩)
   (.ok ⟨b8,(((),z2,()),(z5,(),z6,()),(z9,z10,()),z7.snd.snd.snd.snd.snd.snd.snd.fst,())⟩))
  (.br (z17==(0:Int))
   (gd [rY (z18,z20,(z23,z24,()),())] (.br (z27==(0:Int))
    (gd [rY (z18,z20,(z23,z28,()),())] (.br (z31==(0:Int))
     (.br (bC z34)
      (.ok ⟨b8,(((),(100:Int),()),(z14,(),z19,()),(z23,z35,()),[],())⟩)
      (gd [decide (4<=List.length z39),tP ((z40,z41,()),()),inB (0:Int) (List.length z44),decide ((List.length z46+2)*104<=140737488355328),ok2 z47] (.br (c2_p z47)
       (.br (!z48==(0:Int))
        (.ok ⟨b8,(((),z48,()),(z51,(),z52,()),(z55,z56,()),[],())⟩)
        (.ok ⟨b8,(((),z48,()),(z51,(),z52,()),(z55,z56,()),z53.snd.snd.snd.snd.snd.snd.snd.fst,())⟩))
       (.br (z64==(0:Int))
        (.br (z68==(0:Int))
         (gd [tP ((z69,z70,()),()),s8 ((z69,z72,z81,()),()),ok4 z89,decide (4<=List.length z98),decide (4<=List.length z99),decide (4<=List.length z100),ee ((z101,z102,z103,()),()),ee ((z101,z104,z106,()),()),decide (4<=List.length z107),tP ((z101,z108,()),()),decide ((List.length z109+2)*104<=140737488355328)] (.ok ⟨b8,(((),(0:Int),()),(z110.fst,(),z110.snd.snd.fst,()),(z111.fst,z111.snd.fst,()),z109++ [(aR z105 z104 z106,z112.snd),(lf z105 z108,z112.fst)],())⟩))
         (.br (!z68==(0:Int))
          (.ok ⟨b8,(((),z68,()),(z60,(),z83,()),(z85,z86,()),[],())⟩)
          (.ok ⟨b8,(((),z68,()),(z60,(),z83,()),(z85,z86,()),z88,())⟩)))
        (.br (!z64==(0:Int))
         (.ok ⟨b8,(((),z64,()),(z60,(),z65,()),(z85,z86,()),[],())⟩)
         (.ok ⟨b8,(((),z64,()),(z60,(),z65,()),(z85,z86,()),z88,())⟩))))))
     (.br (!z31==(0:Int))
      (.ok ⟨b8,(((),z31,()),(z14,(),z19,()),(z23,z35,()),[],())⟩)
      (.ok ⟨b8,(((),z31,()),(z14,(),z19,()),(z23,z35,()),z46,())⟩))))
    (.br (!z27==(0:Int))
     (.ok ⟨b8,(((),z27,()),(z14,(),z19,()),(z23,z28,()),[],())⟩)
     (.ok ⟨b8,(((),z27,()),(z14,(),z19,()),(z23,z28,()),z46,())⟩))))
   (.br (!z17==(0:Int))
    (.ok ⟨b8,(((),z17,()),(z14,(),z19,()),(z23,z24,()),[],())⟩)
    (.ok ⟨b8,(((),z17,()),(z14,(),z19,()),(z23,z24,()),z46,())⟩)))))
 (.br (!z0==(0:Int))
  (.ok ⟨b8,(((),z0,()),(c0_0,(),c0_2,()),(c1_0,c1_1,()),[],())⟩)
  (.ok ⟨b8,(((),z0,()),(c0_0,(),c0_2,()),(c1_0,c1_1,()),[],())⟩))))
theorem VW (h0:bh oC ok0 (N5 g0_p v0 c0_p g0_0)) (h2:bh oB ok2 (N4 g2_p v2 c2_p g2_2)) (h4:bh vH ok4 (N3 g4_4)) (pre:vI->Bool) (F:vI->OT jp.Y) (hF:∀ (x:vI) oy,pre x=true->(F x).run=some oy->(BA ok0 g0_p v0 c0_p g0_0 ok2 g2_p v2 c2_p g2_2 ok4 g4_4 x.1.1 x.1.2.2.1 x.1.2.2.2.1 x.1.2.2.2.2.1 x.2.1.1 x.2.1.2.2.1 x.2.2.1.1 x.2.2.1.2.1).run=some oy):aa aj 20 (jp.az pre F):=
 aIF uM acb aq6 aq7 20 Tryz.f20 jp [b8] (lg uM 4 al0 [(4,nK)] none none vH bD h4 (lg uM 2 al1 [(2,kM)] none (some (175,cT)) oB bD h2 (lg uM 0 al2 [(0,nL)] none (some (175,kN)) oC bD h0 bD))) (λx=>BA ok0 g0_p v0 c0_p g0_0 ok2 g2_p v2 c2_p g2_2 ok4 g4_4 x.1.1 x.1.2.2.1 x.1.2.2.2.1 x.1.2.2.2.2.1 x.2.1.1 x.2.1.2.2.1 x.2.2.1.1 x.2.2.1.2.1) hF
end
def H2 (m:Nat) (t:Tm):Tm:=(dv m t.1 ⟨0,0,0,0⟩,t.2)
def rM (m:Nat) (c:Int) (l:List Tm):List Tm:=(l.takeWhile λt=>onB c t.2).map (H2 m)
def yU:bP->Bool|((_,_,_,_,_,_,so,com,lim,i,_),x0,x1,(p,_),x3,x4,x5,x6,_,out,_)=>decide (lim=(com.length:Int)/\i=0/\out.length+com.length<=100000)&&ac so
def yW:bP->ql|((_,_,_,_,_,_,so,com,lim,i,_),x0,x1,(p,_),x3,x4,x5,x6,_,out,_)=>(((),(),()),x0,x1,(p,()),x3,x4,x5,x6,(),out++rM (pS so) p.1 com,())
def DO:bP->lT|((_,_,_,_,_,_,so,com,lim,i,_),x0,x1,(p,_),x3,x4,x5,x6,_,out,_)=>(((),(),(),(),(),(),so,()),x0,x1,(p,()),x3,x4,x5,x6,(),out++rM (pS so) p.1 com,())
def DQ:bP->Bool|((_,_,_,_,_,_,so,com,lim,i,_),x0,x1,(p,_),x3,x4,x5,x6,_,out,_)=> !(com.all λt=>onB p.1 t.2)
theorem al6:bh oC yU (N5 yW (λ_=>41) DQ DO):=by
 rintro ⟨⟨⟨⟩,⟨⟩,⟨⟩,⟨⟩,⟨⟩,⟨⟩,so,com,lim,i,⟨⟩⟩,⟨x0,x1,⟨p,⟨⟩⟩,x3,x4,x5,x6,⟨⟩,out,⟨⟩⟩⟩ h
 have h':(decide (lim=(com.length:Int)/\i=0/\out.length+com.length<=100000)&&ac so)=true:=h
 rw [aw] at h'
 obtain ⟨rfl,rfl,ho⟩:=bm h'.1
 have hs:=h'.2
 have key:∀ (l:List Tm) (i:Nat) (out:List Tm),i+l.length=com.length->com.drop i=l->out.length+l.length<=100000->
  ∃ m,cW oC m (((),(),(),(),(),(),so,com,(com.length:Int),(i:Int),()),x0,x1,(p,()),x3,x4,x5,x6,(),out,())=
   some (cond (l.all λt=>onB p.1 t.2) ⟨(.exit 0,nL),(((),(),(),(),(),(),so,()),x0,x1,(p,()),x3,x4,x5,x6,(),out++rM (pS so) p.1 l,())⟩
    ⟨(.pan (.iface 175 (.agg [.int 41])),kN),(((),(),()),x0,x1,(p,()),x3,x4,x5,x6,(),out++rM (pS so) p.1 l,())⟩):=by
  intro l
  induction l with
  |nil=>
   intro i out hi hd ho
   refine ⟨1,aV ?_⟩
   rw [show out++rM (pS so) p.1 []=out from List.append_nil _]
   exact OT.au (bq (by rw [List.length_nil] at hi;dsimp only;omega))
  |cons t r ih=>
   intro i out hi hd ho
   rw [List.length_cons] at hi ho
   have hk:i<com.length:=by omega
   have e1:com.getD i (⟨0,0,0,0⟩,⟨0,0,0,0⟩,⟨0,0,0,0⟩,false)=t:=by
    rw [m8 hk] at hd
    rw [eZ,m9 hk]
    exact (List.cons.inj hd).1
   have e2:com.drop (i+1)=r:=by
    rw [m8 hk] at hd
    exact (List.cons.inj hd).2
   have st:(oC (((),(),(),(),(),(),so,com,(com.length:Int),(i:Int),()),x0,x1,(p,()),x3,x4,x5,x6,(),out,())).run=(OT.br (onB p.1 t.2) (.ok (.inl (((),(),(),(),(),(),so,com,(com.length:Int),((i+1:Nat):Int),()),x0,x1,(p,()),x3,x4,x5,x6,(),out++ [H2 (pS so) t],())))
    (.ok (.inr ⟨(.pan (.iface 175 (.agg [.int 41])),kN),(((),(),()),x0,x1,(p,()),x3,x4,x5,x6,(),out,())⟩)):OT (Sum bP aZ)).run:=by
    refine (OT.ak (ag (by dsimp only;omega))).trans ((ae ?_).trans ?_)
    ·simp only [aA,aI,aJ]
     exact ba (by omega)
    ·simp only [cD,e1]
     cases hb:onB p.1 t.2
     ·rfl
     ·refine (OT.ak rfl).trans ((ae ?_).trans rfl)
      simp only [aA,aI,aJ,aw]
      exact ⟨hs,ag (by omega),aS (by omega)⟩
   cases hb:onB p.1 t.2
   ·refine ⟨1,aV (st.trans ((OT.au hb).trans ?_))⟩
    rw [aA,hb,show rM (pS so) p.1 (t::r)= [] by unfold rM;rw [List.takeWhile_cons,hb];rfl,List.append_nil]
    rfl
   ·obtain ⟨m,hm⟩:=ih (i+1) (out++ [H2 (pS so) t]) (by omega) e2 (by rw [bL,List.length_singleton];omega)
    refine ⟨m+1,bN (st.trans (OT.ak hb)) (hm.trans ?_)⟩
    rw [aA,hb,Bool.true_and,show rM (pS so) p.1 (t::r)=H2 (pS so) t::rM (pS so) p.1 r by unfold rM;rw [List.takeWhile_cons,hb];rfl,List.append_assoc,List.singleton_append]
 obtain ⟨m,hm⟩:=key com 0 out (Nat.zero_add _) rfl ho
 refine ⟨m,_,hm,?_⟩
 show (OT.br (!(com.all λt=>onB p.1 t.2)) _ _).run=_
 cases com.all λt=>onB p.1 t.2<;>rfl
abbrev VSt:Type:=List UInt8×(List ab×(ab×(List ab×List Tm)))
def ca (s c:Int) (x:ab) (k:Int) (v:VSt):Int×VSt:=
 cond ((dB c v.1).1.2==0) (cond ((dB c (dB c v.1).2).1.2==0) (cond ((ao v.2.1).2.1==0) (cond (bC (dv (pS s) (ao v.2.1).1 ⟨0,0,0,0⟩))
  (100,(dB c (dB c v.1).2).2,(ao v.2.1).2.2,v.2.2)
  (0,(dB c (dB c v.1).2).2,(ao v.2.1).2.2,aR (pS s) v.2.2.1 (dv (pS s) ⟨1,0,0,0⟩ (aR (pS s) (dv (pS s) (ao v.2.1).1 ⟨0,0,0,0⟩) (lv (pS s) x ⟨cE 1 k,0,0,0⟩))),v.2.2.2.1++ [dv (pS s) (ao v.2.1).1 ⟨0,0,0,0⟩],
   v.2.2.2.2++ [(CO (pS s) (dv (pS s) (ao v.2.1).1 ⟨0,0,0,0⟩),(dB c v.1).1.1),(dv (pS s) (ao v.2.1).1 ⟨0,0,0,0⟩,(dB c (dB c v.1).2).1.1)]))
  ((ao v.2.1).2.1,(dB c (dB c v.1).2).2,(ao v.2.1).2.2,v.2.2))
  ((dB c (dB c v.1).2).1.2,(dB c (dB c v.1).2).2,v.2))
  ((dB c v.1).1.2,(dB c v.1).2,v.2)
def dV (s c:Int) (x:ab):Nat->VSt->Int×VSt
 |0,v=>(0,v)
 |n+1,v=>cond ((ca s c x (n:Int) v).1==0) (dV s c x n (ca s c x (n:Int) v).2) (ca s c x (n:Int) v)
def yT:bz->Bool|((_,_,_,_,_,so,_,_,_,lim,j,_),(c,_,by_,_),(s,tp,_),(p,_),x,x4,x5,x6,_,z,b,us,out,_)=>decide (lim=p.2.1/\j=0/\0<=p.2.1/\p.2.1<=10/\so=s/\tp.length<=140737488355328/\x.length=4/\b.length=4/\us.length<=1000/\out.length<=100000)&&ac s
def eI:bz->Int×VSt|((_,_,_,_,_,so,_,_,_,lim,j,_),(c,_,by_,_),(s,tp,_),(p,_),x,x4,x5,x6,_,z,b,us,out,_)=>dV s c (hI x) p.2.1.toNat (by_,tp,hI b,us,out)
def yV (q:bz):qk:=(((),(),()),(q.2.1.1,(),(eI q).2.1,()),(q.2.2.1.1,(eI q).2.2.1,()),q.2.2.2.1,q.2.2.2.2.1,q.2.2.2.2.2.1,q.2.2.2.2.2.2.1,q.2.2.2.2.2.2.2.1,(),(eI q).2.2.2.2.2,())
def DN (q:bz):lS:=(((),(),(),(),q.1.2.2.2.2.2.1,(),(),(),()),(q.2.1.1,(),(eI q).2.1,()),(q.2.2.1.1,(eI q).2.2.1,()),q.2.2.2.1,q.2.2.2.2.1,q.2.2.2.2.2.1,q.2.2.2.2.2.2.1,q.2.2.2.2.2.2.2.1,(),q.2.2.2.2.2.2.2.2.2.1,eL (eI q).2.2.2.1,(eI q).2.2.2.2.1,(eI q).2.2.2.2.2,())
def DP (q:bz):Bool:= !((eI q).1==0)
def DL (c so s:Int) (p:ml) (x x4:ap) (x5:ct) (x6:eU) (z:ap) (r:Int×VSt):aZ:=cond (r.1==0)
 ⟨(.exit 2,kM),(((),(),(),(),so,(),(),(),()),(c,(),r.2.1,()),(s,r.2.2.1,()),(p,()),x,x4,x5,x6,(),z,eL r.2.2.2.1,r.2.2.2.2.1,r.2.2.2.2.2,())⟩
 ⟨(.pan (.iface 175 (.agg [.int r.1])),cT),(((),(),()),(c,(),r.2.1,()),(s,r.2.2.1,()),(p,()),x,x4,x5,x6,(),r.2.2.2.2.2,())⟩
theorem aGJ {l:List UInt64} (h:l.length=4):eL (hI l)=l:=by
 match l,h with
 | [a,b,c,d],_=>rfl
theorem al5:bh oB yT (N4 yV (λq=>(eI q).1) DP DN):=by
 rintro ⟨⟨⟨⟩,⟨⟩,⟨⟩,⟨⟩,⟨⟩,so,⟨⟩,⟨⟩,⟨⟩,lim,j,⟨⟩⟩,⟨⟨c,⟨⟩,by_,⟨⟩⟩,⟨s,tp,⟨⟩⟩,⟨p,⟨⟩⟩,x,x4,x5,x6,⟨⟩,z,b,us,out,⟨⟩⟩⟩ h
 have h':(decide (lim=p.2.1/\j=0/\0<=p.2.1/\p.2.1<=10/\so=s/\tp.length<=140737488355328/\x.length=4/\b.length=4/\us.length<=1000/\out.length<=100000)&&ac s)=true:=h
 rw [aw] at h'
 obtain ⟨rfl,rfl,k0,k1,rfl,ht,hx,hb,hu,ho⟩:=bm h'.1
 have hs:=h'.2
 have key:∀ (n:Nat) (j:Nat) (v:VSt),(j:Int)+n=p.2.1->v.2.1.length<=140737488355328->v.2.2.2.1.length<=1000+j->v.2.2.2.2.length<=100000+2*j->
  ∃ m,cW oB m (((),(),(),(),(),so,(),(),(),p.2.1,(j:Int),()),(c,(),v.1,()),(so,v.2.1,()),(p,()),x,x4,x5,x6,(),z,eL v.2.2.1,v.2.2.2.1,v.2.2.2.2,())=some (DL c so so p x x4 x5 x6 z (dV so c (hI x) n v)):=by
  intro n
  induction n with
  |zero=>
   intro j v hj h1 h2 h3
   exact ⟨1,aV (OT.au (bq (by dsimp only;omega)))⟩
  |succ n ih=>
   intro j v hj h1 h2 h3
   have hk:p.2.1-1-(j:Int)=(n:Int):=by omega
   have st:(oB (((),(),(),(),(),so,(),(),(),p.2.1,(j:Int),()),(c,(),v.1,()),(so,v.2.1,()),(p,()),x,x4,x5,x6,(),z,eL v.2.2.1,v.2.2.2.1,v.2.2.2.2,())).run=
    (OT.br ((ca so c (hI x) (n:Int) v).1==0) (.ok (.inl (((),(),(),(),(),so,(),(),(),p.2.1,((j+1:Nat):Int),()),(c,(),(ca so c (hI x) (n:Int) v).2.1,()),(so,(ca so c (hI x) (n:Int) v).2.2.1,()),(p,()),x,x4,x5,x6,(),z,eL (ca so c (hI x) (n:Int) v).2.2.2.1,(ca so c (hI x) (n:Int) v).2.2.2.2.1,(ca so c (hI x) (n:Int) v).2.2.2.2.2,())))
     (.ok (.inr ⟨(.pan (.iface 175 (.agg [.int (ca so c (hI x) (n:Int) v).1])),cT),(((),(),()),(c,(),(ca so c (hI x) (n:Int) v).2.1,()),(so,(ca so c (hI x) (n:Int) v).2.2.1,()),(p,()),x,x4,x5,x6,(),(ca so c (hI x) (n:Int) v).2.2.2.2.2,())⟩)):OT (Sum bz aZ)).run:=by
    have hF:∀ r,ca so c (hI x) (n:Int) v=r->(OT.br ((ca so c (hI x) (n:Int) v).1==0) (.ok (.inl (((),(),(),(),(),so,(),(),(),p.2.1,((j+1:Nat):Int),()),(c,(),(ca so c (hI x) (n:Int) v).2.1,()),(so,(ca so c (hI x) (n:Int) v).2.2.1,()),(p,()),x,x4,x5,x6,(),z,eL (ca so c (hI x) (n:Int) v).2.2.2.1,(ca so c (hI x) (n:Int) v).2.2.2.2.1,(ca so c (hI x) (n:Int) v).2.2.2.2.2,())))
     (.ok (.inr ⟨(.pan (.iface 175 (.agg [.int (ca so c (hI x) (n:Int) v).1])),cT),(((),(),()),(c,(),(ca so c (hI x) (n:Int) v).2.1,()),(so,(ca so c (hI x) (n:Int) v).2.2.1,()),(p,()),x,x4,x5,x6,(),(ca so c (hI x) (n:Int) v).2.2.2.2.2,())⟩)):OT (Sum bz aZ)).run=
     (OT.br (r.1==0) (.ok (.inl (((),(),(),(),(),so,(),(),(),p.2.1,((j+1:Nat):Int),()),(c,(),r.2.1,()),(so,r.2.2.1,()),(p,()),x,x4,x5,x6,(),z,eL r.2.2.2.1,r.2.2.2.2.1,r.2.2.2.2.2,())))
      (.ok (.inr ⟨(.pan (.iface 175 (.agg [.int r.1])),cT),(((),(),()),(c,(),r.2.1,()),(so,r.2.2.1,()),(p,()),x,x4,x5,x6,(),r.2.2.2.2.2,())⟩)):OT (Sum bz aZ)).run:=λr h=>by rw [h]
    generalize (OT.br ((ca so c (hI x) (n:Int) v).1==0) (.ok (.inl (((),(),(),(),(),so,(),(),(),p.2.1,((j+1:Nat):Int),()),(c,(),(ca so c (hI x) (n:Int) v).2.1,()),(so,(ca so c (hI x) (n:Int) v).2.2.1,()),(p,()),x,x4,x5,x6,(),z,eL (ca so c (hI x) (n:Int) v).2.2.2.1,(ca so c (hI x) (n:Int) v).2.2.2.2.1,(ca so c (hI x) (n:Int) v).2.2.2.2.2,())))
     (.ok (.inr ⟨(.pan (.iface 175 (.agg [.int (ca so c (hI x) (n:Int) v).1])),cT),(((),(),()),(c,(),(ca so c (hI x) (n:Int) v).2.1,()),(so,(ca so c (hI x) (n:Int) v).2.2.1,()),(p,()),x,x4,x5,x6,(),(ca so c (hI x) (n:Int) v).2.2.2.2.2,())⟩)):OT (Sum bz aZ)).run=G at*
    unfold ca at hF
    refine (OT.ak (ag (by dsimp only;omega))).trans ?_
    refine eW ((dB c v.1).1.2==0) (λe1=> ?_) (λe1=> ?_)
    ·rw [e1,aT] at hF
     exact (OT.au e1).trans ((OT.au e1).symm.trans (hF _ rfl).symm)
    rw [e1,aK] at hF
    refine (OT.ak e1).trans ?_
    refine eW ((dB c (dB c v.1).2).1.2==0) (λe2=> ?_) (λe2=> ?_)
    ·rw [e2,aT] at hF
     exact (OT.au e2).trans ((OT.au e2).symm.trans (hF _ rfl).symm)
    rw [e2,aK] at hF
    refine (OT.ak e2).trans ((ae (by simp only [aA,aI,aJ];exact be hs (ag h1))).trans ?_)
    refine eW ((ao v.2.1).2.1==0) (λe3=> ?_) (λe3=> ?_)
    ·rw [e3,aT] at hF
     exact (OT.au e3).trans ((OT.au e3).symm.trans (hF _ rfl).symm)
    rw [e3,aK] at hF
    refine (OT.ak e3).trans ?_
    refine eW (bC (dv (pS so) (ao v.2.1).1 ⟨0,0,0,0⟩)) (λe4=> ?_) (λe4=> ?_)
    ·rw [e4,aT] at hF
     refine (OT.au e4).trans ((ae ?_).trans (Eq.trans ?_ (hF _ rfl).symm))
     ·simp only [aA,aI,aJ,aw]
      exact ⟨ag (by omega),atx hs e4,ag (by omega),ag (by omega),aS (by omega),aS (by omega),ag (by omega),hs,rfl,hs,hs,hs,rfl,aS (by omega)⟩
     ·simp only [hk]
      rfl
    ·rw [e4,aK] at hF
     exact (OT.ak e4).trans (hF _ rfl).symm
   unfold dV
   cases h4:(ca so c (hI x) (n:Int) v).1==0
   ·rw [aT]
    refine ⟨1,aV (st.trans ((OT.au h4).trans ?_))⟩
    unfold DL
    rw [h4]
    rfl
   ·rw [aK]
    have l1:(ca so c (hI x) (n:Int) v).2.2.1.length<=140737488355328/\(ca so c (hI x) (n:Int) v).2.2.2.2.1.length<=v.2.2.2.1.length+1/\(ca so c (hI x) (n:Int) v).2.2.2.2.2.length<=v.2.2.2.2.length+2:=by
     have:=fS v.2.1
     unfold ca
     cases (dB c v.1).1.2==0<;>cases (dB c (dB c v.1).2).1.2==0<;>cases (ao v.2.1).2.1==0<;>cases bC (dv (pS so) (ao v.2.1).1 ⟨0,0,0,0⟩)<;>simp only [aK,aT,bL,List.length_cons,List.length_nil]<;>omega
    obtain ⟨m,hm⟩:=ih (j+1) (ca so c (hI x) (n:Int) v).2 (by omega) l1.1 (by omega) (by omega)
    exact ⟨m+1,bN (st.trans (OT.ak h4)) hm⟩
 obtain ⟨m,hm⟩:=key p.2.1.toNat 0 (by_,tp,hI b,us,out) (by omega) ht (by dsimp only;omega) (by dsimp only;omega)
 dsimp only at hm
 rw [aGJ hb] at hm
 refine ⟨m,_,hm,?_⟩
 show (OT.br (!((dV so c (hI x) p.2.1.toNat (by_,tp,hI b,us,out)).1==0)) (.ok ⟨(.pan (.iface 175 (.agg [.int (dV so c (hI x) p.2.1.toNat (by_,tp,hI b,us,out)).1])),cT),(((),(),()),(c,(),(dV so c (hI x) p.2.1.toNat (by_,tp,hI b,us,out)).2.1,()),(so,(dV so c (hI x) p.2.1.toNat (by_,tp,hI b,us,out)).2.2.1,()),(p,()),x,x4,x5,x6,(),(dV so c (hI x) p.2.1.toNat (by_,tp,hI b,us,out)).2.2.2.2.2,())⟩)
  (.ok ⟨(.exit 2,kM),(((),(),(),(),so,(),(),(),()),(c,(),(dV so c (hI x) p.2.1.toNat (by_,tp,hI b,us,out)).2.1,()),(so,(dV so c (hI x) p.2.1.toNat (by_,tp,hI b,us,out)).2.2.1,()),(p,()),x,x4,x5,x6,(),z,eL (dV so c (hI x) p.2.1.toNat (by_,tp,hI b,us,out)).2.2.2.1,(dV so c (hI x) p.2.1.toNat (by_,tp,hI b,us,out)).2.2.2.2.1,(dV so c (hI x) p.2.1.toNat (by_,tp,hI b,us,out)).2.2.2.2.2,())⟩):OT aZ).run=_
 generalize dV so c (hI x) p.2.1.toNat (by_,tp,hI b,us,out)=r
 unfold DL
 cases h2:r.1==0<;>rfl
def yS:dZ->Bool|((_,_,_,so,_,_,_,_,_,lim,i,_),x0,x1,(p,_),x3,x4,x5,x6,_,c8,c9,c10,c11,w,out,_)=>decide (lim=(w.length:Int)/\i=0/\w.length<=p.2.2.1.length/\w.length<=1000/\out.length<=200000)
def DM:dZ->lR|((_,_,_,so,_,_,_,_,_,lim,i,_),x0,x1,(p,_),x3,x4,x5,x6,_,c8,c9,c10,c11,w,out,_)=>(((),(),(),so,(),(),(),(),()),x0,x1,(p,()),x3,x4,x5,x6,(),c8,c9,c10,c11,upto (rQ p.2.2.1 w) out w.length,())
theorem al4:bh vH yS (N3 DM):=by
 rintro ⟨⟨⟨⟩,⟨⟩,⟨⟩,so,⟨⟩,⟨⟩,⟨⟩,⟨⟩,⟨⟩,lim,i,⟨⟩⟩,⟨x0,x1,⟨p,⟨⟩⟩,x3,x4,x5,x6,⟨⟩,c8,c9,c10,c11,w,out,⟨⟩⟩⟩ h
 obtain ⟨rfl,rfl,hg,hw,ho⟩:=bm (show decide (lim=(w.length:Int)/\i=0/\w.length<=p.2.2.1.length/\w.length<=1000/\out.length<=200000)=true from h)
 have:=(bf (T:=vH) (λk e=>((((),(),(),so,(),(),(),(),(),(w.length:Int),(k:Int),()),x0,x1,(p,()),x3,x4,x5,x6,(),c8,c9,c10,c11,w,e,()):dZ)) (rQ p.2.2.1 w)
  (λe=>(⟨(.exit 4,nK),(((),(),(),so,(),(),(),(),()),x0,x1,(p,()),x3,x4,x5,x6,(),c8,c9,c10,c11,e,())⟩:aZ)) w.length out (λk e=>e.length=k+out.length) (Nat.zero_add _).symm (λk e hk hq=>⟨?_,?_⟩) (λe _=> ?_)).1
 ·obtain ⟨m,hm⟩:=this
  exact ⟨m,_,hm,rfl⟩
 ·have hq:e.length=k+out.length:=hq
  refine (OT.ak (ag (by dsimp only;omega))).trans ((ae ?_).trans rfl)
  simp only [aA,aI,aJ,aw]
  exact ⟨ba (by omega),ag (by rw [cD];exact hk),ba (by omega),ag (by omega),aS (by omega)⟩
 ·show (e++ [_]).length=_
  rw [bL,show e.length=k+out.length from hq,List.length_singleton]
  omega
 ·exact OT.au (bq (by dsimp only;omega))
theorem xD (s c:Int) (x:ab):∀ (n:Nat) (v:VSt),((dV s c x n v).1==0)=true->(dV s c x n v).2.2.2.2.1.length=v.2.2.2.1.length+n/\(dV s c x n v).2.2.2.2.2.length=v.2.2.2.2.length+2*n
 |0,v,_=>⟨rfl,rfl⟩
 |n+1,v,h=>by
  unfold dV at h⊢
  cases h1:(ca s c x (n:Int) v).1==0
  ·rw [h1,aT,h1] at h
   cases h
  ·rw [h1,aK] at h
   rw [aK]
   obtain ⟨h2,h3⟩:=xD s c x n _ h
   have:(ca s c x (n:Int) v).2.2.2.2.1.length=v.2.2.2.1.length+1/\(ca s c x (n:Int) v).2.2.2.2.2.length=v.2.2.2.2.length+2:=by
    unfold ca at h1⊢
    cases e1:(dB c v.1).1.2==0
    ·rw [e1,aT,e1] at h1;cases h1
    rw [e1,aK] at h1
    cases e2:(dB c (dB c v.1).2).1.2==0
    ·rw [e2,aT,e2] at h1;cases h1
    rw [e2,aK] at h1
    cases e3:(ao v.2.1).2.1==0
    ·rw [e3,aT,e3] at h1;cases h1
    rw [e3,aK] at h1
    cases e4:bC (dv (pS s) (ao v.2.1).1 ⟨0,0,0,0⟩)
    ·simp only [aK,aT,bL,List.length_cons,List.length_nil,and_self]
    ·rw [e4,aK] at h1;cases h1
   omega
abbrev YZ:Type:=List Tm×(List UInt8×List ab)
def aop (p:ml) (com:List Tm) (v:ab) (c:Int) (b:aF) (tp:aB):VSt:=
 ((dB c b).2,(ao (ao tp).2.2).2.2,⟨1,0,0,0⟩,[],rM (pS (ay p.1 1)) p.1 com++ [(lf (pS (ay p.1 1)) v,p.2.2.1.getD 0 jN),(opV (ay p.1 1) tp,(dB c b).1.1)])
def gy (p:ml) (com:List Tm) (x v:ab) (c:Int) (b:aF) (tp:aB):Int×VSt:=dV (ay p.1 1) c x p.2.1.toNat (aop p com v c b tp)
def wT (p:ml) (z b a f:ab) (us:aB) (out:List Tm):List Tm:=
 upto (rQ p.2.2.1 (wtE (pS (ay p.1 1)) (lf (pS (ay p.1 1)) a) us)) out (wtE (pS (ay p.1 1)) (lf (pS (ay p.1 1)) a) us).length
  ++ [(aR (pS (ay p.1 1)) (lf (pS (ay p.1 1)) a) (aR (pS (ay p.1 1)) b z),p.2.2.2.2),(lf (pS (ay p.1 1)) f,p.2.2.2.1)]
def aFs (p:ml) (c:Int) (z:ab) (r:Int×VSt):Int×YZ:=
 cond (r.1==0) (cond ((dR (ay c 1) r.2.1).1.2==0) (cond ((dR (ay c 1) (dR (ay c 1) r.2.1).2).1.2==0)
  (0,wT p z r.2.2.2.1 (dR (ay c 1) r.2.1).1.1 (dR (ay c 1) (dR (ay c 1) r.2.1).2).1.1 r.2.2.2.2.1 r.2.2.2.2.2,(dR (ay c 1) (dR (ay c 1) r.2.1).2).2,r.2.2.1)
  ((dR (ay c 1) (dR (ay c 1) r.2.1).2).1.2,[],(dR (ay c 1) (dR (ay c 1) r.2.1).2).2,r.2.2.1))
  ((dR (ay c 1) r.2.1).1.2,[],(dR (ay c 1) r.2.1).2,r.2.2.1))
  (r.1,[],r.2.1,r.2.2.1)
def av6 (p:ml) (com:List Tm) (x v:ab) (c:Int) (b:aF) (tp:aB):Int×YZ:=
 cond (gE p c==0) (cond (com.all λt=>onB p.1 t.2) (cond ((dB c b).1.2==0) (cond ((ao tp).2.1==0) (cond ((ao (ao tp).2.2).2.1==0)
  (cond (bC (opV (ay p.1 1) (ao tp).2.2)) (100,[],(dB c b).2,(ao (ao tp).2.2).2.2)
   (aFs p c (opV (ay p.1 1) (ao tp).2.2) (gy p com x v c b tp)))
  ((ao (ao tp).2.2).2.1,[],(dB c b).2,(ao (ao tp).2.2).2.2))
  ((ao tp).2.1,[],(dB c b).2,(ao tp).2.2))
  ((dB c b).1.2,[],(dB c b).2,tp))
  (41,[],b,tp)) (gE p c,[],b,tp)
def akk (p:ml) (com:List Tm) (s:Int) (tp:aB):Bool:=decide (p.2.2.1.length<=140737488355328/\com.length<=1000/\tp.length<=140737488355328)&&s==ay p.1 1
def yR (x:vI):Bool:=akk x.1.1 x.1.2.2.1 x.2.2.1.1 x.2.2.1.2.1
def VV (x:vI):Int×YZ:=av6 x.1.1 x.1.2.2.1 x.1.2.2.2.1 x.1.2.2.2.2.1 x.2.1.1 x.2.1.2.2.1 x.2.2.1.2.1
def aAk (c s:Int) (r:Int×YZ):jp.Y:=⟨b8,(((),r.1,()),(c,(),r.2.2.1,()),(s,r.2.2.2,()),r.2.1,())⟩
def VX (x:vI):OT jp.Y:=.ok (aAk x.2.1.1 x.2.2.1.1 (VV x))
set_option maxHeartbeats 4000000 in
theorem aca (p:ml) (com:List Tm) (x v:ab) (c:Int) (b:aF) (s:Int) (tp:aB) (hp:akk p com s tp=true):
 (BA yU yW (λ_=>41) DQ DO yT yV (λq=>(eI q).1) DP DN yS DM p com x v c b s tp).run=some (aAk c s (av6 p com x v c b tp)):=by
 unfold akk at hp
 rw [aw] at hp
 obtain ⟨hL,hs⟩:=hp
 obtain ⟨l1,l2,l3⟩:=bm hL
 have hs:=eq_of_beq hs
 subst hs
 have hF:∀ r,av6 p com x v c b tp=r->some (aAk c (ay p.1 1) (av6 p com x v c b tp))=some (aAk c (ay p.1 1) r):=λr h=>by rw [h]
 generalize some (aAk c (ay p.1 1) (av6 p com x v c b tp))=G at*
 unfold av6 at hF
 --a test that is passed once more by the function that clears the terms
 have nn:∀ {e:Int} {A B:OT jp.Y},(e==0)=false->(OT.br (!(e==0)) A B).run=A.run:=λh=>OT.ak (by rw [h];rfl)
 unfold BA
 refine (ae (by simp only [aA,aI,aJ];exact ag l1)).trans ?_
 refine eW (gE p c==0) (λe0=> ?_) (λe0=> ?_)
 ·rw [e0,aT] at hF
  exact (OT.au e0).trans ((nn e0).trans (hF _ rfl).symm)
 have r:=pL e0
 have r5:=r.2.2.2.2.1
 have r6:=r.2.2.2.2.2.1
 have r7:=r.2.2.2.2.2.2.1
 have r8:=r.2.2.2.2.2.2.2.1
 have r9:=r.2.2.2.2.2.2.2.2
 have hso:=r.2.2.2.1
 rw [e0,aK] at hF
 refine (OT.ak e0).trans ((ae ?_).trans ?_)
 ·simp only [aA,aI,aJ]
  exact be (ag ⟨rfl,rfl,show 0+com.length<=100000 by omega⟩) hso
 refine eW (com.all λt=>onB p.1 t.2) (λe1=> ?_) (λe1=> ?_)
 ·rw [e1,aT] at hF
  exact (OT.ak (congrArg (!·) e1)).trans ((OT.ak rfl).trans (hF _ rfl).symm)
 rw [e1,aK] at hF
 refine (OT.au (congrArg (!·) e1)).trans ?_
 refine eW ((dB c b).1.2==0) (λe2=> ?_) (λe2=> ?_)
 ·rw [e2,aT] at hF
  exact (OT.au e2).trans ((nn e2).trans (hF _ rfl).symm)
 rw [e2,aK] at hF
 refine (OT.ak e2).trans ((ae ?_).trans ?_)
 ·simp only [aA,aI,aJ]
  exact be hso (ag l3)
 refine eW ((ao tp).2.1==0) (λe3=> ?_) (λe3=> ?_)
 ·rw [e3,aT] at hF
  exact (OT.au e3).trans ((nn e3).trans (hF _ rfl).symm)
 rw [e3,aK] at hF
 have l4:=cV (fS tp) l3
 have l5:=cV (fS (ao tp).2.2) l4
 refine (OT.ak e3).trans ((ae ?_).trans ?_)
 ·simp only [aA,aI,aJ]
  exact be hso (ag l4)
 refine eW ((ao (ao tp).2.2).2.1==0) (λe4=> ?_) (λe4=> ?_)
 ·rw [e4,aT] at hF
  exact (OT.au e4).trans ((nn e4).trans (hF _ rfl).symm)
 rw [e4,aK] at hF
 refine (OT.ak e4).trans ?_
 refine eW (bC (opV (ay p.1 1) (ao tp).2.2)) (λe5=> ?_) (λe5=> ?_)
 rotate_left
 ·rw [e5,aK] at hF
  exact (OT.ak e5).trans (hF _ rfl).symm
 rw [e5,aT] at hF
 have hG:=hF _ rfl
 have q1:(rM (pS (ay p.1 1)) p.1 com).length<=com.length:=by
  unfold rM
  rw [List.length_map]
  exact (List.takeWhile_sublist _).length_le
 refine (OT.au e5).trans ((ae ?_).trans ?_)
 ·simp only [aA,aI,aJ,aw]
  refine ⟨rfl,hso,ba (show (0:Int)<=0/\(0:Int)<(p.2.2.1.length:Int) by omega),ag (show ((rM (pS (ay p.1 1)) p.1 com).length+2)*104<=140737488355328 by omega),be (ag ⟨rfl,rfl,r7,show p.2.1<=10 by omega,rfl,l5,rfl,rfl,Nat.zero_le _,?_⟩) hso⟩
  show (rM (pS (ay p.1 1)) p.1 com++ [_,_]).length<=100000
  rw [bL,List.length_cons,List.length_cons,List.length_nil]
  omega
 have hE:∀ R:Int×VSt,gy p com x v c b tp=R->G=some (aAk c (ay p.1 1) (aFs p c (opV (ay p.1 1) (ao tp).2.2) R)):=λR h=>by
  rw [<-h];exact hG
 refine eW ((gy p com x v c b tp).1==0) (λe6=> ?_) (λe6=> ?_)
 ·have e8:aFs p c (opV (ay p.1 1) (ao tp).2.2) (gy p com x v c b tp)=((gy p com x v c b tp).1,[],(gy p com x v c b tp).2.1,(gy p com x v c b tp).2.2.1):=by
   unfold aFs
   rw [e6]
   rfl
  refine (OT.ak (congrArg (!·) e6)).trans ((nn e6).trans ?_)
  rw [hE _ rfl,e8]
  rfl
 have hE2:G=some (aAk c (ay p.1 1) (cond ((dR (ay c 1) (gy p com x v c b tp).2.1).1.2==0) (cond ((dR (ay c 1) (dR (ay c 1) (gy p com x v c b tp).2.1).2).1.2==0)
  (0,wT p (opV (ay p.1 1) (ao tp).2.2) (gy p com x v c b tp).2.2.2.1 (dR (ay c 1) (gy p com x v c b tp).2.1).1.1 (dR (ay c 1) (dR (ay c 1) (gy p com x v c b tp).2.1).2).1.1 (gy p com x v c b tp).2.2.2.2.1 (gy p com x v c b tp).2.2.2.2.2,(dR (ay c 1) (dR (ay c 1) (gy p com x v c b tp).2.1).2).2,(gy p com x v c b tp).2.2.1)
  ((dR (ay c 1) (dR (ay c 1) (gy p com x v c b tp).2.1).2).1.2,[],(dR (ay c 1) (dR (ay c 1) (gy p com x v c b tp).2.1).2).2,(gy p com x v c b tp).2.2.1))
  ((dR (ay c 1) (gy p com x v c b tp).2.1).1.2,[],(dR (ay c 1) (gy p com x v c b tp).2.1).2,(gy p com x v c b tp).2.2.1))):=by
  rw [hE _ rfl]
  unfold aFs
  rw [e6,aK]
 have q2:=xD (ay p.1 1) c x p.2.1.toNat (aop p com v c b tp) e6
 have q3:(gy p com x v c b tp).2.2.2.2.1.length=p.2.1.toNat:=q2.1.trans (Nat.zero_add _)
 have q4:(gy p com x v c b tp).2.2.2.2.2.length<=1100:=by
  refine cV (Nat.le_of_eq q2.2) ?_
  show (rM (pS (ay p.1 1)) p.1 com++ [_,_]).length+2*p.2.1.toNat<=1100
  rw [bL,List.length_cons,List.length_cons,List.length_nil]
  omega
 clear hE hG hF q2
 refine (OT.au (congrArg (!·) e6)).trans ?_
 refine eW ((dR (ay c 1) (gy p com x v c b tp).2.1).1.2==0) (λe7=> ?_) (λe7=> ?_)
 ·rw [e7,aT] at hE2
  exact (OT.au e7).trans ((nn e7).trans hE2.symm)
 rw [e7,aK] at hE2
 refine (OT.ak e7).trans ?_
 refine eW ((dR (ay c 1) (dR (ay c 1) (gy p com x v c b tp).2.1).2).1.2==0) (λe8=> ?_) (λe8=> ?_)
 ·rw [e8,aT] at hE2
  exact (OT.au e8).trans ((nn e8).trans hE2.symm)
 rw [e8,aK] at hE2
 have w1:(wtE (pS (ay p.1 1)) (lf (pS (ay p.1 1)) (dR (ay c 1) (gy p com x v c b tp).2.1).1.1) (gy p com x v c b tp).2.2.2.2.1).length=p.2.2.1.length:=by
  rw [r9,<-q3]
  exact Tu _ _ _ _
 refine (OT.ak e8).trans ((ae ?_).trans hE2.symm)
 simp only [aA,aI,aJ,aw]
 refine ⟨hso,be (ag (show (gy p com x v c b tp).2.2.2.2.1.length<=10 by omega)) hso,ag ⟨rfl,rfl,Nat.le_of_eq w1,cV (Nat.le_of_eq w1) (by omega),cV q4 (by omega)⟩,rfl,rfl,rfl,hso,hso,rfl,hso,ag ?_⟩
 show ((upto (rQ p.2.2.1 (wtE (pS (ay p.1 1)) (lf (pS (ay p.1 1)) (dR (ay c 1) (gy p com x v c b tp).2.1).1.1) (gy p com x v c b tp).2.2.2.2.1)) (gy p com x v c b tp).2.2.2.2.2 (wtE (pS (ay p.1 1)) (lf (pS (ay p.1 1)) (dR (ay c 1) (gy p com x v c b tp).2.1).1.1) (gy p com x v c b tp).2.2.2.2.1).length).length+2)*104<=140737488355328
 rw [Sz,w1]
 omega
theorem al3:aa aj 20 (jp.az yR VX):=VW yU yW (λ_=>41) DQ DO yT yV (λq=>(eI q).1) DP DN yS DM al6 al5 al4 _ _ λx oy hp ho=>(aca _ _ _ _ _ _ _ _ hp).trans ho
def ta:bt:=(Ks 2 (Ku 0 2 (jp.az yR VX)))
theorem Rj:aa aj 20 ta:=(Kr (Kt al3))
theorem Ri:ax ta:=(zu (zw av))
def Zi:Env:=aq 20 ta avh
theorem aey:bV aj te Zi:=aU follows uM Rj Ri
abbrev TS:af:=lF
def xJ (x:xK):Bool:=x.1.2.1.1==1
def HS (x:xK):OT lF.Y:=.br (cn x.1.1 x.1.2.1.1 x.1.2.1.2.length==0)
 (.ok ⟨AG,(((),(0:Int),()),(x.1.1,(),(),()),(ay x.1.1 1,(),()),[],x.1.2.1.2,())⟩)
 (.ok ⟨AF,(((),cn x.1.1 x.1.2.1.1 x.1.2.1.2.length,()),())⟩)
theorem akz:aa aj 34 (TS.az xJ HS):=cL (S:=lF) aoH λx oy hp ho=>by
 obtain ⟨⟨c,⟨mode,l⟩,⟨⟩⟩,⟨⟩⟩:=x
 have hm:(mode==1)=true:=hp
 refine ⟨rfl,?_⟩
 rw [<-ho]
 unfold PW HS
 cases he:cn c mode l.length==0
 ·rfl
 ·exact (OT.ak rfl).trans ((OT.ak hm).trans (OT.ak rfl).symm)
def rZ:bt:=(se [1] 1 (TS.az xJ HS))
theorem PU:aa aj 34 rZ:=(uW akz)
theorem PT:ax rZ:=(nl av)
def Y5:Env:=aq 34 rZ Zi
theorem aew:bV aj te Y5:=aU follows aey PU PT
abbrev ae1:af:=px
def om (x:HV):Bool:=x.1.2.1.1==1&&decide (x.1.2.2.1.length<=140737488355328)
def P0 (x:HV):OT px.Y:=.br (cn x.1.1 x.1.2.1.1 x.1.2.1.2.length==0)
 (.ok ⟨Gz,(((),(0:Int),()),(x.1.1,(),(),()),(ay x.1.1 1,(),()),x.1.2.2.1,x.1.2.1.2,())⟩)
 (.ok ⟨Gy,(((),cn x.1.1 x.1.2.1.1 x.1.2.1.2.length,()),())⟩)
theorem aoO:aa aj 15 (ae1.az om P0):=cL (S:=px) awd λx oy hp ho=>by
 obtain ⟨⟨c,⟨mode,l⟩,b,⟨⟩⟩,⟨⟩⟩:=x
 have hp':((mode==1)&&decide (b.length<=140737488355328))=true:=hp
 rw [aw] at hp'
 have hm:=hp'.1
 refine ⟨hp'.2,?_⟩
 rw [<-ho]
 unfold aaf P0
 cases he:cn c mode l.length==0
 ·rfl
 ·exact (OT.ak rfl).trans ((OT.ak hm).trans (OT.ak rfl).symm)
def xM:bt:=(se [] 2 (se [1] 1 (ae1.az om P0)))
theorem T4:aa aj 15 xM:=(uW (uW aoO))
theorem T3:ax xM:=(nl (nl av))
def ai9:Env:=aq 15 xM Y5
theorem Pe:bV aj te ai9:=aU follows aew T4 T3
abbrev aE5:Ty:=.prod aHS (.prod (.prod .int (.list .elem)) (.prod (.list .elem) (.prod (.list .elem) (.prod .elem .elem))))
def qn:af:=⟨[.val true aE5],[],true,0,false⟩
abbrev JO:Type:=(O9×Unit)×Unit
def oD:aL:=⟨[.own 0,aC],An,false⟩
def GY (a0:O9):OT qn.Y:=
 let z0:Int:=cn a0.fst.fst a0.snd.fst.fst (List.length a0.snd.fst.snd)
 let z1:aB×PUnit:=(a0.snd.snd.fst,())
 let z2:Int:=ay a0.fst.fst (1:Int)
 let z3:(kW×PUnit×PUnit×aB×ab×rD)×auR:=((a0.fst,(),(),a0.snd.snd.snd.fst,a0.snd.snd.snd.snd.fst,a0.snd.snd.snd.snd.snd,()),(a0.fst.fst,(),(),()),(z2,a0.snd.fst.snd,()),(a0.snd.snd.fst,()),[],())
 let z4:(Int×PUnit)×auR:=(opY a0.fst.fst z2 (arl z3)).snd
 let z5:=z4.snd
 let z6:=z5.snd
 let z7:=z6.fst
 let z8:=z6.snd.snd.fst
 (gd [gU ((a0.snd.fst,()),()),xJ ((a0.fst.fst,a0.snd.fst,()),())] (.br (z0==(0:Int))
 (gd [ic ((a0.fst,()),()),dT (z1,()),oo (z1,()),dT ((a0.snd.snd.snd.fst,()),()),tg z3,Df (((),()),(z5.fst.fst,(),(),()),(z7.fst,z7.snd.fst,()),z8,())] (.ok ⟨oD,(((),z4.fst.fst,()),z8,())⟩))
 (.br (!z0==(0:Int))
  (.ok ⟨oD,(((),z0,()),[],())⟩)
  (.ok ⟨oD,(((),z0,()),[],())⟩))))
theorem acj (pre:JO->Bool) (F:JO->OT qn.Y) (hF:∀ (x:JO) oy,pre x=true->(F x).run=some oy->(GY x.1.1).run=some oy):aa aj 12 (qn.az pre F):=
 di Pe 12 Tryz.f12 qn [oD] bD (λx=>GY x.1.1) hF
abbrev Gu:Type:=ml×((Int×List ab)×(List ab×(List ab×(ab×ab))))
def SI (a:Gu):Int×au0:=wP a.1 a.2.2.2.1 a.2.2.2.2.1 a.2.2.2.2.2 a.1.1 (ay a.1.1 1) a.2.1.2 a.2.2.1 []
def MP (a:Gu):Int:=cn a.1.1 a.2.1.1 a.2.1.2.length
def fp (a:Gu):Int×aF:=cond (MP a==0) ((SI a).1,(SI a).2.2.2) (MP a,[])
def aGU (a:Gu):JU:=((a.1,(),(),a.2.2.2.1,a.2.2.2.2.1,a.2.2.2.2.2,()),(a.1.1,(),(),()),(ay a.1.1 1,a.2.1.2,()),(a.2.2.1,()),[],())
def X7 (a:Gu):Bool:=gU ((a.2.1,()),())&&(a.2.1.1==1&&(ic ((a.1,()),())&&(dT ((a.2.2.1,()),())&&(oo ((a.2.2.1,()),())&&(dT ((a.2.2.2.1,()),())&&(!(MP a==0)||(tg (aGU a)&&eJ (((SI a).2.2.2,()),()))))))))
def DW (x:JO):Bool:=X7 x.1.1
def ag0 (x:JO):OT qn.Y:=.ok ⟨oD,(((),(fp x.1.1).1,()),(fp x.1.1).2,())⟩
theorem ari:aa aj 12 (qn.az DW ag0):=acj _ _ λx oy hp ho=>by
 rw [<-ho]
 clear ho
 obtain ⟨⟨a,⟨⟩⟩,⟨⟩⟩:=x
 have hp':X7 a=true:=hp
 unfold X7 at hp'
 simp only [aw] at hp'
 obtain ⟨h1,h2,h3,h4,h5,h6,h7⟩:=hp'
 show (GY a).run=some ⟨oD,(((),(fp a).1,()),(fp a).2,())⟩
 unfold GY
 refine (ae (by simp only [aA,aI,aJ,aw];exact ⟨h1,h2⟩)).trans ?_
 refine eW (MP a==0) (λe=> ?_) (λe=> ?_)
 ·refine (OT.au e).trans ((OT.ak (congrArg (!·) e)).trans ?_)
  unfold fp
  rw [e]
  rfl
 ·rw [e,Bool.not_true,Bool.false_or,aw] at h7
  refine (OT.ak e).trans ((ae ?_).trans ?_)
  ·simp only [aA,aI,aJ,aw]
   exact ⟨h3,h4,h5,h6,h7.1,h7.2⟩
  ·unfold fp
   rw [e]
   rfl
def za:bt:=(qn.az DW ag0)
theorem Wa:aa aj 12 za:=ari
theorem V9:ax za:=av
def ajo:Env:=aq 12 za ai9
theorem Pn:bV aj te ajo:=aU follows Pe Wa V9
def yQ:af:=⟨[.val true aE5,jM,dw],[],true,0,false⟩
abbrev VT:Type:=(O9×aF×o3)×Unit
def qj:aL:=⟨[rH,aC,aC],[],false⟩
def Rh (a0:O9) (a1:aF) (a2:ab):OT yQ.Y:=
 let z0:Bool:=ic ((a0.fst,()),())
 let z1:Bool:=dT ((a0.snd.snd.snd.fst,()),())
 let z2:Bool:=iQ ((a0.fst,a0.snd.snd.snd.fst,a0.snd.snd.snd.snd.fst,()),())
 let z3:Int:=ay a0.fst.fst (1:Int)
 let z4:(kW×PUnit×eC×ab×rD)×(Int×PUnit×FZ)×LV×PUnit:=((a0.fst,(),[({w0:=1,w1:=0,w2:=0,w3:=0},Ez a0.fst a0.snd.snd.snd.fst a0.snd.snd.snd.snd.fst)],a0.snd.snd.snd.snd.snd,a2,()),(a0.fst.fst,(),a1,()),(z3,a0.snd.fst.snd,()),())
 let z5:(PUnit×Int×PUnit)×(Int×PUnit×FZ)×LV×eC×PUnit:=(aAk a0.fst.fst z3 (VV z4)).snd
 let z6:=z5.fst.snd.fst
 let z7:=z5.snd
 let z8:Int:=(↑(List.length z7.fst.snd.snd.fst):Int)
 let z9:=z7.snd.snd.fst
 (gd [gU ((a0.snd.fst,()),()),rX ((a1,()),()),om ((a0.fst.fst,a0.snd.fst,a1,()),())] (.br (cn a0.fst.fst a0.snd.fst.fst (List.length a0.snd.fst.snd)==(0:Int))
 (gd [z0,z1,z2,z0,yR z4] (.br (!z6==(0:Int))
  (.ok ⟨qj,((false,z8,z6,()),())⟩)
  (gd [mI ((a0.fst.fst,z9,()),())] (.ok ⟨qj,(((AR a0.fst.fst (wN a0.fst.fst z9)).snd.snd,z8,(0:Int),()),())⟩))))
 (gd [z0,z1,z2] (.br (!cn a0.fst.fst a0.snd.fst.fst (List.length a0.snd.fst.snd)==(0:Int))
  (.ok ⟨qj,((false,(0:Int),(80:Int),()),())⟩)
  (.ok ⟨qj,((false,(0:Int),(80:Int),()),())⟩)))))
theorem alZ (pre:VT->Bool) (F:VT->OT yQ.Y) (hF:∀ (x:VT) oy,pre x=true->(F x).run=some oy->(Rh x.1.1 x.1.2.1 x.1.2.2.1).run=some oy):aa aj 26 (yQ.az pre F):=
 di Pn 26 Tryz.f26 yQ [qj] bD (λx=>Rh x.1.1 x.1.2.1 x.1.2.2.1) hF
def aEn (a:Gu):List Tm:= [(⟨1,0,0,0⟩,Ez a.1 a.2.2.2.1 a.2.2.2.2.1)]
def zq (a:Gu) (b:aF) (v:ab):Int×YZ:=av6 a.1 (aEn a) a.2.2.2.2.2 v a.1.1 b a.2.1.2
def oH (a:Gu) (b:aF) (v:ab):Bool×Int×Int:=cond (MP a==0) (cond ((zq a b v).1==0) ((AR a.1.1 (wN a.1.1 (zq a b v).2.1)).2.2,((zq a b v).2.2.1.length:Int),0) (false,((zq a b v).2.2.1.length:Int),(zq a b v).1)) (false,0,80)
def WH (a:Gu) (b:aF) (v:ab):Bool:=gU ((a.2.1,()),())&&(rX ((b,()),())&&(om ((a.1.1,a.2.1,b,()),())&&(ic ((a.1,()),())&&(dT ((a.2.2.2.1,()),())&&(iQ ((a.1,a.2.2.2.1,a.2.2.2.2.1,()),())&&(!(MP a==0)||(akk a.1 (aEn a) (ay a.1.1 1) a.2.1.2&&(!((zq a b v).1==0)||mI ((a.1.1,(zq a b v).2.1,()),())))))))))
def JJ (x:VT):Bool:=WH x.1.1 x.1.2.1 x.1.2.2.1
def aq5 (x:VT):OT yQ.Y:=.ok ⟨qj,(((oH x.1.1 x.1.2.1 x.1.2.2.1).1,(oH x.1.1 x.1.2.1 x.1.2.2.1).2.1,(oH x.1.1 x.1.2.1 x.1.2.2.1).2.2,()),())⟩
theorem ax0:aa aj 26 (yQ.az JJ aq5):=alZ _ _ λx oy hp ho=>by
 rw [<-ho]
 clear ho
 obtain ⟨⟨a,b,v,⟨⟩⟩,⟨⟩⟩:=x
 have hp':WH a b v=true:=hp
 unfold WH at hp'
 simp only [aw] at hp'
 obtain ⟨h1,h2,h3,h4,h5,h6,h7⟩:=hp'
 show (Rh a b v).run=some ⟨qj,(((oH a b v).1,(oH a b v).2.1,(oH a b v).2.2,()),())⟩
 unfold Rh
 refine (ae (by simp only [aA,aI,aJ,aw];exact ⟨h1,h2,h3⟩)).trans ?_
 refine eW (MP a==0) (λe=> ?_) (λe=> ?_)
 ·refine (OT.au e).trans ((ae (by simp only [aA,aI,aJ,aw];exact ⟨h4,h5,h6⟩)).trans ((OT.ak (congrArg (!·) e)).trans ?_))
  unfold oH
  rw [e]
  rfl
 rw [e,Bool.not_true,Bool.false_or,aw] at h7
 refine (OT.ak e).trans ((ae (by simp only [aA,aI,aJ,aw];exact ⟨h4,h5,h6,h4,h7.1⟩)).trans ?_)
 have h8:=h7.2
 refine eW ((zq a b v).1==0) (λe1=> ?_) (λe1=> ?_)
 ·refine (OT.ak (congrArg (!·) e1)).trans ?_
  unfold oH
  rw [e,e1]
  rfl
 ·rw [e1,Bool.not_true,Bool.false_or] at h8
  refine (OT.au (congrArg (!·) e1)).trans ((ae (by simp only [aA,aI,aJ];exact h8)).trans ?_)
  unfold oH
  rw [e,e1]
  rfl
def DK:bt:=(yQ.az JJ aq5)
theorem ab9:aa aj 26 DK:=ax0
theorem ab8:ax DK:=av
def avf:Env:=aq 26 DK ajo
theorem Zh:bV aj te avf:=aU follows Pn ab9 ab8
def BJ:af:=⟨[],[],true,0,false⟩
def Kd:aL:=⟨og,[],false⟩
abbrev arH:Type:=BJ.T
def Oc (_:arH):Bool:=true
def ahf (_:arH):OT BJ.Y:=.ok ⟨Kd,((true,()),())⟩
theorem arG:aa aj 9 (BJ.az Oc ahf):=di Zh 9 Tryz.f9 BJ [Kd] bD (λ_=>.ok ⟨Kd,((true,()),())⟩) (λ_ _ _ ho=>ho)
def zp:bt:=(BJ.az Oc ahf)
theorem WB:aa aj 9 zp:=arG
theorem WA:ax zp:=av
def aAa:Env:=aq 9 zp avf
theorem anQ:bV aj te aAa:=aU follows Zh WB WA
end
section
namespace Ipa
open Lean.Grind
structure Lin (R M:Type) [CommRing R] [IntModule M] where
 act:R->M->M
 oe:∀ a b x,act (a+b) x=act a x+act b x
 rj:∀ a x y,act a (x+y)=act a x+act a y
 ln:∀ a b x,act (a*b) x=act a (act b x)
 aqj:∀ x,act 1 x=x
variable {R M:Type} [CommRing R] [IntModule M] (L:Lin R M)
theorem Lin.PJ (x:M):L.act 0 x=0:=by
 have h:=L.oe 0 0 x
 rw [show (0:R)+0=0 by grind] at h
 grind
theorem Lin.wI (a:R):L.act a (0:M)=0:=by
 have h:=L.rj a 0 0
 rw [show (0:M)+0=0 by grind] at h
 grind
def inn:List R->List R->R
 |a::r,b::s=>a*b+inn r s
 |_,_=>0
def dot:List R->List M->M
 |a::r,g::s=>L.act a g+dot r s
 |_,_=>0
def fol (k:R):List R->List R->List R
 |a::r,b::s=>(a+k*b)::fol k r s
 |_,_=> []
def asf (k:R):List M->List M->List M
 |a::r,b::s=>(a+L.act k b)::asf k r s
 |_,_=> []
def val (z:R) (U W:M) (a b:List R) (g:List M) (f:R):M:=dot L a g+L.act (inn a b*z) U+L.act f W
theorem DZ:∀ {a b c d:List R},a.length=b.length->inn (a++c) (b++d)=inn a b+inn c d
 | [],[],c,d,_=>by simp only [List.nil_append,inn];grind
 |a::r,b::s,c,d,h=>by
  simp only [List.cons_append,inn,DZ (Nat.succ.inj h)]
  grind
theorem Ew:∀ {a:List R} {b:List M} {c:List R} {d:List M},a.length=b.length->dot L (a++c) (b++d)=dot L a b+dot L c d
 | [],[],c,d,_=>by simp only [List.nil_append,dot];grind
 |a::r,b::s,c,d,h=>by
  simp only [List.cons_append,dot,Ew (Nat.succ.inj h)]
  grind
theorem arq (u v:R) (h:u*v=1):∀ {a0 a1 b0 b1:List R},a1.length=a0.length->b0.length=a0.length->b1.length=a0.length->
 inn (fol v a0 a1) (fol u b0 b1)=inn a0 b0+inn a1 b1+v*inn a1 b0+u*inn a0 b1
 | [],[],[],[],_,_,_=>by simp only [fol,inn];grind
 |a0::r0,a1::r1,b0::s0,b1::s1,h1,h2,h3=>by
  simp only [fol,inn,arq u v h (Nat.succ.inj h1) (Nat.succ.inj h2) (Nat.succ.inj h3)]
  grind
theorem as5 (u v:R) (h:u*v=1):∀ {a0 a1:List R} {b0 b1:List M},a1.length=a0.length->b0.length=a0.length->b1.length=a0.length->
 dot L (fol v a0 a1) (asf L u b0 b1)=dot L a0 b0+dot L a1 b1+L.act v (dot L a1 b0)+L.act u (dot L a0 b1)
 | [],[],[],[],_,_,_=>by simp only [fol,asf,dot,L.wI];grind
 |a0::r0,a1::r1,b0::s0,b1::s1,h1,h2,h3=>by
  simp only [fol,asf,dot,as5 u v h (Nat.succ.inj h1) (Nat.succ.inj h2) (Nat.succ.inj h3),L.rj,L.oe]
  have e1:L.act (v*a1) (L.act u b1)=L.act a1 b1:=by rw [<-L.ln,show v*a1*u=a1 by grind]
  have e2:L.act a0 (L.act u b1)=L.act u (L.act a0 b1):=by rw [<-L.ln,<-L.ln,show a0*u=u*a0 by grind]
  rw [e1,e2,L.ln v a1]
  grind
theorem aoo (u v z:R) (h:u*v=1) (U W:M) {a0 a1 b0 b1:List R} {g0 g1:List M} (f l r:R) (h1:a1.length=a0.length) (h2:b0.length=a0.length) (h3:b1.length=a0.length) (h4:g0.length=a0.length) (h5:g1.length=a0.length):
 val L z U W (fol v a0 a1) (fol u b0 b1) (asf L u g0 g1) (f+(v*l+u*r))=val L z U W (a0++a1) (b0++b1) (g0++g1) f+L.act v (val L z U W a1 b0 g0 l)+L.act u (val L z U W a0 b1 g1 r):=by
 unfold val
 rw [arq u v h h1 h2 h3,as5 L u v h h1 h4 h5,DZ h2.symm,Ew L h4.symm]
 simp only [L.rj,L.oe,<-L.ln]
 rw [show (inn a0 b0+inn a1 b1+v*inn a1 b0+u*inn a0 b1)*z=inn a0 b0*z+inn a1 b1*z+v*(inn a1 b0*z)+u*(inn a0 b1*z) by grind,show (inn a0 b0+inn a1 b1)*z=inn a0 b0*z+inn a1 b1*z by grind]
 simp only [L.oe]
 grind
def wts (f:R):List R->List R
 | []=> [f]
 |u::r=>wts f r++wts (f*u) r
theorem Hq:∀ (us:List R) (f:R),(wts f us).length=2^us.length
 | [],_=>rfl
 |u::r,f=>by
  rw [wts,bL,Hq r,Hq r,List.length_cons]
  omega
def wl:List R->List R->List R
 |out,[]=>out
 |out,u::r=>wl (out.flatMap λv=> [v,v*u]) r
theorem aAg:∀ (us out:List R),wl out us=out.flatMap λf=>wts f us
 | [],out=>by
  rw [wl]
  induction out with
  |nil=>rfl
  |cons a r ih=>rw [List.flatMap_cons,<-ih];rfl
 |u::r,out=>by
  rw [wl,aAg r,List.flatMap_assoc]
  congr
  funext f
  simp [wts]
theorem XA (k:R):∀ (w:List R) (g:List M),dot L (w.map (k* ·)) g=L.act k (dot L w g)
 | [],g=>by
  rw [List.map_nil,show dot L [] g=0 by cases g<;>rfl,L.wI]
 |a::r,[]=>by
  rw [show dot L (a::r) ([]:List M)=0 from rfl,L.wI];rfl
 |a::r,g::s=>by
  rw [List.map_cons,dot,dot,XA k r s,L.rj,L.ln]
theorem ZH (k:R):∀ (us:List R) (f:R),wts (k*f) us=(wts f us).map (k* ·)
 | [],f=>rfl
 |u::r,f=>by
  rw [wts,wts,List.map_append,<-ZH k r f,<-ZH k r (f*u),show k*f*u=k*(f*u) by grind]
theorem ahQ (u:R):∀ {w:List R} {lo hi:List M},lo.length=w.length->hi.length=w.length->dot L w (asf L u lo hi)=dot L w lo+L.act u (dot L w hi)
 | [],[],[],_,_=>by simp only [dot,L.wI];grind
 |a::r,x::s,y::t,h1,h2=>by
  simp only [asf,dot,ahQ u (Nat.succ.inj h1) (Nat.succ.inj h2),L.rj]
  rw [show L.act a (L.act u y)=L.act u (L.act a y) by rw [<-L.ln,<-L.ln,show a*u=u*a by grind]]
  grind
theorem aEO (f u:R) (us:List R) {lo hi:List M} (h1:lo.length=2^us.length) (h2:hi.length=2^us.length):dot L (wts f (u::us)) (lo++hi)=dot L (wts f us) (asf L u lo hi):=by
 rw [wts,Ew L (by rw [Hq,h1]),show f*u=u*f by grind,ZH,XA,ahQ L u (by rw [Hq,h1]) (by rw [Hq,h2])]
def CN (x:R):R->Nat->List R
 |_,0=> []
 |c,n+1=>c::CN x (c*x) n
theorem GL (x:R):∀ (n:Nat) (c:R),(CN x c n).length=n
 |0,_=>rfl
 |n+1,c=>congrArg Nat.succ (GL x n (c*x))
theorem QD (x:R) (n:Nat):∀ (m:Nat) (c:R),CN x c (m+n)=CN x c m++CN x (c*x^m) n
 |0,c=>by
  rw [Nat.zero_add,CN,List.nil_append,show c*x^0=c by grind]
 |m+1,c=>by
  rw [show m+1+n=(m+n)+1 by omega,CN,CN,QD x n m,List.cons_append,show c*x*x^m=c*x^(m+1) by grind]
theorem ayN (u x:R) (c d:R):∀ (n:Nat),fol u (CN x c n) (CN x d n)=CN x (c+u*d) n:=λn=>by
 induction n generalizing c d with
 |zero=>rfl
 |succ n ih=>rw [CN,CN,fol,ih,CN,show c*x+u*(d*x)=(c+u*d)*x by grind]
def ev (x:R):List R->R
 | []=>0
 |v::r=>ev x r*x+v
theorem ag4 (x:R):∀ (a:List R) (c:R) (n:Nat),a.length<=n->inn a (CN x c n)=c*ev x a
 | [],c,n,_=>by
  rw [show inn [] (CN x c n)=0 by cases CN x c n<;>rfl,ev];grind
 |a::r,c,n+1,h=>by
  rw [CN,inn,ag4 x r _ n (Nat.le_of_succ_le_succ h),ev]
  grind
end Ipa
end
section
set_option maxRecDepth 100000
theorem aIg {p xs z3 yz x3 s2 mm m b1 s a1 yy Y X l y x z:Int} (h0:p∣xs-(l*l-x-x)) (h1:p∣l*(y+y)-(x*x+x*x+x*x)) (h2:p∣z3-(yz*2)) (h3:p∣yz-(Y*z)) (h4:p∣x3-(mm-s2)) (h5:p∣s2-(s*2)) (h6:p∣mm-(m*m)) (h7:p∣m-(b1*3)) (h8:p∣b1-(X*X)) (h9:p∣s-(a1*4)) (h10:p∣a1-(X*yy)) (h11:p∣yy-(Y*Y)) (h12:p∣X-x*(z*z)) (h13:p∣Y-y*(z*z*z)):p∣(x3-xs*(z3*z3)):=
 dk (dc (-z3*z3) h0 (dc (-2*Y*l*z*z*z*z*z-3*x*x*z*z*z*z*z*z*z*z) h1 (dc (-z3*l*l+2*z3*x-2*yz*l*l+4*yz*x) h2 (dc (-4*yz*l*l+8*yz*x-4*Y*l*l*z+8*Y*x*z) h3 (dc (1) h4 (dc (-1) h5 (dc (1) h6 (dc (m+3*b1) h7 (dc (9*b1+9*X*X) h8 (dc (-2) h9 (dc (-8) h10 (dc (-8*X) h11 (dc (-8*Y*Y+9*X*X*X+9*X*X*x*z*z+9*X*x*x*z*z*z*z+9*x*x*x*z*z*z*z*z*z) h12 (dc (-4*Y*l*l*z*z-6*l*x*x*z*z*z*z*z) h13 (dz p))))))))))))))) (by clear h0 h1 h2 h3 h4 h5 h6 h7 h8 h9 h10 h11 h12 h13;grind)
theorem aIf {p ys xs z3 yz y3 y8 y4 md d x3 s2 mm m b1 s a1 yy Y X l y x z:Int} (h0:p∣ys-(l*(x-xs)-y)) (h1:p∣xs-(l*l-x-x)) (h2:p∣l*(y+y)-(x*x+x*x+x*x)) (h3:p∣z3-(yz*2)) (h4:p∣yz-(Y*z)) (h5:p∣y3-(md-y8)) (h6:p∣y8-(y4*8)) (h7:p∣y4-(yy*yy)) (h8:p∣md-(m*d)) (h9:p∣d-(s-x3)) (h10:p∣x3-(mm-s2)) (h11:p∣s2-(s*2)) (h12:p∣mm-(m*m)) (h13:p∣m-(b1*3)) (h14:p∣b1-(X*X)) (h15:p∣s-(a1*4)) (h16:p∣a1-(X*yy)) (h17:p∣yy-(Y*Y)) (h18:p∣X-x*(z*z)) (h19:p∣Y-y*(z*z*z)):p∣(y3-ys*(z3*z3*z3)):=
 dk (dc (-z3*z3*z3) h0 (dc (z3*z3*z3*l) h1 (dc (4*Y*Y*l*l*z*z*z*z*z*z-12*Y*Y*x*z*z*z*z*z*z+6*Y*l*x*x*z*z*z*z*z*z*z*z*z+9*x*x*x*x*z*z*z*z*z*z*z*z*z*z*z*z) h2 (dc (z3*z3*l*l*l-3*z3*z3*l*x+z3*z3*y+2*z3*yz*l*l*l-6*z3*yz*l*x+2*z3*yz*y+4*yz*yz*l*l*l-12*yz*yz*l*x+4*yz*yz*y) h3 (dc (8*yz*yz*l*l*l-24*yz*yz*l*x+8*yz*yz*y+8*yz*Y*l*l*l*z-24*yz*Y*l*x*z+8*yz*Y*y*z+8*Y*Y*l*l*l*z*z-24*Y*Y*l*x*z*z+8*Y*Y*y*z*z) h4 (dc (1) h5 (dc (-1) h6 (dc (-8) h7 (dc (1) h8 (dc (m) h9 (dc (-m) h10 (dc (m) h11 (dc (-m) h12 (dc (-m*m-3*m*b1-9*b1*b1+3*s) h13 (dc (-27*b1*b1-27*b1*X*X+9*s-27*X*X*X*X) h14 (dc (9*X*X) h15 (dc (36*X*X) h16 (dc (-8*yy-8*Y*Y+36*X*X*X) h17 (dc (36*Y*Y*X*X+36*Y*Y*X*x*z*z+36*Y*Y*x*x*z*z*z*z-27*X*X*X*X*X-27*X*X*X*X*x*z*z-27*X*X*X*x*x*z*z*z*z-27*X*X*x*x*x*z*z*z*z*z*z-27*X*x*x*x*x*z*z*z*z*z*z*z*z-27*x*x*x*x*x*z*z*z*z*z*z*z*z*z*z) h18 (dc (-8*Y*Y*Y+8*Y*Y*l*l*l*z*z*z-24*Y*Y*l*x*z*z*z+12*Y*l*l*x*x*z*z*z*z*z*z+18*l*x*x*x*x*z*z*z*z*z*z*z*z*z) h19 (dz p))))))))))))))))))))) (by clear h0 h1 h2 h3 h4 h5 h6 h7 h8 h9 h10 h11 h12 h13 h14 h15 h16 h17 h18 h19;grind)
theorem aIe {p z3 yz Y y z:Int} (h0:p∣z3-(yz*2)) (h1:p∣yz-(Y*z)) (h2:p∣Y-y*(z*z*z)):p∣(z3-2*(y*(z*(z*(z*z))))):=
 dk (dc (1) h0 (dc (2) h1 (dc (2*z) h2 (dz p)))) (by clear h0 h1 h2;grind)
theorem aIq {p h v u qz pz X2 X1 x1 x2 z1 z2:Int} (h0:p∣h-(v-u)) (h1:p∣v-(X2*pz)) (h2:p∣u-(X1*qz)) (h3:p∣qz-(z2*z2)) (h4:p∣pz-(z1*z1)) (h5:p∣X1-x1*(z1*z1)) (h6:p∣X2-x2*(z2*z2)):p∣(h-(x2-x1)*(z1*z1*(z2*z2))):=
 dk (dc (1) h0 (dc (1) h1 (dc (-1) h2 (dc (-X1) h3 (dc (X2) h4 (dc (-z2*z2) h5 (dc (z1*z1) h6 (dz p)))))))) (by clear h0 h1 h2 h3 h4 h5 h6;grind)
theorem aIp {p r t p3 s q3 qz pz Y2 Y1 y1 y2 z1 z2:Int} (h0:p∣r-(t-s)) (h1:p∣t-(Y2*p3)) (h2:p∣p3-(pz*z1)) (h3:p∣s-(Y1*q3)) (h4:p∣q3-(qz*z2)) (h5:p∣qz-(z2*z2)) (h6:p∣pz-(z1*z1)) (h7:p∣Y1-y1*(z1*z1*z1)) (h8:p∣Y2-y2*(z2*z2*z2)):p∣(r-(y2-y1)*(z1*z1*z1*(z2*z2*z2))):=
 dk (dc (1) h0 (dc (1) h1 (dc (Y2) h2 (dc (-1) h3 (dc (-Y1) h4 (dc (-Y1*z2) h5 (dc (Y2*z1) h6 (dc (-z2*z2*z2) h7 (dc (z1*z1*z1) h8 (dz p)))))))))) (by clear h0 h1 h2 h3 h4 h5 h6 h7 h8;grind)
theorem aIo {p xs z3 zz x3 c2 rh rr cc hhh hh r t p3 h v s q3 u qz pz Y2 X2 Y1 X1 y2 y1 l x1 x2 z1 z2:Int} (h0:p∣xs-(l*l-x1-x2)) (h1:p∣l*(x1-x2)-(y1-y2)) (h2:p∣z3-(h*zz)) (h3:p∣zz-(z1*z2)) (h4:p∣x3-(rh-c2)) (h5:p∣c2-(cc*2)) (h6:p∣rh-(rr-hhh)) (h7:p∣rr-(r*r)) (h8:p∣cc-(u*hh)) (h9:p∣hhh-(hh*h)) (h10:p∣hh-(h*h)) (h11:p∣r-(t-s)) (h12:p∣t-(Y2*p3)) (h13:p∣p3-(pz*z1)) (h14:p∣h-(v-u)) (h15:p∣v-(X2*pz)) (h16:p∣s-(Y1*q3)) (h17:p∣q3-(qz*z2)) (h18:p∣u-(X1*qz)) (h19:p∣qz-(z2*z2)) (h20:p∣pz-(z1*z1)) (h21:p∣X1-x1*(z1*z1)) (h22:p∣Y1-y1*(z1*z1*z1)) (h23:p∣X2-x2*(z2*z2)) (h24:p∣Y2-y2*(z2*z2*z2)):p∣(x3-xs*(z3*z3)):=
 dk (dc (-z3*z3) h0 (dc (Y2*z1*z1*z1*z1*z1*z1*z2*z2*z2-l*x1*z1*z1*z1*z1*z1*z1*z2*z2*z2*z2*z2*z2+l*x2*z1*z1*z1*z1*z1*z1*z2*z2*z2*z2*z2*z2-y1*z1*z1*z1*z1*z1*z1*z2*z2*z2*z2*z2*z2) h1 (dc (-z3*l*l+z3*x1+z3*x2-zz*h*l*l+zz*h*x1+zz*h*x2) h2 (dc (-zz*h*h*l*l+zz*h*h*x1+zz*h*h*x2-h*h*l*l*z1*z2+h*h*x1*z1*z2+h*h*x2*z1*z2) h3 (dc (1) h4 (dc (-1) h5 (dc (1) h6 (dc (1) h7 (dc (-2) h8 (dc (-1) h9 (dc (-h-2*u) h10 (dc (r+t-s) h11 (dc (t+p3*Y2-2*s) h12 (dc (p3*Y2*Y2-2*s*Y2+pz*Y2*Y2*z1) h13 (dc (-h*h-h*v-h*u-h*l*l*z1*z1*z2*z2+h*x1*z1*z1*z2*z2+h*x2*z1*z1*z2*z2-v*v-v*l*l*z1*z1*z2*z2+v*x1*z1*z1*z2*z2+v*x2*z1*z1*z2*z2+u*u+u*l*l*z1*z1*z2*z2-u*x1*z1*z1*z2*z2-u*x2*z1*z1*z2*z2) h14 (dc (-v*v+v*u-v*pz*X2-v*l*l*z1*z1*z2*z2+v*x1*z1*z1*z2*z2+v*x2*z1*z1*z2*z2+u*u+u*pz*X2+2*u*l*l*z1*z1*z2*z2-2*u*x1*z1*z1*z2*z2-2*u*x2*z1*z1*z2*z2-pz*pz*X2*X2-pz*X2*l*l*z1*z1*z2*z2+pz*X2*x1*z1*z1*z2*z2+pz*X2*x2*z1*z1*z2*z2) h15 (dc (s+q3*Y1-2*pz*Y2*z1) h16 (dc (q3*Y1*Y1+qz*Y1*Y1*z2-2*pz*Y2*Y1*z1) h17 (dc (-u*u-u*qz*X1+u*pz*X2-u*l*l*z1*z1*z2*z2+u*x1*z1*z1*z2*z2+u*x2*z1*z1*z2*z2-qz*qz*X1*X1+qz*pz*X2*X1-qz*X1*l*l*z1*z1*z2*z2+qz*X1*x1*z1*z1*z2*z2+qz*X1*x2*z1*z1*z2*z2+pz*pz*X2*X2+2*pz*X2*l*l*z1*z1*z2*z2-2*pz*X2*x1*z1*z1*z2*z2-2*pz*X2*x2*z1*z1*z2*z2) h18 (dc (-qz*qz*X1*X1*X1+qz*pz*X2*X1*X1+qz*Y1*Y1*z2*z2-qz*X1*X1*X1*z2*z2-qz*X1*X1*l*l*z1*z1*z2*z2+qz*X1*X1*x1*z1*z1*z2*z2+qz*X1*X1*x2*z1*z1*z2*z2+pz*pz*X2*X2*X1-2*pz*Y2*Y1*z1*z2+pz*X2*X1*X1*z2*z2+2*pz*X2*X1*l*l*z1*z1*z2*z2-2*pz*X2*X1*x1*z1*z1*z2*z2-2*pz*X2*X1*x2*z1*z1*z2*z2+Y1*Y1*z2*z2*z2*z2-X1*X1*X1*z2*z2*z2*z2-X1*X1*l*l*z1*z1*z2*z2*z2*z2+X1*X1*x1*z1*z1*z2*z2*z2*z2+X1*X1*x2*z1*z1*z2*z2*z2*z2) h19 (dc (-pz*pz*X2*X2*X2+pz*Y2*Y2*z1*z1-pz*X2*X2*X2*z1*z1+pz*X2*X2*X1*z2*z2-pz*X2*X2*l*l*z1*z1*z2*z2+pz*X2*X2*x1*z1*z1*z2*z2+pz*X2*X2*x2*z1*z1*z2*z2+Y2*Y2*z1*z1*z1*z1-2*Y2*Y1*z1*z2*z2*z2-X2*X2*X2*z1*z1*z1*z1+X2*X2*X1*z1*z1*z2*z2-X2*X2*l*l*z1*z1*z1*z1*z2*z2+X2*X2*x1*z1*z1*z1*z1*z2*z2+X2*X2*x2*z1*z1*z1*z1*z2*z2+X2*X1*X1*z2*z2*z2*z2+2*X2*X1*l*l*z1*z1*z2*z2*z2*z2-2*X2*X1*x1*z1*z1*z2*z2*z2*z2-2*X2*X1*x2*z1*z1*z2*z2*z2*z2) h20 (dc (X2*X2*z1*z1*z1*z1*z2*z2+X2*X1*z1*z1*z2*z2*z2*z2+2*X2*l*l*z1*z1*z1*z1*z2*z2*z2*z2-X2*x1*z1*z1*z1*z1*z2*z2*z2*z2-2*X2*x2*z1*z1*z1*z1*z2*z2*z2*z2-X1*X1*z2*z2*z2*z2*z2*z2-X1*l*l*z1*z1*z2*z2*z2*z2*z2*z2+X1*x2*z1*z1*z2*z2*z2*z2*z2*z2-l*l*x1*z1*z1*z1*z1*z2*z2*z2*z2*z2*z2+x1*x2*z1*z1*z1*z1*z2*z2*z2*z2*z2*z2) h21 (dc (-2*Y2*z1*z1*z1*z2*z2*z2+Y1*z2*z2*z2*z2*z2*z2+y1*z1*z1*z1*z2*z2*z2*z2*z2*z2) h22 (dc (-X2*X2*z1*z1*z1*z1*z1*z1-X2*l*l*z1*z1*z1*z1*z1*z1*z2*z2+2*X2*x1*z1*z1*z1*z1*z1*z1*z2*z2+2*l*l*x1*z1*z1*z1*z1*z1*z1*z2*z2*z2*z2-l*l*x2*z1*z1*z1*z1*z1*z1*z2*z2*z2*z2-x1*x1*z1*z1*z1*z1*z1*z1*z2*z2*z2*z2) h23 (dc (Y2*z1*z1*z1*z1*z1*z1-l*x1*z1*z1*z1*z1*z1*z1*z2*z2*z2+l*x2*z1*z1*z1*z1*z1*z1*z2*z2*z2-y1*z1*z1*z1*z1*z1*z1*z2*z2*z2) h24 (dz p)))))))))))))))))))))))))) (by clear h0 h1 h2 h3 h4 h5 h6 h7 h8 h9 h10 h11 h12 h13 h14 h15 h16 h17 h18 h19 h20 h21 h22 h23 h24;grind)
theorem aIn {p ys xs z3 zz y3 sh rd d x3 c2 rh rr cc hhh hh r t p3 h v s q3 u qz pz Y2 X2 Y1 X1 y2 y1 l x1 x2 z1 z2:Int} (h0:p∣ys-(l*(x1-xs)-y1)) (h1:p∣xs-(l*l-x1-x2)) (h2:p∣l*(x1-x2)-(y1-y2)) (h3:p∣z3-(h*zz)) (h4:p∣zz-(z1*z2)) (h5:p∣y3-(rd-sh)) (h6:p∣sh-(s*hhh)) (h7:p∣rd-(r*d)) (h8:p∣d-(cc-x3)) (h9:p∣x3-(rh-c2)) (h10:p∣c2-(cc*2)) (h11:p∣rh-(rr-hhh)) (h12:p∣rr-(r*r)) (h13:p∣cc-(u*hh)) (h14:p∣hhh-(hh*h)) (h15:p∣hh-(h*h)) (h16:p∣r-(t-s)) (h17:p∣t-(Y2*p3)) (h18:p∣p3-(pz*z1)) (h19:p∣h-(v-u)) (h20:p∣v-(X2*pz)) (h21:p∣s-(Y1*q3)) (h22:p∣q3-(qz*z2)) (h23:p∣u-(X1*qz)) (h24:p∣qz-(z2*z2)) (h25:p∣pz-(z1*z1)) (h26:p∣X1-x1*(z1*z1)) (h27:p∣Y1-y1*(z1*z1*z1)) (h28:p∣X2-x2*(z2*z2)) (h29:p∣Y2-y2*(z2*z2*z2)):p∣(y3-ys*(z3*z3*z3)):=
 dk (dc (-z3*z3*z3) h0 (dc (z3*z3*z3*l) h1 (dc (-Y2*Y2*z1*z1*z1*z1*z1*z1*z1*z1*z1*z2*z2*z2+Y2*l*x1*z1*z1*z1*z1*z1*z1*z1*z1*z1*z2*z2*z2*z2*z2*z2-Y2*l*x2*z1*z1*z1*z1*z1*z1*z1*z1*z1*z2*z2*z2*z2*z2*z2+2*Y2*y1*z1*z1*z1*z1*z1*z1*z1*z1*z1*z2*z2*z2*z2*z2*z2-l*l*x1*x1*z1*z1*z1*z1*z1*z1*z1*z1*z1*z2*z2*z2*z2*z2*z2*z2*z2*z2+2*l*l*x1*x2*z1*z1*z1*z1*z1*z1*z1*z1*z1*z2*z2*z2*z2*z2*z2*z2*z2*z2-l*l*x2*x2*z1*z1*z1*z1*z1*z1*z1*z1*z1*z2*z2*z2*z2*z2*z2*z2*z2*z2-y1*l*x1*z1*z1*z1*z1*z1*z1*z1*z1*z1*z2*z2*z2*z2*z2*z2*z2*z2*z2+2*x1*x1*x1*z1*z1*z1*z1*z1*z1*z1*z1*z1*z2*z2*z2*z2*z2*z2*z2*z2*z2+y1*l*x2*z1*z1*z1*z1*z1*z1*z1*z1*z1*z2*z2*z2*z2*z2*z2*z2*z2*z2-3*x1*x1*x2*z1*z1*z1*z1*z1*z1*z1*z1*z1*z2*z2*z2*z2*z2*z2*z2*z2*z2+x2*x2*x2*z1*z1*z1*z1*z1*z1*z1*z1*z1*z2*z2*z2*z2*z2*z2*z2*z2*z2-y1*y1*z1*z1*z1*z1*z1*z1*z1*z1*z1*z2*z2*z2*z2*z2*z2*z2*z2*z2) h2 (dc (z3*z3*l*l*l-2*z3*z3*l*x1-z3*z3*l*x2+z3*z3*y1+z3*zz*h*l*l*l-2*z3*zz*h*l*x1-z3*zz*h*l*x2+z3*zz*h*y1+zz*zz*h*h*l*l*l-2*zz*zz*h*h*l*x1-zz*zz*h*h*l*x2+zz*zz*h*h*y1) h3 (dc (zz*zz*h*h*h*l*l*l-2*zz*zz*h*h*h*l*x1-zz*zz*h*h*h*l*x2+zz*zz*h*h*h*y1+zz*h*h*h*l*l*l*z1*z2-2*zz*h*h*h*l*x1*z1*z2-zz*h*h*h*l*x2*z1*z2+zz*h*h*h*y1*z1*z2+h*h*h*l*l*l*z1*z1*z2*z2-2*h*h*h*l*x1*z1*z1*z2*z2-h*h*h*l*x2*z1*z1*z2*z2+h*h*h*y1*z1*z1*z2*z2) h4 (dc (1) h5 (dc (-1) h6 (dc (1) h7 (dc (r) h8 (dc (-r) h9 (dc (r) h10 (dc (-r) h11 (dc (-r) h12 (dc (3*r) h13 (dc (r-s) h14 (dc (r*h+3*r*u-h*s) h15 (dc (-r*r-r*t+r*s-t*t+2*t*s+h*h*h+3*h*h*u-s*s) h16 (dc (-t*t-t*p3*Y2+3*t*s-p3*p3*Y2*Y2+3*p3*s*Y2+h*h*h+3*h*h*u-3*s*s) h17 (dc (-p3*p3*Y2*Y2*Y2+3*p3*s*Y2*Y2-p3*pz*Y2*Y2*Y2*z1+h*h*h*Y2+3*h*h*u*Y2-3*s*s*Y2+3*s*pz*Y2*Y2*z1-pz*pz*Y2*Y2*Y2*z1*z1) h18 (dc (-2*h*h*s+h*h*pz*Y2*z1+h*h*l*l*l*z1*z1*z1*z2*z2*z2-2*h*h*l*x1*z1*z1*z1*z2*z2*z2-h*h*l*x2*z1*z1*z1*z2*z2*z2+h*h*y1*z1*z1*z1*z2*z2*z2-2*h*v*s+h*v*pz*Y2*z1+h*v*l*l*l*z1*z1*z1*z2*z2*z2-2*h*v*l*x1*z1*z1*z1*z2*z2*z2-h*v*l*x2*z1*z1*z1*z2*z2*z2+h*v*y1*z1*z1*z1*z2*z2*z2-h*s*u+2*h*u*pz*Y2*z1-h*u*l*l*l*z1*z1*z1*z2*z2*z2+2*h*u*l*x1*z1*z1*z1*z2*z2*z2+h*u*l*x2*z1*z1*z1*z2*z2*z2-h*u*y1*z1*z1*z1*z2*z2*z2-2*v*v*s+v*v*pz*Y2*z1+v*v*l*l*l*z1*z1*z1*z2*z2*z2-2*v*v*l*x1*z1*z1*z1*z2*z2*z2-v*v*l*x2*z1*z1*z1*z2*z2*z2+v*v*y1*z1*z1*z1*z2*z2*z2+v*s*u+v*u*pz*Y2*z1-2*v*u*l*l*l*z1*z1*z1*z2*z2*z2+4*v*u*l*x1*z1*z1*z1*z2*z2*z2+2*v*u*l*x2*z1*z1*z1*z2*z2*z2-2*v*u*y1*z1*z1*z1*z2*z2*z2+s*u*u-2*u*u*pz*Y2*z1+u*u*l*l*l*z1*z1*z1*z2*z2*z2-2*u*u*l*x1*z1*z1*z1*z2*z2*z2-u*u*l*x2*z1*z1*z1*z2*z2*z2+u*u*y1*z1*z1*z1*z2*z2*z2) h19 (dc (-2*v*v*s+v*v*pz*Y2*z1+v*v*l*l*l*z1*z1*z1*z2*z2*z2-2*v*v*l*x1*z1*z1*z1*z2*z2*z2-v*v*l*x2*z1*z1*z1*z2*z2*z2+v*v*y1*z1*z1*z1*z2*z2*z2+3*v*s*u-2*v*s*pz*X2-3*v*u*l*l*l*z1*z1*z1*z2*z2*z2+6*v*u*l*x1*z1*z1*z1*z2*z2*z2+3*v*u*l*x2*z1*z1*z1*z2*z2*z2-3*v*u*y1*z1*z1*z1*z2*z2*z2+v*pz*pz*Y2*X2*z1+v*pz*X2*l*l*l*z1*z1*z1*z2*z2*z2-2*v*pz*X2*l*x1*z1*z1*z1*z2*z2*z2-v*pz*X2*l*x2*z1*z1*z1*z2*z2*z2+v*pz*X2*y1*z1*z1*z1*z2*z2*z2+3*s*u*pz*X2-2*s*pz*pz*X2*X2-3*u*u*pz*Y2*z1+3*u*u*l*l*l*z1*z1*z1*z2*z2*z2-6*u*u*l*x1*z1*z1*z1*z2*z2*z2-3*u*u*l*x2*z1*z1*z1*z2*z2*z2+3*u*u*y1*z1*z1*z1*z2*z2*z2-3*u*pz*X2*l*l*l*z1*z1*z1*z2*z2*z2+6*u*pz*X2*l*x1*z1*z1*z1*z2*z2*z2+3*u*pz*X2*l*x2*z1*z1*z1*z2*z2*z2-3*u*pz*X2*y1*z1*z1*z1*z2*z2*z2+pz*pz*pz*Y2*X2*X2*z1+pz*pz*X2*X2*l*l*l*z1*z1*z1*z2*z2*z2-2*pz*pz*X2*X2*l*x1*z1*z1*z1*z2*z2*z2-pz*pz*X2*X2*l*x2*z1*z1*z1*z2*z2*z2+pz*pz*X2*X2*y1*z1*z1*z1*z2*z2*z2) h20 (dc (s*s+s*q3*Y1-3*s*pz*Y2*z1+q3*q3*Y1*Y1-3*q3*pz*Y2*Y1*z1-u*u*u+3*u*pz*pz*X2*X2-2*pz*pz*pz*X2*X2*X2+3*pz*pz*Y2*Y2*z1*z1) h21 (dc (q3*q3*Y1*Y1*Y1+q3*qz*Y1*Y1*Y1*z2-3*q3*pz*Y2*Y1*Y1*z1-u*u*u*Y1+3*u*pz*pz*X2*X2*Y1+qz*qz*Y1*Y1*Y1*z2*z2-3*qz*pz*Y2*Y1*Y1*z1*z2-2*pz*pz*pz*X2*X2*X2*Y1+3*pz*pz*Y2*Y2*Y1*z1*z1) h22 (dc (-u*u*qz*Y1*z2+2*u*u*pz*Y2*z1-u*u*l*l*l*z1*z1*z1*z2*z2*z2+2*u*u*l*x1*z1*z1*z1*z2*z2*z2+u*u*l*x2*z1*z1*z1*z2*z2*z2-u*u*y1*z1*z1*z1*z2*z2*z2-u*qz*qz*Y1*X1*z2+2*u*qz*pz*Y2*X1*z1-u*qz*X1*l*l*l*z1*z1*z1*z2*z2*z2+2*u*qz*X1*l*x1*z1*z1*z1*z2*z2*z2+u*qz*X1*l*x2*z1*z1*z1*z2*z2*z2-u*qz*X1*y1*z1*z1*z1*z2*z2*z2-3*u*pz*pz*Y2*X2*z1+3*u*pz*X2*l*l*l*z1*z1*z1*z2*z2*z2-6*u*pz*X2*l*x1*z1*z1*z1*z2*z2*z2-3*u*pz*X2*l*x2*z1*z1*z1*z2*z2*z2+3*u*pz*X2*y1*z1*z1*z1*z2*z2*z2-qz*qz*qz*Y1*X1*X1*z2+2*qz*qz*pz*Y2*X1*X1*z1-qz*qz*X1*X1*l*l*l*z1*z1*z1*z2*z2*z2+2*qz*qz*X1*X1*l*x1*z1*z1*z1*z2*z2*z2+qz*qz*X1*X1*l*x2*z1*z1*z1*z2*z2*z2-qz*qz*X1*X1*y1*z1*z1*z1*z2*z2*z2-3*qz*pz*pz*Y2*X2*X1*z1+3*qz*pz*pz*X2*X2*Y1*z2+3*qz*pz*X2*X1*l*l*l*z1*z1*z1*z2*z2*z2-6*qz*pz*X2*X1*l*x1*z1*z1*z1*z2*z2*z2-3*qz*pz*X2*X1*l*x2*z1*z1*z1*z2*z2*z2+3*qz*pz*X2*X1*y1*z1*z1*z1*z2*z2*z2-3*pz*pz*X2*X2*l*l*l*z1*z1*z1*z2*z2*z2+6*pz*pz*X2*X2*l*x1*z1*z1*z1*z2*z2*z2+3*pz*pz*X2*X2*l*x2*z1*z1*z1*z2*z2*z2-3*pz*pz*X2*X2*y1*z1*z1*z1*z2*z2*z2) h23 (dc (-qz*qz*qz*Y1*X1*X1*X1*z2+2*qz*qz*pz*Y2*X1*X1*X1*z1+qz*qz*Y1*Y1*Y1*z2*z2*z2-qz*qz*Y1*X1*X1*X1*z2*z2*z2-qz*qz*X1*X1*X1*l*l*l*z1*z1*z1*z2*z2*z2+2*qz*qz*X1*X1*X1*l*x1*z1*z1*z1*z2*z2*z2+qz*qz*X1*X1*X1*l*x2*z1*z1*z1*z2*z2*z2-qz*qz*X1*X1*X1*y1*z1*z1*z1*z2*z2*z2-3*qz*pz*pz*Y2*X2*X1*X1*z1+3*qz*pz*pz*X2*X2*Y1*X1*z2-3*qz*pz*Y2*Y1*Y1*z1*z2*z2+2*qz*pz*Y2*X1*X1*X1*z1*z2*z2+3*qz*pz*X2*X1*X1*l*l*l*z1*z1*z1*z2*z2*z2-6*qz*pz*X2*X1*X1*l*x1*z1*z1*z1*z2*z2*z2-3*qz*pz*X2*X1*X1*l*x2*z1*z1*z1*z2*z2*z2+3*qz*pz*X2*X1*X1*y1*z1*z1*z1*z2*z2*z2+qz*Y1*Y1*Y1*z2*z2*z2*z2*z2-qz*Y1*X1*X1*X1*z2*z2*z2*z2*z2-qz*X1*X1*X1*l*l*l*z1*z1*z1*z2*z2*z2*z2*z2+2*qz*X1*X1*X1*l*x1*z1*z1*z1*z2*z2*z2*z2*z2+qz*X1*X1*X1*l*x2*z1*z1*z1*z2*z2*z2*z2*z2-qz*X1*X1*X1*y1*z1*z1*z1*z2*z2*z2*z2*z2-2*pz*pz*pz*X2*X2*X2*Y1*z2+3*pz*pz*Y2*Y2*Y1*z1*z1*z2-3*pz*pz*Y2*X2*X1*X1*z1*z2*z2+3*pz*pz*X2*X2*Y1*X1*z2*z2*z2-3*pz*pz*X2*X2*X1*l*l*l*z1*z1*z1*z2*z2*z2+6*pz*pz*X2*X2*X1*l*x1*z1*z1*z1*z2*z2*z2+3*pz*pz*X2*X2*X1*l*x2*z1*z1*z1*z2*z2*z2-3*pz*pz*X2*X2*X1*y1*z1*z1*z1*z2*z2*z2-3*pz*Y2*Y1*Y1*z1*z2*z2*z2*z2+2*pz*Y2*X1*X1*X1*z1*z2*z2*z2*z2+3*pz*X2*X1*X1*l*l*l*z1*z1*z1*z2*z2*z2*z2*z2-6*pz*X2*X1*X1*l*x1*z1*z1*z1*z2*z2*z2*z2*z2-3*pz*X2*X1*X1*l*x2*z1*z1*z1*z2*z2*z2*z2*z2+3*pz*X2*X1*X1*y1*z1*z1*z1*z2*z2*z2*z2*z2+Y1*Y1*Y1*z2*z2*z2*z2*z2*z2*z2-Y1*X1*X1*X1*z2*z2*z2*z2*z2*z2*z2-X1*X1*X1*l*l*l*z1*z1*z1*z2*z2*z2*z2*z2*z2*z2+2*X1*X1*X1*l*x1*z1*z1*z1*z2*z2*z2*z2*z2*z2*z2+X1*X1*X1*l*x2*z1*z1*z1*z2*z2*z2*z2*z2*z2*z2-X1*X1*X1*y1*z1*z1*z1*z2*z2*z2*z2*z2*z2*z2) h24 (dc (pz*pz*pz*Y2*X2*X2*X2*z1-pz*pz*Y2*Y2*Y2*z1*z1*z1+pz*pz*Y2*X2*X2*X2*z1*z1*z1-2*pz*pz*X2*X2*X2*Y1*z2*z2*z2+pz*pz*X2*X2*X2*l*l*l*z1*z1*z1*z2*z2*z2-2*pz*pz*X2*X2*X2*l*x1*z1*z1*z1*z2*z2*z2-pz*pz*X2*X2*X2*l*x2*z1*z1*z1*z2*z2*z2+pz*pz*X2*X2*X2*y1*z1*z1*z1*z2*z2*z2-pz*Y2*Y2*Y2*z1*z1*z1*z1*z1+3*pz*Y2*Y2*Y1*z1*z1*z2*z2*z2+pz*Y2*X2*X2*X2*z1*z1*z1*z1*z1-3*pz*Y2*X2*X1*X1*z1*z2*z2*z2*z2-2*pz*X2*X2*X2*Y1*z1*z1*z2*z2*z2+pz*X2*X2*X2*l*l*l*z1*z1*z1*z1*z1*z2*z2*z2-2*pz*X2*X2*X2*l*x1*z1*z1*z1*z1*z1*z2*z2*z2-pz*X2*X2*X2*l*x2*z1*z1*z1*z1*z1*z2*z2*z2+pz*X2*X2*X2*y1*z1*z1*z1*z1*z1*z2*z2*z2+3*pz*X2*X2*Y1*X1*z2*z2*z2*z2*z2-3*pz*X2*X2*X1*l*l*l*z1*z1*z1*z2*z2*z2*z2*z2+6*pz*X2*X2*X1*l*x1*z1*z1*z1*z2*z2*z2*z2*z2+3*pz*X2*X2*X1*l*x2*z1*z1*z1*z2*z2*z2*z2*z2-3*pz*X2*X2*X1*y1*z1*z1*z1*z2*z2*z2*z2*z2-Y2*Y2*Y2*z1*z1*z1*z1*z1*z1*z1+3*Y2*Y2*Y1*z1*z1*z1*z1*z2*z2*z2+Y2*X2*X2*X2*z1*z1*z1*z1*z1*z1*z1-3*Y2*X2*X1*X1*z1*z1*z1*z2*z2*z2*z2-3*Y2*Y1*Y1*z1*z2*z2*z2*z2*z2*z2+2*Y2*X1*X1*X1*z1*z2*z2*z2*z2*z2*z2-2*X2*X2*X2*Y1*z1*z1*z1*z1*z2*z2*z2+X2*X2*X2*l*l*l*z1*z1*z1*z1*z1*z1*z1*z2*z2*z2-2*X2*X2*X2*l*x1*z1*z1*z1*z1*z1*z1*z1*z2*z2*z2-X2*X2*X2*l*x2*z1*z1*z1*z1*z1*z1*z1*z2*z2*z2+X2*X2*X2*y1*z1*z1*z1*z1*z1*z1*z1*z2*z2*z2+3*X2*X2*Y1*X1*z1*z1*z2*z2*z2*z2*z2-3*X2*X2*X1*l*l*l*z1*z1*z1*z1*z1*z2*z2*z2*z2*z2+6*X2*X2*X1*l*x1*z1*z1*z1*z1*z1*z2*z2*z2*z2*z2+3*X2*X2*X1*l*x2*z1*z1*z1*z1*z1*z2*z2*z2*z2*z2-3*X2*X2*X1*y1*z1*z1*z1*z1*z1*z2*z2*z2*z2*z2+3*X2*X1*X1*l*l*l*z1*z1*z1*z2*z2*z2*z2*z2*z2*z2-6*X2*X1*X1*l*x1*z1*z1*z1*z2*z2*z2*z2*z2*z2*z2-3*X2*X1*X1*l*x2*z1*z1*z1*z2*z2*z2*z2*z2*z2*z2+3*X2*X1*X1*y1*z1*z1*z1*z2*z2*z2*z2*z2*z2*z2) h25 (dc (-3*Y2*X2*X1*z1*z1*z1*z1*z1*z2*z2*z2*z2-3*Y2*X2*x1*z1*z1*z1*z1*z1*z1*z1*z2*z2*z2*z2+2*Y2*X1*X1*z1*z1*z1*z2*z2*z2*z2*z2*z2+2*Y2*X1*x1*z1*z1*z1*z1*z1*z2*z2*z2*z2*z2*z2+2*Y2*x1*x1*z1*z1*z1*z1*z1*z1*z1*z2*z2*z2*z2*z2*z2+3*X2*X2*Y1*z1*z1*z1*z1*z2*z2*z2*z2*z2-3*X2*X2*l*l*l*z1*z1*z1*z1*z1*z1*z1*z2*z2*z2*z2*z2+6*X2*X2*l*x1*z1*z1*z1*z1*z1*z1*z1*z2*z2*z2*z2*z2+3*X2*X2*l*x2*z1*z1*z1*z1*z1*z1*z1*z2*z2*z2*z2*z2-3*X2*X2*y1*z1*z1*z1*z1*z1*z1*z1*z2*z2*z2*z2*z2+3*X2*X1*l*l*l*z1*z1*z1*z1*z1*z2*z2*z2*z2*z2*z2*z2-6*X2*X1*l*x1*z1*z1*z1*z1*z1*z2*z2*z2*z2*z2*z2*z2-3*X2*X1*l*x2*z1*z1*z1*z1*z1*z2*z2*z2*z2*z2*z2*z2+3*X2*X1*y1*z1*z1*z1*z1*z1*z2*z2*z2*z2*z2*z2*z2+3*X2*l*l*l*x1*z1*z1*z1*z1*z1*z1*z1*z2*z2*z2*z2*z2*z2*z2-6*X2*l*x1*x1*z1*z1*z1*z1*z1*z1*z1*z2*z2*z2*z2*z2*z2*z2-3*X2*l*x1*x2*z1*z1*z1*z1*z1*z1*z1*z2*z2*z2*z2*z2*z2*z2+3*X2*y1*x1*z1*z1*z1*z1*z1*z1*z1*z2*z2*z2*z2*z2*z2*z2-Y1*X1*X1*z2*z2*z2*z2*z2*z2*z2*z2*z2-Y1*X1*x1*z1*z1*z2*z2*z2*z2*z2*z2*z2*z2*z2-Y1*x1*x1*z1*z1*z1*z1*z2*z2*z2*z2*z2*z2*z2*z2*z2-X1*X1*l*l*l*z1*z1*z1*z2*z2*z2*z2*z2*z2*z2*z2*z2+2*X1*X1*l*x1*z1*z1*z1*z2*z2*z2*z2*z2*z2*z2*z2*z2+X1*X1*l*x2*z1*z1*z1*z2*z2*z2*z2*z2*z2*z2*z2*z2-X1*X1*y1*z1*z1*z1*z2*z2*z2*z2*z2*z2*z2*z2*z2-X1*l*l*l*x1*z1*z1*z1*z1*z1*z2*z2*z2*z2*z2*z2*z2*z2*z2+2*X1*l*x1*x1*z1*z1*z1*z1*z1*z2*z2*z2*z2*z2*z2*z2*z2*z2+X1*l*x1*x2*z1*z1*z1*z1*z1*z2*z2*z2*z2*z2*z2*z2*z2*z2-X1*y1*x1*z1*z1*z1*z1*z1*z2*z2*z2*z2*z2*z2*z2*z2*z2-l*l*l*x1*x1*z1*z1*z1*z1*z1*z1*z1*z2*z2*z2*z2*z2*z2*z2*z2*z2+2*l*x1*x1*x1*z1*z1*z1*z1*z1*z1*z1*z2*z2*z2*z2*z2*z2*z2*z2*z2+l*x1*x1*x2*z1*z1*z1*z1*z1*z1*z1*z2*z2*z2*z2*z2*z2*z2*z2*z2-y1*x1*x1*z1*z1*z1*z1*z1*z1*z1*z2*z2*z2*z2*z2*z2*z2*z2*z2) h26 (dc (3*Y2*Y2*z1*z1*z1*z1*z1*z1*z2*z2*z2-3*Y2*Y1*z1*z1*z1*z2*z2*z2*z2*z2*z2-3*Y2*y1*z1*z1*z1*z1*z1*z1*z2*z2*z2*z2*z2*z2-2*X2*X2*X2*z1*z1*z1*z1*z1*z1*z2*z2*z2+3*X2*X2*x1*z1*z1*z1*z1*z1*z1*z2*z2*z2*z2*z2+Y1*Y1*z2*z2*z2*z2*z2*z2*z2*z2*z2+Y1*y1*z1*z1*z1*z2*z2*z2*z2*z2*z2*z2*z2*z2-x1*x1*x1*z1*z1*z1*z1*z1*z1*z2*z2*z2*z2*z2*z2*z2*z2*z2+y1*y1*z1*z1*z1*z1*z1*z1*z2*z2*z2*z2*z2*z2*z2*z2*z2) h27 (dc (Y2*X2*X2*z1*z1*z1*z1*z1*z1*z1*z1*z1+Y2*X2*x2*z1*z1*z1*z1*z1*z1*z1*z1*z1*z2*z2-3*Y2*x1*x1*z1*z1*z1*z1*z1*z1*z1*z1*z1*z2*z2*z2*z2+Y2*x2*x2*z1*z1*z1*z1*z1*z1*z1*z1*z1*z2*z2*z2*z2+X2*X2*l*l*l*z1*z1*z1*z1*z1*z1*z1*z1*z1*z2*z2*z2-2*X2*X2*l*x1*z1*z1*z1*z1*z1*z1*z1*z1*z1*z2*z2*z2-X2*X2*l*x2*z1*z1*z1*z1*z1*z1*z1*z1*z1*z2*z2*z2-X2*X2*y1*z1*z1*z1*z1*z1*z1*z1*z1*z1*z2*z2*z2-3*X2*l*l*l*x1*z1*z1*z1*z1*z1*z1*z1*z1*z1*z2*z2*z2*z2*z2+X2*l*l*l*x2*z1*z1*z1*z1*z1*z1*z1*z1*z1*z2*z2*z2*z2*z2+6*X2*l*x1*x1*z1*z1*z1*z1*z1*z1*z1*z1*z1*z2*z2*z2*z2*z2+X2*l*x1*x2*z1*z1*z1*z1*z1*z1*z1*z1*z1*z2*z2*z2*z2*z2-X2*l*x2*x2*z1*z1*z1*z1*z1*z1*z1*z1*z1*z2*z2*z2*z2*z2-X2*y1*x2*z1*z1*z1*z1*z1*z1*z1*z1*z1*z2*z2*z2*z2*z2+3*l*l*l*x1*x1*z1*z1*z1*z1*z1*z1*z1*z1*z1*z2*z2*z2*z2*z2*z2*z2-3*l*l*l*x1*x2*z1*z1*z1*z1*z1*z1*z1*z1*z1*z2*z2*z2*z2*z2*z2*z2+l*l*l*x2*x2*z1*z1*z1*z1*z1*z1*z1*z1*z1*z2*z2*z2*z2*z2*z2*z2-6*l*x1*x1*x1*z1*z1*z1*z1*z1*z1*z1*z1*z1*z2*z2*z2*z2*z2*z2*z2+3*l*x1*x1*x2*z1*z1*z1*z1*z1*z1*z1*z1*z1*z2*z2*z2*z2*z2*z2*z2+l*x1*x2*x2*z1*z1*z1*z1*z1*z1*z1*z1*z1*z2*z2*z2*z2*z2*z2*z2-l*x2*x2*x2*z1*z1*z1*z1*z1*z1*z1*z1*z1*z2*z2*z2*z2*z2*z2*z2+3*y1*x1*x1*z1*z1*z1*z1*z1*z1*z1*z1*z1*z2*z2*z2*z2*z2*z2*z2-y1*x2*x2*z1*z1*z1*z1*z1*z1*z1*z1*z1*z2*z2*z2*z2*z2*z2*z2) h28 (dc (-Y2*Y2*z1*z1*z1*z1*z1*z1*z1*z1*z1+Y2*l*x1*z1*z1*z1*z1*z1*z1*z1*z1*z1*z2*z2*z2-Y2*l*x2*z1*z1*z1*z1*z1*z1*z1*z1*z1*z2*z2*z2+2*Y2*y1*z1*z1*z1*z1*z1*z1*z1*z1*z1*z2*z2*z2-l*l*x1*x1*z1*z1*z1*z1*z1*z1*z1*z1*z1*z2*z2*z2*z2*z2*z2+2*l*l*x1*x2*z1*z1*z1*z1*z1*z1*z1*z1*z1*z2*z2*z2*z2*z2*z2-l*l*x2*x2*z1*z1*z1*z1*z1*z1*z1*z1*z1*z2*z2*z2*z2*z2*z2-y1*l*x1*z1*z1*z1*z1*z1*z1*z1*z1*z1*z2*z2*z2*z2*z2*z2+2*x1*x1*x1*z1*z1*z1*z1*z1*z1*z1*z1*z1*z2*z2*z2*z2*z2*z2+y1*l*x2*z1*z1*z1*z1*z1*z1*z1*z1*z1*z2*z2*z2*z2*z2*z2-3*x1*x1*x2*z1*z1*z1*z1*z1*z1*z1*z1*z1*z2*z2*z2*z2*z2*z2+x2*x2*x2*z1*z1*z1*z1*z1*z1*z1*z1*z1*z2*z2*z2*z2*z2*z2-y1*y1*z1*z1*z1*z1*z1*z1*z1*z1*z1*z2*z2*z2*z2*z2*z2) h29 (dz p))))))))))))))))))))))))))))))) (by clear h0 h1 h2 h3 h4 h5 h6 h7 h8 h9 h10 h11 h12 h13 h14 h15 h16 h17 h18 h19 h20 h21 h22 h23 h24 h25 h26 h27 h28 h29;grind)
theorem aH5 {p x3 s2 X x z i:Int} (h0:p∣x3-(X*s2)) (h1:p∣s2-(i*i)) (h2:p∣X-x*(z*z)) (h3:p∣z*i-1):p∣(x3-x):=
 dk (dc (1) h0 (dc (X) h1 (dc (i*i) h2 (dc (x*z*i+x) h3 (dz p))))) (by clear h0 h1 h2 h3;grind)
theorem aH4 {p y3 s3 s2 Y y z i:Int} (h0:p∣y3-(Y*s3)) (h1:p∣s3-(s2*i)) (h2:p∣s2-(i*i)) (h3:p∣Y-y*(z*z*z)) (h4:p∣z*i-1):p∣(y3-y):=
 dk (dc (1) h0 (dc (Y) h1 (dc (Y*i) h2 (dc (i*i*i) h3 (dc (y*z*z*i*i+y*z*i+y) h4 (dz p)))))) (by clear h0 h1 h2 h3 h4;grind)
theorem aHF {p s x3 xx dx x y iv:Int} (h0:p∣s-(x3*iv)) (h1:p∣x3-(3*xx)) (h2:p∣xx-(x*x)) (h3:p∣dx-(y+y)) (h4:p∣dx*iv-1):p∣(s*(y+y)-(x*x+x*x+x*x)):=
 dk (dc (2*y) h0 (dc (2*y*iv) h1 (dc (6*y*iv) h2 (dc (-3*x*x*iv) h3 (dc (3*x*x) h4 (dz p)))))) (by clear h0 h1 h2 h3 h4;grind)
theorem aIk {p s dy dx x1 x2 y1 y2 iv:Int} (h0:p∣s-(dy*iv)) (h1:p∣dy-(y2-y1)) (h2:p∣dx-(x2-x1)) (h3:p∣dx*iv-1):p∣(s*(x1-x2)-(y1-y2)):=
 dk (dc (x1-x2) h0 (dc (x1*iv-x2*iv) h1 (dc (-y1*iv+y2*iv) h2 (dc (y1-y2) h3 (dz p))))) (by clear h0 h1 h2 h3;grind)
theorem aHD {p y3 e d x y1 x1 t:Int} (h0:p∣y3-(e-y1)) (h1:p∣e-(t*d)) (h2:p∣d-(x1-x)):p∣(y3-(t*(x1-x)-y1)):=
 dk (dc (1) h0 (dc (1) h1 (dc (t) h2 (dz p)))) (by clear h0 h1 h2;grind)
theorem aHE {p x d a x1 x2 t:Int} (h0:p∣x-(d-x2)) (h1:p∣d-(a-x1)) (h2:p∣a-(t*t)):p∣(x-(t*t-x1-x2)):=
 dk (dc (1) h0 (dc (1) h1 (dc (1) h2 (dz p)))) (by clear h0 h1 h2;grind)
theorem aIj {p z xxx xx y x b:Int} (h0:p∣z-(y*y)) (h1:p∣z-(xxx+b)) (h2:p∣xxx-(xx*x)) (h3:p∣xx-(x*x)):p∣(y*y-x*x*x-b):=
 dk (dc (-1) h0 (dc (1) h1 (dc (1) h2 (dc (x) h3 (dz p))))) (by clear h0 h1 h2 h3;grind)
theorem aIi {p u z xxx xx y x b:Int} (h0:p∣u-(y*y)) (h1:p∣z-(xxx+b)) (h2:p∣xxx-(xx*x)) (h3:p∣xx-(x*x)) (h4:p∣y*y-x*x*x-b):p∣(u-z):=
 dk (dc (1) h0 (dc (-1) h1 (dc (-1) h2 (dc (-x) h3 (dc (1) h4 (dz p)))))) (by clear h0 h1 h2 h3 h4;grind)
end
section
open Sx Go
variable {p:Nat}
theorem aro (hp:Sm p) (pr:Pr p) {z:ab} (hz:¬(p:Int)∣(z.nat:Int)):(p:Int)∣(z.nat:Int)*((FG p z).nat:Int)-1:=by
 have h2:=pr.1
 have hz':¬p∣z.nat:=λh=>hz (Int.natCast_dvd_natCast.2 h)
 have e:Nat.beq (z.nat%p) 0=false:=by
  cases h:Nat.beq (z.nat%p) 0
  ·rfl
  ·exact absurd (Nat.dvd_of_mod_eq_zero (aY h)) hz'
 have e2:(FG p z).nat=z.nat^(p-2)%p:=by
  unfold FG CO
  rw [e]
  simp only [aT]
  have hb:p-2<2^256:=by have:=hp.2;omega
  rw [IF 256 1 _ _ hb (by omega),Nat.one_mul,<-Nat.pow_mod]
  exact cv hp
 rw [e2]
 have hf:=FL pr hz'
 have e3:z.nat^(p-1)=z.nat*z.nat^(p-2):=by
  rw [show p-1=(p-2)+1 by omega,Nat.pow_succ,Nat.mul_comm]
 rw [e3] at hf
 obtain ⟨k,hk⟩:=avR (p:=p) (z.nat^(p-2))
 obtain ⟨m,hm⟩:=avR (p:=p) (z.nat*z.nat^(p-2))
 rw [hf] at hm
 rw [Int.natCast_mul] at hm
 generalize ((z.nat^(p-2)%p:Nat):Int)=u at*
 generalize ((z.nat^(p-2):Nat):Int)=v at*
 have hm:(1:Int)-(z.nat:Int)*v=(p:Int)*m:=hm
 exact ⟨(z.nat:Int)*k-m,by grind⟩
def toQ (P:Pt):PtQ:=cond P.2.2 none (some (P.1.nat,P.2.1.nat))
theorem aqZ (hp:Sm p) (X Y X2 s:ab):Thd p X.nat Y.nat X2.nat s.nat (JD p X Y X2 s).1.nat (JD p X Y X2 s).2.1.nat:=by
 unfold JD
 dsimp only
 have h1:=cf hp s s
 have h2:=mv hp (aR p s s) X
 have h3:=mv hp (iw p (aR p s s) X) X2
 generalize iw p (iw p (aR p s s) X) X2=x3 at*
 have h4:=mv hp X x3
 have h5:=cf hp s (iw p X x3)
 have h6:=mv hp (aR p s (iw p X x3)) Y
 exact ⟨aHE h3 h2 h1,aHD h6 h5 h4⟩
theorem agU {b:Nat} (c:Cur p b) (hp:Sm p) {X Y X2 Y2 s:ab} (hP:OnQ p b (some (X.nat,Y.nat))) (hR:OnQ p b (some (X2.nat,Y2.nat))) (hl:Lin p X.nat Y.nat X2.nat Y2.nat s.nat):
 toQ (JD p X Y X2 s)=dM p (some (X.nat,Y.nat)) (some (X2.nat,Y2.nat)):=by
 have h:=aqZ hp X Y X2 s
 exact (afU c (P:=(X.nat,Y.nat)) (R:=(X2.nat,Y2.nat)) (S:=((JD p X Y X2 s).1.nat,(JD p X Y X2 s).2.1.nat)) hP hR hl (Qd hp _ _) (Qd hp _ _) h).symm
theorem Uh:(ab.mk 3 0 0 0).nat=3:=by decide
theorem Qb {b:Nat} (c:Cur p b) (hp:Sm p) {P R:Pt} (hP:OnQ p b (toQ P)) (hR:OnQ p b (toQ R)):toQ (pE p P R)=dM p (toQ P) (toQ R):=by
 obtain ⟨X,Y,i⟩:=P
 obtain ⟨X2,Y2,j⟩:=R
 cases i
 ·cases j
  ·have hP':OnQ p b (some (X.nat,Y.nat)):=hP
   have hR':OnQ p b (some (X2.nat,Y2.nat)):=hR
   have n1:¬(p:Int)∣(Y.nat:Int):=c.yne hP'.2.2
   show toQ (pE p (X,Y,false) (X2,Y2,false))=dM p (some (X.nat,Y.nat)) (some (X2.nat,Y2.nat))
   rcases (b9 (eqE X X2)).symm with h|h
   ·have e:pE p (X,Y,false) (X2,Y2,false)=JD p X Y X2 (byP p (iw p Y2 Y) (iw p X2 X)):=by unfold pE;simp only [aT,h]
    rw [e]
    refine agU c hp hP' hR' ?_
    have hx:X.nat≠X2.nat:=λe=>by rw [gI e,ahL] at h;cases h
    have hd:=mv hp X2 X
    have hn:¬(p:Int)∣((iw p X2 X).nat:Int):=λhn=>by
     obtain ⟨k,hk⟩:=hd
     obtain ⟨m,hm⟩:=hn
     exact hx (gk hP'.1 hR'.1 ⟨k-m,by grind⟩)
    have hi:=aro hp c.pr hn
    have hm:=cf hp (iw p Y2 Y) (FG p (iw p X2 X))
    have hy:=mv hp Y2 Y
    unfold byP
    generalize iw p X2 X=dx at*
    generalize FG p dx=iv at*
    generalize iw p Y2 Y=dy at*
    generalize aR p dy iv=s at*
    have ha:(p:Int)∣(s.nat:Int)*((X.nat:Int)-X2.nat)-((Y.nat:Int)-Y2.nat):=aIk hm hy hd hi
    refine ⟨ha,?_⟩
    have hn':¬(p:Int)∣(X.nat:Int)-X2.nat:=λhh=>hx (gk hP'.1 hR'.1 hh)
    have hc1:(p:Int)∣(Y.nat:Int)*Y.nat-X.nat*X.nat*X.nat-b:=hP'.2.2
    have hc2:(p:Int)∣(Y2.nat:Int)*Y2.nat-X2.nat*X2.nat*X2.nat-b:=hR'.2.2
    exact (c.pr.eE (atw hc1 hc2 ha)).resolve_left hn'
   ·rcases (b9 (eqE Y Y2)).symm with h2|h2
    ·have e:pE p (X,Y,false) (X2,Y2,false)=aM:=by unfold pE;simp only [aT,aK,h,h2]
     rw [e]
     refine (if_pos ⟨?_,λe=> ?_⟩).symm
     ·show X.nat=X2.nat
      rw [tX.1 h]
     ·rw [gI e,ahL] at h2
      cases h2
    ·have e:pE p (X,Y,false) (X2,Y2,false)=JD p X Y X2 (byP p (aR p ⟨3,0,0,0⟩ (aR p X X)) (dv p Y Y)):=by unfold pE;simp only [aT,aK,h,h2]
     rw [e]
     refine agU c hp hP' hR' ?_
     obtain rfl:=tX.1 h
     obtain rfl:=tX.1 h2
     have hd:=YO hp Y Y
     have hn:¬(p:Int)∣((dv p Y Y).nat:Int):=λhn=>by
      obtain ⟨k,hk⟩:=hd
      obtain ⟨m,hm⟩:=hn
      rcases c.pr.eE (a:=2) (b:=(Y.nat:Int)) ⟨m-k,by grind⟩ with h|h
      ·exact c.no2 h
      ·exact n1 h
     have hi:=aro hp c.pr hn
     have hm:=cf hp (aR p ⟨3,0,0,0⟩ (aR p X X)) (FG p (dv p Y Y))
     have h3:=cf hp ⟨3,0,0,0⟩ (aR p X X)
     have h4:=cf hp X X
     rw [Uh] at h3
     unfold byP
     generalize dv p Y Y=dx at*
     generalize FG p dx=iv at*
     generalize aR p X X=xx at*
     generalize aR p ⟨3,0,0,0⟩ xx=x3 at*
     generalize aR p x3 iv=s at*
     exact ⟨⟨0,by rw [Int.sub_self,Int.sub_self,Int.mul_zero,Int.mul_zero];rfl⟩,aHF hm h3 h4 hd hi⟩
  ·show toQ (pE p (X,Y,false) (X2,Y2,true))=_
   have e:pE p (X,Y,false) (X2,Y2,true)=(X,Y,false):=by unfold pE;simp only [aT,aK]
   rw [e]
   rfl
 ·have e:pE p (X,Y,true) (X2,Y2,j)=(X2,Y2,j):=by unfold pE;simp only [aK]
  rw [e]
  rfl
def az8 (p:Nat) (w:Hm):PtQ->Prop
 |none=>w.2.2.nat=0
 |some P=>w.2.2.nat<p/\¬(p:Int)∣(w.2.2.nat:Int)/\(p:Int)∣(w.1.nat:Int)-(P.1:Int)*((w.2.2.nat:Int)*(w.2.2.nat:Int))/\
  (p:Int)∣(w.2.1.nat:Int)-(P.2:Int)*((w.2.2.nat:Int)*(w.2.2.nat:Int)*(w.2.2.nat:Int))
theorem PI {e:ab} (h:e.nat=0):bC e=true:=by rw [dI,h];rfl
theorem uP {e:ab} (h:¬(p:Int)∣(e.nat:Int)):bC e=false:=by
 rw [dI]
 cases hb:Nat.beq e.nat 0
 ·rfl
 ·exact absurd ⟨0,by rw [aY hb];rfl⟩ h
variable {b:Nat}
theorem ata (c:Cur p b) (hp:Sm p) {w:Hm} {P:PtQ} (hP:OnQ p b P) (h:az8 p w P):az8 p (adE p w) (dM p P P):=by
 obtain ⟨X,Y,Z⟩:=w
 cases P with
 |none=>
  have e:adE p (X,Y,Z)=(X,Y,Z):=by unfold adE;rw [PI (e:=Z) h];rfl
  rw [e]
  exact h
 |some P=>
  obtain ⟨hz,hzn,hX,hY⟩:=h
  have e:adE p (X,Y,Z)=aIh p X Y Z:=by unfold adE;rw [uP (e:=Z) hzn];rfl
  rw [e]
  cases hs:dM p (some P) (some P) with
  |none=>
   have:dM p (some P) (some P)=some (wU p P P (rq p P P)):=if_neg λh=>h.2 rfl
   rw [this] at hs
   cases hs
  |some S=>
   obtain ⟨hS1,hS2,l,hl,ht⟩:=nE c hP hP hs
   have hyy:=cf hp Y Y
   have ha:=cf hp X (aR p Y Y)
   have hs:=cf hp (aR p X (aR p Y Y)) ⟨4,0,0,0⟩
   have hb:=cf hp X X
   have hm:=cf hp (aR p X X) ⟨3,0,0,0⟩
   unfold aIh mu
   dsimp only
   rw [ayM] at hs
   rw [Uh] at hm
   generalize aR p (aR p X X) ⟨3,0,0,0⟩=m at*
   generalize aR p (aR p X (aR p Y Y)) ⟨4,0,0,0⟩=s at*
   have hmm:=cf hp m m
   have hs2:=cf hp s ⟨2,0,0,0⟩
   rw [Z8] at hs2
   have hx3:=mv hp (aR p m m) (aR p s ⟨2,0,0,0⟩)
   generalize iw p (aR p m m) (aR p s ⟨2,0,0,0⟩)=x3 at*
   have hd:=mv hp s x3
   have hmd:=cf hp m (iw p s x3)
   have hy4:=cf hp (aR p Y Y) (aR p Y Y)
   have hy8:=cf hp (aR p (aR p Y Y) (aR p Y Y)) ⟨8,0,0,0⟩
   rw [as1] at hy8
   have hy3:=mv hp (aR p m (iw p s x3)) (aR p (aR p (aR p Y Y) (aR p Y Y)) ⟨8,0,0,0⟩)
   have hyz:=cf hp Y Z
   have hz3:=cf hp (aR p Y Z) ⟨2,0,0,0⟩
   rw [Z8] at hz3
   have hzz:=aIe hz3 hyz hY
   refine ⟨j3 hp _ _,λhn=> ?_,aIg ht.x hl.b hz3 hyz hx3 hs2 hmm hm hb hs ha hyy hX hY,aIf ht.y ht.x hl.b hz3 hyz hy3 hy8 hy4 hmd hd hx3 hs2 hmm hm hb hs ha hyy hX hY⟩
   have h2:(p:Int)∣2*((P.2:Int)*((Z.nat:Int)*((Z.nat:Int)*((Z.nat:Int)*Z.nat)))):=aGK hn hzz
   rcases c.pr.eE h2 with h|h
   ·exact c.no2 h
   ·rcases c.pr.eE h with h|h
    ·exact c.yne hP.2.2 h
    ·rcases c.pr.eE h with h|h
     ·exact hzn h
     ·rcases c.pr.eE h with h|h
      ·exact hzn h
      ·rcases c.pr.eE h with h|h<;>exact hzn h
end
section
open Sx Go
set_option maxRecDepth 100000
theorem auH {p b:Nat} (c:Cur p b) (hp:Sm p) {w v:Hm} {P R:PtQ} (hP:OnQ p b P) (hR:OnQ p b R) (h:az8 p w P) (k:az8 p v R):az8 p (YN p w v) (dM p P R):=by
 obtain ⟨X1,Y1,Z1⟩:=w
 obtain ⟨X2,Y2,Z2⟩:=v
 cases P with
 |none=>
  have e:YN p (X1,Y1,Z1) (X2,Y2,Z2)=(X2,Y2,Z2):=by unfold YN;rw [PI (e:=Z1) h];rfl
  rw [e]
  exact k
 |some P=>
 cases R with
 |none=>
  have e:YN p (X1,Y1,Z1) (X2,Y2,Z2)=(X1,Y1,Z1):=by unfold YN;rw [uP (e:=Z1) h.2.1,PI (e:=Z2) k];rfl
  rw [e]
  exact h
 |some R=>
  have hw:=h
  obtain ⟨hz,hzn,hX,hY⟩:=h
  obtain ⟨kz,kzn,kX,kY⟩:=k
  have e:YN p (X1,Y1,Z1) (X2,Y2,Z2)=aHz p (X1,Y1,Z1) (X2,Y2,Z2):=by unfold YN;rw [uP (e:=Z1) hzn,uP (e:=Z2) kzn];rfl
  rw [e]
  unfold aHz
  dsimp only at*
  have hpz:=cf hp Z1 Z1
  have hqz:=cf hp Z2 Z2
  have hu:=cf hp X1 (aR p Z2 Z2)
  have hq3:=cf hp (aR p Z2 Z2) Z2
  have hs:=cf hp Y1 (aR p (aR p Z2 Z2) Z2)
  have hv:=cf hp X2 (aR p Z1 Z1)
  have hp3:=cf hp (aR p Z1 Z1) Z1
  have ht:=cf hp Y2 (aR p (aR p Z1 Z1) Z1)
  generalize aR p X1 (aR p Z2 Z2)=u at*
  generalize aR p Y1 (aR p (aR p Z2 Z2) Z2)=s at*
  generalize aR p X2 (aR p Z1 Z1)=v at*
  generalize aR p Y2 (aR p (aR p Z1 Z1) Z1)=t at*
  have hh:=mv hp v u
  have hr:=mv hp t s
  have lh:=Qd hp v u
  have lr:=Qd hp t s
  generalize iw p v u=H at*
  generalize iw p t s=r at*
  have ah:=aIq hh hv hu hqz hpz hX kX
  have ar:=aIp hr ht hp3 hs hq3 hqz hpz hY kY
  have out:∀ {a z:Int},¬(p:Int)∣z->(p:Int)∣a*z->(p:Int)∣a:=λhz h=>(c.pr.eE h).resolve_right hz
  have mul:∀ {a z:Int},¬(p:Int)∣a->¬(p:Int)∣z->¬(p:Int)∣a*z:=λha hz h=>(c.pr.eE h).elim ha hz
  have n4:=mul (mul hzn hzn) (mul kzn kzn)
  have n6:=mul (mul (mul hzn hzn) hzn) (mul (mul kzn kzn) kzn)
  unfold aIr
  rcases (b9 (bC H)).symm with h1|h1
  ·rw [h1]
   simp only [aT]
   have hHn:¬(p:Int)∣(H.nat:Int):=λhd=>by
    rw [dI] at h1
    have:=Nat.eq_zero_of_dvd_of_lt (Int.natCast_dvd_natCast.1 hd) lh
    rw [this] at h1
    cases h1
   have hxn:P.1≠R.1:=λhx=>hHn (by
    rw [hx,Int.sub_self,Int.zero_mul,Int.sub_zero] at ah
    exact ah)
   cases hS:dM p (some P) (some R) with
   |none=>
    have:dM p (some P) (some R)=some (wU p P R (rq p P R)):=if_neg λh=>hxn h.1
    rw [this] at hS
    cases hS
   |some S=>
    obtain ⟨hS1,hS2,l,hl,hT⟩:=nE c hP hR hS
    unfold aIG mu
    dsimp only
    have hhh:=cf hp H H
    have hhhh:=cf hp (aR p H H) H
    have hcc:=cf hp u (aR p H H)
    have hrr:=cf hp r r
    have hrh:=mv hp (aR p r r) (aR p (aR p H H) H)
    have hc2:=cf hp (aR p u (aR p H H)) ⟨2,0,0,0⟩
    rw [Z8] at hc2
    have hx3:=mv hp (iw p (aR p r r) (aR p (aR p H H) H)) (aR p (aR p u (aR p H H)) ⟨2,0,0,0⟩)
    generalize iw p (iw p (aR p r r) (aR p (aR p H H) H)) (aR p (aR p u (aR p H H)) ⟨2,0,0,0⟩)=x3 at*
    have hd:=mv hp (aR p u (aR p H H)) x3
    have hrd:=cf hp r (iw p (aR p u (aR p H H)) x3)
    have hsh:=cf hp s (aR p (aR p H H) H)
    have hy3:=mv hp (aR p r (iw p (aR p u (aR p H H)) x3)) (aR p s (aR p (aR p H H) H))
    have hzz:=cf hp Z1 Z2
    have hz3:=cf hp H (aR p Z1 Z2)
    refine ⟨j3 hp _ _,λhn=> ?_,aIo hT.x hl.a hz3 hzz hx3 hc2 hrh hrr hcc hhhh hhh hr ht hp3 hh hv hs hq3 hu hqz hpz hX hY kX kY,
     aIn hT.y hT.x hl.a hz3 hzz hy3 hsh hrd hd hx3 hc2 hrh hrr hcc hhhh hhh hr ht hp3 hh hv hs hq3 hu hqz hpz hX hY kX kY⟩
    have h2:=aGK hn hz3
    rcases c.pr.eE h2 with h|h
    ·exact hHn h
    ·have h3:=aGK h hzz
     exact mul hzn kzn h3
  ·rw [h1]
   simp only [aK]
   have hH:H.nat=0:=by rw [dI] at h1;exact aY h1
   have hx:P.1=R.1:=by
    rw [hH] at ah
    have:(p:Int)∣((R.1:Int)-P.1)*((Z1.nat:Int)*Z1.nat*(Z2.nat*Z2.nat)):=aGK (Int.dvd_zero _) ah
    exact (gk hR.1 hP.1 (out n4 this)).symm
   rcases (b9 (bC r)).symm with h2|h2
   ·rw [h2]
    simp only [aT]
    have hy:P.2≠R.2:=λhy=>by
     rw [hy,Int.sub_self,Int.zero_mul,Int.sub_zero] at ar
     rw [dI] at h2
     have:=Nat.eq_zero_of_dvd_of_lt (Int.natCast_dvd_natCast.1 ar) lr
     rw [this] at h2
     cases h2
    have:dM p (some P) (some R)=none:=if_pos ⟨hx,hy⟩
    rw [this]
    exact ma
   ·rw [h2]
    simp only [aK]
    have hr0:r.nat=0:=by rw [dI] at h2;exact aY h2
    have hy:P.2=R.2:=by
     rw [hr0] at ar
     have:(p:Int)∣((R.2:Int)-P.2)*((Z1.nat:Int)*Z1.nat*Z1.nat*(Z2.nat*Z2.nat*Z2.nat)):=aGK (Int.dvd_zero _) ar
     exact (gk hR.2.1 hP.2.1 (out n6 this)).symm
    have:R=P:=by
     obtain ⟨P1,P2⟩:=P
     obtain ⟨R1,R2⟩:=R
     dsimp only at hx hy
     rw [hx,hy]
    rw [this]
    exact ata c hp hP hw
def Can (P:Pt):Prop:=P.2.2=true->P=aM
theorem ah6 {P R:Pt} (hP:Can P) (hR:Can R) (h:toQ P=toQ R):P=R:=by
 obtain ⟨X,Y,i⟩:=P
 obtain ⟨X2,Y2,j⟩:=R
 cases i<;>cases j
 ·have h:some (X.nat,Y.nat)=some (X2.nat,Y2.nat):=h
  simp only [Option.some.injEq,Prod.mk.injEq] at h
  rw [gI h.1,gI h.2]
 ·cases h
 ·cases h
 ·rw [hP rfl,hR rfl]
theorem NN {p b:Nat} (c:Cur p b) (hp:Sm p) {w:Hm} {P:PtQ} (hP:OnQ p b P) (h:az8 p w P):toQ (gJ p w)=P/\Can (gJ p w):=by
 obtain ⟨X,Y,Z⟩:=w
 cases P with
 |none=>
  have e:gJ p (X,Y,Z)=aM:=by unfold gJ;rw [PI (e:=Z) h];rfl
  rw [e]
  exact ⟨rfl,λ_=>rfl⟩
 |some P=>
  obtain ⟨hz,hzn,hX,hY⟩:=h
  have e:gJ p (X,Y,Z)=abr p X Y (FG p Z):=by unfold gJ;rw [uP (e:=Z) hzn];rfl
  rw [e]
  refine ⟨?_,λh=>by cases h⟩
  have hi:=aro hp c.pr hzn
  unfold abr
  have h2:=cf hp (FG p Z) (FG p Z)
  have h3:=cf hp (aR p (FG p Z) (FG p Z)) (FG p Z)
  have hx:=cf hp X (aR p (FG p Z) (FG p Z))
  have hy:=cf hp Y (aR p (aR p (FG p Z) (FG p Z)) (FG p Z))
  have ex:=gk (j3 hp _ _) hP.1 (aH5 hx h2 hX hi)
  have ey:=gk (j3 hp _ _) hP.2.1 (aH4 hy h3 h2 hY hi)
  show some ((aR p X (aR p (FG p Z) (FG p Z))).nat,(aR p Y (aR p (aR p (FG p Z) (FG p Z)) (FG p Z))).nat)=some P
  rw [ex,ey]
theorem Hy {p b:Nat} (c:Cur p b) {P:Pt}:az8 p (gz P) (toQ P):=by
 obtain ⟨X,Y,i⟩:=P
 cases i
 ·have h1:=c.big
  refine ⟨?_,λh=> ?_,?_,?_⟩
  ·show (ab.mk 1 0 0 0).nat<p
   rw [QO]
   omega
  ·have h:(p:Int)∣(((ab.mk 1 0 0 0).nat:Nat):Int):=h
   rw [QO] at h
   have:=Int.le_of_dvd (by decide) h
   omega
  ·show (p:Int)∣(X.nat:Int)-(X.nat:Int)*((((ab.mk 1 0 0 0).nat:Nat):Int)*(((ab.mk 1 0 0 0).nat:Nat):Int))
   rw [QO]
   exact ⟨0,by simp⟩
  ·show (p:Int)∣(Y.nat:Int)-(Y.nat:Int)*((((ab.mk 1 0 0 0).nat:Nat):Int)*(((ab.mk 1 0 0 0).nat:Nat):Int)*(((ab.mk 1 0 0 0).nat:Nat):Int))
   rw [QO]
   exact ⟨0,by simp⟩
 ·exact ma
theorem ah7 {p:Nat} (X Y X2 s:ab):Can (JD p X Y X2 s):=λh=>by cases h
theorem atG {p:Nat} {P R:Pt} (hP:Can P) (hR:Can R):Can (pE p P R):=by
 obtain ⟨X,Y,i⟩:=P
 obtain ⟨X2,Y2,j⟩:=R
 unfold pE
 cases i
 ·cases j
  ·simp only [aT]
   cases eqE X X2
   ·exact ah7 _ _ _ _
   ·cases eqE Y Y2
    ·exact λ_=>rfl
    ·exact ah7 _ _ _ _
  ·exact hP
 ·exact hR
theorem aFh (k:ab) {n:Nat} (h:n<256):rA k (255-(n:Int))=avV k.nat (255-n):=by
 unfold rA
 rw [ag (show (0:Int)<=255-(n:Int) by omega),ag (show (255:Int)-(n:Int)<256 by omega),show ((255:Int)-(n:Int)).toNat=255-n by omega]
 rfl
theorem GQ {p b:Nat} (c:Cur p b) (hp:Sm p) (k:ab) {P:Pt} (hP:OnQ p b (toQ P)) (hc:Can P):∀ n,n<=256->
 az8 p (upto (j2 p k (gz P)) aof n) (toQ (upto (gl p k.nat P) aM n))/\OnQ p b (toQ (upto (gl p k.nat P) aM n))/\Can (upto (gl p k.nat P) aM n)
 |0,_=>⟨ma,trivial,λ_=>rfl⟩
 |n+1,h=>by
  obtain ⟨h1,h2,h3⟩:=GQ c hp k hP hc n (by omega)
  show az8 p (j2 p k (gz P) n (upto (j2 p k (gz P)) aof n)) (toQ (gl p k.nat P n (upto (gl p k.nat P) aM n)))/\OnQ p b (toQ (gl p k.nat P n (upto (gl p k.nat P) aM n)))/\Can (gl p k.nat P n (upto (gl p k.nat P) aM n))
  generalize upto (j2 p k (gz P)) aof n=w at*
  generalize upto (gl p k.nat P) aM n=Q at*
  have d1:=ata c hp h2 h1
  have d2:=Qb c hp h2 h2
  have d3:=jl c h2 h2
  rw [<-d2] at d1 d3
  have d4:=atG (p:=p) h3 h3
  unfold j2 gl
  rw [aFh k (by omega)]
  cases avV k.nat (255-n)
  ·exact ⟨d1,d3,d4⟩
  ·simp only [aK]
   have e2:=Qb c hp d3 hP
   refine ⟨?_,?_,atG d4 hc⟩
   ·rw [e2]
    exact auH c hp d3 hP d1 (Hy c)
   ·rw [e2]
    exact jl c d3 hP
theorem ft {s:Int} {P:Pt} (h:onB s P=true):ac s=true/\OnQ (pS s) (bS s).nat (toQ P)/\Can P:=by
 have hs:=vt h
 have hp:Sm (pS s):=eP hs
 obtain ⟨X,Y,i⟩:=P
 refine ⟨hs,?_⟩
 unfold onB at h
 rw [hs] at h
 simp only [aK] at h
 cases i
 ·simp only [aT] at h
  refine ⟨?_,λh=>by cases h⟩
  rcases (b9 (Nat.blt X.nat (pS s))).symm with h1|h1
  ·rw [h1] at h;cases h
  ·rcases (b9 (Nat.blt Y.nat (pS s))).symm with h2|h2
   ·rw [h1,h2] at h;cases h
   ·rw [h1,h2] at h
    simp only [aK] at h
    have e:=tX.1 h
    have hx:X.nat<pS s:=dK h1
    have hy:Y.nat<pS s:=dK h2
    refine ⟨hx,hy,?_⟩
    have e1:=cf hp Y Y
    have e2:=cf hp X X
    have e3:=cf hp (aR (pS s) X X) X
    have e4:=YO hp (aR (pS s) (aR (pS s) X X) X) (bS s)
    rw [e] at e1
    unfold Gg at e1
    show ((pS s:Nat):Int)∣(Y.nat:Int)*Y.nat-X.nat*X.nat*X.nat-(bS s).nat
    exact aIj e1 e4 e3 e2
 ·simp only [aK,aw] at h
  refine ⟨trivial,λ_=> ?_⟩
  have z:∀ {e:ab},bC e=true->e=⟨0,0,0,0⟩:=λ{e} h=>gI (by rw [dI] at h;rw [aY h];exact ma.symm)
  rw [z h.1,z h.2.1]
  rfl
theorem UA {s:Int} (h:ac s=true) (k:ab):(Gd s k).nat=(ofP (pS (ay s 1)) k).nat:=by
 have hp:=eP (bG h)
 unfold Gd
 rw [show (dv (pS (ay s 1)) k ⟨0,0,0,0⟩).nat=(k.nat+(ab.mk 0 0 0 0).nat)%pS (ay s 1) from cv hp,ma,Nat.add_zero]
 exact (cv hp).symm
theorem axJ (s:Int) (k:ab) (P:Pt):pW s k P=aqv s k P:=by
 unfold pW aqv
 rcases (b9 (onB s P)).symm with h|h
 ·rw [h]
  rfl
 ·rw [h]
  simp only [aK]
  obtain ⟨hs,hP,hc⟩:=ft h
  have c:=aD hs
  have hp:Sm (pS s):=eP hs
  obtain ⟨h1,h2,h3⟩:=GQ c hp (Gd s k) hP hc 256 (Nat.le_refl _)
  obtain ⟨n1,n2⟩:=NN c hp h2 h1
  rw [<-UA hs]
  exact ah6 n2 h3 n1
end
section
def eH (p:Nat):Nat->PtQ->PtQ
 |0,_=>none
 |n+1,P=>dM p P (eH p n P)
variable {p b:Nat}
theorem sO (c:Cur p b) {P:PtQ} (hP:OnQ p b P):∀ n,OnQ p b (eH p n P)
 |0=>trivial
 |n+1=>jl c hP (sO c hP n)
theorem mul_one (P:PtQ):eH p 1 P=P:=cq P
theorem vu:∀ n,eH p n none=none
 |0=>rfl
 |n+1=>vu n
theorem iK (c:Cur p b) {P:PtQ} (hP:OnQ p b P) (m:Nat):∀ n,eH p (n+m) P=dM p (eH p n P) (eH p m P)
 |0=>by rw [Nat.zero_add];rfl
 |n+1=>by
  rw [show n+1+m=(n+m)+1 by omega]
  show dM p P (eH p (n+m) P)=dM p (dM p P (eH p n P)) (eH p m P)
  rw [iK c hP m n,add_assoc c hP (sO c hP n) (sO c hP m)]
theorem mC (c:Cur p b) {P:PtQ} (hP:OnQ p b P) (m:Nat):∀ n,eH p (n*m) P=eH p n (eH p m P)
 |0=>by rw [Nat.zero_mul];rfl
 |n+1=>by
  rw [show (n+1)*m=m+n*m by rw [Nat.succ_mul,Nat.add_comm],iK c hP,mC c hP m n]
  rfl
theorem mul_comm (c:Cur p b) {P:PtQ} (hP:OnQ p b P) (m n:Nat):eH p n (eH p m P)=eH p m (eH p n P):=by
 rw [<-mC c hP,<-mC c hP,Nat.mul_comm]
theorem Tb (c:Cur p b) {A B C D:PtQ} (hA:OnQ p b A) (hB:OnQ p b B) (hC:OnQ p b C) (hD:OnQ p b D):
 dM p (dM p A B) (dM p C D)=dM p (dM p A C) (dM p B D):=by
 rw [add_assoc c hA hB (jl c hC hD),<-add_assoc c hB hC hD,add_comm c hB hC,add_assoc c hC hB hD,<-add_assoc c hA hC (jl c hB hD)]
theorem mul_add (c:Cur p b) {P R:PtQ} (hP:OnQ p b P) (hR:OnQ p b R):∀ n,eH p n (dM p P R)=dM p (eH p n P) (eH p n R)
 |0=>rfl
 |n+1=>by
  show dM p (dM p P R) (eH p n (dM p P R))=dM p (dM p P (eH p n P)) (dM p R (eH p n R))
  rw [mul_add c hP hR n,Tb c hP hR (sO c hP n) (sO c hR n)]
theorem wH (c:Cur p b) {P R T:PtQ} (hP:OnQ p b P) (hR:OnQ p b R) (hT:OnQ p b T) (h:dM p P R=dM p P T):R=T:=by
 rw [<-cancel c hP hR,h,cancel c hP hT]
theorem awa (c:Cur p b) {P:PtQ} (h:dM p P P=none):P=none:=by
 cases P with
 |none=>rfl
 |some P=>
  have:dM p (some P) (some P)=some (wU p P P (rq p P P)):=if_neg λh=>h.2 rfl
  rw [this] at h
  cases h
theorem mul_gcd (c:Cur p b) {P:PtQ} (hP:OnQ p b P) (m k:Nat):eH p m P=none->eH p k P=none->eH p (Nat.gcd m k) P=none:=by
 induction m,k using Nat.gcd.induction with
 |H0 n=>intro _ h;rw [Nat.gcd_zero_left];exact h
 |H1 m n hm ih=>
  intro h1 h2
  rw [Nat.gcd_rec]
  refine ih ?_ h1
  have e:=Nat.div_add_mod n m
  rw [<-e,Nat.mul_comm,iK c hP,mC c hP,h1,vu] at h2
  exact h2
theorem mul_mod (c:Cur p b) {P:PtQ} (hP:OnQ p b P) {q:Nat} (hq:eH p q P=none) (n:Nat):eH p (n%q) P=eH p n P:=by
 have e:=Nat.div_add_mod n q
 conv=>rhs;rw [<-e,Nat.mul_comm,iK c hP,mC c hP,hq,vu]
 rfl
def aFB (p:Nat):PtQ->Nat
 |none=>2*p
 |some P=>2*P.1+P.2%2
theorem aGG {P:PtQ} (hP:OnQ p b P):aFB p P<2*p+1:=by
 cases P with
 |none=>show 2*p<_;omega
 |some P=>
  have:=hP.1
  show 2*P.1+P.2%2<_
  omega
theorem aEM (c:Cur p b) (hodd:p%2=1) {P R:PtQ} (hP:OnQ p b P) (hR:OnQ p b R) (h:aFB p P=aFB p R):P=R:=by
 cases P with
 |none=>
  cases R with
  |none=>rfl
  |some R=>
   have:=hR.1
   have h:2*p=2*R.1+R.2%2:=h
   omega
 |some P=>
  cases R with
  |none=>
   have:=hP.1
   have h:2*P.1+P.2%2=2*p:=h
   omega
  |some R=>
   obtain ⟨x1,y1⟩:=P
   obtain ⟨x2,y2⟩:=R
   have h:2*x1+y1%2=2*x2+y2%2:=h
   have hx:x1=x2:=by omega
   have hy:y1%2=y2%2:=by omega
   by_cases he:y1=y2
   ·rw [hx,he]
   ·exfalso
    have ho:=aqh c hP hR ⟨hx,he⟩
    have ho:some (x2,y2)=some (x1,nm p (-(y1:Int))):=ho
    simp only [Option.some.injEq,Prod.mk.injEq] at ho
    have h2:=ho.2
    have hy1:y1<p:=hP.2.1
    have h0:y1≠0:=λe=>c.yne hP.2.2 (by show (p:Int)∣((y1:Nat):Int);rw [e];exact ⟨0,by simp⟩)
    have h3:nm p (-(y1:Int))=p-y1:=aqs (by omega) ⟨1,by omega⟩
    omega
theorem auD (c:Cur p b) (hodd:p%2=1) {q:Nat} (hq:Pr q) (hq2:q%2=1) (h3:2*p+1<3*q) {G:PtQ} (hG:OnQ p b G) (hne:G≠none) (hqG:eH p q G=none)
 {P:PtQ} (hP:OnQ p b P):eH p q P=none:=by
 apply lD
 intro hno
 have hord:∀ i,eH p i G=none->q∣i:=λi hi=>by
  have hg:=mul_gcd c hG q i hqG hi
  rcases hq.2 (Nat.gcd q i) (Nat.gcd_dvd_left ..) with e|e
  ·rw [e,mul_one] at hg
   exact absurd hg hne
  ·rw [<-e]
   exact Nat.gcd_dvd_right ..
 have hon:=λi=>sO c hG i
 have honP:=λi=>sO c hP i
 --no point of G's meets P or twice P
 have hp1:∀ i,P≠eH p i G:=λi e=>hno (by rw [e,mul_comm c hG,hqG,vu])
 have hp2:∀ i,dM p P P≠eH p i G:=λi e=>by
  have hh:∃ j,eH p i G=dM p (eH p j G) (eH p j G):=by
   refine ⟨i*((q+1)/2),?_⟩
   rw [<-iK c hG,<-Nat.mul_add,show (q+1)/2+(q+1)/2=q+1 by omega,Nat.mul_add,iK c hG,mC c hG,hqG,vu,Nat.mul_one]
   rfl
  obtain ⟨j,hj⟩:=hh
  rw [hj] at e
  have hn:=Ft c (hon j)
  have:dM p (dM p (agA p (eH p j G)) P) (dM p (agA p (eH p j G)) P)=none:=by
   rw [Tb c hn hP hn hP,e,add_comm c (jl c hn hn) (jl c (hon j) (hon j)),Tb c (hon j) (hon j) hn hn,add_neg c (hon j)]
   rfl
  have h2:=awa c this
  have h4:=I4 c hn hP h2
  rw [neg_neg c (hon j)] at h4
  exact hp1 j h4
 --differences of G's points
 have hdiff:∀ i j A B,OnQ p b A->OnQ p b B->dM p (eH p i G) A=dM p (eH p j G) B->∃ k,A=dM p (eH p k G) B:=λi j A B hA hB e=>by
  refine ⟨(q-i%q)+j,?_⟩
  have hm:eH p (i%q) G=eH p i G:=mul_mod c hG hqG i
  have hlt:=Nat.mod_lt i hq.pos
  have hz:dM p (eH p (q-i%q) G) (eH p i G)=none:=by
   rw [<-hm,<-iK c hG,show q-i%q+i%q=q by omega,hqG]
  rw [iK c hG,add_assoc c (hon _) (hon _) hB,<-e,<-add_assoc c (hon _) (hon _) hA,hz]
  rfl
 have hinj:∀ i j,i<q->j<q->eH p i G=eH p j G->i=j:=by
  have aux:∀ i j,i<=j->j<q->eH p i G=eH p j G->i=j:=λi j hij hj e=>by
   have e2:dM p (eH p i G) none=dM p (eH p i G) (eH p (j-i) G):=by
    rw [<-iK c hG,show i+(j-i)=j by omega,cq,e]
   have h0:=wH c (hon i) (R:=none) trivial (hon _) e2
   have hd:=hord _ h0.symm
   by_cases h:j-i=0
   ·omega
   ·have:=Nat.le_of_dvd (by omega) hd
    omega
  intro i j hi hj e
  rcases Nat.le_total i j with h|h
  ·exact aux i j h hj e
  ·exact (aux j i h hi e.symm).symm
 let tw:Nat->PtQ:=λk=>eH p (k/q) P
 let pt:Nat->PtQ:=λk=>dM p (eH p (k%q) G) (eH p (k/q) P)
 have hpt:∀ k,OnQ p b (pt k):=λk=>jl c (hon _) (honP _)
 have hcoset:∀ i j,i<3->j<3->(∃ k,eH p i P=dM p (eH p k G) (eH p j P))->i=j:=by
  have P1:eH p 1 P=P:=mul_one P
  have P2:eH p 2 P=dM p P P:=congrArg (dM p P) (mul_one P)
  have back:∀ k A B,OnQ p b A->OnQ p b B->A=dM p (eH p k G) B->∃ k',B=dM p (eH p k' G) A:=λk A B hA hB e=>by
   refine hdiff k 0 B A hB hA ?_
   rw [<-e]
   rfl
  have n01:∀ k,eH p 0 P≠dM p (eH p k G) (eH p 1 P):=λk e=>by
   obtain ⟨k',e'⟩:=back k _ _ (honP 0) (honP 1) e
   rw [P1,show eH p 0 P=none from rfl,cq] at e'
   exact hp1 k' e'
  have n02:∀ k,eH p 0 P≠dM p (eH p k G) (eH p 2 P):=λk e=>by
   obtain ⟨k',e'⟩:=back k _ _ (honP 0) (honP 2) e
   rw [P2,show eH p 0 P=none from rfl,cq] at e'
   exact hp2 k' e'
  have n12:∀ k,eH p 1 P≠dM p (eH p k G) (eH p 2 P):=λk e=>by
   rw [P1,P2,<-add_assoc c (hon k) hP hP] at e
   have e2:dM p P none=dM p P (dM p (eH p k G) P):=by
    rw [cq,<-add_assoc c hP (hon k) hP,add_comm c hP (hon k)]
    exact e
   have e3:=wH c hP (R:=none) trivial (jl c (hon k) hP) e2
   obtain ⟨k',e'⟩:=back k none P trivial hP e3
   rw [cq] at e'
   exact hp1 k' e'
  rintro i j hi hj ⟨k,hk⟩
  apply lD
  intro hij
  have bk:=back k _ _ (honP i) (honP j) hk
  have:(i=0/\j=1)\/(i=0/\j=2)\/(i=1/\j=2)\/(i=1/\j=0)\/(i=2/\j=0)\/(i=2/\j=1):=by omega
  rcases this with ⟨rfl,rfl⟩|⟨rfl,rfl⟩|⟨rfl,rfl⟩|⟨rfl,rfl⟩|⟨rfl,rfl⟩|⟨rfl,rfl⟩
  ·exact n01 k hk
  ·exact n02 k hk
  ·exact n12 k hk
  ·obtain ⟨k',e⟩:=bk;exact n01 k' e
  ·obtain ⟨k',e⟩:=bk;exact n02 k' e
  ·obtain ⟨k',e⟩:=bk;exact n12 k' e
 have hptinj:∀ x ∈ List.range (3*q),∀ y ∈ List.range (3*q),aFB p (pt x)=aFB p (pt y)->x=y:=λx hx y hy e=>by
  rw [List.mem_range] at hx hy
  have e:=aEM c hodd (hpt x) (hpt y) e
  have hdx:x/q<3:=Nat.div_lt_of_lt_mul (by rw [Nat.mul_comm];exact hx)
  have hdy:y/q<3:=Nat.div_lt_of_lt_mul (by rw [Nat.mul_comm];exact hy)
  have h1:=hcoset (x/q) (y/q) hdx hdy (hdiff _ _ _ _ (honP _) (honP _) e)
  have e:dM p (eH p (x%q) G) (eH p (x/q) P)=dM p (eH p (y%q) G) (eH p (y/q) P):=e
  rw [h1,add_comm c (hon _) (honP _),add_comm c (hon (y%q)) (honP _)] at e
  have h2:=hinj _ _ (Nat.mod_lt _ hq.pos) (Nat.mod_lt _ hq.pos) (wH c (honP _) (hon _) (hon _) e)
  have e1:=Nat.div_add_mod x q
  have e2:=Nat.div_add_mod y q
  rw [<-e1,<-e2,h1,h2]
 have hnd:=sQ (f:=λk=>aFB p (pt k)) List.nodup_range hptinj
 have hlen:=Bx (l2:=List.range (2*p+1)) hnd (λx hx=>by
  obtain ⟨k,_,rfl⟩:=List.mem_map.1 hx
  exact List.mem_range.2 (aGG (hpt k)))
 rw [List.length_map,List.length_range,List.length_range] at hlen
 omega
end
section
open Sx Go
set_option maxRecDepth 100000
theorem yf {p b:Nat} (c:Cur p b) (hp:Sm p) {k:Nat} (hk:k<2^256) {P:Pt} (hP:OnQ p b (toQ P)):∀ n,n<=256->
 toQ (upto (gl p k P) aM n)=eH p (k/2^(256-n)) (toQ P)
 |0,_=>by
  rw [Nat.sub_zero,Nat.div_eq_of_lt hk]
  rfl
 |n+1,h=>by
  have ih:=yf c hp hk hP n (by omega)
  have ho:=sO c hP (k/2^(256-n))
  show toQ (gl p k P n (upto (gl p k P) aM n))=_
  generalize upto (gl p k P) aM n=Q at*
  have hQ:OnQ p b (toQ Q):=by rw [ih];exact ho
  have d2:=Qb c hp hQ hQ
  have e1:256-n=(255-n)+1:=by omega
  have hd:k/2^(256-n)=k/2^(255-n)/2:=by rw [e1,Nat.pow_succ,Nat.div_div_eq_div_mul]
  rw [show 256-(n+1)=255-n by omega]
  rw [hd] at ih ho
  unfold gl
  cases hb:avV k (255-n)
  ·have h0:=azE hb
   simp only [aT]
   rw [d2,ih,<-iK c hP]
   congr 1
   omega
  ·have h0:k/2^(255-n)%2=1:=aY hb
   simp only [aK]
   have d3:OnQ p b (toQ (pE p Q Q)):=by rw [d2];exact jl c hQ hQ
   rw [Qb c hp d3 hP,d2,ih,<-iK c hP,add_comm c (sO c hP _) hP]
   show eH p (_+1) (toQ P)=_
   congr 1
   omega
theorem akY {p b:Nat} (c:Cur p b) (hp:Sm p) {k:Nat} (hk:k<2^256) {P:Pt} (hP:OnQ p b (toQ P)):toQ (apI p k P)=eH p k (toQ P):=by
 have h:=yf c hp hk hP 256 (Nat.le_refl _)
 rw [Nat.sub_self,Nat.pow_zero,Nat.div_one] at h
 exact h
theorem aGf {p b x y:Nat} (hx:x<p) (hy:y<p) (h:Nat.beq (y*y%p) ((x*x*x+b)%p)=true):OnQ p b (some (x,y)):=by
 refine ⟨hx,hy,?_⟩
 have h:=aY h
 obtain ⟨k,hk⟩:=avR (p:=p) (y*y)
 obtain ⟨m,hm⟩:=avR (p:=p) (x*x*x+b)
 rw [h] at hk
 rw [Int.natCast_mul] at hk
 rw [Int.natCast_add,Int.natCast_mul,Int.natCast_mul] at hm
 show (p:Int)∣(y:Int)*y-x*x*x-b
 generalize (((x*x*x+b)%p:Nat):Int)=r at*
 refine ⟨m-k,?_⟩
 rw [Int.mul_sub,<-hm,<-hk]
 omega
def aDP (p q:Nat) (x y:ab):Bool:=bC (upto (j2 p (ofN q) (gz (x,y,false))) aof 256).2.2
theorem aHW {p b q:Nat} (c:Cur p b) (hp:Sm p) (hq:q<115792089237316195423570985008687907853269984665640564039457584007913129639936) {x y:ab} (hG:OnQ p b (some (x.nat,y.nat))) (h:aDP p q x y=true):eH p q (some (x.nat,y.nat))=none:=by
 have hG':OnQ p b (toQ (x,y,false)):=hG
 obtain ⟨h1,h2,h3⟩:=GQ c hp (ofN q) hG' (λh=>by cases h) 256 (Nat.le_refl _)
 have h4:=yf c hp (k:=(ofN q).nat) (jn _) hG' 256 (Nat.le_refl _)
 rw [oc hq,Nat.sub_self,Nat.pow_zero,Nat.div_one] at h4
 rw [oc hq] at h1
 have h4:toQ (upto (gl p q (x,y,false)) aM 256)=eH p q (some (x.nat,y.nat)):=h4
 rw [h4] at h1
 unfold aDP at h
 cases hm:eH p q (some (x.nat,y.nat)) with
 |none=>rfl
 |some S=>
  rw [hm] at h1
  rw [uP h1.2.1] at h
  cases h
theorem QM {p b q:Nat} (c:Cur p b) (hp:Sm p) (hodd:Nat.beq (p%2) 1=true) (hq:Pr q) (hq2:Nat.beq (q%2) 1=true) (hqb:Nat.blt q 115792089237316195423570985008687907853269984665640564039457584007913129639936=true) (h3:Nat.blt (2*p+1) (3*q)=true)
 {x y:ab} (hx:Nat.blt x.nat p=true) (hy:Nat.blt y.nat p=true) (he:Nat.beq (y.nat*y.nat%p) ((x.nat*x.nat*x.nat+b)%p)=true) (h:aDP p q x y=true) {P:PtQ} (hP:OnQ p b P):eH p q P=none:=by
 have hG:=aGf (dK hx) (dK hy) he
 exact auD c (aY hodd) hq (aY hq2) (dK h3) hG (λe=>by cases e) (aHW c hp (dK hqb) hG h) hP
theorem aGq:pS 0=16513537:=by decide+kernel
theorem aGp:pS 1=16521217:=by decide+kernel
theorem aGo:pS 2=28948022309329048855892746252171976963363056481941560715954676764349967630337:=by decide+kernel
theorem aGn:pS 3=28948022309329048855892746252171976963363056481941647379679742748393362948097:=by decide+kernel
theorem aIV:(bS 0).nat=23:=by decide+kernel
theorem aIU:(bS 1).nat=21:=by decide+kernel
theorem aIT:(bS 2).nat=5:=by decide+kernel
theorem aIS:(bS 3).nat=5:=by decide+kernel
theorem aH0:aDP 16513537 16521217 ⟨1,0,0,0⟩ ⟨2487377,0,0,0⟩=true:=by decide+kernel
theorem aHZ:aDP 16521217 16513537 ⟨1,0,0,0⟩ ⟨7286451,0,0,0⟩=true:=by decide+kernel
theorem aHY:aDP 28948022309329048855892746252171976963363056481941560715954676764349967630337 28948022309329048855892746252171976963363056481941647379679742748393362948097
 (ofN 28948022309329048855892746252171976963363056481941560715954676764349967630336) ⟨2,0,0,0⟩=true:=by decide+kernel
theorem aHX:aDP 28948022309329048855892746252171976963363056481941647379679742748393362948097 28948022309329048855892746252171976963363056481941560715954676764349967630337
 (ofN 28948022309329048855892746252171976963363056481941647379679742748393362948096) ⟨2,0,0,0⟩=true:=by decide+kernel
theorem aAK {s:Int} (hs:ac s=true) {P:PtQ} (hP:OnQ (pS s) (bS s).nat P):eH (pS s) (pS (ay s 1)) P=none:=by
 have c:=aD hs
 have hp:Sm (pS s):=eP hs
 rcases cb hs with rfl|rfl|rfl|rfl
 ·rw [show ay 0 1=1 by decide+kernel]
  rw [aGq,aGp,aIV] at*
  exact QM c hp (by decide+kernel) yl (by decide+kernel) (by decide+kernel) (by decide+kernel) (by decide+kernel) (by decide+kernel) (by decide+kernel) aH0 hP
 ·rw [show ay 1 1=0 by decide+kernel]
  rw [aGq,aGp,aIU] at*
  exact QM c hp (by decide+kernel) ym (by decide+kernel) (by decide+kernel) (by decide+kernel) (by decide+kernel) (by decide+kernel) (by decide+kernel) aHZ hP
 ·rw [show ay 2 1=3 by decide+kernel]
  rw [aGo,aGn,aIT] at*
  exact QM c hp (by decide+kernel) aO (by decide+kernel) (by decide+kernel) (by decide+kernel) (by decide+kernel) (by decide+kernel) (by decide+kernel) aHY hP
 ·rw [show ay 3 1=2 by decide+kernel]
  rw [aGo,aGn,aIS] at*
  exact QM c hp (by decide+kernel) aP (by decide+kernel) (by decide+kernel) (by decide+kernel) (by decide+kernel) (by decide+kernel) (by decide+kernel) aHX hP
theorem aqk {s:Int} {P:Pt} (hs:ac s=true) (h:OnQ (pS s) (bS s).nat (toQ P)) (hc:Can P):onB s P=true:=by
 have hp:Sm (pS s):=eP hs
 obtain ⟨X,Y,i⟩:=P
 cases i
 ·obtain ⟨hx,hy,hv⟩:=h
  have hx:X.nat<pS s:=hx
  have hy:Y.nat<pS s:=hy
  have hv:((pS s:Nat):Int)∣(Y.nat:Int)*Y.nat-X.nat*X.nat*X.nat-(bS s).nat:=hv
  unfold onB
  rw [hs]
  have e1:Nat.blt X.nat (pS s)=true:=jW hx
  have e2:Nat.blt Y.nat (pS s)=true:=jW hy
  simp only [aK,aT,e1,e2]
  refine tX.2 (gI (gk (j3 hp _ _) (Ad hp _ _) ?_))
  have c1:=cf hp Y Y
  have c2:=cf hp X X
  have c3:=cf hp (aR (pS s) X X) X
  have c4:=YO hp (aR (pS s) (aR (pS s) X X) X) (bS s)
  unfold Gg
  exact aIi c1 c4 c3 c2 hv
 ·rw [hc rfl]
  unfold onB
  rw [hs]
  rfl
theorem aBr {s:Int} {P:Pt} (h:onB s P=true):Can P:=(ft h).2.2
theorem aE6:Can aM:=λ_=>rfl
theorem nV {s:Int} {P R:Pt} (hP:onB s P=true) (hR:onB s R=true):toQ (fT s P R)=dM (pS s) (toQ P) (toQ R)/\onB s (fT s P R)=true:=by
 obtain ⟨hs,h1,h2⟩:=ft hP
 obtain ⟨_,h3,h4⟩:=ft hR
 have c:=aD hs
 have hp:Sm (pS s):=eP hs
 have e:fT s P R=gJ (pS s) (YN (pS s) (gz P) (gz R)):=by unfold fT;rw [hP,hR];rfl
 obtain ⟨n1,n2⟩:=NN c hp (jl c h1 h3) (auH c hp h1 h3 (Hy c) (Hy c))
 rw [e]
 exact ⟨n1,aqk hs (by rw [n1];exact jl c h1 h3) n2⟩
theorem vP {s:Int} (hs:ac s=true):onB s aM=true:=aqk hs trivial aE6
theorem GR {s:Int} (k:ab) {P:Pt} (hP:onB s P=true):toQ (pW s k P)=eH (pS s) k.nat (toQ P)/\onB s (pW s k P)=true:=by
 obtain ⟨hs,h1,h2⟩:=ft hP
 have c:=aD hs
 have hp:Sm (pS s):=eP hs
 have hk:(ofP (pS (ay s 1)) k).nat=k.nat%pS (ay s 1):=cv (eP (bG hs))
 have e:pW s k P=apI (pS s) (ofP (pS (ay s 1)) k).nat P:=by rw [axJ];unfold aqv;rw [hP];rfl
 have ht:toQ (pW s k P)=eH (pS s) k.nat (toQ P):=by
  rw [e,akY c hp (jn _) h1,hk,mul_mod c h1 (aAK hs h1)]
 refine ⟨ht,aqk hs (by rw [ht];exact sO c h1 _) ?_⟩
 rw [e]
 exact (GQ c hp (ofP (pS (ay s 1)) k) h1 h2 256 (Nat.le_refl _)).2.2
def Gp {p b:Nat} (_:Cur p b):Type:= {P:PtQ//OnQ p b P}
section
variable {p b:Nat} {c:Cur p b}
instance:Add (Gp c):=⟨λx y=>⟨dM p x.1 y.1,jl c x.2 y.2⟩⟩
instance:Zero (Gp c):=⟨⟨none,trivial⟩⟩
instance:Neg (Gp c):=⟨λx=>⟨agA p x.1,Ft c x.2⟩⟩
instance:Std.Associative (α:=Gp c) (· + ·):=⟨λx y z=>Subtype.ext (add_assoc c x.2 y.2 z.2)⟩
instance:Std.Commutative (α:=Gp c) (· + ·):=⟨λx y=>Subtype.ext (add_comm c x.2 y.2)⟩
theorem WQ (x y:Gp c):x+y=y+x:=Subtype.ext (add_comm c x.2 y.2)
theorem acI (x y z:Gp c):x+y+z=x+(y+z):=Subtype.ext (add_assoc c x.2 y.2 z.2)
theorem oI (x:Gp c):x+0=x:=Subtype.ext (cq x.1)
theorem aFG (x:Gp c):0+x=x:=Subtype.ext rfl
theorem aIa (x:Gp c):x+ -x=0:=Subtype.ext (add_neg c x.2)
def smG (n:Nat) (x:Gp c):Gp c:=⟨eH p n x.1,sO c x.2 n⟩
theorem aaC (x:Gp c):smG 0 x=0:=rfl
theorem Us (x:Gp c):smG 1 x=x:=Subtype.ext (mul_one x.1)
theorem aDr (n:Nat) (x:Gp c):smG (n+1) x=x+smG n x:=rfl
theorem Qg (m n:Nat) (x:Gp c):smG (m+n) x=smG m x+smG n x:=Subtype.ext (iK c x.2 n m)
theorem Qf (m n:Nat) (x:Gp c):smG (m*n) x=smG m (smG n x):=Subtype.ext (mC c x.2 n m)
theorem aAB (n:Nat) (x y:Gp c):smG n (x+y)=smG n x+smG n y:=Subtype.ext (mul_add c x.2 y.2 n)
theorem apl (n:Nat):smG n (0:Gp c)=0:=Subtype.ext (vu n)
theorem ahn {x y z:Gp c} (h:x+y=x+z):y=z:=Subtype.ext (wH c x.2 y.2 z.2 (congrArg Subtype.val h))
def lj:List (Nat×Gp c)->Gp c
 | []=>0
 |t::r=>smG t.1 t.2+lj r
theorem xX (l r:List (Nat×Gp c)):lj (l++r)=lj l+lj r:=by
 induction l with
 |nil=>exact (aFG _).symm
 |cons t l ih=>
  show smG t.1 t.2+lj (l++r)=smG t.1 t.2+lj l+lj r
  rw [ih,acI]
open Classical in
noncomputable def gp (c:Cur p b) (P:Pt):Gp c:=if h:OnQ p b (toQ P) then ⟨toQ P,h⟩ else 0
theorem RO (P:Pt) (h:OnQ p b (toQ P)):gp c P=⟨toQ P,h⟩:=dif_pos h
end
section
variable {s:Int} (hs:ac s=true)
theorem aGz {P R:Pt} (hP:onB s P=true) (hR:onB s R=true) (h:gp (aD hs) P=gp (aD hs) R):P=R:=by
 rw [RO P (ft hP).2.1,RO R (ft hR).2.1] at h
 exact ah6 (aBr hP) (aBr hR) (congrArg Subtype.val h)
theorem Oe:gp (aD hs) aM=0:=RO aM trivial
theorem Km {P R:Pt} (hP:onB s P=true) (hR:onB s R=true):gp (aD hs) (fT s P R)=gp (aD hs) P+gp (aD hs) R:=by
 obtain ⟨e,o⟩:=nV hP hR
 rw [RO P (ft hP).2.1,RO R (ft hR).2.1,RO _ (ft o).2.1]
 exact Subtype.ext e
theorem aA0 (k:ab) {P:Pt} (hP:onB s P=true):gp (aD hs) (pW s k P)=smG k.nat (gp (aD hs) P):=by
 obtain ⟨e,o⟩:=GR k hP
 rw [RO P (ft hP).2.1,RO _ (ft o).2.1]
 exact Subtype.ext e
theorem wX (n:Nat) (x:Gp (aD hs)):smG (n%pS (ay s 1)) x=smG n x:=Subtype.ext (mul_mod (aD hs) x.2 (aAK hs x.2) n)
end
section
variable {s:Int} (hs:ac s=true)
abbrev Gs (hs:ac s=true):Type:=Gp (aD hs)
noncomputable def tG (l:List Tm):List (Nat×Gs hs):=l.map λt=>(t.1.nat,gp (aD hs) t.2)
theorem iy {α:Type} {l:List α} {k:Nat} (h:k<l.length) (d:α):l.getD k d=l[k]:=by rw [eZ,m9 h];rfl
theorem auE {c:Int} {l:List Tm} (ha:cy c l=true) {k:Nat} (h:k<l.length):onB c l[k].2=true:=List.all_eq_true.1 ha _ (List.getElem_mem h)
theorem Ib {l:List Tm} (ha:cy s l=true):∀ n,n<=l.length->onB s (upto (ga s l) aM n)=true/\gp (aD hs) (upto (ga s l) aM n)=lj (tG hs (l.take n))
 |0,_=>⟨vP hs,Oe hs⟩
 |n+1,h=>by
  obtain ⟨h1,h2⟩:=Ib ha n (by omega)
  have hk:n<l.length:=by omega
  show onB s (ga s l n (upto (ga s l) aM n))=true/\gp (aD hs) (ga s l n (upto (ga s l) aM n))=_
  generalize upto (ga s l) aM n=O at*
  unfold ga
  rw [iy hk]
  have hp:=auE ha hk
  have hm:=(GR l[n].1 hp).2
  refine ⟨(nV h1 hm).2,?_⟩
  rw [Km hs h1 hm,aA0 hs _ hp,h2,<-List.take_append_getElem hk,tG,tG,List.map_append,xX]
  congr 1
  exact (oI _).symm
theorem akM {l:List Tm} (ha:cy s l=true):onB s (pH s l)=true/\gp (aD hs) (pH s l)=lj (tG hs l):=by
 have h:=Ib hs ha l.length (Nat.le_refl _)
 rw [List.take_length] at h
 exact h
noncomputable def Tq:List Pt->Gs hs
 | []=>0
 |P::r=>gp (aD hs) P+Tq r
noncomputable def aj9:List Pt->Gs hs
 | []=>0
 |P::r=>aj9 r+Tq hs (P::r)
theorem Qn {P R:Pt} (hR:onB s R=true):∀ (S:List Pt) (d:Nat),d<S.length->onB s (S.getD d fe)=true->P=fT s (S.getD d fe) R->Tq hs (S.set d P)=Tq hs S+gp (aD hs) R
 | [],d,h,_,_=>by cases h
 |X::S,0,_,ho,e=>by
  subst e
  have ho:onB s X=true:=ho
  show gp (aD hs) (fT s X R)+Tq hs S=gp (aD hs) X+Tq hs S+gp (aD hs) R
  rw [Km hs ho hR]
  ac_rfl
 |X::S,d+1,h,ho,e=>by
  have ih:=Qn hR S d (by simpa using h) ho e
  show gp (aD hs) X+Tq hs (S.set d P)=gp (aD hs) X+Tq hs S+gp (aD hs) R
  rw [ih]
  ac_rfl
theorem aeM {P R:Pt} (hR:onB s R=true):∀ (S:List Pt) (d:Nat),d<S.length->onB s (S.getD d fe)=true->P=fT s (S.getD d fe) R->aj9 hs (S.set d P)=aj9 hs S+smG (d+1) (gp (aD hs) R)
 | [],d,h,_,_=>by cases h
 |X::S,0,h,ho,e=>by
  have hr:=Qn hs hR (X::S) 0 h ho e
  show aj9 hs S+Tq hs (P::S)=aj9 hs S+Tq hs (X::S)+smG 1 (gp (aD hs) R)
  have hr:Tq hs (P::S)=_:=hr
  rw [hr,Us]
  ac_rfl
 |X::S,d+1,h,ho,e=>by
  have hr:=Qn hs hR (X::S) (d+1) h ho e
  have ih:=aeM hR S d (by simpa using h) ho e
  show aj9 hs (S.set d P)+Tq hs ((X::S).set (d+1) P)=aj9 hs S+Tq hs (X::S)+smG (d+1+1) (gp (aD hs) R)
  rw [hr,ih,aDr (d+1)]
  ac_rfl
def aFm (s:Int) (S:List Pt):Prop:=∀ k,k<S.length->onB s (S.getD k fe)=true
theorem az2 {S:List Pt} (h:aFm s S) {d:Nat} {P:Pt} (hP:onB s P=true):aFm s (S.set d P):=λk hk=>by
 rw [cu] at hk
 by_cases e:d=k
 ·subst e
  rw [eZ,List.getElem?_set_self hk]
  exact hP
 ·rw [eZ,List.getElem?_set_ne e,<-eZ]
  exact h k hk
theorem aga {S:List Pt} (hS:S.length=15) (hp:aFm s S):∀ n,n<=15->
 (onB s (upto (ix s S) (aM,aM) n).1=true/\onB s (upto (ix s S) (aM,aM) n).2=true)/\
 gp (aD hs) (upto (ix s S) (aM,aM) n).1=Tq hs (S.drop (15-n))/\gp (aD hs) (upto (ix s S) (aM,aM) n).2=aj9 hs (S.drop (15-n))
 |0,_=>by
  rw [List.drop_eq_nil_of_le (by omega)]
  exact ⟨⟨vP hs,vP hs⟩,Oe hs,Oe hs⟩
 |n+1,h=>by
  obtain ⟨⟨h1,h2⟩,h3,h4⟩:=aga hS hp n (by omega)
  show (onB s (ix s S n (upto (ix s S) (aM,aM) n)).1=true/\onB s (ix s S n (upto (ix s S) (aM,aM) n)).2=true)/\
   gp (aD hs) (ix s S n (upto (ix s S) (aM,aM) n)).1=_/\gp (aD hs) (ix s S n (upto (ix s S) (aM,aM) n)).2=_
  generalize upto (ix s S) (aM,aM) n=w at*
  have hk:14-n<S.length:=by omega
  have ho:=hp (14-n) hk
  have e1:S.drop (15-(n+1))=S.getD (14-n) fe::S.drop (15-n):=by
   rw [iy hk,show 15-(n+1)=14-n by omega,m8 hk,show 14-n+1=15-n by omega]
  rw [e1]
  unfold ix
  dsimp only
  have o1:=(nV h1 ho).2
  have o2:=(nV h2 o1).2
  have e2:gp (aD hs) (fT s w.1 (S.getD (14-n) fe))=Tq hs (S.getD (14-n) fe::S.drop (15-n)):=by
   rw [Km hs h1 ho,h3]
   exact WQ _ _
  refine ⟨⟨o1,o2⟩,e2,?_⟩
  rw [Km hs h2 o1,h4,e2]
  rfl
theorem aDA {S:List Pt} (hS:S.length=15) (hp:aFm s S):onB s (aHm s S).2=true/\gp (aD hs) (aHm s S).2=aj9 hs S:=by
 obtain ⟨⟨_,h2⟩,_,h4⟩:=aga hs hS hp 15 (Nat.le_refl _)
 exact ⟨h2,h4⟩
theorem UF:∀ n,Tq hs (List.replicate n aM)=0
 |0=>rfl
 |n+1=>by
  rw [List.replicate_succ]
  show gp (aD hs) aM+Tq hs (List.replicate n aM)=0
  rw [UF n,Oe hs,oI]
theorem TG:∀ n,aj9 hs (List.replicate n aM)=0
 |0=>rfl
 |n+1=>by
  have h:=UF hs (n+1)
  rw [List.replicate_succ] at h⊢
  show aj9 hs (List.replicate n aM)+Tq hs (aM::List.replicate n aM)=0
  rw [h,TG n,oI]
theorem auF (hs:ac s=true) (n:Nat):aFm s (List.replicate n aM):=λk hk=>by
 rw [iy hk,List.getElem_replicate]
 exact vP hs
noncomputable def dG (a:Int) (l:List Tm):List (Nat×Gs hs):=l.map λt=>((XB t.1 a).toNat,gp (aD hs) t.2)
theorem Yh {l:List Tm} (ha:cy s l=true) (a:Int):∀ n,n<=l.length->(upto (fg s a l) (List.replicate 15 aM) n).length=15/\aFm s (upto (fg s a l) (List.replicate 15 aM) n)/\
 aj9 hs (upto (fg s a l) (List.replicate 15 aM) n)=lj (dG hs a (l.take n))
 |0,_=>⟨rfl,auF hs 15,TG hs 15⟩
 |n+1,h=>by
  obtain ⟨h1,h2,h3⟩:=Yh ha a n (by omega)
  have hk:n<l.length:=by omega
  show (fg s a l n (upto (fg s a l) (List.replicate 15 aM) n)).length=15/\aFm s (fg s a l n (upto (fg s a l) (List.replicate 15 aM) n))/\aj9 hs (fg s a l n (upto (fg s a l) (List.replicate 15 aM) n))=_
  generalize upto (fg s a l) (List.replicate 15 aM) n=S at*
  have hp:=auE ha hk
  refine ⟨(mT s a l n S).trans h1,?_⟩
  have ed:lj (dG hs a (l.take (n+1)))=lj (dG hs a (l.take n))+smG (XB l[n].1 a).toNat (gp (aD hs) l[n].2):=by
   rw [<-List.take_append_getElem hk,dG,dG,List.map_append,xX]
   congr 1
   exact oI _
  rw [ed]
  unfold fg
  rw [iy hk]
  have hd:=as7 l[n].1 a
  by_cases h0:0<XB l[n].1 a
  ·rw [ag h0]
   simp only [aK]
   have hlt:(XB l[n].1 a-1).toNat<S.length:=by omega
   have ho:=h2 _ hlt
   refine ⟨az2 h2 (nV ho hp).2,?_⟩
   rw [aeM hs hp S _ hlt ho rfl,h3,show (XB l[n].1 a-1).toNat+1=(XB l[n].1 a).toNat by omega]
  ·rw [bq h0]
   simp only [aT]
   refine ⟨h2,?_⟩
   rw [h3,show (XB l[n].1 a).toNat=0 by omega,aaC,oI]
theorem azz {l:List Tm} (ha:cy s l=true) (a:Int):onB s (ad4 s l a)=true/\gp (aD hs) (ad4 s l a)=lj (dG hs a l):=by
 obtain ⟨h1,h2,h3⟩:=Yh hs ha a l.length (Nat.le_refl _)
 rw [List.take_length] at h3
 obtain ⟨h4,h5⟩:=aDA hs h1 h2
 exact ⟨h4,h5.trans h3⟩
noncomputable def vG (a:Nat) (l:List Tm):List (Nat×Gs hs):=l.map λt=>(t.1.nat/2^a,gp (aD hs) t.2)
theorem Cl (k:ab) (i:Nat):aBA (rA k (i:Int))=((k.nat/2^i%2:Nat):Int):=by
 unfold rA
 rw [ag (show (0:Int)<=(i:Int) by omega),cD]
 by_cases h:(i:Int)<256
 ·rw [ag h]
  show aBA (avV k.nat i)=_
  unfold avV
  have h2:k.nat/2^i%2=0\/k.nat/2^i%2=1:=by omega
  rcases h2 with h2|h2<;>rw [h2]<;>rfl
 ·rw [bq h]
  have hlt:=jn k
  have:k.nat/2^i=0:=Nat.div_eq_of_lt (Nat.lt_of_lt_of_le hlt (by
   have:2^256<=2^i:=Nat.pow_le_pow_right (by decide) (by omega)
   exact this))
  rw [this]
  rfl
theorem azf (k:ab) (a:Nat):(XB k (a:Int)).toNat=k.nat/2^a%16:=by
 rw [as8,show (a:Int)+1=((a+1:Nat):Int) by omega,show (a:Int)+2=((a+2:Nat):Int) by omega,show (a:Int)+3=((a+3:Nat):Int) by omega]
 rw [Cl,Cl,Cl,Cl]
 have e1:k.nat/2^(a+1)=k.nat/2^a/2:=by rw [Nat.pow_succ,Nat.div_div_eq_div_mul]
 have e2:k.nat/2^(a+2)=k.nat/2^a/2/2:=by rw [show a+2=(a+1)+1 by omega,Nat.pow_succ,<-Nat.div_div_eq_div_mul,e1]
 have e3:k.nat/2^(a+3)=k.nat/2^a/2/2/2:=by rw [show a+3=(a+2)+1 by omega,Nat.pow_succ,<-Nat.div_div_eq_div_mul,e2]
 rw [e1,e2,e3]
 omega
theorem aCM (l:List Tm) (a:Nat):smG 16 (lj (vG hs (a+4) l))+lj (dG hs (a:Int) l)=lj (vG hs a l):=by
 induction l with
 |nil=>exact (oI _).trans (apl 16)
 |cons t l ih=>
  show smG 16 (smG (t.1.nat/2^(a+4)) (gp (aD hs) t.2)+lj (vG hs (a+4) l))+(smG (XB t.1 (a:Int)).toNat (gp (aD hs) t.2)+lj (dG hs (a:Int) l))=smG (t.1.nat/2^a) (gp (aD hs) t.2)+lj (vG hs a l)
  rw [<-ih,aAB,<-Qf,azf]
  have e:t.1.nat/2^a=16*(t.1.nat/2^(a+4))+t.1.nat/2^a%16:=by
   rw [Nat.pow_add,<-Nat.div_div_eq_div_mul]
   have:2^4=16:=rfl
   rw [this]
   omega
  have e2:smG (t.1.nat/2^a) (gp (aD hs) t.2)=smG (16*(t.1.nat/2^(a+4))) (gp (aD hs) t.2)+smG (t.1.nat/2^a%16) (gp (aD hs) t.2):=by
   rw [<-Qg,<-e]
  rw [e2]
  ac_rfl
theorem aCL (l:List Tm):lj (vG hs 0 l)=lj (tG hs l):=by
 unfold vG tG
 congr 1
 apply List.map_congr_left
 intro t _
 rw [Nat.pow_zero,Nat.div_one]
theorem azk {O:Pt} (h:onB s O=true):onB s (aGO s O)=true/\gp (aD hs) (aGO s O)=smG 16 (gp (aD hs) O):=by
 have step:∀ {P:Pt} {n:Nat},onB s P=true/\gp (aD hs) P=smG n (gp (aD hs) O)->onB s (fT s P P)=true/\gp (aD hs) (fT s P P)=smG (n+n) (gp (aD hs) O):=λ⟨o,e⟩=>
  ⟨(nV o o).2,by rw [Km hs o o,e,<-Qg]⟩
 exact step (step (step (step (n:=1) ⟨h,(Us _).symm⟩)))
theorem aFj {l:List Tm} {i n k:Nat} (h:oN l (i:Int) n k<0):∀ j,k<=j->j<k+n->rA (l.getD j lm).1 (i:Int)=false:=by
 induction n generalizing k with
 |zero=>intro j h1 h2;omega
 |succ n ih=>
  intro j h1 h2
  unfold oN at h
  cases hb:rA (l.getD k lm).1 (i:Int)
  ·rw [hb] at h
   by_cases e:j=k
   ·rw [e];exact hb
   ·exact ih h j (by omega) (by omega)
  ·rw [hb] at h
   have h:(k:Int)<0:=h
   omega
theorem Ub (l:List Tm):∀ n,(∀ j,j<l.length->(l.getD j lm).1.nat<2^n)->∀ j,j<l.length->(l.getD j lm).1.nat<2^anS l n
 |0,h=>h
 |n+1,h=>by
  unfold anS
  cases ha:aFD l (n:Int)
  ·simp only [aT]
   refine Ub l n λj hj=> ?_
   have hf:oN l (n:Int) l.length 0<0:=by
    have:¬(0:Int)<=kc l (n:Int):=of_decide_eq_false ha
    have:¬(0:Int)<=oN l (n:Int) l.length 0:=this
    omega
   have hb:=aFj hf j (by omega) (by omega)
   have h2:=Cl (l.getD j lm).1 n
   rw [hb] at h2
   have h3:(l.getD j lm).1.nat/2^n%2=0:=by
    have h2:((0:Nat):Int)=(((l.getD j lm).1.nat/2^n%2:Nat):Int):=h2
    exact (Int.ofNat_inj.1 h2).symm
   have h4:=h j hj
   rw [Nat.pow_succ] at h4
   have h5:(l.getD j lm).1.nat/2^n<2:=Nat.div_lt_of_lt_mul h4
   have h6:(l.getD j lm).1.nat/2^n=0:=by
    generalize (l.getD j lm).1.nat/2^n=q at h3 h5
    omega
   rcases Nat.div_eq_zero_iff.1 h6 with h7|h7
   ·have:=Nat.two_pow_pos n;omega
   ·exact h7
  ·exact h
theorem aFJ (l:List Tm) {a:Nat} (h:ZF l<=a):lj (vG hs a l)=0:=by
 have hall:=Ub l 256 λj _=>jn _
 have hz:∀ t ∈ l,t.1.nat/2^a=0:=λt ht=>by
  obtain ⟨j,hj,rfl⟩:=List.getElem_of_mem ht
  have:=hall j hj
  rw [iy hj] at this
  exact Nat.div_eq_of_lt (Nat.lt_of_lt_of_le this (Nat.pow_le_pow_right (by decide) h))
 clear hall h
 induction l with
 |nil=>rfl
 |cons t l ih=>
  show smG (t.1.nat/2^a) (gp (aD hs) t.2)+lj (vG hs a l)=0
  rw [hz t (List.mem_cons_self ..),aaC,ih λu hu=>hz u (List.mem_cons_of_mem _ hu),oI]
theorem aeJ {l:List Tm} (ha:cy s l=true):∀ n,n<=rp l+1->onB s (upto (n8 s l (rp l)) aM n)=true/\gp (aD hs) (upto (n8 s l (rp l)) aM n)=lj (vG hs (4*(rp l+1-n)) l)
 |0,_=>by
  refine ⟨vP hs,(Oe hs).trans (aFJ hs l ?_).symm⟩
  unfold rp
  omega
 |n+1,h=>by
  obtain ⟨h1,h2⟩:=aeJ ha n (by omega)
  show onB s (n8 s l (rp l) n (upto (n8 s l (rp l)) aM n))=true/\gp (aD hs) (n8 s l (rp l) n (upto (n8 s l (rp l)) aM n))=_
  generalize upto (n8 s l (rp l)) aM n=O at*
  unfold n8
  have e:4*(rp l:Int)-4*(n:Int)=((4*(rp l+1-(n+1)):Nat):Int):=by omega
  rw [e]
  obtain ⟨d1,d2⟩:=azk hs h1
  obtain ⟨b1,b2⟩:=azz hs ha ((4*(rp l+1-(n+1)):Nat):Int)
  refine ⟨(nV d1 b1).2,?_⟩
  rw [Km hs d1 b1,d2,b2,h2,<-aCM hs l (4*(rp l+1-(n+1))),show 4*(rp l+1-n)=4*(rp l+1-(n+1))+4 by omega]
theorem aDl {l:List Tm} (ha:cy s l=true):onB s (AR s l)=true/\gp (aD hs) (AR s l)=lj (tG hs l):=by
 unfold AR
 cases aHu l
 ·obtain ⟨h1,h2⟩:=aeJ hs ha (rp l+1) (Nat.le_refl _)
  rw [Nat.sub_self,Nat.mul_zero,aCL] at h2
  exact ⟨h1,h2⟩
 ·exact akM hs ha
end
section
variable {s:Int} (hs:ac s=true)
theorem aw8 (k:ab) (x:Gs hs):smG (Gd s k).nat x=smG k.nat x:=by
 rw [UA hs,show (ofP (pS (ay s 1)) k).nat=k.nat%pS (ay s 1) from cv (eP (bG hs)),wX hs]
theorem auG (l:List Tm):cy s (wN s l)=cy s l:=by
 unfold cy wN
 rw [List.all_map]
 rfl
theorem aFX (l:List Tm):lj (tG hs (wN s l))=lj (tG hs l):=by
 induction l with
 |nil=>rfl
 |cons t l ih=>
  show smG (Gd s t.1).nat (gp (aD hs) t.2)+lj (tG hs (wN s l))=smG t.1.nat (gp (aD hs) t.2)+lj (tG hs l)
  rw [ih,aw8 hs]
theorem It {l:List Tm} (ha:cy s l=true):onB s (AR s (wN s l))=true/\gp (aD hs) (AR s (wN s l))=lj (tG hs l):=by
 obtain ⟨h1,h2⟩:=aDl hs (l:=wN s l) (by rw [auG];exact ha)
 exact ⟨h1,h2.trans (aFX hs l)⟩
theorem sk (l r:List Tm):lj (tG hs (l++r))=lj (tG hs l)+lj (tG hs r):=by
 unfold tG
 rw [List.map_append,xX]
end
theorem OJ {p:ml} (h:(cU p==0)=true) (l:List ab) (b:ab) (hl:l.length<=p.2.2.1.length):ac p.1=true/\cy p.1 (SA p l b)=true:=by
 have hG:p.2.2.1.any (wQ p.1)=false/\wQ p.1 p.2.2.2.1=false/\ac p.1=true:=by
  unfold cU at h
  cases h1:ac p.1
  ·rw [h1] at h;cases h
  ·rw [h1] at h
   by_cases h2:p.2.1<0
   ·rw [ag h2] at h;cases h
   ·rw [bq h2] at h
    by_cases h3:5<p.2.1
    ·rw [ag h3] at h;cases h
    ·rw [bq h3] at h
     cases h4:(p.2.2.1.length:Int)==V0 1 p.2.1
     ·rw [h4] at h;cases h
     ·rw [h4] at h
      cases h5:p.2.2.1.any (wQ p.1)
      ·rw [h5] at h
       cases h6:wQ p.1 p.2.2.2.1
       ·exact ⟨rfl,rfl,rfl⟩
       ·rw [h6] at h;cases h
      ·rw [h5] at h;cases h
 obtain ⟨hG,hW,hs⟩:=hG
 have bad:∀ {P:Pt},wQ p.1 P=false->onB p.1 P=true:=λ{P} hb=>by
  unfold wQ at hb
  cases ho:onB p.1 P
  ·rw [ho] at hb;cases h2:P.2.2<;>rw [h2] at hb<;>cases hb
  ·rfl
 refine ⟨hs,?_⟩
 have go:∀ n,n<=l.length->cy p.1 (upto (rQ p.2.2.1 l) [(b,p.2.2.2.1)] n)=true:=by
  intro n
  induction n with
  |zero=>
   intro _
   show cy p.1 [(b,p.2.2.2.1)]=true
   unfold cy
   rw [aA,bad hW]
   rfl
  |succ n ih=>
   intro hn
   show cy p.1 (upto (rQ p.2.2.1 l) [(b,p.2.2.2.1)] n++ [_])=true
   have h1:=ih (by omega)
   unfold cy at h1⊢
   have hk:n<p.2.2.1.length:=by omega
   have e3:p.2.2.1.getD n jN=p.2.2.1[n]:=by rw [eZ,m9 hk];rfl
   have hb:wQ p.1 p.2.2.1[n]=false:=by
    have:=List.any_eq_false.1 hG _ (List.getElem_mem hk)
    simpa using this
   rw [List.all_append,h1,aA,e3,bad hb]
   rfl
 exact go _ (Nat.le_refl _)
section
variable {s:Int} (hs:ac s=true)
end
end
section
open Sx Go Lean.Grind
section
variable {p b:Nat} {c:Cur p b}
instance:Sub (Gp c):=⟨λx y=>x+ -y⟩
instance:AddCommGroup (Gp c) where
 add_zero:=oI
 add_comm:=WQ
 add_assoc:=acI
 neg_add_cancel x:=(WQ _ _).trans (aIa x)
 sub_eq_add_neg _ _:=rfl
end
section
variable {s:Int} (hs:ac s=true)
noncomputable instance:IntModule (Gs hs) where
 nsmul:=⟨smG⟩
 zsmul:=⟨λn x=>smG (n%(pS (ay s 1):Int)).toNat x⟩
 zero_zsmul x:=(wX hs 0 x).trans (aaC x)
 one_zsmul x:=(wX hs 1 x).trans (Us x)
 add_zsmul m n x:=by
  have hq:(pS (ay s 1):Int)≠0:=by have:=eP (bG hs);omega
  show smG ((m+n)%(pS (ay s 1):Int)).toNat x=smG (m%(pS (ay s 1):Int)).toNat x+smG (n%(pS (ay s 1):Int)).toNat x
  rw [<-Qg,<-wX hs (_+_),Int.add_emod]
  obtain ⟨a,ha⟩:=Int.eq_ofNat_of_zero_le (Int.emod_nonneg m hq)
  obtain ⟨b,hb⟩:=Int.eq_ofNat_of_zero_le (Int.emod_nonneg n hq)
  rw [ha,hb]
  rfl
 zsmul_natCast_eq_nsmul n x:=wX hs n x
abbrev Zs (s:Int):Type:=Fin (pS (ay s 1))
variable [NeZero (pS (ay s 1))]
noncomputable def mG:Ipa.Lin (Zs s) (Gs hs) where
 act a x:=smG a.val x
 oe a b x:=by rw [Fin.val_add,wX hs,Qg]
 rj a x y:=aAB _ x y
 ln a b x:=by rw [Fin.val_mul,wX hs,Qf]
 aqj x:=(wX hs 1 x).trans (Us x)
def sc (s:Int) [NeZero (pS (ay s 1))] (e:ab):Zs s:=Fin.ofNat _ e.nat
theorem ry (e:ab) (x:Gs hs):(mG hs).act (sc s e) x=smG e.nat x:=wX hs _ x
include hs in
theorem ru (x y:ab):sc s (dv (pS (ay s 1)) x y)=sc s x+sc s y:=by
 unfold sc
 rw [show (dv (pS (ay s 1)) x y).nat=(x.nat+y.nat)%pS (ay s 1) from cv (eP (bG hs))]
 refine Fin.ext ?_
 simp only [Fin.val_ofNat,Fin.val_add,Nat.mod_mod,Nat.add_mod]
include hs in
theorem mw (x y:ab):sc s (aR (pS (ay s 1)) x y)=sc s x*sc s y:=by
 unfold sc
 rw [show (aR (pS (ay s 1)) x y).nat=x.nat*y.nat%pS (ay s 1) from cv (eP (bG hs))]
 refine Fin.ext ?_
 simp only [Fin.val_ofNat,Fin.val_mul,Nat.mod_mod,<-Nat.mul_mod]
end
end
section
open Sx Go
set_option maxRecDepth 100000
def shB (b:UInt8) (k:Int):UInt64:=cE (UInt8.toUInt64 b) k
def an9 (b0 b1 b2 b3 b4 b5 b6 b7:UInt8):UInt64:=(((((((0|||shB b0 0)|||shB b1 8)|||shB b2 16)|||shB b3 24)|||shB b4 32)|||shB b5 40)|||shB b6 48)|||shB b7 56
theorem aDs (b:UInt8) {k:Nat} (hk:k<8):(shB b ((8*k:Nat):Int)).toNat=b.toNat*2^(8*k):=by
 have hb:=b.toNat_lt
 have h:=Ig (UInt8.toUInt64 b) ((8*k:Nat):Int) (by omega)
 unfold shB
 have e1:(UInt8.toUInt64 b).toNat=b.toNat:=rfl
 rw [e1,cD,show min (8*k) 64=8*k by omega] at h
 have hlt:b.toNat*2^(8*k)<18446744073709551616:=by
  have h1:2^(8*k)<=2^56:=Nat.pow_le_pow_right (by decide) (by omega)
  have h2:=Nat.mul_le_mul (show b.toNat<=255 by omega) h1
  have:255*2^56<18446744073709551616:=by decide
  omega
 have h2:((b.toNat*2^(8*k):Nat):Int)%18446744073709551616=((cE (UInt8.toUInt64 b) ((8*k:Nat):Int)).toNat:Int):=by
  rw [<-h,Int.natCast_mul,Int.natCast_pow]
  rfl
 omega
theorem aGa {x:Nat} {b:UInt8} {k:Nat} (hx:x<2^(8*k)):x|||(b.toNat*2^(8*k))=x+b.toNat*2^(8*k):=by
 rw [Nat.or_comm,<-Nat.shiftLeft_eq,<-Nat.shiftLeft_add_eq_or_of_lt hx b.toNat,Nat.add_comm]
theorem nD {w:UInt64} {b:UInt8} {n k:Nat} (hk:k<8) (hw:w.toNat=n) (hn:n<2^(8*k)):(w|||shB b ((8*k:Nat):Int)).toNat=n+b.toNat*2^(8*k):=by
 rw [UInt64.toNat_or,aDs b hk,hw,aGa hn]
theorem aj4 (b0 b1 b2 b3 b4 b5 b6 b7:UInt8):(an9 b0 b1 b2 b3 b4 b5 b6 b7).toNat=
 b0.toNat+b1.toNat*256+b2.toNat*65536+b3.toNat*16777216+b4.toNat*4294967296+b5.toNat*1099511627776+b6.toNat*281474976710656+b7.toNat*72057594037927936:=by
 have h0:=b0.toNat_lt
 have h1:=b1.toNat_lt
 have h2:=b2.toNat_lt
 have h3:=b3.toNat_lt
 have h4:=b4.toNat_lt
 have h5:=b5.toNat_lt
 have h6:=b6.toNat_lt
 have h7:=b7.toNat_lt
 have s0:=nD (w:=0) (b:=b0) (n:=0) (k:=0) (by omega) rfl (by decide)
 have s1:=nD (b:=b1) (k:=1) (by omega) s0 (by simp;omega)
 have s2:=nD (b:=b2) (k:=2) (by omega) s1 (by simp;omega)
 have s3:=nD (b:=b3) (k:=3) (by omega) s2 (by simp;omega)
 have s4:=nD (b:=b4) (k:=4) (by omega) s3 (by simp;omega)
 have s5:=nD (b:=b5) (k:=5) (by omega) s4 (by simp;omega)
 have s6:=nD (b:=b6) (k:=6) (by omega) s5 (by simp;omega)
 have s7:=nD (b:=b7) (k:=7) (by omega) s6 (by simp;omega)
 refine s7.trans ?_
 simp
def EE (w:UInt64) (k:Nat):UInt8:=UInt64.toUInt8 (bE w ((8*k:Nat):Int))
theorem jH (w:UInt64) {k:Nat} (hk:k<8):(EE w k).toNat=w.toNat/2^(8*k)%256:=by
 have h:=Ic w ((8*k:Nat):Int) (by omega)
 unfold EE
 rw [cD,show min (8*k) 64=8*k by omega] at h
 have e:(bE w ((8*k:Nat):Int)).toNat=w.toNat/2^(8*k):=by
  have h2:((w.toNat:Int).fdiv (2^(8*k)))=((w.toNat/2^(8*k):Nat):Int):=by
   rw [Int.fdiv_eq_ediv_of_nonneg _ (by exact Int.pow_nonneg (by omega))]
   rw [Int.natCast_ediv,Int.natCast_pow]
   rfl
  rw [h2] at h
  exact (Int.ofNat_inj.1 h).symm
 rw [UInt64.toNat_toUInt8,e]
theorem aj1 (w:UInt64):an9 (EE w 0) (EE w 1) (EE w 2) (EE w 3) (EE w 4) (EE w 5) (EE w 6) (EE w 7)=w:=by
 apply UInt64.toNat_inj.1
 rw [aj4,jH w (by omega),jH w (by omega),jH w (by omega),jH w (by omega),jH w (by omega),jH w (by omega),jH w (by omega),jH w (by omega)]
 have:=w.toNat_lt
 simp
 omega
def gB (b:List UInt8) (k:Nat):UInt8:=b.getD k 0
def aj2 (b:List UInt8) (j:Nat):UInt64:=an9 (gB b j) (gB b (j+1)) (gB b (j+2)) (gB b (j+3)) (gB b (j+4)) (gB b (j+5)) (gB b (j+6)) (gB b (j+7))
theorem alx (b:List UInt8):NL b=⟨aj2 b 0,aj2 b 8,aj2 b 16,aj2 b 24⟩:=by kernel_rfl
theorem jB (e:ab) (q r:Nat) (hr:r<8):aGH e (8*q+r)=EE ((lst e).getD q 0) r:=by
 unfold aGH EE
 rw [show (8*q+r)/8=q by omega,show (8*q+r)%8=r by omega]
 rfl
theorem BL (e:ab) (k:Nat) (hk:k<32):gB (zH e) k=aGH e k:=by
 unfold gB
 rw [ay9,eZ,List.getElem?_map,List.getElem?_range hk]
 rfl
theorem Az (e:ab) (q:Nat) (hq:q<4):aj2 (zH e) (8*q)=(lst e).getD q 0:=by
 unfold aj2
 rw [BL e _ (by omega),BL e _ (by omega),BL e _ (by omega),BL e _ (by omega),BL e _ (by omega),BL e _ (by omega),BL e _ (by omega),BL e _ (by omega)]
 rw [show 8*q=8*q+0 from rfl,jB e q 0 (by omega),Nat.add_zero,jB e q 1 (by omega),jB e q 2 (by omega),jB e q 3 (by omega),jB e q 4 (by omega),jB e q 5 (by omega),jB e q 6 (by omega),jB e q 7 (by omega)]
 exact aj1 _
theorem aqo (e:ab):NL (zH e)=e:=by
 rw [alx]
 have h0:=Az e 0 (by omega)
 have h1:=Az e 1 (by omega)
 have h2:=Az e 2 (by omega)
 have h3:=Az e 3 (by omega)
 rw [show (0:Nat)=8*0 from rfl,h0,show (8:Nat)=8*1 from rfl,h1,show (16:Nat)=8*2 from rfl,h2,show (24:Nat)=8*3 from rfl,h3]
 rfl
theorem azC:∀ n:Fin 128,UInt8.ofNat n&&&127=UInt8.ofNat n/\(UInt8.ofNat n>>>7==0)=true/\(UInt8.ofNat n|||128)&&&127=UInt8.ofNat n/\((UInt8.ofNat n|||128)>>>7==0)=false:=by decide+kernel
theorem aCS (x:UInt8):UInt8.ofNat x.toNat=x:=UInt8.ofNat_toNat
theorem aue (x:UInt8) (h:x.toNat<128):x&&&127=x/\(x>>>7==0)=true/\(x|||128)&&&127=x/\((x|||128)>>>7==0)=false:=by
 have:=azC ⟨x.toNat,h⟩
 rw [aCS] at this
 exact this
theorem azu {e:ab} (h:e.nat<57896044618658097711785492504343953926634992332820282019728792003956564819968):((zH e).getD 31 0).toNat<128:=by
 have h1:(zH e).getD 31 0=EE ((lst e).getD 3 0) 7:=(BL e 31 (by omega)).trans (jB e 3 7 (by omega))
 rw [h1,jH _ (by omega)]
 have h2:((lst e).getD 3 0)=e.w3:=rfl
 rw [h2]
 have h3:e.w3.toNat<9223372036854775808:=by unfold Sx.ab.nat at h;omega
 have:e.w3.toNat/2^(8*7)<128:=by
  rw [show (2:Nat)^(8*7)=72057594037927936 from rfl]
  omega
 omega
theorem aqm (y:ab):(y.w0%2==1)=Nat.beq (y.nat%2) 1:=by
 have e:y.nat%2=y.w0.toNat%2:=by unfold Sx.ab.nat;omega
 rw [e]
 have h2:(y.w0%2).toNat=y.w0.toNat%2:=by rw [UInt64.toNat_mod];rfl
 rw [<-h2]
 by_cases h:y.w0%2=1
 ·rw [h];rfl
 ·have hn:¬(y.w0%2).toNat=1:=λe=>h (UInt64.toNat_inj.1 e)
  have:Nat.beq (y.w0%2).toNat 1=false:=by
   cases hb:Nat.beq (y.w0%2).toNat 1
   ·rfl
   ·exact absurd (aY hb) hn
  rw [this]
  simpa using h
theorem ayw {b:List UInt8} (h:b.length=32) (x:UInt8):(b.set 31 x).getD 31 0=x:=by
 rw [eZ,List.getElem?_set_self (by omega)]
 rfl
theorem agi {b:List UInt8} (h:b.length=32):b.set 31 (b.getD 31 0)=b:=by
 rw [eZ,m9 (by omega)]
 exact List.set_getElem_self _
theorem aw6 {e:ab} (h:e.nat<57896044618658097711785492504343953926634992332820282019728792003956564819968) (y:ab):(sr (zH e) y).length=32/\agy (sr (zH e) y)=e/\Vy (sr (zH e) y)=Nat.beq (y.nat%2) 1:=by
 have hl:=kf e
 have ht:=aue _ (azu h)
 have hn:=aqo e
 generalize zH e=B at*
 refine ⟨(cu ..).trans hl,?_⟩
 rcases (b9 (y.w0%2==1)).symm with hy|hy
 ·rw [apm hy hl,<-aqm,hy]
  unfold agy Vy
  rw [ht.1,agi hl,ht.2.1]
  exact ⟨hn,rfl⟩
 ·rw [aw5 hy,<-aqm,hy]
  unfold agy Vy
  rw [ayw hl,ht.2.2.1,ht.2.2.2,List.set_set,agi hl]
  exact ⟨hn,rfl⟩
theorem axE {p:Nat} {e:ab} (h:e.nat<p):ofP p e=e:=by
 unfold ofP
 rw [bn h,Bi]
section
variable {s:Int} (hs:ac s=true)
include hs
theorem aDR {X Y:ab} (h:onB s (X,Y,false)=true):sqB s X=true/\bC X=false/\ptD s X (Nat.beq (Y.nat%2) 1)=(X,Y,false):=by
 have k:=Ia hs
 have hp:=k.sm
 have pr:=k.pr
 have ho:=k.o2
 obtain ⟨hx,hy,hv⟩:=(aAN hs).1 h
 have hA:=(aF0 hs X).1
 have hz:=aw3 hs X
 have hy0:Y.nat≠0:=λe=>hz (by rw [<-hv,e,Nat.zero_mul,Nat.zero_mod])
 have hq:sqB s X=true:=by
  unfold sqB
  rw [zG,jQ hp pr.1,k.hf,<-hv,gL,<-Nat.pow_two,<-Nat.pow_mul,show 2*((pS s-1)/2)=pS s-1 by omega,FL pr (lJ (by omega) hy)]
  rfl
 refine ⟨hq,?_,?_⟩
 ·rcases (b9 (bC X)).symm with h0|h0
  ·exact h0
  ·rw [zero_eq h0,af0 hs] at hq
   cases hq
 ·obtain ⟨r1,r2,r3⟩:=aFY hs hq
  rw [bn hA] at r3
  have r0:(sqY s X).nat≠0:=λe=>hz (by rw [<-r3,e,Nat.zero_mul,Nat.zero_mod])
  unfold ptD
  rcases (show Y.nat%2=0\/Y.nat%2=1 by omega) with hm|hm
  ·rw [hm]
   have:sqY s X=Y:=gI (KS pr ho r1 hy r2 hm (r3.trans hv.symm))
   rw [<-this]
   rfl
  ·rw [hm]
   have e:(sqY s X).nat=pS s-Y.nat:=KS pr ho r1 (by omega) r2 (by omega) (by rw [r3,alA hy,hv])
   have:lf (pS s) (sqY s X)=Y:=gI (by rw [aGj hs r1 r0,e];omega)
   rw [<-this]
   rfl
theorem aEi:jO s aM=List.replicate 32 0/\onB s aM=true:=by
 rcases cb hs with rfl|rfl|rfl|rfl<;>decide+kernel
theorem aEj:Tt s (List.replicate 32 0)=(aM,0):=by
 rcases cb hs with rfl|rfl|rfl|rfl<;>kernel_rfl
end
theorem aEN {s:Int} {P:Pt} (h:onB s P=true):jO s P=sr (zH (ofP (pS s) P.1)) P.2.1:=by
 unfold jO
 rw [h,aK]
theorem as0 {s:Int} {P:Pt} {X Y:ab} (h:onB s P=true) (hX:P.1=X) (hY:P.2.1=Y) (hx:X.nat<pS s):jO s P=sr (zH X) Y:=by
 rw [aEN h,hX,hY,axE hx]
section
variable {s:Int} {b:List UInt8} {N:ab} {o:Bool} (hs:ac s=true) (hl:nh b=true) (hN:agy b=N) (hb:Nat.blt N.nat (pS s)=true)
include hs hl hN hb
theorem as9 (ho:Vy b=o) (hz:bC N=false) (hq:sqB s N=true):Tt s b=(ptD s N o,0):=by
 unfold Tt
 simp only [hs,hl,hN,hb,ho,hz,hq,aK,aT]
end
theorem aEX {s:Int} {P:Pt} (h:onB s P=true):Tt s (jO s P)=(P,0)/\(jO s P).length=32:=by
 have hs:=vt h
 have hp:Sm (pS s):=eP hs
 obtain ⟨X,Y,i⟩:=P
 cases i
 ·obtain ⟨hx,hy,hv⟩:=(aAN hs).1 h
  obtain ⟨g1,g2,g3⟩:=aDR hs h
  obtain ⟨l1,l2,l3⟩:=aw6 (Nat.lt_trans hx hp.2) Y
  have e:jO s (X,Y,false)=sr (zH X) Y:=as0 h rfl rfl hx
  rw [e]
  exact ⟨(as9 hs (sZ.2 l1) l2 (jW hx) l3 g2 g1).trans (by rw [g3]),l1⟩
 ·have e:((X,Y,true):Pt)=aM:=by
   unfold onB at h
   rw [hs] at h
   simp only [aK,aw] at h
   rw [zero_eq h.1,zero_eq h.2.1]
   rfl
  rw [e,(aEi hs).1]
  exact ⟨aEj hs,rfl⟩
theorem Kg {c:Int} {P:Pt} (h:onB c P=true) (m:List UInt8):dB c (jO c P++m)=((P,0),m):=by
 obtain ⟨h1,h2⟩:=aEX h
 generalize jO c P=B at*
 unfold dB
 have e1:(B++m).take 32=B:=by rw [<-h2,List.take_left]
 have e2:(B++m).drop 32=m:=by rw [<-h2,List.drop_left]
 rw [e1,e2,bq (by rw [bL,h2];omega),h1]
 rfl
theorem WG {c:Int} (hs:ac (ay c 1)=true) (v:ab) (m:List UInt8):dR (ay c 1) (lG c v++m)=((ofP (pS (ay c 1)) v,0),m):=by
 have h2:(lG c v).length=32:=Ff c v
 have h1:avU (ay c 1) (lG c v)=(ofP (pS (ay c 1)) v,0):=by
  have hn:NL (lG c v)=ofP (pS (ay c 1)) v:=aqo (ofP (pS (ay c 1)) v)
  have hp:=eP hs
  have hl:(ofP (pS (ay c 1)) v).nat<pS (ay c 1):=by
   rw [show (ofP (pS (ay c 1)) v).nat=v.nat%pS (ay c 1) from cv hp]
   exact Nat.mod_lt _ hp.1
  have hb:Nat.blt (ofP (pS (ay c 1)) v).nat (pS (ay c 1))=true:=jW hl
  unfold avU
  rw [hs,sZ.2 h2,hn,hb]
  rfl
 generalize lG c v=B at*
 unfold dR
 have e1:(B++m).take 32=B:=by rw [<-h2,List.take_left]
 have e2:(B++m).drop 32=m:=by rw [<-h2,List.drop_left]
 rw [e1,e2,bq (by rw [bL,h2];omega),h1]
 rfl
def rU (s:Int) (q:CH):ab:=dv (pS s) (ao q.2.1).1 ⟨0,0,0,0⟩
def rL (q:CH):Pt:=avS q.1 (ao q.2.2.1).1
def rR (q:CH):Pt:=RL q.1 (ao (ao q.2.2.1).2.2).1
theorem sA {c s:Int} {q:CH} (h:((bo c s q).1==0)=true):((ao q.2.1).2.1==0)=true/\bC (rU s q)=false/\
 bo c s q=(0,(QU q.1 (rU s q) (ao q.2.2.1).1 (ao (ao q.2.2.1).2.2).1,((ao q.2.1).2.2,((ao (ao q.2.2.1).2.2).2.2,q.2.2.2++jO c (rL q)++jO c (rR q))))):=by
 unfold bo at h⊢
 cases e1:(ao q.2.2.1).2.1==0
 ·rw [e1,aT,e1] at h;cases h
 rw [e1,aK] at h
 cases e2:(ao (ao q.2.2.1).2.2).2.1==0
 ·rw [e2,aT,e2] at h;cases h
 rw [e2,aK] at h
 cases e3:(ao q.2.1).2.1==0
 ·rw [e3,aT,e3] at h;cases h
 rw [e3,aK] at h
 cases e4:bC (dv (pS s) (ao q.2.1).1 ⟨0,0,0,0⟩)
 ·exact ⟨rfl,e4,rfl⟩
 ·rw [e4,aK] at h;cases h
abbrev avX:Type:=ab×(List ab×List Tm)
def avW (s:Int) (x:ab) (k:Int) (q:CH) (w:avX):avX:=
 (aR (pS s) w.1 (dv (pS s) ⟨1,0,0,0⟩ (aR (pS s) (rU s q) (lv (pS s) x ⟨cE 1 k,0,0,0⟩))),(w.2.1++ [rU s q],w.2.2++ [(CO (pS s) (rU s q),rL q),(rU s q,rR q)]))
theorem aaN {c s:Int} {q:CH} (h:((bo c s q).1==0)=true) (hl:onB c (rL q)=true) (hr:onB c (rR q)=true) (x:ab) (k:Int) (m:List UInt8) (w:avX):
 ca s c x k (jO c (rL q)++(jO c (rR q)++m),(q.2.1,w))=(0,(m,((ao q.2.1).2.2,avW s x k q w))):=by
 obtain ⟨h1,h2,_⟩:=sA h
 unfold ca
 have e1:=Kg hl (jO c (rR q)++m)
 have e2:=Kg hr m
 dsimp only
 rw [e1]
 dsimp only
 rw [e2,h1,show bC (dv (pS s) (ao q.2.1).1 ⟨0,0,0,0⟩)=false from h2]
 rfl
def Gq (c s:Int) (x:ab):Nat->CH->avX->avX
 |0,_,w=>w
 |n+1,q,w=>Gq c s x n (bo c s q).2 (avW s x (n:Int) q w)
theorem Fi {c s:Int} (x:ab):∀ (n:Nat) (q:CH),fa c s n q=true->((aX c s n q).1==0)=true->q.1.2.2.2.1.length=2^n->
 ∃ W,(aX c s n q).2.2.2.2=q.2.2.2++W/\∀ m w,dV s c x n (W++m,(q.2.1,w))=(0,(m,((aX c s n q).2.2.1,Gq c s x n q w)))
 |0,q,_,_,_=>⟨[],(List.append_nil _).symm,λm w=>rfl⟩
 |n+1,q,hok,h,hn=>by
  have h1:1<q.1.2.2.2.1.length:=by rw [hn,Nat.pow_succ];have:=Nat.two_pow_pos n;omega
  unfold fa at hok
  rw [ag h1,aK,aw] at hok
  unfold aX at h⊢
  rw [ag h1,aK] at h⊢
  cases h2:(bo c s q).1==0
  ·rw [h2,aT,h2] at h;cases h
  rw [h2,aK] at h hok
  rw [aK]
  have hro:=hok.1
  unfold pI at hro
  simp only [aw] at hro
  obtain ⟨_,_,_,_,_,_,hl,hr⟩:=hro
  obtain ⟨_,_,e⟩:=sA h2
  obtain ⟨W,hW,hv⟩:=Fi x n (bo c s q).2 hok.2 h (by
   rw [e]
   show (qC _ q.1.2.2.2.1 _).length=_
   rw [BU,hn,Nat.pow_succ,Nat.mul_div_cancel _ (by decide)])
  refine ⟨jO c (rL q)++(jO c (rR q)++W),?_,λm w=> ?_⟩
  ·rw [hW,e]
   simp only [List.append_assoc]
  ·have e3:=aaN h2 hl hr x (n:Int) (W++m) w
   unfold dV
   simp only [List.append_assoc]
   rw [e3]
   show dV s c x n (W++m,((ao q.2.1).2.2,avW s x (n:Int) q w))=_
   rw [show (ao q.2.1).2.2=(bo c s q).2.2.1 by rw [e],hv]
   rfl
end
section
open Sx Go Lean.Grind
theorem Gx {α:Type} (f:Nat->α) (l:List α):∀ n,n<=l.length->upto (λi (o:List α)=>o.set i (f i)) l n=(List.range n).map f++l.drop n
 |0,_=>rfl
 |n+1,h=>by
  show List.set (upto _ l n) n (f n)=_
  rw [Gx f l n (by omega),List.set_append_right _ _ (by rw [List.length_map,List.length_range];omega),List.length_map,List.length_range,Nat.sub_self,m8 (by omega:n<l.length),List.set_cons_zero,List.range_succ,List.map_append,List.append_assoc]
  rfl
theorem ase (m:Nat) (a:List ab) (k:ab):qC m a k=(List.range (a.length/2)).map λi=>dv m (a.getD i ⟨0,0,0,0⟩) (aR m k (a.getD (a.length/2+i) ⟨0,0,0,0⟩)):=by
 unfold qC
 refine (Gx (λi=>dv m (a.getD i ⟨0,0,0,0⟩) (aR m k (a.getD (a.length/2+i) ⟨0,0,0,0⟩))) _ _ (by rw [fM];exact Nat.le_refl _)).trans ?_
 rw [List.drop_of_length_le (by rw [fM];exact Nat.le_refl _),List.append_nil]
theorem ays (c:Int) (g:List Pt) (u:ab) (h:Nat):D8 c g u h (List.replicate h jN)=(List.range h).map λi=>fT c (g.getD i jN) (pW c u (g.getD (h+i) jN)):=by
 unfold D8
 refine (Gx (λi=>fT c (g.getD i jN) (pW c u (g.getD (h+i) jN))) _ _ (by rw [fM];exact Nat.le_refl _)).trans ?_
 rw [List.drop_of_length_le (by rw [fM];exact Nat.le_refl _),List.append_nil]
section
variable {R M:Type} [CommRing R] [IntModule M] (L:Ipa.Lin R M)
theorem W6 (k:R):∀ {h:Nat} {a b:List R},a.length=h->b.length=h->Ipa.fol k a b=(List.range h).map λi=>a.getD i 0+k*b.getD i 0
 |0,[],[],_,_=>rfl
 |h+1,x::a,y::b,h1,h2=>by
  rw [Ipa.fol,W6 k (Nat.succ.inj h1) (Nat.succ.inj h2),List.range_succ_eq_map,List.map_cons,List.map_map]
  rfl
theorem Om (k:R):∀ {h:Nat} {a b:List M},a.length=h->b.length=h->Ipa.asf L k a b=(List.range h).map λi=>a.getD i 0+L.act k (b.getD i 0)
 |0,[],[],_,_=>rfl
 |h+1,x::a,y::b,h1,h2=>by
  rw [Ipa.asf,Om k (Nat.succ.inj h1) (Nat.succ.inj h2),List.range_succ_eq_map,List.map_cons,List.map_map]
  rfl
end
section
variable {s:Int} (hs:ac s=true) [NeZero (pS (ay s 1))]
theorem getD_map {α β:Type} (f:α->β) (l:List α) (i:Nat) (d:α) (e:β) (h:i<l.length):(l.map f).getD i e=f (l.getD i d):=by
 rw [iy (by rw [List.length_map];exact h),iy h,List.getElem_map]
theorem Of {α:Type} (l:List α) (i h:Nat) (d:α) (hi:i<h):(l.take h).getD i d=l.getD i d:=by
 rw [eZ,eZ,List.getElem?_take_of_lt hi]
theorem Og {α:Type} (l:List α) (i h:Nat) (d:α):(l.drop h).getD i d=l.getD (h+i) d:=by
 rw [eZ,eZ,List.getElem?_drop]
include hs in
theorem acT {a:List ab} {h:Nat} (ha:a.length=2*h) (k:ab):(qC (pS (ay s 1)) a k).map (sc s)=Ipa.fol (sc s k) ((a.take h).map (sc s)) ((a.drop h).map (sc s)):=by
 rw [ase,W6 (h:=h) _ (by rw [List.length_map,bM];omega) (by rw [List.length_map,ck];omega),List.map_map,show a.length/2=h by omega]
 refine List.map_congr_left λi hi=> ?_
 have hi:=List.mem_range.1 hi
 rw [getD_map (sc s) (a.take h) i ⟨0,0,0,0⟩ 0 (by rw [bM];omega),getD_map (sc s) (a.drop h) i ⟨0,0,0,0⟩ 0 (by rw [ck];omega),Of _ _ _ _ hi,Og,<-mw hs,<-ru hs]
 rfl
theorem Kk {g:List Pt} {h:Nat} (hg:g.length=2*h) (ho:(g.all λP=>onB s P)=true) (u:ab):
 ((D8 s g u h (List.replicate h jN)).all λP=>onB s P)=true/\(D8 s g u h (List.replicate h jN)).map (gp (aD hs))=Ipa.asf (mG hs) (sc s u) ((g.take h).map (gp (aD hs))) ((g.drop h).map (gp (aD hs))):=by
 have on:∀ i,i<g.length->onB s (g.getD i jN)=true:=λi hi=>by
  rw [iy hi];exact List.all_eq_true.1 ho _ (List.getElem_mem hi)
 rw [ays]
 refine ⟨?_,?_⟩
 ·rw [List.all_map,fZ]
  intro i hi
  have hi:=List.mem_range.1 hi
  exact (nV (on i (by omega)) (GR u (on (h+i) (by omega))).2).2
 ·rw [Om (h:=h) _ _ (by rw [List.length_map,bM];omega) (by rw [List.length_map,ck];omega),List.map_map]
  refine List.map_congr_left λi hi=> ?_
  have hi:=List.mem_range.1 hi
  rw [getD_map (gp (aD hs)) (g.take h) i jN 0 (by rw [bM];omega),getD_map (gp (aD hs)) (g.drop h) i jN 0 (by rw [ck];omega),Of _ _ _ _ hi,Og,ry,<-aA0 hs u (on (h+i) (by omega))]
  exact Km hs (on i (by omega)) (GR u (on (h+i) (by omega))).2
end
end
section
open Sx Go Lean.Grind
theorem uU {α:Type} (f:Nat->α) (l:List α):∀ n,upto (λi (o:List α)=>o++ [f i]) l n=l++(List.range n).map f
 |0=>(List.append_nil l).symm
 |n+1=>by
  show upto _ l n++ [f n]=_
  rw [uU f l n,List.range_succ,List.map_append,List.append_assoc]
  rfl
theorem rV {a:List ab} {g:List Pt} (h:a.length<=g.length):((List.range a.length).map λi=>(a.getD i ⟨0,0,0,0⟩,g.getD i jN))=a.zip g:=by
 refine List.ext_getElem (by rw [List.length_map,List.length_range,List.length_zip];omega) λi h1 h2=> ?_
 rw [List.length_map,List.length_range] at h1
 rw [List.getElem_map,List.getElem_range,List.getElem_zip,iy h1,iy (by omega:i<g.length)]
section
variable {s:Int} (hs:ac s=true) [NeZero (pS (ay s 1))]
theorem Sp:∀ (a:List ab) (g:List Pt),lj (tG hs (a.zip g))=Ipa.dot (mG hs) (a.map (sc s)) (g.map (gp (aD hs)))
 | [],_=>rfl
 |_::_,[]=>rfl
 |x::a,P::g=>by
  show smG x.nat (gp (aD hs) P)+lj (tG hs (a.zip g))=_
  rw [Sp a g,<-ry]
  rfl
include hs in
theorem aAV {a b:List ab} (h:a.length<=b.length):∀ n,n<=a.length->sc s (upto (aEg (pS (ay s 1)) a b) gW n)=Ipa.inn ((a.take n).map (sc s)) ((b.take n).map (sc s))
 |0,_=>by
  rw [List.take_zero,List.take_zero]
  exact Fin.ext (Nat.zero_mod _)
 |n+1,hn=>by
  show sc s (dv _ (upto _ gW n) (aR _ (a.getD n ⟨0,0,0,0⟩) (b.getD n ⟨0,0,0,0⟩)))=_
  rw [ru hs,mw hs,aAV h n (by omega),List.take_succ_eq_append_getElem (by omega:n<a.length),List.take_succ_eq_append_getElem (by omega:n<b.length),List.map_append,List.map_append,
   Ipa.DZ (by rw [List.length_map,List.length_map,bM,bM];omega),iy (by omega:n<a.length),iy (by omega:n<b.length)]
  show _=_+(sc s a[n]*sc s b[n]+0)
  grind
theorem GD {o:wR} (h1:o.2.1=ay s 1) (h2:o.1.1=s) {a b:List ab} {g:List Pt} {r:ab} (hb:b.length=a.length) (hg:g.length=a.length) (ha:cy s (AX o a b g r)=true):
 onB s (Ql o a b g r)=true/\gp (aD hs) (Ql o a b g r)=Ipa.val (mG hs) (sc s o.2.2.1) (gp (aD hs) o.1.2.2.2.2) (gp (aD hs) o.1.2.2.2.1) (a.map (sc s)) (b.map (sc s)) (g.map (gp (aD hs))) (sc s r):=by
 have e:AX o a b g r= [(aR (pS (ay s 1)) (aEh (pS (ay s 1)) a b) o.2.2.1,o.1.2.2.2.2),(r,o.1.2.2.2.1)]++a.zip g:=by
  unfold AX
  rw [h1,<-rV (show a.length<=g.length by omega)]
  exact uU (λi=>(a.getD i ⟨0,0,0,0⟩,g.getD i jN)) _ _
 obtain ⟨k1,k2⟩:=It hs ha
 unfold Ql
 rw [h2]
 refine ⟨k1,k2.trans ?_⟩
 have i1:=aAV hs (show a.length<=b.length by omega) a.length (Nat.le_refl _)
 rw [List.take_length,List.take_of_length_le (by omega)] at i1
 rw [e,sk,Sp]
 show smG _ _+(smG _ _+0)+_=_
 unfold Ipa.val
 rw [<-i1,<-ry hs,<-ry hs,mw hs]
 unfold aEh
 rw [oI]
 exact (WQ _ _).trans (acI _ _ _).symm
end
end
section
open Sx Go Lean.Grind
section
variable {s:Int} (hs:ac s=true) [NeZero (pS (ay s 1))]
noncomputable def vO (o:wR):Gs hs:=Ipa.val (mG hs) (sc s o.2.2.1) (gp (aD hs) o.1.2.2.2.2) (gp (aD hs) o.1.2.2.2.1) (o.2.2.2.1.map (sc s)) (o.2.2.2.2.1.map (sc s)) (o.2.2.2.2.2.1.map (gp (aD hs))) (sc s o.2.2.2.2.2.2)
theorem axI {o:wR} {h:Nat} (h1:o.2.1=ay s 1) (h2:o.1.1=s) (ha:o.2.2.2.1.length=2*h) (hb:o.2.2.2.2.1.length=2*h) (hg:o.2.2.2.2.2.1.length=2*h) (ho:(o.2.2.2.2.2.1.all λP=>onB s P)=true) (u l r:ab)
 (hu:sc s u*sc s (CO (pS (ay s 1)) u)=1) (hL:cy s (aHr o l)=true) (hR:cy s (ayq o r)=true):
 vO hs (QU o u l r)=vO hs o+(mG hs).act (sc s (CO (pS (ay s 1)) u)) (gp (aD hs) (avS o l))+(mG hs).act (sc s u) (gp (aD hs) (RL o r)):=by
 have eh:o.2.2.2.1.length/2=h:=by omega
 unfold aHr at hL
 unfold ayq at hR
 unfold avS RL
 rw [eh] at hL hR⊢
 have v1:=(GD hs h1 h2 (by rw [bM,ck];omega) (by rw [bM,ck];omega) hL).2
 have v2:=(GD hs h1 h2 (by rw [bM,ck];omega) (by rw [bM,ck];omega) hR).2
 rw [v1,v2]
 have c1:=acT hs ha (CO (pS (ay s 1)) u)
 have c2:=acT hs hb u
 have c3:=(Kk hs hg ho u).2
 have e1:vO hs (QU o u l r)=Ipa.val (mG hs) (sc s o.2.2.1) (gp (aD hs) o.1.2.2.2.2) (gp (aD hs) o.1.2.2.2.1) ((qC (pS (ay s 1)) o.2.2.2.1 (CO (pS (ay s 1)) u)).map (sc s)) ((qC (pS (ay s 1)) o.2.2.2.2.1 u).map (sc s)) ((D8 s o.2.2.2.2.2.1 u h (List.replicate h jN)).map (gp (aD hs)))
  (sc s (dv (pS (ay s 1)) o.2.2.2.2.2.2 (dv (pS (ay s 1)) (aR (pS (ay s 1)) (CO (pS (ay s 1)) u) l) (aR (pS (ay s 1)) u r)))):=by
  unfold vO QU
  rw [eh,h1,h2]
 rw [e1,c1,c2,c3,ru hs,ru hs,mw hs,mw hs]
 have key:=Ipa.aoo (mG hs) (sc s u) (sc s (CO (pS (ay s 1)) u)) (sc s o.2.2.1) hu (gp (aD hs) o.1.2.2.2.2) (gp (aD hs) o.1.2.2.2.1) (a0:=(o.2.2.2.1.take h).map (sc s)) (a1:=(o.2.2.2.1.drop h).map (sc s)) (b0:=(o.2.2.2.2.1.take h).map (sc s)) (b1:=(o.2.2.2.2.1.drop h).map (sc s))
  (g0:=(o.2.2.2.2.2.1.take h).map (gp (aD hs))) (g1:=(o.2.2.2.2.2.1.drop h).map (gp (aD hs))) (sc s o.2.2.2.2.2.2) (sc s l) (sc s r)
  (by simp only [List.length_map,bM,ck];omega) (by simp only [List.length_map,bM,ck];omega) (by simp only [List.length_map,bM,ck];omega) (by simp only [List.length_map,bM,ck];omega) (by simp only [List.length_map,bM,ck];omega)
 rw [<-List.map_append,<-List.map_append,<-List.map_append,List.take_append_drop,List.take_append_drop,List.take_append_drop] at key
 exact key
end
end
section
open Sx Go
set_option maxRecDepth 100000
section
variable {s:Int} (hs:ac s=true) [NeZero (pS (ay s 1))]
theorem Nf (hinv:∀ v:ab,bC (dv (pS (ay s 1)) v ⟨0,0,0,0⟩)=false->sc s (dv (pS (ay s 1)) v ⟨0,0,0,0⟩)*sc s (CO (pS (ay s 1)) (dv (pS (ay s 1)) v ⟨0,0,0,0⟩))=1) (x:ab):
 ∀ (n:Nat) (q:CH) (w:avX),fa s (ay s 1) n q=true->((aX s (ay s 1) n q).1==0)=true->q.1.2.2.2.1.length=2^n->q.1.1.1=s->(q.1.2.2.2.2.2.1.all λP=>onB s P)=true->
  lj (tG hs (Gq s (ay s 1) x n q w).2.2)+vO hs q.1=lj (tG hs w.2.2)+vO hs (aX s (ay s 1) n q).2.1
 |0,q,w,_,_,_,_,_=>rfl
 |n+1,q,w,hok,h,hn,hc,hg=>by
  have h1:1<q.1.2.2.2.1.length:=by rw [hn,Nat.pow_succ];have:=Nat.two_pow_pos n;omega
  unfold fa at hok
  rw [ag h1,aK,aw] at hok
  unfold aX at h⊢
  rw [ag h1,aK] at h⊢
  cases h2:(bo s (ay s 1) q).1==0
  ·rw [h2,aT,h2] at h;cases h
  rw [h2,aK] at h hok
  rw [aK]
  have hro:=hok.1
  unfold pI at hro
  simp only [aw] at hro
  obtain ⟨hL,_,_,hso,tl,th,_,_⟩:=hro
  obtain ⟨l1,l2,_,_⟩:=_root_.of_decide_eq_true hL
  obtain ⟨_,hz,e⟩:=sA h2
  have hso:=eq_of_beq hso
  rw [hc] at tl th
  have hh:q.1.2.2.2.1.length=2*2^n:=by rw [hn,Nat.pow_succ];omega
  have hv:=axI hs (h:=2^n) hso hc hh (by omega) (by omega) hg (rU (ay s 1) q) (ao q.2.2.1).1 (ao (ao q.2.2.1).2.2).1 (hinv _ hz) tl th
  have ih:=Nf hinv x n (bo s (ay s 1) q).2 (avW (ay s 1) x (n:Int) q w) hok.2 h (by
   rw [e]
   show (qC _ q.1.2.2.2.1 _).length=_
   rw [BU,hh,Nat.mul_div_cancel_left _ (by decide)]) (by rw [e];exact hc) (by
   rw [e]
   show ((D8 q.1.1.1 q.1.2.2.2.2.2.1 (rU (ay s 1) q) (q.1.2.2.2.1.length/2) (List.replicate (q.1.2.2.2.1.length/2) jN)).all λP=>onB s P)=true
   rw [hc,show q.1.2.2.2.1.length/2=2^n by omega]
   exact (Kk hs (by omega) hg _).1)
  have e2:(bo s (ay s 1) q).2.1=QU q.1 (rU (ay s 1) q) (ao q.2.2.1).1 (ao (ao q.2.2.1).2.2).1:=by rw [e]
  have e3:lj (tG hs (avW (ay s 1) x (n:Int) q w).2.2)=lj (tG hs w.2.2)+(smG (CO (pS (ay s 1)) (rU (ay s 1) q)).nat (gp (aD hs) (rL q))+(smG (rU (ay s 1) q).nat (gp (aD hs) (rR q))+0)):=sk hs _ _
  rw [e2,hv] at ih
  rw [e3,<-ry hs,<-ry hs,oI] at ih
  show lj (tG hs (Gq s (ay s 1) x n (bo s (ay s 1) q).2 (avW (ay s 1) x (n:Int) q w)).2.2)+vO hs q.1=_
  generalize lj (tG hs (Gq s (ay s 1) x n (bo s (ay s 1) q).2 (avW (ay s 1) x (n:Int) q w)).2.2)=A at*
  generalize vO hs q.1=B at*
  generalize lj (tG hs w.2.2)=C at*
  generalize vO hs (aX s (ay s 1) n (bo s (ay s 1) q).2).2.1=D at*
  have ih:A+(B+(mG hs).act (sc s (CO (pS (ay s 1)) (rU (ay s 1) q))) (gp (aD hs) (rL q))+(mG hs).act (sc s (rU (ay s 1) q)) (gp (aD hs) (rR q)))=C+((mG hs).act (sc s (CO (pS (ay s 1)) (rU (ay s 1) q))) (gp (aD hs) (rL q))+(mG hs).act (sc s (rU (ay s 1) q)) (gp (aD hs) (rR q)))+D:=ih
  generalize (mG hs).act (sc s (CO (pS (ay s 1)) (rU (ay s 1) q))) (gp (aD hs) (rL q))=E at*
  generalize (mG hs).act (sc s (rU (ay s 1) q)) (gp (aD hs) (rR q))=F at*
  refine ahn (x:=E+F) ?_
  calc E+F+(A+B)=A+(B+E+F):=by ac_rfl
   _=C+(E+F)+D:=ih
   _=E+F+(C+D):=by ac_rfl
end
theorem aGs {s:Int} (hs:ac s=true) [NeZero (pS (ay s 1))] (pr:Pr (pS (ay s 1))) (v:ab) (hz:bC (dv (pS (ay s 1)) v ⟨0,0,0,0⟩)=false):
 sc s (dv (pS (ay s 1)) v ⟨0,0,0,0⟩)*sc s (CO (pS (ay s 1)) (dv (pS (ay s 1)) v ⟨0,0,0,0⟩))=1:=by
 have hp:=eP (bG hs)
 have hl:=Ad (aaA (bG hs)) v ⟨0,0,0,0⟩
 generalize dv (pS (ay s 1)) v ⟨0,0,0,0⟩=u at*
 have h2:=pr.1
 have h0:¬pS (ay s 1)∣u.nat:=λh=>by
  have h1:u.nat≠0:=λe=>by rw [dI,e] at hz;cases hz
  have:=Nat.le_of_dvd (by omega) h
  omega
 have e2:(CO (pS (ay s 1)) u).nat=u.nat^(pS (ay s 1)-2)%pS (ay s 1):=by
  unfold CO
  have hb:pS (ay s 1)-2<2^256:=by have:=hp.2;omega
  rw [IF 256 1 _ _ hb (by omega),Nat.one_mul,<-Nat.pow_mod]
  exact cv hp
 have hf:=FL pr h0
 refine Fin.ext ?_
 show (u.nat%pS (ay s 1))*((CO (pS (ay s 1)) u).nat%pS (ay s 1))%pS (ay s 1)=1%pS (ay s 1)
 rw [e2,<-Nat.mul_mod,Nat.mul_mod_mod]
 rw [show pS (ay s 1)-1=(pS (ay s 1)-2)+1 by omega,Nat.pow_succ,Nat.mul_comm] at hf
 rw [hf,bn (by omega)]
theorem axz {s:Int} (hs:ac s=true) (pr:Pr (pS (ay s 1))) {k:Nat} {x:Gs hs} (h:smG k x=0) (hx:x≠0):pS (ay s 1)∣k:=by
 refine lD λhk=>hx ?_
 have hf:=FL pr hk
 have h2:=pr.1
 rw [show pS (ay s 1)-1=(pS (ay s 1)-2)+1 by omega,Nat.pow_succ] at hf
 rw [<-Us x,<-hf,wX hs,Qf,h,apl]
section
variable {s:Int} (hs:ac s=true) [NeZero (pS (ay s 1))]
include hs in
theorem apW {b:List ab} {h:Nat} {X c:Zs s} (hb:b.map (sc s)=Ipa.CN X c (2*h)) (u:ab):(qC (pS (ay s 1)) b u).map (sc s)=Ipa.CN X (c+sc s u*(c*X^h)) h:=by
 have hl:b.length=2*h:=by rw [<-List.length_map (sc s),hb,Ipa.GL]
 have e:Ipa.CN X c (2*h)=Ipa.CN X c h++Ipa.CN X (c*X^h) h:=by rw [<-Ipa.QD,show h+h=2*h by omega]
 rw [acT hs hl u,List.map_take,List.map_drop,hb,e,List.take_left' (Ipa.GL _ _ _),List.drop_left' (Ipa.GL _ _ _),Ipa.ayN]
theorem av1 {g:List Pt} {n:Nat} (hg:g.length=2*2^n) (ho:(g.all λP=>onB s P)=true) (f:Zs s) (u:ab) (us:List (Zs s)) (hu:us.length=n):
 Ipa.dot (mG hs) (Ipa.wts f (sc s u::us)) (g.map (gp (aD hs)))=Ipa.dot (mG hs) (Ipa.wts f us) ((D8 s g u (2^n) (List.replicate (2^n) jN)).map (gp (aD hs))):=by
 rw [(Kk hs hg ho u).2,<-Ipa.aEO (mG hs) f (sc s u) us (by rw [List.length_map,bM,hu];omega) (by rw [List.length_map,ck,hu];omega),<-List.map_append,List.take_append_drop]
end
section
variable {s:Int} (hs:ac s=true) [NeZero (pS (ay s 1))]
theorem aF1 (x:ab):∀ (m:Nat) (e:ab),e.nat=x.nat^m%pS (ay s 1)->sc s e=sc s x^m:=λm e he=>by
 refine Fin.ext ?_
 show e.nat%_=_
 rw [he,Nat.mod_mod]
 clear he
 induction m with
 |zero=>rfl
 |succ m ih=>
  have e3:sc s x^(m+1)=sc s x^m*sc s x:=Lean.Grind.Semiring.pow_succ _ _
  rw [e3,Fin.val_mul,<-ih,Nat.pow_succ]
  show _=(_%_)*(x.nat%_)%_
  rw [<-Nat.mul_mod]
theorem Ie:∀ n:Nat,n<=5->(⟨cE 1 (n:Int),0,0,0⟩:ab).nat=2^n
 |0,_|1,_|2,_|3,_|4,_|5,_=>by decide+kernel
 |n+6,h=>absurd h (by omega)
include hs in
theorem aIs (x:ab) {n:Nat} (hn:n<=5) (q:CH) (w:avX):sc s (avW (ay s 1) x (n:Int) q w).1=sc s w.1*(1+sc s (rU (ay s 1) q)*sc s x^(2^n)):=by
 have h2:2<=pS (ay s 1):=(aD (bG hs)).pr.1
 have e:sc s (lv (pS (ay s 1)) x ⟨cE 1 (n:Int),0,0,0⟩)=sc s x^(2^n):=aF1 x (2^n) _ (by rw [jQ (eP (bG hs)) h2,Ie n hn])
 show sc s (aR _ w.1 (dv _ ⟨1,0,0,0⟩ (aR _ (rU (ay s 1) q) (lv (pS (ay s 1)) x ⟨cE 1 (n:Int),0,0,0⟩))))=_
 rw [mw hs,ru hs,mw hs,e]
 rfl
end
section
variable {s:Int} (hs:ac s=true) [NeZero (pS (ay s 1))]
theorem Nh (x:ab):∀ (n:Nat) (q:CH) (w:avX),n<=5->fa s (ay s 1) n q=true->((aX s (ay s 1) n q).1==0)=true->q.1.2.2.2.1.length=2^n->q.1.1.1=s->(q.1.2.2.2.2.2.1.all λP=>onB s P)=true->
 ∀ c,q.1.2.2.2.2.1.map (sc s)=Ipa.CN (sc s x) c (2^n)->∃ (us:List ab) (P:Zs s),us.length=n/\(Gq s (ay s 1) x n q w).2.1=w.2.1++us/\sc s (Gq s (ay s 1) x n q w).1=sc s w.1*P/\(aX s (ay s 1) n q).2.1.2.2.2.2.1.map (sc s)= [c*P]/\
  ∀ f,Ipa.dot (mG hs) (Ipa.wts f (us.map (sc s))) (q.1.2.2.2.2.2.1.map (gp (aD hs)))=Ipa.dot (mG hs) [f] ((aX s (ay s 1) n q).2.1.2.2.2.2.2.1.map (gp (aD hs)))
 |0,q,w,_,_,_,_,_,_,c,hb=>⟨[],1,rfl,(List.append_nil _).symm,by show sc s w.1=_;grind,by show q.1.2.2.2.2.1.map (sc s)=_;rw [hb];show [c]=_;grind,λf=>rfl⟩
 |n+1,q,w,h5,hok,h,hn,hc,hg,c,hb=>by
  have h1:1<q.1.2.2.2.1.length:=by rw [hn,Nat.pow_succ];have:=Nat.two_pow_pos n;omega
  unfold fa at hok
  rw [ag h1,aK,aw] at hok
  unfold aX at h⊢
  rw [ag h1,aK] at h⊢
  cases h2:(bo s (ay s 1) q).1==0
  ·rw [h2,aT,h2] at h;cases h
  rw [h2,aK] at h hok
  rw [aK]
  have hro:=hok.1
  unfold pI at hro
  simp only [aw] at hro
  obtain ⟨hL,_,_,hso,_⟩:=hro
  obtain ⟨l1,l2,_,_⟩:=bm hL
  obtain ⟨_,hz,e⟩:=sA h2
  have hso:=eq_of_beq hso
  have hh:q.1.2.2.2.1.length=2*2^n:=by rw [hn,Nat.pow_succ];omega
  have e2:(bo s (ay s 1) q).2.1=QU q.1 (rU (ay s 1) q) (ao q.2.2.1).1 (ao (ao q.2.2.1).2.2).1:=by rw [e]
  have eg:(bo s (ay s 1) q).2.1.2.2.2.2.2.1=D8 s q.1.2.2.2.2.2.1 (rU (ay s 1) q) (2^n) (List.replicate (2^n) jN):=by
   rw [e2]
   show D8 q.1.1.1 q.1.2.2.2.2.2.1 (rU (ay s 1) q) (q.1.2.2.2.1.length/2) (List.replicate (q.1.2.2.2.1.length/2) jN)=_
   rw [hc,show q.1.2.2.2.1.length/2=2^n by omega]
  have eb:(bo s (ay s 1) q).2.1.2.2.2.2.1=qC (pS (ay s 1)) q.1.2.2.2.2.1 (rU (ay s 1) q):=by
   rw [e2]
   show qC (pS q.1.2.1) _ _=_
   rw [hso]
  obtain ⟨us,P,i1,i2,i3,i4,i5⟩:=Nh x n (bo s (ay s 1) q).2 (avW (ay s 1) x (n:Int) q w) (by omega) hok.2 h (by
   rw [e]
   show (qC _ q.1.2.2.2.1 _).length=_
   rw [BU,hh,Nat.mul_div_cancel_left _ (by decide)]) (by rw [e];exact hc) (by
   rw [eg]
   exact (Kk hs (by omega) hg _).1) _ (by rw [eb];exact apW hs (h:=2^n) (by rw [hb,Nat.pow_succ,Nat.mul_comm]) _)
  refine ⟨rU (ay s 1) q::us,(1+sc s (rU (ay s 1) q)*sc s x^(2^n))*P,congrArg Nat.succ i1,?_,?_,?_,λf=> ?_⟩
  ·show (Gq s (ay s 1) x n _ _).2.1=_
   rw [i2]
   exact List.append_assoc _ _ _
  ·show sc s (Gq s (ay s 1) x n _ _).1=_
   rw [i3,aIs hs x (by omega)]
   grind
  ·rw [i4]
   grind
  ·rw [<-i5 f,eg]
   exact av1 hs (by omega) hg f _ _ (by rw [List.length_map,i1])
end
def opF (m:Nat) (xi:ab) (cs S:List ab) (k:Nat):ab:=cond (decide (k<cs.length)) (dv m (aR m xi (S.getD k ⟨0,0,0,0⟩)) (cs.getD k ⟨0,0,0,0⟩)) (aR m xi (S.getD k ⟨0,0,0,0⟩))
theorem aAL (m:Nat) (xi x:ab) (cs S:List ab) (q:OpT):∀ n,(upto (axC m xi x cs S) q n).1=upto (λk (l:List ab)=>l.set k (opF m xi cs S k)) q.1 n
 |0=>rfl
 |n+1=>by
  show List.set (upto _ q n).1 n _=List.set _ n _
  rw [aAL m xi x cs S q n]
  rfl
theorem aGb (m:Nat) (xi x:ab) (cs S a:List ab) (h:a.length=S.length):(Vw m xi x cs S a).1=(List.range S.length).map (opF m xi cs S):=by
 unfold Vw
 rw [aAL,Gx _ _ _ (by dsimp only;omega),List.drop_of_length_le (by dsimp only;omega),List.append_nil]
section
variable {s:Int} (hs:ac s=true) [NeZero (pS (ay s 1))]
include hs in
theorem abl (xi x:ab) (cs S:List ab) (q:OpT):∀ n,(upto (axC (pS (ay s 1)) xi x cs S) q n).2.1.map (sc s)=q.2.1.map (sc s)++Ipa.CN (sc s x) (sc s q.2.2) n/\sc s (upto (axC (pS (ay s 1)) xi x cs S) q n).2.2=sc s q.2.2*sc s x^n
 |0=>⟨(List.append_nil _).symm,by show sc s q.2.2=_;grind⟩
 |n+1=>by
  obtain ⟨h1,h2⟩:=abl xi x cs S q n
  refine ⟨?_,?_⟩
  ·show ((upto _ q n).2.1++ [(upto _ q n).2.2]).map (sc s)=_
   rw [List.map_append,h1,Ipa.QD,List.append_assoc]
   show _++(_++ [sc s _])=_++(_++ [_])
   rw [h2]
  ·show sc s (aR _ (upto _ q n).2.2 x)=_
   rw [mw hs,h2]
   grind
end
section
variable {s:Int} (hs:ac s=true) [NeZero (pS (ay s 1))]
include hs in
theorem Sl (x:ab):∀ l:List ab,sc s (rP (pS (ay s 1)) x l)=Ipa.ev (sc s x) (l.map (sc s))
 | []=>Fin.ext (Nat.zero_mod _)
 |v::r=>by
  show sc s (dv _ (aR _ (rP (pS (ay s 1)) x r) x) v)=_
  rw [ru hs,mw hs,Sl x r]
  rfl
include hs in
theorem apo (a b:ab):sc s (iw (pS (ay s 1)) a b)=sc s a-sc s b:=by
 have e:sc s (iw (pS (ay s 1)) a b)+sc s b=sc s a:=by
  unfold iw
  rw [ru hs]
  have:sc s (lf (pS (ay s 1)) b)+sc s b=0:=by
   refine Fin.ext ?_
   have hp:=eP (bG hs)
   show ((lf (pS (ay s 1)) b).nat%_+b.nat%_)%_=0
   rw [show (lf (pS (ay s 1)) b).nat=(pS (ay s 1)-b.nat%pS (ay s 1))%pS (ay s 1) from cv hp,Nat.mod_mod,<-Nat.add_mod]
   have:=Nat.mod_lt b.nat hp.1
   have h3:=Nat.div_add_mod b.nat (pS (ay s 1))
   generalize b.nat%pS (ay s 1)=t at*
   rw [show pS (ay s 1)-t+b.nat=pS (ay s 1)*(b.nat/pS (ay s 1)+1) by rw [Nat.mul_add];omega]
   exact Nat.mul_mod_right _ _
  grind
 grind
end
section
variable {s:Int} (hs:ac s=true) [NeZero (pS (ay s 1))]
theorem aoY {p:ml} (hp:p.1=s) (z b a f:ab) (us:List ab) (out:List Tm) (hl:(wtE (pS (ay s 1)) (lf (pS (ay s 1)) a) us).length<=p.2.2.1.length):
 lj (tG hs (wT p z b a f us out))=lj (tG hs out)+Ipa.dot (mG hs) ((wtE (pS (ay s 1)) (lf (pS (ay s 1)) a) us).map (sc s)) (p.2.2.1.map (gp (aD hs)))+((mG hs).act (sc s (lf (pS (ay s 1)) a)*(sc s b*sc s z)) (gp (aD hs) p.2.2.2.2)+(mG hs).act (sc s (lf (pS (ay s 1)) f)) (gp (aD hs) p.2.2.2.1)):=by
 unfold wT
 rw [hp]
 generalize wtE (pS (ay s 1)) (lf (pS (ay s 1)) a) us=w at*
 have e:upto (rQ p.2.2.1 w) out w.length=out++w.zip p.2.2.1:=by
  rw [<-rV hl]
  exact uU (λi=>(w.getD i ⟨0,0,0,0⟩,p.2.2.1.getD i jN)) _ _
 rw [e,sk,sk,Sp]
 show _+(smG _ _+(smG _ _+0))=_
 rw [oI,<-ry hs,<-ry hs,mw hs,mw hs]
end
end
section
namespace Ipa
open Lean.Grind
variable {R M:Type} [CommRing R] [IntModule M] (L:Lin R M)
theorem abq (k:R) (x:M):L.act (-k) x+L.act k x=0:=by
 rw [<-L.oe,show-k+k=0 by grind,L.PJ]
theorem Sq (g:List M):dot L [] g=0:=by cases g<;>rfl
theorem B6 (a:List R):dot L a []=0:=by cases a<;>rfl
theorem aEL (a B z f:R) (g:List M) (U W o:M):o+dot L [-a] g+(L.act (-a*(B*z)) U+L.act (-f) W)+(dot L [a] g+L.act (a*B*z) U+L.act f W)=o:=by
 have e1:dot L [-a] g+dot L [a] g=0:=by
  cases g with
  |nil=>rw [B6,B6];grind
  |cons x s=>
   have:=abq L a x
   rw [dot,dot,Sq]
   grind
 rw [show-a*(B*z)= -(a*B*z) by grind]
 have e2:=abq L (a*B*z) U
 have e3:=abq L f W
 grind
theorem aoc (u:R):∀ (us out:List R),wl out (us++ [u])=(wl out us).flatMap λv=> [v,v*u]
 | [],_=>rfl
 |_::us,out=>aoc u us _
def lin (k:R):List R->List R->List R
 | [],_=> []
 |s::S,[]=>k*s::lin k S []
 |s::S,c::C=>(k*s+c)::lin k S C
theorem Bw (k:R):∀ (S C:List R),lin k S C=(List.range S.length).map λi=>cond (decide (i<C.length)) (k*S.getD i 0+C.getD i 0) (k*S.getD i 0)
 | [],_=>rfl
 |s::S,[]=>by
  rw [lin,Bw k S [],List.length_cons,List.range_succ_eq_map,List.map_cons,List.map_map]
  rfl
 |s::S,c::C=>by
  show (k*s+c)::lin k S C=(List.range (S.length+1)).map λi=>cond (decide (i<C.length+1)) (k*(s::S).getD i 0+(c::C).getD i 0) (k*(s::S).getD i 0)
  rw [Bw k S C,List.range_succ_eq_map,List.map_cons,List.map_map]
  refine congrArg (List.cons _) (List.map_congr_left λi _=> ?_)
  show _=cond (decide (i+1<C.length+1)) _ _
  rw [show decide (i+1<C.length+1)=decide (i<C.length) from decide_eq_decide.2 Nat.succ_lt_succ_iff]
  rfl
theorem adB (k:R):∀ (S C:List R) (G:List M),C.length<=S.length->dot L (lin k S C) G=L.act k (dot L S G)+dot L C G
 |S,C,[],_=>by
  rw [B6,B6,B6,L.wI];grind
 | [],[],G,_=>by
  rw [lin,Sq,L.wI];grind
 |s::S,[],g::G,_=>by
  rw [lin,dot,adB k S [] G (Nat.zero_le _),dot,Sq,Sq,L.rj,L.ln];grind
 |s::S,c::C,g::G,h=>by
  rw [lin,dot,adB k S C G (Nat.le_of_succ_le_succ h),dot,dot,L.rj,L.oe,L.ln];grind
theorem asV (x k:R):∀ (S C:List R),C.length<=S.length->ev x (lin k S C)=k*ev x S+ev x C
 | [],[],_=>by
  show (0:R)=k*0+0
  grind
 |s::S,[],_=>by
  show ev x (lin k S [])*x+k*s=k*(ev x S*x+s)+0
  rw [asV x k S [] (Nat.zero_le _),show ev x []=0 from rfl]
  grind
 |s::S,c::C,h=>by
  show ev x (lin k S C)*x+(k*s+c)=k*(ev x S*x+s)+(ev x C*x+c)
  rw [asV x k S C (Nat.le_of_succ_le_succ h)]
  grind
theorem aBi (x e:R) {a:List R} (h:0<a.length):ev x (a.set 0 (a.getD 0 0-e))=ev x a-e:=by
 cases a with
 |nil=>cases h
 |cons v r=>
  show ev x ((v-e)::r)=_
  rw [ev,ev];grind
theorem aEP (e:R) {a:List R} {G:List M} (h:0<a.length) (hG:0<G.length):dot L (a.set 0 (a.getD 0 0-e)) G+L.act e (G.getD 0 0)=dot L a G:=by
 cases a with
 |nil=>cases h
 |cons v r=>
  cases G with
  |nil=>cases hG
  |cons g G=>
   show dot L ((v-e)::r) (g::G)+L.act e g=_
   rw [dot,dot,show L.act v g=L.act (v-e) g+L.act e g by rw [<-L.oe,show v-e+e=v by grind]]
   grind
theorem aph (x xi z rho bl:R) (U W:M) {S C:List R} {G:List M} (hS:ev x S=0) (hC:C.length<=S.length) (h0:0<S.length) (hG:G.length=S.length):
 val L z U W ((lin xi S C).set 0 ((lin xi S C).getD 0 0-ev x C)) (CN x 1 S.length) G (bl+xi*rho)+L.act (ev x C) (G.getD 0 0)=(L.act bl W+dot L C G)+L.act xi (L.act rho W+dot L S G):=by
 have hl:(lin xi S C).length=S.length:=by rw [Bw,List.length_map,List.length_range]
 have e1:=ag4 x ((lin xi S C).set 0 ((lin xi S C).getD 0 0-ev x C)) 1 S.length (by rw [cu,hl];exact Nat.le_refl _)
 rw [aBi x _ (by omega),asV x xi S C hC,hS] at e1
 have e2:=aEP L (ev x C) (a:=lin xi S C) (G:=G) (by omega) (by omega)
 rw [adB L xi S C G hC] at e2
 unfold val
 rw [e1,show (1:R)*(xi*0+ev x C-ev x C)*z=0 by grind,L.PJ,L.oe,L.ln,L.rj]
 grind
theorem aog (e xi v:R) {g t o C S:M} (h1:t+o=C+(L.act (-v) g+L.act xi S)) (h2:o+L.act e g=C+L.act xi S):t=L.act (e-v) g:=by
 have e:L.act (e-v) g=L.act e g+L.act (-v) g:=by rw [<-L.oe,show e+ -v=e-v by grind]
 rw [e]
 grind
end Ipa
end
section
open Sx Go
set_option maxRecDepth 100000
theorem ahR (m:Nat) (u:ab) (xs:List ab):∀ n,n<=xs.length->upto (azi m u xs) [] n=(xs.take n).flatMap λv=> [v,aR m v u]
 |0,_=>rfl
 |n+1,h=>by
  show upto _ [] n++ [xs.getD n ⟨0,0,0,0⟩,aR m (xs.getD n ⟨0,0,0,0⟩) u]=_
  rw [ahR m u xs n (by omega),List.take_succ_eq_append_getElem (by omega:n<xs.length),List.flatMap_append,iy (by omega:n<xs.length)]
  rfl
section
variable {s:Int} (hs:ac s=true) [NeZero (pS (ay s 1))]
include hs in
theorem aGN (u:ab) (xs:List ab):(azj (pS (ay s 1)) u xs).map (sc s)=(xs.map (sc s)).flatMap λv=> [v,v*sc s u]:=by
 unfold azj
 rw [ahR _ _ _ _ (Nat.le_refl _),List.take_length,List.map_flatMap,List.flatMap_map]
 refine congrArg (List.flatMap · xs) (funext λv=> ?_)
 rw [List.map_cons,List.map_cons,mw hs]
 rfl
include hs in
theorem aHB (a:ab) (us:List ab):(wtE (pS (ay s 1)) a us).map (sc s)=Ipa.wts (sc s a) (us.map (sc s)):=by
 have go:∀ n,n<=us.length->(upto (λk l=>azj (pS (ay s 1)) (us.getD k ⟨0,0,0,0⟩) l) [a] n).map (sc s)=Ipa.wl [sc s a] ((us.take n).map (sc s)):=by
  intro n
  induction n with
  |zero=>exact λ_=>rfl
  |succ n ih=>
   intro h
   show (azj _ (us.getD n ⟨0,0,0,0⟩) (upto _ [a] n)).map (sc s)=_
   rw [aGN hs,ih (by omega),List.take_succ_eq_append_getElem (by omega:n<us.length),List.map_append,iy (by omega:n<us.length)]
   exact (Ipa.aoc _ _ _).symm
 unfold wtE
 rw [go _ (Nat.le_refl _),List.take_length,Ipa.aAg]
 exact List.append_nil _
include hs in
theorem app (a:ab):sc s (lf (pS (ay s 1)) a)= -sc s a:=by
 have h:=apo hs a a
 unfold iw at h
 rw [ru hs] at h
 grind
include hs in
theorem aAO (e:ab):sc s (ofP (pS (ay s 1)) e)=sc s e:=by
 have hp:=eP (bG hs)
 refine Fin.ext ?_
 show (ofP (pS (ay s 1)) e).nat%_=e.nat%_
 rw [show (ofP (pS (ay s 1)) e).nat=e.nat%pS (ay s 1) from cv hp,Nat.mod_mod]
theorem aEK {o:wR} {p:ml} (hp:p.1=s) (ho:o.1=p) {B:Zs s} {us:List ab} (b a f z:ab) (out:List Tm) (ha:o.2.2.2.1.length=1) (hb:o.2.2.2.2.1.map (sc s)= [B])
 (hw:∀ k,Ipa.dot (mG hs) (Ipa.wts k (us.map (sc s))) (p.2.2.1.map (gp (aD hs)))=Ipa.dot (mG hs) [k] (o.2.2.2.2.2.1.map (gp (aD hs)))) (hl:p.2.2.1.length=2^us.length)
 (e1:sc s b=B) (e2:sc s a=sc s (o.2.2.2.1.getD 0 ⟨0,0,0,0⟩)) (e3:sc s f=sc s o.2.2.2.2.2.2) (e4:z=o.2.2.1):
 lj (tG hs (wT p z b a f us out))+vO hs o=lj (tG hs out):=by
 have hl2:(wtE (pS (ay s 1)) (lf (pS (ay s 1)) a) us).length<=p.2.2.1.length:=by
  rw [hl]
  exact Nat.le_of_eq (Tu _ _ _ _)
 rw [aoY hs hp z b a f us out hl2,aHB hs,hw,app hs,app hs]
 obtain ⟨a0,h0⟩:∃ a0,o.2.2.2.1= [a0]:=by
  match o.2.2.2.1,ha with
  | [a0],_=>exact ⟨a0,rfl⟩
 have e5:vO hs o=Ipa.dot (mG hs) [sc s a] (o.2.2.2.2.2.1.map (gp (aD hs)))+(mG hs).act (sc s a*B*sc s z) (gp (aD hs) p.2.2.2.2)+(mG hs).act (sc s f) (gp (aD hs) p.2.2.2.1):=by
  unfold vO Ipa.val
  rw [h0] at e2
  rw [hb,h0,ho,e2,e3,e4]
  show _+(mG hs).act ((sc s a0*B+0)*_) _+_=_+(mG hs).act (sc s a0*B*_) _+_
  rw [show sc s a0*B+0=sc s a0*B by grind]
  rfl
 rw [e5,e1]
 exact Ipa.aEL (mG hs) _ _ _ _ _ _ _ _
end
section
variable {s:Int} (hs:ac s=true) [NeZero (pS (ay s 1))]
theorem aaH:sc s ⟨0,0,0,0⟩=0:=Fin.ext (Nat.zero_mod _)
theorem RP (l:List ab) (i:Nat):(l.map (sc s)).getD i 0=sc s (l.getD i ⟨0,0,0,0⟩):=by
 rw [<-aaH (s:=s),eZ,eZ,List.getElem?_map]
 cases l[i]? <;>rfl
theorem XM {p:ml} (hp:p.1=s) (h:(cU p==0)=true) (l:List ab) (b:ab) (hl:l.length<=p.2.2.1.length):
 onB s (Ez p l b)=true/\gp (aD hs) (Ez p l b)=(mG hs).act (sc s b) (gp (aD hs) p.2.2.2.1)+Ipa.dot (mG hs) (l.map (sc s)) (p.2.2.1.map (gp (aD hs))):=by
 have ha:=(OJ h l b hl).2
 rw [hp] at ha
 obtain ⟨h1,h2⟩:=It hs ha
 unfold Ez
 rw [hp]
 refine ⟨h1,h2.trans ?_⟩
 have e:SA p l b= [(b,p.2.2.2.1)]++l.zip p.2.2.1:=by
  unfold SA
  rw [<-rV hl]
  exact uU (λi=>(l.getD i ⟨0,0,0,0⟩,p.2.2.1.getD i jN)) _ _
 rw [e,sk,Sp,ry hs]
 exact congrArg (· +_) (oI _)
include hs in
theorem aGe (x:ab) {T:List ab} (h:0<T.length):Ipa.ev (sc s x) ((T.set 0 (iw (pS (ay s 1)) (T.getD 0 ⟨0,0,0,0⟩) (rP (pS (ay s 1)) x T))).map (sc s))=0:=by
 rw [List.map_set,apo hs,Sl hs,<-RP,Ipa.aBi _ _ (by rw [List.length_map];exact h)]
 grind
include hs in
theorem aGc (xi x:ab) (cs S a:List ab) (h:a.length=S.length):(Vw (pS (ay s 1)) xi x cs S a).1.map (sc s)=Ipa.lin (sc s xi) (S.map (sc s)) (cs.map (sc s)):=by
 rw [aGb _ _ _ _ _ _ h,Ipa.Bw,List.map_map,List.length_map,List.length_map]
 refine List.map_congr_left λi _=> ?_
 show sc s (cond _ _ _)=_
 rw [RP,RP]
 cases decide (i<cs.length)
 ·exact mw hs _ _
 ·exact (ru hs _ _).trans (congrArg (· +_) (mw hs _ _))
theorem aw1 {p:ml} (hp:p.1=s) (hr:(gE p p.1==0)=true) (cs:List ab) (bl x:ab) (tp co:List ab) (hc:cs.length<=p.2.2.1.length) (hco:p.2.2.1.length<=co.length):
 vO hs (opO p cs bl x (ay s 1) tp co)+(mG hs).act (Ipa.ev (sc s x) (cs.map (sc s))) ((p.2.2.1.map (gp (aD hs))).getD 0 0)=gp (aD hs) (Ez p cs bl)+(mG hs).act (sc s (opV (ay s 1) tp)) (gp (aD hs) (Fs p x co)):=by
 have r:=pL hr
 have hck:(cU p==0)=true:=beq_iff_eq.2 r.1
 have n1:=NI p
 have n2:(co.take (opN p)).length=p.2.2.1.length:=by rw [bM];omega
 have n4:(opS p x co).length=p.2.2.1.length:=by unfold opS;rw [cu];exact n2
 have c1:=(XM hs hp hck cs bl hc).2
 have c2:=(XM hs hp hck (opS p x co) (opR p co).1 (by omega)).2
 have hev:Ipa.ev (sc s x) ((opS p x co).map (sc s))=0:=by
  unfold opS
  rw [hp]
  exact aGe hs x (by omega)
 have eA:(opO p cs bl x (ay s 1) tp co).2.2.2.1.map (sc s)=(Ipa.lin (sc s (opV (ay s 1) tp)) ((opS p x co).map (sc s)) (cs.map (sc s))).set 0 ((Ipa.lin (sc s (opV (ay s 1) tp)) ((opS p x co).map (sc s)) (cs.map (sc s))).getD 0 0-Ipa.ev (sc s x) (cs.map (sc s))):=by
  show (List.set (opU p cs x (ay s 1) tp co).1 0 (iw (pS (ay p.1 1)) ((opU p cs x (ay s 1) tp co).1.getD 0 ⟨0,0,0,0⟩) (rP (pS (ay p.1 1)) x cs))).map (sc s)=_
  unfold opU
  rw [hp,List.map_set,apo hs,Sl hs,<-RP,aGc hs _ _ _ _ _ (by rw [fM,n4])]
 have eB:(opO p cs bl x (ay s 1) tp co).2.2.2.2.1.map (sc s)=Ipa.CN (sc s x) 1 ((opS p x co).map (sc s)).length:=by
  show (opU p cs x (ay s 1) tp co).2.1.map (sc s)=_
  unfold opU Vw
  rw [hp,(abl hs _ _ _ _ _ _).1,List.length_map]
  rfl
 have eF:sc s (opO p cs bl x (ay s 1) tp co).2.2.2.2.2.2=sc s bl+sc s (opV (ay s 1) tp)*sc s (opR p co).1:=by
  show sc s (dv (pS (ay p.1 1)) bl (aR (pS (ay p.1 1)) (opV (ay s 1) tp) (opR p co).1))=_
  rw [hp,ru hs,mw hs]
 have key:=Ipa.aph (mG hs) (sc s x) (sc s (opV (ay s 1) tp)) (sc s (opV (ay s 1) (ao tp).2.2)) (sc s (opR p co).1) (sc s bl) (gp (aD hs) p.2.2.2.2) (gp (aD hs) p.2.2.2.1) (S:=(opS p x co).map (sc s)) (C:=cs.map (sc s)) (G:=p.2.2.1.map (gp (aD hs))) hev (by rw [List.length_map,List.length_map];omega) (by rw [List.length_map];omega) (by rw [List.length_map,List.length_map];omega)
 rw [<-eA,<-eB,<-eF,<-c1] at key
 unfold Fs
 rw [c2]
 exact key
include hs in
theorem aDm {p:ml} (hp:p.1=s) (cs:List ab) (bl x:ab) (tp co:List ab) (hco:p.2.2.1.length<=co.length):
 (opO p cs bl x (ay s 1) tp co).2.2.2.2.1.map (sc s)=Ipa.CN (sc s x) 1 p.2.2.1.length:=by
 have n1:=NI p
 have n2:(co.take (opN p)).length=p.2.2.1.length:=by rw [bM];omega
 have n4:(opS p x co).length=p.2.2.1.length:=by unfold opS;rw [cu];exact n2
 show (opU p cs x (ay s 1) tp co).2.1.map (sc s)=_
 unfold opU Vw
 rw [hp,(abl hs _ _ _ _ _ _).1,n4]
 rfl
end
theorem apn {s:Int} {o:wR} {a b:List ab} {g:List Pt} {r:ab} (hU:onB s o.1.2.2.2.2=true) (hW:onB s o.1.2.2.2.1=true) (hl:a.length<=g.length) (hg:(g.all λP=>onB s P)=true):cy s (AX o a b g r)=true:=by
 have e:AX o a b g r= [(aR (pS o.2.1) (aEh (pS o.2.1) a b) o.2.2.1,o.1.2.2.2.2),(r,o.1.2.2.2.1)]++a.zip g:=by
  unfold AX
  rw [<-rV hl]
  exact uU (λi=>(a.getD i ⟨0,0,0,0⟩,g.getD i jN)) _ _
 rw [e]
 unfold cy
 rw [List.all_append,aA,aA,hU,hW,aI]
 exact List.all_eq_true.2 λt ht=>List.all_eq_true.1 hg _ (List.of_mem_zip ht).2
theorem az0 {α:Type} {f:α->Bool} {l:List α} (h:l.all f=true) (n:Nat):(l.take n).all f=true:=List.all_eq_true.2 λx hx=>List.all_eq_true.1 h x (List.mem_of_mem_take hx)
theorem az1 {α:Type} {f:α->Bool} {l:List α} (h:l.all f=true) (n:Nat):(l.drop n).all f=true:=List.all_eq_true.2 λx hx=>List.all_eq_true.1 h x (List.mem_of_mem_drop hx)
section
variable {s:Int} (hs:ac s=true) [NeZero (pS (ay s 1))]
include hs in
theorem Ij:∀ (n:Nat) (q:CH),n<=6->q.1.1.1=s->q.1.2.1=ay s 1->q.1.2.2.2.1.length=2^n->q.1.2.2.2.2.1.length=2^n->q.1.2.2.2.2.2.1.length=2^n->onB s q.1.1.2.2.2.2=true->onB s q.1.1.2.2.2.1=true->
 (q.1.2.2.2.2.2.1.all λP=>onB s P)=true->q.2.1.length<=140737488355328->q.2.2.1.length<=140737488355328->q.2.2.2.length+64*n<=140737488340000->
 fa s (ay s 1) n q=true/\(((aX s (ay s 1) n q).1==0)=true->(aX s (ay s 1) n q).2.1.2.2.2.1.length=1/\(aX s (ay s 1) n q).2.1.2.2.1=q.1.2.2.1/\(aX s (ay s 1) n q).2.1.1=q.1.1/\(aX s (ay s 1) n q).2.2.2.2.length=q.2.2.2.length+64*n/\
  (∀ (x:ab) (w:avX),cy s w.2.2=true->cy s (Gq s (ay s 1) x n q w).2.2=true))
 |0,q,_,_,_,ha,_,_,_,_,_,_,_,_=>⟨by unfold fa;rw [bq (by rw [ha];decide)];rfl,λ_=>⟨ha,rfl,rfl,rfl,λ_ _ h=>h⟩⟩
 |n+1,q,h6,hc,hso,ha,hb,hg,hU,hW,ho,ht,hco,hout=>by
  have h1:1<q.1.2.2.2.1.length:=by rw [ha,Nat.pow_succ];have:=Nat.two_pow_pos n;omega
  have h64:(2:Nat)^n<=32:=Nat.pow_le_pow_right (by omega) (show n<=5 by omega)
  have hh:q.1.2.2.2.1.length=2*2^n:=by rw [ha,Nat.pow_succ];omega
  have hbl:q.1.2.2.2.2.1.length=2*2^n:=by rw [hb,Nat.pow_succ];omega
  have hgl:q.1.2.2.2.2.2.1.length=2*2^n:=by rw [hg,Nat.pow_succ];omega
  have e2:q.1.2.2.2.1.length/2=2^n:=by omega
  have tl:∀ l,cy s (aHr q.1 l)=true:=λl=>apn hU hW (by rw [ck,bM];omega) (az0 ho _)
  have th:∀ l,cy s (ayq q.1 l)=true:=λl=>apn hU hW (by rw [ck,bM];omega) (az1 ho _)
  have pl:∀ l,onB s (avS q.1 l)=true:=λl=>(GD hs hso hc (by rw [ck,bM];omega) (by rw [ck,bM];omega) (tl l)).1
  have ph:∀ l,onB s (RL q.1 l)=true:=λl=>(GD hs hso hc (by rw [ck,bM];omega) (by rw [ck,bM];omega) (th l)).1
  have hro:pI s (ay s 1) q=true:=by
   unfold pI aAD
   rw [bG hs,hc,hs,hso,tl,th,pl,ph,ag ⟨by omega,by omega,by omega,by omega,ht,hco,by omega⟩,beq_self_eq_true]
   rfl
  unfold fa aX
  rw [ag h1,aK,aK,hro,Bool.true_and]
  show _/\(_->_/\_/\_/\_/\∀ (x:ab) (w:avX),_->cy s (Gq s (ay s 1) x n (bo s (ay s 1) q).2 (avW (ay s 1) x (n:Int) q w)).2.2=true)
  cases h2:(bo s (ay s 1) q).1==0
  ·exact ⟨rfl,λh=>absurd (h2.symm.trans h) (by decide)⟩
  rw [aK,aK]
  obtain ⟨_,hz,e⟩:=sA h2
  have eo:(bo s (ay s 1) q).2=(QU q.1 (rU (ay s 1) q) (ao q.2.2.1).1 (ao (ao q.2.2.1).2.2).1,((ao q.2.1).2.2,((ao (ao q.2.2.1).2.2).2.2,q.2.2.2++jO s (rL q)++jO s (rR q)))):=by rw [e]
  have ll:(q.2.2.2++jO s (rL q)++jO s (rR q)).length=q.2.2.2.length+64:=by
   rw [bL,bL,tZ (show onB s (rL q)=true from pl _),tZ (show onB s (rR q)=true from ph _)]
  have fl:∀ l k,l.length=2*2^n->(qC (pS q.1.2.1) l k).length=2^n:=λl k h=>by
   rw [BU,h,Nat.mul_div_cancel_left _ (by decide)]
  have ih:=Ij n (bo s (ay s 1) q).2 (by omega) (by rw [eo];exact hc) (by rw [eo];exact hso) (by rw [eo];exact fl _ _ hh) (by rw [eo];exact fl _ _ hbl)
   (by rw [eo];show (D8 _ _ _ (q.1.2.2.2.1.length/2) (List.replicate (q.1.2.2.2.1.length/2) jN)).length=_;rw [e2];exact (Od _ _ _ _ _ _).trans fM)
   (by rw [eo];exact hU) (by rw [eo];exact hW) (by
    rw [eo]
    show ((D8 q.1.1.1 q.1.2.2.2.2.2.1 (rU (ay s 1) q) (q.1.2.2.2.1.length/2) (List.replicate (q.1.2.2.2.1.length/2) jN)).all λP=>onB s P)=true
    rw [hc,e2]
    exact (Kk hs (by omega) ho _).1)
   (by rw [eo];exact cV (fS _) ht) (by rw [eo];exact cV (fS _) (cV (fS _) hco)) (by rw [eo];show (q.2.2.2++jO s (rL q)++jO s (rR q)).length+_<=_;rw [ll];omega)
  refine ⟨ih.1,λh=> ?_⟩
  obtain ⟨i1,i2,i3,i4,i5⟩:=ih.2 h
  refine ⟨i1,i2.trans (by rw [eo];rfl),i3.trans (by rw [eo];rfl),i4.trans (by rw [eo];show (q.2.2.2++jO s (rL q)++jO s (rR q)).length+_=_;rw [ll];omega),λx w hw=>i5 x _ ?_⟩
  show cy s (w.2.2++ [(_,rL q),(_,rR q)])=true
  unfold cy at hw⊢
  rw [List.all_append,hw,aA,aA,show onB s (rL q)=true from pl _,show onB s (rR q)=true from ph _]
  rfl
end
theorem agv {p:ml} {cs:List ab} {bl x:ab} {c s:Int} {tp co:List ab} {out:List UInt8} (h:((wP p cs bl x c s tp co out).1==0)=true):
 (gE p c==0)=true/\cs.length<=p.2.2.1.length/\opN p<=co.length/\((opR p co).2.1==0)=true/\((ao tp).2.1==0)=true/\((ao (ao tp).2.2).2.1==0)=true/\bC (opV s (ao tp).2.2)=false/\
  ((aX c s p.2.1.toNat (opQ p cs bl x c s tp co out)).1==0)=true/\wP p cs bl x c s tp co out=I0 c (aX c s p.2.1.toNat (opQ p cs bl x c s tp co out)):=by
 unfold wP at h⊢
 cases e0:gE p c==0
 ·rw [e0,aT] at h;exact absurd (e0.symm.trans h) (by decide)
 rw [e0,aK] at h
 cases e1:decide (cs.length<=p.2.2.1.length)
 ·rw [e1,aT] at h;cases h
 rw [e1,aK] at h
 cases e2:decide (opN p<=co.length)
 ·rw [e2,aT] at h;cases h
 rw [e2,aK] at h
 cases e3:(opR p co).2.1==0
 ·rw [e3,aT] at h;exact absurd (e3.symm.trans h) (by decide)
 rw [e3,aK] at h
 cases e4:(ao tp).2.1==0
 ·rw [e4,aT] at h;exact absurd (e4.symm.trans h) (by decide)
 rw [e4,aK] at h
 cases e5:(ao (ao tp).2.2).2.1==0
 ·rw [e5,aT] at h;exact absurd (e5.symm.trans h) (by decide)
 rw [e5,aK] at h
 cases e6:bC (opV s (ao tp).2.2)
 rotate_left
 ·rw [e6,aK] at h;cases h
 rw [e6,aT] at h
 refine ⟨rfl,bm e1,bm e2,rfl,rfl,rfl,rfl,?_,rfl⟩
 unfold I0 at h
 cases e7:(aX c s p.2.1.toNat (opQ p cs bl x c s tp co out)).1==0
 ·rw [e7,aT] at h;exact absurd (e7.symm.trans h) (by decide)
 ·rfl
theorem Hb {p:ml} (h:(cU p==0)=true):(p.2.2.1.all λP=> !wQ p.1 P)=true/\wQ p.1 p.2.2.2.1=false/\wQ p.1 p.2.2.2.2=false:=by
 unfold cU at h
 cases h1:ac p.1
 ·rw [h1] at h;cases h
 rw [h1,aK] at h
 cases h2:decide (p.2.1<0)
 rotate_left
 ·rw [h2] at h;cases h
 rw [h2,aT] at h
 cases h3:decide (5<p.2.1)
 rotate_left
 ·rw [h3] at h;cases h
 rw [h3,aT] at h
 cases h4:(p.2.2.1.length:Int)==V0 1 p.2.1
 ·rw [h4] at h;cases h
 rw [h4,Bool.not_true,aT] at h
 cases h5:p.2.2.1.any (wQ p.1)
 rotate_left
 ·rw [h5] at h;cases h
 rw [h5,aT] at h
 cases h6:wQ p.1 p.2.2.2.1
 rotate_left
 ·rw [h6] at h;cases h
 rw [h6,aT] at h
 cases h7:wQ p.1 p.2.2.2.2
 rotate_left
 ·rw [h7] at h;cases h
 exact ⟨List.all_eq_true.2 λP hP=>by simpa using List.any_eq_false.1 h5 P hP,rfl,rfl⟩
theorem LM {c:Int} {P:Pt} (h:wQ c P=false):onB c P=true/\P.2.2=false:=by
 unfold wQ at h
 cases h2:P.2.2<;>cases ho:onB c P<;>rw [h2,ho] at h<;>first|exact ⟨rfl,rfl⟩|cases h
section
variable {s:Int} (hs:ac s=true) [NeZero (pS (ay s 1))]
theorem aAM:sc s ⟨1,0,0,0⟩=1:=rfl
theorem aCK (pr:Pr (pS (ay s 1))) {p:ml} (hp:p.1=s) (cs:List ab) (bl x v:ab) (tp co:List ab) (h:((wP p cs bl x s (ay s 1) tp co []).1==0)=true) (ht:tp.length<=140737488355328) (hco:co.length<=140737488355328):
 ∃ ts T,av6 p [(⟨1,0,0,0⟩,Ez p cs bl)] x v s (wP p cs bl x s (ay s 1) tp co []).2.2.2 tp=(0,(ts,([],T)))/\cy s ts=true/\ts.length<=1000/\
  lj (tG hs ts)=(mG hs).act (Ipa.ev (sc s x) (cs.map (sc s))-sc s v) (gp (aD hs) (p.2.2.1.getD 0 jN)):=by
 obtain ⟨e0,l1,l2,_,e4,e5,e6,e7,eO⟩:=agv h
 have r:=pL e0
 have hck:(cU p==0)=true:=beq_iff_eq.2 r.1
 obtain ⟨b1,b2,b3⟩:=Hb hck
 rw [hp] at b1 b2 b3
 have hG:(p.2.2.1.all λP=>onB s P)=true:=List.all_eq_true.2 λP hP=>(LM (Bool.not_eq_true' _▸List.all_eq_true.1 b1 P hP)).1
 have hW:=(LM b2).1
 have hU:=(LM b3).1
 have n1:=NI p
 have hn:=r.2.2.2.2.2.2.2.2
 have hK:p.2.1.toNat<=5:=by omega
 have n2:(co.take (opN p)).length=p.2.2.1.length:=by rw [bM];omega
 have n4:(opS p x co).length=p.2.2.1.length:=by unfold opS;rw [cu];exact n2
 have e0':(gE p p.1==0)=true:=by rw [hp];exact e0
 have cG:=XM hs hp hck cs bl l1
 have cS:onB s (Fs p x co)=true:=(XM hs hp hck (opS p x co) (opR p co).1 (by omega)).1
 have sv:=aw1 hs hp e0' cs bl x tp co l1 (by omega)
 have sb:=aDm hs hp cs bl x tp co (by omega)
 have la:(opO p cs bl x (ay s 1) tp co).2.2.2.1.length=2^p.2.1.toNat:=by
  show (List.set (opU p cs x (ay s 1) tp co).1 0 _).length=_
  rw [cu,<-hn]
  exact (vq _ _ _ _ _ _ _).1.trans fM
 have lb:(opO p cs bl x (ay s 1) tp co).2.2.2.2.1.length=2^p.2.1.toNat:=by
  show (opU p cs x (ay s 1) tp co).2.1.length=_
  rw [<-hn,<-n4]
  exact (vq _ _ _ _ _ _ _).2
 have hso:(opO p cs bl x (ay s 1) tp co).2.1=ay s 1:=by show ay p.1 1=_;rw [hp]
 obtain ⟨ro,rn⟩:=Ij hs p.2.1.toNat (opQ p cs bl x s (ay s 1) tp co []) (by omega) hp hso la lb hn hU hW hG (cV (fS _) (cV (fS _) ht))
  (cV (fS _) (by rw [ck];omega)) (by show ([]++jO s (Fs p x co)).length+_<=_;rw [List.nil_append,tZ cS];omega)
 obtain ⟨f1,f2,f3,f4,f5⟩:=rn e7
 obtain ⟨W,hWb,hv⟩:=Fi x _ _ ro e7 la
 have rv:=Nf hs (aGs hs pr) x _ _ (⟨1,0,0,0⟩,([],[H2 (pS (ay s 1)) (⟨1,0,0,0⟩,Ez p cs bl)]++ [(lf (pS (ay s 1)) v,p.2.2.1.getD 0 jN),(opV (ay s 1) tp,Fs p x co)])) ro e7 la hp hG
 obtain ⟨us,P,u1,u2,u3,u4,u5⟩:=Nh hs x _ _ (⟨1,0,0,0⟩,([],[H2 (pS (ay s 1)) (⟨1,0,0,0⟩,Ez p cs bl)]++ [(lf (pS (ay s 1)) v,p.2.2.1.getD 0 jN),(opV (ay s 1) tp,Fs p x co)])) hK ro e7 la hp hG 1 (by rw [<-hn];exact sb)
 have h0:0<p.2.2.1.length:=r.2.2.2.2.1
 have on0:onB s (p.2.2.1.getD 0 jN)=true:=by rw [iy h0];exact List.all_eq_true.1 hG _ (List.getElem_mem h0)
 have onw:cy s ([H2 (pS (ay s 1)) (⟨1,0,0,0⟩,Ez p cs bl)]++ [(lf (pS (ay s 1)) v,p.2.2.1.getD 0 jN),(opV (ay s 1) tp,Fs p x co)])=true:=by
  show (onB s (Ez p cs bl)&&(onB s (p.2.2.1.getD 0 jN)&&(onB s (Fs p x co)&&true)))=true
  rw [cG.1,on0,cS]
  rfl
 have f6:=f5 x (⟨1,0,0,0⟩,([],[H2 (pS (ay s 1)) (⟨1,0,0,0⟩,Ez p cs bl)]++ [(lf (pS (ay s 1)) v,p.2.2.1.getD 0 jN),(opV (ay s 1) tp,Fs p x co)])) onw
 have gw:lj (tG hs ([H2 (pS (ay s 1)) (⟨1,0,0,0⟩,Ez p cs bl)]++ [(lf (pS (ay s 1)) v,p.2.2.1.getD 0 jN),(opV (ay s 1) tp,Fs p x co)]))=
  gp (aD hs) (Ez p cs bl)+((mG hs).act (-sc s v) (gp (aD hs) (p.2.2.1.getD 0 jN))+(mG hs).act (sc s (opV (ay s 1) tp)) (gp (aD hs) (Fs p x co))):=by
  show smG (dv _ ⟨1,0,0,0⟩ ⟨0,0,0,0⟩).nat _+(smG _ _+(smG _ _+0))=_
  rw [oI,<-ry hs,<-ry hs,<-ry hs,ru hs,app hs,aAM,aaH,show (1:Zs s)+0=1 by grind,(mG hs).aqj]
  rfl
 rw [gw] at rv
 generalize hw:([H2 (pS (ay s 1)) (⟨1,0,0,0⟩,Ez p cs bl)]++ [(lf (pS (ay s 1)) v,p.2.2.1.getD 0 jN),(opV (ay s 1) tp,Fs p x co)])=w0 at*
 generalize hR:aX s (ay s 1) p.2.1.toNat (opQ p cs bl x s (ay s 1) tp co [])=R at*
 generalize hA:Gq s (ay s 1) x p.2.1.toNat (opQ p cs bl x s (ay s 1) tp co []) (⟨1,0,0,0⟩,([],w0))=A at*
 have hc:ac (ay s 1)=true:=bG hs
 have eb:(wP p cs bl x s (ay s 1) tp co []).2.2.2=jO s (Fs p x co)++(W++(lG s (R.2.1.2.2.2.1.getD 0 ⟨0,0,0,0⟩)++(lG s R.2.1.2.2.2.2.2.2++ []))):=by
  rw [eO]
  unfold I0
  rw [e7,aK]
  show R.2.2.2.2++_++_=_
  rw [hWb,List.append_nil]
  show ([]++jO s (Fs p x co))++W++_++_=_
  simp only [List.nil_append,List.append_assoc]
 have hu:=Kg cS (W++(lG s (R.2.1.2.2.2.1.getD 0 ⟨0,0,0,0⟩)++(lG s R.2.1.2.2.2.2.2.2++ [])))
 rw [<-eb] at hu
 have s1:=WG hc (R.2.1.2.2.2.1.getD 0 ⟨0,0,0,0⟩) (lG s R.2.1.2.2.2.2.2.2++ [])
 have s2:=WG hc R.2.1.2.2.2.2.2.2 []
 generalize (wP p cs bl x s (ay s 1) tp co []).2.2.2=b at*
 have ev:=aEK hs hp (f3:R.2.1.1=p) (B:=P) (us:=us) A.1 (ofP (pS (ay s 1)) (R.2.1.2.2.2.1.getD 0 ⟨0,0,0,0⟩)) (ofP (pS (ay s 1)) R.2.1.2.2.2.2.2.2) (opV (ay s 1) (ao tp).2.2) A.2.2 f1 (by rw [u4];exact congrArg (λt=> [t]) (by grind)) (λk=>u5 k) (by rw [u1];exact hn)
  (by rw [u3];show sc s ⟨1,0,0,0⟩*P=P;rw [aAM];grind) (aAO hs _) (aAO hs _) f2.symm
 refine ⟨wT p (opV (ay s 1) (ao tp).2.2) A.1 (ofP (pS (ay s 1)) (R.2.1.2.2.2.1.getD 0 ⟨0,0,0,0⟩)) (ofP (pS (ay s 1)) R.2.1.2.2.2.2.2.2) us A.2.2,R.2.2.1,?_,?_,?_,?_⟩
 ·have vr:gy p [(⟨1,0,0,0⟩,Ez p cs bl)] x v s b tp=(0,(lG s (R.2.1.2.2.2.1.getD 0 ⟨0,0,0,0⟩)++(lG s R.2.1.2.2.2.2.2.2++ []),(R.2.2.1,A))):=by
   unfold gy aop
   rw [hu,hp,show rM (pS (ay s 1)) s [(⟨1,0,0,0⟩,Ez p cs bl)]= [H2 (pS (ay s 1)) (⟨1,0,0,0⟩,Ez p cs bl)] by unfold rM;rw [List.takeWhile_cons,show onB s (Ez p cs bl)=true from cG.1];rfl]
   dsimp only
   rw [hw,<-hA]
   exact hv _ _
  unfold av6
  rw [e0,aK,hp,show ([(⟨1,0,0,0⟩,Ez p cs bl)].all λt:Tm=>onB s t.2)=true by rw [aA,cG.1];rfl,aK,hu,e4,e5,e6]
  unfold aFs
  rw [vr]
  dsimp only
  rw [s1]
  dsimp only
  rw [s2]
  have u2':A.2.1=us:=u2
  rw [u2']
  rfl
 ·have wl:(wtE (pS (ay p.1 1)) (lf (pS (ay p.1 1)) (ofP (pS (ay s 1)) (R.2.1.2.2.2.1.getD 0 ⟨0,0,0,0⟩))) us).length=p.2.2.1.length:=by rw [hn,<-u1];exact Tu _ _ _ _
  unfold wT
  generalize wtE (pS (ay p.1 1)) (lf (pS (ay p.1 1)) (ofP (pS (ay s 1)) (R.2.1.2.2.2.1.getD 0 ⟨0,0,0,0⟩))) us=w at*
  have e:upto (rQ p.2.2.1 w) A.2.2 w.length=A.2.2++w.zip p.2.2.1:=by
   rw [<-rV (show w.length<=p.2.2.1.length by omega)]
   exact uU (λi=>(w.getD i ⟨0,0,0,0⟩,p.2.2.1.getD i jN)) _ _
  rw [e]
  unfold cy at f6⊢
  rw [List.all_append,List.all_append,f6,aA,aA,hU,hW,show ((w.zip p.2.2.1).all λt=>onB s t.2)=true from List.all_eq_true.2 λt ht=>List.all_eq_true.1 hG _ (List.of_mem_zip ht).2]
  rfl
 ·have wl:(wtE (pS (ay p.1 1)) (lf (pS (ay p.1 1)) (ofP (pS (ay s 1)) (R.2.1.2.2.2.1.getD 0 ⟨0,0,0,0⟩))) us).length=p.2.2.1.length:=by rw [hn,<-u1];exact Tu _ _ _ _
  have al:A.2.2.length<=100:=by
   have:=(xD (ay s 1) s x p.2.1.toNat (W++ [],((opQ p cs bl x s (ay s 1) tp co []).2.1,(⟨1,0,0,0⟩,([],w0)))) (by rw [hv];rfl)).2
   rw [hv,hA] at this
   have:A.2.2.length=w0.length+2*p.2.1.toNat:=this
   rw [<-hw] at this
   have:A.2.2.length=3+2*p.2.1.toNat:=this
   omega
  unfold wT
  rw [bL,Sz,wl]
  show _+2<=1000
  have:=r.2.2.2.2.2.1
  omega
 ·have t1:lj (tG hs (wT p (opV (ay s 1) (ao tp).2.2) A.1 (ofP (pS (ay s 1)) (R.2.1.2.2.2.1.getD 0 ⟨0,0,0,0⟩)) (ofP (pS (ay s 1)) R.2.1.2.2.2.2.2.2) us A.2.2))+vO hs (opO p cs bl x (ay s 1) tp co)=
   gp (aD hs) (Ez p cs bl)+((mG hs).act (-sc s v) (gp (aD hs) (p.2.2.1.getD 0 jN))+(mG hs).act (sc s (opV (ay s 1) tp)) (gp (aD hs) (Fs p x co))):=by
   have rv:lj (tG hs A.2.2)+vO hs (opO p cs bl x (ay s 1) tp co)=_+vO hs R.2.1:=rv
   rw [<-ev] at rv
   generalize lj (tG hs (wT p (opV (ay s 1) (ao tp).2.2) A.1 (ofP (pS (ay s 1)) (R.2.1.2.2.2.1.getD 0 ⟨0,0,0,0⟩)) (ofP (pS (ay s 1)) R.2.1.2.2.2.2.2.2) us A.2.2))=t at*
   generalize gp (aD hs) (Ez p cs bl)+((mG hs).act (-sc s v) (gp (aD hs) (p.2.2.1.getD 0 jN))+(mG hs).act (sc s (opV (ay s 1) tp)) (gp (aD hs) (Fs p x co)))=k at*
   refine ahn (x:=vO hs R.2.1) ?_
   rw [<-WQ k,<-rv]
   ac_rfl
  rw [getD_map (gp (aD hs)) p.2.2.1 0 jN 0 h0] at sv
  exact Ipa.aog (mG hs) _ _ _ t1 sv
end
section
variable {s:Int} (hs:ac s=true)
theorem ag5 {P:Pt} (hP:onB s P=true):P.2.2=true ↔ gp (aD hs) P=0:=by
 refine ⟨λh=> ?_,λh=> ?_⟩
 ·rw [RO P (ft hP).2.1]
  refine Subtype.ext ?_
  show toQ P=none
  unfold toQ
  rw [h]
  rfl
 ·rw [aGz hs hP (vP hs) (h.trans (Oe hs).symm)]
  rfl
variable [NeZero (pS (ay s 1))]
theorem az5 (pr:Pr (pS (ay s 1))) {P:Pt} (hP:onB s P=true) (hi:P.2.2=false) (k:Zs s):(mG hs).act k (gp (aD hs) P)=0 ↔ k=0:=by
 refine ⟨λh=> ?_,λh=>by rw [h];exact (mG hs).PJ _⟩
 have hx:gp (aD hs) P≠0:=λe=>by rw [(ag5 hs hP).2 e] at hi;cases hi
 have hd:=axz hs pr (k:=k.val) h hx
 exact Fin.ext (Nat.eq_zero_of_dvd_of_lt hd k.isLt)
include hs in
theorem ay6 (x:ab) (l:List ab):(rP (pS (ay s 1)) x l).nat<pS (ay s 1):=by
 cases l with
 |nil=>exact (eP (bG hs)).1
 |cons v r=>exact Ad (aaA (bG hs)) _ _
include hs in
theorem aHK (v:ab) {e:ab} (he:e.nat<pS (ay s 1)):sc s e-sc s v=0 ↔ dv (pS (ay s 1)) v ⟨0,0,0,0⟩=e:=by
 have hp:=eP (bG hs)
 have h1:(dv (pS (ay s 1)) v ⟨0,0,0,0⟩).nat=v.nat%pS (ay s 1):=cv hp
 refine ⟨λh=> ?_,λh=> ?_⟩
 ·have h2:sc s e=sc s v:=by grind
  have h3:e.nat%pS (ay s 1)=v.nat%pS (ay s 1):=congrArg Fin.val h2
  rw [bn he] at h3
  exact gI (h1.trans h3.symm)
 ·have h2:sc s e=sc s v:=by
   rw [<-h,ru hs,aaH]
   grind
  grind
end
theorem WE {a:Gu} (v:ab) (hk:(cU a.1==0)=true) (he:((fp a).1==0)=true) (ht:a.2.1.2.length<=140737488355328) (hco:a.2.2.1.length<=140737488355328):
 (MP a==0)=true/\((zq a (fp a).2 v).1==0)=true/\cy a.1.1 (zq a (fp a).2 v).2.1=true/\(zq a (fp a).2 v).2.1.length<=1000/\(oH a (fp a).2 v).2.2=0/\
  (oH a (fp a).2 v).1=(dv (pS (ay a.1.1 1)) v ⟨0,0,0,0⟩==rP (pS (ay a.1.1 1)) a.2.2.2.2.2 a.2.2.2.1):=by
 obtain ⟨p,src,co,cs,bl,x⟩:=a
 have e1:(MP (p,(src,(co,(cs,(bl,x)))))==0)=true:=by
  unfold fp at he
  cases h:MP (p,(src,(co,(cs,(bl,x)))))==0
  ·rw [h,aT] at he
   exact absurd (h.symm.trans he) (by decide)
  ·rfl
 unfold fp at he⊢
 unfold oH
 rw [e1] at he⊢
 rw [aK] at he⊢
 rw [aK]
 have hs:ac p.1=true:=by
  have:=Hb hk
  cases h:ac p.1
  ·unfold cU at hk
   dsimp only at hk
   rw [h] at hk
   cases hk
  ·rfl
 have hq:pS (ay p.1 1)≠0:=by have:=eP (bG hs);omega
 haveI:NeZero (pS (ay p.1 1)):=⟨hq⟩
 have hpr:Pr (pS (ay p.1 1)):=(aD (bG hs)).pr
 obtain ⟨ts,T,h1,h2,h3,h4⟩:=aCK hs hpr rfl cs bl x v src.2 co he ht hco
 have hQ:zq (p,(src,(co,(cs,(bl,x))))) (SI (p,(src,(co,(cs,(bl,x)))))).2.2.2 v=(0,(ts,([],T))):=h1
 dsimp only
 rw [hQ]
 obtain ⟨k1,k2⟩:=It hs h2
 refine ⟨rfl,rfl,h2,h3,rfl,?_⟩
 show (AR p.1 (wN p.1 ts)).2.2=_
 obtain ⟨b1,_,_⟩:=Hb hk
 have h0:0<p.2.2.1.length:=(pL (agv he).1).2.2.2.2.1
 have g0:=LM (Bool.not_eq_true' _▸List.all_eq_true.1 b1 _ (List.getElem_mem h0))
 rw [<-iy (d:=jN) h0] at g0
 rw [h4,<-Sl hs] at k2
 have i1:=ag5 hs k1
 rw [k2,az5 hs hpr g0.1 g0.2,aHK hs v (ay6 hs x cs)] at i1
 show (AR p.1 (wN p.1 ts)).2.2=(dv (pS (ay p.1 1)) v ⟨0,0,0,0⟩==rP (pS (ay p.1 1)) x cs)
 rw [Bool.eq_iff_iff,i1,beq_iff_eq]
theorem ady (c:Int) (P:Pt):(jO c P).length<=32:=by
 cases h:onB c P
 ·unfold jO
  rw [h]
  exact Nat.zero_le _
 ·exact Nat.le_of_eq (tZ h)
theorem apt (c s:Int) (q:CH):(bo c s q).2.2.2.2.length<=q.2.2.2.length+64:=by
 have h1:=ady c (avS q.1 (ao q.2.2.1).1)
 have h2:=ady c (RL q.1 (ao (ao q.2.2.1).2.2).1)
 unfold bo
 cases (ao q.2.2.1).2.1==0
 ·exact Nat.le_add_right _ _
 cases (ao (ao q.2.2.1).2.2).2.1==0
 ·exact Nat.le_add_right _ _
 cases (ao q.2.1).2.1==0<;>cases bC (dv (pS s) (ao q.2.1).1 ⟨0,0,0,0⟩)<;>simp only [aK,aT,bL]<;>omega
theorem Ng (c s:Int):∀ (n:Nat) (q:CH),(aX c s n q).2.2.2.2.length<=q.2.2.2.length+64*n
 |0,q=>Nat.le_refl _
 |n+1,q=>by
  have h1:=apt c s q
  have h2:=Ng c s n (bo c s q).2
  unfold aX
  cases decide (1<q.1.2.2.2.1.length)
  ·exact Nat.le_add_right _ _
  cases (bo c s q).1==0<;>simp only [aK,aT]<;>omega
theorem axA (p:ml) (cs:List ab) (bl x:ab) (c s:Int) (tp co:List ab) (out:List UInt8):(wP p cs bl x c s tp co out).2.2.2.length<=out.length+96+64*p.2.1.toNat:=by
 have h1:=ady c (Fs p x co)
 have h2:=Ng c s p.2.1.toNat (opQ p cs bl x c s tp co out)
 have h3:(opQ p cs bl x c s tp co out).2.2.2=out++jO c (Fs p x co):=rfl
 have h5:∀ v,(lG c v).length=32:=λv=>Ff c v
 rw [h3,bL] at h2
 have h4:(I0 c (aX c s p.2.1.toNat (opQ p cs bl x c s tp co out))).2.2.2.length<=out.length+96+64*p.2.1.toNat:=by
  unfold I0
  cases (aX c s p.2.1.toNat (opQ p cs bl x c s tp co out)).1==0
  ·exact cV h2 (by omega)
  ·rw [aK,bL,bL,h5,h5];omega
 unfold wP
 cases gE p c==0
 ·exact cV (Nat.le_add_right _ _) (Nat.le_add_right _ _)
 cases decide (cs.length<=p.2.2.1.length)
 ·exact cV (Nat.le_add_right _ _) (Nat.le_add_right _ _)
 cases decide (opN p<=co.length)
 ·exact cV (Nat.le_add_right _ _) (Nat.le_add_right _ _)
 cases (opR p co).2.1==0
 ·exact cV (Nat.le_add_right _ _) (Nat.le_add_right _ _)
 have h6:(out++jO c (Fs p x co)).length<=out.length+96+64*p.2.1.toNat:=by rw [bL];omega
 cases (ao tp).2.1==0
 ·exact h6
 cases (ao (ao tp).2.2).2.1==0
 ·exact h6
 cases bC (opV s (ao tp).2.2)
 ·exact h4
 ·exact h6
theorem aDQ {p:ml} (hk:(cU p==0)=true) (cs:List ab) (bl x:ab) {tp co:List ab} (ht:tp.length<=140737488355328) (hco:co.length<=140737488355328) (hg:p.2.2.1.length<=140737488355328):
 Vv p cs bl x p.1 (ay p.1 1) tp co []=true:=by
 have hs:ac p.1=true:=(OJ hk [] ⟨0,0,0,0⟩ (Nat.zero_le _)).1
 have hq:pS (ay p.1 1)≠0:=by have:=eP (bG hs);omega
 haveI:NeZero (pS (ay p.1 1)):=⟨hq⟩
 unfold Vv
 rw [ag ⟨hg,ht,hco,by show 0<=_;omega⟩,bG hs,Bool.true_and,Bool.true_and]
 cases hN:agw p cs p.1 co
 ·rfl
 rw [aK]
 unfold agw at hN
 simp only [aw] at hN
 obtain ⟨e0,l1,l2,_⟩:=hN
 have l1:=bm l1
 have l2:=bm l2
 have r:=pL e0
 obtain ⟨b1,b2,b3⟩:=Hb hk
 have hG:(p.2.2.1.all λP=>onB p.1 P)=true:=List.all_eq_true.2 λP hP=>(LM (Bool.not_eq_true' _▸List.all_eq_true.1 b1 P hP)).1
 have hW:=(LM b2).1
 have hU:=(LM b3).1
 have n1:=NI p
 have hn:=r.2.2.2.2.2.2.2.2
 have hK:p.2.1.toNat<=5:=by omega
 have n2:(co.take (opN p)).length=p.2.2.1.length:=by rw [bM];omega
 have n4:(opS p x co).length=p.2.2.1.length:=by unfold opS;rw [cu];exact n2
 have cS:onB p.1 (Fs p x co)=true:=(XM hs rfl hk (opS p x co) (opR p co).1 (by omega)).1
 rw [(OJ hk (opS p x co) (opR p co).1 (by omega)).2,cS,Bool.true_and,Bool.true_and]
 cases hN2:QN (ay p.1 1) tp
 ·rfl
 rw [aK]
 have la:(opO p cs bl x (ay p.1 1) tp co).2.2.2.1.length=2^p.2.1.toNat:=by
  show (List.set (opU p cs x (ay p.1 1) tp co).1 0 _).length=_
  rw [cu,<-hn]
  exact (vq _ _ _ _ _ _ _).1.trans fM
 have lb:(opO p cs bl x (ay p.1 1) tp co).2.2.2.2.1.length=2^p.2.1.toNat:=by
  show (opU p cs x (ay p.1 1) tp co).2.1.length=_
  rw [<-hn,<-n4]
  exact (vq _ _ _ _ _ _ _).2
 obtain ⟨ro,rn⟩:=Ij hs p.2.1.toNat (opQ p cs bl x p.1 (ay p.1 1) tp co []) (by omega) rfl rfl la lb hn hU hW hG (cV (fS _) (cV (fS _) ht))
  (cV (fS _) (by rw [ck];omega)) (by show ([]++jO p.1 (Fs p x co)).length+_<=_;rw [List.nil_append,tZ cS];omega)
 rw [ro,Bool.true_and]
 unfold ni
 cases e7:(aX p.1 (ay p.1 1) p.2.1.toNat (opQ p cs bl x p.1 (ay p.1 1) tp co [])).1==0
 ·rfl
 obtain ⟨f1,_,_,f4,_⟩:=rn e7
 have f4:_=([]++jO p.1 (Fs p x co)).length+64*p.2.1.toNat:=f4
 rw [List.nil_append,tZ cS] at f4
 exact ag ⟨by omega,by omega⟩
theorem atE {a:Gu} (e0:(cU a.1==0)=true) (e2:(a.2.1.1==1)=true) (l1:a.1.2.2.1.length*72<=140737488355328) (l2:a.2.1.2.length*32<=140737488355328) (l3:a.2.2.1.length*32<=140737488355328) (l4:a.2.2.2.1.length*32<=140737488355328):
 X7 a=true/\(SI a).2.2.2.length<=1000:=by
 have hk:a.1.2.1.toNat<=5:=by
  have hs:=(OJ e0 [] ⟨0,0,0,0⟩ (Nat.zero_le _)).1
  have:(gE a.1 a.1.1==0)=true:=by
   unfold gE
   rw [e0,beq_self_eq_true]
   rfl
  have:=pL this
  omega
 have hl:(SI a).2.2.2.length<=1000:=by
  have:=axA a.1 a.2.2.2.1 a.2.2.2.2.1 a.2.2.2.2.2 a.1.1 (ay a.1.1 1) a.2.1.2 a.2.2.1 []
  have h2:(SI a).2.2.2.length<=0+96+64*a.1.2.1.toNat:=this
  omega
 refine ⟨?_,hl⟩
 have ho:tg (aGU a)=true:=aDQ (tp:=a.2.1.2) (co:=a.2.2.1) e0 a.2.2.2.1 a.2.2.2.2.1 a.2.2.2.2.2 (by omega) (by omega) (by omega)
 have hb:eJ (((SI a).2.2.2,()),())=true:=ag (show (SI a).2.2.2.length<=_ by omega)
 unfold X7
 rw [e2,ho,hb,show gU ((a.2.1,()),())=true from ag l2,show ic ((a.1,()),())=true from ag l1,show dT ((a.2.2.1,()),())=true from ag l3,show oo ((a.2.2.1,()),())=true from ag l3,show dT ((a.2.2.2.1,()),())=true from ag l4,Bool.and_self,Bool.or_true]
 rfl
theorem aEm {a:Gu} (v:ab) (e0:(cU a.1==0)=true) (e1:a.2.2.2.1.length<=a.1.2.2.1.length) (e2:(a.2.1.1==1)=true) (e3:((fp a).1==0)=true) (l1:a.1.2.2.1.length*72<=140737488355328) (l2:a.2.1.2.length*32<=140737488355328) (l3:a.2.2.1.length*32<=140737488355328) (l4:a.2.2.2.1.length*32<=140737488355328):
 WH a (fp a).2 v=true:=by
 obtain ⟨_,hl⟩:=atE e0 e2 l1 l2 l3 l4
 obtain ⟨h1,h2,h3,h4,_⟩:=WE v e0 e3 (by omega) (by omega)
 have hb:(fp a).2.length<=1000:=by
  unfold fp
  rw [h1]
  exact hl
 obtain ⟨hs,ha⟩:=OJ e0 a.2.2.2.1 a.2.2.2.2.1 e1
 have k1:om ((a.1.1,a.2.1,(fp a).2,()),())=true:=by
  show (a.2.1.1==1&&decide ((fp a).2.length<=140737488355328))=true
  rw [e2,ag (by omega)]
  rfl
 have k2:iQ ((a.1,a.2.2.2.1,a.2.2.2.2.1,()),())=true:=by
  show ((cU a.1==0)&&(decide (a.2.2.2.1.length<=a.1.2.2.1.length)&&cy a.1.1 (SA a.1 a.2.2.2.1 a.2.2.2.2.1)))=true
  rw [e0,ag e1,ha]
  rfl
 have k3:akk a.1 (aEn a) (ay a.1.1 1) a.2.1.2=true:=by
  unfold akk
  rw [ag ⟨by omega,by show 1<=1000;omega,by omega⟩,beq_self_eq_true]
  rfl
 have k4:mI ((a.1.1,(zq a (fp a).2 v).2.1,()),())=true:=by
  show (ac a.1.1&&(decide ((zq a (fp a).2 v).2.1.length<=100000)&&cy a.1.1 (zq a (fp a).2 v).2.1))=true
  rw [hs,h3,ag (by omega)]
  rfl
 unfold WH
 rw [k1,k2,k3,k4,show gU ((a.2.1,()),())=true from ag l2,show rX (((fp a).2,()),())=true from ag (show (fp a).2.length<=_ by omega),show ic ((a.1,()),())=true from ag l1,show dT ((a.2.2.2.1,()),())=true from ag l4]
 simp only [Bool.or_true,Bool.and_self]
end
section
namespace Sx
open Go Go.RowKit Go.ChangeShapes Go.WideShapes Go.ChangeAt
def aIc (P:Program) (T:TypeId) (i:Nat) (T1:TypeId) (o k:Nat):Bool:=match P.underlying T with
 |some (.struct fs)=>match fs.toList[i]? with
  |some f=>Nat.beq f.offset o&&(Nat.beq f.type T1&&Nat.beq (P.cellsOf T1) k)
  |none=>false
 |_=>false
theorem ac7 {H:Type} {enc:TypeId×Value->H} {P:Program} {w:World} {sp:Nat->Bool} {T T1:TypeId} {i o k:Nat} (hb:aIc P T i T1 o k=true)
 {v c:Value} (hv:(v.cells.toList.drop o).take k=c.cells.toList) {d:DataW H} {ps:List MemPlace} (h:DataW.Trod enc P w 0 sp true T v d ps) (hw:∀ n ∈ d.weights P T,n<=reachBytes):
 ∃ d1 p1,DataW.Trod enc P w 0 sp true T1 c d1 p1/\∀ n ∈ d1.weights P T1,n<=reachBytes:=by
 unfold aIc at hb
 split at hb
 ·rename_i fs hu
  split at hb
  ·rename_i f hf
   simp only [aw] at hb
   have h0:f.offset=o:=aY hb.1
   have h2:f.type=T1:=aY hb.2.1
   have h3:P.cellsOf T1=k:=aY hb.2.2
   subst h2
   obtain ⟨fuel,hr⟩:=h
   cases fuel with
   |zero=>simp [DataW.trod] at hr
   |succ fuel=>
    simp only [DataW.trod,hu] at hr
    split at hr
    ·simp only [Option.map_eq_some_iff] at hr
     obtain ⟨xs,hm,hd⟩:=hr
     cases hd
     obtain ⟨m1,m2⟩:=yO hm
     obtain ⟨hi,hfi⟩:=List.getElem?_eq_some_iff.1 hf
     have hi':i<xs.length:=by rw [m1];exact hi
     have:=m2 i hi hi'
     rw [hfi,h0,h3,hv] at this
     refine ⟨xs[i].1,xs[i].2,⟨fuel,this⟩,λn hn=>hw n ?_⟩
     simp only [DataW.weights,hu]
     refine M4 (i:=i) (t:=f.type) (d:=xs[i].1) ?_ ?_ hn
     ·rw [List.getElem?_map,hf];rfl
     ·rw [List.getElem?_map,m9 hi'];rfl
    ·cases hr
  ·cases hb
 ·cases hb
theorem BZ {H:Type} {enc:TypeId×Value->H} {P:Program} {te:TE} (hte:kv P te) {w:World} {sp:Nat->Bool} {T T1 e:TypeId} {i o:Nat} {ti ei:TI} (hb:aIc P T i T1 o 1=true) (hT:te T1=some ti) (hd:ti.desc=.slice e) (hei:te e=some ei)
 {v:Value} {ad:Option Addr} {n cap:Nat} (hv:(v.cells.toList.drop o).take 1= [.slice ad n cap]) {d:DataW H} {ps:List MemPlace} (h:DataW.Trod enc P w 0 sp true T v d ps) (hw:∀ n ∈ d.weights P T,n<=reachBytes):n*ei.bytes<=reachBytes:=by
 obtain ⟨_,_,k1,k2⟩:=ac7 hb (c:=.slice ad n cap) hv h hw
 exact aaD hte hT hd hei k1 k2
end Sx
end
section
open Sx Go
set_option maxRecDepth 100000
def kq:af:=⟨[.val true aE5,dw],[],true,0,false⟩
abbrev Jv:Type:=(O9×o3)×Unit
def iE:aL:=⟨og,[],false⟩
def GV (a0:O9) (a1:ab):OT kq.Y:=
 let z0:kW×PUnit:=(a0.fst,())
 let z1:Int×aF:=fp a0
 let z2:Int:=ay a0.fst.fst (1:Int)
 let z3:=z1.snd
 let z4:Bool×Int×Int:=oH a0 z3 a1
 let z5:ab:= {w0:=0,w1:=0,w2:=0,w3:=0}
 let z6:Nat:=pS z2
 let z7:ab:=dv z6 a1 z5
 let z8:ab:=rP z6 a0.snd.snd.snd.snd.snd a0.snd.snd.snd.fst
 (gd [ic (z0,()),ig (z0,())] (.br (!cU a0.fst==(0:Int))
 (.ok ⟨iE,((true,()),())⟩)
 (.br (decide ((↑(List.length a0.fst.snd.snd.fst):Int)<(↑(List.length a0.snd.snd.snd.fst):Int)))
  (.ok ⟨iE,((true,()),())⟩)
  (.br (!a0.snd.fst.fst==(1:Int))
   (.ok ⟨iE,((true,()),())⟩)
   (gd [DW ((a0,()),())] (.br (!z1.fst==(0:Int))
    (.ok ⟨iE,((true,()),())⟩)
    (gd [dT ((a0.snd.snd.snd.fst,()),()),sL ((z2,a0.snd.snd.snd.fst,a0.snd.snd.snd.snd.snd,()),()),JJ ((a0,z3,a1,()),())] (.br (z4.snd.snd==(0:Int))
     (gd [gT ((z2,a1,z5,()),())] (.ok ⟨iE,((z4.fst==(z7.w0==z8.w0&&(z7.w1==z8.w1&&(z7.w2==z8.w2&&(z7.w3==z8.w3&&true)))),()),())⟩))
     (.ok ⟨iE,((false,()),())⟩)))))))))
theorem abS (pre:Jv->Bool) (F:Jv->OT kq.Y) (hF:∀ (x:Jv) oy,pre x=true->(F x).run=some oy->(GV x.1.1 x.1.2.1).run=some oy):aa aj 6 (kq.az pre F):=
 di anQ 6 Tryz.f6 kq [iE] bD (λx=>GV x.1.1 x.1.2.1) hF
def ox (x:Jv):Bool:=decide (x.1.1.1.2.2.1.length*72<=140737488355328/\x.1.1.2.1.2.length*32<=140737488355328/\x.1.1.2.2.1.length*32<=140737488355328/\x.1.1.2.2.2.1.length*32<=140737488355328)
def agR (_:Jv):OT kq.Y:=.ok ⟨iE,((true,()),())⟩
theorem aza (a b:ab):(a.w0==b.w0&&(a.w1==b.w1&&(a.w2==b.w2&&(a.w3==b.w3&&true))))=(a==b):=by
 obtain ⟨a0,a1,a2,a3⟩:=a
 obtain ⟨b0,b1,b2,b3⟩:=b
 rw [Bool.eq_iff_iff]
 simp
theorem aqX:aa aj 6 (kq.az ox agR):=abS _ _ λx oy hp ho=>by
 rw [<-ho]
 clear ho
 obtain ⟨⟨a,v,⟨⟩⟩,⟨⟩⟩:=x
 obtain ⟨l1,l2,l3,l4⟩:=bm (show decide (a.1.2.2.1.length*72<=140737488355328/\a.2.1.2.length*32<=140737488355328/\a.2.2.1.length*32<=140737488355328/\a.2.2.2.1.length*32<=140737488355328)=true from hp)
 show (GV a v).run=some (⟨iE,((true,()),())⟩:kq.Y)
 unfold GV
 refine (ae ?_).trans ?_
 ·simp only [aA,aI,aJ,aw]
  exact ⟨ag l1,ag (show a.1.2.2.1.length<=_ by omega)⟩
 refine eW (cU a.1==0) (λe0=> ?_) (λe0=> ?_)
 ·exact OT.ak (congrArg (!·) e0)
 refine (OT.au (congrArg (!·) e0)).trans ?_
 refine eW (decide ((a.1.2.2.1.length:Int)<(a.2.2.2.1.length:Int))) (λe1=> ?_) (λe1=> ?_)
 rotate_left
 ·exact OT.ak e1
 refine (OT.au e1).trans ?_
 have e1:a.2.2.2.1.length<=a.1.2.2.1.length:=by have:=of_decide_eq_false e1;omega
 refine eW (a.2.1.1==1) (λe2=> ?_) (λe2=> ?_)
 ·exact OT.ak (congrArg (!·) e2)
 refine (OT.au (congrArg (!·) e2)).trans ((ae ?_).trans ?_)
 ·simp only [aA,aI,aJ]
  exact (atE e0 e2 l1 l2 l3 l4).1
 refine eW ((fp a).1==0) (λe3=> ?_) (λe3=> ?_)
 ·exact OT.ak (congrArg (!·) e3)
 obtain ⟨h1,h2,h3,h4,h5,h6⟩:=WE v e0 e3 (by omega) (by omega)
 have hs:ac (ay a.1.1 1)=true:=bG (OJ e0 [] ⟨0,0,0,0⟩ (Nat.zero_le _)).1
 refine (OT.au (congrArg (!·) e3)).trans ((ae ?_).trans ?_)
 ·simp only [aA,aI,aJ,aw]
  exact ⟨ag l4,hs,aEm v e0 e1 e2 e3 l1 l2 l3 l4⟩
 refine (OT.ak (beq_iff_eq.2 h5)).trans ((ae ?_).trans ?_)
 ·simp only [aA,aI,aJ]
  exact hs
 ·refine congrArg (λb:Bool=>some (⟨iE,((b,()),())⟩:kq.Y)) ?_
  rw [aza,h6,beq_self_eq_true]
def abR:bt:=(kq.az ox agR)
theorem VN:aa aj 6 abR:=aqX
end
end Go.Proofs.YthnnknnbfhkomaaGreat
