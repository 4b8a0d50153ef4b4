/- A symbolic machine for Go code over plain data, and functions of the program as it shows them. No statement is proved in this file. -/
import Derived.KernelRfl
import Derived.Test.YthnnknnbfhkomaaGreatXe
set_option linter.unusedSimpArgs false
set_option linter.unusedVariables false
set_option linter.unusedSectionVars false
namespace Go.Proofs.YthnnknnbfhkomaaGreat
section
open Sx Go
set_option maxRecDepth 100000
def jl:af:=⟨[.val true aAg,eT,ly,du,du],mY,false,2,true⟩
noncomputable abbrev VG:anx:=aHd
def aqJ:Nat:=3
theorem abX:LO aj VG:=apd
abbrev vw:Type:=(kS×Unit×ef×xe)×FM
def aqK:Shape:=⟨215,[rz,(2,ly),FN,(8,gn),(9,Cr),nV,nU,(212,FP),(213,FP),(214,Cm)],[aec,kU,(2,uu),nS,Cl,(5,.cells [.own 7]),(6,o4),(7,FT)],2,true⟩
def alG:Shape:=⟨212,[rz,FN,(8,gn),(9,Cr),nV,nU,(12,aD),(40,ly),(41,aD),(42,aD)],aiB,8,true⟩
abbrev bN:Type:=(Unit×Unit×Unit×Unit×Unit×Unit×Int×ef×jM)×aiu
def kI:Shape:=⟨212,[nV,nU],aiB,8,true⟩
abbrev qd:Type:=mX×aiu
def nG:Shape:=⟨212,[rz,FN,(8,gn),(9,Cr),nV,nU,(12,aD)],aiB,8,true⟩
abbrev lP:Type:=(Unit×LD)×aiu
def alN (a12:Int) (a40:ef) (a41:Int) (a42:Int) (c0_0:Int) (c0_2:aH) (c1_0:Int) (c1_1:aB) (c2_0:kS) (c3:ap) (c4:ap) (c6_0:Int) (c8:ef):OT (Sum bN aZ):=
 let z0:ab:= {w0:=0,w1:=0,w2:=0,w3:=0}
 let z1:ab×cI:=List.getD a40 (Int.toNat a42) (z0,z0,z0,false)
 let z2:=z1.snd
 let z3:=z1.fst
 (.br (decide (a42<a41))
 (gd [inB a42 (List.length a40)] (.br (onB c2_0.fst z2)
  (gd [gQ ((a12,z3,z0,()),()),decide ((List.length c8+1)*104<=140737488355328),inR (a42+(1:Int))] (.ok (.inl (((),(),(),(),(),(),a12,a40,a41,a42+(1:Int),()),(c0_0,(),c0_2,()),(c1_0,c1_1,()),(c2_0,()),c3,c4,((),()),(c6_0,()),(),c8++ [(dr (pS a12) z3 z0,z2)],()))))
  (.ok (.inr ⟨(.pan (.iface 175 (.agg [.int (41:Int)])),kI),(((),(),()),(c0_0,(),c0_2,()),(c1_0,c1_1,()),(c2_0,()),c3,c4,((),()),(c6_0,()),(),c8,())⟩))))
 (.ok (.inr ⟨(.exit 0,nG),(((),(),(),(),(),(),a12,()),(c0_0,(),c0_2,()),(c1_0,c1_1,()),(c2_0,()),c3,c4,((),()),(c6_0,()),(),c8,())⟩)))
def ov (s:bN):OT (Sum bN aZ):=alN s.1.2.2.2.2.2.2.1 s.1.2.2.2.2.2.2.2.1 s.1.2.2.2.2.2.2.2.2.1 s.1.2.2.2.2.2.2.2.2.2.1 s.2.1.1 s.2.1.2.2.1 s.2.2.1.1 s.2.2.1.2.1 s.2.2.2.1.1 s.2.2.2.2.1 s.2.2.2.2.2.1 s.2.2.2.2.2.2.2.1.1 s.2.2.2.2.2.2.2.2.2.1
def NO (g0_p:bN->qd) (v0:bN->Int) (c0_p:bN->Bool) (g0_0:bN->lP) (s:bN):OT aZ:=(.br (c0_p s) (.ok ⟨(.pan (.iface 175 (.agg [.int (v0 s)])),kI),g0_p s⟩) (.ok ⟨(.exit 0,nG),g0_0 s⟩))
def alF:Shape:=⟨212,[rz,FN,(8,gn),nV,nU,(12,aD),(17,LK),(18,.ptr 9 0 0),(19,.own 10),(99,aD),(100,aD)],aBo,8,true⟩
abbrev bw:Type:=(Unit×Unit×Unit×Unit×Unit×Int×Unit×ry)×aBf
def cQ:Shape:=⟨212,[nV,nU],aiB,8,true⟩
abbrev qc:Type:=mX×aiu
def kH:Shape:=⟨212,[rz,FN,nV,nU,(12,aD),(17,LK),(18,.ptr 9 0 0),(19,.own 10)],aBo,8,true⟩
abbrev lO:Type:=(Unit×Unit×Unit×Unit×Int×nO)×aBf
def alM (a12:Int) (a99:Int) (a100:Int) (c0_0:Int) (c0_2:aH) (c1_0:Int) (c1_1:aB) (c2_0:kS) (c3:ap) (c4:ap) (c6_0:Int) (c8:ap) (c9:ap) (c10:aB) (c11:ef):OT (Sum bw aZ):=
 let z0:Ce×aH:=dw c0_0 c0_2
 let z1:=z0.fst
 let z2:=z1.snd
 let z3:=z0.snd
 let z4:Ce×aH:=dw c0_0 z3
 let z5:=z4.fst
 let z6:=z5.snd
 let z7:=z4.snd
 let z8:mU:=ao c1_1
 let z9:=z8.snd
 let z10:=z9.fst
 let z11:ab:=dr (pS c1_0) z8.fst {w0:=0,w1:=0,w2:=0,w3:=0}
 let z12:=z9.snd
 let z13:ab:= {w0:=List.getD c3 0 0,w1:=List.getD c3 1 0,w2:=List.getD c3 2 0,w3:=List.getD c3 3 0}
 let z14:ab:= {w0:=cC (1:UInt64) (c2_0.snd.fst-(1:Int)-a100),w1:=0,w2:=0,w3:=0}
 let z15:Nat:=List.length c9
 let z16:Nat:=pS a12
 let z17:ab:=ln z16 z13 z14
 let z18:ab:= {w0:=1,w1:=0,w2:=0,w3:=0}
 let z19:ab:=aR z16 z11 z17
 let z20:ab:= {w0:=List.getD c9 0 0,w1:=List.getD c9 1 0,w2:=List.getD c9 2 0,w3:=List.getD c9 3 0}
 let z21:ab:=dr z16 z18 z19
 let z22:ab:=aR z16 z20 z21
 (.br (decide (a100<a99))
 (.br (z2==(0:Int))
  (.br (z6==(0:Int))
   (gd [rP (((),()),(c0_0,(),z7,()),(c1_0,c1_1,()),())] (.br (z10==(0:Int))
    (.br (bB z11)
     (.ok (.inr ⟨(.pan (.iface 175 (.agg [.int (100:Int)])),cQ),(((),(),()),(c0_0,(),z7,()),(c1_0,z12,()),(c2_0,()),c3,c4,((),()),(c6_0,()),(),c11,())⟩))
     (gd [decide ((List.length c10+1)*32<=140737488355328),tK ((a12,z11,()),()),decide ((List.length c11+2)*104<=140737488355328),decide (4<=List.length c3),inR (c2_0.snd.fst-(1:Int)),inR (c2_0.snd.fst-(1:Int)-a100),decide ((0:Int)<=c2_0.snd.fst-(1:Int)-a100),oJ ((a12,z13,z14,()),()),decide (4<=z15),dY ((a12,z11,z17,()),()),gQ ((a12,z18,z19,()),()),dY ((a12,z20,z21,()),()),decide ((4/1:Nat)+0<=z15),inR (a100+(1:Int))] (.ok (.inl (((),(),(),(),(),a12,(),(),(),a99,a100+(1:Int),()),(c0_0,(),z7,()),(c1_0,z12,()),(c2_0,()),c3,c4,((),()),(c6_0,()),(),c8,List.set (List.set (List.set (List.set c9 0 z22.w0) 1 z22.w1) 2 z22.w2) 3 z22.w3,c10++ [z11],c11++ [(CC z16 z11,z1.fst),(z11,z5.fst)],())))))
    (.ok (.inr ⟨(.pan (.iface 175 (.agg [.int z10])),cQ),(((),(),()),(c0_0,(),z7,()),(c1_0,z12,()),(c2_0,()),c3,c4,((),()),(c6_0,()),(),c11,())⟩))))
   (.ok (.inr ⟨(.pan (.iface 175 (.agg [.int z6])),cQ),(((),(),()),(c0_0,(),z7,()),(c1_0,c1_1,()),(c2_0,()),c3,c4,((),()),(c6_0,()),(),c11,())⟩)))
  (.ok (.inr ⟨(.pan (.iface 175 (.agg [.int z2])),cQ),(((),(),()),(c0_0,(),z3,()),(c1_0,c1_1,()),(c2_0,()),c3,c4,((),()),(c6_0,()),(),c11,())⟩)))
 (.ok (.inr ⟨(.exit 2,kH),(((),(),(),(),a12,(),(),(),()),(c0_0,(),c0_2,()),(c1_0,c1_1,()),(c2_0,()),c3,c4,((),()),(c6_0,()),(),c8,c9,c10,c11,())⟩)))
def ou (s:bw):OT (Sum bw aZ):=alM s.1.2.2.2.2.2.1 s.1.2.2.2.2.2.2.2.2.2.1 s.1.2.2.2.2.2.2.2.2.2.2.1 s.2.1.1 s.2.1.2.2.1 s.2.2.1.1 s.2.2.1.2.1 s.2.2.2.1.1 s.2.2.2.2.1 s.2.2.2.2.2.1 s.2.2.2.2.2.2.2.1.1 s.2.2.2.2.2.2.2.2.2.1 s.2.2.2.2.2.2.2.2.2.2.1 s.2.2.2.2.2.2.2.2.2.2.2.1 s.2.2.2.2.2.2.2.2.2.2.2.2.1
def NN (g2_p:bw->qc) (v2:bw->Int) (c2_p:bw->Bool) (g2_2:bw->lO) (s:bw):OT aZ:=(.br (c2_p s) (.ok ⟨(.pan (.iface 175 (.agg [.int (v2 s)])),cQ),g2_p s⟩) (.ok ⟨(.exit 2,kH),g2_2 s⟩))
def alE:Shape:=⟨212,[FN,nV,nU,(12,aD),(17,LK),(18,.ptr 9 0 0),(26,.ptr 10 0 0),(27,.ptr 11 0 0),(175,.own 12),(176,aD),(177,aD)],[aec,kU,(2,uu),nS,Cl,(5,.cells [.own 13]),(6,o4),(7,.gone),(8,gq),(9,gq),(10,gq),(11,gq),(12,fH),(13,FT)],8,true⟩
abbrev dX:Type:=(Unit×Unit×Unit×Int×YD)×YA×jN×rm×ap×ap×b8×eS×Unit×ap×ap×ap×ap×aB×xd
def nF:Shape:=⟨212,[FN,nV,nU,(12,aD),(17,LK),(18,.ptr 9 0 0),(26,.ptr 10 0 0),(27,.ptr 11 0 0)],[aec,kU,(2,uu),nS,Cl,(5,.cells [.own 12]),(6,o4),(7,.gone),(8,gq),(9,gq),(10,gq),(11,gq),(12,FT)],8,true⟩
abbrev lN:Type:=(Unit×Unit×Unit×Int×LB)×YA×jN×rm×ap×ap×b8×eS×Unit×ap×ap×ap×ap×xd
def alL (a12:Int) (a176:Int) (a177:Int) (c0_0:Int) (c0_2:aH) (c1_0:Int) (c1_1:aB) (c2_0:kS) (c3:ap) (c4:ap) (c6_0:Int) (c8:ap) (c9:ap) (c10:ap) (c11:ap) (c12:aB) (c13:ef):OT (Sum dX aZ):=
 let z0:Nat:=List.length c12
 let z1:Nat:=Int.toNat a177
 let z2:ab:= {w0:=0,w1:=0,w2:=0,w3:=0}
 (.br (decide (a177<a176))
 (gd [inB a177 z0,decide (z1<z0),inB a177 (List.length c2_0.snd.snd.fst),decide ((List.length c13+1)*104<=140737488355328),inR (a177+(1:Int))] (.ok (.inl (((),(),(),a12,(),(),(),(),(),a176,a177+(1:Int),()),(c0_0,(),c0_2,()),(c1_0,c1_1,()),(c2_0,()),c3,c4,((),()),(c6_0,()),(),c8,c9,c10,c11,c12,c13++ [(List.getD c12 z1 z2,List.getD c2_0.snd.snd.fst z1 (z2,z2,false))],()))))
 (.ok (.inr ⟨(.exit 4,nF),(((),(),(),a12,(),(),(),(),()),(c0_0,(),c0_2,()),(c1_0,c1_1,()),(c2_0,()),c3,c4,((),()),(c6_0,()),(),c8,c9,c10,c11,c13,())⟩)))
def vv (s:dX):OT (Sum dX aZ):=alL s.1.2.2.2.1 s.1.2.2.2.2.2.2.2.2.2.1 s.1.2.2.2.2.2.2.2.2.2.2.1 s.2.1.1 s.2.1.2.2.1 s.2.2.1.1 s.2.2.1.2.1 s.2.2.2.1.1 s.2.2.2.2.1 s.2.2.2.2.2.1 s.2.2.2.2.2.2.2.1.1 s.2.2.2.2.2.2.2.2.2.1 s.2.2.2.2.2.2.2.2.2.2.1 s.2.2.2.2.2.2.2.2.2.2.2.1 s.2.2.2.2.2.2.2.2.2.2.2.2.1 s.2.2.2.2.2.2.2.2.2.2.2.2.2.1 s.2.2.2.2.2.2.2.2.2.2.2.2.2.2.1
def NM (g4_4:dX->lN) (s:dX):OT aZ:=(.ok ⟨(.exit 4,nF),g4_4 s⟩)
def bZ:aL:=⟨[.own 2,aD],[aec,kU,zW],false⟩
section
variable (ok0:bN->Bool) (g0_p:bN->qd) (v0:bN->Int) (c0_p:bN->Bool) (g0_0:bN->lP) (ok2:bw->Bool) (g2_p:bw->qc) (v2:bw->Int) (c2_p:bw->Bool) (g2_2:bw->lO) (ok4:dX->Bool) (g4_4:dX->lN)
def Bm (a0:kS) (a2:ef) (a3:ab) (a4:ab) (c0_0:Int) (c0_2:aH) (c1_0:Int) (c1_1:aB):OT jl.Y:=
 let z0:Int:=gA a0 c0_0
 let z1:bN:=(((),(),(),(),(),(),ay a0.fst (1:Int),a2,(↑(List.length a2):Int),(0:Int),()),(c0_0,(),c0_2,()),(c1_0,c1_1,()),(a0,()),[a3.w0,a3.w1,a3.w2,a3.w3],[a4.w0,a4.w1,a4.w2,a4.w3],((),()),((0:Int),()),(),[],())
 let z2:Int:=v0 z1
 let z3:=(g0_p z1).snd
 let z4:=z3.fst
 let z5:=z4.fst
 let z6:=z4.snd.snd.fst
 let z7:=z3.snd
 let z8:=z7.fst
 let z9:=z8.fst
 let z10:=z8.snd.fst
 let z11:lP:=g0_0 z1
 let z12:=z11.snd
 let z13:=z12.fst
 let z14:=z13.fst
 let z15:Ce×aH:=dw z14 z13.snd.snd.fst
 let z16:=z15.fst
 let z17:=z16.snd
 let z18:PUnit×PUnit:=((),())
 let z19:=z15.snd
 let z20:Int×PUnit×FK:=(z14,(),z19,())
 let z21:=z12.snd
 let z22:=z21.fst
 let z23:=z22.fst
 let z24:=z22.snd.fst
 let z25:mU:=ao z24
 let z26:=z25.snd
 let z27:=z26.fst
 let z28:=z26.snd
 let z29:mU:=ao z28
 let z30:=z29.snd
 let z31:=z30.fst
 let z32:Nat:=pS z23
 let z33:ab:= {w0:=0,w1:=0,w2:=0,w3:=0}
 let z34:ab:=dr z32 z29.fst z33
 let z35:=z30.snd
 let z36:=z21.snd
 let z37:=z36.snd
 let z38:=z37.snd
 let z39:=z38.fst
 let z40:=z11.fst.snd.snd.snd.snd.snd.snd.fst
 let z41:ab:= {w0:=List.getD z39 0 0,w1:=List.getD z39 1 0,w2:=List.getD z39 2 0,w3:=List.getD z39 3 0}
 let z42:=z36.fst.fst
 let z43:=z42.snd
 let z44:=z43.snd.fst
 let z45:=z38.snd.snd
 let z46:=z45.snd.snd.fst
 let z47:bw:=(((),(),(),(),(),z40,(),(),(),z43.fst,(0:Int),()),z20,(z23,z35,()),(z42,()),z37.fst,z39,((),()),(z45.fst.fst,()),(),[z34.w0,z34.w1,z34.w2,z34.w3],[(1:UInt64),(0:UInt64),(0:UInt64),(0:UInt64)],[],z46++ [(kW (pS z40) z41,List.getD z44 0 (z33,z33,false)),(dr z32 z25.fst z33,z16.fst)],())
 let z48:Int:=v2 z47
 let z49:=(g2_p z47).snd
 let z50:=z49.fst
 let z51:=z50.fst
 let z52:=z50.snd.snd.fst
 let z53:=z49.snd
 let z54:=z53.fst
 let z55:=z54.fst
 let z56:=z54.snd.fst
 let z57:lO:=g2_2 z47
 let z58:=z57.snd
 let z59:=z58.fst
 let z60:=z59.fst
 let z61:Int:=ay z60 (1:Int)
 let z62:(ab×Int)×aH:=dP z61 z59.snd.snd.fst
 let z63:=z62.fst
 let z64:=z63.snd
 let z65:=z62.snd
 let z66:(ab×Int)×aH:=dP z61 z65
 let z67:=z66.fst
 let z68:=z67.snd
 let z69:=z57.fst.snd.snd.snd.snd.fst
 let z70:=z63.fst
 let z71:Nat:=pS z69
 let z72:ab:=kW z71 z70
 let z73:=z58.snd
 let z74:=z73.snd
 let z75:=z74.snd
 let z76:=z75.snd
 let z77:=z76.snd.snd
 let z78:=z77.snd.snd
 let z79:=z78.snd
 let z80:=z79.snd
 let z81:=z80.fst
 let z82:aB:=wtE z71 z72 z81
 let z83:=z66.snd
 let z84:=z73.fst
 let z85:=z84.fst
 let z86:=z84.snd.fst
 let z87:=z67.fst
 let z88:=z80.snd.fst
 let z89:dX:=(((),(),(),z69,(),(),(),(),(),(↑(List.length z82):Int),(0:Int),()),(z60,(),z83,()),(z85,z86,()),(z74.fst.fst,()),z75.fst,z76.fst,((),()),(z77.fst.fst,()),(),z78.fst,z79.fst,[z87.w0,z87.w1,z87.w2,z87.w3],[z72.w0,z72.w1,z72.w2,z72.w3],z82,z88,())
 let z90:lN:=g4_4 z89
 let z91:=z90.snd
 let z92:=z91.snd
 let z93:=z92.snd
 let z94:=z93.snd.snd.snd.snd.snd.snd
 let z95:=z94.snd
 let z96:=z95.snd
 let z97:=z96.snd
 let z98:=z97.fst
 let z99:=z95.fst
 let z100:=z94.fst
 let z101:=z90.fst.snd.snd.snd.fst
 let z102:ab:= {w0:=List.getD z99 0 0,w1:=List.getD z99 1 0,w2:=List.getD z99 2 0,w3:=List.getD z99 3 0}
 let z103:ab:= {w0:=List.getD z100 0 0,w1:=List.getD z100 1 0,w2:=List.getD z100 2 0,w3:=List.getD z100 3 0}
 let z104:ab:= {w0:=List.getD z98 0 0,w1:=List.getD z98 1 0,w2:=List.getD z98 2 0,w3:=List.getD z98 3 0}
 let z105:Nat:=pS z101
 let z106:ab:=aR z105 z102 z103
 let z107:=z96.fst
 let z108:ab:= {w0:=List.getD z107 0 0,w1:=List.getD z107 1 0,w2:=List.getD z107 2 0,w3:=List.getD z107 3 0}
 let z109:=z97.snd.fst
 let z110:=z91.fst
 let z111:=z92.fst
 let z112:=z93.fst.fst.snd.snd.snd
 (gd [vy ((a0,c0_0,()),())] (.br (z0==(0:Int))
 (gd [ok0 z1] (.br (c0_p z1)
  (.br (!z2==(0:Int))
   (.ok ⟨bZ,(((),z2,()),(z5,(),z6,()),(z9,z10,()),[],())⟩)
   (.ok ⟨bZ,(((),z2,()),(z5,(),z6,()),(z9,z10,()),z7.snd.snd.snd.snd.snd.snd.snd.fst,())⟩))
  (.br (z17==(0:Int))
   (gd [rP (z18,z20,(z23,z24,()),())] (.br (z27==(0:Int))
    (gd [rP (z18,z20,(z23,z28,()),())] (.br (z31==(0:Int))
     (.br (bB z34)
      (.ok ⟨bZ,(((),(100:Int),()),(z14,(),z19,()),(z23,z35,()),[],())⟩)
      (gd [decide (4<=List.length z39),tF ((z40,z41,()),()),inB (0:Int) (List.length z44),decide ((List.length z46+2)*104<=140737488355328),ok2 z47] (.br (c2_p z47)
       (.br (!z48==(0:Int))
        (.ok ⟨bZ,(((),z48,()),(z51,(),z52,()),(z55,z56,()),[],())⟩)
        (.ok ⟨bZ,(((),z48,()),(z51,(),z52,()),(z55,z56,()),z53.snd.snd.snd.snd.snd.snd.snd.fst,())⟩))
       (.br (z64==(0:Int))
        (.br (z68==(0:Int))
         (gd [tF ((z69,z70,()),()),sR ((z69,z72,z81,()),()),ok4 z89,decide (4<=List.length z98),decide (4<=List.length z99),decide (4<=List.length z100),dY ((z101,z102,z103,()),()),dY ((z101,z104,z106,()),()),decide (4<=List.length z107),tF ((z101,z108,()),()),decide ((List.length z109+2)*104<=140737488355328)] (.ok ⟨bZ,(((),(0:Int),()),(z110.fst,(),z110.snd.snd.fst,()),(z111.fst,z111.snd.fst,()),z109++ [(aR z105 z104 z106,z112.snd),(kW z105 z108,z112.fst)],())⟩))
         (.br (!z68==(0:Int))
          (.ok ⟨bZ,(((),z68,()),(z60,(),z83,()),(z85,z86,()),[],())⟩)
          (.ok ⟨bZ,(((),z68,()),(z60,(),z83,()),(z85,z86,()),z88,())⟩)))
        (.br (!z64==(0:Int))
         (.ok ⟨bZ,(((),z64,()),(z60,(),z65,()),(z85,z86,()),[],())⟩)
         (.ok ⟨bZ,(((),z64,()),(z60,(),z65,()),(z85,z86,()),z88,())⟩))))))
     (.br (!z31==(0:Int))
      (.ok ⟨bZ,(((),z31,()),(z14,(),z19,()),(z23,z35,()),[],())⟩)
      (.ok ⟨bZ,(((),z31,()),(z14,(),z19,()),(z23,z35,()),z46,())⟩))))
    (.br (!z27==(0:Int))
     (.ok ⟨bZ,(((),z27,()),(z14,(),z19,()),(z23,z28,()),[],())⟩)
     (.ok ⟨bZ,(((),z27,()),(z14,(),z19,()),(z23,z28,()),z46,())⟩))))
   (.br (!z17==(0:Int))
    (.ok ⟨bZ,(((),z17,()),(z14,(),z19,()),(z23,z24,()),[],())⟩)
    (.ok ⟨bZ,(((),z17,()),(z14,(),z19,()),(z23,z24,()),z46,())⟩)))))
 (.br (!z0==(0:Int))
  (.ok ⟨bZ,(((),z0,()),(c0_0,(),c0_2,()),(c1_0,c1_1,()),[],())⟩)
  (.ok ⟨bZ,(((),z0,()),(c0_0,(),c0_2,()),(c1_0,c1_1,()),[],())⟩))))
theorem VI (h0:bh ov ok0 (NO g0_p v0 c0_p g0_0)) (h2:bh ou ok2 (NN g2_p v2 c2_p g2_2)) (h4:bh vv ok4 (NM g4_4)) (pre:vw->Bool) (F:vw->OT jl.Y) (hF:∀ (x:vw) oy,pre x=true->(F x).run=some oy->(Bm ok0 g0_p v0 c0_p g0_0 ok2 g2_p v2 c2_p g2_2 ok4 g4_4 x.1.1 x.1.2.2.1 x.1.2.2.2.1 x.1.2.2.2.2.1 x.2.1.1 x.2.1.2.2.1 x.2.2.1.1 x.2.2.1.2.1).run=some oy):aa aj 20 (jl.az pre F):=
 aH7 uB abX aqJ aqK 20 Tryz.f20 jl [bZ] (kZ uB 4 alE [(4,nF)] none none vv bE h4 (kZ uB 2 alF [(2,kH)] none (some (175,cQ)) ou bE h2 (kZ uB 0 alG [(0,nG)] none (some (175,kI)) ov bE h0 bE))) (λx=>Bm ok0 g0_p v0 c0_p g0_0 ok2 g2_p v2 c2_p g2_2 ok4 g4_4 x.1.1 x.1.2.2.1 x.1.2.2.2.1 x.1.2.2.2.2.1 x.2.1.1 x.2.1.2.2.1 x.2.2.1.1 x.2.2.1.2.1) hF
end
def HN (m:Nat) (t:Tm):Tm:=(dr m t.1 ⟨0,0,0,0⟩,t.2)
def rE (m:Nat) (c:Int) (l:List Tm):List Tm:=(l.takeWhile λt=>onB c t.2).map (HN m)
def yK:bN->Bool|((_,_,_,_,_,_,so,com,lim,i,_),x0,x1,(p,_),x3,x4,x5,x6,_,out,_)=>decide (lim=(com.length:Int)/\i=0/\out.length+com.length<=100000)&&ac so
def yM:bN->qd|((_,_,_,_,_,_,so,com,lim,i,_),x0,x1,(p,_),x3,x4,x5,x6,_,out,_)=>(((),(),()),x0,x1,(p,()),x3,x4,x5,x6,(),out++rE (pS so) p.1 com,())
def DB:bN->lP|((_,_,_,_,_,_,so,com,lim,i,_),x0,x1,(p,_),x3,x4,x5,x6,_,out,_)=>(((),(),(),(),(),(),so,()),x0,x1,(p,()),x3,x4,x5,x6,(),out++rE (pS so) p.1 com,())
def DD:bN->Bool|((_,_,_,_,_,_,so,com,lim,i,_),x0,x1,(p,_),x3,x4,x5,x6,_,out,_)=> !(com.all λt=>onB p.1 t.2)
theorem alK:bh ov yK (NO yM (λ_=>41) DD DB):=by
 rintro ⟨⟨⟨⟩,⟨⟩,⟨⟩,⟨⟩,⟨⟩,⟨⟩,so,com,lim,i,⟨⟩⟩,⟨x0,x1,⟨p,⟨⟩⟩,x3,x4,x5,x6,⟨⟩,out,⟨⟩⟩⟩ h
 have h':(decide (lim=(com.length:Int)/\i=0/\out.length+com.length<=100000)&&ac so)=true:=h
 rw [aw] at h'
 obtain ⟨rfl,rfl,ho⟩:=bn h'.1
 have hs:=h'.2
 have key:∀ (l:List Tm) (i:Nat) (out:List Tm),i+l.length=com.length->com.drop i=l->out.length+l.length<=100000->
  ∃ m,cU ov m (((),(),(),(),(),(),so,com,(com.length:Int),(i:Int),()),x0,x1,(p,()),x3,x4,x5,x6,(),out,())=
   some (cond (l.all λt=>onB p.1 t.2) ⟨(.exit 0,nG),(((),(),(),(),(),(),so,()),x0,x1,(p,()),x3,x4,x5,x6,(),out++rE (pS so) p.1 l,())⟩
    ⟨(.pan (.iface 175 (.agg [.int 41])),kI),(((),(),()),x0,x1,(p,()),x3,x4,x5,x6,(),out++rE (pS so) p.1 l,())⟩):=by
  intro l
  induction l with
  |nil=>
   intro i out hi hd ho
   refine ⟨1,aV ?_⟩
   rw [show out++rE (pS so) p.1 []=out from List.append_nil _]
   exact OT.au (bq (by rw [List.length_nil] at hi;dsimp only;omega))
  |cons t r ih=>
   intro i out hi hd ho
   rw [List.length_cons] at hi ho
   have hk:i<com.length:=by omega
   have e1:com.getD i (⟨0,0,0,0⟩,⟨0,0,0,0⟩,⟨0,0,0,0⟩,false)=t:=by
    rw [mZ hk] at hd
    rw [fP,m4 hk]
    exact (List.cons.inj hd).1
   have e2:com.drop (i+1)=r:=by
    rw [mZ hk] at hd
    exact (List.cons.inj hd).2
   have st:(ov (((),(),(),(),(),(),so,com,(com.length:Int),(i:Int),()),x0,x1,(p,()),x3,x4,x5,x6,(),out,())).run=(OT.br (onB p.1 t.2) (.ok (.inl (((),(),(),(),(),(),so,com,(com.length:Int),((i+1:Nat):Int),()),x0,x1,(p,()),x3,x4,x5,x6,(),out++ [HN (pS so) t],())))
    (.ok (.inr ⟨(.pan (.iface 175 (.agg [.int 41])),kI),(((),(),()),x0,x1,(p,()),x3,x4,x5,x6,(),out,())⟩)):OT (Sum bN aZ)).run:=by
    refine (OT.ak (ag (by dsimp only;omega))).trans ((ae ?_).trans ?_)
    ·simp only [aA,aI,aJ]
     exact ba (by omega)
    ·simp only [cB,e1]
     cases hb:onB p.1 t.2
     ·rfl
     ·refine (OT.ak rfl).trans ((ae ?_).trans rfl)
      simp only [aA,aI,aJ,aw]
      exact ⟨hs,ag (by omega),aS (by omega)⟩
   cases hb:onB p.1 t.2
   ·refine ⟨1,aV (st.trans ((OT.au hb).trans ?_))⟩
    rw [aA,hb,show rE (pS so) p.1 (t::r)= [] by unfold rE;rw [List.takeWhile_cons,hb];rfl,List.append_nil]
    rfl
   ·obtain ⟨m,hm⟩:=ih (i+1) (out++ [HN (pS so) t]) (by omega) e2 (by rw [bK,List.length_singleton];omega)
    refine ⟨m+1,bL (st.trans (OT.ak hb)) (hm.trans ?_)⟩
    rw [aA,hb,Bool.true_and,show rE (pS so) p.1 (t::r)=HN (pS so) t::rE (pS so) p.1 r by unfold rE;rw [List.takeWhile_cons,hb];rfl,List.append_assoc,List.singleton_append]
 obtain ⟨m,hm⟩:=key com 0 out (Nat.zero_add _) rfl ho
 refine ⟨m,_,hm,?_⟩
 show (OT.br (!(com.all λt=>onB p.1 t.2)) _ _).run=_
 cases com.all λt=>onB p.1 t.2<;>rfl
abbrev VSt:Type:=List UInt8×(List ab×(ab×(List ab×List Tm)))
def ca (s c:Int) (x:ab) (k:Int) (v:VSt):Int×VSt:=
 cond ((dw c v.1).1.2==0) (cond ((dw c (dw c v.1).2).1.2==0) (cond ((ao v.2.1).2.1==0) (cond (bB (dr (pS s) (ao v.2.1).1 ⟨0,0,0,0⟩))
  (100,(dw c (dw c v.1).2).2,(ao v.2.1).2.2,v.2.2)
  (0,(dw c (dw c v.1).2).2,(ao v.2.1).2.2,aR (pS s) v.2.2.1 (dr (pS s) ⟨1,0,0,0⟩ (aR (pS s) (dr (pS s) (ao v.2.1).1 ⟨0,0,0,0⟩) (ln (pS s) x ⟨cC 1 k,0,0,0⟩))),v.2.2.2.1++ [dr (pS s) (ao v.2.1).1 ⟨0,0,0,0⟩],
   v.2.2.2.2++ [(CC (pS s) (dr (pS s) (ao v.2.1).1 ⟨0,0,0,0⟩),(dw c v.1).1.1),(dr (pS s) (ao v.2.1).1 ⟨0,0,0,0⟩,(dw c (dw c v.1).2).1.1)]))
  ((ao v.2.1).2.1,(dw c (dw c v.1).2).2,(ao v.2.1).2.2,v.2.2))
  ((dw c (dw c v.1).2).1.2,(dw c (dw c v.1).2).2,v.2))
  ((dw c v.1).1.2,(dw c v.1).2,v.2)
def dT (s c:Int) (x:ab):Nat->VSt->Int×VSt
 |0,v=>(0,v)
 |n+1,v=>cond ((ca s c x (n:Int) v).1==0) (dT s c x n (ca s c x (n:Int) v).2) (ca s c x (n:Int) v)
def yJ:bw->Bool|((_,_,_,_,_,so,_,_,_,lim,j,_),(c,_,by_,_),(s,tp,_),(p,_),x,x4,x5,x6,_,z,b,us,out,_)=>decide (lim=p.2.1/\j=0/\0<=p.2.1/\p.2.1<=10/\so=s/\tp.length<=140737488355328/\x.length=4/\b.length=4/\us.length<=1000/\out.length<=100000)&&ac s
def eG:bw->Int×VSt|((_,_,_,_,_,so,_,_,_,lim,j,_),(c,_,by_,_),(s,tp,_),(p,_),x,x4,x5,x6,_,z,b,us,out,_)=>dT s c (gX x) p.2.1.toNat (by_,tp,gX b,us,out)
def yL (q:bw):qc:=(((),(),()),(q.2.1.1,(),(eG q).2.1,()),(q.2.2.1.1,(eG q).2.2.1,()),q.2.2.2.1,q.2.2.2.2.1,q.2.2.2.2.2.1,q.2.2.2.2.2.2.1,q.2.2.2.2.2.2.2.1,(),(eG q).2.2.2.2.2,())
def DA (q:bw):lO:=(((),(),(),(),q.1.2.2.2.2.2.1,(),(),(),()),(q.2.1.1,(),(eG q).2.1,()),(q.2.2.1.1,(eG q).2.2.1,()),q.2.2.2.1,q.2.2.2.2.1,q.2.2.2.2.2.1,q.2.2.2.2.2.2.1,q.2.2.2.2.2.2.2.1,(),q.2.2.2.2.2.2.2.2.2.1,eL (eG q).2.2.2.1,(eG q).2.2.2.2.1,(eG q).2.2.2.2.2,())
def DC (q:bw):Bool:= !((eG q).1==0)
def Dy (c so s:Int) (p:mf) (x x4:ap) (x5:b8) (x6:eS) (z:ap) (r:Int×VSt):aZ:=cond (r.1==0)
 ⟨(.exit 2,kH),(((),(),(),(),so,(),(),(),()),(c,(),r.2.1,()),(s,r.2.2.1,()),(p,()),x,x4,x5,x6,(),z,eL r.2.2.2.1,r.2.2.2.2.1,r.2.2.2.2.2,())⟩
 ⟨(.pan (.iface 175 (.agg [.int r.1])),cQ),(((),(),()),(c,(),r.2.1,()),(s,r.2.2.1,()),(p,()),x,x4,x5,x6,(),r.2.2.2.2.2,())⟩
theorem aGd {l:List UInt64} (h:l.length=4):eL (gX l)=l:=by
 match l,h with
 | [a,b,c,d],_=>rfl
theorem alJ:bh ou yJ (NN yL (λq=>(eG q).1) DC DA):=by
 rintro ⟨⟨⟨⟩,⟨⟩,⟨⟩,⟨⟩,⟨⟩,so,⟨⟩,⟨⟩,⟨⟩,lim,j,⟨⟩⟩,⟨⟨c,⟨⟩,by_,⟨⟩⟩,⟨s,tp,⟨⟩⟩,⟨p,⟨⟩⟩,x,x4,x5,x6,⟨⟩,z,b,us,out,⟨⟩⟩⟩ h
 have h':(decide (lim=p.2.1/\j=0/\0<=p.2.1/\p.2.1<=10/\so=s/\tp.length<=140737488355328/\x.length=4/\b.length=4/\us.length<=1000/\out.length<=100000)&&ac s)=true:=h
 rw [aw] at h'
 obtain ⟨rfl,rfl,k0,k1,rfl,ht,hx,hb,hu,ho⟩:=bn h'.1
 have hs:=h'.2
 have key:∀ (n:Nat) (j:Nat) (v:VSt),(j:Int)+n=p.2.1->v.2.1.length<=140737488355328->v.2.2.2.1.length<=1000+j->v.2.2.2.2.length<=100000+2*j->
  ∃ m,cU ou m (((),(),(),(),(),so,(),(),(),p.2.1,(j:Int),()),(c,(),v.1,()),(so,v.2.1,()),(p,()),x,x4,x5,x6,(),z,eL v.2.2.1,v.2.2.2.1,v.2.2.2.2,())=some (Dy c so so p x x4 x5 x6 z (dT so c (gX x) n v)):=by
  intro n
  induction n with
  |zero=>
   intro j v hj h1 h2 h3
   exact ⟨1,aV (OT.au (bq (by dsimp only;omega)))⟩
  |succ n ih=>
   intro j v hj h1 h2 h3
   have hk:p.2.1-1-(j:Int)=(n:Int):=by omega
   have st:(ou (((),(),(),(),(),so,(),(),(),p.2.1,(j:Int),()),(c,(),v.1,()),(so,v.2.1,()),(p,()),x,x4,x5,x6,(),z,eL v.2.2.1,v.2.2.2.1,v.2.2.2.2,())).run=
    (OT.br ((ca so c (gX x) (n:Int) v).1==0) (.ok (.inl (((),(),(),(),(),so,(),(),(),p.2.1,((j+1:Nat):Int),()),(c,(),(ca so c (gX x) (n:Int) v).2.1,()),(so,(ca so c (gX x) (n:Int) v).2.2.1,()),(p,()),x,x4,x5,x6,(),z,eL (ca so c (gX x) (n:Int) v).2.2.2.1,(ca so c (gX x) (n:Int) v).2.2.2.2.1,(ca so c (gX x) (n:Int) v).2.2.2.2.2,())))
     (.ok (.inr ⟨(.pan (.iface 175 (.agg [.int (ca so c (gX x) (n:Int) v).1])),cQ),(((),(),()),(c,(),(ca so c (gX x) (n:Int) v).2.1,()),(so,(ca so c (gX x) (n:Int) v).2.2.1,()),(p,()),x,x4,x5,x6,(),(ca so c (gX x) (n:Int) v).2.2.2.2.2,())⟩)):OT (Sum bw aZ)).run:=by
    have hF:∀ r,ca so c (gX x) (n:Int) v=r->(OT.br ((ca so c (gX x) (n:Int) v).1==0) (.ok (.inl (((),(),(),(),(),so,(),(),(),p.2.1,((j+1:Nat):Int),()),(c,(),(ca so c (gX x) (n:Int) v).2.1,()),(so,(ca so c (gX x) (n:Int) v).2.2.1,()),(p,()),x,x4,x5,x6,(),z,eL (ca so c (gX x) (n:Int) v).2.2.2.1,(ca so c (gX x) (n:Int) v).2.2.2.2.1,(ca so c (gX x) (n:Int) v).2.2.2.2.2,())))
     (.ok (.inr ⟨(.pan (.iface 175 (.agg [.int (ca so c (gX x) (n:Int) v).1])),cQ),(((),(),()),(c,(),(ca so c (gX x) (n:Int) v).2.1,()),(so,(ca so c (gX x) (n:Int) v).2.2.1,()),(p,()),x,x4,x5,x6,(),(ca so c (gX x) (n:Int) v).2.2.2.2.2,())⟩)):OT (Sum bw aZ)).run=
     (OT.br (r.1==0) (.ok (.inl (((),(),(),(),(),so,(),(),(),p.2.1,((j+1:Nat):Int),()),(c,(),r.2.1,()),(so,r.2.2.1,()),(p,()),x,x4,x5,x6,(),z,eL r.2.2.2.1,r.2.2.2.2.1,r.2.2.2.2.2,())))
      (.ok (.inr ⟨(.pan (.iface 175 (.agg [.int r.1])),cQ),(((),(),()),(c,(),r.2.1,()),(so,r.2.2.1,()),(p,()),x,x4,x5,x6,(),r.2.2.2.2.2,())⟩)):OT (Sum bw aZ)).run:=λr h=>by rw [h]
    generalize (OT.br ((ca so c (gX x) (n:Int) v).1==0) (.ok (.inl (((),(),(),(),(),so,(),(),(),p.2.1,((j+1:Nat):Int),()),(c,(),(ca so c (gX x) (n:Int) v).2.1,()),(so,(ca so c (gX x) (n:Int) v).2.2.1,()),(p,()),x,x4,x5,x6,(),z,eL (ca so c (gX x) (n:Int) v).2.2.2.1,(ca so c (gX x) (n:Int) v).2.2.2.2.1,(ca so c (gX x) (n:Int) v).2.2.2.2.2,())))
     (.ok (.inr ⟨(.pan (.iface 175 (.agg [.int (ca so c (gX x) (n:Int) v).1])),cQ),(((),(),()),(c,(),(ca so c (gX x) (n:Int) v).2.1,()),(so,(ca so c (gX x) (n:Int) v).2.2.1,()),(p,()),x,x4,x5,x6,(),(ca so c (gX x) (n:Int) v).2.2.2.2.2,())⟩)):OT (Sum bw aZ)).run=G at*
    unfold ca at hF
    refine (OT.ak (ag (by dsimp only;omega))).trans ?_
    refine eU ((dw c v.1).1.2==0) (λe1=> ?_) (λe1=> ?_)
    ·rw [e1,aT] at hF
     exact (OT.au e1).trans ((OT.au e1).symm.trans (hF _ rfl).symm)
    rw [e1,aK] at hF
    refine (OT.ak e1).trans ?_
    refine eU ((dw c (dw c v.1).2).1.2==0) (λe2=> ?_) (λe2=> ?_)
    ·rw [e2,aT] at hF
     exact (OT.au e2).trans ((OT.au e2).symm.trans (hF _ rfl).symm)
    rw [e2,aK] at hF
    refine (OT.ak e2).trans ((ae (by simp only [aA,aI,aJ];exact be hs (ag h1))).trans ?_)
    refine eU ((ao v.2.1).2.1==0) (λe3=> ?_) (λe3=> ?_)
    ·rw [e3,aT] at hF
     exact (OT.au e3).trans ((OT.au e3).symm.trans (hF _ rfl).symm)
    rw [e3,aK] at hF
    refine (OT.ak e3).trans ?_
    refine eU (bB (dr (pS so) (ao v.2.1).1 ⟨0,0,0,0⟩)) (λe4=> ?_) (λe4=> ?_)
    ·rw [e4,aT] at hF
     refine (OT.au e4).trans ((ae ?_).trans (Eq.trans ?_ (hF _ rfl).symm))
     ·simp only [aA,aI,aJ,aw]
      exact ⟨ag (by omega),as7 hs e4,ag (by omega),ag (by omega),aS (by omega),aS (by omega),ag (by omega),hs,rfl,hs,hs,hs,rfl,aS (by omega)⟩
     ·simp only [hk]
      rfl
    ·rw [e4,aK] at hF
     exact (OT.ak e4).trans (hF _ rfl).symm
   unfold dT
   cases h4:(ca so c (gX x) (n:Int) v).1==0
   ·rw [aT]
    refine ⟨1,aV (st.trans ((OT.au h4).trans ?_))⟩
    unfold Dy
    rw [h4]
    rfl
   ·rw [aK]
    have l1:(ca so c (gX x) (n:Int) v).2.2.1.length<=140737488355328/\(ca so c (gX x) (n:Int) v).2.2.2.2.1.length<=v.2.2.2.1.length+1/\(ca so c (gX x) (n:Int) v).2.2.2.2.2.length<=v.2.2.2.2.length+2:=by
     have:=fN v.2.1
     unfold ca
     cases (dw c v.1).1.2==0<;>cases (dw c (dw c v.1).2).1.2==0<;>cases (ao v.2.1).2.1==0<;>cases bB (dr (pS so) (ao v.2.1).1 ⟨0,0,0,0⟩)<;>simp only [aK,aT,bK,List.length_cons,List.length_nil]<;>omega
    obtain ⟨m,hm⟩:=ih (j+1) (ca so c (gX x) (n:Int) v).2 (by omega) l1.1 (by omega) (by omega)
    exact ⟨m+1,bL (st.trans (OT.ak h4)) hm⟩
 obtain ⟨m,hm⟩:=key p.2.1.toNat 0 (by_,tp,gX b,us,out) (by omega) ht (by dsimp only;omega) (by dsimp only;omega)
 dsimp only at hm
 rw [aGd hb] at hm
 refine ⟨m,_,hm,?_⟩
 show (OT.br (!((dT so c (gX x) p.2.1.toNat (by_,tp,gX b,us,out)).1==0)) (.ok ⟨(.pan (.iface 175 (.agg [.int (dT so c (gX x) p.2.1.toNat (by_,tp,gX b,us,out)).1])),cQ),(((),(),()),(c,(),(dT so c (gX x) p.2.1.toNat (by_,tp,gX b,us,out)).2.1,()),(so,(dT so c (gX x) p.2.1.toNat (by_,tp,gX b,us,out)).2.2.1,()),(p,()),x,x4,x5,x6,(),(dT so c (gX x) p.2.1.toNat (by_,tp,gX b,us,out)).2.2.2.2.2,())⟩)
  (.ok ⟨(.exit 2,kH),(((),(),(),(),so,(),(),(),()),(c,(),(dT so c (gX x) p.2.1.toNat (by_,tp,gX b,us,out)).2.1,()),(so,(dT so c (gX x) p.2.1.toNat (by_,tp,gX b,us,out)).2.2.1,()),(p,()),x,x4,x5,x6,(),z,eL (dT so c (gX x) p.2.1.toNat (by_,tp,gX b,us,out)).2.2.2.1,(dT so c (gX x) p.2.1.toNat (by_,tp,gX b,us,out)).2.2.2.2.1,(dT so c (gX x) p.2.1.toNat (by_,tp,gX b,us,out)).2.2.2.2.2,())⟩):OT aZ).run=_
 generalize dT so c (gX x) p.2.1.toNat (by_,tp,gX b,us,out)=r
 unfold Dy
 cases h2:r.1==0<;>rfl
def yI:dX->Bool|((_,_,_,so,_,_,_,_,_,lim,i,_),x0,x1,(p,_),x3,x4,x5,x6,_,c8,c9,c10,c11,w,out,_)=>decide (lim=(w.length:Int)/\i=0/\w.length<=p.2.2.1.length/\w.length<=1000/\out.length<=200000)
def Dz:dX->lN|((_,_,_,so,_,_,_,_,_,lim,i,_),x0,x1,(p,_),x3,x4,x5,x6,_,c8,c9,c10,c11,w,out,_)=>(((),(),(),so,(),(),(),(),()),x0,x1,(p,()),x3,x4,x5,x6,(),c8,c9,c10,c11,upto (rI p.2.2.1 w) out w.length,())
theorem alI:bh vv yI (NM Dz):=by
 rintro ⟨⟨⟨⟩,⟨⟩,⟨⟩,so,⟨⟩,⟨⟩,⟨⟩,⟨⟩,⟨⟩,lim,i,⟨⟩⟩,⟨x0,x1,⟨p,⟨⟩⟩,x3,x4,x5,x6,⟨⟩,c8,c9,c10,c11,w,out,⟨⟩⟩⟩ h
 obtain ⟨rfl,rfl,hg,hw,ho⟩:=bn (show decide (lim=(w.length:Int)/\i=0/\w.length<=p.2.2.1.length/\w.length<=1000/\out.length<=200000)=true from h)
 have:=(bf (T:=vv) (λk e=>((((),(),(),so,(),(),(),(),(),(w.length:Int),(k:Int),()),x0,x1,(p,()),x3,x4,x5,x6,(),c8,c9,c10,c11,w,e,()):dX)) (rI p.2.2.1 w)
  (λe=>(⟨(.exit 4,nF),(((),(),(),so,(),(),(),(),()),x0,x1,(p,()),x3,x4,x5,x6,(),c8,c9,c10,c11,e,())⟩:aZ)) w.length out (λk e=>e.length=k+out.length) (Nat.zero_add _).symm (λk e hk hq=>⟨?_,?_⟩) (λe _=> ?_)).1
 ·obtain ⟨m,hm⟩:=this
  exact ⟨m,_,hm,rfl⟩
 ·have hq:e.length=k+out.length:=hq
  refine (OT.ak (ag (by dsimp only;omega))).trans ((ae ?_).trans rfl)
  simp only [aA,aI,aJ,aw]
  exact ⟨ba (by omega),ag (by rw [cB];exact hk),ba (by omega),ag (by omega),aS (by omega)⟩
 ·show (e++ [_]).length=_
  rw [bK,show e.length=k+out.length from hq,List.length_singleton]
  omega
 ·exact OT.au (bq (by dsimp only;omega))
theorem xq (s c:Int) (x:ab):∀ (n:Nat) (v:VSt),((dT s c x n v).1==0)=true->(dT s c x n v).2.2.2.2.1.length=v.2.2.2.1.length+n/\(dT s c x n v).2.2.2.2.2.length=v.2.2.2.2.length+2*n
 |0,v,_=>⟨rfl,rfl⟩
 |n+1,v,h=>by
  unfold dT at h⊢
  cases h1:(ca s c x (n:Int) v).1==0
  ·rw [h1,aT,h1] at h
   cases h
  ·rw [h1,aK] at h
   rw [aK]
   obtain ⟨h2,h3⟩:=xq s c x n _ h
   have:(ca s c x (n:Int) v).2.2.2.2.1.length=v.2.2.2.1.length+1/\(ca s c x (n:Int) v).2.2.2.2.2.length=v.2.2.2.2.length+2:=by
    unfold ca at h1⊢
    cases e1:(dw c v.1).1.2==0
    ·rw [e1,aT,e1] at h1;cases h1
    rw [e1,aK] at h1
    cases e2:(dw c (dw c v.1).2).1.2==0
    ·rw [e2,aT,e2] at h1;cases h1
    rw [e2,aK] at h1
    cases e3:(ao v.2.1).2.1==0
    ·rw [e3,aT,e3] at h1;cases h1
    rw [e3,aK] at h1
    cases e4:bB (dr (pS s) (ao v.2.1).1 ⟨0,0,0,0⟩)
    ·simp only [aK,aT,bK,List.length_cons,List.length_nil,and_self]
    ·rw [e4,aK] at h1;cases h1
   omega
abbrev YL:Type:=List Tm×(List UInt8×List ab)
def an3 (p:mf) (com:List Tm) (v:ab) (c:Int) (b:aH) (tp:aB):VSt:=
 ((dw c b).2,(ao (ao tp).2.2).2.2,⟨1,0,0,0⟩,[],rE (pS (ay p.1 1)) p.1 com++ [(kW (pS (ay p.1 1)) v,p.2.2.1.getD 0 jI),(opV (ay p.1 1) tp,(dw c b).1.1)])
def gr (p:mf) (com:List Tm) (x v:ab) (c:Int) (b:aH) (tp:aB):Int×VSt:=dT (ay p.1 1) c x p.2.1.toNat (an3 p com v c b tp)
def wJ (p:mf) (z b a f:ab) (us:aB) (out:List Tm):List Tm:=
 upto (rI p.2.2.1 (wtE (pS (ay p.1 1)) (kW (pS (ay p.1 1)) a) us)) out (wtE (pS (ay p.1 1)) (kW (pS (ay p.1 1)) a) us).length
  ++ [(aR (pS (ay p.1 1)) (kW (pS (ay p.1 1)) a) (aR (pS (ay p.1 1)) b z),p.2.2.2.2),(kW (pS (ay p.1 1)) f,p.2.2.2.1)]
def aEW (p:mf) (c:Int) (z:ab) (r:Int×VSt):Int×YL:=
 cond (r.1==0) (cond ((dP (ay c 1) r.2.1).1.2==0) (cond ((dP (ay c 1) (dP (ay c 1) r.2.1).2).1.2==0)
  (0,wJ p z r.2.2.2.1 (dP (ay c 1) r.2.1).1.1 (dP (ay c 1) (dP (ay c 1) r.2.1).2).1.1 r.2.2.2.2.1 r.2.2.2.2.2,(dP (ay c 1) (dP (ay c 1) r.2.1).2).2,r.2.2.1)
  ((dP (ay c 1) (dP (ay c 1) r.2.1).2).1.2,[],(dP (ay c 1) (dP (ay c 1) r.2.1).2).2,r.2.2.1))
  ((dP (ay c 1) r.2.1).1.2,[],(dP (ay c 1) r.2.1).2,r.2.2.1))
  (r.1,[],r.2.1,r.2.2.1)
def avE (p:mf) (com:List Tm) (x v:ab) (c:Int) (b:aH) (tp:aB):Int×YL:=
 cond (gA p c==0) (cond (com.all λt=>onB p.1 t.2) (cond ((dw c b).1.2==0) (cond ((ao tp).2.1==0) (cond ((ao (ao tp).2.2).2.1==0)
  (cond (bB (opV (ay p.1 1) (ao tp).2.2)) (100,[],(dw c b).2,(ao (ao tp).2.2).2.2)
   (aEW p c (opV (ay p.1 1) (ao tp).2.2) (gr p com x v c b tp)))
  ((ao (ao tp).2.2).2.1,[],(dw c b).2,(ao (ao tp).2.2).2.2))
  ((ao tp).2.1,[],(dw c b).2,(ao tp).2.2))
  ((dw c b).1.2,[],(dw c b).2,tp))
  (41,[],b,tp)) (gA p c,[],b,tp)
def ajZ (p:mf) (com:List Tm) (s:Int) (tp:aB):Bool:=decide (p.2.2.1.length<=140737488355328/\com.length<=1000/\tp.length<=140737488355328)&&s==ay p.1 1
def yH (x:vw):Bool:=ajZ x.1.1 x.1.2.2.1 x.2.2.1.1 x.2.2.1.2.1
def VH (x:vw):Int×YL:=avE x.1.1 x.1.2.2.1 x.1.2.2.2.1 x.1.2.2.2.2.1 x.2.1.1 x.2.1.2.2.1 x.2.2.1.2.1
def azR (c s:Int) (r:Int×YL):jl.Y:=⟨bZ,(((),r.1,()),(c,(),r.2.2.1,()),(s,r.2.2.2,()),r.2.1,())⟩
def VJ (x:vw):OT jl.Y:=.ok (azR x.2.1.1 x.2.2.1.1 (VH x))
set_option maxHeartbeats 4000000 in
theorem abW (p:mf) (com:List Tm) (x v:ab) (c:Int) (b:aH) (s:Int) (tp:aB) (hp:ajZ p com s tp=true):
 (Bm yK yM (λ_=>41) DD DB yJ yL (λq=>(eG q).1) DC DA yI Dz p com x v c b s tp).run=some (azR c s (avE p com x v c b tp)):=by
 unfold ajZ at hp
 rw [aw] at hp
 obtain ⟨hL,hs⟩:=hp
 obtain ⟨l1,l2,l3⟩:=bn hL
 have hs:=eq_of_beq hs
 subst hs
 have hF:∀ r,avE p com x v c b tp=r->some (azR c (ay p.1 1) (avE p com x v c b tp))=some (azR c (ay p.1 1) r):=λr h=>by rw [h]
 generalize some (azR c (ay p.1 1) (avE p com x v c b tp))=G at*
 unfold avE at hF
 --a test that is passed once more by the function that clears the terms
 have nn:∀ {e:Int} {A B:OT jl.Y},(e==0)=false->(OT.br (!(e==0)) A B).run=A.run:=λh=>OT.ak (by rw [h];rfl)
 unfold Bm
 refine (ae (by simp only [aA,aI,aJ];exact ag l1)).trans ?_
 refine eU (gA p c==0) (λe0=> ?_) (λe0=> ?_)
 ·rw [e0,aT] at hF
  exact (OT.au e0).trans ((nn e0).trans (hF _ rfl).symm)
 have r:=pD e0
 have r5:=r.2.2.2.2.1
 have r6:=r.2.2.2.2.2.1
 have r7:=r.2.2.2.2.2.2.1
 have r8:=r.2.2.2.2.2.2.2.1
 have r9:=r.2.2.2.2.2.2.2.2
 have hso:=r.2.2.2.1
 rw [e0,aK] at hF
 refine (OT.ak e0).trans ((ae ?_).trans ?_)
 ·simp only [aA,aI,aJ]
  exact be (ag ⟨rfl,rfl,show 0+com.length<=100000 by omega⟩) hso
 refine eU (com.all λt=>onB p.1 t.2) (λe1=> ?_) (λe1=> ?_)
 ·rw [e1,aT] at hF
  exact (OT.ak (congrArg (!·) e1)).trans ((OT.ak rfl).trans (hF _ rfl).symm)
 rw [e1,aK] at hF
 refine (OT.au (congrArg (!·) e1)).trans ?_
 refine eU ((dw c b).1.2==0) (λe2=> ?_) (λe2=> ?_)
 ·rw [e2,aT] at hF
  exact (OT.au e2).trans ((nn e2).trans (hF _ rfl).symm)
 rw [e2,aK] at hF
 refine (OT.ak e2).trans ((ae ?_).trans ?_)
 ·simp only [aA,aI,aJ]
  exact be hso (ag l3)
 refine eU ((ao tp).2.1==0) (λe3=> ?_) (λe3=> ?_)
 ·rw [e3,aT] at hF
  exact (OT.au e3).trans ((nn e3).trans (hF _ rfl).symm)
 rw [e3,aK] at hF
 have l4:=cT (fN tp) l3
 have l5:=cT (fN (ao tp).2.2) l4
 refine (OT.ak e3).trans ((ae ?_).trans ?_)
 ·simp only [aA,aI,aJ]
  exact be hso (ag l4)
 refine eU ((ao (ao tp).2.2).2.1==0) (λe4=> ?_) (λe4=> ?_)
 ·rw [e4,aT] at hF
  exact (OT.au e4).trans ((nn e4).trans (hF _ rfl).symm)
 rw [e4,aK] at hF
 refine (OT.ak e4).trans ?_
 refine eU (bB (opV (ay p.1 1) (ao tp).2.2)) (λe5=> ?_) (λe5=> ?_)
 rotate_left
 ·rw [e5,aK] at hF
  exact (OT.ak e5).trans (hF _ rfl).symm
 rw [e5,aT] at hF
 have hG:=hF _ rfl
 have q1:(rE (pS (ay p.1 1)) p.1 com).length<=com.length:=by
  unfold rE
  rw [List.length_map]
  exact (List.takeWhile_sublist _).length_le
 refine (OT.au e5).trans ((ae ?_).trans ?_)
 ·simp only [aA,aI,aJ,aw]
  refine ⟨rfl,hso,ba (show (0:Int)<=0/\(0:Int)<(p.2.2.1.length:Int) by omega),ag (show ((rE (pS (ay p.1 1)) p.1 com).length+2)*104<=140737488355328 by omega),be (ag ⟨rfl,rfl,r7,show p.2.1<=10 by omega,rfl,l5,rfl,rfl,Nat.zero_le _,?_⟩) hso⟩
  show (rE (pS (ay p.1 1)) p.1 com++ [_,_]).length<=100000
  rw [bK,List.length_cons,List.length_cons,List.length_nil]
  omega
 have hE:∀ R:Int×VSt,gr p com x v c b tp=R->G=some (azR c (ay p.1 1) (aEW p c (opV (ay p.1 1) (ao tp).2.2) R)):=λR h=>by
  rw [<-h];exact hG
 refine eU ((gr p com x v c b tp).1==0) (λe6=> ?_) (λe6=> ?_)
 ·have e8:aEW p c (opV (ay p.1 1) (ao tp).2.2) (gr p com x v c b tp)=((gr p com x v c b tp).1,[],(gr p com x v c b tp).2.1,(gr p com x v c b tp).2.2.1):=by
   unfold aEW
   rw [e6]
   rfl
  refine (OT.ak (congrArg (!·) e6)).trans ((nn e6).trans ?_)
  rw [hE _ rfl,e8]
  rfl
 have hE2:G=some (azR c (ay p.1 1) (cond ((dP (ay c 1) (gr p com x v c b tp).2.1).1.2==0) (cond ((dP (ay c 1) (dP (ay c 1) (gr p com x v c b tp).2.1).2).1.2==0)
  (0,wJ p (opV (ay p.1 1) (ao tp).2.2) (gr p com x v c b tp).2.2.2.1 (dP (ay c 1) (gr p com x v c b tp).2.1).1.1 (dP (ay c 1) (dP (ay c 1) (gr p com x v c b tp).2.1).2).1.1 (gr p com x v c b tp).2.2.2.2.1 (gr p com x v c b tp).2.2.2.2.2,(dP (ay c 1) (dP (ay c 1) (gr p com x v c b tp).2.1).2).2,(gr p com x v c b tp).2.2.1)
  ((dP (ay c 1) (dP (ay c 1) (gr p com x v c b tp).2.1).2).1.2,[],(dP (ay c 1) (dP (ay c 1) (gr p com x v c b tp).2.1).2).2,(gr p com x v c b tp).2.2.1))
  ((dP (ay c 1) (gr p com x v c b tp).2.1).1.2,[],(dP (ay c 1) (gr p com x v c b tp).2.1).2,(gr p com x v c b tp).2.2.1))):=by
  rw [hE _ rfl]
  unfold aEW
  rw [e6,aK]
 have q2:=xq (ay p.1 1) c x p.2.1.toNat (an3 p com v c b tp) e6
 have q3:(gr p com x v c b tp).2.2.2.2.1.length=p.2.1.toNat:=q2.1.trans (Nat.zero_add _)
 have q4:(gr p com x v c b tp).2.2.2.2.2.length<=1100:=by
  refine cT (Nat.le_of_eq q2.2) ?_
  show (rE (pS (ay p.1 1)) p.1 com++ [_,_]).length+2*p.2.1.toNat<=1100
  rw [bK,List.length_cons,List.length_cons,List.length_nil]
  omega
 clear hE hG hF q2
 refine (OT.au (congrArg (!·) e6)).trans ?_
 refine eU ((dP (ay c 1) (gr p com x v c b tp).2.1).1.2==0) (λe7=> ?_) (λe7=> ?_)
 ·rw [e7,aT] at hE2
  exact (OT.au e7).trans ((nn e7).trans hE2.symm)
 rw [e7,aK] at hE2
 refine (OT.ak e7).trans ?_
 refine eU ((dP (ay c 1) (dP (ay c 1) (gr p com x v c b tp).2.1).2).1.2==0) (λe8=> ?_) (λe8=> ?_)
 ·rw [e8,aT] at hE2
  exact (OT.au e8).trans ((nn e8).trans hE2.symm)
 rw [e8,aK] at hE2
 have w1:(wtE (pS (ay p.1 1)) (kW (pS (ay p.1 1)) (dP (ay c 1) (gr p com x v c b tp).2.1).1.1) (gr p com x v c b tp).2.2.2.2.1).length=p.2.2.1.length:=by
  rw [r9,<-q3]
  exact Te _ _ _ _
 refine (OT.ak e8).trans ((ae ?_).trans hE2.symm)
 simp only [aA,aI,aJ,aw]
 refine ⟨hso,be (ag (show (gr p com x v c b tp).2.2.2.2.1.length<=10 by omega)) hso,ag ⟨rfl,rfl,Nat.le_of_eq w1,cT (Nat.le_of_eq w1) (by omega),cT q4 (by omega)⟩,rfl,rfl,rfl,hso,hso,rfl,hso,ag ?_⟩
 show ((upto (rI p.2.2.1 (wtE (pS (ay p.1 1)) (kW (pS (ay p.1 1)) (dP (ay c 1) (gr p com x v c b tp).2.1).1.1) (gr p com x v c b tp).2.2.2.2.1)) (gr p com x v c b tp).2.2.2.2.2 (wtE (pS (ay p.1 1)) (kW (pS (ay p.1 1)) (dP (ay c 1) (gr p com x v c b tp).2.1).1.1) (gr p com x v c b tp).2.2.2.2.1).length).length+2)*104<=140737488355328
 rw [Si,w1]
 omega
theorem alH:aa aj 20 (jl.az yH VJ):=VI yK yM (λ_=>41) DD DB yJ yL (λq=>(eG q).1) DC DA yI Dz alK alJ alI _ _ λx oy hp ho=>(abW _ _ _ _ _ _ _ _ hp).trans ho
def sT:bx:=(Kc 2 (Ke 0 2 (jl.az yH VJ)))
theorem Q5:aa aj 20 sT:=(Kb (Kd alH))
theorem Q4:ax sT:=(zj (zk av))
def Y3:Env:=aq 20 sT auP
theorem aeg:bU aj te Y3:=aU follows uB Q5 Q4
abbrev TC:af:=lB
def xA (x:xB):Bool:=x.1.2.1.1==1
def HF (x:xB):OT lB.Y:=.br (cl x.1.1 x.1.2.1.1 x.1.2.1.2.length==0)
 (.ok ⟨Av,(((),(0:Int),()),(x.1.1,(),(),()),(ay x.1.1 1,(),()),[],x.1.2.1.2,())⟩)
 (.ok ⟨Au,(((),cl x.1.1 x.1.2.1.1 x.1.2.1.2.length,()),())⟩)
theorem ake:aa aj 34 (TC.az xA HF):=cJ (S:=lB) aol λx oy hp ho=>by
 obtain ⟨⟨c,⟨mode,l⟩,⟨⟩⟩,⟨⟩⟩:=x
 have hm:(mode==1)=true:=hp
 refine ⟨rfl,?_⟩
 rw [<-ho]
 unfold PH HF
 cases he:cl c mode l.length==0
 ·rfl
 ·exact (OT.ak rfl).trans ((OT.ak hm).trans (OT.ak rfl).symm)
def rQ:bx:=(rV [1] 1 (TC.az xA HF))
theorem PF:aa aj 34 rQ:=(uL ake)
theorem PE:ax rQ:=(ng av)
def YO:Env:=aq 34 rQ Y3
theorem aee:bU aj te YO:=aU follows aeg PF PE
abbrev aeI:af:=pf
def oc (x:HI):Bool:=x.1.2.1.1==1&&decide (x.1.2.2.1.length<=140737488355328)
def PL (x:HI):OT pf.Y:=.br (cl x.1.1 x.1.2.1.1 x.1.2.1.2.length==0)
 (.ok ⟨Gl,(((),(0:Int),()),(x.1.1,(),(),()),(ay x.1.1 1,(),()),x.1.2.2.1,x.1.2.1.2,())⟩)
 (.ok ⟨Gk,(((),cl x.1.1 x.1.2.1.1 x.1.2.1.2.length,()),())⟩)
theorem aos:aa aj 15 (aeI.az oc PL):=cJ (S:=pf) avL λx oy hp ho=>by
 obtain ⟨⟨c,⟨mode,l⟩,b,⟨⟩⟩,⟨⟩⟩:=x
 have hp':((mode==1)&&decide (b.length<=140737488355328))=true:=hp
 rw [aw] at hp'
 have hm:=hp'.1
 refine ⟨hp'.2,?_⟩
 rw [<-ho]
 unfold ZY PL
 cases he:cl c mode l.length==0
 ·rfl
 ·exact (OT.ak rfl).trans ((OT.ak hm).trans (OT.ak rfl).symm)
def xD:bx:=(rV [] 2 (rV [1] 1 (aeI.az oc PL)))
theorem TP:aa aj 15 xD:=(uL (uL aos))
theorem TO:ax xD:=(ng (ng av))
def aiO:Env:=aq 15 xD YO
theorem OZ:bU aj te aiO:=aU follows aee TP TO
abbrev aEz:Ty:=.prod aAg (.prod (.prod .int (.list .elem)) (.prod (.list .elem) (.prod (.list .elem) (.prod .elem .elem))))
def qf:af:=⟨[.val true aEz],[],true,0,false⟩
abbrev JB:Type:=(OU×Unit)×Unit
def ow:aL:=⟨[.own 0,aD],Ad,false⟩
def GM (a0:OU):OT qf.Y:=
 let z0:Int:=cl a0.fst.fst a0.snd.fst.fst (List.length a0.snd.fst.snd)
 let z1:aB×PUnit:=(a0.snd.snd.fst,())
 let z2:Int:=ay a0.fst.fst (1:Int)
 let z3:(kS×PUnit×PUnit×aB×ab×rq)×auq:=((a0.fst,(),(),a0.snd.snd.snd.fst,a0.snd.snd.snd.snd.fst,a0.snd.snd.snd.snd.snd,()),(a0.fst.fst,(),(),()),(z2,a0.snd.fst.snd,()),(a0.snd.snd.fst,()),[],())
 let z4:(Int×PUnit)×auq:=(opY a0.fst.fst z2 (aqW z3)).snd
 let z5:=z4.snd
 let z6:=z5.snd
 let z7:=z6.fst
 let z8:=z6.snd.snd.fst
 (gd [gR ((a0.snd.fst,()),()),xA ((a0.fst.fst,a0.snd.fst,()),())] (.br (z0==(0:Int))
 (gd [hZ ((a0.fst,()),()),dR (z1,()),oe (z1,()),dR ((a0.snd.snd.snd.fst,()),()),sY z3,C2 (((),()),(z5.fst.fst,(),(),()),(z7.fst,z7.snd.fst,()),z8,())] (.ok ⟨ow,(((),z4.fst.fst,()),z8,())⟩))
 (.br (!z0==(0:Int))
  (.ok ⟨ow,(((),z0,()),[],())⟩)
  (.ok ⟨ow,(((),z0,()),[],())⟩))))
theorem ab4 (pre:JB->Bool) (F:JB->OT qf.Y) (hF:∀ (x:JB) oy,pre x=true->(F x).run=some oy->(GM x.1.1).run=some oy):aa aj 12 (qf.az pre F):=
 dh OZ 12 Tryz.f12 qf [ow] bE (λx=>GM x.1.1) hF
abbrev Gg:Type:=mf×((Int×List ab)×(List ab×(List ab×(ab×ab))))
def Sr (a:Gg):Int×auy:=wE a.1 a.2.2.2.1 a.2.2.2.2.1 a.2.2.2.2.2 a.1.1 (ay a.1.1 1) a.2.1.2 a.2.2.1 []
def Mz (a:Gg):Int:=cl a.1.1 a.2.1.1 a.2.1.2.length
def fj (a:Gg):Int×aH:=cond (Mz a==0) ((Sr a).1,(Sr a).2.2.2) (Mz a,[])
def aGo (a:Gg):JH:=((a.1,(),(),a.2.2.2.1,a.2.2.2.2.1,a.2.2.2.2.2,()),(a.1.1,(),(),()),(ay a.1.1 1,a.2.1.2,()),(a.2.2.1,()),[],())
def XR (a:Gg):Bool:=gR ((a.2.1,()),())&&(a.2.1.1==1&&(hZ ((a.1,()),())&&(dR ((a.2.2.1,()),())&&(oe ((a.2.2.1,()),())&&(dR ((a.2.2.2.1,()),())&&(!(Mz a==0)||(sY (aGo a)&&eH (((Sr a).2.2.2,()),()))))))))
def DJ (x:JB):Bool:=XR x.1.1
def agG (x:JB):OT qf.Y:=.ok ⟨ow,(((),(fj x.1.1).1,()),(fj x.1.1).2,())⟩
theorem aqT:aa aj 12 (qf.az DJ agG):=ab4 _ _ λx oy hp ho=>by
 rw [<-ho]
 clear ho
 obtain ⟨⟨a,⟨⟩⟩,⟨⟩⟩:=x
 have hp':XR a=true:=hp
 unfold XR at hp'
 simp only [aw] at hp'
 obtain ⟨h1,h2,h3,h4,h5,h6,h7⟩:=hp'
 show (GM a).run=some ⟨ow,(((),(fj a).1,()),(fj a).2,())⟩
 unfold GM
 refine (ae (by simp only [aA,aI,aJ,aw];exact ⟨h1,h2⟩)).trans ?_
 refine eU (Mz a==0) (λe=> ?_) (λe=> ?_)
 ·refine (OT.au e).trans ((OT.ak (congrArg (!·) e)).trans ?_)
  unfold fj
  rw [e]
  rfl
 ·rw [e,Bool.not_true,Bool.false_or,aw] at h7
  refine (OT.ak e).trans ((ae ?_).trans ?_)
  ·simp only [aA,aI,aJ,aw]
   exact ⟨h3,h4,h5,h6,h7.1,h7.2⟩
  ·unfold fj
   rw [e]
   rfl
def yR:bx:=(qf.az DJ agG)
theorem VW:aa aj 12 yR:=aqT
theorem VV:ax yR:=av
def ai3:Env:=aq 12 yR aiO
theorem O7:bU aj te ai3:=aU follows OZ VW VV
def yG:af:=⟨[.val true aEz,iS,du],[],true,0,false⟩
abbrev VF:Type:=(OU×aH×oV)×Unit
def qb:aL:=⟨[rA,aD,aD],[],false⟩
def Q3 (a0:OU) (a1:aH) (a2:ab):OT yG.Y:=
 let z0:Bool:=hZ ((a0.fst,()),())
 let z1:Bool:=dR ((a0.snd.snd.snd.fst,()),())
 let z2:Bool:=iM ((a0.fst,a0.snd.snd.snd.fst,a0.snd.snd.snd.snd.fst,()),())
 let z3:Int:=ay a0.fst.fst (1:Int)
 let z4:(kS×PUnit×ef×ab×rq)×(Int×PUnit×FK)×LF×PUnit:=((a0.fst,(),[({w0:=1,w1:=0,w2:=0,w3:=0},El a0.fst a0.snd.snd.snd.fst a0.snd.snd.snd.snd.fst)],a0.snd.snd.snd.snd.snd,a2,()),(a0.fst.fst,(),a1,()),(z3,a0.snd.fst.snd,()),())
 let z5:(PUnit×Int×PUnit)×(Int×PUnit×FK)×LF×ef×PUnit:=(azR a0.fst.fst z3 (VH z4)).snd
 let z6:=z5.fst.snd.fst
 let z7:=z5.snd
 let z8:Int:=(↑(List.length z7.fst.snd.snd.fst):Int)
 let z9:=z7.snd.snd.fst
 (gd [gR ((a0.snd.fst,()),()),rO ((a1,()),()),oc ((a0.fst.fst,a0.snd.fst,a1,()),())] (.br (cl a0.fst.fst a0.snd.fst.fst (List.length a0.snd.fst.snd)==(0:Int))
 (gd [z0,z1,z2,z0,yH z4] (.br (!z6==(0:Int))
  (.ok ⟨qb,((false,z8,z6,()),())⟩)
  (gd [mD ((a0.fst.fst,z9,()),())] (.ok ⟨qb,(((AF a0.fst.fst (wC a0.fst.fst z9)).snd.snd,z8,(0:Int),()),())⟩))))
 (gd [z0,z1,z2] (.br (!cl a0.fst.fst a0.snd.fst.fst (List.length a0.snd.fst.snd)==(0:Int))
  (.ok ⟨qb,((false,(0:Int),(80:Int),()),())⟩)
  (.ok ⟨qb,((false,(0:Int),(80:Int),()),())⟩)))))
theorem alD (pre:VF->Bool) (F:VF->OT yG.Y) (hF:∀ (x:VF) oy,pre x=true->(F x).run=some oy->(Q3 x.1.1 x.1.2.1 x.1.2.2.1).run=some oy):aa aj 26 (yG.az pre F):=
 dh O7 26 Tryz.f26 yG [qb] bE (λx=>Q3 x.1.1 x.1.2.1 x.1.2.2.1) hF
def aDR (a:Gg):List Tm:= [(⟨1,0,0,0⟩,El a.1 a.2.2.2.1 a.2.2.2.2.1)]
def zg (a:Gg) (b:aH) (v:ab):Int×YL:=avE a.1 (aDR a) a.2.2.2.2.2 v a.1.1 b a.2.1.2
def oB (a:Gg) (b:aH) (v:ab):Bool×Int×Int:=cond (Mz a==0) (cond ((zg a b v).1==0) ((AF a.1.1 (wC a.1.1 (zg a b v).2.1)).2.2,((zg a b v).2.2.1.length:Int),0) (false,((zg a b v).2.2.1.length:Int),(zg a b v).1)) (false,0,80)
def Ws (a:Gg) (b:aH) (v:ab):Bool:=gR ((a.2.1,()),())&&(rO ((b,()),())&&(oc ((a.1.1,a.2.1,b,()),())&&(hZ ((a.1,()),())&&(dR ((a.2.2.2.1,()),())&&(iM ((a.1,a.2.2.2.1,a.2.2.2.2.1,()),())&&(!(Mz a==0)||(ajZ a.1 (aDR a) (ay a.1.1 1) a.2.1.2&&(!((zg a b v).1==0)||mD ((a.1.1,(zg a b v).2.1,()),())))))))))
def Jv (x:VF):Bool:=Ws x.1.1 x.1.2.1 x.1.2.2.1
def aqI (x:VF):OT yG.Y:=.ok ⟨qb,(((oB x.1.1 x.1.2.1 x.1.2.2.1).1,(oB x.1.1 x.1.2.1 x.1.2.2.1).2.1,(oB x.1.1 x.1.2.1 x.1.2.2.1).2.2,()),())⟩
theorem axx:aa aj 26 (yG.az Jv aqI):=alD _ _ λx oy hp ho=>by
 rw [<-ho]
 clear ho
 obtain ⟨⟨a,b,v,⟨⟩⟩,⟨⟩⟩:=x
 have hp':Ws a b v=true:=hp
 unfold Ws at hp'
 simp only [aw] at hp'
 obtain ⟨h1,h2,h3,h4,h5,h6,h7⟩:=hp'
 show (Q3 a b v).run=some ⟨qb,(((oB a b v).1,(oB a b v).2.1,(oB a b v).2.2,()),())⟩
 unfold Q3
 refine (ae (by simp only [aA,aI,aJ,aw];exact ⟨h1,h2,h3⟩)).trans ?_
 refine eU (Mz a==0) (λe=> ?_) (λe=> ?_)
 ·refine (OT.au e).trans ((ae (by simp only [aA,aI,aJ,aw];exact ⟨h4,h5,h6⟩)).trans ((OT.ak (congrArg (!·) e)).trans ?_))
  unfold oB
  rw [e]
  rfl
 rw [e,Bool.not_true,Bool.false_or,aw] at h7
 refine (OT.ak e).trans ((ae (by simp only [aA,aI,aJ,aw];exact ⟨h4,h5,h6,h4,h7.1⟩)).trans ?_)
 have h8:=h7.2
 refine eU ((zg a b v).1==0) (λe1=> ?_) (λe1=> ?_)
 ·refine (OT.ak (congrArg (!·) e1)).trans ?_
  unfold oB
  rw [e,e1]
  rfl
 ·rw [e1,Bool.not_true,Bool.false_or] at h8
  refine (OT.au (congrArg (!·) e1)).trans ((ae (by simp only [aA,aI,aJ];exact h8)).trans ?_)
  unfold oB
  rw [e,e1]
  rfl
def Dx:bx:=(yG.az Jv aqI)
theorem abV:aa aj 26 Dx:=axx
theorem abU:ax Dx:=av
def auN:Env:=aq 26 Dx ai3
theorem Y0:bU aj te auN:=aU follows O7 abV abU
def Bx:af:=⟨[],[],true,0,false⟩
def J0:aL:=⟨n9,[],false⟩
abbrev arj:Type:=Bx.T
def NV (_:arj):Bool:=true
def agV (_:arj):OT Bx.Y:=.ok ⟨J0,((true,()),())⟩
theorem ari:aa aj 9 (Bx.az NV agV):=dh Y0 9 Tryz.f9 Bx [J0] bE (λ_=>.ok ⟨J0,((true,()),())⟩) (λ_ _ _ ho=>ho)
def zf:bx:=(Bx.az NV agV)
theorem Wn:aa aj 9 zf:=ari
theorem Wm:ax zf:=av
def azH:Env:=aq 9 zf auN
theorem ans:bU aj te azH:=aU follows Y0 Wn Wm
end
section
namespace Ipa
open Lean.Grind
structure Lin (R M:Type) [CommRing R] [IntModule M] where
 act:R->M->M
 n8:∀ a b x,act (a+b) x=act a x+act b x
 q9:∀ a x y,act a (x+y)=act a x+act a y
 li:∀ a b x,act (a*b) x=act a (act b x)
 apW:∀ x,act 1 x=x
variable {R M:Type} [CommRing R] [IntModule M] (L:Lin R M)
theorem Lin.Pu (x:M):L.act 0 x=0:=by
 have h:=L.n8 0 0 x
 rw [show (0:R)+0=0 by grind] at h
 grind
theorem Lin.wv (a:R):L.act a (0:M)=0:=by
 have h:=L.q9 a 0 0
 rw [show (0:M)+0=0 by grind] at h
 grind
def inn:List R->List R->R
 |a::r,b::s=>a*b+inn r s
 |_,_=>0
def dot:List R->List M->M
 |a::r,g::s=>L.act a g+dot r s
 |_,_=>0
def fol (k:R):List R->List R->List R
 |a::r,b::s=>(a+k*b)::fol k r s
 |_,_=> []
def arP (k:R):List M->List M->List M
 |a::r,b::s=>(a+L.act k b)::arP k r s
 |_,_=> []
def val (z:R) (U W:M) (a b:List R) (g:List M) (f:R):M:=dot L a g+L.act (inn a b*z) U+L.act f W
theorem DM:∀ {a b c d:List R},a.length=b.length->inn (a++c) (b++d)=inn a b+inn c d
 | [],[],c,d,_=>by simp only [List.nil_append,inn];grind
 |a::r,b::s,c,d,h=>by
  simp only [List.cons_append,inn,DM (Nat.succ.inj h)]
  grind
theorem Ei:∀ {a:List R} {b:List M} {c:List R} {d:List M},a.length=b.length->dot L (a++c) (b++d)=dot L a b+dot L c d
 | [],[],c,d,_=>by simp only [List.nil_append,dot];grind
 |a::r,b::s,c,d,h=>by
  simp only [List.cons_append,dot,Ei (Nat.succ.inj h)]
  grind
theorem aq1 (u v:R) (h:u*v=1):∀ {a0 a1 b0 b1:List R},a1.length=a0.length->b0.length=a0.length->b1.length=a0.length->
 inn (fol v a0 a1) (fol u b0 b1)=inn a0 b0+inn a1 b1+v*inn a1 b0+u*inn a0 b1
 | [],[],[],[],_,_,_=>by simp only [fol,inn];grind
 |a0::r0,a1::r1,b0::s0,b1::s1,h1,h2,h3=>by
  simp only [fol,inn,aq1 u v h (Nat.succ.inj h1) (Nat.succ.inj h2) (Nat.succ.inj h3)]
  grind
theorem asF (u v:R) (h:u*v=1):∀ {a0 a1:List R} {b0 b1:List M},a1.length=a0.length->b0.length=a0.length->b1.length=a0.length->
 dot L (fol v a0 a1) (arP L u b0 b1)=dot L a0 b0+dot L a1 b1+L.act v (dot L a1 b0)+L.act u (dot L a0 b1)
 | [],[],[],[],_,_,_=>by simp only [fol,arP,dot,L.wv];grind
 |a0::r0,a1::r1,b0::s0,b1::s1,h1,h2,h3=>by
  simp only [fol,arP,dot,asF u v h (Nat.succ.inj h1) (Nat.succ.inj h2) (Nat.succ.inj h3),L.q9,L.n8]
  have e1:L.act (v*a1) (L.act u b1)=L.act a1 b1:=by rw [<-L.li,show v*a1*u=a1 by grind]
  have e2:L.act a0 (L.act u b1)=L.act u (L.act a0 b1):=by rw [<-L.li,<-L.li,show a0*u=u*a0 by grind]
  rw [e1,e2,L.li v a1]
  grind
theorem an2 (u v z:R) (h:u*v=1) (U W:M) {a0 a1 b0 b1:List R} {g0 g1:List M} (f l r:R) (h1:a1.length=a0.length) (h2:b0.length=a0.length) (h3:b1.length=a0.length) (h4:g0.length=a0.length) (h5:g1.length=a0.length):
 val L z U W (fol v a0 a1) (fol u b0 b1) (arP L u g0 g1) (f+(v*l+u*r))=val L z U W (a0++a1) (b0++b1) (g0++g1) f+L.act v (val L z U W a1 b0 g0 l)+L.act u (val L z U W a0 b1 g1 r):=by
 unfold val
 rw [aq1 u v h h1 h2 h3,asF L u v h h1 h4 h5,DM h2.symm,Ei L h4.symm]
 simp only [L.q9,L.n8,<-L.li]
 rw [show (inn a0 b0+inn a1 b1+v*inn a1 b0+u*inn a0 b1)*z=inn a0 b0*z+inn a1 b1*z+v*(inn a1 b0*z)+u*(inn a0 b1*z) by grind,show (inn a0 b0+inn a1 b1)*z=inn a0 b0*z+inn a1 b1*z by grind]
 simp only [L.n8]
 grind
def wts (f:R):List R->List R
 | []=> [f]
 |u::r=>wts f r++wts (f*u) r
theorem Hd:∀ (us:List R) (f:R),(wts f us).length=2^us.length
 | [],_=>rfl
 |u::r,f=>by
  rw [wts,bK,Hd r,Hd r,List.length_cons]
  omega
def wl:List R->List R->List R
 |out,[]=>out
 |out,u::r=>wl (out.flatMap λv=> [v,v*u]) r
theorem azN:∀ (us out:List R),wl out us=out.flatMap λf=>wts f us
 | [],out=>by
  rw [wl]
  induction out with
  |nil=>rfl
  |cons a r ih=>rw [List.flatMap_cons,<-ih];rfl
 |u::r,out=>by
  rw [wl,azN r,List.flatMap_assoc]
  congr
  funext f
  simp [wts]
theorem Xm (k:R):∀ (w:List R) (g:List M),dot L (w.map (k* ·)) g=L.act k (dot L w g)
 | [],g=>by
  rw [List.map_nil,show dot L [] g=0 by cases g<;>rfl,L.wv]
 |a::r,[]=>by
  rw [show dot L (a::r) ([]:List M)=0 from rfl,L.wv];rfl
 |a::r,g::s=>by
  rw [List.map_cons,dot,dot,Xm k r s,L.q9,L.li]
theorem Zr (k:R):∀ (us:List R) (f:R),wts (k*f) us=(wts f us).map (k* ·)
 | [],f=>rfl
 |u::r,f=>by
  rw [wts,wts,List.map_append,<-Zr k r f,<-Zr k r (f*u),show k*f*u=k*(f*u) by grind]
theorem ahv (u:R):∀ {w:List R} {lo hi:List M},lo.length=w.length->hi.length=w.length->dot L w (arP L u lo hi)=dot L w lo+L.act u (dot L w hi)
 | [],[],[],_,_=>by simp only [dot,L.wv];grind
 |a::r,x::s,y::t,h1,h2=>by
  simp only [arP,dot,ahv u (Nat.succ.inj h1) (Nat.succ.inj h2),L.q9]
  rw [show L.act a (L.act u y)=L.act u (L.act a y) by rw [<-L.li,<-L.li,show a*u=u*a by grind]]
  grind
theorem aEi (f u:R) (us:List R) {lo hi:List M} (h1:lo.length=2^us.length) (h2:hi.length=2^us.length):dot L (wts f (u::us)) (lo++hi)=dot L (wts f us) (arP L u lo hi):=by
 rw [wts,Ei L (by rw [Hd,h1]),show f*u=u*f by grind,Zr,Xm,ahv L u (by rw [Hd,h1]) (by rw [Hd,h2])]
def CB (x:R):R->Nat->List R
 |_,0=> []
 |c,n+1=>c::CB x (c*x) n
theorem Gz (x:R):∀ (n:Nat) (c:R),(CB x c n).length=n
 |0,_=>rfl
 |n+1,c=>congrArg Nat.succ (Gz x n (c*x))
theorem Qp (x:R) (n:Nat):∀ (m:Nat) (c:R),CB x c (m+n)=CB x c m++CB x (c*x^m) n
 |0,c=>by
  rw [Nat.zero_add,CB,List.nil_append,show c*x^0=c by grind]
 |m+1,c=>by
  rw [show m+1+n=(m+n)+1 by omega,CB,CB,Qp x n m,List.cons_append,show c*x*x^m=c*x^(m+1) by grind]
theorem ayk (u x:R) (c d:R):∀ (n:Nat),fol u (CB x c n) (CB x d n)=CB x (c+u*d) n:=λn=>by
 induction n generalizing c d with
 |zero=>rfl
 |succ n ih=>rw [CB,CB,fol,ih,CB,show c*x+u*(d*x)=(c+u*d)*x by grind]
def ev (x:R):List R->R
 | []=>0
 |v::r=>ev x r*x+v
theorem agK (x:R):∀ (a:List R) (c:R) (n:Nat),a.length<=n->inn a (CB x c n)=c*ev x a
 | [],c,n,_=>by
  rw [show inn [] (CB x c n)=0 by cases CB x c n<;>rfl,ev];grind
 |a::r,c,n+1,h=>by
  rw [CB,inn,agK x r _ n (Nat.le_of_succ_le_succ h),ev]
  grind
end Ipa
end
section
set_option maxRecDepth 100000
theorem aHH {p xs z3 yz x3 s2 mm m b1 s a1 yy Y X l y x z:Int} (h0:p∣xs-(l*l-x-x)) (h1:p∣l*(y+y)-(x*x+x*x+x*x)) (h2:p∣z3-(yz*2)) (h3:p∣yz-(Y*z)) (h4:p∣x3-(mm-s2)) (h5:p∣s2-(s*2)) (h6:p∣mm-(m*m)) (h7:p∣m-(b1*3)) (h8:p∣b1-(X*X)) (h9:p∣s-(a1*4)) (h10:p∣a1-(X*yy)) (h11:p∣yy-(Y*Y)) (h12:p∣X-x*(z*z)) (h13:p∣Y-y*(z*z*z)):p∣(x3-xs*(z3*z3)):=
 dk (dc (-z3*z3) h0 (dc (-2*Y*l*z*z*z*z*z-3*x*x*z*z*z*z*z*z*z*z) h1 (dc (-z3*l*l+2*z3*x-2*yz*l*l+4*yz*x) h2 (dc (-4*yz*l*l+8*yz*x-4*Y*l*l*z+8*Y*x*z) h3 (dc (1) h4 (dc (-1) h5 (dc (1) h6 (dc (m+3*b1) h7 (dc (9*b1+9*X*X) h8 (dc (-2) h9 (dc (-8) h10 (dc (-8*X) h11 (dc (-8*Y*Y+9*X*X*X+9*X*X*x*z*z+9*X*x*x*z*z*z*z+9*x*x*x*z*z*z*z*z*z) h12 (dc (-4*Y*l*l*z*z-6*l*x*x*z*z*z*z*z) h13 (dz p))))))))))))))) (by clear h0 h1 h2 h3 h4 h5 h6 h7 h8 h9 h10 h11 h12 h13;grind)
theorem aHG {p ys xs z3 yz y3 y8 y4 md d x3 s2 mm m b1 s a1 yy Y X l y x z:Int} (h0:p∣ys-(l*(x-xs)-y)) (h1:p∣xs-(l*l-x-x)) (h2:p∣l*(y+y)-(x*x+x*x+x*x)) (h3:p∣z3-(yz*2)) (h4:p∣yz-(Y*z)) (h5:p∣y3-(md-y8)) (h6:p∣y8-(y4*8)) (h7:p∣y4-(yy*yy)) (h8:p∣md-(m*d)) (h9:p∣d-(s-x3)) (h10:p∣x3-(mm-s2)) (h11:p∣s2-(s*2)) (h12:p∣mm-(m*m)) (h13:p∣m-(b1*3)) (h14:p∣b1-(X*X)) (h15:p∣s-(a1*4)) (h16:p∣a1-(X*yy)) (h17:p∣yy-(Y*Y)) (h18:p∣X-x*(z*z)) (h19:p∣Y-y*(z*z*z)):p∣(y3-ys*(z3*z3*z3)):=
 dk (dc (-z3*z3*z3) h0 (dc (z3*z3*z3*l) h1 (dc (4*Y*Y*l*l*z*z*z*z*z*z-12*Y*Y*x*z*z*z*z*z*z+6*Y*l*x*x*z*z*z*z*z*z*z*z*z+9*x*x*x*x*z*z*z*z*z*z*z*z*z*z*z*z) h2 (dc (z3*z3*l*l*l-3*z3*z3*l*x+z3*z3*y+2*z3*yz*l*l*l-6*z3*yz*l*x+2*z3*yz*y+4*yz*yz*l*l*l-12*yz*yz*l*x+4*yz*yz*y) h3 (dc (8*yz*yz*l*l*l-24*yz*yz*l*x+8*yz*yz*y+8*yz*Y*l*l*l*z-24*yz*Y*l*x*z+8*yz*Y*y*z+8*Y*Y*l*l*l*z*z-24*Y*Y*l*x*z*z+8*Y*Y*y*z*z) h4 (dc (1) h5 (dc (-1) h6 (dc (-8) h7 (dc (1) h8 (dc (m) h9 (dc (-m) h10 (dc (m) h11 (dc (-m) h12 (dc (-m*m-3*m*b1-9*b1*b1+3*s) h13 (dc (-27*b1*b1-27*b1*X*X+9*s-27*X*X*X*X) h14 (dc (9*X*X) h15 (dc (36*X*X) h16 (dc (-8*yy-8*Y*Y+36*X*X*X) h17 (dc (36*Y*Y*X*X+36*Y*Y*X*x*z*z+36*Y*Y*x*x*z*z*z*z-27*X*X*X*X*X-27*X*X*X*X*x*z*z-27*X*X*X*x*x*z*z*z*z-27*X*X*x*x*x*z*z*z*z*z*z-27*X*x*x*x*x*z*z*z*z*z*z*z*z-27*x*x*x*x*x*z*z*z*z*z*z*z*z*z*z) h18 (dc (-8*Y*Y*Y+8*Y*Y*l*l*l*z*z*z-24*Y*Y*l*x*z*z*z+12*Y*l*l*x*x*z*z*z*z*z*z+18*l*x*x*x*x*z*z*z*z*z*z*z*z*z) h19 (dz p))))))))))))))))))))) (by clear h0 h1 h2 h3 h4 h5 h6 h7 h8 h9 h10 h11 h12 h13 h14 h15 h16 h17 h18 h19;grind)
theorem aHF {p z3 yz Y y z:Int} (h0:p∣z3-(yz*2)) (h1:p∣yz-(Y*z)) (h2:p∣Y-y*(z*z*z)):p∣(z3-2*(y*(z*(z*(z*z))))):=
 dk (dc (1) h0 (dc (2) h1 (dc (2*z) h2 (dz p)))) (by clear h0 h1 h2;grind)
theorem aHR {p h v u qz pz X2 X1 x1 x2 z1 z2:Int} (h0:p∣h-(v-u)) (h1:p∣v-(X2*pz)) (h2:p∣u-(X1*qz)) (h3:p∣qz-(z2*z2)) (h4:p∣pz-(z1*z1)) (h5:p∣X1-x1*(z1*z1)) (h6:p∣X2-x2*(z2*z2)):p∣(h-(x2-x1)*(z1*z1*(z2*z2))):=
 dk (dc (1) h0 (dc (1) h1 (dc (-1) h2 (dc (-X1) h3 (dc (X2) h4 (dc (-z2*z2) h5 (dc (z1*z1) h6 (dz p)))))))) (by clear h0 h1 h2 h3 h4 h5 h6;grind)
theorem aHQ {p r t p3 s q3 qz pz Y2 Y1 y1 y2 z1 z2:Int} (h0:p∣r-(t-s)) (h1:p∣t-(Y2*p3)) (h2:p∣p3-(pz*z1)) (h3:p∣s-(Y1*q3)) (h4:p∣q3-(qz*z2)) (h5:p∣qz-(z2*z2)) (h6:p∣pz-(z1*z1)) (h7:p∣Y1-y1*(z1*z1*z1)) (h8:p∣Y2-y2*(z2*z2*z2)):p∣(r-(y2-y1)*(z1*z1*z1*(z2*z2*z2))):=
 dk (dc (1) h0 (dc (1) h1 (dc (Y2) h2 (dc (-1) h3 (dc (-Y1) h4 (dc (-Y1*z2) h5 (dc (Y2*z1) h6 (dc (-z2*z2*z2) h7 (dc (z1*z1*z1) h8 (dz p)))))))))) (by clear h0 h1 h2 h3 h4 h5 h6 h7 h8;grind)
theorem aHP {p xs z3 zz x3 c2 rh rr cc hhh hh r t p3 h v s q3 u qz pz Y2 X2 Y1 X1 y2 y1 l x1 x2 z1 z2:Int} (h0:p∣xs-(l*l-x1-x2)) (h1:p∣l*(x1-x2)-(y1-y2)) (h2:p∣z3-(h*zz)) (h3:p∣zz-(z1*z2)) (h4:p∣x3-(rh-c2)) (h5:p∣c2-(cc*2)) (h6:p∣rh-(rr-hhh)) (h7:p∣rr-(r*r)) (h8:p∣cc-(u*hh)) (h9:p∣hhh-(hh*h)) (h10:p∣hh-(h*h)) (h11:p∣r-(t-s)) (h12:p∣t-(Y2*p3)) (h13:p∣p3-(pz*z1)) (h14:p∣h-(v-u)) (h15:p∣v-(X2*pz)) (h16:p∣s-(Y1*q3)) (h17:p∣q3-(qz*z2)) (h18:p∣u-(X1*qz)) (h19:p∣qz-(z2*z2)) (h20:p∣pz-(z1*z1)) (h21:p∣X1-x1*(z1*z1)) (h22:p∣Y1-y1*(z1*z1*z1)) (h23:p∣X2-x2*(z2*z2)) (h24:p∣Y2-y2*(z2*z2*z2)):p∣(x3-xs*(z3*z3)):=
 dk (dc (-z3*z3) h0 (dc (Y2*z1*z1*z1*z1*z1*z1*z2*z2*z2-l*x1*z1*z1*z1*z1*z1*z1*z2*z2*z2*z2*z2*z2+l*x2*z1*z1*z1*z1*z1*z1*z2*z2*z2*z2*z2*z2-y1*z1*z1*z1*z1*z1*z1*z2*z2*z2*z2*z2*z2) h1 (dc (-z3*l*l+z3*x1+z3*x2-zz*h*l*l+zz*h*x1+zz*h*x2) h2 (dc (-zz*h*h*l*l+zz*h*h*x1+zz*h*h*x2-h*h*l*l*z1*z2+h*h*x1*z1*z2+h*h*x2*z1*z2) h3 (dc (1) h4 (dc (-1) h5 (dc (1) h6 (dc (1) h7 (dc (-2) h8 (dc (-1) h9 (dc (-h-2*u) h10 (dc (r+t-s) h11 (dc (t+p3*Y2-2*s) h12 (dc (p3*Y2*Y2-2*s*Y2+pz*Y2*Y2*z1) h13 (dc (-h*h-h*v-h*u-h*l*l*z1*z1*z2*z2+h*x1*z1*z1*z2*z2+h*x2*z1*z1*z2*z2-v*v-v*l*l*z1*z1*z2*z2+v*x1*z1*z1*z2*z2+v*x2*z1*z1*z2*z2+u*u+u*l*l*z1*z1*z2*z2-u*x1*z1*z1*z2*z2-u*x2*z1*z1*z2*z2) h14 (dc (-v*v+v*u-v*pz*X2-v*l*l*z1*z1*z2*z2+v*x1*z1*z1*z2*z2+v*x2*z1*z1*z2*z2+u*u+u*pz*X2+2*u*l*l*z1*z1*z2*z2-2*u*x1*z1*z1*z2*z2-2*u*x2*z1*z1*z2*z2-pz*pz*X2*X2-pz*X2*l*l*z1*z1*z2*z2+pz*X2*x1*z1*z1*z2*z2+pz*X2*x2*z1*z1*z2*z2) h15 (dc (s+q3*Y1-2*pz*Y2*z1) h16 (dc (q3*Y1*Y1+qz*Y1*Y1*z2-2*pz*Y2*Y1*z1) h17 (dc (-u*u-u*qz*X1+u*pz*X2-u*l*l*z1*z1*z2*z2+u*x1*z1*z1*z2*z2+u*x2*z1*z1*z2*z2-qz*qz*X1*X1+qz*pz*X2*X1-qz*X1*l*l*z1*z1*z2*z2+qz*X1*x1*z1*z1*z2*z2+qz*X1*x2*z1*z1*z2*z2+pz*pz*X2*X2+2*pz*X2*l*l*z1*z1*z2*z2-2*pz*X2*x1*z1*z1*z2*z2-2*pz*X2*x2*z1*z1*z2*z2) h18 (dc (-qz*qz*X1*X1*X1+qz*pz*X2*X1*X1+qz*Y1*Y1*z2*z2-qz*X1*X1*X1*z2*z2-qz*X1*X1*l*l*z1*z1*z2*z2+qz*X1*X1*x1*z1*z1*z2*z2+qz*X1*X1*x2*z1*z1*z2*z2+pz*pz*X2*X2*X1-2*pz*Y2*Y1*z1*z2+pz*X2*X1*X1*z2*z2+2*pz*X2*X1*l*l*z1*z1*z2*z2-2*pz*X2*X1*x1*z1*z1*z2*z2-2*pz*X2*X1*x2*z1*z1*z2*z2+Y1*Y1*z2*z2*z2*z2-X1*X1*X1*z2*z2*z2*z2-X1*X1*l*l*z1*z1*z2*z2*z2*z2+X1*X1*x1*z1*z1*z2*z2*z2*z2+X1*X1*x2*z1*z1*z2*z2*z2*z2) h19 (dc (-pz*pz*X2*X2*X2+pz*Y2*Y2*z1*z1-pz*X2*X2*X2*z1*z1+pz*X2*X2*X1*z2*z2-pz*X2*X2*l*l*z1*z1*z2*z2+pz*X2*X2*x1*z1*z1*z2*z2+pz*X2*X2*x2*z1*z1*z2*z2+Y2*Y2*z1*z1*z1*z1-2*Y2*Y1*z1*z2*z2*z2-X2*X2*X2*z1*z1*z1*z1+X2*X2*X1*z1*z1*z2*z2-X2*X2*l*l*z1*z1*z1*z1*z2*z2+X2*X2*x1*z1*z1*z1*z1*z2*z2+X2*X2*x2*z1*z1*z1*z1*z2*z2+X2*X1*X1*z2*z2*z2*z2+2*X2*X1*l*l*z1*z1*z2*z2*z2*z2-2*X2*X1*x1*z1*z1*z2*z2*z2*z2-2*X2*X1*x2*z1*z1*z2*z2*z2*z2) h20 (dc (X2*X2*z1*z1*z1*z1*z2*z2+X2*X1*z1*z1*z2*z2*z2*z2+2*X2*l*l*z1*z1*z1*z1*z2*z2*z2*z2-X2*x1*z1*z1*z1*z1*z2*z2*z2*z2-2*X2*x2*z1*z1*z1*z1*z2*z2*z2*z2-X1*X1*z2*z2*z2*z2*z2*z2-X1*l*l*z1*z1*z2*z2*z2*z2*z2*z2+X1*x2*z1*z1*z2*z2*z2*z2*z2*z2-l*l*x1*z1*z1*z1*z1*z2*z2*z2*z2*z2*z2+x1*x2*z1*z1*z1*z1*z2*z2*z2*z2*z2*z2) h21 (dc (-2*Y2*z1*z1*z1*z2*z2*z2+Y1*z2*z2*z2*z2*z2*z2+y1*z1*z1*z1*z2*z2*z2*z2*z2*z2) h22 (dc (-X2*X2*z1*z1*z1*z1*z1*z1-X2*l*l*z1*z1*z1*z1*z1*z1*z2*z2+2*X2*x1*z1*z1*z1*z1*z1*z1*z2*z2+2*l*l*x1*z1*z1*z1*z1*z1*z1*z2*z2*z2*z2-l*l*x2*z1*z1*z1*z1*z1*z1*z2*z2*z2*z2-x1*x1*z1*z1*z1*z1*z1*z1*z2*z2*z2*z2) h23 (dc (Y2*z1*z1*z1*z1*z1*z1-l*x1*z1*z1*z1*z1*z1*z1*z2*z2*z2+l*x2*z1*z1*z1*z1*z1*z1*z2*z2*z2-y1*z1*z1*z1*z1*z1*z1*z2*z2*z2) h24 (dz p)))))))))))))))))))))))))) (by clear h0 h1 h2 h3 h4 h5 h6 h7 h8 h9 h10 h11 h12 h13 h14 h15 h16 h17 h18 h19 h20 h21 h22 h23 h24;grind)
theorem aHO {p ys xs z3 zz y3 sh rd d x3 c2 rh rr cc hhh hh r t p3 h v s q3 u qz pz Y2 X2 Y1 X1 y2 y1 l x1 x2 z1 z2:Int} (h0:p∣ys-(l*(x1-xs)-y1)) (h1:p∣xs-(l*l-x1-x2)) (h2:p∣l*(x1-x2)-(y1-y2)) (h3:p∣z3-(h*zz)) (h4:p∣zz-(z1*z2)) (h5:p∣y3-(rd-sh)) (h6:p∣sh-(s*hhh)) (h7:p∣rd-(r*d)) (h8:p∣d-(cc-x3)) (h9:p∣x3-(rh-c2)) (h10:p∣c2-(cc*2)) (h11:p∣rh-(rr-hhh)) (h12:p∣rr-(r*r)) (h13:p∣cc-(u*hh)) (h14:p∣hhh-(hh*h)) (h15:p∣hh-(h*h)) (h16:p∣r-(t-s)) (h17:p∣t-(Y2*p3)) (h18:p∣p3-(pz*z1)) (h19:p∣h-(v-u)) (h20:p∣v-(X2*pz)) (h21:p∣s-(Y1*q3)) (h22:p∣q3-(qz*z2)) (h23:p∣u-(X1*qz)) (h24:p∣qz-(z2*z2)) (h25:p∣pz-(z1*z1)) (h26:p∣X1-x1*(z1*z1)) (h27:p∣Y1-y1*(z1*z1*z1)) (h28:p∣X2-x2*(z2*z2)) (h29:p∣Y2-y2*(z2*z2*z2)):p∣(y3-ys*(z3*z3*z3)):=
 dk (dc (-z3*z3*z3) h0 (dc (z3*z3*z3*l) h1 (dc (-Y2*Y2*z1*z1*z1*z1*z1*z1*z1*z1*z1*z2*z2*z2+Y2*l*x1*z1*z1*z1*z1*z1*z1*z1*z1*z1*z2*z2*z2*z2*z2*z2-Y2*l*x2*z1*z1*z1*z1*z1*z1*z1*z1*z1*z2*z2*z2*z2*z2*z2+2*Y2*y1*z1*z1*z1*z1*z1*z1*z1*z1*z1*z2*z2*z2*z2*z2*z2-l*l*x1*x1*z1*z1*z1*z1*z1*z1*z1*z1*z1*z2*z2*z2*z2*z2*z2*z2*z2*z2+2*l*l*x1*x2*z1*z1*z1*z1*z1*z1*z1*z1*z1*z2*z2*z2*z2*z2*z2*z2*z2*z2-l*l*x2*x2*z1*z1*z1*z1*z1*z1*z1*z1*z1*z2*z2*z2*z2*z2*z2*z2*z2*z2-y1*l*x1*z1*z1*z1*z1*z1*z1*z1*z1*z1*z2*z2*z2*z2*z2*z2*z2*z2*z2+2*x1*x1*x1*z1*z1*z1*z1*z1*z1*z1*z1*z1*z2*z2*z2*z2*z2*z2*z2*z2*z2+y1*l*x2*z1*z1*z1*z1*z1*z1*z1*z1*z1*z2*z2*z2*z2*z2*z2*z2*z2*z2-3*x1*x1*x2*z1*z1*z1*z1*z1*z1*z1*z1*z1*z2*z2*z2*z2*z2*z2*z2*z2*z2+x2*x2*x2*z1*z1*z1*z1*z1*z1*z1*z1*z1*z2*z2*z2*z2*z2*z2*z2*z2*z2-y1*y1*z1*z1*z1*z1*z1*z1*z1*z1*z1*z2*z2*z2*z2*z2*z2*z2*z2*z2) h2 (dc (z3*z3*l*l*l-2*z3*z3*l*x1-z3*z3*l*x2+z3*z3*y1+z3*zz*h*l*l*l-2*z3*zz*h*l*x1-z3*zz*h*l*x2+z3*zz*h*y1+zz*zz*h*h*l*l*l-2*zz*zz*h*h*l*x1-zz*zz*h*h*l*x2+zz*zz*h*h*y1) h3 (dc (zz*zz*h*h*h*l*l*l-2*zz*zz*h*h*h*l*x1-zz*zz*h*h*h*l*x2+zz*zz*h*h*h*y1+zz*h*h*h*l*l*l*z1*z2-2*zz*h*h*h*l*x1*z1*z2-zz*h*h*h*l*x2*z1*z2+zz*h*h*h*y1*z1*z2+h*h*h*l*l*l*z1*z1*z2*z2-2*h*h*h*l*x1*z1*z1*z2*z2-h*h*h*l*x2*z1*z1*z2*z2+h*h*h*y1*z1*z1*z2*z2) h4 (dc (1) h5 (dc (-1) h6 (dc (1) h7 (dc (r) h8 (dc (-r) h9 (dc (r) h10 (dc (-r) h11 (dc (-r) h12 (dc (3*r) h13 (dc (r-s) h14 (dc (r*h+3*r*u-h*s) h15 (dc (-r*r-r*t+r*s-t*t+2*t*s+h*h*h+3*h*h*u-s*s) h16 (dc (-t*t-t*p3*Y2+3*t*s-p3*p3*Y2*Y2+3*p3*s*Y2+h*h*h+3*h*h*u-3*s*s) h17 (dc (-p3*p3*Y2*Y2*Y2+3*p3*s*Y2*Y2-p3*pz*Y2*Y2*Y2*z1+h*h*h*Y2+3*h*h*u*Y2-3*s*s*Y2+3*s*pz*Y2*Y2*z1-pz*pz*Y2*Y2*Y2*z1*z1) h18 (dc (-2*h*h*s+h*h*pz*Y2*z1+h*h*l*l*l*z1*z1*z1*z2*z2*z2-2*h*h*l*x1*z1*z1*z1*z2*z2*z2-h*h*l*x2*z1*z1*z1*z2*z2*z2+h*h*y1*z1*z1*z1*z2*z2*z2-2*h*v*s+h*v*pz*Y2*z1+h*v*l*l*l*z1*z1*z1*z2*z2*z2-2*h*v*l*x1*z1*z1*z1*z2*z2*z2-h*v*l*x2*z1*z1*z1*z2*z2*z2+h*v*y1*z1*z1*z1*z2*z2*z2-h*s*u+2*h*u*pz*Y2*z1-h*u*l*l*l*z1*z1*z1*z2*z2*z2+2*h*u*l*x1*z1*z1*z1*z2*z2*z2+h*u*l*x2*z1*z1*z1*z2*z2*z2-h*u*y1*z1*z1*z1*z2*z2*z2-2*v*v*s+v*v*pz*Y2*z1+v*v*l*l*l*z1*z1*z1*z2*z2*z2-2*v*v*l*x1*z1*z1*z1*z2*z2*z2-v*v*l*x2*z1*z1*z1*z2*z2*z2+v*v*y1*z1*z1*z1*z2*z2*z2+v*s*u+v*u*pz*Y2*z1-2*v*u*l*l*l*z1*z1*z1*z2*z2*z2+4*v*u*l*x1*z1*z1*z1*z2*z2*z2+2*v*u*l*x2*z1*z1*z1*z2*z2*z2-2*v*u*y1*z1*z1*z1*z2*z2*z2+s*u*u-2*u*u*pz*Y2*z1+u*u*l*l*l*z1*z1*z1*z2*z2*z2-2*u*u*l*x1*z1*z1*z1*z2*z2*z2-u*u*l*x2*z1*z1*z1*z2*z2*z2+u*u*y1*z1*z1*z1*z2*z2*z2) h19 (dc (-2*v*v*s+v*v*pz*Y2*z1+v*v*l*l*l*z1*z1*z1*z2*z2*z2-2*v*v*l*x1*z1*z1*z1*z2*z2*z2-v*v*l*x2*z1*z1*z1*z2*z2*z2+v*v*y1*z1*z1*z1*z2*z2*z2+3*v*s*u-2*v*s*pz*X2-3*v*u*l*l*l*z1*z1*z1*z2*z2*z2+6*v*u*l*x1*z1*z1*z1*z2*z2*z2+3*v*u*l*x2*z1*z1*z1*z2*z2*z2-3*v*u*y1*z1*z1*z1*z2*z2*z2+v*pz*pz*Y2*X2*z1+v*pz*X2*l*l*l*z1*z1*z1*z2*z2*z2-2*v*pz*X2*l*x1*z1*z1*z1*z2*z2*z2-v*pz*X2*l*x2*z1*z1*z1*z2*z2*z2+v*pz*X2*y1*z1*z1*z1*z2*z2*z2+3*s*u*pz*X2-2*s*pz*pz*X2*X2-3*u*u*pz*Y2*z1+3*u*u*l*l*l*z1*z1*z1*z2*z2*z2-6*u*u*l*x1*z1*z1*z1*z2*z2*z2-3*u*u*l*x2*z1*z1*z1*z2*z2*z2+3*u*u*y1*z1*z1*z1*z2*z2*z2-3*u*pz*X2*l*l*l*z1*z1*z1*z2*z2*z2+6*u*pz*X2*l*x1*z1*z1*z1*z2*z2*z2+3*u*pz*X2*l*x2*z1*z1*z1*z2*z2*z2-3*u*pz*X2*y1*z1*z1*z1*z2*z2*z2+pz*pz*pz*Y2*X2*X2*z1+pz*pz*X2*X2*l*l*l*z1*z1*z1*z2*z2*z2-2*pz*pz*X2*X2*l*x1*z1*z1*z1*z2*z2*z2-pz*pz*X2*X2*l*x2*z1*z1*z1*z2*z2*z2+pz*pz*X2*X2*y1*z1*z1*z1*z2*z2*z2) h20 (dc (s*s+s*q3*Y1-3*s*pz*Y2*z1+q3*q3*Y1*Y1-3*q3*pz*Y2*Y1*z1-u*u*u+3*u*pz*pz*X2*X2-2*pz*pz*pz*X2*X2*X2+3*pz*pz*Y2*Y2*z1*z1) h21 (dc (q3*q3*Y1*Y1*Y1+q3*qz*Y1*Y1*Y1*z2-3*q3*pz*Y2*Y1*Y1*z1-u*u*u*Y1+3*u*pz*pz*X2*X2*Y1+qz*qz*Y1*Y1*Y1*z2*z2-3*qz*pz*Y2*Y1*Y1*z1*z2-2*pz*pz*pz*X2*X2*X2*Y1+3*pz*pz*Y2*Y2*Y1*z1*z1) h22 (dc (-u*u*qz*Y1*z2+2*u*u*pz*Y2*z1-u*u*l*l*l*z1*z1*z1*z2*z2*z2+2*u*u*l*x1*z1*z1*z1*z2*z2*z2+u*u*l*x2*z1*z1*z1*z2*z2*z2-u*u*y1*z1*z1*z1*z2*z2*z2-u*qz*qz*Y1*X1*z2+2*u*qz*pz*Y2*X1*z1-u*qz*X1*l*l*l*z1*z1*z1*z2*z2*z2+2*u*qz*X1*l*x1*z1*z1*z1*z2*z2*z2+u*qz*X1*l*x2*z1*z1*z1*z2*z2*z2-u*qz*X1*y1*z1*z1*z1*z2*z2*z2-3*u*pz*pz*Y2*X2*z1+3*u*pz*X2*l*l*l*z1*z1*z1*z2*z2*z2-6*u*pz*X2*l*x1*z1*z1*z1*z2*z2*z2-3*u*pz*X2*l*x2*z1*z1*z1*z2*z2*z2+3*u*pz*X2*y1*z1*z1*z1*z2*z2*z2-qz*qz*qz*Y1*X1*X1*z2+2*qz*qz*pz*Y2*X1*X1*z1-qz*qz*X1*X1*l*l*l*z1*z1*z1*z2*z2*z2+2*qz*qz*X1*X1*l*x1*z1*z1*z1*z2*z2*z2+qz*qz*X1*X1*l*x2*z1*z1*z1*z2*z2*z2-qz*qz*X1*X1*y1*z1*z1*z1*z2*z2*z2-3*qz*pz*pz*Y2*X2*X1*z1+3*qz*pz*pz*X2*X2*Y1*z2+3*qz*pz*X2*X1*l*l*l*z1*z1*z1*z2*z2*z2-6*qz*pz*X2*X1*l*x1*z1*z1*z1*z2*z2*z2-3*qz*pz*X2*X1*l*x2*z1*z1*z1*z2*z2*z2+3*qz*pz*X2*X1*y1*z1*z1*z1*z2*z2*z2-3*pz*pz*X2*X2*l*l*l*z1*z1*z1*z2*z2*z2+6*pz*pz*X2*X2*l*x1*z1*z1*z1*z2*z2*z2+3*pz*pz*X2*X2*l*x2*z1*z1*z1*z2*z2*z2-3*pz*pz*X2*X2*y1*z1*z1*z1*z2*z2*z2) h23 (dc (-qz*qz*qz*Y1*X1*X1*X1*z2+2*qz*qz*pz*Y2*X1*X1*X1*z1+qz*qz*Y1*Y1*Y1*z2*z2*z2-qz*qz*Y1*X1*X1*X1*z2*z2*z2-qz*qz*X1*X1*X1*l*l*l*z1*z1*z1*z2*z2*z2+2*qz*qz*X1*X1*X1*l*x1*z1*z1*z1*z2*z2*z2+qz*qz*X1*X1*X1*l*x2*z1*z1*z1*z2*z2*z2-qz*qz*X1*X1*X1*y1*z1*z1*z1*z2*z2*z2-3*qz*pz*pz*Y2*X2*X1*X1*z1+3*qz*pz*pz*X2*X2*Y1*X1*z2-3*qz*pz*Y2*Y1*Y1*z1*z2*z2+2*qz*pz*Y2*X1*X1*X1*z1*z2*z2+3*qz*pz*X2*X1*X1*l*l*l*z1*z1*z1*z2*z2*z2-6*qz*pz*X2*X1*X1*l*x1*z1*z1*z1*z2*z2*z2-3*qz*pz*X2*X1*X1*l*x2*z1*z1*z1*z2*z2*z2+3*qz*pz*X2*X1*X1*y1*z1*z1*z1*z2*z2*z2+qz*Y1*Y1*Y1*z2*z2*z2*z2*z2-qz*Y1*X1*X1*X1*z2*z2*z2*z2*z2-qz*X1*X1*X1*l*l*l*z1*z1*z1*z2*z2*z2*z2*z2+2*qz*X1*X1*X1*l*x1*z1*z1*z1*z2*z2*z2*z2*z2+qz*X1*X1*X1*l*x2*z1*z1*z1*z2*z2*z2*z2*z2-qz*X1*X1*X1*y1*z1*z1*z1*z2*z2*z2*z2*z2-2*pz*pz*pz*X2*X2*X2*Y1*z2+3*pz*pz*Y2*Y2*Y1*z1*z1*z2-3*pz*pz*Y2*X2*X1*X1*z1*z2*z2+3*pz*pz*X2*X2*Y1*X1*z2*z2*z2-3*pz*pz*X2*X2*X1*l*l*l*z1*z1*z1*z2*z2*z2+6*pz*pz*X2*X2*X1*l*x1*z1*z1*z1*z2*z2*z2+3*pz*pz*X2*X2*X1*l*x2*z1*z1*z1*z2*z2*z2-3*pz*pz*X2*X2*X1*y1*z1*z1*z1*z2*z2*z2-3*pz*Y2*Y1*Y1*z1*z2*z2*z2*z2+2*pz*Y2*X1*X1*X1*z1*z2*z2*z2*z2+3*pz*X2*X1*X1*l*l*l*z1*z1*z1*z2*z2*z2*z2*z2-6*pz*X2*X1*X1*l*x1*z1*z1*z1*z2*z2*z2*z2*z2-3*pz*X2*X1*X1*l*x2*z1*z1*z1*z2*z2*z2*z2*z2+3*pz*X2*X1*X1*y1*z1*z1*z1*z2*z2*z2*z2*z2+Y1*Y1*Y1*z2*z2*z2*z2*z2*z2*z2-Y1*X1*X1*X1*z2*z2*z2*z2*z2*z2*z2-X1*X1*X1*l*l*l*z1*z1*z1*z2*z2*z2*z2*z2*z2*z2+2*X1*X1*X1*l*x1*z1*z1*z1*z2*z2*z2*z2*z2*z2*z2+X1*X1*X1*l*x2*z1*z1*z1*z2*z2*z2*z2*z2*z2*z2-X1*X1*X1*y1*z1*z1*z1*z2*z2*z2*z2*z2*z2*z2) h24 (dc (pz*pz*pz*Y2*X2*X2*X2*z1-pz*pz*Y2*Y2*Y2*z1*z1*z1+pz*pz*Y2*X2*X2*X2*z1*z1*z1-2*pz*pz*X2*X2*X2*Y1*z2*z2*z2+pz*pz*X2*X2*X2*l*l*l*z1*z1*z1*z2*z2*z2-2*pz*pz*X2*X2*X2*l*x1*z1*z1*z1*z2*z2*z2-pz*pz*X2*X2*X2*l*x2*z1*z1*z1*z2*z2*z2+pz*pz*X2*X2*X2*y1*z1*z1*z1*z2*z2*z2-pz*Y2*Y2*Y2*z1*z1*z1*z1*z1+3*pz*Y2*Y2*Y1*z1*z1*z2*z2*z2+pz*Y2*X2*X2*X2*z1*z1*z1*z1*z1-3*pz*Y2*X2*X1*X1*z1*z2*z2*z2*z2-2*pz*X2*X2*X2*Y1*z1*z1*z2*z2*z2+pz*X2*X2*X2*l*l*l*z1*z1*z1*z1*z1*z2*z2*z2-2*pz*X2*X2*X2*l*x1*z1*z1*z1*z1*z1*z2*z2*z2-pz*X2*X2*X2*l*x2*z1*z1*z1*z1*z1*z2*z2*z2+pz*X2*X2*X2*y1*z1*z1*z1*z1*z1*z2*z2*z2+3*pz*X2*X2*Y1*X1*z2*z2*z2*z2*z2-3*pz*X2*X2*X1*l*l*l*z1*z1*z1*z2*z2*z2*z2*z2+6*pz*X2*X2*X1*l*x1*z1*z1*z1*z2*z2*z2*z2*z2+3*pz*X2*X2*X1*l*x2*z1*z1*z1*z2*z2*z2*z2*z2-3*pz*X2*X2*X1*y1*z1*z1*z1*z2*z2*z2*z2*z2-Y2*Y2*Y2*z1*z1*z1*z1*z1*z1*z1+3*Y2*Y2*Y1*z1*z1*z1*z1*z2*z2*z2+Y2*X2*X2*X2*z1*z1*z1*z1*z1*z1*z1-3*Y2*X2*X1*X1*z1*z1*z1*z2*z2*z2*z2-3*Y2*Y1*Y1*z1*z2*z2*z2*z2*z2*z2+2*Y2*X1*X1*X1*z1*z2*z2*z2*z2*z2*z2-2*X2*X2*X2*Y1*z1*z1*z1*z1*z2*z2*z2+X2*X2*X2*l*l*l*z1*z1*z1*z1*z1*z1*z1*z2*z2*z2-2*X2*X2*X2*l*x1*z1*z1*z1*z1*z1*z1*z1*z2*z2*z2-X2*X2*X2*l*x2*z1*z1*z1*z1*z1*z1*z1*z2*z2*z2+X2*X2*X2*y1*z1*z1*z1*z1*z1*z1*z1*z2*z2*z2+3*X2*X2*Y1*X1*z1*z1*z2*z2*z2*z2*z2-3*X2*X2*X1*l*l*l*z1*z1*z1*z1*z1*z2*z2*z2*z2*z2+6*X2*X2*X1*l*x1*z1*z1*z1*z1*z1*z2*z2*z2*z2*z2+3*X2*X2*X1*l*x2*z1*z1*z1*z1*z1*z2*z2*z2*z2*z2-3*X2*X2*X1*y1*z1*z1*z1*z1*z1*z2*z2*z2*z2*z2+3*X2*X1*X1*l*l*l*z1*z1*z1*z2*z2*z2*z2*z2*z2*z2-6*X2*X1*X1*l*x1*z1*z1*z1*z2*z2*z2*z2*z2*z2*z2-3*X2*X1*X1*l*x2*z1*z1*z1*z2*z2*z2*z2*z2*z2*z2+3*X2*X1*X1*y1*z1*z1*z1*z2*z2*z2*z2*z2*z2*z2) h25 (dc (-3*Y2*X2*X1*z1*z1*z1*z1*z1*z2*z2*z2*z2-3*Y2*X2*x1*z1*z1*z1*z1*z1*z1*z1*z2*z2*z2*z2+2*Y2*X1*X1*z1*z1*z1*z2*z2*z2*z2*z2*z2+2*Y2*X1*x1*z1*z1*z1*z1*z1*z2*z2*z2*z2*z2*z2+2*Y2*x1*x1*z1*z1*z1*z1*z1*z1*z1*z2*z2*z2*z2*z2*z2+3*X2*X2*Y1*z1*z1*z1*z1*z2*z2*z2*z2*z2-3*X2*X2*l*l*l*z1*z1*z1*z1*z1*z1*z1*z2*z2*z2*z2*z2+6*X2*X2*l*x1*z1*z1*z1*z1*z1*z1*z1*z2*z2*z2*z2*z2+3*X2*X2*l*x2*z1*z1*z1*z1*z1*z1*z1*z2*z2*z2*z2*z2-3*X2*X2*y1*z1*z1*z1*z1*z1*z1*z1*z2*z2*z2*z2*z2+3*X2*X1*l*l*l*z1*z1*z1*z1*z1*z2*z2*z2*z2*z2*z2*z2-6*X2*X1*l*x1*z1*z1*z1*z1*z1*z2*z2*z2*z2*z2*z2*z2-3*X2*X1*l*x2*z1*z1*z1*z1*z1*z2*z2*z2*z2*z2*z2*z2+3*X2*X1*y1*z1*z1*z1*z1*z1*z2*z2*z2*z2*z2*z2*z2+3*X2*l*l*l*x1*z1*z1*z1*z1*z1*z1*z1*z2*z2*z2*z2*z2*z2*z2-6*X2*l*x1*x1*z1*z1*z1*z1*z1*z1*z1*z2*z2*z2*z2*z2*z2*z2-3*X2*l*x1*x2*z1*z1*z1*z1*z1*z1*z1*z2*z2*z2*z2*z2*z2*z2+3*X2*y1*x1*z1*z1*z1*z1*z1*z1*z1*z2*z2*z2*z2*z2*z2*z2-Y1*X1*X1*z2*z2*z2*z2*z2*z2*z2*z2*z2-Y1*X1*x1*z1*z1*z2*z2*z2*z2*z2*z2*z2*z2*z2-Y1*x1*x1*z1*z1*z1*z1*z2*z2*z2*z2*z2*z2*z2*z2*z2-X1*X1*l*l*l*z1*z1*z1*z2*z2*z2*z2*z2*z2*z2*z2*z2+2*X1*X1*l*x1*z1*z1*z1*z2*z2*z2*z2*z2*z2*z2*z2*z2+X1*X1*l*x2*z1*z1*z1*z2*z2*z2*z2*z2*z2*z2*z2*z2-X1*X1*y1*z1*z1*z1*z2*z2*z2*z2*z2*z2*z2*z2*z2-X1*l*l*l*x1*z1*z1*z1*z1*z1*z2*z2*z2*z2*z2*z2*z2*z2*z2+2*X1*l*x1*x1*z1*z1*z1*z1*z1*z2*z2*z2*z2*z2*z2*z2*z2*z2+X1*l*x1*x2*z1*z1*z1*z1*z1*z2*z2*z2*z2*z2*z2*z2*z2*z2-X1*y1*x1*z1*z1*z1*z1*z1*z2*z2*z2*z2*z2*z2*z2*z2*z2-l*l*l*x1*x1*z1*z1*z1*z1*z1*z1*z1*z2*z2*z2*z2*z2*z2*z2*z2*z2+2*l*x1*x1*x1*z1*z1*z1*z1*z1*z1*z1*z2*z2*z2*z2*z2*z2*z2*z2*z2+l*x1*x1*x2*z1*z1*z1*z1*z1*z1*z1*z2*z2*z2*z2*z2*z2*z2*z2*z2-y1*x1*x1*z1*z1*z1*z1*z1*z1*z1*z2*z2*z2*z2*z2*z2*z2*z2*z2) h26 (dc (3*Y2*Y2*z1*z1*z1*z1*z1*z1*z2*z2*z2-3*Y2*Y1*z1*z1*z1*z2*z2*z2*z2*z2*z2-3*Y2*y1*z1*z1*z1*z1*z1*z1*z2*z2*z2*z2*z2*z2-2*X2*X2*X2*z1*z1*z1*z1*z1*z1*z2*z2*z2+3*X2*X2*x1*z1*z1*z1*z1*z1*z1*z2*z2*z2*z2*z2+Y1*Y1*z2*z2*z2*z2*z2*z2*z2*z2*z2+Y1*y1*z1*z1*z1*z2*z2*z2*z2*z2*z2*z2*z2*z2-x1*x1*x1*z1*z1*z1*z1*z1*z1*z2*z2*z2*z2*z2*z2*z2*z2*z2+y1*y1*z1*z1*z1*z1*z1*z1*z2*z2*z2*z2*z2*z2*z2*z2*z2) h27 (dc (Y2*X2*X2*z1*z1*z1*z1*z1*z1*z1*z1*z1+Y2*X2*x2*z1*z1*z1*z1*z1*z1*z1*z1*z1*z2*z2-3*Y2*x1*x1*z1*z1*z1*z1*z1*z1*z1*z1*z1*z2*z2*z2*z2+Y2*x2*x2*z1*z1*z1*z1*z1*z1*z1*z1*z1*z2*z2*z2*z2+X2*X2*l*l*l*z1*z1*z1*z1*z1*z1*z1*z1*z1*z2*z2*z2-2*X2*X2*l*x1*z1*z1*z1*z1*z1*z1*z1*z1*z1*z2*z2*z2-X2*X2*l*x2*z1*z1*z1*z1*z1*z1*z1*z1*z1*z2*z2*z2-X2*X2*y1*z1*z1*z1*z1*z1*z1*z1*z1*z1*z2*z2*z2-3*X2*l*l*l*x1*z1*z1*z1*z1*z1*z1*z1*z1*z1*z2*z2*z2*z2*z2+X2*l*l*l*x2*z1*z1*z1*z1*z1*z1*z1*z1*z1*z2*z2*z2*z2*z2+6*X2*l*x1*x1*z1*z1*z1*z1*z1*z1*z1*z1*z1*z2*z2*z2*z2*z2+X2*l*x1*x2*z1*z1*z1*z1*z1*z1*z1*z1*z1*z2*z2*z2*z2*z2-X2*l*x2*x2*z1*z1*z1*z1*z1*z1*z1*z1*z1*z2*z2*z2*z2*z2-X2*y1*x2*z1*z1*z1*z1*z1*z1*z1*z1*z1*z2*z2*z2*z2*z2+3*l*l*l*x1*x1*z1*z1*z1*z1*z1*z1*z1*z1*z1*z2*z2*z2*z2*z2*z2*z2-3*l*l*l*x1*x2*z1*z1*z1*z1*z1*z1*z1*z1*z1*z2*z2*z2*z2*z2*z2*z2+l*l*l*x2*x2*z1*z1*z1*z1*z1*z1*z1*z1*z1*z2*z2*z2*z2*z2*z2*z2-6*l*x1*x1*x1*z1*z1*z1*z1*z1*z1*z1*z1*z1*z2*z2*z2*z2*z2*z2*z2+3*l*x1*x1*x2*z1*z1*z1*z1*z1*z1*z1*z1*z1*z2*z2*z2*z2*z2*z2*z2+l*x1*x2*x2*z1*z1*z1*z1*z1*z1*z1*z1*z1*z2*z2*z2*z2*z2*z2*z2-l*x2*x2*x2*z1*z1*z1*z1*z1*z1*z1*z1*z1*z2*z2*z2*z2*z2*z2*z2+3*y1*x1*x1*z1*z1*z1*z1*z1*z1*z1*z1*z1*z2*z2*z2*z2*z2*z2*z2-y1*x2*x2*z1*z1*z1*z1*z1*z1*z1*z1*z1*z2*z2*z2*z2*z2*z2*z2) h28 (dc (-Y2*Y2*z1*z1*z1*z1*z1*z1*z1*z1*z1+Y2*l*x1*z1*z1*z1*z1*z1*z1*z1*z1*z1*z2*z2*z2-Y2*l*x2*z1*z1*z1*z1*z1*z1*z1*z1*z1*z2*z2*z2+2*Y2*y1*z1*z1*z1*z1*z1*z1*z1*z1*z1*z2*z2*z2-l*l*x1*x1*z1*z1*z1*z1*z1*z1*z1*z1*z1*z2*z2*z2*z2*z2*z2+2*l*l*x1*x2*z1*z1*z1*z1*z1*z1*z1*z1*z1*z2*z2*z2*z2*z2*z2-l*l*x2*x2*z1*z1*z1*z1*z1*z1*z1*z1*z1*z2*z2*z2*z2*z2*z2-y1*l*x1*z1*z1*z1*z1*z1*z1*z1*z1*z1*z2*z2*z2*z2*z2*z2+2*x1*x1*x1*z1*z1*z1*z1*z1*z1*z1*z1*z1*z2*z2*z2*z2*z2*z2+y1*l*x2*z1*z1*z1*z1*z1*z1*z1*z1*z1*z2*z2*z2*z2*z2*z2-3*x1*x1*x2*z1*z1*z1*z1*z1*z1*z1*z1*z1*z2*z2*z2*z2*z2*z2+x2*x2*x2*z1*z1*z1*z1*z1*z1*z1*z1*z1*z2*z2*z2*z2*z2*z2-y1*y1*z1*z1*z1*z1*z1*z1*z1*z1*z1*z2*z2*z2*z2*z2*z2) h29 (dz p))))))))))))))))))))))))))))))) (by clear h0 h1 h2 h3 h4 h5 h6 h7 h8 h9 h10 h11 h12 h13 h14 h15 h16 h17 h18 h19 h20 h21 h22 h23 h24 h25 h26 h27 h28 h29;grind)
theorem aHv {p x3 s2 X x z i:Int} (h0:p∣x3-(X*s2)) (h1:p∣s2-(i*i)) (h2:p∣X-x*(z*z)) (h3:p∣z*i-1):p∣(x3-x):=
 dk (dc (1) h0 (dc (X) h1 (dc (i*i) h2 (dc (x*z*i+x) h3 (dz p))))) (by clear h0 h1 h2 h3;grind)
theorem aHu {p y3 s3 s2 Y y z i:Int} (h0:p∣y3-(Y*s3)) (h1:p∣s3-(s2*i)) (h2:p∣s2-(i*i)) (h3:p∣Y-y*(z*z*z)) (h4:p∣z*i-1):p∣(y3-y):=
 dk (dc (1) h0 (dc (Y) h1 (dc (Y*i) h2 (dc (i*i*i) h3 (dc (y*z*z*i*i+y*z*i+y) h4 (dz p)))))) (by clear h0 h1 h2 h3 h4;grind)
theorem aG7 {p s x3 xx dx x y iv:Int} (h0:p∣s-(x3*iv)) (h1:p∣x3-(3*xx)) (h2:p∣xx-(x*x)) (h3:p∣dx-(y+y)) (h4:p∣dx*iv-1):p∣(s*(y+y)-(x*x+x*x+x*x)):=
 dk (dc (2*y) h0 (dc (2*y*iv) h1 (dc (6*y*iv) h2 (dc (-3*x*x*iv) h3 (dc (3*x*x) h4 (dz p)))))) (by clear h0 h1 h2 h3 h4;grind)
theorem aHL {p s dy dx x1 x2 y1 y2 iv:Int} (h0:p∣s-(dy*iv)) (h1:p∣dy-(y2-y1)) (h2:p∣dx-(x2-x1)) (h3:p∣dx*iv-1):p∣(s*(x1-x2)-(y1-y2)):=
 dk (dc (x1-x2) h0 (dc (x1*iv-x2*iv) h1 (dc (-y1*iv+y2*iv) h2 (dc (y1-y2) h3 (dz p))))) (by clear h0 h1 h2 h3;grind)
theorem aG5 {p y3 e d x y1 x1 t:Int} (h0:p∣y3-(e-y1)) (h1:p∣e-(t*d)) (h2:p∣d-(x1-x)):p∣(y3-(t*(x1-x)-y1)):=
 dk (dc (1) h0 (dc (1) h1 (dc (t) h2 (dz p)))) (by clear h0 h1 h2;grind)
theorem aG6 {p x d a x1 x2 t:Int} (h0:p∣x-(d-x2)) (h1:p∣d-(a-x1)) (h2:p∣a-(t*t)):p∣(x-(t*t-x1-x2)):=
 dk (dc (1) h0 (dc (1) h1 (dc (1) h2 (dz p)))) (by clear h0 h1 h2;grind)
theorem aHK {p z xxx xx y x b:Int} (h0:p∣z-(y*y)) (h1:p∣z-(xxx+b)) (h2:p∣xxx-(xx*x)) (h3:p∣xx-(x*x)):p∣(y*y-x*x*x-b):=
 dk (dc (-1) h0 (dc (1) h1 (dc (1) h2 (dc (x) h3 (dz p))))) (by clear h0 h1 h2 h3;grind)
theorem aHJ {p u z xxx xx y x b:Int} (h0:p∣u-(y*y)) (h1:p∣z-(xxx+b)) (h2:p∣xxx-(xx*x)) (h3:p∣xx-(x*x)) (h4:p∣y*y-x*x*x-b):p∣(u-z):=
 dk (dc (1) h0 (dc (-1) h1 (dc (-1) h2 (dc (-x) h3 (dc (1) h4 (dz p)))))) (by clear h0 h1 h2 h3 h4;grind)
end
section
open Sx Go
variable {p:Nat}
theorem aqZ (hp:Sm p) (pr:Pr p) {z:ab} (hz:¬(p:Int)∣(z.nat:Int)):(p:Int)∣(z.nat:Int)*((Ft p z).nat:Int)-1:=by
 have h2:=pr.1
 have hz':¬p∣z.nat:=λh=>hz (Int.natCast_dvd_natCast.2 h)
 have e:Nat.beq (z.nat%p) 0=false:=by
  cases h:Nat.beq (z.nat%p) 0
  ·rfl
  ·exact absurd (Nat.dvd_of_mod_eq_zero (aY h)) hz'
 have e2:(Ft p z).nat=z.nat^(p-2)%p:=by
  unfold Ft CC
  rw [e]
  simp only [aT]
  have hb:p-2<2^256:=by have:=hp.2;omega
  rw [Ir 256 1 _ _ hb (by omega),Nat.one_mul,<-Nat.pow_mod]
  exact cr hp
 rw [e2]
 have hf:=Fy pr hz'
 have e3:z.nat^(p-1)=z.nat*z.nat^(p-2):=by
  rw [show p-1=(p-2)+1 by omega,Nat.pow_succ,Nat.mul_comm]
 rw [e3] at hf
 obtain ⟨k,hk⟩:=avp (p:=p) (z.nat^(p-2))
 obtain ⟨m,hm⟩:=avp (p:=p) (z.nat*z.nat^(p-2))
 rw [hf] at hm
 rw [Int.natCast_mul] at hm
 generalize ((z.nat^(p-2)%p:Nat):Int)=u at*
 generalize ((z.nat^(p-2):Nat):Int)=v at*
 have hm:(1:Int)-(z.nat:Int)*v=(p:Int)*m:=hm
 exact ⟨(z.nat:Int)*k-m,by grind⟩
def toQ (P:Pt):PtQ:=cond P.2.2 none (some (P.1.nat,P.2.1.nat))
theorem aqC (hp:Sm p) (X Y X2 s:ab):Thd p X.nat Y.nat X2.nat s.nat (Jp p X Y X2 s).1.nat (Jp p X Y X2 s).2.1.nat:=by
 unfold Jp
 dsimp only
 have h1:=cf hp s s
 have h2:=ml hp (aR p s s) X
 have h3:=ml hp (iq p (aR p s s) X) X2
 generalize iq p (iq p (aR p s s) X) X2=x3 at*
 have h4:=ml hp X x3
 have h5:=cf hp s (iq p X x3)
 have h6:=ml hp (aR p s (iq p X x3)) Y
 exact ⟨aG6 h3 h2 h1,aG5 h6 h5 h4⟩
theorem agB {b:Nat} (c:Cur p b) (hp:Sm p) {X Y X2 Y2 s:ab} (hP:OnQ p b (some (X.nat,Y.nat))) (hR:OnQ p b (some (X2.nat,Y2.nat))) (hl:Lin p X.nat Y.nat X2.nat Y2.nat s.nat):
 toQ (Jp p X Y X2 s)=dK p (some (X.nat,Y.nat)) (some (X2.nat,Y2.nat)):=by
 have h:=aqC hp X Y X2 s
 exact (afB c (P:=(X.nat,Y.nat)) (R:=(X2.nat,Y2.nat)) (S:=((Jp p X Y X2 s).1.nat,(Jp p X Y X2 s).2.1.nat)) hP hR hl (PV hp _ _) (PV hp _ _) h).symm
theorem T4:(ab.mk 3 0 0 0).nat=3:=by decide
theorem PT {b:Nat} (c:Cur p b) (hp:Sm p) {P R:Pt} (hP:OnQ p b (toQ P)) (hR:OnQ p b (toQ R)):toQ (po p P R)=dK p (toQ P) (toQ R):=by
 obtain ⟨X,Y,i⟩:=P
 obtain ⟨X2,Y2,j⟩:=R
 cases i
 ·cases j
  ·have hP':OnQ p b (some (X.nat,Y.nat)):=hP
   have hR':OnQ p b (some (X2.nat,Y2.nat)):=hR
   have n1:¬(p:Int)∣(Y.nat:Int):=c.yne hP'.2.2
   show toQ (po p (X,Y,false) (X2,Y2,false))=dK p (some (X.nat,Y.nat)) (some (X2.nat,Y2.nat))
   rcases (b9 (eqE X X2)).symm with h|h
   ·have e:po p (X,Y,false) (X2,Y2,false)=Jp p X Y X2 (byP p (iq p Y2 Y) (iq p X2 X)):=by unfold po;simp only [aT,h]
    rw [e]
    refine agB c hp hP' hR' ?_
    have hx:X.nat≠X2.nat:=λe=>by rw [gF e,ahq] at h;cases h
    have hd:=ml hp X2 X
    have hn:¬(p:Int)∣((iq p X2 X).nat:Int):=λhn=>by
     obtain ⟨k,hk⟩:=hd
     obtain ⟨m,hm⟩:=hn
     exact hx (gi hP'.1 hR'.1 ⟨k-m,by grind⟩)
    have hi:=aqZ hp c.pr hn
    have hm:=cf hp (iq p Y2 Y) (Ft p (iq p X2 X))
    have hy:=ml hp Y2 Y
    unfold byP
    generalize iq p X2 X=dx at*
    generalize Ft p dx=iv at*
    generalize iq p Y2 Y=dy at*
    generalize aR p dy iv=s at*
    have ha:(p:Int)∣(s.nat:Int)*((X.nat:Int)-X2.nat)-((Y.nat:Int)-Y2.nat):=aHL hm hy hd hi
    refine ⟨ha,?_⟩
    have hn':¬(p:Int)∣(X.nat:Int)-X2.nat:=λhh=>hx (gi hP'.1 hR'.1 hh)
    have hc1:(p:Int)∣(Y.nat:Int)*Y.nat-X.nat*X.nat*X.nat-b:=hP'.2.2
    have hc2:(p:Int)∣(Y2.nat:Int)*Y2.nat-X2.nat*X2.nat*X2.nat-b:=hR'.2.2
    exact (c.pr.eC (as6 hc1 hc2 ha)).resolve_left hn'
   ·rcases (b9 (eqE Y Y2)).symm with h2|h2
    ·have e:po p (X,Y,false) (X2,Y2,false)=aM:=by unfold po;simp only [aT,aK,h,h2]
     rw [e]
     refine (if_pos ⟨?_,λe=> ?_⟩).symm
     ·show X.nat=X2.nat
      rw [tO.1 h]
     ·rw [gF e,ahq] at h2
      cases h2
    ·have e:po p (X,Y,false) (X2,Y2,false)=Jp p X Y X2 (byP p (aR p ⟨3,0,0,0⟩ (aR p X X)) (dr p Y Y)):=by unfold po;simp only [aT,aK,h,h2]
     rw [e]
     refine agB c hp hP' hR' ?_
     obtain rfl:=tO.1 h
     obtain rfl:=tO.1 h2
     have hd:=Yz hp Y Y
     have hn:¬(p:Int)∣((dr p Y Y).nat:Int):=λhn=>by
      obtain ⟨k,hk⟩:=hd
      obtain ⟨m,hm⟩:=hn
      rcases c.pr.eC (a:=2) (b:=(Y.nat:Int)) ⟨m-k,by grind⟩ with h|h
      ·exact c.no2 h
      ·exact n1 h
     have hi:=aqZ hp c.pr hn
     have hm:=cf hp (aR p ⟨3,0,0,0⟩ (aR p X X)) (Ft p (dr p Y Y))
     have h3:=cf hp ⟨3,0,0,0⟩ (aR p X X)
     have h4:=cf hp X X
     rw [T4] at h3
     unfold byP
     generalize dr p Y Y=dx at*
     generalize Ft p dx=iv at*
     generalize aR p X X=xx at*
     generalize aR p ⟨3,0,0,0⟩ xx=x3 at*
     generalize aR p x3 iv=s at*
     exact ⟨⟨0,by rw [Int.sub_self,Int.sub_self,Int.mul_zero,Int.mul_zero];rfl⟩,aG7 hm h3 h4 hd hi⟩
  ·show toQ (po p (X,Y,false) (X2,Y2,true))=_
   have e:po p (X,Y,false) (X2,Y2,true)=(X,Y,false):=by unfold po;simp only [aT,aK]
   rw [e]
   rfl
 ·have e:po p (X,Y,true) (X2,Y2,j)=(X2,Y2,j):=by unfold po;simp only [aK]
  rw [e]
  rfl
def azF (p:Nat) (w:Hb):PtQ->Prop
 |none=>w.2.2.nat=0
 |some P=>w.2.2.nat<p/\¬(p:Int)∣(w.2.2.nat:Int)/\(p:Int)∣(w.1.nat:Int)-(P.1:Int)*((w.2.2.nat:Int)*(w.2.2.nat:Int))/\
  (p:Int)∣(w.2.1.nat:Int)-(P.2:Int)*((w.2.2.nat:Int)*(w.2.2.nat:Int)*(w.2.2.nat:Int))
theorem Ps {e:ab} (h:e.nat=0):bB e=true:=by rw [dF,h];rfl
theorem uE {e:ab} (h:¬(p:Int)∣(e.nat:Int)):bB e=false:=by
 rw [dF]
 cases hb:Nat.beq e.nat 0
 ·rfl
 ·exact absurd ⟨0,by rw [aY hb];rfl⟩ h
variable {b:Nat}
theorem asK (c:Cur p b) (hp:Sm p) {w:Hb} {P:PtQ} (hP:OnQ p b P) (h:azF p w P):azF p (adp p w) (dK p P P):=by
 obtain ⟨X,Y,Z⟩:=w
 cases P with
 |none=>
  have e:adp p (X,Y,Z)=(X,Y,Z):=by unfold adp;rw [Ps (e:=Z) h];rfl
  rw [e]
  exact h
 |some P=>
  obtain ⟨hz,hzn,hX,hY⟩:=h
  have e:adp p (X,Y,Z)=aHI p X Y Z:=by unfold adp;rw [uE (e:=Z) hzn];rfl
  rw [e]
  cases hs:dK p (some P) (some P) with
  |none=>
   have:dK p (some P) (some P)=some (wK p P P (rf p P P)):=if_neg λh=>h.2 rfl
   rw [this] at hs
   cases hs
  |some S=>
   obtain ⟨hS1,hS2,l,hl,ht⟩:=nz c hP hP hs
   have hyy:=cf hp Y Y
   have ha:=cf hp X (aR p Y Y)
   have hs:=cf hp (aR p X (aR p Y Y)) ⟨4,0,0,0⟩
   have hb:=cf hp X X
   have hm:=cf hp (aR p X X) ⟨3,0,0,0⟩
   unfold aHI mj
   dsimp only
   rw [ayj] at hs
   rw [T4] at hm
   generalize aR p (aR p X X) ⟨3,0,0,0⟩=m at*
   generalize aR p (aR p X (aR p Y Y)) ⟨4,0,0,0⟩=s at*
   have hmm:=cf hp m m
   have hs2:=cf hp s ⟨2,0,0,0⟩
   rw [ZR] at hs2
   have hx3:=ml hp (aR p m m) (aR p s ⟨2,0,0,0⟩)
   generalize iq p (aR p m m) (aR p s ⟨2,0,0,0⟩)=x3 at*
   have hd:=ml hp s x3
   have hmd:=cf hp m (iq p s x3)
   have hy4:=cf hp (aR p Y Y) (aR p Y Y)
   have hy8:=cf hp (aR p (aR p Y Y) (aR p Y Y)) ⟨8,0,0,0⟩
   rw [asB] at hy8
   have hy3:=ml hp (aR p m (iq p s x3)) (aR p (aR p (aR p Y Y) (aR p Y Y)) ⟨8,0,0,0⟩)
   have hyz:=cf hp Y Z
   have hz3:=cf hp (aR p Y Z) ⟨2,0,0,0⟩
   rw [ZR] at hz3
   have hzz:=aHF hz3 hyz hY
   refine ⟨jY hp _ _,λhn=> ?_,aHH ht.x hl.b hz3 hyz hx3 hs2 hmm hm hb hs ha hyy hX hY,aHG ht.y ht.x hl.b hz3 hyz hy3 hy8 hy4 hmd hd hx3 hs2 hmm hm hb hs ha hyy hX hY⟩
   have h2:(p:Int)∣2*((P.2:Int)*((Z.nat:Int)*((Z.nat:Int)*((Z.nat:Int)*Z.nat)))):=aGe hn hzz
   rcases c.pr.eC h2 with h|h
   ·exact c.no2 h
   ·rcases c.pr.eC h with h|h
    ·exact c.yne hP.2.2 h
    ·rcases c.pr.eC h with h|h
     ·exact hzn h
     ·rcases c.pr.eC h with h|h
      ·exact hzn h
      ·rcases c.pr.eC h with h|h<;>exact hzn h
end
section
open Sx Go
set_option maxRecDepth 100000
theorem aug {p b:Nat} (c:Cur p b) (hp:Sm p) {w v:Hb} {P R:PtQ} (hP:OnQ p b P) (hR:OnQ p b R) (h:azF p w P) (k:azF p v R):azF p (Yy p w v) (dK p P R):=by
 obtain ⟨X1,Y1,Z1⟩:=w
 obtain ⟨X2,Y2,Z2⟩:=v
 cases P with
 |none=>
  have e:Yy p (X1,Y1,Z1) (X2,Y2,Z2)=(X2,Y2,Z2):=by unfold Yy;rw [Ps (e:=Z1) h];rfl
  rw [e]
  exact k
 |some P=>
 cases R with
 |none=>
  have e:Yy p (X1,Y1,Z1) (X2,Y2,Z2)=(X1,Y1,Z1):=by unfold Yy;rw [uE (e:=Z1) h.2.1,Ps (e:=Z2) k];rfl
  rw [e]
  exact h
 |some R=>
  have hw:=h
  obtain ⟨hz,hzn,hX,hY⟩:=h
  obtain ⟨kz,kzn,kX,kY⟩:=k
  have e:Yy p (X1,Y1,Z1) (X2,Y2,Z2)=aG1 p (X1,Y1,Z1) (X2,Y2,Z2):=by unfold Yy;rw [uE (e:=Z1) hzn,uE (e:=Z2) kzn];rfl
  rw [e]
  unfold aG1
  dsimp only at*
  have hpz:=cf hp Z1 Z1
  have hqz:=cf hp Z2 Z2
  have hu:=cf hp X1 (aR p Z2 Z2)
  have hq3:=cf hp (aR p Z2 Z2) Z2
  have hs:=cf hp Y1 (aR p (aR p Z2 Z2) Z2)
  have hv:=cf hp X2 (aR p Z1 Z1)
  have hp3:=cf hp (aR p Z1 Z1) Z1
  have ht:=cf hp Y2 (aR p (aR p Z1 Z1) Z1)
  generalize aR p X1 (aR p Z2 Z2)=u at*
  generalize aR p Y1 (aR p (aR p Z2 Z2) Z2)=s at*
  generalize aR p X2 (aR p Z1 Z1)=v at*
  generalize aR p Y2 (aR p (aR p Z1 Z1) Z1)=t at*
  have hh:=ml hp v u
  have hr:=ml hp t s
  have lh:=PV hp v u
  have lr:=PV hp t s
  generalize iq p v u=H at*
  generalize iq p t s=r at*
  have ah:=aHR hh hv hu hqz hpz hX kX
  have ar:=aHQ hr ht hp3 hs hq3 hqz hpz hY kY
  have out:∀ {a z:Int},¬(p:Int)∣z->(p:Int)∣a*z->(p:Int)∣a:=λhz h=>(c.pr.eC h).resolve_right hz
  have mul:∀ {a z:Int},¬(p:Int)∣a->¬(p:Int)∣z->¬(p:Int)∣a*z:=λha hz h=>(c.pr.eC h).elim ha hz
  have n4:=mul (mul hzn hzn) (mul kzn kzn)
  have n6:=mul (mul (mul hzn hzn) hzn) (mul (mul kzn kzn) kzn)
  unfold aHS
  rcases (b9 (bB H)).symm with h1|h1
  ·rw [h1]
   simp only [aT]
   have hHn:¬(p:Int)∣(H.nat:Int):=λhd=>by
    rw [dF] at h1
    have:=Nat.eq_zero_of_dvd_of_lt (Int.natCast_dvd_natCast.1 hd) lh
    rw [this] at h1
    cases h1
   have hxn:P.1≠R.1:=λhx=>hHn (by
    rw [hx,Int.sub_self,Int.zero_mul,Int.sub_zero] at ah
    exact ah)
   cases hS:dK p (some P) (some R) with
   |none=>
    have:dK p (some P) (some R)=some (wK p P R (rf p P R)):=if_neg λh=>hxn h.1
    rw [this] at hS
    cases hS
   |some S=>
    obtain ⟨hS1,hS2,l,hl,hT⟩:=nz c hP hR hS
    unfold aH8 mj
    dsimp only
    have hhh:=cf hp H H
    have hhhh:=cf hp (aR p H H) H
    have hcc:=cf hp u (aR p H H)
    have hrr:=cf hp r r
    have hrh:=ml hp (aR p r r) (aR p (aR p H H) H)
    have hc2:=cf hp (aR p u (aR p H H)) ⟨2,0,0,0⟩
    rw [ZR] at hc2
    have hx3:=ml hp (iq p (aR p r r) (aR p (aR p H H) H)) (aR p (aR p u (aR p H H)) ⟨2,0,0,0⟩)
    generalize iq p (iq p (aR p r r) (aR p (aR p H H) H)) (aR p (aR p u (aR p H H)) ⟨2,0,0,0⟩)=x3 at*
    have hd:=ml hp (aR p u (aR p H H)) x3
    have hrd:=cf hp r (iq p (aR p u (aR p H H)) x3)
    have hsh:=cf hp s (aR p (aR p H H) H)
    have hy3:=ml hp (aR p r (iq p (aR p u (aR p H H)) x3)) (aR p s (aR p (aR p H H) H))
    have hzz:=cf hp Z1 Z2
    have hz3:=cf hp H (aR p Z1 Z2)
    refine ⟨jY hp _ _,λhn=> ?_,aHP hT.x hl.a hz3 hzz hx3 hc2 hrh hrr hcc hhhh hhh hr ht hp3 hh hv hs hq3 hu hqz hpz hX hY kX kY,
     aHO hT.y hT.x hl.a hz3 hzz hy3 hsh hrd hd hx3 hc2 hrh hrr hcc hhhh hhh hr ht hp3 hh hv hs hq3 hu hqz hpz hX hY kX kY⟩
    have h2:=aGe hn hz3
    rcases c.pr.eC h2 with h|h
    ·exact hHn h
    ·have h3:=aGe h hzz
     exact mul hzn kzn h3
  ·rw [h1]
   simp only [aK]
   have hH:H.nat=0:=by rw [dF] at h1;exact aY h1
   have hx:P.1=R.1:=by
    rw [hH] at ah
    have:(p:Int)∣((R.1:Int)-P.1)*((Z1.nat:Int)*Z1.nat*(Z2.nat*Z2.nat)):=aGe (Int.dvd_zero _) ah
    exact (gi hR.1 hP.1 (out n4 this)).symm
   rcases (b9 (bB r)).symm with h2|h2
   ·rw [h2]
    simp only [aT]
    have hy:P.2≠R.2:=λhy=>by
     rw [hy,Int.sub_self,Int.zero_mul,Int.sub_zero] at ar
     rw [dF] at h2
     have:=Nat.eq_zero_of_dvd_of_lt (Int.natCast_dvd_natCast.1 ar) lr
     rw [this] at h2
     cases h2
    have:dK p (some P) (some R)=none:=if_pos ⟨hx,hy⟩
    rw [this]
    exact lY
   ·rw [h2]
    simp only [aK]
    have hr0:r.nat=0:=by rw [dF] at h2;exact aY h2
    have hy:P.2=R.2:=by
     rw [hr0] at ar
     have:(p:Int)∣((R.2:Int)-P.2)*((Z1.nat:Int)*Z1.nat*Z1.nat*(Z2.nat*Z2.nat*Z2.nat)):=aGe (Int.dvd_zero _) ar
     exact (gi hR.2.1 hP.2.1 (out n6 this)).symm
    have:R=P:=by
     obtain ⟨P1,P2⟩:=P
     obtain ⟨R1,R2⟩:=R
     dsimp only at hx hy
     rw [hx,hy]
    rw [this]
    exact asK c hp hP hw
def Can (P:Pt):Prop:=P.2.2=true->P=aM
theorem ahL {P R:Pt} (hP:Can P) (hR:Can R) (h:toQ P=toQ R):P=R:=by
 obtain ⟨X,Y,i⟩:=P
 obtain ⟨X2,Y2,j⟩:=R
 cases i<;>cases j
 ·have h:some (X.nat,Y.nat)=some (X2.nat,Y2.nat):=h
  simp only [Option.some.injEq,Prod.mk.injEq] at h
  rw [gF h.1,gF h.2]
 ·cases h
 ·cases h
 ·rw [hP rfl,hR rfl]
theorem Ny {p b:Nat} (c:Cur p b) (hp:Sm p) {w:Hb} {P:PtQ} (hP:OnQ p b P) (h:azF p w P):toQ (gG p w)=P/\Can (gG p w):=by
 obtain ⟨X,Y,Z⟩:=w
 cases P with
 |none=>
  have e:gG p (X,Y,Z)=aM:=by unfold gG;rw [Ps (e:=Z) h];rfl
  rw [e]
  exact ⟨rfl,λ_=>rfl⟩
 |some P=>
  obtain ⟨hz,hzn,hX,hY⟩:=h
  have e:gG p (X,Y,Z)=abd p X Y (Ft p Z):=by unfold gG;rw [uE (e:=Z) hzn];rfl
  rw [e]
  refine ⟨?_,λh=>by cases h⟩
  have hi:=aqZ hp c.pr hzn
  unfold abd
  have h2:=cf hp (Ft p Z) (Ft p Z)
  have h3:=cf hp (aR p (Ft p Z) (Ft p Z)) (Ft p Z)
  have hx:=cf hp X (aR p (Ft p Z) (Ft p Z))
  have hy:=cf hp Y (aR p (aR p (Ft p Z) (Ft p Z)) (Ft p Z))
  have ex:=gi (jY hp _ _) hP.1 (aHv hx h2 hX hi)
  have ey:=gi (jY hp _ _) hP.2.1 (aHu hy h3 h2 hY hi)
  show some ((aR p X (aR p (Ft p Z) (Ft p Z))).nat,(aR p Y (aR p (aR p (Ft p Z) (Ft p Z)) (Ft p Z))).nat)=some P
  rw [ex,ey]
theorem Hl {p b:Nat} (c:Cur p b) {P:Pt}:azF p (gv P) (toQ P):=by
 obtain ⟨X,Y,i⟩:=P
 cases i
 ·have h1:=c.big
  refine ⟨?_,λh=> ?_,?_,?_⟩
  ·show (ab.mk 1 0 0 0).nat<p
   rw [QA]
   omega
  ·have h:(p:Int)∣(((ab.mk 1 0 0 0).nat:Nat):Int):=h
   rw [QA] at h
   have:=Int.le_of_dvd (by decide) h
   omega
  ·show (p:Int)∣(X.nat:Int)-(X.nat:Int)*((((ab.mk 1 0 0 0).nat:Nat):Int)*(((ab.mk 1 0 0 0).nat:Nat):Int))
   rw [QA]
   exact ⟨0,by simp⟩
  ·show (p:Int)∣(Y.nat:Int)-(Y.nat:Int)*((((ab.mk 1 0 0 0).nat:Nat):Int)*(((ab.mk 1 0 0 0).nat:Nat):Int)*(((ab.mk 1 0 0 0).nat:Nat):Int))
   rw [QA]
   exact ⟨0,by simp⟩
 ·exact lY
theorem ahM {p:Nat} (X Y X2 s:ab):Can (Jp p X Y X2 s):=λh=>by cases h
theorem atf {p:Nat} {P R:Pt} (hP:Can P) (hR:Can R):Can (po p P R):=by
 obtain ⟨X,Y,i⟩:=P
 obtain ⟨X2,Y2,j⟩:=R
 unfold po
 cases i
 ·cases j
  ·simp only [aT]
   cases eqE X X2
   ·exact ahM _ _ _ _
   ·cases eqE Y Y2
    ·exact λ_=>rfl
    ·exact ahM _ _ _ _
  ·exact hP
 ·exact hR
theorem aEL (k:ab) {n:Nat} (h:n<256):rl k (255-(n:Int))=avt k.nat (255-n):=by
 unfold rl
 rw [ag (show (0:Int)<=255-(n:Int) by omega),ag (show (255:Int)-(n:Int)<256 by omega),show ((255:Int)-(n:Int)).toNat=255-n by omega]
 rfl
theorem GF {p b:Nat} (c:Cur p b) (hp:Sm p) (k:ab) {P:Pt} (hP:OnQ p b (toQ P)) (hc:Can P):∀ n,n<=256->
 azF p (upto (jX p k (gv P)) anT n) (toQ (upto (gj p k.nat P) aM n))/\OnQ p b (toQ (upto (gj p k.nat P) aM n))/\Can (upto (gj p k.nat P) aM n)
 |0,_=>⟨lY,trivial,λ_=>rfl⟩
 |n+1,h=>by
  obtain ⟨h1,h2,h3⟩:=GF c hp k hP hc n (by omega)
  show azF p (jX p k (gv P) n (upto (jX p k (gv P)) anT n)) (toQ (gj p k.nat P n (upto (gj p k.nat P) aM n)))/\OnQ p b (toQ (gj p k.nat P n (upto (gj p k.nat P) aM n)))/\Can (gj p k.nat P n (upto (gj p k.nat P) aM n))
  generalize upto (jX p k (gv P)) anT n=w at*
  generalize upto (gj p k.nat P) aM n=Q at*
  have d1:=asK c hp h2 h1
  have d2:=PT c hp h2 h2
  have d3:=jh c h2 h2
  rw [<-d2] at d1 d3
  have d4:=atf (p:=p) h3 h3
  unfold jX gj
  rw [aEL k (by omega)]
  cases avt k.nat (255-n)
  ·exact ⟨d1,d3,d4⟩
  ·simp only [aK]
   have e2:=PT c hp d3 hP
   refine ⟨?_,?_,atf d4 hc⟩
   ·rw [e2]
    exact aug c hp d3 hP d1 (Hl c)
   ·rw [e2]
    exact jh c d3 hP
theorem fm {s:Int} {P:Pt} (h:onB s P=true):ac s=true/\OnQ (pS s) (bS s).nat (toQ P)/\Can P:=by
 have hs:=vg h
 have hp:Sm (pS s):=eK hs
 obtain ⟨X,Y,i⟩:=P
 refine ⟨hs,?_⟩
 unfold onB at h
 rw [hs] at h
 simp only [aK] at h
 cases i
 ·simp only [aT] at h
  refine ⟨?_,λh=>by cases h⟩
  rcases (b9 (Nat.blt X.nat (pS s))).symm with h1|h1
  ·rw [h1] at h;cases h
  ·rcases (b9 (Nat.blt Y.nat (pS s))).symm with h2|h2
   ·rw [h1,h2] at h;cases h
   ·rw [h1,h2] at h
    simp only [aK] at h
    have e:=tO.1 h
    have hx:X.nat<pS s:=dI h1
    have hy:Y.nat<pS s:=dI h2
    refine ⟨hx,hy,?_⟩
    have e1:=cf hp Y Y
    have e2:=cf hp X X
    have e3:=cf hp (aR (pS s) X X) X
    have e4:=Yz hp (aR (pS s) (aR (pS s) X X) X) (bS s)
    rw [e] at e1
    unfold F5 at e1
    show ((pS s:Nat):Int)∣(Y.nat:Int)*Y.nat-X.nat*X.nat*X.nat-(bS s).nat
    exact aHK e1 e4 e3 e2
 ·simp only [aK,aw] at h
  refine ⟨trivial,λ_=> ?_⟩
  have z:∀ {e:ab},bB e=true->e=⟨0,0,0,0⟩:=λ{e} h=>gF (by rw [dF] at h;rw [aY h];exact lY.symm)
  rw [z h.1,z h.2.1]
  rfl
theorem Un {s:Int} (h:ac s=true) (k:ab):(F2 s k).nat=(ofP (pS (ay s 1)) k).nat:=by
 have hp:=eK (bF h)
 unfold F2
 rw [show (dr (pS (ay s 1)) k ⟨0,0,0,0⟩).nat=(k.nat+(ab.mk 0 0 0 0).nat)%pS (ay s 1) from cr hp,lY,Nat.add_zero]
 exact (cr hp).symm
theorem axg (s:Int) (k:ab) (P:Pt):pN s k P=ap8 s k P:=by
 unfold pN ap8
 rcases (b9 (onB s P)).symm with h|h
 ·rw [h]
  rfl
 ·rw [h]
  simp only [aK]
  obtain ⟨hs,hP,hc⟩:=fm h
  have c:=aC hs
  have hp:Sm (pS s):=eK hs
  obtain ⟨h1,h2,h3⟩:=GF c hp (F2 s k) hP hc 256 (Nat.le_refl _)
  obtain ⟨n1,n2⟩:=Ny c hp h2 h1
  rw [<-Un hs]
  exact ahL n2 h3 n1
end
section
def eE (p:Nat):Nat->PtQ->PtQ
 |0,_=>none
 |n+1,P=>dK p P (eE p n P)
variable {p b:Nat}
theorem sG (c:Cur p b) {P:PtQ} (hP:OnQ p b P):∀ n,OnQ p b (eE p n P)
 |0=>trivial
 |n+1=>jh c hP (sG c hP n)
theorem mul_one (P:PtQ):eE p 1 P=P:=cn P
theorem vh:∀ n,eE p n none=none
 |0=>rfl
 |n+1=>vh n
theorem iG (c:Cur p b) {P:PtQ} (hP:OnQ p b P) (m:Nat):∀ n,eE p (n+m) P=dK p (eE p n P) (eE p m P)
 |0=>by rw [Nat.zero_add];rfl
 |n+1=>by
  rw [show n+1+m=(n+m)+1 by omega]
  show dK p P (eE p (n+m) P)=dK p (dK p P (eE p n P)) (eE p m P)
  rw [iG c hP m n,add_assoc c hP (sG c hP n) (sG c hP m)]
theorem mv (c:Cur p b) {P:PtQ} (hP:OnQ p b P) (m:Nat):∀ n,eE p (n*m) P=eE p n (eE p m P)
 |0=>by rw [Nat.zero_mul];rfl
 |n+1=>by
  rw [show (n+1)*m=m+n*m by rw [Nat.succ_mul,Nat.add_comm],iG c hP,mv c hP m n]
  rfl
theorem mul_comm (c:Cur p b) {P:PtQ} (hP:OnQ p b P) (m n:Nat):eE p n (eE p m P)=eE p m (eE p n P):=by
 rw [<-mv c hP,<-mv c hP,Nat.mul_comm]
theorem SW (c:Cur p b) {A B C D:PtQ} (hA:OnQ p b A) (hB:OnQ p b B) (hC:OnQ p b C) (hD:OnQ p b D):
 dK p (dK p A B) (dK p C D)=dK p (dK p A C) (dK p B D):=by
 rw [add_assoc c hA hB (jh c hC hD),<-add_assoc c hB hC hD,add_comm c hB hC,add_assoc c hC hB hD,<-add_assoc c hA hC (jh c hB hD)]
theorem mul_add (c:Cur p b) {P R:PtQ} (hP:OnQ p b P) (hR:OnQ p b R):∀ n,eE p n (dK p P R)=dK p (eE p n P) (eE p n R)
 |0=>rfl
 |n+1=>by
  show dK p (dK p P R) (eE p n (dK p P R))=dK p (dK p P (eE p n P)) (dK p R (eE p n R))
  rw [mul_add c hP hR n,SW c hP hR (sG c hP n) (sG c hR n)]
theorem wu (c:Cur p b) {P R T:PtQ} (hP:OnQ p b P) (hR:OnQ p b R) (hT:OnQ p b T) (h:dK p P R=dK p P T):R=T:=by
 rw [<-cancel c hP hR,h,cancel c hP hT]
theorem avI (c:Cur p b) {P:PtQ} (h:dK p P P=none):P=none:=by
 cases P with
 |none=>rfl
 |some P=>
  have:dK p (some P) (some P)=some (wK p P P (rf p P P)):=if_neg λh=>h.2 rfl
  rw [this] at h
  cases h
theorem mul_gcd (c:Cur p b) {P:PtQ} (hP:OnQ p b P) (m k:Nat):eE p m P=none->eE p k P=none->eE p (Nat.gcd m k) P=none:=by
 induction m,k using Nat.gcd.induction with
 |H0 n=>intro _ h;rw [Nat.gcd_zero_left];exact h
 |H1 m n hm ih=>
  intro h1 h2
  rw [Nat.gcd_rec]
  refine ih ?_ h1
  have e:=Nat.div_add_mod n m
  rw [<-e,Nat.mul_comm,iG c hP,mv c hP,h1,vh] at h2
  exact h2
theorem mul_mod (c:Cur p b) {P:PtQ} (hP:OnQ p b P) {q:Nat} (hq:eE p q P=none) (n:Nat):eE p (n%q) P=eE p n P:=by
 have e:=Nat.div_add_mod n q
 conv=>rhs;rw [<-e,Nat.mul_comm,iG c hP,mv c hP,hq,vh]
 rfl
def aE6 (p:Nat):PtQ->Nat
 |none=>2*p
 |some P=>2*P.1+P.2%2
theorem aGa {P:PtQ} (hP:OnQ p b P):aE6 p P<2*p+1:=by
 cases P with
 |none=>show 2*p<_;omega
 |some P=>
  have:=hP.1
  show 2*P.1+P.2%2<_
  omega
theorem aEg (c:Cur p b) (hodd:p%2=1) {P R:PtQ} (hP:OnQ p b P) (hR:OnQ p b R) (h:aE6 p P=aE6 p R):P=R:=by
 cases P with
 |none=>
  cases R with
  |none=>rfl
  |some R=>
   have:=hR.1
   have h:2*p=2*R.1+R.2%2:=h
   omega
 |some P=>
  cases R with
  |none=>
   have:=hP.1
   have h:2*P.1+P.2%2=2*p:=h
   omega
  |some R=>
   obtain ⟨x1,y1⟩:=P
   obtain ⟨x2,y2⟩:=R
   have h:2*x1+y1%2=2*x2+y2%2:=h
   have hx:x1=x2:=by omega
   have hy:y1%2=y2%2:=by omega
   by_cases he:y1=y2
   ·rw [hx,he]
   ·exfalso
    have ho:=apV c hP hR ⟨hx,he⟩
    have ho:some (x2,y2)=some (x1,nm p (-(y1:Int))):=ho
    simp only [Option.some.injEq,Prod.mk.injEq] at ho
    have h2:=ho.2
    have hy1:y1<p:=hP.2.1
    have h0:y1≠0:=λe=>c.yne hP.2.2 (by show (p:Int)∣((y1:Nat):Int);rw [e];exact ⟨0,by simp⟩)
    have h3:nm p (-(y1:Int))=p-y1:=ap5 (by omega) ⟨1,by omega⟩
    omega
theorem auc (c:Cur p b) (hodd:p%2=1) {q:Nat} (hq:Pr q) (hq2:q%2=1) (h3:2*p+1<3*q) {G:PtQ} (hG:OnQ p b G) (hne:G≠none) (hqG:eE p q G=none)
 {P:PtQ} (hP:OnQ p b P):eE p q P=none:=by
 apply lz
 intro hno
 have hord:∀ i,eE p i G=none->q∣i:=λi hi=>by
  have hg:=mul_gcd c hG q i hqG hi
  rcases hq.2 (Nat.gcd q i) (Nat.gcd_dvd_left ..) with e|e
  ·rw [e,mul_one] at hg
   exact absurd hg hne
  ·rw [<-e]
   exact Nat.gcd_dvd_right ..
 have hon:=λi=>sG c hG i
 have honP:=λi=>sG c hP i
 --no point of G's meets P or twice P
 have hp1:∀ i,P≠eE p i G:=λi e=>hno (by rw [e,mul_comm c hG,hqG,vh])
 have hp2:∀ i,dK p P P≠eE p i G:=λi e=>by
  have hh:∃ j,eE p i G=dK p (eE p j G) (eE p j G):=by
   refine ⟨i*((q+1)/2),?_⟩
   rw [<-iG c hG,<-Nat.mul_add,show (q+1)/2+(q+1)/2=q+1 by omega,Nat.mul_add,iG c hG,mv c hG,hqG,vh,Nat.mul_one]
   rfl
  obtain ⟨j,hj⟩:=hh
  rw [hj] at e
  have hn:=Fe c (hon j)
  have:dK p (dK p (agh p (eE p j G)) P) (dK p (agh p (eE p j G)) P)=none:=by
   rw [SW c hn hP hn hP,e,add_comm c (jh c hn hn) (jh c (hon j) (hon j)),SW c (hon j) (hon j) hn hn,add_neg c (hon j)]
   rfl
  have h2:=avI c this
  have h4:=IP c hn hP h2
  rw [neg_neg c (hon j)] at h4
  exact hp1 j h4
 --differences of G's points
 have hdiff:∀ i j A B,OnQ p b A->OnQ p b B->dK p (eE p i G) A=dK p (eE p j G) B->∃ k,A=dK p (eE p k G) B:=λi j A B hA hB e=>by
  refine ⟨(q-i%q)+j,?_⟩
  have hm:eE p (i%q) G=eE p i G:=mul_mod c hG hqG i
  have hlt:=Nat.mod_lt i hq.pos
  have hz:dK p (eE p (q-i%q) G) (eE p i G)=none:=by
   rw [<-hm,<-iG c hG,show q-i%q+i%q=q by omega,hqG]
  rw [iG c hG,add_assoc c (hon _) (hon _) hB,<-e,<-add_assoc c (hon _) (hon _) hA,hz]
  rfl
 have hinj:∀ i j,i<q->j<q->eE p i G=eE p j G->i=j:=by
  have aux:∀ i j,i<=j->j<q->eE p i G=eE p j G->i=j:=λi j hij hj e=>by
   have e2:dK p (eE p i G) none=dK p (eE p i G) (eE p (j-i) G):=by
    rw [<-iG c hG,show i+(j-i)=j by omega,cn,e]
   have h0:=wu c (hon i) (R:=none) trivial (hon _) e2
   have hd:=hord _ h0.symm
   by_cases h:j-i=0
   ·omega
   ·have:=Nat.le_of_dvd (by omega) hd
    omega
  intro i j hi hj e
  rcases Nat.le_total i j with h|h
  ·exact aux i j h hj e
  ·exact (aux j i h hi e.symm).symm
 let tw:Nat->PtQ:=λk=>eE p (k/q) P
 let pt:Nat->PtQ:=λk=>dK p (eE p (k%q) G) (eE p (k/q) P)
 have hpt:∀ k,OnQ p b (pt k):=λk=>jh c (hon _) (honP _)
 have hcoset:∀ i j,i<3->j<3->(∃ k,eE p i P=dK p (eE p k G) (eE p j P))->i=j:=by
  have P1:eE p 1 P=P:=mul_one P
  have P2:eE p 2 P=dK p P P:=congrArg (dK p P) (mul_one P)
  have back:∀ k A B,OnQ p b A->OnQ p b B->A=dK p (eE p k G) B->∃ k',B=dK p (eE p k' G) A:=λk A B hA hB e=>by
   refine hdiff k 0 B A hB hA ?_
   rw [<-e]
   rfl
  have n01:∀ k,eE p 0 P≠dK p (eE p k G) (eE p 1 P):=λk e=>by
   obtain ⟨k',e'⟩:=back k _ _ (honP 0) (honP 1) e
   rw [P1,show eE p 0 P=none from rfl,cn] at e'
   exact hp1 k' e'
  have n02:∀ k,eE p 0 P≠dK p (eE p k G) (eE p 2 P):=λk e=>by
   obtain ⟨k',e'⟩:=back k _ _ (honP 0) (honP 2) e
   rw [P2,show eE p 0 P=none from rfl,cn] at e'
   exact hp2 k' e'
  have n12:∀ k,eE p 1 P≠dK p (eE p k G) (eE p 2 P):=λk e=>by
   rw [P1,P2,<-add_assoc c (hon k) hP hP] at e
   have e2:dK p P none=dK p P (dK p (eE p k G) P):=by
    rw [cn,<-add_assoc c hP (hon k) hP,add_comm c hP (hon k)]
    exact e
   have e3:=wu c hP (R:=none) trivial (jh c (hon k) hP) e2
   obtain ⟨k',e'⟩:=back k none P trivial hP e3
   rw [cn] at e'
   exact hp1 k' e'
  rintro i j hi hj ⟨k,hk⟩
  apply lz
  intro hij
  have bk:=back k _ _ (honP i) (honP j) hk
  have:(i=0/\j=1)\/(i=0/\j=2)\/(i=1/\j=2)\/(i=1/\j=0)\/(i=2/\j=0)\/(i=2/\j=1):=by omega
  rcases this with ⟨rfl,rfl⟩|⟨rfl,rfl⟩|⟨rfl,rfl⟩|⟨rfl,rfl⟩|⟨rfl,rfl⟩|⟨rfl,rfl⟩
  ·exact n01 k hk
  ·exact n02 k hk
  ·exact n12 k hk
  ·obtain ⟨k',e⟩:=bk;exact n01 k' e
  ·obtain ⟨k',e⟩:=bk;exact n02 k' e
  ·obtain ⟨k',e⟩:=bk;exact n12 k' e
 have hptinj:∀ x ∈ List.range (3*q),∀ y ∈ List.range (3*q),aE6 p (pt x)=aE6 p (pt y)->x=y:=λx hx y hy e=>by
  rw [List.mem_range] at hx hy
  have e:=aEg c hodd (hpt x) (hpt y) e
  have hdx:x/q<3:=Nat.div_lt_of_lt_mul (by rw [Nat.mul_comm];exact hx)
  have hdy:y/q<3:=Nat.div_lt_of_lt_mul (by rw [Nat.mul_comm];exact hy)
  have h1:=hcoset (x/q) (y/q) hdx hdy (hdiff _ _ _ _ (honP _) (honP _) e)
  have e:dK p (eE p (x%q) G) (eE p (x/q) P)=dK p (eE p (y%q) G) (eE p (y/q) P):=e
  rw [h1,add_comm c (hon _) (honP _),add_comm c (hon (y%q)) (honP _)] at e
  have h2:=hinj _ _ (Nat.mod_lt _ hq.pos) (Nat.mod_lt _ hq.pos) (wu c (honP _) (hon _) (hon _) e)
  have e1:=Nat.div_add_mod x q
  have e2:=Nat.div_add_mod y q
  rw [<-e1,<-e2,h1,h2]
 have hnd:=sH (f:=λk=>aE6 p (pt k)) List.nodup_range hptinj
 have hlen:=Bk (l2:=List.range (2*p+1)) hnd (λx hx=>by
  obtain ⟨k,_,rfl⟩:=List.mem_map.1 hx
  exact List.mem_range.2 (aGa (hpt k)))
 rw [List.length_map,List.length_range,List.length_range] at hlen
 omega
end
section
open Sx Go
set_option maxRecDepth 100000
theorem xU {p b:Nat} (c:Cur p b) (hp:Sm p) {k:Nat} (hk:k<2^256) {P:Pt} (hP:OnQ p b (toQ P)):∀ n,n<=256->
 toQ (upto (gj p k P) aM n)=eE p (k/2^(256-n)) (toQ P)
 |0,_=>by
  rw [Nat.sub_zero,Nat.div_eq_of_lt hk]
  rfl
 |n+1,h=>by
  have ih:=xU c hp hk hP n (by omega)
  have ho:=sG c hP (k/2^(256-n))
  show toQ (gj p k P n (upto (gj p k P) aM n))=_
  generalize upto (gj p k P) aM n=Q at*
  have hQ:OnQ p b (toQ Q):=by rw [ih];exact ho
  have d2:=PT c hp hQ hQ
  have e1:256-n=(255-n)+1:=by omega
  have hd:k/2^(256-n)=k/2^(255-n)/2:=by rw [e1,Nat.pow_succ,Nat.div_div_eq_div_mul]
  rw [show 256-(n+1)=255-n by omega]
  rw [hd] at ih ho
  unfold gj
  cases hb:avt k (255-n)
  ·have h0:=azb hb
   simp only [aT]
   rw [d2,ih,<-iG c hP]
   congr 1
   omega
  ·have h0:k/2^(255-n)%2=1:=aY hb
   simp only [aK]
   have d3:OnQ p b (toQ (po p Q Q)):=by rw [d2];exact jh c hQ hQ
   rw [PT c hp d3 hP,d2,ih,<-iG c hP,add_comm c (sG c hP _) hP]
   show eE p (_+1) (toQ P)=_
   congr 1
   omega
theorem akC {p b:Nat} (c:Cur p b) (hp:Sm p) {k:Nat} (hk:k<2^256) {P:Pt} (hP:OnQ p b (toQ P)):toQ (apm p k P)=eE p k (toQ P):=by
 have h:=xU c hp hk hP 256 (Nat.le_refl _)
 rw [Nat.sub_self,Nat.pow_zero,Nat.div_one] at h
 exact h
theorem aFK {p b x y:Nat} (hx:x<p) (hy:y<p) (h:Nat.beq (y*y%p) ((x*x*x+b)%p)=true):OnQ p b (some (x,y)):=by
 refine ⟨hx,hy,?_⟩
 have h:=aY h
 obtain ⟨k,hk⟩:=avp (p:=p) (y*y)
 obtain ⟨m,hm⟩:=avp (p:=p) (x*x*x+b)
 rw [h] at hk
 rw [Int.natCast_mul] at hk
 rw [Int.natCast_add,Int.natCast_mul,Int.natCast_mul] at hm
 show (p:Int)∣(y:Int)*y-x*x*x-b
 generalize (((x*x*x+b)%p:Nat):Int)=r at*
 refine ⟨m-k,?_⟩
 rw [Int.mul_sub,<-hm,<-hk]
 omega
def aDk (p q:Nat) (x y:ab):Bool:=bB (upto (jX p (ofN q) (gv (x,y,false))) anT 256).2.2
theorem aHm {p b q:Nat} (c:Cur p b) (hp:Sm p) (hq:q<115792089237316195423570985008687907853269984665640564039457584007913129639936) {x y:ab} (hG:OnQ p b (some (x.nat,y.nat))) (h:aDk p q x y=true):eE p q (some (x.nat,y.nat))=none:=by
 have hG':OnQ p b (toQ (x,y,false)):=hG
 obtain ⟨h1,h2,h3⟩:=GF c hp (ofN q) hG' (λh=>by cases h) 256 (Nat.le_refl _)
 have h4:=xU c hp (k:=(ofN q).nat) (jj _) hG' 256 (Nat.le_refl _)
 rw [n7 hq,Nat.sub_self,Nat.pow_zero,Nat.div_one] at h4
 rw [n7 hq] at h1
 have h4:toQ (upto (gj p q (x,y,false)) aM 256)=eE p q (some (x.nat,y.nat)):=h4
 rw [h4] at h1
 unfold aDk at h
 cases hm:eE p q (some (x.nat,y.nat)) with
 |none=>rfl
 |some S=>
  rw [hm] at h1
  rw [uE h1.2.1] at h
  cases h
theorem Qy {p b q:Nat} (c:Cur p b) (hp:Sm p) (hodd:Nat.beq (p%2) 1=true) (hq:Pr q) (hq2:Nat.beq (q%2) 1=true) (hqb:Nat.blt q 115792089237316195423570985008687907853269984665640564039457584007913129639936=true) (h3:Nat.blt (2*p+1) (3*q)=true)
 {x y:ab} (hx:Nat.blt x.nat p=true) (hy:Nat.blt y.nat p=true) (he:Nat.beq (y.nat*y.nat%p) ((x.nat*x.nat*x.nat+b)%p)=true) (h:aDk p q x y=true) {P:PtQ} (hP:OnQ p b P):eE p q P=none:=by
 have hG:=aFK (dI hx) (dI hy) he
 exact auc c (aY hodd) hq (aY hq2) (dI h3) hG (λe=>by cases e) (aHm c hp (dI hqb) hG h) hP
theorem aFV:pS 0=16513537:=by decide+kernel
theorem aFU:pS 1=16521217:=by decide+kernel
theorem aFT:pS 2=28948022309329048855892746252171976963363056481941560715954676764349967630337:=by decide+kernel
theorem aFS:pS 3=28948022309329048855892746252171976963363056481941647379679742748393362948097:=by decide+kernel
theorem aIn:(bS 0).nat=23:=by decide+kernel
theorem aIm:(bS 1).nat=21:=by decide+kernel
theorem aIl:(bS 2).nat=5:=by decide+kernel
theorem aIk:(bS 3).nat=5:=by decide+kernel
theorem aHq:aDk 16513537 16521217 ⟨1,0,0,0⟩ ⟨2487377,0,0,0⟩=true:=by decide+kernel
theorem aHp:aDk 16521217 16513537 ⟨1,0,0,0⟩ ⟨7286451,0,0,0⟩=true:=by decide+kernel
theorem aHo:aDk 28948022309329048855892746252171976963363056481941560715954676764349967630337 28948022309329048855892746252171976963363056481941647379679742748393362948097
 (ofN 28948022309329048855892746252171976963363056481941560715954676764349967630336) ⟨2,0,0,0⟩=true:=by decide+kernel
theorem aHn:aDk 28948022309329048855892746252171976963363056481941647379679742748393362948097 28948022309329048855892746252171976963363056481941560715954676764349967630337
 (ofN 28948022309329048855892746252171976963363056481941647379679742748393362948096) ⟨2,0,0,0⟩=true:=by decide+kernel
theorem aAi {s:Int} (hs:ac s=true) {P:PtQ} (hP:OnQ (pS s) (bS s).nat P):eE (pS s) (pS (ay s 1)) P=none:=by
 have c:=aC hs
 have hp:Sm (pS s):=eK hs
 rcases cb hs with rfl|rfl|rfl|rfl
 ·rw [show ay 0 1=1 by decide+kernel]
  rw [aFV,aFU,aIn] at*
  exact Qy c hp (by decide+kernel) ya (by decide+kernel) (by decide+kernel) (by decide+kernel) (by decide+kernel) (by decide+kernel) (by decide+kernel) aHq hP
 ·rw [show ay 1 1=0 by decide+kernel]
  rw [aFV,aFU,aIm] at*
  exact Qy c hp (by decide+kernel) yb (by decide+kernel) (by decide+kernel) (by decide+kernel) (by decide+kernel) (by decide+kernel) (by decide+kernel) aHp hP
 ·rw [show ay 2 1=3 by decide+kernel]
  rw [aFT,aFS,aIl] at*
  exact Qy c hp (by decide+kernel) aO (by decide+kernel) (by decide+kernel) (by decide+kernel) (by decide+kernel) (by decide+kernel) (by decide+kernel) aHo hP
 ·rw [show ay 3 1=2 by decide+kernel]
  rw [aFT,aFS,aIk] at*
  exact Qy c hp (by decide+kernel) aP (by decide+kernel) (by decide+kernel) (by decide+kernel) (by decide+kernel) (by decide+kernel) (by decide+kernel) aHn hP
theorem apX {s:Int} {P:Pt} (hs:ac s=true) (h:OnQ (pS s) (bS s).nat (toQ P)) (hc:Can P):onB s P=true:=by
 have hp:Sm (pS s):=eK hs
 obtain ⟨X,Y,i⟩:=P
 cases i
 ·obtain ⟨hx,hy,hv⟩:=h
  have hx:X.nat<pS s:=hx
  have hy:Y.nat<pS s:=hy
  have hv:((pS s:Nat):Int)∣(Y.nat:Int)*Y.nat-X.nat*X.nat*X.nat-(bS s).nat:=hv
  unfold onB
  rw [hs]
  have e1:Nat.blt X.nat (pS s)=true:=jR hx
  have e2:Nat.blt Y.nat (pS s)=true:=jR hy
  simp only [aK,aT,e1,e2]
  refine tO.2 (gF (gi (jY hp _ _) (zT hp _ _) ?_))
  have c1:=cf hp Y Y
  have c2:=cf hp X X
  have c3:=cf hp (aR (pS s) X X) X
  have c4:=Yz hp (aR (pS s) (aR (pS s) X X) X) (bS s)
  unfold F5
  exact aHJ c1 c4 c3 c2 hv
 ·rw [hc rfl]
  unfold onB
  rw [hs]
  rfl
theorem aAX {s:Int} {P:Pt} (h:onB s P=true):Can P:=(fm h).2.2
theorem aEA:Can aM:=λ_=>rfl
theorem nN {s:Int} {P R:Pt} (hP:onB s P=true) (hR:onB s R=true):toQ (fO s P R)=dK (pS s) (toQ P) (toQ R)/\onB s (fO s P R)=true:=by
 obtain ⟨hs,h1,h2⟩:=fm hP
 obtain ⟨_,h3,h4⟩:=fm hR
 have c:=aC hs
 have hp:Sm (pS s):=eK hs
 have e:fO s P R=gG (pS s) (Yy (pS s) (gv P) (gv R)):=by unfold fO;rw [hP,hR];rfl
 obtain ⟨n1,n2⟩:=Ny c hp (jh c h1 h3) (aug c hp h1 h3 (Hl c) (Hl c))
 rw [e]
 exact ⟨n1,apX hs (by rw [n1];exact jh c h1 h3) n2⟩
theorem vC {s:Int} (hs:ac s=true):onB s aM=true:=apX hs trivial aEA
theorem GG {s:Int} (k:ab) {P:Pt} (hP:onB s P=true):toQ (pN s k P)=eE (pS s) k.nat (toQ P)/\onB s (pN s k P)=true:=by
 obtain ⟨hs,h1,h2⟩:=fm hP
 have c:=aC hs
 have hp:Sm (pS s):=eK hs
 have hk:(ofP (pS (ay s 1)) k).nat=k.nat%pS (ay s 1):=cr (eK (bF hs))
 have e:pN s k P=apm (pS s) (ofP (pS (ay s 1)) k).nat P:=by rw [axg];unfold ap8;rw [hP];rfl
 have ht:toQ (pN s k P)=eE (pS s) k.nat (toQ P):=by
  rw [e,akC c hp (jj _) h1,hk,mul_mod c h1 (aAi hs h1)]
 refine ⟨ht,apX hs (by rw [ht];exact sG c h1 _) ?_⟩
 rw [e]
 exact (GF c hp (ofP (pS (ay s 1)) k) h1 h2 256 (Nat.le_refl _)).2.2
def Gp {p b:Nat} (_:Cur p b):Type:= {P:PtQ//OnQ p b P}
section
variable {p b:Nat} {c:Cur p b}
instance:Add (Gp c):=⟨λx y=>⟨dK p x.1 y.1,jh c x.2 y.2⟩⟩
instance:Zero (Gp c):=⟨⟨none,trivial⟩⟩
instance:Neg (Gp c):=⟨λx=>⟨agh p x.1,Fe c x.2⟩⟩
instance:Std.Associative (α:=Gp c) (· + ·):=⟨λx y z=>Subtype.ext (add_assoc c x.2 y.2 z.2)⟩
instance:Std.Commutative (α:=Gp c) (· + ·):=⟨λx y=>Subtype.ext (add_comm c x.2 y.2)⟩
theorem WA (x y:Gp c):x+y=y+x:=Subtype.ext (add_comm c x.2 y.2)
theorem acs (x y z:Gp c):x+y+z=x+(y+z):=Subtype.ext (add_assoc c x.2 y.2 z.2)
theorem oC (x:Gp c):x+0=x:=Subtype.ext (cn x.1)
theorem aFb (x:Gp c):0+x=x:=Subtype.ext rfl
theorem aHA (x:Gp c):x+ -x=0:=Subtype.ext (add_neg c x.2)
def smG (n:Nat) (x:Gp c):Gp c:=⟨eE p n x.1,sG c x.2 n⟩
theorem aan (x:Gp c):smG 0 x=0:=rfl
theorem Uf (x:Gp c):smG 1 x=x:=Subtype.ext (mul_one x.1)
theorem aCX (n:Nat) (x:Gp c):smG (n+1) x=x+smG n x:=rfl
theorem PY (m n:Nat) (x:Gp c):smG (m+n) x=smG m x+smG n x:=Subtype.ext (iG c x.2 n m)
theorem PX (m n:Nat) (x:Gp c):smG (m*n) x=smG m (smG n x):=Subtype.ext (mv c x.2 n m)
theorem az8 (n:Nat) (x y:Gp c):smG n (x+y)=smG n x+smG n y:=Subtype.ext (mul_add c x.2 y.2 n)
theorem aoZ (n:Nat):smG n (0:Gp c)=0:=Subtype.ext (vh n)
theorem ag2 {x y z:Gp c} (h:x+y=x+z):y=z:=Subtype.ext (wu c x.2 y.2 z.2 (congrArg Subtype.val h))
def ld:List (Nat×Gp c)->Gp c
 | []=>0
 |t::r=>smG t.1 t.2+ld r
theorem xN (l r:List (Nat×Gp c)):ld (l++r)=ld l+ld r:=by
 induction l with
 |nil=>exact (aFb _).symm
 |cons t l ih=>
  show smG t.1 t.2+ld (l++r)=smG t.1 t.2+ld l+ld r
  rw [ih,acs]
open Classical in
noncomputable def gp (c:Cur p b) (P:Pt):Gp c:=if h:OnQ p b (toQ P) then ⟨toQ P,h⟩ else 0
theorem RA (P:Pt) (h:OnQ p b (toQ P)):gp c P=⟨toQ P,h⟩:=dif_pos h
end
section
variable {s:Int} (hs:ac s=true)
theorem aF3 {P R:Pt} (hP:onB s P=true) (hR:onB s R=true) (h:gp (aC hs) P=gp (aC hs) R):P=R:=by
 rw [RA P (fm hP).2.1,RA R (fm hR).2.1] at h
 exact ahL (aAX hP) (aAX hR) (congrArg Subtype.val h)
theorem NX:gp (aC hs) aM=0:=RA aM trivial
theorem J7 {P R:Pt} (hP:onB s P=true) (hR:onB s R=true):gp (aC hs) (fO s P R)=gp (aC hs) P+gp (aC hs) R:=by
 obtain ⟨e,o⟩:=nN hP hR
 rw [RA P (fm hP).2.1,RA R (fm hR).2.1,RA _ (fm o).2.1]
 exact Subtype.ext e
theorem aAw (k:ab) {P:Pt} (hP:onB s P=true):gp (aC hs) (pN s k P)=smG k.nat (gp (aC hs) P):=by
 obtain ⟨e,o⟩:=GG k hP
 rw [RA P (fm hP).2.1,RA _ (fm o).2.1]
 exact Subtype.ext e
theorem wN (n:Nat) (x:Gp (aC hs)):smG (n%pS (ay s 1)) x=smG n x:=Subtype.ext (mul_mod (aC hs) x.2 (aAi hs x.2) n)
end
section
variable {s:Int} (hs:ac s=true)
abbrev Gs (hs:ac s=true):Type:=Gp (aC hs)
noncomputable def tG (l:List Tm):List (Nat×Gs hs):=l.map λt=>(t.1.nat,gp (aC hs) t.2)
theorem iu {α:Type} {l:List α} {k:Nat} (h:k<l.length) (d:α):l.getD k d=l[k]:=by rw [fP,m4 h];rfl
theorem aud {c:Int} {l:List Tm} (ha:cv c l=true) {k:Nat} (h:k<l.length):onB c l[k].2=true:=List.all_eq_true.1 ha _ (List.getElem_mem h)
theorem HW {l:List Tm} (ha:cv s l=true):∀ n,n<=l.length->onB s (upto (fY s l) aM n)=true/\gp (aC hs) (upto (fY s l) aM n)=ld (tG hs (l.take n))
 |0,_=>⟨vC hs,NX hs⟩
 |n+1,h=>by
  obtain ⟨h1,h2⟩:=HW ha n (by omega)
  have hk:n<l.length:=by omega
  show onB s (fY s l n (upto (fY s l) aM n))=true/\gp (aC hs) (fY s l n (upto (fY s l) aM n))=_
  generalize upto (fY s l) aM n=O at*
  unfold fY
  rw [iu hk]
  have hp:=aud ha hk
  have hm:=(GG l[n].1 hp).2
  refine ⟨(nN h1 hm).2,?_⟩
  rw [J7 hs h1 hm,aAw hs _ hp,h2,<-List.take_append_getElem hk,tG,tG,List.map_append,xN]
  congr 1
  exact (oC _).symm
theorem akq {l:List Tm} (ha:cv s l=true):onB s (py s l)=true/\gp (aC hs) (py s l)=ld (tG hs l):=by
 have h:=HW hs ha l.length (Nat.le_refl _)
 rw [List.take_length] at h
 exact h
noncomputable def Tc:List Pt->Gs hs
 | []=>0
 |P::r=>gp (aC hs) P+Tc r
noncomputable def ajO:List Pt->Gs hs
 | []=>0
 |P::r=>ajO r+Tc hs (P::r)
theorem P9 {P R:Pt} (hR:onB s R=true):∀ (S:List Pt) (d:Nat),d<S.length->onB s (S.getD d fa)=true->P=fO s (S.getD d fa) R->Tc hs (S.set d P)=Tc hs S+gp (aC hs) R
 | [],d,h,_,_=>by cases h
 |X::S,0,_,ho,e=>by
  subst e
  have ho:onB s X=true:=ho
  show gp (aC hs) (fO s X R)+Tc hs S=gp (aC hs) X+Tc hs S+gp (aC hs) R
  rw [J7 hs ho hR]
  ac_rfl
 |X::S,d+1,h,ho,e=>by
  have ih:=P9 hR S d (by simpa using h) ho e
  show gp (aC hs) X+Tc hs (S.set d P)=gp (aC hs) X+Tc hs S+gp (aC hs) R
  rw [ih]
  ac_rfl
theorem aet {P R:Pt} (hR:onB s R=true):∀ (S:List Pt) (d:Nat),d<S.length->onB s (S.getD d fa)=true->P=fO s (S.getD d fa) R->ajO hs (S.set d P)=ajO hs S+smG (d+1) (gp (aC hs) R)
 | [],d,h,_,_=>by cases h
 |X::S,0,h,ho,e=>by
  have hr:=P9 hs hR (X::S) 0 h ho e
  show ajO hs S+Tc hs (P::S)=ajO hs S+Tc hs (X::S)+smG 1 (gp (aC hs) R)
  have hr:Tc hs (P::S)=_:=hr
  rw [hr,Uf]
  ac_rfl
 |X::S,d+1,h,ho,e=>by
  have hr:=P9 hs hR (X::S) (d+1) h ho e
  have ih:=aet hR S d (by simpa using h) ho e
  show ajO hs (S.set d P)+Tc hs ((X::S).set (d+1) P)=ajO hs S+Tc hs (X::S)+smG (d+1+1) (gp (aC hs) R)
  rw [hr,ih,aCX (d+1)]
  ac_rfl
def aEQ (s:Int) (S:List Pt):Prop:=∀ k,k<S.length->onB s (S.getD k fa)=true
theorem azz {S:List Pt} (h:aEQ s S) {d:Nat} {P:Pt} (hP:onB s P=true):aEQ s (S.set d P):=λk hk=>by
 rw [cy] at hk
 by_cases e:d=k
 ·subst e
  rw [fP,List.getElem?_set_self hk]
  exact hP
 ·rw [fP,List.getElem?_set_ne e,<-fP]
  exact h k hk
theorem afR {S:List Pt} (hS:S.length=15) (hp:aEQ s S):∀ n,n<=15->
 (onB s (upto (ir s S) (aM,aM) n).1=true/\onB s (upto (ir s S) (aM,aM) n).2=true)/\
 gp (aC hs) (upto (ir s S) (aM,aM) n).1=Tc hs (S.drop (15-n))/\gp (aC hs) (upto (ir s S) (aM,aM) n).2=ajO hs (S.drop (15-n))
 |0,_=>by
  rw [List.drop_eq_nil_of_le (by omega)]
  exact ⟨⟨vC hs,vC hs⟩,NX hs,NX hs⟩
 |n+1,h=>by
  obtain ⟨⟨h1,h2⟩,h3,h4⟩:=afR hS hp n (by omega)
  show (onB s (ir s S n (upto (ir s S) (aM,aM) n)).1=true/\onB s (ir s S n (upto (ir s S) (aM,aM) n)).2=true)/\
   gp (aC hs) (ir s S n (upto (ir s S) (aM,aM) n)).1=_/\gp (aC hs) (ir s S n (upto (ir s S) (aM,aM) n)).2=_
  generalize upto (ir s S) (aM,aM) n=w at*
  have hk:14-n<S.length:=by omega
  have ho:=hp (14-n) hk
  have e1:S.drop (15-(n+1))=S.getD (14-n) fa::S.drop (15-n):=by
   rw [iu hk,show 15-(n+1)=14-n by omega,mZ hk,show 14-n+1=15-n by omega]
  rw [e1]
  unfold ir
  dsimp only
  have o1:=(nN h1 ho).2
  have o2:=(nN h2 o1).2
  have e2:gp (aC hs) (fO s w.1 (S.getD (14-n) fa))=Tc hs (S.getD (14-n) fa::S.drop (15-n)):=by
   rw [J7 hs h1 ho,h3]
   exact WA _ _
  refine ⟨⟨o1,o2⟩,e2,?_⟩
  rw [J7 hs h2 o1,h4,e2]
  rfl
theorem aC6 {S:List Pt} (hS:S.length=15) (hp:aEQ s S):onB s (aGP s S).2=true/\gp (aC hs) (aGP s S).2=ajO hs S:=by
 obtain ⟨⟨_,h2⟩,_,h4⟩:=afR hs hS hp 15 (Nat.le_refl _)
 exact ⟨h2,h4⟩
theorem Us:∀ n,Tc hs (List.replicate n aM)=0
 |0=>rfl
 |n+1=>by
  rw [List.replicate_succ]
  show gp (aC hs) aM+Tc hs (List.replicate n aM)=0
  rw [Us n,NX hs,oC]
theorem To:∀ n,ajO hs (List.replicate n aM)=0
 |0=>rfl
 |n+1=>by
  have h:=Us hs (n+1)
  rw [List.replicate_succ] at h⊢
  show ajO hs (List.replicate n aM)+Tc hs (aM::List.replicate n aM)=0
  rw [h,To n,oC]
theorem aue (hs:ac s=true) (n:Nat):aEQ s (List.replicate n aM):=λk hk=>by
 rw [iu hk,List.getElem_replicate]
 exact vC hs
noncomputable def dG (a:Int) (l:List Tm):List (Nat×Gs hs):=l.map λt=>((Xn t.1 a).toNat,gp (aC hs) t.2)
theorem X0 {l:List Tm} (ha:cv s l=true) (a:Int):∀ n,n<=l.length->(upto (fc s a l) (List.replicate 15 aM) n).length=15/\aEQ s (upto (fc s a l) (List.replicate 15 aM) n)/\
 ajO hs (upto (fc s a l) (List.replicate 15 aM) n)=ld (dG hs a (l.take n))
 |0,_=>⟨rfl,aue hs 15,To hs 15⟩
 |n+1,h=>by
  obtain ⟨h1,h2,h3⟩:=X0 ha a n (by omega)
  have hk:n<l.length:=by omega
  show (fc s a l n (upto (fc s a l) (List.replicate 15 aM) n)).length=15/\aEQ s (fc s a l n (upto (fc s a l) (List.replicate 15 aM) n))/\ajO hs (fc s a l n (upto (fc s a l) (List.replicate 15 aM) n))=_
  generalize upto (fc s a l) (List.replicate 15 aM) n=S at*
  have hp:=aud ha hk
  refine ⟨(mO s a l n S).trans h1,?_⟩
  have ed:ld (dG hs a (l.take (n+1)))=ld (dG hs a (l.take n))+smG (Xn l[n].1 a).toNat (gp (aC hs) l[n].2):=by
   rw [<-List.take_append_getElem hk,dG,dG,List.map_append,xN]
   congr 1
   exact oC _
  rw [ed]
  unfold fc
  rw [iu hk]
  have hd:=asH l[n].1 a
  by_cases h0:0<Xn l[n].1 a
  ·rw [ag h0]
   simp only [aK]
   have hlt:(Xn l[n].1 a-1).toNat<S.length:=by omega
   have ho:=h2 _ hlt
   refine ⟨azz h2 (nN ho hp).2,?_⟩
   rw [aet hs hp S _ hlt ho rfl,h3,show (Xn l[n].1 a-1).toNat+1=(Xn l[n].1 a).toNat by omega]
  ·rw [bq h0]
   simp only [aT]
   refine ⟨h2,?_⟩
   rw [h3,show (Xn l[n].1 a).toNat=0 by omega,aan,oC]
theorem ay6 {l:List Tm} (ha:cv s l=true) (a:Int):onB s (adM s l a)=true/\gp (aC hs) (adM s l a)=ld (dG hs a l):=by
 obtain ⟨h1,h2,h3⟩:=X0 hs ha a l.length (Nat.le_refl _)
 rw [List.take_length] at h3
 obtain ⟨h4,h5⟩:=aC6 hs h1 h2
 exact ⟨h4,h5.trans h3⟩
noncomputable def vG (a:Nat) (l:List Tm):List (Nat×Gs hs):=l.map λt=>(t.1.nat/2^a,gp (aC hs) t.2)
theorem B9 (k:ab) (i:Nat):aA6 (rl k (i:Int))=((k.nat/2^i%2:Nat):Int):=by
 unfold rl
 rw [ag (show (0:Int)<=(i:Int) by omega),cB]
 by_cases h:(i:Int)<256
 ·rw [ag h]
  show aA6 (avt k.nat i)=_
  unfold avt
  have h2:k.nat/2^i%2=0\/k.nat/2^i%2=1:=by omega
  rcases h2 with h2|h2<;>rw [h2]<;>rfl
 ·rw [bq h]
  have hlt:=jj k
  have:k.nat/2^i=0:=Nat.div_eq_of_lt (Nat.lt_of_lt_of_le hlt (by
   have:2^256<=2^i:=Nat.pow_le_pow_right (by decide) (by omega)
   exact this))
  rw [this]
  rfl
theorem ayM (k:ab) (a:Nat):(Xn k (a:Int)).toNat=k.nat/2^a%16:=by
 rw [asI,show (a:Int)+1=((a+1:Nat):Int) by omega,show (a:Int)+2=((a+2:Nat):Int) by omega,show (a:Int)+3=((a+3:Nat):Int) by omega]
 rw [B9,B9,B9,B9]
 have e1:k.nat/2^(a+1)=k.nat/2^a/2:=by rw [Nat.pow_succ,Nat.div_div_eq_div_mul]
 have e2:k.nat/2^(a+2)=k.nat/2^a/2/2:=by rw [show a+2=(a+1)+1 by omega,Nat.pow_succ,<-Nat.div_div_eq_div_mul,e1]
 have e3:k.nat/2^(a+3)=k.nat/2^a/2/2/2:=by rw [show a+3=(a+2)+1 by omega,Nat.pow_succ,<-Nat.div_div_eq_div_mul,e2]
 rw [e1,e2,e3]
 omega
theorem aCi (l:List Tm) (a:Nat):smG 16 (ld (vG hs (a+4) l))+ld (dG hs (a:Int) l)=ld (vG hs a l):=by
 induction l with
 |nil=>exact (oC _).trans (aoZ 16)
 |cons t l ih=>
  show smG 16 (smG (t.1.nat/2^(a+4)) (gp (aC hs) t.2)+ld (vG hs (a+4) l))+(smG (Xn t.1 (a:Int)).toNat (gp (aC hs) t.2)+ld (dG hs (a:Int) l))=smG (t.1.nat/2^a) (gp (aC hs) t.2)+ld (vG hs a l)
  rw [<-ih,az8,<-PX,ayM]
  have e:t.1.nat/2^a=16*(t.1.nat/2^(a+4))+t.1.nat/2^a%16:=by
   rw [Nat.pow_add,<-Nat.div_div_eq_div_mul]
   have:2^4=16:=rfl
   rw [this]
   omega
  have e2:smG (t.1.nat/2^a) (gp (aC hs) t.2)=smG (16*(t.1.nat/2^(a+4))) (gp (aC hs) t.2)+smG (t.1.nat/2^a%16) (gp (aC hs) t.2):=by
   rw [<-PY,<-e]
  rw [e2]
  ac_rfl
theorem aCh (l:List Tm):ld (vG hs 0 l)=ld (tG hs l):=by
 unfold vG tG
 congr 1
 apply List.map_congr_left
 intro t _
 rw [Nat.pow_zero,Nat.div_one]
theorem ayR {O:Pt} (h:onB s O=true):onB s (aGi s O)=true/\gp (aC hs) (aGi s O)=smG 16 (gp (aC hs) O):=by
 have step:∀ {P:Pt} {n:Nat},onB s P=true/\gp (aC hs) P=smG n (gp (aC hs) O)->onB s (fO s P P)=true/\gp (aC hs) (fO s P P)=smG (n+n) (gp (aC hs) O):=λ⟨o,e⟩=>
  ⟨(nN o o).2,by rw [J7 hs o o,e,<-PY]⟩
 exact step (step (step (step (n:=1) ⟨h,(Uf _).symm⟩)))
theorem aEN {l:List Tm} {i n k:Nat} (h:oH l (i:Int) n k<0):∀ j,k<=j->j<k+n->rl (l.getD j lg).1 (i:Int)=false:=by
 induction n generalizing k with
 |zero=>intro j h1 h2;omega
 |succ n ih=>
  intro j h1 h2
  unfold oH at h
  cases hb:rl (l.getD k lg).1 (i:Int)
  ·rw [hb] at h
   by_cases e:j=k
   ·rw [e];exact hb
   ·exact ih h j (by omega) (by omega)
  ·rw [hb] at h
   have h:(k:Int)<0:=h
   omega
theorem TW (l:List Tm):∀ n,(∀ j,j<l.length->(l.getD j lg).1.nat<2^n)->∀ j,j<l.length->(l.getD j lg).1.nat<2^anu l n
 |0,h=>h
 |n+1,h=>by
  unfold anu
  cases ha:aE8 l (n:Int)
  ·simp only [aT]
   refine TW l n λj hj=> ?_
   have hf:oH l (n:Int) l.length 0<0:=by
    have:¬(0:Int)<=j7 l (n:Int):=of_decide_eq_false ha
    have:¬(0:Int)<=oH l (n:Int) l.length 0:=this
    omega
   have hb:=aEN hf j (by omega) (by omega)
   have h2:=B9 (l.getD j lg).1 n
   rw [hb] at h2
   have h3:(l.getD j lg).1.nat/2^n%2=0:=by
    have h2:((0:Nat):Int)=(((l.getD j lg).1.nat/2^n%2:Nat):Int):=h2
    exact (Int.ofNat_inj.1 h2).symm
   have h4:=h j hj
   rw [Nat.pow_succ] at h4
   have h5:(l.getD j lg).1.nat/2^n<2:=Nat.div_lt_of_lt_mul h4
   have h6:(l.getD j lg).1.nat/2^n=0:=by
    generalize (l.getD j lg).1.nat/2^n=q at h3 h5
    omega
   rcases Nat.div_eq_zero_iff.1 h6 with h7|h7
   ·have:=Nat.two_pow_pos n;omega
   ·exact h7
  ·exact h
theorem aFe (l:List Tm) {a:Nat} (h:Zp l<=a):ld (vG hs a l)=0:=by
 have hall:=TW l 256 λj _=>jj _
 have hz:∀ t ∈ l,t.1.nat/2^a=0:=λt ht=>by
  obtain ⟨j,hj,rfl⟩:=List.getElem_of_mem ht
  have:=hall j hj
  rw [iu hj] at this
  exact Nat.div_eq_of_lt (Nat.lt_of_lt_of_le this (Nat.pow_le_pow_right (by decide) h))
 clear hall h
 induction l with
 |nil=>rfl
 |cons t l ih=>
  show smG (t.1.nat/2^a) (gp (aC hs) t.2)+ld (vG hs a l)=0
  rw [hz t (List.mem_cons_self ..),aan,ih λu hu=>hz u (List.mem_cons_of_mem _ hu),oC]
theorem aeq {l:List Tm} (ha:cv s l=true):∀ n,n<=re l+1->onB s (upto (nX s l (re l)) aM n)=true/\gp (aC hs) (upto (nX s l (re l)) aM n)=ld (vG hs (4*(re l+1-n)) l)
 |0,_=>by
  refine ⟨vC hs,(NX hs).trans (aFe hs l ?_).symm⟩
  unfold re
  omega
 |n+1,h=>by
  obtain ⟨h1,h2⟩:=aeq ha n (by omega)
  show onB s (nX s l (re l) n (upto (nX s l (re l)) aM n))=true/\gp (aC hs) (nX s l (re l) n (upto (nX s l (re l)) aM n))=_
  generalize upto (nX s l (re l)) aM n=O at*
  unfold nX
  have e:4*(re l:Int)-4*(n:Int)=((4*(re l+1-(n+1)):Nat):Int):=by omega
  rw [e]
  obtain ⟨d1,d2⟩:=ayR hs h1
  obtain ⟨b1,b2⟩:=ay6 hs ha ((4*(re l+1-(n+1)):Nat):Int)
  refine ⟨(nN d1 b1).2,?_⟩
  rw [J7 hs d1 b1,d2,b2,h2,<-aCi hs l (4*(re l+1-(n+1))),show 4*(re l+1-n)=4*(re l+1-(n+1))+4 by omega]
theorem aCR {l:List Tm} (ha:cv s l=true):onB s (AF s l)=true/\gp (aC hs) (AF s l)=ld (tG hs l):=by
 unfold AF
 cases aGX l
 ·obtain ⟨h1,h2⟩:=aeq hs ha (re l+1) (Nat.le_refl _)
  rw [Nat.sub_self,Nat.mul_zero,aCh] at h2
  exact ⟨h1,h2⟩
 ·exact akq hs ha
end
section
variable {s:Int} (hs:ac s=true)
theorem awG (k:ab) (x:Gs hs):smG (F2 s k).nat x=smG k.nat x:=by
 rw [Un hs,show (ofP (pS (ay s 1)) k).nat=k.nat%pS (ay s 1) from cr (eK (bF hs)),wN hs]
theorem auf (l:List Tm):cv s (wC s l)=cv s l:=by
 unfold cv wC
 rw [List.all_map]
 rfl
theorem aFs (l:List Tm):ld (tG hs (wC s l))=ld (tG hs l):=by
 induction l with
 |nil=>rfl
 |cons t l ih=>
  show smG (F2 s t.1).nat (gp (aC hs) t.2)+ld (tG hs (wC s l))=smG t.1.nat (gp (aC hs) t.2)+ld (tG hs l)
  rw [ih,awG hs]
theorem Ie {l:List Tm} (ha:cv s l=true):onB s (AF s (wC s l))=true/\gp (aC hs) (AF s (wC s l))=ld (tG hs l):=by
 obtain ⟨h1,h2⟩:=aCR hs (l:=wC s l) (by rw [auf];exact ha)
 exact ⟨h1,h2.trans (aFs hs l)⟩
theorem rX (l r:List Tm):ld (tG hs (l++r))=ld (tG hs l)+ld (tG hs r):=by
 unfold tG
 rw [List.map_append,xN]
end
theorem Ot {p:mf} (h:(cR p==0)=true) (l:List ab) (b:ab) (hl:l.length<=p.2.2.1.length):ac p.1=true/\cv p.1 (Sj p l b)=true:=by
 have hG:p.2.2.1.any (wF p.1)=false/\wF p.1 p.2.2.2.1=false/\ac p.1=true:=by
  unfold cR at h
  cases h1:ac p.1
  ·rw [h1] at h;cases h
  ·rw [h1] at h
   by_cases h2:p.2.1<0
   ·rw [ag h2] at h;cases h
   ·rw [bq h2] at h
    by_cases h3:5<p.2.1
    ·rw [ag h3] at h;cases h
    ·rw [bq h3] at h
     cases h4:(p.2.2.1.length:Int)==VM 1 p.2.1
     ·rw [h4] at h;cases h
     ·rw [h4] at h
      cases h5:p.2.2.1.any (wF p.1)
      ·rw [h5] at h
       cases h6:wF p.1 p.2.2.2.1
       ·exact ⟨rfl,rfl,rfl⟩
       ·rw [h6] at h;cases h
      ·rw [h5] at h;cases h
 obtain ⟨hG,hW,hs⟩:=hG
 have bad:∀ {P:Pt},wF p.1 P=false->onB p.1 P=true:=λ{P} hb=>by
  unfold wF at hb
  cases ho:onB p.1 P
  ·rw [ho] at hb;cases h2:P.2.2<;>rw [h2] at hb<;>cases hb
  ·rfl
 refine ⟨hs,?_⟩
 have go:∀ n,n<=l.length->cv p.1 (upto (rI p.2.2.1 l) [(b,p.2.2.2.1)] n)=true:=by
  intro n
  induction n with
  |zero=>
   intro _
   show cv p.1 [(b,p.2.2.2.1)]=true
   unfold cv
   rw [aA,bad hW]
   rfl
  |succ n ih=>
   intro hn
   show cv p.1 (upto (rI p.2.2.1 l) [(b,p.2.2.2.1)] n++ [_])=true
   have h1:=ih (by omega)
   unfold cv at h1⊢
   have hk:n<p.2.2.1.length:=by omega
   have e3:p.2.2.1.getD n jI=p.2.2.1[n]:=by rw [fP,m4 hk];rfl
   have hb:wF p.1 p.2.2.1[n]=false:=by
    have:=List.any_eq_false.1 hG _ (List.getElem_mem hk)
    simpa using this
   rw [List.all_append,h1,aA,e3,bad hb]
   rfl
 exact go _ (Nat.le_refl _)
section
variable {s:Int} (hs:ac s=true)
end
end
section
open Sx Go Lean.Grind
section
variable {p b:Nat} {c:Cur p b}
instance:Sub (Gp c):=⟨λx y=>x+ -y⟩
instance:AddCommGroup (Gp c) where
 add_zero:=oC
 add_comm:=WA
 add_assoc:=acs
 neg_add_cancel x:=(WA _ _).trans (aHA x)
 sub_eq_add_neg _ _:=rfl
end
section
variable {s:Int} (hs:ac s=true)
noncomputable instance:IntModule (Gs hs) where
 nsmul:=⟨smG⟩
 zsmul:=⟨λn x=>smG (n%(pS (ay s 1):Int)).toNat x⟩
 zero_zsmul x:=(wN hs 0 x).trans (aan x)
 one_zsmul x:=(wN hs 1 x).trans (Uf x)
 add_zsmul m n x:=by
  have hq:(pS (ay s 1):Int)≠0:=by have:=eK (bF hs);omega
  show smG ((m+n)%(pS (ay s 1):Int)).toNat x=smG (m%(pS (ay s 1):Int)).toNat x+smG (n%(pS (ay s 1):Int)).toNat x
  rw [<-PY,<-wN hs (_+_),Int.add_emod]
  obtain ⟨a,ha⟩:=Int.eq_ofNat_of_zero_le (Int.emod_nonneg m hq)
  obtain ⟨b,hb⟩:=Int.eq_ofNat_of_zero_le (Int.emod_nonneg n hq)
  rw [ha,hb]
  rfl
 zsmul_natCast_eq_nsmul n x:=wN hs n x
abbrev Zs (s:Int):Type:=Fin (pS (ay s 1))
variable [NeZero (pS (ay s 1))]
noncomputable def mA:Ipa.Lin (Zs s) (Gs hs) where
 act a x:=smG a.val x
 n8 a b x:=by rw [Fin.val_add,wN hs,PY]
 q9 a x y:=az8 _ x y
 li a b x:=by rw [Fin.val_mul,wN hs,PX]
 apW x:=(wN hs 1 x).trans (Uf x)
def sc (s:Int) [NeZero (pS (ay s 1))] (e:ab):Zs s:=Fin.ofNat _ e.nat
theorem rj (e:ab) (x:Gs hs):(mA hs).act (sc s e) x=smG e.nat x:=wN hs _ x
include hs in
theorem ri (x y:ab):sc s (dr (pS (ay s 1)) x y)=sc s x+sc s y:=by
 unfold sc
 rw [show (dr (pS (ay s 1)) x y).nat=(x.nat+y.nat)%pS (ay s 1) from cr (eK (bF hs))]
 refine Fin.ext ?_
 simp only [Fin.val_ofNat,Fin.val_add,Nat.mod_mod,Nat.add_mod]
include hs in
theorem mn (x y:ab):sc s (aR (pS (ay s 1)) x y)=sc s x*sc s y:=by
 unfold sc
 rw [show (aR (pS (ay s 1)) x y).nat=x.nat*y.nat%pS (ay s 1) from cr (eK (bF hs))]
 refine Fin.ext ?_
 simp only [Fin.val_ofNat,Fin.val_mul,Nat.mod_mod,<-Nat.mul_mod]
end
end
section
open Sx Go
set_option maxRecDepth 100000
def shB (b:UInt8) (k:Int):UInt64:=cC (UInt8.toUInt64 b) k
def anN (b0 b1 b2 b3 b4 b5 b6 b7:UInt8):UInt64:=(((((((0|||shB b0 0)|||shB b1 8)|||shB b2 16)|||shB b3 24)|||shB b4 32)|||shB b5 40)|||shB b6 48)|||shB b7 56
theorem aCY (b:UInt8) {k:Nat} (hk:k<8):(shB b ((8*k:Nat):Int)).toNat=b.toNat*2^(8*k):=by
 have hb:=b.toNat_lt
 have h:=HZ (UInt8.toUInt64 b) ((8*k:Nat):Int) (by omega)
 unfold shB
 have e1:(UInt8.toUInt64 b).toNat=b.toNat:=rfl
 rw [e1,cB,show min (8*k) 64=8*k by omega] at h
 have hlt:b.toNat*2^(8*k)<18446744073709551616:=by
  have h1:2^(8*k)<=2^56:=Nat.pow_le_pow_right (by decide) (by omega)
  have h2:=Nat.mul_le_mul (show b.toNat<=255 by omega) h1
  have:255*2^56<18446744073709551616:=by decide
  omega
 have h2:((b.toNat*2^(8*k):Nat):Int)%18446744073709551616=((cC (UInt8.toUInt64 b) ((8*k:Nat):Int)).toNat:Int):=by
  rw [<-h,Int.natCast_mul,Int.natCast_pow]
  rfl
 omega
theorem aFF {x:Nat} {b:UInt8} {k:Nat} (hx:x<2^(8*k)):x|||(b.toNat*2^(8*k))=x+b.toNat*2^(8*k):=by
 rw [Nat.or_comm,<-Nat.shiftLeft_eq,<-Nat.shiftLeft_add_eq_or_of_lt hx b.toNat,Nat.add_comm]
theorem ny {w:UInt64} {b:UInt8} {n k:Nat} (hk:k<8) (hw:w.toNat=n) (hn:n<2^(8*k)):(w|||shB b ((8*k:Nat):Int)).toNat=n+b.toNat*2^(8*k):=by
 rw [UInt64.toNat_or,aCY b hk,hw,aFF hn]
theorem ajJ (b0 b1 b2 b3 b4 b5 b6 b7:UInt8):(anN b0 b1 b2 b3 b4 b5 b6 b7).toNat=
 b0.toNat+b1.toNat*256+b2.toNat*65536+b3.toNat*16777216+b4.toNat*4294967296+b5.toNat*1099511627776+b6.toNat*281474976710656+b7.toNat*72057594037927936:=by
 have h0:=b0.toNat_lt
 have h1:=b1.toNat_lt
 have h2:=b2.toNat_lt
 have h3:=b3.toNat_lt
 have h4:=b4.toNat_lt
 have h5:=b5.toNat_lt
 have h6:=b6.toNat_lt
 have h7:=b7.toNat_lt
 have s0:=ny (w:=0) (b:=b0) (n:=0) (k:=0) (by omega) rfl (by decide)
 have s1:=ny (b:=b1) (k:=1) (by omega) s0 (by simp;omega)
 have s2:=ny (b:=b2) (k:=2) (by omega) s1 (by simp;omega)
 have s3:=ny (b:=b3) (k:=3) (by omega) s2 (by simp;omega)
 have s4:=ny (b:=b4) (k:=4) (by omega) s3 (by simp;omega)
 have s5:=ny (b:=b5) (k:=5) (by omega) s4 (by simp;omega)
 have s6:=ny (b:=b6) (k:=6) (by omega) s5 (by simp;omega)
 have s7:=ny (b:=b7) (k:=7) (by omega) s6 (by simp;omega)
 refine s7.trans ?_
 simp
def Er (w:UInt64) (k:Nat):UInt8:=UInt64.toUInt8 (bC w ((8*k:Nat):Int))
theorem jD (w:UInt64) {k:Nat} (hk:k<8):(Er w k).toNat=w.toNat/2^(8*k)%256:=by
 have h:=HX w ((8*k:Nat):Int) (by omega)
 unfold Er
 rw [cB,show min (8*k) 64=8*k by omega] at h
 have e:(bC w ((8*k:Nat):Int)).toNat=w.toNat/2^(8*k):=by
  have h2:((w.toNat:Int).fdiv (2^(8*k)))=((w.toNat/2^(8*k):Nat):Int):=by
   rw [Int.fdiv_eq_ediv_of_nonneg _ (by exact Int.pow_nonneg (by omega))]
   rw [Int.natCast_ediv,Int.natCast_pow]
   rfl
  rw [h2] at h
  exact (Int.ofNat_inj.1 h).symm
 rw [UInt64.toNat_toUInt8,e]
theorem ajG (w:UInt64):anN (Er w 0) (Er w 1) (Er w 2) (Er w 3) (Er w 4) (Er w 5) (Er w 6) (Er w 7)=w:=by
 apply UInt64.toNat_inj.1
 rw [ajJ,jD w (by omega),jD w (by omega),jD w (by omega),jD w (by omega),jD w (by omega),jD w (by omega),jD w (by omega),jD w (by omega)]
 have:=w.toNat_lt
 simp
 omega
def gB (b:List UInt8) (k:Nat):UInt8:=b.getD k 0
def ajH (b:List UInt8) (j:Nat):UInt64:=anN (gB b j) (gB b (j+1)) (gB b (j+2)) (gB b (j+3)) (gB b (j+4)) (gB b (j+5)) (gB b (j+6)) (gB b (j+7))
theorem ala (b:List UInt8):Nw b=⟨ajH b 0,ajH b 8,ajH b 16,ajH b 24⟩:=by kernel_rfl
theorem jx (e:ab) (q r:Nat) (hr:r<8):aGb e (8*q+r)=Er ((lst e).getD q 0) r:=by
 unfold aGb Er
 rw [show (8*q+r)/8=q by omega,show (8*q+r)%8=r by omega]
 rfl
theorem BA (e:ab) (k:Nat) (hk:k<32):gB (zw e) k=aGb e k:=by
 unfold gB
 rw [ayG,fP,List.getElem?_map,List.getElem?_range hk]
 rfl
theorem An (e:ab) (q:Nat) (hq:q<4):ajH (zw e) (8*q)=(lst e).getD q 0:=by
 unfold ajH
 rw [BA e _ (by omega),BA e _ (by omega),BA e _ (by omega),BA e _ (by omega),BA e _ (by omega),BA e _ (by omega),BA e _ (by omega),BA e _ (by omega)]
 rw [show 8*q=8*q+0 from rfl,jx e q 0 (by omega),Nat.add_zero,jx e q 1 (by omega),jx e q 2 (by omega),jx e q 3 (by omega),jx e q 4 (by omega),jx e q 5 (by omega),jx e q 6 (by omega),jx e q 7 (by omega)]
 exact ajG _
theorem ap1 (e:ab):Nw (zw e)=e:=by
 rw [ala]
 have h0:=An e 0 (by omega)
 have h1:=An e 1 (by omega)
 have h2:=An e 2 (by omega)
 have h3:=An e 3 (by omega)
 rw [show (0:Nat)=8*0 from rfl,h0,show (8:Nat)=8*1 from rfl,h1,show (16:Nat)=8*2 from rfl,h2,show (24:Nat)=8*3 from rfl,h3]
 rfl
theorem ay9:∀ n:Fin 128,UInt8.ofNat n&&&127=UInt8.ofNat n/\(UInt8.ofNat n>>>7==0)=true/\(UInt8.ofNat n|||128)&&&127=UInt8.ofNat n/\((UInt8.ofNat n|||128)>>>7==0)=false:=by decide+kernel
theorem aCo (x:UInt8):UInt8.ofNat x.toNat=x:=UInt8.ofNat_toNat
theorem atN (x:UInt8) (h:x.toNat<128):x&&&127=x/\(x>>>7==0)=true/\(x|||128)&&&127=x/\((x|||128)>>>7==0)=false:=by
 have:=ay9 ⟨x.toNat,h⟩
 rw [aCo] at this
 exact this
theorem ay1 {e:ab} (h:e.nat<57896044618658097711785492504343953926634992332820282019728792003956564819968):((zw e).getD 31 0).toNat<128:=by
 have h1:(zw e).getD 31 0=Er ((lst e).getD 3 0) 7:=(BA e 31 (by omega)).trans (jx e 3 7 (by omega))
 rw [h1,jD _ (by omega)]
 have h2:((lst e).getD 3 0)=e.w3:=rfl
 rw [h2]
 have h3:e.w3.toNat<9223372036854775808:=by unfold Sx.ab.nat at h;omega
 have:e.w3.toNat/2^(8*7)<128:=by
  rw [show (2:Nat)^(8*7)=72057594037927936 from rfl]
  omega
 omega
theorem apZ (y:ab):(y.w0%2==1)=Nat.beq (y.nat%2) 1:=by
 have e:y.nat%2=y.w0.toNat%2:=by unfold Sx.ab.nat;omega
 rw [e]
 have h2:(y.w0%2).toNat=y.w0.toNat%2:=by rw [UInt64.toNat_mod];rfl
 rw [<-h2]
 by_cases h:y.w0%2=1
 ·rw [h];rfl
 ·have hn:¬(y.w0%2).toNat=1:=λe=>h (UInt64.toNat_inj.1 e)
  have:Nat.beq (y.w0%2).toNat 1=false:=by
   cases hb:Nat.beq (y.w0%2).toNat 1
   ·rfl
   ·exact absurd (aY hb) hn
  rw [this]
  simpa using h
theorem ax3 {b:List UInt8} (h:b.length=32) (x:UInt8):(b.set 31 x).getD 31 0=x:=by
 rw [fP,List.getElem?_set_self (by omega)]
 rfl
theorem afY {b:List UInt8} (h:b.length=32):b.set 31 (b.getD 31 0)=b:=by
 rw [fP,m4 (by omega)]
 exact List.set_getElem_self _
theorem awE {e:ab} (h:e.nat<57896044618658097711785492504343953926634992332820282019728792003956564819968) (y:ab):(rZ (zw e) y).length=32/\age (rZ (zw e) y)=e/\Vl (rZ (zw e) y)=Nat.beq (y.nat%2) 1:=by
 have hl:=j9 e
 have ht:=atN _ (ay1 h)
 have hn:=ap1 e
 generalize zw e=B at*
 refine ⟨(cy ..).trans hl,?_⟩
 rcases (b9 (y.w0%2==1)).symm with hy|hy
 ·rw [ao0 hy hl,<-apZ,hy]
  unfold age Vl
  rw [ht.1,afY hl,ht.2.1]
  exact ⟨hn,rfl⟩
 ·rw [awD hy,<-apZ,hy]
  unfold age Vl
  rw [ax3 hl,ht.2.2.1,ht.2.2.2,List.set_set,afY hl]
  exact ⟨hn,rfl⟩
theorem axb {p:Nat} {e:ab} (h:e.nat<p):ofP p e=e:=by
 unfold ofP
 rw [bm h,A5]
section
variable {s:Int} (hs:ac s=true)
include hs
theorem aDm {X Y:ab} (h:onB s (X,Y,false)=true):sqB s X=true/\bB X=false/\ptD s X (Nat.beq (Y.nat%2) 1)=(X,Y,false):=by
 have k:=HV hs
 have hp:=k.sm
 have pr:=k.pr
 have ho:=k.o2
 obtain ⟨hx,hy,hv⟩:=(aAl hs).1 h
 have hA:=(aFv hs X).1
 have hz:=awB hs X
 have hy0:Y.nat≠0:=λe=>hz (by rw [<-hv,e,Nat.zero_mul,Nat.zero_mod])
 have hq:sqB s X=true:=by
  unfold sqB
  rw [zu,jL hp pr.1,k.hf,<-hv,gI,<-Nat.pow_two,<-Nat.pow_mul,show 2*((pS s-1)/2)=pS s-1 by omega,Fy pr (lF (by omega) hy)]
  rfl
 refine ⟨hq,?_,?_⟩
 ·rcases (b9 (bB X)).symm with h0|h0
  ·exact h0
  ·rw [zero_eq h0,afH hs] at hq
   cases hq
 ·obtain ⟨r1,r2,r3⟩:=aFt hs hq
  rw [bm hA] at r3
  have r0:(sqY s X).nat≠0:=λe=>hz (by rw [<-r3,e,Nat.zero_mul,Nat.zero_mod])
  unfold ptD
  rcases (show Y.nat%2=0\/Y.nat%2=1 by omega) with hm|hm
  ·rw [hm]
   have:sqY s X=Y:=gF (KD pr ho r1 hy r2 hm (r3.trans hv.symm))
   rw [<-this]
   rfl
  ·rw [hm]
   have e:(sqY s X).nat=pS s-Y.nat:=KD pr ho r1 (by omega) r2 (by omega) (by rw [r3,ald hy,hv])
   have:kW (pS s) (sqY s X)=Y:=gF (by rw [aFO hs r1 r0,e];omega)
   rw [<-this]
   rfl
theorem aDN:jJ s aM=List.replicate 32 0/\onB s aM=true:=by
 rcases cb hs with rfl|rfl|rfl|rfl<;>decide+kernel
theorem aDO:Td s (List.replicate 32 0)=(aM,0):=by
 rcases cb hs with rfl|rfl|rfl|rfl<;>kernel_rfl
end
theorem aEh {s:Int} {P:Pt} (h:onB s P=true):jJ s P=rZ (zw (ofP (pS s) P.1)) P.2.1:=by
 unfold jJ
 rw [h,aK]
theorem asA {s:Int} {P:Pt} {X Y:ab} (h:onB s P=true) (hX:P.1=X) (hY:P.2.1=Y) (hx:X.nat<pS s):jJ s P=rZ (zw X) Y:=by
 rw [aEh h,hX,hY,axb hx]
section
variable {s:Int} {b:List UInt8} {N:ab} {o:Bool} (hs:ac s=true) (hl:m6 b=true) (hN:age b=N) (hb:Nat.blt N.nat (pS s)=true)
include hs hl hN hb
theorem asJ (ho:Vl b=o) (hz:bB N=false) (hq:sqB s N=true):Td s b=(ptD s N o,0):=by
 unfold Td
 simp only [hs,hl,hN,hb,ho,hz,hq,aK,aT]
end
theorem aEr {s:Int} {P:Pt} (h:onB s P=true):Td s (jJ s P)=(P,0)/\(jJ s P).length=32:=by
 have hs:=vg h
 have hp:Sm (pS s):=eK hs
 obtain ⟨X,Y,i⟩:=P
 cases i
 ·obtain ⟨hx,hy,hv⟩:=(aAl hs).1 h
  obtain ⟨g1,g2,g3⟩:=aDm hs h
  obtain ⟨l1,l2,l3⟩:=awE (Nat.lt_trans hx hp.2) Y
  have e:jJ s (X,Y,false)=rZ (zw X) Y:=asA h rfl rfl hx
  rw [e]
  exact ⟨(asJ hs (sQ.2 l1) l2 (jR hx) l3 g2 g1).trans (by rw [g3]),l1⟩
 ·have e:((X,Y,true):Pt)=aM:=by
   unfold onB at h
   rw [hs] at h
   simp only [aK,aw] at h
   rw [zero_eq h.1,zero_eq h.2.1]
   rfl
  rw [e,(aDN hs).1]
  exact ⟨aDO hs,rfl⟩
theorem J2 {c:Int} {P:Pt} (h:onB c P=true) (m:List UInt8):dw c (jJ c P++m)=((P,0),m):=by
 obtain ⟨h1,h2⟩:=aEr h
 generalize jJ c P=B at*
 unfold dw
 have e1:(B++m).take 32=B:=by rw [<-h2,List.take_left]
 have e2:(B++m).drop 32=m:=by rw [<-h2,List.drop_left]
 rw [e1,e2,bq (by rw [bK,h2];omega),h1]
 rfl
theorem Wr {c:Int} (hs:ac (ay c 1)=true) (v:ab) (m:List UInt8):dP (ay c 1) (lC c v++m)=((ofP (pS (ay c 1)) v,0),m):=by
 have h2:(lC c v).length=32:=EY c v
 have h1:avs (ay c 1) (lC c v)=(ofP (pS (ay c 1)) v,0):=by
  have hn:Nw (lC c v)=ofP (pS (ay c 1)) v:=ap1 (ofP (pS (ay c 1)) v)
  have hp:=eK hs
  have hl:(ofP (pS (ay c 1)) v).nat<pS (ay c 1):=by
   rw [show (ofP (pS (ay c 1)) v).nat=v.nat%pS (ay c 1) from cr hp]
   exact Nat.mod_lt _ hp.1
  have hb:Nat.blt (ofP (pS (ay c 1)) v).nat (pS (ay c 1))=true:=jR hl
  unfold avs
  rw [hs,sQ.2 h2,hn,hb]
  rfl
 generalize lC c v=B at*
 unfold dP
 have e1:(B++m).take 32=B:=by rw [<-h2,List.take_left]
 have e2:(B++m).drop 32=m:=by rw [<-h2,List.drop_left]
 rw [e1,e2,bq (by rw [bK,h2];omega),h1]
 rfl
def rU (s:Int) (q:Cu):ab:=dr (pS s) (ao q.2.1).1 ⟨0,0,0,0⟩
def rL (q:Cu):Pt:=avq q.1 (ao q.2.2.1).1
def rR (q:Cu):Pt:=Rx q.1 (ao (ao q.2.2.1).2.2).1
theorem sj {c s:Int} {q:Cu} (h:((bo c s q).1==0)=true):((ao q.2.1).2.1==0)=true/\bB (rU s q)=false/\
 bo c s q=(0,(QG q.1 (rU s q) (ao q.2.2.1).1 (ao (ao q.2.2.1).2.2).1,((ao q.2.1).2.2,((ao (ao q.2.2.1).2.2).2.2,q.2.2.2++jJ c (rL q)++jJ c (rR q))))):=by
 unfold bo at h⊢
 cases e1:(ao q.2.2.1).2.1==0
 ·rw [e1,aT,e1] at h;cases h
 rw [e1,aK] at h
 cases e2:(ao (ao q.2.2.1).2.2).2.1==0
 ·rw [e2,aT,e2] at h;cases h
 rw [e2,aK] at h
 cases e3:(ao q.2.1).2.1==0
 ·rw [e3,aT,e3] at h;cases h
 rw [e3,aK] at h
 cases e4:bB (dr (pS s) (ao q.2.1).1 ⟨0,0,0,0⟩)
 ·exact ⟨rfl,e4,rfl⟩
 ·rw [e4,aK] at h;cases h
abbrev avv:Type:=ab×(List ab×List Tm)
def avu (s:Int) (x:ab) (k:Int) (q:Cu) (w:avv):avv:=
 (aR (pS s) w.1 (dr (pS s) ⟨1,0,0,0⟩ (aR (pS s) (rU s q) (ln (pS s) x ⟨cC 1 k,0,0,0⟩))),(w.2.1++ [rU s q],w.2.2++ [(CC (pS s) (rU s q),rL q),(rU s q,rR q)]))
theorem aay {c s:Int} {q:Cu} (h:((bo c s q).1==0)=true) (hl:onB c (rL q)=true) (hr:onB c (rR q)=true) (x:ab) (k:Int) (m:List UInt8) (w:avv):
 ca s c x k (jJ c (rL q)++(jJ c (rR q)++m),(q.2.1,w))=(0,(m,((ao q.2.1).2.2,avu s x k q w))):=by
 obtain ⟨h1,h2,_⟩:=sj h
 unfold ca
 have e1:=J2 hl (jJ c (rR q)++m)
 have e2:=J2 hr m
 dsimp only
 rw [e1]
 dsimp only
 rw [e2,h1,show bB (dr (pS s) (ao q.2.1).1 ⟨0,0,0,0⟩)=false from h2]
 rfl
def Gd (c s:Int) (x:ab):Nat->Cu->avv->avv
 |0,_,w=>w
 |n+1,q,w=>Gd c s x n (bo c s q).2 (avu s x (n:Int) q w)
theorem E4 {c s:Int} (x:ab):∀ (n:Nat) (q:Cu),eY c s n q=true->((aX c s n q).1==0)=true->q.1.2.2.2.1.length=2^n->
 ∃ W,(aX c s n q).2.2.2.2=q.2.2.2++W/\∀ m w,dT s c x n (W++m,(q.2.1,w))=(0,(m,((aX c s n q).2.2.1,Gd c s x n q w)))
 |0,q,_,_,_=>⟨[],(List.append_nil _).symm,λm w=>rfl⟩
 |n+1,q,hok,h,hn=>by
  have h1:1<q.1.2.2.2.1.length:=by rw [hn,Nat.pow_succ];have:=Nat.two_pow_pos n;omega
  unfold eY at hok
  rw [ag h1,aK,aw] at hok
  unfold aX at h⊢
  rw [ag h1,aK] at h⊢
  cases h2:(bo c s q).1==0
  ·rw [h2,aT,h2] at h;cases h
  rw [h2,aK] at h hok
  rw [aK]
  have hro:=hok.1
  unfold pA at hro
  simp only [aw] at hro
  obtain ⟨_,_,_,_,_,_,hl,hr⟩:=hro
  obtain ⟨_,_,e⟩:=sj h2
  obtain ⟨W,hW,hv⟩:=E4 x n (bo c s q).2 hok.2 h (by
   rw [e]
   show (qt _ q.1.2.2.2.1 _).length=_
   rw [BJ,hn,Nat.pow_succ,Nat.mul_div_cancel _ (by decide)])
  refine ⟨jJ c (rL q)++(jJ c (rR q)++W),?_,λm w=> ?_⟩
  ·rw [hW,e]
   simp only [List.append_assoc]
  ·have e3:=aay h2 hl hr x (n:Int) (W++m) w
   unfold dT
   simp only [List.append_assoc]
   rw [e3]
   show dT s c x n (W++m,((ao q.2.1).2.2,avu s x (n:Int) q w))=_
   rw [show (ao q.2.1).2.2=(bo c s q).2.2.1 by rw [e],hv]
   rfl
end
section
open Sx Go Lean.Grind
theorem Gj {α:Type} (f:Nat->α) (l:List α):∀ n,n<=l.length->upto (λi (o:List α)=>o.set i (f i)) l n=(List.range n).map f++l.drop n
 |0,_=>rfl
 |n+1,h=>by
  show List.set (upto _ l n) n (f n)=_
  rw [Gj f l n (by omega),List.set_append_right _ _ (by rw [List.length_map,List.length_range];omega),List.length_map,List.length_range,Nat.sub_self,mZ (by omega:n<l.length),List.set_cons_zero,List.range_succ,List.map_append,List.append_assoc]
  rfl
theorem arO (m:Nat) (a:List ab) (k:ab):qt m a k=(List.range (a.length/2)).map λi=>dr m (a.getD i ⟨0,0,0,0⟩) (aR m k (a.getD (a.length/2+i) ⟨0,0,0,0⟩)):=by
 unfold qt
 refine (Gj (λi=>dr m (a.getD i ⟨0,0,0,0⟩) (aR m k (a.getD (a.length/2+i) ⟨0,0,0,0⟩))) _ _ (by rw [fW];exact Nat.le_refl _)).trans ?_
 rw [List.drop_of_length_le (by rw [fW];exact Nat.le_refl _),List.append_nil]
theorem axZ (c:Int) (g:List Pt) (u:ab) (h:Nat):DV c g u h (List.replicate h jI)=(List.range h).map λi=>fO c (g.getD i jI) (pN c u (g.getD (h+i) jI)):=by
 unfold DV
 refine (Gj (λi=>fO c (g.getD i jI) (pN c u (g.getD (h+i) jI))) _ _ (by rw [fW];exact Nat.le_refl _)).trans ?_
 rw [List.drop_of_length_le (by rw [fW];exact Nat.le_refl _),List.append_nil]
section
variable {R M:Type} [CommRing R] [IntModule M] (L:Ipa.Lin R M)
theorem WR (k:R):∀ {h:Nat} {a b:List R},a.length=h->b.length=h->Ipa.fol k a b=(List.range h).map λi=>a.getD i 0+k*b.getD i 0
 |0,[],[],_,_=>rfl
 |h+1,x::a,y::b,h1,h2=>by
  rw [Ipa.fol,WR k (Nat.succ.inj h1) (Nat.succ.inj h2),List.range_succ_eq_map,List.map_cons,List.map_map]
  rfl
theorem N7 (k:R):∀ {h:Nat} {a b:List M},a.length=h->b.length=h->Ipa.arP L k a b=(List.range h).map λi=>a.getD i 0+L.act k (b.getD i 0)
 |0,[],[],_,_=>rfl
 |h+1,x::a,y::b,h1,h2=>by
  rw [Ipa.arP,N7 k (Nat.succ.inj h1) (Nat.succ.inj h2),List.range_succ_eq_map,List.map_cons,List.map_map]
  rfl
end
section
variable {s:Int} (hs:ac s=true) [NeZero (pS (ay s 1))]
theorem getD_map {α β:Type} (f:α->β) (l:List α) (i:Nat) (d:α) (e:β) (h:i<l.length):(l.map f).getD i e=f (l.getD i d):=by
 rw [iu (by rw [List.length_map];exact h),iu h,List.getElem_map]
theorem NY {α:Type} (l:List α) (i h:Nat) (d:α) (hi:i<h):(l.take h).getD i d=l.getD i d:=by
 rw [fP,fP,List.getElem?_take_of_lt hi]
theorem NZ {α:Type} (l:List α) (i h:Nat) (d:α):(l.drop h).getD i d=l.getD (h+i) d:=by
 rw [fP,fP,List.getElem?_drop]
include hs in
theorem acE {a:List ab} {h:Nat} (ha:a.length=2*h) (k:ab):(qt (pS (ay s 1)) a k).map (sc s)=Ipa.fol (sc s k) ((a.take h).map (sc s)) ((a.drop h).map (sc s)):=by
 rw [arO,WR (h:=h) _ (by rw [List.length_map,bQ];omega) (by rw [List.length_map,cq];omega),List.map_map,show a.length/2=h by omega]
 refine List.map_congr_left λi hi=> ?_
 have hi:=List.mem_range.1 hi
 rw [getD_map (sc s) (a.take h) i ⟨0,0,0,0⟩ 0 (by rw [bQ];omega),getD_map (sc s) (a.drop h) i ⟨0,0,0,0⟩ 0 (by rw [cq];omega),NY _ _ _ _ hi,NZ,<-mn hs,<-ri hs]
 rfl
theorem J6 {g:List Pt} {h:Nat} (hg:g.length=2*h) (ho:(g.all λP=>onB s P)=true) (u:ab):
 ((DV s g u h (List.replicate h jI)).all λP=>onB s P)=true/\(DV s g u h (List.replicate h jI)).map (gp (aC hs))=Ipa.arP (mA hs) (sc s u) ((g.take h).map (gp (aC hs))) ((g.drop h).map (gp (aC hs))):=by
 have on:∀ i,i<g.length->onB s (g.getD i jI)=true:=λi hi=>by
  rw [iu hi];exact List.all_eq_true.1 ho _ (List.getElem_mem hi)
 rw [axZ]
 refine ⟨?_,?_⟩
 ·rw [List.all_map,fX]
  intro i hi
  have hi:=List.mem_range.1 hi
  exact (nN (on i (by omega)) (GG u (on (h+i) (by omega))).2).2
 ·rw [N7 (h:=h) _ _ (by rw [List.length_map,bQ];omega) (by rw [List.length_map,cq];omega),List.map_map]
  refine List.map_congr_left λi hi=> ?_
  have hi:=List.mem_range.1 hi
  rw [getD_map (gp (aC hs)) (g.take h) i jI 0 (by rw [bQ];omega),getD_map (gp (aC hs)) (g.drop h) i jI 0 (by rw [cq];omega),NY _ _ _ _ hi,NZ,rj,<-aAw hs u (on (h+i) (by omega))]
  exact J7 hs (on i (by omega)) (GG u (on (h+i) (by omega))).2
end
end
section
open Sx Go Lean.Grind
theorem uJ {α:Type} (f:Nat->α) (l:List α):∀ n,upto (λi (o:List α)=>o++ [f i]) l n=l++(List.range n).map f
 |0=>(List.append_nil l).symm
 |n+1=>by
  show upto _ l n++ [f n]=_
  rw [uJ f l n,List.range_succ,List.map_append,List.append_assoc]
  rfl
theorem rM {a:List ab} {g:List Pt} (h:a.length<=g.length):((List.range a.length).map λi=>(a.getD i ⟨0,0,0,0⟩,g.getD i jI))=a.zip g:=by
 refine List.ext_getElem (by rw [List.length_map,List.length_range,List.length_zip];omega) λi h1 h2=> ?_
 rw [List.length_map,List.length_range] at h1
 rw [List.getElem_map,List.getElem_range,List.getElem_zip,iu h1,iu (by omega:i<g.length)]
section
variable {s:Int} (hs:ac s=true) [NeZero (pS (ay s 1))]
theorem R9:∀ (a:List ab) (g:List Pt),ld (tG hs (a.zip g))=Ipa.dot (mA hs) (a.map (sc s)) (g.map (gp (aC hs)))
 | [],_=>rfl
 |_::_,[]=>rfl
 |x::a,P::g=>by
  show smG x.nat (gp (aC hs) P)+ld (tG hs (a.zip g))=_
  rw [R9 a g,<-rj]
  rfl
include hs in
theorem aAt {a b:List ab} (h:a.length<=b.length):∀ n,n<=a.length->sc s (upto (aDL (pS (ay s 1)) a b) gT n)=Ipa.inn ((a.take n).map (sc s)) ((b.take n).map (sc s))
 |0,_=>by
  rw [List.take_zero,List.take_zero]
  exact Fin.ext (Nat.zero_mod _)
 |n+1,hn=>by
  show sc s (dr _ (upto _ gT n) (aR _ (a.getD n ⟨0,0,0,0⟩) (b.getD n ⟨0,0,0,0⟩)))=_
  rw [ri hs,mn hs,aAt h n (by omega),List.take_succ_eq_append_getElem (by omega:n<a.length),List.take_succ_eq_append_getElem (by omega:n<b.length),List.map_append,List.map_append,
   Ipa.DM (by rw [List.length_map,List.length_map,bQ,bQ];omega),iu (by omega:n<a.length),iu (by omega:n<b.length)]
  show _=_+(sc s a[n]*sc s b[n]+0)
  grind
theorem Gr {o:wG} (h1:o.2.1=ay s 1) (h2:o.1.1=s) {a b:List ab} {g:List Pt} {r:ab} (hb:b.length=a.length) (hg:g.length=a.length) (ha:cv s (AL o a b g r)=true):
 onB s (P6 o a b g r)=true/\gp (aC hs) (P6 o a b g r)=Ipa.val (mA hs) (sc s o.2.2.1) (gp (aC hs) o.1.2.2.2.2) (gp (aC hs) o.1.2.2.2.1) (a.map (sc s)) (b.map (sc s)) (g.map (gp (aC hs))) (sc s r):=by
 have e:AL o a b g r= [(aR (pS (ay s 1)) (aDM (pS (ay s 1)) a b) o.2.2.1,o.1.2.2.2.2),(r,o.1.2.2.2.1)]++a.zip g:=by
  unfold AL
  rw [h1,<-rM (show a.length<=g.length by omega)]
  exact uJ (λi=>(a.getD i ⟨0,0,0,0⟩,g.getD i jI)) _ _
 obtain ⟨k1,k2⟩:=Ie hs ha
 unfold P6
 rw [h2]
 refine ⟨k1,k2.trans ?_⟩
 have i1:=aAt hs (show a.length<=b.length by omega) a.length (Nat.le_refl _)
 rw [List.take_length,List.take_of_length_le (by omega)] at i1
 rw [e,rX,R9]
 show smG _ _+(smG _ _+0)+_=_
 unfold Ipa.val
 rw [<-i1,<-rj hs,<-rj hs,mn hs]
 unfold aDM
 rw [oC]
 exact (WA _ _).trans (acs _ _ _).symm
end
end
section
open Sx Go Lean.Grind
section
variable {s:Int} (hs:ac s=true) [NeZero (pS (ay s 1))]
noncomputable def vO (o:wG):Gs hs:=Ipa.val (mA hs) (sc s o.2.2.1) (gp (aC hs) o.1.2.2.2.2) (gp (aC hs) o.1.2.2.2.1) (o.2.2.2.1.map (sc s)) (o.2.2.2.2.1.map (sc s)) (o.2.2.2.2.2.1.map (gp (aC hs))) (sc s o.2.2.2.2.2.2)
theorem axf {o:wG} {h:Nat} (h1:o.2.1=ay s 1) (h2:o.1.1=s) (ha:o.2.2.2.1.length=2*h) (hb:o.2.2.2.2.1.length=2*h) (hg:o.2.2.2.2.2.1.length=2*h) (ho:(o.2.2.2.2.2.1.all λP=>onB s P)=true) (u l r:ab)
 (hu:sc s u*sc s (CC (pS (ay s 1)) u)=1) (hL:cv s (aGU o l)=true) (hR:cv s (axX o r)=true):
 vO hs (QG o u l r)=vO hs o+(mA hs).act (sc s (CC (pS (ay s 1)) u)) (gp (aC hs) (avq o l))+(mA hs).act (sc s u) (gp (aC hs) (Rx o r)):=by
 have eh:o.2.2.2.1.length/2=h:=by omega
 unfold aGU at hL
 unfold axX at hR
 unfold avq Rx
 rw [eh] at hL hR⊢
 have v1:=(Gr hs h1 h2 (by rw [bQ,cq];omega) (by rw [bQ,cq];omega) hL).2
 have v2:=(Gr hs h1 h2 (by rw [bQ,cq];omega) (by rw [bQ,cq];omega) hR).2
 rw [v1,v2]
 have c1:=acE hs ha (CC (pS (ay s 1)) u)
 have c2:=acE hs hb u
 have c3:=(J6 hs hg ho u).2
 have e1:vO hs (QG o u l r)=Ipa.val (mA hs) (sc s o.2.2.1) (gp (aC hs) o.1.2.2.2.2) (gp (aC hs) o.1.2.2.2.1) ((qt (pS (ay s 1)) o.2.2.2.1 (CC (pS (ay s 1)) u)).map (sc s)) ((qt (pS (ay s 1)) o.2.2.2.2.1 u).map (sc s)) ((DV s o.2.2.2.2.2.1 u h (List.replicate h jI)).map (gp (aC hs)))
  (sc s (dr (pS (ay s 1)) o.2.2.2.2.2.2 (dr (pS (ay s 1)) (aR (pS (ay s 1)) (CC (pS (ay s 1)) u) l) (aR (pS (ay s 1)) u r)))):=by
  unfold vO QG
  rw [eh,h1,h2]
 rw [e1,c1,c2,c3,ri hs,ri hs,mn hs,mn hs]
 have key:=Ipa.an2 (mA hs) (sc s u) (sc s (CC (pS (ay s 1)) u)) (sc s o.2.2.1) hu (gp (aC hs) o.1.2.2.2.2) (gp (aC hs) o.1.2.2.2.1) (a0:=(o.2.2.2.1.take h).map (sc s)) (a1:=(o.2.2.2.1.drop h).map (sc s)) (b0:=(o.2.2.2.2.1.take h).map (sc s)) (b1:=(o.2.2.2.2.1.drop h).map (sc s))
  (g0:=(o.2.2.2.2.2.1.take h).map (gp (aC hs))) (g1:=(o.2.2.2.2.2.1.drop h).map (gp (aC hs))) (sc s o.2.2.2.2.2.2) (sc s l) (sc s r)
  (by simp only [List.length_map,bQ,cq];omega) (by simp only [List.length_map,bQ,cq];omega) (by simp only [List.length_map,bQ,cq];omega) (by simp only [List.length_map,bQ,cq];omega) (by simp only [List.length_map,bQ,cq];omega)
 rw [<-List.map_append,<-List.map_append,<-List.map_append,List.take_append_drop,List.take_append_drop,List.take_append_drop] at key
 exact key
end
end
section
open Sx Go
set_option maxRecDepth 100000
section
variable {s:Int} (hs:ac s=true) [NeZero (pS (ay s 1))]
theorem MX (hinv:∀ v:ab,bB (dr (pS (ay s 1)) v ⟨0,0,0,0⟩)=false->sc s (dr (pS (ay s 1)) v ⟨0,0,0,0⟩)*sc s (CC (pS (ay s 1)) (dr (pS (ay s 1)) v ⟨0,0,0,0⟩))=1) (x:ab):
 ∀ (n:Nat) (q:Cu) (w:avv),eY s (ay s 1) n q=true->((aX s (ay s 1) n q).1==0)=true->q.1.2.2.2.1.length=2^n->q.1.1.1=s->(q.1.2.2.2.2.2.1.all λP=>onB s P)=true->
  ld (tG hs (Gd s (ay s 1) x n q w).2.2)+vO hs q.1=ld (tG hs w.2.2)+vO hs (aX s (ay s 1) n q).2.1
 |0,q,w,_,_,_,_,_=>rfl
 |n+1,q,w,hok,h,hn,hc,hg=>by
  have h1:1<q.1.2.2.2.1.length:=by rw [hn,Nat.pow_succ];have:=Nat.two_pow_pos n;omega
  unfold eY at hok
  rw [ag h1,aK,aw] at hok
  unfold aX at h⊢
  rw [ag h1,aK] at h⊢
  cases h2:(bo s (ay s 1) q).1==0
  ·rw [h2,aT,h2] at h;cases h
  rw [h2,aK] at h hok
  rw [aK]
  have hro:=hok.1
  unfold pA at hro
  simp only [aw] at hro
  obtain ⟨hL,_,_,hso,tl,th,_,_⟩:=hro
  obtain ⟨l1,l2,_,_⟩:=_root_.of_decide_eq_true hL
  obtain ⟨_,hz,e⟩:=sj h2
  have hso:=eq_of_beq hso
  rw [hc] at tl th
  have hh:q.1.2.2.2.1.length=2*2^n:=by rw [hn,Nat.pow_succ];omega
  have hv:=axf hs (h:=2^n) hso hc hh (by omega) (by omega) hg (rU (ay s 1) q) (ao q.2.2.1).1 (ao (ao q.2.2.1).2.2).1 (hinv _ hz) tl th
  have ih:=MX hinv x n (bo s (ay s 1) q).2 (avu (ay s 1) x (n:Int) q w) hok.2 h (by
   rw [e]
   show (qt _ q.1.2.2.2.1 _).length=_
   rw [BJ,hh,Nat.mul_div_cancel_left _ (by decide)]) (by rw [e];exact hc) (by
   rw [e]
   show ((DV q.1.1.1 q.1.2.2.2.2.2.1 (rU (ay s 1) q) (q.1.2.2.2.1.length/2) (List.replicate (q.1.2.2.2.1.length/2) jI)).all λP=>onB s P)=true
   rw [hc,show q.1.2.2.2.1.length/2=2^n by omega]
   exact (J6 hs (by omega) hg _).1)
  have e2:(bo s (ay s 1) q).2.1=QG q.1 (rU (ay s 1) q) (ao q.2.2.1).1 (ao (ao q.2.2.1).2.2).1:=by rw [e]
  have e3:ld (tG hs (avu (ay s 1) x (n:Int) q w).2.2)=ld (tG hs w.2.2)+(smG (CC (pS (ay s 1)) (rU (ay s 1) q)).nat (gp (aC hs) (rL q))+(smG (rU (ay s 1) q).nat (gp (aC hs) (rR q))+0)):=rX hs _ _
  rw [e2,hv] at ih
  rw [e3,<-rj hs,<-rj hs,oC] at ih
  show ld (tG hs (Gd s (ay s 1) x n (bo s (ay s 1) q).2 (avu (ay s 1) x (n:Int) q w)).2.2)+vO hs q.1=_
  generalize ld (tG hs (Gd s (ay s 1) x n (bo s (ay s 1) q).2 (avu (ay s 1) x (n:Int) q w)).2.2)=A at*
  generalize vO hs q.1=B at*
  generalize ld (tG hs w.2.2)=C at*
  generalize vO hs (aX s (ay s 1) n (bo s (ay s 1) q).2).2.1=D at*
  have ih:A+(B+(mA hs).act (sc s (CC (pS (ay s 1)) (rU (ay s 1) q))) (gp (aC hs) (rL q))+(mA hs).act (sc s (rU (ay s 1) q)) (gp (aC hs) (rR q)))=C+((mA hs).act (sc s (CC (pS (ay s 1)) (rU (ay s 1) q))) (gp (aC hs) (rL q))+(mA hs).act (sc s (rU (ay s 1) q)) (gp (aC hs) (rR q)))+D:=ih
  generalize (mA hs).act (sc s (CC (pS (ay s 1)) (rU (ay s 1) q))) (gp (aC hs) (rL q))=E at*
  generalize (mA hs).act (sc s (rU (ay s 1) q)) (gp (aC hs) (rR q))=F at*
  refine ag2 (x:=E+F) ?_
  calc E+F+(A+B)=A+(B+E+F):=by ac_rfl
   _=C+(E+F)+D:=ih
   _=E+F+(C+D):=by ac_rfl
end
theorem aFX {s:Int} (hs:ac s=true) [NeZero (pS (ay s 1))] (pr:Pr (pS (ay s 1))) (v:ab) (hz:bB (dr (pS (ay s 1)) v ⟨0,0,0,0⟩)=false):
 sc s (dr (pS (ay s 1)) v ⟨0,0,0,0⟩)*sc s (CC (pS (ay s 1)) (dr (pS (ay s 1)) v ⟨0,0,0,0⟩))=1:=by
 have hp:=eK (bF hs)
 have hl:=zT (aal (bF hs)) v ⟨0,0,0,0⟩
 generalize dr (pS (ay s 1)) v ⟨0,0,0,0⟩=u at*
 have h2:=pr.1
 have h0:¬pS (ay s 1)∣u.nat:=λh=>by
  have h1:u.nat≠0:=λe=>by rw [dF,e] at hz;cases hz
  have:=Nat.le_of_dvd (by omega) h
  omega
 have e2:(CC (pS (ay s 1)) u).nat=u.nat^(pS (ay s 1)-2)%pS (ay s 1):=by
  unfold CC
  have hb:pS (ay s 1)-2<2^256:=by have:=hp.2;omega
  rw [Ir 256 1 _ _ hb (by omega),Nat.one_mul,<-Nat.pow_mod]
  exact cr hp
 have hf:=Fy pr h0
 refine Fin.ext ?_
 show (u.nat%pS (ay s 1))*((CC (pS (ay s 1)) u).nat%pS (ay s 1))%pS (ay s 1)=1%pS (ay s 1)
 rw [e2,<-Nat.mul_mod,Nat.mul_mod_mod]
 rw [show pS (ay s 1)-1=(pS (ay s 1)-2)+1 by omega,Nat.pow_succ,Nat.mul_comm] at hf
 rw [hf,bm (by omega)]
theorem aw6 {s:Int} (hs:ac s=true) (pr:Pr (pS (ay s 1))) {k:Nat} {x:Gs hs} (h:smG k x=0) (hx:x≠0):pS (ay s 1)∣k:=by
 refine lz λhk=>hx ?_
 have hf:=Fy pr hk
 have h2:=pr.1
 rw [show pS (ay s 1)-1=(pS (ay s 1)-2)+1 by omega,Nat.pow_succ] at hf
 rw [<-Uf x,<-hf,wN hs,PX,h,aoZ]
section
variable {s:Int} (hs:ac s=true) [NeZero (pS (ay s 1))]
include hs in
theorem apA {b:List ab} {h:Nat} {X c:Zs s} (hb:b.map (sc s)=Ipa.CB X c (2*h)) (u:ab):(qt (pS (ay s 1)) b u).map (sc s)=Ipa.CB X (c+sc s u*(c*X^h)) h:=by
 have hl:b.length=2*h:=by rw [<-List.length_map (sc s),hb,Ipa.Gz]
 have e:Ipa.CB X c (2*h)=Ipa.CB X c h++Ipa.CB X (c*X^h) h:=by rw [<-Ipa.Qp,show h+h=2*h by omega]
 rw [acE hs hl u,List.map_take,List.map_drop,hb,e,List.take_left' (Ipa.Gz _ _ _),List.drop_left' (Ipa.Gz _ _ _),Ipa.ayk]
theorem avz {g:List Pt} {n:Nat} (hg:g.length=2*2^n) (ho:(g.all λP=>onB s P)=true) (f:Zs s) (u:ab) (us:List (Zs s)) (hu:us.length=n):
 Ipa.dot (mA hs) (Ipa.wts f (sc s u::us)) (g.map (gp (aC hs)))=Ipa.dot (mA hs) (Ipa.wts f us) ((DV s g u (2^n) (List.replicate (2^n) jI)).map (gp (aC hs))):=by
 rw [(J6 hs hg ho u).2,<-Ipa.aEi (mA hs) f (sc s u) us (by rw [List.length_map,bQ,hu];omega) (by rw [List.length_map,cq,hu];omega),<-List.map_append,List.take_append_drop]
end
section
variable {s:Int} (hs:ac s=true) [NeZero (pS (ay s 1))]
theorem aFw (x:ab):∀ (m:Nat) (e:ab),e.nat=x.nat^m%pS (ay s 1)->sc s e=sc s x^m:=λm e he=>by
 refine Fin.ext ?_
 show e.nat%_=_
 rw [he,Nat.mod_mod]
 clear he
 induction m with
 |zero=>rfl
 |succ m ih=>
  have e3:sc s x^(m+1)=sc s x^m*sc s x:=Lean.Grind.Semiring.pow_succ _ _
  rw [e3,Fin.val_mul,<-ih,Nat.pow_succ]
  show _=(_%_)*(x.nat%_)%_
  rw [<-Nat.mul_mod]
theorem HY:∀ n:Nat,n<=5->(⟨cC 1 (n:Int),0,0,0⟩:ab).nat=2^n
 |0,_|1,_|2,_|3,_|4,_|5,_=>by decide+kernel
 |n+6,h=>absurd h (by omega)
include hs in
theorem aHT (x:ab) {n:Nat} (hn:n<=5) (q:Cu) (w:avv):sc s (avu (ay s 1) x (n:Int) q w).1=sc s w.1*(1+sc s (rU (ay s 1) q)*sc s x^(2^n)):=by
 have h2:2<=pS (ay s 1):=(aC (bF hs)).pr.1
 have e:sc s (ln (pS (ay s 1)) x ⟨cC 1 (n:Int),0,0,0⟩)=sc s x^(2^n):=aFw x (2^n) _ (by rw [jL (eK (bF hs)) h2,HY n hn])
 show sc s (aR _ w.1 (dr _ ⟨1,0,0,0⟩ (aR _ (rU (ay s 1) q) (ln (pS (ay s 1)) x ⟨cC 1 (n:Int),0,0,0⟩))))=_
 rw [mn hs,ri hs,mn hs,e]
 rfl
end
section
variable {s:Int} (hs:ac s=true) [NeZero (pS (ay s 1))]
theorem MZ (x:ab):∀ (n:Nat) (q:Cu) (w:avv),n<=5->eY s (ay s 1) n q=true->((aX s (ay s 1) n q).1==0)=true->q.1.2.2.2.1.length=2^n->q.1.1.1=s->(q.1.2.2.2.2.2.1.all λP=>onB s P)=true->
 ∀ c,q.1.2.2.2.2.1.map (sc s)=Ipa.CB (sc s x) c (2^n)->∃ (us:List ab) (P:Zs s),us.length=n/\(Gd s (ay s 1) x n q w).2.1=w.2.1++us/\sc s (Gd s (ay s 1) x n q w).1=sc s w.1*P/\(aX s (ay s 1) n q).2.1.2.2.2.2.1.map (sc s)= [c*P]/\
  ∀ f,Ipa.dot (mA hs) (Ipa.wts f (us.map (sc s))) (q.1.2.2.2.2.2.1.map (gp (aC hs)))=Ipa.dot (mA hs) [f] ((aX s (ay s 1) n q).2.1.2.2.2.2.2.1.map (gp (aC hs)))
 |0,q,w,_,_,_,_,_,_,c,hb=>⟨[],1,rfl,(List.append_nil _).symm,by show sc s w.1=_;grind,by show q.1.2.2.2.2.1.map (sc s)=_;rw [hb];show [c]=_;grind,λf=>rfl⟩
 |n+1,q,w,h5,hok,h,hn,hc,hg,c,hb=>by
  have h1:1<q.1.2.2.2.1.length:=by rw [hn,Nat.pow_succ];have:=Nat.two_pow_pos n;omega
  unfold eY at hok
  rw [ag h1,aK,aw] at hok
  unfold aX at h⊢
  rw [ag h1,aK] at h⊢
  cases h2:(bo s (ay s 1) q).1==0
  ·rw [h2,aT,h2] at h;cases h
  rw [h2,aK] at h hok
  rw [aK]
  have hro:=hok.1
  unfold pA at hro
  simp only [aw] at hro
  obtain ⟨hL,_,_,hso,_⟩:=hro
  obtain ⟨l1,l2,_,_⟩:=bn hL
  obtain ⟨_,hz,e⟩:=sj h2
  have hso:=eq_of_beq hso
  have hh:q.1.2.2.2.1.length=2*2^n:=by rw [hn,Nat.pow_succ];omega
  have e2:(bo s (ay s 1) q).2.1=QG q.1 (rU (ay s 1) q) (ao q.2.2.1).1 (ao (ao q.2.2.1).2.2).1:=by rw [e]
  have eg:(bo s (ay s 1) q).2.1.2.2.2.2.2.1=DV s q.1.2.2.2.2.2.1 (rU (ay s 1) q) (2^n) (List.replicate (2^n) jI):=by
   rw [e2]
   show DV q.1.1.1 q.1.2.2.2.2.2.1 (rU (ay s 1) q) (q.1.2.2.2.1.length/2) (List.replicate (q.1.2.2.2.1.length/2) jI)=_
   rw [hc,show q.1.2.2.2.1.length/2=2^n by omega]
  have eb:(bo s (ay s 1) q).2.1.2.2.2.2.1=qt (pS (ay s 1)) q.1.2.2.2.2.1 (rU (ay s 1) q):=by
   rw [e2]
   show qt (pS q.1.2.1) _ _=_
   rw [hso]
  obtain ⟨us,P,i1,i2,i3,i4,i5⟩:=MZ x n (bo s (ay s 1) q).2 (avu (ay s 1) x (n:Int) q w) (by omega) hok.2 h (by
   rw [e]
   show (qt _ q.1.2.2.2.1 _).length=_
   rw [BJ,hh,Nat.mul_div_cancel_left _ (by decide)]) (by rw [e];exact hc) (by
   rw [eg]
   exact (J6 hs (by omega) hg _).1) _ (by rw [eb];exact apA hs (h:=2^n) (by rw [hb,Nat.pow_succ,Nat.mul_comm]) _)
  refine ⟨rU (ay s 1) q::us,(1+sc s (rU (ay s 1) q)*sc s x^(2^n))*P,congrArg Nat.succ i1,?_,?_,?_,λf=> ?_⟩
  ·show (Gd s (ay s 1) x n _ _).2.1=_
   rw [i2]
   exact List.append_assoc _ _ _
  ·show sc s (Gd s (ay s 1) x n _ _).1=_
   rw [i3,aHT hs x (by omega)]
   grind
  ·rw [i4]
   grind
  ·rw [<-i5 f,eg]
   exact avz hs (by omega) hg f _ _ (by rw [List.length_map,i1])
end
def opF (m:Nat) (xi:ab) (cs S:List ab) (k:Nat):ab:=cond (decide (k<cs.length)) (dr m (aR m xi (S.getD k ⟨0,0,0,0⟩)) (cs.getD k ⟨0,0,0,0⟩)) (aR m xi (S.getD k ⟨0,0,0,0⟩))
theorem aAj (m:Nat) (xi x:ab) (cs S:List ab) (q:OpT):∀ n,(upto (aw9 m xi x cs S) q n).1=upto (λk (l:List ab)=>l.set k (opF m xi cs S k)) q.1 n
 |0=>rfl
 |n+1=>by
  show List.set (upto _ q n).1 n _=List.set _ n _
  rw [aAj m xi x cs S q n]
  rfl
theorem aFG (m:Nat) (xi x:ab) (cs S a:List ab) (h:a.length=S.length):(Vj m xi x cs S a).1=(List.range S.length).map (opF m xi cs S):=by
 unfold Vj
 rw [aAj,Gj _ _ _ (by dsimp only;omega),List.drop_of_length_le (by dsimp only;omega),List.append_nil]
section
variable {s:Int} (hs:ac s=true) [NeZero (pS (ay s 1))]
include hs in
theorem aa7 (xi x:ab) (cs S:List ab) (q:OpT):∀ n,(upto (aw9 (pS (ay s 1)) xi x cs S) q n).2.1.map (sc s)=q.2.1.map (sc s)++Ipa.CB (sc s x) (sc s q.2.2) n/\sc s (upto (aw9 (pS (ay s 1)) xi x cs S) q n).2.2=sc s q.2.2*sc s x^n
 |0=>⟨(List.append_nil _).symm,by show sc s q.2.2=_;grind⟩
 |n+1=>by
  obtain ⟨h1,h2⟩:=aa7 xi x cs S q n
  refine ⟨?_,?_⟩
  ·show ((upto _ q n).2.1++ [(upto _ q n).2.2]).map (sc s)=_
   rw [List.map_append,h1,Ipa.Qp,List.append_assoc]
   show _++(_++ [sc s _])=_++(_++ [_])
   rw [h2]
  ·show sc s (aR _ (upto _ q n).2.2 x)=_
   rw [mn hs,h2]
   grind
end
section
variable {s:Int} (hs:ac s=true) [NeZero (pS (ay s 1))]
include hs in
theorem R6 (x:ab):∀ l:List ab,sc s (rH (pS (ay s 1)) x l)=Ipa.ev (sc s x) (l.map (sc s))
 | []=>Fin.ext (Nat.zero_mod _)
 |v::r=>by
  show sc s (dr _ (aR _ (rH (pS (ay s 1)) x r) x) v)=_
  rw [ri hs,mn hs,R6 x r]
  rfl
include hs in
theorem ao2 (a b:ab):sc s (iq (pS (ay s 1)) a b)=sc s a-sc s b:=by
 have e:sc s (iq (pS (ay s 1)) a b)+sc s b=sc s a:=by
  unfold iq
  rw [ri hs]
  have:sc s (kW (pS (ay s 1)) b)+sc s b=0:=by
   refine Fin.ext ?_
   have hp:=eK (bF hs)
   show ((kW (pS (ay s 1)) b).nat%_+b.nat%_)%_=0
   rw [show (kW (pS (ay s 1)) b).nat=(pS (ay s 1)-b.nat%pS (ay s 1))%pS (ay s 1) from cr hp,Nat.mod_mod,<-Nat.add_mod]
   have:=Nat.mod_lt b.nat hp.1
   have h3:=Nat.div_add_mod b.nat (pS (ay s 1))
   generalize b.nat%pS (ay s 1)=t at*
   rw [show pS (ay s 1)-t+b.nat=pS (ay s 1)*(b.nat/pS (ay s 1)+1) by rw [Nat.mul_add];omega]
   exact Nat.mul_mod_right _ _
  grind
 grind
end
section
variable {s:Int} (hs:ac s=true) [NeZero (pS (ay s 1))]
theorem aoC {p:mf} (hp:p.1=s) (z b a f:ab) (us:List ab) (out:List Tm) (hl:(wtE (pS (ay s 1)) (kW (pS (ay s 1)) a) us).length<=p.2.2.1.length):
 ld (tG hs (wJ p z b a f us out))=ld (tG hs out)+Ipa.dot (mA hs) ((wtE (pS (ay s 1)) (kW (pS (ay s 1)) a) us).map (sc s)) (p.2.2.1.map (gp (aC hs)))+((mA hs).act (sc s (kW (pS (ay s 1)) a)*(sc s b*sc s z)) (gp (aC hs) p.2.2.2.2)+(mA hs).act (sc s (kW (pS (ay s 1)) f)) (gp (aC hs) p.2.2.2.1)):=by
 unfold wJ
 rw [hp]
 generalize wtE (pS (ay s 1)) (kW (pS (ay s 1)) a) us=w at*
 have e:upto (rI p.2.2.1 w) out w.length=out++w.zip p.2.2.1:=by
  rw [<-rM hl]
  exact uJ (λi=>(w.getD i ⟨0,0,0,0⟩,p.2.2.1.getD i jI)) _ _
 rw [e,rX,rX,R9]
 show _+(smG _ _+(smG _ _+0))=_
 rw [oC,<-rj hs,<-rj hs,mn hs,mn hs]
end
end
section
namespace Ipa
open Lean.Grind
variable {R M:Type} [CommRing R] [IntModule M] (L:Lin R M)
theorem abc (k:R) (x:M):L.act (-k) x+L.act k x=0:=by
 rw [<-L.n8,show-k+k=0 by grind,L.Pu]
theorem Sa (g:List M):dot L [] g=0:=by cases g<;>rfl
theorem BU (a:List R):dot L a []=0:=by cases a<;>rfl
theorem aEf (a B z f:R) (g:List M) (U W o:M):o+dot L [-a] g+(L.act (-a*(B*z)) U+L.act (-f) W)+(dot L [a] g+L.act (a*B*z) U+L.act f W)=o:=by
 have e1:dot L [-a] g+dot L [a] g=0:=by
  cases g with
  |nil=>rw [BU,BU];grind
  |cons x s=>
   have:=abc L a x
   rw [dot,dot,Sa]
   grind
 rw [show-a*(B*z)= -(a*B*z) by grind]
 have e2:=abc L (a*B*z) U
 have e3:=abc L f W
 grind
theorem anQ (u:R):∀ (us out:List R),wl out (us++ [u])=(wl out us).flatMap λv=> [v,v*u]
 | [],_=>rfl
 |_::us,out=>anQ u us _
def lin (k:R):List R->List R->List R
 | [],_=> []
 |s::S,[]=>k*s::lin k S []
 |s::S,c::C=>(k*s+c)::lin k S C
theorem Bj (k:R):∀ (S C:List R),lin k S C=(List.range S.length).map λi=>cond (decide (i<C.length)) (k*S.getD i 0+C.getD i 0) (k*S.getD i 0)
 | [],_=>rfl
 |s::S,[]=>by
  rw [lin,Bj k S [],List.length_cons,List.range_succ_eq_map,List.map_cons,List.map_map]
  rfl
 |s::S,c::C=>by
  show (k*s+c)::lin k S C=(List.range (S.length+1)).map λi=>cond (decide (i<C.length+1)) (k*(s::S).getD i 0+(c::C).getD i 0) (k*(s::S).getD i 0)
  rw [Bj k S C,List.range_succ_eq_map,List.map_cons,List.map_map]
  refine congrArg (List.cons _) (List.map_congr_left λi _=> ?_)
  show _=cond (decide (i+1<C.length+1)) _ _
  rw [show decide (i+1<C.length+1)=decide (i<C.length) from decide_eq_decide.2 Nat.succ_lt_succ_iff]
  rfl
theorem adm (k:R):∀ (S C:List R) (G:List M),C.length<=S.length->dot L (lin k S C) G=L.act k (dot L S G)+dot L C G
 |S,C,[],_=>by
  rw [BU,BU,BU,L.wv];grind
 | [],[],G,_=>by
  rw [lin,Sa,L.wv];grind
 |s::S,[],g::G,_=>by
  rw [lin,dot,adm k S [] G (Nat.zero_le _),dot,Sa,Sa,L.q9,L.li];grind
 |s::S,c::C,g::G,h=>by
  rw [lin,dot,adm k S C G (Nat.le_of_succ_le_succ h),dot,dot,L.q9,L.n8,L.li];grind
theorem asv (x k:R):∀ (S C:List R),C.length<=S.length->ev x (lin k S C)=k*ev x S+ev x C
 | [],[],_=>by
  show (0:R)=k*0+0
  grind
 |s::S,[],_=>by
  show ev x (lin k S [])*x+k*s=k*(ev x S*x+s)+0
  rw [asv x k S [] (Nat.zero_le _),show ev x []=0 from rfl]
  grind
 |s::S,c::C,h=>by
  show ev x (lin k S C)*x+(k*s+c)=k*(ev x S*x+s)+(ev x C*x+c)
  rw [asv x k S C (Nat.le_of_succ_le_succ h)]
  grind
theorem aAO (x e:R) {a:List R} (h:0<a.length):ev x (a.set 0 (a.getD 0 0-e))=ev x a-e:=by
 cases a with
 |nil=>cases h
 |cons v r=>
  show ev x ((v-e)::r)=_
  rw [ev,ev];grind
theorem aEj (e:R) {a:List R} {G:List M} (h:0<a.length) (hG:0<G.length):dot L (a.set 0 (a.getD 0 0-e)) G+L.act e (G.getD 0 0)=dot L a G:=by
 cases a with
 |nil=>cases h
 |cons v r=>
  cases G with
  |nil=>cases hG
  |cons g G=>
   show dot L ((v-e)::r) (g::G)+L.act e g=_
   rw [dot,dot,show L.act v g=L.act (v-e) g+L.act e g by rw [<-L.n8,show v-e+e=v by grind]]
   grind
theorem aoV (x xi z rho bl:R) (U W:M) {S C:List R} {G:List M} (hS:ev x S=0) (hC:C.length<=S.length) (h0:0<S.length) (hG:G.length=S.length):
 val L z U W ((lin xi S C).set 0 ((lin xi S C).getD 0 0-ev x C)) (CB x 1 S.length) G (bl+xi*rho)+L.act (ev x C) (G.getD 0 0)=(L.act bl W+dot L C G)+L.act xi (L.act rho W+dot L S G):=by
 have hl:(lin xi S C).length=S.length:=by rw [Bj,List.length_map,List.length_range]
 have e1:=agK x ((lin xi S C).set 0 ((lin xi S C).getD 0 0-ev x C)) 1 S.length (by rw [cy,hl];exact Nat.le_refl _)
 rw [aAO x _ (by omega),asv x xi S C hC,hS] at e1
 have e2:=aEj L (ev x C) (a:=lin xi S C) (G:=G) (by omega) (by omega)
 rw [adm L xi S C G hC] at e2
 unfold val
 rw [e1,show (1:R)*(xi*0+ev x C-ev x C)*z=0 by grind,L.Pu,L.n8,L.li,L.q9]
 grind
theorem anU (e xi v:R) {g t o C S:M} (h1:t+o=C+(L.act (-v) g+L.act xi S)) (h2:o+L.act e g=C+L.act xi S):t=L.act (e-v) g:=by
 have e:L.act (e-v) g=L.act e g+L.act (-v) g:=by rw [<-L.n8,show e+ -v=e-v by grind]
 rw [e]
 grind
end Ipa
end
section
open Sx Go
set_option maxRecDepth 100000
theorem ahw (m:Nat) (u:ab) (xs:List ab):∀ n,n<=xs.length->upto (ayP m u xs) [] n=(xs.take n).flatMap λv=> [v,aR m v u]
 |0,_=>rfl
 |n+1,h=>by
  show upto _ [] n++ [xs.getD n ⟨0,0,0,0⟩,aR m (xs.getD n ⟨0,0,0,0⟩) u]=_
  rw [ahw m u xs n (by omega),List.take_succ_eq_append_getElem (by omega:n<xs.length),List.flatMap_append,iu (by omega:n<xs.length)]
  rfl
section
variable {s:Int} (hs:ac s=true) [NeZero (pS (ay s 1))]
include hs in
theorem aGh (u:ab) (xs:List ab):(ayQ (pS (ay s 1)) u xs).map (sc s)=(xs.map (sc s)).flatMap λv=> [v,v*sc s u]:=by
 unfold ayQ
 rw [ahw _ _ _ _ (Nat.le_refl _),List.take_length,List.map_flatMap,List.flatMap_map]
 refine congrArg (List.flatMap · xs) (funext λv=> ?_)
 rw [List.map_cons,List.map_cons,mn hs]
 rfl
include hs in
theorem aG3 (a:ab) (us:List ab):(wtE (pS (ay s 1)) a us).map (sc s)=Ipa.wts (sc s a) (us.map (sc s)):=by
 have go:∀ n,n<=us.length->(upto (λk l=>ayQ (pS (ay s 1)) (us.getD k ⟨0,0,0,0⟩) l) [a] n).map (sc s)=Ipa.wl [sc s a] ((us.take n).map (sc s)):=by
  intro n
  induction n with
  |zero=>exact λ_=>rfl
  |succ n ih=>
   intro h
   show (ayQ _ (us.getD n ⟨0,0,0,0⟩) (upto _ [a] n)).map (sc s)=_
   rw [aGh hs,ih (by omega),List.take_succ_eq_append_getElem (by omega:n<us.length),List.map_append,iu (by omega:n<us.length)]
   exact (Ipa.anQ _ _ _).symm
 unfold wtE
 rw [go _ (Nat.le_refl _),List.take_length,Ipa.azN]
 exact List.append_nil _
include hs in
theorem ao3 (a:ab):sc s (kW (pS (ay s 1)) a)= -sc s a:=by
 have h:=ao2 hs a a
 unfold iq at h
 rw [ri hs] at h
 grind
include hs in
theorem aAm (e:ab):sc s (ofP (pS (ay s 1)) e)=sc s e:=by
 have hp:=eK (bF hs)
 refine Fin.ext ?_
 show (ofP (pS (ay s 1)) e).nat%_=e.nat%_
 rw [show (ofP (pS (ay s 1)) e).nat=e.nat%pS (ay s 1) from cr hp,Nat.mod_mod]
theorem aEe {o:wG} {p:mf} (hp:p.1=s) (ho:o.1=p) {B:Zs s} {us:List ab} (b a f z:ab) (out:List Tm) (ha:o.2.2.2.1.length=1) (hb:o.2.2.2.2.1.map (sc s)= [B])
 (hw:∀ k,Ipa.dot (mA hs) (Ipa.wts k (us.map (sc s))) (p.2.2.1.map (gp (aC hs)))=Ipa.dot (mA hs) [k] (o.2.2.2.2.2.1.map (gp (aC hs)))) (hl:p.2.2.1.length=2^us.length)
 (e1:sc s b=B) (e2:sc s a=sc s (o.2.2.2.1.getD 0 ⟨0,0,0,0⟩)) (e3:sc s f=sc s o.2.2.2.2.2.2) (e4:z=o.2.2.1):
 ld (tG hs (wJ p z b a f us out))+vO hs o=ld (tG hs out):=by
 have hl2:(wtE (pS (ay s 1)) (kW (pS (ay s 1)) a) us).length<=p.2.2.1.length:=by
  rw [hl]
  exact Nat.le_of_eq (Te _ _ _ _)
 rw [aoC hs hp z b a f us out hl2,aG3 hs,hw,ao3 hs,ao3 hs]
 obtain ⟨a0,h0⟩:∃ a0,o.2.2.2.1= [a0]:=by
  match o.2.2.2.1,ha with
  | [a0],_=>exact ⟨a0,rfl⟩
 have e5:vO hs o=Ipa.dot (mA hs) [sc s a] (o.2.2.2.2.2.1.map (gp (aC hs)))+(mA hs).act (sc s a*B*sc s z) (gp (aC hs) p.2.2.2.2)+(mA hs).act (sc s f) (gp (aC hs) p.2.2.2.1):=by
  unfold vO Ipa.val
  rw [h0] at e2
  rw [hb,h0,ho,e2,e3,e4]
  show _+(mA hs).act ((sc s a0*B+0)*_) _+_=_+(mA hs).act (sc s a0*B*_) _+_
  rw [show sc s a0*B+0=sc s a0*B by grind]
  rfl
 rw [e5,e1]
 exact Ipa.aEf (mA hs) _ _ _ _ _ _ _ _
end
section
variable {s:Int} (hs:ac s=true) [NeZero (pS (ay s 1))]
theorem aas:sc s ⟨0,0,0,0⟩=0:=Fin.ext (Nat.zero_mod _)
theorem RB (l:List ab) (i:Nat):(l.map (sc s)).getD i 0=sc s (l.getD i ⟨0,0,0,0⟩):=by
 rw [<-aas (s:=s),fP,fP,List.getElem?_map]
 cases l[i]? <;>rfl
theorem Xy {p:mf} (hp:p.1=s) (h:(cR p==0)=true) (l:List ab) (b:ab) (hl:l.length<=p.2.2.1.length):
 onB s (El p l b)=true/\gp (aC hs) (El p l b)=(mA hs).act (sc s b) (gp (aC hs) p.2.2.2.1)+Ipa.dot (mA hs) (l.map (sc s)) (p.2.2.1.map (gp (aC hs))):=by
 have ha:=(Ot h l b hl).2
 rw [hp] at ha
 obtain ⟨h1,h2⟩:=Ie hs ha
 unfold El
 rw [hp]
 refine ⟨h1,h2.trans ?_⟩
 have e:Sj p l b= [(b,p.2.2.2.1)]++l.zip p.2.2.1:=by
  unfold Sj
  rw [<-rM hl]
  exact uJ (λi=>(l.getD i ⟨0,0,0,0⟩,p.2.2.1.getD i jI)) _ _
 rw [e,rX,R9,rj hs]
 exact congrArg (· +_) (oC _)
include hs in
theorem aFJ (x:ab) {T:List ab} (h:0<T.length):Ipa.ev (sc s x) ((T.set 0 (iq (pS (ay s 1)) (T.getD 0 ⟨0,0,0,0⟩) (rH (pS (ay s 1)) x T))).map (sc s))=0:=by
 rw [List.map_set,ao2 hs,R6 hs,<-RB,Ipa.aAO _ _ (by rw [List.length_map];exact h)]
 grind
include hs in
theorem aFH (xi x:ab) (cs S a:List ab) (h:a.length=S.length):(Vj (pS (ay s 1)) xi x cs S a).1.map (sc s)=Ipa.lin (sc s xi) (S.map (sc s)) (cs.map (sc s)):=by
 rw [aFG _ _ _ _ _ _ h,Ipa.Bj,List.map_map,List.length_map,List.length_map]
 refine List.map_congr_left λi _=> ?_
 show sc s (cond _ _ _)=_
 rw [RB,RB]
 cases decide (i<cs.length)
 ·exact mn hs _ _
 ·exact (ri hs _ _).trans (congrArg (· +_) (mn hs _ _))
theorem awz {p:mf} (hp:p.1=s) (hr:(gA p p.1==0)=true) (cs:List ab) (bl x:ab) (tp co:List ab) (hc:cs.length<=p.2.2.1.length) (hco:p.2.2.1.length<=co.length):
 vO hs (opO p cs bl x (ay s 1) tp co)+(mA hs).act (Ipa.ev (sc s x) (cs.map (sc s))) ((p.2.2.1.map (gp (aC hs))).getD 0 0)=gp (aC hs) (El p cs bl)+(mA hs).act (sc s (opV (ay s 1) tp)) (gp (aC hs) (Fc p x co)):=by
 have r:=pD hr
 have hck:(cR p==0)=true:=beq_iff_eq.2 r.1
 have n1:=Nt p
 have n2:(co.take (opN p)).length=p.2.2.1.length:=by rw [bQ];omega
 have n4:(opS p x co).length=p.2.2.1.length:=by unfold opS;rw [cy];exact n2
 have c1:=(Xy hs hp hck cs bl hc).2
 have c2:=(Xy hs hp hck (opS p x co) (opR p co).1 (by omega)).2
 have hev:Ipa.ev (sc s x) ((opS p x co).map (sc s))=0:=by
  unfold opS
  rw [hp]
  exact aFJ hs x (by omega)
 have eA:(opO p cs bl x (ay s 1) tp co).2.2.2.1.map (sc s)=(Ipa.lin (sc s (opV (ay s 1) tp)) ((opS p x co).map (sc s)) (cs.map (sc s))).set 0 ((Ipa.lin (sc s (opV (ay s 1) tp)) ((opS p x co).map (sc s)) (cs.map (sc s))).getD 0 0-Ipa.ev (sc s x) (cs.map (sc s))):=by
  show (List.set (opU p cs x (ay s 1) tp co).1 0 (iq (pS (ay p.1 1)) ((opU p cs x (ay s 1) tp co).1.getD 0 ⟨0,0,0,0⟩) (rH (pS (ay p.1 1)) x cs))).map (sc s)=_
  unfold opU
  rw [hp,List.map_set,ao2 hs,R6 hs,<-RB,aFH hs _ _ _ _ _ (by rw [fW,n4])]
 have eB:(opO p cs bl x (ay s 1) tp co).2.2.2.2.1.map (sc s)=Ipa.CB (sc s x) 1 ((opS p x co).map (sc s)).length:=by
  show (opU p cs x (ay s 1) tp co).2.1.map (sc s)=_
  unfold opU Vj
  rw [hp,(aa7 hs _ _ _ _ _ _).1,List.length_map]
  rfl
 have eF:sc s (opO p cs bl x (ay s 1) tp co).2.2.2.2.2.2=sc s bl+sc s (opV (ay s 1) tp)*sc s (opR p co).1:=by
  show sc s (dr (pS (ay p.1 1)) bl (aR (pS (ay p.1 1)) (opV (ay s 1) tp) (opR p co).1))=_
  rw [hp,ri hs,mn hs]
 have key:=Ipa.aoV (mA hs) (sc s x) (sc s (opV (ay s 1) tp)) (sc s (opV (ay s 1) (ao tp).2.2)) (sc s (opR p co).1) (sc s bl) (gp (aC hs) p.2.2.2.2) (gp (aC hs) p.2.2.2.1) (S:=(opS p x co).map (sc s)) (C:=cs.map (sc s)) (G:=p.2.2.1.map (gp (aC hs))) hev (by rw [List.length_map,List.length_map];omega) (by rw [List.length_map];omega) (by rw [List.length_map,List.length_map];omega)
 rw [<-eA,<-eB,<-eF,<-c1] at key
 unfold Fc
 rw [c2]
 exact key
include hs in
theorem aCS {p:mf} (hp:p.1=s) (cs:List ab) (bl x:ab) (tp co:List ab) (hco:p.2.2.1.length<=co.length):
 (opO p cs bl x (ay s 1) tp co).2.2.2.2.1.map (sc s)=Ipa.CB (sc s x) 1 p.2.2.1.length:=by
 have n1:=Nt p
 have n2:(co.take (opN p)).length=p.2.2.1.length:=by rw [bQ];omega
 have n4:(opS p x co).length=p.2.2.1.length:=by unfold opS;rw [cy];exact n2
 show (opU p cs x (ay s 1) tp co).2.1.map (sc s)=_
 unfold opU Vj
 rw [hp,(aa7 hs _ _ _ _ _ _).1,n4]
 rfl
end
theorem ao1 {s:Int} {o:wG} {a b:List ab} {g:List Pt} {r:ab} (hU:onB s o.1.2.2.2.2=true) (hW:onB s o.1.2.2.2.1=true) (hl:a.length<=g.length) (hg:(g.all λP=>onB s P)=true):cv s (AL o a b g r)=true:=by
 have e:AL o a b g r= [(aR (pS o.2.1) (aDM (pS o.2.1) a b) o.2.2.1,o.1.2.2.2.2),(r,o.1.2.2.2.1)]++a.zip g:=by
  unfold AL
  rw [<-rM hl]
  exact uJ (λi=>(a.getD i ⟨0,0,0,0⟩,g.getD i jI)) _ _
 rw [e]
 unfold cv
 rw [List.all_append,aA,aA,hU,hW,aI]
 exact List.all_eq_true.2 λt ht=>List.all_eq_true.1 hg _ (List.of_mem_zip ht).2
theorem azx {α:Type} {f:α->Bool} {l:List α} (h:l.all f=true) (n:Nat):(l.take n).all f=true:=List.all_eq_true.2 λx hx=>List.all_eq_true.1 h x (List.mem_of_mem_take hx)
theorem azy {α:Type} {f:α->Bool} {l:List α} (h:l.all f=true) (n:Nat):(l.drop n).all f=true:=List.all_eq_true.2 λx hx=>List.all_eq_true.1 h x (List.mem_of_mem_drop hx)
section
variable {s:Int} (hs:ac s=true) [NeZero (pS (ay s 1))]
include hs in
theorem H4:∀ (n:Nat) (q:Cu),n<=6->q.1.1.1=s->q.1.2.1=ay s 1->q.1.2.2.2.1.length=2^n->q.1.2.2.2.2.1.length=2^n->q.1.2.2.2.2.2.1.length=2^n->onB s q.1.1.2.2.2.2=true->onB s q.1.1.2.2.2.1=true->
 (q.1.2.2.2.2.2.1.all λP=>onB s P)=true->q.2.1.length<=140737488355328->q.2.2.1.length<=140737488355328->q.2.2.2.length+64*n<=140737488340000->
 eY s (ay s 1) n q=true/\(((aX s (ay s 1) n q).1==0)=true->(aX s (ay s 1) n q).2.1.2.2.2.1.length=1/\(aX s (ay s 1) n q).2.1.2.2.1=q.1.2.2.1/\(aX s (ay s 1) n q).2.1.1=q.1.1/\(aX s (ay s 1) n q).2.2.2.2.length=q.2.2.2.length+64*n/\
  (∀ (x:ab) (w:avv),cv s w.2.2=true->cv s (Gd s (ay s 1) x n q w).2.2=true))
 |0,q,_,_,_,ha,_,_,_,_,_,_,_,_=>⟨by unfold eY;rw [bq (by rw [ha];decide)];rfl,λ_=>⟨ha,rfl,rfl,rfl,λ_ _ h=>h⟩⟩
 |n+1,q,h6,hc,hso,ha,hb,hg,hU,hW,ho,ht,hco,hout=>by
  have h1:1<q.1.2.2.2.1.length:=by rw [ha,Nat.pow_succ];have:=Nat.two_pow_pos n;omega
  have h64:(2:Nat)^n<=32:=Nat.pow_le_pow_right (by omega) (show n<=5 by omega)
  have hh:q.1.2.2.2.1.length=2*2^n:=by rw [ha,Nat.pow_succ];omega
  have hbl:q.1.2.2.2.2.1.length=2*2^n:=by rw [hb,Nat.pow_succ];omega
  have hgl:q.1.2.2.2.2.2.1.length=2*2^n:=by rw [hg,Nat.pow_succ];omega
  have e2:q.1.2.2.2.1.length/2=2^n:=by omega
  have tl:∀ l,cv s (aGU q.1 l)=true:=λl=>ao1 hU hW (by rw [cq,bQ];omega) (azx ho _)
  have th:∀ l,cv s (axX q.1 l)=true:=λl=>ao1 hU hW (by rw [cq,bQ];omega) (azy ho _)
  have pl:∀ l,onB s (avq q.1 l)=true:=λl=>(Gr hs hso hc (by rw [cq,bQ];omega) (by rw [cq,bQ];omega) (tl l)).1
  have ph:∀ l,onB s (Rx q.1 l)=true:=λl=>(Gr hs hso hc (by rw [cq,bQ];omega) (by rw [cq,bQ];omega) (th l)).1
  have hro:pA s (ay s 1) q=true:=by
   unfold pA aAa
   rw [bF hs,hc,hs,hso,tl,th,pl,ph,ag ⟨by omega,by omega,by omega,by omega,ht,hco,by omega⟩,beq_self_eq_true]
   rfl
  unfold eY aX
  rw [ag h1,aK,aK,hro,Bool.true_and]
  show _/\(_->_/\_/\_/\_/\∀ (x:ab) (w:avv),_->cv s (Gd s (ay s 1) x n (bo s (ay s 1) q).2 (avu (ay s 1) x (n:Int) q w)).2.2=true)
  cases h2:(bo s (ay s 1) q).1==0
  ·exact ⟨rfl,λh=>absurd (h2.symm.trans h) (by decide)⟩
  rw [aK,aK]
  obtain ⟨_,hz,e⟩:=sj h2
  have eo:(bo s (ay s 1) q).2=(QG q.1 (rU (ay s 1) q) (ao q.2.2.1).1 (ao (ao q.2.2.1).2.2).1,((ao q.2.1).2.2,((ao (ao q.2.2.1).2.2).2.2,q.2.2.2++jJ s (rL q)++jJ s (rR q)))):=by rw [e]
  have ll:(q.2.2.2++jJ s (rL q)++jJ s (rR q)).length=q.2.2.2.length+64:=by
   rw [bK,bK,tQ (show onB s (rL q)=true from pl _),tQ (show onB s (rR q)=true from ph _)]
  have fl:∀ l k,l.length=2*2^n->(qt (pS q.1.2.1) l k).length=2^n:=λl k h=>by
   rw [BJ,h,Nat.mul_div_cancel_left _ (by decide)]
  have ih:=H4 n (bo s (ay s 1) q).2 (by omega) (by rw [eo];exact hc) (by rw [eo];exact hso) (by rw [eo];exact fl _ _ hh) (by rw [eo];exact fl _ _ hbl)
   (by rw [eo];show (DV _ _ _ (q.1.2.2.2.1.length/2) (List.replicate (q.1.2.2.2.1.length/2) jI)).length=_;rw [e2];exact (NW _ _ _ _ _ _).trans fW)
   (by rw [eo];exact hU) (by rw [eo];exact hW) (by
    rw [eo]
    show ((DV q.1.1.1 q.1.2.2.2.2.2.1 (rU (ay s 1) q) (q.1.2.2.2.1.length/2) (List.replicate (q.1.2.2.2.1.length/2) jI)).all λP=>onB s P)=true
    rw [hc,e2]
    exact (J6 hs (by omega) ho _).1)
   (by rw [eo];exact cT (fN _) ht) (by rw [eo];exact cT (fN _) (cT (fN _) hco)) (by rw [eo];show (q.2.2.2++jJ s (rL q)++jJ s (rR q)).length+_<=_;rw [ll];omega)
  refine ⟨ih.1,λh=> ?_⟩
  obtain ⟨i1,i2,i3,i4,i5⟩:=ih.2 h
  refine ⟨i1,i2.trans (by rw [eo];rfl),i3.trans (by rw [eo];rfl),i4.trans (by rw [eo];show (q.2.2.2++jJ s (rL q)++jJ s (rR q)).length+_=_;rw [ll];omega),λx w hw=>i5 x _ ?_⟩
  show cv s (w.2.2++ [(_,rL q),(_,rR q)])=true
  unfold cv at hw⊢
  rw [List.all_append,hw,aA,aA,show onB s (rL q)=true from pl _,show onB s (rR q)=true from ph _]
  rfl
end
theorem agb {p:mf} {cs:List ab} {bl x:ab} {c s:Int} {tp co:List ab} {out:List UInt8} (h:((wE p cs bl x c s tp co out).1==0)=true):
 (gA p c==0)=true/\cs.length<=p.2.2.1.length/\opN p<=co.length/\((opR p co).2.1==0)=true/\((ao tp).2.1==0)=true/\((ao (ao tp).2.2).2.1==0)=true/\bB (opV s (ao tp).2.2)=false/\
  ((aX c s p.2.1.toNat (opQ p cs bl x c s tp co out)).1==0)=true/\wE p cs bl x c s tp co out=IJ c (aX c s p.2.1.toNat (opQ p cs bl x c s tp co out)):=by
 unfold wE at h⊢
 cases e0:gA p c==0
 ·rw [e0,aT] at h;exact absurd (e0.symm.trans h) (by decide)
 rw [e0,aK] at h
 cases e1:decide (cs.length<=p.2.2.1.length)
 ·rw [e1,aT] at h;cases h
 rw [e1,aK] at h
 cases e2:decide (opN p<=co.length)
 ·rw [e2,aT] at h;cases h
 rw [e2,aK] at h
 cases e3:(opR p co).2.1==0
 ·rw [e3,aT] at h;exact absurd (e3.symm.trans h) (by decide)
 rw [e3,aK] at h
 cases e4:(ao tp).2.1==0
 ·rw [e4,aT] at h;exact absurd (e4.symm.trans h) (by decide)
 rw [e4,aK] at h
 cases e5:(ao (ao tp).2.2).2.1==0
 ·rw [e5,aT] at h;exact absurd (e5.symm.trans h) (by decide)
 rw [e5,aK] at h
 cases e6:bB (opV s (ao tp).2.2)
 rotate_left
 ·rw [e6,aK] at h;cases h
 rw [e6,aT] at h
 refine ⟨rfl,bn e1,bn e2,rfl,rfl,rfl,rfl,?_,rfl⟩
 unfold IJ at h
 cases e7:(aX c s p.2.1.toNat (opQ p cs bl x c s tp co out)).1==0
 ·rw [e7,aT] at h;exact absurd (e7.symm.trans h) (by decide)
 ·rfl
theorem G0 {p:mf} (h:(cR p==0)=true):(p.2.2.1.all λP=> !wF p.1 P)=true/\wF p.1 p.2.2.2.1=false/\wF p.1 p.2.2.2.2=false:=by
 unfold cR at h
 cases h1:ac p.1
 ·rw [h1] at h;cases h
 rw [h1,aK] at h
 cases h2:decide (p.2.1<0)
 rotate_left
 ·rw [h2] at h;cases h
 rw [h2,aT] at h
 cases h3:decide (5<p.2.1)
 rotate_left
 ·rw [h3] at h;cases h
 rw [h3,aT] at h
 cases h4:(p.2.2.1.length:Int)==VM 1 p.2.1
 ·rw [h4] at h;cases h
 rw [h4,Bool.not_true,aT] at h
 cases h5:p.2.2.1.any (wF p.1)
 rotate_left
 ·rw [h5] at h;cases h
 rw [h5,aT] at h
 cases h6:wF p.1 p.2.2.2.1
 rotate_left
 ·rw [h6] at h;cases h
 rw [h6,aT] at h
 cases h7:wF p.1 p.2.2.2.2
 rotate_left
 ·rw [h7] at h;cases h
 exact ⟨List.all_eq_true.2 λP hP=>by simpa using List.any_eq_false.1 h5 P hP,rfl,rfl⟩
theorem Lw {c:Int} {P:Pt} (h:wF c P=false):onB c P=true/\P.2.2=false:=by
 unfold wF at h
 cases h2:P.2.2<;>cases ho:onB c P<;>rw [h2,ho] at h<;>first|exact ⟨rfl,rfl⟩|cases h
section
variable {s:Int} (hs:ac s=true) [NeZero (pS (ay s 1))]
theorem aAk:sc s ⟨1,0,0,0⟩=1:=rfl
theorem aCg (pr:Pr (pS (ay s 1))) {p:mf} (hp:p.1=s) (cs:List ab) (bl x v:ab) (tp co:List ab) (h:((wE p cs bl x s (ay s 1) tp co []).1==0)=true) (ht:tp.length<=140737488355328) (hco:co.length<=140737488355328):
 ∃ ts T,avE p [(⟨1,0,0,0⟩,El p cs bl)] x v s (wE p cs bl x s (ay s 1) tp co []).2.2.2 tp=(0,(ts,([],T)))/\cv s ts=true/\ts.length<=1000/\
  ld (tG hs ts)=(mA hs).act (Ipa.ev (sc s x) (cs.map (sc s))-sc s v) (gp (aC hs) (p.2.2.1.getD 0 jI)):=by
 obtain ⟨e0,l1,l2,_,e4,e5,e6,e7,eO⟩:=agb h
 have r:=pD e0
 have hck:(cR p==0)=true:=beq_iff_eq.2 r.1
 obtain ⟨b1,b2,b3⟩:=G0 hck
 rw [hp] at b1 b2 b3
 have hG:(p.2.2.1.all λP=>onB s P)=true:=List.all_eq_true.2 λP hP=>(Lw (Bool.not_eq_true' _▸List.all_eq_true.1 b1 P hP)).1
 have hW:=(Lw b2).1
 have hU:=(Lw b3).1
 have n1:=Nt p
 have hn:=r.2.2.2.2.2.2.2.2
 have hK:p.2.1.toNat<=5:=by omega
 have n2:(co.take (opN p)).length=p.2.2.1.length:=by rw [bQ];omega
 have n4:(opS p x co).length=p.2.2.1.length:=by unfold opS;rw [cy];exact n2
 have e0':(gA p p.1==0)=true:=by rw [hp];exact e0
 have cG:=Xy hs hp hck cs bl l1
 have cS:onB s (Fc p x co)=true:=(Xy hs hp hck (opS p x co) (opR p co).1 (by omega)).1
 have sv:=awz hs hp e0' cs bl x tp co l1 (by omega)
 have sb:=aCS hs hp cs bl x tp co (by omega)
 have la:(opO p cs bl x (ay s 1) tp co).2.2.2.1.length=2^p.2.1.toNat:=by
  show (List.set (opU p cs x (ay s 1) tp co).1 0 _).length=_
  rw [cy,<-hn]
  exact (vf _ _ _ _ _ _ _).1.trans fW
 have lb:(opO p cs bl x (ay s 1) tp co).2.2.2.2.1.length=2^p.2.1.toNat:=by
  show (opU p cs x (ay s 1) tp co).2.1.length=_
  rw [<-hn,<-n4]
  exact (vf _ _ _ _ _ _ _).2
 have hso:(opO p cs bl x (ay s 1) tp co).2.1=ay s 1:=by show ay p.1 1=_;rw [hp]
 obtain ⟨ro,rn⟩:=H4 hs p.2.1.toNat (opQ p cs bl x s (ay s 1) tp co []) (by omega) hp hso la lb hn hU hW hG (cT (fN _) (cT (fN _) ht))
  (cT (fN _) (by rw [cq];omega)) (by show ([]++jJ s (Fc p x co)).length+_<=_;rw [List.nil_append,tQ cS];omega)
 obtain ⟨f1,f2,f3,f4,f5⟩:=rn e7
 obtain ⟨W,hWb,hv⟩:=E4 x _ _ ro e7 la
 have rv:=MX hs (aFX hs pr) x _ _ (⟨1,0,0,0⟩,([],[HN (pS (ay s 1)) (⟨1,0,0,0⟩,El p cs bl)]++ [(kW (pS (ay s 1)) v,p.2.2.1.getD 0 jI),(opV (ay s 1) tp,Fc p x co)])) ro e7 la hp hG
 obtain ⟨us,P,u1,u2,u3,u4,u5⟩:=MZ hs x _ _ (⟨1,0,0,0⟩,([],[HN (pS (ay s 1)) (⟨1,0,0,0⟩,El p cs bl)]++ [(kW (pS (ay s 1)) v,p.2.2.1.getD 0 jI),(opV (ay s 1) tp,Fc p x co)])) hK ro e7 la hp hG 1 (by rw [<-hn];exact sb)
 have h0:0<p.2.2.1.length:=r.2.2.2.2.1
 have on0:onB s (p.2.2.1.getD 0 jI)=true:=by rw [iu h0];exact List.all_eq_true.1 hG _ (List.getElem_mem h0)
 have onw:cv s ([HN (pS (ay s 1)) (⟨1,0,0,0⟩,El p cs bl)]++ [(kW (pS (ay s 1)) v,p.2.2.1.getD 0 jI),(opV (ay s 1) tp,Fc p x co)])=true:=by
  show (onB s (El p cs bl)&&(onB s (p.2.2.1.getD 0 jI)&&(onB s (Fc p x co)&&true)))=true
  rw [cG.1,on0,cS]
  rfl
 have f6:=f5 x (⟨1,0,0,0⟩,([],[HN (pS (ay s 1)) (⟨1,0,0,0⟩,El p cs bl)]++ [(kW (pS (ay s 1)) v,p.2.2.1.getD 0 jI),(opV (ay s 1) tp,Fc p x co)])) onw
 have gw:ld (tG hs ([HN (pS (ay s 1)) (⟨1,0,0,0⟩,El p cs bl)]++ [(kW (pS (ay s 1)) v,p.2.2.1.getD 0 jI),(opV (ay s 1) tp,Fc p x co)]))=
  gp (aC hs) (El p cs bl)+((mA hs).act (-sc s v) (gp (aC hs) (p.2.2.1.getD 0 jI))+(mA hs).act (sc s (opV (ay s 1) tp)) (gp (aC hs) (Fc p x co))):=by
  show smG (dr _ ⟨1,0,0,0⟩ ⟨0,0,0,0⟩).nat _+(smG _ _+(smG _ _+0))=_
  rw [oC,<-rj hs,<-rj hs,<-rj hs,ri hs,ao3 hs,aAk,aas,show (1:Zs s)+0=1 by grind,(mA hs).apW]
  rfl
 rw [gw] at rv
 generalize hw:([HN (pS (ay s 1)) (⟨1,0,0,0⟩,El p cs bl)]++ [(kW (pS (ay s 1)) v,p.2.2.1.getD 0 jI),(opV (ay s 1) tp,Fc p x co)])=w0 at*
 generalize hR:aX s (ay s 1) p.2.1.toNat (opQ p cs bl x s (ay s 1) tp co [])=R at*
 generalize hA:Gd s (ay s 1) x p.2.1.toNat (opQ p cs bl x s (ay s 1) tp co []) (⟨1,0,0,0⟩,([],w0))=A at*
 have hc:ac (ay s 1)=true:=bF hs
 have eb:(wE p cs bl x s (ay s 1) tp co []).2.2.2=jJ s (Fc p x co)++(W++(lC s (R.2.1.2.2.2.1.getD 0 ⟨0,0,0,0⟩)++(lC s R.2.1.2.2.2.2.2.2++ []))):=by
  rw [eO]
  unfold IJ
  rw [e7,aK]
  show R.2.2.2.2++_++_=_
  rw [hWb,List.append_nil]
  show ([]++jJ s (Fc p x co))++W++_++_=_
  simp only [List.nil_append,List.append_assoc]
 have hu:=J2 cS (W++(lC s (R.2.1.2.2.2.1.getD 0 ⟨0,0,0,0⟩)++(lC s R.2.1.2.2.2.2.2.2++ [])))
 rw [<-eb] at hu
 have s1:=Wr hc (R.2.1.2.2.2.1.getD 0 ⟨0,0,0,0⟩) (lC s R.2.1.2.2.2.2.2.2++ [])
 have s2:=Wr hc R.2.1.2.2.2.2.2.2 []
 generalize (wE p cs bl x s (ay s 1) tp co []).2.2.2=b at*
 have ev:=aEe hs hp (f3:R.2.1.1=p) (B:=P) (us:=us) A.1 (ofP (pS (ay s 1)) (R.2.1.2.2.2.1.getD 0 ⟨0,0,0,0⟩)) (ofP (pS (ay s 1)) R.2.1.2.2.2.2.2.2) (opV (ay s 1) (ao tp).2.2) A.2.2 f1 (by rw [u4];exact congrArg (λt=> [t]) (by grind)) (λk=>u5 k) (by rw [u1];exact hn)
  (by rw [u3];show sc s ⟨1,0,0,0⟩*P=P;rw [aAk];grind) (aAm hs _) (aAm hs _) f2.symm
 refine ⟨wJ p (opV (ay s 1) (ao tp).2.2) A.1 (ofP (pS (ay s 1)) (R.2.1.2.2.2.1.getD 0 ⟨0,0,0,0⟩)) (ofP (pS (ay s 1)) R.2.1.2.2.2.2.2.2) us A.2.2,R.2.2.1,?_,?_,?_,?_⟩
 ·have vr:gr p [(⟨1,0,0,0⟩,El p cs bl)] x v s b tp=(0,(lC s (R.2.1.2.2.2.1.getD 0 ⟨0,0,0,0⟩)++(lC s R.2.1.2.2.2.2.2.2++ []),(R.2.2.1,A))):=by
   unfold gr an3
   rw [hu,hp,show rE (pS (ay s 1)) s [(⟨1,0,0,0⟩,El p cs bl)]= [HN (pS (ay s 1)) (⟨1,0,0,0⟩,El p cs bl)] by unfold rE;rw [List.takeWhile_cons,show onB s (El p cs bl)=true from cG.1];rfl]
   dsimp only
   rw [hw,<-hA]
   exact hv _ _
  unfold avE
  rw [e0,aK,hp,show ([(⟨1,0,0,0⟩,El p cs bl)].all λt:Tm=>onB s t.2)=true by rw [aA,cG.1];rfl,aK,hu,e4,e5,e6]
  unfold aEW
  rw [vr]
  dsimp only
  rw [s1]
  dsimp only
  rw [s2]
  have u2':A.2.1=us:=u2
  rw [u2']
  rfl
 ·have wl:(wtE (pS (ay p.1 1)) (kW (pS (ay p.1 1)) (ofP (pS (ay s 1)) (R.2.1.2.2.2.1.getD 0 ⟨0,0,0,0⟩))) us).length=p.2.2.1.length:=by rw [hn,<-u1];exact Te _ _ _ _
  unfold wJ
  generalize wtE (pS (ay p.1 1)) (kW (pS (ay p.1 1)) (ofP (pS (ay s 1)) (R.2.1.2.2.2.1.getD 0 ⟨0,0,0,0⟩))) us=w at*
  have e:upto (rI p.2.2.1 w) A.2.2 w.length=A.2.2++w.zip p.2.2.1:=by
   rw [<-rM (show w.length<=p.2.2.1.length by omega)]
   exact uJ (λi=>(w.getD i ⟨0,0,0,0⟩,p.2.2.1.getD i jI)) _ _
  rw [e]
  unfold cv at f6⊢
  rw [List.all_append,List.all_append,f6,aA,aA,hU,hW,show ((w.zip p.2.2.1).all λt=>onB s t.2)=true from List.all_eq_true.2 λt ht=>List.all_eq_true.1 hG _ (List.of_mem_zip ht).2]
  rfl
 ·have wl:(wtE (pS (ay p.1 1)) (kW (pS (ay p.1 1)) (ofP (pS (ay s 1)) (R.2.1.2.2.2.1.getD 0 ⟨0,0,0,0⟩))) us).length=p.2.2.1.length:=by rw [hn,<-u1];exact Te _ _ _ _
  have al:A.2.2.length<=100:=by
   have:=(xq (ay s 1) s x p.2.1.toNat (W++ [],((opQ p cs bl x s (ay s 1) tp co []).2.1,(⟨1,0,0,0⟩,([],w0)))) (by rw [hv];rfl)).2
   rw [hv,hA] at this
   have:A.2.2.length=w0.length+2*p.2.1.toNat:=this
   rw [<-hw] at this
   have:A.2.2.length=3+2*p.2.1.toNat:=this
   omega
  unfold wJ
  rw [bK,Si,wl]
  show _+2<=1000
  have:=r.2.2.2.2.2.1
  omega
 ·have t1:ld (tG hs (wJ p (opV (ay s 1) (ao tp).2.2) A.1 (ofP (pS (ay s 1)) (R.2.1.2.2.2.1.getD 0 ⟨0,0,0,0⟩)) (ofP (pS (ay s 1)) R.2.1.2.2.2.2.2.2) us A.2.2))+vO hs (opO p cs bl x (ay s 1) tp co)=
   gp (aC hs) (El p cs bl)+((mA hs).act (-sc s v) (gp (aC hs) (p.2.2.1.getD 0 jI))+(mA hs).act (sc s (opV (ay s 1) tp)) (gp (aC hs) (Fc p x co))):=by
   have rv:ld (tG hs A.2.2)+vO hs (opO p cs bl x (ay s 1) tp co)=_+vO hs R.2.1:=rv
   rw [<-ev] at rv
   generalize ld (tG hs (wJ p (opV (ay s 1) (ao tp).2.2) A.1 (ofP (pS (ay s 1)) (R.2.1.2.2.2.1.getD 0 ⟨0,0,0,0⟩)) (ofP (pS (ay s 1)) R.2.1.2.2.2.2.2.2) us A.2.2))=t at*
   generalize gp (aC hs) (El p cs bl)+((mA hs).act (-sc s v) (gp (aC hs) (p.2.2.1.getD 0 jI))+(mA hs).act (sc s (opV (ay s 1) tp)) (gp (aC hs) (Fc p x co)))=k at*
   refine ag2 (x:=vO hs R.2.1) ?_
   rw [<-WA k,<-rv]
   ac_rfl
  rw [getD_map (gp (aC hs)) p.2.2.1 0 jI 0 h0] at sv
  exact Ipa.anU (mA hs) _ _ _ t1 sv
end
section
variable {s:Int} (hs:ac s=true)
theorem agL {P:Pt} (hP:onB s P=true):P.2.2=true ↔ gp (aC hs) P=0:=by
 refine ⟨λh=> ?_,λh=> ?_⟩
 ·rw [RA P (fm hP).2.1]
  refine Subtype.ext ?_
  show toQ P=none
  unfold toQ
  rw [h]
  rfl
 ·rw [aF3 hs hP (vC hs) (h.trans (NX hs).symm)]
  rfl
variable [NeZero (pS (ay s 1))]
theorem azC (pr:Pr (pS (ay s 1))) {P:Pt} (hP:onB s P=true) (hi:P.2.2=false) (k:Zs s):(mA hs).act k (gp (aC hs) P)=0 ↔ k=0:=by
 refine ⟨λh=> ?_,λh=>by rw [h];exact (mA hs).Pu _⟩
 have hx:gp (aC hs) P≠0:=λe=>by rw [(agL hs hP).2 e] at hi;cases hi
 have hd:=aw6 hs pr (k:=k.val) h hx
 exact Fin.ext (Nat.eq_zero_of_dvd_of_lt hd k.isLt)
include hs in
theorem ayD (x:ab) (l:List ab):(rH (pS (ay s 1)) x l).nat<pS (ay s 1):=by
 cases l with
 |nil=>exact (eK (bF hs)).1
 |cons v r=>exact zT (aal (bF hs)) _ _
include hs in
theorem aHc (v:ab) {e:ab} (he:e.nat<pS (ay s 1)):sc s e-sc s v=0 ↔ dr (pS (ay s 1)) v ⟨0,0,0,0⟩=e:=by
 have hp:=eK (bF hs)
 have h1:(dr (pS (ay s 1)) v ⟨0,0,0,0⟩).nat=v.nat%pS (ay s 1):=cr hp
 refine ⟨λh=> ?_,λh=> ?_⟩
 ·have h2:sc s e=sc s v:=by grind
  have h3:e.nat%pS (ay s 1)=v.nat%pS (ay s 1):=congrArg Fin.val h2
  rw [bm he] at h3
  exact gF (h1.trans h3.symm)
 ·have h2:sc s e=sc s v:=by
   rw [<-h,ri hs,aas]
   grind
  grind
end
theorem Wq {a:Gg} (v:ab) (hk:(cR a.1==0)=true) (he:((fj a).1==0)=true) (ht:a.2.1.2.length<=140737488355328) (hco:a.2.2.1.length<=140737488355328):
 (Mz a==0)=true/\((zg a (fj a).2 v).1==0)=true/\cv a.1.1 (zg a (fj a).2 v).2.1=true/\(zg a (fj a).2 v).2.1.length<=1000/\(oB a (fj a).2 v).2.2=0/\
  (oB a (fj a).2 v).1=(dr (pS (ay a.1.1 1)) v ⟨0,0,0,0⟩==rH (pS (ay a.1.1 1)) a.2.2.2.2.2 a.2.2.2.1):=by
 obtain ⟨p,src,co,cs,bl,x⟩:=a
 have e1:(Mz (p,(src,(co,(cs,(bl,x)))))==0)=true:=by
  unfold fj at he
  cases h:Mz (p,(src,(co,(cs,(bl,x)))))==0
  ·rw [h,aT] at he
   exact absurd (h.symm.trans he) (by decide)
  ·rfl
 unfold fj at he⊢
 unfold oB
 rw [e1] at he⊢
 rw [aK] at he⊢
 rw [aK]
 have hs:ac p.1=true:=by
  have:=G0 hk
  cases h:ac p.1
  ·unfold cR at hk
   dsimp only at hk
   rw [h] at hk
   cases hk
  ·rfl
 have hq:pS (ay p.1 1)≠0:=by have:=eK (bF hs);omega
 haveI:NeZero (pS (ay p.1 1)):=⟨hq⟩
 have hpr:Pr (pS (ay p.1 1)):=(aC (bF hs)).pr
 obtain ⟨ts,T,h1,h2,h3,h4⟩:=aCg hs hpr rfl cs bl x v src.2 co he ht hco
 have hQ:zg (p,(src,(co,(cs,(bl,x))))) (Sr (p,(src,(co,(cs,(bl,x)))))).2.2.2 v=(0,(ts,([],T))):=h1
 dsimp only
 rw [hQ]
 obtain ⟨k1,k2⟩:=Ie hs h2
 refine ⟨rfl,rfl,h2,h3,rfl,?_⟩
 show (AF p.1 (wC p.1 ts)).2.2=_
 obtain ⟨b1,_,_⟩:=G0 hk
 have h0:0<p.2.2.1.length:=(pD (agb he).1).2.2.2.2.1
 have g0:=Lw (Bool.not_eq_true' _▸List.all_eq_true.1 b1 _ (List.getElem_mem h0))
 rw [<-iu (d:=jI) h0] at g0
 rw [h4,<-R6 hs] at k2
 have i1:=agL hs k1
 rw [k2,azC hs hpr g0.1 g0.2,aHc hs v (ayD hs x cs)] at i1
 show (AF p.1 (wC p.1 ts)).2.2=(dr (pS (ay p.1 1)) v ⟨0,0,0,0⟩==rH (pS (ay p.1 1)) x cs)
 rw [Bool.eq_iff_iff,i1,beq_iff_eq]
theorem adj (c:Int) (P:Pt):(jJ c P).length<=32:=by
 cases h:onB c P
 ·unfold jJ
  rw [h]
  exact Nat.zero_le _
 ·exact Nat.le_of_eq (tQ h)
theorem ao7 (c s:Int) (q:Cu):(bo c s q).2.2.2.2.length<=q.2.2.2.length+64:=by
 have h1:=adj c (avq q.1 (ao q.2.2.1).1)
 have h2:=adj c (Rx q.1 (ao (ao q.2.2.1).2.2).1)
 unfold bo
 cases (ao q.2.2.1).2.1==0
 ·exact Nat.le_add_right _ _
 cases (ao (ao q.2.2.1).2.2).2.1==0
 ·exact Nat.le_add_right _ _
 cases (ao q.2.1).2.1==0<;>cases bB (dr (pS s) (ao q.2.1).1 ⟨0,0,0,0⟩)<;>simp only [aK,aT,bK]<;>omega
theorem MY (c s:Int):∀ (n:Nat) (q:Cu),(aX c s n q).2.2.2.2.length<=q.2.2.2.length+64*n
 |0,q=>Nat.le_refl _
 |n+1,q=>by
  have h1:=ao7 c s q
  have h2:=MY c s n (bo c s q).2
  unfold aX
  cases decide (1<q.1.2.2.2.1.length)
  ·exact Nat.le_add_right _ _
  cases (bo c s q).1==0<;>simp only [aK,aT]<;>omega
theorem aw7 (p:mf) (cs:List ab) (bl x:ab) (c s:Int) (tp co:List ab) (out:List UInt8):(wE p cs bl x c s tp co out).2.2.2.length<=out.length+96+64*p.2.1.toNat:=by
 have h1:=adj c (Fc p x co)
 have h2:=MY c s p.2.1.toNat (opQ p cs bl x c s tp co out)
 have h3:(opQ p cs bl x c s tp co out).2.2.2=out++jJ c (Fc p x co):=rfl
 have h5:∀ v,(lC c v).length=32:=λv=>EY c v
 rw [h3,bK] at h2
 have h4:(IJ c (aX c s p.2.1.toNat (opQ p cs bl x c s tp co out))).2.2.2.length<=out.length+96+64*p.2.1.toNat:=by
  unfold IJ
  cases (aX c s p.2.1.toNat (opQ p cs bl x c s tp co out)).1==0
  ·exact cT h2 (by omega)
  ·rw [aK,bK,bK,h5,h5];omega
 unfold wE
 cases gA p c==0
 ·exact cT (Nat.le_add_right _ _) (Nat.le_add_right _ _)
 cases decide (cs.length<=p.2.2.1.length)
 ·exact cT (Nat.le_add_right _ _) (Nat.le_add_right _ _)
 cases decide (opN p<=co.length)
 ·exact cT (Nat.le_add_right _ _) (Nat.le_add_right _ _)
 cases (opR p co).2.1==0
 ·exact cT (Nat.le_add_right _ _) (Nat.le_add_right _ _)
 have h6:(out++jJ c (Fc p x co)).length<=out.length+96+64*p.2.1.toNat:=by rw [bK];omega
 cases (ao tp).2.1==0
 ·exact h6
 cases (ao (ao tp).2.2).2.1==0
 ·exact h6
 cases bB (opV s (ao tp).2.2)
 ·exact h4
 ·exact h6
theorem aDl {p:mf} (hk:(cR p==0)=true) (cs:List ab) (bl x:ab) {tp co:List ab} (ht:tp.length<=140737488355328) (hco:co.length<=140737488355328) (hg:p.2.2.1.length<=140737488355328):
 Vi p cs bl x p.1 (ay p.1 1) tp co []=true:=by
 have hs:ac p.1=true:=(Ot hk [] ⟨0,0,0,0⟩ (Nat.zero_le _)).1
 have hq:pS (ay p.1 1)≠0:=by have:=eK (bF hs);omega
 haveI:NeZero (pS (ay p.1 1)):=⟨hq⟩
 unfold Vi
 rw [ag ⟨hg,ht,hco,by show 0<=_;omega⟩,bF hs,Bool.true_and,Bool.true_and]
 cases hN:agc p cs p.1 co
 ·rfl
 rw [aK]
 unfold agc at hN
 simp only [aw] at hN
 obtain ⟨e0,l1,l2,_⟩:=hN
 have l1:=bn l1
 have l2:=bn l2
 have r:=pD e0
 obtain ⟨b1,b2,b3⟩:=G0 hk
 have hG:(p.2.2.1.all λP=>onB p.1 P)=true:=List.all_eq_true.2 λP hP=>(Lw (Bool.not_eq_true' _▸List.all_eq_true.1 b1 P hP)).1
 have hW:=(Lw b2).1
 have hU:=(Lw b3).1
 have n1:=Nt p
 have hn:=r.2.2.2.2.2.2.2.2
 have hK:p.2.1.toNat<=5:=by omega
 have n2:(co.take (opN p)).length=p.2.2.1.length:=by rw [bQ];omega
 have n4:(opS p x co).length=p.2.2.1.length:=by unfold opS;rw [cy];exact n2
 have cS:onB p.1 (Fc p x co)=true:=(Xy hs rfl hk (opS p x co) (opR p co).1 (by omega)).1
 rw [(Ot hk (opS p x co) (opR p co).1 (by omega)).2,cS,Bool.true_and,Bool.true_and]
 cases hN2:Qz (ay p.1 1) tp
 ·rfl
 rw [aK]
 have la:(opO p cs bl x (ay p.1 1) tp co).2.2.2.1.length=2^p.2.1.toNat:=by
  show (List.set (opU p cs x (ay p.1 1) tp co).1 0 _).length=_
  rw [cy,<-hn]
  exact (vf _ _ _ _ _ _ _).1.trans fW
 have lb:(opO p cs bl x (ay p.1 1) tp co).2.2.2.2.1.length=2^p.2.1.toNat:=by
  show (opU p cs x (ay p.1 1) tp co).2.1.length=_
  rw [<-hn,<-n4]
  exact (vf _ _ _ _ _ _ _).2
 obtain ⟨ro,rn⟩:=H4 hs p.2.1.toNat (opQ p cs bl x p.1 (ay p.1 1) tp co []) (by omega) rfl rfl la lb hn hU hW hG (cT (fN _) (cT (fN _) ht))
  (cT (fN _) (by rw [cq];omega)) (by show ([]++jJ p.1 (Fc p x co)).length+_<=_;rw [List.nil_append,tQ cS];omega)
 rw [ro,Bool.true_and]
 unfold m7
 cases e7:(aX p.1 (ay p.1 1) p.2.1.toNat (opQ p cs bl x p.1 (ay p.1 1) tp co [])).1==0
 ·rfl
 obtain ⟨f1,_,_,f4,_⟩:=rn e7
 have f4:_=([]++jJ p.1 (Fc p x co)).length+64*p.2.1.toNat:=f4
 rw [List.nil_append,tQ cS] at f4
 exact ag ⟨by omega,by omega⟩
theorem ate {a:Gg} (e0:(cR a.1==0)=true) (e2:(a.2.1.1==1)=true) (l1:a.1.2.2.1.length*72<=140737488355328) (l2:a.2.1.2.length*32<=140737488355328) (l3:a.2.2.1.length*32<=140737488355328) (l4:a.2.2.2.1.length*32<=140737488355328):
 XR a=true/\(Sr a).2.2.2.length<=1000:=by
 have hk:a.1.2.1.toNat<=5:=by
  have hs:=(Ot e0 [] ⟨0,0,0,0⟩ (Nat.zero_le _)).1
  have:(gA a.1 a.1.1==0)=true:=by
   unfold gA
   rw [e0,beq_self_eq_true]
   rfl
  have:=pD this
  omega
 have hl:(Sr a).2.2.2.length<=1000:=by
  have:=aw7 a.1 a.2.2.2.1 a.2.2.2.2.1 a.2.2.2.2.2 a.1.1 (ay a.1.1 1) a.2.1.2 a.2.2.1 []
  have h2:(Sr a).2.2.2.length<=0+96+64*a.1.2.1.toNat:=this
  omega
 refine ⟨?_,hl⟩
 have ho:sY (aGo a)=true:=aDl (tp:=a.2.1.2) (co:=a.2.2.1) e0 a.2.2.2.1 a.2.2.2.2.1 a.2.2.2.2.2 (by omega) (by omega) (by omega)
 have hb:eH (((Sr a).2.2.2,()),())=true:=ag (show (Sr a).2.2.2.length<=_ by omega)
 unfold XR
 rw [e2,ho,hb,show gR ((a.2.1,()),())=true from ag l2,show hZ ((a.1,()),())=true from ag l1,show dR ((a.2.2.1,()),())=true from ag l3,show oe ((a.2.2.1,()),())=true from ag l3,show dR ((a.2.2.2.1,()),())=true from ag l4,Bool.and_self,Bool.or_true]
 rfl
theorem aDQ {a:Gg} (v:ab) (e0:(cR a.1==0)=true) (e1:a.2.2.2.1.length<=a.1.2.2.1.length) (e2:(a.2.1.1==1)=true) (e3:((fj a).1==0)=true) (l1:a.1.2.2.1.length*72<=140737488355328) (l2:a.2.1.2.length*32<=140737488355328) (l3:a.2.2.1.length*32<=140737488355328) (l4:a.2.2.2.1.length*32<=140737488355328):
 Ws a (fj a).2 v=true:=by
 obtain ⟨_,hl⟩:=ate e0 e2 l1 l2 l3 l4
 obtain ⟨h1,h2,h3,h4,_⟩:=Wq v e0 e3 (by omega) (by omega)
 have hb:(fj a).2.length<=1000:=by
  unfold fj
  rw [h1]
  exact hl
 obtain ⟨hs,ha⟩:=Ot e0 a.2.2.2.1 a.2.2.2.2.1 e1
 have k1:oc ((a.1.1,a.2.1,(fj a).2,()),())=true:=by
  show (a.2.1.1==1&&decide ((fj a).2.length<=140737488355328))=true
  rw [e2,ag (by omega)]
  rfl
 have k2:iM ((a.1,a.2.2.2.1,a.2.2.2.2.1,()),())=true:=by
  show ((cR a.1==0)&&(decide (a.2.2.2.1.length<=a.1.2.2.1.length)&&cv a.1.1 (Sj a.1 a.2.2.2.1 a.2.2.2.2.1)))=true
  rw [e0,ag e1,ha]
  rfl
 have k3:ajZ a.1 (aDR a) (ay a.1.1 1) a.2.1.2=true:=by
  unfold ajZ
  rw [ag ⟨by omega,by show 1<=1000;omega,by omega⟩,beq_self_eq_true]
  rfl
 have k4:mD ((a.1.1,(zg a (fj a).2 v).2.1,()),())=true:=by
  show (ac a.1.1&&(decide ((zg a (fj a).2 v).2.1.length<=100000)&&cv a.1.1 (zg a (fj a).2 v).2.1))=true
  rw [hs,h3,ag (by omega)]
  rfl
 unfold Ws
 rw [k1,k2,k3,k4,show gR ((a.2.1,()),())=true from ag l2,show rO (((fj a).2,()),())=true from ag (show (fj a).2.length<=_ by omega),show hZ ((a.1,()),())=true from ag l1,show dR ((a.2.2.2.1,()),())=true from ag l4]
 simp only [Bool.or_true,Bool.and_self]
end
section
namespace Sx
open Go Go.RowKit Go.ChangeShapes Go.WideShapes Go.ChangeAt
def aHC (P:Program) (T:TypeId) (i:Nat) (T1:TypeId) (o k:Nat):Bool:=match P.underlying T with
 |some (.struct fs)=>match fs.toList[i]? with
  |some f=>Nat.beq f.offset o&&(Nat.beq f.type T1&&Nat.beq (P.cellsOf T1) k)
  |none=>false
 |_=>false
theorem acS {H:Type} {enc:TypeId×Value->H} {P:Program} {w:World} {sp:Nat->Bool} {T T1:TypeId} {i o k:Nat} (hb:aHC P T i T1 o k=true)
 {v c:Value} (hv:(v.cells.toList.drop o).take k=c.cells.toList) {d:DataW H} {ps:List MemPlace} (h:DataW.Trod enc P w 0 sp true T v d ps) (hw:∀ n ∈ d.weights P T,n<=reachBytes):
 ∃ d1 p1,DataW.Trod enc P w 0 sp true T1 c d1 p1/\∀ n ∈ d1.weights P T1,n<=reachBytes:=by
 unfold aHC at hb
 split at hb
 ·rename_i fs hu
  split at hb
  ·rename_i f hf
   simp only [aw] at hb
   have h0:f.offset=o:=aY hb.1
   have h2:f.type=T1:=aY hb.2.1
   have h3:P.cellsOf T1=k:=aY hb.2.2
   subst h2
   obtain ⟨fuel,hr⟩:=h
   cases fuel with
   |zero=>simp [DataW.trod] at hr
   |succ fuel=>
    simp only [DataW.trod,hu] at hr
    split at hr
    ·simp only [Option.map_eq_some_iff] at hr
     obtain ⟨xs,hm,hd⟩:=hr
     cases hd
     obtain ⟨m1,m2⟩:=yE hm
     obtain ⟨hi,hfi⟩:=List.getElem?_eq_some_iff.1 hf
     have hi':i<xs.length:=by rw [m1];exact hi
     have:=m2 i hi hi'
     rw [hfi,h0,h3,hv] at this
     refine ⟨xs[i].1,xs[i].2,⟨fuel,this⟩,λn hn=>hw n ?_⟩
     simp only [DataW.weights,hu]
     refine MM (i:=i) (t:=f.type) (d:=xs[i].1) ?_ ?_ hn
     ·rw [List.getElem?_map,hf];rfl
     ·rw [List.getElem?_map,m4 hi'];rfl
    ·cases hr
  ·cases hb
 ·cases hb
theorem BN {H:Type} {enc:TypeId×Value->H} {P:Program} {te:TE} (hte:kq P te) {w:World} {sp:Nat->Bool} {T T1 e:TypeId} {i o:Nat} {ti ei:TI} (hb:aHC P T i T1 o 1=true) (hT:te T1=some ti) (hd:ti.desc=.slice e) (hei:te e=some ei)
 {v:Value} {ad:Option Addr} {n cap:Nat} (hv:(v.cells.toList.drop o).take 1= [.slice ad n cap]) {d:DataW H} {ps:List MemPlace} (h:DataW.Trod enc P w 0 sp true T v d ps) (hw:∀ n ∈ d.weights P T,n<=reachBytes):n*ei.bytes<=reachBytes:=by
 obtain ⟨_,_,k1,k2⟩:=acS hb (c:=.slice ad n cap) hv h hw
 exact aao hte hT hd hei k1 k2
end Sx
end
section
open Sx Go
set_option maxRecDepth 100000
def kl:af:=⟨[.val true aEz,du],[],true,0,false⟩
abbrev Ji:Type:=(OU×oV)×Unit
def iA:aL:=⟨n9,[],false⟩
def GJ (a0:OU) (a1:ab):OT kl.Y:=
 let z0:kS×PUnit:=(a0.fst,())
 let z1:Int×aH:=fj a0
 let z2:Int:=ay a0.fst.fst (1:Int)
 let z3:=z1.snd
 let z4:Bool×Int×Int:=oB a0 z3 a1
 let z5:ab:= {w0:=0,w1:=0,w2:=0,w3:=0}
 let z6:Nat:=pS z2
 let z7:ab:=dr z6 a1 z5
 let z8:ab:=rH z6 a0.snd.snd.snd.snd.snd a0.snd.snd.snd.fst
 (gd [hZ (z0,()),ia (z0,())] (.br (!cR a0.fst==(0:Int))
 (.ok ⟨iA,((true,()),())⟩)
 (.br (decide ((↑(List.length a0.fst.snd.snd.fst):Int)<(↑(List.length a0.snd.snd.snd.fst):Int)))
  (.ok ⟨iA,((true,()),())⟩)
  (.br (!a0.snd.fst.fst==(1:Int))
   (.ok ⟨iA,((true,()),())⟩)
   (gd [DJ ((a0,()),())] (.br (!z1.fst==(0:Int))
    (.ok ⟨iA,((true,()),())⟩)
    (gd [dR ((a0.snd.snd.snd.fst,()),()),sD ((z2,a0.snd.snd.snd.fst,a0.snd.snd.snd.snd.snd,()),()),Jv ((a0,z3,a1,()),())] (.br (z4.snd.snd==(0:Int))
     (gd [gQ ((z2,a1,z5,()),())] (.ok ⟨iA,((z4.fst==(z7.w0==z8.w0&&(z7.w1==z8.w1&&(z7.w2==z8.w2&&(z7.w3==z8.w3&&true)))),()),())⟩))
     (.ok ⟨iA,((false,()),())⟩)))))))))
theorem abE (pre:Ji->Bool) (F:Ji->OT kl.Y) (hF:∀ (x:Ji) oy,pre x=true->(F x).run=some oy->(GJ x.1.1 x.1.2.1).run=some oy):aa aj 6 (kl.az pre F):=
 dh ans 6 Tryz.f6 kl [iA] bE (λx=>GJ x.1.1 x.1.2.1) hF
def oo (x:Ji):Bool:=decide (x.1.1.1.2.2.1.length*72<=140737488355328/\x.1.1.2.1.2.length*32<=140737488355328/\x.1.1.2.2.1.length*32<=140737488355328/\x.1.1.2.2.2.1.length*32<=140737488355328)
def agy (_:Ji):OT kl.Y:=.ok ⟨iA,((true,()),())⟩
theorem ayH (a b:ab):(a.w0==b.w0&&(a.w1==b.w1&&(a.w2==b.w2&&(a.w3==b.w3&&true))))=(a==b):=by
 obtain ⟨a0,a1,a2,a3⟩:=a
 obtain ⟨b0,b1,b2,b3⟩:=b
 rw [Bool.eq_iff_iff]
 simp
theorem aqA:aa aj 6 (kl.az oo agy):=abE _ _ λx oy hp ho=>by
 rw [<-ho]
 clear ho
 obtain ⟨⟨a,v,⟨⟩⟩,⟨⟩⟩:=x
 obtain ⟨l1,l2,l3,l4⟩:=bn (show decide (a.1.2.2.1.length*72<=140737488355328/\a.2.1.2.length*32<=140737488355328/\a.2.2.1.length*32<=140737488355328/\a.2.2.2.1.length*32<=140737488355328)=true from hp)
 show (GJ a v).run=some (⟨iA,((true,()),())⟩:kl.Y)
 unfold GJ
 refine (ae ?_).trans ?_
 ·simp only [aA,aI,aJ,aw]
  exact ⟨ag l1,ag (show a.1.2.2.1.length<=_ by omega)⟩
 refine eU (cR a.1==0) (λe0=> ?_) (λe0=> ?_)
 ·exact OT.ak (congrArg (!·) e0)
 refine (OT.au (congrArg (!·) e0)).trans ?_
 refine eU (decide ((a.1.2.2.1.length:Int)<(a.2.2.2.1.length:Int))) (λe1=> ?_) (λe1=> ?_)
 rotate_left
 ·exact OT.ak e1
 refine (OT.au e1).trans ?_
 have e1:a.2.2.2.1.length<=a.1.2.2.1.length:=by have:=of_decide_eq_false e1;omega
 refine eU (a.2.1.1==1) (λe2=> ?_) (λe2=> ?_)
 ·exact OT.ak (congrArg (!·) e2)
 refine (OT.au (congrArg (!·) e2)).trans ((ae ?_).trans ?_)
 ·simp only [aA,aI,aJ]
  exact (ate e0 e2 l1 l2 l3 l4).1
 refine eU ((fj a).1==0) (λe3=> ?_) (λe3=> ?_)
 ·exact OT.ak (congrArg (!·) e3)
 obtain ⟨h1,h2,h3,h4,h5,h6⟩:=Wq v e0 e3 (by omega) (by omega)
 have hs:ac (ay a.1.1 1)=true:=bF (Ot e0 [] ⟨0,0,0,0⟩ (Nat.zero_le _)).1
 refine (OT.au (congrArg (!·) e3)).trans ((ae ?_).trans ?_)
 ·simp only [aA,aI,aJ,aw]
  exact ⟨ag l4,hs,aDQ v e0 e1 e2 e3 l1 l2 l3 l4⟩
 refine (OT.ak (beq_iff_eq.2 h5)).trans ((ae ?_).trans ?_)
 ·simp only [aA,aI,aJ]
  exact hs
 ·refine congrArg (λb:Bool=>some (⟨iA,((b,()),())⟩:kl.Y)) ?_
  rw [ayH,h6,beq_self_eq_true]
def abD:bx:=(kl.az oo agy)
theorem VA:aa aj 6 abD:=aqA
end
end Go.Proofs.YthnnknnbfhkomaaGreat
