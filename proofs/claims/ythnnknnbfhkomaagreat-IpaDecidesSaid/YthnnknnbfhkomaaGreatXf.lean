/- A symbolic machine for Go code over plain data, and functions of the program as it shows them. No statement is proved in this file. -/
import Derived.KernelRfl
import Derived.Test.YthnnknnbfhkomaaGreatXe
set_option linter.unusedSimpArgs false
set_option linter.unusedVariables false
set_option linter.unusedSectionVars false
namespace Go.Proofs.YthnnknnbfhkomaaGreat
section
open Sx Go
set_option maxRecDepth 100000
def sT:af:=⟨[.val true aAw,dW,fu,jt,dY,dY],[aiv,kD,ug,(3,jA)],false,3,true⟩
def jc:aH:=⟨ic,[aiv,kD,ug,(3,jA)],false⟩
noncomputable abbrev alX:anK:=aHw
def aD4:Nat:=2
theorem arf:Le ag alX:=api
abbrev Jc:Type:=(kP×Unit×Unit×az×ru)×kC×jw×fq×df
def aD5:Shape:=⟨245,[rz,(2,fu),(3,jt),(6,B2),nG,nF,B1,(244,.ptr 7 0 0)],aBx,4,true⟩
def ax3:Shape:=⟨244,[rz,(2,fu),(3,jt),(6,B2),nG,nF,B1,(13,aB),Ej,(15,.own 9),(46,aB),(47,aB)],aBD,8,true⟩
abbrev cS:Type:=(Unit×Unit×az×Unit×Unit×Unit×Unit×Int×rv)×aBs
def vj:Shape:=⟨244,[B1],aBx,8,true⟩
abbrev ym:Type:=bQ×kC×jw×fq×aG×rn×ao×ao×mG
def vk:Shape:=⟨244,[rz,(2,fu),(3,jt),(6,B2),nG,nF,B1,(13,aB),Ej,(15,.own 9)],aBD,8,true⟩
abbrev qg:Type:=(Unit×Unit×az×Unit×Unit×Unit×Unit×kC)×aBs
def aya (a3:az) (a13:Int) (a46:Int) (a47:Int) (c0_0:Int) (c1_0:Int) (c1_1:az) (c2_0:az) (c3:aG) (c4_0:kP) (c5:ao) (c6:ao) (c7_0:Int) (c8_0:kP) (c8_1:Int) (c8_2:ab) (c8_5:cB) (c8_6:ab) (c9:az) (c10:az) (c11:az):OT (Sum cS aT):=
 let z0:mI:=ay c2_0
 let z1:=z0.snd
 let z2:=z1.fst
 let z3:Nat:=List.length c9
 let z4:Nat:=Int.toNat a47
 let z5:=z1.snd
 (.br (decide (a47<a46))
 (gd [nZ (((),()),(c2_0,()),())] (.br (z2==(0:Int))
  (gd [inB a47 z3,decide (z4<z3),inR (a47+(1:Int))] (.ok (.inl (((),(),a3,(),(),(),(),a13,(),(),a46,a47+(1:Int),()),(c0_0,(),(),()),(c1_0,c1_1,()),(z5,()),c3,(c4_0,()),c5,c6,(c7_0,()),(c8_0,c8_1,c8_2,(),(),c8_5,c8_6,()),List.set c9 z4 z0.fst,c10,c11,()))))
  (.ok (.inr ⟨(.pan (.iface 175 (.agg [.int z2])),vj),(((),()),(c0_0,(),(),()),(c1_0,c1_1,()),(z5,()),c3,(c4_0,()),c5,c6,(c7_0,()),())⟩))))
 (.ok (.inr ⟨(.exit 0,vk),(((),(),a3,(),(),(),(),a13,(),(),()),(c0_0,(),(),()),(c1_0,c1_1,()),(c2_0,()),c3,(c4_0,()),c5,c6,(c7_0,()),(c8_0,c8_1,c8_2,(),(),c8_5,c8_6,()),c9,c10,c11,())⟩)))
def Gf (s:cS):OT (Sum cS aT):=aya s.1.2.2.1 s.1.2.2.2.2.2.2.2.1 s.1.2.2.2.2.2.2.2.2.2.2.1 s.1.2.2.2.2.2.2.2.2.2.2.2.1 s.2.1.1 s.2.2.1.1 s.2.2.1.2.1 s.2.2.2.1.1 s.2.2.2.2.1 s.2.2.2.2.2.1.1 s.2.2.2.2.2.2.1 s.2.2.2.2.2.2.2.1 s.2.2.2.2.2.2.2.2.1.1 s.2.2.2.2.2.2.2.2.2.1.1 s.2.2.2.2.2.2.2.2.2.1.2.1 s.2.2.2.2.2.2.2.2.2.1.2.2.1 s.2.2.2.2.2.2.2.2.2.1.2.2.2.2.2.1 s.2.2.2.2.2.2.2.2.2.1.2.2.2.2.2.2.1 s.2.2.2.2.2.2.2.2.2.2.1 s.2.2.2.2.2.2.2.2.2.2.2.1 s.2.2.2.2.2.2.2.2.2.2.2.2.1
def agL (g0_p:cS->ym) (v0:cS->Int) (c0_p:cS->Bool) (g0_0:cS->qg) (s:cS):OT aT:=(.br (c0_p s) (.ok ⟨(.pan (.iface 175 (.agg [.int (v0 s)])),vj),g0_p s⟩) (.ok ⟨(.exit 0,vk),g0_0 s⟩))
def ax2:Shape:=⟨244,[rz,(2,fu),(3,jt),nG,nF,B1,Ej,(15,.own 9),(17,.ptr 10 0 0),(18,.ptr 11 0 0),(19,.ptr 12 0 0),(117,aB),(118,aB)],[(0,.cells [aB,zB,.own 13]),kD,ug,(3,.gone),(4,uc),BU,uf,(7,oU),(8,.cells [Yq,aB,dY,.own 14,.own 15,wG,dY]),(9,ft),(10,fW),(11,fW),(12,fW),(13,jA),(14,ft),(15,ft)],8,true⟩
abbrev gu:Type:=(Unit×Unit×az×Unit×Unit×Unit×Yo)×kC×jw×fq×Unit×rn×ao×ao×eE×aip×az×ao×ao×ao×aG×az×fq
def vi:Shape:=⟨244,[rz,(2,fu),(3,jt),nG,nF,B1,Ej,(17,.ptr 9 0 0),(18,.ptr 10 0 0)],[(0,.cells [aB,zB,.own 11]),kD,ug,(3,.gone),(4,uc),BU,uf,(7,oU),(8,.cells [Yq,aB,dY,.own 12,.own 13,wG,dY]),(9,fW),(10,fW),(11,jA),(12,ft),(13,ft)],8,true⟩
abbrev qf:Type:=(Unit×Unit×az×Unit×Unit×K2)×kC×jw×fq×Unit×rn×ao×ao×eE×aip×ao×ao×aG×az×fq
def ax9 (a3:az) (a117:Int) (a118:Int) (c0_0:Int) (c1_0:Int) (c1_1:az) (c2_0:az) (c4_0:kP) (c5:ao) (c6:ao) (c7_0:Int) (c8_0:kP) (c8_1:Int) (c8_2:ab) (c8_5:cB) (c8_6:ab) (c9:az) (c10:ao) (c11:ao) (c12:ao) (c13:aG) (c14:az) (c15:az):OT (Sum gu aT):=
 let z0:Nat:=List.length c9
 let z1:Nat:=Int.toNat a118
 let z2:ab:= {w0:=List.getD c11 0 0,w1:=List.getD c11 1 0,w2:=List.getD c11 2 0,w3:=List.getD c11 3 0}
 let z3:ab:= {w0:=0,w1:=0,w2:=0,w3:=0}
 let z4:ab:=List.getD c9 z1 z3
 let z5:Nat:=List.length c14
 let z6:Nat:=List.length a3
 let z7:Nat:=pS c8_1
 let z8:az:=List.set c14 z1 (aQ z7 z2 z4)
 let z9:Nat:=List.length z8
 let z10:Bool:=inB a118 z9
 let z11:Bool:=decide (z1<z9)
 let z12:ab:=List.getD z8 z1 z3
 let z13:ab:=List.getD a3 z1 z3
 let z14:Nat:=List.length c12
 let z15:Bool:=decide (4<=z14)
 let z16:Bool:=decide ((List.length c15+1)*32<=140737488355328)
 let z17:Bool:=decide (4<=List.length c6)
 let z18:ab:= {w0:=List.getD c12 0 0,w1:=List.getD c12 1 0,w2:=List.getD c12 2 0,w3:=List.getD c12 3 0}
 let z19:ab:= {w0:=List.getD c6 0 0,w1:=List.getD c6 1 0,w2:=List.getD c6 2 0,w3:=List.getD c6 3 0}
 let z20:Bool:=dS ((c8_1,z18,z19,()),())
 let z21:Bool:=decide ((4/1:Nat)+0<=z14)
 let z22:Bool:=inR (a118+(1:Int))
 let z23:ab:=aQ z7 z18 z19
 let z24:ao:=List.set (List.set (List.set (List.set c12 0 z23.w0) 1 z23.w1) 2 z23.w2) 3 z23.w3
 let z25:az:=c15++ [z18]
 (.br (decide (a118<a117))
 (gd [decide (4<=List.length c11),inB a118 z0,decide (z1<z0),dS ((c8_1,z2,z4,()),()),inB a118 z5,decide (z1<z5)] (.br (decide (a118<(↑z6:Int)))
  (gd [z10,z11,inB a118 z6,hZ ((c8_1,z12,z13,()),()),z10,z11,z15,z16,z15,z17,z20,z21,z22] (.ok (.inl (((),(),a3,(),(),(),(),(),(),(),(),a117,a118+(1:Int),()),(c0_0,(),(),()),(c1_0,c1_1,()),(c2_0,()),(),(c4_0,()),c5,c6,(c7_0,()),(c8_0,c8_1,c8_2,(),(),c8_5,c8_6,()),c9,c10,c11,z24,c13,List.set z8 z1 (fp z7 z12 z13),z25,()))))
  (gd [z15,z16,z15,z17,z20,z21,z22] (.ok (.inl (((),(),a3,(),(),(),(),(),(),(),(),a117,a118+(1:Int),()),(c0_0,(),(),()),(c1_0,c1_1,()),(c2_0,()),(),(c4_0,()),c5,c6,(c7_0,()),(c8_0,c8_1,c8_2,(),(),c8_5,c8_6,()),c9,c10,c11,z24,c13,z8,z25,()))))))
 (.ok (.inr ⟨(.exit 2,vi),(((),(),a3,(),(),(),(),(),(),()),(c0_0,(),(),()),(c1_0,c1_1,()),(c2_0,()),(),(c4_0,()),c5,c6,(c7_0,()),(c8_0,c8_1,c8_2,(),(),c8_5,c8_6,()),c10,c11,c13,c14,c15,())⟩)))
def Ge (s:gu):OT (Sum gu aT):=ax9 s.1.2.2.1 s.1.2.2.2.2.2.2.2.2.2.2.2.1 s.1.2.2.2.2.2.2.2.2.2.2.2.2.1 s.2.1.1 s.2.2.1.1 s.2.2.1.2.1 s.2.2.2.1.1 s.2.2.2.2.2.1.1 s.2.2.2.2.2.2.1 s.2.2.2.2.2.2.2.1 s.2.2.2.2.2.2.2.2.1.1 s.2.2.2.2.2.2.2.2.2.1.1 s.2.2.2.2.2.2.2.2.2.1.2.1 s.2.2.2.2.2.2.2.2.2.1.2.2.1 s.2.2.2.2.2.2.2.2.2.1.2.2.2.2.2.1 s.2.2.2.2.2.2.2.2.2.1.2.2.2.2.2.2.1 s.2.2.2.2.2.2.2.2.2.2.1 s.2.2.2.2.2.2.2.2.2.2.2.1 s.2.2.2.2.2.2.2.2.2.2.2.2.1 s.2.2.2.2.2.2.2.2.2.2.2.2.2.1 s.2.2.2.2.2.2.2.2.2.2.2.2.2.2.1 s.2.2.2.2.2.2.2.2.2.2.2.2.2.2.2.1 s.2.2.2.2.2.2.2.2.2.2.2.2.2.2.2.2.1
def agK (g2_2:gu->qf) (s:gu):OT aT:=(.ok ⟨(.exit 2,vi),g2_2 s⟩)
def ax1:Shape:=⟨244,[rz,(2,fu),B1,Ej],aBB,8,true⟩
abbrev cy:Type:=K2×aBp
def lN:Shape:=⟨244,[B1],[(0,.cells [aB,zB,.own 8]),kD,ug,(3,.gone),(4,uc),BU,uf,(7,oU),(8,jA)],8,true⟩
abbrev yk:Type:=bQ×kC×jw×fq×Unit×rn×ao×ao×eE×df
def om:Shape:=⟨244,[rz,B1,Ej],aBB,8,true⟩
abbrev yl:Type:=nC×aBp
def ax8 (c0_0:Int) (c1_0:Int) (c1_1:az) (c2_0:az) (c4_0:kP) (c5:ao) (c6:ao) (c7_0:Int) (c8_0:FM) (c9:aG):OT (Sum cy aT):=
 let z0:(PUnit×BQ)×(FM×PUnit)×auJ:=(((),(),(),()),(c8_0,()),(c0_0,(),(),()),(c1_0,c1_1,()),(c2_0,()),c9,())
 let z1:Int×FM×az×az×aG:=cJ c0_0 c1_0 (FD z0)
 let z2:=z1.fst
 let z3:=z1.snd
 let z4:=z3.snd
 let z5:=z4.fst
 let z6:=z4.snd
 let z7:=z6.fst
 let z8:=z6.snd
 (.br (decide ((1:Int)<(↑(List.length c8_0.snd.snd.snd.fst):Int)))
 (gd [Dq z0] (.br (z2==(0:Int))
  (.ok (.inl (((),(),(),(),()),(c0_0,(),(),()),(c1_0,z5,()),(z7,()),(),(c4_0,()),c5,c6,(c7_0,()),(z3.fst,()),z8,())))
  (.ok (.inr ⟨(.pan (.iface 175 (.agg [.int z2])),lN),(((),()),(c0_0,(),(),()),(c1_0,z5,()),(z7,()),(),(c4_0,()),c5,c6,(c7_0,()),z8,())⟩))))
 (.ok (.inr ⟨(.exit 4,om),(((),(),(),()),(c0_0,(),(),()),(c1_0,c1_1,()),(c2_0,()),(),(c4_0,()),c5,c6,(c7_0,()),(c8_0,()),c9,())⟩)))
def A3 (s:cy):OT (Sum cy aT):=ax8 s.2.1.1 s.2.2.1.1 s.2.2.1.2.1 s.2.2.2.1.1 s.2.2.2.2.2.1.1 s.2.2.2.2.2.2.1 s.2.2.2.2.2.2.2.1 s.2.2.2.2.2.2.2.2.1.1 s.2.2.2.2.2.2.2.2.2.1.1 s.2.2.2.2.2.2.2.2.2.2.1
def agJ (g4_p:cy->yk) (v4:cy->Int) (c4_p:cy->Bool) (g4_4:cy->yl) (s:cy):OT aT:=(.br (c4_p s) (.ok ⟨(.pan (.iface 175 (.agg [.int (v4 s)])),lN),g4_p s⟩) (.ok ⟨(.exit 4,om),g4_4 s⟩))
section
variable (ok0:cS->Bool) (g0_p:cS->ym) (v0:cS->Int) (c0_p:cS->Bool) (g0_0:cS->qg) (ok2:gu->Bool) (g2_2:gu->qf) (ok4:cy->Bool) (g4_p:cy->yk) (v4:cy->Int) (c4_p:cy->Bool) (g4_4:cy->yl)
def QT (a0:kP) (a3:az) (a4:ab) (a5:ab) (c0_0:Int) (c1_0:Int) (c1_1:az) (c2_0:az) (c3:aG):OT sT.Y:=
 let z0:Int:=kR a0 c0_0
 let z1:Int:=(↑(List.length a0.snd.snd.fst):Int)
 let z2:ab:= {w0:=0,w1:=0,w2:=0,w3:=0}
 let z3:az:=List.replicate (Int.toNat z1) z2
 let z4:cS:=(((),(),a3,(),(),(),(),z1,(),(),(↑(List.length z3):Int),(0:Int),()),(c0_0,(),(),()),(c1_0,c1_1,()),(c2_0,()),c3,(a0,()),[a4.w0,a4.w1,a4.w2,a4.w3],[a5.w0,a5.w1,a5.w2,a5.w3],((0:Int),()),(a0,bm a0.fst (1:Int),z2,(),(),a0.snd.snd.fst,z2,()),z3,[],[],())
 let z5:=(g0_p z4).snd
 let z6:=z5.snd
 let z7:=z6.fst
 let z8:=z6.snd
 let z9:PUnit×PUnit:=((),())
 let z10:qg:=g0_0 z4
 let z11:=z10.snd
 let z12:=z11.snd
 let z13:=z12.snd
 let z14:=z13.fst.fst
 let z15:mI:=ay z14
 let z16:=z15.snd
 let z17:=z16.fst
 let z18:=z13.snd
 let z19:=z18.snd
 let z20:=z19.snd
 let z21:=z20.snd
 let z22:=z21.snd
 let z23:=z22.snd
 let z24:=z23.snd
 let z25:=z24.fst
 let z26:Nat:=List.length z25
 let z27:Bool:=inB (0:Int) z26
 let z28:Bool:=decide (0<z26)
 let z29:=z21.fst
 let z30:=z23.fst
 let z31:=z30.snd
 let z32:=z31.fst
 let z33:ab:= {w0:=List.getD z29 0 0,w1:=List.getD z29 1 0,w2:=List.getD z29 2 0,w3:=List.getD z29 3 0}
 let z34:ab:=List.getD z25 0 z2
 let z35:Nat:=pS z32
 let z36:ab:=L0 z35 z33 z25
 let z37:=z19.fst.fst
 let z38:az:=List.set z25 0 (gZ z35 z34 z36)
 let z39:=z15.fst
 let z40:cM:=aEK z37 z38 z39
 let z41:=z11.fst.fst
 let z42:BQ:=((),(),())
 let z43:Int×BQ:=(z41,z42)
 let z44:=z12.fst
 let z45:=z44.fst
 let z46:=z44.snd.fst
 let z47:K5:=(z45,z46,())
 let z48:=z18.fst
 let z49:aG:=z48++Gr z41 z40
 let z50:Fo:=(z49,())
 let z51:mI:=ay z46
 let z52:=z51.snd
 let z53:=z52.fst
 let z54:=z52.snd
 let z55:mI:=ay z54
 let z56:=z55.snd
 let z57:=z56.fst
 let z58:Nat:=pS z45
 let z59:ab:=fp z58 z55.fst z2
 let z60:=z56.snd
 let z61:=z16.snd
 let z62:=z10.fst.snd.snd
 let z63:=z62.snd.snd.snd.snd.snd.fst
 let z64:az:=List.replicate (Int.toNat z63) z2
 let z65:=z31.snd.snd.snd.snd
 let z66:ab:=fp z58 z51.fst z2
 let z67:gu:=(((),(),z62.fst,(),(),(),(),(),(),(),(),(↑(List.length z64):Int),(0:Int),()),(z41,(),(),()),(z45,z60,()),(z61,()),(),(z37,()),z20.fst,z29,(z22.fst.fst,()),(z30.fst,z32,z59,(),(),z65.fst,z65.snd.fst,()),z38,[z39.w0,z39.w1,z39.w2,z39.w3],[z66.w0,z66.w1,z66.w2,z66.w3],[(1:UInt64),(0:UInt64),(0:UInt64),(0:UInt64)],z49,z64,z24.snd.snd.fst,())
 let z68:qf:=g2_2 z67
 let z69:=z68.snd
 let z70:=z69.snd
 let z71:=z70.snd
 let z72:=z71.snd.snd
 let z73:=z72.snd
 let z74:=z73.snd
 let z75:=z74.snd
 let z76:=z75.snd
 let z77:=z76.snd
 let z78:=z77.snd
 let z79:=z78.snd
 let z80:=z79.snd
 let z81:=z80.fst
 let z82:Nat:=List.length z81
 let z83:Bool:=inB (0:Int) z82
 let z84:Bool:=decide (0<z82)
 let z85:=z74.fst
 let z86:=z76.fst
 let z87:=z86.snd
 let z88:=z87.fst
 let z89:=z68.fst.snd.snd.fst
 let z90:ab:= {w0:=List.getD z85 0 0,w1:=List.getD z85 1 0,w2:=List.getD z85 2 0,w3:=List.getD z85 3 0}
 let z91:ab:=List.getD z81 0 z2
 let z92:Nat:=pS z88
 let z93:ab:=L0 z92 z90 z89
 let z94:=z73.fst
 let z95:=z78.fst
 let z96:=z77.fst
 let z97:ab:= {w0:=List.getD z95 0 0,w1:=List.getD z95 1 0,w2:=List.getD z95 2 0,w3:=List.getD z95 3 0}
 let z98:ab:= {w0:=List.getD z96 0 0,w1:=List.getD z96 1 0,w2:=List.getD z96 2 0,w3:=List.getD z96 3 0}
 let z99:ab:= {w0:=List.getD z94 0 0,w1:=List.getD z94 1 0,w2:=List.getD z94 2 0,w3:=List.getD z94 3 0}
 let z100:ab:=aQ z92 z97 z98
 let z101:=z70.fst
 let z102:=z87.snd
 let z103:cy:=(((),(),(),(),()),(z69.fst.fst,(),(),()),(z101.fst,z101.snd.fst,()),(z71.fst.fst,()),(),(z72.fst.fst,()),z94,z85,(z75.fst.fst,()),((z86.fst,z88,z102.fst,List.set z81 0 (gZ z92 z91 z93),z80.snd.fst,z102.snd.snd.snd.fst,fp z92 z99 z100),()),z79.fst,())
 let z104:=(g4_p z103).snd
 let z105:=z104.snd
 let z106:=z105.fst
 let z107:=z105.snd
 let z108:=(g4_4 z103).snd
 let z109:=z108.snd
 let z110:=z109.snd
 let z111:=z110.snd.snd.snd.snd.snd.snd
 let z112:=z111.fst.fst.snd.snd.snd
 let z113:=z112.fst
 let z114:ab:=List.getD z113 0 z2
 let z115:=z108.fst.fst
 let z116:Int×BQ:=(z115,z42)
 let z117:=z109.fst
 let z118:=z117.fst
 let z119:=z117.snd.fst
 let z120:K5:=(z118,z119,())
 let z121:=z111.snd.fst
 let z122:=z112.snd.snd.snd
 let z123:aG:=z121++LC z115 z114
 (gd [vh ((a0,c0_0,()),())] (.br (z0==(0:Int))
 (.br (decide ((↑(List.length a3):Int)<=z1))
  (gd [decide ((0:Int)<=z1)&&decide (z1<=z1)&&decide (z1*(32:Int)<=(140737488355328:Int))&&decide (z1<=(140737488355328:Int)),ok0 z4] (.br (c0_p z4)
   (.ok ⟨jc,((v0 z4,()),(z5.fst.fst,(),(),()),(z7.fst,z7.snd.fst,()),(z8.fst.fst,()),z8.snd.fst,())⟩)
   (gd [nZ (z9,(z14,()),())] (.br (z17==(0:Int))
    (gd [z27,z28,decide (4<=List.length z29),Az ((z32,z25,z33,()),()),Bb ((z32,z34,z36,()),()),z27,z28,ko ((z37,z38,z39,()),()),jC (((),z40,()),z43,z47,z48,()),rP (z9,z43,z47,z50)] (.br (z53==(0:Int))
     (gd [rP (z9,z43,(z45,z54,()),z50)] (.br (z57==(0:Int))
      (.br (bJ z59)
       (.ok ⟨jc,(((100:Int),()),(z41,(),(),()),(z45,z60,()),(z61,()),z49,())⟩)
       (gd [decide ((0:Int)<=z63)&&decide (z63<=z63)&&decide (z63*(32:Int)<=(140737488355328:Int))&&decide (z63<=(140737488355328:Int)),ok2 z67,z83,z84,decide (4<=List.length z85),Az ((z88,z89,z90,()),()),Bb ((z88,z91,z93,()),()),z83,z84,decide (4<=List.length z94),decide (4<=List.length z95),decide (4<=List.length z96),dS ((z88,z97,z98,()),()),hZ ((z88,z99,z100,()),()),ok4 z103] (.br (c4_p z103)
        (.ok ⟨jc,((v4 z103,()),(z104.fst.fst,(),(),()),(z106.fst,z106.snd.fst,()),(z107.fst.fst,()),z107.snd.snd.snd.snd.snd.snd.fst,())⟩)
        (gd [inB (0:Int) (List.length z113),pa (((),z114,()),z116,z120,z121,()),pa (((),z122,()),z116,z120,z123,())] (.ok ⟨jc,(((0:Int),()),(z115,(),(),()),(z118,z119,()),(z110.fst.fst,()),z123++LC z115 z122,())⟩)))))
      (.ok ⟨jc,((z57,()),(z41,(),(),()),(z45,z60,()),(z61,()),z49,())⟩)))
     (.ok ⟨jc,((z53,()),(z41,(),(),()),(z45,z54,()),(z61,()),z49,())⟩)))
    (.ok ⟨jc,((z17,()),(z41,(),(),()),(z45,z46,()),(z61,()),z48,())⟩)))))
  (.ok ⟨jc,(((50:Int),()),(c0_0,(),(),()),(c1_0,c1_1,()),(c2_0,()),c3,())⟩))
 (.ok ⟨jc,((z0,()),(c0_0,(),(),()),(c1_0,c1_1,()),(c2_0,()),c3,())⟩)))
theorem alY (h0:aY Gf ok0 (agL g0_p v0 c0_p g0_0)) (h2:aY Ge ok2 (agK g2_2)) (h4:aY A3 ok4 (agJ g4_p v4 c4_p g4_4)) (pre:Jc->Bool) (F:Jc->OT sT.Y) (hF:∀ (x:Jc) oy,pre x=true->(F x).run=some oy->(QT ok0 g0_p v0 c0_p g0_0 ok2 g2_2 ok4 g4_p v4 c4_p g4_4 x.1.1 x.1.2.2.2.1 x.1.2.2.2.2.1 x.1.2.2.2.2.2.1 x.2.1.1 x.2.2.1.1 x.2.2.1.2.1 x.2.2.2.1.1 x.2.2.2.2.1).run=some oy):aa ag 35 (sT.aw pre F):=
 aIp kG arf aD4 aD5 35 Tryz.f35 sT [jc] (aIz kG [(14,26),(14,27)] 4 ax1 [(4,om)] none (some (175,lN)) A3 bw h4 (js kG 2 ax2 [(2,vi)] none none Ge bw h2 (js kG 0 ax3 [(0,vk)] none (some (175,vj)) Gf bw h0 bw))) (λx=>QT ok0 g0_p v0 c0_p g0_0 ok2 g2_2 ok4 g4_p v4 c4_p g4_4 x.1.1 x.1.2.2.2.1 x.1.2.2.2.2.1 x.1.2.2.2.2.2.1 x.2.1.1 x.2.2.1.1 x.2.2.1.2.1 x.2.2.2.1.1 x.2.2.2.2.1) hF
end
theorem aDd {α:Type} (e:List α) (i:Nat) (v:α) (h:i<e.length):(e.set i v).take (i+1)=e.take i++ [v]:=by
 refine List.ext_getElem? λj=> ?_
 grind
def I9:cS->Bool|((_,_,cs,_,_,_,_,a13,_,_,lim,i,_),x0,x1,(co,_),x3,x4,x5,x6,x7,(y0,y1,y2,_,_,y5,y6,_),e,x10,x11,_)=>decide (lim=(e.length:Int)/\i=0/\e.length<=1000/\co.length<=140737488355328)
def Jb:cS->ym|((_,_,cs,_,_,_,_,a13,_,_,lim,i,_),x0,x1,(co,_),x3,x4,x5,x6,x7,(y0,y1,y2,_,_,y5,y6,_),e,x10,x11,_)=>(((),()),x0,x1,([],()),x3,x4,x5,x6,x7,())
def QQ:cS->qg|((_,_,cs,_,_,_,_,a13,_,_,lim,i,_),x0,x1,(co,_),x3,x4,x5,x6,x7,(y0,y1,y2,_,_,y5,y6,_),e,x10,x11,_)=>(((),(),cs,(),(),(),(),a13,(),(),()),x0,x1,(co.drop e.length,()),x3,x4,x5,x6,x7,(y0,y1,y2,(),(),y5,y6,()),co.take e.length,x10,x11,())
def QS:cS->Bool|((_,_,cs,_,_,_,_,a13,_,_,lim,i,_),x0,x1,(co,_),x3,x4,x5,x6,x7,(y0,y1,y2,_,_,y5,y6,_),e,x10,x11,_)=> !decide (e.length<=co.length)
theorem ax7:aY Gf I9 (agL Jb (λ_=>81) QS QQ):=by
 rintro ⟨⟨⟨⟩,⟨⟩,cs,⟨⟩,⟨⟩,⟨⟩,⟨⟩,a13,⟨⟩,⟨⟩,lim,i,⟨⟩⟩,⟨x0,x1,⟨co,⟨⟩⟩,x3,x4,x5,x6,x7,⟨y0,y1,y2,⟨⟩,⟨⟩,y5,y6,⟨⟩⟩,e,x10,x11,⟨⟩⟩⟩ h
 obtain ⟨rfl,rfl,hn,hc⟩:=bh (show decide (lim=(e.length:Int)/\i=0/\e.length<=1000/\co.length<=140737488355328)=true from h)
 have key:∀ (k i:Nat) (e co:az),i+k=e.length->e.length<=1000->co.length<=140737488355328->
  ∃ m,cx Gf m (((),(),cs,(),(),(),(),a13,(),(),(e.length:Int),(i:Int),()),x0,x1,(co,()),x3,x4,x5,x6,x7,(y0,y1,y2,(),(),y5,y6,()),e,x10,x11,())=
   some (cond (decide (k<=co.length)) ⟨(.exit 0,vk),(((),(),cs,(),(),(),(),a13,(),(),()),x0,x1,(co.drop k,()),x3,x4,x5,x6,x7,(y0,y1,y2,(),(),y5,y6,()),e.take i++co.take k,x10,x11,())⟩
    ⟨(.pan (.iface 175 (.agg [.int 81])),vj),(((),()),x0,x1,([],()),x3,x4,x5,x6,x7,())⟩):=by
  intro k
  induction k with
  |zero=>
   intro i e co hi hn hc
   refine ⟨1,aO ?_⟩
   rw [List.take_of_length_le (show e.length<=i by omega),List.take_zero,List.append_nil]
   exact OT.al (bn (by dsimp only;omega))
  |succ k ih=>
   intro i e co hi hn hc
   cases co with
   |nil=>
    refine ⟨1,aO ?_⟩
    refine (OT.ak (aj (by dsimp only;omega))).trans ((ae ?_).trans (OT.al rfl))
    rfl
   |cons v r=>
    obtain ⟨m,hm⟩:=ih (i+1) (e.set i v) r (by rw [dm];omega) (by rw [dm];exact hn) (gC (Nat.le_succ _) hc)
    rw [dm,aDd e i v (by omega),List.append_assoc] at hm
    refine ⟨m+1,aS ?_ (hm.trans ?_)⟩
    ·refine (OT.ak (aj (by dsimp only;omega))).trans ((ae ?_).trans ((OT.ak rfl).trans ((ae ?_).trans rfl)))
     ·simp only [ax,aA,aC]
      exact aj hc
     ·simp only [ax,aA,aC,av]
      exact ⟨aR (by omega),aj (by rw [bH];omega),aL (by omega)⟩
    ·rw [show decide (k+1<=(v::r).length)=decide (k<=r.length) from decide_eq_decide.2 Nat.succ_le_succ_iff]
     rfl
 obtain ⟨m,hm⟩:=key e.length 0 e co (Nat.zero_add _) hn hc
 refine ⟨m,_,hm,?_⟩
 show (OT.br (!decide (e.length<=co.length)) _ _).run=_
 cases decide (e.length<=co.length)<;>rfl
abbrev OpT:Type:=az×az×ab
def aFh (m:Nat) (xi x:ab) (cs S:az) (k:Nat) (q:OpT):OpT:=
 (q.1.set k (cond (decide (k<cs.length)) (fp m (aQ m xi (S.getD k ⟨0,0,0,0⟩)) (cs.getD k ⟨0,0,0,0⟩)) (aQ m xi (S.getD k ⟨0,0,0,0⟩))),q.2.1++ [q.2.2],aQ m q.2.2 x)
theorem agh (m:Nat) (xi x:ab) (cs S:az) (q:OpT):∀ n,(upto (aFh m xi x cs S) q n).1.length=q.1.length/\(upto (aFh m xi x cs S) q n).2.1.length=n+q.2.1.length
 |0=>⟨rfl,(Nat.zero_add _).symm⟩
 |n+1=>by
  obtain ⟨h1,h2⟩:=agh m xi x cs S q n
  refine ⟨?_,?_⟩
  ·show (List.set _ _ _).length=_
   rw [dm,h1]
  ·show (_++ [_]).length=_
   rw [bR,h2,List.length_singleton]
   omega
def gJ (l:ao):ab:=⟨l.getD 0 0,l.getD 1 0,l.getD 2 0,l.getD 3 0⟩
def I8:gu->Bool|((_,_,cs,_,_,_,_,_,_,_,_,lim,i,_),x0,x1,x2,_,x4,x5,c6,x7,(y0,so,z,_,_,y5,y6,_),S,rho,xi,pw,x13,a,b,_)=>decide (lim=(S.length:Int)/\i=0/\S.length<=1000/\a.length=S.length/\b= []/\c6.length=4/\pw=eL ⟨1,0,0,0⟩/\xi.length=4)&&ac so
def aDE (m:Nat) (xi x:ab) (cs S a:az):OpT:=upto (aFh m xi x cs S) (a,[],⟨1,0,0,0⟩) S.length
def QP:gu->qf|((_,_,cs,_,_,_,_,_,_,_,_,lim,i,_),x0,x1,x2,_,x4,x5,c6,x7,(y0,so,z,_,_,y5,y6,_),S,rho,xi,pw,x13,a,b,_)=>(((),(),cs,(),(),(),(),(),(),()),x0,x1,x2,(),x4,x5,c6,x7,(y0,so,z,(),(),y5,y6,()),rho,xi,x13,(aDE (pS so) (gJ xi) (gJ c6) cs S a).1,(aDE (pS so) (gJ xi) (gJ c6) cs S a).2.1,())
theorem ax6:aY Ge I8 (agK QP):=by
 rintro ⟨⟨⟨⟩,⟨⟩,cs,⟨⟩,⟨⟩,⟨⟩,⟨⟩,⟨⟩,⟨⟩,⟨⟩,⟨⟩,lim,i,⟨⟩⟩,⟨x0,x1,x2,⟨⟩,x4,x5,c6,x7,⟨y0,so,z,⟨⟩,⟨⟩,y5,y6,⟨⟩⟩,S,rho,xi,pw,x13,a,b,⟨⟩⟩⟩ h
 have h':(decide (lim=(S.length:Int)/\i=0/\S.length<=1000/\a.length=S.length/\b= []/\c6.length=4/\pw=eL ⟨1,0,0,0⟩/\xi.length=4)&&ac so)=true:=h
 rw [av] at h'
 obtain ⟨rfl,rfl,hn,ha,rfl,h6,rfl,hx⟩:=bh h'.1
 have hs:=h'.2
 have:=(aW (T:=Ge) (λk q=>((((),(),cs,(),(),(),(),(),(),(),(),(S.length:Int),(k:Int),()),x0,x1,x2,(),x4,x5,c6,x7,(y0,so,z,(),(),y5,y6,()),S,rho,xi,eL q.2.2,x13,q.1,q.2.1,()):gu))
  (aFh (pS so) (gJ xi) (gJ c6) cs S)
  (λq=>(⟨(.exit 2,vi),(((),(),cs,(),(),(),(),(),(),()),x0,x1,x2,(),x4,x5,c6,x7,(y0,so,z,(),(),y5,y6,()),rho,xi,x13,q.1,q.2.1,())⟩:aT)) S.length (a,[],⟨1,0,0,0⟩) (λk q=>q.1.length=S.length/\q.2.1.length=k) ⟨ha,rfl⟩ (λk q hk hq=>⟨?_,?_,?_⟩) (λq _=> ?_)).1
 ·obtain ⟨m,hm⟩:=this
  exact ⟨m,_,hm,rfl⟩
 ·obtain ⟨a,b,pw⟩:=q
  obtain ⟨hq,hb⟩:=hq
  dsimp only at hq hb
  have g1:∀ v:ab,inB (k:Int) (List.set a (Int.toNat k) v).length=true:=λv=>aR (by rw [dm];omega)
  have g2:∀ v:ab,decide (Int.toNat k<(List.set a (Int.toNat k) v).length)=true:=λv=>aj (by rw [dm,bH];omega)
  refine (OT.ak (aj (by dsimp only;omega))).trans ((ae ?_).trans ?_)
  ·simp only [ax,aA,aC,av]
   exact ⟨aj (by omega),aR (by omega),aj (by rw [bH];omega),hs,aR (by omega),aj (by rw [bH];omega)⟩
  by_cases hc:k<cs.length
  ·refine (OT.ak (aj (by dsimp only;omega))).trans ((ae ?_).trans ?_)
   ·simp only [ax,aA,aC,av]
    exact ⟨g1 _,g2 _,aR (by omega),hs,g1 _,g2 _,rfl,aj (by rw [hb];omega),rfl,aj (by omega),hs,rfl,aL (by omega)⟩
   ·simp only [bH,List.set_set,ju,List.getElem?_set_self (show k<a.length by omega),Option.getD_some]
    unfold aFh
    simp only [aj hc,aV,ju]
    rfl
  ·refine (OT.al (bn (by dsimp only;omega))).trans ((ae ?_).trans ?_)
   ·simp only [ax,aA,aC,av]
    exact ⟨rfl,aj (by rw [hb];omega),rfl,aj (by omega),hs,rfl,aL (by omega)⟩
   ·unfold aFh
    simp only [bn hc,bo,bH]
    rfl
 ·show (List.set _ _ _).length=_
  rw [dm]
  exact hq.1
 ·show (_++ [_]).length=_
  rw [bR,hq.2,List.length_singleton]
 ·exact OT.al (bn (by dsimp only;omega))
def cg (c s:Int):Nat->aeh->Int×aeh
 |0,q=>(0,q)
 |n+1,q=>cond (decide (1<q.1.2.2.2.1.length)) (cond ((cJ c s q).1==0) (cg c s n (cJ c s q).2) (cJ c s q)) (0,q)
def pq (c s:Int):Nat->aeh->Bool
 |0,q=> !decide (1<q.1.2.2.2.1.length)
 |n+1,q=>cond (decide (1<q.1.2.2.2.1.length)) (PC c s q&&cond ((cJ c s q).1==0) (pq c s n (cJ c s q).2) true) true
def I7:cy->Bool|(_,(c,_),(s,tp,_),(co,_),_,x4,x5,x6,x7,(o,_),out,_)=>pq c s o.1.2.1.toNat (o,tp,co,out)
def jb:cy->Int×aeh|(_,(c,_),(s,tp,_),(co,_),_,x4,x5,x6,x7,(o,_),out,_)=>cg c s o.1.2.1.toNat (o,tp,co,out)
def Ja (z:cy):yk:=(((),()),z.2.1,(z.2.2.1.1,(jb z).2.2.1,()),((jb z).2.2.2.1,()),(),z.2.2.2.2.2.1,z.2.2.2.2.2.2.1,z.2.2.2.2.2.2.2.1,z.2.2.2.2.2.2.2.2.1,(jb z).2.2.2.2,())
def QO (z:cy):yl:=(((),(),(),()),z.2.1,(z.2.2.1.1,(jb z).2.2.1,()),((jb z).2.2.2.1,()),(),z.2.2.2.2.2.1,z.2.2.2.2.2.2.1,z.2.2.2.2.2.2.2.1,z.2.2.2.2.2.2.2.2.1,((jb z).2.1,()),(jb z).2.2.2.2,())
def QR (z:cy):Bool:= !((jb z).1==0)
def QN (c s:Int) (p:rG) (c5 c6:ao) (c7:Int) (r:Int×aeh):aT:=cond (r.1==0)
 ⟨(.exit 4,om),(((),(),(),()),(c,(),(),()),(s,r.2.2.1,()),(r.2.2.2.1,()),(),(p,()),c5,c6,(c7,()),(r.2.1,()),r.2.2.2.2,())⟩
 ⟨(.pan (.iface 175 (.agg [.int r.1])),lN),(((),()),(c,(),(),()),(s,r.2.2.1,()),(r.2.2.2.1,()),(),(p,()),c5,c6,(c7,()),r.2.2.2.2,())⟩
theorem ax5:aY A3 I7 (agJ Ja (λz=>(jb z).1) QR QO):=by
 rintro ⟨⟨⟨⟩,⟨⟩,⟨⟩,⟨⟩,⟨⟩⟩,⟨⟨c,⟨⟩,⟨⟩,⟨⟩⟩,⟨s,tp,⟨⟩⟩,⟨co,⟨⟩⟩,⟨⟩,⟨p,⟨⟩⟩,c5,c6,⟨c7,⟨⟩⟩,⟨o,⟨⟩⟩,out,⟨⟩⟩⟩ h
 have key:∀ (n:Nat) (q:aeh),pq c s n q=true->
  ∃ m,cx A3 m (((),(),(),(),()),(c,(),(),()),(s,q.2.1,()),(q.2.2.1,()),(),(p,()),c5,c6,(c7,()),(q.1,()),q.2.2.2,())=some (QN c s p c5 c6 c7 (cg c s n q)):=by
  intro n
  induction n with
  |zero=>
   intro q h
   have h1:(!decide (1<q.1.2.2.2.1.length))=true:=h
   exact ⟨1,aO (OT.al (bn (by have:=of_decide_eq_false (Bool.not_eq_true' _▸h1);dsimp only;omega)))⟩
  |succ n ih=>
   intro q h
   unfold pq at h
   unfold cg
   by_cases h1:1<q.1.2.2.2.1.length
   ·simp only [aj h1,aV,av] at h⊢
    have e1:(A3 (((),(),(),(),()),(c,(),(),()),(s,q.2.1,()),(q.2.2.1,()),(),(p,()),c5,c6,(c7,()),(q.1,()),q.2.2.2,())).run=(OT.br ((cJ c s q).1==0)
     (.ok (.inl (((),(),(),(),()),(c,(),(),()),(s,(cJ c s q).2.2.1,()),((cJ c s q).2.2.2.1,()),(),(p,()),c5,c6,(c7,()),((cJ c s q).2.1,()),(cJ c s q).2.2.2.2,())))
     (.ok (.inr ⟨(.pan (.iface 175 (.agg [.int (cJ c s q).1])),lN),(((),()),(c,(),(),()),(s,(cJ c s q).2.2.1,()),((cJ c s q).2.2.2.1,()),(),(p,()),c5,c6,(c7,()),(cJ c s q).2.2.2.2,())⟩)):OT (Sum cy aT)).run:=by
     refine (OT.ak (aj (by dsimp only;omega))).trans ((ae ?_).trans rfl)
     simp only [ax,aA,aC]
     exact h.1
    cases h2:(cJ c s q).1==0
    ·rw [bo]
     refine ⟨1,aO (e1.trans ((OT.al h2).trans ?_))⟩
     unfold QN
     rw [h2]
     rfl
    ·rw [h2,aV] at h
     rw [aV]
     obtain ⟨m,hm⟩:=ih _ h.2
     exact ⟨m+1,aS (e1.trans (OT.ak h2)) hm⟩
   ·simp only [bn h1,bo]
    exact ⟨1,aO (OT.al (bn (by dsimp only;omega)))⟩
 obtain ⟨m,hm⟩:=key _ (o,tp,co,out) h
 refine ⟨m,_,hm,?_⟩
 show (OT.br (!((cg c s o.1.2.1.toNat (o,tp,co,out)).1==0)) (.ok ⟨(.pan (.iface 175 (.agg [.int (cg c s o.1.2.1.toNat (o,tp,co,out)).1])),lN),(((),()),(c,(),(),()),(s,(cg c s o.1.2.1.toNat (o,tp,co,out)).2.2.1,()),((cg c s o.1.2.1.toNat (o,tp,co,out)).2.2.2.1,()),(),(p,()),c5,c6,(c7,()),(cg c s o.1.2.1.toNat (o,tp,co,out)).2.2.2.2,())⟩)
  (.ok ⟨(.exit 4,om),(((),(),(),()),(c,(),(),()),(s,(cg c s o.1.2.1.toNat (o,tp,co,out)).2.2.1,()),((cg c s o.1.2.1.toNat (o,tp,co,out)).2.2.2.1,()),(),(p,()),c5,c6,(c7,()),((cg c s o.1.2.1.toNat (o,tp,co,out)).2.1,()),(cg c s o.1.2.1.toNat (o,tp,co,out)).2.2.2.2,())⟩):OT aT).run=_
 generalize cg c s o.1.2.1.toNat (o,tp,co,out)=r
 unfold QN
 cases h2:r.1==0<;>rfl
theorem afY {p:rG} {c:Int} (h:(kR p c==0)=true):gA p=0/\c=p.1/\ac p.1=true/\ac (bm p.1 1)=true/\1<=p.2.2.1.length/\p.2.2.1.length<=32/\0<=p.2.1/\p.2.1<=5/\p.2.2.1.length=2^p.2.1.toNat:=by
 unfold kR at h
 cases h1:gA p==0
 ·rw [h1] at h
  rw [bo] at h
  rw [h] at h1;cases h1
 ·rw [h1] at h
  cases h2:c==p.1
  ·rw [h2] at h;cases h
  ·have e:=eq_of_beq h1
   refine ⟨e,eq_of_beq h2,?_⟩
   unfold gA at e
   cases h3:ac p.1
   ·rw [h3] at e;cases e
   ·rw [h3,aV] at e
    refine ⟨rfl,by rcases b6 h3 with h|h|h|h<;>rw [h]<;>rfl,?_⟩
    cases h4:decide (p.2.1<0)
    ·rw [h4,bo] at e
     cases h5:decide (5<p.2.1)
     ·rw [h5,bo] at e
      cases h6:(p.2.2.1.length:Int)==ab6 1 p.2.1
      ·rw [h6] at e;cases e
      ·have h6:=eq_of_beq h6
       have h4:=of_decide_eq_false h4
       have h5:=of_decide_eq_false h5
       generalize p.2.1=k at*
       have:k=0\/k=1\/k=2\/k=3\/k=4\/k=5:=by omega
       rcases this with rfl|rfl|rfl|rfl|rfl|rfl
       ·have:(p.2.2.1.length:Int)=1:=h6;exact ⟨by omega,by omega,by omega,by omega,by show p.2.2.1.length=1;omega⟩
       ·have:(p.2.2.1.length:Int)=2:=h6;exact ⟨by omega,by omega,by omega,by omega,by show p.2.2.1.length=2;omega⟩
       ·have:(p.2.2.1.length:Int)=4:=h6;exact ⟨by omega,by omega,by omega,by omega,by show p.2.2.1.length=4;omega⟩
       ·have:(p.2.2.1.length:Int)=8:=h6;exact ⟨by omega,by omega,by omega,by omega,by show p.2.2.1.length=8;omega⟩
       ·have:(p.2.2.1.length:Int)=16:=h6;exact ⟨by omega,by omega,by omega,by omega,by show p.2.2.1.length=16;omega⟩
       ·have:(p.2.2.1.length:Int)=32:=h6;exact ⟨by omega,by omega,by omega,by omega,by show p.2.2.1.length=32;omega⟩
     ·rw [h5] at e;cases e
    ·rw [h4] at e;cases e
def opN (p:rG):Nat:=(List.replicate p.2.2.1.length (⟨0,0,0,0⟩:ab)).length
theorem aAA (p:rG):opN p=p.2.2.1.length:=nI
def opS (p:rG) (x:ab) (co:az):az:=(co.take (opN p)).set 0 (gZ (pS (bm p.1 1)) ((co.take (opN p)).getD 0 ⟨0,0,0,0⟩) (L0 (pS (bm p.1 1)) x (co.take (opN p))))
def opR (p:rG) (co:az):mI:=ay (co.drop (opN p))
def aG9 (p:rG) (x:ab) (co:az):Pt:=aEK p (opS p x co) (opR p co).1
def opV (s:Int) (tp:az):ab:=fp (pS s) (ay tp).1 ⟨0,0,0,0⟩
def opU (p:rG) (cs:az) (x:ab) (s:Int) (tp co:az):OpT:=aDE (pS (bm p.1 1)) (opV s tp) x cs (opS p x co) (List.replicate p.2.2.1.length ⟨0,0,0,0⟩)
def opO (p:rG) (cs:az) (bl x:ab) (s:Int) (tp co:az):Lf:=
 (p,bm p.1 1,opV s (ay tp).2.2,(opU p cs x s tp co).1.set 0 (gZ (pS (bm p.1 1)) ((opU p cs x s tp co).1.getD 0 ⟨0,0,0,0⟩) (L0 (pS (bm p.1 1)) x cs)),(opU p cs x s tp co).2.1,p.2.2.1,fp (pS (bm p.1 1)) bl (aQ (pS (bm p.1 1)) (opV s tp) (opR p co).1))
def opQ (p:rG) (cs:az) (bl x:ab) (c s:Int) (tp co:az) (out:aG):aeh:=
 (opO p cs bl x s tp co,(ay (ay tp).2.2).2.2,(opR p co).2.2,out++Gr c (aG9 p x co))
abbrev auR:Type:=az×az×aG
def alh (c:Int) (r:Int×aeh):Int×auR:=cond (r.1==0) (0,r.2.2.1,r.2.2.2.1,r.2.2.2.2++LC c (r.2.1.2.2.2.1.getD 0 ⟨0,0,0,0⟩)++LC c r.2.1.2.2.2.2.2.2) (r.1,r.2.2)
def aa6 (p:rG) (cs:az) (bl x:ab) (c s:Int) (tp co:az) (out:aG):Int×auR:=
 cond (kR p c==0) (cond (decide (cs.length<=p.2.2.1.length)) (cond (decide (opN p<=co.length)) (cond ((opR p co).2.1==0)
  (cond ((ay tp).2.1==0) (cond ((ay (ay tp).2.2).2.1==0) (cond (bJ (opV s (ay tp).2.2))
   (100,(opQ p cs bl x c s tp co out).2)
   (alh c (cg c s p.2.1.toNat (opQ p cs bl x c s tp co out))))
   ((ay (ay tp).2.2).2.1,(opQ p cs bl x c s tp co out).2))
   ((ay tp).2.1,(ay tp).2.2,(opR p co).2.2,out++Gr c (aG9 p x co)))
   ((opR p co).2.1,tp,(opR p co).2.2,out))
   (81,tp,[],out)) (50,tp,co,out)) (kR p c,tp,co,out)
def aAz (p:rG) (cs:az) (c:Int) (co:az):Bool:=kR p c==0&&(decide (cs.length<=p.2.2.1.length)&&(decide (opN p<=co.length)&&(opR p co).2.1==0))
def aa7 (s:Int) (tp:az):Bool:=(ay tp).2.1==0&&((ay (ay tp).2.2).2.1==0&& !bJ (opV s (ay tp).2.2))
def nV (r:Int×aeh):Bool:= !(r.1==0)||decide (0<r.2.1.2.2.2.1.length/\r.2.2.2.2.length<=140737488340000)
def aqd (p:rG) (cs:az) (bl x:ab) (c s:Int) (tp co:az) (out:aG):Bool:=
 decide (p.2.2.1.length<=140737488355328/\tp.length<=140737488355328/\co.length<=140737488355328/\out.length<=140737488340000)&&(ac s&&(cond (aAz p cs c co)
  (cH p.1 (adt p (opS p x co) (opR p co).1)&&(onB c (aG9 p x co)&&cond (aa7 s tp) (pq c s p.2.1.toNat (opQ p cs bl x c s tp co out)&&nV (cg c s p.2.1.toNat (opQ p cs bl x c s tp co out))) true)) true))
def A2 (x:Jc):Bool:=aqd x.1.1 x.1.2.2.2.1 x.1.2.2.2.2.1 x.1.2.2.2.2.2.1 x.2.1.1 x.2.2.1.1 x.2.2.1.2.1 x.2.2.2.1.1 x.2.2.2.2.1
def arh (x:Jc):Int×auR:=aa6 x.1.1 x.1.2.2.2.1 x.1.2.2.2.2.1 x.1.2.2.2.2.2.1 x.2.1.1 x.2.2.1.1 x.2.2.1.2.1 x.2.2.2.1.1 x.2.2.2.2.1
def opY (c s:Int) (r:Int×auR):sT.Y:=⟨jc,((r.1,()),(c,(),(),()),(s,r.2.1,()),(r.2.2.1,()),r.2.2.2,())⟩
def ari (x:Jc):OT sT.Y:=.ok (opY x.2.1.1 x.2.2.1.1 (arh x))
theorem fm (b:Bool) {P:Prop} (h0:b=false->P) (h1:b=true->P):P:=by
 cases b
 ·exact h0 rfl
 ·exact h1 rfl
set_option maxHeartbeats 4000000 in
theorem ard (p:rG) (cs:az) (bl x:ab) (c s:Int) (tp co:az) (out:aG) (hp':aqd p cs bl x c s tp co out=true):
 (QT I9 Jb (λ_=>81) QS QQ I8 QP I7 Ja (λz=>(jb z).1) QR QO p cs bl x c s tp co out).run=some (opY c s (aa6 p cs bl x c s tp co out)):=by
 unfold aqd at hp'
 simp only [av] at hp'
 obtain ⟨hL,hs,hN⟩:=hp'
 obtain ⟨l1,l2,l3,l4⟩:=bh hL
 have hF:∀ r,aa6 p cs bl x c s tp co out=r->some (opY c s (aa6 p cs bl x c s tp co out))=some (opY c s r):=λr h=>by rw [h]
 generalize some (opY c s (aa6 p cs bl x c s tp co out))=G at*
 unfold aa6 at hF
 unfold QT
 refine (ae (by simp only [ax,aA,aC];exact aj l1)).trans ?_
 refine fm (kR p c==0) (λe0=> ?_) (λe0=> ?_)
 ·rw [e0] at hF
  exact (OT.al e0).trans (hF _ rfl).symm
 have r:=afY e0
 have r5:=r.2.2.2.2.1
 have r6:=r.2.2.2.2.2.1
 rw [e0] at hF
 refine (OT.ak e0).trans ?_
 refine fm (decide (cs.length<=p.2.2.1.length)) (λe1=> ?_) (λe1=> ?_)
 ·rw [e1] at hF
  exact (OT.al (bn (by have:=of_decide_eq_false e1;omega))).trans (hF _ rfl).symm
 rw [e1] at hF
 refine (OT.ak (aj (by have:=bh e1;omega))).trans ((ae ?_).trans ?_)
 ·simp only [ax,aA,aC,av]
  refine ⟨⟨⟨⟨aj (by omega),aj (Int.le_refl _)⟩,aj (by omega)⟩,aj (by omega)⟩,aj ?_⟩
  simp only [nI,bH]
  exact ⟨trivial,trivial,by omega,l3⟩
 refine fm (decide (opN p<=co.length)) (λe2=> ?_) (λe2=> ?_)
 ·rw [e2] at hF
  exact (OT.ak (congrArg (!·) e2)).trans (hF _ rfl).symm
 rw [e2] at hF
 have n1:=aAA p
 have n2:(co.take (opN p)).length=opN p:=by rw [fI];exact Nat.min_eq_left (bh e2)
 have n3:(co.drop (opN p)).length<=140737488355328:=by rw [gD];omega
 have n4:(opS p x co).length=opN p:=by unfold opS;rw [dm];exact n2
 refine (OT.al (congrArg (!·) e2)).trans ((ae ?_).trans ?_)
 ·simp only [ax,aA,aC]
  exact aj n3
 refine fm ((opR p co).2.1==0) (λe3=> ?_) (λe3=> ?_)
 ·rw [e3] at hF
  exact (OT.al e3).trans (hF _ rfl).symm
 rw [e3] at hF
 have hN1:cH p.1 (adt p (opS p x co) (opR p co).1)=true/\onB c (aG9 p x co)=true/\cond (aa7 s tp) (pq c s p.2.1.toNat (opQ p cs bl x c s tp co out)&&nV (cg c s p.2.1.toNat (opQ p cs bl x c s tp co out))) true=true:=by
  unfold aAz at hN
  rw [e0,e1,e2,e3] at hN
  simpa only [aC,aV,av] using hN
 refine (OT.ak e3).trans ((ae ?_).trans ?_)
 ·simp only [ax,aA,aC,av]
  refine ⟨aR (show (0:Int)<=0/\(0:Int)<((co.take (opN p)).length:Int) by omega),aj (show 0<(co.take (opN p)).length by omega),rfl,r.2.2.2.1,r.2.2.2.1,aR (show (0:Int)<=0/\(0:Int)<((co.take (opN p)).length:Int) by omega),aj (show 0<(co.take (opN p)).length by omega),?_,?_,?_⟩
  ·exact ba (by rw [show (p:rG)=p from rfl];exact beq_iff_eq.2 r.1) (ba (aj (show (opS p x co).length<=p.2.2.1.length by omega)) hN1.1)
  ·exact ba (aj (show out.length<=140737488350000 by omega)) hN1.2.1
  ·exact ba hs (aj l2)
 have m0:=aAA p
 refine fm ((ay tp).2.1==0) (λe4=> ?_) (λe4=> ?_)
 ·rw [e4] at hF
  exact (OT.al e4).trans (hF _ rfl).symm
 rw [e4] at hF
 refine (OT.ak e4).trans ((ae ?_).trans ?_)
 ·simp only [ax,aA,aC]
  exact ba hs (aj (gC (vC tp) l2))
 refine fm ((ay (ay tp).2.2).2.1==0) (λe5=> ?_) (λe5=> ?_)
 ·rw [e5] at hF
  exact (OT.al e5).trans (hF _ rfl).symm
 rw [e5] at hF
 refine (OT.ak e5).trans ?_
 refine fm (bJ (opV s (ay tp).2.2)) (λe6=> ?_) (λe6=> ?_)
 rotate_left
 ·rw [e6] at hF
  exact (OT.ak e6).trans (hF _ rfl).symm
 rw [e6] at hF
 have hN2:pq c s p.2.1.toNat (opQ p cs bl x c s tp co out)=true/\nV (cg c s p.2.1.toNat (opQ p cs bl x c s tp co out))=true:=by
  have h:=hN1.2.2
  unfold aa7 at h
  rw [e4,e5,e6] at h
  simpa only [aC,Bool.not_false,aV,av] using h
 have u1:(opU p cs x s tp co).1.length=p.2.2.1.length:=(agh _ _ _ _ _ _ _).1.trans nI
 refine (OT.al e6).trans ((ae ?_).trans ?_)
 ·simp only [ax,aA,aC,av]
  have b1:inB 0 (opU p cs x s tp co).1.length=true:=aR (by omega)
  have b2:decide (0<(opU p cs x s tp co).1.length)=true:=aj (by omega)
  refine ⟨⟨⟨⟨aj (show (0:Int)<=(p.2.2.1.length:Int) by omega),aj (Int.le_refl _)⟩,aj (show (p.2.2.1.length:Int)*32<=140737488355328 by omega)⟩,aj (show (p.2.2.1.length:Int)<=140737488355328 by omega)⟩,ba (aj ?_) r.2.2.2.1,b1,b2,rfl,r.2.2.2.1,r.2.2.2.1,b1,b2,rfl,rfl,rfl,r.2.2.2.1,r.2.2.2.1,hN2.1⟩
  refine ⟨?_,rfl,?_,?_,rfl,rfl,rfl,rfl⟩
  ·show ((List.replicate (Int.toNat (p.2.2.1.length:Int)) (⟨0,0,0,0⟩:ab)).length:Int)=((opS p x co).length:Int)
   rw [n4];rfl
  ·show (opS p x co).length<=1000
   omega
  ·show (List.replicate (Int.toNat (p.2.2.1.length:Int)) (⟨0,0,0,0⟩:ab)).length=(opS p x co).length
   rw [n4];rfl
 have hG:=hF _ rfl
 rw [aV,aV,aV,aV,aV,aV,bo] at hG
 have hE:∀ R:Int×aeh,cg c s p.2.1.toNat (opQ p cs bl x c s tp co out)=R->G=some (opY c s (alh c R)):=λR h=>by
  rw [<-h];exact hG
 refine fm ((cg c s p.2.1.toNat (opQ p cs bl x c s tp co out)).1==0) (λe7=> ?_) (λe7=> ?_)
 ·refine (OT.ak (congrArg (!·) e7)).trans ?_
  have e8:alh c (cg c s p.2.1.toNat (opQ p cs bl x c s tp co out))=((cg c s p.2.1.toNat (opQ p cs bl x c s tp co out)).1,(cg c s p.2.1.toNat (opQ p cs bl x c s tp co out)).2.2):=by
   unfold alh
   rw [e7]
   rfl
  rw [hE _ rfl,e8]
  rfl
 have e8:alh c (cg c s p.2.1.toNat (opQ p cs bl x c s tp co out))=(0,(cg c s p.2.1.toNat (opQ p cs bl x c s tp co out)).2.2.1,(cg c s p.2.1.toNat (opQ p cs bl x c s tp co out)).2.2.2.1,(cg c s p.2.1.toNat (opQ p cs bl x c s tp co out)).2.2.2.2++LC c ((cg c s p.2.1.toNat (opQ p cs bl x c s tp co out)).2.1.2.2.2.1.getD 0 ⟨0,0,0,0⟩)++LC c (cg c s p.2.1.toNat (opQ p cs bl x c s tp co out)).2.1.2.2.2.2.2.2):=by
  unfold alh
  rw [e7]
  rfl
 have hK:=hN2.2
 unfold nV at hK
 rw [e7,Bool.not_true,Bool.false_or] at hK
 have k1:=(bh hK).1
 have k2:=(bh hK).2
 have hc:ac (bm c 1)=true:=by rw [r.2.1];exact r.2.2.2.1
 have n5:(LC c ((cg c s p.2.1.toNat (opQ p cs bl x c s tp co out)).2.1.2.2.2.1.getD 0 ⟨0,0,0,0⟩)).length=32:=qD _
 refine (OT.al (congrArg (!·) e7)).trans ((ae ?_).trans ?_)
 ·simp only [ax,aA,aC,av]
  refine ⟨aR (show (0:Int)<=0/\(0:Int)<((cg c s p.2.1.toNat (opQ p cs bl x c s tp co out)).2.1.2.2.2.1.length:Int) by omega),?_,?_⟩
  ·exact ba hc (aj (show (cg c s p.2.1.toNat (opQ p cs bl x c s tp co out)).2.2.2.2.length<=140737488350000 by omega))
  ·refine ba hc (aj (show ((cg c s p.2.1.toNat (opQ p cs bl x c s tp co out)).2.2.2.2++LC c ((cg c s p.2.1.toNat (opQ p cs bl x c s tp co out)).2.1.2.2.2.1.getD 0 ⟨0,0,0,0⟩)).length<=140737488350000 from ?_))
   rw [bR,n5]
   omega
 ·rw [hE _ rfl,e8]
  rfl
theorem ax4:aa ag 35 (sT.aw A2 ari):=alY I9 Jb (λ_=>81) QS QQ I8 QP I7 Ja (λz=>(jb z).1) QR QO ax7 ax6 ax5 _ _ λx oy hp ho=>(ard _ _ _ _ _ _ _ _ _ hp).trans ho
def Dt:bi:=(JF 3 (JH 0 2 (sT.aw A2 ari)))
theorem acb:aa ag 35 Dt:=(JE (JG ax4))
theorem aca:au Dt:=(yI (yJ aq))
def ave:Env:=ap 35 Dt Ox
theorem uk:bI ag te ave:=aP follows kG acb aca
def ja:af:=⟨[.val true aAw,dW,nH,dY,dY],mM,false,2,true⟩
noncomputable abbrev Vx:anK:=aHw
def aq2:Nat:=3
theorem ab1:Le ag Vx:=api
abbrev vf:Type:=(kP×Unit×cY×ru)×Fq
def aq3:Shape:=⟨215,[rz,(2,nH),uh,(8,fH),(9,B2),nG,nF,(212,Fs),(213,Fs),(214,BW)],[aef,kD,(2,uc),nE,BV,(5,.cells [.own 7]),(6,oU),(7,ud)],2,true⟩
def alO:Shape:=⟨212,[rz,uh,(8,fH),(9,B2),nG,nF,(12,aB),(40,nH),(41,aB),(42,aB)],aiw,8,true⟩
abbrev bL:Type:=(Unit×Unit×Unit×Unit×Unit×Unit×Int×cY×jv)×air
def ks:Shape:=⟨212,[nG,nF],aiw,8,true⟩
abbrev qc:Type:=mK×air
def nu:Shape:=⟨212,[rz,uh,(8,fH),(9,B2),nG,nF,(12,aB)],aiw,8,true⟩
abbrev lA:Type:=(Unit×K4)×air
def alV (a12:Int) (a40:cY) (a41:Int) (a42:Int) (c0_0:Int) (c0_2:aG) (c1_0:Int) (c1_1:az) (c2_0:kP) (c3:ao) (c4:ao) (c6_0:Int) (c8:cY):OT (Sum bL aT):=
 let z0:ab:= {w0:=0,w1:=0,w2:=0,w3:=0}
 let z1:Fm:=List.getD a40 (Int.toNat a42) (z0,z0,z0,false)
 let z2:=z1.snd
 let z3:=z1.fst
 (.br (decide (a42<a41))
 (gd [inB a42 (List.length a40)] (.br (onB c2_0.fst z2)
  (gd [hZ ((a12,z3,z0,()),()),decide ((List.length c8+1)*104<=140737488355328),inR (a42+(1:Int))] (.ok (.inl (((),(),(),(),(),(),a12,a40,a41,a42+(1:Int),()),(c0_0,(),c0_2,()),(c1_0,c1_1,()),(c2_0,()),c3,c4,((),()),(c6_0,()),(),c8++ [(fp (pS a12) z3 z0,z2)],()))))
  (.ok (.inr ⟨(.pan (.iface 175 (.agg [.int (41:Int)])),ks),(((),(),()),(c0_0,(),c0_2,()),(c1_0,c1_1,()),(c2_0,()),c3,c4,((),()),(c6_0,()),(),c8,())⟩))))
 (.ok (.inr ⟨(.exit 0,nu),(((),(),(),(),(),(),a12,()),(c0_0,(),c0_2,()),(c1_0,c1_1,()),(c2_0,()),c3,c4,((),()),(c6_0,()),(),c8,())⟩)))
def oi (s:bL):OT (Sum bL aT):=alV s.1.2.2.2.2.2.2.1 s.1.2.2.2.2.2.2.2.1 s.1.2.2.2.2.2.2.2.2.1 s.1.2.2.2.2.2.2.2.2.2.1 s.2.1.1 s.2.1.2.2.1 s.2.2.1.1 s.2.2.1.2.1 s.2.2.2.1.1 s.2.2.2.2.1 s.2.2.2.2.2.1 s.2.2.2.2.2.2.2.1.1 s.2.2.2.2.2.2.2.2.2.1
def Nk (g0_p:bL->qc) (v0:bL->Int) (c0_p:bL->Bool) (g0_0:bL->lA) (s:bL):OT aT:=(.br (c0_p s) (.ok ⟨(.pan (.iface 175 (.agg [.int (v0 s)])),ks),g0_p s⟩) (.ok ⟨(.exit 0,nu),g0_0 s⟩))
def alN:Shape:=⟨212,[rz,uh,(8,fH),nG,nF,(12,aB),(17,K9),(18,.ptr 9 0 0),(19,.own 10),(99,aB),(100,aB)],aBA,8,true⟩
abbrev bu:Type:=(Unit×Unit×Unit×Unit×Unit×Int×Unit×rv)×aBt
def cK:Shape:=⟨212,[nG,nF],aiw,8,true⟩
abbrev qb:Type:=mK×air
def kr:Shape:=⟨212,[rz,uh,nG,nF,(12,aB),(17,K9),(18,.ptr 9 0 0),(19,.own 10)],aBA,8,true⟩
abbrev lz:Type:=(Unit×Unit×Unit×Unit×Int×nC)×aBt
def alU (a12:Int) (a99:Int) (a100:Int) (c0_0:Int) (c0_2:aG) (c1_0:Int) (c1_1:az) (c2_0:kP) (c3:ao) (c4:ao) (c6_0:Int) (c8:ao) (c9:ao) (c10:az) (c11:cY):OT (Sum bu aT):=
 let z0:BP×aG:=dw c0_0 c0_2
 let z1:=z0.fst
 let z2:=z1.snd
 let z3:=z0.snd
 let z4:BP×aG:=dw c0_0 z3
 let z5:=z4.fst
 let z6:=z5.snd
 let z7:=z4.snd
 let z8:mI:=ay c1_1
 let z9:=z8.snd
 let z10:=z9.fst
 let z11:ab:=fp (pS c1_0) z8.fst {w0:=0,w1:=0,w2:=0,w3:=0}
 let z12:=z9.snd
 let z13:ab:= {w0:=List.getD c3 0 0,w1:=List.getD c3 1 0,w2:=List.getD c3 2 0,w3:=List.getD c3 3 0}
 let z14:ab:= {w0:=cn (1:UInt64) (c2_0.snd.fst-(1:Int)-a100),w1:=0,w2:=0,w3:=0}
 let z15:Nat:=List.length c9
 let z16:Nat:=pS a12
 let z17:ab:=lQ z16 z13 z14
 let z18:ab:= {w0:=1,w1:=0,w2:=0,w3:=0}
 let z19:ab:=aQ z16 z11 z17
 let z20:ab:= {w0:=List.getD c9 0 0,w1:=List.getD c9 1 0,w2:=List.getD c9 2 0,w3:=List.getD c9 3 0}
 let z21:ab:=fp z16 z18 z19
 let z22:ab:=aQ z16 z20 z21
 (.br (decide (a100<a99))
 (.br (z2==(0:Int))
  (.br (z6==(0:Int))
   (gd [rK (((),()),(c0_0,(),z7,()),(c1_0,c1_1,()),())] (.br (z10==(0:Int))
    (.br (bJ z11)
     (.ok (.inr ⟨(.pan (.iface 175 (.agg [.int (100:Int)])),cK),(((),(),()),(c0_0,(),z7,()),(c1_0,z12,()),(c2_0,()),c3,c4,((),()),(c6_0,()),(),c11,())⟩))
     (gd [decide ((List.length c10+1)*32<=140737488355328),tz ((a12,z11,()),()),decide ((List.length c11+2)*104<=140737488355328),decide (4<=List.length c3),inR (c2_0.snd.fst-(1:Int)),inR (c2_0.snd.fst-(1:Int)-a100),decide ((0:Int)<=c2_0.snd.fst-(1:Int)-a100),oA ((a12,z13,z14,()),()),decide (4<=z15),dS ((a12,z11,z17,()),()),hZ ((a12,z18,z19,()),()),dS ((a12,z20,z21,()),()),decide ((4/1:Nat)+0<=z15),inR (a100+(1:Int))] (.ok (.inl (((),(),(),(),(),a12,(),(),(),a99,a100+(1:Int),()),(c0_0,(),z7,()),(c1_0,z12,()),(c2_0,()),c3,c4,((),()),(c6_0,()),(),c8,List.set (List.set (List.set (List.set c9 0 z22.w0) 1 z22.w1) 2 z22.w2) 3 z22.w3,c10++ [z11],c11++ [(anI z16 z11,z1.fst),(z11,z5.fst)],())))))
    (.ok (.inr ⟨(.pan (.iface 175 (.agg [.int z10])),cK),(((),(),()),(c0_0,(),z7,()),(c1_0,z12,()),(c2_0,()),c3,c4,((),()),(c6_0,()),(),c11,())⟩))))
   (.ok (.inr ⟨(.pan (.iface 175 (.agg [.int z6])),cK),(((),(),()),(c0_0,(),z7,()),(c1_0,c1_1,()),(c2_0,()),c3,c4,((),()),(c6_0,()),(),c11,())⟩)))
  (.ok (.inr ⟨(.pan (.iface 175 (.agg [.int z2])),cK),(((),(),()),(c0_0,(),z3,()),(c1_0,c1_1,()),(c2_0,()),c3,c4,((),()),(c6_0,()),(),c11,())⟩)))
 (.ok (.inr ⟨(.exit 2,kr),(((),(),(),(),a12,(),(),(),()),(c0_0,(),c0_2,()),(c1_0,c1_1,()),(c2_0,()),c3,c4,((),()),(c6_0,()),(),c8,c9,c10,c11,())⟩)))
def oh (s:bu):OT (Sum bu aT):=alU s.1.2.2.2.2.2.1 s.1.2.2.2.2.2.2.2.2.2.1 s.1.2.2.2.2.2.2.2.2.2.2.1 s.2.1.1 s.2.1.2.2.1 s.2.2.1.1 s.2.2.1.2.1 s.2.2.2.1.1 s.2.2.2.2.1 s.2.2.2.2.2.1 s.2.2.2.2.2.2.2.1.1 s.2.2.2.2.2.2.2.2.2.1 s.2.2.2.2.2.2.2.2.2.2.1 s.2.2.2.2.2.2.2.2.2.2.2.1 s.2.2.2.2.2.2.2.2.2.2.2.2.1
def Nj (g2_p:bu->qb) (v2:bu->Int) (c2_p:bu->Bool) (g2_2:bu->lz) (s:bu):OT aT:=(.br (c2_p s) (.ok ⟨(.pan (.iface 175 (.agg [.int (v2 s)])),cK),g2_p s⟩) (.ok ⟨(.exit 2,kr),g2_2 s⟩))
def alM:Shape:=⟨212,[uh,nG,nF,(12,aB),(17,K9),(18,.ptr 9 0 0),(26,.ptr 10 0 0),(27,.ptr 11 0 0),(175,.own 12),(176,aB),(177,aB)],[aef,kD,(2,uc),nE,BV,(5,.cells [.own 13]),(6,oU),(7,.gone),(8,fW),(9,fW),(10,fW),(11,fW),(12,ft),(13,ud)],8,true⟩
abbrev dQ:Type:=(Unit×Unit×Unit×Int×Yo)×Yk×jw×rn×ao×ao×bQ×eE×Unit×ao×ao×ao×ao×az×oM
def nt:Shape:=⟨212,[uh,nG,nF,(12,aB),(17,K9),(18,.ptr 9 0 0),(26,.ptr 10 0 0),(27,.ptr 11 0 0)],[aef,kD,(2,uc),nE,BV,(5,.cells [.own 12]),(6,oU),(7,.gone),(8,fW),(9,fW),(10,fW),(11,fW),(12,ud)],8,true⟩
abbrev ly:Type:=(Unit×Unit×Unit×Int×K2)×Yk×jw×rn×ao×ao×bQ×eE×Unit×ao×ao×ao×ao×oM
def alT (a12:Int) (a176:Int) (a177:Int) (c0_0:Int) (c0_2:aG) (c1_0:Int) (c1_1:az) (c2_0:kP) (c3:ao) (c4:ao) (c6_0:Int) (c8:ao) (c9:ao) (c10:ao) (c11:ao) (c12:az) (c13:cY):OT (Sum dQ aT):=
 let z0:Nat:=List.length c12
 let z1:Nat:=Int.toNat a177
 let z2:ab:= {w0:=0,w1:=0,w2:=0,w3:=0}
 (.br (decide (a177<a176))
 (gd [inB a177 z0,decide (z1<z0),inB a177 (List.length c2_0.snd.snd.fst),decide ((List.length c13+1)*104<=140737488355328),inR (a177+(1:Int))] (.ok (.inl (((),(),(),a12,(),(),(),(),(),a176,a177+(1:Int),()),(c0_0,(),c0_2,()),(c1_0,c1_1,()),(c2_0,()),c3,c4,((),()),(c6_0,()),(),c8,c9,c10,c11,c12,c13++ [(List.getD c12 z1 z2,List.getD c2_0.snd.snd.fst z1 (z2,z2,false))],()))))
 (.ok (.inr ⟨(.exit 4,nt),(((),(),(),a12,(),(),(),(),()),(c0_0,(),c0_2,()),(c1_0,c1_1,()),(c2_0,()),c3,c4,((),()),(c6_0,()),(),c8,c9,c10,c11,c13,())⟩)))
def ve (s:dQ):OT (Sum dQ aT):=alT s.1.2.2.2.1 s.1.2.2.2.2.2.2.2.2.2.1 s.1.2.2.2.2.2.2.2.2.2.2.1 s.2.1.1 s.2.1.2.2.1 s.2.2.1.1 s.2.2.1.2.1 s.2.2.2.1.1 s.2.2.2.2.1 s.2.2.2.2.2.1 s.2.2.2.2.2.2.2.1.1 s.2.2.2.2.2.2.2.2.2.1 s.2.2.2.2.2.2.2.2.2.2.1 s.2.2.2.2.2.2.2.2.2.2.2.1 s.2.2.2.2.2.2.2.2.2.2.2.2.1 s.2.2.2.2.2.2.2.2.2.2.2.2.2.1 s.2.2.2.2.2.2.2.2.2.2.2.2.2.2.1
def Ni (g4_4:dQ->ly) (s:dQ):OT aT:=(.ok ⟨(.exit 4,nt),g4_4 s⟩)
def bZ:aH:=⟨[.own 2,aB],[aef,kD,zo],false⟩
section
variable (ok0:bL->Bool) (g0_p:bL->qc) (v0:bL->Int) (c0_p:bL->Bool) (g0_0:bL->lA) (ok2:bu->Bool) (g2_p:bu->qb) (v2:bu->Int) (c2_p:bu->Bool) (g2_2:bu->lz) (ok4:dQ->Bool) (g4_4:dQ->ly)
def AY (a0:kP) (a2:cY) (a3:ab) (a4:ab) (c0_0:Int) (c0_2:aG) (c1_0:Int) (c1_1:az):OT ja.Y:=
 let z0:Int:=kR a0 c0_0
 let z1:bL:=(((),(),(),(),(),(),bm a0.fst (1:Int),a2,(↑(List.length a2):Int),(0:Int),()),(c0_0,(),c0_2,()),(c1_0,c1_1,()),(a0,()),[a3.w0,a3.w1,a3.w2,a3.w3],[a4.w0,a4.w1,a4.w2,a4.w3],((),()),((0:Int),()),(),[],())
 let z2:Int:=v0 z1
 let z3:=(g0_p z1).snd
 let z4:=z3.fst
 let z5:=z4.fst
 let z6:=z4.snd.snd.fst
 let z7:=z3.snd
 let z8:=z7.fst
 let z9:=z8.fst
 let z10:=z8.snd.fst
 let z11:lA:=g0_0 z1
 let z12:=z11.snd
 let z13:=z12.fst
 let z14:=z13.fst
 let z15:BP×aG:=dw z14 z13.snd.snd.fst
 let z16:=z15.fst
 let z17:=z16.snd
 let z18:PUnit×PUnit:=((),())
 let z19:=z15.snd
 let z20:Int×PUnit×Fo:=(z14,(),z19,())
 let z21:=z12.snd
 let z22:=z21.fst
 let z23:=z22.fst
 let z24:=z22.snd.fst
 let z25:mI:=ay z24
 let z26:=z25.snd
 let z27:=z26.fst
 let z28:=z26.snd
 let z29:mI:=ay z28
 let z30:=z29.snd
 let z31:=z30.fst
 let z32:Nat:=pS z23
 let z33:ab:= {w0:=0,w1:=0,w2:=0,w3:=0}
 let z34:ab:=fp z32 z29.fst z33
 let z35:=z30.snd
 let z36:=z21.snd
 let z37:=z36.snd
 let z38:=z37.snd
 let z39:=z38.fst
 let z40:=z11.fst.snd.snd.snd.snd.snd.snd.fst
 let z41:ab:= {w0:=List.getD z39 0 0,w1:=List.getD z39 1 0,w2:=List.getD z39 2 0,w3:=List.getD z39 3 0}
 let z42:=z36.fst.fst
 let z43:=z42.snd
 let z44:=z43.snd.fst
 let z45:=z38.snd.snd
 let z46:=z45.snd.snd.fst
 let z47:bu:=(((),(),(),(),(),z40,(),(),(),z43.fst,(0:Int),()),z20,(z23,z35,()),(z42,()),z37.fst,z39,((),()),(z45.fst.fst,()),(),[z34.w0,z34.w1,z34.w2,z34.w3],[(1:UInt64),(0:UInt64),(0:UInt64),(0:UInt64)],[],z46++ [(n9 (pS z40) z41,List.getD z44 0 (z33,z33,false)),(fp z32 z25.fst z33,z16.fst)],())
 let z48:Int:=v2 z47
 let z49:=(g2_p z47).snd
 let z50:=z49.fst
 let z51:=z50.fst
 let z52:=z50.snd.snd.fst
 let z53:=z49.snd
 let z54:=z53.fst
 let z55:=z54.fst
 let z56:=z54.snd.fst
 let z57:lz:=g2_2 z47
 let z58:=z57.snd
 let z59:=z58.fst
 let z60:=z59.fst
 let z61:Int:=bm z60 (1:Int)
 let z62:(ab×Int)×aG:=dR z61 z59.snd.snd.fst
 let z63:=z62.fst
 let z64:=z63.snd
 let z65:=z62.snd
 let z66:(ab×Int)×aG:=dR z61 z65
 let z67:=z66.fst
 let z68:=z67.snd
 let z69:=z57.fst.snd.snd.snd.snd.fst
 let z70:=z63.fst
 let z71:Nat:=pS z69
 let z72:ab:=n9 z71 z70
 let z73:=z58.snd
 let z74:=z73.snd
 let z75:=z74.snd
 let z76:=z75.snd
 let z77:=z76.snd.snd
 let z78:=z77.snd.snd
 let z79:=z78.snd
 let z80:=z79.snd
 let z81:=z80.fst
 let z82:az:=wtE z71 z72 z81
 let z83:=z66.snd
 let z84:=z73.fst
 let z85:=z84.fst
 let z86:=z84.snd.fst
 let z87:=z67.fst
 let z88:=z80.snd.fst
 let z89:dQ:=(((),(),(),z69,(),(),(),(),(),(↑(List.length z82):Int),(0:Int),()),(z60,(),z83,()),(z85,z86,()),(z74.fst.fst,()),z75.fst,z76.fst,((),()),(z77.fst.fst,()),(),z78.fst,z79.fst,[z87.w0,z87.w1,z87.w2,z87.w3],[z72.w0,z72.w1,z72.w2,z72.w3],z82,z88,())
 let z90:ly:=g4_4 z89
 let z91:=z90.snd
 let z92:=z91.snd
 let z93:=z92.snd
 let z94:=z93.snd.snd.snd.snd.snd.snd
 let z95:=z94.snd
 let z96:=z95.snd
 let z97:=z96.snd
 let z98:=z97.fst
 let z99:=z95.fst
 let z100:=z94.fst
 let z101:=z90.fst.snd.snd.snd.fst
 let z102:ab:= {w0:=List.getD z99 0 0,w1:=List.getD z99 1 0,w2:=List.getD z99 2 0,w3:=List.getD z99 3 0}
 let z103:ab:= {w0:=List.getD z100 0 0,w1:=List.getD z100 1 0,w2:=List.getD z100 2 0,w3:=List.getD z100 3 0}
 let z104:ab:= {w0:=List.getD z98 0 0,w1:=List.getD z98 1 0,w2:=List.getD z98 2 0,w3:=List.getD z98 3 0}
 let z105:Nat:=pS z101
 let z106:ab:=aQ z105 z102 z103
 let z107:=z96.fst
 let z108:ab:= {w0:=List.getD z107 0 0,w1:=List.getD z107 1 0,w2:=List.getD z107 2 0,w3:=List.getD z107 3 0}
 let z109:=z97.snd.fst
 let z110:=z91.fst
 let z111:=z92.fst
 let z112:=z93.fst.fst.snd.snd.snd
 (gd [vh ((a0,c0_0,()),())] (.br (z0==(0:Int))
 (gd [ok0 z1] (.br (c0_p z1)
  (.br (!z2==(0:Int))
   (.ok ⟨bZ,(((),z2,()),(z5,(),z6,()),(z9,z10,()),[],())⟩)
   (.ok ⟨bZ,(((),z2,()),(z5,(),z6,()),(z9,z10,()),z7.snd.snd.snd.snd.snd.snd.snd.fst,())⟩))
  (.br (z17==(0:Int))
   (gd [rK (z18,z20,(z23,z24,()),())] (.br (z27==(0:Int))
    (gd [rK (z18,z20,(z23,z28,()),())] (.br (z31==(0:Int))
     (.br (bJ z34)
      (.ok ⟨bZ,(((),(100:Int),()),(z14,(),z19,()),(z23,z35,()),[],())⟩)
      (gd [decide (4<=List.length z39),tr ((z40,z41,()),()),inB (0:Int) (List.length z44),decide ((List.length z46+2)*104<=140737488355328),ok2 z47] (.br (c2_p z47)
       (.br (!z48==(0:Int))
        (.ok ⟨bZ,(((),z48,()),(z51,(),z52,()),(z55,z56,()),[],())⟩)
        (.ok ⟨bZ,(((),z48,()),(z51,(),z52,()),(z55,z56,()),z53.snd.snd.snd.snd.snd.snd.snd.fst,())⟩))
       (.br (z64==(0:Int))
        (.br (z68==(0:Int))
         (gd [tr ((z69,z70,()),()),sM ((z69,z72,z81,()),()),ok4 z89,decide (4<=List.length z98),decide (4<=List.length z99),decide (4<=List.length z100),dS ((z101,z102,z103,()),()),dS ((z101,z104,z106,()),()),decide (4<=List.length z107),tr ((z101,z108,()),()),decide ((List.length z109+2)*104<=140737488355328)] (.ok ⟨bZ,(((),(0:Int),()),(z110.fst,(),z110.snd.snd.fst,()),(z111.fst,z111.snd.fst,()),z109++ [(aQ z105 z104 z106,z112.snd),(n9 z105 z108,z112.fst)],())⟩))
         (.br (!z68==(0:Int))
          (.ok ⟨bZ,(((),z68,()),(z60,(),z83,()),(z85,z86,()),[],())⟩)
          (.ok ⟨bZ,(((),z68,()),(z60,(),z83,()),(z85,z86,()),z88,())⟩)))
        (.br (!z64==(0:Int))
         (.ok ⟨bZ,(((),z64,()),(z60,(),z65,()),(z85,z86,()),[],())⟩)
         (.ok ⟨bZ,(((),z64,()),(z60,(),z65,()),(z85,z86,()),z88,())⟩))))))
     (.br (!z31==(0:Int))
      (.ok ⟨bZ,(((),z31,()),(z14,(),z19,()),(z23,z35,()),[],())⟩)
      (.ok ⟨bZ,(((),z31,()),(z14,(),z19,()),(z23,z35,()),z46,())⟩))))
    (.br (!z27==(0:Int))
     (.ok ⟨bZ,(((),z27,()),(z14,(),z19,()),(z23,z28,()),[],())⟩)
     (.ok ⟨bZ,(((),z27,()),(z14,(),z19,()),(z23,z28,()),z46,())⟩))))
   (.br (!z17==(0:Int))
    (.ok ⟨bZ,(((),z17,()),(z14,(),z19,()),(z23,z24,()),[],())⟩)
    (.ok ⟨bZ,(((),z17,()),(z14,(),z19,()),(z23,z24,()),z46,())⟩)))))
 (.br (!z0==(0:Int))
  (.ok ⟨bZ,(((),z0,()),(c0_0,(),c0_2,()),(c1_0,c1_1,()),[],())⟩)
  (.ok ⟨bZ,(((),z0,()),(c0_0,(),c0_2,()),(c1_0,c1_1,()),[],())⟩))))
theorem Vz (h0:aY oi ok0 (Nk g0_p v0 c0_p g0_0)) (h2:aY oh ok2 (Nj g2_p v2 c2_p g2_2)) (h4:aY ve ok4 (Ni g4_4)) (pre:vf->Bool) (F:vf->OT ja.Y) (hF:∀ (x:vf) oy,pre x=true->(F x).run=some oy->(AY ok0 g0_p v0 c0_p g0_0 ok2 g2_p v2 c2_p g2_2 ok4 g4_4 x.1.1 x.1.2.2.1 x.1.2.2.2.1 x.1.2.2.2.2.1 x.2.1.1 x.2.1.2.2.1 x.2.2.1.1 x.2.2.1.2.1).run=some oy):aa ag 20 (ja.aw pre F):=
 aIp uk ab1 aq2 aq3 20 Tryz.f20 ja [bZ] (js uk 4 alM [(4,nt)] none none ve bw h4 (js uk 2 alN [(2,kr)] none (some (175,cK)) oh bw h2 (js uk 0 alO [(0,nu)] none (some (175,ks)) oi bw h0 bw))) (λx=>AY ok0 g0_p v0 c0_p g0_0 ok2 g2_p v2 c2_p g2_2 ok4 g4_4 x.1.1 x.1.2.2.1 x.1.2.2.2.1 x.1.2.2.2.2.1 x.2.1.1 x.2.1.2.2.1 x.2.2.1.1 x.2.2.1.2.1) hF
end
def awa (m:Nat) (t:Tm):Tm:=(fp m t.1 ⟨0,0,0,0⟩,t.2)
def wb (m:Nat) (c:Int) (l:List Tm):List Tm:=(l.takeWhile λt=>onB c t.2).map (awa m)
def yb:bL->Bool|((_,_,_,_,_,_,so,com,lim,i,_),x0,x1,(p,_),x3,x4,x5,x6,_,out,_)=>decide (lim=(com.length:Int)/\i=0/\out.length+com.length<=100000)&&ac so
def ye:bL->qc|((_,_,_,_,_,_,so,com,lim,i,_),x0,x1,(p,_),x3,x4,x5,x6,_,out,_)=>(((),(),()),x0,x1,(p,()),x3,x4,x5,x6,(),out++wb (pS so) p.1 com,())
def Dk:bL->lA|((_,_,_,_,_,_,so,com,lim,i,_),x0,x1,(p,_),x3,x4,x5,x6,_,out,_)=>(((),(),(),(),(),(),so,()),x0,x1,(p,()),x3,x4,x5,x6,(),out++wb (pS so) p.1 com,())
def Dm:bL->Bool|((_,_,_,_,_,_,so,com,lim,i,_),x0,x1,(p,_),x3,x4,x5,x6,_,out,_)=> !(com.all λt=>onB p.1 t.2)
theorem alS:aY oi yb (Nk ye (λ_=>41) Dm Dk):=by
 rintro ⟨⟨⟨⟩,⟨⟩,⟨⟩,⟨⟩,⟨⟩,⟨⟩,so,com,lim,i,⟨⟩⟩,⟨x0,x1,⟨p,⟨⟩⟩,x3,x4,x5,x6,⟨⟩,out,⟨⟩⟩⟩ h
 have h':(decide (lim=(com.length:Int)/\i=0/\out.length+com.length<=100000)&&ac so)=true:=h
 rw [av] at h'
 obtain ⟨rfl,rfl,ho⟩:=bh h'.1
 have hs:=h'.2
 have key:∀ (l:List Tm) (i:Nat) (out:List Tm),i+l.length=com.length->com.drop i=l->out.length+l.length<=100000->
  ∃ m,cx oi m (((),(),(),(),(),(),so,com,(com.length:Int),(i:Int),()),x0,x1,(p,()),x3,x4,x5,x6,(),out,())=
   some (cond (l.all λt=>onB p.1 t.2) ⟨(.exit 0,nu),(((),(),(),(),(),(),so,()),x0,x1,(p,()),x3,x4,x5,x6,(),out++wb (pS so) p.1 l,())⟩
    ⟨(.pan (.iface 175 (.agg [.int 41])),ks),(((),(),()),x0,x1,(p,()),x3,x4,x5,x6,(),out++wb (pS so) p.1 l,())⟩):=by
  intro l
  induction l with
  |nil=>
   intro i out hi hd ho
   refine ⟨1,aO ?_⟩
   rw [show out++wb (pS so) p.1 []=out from List.append_nil _]
   exact OT.al (bn (by rw [List.length_nil] at hi;dsimp only;omega))
  |cons t r ih=>
   intro i out hi hd ho
   rw [List.length_cons] at hi ho
   have hk:i<com.length:=by omega
   have e1:com.getD i (⟨0,0,0,0⟩,⟨0,0,0,0⟩,⟨0,0,0,0⟩,false)=t:=by
    rw [oW hk] at hd
    rw [ju,ui hk]
    exact (List.cons.inj hd).1
   have e2:com.drop (i+1)=r:=by
    rw [oW hk] at hd
    exact (List.cons.inj hd).2
   have st:(oi (((),(),(),(),(),(),so,com,(com.length:Int),(i:Int),()),x0,x1,(p,()),x3,x4,x5,x6,(),out,())).run=(OT.br (onB p.1 t.2) (.ok (.inl (((),(),(),(),(),(),so,com,(com.length:Int),((i+1:Nat):Int),()),x0,x1,(p,()),x3,x4,x5,x6,(),out++ [awa (pS so) t],())))
    (.ok (.inr ⟨(.pan (.iface 175 (.agg [.int 41])),ks),(((),(),()),x0,x1,(p,()),x3,x4,x5,x6,(),out,())⟩)):OT (Sum bL aT)).run:=by
    refine (OT.ak (aj (by dsimp only;omega))).trans ((ae ?_).trans ?_)
    ·simp only [ax,aA,aC]
     exact aR (by omega)
    ·simp only [bH,e1]
     cases hb:onB p.1 t.2
     ·rfl
     ·refine (OT.ak rfl).trans ((ae ?_).trans rfl)
      simp only [ax,aA,aC,av]
      exact ⟨hs,aj (by omega),aL (by omega)⟩
   cases hb:onB p.1 t.2
   ·refine ⟨1,aO (st.trans ((OT.al hb).trans ?_))⟩
    rw [ax,hb,show wb (pS so) p.1 (t::r)= [] by unfold wb;rw [List.takeWhile_cons,hb];rfl,List.append_nil]
    rfl
   ·obtain ⟨m,hm⟩:=ih (i+1) (out++ [awa (pS so) t]) (by omega) e2 (by rw [bR,List.length_singleton];omega)
    refine ⟨m+1,aS (st.trans (OT.ak hb)) (hm.trans ?_)⟩
    rw [ax,hb,Bool.true_and,show wb (pS so) p.1 (t::r)=awa (pS so) t::wb (pS so) p.1 r by unfold wb;rw [List.takeWhile_cons,hb];rfl,List.append_assoc,List.singleton_append]
 obtain ⟨m,hm⟩:=key com 0 out (Nat.zero_add _) rfl ho
 refine ⟨m,_,hm,?_⟩
 show (OT.br (!(com.all λt=>onB p.1 t.2)) _ _).run=_
 cases com.all λt=>onB p.1 t.2<;>rfl
abbrev VSt:Type:=List UInt8×(List ab×(ab×(List ab×List Tm)))
def cl (s c:Int) (x:ab) (k:Int) (v:VSt):Int×VSt:=
 cond ((dw c v.1).1.2==0) (cond ((dw c (dw c v.1).2).1.2==0) (cond ((ay v.2.1).2.1==0) (cond (bJ (fp (pS s) (ay v.2.1).1 ⟨0,0,0,0⟩))
  (100,(dw c (dw c v.1).2).2,(ay v.2.1).2.2,v.2.2)
  (0,(dw c (dw c v.1).2).2,(ay v.2.1).2.2,aQ (pS s) v.2.2.1 (fp (pS s) ⟨1,0,0,0⟩ (aQ (pS s) (fp (pS s) (ay v.2.1).1 ⟨0,0,0,0⟩) (lQ (pS s) x ⟨cn 1 k,0,0,0⟩))),v.2.2.2.1++ [fp (pS s) (ay v.2.1).1 ⟨0,0,0,0⟩],
   v.2.2.2.2++ [(anI (pS s) (fp (pS s) (ay v.2.1).1 ⟨0,0,0,0⟩),(dw c v.1).1.1),(fp (pS s) (ay v.2.1).1 ⟨0,0,0,0⟩,(dw c (dw c v.1).2).1.1)]))
  ((ay v.2.1).2.1,(dw c (dw c v.1).2).2,(ay v.2.1).2.2,v.2.2))
  ((dw c (dw c v.1).2).1.2,(dw c (dw c v.1).2).2,v.2))
  ((dw c v.1).1.2,(dw c v.1).2,v.2)
def eQ (s c:Int) (x:ab):Nat->VSt->Int×VSt
 |0,v=>(0,v)
 |n+1,v=>cond ((cl s c x (n:Int) v).1==0) (eQ s c x n (cl s c x (n:Int) v).2) (cl s c x (n:Int) v)
def ya:bu->Bool|((_,_,_,_,_,so,_,_,_,lim,j,_),(c,_,by_,_),(s,tp,_),(p,_),x,x4,x5,x6,_,z,b,us,out,_)=>decide (lim=p.2.1/\j=0/\0<=p.2.1/\p.2.1<=10/\so=s/\tp.length<=140737488355328/\x.length=4/\b.length=4/\us.length<=1000/\out.length<=100000)&&ac s
def eh:bu->Int×VSt|((_,_,_,_,_,so,_,_,_,lim,j,_),(c,_,by_,_),(s,tp,_),(p,_),x,x4,x5,x6,_,z,b,us,out,_)=>eQ s c (gJ x) p.2.1.toNat (by_,tp,gJ b,us,out)
def yd (q:bu):qb:=(((),(),()),(q.2.1.1,(),(eh q).2.1,()),(q.2.2.1.1,(eh q).2.2.1,()),q.2.2.2.1,q.2.2.2.2.1,q.2.2.2.2.2.1,q.2.2.2.2.2.2.1,q.2.2.2.2.2.2.2.1,(),(eh q).2.2.2.2.2,())
def Dj (q:bu):lz:=(((),(),(),(),q.1.2.2.2.2.2.1,(),(),(),()),(q.2.1.1,(),(eh q).2.1,()),(q.2.2.1.1,(eh q).2.2.1,()),q.2.2.2.1,q.2.2.2.2.1,q.2.2.2.2.2.1,q.2.2.2.2.2.2.1,q.2.2.2.2.2.2.2.1,(),q.2.2.2.2.2.2.2.2.2.1,eL (eh q).2.2.2.1,(eh q).2.2.2.2.1,(eh q).2.2.2.2.2,())
def Dl (q:bu):Bool:= !((eh q).1==0)
def Dh (c so s:Int) (p:rG) (x x4:ao) (x5:bQ) (x6:eE) (z:ao) (r:Int×VSt):aT:=cond (r.1==0)
 ⟨(.exit 2,kr),(((),(),(),(),so,(),(),(),()),(c,(),r.2.1,()),(s,r.2.2.1,()),(p,()),x,x4,x5,x6,(),z,eL r.2.2.2.1,r.2.2.2.2.1,r.2.2.2.2.2,())⟩
 ⟨(.pan (.iface 175 (.agg [.int r.1])),cK),(((),(),()),(c,(),r.2.1,()),(s,r.2.2.1,()),(p,()),x,x4,x5,x6,(),r.2.2.2.2.2,())⟩
theorem aGu {l:List UInt64} (h:l.length=4):eL (gJ l)=l:=by
 match l,h with
 | [a,b,c,d],_=>rfl
theorem alR:aY oh ya (Nj yd (λq=>(eh q).1) Dl Dj):=by
 rintro ⟨⟨⟨⟩,⟨⟩,⟨⟩,⟨⟩,⟨⟩,so,⟨⟩,⟨⟩,⟨⟩,lim,j,⟨⟩⟩,⟨⟨c,⟨⟩,by_,⟨⟩⟩,⟨s,tp,⟨⟩⟩,⟨p,⟨⟩⟩,x,x4,x5,x6,⟨⟩,z,b,us,out,⟨⟩⟩⟩ h
 have h':(decide (lim=p.2.1/\j=0/\0<=p.2.1/\p.2.1<=10/\so=s/\tp.length<=140737488355328/\x.length=4/\b.length=4/\us.length<=1000/\out.length<=100000)&&ac s)=true:=h
 rw [av] at h'
 obtain ⟨rfl,rfl,k0,k1,rfl,ht,hx,hb,hu,ho⟩:=bh h'.1
 have hs:=h'.2
 have key:∀ (n:Nat) (j:Nat) (v:VSt),(j:Int)+n=p.2.1->v.2.1.length<=140737488355328->v.2.2.2.1.length<=1000+j->v.2.2.2.2.length<=100000+2*j->
  ∃ m,cx oh m (((),(),(),(),(),so,(),(),(),p.2.1,(j:Int),()),(c,(),v.1,()),(so,v.2.1,()),(p,()),x,x4,x5,x6,(),z,eL v.2.2.1,v.2.2.2.1,v.2.2.2.2,())=some (Dh c so so p x x4 x5 x6 z (eQ so c (gJ x) n v)):=by
  intro n
  induction n with
  |zero=>
   intro j v hj h1 h2 h3
   exact ⟨1,aO (OT.al (bn (by dsimp only;omega)))⟩
  |succ n ih=>
   intro j v hj h1 h2 h3
   have hk:p.2.1-1-(j:Int)=(n:Int):=by omega
   have st:(oh (((),(),(),(),(),so,(),(),(),p.2.1,(j:Int),()),(c,(),v.1,()),(so,v.2.1,()),(p,()),x,x4,x5,x6,(),z,eL v.2.2.1,v.2.2.2.1,v.2.2.2.2,())).run=
    (OT.br ((cl so c (gJ x) (n:Int) v).1==0) (.ok (.inl (((),(),(),(),(),so,(),(),(),p.2.1,((j+1:Nat):Int),()),(c,(),(cl so c (gJ x) (n:Int) v).2.1,()),(so,(cl so c (gJ x) (n:Int) v).2.2.1,()),(p,()),x,x4,x5,x6,(),z,eL (cl so c (gJ x) (n:Int) v).2.2.2.1,(cl so c (gJ x) (n:Int) v).2.2.2.2.1,(cl so c (gJ x) (n:Int) v).2.2.2.2.2,())))
     (.ok (.inr ⟨(.pan (.iface 175 (.agg [.int (cl so c (gJ x) (n:Int) v).1])),cK),(((),(),()),(c,(),(cl so c (gJ x) (n:Int) v).2.1,()),(so,(cl so c (gJ x) (n:Int) v).2.2.1,()),(p,()),x,x4,x5,x6,(),(cl so c (gJ x) (n:Int) v).2.2.2.2.2,())⟩)):OT (Sum bu aT)).run:=by
    have hF:∀ r,cl so c (gJ x) (n:Int) v=r->(OT.br ((cl so c (gJ x) (n:Int) v).1==0) (.ok (.inl (((),(),(),(),(),so,(),(),(),p.2.1,((j+1:Nat):Int),()),(c,(),(cl so c (gJ x) (n:Int) v).2.1,()),(so,(cl so c (gJ x) (n:Int) v).2.2.1,()),(p,()),x,x4,x5,x6,(),z,eL (cl so c (gJ x) (n:Int) v).2.2.2.1,(cl so c (gJ x) (n:Int) v).2.2.2.2.1,(cl so c (gJ x) (n:Int) v).2.2.2.2.2,())))
     (.ok (.inr ⟨(.pan (.iface 175 (.agg [.int (cl so c (gJ x) (n:Int) v).1])),cK),(((),(),()),(c,(),(cl so c (gJ x) (n:Int) v).2.1,()),(so,(cl so c (gJ x) (n:Int) v).2.2.1,()),(p,()),x,x4,x5,x6,(),(cl so c (gJ x) (n:Int) v).2.2.2.2.2,())⟩)):OT (Sum bu aT)).run=
     (OT.br (r.1==0) (.ok (.inl (((),(),(),(),(),so,(),(),(),p.2.1,((j+1:Nat):Int),()),(c,(),r.2.1,()),(so,r.2.2.1,()),(p,()),x,x4,x5,x6,(),z,eL r.2.2.2.1,r.2.2.2.2.1,r.2.2.2.2.2,())))
      (.ok (.inr ⟨(.pan (.iface 175 (.agg [.int r.1])),cK),(((),(),()),(c,(),r.2.1,()),(so,r.2.2.1,()),(p,()),x,x4,x5,x6,(),r.2.2.2.2.2,())⟩)):OT (Sum bu aT)).run:=λr h=>by rw [h]
    generalize (OT.br ((cl so c (gJ x) (n:Int) v).1==0) (.ok (.inl (((),(),(),(),(),so,(),(),(),p.2.1,((j+1:Nat):Int),()),(c,(),(cl so c (gJ x) (n:Int) v).2.1,()),(so,(cl so c (gJ x) (n:Int) v).2.2.1,()),(p,()),x,x4,x5,x6,(),z,eL (cl so c (gJ x) (n:Int) v).2.2.2.1,(cl so c (gJ x) (n:Int) v).2.2.2.2.1,(cl so c (gJ x) (n:Int) v).2.2.2.2.2,())))
     (.ok (.inr ⟨(.pan (.iface 175 (.agg [.int (cl so c (gJ x) (n:Int) v).1])),cK),(((),(),()),(c,(),(cl so c (gJ x) (n:Int) v).2.1,()),(so,(cl so c (gJ x) (n:Int) v).2.2.1,()),(p,()),x,x4,x5,x6,(),(cl so c (gJ x) (n:Int) v).2.2.2.2.2,())⟩)):OT (Sum bu aT)).run=G at*
    unfold cl at hF
    refine (OT.ak (aj (by dsimp only;omega))).trans ?_
    refine fm ((dw c v.1).1.2==0) (λe1=> ?_) (λe1=> ?_)
    ·rw [e1,bo] at hF
     exact (OT.al e1).trans ((OT.al e1).symm.trans (hF _ rfl).symm)
    rw [e1,aV] at hF
    refine (OT.ak e1).trans ?_
    refine fm ((dw c (dw c v.1).2).1.2==0) (λe2=> ?_) (λe2=> ?_)
    ·rw [e2,bo] at hF
     exact (OT.al e2).trans ((OT.al e2).symm.trans (hF _ rfl).symm)
    rw [e2,aV] at hF
    refine (OT.ak e2).trans ((ae (by simp only [ax,aA,aC];exact ba hs (aj h1))).trans ?_)
    refine fm ((ay v.2.1).2.1==0) (λe3=> ?_) (λe3=> ?_)
    ·rw [e3,bo] at hF
     exact (OT.al e3).trans ((OT.al e3).symm.trans (hF _ rfl).symm)
    rw [e3,aV] at hF
    refine (OT.ak e3).trans ?_
    refine fm (bJ (fp (pS so) (ay v.2.1).1 ⟨0,0,0,0⟩)) (λe4=> ?_) (λe4=> ?_)
    ·rw [e4,bo] at hF
     refine (OT.al e4).trans ((ae ?_).trans (Eq.trans ?_ (hF _ rfl).symm))
     ·simp only [ax,aA,aC,av]
      exact ⟨aj (by omega),atp hs e4,aj (by omega),aj (by omega),aL (by omega),aL (by omega),aj (by omega),hs,rfl,hs,hs,hs,rfl,aL (by omega)⟩
     ·simp only [hk]
      rfl
    ·rw [e4,aV] at hF
     exact (OT.ak e4).trans (hF _ rfl).symm
   unfold eQ
   cases h4:(cl so c (gJ x) (n:Int) v).1==0
   ·rw [bo]
    refine ⟨1,aO (st.trans ((OT.al h4).trans ?_))⟩
    unfold Dh
    rw [h4]
    rfl
   ·rw [aV]
    have l1:(cl so c (gJ x) (n:Int) v).2.2.1.length<=140737488355328/\(cl so c (gJ x) (n:Int) v).2.2.2.2.1.length<=v.2.2.2.1.length+1/\(cl so c (gJ x) (n:Int) v).2.2.2.2.2.length<=v.2.2.2.2.length+2:=by
     have:=vC v.2.1
     unfold cl
     cases (dw c v.1).1.2==0<;>cases (dw c (dw c v.1).2).1.2==0<;>cases (ay v.2.1).2.1==0<;>cases bJ (fp (pS so) (ay v.2.1).1 ⟨0,0,0,0⟩)<;>simp only [aV,bo,bR,List.length_cons,List.length_nil]<;>omega
    obtain ⟨m,hm⟩:=ih (j+1) (cl so c (gJ x) (n:Int) v).2 (by omega) l1.1 (by omega) (by omega)
    exact ⟨m+1,aS (st.trans (OT.ak h4)) hm⟩
 obtain ⟨m,hm⟩:=key p.2.1.toNat 0 (by_,tp,gJ b,us,out) (by omega) ht (by dsimp only;omega) (by dsimp only;omega)
 dsimp only at hm
 rw [aGu hb] at hm
 refine ⟨m,_,hm,?_⟩
 show (OT.br (!((eQ so c (gJ x) p.2.1.toNat (by_,tp,gJ b,us,out)).1==0)) (.ok ⟨(.pan (.iface 175 (.agg [.int (eQ so c (gJ x) p.2.1.toNat (by_,tp,gJ b,us,out)).1])),cK),(((),(),()),(c,(),(eQ so c (gJ x) p.2.1.toNat (by_,tp,gJ b,us,out)).2.1,()),(so,(eQ so c (gJ x) p.2.1.toNat (by_,tp,gJ b,us,out)).2.2.1,()),(p,()),x,x4,x5,x6,(),(eQ so c (gJ x) p.2.1.toNat (by_,tp,gJ b,us,out)).2.2.2.2.2,())⟩)
  (.ok ⟨(.exit 2,kr),(((),(),(),(),so,(),(),(),()),(c,(),(eQ so c (gJ x) p.2.1.toNat (by_,tp,gJ b,us,out)).2.1,()),(so,(eQ so c (gJ x) p.2.1.toNat (by_,tp,gJ b,us,out)).2.2.1,()),(p,()),x,x4,x5,x6,(),z,eL (eQ so c (gJ x) p.2.1.toNat (by_,tp,gJ b,us,out)).2.2.2.1,(eQ so c (gJ x) p.2.1.toNat (by_,tp,gJ b,us,out)).2.2.2.2.1,(eQ so c (gJ x) p.2.1.toNat (by_,tp,gJ b,us,out)).2.2.2.2.2,())⟩):OT aT).run=_
 generalize eQ so c (gJ x) p.2.1.toNat (by_,tp,gJ b,us,out)=r
 unfold Dh
 cases h2:r.1==0<;>rfl
def xZ:dQ->Bool|((_,_,_,so,_,_,_,_,_,lim,i,_),x0,x1,(p,_),x3,x4,x5,x6,_,c8,c9,c10,c11,w,out,_)=>decide (lim=(w.length:Int)/\i=0/\w.length<=p.2.2.1.length/\w.length<=1000/\out.length<=200000)
def Di:dQ->ly|((_,_,_,so,_,_,_,_,_,lim,i,_),x0,x1,(p,_),x3,x4,x5,x6,_,c8,c9,c10,c11,w,out,_)=>(((),(),(),so,(),(),(),(),()),x0,x1,(p,()),x3,x4,x5,x6,(),c8,c9,c10,c11,upto (Bx p.2.2.1 w) out w.length,())
theorem alQ:aY ve xZ (Ni Di):=by
 rintro ⟨⟨⟨⟩,⟨⟩,⟨⟩,so,⟨⟩,⟨⟩,⟨⟩,⟨⟩,⟨⟩,lim,i,⟨⟩⟩,⟨x0,x1,⟨p,⟨⟩⟩,x3,x4,x5,x6,⟨⟩,c8,c9,c10,c11,w,out,⟨⟩⟩⟩ h
 obtain ⟨rfl,rfl,hg,hw,ho⟩:=bh (show decide (lim=(w.length:Int)/\i=0/\w.length<=p.2.2.1.length/\w.length<=1000/\out.length<=200000)=true from h)
 have:=(aW (T:=ve) (λk e=>((((),(),(),so,(),(),(),(),(),(w.length:Int),(k:Int),()),x0,x1,(p,()),x3,x4,x5,x6,(),c8,c9,c10,c11,w,e,()):dQ)) (Bx p.2.2.1 w)
  (λe=>(⟨(.exit 4,nt),(((),(),(),so,(),(),(),(),()),x0,x1,(p,()),x3,x4,x5,x6,(),c8,c9,c10,c11,e,())⟩:aT)) w.length out (λk e=>e.length=k+out.length) (Nat.zero_add _).symm (λk e hk hq=>⟨?_,?_⟩) (λe _=> ?_)).1
 ·obtain ⟨m,hm⟩:=this
  exact ⟨m,_,hm,rfl⟩
 ·have hq:e.length=k+out.length:=hq
  refine (OT.ak (aj (by dsimp only;omega))).trans ((ae ?_).trans rfl)
  simp only [ax,aA,aC,av]
  exact ⟨aR (by omega),aj (by rw [bH];exact hk),aR (by omega),aj (by omega),aL (by omega)⟩
 ·show (e++ [_]).length=_
  rw [bR,show e.length=k+out.length from hq,List.length_singleton]
  omega
 ·exact OT.al (bn (by dsimp only;omega))
theorem GY (s c:Int) (x:ab):∀ (n:Nat) (v:VSt),((eQ s c x n v).1==0)=true->(eQ s c x n v).2.2.2.2.1.length=v.2.2.2.1.length+n/\(eQ s c x n v).2.2.2.2.2.length=v.2.2.2.2.length+2*n
 |0,v,_=>⟨rfl,rfl⟩
 |n+1,v,h=>by
  unfold eQ at h⊢
  cases h1:(cl s c x (n:Int) v).1==0
  ·rw [h1,bo,h1] at h
   cases h
  ·rw [h1,aV] at h
   rw [aV]
   obtain ⟨h2,h3⟩:=GY s c x n _ h
   have:(cl s c x (n:Int) v).2.2.2.2.1.length=v.2.2.2.1.length+1/\(cl s c x (n:Int) v).2.2.2.2.2.length=v.2.2.2.2.length+2:=by
    unfold cl at h1⊢
    cases e1:(dw c v.1).1.2==0
    ·rw [e1,bo,e1] at h1;cases h1
    rw [e1,aV] at h1
    cases e2:(dw c (dw c v.1).2).1.2==0
    ·rw [e2,bo,e2] at h1;cases h1
    rw [e2,aV] at h1
    cases e3:(ay v.2.1).2.1==0
    ·rw [e3,bo,e3] at h1;cases h1
    rw [e3,aV] at h1
    cases e4:bJ (fp (pS s) (ay v.2.1).1 ⟨0,0,0,0⟩)
    ·simp only [aV,bo,bR,List.length_cons,List.length_nil,and_self]
    ·rw [e4,aV] at h1;cases h1
   omega
abbrev Yy:Type:=List Tm×(List UInt8×List ab)
def az6 (p:rG) (com:List Tm) (v:ab) (c:Int) (b:aG) (tp:az):VSt:=
 ((dw c b).2,(ay (ay tp).2.2).2.2,⟨1,0,0,0⟩,[],wb (pS (bm p.1 1)) p.1 com++ [(n9 (pS (bm p.1 1)) v,p.2.2.1.getD 0 Qe),(opV (bm p.1 1) tp,(dw c b).1.1)])
def gF (p:rG) (com:List Tm) (x v:ab) (c:Int) (b:aG) (tp:az):Int×VSt:=eQ (bm p.1 1) c x p.2.1.toNat (az6 p com v c b tp)
def az5 (p:rG) (z b a f:ab) (us:az) (out:List Tm):List Tm:=
 upto (Bx p.2.2.1 (wtE (pS (bm p.1 1)) (n9 (pS (bm p.1 1)) a) us)) out (wtE (pS (bm p.1 1)) (n9 (pS (bm p.1 1)) a) us).length
  ++ [(aQ (pS (bm p.1 1)) (n9 (pS (bm p.1 1)) a) (aQ (pS (bm p.1 1)) b z),p.2.2.2.2),(n9 (pS (bm p.1 1)) f,p.2.2.2.1)]
def aFt (p:rG) (c:Int) (z:ab) (r:Int×VSt):Int×Yy:=
 cond (r.1==0) (cond ((dR (bm c 1) r.2.1).1.2==0) (cond ((dR (bm c 1) (dR (bm c 1) r.2.1).2).1.2==0)
  (0,az5 p z r.2.2.2.1 (dR (bm c 1) r.2.1).1.1 (dR (bm c 1) (dR (bm c 1) r.2.1).2).1.1 r.2.2.2.2.1 r.2.2.2.2.2,(dR (bm c 1) (dR (bm c 1) r.2.1).2).2,r.2.2.1)
  ((dR (bm c 1) (dR (bm c 1) r.2.1).2).1.2,[],(dR (bm c 1) (dR (bm c 1) r.2.1).2).2,r.2.2.1))
  ((dR (bm c 1) r.2.1).1.2,[],(dR (bm c 1) r.2.1).2,r.2.2.1))
  (r.1,[],r.2.1,r.2.2.1)
def aCu (p:rG) (com:List Tm) (x v:ab) (c:Int) (b:aG) (tp:az):Int×Yy:=
 cond (kR p c==0) (cond (com.all λt=>onB p.1 t.2) (cond ((dw c b).1.2==0) (cond ((ay tp).2.1==0) (cond ((ay (ay tp).2.2).2.1==0)
  (cond (bJ (opV (bm p.1 1) (ay tp).2.2)) (100,[],(dw c b).2,(ay (ay tp).2.2).2.2)
   (aFt p c (opV (bm p.1 1) (ay tp).2.2) (gF p com x v c b tp)))
  ((ay (ay tp).2.2).2.1,[],(dw c b).2,(ay (ay tp).2.2).2.2))
  ((ay tp).2.1,[],(dw c b).2,(ay tp).2.2))
  ((dw c b).1.2,[],(dw c b).2,tp))
  (41,[],b,tp)) (kR p c,[],b,tp)
def avZ (p:rG) (com:List Tm) (s:Int) (tp:az):Bool:=decide (p.2.2.1.length<=140737488355328/\com.length<=1000/\tp.length<=140737488355328)&&s==bm p.1 1
def xY (x:vf):Bool:=avZ x.1.1 x.1.2.2.1 x.2.2.1.1 x.2.2.1.2.1
def Vy (x:vf):Int×Yy:=aCu x.1.1 x.1.2.2.1 x.1.2.2.2.1 x.1.2.2.2.2.1 x.2.1.1 x.2.1.2.2.1 x.2.2.1.2.1
def az4 (c s:Int) (r:Int×Yy):ja.Y:=⟨bZ,(((),r.1,()),(c,(),r.2.2.1,()),(s,r.2.2.2,()),r.2.1,())⟩
def VA (x:vf):OT ja.Y:=.ok (az4 x.2.1.1 x.2.2.1.1 (Vy x))
set_option maxHeartbeats 4000000 in
theorem ab0 (p:rG) (com:List Tm) (x v:ab) (c:Int) (b:aG) (s:Int) (tp:az) (hp:avZ p com s tp=true):
 (AY yb ye (λ_=>41) Dm Dk ya yd (λq=>(eh q).1) Dl Dj xZ Di p com x v c b s tp).run=some (az4 c s (aCu p com x v c b tp)):=by
 unfold avZ at hp
 rw [av] at hp
 obtain ⟨hL,hs⟩:=hp
 obtain ⟨l1,l2,l3⟩:=bh hL
 have hs:=eq_of_beq hs
 subst hs
 have hF:∀ r,aCu p com x v c b tp=r->some (az4 c (bm p.1 1) (aCu p com x v c b tp))=some (az4 c (bm p.1 1) r):=λr h=>by rw [h]
 generalize some (az4 c (bm p.1 1) (aCu p com x v c b tp))=G at*
 unfold aCu at hF
 --a test that is passed once more by the function that clears the terms
 have nn:∀ {e:Int} {A B:OT ja.Y},(e==0)=false->(OT.br (!(e==0)) A B).run=A.run:=λh=>OT.ak (by rw [h];rfl)
 unfold AY
 refine (ae (by simp only [ax,aA,aC];exact aj l1)).trans ?_
 refine fm (kR p c==0) (λe0=> ?_) (λe0=> ?_)
 ·rw [e0,bo] at hF
  exact (OT.al e0).trans ((nn e0).trans (hF _ rfl).symm)
 have r:=afY e0
 have r5:=r.2.2.2.2.1
 have r6:=r.2.2.2.2.2.1
 have r7:=r.2.2.2.2.2.2.1
 have r8:=r.2.2.2.2.2.2.2.1
 have r9:=r.2.2.2.2.2.2.2.2
 have hso:=r.2.2.2.1
 rw [e0,aV] at hF
 refine (OT.ak e0).trans ((ae ?_).trans ?_)
 ·simp only [ax,aA,aC]
  exact ba (aj ⟨rfl,rfl,show 0+com.length<=100000 by omega⟩) hso
 refine fm (com.all λt=>onB p.1 t.2) (λe1=> ?_) (λe1=> ?_)
 ·rw [e1,bo] at hF
  exact (OT.ak (congrArg (!·) e1)).trans ((OT.ak rfl).trans (hF _ rfl).symm)
 rw [e1,aV] at hF
 refine (OT.al (congrArg (!·) e1)).trans ?_
 refine fm ((dw c b).1.2==0) (λe2=> ?_) (λe2=> ?_)
 ·rw [e2,bo] at hF
  exact (OT.al e2).trans ((nn e2).trans (hF _ rfl).symm)
 rw [e2,aV] at hF
 refine (OT.ak e2).trans ((ae ?_).trans ?_)
 ·simp only [ax,aA,aC]
  exact ba hso (aj l3)
 refine fm ((ay tp).2.1==0) (λe3=> ?_) (λe3=> ?_)
 ·rw [e3,bo] at hF
  exact (OT.al e3).trans ((nn e3).trans (hF _ rfl).symm)
 rw [e3,aV] at hF
 have l4:=gC (vC tp) l3
 have l5:=gC (vC (ay tp).2.2) l4
 refine (OT.ak e3).trans ((ae ?_).trans ?_)
 ·simp only [ax,aA,aC]
  exact ba hso (aj l4)
 refine fm ((ay (ay tp).2.2).2.1==0) (λe4=> ?_) (λe4=> ?_)
 ·rw [e4,bo] at hF
  exact (OT.al e4).trans ((nn e4).trans (hF _ rfl).symm)
 rw [e4,aV] at hF
 refine (OT.ak e4).trans ?_
 refine fm (bJ (opV (bm p.1 1) (ay tp).2.2)) (λe5=> ?_) (λe5=> ?_)
 rotate_left
 ·rw [e5,aV] at hF
  exact (OT.ak e5).trans (hF _ rfl).symm
 rw [e5,bo] at hF
 have hG:=hF _ rfl
 have q1:(wb (pS (bm p.1 1)) p.1 com).length<=com.length:=by
  unfold wb
  rw [List.length_map]
  exact (List.takeWhile_sublist _).length_le
 refine (OT.al e5).trans ((ae ?_).trans ?_)
 ·simp only [ax,aA,aC,av]
  refine ⟨rfl,hso,aR (show (0:Int)<=0/\(0:Int)<(p.2.2.1.length:Int) by omega),aj (show ((wb (pS (bm p.1 1)) p.1 com).length+2)*104<=140737488355328 by omega),ba (aj ⟨rfl,rfl,r7,show p.2.1<=10 by omega,rfl,l5,rfl,rfl,Nat.zero_le _,?_⟩) hso⟩
  show (wb (pS (bm p.1 1)) p.1 com++ [_,_]).length<=100000
  rw [bR,List.length_cons,List.length_cons,List.length_nil]
  omega
 have hE:∀ R:Int×VSt,gF p com x v c b tp=R->G=some (az4 c (bm p.1 1) (aFt p c (opV (bm p.1 1) (ay tp).2.2) R)):=λR h=>by
  rw [<-h];exact hG
 refine fm ((gF p com x v c b tp).1==0) (λe6=> ?_) (λe6=> ?_)
 ·have e8:aFt p c (opV (bm p.1 1) (ay tp).2.2) (gF p com x v c b tp)=((gF p com x v c b tp).1,[],(gF p com x v c b tp).2.1,(gF p com x v c b tp).2.2.1):=by
   unfold aFt
   rw [e6]
   rfl
  refine (OT.ak (congrArg (!·) e6)).trans ((nn e6).trans ?_)
  rw [hE _ rfl,e8]
  rfl
 have hE2:G=some (az4 c (bm p.1 1) (cond ((dR (bm c 1) (gF p com x v c b tp).2.1).1.2==0) (cond ((dR (bm c 1) (dR (bm c 1) (gF p com x v c b tp).2.1).2).1.2==0)
  (0,az5 p (opV (bm p.1 1) (ay tp).2.2) (gF p com x v c b tp).2.2.2.1 (dR (bm c 1) (gF p com x v c b tp).2.1).1.1 (dR (bm c 1) (dR (bm c 1) (gF p com x v c b tp).2.1).2).1.1 (gF p com x v c b tp).2.2.2.2.1 (gF p com x v c b tp).2.2.2.2.2,(dR (bm c 1) (dR (bm c 1) (gF p com x v c b tp).2.1).2).2,(gF p com x v c b tp).2.2.1)
  ((dR (bm c 1) (dR (bm c 1) (gF p com x v c b tp).2.1).2).1.2,[],(dR (bm c 1) (dR (bm c 1) (gF p com x v c b tp).2.1).2).2,(gF p com x v c b tp).2.2.1))
  ((dR (bm c 1) (gF p com x v c b tp).2.1).1.2,[],(dR (bm c 1) (gF p com x v c b tp).2.1).2,(gF p com x v c b tp).2.2.1))):=by
  rw [hE _ rfl]
  unfold aFt
  rw [e6,aV]
 have q2:=GY (bm p.1 1) c x p.2.1.toNat (az6 p com v c b tp) e6
 have q3:(gF p com x v c b tp).2.2.2.2.1.length=p.2.1.toNat:=q2.1.trans (Nat.zero_add _)
 have q4:(gF p com x v c b tp).2.2.2.2.2.length<=1100:=by
  refine gC (Nat.le_of_eq q2.2) ?_
  show (wb (pS (bm p.1 1)) p.1 com++ [_,_]).length+2*p.2.1.toNat<=1100
  rw [bR,List.length_cons,List.length_cons,List.length_nil]
  omega
 clear hE hG hF q2
 refine (OT.al (congrArg (!·) e6)).trans ?_
 refine fm ((dR (bm c 1) (gF p com x v c b tp).2.1).1.2==0) (λe7=> ?_) (λe7=> ?_)
 ·rw [e7,bo] at hE2
  exact (OT.al e7).trans ((nn e7).trans hE2.symm)
 rw [e7,aV] at hE2
 refine (OT.ak e7).trans ?_
 refine fm ((dR (bm c 1) (dR (bm c 1) (gF p com x v c b tp).2.1).2).1.2==0) (λe8=> ?_) (λe8=> ?_)
 ·rw [e8,bo] at hE2
  exact (OT.al e8).trans ((nn e8).trans hE2.symm)
 rw [e8,aV] at hE2
 have w1:(wtE (pS (bm p.1 1)) (n9 (pS (bm p.1 1)) (dR (bm c 1) (gF p com x v c b tp).2.1).1.1) (gF p com x v c b tp).2.2.2.2.1).length=p.2.2.1.length:=by
  rw [r9,<-q3]
  exact azW _ _ _ _
 refine (OT.ak e8).trans ((ae ?_).trans hE2.symm)
 simp only [ax,aA,aC,av]
 refine ⟨hso,ba (aj (show (gF p com x v c b tp).2.2.2.2.1.length<=10 by omega)) hso,aj ⟨rfl,rfl,Nat.le_of_eq w1,gC (Nat.le_of_eq w1) (by omega),gC q4 (by omega)⟩,rfl,rfl,rfl,hso,hso,rfl,hso,aj ?_⟩
 show ((upto (Bx p.2.2.1 (wtE (pS (bm p.1 1)) (n9 (pS (bm p.1 1)) (dR (bm c 1) (gF p com x v c b tp).2.1).1.1) (gF p com x v c b tp).2.2.2.2.1)) (gF p com x v c b tp).2.2.2.2.2 (wtE (pS (bm p.1 1)) (n9 (pS (bm p.1 1)) (dR (bm c 1) (gF p com x v c b tp).2.1).1.1) (gF p com x v c b tp).2.2.2.2.1).length).length+2)*104<=140737488355328
 rw [ads,w1]
 omega
theorem alP:aa ag 20 (ja.aw xY VA):=Vz yb ye (λ_=>41) Dm Dk ya yd (λq=>(eh q).1) Dl Dj xZ Di alS alR alQ _ _ λx oy hp ho=>(ab0 _ _ _ _ _ _ _ _ hp).trans ho
def sO:bi:=(JF 2 (JH 0 2 (ja.aw xY VA)))
theorem QJ:aa ag 20 sO:=(JE (JG alP))
theorem QI:au sO:=(yI (yJ aq))
def YT:Env:=ap 20 sO ave
theorem Lo:bI ag te YT:=aP follows uk QJ QI
def o8:af:=⟨[nH],[],true,0,false⟩
abbrev G9:Type:=oM×Unit
def G8:aH:=⟨[.own 0],[(0,ud)],false⟩
def aeK (a0:cY):OT o8.Y:=
 (gd [decide ((0+List.length a0)*104<=140737488355328)] (.ok ⟨G8,(((),()),[]++a0,())⟩))
theorem ZD (pre:G9->Bool) (F:G9->OT o8.Y) (hF:∀ (x:G9) oy,pre x=true->(F x).run=some oy->(aeK x.1.1).run=some oy):aa ag 19 (o8.aw pre F):=
 cC Lo 19 Tryz.f19 o8 [G8] bw (λx=>aeK x.1.1) hF
def nY (x:G9):Bool:=decide (x.1.1.length*104<=140737488355328)
def aeL (x:G9):OT o8.Y:=.ok ⟨G8,(((),()),x.1.1,())⟩
theorem aom:aa ag 19 (o8.aw nY aeL):=ZD _ _ λx oy hp ho=>by
 rw [<-ho]
 have hp':x.1.1.length*104<=140737488355328:=bh hp
 refine (ae ?_).trans rfl
 simp only [ax,aA,aC]
 exact aj (by omega)
def wQ:bi:=(o8.aw nY aeL)
theorem S7:aa ag 19 wQ:=aom
theorem S6:au wQ:=aq
def aiJ:Env:=ap 19 wQ YT
theorem anC:bI ag te aiJ:=aP follows Lo S7 S6
abbrev Tc:af:=ld
def wU (x:wV):Bool:=x.1.2.1.1==1
def Hc (x:wV):OT ld.Y:=.br (ci x.1.1 x.1.2.1.1 x.1.2.1.2.length==0)
 (.ok ⟨zS,(((),(0:Int),()),(x.1.1,(),(),()),(bm x.1.1 1,(),()),[],x.1.2.1.2,())⟩)
 (.ok ⟨zR,(((),ci x.1.1 x.1.2.1.1 x.1.2.1.2.length,()),())⟩)
theorem aj7:aa ag 34 (Tc.aw wU Hc):=cw (S:=ld) aot λx oy hp ho=>by
 obtain ⟨⟨c,⟨mode,l⟩,⟨⟩⟩,⟨⟩⟩:=x
 have hm:(mode==1)=true:=hp
 refine ⟨rfl,?_⟩
 rw [<-ho]
 unfold O9 Hc
 cases he:ci c mode l.length==0
 ·rfl
 ·exact (OT.ak rfl).trans ((OT.ak hm).trans (OT.ak rfl).symm)
def rL:bi:=(rO [1] 1 (Tc.aw wU Hc))
theorem O7:aa ag 34 rL:=(uz aj7)
theorem O6:au rL:=(mR aq)
def YB:Env:=ap 34 rL aiJ
theorem aei:bI ag te YB:=aP follows anC O7 O6
abbrev aeP:af:=pc
def uw (x:Hf):Bool:=x.1.2.1.1==1&&decide (x.1.2.2.1.length<=140737488355328)
def Pd (x:Hf):OT pc.Y:=.br (ci x.1.1 x.1.2.1.1 x.1.2.1.2.length==0)
 (.ok ⟨FR,(((),(0:Int),()),(x.1.1,(),(),()),(bm x.1.1 1,(),()),x.1.2.2.1,x.1.2.1.2,())⟩)
 (.ok ⟨FQ,(((),ci x.1.1 x.1.2.1.1 x.1.2.1.2.length,()),())⟩)
theorem aoA:aa ag 15 (aeP.aw uw Pd):=cw (S:=pc) av6 λx oy hp ho=>by
 obtain ⟨⟨c,⟨mode,l⟩,b,⟨⟩⟩,⟨⟩⟩:=x
 have hp':((mode==1)&&decide (b.length<=140737488355328))=true:=hp
 rw [av] at hp'
 have hm:=hp'.1
 refine ⟨hp'.2,?_⟩
 rw [<-ho]
 unfold ZR Pd
 cases he:ci c mode l.length==0
 ·rfl
 ·exact (OT.ak rfl).trans ((OT.ak hm).trans (OT.ak rfl).symm)
def wX:bi:=(rO [] 2 (rO [1] 1 (aeP.aw uw Pd)))
theorem Tn:aa ag 15 wX:=(uz (uz aoA))
theorem Tl:au wX:=(mR (mR aq))
def aiK:Env:=ap 15 wX YB
theorem Ot:bI ag te aiK:=aP follows aei Tn Tl
abbrev aGF:Ty:=.prod aAw (.prod (.prod .int (.list .elem)) (.prod (.list .elem) (.prod (.list .elem) (.prod .elem .elem))))
def qe:af:=⟨[.val true aGF],[],true,0,false⟩
abbrev I6:Type:=(aim×Unit)×Unit
def oj:aH:=⟨[.own 0,aB],zA,false⟩
def Gd (a0:aim):OT qe.Y:=
 let z0:Int:=ci a0.fst.fst a0.snd.fst.fst (List.length a0.snd.fst.snd)
 let z1:az×PUnit:=(a0.snd.snd.fst,())
 let z2:Int:=bm a0.fst.fst (1:Int)
 let z3:(kP×PUnit×PUnit×az×ab×rq)×auJ:=((a0.fst,(),(),a0.snd.snd.snd.fst,a0.snd.snd.snd.snd.fst,a0.snd.snd.snd.snd.snd,()),(a0.fst.fst,(),(),()),(z2,a0.snd.fst.snd,()),(a0.snd.snd.fst,()),[],())
 let z4:(Int×PUnit)×auJ:=(opY a0.fst.fst z2 (arh z3)).snd
 let z5:=z4.snd
 let z6:=z5.snd
 let z7:=z6.fst
 let z8:=z6.snd.snd.fst
 (gd [jS ((a0.snd.fst,()),()),wU ((a0.fst.fst,a0.snd.fst,()),())] (.br (z0==(0:Int))
 (gd [lJ ((a0.fst,()),()),gH (z1,()),ux (z1,()),gH ((a0.snd.snd.snd.fst,()),()),A2 z3,CB (((),()),(z5.fst.fst,(),(),()),(z7.fst,z7.snd.fst,()),z8,())] (.ok ⟨oj,(((),z4.fst.fst,()),z8,())⟩))
 (.br (!z0==(0:Int))
  (.ok ⟨oj,(((),z0,()),[],())⟩)
  (.ok ⟨oj,(((),z0,()),[],())⟩))))
theorem ab9 (pre:I6->Bool) (F:I6->OT qe.Y) (hF:∀ (x:I6) oy,pre x=true->(F x).run=some oy->(Gd x.1.1).run=some oy):aa ag 12 (qe.aw pre F):=
 cC Ot 12 Tryz.f12 qe [oj] bw (λx=>Gd x.1.1) hF
abbrev SI:Type:=rG×((Int×List ab)×(List ab×(List ab×(ab×ab))))
def aEO (a:SI):Int×auR:=aa6 a.1 a.2.2.2.1 a.2.2.2.2.1 a.2.2.2.2.2 a.1.1 (bm a.1.1 1) a.2.1.2 a.2.2.1 []
def adG (a:SI):Int:=ci a.1.1 a.2.1.1 a.2.1.2.length
def MJ (a:SI):Int×aG:=cond (adG a==0) ((aEO a).1,(aEO a).2.2.2) (adG a,[])
def aH4 (a:SI):Jc:=((a.1,(),(),a.2.2.2.1,a.2.2.2.2.1,a.2.2.2.2.2,()),(a.1.1,(),(),()),(bm a.1.1 1,a.2.1.2,()),(a.2.2.1,()),[],())
def atw (a:SI):Bool:=jS ((a.2.1,()),())&&(a.2.1.1==1&&(lJ ((a.1,()),())&&(gH ((a.2.2.1,()),())&&(ux ((a.2.2.1,()),())&&(gH ((a.2.2.2.1,()),())&&(!(adG a==0)||(A2 (aH4 a)&&fe (((aEO a).2.2.2,()),()))))))))
def Nn (x:I6):Bool:=atw x.1.1
def agI (x:I6):OT qe.Y:=.ok ⟨oj,(((),(MJ x.1.1).1,()),(MJ x.1.1).2,())⟩
theorem arc:aa ag 12 (qe.aw Nn agI):=ab9 _ _ λx oy hp ho=>by
 rw [<-ho]
 clear ho
 obtain ⟨⟨a,⟨⟩⟩,⟨⟩⟩:=x
 have hp':atw a=true:=hp
 unfold atw at hp'
 simp only [av] at hp'
 obtain ⟨h1,h2,h3,h4,h5,h6,h7⟩:=hp'
 show (Gd a).run=some ⟨oj,(((),(MJ a).1,()),(MJ a).2,())⟩
 unfold Gd
 refine (ae (by simp only [ax,aA,aC,av];exact ⟨h1,h2⟩)).trans ?_
 refine fm (adG a==0) (λe=> ?_) (λe=> ?_)
 ·refine (OT.al e).trans ((OT.ak (congrArg (!·) e)).trans ?_)
  unfold MJ
  rw [e]
  rfl
 ·rw [e,Bool.not_true,Bool.false_or,av] at h7
  refine (OT.ak e).trans ((ae ?_).trans ?_)
  ·simp only [ax,aA,aC,av]
   exact ⟨h3,h4,h5,h6,h7.1,h7.2⟩
  ·unfold MJ
   rw [e]
   rfl
def yj:bi:=(qe.aw Nn agI)
theorem VM:aa ag 12 yj:=arc
theorem VL:au yj:=aq
def ai0:Env:=ap 12 yj aiK
theorem OB:bI ag te ai0:=aP follows Ot VM VL
def xX:af:=⟨[.val true aGF,iE,dY],[],true,0,false⟩
abbrev Vw:Type:=(aim×aG×oN)×Unit
def qa:aH:=⟨[kZ,aB,aB],[],false⟩
def QH (a0:aim) (a1:aG) (a2:ab):OT xX.Y:=
 let z0:Bool:=lJ ((a0.fst,()),())
 let z1:Bool:=gH ((a0.snd.snd.snd.fst,()),())
 let z2:Bool:=ko ((a0.fst,a0.snd.snd.snd.fst,a0.snd.snd.snd.snd.fst,()),())
 let z3:Int:=bm a0.fst.fst (1:Int)
 let z4:(kP×PUnit×cY×ab×rq)×(Int×PUnit×Fo)×K5×PUnit:=((a0.fst,(),[({w0:=1,w1:=0,w2:=0,w3:=0},aEK a0.fst a0.snd.snd.snd.fst a0.snd.snd.snd.snd.fst)],a0.snd.snd.snd.snd.snd,a2,()),(a0.fst.fst,(),a1,()),(z3,a0.snd.fst.snd,()),())
 let z5:(PUnit×Int×PUnit)×(Int×PUnit×Fo)×K5×cY×PUnit:=(az4 a0.fst.fst z3 (Vy z4)).snd
 let z6:=z5.fst.snd.fst
 let z7:=z5.snd
 let z8:Int:=(↑(List.length z7.fst.snd.snd.fst):Int)
 let z9:=z7.snd.snd.fst
 (gd [jS ((a0.snd.fst,()),()),zQ ((a1,()),()),uw ((a0.fst.fst,a0.snd.fst,a1,()),())] (.br (ci a0.fst.fst a0.snd.fst.fst (List.length a0.snd.fst.snd)==(0:Int))
 (gd [z0,z1,z2,z0,xY z4] (.br (!z6==(0:Int))
  (.ok ⟨qa,((false,z8,z6,()),())⟩)
  (gd [qn ((a0.fst.fst,z9,()),())] (.ok ⟨qa,(((wc a0.fst.fst (rE a0.fst.fst z9)).snd.snd,z8,(0:Int),()),())⟩))))
 (gd [z0,z1,z2] (.br (!ci a0.fst.fst a0.snd.fst.fst (List.length a0.snd.fst.snd)==(0:Int))
  (.ok ⟨qa,((false,(0:Int),(80:Int),()),())⟩)
  (.ok ⟨qa,((false,(0:Int),(80:Int),()),())⟩)))))
theorem alL (pre:Vw->Bool) (F:Vw->OT xX.Y) (hF:∀ (x:Vw) oy,pre x=true->(F x).run=some oy->(QH x.1.1 x.1.2.1 x.1.2.2.1).run=some oy):aa ag 26 (xX.aw pre F):=
 cC OB 26 Tryz.f26 xX [qa] bw (λx=>QH x.1.1 x.1.2.1 x.1.2.2.1) hF
def aGf (a:SI):List Tm:= [(⟨1,0,0,0⟩,aEK a.1 a.2.2.2.1 a.2.2.2.2.1)]
def Wg (a:SI) (b:aG) (v:ab):Int×Yy:=aCu a.1 (aGf a) a.2.2.2.2.2 v a.1.1 b a.2.1.2
def Ba (a:SI) (b:aG) (v:ab):Bool×Int×Int:=cond (adG a==0) (cond ((Wg a b v).1==0) ((wc a.1.1 (rE a.1.1 (Wg a b v).2.1)).2.2,((Wg a b v).2.2.1.length:Int),0) (false,((Wg a b v).2.2.1.length:Int),(Wg a b v).1)) (false,0,80)
def arG (a:SI) (b:aG) (v:ab):Bool:=jS ((a.2.1,()),())&&(zQ ((b,()),())&&(uw ((a.1.1,a.2.1,b,()),())&&(lJ ((a.1,()),())&&(gH ((a.2.2.2.1,()),())&&(ko ((a.1,a.2.2.2.1,a.2.2.2.2.1,()),())&&(!(adG a==0)||(avZ a.1 (aGf a) (bm a.1.1 1) a.2.1.2&&(!((Wg a b v).1==0)||qn ((a.1.1,(Wg a b v).2.1,()),())))))))))
def Vv (x:Vw):Bool:=arG x.1.1 x.1.2.1 x.1.2.2.1
def aq1 (x:Vw):OT xX.Y:=.ok ⟨qa,(((Ba x.1.1 x.1.2.1 x.1.2.2.1).1,(Ba x.1.1 x.1.2.1 x.1.2.2.1).2.1,(Ba x.1.1 x.1.2.1 x.1.2.2.1).2.2,()),())⟩
theorem axV:aa ag 26 (xX.aw Vv aq1):=alL _ _ λx oy hp ho=>by
 rw [<-ho]
 clear ho
 obtain ⟨⟨a,b,v,⟨⟩⟩,⟨⟩⟩:=x
 have hp':arG a b v=true:=hp
 unfold arG at hp'
 simp only [av] at hp'
 obtain ⟨h1,h2,h3,h4,h5,h6,h7⟩:=hp'
 show (QH a b v).run=some ⟨qa,(((Ba a b v).1,(Ba a b v).2.1,(Ba a b v).2.2,()),())⟩
 unfold QH
 refine (ae (by simp only [ax,aA,aC,av];exact ⟨h1,h2,h3⟩)).trans ?_
 refine fm (adG a==0) (λe=> ?_) (λe=> ?_)
 ·refine (OT.al e).trans ((ae (by simp only [ax,aA,aC,av];exact ⟨h4,h5,h6⟩)).trans ((OT.ak (congrArg (!·) e)).trans ?_))
  unfold Ba
  rw [e]
  rfl
 rw [e,Bool.not_true,Bool.false_or,av] at h7
 refine (OT.ak e).trans ((ae (by simp only [ax,aA,aC,av];exact ⟨h4,h5,h6,h4,h7.1⟩)).trans ?_)
 have h8:=h7.2
 refine fm ((Wg a b v).1==0) (λe1=> ?_) (λe1=> ?_)
 ·refine (OT.ak (congrArg (!·) e1)).trans ?_
  unfold Ba
  rw [e,e1]
  rfl
 ·rw [e1,Bool.not_true,Bool.false_or] at h8
  refine (OT.al (congrArg (!·) e1)).trans ((ae (by simp only [ax,aA,aC];exact h8)).trans ?_)
  unfold Ba
  rw [e,e1]
  rfl
def Dg:bi:=(xX.aw Vv aq1)
theorem abZ:aa ag 26 Dg:=axV
theorem abY:au Dg:=aq
def avc:Env:=ap 26 Dg ai0
theorem YS:bI ag te avc:=aP follows OB abZ abY
def A8:af:=⟨[],[],true,0,false⟩
def Jv:aH:=⟨mO,[],false⟩
abbrev arC:Type:=A8.T
def Nv (_:arC):Bool:=true
def agV (_:arC):OT A8.Y:=.ok ⟨Jv,((true,()),())⟩
theorem arB:aa ag 9 (A8.aw Nv agV):=cC YS 9 Tryz.f9 A8 [Jv] bw (λ_=>.ok ⟨Jv,((true,()),())⟩) (λ_ _ _ ho=>ho)
def yF:bi:=(A8.aw Nv agV)
theorem Wd:aa ag 9 yF:=arB
theorem Wc:au yF:=aq
def ai5:Env:=ap 9 yF avc
theorem anE:bI ag te ai5:=aP follows YS Wd Wc
end
section
namespace Ipa
open Lean.Grind
structure Lin (R M:Type) [CommRing R] [IntModule M] where
 act:R->M->M
 aee:∀ a b x,act (a+b) x=act a x+act b x
 auA:∀ a x y,act a (x+y)=act a x+act a y
 aDO:∀ a b x,act (a*b) x=act a (act b x)
 aDF:∀ x,act 1 x=x
variable {R M:Type} [CommRing R] [IntModule M] (L:Lin R M)
theorem Lin.aeo (x:M):L.act 0 x=0:=by
 have h:=L.aee 0 0 x
 rw [show (0:R)+0=0 by grind] at h
 grind
theorem Lin.azO (a:R):L.act a (0:M)=0:=by
 have h:=L.auA a 0 0
 rw [show (0:M)+0=0 by grind] at h
 grind
def inn:List R->List R->R
 |a::r,b::s=>a*b+inn r s
 |_,_=>0
def dot:List R->List M->M
 |a::r,g::s=>L.act a g+dot r s
 |_,_=>0
def val (z:R) (U W:M) (a b:List R) (g:List M) (f:R):M:=dot L a g+L.act (inn a b*z) U+L.act f W
def ev (x:R):List R->R
 | []=>0
 |v::r=>ev x r*x+v
end Ipa
end
section
set_option maxRecDepth 100000
theorem aHZ {p xs z3 yz x3 s2 mm m b1 s a1 yy Y X l y x z:Int} (h0:p∣xs-(l*l-x-x)) (h1:p∣l*(y+y)-(x*x+x*x+x*x)) (h2:p∣z3-(yz*2)) (h3:p∣yz-(Y*z)) (h4:p∣x3-(mm-s2)) (h5:p∣s2-(s*2)) (h6:p∣mm-(m*m)) (h7:p∣m-(b1*3)) (h8:p∣b1-(X*X)) (h9:p∣s-(a1*4)) (h10:p∣a1-(X*yy)) (h11:p∣yy-(Y*Y)) (h12:p∣X-x*(z*z)) (h13:p∣Y-y*(z*z*z)):p∣(x3-xs*(z3*z3)):=
 dk (dc (-z3*z3) h0 (dc (-2*Y*l*z*z*z*z*z-3*x*x*z*z*z*z*z*z*z*z) h1 (dc (-z3*l*l+2*z3*x-2*yz*l*l+4*yz*x) h2 (dc (-4*yz*l*l+8*yz*x-4*Y*l*l*z+8*Y*x*z) h3 (dc (1) h4 (dc (-1) h5 (dc (1) h6 (dc (m+3*b1) h7 (dc (9*b1+9*X*X) h8 (dc (-2) h9 (dc (-8) h10 (dc (-8*X) h11 (dc (-8*Y*Y+9*X*X*X+9*X*X*x*z*z+9*X*x*x*z*z*z*z+9*x*x*x*z*z*z*z*z*z) h12 (dc (-4*Y*l*l*z*z-6*l*x*x*z*z*z*z*z) h13 (dz p))))))))))))))) (by clear h0 h1 h2 h3 h4 h5 h6 h7 h8 h9 h10 h11 h12 h13;grind)
theorem aHY {p ys xs z3 yz y3 y8 y4 md d x3 s2 mm m b1 s a1 yy Y X l y x z:Int} (h0:p∣ys-(l*(x-xs)-y)) (h1:p∣xs-(l*l-x-x)) (h2:p∣l*(y+y)-(x*x+x*x+x*x)) (h3:p∣z3-(yz*2)) (h4:p∣yz-(Y*z)) (h5:p∣y3-(md-y8)) (h6:p∣y8-(y4*8)) (h7:p∣y4-(yy*yy)) (h8:p∣md-(m*d)) (h9:p∣d-(s-x3)) (h10:p∣x3-(mm-s2)) (h11:p∣s2-(s*2)) (h12:p∣mm-(m*m)) (h13:p∣m-(b1*3)) (h14:p∣b1-(X*X)) (h15:p∣s-(a1*4)) (h16:p∣a1-(X*yy)) (h17:p∣yy-(Y*Y)) (h18:p∣X-x*(z*z)) (h19:p∣Y-y*(z*z*z)):p∣(y3-ys*(z3*z3*z3)):=
 dk (dc (-z3*z3*z3) h0 (dc (z3*z3*z3*l) h1 (dc (4*Y*Y*l*l*z*z*z*z*z*z-12*Y*Y*x*z*z*z*z*z*z+6*Y*l*x*x*z*z*z*z*z*z*z*z*z+9*x*x*x*x*z*z*z*z*z*z*z*z*z*z*z*z) h2 (dc (z3*z3*l*l*l-3*z3*z3*l*x+z3*z3*y+2*z3*yz*l*l*l-6*z3*yz*l*x+2*z3*yz*y+4*yz*yz*l*l*l-12*yz*yz*l*x+4*yz*yz*y) h3 (dc (8*yz*yz*l*l*l-24*yz*yz*l*x+8*yz*yz*y+8*yz*Y*l*l*l*z-24*yz*Y*l*x*z+8*yz*Y*y*z+8*Y*Y*l*l*l*z*z-24*Y*Y*l*x*z*z+8*Y*Y*y*z*z) h4 (dc (1) h5 (dc (-1) h6 (dc (-8) h7 (dc (1) h8 (dc (m) h9 (dc (-m) h10 (dc (m) h11 (dc (-m) h12 (dc (-m*m-3*m*b1-9*b1*b1+3*s) h13 (dc (-27*b1*b1-27*b1*X*X+9*s-27*X*X*X*X) h14 (dc (9*X*X) h15 (dc (36*X*X) h16 (dc (-8*yy-8*Y*Y+36*X*X*X) h17 (dc (36*Y*Y*X*X+36*Y*Y*X*x*z*z+36*Y*Y*x*x*z*z*z*z-27*X*X*X*X*X-27*X*X*X*X*x*z*z-27*X*X*X*x*x*z*z*z*z-27*X*X*x*x*x*z*z*z*z*z*z-27*X*x*x*x*x*z*z*z*z*z*z*z*z-27*x*x*x*x*x*z*z*z*z*z*z*z*z*z*z) h18 (dc (-8*Y*Y*Y+8*Y*Y*l*l*l*z*z*z-24*Y*Y*l*x*z*z*z+12*Y*l*l*x*x*z*z*z*z*z*z+18*l*x*x*x*x*z*z*z*z*z*z*z*z*z) h19 (dz p))))))))))))))))))))) (by clear h0 h1 h2 h3 h4 h5 h6 h7 h8 h9 h10 h11 h12 h13 h14 h15 h16 h17 h18 h19;grind)
theorem aHX {p z3 yz Y y z:Int} (h0:p∣z3-(yz*2)) (h1:p∣yz-(Y*z)) (h2:p∣Y-y*(z*z*z)):p∣(z3-2*(y*(z*(z*(z*z))))):=
 dk (dc (1) h0 (dc (2) h1 (dc (2*z) h2 (dz p)))) (by clear h0 h1 h2;grind)
theorem aIa {p h v u qz pz X2 X1 x1 x2 z1 z2:Int} (h0:p∣h-(v-u)) (h1:p∣v-(X2*pz)) (h2:p∣u-(X1*qz)) (h3:p∣qz-(z2*z2)) (h4:p∣pz-(z1*z1)) (h5:p∣X1-x1*(z1*z1)) (h6:p∣X2-x2*(z2*z2)):p∣(h-(x2-x1)*(z1*z1*(z2*z2))):=
 dk (dc (1) h0 (dc (1) h1 (dc (-1) h2 (dc (-X1) h3 (dc (X2) h4 (dc (-z2*z2) h5 (dc (z1*z1) h6 (dz p)))))))) (by clear h0 h1 h2 h3 h4 h5 h6;grind)
theorem aH9 {p r t p3 s q3 qz pz Y2 Y1 y1 y2 z1 z2:Int} (h0:p∣r-(t-s)) (h1:p∣t-(Y2*p3)) (h2:p∣p3-(pz*z1)) (h3:p∣s-(Y1*q3)) (h4:p∣q3-(qz*z2)) (h5:p∣qz-(z2*z2)) (h6:p∣pz-(z1*z1)) (h7:p∣Y1-y1*(z1*z1*z1)) (h8:p∣Y2-y2*(z2*z2*z2)):p∣(r-(y2-y1)*(z1*z1*z1*(z2*z2*z2))):=
 dk (dc (1) h0 (dc (1) h1 (dc (Y2) h2 (dc (-1) h3 (dc (-Y1) h4 (dc (-Y1*z2) h5 (dc (Y2*z1) h6 (dc (-z2*z2*z2) h7 (dc (z1*z1*z1) h8 (dz p)))))))))) (by clear h0 h1 h2 h3 h4 h5 h6 h7 h8;grind)
theorem aH8 {p xs z3 zz x3 c2 rh rr cc hhh hh r t p3 h v s q3 u qz pz Y2 X2 Y1 X1 y2 y1 l x1 x2 z1 z2:Int} (h0:p∣xs-(l*l-x1-x2)) (h1:p∣l*(x1-x2)-(y1-y2)) (h2:p∣z3-(h*zz)) (h3:p∣zz-(z1*z2)) (h4:p∣x3-(rh-c2)) (h5:p∣c2-(cc*2)) (h6:p∣rh-(rr-hhh)) (h7:p∣rr-(r*r)) (h8:p∣cc-(u*hh)) (h9:p∣hhh-(hh*h)) (h10:p∣hh-(h*h)) (h11:p∣r-(t-s)) (h12:p∣t-(Y2*p3)) (h13:p∣p3-(pz*z1)) (h14:p∣h-(v-u)) (h15:p∣v-(X2*pz)) (h16:p∣s-(Y1*q3)) (h17:p∣q3-(qz*z2)) (h18:p∣u-(X1*qz)) (h19:p∣qz-(z2*z2)) (h20:p∣pz-(z1*z1)) (h21:p∣X1-x1*(z1*z1)) (h22:p∣Y1-y1*(z1*z1*z1)) (h23:p∣X2-x2*(z2*z2)) (h24:p∣Y2-y2*(z2*z2*z2)):p∣(x3-xs*(z3*z3)):=
 dk (dc (-z3*z3) h0 (dc (Y2*z1*z1*z1*z1*z1*z1*z2*z2*z2-l*x1*z1*z1*z1*z1*z1*z1*z2*z2*z2*z2*z2*z2+l*x2*z1*z1*z1*z1*z1*z1*z2*z2*z2*z2*z2*z2-y1*z1*z1*z1*z1*z1*z1*z2*z2*z2*z2*z2*z2) h1 (dc (-z3*l*l+z3*x1+z3*x2-zz*h*l*l+zz*h*x1+zz*h*x2) h2 (dc (-zz*h*h*l*l+zz*h*h*x1+zz*h*h*x2-h*h*l*l*z1*z2+h*h*x1*z1*z2+h*h*x2*z1*z2) h3 (dc (1) h4 (dc (-1) h5 (dc (1) h6 (dc (1) h7 (dc (-2) h8 (dc (-1) h9 (dc (-h-2*u) h10 (dc (r+t-s) h11 (dc (t+p3*Y2-2*s) h12 (dc (p3*Y2*Y2-2*s*Y2+pz*Y2*Y2*z1) h13 (dc (-h*h-h*v-h*u-h*l*l*z1*z1*z2*z2+h*x1*z1*z1*z2*z2+h*x2*z1*z1*z2*z2-v*v-v*l*l*z1*z1*z2*z2+v*x1*z1*z1*z2*z2+v*x2*z1*z1*z2*z2+u*u+u*l*l*z1*z1*z2*z2-u*x1*z1*z1*z2*z2-u*x2*z1*z1*z2*z2) h14 (dc (-v*v+v*u-v*pz*X2-v*l*l*z1*z1*z2*z2+v*x1*z1*z1*z2*z2+v*x2*z1*z1*z2*z2+u*u+u*pz*X2+2*u*l*l*z1*z1*z2*z2-2*u*x1*z1*z1*z2*z2-2*u*x2*z1*z1*z2*z2-pz*pz*X2*X2-pz*X2*l*l*z1*z1*z2*z2+pz*X2*x1*z1*z1*z2*z2+pz*X2*x2*z1*z1*z2*z2) h15 (dc (s+q3*Y1-2*pz*Y2*z1) h16 (dc (q3*Y1*Y1+qz*Y1*Y1*z2-2*pz*Y2*Y1*z1) h17 (dc (-u*u-u*qz*X1+u*pz*X2-u*l*l*z1*z1*z2*z2+u*x1*z1*z1*z2*z2+u*x2*z1*z1*z2*z2-qz*qz*X1*X1+qz*pz*X2*X1-qz*X1*l*l*z1*z1*z2*z2+qz*X1*x1*z1*z1*z2*z2+qz*X1*x2*z1*z1*z2*z2+pz*pz*X2*X2+2*pz*X2*l*l*z1*z1*z2*z2-2*pz*X2*x1*z1*z1*z2*z2-2*pz*X2*x2*z1*z1*z2*z2) h18 (dc (-qz*qz*X1*X1*X1+qz*pz*X2*X1*X1+qz*Y1*Y1*z2*z2-qz*X1*X1*X1*z2*z2-qz*X1*X1*l*l*z1*z1*z2*z2+qz*X1*X1*x1*z1*z1*z2*z2+qz*X1*X1*x2*z1*z1*z2*z2+pz*pz*X2*X2*X1-2*pz*Y2*Y1*z1*z2+pz*X2*X1*X1*z2*z2+2*pz*X2*X1*l*l*z1*z1*z2*z2-2*pz*X2*X1*x1*z1*z1*z2*z2-2*pz*X2*X1*x2*z1*z1*z2*z2+Y1*Y1*z2*z2*z2*z2-X1*X1*X1*z2*z2*z2*z2-X1*X1*l*l*z1*z1*z2*z2*z2*z2+X1*X1*x1*z1*z1*z2*z2*z2*z2+X1*X1*x2*z1*z1*z2*z2*z2*z2) h19 (dc (-pz*pz*X2*X2*X2+pz*Y2*Y2*z1*z1-pz*X2*X2*X2*z1*z1+pz*X2*X2*X1*z2*z2-pz*X2*X2*l*l*z1*z1*z2*z2+pz*X2*X2*x1*z1*z1*z2*z2+pz*X2*X2*x2*z1*z1*z2*z2+Y2*Y2*z1*z1*z1*z1-2*Y2*Y1*z1*z2*z2*z2-X2*X2*X2*z1*z1*z1*z1+X2*X2*X1*z1*z1*z2*z2-X2*X2*l*l*z1*z1*z1*z1*z2*z2+X2*X2*x1*z1*z1*z1*z1*z2*z2+X2*X2*x2*z1*z1*z1*z1*z2*z2+X2*X1*X1*z2*z2*z2*z2+2*X2*X1*l*l*z1*z1*z2*z2*z2*z2-2*X2*X1*x1*z1*z1*z2*z2*z2*z2-2*X2*X1*x2*z1*z1*z2*z2*z2*z2) h20 (dc (X2*X2*z1*z1*z1*z1*z2*z2+X2*X1*z1*z1*z2*z2*z2*z2+2*X2*l*l*z1*z1*z1*z1*z2*z2*z2*z2-X2*x1*z1*z1*z1*z1*z2*z2*z2*z2-2*X2*x2*z1*z1*z1*z1*z2*z2*z2*z2-X1*X1*z2*z2*z2*z2*z2*z2-X1*l*l*z1*z1*z2*z2*z2*z2*z2*z2+X1*x2*z1*z1*z2*z2*z2*z2*z2*z2-l*l*x1*z1*z1*z1*z1*z2*z2*z2*z2*z2*z2+x1*x2*z1*z1*z1*z1*z2*z2*z2*z2*z2*z2) h21 (dc (-2*Y2*z1*z1*z1*z2*z2*z2+Y1*z2*z2*z2*z2*z2*z2+y1*z1*z1*z1*z2*z2*z2*z2*z2*z2) h22 (dc (-X2*X2*z1*z1*z1*z1*z1*z1-X2*l*l*z1*z1*z1*z1*z1*z1*z2*z2+2*X2*x1*z1*z1*z1*z1*z1*z1*z2*z2+2*l*l*x1*z1*z1*z1*z1*z1*z1*z2*z2*z2*z2-l*l*x2*z1*z1*z1*z1*z1*z1*z2*z2*z2*z2-x1*x1*z1*z1*z1*z1*z1*z1*z2*z2*z2*z2) h23 (dc (Y2*z1*z1*z1*z1*z1*z1-l*x1*z1*z1*z1*z1*z1*z1*z2*z2*z2+l*x2*z1*z1*z1*z1*z1*z1*z2*z2*z2-y1*z1*z1*z1*z1*z1*z1*z2*z2*z2) h24 (dz p)))))))))))))))))))))))))) (by clear h0 h1 h2 h3 h4 h5 h6 h7 h8 h9 h10 h11 h12 h13 h14 h15 h16 h17 h18 h19 h20 h21 h22 h23 h24;grind)
theorem aH7 {p ys xs z3 zz y3 sh rd d x3 c2 rh rr cc hhh hh r t p3 h v s q3 u qz pz Y2 X2 Y1 X1 y2 y1 l x1 x2 z1 z2:Int} (h0:p∣ys-(l*(x1-xs)-y1)) (h1:p∣xs-(l*l-x1-x2)) (h2:p∣l*(x1-x2)-(y1-y2)) (h3:p∣z3-(h*zz)) (h4:p∣zz-(z1*z2)) (h5:p∣y3-(rd-sh)) (h6:p∣sh-(s*hhh)) (h7:p∣rd-(r*d)) (h8:p∣d-(cc-x3)) (h9:p∣x3-(rh-c2)) (h10:p∣c2-(cc*2)) (h11:p∣rh-(rr-hhh)) (h12:p∣rr-(r*r)) (h13:p∣cc-(u*hh)) (h14:p∣hhh-(hh*h)) (h15:p∣hh-(h*h)) (h16:p∣r-(t-s)) (h17:p∣t-(Y2*p3)) (h18:p∣p3-(pz*z1)) (h19:p∣h-(v-u)) (h20:p∣v-(X2*pz)) (h21:p∣s-(Y1*q3)) (h22:p∣q3-(qz*z2)) (h23:p∣u-(X1*qz)) (h24:p∣qz-(z2*z2)) (h25:p∣pz-(z1*z1)) (h26:p∣X1-x1*(z1*z1)) (h27:p∣Y1-y1*(z1*z1*z1)) (h28:p∣X2-x2*(z2*z2)) (h29:p∣Y2-y2*(z2*z2*z2)):p∣(y3-ys*(z3*z3*z3)):=
 dk (dc (-z3*z3*z3) h0 (dc (z3*z3*z3*l) h1 (dc (-Y2*Y2*z1*z1*z1*z1*z1*z1*z1*z1*z1*z2*z2*z2+Y2*l*x1*z1*z1*z1*z1*z1*z1*z1*z1*z1*z2*z2*z2*z2*z2*z2-Y2*l*x2*z1*z1*z1*z1*z1*z1*z1*z1*z1*z2*z2*z2*z2*z2*z2+2*Y2*y1*z1*z1*z1*z1*z1*z1*z1*z1*z1*z2*z2*z2*z2*z2*z2-l*l*x1*x1*z1*z1*z1*z1*z1*z1*z1*z1*z1*z2*z2*z2*z2*z2*z2*z2*z2*z2+2*l*l*x1*x2*z1*z1*z1*z1*z1*z1*z1*z1*z1*z2*z2*z2*z2*z2*z2*z2*z2*z2-l*l*x2*x2*z1*z1*z1*z1*z1*z1*z1*z1*z1*z2*z2*z2*z2*z2*z2*z2*z2*z2-y1*l*x1*z1*z1*z1*z1*z1*z1*z1*z1*z1*z2*z2*z2*z2*z2*z2*z2*z2*z2+2*x1*x1*x1*z1*z1*z1*z1*z1*z1*z1*z1*z1*z2*z2*z2*z2*z2*z2*z2*z2*z2+y1*l*x2*z1*z1*z1*z1*z1*z1*z1*z1*z1*z2*z2*z2*z2*z2*z2*z2*z2*z2-3*x1*x1*x2*z1*z1*z1*z1*z1*z1*z1*z1*z1*z2*z2*z2*z2*z2*z2*z2*z2*z2+x2*x2*x2*z1*z1*z1*z1*z1*z1*z1*z1*z1*z2*z2*z2*z2*z2*z2*z2*z2*z2-y1*y1*z1*z1*z1*z1*z1*z1*z1*z1*z1*z2*z2*z2*z2*z2*z2*z2*z2*z2) h2 (dc (z3*z3*l*l*l-2*z3*z3*l*x1-z3*z3*l*x2+z3*z3*y1+z3*zz*h*l*l*l-2*z3*zz*h*l*x1-z3*zz*h*l*x2+z3*zz*h*y1+zz*zz*h*h*l*l*l-2*zz*zz*h*h*l*x1-zz*zz*h*h*l*x2+zz*zz*h*h*y1) h3 (dc (zz*zz*h*h*h*l*l*l-2*zz*zz*h*h*h*l*x1-zz*zz*h*h*h*l*x2+zz*zz*h*h*h*y1+zz*h*h*h*l*l*l*z1*z2-2*zz*h*h*h*l*x1*z1*z2-zz*h*h*h*l*x2*z1*z2+zz*h*h*h*y1*z1*z2+h*h*h*l*l*l*z1*z1*z2*z2-2*h*h*h*l*x1*z1*z1*z2*z2-h*h*h*l*x2*z1*z1*z2*z2+h*h*h*y1*z1*z1*z2*z2) h4 (dc (1) h5 (dc (-1) h6 (dc (1) h7 (dc (r) h8 (dc (-r) h9 (dc (r) h10 (dc (-r) h11 (dc (-r) h12 (dc (3*r) h13 (dc (r-s) h14 (dc (r*h+3*r*u-h*s) h15 (dc (-r*r-r*t+r*s-t*t+2*t*s+h*h*h+3*h*h*u-s*s) h16 (dc (-t*t-t*p3*Y2+3*t*s-p3*p3*Y2*Y2+3*p3*s*Y2+h*h*h+3*h*h*u-3*s*s) h17 (dc (-p3*p3*Y2*Y2*Y2+3*p3*s*Y2*Y2-p3*pz*Y2*Y2*Y2*z1+h*h*h*Y2+3*h*h*u*Y2-3*s*s*Y2+3*s*pz*Y2*Y2*z1-pz*pz*Y2*Y2*Y2*z1*z1) h18 (dc (-2*h*h*s+h*h*pz*Y2*z1+h*h*l*l*l*z1*z1*z1*z2*z2*z2-2*h*h*l*x1*z1*z1*z1*z2*z2*z2-h*h*l*x2*z1*z1*z1*z2*z2*z2+h*h*y1*z1*z1*z1*z2*z2*z2-2*h*v*s+h*v*pz*Y2*z1+h*v*l*l*l*z1*z1*z1*z2*z2*z2-2*h*v*l*x1*z1*z1*z1*z2*z2*z2-h*v*l*x2*z1*z1*z1*z2*z2*z2+h*v*y1*z1*z1*z1*z2*z2*z2-h*s*u+2*h*u*pz*Y2*z1-h*u*l*l*l*z1*z1*z1*z2*z2*z2+2*h*u*l*x1*z1*z1*z1*z2*z2*z2+h*u*l*x2*z1*z1*z1*z2*z2*z2-h*u*y1*z1*z1*z1*z2*z2*z2-2*v*v*s+v*v*pz*Y2*z1+v*v*l*l*l*z1*z1*z1*z2*z2*z2-2*v*v*l*x1*z1*z1*z1*z2*z2*z2-v*v*l*x2*z1*z1*z1*z2*z2*z2+v*v*y1*z1*z1*z1*z2*z2*z2+v*s*u+v*u*pz*Y2*z1-2*v*u*l*l*l*z1*z1*z1*z2*z2*z2+4*v*u*l*x1*z1*z1*z1*z2*z2*z2+2*v*u*l*x2*z1*z1*z1*z2*z2*z2-2*v*u*y1*z1*z1*z1*z2*z2*z2+s*u*u-2*u*u*pz*Y2*z1+u*u*l*l*l*z1*z1*z1*z2*z2*z2-2*u*u*l*x1*z1*z1*z1*z2*z2*z2-u*u*l*x2*z1*z1*z1*z2*z2*z2+u*u*y1*z1*z1*z1*z2*z2*z2) h19 (dc (-2*v*v*s+v*v*pz*Y2*z1+v*v*l*l*l*z1*z1*z1*z2*z2*z2-2*v*v*l*x1*z1*z1*z1*z2*z2*z2-v*v*l*x2*z1*z1*z1*z2*z2*z2+v*v*y1*z1*z1*z1*z2*z2*z2+3*v*s*u-2*v*s*pz*X2-3*v*u*l*l*l*z1*z1*z1*z2*z2*z2+6*v*u*l*x1*z1*z1*z1*z2*z2*z2+3*v*u*l*x2*z1*z1*z1*z2*z2*z2-3*v*u*y1*z1*z1*z1*z2*z2*z2+v*pz*pz*Y2*X2*z1+v*pz*X2*l*l*l*z1*z1*z1*z2*z2*z2-2*v*pz*X2*l*x1*z1*z1*z1*z2*z2*z2-v*pz*X2*l*x2*z1*z1*z1*z2*z2*z2+v*pz*X2*y1*z1*z1*z1*z2*z2*z2+3*s*u*pz*X2-2*s*pz*pz*X2*X2-3*u*u*pz*Y2*z1+3*u*u*l*l*l*z1*z1*z1*z2*z2*z2-6*u*u*l*x1*z1*z1*z1*z2*z2*z2-3*u*u*l*x2*z1*z1*z1*z2*z2*z2+3*u*u*y1*z1*z1*z1*z2*z2*z2-3*u*pz*X2*l*l*l*z1*z1*z1*z2*z2*z2+6*u*pz*X2*l*x1*z1*z1*z1*z2*z2*z2+3*u*pz*X2*l*x2*z1*z1*z1*z2*z2*z2-3*u*pz*X2*y1*z1*z1*z1*z2*z2*z2+pz*pz*pz*Y2*X2*X2*z1+pz*pz*X2*X2*l*l*l*z1*z1*z1*z2*z2*z2-2*pz*pz*X2*X2*l*x1*z1*z1*z1*z2*z2*z2-pz*pz*X2*X2*l*x2*z1*z1*z1*z2*z2*z2+pz*pz*X2*X2*y1*z1*z1*z1*z2*z2*z2) h20 (dc (s*s+s*q3*Y1-3*s*pz*Y2*z1+q3*q3*Y1*Y1-3*q3*pz*Y2*Y1*z1-u*u*u+3*u*pz*pz*X2*X2-2*pz*pz*pz*X2*X2*X2+3*pz*pz*Y2*Y2*z1*z1) h21 (dc (q3*q3*Y1*Y1*Y1+q3*qz*Y1*Y1*Y1*z2-3*q3*pz*Y2*Y1*Y1*z1-u*u*u*Y1+3*u*pz*pz*X2*X2*Y1+qz*qz*Y1*Y1*Y1*z2*z2-3*qz*pz*Y2*Y1*Y1*z1*z2-2*pz*pz*pz*X2*X2*X2*Y1+3*pz*pz*Y2*Y2*Y1*z1*z1) h22 (dc (-u*u*qz*Y1*z2+2*u*u*pz*Y2*z1-u*u*l*l*l*z1*z1*z1*z2*z2*z2+2*u*u*l*x1*z1*z1*z1*z2*z2*z2+u*u*l*x2*z1*z1*z1*z2*z2*z2-u*u*y1*z1*z1*z1*z2*z2*z2-u*qz*qz*Y1*X1*z2+2*u*qz*pz*Y2*X1*z1-u*qz*X1*l*l*l*z1*z1*z1*z2*z2*z2+2*u*qz*X1*l*x1*z1*z1*z1*z2*z2*z2+u*qz*X1*l*x2*z1*z1*z1*z2*z2*z2-u*qz*X1*y1*z1*z1*z1*z2*z2*z2-3*u*pz*pz*Y2*X2*z1+3*u*pz*X2*l*l*l*z1*z1*z1*z2*z2*z2-6*u*pz*X2*l*x1*z1*z1*z1*z2*z2*z2-3*u*pz*X2*l*x2*z1*z1*z1*z2*z2*z2+3*u*pz*X2*y1*z1*z1*z1*z2*z2*z2-qz*qz*qz*Y1*X1*X1*z2+2*qz*qz*pz*Y2*X1*X1*z1-qz*qz*X1*X1*l*l*l*z1*z1*z1*z2*z2*z2+2*qz*qz*X1*X1*l*x1*z1*z1*z1*z2*z2*z2+qz*qz*X1*X1*l*x2*z1*z1*z1*z2*z2*z2-qz*qz*X1*X1*y1*z1*z1*z1*z2*z2*z2-3*qz*pz*pz*Y2*X2*X1*z1+3*qz*pz*pz*X2*X2*Y1*z2+3*qz*pz*X2*X1*l*l*l*z1*z1*z1*z2*z2*z2-6*qz*pz*X2*X1*l*x1*z1*z1*z1*z2*z2*z2-3*qz*pz*X2*X1*l*x2*z1*z1*z1*z2*z2*z2+3*qz*pz*X2*X1*y1*z1*z1*z1*z2*z2*z2-3*pz*pz*X2*X2*l*l*l*z1*z1*z1*z2*z2*z2+6*pz*pz*X2*X2*l*x1*z1*z1*z1*z2*z2*z2+3*pz*pz*X2*X2*l*x2*z1*z1*z1*z2*z2*z2-3*pz*pz*X2*X2*y1*z1*z1*z1*z2*z2*z2) h23 (dc (-qz*qz*qz*Y1*X1*X1*X1*z2+2*qz*qz*pz*Y2*X1*X1*X1*z1+qz*qz*Y1*Y1*Y1*z2*z2*z2-qz*qz*Y1*X1*X1*X1*z2*z2*z2-qz*qz*X1*X1*X1*l*l*l*z1*z1*z1*z2*z2*z2+2*qz*qz*X1*X1*X1*l*x1*z1*z1*z1*z2*z2*z2+qz*qz*X1*X1*X1*l*x2*z1*z1*z1*z2*z2*z2-qz*qz*X1*X1*X1*y1*z1*z1*z1*z2*z2*z2-3*qz*pz*pz*Y2*X2*X1*X1*z1+3*qz*pz*pz*X2*X2*Y1*X1*z2-3*qz*pz*Y2*Y1*Y1*z1*z2*z2+2*qz*pz*Y2*X1*X1*X1*z1*z2*z2+3*qz*pz*X2*X1*X1*l*l*l*z1*z1*z1*z2*z2*z2-6*qz*pz*X2*X1*X1*l*x1*z1*z1*z1*z2*z2*z2-3*qz*pz*X2*X1*X1*l*x2*z1*z1*z1*z2*z2*z2+3*qz*pz*X2*X1*X1*y1*z1*z1*z1*z2*z2*z2+qz*Y1*Y1*Y1*z2*z2*z2*z2*z2-qz*Y1*X1*X1*X1*z2*z2*z2*z2*z2-qz*X1*X1*X1*l*l*l*z1*z1*z1*z2*z2*z2*z2*z2+2*qz*X1*X1*X1*l*x1*z1*z1*z1*z2*z2*z2*z2*z2+qz*X1*X1*X1*l*x2*z1*z1*z1*z2*z2*z2*z2*z2-qz*X1*X1*X1*y1*z1*z1*z1*z2*z2*z2*z2*z2-2*pz*pz*pz*X2*X2*X2*Y1*z2+3*pz*pz*Y2*Y2*Y1*z1*z1*z2-3*pz*pz*Y2*X2*X1*X1*z1*z2*z2+3*pz*pz*X2*X2*Y1*X1*z2*z2*z2-3*pz*pz*X2*X2*X1*l*l*l*z1*z1*z1*z2*z2*z2+6*pz*pz*X2*X2*X1*l*x1*z1*z1*z1*z2*z2*z2+3*pz*pz*X2*X2*X1*l*x2*z1*z1*z1*z2*z2*z2-3*pz*pz*X2*X2*X1*y1*z1*z1*z1*z2*z2*z2-3*pz*Y2*Y1*Y1*z1*z2*z2*z2*z2+2*pz*Y2*X1*X1*X1*z1*z2*z2*z2*z2+3*pz*X2*X1*X1*l*l*l*z1*z1*z1*z2*z2*z2*z2*z2-6*pz*X2*X1*X1*l*x1*z1*z1*z1*z2*z2*z2*z2*z2-3*pz*X2*X1*X1*l*x2*z1*z1*z1*z2*z2*z2*z2*z2+3*pz*X2*X1*X1*y1*z1*z1*z1*z2*z2*z2*z2*z2+Y1*Y1*Y1*z2*z2*z2*z2*z2*z2*z2-Y1*X1*X1*X1*z2*z2*z2*z2*z2*z2*z2-X1*X1*X1*l*l*l*z1*z1*z1*z2*z2*z2*z2*z2*z2*z2+2*X1*X1*X1*l*x1*z1*z1*z1*z2*z2*z2*z2*z2*z2*z2+X1*X1*X1*l*x2*z1*z1*z1*z2*z2*z2*z2*z2*z2*z2-X1*X1*X1*y1*z1*z1*z1*z2*z2*z2*z2*z2*z2*z2) h24 (dc (pz*pz*pz*Y2*X2*X2*X2*z1-pz*pz*Y2*Y2*Y2*z1*z1*z1+pz*pz*Y2*X2*X2*X2*z1*z1*z1-2*pz*pz*X2*X2*X2*Y1*z2*z2*z2+pz*pz*X2*X2*X2*l*l*l*z1*z1*z1*z2*z2*z2-2*pz*pz*X2*X2*X2*l*x1*z1*z1*z1*z2*z2*z2-pz*pz*X2*X2*X2*l*x2*z1*z1*z1*z2*z2*z2+pz*pz*X2*X2*X2*y1*z1*z1*z1*z2*z2*z2-pz*Y2*Y2*Y2*z1*z1*z1*z1*z1+3*pz*Y2*Y2*Y1*z1*z1*z2*z2*z2+pz*Y2*X2*X2*X2*z1*z1*z1*z1*z1-3*pz*Y2*X2*X1*X1*z1*z2*z2*z2*z2-2*pz*X2*X2*X2*Y1*z1*z1*z2*z2*z2+pz*X2*X2*X2*l*l*l*z1*z1*z1*z1*z1*z2*z2*z2-2*pz*X2*X2*X2*l*x1*z1*z1*z1*z1*z1*z2*z2*z2-pz*X2*X2*X2*l*x2*z1*z1*z1*z1*z1*z2*z2*z2+pz*X2*X2*X2*y1*z1*z1*z1*z1*z1*z2*z2*z2+3*pz*X2*X2*Y1*X1*z2*z2*z2*z2*z2-3*pz*X2*X2*X1*l*l*l*z1*z1*z1*z2*z2*z2*z2*z2+6*pz*X2*X2*X1*l*x1*z1*z1*z1*z2*z2*z2*z2*z2+3*pz*X2*X2*X1*l*x2*z1*z1*z1*z2*z2*z2*z2*z2-3*pz*X2*X2*X1*y1*z1*z1*z1*z2*z2*z2*z2*z2-Y2*Y2*Y2*z1*z1*z1*z1*z1*z1*z1+3*Y2*Y2*Y1*z1*z1*z1*z1*z2*z2*z2+Y2*X2*X2*X2*z1*z1*z1*z1*z1*z1*z1-3*Y2*X2*X1*X1*z1*z1*z1*z2*z2*z2*z2-3*Y2*Y1*Y1*z1*z2*z2*z2*z2*z2*z2+2*Y2*X1*X1*X1*z1*z2*z2*z2*z2*z2*z2-2*X2*X2*X2*Y1*z1*z1*z1*z1*z2*z2*z2+X2*X2*X2*l*l*l*z1*z1*z1*z1*z1*z1*z1*z2*z2*z2-2*X2*X2*X2*l*x1*z1*z1*z1*z1*z1*z1*z1*z2*z2*z2-X2*X2*X2*l*x2*z1*z1*z1*z1*z1*z1*z1*z2*z2*z2+X2*X2*X2*y1*z1*z1*z1*z1*z1*z1*z1*z2*z2*z2+3*X2*X2*Y1*X1*z1*z1*z2*z2*z2*z2*z2-3*X2*X2*X1*l*l*l*z1*z1*z1*z1*z1*z2*z2*z2*z2*z2+6*X2*X2*X1*l*x1*z1*z1*z1*z1*z1*z2*z2*z2*z2*z2+3*X2*X2*X1*l*x2*z1*z1*z1*z1*z1*z2*z2*z2*z2*z2-3*X2*X2*X1*y1*z1*z1*z1*z1*z1*z2*z2*z2*z2*z2+3*X2*X1*X1*l*l*l*z1*z1*z1*z2*z2*z2*z2*z2*z2*z2-6*X2*X1*X1*l*x1*z1*z1*z1*z2*z2*z2*z2*z2*z2*z2-3*X2*X1*X1*l*x2*z1*z1*z1*z2*z2*z2*z2*z2*z2*z2+3*X2*X1*X1*y1*z1*z1*z1*z2*z2*z2*z2*z2*z2*z2) h25 (dc (-3*Y2*X2*X1*z1*z1*z1*z1*z1*z2*z2*z2*z2-3*Y2*X2*x1*z1*z1*z1*z1*z1*z1*z1*z2*z2*z2*z2+2*Y2*X1*X1*z1*z1*z1*z2*z2*z2*z2*z2*z2+2*Y2*X1*x1*z1*z1*z1*z1*z1*z2*z2*z2*z2*z2*z2+2*Y2*x1*x1*z1*z1*z1*z1*z1*z1*z1*z2*z2*z2*z2*z2*z2+3*X2*X2*Y1*z1*z1*z1*z1*z2*z2*z2*z2*z2-3*X2*X2*l*l*l*z1*z1*z1*z1*z1*z1*z1*z2*z2*z2*z2*z2+6*X2*X2*l*x1*z1*z1*z1*z1*z1*z1*z1*z2*z2*z2*z2*z2+3*X2*X2*l*x2*z1*z1*z1*z1*z1*z1*z1*z2*z2*z2*z2*z2-3*X2*X2*y1*z1*z1*z1*z1*z1*z1*z1*z2*z2*z2*z2*z2+3*X2*X1*l*l*l*z1*z1*z1*z1*z1*z2*z2*z2*z2*z2*z2*z2-6*X2*X1*l*x1*z1*z1*z1*z1*z1*z2*z2*z2*z2*z2*z2*z2-3*X2*X1*l*x2*z1*z1*z1*z1*z1*z2*z2*z2*z2*z2*z2*z2+3*X2*X1*y1*z1*z1*z1*z1*z1*z2*z2*z2*z2*z2*z2*z2+3*X2*l*l*l*x1*z1*z1*z1*z1*z1*z1*z1*z2*z2*z2*z2*z2*z2*z2-6*X2*l*x1*x1*z1*z1*z1*z1*z1*z1*z1*z2*z2*z2*z2*z2*z2*z2-3*X2*l*x1*x2*z1*z1*z1*z1*z1*z1*z1*z2*z2*z2*z2*z2*z2*z2+3*X2*y1*x1*z1*z1*z1*z1*z1*z1*z1*z2*z2*z2*z2*z2*z2*z2-Y1*X1*X1*z2*z2*z2*z2*z2*z2*z2*z2*z2-Y1*X1*x1*z1*z1*z2*z2*z2*z2*z2*z2*z2*z2*z2-Y1*x1*x1*z1*z1*z1*z1*z2*z2*z2*z2*z2*z2*z2*z2*z2-X1*X1*l*l*l*z1*z1*z1*z2*z2*z2*z2*z2*z2*z2*z2*z2+2*X1*X1*l*x1*z1*z1*z1*z2*z2*z2*z2*z2*z2*z2*z2*z2+X1*X1*l*x2*z1*z1*z1*z2*z2*z2*z2*z2*z2*z2*z2*z2-X1*X1*y1*z1*z1*z1*z2*z2*z2*z2*z2*z2*z2*z2*z2-X1*l*l*l*x1*z1*z1*z1*z1*z1*z2*z2*z2*z2*z2*z2*z2*z2*z2+2*X1*l*x1*x1*z1*z1*z1*z1*z1*z2*z2*z2*z2*z2*z2*z2*z2*z2+X1*l*x1*x2*z1*z1*z1*z1*z1*z2*z2*z2*z2*z2*z2*z2*z2*z2-X1*y1*x1*z1*z1*z1*z1*z1*z2*z2*z2*z2*z2*z2*z2*z2*z2-l*l*l*x1*x1*z1*z1*z1*z1*z1*z1*z1*z2*z2*z2*z2*z2*z2*z2*z2*z2+2*l*x1*x1*x1*z1*z1*z1*z1*z1*z1*z1*z2*z2*z2*z2*z2*z2*z2*z2*z2+l*x1*x1*x2*z1*z1*z1*z1*z1*z1*z1*z2*z2*z2*z2*z2*z2*z2*z2*z2-y1*x1*x1*z1*z1*z1*z1*z1*z1*z1*z2*z2*z2*z2*z2*z2*z2*z2*z2) h26 (dc (3*Y2*Y2*z1*z1*z1*z1*z1*z1*z2*z2*z2-3*Y2*Y1*z1*z1*z1*z2*z2*z2*z2*z2*z2-3*Y2*y1*z1*z1*z1*z1*z1*z1*z2*z2*z2*z2*z2*z2-2*X2*X2*X2*z1*z1*z1*z1*z1*z1*z2*z2*z2+3*X2*X2*x1*z1*z1*z1*z1*z1*z1*z2*z2*z2*z2*z2+Y1*Y1*z2*z2*z2*z2*z2*z2*z2*z2*z2+Y1*y1*z1*z1*z1*z2*z2*z2*z2*z2*z2*z2*z2*z2-x1*x1*x1*z1*z1*z1*z1*z1*z1*z2*z2*z2*z2*z2*z2*z2*z2*z2+y1*y1*z1*z1*z1*z1*z1*z1*z2*z2*z2*z2*z2*z2*z2*z2*z2) h27 (dc (Y2*X2*X2*z1*z1*z1*z1*z1*z1*z1*z1*z1+Y2*X2*x2*z1*z1*z1*z1*z1*z1*z1*z1*z1*z2*z2-3*Y2*x1*x1*z1*z1*z1*z1*z1*z1*z1*z1*z1*z2*z2*z2*z2+Y2*x2*x2*z1*z1*z1*z1*z1*z1*z1*z1*z1*z2*z2*z2*z2+X2*X2*l*l*l*z1*z1*z1*z1*z1*z1*z1*z1*z1*z2*z2*z2-2*X2*X2*l*x1*z1*z1*z1*z1*z1*z1*z1*z1*z1*z2*z2*z2-X2*X2*l*x2*z1*z1*z1*z1*z1*z1*z1*z1*z1*z2*z2*z2-X2*X2*y1*z1*z1*z1*z1*z1*z1*z1*z1*z1*z2*z2*z2-3*X2*l*l*l*x1*z1*z1*z1*z1*z1*z1*z1*z1*z1*z2*z2*z2*z2*z2+X2*l*l*l*x2*z1*z1*z1*z1*z1*z1*z1*z1*z1*z2*z2*z2*z2*z2+6*X2*l*x1*x1*z1*z1*z1*z1*z1*z1*z1*z1*z1*z2*z2*z2*z2*z2+X2*l*x1*x2*z1*z1*z1*z1*z1*z1*z1*z1*z1*z2*z2*z2*z2*z2-X2*l*x2*x2*z1*z1*z1*z1*z1*z1*z1*z1*z1*z2*z2*z2*z2*z2-X2*y1*x2*z1*z1*z1*z1*z1*z1*z1*z1*z1*z2*z2*z2*z2*z2+3*l*l*l*x1*x1*z1*z1*z1*z1*z1*z1*z1*z1*z1*z2*z2*z2*z2*z2*z2*z2-3*l*l*l*x1*x2*z1*z1*z1*z1*z1*z1*z1*z1*z1*z2*z2*z2*z2*z2*z2*z2+l*l*l*x2*x2*z1*z1*z1*z1*z1*z1*z1*z1*z1*z2*z2*z2*z2*z2*z2*z2-6*l*x1*x1*x1*z1*z1*z1*z1*z1*z1*z1*z1*z1*z2*z2*z2*z2*z2*z2*z2+3*l*x1*x1*x2*z1*z1*z1*z1*z1*z1*z1*z1*z1*z2*z2*z2*z2*z2*z2*z2+l*x1*x2*x2*z1*z1*z1*z1*z1*z1*z1*z1*z1*z2*z2*z2*z2*z2*z2*z2-l*x2*x2*x2*z1*z1*z1*z1*z1*z1*z1*z1*z1*z2*z2*z2*z2*z2*z2*z2+3*y1*x1*x1*z1*z1*z1*z1*z1*z1*z1*z1*z1*z2*z2*z2*z2*z2*z2*z2-y1*x2*x2*z1*z1*z1*z1*z1*z1*z1*z1*z1*z2*z2*z2*z2*z2*z2*z2) h28 (dc (-Y2*Y2*z1*z1*z1*z1*z1*z1*z1*z1*z1+Y2*l*x1*z1*z1*z1*z1*z1*z1*z1*z1*z1*z2*z2*z2-Y2*l*x2*z1*z1*z1*z1*z1*z1*z1*z1*z1*z2*z2*z2+2*Y2*y1*z1*z1*z1*z1*z1*z1*z1*z1*z1*z2*z2*z2-l*l*x1*x1*z1*z1*z1*z1*z1*z1*z1*z1*z1*z2*z2*z2*z2*z2*z2+2*l*l*x1*x2*z1*z1*z1*z1*z1*z1*z1*z1*z1*z2*z2*z2*z2*z2*z2-l*l*x2*x2*z1*z1*z1*z1*z1*z1*z1*z1*z1*z2*z2*z2*z2*z2*z2-y1*l*x1*z1*z1*z1*z1*z1*z1*z1*z1*z1*z2*z2*z2*z2*z2*z2+2*x1*x1*x1*z1*z1*z1*z1*z1*z1*z1*z1*z1*z2*z2*z2*z2*z2*z2+y1*l*x2*z1*z1*z1*z1*z1*z1*z1*z1*z1*z2*z2*z2*z2*z2*z2-3*x1*x1*x2*z1*z1*z1*z1*z1*z1*z1*z1*z1*z2*z2*z2*z2*z2*z2+x2*x2*x2*z1*z1*z1*z1*z1*z1*z1*z1*z1*z2*z2*z2*z2*z2*z2-y1*y1*z1*z1*z1*z1*z1*z1*z1*z1*z1*z2*z2*z2*z2*z2*z2) h29 (dz p))))))))))))))))))))))))))))))) (by clear h0 h1 h2 h3 h4 h5 h6 h7 h8 h9 h10 h11 h12 h13 h14 h15 h16 h17 h18 h19 h20 h21 h22 h23 h24 h25 h26 h27 h28 h29;grind)
theorem aHN {p x3 s2 X x z i:Int} (h0:p∣x3-(X*s2)) (h1:p∣s2-(i*i)) (h2:p∣X-x*(z*z)) (h3:p∣z*i-1):p∣(x3-x):=
 dk (dc (1) h0 (dc (X) h1 (dc (i*i) h2 (dc (x*z*i+x) h3 (dz p))))) (by clear h0 h1 h2 h3;grind)
theorem aHM {p y3 s3 s2 Y y z i:Int} (h0:p∣y3-(Y*s3)) (h1:p∣s3-(s2*i)) (h2:p∣s2-(i*i)) (h3:p∣Y-y*(z*z*z)) (h4:p∣z*i-1):p∣(y3-y):=
 dk (dc (1) h0 (dc (Y) h1 (dc (Y*i) h2 (dc (i*i*i) h3 (dc (y*z*z*i*i+y*z*i+y) h4 (dz p)))))) (by clear h0 h1 h2 h3 h4;grind)
theorem aHp {p s x3 xx dx x y iv:Int} (h0:p∣s-(x3*iv)) (h1:p∣x3-(3*xx)) (h2:p∣xx-(x*x)) (h3:p∣dx-(y+y)) (h4:p∣dx*iv-1):p∣(s*(y+y)-(x*x+x*x+x*x)):=
 dk (dc (2*y) h0 (dc (2*y*iv) h1 (dc (6*y*iv) h2 (dc (-3*x*x*iv) h3 (dc (3*x*x) h4 (dz p)))))) (by clear h0 h1 h2 h3 h4;grind)
theorem aH3 {p s dy dx x1 x2 y1 y2 iv:Int} (h0:p∣s-(dy*iv)) (h1:p∣dy-(y2-y1)) (h2:p∣dx-(x2-x1)) (h3:p∣dx*iv-1):p∣(s*(x1-x2)-(y1-y2)):=
 dk (dc (x1-x2) h0 (dc (x1*iv-x2*iv) h1 (dc (-y1*iv+y2*iv) h2 (dc (y1-y2) h3 (dz p))))) (by clear h0 h1 h2 h3;grind)
theorem aHn {p y3 e d x y1 x1 t:Int} (h0:p∣y3-(e-y1)) (h1:p∣e-(t*d)) (h2:p∣d-(x1-x)):p∣(y3-(t*(x1-x)-y1)):=
 dk (dc (1) h0 (dc (1) h1 (dc (t) h2 (dz p)))) (by clear h0 h1 h2;grind)
theorem aHo {p x d a x1 x2 t:Int} (h0:p∣x-(d-x2)) (h1:p∣d-(a-x1)) (h2:p∣a-(t*t)):p∣(x-(t*t-x1-x2)):=
 dk (dc (1) h0 (dc (1) h1 (dc (1) h2 (dz p)))) (by clear h0 h1 h2;grind)
theorem aH2 {p z xxx xx y x b:Int} (h0:p∣z-(y*y)) (h1:p∣z-(xxx+b)) (h2:p∣xxx-(xx*x)) (h3:p∣xx-(x*x)):p∣(y*y-x*x*x-b):=
 dk (dc (-1) h0 (dc (1) h1 (dc (1) h2 (dc (x) h3 (dz p))))) (by clear h0 h1 h2 h3;grind)
theorem aH1 {p u z xxx xx y x b:Int} (h0:p∣u-(y*y)) (h1:p∣z-(xxx+b)) (h2:p∣xxx-(xx*x)) (h3:p∣xx-(x*x)) (h4:p∣y*y-x*x*x-b):p∣(u-z):=
 dk (dc (1) h0 (dc (-1) h1 (dc (-1) h2 (dc (-x) h3 (dc (1) h4 (dz p)))))) (by clear h0 h1 h2 h3 h4;grind)
end
section
open Sx Go
variable {p:Nat}
theorem ark (hp:Sm p) (pr:Pr p) {z:ab} (hz:¬(p:Int)∣(z.nat:Int)):(p:Int)∣(z.nat:Int)*((E4 p z).nat:Int)-1:=by
 have h2:=pr.1
 have hz':¬p∣z.nat:=λh=>hz (Int.natCast_dvd_natCast.2 h)
 have e:Nat.beq (z.nat%p) 0=false:=by
  cases h:Nat.beq (z.nat%p) 0
  ·rfl
  ·exact absurd (Nat.dvd_of_mod_eq_zero (aX h)) hz'
 have e2:(E4 p z).nat=z.nat^(p-2)%p:=by
  unfold E4 anI
  rw [e]
  simp only [bo]
  have hb:p-2<2^256:=by have:=hp.2;omega
  rw [PX 256 1 _ _ hb (by omega),Nat.one_mul,<-Nat.pow_mod]
  exact cL hp
 rw [e2]
 have hf:=NI pr hz'
 have e3:z.nat^(p-1)=z.nat*z.nat^(p-2):=by
  rw [show p-1=(p-2)+1 by omega,Nat.pow_succ,Nat.mul_comm]
 rw [e3] at hf
 obtain ⟨k,hk⟩:=avP (p:=p) (z.nat^(p-2))
 obtain ⟨m,hm⟩:=avP (p:=p) (z.nat*z.nat^(p-2))
 rw [hf] at hm
 rw [Int.natCast_mul] at hm
 generalize ((z.nat^(p-2)%p:Nat):Int)=u at*
 generalize ((z.nat^(p-2):Nat):Int)=v at*
 have hm:(1:Int)-(z.nat:Int)*v=(p:Int)*m:=hm
 exact ⟨(z.nat:Int)*k-m,by grind⟩
def toQ (P:Pt):PtQ:=cond P.2.2 none (some (P.1.nat,P.2.1.nat))
theorem aqV (hp:Sm p) (X Y X2 s:ab):Thd p X.nat Y.nat X2.nat s.nat (IU p X Y X2 s).1.nat (IU p X Y X2 s).2.1.nat:=by
 unfold IU
 dsimp only
 have h1:=b8 hp s s
 have h2:=lW hp (aQ p s s) X
 have h3:=lW hp (gZ p (aQ p s s) X) X2
 generalize gZ p (gZ p (aQ p s s) X) X2=x3 at*
 have h4:=lW hp X x3
 have h5:=b8 hp s (gZ p X x3)
 have h6:=lW hp (aQ p s (gZ p X x3)) Y
 exact ⟨aHo h3 h2 h1,aHn h6 h5 h4⟩
theorem agD {b:Nat} (c:Cur p b) (hp:Sm p) {X Y X2 Y2 s:ab} (hP:OnQ p b (some (X.nat,Y.nat))) (hR:OnQ p b (some (X2.nat,Y2.nat))) (hl:Lin p X.nat Y.nat X2.nat Y2.nat s.nat):
 toQ (IU p X Y X2 s)=dB p (some (X.nat,Y.nat)) (some (X2.nat,Y2.nat)):=by
 have h:=aqV hp X Y X2 s
 exact (afI c (P:=(X.nat,Y.nat)) (R:=(X2.nat,Y2.nat)) (S:=((IU p X Y X2 s).1.nat,(IU p X Y X2 s).2.1.nat)) hP hR hl (Pn hp _ _) (Pn hp _ _) h).symm
theorem TF:(ab.mk 3 0 0 0).nat=3:=by decide
theorem Pl {b:Nat} (c:Cur p b) (hp:Sm p) {P R:Pt} (hP:OnQ p b (toQ P)) (hR:OnQ p b (toQ R)):toQ (pi p P R)=dB p (toQ P) (toQ R):=by
 obtain ⟨X,Y,i⟩:=P
 obtain ⟨X2,Y2,j⟩:=R
 cases i
 ·cases j
  ·have hP':OnQ p b (some (X.nat,Y.nat)):=hP
   have hR':OnQ p b (some (X2.nat,Y2.nat)):=hR
   have n1:¬(p:Int)∣(Y.nat:Int):=c.yne hP'.2.2
   show toQ (pi p (X,Y,false) (X2,Y2,false))=dB p (some (X.nat,Y.nat)) (some (X2.nat,Y2.nat))
   rcases (bX (eqE X X2)).symm with h|h
   ·have e:pi p (X,Y,false) (X2,Y2,false)=IU p X Y X2 (byP p (gZ p Y2 Y) (gZ p X2 X)):=by unfold pi;simp only [bo,h]
    rw [e]
    refine agD c hp hP' hR' ?_
    have hx:X.nat≠X2.nat:=λe=>by rw [iY e,RH] at h;cases h
    have hd:=lW hp X2 X
    have hn:¬(p:Int)∣((gZ p X2 X).nat:Int):=λhn=>by
     obtain ⟨k,hk⟩:=hd
     obtain ⟨m,hm⟩:=hn
     exact hx (fP hP'.1 hR'.1 ⟨k-m,by grind⟩)
    have hi:=ark hp c.pr hn
    have hm:=b8 hp (gZ p Y2 Y) (E4 p (gZ p X2 X))
    have hy:=lW hp Y2 Y
    unfold byP
    generalize gZ p X2 X=dx at*
    generalize E4 p dx=iv at*
    generalize gZ p Y2 Y=dy at*
    generalize aQ p dy iv=s at*
    have ha:(p:Int)∣(s.nat:Int)*((X.nat:Int)-X2.nat)-((Y.nat:Int)-Y2.nat):=aH3 hm hy hd hi
    refine ⟨ha,?_⟩
    have hn':¬(p:Int)∣(X.nat:Int)-X2.nat:=λhh=>hx (fP hP'.1 hR'.1 hh)
    have hc1:(p:Int)∣(Y.nat:Int)*Y.nat-X.nat*X.nat*X.nat-b:=hP'.2.2
    have hc2:(p:Int)∣(Y2.nat:Int)*Y2.nat-X2.nat*X2.nat*X2.nat-b:=hR'.2.2
    exact (c.pr.ec (ato hc1 hc2 ha)).resolve_left hn'
   ·rcases (bX (eqE Y Y2)).symm with h2|h2
    ·have e:pi p (X,Y,false) (X2,Y2,false)=aK:=by unfold pi;simp only [bo,aV,h,h2]
     rw [e]
     refine (if_pos ⟨?_,λe=> ?_⟩).symm
     ·show X.nat=X2.nat
      rw [nU.1 h]
     ·rw [iY e,RH] at h2
      cases h2
    ·have e:pi p (X,Y,false) (X2,Y2,false)=IU p X Y X2 (byP p (aQ p ⟨3,0,0,0⟩ (aQ p X X)) (fp p Y Y)):=by unfold pi;simp only [bo,aV,h,h2]
     rw [e]
     refine agD c hp hP' hR' ?_
     obtain rfl:=nU.1 h
     obtain rfl:=nU.1 h2
     have hd:=Yj hp Y Y
     have hn:¬(p:Int)∣((fp p Y Y).nat:Int):=λhn=>by
      obtain ⟨k,hk⟩:=hd
      obtain ⟨m,hm⟩:=hn
      rcases c.pr.ec (a:=2) (b:=(Y.nat:Int)) ⟨m-k,by grind⟩ with h|h
      ·exact c.no2 h
      ·exact n1 h
     have hi:=ark hp c.pr hn
     have hm:=b8 hp (aQ p ⟨3,0,0,0⟩ (aQ p X X)) (E4 p (fp p Y Y))
     have h3:=b8 hp ⟨3,0,0,0⟩ (aQ p X X)
     have h4:=b8 hp X X
     rw [TF] at h3
     unfold byP
     generalize fp p Y Y=dx at*
     generalize E4 p dx=iv at*
     generalize aQ p X X=xx at*
     generalize aQ p ⟨3,0,0,0⟩ xx=x3 at*
     generalize aQ p x3 iv=s at*
     exact ⟨⟨0,by rw [Int.sub_self,Int.sub_self,Int.mul_zero,Int.mul_zero];rfl⟩,aHp hm h3 h4 hd hi⟩
  ·show toQ (pi p (X,Y,false) (X2,Y2,true))=_
   have e:pi p (X,Y,false) (X2,Y2,true)=(X,Y,false):=by unfold pi;simp only [bo,aV]
   rw [e]
   rfl
 ·have e:pi p (X,Y,true) (X2,Y2,j)=(X2,Y2,j):=by unfold pi;simp only [aV]
  rw [e]
  rfl
def azS (p:Nat) (w:GG):PtQ->Prop
 |none=>w.2.2.nat=0
 |some P=>w.2.2.nat<p/\¬(p:Int)∣(w.2.2.nat:Int)/\(p:Int)∣(w.1.nat:Int)-(P.1:Int)*((w.2.2.nat:Int)*(w.2.2.nat:Int))/\
  (p:Int)∣(w.2.1.nat:Int)-(P.2:Int)*((w.2.2.nat:Int)*(w.2.2.nat:Int)*(w.2.2.nat:Int))
theorem OW {e:ab} (h:e.nat=0):bJ e=true:=by rw [dM,h];rfl
theorem uo {e:ab} (h:¬(p:Int)∣(e.nat:Int)):bJ e=false:=by
 rw [dM]
 cases hb:Nat.beq e.nat 0
 ·rfl
 ·exact absurd ⟨0,by rw [aX hb];rfl⟩ h
variable {b:Nat}
theorem as2 (c:Cur p b) (hp:Sm p) {w:GG} {P:PtQ} (hP:OnQ p b P) (h:azS p w P):azS p (adp p w) (dB p P P):=by
 obtain ⟨X,Y,Z⟩:=w
 cases P with
 |none=>
  have e:adp p (X,Y,Z)=(X,Y,Z):=by unfold adp;rw [OW (e:=Z) h];rfl
  rw [e]
  exact h
 |some P=>
  obtain ⟨hz,hzn,hX,hY⟩:=h
  have e:adp p (X,Y,Z)=aH0 p X Y Z:=by unfold adp;rw [uo (e:=Z) hzn];rfl
  rw [e]
  cases hs:dB p (some P) (some P) with
  |none=>
   have:dB p (some P) (some P)=some (wj p P P (rk p P P)):=if_neg λh=>h.2 rfl
   rw [this] at hs
   cases hs
  |some S=>
   obtain ⟨hS1,hS2,l,hl,ht⟩:=ni c hP hP hs
   have hyy:=b8 hp Y Y
   have ha:=b8 hp X (aQ p Y Y)
   have hs:=b8 hp (aQ p X (aQ p Y Y)) ⟨4,0,0,0⟩
   have hb:=b8 hp X X
   have hm:=b8 hp (aQ p X X) ⟨3,0,0,0⟩
   unfold aH0 lV
   dsimp only
   rw [ayE] at hs
   rw [TF] at hm
   generalize aQ p (aQ p X X) ⟨3,0,0,0⟩=m at*
   generalize aQ p (aQ p X (aQ p Y Y)) ⟨4,0,0,0⟩=s at*
   have hmm:=b8 hp m m
   have hs2:=b8 hp s ⟨2,0,0,0⟩
   rw [ZK] at hs2
   have hx3:=lW hp (aQ p m m) (aQ p s ⟨2,0,0,0⟩)
   generalize gZ p (aQ p m m) (aQ p s ⟨2,0,0,0⟩)=x3 at*
   have hd:=lW hp s x3
   have hmd:=b8 hp m (gZ p s x3)
   have hy4:=b8 hp (aQ p Y Y) (aQ p Y Y)
   have hy8:=b8 hp (aQ p (aQ p Y Y) (aQ p Y Y)) ⟨8,0,0,0⟩
   rw [asT] at hy8
   have hy3:=lW hp (aQ p m (gZ p s x3)) (aQ p (aQ p (aQ p Y Y) (aQ p Y Y)) ⟨8,0,0,0⟩)
   have hyz:=b8 hp Y Z
   have hz3:=b8 hp (aQ p Y Z) ⟨2,0,0,0⟩
   rw [ZK] at hz3
   have hzz:=aHX hz3 hyz hY
   refine ⟨jH hp _ _,λhn=> ?_,aHZ ht.x hl.b hz3 hyz hx3 hs2 hmm hm hb hs ha hyy hX hY,aHY ht.y ht.x hl.b hz3 hyz hy3 hy8 hy4 hmd hd hx3 hs2 hmm hm hb hs ha hyy hX hY⟩
   have h2:(p:Int)∣2*((P.2:Int)*((Z.nat:Int)*((Z.nat:Int)*((Z.nat:Int)*Z.nat)))):=aGv hn hzz
   rcases c.pr.ec h2 with h|h
   ·exact c.no2 h
   ·rcases c.pr.ec h with h|h
    ·exact c.yne hP.2.2 h
    ·rcases c.pr.ec h with h|h
     ·exact hzn h
     ·rcases c.pr.ec h with h|h
      ·exact hzn h
      ·rcases c.pr.ec h with h|h<;>exact hzn h
end
section
open Sx Go
set_option maxRecDepth 100000
theorem auy {p b:Nat} (c:Cur p b) (hp:Sm p) {w v:GG} {P R:PtQ} (hP:OnQ p b P) (hR:OnQ p b R) (h:azS p w P) (k:azS p v R):azS p (Yi p w v) (dB p P R):=by
 obtain ⟨X1,Y1,Z1⟩:=w
 obtain ⟨X2,Y2,Z2⟩:=v
 cases P with
 |none=>
  have e:Yi p (X1,Y1,Z1) (X2,Y2,Z2)=(X2,Y2,Z2):=by unfold Yi;rw [OW (e:=Z1) h];rfl
  rw [e]
  exact k
 |some P=>
 cases R with
 |none=>
  have e:Yi p (X1,Y1,Z1) (X2,Y2,Z2)=(X1,Y1,Z1):=by unfold Yi;rw [uo (e:=Z1) h.2.1,OW (e:=Z2) k];rfl
  rw [e]
  exact h
 |some R=>
  have hw:=h
  obtain ⟨hz,hzn,hX,hY⟩:=h
  obtain ⟨kz,kzn,kX,kY⟩:=k
  have e:Yi p (X1,Y1,Z1) (X2,Y2,Z2)=aHk p (X1,Y1,Z1) (X2,Y2,Z2):=by unfold Yi;rw [uo (e:=Z1) hzn,uo (e:=Z2) kzn];rfl
  rw [e]
  unfold aHk
  dsimp only at*
  have hpz:=b8 hp Z1 Z1
  have hqz:=b8 hp Z2 Z2
  have hu:=b8 hp X1 (aQ p Z2 Z2)
  have hq3:=b8 hp (aQ p Z2 Z2) Z2
  have hs:=b8 hp Y1 (aQ p (aQ p Z2 Z2) Z2)
  have hv:=b8 hp X2 (aQ p Z1 Z1)
  have hp3:=b8 hp (aQ p Z1 Z1) Z1
  have ht:=b8 hp Y2 (aQ p (aQ p Z1 Z1) Z1)
  generalize aQ p X1 (aQ p Z2 Z2)=u at*
  generalize aQ p Y1 (aQ p (aQ p Z2 Z2) Z2)=s at*
  generalize aQ p X2 (aQ p Z1 Z1)=v at*
  generalize aQ p Y2 (aQ p (aQ p Z1 Z1) Z1)=t at*
  have hh:=lW hp v u
  have hr:=lW hp t s
  have lh:=Pn hp v u
  have lr:=Pn hp t s
  generalize gZ p v u=H at*
  generalize gZ p t s=r at*
  have ah:=aIa hh hv hu hqz hpz hX kX
  have ar:=aH9 hr ht hp3 hs hq3 hqz hpz hY kY
  have out:∀ {a z:Int},¬(p:Int)∣z->(p:Int)∣a*z->(p:Int)∣a:=λhz h=>(c.pr.ec h).resolve_right hz
  have mul:∀ {a z:Int},¬(p:Int)∣a->¬(p:Int)∣z->¬(p:Int)∣a*z:=λha hz h=>(c.pr.ec h).elim ha hz
  have n4:=mul (mul hzn hzn) (mul kzn kzn)
  have n6:=mul (mul (mul hzn hzn) hzn) (mul (mul kzn kzn) kzn)
  unfold aIb
  rcases (bX (bJ H)).symm with h1|h1
  ·rw [h1]
   simp only [bo]
   have hHn:¬(p:Int)∣(H.nat:Int):=λhd=>by
    rw [dM] at h1
    have:=Nat.eq_zero_of_dvd_of_lt (Int.natCast_dvd_natCast.1 hd) lh
    rw [this] at h1
    cases h1
   have hxn:P.1≠R.1:=λhx=>hHn (by
    rw [hx,Int.sub_self,Int.zero_mul,Int.sub_zero] at ah
    exact ah)
   cases hS:dB p (some P) (some R) with
   |none=>
    have:dB p (some P) (some R)=some (wj p P R (rk p P R)):=if_neg λh=>hxn h.1
    rw [this] at hS
    cases hS
   |some S=>
    obtain ⟨hS1,hS2,l,hl,hT⟩:=ni c hP hR hS
    unfold aIq lV
    dsimp only
    have hhh:=b8 hp H H
    have hhhh:=b8 hp (aQ p H H) H
    have hcc:=b8 hp u (aQ p H H)
    have hrr:=b8 hp r r
    have hrh:=lW hp (aQ p r r) (aQ p (aQ p H H) H)
    have hc2:=b8 hp (aQ p u (aQ p H H)) ⟨2,0,0,0⟩
    rw [ZK] at hc2
    have hx3:=lW hp (gZ p (aQ p r r) (aQ p (aQ p H H) H)) (aQ p (aQ p u (aQ p H H)) ⟨2,0,0,0⟩)
    generalize gZ p (gZ p (aQ p r r) (aQ p (aQ p H H) H)) (aQ p (aQ p u (aQ p H H)) ⟨2,0,0,0⟩)=x3 at*
    have hd:=lW hp (aQ p u (aQ p H H)) x3
    have hrd:=b8 hp r (gZ p (aQ p u (aQ p H H)) x3)
    have hsh:=b8 hp s (aQ p (aQ p H H) H)
    have hy3:=lW hp (aQ p r (gZ p (aQ p u (aQ p H H)) x3)) (aQ p s (aQ p (aQ p H H) H))
    have hzz:=b8 hp Z1 Z2
    have hz3:=b8 hp H (aQ p Z1 Z2)
    refine ⟨jH hp _ _,λhn=> ?_,aH8 hT.x hl.a hz3 hzz hx3 hc2 hrh hrr hcc hhhh hhh hr ht hp3 hh hv hs hq3 hu hqz hpz hX hY kX kY,
     aH7 hT.y hT.x hl.a hz3 hzz hy3 hsh hrd hd hx3 hc2 hrh hrr hcc hhhh hhh hr ht hp3 hh hv hs hq3 hu hqz hpz hX hY kX kY⟩
    have h2:=aGv hn hz3
    rcases c.pr.ec h2 with h|h
    ·exact hHn h
    ·have h3:=aGv h hzz
     exact mul hzn kzn h3
  ·rw [h1]
   simp only [aV]
   have hH:H.nat=0:=by rw [dM] at h1;exact aX h1
   have hx:P.1=R.1:=by
    rw [hH] at ah
    have:(p:Int)∣((R.1:Int)-P.1)*((Z1.nat:Int)*Z1.nat*(Z2.nat*Z2.nat)):=aGv (Int.dvd_zero _) ah
    exact (fP hR.1 hP.1 (out n4 this)).symm
   rcases (bX (bJ r)).symm with h2|h2
   ·rw [h2]
    simp only [bo]
    have hy:P.2≠R.2:=λhy=>by
     rw [hy,Int.sub_self,Int.zero_mul,Int.sub_zero] at ar
     rw [dM] at h2
     have:=Nat.eq_zero_of_dvd_of_lt (Int.natCast_dvd_natCast.1 ar) lr
     rw [this] at h2
     cases h2
    have:dB p (some P) (some R)=none:=if_pos ⟨hx,hy⟩
    rw [this]
    exact lL
   ·rw [h2]
    simp only [aV]
    have hr0:r.nat=0:=by rw [dM] at h2;exact aX h2
    have hy:P.2=R.2:=by
     rw [hr0] at ar
     have:(p:Int)∣((R.2:Int)-P.2)*((Z1.nat:Int)*Z1.nat*Z1.nat*(Z2.nat*Z2.nat*Z2.nat)):=aGv (Int.dvd_zero _) ar
     exact (fP hR.2.1 hP.2.1 (out n6 this)).symm
    have:R=P:=by
     obtain ⟨P1,P2⟩:=P
     obtain ⟨R1,R2⟩:=R
     dsimp only at hx hy
     rw [hx,hy]
    rw [this]
    exact as2 c hp hP hw
def Can (P:Pt):Prop:=P.2.2=true->P=aK
theorem ahI {P R:Pt} (hP:Can P) (hR:Can R) (h:toQ P=toQ R):P=R:=by
 obtain ⟨X,Y,i⟩:=P
 obtain ⟨X2,Y2,j⟩:=R
 cases i<;>cases j
 ·have h:some (X.nat,Y.nat)=some (X2.nat,Y2.nat):=h
  simp only [Option.some.injEq,Prod.mk.injEq] at h
  rw [iY h.1,iY h.2]
 ·cases h
 ·cases h
 ·rw [hP rfl,hR rfl]
theorem M0 {p b:Nat} (c:Cur p b) (hp:Sm p) {w:GG} {P:PtQ} (hP:OnQ p b P) (h:azS p w P):toQ (gm p w)=P/\Can (gm p w):=by
 obtain ⟨X,Y,Z⟩:=w
 cases P with
 |none=>
  have e:gm p (X,Y,Z)=aK:=by unfold gm;rw [OW (e:=Z) h];rfl
  rw [e]
  exact ⟨rfl,λ_=>rfl⟩
 |some P=>
  obtain ⟨hz,hzn,hX,hY⟩:=h
  have e:gm p (X,Y,Z)=abd p X Y (E4 p Z):=by unfold gm;rw [uo (e:=Z) hzn];rfl
  rw [e]
  refine ⟨?_,λh=>by cases h⟩
  have hi:=ark hp c.pr hzn
  unfold abd
  have h2:=b8 hp (E4 p Z) (E4 p Z)
  have h3:=b8 hp (aQ p (E4 p Z) (E4 p Z)) (E4 p Z)
  have hx:=b8 hp X (aQ p (E4 p Z) (E4 p Z))
  have hy:=b8 hp Y (aQ p (aQ p (E4 p Z) (E4 p Z)) (E4 p Z))
  have ex:=fP (jH hp _ _) hP.1 (aHN hx h2 hX hi)
  have ey:=fP (jH hp _ _) hP.2.1 (aHM hy h3 h2 hY hi)
  show some ((aQ p X (aQ p (E4 p Z) (E4 p Z))).nat,(aQ p Y (aQ p (aQ p (E4 p Z) (E4 p Z)) (E4 p Z))).nat)=some P
  rw [ex,ey]
theorem GP {p b:Nat} (c:Cur p b) {P:Pt}:azS p (fZ P) (toQ P):=by
 obtain ⟨X,Y,i⟩:=P
 cases i
 ·have h1:=c.big
  refine ⟨?_,λh=> ?_,?_,?_⟩
  ·show (ab.mk 1 0 0 0).nat<p
   rw [Qa]
   omega
  ·have h:(p:Int)∣(((ab.mk 1 0 0 0).nat:Nat):Int):=h
   rw [Qa] at h
   have:=Int.le_of_dvd (by decide) h
   omega
  ·show (p:Int)∣(X.nat:Int)-(X.nat:Int)*((((ab.mk 1 0 0 0).nat:Nat):Int)*(((ab.mk 1 0 0 0).nat:Nat):Int))
   rw [Qa]
   exact ⟨0,by simp⟩
  ·show (p:Int)∣(Y.nat:Int)-(Y.nat:Int)*((((ab.mk 1 0 0 0).nat:Nat):Int)*(((ab.mk 1 0 0 0).nat:Nat):Int)*(((ab.mk 1 0 0 0).nat:Nat):Int))
   rw [Qa]
   exact ⟨0,by simp⟩
 ·exact lL
theorem ahJ {p:Nat} (X Y X2 s:ab):Can (IU p X Y X2 s):=λh=>by cases h
theorem atx {p:Nat} {P R:Pt} (hP:Can P) (hR:Can R):Can (pi p P R):=by
 obtain ⟨X,Y,i⟩:=P
 obtain ⟨X2,Y2,j⟩:=R
 unfold pi
 cases i
 ·cases j
  ·simp only [bo]
   cases eqE X X2
   ·exact ahJ _ _ _ _
   ·cases eqE Y Y2
    ·exact λ_=>rfl
    ·exact ahJ _ _ _ _
  ·exact hP
 ·exact hR
theorem aE0 (k:ab) {n:Nat} (h:n<256):rm k (255-(n:Int))=avR k.nat (255-n):=by
 unfold rm
 rw [aj (show (0:Int)<=255-(n:Int) by omega),aj (show (255:Int)-(n:Int)<256 by omega),show ((255:Int)-(n:Int)).toNat=255-n by omega]
 rfl
theorem F8 {p b:Nat} (c:Cur p b) (hp:Sm p) (k:ab) {P:Pt} (hP:OnQ p b (toQ P)) (hc:Can P):∀ n,n<=256->
 azS p (upto (jG p k (fZ P)) an3 n) (toQ (upto (fQ p k.nat P) aK n))/\OnQ p b (toQ (upto (fQ p k.nat P) aK n))/\Can (upto (fQ p k.nat P) aK n)
 |0,_=>⟨lL,trivial,λ_=>rfl⟩
 |n+1,h=>by
  obtain ⟨h1,h2,h3⟩:=F8 c hp k hP hc n (by omega)
  show azS p (jG p k (fZ P) n (upto (jG p k (fZ P)) an3 n)) (toQ (fQ p k.nat P n (upto (fQ p k.nat P) aK n)))/\OnQ p b (toQ (fQ p k.nat P n (upto (fQ p k.nat P) aK n)))/\Can (fQ p k.nat P n (upto (fQ p k.nat P) aK n))
  generalize upto (jG p k (fZ P)) an3 n=w at*
  generalize upto (fQ p k.nat P) aK n=Q at*
  have d1:=as2 c hp h2 h1
  have d2:=Pl c hp h2 h2
  have d3:=iV c h2 h2
  rw [<-d2] at d1 d3
  have d4:=atx (p:=p) h3 h3
  unfold jG fQ
  rw [aE0 k (by omega)]
  cases avR k.nat (255-n)
  ·exact ⟨d1,d3,d4⟩
  ·simp only [aV]
   have e2:=Pl c hp d3 hP
   refine ⟨?_,?_,atx d4 hc⟩
   ·rw [e2]
    exact auy c hp d3 hP d1 (GP c)
   ·rw [e2]
    exact iV c d3 hP
theorem eU {s:Int} {P:Pt} (h:onB s P=true):ac s=true/\OnQ (pS s) (bS s).nat (toQ P)/\Can P:=by
 have hs:=AF h
 have hp:Sm (pS s):=gU hs
 obtain ⟨X,Y,i⟩:=P
 refine ⟨hs,?_⟩
 unfold onB at h
 rw [hs] at h
 simp only [aV] at h
 cases i
 ·simp only [bo] at h
  refine ⟨?_,λh=>by cases h⟩
  rcases (bX (Nat.blt X.nat (pS s))).symm with h1|h1
  ·rw [h1] at h;cases h
  ·rcases (bX (Nat.blt Y.nat (pS s))).symm with h2|h2
   ·rw [h1,h2] at h;cases h
   ·rw [h1,h2] at h
    simp only [aV] at h
    have e:=nU.1 h
    have hx:X.nat<pS s:=db h1
    have hy:Y.nat<pS s:=db h2
    refine ⟨hx,hy,?_⟩
    have e1:=b8 hp Y Y
    have e2:=b8 hp X X
    have e3:=b8 hp (aQ (pS s) X X) X
    have e4:=Yj hp (aQ (pS s) (aQ (pS s) X X) X) (bS s)
    rw [e] at e1
    unfold L5 at e1
    show ((pS s:Nat):Int)∣(Y.nat:Int)*Y.nat-X.nat*X.nat*X.nat-(bS s).nat
    exact aH2 e1 e4 e3 e2
 ·simp only [aV,av] at h
  refine ⟨trivial,λ_=> ?_⟩
  have z:∀ {e:ab},bJ e=true->e=⟨0,0,0,0⟩:=λ{e} h=>iY (by rw [dM] at h;rw [aX h];exact lL.symm)
  rw [z h.1,z h.2.1]
  rfl
theorem T4 {s:Int} (h:ac s=true) (k:ab):(FC s k).nat=(ofP (pS (bm s 1)) k).nat:=by
 have hp:=gU (dJ h)
 unfold FC
 rw [show (fp (pS (bm s 1)) k ⟨0,0,0,0⟩).nat=(k.nat+(ab.mk 0 0 0 0).nat)%pS (bm s 1) from cL hp,lL,Nat.add_zero]
 exact (cL hp).symm
theorem axA (s:Int) (k:ab) (P:Pt):sB s k P=aqp s k P:=by
 unfold sB aqp
 rcases (bX (onB s P)).symm with h|h
 ·rw [h]
  rfl
 ·rw [h]
  simp only [aV]
  obtain ⟨hs,hP,hc⟩:=eU h
  have c:=be hs
  have hp:Sm (pS s):=gU hs
  obtain ⟨h1,h2,h3⟩:=F8 c hp (FC s k) hP hc 256 (Nat.le_refl _)
  obtain ⟨n1,n2⟩:=M0 c hp h2 h1
  rw [<-T4 hs]
  exact ahI n2 h3 n1
end
section
def ef (p:Nat):Nat->PtQ->PtQ
 |0,_=>none
 |n+1,P=>dB p P (ef p n P)
variable {p b:Nat}
theorem sy (c:Cur p b) {P:PtQ} (hP:OnQ p b P):∀ n,OnQ p b (ef p n P)
 |0=>trivial
 |n+1=>iV c hP (sy c hP n)
theorem mul_one (P:PtQ):ef p 1 P=P:=ck P
theorem uU:∀ n,ef p n none=none
 |0=>rfl
 |n+1=>uU n
theorem ij (c:Cur p b) {P:PtQ} (hP:OnQ p b P) (m:Nat):∀ n,ef p (n+m) P=dB p (ef p n P) (ef p m P)
 |0=>by rw [Nat.zero_add];rfl
 |n+1=>by
  rw [show n+1+m=(n+m)+1 by omega]
  show dB p P (ef p (n+m) P)=dB p (dB p P (ef p n P)) (ef p m P)
  rw [ij c hP m n,add_assoc c hP (sy c hP n) (sy c hP m)]
theorem mf (c:Cur p b) {P:PtQ} (hP:OnQ p b P) (m:Nat):∀ n,ef p (n*m) P=ef p n (ef p m P)
 |0=>by rw [Nat.zero_mul];rfl
 |n+1=>by
  rw [show (n+1)*m=m+n*m by rw [Nat.succ_mul,Nat.add_comm],ij c hP,mf c hP m n]
  rfl
theorem mul_comm (c:Cur p b) {P:PtQ} (hP:OnQ p b P) (m n:Nat):ef p n (ef p m P)=ef p m (ef p n P):=by
 rw [<-mf c hP,<-mf c hP,Nat.mul_comm]
theorem Sq (c:Cur p b) {A B C D:PtQ} (hA:OnQ p b A) (hB:OnQ p b B) (hC:OnQ p b C) (hD:OnQ p b D):
 dB p (dB p A B) (dB p C D)=dB p (dB p A C) (dB p B D):=by
 rw [add_assoc c hA hB (iV c hC hD),<-add_assoc c hB hC hD,add_comm c hB hC,add_assoc c hC hB hD,<-add_assoc c hA hC (iV c hB hD)]
theorem mul_add (c:Cur p b) {P R:PtQ} (hP:OnQ p b P) (hR:OnQ p b R):∀ n,ef p n (dB p P R)=dB p (ef p n P) (ef p n R)
 |0=>rfl
 |n+1=>by
  show dB p (dB p P R) (ef p n (dB p P R))=dB p (dB p P (ef p n P)) (dB p R (ef p n R))
  rw [mul_add c hP hR n,Sq c hP hR (sy c hP n) (sy c hR n)]
theorem Ei (c:Cur p b) {P R T:PtQ} (hP:OnQ p b P) (hR:OnQ p b R) (hT:OnQ p b T) (h:dB p P R=dB p P T):R=T:=by
 rw [<-cancel c hP hR,h,cancel c hP hT]
theorem av3 (c:Cur p b) {P:PtQ} (h:dB p P P=none):P=none:=by
 cases P with
 |none=>rfl
 |some P=>
  have:dB p (some P) (some P)=some (wj p P P (rk p P P)):=if_neg λh=>h.2 rfl
  rw [this] at h
  cases h
theorem mul_gcd (c:Cur p b) {P:PtQ} (hP:OnQ p b P) (m k:Nat):ef p m P=none->ef p k P=none->ef p (Nat.gcd m k) P=none:=by
 induction m,k using Nat.gcd.induction with
 |H0 n=>intro _ h;rw [Nat.gcd_zero_left];exact h
 |H1 m n hm ih=>
  intro h1 h2
  rw [Nat.gcd_rec]
  refine ih ?_ h1
  have e:=Nat.div_add_mod n m
  rw [<-e,Nat.mul_comm,ij c hP,mf c hP,h1,uU] at h2
  exact h2
theorem mul_mod (c:Cur p b) {P:PtQ} (hP:OnQ p b P) {q:Nat} (hq:ef p q P=none) (n:Nat):ef p (n%q) P=ef p n P:=by
 have e:=Nat.div_add_mod n q
 conv=>rhs;rw [<-e,Nat.mul_comm,ij c hP,mf c hP,hq,uU]
 rfl
def aFl (p:Nat):PtQ->Nat
 |none=>2*p
 |some P=>2*P.1+P.2%2
theorem aGs {P:PtQ} (hP:OnQ p b P):aFl p P<2*p+1:=by
 cases P with
 |none=>show 2*p<_;omega
 |some P=>
  have:=hP.1
  show 2*P.1+P.2%2<_
  omega
theorem aEv (c:Cur p b) (hodd:p%2=1) {P R:PtQ} (hP:OnQ p b P) (hR:OnQ p b R) (h:aFl p P=aFl p R):P=R:=by
 cases P with
 |none=>
  cases R with
  |none=>rfl
  |some R=>
   have:=hR.1
   have h:2*p=2*R.1+R.2%2:=h
   omega
 |some P=>
  cases R with
  |none=>
   have:=hP.1
   have h:2*P.1+P.2%2=2*p:=h
   omega
  |some R=>
   obtain ⟨x1,y1⟩:=P
   obtain ⟨x2,y2⟩:=R
   have h:2*x1+y1%2=2*x2+y2%2:=h
   have hx:x1=x2:=by omega
   have hy:y1%2=y2%2:=by omega
   by_cases he:y1=y2
   ·rw [hx,he]
   ·exfalso
    have ho:=aqc c hP hR ⟨hx,he⟩
    have ho:some (x2,y2)=some (x1,nm p (-(y1:Int))):=ho
    simp only [Option.some.injEq,Prod.mk.injEq] at ho
    have h2:=ho.2
    have hy1:y1<p:=hP.2.1
    have h0:y1≠0:=λe=>c.yne hP.2.2 (by show (p:Int)∣((y1:Nat):Int);rw [e];exact ⟨0,by simp⟩)
    have h3:nm p (-(y1:Int))=p-y1:=aqk (by omega) ⟨1,by omega⟩
    omega
theorem aut (c:Cur p b) (hodd:p%2=1) {q:Nat} (hq:Pr q) (hq2:q%2=1) (h3:2*p+1<3*q) {G:PtQ} (hG:OnQ p b G) (hne:G≠none) (hqG:ef p q G=none)
 {P:PtQ} (hP:OnQ p b P):ef p q P=none:=by
 apply la
 intro hno
 have hord:∀ i,ef p i G=none->q∣i:=λi hi=>by
  have hg:=mul_gcd c hG q i hqG hi
  rcases hq.2 (Nat.gcd q i) (Nat.gcd_dvd_left ..) with e|e
  ·rw [e,mul_one] at hg
   exact absurd hg hne
  ·rw [<-e]
   exact Nat.gcd_dvd_right ..
 have hon:=λi=>sy c hG i
 have honP:=λi=>sy c hP i
 --no point of G's meets P or twice P
 have hp1:∀ i,P≠ef p i G:=λi e=>hno (by rw [e,mul_comm c hG,hqG,uU])
 have hp2:∀ i,dB p P P≠ef p i G:=λi e=>by
  have hh:∃ j,ef p i G=dB p (ef p j G) (ef p j G):=by
   refine ⟨i*((q+1)/2),?_⟩
   rw [<-ij c hG,<-Nat.mul_add,show (q+1)/2+(q+1)/2=q+1 by omega,Nat.mul_add,ij c hG,mf c hG,hqG,uU,Nat.mul_one]
   rfl
  obtain ⟨j,hj⟩:=hh
  rw [hj] at e
  have hn:=EO c (hon j)
  have:dB p (dB p (agk p (ef p j G)) P) (dB p (agk p (ef p j G)) P)=none:=by
   rw [Sq c hn hP hn hP,e,add_comm c (iV c hn hn) (iV c (hon j) (hon j)),Sq c (hon j) (hon j) hn hn,add_neg c (hon j)]
   rfl
  have h2:=av3 c this
  have h4:=Ig c hn hP h2
  rw [neg_neg c (hon j)] at h4
  exact hp1 j h4
 --differences of G's points
 have hdiff:∀ i j A B,OnQ p b A->OnQ p b B->dB p (ef p i G) A=dB p (ef p j G) B->∃ k,A=dB p (ef p k G) B:=λi j A B hA hB e=>by
  refine ⟨(q-i%q)+j,?_⟩
  have hm:ef p (i%q) G=ef p i G:=mul_mod c hG hqG i
  have hlt:=Nat.mod_lt i hq.pos
  have hz:dB p (ef p (q-i%q) G) (ef p i G)=none:=by
   rw [<-hm,<-ij c hG,show q-i%q+i%q=q by omega,hqG]
  rw [ij c hG,add_assoc c (hon _) (hon _) hB,<-e,<-add_assoc c (hon _) (hon _) hA,hz]
  rfl
 have hinj:∀ i j,i<q->j<q->ef p i G=ef p j G->i=j:=by
  have aux:∀ i j,i<=j->j<q->ef p i G=ef p j G->i=j:=λi j hij hj e=>by
   have e2:dB p (ef p i G) none=dB p (ef p i G) (ef p (j-i) G):=by
    rw [<-ij c hG,show i+(j-i)=j by omega,ck,e]
   have h0:=Ei c (hon i) (R:=none) trivial (hon _) e2
   have hd:=hord _ h0.symm
   by_cases h:j-i=0
   ·omega
   ·have:=Nat.le_of_dvd (by omega) hd
    omega
  intro i j hi hj e
  rcases Nat.le_total i j with h|h
  ·exact aux i j h hj e
  ·exact (aux j i h hi e.symm).symm
 let tw:Nat->PtQ:=λk=>ef p (k/q) P
 let pt:Nat->PtQ:=λk=>dB p (ef p (k%q) G) (ef p (k/q) P)
 have hpt:∀ k,OnQ p b (pt k):=λk=>iV c (hon _) (honP _)
 have hcoset:∀ i j,i<3->j<3->(∃ k,ef p i P=dB p (ef p k G) (ef p j P))->i=j:=by
  have P1:ef p 1 P=P:=mul_one P
  have P2:ef p 2 P=dB p P P:=congrArg (dB p P) (mul_one P)
  have back:∀ k A B,OnQ p b A->OnQ p b B->A=dB p (ef p k G) B->∃ k',B=dB p (ef p k' G) A:=λk A B hA hB e=>by
   refine hdiff k 0 B A hB hA ?_
   rw [<-e]
   rfl
  have n01:∀ k,ef p 0 P≠dB p (ef p k G) (ef p 1 P):=λk e=>by
   obtain ⟨k',e'⟩:=back k _ _ (honP 0) (honP 1) e
   rw [P1,show ef p 0 P=none from rfl,ck] at e'
   exact hp1 k' e'
  have n02:∀ k,ef p 0 P≠dB p (ef p k G) (ef p 2 P):=λk e=>by
   obtain ⟨k',e'⟩:=back k _ _ (honP 0) (honP 2) e
   rw [P2,show ef p 0 P=none from rfl,ck] at e'
   exact hp2 k' e'
  have n12:∀ k,ef p 1 P≠dB p (ef p k G) (ef p 2 P):=λk e=>by
   rw [P1,P2,<-add_assoc c (hon k) hP hP] at e
   have e2:dB p P none=dB p P (dB p (ef p k G) P):=by
    rw [ck,<-add_assoc c hP (hon k) hP,add_comm c hP (hon k)]
    exact e
   have e3:=Ei c hP (R:=none) trivial (iV c (hon k) hP) e2
   obtain ⟨k',e'⟩:=back k none P trivial hP e3
   rw [ck] at e'
   exact hp1 k' e'
  rintro i j hi hj ⟨k,hk⟩
  apply la
  intro hij
  have bk:=back k _ _ (honP i) (honP j) hk
  have:(i=0/\j=1)\/(i=0/\j=2)\/(i=1/\j=2)\/(i=1/\j=0)\/(i=2/\j=0)\/(i=2/\j=1):=by omega
  rcases this with ⟨rfl,rfl⟩|⟨rfl,rfl⟩|⟨rfl,rfl⟩|⟨rfl,rfl⟩|⟨rfl,rfl⟩|⟨rfl,rfl⟩
  ·exact n01 k hk
  ·exact n02 k hk
  ·exact n12 k hk
  ·obtain ⟨k',e⟩:=bk;exact n01 k' e
  ·obtain ⟨k',e⟩:=bk;exact n02 k' e
  ·obtain ⟨k',e⟩:=bk;exact n12 k' e
 have hptinj:∀ x ∈ List.range (3*q),∀ y ∈ List.range (3*q),aFl p (pt x)=aFl p (pt y)->x=y:=λx hx y hy e=>by
  rw [List.mem_range] at hx hy
  have e:=aEv c hodd (hpt x) (hpt y) e
  have hdx:x/q<3:=Nat.div_lt_of_lt_mul (by rw [Nat.mul_comm];exact hx)
  have hdy:y/q<3:=Nat.div_lt_of_lt_mul (by rw [Nat.mul_comm];exact hy)
  have h1:=hcoset (x/q) (y/q) hdx hdy (hdiff _ _ _ _ (honP _) (honP _) e)
  have e:dB p (ef p (x%q) G) (ef p (x/q) P)=dB p (ef p (y%q) G) (ef p (y/q) P):=e
  rw [h1,add_comm c (hon _) (honP _),add_comm c (hon (y%q)) (honP _)] at e
  have h2:=hinj _ _ (Nat.mod_lt _ hq.pos) (Nat.mod_lt _ hq.pos) (Ei c (honP _) (hon _) (hon _) e)
  have e1:=Nat.div_add_mod x q
  have e2:=Nat.div_add_mod y q
  rw [<-e1,<-e2,h1,h2]
 have hnd:=sA (f:=λk=>aFl p (pt k)) List.nodup_range hptinj
 have hlen:=AW (l2:=List.range (2*p+1)) hnd (λx hx=>by
  obtain ⟨k,_,rfl⟩:=List.mem_map.1 hx
  exact List.mem_range.2 (aGs (hpt k)))
 rw [List.length_map,List.length_range,List.length_range] at hlen
 omega
end
section
open Sx Go
set_option maxRecDepth 100000
theorem xq {p b:Nat} (c:Cur p b) (hp:Sm p) {k:Nat} (hk:k<2^256) {P:Pt} (hP:OnQ p b (toQ P)):∀ n,n<=256->
 toQ (upto (fQ p k P) aK n)=ef p (k/2^(256-n)) (toQ P)
 |0,_=>by
  rw [Nat.sub_zero,Nat.div_eq_of_lt hk]
  rfl
 |n+1,h=>by
  have ih:=xq c hp hk hP n (by omega)
  have ho:=sy c hP (k/2^(256-n))
  show toQ (fQ p k P n (upto (fQ p k P) aK n))=_
  generalize upto (fQ p k P) aK n=Q at*
  have hQ:OnQ p b (toQ Q):=by rw [ih];exact ho
  have d2:=Pl c hp hQ hQ
  have e1:256-n=(255-n)+1:=by omega
  have hd:k/2^(256-n)=k/2^(255-n)/2:=by rw [e1,Nat.pow_succ,Nat.div_div_eq_div_mul]
  rw [show 256-(n+1)=255-n by omega]
  rw [hd] at ih ho
  unfold fQ
  cases hb:avR k (255-n)
  ·have h0:=azp hb
   simp only [bo]
   rw [d2,ih,<-ij c hP]
   congr 1
   omega
  ·have h0:k/2^(255-n)%2=1:=aX hb
   simp only [aV]
   have d3:OnQ p b (toQ (pi p Q Q)):=by rw [d2];exact iV c hQ hQ
   rw [Pl c hp d3 hP,d2,ih,<-ij c hP,add_comm c (sy c hP _) hP]
   show ef p (_+1) (toQ P)=_
   congr 1
   omega
theorem akx {p b:Nat} (c:Cur p b) (hp:Sm p) {k:Nat} (hk:k<2^256) {P:Pt} (hP:OnQ p b (toQ P)):toQ (apr p k P)=ef p k (toQ P):=by
 have h:=xq c hp hk hP 256 (Nat.le_refl _)
 rw [Nat.sub_self,Nat.pow_zero,Nat.div_one] at h
 exact h
theorem aFW {p b x y:Nat} (hx:x<p) (hy:y<p) (h:Nat.beq (y*y%p) ((x*x*x+b)%p)=true):OnQ p b (some (x,y)):=by
 refine ⟨hx,hy,?_⟩
 have h:=aX h
 obtain ⟨k,hk⟩:=avP (p:=p) (y*y)
 obtain ⟨m,hm⟩:=avP (p:=p) (x*x*x+b)
 rw [h] at hk
 rw [Int.natCast_mul] at hk
 rw [Int.natCast_add,Int.natCast_mul,Int.natCast_mul] at hm
 show (p:Int)∣(y:Int)*y-x*x*x-b
 generalize (((x*x*x+b)%p:Nat):Int)=r at*
 refine ⟨m-k,?_⟩
 rw [Int.mul_sub,<-hm,<-hk]
 omega
def aDD (p q:Nat) (x y:ab):Bool:=bJ (upto (jG p (ofN q) (fZ (x,y,false))) an3 256).2.2
theorem aHE {p b q:Nat} (c:Cur p b) (hp:Sm p) (hq:q<115792089237316195423570985008687907853269984665640564039457584007913129639936) {x y:ab} (hG:OnQ p b (some (x.nat,y.nat))) (h:aDD p q x y=true):ef p q (some (x.nat,y.nat))=none:=by
 have hG':OnQ p b (toQ (x,y,false)):=hG
 obtain ⟨h1,h2,h3⟩:=F8 c hp (ofN q) hG' (λh=>by cases h) 256 (Nat.le_refl _)
 have h4:=xq c hp (k:=(ofN q).nat) (iX _) hG' 256 (Nat.le_refl _)
 rw [nQ hq,Nat.sub_self,Nat.pow_zero,Nat.div_one] at h4
 rw [nQ hq] at h1
 have h4:toQ (upto (fQ p q (x,y,false)) aK 256)=ef p q (some (x.nat,y.nat)):=h4
 rw [h4] at h1
 unfold aDD at h
 cases hm:ef p q (some (x.nat,y.nat)) with
 |none=>rfl
 |some S=>
  rw [hm] at h1
  rw [uo h1.2.1] at h
  cases h
theorem P9 {p b q:Nat} (c:Cur p b) (hp:Sm p) (hodd:Nat.beq (p%2) 1=true) (hq:Pr q) (hq2:Nat.beq (q%2) 1=true) (hqb:Nat.blt q 115792089237316195423570985008687907853269984665640564039457584007913129639936=true) (h3:Nat.blt (2*p+1) (3*q)=true)
 {x y:ab} (hx:Nat.blt x.nat p=true) (hy:Nat.blt y.nat p=true) (he:Nat.beq (y.nat*y.nat%p) ((x.nat*x.nat*x.nat+b)%p)=true) (h:aDD p q x y=true) {P:PtQ} (hP:OnQ p b P):ef p q P=none:=by
 have hG:=aFW (db hx) (db hy) he
 exact aut c (aX hodd) hq (aX hq2) (db h3) hG (λe=>by cases e) (aHE c hp (db hqb) hG h) hP
theorem aF9:pS 0=16513537:=by decide+kernel
theorem aF8:pS 1=16521217:=by decide+kernel
theorem aF7:pS 2=28948022309329048855892746252171976963363056481941560715954676764349967630337:=by decide+kernel
theorem aF6:pS 3=28948022309329048855892746252171976963363056481941647379679742748393362948097:=by decide+kernel
theorem aIG:(bS 0).nat=23:=by decide+kernel
theorem aIF:(bS 1).nat=21:=by decide+kernel
theorem aIE:(bS 2).nat=5:=by decide+kernel
theorem aID:(bS 3).nat=5:=by decide+kernel
theorem aHI:aDD 16513537 16521217 ⟨1,0,0,0⟩ ⟨2487377,0,0,0⟩=true:=by decide+kernel
theorem aHH:aDD 16521217 16513537 ⟨1,0,0,0⟩ ⟨7286451,0,0,0⟩=true:=by decide+kernel
theorem aHG:aDD 28948022309329048855892746252171976963363056481941560715954676764349967630337 28948022309329048855892746252171976963363056481941647379679742748393362948097
 (ofN 28948022309329048855892746252171976963363056481941560715954676764349967630336) ⟨2,0,0,0⟩=true:=by decide+kernel
theorem aHF:aDD 28948022309329048855892746252171976963363056481941647379679742748393362948097 28948022309329048855892746252171976963363056481941560715954676764349967630337
 (ofN 28948022309329048855892746252171976963363056481941647379679742748393362948096) ⟨2,0,0,0⟩=true:=by decide+kernel
theorem aAy {s:Int} (hs:ac s=true) {P:PtQ} (hP:OnQ (pS s) (bS s).nat P):ef (pS s) (pS (bm s 1)) P=none:=by
 have c:=be hs
 have hp:Sm (pS s):=gU hs
 rcases b6 hs with rfl|rfl|rfl|rfl
 ·rw [show bm 0 1=1 by decide+kernel]
  rw [aF9,aF8,aIG] at*
  exact P9 c hp (by decide+kernel) xB (by decide+kernel) (by decide+kernel) (by decide+kernel) (by decide+kernel) (by decide+kernel) (by decide+kernel) aHI hP
 ·rw [show bm 1 1=0 by decide+kernel]
  rw [aF9,aF8,aIF] at*
  exact P9 c hp (by decide+kernel) xC (by decide+kernel) (by decide+kernel) (by decide+kernel) (by decide+kernel) (by decide+kernel) (by decide+kernel) aHH hP
 ·rw [show bm 2 1=3 by decide+kernel]
  rw [aF7,aF6,aIE] at*
  exact P9 c hp (by decide+kernel) aM (by decide+kernel) (by decide+kernel) (by decide+kernel) (by decide+kernel) (by decide+kernel) (by decide+kernel) aHG hP
 ·rw [show bm 3 1=2 by decide+kernel]
  rw [aF7,aF6,aID] at*
  exact P9 c hp (by decide+kernel) aN (by decide+kernel) (by decide+kernel) (by decide+kernel) (by decide+kernel) (by decide+kernel) (by decide+kernel) aHF hP
theorem aqe {s:Int} {P:Pt} (hs:ac s=true) (h:OnQ (pS s) (bS s).nat (toQ P)) (hc:Can P):onB s P=true:=by
 have hp:Sm (pS s):=gU hs
 obtain ⟨X,Y,i⟩:=P
 cases i
 ·obtain ⟨hx,hy,hv⟩:=h
  have hx:X.nat<pS s:=hx
  have hy:Y.nat<pS s:=hy
  have hv:((pS s:Nat):Int)∣(Y.nat:Int)*Y.nat-X.nat*X.nat*X.nat-(bS s).nat:=hv
  unfold onB
  rw [hs]
  have e1:Nat.blt X.nat (pS s)=true:=lb hx
  have e2:Nat.blt Y.nat (pS s)=true:=lb hy
  simp only [aV,bo,e1,e2]
  refine nU.2 (iY (fP (jH hp _ _) (Sr hp _ _) ?_))
  have c1:=b8 hp Y Y
  have c2:=b8 hp X X
  have c3:=b8 hp (aQ (pS s) X X) X
  have c4:=Yj hp (aQ (pS s) (aQ (pS s) X X) X) (bS s)
  unfold L5
  exact aH1 c1 c4 c3 c2 hv
 ·rw [hc rfl]
  unfold onB
  rw [hs]
  rfl
theorem aBb {s:Int} {P:Pt} (h:onB s P=true):Can P:=(eU h).2.2
theorem aEP:Can aK:=λ_=>rfl
theorem rb {s:Int} {P R:Pt} (hP:onB s P=true) (hR:onB s R=true):toQ (fS s P R)=dB (pS s) (toQ P) (toQ R)/\onB s (fS s P R)=true:=by
 obtain ⟨hs,h1,h2⟩:=eU hP
 obtain ⟨_,h3,h4⟩:=eU hR
 have c:=be hs
 have hp:Sm (pS s):=gU hs
 have e:fS s P R=gm (pS s) (Yi (pS s) (fZ P) (fZ R)):=by unfold fS;rw [hP,hR];rfl
 obtain ⟨n1,n2⟩:=M0 c hp (iV c h1 h3) (auy c hp h1 h3 (GP c) (GP c))
 rw [e]
 exact ⟨n1,aqe hs (by rw [n1];exact iV c h1 h3) n2⟩
theorem vl {s:Int} (hs:ac s=true):onB s aK=true:=aqe hs trivial aEP
theorem agn {s:Int} (k:ab) {P:Pt} (hP:onB s P=true):toQ (sB s k P)=ef (pS s) k.nat (toQ P)/\onB s (sB s k P)=true:=by
 obtain ⟨hs,h1,h2⟩:=eU hP
 have c:=be hs
 have hp:Sm (pS s):=gU hs
 have hk:(ofP (pS (bm s 1)) k).nat=k.nat%pS (bm s 1):=cL (gU (dJ hs))
 have e:sB s k P=apr (pS s) (ofP (pS (bm s 1)) k).nat P:=by rw [axA];unfold aqp;rw [hP];rfl
 have ht:toQ (sB s k P)=ef (pS s) k.nat (toQ P):=by
  rw [e,akx c hp (iX _) h1,hk,mul_mod c h1 (aAy hs h1)]
 refine ⟨ht,aqe hs (by rw [ht];exact sy c h1 _) ?_⟩
 rw [e]
 exact (F8 c hp (ofP (pS (bm s 1)) k) h1 h2 256 (Nat.le_refl _)).2.2
def Gp {p b:Nat} (_:Cur p b):Type:= {P:PtQ//OnQ p b P}
section
variable {p b:Nat} {c:Cur p b}
instance:Add (Gp c):=⟨λx y=>⟨dB p x.1 y.1,iV c x.2 y.2⟩⟩
instance:Zero (Gp c):=⟨⟨none,trivial⟩⟩
instance:Neg (Gp c):=⟨λx=>⟨agk p x.1,EO c x.2⟩⟩
instance:Std.Associative (α:=Gp c) (· + ·):=⟨λx y z=>Subtype.ext (add_assoc c x.2 y.2 z.2)⟩
instance:Std.Commutative (α:=Gp c) (· + ·):=⟨λx y=>Subtype.ext (add_comm c x.2 y.2)⟩
theorem ag2 (x y:Gp c):x+y=y+x:=Subtype.ext (add_comm c x.2 y.2)
theorem arT (x y z:Gp c):x+y+z=x+(y+z):=Subtype.ext (add_assoc c x.2 y.2 z.2)
theorem s9 (x:Gp c):x+0=x:=Subtype.ext (ck x.1)
theorem azV (x:Gp c):0+x=x:=Subtype.ext rfl
theorem aHT (x:Gp c):x+ -x=0:=Subtype.ext (add_neg c x.2)
def smG (n:Nat) (x:Gp c):Gp c:=⟨ef p n x.1,sy c x.2 n⟩
theorem aad (x:Gp c):smG 0 x=0:=rfl
theorem TT (x:Gp c):smG 1 x=x:=Subtype.ext (mul_one x.1)
theorem aDb (n:Nat) (x:Gp c):smG (n+1) x=x+smG n x:=rfl
theorem Pq (m n:Nat) (x:Gp c):smG (m+n) x=smG m x+smG n x:=Subtype.ext (ij c x.2 n m)
theorem Pp (m n:Nat) (x:Gp c):smG (m*n) x=smG m (smG n x):=Subtype.ext (mf c x.2 n m)
theorem aAn (n:Nat) (x y:Gp c):smG n (x+y)=smG n x+smG n y:=Subtype.ext (mul_add c x.2 y.2 n)
theorem ao8 (n:Nat):smG n (0:Gp c)=0:=Subtype.ext (uU n)
def oY:List (Nat×Gp c)->Gp c
 | []=>0
 |t::r=>smG t.1 t.2+oY r
theorem xj (l r:List (Nat×Gp c)):oY (l++r)=oY l+oY r:=by
 induction l with
 |nil=>exact (azV _).symm
 |cons t l ih=>
  show smG t.1 t.2+oY (l++r)=smG t.1 t.2+oY l+oY r
  rw [ih,arT]
open Classical in
noncomputable def gp (c:Cur p b) (P:Pt):Gp c:=if h:OnQ p b (toQ P) then ⟨toQ P,h⟩ else 0
theorem Re (P:Pt) (h:OnQ p b (toQ P)):gp c P=⟨toQ P,h⟩:=dif_pos h
end
section
variable {s:Int} (hs:ac s=true)
theorem aGl {P R:Pt} (hP:onB s P=true) (hR:onB s R=true) (h:gp (be hs) P=gp (be hs) R):P=R:=by
 rw [Re P (eU hP).2.1,Re R (eU hR).2.1] at h
 exact ahI (aBb hP) (aBb hR) (congrArg Subtype.val h)
theorem Nw:gp (be hs) aK=0:=Re aK trivial
theorem Nx {P R:Pt} (hP:onB s P=true) (hR:onB s R=true):gp (be hs) (fS s P R)=gp (be hs) P+gp (be hs) R:=by
 obtain ⟨e,o⟩:=rb hP hR
 rw [Re P (eU hP).2.1,Re R (eU hR).2.1,Re _ (eU o).2.1]
 exact Subtype.ext e
theorem aGk (k:ab) {P:Pt} (hP:onB s P=true):gp (be hs) (sB s k P)=smG k.nat (gp (be hs) P):=by
 obtain ⟨e,o⟩:=agn k hP
 rw [Re P (eU hP).2.1,Re _ (eU o).2.1]
 exact Subtype.ext e
theorem wm (n:Nat) (x:Gp (be hs)):smG (n%pS (bm s 1)) x=smG n x:=Subtype.ext (mul_mod (be hs) x.2 (aAy hs x.2) n)
end
section
variable {s:Int} (hs:ac s=true)
abbrev Gs (hs:ac s=true):Type:=Gp (be hs)
noncomputable def tG (l:List Tm):List (Nat×Gs hs):=l.map λt=>(t.1.nat,gp (be hs) t.2)
theorem DD {α:Type} {l:List α} {k:Nat} (h:k<l.length) (d:α):l.getD k d=l[k]:=by rw [ju,ui h];rfl
theorem auu {c:Int} {l:List Tm} (ha:cH c l=true) {k:Nat} (h:k<l.length):onB c l[k].2=true:=List.all_eq_true.1 ha _ (List.getElem_mem h)
theorem Hq {l:List Tm} (ha:cH s l=true):∀ n,n<=l.length->onB s (upto (fJ s l) aK n)=true/\gp (be hs) (upto (fJ s l) aK n)=oY (tG hs (l.take n))
 |0,_=>⟨vl hs,Nw hs⟩
 |n+1,h=>by
  obtain ⟨h1,h2⟩:=Hq ha n (by omega)
  have hk:n<l.length:=by omega
  show onB s (fJ s l n (upto (fJ s l) aK n))=true/\gp (be hs) (fJ s l n (upto (fJ s l) aK n))=_
  generalize upto (fJ s l) aK n=O at*
  unfold fJ
  rw [DD hk]
  have hp:=auu ha hk
  have hm:=(agn l[n].1 hp).2
  refine ⟨(rb h1 hm).2,?_⟩
  rw [Nx hs h1 hm,aGk hs _ hp,h2,<-List.take_append_getElem hk,tG,tG,List.map_append,xj]
  congr 1
  exact (s9 _).symm
theorem akk {l:List Tm} (ha:cH s l=true):onB s (po s l)=true/\gp (be hs) (po s l)=oY (tG hs l):=by
 have h:=Hq hs ha l.length (Nat.le_refl _)
 rw [List.take_length] at h
 exact h
noncomputable def SL:List Pt->Gs hs
 | []=>0
 |P::r=>gp (be hs) P+SL r
noncomputable def ajI:List Pt->Gs hs
 | []=>0
 |P::r=>ajI r+SL hs (P::r)
theorem PA {P R:Pt} (hR:onB s R=true):∀ (S:List Pt) (d:Nat),d<S.length->onB s (S.getD d eJ)=true->P=fS s (S.getD d eJ) R->SL hs (S.set d P)=SL hs S+gp (be hs) R
 | [],d,h,_,_=>by cases h
 |X::S,0,_,ho,e=>by
  subst e
  have ho:onB s X=true:=ho
  show gp (be hs) (fS s X R)+SL hs S=gp (be hs) X+SL hs S+gp (be hs) R
  rw [Nx hs ho hR]
  ac_rfl
 |X::S,d+1,h,ho,e=>by
  have ih:=PA hR S d (by simpa using h) ho e
  show gp (be hs) X+SL hs (S.set d P)=gp (be hs) X+SL hs S+gp (be hs) R
  rw [ih]
  ac_rfl
theorem aex {P R:Pt} (hR:onB s R=true):∀ (S:List Pt) (d:Nat),d<S.length->onB s (S.getD d eJ)=true->P=fS s (S.getD d eJ) R->ajI hs (S.set d P)=ajI hs S+smG (d+1) (gp (be hs) R)
 | [],d,h,_,_=>by cases h
 |X::S,0,h,ho,e=>by
  have hr:=PA hs hR (X::S) 0 h ho e
  show ajI hs S+SL hs (P::S)=ajI hs S+SL hs (X::S)+smG 1 (gp (be hs) R)
  have hr:SL hs (P::S)=_:=hr
  rw [hr,TT]
  ac_rfl
 |X::S,d+1,h,ho,e=>by
  have hr:=PA hs hR (X::S) (d+1) h ho e
  have ih:=aex hR S d (by simpa using h) ho e
  show ajI hs (S.set d P)+SL hs ((X::S).set (d+1) P)=ajI hs S+SL hs (X::S)+smG (d+1+1) (gp (be hs) R)
  rw [hr,ih,aDb (d+1)]
  ac_rfl
def aE5 (s:Int) (S:List Pt):Prop:=∀ k,k<S.length->onB s (S.getD k eJ)=true
theorem azL {S:List Pt} (h:aE5 s S) {d:Nat} {P:Pt} (hP:onB s P=true):aE5 s (S.set d P):=λk hk=>by
 rw [dm] at hk
 by_cases e:d=k
 ·subst e
  rw [ju,List.getElem?_set_self hk]
  exact hP
 ·rw [ju,List.getElem?_set_ne e,<-ju]
  exact h k hk
theorem afX {S:List Pt} (hS:S.length=15) (hp:aE5 s S):∀ n,n<=15->
 (onB s (upto (gW s S) (aK,aK) n).1=true/\onB s (upto (gW s S) (aK,aK) n).2=true)/\
 gp (be hs) (upto (gW s S) (aK,aK) n).1=SL hs (S.drop (15-n))/\gp (be hs) (upto (gW s S) (aK,aK) n).2=ajI hs (S.drop (15-n))
 |0,_=>by
  rw [List.drop_eq_nil_of_le (by omega)]
  exact ⟨⟨vl hs,vl hs⟩,Nw hs,Nw hs⟩
 |n+1,h=>by
  obtain ⟨⟨h1,h2⟩,h3,h4⟩:=afX hS hp n (by omega)
  show (onB s (gW s S n (upto (gW s S) (aK,aK) n)).1=true/\onB s (gW s S n (upto (gW s S) (aK,aK) n)).2=true)/\
   gp (be hs) (gW s S n (upto (gW s S) (aK,aK) n)).1=_/\gp (be hs) (gW s S n (upto (gW s S) (aK,aK) n)).2=_
  generalize upto (gW s S) (aK,aK) n=w at*
  have hk:14-n<S.length:=by omega
  have ho:=hp (14-n) hk
  have e1:S.drop (15-(n+1))=S.getD (14-n) eJ::S.drop (15-n):=by
   rw [DD hk,show 15-(n+1)=14-n by omega,oW hk,show 14-n+1=15-n by omega]
  rw [e1]
  unfold gW
  dsimp only
  have o1:=(rb h1 ho).2
  have o2:=(rb h2 o1).2
  have e2:gp (be hs) (fS s w.1 (S.getD (14-n) eJ))=SL hs (S.getD (14-n) eJ::S.drop (15-n)):=by
   rw [Nx hs h1 ho,h3]
   exact ag2 _ _
  refine ⟨⟨o1,o2⟩,e2,?_⟩
  rw [Nx hs h2 o1,h4,e2]
  rfl
theorem aDj {S:List Pt} (hS:S.length=15) (hp:aE5 s S):onB s (aG6 s S).2=true/\gp (be hs) (aG6 s S).2=ajI hs S:=by
 obtain ⟨⟨_,h2⟩,_,h4⟩:=afX hs hS hp 15 (Nat.le_refl _)
 exact ⟨h2,h4⟩
theorem T9:∀ n,SL hs (List.replicate n aK)=0
 |0=>rfl
 |n+1=>by
  rw [List.replicate_succ]
  show gp (be hs) aK+SL hs (List.replicate n aK)=0
  rw [T9 n,Nw hs,s9]
theorem SY:∀ n,ajI hs (List.replicate n aK)=0
 |0=>rfl
 |n+1=>by
  have h:=T9 hs (n+1)
  rw [List.replicate_succ] at h⊢
  show ajI hs (List.replicate n aK)+SL hs (aK::List.replicate n aK)=0
  rw [h,SY n,s9]
theorem auv (hs:ac s=true) (n:Nat):aE5 s (List.replicate n aK):=λk hk=>by
 rw [DD hk,List.getElem_replicate]
 exact vl hs
noncomputable def dG (a:Int) (l:List Tm):List (Nat×Gs hs):=l.map λt=>((W9 t.1 a).toNat,gp (be hs) t.2)
theorem XK {l:List Tm} (ha:cH s l=true) (a:Int):∀ n,n<=l.length->(upto (eM s a l) (List.replicate 15 aK) n).length=15/\aE5 s (upto (eM s a l) (List.replicate 15 aK) n)/\
 ajI hs (upto (eM s a l) (List.replicate 15 aK) n)=oY (dG hs a (l.take n))
 |0,_=>⟨rfl,auv hs 15,SY hs 15⟩
 |n+1,h=>by
  obtain ⟨h1,h2,h3⟩:=XK ha a n (by omega)
  have hk:n<l.length:=by omega
  show (eM s a l n (upto (eM s a l) (List.replicate 15 aK) n)).length=15/\aE5 s (eM s a l n (upto (eM s a l) (List.replicate 15 aK) n))/\ajI hs (eM s a l n (upto (eM s a l) (List.replicate 15 aK) n))=_
  generalize upto (eM s a l) (List.replicate 15 aK) n=S at*
  have hp:=auu ha hk
  refine ⟨(mB s a l n S).trans h1,?_⟩
  have ed:oY (dG hs a (l.take (n+1)))=oY (dG hs a (l.take n))+smG (W9 l[n].1 a).toNat (gp (be hs) l[n].2):=by
   rw [<-List.take_append_getElem hk,dG,dG,List.map_append,xj]
   congr 1
   exact s9 _
  rw [ed]
  unfold eM
  rw [DD hk]
  have hd:=asY l[n].1 a
  by_cases h0:0<W9 l[n].1 a
  ·rw [aj h0]
   simp only [aV]
   have hlt:(W9 l[n].1 a-1).toNat<S.length:=by omega
   have ho:=h2 _ hlt
   refine ⟨azL h2 (rb ho hp).2,?_⟩
   rw [aex hs hp S _ hlt ho rfl,h3,show (W9 l[n].1 a-1).toNat+1=(W9 l[n].1 a).toNat by omega]
  ·rw [bn h0]
   simp only [bo]
   refine ⟨h2,?_⟩
   rw [h3,show (W9 l[n].1 a).toNat=0 by omega,aad,s9]
theorem azl {l:List Tm} (ha:cH s l=true) (a:Int):onB s (adP s l a)=true/\gp (be hs) (adP s l a)=oY (dG hs a l):=by
 obtain ⟨h1,h2,h3⟩:=XK hs ha a l.length (Nat.le_refl _)
 rw [List.take_length] at h3
 obtain ⟨h4,h5⟩:=aDj hs h1 h2
 exact ⟨h4,h5.trans h3⟩
noncomputable def vG (a:Nat) (l:List Tm):List (Nat×Gs hs):=l.map λt=>(t.1.nat/2^a,gp (be hs) t.2)
theorem BJ (k:ab) (i:Nat):aBk (rm k (i:Int))=((k.nat/2^i%2:Nat):Int):=by
 unfold rm
 rw [aj (show (0:Int)<=(i:Int) by omega),bH]
 by_cases h:(i:Int)<256
 ·rw [aj h]
  show aBk (avR k.nat i)=_
  unfold avR
  have h2:k.nat/2^i%2=0\/k.nat/2^i%2=1:=by omega
  rcases h2 with h2|h2<;>rw [h2]<;>rfl
 ·rw [bn h]
  have hlt:=iX k
  have:k.nat/2^i=0:=Nat.div_eq_of_lt (Nat.lt_of_lt_of_le hlt (by
   have:2^256<=2^i:=Nat.pow_le_pow_right (by decide) (by omega)
   exact this))
  rw [this]
  rfl
theorem ay3 (k:ab) (a:Nat):(W9 k (a:Int)).toNat=k.nat/2^a%16:=by
 rw [asZ,show (a:Int)+1=((a+1:Nat):Int) by omega,show (a:Int)+2=((a+2:Nat):Int) by omega,show (a:Int)+3=((a+3:Nat):Int) by omega]
 rw [BJ,BJ,BJ,BJ]
 have e1:k.nat/2^(a+1)=k.nat/2^a/2:=by rw [Nat.pow_succ,Nat.div_div_eq_div_mul]
 have e2:k.nat/2^(a+2)=k.nat/2^a/2/2:=by rw [show a+2=(a+1)+1 by omega,Nat.pow_succ,<-Nat.div_div_eq_div_mul,e1]
 have e3:k.nat/2^(a+3)=k.nat/2^a/2/2/2:=by rw [show a+3=(a+2)+1 by omega,Nat.pow_succ,<-Nat.div_div_eq_div_mul,e2]
 rw [e1,e2,e3]
 omega
theorem aCw (l:List Tm) (a:Nat):smG 16 (oY (vG hs (a+4) l))+oY (dG hs (a:Int) l)=oY (vG hs a l):=by
 induction l with
 |nil=>exact (s9 _).trans (ao8 16)
 |cons t l ih=>
  show smG 16 (smG (t.1.nat/2^(a+4)) (gp (be hs) t.2)+oY (vG hs (a+4) l))+(smG (W9 t.1 (a:Int)).toNat (gp (be hs) t.2)+oY (dG hs (a:Int) l))=smG (t.1.nat/2^a) (gp (be hs) t.2)+oY (vG hs a l)
  rw [<-ih,aAn,<-Pp,ay3]
  have e:t.1.nat/2^a=16*(t.1.nat/2^(a+4))+t.1.nat/2^a%16:=by
   rw [Nat.pow_add,<-Nat.div_div_eq_div_mul]
   have:2^4=16:=rfl
   rw [this]
   omega
  have e2:smG (t.1.nat/2^a) (gp (be hs) t.2)=smG (16*(t.1.nat/2^(a+4))) (gp (be hs) t.2)+smG (t.1.nat/2^a%16) (gp (be hs) t.2):=by
   rw [<-Pq,<-e]
  rw [e2]
  ac_rfl
theorem aCv (l:List Tm):oY (vG hs 0 l)=oY (tG hs l):=by
 unfold vG tG
 congr 1
 apply List.map_congr_left
 intro t _
 rw [Nat.pow_zero,Nat.div_one]
theorem ay7 {O:Pt} (h:onB s O=true):onB s (aGz s O)=true/\gp (be hs) (aGz s O)=smG 16 (gp (be hs) O):=by
 have step:∀ {P:Pt} {n:Nat},onB s P=true/\gp (be hs) P=smG n (gp (be hs) O)->onB s (fS s P P)=true/\gp (be hs) (fS s P P)=smG (n+n) (gp (be hs) O):=λ⟨o,e⟩=>
  ⟨(rb o o).2,by rw [Nx hs o o,e,<-Pq]⟩
 exact step (step (step (step (n:=1) ⟨h,(TT _).symm⟩)))
theorem aE2 {l:List Tm} {i n k:Nat} (h:ox l (i:Int) n k<0):∀ j,k<=j->j<k+n->rm (l.getD j kK).1 (i:Int)=false:=by
 induction n generalizing k with
 |zero=>intro j h1 h2;omega
 |succ n ih=>
  intro j h1 h2
  unfold ox at h
  cases hb:rm (l.getD k kK).1 (i:Int)
  ·rw [hb] at h
   by_cases e:j=k
   ·rw [e];exact hb
   ·exact ih h j (by omega) (by omega)
  ·rw [hb] at h
   have h:(k:Int)<0:=h
   omega
theorem Tw (l:List Tm):∀ n,(∀ j,j<l.length->(l.getD j kK).1.nat<2^n)->∀ j,j<l.length->(l.getD j kK).1.nat<2^anG l n
 |0,h=>h
 |n+1,h=>by
  unfold anG
  cases ha:aFn l (n:Int)
  ·simp only [bo]
   refine Tw l n λj hj=> ?_
   have hf:ox l (n:Int) l.length 0<0:=by
    have:¬(0:Int)<=jQ l (n:Int):=of_decide_eq_false ha
    have:¬(0:Int)<=ox l (n:Int) l.length 0:=this
    omega
   have hb:=aE2 hf j (by omega) (by omega)
   have h2:=BJ (l.getD j kK).1 n
   rw [hb] at h2
   have h3:(l.getD j kK).1.nat/2^n%2=0:=by
    have h2:((0:Nat):Int)=(((l.getD j kK).1.nat/2^n%2:Nat):Int):=h2
    exact (Int.ofNat_inj.1 h2).symm
   have h4:=h j hj
   rw [Nat.pow_succ] at h4
   have h5:(l.getD j kK).1.nat/2^n<2:=Nat.div_lt_of_lt_mul h4
   have h6:(l.getD j kK).1.nat/2^n=0:=by
    generalize (l.getD j kK).1.nat/2^n=q at h3 h5
    omega
   rcases Nat.div_eq_zero_iff.1 h6 with h7|h7
   ·have:=Nat.two_pow_pos n;omega
   ·exact h7
  ·exact h
theorem aFs (l:List Tm) {a:Nat} (h:Zh l<=a):oY (vG hs a l)=0:=by
 have hall:=Tw l 256 λj _=>iX _
 have hz:∀ t ∈ l,t.1.nat/2^a=0:=λt ht=>by
  obtain ⟨j,hj,rfl⟩:=List.getElem_of_mem ht
  have:=hall j hj
  rw [DD hj] at this
  exact Nat.div_eq_of_lt (Nat.lt_of_lt_of_le this (Nat.pow_le_pow_right (by decide) h))
 clear hall h
 induction l with
 |nil=>rfl
 |cons t l ih=>
  show smG (t.1.nat/2^a) (gp (be hs) t.2)+oY (vG hs a l)=0
  rw [hz t (List.mem_cons_self ..),aad,ih λu hu=>hz u (List.mem_cons_of_mem _ hu),s9]
theorem aeu {l:List Tm} (ha:cH s l=true):∀ n,n<=rj l+1->onB s (upto (nK s l (rj l)) aK n)=true/\gp (be hs) (upto (nK s l (rj l)) aK n)=oY (vG hs (4*(rj l+1-n)) l)
 |0,_=>by
  refine ⟨vl hs,(Nw hs).trans (aFs hs l ?_).symm⟩
  unfold rj
  omega
 |n+1,h=>by
  obtain ⟨h1,h2⟩:=aeu ha n (by omega)
  show onB s (nK s l (rj l) n (upto (nK s l (rj l)) aK n))=true/\gp (be hs) (nK s l (rj l) n (upto (nK s l (rj l)) aK n))=_
  generalize upto (nK s l (rj l)) aK n=O at*
  unfold nK
  have e:4*(rj l:Int)-4*(n:Int)=((4*(rj l+1-(n+1)):Nat):Int):=by omega
  rw [e]
  obtain ⟨d1,d2⟩:=ay7 hs h1
  obtain ⟨b1,b2⟩:=azl hs ha ((4*(rj l+1-(n+1)):Nat):Int)
  refine ⟨(rb d1 b1).2,?_⟩
  rw [Nx hs d1 b1,d2,b2,h2,<-aCw hs l (4*(rj l+1-(n+1))),show 4*(rj l+1-n)=4*(rj l+1-(n+1))+4 by omega]
theorem aC4 {l:List Tm} (ha:cH s l=true):onB s (wc s l)=true/\gp (be hs) (wc s l)=oY (tG hs l):=by
 unfold wc
 cases aHg l
 ·obtain ⟨h1,h2⟩:=aeu hs ha (rj l+1) (Nat.le_refl _)
  rw [Nat.sub_self,Nat.mul_zero,aCv] at h2
  exact ⟨h1,h2⟩
 ·exact akk hs ha
end
section
variable {s:Int} (hs:ac s=true)
theorem awY (k:ab) (x:Gs hs):smG (FC s k).nat x=smG k.nat x:=by
 rw [T4 hs,show (ofP (pS (bm s 1)) k).nat=k.nat%pS (bm s 1) from cL (gU (dJ hs)),wm hs]
theorem auw (l:List Tm):cH s (rE s l)=cH s l:=by
 unfold cH rE
 rw [List.all_map]
 rfl
theorem aFH (l:List Tm):oY (tG hs (rE s l))=oY (tG hs l):=by
 induction l with
 |nil=>rfl
 |cons t l ih=>
  show smG (FC s t.1).nat (gp (be hs) t.2)+oY (tG hs (rE s l))=smG t.1.nat (gp (be hs) t.2)+oY (tG hs l)
  rw [ih,awY hs]
theorem Ud {l:List Tm} (ha:cH s l=true):onB s (wc s (rE s l))=true/\gp (be hs) (wc s (rE s l))=oY (tG hs l):=by
 obtain ⟨h1,h2⟩:=aC4 hs (l:=rE s l) (by rw [auw];exact ha)
 exact ⟨h1,h2.trans (aFH hs l)⟩
theorem TM (l r:List Tm):oY (tG hs (l++r))=oY (tG hs l)+oY (tG hs r):=by
 unfold tG
 rw [List.map_append,xj]
end
end
section
open Sx Go Lean.Grind
section
variable {p b:Nat} {c:Cur p b}
instance:Sub (Gp c):=⟨λx y=>x+ -y⟩
instance:AddCommGroup (Gp c) where
 add_zero:=s9
 add_comm:=ag2
 add_assoc:=arT
 neg_add_cancel x:=(ag2 _ _).trans (aHT x)
 sub_eq_add_neg _ _:=rfl
end
section
variable {s:Int} (hs:ac s=true)
noncomputable instance:IntModule (Gs hs) where
 nsmul:=⟨smG⟩
 zsmul:=⟨λn x=>smG (n%(pS (bm s 1):Int)).toNat x⟩
 zero_zsmul x:=(wm hs 0 x).trans (aad x)
 one_zsmul x:=(wm hs 1 x).trans (TT x)
 add_zsmul m n x:=by
  have hq:(pS (bm s 1):Int)≠0:=by have:=gU (dJ hs);omega
  show smG ((m+n)%(pS (bm s 1):Int)).toNat x=smG (m%(pS (bm s 1):Int)).toNat x+smG (n%(pS (bm s 1):Int)).toNat x
  rw [<-Pq,<-wm hs (_+_),Int.add_emod]
  obtain ⟨a,ha⟩:=Int.eq_ofNat_of_zero_le (Int.emod_nonneg m hq)
  obtain ⟨b,hb⟩:=Int.eq_ofNat_of_zero_le (Int.emod_nonneg n hq)
  rw [ha,hb]
  rfl
 zsmul_natCast_eq_nsmul n x:=wm hs n x
abbrev Zs (s:Int):Type:=Fin (pS (bm s 1))
variable [NeZero (pS (bm s 1))]
noncomputable def aAG:Ipa.Lin (Zs s) (Gs hs) where
 act a x:=smG a.val x
 aee a b x:=by rw [Fin.val_add,wm hs,Pq]
 auA a x y:=aAn _ x y
 aDO a b x:=by rw [Fin.val_mul,wm hs,Pp]
 aDF x:=(wm hs 1 x).trans (TT x)
def sc (s:Int) [NeZero (pS (bm s 1))] (e:ab):Zs s:=Fin.ofNat _ e.nat
theorem ao9 (e:ab) (x:Gs hs):(aAG hs).act (sc s e) x=smG e.nat x:=wm hs _ x
include hs in
theorem aAo (x y:ab):sc s (fp (pS (bm s 1)) x y)=sc s x+sc s y:=by
 unfold sc
 rw [show (fp (pS (bm s 1)) x y).nat=(x.nat+y.nat)%pS (bm s 1) from cL (gU (dJ hs))]
 refine Fin.ext ?_
 simp only [Fin.val_ofNat,Fin.val_add,Nat.mod_mod,Nat.add_mod]
end
end
section
open Sx Go Lean.Grind
theorem aeC {α:Type} (f:Nat->α) (l:List α):∀ n,upto (λi (o:List α)=>o++ [f i]) l n=l++(List.range n).map f
 |0=>(List.append_nil l).symm
 |n+1=>by
  show upto _ l n++ [f n]=_
  rw [aeC f l n,List.range_succ,List.map_append,List.append_assoc]
  rfl
section
variable {s:Int} (hs:ac s=true) [NeZero (pS (bm s 1))]
end
end
section
open Sx Go
set_option maxRecDepth 100000
theorem axr {s:Int} (hs:ac s=true) (pr:Pr (pS (bm s 1))) {k:Nat} {x:Gs hs} (h:smG k x=0) (hx:x≠0):pS (bm s 1)∣k:=by
 refine la λhk=>hx ?_
 have hf:=NI pr hk
 have h2:=pr.1
 rw [show pS (bm s 1)-1=(pS (bm s 1)-2)+1 by omega,Nat.pow_succ] at hf
 rw [<-TT x,<-hf,wm hs,Pp,h,ao8]
section
variable {s:Int} (hs:ac s=true) [NeZero (pS (bm s 1))]
theorem Py:∀ n:Nat,n<=5->(⟨cn 1 (n:Int),0,0,0⟩:ab).nat=2^n
 |0,_|1,_|2,_|3,_|4,_|5,_=>by decide+kernel
 |n+6,h=>absurd h (by omega)
end
section
variable {s:Int} (hs:ac s=true) [NeZero (pS (bm s 1))]
include hs in
theorem aFJ (a b:ab):sc s (gZ (pS (bm s 1)) a b)=sc s a-sc s b:=by
 have e:sc s (gZ (pS (bm s 1)) a b)+sc s b=sc s a:=by
  unfold gZ
  rw [aAo hs]
  have:sc s (n9 (pS (bm s 1)) b)+sc s b=0:=by
   refine Fin.ext ?_
   have hp:=gU (dJ hs)
   show ((n9 (pS (bm s 1)) b).nat%_+b.nat%_)%_=0
   rw [show (n9 (pS (bm s 1)) b).nat=(pS (bm s 1)-b.nat%pS (bm s 1))%pS (bm s 1) from cL hp,Nat.mod_mod,<-Nat.add_mod]
   have:=Nat.mod_lt b.nat hp.1
   have h3:=Nat.div_add_mod b.nat (pS (bm s 1))
   generalize b.nat%pS (bm s 1)=t at*
   rw [show pS (bm s 1)-t+b.nat=pS (bm s 1)*(b.nat/pS (bm s 1)+1) by rw [Nat.mul_add];omega]
   exact Nat.mul_mod_right _ _
  grind
 grind
end
end
section
namespace Ipa
open Lean.Grind
variable {R M:Type} [CommRing R] [IntModule M] (L:Lin R M)
theorem aDM (k:R) (x:M):L.act (-k) x+L.act k x=0:=by
 rw [<-L.aee,show-k+k=0 by grind,L.aeo]
end Ipa
end
section
open Sx Go
set_option maxRecDepth 100000
section
variable {s:Int} (hs:ac s=true) [NeZero (pS (bm s 1))]
include hs in
theorem aFK (a:ab):sc s (n9 (pS (bm s 1)) a)= -sc s a:=by
 have h:=aFJ hs a a
 unfold gZ at h
 rw [aAo hs] at h
 grind
end
section
variable {s:Int} (hs:ac s=true)
theorem Gh {P:Pt} (hP:onB s P=true):P.2.2=true ↔ gp (be hs) P=0:=by
 refine ⟨λh=> ?_,λh=> ?_⟩
 ·rw [Re P (eU hP).2.1]
  refine Subtype.ext ?_
  show toQ P=none
  unfold toQ
  rw [h]
  rfl
 ·rw [aGl hs hP (vl hs) (h.trans (Nw hs).symm)]
  rfl
variable [NeZero (pS (bm s 1))]
theorem azP (pr:Pr (pS (bm s 1))) {P:Pt} (hP:onB s P=true) (hi:P.2.2=false) (k:Zs s):(aAG hs).act k (gp (be hs) P)=0 ↔ k=0:=by
 refine ⟨λh=> ?_,λh=>by rw [h];exact (aAG hs).aeo _⟩
 have hx:gp (be hs) P≠0:=λe=>by rw [(Gh hs hP).2 e] at hi;cases hi
 have hd:=axr hs pr (k:=k.val) h hx
 exact Fin.ext (Nat.eq_zero_of_dvd_of_lt hd k.isLt)
end
abbrev aqA:af:=ob
def Vh (x:Qn):Bool:=Qk x
def aqB (x:Qn):OT ob.Y:=aqF x
theorem axE:aa ag 84 (aqA.aw Vh aqB):=abl
def Db:bi:=(aqA.aw Vh aqB)
theorem abk:aa ag 84 Db:=axE
theorem abj:au Db:=aq
def ava:Env:=ap 84 Db ai5
theorem YO:bI ag te ava:=aP follows anE abk abj
def iA:af:=⟨[aB,nH],[],true,0,false⟩
abbrev sZ:Type:=Ym
def io:aH:=⟨[kZ,aB],[],false⟩
def vn (a0:Int) (a1:cY):OT iA.Y:=
 (.br (ac a0)
 (.br (decide (List.length a1<=100000))
  (.br (cH a0 a1)
   (.ok ⟨io,(((wc a0 (rE a0 a1)).snd.snd,(0:Int),()),())⟩)
   (.ok ⟨io,((false,(41:Int),()),())⟩))
  (.ok ⟨io,((false,(50:Int),()),())⟩))
 (.ok ⟨io,((false,(40:Int),()),())⟩))
theorem Q3 (pre:sZ->Bool) (F:sZ->OT iA.Y) (hF:∀ (x:sZ) oy,pre x=true->(F x).run=some oy->(vn x.1.1 x.1.2.1).run=some oy):aa ag 30 (iA.aw pre F):=
 cC YO 30 Tryz.f30 iA [io] bw (λx=>vn x.1.1 x.1.2.1) hF
def E5 (_:sZ):Bool:=true
def L3 (c:Int) (l:List Tm):Bool×Int:=cond (ac c) (cond (decide (l.length<=100000)) (cond (cH c l) ((wc c (rE c l)).2.2,0) (false,41)) (false,50)) (false,40)
def Nu (x:sZ):OT iA.Y:=.ok ⟨io,(((L3 x.1.1 x.1.2.1).1,(L3 x.1.1 x.1.2.1).2,()),())⟩
theorem acq:aa ag 30 (iA.aw E5 Nu):=Q3 _ _ λx oy hp ho=>by
 rw [<-ho]
 obtain ⟨⟨c,l,⟨⟩⟩,⟨⟩⟩:=x
 show _=some (⟨io,(((L3 c l).1,(L3 c l).2,()),())⟩:iA.Y)
 unfold L3
 show (vn c l).run=_
 unfold vn
 cases h1:ac c
 ·exact OT.al rfl
 refine (OT.ak rfl).trans ?_
 cases h2:decide (l.length<=100000)
 ·exact OT.al rfl
 refine (OT.ak rfl).trans ?_
 cases h3:cH c l
 ·exact OT.al rfl
 exact (OT.ak rfl).trans rfl
def qm:bi:=(iA.aw E5 Nu)
theorem LW:aa ag 30 qm:=acq
theorem LV:au qm:=aq
def anD:Env:=ap 30 qm ava
theorem Fx:bI ag te anD:=aP follows YO LW LV
def Zi (m:Nat) (t:Tm):Tm:=(n9 m t.1,t.2)
theorem aqn {s:Int} (m:Nat) {l:List Tm} (h:cH s l=true):cH s (l++l.map (Zi m))=true:=by
 unfold cH at h⊢
 rw [List.all_append,List.all_map,h]
 exact h
section
variable {s:Int} (hs:ac s=true) [NeZero (pS (bm s 1))]
theorem aqm:∀ l:List Tm,oY (tG hs (l.map (Zi (pS (bm s 1)))))+oY (tG hs l)=0
 | []=>s9 _
 |t::l=>by
  show smG (n9 _ t.1).nat (gp (be hs) t.2)+oY (tG hs (l.map (Zi (pS (bm s 1)))))+(smG t.1.nat (gp (be hs) t.2)+oY (tG hs l))=0
  have h1:=aqm l
  have h2:=Ipa.aDM (aAG hs) (sc s t.1) (gp (be hs) t.2)
  rw [<-ao9 hs,<-ao9 hs,aFK hs]
  generalize (aAG hs).act (-sc s t.1) (gp (be hs) t.2)=a at*
  generalize (aAG hs).act (sc s t.1) (gp (be hs) t.2)=b at*
  generalize oY (tG hs (l.map (Zi (pS (bm s 1)))))=c at*
  generalize oY (tG hs l)=d at*
  calc a+c+(b+d)=(a+b)+(c+d):=by ac_rfl
   _=0:=by rw [h1,h2];exact s9 _
theorem ahW (l:List Tm):oY (tG hs (l++l.map (Zi (pS (bm s 1)))))=0:=by
 rw [TM,ag2]
 exact aqm hs l
end
theorem as0 {s:Int} (hs:ac s=true) {l:List Tm} (ha:cH s l=true):(wc s (rE s (l++l.map (Zi (pS (bm s 1)))))).2.2=true:=by
 haveI:NeZero (pS (bm s 1)):=⟨by have:=gU (dJ hs);omega⟩
 obtain ⟨k1,k2⟩:=Ud hs (aqn (pS (bm s 1)) ha)
 exact (Gh hs k1).2 (k2.trans (ahW hs l))
theorem aED {s:Int} (hs:ac s=true) {l:List Tm} (ha:cH s l=true) (k:ab) {P:Pt} (hP:onB s P=true):
 cH s (l++l.map (Zi (pS (bm s 1)))++ [(k,P)])=true/\(wc s (rE s (l++l.map (Zi (pS (bm s 1)))++ [(k,P)]))).2.2=(P.2.2||bJ (ofP (pS (bm s 1)) k)):=by
 haveI:NeZero (pS (bm s 1)):=⟨by have:=gU (dJ hs);omega⟩
 have hon:cH s (l++l.map (Zi (pS (bm s 1)))++ [(k,P)])=true:=by
  have h1:=aqn (pS (bm s 1)) ha
  unfold cH at h1⊢
  rw [List.all_append,h1,ax,hP]
  rfl
 refine ⟨hon,?_⟩
 obtain ⟨k1,k2⟩:=Ud hs hon
 rw [TM,ahW hs,azV] at k2
 have k3:gp (be hs) (wc s (rE s (l++l.map (Zi (pS (bm s 1)))++ [(k,P)])))=(aAG hs).act (sc s k) (gp (be hs) P):=by
  rw [k2,ao9 hs]
  exact s9 _
 have i1:=Gh hs k1
 rw [k3] at i1
 have hz:sc s k=0 ↔ bJ (ofP (pS (bm s 1)) k)=true:=by
  have e:(ofP (pS (bm s 1)) k).nat=k.nat%pS (bm s 1):=cL (gU (dJ hs))
  rw [dM,e]
  refine ⟨λh=> ?_,λh=>Fin.ext (aX h)⟩
  rw [show k.nat%pS (bm s 1)=0 from congrArg Fin.val h]
  rfl
 rw [Bool.eq_iff_iff,i1,Bool.or_eq_true,<-hz]
 cases hi:P.2.2
 ·rw [azP hs (be (dJ hs)).pr hP hi]
  exact ⟨.inr,λh=>h.resolve_left (by decide)⟩
 ·rw [(Gh hs hP).1 hi]
  exact ⟨λ_=>.inl rfl,λ_=>(aAG hs).azO _⟩
def dK:af:=⟨[aB,.val false (.list Cz),dY],[],true,0,false⟩
abbrev sL:Type:=(Int×cY×oN)×Unit
def abL:Shape:=⟨113,[ig,zr,(5,dW),(7,kZ),(9,mL),(10,aB)],[fV,(1,ud)],0,true⟩
abbrev di:Type:=(Int×cY×Unit×Bool×oK)×ao×oM
def lu:Shape:=⟨113,[ig,zr,(5,dW),(7,kZ),(9,mL)],[fV,(1,ud)],0,true⟩
abbrev j4:Type:=(Int×cY×Unit×Bool×bQ)×ao×oM
def abO (a0:Int) (a1:cY) (a7:Bool) (a10:Int) (c0:ao) (c1:cY):OT (Sum di aT):=
 let z0:Nat:=List.length a1
 let z1:Bool:=inB a10 z0
 let z2:Int:=bm a0 (1:Int)
 let z3:ab:= {w0:=0,w1:=0,w2:=0,w3:=0}
 let z4:Fm:=List.getD a1 (Int.toNat a10) (z3,z3,z3,false)
 let z5:=z4.fst
 (.br (decide (a10<(↑z0:Int)))
 (gd [z1,HF ((z2,z5,()),()),z1,decide ((List.length c1+1)*104<=140737488355328),inR (a10+(1:Int))] (.ok (.inl ((a0,a1,(),a7,(),a10+(1:Int),()),c0,c1++ [(n9 (pS z2) z5,z4.snd)],()))))
 (.ok (.inr ⟨(.exit 0,lu),((a0,a1,(),a7,(),()),c0,c1,())⟩)))
def pW (s:di):OT (Sum di aT):=abO s.1.1 s.1.2.1 s.1.2.2.2.1 s.1.2.2.2.2.2.1 s.2.1 s.2.2.1
def IX (g0_0:di->j4) (s:di):OT aT:=(.ok ⟨(.exit 0,lu),g0_0 s⟩)
def cd:aH:=⟨mO,[],false⟩
section
variable (ok0:di->Bool) (g0_0:di->j4)
def vd (a0:Int) (a1:cY) (a2:ab):OT dK.Y:=
 let z0:Bool:=nY ((a1,()),())
 let z1:Bool×Int:=L3 a0 a1
 let z2:=z1.fst
 let z3:di:=((a0,a1,(),z2,(),(0:Int),()),[a2.w0,a2.w1,a2.w2,a2.w3],a1,())
 let z4:j4:=g0_0 z3
 let z5:=z4.fst
 let z6:=z5.fst
 let z7:=z4.snd
 let z8:=z7.snd.fst
 let z9:Bool×Int:=L3 z6 z8
 let z10:=z5.snd
 let z11:=z10.fst
 let z12:Nat:=List.length z11
 let z13:=z10.snd.snd.fst
 let z14:=z7.fst
 let z15:Bool:=decide (4<=List.length z14)
 let z16:Bool:=inB (0:Int) z12
 let z17:ab:= {w0:=0,w1:=0,w2:=0,w3:=0}
 let z18:cM:=(List.getD z11 0 (z17,z17,z17,false)).snd
 let z19:ab:= {w0:=List.getD z14 0 0,w1:=List.getD z14 1 0,w2:=List.getD z14 2 0,w3:=List.getD z14 3 0}
 let z20:Bool:=(L3 z6 (z8++ [(z19,z18)])).fst
 let z21:Int:=bm z6 (1:Int)
 let z22:ab:=ofP (pS z21) z19
 (.br (decide ((40:Int)<(↑(List.length a1):Int)))
 (.ok ⟨cd,((true,()),())⟩)
 (gd [z0] (.br (!z1.snd==(0:Int))
  (.ok ⟨cd,((!z2,()),())⟩)
  (gd [z0,ok0 z3] (.br (!z9.fst)
   (.br ((↑z12:Int)==(0:Int))
    (.ok ⟨cd,((z13,()),())⟩)
    (.ok ⟨cd,((false,()),())⟩))
   (.br (!z9.snd==(0:Int))
    (.br ((↑z12:Int)==(0:Int))
     (.ok ⟨cd,((z13,()),())⟩)
     (.ok ⟨cd,((false,()),())⟩))
    (.br ((↑z12:Int)==(0:Int))
     (.br ((↑z12:Int)==(0:Int))
      (.ok ⟨cd,((z13,()),())⟩)
      (.ok ⟨cd,((false,()),())⟩))
     (gd [nY ((z8,()),()),z15,z16,decide ((List.length z8+1)*104<=140737488355328),z16] (.br (z18.snd.snd)
      (.ok ⟨cd,((z20==true,()),())⟩)
      (gd [z15,HD ((z21,z19,()),())] (.ok ⟨cd,((z20==(z22.w0==(0:UInt64)&&(z22.w1==(0:UInt64)&&(z22.w2==(0:UInt64)&&(z22.w3==(0:UInt64)&&true)))),()),())⟩)))))))))))
theorem QD (h0:aY pW ok0 (IX g0_0)) (pre:sL->Bool) (F:sL->OT dK.Y) (hF:∀ (x:sL) oy,pre x=true->(F x).run=some oy->(vd ok0 g0_0 x.1.1 x.1.2.1 x.1.2.2.1).run=some oy):aa ag 8 (dK.aw pre F):=
 cC Fx 8 Tryz.f8 dK [cd] (js Fx 0 abL [(0,lu)] none none pW bw h0 bw) (λx=>vd ok0 g0_0 x.1.1 x.1.2.1 x.1.2.2.1) hF
end
def aFZ:Tm:=(⟨0,0,0,0⟩,⟨0,0,0,0⟩,⟨0,0,0,0⟩,false)
def axz (m:Nat) (l:List Tm) (k:Nat) (e:List Tm):List Tm:=e++ [Zi m (l.getD k aFZ)]
theorem axy (m:Nat) (l o:List Tm):upto (axz m l) o l.length=o++l.map (Zi m):=by
 refine (aeC (λi=>Zi m (l.getD i aFZ)) o l.length).trans (congrArg (o++ ·) ?_)
 refine List.ext_getElem (by rw [List.length_map,List.length_map,List.length_range]) λi h1 h2=> ?_
 rw [List.length_map,List.length_range] at h1
 rw [List.getElem_map,List.getElem_map,List.getElem_range,DD h1]
def sK:di->Bool|((c,l,_,_,_,i,_),_,o,_)=>decide (i=0/\l.length<=40/\o.length<=40)&&ac (bm c 1)
def pV:di->j4|((c,l,_,d,_,_,_),c0,o,_)=>((c,l,(),d,(),()),c0,upto (axz (pS (bm c 1)) l) o l.length,())
theorem abN:aY pW sK (IX pV):=by
 rintro ⟨⟨c,l,⟨⟩,d,⟨⟩,i,⟨⟩⟩,⟨c0,o,⟨⟩⟩⟩ h0
 have h1:(decide (i=0/\l.length<=40/\o.length<=40)&&ac (bm c 1))=true:=h0
 rw [av] at h1
 obtain ⟨rfl,hl,ho⟩:=bh h1.1
 have hs:=h1.2
 have:=(aW (T:=pW) (λk e=>(((c,l,(),d,(),(k:Int),()),c0,e,()):di)) (axz (pS (bm c 1)) l)
  (λe=>(⟨(.exit 0,lu),((c,l,(),d,(),()),c0,e,())⟩:aT)) l.length o (λk e=>e.length=k+o.length) (Nat.zero_add _).symm (λk e hk hq=>⟨?_,?_⟩) (λe _=> ?_)).1
 ·obtain ⟨m,hm⟩:=this
  exact ⟨m,_,hm,rfl⟩
 ·have hq:e.length=k+o.length:=hq
  refine (OT.ak (aj (by dsimp only;omega))).trans ((ae ?_).trans rfl)
  simp only [ax,aA,aC,av]
  exact ⟨aR (by omega),hs,aR (by omega),aj (by omega),aL (by omega)⟩
 ·show (_++ [_]).length=_
  rw [bR,show e.length=k+o.length from hq,List.length_singleton]
  omega
 ·exact OT.al (bn (by dsimp only;omega))
theorem aEE {c:Int} {l:List Tm} (h:((L3 c l).2==0)=false):(L3 c l).1=false:=by
 unfold L3 at h⊢
 cases h1:ac c
 ·rfl
 cases h2:decide (l.length<=100000)
 ·rfl
 cases h3:cH c l
 ·rfl
 rw [h1,h2,h3] at h
 cases h
theorem ay5 {c:Int} {l:List Tm} (h:((L3 c l).2==0)=true):ac c=true/\cH c l=true:=by
 unfold L3 at h
 cases h1:ac c
 ·rw [h1] at h;cases h
 rw [h1] at h
 cases h2:decide (l.length<=100000)
 ·rw [h2] at h;cases h
 rw [h2] at h
 cases h3:cH c l
 ·rw [h3] at h;cases h
 ·exact ⟨rfl,rfl⟩
theorem as1 {c:Int} {l:List Tm} (h1:ac c=true) (h2:cH c l=true) (h3:l.length<=1000):L3 c l=((wc c (rE c l)).2.2,0):=by
 unfold L3
 rw [h1,h2,aj (by omega)]
 rfl
def sJ (_:sL):Bool:=true
def Nc (_:sL):OT dK.Y:=.ok ⟨cd,((true,()),())⟩
theorem abM:aa ag 8 (dK.aw sJ Nc):=QD sK pV abN _ _ λx oy hp ho=>by
 rw [<-ho]
 clear ho
 obtain ⟨⟨c,l,k,⟨⟩⟩,⟨⟩⟩:=x
 show (vd sK pV c l k).run=some (⟨cd,((true,()),())⟩:dK.Y)
 unfold vd
 by_cases hl:(40:Int)<(l.length:Int)
 ·exact OT.ak (aj hl)
 have hl:l.length<=40:=by omega
 have hu:nY ((l,()),())=true:=aj (show l.length*104<=_ by omega)
 refine (OT.al (bn (by omega))).trans ((ae ?_).trans ?_)
 ·simp only [ax,aA,aC]
  exact hu
 refine fm ((L3 c l).2==0) (λe=> ?_) (λe=> ?_)
 ·refine (OT.ak (congrArg (!·) e)).trans ?_
  exact congrArg (λb:Bool=>some (⟨cd,((!b,()),())⟩:dK.Y)) (aEE e)
 obtain ⟨hs,ha⟩:=ay5 e
 have hs1:ac (bm c 1)=true:=dJ hs
 refine (OT.al (congrArg (!·) e)).trans ((ae ?_).trans ?_)
 ·simp only [ax,aA,aC,av]
  refine ⟨hu,?_⟩
  show (decide ((0:Int)=0/\l.length<=40/\l.length<=40)&&ac (bm c 1))=true
  rw [hs1,aj ⟨rfl,hl,hl⟩]
  rfl
 have eg:pV ((c,l,(),(L3 c l).1,(),(0:Int),()),[k.w0,k.w1,k.w2,k.w3],l,())=((c,l,(),(L3 c l).1,(),()),[k.w0,k.w1,k.w2,k.w3],l++l.map (Zi (pS (bm c 1))),()):=by
  show ((c,l,(),(L3 c l).1,(),()),[k.w0,k.w1,k.w2,k.w3],upto (axz (pS (bm c 1)) l) l l.length,())=_
  rw [axy]
 dsimp only
 rw [eg]
 dsimp only
 have hon:=aqn (pS (bm c 1)) ha
 have d2:L3 c (l++l.map (Zi (pS (bm c 1))))=(true,0):=by
  rw [as1 hs hon (by rw [bR,List.length_map];omega),as0 hs ha]
 rw [d2]
 refine (OT.al rfl).trans ((OT.al rfl).trans ?_)
 match l,hl,hu,e,ha,hon,d2 with
 | [],_,_,e,ha,_,_=>
  refine (OT.ak rfl).trans ((OT.ak rfl).trans ?_)
  refine congrArg (λb:Bool=>some (⟨cd,((b,()),())⟩:dK.Y)) ?_
  rw [as1 hs ha (by decide)]
  exact as0 hs ha
 |t::r,hl,hu,e,ha,hon,d2=>
  have hP:onB c t.2=true:=by
   unfold cH at ha
   rw [ax,av] at ha
   exact ha.1
  obtain ⟨on1,d3⟩:=aED hs ha k hP
  have hlen:(t::r).length<=40:=hl
  refine (OT.al (beq_eq_false_iff_ne.2 (by rw [List.length_cons];omega))).trans ((ae ?_).trans ?_)
  ·simp only [ax,aA,aC,av]
   refine ⟨aj ?_,rfl,aR (by rw [List.length_cons];omega),aj ?_,aR (by rw [List.length_cons];omega)⟩
   ·show ((t::r)++(t::r).map _).length*104<=_
    rw [bR,List.length_map]
    omega
   ·rw [bR,List.length_map]
    omega
  have d4:(L3 c ((t::r)++(t::r).map (Zi (pS (bm c 1)))++ [(k,t.2)])).1=(t.2.2.2||bJ (ofP (pS (bm c 1)) k)):=by
   rw [as1 hs on1 (by rw [bR,bR,List.length_map];show _+1<=_;omega)]
   exact d3
  refine fm t.2.2.2 (λe5=> ?_) (λe5=> ?_)
  ·refine (OT.al e5).trans ((ae ?_).trans ?_)
   ·simp only [ax,aA,aC,av]
    exact ⟨rfl,hs1⟩
   ·refine congrArg (λb:Bool=>some (⟨cd,((b,()),())⟩:dK.Y)) ?_
    rw [e5,Bool.false_or] at d4
    exact (congrArg (· ==bJ (ofP (pS (bm c 1)) k)) d4).trans (beq_self_eq_true _)
  ·refine (OT.ak e5).trans ?_
   refine congrArg (λb:Bool=>some (⟨cd,((b,()),())⟩:dK.Y)) ?_
   rw [e5,Bool.true_or] at d4
   exact congrArg (· ==true) d4
def QC:bi:=(dK.aw sJ Nc)
theorem LP:aa ag 8 QC:=abM
end
end Go.Proofs.YthnnknnbfhkomaaGreat
