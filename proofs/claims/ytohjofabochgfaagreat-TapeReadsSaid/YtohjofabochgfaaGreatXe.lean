/- A symbolic machine for Go code over plain data, and functions of the program as it shows them. No statement is proved in this file. -/
import Derived.KernelRfl
import Derived.Test.YtohjofabochgfaaGreatXd
set_option linter.unusedSimpArgs false
set_option linter.unusedVariables false
set_option linter.unusedSectionVars false

namespace Go.Proofs.YtohjofabochgfaaGreat
open Sx Go
set_option maxRecDepth 100000
def jV:ap:=⟨[.val false .int,.val true .elem],[],true,0,false⟩
abbrev PO:Type:=((Int)×(ag)×Unit)×(Unit)
def zu:Shape:=⟨126,[(4,.ptr 0 0 0),(6,.ptr 1 0 0),(8,.ptr 2 0 0),(12,.ptr 3 0 0),(13,.ptr 4 0 0),(16,.ptr 5 0 0),(17,.val false .int)],[(0,.row .u64),(1,.cells [.val false .u64,.val false .u64,.val false .u64,.val false .u64,.val false .int,.val false .u64,.val false .u64,.val false .u64,.val false .u64,.val false .u64,.val false .u64]),(2,.row .u64),(3,.row .u64),(4,.row .u64),(5,.row .u64)],0,true⟩
abbrev bh:Type:=((Unit)×(Unit)×(Unit)×(Unit)×(Unit)×(Unit)×(Int)×Unit)×((List (UInt64))×((UInt64)×(UInt64)×(UInt64)×(UInt64)×(Int)×(UInt64)×(UInt64)×(UInt64)×(UInt64)×(UInt64)×(UInt64)×Unit)×(List (UInt64))×(List (UInt64))×(List (UInt64))×(List (UInt64))×Unit)
def zt:Shape:=⟨126,[(4,.ptr 0 0 0),(6,.ptr 1 0 0),(8,.ptr 2 0 0),(12,.ptr 3 0 0),(13,.ptr 4 0 0),(16,.ptr 5 0 0),(17,.val false .int),(18,.val false .int),(19,.ptr 6 0 0)],[(0,.row .u64),(1,.cells [.val false .u64,.val false .u64,.val false .u64,.val false .u64,.val false .int,.val false .u64,.val false .u64,.val false .u64,.val false .u64,.val false .u64,.val false .u64]),(2,.row .u64),(3,.row .u64),(4,.row .u64),(5,.row .u64),(6,.row .u64)],0,true⟩
abbrev bD:Type:=((Unit)×(Unit)×(Unit)×(Unit)×(Unit)×(Unit)×(Int)×(Int)×(Unit)×Unit)×((List (UInt64))×((UInt64)×(UInt64)×(UInt64)×(UInt64)×(Int)×(UInt64)×(UInt64)×(UInt64)×(UInt64)×(UInt64)×(UInt64)×Unit)×(List (UInt64))×(List (UInt64))×(List (UInt64))×(List (UInt64))×(List (UInt64))×Unit)
def nS:Shape:=⟨126,[(4,.ptr 0 0 0),(6,.ptr 1 0 0),(8,.ptr 2 0 0),(12,.ptr 3 0 0),(13,.ptr 4 0 0),(16,.ptr 5 0 0),(17,.val false .int),(18,.val false .int)],[(0,.row .u64),(1,.cells [.val false .u64,.val false .u64,.val false .u64,.val false .u64,.val false .int,.val false .u64,.val false .u64,.val false .u64,.val false .u64,.val false .u64,.val false .u64]),(2,.row .u64),(3,.row .u64),(4,.row .u64),(5,.row .u64)],0,true⟩
abbrev dU:Type:=((Unit)×(Unit)×(Unit)×(Unit)×(Unit)×(Unit)×(Int)×(Int)×Unit)×((List (UInt64))×((UInt64)×(UInt64)×(UInt64)×(UInt64)×(Int)×(UInt64)×(UInt64)×(UInt64)×(UInt64)×(UInt64)×(UInt64)×Unit)×(List (UInt64))×(List (UInt64))×(List (UInt64))×(List (UInt64))×Unit)
def ai6:SE->Option Shape:=gI [(2,nS)] none
def azx (a17:Int) (a18:Int) (c0:List (UInt64)) (c1_0:UInt64) (c1_1:UInt64) (c1_2:UInt64) (c1_3:UInt64) (c1_4:Int) (c1_5:UInt64) (c1_6:UInt64) (c1_7:UInt64) (c1_8:UInt64) (c1_9:UInt64) (c1_10:UInt64) (c2:List (UInt64)) (c3:List (UInt64)) (c4:List (UInt64)) (c5:List (UInt64)) (c6:List (UInt64)):OT (Sum bD aI):=
 let z0:Nat:=List.length c6
 let z1:Bool:=decide (4<=z0)
 let z2:UInt64:=List.getD c6 0 0
 let z3:UInt64:=List.getD c6 1 0
 let z4:UInt64:=List.getD c6 2 0
 let z5:UInt64:=List.getD c6 3 0
 let z6:ag:= {w0:=c1_0,w1:=c1_1,w2:=c1_2,w3:=c1_3}
 let z7:ag:= {w0:=z2,w1:=z3,w2:=z4,w3:=z5}
 let z8:ag:=dI (ag.nat z6) z7 z7
 let z9:List UInt64:=List.set (List.set (List.set (List.set c6 0 z8.w0) 1 z8.w1) 2 z8.w2) 3 z8.w3
 (gd [z1,decide (4<=List.length c2)] (.br (!(z2==List.getD c2 0 0&&(z3==List.getD c2 1 0&&(z4==List.getD c2 2 0&&(z5==List.getD c2 3 0&&true)))))
 (.br (decide (a18<a17))
  (gd [z1,z1,fE (((z6,c1_4,c1_5,c1_6,{w0:=c1_7,w1:=c1_8,w2:=c1_9,w3:=c1_10}),z7,z7,()),()),decide ((4/1:Nat)+0<=z0),decide (4<=List.length z9),inR (a18+(1:Int))] (.ok (.inl (((),((),((),((),((),((),(a17,(a18+(1:Int),((),()))))))))),(c0,((c1_0,(c1_1,(c1_2,(c1_3,(c1_4,(c1_5,(c1_6,(c1_7,(c1_8,(c1_9,(c1_10,()))))))))))),(c2,(c3,(c4,(c5,([List.getD z9 0 0,List.getD z9 1 0,List.getD z9 2 0,List.getD z9 3 0],())))))))))))
  (.ok (.inr ⟨(.exit 2,nS),(((),((),((),((),((),((),(a17,(a18,())))))))),(c0,((c1_0,(c1_1,(c1_2,(c1_3,(c1_4,(c1_5,(c1_6,(c1_7,(c1_8,(c1_9,(c1_10,()))))))))))),(c2,(c3,(c4,(c5,())))))))⟩)))
 (.ok (.inr ⟨(.exit 2,nS),(((),((),((),((),((),((),(a17,(a18,())))))))),(c0,((c1_0,(c1_1,(c1_2,(c1_3,(c1_4,(c1_5,(c1_6,(c1_7,(c1_8,(c1_9,(c1_10,()))))))))))),(c2,(c3,(c4,(c5,())))))))⟩))))
def zy (s:bD):OT (Sum bD aI):=azx (s.1.2.2.2.2.2.2.1) (s.1.2.2.2.2.2.2.2.1) (s.2.1) (s.2.2.1.1) (s.2.2.1.2.1) (s.2.2.1.2.2.1) (s.2.2.1.2.2.2.1) (s.2.2.1.2.2.2.2.1) (s.2.2.1.2.2.2.2.2.1) (s.2.2.1.2.2.2.2.2.2.1) (s.2.2.1.2.2.2.2.2.2.2.1) (s.2.2.1.2.2.2.2.2.2.2.2.1) (s.2.2.1.2.2.2.2.2.2.2.2.2.1) (s.2.2.1.2.2.2.2.2.2.2.2.2.2.1) (s.2.2.2.1) (s.2.2.2.2.1) (s.2.2.2.2.2.1) (s.2.2.2.2.2.2.1) (s.2.2.2.2.2.2.2.1)
theorem azq (s:bD) (Q:Sum bD aI->Prop):wps te sV ax 1000 (bg (bg (ak Tryz.f97) 0) 2) (zt.inj s) (cz zt ai6 (Q:Sum zt.T aI->Prop))=(zy s).wpR Q:=by kernel_rfl
def GN (g2_2:bD->dU) (s:bD):OT aI:=(.ok ⟨(.exit 2,nS),g2_2 s⟩)
def zr:Shape:=⟨126,[(4,.ptr 0 0 0),(6,.ptr 1 0 0),(8,.ptr 2 0 0),(12,.ptr 3 0 0),(13,.ptr 4 0 0),(16,.ptr 5 0 0),(18,.val false .int),(20,.ptr 6 0 0),(97,.val false .int),(98,.val false .int)],[(0,.row .u64),(1,.cells [.val false .u64,.val false .u64,.val false .u64,.val false .u64,.val false .int,.val false .u64,.val false .u64,.val false .u64,.val false .u64,.val false .u64,.val false .u64]),(2,.row .u64),(3,.row .u64),(4,.row .u64),(5,.row .u64),(6,.row .u64)],0,true⟩
abbrev bC:Type:=((Unit)×(Unit)×(Unit)×(Unit)×(Unit)×(Unit)×(Int)×(Unit)×(Int)×(Int)×Unit)×((List (UInt64))×((UInt64)×(UInt64)×(UInt64)×(UInt64)×(Int)×(UInt64)×(UInt64)×(UInt64)×(UInt64)×(UInt64)×(UInt64)×Unit)×(List (UInt64))×(List (UInt64))×(List (UInt64))×(List (UInt64))×(List (UInt64))×Unit)
def ue:Shape:=⟨126,[(4,.ptr 0 0 0),(6,.ptr 1 0 0),(8,.ptr 2 0 0),(12,.ptr 3 0 0),(13,.ptr 4 0 0),(16,.ptr 5 0 0),(18,.val false .int),(20,.ptr 6 0 0)],[(0,.row .u64),(1,.cells [.val false .u64,.val false .u64,.val false .u64,.val false .u64,.val false .int,.val false .u64,.val false .u64,.val false .u64,.val false .u64,.val false .u64,.val false .u64]),(2,.row .u64),(3,.row .u64),(4,.row .u64),(5,.row .u64),(6,.row .u64)],0,true⟩
abbrev dT:Type:=((Unit)×(Unit)×(Unit)×(Unit)×(Unit)×(Unit)×(Int)×(Unit)×Unit)×((List (UInt64))×((UInt64)×(UInt64)×(UInt64)×(UInt64)×(Int)×(UInt64)×(UInt64)×(UInt64)×(UInt64)×(UInt64)×(UInt64)×Unit)×(List (UInt64))×(List (UInt64))×(List (UInt64))×(List (UInt64))×(List (UInt64))×Unit)
def ai5:SE->Option Shape:=gI [(4,ue)] none
def azw (a18:Int) (a97:Int) (a98:Int) (c0:List (UInt64)) (c1_0:UInt64) (c1_1:UInt64) (c1_2:UInt64) (c1_3:UInt64) (c1_4:Int) (c1_5:UInt64) (c1_6:UInt64) (c1_7:UInt64) (c1_8:UInt64) (c1_9:UInt64) (c1_10:UInt64) (c2:List (UInt64)) (c3:List (UInt64)) (c4:List (UInt64)) (c5:List (UInt64)) (c6:List (UInt64)):OT (Sum bC aI):=
 let z0:Nat:=List.length c6
 let z1:Bool:=decide (4<=z0)
 let z2:ag:= {w0:=c1_0,w1:=c1_1,w2:=c1_2,w3:=c1_3}
 let z3:ag:= {w0:=List.getD c6 0 0,w1:=List.getD c6 1 0,w2:=List.getD c6 2 0,w3:=List.getD c6 3 0}
 let z4:ag:=dI (ag.nat z2) z3 z3
 (.br (decide (a98<a97))
 (gd [z1,z1,fE (((z2,c1_4,c1_5,c1_6,{w0:=c1_7,w1:=c1_8,w2:=c1_9,w3:=c1_10}),z3,z3,()),()),decide ((4/1:Nat)+0<=z0),inR (a98+(1:Int))] (.ok (.inl (((),((),((),((),((),((),(a18,((),(a97,(a98+(1:Int),())))))))))),(c0,((c1_0,(c1_1,(c1_2,(c1_3,(c1_4,(c1_5,(c1_6,(c1_7,(c1_8,(c1_9,(c1_10,()))))))))))),(c2,(c3,(c4,(c5,(List.set (List.set (List.set (List.set c6 0 z4.w0) 1 z4.w1) 2 z4.w2) 3 z4.w3,())))))))))))
 (.ok (.inr ⟨(.exit 4,ue),(((),((),((),((),((),((),(a18,((),())))))))),(c0,((c1_0,(c1_1,(c1_2,(c1_3,(c1_4,(c1_5,(c1_6,(c1_7,(c1_8,(c1_9,(c1_10,()))))))))))),(c2,(c3,(c4,(c5,(c6,()))))))))⟩)))
def zx (s:bC):OT (Sum bC aI):=azw (s.1.2.2.2.2.2.2.1) (s.1.2.2.2.2.2.2.2.2.1) (s.1.2.2.2.2.2.2.2.2.2.1) (s.2.1) (s.2.2.1.1) (s.2.2.1.2.1) (s.2.2.1.2.2.1) (s.2.2.1.2.2.2.1) (s.2.2.1.2.2.2.2.1) (s.2.2.1.2.2.2.2.2.1) (s.2.2.1.2.2.2.2.2.2.1) (s.2.2.1.2.2.2.2.2.2.2.1) (s.2.2.1.2.2.2.2.2.2.2.2.1) (s.2.2.1.2.2.2.2.2.2.2.2.2.1) (s.2.2.1.2.2.2.2.2.2.2.2.2.2.1) (s.2.2.2.1) (s.2.2.2.2.1) (s.2.2.2.2.2.1) (s.2.2.2.2.2.2.1) (s.2.2.2.2.2.2.2.1)
theorem azp (s:bC) (Q:Sum bC aI->Prop):wps te sV ax 1000 (bg (bg (ak Tryz.f97) 0) 4) (zr.inj s) (cz zr ai5 (Q:Sum zr.T aI->Prop))=(zx s).wpR Q:=by kernel_rfl
def GM (g4_4:bC->dT) (s:bC):OT aI:=(.ok ⟨(.exit 4,ue),g4_4 s⟩)
def ko:Shape:=⟨126,[(4,.ptr 0 0 0),(5,.val false .int)],[(0,.row .u64)],0,true⟩
abbrev jb:Type:=((Unit)×(Int)×Unit)×((List (UInt64))×Unit)
def nT:Shape:=⟨126,[(4,.ptr 0 0 0),(6,.ptr 1 0 0),(16,.ptr 2 0 0)],[(0,.row .u64),(1,.cells [.val false .u64,.val false .u64,.val false .u64,.val false .u64,.val false .int,.val false .u64,.val false .u64,.val false .u64,.val false .u64,.val false .u64,.val false .u64]),(2,.row .u64)],0,true⟩
abbrev jc:Type:=((Unit)×(Unit)×(Unit)×Unit)×((List (UInt64))×((UInt64)×(UInt64)×(UInt64)×(UInt64)×(Int)×(UInt64)×(UInt64)×(UInt64)×(UInt64)×(UInt64)×(UInt64)×Unit)×(List (UInt64))×Unit)
def ai7:SE->Option Shape:=gI [(0,nT)] (some ko)
def S4 (ok2:bD->Bool) (g2_2:bD->dU) (ok4:bC->Bool) (g4_4:bC->dT) (a17:Int) (c0:List (UInt64)) (c1_0:UInt64) (c1_1:UInt64) (c1_2:UInt64) (c1_3:UInt64) (c1_4:Int) (c1_5:UInt64) (c1_6:UInt64) (c1_7:UInt64) (c1_8:UInt64) (c1_9:UInt64) (c1_10:UInt64) (c2:List (UInt64)) (c3:List (UInt64)) (c4:List (UInt64)) (c5:List (UInt64)):OT (Sum bh aI):=
 let z0:Bool:=decide (4<=List.length c4)
 let z1:UInt64:=List.getD c4 0 0
 let z2:UInt64:=List.getD c4 1 0
 let z3:UInt64:=List.getD c4 2 0
 let z4:UInt64:=List.getD c4 3 0
 let z5:(PUnit×PUnit×PUnit×PUnit×PUnit×PUnit×Int×Int×PUnit×PUnit)×List UInt64×(UInt64×UInt64×UInt64×UInt64×Int×UInt64×UInt64×UInt64×UInt64×UInt64×UInt64×PUnit)×List UInt64×List UInt64×List UInt64×List UInt64×List UInt64×PUnit:=(((),(),(),(),(),(),a17,(0:Int),(),()),c0,(c1_0,c1_1,c1_2,c1_3,c1_4,c1_5,c1_6,c1_7,c1_8,c1_9,c1_10,()),c2,c3,c4,c5,[z1,z2,z3,z4],())
 let z6:(PUnit×PUnit×PUnit×PUnit×PUnit×PUnit×Int×Int×PUnit)×List UInt64×(UInt64×UInt64×UInt64×UInt64×Int×UInt64×UInt64×UInt64×UInt64×UInt64×UInt64×PUnit)×List UInt64×List UInt64×List UInt64×List UInt64×PUnit:=g2_2 z5
 let z7:=z6.fst.snd.snd.snd.snd.snd.snd
 let z8:=z7.snd.fst
 let z9:=z7.fst
 let z10:=z6.snd
 let z11:=z10.fst
 let z12:=z10.snd
 let z13:=z12.snd
 let z14:=z13.snd
 let z15:=z14.fst
 let z16:Int:=z9-z8
 let z17:=z12.fst
 let z18:=z17.snd
 let z19:=z18.snd
 let z20:=z19.snd
 let z21:=z20.snd
 let z22:=z21.snd
 let z23:=z22.snd
 let z24:=z23.snd
 let z25:=z24.snd
 let z26:=z25.snd
 let z27:=z14.snd
 let z28:(PUnit×PUnit×PUnit×PUnit×PUnit×PUnit×Int×PUnit×Int×Int×PUnit)×List UInt64×(UInt64×UInt64×UInt64×UInt64×Int×UInt64×UInt64×UInt64×UInt64×UInt64×UInt64×PUnit)×List UInt64×List UInt64×List UInt64×List UInt64×List UInt64×PUnit:=(((),(),(),(),(),(),z8,(),z16-(1:Int),(0:Int),()),z11,(z17.fst,z18.fst,z19.fst,z20.fst,z21.fst,z22.fst,z23.fst,z24.fst,z25.fst,z26.fst,z26.snd.fst,()),z13.fst,z15,z27.fst,z27.snd.fst,[List.getD z15 0 0,List.getD z15 1 0,List.getD z15 2 0,List.getD z15 3 0],())
 let z29:(PUnit×PUnit×PUnit×PUnit×PUnit×PUnit×Int×PUnit×PUnit)×List UInt64×(UInt64×UInt64×UInt64×UInt64×Int×UInt64×UInt64×UInt64×UInt64×UInt64×UInt64×PUnit)×List UInt64×List UInt64×List UInt64×List UInt64×List UInt64×PUnit:=g4_4 z28
 let z30:=z29.snd
 let z31:=z30.snd
 let z32:=z31.snd
 let z33:=z32.snd
 let z34:=z33.snd
 let z35:=z34.snd
 let z36:=z35.snd.fst
 let z37:Bool:=decide (4<=List.length z36)
 let z38:=z31.fst
 let z39:=z38.fst
 let z40:=z38.snd
 let z41:=z40.fst
 let z42:=z40.snd
 let z43:=z42.fst
 let z44:=z42.snd
 let z45:=z44.fst
 let z46:ag:= {w0:=z39,w1:=z41,w2:=z43,w3:=z45}
 let z47:=z44.snd
 let z48:=z47.fst
 let z49:=z47.snd
 let z50:=z49.fst
 let z51:=z49.snd
 let z52:=z51.fst
 let z53:=z51.snd
 let z54:=z53.fst
 let z55:=z53.snd
 let z56:=z55.fst
 let z57:=z55.snd
 let z58:=z57.fst
 let z59:=z57.snd.fst
 let z60:ag×Int×UInt64×UInt64×ag:=(z46,z48,z50,z52,{w0:=z54,w1:=z56,w2:=z58,w3:=z59})
 let z61:ag:= {w0:=List.getD z36 0 0,w1:=List.getD z36 1 0,w2:=List.getD z36 2 0,w3:=List.getD z36 3 0}
 let z62:ag×PUnit:=(z61,())
 let z63:=z33.fst
 let z64:=z34.fst
 let z65:Nat:=List.length z64
 let z66:Nat:=ag.nat z46
 let z67:ag:=dI z66 z61 z61
 let z68:List UInt64:=List.set (List.set (List.set (List.set z63 0 z67.w0) 1 z67.w1) 2 z67.w2) 3 z67.w3
 let z69:ag:= {w0:=List.getD z64 0 0,w1:=List.getD z64 1 0,w2:=List.getD z64 2 0,w3:=List.getD z64 3 0}
 let z70:ag:= {w0:=List.getD z68 0 0,w1:=List.getD z68 1 0,w2:=List.getD z68 2 0,w3:=List.getD z68 3 0}
 let z71:=z35.fst
 let z72:Nat:=List.length z71
 let z73:ag:= {w0:=List.getD z71 0 0,w1:=List.getD z71 1 0,w2:=List.getD z71 2 0,w3:=List.getD z71 3 0}
 let z74:ag:=dI z66 z69 z70
 let z75:ag:=dI z66 z73 z61
 (gd [z0,decide (4<=List.length c2)] (.br (!(z1==List.getD c2 0 0&&(z2==List.getD c2 1 0&&(z3==List.getD c2 2 0&&(z4==List.getD c2 3 0&&true)))))
 (gd [z0,ok2 z5] (.br (z8==z9)
  (gd [decide (4<=List.length z11)] (.ok (.inr ⟨(.ret,ko),(((),((22:Int),())),(List.set (List.set (List.set (List.set z11 0 (0:UInt64)) 1 (0:UInt64)) 2 (0:UInt64)) 3 (0:UInt64),()))⟩)))
  (gd [decide (4<=List.length z15),inR z16,inR (z16-(1:Int)),ok4 z28,z37,z37,fE ((z60,z61,z62),()),decide ((4/1:Nat)+0<=List.length z63),decide (4<=z65),decide (4<=List.length z68),fE ((z60,z69,z70,()),()),decide ((4/1:Nat)+0<=z65),decide (4<=z72),z37,fE ((z60,z73,z62),()),decide ((4/1:Nat)+0<=z72)] (.ok (.inl (((),((),((),((),((),((),(z29.fst.snd.snd.snd.snd.snd.snd.fst,()))))))),(z30.fst,((z39,(z41,(z43,(z45,(z48,(z50,(z52,(z54,(z56,(z58,(z59,()))))))))))),(z32.fst,(z68,(List.set (List.set (List.set (List.set z64 0 z74.w0) 1 z74.w1) 2 z74.w2) 3 z74.w3,(List.set (List.set (List.set (List.set z71 0 z75.w0) 1 z75.w1) 2 z75.w2) 3 z75.w3,()))))))))))))
 (.ok (.inr ⟨(.exit 0,nT),(((),((),((),()))),(c0,((c1_0,(c1_1,(c1_2,(c1_3,(c1_4,(c1_5,(c1_6,(c1_7,(c1_8,(c1_9,(c1_10,()))))))))))),(c5,()))))⟩))))
def uf (ok2:bD->Bool) (g2_2:bD->dU) (ok4:bC->Bool) (g4_4:bC->dT) (s:bh):OT (Sum bh aI):=S4 ok2 g2_2 ok4 g4_4 (s.1.2.2.2.2.2.2.1) (s.2.1) (s.2.2.1.1) (s.2.2.1.2.1) (s.2.2.1.2.2.1) (s.2.2.1.2.2.2.1) (s.2.2.1.2.2.2.2.1) (s.2.2.1.2.2.2.2.2.1) (s.2.2.1.2.2.2.2.2.2.1) (s.2.2.1.2.2.2.2.2.2.2.1) (s.2.2.1.2.2.2.2.2.2.2.2.1) (s.2.2.1.2.2.2.2.2.2.2.2.2.1) (s.2.2.1.2.2.2.2.2.2.2.2.2.2.1) (s.2.2.2.1) (s.2.2.2.2.1) (s.2.2.2.2.2.1) (s.2.2.2.2.2.2.1)
theorem azr (ok2:bD->Bool) (g2_2:bD->dU) (ok4:bC->Bool) (g4_4:bC->dT) (s:bh) (Q:Sum bh aI->Prop):wps te sV (be 4 (cE zr 4 ok4 (GM g4_4)) (be 2 (cE zt 2 ok2 (GN g2_2)) ax)) 1000 (bg (ak Tryz.f97) 0) (zu.inj s) (cz zu ai7 (Q:Sum zu.T aI->Prop))=(uf ok2 g2_2 ok4 g4_4 s).wpR Q:=by kernel_rfl
def GO (g0_r:bh->jb) (c0_r:bh->Bool) (g0_0:bh->jc) (s:bh):OT aI:=(.br (c0_r s) (.ok ⟨(.ret,ko),g0_r s⟩) (.ok ⟨(.exit 0,nT),g0_0 s⟩))
def ee:av:=⟨[.val true .elem,.val false .int],[],false⟩
def XV:SV->Option av:=λ_=>some ee
def C7 (ok2:bD->Bool) (g2_2:bD->dU) (ok4:bC->Bool) (g4_4:bC->dT) (ok0:bh->Bool) (g0_r:bh->jb) (c0_r:bh->Bool) (g0_0:bh->jc) (a0:Int) (a1:ag):OT jV.Y:=
 let z0:ag×Int×UInt64×UInt64×ag:=aS (Int.toNat a0)
 let z1:=z0.fst
 let z2:ag:=ofN (ag.nat a1%ag.nat z1)
 let z3:ag:= {w0:=1,w1:=0,w2:=0,w3:=0}
 let z4:=(ef z1 z3).fst
 let z5:=z0.snd
 let z6:=z5.fst
 let z7:ag:= {w0:=5,w1:=0,w2:=0,w3:=0}
 let z8:ag:=dK z4 (Int.toNat z6)
 let z9:ag×PUnit:=(z8,())
 let z10:ag:=dj (oE z8 z3).fst
 let z11:=z5.snd
 let z12:=z11.snd
 let z13:=z12.snd
 let z14:Nat:=pS a0
 let z15:ag:=gG z14 z7 z8
 let z16:ag:=gG z14 z2 z8
 let z17:ag:=gG z14 z2 z10
 let z18:(PUnit×PUnit×PUnit×PUnit×PUnit×PUnit×Int×PUnit)×List UInt64×(UInt64×UInt64×UInt64×UInt64×Int×UInt64×UInt64×UInt64×UInt64×UInt64×UInt64×PUnit)×List UInt64×List UInt64×List UInt64×List UInt64×PUnit:=(((),(),(),(),(),(),z6,()),[(0:UInt64),(0:UInt64),(0:UInt64),(0:UInt64)],(z1.w0,z1.w1,z1.w2,z1.w3,z6,z11.fst,z12.fst,z13.w0,z13.w1,z13.w2,z13.w3,()),[(1:UInt64),(0:UInt64),(0:UInt64),(0:UInt64)],[z15.w0,z15.w1,z15.w2,z15.w3],[z16.w0,z16.w1,z16.w2,z16.w3],[z17.w0,z17.w1,z17.w2,z17.w3],())
 let z19:(PUnit×Int×PUnit)×List UInt64×PUnit:=g0_r z18
 let z20:=z19.snd.fst
 let z21:=(g0_0 z18).snd
 let z22:=z21.snd
 let z23:=z22.snd.fst
 let z24:Nat:=List.length z23
 let z25:UInt64:=List.getD z23 0 0
 let z26:Bool:=decide (4<=z24)
 let z27:=z22.fst
 let z28:=z27.snd
 let z29:=z28.snd
 let z30:=z29.snd
 let z31:ag:= {w0:=z27.fst,w1:=z28.fst,w2:=z29.fst,w3:=z30.fst}
 let z32:=z30.snd
 let z33:=z32.snd
 let z34:=z33.snd
 let z35:=z34.snd
 let z36:=z35.snd
 let z37:=z36.snd
 let z38:ag:= {w0:=z25,w1:=List.getD z23 1 0,w2:=List.getD z23 2 0,w3:=List.getD z23 3 0}
 let z39:ag:=Pq (ag.nat z31) z38
 let z40:List UInt64:=List.set (List.set (List.set (List.set z23 0 z39.w0) 1 z39.w1) 2 z39.w2) 3 z39.w3
 let z41:=z21.fst
 let z42:Nat:=List.length z41
 let z43:List UInt64:=lay z41 z40 4 (0:UInt64)
 let z44:List UInt64:=lay z41 z23 4 (0:UInt64)
 (.br (au a0)
 (gd [fU ((z0,a1,()),())] (.br (z2.w0==(0:UInt64)&&(z2.w1==(0:UInt64)&&(z2.w2==(0:UInt64)&&(z2.w3==(0:UInt64)&&true))))
  (.ok ⟨ee,((z2,((0:Int),())),())⟩)
  (gd [px ((z4,z6,()),()),rY ((a0,z7,z9),()),rY ((a0,z2,z9),()),rY ((a0,z2,z10,()),()),ok0 z18] (.br (c0_r z18)
   (gd [decide (4<=List.length z20)] (.ok ⟨ee,(({w0:=List.getD z20 0 0,w1:=List.getD z20 1 0,w2:=List.getD z20 2 0,w3:=List.getD z20 3 0},(z19.fst.snd.fst,())),())⟩))
   (gd [decide (0<z24)] (.br (z25&&&(1:UInt64)==(1:UInt64))
    (gd [z26,zF (((z31,z32.fst,z33.fst,z34.fst,{w0:=z35.fst,w1:=z36.fst,w2:=z37.fst,w3:=z37.snd.fst}),z38,()),()),decide ((4/1:Nat)+0<=z24),decide (4<=List.length z40),decide ((4/1:Nat)+0<=z42),decide (4<=List.length z43)] (.ok ⟨ee,(({w0:=List.getD z43 0 0,w1:=List.getD z43 1 0,w2:=List.getD z43 2 0,w3:=List.getD z43 3 0},((0:Int),())),())⟩))
    (gd [z26,decide ((4/1:Nat)+0<=z42),decide (4<=List.length z44)] (.ok ⟨ee,(({w0:=List.getD z44 0 0,w1:=List.getD z44 1 0,w2:=List.getD z44 2 0,w3:=List.getD z44 3 0},((0:Int),())),())⟩))))))))
 (.ok ⟨ee,(({w0:=0,w1:=0,w2:=0,w3:=0},((20:Int),())),())⟩))
theorem aEJ (ok2:bD->Bool) (g2_2:bD->dU) (ok4:bC->Bool) (g4_4:bC->dT) (ok0:bh->Bool) (g0_r:bh->jb) (c0_r:bh->Bool) (g0_0:bh->jc) (x:PO) (Q:jV.Y->Prop):wpf te sV (be 0 (cE zu 0 ok0 (GO g0_r c0_r g0_0)) ax) 1000 Tryz.f97 (jV.inp.inj x).tm (jV.inp.inj x).hp (fnK jV XV Q) (λ_ _=>False)=(C7 ok2 g2_2 ok4 g4_4 ok0 g0_r c0_r g0_0 (x.1.1) (x.1.2.1)).wpR Q:=by kernel_rfl
theorem amv (ok2:bD->Bool) (g2_2:bD->dU) (ok4:bC->Bool) (g4_4:bC->dT) (ok0:bh->Bool) (g0_r:bh->jb) (c0_r:bh->Bool) (g0_0:bh->jc) (h2:∀ s:bD,ok2 s=true->∃ m e,aA (zy) m s=some e/\(GN g2_2 s).run=some e) (h4:∀ s:bC,ok4 s=true->∃ m e,aA (zx) m s=some e/\(GM g4_4 s).run=some e) (h0:∀ s:bh,ok0 s=true->∃ m e,aA (uf ok2 g2_2 ok4 g4_4) m s=some e/\(GO g0_r c0_r g0_0 s).run=some e) (pre:PO->Bool) (F:PO->OT jV.Y) (hF:∀ (x:PO) oy,pre x=true->(F x).run=some oy->(C7 ok2 g2_2 ok4 g4_4 ok0 g0_r c0_r g0_0 (x.1.1) (x.1.2.1)).run=some oy):aa Tryz.prog 97 (jV.aD pre F):=
 aB al kr pX (f:=97) (fn:=Tryz.f97) (c:=ak Tryz.f97) (by kernel_rfl) (by kernel_rfl) (by kernel_rfl) (S:=jV) (k:=0) (by kernel_rfl) (λR hR=>(aG (c:=(ak Tryz.f97)) (by kernel_rfl) (id:=0) (by kernel_rfl) (ba al kr pX (sh:=zu) hR (xs:=ai7) (aF (by kernel_rfl) (by kernel_rfl) hR) aN (aG (c:=(bg (ak Tryz.f97) 0)) (by kernel_rfl) (id:=4) (by kernel_rfl) (ba al kr pX (sh:=zr) hR (xs:=ai5) (aF (by kernel_rfl) (by kernel_rfl) hR) aN ae (n:=1000) (T:=zx) (λs Q=>azp s Q) (ok:=ok4) (f:=GM g4_4) h4) (aG (c:=(bg (ak Tryz.f97) 0)) (by kernel_rfl) (id:=2) (by kernel_rfl) (ba al kr pX (sh:=zt) hR (xs:=ai6) (aF (by kernel_rfl) (by kernel_rfl) hR) aN ae (n:=1000) (T:=zy) (λs Q=>azq s Q) (ok:=ok2) (f:=GN g2_2) h2) ae)) (n:=1000) (T:=uf ok2 g2_2 ok4 g4_4) (λs Q=>azr ok2 g2_2 ok4 g4_4 s Q) (ok:=ok0) (f:=GO g0_r c0_r g0_0) h0) ae)) (n:=1000) (sel:=XV) (λv o h=>by cases h;rfl) (pre:=pre) (F:=F) (T:=λx=>C7 ok2 g2_2 ok4 g4_4 ok0 g0_r c0_r g0_0 (x.1.1) (x.1.2.1)) (λx Q=>aEJ ok2 g2_2 ok4 g4_4 ok0 g0_r c0_r g0_0 x Q) hF
abbrev C11:Type:=UInt64×UInt64×UInt64×UInt64×Int×UInt64×UInt64×UInt64×UInt64×UInt64×UInt64×Unit
def oC (c:C11):Nx:=(⟨c.1,c.2.1,c.2.2.1,c.2.2.2.1⟩,c.2.2.2.2.1,c.2.2.2.2.2.1,c.2.2.2.2.2.2.1,⟨c.2.2.2.2.2.2.2.1,c.2.2.2.2.2.2.2.2.1,c.2.2.2.2.2.2.2.2.2.1,c.2.2.2.2.2.2.2.2.2.2.1⟩)
def jG (s:bD):Bool:=jQ (oC s.2.2.1)&&decide ((0<=s.1.2.2.2.2.2.2.1/\s.1.2.2.2.2.2.2.1<=1000)/\s.1.2.2.2.2.2.2.2.1=0/\s.2.2.2.1= [1,0,0,0]/\s.2.2.2.2.2.2.2.1.length=4)
def pq (s:bD):dU:=(((),(),(),(),(),(),s.1.2.2.2.2.2.2.1,(kF (oC s.2.2.1).1.nat s.1.2.2.2.2.2.2.1.toNat (elemOf s.2.2.2.2.2.2.2.1) 0:Int),()),(s.2.1,s.2.2.1,s.2.2.2.1,s.2.2.2.2.1,s.2.2.2.2.2.1,s.2.2.2.2.2.2.1,()))
def abl (c0:List UInt64) (C:C11) (z t x:List UInt64) (m k:Int) (u:ag):bD:=(((),(),(),(),(),(),m,k,(),()),(c0,C,lst eZ,z,t,x,lst u,()))
theorem ahQ (c0:List UInt64) (C:C11) (z t x:List UInt64) (m:Nat) (hC:jQ (oC C)=true) (hm:m<=1000):∀ (n k:Nat) (u:ag),k+n=m->
 ∃ j,aA zy j (abl c0 C z t x (m:Int) (k:Int) u)=some ⟨(.exit 2,nS),(((),(),(),(),(),(),(m:Int),(kF (oC C).1.nat n u k:Int),()),(c0,C,lst eZ,z,t,x,()))⟩
 |0,k,u,h=>by
  refine ⟨1,bc ?_⟩
  refine (aj rfl).trans ?_
  rcases (Bool.eq_false_or_eq_true (eqE u eZ)).symm with hq|hq
  ·exact (OT.az (b:= !eqE u eZ) (by rw [hq];rfl)).trans (OT.aq (decide_eq_false (by dsimp only [abl];omega)))
  ·exact OT.aq (b:= !eqE u eZ) (by rw [hq];rfl)
 |n+1,k,u,h=>by
  unfold kF
  rcases (Bool.eq_false_or_eq_true (eqE u eZ)).symm with hq|hq
  ·rw [hq]
   obtain ⟨j,hj⟩:=ahQ c0 C z t x m hC hm n (k+1) (dI (oC C).1.nat u u) (by omega)
   refine ⟨j+1,aJ ?_ hj⟩
   refine (aj rfl).trans ((OT.az (b:= !eqE u eZ) (by rw [hq];rfl)).trans ((OT.az (decide_eq_true (by dsimp only [abl];omega))).trans ((aj ?_).trans rfl)))
   simp only [List.all_cons,List.all_nil,Bool.and_true,Bool.and_eq_true]
   exact ⟨rfl,rfl,hC,rfl,rfl,aL (by dsimp only [abl];omega)⟩
  ·rw [hq]
   refine ⟨1,bc ?_⟩
   exact (aj rfl).trans (OT.aq (b:= !eqE u eZ) (by rw [hq];rfl))
theorem azu:∀ s:bD,jG s=true->∃ m e,aA zy m s=some e/\(GN pq s).run=some e:=by
 rintro ⟨⟨⟨⟩,⟨⟩,⟨⟩,⟨⟩,⟨⟩,⟨⟩,m,k,⟨⟩,⟨⟩⟩,⟨c0,C,one,z,t,x,u,⟨⟩⟩⟩ h
 simp only [jG,Bool.and_eq_true,decide_eq_true_eq] at h
 obtain ⟨hC,⟨h0,h1⟩,rfl,rfl,hu⟩:=h
 obtain ⟨v,rfl⟩:∃ a,u=lst a:=⟨elemOf u,(aP hu).symm⟩
 obtain ⟨n,rfl⟩:∃ n:Nat,m=(n:Int):=⟨m.toNat,by omega⟩
 obtain ⟨j,hj⟩:=ahQ c0 C z t x n hC (by omega) n 0 v (by omega)
 exact ⟨j,_,hj,rfl⟩
def jF (s:bC):Bool:=jQ (oC s.2.2.1)&&decide ((0<=s.1.2.2.2.2.2.2.2.2.1/\s.1.2.2.2.2.2.2.2.2.1<=1000)/\s.1.2.2.2.2.2.2.2.2.2.1=0/\s.2.2.2.2.2.2.2.1.length=4)
def po (s:bC):dT:=(((),(),(),(),(),(),s.1.2.2.2.2.2.2.1,(),()),(s.2.1,s.2.2.1,s.2.2.2.1,s.2.2.2.2.1,s.2.2.2.2.2.1,s.2.2.2.2.2.2.1,lst (sqN (oC s.2.2.1).1.nat (elemOf s.2.2.2.2.2.2.2.1) s.1.2.2.2.2.2.2.2.2.1.toNat),()))
theorem azt:∀ s:bC,jF s=true->∃ m e,aA zx m s=some e/\(GM po s).run=some e:=by
 rintro ⟨⟨⟨⟩,⟨⟩,⟨⟩,⟨⟩,⟨⟩,⟨⟩,k,⟨⟩,n,i,⟨⟩⟩,⟨c0,C,one,z,t,x,u,⟨⟩⟩⟩ h
 simp only [jF,Bool.and_eq_true,decide_eq_true_eq] at h
 obtain ⟨hC,⟨h0,h1⟩,rfl,hu⟩:=h
 obtain ⟨v,rfl⟩:∃ a,u=lst a:=⟨elemOf u,(aP hu).symm⟩
 obtain ⟨d,rfl⟩:∃ d:Nat,n=(d:Int):=⟨n.toNat,by omega⟩
 have:=(aR (T:=zx) (λi u=>((((),(),(),(),(),(),k,(),(d:Int),(i:Int),()),(c0,C,one,z,t,x,lst u,())):bC)) (λ_ e=>dI (oC C).1.nat e e)
  (λu=>(⟨(.exit 4,ue),(((),(),(),(),(),(),k,(),()),(c0,C,one,z,t,x,lst u,()))⟩:aI)) d v (λ_ _=>True) trivial (λi u hi _=>⟨?_,trivial⟩) (λu _=> ?_)).1
 ·obtain ⟨m,hm⟩:=this
  exact ⟨m,_,hm,rfl⟩
 ·refine (OT.az (decide_eq_true (by dsimp only;omega))).trans ((aj ?_).trans rfl)
  simp only [List.all_cons,List.all_nil,Bool.and_true,Bool.and_eq_true]
  exact ⟨rfl,rfl,hC,rfl,aL (by omega)⟩
 ·exact OT.aq (decide_eq_false (by dsimp only;omega))
def aDz (c0:ag) (C:C11) (m:Int) (w:Ton):bh:=(((),(),(),(),(),(),m,()),(lst c0,C,lst eZ,lst w.2.2,lst w.2.1,lst w.1,()))
theorem aDy {ok2:bD->Bool} {g2:bD->dU} {ok4:bC->Bool} {g4:bC->dT} {c0:ag} {C:C11} {m k:Nat} {w:Ton} {b:ag} (hC:jQ (oC C)=true) (hm:m<=1000) (hq:eqE w.2.1 eZ=false)
 (h2:ok2 (abl (lst c0) C (lst w.2.2) (lst w.2.1) (lst w.1) (m:Int) 0 w.2.1)=true)
 (e2:g2 (abl (lst c0) C (lst w.2.2) (lst w.2.1) (lst w.1) (m:Int) 0 w.2.1)=(((),(),(),(),(),(),(m:Int),(k:Int),()),(lst c0,C,lst eZ,lst w.2.2,lst w.2.1,lst w.1,()))) (hk:k<=m)
 (h4:k<m->ok4 (((),(),(),(),(),(),(k:Int),(),(m:Int)-(k:Int)-1,0,()),(lst c0,C,lst eZ,lst w.2.2,lst w.2.1,lst w.1,lst w.2.2,()))=true)
 (e4:g4 (((),(),(),(),(),(),(k:Int),(),(m:Int)-(k:Int)-1,0,()),(lst c0,C,lst eZ,lst w.2.2,lst w.2.1,lst w.1,lst w.2.2,()))=(((),(),(),(),(),(),(k:Int),(),()),(lst c0,C,lst eZ,lst w.2.2,lst w.2.1,lst w.1,lst b,()))):
 (uf ok2 g2 ok4 g4 (aDz c0 C (m:Int) w)).run=cond (Nat.beq k m) (some (.inr ⟨(.ret,ko),(((),(22:Int),()),(lst ⟨0,0,0,0⟩,()))⟩))
  (some (.inl (aDz c0 C (k:Int) (dI (oC C).1.nat w.1 b,dI (oC C).1.nat w.2.1 (dI (oC C).1.nat b b),dI (oC C).1.nat b b)))):=by
 obtain ⟨x,t,z⟩:=w
 unfold abl at h2 e2
 have hb:∀ e:ag,[List.getD (lst e) 0 0,List.getD (lst e) 1 0,List.getD (lst e) 2 0,List.getD (lst e) 3 0]=lst e:=λ_=>rfl
 have hpre:∀ a c:ag,fE ((oC C,a,c,()),())=true:=λ_ _=>hC
 have e2':g2 (((),(),(),(),(),(),(m:Int),0,(),()),(lst c0,(C.1,C.2.1,C.2.2.1,C.2.2.2.1,C.2.2.2.2.1,C.2.2.2.2.2.1,C.2.2.2.2.2.2.1,C.2.2.2.2.2.2.2.1,C.2.2.2.2.2.2.2.2.1,C.2.2.2.2.2.2.2.2.2.1,C.2.2.2.2.2.2.2.2.2.2.1,()),lst eZ,lst z,lst t,lst x,lst t,()))=(((),(),(),(),(),(),(m:Int),(k:Int),()),(lst c0,C,lst eZ,lst z,lst t,lst x,())):=e2
 have e4':g4 (((),(),(),(),(),(),(k:Int),(),(m:Int)-(k:Int)-1,0,()),(lst c0,(C.1,C.2.1,C.2.2.1,C.2.2.2.1,C.2.2.2.2.1,C.2.2.2.2.2.1,C.2.2.2.2.2.2.1,C.2.2.2.2.2.2.2.1,C.2.2.2.2.2.2.2.2.1,C.2.2.2.2.2.2.2.2.2.1,C.2.2.2.2.2.2.2.2.2.2.1,()),lst eZ,lst z,lst t,lst x,lst z,()))=(((),(),(),(),(),(),(k:Int),(),()),(lst c0,C,lst eZ,lst z,lst t,lst x,lst b,())):=e4
 show (S4 ok2 g2 ok4 g4 (m:Int) (lst c0) C.1 C.2.1 C.2.2.1 C.2.2.2.1 C.2.2.2.2.1 C.2.2.2.2.2.1 C.2.2.2.2.2.2.1 C.2.2.2.2.2.2.2.1 C.2.2.2.2.2.2.2.2.1 C.2.2.2.2.2.2.2.2.2.1 C.2.2.2.2.2.2.2.2.2.2.1 (lst eZ) (lst z) (lst t) (lst x)).run=_
 unfold S4
 simp only [hb,e2',e4']
 refine (aj rfl).trans ((OT.az (b:= !eqE t eZ) (by rw [hq];rfl)).trans ((aj ?_).trans ?_))
 ·simp only [List.all_cons,List.all_nil,Bool.and_true,Bool.and_eq_true]
  exact ⟨rfl,h2⟩
 ·by_cases h:k=m
  ·subst h
   rw [Nat.beq_refl]
   refine (OT.az (beq_self_eq_true _)).trans ((aj rfl).trans rfl)
  ·have hn:Nat.beq k m=false:=by
    cases hb:Nat.beq k m
    ·rfl
    ·exact absurd (Nat.eq_of_beq_eq_true hb) h
   rw [hn]
   refine (OT.aq ?_).trans ((aj ?_).trans rfl)
   ·exact beq_false_of_ne (λe=>h (by omega))
   ·simp only [List.all_cons,List.all_nil,Bool.and_true,Bool.and_eq_true]
    exact ⟨rfl,aL (by omega),aL (by omega),h4 (by omega),rfl,rfl,hC,rfl,rfl,rfl,hC,rfl,rfl,rfl,hC,rfl⟩
def aGu (c0:ag) (C:C11):Option ag->aI
 |some x=>⟨(.exit 0,nT),(((),(),(),()),(lst c0,C,lst x,()))⟩
 |none=>⟨(.ret,ko),(((),(22:Int),()),(lst ⟨0,0,0,0⟩,()))⟩
theorem ahR (c0:ag) (C:C11) (hC:jQ (oC C)=true):∀ (f m:Nat) (w:Ton),m<f->m<=1000->
 ∃ j,aA (uf jG pq jF po) j (aDz c0 C (m:Int) w)=some (aGu c0 C (tsF (oC C).1.nat f m w))
 |0,m,w,h,_=>absurd h (Nat.not_lt_zero _)
 |f+1,m,w,hf,hm=>by
  unfold tsF
  rcases (Bool.eq_false_or_eq_true (eqE w.2.1 eZ)).symm with hq|hq
  ·rw [hq]
   simp only [cond_false]
   have hk:kF (oC C).1.nat m w.2.1 0<=m:=by
    have key:∀ (n:Nat) (s:ag) (k:Nat),kF (oC C).1.nat n s k<=k+n:=by
     intro n
     induction n with
     |zero=>intro s k;exact Nat.le_refl _
     |succ n ih=>
      intro s k
      unfold kF
      cases eqE s eZ
      ·have:=ih (dI (oC C).1.nat s s) (k+1)
       simp only [cond_false]
       omega
      ·simp only [cond_true]
       omega
    have:=key m w.2.1 0
    omega
   have hst:=aDy (ok2:=jG) (g2:=pq) (ok4:=jF) (g4:=po) (c0:=c0) (C:=C) (m:=m) (k:=kF (oC C).1.nat m w.2.1 0) (w:=w) (b:=tsB (oC C).1.nat m (kF (oC C).1.nat m w.2.1 0) w) hC hm hq
    (by
     refine (Bool.and_eq_true _ _).mpr ⟨hC,decide_eq_true ⟨⟨?_,?_⟩,rfl,rfl,rfl⟩⟩
     ·show (0:Int)<=(m:Int);omega
     ·show (m:Int)<=1000;omega) rfl hk
    (λhlt=>by
     refine (Bool.and_eq_true _ _).mpr ⟨hC,decide_eq_true ⟨⟨?_,?_⟩,rfl,rfl⟩⟩
     ·show (0:Int)<=(m:Int)-(kF (oC C).1.nat m w.2.1 0:Int)-1;omega
     ·show (m:Int)-(kF (oC C).1.nat m w.2.1 0:Int)-1<=1000;omega)
    (by
     have e:((m:Int)-(kF (oC C).1.nat m w.2.1 0:Int)-1).toNat=m-kF (oC C).1.nat m w.2.1 0-1:=by omega
     show (((),(),(),(),(),(),(kF (oC C).1.nat m w.2.1 0:Int),(),()),(lst c0,C,lst eZ,lst w.2.2,lst w.2.1,lst w.1,lst (sqN (oC C).1.nat w.2.2 ((m:Int)-(kF (oC C).1.nat m w.2.1 0:Int)-1).toNat),()))=_
     rw [e]
     rfl)
   cases hb:Nat.beq (kF (oC C).1.nat m w.2.1 0) m
   ·rw [hb] at hst
    have hne:=wD hb
    obtain ⟨j,hj⟩:=ahR c0 C hC f (kF (oC C).1.nat m w.2.1 0) (tsW (oC C).1.nat m (kF (oC C).1.nat m w.2.1 0) w) (by omega) (by omega)
    exact ⟨j+1,aJ hst hj⟩
   ·rw [hb] at hst
    exact ⟨1,bc hst⟩
  ·rw [hq]
   simp only [cond_true]
   refine ⟨1,bc ?_⟩
   exact (aj rfl).trans (OT.aq (b:= !eqE w.2.1 eZ) (by rw [hq];rfl))
def rH (s:bh):Option ag:=tsF (oC s.2.2.1).1.nat (s.1.2.2.2.2.2.2.1.toNat+1) s.1.2.2.2.2.2.2.1.toNat (elemOf s.2.2.2.2.2.2.1,elemOf s.2.2.2.2.2.1,elemOf s.2.2.2.2.1)
def nR (s:bh):Bool:=jQ (oC s.2.2.1)&&decide ((0<=s.1.2.2.2.2.2.2.1/\s.1.2.2.2.2.2.2.1<=1000)/\s.2.1.length=4/\s.2.2.2.1= [1,0,0,0]/\s.2.2.2.2.1.length=4/\s.2.2.2.2.2.1.length=4/\s.2.2.2.2.2.2.1.length=4)
def GP (s:bh):Bool:=(rH s).isNone
def zw (_:bh):jb:=(((),(22:Int),()),(lst ⟨0,0,0,0⟩,()))
def GL (s:bh):jc:=(((),(),(),()),(s.2.1,s.2.2.1,lst ((rH s).getD ⟨0,0,0,0⟩),()))
theorem azv:∀ s:bh,nR s=true->∃ m e,aA (uf jG pq jF po) m s=some e/\(GO zw GP GL s).run=some e:=by
 rintro ⟨⟨⟨⟩,⟨⟩,⟨⟩,⟨⟩,⟨⟩,⟨⟩,m,⟨⟩⟩,⟨c0,C,one,z,t,x,⟨⟩⟩⟩ h
 simp only [nR,Bool.and_eq_true,decide_eq_true_eq] at h
 obtain ⟨hC,⟨h0,h1⟩,hc,rfl,hz,ht,hx⟩:=h
 obtain ⟨c,rfl⟩:∃ a,c0=lst a:=⟨elemOf c0,(aP hc).symm⟩
 obtain ⟨Z,rfl⟩:∃ a,z=lst a:=⟨elemOf z,(aP hz).symm⟩
 obtain ⟨T,rfl⟩:∃ a,t=lst a:=⟨elemOf t,(aP ht).symm⟩
 obtain ⟨X,rfl⟩:∃ a,x=lst a:=⟨elemOf x,(aP hx).symm⟩
 obtain ⟨n,rfl⟩:∃ n:Nat,m=(n:Int):=⟨m.toNat,by omega⟩
 obtain ⟨j,hj⟩:=ahR c C hC (n+1) n (X,T,Z) (by omega) (by omega)
 refine ⟨j,_,hj,?_⟩
 show (OT.br (tsF (oC C).1.nat (n+1) n (X,T,Z)).isNone (.ok ⟨(.ret,ko),_⟩) (.ok ⟨(.exit 0,nT),(((),(),(),()),(lst c,C,lst ((tsF (oC C).1.nat (n+1) n (X,T,Z)).getD ⟨0,0,0,0⟩),()))⟩):OT aI).run=some (aGu c C (tsF (oC C).1.nat (n+1) n (X,T,Z)))
 cases tsF (oC C).1.nat (n+1) n (X,T,Z)<;>rfl
def XW (_:PO):Bool:=true
def atj (x:PO):OT jV.Y:=.br (au x.1.1) (.br (dl (ofP (pS x.1.1) x.1.2.1)) (.ok ⟨ee,((⟨0,0,0,0⟩,((0:Int),())),())⟩)
 (.br (eqE (gG (pS x.1.1) (ofP (pS x.1.1) x.1.2.1) (dj (ef (aS x.1.1.toNat).1 eZ).1)) eZ) (.ok ⟨ee,((l5 (pS x.1.1) (vZ x.1.1 (ofP (pS x.1.1) x.1.2.1)),((0:Int),())),())⟩) (.ok ⟨ee,((⟨0,0,0,0⟩,((22:Int),())),())⟩)))
 (.ok ⟨ee,((⟨0,0,0,0⟩,((20:Int),())),())⟩)
def aIl (n:Nx):C11:=(n.1.w0,n.1.w1,n.1.w2,n.1.w3,n.2.1,n.2.2.1,n.2.2.2.1,n.2.2.2.2.w0,n.2.2.2.2.w1,n.2.2.2.2.w2,n.2.2.2.2.w3,())
abbrev VM (n:Nx) (z t x:ag):bh:=(((),(),(),(),(),(),n.2.1,()),[0,0,0,0],(n.1.w0,n.1.w1,n.1.w2,n.1.w3,n.2.1,n.2.2.1,n.2.2.2.1,n.2.2.2.2.w0,n.2.2.2.2.w1,n.2.2.2.2.w2,n.2.2.2.2.w3,()),[1,0,0,0],[z.w0,z.w1,z.w2,z.w3],[t.w0,t.w1,t.w2,t.w3],[x.w0,x.w1,x.w2,x.w3],())
theorem amw {ok2:bD->Bool} {g2:bD->dU} {ok4:bC->Bool} {g4:bC->dT} {ok0:bh->Bool} {g0r:bh->jb} {c0:bh->Bool} {g0:bh->jc} {s:Int} {a A z t x X:ag} {c:Bool}
 (hs:au s=true) (k:akb s) (hA:ofN (a.nat%(aS s.toNat).1.nat)=A) (hz:dl A=false) (ez:gG (pS s) ⟨5,0,0,0⟩ (GI s)=z) (et:gG (pS s) A (GI s)=t) (ex:gG (pS s) A (dj (oE (GI s) eZ).1)=x)
 (h0:ok0 (VM (aS s.toNat) z t x)=true) (hc:c0 (VM (aS s.toNat) z t x)=c) (er:g0r (VM (aS s.toNat) z t x)=(((),(22:Int),()),(lst ⟨0,0,0,0⟩,())))
 (e0:g0 (VM (aS s.toNat) z t x)=(((),(),(),()),(lst ⟨0,0,0,0⟩,aIl (aS s.toNat),lst X,()))):
 (C7 ok2 g2 ok4 g4 ok0 g0r c0 g0 s a).run=cond c (some ⟨ee,((⟨0,0,0,0⟩,((22:Int),())),())⟩) (some ⟨ee,((l5 (pS s) X,((0:Int),())),())⟩):=by
 have ez':gG (pS s) ⟨5,0,0,0⟩ (dK (ef (aS s.toNat).1 ⟨1,0,0,0⟩).1 (aS s.toNat).2.1.toNat)=z:=ez
 have et':gG (pS s) A (dK (ef (aS s.toNat).1 ⟨1,0,0,0⟩).1 (aS s.toNat).2.1.toNat)=t:=et
 have ex':gG (pS s) A (dj (oE (dK (ef (aS s.toNat).1 ⟨1,0,0,0⟩).1 (aS s.toNat).2.1.toNat) ⟨1,0,0,0⟩).1)=x:=ex
 have hp1:px (((ef (aS s.toNat).1 ⟨1,0,0,0⟩).1,(aS s.toNat).2.1,()),())=true:=by
  refine decide_eq_true ?_
  show 0<=(aS s.toNat).2.1/\(aS s.toNat).2.1<=1000000
  have h:=avf hs
  omega
 unfold C7
 simp only [hA,ez',et',ex',er,e0,hc]
 refine (OT.az hs).trans ((aj ?_).trans ((OT.aq (b:=dl A) hz).trans ((aj ?_).trans ?_)))
 ·simp only [List.all_cons,List.all_nil,Bool.and_true]
  exact iu hs
 ·simp only [List.all_cons,List.all_nil,Bool.and_true,Bool.and_eq_true]
  exact ⟨hp1,hs,hs,hs,h0⟩
 ·cases c
  ·have hn:jQ (oC (aIl (aS s.toNat)))=true:=iu hs
   refine (OT.aq rfl).trans ((aj rfl).trans ?_)
   have ho:=ayZ X
   unfold l5
   rcases (Bool.eq_false_or_eq_true (X.w0%2==1)).symm with h|h
   ·rw [h] at ho⊢
    exact (OT.aq ho).trans ((aj rfl).trans rfl)
   ·rw [h] at ho⊢
    refine (OT.az ho).trans ((aj ?_).trans rfl)
    simp only [List.all_cons,List.all_nil,Bool.and_true,Bool.and_eq_true]
    exact ⟨rfl,hn,rfl,rfl,rfl,rfl⟩
  ·exact (OT.az rfl).trans ((aj rfl).trans rfl)
theorem azs:aa Tryz.prog 97 (jV.aD XW atj):=amv jG pq jF po nR zw GP GL azu azt azv _ _ λx oy hp ho=>by
 rw [<-ho]
 clear ho
 obtain ⟨⟨s,a,⟨⟩⟩,⟨⟩⟩:=x
 show (C7 jG pq jF po nR zw GP GL s a).run=(OT.br (au s) (.br (dl (ofP (pS s) a)) (.ok ⟨ee,((⟨0,0,0,0⟩,((0:Int),())),())⟩)
  (.br (eqE (gG (pS s) (ofP (pS s) a) (dj (ef (aS s.toNat).1 eZ).1)) eZ) (.ok ⟨ee,((l5 (pS s) (vZ s (ofP (pS s) a)),((0:Int),())),())⟩) (.ok ⟨ee,((⟨0,0,0,0⟩,((22:Int),())),())⟩)))
  (.ok ⟨ee,((⟨0,0,0,0⟩,((20:Int),())),())⟩):OT jV.Y).run
 rcases (Bool.eq_false_or_eq_true (au s)).symm with hs|hs
 ·exact (OT.aq hs).trans (OT.aq (b:=au s) hs).symm
 ·have k:=VL hs
  refine Eq.trans ?_ (OT.az (b:=au s) hs).symm
  have hA:ofN (a.nat%(aS s.toNat).1.nat)=ofP (pS s) a:=rfl
  have hlt:(ofP (pS s) a).nat<pS s:=by
   rw [show (ofP (pS s) a).nat=a.nat%pS s from df k.sm]
   exact Nat.mod_lt _ k.pr.pos
  generalize ofP (pS s) a=A at*
  rcases (Bool.eq_false_or_eq_true (dl A)).symm with hz|hz
  ·refine Eq.trans ?_ (OT.aq (b:=dl A) hz).symm
   have hsame:=aB5 k hlt hz
   have hres:rH (VM (aS s.toNat) (fa s A).2.2 (fa s A).2.1 (fa s A).1)=tsF (pS s) (adS s+1) (adS s) (fa s A):=rfl
   have hbd:=avf hs
   have h0:nR (VM (aS s.toNat) (fa s A).2.2 (fa s A).2.1 (fa s A).1)=true:=by
    refine (Bool.and_eq_true _ _).mpr ⟨iu hs,decide_eq_true ⟨⟨?_,?_⟩,rfl,rfl,rfl,rfl,rfl⟩⟩
    ·show 0<=(aS s.toNat).2.1;omega
    ·show (aS s.toNat).2.1<=1000;omega
   have main:=amw (ok2:=jG) (g2:=pq) (ok4:=jF) (g4:=po) (ok0:=nR) (g0r:=zw) (c0:=GP) (g0:=GL) (X:=(rH (VM (aS s.toNat) (fa s A).2.2 (fa s A).2.1 (fa s A).1)).getD ⟨0,0,0,0⟩) hs k hA hz rfl rfl rfl h0 rfl rfl rfl
   refine main.trans ?_
   show cond (rH (VM (aS s.toNat) (fa s A).2.2 (fa s A).2.1 (fa s A).1)).isNone _ _=_
   rw [hres]
   rcases (Bool.eq_false_or_eq_true (eqE (gG (pS s) A (dj (ef (aS s.toNat).1 eZ).1)) eZ)).symm with h|h
   ·rw [h] at hsame
    refine Eq.trans ?_ (OT.aq h).symm
    cases ht:tsF (pS s) (adS s+1) (adS s) (fa s A) with
    |none=>rfl
    |some x=>rw [ht] at hsame;cases hsame
   ·rw [h] at hsame
    refine Eq.trans ?_ (OT.az h).symm
    cases ht:tsF (pS s) (adS s+1) (adS s) (fa s A) with
    |none=>rw [ht] at hsame;cases hsame
    |some x=>
     rw [ht] at hsame
     have hsame:some (l5 (pS s) x)=some (l5 (pS s) (vZ s A)):=hsame
     rw [<-Option.some.inj hsame]
     rfl
  ·refine Eq.trans ?_ (OT.az (b:=dl A) hz).symm
   rw [zero_eq hz] at hA
   refine (OT.az hs).trans ((aj ?_).trans ?_)
   ·simp only [List.all_cons,List.all_nil,Bool.and_true]
    exact iu hs
   ·rw [hA]
    rfl
def C6:bw:=(jV.aD XW atj)
theorem adr:aa Tryz.prog 97 C6:=azs
theorem adq:aC C6:=ay
def Eh:Env:=aw 97 C6 sV
theorem u6:aK Tryz.prog Eh:=af adr kr
theorem FW:ar Eh:=ab adq F1
theorem Mj:aO Tryz.prog te Eh:=aE follows al u6 FW
def eU:ap:=⟨[.val false .int,.val true .elem],[],true,0,false⟩
abbrev uv:Type:=((Int)×(ag)×Unit)×(Unit)
def n6:Shape:=⟨39,[(3,.ptr 0 0 0),(7,.own 1),(21,.val false .int),(22,.val false .int)],[(0,.row .u64),(1,.row .u8)],0,true⟩
abbrev bU:Type:=((Unit)×(Unit)×(Int)×(Int)×Unit)×((List (UInt64))×(List (UInt8))×Unit)
def mC:Shape:=⟨39,[(7,.own 0)],[(0,.row .u8)],0,true⟩
abbrev iB:Type:=((Unit)×Unit)×((List (UInt8))×Unit)
def P2:SE->Option Shape:=gI [(0,mC)] none
def am6 (a21:Int) (a22:Int) (c0:List (UInt64)) (c1:List (UInt8)):OT (Sum bU aI):=
 let z0:Int:=Int.tdiv a22 (8:Int)
 let z1:Int:=(8:Int)*Int.tmod a22 (8:Int)
 let z2:Nat:=List.length c1
 let z3:Nat:=Int.toNat a22
 (.br (decide (a22<a21))
 (gd [true&&inR z0,inB z0 4,decide (Int.toNat z0+0<List.length c0),inR z1,decide ((0:Int)<=z1),inB a22 z2,decide (z3<z2),inR (a22+(1:Int))] (.ok (.inl (((),((),(a21,(a22+(1:Int),())))),(c0,(List.set c1 z3 (UInt64.toUInt8 (aZ (List.getD c0 (Int.toNat z0+0) (0:UInt64)) z1)),()))))))
 (.ok (.inr ⟨(.exit 0,mC),(((),()),(c1,()))⟩)))
def n7 (s:bU):OT (Sum bU aI):=am6 (s.1.2.2.1) (s.1.2.2.2.1) (s.2.1) (s.2.2.1)
theorem am3 (s:bU) (Q:Sum bU aI->Prop):wps te Eh ax 1000 (bg (ak Tryz.f53) 0) (n6.inj s) (cz n6 P2 (Q:Sum n6.T aI->Prop))=(n7 s).wpR Q:=by kernel_rfl
def uu (g0_0:bU->iB) (s:bU):OT aI:=(.ok ⟨(.exit 0,mC),g0_0 s⟩)
def jf:av:=⟨[.own 0],[(0,.row .u8)],false⟩
def Km:SV->Option av:=λ_=>some jf
def Ko (ok0:bU->Bool) (g0_0:bU->iB) (a0:Int) (a1:ag):OT eU.Y:=
 let z0:ag×Int×UInt64×UInt64×ag:=aS (Int.toNat a0)
 let z1:ag:=ofN (ag.nat a1%ag.nat z0.fst)
 let z2:(PUnit×PUnit×Int×Int×PUnit)×List UInt64×List UInt8×PUnit:=(((),(),(32:Int),(0:Int),()),[z1.w0,z1.w1,z1.w2,z1.w3],List.replicate 32 (0:UInt8),())
 (.br (au a0)
 (gd [fU ((z0,a1,()),()),ok0 z2] (.ok ⟨jf,(((),()),((g0_0 z2).snd.fst,()))⟩))
 (.ok ⟨jf,(((),()),([],()))⟩))
theorem atQ (ok0:bU->Bool) (g0_0:bU->iB) (x:uv) (Q:eU.Y->Prop):wpf te Eh (be 0 (cE n6 0 ok0 (uu g0_0)) ax) 1000 Tryz.f53 (eU.inp.inj x).tm (eU.inp.inj x).hp (fnK eU Km Q) (λ_ _=>False)=(Ko ok0 g0_0 (x.1.1) (x.1.2.1)).wpR Q:=by kernel_rfl
theorem Yn (ok0:bU->Bool) (g0_0:bU->iB) (h0:∀ s:bU,ok0 s=true->∃ m e,aA (n7) m s=some e/\(uu g0_0 s).run=some e) (pre:uv->Bool) (F:uv->OT eU.Y) (hF:∀ (x:uv) oy,pre x=true->(F x).run=some oy->(Ko ok0 g0_0 (x.1.1) (x.1.2.1)).run=some oy):aa Tryz.prog 53 (eU.aD pre F):=
 aB al u6 Mj (f:=53) (fn:=Tryz.f53) (c:=ak Tryz.f53) (by kernel_rfl) (by kernel_rfl) (by kernel_rfl) (S:=eU) (k:=0) (by kernel_rfl) (λR hR=>(aG (c:=(ak Tryz.f53)) (by kernel_rfl) (id:=0) (by kernel_rfl) (ba al u6 Mj (sh:=n6) hR (xs:=P2) (aF (by kernel_rfl) (by kernel_rfl) hR) aN ae (n:=1000) (T:=n7) (λs Q=>am3 s Q) (ok:=ok0) (f:=uu g0_0) h0) ae)) (n:=1000) (sel:=Km) (λv o h=>by cases h;rfl) (pre:=pre) (F:=F) (T:=λx=>Ko ok0 g0_0 (x.1.1) (x.1.2.1)) (λx Q=>atQ ok0 g0_0 x Q) hF
def P8 (e:ag):List UInt8:=upto (λk o=>o.set k (UInt64.toUInt8 (aZ ((lst e).getD (k/8) 0) (8*((k%8:Nat):Int))))) (List.replicate 32 0) 32
def wK (s:bU):Bool:=decide (s.1.2.2.1=32/\s.1.2.2.2.1=0/\s.2.1.length=4/\s.2.2.1=List.replicate 32 0)
def ur (s:bU):iB:=(((),()),(P8 (elemOf s.2.1),()))
theorem am5:∀ s:bU,wK s=true->∃ m e,aA n7 m s=some e/\(uu ur s).run=some e:=by
 rintro ⟨⟨⟨⟩,⟨⟩,n,i,⟨⟩⟩,⟨h,o,⟨⟩⟩⟩ hh
 have h':=of_decide_eq_true hh
 dsimp only at h'
 obtain ⟨rfl,rfl,hl,rfl⟩:=h'
 obtain ⟨e,rfl⟩:∃ e,h=lst e:=⟨elemOf h,(aP hl).symm⟩
 have:=(aR (T:=n7) (λi o=>((((),(),(32:Int),(i:Int),()),(lst e,o,())):bU)) (λk o=>o.set k (UInt64.toUInt8 (aZ ((lst e).getD (k/8) 0) (8*((k%8:Nat):Int)))))
  (λo=>(⟨(.exit 0,mC),(((),()),(o,()))⟩:aI)) 32 (List.replicate 32 0) (λ_ o=>o.length=32) (by simp) (λi o hi ho=>⟨?_,by rw [List.length_set];exact ho⟩) (λo ho=> ?_)).1
 ·obtain ⟨m,hm⟩:=this
  exact ⟨m,_,hm,rfl⟩
 ·have t1:Int.tdiv (i:Int) 8=((i/8:Nat):Int):=by rw [Int.tdiv_eq_ediv_of_nonneg (by omega)];omega
  have t2:Int.tmod (i:Int) 8=((i%8:Nat):Int):=by rw [Int.tmod_eq_emod_of_nonneg (by omega)];omega
  refine (OT.az (decide_eq_true (by dsimp only;omega))).trans ((aj ?_).trans ?_)
  ·simp only [t1,t2,cr,ho,Int.toNat_natCast,List.all_cons,List.all_nil,Bool.and_true,Bool.and_eq_true]
   exact ⟨⟨trivial,aL (by omega)⟩,aM (by omega),decide_eq_true (by omega),aL (by omega),decide_eq_true (by omega),aM (by omega),decide_eq_true (by omega),aL (by omega)⟩
  ·simp only [OT.cI,t1,t2,Int.toNat_natCast,Nat.add_zero]
   rfl
 ·exact OT.aq (decide_eq_false (by dsimp only;omega))
theorem Ni (e:ag):wK (((),(),32,0,()),(lst e,List.replicate 32 0,()))=true:=decide_eq_true ⟨rfl,rfl,rfl,rfl⟩
theorem adL (z:ag):(OT.ok ⟨jf,(((),()),((ur (((),(),32,0,()),([z.w0,z.w1,z.w2,z.w3],List.replicate 32 0,()))).2.1,()))⟩:OT eU.Y)=.ok ⟨jf,(((),()),(P8 z,()))⟩:=by
 have e:elemOf [z.w0,z.w1,z.w2,z.w3]=z:=rfl
 simp only [ur,e]
def Kn (_:uv):Bool:=true
def Yo (x:uv):OT eU.Y:=.br (au x.1.1) (.ok ⟨jf,(((),()),(P8 (ofN (x.1.2.1.nat%(aS x.1.1.toNat).1.nat)),()))⟩) (.ok ⟨jf,(((),()),([],()))⟩)
theorem am4:aa Tryz.prog 53 (eU.aD Kn Yo):=Yn wK ur am5 _ _ λx oy hp ho=>by
 rw [<-ho]
 clear ho
 obtain ⟨⟨s,a,⟨⟩⟩,⟨⟩⟩:=x
 cases hs:au s
 ·exact (OT.aq hs).trans (OT.aq (b:=au s) hs).symm
 ·refine (OT.az hs).trans ((aj ?_).trans ?_)
  ·simp only [List.all_cons,List.all_nil,Bool.and_true,Bool.and_eq_true]
   exact ⟨iu hs,Ni _⟩
  ·refine Eq.trans ?_ (OT.az (b:=au s) hs).symm
   exact congrArg OT.run (adL (ofN (a.nat%(aS s.toNat).1.nat)))
theorem KA (e:ag):(P8 e).length=32:=by
 unfold P8
 have key:∀ n,(upto (λk (o:List UInt8)=>o.set k (UInt64.toUInt8 (aZ ((lst e).getD (k/8) 0) (8*((k%8:Nat):Int))))) (List.replicate 32 0) n).length=32:=by
  intro n
  induction n with
  |zero=>rfl
  |succ n ih=>exact (List.length_set ..).trans ih
 exact key 32
def rZ:bw:=(eU.aD Kn Yo)
theorem Tn:aa Tryz.prog 53 rZ:=am4
theorem Tm:aC rZ:=ay
def sX:Env:=aw 53 rZ Eh
theorem sW:aK Tryz.prog sX:=af Tn u6
theorem vI:ar sX:=ab Tm FW
theorem UB:aO Tryz.prog te sX:=aE follows al sW vI
end Go.Proofs.YtohjofabochgfaaGreat

namespace Go.Proofs.YtohjofabochgfaaGreat
open Sx Go
abbrev aog:Pt:=(⟨0,0,0,0⟩,⟨0,0,0,0⟩,false)
end Go.Proofs.YtohjofabochgfaaGreat

namespace Go.Proofs.YtohjofabochgfaaGreat
open Sx Go
set_option maxRecDepth 100000
def cV:ap:=⟨[.val false .int,.val false (.list .u8)],[],true,0,false⟩
abbrev mE:Type:=((Int)×(List (UInt8))×Unit)×(Unit)
def bn:av:=⟨[.val true (.prod .elem (.prod .elem .bool)),.val false .int],[],false⟩
def KF:SV->Option av:=λ_=>some bn
def sk (a0:Int) (a1:List (UInt8)):OT cV.Y:=
 let z0:Bool:=au a0
 let z1:Nat:=List.length a1
 let z2:ag:= {w0:=0,w1:=0,w2:=0,w3:=0}
 let z3:ag×Bool:=(z2,false)
 let z4:ag×ag×Bool:=(z2,z3)
 let z5:Bool:=inB (31:Int) z1
 let z6:Bool:=decide (31<z1)
 let z7:UInt8:=List.getD a1 31 (0:UInt8)
 let z8:List UInt8:=List.set a1 31 (z7&&&(127:UInt8))
 let z9:ag:=zc z8
 let z10:Nat:=pS a0
 let z11:ag:=bS a0
 let z12:Bool:=sn ((a0,z9,z11,()),())
 let z13:ag:=ofP z10 (Gf z10 z9 z11)
 let z14:Bool:=dl z13
 let z15:Bool:= !(0:UInt8)==z7>>>(7:UInt8)
 let z16:ag×ag×Bool:=(z9,Pq z10 z2,false)
 let z17:ag×ag×Bool:=(z9,z3)
 let z18:Bool:=eqE (gG z10 z13 (dj (ef (aS (Int.toNat a0)).fst eZ).fst)) eZ
 let z19:ag:=l5 z10 (vZ a0 z13)
 let z20:Bool:= !UInt64.toUInt8 (z19.w0&&&(1:UInt64))==z7>>>(7:UInt8)
 let z21:ag×ag×Bool:=(z9,Pq z10 z19,false)
 let z22:ag×ag×Bool:=(z9,z19,false)
 (.br (z0)
 (.br (!(↑z1:Int)==(32:Int))
  (.ok ⟨bn,((z4,((41:Int),())),())⟩)
  (gd [eG ((a1,()),()),z5,z6,z5,z6,z5,z6] (.br (z0)
   (.br (fh z8)
    (.br (Nat.blt (ag.nat z9) z10)
     (.br (z9.w0==(0:UInt64)&&(z9.w1==(0:UInt64)&&(z9.w2==(0:UInt64)&&(z9.w3==(0:UInt64)&&true))))
      (.br (z7>>>(7:UInt8)==(0:UInt8))
       (.ok ⟨bn,(((z2,z2,true),((0:Int),())),())⟩)
       (gd [z12] (.br (z0)
        (.br (z14)
         (.br (z15)
          (.br (z0)
           (.ok ⟨bn,((z16,((0:Int),())),())⟩)
           (.ok ⟨bn,((z17,((0:Int),())),())⟩))
          (.ok ⟨bn,((z17,((0:Int),())),())⟩))
         (.br (z18)
          (.br (z20)
           (.br (z0)
            (.ok ⟨bn,((z21,((0:Int),())),())⟩)
            (.ok ⟨bn,((z17,((0:Int),())),())⟩))
           (.ok ⟨bn,((z22,((0:Int),())),())⟩))
          (.ok ⟨bn,((z4,((41:Int),())),())⟩)))
        (.ok ⟨bn,((z4,((41:Int),())),())⟩))))
      (gd [z12] (.br (z0)
       (.br (z14)
        (.br (z15)
         (.br (z0)
          (.ok ⟨bn,((z16,((0:Int),())),())⟩)
          (.ok ⟨bn,((z17,((0:Int),())),())⟩))
         (.ok ⟨bn,((z17,((0:Int),())),())⟩))
        (.br (z18)
         (.br (z20)
          (.br (z0)
           (.ok ⟨bn,((z21,((0:Int),())),())⟩)
           (.ok ⟨bn,((z17,((0:Int),())),())⟩))
          (.ok ⟨bn,((z22,((0:Int),())),())⟩))
         (.ok ⟨bn,((z4,((41:Int),())),())⟩)))
       (.ok ⟨bn,((z4,((41:Int),())),())⟩))))
     (.ok ⟨bn,((z4,((41:Int),())),())⟩))
    (.ok ⟨bn,((z4,((41:Int),())),())⟩))
   (.ok ⟨bn,((z4,((41:Int),())),())⟩))))
 (.ok ⟨bn,((z4,((40:Int),())),())⟩))
theorem aus (x:mE) (Q:cV.Y->Prop):wpf te sX ax 1000 Tryz.f58 (cV.inp.inj x).tm (cV.inp.inj x).hp (fnK cV KF Q) (λ_ _=>False)=(sk (x.1.1) (x.1.2.1)).wpR Q:=by kernel_rfl
theorem YG (pre:mE->Bool) (F:mE->OT cV.Y) (hF:∀ (x:mE) oy,pre x=true->(F x).run=some oy->(sk (x.1.1) (x.1.2.1)).run=some oy):aa Tryz.prog 58 (cV.aD pre F):=
 aB al sW UB (f:=58) (fn:=Tryz.f58) (c:=ak Tryz.f58) (by kernel_rfl) (by kernel_rfl) (by kernel_rfl) (S:=cV) (k:=0) (by kernel_rfl) (λR hR=>ae) (n:=1000) (sel:=KF) (λv o h=>by cases h;rfl) (pre:=pre) (F:=F) (T:=λx=>sk (x.1.1) (x.1.2.1)) (λx Q=>aus x Q) hF
def asy (b:List UInt8):ag:=zc (b.set 31 (b.getD 31 0&&&127))
def UK (b:List UInt8):Bool:= !(b.getD 31 0>>>7==0)
theorem azM {y:ag} (h:y.nat%2=0):UInt64.toUInt8 (y.w0&&&1)=0:=by
 have e:y.nat%2=y.w0.toNat%2:=by unfold Sx.ag.nat;omega
 have h2:(y.w0&&&1).toNat=y.w0.toNat%2:=by
  rw [UInt64.toNat_and]
  exact Nat.and_two_pow_sub_one_eq_mod y.w0.toNat 1
 have:y.w0&&&1=0:=UInt64.toNat_inj.1 (by rw [h2,<-e,h];rfl)
 rw [this]
 rfl
def KG (_:mE):Bool:=true
def aBn {S:ap} (f:Pt->Int->OT S.Y) (s:Int) (b:List UInt8):OT S.Y:=.br (au s) (.br (fh b) (.br (Nat.blt (asy b).nat (pS s)) (.br (dl (asy b)) (.br (UK b) (f aog 41) (f aiU 0)) (.br (sqB s (asy b)) (f (ptD s (asy b) (UK b)) 0) (f aog 41))) (f aog 41)) (f aog 41)) (f aog 40)
def YI (x:mE):OT cV.Y:=aBn (S:=cV) (λP e=>.ok ⟨bn,((P,(e,())),())⟩) x.1.1 x.1.2.1
theorem YH {s:Int} {b:List UInt8} {N:ag} (hN:asy b=N):(sk s b).run=(aBn (S:=cV) (λP e=>.ok ⟨bn,((P,(e,())),())⟩) s b).run:=by
 have hN':zc (List.set b 31 (List.getD b 31 0&&&127))=N:=hN
 unfold sk aBn
 rw [hN]
 simp only [hN']
 rcases (Bool.eq_false_or_eq_true (au s)).symm with hs|hs
 ·exact (OT.aq hs).trans (OT.aq (b:=au s) hs).symm
 ·refine (OT.az hs).trans (Eq.trans ?_ (OT.az (b:=au s) hs).symm)
  rcases (Bool.eq_false_or_eq_true (fh b)).symm with hl|hl
  ·exact (OT.az (b:= !fh b) (by rw [hl];rfl)).trans (OT.aq (b:=fh b) hl).symm
  ·have hlen:=nO.1 hl
   have i1:inB 31 b.length=true:=aM (by omega)
   have i2:decide (31<b.length)=true:=decide_eq_true (by omega)
   have i3:eG ((b,()),())=true:=decide_eq_true (by show b.length<=_;omega)
   have i4:fh (List.set b 31 (List.getD b 31 0&&&127))=true:=nO.2 (by rw [List.length_set];exact hlen)
   have hg:∀ z:ag,sn ((s,z,bS s,()),())=true:=λ_=>hs
   refine (OT.aq (b:= !fh b) (by rw [hl];rfl)).trans (Eq.trans ((aj ?_).trans ((OT.az hs).trans ((OT.az i4).trans ?_))) (OT.az (b:=fh b) hl).symm)
   ·simp only [i1,i2,i3,List.all_cons,List.all_nil,Bool.and_self]
   ·rcases (Bool.eq_false_or_eq_true (Nat.blt N.nat (pS s))).symm with hb|hb
    ·exact (OT.aq hb).trans (OT.aq (b:=Nat.blt N.nat (pS s)) hb).symm
    ·refine (OT.az hb).trans (Eq.trans ?_ (OT.az (b:=Nat.blt N.nat (pS s)) hb).symm)
     have hA:=aqD hs N
     have sg:(List.getD b 31 0>>>7==0)= !UK b:=by unfold UK;rw [Bool.not_not]
     rcases (Bool.eq_false_or_eq_true (dl N)).symm with hz|hz
     ·refine (OT.aq (b:=dl N) hz).trans (Eq.trans ?_ (OT.aq (b:=dl N) hz).symm)
      refine (aj (by rw [hg];rfl)).trans ((OT.az hs).trans ((OT.aq (b:=dl (sqA s N)) hA).trans ?_))
      rcases (Bool.eq_false_or_eq_true (sqB s N)).symm with hq|hq
      ·exact (OT.aq (b:=sqB s N) hq).trans (OT.aq (b:=sqB s N) hq).symm
      ·refine (OT.az (b:=sqB s N) hq).trans (Eq.trans ?_ (OT.az (b:=sqB s N) hq).symm)
       have hy:=azM (aHS hs hq).2.1
       have hc:(!UInt64.toUInt8 ((sqY s N).w0&&&1)==List.getD b 31 0>>>7)=UK b:=by
        rw [hy]
        unfold UK
        rw [Bool.beq_comm]
       unfold ptD
       rcases (Bool.eq_false_or_eq_true (UK b)).symm with ho|ho
       ·rw [ho] at hc⊢
        exact (OT.aq hc).trans rfl
       ·rw [ho] at hc⊢
        exact (OT.az hc).trans ((OT.az hs).trans rfl)
     ·refine (OT.az (b:=dl N) hz).trans (Eq.trans ?_ (OT.az (b:=dl N) hz).symm)
      have hN0:=zero_eq hz
      rcases (Bool.eq_false_or_eq_true (UK b)).symm with ho|ho
      ·exact (OT.az (by rw [sg,ho];rfl)).trans (OT.aq (b:=UK b) ho).symm
      ·refine (OT.aq (by rw [sg,ho];rfl)).trans (Eq.trans ?_ (OT.az (b:=UK b) ho).symm)
       have hq:sqB s N=false:=by rw [hN0];exact ax4 hs
       exact (aj (by rw [hg];rfl)).trans ((OT.az hs).trans ((OT.aq (b:=dl (sqA s N)) hA).trans (OT.aq (b:=sqB s N) hq)))
theorem Qg:aa Tryz.prog 58 (cV.aD KG YI):=YG _ _ λx oy hp ho=>by
 rw [<-ho]
 clear ho
 obtain ⟨⟨s,b,⟨⟩⟩,⟨⟩⟩:=x
 exact YH rfl
def sj:bw:=(cV.aD KG YI)
theorem TL:aa Tryz.prog 58 sj:=Qg
theorem TK:aC sj:=ay
def oz:Env:=aw 58 sj sX
theorem mM:aK Tryz.prog oz:=af TL sW
theorem vK:ar oz:=ab TK vI
theorem A5:aO Tryz.prog te oz:=aE follows al mM vK
def ej:ap:=⟨[.val false (.list .u8)],[],true,0,false⟩
abbrev nq:Type:=((List (UInt8))×Unit)×(Unit)
def k9:Shape:=⟨27,[(0,.val false (.list .u8)),(2,.ptr 0 0 0),(3,.ptr 1 0 0),(4,.val false .int)],[(0,.row .u64),(1,.row .u64)],0,true⟩
abbrev bm:Type:=((List (UInt8))×(Unit)×(Unit)×(Int)×Unit)×((List (UInt64))×(List (UInt64))×Unit)
def j5:Shape:=⟨27,[(2,.ptr 0 0 0),(3,.ptr 1 0 0)],[(0,.row .u64),(1,.row .u64)],0,true⟩
abbrev eX:Type:=((Unit)×(Unit)×Unit)×((List (UInt64))×(List (UInt64))×Unit)
def Iz:SE->Option Shape:=gI [(0,j5)] none
def acb (a0:List (UInt8)) (a4:Int) (c0:List (UInt64)) (c1:List (UInt64)):OT (Sum bm aI):=
 let z0:Int:=Int.tdiv a4 (8:Int)
 let z1:Bool:=inB z0 4
 let z2:Bool:=decide (Int.toNat z0+0<List.length c1)
 let z3:Int:=(8:Int)*Int.tmod a4 (8:Int)
 (.br (decide (a4<(32:Int)))
 (gd [true&&inR z0,z1,z2,inB a4 (List.length a0),inR z3,z1,z2,inR (a4+(1:Int))] (.ok (.inl ((a0,((),((),(a4+(1:Int),())))),(c0,(List.set c1 (Int.toNat z0+0) (List.getD c1 (Int.toNat z0+0) (0:UInt64)|||bH (UInt8.toUInt64 (List.getD a0 (Int.toNat a4) (0:UInt8))) (↑(UInt64.toNat (i2u z3)):Int)),()))))))
 (.ok (.inr ⟨(.exit 0,j5),(((),((),())),(c0,(c1,())))⟩)))
def la (s:bm):OT (Sum bm aI):=acb (s.1.1) (s.1.2.2.2.1) (s.2.1) (s.2.2.1)
theorem ab8 (s:bm) (Q:Sum bm aI->Prop):wps te oz ax 1000 (bg (ak Tryz.f100) 0) (k9.inj s) (cz k9 Iz (Q:Sum k9.T aI->Prop))=(la s).wpR Q:=by kernel_rfl
def o1 (g0_0:bm->eX) (s:bm):OT aI:=(.ok ⟨(.exit 0,j5),g0_0 s⟩)
def o0:av:=⟨[.val true .elem],[],false⟩
def EH:SV->Option av:=λ_=>some o0
def np (ok0:bm->Bool) (g0_0:bm->eX) (a0:List (UInt8)):OT ej.Y:=
 let z0:(List UInt8×PUnit×PUnit×Int×PUnit)×List UInt64×List UInt64×PUnit:=((a0,(),(),(0:Int),()),[(0:UInt64),(0:UInt64),(0:UInt64),(0:UInt64)],[(0:UInt64),(0:UInt64),(0:UInt64),(0:UInt64)],())
 let z1:=(g0_0 z0).snd
 let z2:=z1.snd.fst
 let z3:=z1.fst
 let z4:List UInt64:=lay z3 z2 4 (0:UInt64)
 (gd [ok0 z0,decide (4<=List.length z2),decide ((4/1:Nat)+0<=List.length z3),decide (4<=List.length z4)] (.ok ⟨o0,(({w0:=List.getD z4 0 0,w1:=List.getD z4 1 0,w2:=List.getD z4 2 0,w3:=List.getD z4 3 0},()),())⟩))
theorem alq (ok0:bm->Bool) (g0_0:bm->eX) (x:nq) (Q:ej.Y->Prop):wpf te oz (be 0 (cE k9 0 ok0 (o1 g0_0)) ax) 1000 Tryz.f100 (ej.inp.inj x).tm (ej.inp.inj x).hp (fnK ej EH Q) (λ_ _=>False)=(np ok0 g0_0 (x.1.1)).wpR Q:=by kernel_rfl
theorem R3 (ok0:bm->Bool) (g0_0:bm->eX) (h0:∀ s:bm,ok0 s=true->∃ m e,aA (la) m s=some e/\(o1 g0_0 s).run=some e) (pre:nq->Bool) (F:nq->OT ej.Y) (hF:∀ (x:nq) oy,pre x=true->(F x).run=some oy->(np ok0 g0_0 (x.1.1)).run=some oy):aa Tryz.prog 100 (ej.aD pre F):=
 aB al mM A5 (f:=100) (fn:=Tryz.f100) (c:=ak Tryz.f100) (by kernel_rfl) (by kernel_rfl) (by kernel_rfl) (S:=ej) (k:=0) (by kernel_rfl) (λR hR=>(aG (c:=(ak Tryz.f100)) (by kernel_rfl) (id:=0) (by kernel_rfl) (ba al mM A5 (sh:=k9) hR (xs:=Iz) (aF (by kernel_rfl) (by kernel_rfl) hR) aN ae (n:=1000) (T:=la) (λs Q=>ab8 s Q) (ok:=ok0) (f:=o1 g0_0) h0) ae)) (n:=1000) (sel:=EH) (λv o h=>by cases h;rfl) (pre:=pre) (F:=F) (T:=λx=>np ok0 g0_0 (x.1.1)) (λx Q=>alq ok0 g0_0 x Q) hF
def EI (s:bm):Bool:=decide (s.1.1.length=32/\s.1.2.2.2.1=0/\s.2.2.1= [0,0,0,0])
def IA (s:bm):eX:=(((),(),()),(s.2.1,aFJ s.1.1 32,()))
theorem aca:∀ s:bm,EI s=true->∃ m e,aA la m s=some e/\(o1 IA s).run=some e:=by
 rintro ⟨⟨b,⟨⟩,⟨⟩,i,⟨⟩⟩,⟨c0,c1,⟨⟩⟩⟩ h
 have h':=of_decide_eq_true h
 dsimp only at h'
 obtain ⟨hb,rfl,rfl⟩:=h'
 have:=(aR (T:=la) (λi o=>(((b,(),(),(i:Int),()),(c0,o,())):bm)) (SA b)
  (λo=>(⟨(.exit 0,j5),(((),(),()),(c0,o,()))⟩:aI)) 32 [0,0,0,0] (λ_ o=>o.length=4) rfl (λi o hi ho=>⟨?_,(List.length_set ..).trans ho⟩) (λo ho=> ?_)).1
 ·obtain ⟨m,hm⟩:=this
  exact ⟨m,_,hm,rfl⟩
 ·have t1:=aEq i
  have t2:=aEr i
  have t3:(8:Int)*((i%8:Nat):Int)=((8*(i%8):Nat):Int):=by omega
  have t4:=JD (k:=8*(i%8)) (by omega)
  refine (OT.az (decide_eq_true (by dsimp only;omega))).trans ((aj ?_).trans ?_)
  ·simp only [t1,t2,ho,hb,Int.toNat_natCast,List.all_cons,List.all_nil,Bool.and_true,Bool.true_and,Bool.and_eq_true]
   exact ⟨aL (by omega),aM (by omega),decide_eq_true (by omega),aM (by omega),aL (by omega),aM (by omega),decide_eq_true (by omega),aL (by omega)⟩
  ·simp only [OT.cI,t1,t2,Int.toNat_natCast,Nat.add_zero]
   unfold SA
   rw [t3,t4]
   rfl
 ·exact OT.aq (decide_eq_false (by dsimp only;omega))
def gA (x:nq):Bool:=decide (x.1.1.length=32)
def OU (x:nq):OT ej.Y:=.ok ⟨o0,((zc x.1.1,()),())⟩
abbrev OS (b:List UInt8):bm:=((b,(),(),0,()),([0,0,0,0],[0,0,0,0],()))
theorem R4 {ok0:bm->Bool} {g0:bm->eX} {b:List UInt8} {L:List UInt64} (hok:ok0 (OS b)=true)
 (hg:g0 (OS b)=(((),(),()),([0,0,0,0],L,()))) (hL:L.length=4):(np ok0 g0 b).run=some ⟨o0,((elemOf L,()),())⟩:=by
 have e:lay [0,0,0,0] L 4 0=L:=vo rfl hL
 unfold np
 simp only [hg]
 refine (aj ?_).trans ?_
 ·simp only [e,hL,List.all_cons,List.all_nil,Bool.and_true,Bool.and_eq_true]
  exact ⟨hok,rfl,rfl,rfl⟩
 ·rw [e]
  rfl
theorem ab9:aa Tryz.prog 100 (ej.aD gA OU):=R3 EI IA aca _ _ λx oy hp ho=>by
 rw [<-ho]
 clear ho
 obtain ⟨⟨b,⟨⟩⟩,⟨⟩⟩:=x
 have hb:b.length=32:=of_decide_eq_true hp
 exact R4 (b:=b) (L:=aFJ b 32) (decide_eq_true ⟨hb,rfl,rfl⟩) rfl (wC b 32)
def oZ:bw:=(ej.aD gA OU)
theorem M3:aa Tryz.prog 100 oZ:=ab9
theorem M2:aC oZ:=ay
def ol:Env:=aw 100 oZ oz
theorem pT:aK Tryz.prog ol:=af M3 mM
theorem sN:ar ol:=ab M2 vK
theorem Ny:aO Tryz.prog te ol:=aE follows al pT sN
def cQ:ap:=⟨[.val false .int,.val false (.list .u8)],[],true,0,false⟩
abbrev jx:Type:=((Int)×(List (UInt8))×Unit)×(Unit)
def dm:av:=⟨[.val true .elem,.val false .int],[],false⟩
def EO:SV->Option av:=λ_=>some dm
def nC (a0:Int) (a1:List (UInt8)):OT cQ.Y:=
 let z0:ag:= {w0:=0,w1:=0,w2:=0,w3:=0}
 let z1:Bool:=gA ((a1,()),())
 let z2:ag:=zc a1
 (gd [ki ((a0,()),())] (.br (!(↑(List.length a1):Int)==(32:Int))
 (.ok ⟨dm,((z0,((21:Int),())),())⟩)
 (gd [z1] (.br (!Nat.blt (ag.nat z2) (ag.nat (aS (Int.toNat a0)).fst))
  (.ok ⟨dm,((z0,((21:Int),())),())⟩)
  (gd [z1] (.ok ⟨dm,((z2,((0:Int),())),())⟩))))))
theorem alC (x:jx) (Q:cQ.Y->Prop):wpf te ol ax 1000 Tryz.f59 (cQ.inp.inj x).tm (cQ.inp.inj x).hp (fnK cQ EO Q) (λ_ _=>False)=(nC (x.1.1) (x.1.2.1)).wpR Q:=by kernel_rfl
theorem Sd (pre:jx->Bool) (F:jx->OT cQ.Y) (hF:∀ (x:jx) oy,pre x=true->(F x).run=some oy->(nC (x.1.1) (x.1.2.1)).run=some oy):aa Tryz.prog 59 (cQ.aD pre F):=
 aB al pT Ny (f:=59) (fn:=Tryz.f59) (c:=ak Tryz.f59) (by kernel_rfl) (by kernel_rfl) (by kernel_rfl) (S:=cQ) (k:=0) (by kernel_rfl) (λR hR=>ae) (n:=1000) (sel:=EO) (λv o h=>by cases h;rfl) (pre:=pre) (F:=F) (T:=λx=>nC (x.1.1) (x.1.2.1)) (λx Q=>alC x Q) hF
def mi (x:jx):Bool:=au x.1.1
def Cy (x:jx):OT cQ.Y:=.br (fh x.1.2.1) (.br (Nat.blt (zc x.1.2.1).nat (pS x.1.1)) (.ok ⟨dm,((zc x.1.2.1,((0:Int),())),())⟩) (.ok ⟨dm,((⟨0,0,0,0⟩,((21:Int),())),())⟩))
 (.ok ⟨dm,((⟨0,0,0,0⟩,((21:Int),())),())⟩)
theorem Se {s:Int} {b:List UInt8} {N:ag} (hs:au s=true) (hN:zc b=N):(nC s b).run=(OT.br (fh b) (.br (Nat.blt N.nat (pS s)) (.ok ⟨dm,((N,((0:Int),())),())⟩) (.ok ⟨dm,((⟨0,0,0,0⟩,((21:Int),())),())⟩))
 (.ok ⟨dm,((⟨0,0,0,0⟩,((21:Int),())),())⟩):OT cQ.Y).run:=by
 unfold nC
 simp only [hN]
 refine (aj (by simp only [List.all_cons,List.all_nil,Bool.and_true];exact hs)).trans ?_
 rcases (Bool.eq_false_or_eq_true (fh b)).symm with hl|hl
 ·exact (OT.az (b:= !fh b) (by rw [hl];rfl)).trans (OT.aq (b:=fh b) hl).symm
 ·have hp:gA ((b,()),())=true:=decide_eq_true (nO.1 hl)
  refine (OT.aq (b:= !fh b) (by rw [hl];rfl)).trans (Eq.trans ?_ (OT.az (b:=fh b) hl).symm)
  rw [hp]
  refine (aj rfl).trans ?_
  rcases (Bool.eq_false_or_eq_true (Nat.blt N.nat (pS s))).symm with h|h
  ·exact (OT.az (b:= !Nat.blt N.nat (pS s)) (by rw [h];rfl)).trans (OT.aq (b:=Nat.blt N.nat (pS s)) h).symm
  ·exact (OT.aq (b:= !Nat.blt N.nat (pS s)) (by rw [h];rfl)).trans ((aj rfl).trans (OT.az (b:=Nat.blt N.nat (pS s)) h).symm)
theorem IQ:aa Tryz.prog 59 (cQ.aD mi Cy):=Sd _ _ λx oy hp ho=>by
 rw [<-ho]
 clear ho
 obtain ⟨⟨s,b,⟨⟩⟩,⟨⟩⟩:=x
 exact Se hp rfl
def pa:bw:=(cQ.aD mi Cy)
theorem M9:aa Tryz.prog 59 pa:=IQ
theorem M8:aC pa:=ay
def kq:Env:=aw 59 pa ol
theorem kc:aK Tryz.prog kq:=af M9 pT
theorem sP:ar kq:=ab M8 sN
theorem vA:aO Tryz.prog te kq:=aE follows al kc sP
def ek:ap:=⟨[.val false .int,.val true .elem],[],true,0,false⟩
abbrev nB:Type:=((Int)×(ag)×Unit)×(Unit)
def lj:Shape:=⟨38,[(3,.ptr 0 0 0),(7,.own 1),(8,.val false .int)],[(0,.row .u64),(1,.row .u8)],0,true⟩
abbrev bq:Type:=((Unit)×(Unit)×(Int)×Unit)×((List (UInt64))×(List (UInt8))×Unit)
def ic:Shape:=⟨38,[(7,.own 0)],[(0,.row .u8)],0,true⟩
abbrev eY:Type:=((Unit)×Unit)×((List (UInt8))×Unit)
def IJ:SE->Option Shape:=gI [(0,ic)] none
def acC (a8:Int) (c0:List (UInt64)) (c1:List (UInt8)):OT (Sum bq aI):=
 let z0:Int:=Int.tdiv a8 (8:Int)
 let z1:Int:=(8:Int)*Int.tmod a8 (8:Int)
 (.br (decide (a8<(32:Int)))
 (gd [true&&inR z0,inB z0 4,decide (Int.toNat z0+0<List.length c0),inR z1,decide ((List.length c1+1)*1<=140737488355328),inR (a8+(1:Int))] (.ok (.inl (((),((),(a8+(1:Int),()))),(c0,(c1++ [UInt64.toUInt8 (aZ (List.getD c0 (Int.toNat z0+0) (0:UInt64)) (↑(UInt64.toNat (i2u z1)):Int))],()))))))
 (.ok (.inr ⟨(.exit 0,ic),(((),()),(c1,()))⟩)))
def lk (s:bq):OT (Sum bq aI):=acC (s.1.2.2.1) (s.2.1) (s.2.2.1)
theorem acz (s:bq) (Q:Sum bq aI->Prop):wps te kq ax 1000 (bg (ak Tryz.f55) 0) (lj.inj s) (cz lj IJ (Q:Sum lj.T aI->Prop))=(lk s).wpR Q:=by kernel_rfl
def o8 (g0_0:bq->eY) (s:bq):OT aI:=(.ok ⟨(.exit 0,ic),g0_0 s⟩)
def o7:av:=⟨[.own 0],[(0,.row .u8)],false⟩
def EM:SV->Option av:=λ_=>some o7
def nA (ok0:bq->Bool) (g0_0:bq->eY) (a0:Int) (a1:ag):OT ek.Y:=
 let z0:ag:=ofP (pS a0) a1
 let z1:(PUnit×PUnit×Int×PUnit)×List UInt64×List UInt8×PUnit:=(((),(),(0:Int),()),[z0.w0,z0.w1,z0.w2,z0.w3],[],())
 (gd [ki ((a0,()),()),q6 ((a0,a1,()),()),ok0 z1] (.ok ⟨o7,(((),()),((g0_0 z1).snd.fst,()))⟩))
theorem alB (ok0:bq->Bool) (g0_0:bq->eY) (x:nB) (Q:ek.Y->Prop):wpf te kq (be 0 (cE lj 0 ok0 (o8 g0_0)) ax) 1000 Tryz.f55 (ek.inp.inj x).tm (ek.inp.inj x).hp (fnK ek EM Q) (λ_ _=>False)=(nA ok0 g0_0 (x.1.1) (x.1.2.1)).wpR Q:=by kernel_rfl
theorem Sb (ok0:bq->Bool) (g0_0:bq->eY) (h0:∀ s:bq,ok0 s=true->∃ m e,aA (lk) m s=some e/\(o8 g0_0 s).run=some e) (pre:nB->Bool) (F:nB->OT ek.Y) (hF:∀ (x:nB) oy,pre x=true->(F x).run=some oy->(nA ok0 g0_0 (x.1.1) (x.1.2.1)).run=some oy):aa Tryz.prog 55 (ek.aD pre F):=
 aB al kc vA (f:=55) (fn:=Tryz.f55) (c:=ak Tryz.f55) (by kernel_rfl) (by kernel_rfl) (by kernel_rfl) (S:=ek) (k:=0) (by kernel_rfl) (λR hR=>(aG (c:=(ak Tryz.f55)) (by kernel_rfl) (id:=0) (by kernel_rfl) (ba al kc vA (sh:=lj) hR (xs:=IJ) (aF (by kernel_rfl) (by kernel_rfl) hR) aN ae (n:=1000) (T:=lk) (λs Q=>acz s Q) (ok:=ok0) (f:=o8 g0_0) h0) ae)) (n:=1000) (sel:=EM) (λv o h=>by cases h;rfl) (pre:=pre) (F:=F) (T:=λx=>nA ok0 g0_0 (x.1.1) (x.1.2.1)) (λx Q=>alB ok0 g0_0 x Q) hF
def aHl (e:ag) (k:Nat):UInt8:=UInt64.toUInt8 (aZ ((lst e).getD (k/8) 0) (8*((k%8:Nat):Int)))
theorem ave {α:Type} (f:Nat->α):∀ n,upto (λk (o:List α)=>o++ [f k]) [] n=(List.range n).map f
 |0=>rfl
 |n+1=>by
  show upto (λk (o:List α)=>o++ [f k]) [] n++ [f n]=_
  rw [ave f n,List.range_succ,List.map_append]
  rfl
theorem VV {α:Type} (f:Nat->α) (l:List α):∀ n,n<=l.length->upto (λk (o:List α)=>o.set k (f k)) l n=(List.range n).map f++l.drop n
 |0,_=>rfl
 |n+1,h=>by
  have hl:((List.range n).map f).length=n:=by rw [List.length_map,List.length_range]
  show (upto (λk (o:List α)=>o.set k (f k)) l n).set n (f n)=_
  rw [VV f l n (by omega),List.set_append_right _ _ (by omega),hl,Nat.sub_self,List.drop_eq_getElem_cons (by omega),List.set_cons_zero,List.range_succ,List.map_append,List.append_assoc]
  rfl
theorem azP (e:ag):P8 e=(List.range 32).map (aHl e):=by
 have h:=VV (aHl e) (List.replicate 32 0) 32 (by rw [List.length_replicate];omega)
 rw [List.drop_eq_nil_of_le (by rw [List.length_replicate];omega),List.append_nil] at h
 exact h
def EN (s:bq):Bool:=decide (s.1.2.2.1=0/\s.2.1.length=4/\s.2.2.1= [])
def IK (s:bq):eY:=(((),()),(P8 (elemOf s.2.1),()))
theorem acB:∀ s:bq,EN s=true->∃ m e,aA lk m s=some e/\(o8 IK s).run=some e:=by
 rintro ⟨⟨⟨⟩,⟨⟩,i,⟨⟩⟩,⟨h,o,⟨⟩⟩⟩ hh
 have h':=of_decide_eq_true hh
 dsimp only at h'
 obtain ⟨rfl,hl,rfl⟩:=h'
 obtain ⟨e,rfl⟩:∃ e,h=lst e:=⟨elemOf h,(aP hl).symm⟩
 have:=(aR (T:=lk) (λi o=>((((),(),(i:Int),()),(lst e,o,())):bq)) (λk o=>o++ [aHl e k])
  (λo=>(⟨(.exit 0,ic),(((),()),(o,()))⟩:aI)) 32 [] (λn o=>o.length=n) rfl (λi o hi ho=>⟨?_,by rw [List.length_append,ho];rfl⟩) (λo ho=> ?_)).1
 ·obtain ⟨m,hm⟩:=this
  refine ⟨m,_,hm,?_⟩
  have hE:P8 (elemOf (lst e))=upto (λk (o:List UInt8)=>o++ [aHl e k]) [] 32:=by rw [ave];exact azP e
  show some (⟨(.exit 0,ic),(((),()),(P8 (elemOf (lst e)),()))⟩:aI)=_
  rw [hE]
 ·have t1:=aEq i
  have t2:=aEr i
  have t3:(8:Int)*((i%8:Nat):Int)=((8*(i%8):Nat):Int):=by omega
  have t4:=JD (k:=8*(i%8)) (by omega)
  refine (OT.az (decide_eq_true (by dsimp only;omega))).trans ((aj ?_).trans ?_)
  ·simp only [t1,t2,ho,cr,Int.toNat_natCast,List.all_cons,List.all_nil,Bool.and_true,Bool.true_and,Bool.and_eq_true]
   exact ⟨aL (by omega),aM (by omega),decide_eq_true (by omega),aL (by omega),decide_eq_true (by omega),aL (by omega)⟩
  ·simp only [OT.cI,t1,t2,Int.toNat_natCast,Nat.add_zero]
   unfold aHl
   rw [t3,t4]
   rfl
 ·exact OT.aq (decide_eq_false (by dsimp only;omega))
def rb (x:nB):Bool:=au x.1.1
def O5 (x:nB):OT ek.Y:=.ok ⟨o7,(((),()),(P8 (ofP (pS x.1.1) x.1.2.1),()))⟩
theorem Sc {ok0:bq->Bool} {g0:bq->eY} {s:Int} {a A:ag} {B:List UInt8} (hs:au s=true) (hA:ofP (pS s) a=A) (h0:ok0 (((),(),0,()),([A.w0,A.w1,A.w2,A.w3],[],()))=true)
 (e0:g0 (((),(),0,()),([A.w0,A.w1,A.w2,A.w3],[],()))=(((),()),(B,()))):(nA ok0 g0 s a).run=some ⟨o7,(((),()),(B,()))⟩:=by
 unfold nA
 simp only [hA,e0]
 refine (aj ?_).trans rfl
 simp only [List.all_cons,List.all_nil,Bool.and_true,Bool.and_eq_true]
 exact ⟨hs,hs,h0⟩
theorem acA:aa Tryz.prog 55 (ek.aD rb O5):=Sb EN IK acB _ _ λx oy hp ho=>by
 rw [<-ho]
 clear ho
 obtain ⟨⟨s,a,⟨⟩⟩,⟨⟩⟩:=x
 exact Sc (A:=ofP (pS s) a) hp rfl (decide_eq_true ⟨rfl,rfl,rfl⟩) rfl
def o6:bw:=(ek.aD rb O5)
theorem M7:aa Tryz.prog 55 o6:=acA
theorem M6:aC o6:=ay
def oq:Env:=aw 55 o6 kq
theorem pV:aK Tryz.prog oq:=af M7 kc
theorem sO:ar oq:=ab M6 sP
theorem Nz:aO Tryz.prog te oq:=aE follows al pV sO
def cp:ap:=⟨[.val false .int,.val false (.list .u8)],[],true,0,false⟩
abbrev jt:Type:=((Int)×(List (UInt8))×Unit)×(Unit)
def bo:av:=⟨[.val true (.prod .elem (.prod .elem .bool)),.val false .int],[],false⟩
def EF:SV->Option av:=λ_=>some bo
def ni (a0:Int) (a1:List (UInt8)):OT cp.Y:=
 let z0:ag:= {w0:=0,w1:=0,w2:=0,w3:=0}
 let z1:ag×Bool:=(z0,false)
 let z2:ag×ag×Bool:=(z0,z1)
 let z3:Nat:=List.length a1
 let z4:Bool:=inB (31:Int) z3
 let z5:Bool:=decide (31<z3)
 let z6:UInt8:=List.getD a1 31 (0:UInt8)
 let z7:List UInt8:=List.set a1 31 (z6&&&(127:UInt8))
 let z8:ag:=zc z7
 let z9:Nat:=pS a0
 let z10:Bool:=z8.w0==(0:UInt64)&&(z8.w1==(0:UInt64)&&(z8.w2==(0:UInt64)&&(z8.w3==(0:UInt64)&&true)))
 let z11:Bool:=decide ((128:UInt8)<=z6)
 let z12:ag×ag×Bool:=(z0,z0,true)
 let z13:Bool:=tC ((a0,z8,()),())
 let z14:ag:=Gf z9 z8 (bS a0)
 let z15:Bool:=tD ((a0,z14,()),())
 let z16:ag:=ofP z9 z14
 let z17:Bool:=dl z16
 let z18:Bool:=nt ((a0,z0,()),())
 let z19:ag×ag×Bool:=(z8,Pq z9 z0,false)
 let z20:ag×ag×Bool:=(z8,z1)
 let z21:Bool:=eqE (gG z9 z16 (dj (ef (aS (Int.toNat a0)).fst eZ).fst)) eZ
 let z22:ag:=l5 z9 (vZ a0 z16)
 let z23:Bool:=nt ((a0,z22,()),())
 let z24:ag×ag×Bool:=(z8,Pq z9 z22,false)
 let z25:ag×ag×Bool:=(z8,z22,false)
 (.br (decide (a0<(0:Int)))
 (.ok ⟨bo,((z2,((40:Int),())),())⟩)
 (.br (decide ((3:Int)<a0))
  (.ok ⟨bo,((z2,((40:Int),())),())⟩)
  (.br (!(↑z3:Int)==(32:Int))
   (.ok ⟨bo,((z2,((41:Int),())),())⟩)
   (gd [mZ ((a1,()),()),z4,z5,z4,z5,z4,z5,mi ((a0,z7,()),())] (.br (fh z7)
    (.br (Nat.blt (ag.nat z8) z9)
     (.br (z10)
      (.br (z11)
       (.ok ⟨bo,((z2,((41:Int),())),())⟩)
       (.br (z10)
        (.ok ⟨bo,((z12,((0:Int),())),())⟩)
        (gd [z13,z15] (.br (z17)
         (.br (z11)
          (gd [z18] (.ok ⟨bo,((z19,((0:Int),())),())⟩))
          (.ok ⟨bo,((z20,((0:Int),())),())⟩))
         (.br (z21)
          (.br (z11)
           (gd [z23] (.ok ⟨bo,((z24,((0:Int),())),())⟩))
           (.ok ⟨bo,((z25,((0:Int),())),())⟩))
          (.ok ⟨bo,((z2,((41:Int),())),())⟩))))))
      (.br (z10)
       (.ok ⟨bo,((z12,((0:Int),())),())⟩)
       (gd [z13,z15] (.br (z17)
        (.br (z11)
         (gd [z18] (.ok ⟨bo,((z19,((0:Int),())),())⟩))
         (.ok ⟨bo,((z20,((0:Int),())),())⟩))
        (.br (z21)
         (.br (z11)
          (gd [z23] (.ok ⟨bo,((z24,((0:Int),())),())⟩))
          (.ok ⟨bo,((z25,((0:Int),())),())⟩))
         (.ok ⟨bo,((z2,((41:Int),())),())⟩))))))
     (.ok ⟨bo,((z2,((41:Int),())),())⟩))
    (.ok ⟨bo,((z2,((41:Int),())),())⟩))))))
theorem alm (x:jt) (Q:cp.Y->Prop):wpf te oq ax 1000 Tryz.f56 (cp.inp.inj x).tm (cp.inp.inj x).hp (fnK cp EF Q) (λ_ _=>False)=(ni (x.1.1) (x.1.2.1)).wpR Q:=by kernel_rfl
theorem RR (pre:jt->Bool) (F:jt->OT cp.Y) (hF:∀ (x:jt) oy,pre x=true->(F x).run=some oy->(ni (x.1.1) (x.1.2.1)).run=some oy):aa Tryz.prog 56 (cp.aD pre F):=
 aB al pV Nz (f:=56) (fn:=Tryz.f56) (c:=ak Tryz.f56) (by kernel_rfl) (by kernel_rfl) (by kernel_rfl) (S:=cp) (k:=0) (by kernel_rfl) (λR hR=>ae) (n:=1000) (sel:=EF) (λv o h=>by cases h;rfl) (pre:=pre) (F:=F) (T:=λx=>ni (x.1.1) (x.1.2.1)) (λx Q=>alm x Q) hF
theorem aB9 (x:UInt8):decide (128<=x)= !(x>>>7==0):=by
 have h:∀ n,n<256->decide (128<=UInt8.ofNat n)= !(UInt8.ofNat n>>>7==0):=by decide+kernel
 have:=h x.toNat x.toNat_lt
 rwa [UInt8.ofNat_toNat] at this
def EG (_:jt):Bool:=true
def OL (x:jt):OT cp.Y:=aBn (S:=cp) (λP e=>.ok ⟨bo,((P,(e,())),())⟩) x.1.1 x.1.2.1
theorem RS {s:Int} {b:List UInt8} {N:ag} (hN:asy b=N):(ni s b).run=(aBn (S:=cp) (λP e=>.ok ⟨bo,((P,(e,())),())⟩) s b).run:=by
 have hN':zc (List.set b 31 (List.getD b 31 0&&&127))=N:=hN
 unfold ni aBn
 rw [hN]
 have hodd:decide (128<=List.getD b 31 0)=UK b:=aB9 _
 simp only [hN',hodd]
 rcases (Bool.eq_false_or_eq_true (au s)).symm with hs|hs
 ·refine Eq.trans ?_ (OT.aq (b:=au s) hs).symm
  by_cases h0:s<0
  ·exact OT.az (decide_eq_true h0)
  ·refine (OT.aq (decide_eq_false h0)).trans (OT.az (decide_eq_true ?_))
   simp only [au,Bool.and_eq_false_iff,decide_eq_false_iff_not] at hs
   omega
 ·have hc:0<=s/\s<4:=by simpa [au] using hs
  refine (OT.aq (decide_eq_false (by omega))).trans ((OT.aq (decide_eq_false (by omega))).trans (Eq.trans ?_ (OT.az (b:=au s) hs).symm))
  rcases (Bool.eq_false_or_eq_true (fh b)).symm with hl|hl
  ·exact (OT.az (b:= !fh b) (by rw [hl];rfl)).trans (OT.aq (b:=fh b) hl).symm
  ·have hlen:=nO.1 hl
   have i1:inB 31 b.length=true:=aM (by omega)
   have i2:decide (31<b.length)=true:=decide_eq_true (by omega)
   have i3:mZ ((b,()),())=true:=decide_eq_true (by show b.length<=_;omega)
   have i4:fh (List.set b 31 (List.getD b 31 0&&&127))=true:=nO.2 (by rw [List.length_set];exact hlen)
   have i5:mi ((s,List.set b 31 (List.getD b 31 0&&&127),()),())=true:=hs
   have hg1:∀ z:ag,tC ((s,z,()),())=true:=λ_=>hs
   have hg2:∀ z:ag,tD ((s,z,()),())=true:=λ_=>hs
   have hg3:∀ z:ag,nt ((s,z,()),())=true:=λ_=>hs
   refine (OT.aq (b:= !fh b) (by rw [hl];rfl)).trans (Eq.trans ((aj ?_).trans ((OT.az i4).trans ?_)) (OT.az (b:=fh b) hl).symm)
   ·simp only [i1,i2,i3,i5,List.all_cons,List.all_nil,Bool.and_self]
   ·rcases (Bool.eq_false_or_eq_true (Nat.blt N.nat (pS s))).symm with hb|hb
    ·exact (OT.aq hb).trans (OT.aq (b:=Nat.blt N.nat (pS s)) hb).symm
    ·refine (OT.az hb).trans (Eq.trans ?_ (OT.az (b:=Nat.blt N.nat (pS s)) hb).symm)
     have hA:=aqD hs N
     rcases (Bool.eq_false_or_eq_true (dl N)).symm with hz|hz
     ·refine (OT.aq (b:=dl N) hz).trans (Eq.trans ((OT.aq (b:=dl N) hz).trans ?_) (OT.aq (b:=dl N) hz).symm)
      refine (aj (by rw [hg1,hg2];rfl)).trans ((OT.aq (b:=dl (sqA s N)) hA).trans ?_)
      rcases (Bool.eq_false_or_eq_true (sqB s N)).symm with hq|hq
      ·exact (OT.aq (b:=sqB s N) hq).trans (OT.aq (b:=sqB s N) hq).symm
      ·refine (OT.az (b:=sqB s N) hq).trans (Eq.trans ?_ (OT.az (b:=sqB s N) hq).symm)
       unfold ptD
       rcases (Bool.eq_false_or_eq_true (UK b)).symm with ho|ho
       ·rw [ho]
        exact (OT.aq rfl).trans rfl
       ·rw [ho]
        exact (OT.az rfl).trans ((aj (by rw [hg3];rfl)).trans rfl)
     ·refine (OT.az (b:=dl N) hz).trans (Eq.trans ?_ (OT.az (b:=dl N) hz).symm)
      rcases (Bool.eq_false_or_eq_true (UK b)).symm with ho|ho
      ·exact (OT.aq ho).trans ((OT.az (b:=dl N) hz).trans (OT.aq (b:=UK b) ho).symm)
      ·exact (OT.az ho).trans (OT.az (b:=UK b) ho).symm
theorem Ip:aa Tryz.prog 56 (cp.aD EG OL):=RR _ _ λx oy hp ho=>by
 rw [<-ho]
 clear ho
 obtain ⟨⟨s,b,⟨⟩⟩,⟨⟩⟩:=x
 exact RS rfl
def oV:bw:=(cp.aD EG OL)
theorem M1:aa Tryz.prog 56 oV:=Ip
theorem M0:aC oV:=ay
def D2:Env:=aw 56 oV oq
theorem Ur:aK Tryz.prog D2:=af M1 pV
theorem LV:ar D2:=ab M0 sO
abbrev Qe:ap:=cV
def YB (s:Int) (b:List UInt8):Pt×Int:=cond (au s) (cond (fh b) (cond (Nat.blt (asy b).nat (pS s)) (cond (dl (asy b)) (cond (UK b) (aog,41) (aiU,0)) (cond (sqB s (asy b)) (ptD s (asy b) (UK b),0) (aog,41))) (aog,41)) (aog,41)) (aog,40)
theorem ajF {S:ap} (f:Pt->Int->OT S.Y) (s:Int) (b:List UInt8):(aBn f s b).run=(f (YB s b).1 (YB s b).2).run:=by
 unfold aBn YB
 generalize asy b=N
 rcases (Bool.eq_false_or_eq_true (au s)).symm with h|h
 ·rw [h];rfl
 ·rcases (Bool.eq_false_or_eq_true (fh b)).symm with h1|h1
  ·rw [h,h1];rfl
  ·rcases (Bool.eq_false_or_eq_true (Nat.blt N.nat (pS s))).symm with h2|h2
   ·rw [h,h1,h2];rfl
   ·rcases (Bool.eq_false_or_eq_true (dl N)).symm with h3|h3
    ·rcases (Bool.eq_false_or_eq_true (sqB s N)).symm with h4|h4
     ·rw [h,h1,h2,h3,h4];rfl
     ·rw [h,h1,h2,h3,h4];rfl
    ·rcases (Bool.eq_false_or_eq_true (UK b)).symm with h4|h4
     ·rw [h,h1,h2,h3,h4];rfl
     ·rw [h,h1,h2,h3,h4];rfl
def E7 (_:mE):Bool:=true
def Qf (x:mE):OT cV.Y:=.ok ⟨bn,(((YB x.1.1 x.1.2.1).1,((YB x.1.1 x.1.2.1).2,())),())⟩
theorem ad1:aa Tryz.prog 58 (Qe.aD E7 Qf):=fj (S:=cV) Qg λx oy hp ho=>⟨rfl,(ajF (S:=cV) (λP e=>.ok ⟨bn,((P,(e,())),())⟩) x.1.1 x.1.2.1).trans ho⟩
def pD:bw:=(Qe.aD E7 Qf)
theorem Np:aa Tryz.prog 58 pD:=ad1
theorem Nn:aC pD:=ay
def Ep:Env:=aw 58 pD D2
theorem UF:aK Tryz.prog Ep:=af Np Ur
theorem MH:ar Ep:=ab Nn LV
abbrev Im:ap:=cp
def yO (_:jt):Bool:=true
def Io (x:jt):OT cp.Y:=.ok ⟨bo,(((YB x.1.1 x.1.2.1).1,((YB x.1.1 x.1.2.1).2,())),())⟩
theorem Wn:aa Tryz.prog 56 (Im.aD yO Io):=fj (S:=cp) Ip λx oy hp ho=>⟨rfl,(ajF (S:=cp) (λP e=>.ok ⟨bo,((P,(e,())),())⟩) x.1.1 x.1.2.1).trans ho⟩
def mQ:bw:=(Im.aD yO Io)
theorem Il:aa Tryz.prog 56 mQ:=Wn
theorem Ik:aC mQ:=ay
def lT:Env:=aw 56 mQ Ep
theorem mU:aK Tryz.prog lT:=af Il UF
theorem qi:ar lT:=ab Ik MH
theorem LU:aO Tryz.prog te lT:=aE follows al mU qi
def gP:ap:=⟨[.val false (.list .elem)],[],true,0,false⟩
abbrev BJ:Type:=((List (ag))×Unit)×(Unit)
def Hz:av:=⟨[.own 0],[(0,.row .elem)],false⟩
def N6:SV->Option av:=λ_=>some Hz
def Q7 (a0:List (ag)):OT gP.Y:=
 (gd [decide ((0+List.length a0)*32<=140737488355328)] (.ok ⟨Hz,(((),()),([]++a0,()))⟩))
theorem avO (x:BJ) (Q:gP.Y->Prop):wpf te lT ax 1000 Tryz.f38 (gP.inp.inj x).tm (gP.inp.inj x).hp (fnK gP N6 Q) (λ_ _=>False)=(Q7 (x.1.1)).wpR Q:=by kernel_rfl
theorem aaQ (pre:BJ->Bool) (F:BJ->OT gP.Y) (hF:∀ (x:BJ) oy,pre x=true->(F x).run=some oy->(Q7 (x.1.1)).run=some oy):aa Tryz.prog 38 (gP.aD pre F):=
 aB al mU LU (f:=38) (fn:=Tryz.f38) (c:=ak Tryz.f38) (by kernel_rfl) (by kernel_rfl) (by kernel_rfl) (S:=gP) (k:=0) (by kernel_rfl) (λR hR=>ae) (n:=1000) (sel:=N6) (λv o h=>by cases h;rfl) (pre:=pre) (F:=F) (T:=λx=>Q7 (x.1.1)) (λx Q=>avO x Q) hF
def BI (x:BJ):Bool:=decide (x.1.1.length*32<=140737488355328)
def afN (x:BJ):OT gP.Y:=.ok ⟨Hz,(((),()),(x.1.1,()))⟩
theorem ao1:aa Tryz.prog 38 (gP.aD BI afN):=aaQ _ _ λx oy hp ho=>by
 rw [<-ho]
 have hp':x.1.1.length*32<=140737488355328:=of_decide_eq_true hp
 refine (aj ?_).trans rfl
 simp only [List.all_cons,List.all_nil,Bool.and_true]
 exact decide_eq_true (by omega)
def vP:bw:=(gP.aD BI afN)
theorem Vj:aa Tryz.prog 38 vP:=ao1
theorem Vi:aC vP:=ay
def An:Env:=aw 38 vP lT
theorem w6:aK Tryz.prog An:=af Vj mU
theorem Am:ar An:=ab Vi qi
theorem ZG:aO Tryz.prog te An:=aE follows al w6 Am
def H7:ap:=⟨[],[],true,0,false⟩
abbrev aFG:Type:=(Unit)×(Unit)
def aqY:av:=⟨[.val true (.arr 8 .u64)],[],false⟩
def aqW:SV->Option av:=λ_=>some aqY
def aDR:OT H7.Y:=
 (.ok ⟨aqY,(([(7640891576956012808:UInt64),(13503953896175478587:UInt64),(4354685564936845355:UInt64),(11912009170470909681:UInt64),(5840696475078001361:UInt64),(11170449401992604703:UInt64),(2270897969802886507:UInt64),(6620516959819538809:UInt64)],()),())⟩)
theorem aHW (x:aFG) (Q:H7.Y->Prop):wpf te An ax 1000 Tryz.f104 (H7.inp.inj x).tm (H7.inp.inj x).hp (fnK H7 aqW Q) (λ_ _=>False)=(aDR).wpR Q:=by kernel_rfl
theorem ayh (pre:aFG->Bool) (F:aFG->OT H7.Y) (hF:∀ (x:aFG) oy,pre x=true->(F x).run=some oy->(aDR).run=some oy):aa Tryz.prog 104 (H7.aD pre F):=
 aB al w6 ZG (f:=104) (fn:=Tryz.f104) (c:=ak Tryz.f104) (by kernel_rfl) (by kernel_rfl) (by kernel_rfl) (S:=H7) (k:=0) (by kernel_rfl) (λR hR=>ae) (n:=1000) (sel:=aqW) (λv o h=>by cases h;rfl) (pre:=pre) (F:=F) (T:=λx=>aDR) (λx Q=>aHW x Q) hF
def aqX (_:aFG):Bool:=true
def aGC (_:aFG):OT H7.Y:=.ok ⟨aqY,((bIV,()),())⟩
theorem aGB:aa Tryz.prog 104 (H7.aD aqX aGC):=ayh _ _ λx oy _ ho=>ho
def RG:bw:=(H7.aD aqX aGC)
theorem aqZ:aa Tryz.prog 104 RG:=aGB
theorem aqV:aC RG:=ay
def an4:Env:=aw 104 RG An
theorem G7:aK Tryz.prog an4:=af aqZ w6
theorem QG:ar an4:=ab aqV Am
theorem ZP:aO Tryz.prog te an4:=aE follows al G7 QG
def kU:ap:=⟨[.val false (.list .u8),.val false .int],[],true,0,false⟩
abbrev Ow:Type:=((List (UInt8))×(Int)×Unit)×(Unit)
def yp:Shape:=⟨29,[(0,.val false (.list .u8)),(1,.val false .int),(5,.val false .u64),(6,.val false .int)],[],0,true⟩
abbrev cH:Type:=((List (UInt8))×(Int)×(UInt64)×(Int)×Unit)×(Unit)
def tq:Shape:=⟨29,[(5,.val false .u64)],[],0,true⟩
abbrev kT:Type:=((UInt64)×Unit)×(Unit)
def ahV:SE->Option Shape:=gI [(0,tq)] none
def ayb (a0:List (UInt8)) (a1:Int) (a5:UInt64) (a6:Int):OT (Sum cH aI):=
 let z0:Bool:=inR (a1+a6)
 let z1:Nat:=List.length a0
 let z2:Bool:=inR (a6-(1:Int))
 (.br (decide ((0:Int)<=a6))
 (gd [z0] (.br (decide (a1+a6<(↑z1:Int)))
  (gd [z0,inB (a1+a6) z1,z2] (.ok (.inl ((a0,(a1,(a5*(256:UInt64)+UInt8.toUInt64 (List.getD a0 (Int.toNat (a1+a6)) (0:UInt8)),(a6-(1:Int),())))),()))))
  (gd [z2] (.ok (.inl ((a0,(a1,(a5*(256:UInt64),(a6-(1:Int),())))),()))))))
 (.ok (.inr ⟨(.exit 0,tq),((a5,()),())⟩)))
def yq (s:cH):OT (Sum cH aI):=ayb (s.1.1) (s.1.2.1) (s.1.2.2.1) (s.1.2.2.2.1)
theorem ax8 (s:cH) (Q:Sum cH aI->Prop):wps te an4 ax 1000 (bg (ak Tryz.f105) 0) (yp.inj s) (cz yp ahV (Q:Sum yp.T aI->Prop))=(yq s).wpR Q:=by kernel_rfl
def Gx (g0_0:cH->kT) (s:cH):OT aI:=(.ok ⟨(.exit 0,tq),g0_0 s⟩)
def Rv:av:=⟨[.val false .u64],[],false⟩
def VX:SV->Option av:=λ_=>some Rv
def abu (ok0:cH->Bool) (g0_0:cH->kT) (a0:List (UInt8)) (a1:Int):OT kU.Y:=
 let z0:(List UInt8×Int×UInt64×Int×PUnit)×PUnit:=((a0,a1,(0:UInt64),(7:Int),()),())
 (gd [ok0 z0] (.ok ⟨Rv,(((g0_0 z0).fst.fst,()),())⟩))
theorem aDD (ok0:cH->Bool) (g0_0:cH->kT) (x:Ow) (Q:kU.Y->Prop):wpf te an4 (be 0 (cE yp 0 ok0 (Gx g0_0)) ax) 1000 Tryz.f105 (kU.inp.inj x).tm (kU.inp.inj x).hp (fnK kU VX Q) (λ_ _=>False)=(abu ok0 g0_0 (x.1.1) (x.1.2.1)).wpR Q:=by kernel_rfl
theorem ak3 (ok0:cH->Bool) (g0_0:cH->kT) (h0:∀ s:cH,ok0 s=true->∃ m e,aA (yq) m s=some e/\(Gx g0_0 s).run=some e) (pre:Ow->Bool) (F:Ow->OT kU.Y) (hF:∀ (x:Ow) oy,pre x=true->(F x).run=some oy->(abu ok0 g0_0 (x.1.1) (x.1.2.1)).run=some oy):aa Tryz.prog 105 (kU.aD pre F):=
 aB al G7 ZP (f:=105) (fn:=Tryz.f105) (c:=ak Tryz.f105) (by kernel_rfl) (by kernel_rfl) (by kernel_rfl) (S:=kU) (k:=0) (by kernel_rfl) (λR hR=>(aG (c:=(ak Tryz.f105)) (by kernel_rfl) (id:=0) (by kernel_rfl) (ba al G7 ZP (sh:=yp) hR (xs:=ahV) (aF (by kernel_rfl) (by kernel_rfl) hR) aN ae (n:=1000) (T:=yq) (λs Q=>ax8 s Q) (ok:=ok0) (f:=Gx g0_0) h0) ae)) (n:=1000) (sel:=VX) (λv o h=>by cases h;rfl) (pre:=pre) (F:=F) (T:=λx=>abu ok0 g0_0 (x.1.1) (x.1.2.1)) (λx Q=>aDD ok0 g0_0 x Q) hF
def gY (b:List UInt8) (p:Nat):UInt64:=upto (λk v=>v*256+UInt8.toUInt64 (b.getD (p+(7-k)) 0)) 0 8
def VY (s:cH):Bool:=decide (s.1.2.2.1=0/\s.1.2.2.2.1=7/\0<=s.1.2.1/\s.1.2.1<=1000000000000)
def ahW (s:cH):kT:=((gY s.1.1 s.1.2.1.toNat,()),())
theorem aya:∀ s:cH,VY s=true->∃ m e,aA yq m s=some e/\(Gx ahW s).run=some e:=by
 rintro ⟨⟨b,p,v,i,⟨⟩⟩,⟨⟩⟩ h
 have h':=of_decide_eq_true h
 dsimp only at h'
 obtain ⟨rfl,rfl,hp0,hp⟩:=h'
 obtain ⟨p,rfl⟩:∃ q:Nat,p=(q:Int):=⟨p.toNat,by omega⟩
 have:=(aR (T:=yq) (λk v=>(((b,(p:Int),v,7-(k:Int),()),()):cH)) (λk v=>v*256+UInt8.toUInt64 (b.getD (p+(7-k)) 0))
  (λv=>(⟨(.exit 0,tq),((v,()),())⟩:aI)) 8 0 (λ_ _=>True) trivial (λk v hk _=>⟨?_,trivial⟩) (λv _=> ?_)).1
 ·obtain ⟨m,hm⟩:=this
  exact ⟨m,_,hm,rfl⟩
 ·have e1:((p:Int)+(7-(k:Int))).toNat=p+(7-k):=by omega
  have e2:(7:Int)-((k:Int))-1=7-((k+1:Nat):Int):=by omega
  refine (OT.az (decide_eq_true (by dsimp only;omega))).trans ((aj ?_).trans ?_)
  ·simp only [List.all_cons,List.all_nil,Bool.and_true]
   exact aL (by omega)
  ·by_cases hx:(p:Int)+(7-(k:Int))<(b.length:Int)
   ·refine (OT.az (decide_eq_true hx)).trans ((aj ?_).trans ?_)
    ·simp only [List.all_cons,List.all_nil,Bool.and_true,Bool.and_eq_true]
     exact ⟨aL (by omega),aM (by omega),aL (by omega)⟩
    ·simp only [OT.cI,e1,e2]
   ·refine (OT.aq (decide_eq_false hx)).trans ((aj ?_).trans ?_)
    ·simp only [List.all_cons,List.all_nil,Bool.and_true]
     exact aL (by omega)
    ·have e3:b.getD (p+(7-k)) 0=0:=by
      rw [List.getD_eq_getElem?_getD,List.getElem?_eq_none (by omega)];rfl
     have e4:v*256+UInt8.toUInt64 0=v*256:=by
      show v*256+0=v*256
      rw [UInt64.add_zero]
     simp only [OT.cI,e2,e3,e4]
 ·exact OT.aq (decide_eq_false (by dsimp only;omega))
def HU (x:Ow):Bool:=decide (0<=x.1.2.1/\x.1.2.1<=1000000000000)
def aqG (x:Ow):OT kU.Y:=.ok ⟨Rv,((gY x.1.1 x.1.2.1.toNat,()),())⟩
theorem ax9:aa Tryz.prog 105 (kU.aD HU aqG):=ak3 VY ahW aya _ _ λx oy hp ho=>by
 rw [<-ho]
 have hp':=of_decide_eq_true hp
 refine (aj ?_).trans rfl
 simp only [List.all_cons,List.all_nil,Bool.and_true]
 exact decide_eq_true ⟨rfl,rfl,hp'.1,hp'.2⟩
def B0:bw:=(kU.aD HU aqG)
theorem abt:aa Tryz.prog 105 B0:=ax9
theorem abr:aC B0:=ay
def LJ:Env:=aw 105 B0 an4
theorem DW:aK Tryz.prog LJ:=af abt G7
theorem Fz:ar LJ:=ab abr QG
theorem aeS:aO Tryz.prog te LJ:=aE follows al DW Fz
def kX:ap:=⟨[],[],true,0,false⟩
abbrev Oz:Type:=(Unit)×(Unit)
def RC:av:=⟨[.val true (.arr 10 (.arr 16 .int))],[],false⟩
def V2:SV->Option av:=λ_=>some RC
def abE:OT kX.Y:=
 (.ok ⟨RC,(([[(0:Int),(1:Int),(2:Int),(3:Int),(4:Int),(5:Int),(6:Int),(7:Int),(8:Int),(9:Int),(10:Int),(11:Int),(12:Int),(13:Int),(14:Int),(15:Int)],[(14:Int),(10:Int),(4:Int),(8:Int),(9:Int),(15:Int),(13:Int),(6:Int),(1:Int),(12:Int),(0:Int),(2:Int),(11:Int),(7:Int),(5:Int),(3:Int)],[(11:Int),(8:Int),(12:Int),(0:Int),(5:Int),(2:Int),(15:Int),(13:Int),(10:Int),(14:Int),(3:Int),(6:Int),(7:Int),(1:Int),(9:Int),(4:Int)],[(7:Int),(9:Int),(3:Int),(1:Int),(13:Int),(12:Int),(11:Int),(14:Int),(2:Int),(6:Int),(5:Int),(10:Int),(4:Int),(0:Int),(15:Int),(8:Int)],[(9:Int),(0:Int),(5:Int),(7:Int),(2:Int),(4:Int),(10:Int),(15:Int),(14:Int),(1:Int),(11:Int),(12:Int),(6:Int),(8:Int),(3:Int),(13:Int)],[(2:Int),(12:Int),(6:Int),(10:Int),(0:Int),(11:Int),(8:Int),(3:Int),(4:Int),(13:Int),(7:Int),(5:Int),(15:Int),(14:Int),(1:Int),(9:Int)],[(12:Int),(5:Int),(1:Int),(15:Int),(14:Int),(13:Int),(4:Int),(10:Int),(0:Int),(7:Int),(6:Int),(3:Int),(9:Int),(2:Int),(8:Int),(11:Int)],[(13:Int),(11:Int),(7:Int),(14:Int),(12:Int),(1:Int),(3:Int),(9:Int),(5:Int),(0:Int),(15:Int),(4:Int),(8:Int),(6:Int),(2:Int),(10:Int)],[(6:Int),(15:Int),(14:Int),(9:Int),(11:Int),(3:Int),(0:Int),(8:Int),(12:Int),(2:Int),(13:Int),(7:Int),(1:Int),(4:Int),(10:Int),(5:Int)],[(10:Int),(2:Int),(8:Int),(4:Int),(7:Int),(6:Int),(1:Int),(5:Int),(15:Int),(11:Int),(9:Int),(14:Int),(3:Int),(12:Int),(13:Int),(0:Int)]],()),())⟩)
theorem aDN (x:Oz) (Q:kX.Y->Prop):wpf te LJ ax 1000 Tryz.f140 (kX.inp.inj x).tm (kX.inp.inj x).hp (fnK kX V2 Q) (λ_ _=>False)=(abE).wpR Q:=by kernel_rfl
theorem ak9 (pre:Oz->Bool) (F:Oz->OT kX.Y) (hF:∀ (x:Oz) oy,pre x=true->(F x).run=some oy->(abE).run=some oy):aa Tryz.prog 140 (kX.aD pre F):=
 aB al DW aeS (f:=140) (fn:=Tryz.f140) (c:=ak Tryz.f140) (by kernel_rfl) (by kernel_rfl) (by kernel_rfl) (S:=kX) (k:=0) (by kernel_rfl) (λR hR=>ae) (n:=1000) (sel:=V2) (λv o h=>by cases h;rfl) (pre:=pre) (F:=F) (T:=λx=>abE) (λx Q=>aDN x Q) hF
def Nr:List (List Int):= [[0,1,2,3,4,5,6,7,8,9,10,11,12,13,14,15],
 [14,10,4,8,9,15,13,6,1,12,0,2,11,7,5,3],
 [11,8,12,0,5,2,15,13,10,14,3,6,7,1,9,4],
 [7,9,3,1,13,12,11,14,2,6,5,10,4,0,15,8],
 [9,0,5,7,2,4,10,15,14,1,11,12,6,8,3,13],
 [2,12,6,10,0,11,8,3,4,13,7,5,15,14,1,9],
 [12,5,1,15,14,13,4,10,0,7,6,3,9,2,8,11],
 [13,11,7,14,12,1,3,9,5,0,15,4,8,6,2,10],
 [6,15,14,9,11,3,0,8,12,2,13,7,1,4,10,5],
 [10,2,8,4,7,6,1,5,15,11,9,14,3,12,13,0]]
def V3 (_:Oz):Bool:=true
def aqN (_:Oz):OT kX.Y:=.ok ⟨RC,((Nr,()),())⟩
theorem aye:aa Tryz.prog 140 (kX.aD V3 aqN):=ak9 _ _ λx oy _ ho=>ho
def B3:bw:=(kX.aD V3 aqN)
theorem abD:aa Tryz.prog 140 B3:=aye
theorem abC:aC B3:=ay
def LN:Env:=aw 140 B3 LJ
theorem DY:aK Tryz.prog LN:=af abD DW
theorem FB:ar LN:=ab abC Fz
theorem aeU:aO Tryz.prog te LN:=aE follows al DY FB
def kW:ap:=⟨[.val false .u64,.val false .u64],[],true,0,false⟩
abbrev Ox:Type:=((UInt64)×(UInt64)×Unit)×(Unit)
def Rw:av:=⟨[.val false .u64],[],false⟩
def V0:SV->Option av:=λ_=>some Rw
def aby (a0:UInt64) (a1:UInt64):OT kW.Y:=
 (.ok ⟨Rw,((aZ a0 (↑(UInt64.toNat a1):Int)|||bH a0 (↑(UInt64.toNat ((64:UInt64)-a1)):Int),()),())⟩)
theorem aDE (x:Ox) (Q:kW.Y->Prop):wpf te LN ax 1000 Tryz.f155 (kW.inp.inj x).tm (kW.inp.inj x).hp (fnK kW V0 Q) (λ_ _=>False)=(aby (x.1.1) (x.1.2.1)).wpR Q:=by kernel_rfl
theorem ak5 (pre:Ox->Bool) (F:Ox->OT kW.Y) (hF:∀ (x:Ox) oy,pre x=true->(F x).run=some oy->(aby (x.1.1) (x.1.2.1)).run=some oy):aa Tryz.prog 155 (kW.aD pre F):=
 aB al DY aeU (f:=155) (fn:=Tryz.f155) (c:=ak Tryz.f155) (by kernel_rfl) (by kernel_rfl) (by kernel_rfl) (S:=kW) (k:=0) (by kernel_rfl) (λR hR=>ae) (n:=1000) (sel:=V0) (λv o h=>by cases h;rfl) (pre:=pre) (F:=F) (T:=λx=>aby (x.1.1) (x.1.2.1)) (λx Q=>aDE x Q) hF
def BM (a n:UInt64):UInt64:=aZ a (UInt64.toNat n:Int)|||bH a (UInt64.toNat (64-n):Int)
def V1 (_:Ox):Bool:=true
def aqH (x:Ox):OT kW.Y:=.ok ⟨Rw,((BM x.1.1 x.1.2.1,()),())⟩
theorem ayd:aa Tryz.prog 155 (kW.aD V1 aqH):=ak5 _ _ λx oy _ ho=>ho
def B2:bw:=(kW.aD V1 aqH)
theorem abx:aa Tryz.prog 155 B2:=ayd
theorem abw:aC B2:=ay
def LK:Env:=aw 155 B2 LN
theorem DX:aK Tryz.prog LK:=af abx DY
theorem FA:ar LK:=ab abw FB
theorem aeT:aO Tryz.prog te LK:=aE follows al DX FA
def qe:ap:=⟨[.val true (.arr 16 .u64),.val false .int,.val false .int,.val false .int,.val false .int,.val false .u64,.val false .u64],[],true,0,false⟩
abbrev alg:Type:=((List (UInt64))×(Int)×(Int)×(Int)×(Int)×(UInt64)×(UInt64)×Unit)×(Unit)
def RF:av:=⟨[.val true (.arr 16 .u64)],[],false⟩
def ah0:SV->Option av:=λ_=>some RF
def aqU (a0:List (UInt64)) (a1:Int) (a2:Int) (a3:Int) (a4:Int) (a5:UInt64) (a6:UInt64):OT qe.Y:=
 let z0:Bool:=inB a1 16
 let z1:List UInt64:=tab a0 16 (0:UInt64)
 let z2:Nat:=List.length z1
 let z3:Bool:=decide (Int.toNat a1+0<z2)
 let z4:Bool:=inB a2 16
 let z5:Bool:=inB a4 16
 let z6:List UInt64:=List.set z1 (Int.toNat a1+0) (List.getD z1 (Int.toNat a1+0) (0:UInt64)+List.getD z1 (Int.toNat a2+0) (0:UInt64)+a5)
 let z7:Nat:=List.length z6
 let z8:Bool:=decide (Int.toNat a4+0<z7)
 let z9:Bool:=inB a3 16
 let z10:List UInt64:=List.set z6 (Int.toNat a4+0) (BM (List.getD z6 (Int.toNat a4+0) (0:UInt64)^^^List.getD z6 (Int.toNat a1+0) (0:UInt64)) (32:UInt64))
 let z11:Nat:=List.length z10
 let z12:Bool:=decide (Int.toNat a3+0<z11)
 let z13:List UInt64:=List.set z10 (Int.toNat a3+0) (List.getD z10 (Int.toNat a3+0) (0:UInt64)+List.getD z10 (Int.toNat a4+0) (0:UInt64))
 let z14:Nat:=List.length z13
 let z15:Bool:=decide (Int.toNat a2+0<z14)
 let z16:List UInt64:=List.set z13 (Int.toNat a2+0) (BM (List.getD z13 (Int.toNat a2+0) (0:UInt64)^^^List.getD z13 (Int.toNat a3+0) (0:UInt64)) (24:UInt64))
 let z17:Nat:=List.length z16
 let z18:Bool:=decide (Int.toNat a1+0<z17)
 let z19:List UInt64:=List.set z16 (Int.toNat a1+0) (List.getD z16 (Int.toNat a1+0) (0:UInt64)+List.getD z16 (Int.toNat a2+0) (0:UInt64)+a6)
 let z20:Nat:=List.length z19
 let z21:Bool:=decide (Int.toNat a4+0<z20)
 let z22:List UInt64:=List.set z19 (Int.toNat a4+0) (BM (List.getD z19 (Int.toNat a4+0) (0:UInt64)^^^List.getD z19 (Int.toNat a1+0) (0:UInt64)) (16:UInt64))
 let z23:Nat:=List.length z22
 let z24:Bool:=decide (Int.toNat a3+0<z23)
 let z25:List UInt64:=List.set z22 (Int.toNat a3+0) (List.getD z22 (Int.toNat a3+0) (0:UInt64)+List.getD z22 (Int.toNat a4+0) (0:UInt64))
 let z26:Nat:=List.length z25
 let z27:Bool:=decide (Int.toNat a2+0<z26)
 let z28:List UInt64:=List.set z25 (Int.toNat a2+0) (BM (List.getD z25 (Int.toNat a2+0) (0:UInt64)^^^List.getD z25 (Int.toNat a3+0) (0:UInt64)) (63:UInt64))
 (gd [z0,z3,z4,decide (Int.toNat a2+0<z2),z0,z3,z5,z8,z0,decide (Int.toNat a1+0<z7),z5,z8,z9,z12,z5,decide (Int.toNat a4+0<z11),z9,z12,z4,z15,z9,decide (Int.toNat a3+0<z14),z4,z15,z0,z18,z4,decide (Int.toNat a2+0<z17),z0,z18,z5,z21,z0,decide (Int.toNat a1+0<z20),z5,z21,z9,z24,z5,decide (Int.toNat a4+0<z23),z9,z24,z4,z27,z9,decide (Int.toNat a3+0<z26),z4,z27,decide (16<=List.length z28)] (.ok ⟨RF,((tab z28 16 (0:UInt64),()),())⟩))
theorem aGA (x:alg) (Q:qe.Y->Prop):wpf te LK ax 1000 Tryz.f141 (qe.inp.inj x).tm (qe.inp.inj x).hp (fnK qe ah0 Q) (λ_ _=>False)=(aqU (x.1.1) (x.1.2.1) (x.1.2.2.1) (x.1.2.2.2.1) (x.1.2.2.2.2.1) (x.1.2.2.2.2.2.1) (x.1.2.2.2.2.2.2.1)).wpR Q:=by kernel_rfl
theorem aqT (pre:alg->Bool) (F:alg->OT qe.Y) (hF:∀ (x:alg) oy,pre x=true->(F x).run=some oy->(aqU (x.1.1) (x.1.2.1) (x.1.2.2.1) (x.1.2.2.2.1) (x.1.2.2.2.2.1) (x.1.2.2.2.2.2.1) (x.1.2.2.2.2.2.2.1)).run=some oy):aa Tryz.prog 141 (qe.aD pre F):=
 aB al DX aeT (f:=141) (fn:=Tryz.f141) (c:=ak Tryz.f141) (by kernel_rfl) (by kernel_rfl) (by kernel_rfl) (S:=qe) (k:=0) (by kernel_rfl) (λR hR=>ae) (n:=1000) (sel:=ah0) (λv o h=>by cases h;rfl) (pre:=pre) (F:=F) (T:=λx=>aqU (x.1.1) (x.1.2.1) (x.1.2.2.1) (x.1.2.2.2.1) (x.1.2.2.2.2.1) (x.1.2.2.2.2.2.1) (x.1.2.2.2.2.2.2.1)) (λx Q=>aGA x Q) hF
theorem aGc (a:UInt64):BM a 32=rotl a (-32):=by
 unfold BM rotl
 rw [show (UInt64.toNat (i2u (-32)&&&63):Int)=32 from by decide,show (UInt64.toNat (64-(i2u (-32)&&&63)):Int)=32 from by decide,show (UInt64.toNat 32:Int)=32 from by decide,show (UInt64.toNat (64-32):Int)=32 from by decide,UInt64.or_comm]
theorem aGd (a:UInt64):BM a 24=rotl a (-24):=by
 unfold BM rotl
 rw [show (UInt64.toNat (i2u (-24)&&&63):Int)=40 from by decide,show (UInt64.toNat (64-(i2u (-24)&&&63)):Int)=24 from by decide,show (UInt64.toNat 24:Int)=24 from by decide,show (UInt64.toNat (64-24):Int)=40 from by decide,UInt64.or_comm]
theorem aGe (a:UInt64):BM a 16=rotl a (-16):=by
 unfold BM rotl
 rw [show (UInt64.toNat (i2u (-16)&&&63):Int)=48 from by decide,show (UInt64.toNat (64-(i2u (-16)&&&63)):Int)=16 from by decide,show (UInt64.toNat 16:Int)=16 from by decide,show (UInt64.toNat (64-16):Int)=48 from by decide,UInt64.or_comm]
theorem aGb (a:UInt64):BM a 63=rotl a (-63):=by
 unfold BM rotl
 rw [show (UInt64.toNat (i2u (-63)&&&63):Int)=1 from by decide,show (UInt64.toNat (64-(i2u (-63)&&&63)):Int)=63 from by decide,show (UInt64.toNat 63:Int)=63 from by decide,show (UInt64.toNat (64-63):Int)=1 from by decide,UInt64.or_comm]
def RE (x:alg):Bool:=inB x.1.2.1 16&&inB x.1.2.2.1 16&&inB x.1.2.2.2.1 16&&inB x.1.2.2.2.2.1 16&&decide (x.1.1.length=16)
def aA0 (x:alg):OT qe.Y:=.ok ⟨RF,((zq x.1.1 x.1.2.1.toNat x.1.2.2.1.toNat x.1.2.2.2.1.toNat x.1.2.2.2.2.1.toNat x.1.2.2.2.2.2.1 x.1.2.2.2.2.2.2.1,()),())⟩
theorem aDP:aa Tryz.prog 141 (qe.aD RE aA0):=aqT _ _ λx oy hp ho=>by
 rw [<-ho]
 clear ho
 obtain ⟨⟨v,a,b,c,d,x,y,⟨⟩⟩,⟨⟩⟩:=x
 simp only [RE,Bool.and_eq_true,decide_eq_true_eq] at hp
 obtain ⟨⟨⟨⟨ha,hb⟩,hc⟩,hd⟩,hv⟩:=hp
 have na:=vq ha
 have nb:=vq hb
 have nc:=vq hc
 have nd:=vq hd
 have t1:tab v 16 0=v:=iO hv
 refine (aj ?_).trans ?_
 ·simp only [t1,List.length_set,hv,ha,hb,hc,hd,Nat.add_zero,na,nb,nc,nd,Nat.le_refl,decide_true,List.all_cons,List.all_nil,Bool.and_self]
 ·have hl:(zq v a.toNat b.toNat c.toNat d.toNat x y).length=16:=by rw [fC];exact hv
  simp only [t1,aGc,aGd,aGe,aGb,UInt64.add_assoc,Nat.add_zero]
  exact congrArg (λl=>some (⟨RF,((l,()),())⟩:qe.Y)) (iO hl)
def H6:bw:=(qe.aD RE aA0)
theorem alf:aa Tryz.prog 141 H6:=aDP
theorem ale:aC H6:=ay
def Az:Env:=aw 141 H6 LK
theorem lR:aK Tryz.prog Az:=af alf DX
theorem LQ:ar Az:=ab ale FA
theorem oj:aO Tryz.prog te Az:=aE follows al lR LQ
def gZ:ap:=⟨[.val true (.arr 8 .u64),.val false (.list .u8),.val false .u64,.val false .bool],[],true,0,false⟩
abbrev Cb:Type:=((List (UInt64))×(List (UInt8))×(UInt64)×(Bool)×Unit)×(Unit)
def qO:Shape:=⟨163,[(1,.val false (.list .u8)),(2,.val false .u64),(3,.val false .bool),(4,.ptr 0 0 0),(8,.ptr 1 0 0),(9,.ptr 2 0 0),(10,.ptr 3 0 0),(11,.val false .int)],[(0,.row .u64),(1,.row .u64),(2,.row .u64),(3,.row .u64)],0,true⟩
abbrev ci:Type:=((List (UInt8))×(UInt64)×(Bool)×(Unit)×(Unit)×(Unit)×(Unit)×(Int)×Unit)×((List (UInt64))×(List (UInt64))×(List (UInt64))×(List (UInt64))×Unit)
def oU:Shape:=⟨163,[(1,.val false (.list .u8)),(2,.val false .u64),(3,.val false .bool),(4,.ptr 0 0 0),(8,.ptr 1 0 0),(10,.ptr 2 0 0)],[(0,.row .u64),(1,.row .u64),(2,.row .u64)],0,true⟩
abbrev js:Type:=((List (UInt8))×(UInt64)×(Bool)×(Unit)×(Unit)×(Unit)×Unit)×((List (UInt64))×(List (UInt64))×(List (UInt64))×Unit)
def V9:SE->Option Shape:=gI [(0,oU)] none
def aro (a1:List (UInt8)) (a2:UInt64) (a3:Bool) (a11:Int) (c0:List (UInt64)) (c1:List (UInt64)) (c2:List (UInt64)) (c3:List (UInt64)):OT (Sum ci aI):=
 let z0:Bool:=inB a11 8
 let z1:List UInt64:=List.set c3 (Int.toNat a11+0) (List.getD c0 (Int.toNat a11+0) (0:UInt64))
 (.br (decide (a11<(8:Int)))
 (gd [z0,decide (Int.toNat a11+0<List.length c0),inB a11 16,decide (Int.toNat a11+0<List.length c3),inR (a11+(8:Int)),z0,decide (Int.toNat a11+0<List.length c2),inB (a11+(8:Int)) 16,decide (Int.toNat (a11+(8:Int))+0<List.length z1),inR (a11+(1:Int))] (.ok (.inl ((a1,(a2,(a3,((),((),((),((),(a11+(1:Int),())))))))),(c0,(c1,(c2,(List.set z1 (Int.toNat (a11+(8:Int))+0) (List.getD c2 (Int.toNat a11+0) (0:UInt64)),()))))))))
 (.ok (.inr ⟨(.exit 0,oU),((a1,(a2,(a3,((),((),((),())))))),(c0,(c1,(c3,()))))⟩)))
def qS (s:ci):OT (Sum ci aI):=aro (s.1.1) (s.1.2.1) (s.1.2.2.1) (s.1.2.2.2.2.2.2.2.1) (s.2.1) (s.2.2.1) (s.2.2.2.1) (s.2.2.2.2.1)
theorem ard (s:ci) (Q:Sum ci aI->Prop):wps te Az ax 1000 (bg (ak Tryz.f106) 0) (qO.inj s) (cz qO V9 (Q:Sum qO.T aI->Prop))=(qS s).wpR Q:=by kernel_rfl
def yJ (g0_0:ci->js) (s:ci):OT aI:=(.ok ⟨(.exit 0,oU),g0_0 s⟩)
def qN:Shape:=⟨163,[(1,.val false (.list .u8)),(4,.ptr 0 0 0),(8,.ptr 1 0 0),(10,.ptr 2 0 0),(12,.ptr 3 0 0),(13,.val false .int)],[(0,.row .u64),(1,.row .u64),(2,.row .u64),(3,.row .u64)],0,true⟩
abbrev cg:Type:=((List (UInt8))×(Unit)×(Unit)×(Unit)×(Unit)×(Int)×Unit)×((List (UInt64))×(List (UInt64))×(List (UInt64))×(List (UInt64))×Unit)
def oT:Shape:=⟨163,[(4,.ptr 0 0 0),(8,.ptr 1 0 0),(10,.ptr 2 0 0),(12,.ptr 3 0 0)],[(0,.row .u64),(1,.row .u64),(2,.row .u64),(3,.row .u64)],0,true⟩
abbrev jr:Type:=((Unit)×(Unit)×(Unit)×(Unit)×Unit)×((List (UInt64))×(List (UInt64))×(List (UInt64))×(List (UInt64))×Unit)
def V8:SE->Option Shape:=gI [(2,oT)] none
def arn (a1:List (UInt8)) (a13:Int) (c0:List (UInt64)) (c1:List (UInt64)) (c2:List (UInt64)) (c3:List (UInt64)):OT (Sum cg aI):=
 (.br (decide (a13<(16:Int)))
 (gd [inR ((8:Int)*a13),HU ((a1,(8:Int)*a13,()),()),inB a13 16,decide (Int.toNat a13+0<List.length c3),inR (a13+(1:Int))] (.ok (.inl ((a1,((),((),((),((),(a13+(1:Int),())))))),(c0,(c1,(c2,(List.set c3 (Int.toNat a13+0) (gY a1 (Int.toNat ((8:Int)*a13))),()))))))))
 (.ok (.inr ⟨(.exit 2,oT),(((),((),((),((),())))),(c0,(c1,(c2,(c3,())))))⟩)))
def qR (s:cg):OT (Sum cg aI):=arn (s.1.1) (s.1.2.2.2.2.2.1) (s.2.1) (s.2.2.1) (s.2.2.2.1) (s.2.2.2.2.1)
theorem arc (s:cg) (Q:Sum cg aI->Prop):wps te Az ax 1000 (bg (ak Tryz.f106) 2) (qN.inj s) (cz qN V8 (Q:Sum qN.T aI->Prop))=(qR s).wpR Q:=by kernel_rfl
def yI (g2_2:cg->jr) (s:cg):OT aI:=(.ok ⟨(.exit 2,oT),g2_2 s⟩)
def qM:Shape:=⟨163,[(4,.ptr 0 0 0),(8,.ptr 1 0 0),(10,.ptr 2 0 0),(12,.ptr 3 0 0),(14,.ptr 4 0 0),(15,.val false .int)],[(0,.row .u64),(1,.row .u64),(2,.row .u64),(3,.row .u64),(4,.row (.arr 16 .int))],0,true⟩
abbrev cf:Type:=((Unit)×(Unit)×(Unit)×(Unit)×(Unit)×(Int)×Unit)×((List (UInt64))×(List (UInt64))×(List (UInt64))×(List (UInt64))×(List (List (Int)))×Unit)
def oS:Shape:=⟨163,[(4,.ptr 0 0 0),(8,.ptr 1 0 0),(10,.ptr 2 0 0)],[(0,.row .u64),(1,.row .u64),(2,.row .u64)],0,true⟩
abbrev jq:Type:=((Unit)×(Unit)×(Unit)×Unit)×((List (UInt64))×(List (UInt64))×(List (UInt64))×Unit)
def V7:SE->Option Shape:=gI [(4,oS)] none
def arm (a15:Int) (c0:List (UInt64)) (c1:List (UInt64)) (c2:List (UInt64)) (c3:List (UInt64)) (c4:List (List (Int))):OT (Sum cf aI):=
 let z0:Int:=Int.tmod a15 (10:Int)
 let z1:Nat:=List.length c2
 let z2:List Int:=List.getD c4 (Int.toNat z0+0) [(0:Int),(0:Int),(0:Int),(0:Int),(0:Int),(0:Int),(0:Int),(0:Int),(0:Int),(0:Int),(0:Int),(0:Int),(0:Int),(0:Int),(0:Int),(0:Int)]
 let z3:Int:=List.getD z2 0 (0:Int)
 let z4:Nat:=List.length c3
 let z5:Int:=List.getD z2 1 (0:Int)
 let z6:Nat:=Int.toNat (0:Int)
 let z7:Nat:=Int.toNat (4:Int)
 let z8:Nat:=Int.toNat (8:Int)
 let z9:Nat:=Int.toNat (12:Int)
 let z10:List UInt64:=lay c2 (zq (tab c2 16 (0:UInt64)) z6 z7 z8 z9 (List.getD c3 (Int.toNat z3+0) (0:UInt64)) (List.getD c3 (Int.toNat z5+0) (0:UInt64))) 16 (0:UInt64)
 let z11:Nat:=List.length z10
 let z12:Int:=List.getD z2 2 (0:Int)
 let z13:Int:=List.getD z2 3 (0:Int)
 let z14:Nat:=Int.toNat (1:Int)
 let z15:Nat:=Int.toNat (5:Int)
 let z16:Nat:=Int.toNat (9:Int)
 let z17:Nat:=Int.toNat (13:Int)
 let z18:List UInt64:=lay z10 (zq (tab z10 16 (0:UInt64)) z14 z15 z16 z17 (List.getD c3 (Int.toNat z12+0) (0:UInt64)) (List.getD c3 (Int.toNat z13+0) (0:UInt64))) 16 (0:UInt64)
 let z19:Nat:=List.length z18
 let z20:Int:=List.getD z2 4 (0:Int)
 let z21:Int:=List.getD z2 5 (0:Int)
 let z22:Nat:=Int.toNat (2:Int)
 let z23:Nat:=Int.toNat (6:Int)
 let z24:Nat:=Int.toNat (10:Int)
 let z25:Nat:=Int.toNat (14:Int)
 let z26:List UInt64:=lay z18 (zq (tab z18 16 (0:UInt64)) z22 z23 z24 z25 (List.getD c3 (Int.toNat z20+0) (0:UInt64)) (List.getD c3 (Int.toNat z21+0) (0:UInt64))) 16 (0:UInt64)
 let z27:Nat:=List.length z26
 let z28:Int:=List.getD z2 6 (0:Int)
 let z29:Int:=List.getD z2 7 (0:Int)
 let z30:Nat:=Int.toNat (3:Int)
 let z31:Nat:=Int.toNat (7:Int)
 let z32:Nat:=Int.toNat (11:Int)
 let z33:Nat:=Int.toNat (15:Int)
 let z34:List UInt64:=lay z26 (zq (tab z26 16 (0:UInt64)) z30 z31 z32 z33 (List.getD c3 (Int.toNat z28+0) (0:UInt64)) (List.getD c3 (Int.toNat z29+0) (0:UInt64))) 16 (0:UInt64)
 let z35:Nat:=List.length z34
 let z36:Int:=List.getD z2 8 (0:Int)
 let z37:Int:=List.getD z2 9 (0:Int)
 let z38:List UInt64:=lay z34 (zq (tab z34 16 (0:UInt64)) z6 z15 z24 z33 (List.getD c3 (Int.toNat z36+0) (0:UInt64)) (List.getD c3 (Int.toNat z37+0) (0:UInt64))) 16 (0:UInt64)
 let z39:Nat:=List.length z38
 let z40:Int:=List.getD z2 10 (0:Int)
 let z41:Int:=List.getD z2 11 (0:Int)
 let z42:List UInt64:=lay z38 (zq (tab z38 16 (0:UInt64)) z14 z23 z32 z9 (List.getD c3 (Int.toNat z40+0) (0:UInt64)) (List.getD c3 (Int.toNat z41+0) (0:UInt64))) 16 (0:UInt64)
 let z43:Nat:=List.length z42
 let z44:Int:=List.getD z2 12 (0:Int)
 let z45:Int:=List.getD z2 13 (0:Int)
 let z46:List UInt64:=lay z42 (zq (tab z42 16 (0:UInt64)) z22 z31 z8 z17 (List.getD c3 (Int.toNat z44+0) (0:UInt64)) (List.getD c3 (Int.toNat z45+0) (0:UInt64))) 16 (0:UInt64)
 let z47:Nat:=List.length z46
 let z48:Int:=List.getD z2 14 (0:Int)
 let z49:Int:=List.getD z2 15 (0:Int)
 (.br (decide (a15<(12:Int)))
 (gd [inB z0 10,decide (Int.toNat z0+0<List.length c4),decide (16<=z1),inB z3 16,decide (Int.toNat z3+0<z4),inB z5 16,decide (Int.toNat z5+0<z4),decide ((16/1:Nat)+0<=z1),decide (16<=z11),inB z12 16,decide (Int.toNat z12+0<z4),inB z13 16,decide (Int.toNat z13+0<z4),decide ((16/1:Nat)+0<=z11),decide (16<=z19),inB z20 16,decide (Int.toNat z20+0<z4),inB z21 16,decide (Int.toNat z21+0<z4),decide ((16/1:Nat)+0<=z19),decide (16<=z27),inB z28 16,decide (Int.toNat z28+0<z4),inB z29 16,decide (Int.toNat z29+0<z4),decide ((16/1:Nat)+0<=z27),decide (16<=z35),inB z36 16,decide (Int.toNat z36+0<z4),inB z37 16,decide (Int.toNat z37+0<z4),decide ((16/1:Nat)+0<=z35),decide (16<=z39),inB z40 16,decide (Int.toNat z40+0<z4),inB z41 16,decide (Int.toNat z41+0<z4),decide ((16/1:Nat)+0<=z39),decide (16<=z43),inB z44 16,decide (Int.toNat z44+0<z4),inB z45 16,decide (Int.toNat z45+0<z4),decide ((16/1:Nat)+0<=z43),decide (16<=z47),inB z48 16,decide (Int.toNat z48+0<z4),inB z49 16,decide (Int.toNat z49+0<z4),decide ((16/1:Nat)+0<=z47),inR (a15+(1:Int))] (.ok (.inl (((),((),((),((),((),(a15+(1:Int),())))))),(c0,(c1,(lay z46 (zq (tab z46 16 (0:UInt64)) z30 z7 z16 z25 (List.getD c3 (Int.toNat z48+0) (0:UInt64)) (List.getD c3 (Int.toNat z49+0) (0:UInt64))) 16 (0:UInt64),(c3,(c4,())))))))))
 (.ok (.inr ⟨(.exit 4,oS),(((),((),((),()))),(c0,(c1,(c2,()))))⟩)))
def qQ (s:cf):OT (Sum cf aI):=arm (s.1.2.2.2.2.2.1) (s.2.1) (s.2.2.1) (s.2.2.2.1) (s.2.2.2.2.1) (s.2.2.2.2.2.1)
theorem arb (s:cf) (Q:Sum cf aI->Prop):wps te Az ax 1000 (bg (ak Tryz.f106) 4) (qM.inj s) (cz qM V7 (Q:Sum qM.T aI->Prop))=(qQ s).wpR Q:=by kernel_rfl
def yH (g4_4:cf->jq) (s:cf):OT aI:=(.ok ⟨(.exit 4,oS),g4_4 s⟩)
def qL:Shape:=⟨163,[(4,.ptr 0 0 0),(8,.ptr 1 0 0),(10,.ptr 2 0 0),(17,.val false .int)],[(0,.row .u64),(1,.row .u64),(2,.row .u64)],0,true⟩
abbrev cd:Type:=((Unit)×(Unit)×(Unit)×(Int)×Unit)×((List (UInt64))×(List (UInt64))×(List (UInt64))×Unit)
def oR:Shape:=⟨163,[(4,.ptr 0 0 0),(8,.ptr 1 0 0)],[(0,.row .u64),(1,.row .u64)],0,true⟩
abbrev jp:Type:=((Unit)×(Unit)×Unit)×((List (UInt64))×(List (UInt64))×Unit)
def V6:SE->Option Shape:=gI [(6,oR)] none
def arl (a17:Int) (c0:List (UInt64)) (c1:List (UInt64)) (c2:List (UInt64)):OT (Sum cd aI):=
 let z0:Bool:=inB a17 8
 let z1:Bool:=decide (Int.toNat a17+0<List.length c0)
 let z2:Nat:=List.length c2
 (.br (decide (a17<(8:Int)))
 (gd [z0,z1,inB a17 16,decide (Int.toNat a17+0<z2),inR (a17+(8:Int)),inB (a17+(8:Int)) 16,decide (Int.toNat (a17+(8:Int))+0<z2),z0,z1,inR (a17+(1:Int))] (.ok (.inl (((),((),((),(a17+(1:Int),())))),(List.set c0 (Int.toNat a17+0) (List.getD c0 (Int.toNat a17+0) (0:UInt64)^^^(List.getD c2 (Int.toNat a17+0) (0:UInt64)^^^List.getD c2 (Int.toNat (a17+(8:Int))+0) (0:UInt64))),(c1,(c2,())))))))
 (.ok (.inr ⟨(.exit 6,oR),(((),((),())),(c0,(c1,())))⟩)))
def qP (s:cd):OT (Sum cd aI):=arl (s.1.2.2.2.1) (s.2.1) (s.2.2.1) (s.2.2.2.1)
theorem ara (s:cd) (Q:Sum cd aI->Prop):wps te Az ax 1000 (bg (ak Tryz.f106) 6) (qL.inj s) (cz qL V6 (Q:Sum qL.T aI->Prop))=(qP s).wpR Q:=by kernel_rfl
def yG (g6_6:cd->jp) (s:cd):OT aI:=(.ok ⟨(.exit 6,oR),g6_6 s⟩)
def yF:av:=⟨[.val true (.arr 8 .u64)],[],false⟩
def OC:SV->Option av:=λ_=>some yF
def RM (ok0:ci->Bool) (g0_0:ci->js) (ok2:cg->Bool) (g2_2:cg->jr) (ok4:cf->Bool) (g4_4:cf->jq) (ok6:cd->Bool) (g6_6:cd->jp) (a0:List (UInt64)) (a1:List (UInt8)) (a2:UInt64) (a3:Bool):OT gZ.Y:=
 let z0:List UInt64×PUnit:=([(0:UInt64),(0:UInt64),(0:UInt64),(0:UInt64),(0:UInt64),(0:UInt64),(0:UInt64),(0:UInt64),(0:UInt64),(0:UInt64),(0:UInt64),(0:UInt64),(0:UInt64),(0:UInt64),(0:UInt64),(0:UInt64)],())
 let z1:(List UInt8×UInt64×Bool×PUnit×PUnit×PUnit×PUnit×Int×PUnit)×List UInt64×List UInt64×List UInt64×List UInt64×PUnit:=((a1,a2,a3,(),(),(),(),(0:Int),()),tab a0 8 (0:UInt64),[(0:UInt64),(0:UInt64),(0:UInt64),(0:UInt64),(0:UInt64),(0:UInt64),(0:UInt64),(0:UInt64)],[(7640891576956012808:UInt64),(13503953896175478587:UInt64),(4354685564936845355:UInt64),(11912009170470909681:UInt64),(5840696475078001361:UInt64),(11170449401992604703:UInt64),(2270897969802886507:UInt64),(6620516959819538809:UInt64)],z0)
 let z2:(List UInt8×UInt64×Bool×PUnit×PUnit×PUnit×PUnit)×List UInt64×List UInt64×List UInt64×PUnit:=g0_0 z1
 let z3:=z2.snd
 let z4:=z3.snd
 let z5:=z4.snd.fst
 let z6:Bool:=decide (12<List.length z5)
 let z7:=z2.fst
 let z8:=z7.snd
 let z9:List UInt64:=List.set z5 12 (List.getD z5 12 0^^^z8.fst)
 let z10:Bool:=decide (14<List.length z9)
 let z11:List UInt8×PUnit×PUnit×PUnit×PUnit×Int×PUnit:=(z7.fst,(),(),(),(),(0:Int),())
 let z12:=z3.fst
 let z13:=z4.fst
 let z14:(List UInt8×PUnit×PUnit×PUnit×PUnit×Int×PUnit)×List UInt64×List UInt64×List UInt64×List UInt64×PUnit:=(z11,z12,z13,List.set z9 14 (List.getD z9 14 0^^^(18446744073709551615:UInt64)),z0)
 let z15:PUnit×PUnit×PUnit×PUnit×PUnit×Int×PUnit:=((),(),(),(),(),(0:Int),())
 let z16:=(g2_2 z14).snd
 let z17:=z16.snd
 let z18:=z17.snd
 let z19:List (List Int)×PUnit:=([[(0:Int),(1:Int),(2:Int),(3:Int),(4:Int),(5:Int),(6:Int),(7:Int),(8:Int),(9:Int),(10:Int),(11:Int),(12:Int),(13:Int),(14:Int),(15:Int)],[(14:Int),(10:Int),(4:Int),(8:Int),(9:Int),(15:Int),(13:Int),(6:Int),(1:Int),(12:Int),(0:Int),(2:Int),(11:Int),(7:Int),(5:Int),(3:Int)],[(11:Int),(8:Int),(12:Int),(0:Int),(5:Int),(2:Int),(15:Int),(13:Int),(10:Int),(14:Int),(3:Int),(6:Int),(7:Int),(1:Int),(9:Int),(4:Int)],[(7:Int),(9:Int),(3:Int),(1:Int),(13:Int),(12:Int),(11:Int),(14:Int),(2:Int),(6:Int),(5:Int),(10:Int),(4:Int),(0:Int),(15:Int),(8:Int)],[(9:Int),(0:Int),(5:Int),(7:Int),(2:Int),(4:Int),(10:Int),(15:Int),(14:Int),(1:Int),(11:Int),(12:Int),(6:Int),(8:Int),(3:Int),(13:Int)],[(2:Int),(12:Int),(6:Int),(10:Int),(0:Int),(11:Int),(8:Int),(3:Int),(4:Int),(13:Int),(7:Int),(5:Int),(15:Int),(14:Int),(1:Int),(9:Int)],[(12:Int),(5:Int),(1:Int),(15:Int),(14:Int),(13:Int),(4:Int),(10:Int),(0:Int),(7:Int),(6:Int),(3:Int),(9:Int),(2:Int),(8:Int),(11:Int)],[(13:Int),(11:Int),(7:Int),(14:Int),(12:Int),(1:Int),(3:Int),(9:Int),(5:Int),(0:Int),(15:Int),(4:Int),(8:Int),(6:Int),(2:Int),(10:Int)],[(6:Int),(15:Int),(14:Int),(9:Int),(11:Int),(3:Int),(0:Int),(8:Int),(12:Int),(2:Int),(13:Int),(7:Int),(1:Int),(4:Int),(10:Int),(5:Int)],[(10:Int),(2:Int),(8:Int),(4:Int),(7:Int),(6:Int),(1:Int),(5:Int),(15:Int),(11:Int),(9:Int),(14:Int),(3:Int),(12:Int),(13:Int),(0:Int)]],())
 let z20:(PUnit×PUnit×PUnit×PUnit×PUnit×Int×PUnit)×List UInt64×List UInt64×List UInt64×List UInt64×List (List Int)×PUnit:=(z15,z16.fst,z17.fst,z18.fst,z18.snd.fst,z19)
 let z21:PUnit×PUnit×PUnit×Int×PUnit:=((),(),(),(0:Int),())
 let z22:=(g4_4 z20).snd
 let z23:=z22.snd
 let z24:(PUnit×PUnit×PUnit×Int×PUnit)×List UInt64×List UInt64×List UInt64×PUnit:=(z21,z22.fst,z23.fst,z23.snd.fst,())
 let z25:=(g6_6 z24).snd
 let z26:=z25.fst
 let z27:=z25.snd.fst
 let z28:List UInt64:=lay z27 z26 8 (0:UInt64)
 let z29:(List UInt8×PUnit×PUnit×PUnit×PUnit×Int×PUnit)×List UInt64×List UInt64×List UInt64×List UInt64×PUnit:=(z11,z12,z13,z9,z0)
 let z30:=(g2_2 z29).snd
 let z31:=z30.snd
 let z32:=z31.snd
 let z33:(PUnit×PUnit×PUnit×PUnit×PUnit×Int×PUnit)×List UInt64×List UInt64×List UInt64×List UInt64×List (List Int)×PUnit:=(z15,z30.fst,z31.fst,z32.fst,z32.snd.fst,z19)
 let z34:=(g4_4 z33).snd
 let z35:=z34.snd
 let z36:(PUnit×PUnit×PUnit×Int×PUnit)×List UInt64×List UInt64×List UInt64×PUnit:=(z21,z34.fst,z35.fst,z35.snd.fst,())
 let z37:=(g6_6 z36).snd
 let z38:=z37.fst
 let z39:=z37.snd.fst
 let z40:List UInt64:=lay z39 z38 8 (0:UInt64)
 (gd [ok0 z1,z6,z6] (.br (z8.snd.fst)
 (gd [z10,z10,ok2 z14,ok4 z20,ok6 z24,decide (8<=List.length z26),decide ((8/1:Nat)+0<=List.length z27),decide (8<=List.length z28)] (.ok ⟨yF,((tab z28 8 (0:UInt64),()),())⟩))
 (gd [ok2 z29,ok4 z33,ok6 z36,decide (8<=List.length z38),decide ((8/1:Nat)+0<=List.length z39),decide (8<=List.length z40)] (.ok ⟨yF,((tab z40 8 (0:UInt64),()),())⟩))))
theorem ayl (ok0:ci->Bool) (g0_0:ci->js) (ok2:cg->Bool) (g2_2:cg->jr) (ok4:cf->Bool) (g4_4:cf->jq) (ok6:cd->Bool) (g6_6:cd->jp) (x:Cb) (Q:gZ.Y->Prop):wpf te Az (be 6 (cE qL 6 ok6 (yG g6_6)) (be 4 (cE qM 4 ok4 (yH g4_4)) (be 2 (cE qN 2 ok2 (yI g2_2)) (be 0 (cE qO 0 ok0 (yJ g0_0)) ax)))) 1000 Tryz.f106 (gZ.inp.inj x).tm (gZ.inp.inj x).hp (fnK gZ OC Q) (λ_ _=>False)=(RM ok0 g0_0 ok2 g2_2 ok4 g4_4 ok6 g6_6 (x.1.1) (x.1.2.1) (x.1.2.2.1) (x.1.2.2.2.1)).wpR Q:=by kernel_rfl
theorem abL (ok0:ci->Bool) (g0_0:ci->js) (ok2:cg->Bool) (g2_2:cg->jr) (ok4:cf->Bool) (g4_4:cf->jq) (ok6:cd->Bool) (g6_6:cd->jp) (h0:∀ s:ci,ok0 s=true->∃ m e,aA (qS) m s=some e/\(yJ g0_0 s).run=some e) (h2:∀ s:cg,ok2 s=true->∃ m e,aA (qR) m s=some e/\(yI g2_2 s).run=some e) (h4:∀ s:cf,ok4 s=true->∃ m e,aA (qQ) m s=some e/\(yH g4_4 s).run=some e) (h6:∀ s:cd,ok6 s=true->∃ m e,aA (qP) m s=some e/\(yG g6_6 s).run=some e) (pre:Cb->Bool) (F:Cb->OT gZ.Y) (hF:∀ (x:Cb) oy,pre x=true->(F x).run=some oy->(RM ok0 g0_0 ok2 g2_2 ok4 g4_4 ok6 g6_6 (x.1.1) (x.1.2.1) (x.1.2.2.1) (x.1.2.2.2.1)).run=some oy):aa Tryz.prog 106 (gZ.aD pre F):=
 aB al lR oj (f:=106) (fn:=Tryz.f106) (c:=ak Tryz.f106) (by kernel_rfl) (by kernel_rfl) (by kernel_rfl) (S:=gZ) (k:=0) (by kernel_rfl) (λR hR=>(aG (c:=(ak Tryz.f106)) (by kernel_rfl) (id:=6) (by kernel_rfl) (ba al lR oj (sh:=qL) hR (xs:=V6) (aF (by kernel_rfl) (by kernel_rfl) hR) aN ae (n:=1000) (T:=qP) (λs Q=>ara s Q) (ok:=ok6) (f:=yG g6_6) h6) (aG (c:=(ak Tryz.f106)) (by kernel_rfl) (id:=4) (by kernel_rfl) (ba al lR oj (sh:=qM) hR (xs:=V7) (aF (by kernel_rfl) (by kernel_rfl) hR) aN ae (n:=1000) (T:=qQ) (λs Q=>arb s Q) (ok:=ok4) (f:=yH g4_4) h4) (aG (c:=(ak Tryz.f106)) (by kernel_rfl) (id:=2) (by kernel_rfl) (ba al lR oj (sh:=qN) hR (xs:=V8) (aF (by kernel_rfl) (by kernel_rfl) hR) aN ae (n:=1000) (T:=qR) (λs Q=>arc s Q) (ok:=ok2) (f:=yI g2_2) h2) (aG (c:=(ak Tryz.f106)) (by kernel_rfl) (id:=0) (by kernel_rfl) (ba al lR oj (sh:=qO) hR (xs:=V9) (aF (by kernel_rfl) (by kernel_rfl) hR) aN ae (n:=1000) (T:=qS) (λs Q=>ard s Q) (ok:=ok0) (f:=yJ g0_0) h0) ae))))) (n:=1000) (sel:=OC) (λv o h=>by cases h;rfl) (pre:=pre) (F:=F) (T:=λx=>RM ok0 g0_0 ok2 g2_2 ok4 g4_4 ok6 g6_6 (x.1.1) (x.1.2.1) (x.1.2.2.1) (x.1.2.2.2.1)) (λx Q=>ayl ok0 g0_0 ok2 g2_2 ok4 g4_4 ok6 g6_6 x Q) hF
theorem aEz {h:List UInt64} (hh:h.length=8):upto (λk v=>(v.set k (h.getD k 0)).set (k+8) (bIV.getD k 0)) (List.replicate 16 0) 8=h++bIV:=by
 have e:=iO (x:=h) (n:=8) (d:=0) hh
 rw [<-e]
 rfl
def Ca (s:ci):Bool:=decide (s.1.2.2.2.2.2.2.2.1=0/\s.2.1.length=8/\s.2.2.2.1=bIV/\s.2.2.2.2.1=List.replicate 16 0)
def kZ (s:ci):js:=((s.1.1,s.1.2.1,s.1.2.2.1,(),(),(),()),(s.2.1,s.2.2.1,s.2.1++bIV,()))
theorem ark:∀ s:ci,Ca s=true->∃ m e,aA qS m s=some e/\(yJ kZ s).run=some e:=by
 rintro ⟨⟨b,t,l,⟨⟩,⟨⟩,⟨⟩,⟨⟩,i,⟨⟩⟩,⟨h,c1,c2,c3,⟨⟩⟩⟩ hh
 have h':=of_decide_eq_true hh
 dsimp only at h'
 obtain ⟨rfl,hl,rfl,rfl⟩:=h'
 have:=(aR (T:=qS) (λk v=>(((b,t,l,(),(),(),(),(k:Int),()),(h,c1,bIV,v,())):ci)) (λk v=>(v.set k (h.getD k 0)).set (k+8) (bIV.getD k 0))
  (λv=>(⟨(.exit 0,oU),((b,t,l,(),(),(),()),(h,c1,v,()))⟩:aI)) 8 (List.replicate 16 0) (λ_ v=>v.length=16) (by simp) (λk v hk hv=>⟨?_,by rw [List.length_set,List.length_set];exact hv⟩) (λv hv=> ?_)).1
 ·obtain ⟨m,hm⟩:=this
  rw [aEz hl] at hm
  exact ⟨m,_,hm,rfl⟩
 ·have e1:((k:Int)+8).toNat=k+8:=by omega
  refine (OT.az (decide_eq_true (by dsimp only;omega))).trans ((aj ?_).trans ?_)
  ·simp only [e1,List.length_set,hl,hv,List.all_cons,List.all_nil,Bool.and_true,Bool.and_eq_true]
   exact ⟨aM (by omega),decide_eq_true (by omega),aM (by omega),decide_eq_true (by omega),aL (by omega),aM (by omega),decide_eq_true (show k+0<8 by omega),aM (by omega),decide_eq_true (by omega),aL (by omega)⟩
  ·simp only [OT.cI,e1,Nat.add_zero]
   rfl
 ·exact OT.aq (decide_eq_false (by dsimp only;omega))
def j4 (b:List UInt8):List UInt64:=upto (λk m=>m.set k (gY b (8*k))) (List.replicate 16 0) 16
theorem Ib (b:List UInt8):(j4 b).length=16:=by
 unfold j4;rw [kC (λk v=>List.length_set)];rfl
def B9 (s:cg):Bool:=decide (s.1.2.2.2.2.2.1=0/\s.2.2.2.2.1=List.replicate 16 0)
def m9 (s:cg):jr:=(((),(),(),(),()),(s.2.1,s.2.2.1,s.2.2.2.1,j4 s.1.1,()))
theorem arj:∀ s:cg,B9 s=true->∃ m e,aA qR m s=some e/\(yI m9 s).run=some e:=by
 rintro ⟨⟨b,⟨⟩,⟨⟩,⟨⟩,⟨⟩,i,⟨⟩⟩,⟨c0,c1,c2,c3,⟨⟩⟩⟩ hh
 have h':=of_decide_eq_true hh
 dsimp only at h'
 obtain ⟨rfl,rfl⟩:=h'
 have:=(aR (T:=qR) (λk m=>(((b,(),(),(),(),(k:Int),()),(c0,c1,c2,m,())):cg)) (λk m=>m.set k (gY b (8*k)))
  (λm=>(⟨(.exit 2,oT),(((),(),(),(),()),(c0,c1,c2,m,()))⟩:aI)) 16 (List.replicate 16 0) (λ_ m=>m.length=16) (by simp) (λk m hk hm=>⟨?_,by rw [List.length_set];exact hm⟩) (λm hm=> ?_)).1
 ·obtain ⟨n,hn⟩:=this
  exact ⟨n,_,hn,rfl⟩
 ·have e1:(8*(k:Int)).toNat=8*k:=by omega
  refine (OT.az (decide_eq_true (by dsimp only;omega))).trans ((aj ?_).trans ?_)
  ·simp only [e1,hm,List.all_cons,List.all_nil,Bool.and_true,Bool.and_eq_true]
   exact ⟨aL (by omega),decide_eq_true (by dsimp only;omega),aM (by omega),decide_eq_true (by omega),aL (by omega)⟩
  ·simp only [OT.cI,e1,Nat.add_zero]
   rfl
 ·exact OT.aq (decide_eq_false (by dsimp only;omega))
def MS (k:Nat):List Int:=Nr.getD (k%10) (List.replicate 16 0)
theorem abF (k:Nat) {j:Nat} (hj:j<16):nib ((rowAt k).getD j 0)=(MS k).getD j 0/\inB ((MS k).getD j 0) 16=true:=by
 have hk:k%10<10:=Nat.mod_lt _ (by decide)
 unfold rowAt MS
 generalize k%10=r at hk
 have h:∀ r:Fin 10,∀ j:Fin 16,nib ((gj.getD r.val []).getD j.val 0)=(Nr.getD r.val (List.replicate 16 0)).getD j.val 0/\inB ((Nr.getD r.val (List.replicate 16 0)).getD j.val 0) 16=true:=by decide+kernel
 exact h ⟨r,hk⟩ ⟨j,hj⟩
theorem aHA (m:List UInt64) (k:Nat) {j:Nat} (hj:j<16):atF m (rowAt k) (j:Int)=m.getD ((MS k).getD j 0).toNat 0:=by
 unfold atF
 rw [Int.toNat_natCast,(abF k hj).1]
theorem asN {v:List UInt64} (hv:v.length=16) (a b c d:Nat) (x y:UInt64):lay v (zq (tab v 16 0) a b c d x y) 16 0=zq v a b c d x y:=by
 rw [iO hv]
 exact vo hv (by rw [fC];exact hv)
def ah6 (m:List UInt64) (k:Nat) (v:List UInt64):List UInt64:=
 let g:=λj=>m.getD ((MS k).getD j 0).toNat 0
 zq (zq (zq (zq (zq (zq (zq (zq v 0 4 8 12 (g 0) (g 1)) 1 5 9 13 (g 2) (g 3)) 2 6 10 14 (g 4) (g 5)) 3 7 11 15 (g 6) (g 7)) 0 5 10 15 (g 8) (g 9)) 1 6 11 12 (g 10) (g 11)) 2 7 8 13 (g 12) (g 13)) 3 4 9 14 (g 14) (g 15)
theorem ayg (m:List UInt64) (k:Nat) (v:List UInt64):XP m (rowAt k) (XQ m (rowAt k) v)=ah6 m k v:=by
 have h:=λ{j:Nat} (hj:j<16)=>aHA m k hj
 have a0:atF m (rowAt k) (2*((0:Nat):Int))=m.getD ((MS k).getD 0 0).toNat 0:=h (j:=0) (by decide)
 have a1:atF m (rowAt k) (2*((0:Nat):Int)+1)=m.getD ((MS k).getD 1 0).toNat 0:=h (j:=1) (by decide)
 have a2:atF m (rowAt k) (2*((1:Nat):Int))=m.getD ((MS k).getD 2 0).toNat 0:=h (j:=2) (by decide)
 have a3:atF m (rowAt k) (2*((1:Nat):Int)+1)=m.getD ((MS k).getD 3 0).toNat 0:=h (j:=3) (by decide)
 have a4:atF m (rowAt k) (2*((2:Nat):Int))=m.getD ((MS k).getD 4 0).toNat 0:=h (j:=4) (by decide)
 have a5:atF m (rowAt k) (2*((2:Nat):Int)+1)=m.getD ((MS k).getD 5 0).toNat 0:=h (j:=5) (by decide)
 have a6:atF m (rowAt k) (2*((3:Nat):Int))=m.getD ((MS k).getD 6 0).toNat 0:=h (j:=6) (by decide)
 have a7:atF m (rowAt k) (2*((3:Nat):Int)+1)=m.getD ((MS k).getD 7 0).toNat 0:=h (j:=7) (by decide)
 have a8:atF m (rowAt k) (8+2*((0:Nat):Int))=m.getD ((MS k).getD 8 0).toNat 0:=h (j:=8) (by decide)
 have a9:atF m (rowAt k) (9+2*((0:Nat):Int))=m.getD ((MS k).getD 9 0).toNat 0:=h (j:=9) (by decide)
 have a10:atF m (rowAt k) (8+2*((1:Nat):Int))=m.getD ((MS k).getD 10 0).toNat 0:=h (j:=10) (by decide)
 have a11:atF m (rowAt k) (9+2*((1:Nat):Int))=m.getD ((MS k).getD 11 0).toNat 0:=h (j:=11) (by decide)
 have a12:atF m (rowAt k) (8+2*((2:Nat):Int))=m.getD ((MS k).getD 12 0).toNat 0:=h (j:=12) (by decide)
 have a13:atF m (rowAt k) (9+2*((2:Nat):Int))=m.getD ((MS k).getD 13 0).toNat 0:=h (j:=13) (by decide)
 have a14:atF m (rowAt k) (8+2*((3:Nat):Int))=m.getD ((MS k).getD 14 0).toNat 0:=h (j:=14) (by decide)
 have a15:atF m (rowAt k) (9+2*((3:Nat):Int))=m.getD ((MS k).getD 15 0).toNat 0:=h (j:=15) (by decide)
 simp only [XQ,XP,upto,a0,a1,a2,a3,a4,a5,a6,a7,a8,a9,a10,a11,a12,a13,a14,a15,Nat.reduceAdd,Nat.reduceMod,ah6]
def B8 (s:cf):Bool:=decide (s.1.2.2.2.2.2.1=0/\s.2.2.2.1.length=16/\s.2.2.2.2.1.length=16/\s.2.2.2.2.2.1=Nr)
def m8 (s:cf):jq:=(((),(),(),()),(s.2.1,s.2.2.1,j3 s.2.2.2.2.1 s.2.2.2.1,()))
theorem ari:∀ s:cf,B8 s=true->∃ m e,aA qQ m s=some e/\(yH m8 s).run=some e:=by
 rintro ⟨⟨⟨⟩,⟨⟩,⟨⟩,⟨⟩,⟨⟩,i,⟨⟩⟩,⟨c0,c1,v,m,c4,⟨⟩⟩⟩ hh
 have h':=of_decide_eq_true hh
 dsimp only at h'
 obtain ⟨rfl,hv,hm,rfl⟩:=h'
 have:=(aR (T:=qQ) (λk v=>((((),(),(),(),(),(k:Int),()),(c0,c1,v,m,Nr,())):cf)) (λk v=>XP m (rowAt k) (XQ m (rowAt k) v))
  (λv=>(⟨(.exit 4,oS),(((),(),(),()),(c0,c1,v,()))⟩:aI)) 12 v (λ_ v=>v.length=16) hv (λk v hk hv=>⟨?_,by rw [rF,mw];exact hv⟩) (λv hv=> ?_)).1
 ·obtain ⟨n,hn⟩:=this
  exact ⟨n,_,hn,rfl⟩
 ·have t1:Int.tmod (k:Int) 10=((k%10:Nat):Int):=by rw [Int.tmod_eq_emod_of_nonneg (by omega)];omega
  have e1:((k%10:Nat):Int).toNat=k%10:=by omega
  have hrow:Nr.getD (k%10) [0,0,0,0,0,0,0,0,0,0,0,0,0,0,0,0]=MS k:=rfl
  have hb:=λ{j:Nat} (hj:j<16)=>(abF k hj).2
  have hn:=λ{j:Nat} (hj:j<16)=>vq (abF k hj).2
  refine (OT.az (decide_eq_true (by dsimp only;omega))).trans ((aj ?_).trans ?_)
  ·simp only [t1,e1,Nat.add_zero,hrow,asN,fS,fC,hv,hm,hb,hn,List.all_cons,List.all_nil,Bool.and_true,Bool.and_eq_true,decide_true,Nat.le_refl,Nat.reduceLT,true_and,Nat.reduceDiv]
   exact ⟨aM (by omega),decide_eq_true (show k%10<10 by omega),aL (by omega)⟩
  ·simp only [OT.cI,t1,e1,Nat.add_zero,hrow,asN,fS,fC,hv,ayg]
   rfl
 ·exact OT.aq (decide_eq_false (by dsimp only;omega))
def B7 (s:cd):Bool:=decide (s.1.2.2.2.1=0/\s.2.1.length=8/\s.2.2.2.1.length=16)
def m7 (s:cd):jp:=(((),(),()),(Jk s.2.1 s.2.2.2.1,s.2.2.1,()))
theorem arh:∀ s:cd,B7 s=true->∃ m e,aA qP m s=some e/\(yG m7 s).run=some e:=by
 rintro ⟨⟨⟨⟩,⟨⟩,⟨⟩,i,⟨⟩⟩,⟨h,c1,v,⟨⟩⟩⟩ hh
 have h':=of_decide_eq_true hh
 dsimp only at h'
 obtain ⟨rfl,hl,hv⟩:=h'
 have:=(aR (T:=qP) (λk h=>((((),(),(),(k:Int),()),(h,c1,v,())):cd)) (λk h=>h.set k (h.getD k 0^^^(v.getD k 0^^^v.getD (k+8) 0)))
  (λh=>(⟨(.exit 6,oR),(((),(),()),(h,c1,()))⟩:aI)) 8 h (λ_ h=>h.length=8) hl (λk h hk hl=>⟨?_,by rw [List.length_set];exact hl⟩) (λh hl=> ?_)).1
 ·obtain ⟨n,hn⟩:=this
  exact ⟨n,_,hn,rfl⟩
 ·have e1:((k:Int)+8).toNat=k+8:=by omega
  refine (OT.az (decide_eq_true (by dsimp only;omega))).trans ((aj ?_).trans ?_)
  ·simp only [e1,hl,hv,List.all_cons,List.all_nil,Bool.and_true,Bool.and_eq_true]
   exact ⟨aM (by omega),decide_eq_true (by omega),aM (by omega),decide_eq_true (by omega),aL (by omega),aM (by omega),decide_eq_true (by omega),aM (by omega),decide_eq_true (by omega),aL (by omega)⟩
  ·simp only [OT.cI,e1,Nat.add_zero]
   rfl
 ·exact OT.aq (decide_eq_false (by dsimp only;omega))
theorem aAB (x:UInt64):x^^^18446744073709551615= ~~~x:=by
 rw [<-UInt64.toBitVec_inj]
 show x.toBitVec^^^BitVec.allOnes 64= ~~~ x.toBitVec
 exact BitVec.xor_allOnes
theorem RL {b:List UInt8} {t:UInt64} {l:Bool} {h c1:List UInt64} (hh:h.length=8):Ca ((b,t,l,(),(),(),(),0,()),(h,c1,bIV,[0,0,0,0,0,0,0,0,0,0,0,0,0,0,0,0],()))=true:=decide_eq_true ⟨rfl,hh,rfl,rfl⟩
theorem yE {b:List UInt8} {c0 c1 c2:List UInt64}:B9 ((b,(),(),(),(),0,()),(c0,c1,c2,[0,0,0,0,0,0,0,0,0,0,0,0,0,0,0,0],()))=true:=decide_eq_true ⟨rfl,rfl⟩
theorem yD {c0 c1 v m:List UInt64} (hv:v.length=16) (hm:m.length=16):B8 (((),(),(),(),(),0,()),(c0,c1,v,m,Nr,()))=true:=decide_eq_true ⟨rfl,hv,hm,rfl⟩
theorem yC {c0 c1 v:List UInt64} (h0:c0.length=8) (hv:v.length=16):B7 (((),(),(),0,()),(c0,c1,v,()))=true:=decide_eq_true ⟨rfl,h0,hv⟩
def dA (h:List UInt64) (b:List UInt8) (t:UInt64) (last:Bool):List UInt64:=Jk h (j3 (j4 b) (ql h t last))
def OD (x:Cb):Bool:=decide (x.1.1.length=8)
def ah8 (x:Cb):OT gZ.Y:=.ok ⟨yF,((dA x.1.1 x.1.2.1 x.1.2.2.1 x.1.2.2.2.1,()),())⟩
theorem arf:aa Tryz.prog 106 (gZ.aD OD ah8):=abL Ca kZ B9 m9 B8 m8 B7 m7 ark arj ari arh _ _ λx oy hp ho=>by
 rw [<-ho]
 clear ho
 obtain ⟨⟨h,b,t,last,⟨⟩⟩,⟨⟩⟩:=x
 have hh:h.length=8:=of_decide_eq_true hp
 have t1:tab h 8 0=h:=iO hh
 have hv:∀ c l,(ql h c l).length=16:=λc l=>by
  unfold ql
  cases l<;>simp [hh]<;>rfl
 have hm:(j4 b).length=16:=Ib b
 have hr:∀ c l,(j3 (j4 b) (ql h c l)).length=16:=λc l=>by rw [qH];exact hv c l
 have hM:∀ c l,(dA h b c l).length=8:=λc l=>by unfold dA;rw [j8];exact hh
 have hi:(h++bIV).length=16:=by simp [hh];rfl
 have e8: [(7640891576956012808:UInt64),13503953896175478587,4354685564936845355,11912009170470909681,5840696475078001361,11170449401992604703,2270897969802886507,6620516959819538809]=bIV:=rfl
 have key:∀ M:List UInt64,M.length=8->tab (lay [(0:UInt64),0,0,0,0,0,0,0] M 8 0) 8 0=M:=λM hM=>by rw [vo (n:=8) rfl hM,iO hM]
 have l1:List.set (h++bIV) 12 ((h++bIV).getD 12 0^^^t)=ql h t false:=rfl
 have l2:List.set (ql h t false) 14 (~~~(ql h t false).getD 14 0)=ql h t true:=rfl
 have l3:∀ c l,Jk h (j3 (j4 b) (ql h c l))=dA h b c l:=λ_ _=>rfl
 have l4:tab Nr 10 (List.replicate 16 0)=Nr:=iO rfl
 refine (aj ?_).trans ?_
 ·simp only [t1,List.all_cons,List.all_nil,Bool.and_true,Bool.and_eq_true]
  rw [e8]
  simp only [kZ,hi]
  exact ⟨RL hh,rfl,rfl⟩
 ·cases last
  ·refine (OT.aq rfl).trans ((aj ?_).trans ?_)
   ·simp only [t1,List.all_cons,List.all_nil,Bool.and_true,Bool.and_eq_true]
    rw [e8]
    simp only [kZ,m9,m8,m7,l1,l3,fS,hM]
    exact ⟨yE,yD (hv _ _) hm,yC hh (hr _ _),rfl,rfl,rfl⟩
   ·simp only [t1]
    rw [e8]
    simp only [kZ,m9,m8,m7,l1,l3]
    rw [key _ (hM _ _)]
    rfl
  ·refine (OT.az rfl).trans ((aj ?_).trans ?_)
   ·simp only [t1,List.all_cons,List.all_nil,Bool.and_true,Bool.and_eq_true]
    rw [e8]
    simp only [kZ,m9,m8,m7,l1,aAB,l2,l3,fS,hM,hv]
    exact ⟨rfl,rfl,yE,yD (hv _ _) hm,yC hh (hr _ _),rfl,rfl,rfl⟩
   ·simp only [t1]
    rw [e8]
    simp only [kZ,m9,m8,m7,l1,aAB,l2,l3]
    rw [key _ (hM _ _)]
    rfl
def wc:bw:=(gZ.aD OD ah8)
theorem Wb:aa Tryz.prog 106 wc:=arf
theorem Wa:aC wc:=ay
def pP:Env:=aw 106 wc Az
theorem lS:aK Tryz.prog pP:=af Wb lR
theorem AA:ar pP:=ab Wa LQ
theorem sI:aO Tryz.prog te pP:=aE follows al lS AA
def qG:ap:=⟨[.val false .str,.val false .int,.val false (.list .u8)],[],true,0,false⟩
abbrev ak8:Type:=((List UInt8)×(Int)×(List (UInt8))×Unit)×(Unit)
def HY:Shape:=⟨90,[(1,.val false .int),(2,.val false (.list .u8)),(8,.ptr 0 0 0),(9,.val false .int)],[(0,.row .u64)],0,true⟩
abbrev dy:Type:=((Int)×(List (UInt8))×(Unit)×(Int)×Unit)×((List (UInt64))×Unit)
def yu:Shape:=⟨90,[(1,.val false .int),(2,.val false (.list .u8)),(8,.ptr 0 0 0),(9,.val false .int)],[(0,.row .u64)],0,true⟩
abbrev m5:Type:=((Int)×(List (UInt8))×(Unit)×(Int)×Unit)×((List (UInt64))×Unit)
def aqK:SE->Option Shape:=gI [(0,yu)] none
def aDM (a1:Int) (a2:List (UInt8)) (a9:Int) (c0:List (UInt64)):OT (Sum dy aI):=
 let z0:Nat:=List.length a2
 let z1:Nat:=List.length c0
 let z2:Bool:=inR (a9+(128:Int))
 (gd [inR ((↑z0:Int)-a9)] (.br (decide ((128:Int)<(↑z0:Int)-a9))
 (gd [decide (8<=z1),z2,bj a9 (a9+(128:Int)) z0,z2,decide ((8/1:Nat)+0<=z1),z2] (.ok (.inl ((a1,(a2,((),(a9+(128:Int),())))),(lay c0 (dA (tab c0 8 (0:UInt64)) (List.drop (Int.toNat a9) (List.take (Int.toNat (a9+(128:Int))) a2)) (i2u (a9+(128:Int))) false) 8 (0:UInt64),())))))
 (.ok (.inr ⟨(.exit 0,yu),((a1,(a2,((),(a9,())))),(c0,()))⟩))))
def H2 (s:dy):OT (Sum dy aI):=aDM (s.1.1) (s.1.2.1) (s.1.2.2.2.1) (s.2.1)
theorem aDH (s:dy) (Q:Sum dy aI->Prop):wps te pP ax 1000 (bg (ak Tryz.f63) 0) (HY.inj s) (cz HY aqK (Q:Sum HY.T aI->Prop))=(H2 s).wpR Q:=by kernel_rfl
def RB (g0_0:dy->m5) (s:dy):OT aI:=(.ok ⟨(.exit 0,yu),g0_0 s⟩)
def HX:Shape:=⟨90,[(1,.val false .int),(8,.ptr 0 0 0),(10,.own 1),(11,.val false .int)],[(0,.row .u64),(1,.row .u8)],0,true⟩
abbrev dx:Type:=((Int)×(Unit)×(Unit)×(Int)×Unit)×((List (UInt64))×(List (UInt8))×Unit)
def yt:Shape:=⟨90,[(10,.own 0)],[(0,.row .u8)],0,true⟩
abbrev m4:Type:=((Unit)×Unit)×((List (UInt8))×Unit)
def aqJ:SE->Option Shape:=gI [(2,yt)] none
def aDL (a1:Int) (a11:Int) (c0:List (UInt64)) (c1:List (UInt8)):OT (Sum dx aI):=
 let z0:Int:=Int.tdiv a11 (8:Int)
 let z1:Int:=(8:Int)*Int.tmod a11 (8:Int)
 (.br (decide (a11<a1))
 (gd [true&&inR z0,inB z0 8,decide (Int.toNat z0+0<List.length c0),inR z1,decide ((List.length c1+1)*1<=140737488355328),inR (a11+(1:Int))] (.ok (.inl ((a1,((),((),(a11+(1:Int),())))),(c0,(c1++ [UInt64.toUInt8 (aZ (List.getD c0 (Int.toNat z0+0) (0:UInt64)) (↑(UInt64.toNat (i2u z1)):Int))],()))))))
 (.ok (.inr ⟨(.exit 2,yt),(((),()),(c1,()))⟩)))
def HZ (s:dx):OT (Sum dx aI):=aDL (s.1.1) (s.1.2.2.2.1) (s.2.1) (s.2.2.1)
theorem aDG (s:dx) (Q:Sum dx aI->Prop):wps te pP ax 1000 (bg (ak Tryz.f63) 2) (HX.inj s) (cz HX aqJ (Q:Sum HX.T aI->Prop))=(HZ s).wpR Q:=by kernel_rfl
def RA (g2_2:dx->m4) (s:dx):OT aI:=(.ok ⟨(.exit 2,yt),g2_2 s⟩)
def vY:av:=⟨[.own 0,.val false .int],[(0,.row .u8)],false⟩
def ahX:SV->Option av:=λ_=>some vY
def H3 (ok0:dy->Bool) (g0_0:dy->m5) (ok2:dx->Bool) (g2_2:dx->m4) (a0:List UInt8) (a1:Int) (a2:List (UInt8)):OT qG.Y:=
 let z0:(Int×List UInt8×PUnit×Int×PUnit)×List UInt64×PUnit:=((a1,a2,(),(0:Int),()),[(7640891576956012808:UInt64)^^^(16842752:UInt64)+i2u a1,(13503953896175478587:UInt64),(4354685564936845355:UInt64),(11912009170470909681:UInt64),(5840696475078001361:UInt64),(11170449401992604703:UInt64),(2270897969802886507:UInt64)^^^gY a0 (Int.toNat (0:Int)),(6620516959819538809:UInt64)^^^gY a0 (Int.toNat (8:Int))],())
 let z1:(Int×List UInt8×PUnit×Int×PUnit)×List UInt64×PUnit:=g0_0 z0
 let z2:=z1.snd.fst
 let z3:Nat:=List.length z2
 let z4:=z1.fst
 let z5:=z4.snd
 let z6:=z5.snd.snd.fst
 let z7:=z5.fst
 let z8:Nat:=List.length z7
 let z9:Int:=(↑z8:Int)
 let z10:(Int×PUnit×PUnit×Int×PUnit)×List UInt64×List UInt8×PUnit:=((z4.fst,(),(),(0:Int),()),lay z2 (dA (tab z2 8 (0:UInt64)) (List.drop (Int.toNat z6) z7) (i2u z9) true) 8 (0:UInt64),[],())
 (.br (decide ((16:Int)<(↑(List.length a0):Int)))
 (.ok ⟨vY,(((),((30:Int),())),([],()))⟩)
 (.br (decide (a1<(1:Int)))
  (.ok ⟨vY,(((),((30:Int),())),([],()))⟩)
  (.br (decide ((64:Int)<a1))
   (.ok ⟨vY,(((),((30:Int),())),([],()))⟩)
   (gd [ok0 z0,decide (8<=z3),bj z6 z9 z8,decide ((8/1:Nat)+0<=z3),ok2 z10] (.ok ⟨vY,(((),((0:Int),())),((g2_2 z10).snd.fst,()))⟩)))))
theorem aGy (ok0:dy->Bool) (g0_0:dy->m5) (ok2:dx->Bool) (g2_2:dx->m4) (x:ak8) (Q:qG.Y->Prop):wpf te pP (be 2 (cE HX 2 ok2 (RA g2_2)) (be 0 (cE HY 0 ok0 (RB g0_0)) ax)) 1000 Tryz.f63 (qG.inp.inj x).tm (qG.inp.inj x).hp (fnK qG ahX Q) (λ_ _=>False)=(H3 ok0 g0_0 ok2 g2_2 (x.1.1) (x.1.2.1) (x.1.2.2.1)).wpR Q:=by kernel_rfl
theorem aqL (ok0:dy->Bool) (g0_0:dy->m5) (ok2:dx->Bool) (g2_2:dx->m4) (h0:∀ s:dy,ok0 s=true->∃ m e,aA (H2) m s=some e/\(RB g0_0 s).run=some e) (h2:∀ s:dx,ok2 s=true->∃ m e,aA (HZ) m s=some e/\(RA g2_2 s).run=some e) (pre:ak8->Bool) (F:ak8->OT qG.Y) (hF:∀ (x:ak8) oy,pre x=true->(F x).run=some oy->(H3 ok0 g0_0 ok2 g2_2 (x.1.1) (x.1.2.1) (x.1.2.2.1)).run=some oy):aa Tryz.prog 63 (qG.aD pre F):=
 aB al lS sI (f:=63) (fn:=Tryz.f63) (c:=ak Tryz.f63) (by kernel_rfl) (by kernel_rfl) (by kernel_rfl) (S:=qG) (k:=0) (by kernel_rfl) (λR hR=>(aG (c:=(ak Tryz.f63)) (by kernel_rfl) (id:=2) (by kernel_rfl) (ba al lS sI (sh:=HX) hR (xs:=aqJ) (aF (by kernel_rfl) (by kernel_rfl) hR) aN ae (n:=1000) (T:=HZ) (λs Q=>aDG s Q) (ok:=ok2) (f:=RA g2_2) h2) (aG (c:=(ak Tryz.f63)) (by kernel_rfl) (id:=0) (by kernel_rfl) (ba al lS sI (sh:=HY) hR (xs:=aqK) (aF (by kernel_rfl) (by kernel_rfl) hR) aN ae (n:=1000) (T:=H2) (λs Q=>aDH s Q) (ok:=ok0) (f:=RB g0_0) h0) ae))) (n:=1000) (sel:=ahX) (λv o h=>by cases h;rfl) (pre:=pre) (F:=F) (T:=λx=>H3 ok0 g0_0 ok2 g2_2 (x.1.1) (x.1.2.1) (x.1.2.2.1)) (λx Q=>aGy ok0 g0_0 ok2 g2_2 x Q) hF
def m6 (b:List UInt8) (h:List UInt64) (n:Nat):List UInt64:=upto (λk h=>dA h ((b.take (128*k+128)).drop (128*k)) (i2u ((128*k+128:Nat):Int)) false) h n
def yA (h:List UInt64) (n:Nat):List UInt8:=upto (λk o=>o++ [UInt64.toUInt8 (aZ (h.getD (k/8) 0) ((i2u (8*((k%8:Nat):Int))).toNat:Int))]) [] n
theorem fq {h:List UInt64} {b:List UInt8} {t:UInt64} {l:Bool} (hh:h.length=8):(dA h b t l).length=8:=by unfold dA;rw [j8];exact hh
def Rz (s:dy):Bool:=decide (s.1.2.2.2.1=0/\s.2.1.length=8/\s.1.2.1.length<=1000000000000)
def abB (s:dy):m5:=((s.1.1,s.1.2.1,(),((128*((s.1.2.1.length-1)/128):Nat):Int),()),(m6 s.1.2.1 s.2.1 ((s.1.2.1.length-1)/128),()))
theorem aDK:∀ s:dy,Rz s=true->∃ m e,aA H2 m s=some e/\(RB abB s).run=some e:=by
 rintro ⟨⟨n,b,⟨⟩,i,⟨⟩⟩,⟨h,⟨⟩⟩⟩ hh
 have h':=of_decide_eq_true hh
 dsimp only at h'
 obtain ⟨rfl,hl,hb⟩:=h'
 have:=(aR (T:=H2) (λk h=>(((n,b,(),((128*k:Nat):Int),()),(h,())):dy)) (λk h=>dA h ((b.take (128*k+128)).drop (128*k)) (i2u ((128*k+128:Nat):Int)) false)
  (λh=>(⟨(.exit 0,yu),((n,b,(),((128*((b.length-1)/128):Nat):Int),()),(h,()))⟩:aI)) ((b.length-1)/128) h (λ_ h=>h.length=8) hl (λk h hk hl=>⟨?_,fq hl⟩) (λh hl=> ?_)).1
 ·obtain ⟨m,hm⟩:=this
  exact ⟨m,_,hm,rfl⟩
 ·have e1:(((128*k:Nat):Int)+128).toNat=128*k+128:=by omega
  have e2:(((128*k:Nat):Int)).toNat=128*k:=by omega
  have e3:((128*k:Nat):Int)+128=((128*k+128:Nat):Int):=by omega
  have e4:((128*(k+1):Nat):Int)=((128*k+128:Nat):Int):=by omega
  have t1:tab h 8 0=h:=iO hl
  have t2:∀ c l t,lay h (dA h c t l) 8 0=dA h c t l:=λc l t=>vo hl (fq hl)
  refine (aj (by simp only [List.all_cons,List.all_nil,Bool.and_true];exact aL (by omega))).trans ((OT.az (decide_eq_true (by dsimp only;omega))).trans ((aj ?_).trans ?_))
  ·simp only [hl,List.all_cons,List.all_nil,Bool.and_true,Bool.and_eq_true]
   exact ⟨rfl,aL (by omega),bu (by omega),aL (by omega),rfl,aL (by omega)⟩
  ·simp only [OT.cI,e2,e3,e4,t1,t2,Int.toNat_natCast]
 ·refine (aj (by simp only [List.all_cons,List.all_nil,Bool.and_true];exact aL (by omega))).trans (OT.aq (decide_eq_false (by dsimp only;omega)))
def Ry (s:dx):Bool:=decide (s.1.2.2.2.1=0/\s.2.1.length=8/\s.1.1<=64/\0<=s.1.1/\s.2.2.1= [])
def aqM (s:dx):m4:=(((),()),(yA s.2.1 s.1.1.toNat,()))
theorem aDJ:∀ s:dx,Ry s=true->∃ m e,aA HZ m s=some e/\(RA aqM s).run=some e:=by
 rintro ⟨⟨n,⟨⟩,⟨⟩,i,⟨⟩⟩,⟨h,o,⟨⟩⟩⟩ hh
 have h':=of_decide_eq_true hh
 dsimp only at h'
 obtain ⟨rfl,hl,hn,hn0,rfl⟩:=h'
 obtain ⟨k,rfl⟩:∃ k:Nat,n=(k:Int):=⟨n.toNat,by omega⟩
 have:=(aR (T:=HZ) (λi o=>((((k:Int),(),(),(i:Int),()),(h,o,())):dx)) (λk o=>o++ [UInt64.toUInt8 (aZ (h.getD (k/8) 0) ((i2u (8*((k%8:Nat):Int))).toNat:Int))])
  (λo=>(⟨(.exit 2,yt),(((),()),(o,()))⟩:aI)) k [] (λi o=>o.length=i) rfl (λi o hi ho=>⟨?_,by simp [ho]⟩) (λo ho=> ?_)).1
 ·obtain ⟨m,hm⟩:=this
  exact ⟨m,_,hm,rfl⟩
 ·have t1:Int.tdiv (i:Int) 8=((i/8:Nat):Int):=by rw [Int.tdiv_eq_ediv_of_nonneg (by omega)];omega
  have t2:Int.tmod (i:Int) 8=((i%8:Nat):Int):=by rw [Int.tmod_eq_emod_of_nonneg (by omega)];omega
  refine (OT.az (decide_eq_true (by dsimp only;omega))).trans ((aj ?_).trans ?_)
  ·simp only [t1,t2,hl,ho,Int.toNat_natCast,List.all_cons,List.all_nil,Bool.and_true,Bool.and_eq_true]
   exact ⟨⟨trivial,aL (by omega)⟩,aM (by omega),decide_eq_true (by omega),aL (by omega),decide_eq_true (by omega),aL (by omega)⟩
  ·simp only [OT.cI,t1,t2,Int.toNat_natCast,Nat.add_zero]
   rfl
 ·exact OT.aq (decide_eq_false (by dsimp only;omega))
def aq8 (p:List UInt8) (n:Int):List UInt64:= [0x6a09e667f3bcc908^^^(16842752+i2u n),0xbb67ae8584caa73b,0x3c6ef372fe94f82b,0xa54ff53a5f1d36f1,0x510e527fade682d1,0x9b05688c2b3e6c1f,0x1f83d9abfb41bd6b^^^gY p 0,0x5be0cd19137e2179^^^gY p 8]
def wb (p:List UInt8) (n:Int) (b:List UInt8):List UInt8:=
 yA (dA (m6 b (aq8 p n) ((b.length-1)/128)) (b.drop (128*((b.length-1)/128))) (i2u (b.length:Int)) true) n.toNat
def Rx (x:ak8):Bool:=decide (x.1.2.2.1.length<=1000000000000)
def Oy (x:ak8):OT qG.Y:=.br (iS x.1.1 x.1.2.1) (.ok ⟨vY,(((),((30:Int),())),([],()))⟩) (.ok ⟨vY,(((),((0:Int),())),(wb x.1.1 x.1.2.1 x.1.2.2.1,()))⟩)
theorem abA {n:Int} {b:List UInt8} {h:List UInt64} (hh:h.length=8) (hb:b.length<=1000000000000):Rz ((n,b,(),0,()),(h,()))=true:=decide_eq_true ⟨rfl,hh,hb⟩
theorem abz {n:Int} {h:List UInt64} (hh:h.length=8) (hn0:0<=n) (hn:n<=64):Ry ((n,(),(),0,()),(h,[],()))=true:=decide_eq_true ⟨rfl,hh,hn,hn0,rfl⟩
theorem yz {b:List UInt8} {h:List UInt64} (hh:h.length=8):∀ n,(m6 b h n).length=8
 |0=>hh
 |n+1=>fq (yz hh n)
theorem aDI:aa Tryz.prog 63 (qG.aD Rx Oy):=aqL Rz abB Ry aqM aDK aDJ _ _ λx oy hp ho=>by
 rw [<-ho]
 obtain ⟨⟨p,n,b,⟨⟩⟩,⟨⟩⟩:=x
 clear ho
 have hb:b.length<=1000000000000:=of_decide_eq_true hp
 by_cases h1:16<(p.length:Int)
 ·have e1:decide (16<(p.length:Int))=true:=decide_eq_true h1
  have eb:iS p n=true:=by simp only [iS,e1,Bool.true_or]
  simp only [Oy,H3,e1,eb]
  rfl
 ·have e1:decide (16<(p.length:Int))=false:=decide_eq_false h1
  by_cases h2:n<1
  ·have e2:decide (n<1)=true:=decide_eq_true h2
   have eb:iS p n=true:=by simp only [iS,e1,e2,Bool.true_or,Bool.false_or]
   simp only [Oy,H3,e1,e2,eb]
   rfl
  ·have e2:decide (n<1)=false:=decide_eq_false h2
   by_cases h3:64<n
   ·have e3:decide (64<n)=true:=decide_eq_true h3
    have eb:iS p n=true:=by simp only [iS,e1,e2,e3,Bool.false_or]
    simp only [Oy,H3,e1,e2,e3,eb]
    rfl
   ·have e3:decide (64<n)=false:=decide_eq_false h3
    have eb:iS p n=false:=by simp only [iS,e1,e2,e3,Bool.false_or]
    have hH:(aq8 p n).length=8:=rfl
    have hE:∀ k,(m6 b (aq8 p n) k).length=8:=λk=>yz hH k
    have l1: [(7640891576956012808:UInt64)^^^16842752+i2u n,13503953896175478587,4354685564936845355,11912009170470909681,5840696475078001361,11170449401992604703,2270897969802886507^^^gY p (Int.toNat 0),6620516959819538809^^^gY p (Int.toNat 8)]=aq8 p n:=rfl
    have t1:∀ k,tab (m6 b (aq8 p n) k) 8 0=m6 b (aq8 p n) k:=λk=>iO (hE k)
    have t2:∀ k c l t,lay (m6 b (aq8 p n) k) (dA (m6 b (aq8 p n) k) c t l) 8 0=dA (m6 b (aq8 p n) k) c t l:=λk c l t=>vo (hE k) (fq (hE k))
    simp only [Oy,H3,e1,e2,e3,eb,abB,l1,t1,t2,hE,Int.toNat_natCast]
    refine (aj ?_).trans rfl
    simp only [List.all_cons,List.all_nil,Bool.and_true,Bool.and_eq_true]
    exact ⟨abA hH hb,rfl,bu (by omega),rfl,abz (fq (hE _)) (by omega) (by omega)⟩
def HW:bw:=(qG.aD Rx Oy)
theorem ak7:aa Tryz.prog 63 HW:=aDI
theorem ak6:aC HW:=ay
def ZN:Env:=aw 63 HW pP
theorem LL:aK Tryz.prog ZN:=af ak7 lS
theorem LM:ar ZN:=ab ak6 AA
theorem an2:aO Tryz.prog te ZN:=aE follows al LL LM
def iC:ap:=⟨[.val false (.list .elem)],[],true,0,false⟩
abbrev adY:Type:=((List (ag))×Unit)×(Unit)
def sa:av:=⟨[.own 0],[(0,.row .elem)],false⟩
def P9:SV->Option av:=λ_=>some sa
def Tw (a0:List (ag)):OT iC.Y:=
 (gd [decide (((0:Nat)+List.length a0)*(32:Nat)<=(140737488355328:Nat))] (.ok ⟨sa,(((),()),([]++a0,()))⟩))
def aua:OT iC.Y:=.ok ⟨sa,(((),()),([],()))⟩
theorem azQ (x:adY) (Q:iC.Y->Prop):wpf te ZN ax 1000 Tryz.f89 (iC.inp.inj x).tm (iC.inp.inj x).hp (fnK iC P9 Q) (λ_ _=>False)=
 Bool.rec (motive:=λ_=>Prop) ((Tw x.1.1).wpR Q) (aua.wpR Q/\(Tw x.1.1).wpR Q) (List.isEmpty x.1.1):=by kernel_rfl
def Di (x:adY):Bool:=decide (x.1.1.length*32<=140737488355328)
def ajC (x:adY):OT iC.Y:=.ok ⟨sa,(((),()),(x.1.1,()))⟩
theorem at9:aa Tryz.prog 89 (iC.aD Di ajC):=by
 refine azE al LL an2 (f:=89) (fn:=Tryz.f89) (c:=ak Tryz.f89) (by kernel_rfl) (by kernel_rfl) (by kernel_rfl) (S:=iC) (k:=0) (by kernel_rfl) (Λ:=ax) (λR hR=>ae) (n:=1000) λx oy hp hr=>⟨fnK iC P9 (λz=>z=oy),λ_ _=>False,?_,λv hp hq=> ?_,λ_ _ hq=>hq.elim⟩
 ·refine (azQ x _).mpr ?_
  cases hr
  have hp':x.1.1.length*32<=140737488355328:=of_decide_eq_true hp
  have h1:(Tw x.1.1).wpR (λz=>z=⟨sa,(((),()),(x.1.1,()))⟩):=by
   rw [OT.US]
   refine OT.qq (aj ?_) rfl
   simp only [List.all_cons,List.all_nil,Bool.and_true]
   exact decide_eq_true (by omega)
  cases hb:List.isEmpty x.1.1
  ·exact h1
  ·refine ⟨?_,h1⟩
   rw [List.isEmpty_iff.1 hb]
   rfl
 ·unfold fnK at hq
  split at hq
  ·rename_i o ho
   split at hq
   ·rename_i y hy
    subst hq
    exact ⟨by cases ho;rfl,hy⟩
   ·exact hq.elim
  ·exact hq.elim
def wO:bw:=(iC.aD Di ajC)
theorem Yz:aa Tryz.prog 89 wO:=at9
theorem Yy:aC wO:=ay
def A4:Env:=aw 89 wO ZN
theorem xn:aK Tryz.prog A4:=af Yz LL
theorem A3:ar A4:=ab Yy LM
theorem Z7:aO Tryz.prog te A4:=aE follows al xn A3
def kN:ap:=⟨[.ptr 0 0 0],[(0,.cells [.val false (.list .elem)])],false,1,true⟩
abbrev Oi:Type:=((Unit)×Unit)×(((List (ag))×Unit)×Unit)
def Gs:av:=⟨[.val true .elem,.val false .int],[(0,.cells [.val false (.list .elem)])],false⟩
def Vy:SV->Option av:=λ_=>some Gs
def aa8 (c0_0:List (ag)):OT kN.Y:=
 let z0:Nat:=List.length c0_0
 let z1:Int:=(↑z0:Int)
 let z2:ag:= {w0:=0,w1:=0,w2:=0,w3:=0}
 (.br (z1==(0:Int))
 (.ok ⟨Gs,((z2,((81:Int),())),((c0_0,()),()))⟩)
 (gd [inB (0:Int) z0,bj (1:Int) z1 z0] (.ok ⟨Gs,((List.getD c0_0 0 z2,((0:Int),())),((List.drop 1 c0_0,()),()))⟩)))
theorem aCc (x:Oi) (Q:kN.Y->Prop):wpf te A4 ax 1000 Tryz.f193 (kN.inp.inj x).tm (kN.inp.inj x).hp (fnK kN Vy Q) (λ_ _=>False)=(aa8 (x.2.1.1)).wpR Q:=by kernel_rfl
theorem akX (pre:Oi->Bool) (F:Oi->OT kN.Y) (hF:∀ (x:Oi) oy,pre x=true->(F x).run=some oy->(aa8 (x.2.1.1)).run=some oy):aa Tryz.prog 193 (kN.aD pre F):=
 aB al xn Z7 (f:=193) (fn:=Tryz.f193) (c:=ak Tryz.f193) (by kernel_rfl) (by kernel_rfl) (by kernel_rfl) (S:=kN) (k:=1) (by kernel_rfl) (λR hR=>ae) (n:=1000) (sel:=Vy) (λv o h=>by cases h;rfl) (pre:=pre) (F:=F) (T:=λx=>aa8 (x.2.1.1)) (λx Q=>aCc x Q) hF
def eF (l:List ag):ag×Int×List ag:=match l with
 | []=>(⟨0,0,0,0⟩,81,[])
 |x::r=>(x,0,r)
def Vz (x:Oi):Bool:=decide (x.2.1.1.length<=140737488355328)
def ape (x:Oi):OT kN.Y:=.ok ⟨Gs,(((eF x.2.1.1).1,((eF x.2.1.1).2.1,())),(((eF x.2.1.1).2.2,()),()))⟩
theorem avY:aa Tryz.prog 193 (kN.aD Vz ape):=akX _ _ λx oy hp ho=>by
 rw [<-ho]
 clear ho
 obtain ⟨⟨⟨⟩,⟨⟩⟩,⟨⟨l,⟨⟩⟩,⟨⟩⟩⟩:=x
 have hl:l.length<=140737488355328:=of_decide_eq_true hp
 cases l with
 |nil=>rfl
 |cons y r=>
  have h0:(((y::r).length:Int)==0)=false:=by simp;omega
  refine (OT.aq h0).trans ((aj ?_).trans rfl)
  simp only [List.length_cons] at hl⊢
  simp only [List.all_cons,List.all_nil,Bool.and_true,Bool.and_eq_true]
  exact ⟨aM (by omega),bu (by omega)⟩
def tf:bw:=(kN.aD Vz ape)
theorem HK:aa Tryz.prog 193 tf:=avY
theorem HJ:aC tf:=ay
def LF:Env:=aw 193 tf A4
theorem DS:aK Tryz.prog LF:=af HK xn
theorem Fv:ar LF:=ab HJ A3
theorem aeP:aO Tryz.prog te LF:=aE follows al DS Fv
def gT:ap:=⟨[.ptr 0 0 1],[(0,.cells [.val false .int,.val false (.list .elem)])],false,1,true⟩
abbrev BR:Type:=((Unit)×Unit)×(((Int)×(List (ag))×Unit)×Unit)
def yf:av:=⟨[.val true .elem,.val false .int],[(0,.cells [.val false .int,.val false (.list .elem)])],false⟩
def Oh:SV->Option av:=λ_=>some yf
def Ri (c0_0:Int) (c0_1:List (ag)):OT gT.Y:=
 let z0:Nat:=List.length c0_1
 let z1:Int:=(↑z0:Int)
 let z2:ag:= {w0:=0,w1:=0,w2:=0,w3:=0}
 (.br (z1==(0:Int))
 (.ok ⟨yf,((z2,((81:Int),())),((c0_0,(c0_1,())),()))⟩)
 (gd [inB (0:Int) z0,bj (1:Int) z1 z0] (.ok ⟨yf,((List.getD c0_1 0 z2,((0:Int),())),((c0_0,(List.drop 1 c0_1,())),()))⟩)))
theorem avX (x:BR) (Q:gT.Y->Prop):wpf te LF ax 1000 Tryz.f193 (gT.inp.inj x).tm (gT.inp.inj x).hp (fnK gT Oh Q) (λ_ _=>False)=(Ri (x.2.1.1) (x.2.1.2.1)).wpR Q:=by kernel_rfl
theorem aa7 (pre:BR->Bool) (F:BR->OT gT.Y) (hF:∀ (x:BR) oy,pre x=true->(F x).run=some oy->(Ri (x.2.1.1) (x.2.1.2.1)).run=some oy):aa Tryz.prog 193 (gT.aD pre F):=
 aB al DS aeP (f:=193) (fn:=Tryz.f193) (c:=ak Tryz.f193) (by kernel_rfl) (by kernel_rfl) (by kernel_rfl) (S:=gT) (k:=1) (by kernel_rfl) (λR hR=>ae) (n:=1000) (sel:=Oh) (λv o h=>by cases h;rfl) (pre:=pre) (F:=F) (T:=λx=>Ri (x.2.1.1) (x.2.1.2.1)) (λx Q=>avX x Q) hF
def BQ (x:BR):Bool:=decide (x.2.1.2.1.length<=140737488355328)
def afQ (x:BR):OT gT.Y:=.ok ⟨yf,(((eF x.2.1.2.1).1,((eF x.2.1.2.1).2.1,())),((x.2.1.1,((eF x.2.1.2.1).2.2,())),()))⟩
theorem apd:aa Tryz.prog 193 (gT.aD BQ afQ):=aa7 _ _ λx oy hp ho=>by
 rw [<-ho]
 clear ho
 obtain ⟨⟨⟨⟩,⟨⟩⟩,⟨⟨s,l,⟨⟩⟩,⟨⟩⟩⟩:=x
 have hl:l.length<=140737488355328:=of_decide_eq_true hp
 cases l with
 |nil=>rfl
 |cons y r=>
  have h0:(((y::r).length:Int)==0)=false:=by simp;omega
  refine (OT.aq h0).trans ((aj ?_).trans rfl)
  simp only [List.length_cons] at hl⊢
  simp only [List.all_cons,List.all_nil,Bool.and_true,Bool.and_eq_true]
  exact ⟨aM (by omega),bu (by omega)⟩
def vS:bw:=(auy tf (gT.aD BQ afQ))
theorem Vx:aa Tryz.prog 193 vS:=(az2 HK apd)
theorem Vw:aC vS:=(anu HJ ay)
def Ar:Env:=aw 193 vS LF
theorem w8:aK Tryz.prog Ar:=af Vx DS
theorem Aq:ar Ar:=ab Vw Fv
theorem ZJ:aO Tryz.prog te Ar:=aE follows al w8 Aq
def kK:ap:=⟨[.ptr 0 0 0,.val false .u8,.val false (.list .u8)],[(0,.cells [.val false .int,.val false (.list .elem)])],false,1,true⟩
abbrev Oa:Type:=((Unit)×(UInt8)×(List (UInt8))×Unit)×(((Int)×(List (ag))×Unit)×Unit)
def Rb:av:=⟨[],[(0,.cells [.val false .int,.val false (.list .elem)])],false⟩
def Vp:SV->Option av:=λ_=>some Rb
def aaY (a1:UInt8) (a2:List (UInt8)) (c0_0:Int) (c0_1:List (ag)):OT kK.Y:=
 (.ok ⟨Rb,((),((c0_0,(c0_1,())),()))⟩)
theorem aB2 (x:Oa) (Q:kK.Y->Prop):wpf te Ar ax 1000 Tryz.f192 (kK.inp.inj x).tm (kK.inp.inj x).hp (fnK kK Vp Q) (λ_ _=>False)=(aaY (x.1.2.1) (x.1.2.2.1) (x.2.1.1) (x.2.1.2.1)).wpR Q:=by kernel_rfl
theorem akQ (pre:Oa->Bool) (F:Oa->OT kK.Y) (hF:∀ (x:Oa) oy,pre x=true->(F x).run=some oy->(aaY (x.1.2.1) (x.1.2.2.1) (x.2.1.1) (x.2.1.2.1)).run=some oy):aa Tryz.prog 192 (kK.aD pre F):=
 aB al w8 ZJ (f:=192) (fn:=Tryz.f192) (c:=ak Tryz.f192) (by kernel_rfl) (by kernel_rfl) (by kernel_rfl) (S:=kK) (k:=1) (by kernel_rfl) (λR hR=>ae) (n:=1000) (sel:=Vp) (λv o h=>by cases h;rfl) (pre:=pre) (F:=F) (T:=λx=>aaY (x.1.2.1) (x.1.2.2.1) (x.2.1.1) (x.2.1.2.1)) (λx Q=>aB2 x Q) hF
def Vq (_:Oa):Bool:=true
def ao6 (x:Oa):OT kK.Y:=.ok ⟨Rb,((),((x.2.1.1,(x.2.1.2.1,())),()))⟩
theorem avS:aa Tryz.prog 192 (kK.aD Vq ao6):=akQ _ _ λx oy hp ho=>ho
def BN:bw:=(qB 2 (kK.aD Vq ao6))
theorem aaX:aa Tryz.prog 192 BN:=(tj avS)
theorem aaW:aC BN:=(mc ay)
def Lz:Env:=aw 192 BN Ar
theorem DP:aK Tryz.prog Lz:=af aaX w8
theorem Fs:ar Lz:=ab aaW Aq
theorem aeM:aO Tryz.prog te Lz:=aE follows al DP Fs
def gU:ap:=⟨[.ptr 0 0 0],[(0,.cells [.val false .int,.val false (.list .elem)])],false,1,true⟩
abbrev BS:Type:=((Unit)×Unit)×(((Int)×(List (ag))×Unit)×Unit)
def yg:av:=⟨[.val true .elem,.val false .int],[(0,.cells [.val false .int,.val false (.list .elem)])],false⟩
def Oj:SV->Option av:=λ_=>some yg
def Rj (c0_0:Int) (c0_1:List (ag)):OT gU.Y:=
 let z0:ag×Int×List ag:=eF c0_1
 let z1:ag:= {w0:=0,w1:=0,w2:=0,w3:=0}
 let z2:=z0.snd
 let z3:=z2.fst
 let z4:=z2.snd
 (gd [BQ (((),()),(c0_0,c0_1,()),())] (.br (au c0_0)
 (.ok ⟨yg,((vh (pS c0_0) z0.fst z1,(z3,())),((c0_0,(z4,())),()))⟩)
 (.ok ⟨yg,((z1,(z3,())),((c0_0,(z4,())),()))⟩)))
theorem avZ (x:BS) (Q:gU.Y->Prop):wpf te Lz ax 1000 Tryz.f191 (gU.inp.inj x).tm (gU.inp.inj x).hp (fnK gU Oj Q) (λ_ _=>False)=(Rj (x.2.1.1) (x.2.1.2.1)).wpR Q:=by kernel_rfl
theorem aa9 (pre:BS->Bool) (F:BS->OT gU.Y) (hF:∀ (x:BS) oy,pre x=true->(F x).run=some oy->(Rj (x.2.1.1) (x.2.1.2.1)).run=some oy):aa Tryz.prog 191 (gU.aD pre F):=
 aB al DP aeM (f:=191) (fn:=Tryz.f191) (c:=ak Tryz.f191) (by kernel_rfl) (by kernel_rfl) (by kernel_rfl) (S:=gU) (k:=1) (by kernel_rfl) (λR hR=>ae) (n:=1000) (sel:=Oj) (λv o h=>by cases h;rfl) (pre:=pre) (F:=F) (T:=λx=>Rj (x.2.1.1) (x.2.1.2.1)) (λx Q=>avZ x Q) hF
def tg (x:BS):Bool:=au x.2.1.1&&decide (x.2.1.2.1.length<=140737488355328)
def afR (x:BS):OT gU.Y:=.ok ⟨yg,((vh (pS x.2.1.1) (eF x.2.1.2.1).1 ⟨0,0,0,0⟩,((eF x.2.1.2.1).2.1,())),((x.2.1.1,((eF x.2.1.2.1).2.2,())),()))⟩
theorem apf:aa Tryz.prog 191 (gU.aD tg afR):=aa9 _ _ λx oy hp ho=>by
 rw [<-ho]
 clear ho
 obtain ⟨⟨⟨⟩,⟨⟩⟩,⟨⟨s,l,⟨⟩⟩,⟨⟩⟩⟩:=x
 have hp':(au s&&decide (l.length<=140737488355328))=true:=hp
 rw [Bool.and_eq_true] at hp'
 refine (aj ?_).trans ((OT.az hp'.1).trans rfl)
 simp only [List.all_cons,List.all_nil,Bool.and_true]
 exact hp'.2
def vT:bw:=(gU.aD tg afR)
theorem VB:aa Tryz.prog 191 vT:=apf
theorem VA:aC vT:=ay
def Au:Env:=aw 191 vT Lz
theorem w9:aK Tryz.prog Au:=af VB DP
theorem As:ar Au:=ab VA Fs
theorem ZK:aO Tryz.prog te Au:=aE follows al w9 As
def kM:ap:=⟨[.val false .int,.val true (.prod .int (.list .elem))],[],true,0,false⟩
abbrev Og:Type:=((Int)×((Int×List (ag)))×Unit)×(Unit)
def gR:av:=⟨[.dq,.val false .int],[],false⟩
def ye:av:=⟨[.ifp 133 0,.val false .int],[(0,.cells [.val false .int,.own 1]),(1,.row .elem)],false⟩
def yd:av:=⟨[.ifp 141 0,.val false .int],[(0,.cells [.val false .int,.ptr 1 0 0]),(1,.cells [.val false .int,.val false .u64,.val false .u64,.val false .u64,.val false .u64,.val false .u64,.val false .u64,.val false .u64,.val false .u64,.own 2,.val false .u64]),(2,.row .u8)],false⟩
def Of:List av:= [gR,ye,yd]
def Rg (a0:Int) (a1:(Int×List (ag))):OT kM.Y:=
 let z0:Bool:=decide ((100000:Int)<(↑(List.length a1.snd):Int))
 let z1:Bool:=Di ((a1.snd,()),())
 let z2:Int:=cU a0 (1:Int)
 (.br (decide (a0<(0:Int)))
 (.ok ⟨gR,(((),((40:Int),())),())⟩)
 (.br (decide ((3:Int)<a0))
  (.ok ⟨gR,(((),((40:Int),())),())⟩)
  (.br (!a1.fst==(0:Int))
   (.br (!a1.fst==(1:Int))
    (.ok ⟨gR,(((),((80:Int),())),())⟩)
    (.br (z0)
     (.ok ⟨gR,(((),((81:Int),())),())⟩)
     (.br (a1.fst==(1:Int))
      (gd [z1] (.ok ⟨ye,(((),((0:Int),())),((z2,((),())),(a1.snd,())))⟩))
      (.ok ⟨yd,(((),((0:Int),())),((z2,((),())),(((64:Int),((7640891576939301192:UInt64),((13503953896175478587:UInt64),((4354685564936845355:UInt64),((11912009170470909681:UInt64),((5840696475078001361:UInt64),((11170449401992604703:UInt64),((7924071207369364504:UInt64),((3427420097777323800:UInt64),((),((0:UInt64),()))))))))))),([],()))))⟩))))
   (.br (z0)
    (.ok ⟨gR,(((),((81:Int),())),())⟩)
    (.br (a1.fst==(1:Int))
     (gd [z1] (.ok ⟨ye,(((),((0:Int),())),((z2,((),())),(a1.snd,())))⟩))
     (.ok ⟨yd,(((),((0:Int),())),((z2,((),())),(((64:Int),((7640891576939301192:UInt64),((13503953896175478587:UInt64),((4354685564936845355:UInt64),((11912009170470909681:UInt64),((5840696475078001361:UInt64),((11170449401992604703:UInt64),((7924071207369364504:UInt64),((3427420097777323800:UInt64),((),((0:UInt64),()))))))))))),([],()))))⟩))))))
theorem aB8 (x:Og) (Q:kM.Y->Prop):wpf te Au ax 1000 Tryz.f51 (kM.inp.inj x).tm (kM.inp.inj x).hp (azG kM Of Q) (λ_ _=>False)=(Rg (x.1.1) (x.1.2.1)).wpR Q:=by kernel_rfl
theorem akV (pre:Og->Bool) (F:Og->OT kM.Y) (hF:∀ (x:Og) oy,pre x=true->(F x).run=some oy->(Rg (x.1.1) (x.1.2.1)).run=some oy):aa Tryz.prog 51 (kM.aD pre F):=
 GS al w9 ZK (f:=51) (fn:=Tryz.f51) (c:=ak Tryz.f51) (by kernel_rfl) (by kernel_rfl) (by kernel_rfl) (S:=kM) (k:=0) (by kernel_rfl) (λR hR=>ae) (n:=1000) (outs:=Of) (by kernel_rfl) (pre:=pre) (F:=F) (T:=λx=>Rg (x.1.1) (x.1.2.1)) (λx Q=>aB8 x Q) hF
def b6 (c mode:Int) (n:Nat):Int:=cond (au c) (cond ((mode==0)||(mode==1)) (cond (decide ((100000:Int)<(n:Int))) 81 0) 80) 40
def oN:Int×UInt64×UInt64×UInt64×UInt64×UInt64×UInt64×UInt64×UInt64×Unit×UInt64×Unit:=(64,7640891576939301192,13503953896175478587,4354685564936845355,11912009170470909681,5840696475078001361,11170449401992604703,7924071207369364504,3427420097777323800,(),0,())
def Vt (_:Og):Bool:=true
def gS (x:Og):OT kM.Y:=.br (b6 x.1.1 x.1.2.1.1 x.1.2.1.2.length==0)
 (.br (x.1.2.1.1==1) (.ok ⟨ye,(((),((0:Int),())),((cU x.1.1 1,((),())),(x.1.2.1.2,())))⟩) (.ok ⟨yd,(((),((0:Int),())),((cU x.1.1 1,((),())),(oN,([],()))))⟩))
 (.ok ⟨gR,(((),(b6 x.1.1 x.1.2.1.1 x.1.2.1.2.length,())),())⟩)
theorem avU:aa Tryz.prog 51 (kM.aD Vt gS):=akV _ _ λx oy _ ho=>by
 rw [<-ho]
 clear ho
 obtain ⟨⟨c,⟨mode,l⟩,⟨⟩⟩,⟨⟩⟩:=x
 unfold Rg
 cases hs:au c
 ·have he:b6 c mode l.length=40:=by unfold b6;rw [hs];rfl
  have hF:(gS ((c,(mode,l),()),())).run=some ⟨gR,(((),((40:Int),())),())⟩:=by
   unfold gS
   rw [he]
   rfl
  rw [hF]
  by_cases h1:c<0
  ·exact OT.az (decide_eq_true h1)
  ·refine (OT.aq (decide_eq_false h1)).trans (OT.az (decide_eq_true ?_))
   by_cases h2:3<c
   ·exact h2
   ·have:au c=true:=by
     simp only [au,Bool.and_eq_true,decide_eq_true_eq]
     omega
    rw [this] at hs;cases hs
 ·have hc:0<=c/\c<4:=by simpa [au] using hs
  refine (OT.aq (decide_eq_false (by dsimp only;omega))).trans ((OT.aq (decide_eq_false (by dsimp only;omega))).trans ?_)
  by_cases h0:mode=0
  ·subst h0
   refine (OT.aq rfl).trans ?_
   cases hl:decide ((100000:Int)<(l.length:Int))
   ·have he:b6 c 0 l.length=0:=by unfold b6;rw [hs,hl];rfl
    have hF:(gS ((c,(0,l),()),())).run=some ⟨yd,(((),((0:Int),())),((cU c 1,((),())),(oN,([],()))))⟩:=by
     unfold gS
     rw [he]
     rfl
    rw [hF]
    exact (OT.aq rfl).trans ((OT.aq rfl).trans rfl)
   ·have he:b6 c 0 l.length=81:=by unfold b6;rw [hs,hl];rfl
    have hF:(gS ((c,(0,l),()),())).run=some ⟨gR,(((),((81:Int),())),())⟩:=by
     unfold gS
     rw [he]
     rfl
    rw [hF]
    exact (OT.az rfl).trans rfl
  ·by_cases h1:mode=1
   ·subst h1
    refine (OT.az rfl).trans ((OT.aq rfl).trans ?_)
    cases hl:decide ((100000:Int)<(l.length:Int))
    ·have he:b6 c 1 l.length=0:=by unfold b6;rw [hs,hl];rfl
     have hF:(gS ((c,(1,l),()),())).run=some ⟨ye,(((),((0:Int),())),((cU c 1,((),())),(l,())))⟩:=by
      unfold gS
      rw [he]
      rfl
     rw [hF]
     refine (OT.aq rfl).trans ((OT.az rfl).trans ((aj ?_).trans rfl))
     have hl':¬(100000:Int)<(l.length:Int):=of_decide_eq_false hl
     simp only [List.all_cons,List.all_nil,Bool.and_true]
     exact decide_eq_true (show l.length*32<=140737488355328 by omega)
    ·have he:b6 c 1 l.length=81:=by unfold b6;rw [hs,hl];rfl
     have hF:(gS ((c,(1,l),()),())).run=some ⟨gR,(((),((81:Int),())),())⟩:=by
      unfold gS
      rw [he]
      rfl
     rw [hF]
     exact (OT.az rfl).trans rfl
   ·have b0:(mode==0)=false:=by simpa using h0
    have b1:(mode==1)=false:=by simpa using h1
    have he:b6 c mode l.length=80:=by unfold b6;rw [hs,b0,b1];rfl
    have hF:(gS ((c,(mode,l),()),())).run=some ⟨gR,(((),((80:Int),())),())⟩:=by
     unfold gS
     rw [he]
     rfl
    rw [hF]
    exact (OT.az (by simp [b0])).trans ((OT.az (by simp [b1])).trans rfl)
def BP:bw:=(kM.aD Vt gS)
theorem aa6:aa Tryz.prog 51 BP:=avU
theorem aa5:aC BP:=ay
def LD:Env:=aw 51 BP Au
theorem DR:aK Tryz.prog LD:=af aa6 w9
theorem Fu:ar LD:=ab aa5 As
theorem aeO:aO Tryz.prog te LD:=aE follows al DR Fu
def gQ:ap:=⟨[.val false .int,.val true (.prod .int (.list .elem))],[],true,0,false⟩
abbrev BL:Type:=((Int)×((Int×List (ag)))×Unit)×(Unit)
def HF:av:=⟨[.ptr 0 0 0,.val false .int],[(0,.cells [.val false .int,.ifp 133 1,.own 2]),(1,.cells [.val false .int,.own 3]),(2,.row .u8),(3,.row .elem)],false⟩
def HE:av:=⟨[.ptr 0 0 0,.val false .int],[(0,.cells [.val false .int,.ifp 141 1,.own 2]),(1,.cells [.val false .int,.ptr 3 0 0]),(2,.row .u8),(3,.cells [.val false .int,.val false .u64,.val false .u64,.val false .u64,.val false .u64,.val false .u64,.val false .u64,.val false .u64,.val false .u64,.own 4,.val false .u64]),(4,.row .u8)],false⟩
def HD:av:=⟨[.oD,.val false .int],[],false⟩
def Vn:av:=⟨[.ptr 0 0 0,.val false .int],[(0,.cells [.val false .int,.dq,.own 1]),(1,.row .u8)],false⟩
def HC:List av:= [HF,HE,HD,Vn]
def Gr (a0:Int) (a1:(Int×List (ag))):OT gQ.Y:=
 let z0:Int:=b6 a0 a1.fst (List.length a1.snd)
 let z1:Int:=cU a0 (1:Int)
 (.br (z0==(0:Int))
 (.br (a1.fst==(1:Int))
  (.ok ⟨HF,(((),((0:Int),())),((a0,((),((),()))),((z1,((),())),([],(a1.snd,())))))⟩)
  (.ok ⟨HE,(((),((0:Int),())),((a0,((),((),()))),((z1,((),())),([],(((64:Int),((7640891576939301192:UInt64),((13503953896175478587:UInt64),((4354685564936845355:UInt64),((11912009170470909681:UInt64),((5840696475078001361:UInt64),((11170449401992604703:UInt64),((7924071207369364504:UInt64),((3427420097777323800:UInt64),((),((0:UInt64),()))))))))))),([],()))))))⟩))
 (.br (!z0==(0:Int))
  (.ok ⟨HD,(((),(z0,())),())⟩)
  (.ok ⟨Vn,(((),((0:Int),())),((a0,((),((),()))),([],())))⟩)))
theorem avR (x:BL) (Q:gQ.Y->Prop):wpf te LD ax 1000 Tryz.f48 (gQ.inp.inj x).tm (gQ.inp.inj x).hp (azG gQ HC Q) (λ_ _=>False)=(Gr (x.1.1) (x.1.2.1)).wpR Q:=by kernel_rfl
theorem aaV (pre:BL->Bool) (F:BL->OT gQ.Y) (hF:∀ (x:BL) oy,pre x=true->(F x).run=some oy->(Gr (x.1.1) (x.1.2.1)).run=some oy):aa Tryz.prog 48 (gQ.aD pre F):=
 GS al DR aeO (f:=48) (fn:=Tryz.f48) (c:=ak Tryz.f48) (by kernel_rfl) (by kernel_rfl) (by kernel_rfl) (S:=gQ) (k:=0) (by kernel_rfl) (λR hR=>ae) (n:=1000) (outs:=HC) (by kernel_rfl) (pre:=pre) (F:=F) (T:=λx=>Gr (x.1.1) (x.1.2.1)) (λx Q=>avR x Q) hF
def N9 (_:BL):Bool:=true
def Ra (x:BL):OT gQ.Y:=.br (b6 x.1.1 x.1.2.1.1 x.1.2.1.2.length==0)
 (.br (x.1.2.1.1==1) (.ok ⟨HF,(((),((0:Int),())),((x.1.1,((),((),()))),((cU x.1.1 1,((),())),([],(x.1.2.1.2,())))))⟩)
  (.ok ⟨HE,(((),((0:Int),())),((x.1.1,((),((),()))),((cU x.1.1 1,((),())),([],(oN,([],()))))))⟩))
 (.ok ⟨HD,(((),(b6 x.1.1 x.1.2.1.1 x.1.2.1.2.length,())),())⟩)
theorem ao5:aa Tryz.prog 48 (gQ.aD N9 Ra):=aaV _ _ λx oy _ ho=>by
 rw [<-ho]
 clear ho
 obtain ⟨⟨c,⟨mode,l⟩,⟨⟩⟩,⟨⟩⟩:=x
 unfold Gr Ra
 by_cases he:(b6 c mode l.length==0)=true
 ·refine (OT.az he).trans (Eq.trans ?_ (OT.az he).symm)
  by_cases hm:(mode==1)=true
  ·exact (OT.az hm).trans (OT.az hm).symm
  ·have hm:=Bool.eq_false_iff.2 hm
   exact (OT.aq hm).trans (OT.aq hm).symm
 ·have he:=Bool.eq_false_iff.2 he
  exact (OT.aq he).trans ((OT.az (by show (!(b6 c mode l.length==0))=true;rw [he];rfl)).trans (OT.aq he).symm)
def vQ:bw:=(vU [1] 1 (gQ.aD N9 Ra))
theorem Vo:aa Tryz.prog 48 vQ:=(BU ao5)
theorem Vm:aC vQ:=(qA ay)
def Ap:Env:=aw 48 vQ LD
theorem w7:aK Tryz.prog Ap:=af Vo DR
theorem Ao:ar Ap:=ab Vm Fu
theorem ZH:aO Tryz.prog te Ap:=aE follows al w7 Ao
def kQ:ap:=⟨[.ptr 0 0 0],[(0,.cells [.val false .int,.ifp 133 1,.own 2]),(1,.cells [.val false .int,.val false (.list .elem)]),(2,.row .u8)],false,3,true⟩
abbrev Oo:Type:=((Unit)×Unit)×(((Int)×(Unit)×(Unit)×Unit)×((Int)×(List (ag))×Unit)×(List (UInt8))×Unit)
def Rn:av:=⟨[.val true .elem,.val false .int],[(0,.cells [.val false .int,.ifp 133 1,.own 2]),(1,.cells [.val false .int,.val false (.list .elem)]),(2,.row .u8)],false⟩
def VG:SV->Option av:=λ_=>some Rn
def abh (c0_0:Int) (c1_0:Int) (c1_1:List (ag)) (c2:List (UInt8)):OT kQ.Y:=
 let z0:ag×Int×List ag:=eF c1_1
 let z1:=z0.snd
 (gd [tg (((),()),(c1_0,c1_1,()),())] (.ok ⟨Rn,((vh (pS c1_0) z0.fst {w0:=0,w1:=0,w2:=0,w3:=0},(z1.fst,())),((c0_0,((),((),()))),((c1_0,(z1.snd,())),(c2,()))))⟩))
theorem aDv (x:Oo) (Q:kQ.Y->Prop):wpf te Ap ax 1000 Tryz.f24 (kQ.inp.inj x).tm (kQ.inp.inj x).hp (fnK kQ VG Q) (λ_ _=>False)=(abh (x.2.1.1) (x.2.2.1.1) (x.2.2.1.2.1) (x.2.2.2.1)).wpR Q:=by kernel_rfl
theorem ak1 (pre:Oo->Bool) (F:Oo->OT kQ.Y) (hF:∀ (x:Oo) oy,pre x=true->(F x).run=some oy->(abh (x.2.1.1) (x.2.2.1.1) (x.2.2.1.2.1) (x.2.2.2.1)).run=some oy):aa Tryz.prog 24 (kQ.aD pre F):=
 aB al w7 ZH (f:=24) (fn:=Tryz.f24) (c:=ak Tryz.f24) (by kernel_rfl) (by kernel_rfl) (by kernel_rfl) (S:=kQ) (k:=3) (by kernel_rfl) (λR hR=>ae) (n:=1000) (sel:=VG) (λv o h=>by cases h;rfl) (pre:=pre) (F:=F) (T:=λx=>abh (x.2.1.1) (x.2.2.1.1) (x.2.2.1.2.1) (x.2.2.2.1)) (λx Q=>aDv x Q) hF
def VH (x:Oo):Bool:=au x.2.2.1.1&&decide (x.2.2.1.2.1.length<=140737488355328)
def aqw (x:Oo):OT kQ.Y:=.ok ⟨Rn,((vh (pS x.2.2.1.1) (eF x.2.2.1.2.1).1 ⟨0,0,0,0⟩,((eF x.2.2.1.2.1).2.1,())),((x.2.1.1,((),((),()))),((x.2.2.1.1,((eF x.2.2.1.2.1).2.2,())),(x.2.2.2.1,()))))⟩
theorem axW:aa Tryz.prog 24 (kQ.aD VH aqw):=ak1 _ _ λx oy hp ho=>by
 rw [<-ho]
 clear ho
 obtain ⟨⟨⟨⟩,⟨⟩⟩,⟨⟨c,⟨⟩,⟨⟩,⟨⟩⟩,⟨s,l,⟨⟩⟩,o,⟨⟩⟩⟩:=x
 refine (aj ?_).trans rfl
 simp only [List.all_cons,List.all_nil,Bool.and_true]
 exact hp
def tl:bw:=(kQ.aD VH aqw)
theorem HP:aa Tryz.prog 24 tl:=axW
theorem HO:aC tl:=ay
def LI:Env:=aw 24 tl Ap
theorem DV:aK Tryz.prog LI:=af HP w7
theorem Fy:ar LI:=ab HO Ao
theorem aeR:aO Tryz.prog te LI:=aE follows al DV Fy
def qz:ap:=⟨[.ptr 0 0 0,.val false .u8,.val false (.list .u8)],[(0,.cells [.val false .int,.ifp 133 1,.own 2]),(1,.cells [.val false .int,.val false (.list .elem)]),(2,.row .u8)],false,2,true⟩
abbrev akS:Type:=((Unit)×(UInt8)×(List (UInt8))×Unit)×(((Int)×(Unit)×(Unit)×Unit)×((Int)×(List (ag))×Unit)×(List (UInt8))×Unit)
def aa0:av:=⟨[],[(0,.cells [.val false .int,.ifp 133 1,.own 2]),(1,.cells [.val false .int,.val false (.list .elem)]),(2,.row .u8)],false⟩
def afO:SV->Option av:=λ_=>some aa0
def ao9 (a1:UInt8) (a2:List (UInt8)) (c0_0:Int) (c1_0:Int) (c1_1:List (ag)) (c2:List (UInt8)):OT qz.Y:=
 (gd [decide ((List.length c2+List.length a2)*1<=140737488355328)] (.ok ⟨aa0,((),((c0_0,((),((),()))),((c1_0,(c1_1,())),(c2++a2,()))))⟩))
theorem aGf (x:akS) (Q:qz.Y->Prop):wpf te LI ax 1000 Tryz.f88 (qz.inp.inj x).tm (qz.inp.inj x).hp (fnK qz afO Q) (λ_ _=>False)=(ao9 (x.1.2.1) (x.1.2.2.1) (x.2.1.1) (x.2.2.1.1) (x.2.2.1.2.1) (x.2.2.2.1)).wpR Q:=by kernel_rfl
theorem ao8 (pre:akS->Bool) (F:akS->OT qz.Y) (hF:∀ (x:akS) oy,pre x=true->(F x).run=some oy->(ao9 (x.1.2.1) (x.1.2.2.1) (x.2.1.1) (x.2.2.1.1) (x.2.2.1.2.1) (x.2.2.2.1)).run=some oy):aa Tryz.prog 88 (qz.aD pre F):=
 aB al DV aeR (f:=88) (fn:=Tryz.f88) (c:=ak Tryz.f88) (by kernel_rfl) (by kernel_rfl) (by kernel_rfl) (S:=qz) (k:=3) (by kernel_rfl) (λR hR=>ae) (n:=1000) (sel:=afO) (λv o h=>by cases h;rfl) (pre:=pre) (F:=F) (T:=λx=>ao9 (x.1.2.1) (x.1.2.2.1) (x.2.1.1) (x.2.2.1.1) (x.2.2.1.2.1) (x.2.2.2.1)) (λx Q=>aGf x Q) hF
def td (x:akS):Bool:=decide (x.2.2.2.1.length+x.1.2.2.1.length<=140737488355328)
def aAM (x:akS):OT qz.Y:=.ok ⟨aa0,((),((x.2.1.1,((),((),()))),((x.2.2.1.1,(x.2.2.1.2.1,())),(x.2.2.2.1++x.1.2.2.1,()))))⟩
theorem aB3:aa Tryz.prog 88 (qz.aD td aAM):=ao8 _ _ λx oy hp ho=>by
 rw [<-ho]
 clear ho
 obtain ⟨⟨⟨⟩,m,b,⟨⟩⟩,⟨⟨c,⟨⟩,⟨⟩,⟨⟩⟩,⟨s,l,⟨⟩⟩,o,⟨⟩⟩⟩:=x
 have hp':o.length+b.length<=140737488355328:=of_decide_eq_true hp
 refine (aj ?_).trans rfl
 simp only [List.all_cons,List.all_nil,Bool.and_true]
 exact decide_eq_true (by omega)
def xY:bw:=(qB 2 (qz.aD td aAM))
theorem Oc:aa Tryz.prog 88 xY:=(tj aB3)
theorem Ob:aC xY:=(mc ay)
def ZI:Env:=aw 88 xY LI
theorem LA:aK Tryz.prog ZI:=af Oc DV
theorem LB:ar ZI:=ab Ob Fy
theorem an1:aO Tryz.prog te ZI:=aE follows al LA LB
def eg:ap:=⟨[.ptr 0 0 0,.val true .elem],[(0,.cells [.val false .int,.ifp 133 1,.own 2]),(1,.cells [.val false .int,.val false (.list .elem)]),(2,.row .u8)],false,2,true⟩
abbrev tc:Type:=((Unit)×(ag)×Unit)×(((Int)×(Unit)×(Unit)×Unit)×((Int)×(List (ag))×Unit)×(List (UInt8))×Unit)
def iU:av:=⟨[],[(0,.cells [.val false .int,.ifp 133 1,.own 2]),(1,.cells [.val false .int,.val false (.list .elem)]),(2,.row .u8)],false⟩
def HG:SV->Option av:=λ_=>some iU
def HI (a1:ag) (c0_0:Int) (c1_0:Int) (c1_1:List (ag)) (c2:List (UInt8)):OT eg.Y:=
 let z0:Int:=cU c0_0 (1:Int)
 let z1:List UInt8:=P8 (ofN (ag.nat a1%ag.nat (aS (Int.toNat z0)).fst))
 let z2:(Int×PUnit×PUnit×PUnit)×(Int×List ag×PUnit)×List UInt8×PUnit:=((c0_0,(),(),()),(c1_0,c1_1,()),c2,())
 (.br (au z0)
 (gd [td (((),(2:UInt8),z1,()),z2)] (.ok ⟨iU,((),((c0_0,((),((),()))),((c1_0,(c1_1,())),(c2++z1,()))))⟩))
 (gd [td (((),(2:UInt8),[],()),z2)] (.ok ⟨iU,((),((c0_0,((),((),()))),((c1_0,(c1_1,())),(c2++ [],()))))⟩)))
theorem ao7 (x:tc) (Q:eg.Y->Prop):wpf te ZI ax 1000 Tryz.f49 (eg.inp.inj x).tm (eg.inp.inj x).hp (fnK eg HG Q) (λ_ _=>False)=(HI (x.1.2.1) (x.2.1.1) (x.2.2.1.1) (x.2.2.1.2.1) (x.2.2.2.1)).wpR Q:=by kernel_rfl
theorem Vr (pre:tc->Bool) (F:tc->OT eg.Y) (hF:∀ (x:tc) oy,pre x=true->(F x).run=some oy->(HI (x.1.2.1) (x.2.1.1) (x.2.2.1.1) (x.2.2.1.2.1) (x.2.2.2.1)).run=some oy):aa Tryz.prog 49 (eg.aD pre F):=
 aB al LA an1 (f:=49) (fn:=Tryz.f49) (c:=ak Tryz.f49) (by kernel_rfl) (by kernel_rfl) (by kernel_rfl) (S:=eg) (k:=3) (by kernel_rfl) (λR hR=>ae) (n:=1000) (sel:=HG) (λv o h=>by cases h;rfl) (pre:=pre) (F:=F) (T:=λx=>HI (x.1.2.1) (x.2.1.1) (x.2.2.1.1) (x.2.2.1.2.1) (x.2.2.2.1)) (λx Q=>ao7 x Q) hF
def dX (c:Int) (v:ag):List UInt8:=P8 (ofN (v.nat%(aS (cU c 1).toNat).1.nat))
def HH (x:tc):Bool:=au (cU x.2.1.1 1)&&decide (x.2.2.2.1.length<=140737488350000)
def Vs (x:tc):OT eg.Y:=.ok ⟨iU,((),((x.2.1.1,((),((),()))),((x.2.2.1.1,(x.2.2.1.2.1,())),(x.2.2.2.1++dX x.2.1.1 x.1.2.1,()))))⟩
theorem aaZ (c s:Int) (l:List ag) (o b:List UInt8) (k:Bool) (hk:k=true) (hb:b.length=32) (ho:o.length<=140737488350000):
 (OT.br k (gd [td (((),(2:UInt8),b,()),((c,(),(),()),(s,l,()),o,()))] (.ok ⟨iU,((),((c,((),((),()))),((s,(l,())),(o++b,()))))⟩))
  (gd [td (((),(2:UInt8),[],()),((c,(),(),()),(s,l,()),o,()))] (.ok ⟨iU,((),((c,((),((),()))),((s,(l,())),(o++ [],()))))⟩)):OT eg.Y).run
 =(OT.ok ⟨iU,((),((c,((),((),()))),((s,(l,())),(o++b,()))))⟩:OT eg.Y).run:=by
 refine (OT.az hk).trans (aj ?_)
 simp only [List.all_cons,List.all_nil,Bool.and_true]
 exact decide_eq_true (by dsimp only;omega)
theorem akR:aa Tryz.prog 49 (eg.aD HH Vs):=Vr _ _ λx oy hp ho=>by
 rw [<-ho]
 clear ho
 obtain ⟨⟨⟨⟩,v,⟨⟩⟩,⟨⟨c,⟨⟩,⟨⟩,⟨⟩⟩,⟨s,l,⟨⟩⟩,o,⟨⟩⟩⟩:=x
 have hp':(au (cU c 1)&&decide (o.length<=140737488350000))=true:=hp
 rw [Bool.and_eq_true] at hp'
 have ho':=of_decide_eq_true hp'.2
 exact aaZ c s l o (dX c v) (au (cU c 1)) hp'.1 (KA _) ho'
def ma:bw:=(eg.aD HH Vs)
theorem xX:aa Tryz.prog 49 ma:=akR
theorem xW:aC ma:=ay
def sH:Env:=aw 49 ma ZI
theorem sG:aK Tryz.prog sH:=af xX LA
theorem vx:ar sH:=ab xW LB
theorem Up:aO Tryz.prog te sH:=aE follows al sG vx
def gW:ap:=⟨[.ptr 0 0 0],[(0,.cells [.val false .int,.ifp 133 1,.own 2]),(1,.cells [.val false .int,.val false (.list .elem)]),(2,.row .u8)],false,3,true⟩
abbrev BW:Type:=((Unit)×Unit)×(((Int)×(Unit)×(Unit)×Unit)×((Int)×(List (ag))×Unit)×(List (UInt8))×Unit)
def HQ:av:=⟨[.own 3],[(0,.cells [.val false .int,.ifp 133 1,.own 2]),(1,.cells [.val false .int,.val false (.list .elem)]),(2,.row .u8),(3,.row .u8)],false⟩
def Oq:SV->Option av:=λ_=>some HQ
def Ro (c0_0:Int) (c1_0:Int) (c1_1:List (ag)) (c2:List (UInt8)):OT gW.Y:=
 (gd [eG ((c2,()),())] (.ok ⟨HQ,(((),()),((c0_0,((),((),()))),((c1_0,(c1_1,())),(c2,(c2,())))))⟩))
theorem axX (x:BW) (Q:gW.Y->Prop):wpf te sH ax 1000 Tryz.f50 (gW.inp.inj x).tm (gW.inp.inj x).hp (fnK gW Oq Q) (λ_ _=>False)=(Ro (x.2.1.1) (x.2.2.1.1) (x.2.2.1.2.1) (x.2.2.2.1)).wpR Q:=by kernel_rfl
theorem abi (pre:BW->Bool) (F:BW->OT gW.Y) (hF:∀ (x:BW) oy,pre x=true->(F x).run=some oy->(Ro (x.2.1.1) (x.2.2.1.1) (x.2.2.1.2.1) (x.2.2.2.1)).run=some oy):aa Tryz.prog 50 (gW.aD pre F):=
 aB al sG Up (f:=50) (fn:=Tryz.f50) (c:=ak Tryz.f50) (by kernel_rfl) (by kernel_rfl) (by kernel_rfl) (S:=gW) (k:=3) (by kernel_rfl) (λR hR=>ae) (n:=1000) (sel:=Oq) (λv o h=>by cases h;rfl) (pre:=pre) (F:=F) (T:=λx=>Ro (x.2.1.1) (x.2.2.1.1) (x.2.2.1.2.1) (x.2.2.2.1)) (λx Q=>axX x Q) hF
def Ot (x:BW):Bool:=eG ((x.2.2.2.1,()),())
def ahO (x:BW):OT gW.Y:=.ok ⟨HQ,(((),()),((x.2.1.1,((),((),()))),((x.2.2.1.1,(x.2.2.1.2.1,())),(x.2.2.2.1,(x.2.2.2.1,())))))⟩
theorem aqx:aa Tryz.prog 50 (gW.aD Ot ahO):=abi _ _ λx oy hp ho=>by
 rw [<-ho]
 clear ho
 obtain ⟨⟨⟨⟩,⟨⟩⟩,⟨⟨c,⟨⟩,⟨⟩,⟨⟩⟩,⟨s,l,⟨⟩⟩,o,⟨⟩⟩⟩:=x
 refine aj ?_
 simp only [List.all_cons,List.all_nil,Bool.and_true]
 exact hp
def oM:bw:=(gW.aD Ot ahO)
theorem EA:aa Tryz.prog 50 oM:=aqx
theorem Ez:aC oM:=ay
def Ay:Env:=aw 50 oM sH
theorem xb:aK Tryz.prog Ay:=af EA sG
theorem Ax:ar Ay:=ab Ez vx
theorem ZM:aO Tryz.prog te Ay:=aE follows al xb Ax
def aIq:CSh:=.cells [.val false .int,.ptr 1 0 0]
def lv:ap:=⟨[.ptr 0 0 0,.val false .u8,.val false (.list .u8)],[(0,aIq),(1,TA (.own 2)),(2,.row .u8)],true,2,true⟩
abbrev PB:Type:=((Unit)×(UInt8)×(List (UInt8))×Unit)×(((Int)×(Unit)×Unit)×((Int)×(UInt64)×(UInt64)×(UInt64)×(UInt64)×(UInt64)×(UInt64)×(UInt64)×(UInt64)×(Unit)×(UInt64)×Unit)×(List (UInt8))×Unit)
def SS:av:=⟨[],[(0,.cells [.val false .int,.ptr 1 0 0]),(1,.cells [.val false .int,.val false .u64,.val false .u64,.val false .u64,.val false .u64,.val false .u64,.val false .u64,.val false .u64,.val false .u64,.own 2,.val false .u64]),(2,.row .u8)],false⟩
def XB:SV->Option av:=λ_=>some SS
def ada (a1:UInt8) (a2:List (UInt8)) (c0_0:Int) (c1_0:Int) (c1_1:UInt64) (c1_2:UInt64) (c1_3:UInt64) (c1_4:UInt64) (c1_5:UInt64) (c1_6:UInt64) (c1_7:UInt64) (c1_8:UInt64) (c1_10:UInt64) (c2:List (UInt8)):OT lv.Y:=
 let z0:Int×UInt64×UInt64×UInt64×UInt64×UInt64×UInt64×UInt64×UInt64×PUnit×UInt64×PUnit:=(c1_0,c1_1,c1_2,c1_3,c1_4,c1_5,c1_6,c1_7,c1_8,(),c1_10,())
 let z1:List UInt64×UInt64×List UInt8:=iN (wA z0 c2) ([a1]++a2)
 let z2:=z1.snd
 let z3:Int×UInt64×UInt64×UInt64×UInt64×UInt64×UInt64×UInt64×UInt64×PUnit×UInt64×PUnit:=aFh c1_0 z1.fst z2.fst
 let z4:=z3.snd
 let z5:=z4.snd
 let z6:=z5.snd
 let z7:=z6.snd
 let z8:=z7.snd
 let z9:=z8.snd
 let z10:=z9.snd
 let z11:=z10.snd
 (gd [decide ((1+List.length a2)*1<=140737488355328),Dn (((),[a1]++a2,()),z0,c2,())] (.ok ⟨SS,((),((c0_0,((),())),((z3.fst,(z4.fst,(z5.fst,(z6.fst,(z7.fst,(z8.fst,(z9.fst,(z10.fst,(z11.fst,((),(z11.snd.snd.fst,()))))))))))),(z2.snd,()))))⟩))
theorem aED (x:PB) (Q:lv.Y->Prop):wpf te Ay ax 1000 Tryz.f195 (lv.inp.inj x).tm (lv.inp.inj x).hp (fnK lv XB Q) (λ_ _=>False)=(ada (x.1.2.1) (x.1.2.2.1) (x.2.1.1) (x.2.2.1.1) (x.2.2.1.2.1) (x.2.2.1.2.2.1) (x.2.2.1.2.2.2.1) (x.2.2.1.2.2.2.2.1) (x.2.2.1.2.2.2.2.2.1) (x.2.2.1.2.2.2.2.2.2.1) (x.2.2.1.2.2.2.2.2.2.2.1) (x.2.2.1.2.2.2.2.2.2.2.2.1) (x.2.2.1.2.2.2.2.2.2.2.2.2.2.1) (x.2.2.2.1)).wpR Q:=by kernel_rfl
theorem amj (pre:PB->Bool) (F:PB->OT lv.Y) (hF:∀ (x:PB) oy,pre x=true->(F x).run=some oy->(ada (x.1.2.1) (x.1.2.2.1) (x.2.1.1) (x.2.2.1.1) (x.2.2.1.2.1) (x.2.2.1.2.2.1) (x.2.2.1.2.2.2.1) (x.2.2.1.2.2.2.2.1) (x.2.2.1.2.2.2.2.2.1) (x.2.2.1.2.2.2.2.2.2.1) (x.2.2.1.2.2.2.2.2.2.2.1) (x.2.2.1.2.2.2.2.2.2.2.2.1) (x.2.2.1.2.2.2.2.2.2.2.2.2.2.1) (x.2.2.2.1)).run=some oy):aa Tryz.prog 195 (lv.aD pre F):=
 aB al xb ZM (f:=195) (fn:=Tryz.f195) (c:=ak Tryz.f195) (by kernel_rfl) (by kernel_rfl) (by kernel_rfl) (S:=lv) (k:=3) (by kernel_rfl) (λR hR=>ae) (n:=1000) (sel:=XB) (λv o h=>by cases h;rfl) (pre:=pre) (F:=F) (T:=λx=>ada (x.1.2.1) (x.1.2.2.1) (x.2.1.1) (x.2.2.1.1) (x.2.2.1.2.1) (x.2.2.1.2.2.1) (x.2.2.1.2.2.2.1) (x.2.2.1.2.2.2.2.1) (x.2.2.1.2.2.2.2.2.1) (x.2.2.1.2.2.2.2.2.2.1) (x.2.2.1.2.2.2.2.2.2.2.1) (x.2.2.1.2.2.2.2.2.2.2.2.1) (x.2.2.1.2.2.2.2.2.2.2.2.2.2.1) (x.2.2.2.1)) (λx Q=>aED x Q) hF
def jP (d:UI) (w:List UInt8) (m:UInt8) (b:List UInt8):UI×List UInt8:=(aFh d.1 (iN (wA d w) ([m]++b)).1 (iN (wA d w) ([m]++b)).2.1,(iN (wA d w) ([m]++b)).2.2)
def gh (x:PB):Bool:=decide (x.2.2.2.1.length+x.1.2.2.1.length<=140737488350000)
def asV (x:PB):OT lv.Y:=.ok ⟨SS,((),((x.2.1.1,((),())),((jP x.2.2.1 x.2.2.2.1 x.1.2.1 x.1.2.2.1).1,((jP x.2.2.1 x.2.2.2.1 x.1.2.1 x.1.2.2.1).2,()))))⟩
theorem azg:aa Tryz.prog 195 (lv.aD gh asV):=amj _ _ λx oy hp ho=>by
 rw [<-ho]
 clear ho
 obtain ⟨⟨⟨⟩,m,b,⟨⟩⟩,⟨⟨s,⟨⟩,⟨⟩⟩,⟨n,h0,h1,h2,h3,h4,h5,h6,h7,⟨⟩,c,⟨⟩⟩,w,⟨⟩⟩⟩:=x
 have hp':w.length+b.length<=140737488350000:=of_decide_eq_true hp
 refine (aj ?_).trans rfl
 simp only [List.all_cons,List.all_nil,Bool.and_true,Bool.and_eq_true]
 refine ⟨decide_eq_true (by omega),decide_eq_true ?_⟩
 show w.length+([m]++b).length<=_
 rw [List.length_append]
 simp only [List.length_cons,List.length_nil]
 omega
def C1:bw:=(qB 2 (lv.aD gh asV))
theorem ac9:aa Tryz.prog 195 C1:=(tj azg)
theorem ac8:aC C1:=(mc ay)
def Mc:Env:=aw 195 C1 Ay
theorem Ec:aK Tryz.prog Mc:=af ac9 xb
theorem FP:ar Mc:=ab ac8 Ax
theorem ae4:aO Tryz.prog te Mc:=aE follows al Ec FP
def lx:ap:=⟨[.ptr 0 0 0],[(0,aIq),(1,TA (.own 2)),(2,.row .u8)],false,2,true⟩
abbrev PC:Type:=((Unit)×Unit)×(((Int)×(Unit)×Unit)×((Int)×(UInt64)×(UInt64)×(UInt64)×(UInt64)×(UInt64)×(UInt64)×(UInt64)×(UInt64)×(Unit)×(UInt64)×Unit)×(List (UInt8))×Unit)
def zo:av:=⟨[.val true .elem,.val false .int],[(0,.cells [.val false .int,.ptr 1 0 0]),(1,.cells [.val false .int,.val false .u64,.val false .u64,.val false .u64,.val false .u64,.val false .u64,.val false .u64,.val false .u64,.val false .u64,.own 2,.val false .u64]),(2,.row .u8)],false⟩
def XF:SV->Option av:=λ_=>some zo
def adg (c0_0:Int) (c1_0:Int) (c1_1:UInt64) (c1_2:UInt64) (c1_3:UInt64) (c1_4:UInt64) (c1_5:UInt64) (c1_6:UInt64) (c1_7:UInt64) (c1_8:UInt64) (c1_10:UInt64) (c2:List (UInt8)):OT lx.Y:=
 let z0:Int×UInt64×UInt64×UInt64×UInt64×UInt64×UInt64×UInt64×UInt64×PUnit×UInt64×PUnit:=(c1_0,c1_1,c1_2,c1_3,c1_4,c1_5,c1_6,c1_7,c1_8,(),c1_10,())
 let z1:(Int×UInt64×UInt64×UInt64×UInt64×UInt64×UInt64×UInt64×UInt64×PUnit×UInt64×PUnit)×List UInt8:=jP z0 c2 (0:UInt8) []
 let z2:=z1.fst
 let z3:=z2.fst
 let z4:=z2.snd
 let z5:=z4.fst
 let z6:=z4.snd
 let z7:=z6.fst
 let z8:=z6.snd
 let z9:=z8.fst
 let z10:=z8.snd
 let z11:=z10.fst
 let z12:=z10.snd
 let z13:=z12.fst
 let z14:=z12.snd
 let z15:=z14.fst
 let z16:=z14.snd
 let z17:=z16.fst
 let z18:=z16.snd
 let z19:=z18.fst
 let z20:=z18.snd.snd.fst
 let z21:Int×UInt64×UInt64×UInt64×UInt64×UInt64×UInt64×UInt64×UInt64×PUnit×UInt64×PUnit:=(z3,z5,z7,z9,z11,z13,z15,z17,z19,(),z20,())
 let z22:=z1.snd
 let z23:List UInt8:=avt z3 (wA z21 z22)
 let z24:ag:= {w0:=0,w1:=0,w2:=0,w3:=0}
 (gd [gh (((),(0:UInt8),[],()),(c0_0,(),()),z0,c2,()),TU (((),()),z21,z22,())] (.br (au c0_0)
 (.br (vf z23)
  (.ok ⟨zo,((vM c0_0 z23,((0:Int),())),((c0_0,((),())),((z3,(z5,(z7,(z9,(z11,(z13,(z15,(z17,(z19,((),(z20,()))))))))))),(z22,()))))⟩)
  (.ok ⟨zo,((z24,((21:Int),())),((c0_0,((),())),((z3,(z5,(z7,(z9,(z11,(z13,(z15,(z17,(z19,((),(z20,()))))))))))),(z22,()))))⟩))
 (.ok ⟨zo,((z24,((20:Int),())),((c0_0,((),())),((z3,(z5,(z7,(z9,(z11,(z13,(z15,(z17,(z19,((),(z20,()))))))))))),(z22,()))))⟩)))
theorem aEF (x:PC) (Q:lx.Y->Prop):wpf te Mc ax 1000 Tryz.f194 (lx.inp.inj x).tm (lx.inp.inj x).hp (fnK lx XF Q) (λ_ _=>False)=(adg (x.2.1.1) (x.2.2.1.1) (x.2.2.1.2.1) (x.2.2.1.2.2.1) (x.2.2.1.2.2.2.1) (x.2.2.1.2.2.2.2.1) (x.2.2.1.2.2.2.2.2.1) (x.2.2.1.2.2.2.2.2.2.1) (x.2.2.1.2.2.2.2.2.2.2.1) (x.2.2.1.2.2.2.2.2.2.2.2.1) (x.2.2.1.2.2.2.2.2.2.2.2.2.2.1) (x.2.2.2.1)).wpR Q:=by kernel_rfl
theorem amo (pre:PC->Bool) (F:PC->OT lx.Y) (hF:∀ (x:PC) oy,pre x=true->(F x).run=some oy->(adg (x.2.1.1) (x.2.2.1.1) (x.2.2.1.2.1) (x.2.2.1.2.2.1) (x.2.2.1.2.2.2.1) (x.2.2.1.2.2.2.2.1) (x.2.2.1.2.2.2.2.2.1) (x.2.2.1.2.2.2.2.2.2.1) (x.2.2.1.2.2.2.2.2.2.2.1) (x.2.2.1.2.2.2.2.2.2.2.2.1) (x.2.2.1.2.2.2.2.2.2.2.2.2.2.1) (x.2.2.2.1)).run=some oy):aa Tryz.prog 194 (lx.aD pre F):=
 aB al Ec ae4 (f:=194) (fn:=Tryz.f194) (c:=ak Tryz.f194) (by kernel_rfl) (by kernel_rfl) (by kernel_rfl) (S:=lx) (k:=3) (by kernel_rfl) (λR hR=>ae) (n:=1000) (sel:=XF) (λv o h=>by cases h;rfl) (pre:=pre) (F:=F) (T:=λx=>adg (x.2.1.1) (x.2.2.1.1) (x.2.2.1.2.1) (x.2.2.1.2.2.1) (x.2.2.1.2.2.2.1) (x.2.2.1.2.2.2.2.1) (x.2.2.1.2.2.2.2.2.1) (x.2.2.1.2.2.2.2.2.2.1) (x.2.2.1.2.2.2.2.2.2.2.1) (x.2.2.1.2.2.2.2.2.2.2.2.1) (x.2.2.1.2.2.2.2.2.2.2.2.2.2.1) (x.2.2.2.1)) (λx Q=>aEF x Q) hF
theorem ayQ (d:UI) (w:List UInt8) (m:UInt8) (b:List UInt8):(jP d w m b).2.length<=128:=Qa _
theorem VI (h:List UInt64):∀ k n,(upto (λk (o:List UInt8)=>o.set k (UInt64.toUInt8 (aZ (h.getD (k/8) 0) (8*((k%8:Nat):Int))))) (List.replicate n 0) k).length=n
 |0,n=>List.length_replicate
 |k+1,n=>(List.length_set ..).trans (VI h k n)
theorem ax1 (n:Int) (s:List UInt64×UInt64×List UInt8):(avt n s).length=n.toNat:=VI _ _ _
def TH (s:Int) (d:UI) (w:List UInt8):ag:=vM s (avt d.1 (wA (jP d w 0 []).1 (jP d w 0 []).2))
def zn (x:PC):Bool:=au x.2.1.1&&decide (x.2.2.1.1=64/\x.2.2.2.1.length<=128)
def as0 (x:PC):OT lx.Y:=.ok ⟨zo,((TH x.2.1.1 x.2.2.1 x.2.2.2.1,((0:Int),())),((x.2.1.1,((),())),((jP x.2.2.1 x.2.2.2.1 0 []).1,((jP x.2.2.1 x.2.2.2.1 0 []).2,()))))⟩
theorem azh:aa Tryz.prog 194 (lx.aD zn as0):=amo _ _ λx oy hp ho=>by
 rw [<-ho]
 clear ho
 obtain ⟨⟨⟨⟩,⟨⟩⟩,⟨⟨s,⟨⟩,⟨⟩⟩,⟨n,h0,h1,h2,h3,h4,h5,h6,h7,⟨⟩,c,⟨⟩⟩,w,⟨⟩⟩⟩:=x
 obtain ⟨hs,hw⟩:=(Bool.and_eq_true _ _).mp hp
 obtain ⟨hn,hw⟩:=of_decide_eq_true hw
 have hn:n=64:=hn
 have hw:w.length<=128:=hw
 subst hn
 have hl:vf (avt 64 (wA (jP (64,h0,h1,h2,h3,h4,h5,h6,h7,(),c,()) w 0 []).1 (jP (64,h0,h1,h2,h3,h4,h5,h6,h7,(),c,()) w 0 []).2))=true:=zl.2 (ax1 _ _)
 refine (aj ?_).trans ((OT.az hs).trans ((OT.az hl).trans rfl))
 simp only [List.all_cons,List.all_nil,Bool.and_true,Bool.and_eq_true]
 exact ⟨decide_eq_true (by show w.length+0<=_;omega),decide_eq_true ⟨by show (0:Int)<=64;omega,by show (64:Int)<=64;omega,ayQ _ _ _ _⟩⟩
def C2:bw:=(lx.aD zn as0)
theorem adf:aa Tryz.prog 194 C2:=azh
theorem ade:aC C2:=ay
def Mf:Env:=aw 194 C2 Mc
theorem Ed:aK Tryz.prog Mf:=af adf Ec
theorem FQ:ar Mf:=ab ade FP
theorem ae5:aO Tryz.prog te Mf:=aE follows al Ed FQ
end Go.Proofs.YtohjofabochgfaaGreat

namespace Go.Proofs.YtohjofabochgfaaGreat
namespace Sx
open Go
def aiR (id:Nat) (sh:Shape) (l:St->(SE->St->Prop)->Prop) (Λ:Lam):Lam:=λj=>cond (Nat.beq j id) (some λst K=>match sh.prj st with
 |some _=>l st K
 |none=>match Λ id with
  |some l'=>l' st K
  |none=>False) (Λ j)
theorem Xr {P:Program} {R₀:Ctx} {c:Code} (hd:distinct ((blocks c).map (·.1))=true) {id:Nat} {sh:Shape} {l:St->(SE->St->Prop)->Prop} {Λ:Lam} (hl:aiT c id=true) (h:MR P R₀ (.block id (.loop (bg c id))) l) (hΛ:DF P R₀ Λ c):
 DF P R₀ (aiR id sh l Λ) c:=λp hp l' hl'=>by
 unfold aiR at hl'
 cases hb:Nat.beq p.1 id
 ·rw [hb] at hl';exact hΛ p hp l' hl'
 ·rw [hb] at hl'
  cases hl'
  have e:=Nat.eq_of_beq_eq_true hb
  have hp2:p.2=.loop (bg c id):=by
   have:=Dv hd p hp
   rw [<-this,e]
   have h2:=Js hl
   unfold YZ at h2
   exact h2
  intro R st a w K Q hx hst hk hK
  split at hk
  ·rw [hp2,e]
   exact h R st a w K Q hx hst hk hK
  ·split at hk
   ·rename_i l'' h''
    exact hΛ p hp l'' (by rw [e];exact h'') R st a w K Q hx hst hk hK
   ·exact hk.elim
def aiS (args:List SV) (hp:Hp) (a k:Nat):Option TypeId:=match args.getD a .bF with
 |.ptr c _ _ off=>match hp c with
  |some ⟨_,.cells vs⟩=>match vs.getD (off+k) .bF with
   |.iface t _=>some t
   |_=>none
  |_=>none
 |.iface t _=>some t
 |_=>none
theorem Xs {d:Nat} {hp hp':Hp} (hg:Zu d hp hp') {args:List SV} {a k:Nat} {t:TypeId} (h:aiS args hp a k=some t):aiS args hp' a k=some t:=by
 unfold aiS at h⊢
 split at h
 ·split at h
  ·rename_i e vs hc
   rw [hg.jD _ _ hc]
   exact h
  ·cases h
 ·exact h
 ·cases h
def iR (a k:Nat) (T:TypeId) (s0 s1:bw):bw:=⟨s0.mod||s1.mod,λd args hp=>match aiS args hp a k with
 |some t=>cond (Nat.beq t T) (s0.f d args hp) (s1.f d args hp)
 |none=>.fail⟩
theorem dR {P:Program} {f:FuncId} {a k:Nat} {T:TypeId} {s0 s1:bw} (h0:aa P f s0) (h1:aa P f s1):aa P f (iR a k T s0 s1):=by
 refine ⟨λR w d args vs out hm hr hrun=> ?_⟩
 simp only [iR] at hrun
 split at hrun
 ·rename_i t ht
  cases hb:Nat.beq t T
  ·rw [hb] at hrun
   exact h1.calls R w d args vs out hm hr hrun
  ·rw [hb] at hrun
   exact h0.calls R w d args vs out hm hr hrun
 ·cases hrun
theorem cB {a k:Nat} {T:TypeId} {s0 s1:bw} (h0:aC s0) (h1:aC s1):aC (iR a k T s0 s1):=λd args hp hp' out hg hrun=>by
 simp only [iR] at hrun⊢
 split at hrun
 ·rename_i t ht
  rw [Xs hg ht]
  dsimp only
  cases hb:Nat.beq t T
  ·rw [hb] at hrun
   exact h1 d args hp hp' out hg hrun
  ·rw [hb] at hrun
   exact h0 d args hp hp' out hg hrun
 ·cases hrun
end Sx
end Go.Proofs.YtohjofabochgfaaGreat

namespace Go.Proofs.YtohjofabochgfaaGreat
open Sx Go
set_option maxRecDepth 100000
def lz:ap:=⟨[.ptr 0 0 0],[(0,.cells [.val false .int,.ifp 141 1,.own 3]),(1,.cells [.val false .int,.ptr 2 0 0]),(2,TA (.own 4)),(3,.row .u8),(4,.row .u8)],false,4,true⟩
abbrev PI:Type:=((Unit)×Unit)×(((Int)×(Unit)×(Unit)×Unit)×((Int)×(Unit)×Unit)×((Int)×(UInt64)×(UInt64)×(UInt64)×(UInt64)×(UInt64)×(UInt64)×(UInt64)×(UInt64)×(Unit)×(UInt64)×Unit)×(List (UInt8))×(List (UInt8))×Unit)
def S0:av:=⟨[.val true .elem,.val false .int],[(0,.cells [.val false .int,.ifp 141 1,.own 3]),(1,.cells [.val false .int,.ptr 2 0 0]),(2,.cells [.val false .int,.val false .u64,.val false .u64,.val false .u64,.val false .u64,.val false .u64,.val false .u64,.val false .u64,.val false .u64,.own 4,.val false .u64]),(3,.row .u8),(4,.row .u8)],false⟩
def XJ:SV->Option av:=λ_=>some S0
def adi (c0_0:Int) (c1_0:Int) (c2_0:Int) (c2_1:UInt64) (c2_2:UInt64) (c2_3:UInt64) (c2_4:UInt64) (c2_5:UInt64) (c2_6:UInt64) (c2_7:UInt64) (c2_8:UInt64) (c2_10:UInt64) (c3:List (UInt8)) (c4:List (UInt8)):OT lz.Y:=
 let z0:Int×UInt64×UInt64×UInt64×UInt64×UInt64×UInt64×UInt64×UInt64×PUnit×UInt64×PUnit:=(c2_0,c2_1,c2_2,c2_3,c2_4,c2_5,c2_6,c2_7,c2_8,(),c2_10,())
 let z1:(Int×UInt64×UInt64×UInt64×UInt64×UInt64×UInt64×UInt64×UInt64×PUnit×UInt64×PUnit)×List UInt8:=jP z0 c4 (0:UInt8) []
 let z2:=z1.fst
 let z3:=z2.snd
 let z4:=z3.snd
 let z5:=z4.snd
 let z6:=z5.snd
 let z7:=z6.snd
 let z8:=z7.snd
 let z9:=z8.snd
 let z10:=z9.snd
 (gd [zn (((),()),(c1_0,(),()),z0,c4,())] (.ok ⟨S0,((TH c1_0 z0 c4,((0:Int),())),((c0_0,((),((),()))),((c1_0,((),())),((z2.fst,(z3.fst,(z4.fst,(z5.fst,(z6.fst,(z7.fst,(z8.fst,(z9.fst,(z10.fst,((),(z10.snd.snd.fst,()))))))))))),(c3,(z1.snd,()))))))⟩))
theorem aEH (x:PI) (Q:lz.Y->Prop):wpf te Mf ax 1000 Tryz.f24 (lz.inp.inj x).tm (lz.inp.inj x).hp (fnK lz XJ Q) (λ_ _=>False)=(adi (x.2.1.1) (x.2.2.1.1) (x.2.2.2.1.1) (x.2.2.2.1.2.1) (x.2.2.2.1.2.2.1) (x.2.2.2.1.2.2.2.1) (x.2.2.2.1.2.2.2.2.1) (x.2.2.2.1.2.2.2.2.2.1) (x.2.2.2.1.2.2.2.2.2.2.1) (x.2.2.2.1.2.2.2.2.2.2.2.1) (x.2.2.2.1.2.2.2.2.2.2.2.2.1) (x.2.2.2.1.2.2.2.2.2.2.2.2.2.2.1) (x.2.2.2.2.1) (x.2.2.2.2.2.1)).wpR Q:=by kernel_rfl
theorem ams (pre:PI->Bool) (F:PI->OT lz.Y) (hF:∀ (x:PI) oy,pre x=true->(F x).run=some oy->(adi (x.2.1.1) (x.2.2.1.1) (x.2.2.2.1.1) (x.2.2.2.1.2.1) (x.2.2.2.1.2.2.1) (x.2.2.2.1.2.2.2.1) (x.2.2.2.1.2.2.2.2.1) (x.2.2.2.1.2.2.2.2.2.1) (x.2.2.2.1.2.2.2.2.2.2.1) (x.2.2.2.1.2.2.2.2.2.2.2.1) (x.2.2.2.1.2.2.2.2.2.2.2.2.1) (x.2.2.2.1.2.2.2.2.2.2.2.2.2.2.1) (x.2.2.2.2.1) (x.2.2.2.2.2.1)).run=some oy):aa Tryz.prog 24 (lz.aD pre F):=
 aB al Ed ae5 (f:=24) (fn:=Tryz.f24) (c:=ak Tryz.f24) (by kernel_rfl) (by kernel_rfl) (by kernel_rfl) (S:=lz) (k:=5) (by kernel_rfl) (λR hR=>ae) (n:=1000) (sel:=XJ) (λv o h=>by cases h;rfl) (pre:=pre) (F:=F) (T:=λx=>adi (x.2.1.1) (x.2.2.1.1) (x.2.2.2.1.1) (x.2.2.2.1.2.1) (x.2.2.2.1.2.2.1) (x.2.2.2.1.2.2.2.1) (x.2.2.2.1.2.2.2.2.1) (x.2.2.2.1.2.2.2.2.2.1) (x.2.2.2.1.2.2.2.2.2.2.1) (x.2.2.2.1.2.2.2.2.2.2.2.1) (x.2.2.2.1.2.2.2.2.2.2.2.2.1) (x.2.2.2.1.2.2.2.2.2.2.2.2.2.2.1) (x.2.2.2.2.1) (x.2.2.2.2.2.1)) (λx Q=>aEH x Q) hF
def XK (x:PI):Bool:=au x.2.2.1.1&&decide (x.2.2.2.1.1=64/\x.2.2.2.2.2.1.length<=128)
def as6 (x:PI):OT lz.Y:=.ok ⟨S0,((TH x.2.2.1.1 x.2.2.2.1 x.2.2.2.2.2.1,((0:Int),())),((x.2.1.1,((),((),()))),((x.2.2.1.1,((),())),((jP x.2.2.2.1 x.2.2.2.2.2.1 0 []).1,(x.2.2.2.2.1,((jP x.2.2.2.1 x.2.2.2.2.2.1 0 []).2,()))))))⟩
theorem azk:aa Tryz.prog 24 (lz.aD XK as6):=ams _ _ λx oy hp ho=>by
 rw [<-ho]
 clear ho
 obtain ⟨⟨⟨⟩,⟨⟩⟩,⟨⟨c,⟨⟩,⟨⟩,⟨⟩⟩,⟨s,⟨⟩,⟨⟩⟩,⟨n,h0,h1,h2,h3,h4,h5,h6,h7,⟨⟩,k,⟨⟩⟩,o,w,⟨⟩⟩⟩:=x
 refine (aj ?_).trans rfl
 simp only [List.all_cons,List.all_nil,Bool.and_true]
 exact hp
def uc:bw:=(iR 0 1 133 tl (lz.aD XK as6))
theorem JM:aa Tryz.prog 24 uc:=(dR HP azk)
theorem JL:aC uc:=(cB HO ay)
def Mh:Env:=aw 24 uc Mf
theorem Ef:aK Tryz.prog Mh:=af JM Ed
theorem FT:ar Mh:=ab JL FQ
theorem ae7:aO Tryz.prog te Mh:=aE follows al Ef FT
def kP:ap:=⟨[.ptr 0 0 0,.val true .elem],[(0,.cells [.val false .int,.ifp 133 1,.own 2]),(1,.cells [.val false .int,.val false (.list .elem)]),(2,.row .u8)],false,3,true⟩
abbrev Ol:Type:=((Unit)×(ag)×Unit)×(((Int)×(Unit)×(Unit)×Unit)×((Int)×(List (ag))×Unit)×(List (UInt8))×Unit)
def Gt:av:=⟨[],[(0,.cells [.val false .int,.ifp 133 1,.own 2]),(1,.cells [.val false .int,.val false (.list .elem)]),(2,.row .u8)],false⟩
def VE:SV->Option av:=λ_=>some Gt
def abd (a1:ag) (c0_0:Int) (c1_0:Int) (c1_1:List (ag)) (c2:List (UInt8)):OT kP.Y:=
 (.br (au (cU c0_0 (1:Int)))
 (.ok ⟨Gt,((),((c0_0,((),((),()))),((c1_0,(c1_1,())),(c2,()))))⟩)
 (.ok ⟨Gt,((),((c0_0,((),((),()))),((c1_0,(c1_1,())),(c2,()))))⟩))
theorem aCf (x:Ol) (Q:kP.Y->Prop):wpf te Mh ax 1000 Tryz.f17 (kP.inp.inj x).tm (kP.inp.inj x).hp (fnK kP VE Q) (λ_ _=>False)=(abd (x.1.2.1) (x.2.1.1) (x.2.2.1.1) (x.2.2.1.2.1) (x.2.2.2.1)).wpR Q:=by kernel_rfl
theorem akZ (pre:Ol->Bool) (F:Ol->OT kP.Y) (hF:∀ (x:Ol) oy,pre x=true->(F x).run=some oy->(abd (x.1.2.1) (x.2.1.1) (x.2.2.1.1) (x.2.2.1.2.1) (x.2.2.2.1)).run=some oy):aa Tryz.prog 17 (kP.aD pre F):=
 aB al Ef ae7 (f:=17) (fn:=Tryz.f17) (c:=ak Tryz.f17) (by kernel_rfl) (by kernel_rfl) (by kernel_rfl) (S:=kP) (k:=3) (by kernel_rfl) (λR hR=>ae) (n:=1000) (sel:=VE) (λv o h=>by cases h;rfl) (pre:=pre) (F:=F) (T:=λx=>abd (x.1.2.1) (x.2.1.1) (x.2.2.1.1) (x.2.2.1.2.1) (x.2.2.2.1)) (λx Q=>aCf x Q) hF
def VF (x:Ol):Bool:=au (cU x.2.1.1 1)
def api (x:Ol):OT kP.Y:=.ok ⟨Gt,((),((x.2.1.1,((),((),()))),((x.2.2.1.1,(x.2.2.1.2.1,())),(x.2.2.2.1,()))))⟩
theorem av1:aa Tryz.prog 17 (kP.aD VF api):=akZ _ _ λx oy hp ho=>by
 rw [<-ho]
 clear ho
 obtain ⟨⟨⟨⟩,v,⟨⟩⟩,⟨⟨c,⟨⟩,⟨⟩,⟨⟩⟩,⟨s,l,⟨⟩⟩,o,⟨⟩⟩⟩:=x
 have hs:au (cU c 1)=true:=hp
 exact (OT.az hs).trans rfl
def th:bw:=(kP.aD VF api)
theorem HM:aa Tryz.prog 17 th:=av1
theorem HL:aC th:=ay
def LH:Env:=aw 17 th Mh
theorem DU:aK Tryz.prog LH:=af HM Ef
theorem Fx:ar LH:=ab HL FT
theorem aeQ:aO Tryz.prog te LH:=aE follows al DU Fx
def ly:ap:=⟨[.ptr 0 0 0,.val true .elem],[(0,.cells [.val false .int,.ifp 141 1,.own 3]),(1,.cells [.val false .int,.ptr 2 0 0]),(2,TA (.own 4)),(3,.row .u8),(4,.row .u8)],false,4,true⟩
abbrev PD:Type:=((Unit)×(ag)×Unit)×(((Int)×(Unit)×(Unit)×Unit)×((Int)×(Unit)×Unit)×((Int)×(UInt64)×(UInt64)×(UInt64)×(UInt64)×(UInt64)×(UInt64)×(UInt64)×(UInt64)×(Unit)×(UInt64)×Unit)×(List (UInt8))×(List (UInt8))×Unit)
def zp:av:=⟨[],[(0,.cells [.val false .int,.ifp 141 1,.own 3]),(1,.cells [.val false .int,.ptr 2 0 0]),(2,.cells [.val false .int,.val false .u64,.val false .u64,.val false .u64,.val false .u64,.val false .u64,.val false .u64,.val false .u64,.val false .u64,.own 4,.val false .u64]),(3,.row .u8),(4,.row .u8)],false⟩
def XH:SV->Option av:=λ_=>some zp
def JJ (a1:ag) (c0_0:Int) (c1_0:Int) (c2_0:Int) (c2_1:UInt64) (c2_2:UInt64) (c2_3:UInt64) (c2_4:UInt64) (c2_5:UInt64) (c2_6:UInt64) (c2_7:UInt64) (c2_8:UInt64) (c2_10:UInt64) (c3:List (UInt8)) (c4:List (UInt8)):OT ly.Y:=
 let z0:Int:=cU c0_0 (1:Int)
 let z1:List UInt8:=P8 (ofN (ag.nat a1%ag.nat (aS (Int.toNat z0)).fst))
 let z2:Int×UInt64×UInt64×UInt64×UInt64×UInt64×UInt64×UInt64×UInt64×PUnit×UInt64×PUnit:=(c2_0,c2_1,c2_2,c2_3,c2_4,c2_5,c2_6,c2_7,c2_8,(),c2_10,())
 let z3:(Int×PUnit×PUnit)×(Int×UInt64×UInt64×UInt64×UInt64×UInt64×UInt64×UInt64×UInt64×PUnit×UInt64×PUnit)×List UInt8×PUnit:=((c1_0,(),()),z2,c4,())
 let z4:(Int×UInt64×UInt64×UInt64×UInt64×UInt64×UInt64×UInt64×UInt64×PUnit×UInt64×PUnit)×List UInt8:=jP z2 c4 (2:UInt8) z1
 let z5:=z4.fst
 let z6:=z5.snd
 let z7:=z6.snd
 let z8:=z7.snd
 let z9:=z8.snd
 let z10:=z9.snd
 let z11:=z10.snd
 let z12:=z11.snd
 let z13:=z12.snd
 let z14:(Int×UInt64×UInt64×UInt64×UInt64×UInt64×UInt64×UInt64×UInt64×PUnit×UInt64×PUnit)×List UInt8:=jP z2 c4 (2:UInt8) []
 let z15:=z14.fst
 let z16:=z15.snd
 let z17:=z16.snd
 let z18:=z17.snd
 let z19:=z18.snd
 let z20:=z19.snd
 let z21:=z20.snd
 let z22:=z21.snd
 let z23:=z22.snd
 (.br (au z0)
 (gd [gh (((),(2:UInt8),z1,()),z3)] (.ok ⟨zp,((),((c0_0,((),((),()))),((c1_0,((),())),((z5.fst,(z6.fst,(z7.fst,(z8.fst,(z9.fst,(z10.fst,(z11.fst,(z12.fst,(z13.fst,((),(z13.snd.snd.fst,()))))))))))),(c3,(z4.snd,()))))))⟩))
 (gd [gh (((),(2:UInt8),[],()),z3)] (.ok ⟨zp,((),((c0_0,((),((),()))),((c1_0,((),())),((z15.fst,(z16.fst,(z17.fst,(z18.fst,(z19.fst,(z20.fst,(z21.fst,(z22.fst,(z23.fst,((),(z23.snd.snd.fst,()))))))))))),(c3,(z14.snd,()))))))⟩)))
theorem aEG (x:PD) (Q:ly.Y->Prop):wpf te LH ax 1000 Tryz.f17 (ly.inp.inj x).tm (ly.inp.inj x).hp (fnK ly XH Q) (λ_ _=>False)=(JJ (x.1.2.1) (x.2.1.1) (x.2.2.1.1) (x.2.2.2.1.1) (x.2.2.2.1.2.1) (x.2.2.2.1.2.2.1) (x.2.2.2.1.2.2.2.1) (x.2.2.2.1.2.2.2.2.1) (x.2.2.2.1.2.2.2.2.2.1) (x.2.2.2.1.2.2.2.2.2.2.1) (x.2.2.2.1.2.2.2.2.2.2.2.1) (x.2.2.2.1.2.2.2.2.2.2.2.2.1) (x.2.2.2.1.2.2.2.2.2.2.2.2.2.2.1) (x.2.2.2.2.1) (x.2.2.2.2.2.1)).wpR Q:=by kernel_rfl
theorem amq (pre:PD->Bool) (F:PD->OT ly.Y) (hF:∀ (x:PD) oy,pre x=true->(F x).run=some oy->(JJ (x.1.2.1) (x.2.1.1) (x.2.2.1.1) (x.2.2.2.1.1) (x.2.2.2.1.2.1) (x.2.2.2.1.2.2.1) (x.2.2.2.1.2.2.2.1) (x.2.2.2.1.2.2.2.2.1) (x.2.2.2.1.2.2.2.2.2.1) (x.2.2.2.1.2.2.2.2.2.2.1) (x.2.2.2.1.2.2.2.2.2.2.2.1) (x.2.2.2.1.2.2.2.2.2.2.2.2.1) (x.2.2.2.1.2.2.2.2.2.2.2.2.2.2.1) (x.2.2.2.2.1) (x.2.2.2.2.2.1)).run=some oy):aa Tryz.prog 17 (ly.aD pre F):=
 aB al DU aeQ (f:=17) (fn:=Tryz.f17) (c:=ak Tryz.f17) (by kernel_rfl) (by kernel_rfl) (by kernel_rfl) (S:=ly) (k:=5) (by kernel_rfl) (λR hR=>ae) (n:=1000) (sel:=XH) (λv o h=>by cases h;rfl) (pre:=pre) (F:=F) (T:=λx=>JJ (x.1.2.1) (x.2.1.1) (x.2.2.1.1) (x.2.2.2.1.1) (x.2.2.2.1.2.1) (x.2.2.2.1.2.2.1) (x.2.2.2.1.2.2.2.1) (x.2.2.2.1.2.2.2.2.1) (x.2.2.2.1.2.2.2.2.2.1) (x.2.2.2.1.2.2.2.2.2.2.1) (x.2.2.2.1.2.2.2.2.2.2.2.1) (x.2.2.2.1.2.2.2.2.2.2.2.2.1) (x.2.2.2.1.2.2.2.2.2.2.2.2.2.2.1) (x.2.2.2.2.1) (x.2.2.2.2.2.1)) (λx Q=>aEG x Q) hF
theorem gy (c:Int) (v:ag):(dX c v).length=32:=KA _
def XI (x:PD):Bool:=au (cU x.2.1.1 1)&&decide (x.2.2.2.2.2.1.length<=128)
def as4 (x:PD):OT ly.Y:=.ok ⟨zp,((),((x.2.1.1,((),((),()))),((x.2.2.1.1,((),())),((jP x.2.2.2.1 x.2.2.2.2.2.1 2 (dX x.2.1.1 x.1.2.1)).1,(x.2.2.2.2.1,((jP x.2.2.2.1 x.2.2.2.2.2.1 2 (dX x.2.1.1 x.1.2.1)).2,()))))))⟩
theorem amr {c s:Int} {v:ag} {d:UI} {w o:List UInt8} (hs:au (cU c 1)=true) (hw:w.length<=128):
 (JJ v c s d.1 d.2.1 d.2.2.1 d.2.2.2.1 d.2.2.2.2.1 d.2.2.2.2.2.1 d.2.2.2.2.2.2.1 d.2.2.2.2.2.2.2.1 d.2.2.2.2.2.2.2.2.1 d.2.2.2.2.2.2.2.2.2.2.1 o w).run=some ⟨zp,((),((c,((),((),()))),((s,((),())),((jP d w 2 (dX c v)).1,(o,((jP d w 2 (dX c v)).2,()))))))⟩:=by
 have hb:=gy c v
 generalize hB:dX c v=B at hb
 have hB:P8 (ofN (v.nat%(aS (cU c 1).toNat).1.nat))=B:=hB
 unfold JJ
 simp only [hB]
 refine (OT.az hs).trans ((aj ?_).trans rfl)
 simp only [List.all_cons,List.all_nil,Bool.and_true]
 exact decide_eq_true (by show w.length+B.length<=_;omega)
theorem azi:aa Tryz.prog 17 (ly.aD XI as4):=amq _ _ λx oy hp ho=>by
 rw [<-ho]
 clear ho
 obtain ⟨⟨⟨⟩,v,⟨⟩⟩,⟨⟨c,⟨⟩,⟨⟩,⟨⟩⟩,⟨s,⟨⟩,⟨⟩⟩,d,o,w,⟨⟩⟩⟩:=x
 obtain ⟨hs,hw⟩:=(Bool.and_eq_true _ _).mp hp
 exact amr hs (of_decide_eq_true hw)
def ub:bw:=(iR 0 1 133 th (ly.aD XI as4))
theorem JI:aa Tryz.prog 17 ub:=(dR HM azi)
theorem JH:aC ub:=(cB HL ay)
def Mg:Env:=aw 17 ub LH
theorem Ee:aK Tryz.prog Mg:=af JI DU
theorem FR:ar Mg:=ab JH Fx
theorem ae6:aO Tryz.prog te Mg:=aE follows al Ee FR
def rE:ap:=⟨[.ptr 0 0 0,.val false .u8,.val false (.list .u8)],[(0,.cells [.val false .int,.ifp 141 1,.own 3]),(1,.cells [.val false .int,.ptr 2 0 0]),(2,TA (.own 4)),(3,.row .u8),(4,.row .u8)],false,3,true⟩
abbrev amn:Type:=((Unit)×(UInt8)×(List (UInt8))×Unit)×(((Int)×(Unit)×(Unit)×Unit)×((Int)×(Unit)×Unit)×((Int)×(UInt64)×(UInt64)×(UInt64)×(UInt64)×(UInt64)×(UInt64)×(UInt64)×(UInt64)×(Unit)×(UInt64)×Unit)×(List (UInt8))×(List (UInt8))×Unit)
def adb:av:=⟨[],[(0,.cells [.val false .int,.ifp 141 1,.own 3]),(1,.cells [.val false .int,.ptr 2 0 0]),(2,.cells [.val false .int,.val false .u64,.val false .u64,.val false .u64,.val false .u64,.val false .u64,.val false .u64,.val false .u64,.val false .u64,.own 4,.val false .u64]),(3,.row .u8),(4,.row .u8)],false⟩
def aiX:SV->Option av:=λ_=>some adb
def asY (a1:UInt8) (a2:List (UInt8)) (c0_0:Int) (c1_0:Int) (c2_0:Int) (c2_1:UInt64) (c2_2:UInt64) (c2_3:UInt64) (c2_4:UInt64) (c2_5:UInt64) (c2_6:UInt64) (c2_7:UInt64) (c2_8:UInt64) (c2_10:UInt64) (c3:List (UInt8)) (c4:List (UInt8)):OT rE.Y:=
 let z0:Int×UInt64×UInt64×UInt64×UInt64×UInt64×UInt64×UInt64×UInt64×PUnit×UInt64×PUnit:=(c2_0,c2_1,c2_2,c2_3,c2_4,c2_5,c2_6,c2_7,c2_8,(),c2_10,())
 let z1:(Int×UInt64×UInt64×UInt64×UInt64×UInt64×UInt64×UInt64×UInt64×PUnit×UInt64×PUnit)×List UInt8:=jP z0 c4 a1 a2
 let z2:=z1.fst
 let z3:=z2.snd
 let z4:=z3.snd
 let z5:=z4.snd
 let z6:=z5.snd
 let z7:=z6.snd
 let z8:=z7.snd
 let z9:=z8.snd
 let z10:=z9.snd
 (gd [decide ((List.length c3+List.length a2)*1<=140737488355328),gh (((),a1,a2,()),(c1_0,(),()),z0,c4,())] (.ok ⟨adb,((),((c0_0,((),((),()))),((c1_0,((),())),((z2.fst,(z3.fst,(z4.fst,(z5.fst,(z6.fst,(z7.fst,(z8.fst,(z9.fst,(z10.fst,((),(z10.snd.snd.fst,()))))))))))),(c3++a2,(z1.snd,()))))))⟩))
theorem aGX (x:amn) (Q:rE.Y->Prop):wpf te Mg ax 1000 Tryz.f88 (rE.inp.inj x).tm (rE.inp.inj x).hp (fnK rE aiX Q) (λ_ _=>False)=(asY (x.1.2.1) (x.1.2.2.1) (x.2.1.1) (x.2.2.1.1) (x.2.2.2.1.1) (x.2.2.2.1.2.1) (x.2.2.2.1.2.2.1) (x.2.2.2.1.2.2.2.1) (x.2.2.2.1.2.2.2.2.1) (x.2.2.2.1.2.2.2.2.2.1) (x.2.2.2.1.2.2.2.2.2.2.1) (x.2.2.2.1.2.2.2.2.2.2.2.1) (x.2.2.2.1.2.2.2.2.2.2.2.2.1) (x.2.2.2.1.2.2.2.2.2.2.2.2.2.2.1) (x.2.2.2.2.1) (x.2.2.2.2.2.1)).wpR Q:=by kernel_rfl
theorem asX (pre:amn->Bool) (F:amn->OT rE.Y) (hF:∀ (x:amn) oy,pre x=true->(F x).run=some oy->(asY (x.1.2.1) (x.1.2.2.1) (x.2.1.1) (x.2.2.1.1) (x.2.2.2.1.1) (x.2.2.2.1.2.1) (x.2.2.2.1.2.2.1) (x.2.2.2.1.2.2.2.1) (x.2.2.2.1.2.2.2.2.1) (x.2.2.2.1.2.2.2.2.2.1) (x.2.2.2.1.2.2.2.2.2.2.1) (x.2.2.2.1.2.2.2.2.2.2.2.1) (x.2.2.2.1.2.2.2.2.2.2.2.2.1) (x.2.2.2.1.2.2.2.2.2.2.2.2.2.2.1) (x.2.2.2.2.1) (x.2.2.2.2.2.1)).run=some oy):aa Tryz.prog 88 (rE.aD pre F):=
 aB al Ee ae6 (f:=88) (fn:=Tryz.f88) (c:=ak Tryz.f88) (by kernel_rfl) (by kernel_rfl) (by kernel_rfl) (S:=rE) (k:=5) (by kernel_rfl) (λR hR=>ae) (n:=1000) (sel:=aiX) (λv o h=>by cases h;rfl) (pre:=pre) (F:=F) (T:=λx=>asY (x.1.2.1) (x.1.2.2.1) (x.2.1.1) (x.2.2.1.1) (x.2.2.2.1.1) (x.2.2.2.1.2.1) (x.2.2.2.1.2.2.1) (x.2.2.2.1.2.2.2.1) (x.2.2.2.1.2.2.2.2.1) (x.2.2.2.1.2.2.2.2.2.1) (x.2.2.2.1.2.2.2.2.2.2.1) (x.2.2.2.1.2.2.2.2.2.2.2.1) (x.2.2.2.1.2.2.2.2.2.2.2.2.1) (x.2.2.2.1.2.2.2.2.2.2.2.2.2.2.1) (x.2.2.2.2.1) (x.2.2.2.2.2.1)) (λx Q=>aGX x Q) hF
def GK (x:amn):Bool:=decide (x.2.2.2.2.1.length+x.1.2.2.1.length<=140737488350000/\x.2.2.2.2.2.1.length<=128/\x.1.2.2.1.length<=1000)
def aBb (x:amn):OT rE.Y:=.ok ⟨adb,((),((x.2.1.1,((),((),()))),((x.2.2.1.1,((),())),((jP x.2.2.2.1 x.2.2.2.2.2.1 x.1.2.1 x.1.2.2.1).1,(x.2.2.2.2.1++x.1.2.2.1,((jP x.2.2.2.1 x.2.2.2.2.2.1 x.1.2.1 x.1.2.2.1).2,()))))))⟩
theorem aEE:aa Tryz.prog 88 (rE.aD GK aBb):=asX _ _ λx oy hp ho=>by
 rw [<-ho]
 clear ho
 obtain ⟨⟨⟨⟩,m,b,⟨⟩⟩,⟨⟨c,⟨⟩,⟨⟩,⟨⟩⟩,⟨s,⟨⟩,⟨⟩⟩,d,o,w,⟨⟩⟩⟩:=x
 obtain ⟨h1,h2,h3⟩:=of_decide_eq_true hp
 have h1:o.length+b.length<=140737488350000:=h1
 have h2:w.length<=128:=h2
 have h3:b.length<=1000:=h3
 refine (aj ?_).trans rfl
 simp only [List.all_cons,List.all_nil,Bool.and_true,Bool.and_eq_true]
 exact ⟨decide_eq_true (by omega),decide_eq_true (by show w.length+b.length<=_;omega)⟩
def JG:bw:=(iR 0 1 133 xY (qB 2 (rE.aD GK aBb)))
theorem amm:aa Tryz.prog 88 JG:=(dR Oc (tj aEE))
theorem aml:aC JG:=(cB Ob (mc ay))
def ZY:Env:=aw 88 JG Mg
theorem Md:aK Tryz.prog ZY:=af amm Ee
theorem Me:ar ZY:=ab aml FR
theorem an7:aO Tryz.prog te ZY:=aE follows al Md Me
def fB:ap:=⟨[.ptr 0 0 0,.val true .elem],[(0,.cells [.val false .int,.ifp 141 1,.own 3]),(1,.cells [.val false .int,.ptr 2 0 0]),(2,TA (.own 4)),(3,.row .u8),(4,.row .u8)],false,3,true⟩
abbrev ua:Type:=((Unit)×(ag)×Unit)×(((Int)×(Unit)×(Unit)×Unit)×((Int)×(Unit)×Unit)×((Int)×(UInt64)×(UInt64)×(UInt64)×(UInt64)×(UInt64)×(UInt64)×(UInt64)×(UInt64)×(Unit)×(UInt64)×Unit)×(List (UInt8))×(List (UInt8))×Unit)
def nQ:av:=⟨[],[(0,.cells [.val false .int,.ifp 141 1,.own 3]),(1,.cells [.val false .int,.ptr 2 0 0]),(2,.cells [.val false .int,.val false .u64,.val false .u64,.val false .u64,.val false .u64,.val false .u64,.val false .u64,.val false .u64,.val false .u64,.own 4,.val false .u64]),(3,.row .u8),(4,.row .u8)],false⟩
def JE:SV->Option av:=λ_=>some nQ
def rD (a1:ag) (c0_0:Int) (c1_0:Int) (c2_0:Int) (c2_1:UInt64) (c2_2:UInt64) (c2_3:UInt64) (c2_4:UInt64) (c2_5:UInt64) (c2_6:UInt64) (c2_7:UInt64) (c2_8:UInt64) (c2_10:UInt64) (c3:List (UInt8)) (c4:List (UInt8)):OT fB.Y:=
 let z0:Int:=cU c0_0 (1:Int)
 let z1:List UInt8:=P8 (ofN (ag.nat a1%ag.nat (aS (Int.toNat z0)).fst))
 let z2:Int×UInt64×UInt64×UInt64×UInt64×UInt64×UInt64×UInt64×UInt64×PUnit×UInt64×PUnit:=(c2_0,c2_1,c2_2,c2_3,c2_4,c2_5,c2_6,c2_7,c2_8,(),c2_10,())
 let z3:(Int×PUnit×PUnit×PUnit)×(Int×PUnit×PUnit)×(Int×UInt64×UInt64×UInt64×UInt64×UInt64×UInt64×UInt64×UInt64×PUnit×UInt64×PUnit)×List UInt8×List UInt8×PUnit:=((c0_0,(),(),()),(c1_0,(),()),z2,c3,c4,())
 let z4:(Int×UInt64×UInt64×UInt64×UInt64×UInt64×UInt64×UInt64×UInt64×PUnit×UInt64×PUnit)×List UInt8:=jP z2 c4 (2:UInt8) z1
 let z5:=z4.fst
 let z6:=z5.snd
 let z7:=z6.snd
 let z8:=z7.snd
 let z9:=z8.snd
 let z10:=z9.snd
 let z11:=z10.snd
 let z12:=z11.snd
 let z13:=z12.snd
 let z14:(Int×UInt64×UInt64×UInt64×UInt64×UInt64×UInt64×UInt64×UInt64×PUnit×UInt64×PUnit)×List UInt8:=jP z2 c4 (2:UInt8) []
 let z15:=z14.fst
 let z16:=z15.snd
 let z17:=z16.snd
 let z18:=z17.snd
 let z19:=z18.snd
 let z20:=z19.snd
 let z21:=z20.snd
 let z22:=z21.snd
 let z23:=z22.snd
 (.br (au z0)
 (gd [GK (((),(2:UInt8),z1,()),z3)] (.ok ⟨nQ,((),((c0_0,((),((),()))),((c1_0,((),())),((z5.fst,(z6.fst,(z7.fst,(z8.fst,(z9.fst,(z10.fst,(z11.fst,(z12.fst,(z13.fst,((),(z13.snd.snd.fst,()))))))))))),(c3++z1,(z4.snd,()))))))⟩))
 (gd [GK (((),(2:UInt8),[],()),z3)] (.ok ⟨nQ,((),((c0_0,((),((),()))),((c1_0,((),())),((z15.fst,(z16.fst,(z17.fst,(z18.fst,(z19.fst,(z20.fst,(z21.fst,(z22.fst,(z23.fst,((),(z23.snd.snd.fst,()))))))))))),(c3++ [],(z14.snd,()))))))⟩)))
theorem asW (x:ua) (Q:fB.Y->Prop):wpf te ZY ax 1000 Tryz.f49 (fB.inp.inj x).tm (fB.inp.inj x).hp (fnK fB JE Q) (λ_ _=>False)=(rD (x.1.2.1) (x.2.1.1) (x.2.2.1.1) (x.2.2.2.1.1) (x.2.2.2.1.2.1) (x.2.2.2.1.2.2.1) (x.2.2.2.1.2.2.2.1) (x.2.2.2.1.2.2.2.2.1) (x.2.2.2.1.2.2.2.2.2.1) (x.2.2.2.1.2.2.2.2.2.2.1) (x.2.2.2.1.2.2.2.2.2.2.2.1) (x.2.2.2.1.2.2.2.2.2.2.2.2.1) (x.2.2.2.1.2.2.2.2.2.2.2.2.2.2.1) (x.2.2.2.2.1) (x.2.2.2.2.2.1)).wpR Q:=by kernel_rfl
theorem XC (pre:ua->Bool) (F:ua->OT fB.Y) (hF:∀ (x:ua) oy,pre x=true->(F x).run=some oy->(rD (x.1.2.1) (x.2.1.1) (x.2.2.1.1) (x.2.2.2.1.1) (x.2.2.2.1.2.1) (x.2.2.2.1.2.2.1) (x.2.2.2.1.2.2.2.1) (x.2.2.2.1.2.2.2.2.1) (x.2.2.2.1.2.2.2.2.2.1) (x.2.2.2.1.2.2.2.2.2.2.1) (x.2.2.2.1.2.2.2.2.2.2.2.1) (x.2.2.2.1.2.2.2.2.2.2.2.2.1) (x.2.2.2.1.2.2.2.2.2.2.2.2.2.2.1) (x.2.2.2.2.1) (x.2.2.2.2.2.1)).run=some oy):aa Tryz.prog 49 (fB.aD pre F):=
 aB al Md an7 (f:=49) (fn:=Tryz.f49) (c:=ak Tryz.f49) (by kernel_rfl) (by kernel_rfl) (by kernel_rfl) (S:=fB) (k:=5) (by kernel_rfl) (λR hR=>ae) (n:=1000) (sel:=JE) (λv o h=>by cases h;rfl) (pre:=pre) (F:=F) (T:=λx=>rD (x.1.2.1) (x.2.1.1) (x.2.2.1.1) (x.2.2.2.1.1) (x.2.2.2.1.2.1) (x.2.2.2.1.2.2.1) (x.2.2.2.1.2.2.2.1) (x.2.2.2.1.2.2.2.2.1) (x.2.2.2.1.2.2.2.2.2.1) (x.2.2.2.1.2.2.2.2.2.2.1) (x.2.2.2.1.2.2.2.2.2.2.2.1) (x.2.2.2.1.2.2.2.2.2.2.2.2.1) (x.2.2.2.1.2.2.2.2.2.2.2.2.2.2.1) (x.2.2.2.2.1) (x.2.2.2.2.2.1)) (λx Q=>asW x Q) hF
def JF (x:ua):Bool:=au (cU x.2.1.1 1)&&decide (x.2.2.2.2.1.length<=140737488340000/\x.2.2.2.2.2.1.length<=128)
def XE (x:ua):OT fB.Y:=.ok ⟨nQ,((),((x.2.1.1,((),((),()))),((x.2.2.1.1,((),())),((jP x.2.2.2.1 x.2.2.2.2.2.1 2 (dX x.2.1.1 x.1.2.1)).1,(x.2.2.2.2.1++dX x.2.1.1 x.1.2.1,((jP x.2.2.2.1 x.2.2.2.2.2.1 2 (dX x.2.1.1 x.1.2.1)).2,()))))))⟩
theorem XD {c s:Int} {v:ag} {d:UI} {w o:List UInt8} (hs:au (cU c 1)=true) (ho:o.length<=140737488340000) (hw:w.length<=128):
 (rD v c s d.1 d.2.1 d.2.2.1 d.2.2.2.1 d.2.2.2.2.1 d.2.2.2.2.2.1 d.2.2.2.2.2.2.1 d.2.2.2.2.2.2.2.1 d.2.2.2.2.2.2.2.2.1 d.2.2.2.2.2.2.2.2.2.2.1 o w).run=some ⟨nQ,((),((c,((),((),()))),((s,((),())),((jP d w 2 (dX c v)).1,(o++dX c v,((jP d w 2 (dX c v)).2,()))))))⟩:=by
 have hb:=gy c v
 generalize hB:dX c v=B at hb
 have hB:P8 (ofN (v.nat%(aS (cU c 1).toNat).1.nat))=B:=hB
 unfold rD
 simp only [hB]
 refine (OT.az hs).trans ((aj ?_).trans rfl)
 simp only [List.all_cons,List.all_nil,Bool.and_true]
 exact decide_eq_true ⟨by show o.length+B.length<=_;omega,hw,by show B.length<=_;omega⟩
theorem amk:aa Tryz.prog 49 (fB.aD JF XE):=XC _ _ λx oy hp ho=>by
 rw [<-ho]
 clear ho
 obtain ⟨⟨⟨⟩,v,⟨⟩⟩,⟨⟨c,⟨⟩,⟨⟩,⟨⟩⟩,⟨s,⟨⟩,⟨⟩⟩,d,o,w,⟨⟩⟩⟩:=x
 obtain ⟨hs,hw⟩:=(Bool.and_eq_true _ _).mp hp
 obtain ⟨h1,h2⟩:=of_decide_eq_true hw
 exact XD hs h1 h2
def rC:bw:=(iR 0 1 133 ma (fB.aD JF XE))
theorem SW:aa Tryz.prog 49 rC:=(dR xX amk)
theorem SU:aC rC:=(cB xW ay)
def sR:Env:=aw 49 rC ZY
theorem sQ:aK Tryz.prog sR:=af SW Md
theorem vF:ar sR:=ab SU Me
theorem Uy:aO Tryz.prog te sR:=aE follows al sQ vF
def ix:ap:=⟨[.ptr 0 0 0],[(0,.cells [.val false .int,.ifp 141 1,.own 3]),(1,.cells [.val false .int,.ptr 2 0 0]),(2,TA (.own 4)),(3,.row .u8),(4,.row .u8)],false,5,true⟩
abbrev C4:Type:=((Unit)×Unit)×(((Int)×(Unit)×(Unit)×Unit)×((Int)×(Unit)×Unit)×((Int)×(UInt64)×(UInt64)×(UInt64)×(UInt64)×(UInt64)×(UInt64)×(UInt64)×(UInt64)×(Unit)×(UInt64)×Unit)×(List (UInt8))×(List (UInt8))×Unit)
def JN:av:=⟨[.own 5],[(0,.cells [.val false .int,.ifp 141 1,.own 3]),(1,.cells [.val false .int,.ptr 2 0 0]),(2,.cells [.val false .int,.val false .u64,.val false .u64,.val false .u64,.val false .u64,.val false .u64,.val false .u64,.val false .u64,.val false .u64,.own 4,.val false .u64]),(3,.row .u8),(4,.row .u8),(5,.row .u8)],false⟩
def PJ:SV->Option av:=λ_=>some JN
def S1 (c0_0:Int) (c1_0:Int) (c2_0:Int) (c2_1:UInt64) (c2_2:UInt64) (c2_3:UInt64) (c2_4:UInt64) (c2_5:UInt64) (c2_6:UInt64) (c2_7:UInt64) (c2_8:UInt64) (c2_10:UInt64) (c3:List (UInt8)) (c4:List (UInt8)):OT ix.Y:=
 (gd [eG ((c3,()),())] (.ok ⟨JN,(((),()),((c0_0,((),((),()))),((c1_0,((),())),((c2_0,(c2_1,(c2_2,(c2_3,(c2_4,(c2_5,(c2_6,(c2_7,(c2_8,((),(c2_10,()))))))))))),(c3,(c4,(c3,())))))))⟩))
theorem azl (x:C4) (Q:ix.Y->Prop):wpf te sR ax 1000 Tryz.f50 (ix.inp.inj x).tm (ix.inp.inj x).hp (fnK ix PJ Q) (λ_ _=>False)=(S1 (x.2.1.1) (x.2.2.1.1) (x.2.2.2.1.1) (x.2.2.2.1.2.1) (x.2.2.2.1.2.2.1) (x.2.2.2.1.2.2.2.1) (x.2.2.2.1.2.2.2.2.1) (x.2.2.2.1.2.2.2.2.2.1) (x.2.2.2.1.2.2.2.2.2.2.1) (x.2.2.2.1.2.2.2.2.2.2.2.1) (x.2.2.2.1.2.2.2.2.2.2.2.2.1) (x.2.2.2.1.2.2.2.2.2.2.2.2.2.2.1) (x.2.2.2.2.1) (x.2.2.2.2.2.1)).wpR Q:=by kernel_rfl
theorem adj (pre:C4->Bool) (F:C4->OT ix.Y) (hF:∀ (x:C4) oy,pre x=true->(F x).run=some oy->(S1 (x.2.1.1) (x.2.2.1.1) (x.2.2.2.1.1) (x.2.2.2.1.2.1) (x.2.2.2.1.2.2.1) (x.2.2.2.1.2.2.2.1) (x.2.2.2.1.2.2.2.2.1) (x.2.2.2.1.2.2.2.2.2.1) (x.2.2.2.1.2.2.2.2.2.2.1) (x.2.2.2.1.2.2.2.2.2.2.2.1) (x.2.2.2.1.2.2.2.2.2.2.2.2.1) (x.2.2.2.1.2.2.2.2.2.2.2.2.2.2.1) (x.2.2.2.2.1) (x.2.2.2.2.2.1)).run=some oy):aa Tryz.prog 50 (ix.aD pre F):=
 aB al sQ Uy (f:=50) (fn:=Tryz.f50) (c:=ak Tryz.f50) (by kernel_rfl) (by kernel_rfl) (by kernel_rfl) (S:=ix) (k:=5) (by kernel_rfl) (λR hR=>ae) (n:=1000) (sel:=PJ) (λv o h=>by cases h;rfl) (pre:=pre) (F:=F) (T:=λx=>S1 (x.2.1.1) (x.2.2.1.1) (x.2.2.2.1.1) (x.2.2.2.1.2.1) (x.2.2.2.1.2.2.1) (x.2.2.2.1.2.2.2.1) (x.2.2.2.1.2.2.2.2.1) (x.2.2.2.1.2.2.2.2.2.1) (x.2.2.2.1.2.2.2.2.2.2.1) (x.2.2.2.1.2.2.2.2.2.2.2.1) (x.2.2.2.1.2.2.2.2.2.2.2.2.1) (x.2.2.2.1.2.2.2.2.2.2.2.2.2.2.1) (x.2.2.2.2.1) (x.2.2.2.2.2.1)) (λx Q=>azl x Q) hF
def PK (x:C4):Bool:=eG ((x.2.2.2.2.1,()),())
def ai0 (x:C4):OT ix.Y:=.ok ⟨JN,(((),()),((x.2.1.1,((),((),()))),((x.2.2.1.1,((),())),(x.2.2.2.1,(x.2.2.2.2.1,(x.2.2.2.2.2.1,(x.2.2.2.2.1,())))))))⟩
theorem as7:aa Tryz.prog 50 (ix.aD PK ai0):=adj _ _ λx oy hp ho=>by
 rw [<-ho]
 clear ho
 obtain ⟨⟨⟨⟩,⟨⟩⟩,⟨⟨c,⟨⟩,⟨⟩,⟨⟩⟩,⟨s,⟨⟩,⟨⟩⟩,⟨n,h0,h1,h2,h3,h4,h5,h6,h7,⟨⟩,k,⟨⟩⟩,o,w,⟨⟩⟩⟩:=x
 refine (aj ?_).trans rfl
 simp only [List.all_cons,List.all_nil,Bool.and_true]
 exact hp
def wG:bw:=(iR 0 1 133 oM (ix.aD PK ai0))
theorem XM:aa Tryz.prog 50 wG:=(dR EA as7)
theorem XL:aC wG:=(cB Ez ay)
def AZ:Env:=aw 50 wG sR
theorem xm:aK Tryz.prog AZ:=af XM sQ
theorem AY:ar AZ:=ab XL vF
theorem Z0:aO Tryz.prog te AZ:=aE follows al xm AY
end Go.Proofs.YtohjofabochgfaaGreat

namespace Go.Proofs.YtohjofabochgfaaGreat
namespace Sx
open Go
def Ctx.rI (R:Ctx) (c:Nat) (ch:Ch) (b:Nat) (o:Obj):Ctx:=
 ⟨λb'=>if b'=b then some o else R.F b',R.U,R.σ,λc'=>if c'=c then some ch else R.hp c'⟩
theorem PQ {R:Ctx} {w:World} (hm:dk R w) {c e:Nat} {t:Ty} {xs:List t.T} (hc:R.hp c=some ⟨e,.row t xs⟩):∃ R1,du R R1 w [(c,⟨e,.frz t xs⟩)]:=by
 have h0:=hm.ch c _ hc
 cases hσ:R.σ c with
 |none=>
  simp only [eH,hσ] at h0
  obtain ⟨hpos,hl,rfl⟩:=h0
  have hx:R.Ext (R.upd c ⟨e,.frz t []⟩):=⟨λ_ _ h=>h,rfl,λc' ch' hc'=>by
   by_cases h1:c'=c
   ·subst h1
    rw [hc] at hc'
    cases hc'
    exact ⟨⟨e,.frz t []⟩,by simp only [Ctx.upd,if_true],Nat.le_refl e,λ_=>⟨rfl,rfl⟩⟩
   ·exact ⟨ch',by simp only [Ctx.upd,if_neg h1,hc'],Nat.le_refl _,λ_=>⟨rfl,rfl⟩⟩⟩
  refine ⟨R.upd c ⟨e,.frz t []⟩,hx,rfl,?_⟩
  refine dk.turn hm hx rfl rfl (λ_ _=>rfl) w.heap.size (λ_ _ _=>rfl) ⟨hm.Um,hm.Uh,λn ch L hn h1 h2 h3=> ?_⟩ ?_ (λL h2=> ?_)
  ·have:=hm.lt h1 h2 h3;omega
  ·simp only [eH,Ctx.upd,hσ]
   exact ⟨hpos,hl,trivial⟩
  ·have h2:R.σ c=some L:=h2
   rw [hσ] at h2;cases h2
 |some L=>
  simp only [eH,hσ] at h0
  obtain ⟨hpos,hl,hF,hU,arr,E,k1,k2,k3,k4⟩:=h0
  have hx:R.Ext (R.rI c ⟨e,.frz t xs⟩ L.block (.cells arr E (0,0))):=⟨λb o' h=>by
   have:b≠L.block:=λe'=>by rw [e',hF] at h;cases h
   simp only [Ctx.rI,if_neg this,h],rfl,λc' ch' hc'=>by
    by_cases h1:c'=c
    ·subst h1
     rw [hc] at hc'
     cases hc'
     exact ⟨⟨e,.frz t xs⟩,by simp only [Ctx.rI,if_true],Nat.le_refl e,λ_=>⟨rfl,rfl⟩⟩
    ·exact ⟨ch',by simp only [Ctx.rI,if_neg h1,hc'],Nat.le_refl _,λ_=>⟨rfl,rfl⟩⟩⟩
  refine ⟨R.rI c ⟨e,.frz t xs⟩ L.block (.cells arr E (0,0)),hx,rfl,λb o' h=> ?_,λb o' h=>hm.U b o' h,λc' ch' hc'=> ?_,λc1 c2 ch1 ch2 L1 L2 g1 g2 g3 g4 g5 g6 g7=> ?_,λb o' h=> ?_,hm.env⟩
  ·simp only [Ctx.rI] at h
   split at h
   ·rename_i h1
    subst h1
    rw [k1];exact h
   ·exact hm.F b o' h
  ·by_cases h1:c'=c
   ·subst h1
    simp only [Ctx.rI,if_true] at hc'
    cases hc'
    simp only [eH,Ctx.rI,hσ]
    exact ⟨hpos,hl,arr,E,(0,0),by simp only [if_true],k2,k3,λi hi=>bN hx.F _ _ _ (k4 i hi)⟩
   ·simp only [Ctx.rI,if_neg h1] at hc'
    have hch:=hm.ch c' ch' hc'
    have hs:(R.rI c ⟨e,.frz t xs⟩ L.block (.cells arr E (0,0))).σ c'=R.σ c':=rfl
    have hblk:∀ L',R.σ c'=some L'->ch'.body.mut=true->L'.block≠L.block:=λL' h2 h3 h4=>h1 (hm.apart c' c _ _ _ _ hc' hc h3 rfl h2 hσ h4)
    have hFn:∀ b,b≠L.block->R.F b=none->(R.rI c ⟨e,.frz t xs⟩ L.block (.cells arr E (0,0))).F b=none:=λb h2 h3=>by simp only [Ctx.rI,if_neg h2,h3]
    obtain ⟨ep,body⟩:=ch'
    cases body with
    |row t ys=>
     simp only [eH] at hch⊢
     rw [hs]
     refine ⟨hch.1,hch.2.1,?_⟩
     replace hch:=hch.2.2
     cases hL:R.σ c' with
     |none=>rw [hL] at hch;exact hch
     |some L'=>
      rw [hL] at hch
      obtain ⟨c1,c2,arr,E,c3,c4,c5,c6⟩:=hch
      have hne:=hblk L' hL rfl
      exact ⟨hFn _ hne c1,c2,arr,E,c3,c4,c5,λi hi=>bN hx.F _ _ _ (c6 i hi)⟩
    |frz t ys=>
     simp only [eH] at hch⊢
     rw [hs]
     refine ⟨hch.1,hch.2.1,?_⟩
     replace hch:=hch.2.2
     cases hL:R.σ c' with
     |none=>rw [hL] at hch;exact hch
     |some L'=>
      rw [hL] at hch
      obtain ⟨arr,E,fz,c3,c4,c5,c6⟩:=hch
      exact ⟨arr,E,fz,hx.F _ _ c3,c4,c5,λi hi=>bN hx.F _ _ _ (c6 i hi)⟩
    |cells vs=>
     simp only [eH] at hch⊢
     obtain ⟨L',hL,c1,c2,arr,E,c3,c4,c5,c6,c7⟩:=hch
     have hne:=hblk L' hL rfl
     exact ⟨L',by rw [hs];exact hL,hFn _ hne c1,c2,arr,E,c3,c4,c5,SV.dz hx _ _ c6,c7⟩
  ·by_cases h1:c1=c
   ·subst h1
    simp only [Ctx.rI,if_true] at g1
    cases g1
    cases g3
   ·by_cases h2:c2=c
    ·subst h2
     simp only [Ctx.rI,if_true] at g2
     cases g2
     cases g4
    ·simp only [Ctx.rI,if_neg h1] at g1
     simp only [Ctx.rI,if_neg h2] at g2
     exact hm.apart _ _ _ _ _ _ g1 g2 g3 g4 g5 g6 g7
  ·simp only [Ctx.rI] at h
   split at h
   ·rename_i h1
    subst h1
    exact hU
   ·exact hm.FU b o' h
def XY (k j:Nat) (s:bw):bw:=⟨true,λd args hp=>match args.getD k .bF with
 |.agg vs=>match vs.getD j .bF with
  |.own c e=>match eD hp c e with
   |some (.row t xs)=>(s.f d args (dJ hp [(c,⟨e,.frz t xs⟩)])).map (Out.after [(c,⟨e,.frz t xs⟩)])
   |some _=>s.f d args hp
   |none=>.fail
  |_=>s.f d args hp
 |_=>s.f d args hp⟩
theorem atl {P:Program} {f:FuncId} {s:bw} {k j:Nat} (h:aa P f s):aa P f (XY k j s):=by
 refine ⟨λR w d args vs out hm hr hrun=> ?_⟩
 simp only [XY] at hrun
 split at hrun
 ·split at hrun
  ·rename_i c e hce
   split at hrun
   ·rename_i t xs hc
    obtain ⟨out',h1,rfl⟩:=OT.run_map hrun
    obtain ⟨R1,ha⟩:=PQ hm (cm hc)
    rw [<-show R1.hp=dJ R.hp [(c,⟨e,.frz t xs⟩)] from ha.hp] at h1
    have hr1:SV.bL R1 args vs:=SV.dz ha.ext _ _ hr
    have hpost:∀ en w',jl R1 out' en w'->jl R (Out.after [(c,⟨e,.frz t xs⟩)] out') en w':=λen w' hp=>by
     cases out' with
     |ret q=>
      obtain ⟨v,R',h2,h3,h4⟩:=hp
      exact ⟨v,R',h2,ha.trans h3,h4⟩
     |pan q u=>
      obtain ⟨v,R',h2,h3,h4⟩:=hp
      exact ⟨v,R',h2,ha.trans h3,h4⟩
    rcases h.calls R1 w d _ vs out' ha.mem hr1 h1 with ⟨fn,f1,f2,f3,hcl⟩|⟨v,w',hv,hp⟩
    ·exact .inl ⟨fn,f1,f2,f3,hcl.mono hpost⟩
    ·exact .inr ⟨v,w',hv,hpost _ _ hp⟩
   ·exact h.calls R w d args vs out hm hr hrun
   ·cases hrun
  ·exact h.calls R w d args vs out hm hr hrun
 ·exact h.calls R w d args vs out hm hr hrun
theorem adt {s:bw} {k j:Nat} (h:aC s):aC (XY k j s):=λd args hp hp' out hg hrun=>by
 simp only [XY] at hrun⊢
 split at hrun
 ·split at hrun
  ·split at hrun
   ·rename_i t xs hc
    rw [bR hg hc]
    simp only
    obtain ⟨out',h1,rfl⟩:=OT.run_map hrun
    refine SJ (h d _ _ _ out' ⟨λn ch hn=> ?_,λn hn hn0=> ?_⟩ h1)
    ·simp only [dJ] at hn⊢
     split
     ·rename_i h2;rw [if_pos h2] at hn;exact hn
     ·rename_i h2;rw [if_neg h2] at hn;exact hg.jD _ _ hn
    ·simp only [dJ] at hn0⊢
     split
     ·rename_i h2;rw [if_pos h2] at hn0;cases hn0
     ·rename_i h2;rw [if_neg h2] at hn0;exact hg.free _ hn hn0
   ·rename_i b hnr hc
    rw [bR hg hc]
    cases b<;>first|exact h _ _ _ _ _ hg hrun|exact absurd rfl (hnr _ _)
   ·cases hrun
  ·exact h _ _ _ _ _ hg hrun
 ·exact h _ _ _ _ _ hg hrun
end Sx
end Go.Proofs.YtohjofabochgfaaGreat

namespace Go.Proofs.YtohjofabochgfaaGreat
open Sx Go
set_option maxRecDepth 100000
def fF:ap:=⟨[.val true (.prod .int (.list .elem))],[],false,0,false⟩
abbrev ux:Type:=(((Int×List (ag)))×Unit)×(Unit)
def Dj:av:=⟨[.val true (.prod .int (.list .elem))],[],false⟩
def KC:SV->Option av:=λ_=>some Dj
def KD (a0:(Int×List (ag))):OT fF.Y:=
 (gd [BI ((a0.snd,()),())] (.ok ⟨Dj,((a0,()),())⟩))
theorem aug (x:ux) (Q:fF.Y->Prop):wpf te AZ ax 1000 Tryz.f14 (fF.inp.inj x).tm (fF.inp.inj x).hp (fnK fF KC Q) (λ_ _=>False)=(KD (x.1.1)).wpR Q:=by kernel_rfl
theorem YC (pre:ux->Bool) (F:ux->OT fF.Y) (hF:∀ (x:ux) oy,pre x=true->(F x).run=some oy->(KD (x.1.1)).run=some oy):aa Tryz.prog 14 (fF.aD pre F):=
 aB al xm Z0 (f:=14) (fn:=Tryz.f14) (c:=ak Tryz.f14) (by kernel_rfl) (by kernel_rfl) (by kernel_rfl) (S:=fF) (k:=0) (by kernel_rfl) (λR hR=>ae) (n:=1000) (sel:=KC) (λv o h=>by cases h;rfl) (pre:=pre) (F:=F) (T:=λx=>KD (x.1.1)) (λx Q=>aug x Q) hF
theorem VN {s:Int} (h:au s=true):au (cU s 1)=true:=by
 rcases ca h with rfl|rfl|rfl|rfl<;>rfl
def pC (x:ux):Bool:=decide (x.1.1.2.length*32<=140737488355328)
def YD (x:ux):OT fF.Y:=.ok ⟨Dj,((x.1.1,()),())⟩
theorem ank:aa Tryz.prog 14 (fF.aD pC YD):=YC _ _ λx oy hp ho=>by
 rw [<-ho]
 clear ho
 refine (aj ?_).trans rfl
 simp only [List.all_cons,List.all_nil,Bool.and_true]
 exact hp
def sb:bw:=(XY 0 1 (fF.aD pC YD))
theorem TC:aa Tryz.prog 14 sb:=(atl ank)
theorem TB:aC sb:=(adt ay)
def sZ:Env:=aw 14 sb AZ
theorem sY:aK Tryz.prog sZ:=af TC xm
theorem vJ:ar sZ:=ab TB AY
theorem UD:aO Tryz.prog te sZ:=aE follows al sY vJ
def kO:ap:=⟨[],[],true,0,false⟩
abbrev Ok:Type:=(Unit)×(Unit)
def Rk:av:=⟨[.val false .bool],[],false⟩
def VC:SV->Option av:=λ_=>some Rk
def abc:OT kO.Y:=
 (.ok ⟨Rk,((true,()),())⟩)
theorem aCe (x:Ok) (Q:kO.Y->Prop):wpf te sZ ax 1000 Tryz.f11 (kO.inp.inj x).tm (kO.inp.inj x).hp (fnK kO VC Q) (λ_ _=>False)=(abc).wpR Q:=by kernel_rfl
theorem akY (pre:Ok->Bool) (F:Ok->OT kO.Y) (hF:∀ (x:Ok) oy,pre x=true->(F x).run=some oy->(abc).run=some oy):aa Tryz.prog 11 (kO.aD pre F):=
 aB al sY UD (f:=11) (fn:=Tryz.f11) (c:=ak Tryz.f11) (by kernel_rfl) (by kernel_rfl) (by kernel_rfl) (S:=kO) (k:=0) (by kernel_rfl) (λR hR=>ae) (n:=1000) (sel:=VC) (λv o h=>by cases h;rfl) (pre:=pre) (F:=F) (T:=λx=>abc) (λx Q=>aCe x Q) hF
def VD (_:Ok):Bool:=true
def aph (_:Ok):OT kO.Y:=.ok ⟨Rk,((true,()),())⟩
theorem av0:aa Tryz.prog 11 (kO.aD VD aph):=akY _ _ λx oy hp ho=>by
 rw [<-ho]
 clear ho
 rfl
def BT:bw:=(kO.aD VD aph)
theorem abb:aa Tryz.prog 11 BT:=av0
theorem aba:aC BT:=ay
def DT:Env:=aw 11 BT sZ
theorem uV:aK Tryz.prog DT:=af abb sY
theorem Fw:ar DT:=ab aba vJ
theorem LG:aO Tryz.prog te DT:=aE follows al uV Fw
def eu:ap:=⟨[.val true .elem,.val true .elem],[],true,0,false⟩
abbrev tT:Type:=((ag)×(ag)×Unit)×(Unit)
def nJ:Shape:=⟨24,[(2,.ptr 0 0 0),(3,.ptr 1 0 0),(5,.val false .int)],[(0,.row .u64),(1,.row .u64)],0,true⟩
abbrev aV:Type:=((Unit)×(Unit)×(Int)×Unit)×((List (UInt64))×(List (UInt64))×Unit)
def jA:Shape:=⟨24,[(4,.val false .bool)],[],0,true⟩
abbrev io:Type:=((Bool)×Unit)×(Unit)
def mn:Shape:=⟨24,[],[],0,true⟩
abbrev iq:Type:=(Unit)×(Unit)
def Pg:SE->Option Shape:=gI [(0,mn)] (some jA)
def alX (a5:Int) (c0:List (UInt64)) (c1:List (UInt64)):OT (Sum aV aI):=
 let z0:Bool:=inB a5 4
 let z1:Bool:=decide (Int.toNat a5+0<List.length c0)
 let z2:Bool:=decide (Int.toNat a5+0<List.length c1)
 let z3:UInt64:=List.getD c0 (Int.toNat a5+0) (0:UInt64)
 let z4:UInt64:=List.getD c1 (Int.toNat a5+0) (0:UInt64)
 (.br (decide ((0:Int)<=a5))
 (gd [z0,z1,z0,z2] (.br (!z3==z4)
  (gd [z0,z1,z0,z2] (.ok (.inr ⟨(.ret,jA),((decide (z3<z4),()),())⟩)))
  (gd [inR (a5-(1:Int))] (.ok (.inl (((),((),(a5-(1:Int),()))),(c0,(c1,()))))))))
 (.ok (.inr ⟨(.exit 0,mn),((),())⟩)))
def fP (s:aV):OT (Sum aV aI):=alX (s.1.2.2.1) (s.2.1) (s.2.2.1)
theorem alU (s:aV) (Q:Sum aV aI->Prop):wps te DT ax 1000 (bg (ak Tryz.f144) 0) (nJ.inj s) (cz nJ Pg (Q:Sum nJ.T aI->Prop))=(fP s).wpR Q:=by kernel_rfl
def nK (g0_r:aV->io) (c0_r:aV->Bool) (g0_0:aV->iq) (s:aV):OT aI:=(.br (c0_r s) (.ok ⟨(.ret,jA),g0_r s⟩) (.ok ⟨(.exit 0,mn),g0_0 s⟩))
def kk:av:=⟨[.val false .bool],[],false⟩
def I9:SV->Option av:=λ_=>some kk
def Jc (ok0:aV->Bool) (g0_r:aV->io) (c0_r:aV->Bool) (g0_0:aV->iq) (a0:ag) (a1:ag):OT eu.Y:=
 let z0:(PUnit×PUnit×Int×PUnit)×List UInt64×List UInt64×PUnit:=(((),(),(3:Int),()),[a0.w0,a0.w1,a0.w2,a0.w3],[a1.w0,a1.w1,a1.w2,a1.w3],())
 (gd [ok0 z0] (.br (c0_r z0)
 (.ok ⟨kk,(((g0_r z0).fst.fst,()),())⟩)
 (.ok ⟨kk,((false,()),())⟩)))
theorem asf (ok0:aV->Bool) (g0_r:aV->io) (c0_r:aV->Bool) (g0_0:aV->iq) (x:tT) (Q:eu.Y->Prop):wpf te DT (be 0 (cE nJ 0 ok0 (nK g0_r c0_r g0_0)) ax) 1000 Tryz.f144 (eu.inp.inj x).tm (eu.inp.inj x).hp (fnK eu I9 Q) (λ_ _=>False)=(Jc ok0 g0_r c0_r g0_0 (x.1.1) (x.1.2.1)).wpR Q:=by kernel_rfl
theorem Xa (ok0:aV->Bool) (g0_r:aV->io) (c0_r:aV->Bool) (g0_0:aV->iq) (h0:∀ s:aV,ok0 s=true->∃ m e,aA (fP) m s=some e/\(nK g0_r c0_r g0_0 s).run=some e) (pre:tT->Bool) (F:tT->OT eu.Y) (hF:∀ (x:tT) oy,pre x=true->(F x).run=some oy->(Jc ok0 g0_r c0_r g0_0 (x.1.1) (x.1.2.1)).run=some oy):aa Tryz.prog 144 (eu.aD pre F):=
 aB al uV LG (f:=144) (fn:=Tryz.f144) (c:=ak Tryz.f144) (by kernel_rfl) (by kernel_rfl) (by kernel_rfl) (S:=eu) (k:=0) (by kernel_rfl) (λR hR=>(aG (c:=(ak Tryz.f144)) (by kernel_rfl) (id:=0) (by kernel_rfl) (ba al uV LG (sh:=nJ) hR (xs:=Pg) (aF (by kernel_rfl) (by kernel_rfl) hR) aN ae (n:=1000) (T:=fP) (λs Q=>alU s Q) (ok:=ok0) (f:=nK g0_r c0_r g0_0) h0) ae)) (n:=1000) (sel:=I9) (λv o h=>by cases h;rfl) (pre:=pre) (F:=F) (T:=λx=>Jc ok0 g0_r c0_r g0_0 (x.1.1) (x.1.2.1)) (λx Q=>asf ok0 g0_r c0_r g0_0 x Q) hF
def iP (a b:ag) (i:Int):aV:=(((),(),i,()),(lst a,lst b,()))
theorem GH (a b:ag) (k:Nat) (hk:k<4) (h:(lst a).getD k 0=(lst b).getD k 0):(fP (iP a b (k:Int))).run=some (.inl (iP a b ((k:Int)-1))):=by
 refine (OT.az (decide_eq_true (by dsimp only [iP];omega))).trans ((aj ?_).trans ((OT.aq ?_).trans ((aj ?_).trans rfl)))
 ·simp only [iP,Int.toNat_natCast,Nat.add_zero,cr,List.all_cons,List.all_nil,Bool.and_true,Bool.and_eq_true]
  exact ⟨aM (by omega),decide_eq_true hk,aM (by omega),decide_eq_true hk⟩
 ·simp only [iP,Int.toNat_natCast,Nat.add_zero,h,beq_self_eq_true,Bool.not_true]
 ·simp only [iP,List.all_cons,List.all_nil,Bool.and_true]
  exact aL (by omega)
theorem tU (a b:ag) (k:Nat) (hk:k<4) (h:¬(lst a).getD k 0=(lst b).getD k 0):(fP (iP a b (k:Int))).run=some (.inr ⟨(.ret,jA),((decide ((lst a).getD k 0<(lst b).getD k 0),()),())⟩):=by
 refine (OT.az (decide_eq_true (by dsimp only [iP];omega))).trans ((aj ?_).trans ((OT.az ?_).trans ((aj ?_).trans ?_)))
 ·simp only [iP,Int.toNat_natCast,Nat.add_zero,cr,List.all_cons,List.all_nil,Bool.and_true,Bool.and_eq_true]
  exact ⟨aM (by omega),decide_eq_true hk,aM (by omega),decide_eq_true hk⟩
 ·simp only [iP,Int.toNat_natCast,Nat.add_zero,beq_eq_false_iff_ne.2 h,Bool.not_false]
 ·simp only [iP,Int.toNat_natCast,Nat.add_zero,cr,List.all_cons,List.all_nil,Bool.and_true,Bool.and_eq_true]
  exact ⟨aM (by omega),decide_eq_true hk,aM (by omega),decide_eq_true hk⟩
 ·simp only [iP,Int.toNat_natCast,Nat.add_zero]
  rfl
def Jb (s:aV):Bool:=decide (s.1.2.2.1=3/\s.2.1.length=4/\s.2.2.1.length=4)
def CJ (s:aV):io:=((Nat.blt (elemOf s.2.1).nat (elemOf s.2.2.1).nat,()),())
def ln (s:aV):Bool:= !eqE (elemOf s.2.1) (elemOf s.2.2.1)
def CK (_:aV):iq:=((),())
theorem Ss {a b:ag} (h:¬a=b) {r:Bool} (hr:r=Nat.blt a.nat b.nat) (hm:∃ m,aA fP m (iP a b 3)=some ⟨(.ret,jA),((r,()),())⟩):
 ∃ m e,aA fP m (iP a b 3)=some e/\(nK CJ ln CK (iP a b 3)).run=some e:=by
 obtain ⟨m,hm⟩:=hm
 refine ⟨m,_,hm,?_⟩
 have hc:ln (iP a b 3)=true:=by
  show (!eqE a b)=true
  rw [Bool.eq_false_iff.2 λe=>h (wM.1 e)]
  rfl
 subst hr
 exact OT.az hc
theorem alW:∀ s:aV,Jb s=true->∃ m e,aA fP m s=some e/\(nK CJ ln CK s).run=some e:=by
 rintro ⟨⟨⟨⟩,⟨⟩,i,⟨⟩⟩,⟨l1,l2,⟨⟩⟩⟩ h
 have h':=of_decide_eq_true h
 dsimp only at h'
 obtain ⟨rfl,h1,h2⟩:=h'
 obtain ⟨a,rfl⟩:∃ a,l1=lst a:=⟨elemOf l1,(aP h1).symm⟩
 obtain ⟨b,rfl⟩:∃ a,l2=lst a:=⟨elemOf l2,(aP h2).symm⟩
 have ha0:=a.w0.toNat_lt
 have hb0:=b.w0.toNat_lt
 have ha1:=a.w1.toNat_lt
 have hb1:=b.w1.toNat_lt
 have ha2:=a.w2.toNat_lt
 have hb2:=b.w2.toNat_lt
 by_cases h3:a.w3=b.w3
 ·have s3:=GH a b 3 (by omega) h3
  by_cases h2:a.w2=b.w2
  ·have s2:=GH a b 2 (by omega) h2
   by_cases h1:a.w1=b.w1
   ·have s1:=GH a b 1 (by omega) h1
    by_cases h0:a.w0=b.w0
    ·have s0:=GH a b 0 (by omega) h0
     have e:a=b:=by cases a;cases b;simp_all
     have sx:(fP (iP a b (((0:Nat):Int)-1))).run=some (.inr ⟨(.exit 0,mn),((),())⟩):=OT.aq (decide_eq_false (by dsimp only [iP];omega))
     refine ⟨_,_,aJ s3 (aJ s2 (aJ s1 (aJ s0 (bc sx)))),?_⟩
     have hc:ln (((),(),3,()),(lst a,lst b,()))=false:=by
      show (!eqE a b)=false
      rw [e,ajz]
      rfl
     exact OT.aq hc
    ·refine Ss (λe=>h0 (by rw [e])) (sA ?_) ⟨_,aJ s3 (aJ s2 (aJ s1 (bc (tU a b 0 (by omega) h0))))⟩
     show a.nat<b.nat ↔ a.w0.toNat<b.w0.toNat
     unfold Sx.ag.nat
     rw [h3,h2,h1]
     exact Pv.1
   ·refine Ss (λe=>h1 (by rw [e])) (sA ?_) ⟨_,aJ s3 (aJ s2 (bc (tU a b 1 (by omega) h1)))⟩
    show a.nat<b.nat ↔ a.w1.toNat<b.w1.toNat
    unfold Sx.ag.nat
    rw [h3,h2]
    have k:=Pv (x:=a.w1.toNat) (y:=b.w1.toNat) (N:=b.w2.toNat+18446744073709551616*b.w3.toNat)
    exact (qf ha0 hb0 (k.2 (CQ h1))).1.trans k.1
  ·refine Ss (λe=>h2 (by rw [e])) (sA ?_) ⟨_,aJ s3 (bc (tU a b 2 (by omega) h2))⟩
   show a.nat<b.nat ↔ a.w2.toNat<b.w2.toNat
   unfold Sx.ag.nat
   rw [h3]
   have k:=Pv (x:=a.w2.toNat) (y:=b.w2.toNat) (N:=b.w3.toNat)
   have k1:=qf ha1 hb1 (k.2 (CQ h2))
   exact (qf ha0 hb0 k1.2).1.trans (k1.1.trans k.1)
 ·refine Ss (λe=>h3 (by rw [e])) (sA ?_) ⟨_,bc (tU a b 3 (by omega) h3)⟩
  show a.nat<b.nat ↔ a.w3.toNat<b.w3.toNat
  unfold Sx.ag.nat
  have k2:=qf ha2 hb2 (CQ h3)
  have k1:=qf ha1 hb1 k2.2
  exact (qf ha0 hb0 k1.2).1.trans (k1.1.trans k2.1)
def Ja (_:tT):Bool:=true
def Xb (x:tT):OT eu.Y:=.ok ⟨kk,((Nat.blt x.1.1.nat x.1.2.1.nat,()),())⟩
theorem alV:aa Tryz.prog 144 (eu.aD Ja Xb):=Xa Jb CJ ln CK alW _ _ λx oy _ ho=>by
 rw [<-ho]
 clear ho
 obtain ⟨⟨a,b,⟨⟩⟩,⟨⟩⟩:=x
 refine (aj ?_).trans ?_
 ·simp only [List.all_cons,List.all_nil,Bool.and_true]
  exact decide_eq_true ⟨rfl,rfl,rfl⟩
 ·rcases (Bool.eq_false_or_eq_true (eqE a b)).symm with h|h
  ·have hc:ln (((),(),3,()),(lst a,lst b,()))=true:=by
    show (!eqE a b)=true
    rw [h]
    rfl
   exact OT.az hc
  ·have hc:ln (((),(),3,()),(lst a,lst b,()))=false:=by
    show (!eqE a b)=false
    rw [h]
    rfl
   refine (OT.aq hc).trans ?_
   have e:Nat.blt a.nat b.nat=false:=by
    rw [wM.1 h]
    cases hb:Nat.blt b.nat b.nat
    ·rfl
    ·exact absurd (dW hb) (Nat.lt_irrefl _)
   show (OT.ok ⟨kk,((false,()),())⟩:OT eu.Y).run=(OT.ok ⟨kk,((Nat.blt a.nat b.nat,()),())⟩:OT eu.Y).run
   rw [e]
def ri:bw:=(eu.aD Ja Xb)
theorem Sr:aa Tryz.prog 144 ri:=alV
theorem Sq:aC ri:=ay
def ow:Env:=aw 144 ri DT
theorem mK:aK Tryz.prog ow:=af Sr uV
theorem vE:ar ow:=ab Sq Fw
theorem AV:aO Tryz.prog te ow:=aE follows al mK vE
def fx:ap:=⟨[.val true .elem,.val true .elem],[],true,0,false⟩
abbrev tS:Type:=((ag)×(ag)×Unit)×(Unit)
def nH:Shape:=⟨41,[(2,.ptr 0 0 0),(3,.ptr 1 0 0),(4,.ptr 2 0 0),(5,.ptr 3 0 0),(6,.val false .u64),(7,.val false .int)],[(0,.row .u64),(1,.row .u64),(2,.row .u64),(3,.row .u64)],0,true⟩
abbrev bJ:Type:=((Unit)×(Unit)×(Unit)×(Unit)×(UInt64)×(Int)×Unit)×((List (UInt64))×(List (UInt64))×(List (UInt64))×(List (UInt64))×Unit)
def mm:Shape:=⟨41,[(4,.ptr 0 0 0),(5,.ptr 1 0 0)],[(0,.row .u64),(1,.row .u64)],0,true⟩
abbrev il:Type:=((Unit)×(Unit)×Unit)×((List (UInt64))×(List (UInt64))×Unit)
def Pb:SE->Option Shape:=gI [(0,mm)] none
def alT (a6:UInt64) (a7:Int) (c0:List (UInt64)) (c1:List (UInt64)) (c2:List (UInt64)) (c3:List (UInt64)):OT (Sum bJ aI):=
 let z0:Bool:=inB a7 4
 let z1:Bool:=decide (Int.toNat a7+0<List.length c0)
 let z2:Bool:=decide (Int.toNat a7+0<List.length c1)
 let z3:UInt64:=List.getD c0 (Int.toNat a7+0) (0:UInt64)
 let z4:UInt64:=List.getD c1 (Int.toNat a7+0) (0:UInt64)
 let z5:Bool:=decide (Int.toNat a7+0<List.length c3)
 let z6:Bool:=inR (a7+(1:Int))
 let z7:UInt64:=z3-z4
 let z8:List UInt64:=List.set c3 (Int.toNat a7+0) (z7-a6)
 (.br (decide (a7<(4:Int)))
 (gd [z0,z1,z0,z2,z0,z1,z0,z2] (.br (decide (z3<z4))
  (gd [z0,z5,z6] (.ok (.inl (((),((),((),((),((1:UInt64),(a7+(1:Int),())))))),(c0,(c1,(c2,(z8,()))))))))
  (.br (decide (z7<a6))
   (gd [z0,z5,z6] (.ok (.inl (((),((),((),((),((1:UInt64),(a7+(1:Int),())))))),(c0,(c1,(c2,(z8,()))))))))
   (gd [z0,z5,z6] (.ok (.inl (((),((),((),((),((0:UInt64),(a7+(1:Int),())))))),(c0,(c1,(c2,(z8,())))))))))))
 (.ok (.inr ⟨(.exit 0,mm),(((),((),())),(c2,(c3,())))⟩)))
def nI (s:bJ):OT (Sum bJ aI):=alT (s.1.2.2.2.2.1) (s.1.2.2.2.2.2.1) (s.2.1) (s.2.2.1) (s.2.2.2.1) (s.2.2.2.2.1)
theorem alQ (s:bJ) (Q:Sum bJ aI->Prop):wps te ow ax 1000 (bg (ak Tryz.f145) 0) (nH.inj s) (cz nH Pb (Q:Sum nH.T aI->Prop))=(nI s).wpR Q:=by kernel_rfl
def tR (g0_0:bJ->il) (s:bJ):OT aI:=(.ok ⟨(.exit 0,mm),g0_0 s⟩)
def CH:av:=⟨[.val true .elem],[],false⟩
def I3:SV->Option av:=λ_=>some CH
def I6 (ok0:bJ->Bool) (g0_0:bJ->il) (a0:ag) (a1:ag):OT fx.Y:=
 let z0:(PUnit×PUnit×PUnit×PUnit×UInt64×Int×PUnit)×List UInt64×List UInt64×List UInt64×List UInt64×PUnit:=(((),(),(),(),(0:UInt64),(0:Int),()),[a0.w0,a0.w1,a0.w2,a0.w3],[a1.w0,a1.w1,a1.w2,a1.w3],[(0:UInt64),(0:UInt64),(0:UInt64),(0:UInt64)],[(0:UInt64),(0:UInt64),(0:UInt64),(0:UInt64)],())
 let z1:=(g0_0 z0).snd
 let z2:=z1.snd.fst
 let z3:=z1.fst
 let z4:List UInt64:=lay z3 z2 4 (0:UInt64)
 (gd [ok0 z0,decide (4<=List.length z2),decide ((4/1:Nat)+0<=List.length z3),decide (4<=List.length z4)] (.ok ⟨CH,(({w0:=List.getD z4 0 0,w1:=List.getD z4 1 0,w2:=List.getD z4 2 0,w3:=List.getD z4 3 0},()),())⟩))
theorem asa (ok0:bJ->Bool) (g0_0:bJ->il) (x:tS) (Q:fx.Y->Prop):wpf te ow (be 0 (cE nH 0 ok0 (tR g0_0)) ax) 1000 Tryz.f145 (fx.inp.inj x).tm (fx.inp.inj x).hp (fnK fx I3 Q) (λ_ _=>False)=(I6 ok0 g0_0 (x.1.1) (x.1.2.1)).wpR Q:=by kernel_rfl
theorem W5 (ok0:bJ->Bool) (g0_0:bJ->il) (h0:∀ s:bJ,ok0 s=true->∃ m e,aA (nI) m s=some e/\(tR g0_0 s).run=some e) (pre:tS->Bool) (F:tS->OT fx.Y) (hF:∀ (x:tS) oy,pre x=true->(F x).run=some oy->(I6 ok0 g0_0 (x.1.1) (x.1.2.1)).run=some oy):aa Tryz.prog 145 (fx.aD pre F):=
 aB al mK AV (f:=145) (fn:=Tryz.f145) (c:=ak Tryz.f145) (by kernel_rfl) (by kernel_rfl) (by kernel_rfl) (S:=fx) (k:=0) (by kernel_rfl) (λR hR=>(aG (c:=(ak Tryz.f145)) (by kernel_rfl) (id:=0) (by kernel_rfl) (ba al mK AV (sh:=nH) hR (xs:=Pb) (aF (by kernel_rfl) (by kernel_rfl) hR) aN ae (n:=1000) (T:=nI) (λs Q=>alQ s Q) (ok:=ok0) (f:=tR g0_0) h0) ae)) (n:=1000) (sel:=I3) (λv o h=>by cases h;rfl) (pre:=pre) (F:=F) (T:=λx=>I6 ok0 g0_0 (x.1.1) (x.1.2.1)) (λx Q=>asa ok0 g0_0 x Q) hF
def I5 (s:bJ):Bool:=decide (s.1.2.2.2.2.1=0/\s.1.2.2.2.2.2.1=0/\s.2.1.length=4/\s.2.2.1.length=4/\s.2.2.2.2.1= [0,0,0,0])
def Pc (s:bJ):il:=(((),(),()),(s.2.2.2.1,(upto (vd s.2.1 s.2.2.1) ([0,0,0,0],0) 4).1,()))
theorem alS:∀ s:bJ,I5 s=true->∃ m e,aA nI m s=some e/\(tR Pc s).run=some e:=by
 rintro ⟨⟨⟨⟩,⟨⟩,⟨⟩,⟨⟩,c,i,⟨⟩⟩,⟨c0,c1,c2,c3,⟨⟩⟩⟩ h
 have h':=of_decide_eq_true h
 dsimp only at h'
 obtain ⟨rfl,rfl,h0,h1,rfl⟩:=h'
 have:=(aR (T:=nI) (λk s=>((((),(),(),(),s.2,(k:Int),()),(c0,c1,c2,s.1,())):bJ)) (vd c0 c1)
  (λs=>(⟨(.exit 0,mm),(((),(),()),(c2,s.1,()))⟩:aI)) 4 ([0,0,0,0],0) (λ_ s=>s.1.length=4/\s.2.toNat<=1) ⟨rfl,by decide⟩ (λk s hk hs=>⟨?_,?_⟩) (λs hs=> ?_)).1
 ·obtain ⟨m,hm⟩:=this
  exact ⟨m,_,hm,rfl⟩
 ·obtain ⟨o,c⟩:=s
  dsimp only at hs
  refine (OT.az (decide_eq_true (by dsimp only;omega))).trans ((aj ?_).trans ?_)
  ·simp only [Int.toNat_natCast,Nat.add_zero,h0,h1,hs.1,List.all_cons,List.all_nil,Bool.and_true,Bool.and_eq_true]
   exact ⟨aM (by omega),decide_eq_true (by omega),aM (by omega),decide_eq_true (by omega),aM (by omega),decide_eq_true (by omega),aM (by omega),decide_eq_true (by omega)⟩
  ·have hi:∀ z,(gd [inB (k:Int) 4,decide (Int.toNat (k:Int)+0<o.length),inR ((k:Int)+1)] z:OT (Sum bJ aI)).run=z.run:=λz=>aj (by
    simp only [List.all_cons,List.all_nil,Bool.and_true,Bool.and_eq_true,Int.toNat_natCast,Nat.add_zero]
    exact ⟨aM (by omega),decide_eq_true (by omega),aL (by omega)⟩)
   have hw:=Ps (x:=c0.getD k 0) (y:=c1.getD k 0) hs.2
   by_cases hx:c0.getD k 0<c1.getD k 0
   ·have hk1:=aiJ (c:=c) hx
    refine (OT.az (decide_eq_true ?_)).trans ((hi _).trans ?_)
    ·simp only [Int.toNat_natCast,Nat.add_zero];exact hx
    ·simp only [OT.cI,Int.toNat_natCast,Nat.add_zero,vd,hw,hk1]
     rfl
   ·refine (OT.aq (decide_eq_false ?_)).trans ?_
    ·simp only [Int.toNat_natCast,Nat.add_zero];exact hx
    ·by_cases hd:c0.getD k 0-c1.getD k 0<c
     ·have hk2:=aiI hx hd
      refine (OT.az (decide_eq_true ?_)).trans ((hi _).trans ?_)
      ·simp only [Int.toNat_natCast,Nat.add_zero];exact hd
      ·simp only [OT.cI,Int.toNat_natCast,Nat.add_zero,vd,hw,hk2]
       rfl
     ·have hk3:=aiH hx hd
      refine (OT.aq (decide_eq_false ?_)).trans ((hi _).trans ?_)
      ·simp only [Int.toNat_natCast,Nat.add_zero];exact hd
      ·simp only [OT.cI,Int.toNat_natCast,Nat.add_zero,vd,hw,hk3]
       rfl
 ·exact ⟨by simp only [vd,List.length_set];exact hs.1,vW⟩
 ·exact OT.aq (decide_eq_false (by dsimp only;omega))
def I4 (_:tS):Bool:=true
def I7 (x:tS):OT fx.Y:=.ok ⟨CH,(((ef x.1.1 x.1.2.1).1,()),())⟩
theorem alR:aa Tryz.prog 145 (fx.aD I4 I7):=W5 I5 Pc alS _ _ λx oy hp ho=>by
 rw [<-ho]
 clear ho
 obtain ⟨⟨a,b,⟨⟩⟩,⟨⟩⟩:=x
 obtain ⟨_,hw⟩:=Bv a b
 refine (aj ?_).trans ?_
 ·simp only [List.all_cons,List.all_nil,Bool.and_true,Bool.and_eq_true]
  exact ⟨rfl,rfl,rfl,rfl⟩
 ·simp only [I7,hw]
  rfl
def rf:bw:=(fx.aD I4 I7)
theorem So:aa Tryz.prog 145 rf:=alR
theorem Sn:aC rf:=ay
def ov:Env:=aw 145 rf ow
theorem mJ:aK Tryz.prog ov:=af So mK
theorem vD:ar ov:=ab Sn vE
theorem AS:aO Tryz.prog te ov:=aE follows al mJ vD
def fw:ap:=⟨[.val true .elem],[],true,0,false⟩
abbrev tN:Type:=((ag)×Unit)×(Unit)
def nF:Shape:=⟨27,[(1,.ptr 0 0 0),(2,.ptr 1 0 0),(4,.ptr 2 0 0),(5,.val false .u64),(6,.val false .int)],[(0,.row .u64),(1,.row .u64),(2,.row .u64)],0,true⟩
abbrev bQ:Type:=((Unit)×(Unit)×(Unit)×(UInt64)×(Int)×Unit)×((List (UInt64))×(List (UInt64))×(List (UInt64))×Unit)
def ml:Shape:=⟨27,[(2,.ptr 0 0 0),(4,.ptr 1 0 0),(5,.val false .u64)],[(0,.row .u64),(1,.row .u64)],0,true⟩
abbrev ik:Type:=((Unit)×(Unit)×(UInt64)×Unit)×((List (UInt64))×(List (UInt64))×Unit)
def O8:SE->Option Shape:=gI [(0,ml)] none
def alM (a5:UInt64) (a6:Int) (c0:List (UInt64)) (c1:List (UInt64)) (c2:List (UInt64)):OT (Sum bQ aI):=
 let z0:Bool:=inB a6 4
 let z1:Bool:=decide (Int.toNat a6+0<List.length c0)
 let z2:UInt64:=List.getD c0 (Int.toNat a6+0) (0:UInt64)
 (.br (decide (a6<(4:Int)))
 (gd [z0,z1,z0,decide (Int.toNat a6+0<List.length c2),z0,z1,inR (a6+(1:Int))] (.ok (.inl (((),((),((),(aZ z2 (63:Int),(a6+(1:Int),()))))),(c0,(c1,(List.set c2 (Int.toNat a6+0) (bH z2 (1:Int)|||a5),())))))))
 (.ok (.inr ⟨(.exit 0,ml),(((),((),(a5,()))),(c1,(c2,())))⟩)))
def nG (s:bQ):OT (Sum bQ aI):=alM (s.1.2.2.2.1) (s.1.2.2.2.2.1) (s.2.1) (s.2.2.1) (s.2.2.2.1)
theorem alJ (s:bQ) (Q:Sum bQ aI->Prop):wps te ov ax 1000 (bg (ak Tryz.f143) 0) (nF.inj s) (cz nF O8 (Q:Sum nF.T aI->Prop))=(nG s).wpR Q:=by kernel_rfl
def tM (g0_0:bQ->ik) (s:bQ):OT aI:=(.ok ⟨(.exit 0,ml),g0_0 s⟩)
def CE:av:=⟨[.val true .elem,.val false .bool],[],false⟩
def IY:SV->Option av:=λ_=>some CE
def I1 (ok0:bQ->Bool) (g0_0:bQ->ik) (a0:ag):OT fw.Y:=
 let z0:(PUnit×PUnit×PUnit×UInt64×Int×PUnit)×List UInt64×List UInt64×List UInt64×PUnit:=(((),(),(),(0:UInt64),(0:Int),()),[a0.w0,a0.w1,a0.w2,a0.w3],[(0:UInt64),(0:UInt64),(0:UInt64),(0:UInt64)],[(0:UInt64),(0:UInt64),(0:UInt64),(0:UInt64)],())
 let z1:(PUnit×PUnit×UInt64×PUnit)×List UInt64×List UInt64×PUnit:=g0_0 z0
 let z2:=z1.snd
 let z3:=z2.snd.fst
 let z4:=z2.fst
 let z5:List UInt64:=lay z4 z3 4 (0:UInt64)
 (gd [ok0 z0,decide (4<=List.length z3),decide ((4/1:Nat)+0<=List.length z4),decide (4<=List.length z5)] (.ok ⟨CE,(({w0:=List.getD z5 0 0,w1:=List.getD z5 1 0,w2:=List.getD z5 2 0,w3:=List.getD z5 3 0},(z1.fst.snd.snd.fst==(1:UInt64),())),())⟩))
theorem ar8 (ok0:bQ->Bool) (g0_0:bQ->ik) (x:tN) (Q:fw.Y->Prop):wpf te ov (be 0 (cE nF 0 ok0 (tM g0_0)) ax) 1000 Tryz.f143 (fw.inp.inj x).tm (fw.inp.inj x).hp (fnK fw IY Q) (λ_ _=>False)=(I1 ok0 g0_0 (x.1.1)).wpR Q:=by kernel_rfl
theorem W1 (ok0:bQ->Bool) (g0_0:bQ->ik) (h0:∀ s:bQ,ok0 s=true->∃ m e,aA (nG) m s=some e/\(tM g0_0 s).run=some e) (pre:tN->Bool) (F:tN->OT fw.Y) (hF:∀ (x:tN) oy,pre x=true->(F x).run=some oy->(I1 ok0 g0_0 (x.1.1)).run=some oy):aa Tryz.prog 143 (fw.aD pre F):=
 aB al mJ AS (f:=143) (fn:=Tryz.f143) (c:=ak Tryz.f143) (by kernel_rfl) (by kernel_rfl) (by kernel_rfl) (S:=fw) (k:=0) (by kernel_rfl) (λR hR=>(aG (c:=(ak Tryz.f143)) (by kernel_rfl) (id:=0) (by kernel_rfl) (ba al mJ AS (sh:=nF) hR (xs:=O8) (aF (by kernel_rfl) (by kernel_rfl) hR) aN ae (n:=1000) (T:=nG) (λs Q=>alJ s Q) (ok:=ok0) (f:=tM g0_0) h0) ae)) (n:=1000) (sel:=IY) (λv o h=>by cases h;rfl) (pre:=pre) (F:=F) (T:=λx=>I1 ok0 g0_0 (x.1.1)) (λx Q=>ar8 ok0 g0_0 x Q) hF
def aHR (a:List UInt64) (k:Nat) (s:List UInt64×UInt64):List UInt64×UInt64:=(s.1.set k (bH (a.getD k 0) 1|||s.2),aZ (a.getD k 0) 63)
def I0 (s:bQ):Bool:=decide (s.1.2.2.2.1=0/\s.1.2.2.2.2.1=0/\s.2.1.length=4/\s.2.2.2.1= [0,0,0,0])
def O9 (s:bQ):ik:=(((),(),(upto (aHR s.2.1) ([0,0,0,0],0) 4).2,()),(s.2.2.1,(upto (aHR s.2.1) ([0,0,0,0],0) 4).1,()))
theorem alL:∀ s:bQ,I0 s=true->∃ m e,aA nG m s=some e/\(tM O9 s).run=some e:=by
 rintro ⟨⟨⟨⟩,⟨⟩,⟨⟩,c,i,⟨⟩⟩,⟨a,r,o,⟨⟩⟩⟩ h
 have h':=of_decide_eq_true h
 dsimp only at h'
 obtain ⟨rfl,rfl,ha,rfl⟩:=h'
 have:=(aR (T:=nG) (λk s=>((((),(),(),s.2,(k:Int),()),(a,r,s.1,())):bQ)) (aHR a)
  (λs=>(⟨(.exit 0,ml),(((),(),s.2,()),(r,s.1,()))⟩:aI)) 4 ([0,0,0,0],0) (λ_ s=>s.1.length=4) rfl (λk s hk hs=>⟨?_,(List.length_set ..).trans hs⟩) (λs hs=> ?_)).1
 ·obtain ⟨m,hm⟩:=this
  exact ⟨m,_,hm,rfl⟩
 ·refine (OT.az (decide_eq_true (by dsimp only;omega))).trans ((aj ?_).trans ?_)
  ·simp only [Int.toNat_natCast,Nat.add_zero,ha,hs,List.all_cons,List.all_nil,Bool.and_true,Bool.and_eq_true]
   exact ⟨aM (by omega),decide_eq_true (by omega),aM (by omega),decide_eq_true (by omega),aM (by omega),decide_eq_true (by omega),aL (by omega)⟩
  ·simp only [OT.cI,Int.toNat_natCast,Nat.add_zero]
   rfl
 ·exact OT.aq (decide_eq_false (by dsimp only;omega))
theorem asu (x:UInt64):x|||0=x:=by
 rw [<-UInt64.toNat_inj,UInt64.toNat_or]
 exact Nat.or_zero _
def IZ (_:tN):Bool:=true
def W2 (x:tN):OT fw.Y:=.ok ⟨CE,(((aT x.1.1 0).1,((aT x.1.1 0).2==1,())),())⟩
theorem alK:aa Tryz.prog 143 (fw.aD IZ W2):=W1 I0 O9 alL _ _ λx oy hp ho=>by
 rw [<-ho]
 clear ho
 obtain ⟨⟨a,⟨⟩⟩,⟨⟩⟩:=x
 refine (aj ?_).trans rfl
 simp only [List.all_cons,List.all_nil,Bool.and_true,Bool.and_eq_true]
 exact ⟨rfl,rfl,rfl,rfl⟩
def re:bw:=(fw.aD IZ W2)
theorem Sj:aa Tryz.prog 143 re:=alK
theorem Si:aC re:=ay
def ou:Env:=aw 143 re ov
theorem mI:aK Tryz.prog ou:=af Sj mJ
theorem vC:ar ou:=ab Si vD
theorem AR:aO Tryz.prog te ou:=aE follows al mI vC
def im:ap:=⟨[.val true .elem],[],true,0,false⟩
abbrev CI:Type:=((ag)×Unit)×(Unit)
def rg:Shape:=⟨28,[(1,.ptr 0 0 0),(3,.own 1),(4,.val false .int),(5,.val false .u64),(6,.val false .int)],[(0,.row .u64),(1,.row .int)],0,true⟩
abbrev cl:Type:=((Unit)×(Unit)×(Int)×(UInt64)×(Int)×Unit)×((List (UInt64))×(List (Int))×Unit)
def pc:Shape:=⟨28,[(1,.ptr 0 0 0),(3,.own 1),(4,.val false .int)],[(0,.row .u64),(1,.row .int)],0,true⟩
abbrev jz:Type:=((Unit)×(Unit)×(Int)×Unit)×((List (UInt64))×(List (Int))×Unit)
def W6:SE->Option Shape:=gI [(2,pc)] none
def ase (a4:Int) (a5:UInt64) (a6:Int) (c0:List (UInt64)) (c1:List (Int)):OT (Sum cl aI):=
 (.br (decide (a6<(64:Int)))
 (gd [decide ((List.length c1+1)*8<=140737488355328),inR (a6+(1:Int))] (.ok (.inl (((),((),(a4,(a5/(2:UInt64),(a6+(1:Int),()))))),(c0,(c1++ [u2i (a5%(2:UInt64))],()))))))
 (.ok (.inr ⟨(.exit 2,pc),(((),((),(a4,()))),(c0,(c1,())))⟩)))
def rh (s:cl):OT (Sum cl aI):=ase (s.1.2.2.1) (s.1.2.2.2.1) (s.1.2.2.2.2.1) (s.2.1) (s.2.2.1)
theorem asb (s:cl) (Q:Sum cl aI->Prop):wps te ou ax 1000 (bg (ak Tryz.f142) 2) (rg.inj s) (cz rg W6 (Q:Sum rg.T aI->Prop))=(rh s).wpR Q:=by kernel_rfl
def y6 (g2_2:cl->jz) (s:cl):OT aI:=(.ok ⟨(.exit 2,pc),(((g2_2 s).1.1,((g2_2 s).1.2.1,(s.1.2.2.1,()))),(g2_2 s).2)⟩)
def I8:av:=⟨[.own 0],[(0,.row .int)],false⟩
def Pd:SV->Option av:=λ_=>some I8
def Sp (ok2:cl->Bool) (g2_2:cl->jz) (a0:ag):OT im.Y:=
 let z0:Int×PUnit:=((0:Int),())
 let z1:(PUnit×PUnit×Int×UInt64×Int×PUnit)×List UInt64×List Int×PUnit:=(((),(),(0:Int),a0.w0,z0),[a0.w0,a0.w1,a0.w2,a0.w3],[],())
 let z2:=(g2_2 z1).snd
 let z3:=z2.fst
 let z4:(PUnit×PUnit×Int×UInt64×Int×PUnit)×List UInt64×List Int×PUnit:=(((),(),(0:Int)+(1:Int),List.getD z3 (Int.toNat ((0:Int)+(1:Int))+0) (0:UInt64),z0),z3,z2.snd.fst,())
 let z5:=(g2_2 z4).snd
 let z6:=z5.fst
 let z7:(PUnit×PUnit×Int×UInt64×Int×PUnit)×List UInt64×List Int×PUnit:=(((),(),(0:Int)+(1:Int)+(1:Int),List.getD z6 (Int.toNat ((0:Int)+(1:Int)+(1:Int))+0) (0:UInt64),z0),z6,z5.snd.fst,())
 let z8:=(g2_2 z7).snd
 let z9:=z8.fst
 let z10:(PUnit×PUnit×Int×UInt64×Int×PUnit)×List UInt64×List Int×PUnit:=(((),(),(0:Int)+(1:Int)+(1:Int)+(1:Int),List.getD z9 (Int.toNat ((0:Int)+(1:Int)+(1:Int)+(1:Int))+0) (0:UInt64),z0),z9,z8.snd.fst,())
 (gd [ok2 z1,decide (Int.toNat ((0:Int)+(1:Int))+0<List.length z3),ok2 z4,decide (Int.toNat ((0:Int)+(1:Int)+(1:Int))+0<List.length z6),ok2 z7,decide (Int.toNat ((0:Int)+(1:Int)+(1:Int)+(1:Int))+0<List.length z9),ok2 z10] (.ok ⟨I8,(((),()),((g2_2 z10).snd.snd.fst,()))⟩))
theorem ayP (ok2:cl->Bool) (g2_2:cl->jz) (x:CI) (Q:im.Y->Prop):wpf te ou (be 2 (cE rg 2 ok2 (y6 g2_2)) ax) 1000 Tryz.f142 (im.inp.inj x).tm (im.inp.inj x).hp (fnK im Pd Q) (λ_ _=>False)=(Sp ok2 g2_2 (x.1.1)).wpR Q:=by kernel_rfl
theorem acL (ok2:cl->Bool) (g2_2:cl->jz) (h2:∀ s:cl,ok2 s=true->∃ m e,aA (rh) m s=some e/\(y6 g2_2 s).run=some e) (pre:CI->Bool) (F:CI->OT im.Y) (hF:∀ (x:CI) oy,pre x=true->(F x).run=some oy->(Sp ok2 g2_2 (x.1.1)).run=some oy):aa Tryz.prog 142 (im.aD pre F):=
 aB al mI AR (f:=142) (fn:=Tryz.f142) (c:=ak Tryz.f142) (by kernel_rfl) (by kernel_rfl) (by kernel_rfl) (S:=im) (k:=0) (by kernel_rfl) (λR hR=>(aG (c:=(ak Tryz.f142)) (by kernel_rfl) (id:=2) (by kernel_rfl) (ba al mI AR (sh:=rg) hR (xs:=W6) (aF (by kernel_rfl) (by kernel_rfl) hR) aN ae (n:=1000) (T:=rh) (λs Q=>asb s Q) (ok:=ok2) (f:=y6 g2_2) h2) ae)) (n:=1000) (sel:=Pd) (λv o h=>by cases h;rfl) (pre:=pre) (F:=F) (T:=λx=>Sp ok2 g2_2 (x.1.1)) (λx Q=>ayP ok2 g2_2 x Q) hF
def anL (_:Nat) (q:List Int×UInt64):List Int×UInt64:=(q.1++ [u2i (q.2%2)],q.2/2)
def gK (v:UInt64) (n:Nat):List Int:=(List.range n).map λj=>((v.toNat/2^j%2:Nat):Int)
theorem dh (v:UInt64) (n:Nat):(gK v n).length=n:=by rw [gK,List.length_map,List.length_range]
theorem aEx (x:UInt64):u2i (x%2)=((x.toNat%2:Nat):Int):=by
 have e:(x%2).toNat=x.toNat%2:=by rw [UInt64.toNat_mod];rfl
 unfold u2i
 rw [e]
 rcases Nat.mod_two_eq_zero_or_one x.toNat with h|h<;>rw [h]<;>rfl
theorem Y8 (o:List Int) (v:UInt64):∀ n,(upto anL (o,v) n).1=o++gK v n/\(upto anL (o,v) n).2.toNat=v.toNat/2^n
 |0=>⟨(List.append_nil o).symm,by show v.toNat=_;rw [Nat.pow_zero,Nat.div_one]⟩
 |n+1=>by
  obtain ⟨h1,h2⟩:=Y8 o v n
  refine ⟨?_,?_⟩
  ·show (upto anL (o,v) n).1++ [u2i ((upto anL (o,v) n).2%2)]=_
   rw [aEx,h1,h2,List.append_assoc]
   unfold gK
   rw [List.range_succ,List.map_append]
   rfl
  ·show ((upto anL (o,v) n).2/2).toNat=_
   rw [UInt64.toNat_div,h2,Nat.pow_succ,<-Nat.div_div_eq_div_mul]
   rfl
def Pf (s:cl):Bool:=decide (s.1.2.2.2.2.1=0/\s.2.2.1.length<=1000)
def W9 (s:cl):jz:=(((),(),s.1.2.2.1,()),(s.2.1,s.2.2.1++gK s.1.2.2.2.1 64,()))
theorem asd:∀ s:cl,Pf s=true->∃ m e,aA rh m s=some e/\(y6 W9 s).run=some e:=by
 rintro ⟨⟨⟨⟩,⟨⟩,i,v,j,⟨⟩⟩,⟨a,o,⟨⟩⟩⟩ h
 have h':=of_decide_eq_true h
 dsimp only at h'
 obtain ⟨rfl,ho⟩:=h'
 have:=(aR (T:=rh) (λk q=>((((),(),i,q.2,(k:Int),()),(a,q.1,())):cl)) anL
  (λq=>(⟨(.exit 2,pc),(((),(),i,()),(a,q.1,()))⟩:aI)) 64 (o,v) (λk q=>q.1.length=o.length+k) rfl (λk q hk hq=>⟨?_,?_⟩) (λq _=> ?_)).1
 ·obtain ⟨m,hm⟩:=this
  rw [(Y8 o v 64).1] at hm
  exact ⟨m,_,hm,rfl⟩
 ·have hq:q.1.length=o.length+k:=hq
  refine (OT.az (decide_eq_true (by dsimp only;omega))).trans ((aj ?_).trans rfl)
  simp only [List.all_cons,List.all_nil,Bool.and_true,Bool.and_eq_true]
  exact ⟨decide_eq_true (by omega),aL (by omega)⟩
 ·show (q.1++ [u2i (q.2%2)]).length=_
  rw [List.length_append,show q.1.length=o.length+k from hq]
  rfl
 ·exact OT.aq (decide_eq_false (by dsimp only;omega))
def ob (a:ag):List Int:= []++gK a.w0 64++gK a.w1 64++gK a.w2 64++gK a.w3 64
def Pe (_:CI):Bool:=true
def aix (x:CI):OT im.Y:=.ok ⟨I8,(((),()),(ob x.1.1,()))⟩
theorem asc:aa Tryz.prog 142 (im.aD Pe aix):=acL Pf W9 asd _ _ λx oy hp ho=>by
 rw [<-ho]
 clear ho
 obtain ⟨⟨a,⟨⟩⟩,⟨⟩⟩:=x
 have l1:([]++gK a.w0 64).length=64:=by rw [List.nil_append,dh]
 have l2:([]++gK a.w0 64++gK a.w1 64).length=128:=by rw [List.length_append,l1,dh]
 have l3:([]++gK a.w0 64++gK a.w1 64++gK a.w2 64).length=192:=by rw [List.length_append,l2,dh]
 refine (aj ?_).trans rfl
 simp only [List.all_cons,List.all_nil,Bool.and_true,Bool.and_eq_true]
 exact ⟨rfl,rfl,decide_eq_true ⟨rfl,by show ([]++gK a.w0 64).length<=_;omega⟩,rfl,decide_eq_true ⟨rfl,by show ([]++gK a.w0 64++gK a.w1 64).length<=_;omega⟩,rfl,decide_eq_true ⟨rfl,by show ([]++gK a.w0 64++gK a.w1 64++gK a.w2 64).length<=_;omega⟩⟩
theorem rG {α:Type} (d:α) (x y:List α) (i:Nat):(i<x.length->(x++y).getD i d=x.getD i d)/\(x.length<=i->(x++y).getD i d=y.getD (i-x.length) d):=by
 refine ⟨λh=> ?_,λh=> ?_⟩
 ·rw [List.getD_eq_getElem?_getD,List.getD_eq_getElem?_getD,List.getElem?_append_left h]
 ·rw [List.getD_eq_getElem?_getD,List.getD_eq_getElem?_getD,List.getElem?_append_right h]
theorem xF (v:UInt64) {j:Nat} (h:j<64):(gK v 64).getD j 0=((v.toNat/2^j%2:Nat):Int):=by
 unfold gK
 rw [List.getD_eq_getElem?_getD,List.getElem?_map,List.getElem?_range h]
 rfl
theorem sB (a:ag):(ob a).length=256:=by
 unfold ob
 rw [List.length_append,List.length_append,List.length_append,List.length_append,dh,dh,dh,dh]
 rfl
theorem auU (a:ag) {i:Nat} (h:i<256):(ob a).getD i 0=((a.nat/2^i%2:Nat):Int):=by
 have l1:([]++gK a.w0 64).length=64:=by rw [List.nil_append,dh]
 have l2:([]++gK a.w0 64++gK a.w1 64).length=128:=by rw [List.length_append,l1,dh]
 have l3:([]++gK a.w0 64++gK a.w1 64++gK a.w2 64).length=192:=by rw [List.length_append,l2,dh]
 unfold ob
 by_cases h3:192<=i
 ·rw [(rG ..).2 (by omega),l3,xF _ (by omega)]
  have:=uz (a:=a) (q:=3) (r:=i-192) (by omega) (by omega)
  rw [show 64*3+(i-192)=i by omega] at this
  rw [<-this]
  rfl
 ·rw [(rG ..).1 (by omega)]
  by_cases h2:128<=i
  ·rw [(rG ..).2 (by omega),l2,xF _ (by omega)]
   have:=uz (a:=a) (q:=2) (r:=i-128) (by omega) (by omega)
   rw [show 64*2+(i-128)=i by omega] at this
   rw [<-this]
   rfl
  ·rw [(rG ..).1 (by omega)]
   by_cases h1:64<=i
   ·rw [(rG ..).2 (by omega),l1,xF _ (by omega)]
    have:=uz (a:=a) (q:=1) (r:=i-64) (by omega) (by omega)
    rw [show 64*1+(i-64)=i by omega] at this
    rw [<-this]
    rfl
   ·rw [(rG ..).1 (by omega),List.nil_append,xF _ (by omega)]
    have:=uz (a:=a) (q:=0) (r:=i) (by omega) (by omega)
    rw [show 64*0+i=i by omega] at this
    rw [<-this]
    rfl
def wv:bw:=(im.aD Pe aix)
theorem W8:aa Tryz.prog 142 wv:=asc
theorem W7:aC wv:=ay
def u5:Env:=aw 142 wv ou
theorem pW:aK Tryz.prog u5:=af W8 mI
theorem AU:ar u5:=ab W7 vC
theorem FO:aO Tryz.prog te u5:=aE follows al pW AU
end Go.Proofs.YtohjofabochgfaaGreat
