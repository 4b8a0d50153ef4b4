/- A symbolic machine for Go code over plain data, and functions of the program as it shows them. No statement is proved in this file. -/
import Derived.KernelRfl
import Derived.Test.YthgjhpbapddpnaaXe
set_option linter.unusedSimpArgs false
set_option linter.unusedVariables false
set_option linter.unusedSectionVars false

namespace Go.Proofs.Ythgjhpbapddpnaa
open Sx Go
set_option maxRecDepth 100000
def dp:ao:=⟨[.val false .int,.val true (.prod .int (.list .elem)),.val false (.list awG),.val false (.list .u8)],[],true,0,false⟩
abbrev yz:Type:=((Int)×((Int×List (ac)))×(List ((Int×(ac×(ac×(ac×Bool))))))×(List (UInt8))×Unit)×(Unit)
def j1:Shape:=⟨195,[(0,.val false .int),(2,.val false (.list (.prod .int (.prod .elem (.prod .elem (.prod .elem .bool)))))),(3,.val false (.list .u8)),(5,.ptr 0 0 0),(9,.ptr 1 0 0),(11,.own 2),(12,.val false .int)],[(0,.cells [.val false .int,.val false (.list .elem)]),(1,.cells [.val false .int,.ifp 109 3,.own 4]),(2,.row (.prod .int (.prod .elem (.prod .elem (.prod .elem .bool))))),(3,.cells [.val false .int,.val false (.list .elem)]),(4,.row .u8)],0,true⟩
abbrev bX:Type:=((Int)×(List ((Int×(ac×(ac×(ac×Bool))))))×(List (UInt8))×(Unit)×(Unit)×(Unit)×(Int)×Unit)×(((Int)×(List (ac))×Unit)×((Int)×(Unit)×(Unit)×Unit)×(List ((Int×(ac×(ac×(ac×Bool))))))×((Int)×(List (ac))×Unit)×(List (UInt8))×Unit)
def ni:Shape:=⟨195,[(0,.val false .int),(3,.val false (.list .u8)),(5,.ptr 0 0 0),(9,.ptr 1 0 0),(11,.own 2)],[(0,.cells [.val false .int,.val false (.list .elem)]),(1,.cells [.val false .int,.ifp 109 3,.own 4]),(2,.row (.prod .int (.prod .elem (.prod .elem (.prod .elem .bool))))),(3,.cells [.val false .int,.val false (.list .elem)]),(4,.row .u8)],0,true⟩
abbrev fN:Type:=((Int)×(List (UInt8))×(Unit)×(Unit)×(Unit)×Unit)×(((Int)×(List (ac))×Unit)×((Int)×(Unit)×(Unit)×Unit)×(List ((Int×(ac×(ac×(ac×Bool))))))×((Int)×(List (ac))×Unit)×(List (UInt8))×Unit)
def PF:SE->Option Shape:=kv [(0,ni)] none
def DW (a0:Int) (a2:List ((Int×(ac×(ac×(ac×Bool)))))) (a3:List (UInt8)) (a12:Int) (c0_0:Int) (c0_1:List (ac)) (c1_0:Int) (c2:List ((Int×(ac×(ac×(ac×Bool)))))) (c3_0:Int) (c3_1:List (ac)) (c4:List (UInt8)):OT (Sum bX aJ):=
 let z0:Nat:=List.length a2
 let z1:ac:= {w0:=0,w1:=0,w2:=0,w3:=0}
 let z2:ac×ac×Bool:=(z1,z1,false)
 let z3:Int×ac×ac×ac×Bool:=List.getD a2 (Int.toNat a12) ((0:Int),z1,z2)
 let z4:=z3.fst
 let z5:=z3.snd
 let z6:=z5.fst
 let z7:PUnit×ac×PUnit:=((),z6,())
 let z8:(Int×PUnit×PUnit×PUnit)×(Int×List ac×PUnit)×List UInt8×PUnit:=((c1_0,(),(),()),(c3_0,c3_1,()),c4,())
 let z9:Bool:=decide ((List.length c2+1)*112<=140737488355328)
 let z10:Bool:=inR (a12+(1:Int))
 let z11:List (Int×ac×ac×ac×Bool):=c2++ [z3]
 let z12:=z5.snd
 let z13:ac×Int×List ac:=dP c3_1
 let z14:=z13.snd
 let z15:=z14.snd
 (.br (decide (a12<(↑z0:Int)))
 (gd [inB a12 z0] (.br (z4==(1:Int))
  (gd [ux (z7,z8),z9,z10] (.ok (.inl ((a0,(a2,(a3,((),((),((),(a12+(1:Int),()))))))),((c0_0,(c0_1,())),((c1_0,((),((),()))),(z11,((c3_0,(c3_1,())),(c4,())))))))))
  (.br (z4==(2:Int))
   (gd [qp (((),z12,()),z8)] (.br (onB c1_0 z12)
    (gd [z9,z10] (.ok (.inl ((a0,(a2,(a3,((),((),((),(a12+(1:Int),()))))))),((c0_0,(c0_1,())),((c1_0,((),((),()))),(z11,((c3_0,(c3_1,())),(c4++n7 c1_0 z12,())))))))))
    (gd [z10] (.ok (.inl ((a0,(a2,(a3,((),((),((),(a12+(1:Int),()))))))),((c0_0,(c0_1,())),((c1_0,((),((),()))),(c2,((c3_0,(c3_1,())),(c4,())))))))))))
   (.br (z4==(3:Int))
    (gd [mJ (z7,z8),z9,z10] (.ok (.inl ((a0,(a2,(a3,((),((),((),(a12+(1:Int),()))))))),((c0_0,(c0_1,())),((c1_0,((),((),()))),(z11,((c3_0,(c3_1,())),(c4++dB c1_0 z6,())))))))))
    (gd [uy (((),()),z8)] (.br (!z14.fst==(0:Int))
     (gd [z10] (.ok (.inl ((a0,(a2,(a3,((),((),((),(a12+(1:Int),()))))))),((c0_0,(c0_1,())),((c1_0,((),((),()))),(c2,((c3_0,(z15,())),(c4,())))))))))
     (gd [decide ((List.length c2+1)*112<=140737488355328),z10] (.ok (.inl ((a0,(a2,(a3,((),((),((),(a12+(1:Int),()))))))),((c0_0,(c0_1,())),((c1_0,((),((),()))),(c2++ [((4:Int),n8 (pS c3_0) z13.fst z1,z2)],((c3_0,(z15,())),(c4,())))))))))))))))
 (.ok (.inr ⟨(.exit 0,ni),((a0,(a3,((),((),((),()))))),((c0_0,(c0_1,())),((c1_0,((),((),()))),(c2,((c3_0,(c3_1,())),(c4,()))))))⟩)))
def lO (s:bX):OT (Sum bX aJ):=DW (s.1.1) (s.1.2.1) (s.1.2.2.1) (s.1.2.2.2.2.2.2.1) (s.2.1.1) (s.2.1.2.1) (s.2.2.1.1) (s.2.2.2.1) (s.2.2.2.2.1.1) (s.2.2.2.2.1.2.1) (s.2.2.2.2.2.1)
theorem aip (s:bX) (Q:Sum bX aJ->Prop):wps te pV ay 1000 (bk (al Try.f4) 0) (j1.inj s) (cO j1 PF (Q:Sum j1.T aJ->Prop))=(lO s).wpR Q:=by kernel_rfl
def ve (g0_0:bX->fN) (s:bX):OT aJ:=(.ok ⟨(.exit 0,ni),g0_0 s⟩)
def gX:Shape:=⟨195,[(0,.val false .int),(2,.val false (.list (.prod .int (.prod .elem (.prod .elem (.prod .elem .bool)))))),(3,.val false (.list .u8)),(5,.ptr 0 0 0),(9,.ptr 1 0 0),(11,.own 2),(12,.val false .int)],[(0,.cells [.val false .int,.val false (.list .elem)]),(1,.cells [.val false .int,.ifp 117 3,.own 4]),(2,.row (.prod .int (.prod .elem (.prod .elem (.prod .elem .bool))))),(3,.cells [.val false .int,.ptr 5 0 0]),(4,.row .u8),(5,.cells [.val false .int,.val false .u64,.val false .u64,.val false .u64,.val false .u64,.val false .u64,.val false .u64,.val false .u64,.val false .u64,.own 6,.val false .u64]),(6,.row .u8)],0,true⟩
abbrev bE:Type:=((Int)×(List ((Int×(ac×(ac×(ac×Bool))))))×(List (UInt8))×(Unit)×(Unit)×(Unit)×(Int)×Unit)×(((Int)×(List (ac))×Unit)×((Int)×(Unit)×(Unit)×Unit)×(List ((Int×(ac×(ac×(ac×Bool))))))×((Int)×(Unit)×Unit)×(List (UInt8))×((Int)×(UInt64)×(UInt64)×(UInt64)×(UInt64)×(UInt64)×(UInt64)×(UInt64)×(UInt64)×(Unit)×(UInt64)×Unit)×(List (UInt8))×Unit)
def kQ:Shape:=⟨195,[(0,.val false .int),(3,.val false (.list .u8)),(5,.ptr 0 0 0),(9,.ptr 1 0 0),(11,.own 2)],[(0,.cells [.val false .int,.val false (.list .elem)]),(1,.cells [.val false .int,.ifp 117 3,.own 4]),(2,.row (.prod .int (.prod .elem (.prod .elem (.prod .elem .bool))))),(3,.cells [.val false .int,.ptr 5 0 0]),(4,.row .u8),(5,.cells [.val false .int,.val false .u64,.val false .u64,.val false .u64,.val false .u64,.val false .u64,.val false .u64,.val false .u64,.val false .u64,.own 6,.val false .u64]),(6,.row .u8)],0,true⟩
abbrev ff:Type:=((Int)×(List (UInt8))×(Unit)×(Unit)×(Unit)×Unit)×(((Int)×(List (ac))×Unit)×((Int)×(Unit)×(Unit)×Unit)×(List ((Int×(ac×(ac×(ac×Bool))))))×((Int)×(Unit)×Unit)×(List (UInt8))×((Int)×(UInt64)×(UInt64)×(UInt64)×(UInt64)×(UInt64)×(UInt64)×(UInt64)×(UInt64)×(Unit)×(UInt64)×Unit)×(List (UInt8))×Unit)
def Jm:SE->Option Shape:=kv [(0,kQ)] none
def yy (a0:Int) (a2:List ((Int×(ac×(ac×(ac×Bool)))))) (a3:List (UInt8)) (a12:Int) (c0_0:Int) (c0_1:List (ac)) (c1_0:Int) (c2:List ((Int×(ac×(ac×(ac×Bool)))))) (c3_0:Int) (c4:List (UInt8)) (c5_0:Int) (c5_1:UInt64) (c5_2:UInt64) (c5_3:UInt64) (c5_4:UInt64) (c5_5:UInt64) (c5_6:UInt64) (c5_7:UInt64) (c5_8:UInt64) (c5_10:UInt64) (c6:List (UInt8)):OT (Sum bE aJ):=
 let z0:Nat:=List.length a2
 let z1:ac:= {w0:=0,w1:=0,w2:=0,w3:=0}
 let z2:ac×ac×Bool:=(z1,z1,false)
 let z3:Int×ac×ac×ac×Bool:=List.getD a2 (Int.toNat a12) ((0:Int),z1,z2)
 let z4:=z3.fst
 let z5:=z3.snd
 let z6:=z5.fst
 let z7:PUnit×ac×PUnit:=((),z6,())
 let z8:Int×UInt64×UInt64×UInt64×UInt64×UInt64×UInt64×UInt64×UInt64×PUnit×UInt64×PUnit:=(c5_0,c5_1,c5_2,c5_3,c5_4,c5_5,c5_6,c5_7,c5_8,(),c5_10,())
 let z9:(Int×PUnit×PUnit×PUnit)×(Int×PUnit×PUnit)×(Int×UInt64×UInt64×UInt64×UInt64×UInt64×UInt64×UInt64×UInt64×PUnit×UInt64×PUnit)×List UInt8×List UInt8×PUnit:=((c1_0,(),(),()),(c3_0,(),()),z8,c4,c6,())
 let z10:Bool:=decide ((List.length c2+1)*112<=140737488355328)
 let z11:Bool:=inR (a12+(1:Int))
 let z12:List (Int×ac×ac×ac×Bool):=c2++ [z3]
 let z13:List UInt8:=dB c1_0 z6
 let z14:(Int×UInt64×UInt64×UInt64×UInt64×UInt64×UInt64×UInt64×UInt64×PUnit×UInt64×PUnit)×List UInt8:=gU z8 c6 (2:UInt8) z13
 let z15:=z14.fst
 let z16:=z15.fst
 let z17:=z15.snd
 let z18:=z17.fst
 let z19:=z17.snd
 let z20:=z19.fst
 let z21:=z19.snd
 let z22:=z21.fst
 let z23:=z21.snd
 let z24:=z23.fst
 let z25:=z23.snd
 let z26:=z25.fst
 let z27:=z25.snd
 let z28:=z27.fst
 let z29:=z27.snd
 let z30:=z29.fst
 let z31:=z29.snd
 let z32:=z31.fst
 let z33:=z31.snd.snd.fst
 let z34:=z14.snd
 let z35:=z5.snd
 let z36:List UInt8:=n7 c1_0 z35
 let z37:(Int×UInt64×UInt64×UInt64×UInt64×UInt64×UInt64×UInt64×UInt64×PUnit×UInt64×PUnit)×List UInt8:=gU z8 c6 (1:UInt8) z36
 let z38:=z37.fst
 let z39:=z38.snd
 let z40:=z39.snd
 let z41:=z40.snd
 let z42:=z41.snd
 let z43:=z42.snd
 let z44:=z43.snd
 let z45:=z44.snd
 let z46:=z45.snd
 let z47:(Int×UInt64×UInt64×UInt64×UInt64×UInt64×UInt64×UInt64×UInt64×PUnit×UInt64×PUnit)×List UInt8:=gU z8 c6 (0:UInt8) []
 let z48:=z47.fst
 let z49:=z48.snd
 let z50:=z49.snd
 let z51:=z50.snd
 let z52:=z51.snd
 let z53:=z52.snd
 let z54:=z53.snd
 let z55:=z54.snd
 let z56:=z55.snd
 (.br (decide (a12<(↑z0:Int)))
 (gd [inB a12 z0] (.br (z4==(1:Int))
  (gd [vp (z7,z9),z10,z11] (.ok (.inl ((a0,(a2,(a3,((),((),((),(a12+(1:Int),()))))))),((c0_0,(c0_1,())),((c1_0,((),((),()))),(z12,((c3_0,((),())),(c4,((z16,(z18,(z20,(z22,(z24,(z26,(z28,(z30,(z32,((),(z33,()))))))))))),(z34,())))))))))))
  (.br (z4==(2:Int))
   (gd [qS (((),z35,()),z9)] (.br (onB c1_0 z35)
    (gd [z10,z11] (.ok (.inl ((a0,(a2,(a3,((),((),((),(a12+(1:Int),()))))))),((c0_0,(c0_1,())),((c1_0,((),((),()))),(z12,((c3_0,((),())),(c4++z36,((z38.fst,(z39.fst,(z40.fst,(z41.fst,(z42.fst,(z43.fst,(z44.fst,(z45.fst,(z46.fst,((),(z46.snd.snd.fst,()))))))))))),(z37.snd,())))))))))))
    (gd [z11] (.ok (.inl ((a0,(a2,(a3,((),((),((),(a12+(1:Int),()))))))),((c0_0,(c0_1,())),((c1_0,((),((),()))),(c2,((c3_0,((),())),(c4,((c5_0,(c5_1,(c5_2,(c5_3,(c5_4,(c5_5,(c5_6,(c5_7,(c5_8,((),(c5_10,()))))))))))),(c6,())))))))))))))
   (.br (z4==(3:Int))
    (gd [nk (z7,z9),z10,z11] (.ok (.inl ((a0,(a2,(a3,((),((),((),(a12+(1:Int),()))))))),((c0_0,(c0_1,())),((c1_0,((),((),()))),(z12,((c3_0,((),())),(c4++z13,((z16,(z18,(z20,(z22,(z24,(z26,(z28,(z30,(z32,((),(z33,()))))))))))),(z34,())))))))))))
    (gd [vr (((),()),z9),decide ((List.length c2+1)*112<=140737488355328),z11] (.ok (.inl ((a0,(a2,(a3,((),((),((),(a12+(1:Int),()))))))),((c0_0,(c0_1,())),((c1_0,((),((),()))),(c2++ [((4:Int),HI c3_0 z8 c6,z2)],((c3_0,((),())),(c4,((z48.fst,(z49.fst,(z50.fst,(z51.fst,(z52.fst,(z53.fst,(z54.fst,(z55.fst,(z56.fst,((),(z56.snd.snd.fst,()))))))))))),(z47.snd,())))))))))))))))
 (.ok (.inr ⟨(.exit 0,kQ),((a0,(a3,((),((),((),()))))),((c0_0,(c0_1,())),((c1_0,((),((),()))),(c2,((c3_0,((),())),(c4,((c5_0,(c5_1,(c5_2,(c5_3,(c5_4,(c5_5,(c5_6,(c5_7,(c5_8,((),(c5_10,()))))))))))),(c6,()))))))))⟩)))
def jg (s:bE):OT (Sum bE aJ):=yy (s.1.1) (s.1.2.1) (s.1.2.2.1) (s.1.2.2.2.2.2.2.1) (s.2.1.1) (s.2.1.2.1) (s.2.2.1.1) (s.2.2.2.1) (s.2.2.2.2.1.1) (s.2.2.2.2.2.1) (s.2.2.2.2.2.2.1.1) (s.2.2.2.2.2.2.1.2.1) (s.2.2.2.2.2.2.1.2.2.1) (s.2.2.2.2.2.2.1.2.2.2.1) (s.2.2.2.2.2.2.1.2.2.2.2.1) (s.2.2.2.2.2.2.1.2.2.2.2.2.1) (s.2.2.2.2.2.2.1.2.2.2.2.2.2.1) (s.2.2.2.2.2.2.1.2.2.2.2.2.2.2.1) (s.2.2.2.2.2.2.1.2.2.2.2.2.2.2.2.1) (s.2.2.2.2.2.2.1.2.2.2.2.2.2.2.2.2.2.1) (s.2.2.2.2.2.2.2.1)
theorem acA (s:bE) (Q:Sum bE aJ->Prop):wps te pV ay 1000 (bk (al Try.f4) 0) (gX.inj s) (cO gX Jm (Q:Sum gX.T aJ->Prop))=(jg s).wpR Q:=by kernel_rfl
def qP (g0b_0:bE->ff) (s:bE):OT aJ:=(.ok ⟨(.exit 0,kQ),g0b_0 s⟩)
def j0:Shape:=⟨195,[(0,.val false .int),(3,.val false (.list .u8)),(11,.own 0),(17,.ptr 1 0 0),(18,.ptr 2 0 0),(19,.val false .int)],[(0,.row (.prod .int (.prod .elem (.prod .elem (.prod .elem .bool))))),(1,.cells [.val false .int,.ifp 109 3,.val false (.list .u8)]),(2,.row .u64),(3,.cells [.val false .int,.val false (.list .elem)])],0,true⟩
abbrev aZ:Type:=((Int)×(List (UInt8))×(Unit)×(Unit)×(Unit)×(Int)×Unit)×((List ((Int×(ac×(ac×(ac×Bool))))))×((Int)×(Unit)×(List (UInt8))×Unit)×(List (UInt64))×((Int)×(List (ac))×Unit)×Unit)
def eS:Shape:=⟨195,[(8,.val false .bool)],[],0,true⟩
abbrev iw:Type:=((Bool)×Unit)×(Unit)
def nh:Shape:=⟨195,[(3,.val false (.list .u8)),(17,.ptr 0 0 0)],[(0,.cells [.val false .int,.ifp 109 1,.val false (.list .u8)]),(1,.cells [.val false .int,.val false (.list .elem)])],0,true⟩
abbrev fM:Type:=((List (UInt8))×(Unit)×Unit)×(((Int)×(Unit)×(List (UInt8))×Unit)×((Int)×(List (ac))×Unit)×Unit)
def PE:SE->Option Shape:=kv [(3,nh)] (some eS)
def DV (a0:Int) (a3:List (UInt8)) (a19:Int) (c0:List ((Int×(ac×(ac×(ac×Bool)))))) (c1_0:Int) (c1_2:List (UInt8)) (c2:List (UInt64)) (c3_0:Int) (c3_1:List (ac)):OT (Sum aZ aJ):=
 let z0:Nat:=List.length c0
 let z1:Nat:=Int.toNat a19
 let z2:ac:= {w0:=0,w1:=0,w2:=0,w3:=0}
 let z3:Int×ac×ac×ac×Bool:=List.getD c0 z1 ((0:Int),z2,z2,z2,false)
 let z4:=z3.fst
 let z5:=z3.snd
 let z6:=z5.fst
 let z7:(Int×PUnit×List UInt8×PUnit)×(Int×List ac×PUnit)×PUnit:=((c1_0,(),c1_2,()),(c3_0,c3_1,()),())
 let z8:Bool:=inR (a19+(1:Int))
 let z9:((ac×ac×Bool)×Int)×List UInt8:=eH c1_0 c1_2
 let z10:=z9.fst
 let z11:=z10.fst
 let z12:=z11.fst
 let z13:=z5.snd
 let z14:=z13.fst
 let z15:=z11.snd
 let z16:=z15.fst
 let z17:=z13.snd
 let z18:=z17.fst
 let z19:Int:=b8 a0 (1:Int)
 let z20:ac:= {w0:=List.getD c2 0 0,w1:=List.getD c2 1 0,w2:=List.getD c2 2 0,w3:=List.getD c2 3 0}
 let z21:(ac×Int)×List UInt8:=eG (b8 c1_0 (1:Int)) c1_2
 let z22:=z21.fst
 let z23:=z22.fst
 let z24:ac:=n8 (pS z19) z6 z20
 let z25:ac×Int×List ac:=dP c3_1
 let z26:ac:=n8 (pS c3_0) z25.fst z2
 let z27:=z25.snd
 (.br (decide (a19<(↑z0:Int)))
 (gd [inB a19 z0,decide (z1<z0)] (.br (z4==(1:Int))
  (gd [uh (((),z6,()),z7),z8] (.ok (.inl ((a0,(a3,((),((),((),(a19+(1:Int),())))))),(c0,((c1_0,((),(c1_2,()))),(c2,((c3_0,(c3_1,())),()))))))))
  (.br (z4==(2:Int))
   (.br (!(z12.w0==z14.w0&&(z12.w1==z14.w1&&(z12.w2==z14.w2&&(z12.w3==z14.w3&&true)))&&(z16.w0==z18.w0&&(z16.w1==z18.w1&&(z16.w2==z18.w2&&(z16.w3==z18.w3&&true)))&&(z15.snd==z17.snd&&true))))
    (.ok (.inr ⟨(.ret,eS),((false,()),())⟩))
    (.br (!z10.snd==(0:Int))
     (.ok (.inr ⟨(.ret,eS),((false,()),())⟩))
     (gd [z8] (.ok (.inl ((a0,(a3,((),((),((),(a19+(1:Int),())))))),(c0,((c1_0,((),(z9.snd,()))),(c2,((c3_0,(c3_1,())),()))))))))))
   (.br (z4==(3:Int))
    (gd [decide (4<=List.length c2),jX ((z19,z6,z20,()),())] (.br (!(z23.w0==z24.w0&&(z23.w1==z24.w1&&(z23.w2==z24.w2&&(z23.w3==z24.w3&&true)))))
     (.ok (.inr ⟨(.ret,eS),((false,()),())⟩))
     (.br (!z22.snd==(0:Int))
      (.ok (.inr ⟨(.ret,eS),((false,()),())⟩))
      (gd [z8] (.ok (.inl ((a0,(a3,((),((),((),(a19+(1:Int),())))))),(c0,((c1_0,((),(z21.snd,()))),(c2,((c3_0,(c3_1,())),())))))))))))
    (.br (z4==(4:Int))
     (gd [ui (((),()),z7)] (.br (!(z26.w0==z6.w0&&(z26.w1==z6.w1&&(z26.w2==z6.w2&&(z26.w3==z6.w3&&true)))))
      (.ok (.inr ⟨(.ret,eS),((false,()),())⟩))
      (.br (!z27.fst==(0:Int))
       (.ok (.inr ⟨(.ret,eS),((false,()),())⟩))
       (gd [z8] (.ok (.inl ((a0,(a3,((),((),((),(a19+(1:Int),())))))),(c0,((c1_0,((),(c1_2,()))),(c2,((c3_0,(z27.snd,())),())))))))))))
     (gd [z8] (.ok (.inl ((a0,(a3,((),((),((),(a19+(1:Int),())))))),(c0,((c1_0,((),(c1_2,()))),(c2,((c3_0,(c3_1,())),())))))))))))))
 (.ok (.inr ⟨(.exit 3,nh),((a3,((),())),((c1_0,((),(c1_2,()))),((c3_0,(c3_1,())),())))⟩)))
def lN (s:aZ):OT (Sum aZ aJ):=DV (s.1.1) (s.1.2.1) (s.1.2.2.2.2.2.1) (s.2.1) (s.2.2.1.1) (s.2.2.1.2.2.1) (s.2.2.2.1) (s.2.2.2.2.1.1) (s.2.2.2.2.1.2.1)
theorem aio (s:aZ) (Q:Sum aZ aJ->Prop):wps te pV ay 1000 (bk (al Try.f4) 3) (j0.inj s) (cO j0 PE (Q:Sum j0.T aJ->Prop))=(lN s).wpR Q:=by kernel_rfl
def oU (g3_r:aZ->iw) (c3_r:aZ->Bool) (g3_3:aZ->fM) (s:aZ):OT aJ:=(.br (c3_r s) (.ok ⟨(.ret,eS),g3_r s⟩) (.ok ⟨(.exit 3,nh),g3_3 s⟩))
def gW:Shape:=⟨195,[(0,.val false .int),(3,.val false (.list .u8)),(11,.own 0),(17,.ptr 1 0 0),(18,.ptr 2 0 0),(19,.val false .int)],[(0,.row (.prod .int (.prod .elem (.prod .elem (.prod .elem .bool))))),(1,.cells [.val false .int,.ifp 117 3,.val false (.list .u8)]),(2,.row .u64),(3,.cells [.val false .int,.ptr 4 0 0]),(4,.cells [.val false .int,.val false .u64,.val false .u64,.val false .u64,.val false .u64,.val false .u64,.val false .u64,.val false .u64,.val false .u64,.own 5,.val false .u64]),(5,.row .u8)],0,true⟩
abbrev aO:Type:=((Int)×(List (UInt8))×(Unit)×(Unit)×(Unit)×(Int)×Unit)×((List ((Int×(ac×(ac×(ac×Bool))))))×((Int)×(Unit)×(List (UInt8))×Unit)×(List (UInt64))×((Int)×(Unit)×Unit)×((Int)×(UInt64)×(UInt64)×(UInt64)×(UInt64)×(UInt64)×(UInt64)×(UInt64)×(UInt64)×(Unit)×(UInt64)×Unit)×(List (UInt8))×Unit)
def eR:Shape:=⟨195,[(8,.val false .bool)],[],0,true⟩
abbrev gv:Type:=((Bool)×Unit)×(Unit)
def kP:Shape:=⟨195,[(3,.val false (.list .u8)),(17,.ptr 0 0 0)],[(0,.cells [.val false .int,.ifp 117 1,.val false (.list .u8)]),(1,.cells [.val false .int,.ptr 2 0 0]),(2,.cells [.val false .int,.val false .u64,.val false .u64,.val false .u64,.val false .u64,.val false .u64,.val false .u64,.val false .u64,.val false .u64,.own 3,.val false .u64]),(3,.row .u8)],0,true⟩
abbrev fe:Type:=((List (UInt8))×(Unit)×Unit)×(((Int)×(Unit)×(List (UInt8))×Unit)×((Int)×(Unit)×Unit)×((Int)×(UInt64)×(UInt64)×(UInt64)×(UInt64)×(UInt64)×(UInt64)×(UInt64)×(UInt64)×(Unit)×(UInt64)×Unit)×(List (UInt8))×Unit)
def Jl:SE->Option Shape:=kv [(3,kP)] (some eR)
def yw (a0:Int) (a3:List (UInt8)) (a19:Int) (c0:List ((Int×(ac×(ac×(ac×Bool)))))) (c1_0:Int) (c1_2:List (UInt8)) (c2:List (UInt64)) (c3_0:Int) (c4_0:Int) (c4_1:UInt64) (c4_2:UInt64) (c4_3:UInt64) (c4_4:UInt64) (c4_5:UInt64) (c4_6:UInt64) (c4_7:UInt64) (c4_8:UInt64) (c4_10:UInt64) (c5:List (UInt8)):OT (Sum aO aJ):=
 let z0:Nat:=List.length c0
 let z1:Nat:=Int.toNat a19
 let z2:ac:= {w0:=0,w1:=0,w2:=0,w3:=0}
 let z3:Int×ac×ac×ac×Bool:=List.getD c0 z1 ((0:Int),z2,z2,z2,false)
 let z4:=z3.fst
 let z5:=z3.snd
 let z6:=z5.fst
 let z7:Int×UInt64×UInt64×UInt64×UInt64×UInt64×UInt64×UInt64×UInt64×PUnit×UInt64×PUnit:=(c4_0,c4_1,c4_2,c4_3,c4_4,c4_5,c4_6,c4_7,c4_8,(),c4_10,())
 let z8:(Int×PUnit×List UInt8×PUnit)×(Int×PUnit×PUnit)×(Int×UInt64×UInt64×UInt64×UInt64×UInt64×UInt64×UInt64×UInt64×PUnit×UInt64×PUnit)×List UInt8×PUnit:=((c1_0,(),c1_2,()),(c3_0,(),()),z7,c5,())
 let z9:Bool:=inR (a19+(1:Int))
 let z10:(Int×UInt64×UInt64×UInt64×UInt64×UInt64×UInt64×UInt64×UInt64×PUnit×UInt64×PUnit)×List UInt8:=gU z7 c5 (2:UInt8) (dB c1_0 z6)
 let z11:=z10.fst
 let z12:=z11.snd
 let z13:=z12.snd
 let z14:=z13.snd
 let z15:=z14.snd
 let z16:=z15.snd
 let z17:=z16.snd
 let z18:=z17.snd
 let z19:=z18.snd
 let z20:PUnit×PUnit:=((),())
 let z21:((ac×ac×Bool)×Int)×List UInt8:=eH c1_0 c1_2
 let z22:=z21.fst
 let z23:=z22.fst
 let z24:=z23.fst
 let z25:=z5.snd
 let z26:=z25.fst
 let z27:=z23.snd
 let z28:=z27.fst
 let z29:=z25.snd
 let z30:=z29.fst
 let z31:=z22.snd
 let z32:(Int×UInt64×UInt64×UInt64×UInt64×UInt64×UInt64×UInt64×UInt64×PUnit×UInt64×PUnit)×List UInt8:=ja z31 (1:UInt8) c1_2 z7 c5
 let z33:=z32.fst
 let z34:=z33.snd
 let z35:=z34.snd
 let z36:=z35.snd
 let z37:=z36.snd
 let z38:=z37.snd
 let z39:=z38.snd
 let z40:=z39.snd
 let z41:=z40.snd
 let z42:Int:=b8 a0 (1:Int)
 let z43:ac:= {w0:=List.getD c2 0 0,w1:=List.getD c2 1 0,w2:=List.getD c2 2 0,w3:=List.getD c2 3 0}
 let z44:(ac×Int)×List UInt8:=eG (b8 c1_0 (1:Int)) c1_2
 let z45:=z44.fst
 let z46:=z45.fst
 let z47:ac:=n8 (pS z42) z6 z43
 let z48:=z45.snd
 let z49:(Int×UInt64×UInt64×UInt64×UInt64×UInt64×UInt64×UInt64×UInt64×PUnit×UInt64×PUnit)×List UInt8:=ja z48 (2:UInt8) c1_2 z7 c5
 let z50:=z49.fst
 let z51:=z50.snd
 let z52:=z51.snd
 let z53:=z52.snd
 let z54:=z53.snd
 let z55:=z54.snd
 let z56:=z55.snd
 let z57:=z56.snd
 let z58:=z57.snd
 let z59:ac:=HI c3_0 z7 c5
 let z60:(Int×UInt64×UInt64×UInt64×UInt64×UInt64×UInt64×UInt64×UInt64×PUnit×UInt64×PUnit)×List UInt8:=gU z7 c5 (0:UInt8) []
 let z61:=z60.fst
 let z62:=z61.snd
 let z63:=z62.snd
 let z64:=z63.snd
 let z65:=z64.snd
 let z66:=z65.snd
 let z67:=z66.snd
 let z68:=z67.snd
 let z69:=z68.snd
 (.br (decide (a19<(↑z0:Int)))
 (gd [inB a19 z0,decide (z1<z0)] (.br (z4==(1:Int))
  (gd [tY (((),z6,()),z8),z9] (.ok (.inl ((a0,(a3,((),((),((),(a19+(1:Int),())))))),(c0,((c1_0,((),(c1_2,()))),(c2,((c3_0,((),())),((z11.fst,(z12.fst,(z13.fst,(z14.fst,(z15.fst,(z16.fst,(z17.fst,(z18.fst,(z19.fst,((),(z19.snd.snd.fst,()))))))))))),(z10.snd,()))))))))))
  (.br (z4==(2:Int))
   (gd [BR (z20,z8)] (.br (!(z24.w0==z26.w0&&(z24.w1==z26.w1&&(z24.w2==z26.w2&&(z24.w3==z26.w3&&true)))&&(z28.w0==z30.w0&&(z28.w1==z30.w1&&(z28.w2==z30.w2&&(z28.w3==z30.w3&&true)))&&(z27.snd==z29.snd&&true))))
    (.ok (.inr ⟨(.ret,eR),((false,()),())⟩))
    (.br (!z31==(0:Int))
     (.ok (.inr ⟨(.ret,eR),((false,()),())⟩))
     (gd [z9] (.ok (.inl ((a0,(a3,((),((),((),(a19+(1:Int),())))))),(c0,((c1_0,((),(z21.snd,()))),(c2,((c3_0,((),())),((z33.fst,(z34.fst,(z35.fst,(z36.fst,(z37.fst,(z38.fst,(z39.fst,(z40.fst,(z41.fst,((),(z41.snd.snd.fst,()))))))))))),(z32.snd,())))))))))))))
   (.br (z4==(3:Int))
    (gd [BQ (z20,z8),decide (4<=List.length c2),jX ((z42,z6,z43,()),())] (.br (!(z46.w0==z47.w0&&(z46.w1==z47.w1&&(z46.w2==z47.w2&&(z46.w3==z47.w3&&true)))))
     (.ok (.inr ⟨(.ret,eR),((false,()),())⟩))
     (.br (!z48==(0:Int))
      (.ok (.inr ⟨(.ret,eR),((false,()),())⟩))
      (gd [z9] (.ok (.inl ((a0,(a3,((),((),((),(a19+(1:Int),())))))),(c0,((c1_0,((),(z44.snd,()))),(c2,((c3_0,((),())),((z50.fst,(z51.fst,(z52.fst,(z53.fst,(z54.fst,(z55.fst,(z56.fst,(z57.fst,(z58.fst,((),(z58.snd.snd.fst,()))))))))))),(z49.snd,())))))))))))))
    (.br (z4==(4:Int))
     (gd [ua (z20,z8)] (.br (!(z59.w0==z6.w0&&(z59.w1==z6.w1&&(z59.w2==z6.w2&&(z59.w3==z6.w3&&true)))))
      (.ok (.inr ⟨(.ret,eR),((false,()),())⟩))
      (gd [z9] (.ok (.inl ((a0,(a3,((),((),((),(a19+(1:Int),())))))),(c0,((c1_0,((),(c1_2,()))),(c2,((c3_0,((),())),((z61.fst,(z62.fst,(z63.fst,(z64.fst,(z65.fst,(z66.fst,(z67.fst,(z68.fst,(z69.fst,((),(z69.snd.snd.fst,()))))))))))),(z60.snd,()))))))))))))
     (gd [z9] (.ok (.inl ((a0,(a3,((),((),((),(a19+(1:Int),())))))),(c0,((c1_0,((),(c1_2,()))),(c2,((c3_0,((),())),((c4_0,(c4_1,(c4_2,(c4_3,(c4_4,(c4_5,(c4_6,(c4_7,(c4_8,((),(c4_10,()))))))))))),(c5,())))))))))))))))
 (.ok (.inr ⟨(.exit 3,kP),((a3,((),())),((c1_0,((),(c1_2,()))),((c3_0,((),())),((c4_0,(c4_1,(c4_2,(c4_3,(c4_4,(c4_5,(c4_6,(c4_7,(c4_8,((),(c4_10,()))))))))))),(c5,())))))⟩)))
def jf (s:aO):OT (Sum aO aJ):=yw (s.1.1) (s.1.2.1) (s.1.2.2.2.2.2.1) (s.2.1) (s.2.2.1.1) (s.2.2.1.2.2.1) (s.2.2.2.1) (s.2.2.2.2.1.1) (s.2.2.2.2.2.1.1) (s.2.2.2.2.2.1.2.1) (s.2.2.2.2.2.1.2.2.1) (s.2.2.2.2.2.1.2.2.2.1) (s.2.2.2.2.2.1.2.2.2.2.1) (s.2.2.2.2.2.1.2.2.2.2.2.1) (s.2.2.2.2.2.1.2.2.2.2.2.2.1) (s.2.2.2.2.2.1.2.2.2.2.2.2.2.1) (s.2.2.2.2.2.1.2.2.2.2.2.2.2.2.1) (s.2.2.2.2.2.1.2.2.2.2.2.2.2.2.2.2.1) (s.2.2.2.2.2.2.1)
theorem acz (s:aO) (Q:Sum aO aJ->Prop):wps te pV ay 1000 (bk (al Try.f4) 3) (gW.inj s) (cO gW Jl (Q:Sum gW.T aJ->Prop))=(jf s).wpR Q:=by kernel_rfl
def lM (g3b_r:aO->gv) (c3b_r:aO->Bool) (g3b_3:aO->fe) (s:aO):OT aJ:=(.br (c3b_r s) (.ok ⟨(.ret,eR),g3b_r s⟩) (.ok ⟨(.exit 3,kP),g3b_3 s⟩))
def bR:ar:=⟨[.val false .bool],[],false⟩
def Jn:SV->Option ar:=λ_=>some bR
def vg (ok0:bX->Bool) (g0_0:bX->fN) (ok0b:bE->Bool) (g0b_0:bE->ff) (ok3:aZ->Bool) (g3_r:aZ->iw) (c3_r:aZ->Bool) (g3_3:aZ->fM) (ok3b:aO->Bool) (g3b_r:aO->gv) (c3b_r:aO->Bool) (g3b_3:aO->fe) (a0:Int) (a1:(Int×List (ac))) (a2:List ((Int×(ac×(ac×(ac×Bool)))))) (a3:List (UInt8)):OT dp.Y:=
 let z0:Int×List (Int×ac×ac×ac×Bool)×List UInt8×PUnit×PUnit×PUnit×Int×PUnit:=(a0,List.take 60 a2,a3,(),(),(),(0:Int),())
 let z1:List ac×PUnit:=(a1.snd,())
 let z2:Int×List ac×PUnit:=(a1.fst,z1)
 let z3:PUnit×PUnit:=((),())
 let z4:Int:=b8 a0 (1:Int)
 let z5:(Int×List (Int×ac×ac×ac×Bool)×List UInt8×PUnit×PUnit×PUnit×Int×PUnit)×(Int×List ac×PUnit)×(Int×PUnit×PUnit×PUnit)×List (Int×ac×ac×ac×Bool)×(Int×List ac×PUnit)×List UInt8×PUnit:=(z0,z2,(a0,(),z3),[],(z4,z1),[],())
 let z6:PUnit×PUnit:=((),())
 let z7:(Int×List UInt8×PUnit×PUnit×PUnit×PUnit)×(Int×List ac×PUnit)×(Int×PUnit×PUnit×PUnit)×List (Int×ac×ac×ac×Bool)×(Int×List ac×PUnit)×List UInt8×PUnit:=g0_0 z5
 let z8:=z7.snd
 let z9:=z8.snd
 let z10:=z9.snd
 let z11:=z10.snd
 let z12:=z11.fst
 let z13:=z11.snd.fst
 let z14:=z7.fst
 let z15:=z14.snd.fst
 let z16:=z8.fst
 let z17:=z16.fst
 let z18:=z16.snd.fst
 let z19:Int×List ac:=(z17,z18)
 let z20:=z14.fst
 let z21:List UInt8:=z13++z15
 let z22:PUnit×PUnit×PUnit×Int×PUnit:=((),(),(),(0:Int),())
 let z23:Int×List UInt8×PUnit×PUnit×PUnit×Int×PUnit:=(z20,z15,z22)
 let z24:=z10.fst
 let z25:List UInt8×PUnit:=(z21,())
 let z26:Int:=b8 z20 (1:Int)
 let z27:(Int×List UInt8×PUnit×PUnit×PUnit×Int×PUnit)×List (Int×ac×ac×ac×Bool)×(Int×PUnit×List UInt8×PUnit)×List UInt64×(Int×List ac×PUnit)×PUnit:=(z23,z24,(z20,(),z25),[(0:UInt64),(0:UInt64),(0:UInt64),(0:UInt64)],(z26,z18,()),())
 let z28:(List UInt8×PUnit×PUnit)×(Int×PUnit×List UInt8×PUnit)×(Int×List ac×PUnit)×PUnit:=g3_3 z27
 let z29:PUnit×PUnit:=((),())
 let z30:UInt64×PUnit:=((0:UInt64),())
 let z31:(Int×UInt64×UInt64×UInt64×UInt64×UInt64×UInt64×UInt64×UInt64×PUnit×UInt64×PUnit)×List UInt8×PUnit:=(((64:Int),(7640891576939301192:UInt64),(13503953896175478587:UInt64),(4354685564936845355:UInt64),(11912009170470909681:UInt64),(5840696475078001361:UInt64),(11170449401992604703:UInt64),(7924071207369364504:UInt64),(3427420097777323800:UInt64),(),z30),[],())
 let z32:(Int×List UInt8×PUnit×PUnit×PUnit×Int×PUnit)×List (Int×ac×ac×ac×Bool)×(Int×PUnit×List UInt8×PUnit)×List UInt64×(Int×PUnit×PUnit)×(Int×UInt64×UInt64×UInt64×UInt64×UInt64×UInt64×UInt64×UInt64×PUnit×UInt64×PUnit)×List UInt8×PUnit:=(z23,z24,(z20,(),z25),[(0:UInt64),(0:UInt64),(0:UInt64),(0:UInt64)],(z26,z29),z31)
 let z33:(List UInt8×PUnit×PUnit)×(Int×PUnit×List UInt8×PUnit)×(Int×PUnit×PUnit)×(Int×UInt64×UInt64×UInt64×UInt64×UInt64×UInt64×UInt64×UInt64×PUnit×UInt64×PUnit)×List UInt8×PUnit:=g3b_3 z32
 let z34:(Int×List (Int×ac×ac×ac×Bool)×List UInt8×PUnit×PUnit×PUnit×Int×PUnit)×(Int×List ac×PUnit)×(Int×PUnit×PUnit×PUnit)×List (Int×ac×ac×ac×Bool)×(Int×PUnit×PUnit)×List UInt8×(Int×UInt64×UInt64×UInt64×UInt64×UInt64×UInt64×UInt64×UInt64×PUnit×UInt64×PUnit)×List UInt8×PUnit:=(z0,z2,(a0,(),z3),[],(z4,(),()),[],((64:Int),(7640891576939301192:UInt64),(13503953896175478587:UInt64),(4354685564936845355:UInt64),(11912009170470909681:UInt64),(5840696475078001361:UInt64),(11170449401992604703:UInt64),(7924071207369364504:UInt64),(3427420097777323800:UInt64),(),z30),[],())
 let z35:(Int×List UInt8×PUnit×PUnit×PUnit×PUnit)×(Int×List ac×PUnit)×(Int×PUnit×PUnit×PUnit)×List (Int×ac×ac×ac×Bool)×(Int×PUnit×PUnit)×List UInt8×(Int×UInt64×UInt64×UInt64×UInt64×UInt64×UInt64×UInt64×UInt64×PUnit×UInt64×PUnit)×List UInt8×PUnit:=g0b_0 z34
 let z36:=z35.snd
 let z37:=z36.snd
 let z38:=z37.snd
 let z39:=z38.snd
 let z40:=z39.snd
 let z41:=z40.snd
 let z42:=z41.fst
 let z43:=z42.snd
 let z44:=z43.snd
 let z45:=z44.snd
 let z46:=z45.snd
 let z47:=z46.snd
 let z48:=z47.snd
 let z49:=z48.snd
 let z50:=z49.snd
 let z51:=z40.fst
 let z52:=z35.fst
 let z53:=z52.snd.fst
 let z54:=z36.fst
 let z55:=z54.fst
 let z56:=z54.snd.fst
 let z57:Int×List ac:=(z55,z56)
 let z58:=z52.fst
 let z59:List UInt8:=z51++z53
 let z60:Int×List UInt8×PUnit×PUnit×PUnit×Int×PUnit:=(z58,z53,z22)
 let z61:=z38.fst
 let z62:List UInt8×PUnit:=(z59,())
 let z63:Int:=b8 z58 (1:Int)
 let z64:(Int×List UInt8×PUnit×PUnit×PUnit×Int×PUnit)×List (Int×ac×ac×ac×Bool)×(Int×PUnit×List UInt8×PUnit)×List UInt64×(Int×List ac×PUnit)×PUnit:=(z60,z61,(z58,(),z62),[(0:UInt64),(0:UInt64),(0:UInt64),(0:UInt64)],(z63,z56,()),())
 let z65:(List UInt8×PUnit×PUnit)×(Int×PUnit×List UInt8×PUnit)×(Int×List ac×PUnit)×PUnit:=g3_3 z64
 let z66:(Int×List UInt8×PUnit×PUnit×PUnit×Int×PUnit)×List (Int×ac×ac×ac×Bool)×(Int×PUnit×List UInt8×PUnit)×List UInt64×(Int×PUnit×PUnit)×(Int×UInt64×UInt64×UInt64×UInt64×UInt64×UInt64×UInt64×UInt64×PUnit×UInt64×PUnit)×List UInt8×PUnit:=(z60,z61,(z58,(),z62),[(0:UInt64),(0:UInt64),(0:UInt64),(0:UInt64)],(z63,z29),z31)
 let z67:(List UInt8×PUnit×PUnit)×(Int×PUnit×List UInt8×PUnit)×(Int×PUnit×PUnit)×(Int×UInt64×UInt64×UInt64×UInt64×UInt64×UInt64×UInt64×UInt64×PUnit×UInt64×PUnit)×List UInt8×PUnit:=g3b_3 z66
 let z68:Bool:= !bM a0 a1.fst (List.length a1.snd)==(0:Int)
 (gd [eX ((a1,()),())] (.br (bM a0 a1.fst (List.length a1.snd)==(0:Int))
 (.br (a1.fst==(1:Int))
  (gd [ok0 z5,lm (z6,(z9.fst.fst,(),(),()),(z12.fst,z12.snd.fst,()),z13,()),decide ((List.length z13+List.length z15)*1<=140737488355328),eX ((z19,()),()),im ((z20,z19,z21,()),())] (.br (bM z20 z17 (List.length z18)==(0:Int))
   (.br (z17==(1:Int))
    (gd [ok3 z27] (.br (c3_r z27)
     (.ok ⟨bR,(((g3_r z27).fst.fst,()),())⟩)
     (.ok ⟨bR,(((↑(List.length z28.snd.fst.snd.snd.fst):Int)==(↑(List.length z28.fst.fst):Int),()),())⟩)))
    (gd [ok3b z32] (.br (c3b_r z32)
     (.ok ⟨bR,(((g3b_r z32).fst.fst,()),())⟩)
     (.ok ⟨bR,(((↑(List.length z33.snd.fst.snd.snd.fst):Int)==(↑(List.length z33.fst.fst):Int),()),())⟩))))
   (.br (!bM z20 z17 (List.length z18)==(0:Int))
    (.ok ⟨bR,((false,()),())⟩)
    (.ok ⟨bR,((false,()),())⟩))))
  (gd [ok0b z34,lS (z6,(z37.fst.fst,(),(),()),(z39.fst.fst,(),()),(z42.fst,z43.fst,z44.fst,z45.fst,z46.fst,z47.fst,z48.fst,z49.fst,z50.fst,(),z50.snd.snd.fst,()),z51,z41.snd.fst,()),decide ((List.length z51+List.length z53)*1<=140737488355328),eX ((z57,()),()),im ((z58,z57,z59,()),())] (.br (bM z58 z55 (List.length z56)==(0:Int))
   (.br (z55==(1:Int))
    (gd [ok3 z64] (.br (c3_r z64)
     (.ok ⟨bR,(((g3_r z64).fst.fst,()),())⟩)
     (.ok ⟨bR,(((↑(List.length z65.snd.fst.snd.snd.fst):Int)==(↑(List.length z65.fst.fst):Int),()),())⟩)))
    (gd [ok3b z66] (.br (c3b_r z66)
     (.ok ⟨bR,(((g3b_r z66).fst.fst,()),())⟩)
     (.ok ⟨bR,(((↑(List.length z67.snd.fst.snd.snd.fst):Int)==(↑(List.length z67.fst.fst):Int),()),())⟩))))
   (.br (!bM z58 z55 (List.length z56)==(0:Int))
    (.ok ⟨bR,((false,()),())⟩)
    (.ok ⟨bR,((false,()),())⟩)))))
 (.br (z68)
  (.ok ⟨bR,((z68,()),())⟩)
  (.ok ⟨bR,((z68,()),())⟩))))
theorem anH (ok0:bX->Bool) (g0_0:bX->fN) (ok0b:bE->Bool) (g0b_0:bE->ff) (ok3:aZ->Bool) (g3_r:aZ->iw) (c3_r:aZ->Bool) (g3_3:aZ->fM) (ok3b:aO->Bool) (g3b_r:aO->gv) (c3b_r:aO->Bool) (g3b_3:aO->fe) (x:yz) (Q:dp.Y->Prop):wpf te pV (Jr 3 gW (dq gW 3 ok3b (lM g3b_r c3b_r g3b_3)) (Jr 3 j0 (dq j0 3 ok3 (oU g3_r c3_r g3_3)) (Jr 0 gX (dq gX 0 ok0b (qP g0b_0)) (Jr 0 j1 (dq j1 0 ok0 (ve g0_0)) ay)))) 1000 Try.f4 (dp.inp.inj x).tm (dp.inp.inj x).hp (fnK dp Jn Q) (λ_ _=>False)=(vg ok0 g0_0 ok0b g0b_0 ok3 g3_r c3_r g3_3 ok3b g3b_r c3b_r g3b_3 (x.1.1) (x.1.2.1) (x.1.2.2.1) (x.1.2.2.2.1)).wpR Q:=by kernel_rfl
theorem US (ok0:bX->Bool) (g0_0:bX->fN) (ok0b:bE->Bool) (g0b_0:bE->ff) (ok3:aZ->Bool) (g3_r:aZ->iw) (c3_r:aZ->Bool) (g3_3:aZ->fM) (ok3b:aO->Bool) (g3b_r:aO->gv) (c3b_r:aO->Bool) (g3b_3:aO->fe) (h0:∀ s:bX,ok0 s=true->∃ m e,aA (lO) m s=some e/\(ve g0_0 s).run=some e) (h0b:∀ s:bE,ok0b s=true->∃ m e,aA (jg) m s=some e/\(qP g0b_0 s).run=some e) (h3:∀ s:aZ,ok3 s=true->∃ m e,aA (lN) m s=some e/\(oU g3_r c3_r g3_3 s).run=some e) (h3b:∀ s:aO,ok3b s=true->∃ m e,aA (jf) m s=some e/\(lM g3b_r c3b_r g3b_3 s).run=some e) (pre:yz->Bool) (F:yz->OT dp.Y) (hF:∀ (x:yz) oy,pre x=true->(F x).run=some oy->(vg ok0 g0_0 ok0b g0b_0 ok3 g3_r c3_r g3_3 ok3b g3b_r c3b_r g3b_3 (x.1.1) (x.1.2.1) (x.1.2.2.1) (x.1.2.2.2.1)).run=some oy):aa Try.prog 4 (dp.aD pre F):=
 aB ap jj kt (f:=4) (fn:=Try.f4) (c:=al Try.f4) (by kernel_rfl) (by kernel_rfl) (by kernel_rfl) (S:=dp) (k:=0) (by kernel_rfl) (λR hR=>(vj (c:=(al Try.f4)) (by kernel_rfl) (id:=3) (sh:=gW) (by kernel_rfl) (bn ap jj kt (sh:=gW) hR (xs:=Jl) (aG (by kernel_rfl) (by kernel_rfl) hR) aV af (n:=1000) (T:=jf) (λs Q=>acz s Q) (ok:=ok3b) (f:=lM g3b_r c3b_r g3b_3) h3b) (vj (c:=(al Try.f4)) (by kernel_rfl) (id:=3) (sh:=j0) (by kernel_rfl) (bn ap jj kt (sh:=j0) hR (xs:=PE) (aG (by kernel_rfl) (by kernel_rfl) hR) aV af (n:=1000) (T:=lN) (λs Q=>aio s Q) (ok:=ok3) (f:=oU g3_r c3_r g3_3) h3) (vj (c:=(al Try.f4)) (by kernel_rfl) (id:=0) (sh:=gX) (by kernel_rfl) (bn ap jj kt (sh:=gX) hR (xs:=Jm) (aG (by kernel_rfl) (by kernel_rfl) hR) aV af (n:=1000) (T:=jg) (λs Q=>acA s Q) (ok:=ok0b) (f:=qP g0b_0) h0b) (vj (c:=(al Try.f4)) (by kernel_rfl) (id:=0) (sh:=j1) (by kernel_rfl) (bn ap jj kt (sh:=j1) hR (xs:=PF) (aG (by kernel_rfl) (by kernel_rfl) hR) aV af (n:=1000) (T:=lO) (λs Q=>aip s Q) (ok:=ok0) (f:=ve g0_0) h0) af))))) (n:=1000) (sel:=Jn) (λv o h=>by cases h;rfl) (pre:=pre) (F:=F) (T:=λx=>vg ok0 g0_0 ok0b g0b_0 ok3 g3_r c3_r g3_3 ok3b g3b_r c3b_r g3b_3 (x.1.1) (x.1.2.1) (x.1.2.2.1) (x.1.2.2.2.1)) (λx Q=>anH ok0 g0_0 ok0b g0b_0 ok3 g3_r c3_r g3_3 ok3b g3b_r c3b_r g3b_3 x Q) hF
theorem RO (p:Nat) (a:ac):n8 p a ⟨0,0,0,0⟩=ofP p a:=by
 unfold n8 ofP
 rw [show (⟨0,0,0,0⟩:ac).nat=0 from rfl,Nat.add_zero]
def Hq (A B:ac):Bool:=A.w0==B.w0&&(A.w1==B.w1&&(A.w2==B.w2&&(A.w3==B.w3&&true)))
theorem BZ {A B:ac} (h:A=B):Hq A B=true:=by
 rw [h]
 unfold Hq
 simp only [beq_self_eq_true,Bool.and_self]
theorem ah7 {c m:Int} {n:Nat} (h:(bM c m n==0)=true):ak c=true/\n<=100000:=by
 unfold bM at h
 cases hs:ak c
 ·rw [hs] at h;cases h
 ·refine ⟨rfl,?_⟩
  rw [hs] at h
  cases hm:((m==0)||(m==1))
  ·rw [hm] at h;cases h
  ·rw [hm] at h
   by_cases hn:(100000:Int)<(n:Int)
   ·rw [decide_eq_true hn] at h;cases h
   ·omega
def IJ (A B:Pt):Bool:=A.1.w0==B.1.w0&&(A.1.w1==B.1.w1&&(A.1.w2==B.1.w2&&(A.1.w3==B.1.w3&&true)))&&(A.2.1.w0==B.2.1.w0&&(A.2.1.w1==B.2.1.w1&&(A.2.1.w2==B.2.1.w2&&(A.2.1.w3==B.2.1.w3&&true)))&&(A.2.2==B.2.2&&true))
theorem Da (A:Pt):IJ A A=true:=by
 unfold IJ
 simp only [beq_self_eq_true,Bool.and_self]
theorem kc {s:Int} (h:ak s=true):ak (b8 s 1)=true:=by
 rcases bD h with rfl|rfl|rfl|rfl<;>rfl
theorem Rx {x:Int} (h:(x==(0:Int))=true):(!(x==(0:Int)))=false:=by rw [h];rfl
abbrev awg:Type:=Int×List ac×Unit
abbrev QT:Type:=List ac×(List UInt8×List OpY)
def ale (c:Int) (l:List OpY) (more:List UInt8) (src:awg) (k:Int) (q:QT):bX:=((c,l,more,(),(),(),k,()),(src,(c,(),(),()),q.2.2,(b8 c 1,q.1,()),q.2.1,()))
theorem ap9 {c:Int} (hs:ak c=true) {l:List OpY} {more:List UInt8} {src:awg} {k:Nat} (hk:k<l.length) (hk3:k<60) {q:QT} (h1:q.1.length<=100000) (h2:q.2.1.length<=32*k) (h3:q.2.2.length<=k):
 (lO (ale c l more src (k:Int) q)).run=some (.inl (ale c l more src ((k:Int)+1) (wst (IG c) c (l.getD k BH) q))):=by
 obtain ⟨co,out,said⟩:=q
 dsimp only at h1 h2 h3
 generalize ho:l.getD k BH=o
 have ht':l.getD k ((0:Int),(⟨0,0,0,0⟩:ac),(⟨0,0,0,0⟩:ac),(⟨0,0,0,0⟩:ac),false)=o:=ho
 have i1:inR ((k:Int)+1)=true:=aS (by omega)
 have hso:=kc hs
 have p0:decide ((said.length+1)*112<=140737488355328)=true:=decide_eq_true (by omega)
 have p1:ux (((),o.2.1,()),((c,(),(),()),(b8 c 1,co,()),out,()))=true:=hso
 have p4:qp (((),o.2.2,()),((c,(),(),()),(b8 c 1,co,()),out,()))=true:=decide_eq_true (show out.length<=_ by omega)
 have p5:mJ (((),o.2.1,()),((c,(),(),()),(b8 c 1,co,()),out,()))=true:=(Bool.and_eq_true _ _).mpr ⟨hso,decide_eq_true (show out.length<=_ by omega)⟩
 have p8:uy (((),()),((c,(),(),()),(b8 c 1,co,()),out,()))=true:=(Bool.and_eq_true _ _).mpr ⟨hso,decide_eq_true (show co.length<=_ by omega)⟩
 show (DW c l more (k:Int) src.1 src.2.1 c said (b8 c 1) co out).run=_
 unfold DW
 dsimp only
 rw [Int.toNat_natCast,ht']
 refine (OT.au (decide_eq_true (by omega))).trans ((ah (by rw [bc (show 0<=(k:Int)/\(k:Int)<(l.length:Int) by omega)];rfl)).trans ?_)
 unfold wst IG
 dsimp only
 rcases (Bool.eq_false_or_eq_true (o.1==(1:Int))).symm with w1|w1
 ·rw [w1]
  refine (OT.aw rfl).trans ?_
  rcases (Bool.eq_false_or_eq_true (o.1==(2:Int))).symm with w2|w2
  ·rw [w2]
   refine (OT.aw rfl).trans ?_
   rcases (Bool.eq_false_or_eq_true (o.1==(3:Int))).symm with w3|w3
   ·rw [w3]
    refine (OT.aw rfl).trans ((ah (by rw [p8];rfl)).trans ?_)
    generalize n8 (pS (b8 c 1)) (dP co).1 ⟨0,0,0,0⟩=E
    generalize dP co=C
    rcases (Bool.eq_false_or_eq_true (C.2.1==(0:Int))).symm with n0|n0
    ·rw [n0]
     exact (OT.au rfl).trans ((ah (by rw [i1];rfl)).trans rfl)
    ·rw [n0]
     exact (OT.aw rfl).trans ((ah (by rw [p0,i1];rfl)).trans rfl)
   ·rw [w3]
    generalize dB c o.2.1=B
    exact (OT.au rfl).trans ((ah (by rw [p5,p0,i1];rfl)).trans rfl)
  ·rw [w2]
   refine (OT.au rfl).trans ((ah (by rw [p4];rfl)).trans ?_)
   rcases (Bool.eq_false_or_eq_true (onB c o.2.2)).symm with g|g
   ·rw [g]
    exact (OT.aw rfl).trans ((ah (by rw [i1];rfl)).trans rfl)
   ·rw [g]
    generalize n7 c o.2.2=B
    exact (OT.au rfl).trans ((ah (by rw [p0,i1];rfl)).trans rfl)
 ·rw [w1]
  exact (OT.au rfl).trans ((ah (by rw [p1,p0,i1];rfl)).trans rfl)
abbrev QH:Type:=(tS×List UInt8)×(List UInt8×List OpY)
def alm (c:Int) (l:List OpY) (more:List UInt8) (src:awg) (k:Int) (q:QH):bE:=((c,l,more,(),(),(),k,()),(src,(c,(),(),()),q.2.2,(b8 c 1,(),()),q.2.1,q.1.1,q.1.2,()))
theorem aqk {c:Int} (hs:ak c=true) {l:List OpY} {more:List UInt8} {src:awg} {k:Nat} (hk:k<l.length) (hk3:k<60) {q:QH} (h1:Md q.1) (h2:q.2.1.length<=32*k) (h3:q.2.2.length<=k):
 (jg (alm c l more src (k:Int) q)).run=some (.inl (alm c l more src ((k:Int)+1) (wst (Jz c) c (l.getD k BH) q))):=by
 obtain ⟨⟨d,wt⟩,out,said⟩:=q
 obtain ⟨hd,hw⟩:=h1
 dsimp only at h2 h3 hd hw
 generalize ho:l.getD k BH=o
 have ht':l.getD k ((0:Int),(⟨0,0,0,0⟩:ac),(⟨0,0,0,0⟩:ac),(⟨0,0,0,0⟩:ac),false)=o:=ho
 have i1:inR ((k:Int)+1)=true:=aS (by omega)
 have hso:=kc hs
 have p0:decide ((said.length+1)*112<=140737488355328)=true:=decide_eq_true (by omega)
 have p1:vp (((),o.2.1,()),((c,(),(),()),(b8 c 1,(),()),d,out,wt,()))=true:=(Bool.and_eq_true _ _).mpr ⟨hso,decide_eq_true hw⟩
 have p4:qS (((),o.2.2,()),((c,(),(),()),(b8 c 1,(),()),d,out,wt,()))=true:=decide_eq_true ⟨show out.length<=_ by omega,hw⟩
 have p5:nk (((),o.2.1,()),((c,(),(),()),(b8 c 1,(),()),d,out,wt,()))=true:=(Bool.and_eq_true _ _).mpr ⟨hso,decide_eq_true ⟨show out.length<=_ by omega,hw⟩⟩
 have p8:vr (((),()),((c,(),(),()),(b8 c 1,(),()),d,out,wt,()))=true:=(Bool.and_eq_true _ _).mpr ⟨hso,decide_eq_true ⟨hd,hw⟩⟩
 show (yy c l more (k:Int) src.1 src.2.1 c said (b8 c 1) out d.1 d.2.1 d.2.2.1 d.2.2.2.1 d.2.2.2.2.1 d.2.2.2.2.2.1 d.2.2.2.2.2.2.1 d.2.2.2.2.2.2.2.1 d.2.2.2.2.2.2.2.2.1 d.2.2.2.2.2.2.2.2.2.2.1 wt).run=_
 obtain ⟨n,d0,d1,d2,d3,d4,d5,d6,d7,⟨⟩,dc,⟨⟩⟩:=d
 unfold yy
 dsimp only
 rw [Int.toNat_natCast,ht']
 refine (OT.au (decide_eq_true (by omega))).trans ((ah (by rw [bc (show 0<=(k:Int)/\(k:Int)<(l.length:Int) by omega)];rfl)).trans ?_)
 unfold wst Jz
 dsimp only
 rcases (Bool.eq_false_or_eq_true (o.1==(1:Int))).symm with w1|w1
 ·rw [w1]
  refine (OT.aw rfl).trans ?_
  rcases (Bool.eq_false_or_eq_true (o.1==(2:Int))).symm with w2|w2
  ·rw [w2]
   refine (OT.aw rfl).trans ?_
   rcases (Bool.eq_false_or_eq_true (o.1==(3:Int))).symm with w3|w3
   ·rw [w3]
    generalize HI (b8 c 1) (n,d0,d1,d2,d3,d4,d5,d6,d7,(),dc,()) wt=E
    exact (OT.aw rfl).trans ((ah (by rw [p8,p0,i1];rfl)).trans rfl)
   ·rw [w3]
    generalize dB c o.2.1=B
    exact (OT.au rfl).trans ((ah (by rw [p5,p0,i1];rfl)).trans rfl)
  ·rw [w2]
   refine (OT.au rfl).trans ((ah (by rw [p4];rfl)).trans ?_)
   rcases (Bool.eq_false_or_eq_true (onB c o.2.2)).symm with g|g
   ·rw [g]
    exact (OT.aw rfl).trans ((ah (by rw [i1];rfl)).trans rfl)
   ·rw [g]
    generalize n7 c o.2.2=B
    exact (OT.au rfl).trans ((ah (by rw [p0,i1];rfl)).trans rfl)
 ·rw [w1]
  generalize dB c o.2.1=B
  exact (OT.au rfl).trans ((ah (by rw [p1,p0,i1];rfl)).trans rfl)
def n5:List UInt64:= [0,0,0,0]
def amS (c:Int) (more:List UInt8) (said:List OpY) (k:Int) (q:List ac×List UInt8):aZ:=((c,more,(),(),(),k,()),(said,(c,(),q.2,()),n5,(b8 c 1,q.1,()),()))
theorem asn {c:Int} (hs:ak c=true) {more:List UInt8} {l:List OpY} {k:Nat} (hk:k<l.length) (hk3:k<60) {q z:List ac×List UInt8} (h:rst (IG c) c (l.getD k BH) q=some z) (h1:q.1.length<=100000):
 (lN (amS c more l (k:Int) q)).run=some (.inl (amS c more l ((k:Int)+1) z)):=by
 obtain ⟨co,b⟩:=q
 dsimp only at h1
 generalize ho:l.getD k BH=o at h
 have ht':l.getD k ((0:Int),(⟨0,0,0,0⟩:ac),(⟨0,0,0,0⟩:ac),(⟨0,0,0,0⟩:ac),false)=o:=ho
 have i1:inR ((k:Int)+1)=true:=aS (by omega)
 have hso:=kc hs
 have p1:uh (((),o.2.1,()),((c,(),b,()),(b8 c 1,co,()),()))=true:=hso
 have p3:jX ((b8 c 1,o.2.1,(⟨0,0,0,0⟩:ac),()),())=true:=hso
 have p8:ui (((),()),((c,(),b,()),(b8 c 1,co,()),()))=true:=(Bool.and_eq_true _ _).mpr ⟨hso,decide_eq_true (show co.length<=_ by omega)⟩
 show (DV c more (k:Int) l c b n5 (b8 c 1) co).run=_
 unfold DV
 dsimp only
 rw [Int.toNat_natCast,ht']
 rw [show (⟨n5.getD 0 0,n5.getD 1 0,n5.getD 2 0,n5.getD 3 0⟩:ac)=⟨0,0,0,0⟩ from rfl,RO]
 refine (OT.au (decide_eq_true (by omega))).trans ((ah (by rw [bc (show 0<=(k:Int)/\(k:Int)<(l.length:Int) by omega),decide_eq_true hk];rfl)).trans ?_)
 rcases (Bool.eq_false_or_eq_true (o.1==(1:Int))).symm with w1|w1
 ·refine (OT.aw w1).trans ?_
  rcases (Bool.eq_false_or_eq_true (o.1==(2:Int))).symm with w2|w2
  ·refine (OT.aw w2).trans ?_
   rcases (Bool.eq_false_or_eq_true (o.1==(3:Int))).symm with w3|w3
   ·refine (OT.aw w3).trans ?_
    rcases (Bool.eq_false_or_eq_true (o.1==(4:Int))).symm with w4|w4
    ·rw [aso _ _ w1 w2 w3 w4] at h
     cases h
     exact (OT.aw w4).trans ((ah (by rw [i1];rfl)).trans rfl)
    ·rw [amU _ _ w1 w2 w3 w4] at h
     obtain ⟨e1,e2,rfl⟩:=TP h
     have e1:((dP co).2.1==(0:Int))=true:=e1
     have q1:Hq (n8 (pS (b8 c 1)) (dP co).1 ⟨0,0,0,0⟩) o.2.1=true:=BZ e2
     exact (OT.au w4).trans ((ah (by rw [p8];rfl)).trans ((OT.aw (b:= !Hq _ _) (by rw [q1];rfl)).trans ((OT.aw (Rx e1)).trans ((ah (by rw [i1];rfl)).trans rfl))))
   ·rw [amV _ _ w1 w2 w3] at h
    obtain ⟨e1,e2,rfl⟩:=TN h
    clear h
    dsimp only at e1 e2⊢
    generalize eG (b8 c 1) b=r at*
    have q1:Hq r.1.1 (ofP (pS (b8 c 1)) o.2.1)=true:=BZ e2
    exact (OT.au w3).trans ((ah (by rw [p3];rfl)).trans ((OT.aw (b:= !Hq _ _) (by rw [q1];rfl)).trans ((OT.aw (Rx e1)).trans ((ah (by rw [i1];rfl)).trans rfl))))
  ·rw [amW _ _ w1 w2] at h
   obtain ⟨e1,e2,rfl⟩:=TO h
   clear h
   dsimp only at e1 e2⊢
   generalize eH c b=r at*
   have q1:IJ r.1.1 o.2.2=true:=by rw [e2];exact Da _
   exact (OT.au w2).trans ((OT.aw (b:= !IJ _ _) (by rw [q1];rfl)).trans ((OT.aw (Rx e1)).trans ((ah (by rw [i1];rfl)).trans rfl)))
 ·rw [amX _ _ w1] at h
  cases h
  exact (OT.au w1).trans ((ah (by rw [p1,i1];rfl)).trans rfl)
def amZ (c:Int) (more:List UInt8) (said:List OpY) (k:Int) (q:(tS×List UInt8)×List UInt8):aO:=((c,more,(),(),(),k,()),(said,(c,(),q.2,()),n5,(b8 c 1,(),()),q.1.1,q.1.2,()))
theorem asu {c:Int} (hs:ak c=true) {more:List UInt8} {l:List OpY} {k:Nat} (hk:k<l.length) (hk3:k<60) {q z:(tS×List UInt8)×List UInt8} (h:rst (Jz c) c (l.getD k BH) q=some z) (h1:Md q.1):
 (jf (amZ c more l (k:Int) q)).run=some (.inl (amZ c more l ((k:Int)+1) z)):=by
 obtain ⟨⟨d,wt⟩,b⟩:=q
 obtain ⟨hd,hw⟩:=h1
 dsimp only at hd hw
 generalize ho:l.getD k BH=o at h
 have ht':l.getD k ((0:Int),(⟨0,0,0,0⟩:ac),(⟨0,0,0,0⟩:ac),(⟨0,0,0,0⟩:ac),false)=o:=ho
 have i1:inR ((k:Int)+1)=true:=aS (by omega)
 have hso:=kc hs
 have p1:tY (((),o.2.1,()),((c,(),b,()),(b8 c 1,(),()),d,wt,()))=true:=(Bool.and_eq_true _ _).mpr ⟨hso,decide_eq_true hw⟩
 have p2:BR (((),()),((c,(),b,()),(b8 c 1,(),()),d,wt,()))=true:=decide_eq_true hw
 have p5:BQ (((),()),((c,(),b,()),(b8 c 1,(),()),d,wt,()))=true:=decide_eq_true hw
 have p3:jX ((b8 c 1,o.2.1,(⟨0,0,0,0⟩:ac),()),())=true:=hso
 have p8:ua (((),()),((c,(),b,()),(b8 c 1,(),()),d,wt,()))=true:=(Bool.and_eq_true _ _).mpr ⟨hso,decide_eq_true ⟨hd,hw⟩⟩
 show (yw c more (k:Int) l c b n5 (b8 c 1) d.1 d.2.1 d.2.2.1 d.2.2.2.1 d.2.2.2.2.1 d.2.2.2.2.2.1 d.2.2.2.2.2.2.1 d.2.2.2.2.2.2.2.1 d.2.2.2.2.2.2.2.2.1 d.2.2.2.2.2.2.2.2.2.2.1 wt).run=_
 obtain ⟨n,d0,d1,d2,d3,d4,d5,d6,d7,⟨⟩,dc,⟨⟩⟩:=d
 unfold yw
 dsimp only
 rw [Int.toNat_natCast,ht']
 rw [show (⟨n5.getD 0 0,n5.getD 1 0,n5.getD 2 0,n5.getD 3 0⟩:ac)=⟨0,0,0,0⟩ from rfl,RO]
 refine (OT.au (decide_eq_true (by omega))).trans ((ah (by rw [bc (show 0<=(k:Int)/\(k:Int)<(l.length:Int) by omega),decide_eq_true hk];rfl)).trans ?_)
 rcases (Bool.eq_false_or_eq_true (o.1==(1:Int))).symm with w1|w1
 ·refine (OT.aw w1).trans ?_
  rcases (Bool.eq_false_or_eq_true (o.1==(2:Int))).symm with w2|w2
  ·refine (OT.aw w2).trans ?_
   rcases (Bool.eq_false_or_eq_true (o.1==(3:Int))).symm with w3|w3
   ·refine (OT.aw w3).trans ?_
    rcases (Bool.eq_false_or_eq_true (o.1==(4:Int))).symm with w4|w4
    ·rw [aso _ _ w1 w2 w3 w4] at h
     cases h
     exact (OT.aw w4).trans ((ah (by rw [i1];rfl)).trans rfl)
    ·rw [amU _ _ w1 w2 w3 w4] at h
     obtain ⟨e1,e2,rfl⟩:=TP h
     have q1:Hq (HI (b8 c 1) (n,d0,d1,d2,d3,d4,d5,d6,d7,(),dc,()) wt) o.2.1=true:=BZ e2
     exact (OT.au w4).trans ((ah (by rw [p8];rfl)).trans ((OT.aw (b:= !Hq _ _) (by rw [q1];rfl)).trans ((ah (by rw [i1];rfl)).trans rfl)))
   ·rw [amV _ _ w1 w2 w3] at h
    obtain ⟨e1,e2,rfl⟩:=TN h
    clear h
    dsimp only at e1 e2⊢
    generalize eG (b8 c 1) b=r at*
    have q1:Hq r.1.1 (ofP (pS (b8 c 1)) o.2.1)=true:=BZ e2
    have hD:ja r.1.2 2 b (n,d0,d1,d2,d3,d4,d5,d6,d7,(),dc,()) wt=gU (n,d0,d1,d2,d3,d4,d5,d6,d7,(),dc,()) wt 2 (b.take 32):=by unfold ja;rw [e1];rfl
    rw [hD]
    exact (OT.au w3).trans ((ah (by rw [p5,p3];rfl)).trans ((OT.aw (b:= !Hq _ _) (by rw [q1];rfl)).trans ((OT.aw (Rx e1)).trans ((ah (by rw [i1];rfl)).trans rfl))))
  ·rw [amW _ _ w1 w2] at h
   obtain ⟨e1,e2,rfl⟩:=TO h
   clear h
   dsimp only at e1 e2⊢
   generalize eH c b=r at*
   have q1:IJ r.1.1 o.2.2=true:=by rw [e2];exact Da _
   have hD:ja r.1.2 1 b (n,d0,d1,d2,d3,d4,d5,d6,d7,(),dc,()) wt=gU (n,d0,d1,d2,d3,d4,d5,d6,d7,(),dc,()) wt 1 (b.take 32):=by unfold ja;rw [e1];rfl
   rw [hD]
   exact (OT.au w2).trans ((ah (by rw [p2];rfl)).trans ((OT.aw (b:= !IJ _ _) (by rw [q1];rfl)).trans ((OT.aw (Rx e1)).trans ((ah (by rw [i1];rfl)).trans rfl))))
 ·rw [amX _ _ w1] at h
  cases h
  generalize dB c o.2.1=B
  exact (OT.au w1).trans ((ah (by rw [p1,i1];rfl)).trans rfl)
def lL (s:bX):Bool:=ak s.1.1&&decide (s.1.2.2.2.2.2.2.1=0/\s.1.2.1.length<=60/\s.2.2.1.1=s.1.1/\s.2.2.2.1= []/\s.2.2.2.2.1.1=b8 s.1.1 1/\s.2.2.2.2.1.2.1.length<=100000/\s.2.2.2.2.2.1= [])
def ln (c:Int) (l:List OpY) (co:List ac):QT:=wall (IG c) c l co l.length
def DU (s:bX):fN:=((s.1.1,s.1.2.2.1,(),(),(),()),(s.2.1,(s.1.1,(),(),()),(ln s.1.1 s.1.2.1 s.2.2.2.2.1.2.1).2.2,(b8 s.1.1 1,(ln s.1.1 s.1.2.1 s.2.2.2.2.1.2.1).1,()),(ln s.1.1 s.1.2.1 s.2.2.2.2.1.2.1).2.1,()))
theorem ais:∀ s:bX,lL s=true->∃ m e,aA lO m s=some e/\(ve DU s).run=some e:=by
 rintro ⟨⟨c,l,more,⟨⟩,⟨⟩,⟨⟩,i,⟨⟩⟩,⟨src,⟨cw,⟨⟩,⟨⟩,⟨⟩⟩,said,⟨s,co,⟨⟩⟩,out,⟨⟩⟩⟩ h
 obtain ⟨hs,h⟩:=(Bool.and_eq_true _ _).mp h
 obtain ⟨h0,hl,h1,h2,h3,h4,h5⟩:=of_decide_eq_true h
 dsimp only at h0 hl h1 h2 h3 h4 h5 hs
 subst h0 h2 h3 h5
 subst h1
 have hso:=kc hs
 obtain ⟨m,hm⟩:=gY (T:=lO) (λk=>ale cw l more src (k:Int) (wall (IG cw) cw l co k)) l.length (e:=(⟨(.exit 0,ni),(((cw,more,(),(),(),()),(src,(cw,(),(),()),(ln cw l co).2.2,(b8 cw 1,(ln cw l co).1,()),(ln cw l co).2.1,())):fN)⟩:aJ))
  (λk hk=>ap9 hs hk (by omega) (CB (IG cw) cw (G:=Vf) (YC cw) (YD cw) l h4 k) (mG (IG cw) cw l co k).1 (mG (IG cw) cw l co k).2)
  (OT.aw (decide_eq_false (by dsimp only [ale];omega))) 0 (Nat.zero_le _)
 exact ⟨m,_,hm,rfl⟩
def j3 (s:bE):Bool:=ak s.1.1&&decide (s.1.2.2.2.2.2.2.1=0/\s.1.2.1.length<=60/\s.2.2.1.1=s.1.1/\s.2.2.2.1= []/\s.2.2.2.2.1.1=b8 s.1.1 1/\s.2.2.2.2.2.1= []/\s.2.2.2.2.2.2.1.1=64/\s.2.2.2.2.2.2.2.1.length<=128)
def jH (c:Int) (l:List OpY) (d:tS) (w:List UInt8):QH:=wall (Jz c) c l (d,w) l.length
def yv (s:bE):ff:=((s.1.1,s.1.2.2.1,(),(),(),()),(s.2.1,(s.1.1,(),(),()),(jH s.1.1 s.1.2.1 s.2.2.2.2.2.2.1 s.2.2.2.2.2.2.2.1).2.2,(b8 s.1.1 1,(),()),(jH s.1.1 s.1.2.1 s.2.2.2.2.2.2.1 s.2.2.2.2.2.2.2.1).2.1,
 (jH s.1.1 s.1.2.1 s.2.2.2.2.2.2.1 s.2.2.2.2.2.2.2.1).1.1,(jH s.1.1 s.1.2.1 s.2.2.2.2.2.2.1 s.2.2.2.2.2.2.2.1).1.2,()))
theorem acC:∀ s:bE,j3 s=true->∃ m e,aA jg m s=some e/\(qP yv s).run=some e:=by
 rintro ⟨⟨c,l,more,⟨⟩,⟨⟩,⟨⟩,i,⟨⟩⟩,⟨src,⟨cw,⟨⟩,⟨⟩,⟨⟩⟩,said,⟨s,⟨⟩,⟨⟩⟩,out,d,wt,⟨⟩⟩⟩ h
 obtain ⟨hs,h⟩:=(Bool.and_eq_true _ _).mp h
 obtain ⟨h0,hl,h1,h2,h3,h5,h6,h7⟩:=of_decide_eq_true h
 dsimp only at h0 hl h1 h2 h3 h5 h6 h7 hs
 subst h0 h2 h3 h5
 subst h1
 obtain ⟨m,hm⟩:=gY (T:=jg) (λk=>alm cw l more src (k:Int) (wall (Jz cw) cw l (d,wt) k)) l.length (e:=(⟨(.exit 0,kQ),(((cw,more,(),(),(),()),(src,(cw,(),(),()),(jH cw l d wt).2.2,(b8 cw 1,(),()),(jH cw l d wt).2.1,(jH cw l d wt).1.1,(jH cw l d wt).1.2,())):ff)⟩:aJ))
  (λk hk=>aqk hs hk (by omega) (CB (Jz cw) cw (G:=Md) (ZF cw) (ZG cw) l ⟨h6,h7⟩ k) (mG (Jz cw) cw l (d,wt) k).1 (mG (Jz cw) cw l (d,wt) k).2)
  (OT.aw (decide_eq_false (by dsimp only [alm];omega))) 0 (Nat.zero_le _)
 exact ⟨m,_,hm,rfl⟩
def ZD (c:Int) (said:List OpY) (co:List ac) (b:List UInt8):Option (List ac×List UInt8):=IM (IG c) c said (some (co,b))
def lK (s:aZ):Bool:=ak s.1.1&&((ZD s.1.1 s.2.1 s.2.2.2.2.1.2.1 s.2.2.1.2.2.1).isSome&&decide (s.1.2.2.2.2.2.1=0/\s.2.1.length<=60/\s.2.2.1.1=s.1.1/\s.2.2.2.1=n5/\s.2.2.2.2.1.1=b8 s.1.1 1/\s.2.2.2.2.1.2.1.length<=100000))
def DT (_:aZ):iw:=((false,()),())
def vf (_:aZ):Bool:=false
def Ef (c:Int) (said:List OpY) (co:List ac) (b:List UInt8):List ac×List UInt8:=(ZD c said co b).getD (co,b)
def vd (s:aZ):fM:=((s.1.2.1,(),()),((s.1.1,(),(Ef s.1.1 s.2.1 s.2.2.2.2.1.2.1 s.2.2.1.2.2.1).2,()),(b8 s.1.1 1,(Ef s.1.1 s.2.1 s.2.2.2.2.1.2.1 s.2.2.1.2.2.1).1,()),()))
theorem air:∀ s:aZ,lK s=true->∃ m e,aA lN m s=some e/\(oU DT vf vd s).run=some e:=by
 rintro ⟨⟨c,more,⟨⟩,⟨⟩,⟨⟩,i,⟨⟩⟩,⟨said,⟨cw,⟨⟩,b,⟨⟩⟩,zr,⟨s,co,⟨⟩⟩,⟨⟩⟩⟩ h
 obtain ⟨hs,h⟩:=(Bool.and_eq_true _ _).mp h
 obtain ⟨hz,h⟩:=(Bool.and_eq_true _ _).mp h
 obtain ⟨h0,hl,h1,h2,h3,h4⟩:=of_decide_eq_true h
 dsimp only at h0 hl h1 h2 h3 h4 hs hz
 subst h0 h2 h3
 subst h1
 obtain ⟨z,hz⟩:=Option.isSome_iff_exists.1 hz
 have hz':IM (IG cw) cw said (some (co,b))=some z:=hz
 obtain ⟨m,hm⟩:=gY (T:=lN) (λk=>amS cw more said (k:Int) (rk (IG cw) cw said (co,b) k)) said.length (e:=(⟨(.exit 3,nh),(((more,(),()),((cw,(),z.2,()),(b8 cw 1,z.1,()),())):fM)⟩:aJ))
  (λk hk=>asn hs hk (by omega) (TR (IG cw) cw hz' hk) (TT (IG cw) cw (G:=Vf) (YC cw) (YD cw) hz' h4 k (by omega)))
  (by
   rw [apB (IG cw) cw hz']
   exact OT.aw (decide_eq_false (by dsimp only [amS];omega))) 0 (Nat.zero_le _)
 refine ⟨m,_,hm,?_⟩
 have e:Ef cw said co b=z:=by unfold Ef;rw [hz];rfl
 unfold oU vf vd
 dsimp only
 rw [e]
 rfl
def L7 (c:Int) (said:List OpY) (d:tS) (w b:List UInt8):Option ((tS×List UInt8)×List UInt8):=IM (Jz c) c said (some ((d,w),b))
def j2 (s:aO):Bool:=ak s.1.1&&((L7 s.1.1 s.2.1 s.2.2.2.2.2.1 s.2.2.2.2.2.2.1 s.2.2.1.2.2.1).isSome&&decide (s.1.2.2.2.2.2.1=0/\s.2.1.length<=60/\s.2.2.1.1=s.1.1/\s.2.2.2.1=n5/\s.2.2.2.2.1.1=b8 s.1.1 1/\s.2.2.2.2.2.1.1=64/\s.2.2.2.2.2.2.1.length<=128))
def yu (_:aO):gv:=((false,()),())
def qQ (_:aO):Bool:=false
def o4 (c:Int) (said:List OpY) (d:tS) (w b:List UInt8):(tS×List UInt8)×List UInt8:=(L7 c said d w b).getD ((d,w),b)
def qO (s:aO):fe:=((s.1.2.1,(),()),((s.1.1,(),(o4 s.1.1 s.2.1 s.2.2.2.2.2.1 s.2.2.2.2.2.2.1 s.2.2.1.2.2.1).2,()),(b8 s.1.1 1,(),()),(o4 s.1.1 s.2.1 s.2.2.2.2.2.1 s.2.2.2.2.2.2.1 s.2.2.1.2.2.1).1.1,(o4 s.1.1 s.2.1 s.2.2.2.2.2.1 s.2.2.2.2.2.2.1 s.2.2.1.2.2.1).1.2,()))
theorem acB:∀ s:aO,j2 s=true->∃ m e,aA jf m s=some e/\(lM yu qQ qO s).run=some e:=by
 rintro ⟨⟨c,more,⟨⟩,⟨⟩,⟨⟩,i,⟨⟩⟩,⟨said,⟨cw,⟨⟩,b,⟨⟩⟩,zr,⟨s,⟨⟩,⟨⟩⟩,d,wt,⟨⟩⟩⟩ h
 obtain ⟨hs,h⟩:=(Bool.and_eq_true _ _).mp h
 obtain ⟨hz,h⟩:=(Bool.and_eq_true _ _).mp h
 obtain ⟨h0,hl,h1,h2,h3,h4,h5⟩:=of_decide_eq_true h
 dsimp only at h0 hl h1 h2 h3 h4 h5 hs hz
 subst h0 h2 h3
 subst h1
 obtain ⟨z,hz⟩:=Option.isSome_iff_exists.1 hz
 have hz':IM (Jz cw) cw said (some ((d,wt),b))=some z:=hz
 obtain ⟨m,hm⟩:=gY (T:=jf) (λk=>amZ cw more said (k:Int) (rk (Jz cw) cw said ((d,wt),b) k)) said.length (e:=(⟨(.exit 3,kP),(((more,(),()),((cw,(),z.2,()),(b8 cw 1,(),()),z.1.1,z.1.2,())):fe)⟩:aJ))
  (λk hk=>asu hs hk (by omega) (TR (Jz cw) cw hz' hk) (TT (Jz cw) cw (G:=Md) (ZF cw) (ZG cw) hz' ⟨h4,h5⟩ k (by omega)))
  (by
   rw [apB (Jz cw) cw hz']
   exact OT.aw (decide_eq_false (by dsimp only [amZ];omega))) 0 (Nat.zero_le _)
 refine ⟨m,_,hm,?_⟩
 have e:o4 cw said d wt b=z:=by unfold o4;rw [hz];rfl
 unfold lM qQ qO
 dsimp only
 rw [e]
 rfl
theorem agW {c:Int} (hs:ak c=true) (l:List OpY) (co:List ac) (more:List UInt8):ZD c (ln c l co).2.2 co ((ln c l co).2.1++more)=some ((ln c l co).1,more):=xn (IG c) c (kc hs) (amI c) l co l.length more
theorem aiQ {c:Int} (hs:ak c=true) (l:List OpY) (d:tS) (w more:List UInt8):L7 c (jH c l d w).2.2 d w ((jH c l d w).2.1++more)=some ((jH c l d w).1,more):=xn (Jz c) c (kc hs) (anW c) l (d,w) l.length more
def lJ (x:yz):Bool:=decide (x.1.2.1.2.length*32<=140737488355328/\x.1.2.2.2.1.length<=140737488351232)
def Zr (_:yz):OT dp.Y:=.ok ⟨bR,((true,()),())⟩
theorem aiq:aa Try.prog 4 (dp.aD lJ Zr):=US lL DU j3 yv lK DT vf vd j2 yu qQ qO ais acC air acB _ _ λx oy hp ho=>by
 rw [<-ho]
 clear ho
 obtain ⟨⟨c,⟨m,tp⟩,l,more,⟨⟩⟩,⟨⟩⟩:=x
 show (vg lL DU j3 yv lK DT vf vd j2 yu qQ qO c (m,tp) l more).run=some ⟨bR,((true,()),())⟩
 obtain ⟨hp1,hp2⟩:=of_decide_eq_true hp
 have hp2:more.length<=140737488351232:=hp2
 have hc:eX (((m,tp),()),())=true:=decide_eq_true hp1
 have lt:(l.take 60).length<=60:=by rw [List.length_take];omega
 unfold vg
 dsimp only
 generalize l.take 60=l at lt
 refine (ah (by rw [hc];rfl)).trans ?_
 rcases (Bool.eq_false_or_eq_true (bM c m tp.length==0)).symm with h|h
 ·have q:(!(bM c m tp.length==0))=true:=by rw [h];rfl
  refine (OT.aw h).trans ((OT.au q).trans ?_)
  exact congrArg (λb:Bool=>some (⟨bR,((b,()),())⟩:dp.Y)) q
 ·obtain ⟨hs,hn⟩:=ah7 h
  refine (OT.au h).trans ?_
  rcases (Bool.eq_false_or_eq_true (m==1)).symm with g|g
  ·refine (OT.aw g).trans ?_
   have hk:j3 ((c,l,more,(),(),(),0,()),((m,tp,()),(c,(),(),()),[],(b8 c 1,(),()),[],cG,[],()))=true:=(Bool.and_eq_true _ _).mpr ⟨hs,decide_eq_true ⟨rfl,lt,rfl,rfl,rfl,rfl,rfl,Nat.zero_le _⟩⟩
   have hl:=mG (Jz c) c l (cG,[]) l.length
   have hh:=aiQ hs l cG [] more
   show (gd [j3 ((c,l,more,(),(),(),0,()),((m,tp,()),(c,(),(),()),[],(b8 c 1,(),()),[],cG,[],())),lS (((),()),(c,(),(),()),(b8 c 1,(),()),(jH c l cG []).1.1,(jH c l cG []).2.1,(jH c l cG []).1.2,()),
    decide (((jH c l cG []).2.1.length+more.length)*1<=140737488355328),eX (((m,tp),()),()),im ((c,(m,tp),(jH c l cG []).2.1++more,()),())] (.br (bM c m tp.length==0) (.br (m==1) _
     (gd [j2 ((c,more,(),(),(),0,()),((jH c l cG []).2.2,(c,(),(jH c l cG []).2.1++more,()),n5,(b8 c 1,(),()),cG,[],()))]
      (.br false _ (.ok ⟨bR,((((o4 c (jH c l cG []).2.2 cG [] ((jH c l cG []).2.1++more)).2.length:Int)==(more.length:Int),()),())⟩)))) _):OT dp.Y).run=_
   have hl:(jH c l cG []).2.1.length<=32*l.length/\(jH c l cG []).2.2.length<=l.length:=hl
   generalize jH c l cG []=q at*
   have p1:lS (((),()),(c,(),(),()),(b8 c 1,(),()),q.1.1,q.2.1,q.1.2,())=true:=decide_eq_true (show q.2.1.length<=_ by omega)
   have p2:im ((c,(m,tp),q.2.1++more,()),())=true:=decide_eq_true (show (q.2.1++more).length<=_ by rw [List.length_append];omega)
   have p3:j2 ((c,more,(),(),(),0,()),(q.2.2,(c,(),q.2.1++more,()),n5,(b8 c 1,(),()),cG,[],()))=true:=
    (Bool.and_eq_true _ _).mpr ⟨hs,(Bool.and_eq_true _ _).mpr ⟨by show (L7 c q.2.2 cG [] (q.2.1++more)).isSome=true;rw [hh];rfl,decide_eq_true ⟨rfl,by show q.2.2.length<=60;omega,rfl,rfl,rfl,rfl,Nat.zero_le _⟩⟩⟩
   have p4:o4 c q.2.2 cG [] (q.2.1++more)=(q.1,more):=by unfold o4;rw [hh];rfl
   rw [p4]
   refine (ah (by rw [hk,p1,hc,p2,decide_eq_true (show (q.2.1.length+more.length)*1<=140737488355328 by omega)];rfl)).trans ((OT.au h).trans ((OT.aw g).trans ((ah (by rw [p3];rfl)).trans ((OT.aw rfl).trans ?_))))
   exact congrArg (λb:Bool=>some (⟨bR,((b,()),())⟩:dp.Y)) (beq_self_eq_true (more.length:Int))
  ·refine (OT.au g).trans ?_
   have hk:lL ((c,l,more,(),(),(),0,()),((m,tp,()),(c,(),(),()),[],(b8 c 1,tp,()),[],()))=true:=(Bool.and_eq_true _ _).mpr ⟨hs,decide_eq_true ⟨rfl,lt,rfl,rfl,rfl,hn,rfl⟩⟩
   have hl:=mG (IG c) c l tp l.length
   have hh:=agW hs l tp more
   show (gd [lL ((c,l,more,(),(),(),0,()),((m,tp,()),(c,(),(),()),[],(b8 c 1,tp,()),[],())),lm (((),()),(c,(),(),()),(b8 c 1,(ln c l tp).1,()),(ln c l tp).2.1,()),
    decide (((ln c l tp).2.1.length+more.length)*1<=140737488355328),eX (((m,tp),()),()),im ((c,(m,tp),(ln c l tp).2.1++more,()),())] (.br (bM c m tp.length==0) (.br (m==1)
     (gd [lK ((c,more,(),(),(),0,()),((ln c l tp).2.2,(c,(),(ln c l tp).2.1++more,()),n5,(b8 c 1,tp,()),()))]
      (.br false _ (.ok ⟨bR,((((Ef c (ln c l tp).2.2 tp ((ln c l tp).2.1++more)).2.length:Int)==(more.length:Int),()),())⟩))) _) _):OT dp.Y).run=_
   have hl:(ln c l tp).2.1.length<=32*l.length/\(ln c l tp).2.2.length<=l.length:=hl
   generalize ln c l tp=q at*
   have p1:lm (((),()),(c,(),(),()),(b8 c 1,q.1,()),q.2.1,())=true:=decide_eq_true (show q.2.1.length<=_ by omega)
   have p2:im ((c,(m,tp),q.2.1++more,()),())=true:=decide_eq_true (show (q.2.1++more).length<=_ by rw [List.length_append];omega)
   have p3:lK ((c,more,(),(),(),0,()),(q.2.2,(c,(),q.2.1++more,()),n5,(b8 c 1,tp,()),()))=true:=
    (Bool.and_eq_true _ _).mpr ⟨hs,(Bool.and_eq_true _ _).mpr ⟨by show (ZD c q.2.2 tp (q.2.1++more)).isSome=true;rw [hh];rfl,decide_eq_true ⟨rfl,by show q.2.2.length<=60;omega,rfl,rfl,rfl,hn⟩⟩⟩
   have p4:Ef c q.2.2 tp (q.2.1++more)=(q.1,more):=by unfold Ef;rw [hh];rfl
   rw [p4]
   refine (ah (by rw [hk,p1,hc,p2,decide_eq_true (show (q.2.1.length+more.length)*1<=140737488355328 by omega)];rfl)).trans ((OT.au h).trans ((OT.au g).trans ((ah (by rw [p3];rfl)).trans ((OT.aw rfl).trans ?_))))
   exact congrArg (λb:Bool=>some (⟨bR,((b,()),())⟩:dp.Y)) (beq_self_eq_true (more.length:Int))
def UR:bI:=(dp.aD lJ Zr)
theorem PG:aa Try.prog 4 UR:=aiq
end Go.Proofs.Ythgjhpbapddpnaa

namespace Go.Proofs.Ythgjhpbapddpnaa
namespace Sx
open Go Go.RowKit Go.ChangeShapes Go.WideShapes Go.ChangeAt
theorem UW {H:Type} {enc:TypeId×Value->H} {P:Program} {te:TE} (hte:kA P te) {w:World} {sp:Nat->Bool} {T e:TypeId} {ti ei:TI} (hT:te T=some ti) (hd:ti.desc=.slice e) (hei:te e=some ei) {t:Ty} {F:Ctx} {x:List t.T} {v:Value} {d:DataW H} {ps:List MemPlace}
 (hx:Rep F.F (.list t) x [v]) (h:DataW.Trod enc P w 0 sp true T v d ps) (hw:(d.weights P T).all (· <=reachBytes)=true):x.length*ei.bytes<=reachBytes:=by
 simp only [Rep] at hx
 obtain ⟨_,ad,cap,hv,_⟩:=hx
 cases hv
 exact C7 hte hT hd hei h λn hn=>by simpa using List.all_eq_true.1 hw n hn
end Sx
end Go.Proofs.Ythgjhpbapddpnaa

namespace Go.Proofs.Ythgjhpbapddpnaa
namespace Sx
open Go Go.RowKit Go.ChangeShapes Go.WideShapes Go.ChangeAt
theorem acm {H:Type} {enc:TypeId×Value->H} {P:Program} {w:World} {sp:Nat->Bool} {T:TypeId} {fs:Array Field} {f0 f1:Field} (hu:P.underlying T=some (.struct fs)) (hfs:fs.toList= [f0,f1]) (ho:f1.offset=1) (hc:P.cellsOf f1.type=1)
 {v c0 c1:Value} (hv:v.cells.toList= [c0,c1]) (h1:c1.cells.toList= [c1]) {d:DataW H} {ps:List MemPlace} (h:DataW.Trod enc P w 0 sp true T v d ps) (hw:∀ n ∈ d.weights P T,n<=reachBytes):
 ∃ d1 p1,DataW.Trod enc P w 0 sp true f1.type c1 d1 p1/\∀ n ∈ d1.weights P f1.type,n<=reachBytes:=by
 obtain ⟨fuel,hr⟩:=h
 rw [hv] at hr
 cases fuel with
 |zero=>simp [DataW.trod] at hr
 |succ fuel=>
  simp only [DataW.trod,hu,hfs] at hr
  split at hr
  ·simp only [List.mapM_cons,List.mapM_nil,Option.map_eq_some_iff,Option.bind_eq_bind,Option.bind_eq_some_iff,Option.pure_def] at hr
   obtain ⟨xs,⟨x0,_,ys,⟨x1,hx1,zs,hz,hy⟩,hxs⟩,hd⟩:=hr
   cases hz
   cases hy
   cases hxs
   cases hd
   refine ⟨x1.1,x1.2,⟨fuel,?_⟩,λn hn=>hw n ?_⟩
   ·rw [h1]
    rw [ho,hc] at hx1
    exact hx1
   ·simp only [DataW.weights,hu,hfs,List.map_cons,List.map_nil,DataW.weightsEach,List.append_nil,List.mem_append]
    exact .inr hn
  ·cases hr
def au8 (P:Program) (T T1:TypeId):Bool:=match P.underlying T with
 |some (.struct fs)=>match fs.toList with
  | [_,f1]=>Nat.beq f1.offset 1&&(Nat.beq f1.type T1&&Nat.beq (P.cellsOf T1) 1)
  |_=>false
 |_=>false
theorem asS {H:Type} {enc:TypeId×Value->H} {P:Program} {w:World} {sp:Nat->Bool} {T T1:TypeId} (hb:au8 P T T1=true)
 {v c0 c1:Value} (hv:v.cells.toList= [c0,c1]) (h1:c1.cells.toList= [c1]) {d:DataW H} {ps:List MemPlace} (h:DataW.Trod enc P w 0 sp true T v d ps) (hw:∀ n ∈ d.weights P T,n<=reachBytes):
 ∃ d1 p1,DataW.Trod enc P w 0 sp true T1 c1 d1 p1/\∀ n ∈ d1.weights P T1,n<=reachBytes:=by
 unfold au8 at hb
 split at hb
 ·rename_i fs hu
  split at hb
  ·rename_i f0 f1 hfs
   simp only [Bool.and_eq_true] at hb
   have h0:=Nat.eq_of_beq_eq_true hb.1
   have h2:f1.type=T1:=Nat.eq_of_beq_eq_true hb.2.1
   have h3:=Nat.eq_of_beq_eq_true hb.2.2
   subst h2
   exact acm hu hfs h0 h3 hv h1 h hw
  ·cases hb
 ·cases hb
end Sx
end Go.Proofs.Ythgjhpbapddpnaa
