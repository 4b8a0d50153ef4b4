/- A symbolic machine for Go code over plain data, and functions of the program as it shows them. No statement is proved in this file. -/
import Derived.KernelRfl
import Derived.Test.YtohjofabochgfaaGreatXe
set_option linter.unusedSimpArgs false
set_option linter.unusedVariables false
set_option linter.unusedSectionVars false

namespace Go.Proofs.YtohjofabochgfaaGreat
open Sx Go
set_option maxRecDepth 100000
def eJ:aw:=⟨[.val false .int,.val false (.list Ic),.val false .int],[],true,0,false⟩
abbrev pi:Type:=((Int)×(List ((aa×(aa×(aa×Bool)))))×(Int)×Unit)×(Unit)
def mj:Shape:=⟨74,[(0,.val false .int),(1,.val false (.list (.prod .elem (.prod .elem (.prod .elem .bool))))),(2,.val false .int),(6,.ptr 0 0 0),(7,.ptr 1 0 0),(16,.val false .int)],[(0,.cells [.val false .u64,.val false .u64,.val false .u64,.val false .u64,.val false .u64,.val false .u64,.val false .u64,.val false .u64,.val false .bool]),(1,.row (.prod .elem (.prod .elem .bool)))],0,true⟩
abbrev bx:Type:=((Int)×(List ((aa×(aa×(aa×Bool)))))×(Int)×(Unit)×(Unit)×(Int)×Unit)×(((UInt64)×(UInt64)×(UInt64)×(UInt64)×(UInt64)×(UInt64)×(UInt64)×(UInt64)×(Bool)×Unit)×(List ((aa×(aa×Bool))))×Unit)
def kR:Shape:=⟨74,[(0,.val false .int),(1,.val false (.list (.prod .elem (.prod .elem (.prod .elem .bool))))),(2,.val false .int),(6,.ptr 0 0 0),(7,.ptr 1 0 0)],[(0,.cells [.val false .u64,.val false .u64,.val false .u64,.val false .u64,.val false .u64,.val false .u64,.val false .u64,.val false .u64,.val false .bool]),(1,.row (.prod .elem (.prod .elem .bool)))],0,true⟩
abbrev fw:Type:=((Int)×(List ((aa×(aa×(aa×Bool)))))×(Int)×(Unit)×(Unit)×Unit)×(((UInt64)×(UInt64)×(UInt64)×(UInt64)×(UInt64)×(UInt64)×(UInt64)×(UInt64)×(Bool)×Unit)×(List ((aa×(aa×Bool))))×Unit)
def Lv:SE->Option Shape:=fp [(0,kR)] none
def aeQ (a0:Int) (a1:List ((aa×(aa×(aa×Bool))))) (a2:Int) (a16:Int) (c0_0:UInt64) (c0_1:UInt64) (c0_2:UInt64) (c0_3:UInt64) (c0_4:UInt64) (c0_5:UInt64) (c0_6:UInt64) (c0_7:UInt64) (c0_8:Bool) (c1:List ((aa×(aa×Bool)))):OT (Sum bx aE):=
 let z0:aa:= {w0:=0,w1:=0,w2:=0,w3:=0}
 (.br (decide (a16<(15:Int)))
 (gd [inB a16 15,decide (Int.toNat a16+0<List.length c1),inR (a16+(1:Int))] (.ok (.inl ((a0,(a1,(a2,((),((),(a16+(1:Int),())))))),((c0_0,(c0_1,(c0_2,(c0_3,(c0_4,(c0_5,(c0_6,(c0_7,(c0_8,()))))))))),(List.set c1 (Int.toNat a16+0) (z0,z0,true),()))))))
 (.ok (.inr ⟨(.exit 0,kR),((a0,(a1,(a2,((),((),()))))),((c0_0,(c0_1,(c0_2,(c0_3,(c0_4,(c0_5,(c0_6,(c0_7,(c0_8,()))))))))),(c1,())))⟩)))
def mn (s:bx):OT (Sum bx aE):=aeQ (s.1.1) (s.1.2.1) (s.1.2.2.1) (s.1.2.2.2.2.2.1) (s.2.1.1) (s.2.1.2.1) (s.2.1.2.2.1) (s.2.1.2.2.2.1) (s.2.1.2.2.2.2.1) (s.2.1.2.2.2.2.2.1) (s.2.1.2.2.2.2.2.2.1) (s.2.1.2.2.2.2.2.2.2.1) (s.2.1.2.2.2.2.2.2.2.2.1) (s.2.2.1)
theorem aeI (s:bx) (Q:Sum bx aE->Prop):wps te Dm av 1000 (aV (aj Tryz.f162) 0) (mj.inj s) (bV mj Lv (Q:Sum mj.T aE->Prop))=(mn s).wpR Q:=by kernel_rfl
def re (g0_0:bx->fw) (s:bx):OT aE:=(.ok ⟨(.exit 0,kR),g0_0 s⟩)
def mi:Shape:=⟨74,[(0,.val false .int),(2,.val false .int),(6,.ptr 0 0 0),(7,.ptr 1 0 0),(23,.val false (.list (.prod .elem (.prod .elem (.prod .elem .bool))))),(24,.val false .int),(25,.val false .int)],[(0,.cells [.val false .u64,.val false .u64,.val false .u64,.val false .u64,.val false .u64,.val false .u64,.val false .u64,.val false .u64,.val false .bool]),(1,.row (.prod .elem (.prod .elem .bool)))],0,true⟩
abbrev bw:Type:=((Int)×(Int)×(Unit)×(Unit)×(List ((aa×(aa×(aa×Bool)))))×(Int)×(Int)×Unit)×(((UInt64)×(UInt64)×(UInt64)×(UInt64)×(UInt64)×(UInt64)×(UInt64)×(UInt64)×(Bool)×Unit)×(List ((aa×(aa×Bool))))×Unit)
def mh:Shape:=⟨74,[(0,.val false .int),(2,.val false .int),(6,.ptr 0 0 0),(7,.ptr 1 0 0),(10,.ptr 2 0 0),(11,.val false .int),(23,.val false (.list (.prod .elem (.prod .elem (.prod .elem .bool))))),(24,.val false .int),(25,.val false .int),(29,.val false .int)],[(0,.cells [.val false .u64,.val false .u64,.val false .u64,.val false .u64,.val false .u64,.val false .u64,.val false .u64,.val false .u64,.val false .bool]),(1,.row (.prod .elem (.prod .elem .bool))),(2,.cells [.val false .u64,.val false .u64,.val false .u64,.val false .u64,.val false .u64,.val false .u64,.val false .u64,.val false .u64,.val false .u64,.val false .u64,.val false .u64,.val false .u64,.val false .bool])],0,true⟩
abbrev aT:Type:=((Int)×(Int)×(Unit)×(Unit)×(Unit)×(Int)×(List ((aa×(aa×(aa×Bool)))))×(Int)×(Int)×(Int)×Unit)×(((UInt64)×(UInt64)×(UInt64)×(UInt64)×(UInt64)×(UInt64)×(UInt64)×(UInt64)×(Bool)×Unit)×(List ((aa×(aa×Bool))))×((UInt64)×(UInt64)×(UInt64)×(UInt64)×(UInt64)×(UInt64)×(UInt64)×(UInt64)×(UInt64)×(UInt64)×(UInt64)×(UInt64)×(Bool)×Unit)×Unit)
def kP:Shape:=⟨74,[(0,.val false .int),(2,.val false .int),(6,.ptr 0 0 0),(7,.ptr 1 0 0),(10,.ptr 2 0 0),(11,.val false .int),(23,.val false (.list (.prod .elem (.prod .elem (.prod .elem .bool))))),(24,.val false .int),(25,.val false .int)],[(0,.cells [.val false .u64,.val false .u64,.val false .u64,.val false .u64,.val false .u64,.val false .u64,.val false .u64,.val false .u64,.val false .bool]),(1,.row (.prod .elem (.prod .elem .bool))),(2,.cells [.val false .u64,.val false .u64,.val false .u64,.val false .u64,.val false .u64,.val false .u64,.val false .u64,.val false .u64,.val false .u64,.val false .u64,.val false .u64,.val false .u64,.val false .bool])],0,true⟩
abbrev cL:Type:=((Int)×(Int)×(Unit)×(Unit)×(Unit)×(Int)×(List ((aa×(aa×(aa×Bool)))))×(Int)×(Int)×Unit)×(((UInt64)×(UInt64)×(UInt64)×(UInt64)×(UInt64)×(UInt64)×(UInt64)×(UInt64)×(Bool)×Unit)×(List ((aa×(aa×Bool))))×((UInt64)×(UInt64)×(UInt64)×(UInt64)×(UInt64)×(UInt64)×(UInt64)×(UInt64)×(UInt64)×(UInt64)×(UInt64)×(UInt64)×(Bool)×Unit)×Unit)
def Lt:SE->Option Shape:=fp [(4,kP)] none
def aeP (a0:Int) (a2:Int) (a11:Int) (a23:List ((aa×(aa×(aa×Bool))))) (a24:Int) (a25:Int) (a29:Int) (c0_0:UInt64) (c0_1:UInt64) (c0_2:UInt64) (c0_3:UInt64) (c0_4:UInt64) (c0_5:UInt64) (c0_6:UInt64) (c0_7:UInt64) (c0_8:Bool) (c1:List ((aa×(aa×Bool)))) (c2_0:UInt64) (c2_1:UInt64) (c2_2:UInt64) (c2_3:UInt64) (c2_4:UInt64) (c2_5:UInt64) (c2_6:UInt64) (c2_7:UInt64) (c2_8:UInt64) (c2_9:UInt64) (c2_10:UInt64) (c2_11:UInt64) (c2_12:Bool):OT (Sum aT aE):=
 let z0:Bool:=inR (a29+(1:Int))
 (.br (decide (a29<(4:Int)))
 (gd [inR (a2+a29)] (.br (xT {w0:=c2_0,w1:=c2_1,w2:=c2_2,w3:=c2_3} (a2+a29))
  (gd [decide ((0:Int)<=a29),z0] (.ok (.inl ((a0,(a2,((),((),((),(ior a11 (ax8 (1:Int) a29),(a23,(a24,(a25,(a29+(1:Int),())))))))))),((c0_0,(c0_1,(c0_2,(c0_3,(c0_4,(c0_5,(c0_6,(c0_7,(c0_8,()))))))))),(c1,((c2_0,(c2_1,(c2_2,(c2_3,(c2_4,(c2_5,(c2_6,(c2_7,(c2_8,(c2_9,(c2_10,(c2_11,(c2_12,()))))))))))))),())))))))
  (gd [z0] (.ok (.inl ((a0,(a2,((),((),((),(a11,(a23,(a24,(a25,(a29+(1:Int),())))))))))),((c0_0,(c0_1,(c0_2,(c0_3,(c0_4,(c0_5,(c0_6,(c0_7,(c0_8,()))))))))),(c1,((c2_0,(c2_1,(c2_2,(c2_3,(c2_4,(c2_5,(c2_6,(c2_7,(c2_8,(c2_9,(c2_10,(c2_11,(c2_12,()))))))))))))),())))))))))
 (.ok (.inr ⟨(.exit 4,kP),((a0,(a2,((),((),((),(a11,(a23,(a24,(a25,()))))))))),((c0_0,(c0_1,(c0_2,(c0_3,(c0_4,(c0_5,(c0_6,(c0_7,(c0_8,()))))))))),(c1,((c2_0,(c2_1,(c2_2,(c2_3,(c2_4,(c2_5,(c2_6,(c2_7,(c2_8,(c2_9,(c2_10,(c2_11,(c2_12,()))))))))))))),()))))⟩)))
def mm (s:aT):OT (Sum aT aE):=aeP (s.1.1) (s.1.2.1) (s.1.2.2.2.2.2.1) (s.1.2.2.2.2.2.2.1) (s.1.2.2.2.2.2.2.2.1) (s.1.2.2.2.2.2.2.2.2.1) (s.1.2.2.2.2.2.2.2.2.2.1) (s.2.1.1) (s.2.1.2.1) (s.2.1.2.2.1) (s.2.1.2.2.2.1) (s.2.1.2.2.2.2.1) (s.2.1.2.2.2.2.2.1) (s.2.1.2.2.2.2.2.2.1) (s.2.1.2.2.2.2.2.2.2.1) (s.2.1.2.2.2.2.2.2.2.2.1) (s.2.2.1) (s.2.2.2.1.1) (s.2.2.2.1.2.1) (s.2.2.2.1.2.2.1) (s.2.2.2.1.2.2.2.1) (s.2.2.2.1.2.2.2.2.1) (s.2.2.2.1.2.2.2.2.2.1) (s.2.2.2.1.2.2.2.2.2.2.1) (s.2.2.2.1.2.2.2.2.2.2.2.1) (s.2.2.2.1.2.2.2.2.2.2.2.2.1) (s.2.2.2.1.2.2.2.2.2.2.2.2.2.1) (s.2.2.2.1.2.2.2.2.2.2.2.2.2.2.1) (s.2.2.2.1.2.2.2.2.2.2.2.2.2.2.2.1) (s.2.2.2.1.2.2.2.2.2.2.2.2.2.2.2.2.1)
theorem aeG (s:aT) (Q:Sum aT aE->Prop):wps te Dm av 1000 (aV (aV (aj Tryz.f162) 2) 4) (mh.inj s) (bV mh Lt (Q:Sum mh.T aE->Prop))=(mm s).wpR Q:=by kernel_rfl
def rb (g4_4:aT->cL) (s:aT):OT aE:=(.ok ⟨(.exit 4,kP),g4_4 s⟩)
def kQ:Shape:=⟨74,[(0,.val false .int),(6,.ptr 0 0 0),(7,.ptr 1 0 0)],[(0,.cells [.val false .u64,.val false .u64,.val false .u64,.val false .u64,.val false .u64,.val false .u64,.val false .u64,.val false .u64,.val false .bool]),(1,.row (.prod .elem (.prod .elem .bool)))],0,true⟩
abbrev fv:Type:=((Int)×(Unit)×(Unit)×Unit)×(((UInt64)×(UInt64)×(UInt64)×(UInt64)×(UInt64)×(UInt64)×(UInt64)×(UInt64)×(Bool)×Unit)×(List ((aa×(aa×Bool))))×Unit)
def Lu:SE->Option Shape:=fp [(2,kQ)] none
def Lz (ok4:aT->Bool) (g4_4:aT->cL) (a0:Int) (a2:Int) (a23:List ((aa×(aa×(aa×Bool))))) (a24:Int) (a25:Int) (c0_0:UInt64) (c0_1:UInt64) (c0_2:UInt64) (c0_3:UInt64) (c0_4:UInt64) (c0_5:UInt64) (c0_6:UInt64) (c0_7:UInt64) (c0_8:Bool) (c1:List ((aa×(aa×Bool)))):OT (Sum bw aE):=
 let z0:aa:= {w0:=0,w1:=0,w2:=0,w3:=0}
 let z1:aa×aa×Bool:=(z0,z0,false)
 let z2:aa×aa×aa×Bool:=List.getD a23 (Int.toNat a25) (z0,z1)
 let z3:=z2.fst
 let z4:=z2.snd
 let z5:=z4.fst
 let z6:=z4.snd
 let z7:=z6.fst
 let z8:(Int×Int×PUnit×PUnit×PUnit×Int×List (aa×aa×aa×Bool)×Int×Int×Int×PUnit)×(UInt64×UInt64×UInt64×UInt64×UInt64×UInt64×UInt64×UInt64×Bool×PUnit)×List (aa×aa×Bool)×(UInt64×UInt64×UInt64×UInt64×UInt64×UInt64×UInt64×UInt64×UInt64×UInt64×UInt64×UInt64×Bool×PUnit)×PUnit:=((a0,a2,(),(),(),(0:Int),a23,a24,a25,(0:Int),()),(c0_0,c0_1,c0_2,c0_3,c0_4,c0_5,c0_6,c0_7,c0_8,()),c1,(z3.w0,z3.w1,z3.w2,z3.w3,z5.w0,z5.w1,z5.w2,z5.w3,z7.w0,z7.w1,z7.w2,z7.w3,z6.snd,()),())
 let z9:(Int×Int×PUnit×PUnit×PUnit×Int×List (aa×aa×aa×Bool)×Int×Int×PUnit)×(UInt64×UInt64×UInt64×UInt64×UInt64×UInt64×UInt64×UInt64×Bool×PUnit)×List (aa×aa×Bool)×(UInt64×UInt64×UInt64×UInt64×UInt64×UInt64×UInt64×UInt64×UInt64×UInt64×UInt64×UInt64×Bool×PUnit)×PUnit:=g4_4 z8
 let z10:=z9.fst
 let z11:=z10.snd
 let z12:=z11.snd.snd.snd.snd
 let z13:=z12.fst
 let z14:Bool:=inR (z13-(1:Int))
 let z15:Bool:=inB (z13-(1:Int)) 15
 let z16:=z9.snd
 let z17:=z16.snd
 let z18:=z17.fst
 let z19:Bool:=decide (Int.toNat (z13-(1:Int))+0<List.length z18)
 let z20:=z12.snd
 let z21:=z20.snd
 let z22:Bool:=inR (z21.snd.fst+(1:Int))
 let z23:=z10.fst
 let z24:=z11.fst
 let z25:=z20.fst
 let z26:=z21.fst
 let z27:=z16.fst
 let z28:=z27.fst
 let z29:=z27.snd
 let z30:=z29.fst
 let z31:=z29.snd
 let z32:=z31.fst
 let z33:=z31.snd
 let z34:=z33.fst
 let z35:=z33.snd
 let z36:=z35.fst
 let z37:=z35.snd
 let z38:=z37.fst
 let z39:=z37.snd
 let z40:=z39.fst
 let z41:=z39.snd
 let z42:=z41.fst
 let z43:=z41.snd.fst
 let z44:=z17.snd.fst.snd.snd.snd.snd
 let z45:=z44.snd
 let z46:=z45.snd
 let z47:=z46.snd
 let z48:=z47.snd
 let z49:=z48.snd
 let z50:=z49.snd
 let z51:=z50.snd
 (.br (decide (a25<a24))
 (gd [inB a25 (List.length a23),ok4 z8] (.br (decide ((0:Int)<z13))
  (gd [z14,z14,z15,z19,z15,z19,z22] (.ok (.inl ((z23,(z24,((),((),(z25,(z26,(z21.snd.fst+(1:Int),()))))))),((z28,(z30,(z32,(z34,(z36,(z38,(z40,(z42,(z43,()))))))))),(List.set z18 (Int.toNat (z13-(1:Int))+0) (kW z23 (List.getD z18 (Int.toNat (z13-(1:Int))+0) z1) ({w0:=z44.fst,w1:=z45.fst,w2:=z46.fst,w3:=z47.fst},{w0:=z48.fst,w1:=z49.fst,w2:=z50.fst,w3:=z51.fst},z51.snd.fst)),()))))))
  (gd [z22] (.ok (.inl ((z23,(z24,((),((),(z25,(z26,(z21.snd.fst+(1:Int),()))))))),((z28,(z30,(z32,(z34,(z36,(z38,(z40,(z42,(z43,()))))))))),(z18,()))))))))
 (.ok (.inr ⟨(.exit 2,kQ),((a0,((),((),()))),((c0_0,(c0_1,(c0_2,(c0_3,(c0_4,(c0_5,(c0_6,(c0_7,(c0_8,()))))))))),(c1,())))⟩)))
def gR (ok4:aT->Bool) (g4_4:aT->cL) (s:bw):OT (Sum bw aE):=Lz ok4 g4_4 (s.1.1) (s.1.2.1) (s.1.2.2.2.2.1) (s.1.2.2.2.2.2.1) (s.1.2.2.2.2.2.2.1) (s.2.1.1) (s.2.1.2.1) (s.2.1.2.2.1) (s.2.1.2.2.2.1) (s.2.1.2.2.2.2.1) (s.2.1.2.2.2.2.2.1) (s.2.1.2.2.2.2.2.2.1) (s.2.1.2.2.2.2.2.2.2.1) (s.2.1.2.2.2.2.2.2.2.2.1) (s.2.2.1)
theorem aeH (ok4:aT->Bool) (g4_4:aT->cL) (s:bw) (Q:Sum bw aE->Prop):wps te Dm (aO 4 (cb mh 4 ok4 (rb g4_4)) av) 1000 (aV (aj Tryz.f162) 2) (mi.inj s) (bV mi Lu (Q:Sum mi.T aE->Prop))=(gR ok4 g4_4 s).wpR Q:=by kernel_rfl
def rc (g2_2:bw->fv) (s:bw):OT aE:=(.ok ⟨(.exit 2,kQ),g2_2 s⟩)
def mg:Shape:=⟨74,[(0,.val false .int),(6,.ptr 0 0 0),(7,.ptr 1 0 0),(13,.ptr 2 0 0),(14,.ptr 3 0 0),(15,.val false .int)],[(0,.cells [.val false .u64,.val false .u64,.val false .u64,.val false .u64,.val false .u64,.val false .u64,.val false .u64,.val false .u64,.val false .bool]),(1,.row (.prod .elem (.prod .elem .bool))),(2,.cells [.val false .u64,.val false .u64,.val false .u64,.val false .u64,.val false .u64,.val false .u64,.val false .u64,.val false .u64,.val false .bool]),(3,.cells [.val false .u64,.val false .u64,.val false .u64,.val false .u64,.val false .u64,.val false .u64,.val false .u64,.val false .u64,.val false .bool])],0,true⟩
abbrev bu:Type:=((Int)×(Unit)×(Unit)×(Unit)×(Unit)×(Int)×Unit)×(((UInt64)×(UInt64)×(UInt64)×(UInt64)×(UInt64)×(UInt64)×(UInt64)×(UInt64)×(Bool)×Unit)×(List ((aa×(aa×Bool))))×((UInt64)×(UInt64)×(UInt64)×(UInt64)×(UInt64)×(UInt64)×(UInt64)×(UInt64)×(Bool)×Unit)×((UInt64)×(UInt64)×(UInt64)×(UInt64)×(UInt64)×(UInt64)×(UInt64)×(UInt64)×(Bool)×Unit)×Unit)
def kO:Shape:=⟨74,[(6,.ptr 0 0 0),(14,.ptr 1 0 0)],[(0,.cells [.val false .u64,.val false .u64,.val false .u64,.val false .u64,.val false .u64,.val false .u64,.val false .u64,.val false .u64,.val false .bool]),(1,.cells [.val false .u64,.val false .u64,.val false .u64,.val false .u64,.val false .u64,.val false .u64,.val false .u64,.val false .u64,.val false .bool])],0,true⟩
abbrev fu:Type:=((Unit)×(Unit)×Unit)×(((UInt64)×(UInt64)×(UInt64)×(UInt64)×(UInt64)×(UInt64)×(UInt64)×(UInt64)×(Bool)×Unit)×((UInt64)×(UInt64)×(UInt64)×(UInt64)×(UInt64)×(UInt64)×(UInt64)×(UInt64)×(Bool)×Unit)×Unit)
def Ls:SE->Option Shape:=fp [(6,kO)] none
def aeO (a0:Int) (a15:Int) (c0_0:UInt64) (c0_1:UInt64) (c0_2:UInt64) (c0_3:UInt64) (c0_4:UInt64) (c0_5:UInt64) (c0_6:UInt64) (c0_7:UInt64) (c0_8:Bool) (c1:List ((aa×(aa×Bool)))) (c2_0:UInt64) (c2_1:UInt64) (c2_2:UInt64) (c2_3:UInt64) (c2_4:UInt64) (c2_5:UInt64) (c2_6:UInt64) (c2_7:UInt64) (c2_8:Bool) (c3_0:UInt64) (c3_1:UInt64) (c3_2:UInt64) (c3_3:UInt64) (c3_4:UInt64) (c3_5:UInt64) (c3_6:UInt64) (c3_7:UInt64) (c3_8:Bool):OT (Sum bu aE):=
 let z0:aa:= {w0:=0,w1:=0,w2:=0,w3:=0}
 let z1:aa×aa×Bool:=kW a0 ({w0:=c2_0,w1:=c2_1,w2:=c2_2,w3:=c2_3},{w0:=c2_4,w1:=c2_5,w2:=c2_6,w3:=c2_7},c2_8) (List.getD c1 (Int.toNat a15+0) (z0,z0,false))
 let z2:=z1.fst
 let z3:=z1.snd
 let z4:=z3.fst
 let z5:aa×aa×Bool:=kW a0 ({w0:=c3_0,w1:=c3_1,w2:=c3_2,w3:=c3_3},{w0:=c3_4,w1:=c3_5,w2:=c3_6,w3:=c3_7},c3_8) z1
 let z6:=z5.fst
 let z7:=z5.snd
 let z8:=z7.fst
 (.br (decide ((0:Int)<=a15))
 (gd [inB a15 15,decide (Int.toNat a15+0<List.length c1),inR (a15-(1:Int))] (.ok (.inl ((a0,((),((),((),((),(a15-(1:Int),())))))),((c0_0,(c0_1,(c0_2,(c0_3,(c0_4,(c0_5,(c0_6,(c0_7,(c0_8,()))))))))),(c1,((z2.w0,(z2.w1,(z2.w2,(z2.w3,(z4.w0,(z4.w1,(z4.w2,(z4.w3,(z3.snd,()))))))))),((z6.w0,(z6.w1,(z6.w2,(z6.w3,(z8.w0,(z8.w1,(z8.w2,(z8.w3,(z7.snd,()))))))))),()))))))))
 (.ok (.inr ⟨(.exit 6,kO),(((),((),())),((c0_0,(c0_1,(c0_2,(c0_3,(c0_4,(c0_5,(c0_6,(c0_7,(c0_8,()))))))))),((c3_0,(c3_1,(c3_2,(c3_3,(c3_4,(c3_5,(c3_6,(c3_7,(c3_8,()))))))))),())))⟩)))
def ml (s:bu):OT (Sum bu aE):=aeO (s.1.1) (s.1.2.2.2.2.2.1) (s.2.1.1) (s.2.1.2.1) (s.2.1.2.2.1) (s.2.1.2.2.2.1) (s.2.1.2.2.2.2.1) (s.2.1.2.2.2.2.2.1) (s.2.1.2.2.2.2.2.2.1) (s.2.1.2.2.2.2.2.2.2.1) (s.2.1.2.2.2.2.2.2.2.2.1) (s.2.2.1) (s.2.2.2.1.1) (s.2.2.2.1.2.1) (s.2.2.2.1.2.2.1) (s.2.2.2.1.2.2.2.1) (s.2.2.2.1.2.2.2.2.1) (s.2.2.2.1.2.2.2.2.2.1) (s.2.2.2.1.2.2.2.2.2.2.1) (s.2.2.2.1.2.2.2.2.2.2.2.1) (s.2.2.2.1.2.2.2.2.2.2.2.2.1) (s.2.2.2.2.1.1) (s.2.2.2.2.1.2.1) (s.2.2.2.2.1.2.2.1) (s.2.2.2.2.1.2.2.2.1) (s.2.2.2.2.1.2.2.2.2.1) (s.2.2.2.2.1.2.2.2.2.2.1) (s.2.2.2.2.1.2.2.2.2.2.2.1) (s.2.2.2.2.1.2.2.2.2.2.2.2.1) (s.2.2.2.2.1.2.2.2.2.2.2.2.2.1)
theorem aeF (s:bu) (Q:Sum bu aE->Prop):wps te Dm av 1000 (aV (aj Tryz.f162) 6) (mg.inj s) (bV mg Ls (Q:Sum mg.T aE->Prop))=(ml s).wpR Q:=by kernel_rfl
def ra (g6_6:bu->fu) (s:bu):OT aE:=(.ok ⟨(.exit 6,kO),g6_6 s⟩)
def qZ:az:=⟨[.val true (.prod .elem (.prod .elem .bool))],[],false⟩
def G5:SV->Option az:=λ_=>some qZ
def ph (ok0:bx->Bool) (g0_0:bx->fw) (ok4:aT->Bool) (g4_4:aT->cL) (ok2:bw->Bool) (g2_2:bw->fv) (ok6:bu->Bool) (g6_6:bu->fu) (a0:Int) (a1:List ((aa×(aa×(aa×Bool))))) (a2:Int):OT eJ.Y:=
 let z0:aa:= {w0:=0,w1:=0,w2:=0,w3:=0}
 let z1:aa×aa×Bool:=(z0,z0,false)
 let z2:(Int×List (aa×aa×aa×Bool)×Int×PUnit×PUnit×Int×PUnit)×(UInt64×UInt64×UInt64×UInt64×UInt64×UInt64×UInt64×UInt64×Bool×PUnit)×List (aa×aa×Bool)×PUnit:=((a0,a1,a2,(),(),(0:Int),()),((0:UInt64),(0:UInt64),(0:UInt64),(0:UInt64),(0:UInt64),(0:UInt64),(0:UInt64),(0:UInt64),false,()),[z1,z1,z1,z1,z1,z1,z1,z1,z1,z1,z1,z1,z1,z1,z1],())
 let z3:(Int×List (aa×aa×aa×Bool)×Int×PUnit×PUnit×PUnit)×(UInt64×UInt64×UInt64×UInt64×UInt64×UInt64×UInt64×UInt64×Bool×PUnit)×List (aa×aa×Bool)×PUnit:=g0_0 z2
 let z4:=z3.fst
 let z5:=z4.snd
 let z6:=z5.fst
 let z7:=z3.snd
 let z8:=z7.fst
 let z9:=z8.snd
 let z10:=z9.snd
 let z11:=z10.snd
 let z12:=z11.snd
 let z13:=z12.snd
 let z14:=z13.snd
 let z15:=z14.snd
 let z16:(Int×Int×PUnit×PUnit×List (aa×aa×aa×Bool)×Int×Int×PUnit)×(UInt64×UInt64×UInt64×UInt64×UInt64×UInt64×UInt64×UInt64×Bool×PUnit)×List (aa×aa×Bool)×PUnit:=((z4.fst,z5.snd.fst,(),(),z6,(↑(List.length z6):Int),(0:Int),()),(z8.fst,z9.fst,z10.fst,z11.fst,z12.fst,z13.fst,z14.fst,z15.fst,z15.snd.fst,()),z7.snd.fst,())
 let z17:(Int×PUnit×PUnit×PUnit)×(UInt64×UInt64×UInt64×UInt64×UInt64×UInt64×UInt64×UInt64×Bool×PUnit)×List (aa×aa×Bool)×PUnit:=g2_2 z16
 let z18:=z17.snd
 let z19:=z18.fst
 let z20:=z19.snd
 let z21:=z20.snd
 let z22:=z21.snd
 let z23:=z22.snd
 let z24:=z23.snd
 let z25:=z24.snd
 let z26:=z25.snd
 let z27:UInt64×UInt64×UInt64×UInt64×UInt64×UInt64×UInt64×UInt64×Bool×PUnit:=((0:UInt64),(0:UInt64),(0:UInt64),(0:UInt64),(0:UInt64),(0:UInt64),(0:UInt64),(0:UInt64),true,())
 let z28:(Int×PUnit×PUnit×PUnit×PUnit×Int×PUnit)×(UInt64×UInt64×UInt64×UInt64×UInt64×UInt64×UInt64×UInt64×Bool×PUnit)×List (aa×aa×Bool)×(UInt64×UInt64×UInt64×UInt64×UInt64×UInt64×UInt64×UInt64×Bool×PUnit)×(UInt64×UInt64×UInt64×UInt64×UInt64×UInt64×UInt64×UInt64×Bool×PUnit)×PUnit:=((z17.fst.fst,(),(),(),(),(14:Int),()),(z19.fst,z20.fst,z21.fst,z22.fst,z23.fst,z24.fst,z25.fst,z26.fst,z26.snd.fst,()),z18.snd.fst,z27,z27,())
 let z29:=(g6_6 z28).snd.snd.fst
 let z30:=z29.snd
 let z31:=z30.snd
 let z32:=z31.snd
 let z33:=z32.snd
 let z34:=z33.snd
 let z35:=z34.snd
 let z36:=z35.snd
 (gd [ok0 z2,ok2 z16,ok6 z28] (.ok ⟨qZ,((({w0:=z29.fst,w1:=z30.fst,w2:=z31.fst,w3:=z32.fst},{w0:=z33.fst,w1:=z34.fst,w2:=z35.fst,w3:=z36.fst},z36.snd.fst),()),())⟩))
theorem aow (ok0:bx->Bool) (g0_0:bx->fw) (ok4:aT->Bool) (g4_4:aT->cL) (ok2:bw->Bool) (g2_2:bw->fv) (ok6:bu->Bool) (g6_6:bu->fu) (x:pi) (Q:eJ.Y->Prop):wpf te Dm (aO 6 (cb mg 6 ok6 (ra g6_6)) (aO 2 (cb mi 2 ok2 (rc g2_2)) (aO 0 (cb mj 0 ok0 (re g0_0)) av))) 1000 Tryz.f162 (eJ.inp.inj x).tm (eJ.inp.inj x).hp (fnK eJ G5 Q) (λ_ _=>False)=(ph ok0 g0_0 ok4 g4_4 ok2 g2_2 ok6 g6_6 (x.1.1) (x.1.2.1) (x.1.2.2.1)).wpR Q:=by kernel_rfl
theorem UT (ok0:bx->Bool) (g0_0:bx->fw) (ok4:aT->Bool) (g4_4:aT->cL) (ok2:bw->Bool) (g2_2:bw->fv) (ok6:bu->Bool) (g6_6:bu->fu) (h0:∀ s:bx,ok0 s=true->∃ m e,al (mn) m s=some e/\(re g0_0 s).run=some e) (h4:∀ s:aT,ok4 s=true->∃ m e,al (mm) m s=some e/\(rb g4_4 s).run=some e) (h2:∀ s:bw,ok2 s=true->∃ m e,al (gR ok4 g4_4) m s=some e/\(rc g2_2 s).run=some e) (h6:∀ s:bu,ok6 s=true->∃ m e,al (ml) m s=some e/\(ra g6_6 s).run=some e) (pre:pi->Bool) (F:pi->OT eJ.Y) (hF:∀ (x:pi) oy,pre x=true->(F x).run=some oy->(ph ok0 g0_0 ok4 g4_4 ok2 g2_2 ok6 g6_6 (x.1.1) (x.1.2.1) (x.1.2.2.1)).run=some oy):ac Tryz.prog 162 (eJ.aH pre F):=
 aD aq mQ qe (f:=162) (fn:=Tryz.f162) (c:=aj Tryz.f162) (by kernel_rfl) (by kernel_rfl) (by kernel_rfl) (S:=eJ) (k:=0) (by kernel_rfl) (λR hR=>(aB (c:=(aj Tryz.f162)) (by kernel_rfl) (id:=6) (by kernel_rfl) (aS aq mQ qe (sh:=mg) hR (xs:=Ls) (aC (by kernel_rfl) (by kernel_rfl) hR) aK af (n:=1000) (T:=ml) (λs Q=>aeF s Q) (ok:=ok6) (f:=ra g6_6) h6) (aB (c:=(aj Tryz.f162)) (by kernel_rfl) (id:=2) (by kernel_rfl) (aS aq mQ qe (sh:=mi) hR (xs:=Lu) (aC (by kernel_rfl) (by kernel_rfl) hR) aK (aB (c:=(aV (aj Tryz.f162) 2)) (by kernel_rfl) (id:=4) (by kernel_rfl) (aS aq mQ qe (sh:=mh) hR (xs:=Lt) (aC (by kernel_rfl) (by kernel_rfl) hR) aK af (n:=1000) (T:=mm) (λs Q=>aeG s Q) (ok:=ok4) (f:=rb g4_4) h4) af) (n:=1000) (T:=gR ok4 g4_4) (λs Q=>aeH ok4 g4_4 s Q) (ok:=ok2) (f:=rc g2_2) h2) (aB (c:=(aj Tryz.f162)) (by kernel_rfl) (id:=0) (by kernel_rfl) (aS aq mQ qe (sh:=mj) hR (xs:=Lv) (aC (by kernel_rfl) (by kernel_rfl) hR) aK af (n:=1000) (T:=mn) (λs Q=>aeI s Q) (ok:=ok0) (f:=re g0_0) h0) af)))) (n:=1000) (sel:=G5) (λv o h=>by cases h;rfl) (pre:=pre) (F:=F) (T:=λx=>ph ok0 g0_0 ok4 g4_4 ok2 g2_2 ok6 g6_6 (x.1.1) (x.1.2.1) (x.1.2.2.1)) (λx Q=>aow ok0 g0_0 ok4 g4_4 ok2 g2_2 ok6 g6_6 x Q) hF
abbrev C13:Type:=UInt64×UInt64×UInt64×UInt64×UInt64×UInt64×UInt64×UInt64×UInt64×UInt64×UInt64×UInt64×Bool×Unit
def ak9 (t:Tm):C13:=(t.1.w0,t.1.w1,t.1.w2,t.1.w3,t.2.1.w0,t.2.1.w1,t.2.1.w2,t.2.1.w3,t.2.2.1.w0,t.2.2.1.w1,t.2.2.1.w2,t.2.2.1.w3,t.2.2.2,())
theorem ajh {α:Type} (x:α) (l:List α):∀ n,n<=l.length->upto (λk (o:List α)=>o.set k x) l n=List.replicate n x++l.drop n
 |0,_=>rfl
 |n+1,h=>by
  show (upto (λk (o:List α)=>o.set k x) l n).set n x=_
  rw [ajh x l n (by omega),List.set_append_right _ _ (by rw [List.length_replicate];omega),List.length_replicate,Nat.sub_self,List.drop_eq_getElem_cons (by omega),List.set_cons_zero,List.replicate_succ',List.append_assoc]
  rfl
def G8 (s:bx):Bool:=decide (s.1.2.2.2.2.2.1=0/\s.2.2.1.length=15)
def Ly (s:bx):fw:=((s.1.1,s.1.2.1,s.1.2.2.1,(),(),()),(s.2.1,List.replicate 15 bD,()))
theorem aeN:∀ s:bx,G8 s=true->∃ m e,al mn m s=some e/\(re Ly s).run=some e:=by
 rintro ⟨⟨c,l,at',⟨⟩,⟨⟩,i,⟨⟩⟩,⟨c0,S,⟨⟩⟩⟩ h
 have h':=of_decide_eq_true h
 dsimp only at h'
 obtain ⟨rfl,hS⟩:=h'
 have:=(aP (T:=mn) (λi o=>(((c,l,at',(),(),(i:Int),()),(c0,o,())):bx)) (λk (o:List Pt)=>o.set k bD)
  (λo=>(⟨(.exit 0,kR),((c,l,at',(),(),()),(c0,o,()))⟩:aE)) 15 S (λ_ o=>o.length=15) hS (λk o hk ho=>⟨?_,(List.length_set ..).trans ho⟩) (λo ho=> ?_)).1
 ·obtain ⟨m,hm⟩:=this
  rw [ajh bD S 15 (by omega),List.drop_eq_nil_of_le (by omega),List.append_nil] at hm
  exact ⟨m,_,hm,rfl⟩
 ·refine (OT.ap (decide_eq_true (by dsimp only;omega))).trans ((ah ?_).trans ?_)
  ·simp only [ho,Int.toNat_natCast,Nat.add_zero,List.all_cons,List.all_nil,Bool.and_true,Bool.and_eq_true]
   exact ⟨aN (by omega),decide_eq_true (by omega),aI (by omega)⟩
  ·simp only [OT.cK,Int.toNat_natCast,Nat.add_zero]
   rfl
 ·exact OT.ar (decide_eq_false (by dsimp only;omega))
def uh (k:aa) (a:Int) (n:Nat) (d:Int):Int:=cond (xT k (a+(n:Int))) (ior d (ax8 1 (n:Int))) d
def aD1 (k:aa) (a:Int):Int:=upto (uh k a) 0 4
def aIN (b:Bool):Int:=cond b 1 0
theorem aH0 (k:aa) (a:Int):aD1 k a=aIN (xT k a)+2*aIN (xT k (a+1))+4*aIN (xT k (a+2))+8*aIN (xT k (a+3)):=by
 have e0:a+((0:Nat):Int)=a:=by omega
 show uh k a 3 (uh k a 2 (uh k a 1 (uh k a 0 0)))=_
 unfold uh
 rw [e0,show a+((1:Nat):Int)=a+1 by omega,show a+((2:Nat):Int)=a+2 by omega,show a+((3:Nat):Int)=a+3 by omega]
 generalize xT k a=b0
 generalize xT k (a+1)=b1
 generalize xT k (a+2)=b2
 generalize xT k (a+3)=b3
 cases b0<;>cases b1<;>cases b2<;>cases b3<;>decide+kernel
theorem aHZ (k:aa) (a:Int):0<=aD1 k a/\aD1 k a<=15:=by
 rw [aH0]
 have h:∀ b,0<=aIN b/\aIN b<=1:=λb=>by cases b<;>decide
 have h0:=h (xT k a)
 have h1:=h (xT k (a+1))
 have h2:=h (xT k (a+2))
 have h3:=h (xT k (a+3))
 omega
def afW (c at' d:Int) (l:List Tm) (n i:Int) (b:Int) (c0:C9) (S:List Pt) (t:C13):aT:=((c,at',(),(),(),d,l,n,i,b,()),(c0,S,t,()))
def keyOf (t:C13):aa:=⟨t.1,t.2.1,t.2.2.1,t.2.2.2.1⟩
def nz (s:aT):Bool:=decide (s.1.2.2.2.2.2.1=0/\s.1.2.2.2.2.2.2.2.2.2.1=0/\0<=s.1.2.1/\s.1.2.1<=1000)
def q9 (s:aT):cL:=((s.1.1,s.1.2.1,(),(),(),aD1 (keyOf s.2.2.2.1) s.1.2.1,s.1.2.2.2.2.2.2.1,s.1.2.2.2.2.2.2.2.1,s.1.2.2.2.2.2.2.2.2.1,()),s.2)
theorem aeL:∀ s:aT,nz s=true->∃ m e,al mm m s=some e/\(rb q9 s).run=some e:=by
 rintro ⟨⟨c,at',⟨⟩,⟨⟩,⟨⟩,d,l,n,i,b,⟨⟩⟩,⟨c0,S,t,⟨⟩⟩⟩ h
 have h':=of_decide_eq_true h
 dsimp only at h'
 obtain ⟨rfl,rfl,ha0,ha1⟩:=h'
 have:=(aP (T:=mm) (λb d=>(((c,at',(),(),(),d,l,n,i,(b:Int),()),(c0,S,t,())):aT)) (uh (keyOf t) at')
  (λd=>(⟨(.exit 4,kP),((c,at',(),(),(),d,l,n,i,()),(c0,S,t,()))⟩:aE)) 4 0 (λ_ _=>True) trivial (λk d hk _=>⟨?_,trivial⟩) (λd _=> ?_)).1
 ·obtain ⟨m,hm⟩:=this
  exact ⟨m,_,hm,rfl⟩
 ·have hr:inR ((k:Int)+1)=true:=aI (by omega)
  have hgr:∀ z:OT (Sum aT aE),(gd [inR ((k:Int)+1)] z).run=z.run:=λz=>ah (by rw [hr];rfl)
  refine (OT.ap (decide_eq_true (by dsimp only;omega))).trans ((ah ?_).trans ?_)
  ·simp only [List.all_cons,List.all_nil,Bool.and_true]
   exact aI (by omega)
  ·unfold uh
   rcases (Bool.eq_false_or_eq_true (xT (keyOf t) (at'+(k:Int)))).symm with hb|hb
   ·rw [hb]
    exact (OT.ar hb).trans ((hgr _).trans rfl)
   ·rw [hb]
    refine (OT.ap hb).trans ((ah ?_).trans rfl)
    simp only [List.all_cons,List.all_nil,Bool.and_true,Bool.and_eq_true]
    exact ⟨decide_eq_true (by omega),hr⟩
 ·exact OT.ar (decide_eq_false (by dsimp only;omega))
def Cp (c a:Int) (l:List Tm) (k:Nat) (S:List Pt):List Pt:=cond (decide (0<aD1 (l.getD k y9).1 a))
 (S.set (aD1 (l.getD k y9).1 a-1).toNat (kW c (S.getD (aD1 (l.getD k y9).1 a-1).toNat fW) (l.getD k y9).2)) S
theorem uA (c a:Int) (l:List Tm) (k:Nat) (S:List Pt):(Cp c a l k S).length=S.length:=by
 unfold Cp
 cases decide (0<aD1 (l.getD k y9).1 a)
 ·rfl
 ·exact List.length_set ..
def aFV (c a:Int) (l:List Tm) (S:List Pt):List Pt:=upto (Cp c a l) S l.length
def G7 (s:bw):Bool:=decide (s.1.2.2.2.2.2.1=(s.1.2.2.2.2.1.length:Int)/\s.1.2.2.2.2.2.2.1=0/\s.2.2.1.length=15/\(0<=s.1.2.1/\s.1.2.1<=1000)/\s.1.2.2.2.2.1.length<=140737488355328)
def Lx (s:bw):fv:=((s.1.1,(),(),()),(s.2.1,aFV s.1.1 s.1.2.1 s.1.2.2.2.2.1 s.2.2.1,()))
theorem aIh {ok4:aT->Bool} {g4:aT->cL} {c a:Int} {l:List Tm} {k:Nat} {c0:C9} {S:List Pt} {t:Tm} {d:Int} (ht:l.getD k y9=t) (hk:k<l.length) (hl:l.length<=140737488355328) (hS:S.length=15) (hd:0<=d/\d<=15)
 (h4:ok4 (afW c a 0 l (l.length:Int) (k:Int) 0 c0 S (ak9 t))=true)
 (e4:g4 (afW c a 0 l (l.length:Int) (k:Int) 0 c0 S (ak9 t))=((c,a,(),(),(),d,l,(l.length:Int),(k:Int),()),(c0,S,ak9 t,()))):
 (gR ok4 g4 ((c,a,(),(),l,(l.length:Int),(k:Int),()),(c0,S,()))).run=some (.inl ((c,a,(),(),l,(l.length:Int),((k+1:Nat):Int),()),(c0,cond (decide (0<d)) (S.set (d-1).toNat (kW c (S.getD (d-1).toNat fW) t.2)) S,()))):=by
 have hr:inR ((k:Int)+1)=true:=aI (by omega)
 unfold afW at h4 e4
 unfold gR Lz
 have ht':List.getD l (Int.toNat (k:Int)) (⟨0,0,0,0⟩,⟨0,0,0,0⟩,⟨0,0,0,0⟩,false)=t:=by rw [Int.toNat_natCast];exact ht
 simp only [ht']
 refine (OT.ap (decide_eq_true (by omega))).trans ((ah ?_).trans ?_)
 ·simp only [List.all_cons,List.all_nil,Bool.and_true,Bool.and_eq_true]
  exact ⟨aN (by omega),h4⟩
 ·have e4':g4 ((c,a,(),(),(),0,l,(l.length:Int),(k:Int),0,()),(c0.1,c0.2.1,c0.2.2.1,c0.2.2.2.1,c0.2.2.2.2.1,c0.2.2.2.2.2.1,c0.2.2.2.2.2.2.1,c0.2.2.2.2.2.2.2.1,c0.2.2.2.2.2.2.2.2.1,()),S,(t.1.w0,t.1.w1,t.1.w2,t.1.w3,t.2.1.w0,t.2.1.w1,t.2.1.w2,t.2.1.w3,t.2.2.1.w0,t.2.2.1.w1,t.2.2.1.w2,t.2.2.1.w3,t.2.2.2,()),())=((c,a,(),(),(),d,l,(l.length:Int),(k:Int),()),(c0,S,ak9 t,())):=e4
  simp only [e4']
  by_cases h0:0<d
  ·rw [decide_eq_true h0]
   refine (OT.ap rfl).trans ((ah ?_).trans ?_)
   ·simp only [hS,Nat.add_zero,hr,List.all_cons,List.all_nil,Bool.and_true,Bool.and_eq_true]
    have i1:inR (d-1)=true:=aI (by omega)
    have i2:inB (d-1) 15=true:=aN (by omega)
    have i3:decide ((d-1).toNat<15)=true:=decide_eq_true (by omega)
    exact ⟨i1,i1,i2,i3,i2,i3⟩
   ·rfl
  ·rw [decide_eq_false h0]
   refine (OT.ar rfl).trans ((ah ?_).trans rfl)
   simp only [hr,List.all_cons,List.all_nil,Bool.and_true]
theorem aeM:∀ s:bw,G7 s=true->∃ m e,al (gR nz q9) m s=some e/\(rc Lx s).run=some e:=by
 rintro ⟨⟨c,at',⟨⟩,⟨⟩,l,n,i,⟨⟩⟩,⟨c0,S,⟨⟩⟩⟩ h
 have h':=of_decide_eq_true h
 dsimp only at h'
 obtain ⟨rfl,rfl,hS,⟨ha0,ha1⟩,hl⟩:=h'
 have:=(aP (T:=gR nz q9) (λi o=>(((c,at',(),(),l,(l.length:Int),(i:Int),()),(c0,o,())):bw)) (Cp c at' l)
  (λo=>(⟨(.exit 2,kQ),((c,(),(),()),(c0,o,()))⟩:aE)) l.length S (λ_ o=>o.length=15) hS (λk o hk ho=>⟨?_,(uA c at' l k o).trans ho⟩) (λo ho=> ?_)).1
 ·obtain ⟨m,hm⟩:=this
  exact ⟨m,_,hm,rfl⟩
 ·exact aIh rfl hk hl ho (aHZ _ _) (decide_eq_true ⟨rfl,rfl,ha0,ha1⟩) rfl
 ·exact OT.ar (decide_eq_false (by dsimp only;omega))
def atd (c:Int) (S:List Pt) (n:Nat) (w:Pt×Pt):Pt×Pt:=(kW c w.1 (S.getD (14-n) fW),kW c w.2 (kW c w.1 (S.getD (14-n) fW)))
def aLo (c:Int) (S:List Pt):Pt×Pt:=upto (atd c S) (bD,bD) 15
def G6 (s:bu):Bool:=decide (s.1.2.2.2.2.2.1=14/\s.2.2.1.length=15/\n5 s.2.2.2.1=bD/\n5 s.2.2.2.2.1=bD)
def Lw (s:bu):fu:=(((),(),()),(s.2.1,bE (aLo s.1.1 s.2.2.1).2,()))
theorem aeK:∀ s:bu,G6 s=true->∃ m e,al ml m s=some e/\(ra Lw s).run=some e:=by
 rintro ⟨⟨c,⟨⟩,⟨⟩,⟨⟩,⟨⟩,i,⟨⟩⟩,⟨c0,S,r,a,⟨⟩⟩⟩ h
 have h':=of_decide_eq_true h
 dsimp only at h'
 obtain ⟨rfl,hS,hr,ha⟩:=h'
 have hr2:r=bE bD:=by rw [<-hr];rfl
 have ha2:a=bE bD:=by rw [<-ha];rfl
 subst hr2 ha2
 have:=(aP (T:=ml) (λn w=>(((c,(),(),(),(),14-(n:Int),()),(c0,S,bE w.1,bE w.2,())):bu)) (atd c S)
  (λw=>(⟨(.exit 6,kO),(((),(),()),(c0,bE w.2,()))⟩:aE)) 15 (bD,bD) (λ_ _=>True) trivial (λn w hn _=>⟨?_,trivial⟩) (λw _=> ?_)).1
 ·obtain ⟨m,hm⟩:=this
  exact ⟨m,_,hm,rfl⟩
 ·have e1:((14:Int)-(n:Int)).toNat=14-n:=by omega
  have e2:(14:Int)-(n:Int)-1=14-((n+1:Nat):Int):=by omega
  refine (OT.ap (decide_eq_true (by dsimp only;omega))).trans ((ah ?_).trans ?_)
  ·simp only [e1,hS,Nat.add_zero,List.all_cons,List.all_nil,Bool.and_true,Bool.and_eq_true]
   exact ⟨aN (by omega),decide_eq_true (by omega),aI (by omega)⟩
  ·rw [<-e2]
   simp only [OT.cK,e1,Nat.add_zero]
   rfl
 ·exact OT.ar (decide_eq_false (by dsimp only;omega))
def axg (c:Int) (l:List Tm) (a:Int):Pt:=(aLo c (aFV c a l (List.replicate 15 bD))).2
theorem UU {ok4:aT->Bool} {g4:aT->cL} {ok0:bx->Bool} {g0:bx->fw} {ok2:bw->Bool} {g2:bw->fv} {ok6:bu->Bool} {g6:bu->fu} {c a:Int} {l:List Tm} {S0 S:List Pt} {R:Pt} {z:C9}
 (h0:ok0 ((c,l,a,(),(),0,()),(bE fW,List.replicate 15 fW,()))=true) (e0:g0 ((c,l,a,(),(),0,()),(bE fW,List.replicate 15 fW,()))=((c,l,a,(),(),()),(bE fW,S0,())))
 (h2:ok2 ((c,a,(),(),l,(l.length:Int),0,()),(bE fW,S0,()))=true) (e2:g2 ((c,a,(),(),l,(l.length:Int),0,()),(bE fW,S0,()))=((c,(),(),()),(bE fW,S,())))
 (h6:ok6 ((c,(),(),(),(),14,()),(bE fW,S,bE bD,bE bD,()))=true) (e6:g6 ((c,(),(),(),(),14,()),(bE fW,S,bE bD,bE bD,()))=(((),(),()),(z,bE R,()))):
 (ph ok0 g0 ok4 g4 ok2 g2 ok6 g6 c l a).run=some ⟨qZ,((R,()),())⟩:=by
 have e0':g0 ((c,l,a,(),(),0,()),((0,0,0,0,0,0,0,0,false,()),[((⟨0,0,0,0⟩,⟨0,0,0,0⟩,false):Pt),((⟨0,0,0,0⟩,⟨0,0,0,0⟩,false):Pt),((⟨0,0,0,0⟩,⟨0,0,0,0⟩,false):Pt),((⟨0,0,0,0⟩,⟨0,0,0,0⟩,false):Pt),((⟨0,0,0,0⟩,⟨0,0,0,0⟩,false):Pt),((⟨0,0,0,0⟩,⟨0,0,0,0⟩,false):Pt),((⟨0,0,0,0⟩,⟨0,0,0,0⟩,false):Pt),((⟨0,0,0,0⟩,⟨0,0,0,0⟩,false):Pt),((⟨0,0,0,0⟩,⟨0,0,0,0⟩,false):Pt),((⟨0,0,0,0⟩,⟨0,0,0,0⟩,false):Pt),((⟨0,0,0,0⟩,⟨0,0,0,0⟩,false):Pt),((⟨0,0,0,0⟩,⟨0,0,0,0⟩,false):Pt),((⟨0,0,0,0⟩,⟨0,0,0,0⟩,false):Pt),((⟨0,0,0,0⟩,⟨0,0,0,0⟩,false):Pt),((⟨0,0,0,0⟩,⟨0,0,0,0⟩,false):Pt)],()))=((c,l,a,(),(),()),(bE fW,S0,())):=e0
 have e2':g2 ((c,a,(),(),l,(l.length:Int),0,()),((bE fW).1,(bE fW).2.1,(bE fW).2.2.1,(bE fW).2.2.2.1,(bE fW).2.2.2.2.1,(bE fW).2.2.2.2.2.1,(bE fW).2.2.2.2.2.2.1,(bE fW).2.2.2.2.2.2.2.1,(bE fW).2.2.2.2.2.2.2.2.1,()),S0,())=((c,(),(),()),(bE fW,S,())):=e2
 have e6':g6 ((c,(),(),(),(),14,()),((bE fW).1,(bE fW).2.1,(bE fW).2.2.1,(bE fW).2.2.2.1,(bE fW).2.2.2.2.1,(bE fW).2.2.2.2.2.1,(bE fW).2.2.2.2.2.2.1,(bE fW).2.2.2.2.2.2.2.1,(bE fW).2.2.2.2.2.2.2.2.1,()),S,(0,0,0,0,0,0,0,0,true,()),(0,0,0,0,0,0,0,0,true,()),())=(((),(),()),(z,bE R,())):=e6
 unfold ph
 simp only [e0',e2',e6']
 refine (ah ?_).trans rfl
 simp only [List.all_cons,List.all_nil,Bool.and_true,Bool.and_eq_true]
 exact ⟨h0,h2,h6⟩
theorem JC (c a:Int) (l:List Tm) (S:List Pt):∀ n,(upto (Cp c a l) S n).length=S.length
 |0=>rfl
 |n+1=>(uA c a l n _).trans (JC c a l S n)
def tA (x:pi):Bool:=decide ((0<=x.1.2.2.1/\x.1.2.2.1<=1000)/\x.1.2.1.length<=140737488355328)
def Rq (x:pi):OT eJ.Y:=.ok ⟨qZ,((axg x.1.1 x.1.2.1 x.1.2.2.1,()),())⟩
theorem aeJ:ac Tryz.prog 162 (eJ.aH tA Rq):=UT G8 Ly nz q9 G7 Lx G6 Lw aeN aeL aeM aeK _ _ λx oy hp ho=>by
 rw [<-ho]
 clear ho
 obtain ⟨⟨c,l,a,⟨⟩⟩,⟨⟩⟩:=x
 obtain ⟨ha,hl⟩:=of_decide_eq_true hp
 exact UU (S0:=List.replicate 15 bD) (S:=aFV c a l (List.replicate 15 bD)) (R:=axg c l a) (z:=bE fW) (decide_eq_true ⟨rfl,rfl⟩) rfl
  (decide_eq_true ⟨rfl,rfl,rfl,ha,hl⟩) rfl (decide_eq_true ⟨rfl,JC c a l _ l.length,rfl,rfl⟩) rfl
def qY:cf:=(eJ.aH tA Rq)
theorem Pk:ac Tryz.prog 162 qY:=aeJ
theorem Pj:aF qY:=aA
def jM:Env:=ay 162 qY Dm
theorem jn:aQ Tryz.prog jM:=ag Pk mQ
theorem uZ:ax jM:=ae Pj NY
theorem n8:aU Tryz.prog te jM:=aJ follows aq jn uZ
def mf:aw:=⟨[.val false .int,.val false (.list Ic)],[],true,0,false⟩
abbrev Rh:Type:=((Int)×(List ((aa×(aa×(aa×Bool)))))×Unit)×(Unit)
def BO:Shape:=⟨39,[(0,.val false .int),(1,.val false (.list (.prod .elem (.prod .elem (.prod .elem .bool))))),(4,.ptr 0 0 0),(5,.ptr 1 0 0),(6,.val false .int)],[(0,.cells [.val false .u64,.val false .u64,.val false .u64,.val false .u64,.val false .u64,.val false .u64,.val false .u64,.val false .u64,.val false .bool]),(1,.cells [.val false .u64,.val false .u64,.val false .u64,.val false .u64,.val false .u64,.val false .u64,.val false .u64,.val false .u64,.val false .bool])],0,true⟩
abbrev cF:Type:=((Int)×(List ((aa×(aa×(aa×Bool)))))×(Unit)×(Unit)×(Int)×Unit)×(((UInt64)×(UInt64)×(UInt64)×(UInt64)×(UInt64)×(UInt64)×(UInt64)×(UInt64)×(Bool)×Unit)×((UInt64)×(UInt64)×(UInt64)×(UInt64)×(UInt64)×(UInt64)×(UInt64)×(UInt64)×(Bool)×Unit)×Unit)
def BN:Shape:=⟨39,[(0,.val false .int),(1,.val false (.list (.prod .elem (.prod .elem (.prod .elem .bool))))),(4,.ptr 0 0 0),(5,.ptr 1 0 0),(6,.val false .int),(24,.val false .int)],[(0,.cells [.val false .u64,.val false .u64,.val false .u64,.val false .u64,.val false .u64,.val false .u64,.val false .u64,.val false .u64,.val false .bool]),(1,.cells [.val false .u64,.val false .u64,.val false .u64,.val false .u64,.val false .u64,.val false .u64,.val false .u64,.val false .u64,.val false .bool])],0,true⟩
abbrev bC:Type:=((Int)×(List ((aa×(aa×(aa×Bool)))))×(Unit)×(Unit)×(Int)×(Int)×Unit)×(((UInt64)×(UInt64)×(UInt64)×(UInt64)×(UInt64)×(UInt64)×(UInt64)×(UInt64)×(Bool)×Unit)×((UInt64)×(UInt64)×(UInt64)×(UInt64)×(UInt64)×(UInt64)×(UInt64)×(UInt64)×(Bool)×Unit)×Unit)
def wc:Shape:=⟨39,[(0,.val false .int),(1,.val false (.list (.prod .elem (.prod .elem (.prod .elem .bool))))),(4,.ptr 0 0 0),(5,.ptr 1 0 0),(6,.val false .int)],[(0,.cells [.val false .u64,.val false .u64,.val false .u64,.val false .u64,.val false .u64,.val false .u64,.val false .u64,.val false .u64,.val false .bool]),(1,.cells [.val false .u64,.val false .u64,.val false .u64,.val false .u64,.val false .u64,.val false .u64,.val false .u64,.val false .u64,.val false .bool])],0,true⟩
abbrev eh:Type:=((Int)×(List ((aa×(aa×(aa×Bool)))))×(Unit)×(Unit)×(Int)×Unit)×(((UInt64)×(UInt64)×(UInt64)×(UInt64)×(UInt64)×(UInt64)×(UInt64)×(UInt64)×(Bool)×Unit)×((UInt64)×(UInt64)×(UInt64)×(UInt64)×(UInt64)×(UInt64)×(UInt64)×(UInt64)×(Bool)×Unit)×Unit)
def aks:SE->Option Shape:=fp [(2,wc)] none
def aBL (a0:Int) (a1:List ((aa×(aa×(aa×Bool))))) (a6:Int) (a24:Int) (c0_0:UInt64) (c0_1:UInt64) (c0_2:UInt64) (c0_3:UInt64) (c0_4:UInt64) (c0_5:UInt64) (c0_6:UInt64) (c0_7:UInt64) (c0_8:Bool) (c1_0:UInt64) (c1_1:UInt64) (c1_2:UInt64) (c1_3:UInt64) (c1_4:UInt64) (c1_5:UInt64) (c1_6:UInt64) (c1_7:UInt64) (c1_8:Bool):OT (Sum bC aE):=
 let z0:aa×aa×Bool:=({w0:=c1_0,w1:=c1_1,w2:=c1_2,w3:=c1_3},{w0:=c1_4,w1:=c1_5,w2:=c1_6,w3:=c1_7},c1_8)
 let z1:aa×aa×Bool:=kW a0 z0 z0
 let z2:=z1.fst
 let z3:=z1.snd
 let z4:=z3.fst
 (.br (decide (a24<(4:Int)))
 (gd [inR (a24+(1:Int))] (.ok (.inl ((a0,(a1,((),((),(a6,(a24+(1:Int),())))))),((c0_0,(c0_1,(c0_2,(c0_3,(c0_4,(c0_5,(c0_6,(c0_7,(c0_8,()))))))))),((z2.w0,(z2.w1,(z2.w2,(z2.w3,(z4.w0,(z4.w1,(z4.w2,(z4.w3,(z3.snd,()))))))))),()))))))
 (.ok (.inr ⟨(.exit 2,wc),((a0,(a1,((),((),(a6,()))))),((c0_0,(c0_1,(c0_2,(c0_3,(c0_4,(c0_5,(c0_6,(c0_7,(c0_8,()))))))))),((c1_0,(c1_1,(c1_2,(c1_3,(c1_4,(c1_5,(c1_6,(c1_7,(c1_8,()))))))))),())))⟩)))
def BR (s:bC):OT (Sum bC aE):=aBL (s.1.1) (s.1.2.1) (s.1.2.2.2.2.1) (s.1.2.2.2.2.2.1) (s.2.1.1) (s.2.1.2.1) (s.2.1.2.2.1) (s.2.1.2.2.2.1) (s.2.1.2.2.2.2.1) (s.2.1.2.2.2.2.2.1) (s.2.1.2.2.2.2.2.2.1) (s.2.1.2.2.2.2.2.2.2.1) (s.2.1.2.2.2.2.2.2.2.2.1) (s.2.2.1.1) (s.2.2.1.2.1) (s.2.2.1.2.2.1) (s.2.2.1.2.2.2.1) (s.2.2.1.2.2.2.2.1) (s.2.2.1.2.2.2.2.2.1) (s.2.2.1.2.2.2.2.2.2.1) (s.2.2.1.2.2.2.2.2.2.2.1) (s.2.2.1.2.2.2.2.2.2.2.2.1)
theorem aBG (s:bC) (Q:Sum bC aE->Prop):wps te jM av 1000 (aV (aV (aj Tryz.f148) 0) 2) (BN.inj s) (bV BN aks (Q:Sum BN.T aE->Prop))=(BR s).wpR Q:=by kernel_rfl
def IR (g2_2:bC->eh) (s:bC):OT aE:=(.ok ⟨(.exit 2,wc),g2_2 s⟩)
def we:Shape:=⟨39,[(4,.ptr 0 0 0),(5,.ptr 1 0 0)],[(0,.cells [.val false .u64,.val false .u64,.val false .u64,.val false .u64,.val false .u64,.val false .u64,.val false .u64,.val false .u64,.val false .bool]),(1,.cells [.val false .u64,.val false .u64,.val false .u64,.val false .u64,.val false .u64,.val false .u64,.val false .u64,.val false .u64,.val false .bool])],0,true⟩
abbrev jB:Type:=((Unit)×(Unit)×Unit)×(((UInt64)×(UInt64)×(UInt64)×(UInt64)×(UInt64)×(UInt64)×(UInt64)×(UInt64)×(Bool)×Unit)×((UInt64)×(UInt64)×(UInt64)×(UInt64)×(UInt64)×(UInt64)×(UInt64)×(UInt64)×(Bool)×Unit)×Unit)
def akt:SE->Option Shape:=fp [(0,we)] none
def aku (ok2:bC->Bool) (g2_2:bC->eh) (a0:Int) (a1:List ((aa×(aa×(aa×Bool))))) (a6:Int) (c0_0:UInt64) (c0_1:UInt64) (c0_2:UInt64) (c0_3:UInt64) (c0_4:UInt64) (c0_5:UInt64) (c0_6:UInt64) (c0_7:UInt64) (c0_8:Bool) (c1_0:UInt64) (c1_1:UInt64) (c1_2:UInt64) (c1_3:UInt64) (c1_4:UInt64) (c1_5:UInt64) (c1_6:UInt64) (c1_7:UInt64) (c1_8:Bool):OT (Sum cF aE):=
 let z0:(Int×List (aa×aa×aa×Bool)×PUnit×PUnit×Int×Int×PUnit)×(UInt64×UInt64×UInt64×UInt64×UInt64×UInt64×UInt64×UInt64×Bool×PUnit)×(UInt64×UInt64×UInt64×UInt64×UInt64×UInt64×UInt64×UInt64×Bool×PUnit)×PUnit:=((a0,a1,(),(),a6,(0:Int),()),(c0_0,c0_1,c0_2,c0_3,c0_4,c0_5,c0_6,c0_7,c0_8,()),(c1_0,c1_1,c1_2,c1_3,c1_4,c1_5,c1_6,c1_7,c1_8,()),())
 let z1:(Int×List (aa×aa×aa×Bool)×PUnit×PUnit×Int×PUnit)×(UInt64×UInt64×UInt64×UInt64×UInt64×UInt64×UInt64×UInt64×Bool×PUnit)×(UInt64×UInt64×UInt64×UInt64×UInt64×UInt64×UInt64×UInt64×Bool×PUnit)×PUnit:=g2_2 z0
 let z2:=z1.fst
 let z3:=z2.fst
 let z4:=z2.snd
 let z5:=z4.fst
 let z6:=z4.snd.snd.snd.fst
 let z7:=z1.snd
 let z8:=z7.fst
 let z9:=z8.snd
 let z10:=z9.snd
 let z11:=z10.snd
 let z12:=z11.snd
 let z13:=z12.snd
 let z14:=z13.snd
 let z15:=z14.snd
 let z16:=z7.snd.fst
 let z17:=z16.snd
 let z18:=z17.snd
 let z19:=z18.snd
 let z20:=z19.snd
 let z21:=z20.snd
 let z22:=z21.snd
 let z23:=z22.snd
 let z24:aa×aa×Bool:=kW z3 ({w0:=z16.fst,w1:=z17.fst,w2:=z18.fst,w3:=z19.fst},{w0:=z20.fst,w1:=z21.fst,w2:=z22.fst,w3:=z23.fst},z23.snd.fst) (axg z3 z5 z6)
 let z25:=z24.fst
 let z26:=z24.snd
 let z27:=z26.fst
 (.br (decide ((0:Int)<=a6))
 (gd [ok2 z0,tA ((z3,z5,z6,()),()),inR (z6-(4:Int))] (.ok (.inl ((z3,(z5,((),((),(z6-(4:Int),()))))),((z8.fst,(z9.fst,(z10.fst,(z11.fst,(z12.fst,(z13.fst,(z14.fst,(z15.fst,(z15.snd.fst,()))))))))),((z25.w0,(z25.w1,(z25.w2,(z25.w3,(z27.w0,(z27.w1,(z27.w2,(z27.w3,(z26.snd,()))))))))),()))))))
 (.ok (.inr ⟨(.exit 0,we),(((),((),())),((c0_0,(c0_1,(c0_2,(c0_3,(c0_4,(c0_5,(c0_6,(c0_7,(c0_8,()))))))))),((c1_0,(c1_1,(c1_2,(c1_3,(c1_4,(c1_5,(c1_6,(c1_7,(c1_8,()))))))))),())))⟩)))
def qX (ok2:bC->Bool) (g2_2:bC->eh) (s:cF):OT (Sum cF aE):=aku ok2 g2_2 (s.1.1) (s.1.2.1) (s.1.2.2.2.2.1) (s.2.1.1) (s.2.1.2.1) (s.2.1.2.2.1) (s.2.1.2.2.2.1) (s.2.1.2.2.2.2.1) (s.2.1.2.2.2.2.2.1) (s.2.1.2.2.2.2.2.2.1) (s.2.1.2.2.2.2.2.2.2.1) (s.2.1.2.2.2.2.2.2.2.2.1) (s.2.2.1.1) (s.2.2.1.2.1) (s.2.2.1.2.2.1) (s.2.2.1.2.2.2.1) (s.2.2.1.2.2.2.2.1) (s.2.2.1.2.2.2.2.2.1) (s.2.2.1.2.2.2.2.2.2.1) (s.2.2.1.2.2.2.2.2.2.2.1) (s.2.2.1.2.2.2.2.2.2.2.2.1)
theorem aBH (ok2:bC->Bool) (g2_2:bC->eh) (s:cF) (Q:Sum cF aE->Prop):wps te jM (aO 2 (cb BN 2 ok2 (IR g2_2)) av) 1000 (aV (aj Tryz.f148) 0) (BO.inj s) (bV BO akt (Q:Sum BO.T aE->Prop))=(qX ok2 g2_2 s).wpR Q:=by kernel_rfl
def IU (g0_0:cF->jB) (s:cF):OT aE:=(.ok ⟨(.exit 0,we),g0_0 s⟩)
def wb:az:=⟨[.val true (.prod .elem (.prod .elem .bool))],[],false⟩
def Zl:SV->Option az:=λ_=>some wb
def Fi (ok2:bC->Bool) (g2_2:bC->eh) (ok0:cF->Bool) (g0_0:cF->jB) (a0:Int) (a1:List ((aa×(aa×(aa×Bool))))):OT mf.Y:=
 let z0:Int:=Int.tdiv ((↑(acy a1):Int)+(4:Int)-(1:Int)) (4:Int)
 let z1:(Int×List (aa×aa×aa×Bool)×PUnit×PUnit×Int×PUnit)×(UInt64×UInt64×UInt64×UInt64×UInt64×UInt64×UInt64×UInt64×Bool×PUnit)×(UInt64×UInt64×UInt64×UInt64×UInt64×UInt64×UInt64×UInt64×Bool×PUnit)×PUnit:=((a0,a1,(),(),z0*(4:Int),()),((0:UInt64),(0:UInt64),(0:UInt64),(0:UInt64),(0:UInt64),(0:UInt64),(0:UInt64),(0:UInt64),false,()),((0:UInt64),(0:UInt64),(0:UInt64),(0:UInt64),(0:UInt64),(0:UInt64),(0:UInt64),(0:UInt64),true,()),())
 let z2:=(g0_0 z1).snd.snd.fst
 let z3:=z2.snd
 let z4:=z3.snd
 let z5:=z4.snd
 let z6:=z5.snd
 let z7:=z6.snd
 let z8:=z7.snd
 let z9:=z8.snd
 (.br (decide ((↑(List.length a1):Int)<(24:Int)))
 (gd [zf ((a0,a1,()),())] (.ok ⟨wb,((AK a0 a1,()),())⟩))
 (gd [UE ((a1,()),()),inR ((↑(acy a1):Int)+(4:Int)),inR ((↑(acy a1):Int)+(4:Int)-(1:Int)),true&&inR z0,inR (z0*(4:Int)),ok0 z1] (.ok ⟨wb,((({w0:=z2.fst,w1:=z3.fst,w2:=z4.fst,w3:=z5.fst},{w0:=z6.fst,w1:=z7.fst,w2:=z8.fst,w3:=z9.fst},z9.snd.fst),()),())⟩)))
theorem aHb (ok2:bC->Bool) (g2_2:bC->eh) (ok0:cF->Bool) (g0_0:cF->jB) (x:Rh) (Q:mf.Y->Prop):wpf te jM (aO 0 (cb BO 0 ok0 (IU g0_0)) av) 1000 Tryz.f148 (mf.inp.inj x).tm (mf.inp.inj x).hp (fnK mf Zl Q) (λ_ _=>False)=(Fi ok2 g2_2 ok0 g0_0 (x.1.1) (x.1.2.1)).wpR Q:=by kernel_rfl
theorem aoh (ok2:bC->Bool) (g2_2:bC->eh) (ok0:cF->Bool) (g0_0:cF->jB) (h2:∀ s:bC,ok2 s=true->∃ m e,al (BR) m s=some e/\(IR g2_2 s).run=some e) (h0:∀ s:cF,ok0 s=true->∃ m e,al (qX ok2 g2_2) m s=some e/\(IU g0_0 s).run=some e) (pre:Rh->Bool) (F:Rh->OT mf.Y) (hF:∀ (x:Rh) oy,pre x=true->(F x).run=some oy->(Fi ok2 g2_2 ok0 g0_0 (x.1.1) (x.1.2.1)).run=some oy):ac Tryz.prog 148 (mf.aH pre F):=
 aD aq jn n8 (f:=148) (fn:=Tryz.f148) (c:=aj Tryz.f148) (by kernel_rfl) (by kernel_rfl) (by kernel_rfl) (S:=mf) (k:=0) (by kernel_rfl) (λR hR=>(aB (c:=(aj Tryz.f148)) (by kernel_rfl) (id:=0) (by kernel_rfl) (aS aq jn n8 (sh:=BO) hR (xs:=akt) (aC (by kernel_rfl) (by kernel_rfl) hR) aK (aB (c:=(aV (aj Tryz.f148) 0)) (by kernel_rfl) (id:=2) (by kernel_rfl) (aS aq jn n8 (sh:=BN) hR (xs:=aks) (aC (by kernel_rfl) (by kernel_rfl) hR) aK af (n:=1000) (T:=BR) (λs Q=>aBG s Q) (ok:=ok2) (f:=IR g2_2) h2) af) (n:=1000) (T:=qX ok2 g2_2) (λs Q=>aBH ok2 g2_2 s Q) (ok:=ok0) (f:=IU g0_0) h0) af)) (n:=1000) (sel:=Zl) (λv o h=>by cases h;rfl) (pre:=pre) (F:=F) (T:=λx=>Fi ok2 g2_2 ok0 g0_0 (x.1.1) (x.1.2.1)) (λx Q=>aHb ok2 g2_2 ok0 g0_0 x Q) hF
theorem acz (l:List Tm):∀ n,ax6 l n<=n
 |0=>Nat.le_refl _
 |n+1=>by
  unfold ax6
  cases aKu l (n:Int)
  ·exact Nat.le_succ_of_le (acz l n)
  ·exact Nat.le_refl _
def aLb (c:Int) (O:Pt):Pt:=upto (λ_ o=>kW c o o) O 4
def tw (s:bC):Bool:=decide (s.1.2.2.2.2.2.1=0)
def BQ (s:bC):eh:=((s.1.1,s.1.2.1,(),(),s.1.2.2.2.2.1,()),(s.2.1,bE (aLb s.1.1 (n5 s.2.2.1)),()))
theorem aBJ:∀ s:bC,tw s=true->∃ m e,al BR m s=some e/\(IR BQ s).run=some e:=by
 rintro ⟨⟨c,l,⟨⟩,⟨⟩,a,i,⟨⟩⟩,⟨c0,c1,⟨⟩⟩⟩ h
 have h':=of_decide_eq_true h
 dsimp only at h'
 subst h'
 have:=(aP (T:=BR) (λi O=>(((c,l,(),(),a,(i:Int),()),(c0,bE O,())):bC)) (λ_ o=>kW c o o)
  (λO=>(⟨(.exit 2,wc),((c,l,(),(),a,()),(c0,bE O,()))⟩:aE)) 4 (n5 c1) (λ_ _=>True) trivial (λk O hk _=>⟨?_,trivial⟩) (λO _=> ?_)).1
 ·obtain ⟨m,hm⟩:=this
  exact ⟨m,_,hm,rfl⟩
 ·refine (OT.ap (decide_eq_true (by dsimp only;omega))).trans ((ah ?_).trans rfl)
  simp only [List.all_cons,List.all_nil,Bool.and_true]
  exact aI (by omega)
 ·exact OT.ar (decide_eq_false (by dsimp only;omega))
def aqX (c:Int) (l:List Tm) (W n:Nat) (O:Pt):Pt:=kW c (aLb c O) (axg c l (4*(W:Int)-4*(n:Int)))
def O1 (l:List Tm):Nat:=(acy l+3)/4
def aKC (c:Int) (l:List Tm):Pt:=upto (aqX c l (O1 l)) bD (O1 l+1)
def aqW (c:Int) (l:List Tm) (a:Int) (c0:C9) (O:Pt):bC:=((c,l,(),(),a,0,()),(c0,bE O,()))
theorem aIS {ok2:bC->Bool} {g2:bC->eh} {c a:Int} {l:List Tm} {c0:C9} {O D:Pt} (h0:0<=a) (h1:a<=1000) (hl:l.length<=140737488355328) (hok:ok2 (aqW c l a c0 O)=true)
 (e2:g2 (aqW c l a c0 O)=((c,l,(),(),a,()),(c0,bE D,()))):
 (qX ok2 g2 ((c,l,(),(),a,()),(c0,bE O,()))).run=some (.inl ((c,l,(),(),a-4,()),(c0,bE (kW c D (axg c l a)),()))):=by
 unfold aqW at hok e2
 have e2':g2 ((c,l,(),(),a,0,()),(c0.1,c0.2.1,c0.2.2.1,c0.2.2.2.1,c0.2.2.2.2.1,c0.2.2.2.2.2.1,c0.2.2.2.2.2.2.1,c0.2.2.2.2.2.2.2.1,c0.2.2.2.2.2.2.2.2.1,()),((bE O).1,(bE O).2.1,(bE O).2.2.1,(bE O).2.2.2.1,(bE O).2.2.2.2.1,(bE O).2.2.2.2.2.1,(bE O).2.2.2.2.2.2.1,(bE O).2.2.2.2.2.2.2.1,(bE O).2.2.2.2.2.2.2.2.1,()),())=((c,l,(),(),a,()),(c0,bE D,())):=e2
 unfold qX aku
 simp only [e2']
 refine (OT.ap (decide_eq_true h0)).trans ((ah ?_).trans rfl)
 simp only [List.all_cons,List.all_nil,Bool.and_true,Bool.and_eq_true]
 exact ⟨hok,decide_eq_true ⟨⟨h0,h1⟩,hl⟩,aI (by omega)⟩
def Lg (s:cF):Bool:=decide (s.1.2.2.2.2.1=4*(O1 s.1.2.1:Int)/\n5 s.2.2.1=bD/\s.1.2.1.length<=140737488355328)
def UK (s:cF):jB:=(((),(),()),(s.2.1,bE (aKC s.1.1 s.1.2.1),()))
theorem aBK:∀ s:cF,Lg s=true->∃ m e,al (qX tw BQ) m s=some e/\(IU UK s).run=some e:=by
 rintro ⟨⟨c,l,⟨⟩,⟨⟩,a,⟨⟩⟩,⟨c0,c1,⟨⟩⟩⟩ h
 have h':=of_decide_eq_true h
 dsimp only at h'
 obtain ⟨rfl,hO,hl⟩:=h'
 have hO2:c1=bE bD:=by rw [<-hO];rfl
 subst hO2
 have hW:O1 l<=64:=by
  have:=acz l 256
  unfold O1 acy
  omega
 have:=(aP (T:=qX tw BQ) (λn O=>(((c,l,(),(),4*(O1 l:Int)-4*(n:Int),()),(c0,bE O,())):cF)) (aqX c l (O1 l))
  (λO=>(⟨(.exit 0,we),(((),(),()),(c0,bE O,()))⟩:aE)) (O1 l+1) bD (λ_ _=>True) trivial (λn O hn _=>⟨?_,trivial⟩) (λO _=> ?_)).1
 ·obtain ⟨m,hm⟩:=this
  refine ⟨m,_,?_,rfl⟩
  have e:4*(O1 l:Int)-4*((0:Nat):Int)=4*(O1 l:Int):=by omega
  rw [e] at hm
  exact hm
 ·have e:4*(O1 l:Int)-4*((n+1:Nat):Int)=4*(O1 l:Int)-4*(n:Int)-4:=by omega
  rw [e]
  exact aIS (D:=aLb c O) (by omega) (by omega) hl (decide_eq_true rfl) rfl
 ·exact OT.ar (decide_eq_false (by dsimp only;omega))
def aK8 (l:List Tm):Bool:=decide ((l.length:Int)<24)
def ajd (c:Int) (l:List Tm):Pt:=cond (aK8 l) (AK c l) (aKC c l)
def BP (x:Rh):Bool:=decide (x.1.2.1.length<=140737488355328)
def avc (x:Rh):OT mf.Y:=.ok ⟨wb,((ajd x.1.1 x.1.2.1,()),())⟩
theorem aoi {ok2:bC->Bool} {g2:bC->eh} {ok0:cF->Bool} {g0:cF->jB} {c:Int} {l:List Tm} {R:Pt} (hl:l.length<=140737488355328) (hf:aK8 l=false)
 (h0:ok0 ((c,l,(),(),4*(O1 l:Int),()),(bE fW,bE bD,()))=true) (e0:g0 ((c,l,(),(),4*(O1 l:Int),()),(bE fW,bE bD,()))=(((),(),()),(bE fW,bE R,()))):
 (Fi ok2 g2 ok0 g0 c l).run=some ⟨wb,((R,()),())⟩:=by
 have ht:Int.tdiv ((acy l:Int)+4-1) 4=(O1 l:Int):=by
  unfold O1
  rw [Int.tdiv_eq_ediv_of_nonneg (by omega)]
  omega
 have hW:=acz l 256
 have hW:acy l<=256:=hW
 have hW2:O1 l<=64:=by unfold O1;omega
 have e1:(O1 l:Int)*4=4*(O1 l:Int):=Int.mul_comm _ _
 unfold Fi
 have e0':g0 ((c,l,(),(),4*(O1 l:Int),()),(0,0,0,0,0,0,0,0,false,()),(0,0,0,0,0,0,0,0,true,()),())=(((),(),()),(bE fW,bE R,())):=e0
 simp only [ht,e1,e0']
 refine (OT.ar hf).trans ((ah ?_).trans rfl)
 simp only [List.all_cons,List.all_nil,Bool.and_true,Bool.true_and,Bool.and_eq_true]
 exact ⟨decide_eq_true hl,aI (by omega),aI (by omega),aI (by omega),aI (by omega),h0⟩
theorem aBI:ac Tryz.prog 148 (mf.aH BP avc):=aoh tw BQ Lg UK aBJ aBK _ _ λx oy hp ho=>by
 rw [<-ho]
 clear ho
 obtain ⟨⟨c,l,⟨⟩⟩,⟨⟩⟩:=x
 have hl:l.length<=140737488355328:=of_decide_eq_true hp
 show (Fi tw BQ Lg UK c l).run=some ⟨wb,((ajd c l,()),())⟩
 rcases (Bool.eq_false_or_eq_true (aK8 l)).symm with hf|hf
 ·have e:ajd c l=aKC c l:=by unfold ajd;rw [hf];rfl
  rw [e]
  exact aoi (R:=aKC c l) hl hf (decide_eq_true ⟨rfl,rfl,hl⟩) rfl
 ·have e:ajd c l=AK c l:=by unfold ajd;rw [hf];rfl
  rw [e]
  refine (OT.ap hf).trans ((ah ?_).trans rfl)
  simp only [List.all_cons,List.all_nil,Bool.and_true]
  exact hp
def Fh:cf:=(mf.aH BP avc)
theorem aeC:ac Tryz.prog 148 Fh:=aBI
theorem aeB:aF Fh:=aA
def N4:Env:=ay 148 Fh jM
theorem Gs:aQ Tryz.prog N4:=ag aeC jn
theorem HR:ax N4:=ae aeB uZ
theorem agK:aU Tryz.prog te N4:=aJ follows aq Gs HR
def iR:aw:=⟨[.ptr 0 0 0],[(0,aLs (.own 1)),(1,.row Ic)],false,2,true⟩
abbrev Fe:Type:=((Unit)×Unit)×(((Int)×(Unit)×Unit)×(List ((aa×(aa×(aa×Bool)))))×Unit)
def La:az:=⟨[.val true (.prod .elem (.prod .elem .bool))],[(0,.cells [.val false .int,.own 1]),(1,.row (.prod .elem (.prod .elem (.prod .elem .bool))))],false⟩
def Re:SV->Option az:=λ_=>some La
def UC (c0_0:Int) (c1:List ((aa×(aa×(aa×Bool))))):OT iR.Y:=
 (gd [BP ((c0_0,c1,()),())] (.ok ⟨La,((ajd c0_0 c1,()),((c0_0,((),())),(c1,())))⟩))
theorem aBC (x:Fe) (Q:iR.Y->Prop):wpf te N4 av 1000 Tryz.f116 (iR.inp.inj x).tm (iR.inp.inj x).hp (fnK iR Re Q) (λ_ _=>False)=(UC (x.2.1.1) (x.2.2.1)).wpR Q:=by kernel_rfl
theorem aev (pre:Fe->Bool) (F:Fe->OT iR.Y) (hF:∀ (x:Fe) oy,pre x=true->(F x).run=some oy->(UC (x.2.1.1) (x.2.2.1)).run=some oy):ac Tryz.prog 116 (iR.aH pre F):=
 aD aq Gs agK (f:=116) (fn:=Tryz.f116) (c:=aj Tryz.f116) (by kernel_rfl) (by kernel_rfl) (by kernel_rfl) (S:=iR) (k:=2) (by kernel_rfl) (λR hR=>af) (n:=1000) (sel:=Re) (λv o h=>by cases h;rfl) (pre:=pre) (F:=F) (T:=λx=>UC (x.2.1.1) (x.2.2.1)) (λx Q=>aBC x Q) hF
def Fc (x:Fe):Bool:=BP ((x.2.1.1,x.2.2.1,()),())
def akk (x:Fe):OT iR.Y:=.ok ⟨La,((ajd x.2.1.1 x.2.2.1,()),((x.2.1.1,((),())),(x.2.2.1,())))⟩
theorem au0:ac Tryz.prog 116 (iR.aH Fc akk):=aev _ _ λx oy hp ho=>by
 rw [<-ho]
 clear ho
 refine (ah ?_).trans rfl
 simp only [List.all_cons,List.all_nil,Bool.and_true]
 exact hp
def za:cf:=(iR.aH Fc akk)
theorem Zh:ac Tryz.prog 116 za:=au0
theorem Zg:aF za:=aA
def xu:Env:=ay 116 za N4
theorem rQ:aQ Tryz.prog xu:=ag Zh Gs
theorem Dl:ax xu:=ae Zg HR
theorem HP:aU Tryz.prog te xu:=aJ follows aq rQ Dl
def r7:aw:=⟨[.val false .int,.val false (.list Ic)],[],true,0,false⟩
abbrev aog:Type:=((Int)×(List ((aa×(aa×(aa×Bool)))))×Unit)×(Unit)
def Lf:Shape:=⟨45,[(4,.ptr 0 0 0),(6,.ptr 1 0 0),(26,.val false (.list (.prod .elem (.prod .elem (.prod .elem .bool))))),(27,.val false .int),(28,.val false .int)],[(0,.cells [.val false .u64,.val false .u64,.val false .u64,.val false .u64,.val false .u64,.val false .u64,.val false .u64,.val false .u64,.val false .bool]),(1,.cells [.val false .int,.own 2]),(2,.row (.prod .elem (.prod .elem (.prod .elem .bool))))],0,true⟩
abbrev bX:Type:=((Unit)×(Unit)×(List ((aa×(aa×(aa×Bool)))))×(Int)×(Int)×Unit)×(((UInt64)×(UInt64)×(UInt64)×(UInt64)×(UInt64)×(UInt64)×(UInt64)×(UInt64)×(Bool)×Unit)×((Int)×(Unit)×Unit)×(List ((aa×(aa×(aa×Bool)))))×Unit)
def me:Shape:=⟨45,[(4,.ptr 0 0 0),(5,.val false .int)],[(0,.cells [.val false .u64,.val false .u64,.val false .u64,.val false .u64,.val false .u64,.val false .u64,.val false .u64,.val false .u64,.val false .bool])],0,true⟩
abbrev pb:Type:=((Unit)×(Int)×Unit)×(((UInt64)×(UInt64)×(UInt64)×(UInt64)×(UInt64)×(UInt64)×(UInt64)×(UInt64)×(Bool)×Unit)×Unit)
def BM:Shape:=⟨45,[(4,.ptr 0 0 0),(6,.ptr 1 0 0)],[(0,.cells [.val false .u64,.val false .u64,.val false .u64,.val false .u64,.val false .u64,.val false .u64,.val false .u64,.val false .u64,.val false .bool]),(1,.cells [.val false .int,.own 2]),(2,.row (.prod .elem (.prod .elem (.prod .elem .bool))))],0,true⟩
abbrev pc:Type:=((Unit)×(Unit)×Unit)×(((UInt64)×(UInt64)×(UInt64)×(UInt64)×(UInt64)×(UInt64)×(UInt64)×(UInt64)×(Bool)×Unit)×((Int)×(Unit)×Unit)×(List ((aa×(aa×(aa×Bool)))))×Unit)
def ava:SE->Option Shape:=fp [(1,BM)] (some me)
def aHa (a26:List ((aa×(aa×(aa×Bool))))) (a27:Int) (a28:Int) (c0_0:UInt64) (c0_1:UInt64) (c0_2:UInt64) (c0_3:UInt64) (c0_4:UInt64) (c0_5:UInt64) (c0_6:UInt64) (c0_7:UInt64) (c0_8:Bool) (c1_0:Int) (c2:List ((aa×(aa×(aa×Bool))))):OT (Sum bX aE):=
 let z0:aa:= {w0:=0,w1:=0,w2:=0,w3:=0}
 let z1:aa×aa×aa×Bool:=List.getD a26 (Int.toNat a28) (z0,z0,z0,false)
 let z2:=z1.snd
 (.br (decide (a28<a27))
 (gd [inB a28 (List.length a26)] (.br (onB c1_0 z2)
  (.br (Xx c2)
   (gd [inR (a28+(1:Int))] (.ok (.inl (((),((),(a26,(a27,(a28+(1:Int),()))))),((c0_0,(c0_1,(c0_2,(c0_3,(c0_4,(c0_5,(c0_6,(c0_7,(c0_8,()))))))))),((c1_0,((),())),(c2++ [(acJ c1_0 z1.fst,z2)],())))))))
   (.ok (.inr ⟨(.ret,me),(((),((50:Int),())),(((0:UInt64),((0:UInt64),((0:UInt64),((0:UInt64),((0:UInt64),((0:UInt64),((0:UInt64),((0:UInt64),(false,()))))))))),()))⟩)))
  (.ok (.inr ⟨(.ret,me),(((),((41:Int),())),(((0:UInt64),((0:UInt64),((0:UInt64),((0:UInt64),((0:UInt64),((0:UInt64),((0:UInt64),((0:UInt64),(false,()))))))))),()))⟩))))
 (.ok (.inr ⟨(.exit 1,BM),(((),((),())),((c0_0,(c0_1,(c0_2,(c0_3,(c0_4,(c0_5,(c0_6,(c0_7,(c0_8,()))))))))),((c1_0,((),())),(c2,()))))⟩)))
def Fg (s:bX):OT (Sum bX aE):=aHa (s.1.2.2.1) (s.1.2.2.2.1) (s.1.2.2.2.2.1) (s.2.1.1) (s.2.1.2.1) (s.2.1.2.2.1) (s.2.1.2.2.2.1) (s.2.1.2.2.2.2.1) (s.2.1.2.2.2.2.2.1) (s.2.1.2.2.2.2.2.2.1) (s.2.1.2.2.2.2.2.2.2.1) (s.2.1.2.2.2.2.2.2.2.2.1) (s.2.2.1.1) (s.2.2.2.1)
theorem aG7 (s:bX) (Q:Sum bX aE->Prop):wps te xu av 1000 (aV (aj Tryz.f74) 1) (Lf.inj s) (bV Lf ava (Q:Sum Lf.T aE->Prop))=(Fg s).wpR Q:=by kernel_rfl
def UJ (g1_r:bX->pb) (c1_r:bX->Bool) (g1_1:bX->pc) (s:bX):OT aE:=(.br (c1_r s) (.ok ⟨(.ret,me),g1_r s⟩) (.ok ⟨(.exit 1,BM),g1_1 s⟩))
def jA:az:=⟨[.val true (.prod .elem (.prod .elem .bool)),.val false .int],[],false⟩
def akp:SV->Option az:=λ_=>some jA
def akr (ok1:bX->Bool) (g1_r:bX->pb) (c1_r:bX->Bool) (g1_1:bX->pc) (a0:Int) (a1:List ((aa×(aa×(aa×Bool))))):OT r7.Y:=
 let z0:Int:=(↑(List.length a1):Int)
 let z1:aa:= {w0:=0,w1:=0,w2:=0,w3:=0}
 let z2:aa×aa×Bool:=(z1,z1,false)
 let z3:(PUnit×PUnit×List (aa×aa×aa×Bool)×Int×Int×PUnit)×(UInt64×UInt64×UInt64×UInt64×UInt64×UInt64×UInt64×UInt64×Bool×PUnit)×(Int×PUnit×PUnit)×List (aa×aa×aa×Bool)×PUnit:=(((),(),a1,z0,(0:Int),()),((0:UInt64),(0:UInt64),(0:UInt64),(0:UInt64),(0:UInt64),(0:UInt64),(0:UInt64),(0:UInt64),false,()),(a0,(),()),[],())
 let z4:(PUnit×Int×PUnit)×(UInt64×UInt64×UInt64×UInt64×UInt64×UInt64×UInt64×UInt64×Bool×PUnit)×PUnit:=g1_r z3
 let z5:=z4.snd.fst
 let z6:=z5.snd
 let z7:=z6.snd
 let z8:=z7.snd
 let z9:=z8.snd
 let z10:=z9.snd
 let z11:=z10.snd
 let z12:=z11.snd
 let z13:=(g1_1 z3).snd.snd
 let z14:=z13.fst.fst
 let z15:=z13.snd.fst
 (.br (ao a0)
 (.br (decide ((100000:Int)<z0))
  (.ok ⟨jA,((z2,((50:Int),())),())⟩)
  (gd [ok1 z3] (.br (c1_r z3)
   (.ok ⟨jA,((({w0:=z5.fst,w1:=z6.fst,w2:=z7.fst,w3:=z8.fst},{w0:=z9.fst,w1:=z10.fst,w2:=z11.fst,w3:=z12.fst},z12.snd.fst),(z4.fst.snd.fst,())),())⟩)
   (gd [Fc (((),()),(z14,(),()),z15,())] (.ok ⟨jA,((ajd z14 z15,((0:Int),())),())⟩)))))
 (.ok ⟨jA,((z2,((40:Int),())),())⟩))
theorem aJF (ok1:bX->Bool) (g1_r:bX->pb) (c1_r:bX->Bool) (g1_1:bX->pc) (x:aog) (Q:r7.Y->Prop):wpf te xu (aO 1 (cb Lf 1 ok1 (UJ g1_r c1_r g1_1)) av) 1000 Tryz.f74 (r7.inp.inj x).tm (r7.inp.inj x).hp (fnK r7 akp Q) (λ_ _=>False)=(akr ok1 g1_r c1_r g1_1 (x.1.1) (x.1.2.1)).wpR Q:=by kernel_rfl
theorem avb (ok1:bX->Bool) (g1_r:bX->pb) (c1_r:bX->Bool) (g1_1:bX->pc) (h1:∀ s:bX,ok1 s=true->∃ m e,al (Fg) m s=some e/\(UJ g1_r c1_r g1_1 s).run=some e) (pre:aog->Bool) (F:aog->OT r7.Y) (hF:∀ (x:aog) oy,pre x=true->(F x).run=some oy->(akr ok1 g1_r c1_r g1_1 (x.1.1) (x.1.2.1)).run=some oy):ac Tryz.prog 74 (r7.aH pre F):=
 aD aq rQ HP (f:=74) (fn:=Tryz.f74) (c:=aj Tryz.f74) (by kernel_rfl) (by kernel_rfl) (by kernel_rfl) (S:=r7) (k:=0) (by kernel_rfl) (λR hR=>(aB (c:=(aj Tryz.f74)) (by kernel_rfl) (id:=1) (by kernel_rfl) (aS aq rQ HP (sh:=Lf) hR (xs:=ava) (aC (by kernel_rfl) (by kernel_rfl) hR) aK af (n:=1000) (T:=Fg) (λs Q=>aG7 s Q) (ok:=ok1) (f:=UJ g1_r c1_r g1_1) h1) af)) (n:=1000) (sel:=akp) (λv o h=>by cases h;rfl) (pre:=pre) (F:=F) (T:=λx=>akr ok1 g1_r c1_r g1_1 (x.1.1) (x.1.2.1)) (λx Q=>aJF ok1 g1_r c1_r g1_1 x Q) hF
def acd (c:Int) (l:List Tm):List Tm:=l.map λt=>(acJ c t.1,t.2)
def sj (c:Int) (l:List Tm):Bool:=l.all λt=>onB c t.2
def UH (s:bX):Bool:=decide (s.1.2.2.2.1=(s.1.2.2.1.length:Int)/\s.1.2.2.2.2.1=0/\s.2.2.2.1= []/\s.1.2.2.1.length<=100000)
def UI (_:bX):pb:=(((),(41:Int),()),(bE fW,()))
def aeA (s:bX):Bool:= !sj s.2.2.1.1 s.1.2.2.1
def aez (s:bX):pc:=(((),(),()),(s.2.1,(s.2.2.1.1,(),()),acd s.2.2.1.1 s.1.2.2.1,()))
def W7 (c:Int) (l:List Tm) (c0:C9) (k:Int) (o:List Tm):bX:=(((),(),l,(l.length:Int),k,()),(c0,(c,(),()),o,()))
theorem ajc (c:Int) (l:List Tm) (c0:C9) (hl:l.length<=100000):∀ d k:Nat,k+d=l.length->
 ∃ m,al Fg m (W7 c l c0 (k:Int) (acd c (l.take k)))=some (cond (sj c (l.drop k)) ⟨(.exit 1,BM),(((),(),()),(c0,(c,(),()),acd c l,()))⟩ ⟨(.ret,me),(((),(41:Int),()),(bE fW,()))⟩)
 |0,k,h=>by
  rw [List.drop_eq_nil_of_le (by omega),List.take_of_length_le (by omega)]
  exact ⟨1,aM (OT.ar (decide_eq_false (by dsimp only [W7];omega)))⟩
 |d+1,k,h=>by
  have hk:k<l.length:=by omega
  have e1:l.drop k=l[k]::l.drop (k+1):=List.drop_eq_getElem_cons hk
  have e2:l.take (k+1)=l.take k++ [l[k]]:=(List.take_append_getElem hk).symm
  have e3:l.getD k y9=l[k]:=by rw [List.getD_eq_getElem?_getD,List.getElem?_eq_getElem hk];rfl
  have hgd:∀ z:OT (Sum bX aE),(gd [inB (k:Int) l.length] z).run=z.run:=λz=>ah (by rw [aN (by omega)];rfl)
  have ea:sj c (l.drop k)=(onB c l[k].2&&sj c (l.drop (k+1))):=by rw [e1];rfl
  rw [ea]
  have hr:Xx (acd c (l.take k))=true:=decide_eq_true (by rw [acd,List.length_map,List.length_take];omega)
  have first:∀ e:aE ⊕ Unit,(Fg (W7 c l c0 (k:Int) (acd c (l.take k)))).run=(OT.br (onB c (l.getD k y9).2) (.br (Xx (acd c (l.take k))) (gd [inR ((k:Int)+1)] (.ok (.inl (W7 c l c0 ((k:Int)+1) (acd c (l.take k)++ [(acJ c (l.getD k y9).1,(l.getD k y9).2)])))))
   (.ok (.inr ⟨(.ret,me),(((),(50:Int),()),(bE fW,()))⟩))) (.ok (.inr ⟨(.ret,me),(((),(41:Int),()),(bE fW,()))⟩)):OT (Sum bX aE)).run:=λ_=>
   (OT.ap (decide_eq_true (by dsimp only [W7];omega))).trans ((hgd _).trans rfl)
  have first:=first (.inr ())
  rw [e3] at first
  rcases (Bool.eq_false_or_eq_true (onB c l[k].2)).symm with hb|hb
  ·rw [hb]
   exact ⟨1,aM (first.trans (OT.ar hb))⟩
  ·rw [hb]
   obtain ⟨m,hm⟩:=ajc c l c0 hl d (k+1) (by omega)
   refine ⟨m+1,aG ?_ hm⟩
   refine first.trans ((OT.ap hb).trans ((OT.ap hr).trans ((ah ?_).trans ?_)))
   ·simp only [List.all_cons,List.all_nil,Bool.and_true]
    exact aI (by omega)
   ·rw [e2]
    simp only [acd,List.map_append,List.map_cons,List.map_nil]
    rfl
theorem aG9:∀ s:bX,UH s=true->∃ m e,al Fg m s=some e/\(UJ UI aeA aez s).run=some e:=by
 rintro ⟨⟨⟨⟩,⟨⟩,l,n,k,⟨⟩⟩,⟨c0,⟨c,⟨⟩,⟨⟩⟩,o,⟨⟩⟩⟩ h
 have h':=of_decide_eq_true h
 dsimp only at h'
 obtain ⟨rfl,rfl,rfl,hl⟩:=h'
 obtain ⟨m,hm⟩:=ajc c l c0 hl l.length 0 (by omega)
 refine ⟨m,_,hm,?_⟩
 show (OT.br (!sj c l) _ _:OT aE).run=some (cond (sj c l) _ _)
 cases sj c l<;>rfl
def akq (_:aog):Bool:=true
def aDL (x:aog):OT r7.Y:=.br (ao x.1.1) (.br (decide (x.1.2.1.length<=100000)) (.br (sj x.1.1 x.1.2.1) (.ok ⟨jA,((ajd x.1.1 (acd x.1.1 x.1.2.1),((0:Int),())),())⟩)
 (.ok ⟨jA,((fW,((41:Int),())),())⟩)) (.ok ⟨jA,((fW,((50:Int),())),())⟩)) (.ok ⟨jA,((fW,((40:Int),())),())⟩)
theorem aG8:ac Tryz.prog 74 (r7.aH akq aDL):=avb UH UI aeA aez aG9 _ _ λx oy hp ho=>by
 rw [<-ho]
 clear ho
 obtain ⟨⟨c,l,⟨⟩⟩,⟨⟩⟩:=x
 show (akr UH UI aeA aez c l).run=(OT.br (ao c) (.br (decide (l.length<=100000)) (.br (sj c l) (.ok ⟨jA,((ajd c (acd c l),((0:Int),())),())⟩)
  (.ok ⟨jA,((fW,((41:Int),())),())⟩)) (.ok ⟨jA,((fW,((50:Int),())),())⟩)) (.ok ⟨jA,((fW,((40:Int),())),())⟩):OT r7.Y).run
 rcases (Bool.eq_false_or_eq_true (ao c)).symm with hs|hs
 ·exact (OT.ar hs).trans (OT.ar (b:=ao c) hs).symm
 ·refine (OT.ap hs).trans (Eq.trans ?_ (OT.ap (b:=ao c) hs).symm)
  by_cases hl:l.length<=100000
  ·refine (OT.ar (decide_eq_false (by omega))).trans (Eq.trans ?_ (OT.ap (b:=decide (l.length<=100000)) (decide_eq_true hl)).symm)
   refine (ah ?_).trans ?_
   ·simp only [List.all_cons,List.all_nil,Bool.and_true]
    exact decide_eq_true ⟨rfl,rfl,rfl,hl⟩
   ·rcases (Bool.eq_false_or_eq_true (sj c l)).symm with ha|ha
    ·exact (OT.ap (b:= !sj c l) (by rw [ha];rfl)).trans (OT.ar (b:=sj c l) ha).symm
    ·refine (OT.ar (b:= !sj c l) (by rw [ha];rfl)).trans (Eq.trans ?_ (OT.ap (b:=sj c l) ha).symm)
     refine (ah ?_).trans rfl
     simp only [List.all_cons,List.all_nil,Bool.and_true]
     refine decide_eq_true ?_
     show (acd c l).length<=_
     rw [acd,List.length_map]
     omega
  ·exact (OT.ap (decide_eq_true (by omega))).trans (OT.ar (b:=decide (l.length<=100000)) (decide_eq_false hl)).symm
def Le:cf:=(r7.aH akq aDL)
theorem aof:ac Tryz.prog 74 Le:=aG8
theorem aoe:aF Le:=aA
def abL:Env:=ay 74 Le xu
theorem N0:aQ Tryz.prog abL:=ag aof rQ
theorem N3:ax abL:=ae aoe Dl
theorem aqo:aU Tryz.prog te abL:=aJ follows aq N0 N3
abbrev aLp:Ty:=.prod .int (.prod .int (.prod (.list (.prod .elem (.prod .elem .bool))) (.prod (.prod .elem (.prod .elem .bool)) (.prod .elem (.prod .elem .bool)))))
def aK0:CSh:=.cells [.val false .int,.val false .int,.val false (.list (.prod .elem (.prod .elem .bool))),.val false .u64,.val false .u64,.val false .u64,.val false .u64,.val false .u64,.val false .u64,.val false .u64,.val false .u64,.val false .bool,.val false .u64,.val false .u64,.val false .u64,.val false .u64,.val false .u64,.val false .u64,.val false .u64,.val false .u64,.val false .bool]
def gJ:aw:=⟨[.val true (.prod .elem (.prod .elem .bool)),.ptr 0 0 0],[(0,aK0)],false,1,true⟩
abbrev ET:Type:=(((aa×(aa×Bool)))×(Unit)×Unit)×(((Int)×(Int)×(List ((aa×(aa×Bool))))×(UInt64)×(UInt64)×(UInt64)×(UInt64)×(UInt64)×(UInt64)×(UInt64)×(UInt64)×(Bool)×(UInt64)×(UInt64)×(UInt64)×(UInt64)×(UInt64)×(UInt64)×(UInt64)×(UInt64)×(Bool)×Unit)×Unit)
def tg:az:=⟨[.val false .bool],[(0,.cells [.val false .int,.val false .int,.val false (.list (.prod .elem (.prod .elem .bool))),.val false .u64,.val false .u64,.val false .u64,.val false .u64,.val false .u64,.val false .u64,.val false .u64,.val false .u64,.val false .bool,.val false .u64,.val false .u64,.val false .u64,.val false .u64,.val false .u64,.val false .u64,.val false .u64,.val false .u64,.val false .bool])],false⟩
def QR:SV->Option az:=λ_=>some tg
def Uh (a0:(aa×(aa×Bool))) (c0_0:Int) (c0_1:Int) (c0_2:List ((aa×(aa×Bool)))) (c0_3:UInt64) (c0_4:UInt64) (c0_5:UInt64) (c0_6:UInt64) (c0_7:UInt64) (c0_8:UInt64) (c0_9:UInt64) (c0_10:UInt64) (c0_11:Bool) (c0_12:UInt64) (c0_13:UInt64) (c0_14:UInt64) (c0_15:UInt64) (c0_16:UInt64) (c0_17:UInt64) (c0_18:UInt64) (c0_19:UInt64) (c0_20:Bool):OT gJ.Y:=
 (.br (a0.snd.snd)
 (.ok ⟨tg,((true,()),((c0_0,(c0_1,(c0_2,(c0_3,(c0_4,(c0_5,(c0_6,(c0_7,(c0_8,(c0_9,(c0_10,(c0_11,(c0_12,(c0_13,(c0_14,(c0_15,(c0_16,(c0_17,(c0_18,(c0_19,(c0_20,()))))))))))))))))))))),()))⟩)
 (.ok ⟨tg,((!onB c0_0 a0,()),((c0_0,(c0_1,(c0_2,(c0_3,(c0_4,(c0_5,(c0_6,(c0_7,(c0_8,(c0_9,(c0_10,(c0_11,(c0_12,(c0_13,(c0_14,(c0_15,(c0_16,(c0_17,(c0_18,(c0_19,(c0_20,()))))))))))))))))))))),()))⟩))
theorem aBg (x:ET) (Q:gJ.Y->Prop):wpf te abL av 1000 Tryz.f71 (gJ.inp.inj x).tm (gJ.inp.inj x).hp (fnK gJ QR Q) (λ_ _=>False)=(Uh (x.1.1) (x.2.1.1) (x.2.1.2.1) (x.2.1.2.2.1) (x.2.1.2.2.2.1) (x.2.1.2.2.2.2.1) (x.2.1.2.2.2.2.2.1) (x.2.1.2.2.2.2.2.2.1) (x.2.1.2.2.2.2.2.2.2.1) (x.2.1.2.2.2.2.2.2.2.2.1) (x.2.1.2.2.2.2.2.2.2.2.2.1) (x.2.1.2.2.2.2.2.2.2.2.2.2.1) (x.2.1.2.2.2.2.2.2.2.2.2.2.2.1) (x.2.1.2.2.2.2.2.2.2.2.2.2.2.2.1) (x.2.1.2.2.2.2.2.2.2.2.2.2.2.2.2.1) (x.2.1.2.2.2.2.2.2.2.2.2.2.2.2.2.2.1) (x.2.1.2.2.2.2.2.2.2.2.2.2.2.2.2.2.2.1) (x.2.1.2.2.2.2.2.2.2.2.2.2.2.2.2.2.2.2.1) (x.2.1.2.2.2.2.2.2.2.2.2.2.2.2.2.2.2.2.2.1) (x.2.1.2.2.2.2.2.2.2.2.2.2.2.2.2.2.2.2.2.2.1) (x.2.1.2.2.2.2.2.2.2.2.2.2.2.2.2.2.2.2.2.2.2.1) (x.2.1.2.2.2.2.2.2.2.2.2.2.2.2.2.2.2.2.2.2.2.2.1)).wpR Q:=by kernel_rfl
theorem aee (pre:ET->Bool) (F:ET->OT gJ.Y) (hF:∀ (x:ET) oy,pre x=true->(F x).run=some oy->(Uh (x.1.1) (x.2.1.1) (x.2.1.2.1) (x.2.1.2.2.1) (x.2.1.2.2.2.1) (x.2.1.2.2.2.2.1) (x.2.1.2.2.2.2.2.1) (x.2.1.2.2.2.2.2.2.1) (x.2.1.2.2.2.2.2.2.2.1) (x.2.1.2.2.2.2.2.2.2.2.1) (x.2.1.2.2.2.2.2.2.2.2.2.1) (x.2.1.2.2.2.2.2.2.2.2.2.2.1) (x.2.1.2.2.2.2.2.2.2.2.2.2.2.1) (x.2.1.2.2.2.2.2.2.2.2.2.2.2.2.1) (x.2.1.2.2.2.2.2.2.2.2.2.2.2.2.2.1) (x.2.1.2.2.2.2.2.2.2.2.2.2.2.2.2.2.1) (x.2.1.2.2.2.2.2.2.2.2.2.2.2.2.2.2.2.1) (x.2.1.2.2.2.2.2.2.2.2.2.2.2.2.2.2.2.2.1) (x.2.1.2.2.2.2.2.2.2.2.2.2.2.2.2.2.2.2.2.1) (x.2.1.2.2.2.2.2.2.2.2.2.2.2.2.2.2.2.2.2.2.1) (x.2.1.2.2.2.2.2.2.2.2.2.2.2.2.2.2.2.2.2.2.2.1) (x.2.1.2.2.2.2.2.2.2.2.2.2.2.2.2.2.2.2.2.2.2.2.1)).run=some oy):ac Tryz.prog 71 (gJ.aH pre F):=
 aD aq N0 aqo (f:=71) (fn:=Tryz.f71) (c:=aj Tryz.f71) (by kernel_rfl) (by kernel_rfl) (by kernel_rfl) (S:=gJ) (k:=1) (by kernel_rfl) (λR hR=>af) (n:=1000) (sel:=QR) (λv o h=>by cases h;rfl) (pre:=pre) (F:=F) (T:=λx=>Uh (x.1.1) (x.2.1.1) (x.2.1.2.1) (x.2.1.2.2.1) (x.2.1.2.2.2.1) (x.2.1.2.2.2.2.1) (x.2.1.2.2.2.2.2.1) (x.2.1.2.2.2.2.2.2.1) (x.2.1.2.2.2.2.2.2.2.1) (x.2.1.2.2.2.2.2.2.2.2.1) (x.2.1.2.2.2.2.2.2.2.2.2.1) (x.2.1.2.2.2.2.2.2.2.2.2.2.1) (x.2.1.2.2.2.2.2.2.2.2.2.2.2.1) (x.2.1.2.2.2.2.2.2.2.2.2.2.2.2.1) (x.2.1.2.2.2.2.2.2.2.2.2.2.2.2.2.1) (x.2.1.2.2.2.2.2.2.2.2.2.2.2.2.2.2.1) (x.2.1.2.2.2.2.2.2.2.2.2.2.2.2.2.2.2.1) (x.2.1.2.2.2.2.2.2.2.2.2.2.2.2.2.2.2.2.1) (x.2.1.2.2.2.2.2.2.2.2.2.2.2.2.2.2.2.2.2.1) (x.2.1.2.2.2.2.2.2.2.2.2.2.2.2.2.2.2.2.2.2.1) (x.2.1.2.2.2.2.2.2.2.2.2.2.2.2.2.2.2.2.2.2.2.1) (x.2.1.2.2.2.2.2.2.2.2.2.2.2.2.2.2.2.2.2.2.2.2.1)) (λx Q=>aBg x Q) hF
abbrev aEd:Type:=Int×(Int×(List Pt×(UInt64×(UInt64×(UInt64×(UInt64×(UInt64×(UInt64×(UInt64×(UInt64×(Bool×(UInt64×(UInt64×(UInt64×(UInt64×(UInt64×(UInt64×(UInt64×(UInt64×(Bool×Unit))))))))))))))))))))
def aet:Pt:=(⟨0,0,0,0⟩,⟨0,0,0,0⟩,false)
def WL (c:Int) (P:Pt):Bool:=cond P.2.2 true (!onB c P)
def QS (_:ET):Bool:=true
def aj3 (x:ET):OT gJ.Y:=.ok ⟨tg,((WL x.2.1.1 x.1.1,()),x.2)⟩
theorem aus:ac Tryz.prog 71 (gJ.aH QS aj3):=aee _ _ λx oy hp ho=>by
 rw [<-ho]
 clear ho
 obtain ⟨⟨P,⟨⟩,⟨⟩⟩,⟨i,⟨⟩⟩⟩:=x
 show _=some (⟨tg,((WL i.1 P,()),(i,()))⟩:gJ.Y)
 unfold WL
 rcases (Bool.eq_false_or_eq_true P.2.2).symm with h|h
 ·rw [h]
  exact (OT.ar h).trans rfl
 ·rw [h]
  exact (OT.ap h).trans rfl
def yO:cf:=(gJ.aH QS aj3)
theorem YL:ac Tryz.prog 71 yO:=aus
theorem YK:aF yO:=aA
def xq:Env:=ay 71 yO abL
theorem rO:aQ Tryz.prog xq:=ag YL N0
theorem Dc:ax xq:=ae YK N3
theorem HM:aU Tryz.prog te xq:=aJ follows aq rO Dc
def fc:aw:=⟨[.val false (.list (.prod .elem (.prod .elem .bool))),.fn 71 [0]],[(0,aK0)],false,1,true⟩
abbrev vU:Type:=((List ((aa×(aa×Bool))))×(Unit)×Unit)×(((Int)×(Int)×(List ((aa×(aa×Bool))))×(UInt64)×(UInt64)×(UInt64)×(UInt64)×(UInt64)×(UInt64)×(UInt64)×(UInt64)×(Bool)×(UInt64)×(UInt64)×(UInt64)×(UInt64)×(UInt64)×(UInt64)×(UInt64)×(UInt64)×(Bool)×Unit)×Unit)
def oX:Shape:=⟨19,[(0,.val false (.list (.prod .elem (.prod .elem .bool)))),(1,.fn 71 [0]),(7,.val false .int),(8,.val false .int)],[(0,.cells [.val false .int,.val false .int,.val false (.list (.prod .elem (.prod .elem .bool))),.val false .u64,.val false .u64,.val false .u64,.val false .u64,.val false .u64,.val false .u64,.val false .u64,.val false .u64,.val false .bool,.val false .u64,.val false .u64,.val false .u64,.val false .u64,.val false .u64,.val false .u64,.val false .u64,.val false .u64,.val false .bool])],1,true⟩
abbrev ba:Type:=((List ((aa×(aa×Bool))))×(Unit)×(Int)×(Int)×Unit)×(((Int)×(Int)×(List ((aa×(aa×Bool))))×(UInt64)×(UInt64)×(UInt64)×(UInt64)×(UInt64)×(UInt64)×(UInt64)×(UInt64)×(Bool)×(UInt64)×(UInt64)×(UInt64)×(UInt64)×(UInt64)×(UInt64)×(UInt64)×(UInt64)×(Bool)×Unit)×Unit)
def nl:Shape:=⟨19,[(4,.val false .int)],[(0,.cells [.val false .int,.val false .int,.val false (.list (.prod .elem (.prod .elem .bool))),.val false .u64,.val false .u64,.val false .u64,.val false .u64,.val false .u64,.val false .u64,.val false .u64,.val false .u64,.val false .bool,.val false .u64,.val false .u64,.val false .u64,.val false .u64,.val false .u64,.val false .u64,.val false .u64,.val false .u64,.val false .bool])],1,true⟩
abbrev iJ:Type:=((Int)×Unit)×(((Int)×(Int)×(List ((aa×(aa×Bool))))×(UInt64)×(UInt64)×(UInt64)×(UInt64)×(UInt64)×(UInt64)×(UInt64)×(UInt64)×(Bool)×(UInt64)×(UInt64)×(UInt64)×(UInt64)×(UInt64)×(UInt64)×(UInt64)×(UInt64)×(Bool)×Unit)×Unit)
def nn:Shape:=⟨19,[],[(0,.cells [.val false .int,.val false .int,.val false (.list (.prod .elem (.prod .elem .bool))),.val false .u64,.val false .u64,.val false .u64,.val false .u64,.val false .u64,.val false .u64,.val false .u64,.val false .u64,.val false .bool,.val false .u64,.val false .u64,.val false .u64,.val false .u64,.val false .u64,.val false .u64,.val false .u64,.val false .u64,.val false .bool])],1,true⟩
abbrev iK:Type:=(Unit)×(((Int)×(Int)×(List ((aa×(aa×Bool))))×(UInt64)×(UInt64)×(UInt64)×(UInt64)×(UInt64)×(UInt64)×(UInt64)×(UInt64)×(Bool)×(UInt64)×(UInt64)×(UInt64)×(UInt64)×(UInt64)×(UInt64)×(UInt64)×(UInt64)×(Bool)×Unit)×Unit)
def QX:SE->Option Shape:=fp [(0,nn)] (some nl)
def anU (a0:List ((aa×(aa×Bool)))) (a7:Int) (a8:Int) (c0_0:Int) (c0_1:Int) (c0_2:List ((aa×(aa×Bool)))) (c0_3:UInt64) (c0_4:UInt64) (c0_5:UInt64) (c0_6:UInt64) (c0_7:UInt64) (c0_8:UInt64) (c0_9:UInt64) (c0_10:UInt64) (c0_11:Bool) (c0_12:UInt64) (c0_13:UInt64) (c0_14:UInt64) (c0_15:UInt64) (c0_16:UInt64) (c0_17:UInt64) (c0_18:UInt64) (c0_19:UInt64) (c0_20:Bool):OT (Sum ba aE):=
 let z0:aa:= {w0:=0,w1:=0,w2:=0,w3:=0}
 (.br (decide (a8<a7))
 (gd [inB a8 (List.length a0)] (.br (WL c0_0 (List.getD a0 (Int.toNat a8) (z0,z0,false)))
  (.ok (.inr ⟨(.ret,nl),((a8,()),((c0_0,(c0_1,(c0_2,(c0_3,(c0_4,(c0_5,(c0_6,(c0_7,(c0_8,(c0_9,(c0_10,(c0_11,(c0_12,(c0_13,(c0_14,(c0_15,(c0_16,(c0_17,(c0_18,(c0_19,(c0_20,()))))))))))))))))))))),()))⟩))
  (gd [inR (a8+(1:Int))] (.ok (.inl ((a0,((),(a7,(a8+(1:Int),())))),((c0_0,(c0_1,(c0_2,(c0_3,(c0_4,(c0_5,(c0_6,(c0_7,(c0_8,(c0_9,(c0_10,(c0_11,(c0_12,(c0_13,(c0_14,(c0_15,(c0_16,(c0_17,(c0_18,(c0_19,(c0_20,()))))))))))))))))))))),())))))))
 (.ok (.inr ⟨(.exit 0,nn),((),((c0_0,(c0_1,(c0_2,(c0_3,(c0_4,(c0_5,(c0_6,(c0_7,(c0_8,(c0_9,(c0_10,(c0_11,(c0_12,(c0_13,(c0_14,(c0_15,(c0_16,(c0_17,(c0_18,(c0_19,(c0_20,()))))))))))))))))))))),()))⟩)))
def oY (s:ba):OT (Sum ba aE):=anU (s.1.1) (s.1.2.2.1) (s.1.2.2.2.1) (s.2.1.1) (s.2.1.2.1) (s.2.1.2.2.1) (s.2.1.2.2.2.1) (s.2.1.2.2.2.2.1) (s.2.1.2.2.2.2.2.1) (s.2.1.2.2.2.2.2.2.1) (s.2.1.2.2.2.2.2.2.2.1) (s.2.1.2.2.2.2.2.2.2.2.1) (s.2.1.2.2.2.2.2.2.2.2.2.1) (s.2.1.2.2.2.2.2.2.2.2.2.2.1) (s.2.1.2.2.2.2.2.2.2.2.2.2.2.1) (s.2.1.2.2.2.2.2.2.2.2.2.2.2.2.1) (s.2.1.2.2.2.2.2.2.2.2.2.2.2.2.2.1) (s.2.1.2.2.2.2.2.2.2.2.2.2.2.2.2.2.1) (s.2.1.2.2.2.2.2.2.2.2.2.2.2.2.2.2.2.1) (s.2.1.2.2.2.2.2.2.2.2.2.2.2.2.2.2.2.2.1) (s.2.1.2.2.2.2.2.2.2.2.2.2.2.2.2.2.2.2.2.1) (s.2.1.2.2.2.2.2.2.2.2.2.2.2.2.2.2.2.2.2.2.1) (s.2.1.2.2.2.2.2.2.2.2.2.2.2.2.2.2.2.2.2.2.2.1) (s.2.1.2.2.2.2.2.2.2.2.2.2.2.2.2.2.2.2.2.2.2.2.1)
theorem anR (s:ba) (Q:Sum ba aE->Prop):wps te xq av 1000 (aV (aj Tryz.f112) 0) (oX.inj s) (bV oX QX (Q:Sum oX.T aE->Prop))=(oY s).wpR Q:=by kernel_rfl
def vT (g0_r:ba->iJ) (c0_r:ba->Bool) (g0_0:ba->iK) (s:ba):OT aE:=(.br (c0_r s) (.ok ⟨(.ret,nl),g0_r s⟩) (.ok ⟨(.exit 0,nn),g0_0 s⟩))
def jy:az:=⟨[.val false .int],[(0,.cells [.val false .int,.val false .int,.val false (.list (.prod .elem (.prod .elem .bool))),.val false .u64,.val false .u64,.val false .u64,.val false .u64,.val false .u64,.val false .u64,.val false .u64,.val false .u64,.val false .bool,.val false .u64,.val false .u64,.val false .u64,.val false .u64,.val false .u64,.val false .u64,.val false .u64,.val false .u64,.val false .bool])],false⟩
def KS:SV->Option az:=λ_=>some jy
def KV (ok0:ba->Bool) (g0_r:ba->iJ) (c0_r:ba->Bool) (g0_0:ba->iK) (a0:List ((aa×(aa×Bool)))) (c0_0:Int) (c0_1:Int) (c0_2:List ((aa×(aa×Bool)))) (c0_3:UInt64) (c0_4:UInt64) (c0_5:UInt64) (c0_6:UInt64) (c0_7:UInt64) (c0_8:UInt64) (c0_9:UInt64) (c0_10:UInt64) (c0_11:Bool) (c0_12:UInt64) (c0_13:UInt64) (c0_14:UInt64) (c0_15:UInt64) (c0_16:UInt64) (c0_17:UInt64) (c0_18:UInt64) (c0_19:UInt64) (c0_20:Bool):OT fc.Y:=
 let z0:(List (aa×aa×Bool)×PUnit×Int×Int×PUnit)×(Int×Int×List (aa×aa×Bool)×UInt64×UInt64×UInt64×UInt64×UInt64×UInt64×UInt64×UInt64×Bool×UInt64×UInt64×UInt64×UInt64×UInt64×UInt64×UInt64×UInt64×Bool×PUnit)×PUnit:=((a0,(),(↑(List.length a0):Int),(0:Int),()),(c0_0,c0_1,c0_2,c0_3,c0_4,c0_5,c0_6,c0_7,c0_8,c0_9,c0_10,c0_11,c0_12,c0_13,c0_14,c0_15,c0_16,c0_17,c0_18,c0_19,c0_20,()),())
 let z1:(Int×PUnit)×(Int×Int×List (aa×aa×Bool)×UInt64×UInt64×UInt64×UInt64×UInt64×UInt64×UInt64×UInt64×Bool×UInt64×UInt64×UInt64×UInt64×UInt64×UInt64×UInt64×UInt64×Bool×PUnit)×PUnit:=g0_r z0
 let z2:=z1.snd.fst
 let z3:=z2.snd
 let z4:=z3.snd
 let z5:=z4.snd
 let z6:=z5.snd
 let z7:=z6.snd
 let z8:=z7.snd
 let z9:=z8.snd
 let z10:=z9.snd
 let z11:=z10.snd
 let z12:=z11.snd
 let z13:=z12.snd
 let z14:=z13.snd
 let z15:=z14.snd
 let z16:=z15.snd
 let z17:=z16.snd
 let z18:=z17.snd
 let z19:=z18.snd
 let z20:=z19.snd
 let z21:=z20.snd
 let z22:=(g0_0 z0).snd.fst
 let z23:=z22.snd
 let z24:=z23.snd
 let z25:=z24.snd
 let z26:=z25.snd
 let z27:=z26.snd
 let z28:=z27.snd
 let z29:=z28.snd
 let z30:=z29.snd
 let z31:=z30.snd
 let z32:=z31.snd
 let z33:=z32.snd
 let z34:=z33.snd
 let z35:=z34.snd
 let z36:=z35.snd
 let z37:=z36.snd
 let z38:=z37.snd
 let z39:=z38.snd
 let z40:=z39.snd
 let z41:=z40.snd
 (gd [ok0 z0] (.br (c0_r z0)
 (.ok ⟨jy,((z1.fst.fst,()),((z2.fst,(z3.fst,(z4.fst,(z5.fst,(z6.fst,(z7.fst,(z8.fst,(z9.fst,(z10.fst,(z11.fst,(z12.fst,(z13.fst,(z14.fst,(z15.fst,(z16.fst,(z17.fst,(z18.fst,(z19.fst,(z20.fst,(z21.fst,(z21.snd.fst,()))))))))))))))))))))),()))⟩)
 (.ok ⟨jy,(((-1:Int),()),((z22.fst,(z23.fst,(z24.fst,(z25.fst,(z26.fst,(z27.fst,(z28.fst,(z29.fst,(z30.fst,(z31.fst,(z32.fst,(z33.fst,(z34.fst,(z35.fst,(z36.fst,(z37.fst,(z38.fst,(z39.fst,(z40.fst,(z41.fst,(z41.snd.fst,()))))))))))))))))))))),()))⟩)))
theorem auD (ok0:ba->Bool) (g0_r:ba->iJ) (c0_r:ba->Bool) (g0_0:ba->iK) (x:vU) (Q:fc.Y->Prop):wpf te xq (aO 0 (cb oX 0 ok0 (vT g0_r c0_r g0_0)) av) 1000 Tryz.f112 (fc.inp.inj x).tm (fc.inp.inj x).hp (fnK fc KS Q) (λ_ _=>False)=(KV ok0 g0_r c0_r g0_0 (x.1.1) (x.2.1.1) (x.2.1.2.1) (x.2.1.2.2.1) (x.2.1.2.2.2.1) (x.2.1.2.2.2.2.1) (x.2.1.2.2.2.2.2.1) (x.2.1.2.2.2.2.2.2.1) (x.2.1.2.2.2.2.2.2.2.1) (x.2.1.2.2.2.2.2.2.2.2.1) (x.2.1.2.2.2.2.2.2.2.2.2.1) (x.2.1.2.2.2.2.2.2.2.2.2.2.1) (x.2.1.2.2.2.2.2.2.2.2.2.2.2.1) (x.2.1.2.2.2.2.2.2.2.2.2.2.2.2.1) (x.2.1.2.2.2.2.2.2.2.2.2.2.2.2.2.1) (x.2.1.2.2.2.2.2.2.2.2.2.2.2.2.2.2.1) (x.2.1.2.2.2.2.2.2.2.2.2.2.2.2.2.2.2.1) (x.2.1.2.2.2.2.2.2.2.2.2.2.2.2.2.2.2.2.1) (x.2.1.2.2.2.2.2.2.2.2.2.2.2.2.2.2.2.2.2.1) (x.2.1.2.2.2.2.2.2.2.2.2.2.2.2.2.2.2.2.2.2.1) (x.2.1.2.2.2.2.2.2.2.2.2.2.2.2.2.2.2.2.2.2.2.1) (x.2.1.2.2.2.2.2.2.2.2.2.2.2.2.2.2.2.2.2.2.2.2.1)).wpR Q:=by kernel_rfl
theorem YT (ok0:ba->Bool) (g0_r:ba->iJ) (c0_r:ba->Bool) (g0_0:ba->iK) (h0:∀ s:ba,ok0 s=true->∃ m e,al (oY) m s=some e/\(vT g0_r c0_r g0_0 s).run=some e) (pre:vU->Bool) (F:vU->OT fc.Y) (hF:∀ (x:vU) oy,pre x=true->(F x).run=some oy->(KV ok0 g0_r c0_r g0_0 (x.1.1) (x.2.1.1) (x.2.1.2.1) (x.2.1.2.2.1) (x.2.1.2.2.2.1) (x.2.1.2.2.2.2.1) (x.2.1.2.2.2.2.2.1) (x.2.1.2.2.2.2.2.2.1) (x.2.1.2.2.2.2.2.2.2.1) (x.2.1.2.2.2.2.2.2.2.2.1) (x.2.1.2.2.2.2.2.2.2.2.2.1) (x.2.1.2.2.2.2.2.2.2.2.2.2.1) (x.2.1.2.2.2.2.2.2.2.2.2.2.2.1) (x.2.1.2.2.2.2.2.2.2.2.2.2.2.2.1) (x.2.1.2.2.2.2.2.2.2.2.2.2.2.2.2.1) (x.2.1.2.2.2.2.2.2.2.2.2.2.2.2.2.2.1) (x.2.1.2.2.2.2.2.2.2.2.2.2.2.2.2.2.2.1) (x.2.1.2.2.2.2.2.2.2.2.2.2.2.2.2.2.2.2.1) (x.2.1.2.2.2.2.2.2.2.2.2.2.2.2.2.2.2.2.2.1) (x.2.1.2.2.2.2.2.2.2.2.2.2.2.2.2.2.2.2.2.2.1) (x.2.1.2.2.2.2.2.2.2.2.2.2.2.2.2.2.2.2.2.2.2.1) (x.2.1.2.2.2.2.2.2.2.2.2.2.2.2.2.2.2.2.2.2.2.2.1)).run=some oy):ac Tryz.prog 112 (fc.aH pre F):=
 aD aq rO HM (f:=112) (fn:=Tryz.f112) (c:=aj Tryz.f112) (by kernel_rfl) (by kernel_rfl) (by kernel_rfl) (S:=fc) (k:=1) (by kernel_rfl) (λR hR=>(aB (c:=(aj Tryz.f112)) (by kernel_rfl) (id:=0) (by kernel_rfl) (aS aq rO HM (sh:=oX) hR (xs:=QX) (aC (by kernel_rfl) (by kernel_rfl) hR) aK af (n:=1000) (T:=oY) (λs Q=>anR s Q) (ok:=ok0) (f:=vT g0_r c0_r g0_0) h0) af)) (n:=1000) (sel:=KS) (λv o h=>by cases h;rfl) (pre:=pre) (F:=F) (T:=λx=>KV ok0 g0_r c0_r g0_0 (x.1.1) (x.2.1.1) (x.2.1.2.1) (x.2.1.2.2.1) (x.2.1.2.2.2.1) (x.2.1.2.2.2.2.1) (x.2.1.2.2.2.2.2.1) (x.2.1.2.2.2.2.2.2.1) (x.2.1.2.2.2.2.2.2.2.1) (x.2.1.2.2.2.2.2.2.2.2.1) (x.2.1.2.2.2.2.2.2.2.2.2.1) (x.2.1.2.2.2.2.2.2.2.2.2.2.1) (x.2.1.2.2.2.2.2.2.2.2.2.2.2.1) (x.2.1.2.2.2.2.2.2.2.2.2.2.2.2.1) (x.2.1.2.2.2.2.2.2.2.2.2.2.2.2.2.1) (x.2.1.2.2.2.2.2.2.2.2.2.2.2.2.2.2.1) (x.2.1.2.2.2.2.2.2.2.2.2.2.2.2.2.2.2.1) (x.2.1.2.2.2.2.2.2.2.2.2.2.2.2.2.2.2.2.1) (x.2.1.2.2.2.2.2.2.2.2.2.2.2.2.2.2.2.2.2.1) (x.2.1.2.2.2.2.2.2.2.2.2.2.2.2.2.2.2.2.2.2.1) (x.2.1.2.2.2.2.2.2.2.2.2.2.2.2.2.2.2.2.2.2.2.1) (x.2.1.2.2.2.2.2.2.2.2.2.2.2.2.2.2.2.2.2.2.2.2.1)) (λx Q=>auD ok0 g0_r c0_r g0_0 x Q) hF
def tW (l:List Pt) (i:aEd):Nat->Nat->Int
 |0,_=> -1
 |n+1,k=>cond (WL i.1 (l.getD k aet)) (k:Int) (tW l i n (k+1))
def KT (s:ba):Bool:=decide (s.1.2.2.1=(s.1.1.length:Int)/\s.1.2.2.2.1=0/\s.1.1.length<=140737488355328)
def kv (l:List Pt) (i:aEd):Int:=tW l i l.length 0
def KU (s:ba):iJ:=((kv s.1.1 s.2.1,()),s.2)
def QZ (s:ba):Bool:=decide (0<=kv s.1.1 s.2.1)
def QY (s:ba):iK:=((),s.2)
def KW (l:List Pt) (i:aEd) (k:Int):ba:=((l,(),(l.length:Int),k,()),(i,()))
theorem RE (l:List Pt) (i:aEd):∀ n k,tW l i n k= -1\/0<=tW l i n k
 |0,_=>.inl rfl
 |n+1,k=>by
  unfold tW
  cases WL i.1 (l.getD k aet)
  ·exact RE l i n (k+1)
  ·right
   show (0:Int)<=(k:Int)
   omega
theorem YV (l:List Pt) (i:aEd) (hl:l.length<=140737488355328):∀ n k:Nat,k+n=l.length->
 ∃ m,al oY m (KW l i (k:Int))=some (cond (decide (0<=tW l i n k)) ⟨(.ret,nl),((tW l i n k,()),(i,()))⟩ ⟨(.exit 0,nn),((),(i,()))⟩)
 |0,k,h=>⟨1,aM (OT.ar (decide_eq_false (by dsimp only [KW];omega)))⟩
 |n+1,k,h=>by
  have hin:inB (k:Int) l.length=true:=aN (by omega)
  have hgd:∀ z:OT (Sum ba aE),(gd [inB (k:Int) l.length] z).run=z.run:=λz=>ah (by rw [hin];rfl)
  unfold tW
  rcases (Bool.eq_false_or_eq_true (WL i.1 (l.getD k aet))).symm with hb|hb
  ·obtain ⟨m,hm⟩:=YV l i hl n (k+1) (by omega)
   rw [hb]
   refine ⟨m+1,aG ?_ hm⟩
   refine (OT.ap (decide_eq_true (by dsimp only [KW];omega))).trans ((hgd _).trans ((OT.ar hb).trans ((ah ?_).trans rfl)))
   simp only [List.all_cons,List.all_nil,Bool.and_true]
   exact aI (by dsimp only [KW];omega)
  ·rw [hb]
   have e:decide ((0:Int)<=cond true (k:Int) (tW l i n (k+1)))=true:=decide_eq_true (by show (0:Int)<=(k:Int);omega)
   rw [e]
   refine ⟨1,aM ?_⟩
   exact (OT.ap (decide_eq_true (by dsimp only [KW];omega))).trans ((hgd _).trans ((OT.ap hb).trans rfl))
theorem anT:∀ s:ba,KT s=true->∃ m e,al oY m s=some e/\(vT KU QZ QY s).run=some e:=by
 rintro ⟨⟨l,⟨⟩,n,k,⟨⟩⟩,⟨i,⟨⟩⟩⟩ h
 have h':=of_decide_eq_true h
 dsimp only at h'
 obtain ⟨rfl,rfl,hl⟩:=h'
 obtain ⟨m,hm⟩:=YV l i hl l.length 0 (by omega)
 refine ⟨m,_,hm,?_⟩
 show (OT.br (decide (0<=kv l i)) _ _:OT aE).run=some (cond (decide (0<=kv l i)) _ _)
 cases decide (0<=kv l i)<;>rfl
def yS (x:vU):Bool:=decide (x.1.1.length<=140737488355328)
def YU (x:vU):OT fc.Y:=.ok ⟨jy,((kv x.1.1 x.2.1,()),x.2)⟩
theorem anS:ac Tryz.prog 112 (fc.aH yS YU):=YT KT KU QZ QY anT _ _ λx oy hp ho=>by
 rw [<-ho]
 clear ho
 obtain ⟨⟨l,⟨⟩,⟨⟩⟩,⟨i,⟨⟩⟩⟩:=x
 have hl:l.length<=140737488355328:=of_decide_eq_true hp
 refine (ah ?_).trans ?_
 ·simp only [List.all_cons,List.all_nil,Bool.and_true]
  exact decide_eq_true ⟨rfl,rfl,hl⟩
 ·show (OT.br (decide (0<=kv l i)) (.ok ⟨jy,((kv l i,()),(i,()))⟩) (.ok ⟨jy,(((-1:Int),()),(i,()))⟩):OT fc.Y).run=some ⟨jy,((kv l i,()),(i,()))⟩
  rcases RE l i l.length 0 with h|h
  ·have h:kv l i= -1:=h
   rw [h]
   rfl
  ·exact OT.ap (decide_eq_true h)
def tn:cf:=(fc.aH yS YU)
theorem Um:ac Tryz.prog 112 tn:=anS
theorem Ul:aF tn:=aA
def uS:Env:=ay 112 tn xq
theorem uR:aQ Tryz.prog uS:=ag Um rO
theorem yd:ax uS:=ae Ul Dc
theorem Ws:aU Tryz.prog te uS:=aJ follows aq uR yd
def iM:aw:=⟨[.val false (.list (.prod .elem (.prod .elem .bool))),.fn 71 [0]],[(0,aK0)],false,1,true⟩
abbrev E4:Type:=((List ((aa×(aa×Bool))))×(Unit)×Unit)×(((Int)×(Int)×(List ((aa×(aa×Bool))))×(UInt64)×(UInt64)×(UInt64)×(UInt64)×(UInt64)×(UInt64)×(UInt64)×(UInt64)×(Bool)×(UInt64)×(UInt64)×(UInt64)×(UInt64)×(UInt64)×(UInt64)×(UInt64)×(UInt64)×(Bool)×Unit)×Unit)
def K2:az:=⟨[.val false .bool],[(0,.cells [.val false .int,.val false .int,.val false (.list (.prod .elem (.prod .elem .bool))),.val false .u64,.val false .u64,.val false .u64,.val false .u64,.val false .u64,.val false .u64,.val false .u64,.val false .u64,.val false .bool,.val false .u64,.val false .u64,.val false .u64,.val false .u64,.val false .u64,.val false .u64,.val false .u64,.val false .u64,.val false .bool])],false⟩
def Q2:SV->Option az:=λ_=>some K2
def Up (a0:List ((aa×(aa×Bool)))) (c0_0:Int) (c0_1:Int) (c0_2:List ((aa×(aa×Bool)))) (c0_3:UInt64) (c0_4:UInt64) (c0_5:UInt64) (c0_6:UInt64) (c0_7:UInt64) (c0_8:UInt64) (c0_9:UInt64) (c0_10:UInt64) (c0_11:Bool) (c0_12:UInt64) (c0_13:UInt64) (c0_14:UInt64) (c0_15:UInt64) (c0_16:UInt64) (c0_17:UInt64) (c0_18:UInt64) (c0_19:UInt64) (c0_20:Bool):OT iM.Y:=
 let z0:Int×Int×List (aa×aa×Bool)×UInt64×UInt64×UInt64×UInt64×UInt64×UInt64×UInt64×UInt64×Bool×UInt64×UInt64×UInt64×UInt64×UInt64×UInt64×UInt64×UInt64×Bool×PUnit:=(c0_0,c0_1,c0_2,c0_3,c0_4,c0_5,c0_6,c0_7,c0_8,c0_9,c0_10,c0_11,c0_12,c0_13,c0_14,c0_15,c0_16,c0_17,c0_18,c0_19,c0_20,())
 (gd [yS ((a0,(),()),z0,())] (.ok ⟨K2,((decide ((0:Int)<=kv a0 z0),()),((c0_0,(c0_1,(c0_2,(c0_3,(c0_4,(c0_5,(c0_6,(c0_7,(c0_8,(c0_9,(c0_10,(c0_11,(c0_12,(c0_13,(c0_14,(c0_15,(c0_16,(c0_17,(c0_18,(c0_19,(c0_20,()))))))))))))))))))))),()))⟩))
theorem aBo (x:E4) (Q:iM.Y->Prop):wpf te uS av 1000 Tryz.f72 (iM.inp.inj x).tm (iM.inp.inj x).hp (fnK iM Q2 Q) (λ_ _=>False)=(Up (x.1.1) (x.2.1.1) (x.2.1.2.1) (x.2.1.2.2.1) (x.2.1.2.2.2.1) (x.2.1.2.2.2.2.1) (x.2.1.2.2.2.2.2.1) (x.2.1.2.2.2.2.2.2.1) (x.2.1.2.2.2.2.2.2.2.1) (x.2.1.2.2.2.2.2.2.2.2.1) (x.2.1.2.2.2.2.2.2.2.2.2.1) (x.2.1.2.2.2.2.2.2.2.2.2.2.1) (x.2.1.2.2.2.2.2.2.2.2.2.2.2.1) (x.2.1.2.2.2.2.2.2.2.2.2.2.2.2.1) (x.2.1.2.2.2.2.2.2.2.2.2.2.2.2.2.1) (x.2.1.2.2.2.2.2.2.2.2.2.2.2.2.2.2.1) (x.2.1.2.2.2.2.2.2.2.2.2.2.2.2.2.2.2.1) (x.2.1.2.2.2.2.2.2.2.2.2.2.2.2.2.2.2.2.1) (x.2.1.2.2.2.2.2.2.2.2.2.2.2.2.2.2.2.2.2.1) (x.2.1.2.2.2.2.2.2.2.2.2.2.2.2.2.2.2.2.2.2.1) (x.2.1.2.2.2.2.2.2.2.2.2.2.2.2.2.2.2.2.2.2.2.1) (x.2.1.2.2.2.2.2.2.2.2.2.2.2.2.2.2.2.2.2.2.2.2.1)).wpR Q:=by kernel_rfl
theorem ael (pre:E4->Bool) (F:E4->OT iM.Y) (hF:∀ (x:E4) oy,pre x=true->(F x).run=some oy->(Up (x.1.1) (x.2.1.1) (x.2.1.2.1) (x.2.1.2.2.1) (x.2.1.2.2.2.1) (x.2.1.2.2.2.2.1) (x.2.1.2.2.2.2.2.1) (x.2.1.2.2.2.2.2.2.1) (x.2.1.2.2.2.2.2.2.2.1) (x.2.1.2.2.2.2.2.2.2.2.1) (x.2.1.2.2.2.2.2.2.2.2.2.1) (x.2.1.2.2.2.2.2.2.2.2.2.2.1) (x.2.1.2.2.2.2.2.2.2.2.2.2.2.1) (x.2.1.2.2.2.2.2.2.2.2.2.2.2.2.1) (x.2.1.2.2.2.2.2.2.2.2.2.2.2.2.2.1) (x.2.1.2.2.2.2.2.2.2.2.2.2.2.2.2.2.1) (x.2.1.2.2.2.2.2.2.2.2.2.2.2.2.2.2.2.1) (x.2.1.2.2.2.2.2.2.2.2.2.2.2.2.2.2.2.2.1) (x.2.1.2.2.2.2.2.2.2.2.2.2.2.2.2.2.2.2.2.1) (x.2.1.2.2.2.2.2.2.2.2.2.2.2.2.2.2.2.2.2.2.1) (x.2.1.2.2.2.2.2.2.2.2.2.2.2.2.2.2.2.2.2.2.2.1) (x.2.1.2.2.2.2.2.2.2.2.2.2.2.2.2.2.2.2.2.2.2.2.1)).run=some oy):ac Tryz.prog 72 (iM.aH pre F):=
 aD aq uR Ws (f:=72) (fn:=Tryz.f72) (c:=aj Tryz.f72) (by kernel_rfl) (by kernel_rfl) (by kernel_rfl) (S:=iM) (k:=1) (by kernel_rfl) (λR hR=>af) (n:=1000) (sel:=Q2) (λv o h=>by cases h;rfl) (pre:=pre) (F:=F) (T:=λx=>Up (x.1.1) (x.2.1.1) (x.2.1.2.1) (x.2.1.2.2.1) (x.2.1.2.2.2.1) (x.2.1.2.2.2.2.1) (x.2.1.2.2.2.2.2.1) (x.2.1.2.2.2.2.2.2.1) (x.2.1.2.2.2.2.2.2.2.1) (x.2.1.2.2.2.2.2.2.2.2.1) (x.2.1.2.2.2.2.2.2.2.2.2.1) (x.2.1.2.2.2.2.2.2.2.2.2.2.1) (x.2.1.2.2.2.2.2.2.2.2.2.2.2.1) (x.2.1.2.2.2.2.2.2.2.2.2.2.2.2.1) (x.2.1.2.2.2.2.2.2.2.2.2.2.2.2.2.1) (x.2.1.2.2.2.2.2.2.2.2.2.2.2.2.2.2.1) (x.2.1.2.2.2.2.2.2.2.2.2.2.2.2.2.2.2.1) (x.2.1.2.2.2.2.2.2.2.2.2.2.2.2.2.2.2.2.1) (x.2.1.2.2.2.2.2.2.2.2.2.2.2.2.2.2.2.2.2.1) (x.2.1.2.2.2.2.2.2.2.2.2.2.2.2.2.2.2.2.2.2.1) (x.2.1.2.2.2.2.2.2.2.2.2.2.2.2.2.2.2.2.2.2.2.1) (x.2.1.2.2.2.2.2.2.2.2.2.2.2.2.2.2.2.2.2.2.2.2.1)) (λx Q=>aBo x Q) hF
def axT (l:List Pt) (i:aEd):Bool:=decide (0<=kv l i)
def E3 (x:E4):Bool:=decide (x.1.1.length<=140737488355328)
def aj9 (x:E4):OT iM.Y:=.ok ⟨K2,((axT x.1.1 x.2.1,()),x.2)⟩
theorem auG:ac Tryz.prog 72 (iM.aH E3 aj9):=ael _ _ λx oy hp ho=>by
 rw [<-ho]
 clear ho
 refine (ah ?_).trans rfl
 simp only [List.all_cons,List.all_nil,Bool.and_true]
 exact hp
def yU:cf:=(iM.aH E3 aj9)
theorem YZ:ac Tryz.prog 72 yU:=auG
theorem YY:aF yU:=aA
def Dh:Env:=ay 72 yU uS
theorem zW:aQ Tryz.prog Dh:=ag YZ uR
theorem Dg:ax Dh:=ae YY yd
theorem abJ:aU Tryz.prog te Dh:=aJ follows aq zW Dg
def gK:aw:=⟨[.val true aLp],[],true,0,false⟩
abbrev E7:Type:=(((Int×(Int×(List ((aa×(aa×Bool)))×((aa×(aa×Bool))×(aa×(aa×Bool)))))))×Unit)×(Unit)
def fO:az:=⟨[.val false .int],[],false⟩
def Q4:SV->Option az:=λ_=>some fO
def BB (a0:(Int×(Int×(List ((aa×(aa×Bool)))×((aa×(aa×Bool))×(aa×(aa×Bool))))))):OT gK.Y:=
 let z0:Int×Int×List (aa×aa×Bool)×UInt64×UInt64×UInt64×UInt64×UInt64×UInt64×UInt64×UInt64×Bool×UInt64×UInt64×UInt64×UInt64×UInt64×UInt64×UInt64×UInt64×Bool×PUnit:=(a0.fst,a0.snd.fst,a0.snd.snd.fst,a0.snd.snd.snd.fst.fst.w0,a0.snd.snd.snd.fst.fst.w1,a0.snd.snd.snd.fst.fst.w2,a0.snd.snd.snd.fst.fst.w3,a0.snd.snd.snd.fst.snd.fst.w0,a0.snd.snd.snd.fst.snd.fst.w1,a0.snd.snd.snd.fst.snd.fst.w2,a0.snd.snd.snd.fst.snd.fst.w3,a0.snd.snd.snd.fst.snd.snd,a0.snd.snd.snd.snd.fst.w0,a0.snd.snd.snd.snd.fst.w1,a0.snd.snd.snd.snd.fst.w2,a0.snd.snd.snd.snd.fst.w3,a0.snd.snd.snd.snd.snd.fst.w0,a0.snd.snd.snd.snd.snd.fst.w1,a0.snd.snd.snd.snd.snd.fst.w2,a0.snd.snd.snd.snd.snd.fst.w3,a0.snd.snd.snd.snd.snd.snd,())
 (.br (ao a0.fst)
 (.br (decide (a0.snd.fst<(0:Int)))
  (.ok ⟨fO,(((60:Int),()),())⟩)
  (.br (decide ((5:Int)<a0.snd.fst))
   (.ok ⟨fO,(((60:Int),()),())⟩)
   (gd [decide ((0:Int)<=a0.snd.fst)] (.br (!(↑(List.length a0.snd.snd.fst):Int)==ax8 (1:Int) a0.snd.fst)
    (.ok ⟨fO,(((90:Int),()),())⟩)
    (gd [E3 ((a0.snd.snd.fst,(),()),z0,())] (.br (axT a0.snd.snd.fst z0)
     (.ok ⟨fO,(((90:Int),()),())⟩)
     (.br (WL a0.fst a0.snd.snd.snd.fst)
      (.ok ⟨fO,(((90:Int),()),())⟩)
      (.br (WL a0.fst a0.snd.snd.snd.snd)
       (.ok ⟨fO,(((90:Int),()),())⟩)
       (.ok ⟨fO,(((0:Int),()),())⟩)))))))))
 (.ok ⟨fO,(((40:Int),()),())⟩))
theorem aBt (x:E7) (Q:gK.Y->Prop):wpf te Dh av 1000 Tryz.f35 (gK.inp.inj x).tm (gK.inp.inj x).hp (fnK gK Q4 Q) (λ_ _=>False)=(BB (x.1.1)).wpR Q:=by kernel_rfl
theorem aeo (pre:E7->Bool) (F:E7->OT gK.Y) (hF:∀ (x:E7) oy,pre x=true->(F x).run=some oy->(BB (x.1.1)).run=some oy):ac Tryz.prog 35 (gK.aH pre F):=
 aD aq zW abJ (f:=35) (fn:=Tryz.f35) (c:=aj Tryz.f35) (by kernel_rfl) (by kernel_rfl) (by kernel_rfl) (S:=gK) (k:=0) (by kernel_rfl) (λR hR=>af) (n:=1000) (sel:=Q4) (λv o h=>by cases h;rfl) (pre:=pre) (F:=F) (T:=λx=>BB (x.1.1)) (λx Q=>aBt x Q) hF
abbrev aKx:Type:=Int×(Int×(List Pt×(Pt×Pt)))
theorem amb (l:List Pt) (i:aEd):∀ n k:Nat,k+n=l.length->decide (0<=tW l i n k)=(l.drop k).any (WL i.1)
 |0,k,h=>by
  rw [List.drop_eq_nil_of_le (by omega)]
  rfl
 |n+1,k,h=>by
  have hk:k<l.length:=by omega
  have e1:l.drop k=l[k]::l.drop (k+1):=List.drop_eq_getElem_cons hk
  have e3:l.getD k aet=l[k]:=by rw [List.getD_eq_getElem?_getD,List.getElem?_eq_getElem hk];rfl
  rw [e1,List.any_cons]
  unfold tW
  rw [e3]
  cases WL i.1 l[k]
  ·rw [cond_false,Bool.false_or]
   exact amb l i n (k+1) (by omega)
  ·rw [cond_true,Bool.true_or]
   exact decide_eq_true (by omega)
theorem aIu (l:List Pt) (i:aEd):axT l i=l.any (WL i.1):=amb l i l.length 0 (by omega)
def ur (p:aKx):Int:=cond (ao p.1) (cond (decide (p.2.1<0)) 60 (cond (decide (5<p.2.1)) 60 (cond (!((p.2.2.1.length:Int)==ax8 1 p.2.1)) 90 (cond (p.2.2.1.any (WL p.1)) 90 (cond (WL p.1 p.2.2.2.1) 90 (cond (WL p.1 p.2.2.2.2) 90 0)))))) 40
def v8 (x:E7):Bool:=decide (x.1.1.2.2.1.length<=140737488355328)
def aka (x:E7):OT gK.Y:=.ok ⟨fO,((ur x.1.1,()),())⟩
theorem auM:ac Tryz.prog 35 (gK.aH v8 aka):=aeo _ _ λx oy hp ho=>by
 rw [<-ho]
 clear ho
 obtain ⟨⟨p,⟨⟩⟩,⟨⟩⟩:=x
 show (BB p).run=some (⟨fO,((ur p,()),())⟩:gK.Y)
 have hp:decide (p.2.2.1.length<=140737488355328)=true:=hp
 unfold BB ur
 simp only [aIu]
 rcases (Bool.eq_false_or_eq_true (ao p.1)).symm with h1|h1
 ·rw [h1];exact (OT.ar rfl).trans rfl
 ·rw [h1]
  refine (OT.ap rfl).trans ?_
  by_cases h2:p.2.1<0
  ·rw [decide_eq_true h2];exact (OT.ap rfl).trans rfl
  ·rw [decide_eq_false h2]
   refine (OT.ar rfl).trans ?_
   by_cases h3:5<p.2.1
   ·rw [decide_eq_true h3];exact (OT.ap rfl).trans rfl
   ·rw [decide_eq_false h3]
    refine (OT.ar rfl).trans ((ah (by rw [decide_eq_true (show 0<=p.2.1 by omega)];rfl)).trans ?_)
    rcases (Bool.eq_false_or_eq_true (!((p.2.2.1.length:Int)==ax8 1 p.2.1))).symm with h4|h4
    ·rw [h4]
     refine (OT.ar rfl).trans ((ah ?_).trans ?_)
     ·simp only [List.all_cons,List.all_nil,Bool.and_true]
      exact hp
     ·rcases (Bool.eq_false_or_eq_true (p.2.2.1.any (WL p.1))).symm with h5|h5
      ·rw [h5]
       refine (OT.ar rfl).trans ?_
       rcases (Bool.eq_false_or_eq_true (WL p.1 p.2.2.2.1)).symm with h6|h6
       ·rw [h6]
        refine (OT.ar rfl).trans ?_
        rcases (Bool.eq_false_or_eq_true (WL p.1 p.2.2.2.2)).symm with h7|h7
        ·rw [h7];exact (OT.ar rfl).trans rfl
        ·rw [h7];exact (OT.ap rfl).trans rfl
       ·rw [h6];exact (OT.ap rfl).trans rfl
      ·rw [h5];exact (OT.ap rfl).trans rfl
    ·rw [h4];exact (OT.ap rfl).trans rfl
def yX:cf:=(gK.aH v8 aka)
theorem Y5:ac Tryz.prog 35 yX:=auM
theorem Y4:aF yX:=aA
def xr:Env:=ay 35 yX Dh
theorem rP:aQ Tryz.prog xr:=ag Y5 zW
theorem Di:ax xr:=ae Y4 Dg
theorem HO:aU Tryz.prog te xr:=aJ follows aq rP Di
def eI:aw:=⟨[.val true aLp,.val false (.list .elem),.val true .elem],[],true,0,false⟩
abbrev vZ:Type:=(((Int×(Int×(List ((aa×(aa×Bool)))×((aa×(aa×Bool))×(aa×(aa×Bool)))))))×(List (aa))×(aa)×Unit)×(Unit)
def o5:Shape:=⟨54,[(3,.ptr 0 0 0),(6,.ptr 1 0 0),(9,.own 2),(30,.val false (.list .elem)),(31,.val false .int),(32,.val false .int)],[(0,.cells [.val false .int,.val false .int,.val false (.list (.prod .elem (.prod .elem .bool))),.val false .u64,.val false .u64,.val false .u64,.val false .u64,.val false .u64,.val false .u64,.val false .u64,.val false .u64,.val false .bool,.val false .u64,.val false .u64,.val false .u64,.val false .u64,.val false .u64,.val false .u64,.val false .u64,.val false .u64,.val false .bool]),(1,.cells [.val false .u64,.val false .u64,.val false .u64,.val false .u64,.val false .u64,.val false .u64,.val false .u64,.val false .u64,.val false .bool]),(2,.row (.prod .elem (.prod .elem (.prod .elem .bool))))],0,true⟩
abbrev b6:Type:=((Unit)×(Unit)×(Unit)×(List (aa))×(Int)×(Int)×Unit)×(((Int)×(Int)×(List ((aa×(aa×Bool))))×(UInt64)×(UInt64)×(UInt64)×(UInt64)×(UInt64)×(UInt64)×(UInt64)×(UInt64)×(Bool)×(UInt64)×(UInt64)×(UInt64)×(UInt64)×(UInt64)×(UInt64)×(UInt64)×(UInt64)×(Bool)×Unit)×((UInt64)×(UInt64)×(UInt64)×(UInt64)×(UInt64)×(UInt64)×(UInt64)×(UInt64)×(Bool)×Unit)×(List ((aa×(aa×(aa×Bool)))))×Unit)
def nt:Shape:=⟨54,[(3,.ptr 0 0 0),(6,.ptr 1 0 0),(9,.own 2)],[(0,.cells [.val false .int,.val false .int,.val false (.list (.prod .elem (.prod .elem .bool))),.val false .u64,.val false .u64,.val false .u64,.val false .u64,.val false .u64,.val false .u64,.val false .u64,.val false .u64,.val false .bool,.val false .u64,.val false .u64,.val false .u64,.val false .u64,.val false .u64,.val false .u64,.val false .u64,.val false .u64,.val false .bool]),(1,.cells [.val false .u64,.val false .u64,.val false .u64,.val false .u64,.val false .u64,.val false .u64,.val false .u64,.val false .u64,.val false .bool]),(2,.row (.prod .elem (.prod .elem (.prod .elem .bool))))],0,true⟩
abbrev iN:Type:=((Unit)×(Unit)×(Unit)×Unit)×(((Int)×(Int)×(List ((aa×(aa×Bool))))×(UInt64)×(UInt64)×(UInt64)×(UInt64)×(UInt64)×(UInt64)×(UInt64)×(UInt64)×(Bool)×(UInt64)×(UInt64)×(UInt64)×(UInt64)×(UInt64)×(UInt64)×(UInt64)×(UInt64)×(Bool)×Unit)×((UInt64)×(UInt64)×(UInt64)×(UInt64)×(UInt64)×(UInt64)×(UInt64)×(UInt64)×(Bool)×Unit)×(List ((aa×(aa×(aa×Bool)))))×Unit)
def Q3:SE->Option Shape:=fp [(0,nt)] none
def an5 (a30:List (aa)) (a31:Int) (a32:Int) (c0_0:Int) (c0_1:Int) (c0_2:List ((aa×(aa×Bool)))) (c0_3:UInt64) (c0_4:UInt64) (c0_5:UInt64) (c0_6:UInt64) (c0_7:UInt64) (c0_8:UInt64) (c0_9:UInt64) (c0_10:UInt64) (c0_11:Bool) (c0_12:UInt64) (c0_13:UInt64) (c0_14:UInt64) (c0_15:UInt64) (c0_16:UInt64) (c0_17:UInt64) (c0_18:UInt64) (c0_19:UInt64) (c0_20:Bool) (c1_0:UInt64) (c1_1:UInt64) (c1_2:UInt64) (c1_3:UInt64) (c1_4:UInt64) (c1_5:UInt64) (c1_6:UInt64) (c1_7:UInt64) (c1_8:Bool) (c2:List ((aa×(aa×(aa×Bool))))):OT (Sum b6 aE):=
 let z0:Nat:=Int.toNat a32
 let z1:aa:= {w0:=0,w1:=0,w2:=0,w3:=0}
 (.br (decide (a32<a31))
 (gd [inB a32 (List.length a30),inB a32 (List.length c0_2),decide ((List.length c2+1)*104<=140737488355328),inR (a32+(1:Int))] (.ok (.inl (((),((),((),(a30,(a31,(a32+(1:Int),())))))),((c0_0,(c0_1,(c0_2,(c0_3,(c0_4,(c0_5,(c0_6,(c0_7,(c0_8,(c0_9,(c0_10,(c0_11,(c0_12,(c0_13,(c0_14,(c0_15,(c0_16,(c0_17,(c0_18,(c0_19,(c0_20,()))))))))))))))))))))),((c1_0,(c1_1,(c1_2,(c1_3,(c1_4,(c1_5,(c1_6,(c1_7,(c1_8,()))))))))),(c2++ [(List.getD a30 z0 z1,List.getD c0_2 z0 (z1,z1,false))],())))))))
 (.ok (.inr ⟨(.exit 0,nt),(((),((),((),()))),((c0_0,(c0_1,(c0_2,(c0_3,(c0_4,(c0_5,(c0_6,(c0_7,(c0_8,(c0_9,(c0_10,(c0_11,(c0_12,(c0_13,(c0_14,(c0_15,(c0_16,(c0_17,(c0_18,(c0_19,(c0_20,()))))))))))))))))))))),((c1_0,(c1_1,(c1_2,(c1_3,(c1_4,(c1_5,(c1_6,(c1_7,(c1_8,()))))))))),(c2,()))))⟩)))
def o6 (s:b6):OT (Sum b6 aE):=an5 (s.1.2.2.2.1) (s.1.2.2.2.2.1) (s.1.2.2.2.2.2.1) (s.2.1.1) (s.2.1.2.1) (s.2.1.2.2.1) (s.2.1.2.2.2.1) (s.2.1.2.2.2.2.1) (s.2.1.2.2.2.2.2.1) (s.2.1.2.2.2.2.2.2.1) (s.2.1.2.2.2.2.2.2.2.1) (s.2.1.2.2.2.2.2.2.2.2.1) (s.2.1.2.2.2.2.2.2.2.2.2.1) (s.2.1.2.2.2.2.2.2.2.2.2.2.1) (s.2.1.2.2.2.2.2.2.2.2.2.2.2.1) (s.2.1.2.2.2.2.2.2.2.2.2.2.2.2.1) (s.2.1.2.2.2.2.2.2.2.2.2.2.2.2.2.1) (s.2.1.2.2.2.2.2.2.2.2.2.2.2.2.2.2.1) (s.2.1.2.2.2.2.2.2.2.2.2.2.2.2.2.2.2.1) (s.2.1.2.2.2.2.2.2.2.2.2.2.2.2.2.2.2.2.1) (s.2.1.2.2.2.2.2.2.2.2.2.2.2.2.2.2.2.2.2.1) (s.2.1.2.2.2.2.2.2.2.2.2.2.2.2.2.2.2.2.2.2.1) (s.2.1.2.2.2.2.2.2.2.2.2.2.2.2.2.2.2.2.2.2.2.1) (s.2.1.2.2.2.2.2.2.2.2.2.2.2.2.2.2.2.2.2.2.2.2.1) (s.2.2.1.1) (s.2.2.1.2.1) (s.2.2.1.2.2.1) (s.2.2.1.2.2.2.1) (s.2.2.1.2.2.2.2.1) (s.2.2.1.2.2.2.2.2.1) (s.2.2.1.2.2.2.2.2.2.1) (s.2.2.1.2.2.2.2.2.2.2.1) (s.2.2.1.2.2.2.2.2.2.2.2.1) (s.2.2.2.1)
theorem an2 (s:b6) (Q:Sum b6 aE->Prop):wps te xr av 1000 (aV (aj Tryz.f39) 0) (o5.inj s) (bV o5 Q3 (Q:Sum o5.T aE->Prop))=(o6 s).wpR Q:=by kernel_rfl
def vY (g0_0:b6->iN) (s:b6):OT aE:=(.ok ⟨(.exit 0,nt),g0_0 s⟩)
def dA:az:=⟨[.val true (.prod .elem (.prod .elem .bool)),.val false .int],[],false⟩
def K3:SV->Option az:=λ_=>some dA
def BA (ok0:b6->Bool) (g0_0:b6->iN) (a0:(Int×(Int×(List ((aa×(aa×Bool)))×((aa×(aa×Bool))×(aa×(aa×Bool))))))) (a1:List (aa)) (a2:aa):OT eI.Y:=
 let z0:Int:=ur a0
 let z1:aa:= {w0:=0,w1:=0,w2:=0,w3:=0}
 let z2:aa×aa×Bool:=(z1,z1,false)
 let z3:Int:=(↑(List.length a1):Int)
 let z4:(PUnit×PUnit×PUnit×List aa×Int×Int×PUnit)×(Int×Int×List (aa×aa×Bool)×UInt64×UInt64×UInt64×UInt64×UInt64×UInt64×UInt64×UInt64×Bool×UInt64×UInt64×UInt64×UInt64×UInt64×UInt64×UInt64×UInt64×Bool×PUnit)×(UInt64×UInt64×UInt64×UInt64×UInt64×UInt64×UInt64×UInt64×Bool×PUnit)×List (aa×aa×aa×Bool)×PUnit:=(((),(),(),a1,z3,(0:Int),()),(a0.fst,a0.snd.fst,a0.snd.snd.fst,a0.snd.snd.snd.fst.fst.w0,a0.snd.snd.snd.fst.fst.w1,a0.snd.snd.snd.fst.fst.w2,a0.snd.snd.snd.fst.fst.w3,a0.snd.snd.snd.fst.snd.fst.w0,a0.snd.snd.snd.fst.snd.fst.w1,a0.snd.snd.snd.fst.snd.fst.w2,a0.snd.snd.snd.fst.snd.fst.w3,a0.snd.snd.snd.fst.snd.snd,a0.snd.snd.snd.snd.fst.w0,a0.snd.snd.snd.snd.fst.w1,a0.snd.snd.snd.snd.fst.w2,a0.snd.snd.snd.snd.fst.w3,a0.snd.snd.snd.snd.snd.fst.w0,a0.snd.snd.snd.snd.snd.fst.w1,a0.snd.snd.snd.snd.snd.fst.w2,a0.snd.snd.snd.snd.snd.fst.w3,a0.snd.snd.snd.snd.snd.snd,()),((0:UInt64),(0:UInt64),(0:UInt64),(0:UInt64),(0:UInt64),(0:UInt64),(0:UInt64),(0:UInt64),false,()),[(a2,a0.snd.snd.snd.fst)],())
 let z5:=(g0_0 z4).snd
 let z6:=z5.fst.fst
 let z7:=z5.snd.snd.fst
 (gd [v8 ((a0,()),())] (.br (!z0==(0:Int))
 (.ok ⟨dA,((z2,(z0,())),())⟩)
 (.br (decide ((↑(List.length a0.snd.snd.fst):Int)<z3))
  (.ok ⟨dA,((z2,((50:Int),())),())⟩)
  (gd [ok0 z4] (.br (ao z6)
   (.br (decide (List.length z7<=100000))
    (.br (sj z6 z7)
     (.ok ⟨dA,((ajd z6 (acd z6 z7),((0:Int),())),())⟩)
     (.ok ⟨dA,((z2,((41:Int),())),())⟩))
    (.ok ⟨dA,((z2,((50:Int),())),())⟩))
   (.ok ⟨dA,((z2,((40:Int),())),())⟩))))))
theorem auH (ok0:b6->Bool) (g0_0:b6->iN) (x:vZ) (Q:eI.Y->Prop):wpf te xr (aO 0 (cb o5 0 ok0 (vY g0_0)) av) 1000 Tryz.f39 (eI.inp.inj x).tm (eI.inp.inj x).hp (fnK eI K3 Q) (λ_ _=>False)=(BA ok0 g0_0 (x.1.1) (x.1.2.1) (x.1.2.2.1)).wpR Q:=by kernel_rfl
theorem Y0 (ok0:b6->Bool) (g0_0:b6->iN) (h0:∀ s:b6,ok0 s=true->∃ m e,al (o6) m s=some e/\(vY g0_0 s).run=some e) (pre:vZ->Bool) (F:vZ->OT eI.Y) (hF:∀ (x:vZ) oy,pre x=true->(F x).run=some oy->(BA ok0 g0_0 (x.1.1) (x.1.2.1) (x.1.2.2.1)).run=some oy):ac Tryz.prog 39 (eI.aH pre F):=
 aD aq rP HO (f:=39) (fn:=Tryz.f39) (c:=aj Tryz.f39) (by kernel_rfl) (by kernel_rfl) (by kernel_rfl) (S:=eI) (k:=0) (by kernel_rfl) (λR hR=>(aB (c:=(aj Tryz.f39)) (by kernel_rfl) (id:=0) (by kernel_rfl) (aS aq rP HO (sh:=o5) hR (xs:=Q3) (aC (by kernel_rfl) (by kernel_rfl) hR) aK af (n:=1000) (T:=o6) (λs Q=>an2 s Q) (ok:=ok0) (f:=vY g0_0) h0) af)) (n:=1000) (sel:=K3) (λv o h=>by cases h;rfl) (pre:=pre) (F:=F) (T:=λx=>BA ok0 g0_0 (x.1.1) (x.1.2.1) (x.1.2.2.1)) (λx Q=>auH ok0 g0_0 x Q) hF
theorem aw0 {p:aKx} (h:(ur p==0)=true):p.2.2.1.length<=32:=by
 unfold ur at h
 cases h1:ao p.1
 ·rw [h1] at h;cases h
 ·rw [h1] at h
  by_cases h2:p.2.1<0
  ·rw [decide_eq_true h2] at h;cases h
  ·rw [decide_eq_false h2] at h
   by_cases h3:5<p.2.1
   ·rw [decide_eq_true h3] at h;cases h
   ·rw [decide_eq_false h3] at h
    cases h4:(p.2.2.1.length:Int)==ax8 1 p.2.1
    ·rw [h4] at h;cases h
    ·rw [beq_iff_eq] at h4
     have h6:ax8 1 p.2.1<=32:=by
      have:p.2.1=0\/p.2.1=1\/p.2.1=2\/p.2.1=3\/p.2.1=4\/p.2.1=5:=by omega
      rcases this with e|e|e|e|e|e<;>rw [e]<;>decide
     omega
def aH6 (G:List Pt) (l:List aa) (k:Nat) (o:List Tm):List Tm:=o++ [(l.getD k ⟨0,0,0,0⟩,G.getD k aet)]
def aH5 (p:aKx) (l:List aa) (b:aa):List Tm:=upto (aH6 p.2.2.1 l) [(b,p.2.2.2.1)] l.length
def yV (s:b6):Bool:=decide (s.1.2.2.2.2.1=(s.1.2.2.2.1.length:Int)/\s.1.2.2.2.2.2.1=0/\s.1.2.2.2.1.length<=s.2.1.2.2.1.length/\s.2.1.2.2.1.length<=32/\s.2.2.2.1.length=1)
def E5 (s:b6):iN:=(((),(),(),()),(s.2.1,s.2.2.1,upto (aH6 s.2.1.2.2.1 s.1.2.2.2.1) s.2.2.2.1 s.1.2.2.2.1.length,()))
theorem an4:∀ s:b6,yV s=true->∃ m e,al o6 m s=some e/\(vY E5 s).run=some e:=by
 rintro ⟨⟨⟨⟩,⟨⟩,⟨⟩,l,n,i,⟨⟩⟩,⟨q,t,o,⟨⟩⟩⟩ h
 have h':=of_decide_eq_true h
 dsimp only at h'
 obtain ⟨rfl,rfl,hl,hG,ho⟩:=h'
 obtain ⟨u,rfl⟩:∃ u,o= [u]:=by
  match o,ho with
  | [u],_=>exact ⟨u,rfl⟩
 have:=(aP (T:=o6) (λk o=>((((),(),(),l,(l.length:Int),(k:Int),()),(q,t,o,())):b6)) (aH6 q.2.2.1 l)
  (λo=>(⟨(.exit 0,nt),(((),(),(),()),(q,t,o,()))⟩:aE)) l.length [u] (λk o=>o.length=k+1) rfl (λk o hk hq=>⟨?_,?_⟩) (λo _=> ?_)).1
 ·obtain ⟨m,hm⟩:=this
  exact ⟨m,_,hm,rfl⟩
 ·have hq:o.length=k+1:=hq
  refine (OT.ap (decide_eq_true (by dsimp only;omega))).trans ((ah ?_).trans rfl)
  simp only [List.all_cons,List.all_nil,Bool.and_true,Bool.and_eq_true]
  exact ⟨aN (by omega),aN (by omega),decide_eq_true (by omega),aI (by omega)⟩
 ·show (o++ [_]).length=_
  rw [List.length_append,show o.length=k+1 from hq]
  rfl
 ·exact OT.ar (decide_eq_false (by dsimp only;omega))
def aKc (p:aKx) (l:List aa) (b:aa):Pt×Int:=cond (!(ur p==0)) (aet,ur p) (cond (decide ((p.2.2.1.length:Int)<(l.length:Int))) (aet,50)
 (cond (ao p.1) (cond (decide ((aH5 p l b).length<=100000)) (cond (sj p.1 (aH5 p l b)) (ajd p.1 (acd p.1 (aH5 p l b)),0) (aet,41)) (aet,50)) (aet,40)))
def K4 (x:vZ):Bool:=decide (x.1.1.2.2.1.length<=140737488355328)
def Y3 (x:vZ):OT eI.Y:=.ok ⟨dA,(((aKc x.1.1 x.1.2.1 x.1.2.2.1).1,((aKc x.1.1 x.1.2.1 x.1.2.2.1).2,())),())⟩
theorem an3:ac Tryz.prog 39 (eI.aH K4 Y3):=Y0 yV E5 an4 _ _ λx oy hp ho=>by
 rw [<-ho]
 clear ho
 obtain ⟨⟨p,l,b,⟨⟩⟩,⟨⟩⟩:=x
 show (BA yV E5 p l b).run=some (⟨dA,(((aKc p l b).1,((aKc p l b).2,())),())⟩:eI.Y)
 have hp:v8 ((p,()),())=true:=hp
 unfold aKc
 refine (ah (by rw [hp];rfl)).trans ?_
 rcases (Bool.eq_false_or_eq_true (!(ur p==0))).symm with h1|h1
 ·rw [h1]
  refine (OT.ar rfl).trans ?_
  by_cases h2:(p.2.2.1.length:Int)<(l.length:Int)
  ·rw [decide_eq_true h2]
   exact (OT.ap rfl).trans rfl
  ·rw [decide_eq_false h2]
   have h0:(ur p==0)=true:=by
    cases hq:ur p==0
    ·rw [hq] at h1;cases h1
    ·rfl
   have hG:=aw0 h0
   refine (OT.ar rfl).trans ((ah ?_).trans ?_)
   ·simp only [List.all_cons,List.all_nil,Bool.and_true]
    exact decide_eq_true ⟨rfl,rfl,by show l.length<=p.2.2.1.length;omega,hG,rfl⟩
   ·show (OT.br (ao p.1) (.br (decide ((aH5 p l b).length<=100000)) (.br (sj p.1 (aH5 p l b)) (.ok ⟨dA,((ajd p.1 (acd p.1 (aH5 p l b)),((0:Int),())),())⟩) (.ok ⟨dA,((aet,((41:Int),())),())⟩)) (.ok ⟨dA,((aet,((50:Int),())),())⟩)) (.ok ⟨dA,((aet,((40:Int),())),())⟩):OT eI.Y).run=_
    generalize aH5 p l b=t
    cases ao p.1<;>cases decide (t.length<=100000)<;>cases sj p.1 t<;>rfl
 ·rw [h1]
  exact (OT.ap rfl).trans rfl
def tq:cf:=(eI.aH K4 Y3)
theorem Ur:ac Tryz.prog 39 tq:=an3
theorem Uq:aF tq:=aA
def uU:Env:=ay 39 tq xr
theorem uT:aQ Tryz.prog uU:=ag Ur rP
theorem yf:ax uU:=ae Uq Di
theorem Wt:aU Tryz.prog te uU:=aJ follows aq uT yf
def iH:aw:=⟨[.val false .int,.val false .int,.val false (.list .u8)],[],false,0,false⟩
abbrev EV:Type:=((Int)×(Int)×(List (UInt8))×Unit)×(Unit)
def tj:az:=⟨[.val true (.prod .int (.prod .int (.prod (.list (.prod .elem (.prod .elem .bool))) (.prod (.prod .elem (.prod .elem .bool)) (.prod .elem (.prod .elem .bool)))))),.val false .int],[],false⟩
def QU:SV->Option az:=λ_=>some tj
def Ui (a0:Int) (a1:Int) (a2:List (UInt8)):OT iH.Y:=
 let z0:aa:= {w0:=0,w1:=0,w2:=0,w3:=0}
 let z1:aa×aa×Bool:=(z0,z0,false)
 let z2:Int×Int×List (aa×aa×Bool)×(aa×aa×Bool)×aa×aa×Bool:=((0:Int),(0:Int),[],z1,z1)
 (.br (ao a0)
 (.br (decide (a1<(0:Int)))
  (.ok ⟨tj,((z2,((60:Int),())),())⟩)
  (.br (decide ((5:Int)<a1))
   (.ok ⟨tj,((z2,((60:Int),())),())⟩)
   (gd [decide ((0:Int)<=a1),inR (ax8 (1:Int) a1+(2:Int))] .fail)))
 (.ok ⟨tj,((z2,((40:Int),())),())⟩))
theorem aBi (x:EV) (Q:iH.Y->Prop):wpf te uU (aO 0 (λ_ _=>False) av) 1000 Tryz.f31 (iH.inp.inj x).tm (iH.inp.inj x).hp (fnK iH QU Q) (λ_ _=>False)=(Ui (x.1.1) (x.1.2.1) (x.1.2.2.1)).wpR Q:=by kernel_rfl
theorem aeh (pre:EV->Bool) (F:EV->OT iH.Y) (hF:∀ (x:EV) oy,pre x=true->(F x).run=some oy->(Ui (x.1.1) (x.1.2.1) (x.1.2.2.1)).run=some oy):ac Tryz.prog 31 (iH.aH pre F):=
 aD aq uT Wt (f:=31) (fn:=Tryz.f31) (c:=aj Tryz.f31) (by kernel_rfl) (by kernel_rfl) (by kernel_rfl) (S:=iH) (k:=0) (by kernel_rfl) (λR hR=>(aB (c:=(aj Tryz.f31)) (by kernel_rfl) (id:=0) (by kernel_rfl) (λ_ _ _ _ _ _ _ _ h _=>h.elim) af)) (n:=1000) (sel:=QU) (λv o h=>by cases h;rfl) (pre:=pre) (F:=F) (T:=λx=>Ui (x.1.1) (x.1.2.1) (x.1.2.2.1)) (λx Q=>aBi x Q) hF
def aK1:aKx:=(0,0,[],aet,aet)
def QV (x:EV):Bool:=ao x.1.1&&decide (5<x.1.2.1)
def aj7 (_:EV):OT iH.Y:=.ok ⟨tj,((aK1,((60:Int),())),())⟩
theorem auv:ac Tryz.prog 31 (iH.aH QV aj7):=aeh _ _ λx oy hp ho=>by
 rw [<-ho]
 clear ho
 obtain ⟨⟨c,k,b,⟨⟩⟩,⟨⟩⟩:=x
 obtain ⟨hs,hk⟩:=(Bool.and_eq_true _ _).mp hp
 have hk:5<k:=of_decide_eq_true hk
 exact (OT.ap hs).trans ((OT.ar (decide_eq_false (show ¬k<0 by omega))).trans ((OT.ap (decide_eq_true hk)).trans rfl))
def yR:cf:=(iH.aH QV aj7)
theorem YO:ac Tryz.prog 31 yR:=auv
theorem YN:aF yR:=aA
def De:Env:=ay 31 yR uU
theorem zV:aQ Tryz.prog De:=ag YO uT
theorem Dd:ax De:=ae YN yf
theorem abI:aU Tryz.prog te De:=aJ follows aq zV Dd
def iO:aw:=⟨[],[],true,0,false⟩
abbrev E9:Type:=(Unit)×(Unit)
def BC:az:=⟨[.val false .bool],[],false⟩
def Q5:SV->Option az:=λ_=>some BC
def IP:OT iO.Y:=
 (.ok ⟨BC,((true,()),())⟩)
theorem aBu (x:E9) (Q:iO.Y->Prop):wpf te De av 1000 Tryz.f28 (iO.inp.inj x).tm (iO.inp.inj x).hp (fnK iO Q5 Q) (λ_ _=>False)=(IP).wpR Q:=by kernel_rfl
theorem aep (pre:E9->Bool) (F:E9->OT iO.Y) (hF:∀ (x:E9) oy,pre x=true->(F x).run=some oy->(IP).run=some oy):ac Tryz.prog 28 (iO.aH pre F):=
 aD aq zV abI (f:=28) (fn:=Tryz.f28) (c:=aj Tryz.f28) (by kernel_rfl) (by kernel_rfl) (by kernel_rfl) (S:=iO) (k:=0) (by kernel_rfl) (λR hR=>af) (n:=1000) (sel:=Q5) (λv o h=>by cases h;rfl) (pre:=pre) (F:=F) (T:=λx=>IP) (λx Q=>aBu x Q) hF
def Q6 (_:E9):Bool:=true
def akd (_:E9):OT iO.Y:=.ok ⟨BC,((true,()),())⟩
theorem auN:ac Tryz.prog 28 (iO.aH Q6 akd):=aep _ _ λx oy hp ho=>by
 rw [<-ho]
 clear ho
 show IP.run=some ⟨BC,((true,()),())⟩
 kernel_rfl
def yY:cf:=(iO.aH Q6 akd)
theorem Y8:ac Tryz.prog 28 yY:=auN
theorem Y7:aF yY:=aA
def Dk:Env:=ay 28 yY De
theorem zZ:aQ Tryz.prog Dk:=ag Y8 zV
theorem Dj:ax Dk:=ae Y7 Dd
theorem abK:aU Tryz.prog te Dk:=aJ follows aq zZ Dj
end Go.Proofs.YtohjofabochgfaaGreat

namespace Go.Proofs.YtohjofabochgfaaGreat
def zc (p:Nat):Nat->PtQ->PtQ
 |0,_=>none
 |n+1,P=>gS p P (zc p n P)
variable {p b:Nat}
theorem K6 (c:Cur p b) {P:PtQ} (hP:OnQ p b P):∀ n,OnQ p b (zc p n P)
 |0=>trivial
 |n+1=>xN c hP (K6 c hP n)
theorem mul_one (P:PtQ):zc p 1 P=P:=db P
theorem akl:∀ n,zc p n none=none
 |0=>rfl
 |n+1=>akl n
theorem UD (c:Cur p b) {P:PtQ} (hP:OnQ p b P) (m:Nat):∀ n,zc p (n+m) P=gS p (zc p n P) (zc p m P)
 |0=>by rw [Nat.zero_add];rfl
 |n+1=>by
  rw [show n+1+m=(n+m)+1 by omega]
  show gS p P (zc p (n+m) P)=gS p (gS p P (zc p n P)) (zc p m P)
  rw [UD c hP m n,add_assoc c hP (K6 c hP n) (K6 c hP m)]
theorem BI (c:Cur p b) {P:PtQ} (hP:OnQ p b P) (m:Nat):∀ n,zc p (n*m) P=zc p n (zc p m P)
 |0=>by rw [Nat.zero_mul];rfl
 |n+1=>by
  rw [show (n+1)*m=m+n*m by rw [Nat.succ_mul,Nat.add_comm],UD c hP,BI c hP m n]
  rfl
theorem mul_comm (c:Cur p b) {P:PtQ} (hP:OnQ p b P) (m n:Nat):zc p n (zc p m P)=zc p m (zc p n P):=by
 rw [<-BI c hP,<-BI c hP,Nat.mul_comm]
theorem aDb (c:Cur p b) {A B C D:PtQ} (hA:OnQ p b A) (hB:OnQ p b B) (hC:OnQ p b C) (hD:OnQ p b D):
 gS p (gS p A B) (gS p C D)=gS p (gS p A C) (gS p B D):=by
 rw [add_assoc c hA hB (xN c hC hD),<-add_assoc c hB hC hD,add_comm c hB hC,add_assoc c hC hB hD,<-add_assoc c hA hC (xN c hB hD)]
theorem mul_add (c:Cur p b) {P R:PtQ} (hP:OnQ p b P) (hR:OnQ p b R):∀ n,zc p n (gS p P R)=gS p (zc p n P) (zc p n R)
 |0=>rfl
 |n+1=>by
  show gS p (gS p P R) (zc p n (gS p P R))=gS p (gS p P (zc p n P)) (gS p R (zc p n R))
  rw [mul_add c hP hR n,aDb c hP hR (K6 c hP n) (K6 c hR n)]
theorem mul_neg (c:Cur p b) {P:PtQ} (hP:OnQ p b P):∀ n,zc p n (Zf p P)=Zf p (zc p n P)
 |0=>rfl
 |n+1=>by
  show gS p (Zf p P) (zc p n (Zf p P))=Zf p (gS p P (zc p n P))
  rw [mul_neg c hP n,neg_add c hP (K6 c hP n)]
theorem mul_mod (c:Cur p b) {P:PtQ} (hP:OnQ p b P) {q:Nat} (hq:zc p q P=none) (n:Nat):zc p (n%q) P=zc p n P:=by
 have e:=Nat.div_add_mod n q
 conv=>rhs;rw [<-e,Nat.mul_comm,UD c hP,BI c hP,hq,akl]
 rfl
end Go.Proofs.YtohjofabochgfaaGreat

namespace Go.Proofs.YtohjofabochgfaaGreat
open Sx Go
end Go.Proofs.YtohjofabochgfaaGreat

namespace Go.Proofs.YtohjofabochgfaaGreat
open Sx Go
end Go.Proofs.YtohjofabochgfaaGreat

namespace Go.Proofs.YtohjofabochgfaaGreat
open Sx Go
end Go.Proofs.YtohjofabochgfaaGreat

namespace Go.Proofs.YtohjofabochgfaaGreat
open Sx Go
end Go.Proofs.YtohjofabochgfaaGreat

namespace Go.Proofs.YtohjofabochgfaaGreat
open Sx Go
def Gp {p b:Nat} (_:Cur p b):Type:= {P:PtQ//OnQ p b P}
section
variable {p b:Nat} {c:Cur p b}
instance:Add (Gp c):=⟨λx y=>⟨gS p x.1 y.1,xN c x.2 y.2⟩⟩
instance:Zero (Gp c):=⟨⟨none,trivial⟩⟩
instance:Neg (Gp c):=⟨λx=>⟨Zf p x.1,K5 c x.2⟩⟩
instance:Std.Associative (α:=Gp c) (· + ·):=⟨λx y z=>Subtype.ext (add_assoc c x.2 y.2 z.2)⟩
instance:Std.Commutative (α:=Gp c) (· + ·):=⟨λx y=>Subtype.ext (add_comm c x.2 y.2)⟩
def sm (n:Nat) (x:Gp c):Gp c:=⟨zc p n x.1,K6 c x.2 n⟩
end
section
variable {s:Int} (hs:ao s=true)
end
end Go.Proofs.YtohjofabochgfaaGreat

namespace Go.Proofs.YtohjofabochgfaaGreat
open Sx Go
set_option maxRecDepth 100000
def JP:aw:=⟨[],[],true,0,false⟩
abbrev aIA:Type:=(Unit)×(Unit)
def as1:az:=⟨[.val true (.arr 8 .u64)],[],false⟩
def asZ:SV->Option az:=λ_=>some as1
def aGh:OT JP.Y:=
 (.ok ⟨as1,(([(7640891576956012808:UInt64),(13503953896175478587:UInt64),(4354685564936845355:UInt64),(11912009170470909681:UInt64),(5840696475078001361:UInt64),(11170449401992604703:UInt64),(2270897969802886507:UInt64),(6620516959819538809:UInt64)],()),())⟩)
theorem aKU (x:aIA) (Q:JP.Y->Prop):wpf te Dk av 1000 Tryz.f104 (JP.inp.inj x).tm (JP.inp.inj x).hp (fnK JP asZ Q) (λ_ _=>False)=(aGh).wpR Q:=by kernel_rfl
theorem aAx (pre:aIA->Bool) (F:aIA->OT JP.Y) (hF:∀ (x:aIA) oy,pre x=true->(F x).run=some oy->(aGh).run=some oy):ac Tryz.prog 104 (JP.aH pre F):=
 aD aq zZ abK (f:=104) (fn:=Tryz.f104) (c:=aj Tryz.f104) (by kernel_rfl) (by kernel_rfl) (by kernel_rfl) (S:=JP) (k:=0) (by kernel_rfl) (λR hR=>af) (n:=1000) (sel:=asZ) (λv o h=>by cases h;rfl) (pre:=pre) (F:=F) (T:=λx=>aGh) (λx Q=>aKU x Q) hF
def as0 (_:aIA):Bool:=true
def aJl (_:aIA):OT JP.Y:=.ok ⟨as1,((bIV,()),())⟩
theorem aJk:ac Tryz.prog 104 (JP.aH as0 aJl):=aAx _ _ λx oy _ ho=>ho
def Tq:cf:=(JP.aH as0 aJl)
theorem as2:ac Tryz.prog 104 Tq:=aJk
theorem asY:aF Tq:=aA
def aql:Env:=ay 104 Tq Dk
theorem Jj:aQ Tryz.prog aql:=ag as2 zZ
theorem SC:ax aql:=ae asY Dj
theorem abB:aU Tryz.prog te aql:=aJ follows aq Jj SC
def lG:aw:=⟨[.val false (.list .u8),.val false .int],[],true,0,false⟩
abbrev PZ:Type:=((List (UInt8))×(Int)×Unit)×(Unit)
def AO:Shape:=⟨29,[(0,.val false (.list .u8)),(1,.val false .int),(5,.val false .u64),(6,.val false .int)],[],0,true⟩
abbrev cQ:Type:=((List (UInt8))×(Int)×(UInt64)×(Int)×Unit)×(Unit)
def vn:Shape:=⟨29,[(5,.val false .u64)],[],0,true⟩
abbrev lF:Type:=((UInt64)×Unit)×(Unit)
def ajj:SE->Option Shape:=fp [(0,vn)] none
def aAr (a0:List (UInt8)) (a1:Int) (a5:UInt64) (a6:Int):OT (Sum cQ aE):=
 let z0:Bool:=inR (a1+a6)
 let z1:Nat:=List.length a0
 let z2:Bool:=inR (a6-(1:Int))
 (.br (decide ((0:Int)<=a6))
 (gd [z0] (.br (decide (a1+a6<(↑z1:Int)))
  (gd [z0,inB (a1+a6) z1,z2] (.ok (.inl ((a0,(a1,(a5*(256:UInt64)+UInt8.toUInt64 (List.getD a0 (Int.toNat (a1+a6)) (0:UInt8)),(a6-(1:Int),())))),()))))
  (gd [z2] (.ok (.inl ((a0,(a1,(a5*(256:UInt64),(a6-(1:Int),())))),()))))))
 (.ok (.inr ⟨(.exit 0,vn),((a5,()),())⟩)))
def AP (s:cQ):OT (Sum cQ aE):=aAr (s.1.1) (s.1.2.1) (s.1.2.2.1) (s.1.2.2.2.1)
theorem aAo (s:cQ) (Q:Sum cQ aE->Prop):wps te aql av 1000 (aV (aj Tryz.f105) 0) (AO.inj s) (bV AO ajj (Q:Sum AO.T aE->Prop))=(AP s).wpR Q:=by kernel_rfl
def Iz (g0_0:cQ->lF) (s:cQ):OT aE:=(.ok ⟨(.exit 0,vn),g0_0 s⟩)
def Tf:az:=⟨[.val false .u64],[],false⟩
def Xo:SV->Option az:=λ_=>some Tf
def acM (ok0:cQ->Bool) (g0_0:cQ->lF) (a0:List (UInt8)) (a1:Int):OT lG.Y:=
 let z0:(List UInt8×Int×UInt64×Int×PUnit)×PUnit:=((a0,a1,(0:UInt64),(7:Int),()),())
 (gd [ok0 z0] (.ok ⟨Tf,(((g0_0 z0).fst.fst,()),())⟩))
theorem aF3 (ok0:cQ->Bool) (g0_0:cQ->lF) (x:PZ) (Q:lG.Y->Prop):wpf te aql (aO 0 (cb AO 0 ok0 (Iz g0_0)) av) 1000 Tryz.f105 (lG.inp.inj x).tm (lG.inp.inj x).hp (fnK lG Xo Q) (λ_ _=>False)=(acM ok0 g0_0 (x.1.1) (x.1.2.1)).wpR Q:=by kernel_rfl
theorem amE (ok0:cQ->Bool) (g0_0:cQ->lF) (h0:∀ s:cQ,ok0 s=true->∃ m e,al (AP) m s=some e/\(Iz g0_0 s).run=some e) (pre:PZ->Bool) (F:PZ->OT lG.Y) (hF:∀ (x:PZ) oy,pre x=true->(F x).run=some oy->(acM ok0 g0_0 (x.1.1) (x.1.2.1)).run=some oy):ac Tryz.prog 105 (lG.aH pre F):=
 aD aq Jj abB (f:=105) (fn:=Tryz.f105) (c:=aj Tryz.f105) (by kernel_rfl) (by kernel_rfl) (by kernel_rfl) (S:=lG) (k:=0) (by kernel_rfl) (λR hR=>(aB (c:=(aj Tryz.f105)) (by kernel_rfl) (id:=0) (by kernel_rfl) (aS aq Jj abB (sh:=AO) hR (xs:=ajj) (aC (by kernel_rfl) (by kernel_rfl) hR) aK af (n:=1000) (T:=AP) (λs Q=>aAo s Q) (ok:=ok0) (f:=Iz g0_0) h0) af)) (n:=1000) (sel:=Xo) (λv o h=>by cases h;rfl) (pre:=pre) (F:=F) (T:=λx=>acM ok0 g0_0 (x.1.1) (x.1.2.1)) (λx Q=>aF3 ok0 g0_0 x Q) hF
def ik (b:List UInt8) (p:Nat):UInt64:=upto (λk v=>v*256+UInt8.toUInt64 (b.getD (p+(7-k)) 0)) 0 8
def Xp (s:cQ):Bool:=decide (s.1.2.2.1=0/\s.1.2.2.2.1=7/\0<=s.1.2.1/\s.1.2.1<=1000000000000)
def ajk (s:cQ):lF:=((ik s.1.1 s.1.2.1.toNat,()),())
theorem aAq:∀ s:cQ,Xp s=true->∃ m e,al AP m s=some e/\(Iz ajk s).run=some e:=by
 rintro ⟨⟨b,p,v,i,⟨⟩⟩,⟨⟩⟩ h
 have h':=of_decide_eq_true h
 dsimp only at h'
 obtain ⟨rfl,rfl,hp0,hp⟩:=h'
 obtain ⟨p,rfl⟩:∃ q:Nat,p=(q:Int):=⟨p.toNat,by omega⟩
 have:=(aP (T:=AP) (λk v=>(((b,(p:Int),v,7-(k:Int),()),()):cQ)) (λk v=>v*256+UInt8.toUInt64 (b.getD (p+(7-k)) 0))
  (λv=>(⟨(.exit 0,vn),((v,()),())⟩:aE)) 8 0 (λ_ _=>True) trivial (λk v hk _=>⟨?_,trivial⟩) (λv _=> ?_)).1
 ·obtain ⟨m,hm⟩:=this
  exact ⟨m,_,hm,rfl⟩
 ·have e1:((p:Int)+(7-(k:Int))).toNat=p+(7-k):=by omega
  have e2:(7:Int)-((k:Int))-1=7-((k+1:Nat):Int):=by omega
  refine (OT.ap (decide_eq_true (by dsimp only;omega))).trans ((ah ?_).trans ?_)
  ·simp only [List.all_cons,List.all_nil,Bool.and_true]
   exact aI (by omega)
  ·by_cases hx:(p:Int)+(7-(k:Int))<(b.length:Int)
   ·refine (OT.ap (decide_eq_true hx)).trans ((ah ?_).trans ?_)
    ·simp only [List.all_cons,List.all_nil,Bool.and_true,Bool.and_eq_true]
     exact ⟨aI (by omega),aN (by omega),aI (by omega)⟩
    ·simp only [OT.cK,e1,e2]
   ·refine (OT.ar (decide_eq_false hx)).trans ((ah ?_).trans ?_)
    ·simp only [List.all_cons,List.all_nil,Bool.and_true]
     exact aI (by omega)
    ·have e3:b.getD (p+(7-k)) 0=0:=by
      rw [List.getD_eq_getElem?_getD,List.getElem?_eq_none (by omega)];rfl
     have e4:v*256+UInt8.toUInt64 0=v*256:=by
      show v*256+0=v*256
      rw [UInt64.add_zero]
     simp only [OT.cK,e2,e3,e4]
 ·exact OT.ar (decide_eq_false (by dsimp only;omega))
def JE (x:PZ):Bool:=decide (0<=x.1.2.1/\x.1.2.1<=1000000000000)
def asK (x:PZ):OT lG.Y:=.ok ⟨Tf,((ik x.1.1 x.1.2.1.toNat,()),())⟩
theorem aAp:ac Tryz.prog 105 (lG.aH JE asK):=amE Xp ajk aAq _ _ λx oy hp ho=>by
 rw [<-ho]
 have hp':=of_decide_eq_true hp
 refine (ah ?_).trans rfl
 simp only [List.all_cons,List.all_nil,Bool.and_true]
 exact decide_eq_true ⟨rfl,rfl,hp'.1,hp'.2⟩
def D7:cf:=(lG.aH JE asK)
theorem acL:ac Tryz.prog 105 D7:=aAp
theorem acK:aF D7:=aA
def Nw:Env:=ay 105 D7 aql
theorem F7:aQ Tryz.prog Nw:=ag acL Jj
theorem Hq:ax Nw:=ae acK SC
theorem agv:aU Tryz.prog te Nw:=aJ follows aq F7 Hq
def lJ:aw:=⟨[],[],true,0,false⟩
abbrev P5:Type:=(Unit)×(Unit)
def Tl:az:=⟨[.val true (.arr 10 (.arr 16 .int))],[],false⟩
def Xt:SV->Option az:=λ_=>some Tl
def acW:OT lJ.Y:=
 (.ok ⟨Tl,(([[(0:Int),(1:Int),(2:Int),(3:Int),(4:Int),(5:Int),(6:Int),(7:Int),(8:Int),(9:Int),(10:Int),(11:Int),(12:Int),(13:Int),(14:Int),(15:Int)],[(14:Int),(10:Int),(4:Int),(8:Int),(9:Int),(15:Int),(13:Int),(6:Int),(1:Int),(12:Int),(0:Int),(2:Int),(11:Int),(7:Int),(5:Int),(3:Int)],[(11:Int),(8:Int),(12:Int),(0:Int),(5:Int),(2:Int),(15:Int),(13:Int),(10:Int),(14:Int),(3:Int),(6:Int),(7:Int),(1:Int),(9:Int),(4:Int)],[(7:Int),(9:Int),(3:Int),(1:Int),(13:Int),(12:Int),(11:Int),(14:Int),(2:Int),(6:Int),(5:Int),(10:Int),(4:Int),(0:Int),(15:Int),(8:Int)],[(9:Int),(0:Int),(5:Int),(7:Int),(2:Int),(4:Int),(10:Int),(15:Int),(14:Int),(1:Int),(11:Int),(12:Int),(6:Int),(8:Int),(3:Int),(13:Int)],[(2:Int),(12:Int),(6:Int),(10:Int),(0:Int),(11:Int),(8:Int),(3:Int),(4:Int),(13:Int),(7:Int),(5:Int),(15:Int),(14:Int),(1:Int),(9:Int)],[(12:Int),(5:Int),(1:Int),(15:Int),(14:Int),(13:Int),(4:Int),(10:Int),(0:Int),(7:Int),(6:Int),(3:Int),(9:Int),(2:Int),(8:Int),(11:Int)],[(13:Int),(11:Int),(7:Int),(14:Int),(12:Int),(1:Int),(3:Int),(9:Int),(5:Int),(0:Int),(15:Int),(4:Int),(8:Int),(6:Int),(2:Int),(10:Int)],[(6:Int),(15:Int),(14:Int),(9:Int),(11:Int),(3:Int),(0:Int),(8:Int),(12:Int),(2:Int),(13:Int),(7:Int),(1:Int),(4:Int),(10:Int),(5:Int)],[(10:Int),(2:Int),(8:Int),(4:Int),(7:Int),(6:Int),(1:Int),(5:Int),(15:Int),(11:Int),(9:Int),(14:Int),(3:Int),(12:Int),(13:Int),(0:Int)]],()),())⟩)
theorem aGc (x:P5) (Q:lJ.Y->Prop):wpf te Nw av 1000 Tryz.f140 (lJ.inp.inj x).tm (lJ.inp.inj x).hp (fnK lJ Xt Q) (λ_ _=>False)=(acW).wpR Q:=by kernel_rfl
theorem amK (pre:P5->Bool) (F:P5->OT lJ.Y) (hF:∀ (x:P5) oy,pre x=true->(F x).run=some oy->(acW).run=some oy):ac Tryz.prog 140 (lJ.aH pre F):=
 aD aq F7 agv (f:=140) (fn:=Tryz.f140) (c:=aj Tryz.f140) (by kernel_rfl) (by kernel_rfl) (by kernel_rfl) (S:=lJ) (k:=0) (by kernel_rfl) (λR hR=>af) (n:=1000) (sel:=Xt) (λv o h=>by cases h;rfl) (pre:=pre) (F:=F) (T:=λx=>acW) (λx Q=>aGc x Q) hF
def Px:List (List Int):= [[0,1,2,3,4,5,6,7,8,9,10,11,12,13,14,15],
 [14,10,4,8,9,15,13,6,1,12,0,2,11,7,5,3],
 [11,8,12,0,5,2,15,13,10,14,3,6,7,1,9,4],
 [7,9,3,1,13,12,11,14,2,6,5,10,4,0,15,8],
 [9,0,5,7,2,4,10,15,14,1,11,12,6,8,3,13],
 [2,12,6,10,0,11,8,3,4,13,7,5,15,14,1,9],
 [12,5,1,15,14,13,4,10,0,7,6,3,9,2,8,11],
 [13,11,7,14,12,1,3,9,5,0,15,4,8,6,2,10],
 [6,15,14,9,11,3,0,8,12,2,13,7,1,4,10,5],
 [10,2,8,4,7,6,1,5,15,11,9,14,3,12,13,0]]
def Xu (_:P5):Bool:=true
def asQ (_:P5):OT lJ.Y:=.ok ⟨Tl,((Px,()),())⟩
theorem aAu:ac Tryz.prog 140 (lJ.aH Xu asQ):=amK _ _ λx oy _ ho=>ho
def Ea:cf:=(lJ.aH Xu asQ)
theorem acV:ac Tryz.prog 140 Ea:=aAu
theorem acU:aF Ea:=aA
def Nz:Env:=ay 140 Ea Nw
theorem F9:aQ Tryz.prog Nz:=ag acV F7
theorem Hs:ax Nz:=ae acU Hq
theorem agx:aU Tryz.prog te Nz:=aJ follows aq F9 Hs
def lI:aw:=⟨[.val false .u64,.val false .u64],[],true,0,false⟩
abbrev P0:Type:=((UInt64)×(UInt64)×Unit)×(Unit)
def Tg:az:=⟨[.val false .u64],[],false⟩
def Xr:SV->Option az:=λ_=>some Tg
def acQ (a0:UInt64) (a1:UInt64):OT lI.Y:=
 (.ok ⟨Tg,((be a0 (↑(UInt64.toNat a1):Int)|||bP a0 (↑(UInt64.toNat ((64:UInt64)-a1)):Int),()),())⟩)
theorem aF4 (x:P0) (Q:lI.Y->Prop):wpf te Nz av 1000 Tryz.f155 (lI.inp.inj x).tm (lI.inp.inj x).hp (fnK lI Xr Q) (λ_ _=>False)=(acQ (x.1.1) (x.1.2.1)).wpR Q:=by kernel_rfl
theorem amG (pre:P0->Bool) (F:P0->OT lI.Y) (hF:∀ (x:P0) oy,pre x=true->(F x).run=some oy->(acQ (x.1.1) (x.1.2.1)).run=some oy):ac Tryz.prog 155 (lI.aH pre F):=
 aD aq F9 agx (f:=155) (fn:=Tryz.f155) (c:=aj Tryz.f155) (by kernel_rfl) (by kernel_rfl) (by kernel_rfl) (S:=lI) (k:=0) (by kernel_rfl) (λR hR=>af) (n:=1000) (sel:=Xr) (λv o h=>by cases h;rfl) (pre:=pre) (F:=F) (T:=λx=>acQ (x.1.1) (x.1.2.1)) (λx Q=>aF4 x Q) hF
def D4 (a n:UInt64):UInt64:=be a (UInt64.toNat n:Int)|||bP a (UInt64.toNat (64-n):Int)
def Xs (_:P0):Bool:=true
def asL (x:P0):OT lI.Y:=.ok ⟨Tg,((D4 x.1.1 x.1.2.1,()),())⟩
theorem aAt:ac Tryz.prog 155 (lI.aH Xs asL):=amG _ _ λx oy _ ho=>ho
def D9:cf:=(lI.aH Xs asL)
theorem acP:ac Tryz.prog 155 D9:=aAt
theorem acO:aF D9:=aA
def Nx:Env:=ay 155 D9 Nz
theorem F8:aQ Tryz.prog Nx:=ag acP F9
theorem Hr:ax Nx:=ae acO Hs
theorem agw:aU Tryz.prog te Nx:=aJ follows aq F8 Hr
def rX:aw:=⟨[.val true (.arr 16 .u64),.val false .int,.val false .int,.val false .int,.val false .int,.val false .u64,.val false .u64],[],true,0,false⟩
abbrev amR:Type:=((List (UInt64))×(Int)×(Int)×(Int)×(Int)×(UInt64)×(UInt64)×Unit)×(Unit)
def Tp:az:=⟨[.val true (.arr 16 .u64)],[],false⟩
def ajo:SV->Option az:=λ_=>some Tp
def asX (a0:List (UInt64)) (a1:Int) (a2:Int) (a3:Int) (a4:Int) (a5:UInt64) (a6:UInt64):OT rX.Y:=
 let z0:Bool:=inB a1 16
 let z1:List UInt64:=tab a0 16 (0:UInt64)
 let z2:Nat:=List.length z1
 let z3:Bool:=decide (Int.toNat a1+0<z2)
 let z4:Bool:=inB a2 16
 let z5:Bool:=inB a4 16
 let z6:List UInt64:=List.set z1 (Int.toNat a1+0) (List.getD z1 (Int.toNat a1+0) (0:UInt64)+List.getD z1 (Int.toNat a2+0) (0:UInt64)+a5)
 let z7:Nat:=List.length z6
 let z8:Bool:=decide (Int.toNat a4+0<z7)
 let z9:Bool:=inB a3 16
 let z10:List UInt64:=List.set z6 (Int.toNat a4+0) (D4 (List.getD z6 (Int.toNat a4+0) (0:UInt64)^^^List.getD z6 (Int.toNat a1+0) (0:UInt64)) (32:UInt64))
 let z11:Nat:=List.length z10
 let z12:Bool:=decide (Int.toNat a3+0<z11)
 let z13:List UInt64:=List.set z10 (Int.toNat a3+0) (List.getD z10 (Int.toNat a3+0) (0:UInt64)+List.getD z10 (Int.toNat a4+0) (0:UInt64))
 let z14:Nat:=List.length z13
 let z15:Bool:=decide (Int.toNat a2+0<z14)
 let z16:List UInt64:=List.set z13 (Int.toNat a2+0) (D4 (List.getD z13 (Int.toNat a2+0) (0:UInt64)^^^List.getD z13 (Int.toNat a3+0) (0:UInt64)) (24:UInt64))
 let z17:Nat:=List.length z16
 let z18:Bool:=decide (Int.toNat a1+0<z17)
 let z19:List UInt64:=List.set z16 (Int.toNat a1+0) (List.getD z16 (Int.toNat a1+0) (0:UInt64)+List.getD z16 (Int.toNat a2+0) (0:UInt64)+a6)
 let z20:Nat:=List.length z19
 let z21:Bool:=decide (Int.toNat a4+0<z20)
 let z22:List UInt64:=List.set z19 (Int.toNat a4+0) (D4 (List.getD z19 (Int.toNat a4+0) (0:UInt64)^^^List.getD z19 (Int.toNat a1+0) (0:UInt64)) (16:UInt64))
 let z23:Nat:=List.length z22
 let z24:Bool:=decide (Int.toNat a3+0<z23)
 let z25:List UInt64:=List.set z22 (Int.toNat a3+0) (List.getD z22 (Int.toNat a3+0) (0:UInt64)+List.getD z22 (Int.toNat a4+0) (0:UInt64))
 let z26:Nat:=List.length z25
 let z27:Bool:=decide (Int.toNat a2+0<z26)
 let z28:List UInt64:=List.set z25 (Int.toNat a2+0) (D4 (List.getD z25 (Int.toNat a2+0) (0:UInt64)^^^List.getD z25 (Int.toNat a3+0) (0:UInt64)) (63:UInt64))
 (gd [z0,z3,z4,decide (Int.toNat a2+0<z2),z0,z3,z5,z8,z0,decide (Int.toNat a1+0<z7),z5,z8,z9,z12,z5,decide (Int.toNat a4+0<z11),z9,z12,z4,z15,z9,decide (Int.toNat a3+0<z14),z4,z15,z0,z18,z4,decide (Int.toNat a2+0<z17),z0,z18,z5,z21,z0,decide (Int.toNat a1+0<z20),z5,z21,z9,z24,z5,decide (Int.toNat a4+0<z23),z9,z24,z4,z27,z9,decide (Int.toNat a3+0<z26),z4,z27,decide (16<=List.length z28)] (.ok ⟨Tp,((tab z28 16 (0:UInt64),()),())⟩))
theorem aJj (x:amR) (Q:rX.Y->Prop):wpf te Nx av 1000 Tryz.f141 (rX.inp.inj x).tm (rX.inp.inj x).hp (fnK rX ajo Q) (λ_ _=>False)=(asX (x.1.1) (x.1.2.1) (x.1.2.2.1) (x.1.2.2.2.1) (x.1.2.2.2.2.1) (x.1.2.2.2.2.2.1) (x.1.2.2.2.2.2.2.1)).wpR Q:=by kernel_rfl
theorem asW (pre:amR->Bool) (F:amR->OT rX.Y) (hF:∀ (x:amR) oy,pre x=true->(F x).run=some oy->(asX (x.1.1) (x.1.2.1) (x.1.2.2.1) (x.1.2.2.2.1) (x.1.2.2.2.2.1) (x.1.2.2.2.2.2.1) (x.1.2.2.2.2.2.2.1)).run=some oy):ac Tryz.prog 141 (rX.aH pre F):=
 aD aq F8 agw (f:=141) (fn:=Tryz.f141) (c:=aj Tryz.f141) (by kernel_rfl) (by kernel_rfl) (by kernel_rfl) (S:=rX) (k:=0) (by kernel_rfl) (λR hR=>af) (n:=1000) (sel:=ajo) (λv o h=>by cases h;rfl) (pre:=pre) (F:=F) (T:=λx=>asX (x.1.1) (x.1.2.1) (x.1.2.2.1) (x.1.2.2.2.1) (x.1.2.2.2.2.1) (x.1.2.2.2.2.2.1) (x.1.2.2.2.2.2.2.1)) (λx Q=>aJj x Q) hF
theorem aI0 (a:UInt64):D4 a 32=rotl a (-32):=by
 unfold D4 rotl
 rw [show (UInt64.toNat (i2u (-32)&&&63):Int)=32 from by decide,show (UInt64.toNat (64-(i2u (-32)&&&63)):Int)=32 from by decide,show (UInt64.toNat 32:Int)=32 from by decide,show (UInt64.toNat (64-32):Int)=32 from by decide,UInt64.or_comm]
theorem aI1 (a:UInt64):D4 a 24=rotl a (-24):=by
 unfold D4 rotl
 rw [show (UInt64.toNat (i2u (-24)&&&63):Int)=40 from by decide,show (UInt64.toNat (64-(i2u (-24)&&&63)):Int)=24 from by decide,show (UInt64.toNat 24:Int)=24 from by decide,show (UInt64.toNat (64-24):Int)=40 from by decide,UInt64.or_comm]
theorem aI2 (a:UInt64):D4 a 16=rotl a (-16):=by
 unfold D4 rotl
 rw [show (UInt64.toNat (i2u (-16)&&&63):Int)=48 from by decide,show (UInt64.toNat (64-(i2u (-16)&&&63)):Int)=16 from by decide,show (UInt64.toNat 16:Int)=16 from by decide,show (UInt64.toNat (64-16):Int)=48 from by decide,UInt64.or_comm]
theorem aIZ (a:UInt64):D4 a 63=rotl a (-63):=by
 unfold D4 rotl
 rw [show (UInt64.toNat (i2u (-63)&&&63):Int)=1 from by decide,show (UInt64.toNat (64-(i2u (-63)&&&63)):Int)=63 from by decide,show (UInt64.toNat 63:Int)=63 from by decide,show (UInt64.toNat (64-63):Int)=1 from by decide,UInt64.or_comm]
def To (x:amR):Bool:=inB x.1.2.1 16&&inB x.1.2.2.1 16&&inB x.1.2.2.2.1 16&&inB x.1.2.2.2.2.1 16&&decide (x.1.1.length=16)
def aDy (x:amR):OT rX.Y:=.ok ⟨Tp,((BW x.1.1 x.1.2.1.toNat x.1.2.2.1.toNat x.1.2.2.2.1.toNat x.1.2.2.2.2.1.toNat x.1.2.2.2.2.2.1 x.1.2.2.2.2.2.2.1,()),())⟩
theorem aGe:ac Tryz.prog 141 (rX.aH To aDy):=asW _ _ λx oy hp ho=>by
 rw [<-ho]
 clear ho
 obtain ⟨⟨v,a,b,c,d,x,y,⟨⟩⟩,⟨⟩⟩:=x
 simp only [To,Bool.and_eq_true,decide_eq_true_eq] at hp
 obtain ⟨⟨⟨⟨ha,hb⟩,hc⟩,hd⟩,hv⟩:=hp
 have na:=xQ ha
 have nb:=xQ hb
 have nc:=xQ hc
 have nd:=xQ hd
 have t1:tab v 16 0=v:=jo hv
 refine (ah ?_).trans ?_
 ·simp only [t1,List.length_set,hv,ha,hb,hc,hd,Nat.add_zero,na,nb,nc,nd,Nat.le_refl,decide_true,List.all_cons,List.all_nil,Bool.and_self]
 ·have hl:(BW v a.toNat b.toNat c.toNat d.toNat x y).length=16:=by rw [fR];exact hv
  simp only [t1,aI0,aI1,aI2,aIZ,UInt64.add_assoc,Nat.add_zero]
  exact congrArg (λl=>some (⟨Tp,((l,()),())⟩:rX.Y)) (jo hl)
def JO:cf:=(rX.aH To aDy)
theorem amQ:ac Tryz.prog 141 JO:=aGe
theorem amP:aF JO:=aA
def CR:Env:=ay 141 JO Nx
theorem mM:aQ Tryz.prog CR:=ag amQ F8
theorem NC:ax CR:=ae amP Hr
theorem pR:aU Tryz.prog te CR:=aJ follows aq mM NC
def il:aw:=⟨[.val true (.arr 8 .u64),.val false (.list .u8),.val false .u64,.val false .bool],[],true,0,false⟩
abbrev Ei:Type:=((List (UInt64))×(List (UInt8))×(UInt64)×(Bool)×Unit)×(Unit)
def sO:Shape:=⟨163,[(1,.val false (.list .u8)),(2,.val false .u64),(3,.val false .bool),(4,.ptr 0 0 0),(8,.ptr 1 0 0),(9,.ptr 2 0 0),(10,.ptr 3 0 0),(11,.val false .int)],[(0,.row .u64),(1,.row .u64),(2,.row .u64),(3,.row .u64)],0,true⟩
abbrev cw:Type:=((List (UInt8))×(UInt64)×(Bool)×(Unit)×(Unit)×(Unit)×(Unit)×(Int)×Unit)×((List (UInt64))×(List (UInt64))×(List (UInt64))×(List (UInt64))×Unit)
def qA:Shape:=⟨163,[(1,.val false (.list .u8)),(2,.val false .u64),(3,.val false .bool),(4,.ptr 0 0 0),(8,.ptr 1 0 0),(10,.ptr 2 0 0)],[(0,.row .u64),(1,.row .u64),(2,.row .u64)],0,true⟩
abbrev jW:Type:=((List (UInt8))×(UInt64)×(Bool)×(Unit)×(Unit)×(Unit)×Unit)×((List (UInt64))×(List (UInt64))×(List (UInt64))×Unit)
def XE:SE->Option Shape:=fp [(0,qA)] none
def ats (a1:List (UInt8)) (a2:UInt64) (a3:Bool) (a11:Int) (c0:List (UInt64)) (c1:List (UInt64)) (c2:List (UInt64)) (c3:List (UInt64)):OT (Sum cw aE):=
 let z0:Bool:=inB a11 8
 let z1:List UInt64:=List.set c3 (Int.toNat a11+0) (List.getD c0 (Int.toNat a11+0) (0:UInt64))
 (.br (decide (a11<(8:Int)))
 (gd [z0,decide (Int.toNat a11+0<List.length c0),inB a11 16,decide (Int.toNat a11+0<List.length c3),inR (a11+(8:Int)),z0,decide (Int.toNat a11+0<List.length c2),inB (a11+(8:Int)) 16,decide (Int.toNat (a11+(8:Int))+0<List.length z1),inR (a11+(1:Int))] (.ok (.inl ((a1,(a2,(a3,((),((),((),((),(a11+(1:Int),())))))))),(c0,(c1,(c2,(List.set z1 (Int.toNat (a11+(8:Int))+0) (List.getD c2 (Int.toNat a11+0) (0:UInt64)),()))))))))
 (.ok (.inr ⟨(.exit 0,qA),((a1,(a2,(a3,((),((),((),())))))),(c0,(c1,(c3,()))))⟩)))
def sS (s:cw):OT (Sum cw aE):=ats (s.1.1) (s.1.2.1) (s.1.2.2.1) (s.1.2.2.2.2.2.2.2.1) (s.2.1) (s.2.2.1) (s.2.2.2.1) (s.2.2.2.2.1)
theorem atj (s:cw) (Q:Sum cw aE->Prop):wps te CR av 1000 (aV (aj Tryz.f106) 0) (sO.inj s) (bV sO XE (Q:Sum sO.T aE->Prop))=(sS s).wpR Q:=by kernel_rfl
def A8 (g0_0:cw->jW) (s:cw):OT aE:=(.ok ⟨(.exit 0,qA),g0_0 s⟩)
def sN:Shape:=⟨163,[(1,.val false (.list .u8)),(4,.ptr 0 0 0),(8,.ptr 1 0 0),(10,.ptr 2 0 0),(12,.ptr 3 0 0),(13,.val false .int)],[(0,.row .u64),(1,.row .u64),(2,.row .u64),(3,.row .u64)],0,true⟩
abbrev cv:Type:=((List (UInt8))×(Unit)×(Unit)×(Unit)×(Unit)×(Int)×Unit)×((List (UInt64))×(List (UInt64))×(List (UInt64))×(List (UInt64))×Unit)
def qy:Shape:=⟨163,[(4,.ptr 0 0 0),(8,.ptr 1 0 0),(10,.ptr 2 0 0),(12,.ptr 3 0 0)],[(0,.row .u64),(1,.row .u64),(2,.row .u64),(3,.row .u64)],0,true⟩
abbrev jV:Type:=((Unit)×(Unit)×(Unit)×(Unit)×Unit)×((List (UInt64))×(List (UInt64))×(List (UInt64))×(List (UInt64))×Unit)
def XD:SE->Option Shape:=fp [(2,qy)] none
def atr (a1:List (UInt8)) (a13:Int) (c0:List (UInt64)) (c1:List (UInt64)) (c2:List (UInt64)) (c3:List (UInt64)):OT (Sum cv aE):=
 (.br (decide (a13<(16:Int)))
 (gd [inR ((8:Int)*a13),JE ((a1,(8:Int)*a13,()),()),inB a13 16,decide (Int.toNat a13+0<List.length c3),inR (a13+(1:Int))] (.ok (.inl ((a1,((),((),((),((),(a13+(1:Int),())))))),(c0,(c1,(c2,(List.set c3 (Int.toNat a13+0) (ik a1 (Int.toNat ((8:Int)*a13))),()))))))))
 (.ok (.inr ⟨(.exit 2,qy),(((),((),((),((),())))),(c0,(c1,(c2,(c3,())))))⟩)))
def sR (s:cv):OT (Sum cv aE):=atr (s.1.1) (s.1.2.2.2.2.2.1) (s.2.1) (s.2.2.1) (s.2.2.2.1) (s.2.2.2.2.1)
theorem ati (s:cv) (Q:Sum cv aE->Prop):wps te CR av 1000 (aV (aj Tryz.f106) 2) (sN.inj s) (bV sN XD (Q:Sum sN.T aE->Prop))=(sR s).wpR Q:=by kernel_rfl
def A7 (g2_2:cv->jV) (s:cv):OT aE:=(.ok ⟨(.exit 2,qy),g2_2 s⟩)
def sM:Shape:=⟨163,[(4,.ptr 0 0 0),(8,.ptr 1 0 0),(10,.ptr 2 0 0),(12,.ptr 3 0 0),(14,.ptr 4 0 0),(15,.val false .int)],[(0,.row .u64),(1,.row .u64),(2,.row .u64),(3,.row .u64),(4,.row (.arr 16 .int))],0,true⟩
abbrev cu:Type:=((Unit)×(Unit)×(Unit)×(Unit)×(Unit)×(Int)×Unit)×((List (UInt64))×(List (UInt64))×(List (UInt64))×(List (UInt64))×(List (List (Int)))×Unit)
def qx:Shape:=⟨163,[(4,.ptr 0 0 0),(8,.ptr 1 0 0),(10,.ptr 2 0 0)],[(0,.row .u64),(1,.row .u64),(2,.row .u64)],0,true⟩
abbrev jU:Type:=((Unit)×(Unit)×(Unit)×Unit)×((List (UInt64))×(List (UInt64))×(List (UInt64))×Unit)
def XC:SE->Option Shape:=fp [(4,qx)] none
def atq (a15:Int) (c0:List (UInt64)) (c1:List (UInt64)) (c2:List (UInt64)) (c3:List (UInt64)) (c4:List (List (Int))):OT (Sum cu aE):=
 let z0:Int:=Int.tmod a15 (10:Int)
 let z1:Nat:=List.length c2
 let z2:List Int:=List.getD c4 (Int.toNat z0+0) [(0:Int),(0:Int),(0:Int),(0:Int),(0:Int),(0:Int),(0:Int),(0:Int),(0:Int),(0:Int),(0:Int),(0:Int),(0:Int),(0:Int),(0:Int),(0:Int)]
 let z3:Int:=List.getD z2 0 (0:Int)
 let z4:Nat:=List.length c3
 let z5:Int:=List.getD z2 1 (0:Int)
 let z6:Nat:=Int.toNat (0:Int)
 let z7:Nat:=Int.toNat (4:Int)
 let z8:Nat:=Int.toNat (8:Int)
 let z9:Nat:=Int.toNat (12:Int)
 let z10:List UInt64:=lay c2 (BW (tab c2 16 (0:UInt64)) z6 z7 z8 z9 (List.getD c3 (Int.toNat z3+0) (0:UInt64)) (List.getD c3 (Int.toNat z5+0) (0:UInt64))) 16 (0:UInt64)
 let z11:Nat:=List.length z10
 let z12:Int:=List.getD z2 2 (0:Int)
 let z13:Int:=List.getD z2 3 (0:Int)
 let z14:Nat:=Int.toNat (1:Int)
 let z15:Nat:=Int.toNat (5:Int)
 let z16:Nat:=Int.toNat (9:Int)
 let z17:Nat:=Int.toNat (13:Int)
 let z18:List UInt64:=lay z10 (BW (tab z10 16 (0:UInt64)) z14 z15 z16 z17 (List.getD c3 (Int.toNat z12+0) (0:UInt64)) (List.getD c3 (Int.toNat z13+0) (0:UInt64))) 16 (0:UInt64)
 let z19:Nat:=List.length z18
 let z20:Int:=List.getD z2 4 (0:Int)
 let z21:Int:=List.getD z2 5 (0:Int)
 let z22:Nat:=Int.toNat (2:Int)
 let z23:Nat:=Int.toNat (6:Int)
 let z24:Nat:=Int.toNat (10:Int)
 let z25:Nat:=Int.toNat (14:Int)
 let z26:List UInt64:=lay z18 (BW (tab z18 16 (0:UInt64)) z22 z23 z24 z25 (List.getD c3 (Int.toNat z20+0) (0:UInt64)) (List.getD c3 (Int.toNat z21+0) (0:UInt64))) 16 (0:UInt64)
 let z27:Nat:=List.length z26
 let z28:Int:=List.getD z2 6 (0:Int)
 let z29:Int:=List.getD z2 7 (0:Int)
 let z30:Nat:=Int.toNat (3:Int)
 let z31:Nat:=Int.toNat (7:Int)
 let z32:Nat:=Int.toNat (11:Int)
 let z33:Nat:=Int.toNat (15:Int)
 let z34:List UInt64:=lay z26 (BW (tab z26 16 (0:UInt64)) z30 z31 z32 z33 (List.getD c3 (Int.toNat z28+0) (0:UInt64)) (List.getD c3 (Int.toNat z29+0) (0:UInt64))) 16 (0:UInt64)
 let z35:Nat:=List.length z34
 let z36:Int:=List.getD z2 8 (0:Int)
 let z37:Int:=List.getD z2 9 (0:Int)
 let z38:List UInt64:=lay z34 (BW (tab z34 16 (0:UInt64)) z6 z15 z24 z33 (List.getD c3 (Int.toNat z36+0) (0:UInt64)) (List.getD c3 (Int.toNat z37+0) (0:UInt64))) 16 (0:UInt64)
 let z39:Nat:=List.length z38
 let z40:Int:=List.getD z2 10 (0:Int)
 let z41:Int:=List.getD z2 11 (0:Int)
 let z42:List UInt64:=lay z38 (BW (tab z38 16 (0:UInt64)) z14 z23 z32 z9 (List.getD c3 (Int.toNat z40+0) (0:UInt64)) (List.getD c3 (Int.toNat z41+0) (0:UInt64))) 16 (0:UInt64)
 let z43:Nat:=List.length z42
 let z44:Int:=List.getD z2 12 (0:Int)
 let z45:Int:=List.getD z2 13 (0:Int)
 let z46:List UInt64:=lay z42 (BW (tab z42 16 (0:UInt64)) z22 z31 z8 z17 (List.getD c3 (Int.toNat z44+0) (0:UInt64)) (List.getD c3 (Int.toNat z45+0) (0:UInt64))) 16 (0:UInt64)
 let z47:Nat:=List.length z46
 let z48:Int:=List.getD z2 14 (0:Int)
 let z49:Int:=List.getD z2 15 (0:Int)
 (.br (decide (a15<(12:Int)))
 (gd [inB z0 10,decide (Int.toNat z0+0<List.length c4),decide (16<=z1),inB z3 16,decide (Int.toNat z3+0<z4),inB z5 16,decide (Int.toNat z5+0<z4),decide ((16/1:Nat)+0<=z1),decide (16<=z11),inB z12 16,decide (Int.toNat z12+0<z4),inB z13 16,decide (Int.toNat z13+0<z4),decide ((16/1:Nat)+0<=z11),decide (16<=z19),inB z20 16,decide (Int.toNat z20+0<z4),inB z21 16,decide (Int.toNat z21+0<z4),decide ((16/1:Nat)+0<=z19),decide (16<=z27),inB z28 16,decide (Int.toNat z28+0<z4),inB z29 16,decide (Int.toNat z29+0<z4),decide ((16/1:Nat)+0<=z27),decide (16<=z35),inB z36 16,decide (Int.toNat z36+0<z4),inB z37 16,decide (Int.toNat z37+0<z4),decide ((16/1:Nat)+0<=z35),decide (16<=z39),inB z40 16,decide (Int.toNat z40+0<z4),inB z41 16,decide (Int.toNat z41+0<z4),decide ((16/1:Nat)+0<=z39),decide (16<=z43),inB z44 16,decide (Int.toNat z44+0<z4),inB z45 16,decide (Int.toNat z45+0<z4),decide ((16/1:Nat)+0<=z43),decide (16<=z47),inB z48 16,decide (Int.toNat z48+0<z4),inB z49 16,decide (Int.toNat z49+0<z4),decide ((16/1:Nat)+0<=z47),inR (a15+(1:Int))] (.ok (.inl (((),((),((),((),((),(a15+(1:Int),())))))),(c0,(c1,(lay z46 (BW (tab z46 16 (0:UInt64)) z30 z7 z16 z25 (List.getD c3 (Int.toNat z48+0) (0:UInt64)) (List.getD c3 (Int.toNat z49+0) (0:UInt64))) 16 (0:UInt64),(c3,(c4,())))))))))
 (.ok (.inr ⟨(.exit 4,qx),(((),((),((),()))),(c0,(c1,(c2,()))))⟩)))
def sQ (s:cu):OT (Sum cu aE):=atq (s.1.2.2.2.2.2.1) (s.2.1) (s.2.2.1) (s.2.2.2.1) (s.2.2.2.2.1) (s.2.2.2.2.2.1)
theorem ath (s:cu) (Q:Sum cu aE->Prop):wps te CR av 1000 (aV (aj Tryz.f106) 4) (sM.inj s) (bV sM XC (Q:Sum sM.T aE->Prop))=(sQ s).wpR Q:=by kernel_rfl
def A6 (g4_4:cu->jU) (s:cu):OT aE:=(.ok ⟨(.exit 4,qx),g4_4 s⟩)
def sL:Shape:=⟨163,[(4,.ptr 0 0 0),(8,.ptr 1 0 0),(10,.ptr 2 0 0),(17,.val false .int)],[(0,.row .u64),(1,.row .u64),(2,.row .u64)],0,true⟩
abbrev ct:Type:=((Unit)×(Unit)×(Unit)×(Int)×Unit)×((List (UInt64))×(List (UInt64))×(List (UInt64))×Unit)
def qw:Shape:=⟨163,[(4,.ptr 0 0 0),(8,.ptr 1 0 0)],[(0,.row .u64),(1,.row .u64)],0,true⟩
abbrev jT:Type:=((Unit)×(Unit)×Unit)×((List (UInt64))×(List (UInt64))×Unit)
def XB:SE->Option Shape:=fp [(6,qw)] none
def atp (a17:Int) (c0:List (UInt64)) (c1:List (UInt64)) (c2:List (UInt64)):OT (Sum ct aE):=
 let z0:Bool:=inB a17 8
 let z1:Bool:=decide (Int.toNat a17+0<List.length c0)
 let z2:Nat:=List.length c2
 (.br (decide (a17<(8:Int)))
 (gd [z0,z1,inB a17 16,decide (Int.toNat a17+0<z2),inR (a17+(8:Int)),inB (a17+(8:Int)) 16,decide (Int.toNat (a17+(8:Int))+0<z2),z0,z1,inR (a17+(1:Int))] (.ok (.inl (((),((),((),(a17+(1:Int),())))),(List.set c0 (Int.toNat a17+0) (List.getD c0 (Int.toNat a17+0) (0:UInt64)^^^(List.getD c2 (Int.toNat a17+0) (0:UInt64)^^^List.getD c2 (Int.toNat (a17+(8:Int))+0) (0:UInt64))),(c1,(c2,())))))))
 (.ok (.inr ⟨(.exit 6,qw),(((),((),())),(c0,(c1,())))⟩)))
def sP (s:ct):OT (Sum ct aE):=atp (s.1.2.2.2.1) (s.2.1) (s.2.2.1) (s.2.2.2.1)
theorem atg (s:ct) (Q:Sum ct aE->Prop):wps te CR av 1000 (aV (aj Tryz.f106) 6) (sL.inj s) (bV sL XB (Q:Sum sL.T aE->Prop))=(sP s).wpR Q:=by kernel_rfl
def A5 (g6_6:ct->jT) (s:ct):OT aE:=(.ok ⟨(.exit 6,qw),g6_6 s⟩)
def A4:az:=⟨[.val true (.arr 8 .u64)],[],false⟩
def Qa:SV->Option az:=λ_=>some A4
def TB (ok0:cw->Bool) (g0_0:cw->jW) (ok2:cv->Bool) (g2_2:cv->jV) (ok4:cu->Bool) (g4_4:cu->jU) (ok6:ct->Bool) (g6_6:ct->jT) (a0:List (UInt64)) (a1:List (UInt8)) (a2:UInt64) (a3:Bool):OT il.Y:=
 let z0:List UInt64×PUnit:=([(0:UInt64),(0:UInt64),(0:UInt64),(0:UInt64),(0:UInt64),(0:UInt64),(0:UInt64),(0:UInt64),(0:UInt64),(0:UInt64),(0:UInt64),(0:UInt64),(0:UInt64),(0:UInt64),(0:UInt64),(0:UInt64)],())
 let z1:(List UInt8×UInt64×Bool×PUnit×PUnit×PUnit×PUnit×Int×PUnit)×List UInt64×List UInt64×List UInt64×List UInt64×PUnit:=((a1,a2,a3,(),(),(),(),(0:Int),()),tab a0 8 (0:UInt64),[(0:UInt64),(0:UInt64),(0:UInt64),(0:UInt64),(0:UInt64),(0:UInt64),(0:UInt64),(0:UInt64)],[(7640891576956012808:UInt64),(13503953896175478587:UInt64),(4354685564936845355:UInt64),(11912009170470909681:UInt64),(5840696475078001361:UInt64),(11170449401992604703:UInt64),(2270897969802886507:UInt64),(6620516959819538809:UInt64)],z0)
 let z2:(List UInt8×UInt64×Bool×PUnit×PUnit×PUnit×PUnit)×List UInt64×List UInt64×List UInt64×PUnit:=g0_0 z1
 let z3:=z2.snd
 let z4:=z3.snd
 let z5:=z4.snd.fst
 let z6:Bool:=decide (12<List.length z5)
 let z7:=z2.fst
 let z8:=z7.snd
 let z9:List UInt64:=List.set z5 12 (List.getD z5 12 0^^^z8.fst)
 let z10:Bool:=decide (14<List.length z9)
 let z11:List UInt8×PUnit×PUnit×PUnit×PUnit×Int×PUnit:=(z7.fst,(),(),(),(),(0:Int),())
 let z12:=z3.fst
 let z13:=z4.fst
 let z14:(List UInt8×PUnit×PUnit×PUnit×PUnit×Int×PUnit)×List UInt64×List UInt64×List UInt64×List UInt64×PUnit:=(z11,z12,z13,List.set z9 14 (List.getD z9 14 0^^^(18446744073709551615:UInt64)),z0)
 let z15:PUnit×PUnit×PUnit×PUnit×PUnit×Int×PUnit:=((),(),(),(),(),(0:Int),())
 let z16:=(g2_2 z14).snd
 let z17:=z16.snd
 let z18:=z17.snd
 let z19:List (List Int)×PUnit:=([[(0:Int),(1:Int),(2:Int),(3:Int),(4:Int),(5:Int),(6:Int),(7:Int),(8:Int),(9:Int),(10:Int),(11:Int),(12:Int),(13:Int),(14:Int),(15:Int)],[(14:Int),(10:Int),(4:Int),(8:Int),(9:Int),(15:Int),(13:Int),(6:Int),(1:Int),(12:Int),(0:Int),(2:Int),(11:Int),(7:Int),(5:Int),(3:Int)],[(11:Int),(8:Int),(12:Int),(0:Int),(5:Int),(2:Int),(15:Int),(13:Int),(10:Int),(14:Int),(3:Int),(6:Int),(7:Int),(1:Int),(9:Int),(4:Int)],[(7:Int),(9:Int),(3:Int),(1:Int),(13:Int),(12:Int),(11:Int),(14:Int),(2:Int),(6:Int),(5:Int),(10:Int),(4:Int),(0:Int),(15:Int),(8:Int)],[(9:Int),(0:Int),(5:Int),(7:Int),(2:Int),(4:Int),(10:Int),(15:Int),(14:Int),(1:Int),(11:Int),(12:Int),(6:Int),(8:Int),(3:Int),(13:Int)],[(2:Int),(12:Int),(6:Int),(10:Int),(0:Int),(11:Int),(8:Int),(3:Int),(4:Int),(13:Int),(7:Int),(5:Int),(15:Int),(14:Int),(1:Int),(9:Int)],[(12:Int),(5:Int),(1:Int),(15:Int),(14:Int),(13:Int),(4:Int),(10:Int),(0:Int),(7:Int),(6:Int),(3:Int),(9:Int),(2:Int),(8:Int),(11:Int)],[(13:Int),(11:Int),(7:Int),(14:Int),(12:Int),(1:Int),(3:Int),(9:Int),(5:Int),(0:Int),(15:Int),(4:Int),(8:Int),(6:Int),(2:Int),(10:Int)],[(6:Int),(15:Int),(14:Int),(9:Int),(11:Int),(3:Int),(0:Int),(8:Int),(12:Int),(2:Int),(13:Int),(7:Int),(1:Int),(4:Int),(10:Int),(5:Int)],[(10:Int),(2:Int),(8:Int),(4:Int),(7:Int),(6:Int),(1:Int),(5:Int),(15:Int),(11:Int),(9:Int),(14:Int),(3:Int),(12:Int),(13:Int),(0:Int)]],())
 let z20:(PUnit×PUnit×PUnit×PUnit×PUnit×Int×PUnit)×List UInt64×List UInt64×List UInt64×List UInt64×List (List Int)×PUnit:=(z15,z16.fst,z17.fst,z18.fst,z18.snd.fst,z19)
 let z21:PUnit×PUnit×PUnit×Int×PUnit:=((),(),(),(0:Int),())
 let z22:=(g4_4 z20).snd
 let z23:=z22.snd
 let z24:(PUnit×PUnit×PUnit×Int×PUnit)×List UInt64×List UInt64×List UInt64×PUnit:=(z21,z22.fst,z23.fst,z23.snd.fst,())
 let z25:=(g6_6 z24).snd
 let z26:=z25.fst
 let z27:=z25.snd.fst
 let z28:List UInt64:=lay z27 z26 8 (0:UInt64)
 let z29:(List UInt8×PUnit×PUnit×PUnit×PUnit×Int×PUnit)×List UInt64×List UInt64×List UInt64×List UInt64×PUnit:=(z11,z12,z13,z9,z0)
 let z30:=(g2_2 z29).snd
 let z31:=z30.snd
 let z32:=z31.snd
 let z33:(PUnit×PUnit×PUnit×PUnit×PUnit×Int×PUnit)×List UInt64×List UInt64×List UInt64×List UInt64×List (List Int)×PUnit:=(z15,z30.fst,z31.fst,z32.fst,z32.snd.fst,z19)
 let z34:=(g4_4 z33).snd
 let z35:=z34.snd
 let z36:(PUnit×PUnit×PUnit×Int×PUnit)×List UInt64×List UInt64×List UInt64×PUnit:=(z21,z34.fst,z35.fst,z35.snd.fst,())
 let z37:=(g6_6 z36).snd
 let z38:=z37.fst
 let z39:=z37.snd.fst
 let z40:List UInt64:=lay z39 z38 8 (0:UInt64)
 (gd [ok0 z1,z6,z6] (.br (z8.snd.fst)
 (gd [z10,z10,ok2 z14,ok4 z20,ok6 z24,decide (8<=List.length z26),decide ((8/1:Nat)+0<=List.length z27),decide (8<=List.length z28)] (.ok ⟨A4,((tab z28 8 (0:UInt64),()),())⟩))
 (gd [ok2 z29,ok4 z33,ok6 z36,decide (8<=List.length z38),decide ((8/1:Nat)+0<=List.length z39),decide (8<=List.length z40)] (.ok ⟨A4,((tab z40 8 (0:UInt64),()),())⟩))))
theorem aAD (ok0:cw->Bool) (g0_0:cw->jW) (ok2:cv->Bool) (g2_2:cv->jV) (ok4:cu->Bool) (g4_4:cu->jU) (ok6:ct->Bool) (g6_6:ct->jT) (x:Ei) (Q:il.Y->Prop):wpf te CR (aO 6 (cb sL 6 ok6 (A5 g6_6)) (aO 4 (cb sM 4 ok4 (A6 g4_4)) (aO 2 (cb sN 2 ok2 (A7 g2_2)) (aO 0 (cb sO 0 ok0 (A8 g0_0)) av)))) 1000 Tryz.f106 (il.inp.inj x).tm (il.inp.inj x).hp (fnK il Qa Q) (λ_ _=>False)=(TB ok0 g0_0 ok2 g2_2 ok4 g4_4 ok6 g6_6 (x.1.1) (x.1.2.1) (x.1.2.2.1) (x.1.2.2.2.1)).wpR Q:=by kernel_rfl
theorem ac2 (ok0:cw->Bool) (g0_0:cw->jW) (ok2:cv->Bool) (g2_2:cv->jV) (ok4:cu->Bool) (g4_4:cu->jU) (ok6:ct->Bool) (g6_6:ct->jT) (h0:∀ s:cw,ok0 s=true->∃ m e,al (sS) m s=some e/\(A8 g0_0 s).run=some e) (h2:∀ s:cv,ok2 s=true->∃ m e,al (sR) m s=some e/\(A7 g2_2 s).run=some e) (h4:∀ s:cu,ok4 s=true->∃ m e,al (sQ) m s=some e/\(A6 g4_4 s).run=some e) (h6:∀ s:ct,ok6 s=true->∃ m e,al (sP) m s=some e/\(A5 g6_6 s).run=some e) (pre:Ei->Bool) (F:Ei->OT il.Y) (hF:∀ (x:Ei) oy,pre x=true->(F x).run=some oy->(TB ok0 g0_0 ok2 g2_2 ok4 g4_4 ok6 g6_6 (x.1.1) (x.1.2.1) (x.1.2.2.1) (x.1.2.2.2.1)).run=some oy):ac Tryz.prog 106 (il.aH pre F):=
 aD aq mM pR (f:=106) (fn:=Tryz.f106) (c:=aj Tryz.f106) (by kernel_rfl) (by kernel_rfl) (by kernel_rfl) (S:=il) (k:=0) (by kernel_rfl) (λR hR=>(aB (c:=(aj Tryz.f106)) (by kernel_rfl) (id:=6) (by kernel_rfl) (aS aq mM pR (sh:=sL) hR (xs:=XB) (aC (by kernel_rfl) (by kernel_rfl) hR) aK af (n:=1000) (T:=sP) (λs Q=>atg s Q) (ok:=ok6) (f:=A5 g6_6) h6) (aB (c:=(aj Tryz.f106)) (by kernel_rfl) (id:=4) (by kernel_rfl) (aS aq mM pR (sh:=sM) hR (xs:=XC) (aC (by kernel_rfl) (by kernel_rfl) hR) aK af (n:=1000) (T:=sQ) (λs Q=>ath s Q) (ok:=ok4) (f:=A6 g4_4) h4) (aB (c:=(aj Tryz.f106)) (by kernel_rfl) (id:=2) (by kernel_rfl) (aS aq mM pR (sh:=sN) hR (xs:=XD) (aC (by kernel_rfl) (by kernel_rfl) hR) aK af (n:=1000) (T:=sR) (λs Q=>ati s Q) (ok:=ok2) (f:=A7 g2_2) h2) (aB (c:=(aj Tryz.f106)) (by kernel_rfl) (id:=0) (by kernel_rfl) (aS aq mM pR (sh:=sO) hR (xs:=XE) (aC (by kernel_rfl) (by kernel_rfl) hR) aK af (n:=1000) (T:=sS) (λs Q=>atj s Q) (ok:=ok0) (f:=A8 g0_0) h0) af))))) (n:=1000) (sel:=Qa) (λv o h=>by cases h;rfl) (pre:=pre) (F:=F) (T:=λx=>TB ok0 g0_0 ok2 g2_2 ok4 g4_4 ok6 g6_6 (x.1.1) (x.1.2.1) (x.1.2.2.1) (x.1.2.2.2.1)) (λx Q=>aAD ok0 g0_0 ok2 g2_2 ok4 g4_4 ok6 g6_6 x Q) hF
theorem aHj {h:List UInt64} (hh:h.length=8):upto (λk v=>(v.set k (h.getD k 0)).set (k+8) (bIV.getD k 0)) (List.replicate 16 0) 8=h++bIV:=by
 have e:=jo (x:=h) (n:=8) (d:=0) hh
 rw [<-e]
 rfl
def Eh (s:cw):Bool:=decide (s.1.2.2.2.2.2.2.2.1=0/\s.2.1.length=8/\s.2.2.2.1=bIV/\s.2.2.2.2.1=List.replicate 16 0)
def lL (s:cw):jW:=((s.1.1,s.1.2.1,s.1.2.2.1,(),(),(),()),(s.2.1,s.2.2.1,s.2.1++bIV,()))
theorem ato:∀ s:cw,Eh s=true->∃ m e,al sS m s=some e/\(A8 lL s).run=some e:=by
 rintro ⟨⟨b,t,l,⟨⟩,⟨⟩,⟨⟩,⟨⟩,i,⟨⟩⟩,⟨h,c1,c2,c3,⟨⟩⟩⟩ hh
 have h':=of_decide_eq_true hh
 dsimp only at h'
 obtain ⟨rfl,hl,rfl,rfl⟩:=h'
 have:=(aP (T:=sS) (λk v=>(((b,t,l,(),(),(),(),(k:Int),()),(h,c1,bIV,v,())):cw)) (λk v=>(v.set k (h.getD k 0)).set (k+8) (bIV.getD k 0))
  (λv=>(⟨(.exit 0,qA),((b,t,l,(),(),(),()),(h,c1,v,()))⟩:aE)) 8 (List.replicate 16 0) (λ_ v=>v.length=16) (by simp) (λk v hk hv=>⟨?_,by rw [List.length_set,List.length_set];exact hv⟩) (λv hv=> ?_)).1
 ·obtain ⟨m,hm⟩:=this
  rw [aHj hl] at hm
  exact ⟨m,_,hm,rfl⟩
 ·have e1:((k:Int)+8).toNat=k+8:=by omega
  refine (OT.ap (decide_eq_true (by dsimp only;omega))).trans ((ah ?_).trans ?_)
  ·simp only [e1,List.length_set,hl,hv,List.all_cons,List.all_nil,Bool.and_true,Bool.and_eq_true]
   exact ⟨aN (by omega),decide_eq_true (by omega),aN (by omega),decide_eq_true (by omega),aI (by omega),aN (by omega),decide_eq_true (show k+0<8 by omega),aN (by omega),decide_eq_true (by omega),aI (by omega)⟩
  ·simp only [OT.cK,e1,Nat.add_zero]
   rfl
 ·exact OT.ar (decide_eq_false (by dsimp only;omega))
def kI (b:List UInt8):List UInt64:=upto (λk m=>m.set k (ik b (8*k))) (List.replicate 16 0) 16
theorem JT (b:List UInt8):(kI b).length=16:=by
 unfold kI;rw [lv (λk v=>List.length_set)];rfl
def Eg (s:cv):Bool:=decide (s.1.2.2.2.2.2.1=0/\s.2.2.2.2.1=List.replicate 16 0)
def oq (s:cv):jV:=(((),(),(),(),()),(s.2.1,s.2.2.1,s.2.2.2.1,kI s.1.1,()))
theorem atn:∀ s:cv,Eg s=true->∃ m e,al sR m s=some e/\(A7 oq s).run=some e:=by
 rintro ⟨⟨b,⟨⟩,⟨⟩,⟨⟩,⟨⟩,i,⟨⟩⟩,⟨c0,c1,c2,c3,⟨⟩⟩⟩ hh
 have h':=of_decide_eq_true hh
 dsimp only at h'
 obtain ⟨rfl,rfl⟩:=h'
 have:=(aP (T:=sR) (λk m=>(((b,(),(),(),(),(k:Int),()),(c0,c1,c2,m,())):cv)) (λk m=>m.set k (ik b (8*k)))
  (λm=>(⟨(.exit 2,qy),(((),(),(),(),()),(c0,c1,c2,m,()))⟩:aE)) 16 (List.replicate 16 0) (λ_ m=>m.length=16) (by simp) (λk m hk hm=>⟨?_,by rw [List.length_set];exact hm⟩) (λm hm=> ?_)).1
 ·obtain ⟨n,hn⟩:=this
  exact ⟨n,_,hn,rfl⟩
 ·have e1:(8*(k:Int)).toNat=8*k:=by omega
  refine (OT.ap (decide_eq_true (by dsimp only;omega))).trans ((ah ?_).trans ?_)
  ·simp only [e1,hm,List.all_cons,List.all_nil,Bool.and_true,Bool.and_eq_true]
   exact ⟨aI (by omega),decide_eq_true (by dsimp only;omega),aN (by omega),decide_eq_true (by omega),aI (by omega)⟩
  ·simp only [OT.cK,e1,Nat.add_zero]
   rfl
 ·exact OT.ar (decide_eq_false (by dsimp only;omega))
def OW (k:Nat):List Int:=Px.getD (k%10) (List.replicate 16 0)
theorem acX (k:Nat) {j:Nat} (hj:j<16):nib ((rowAt k).getD j 0)=(OW k).getD j 0/\inB ((OW k).getD j 0) 16=true:=by
 have hk:k%10<10:=Nat.mod_lt _ (by decide)
 unfold rowAt OW
 generalize k%10=r at hk
 have h:∀ r:Fin 10,∀ j:Fin 16,nib ((gE.getD r.val []).getD j.val 0)=(Px.getD r.val (List.replicate 16 0)).getD j.val 0/\inB ((Px.getD r.val (List.replicate 16 0)).getD j.val 0) 16=true:=by decide+kernel
 exact h ⟨r,hk⟩ ⟨j,hj⟩
theorem aKp (m:List UInt64) (k:Nat) {j:Nat} (hj:j<16):atF m (rowAt k) (j:Int)=m.getD ((OW k).getD j 0).toNat 0:=by
 unfold atF
 rw [Int.toNat_natCast,(acX k hj).1]
theorem avo {v:List UInt64} (hv:v.length=16) (a b c d:Nat) (x y:UInt64):lay v (BW (tab v 16 0) a b c d x y) 16 0=BW v a b c d x y:=by
 rw [jo hv]
 exact xO hv (by rw [fR];exact hv)
def ajx (m:List UInt64) (k:Nat) (v:List UInt64):List UInt64:=
 let g:=λj=>m.getD ((OW k).getD j 0).toNat 0
 BW (BW (BW (BW (BW (BW (BW (BW v 0 4 8 12 (g 0) (g 1)) 1 5 9 13 (g 2) (g 3)) 2 6 10 14 (g 4) (g 5)) 3 7 11 15 (g 6) (g 7)) 0 5 10 15 (g 8) (g 9)) 1 6 11 12 (g 10) (g 11)) 2 7 8 13 (g 12) (g 13)) 3 4 9 14 (g 14) (g 15)
theorem aAw (m:List UInt64) (k:Nat) (v:List UInt64):ZJ m (rowAt k) (ZK m (rowAt k) v)=ajx m k v:=by
 have h:=λ{j:Nat} (hj:j<16)=>aKp m k hj
 have a0:atF m (rowAt k) (2*((0:Nat):Int))=m.getD ((OW k).getD 0 0).toNat 0:=h (j:=0) (by decide)
 have a1:atF m (rowAt k) (2*((0:Nat):Int)+1)=m.getD ((OW k).getD 1 0).toNat 0:=h (j:=1) (by decide)
 have a2:atF m (rowAt k) (2*((1:Nat):Int))=m.getD ((OW k).getD 2 0).toNat 0:=h (j:=2) (by decide)
 have a3:atF m (rowAt k) (2*((1:Nat):Int)+1)=m.getD ((OW k).getD 3 0).toNat 0:=h (j:=3) (by decide)
 have a4:atF m (rowAt k) (2*((2:Nat):Int))=m.getD ((OW k).getD 4 0).toNat 0:=h (j:=4) (by decide)
 have a5:atF m (rowAt k) (2*((2:Nat):Int)+1)=m.getD ((OW k).getD 5 0).toNat 0:=h (j:=5) (by decide)
 have a6:atF m (rowAt k) (2*((3:Nat):Int))=m.getD ((OW k).getD 6 0).toNat 0:=h (j:=6) (by decide)
 have a7:atF m (rowAt k) (2*((3:Nat):Int)+1)=m.getD ((OW k).getD 7 0).toNat 0:=h (j:=7) (by decide)
 have a8:atF m (rowAt k) (8+2*((0:Nat):Int))=m.getD ((OW k).getD 8 0).toNat 0:=h (j:=8) (by decide)
 have a9:atF m (rowAt k) (9+2*((0:Nat):Int))=m.getD ((OW k).getD 9 0).toNat 0:=h (j:=9) (by decide)
 have a10:atF m (rowAt k) (8+2*((1:Nat):Int))=m.getD ((OW k).getD 10 0).toNat 0:=h (j:=10) (by decide)
 have a11:atF m (rowAt k) (9+2*((1:Nat):Int))=m.getD ((OW k).getD 11 0).toNat 0:=h (j:=11) (by decide)
 have a12:atF m (rowAt k) (8+2*((2:Nat):Int))=m.getD ((OW k).getD 12 0).toNat 0:=h (j:=12) (by decide)
 have a13:atF m (rowAt k) (9+2*((2:Nat):Int))=m.getD ((OW k).getD 13 0).toNat 0:=h (j:=13) (by decide)
 have a14:atF m (rowAt k) (8+2*((3:Nat):Int))=m.getD ((OW k).getD 14 0).toNat 0:=h (j:=14) (by decide)
 have a15:atF m (rowAt k) (9+2*((3:Nat):Int))=m.getD ((OW k).getD 15 0).toNat 0:=h (j:=15) (by decide)
 simp only [ZK,ZJ,upto,a0,a1,a2,a3,a4,a5,a6,a7,a8,a9,a10,a11,a12,a13,a14,a15,Nat.reduceAdd,Nat.reduceMod,ajx]
def Ef (s:cu):Bool:=decide (s.1.2.2.2.2.2.1=0/\s.2.2.2.1.length=16/\s.2.2.2.2.1.length=16/\s.2.2.2.2.2.1=Px)
def oo (s:cu):jU:=(((),(),(),()),(s.2.1,s.2.2.1,kH s.2.2.2.2.1 s.2.2.2.1,()))
theorem atm:∀ s:cu,Ef s=true->∃ m e,al sQ m s=some e/\(A6 oo s).run=some e:=by
 rintro ⟨⟨⟨⟩,⟨⟩,⟨⟩,⟨⟩,⟨⟩,i,⟨⟩⟩,⟨c0,c1,v,m,c4,⟨⟩⟩⟩ hh
 have h':=of_decide_eq_true hh
 dsimp only at h'
 obtain ⟨rfl,hv,hm,rfl⟩:=h'
 have:=(aP (T:=sQ) (λk v=>((((),(),(),(),(),(k:Int),()),(c0,c1,v,m,Px,())):cu)) (λk v=>ZJ m (rowAt k) (ZK m (rowAt k) v))
  (λv=>(⟨(.exit 4,qx),(((),(),(),()),(c0,c1,v,()))⟩:aE)) 12 v (λ_ v=>v.length=16) hv (λk v hk hv=>⟨?_,by rw [tI,nA];exact hv⟩) (λv hv=> ?_)).1
 ·obtain ⟨n,hn⟩:=this
  exact ⟨n,_,hn,rfl⟩
 ·have t1:Int.tmod (k:Int) 10=((k%10:Nat):Int):=by rw [Int.tmod_eq_emod_of_nonneg (by omega)];omega
  have e1:((k%10:Nat):Int).toNat=k%10:=by omega
  have hrow:Px.getD (k%10) [0,0,0,0,0,0,0,0,0,0,0,0,0,0,0,0]=OW k:=rfl
  have hb:=λ{j:Nat} (hj:j<16)=>(acX k hj).2
  have hn:=λ{j:Nat} (hj:j<16)=>xQ (acX k hj).2
  refine (OT.ap (decide_eq_true (by dsimp only;omega))).trans ((ah ?_).trans ?_)
  ·simp only [t1,e1,Nat.add_zero,hrow,avo,gq,fR,hv,hm,hb,hn,List.all_cons,List.all_nil,Bool.and_true,Bool.and_eq_true,decide_true,Nat.le_refl,Nat.reduceLT,true_and,Nat.reduceDiv]
   exact ⟨aN (by omega),decide_eq_true (show k%10<10 by omega),aI (by omega)⟩
  ·simp only [OT.cK,t1,e1,Nat.add_zero,hrow,avo,gq,fR,hv,aAw]
   rfl
 ·exact OT.ar (decide_eq_false (by dsimp only;omega))
def Ee (s:ct):Bool:=decide (s.1.2.2.2.1=0/\s.2.1.length=8/\s.2.2.2.1.length=16)
def om (s:ct):jT:=(((),(),()),(Lq s.2.1 s.2.2.2.1,s.2.2.1,()))
theorem atl:∀ s:ct,Ee s=true->∃ m e,al sP m s=some e/\(A5 om s).run=some e:=by
 rintro ⟨⟨⟨⟩,⟨⟩,⟨⟩,i,⟨⟩⟩,⟨h,c1,v,⟨⟩⟩⟩ hh
 have h':=of_decide_eq_true hh
 dsimp only at h'
 obtain ⟨rfl,hl,hv⟩:=h'
 have:=(aP (T:=sP) (λk h=>((((),(),(),(k:Int),()),(h,c1,v,())):ct)) (λk h=>h.set k (h.getD k 0^^^(v.getD k 0^^^v.getD (k+8) 0)))
  (λh=>(⟨(.exit 6,qw),(((),(),()),(h,c1,()))⟩:aE)) 8 h (λ_ h=>h.length=8) hl (λk h hk hl=>⟨?_,by rw [List.length_set];exact hl⟩) (λh hl=> ?_)).1
 ·obtain ⟨n,hn⟩:=this
  exact ⟨n,_,hn,rfl⟩
 ·have e1:((k:Int)+8).toNat=k+8:=by omega
  refine (OT.ap (decide_eq_true (by dsimp only;omega))).trans ((ah ?_).trans ?_)
  ·simp only [e1,hl,hv,List.all_cons,List.all_nil,Bool.and_true,Bool.and_eq_true]
   exact ⟨aN (by omega),decide_eq_true (by omega),aN (by omega),decide_eq_true (by omega),aI (by omega),aN (by omega),decide_eq_true (by omega),aN (by omega),decide_eq_true (by omega),aI (by omega)⟩
  ·simp only [OT.cK,e1,Nat.add_zero]
   rfl
 ·exact OT.ar (decide_eq_false (by dsimp only;omega))
theorem aDh (x:UInt64):x^^^18446744073709551615= ~~~x:=by
 rw [<-UInt64.toBitVec_inj]
 show x.toBitVec^^^BitVec.allOnes 64= ~~~ x.toBitVec
 exact BitVec.xor_allOnes
theorem TA {b:List UInt8} {t:UInt64} {l:Bool} {h c1:List UInt64} (hh:h.length=8):Eh ((b,t,l,(),(),(),(),0,()),(h,c1,bIV,[0,0,0,0,0,0,0,0,0,0,0,0,0,0,0,0],()))=true:=decide_eq_true ⟨rfl,hh,rfl,rfl⟩
theorem A3 {b:List UInt8} {c0 c1 c2:List UInt64}:Eg ((b,(),(),(),(),0,()),(c0,c1,c2,[0,0,0,0,0,0,0,0,0,0,0,0,0,0,0,0],()))=true:=decide_eq_true ⟨rfl,rfl⟩
theorem A2 {c0 c1 v m:List UInt64} (hv:v.length=16) (hm:m.length=16):Ef (((),(),(),(),(),0,()),(c0,c1,v,m,Px,()))=true:=decide_eq_true ⟨rfl,hv,hm,rfl⟩
theorem A1 {c0 c1 v:List UInt64} (h0:c0.length=8) (hv:v.length=16):Ee (((),(),(),0,()),(c0,c1,v,()))=true:=decide_eq_true ⟨rfl,h0,hv⟩
def dI (h:List UInt64) (b:List UInt8) (t:UInt64) (last:Bool):List UInt64:=Lq h (kH (kI b) (sf h t last))
def Qb (x:Ei):Bool:=decide (x.1.1.length=8)
def ajz (x:Ei):OT il.Y:=.ok ⟨A4,((dI x.1.1 x.1.2.1 x.1.2.2.1 x.1.2.2.2.1,()),())⟩
theorem atk:ac Tryz.prog 106 (il.aH Qb ajz):=ac2 Eh lL Eg oq Ef oo Ee om ato atn atm atl _ _ λx oy hp ho=>by
 rw [<-ho]
 clear ho
 obtain ⟨⟨h,b,t,last,⟨⟩⟩,⟨⟩⟩:=x
 have hh:h.length=8:=of_decide_eq_true hp
 have t1:tab h 8 0=h:=jo hh
 have hv:∀ c l,(sf h c l).length=16:=λc l=>by
  unfold sf
  cases l<;>simp [hh]<;>rfl
 have hm:(kI b).length=16:=JT b
 have hr:∀ c l,(kH (kI b) (sf h c l)).length=16:=λc l=>by rw [sF];exact hv c l
 have hM:∀ c l,(dI h b c l).length=8:=λc l=>by unfold dI;rw [kN];exact hh
 have hi:(h++bIV).length=16:=by simp [hh];rfl
 have e8: [(7640891576956012808:UInt64),13503953896175478587,4354685564936845355,11912009170470909681,5840696475078001361,11170449401992604703,2270897969802886507,6620516959819538809]=bIV:=rfl
 have key:∀ M:List UInt64,M.length=8->tab (lay [(0:UInt64),0,0,0,0,0,0,0] M 8 0) 8 0=M:=λM hM=>by rw [xO (n:=8) rfl hM,jo hM]
 have l1:List.set (h++bIV) 12 ((h++bIV).getD 12 0^^^t)=sf h t false:=rfl
 have l2:List.set (sf h t false) 14 (~~~(sf h t false).getD 14 0)=sf h t true:=rfl
 have l3:∀ c l,Lq h (kH (kI b) (sf h c l))=dI h b c l:=λ_ _=>rfl
 have l4:tab Px 10 (List.replicate 16 0)=Px:=jo rfl
 refine (ah ?_).trans ?_
 ·simp only [t1,List.all_cons,List.all_nil,Bool.and_true,Bool.and_eq_true]
  rw [e8]
  simp only [lL,hi]
  exact ⟨TA hh,rfl,rfl⟩
 ·cases last
  ·refine (OT.ar rfl).trans ((ah ?_).trans ?_)
   ·simp only [t1,List.all_cons,List.all_nil,Bool.and_true,Bool.and_eq_true]
    rw [e8]
    simp only [lL,oq,oo,om,l1,l3,gq,hM]
    exact ⟨A3,A2 (hv _ _) hm,A1 hh (hr _ _),rfl,rfl,rfl⟩
   ·simp only [t1]
    rw [e8]
    simp only [lL,oq,oo,om,l1,l3]
    rw [key _ (hM _ _)]
    rfl
  ·refine (OT.ap rfl).trans ((ah ?_).trans ?_)
   ·simp only [t1,List.all_cons,List.all_nil,Bool.and_true,Bool.and_eq_true]
    rw [e8]
    simp only [lL,oq,oo,om,l1,aDh,l2,l3,gq,hM,hv]
    exact ⟨rfl,rfl,A3,A2 (hv _ _) hm,A1 hh (hr _ _),rfl,rfl,rfl⟩
   ·simp only [t1]
    rw [e8]
    simp only [lL,oq,oo,om,l1,aDh,l2,l3]
    rw [key _ (hM _ _)]
    rfl
def yE:cf:=(il.aH Qb ajz)
theorem XG:ac Tryz.prog 106 yE:=atk
theorem XF:aF yE:=aA
def rI:Env:=ay 106 yE CR
theorem mN:aQ Tryz.prog rI:=ag XG mM
theorem CT:ax rI:=ae XF NC
theorem uM:aU Tryz.prog te rI:=aJ follows aq mN CT
def sE:aw:=⟨[.val false .str,.val false .int,.val false (.list .u8)],[],true,0,false⟩
abbrev amJ:Type:=((List UInt8)×(Int)×(List (UInt8))×Unit)×(Unit)
def JI:Shape:=⟨90,[(1,.val false .int),(2,.val false (.list .u8)),(8,.ptr 0 0 0),(9,.val false .int)],[(0,.row .u64)],0,true⟩
abbrev dH:Type:=((Int)×(List (UInt8))×(Unit)×(Int)×Unit)×((List (UInt64))×Unit)
def AS:Shape:=⟨90,[(1,.val false .int),(2,.val false (.list .u8)),(8,.ptr 0 0 0),(9,.val false .int)],[(0,.row .u64)],0,true⟩
abbrev oh:Type:=((Int)×(List (UInt8))×(Unit)×(Int)×Unit)×((List (UInt64))×Unit)
def asN:SE->Option Shape:=fp [(0,AS)] none
def aGb (a1:Int) (a2:List (UInt8)) (a9:Int) (c0:List (UInt64)):OT (Sum dH aE):=
 let z0:Nat:=List.length a2
 let z1:Nat:=List.length c0
 let z2:Bool:=inR (a9+(128:Int))
 (gd [inR ((↑z0:Int)-a9)] (.br (decide ((128:Int)<(↑z0:Int)-a9))
 (gd [decide (8<=z1),z2,dw a9 (a9+(128:Int)) z0,z2,decide ((8/1:Nat)+0<=z1),z2] (.ok (.inl ((a1,(a2,((),(a9+(128:Int),())))),(lay c0 (dI (tab c0 8 (0:UInt64)) (List.drop (Int.toNat a9) (List.take (Int.toNat (a9+(128:Int))) a2)) (i2u (a9+(128:Int))) false) 8 (0:UInt64),())))))
 (.ok (.inr ⟨(.exit 0,AS),((a1,(a2,((),(a9,())))),(c0,()))⟩))))
def JK (s:dH):OT (Sum dH aE):=aGb (s.1.1) (s.1.2.1) (s.1.2.2.2.1) (s.2.1)
theorem aF6 (s:dH) (Q:Sum dH aE->Prop):wps te rI av 1000 (aV (aj Tryz.f63) 0) (JI.inj s) (bV JI asN (Q:Sum JI.T aE->Prop))=(JK s).wpR Q:=by kernel_rfl
def Tk (g0_0:dH->oh) (s:dH):OT aE:=(.ok ⟨(.exit 0,AS),g0_0 s⟩)
def JH:Shape:=⟨90,[(1,.val false .int),(8,.ptr 0 0 0),(10,.own 1),(11,.val false .int)],[(0,.row .u64),(1,.row .u8)],0,true⟩
abbrev dG:Type:=((Int)×(Unit)×(Unit)×(Int)×Unit)×((List (UInt64))×(List (UInt8))×Unit)
def AR:Shape:=⟨90,[(10,.own 0)],[(0,.row .u8)],0,true⟩
abbrev og:Type:=((Unit)×Unit)×((List (UInt8))×Unit)
def asM:SE->Option Shape:=fp [(2,AR)] none
def aGa (a1:Int) (a11:Int) (c0:List (UInt64)) (c1:List (UInt8)):OT (Sum dG aE):=
 let z0:Int:=Int.tdiv a11 (8:Int)
 let z1:Int:=(8:Int)*Int.tmod a11 (8:Int)
 (.br (decide (a11<a1))
 (gd [true&&inR z0,inB z0 8,decide (Int.toNat z0+0<List.length c0),inR z1,decide ((List.length c1+1)*1<=140737488355328),inR (a11+(1:Int))] (.ok (.inl ((a1,((),((),(a11+(1:Int),())))),(c0,(c1++ [UInt64.toUInt8 (be (List.getD c0 (Int.toNat z0+0) (0:UInt64)) (↑(UInt64.toNat (i2u z1)):Int))],()))))))
 (.ok (.inr ⟨(.exit 2,AR),(((),()),(c1,()))⟩)))
def JJ (s:dG):OT (Sum dG aE):=aGa (s.1.1) (s.1.2.2.2.1) (s.2.1) (s.2.2.1)
theorem aF5 (s:dG) (Q:Sum dG aE->Prop):wps te rI av 1000 (aV (aj Tryz.f63) 2) (JH.inj s) (bV JH asM (Q:Sum JH.T aE->Prop))=(JJ s).wpR Q:=by kernel_rfl
def Tj (g2_2:dG->og) (s:dG):OT aE:=(.ok ⟨(.exit 2,AR),g2_2 s⟩)
def yz:az:=⟨[.own 0,.val false .int],[(0,.row .u8)],false⟩
def ajl:SV->Option az:=λ_=>some yz
def JL (ok0:dH->Bool) (g0_0:dH->oh) (ok2:dG->Bool) (g2_2:dG->og) (a0:List UInt8) (a1:Int) (a2:List (UInt8)):OT sE.Y:=
 let z0:(Int×List UInt8×PUnit×Int×PUnit)×List UInt64×PUnit:=((a1,a2,(),(0:Int),()),[(7640891576956012808:UInt64)^^^(16842752:UInt64)+i2u a1,(13503953896175478587:UInt64),(4354685564936845355:UInt64),(11912009170470909681:UInt64),(5840696475078001361:UInt64),(11170449401992604703:UInt64),(2270897969802886507:UInt64)^^^ik a0 (Int.toNat (0:Int)),(6620516959819538809:UInt64)^^^ik a0 (Int.toNat (8:Int))],())
 let z1:(Int×List UInt8×PUnit×Int×PUnit)×List UInt64×PUnit:=g0_0 z0
 let z2:=z1.snd.fst
 let z3:Nat:=List.length z2
 let z4:=z1.fst
 let z5:=z4.snd
 let z6:=z5.snd.snd.fst
 let z7:=z5.fst
 let z8:Nat:=List.length z7
 let z9:Int:=(↑z8:Int)
 let z10:(Int×PUnit×PUnit×Int×PUnit)×List UInt64×List UInt8×PUnit:=((z4.fst,(),(),(0:Int),()),lay z2 (dI (tab z2 8 (0:UInt64)) (List.drop (Int.toNat z6) z7) (i2u z9) true) 8 (0:UInt64),[],())
 (.br (decide ((16:Int)<(↑(List.length a0):Int)))
 (.ok ⟨yz,(((),((30:Int),())),([],()))⟩)
 (.br (decide (a1<(1:Int)))
  (.ok ⟨yz,(((),((30:Int),())),([],()))⟩)
  (.br (decide ((64:Int)<a1))
   (.ok ⟨yz,(((),((30:Int),())),([],()))⟩)
   (gd [ok0 z0,decide (8<=z3),dw z6 z9 z8,decide ((8/1:Nat)+0<=z3),ok2 z10] (.ok ⟨yz,(((),((0:Int),())),((g2_2 z10).snd.fst,()))⟩)))))
theorem aJh (ok0:dH->Bool) (g0_0:dH->oh) (ok2:dG->Bool) (g2_2:dG->og) (x:amJ) (Q:sE.Y->Prop):wpf te rI (aO 2 (cb JH 2 ok2 (Tj g2_2)) (aO 0 (cb JI 0 ok0 (Tk g0_0)) av)) 1000 Tryz.f63 (sE.inp.inj x).tm (sE.inp.inj x).hp (fnK sE ajl Q) (λ_ _=>False)=(JL ok0 g0_0 ok2 g2_2 (x.1.1) (x.1.2.1) (x.1.2.2.1)).wpR Q:=by kernel_rfl
theorem asO (ok0:dH->Bool) (g0_0:dH->oh) (ok2:dG->Bool) (g2_2:dG->og) (h0:∀ s:dH,ok0 s=true->∃ m e,al (JK) m s=some e/\(Tk g0_0 s).run=some e) (h2:∀ s:dG,ok2 s=true->∃ m e,al (JJ) m s=some e/\(Tj g2_2 s).run=some e) (pre:amJ->Bool) (F:amJ->OT sE.Y) (hF:∀ (x:amJ) oy,pre x=true->(F x).run=some oy->(JL ok0 g0_0 ok2 g2_2 (x.1.1) (x.1.2.1) (x.1.2.2.1)).run=some oy):ac Tryz.prog 63 (sE.aH pre F):=
 aD aq mN uM (f:=63) (fn:=Tryz.f63) (c:=aj Tryz.f63) (by kernel_rfl) (by kernel_rfl) (by kernel_rfl) (S:=sE) (k:=0) (by kernel_rfl) (λR hR=>(aB (c:=(aj Tryz.f63)) (by kernel_rfl) (id:=2) (by kernel_rfl) (aS aq mN uM (sh:=JH) hR (xs:=asM) (aC (by kernel_rfl) (by kernel_rfl) hR) aK af (n:=1000) (T:=JJ) (λs Q=>aF5 s Q) (ok:=ok2) (f:=Tj g2_2) h2) (aB (c:=(aj Tryz.f63)) (by kernel_rfl) (id:=0) (by kernel_rfl) (aS aq mN uM (sh:=JI) hR (xs:=asN) (aC (by kernel_rfl) (by kernel_rfl) hR) aK af (n:=1000) (T:=JK) (λs Q=>aF6 s Q) (ok:=ok0) (f:=Tk g0_0) h0) af))) (n:=1000) (sel:=ajl) (λv o h=>by cases h;rfl) (pre:=pre) (F:=F) (T:=λx=>JL ok0 g0_0 ok2 g2_2 (x.1.1) (x.1.2.1) (x.1.2.2.1)) (λx Q=>aJh ok0 g0_0 ok2 g2_2 x Q) hF
def oi (b:List UInt8) (h:List UInt64) (n:Nat):List UInt64:=upto (λk h=>dI h ((b.take (128*k+128)).drop (128*k)) (i2u ((128*k+128:Nat):Int)) false) h n
def AY (h:List UInt64) (n:Nat):List UInt8:=upto (λk o=>o++ [UInt64.toUInt8 (be (h.getD (k/8) 0) ((i2u (8*((k%8:Nat):Int))).toNat:Int))]) [] n
theorem fH {h:List UInt64} {b:List UInt8} {t:UInt64} {l:Bool} (hh:h.length=8):(dI h b t l).length=8:=by unfold dI;rw [kN];exact hh
def Ti (s:dH):Bool:=decide (s.1.2.2.2.1=0/\s.2.1.length=8/\s.1.2.1.length<=1000000000000)
def acT (s:dH):oh:=((s.1.1,s.1.2.1,(),((128*((s.1.2.1.length-1)/128):Nat):Int),()),(oi s.1.2.1 s.2.1 ((s.1.2.1.length-1)/128),()))
theorem aF9:∀ s:dH,Ti s=true->∃ m e,al JK m s=some e/\(Tk acT s).run=some e:=by
 rintro ⟨⟨n,b,⟨⟩,i,⟨⟩⟩,⟨h,⟨⟩⟩⟩ hh
 have h':=of_decide_eq_true hh
 dsimp only at h'
 obtain ⟨rfl,hl,hb⟩:=h'
 have:=(aP (T:=JK) (λk h=>(((n,b,(),((128*k:Nat):Int),()),(h,())):dH)) (λk h=>dI h ((b.take (128*k+128)).drop (128*k)) (i2u ((128*k+128:Nat):Int)) false)
  (λh=>(⟨(.exit 0,AS),((n,b,(),((128*((b.length-1)/128):Nat):Int),()),(h,()))⟩:aE)) ((b.length-1)/128) h (λ_ h=>h.length=8) hl (λk h hk hl=>⟨?_,fH hl⟩) (λh hl=> ?_)).1
 ·obtain ⟨m,hm⟩:=this
  exact ⟨m,_,hm,rfl⟩
 ·have e1:(((128*k:Nat):Int)+128).toNat=128*k+128:=by omega
  have e2:(((128*k:Nat):Int)).toNat=128*k:=by omega
  have e3:((128*k:Nat):Int)+128=((128*k+128:Nat):Int):=by omega
  have e4:((128*(k+1):Nat):Int)=((128*k+128:Nat):Int):=by omega
  have t1:tab h 8 0=h:=jo hl
  have t2:∀ c l t,lay h (dI h c t l) 8 0=dI h c t l:=λc l t=>xO hl (fH hl)
  refine (ah (by simp only [List.all_cons,List.all_nil,Bool.and_true];exact aI (by omega))).trans ((OT.ap (decide_eq_true (by dsimp only;omega))).trans ((ah ?_).trans ?_))
  ·simp only [hl,List.all_cons,List.all_nil,Bool.and_true,Bool.and_eq_true]
   exact ⟨rfl,aI (by omega),gx (by omega),aI (by omega),rfl,aI (by omega)⟩
  ·simp only [OT.cK,e2,e3,e4,t1,t2,Int.toNat_natCast]
 ·refine (ah (by simp only [List.all_cons,List.all_nil,Bool.and_true];exact aI (by omega))).trans (OT.ar (decide_eq_false (by dsimp only;omega)))
def Th (s:dG):Bool:=decide (s.1.2.2.2.1=0/\s.2.1.length=8/\s.1.1<=64/\0<=s.1.1/\s.2.2.1= [])
def asP (s:dG):og:=(((),()),(AY s.2.1 s.1.1.toNat,()))
theorem aF8:∀ s:dG,Th s=true->∃ m e,al JJ m s=some e/\(Tj asP s).run=some e:=by
 rintro ⟨⟨n,⟨⟩,⟨⟩,i,⟨⟩⟩,⟨h,o,⟨⟩⟩⟩ hh
 have h':=of_decide_eq_true hh
 dsimp only at h'
 obtain ⟨rfl,hl,hn,hn0,rfl⟩:=h'
 obtain ⟨k,rfl⟩:∃ k:Nat,n=(k:Int):=⟨n.toNat,by omega⟩
 have:=(aP (T:=JJ) (λi o=>((((k:Int),(),(),(i:Int),()),(h,o,())):dG)) (λk o=>o++ [UInt64.toUInt8 (be (h.getD (k/8) 0) ((i2u (8*((k%8:Nat):Int))).toNat:Int))])
  (λo=>(⟨(.exit 2,AR),(((),()),(o,()))⟩:aE)) k [] (λi o=>o.length=i) rfl (λi o hi ho=>⟨?_,by simp [ho]⟩) (λo ho=> ?_)).1
 ·obtain ⟨m,hm⟩:=this
  exact ⟨m,_,hm,rfl⟩
 ·have t1:Int.tdiv (i:Int) 8=((i/8:Nat):Int):=by rw [Int.tdiv_eq_ediv_of_nonneg (by omega)];omega
  have t2:Int.tmod (i:Int) 8=((i%8:Nat):Int):=by rw [Int.tmod_eq_emod_of_nonneg (by omega)];omega
  refine (OT.ap (decide_eq_true (by dsimp only;omega))).trans ((ah ?_).trans ?_)
  ·simp only [t1,t2,hl,ho,Int.toNat_natCast,List.all_cons,List.all_nil,Bool.and_true,Bool.and_eq_true]
   exact ⟨⟨trivial,aI (by omega)⟩,aN (by omega),decide_eq_true (by omega),aI (by omega),decide_eq_true (by omega),aI (by omega)⟩
  ·simp only [OT.cK,t1,t2,Int.toNat_natCast,Nat.add_zero]
   rfl
 ·exact OT.ar (decide_eq_false (by dsimp only;omega))
def atb (p:List UInt8) (n:Int):List UInt64:= [0x6a09e667f3bcc908^^^(16842752+i2u n),0xbb67ae8584caa73b,0x3c6ef372fe94f82b,0xa54ff53a5f1d36f1,0x510e527fade682d1,0x9b05688c2b3e6c1f,0x1f83d9abfb41bd6b^^^ik p 0,0x5be0cd19137e2179^^^ik p 8]
def aAC (p:List UInt8) (n:Int) (b:List UInt8):List UInt8:=
 AY (dI (oi b (atb p n) ((b.length-1)/128)) (b.drop (128*((b.length-1)/128))) (i2u (b.length:Int)) true) n.toNat
def IA (x:amJ):Bool:=decide (x.1.2.2.1.length<=1000000000000)
def P4 (x:amJ):OT sE.Y:=.br (gy x.1.1 x.1.2.1) (.ok ⟨yz,(((),((30:Int),())),([],()))⟩) (.ok ⟨yz,(((),((0:Int),())),(aAC x.1.1 x.1.2.1 x.1.2.2.1,()))⟩)
theorem acS {n:Int} {b:List UInt8} {h:List UInt64} (hh:h.length=8) (hb:b.length<=1000000000000):Ti ((n,b,(),0,()),(h,()))=true:=decide_eq_true ⟨rfl,hh,hb⟩
theorem acR {n:Int} {h:List UInt64} (hh:h.length=8) (hn0:0<=n) (hn:n<=64):Th ((n,(),(),0,()),(h,[],()))=true:=decide_eq_true ⟨rfl,hh,hn,hn0,rfl⟩
theorem AX {b:List UInt8} {h:List UInt64} (hh:h.length=8):∀ n,(oi b h n).length=8
 |0=>hh
 |n+1=>fH (AX hh n)
theorem aF7:ac Tryz.prog 63 (sE.aH IA P4):=asO Ti acT Th asP aF9 aF8 _ _ λx oy hp ho=>by
 rw [<-ho]
 obtain ⟨⟨p,n,b,⟨⟩⟩,⟨⟩⟩:=x
 clear ho
 have hb:b.length<=1000000000000:=of_decide_eq_true hp
 by_cases h1:16<(p.length:Int)
 ·have e1:decide (16<(p.length:Int))=true:=decide_eq_true h1
  have eb:gy p n=true:=by simp only [gy,e1,Bool.true_or]
  simp only [P4,JL,e1,eb]
  rfl
 ·have e1:decide (16<(p.length:Int))=false:=decide_eq_false h1
  by_cases h2:n<1
  ·have e2:decide (n<1)=true:=decide_eq_true h2
   have eb:gy p n=true:=by simp only [gy,e1,e2,Bool.true_or,Bool.false_or]
   simp only [P4,JL,e1,e2,eb]
   rfl
  ·have e2:decide (n<1)=false:=decide_eq_false h2
   by_cases h3:64<n
   ·have e3:decide (64<n)=true:=decide_eq_true h3
    have eb:gy p n=true:=by simp only [gy,e1,e2,e3,Bool.false_or]
    simp only [P4,JL,e1,e2,e3,eb]
    rfl
   ·have e3:decide (64<n)=false:=decide_eq_false h3
    have eb:gy p n=false:=by simp only [gy,e1,e2,e3,Bool.false_or]
    have hH:(atb p n).length=8:=rfl
    have hE:∀ k,(oi b (atb p n) k).length=8:=λk=>AX hH k
    have l1: [(7640891576956012808:UInt64)^^^16842752+i2u n,13503953896175478587,4354685564936845355,11912009170470909681,5840696475078001361,11170449401992604703,2270897969802886507^^^ik p (Int.toNat 0),6620516959819538809^^^ik p (Int.toNat 8)]=atb p n:=rfl
    have t1:∀ k,tab (oi b (atb p n) k) 8 0=oi b (atb p n) k:=λk=>jo (hE k)
    have t2:∀ k c l t,lay (oi b (atb p n) k) (dI (oi b (atb p n) k) c t l) 8 0=dI (oi b (atb p n) k) c t l:=λk c l t=>xO (hE k) (fH (hE k))
    simp only [P4,JL,e1,e2,e3,eb,acT,l1,t1,t2,hE,Int.toNat_natCast]
    refine (ah ?_).trans rfl
    simp only [List.all_cons,List.all_nil,Bool.and_true,Bool.and_eq_true]
    exact ⟨acS hH hb,rfl,gx (by omega),rfl,acR (fH (hE _)) (by omega) (by omega)⟩
def JG:cf:=(sE.aH IA P4)
theorem amI:ac Tryz.prog 63 JG:=aF7
theorem amH:aF JG:=aA
def SB:Env:=ay 63 JG rI
theorem CQ:aQ Tryz.prog SB:=ag amI mN
theorem Ny:ax SB:=ae amH CT
theorem SA:aU Tryz.prog te SB:=aJ follows aq CQ Ny
end Go.Proofs.YtohjofabochgfaaGreat

namespace Go.Proofs.YtohjofabochgfaaGreat
namespace Sx
open Go
end Sx
end Go.Proofs.YtohjofabochgfaaGreat

namespace Go.Proofs.YtohjofabochgfaaGreat
open Sx Go
set_option maxRecDepth 100000
def eG:aw:=⟨[.val true .elem,.val true .elem],[],true,0,false⟩
abbrev vQ:Type:=((aa)×(aa)×Unit)×(Unit)
def oV:Shape:=⟨24,[(2,.ptr 0 0 0),(3,.ptr 1 0 0),(5,.val false .int)],[(0,.row .u64),(1,.row .u64)],0,true⟩
abbrev bg:Type:=((Unit)×(Unit)×(Int)×Unit)×((List (UInt64))×(List (UInt64))×Unit)
def j5:Shape:=⟨24,[(4,.val false .bool)],[],0,true⟩
abbrev iE:Type:=((Bool)×Unit)×(Unit)
def ni:Shape:=⟨24,[],[],0,true⟩
abbrev iF:Type:=(Unit)×(Unit)
def QQ:SE->Option Shape:=fp [(0,ni)] (some j5)
def anL (a5:Int) (c0:List (UInt64)) (c1:List (UInt64)):OT (Sum bg aE):=
 let z0:Bool:=inB a5 4
 let z1:Bool:=decide (Int.toNat a5+0<List.length c0)
 let z2:Bool:=decide (Int.toNat a5+0<List.length c1)
 let z3:UInt64:=List.getD c0 (Int.toNat a5+0) (0:UInt64)
 let z4:UInt64:=List.getD c1 (Int.toNat a5+0) (0:UInt64)
 (.br (decide ((0:Int)<=a5))
 (gd [z0,z1,z0,z2] (.br (!z3==z4)
  (gd [z0,z1,z0,z2] (.ok (.inr ⟨(.ret,j5),((decide (z3<z4),()),())⟩)))
  (gd [inR (a5-(1:Int))] (.ok (.inl (((),((),(a5-(1:Int),()))),(c0,(c1,()))))))))
 (.ok (.inr ⟨(.exit 0,ni),((),())⟩)))
def gl (s:bg):OT (Sum bg aE):=anL (s.1.2.2.1) (s.2.1) (s.2.2.1)
theorem anI (s:bg) (Q:Sum bg aE->Prop):wps te SB av 1000 (aV (aj Tryz.f144) 0) (oV.inj s) (bV oV QQ (Q:Sum oV.T aE->Prop))=(gl s).wpR Q:=by kernel_rfl
def oW (g0_r:bg->iE) (c0_r:bg->Bool) (g0_0:bg->iF) (s:bg):OT aE:=(.br (c0_r s) (.ok ⟨(.ret,j5),g0_r s⟩) (.ok ⟨(.exit 0,ni),g0_0 s⟩))
def la:az:=⟨[.val false .bool],[],false⟩
def KL:SV->Option az:=λ_=>some la
def KO (ok0:bg->Bool) (g0_r:bg->iE) (c0_r:bg->Bool) (g0_0:bg->iF) (a0:aa) (a1:aa):OT eG.Y:=
 let z0:(PUnit×PUnit×Int×PUnit)×List UInt64×List UInt64×PUnit:=(((),(),(3:Int),()),[a0.w0,a0.w1,a0.w2,a0.w3],[a1.w0,a1.w1,a1.w2,a1.w3],())
 (gd [ok0 z0] (.br (c0_r z0)
 (.ok ⟨la,(((g0_r z0).fst.fst,()),())⟩)
 (.ok ⟨la,((false,()),())⟩)))
theorem aur (ok0:bg->Bool) (g0_r:bg->iE) (c0_r:bg->Bool) (g0_0:bg->iF) (x:vQ) (Q:eG.Y->Prop):wpf te SB (aO 0 (cb oV 0 ok0 (oW g0_r c0_r g0_0)) av) 1000 Tryz.f144 (eG.inp.inj x).tm (eG.inp.inj x).hp (fnK eG KL Q) (λ_ _=>False)=(KO ok0 g0_r c0_r g0_0 (x.1.1) (x.1.2.1)).wpR Q:=by kernel_rfl
theorem YI (ok0:bg->Bool) (g0_r:bg->iE) (c0_r:bg->Bool) (g0_0:bg->iF) (h0:∀ s:bg,ok0 s=true->∃ m e,al (gl) m s=some e/\(oW g0_r c0_r g0_0 s).run=some e) (pre:vQ->Bool) (F:vQ->OT eG.Y) (hF:∀ (x:vQ) oy,pre x=true->(F x).run=some oy->(KO ok0 g0_r c0_r g0_0 (x.1.1) (x.1.2.1)).run=some oy):ac Tryz.prog 144 (eG.aH pre F):=
 aD aq CQ SA (f:=144) (fn:=Tryz.f144) (c:=aj Tryz.f144) (by kernel_rfl) (by kernel_rfl) (by kernel_rfl) (S:=eG) (k:=0) (by kernel_rfl) (λR hR=>(aB (c:=(aj Tryz.f144)) (by kernel_rfl) (id:=0) (by kernel_rfl) (aS aq CQ SA (sh:=oV) hR (xs:=QQ) (aC (by kernel_rfl) (by kernel_rfl) hR) aK af (n:=1000) (T:=gl) (λs Q=>anI s Q) (ok:=ok0) (f:=oW g0_r c0_r g0_0) h0) af)) (n:=1000) (sel:=KL) (λv o h=>by cases h;rfl) (pre:=pre) (F:=F) (T:=λx=>KO ok0 g0_r c0_r g0_0 (x.1.1) (x.1.2.1)) (λx Q=>aur ok0 g0_r c0_r g0_0 x Q) hF
def jp (a b:aa) (i:Int):bg:=(((),(),i,()),(lst a,lst b,()))
theorem IM (a b:aa) (k:Nat) (hk:k<4) (h:(lst a).getD k 0=(lst b).getD k 0):(gl (jp a b (k:Int))).run=some (.inl (jp a b ((k:Int)-1))):=by
 refine (OT.ap (decide_eq_true (by dsimp only [jp];omega))).trans ((ah ?_).trans ((OT.ar ?_).trans ((ah ?_).trans rfl)))
 ·simp only [jp,Int.toNat_natCast,Nat.add_zero,cA,List.all_cons,List.all_nil,Bool.and_true,Bool.and_eq_true]
  exact ⟨aN (by omega),decide_eq_true hk,aN (by omega),decide_eq_true hk⟩
 ·simp only [jp,Int.toNat_natCast,Nat.add_zero,h,beq_self_eq_true,Bool.not_true]
 ·simp only [jp,List.all_cons,List.all_nil,Bool.and_true]
  exact aI (by omega)
theorem vR (a b:aa) (k:Nat) (hk:k<4) (h:¬(lst a).getD k 0=(lst b).getD k 0):(gl (jp a b (k:Int))).run=some (.inr ⟨(.ret,j5),((decide ((lst a).getD k 0<(lst b).getD k 0),()),())⟩):=by
 refine (OT.ap (decide_eq_true (by dsimp only [jp];omega))).trans ((ah ?_).trans ((OT.ap ?_).trans ((ah ?_).trans ?_)))
 ·simp only [jp,Int.toNat_natCast,Nat.add_zero,cA,List.all_cons,List.all_nil,Bool.and_true,Bool.and_eq_true]
  exact ⟨aN (by omega),decide_eq_true hk,aN (by omega),decide_eq_true hk⟩
 ·simp only [jp,Int.toNat_natCast,Nat.add_zero,beq_eq_false_iff_ne.2 h,Bool.not_false]
 ·simp only [jp,Int.toNat_natCast,Nat.add_zero,cA,List.all_cons,List.all_nil,Bool.and_true,Bool.and_eq_true]
  exact ⟨aN (by omega),decide_eq_true hk,aN (by omega),decide_eq_true hk⟩
 ·simp only [jp,Int.toNat_natCast,Nat.add_zero]
  rfl
def KN (s:bg):Bool:=decide (s.1.2.2.1=3/\s.2.1.length=4/\s.2.2.1.length=4)
def ER (s:bg):iE:=((Nat.blt (elemOf s.2.1).nat (elemOf s.2.2.1).nat,()),())
def ma (s:bg):Bool:= !eqE (elemOf s.2.1) (elemOf s.2.2.1)
def ES (_:bg):iF:=((),())
theorem Ug {a b:aa} (h:¬a=b) {r:Bool} (hr:r=Nat.blt a.nat b.nat) (hm:∃ m,al gl m (jp a b 3)=some ⟨(.ret,j5),((r,()),())⟩):
 ∃ m e,al gl m (jp a b 3)=some e/\(oW ER ma ES (jp a b 3)).run=some e:=by
 obtain ⟨m,hm⟩:=hm
 refine ⟨m,_,hm,?_⟩
 have hc:ma (jp a b 3)=true:=by
  show (!eqE a b)=true
  rw [Bool.eq_false_iff.2 λe=>h (zr.1 e)]
  rfl
 subst hr
 exact OT.ap hc
theorem anK:∀ s:bg,KN s=true->∃ m e,al gl m s=some e/\(oW ER ma ES s).run=some e:=by
 rintro ⟨⟨⟨⟩,⟨⟩,i,⟨⟩⟩,⟨l1,l2,⟨⟩⟩⟩ h
 have h':=of_decide_eq_true h
 dsimp only at h'
 obtain ⟨rfl,h1,h2⟩:=h'
 obtain ⟨a,rfl⟩:∃ a,l1=lst a:=⟨elemOf l1,(aR h1).symm⟩
 obtain ⟨b,rfl⟩:∃ a,l2=lst a:=⟨elemOf l2,(aR h2).symm⟩
 have ha0:=a.w0.toNat_lt
 have hb0:=b.w0.toNat_lt
 have ha1:=a.w1.toNat_lt
 have hb1:=b.w1.toNat_lt
 have ha2:=a.w2.toNat_lt
 have hb2:=b.w2.toNat_lt
 by_cases h3:a.w3=b.w3
 ·have s3:=IM a b 3 (by omega) h3
  by_cases h2:a.w2=b.w2
  ·have s2:=IM a b 2 (by omega) h2
   by_cases h1:a.w1=b.w1
   ·have s1:=IM a b 1 (by omega) h1
    by_cases h0:a.w0=b.w0
    ·have s0:=IM a b 0 (by omega) h0
     have e:a=b:=by cases a;cases b;simp_all
     have sx:(gl (jp a b (((0:Nat):Int)-1))).run=some (.inr ⟨(.exit 0,ni),((),())⟩):=OT.ar (decide_eq_false (by dsimp only [jp];omega))
     refine ⟨_,_,aG s3 (aG s2 (aG s1 (aG s0 (aM sx)))),?_⟩
     have hc:ma (((),(),3,()),(lst a,lst b,()))=false:=by
      show (!eqE a b)=false
      rw [e,alr]
      rfl
     exact OT.ar hc
    ·refine Ug (λe=>h0 (by rw [e])) (uF ?_) ⟨_,aG s3 (aG s2 (aG s1 (aM (vR a b 0 (by omega) h0))))⟩
     show a.nat<b.nat ↔ a.w0.toNat<b.w0.toNat
     unfold Sx.aa.nat
     rw [h3,h2,h1]
     exact Rr.1
   ·refine Ug (λe=>h1 (by rw [e])) (uF ?_) ⟨_,aG s3 (aG s2 (aM (vR a b 1 (by omega) h1)))⟩
    show a.nat<b.nat ↔ a.w1.toNat<b.w1.toNat
    unfold Sx.aa.nat
    rw [h3,h2]
    have k:=Rr (x:=a.w1.toNat) (y:=b.w1.toNat) (N:=b.w2.toNat+18446744073709551616*b.w3.toNat)
    exact (sa ha0 hb0 (k.2 (Fb h1))).1.trans k.1
  ·refine Ug (λe=>h2 (by rw [e])) (uF ?_) ⟨_,aG s3 (aM (vR a b 2 (by omega) h2))⟩
   show a.nat<b.nat ↔ a.w2.toNat<b.w2.toNat
   unfold Sx.aa.nat
   rw [h3]
   have k:=Rr (x:=a.w2.toNat) (y:=b.w2.toNat) (N:=b.w3.toNat)
   have k1:=sa ha1 hb1 (k.2 (Fb h2))
   exact (sa ha0 hb0 k1.2).1.trans (k1.1.trans k.1)
 ·refine Ug (λe=>h3 (by rw [e])) (uF ?_) ⟨_,aM (vR a b 3 (by omega) h3)⟩
  show a.nat<b.nat ↔ a.w3.toNat<b.w3.toNat
  unfold Sx.aa.nat
  have k2:=sa ha2 hb2 (Fb h3)
  have k1:=sa ha1 hb1 k2.2
  exact (sa ha0 hb0 k1.2).1.trans (k1.1.trans k2.1)
def KM (_:vQ):Bool:=true
def YJ (x:vQ):OT eG.Y:=.ok ⟨la,((Nat.blt x.1.1.nat x.1.2.1.nat,()),())⟩
theorem anJ:ac Tryz.prog 144 (eG.aH KM YJ):=YI KN ER ma ES anK _ _ λx oy _ ho=>by
 rw [<-ho]
 clear ho
 obtain ⟨⟨a,b,⟨⟩⟩,⟨⟩⟩:=x
 refine (ah ?_).trans ?_
 ·simp only [List.all_cons,List.all_nil,Bool.and_true]
  exact decide_eq_true ⟨rfl,rfl,rfl⟩
 ·rcases (Bool.eq_false_or_eq_true (eqE a b)).symm with h|h
  ·have hc:ma (((),(),3,()),(lst a,lst b,()))=true:=by
    show (!eqE a b)=true
    rw [h]
    rfl
   exact OT.ap hc
  ·have hc:ma (((),(),3,()),(lst a,lst b,()))=false:=by
    show (!eqE a b)=false
    rw [h]
    rfl
   refine (OT.ar hc).trans ?_
   have e:Nat.blt a.nat b.nat=false:=by
    rw [zr.1 h]
    cases hb:Nat.blt b.nat b.nat
    ·rfl
    ·exact absurd (ed hb) (Nat.lt_irrefl _)
   show (OT.ok ⟨la,((false,()),())⟩:OT eG.Y).run=(OT.ok ⟨la,((Nat.blt a.nat b.nat,()),())⟩:OT eG.Y).run
   rw [e]
def tf:cf:=(eG.aH KM YJ)
theorem Uf:ac Tryz.prog 144 tf:=anJ
theorem Ue:aF tf:=aA
def qb:Env:=ay 144 tf SB
theorem nO:aQ Tryz.prog qb:=ag Uf CQ
theorem yb:ax qb:=ae Ue Ny
theorem Db:aU Tryz.prog te qb:=aJ follows aq nO yb
def fL:aw:=⟨[.val true .elem,.val true .elem],[],true,0,false⟩
abbrev vP:Type:=((aa)×(aa)×Unit)×(Unit)
def oR:Shape:=⟨41,[(2,.ptr 0 0 0),(3,.ptr 1 0 0),(4,.ptr 2 0 0),(5,.ptr 3 0 0),(6,.val false .u64),(7,.val false .int)],[(0,.row .u64),(1,.row .u64),(2,.row .u64),(3,.row .u64)],0,true⟩
abbrev bR:Type:=((Unit)×(Unit)×(Unit)×(Unit)×(UInt64)×(Int)×Unit)×((List (UInt64))×(List (UInt64))×(List (UInt64))×(List (UInt64))×Unit)
def nh:Shape:=⟨41,[(4,.ptr 0 0 0),(5,.ptr 1 0 0)],[(0,.row .u64),(1,.row .u64)],0,true⟩
abbrev iC:Type:=((Unit)×(Unit)×Unit)×((List (UInt64))×(List (UInt64))×Unit)
def QL:SE->Option Shape:=fp [(0,nh)] none
def anH (a6:UInt64) (a7:Int) (c0:List (UInt64)) (c1:List (UInt64)) (c2:List (UInt64)) (c3:List (UInt64)):OT (Sum bR aE):=
 let z0:Bool:=inB a7 4
 let z1:Bool:=decide (Int.toNat a7+0<List.length c0)
 let z2:Bool:=decide (Int.toNat a7+0<List.length c1)
 let z3:UInt64:=List.getD c0 (Int.toNat a7+0) (0:UInt64)
 let z4:UInt64:=List.getD c1 (Int.toNat a7+0) (0:UInt64)
 let z5:Bool:=decide (Int.toNat a7+0<List.length c3)
 let z6:Bool:=inR (a7+(1:Int))
 let z7:UInt64:=z3-z4
 let z8:List UInt64:=List.set c3 (Int.toNat a7+0) (z7-a6)
 (.br (decide (a7<(4:Int)))
 (gd [z0,z1,z0,z2,z0,z1,z0,z2] (.br (decide (z3<z4))
  (gd [z0,z5,z6] (.ok (.inl (((),((),((),((),((1:UInt64),(a7+(1:Int),())))))),(c0,(c1,(c2,(z8,()))))))))
  (.br (decide (z7<a6))
   (gd [z0,z5,z6] (.ok (.inl (((),((),((),((),((1:UInt64),(a7+(1:Int),())))))),(c0,(c1,(c2,(z8,()))))))))
   (gd [z0,z5,z6] (.ok (.inl (((),((),((),((),((0:UInt64),(a7+(1:Int),())))))),(c0,(c1,(c2,(z8,())))))))))))
 (.ok (.inr ⟨(.exit 0,nh),(((),((),())),(c2,(c3,())))⟩)))
def oU (s:bR):OT (Sum bR aE):=anH (s.1.2.2.2.2.1) (s.1.2.2.2.2.2.1) (s.2.1) (s.2.2.1) (s.2.2.2.1) (s.2.2.2.2.1)
theorem anE (s:bR) (Q:Sum bR aE->Prop):wps te qb av 1000 (aV (aj Tryz.f145) 0) (oR.inj s) (bV oR QL (Q:Sum oR.T aE->Prop))=(oU s).wpR Q:=by kernel_rfl
def vO (g0_0:bR->iC) (s:bR):OT aE:=(.ok ⟨(.exit 0,nh),g0_0 s⟩)
def EP:az:=⟨[.val true .elem],[],false⟩
def KF:SV->Option az:=λ_=>some EP
def KI (ok0:bR->Bool) (g0_0:bR->iC) (a0:aa) (a1:aa):OT fL.Y:=
 let z0:(PUnit×PUnit×PUnit×PUnit×UInt64×Int×PUnit)×List UInt64×List UInt64×List UInt64×List UInt64×PUnit:=(((),(),(),(),(0:UInt64),(0:Int),()),[a0.w0,a0.w1,a0.w2,a0.w3],[a1.w0,a1.w1,a1.w2,a1.w3],[(0:UInt64),(0:UInt64),(0:UInt64),(0:UInt64)],[(0:UInt64),(0:UInt64),(0:UInt64),(0:UInt64)],())
 let z1:=(g0_0 z0).snd
 let z2:=z1.snd.fst
 let z3:=z1.fst
 let z4:List UInt64:=lay z3 z2 4 (0:UInt64)
 (gd [ok0 z0,decide (4<=List.length z2),decide ((4/1:Nat)+0<=List.length z3),decide (4<=List.length z4)] (.ok ⟨EP,(({w0:=List.getD z4 0 0,w1:=List.getD z4 1 0,w2:=List.getD z4 2 0,w3:=List.getD z4 3 0},()),())⟩))
theorem aum (ok0:bR->Bool) (g0_0:bR->iC) (x:vP) (Q:fL.Y->Prop):wpf te qb (aO 0 (cb oR 0 ok0 (vO g0_0)) av) 1000 Tryz.f145 (fL.inp.inj x).tm (fL.inp.inj x).hp (fnK fL KF Q) (λ_ _=>False)=(KI ok0 g0_0 (x.1.1) (x.1.2.1)).wpR Q:=by kernel_rfl
theorem YD (ok0:bR->Bool) (g0_0:bR->iC) (h0:∀ s:bR,ok0 s=true->∃ m e,al (oU) m s=some e/\(vO g0_0 s).run=some e) (pre:vP->Bool) (F:vP->OT fL.Y) (hF:∀ (x:vP) oy,pre x=true->(F x).run=some oy->(KI ok0 g0_0 (x.1.1) (x.1.2.1)).run=some oy):ac Tryz.prog 145 (fL.aH pre F):=
 aD aq nO Db (f:=145) (fn:=Tryz.f145) (c:=aj Tryz.f145) (by kernel_rfl) (by kernel_rfl) (by kernel_rfl) (S:=fL) (k:=0) (by kernel_rfl) (λR hR=>(aB (c:=(aj Tryz.f145)) (by kernel_rfl) (id:=0) (by kernel_rfl) (aS aq nO Db (sh:=oR) hR (xs:=QL) (aC (by kernel_rfl) (by kernel_rfl) hR) aK af (n:=1000) (T:=oU) (λs Q=>anE s Q) (ok:=ok0) (f:=vO g0_0) h0) af)) (n:=1000) (sel:=KF) (λv o h=>by cases h;rfl) (pre:=pre) (F:=F) (T:=λx=>KI ok0 g0_0 (x.1.1) (x.1.2.1)) (λx Q=>aum ok0 g0_0 x Q) hF
def KH (s:bR):Bool:=decide (s.1.2.2.2.2.1=0/\s.1.2.2.2.2.2.1=0/\s.2.1.length=4/\s.2.2.1.length=4/\s.2.2.2.2.1= [0,0,0,0])
def QM (s:bR):iC:=(((),(),()),(s.2.2.2.1,(upto (xD s.2.1 s.2.2.1) ([0,0,0,0],0) 4).1,()))
theorem anG:∀ s:bR,KH s=true->∃ m e,al oU m s=some e/\(vO QM s).run=some e:=by
 rintro ⟨⟨⟨⟩,⟨⟩,⟨⟩,⟨⟩,c,i,⟨⟩⟩,⟨c0,c1,c2,c3,⟨⟩⟩⟩ h
 have h':=of_decide_eq_true h
 dsimp only at h'
 obtain ⟨rfl,rfl,h0,h1,rfl⟩:=h'
 have:=(aP (T:=oU) (λk s=>((((),(),(),(),s.2,(k:Int),()),(c0,c1,c2,s.1,())):bR)) (xD c0 c1)
  (λs=>(⟨(.exit 0,nh),(((),(),()),(c2,s.1,()))⟩:aE)) 4 ([0,0,0,0],0) (λ_ s=>s.1.length=4/\s.2.toNat<=1) ⟨rfl,by decide⟩ (λk s hk hs=>⟨?_,?_⟩) (λs hs=> ?_)).1
 ·obtain ⟨m,hm⟩:=this
  exact ⟨m,_,hm,rfl⟩
 ·obtain ⟨o,c⟩:=s
  dsimp only at hs
  refine (OT.ap (decide_eq_true (by dsimp only;omega))).trans ((ah ?_).trans ?_)
  ·simp only [Int.toNat_natCast,Nat.add_zero,h0,h1,hs.1,List.all_cons,List.all_nil,Bool.and_true,Bool.and_eq_true]
   exact ⟨aN (by omega),decide_eq_true (by omega),aN (by omega),decide_eq_true (by omega),aN (by omega),decide_eq_true (by omega),aN (by omega),decide_eq_true (by omega)⟩
  ·have hi:∀ z,(gd [inB (k:Int) 4,decide (Int.toNat (k:Int)+0<o.length),inR ((k:Int)+1)] z:OT (Sum bR aE)).run=z.run:=λz=>ah (by
    simp only [List.all_cons,List.all_nil,Bool.and_true,Bool.and_eq_true,Int.toNat_natCast,Nat.add_zero]
    exact ⟨aN (by omega),decide_eq_true (by omega),aI (by omega)⟩)
   have hw:=Rk (x:=c0.getD k 0) (y:=c1.getD k 0) hs.2
   by_cases hx:c0.getD k 0<c1.getD k 0
   ·have hk1:=akA (c:=c) hx
    refine (OT.ap (decide_eq_true ?_)).trans ((hi _).trans ?_)
    ·simp only [Int.toNat_natCast,Nat.add_zero];exact hx
    ·simp only [OT.cK,Int.toNat_natCast,Nat.add_zero,xD,hw,hk1]
     rfl
   ·refine (OT.ar (decide_eq_false ?_)).trans ?_
    ·simp only [Int.toNat_natCast,Nat.add_zero];exact hx
    ·by_cases hd:c0.getD k 0-c1.getD k 0<c
     ·have hk2:=akz hx hd
      refine (OT.ap (decide_eq_true ?_)).trans ((hi _).trans ?_)
      ·simp only [Int.toNat_natCast,Nat.add_zero];exact hd
      ·simp only [OT.cK,Int.toNat_natCast,Nat.add_zero,xD,hw,hk2]
       rfl
     ·have hk3:=aky hx hd
      refine (OT.ar (decide_eq_false ?_)).trans ((hi _).trans ?_)
      ·simp only [Int.toNat_natCast,Nat.add_zero];exact hd
      ·simp only [OT.cK,Int.toNat_natCast,Nat.add_zero,xD,hw,hk3]
       rfl
 ·exact ⟨by simp only [xD,List.length_set];exact hs.1,yu⟩
 ·exact OT.ar (decide_eq_false (by dsimp only;omega))
def KG (_:vP):Bool:=true
def KJ (x:vP):OT fL.Y:=.ok ⟨EP,(((ef x.1.1 x.1.2.1).1,()),())⟩
theorem anF:ac Tryz.prog 145 (fL.aH KG KJ):=YD KH QM anG _ _ λx oy hp ho=>by
 rw [<-ho]
 clear ho
 obtain ⟨⟨a,b,⟨⟩⟩,⟨⟩⟩:=x
 obtain ⟨_,hw⟩:=DY a b
 refine (ah ?_).trans ?_
 ·simp only [List.all_cons,List.all_nil,Bool.and_true,Bool.and_eq_true]
  exact ⟨rfl,rfl,rfl,rfl⟩
 ·simp only [KJ,hw]
  rfl
def tb:cf:=(fL.aH KG KJ)
theorem Uc:ac Tryz.prog 145 tb:=anF
theorem Ub:aF tb:=aA
def qa:Env:=ay 145 tb qb
theorem nN:aQ Tryz.prog qa:=ag Uc nO
theorem ya:ax qa:=ae Ub yb
theorem C8:aU Tryz.prog te qa:=aJ follows aq nN ya
def fK:aw:=⟨[.val true .elem],[],true,0,false⟩
abbrev vK:Type:=((aa)×Unit)×(Unit)
def oP:Shape:=⟨27,[(1,.ptr 0 0 0),(2,.ptr 1 0 0),(4,.ptr 2 0 0),(5,.val false .u64),(6,.val false .int)],[(0,.row .u64),(1,.row .u64),(2,.row .u64)],0,true⟩
abbrev bY:Type:=((Unit)×(Unit)×(Unit)×(UInt64)×(Int)×Unit)×((List (UInt64))×(List (UInt64))×(List (UInt64))×Unit)
def ng:Shape:=⟨27,[(2,.ptr 0 0 0),(4,.ptr 1 0 0),(5,.val false .u64)],[(0,.row .u64),(1,.row .u64)],0,true⟩
abbrev iB:Type:=((Unit)×(Unit)×(UInt64)×Unit)×((List (UInt64))×(List (UInt64))×Unit)
def QI:SE->Option Shape:=fp [(0,ng)] none
def anA (a5:UInt64) (a6:Int) (c0:List (UInt64)) (c1:List (UInt64)) (c2:List (UInt64)):OT (Sum bY aE):=
 let z0:Bool:=inB a6 4
 let z1:Bool:=decide (Int.toNat a6+0<List.length c0)
 let z2:UInt64:=List.getD c0 (Int.toNat a6+0) (0:UInt64)
 (.br (decide (a6<(4:Int)))
 (gd [z0,z1,z0,decide (Int.toNat a6+0<List.length c2),z0,z1,inR (a6+(1:Int))] (.ok (.inl (((),((),((),(be z2 (63:Int),(a6+(1:Int),()))))),(c0,(c1,(List.set c2 (Int.toNat a6+0) (bP z2 (1:Int)|||a5),())))))))
 (.ok (.inr ⟨(.exit 0,ng),(((),((),(a5,()))),(c1,(c2,())))⟩)))
def oQ (s:bY):OT (Sum bY aE):=anA (s.1.2.2.2.1) (s.1.2.2.2.2.1) (s.2.1) (s.2.2.1) (s.2.2.2.1)
theorem anw (s:bY) (Q:Sum bY aE->Prop):wps te qa av 1000 (aV (aj Tryz.f143) 0) (oP.inj s) (bV oP QI (Q:Sum oP.T aE->Prop))=(oQ s).wpR Q:=by kernel_rfl
def vJ (g0_0:bY->iB) (s:bY):OT aE:=(.ok ⟨(.exit 0,ng),g0_0 s⟩)
def EM:az:=⟨[.val true .elem,.val false .bool],[],false⟩
def KA:SV->Option az:=λ_=>some EM
def KD (ok0:bY->Bool) (g0_0:bY->iB) (a0:aa):OT fK.Y:=
 let z0:(PUnit×PUnit×PUnit×UInt64×Int×PUnit)×List UInt64×List UInt64×List UInt64×PUnit:=(((),(),(),(0:UInt64),(0:Int),()),[a0.w0,a0.w1,a0.w2,a0.w3],[(0:UInt64),(0:UInt64),(0:UInt64),(0:UInt64)],[(0:UInt64),(0:UInt64),(0:UInt64),(0:UInt64)],())
 let z1:(PUnit×PUnit×UInt64×PUnit)×List UInt64×List UInt64×PUnit:=g0_0 z0
 let z2:=z1.snd
 let z3:=z2.snd.fst
 let z4:=z2.fst
 let z5:List UInt64:=lay z4 z3 4 (0:UInt64)
 (gd [ok0 z0,decide (4<=List.length z3),decide ((4/1:Nat)+0<=List.length z4),decide (4<=List.length z5)] (.ok ⟨EM,(({w0:=List.getD z5 0 0,w1:=List.getD z5 1 0,w2:=List.getD z5 2 0,w3:=List.getD z5 3 0},(z1.fst.snd.snd.fst==(1:UInt64),())),())⟩))
theorem auk (ok0:bY->Bool) (g0_0:bY->iB) (x:vK) (Q:fK.Y->Prop):wpf te qa (aO 0 (cb oP 0 ok0 (vJ g0_0)) av) 1000 Tryz.f143 (fK.inp.inj x).tm (fK.inp.inj x).hp (fnK fK KA Q) (λ_ _=>False)=(KD ok0 g0_0 (x.1.1)).wpR Q:=by kernel_rfl
theorem Yz (ok0:bY->Bool) (g0_0:bY->iB) (h0:∀ s:bY,ok0 s=true->∃ m e,al (oQ) m s=some e/\(vJ g0_0 s).run=some e) (pre:vK->Bool) (F:vK->OT fK.Y) (hF:∀ (x:vK) oy,pre x=true->(F x).run=some oy->(KD ok0 g0_0 (x.1.1)).run=some oy):ac Tryz.prog 143 (fK.aH pre F):=
 aD aq nN C8 (f:=143) (fn:=Tryz.f143) (c:=aj Tryz.f143) (by kernel_rfl) (by kernel_rfl) (by kernel_rfl) (S:=fK) (k:=0) (by kernel_rfl) (λR hR=>(aB (c:=(aj Tryz.f143)) (by kernel_rfl) (id:=0) (by kernel_rfl) (aS aq nN C8 (sh:=oP) hR (xs:=QI) (aC (by kernel_rfl) (by kernel_rfl) hR) aK af (n:=1000) (T:=oQ) (λs Q=>anw s Q) (ok:=ok0) (f:=vJ g0_0) h0) af)) (n:=1000) (sel:=KA) (λv o h=>by cases h;rfl) (pre:=pre) (F:=F) (T:=λx=>KD ok0 g0_0 (x.1.1)) (λx Q=>auk ok0 g0_0 x Q) hF
def aKP (a:List UInt64) (k:Nat) (s:List UInt64×UInt64):List UInt64×UInt64:=(s.1.set k (bP (a.getD k 0) 1|||s.2),be (a.getD k 0) 63)
def KC (s:bY):Bool:=decide (s.1.2.2.2.1=0/\s.1.2.2.2.2.1=0/\s.2.1.length=4/\s.2.2.2.1= [0,0,0,0])
def QJ (s:bY):iB:=(((),(),(upto (aKP s.2.1) ([0,0,0,0],0) 4).2,()),(s.2.2.1,(upto (aKP s.2.1) ([0,0,0,0],0) 4).1,()))
theorem anz:∀ s:bY,KC s=true->∃ m e,al oQ m s=some e/\(vJ QJ s).run=some e:=by
 rintro ⟨⟨⟨⟩,⟨⟩,⟨⟩,c,i,⟨⟩⟩,⟨a,r,o,⟨⟩⟩⟩ h
 have h':=of_decide_eq_true h
 dsimp only at h'
 obtain ⟨rfl,rfl,ha,rfl⟩:=h'
 have:=(aP (T:=oQ) (λk s=>((((),(),(),s.2,(k:Int),()),(a,r,s.1,())):bY)) (aKP a)
  (λs=>(⟨(.exit 0,ng),(((),(),s.2,()),(r,s.1,()))⟩:aE)) 4 ([0,0,0,0],0) (λ_ s=>s.1.length=4) rfl (λk s hk hs=>⟨?_,(List.length_set ..).trans hs⟩) (λs hs=> ?_)).1
 ·obtain ⟨m,hm⟩:=this
  exact ⟨m,_,hm,rfl⟩
 ·refine (OT.ap (decide_eq_true (by dsimp only;omega))).trans ((ah ?_).trans ?_)
  ·simp only [Int.toNat_natCast,Nat.add_zero,ha,hs,List.all_cons,List.all_nil,Bool.and_true,Bool.and_eq_true]
   exact ⟨aN (by omega),decide_eq_true (by omega),aN (by omega),decide_eq_true (by omega),aN (by omega),decide_eq_true (by omega),aI (by omega)⟩
  ·simp only [OT.cK,Int.toNat_natCast,Nat.add_zero]
   rfl
 ·exact OT.ar (decide_eq_false (by dsimp only;omega))
theorem auU (x:UInt64):x|||0=x:=by
 rw [<-UInt64.toNat_inj,UInt64.toNat_or]
 exact Nat.or_zero _
def KB (_:vK):Bool:=true
def YA (x:vK):OT fK.Y:=.ok ⟨EM,(((aX x.1.1 0).1,((aX x.1.1 0).2==1,())),())⟩
theorem anx:ac Tryz.prog 143 (fK.aH KB YA):=Yz KC QJ anz _ _ λx oy hp ho=>by
 rw [<-ho]
 clear ho
 obtain ⟨⟨a,⟨⟩⟩,⟨⟩⟩:=x
 refine (ah ?_).trans rfl
 simp only [List.all_cons,List.all_nil,Bool.and_true,Bool.and_eq_true]
 exact ⟨rfl,rfl,rfl,rfl⟩
def ta:cf:=(fK.aH KB YA)
theorem T8:ac Tryz.prog 143 ta:=anx
theorem T7:aF ta:=aA
def p9:Env:=ay 143 ta qa
theorem nM:aQ Tryz.prog p9:=ag T8 nN
theorem xZ:ax p9:=ae T7 ya
theorem C7:aU Tryz.prog te p9:=aJ follows aq nM xZ
def iD:aw:=⟨[.val true .elem],[],true,0,false⟩
abbrev EQ:Type:=((aa)×Unit)×(Unit)
def tc:Shape:=⟨28,[(1,.ptr 0 0 0),(3,.own 1),(4,.val false .int),(5,.val false .u64),(6,.val false .int)],[(0,.row .u64),(1,.row .int)],0,true⟩
abbrev cz:Type:=((Unit)×(Unit)×(Int)×(UInt64)×(Int)×Unit)×((List (UInt64))×(List (Int))×Unit)
def qR:Shape:=⟨28,[(1,.ptr 0 0 0),(3,.own 1),(4,.val false .int)],[(0,.row .u64),(1,.row .int)],0,true⟩
abbrev j4:Type:=((Unit)×(Unit)×(Int)×Unit)×((List (UInt64))×(List (Int))×Unit)
def YE:SE->Option Shape:=fp [(2,qR)] none
def auq (a4:Int) (a5:UInt64) (a6:Int) (c0:List (UInt64)) (c1:List (Int)):OT (Sum cz aE):=
 (.br (decide (a6<(64:Int)))
 (gd [decide ((List.length c1+1)*8<=140737488355328),inR (a6+(1:Int))] (.ok (.inl (((),((),(a4,(a5/(2:UInt64),(a6+(1:Int),()))))),(c0,(c1++ [u2i (a5%(2:UInt64))],()))))))
 (.ok (.inr ⟨(.exit 2,qR),(((),((),(a4,()))),(c0,(c1,())))⟩)))
def td (s:cz):OT (Sum cz aE):=auq (s.1.2.2.1) (s.1.2.2.2.1) (s.1.2.2.2.2.1) (s.2.1) (s.2.2.1)
theorem aun (s:cz) (Q:Sum cz aE->Prop):wps te p9 av 1000 (aV (aj Tryz.f142) 2) (tc.inj s) (bV tc YE (Q:Sum tc.T aE->Prop))=(td s).wpR Q:=by kernel_rfl
def Bv (g2_2:cz->j4) (s:cz):OT aE:=(.ok ⟨(.exit 2,qR),(((g2_2 s).1.1,((g2_2 s).1.2.1,(s.1.2.2.1,()))),(g2_2 s).2)⟩)
def KK:az:=⟨[.own 0],[(0,.row .int)],false⟩
def QN:SV->Option az:=λ_=>some KK
def Ud (ok2:cz->Bool) (g2_2:cz->j4) (a0:aa):OT iD.Y:=
 let z0:Int×PUnit:=((0:Int),())
 let z1:(PUnit×PUnit×Int×UInt64×Int×PUnit)×List UInt64×List Int×PUnit:=(((),(),(0:Int),a0.w0,z0),[a0.w0,a0.w1,a0.w2,a0.w3],[],())
 let z2:=(g2_2 z1).snd
 let z3:=z2.fst
 let z4:(PUnit×PUnit×Int×UInt64×Int×PUnit)×List UInt64×List Int×PUnit:=(((),(),(0:Int)+(1:Int),List.getD z3 (Int.toNat ((0:Int)+(1:Int))+0) (0:UInt64),z0),z3,z2.snd.fst,())
 let z5:=(g2_2 z4).snd
 let z6:=z5.fst
 let z7:(PUnit×PUnit×Int×UInt64×Int×PUnit)×List UInt64×List Int×PUnit:=(((),(),(0:Int)+(1:Int)+(1:Int),List.getD z6 (Int.toNat ((0:Int)+(1:Int)+(1:Int))+0) (0:UInt64),z0),z6,z5.snd.fst,())
 let z8:=(g2_2 z7).snd
 let z9:=z8.fst
 let z10:(PUnit×PUnit×Int×UInt64×Int×PUnit)×List UInt64×List Int×PUnit:=(((),(),(0:Int)+(1:Int)+(1:Int)+(1:Int),List.getD z9 (Int.toNat ((0:Int)+(1:Int)+(1:Int)+(1:Int))+0) (0:UInt64),z0),z9,z8.snd.fst,())
 (gd [ok2 z1,decide (Int.toNat ((0:Int)+(1:Int))+0<List.length z3),ok2 z4,decide (Int.toNat ((0:Int)+(1:Int)+(1:Int))+0<List.length z6),ok2 z7,decide (Int.toNat ((0:Int)+(1:Int)+(1:Int)+(1:Int))+0<List.length z9),ok2 z10] (.ok ⟨KK,(((),()),((g2_2 z10).snd.snd.fst,()))⟩))
theorem aBf (ok2:cz->Bool) (g2_2:cz->j4) (x:EQ) (Q:iD.Y->Prop):wpf te p9 (aO 2 (cb tc 2 ok2 (Bv g2_2)) av) 1000 Tryz.f142 (iD.inp.inj x).tm (iD.inp.inj x).hp (fnK iD QN Q) (λ_ _=>False)=(Ud ok2 g2_2 (x.1.1)).wpR Q:=by kernel_rfl
theorem aed (ok2:cz->Bool) (g2_2:cz->j4) (h2:∀ s:cz,ok2 s=true->∃ m e,al (td) m s=some e/\(Bv g2_2 s).run=some e) (pre:EQ->Bool) (F:EQ->OT iD.Y) (hF:∀ (x:EQ) oy,pre x=true->(F x).run=some oy->(Ud ok2 g2_2 (x.1.1)).run=some oy):ac Tryz.prog 142 (iD.aH pre F):=
 aD aq nM C7 (f:=142) (fn:=Tryz.f142) (c:=aj Tryz.f142) (by kernel_rfl) (by kernel_rfl) (by kernel_rfl) (S:=iD) (k:=0) (by kernel_rfl) (λR hR=>(aB (c:=(aj Tryz.f142)) (by kernel_rfl) (id:=2) (by kernel_rfl) (aS aq nM C7 (sh:=tc) hR (xs:=YE) (aC (by kernel_rfl) (by kernel_rfl) hR) aK af (n:=1000) (T:=td) (λs Q=>aun s Q) (ok:=ok2) (f:=Bv g2_2) h2) af)) (n:=1000) (sel:=QN) (λv o h=>by cases h;rfl) (pre:=pre) (F:=F) (T:=λx=>Ud ok2 g2_2 (x.1.1)) (λx Q=>aBf ok2 g2_2 x Q) hF
def aqc (_:Nat) (q:List Int×UInt64):List Int×UInt64:=(q.1++ [u2i (q.2%2)],q.2/2)
def ib (v:UInt64) (n:Nat):List Int:=(List.range n).map λj=>((v.toNat/2^j%2:Nat):Int)
theorem dx (v:UInt64) (n:Nat):(ib v n).length=n:=by rw [ib,List.length_map,List.length_range]
theorem aHi (x:UInt64):u2i (x%2)=((x.toNat%2:Nat):Int):=by
 have e:(x%2).toNat=x.toNat%2:=by rw [UInt64.toNat_mod];rfl
 unfold u2i
 rw [e]
 rcases Nat.mod_two_eq_zero_or_one x.toNat with h|h<;>rw [h]<;>rfl
theorem abb (o:List Int) (v:UInt64):∀ n,(upto aqc (o,v) n).1=o++ib v n/\(upto aqc (o,v) n).2.toNat=v.toNat/2^n
 |0=>⟨(List.append_nil o).symm,by show v.toNat=_;rw [Nat.pow_zero,Nat.div_one]⟩
 |n+1=>by
  obtain ⟨h1,h2⟩:=abb o v n
  refine ⟨?_,?_⟩
  ·show (upto aqc (o,v) n).1++ [u2i ((upto aqc (o,v) n).2%2)]=_
   rw [aHi,h1,h2,List.append_assoc]
   unfold ib
   rw [List.range_succ,List.map_append]
   rfl
  ·show ((upto aqc (o,v) n).2/2).toNat=_
   rw [UInt64.toNat_div,h2,Nat.pow_succ,<-Nat.div_div_eq_div_mul]
   rfl
def QP (s:cz):Bool:=decide (s.1.2.2.2.2.1=0/\s.2.2.1.length<=1000)
def YH (s:cz):j4:=(((),(),s.1.2.2.1,()),(s.2.1,s.2.2.1++ib s.1.2.2.2.1 64,()))
theorem aup:∀ s:cz,QP s=true->∃ m e,al td m s=some e/\(Bv YH s).run=some e:=by
 rintro ⟨⟨⟨⟩,⟨⟩,i,v,j,⟨⟩⟩,⟨a,o,⟨⟩⟩⟩ h
 have h':=of_decide_eq_true h
 dsimp only at h'
 obtain ⟨rfl,ho⟩:=h'
 have:=(aP (T:=td) (λk q=>((((),(),i,q.2,(k:Int),()),(a,q.1,())):cz)) aqc
  (λq=>(⟨(.exit 2,qR),(((),(),i,()),(a,q.1,()))⟩:aE)) 64 (o,v) (λk q=>q.1.length=o.length+k) rfl (λk q hk hq=>⟨?_,?_⟩) (λq _=> ?_)).1
 ·obtain ⟨m,hm⟩:=this
  rw [(abb o v 64).1] at hm
  exact ⟨m,_,hm,rfl⟩
 ·have hq:q.1.length=o.length+k:=hq
  refine (OT.ap (decide_eq_true (by dsimp only;omega))).trans ((ah ?_).trans rfl)
  simp only [List.all_cons,List.all_nil,Bool.and_true,Bool.and_eq_true]
  exact ⟨decide_eq_true (by omega),aI (by omega)⟩
 ·show (q.1++ [u2i (q.2%2)]).length=_
  rw [List.length_append,show q.1.length=o.length+k from hq]
  rfl
 ·exact OT.ar (decide_eq_false (by dsimp only;omega))
def pL (a:aa):List Int:= []++ib a.w0 64++ib a.w1 64++ib a.w2 64++ib a.w3 64
def QO (_:EQ):Bool:=true
def aj2 (x:EQ):OT iD.Y:=.ok ⟨KK,(((),()),(pL x.1.1,()))⟩
theorem auo:ac Tryz.prog 142 (iD.aH QO aj2):=aed QP YH aup _ _ λx oy hp ho=>by
 rw [<-ho]
 clear ho
 obtain ⟨⟨a,⟨⟩⟩,⟨⟩⟩:=x
 have l1:([]++ib a.w0 64).length=64:=by rw [List.nil_append,dx]
 have l2:([]++ib a.w0 64++ib a.w1 64).length=128:=by rw [List.length_append,l1,dx]
 have l3:([]++ib a.w0 64++ib a.w1 64++ib a.w2 64).length=192:=by rw [List.length_append,l2,dx]
 refine (ah ?_).trans rfl
 simp only [List.all_cons,List.all_nil,Bool.and_true,Bool.and_eq_true]
 exact ⟨rfl,rfl,decide_eq_true ⟨rfl,by show ([]++ib a.w0 64).length<=_;omega⟩,rfl,decide_eq_true ⟨rfl,by show ([]++ib a.w0 64++ib a.w1 64).length<=_;omega⟩,rfl,decide_eq_true ⟨rfl,by show ([]++ib a.w0 64++ib a.w1 64++ib a.w2 64).length<=_;omega⟩⟩
theorem tJ {α:Type} (d:α) (x y:List α) (i:Nat):(i<x.length->(x++y).getD i d=x.getD i d)/\(x.length<=i->(x++y).getD i d=y.getD (i-x.length) d):=by
 refine ⟨λh=> ?_,λh=> ?_⟩
 ·rw [List.getD_eq_getElem?_getD,List.getD_eq_getElem?_getD,List.getElem?_append_left h]
 ·rw [List.getD_eq_getElem?_getD,List.getD_eq_getElem?_getD,List.getElem?_append_right h]
theorem Ar (v:UInt64) {j:Nat} (h:j<64):(ib v 64).getD j 0=((v.toNat/2^j%2:Nat):Int):=by
 unfold ib
 rw [List.getD_eq_getElem?_getD,List.getElem?_map,List.getElem?_range h]
 rfl
theorem uH (a:aa):(pL a).length=256:=by
 unfold pL
 rw [List.length_append,List.length_append,List.length_append,List.length_append,dx,dx,dx,dx]
 rfl
theorem axx (a:aa) {i:Nat} (h:i<256):(pL a).getD i 0=((a.nat/2^i%2:Nat):Int):=by
 have l1:([]++ib a.w0 64).length=64:=by rw [List.nil_append,dx]
 have l2:([]++ib a.w0 64++ib a.w1 64).length=128:=by rw [List.length_append,l1,dx]
 have l3:([]++ib a.w0 64++ib a.w1 64++ib a.w2 64).length=192:=by rw [List.length_append,l2,dx]
 unfold pL
 by_cases h3:192<=i
 ·rw [(tJ ..).2 (by omega),l3,Ar _ (by omega)]
  have:=rB (a:=a) (q:=3) (r:=i-192) (by omega) (by omega)
  rw [show 64*3+(i-192)=i by omega] at this
  rw [<-this]
  rfl
 ·rw [(tJ ..).1 (by omega)]
  by_cases h2:128<=i
  ·rw [(tJ ..).2 (by omega),l2,Ar _ (by omega)]
   have:=rB (a:=a) (q:=2) (r:=i-128) (by omega) (by omega)
   rw [show 64*2+(i-128)=i by omega] at this
   rw [<-this]
   rfl
  ·rw [(tJ ..).1 (by omega)]
   by_cases h1:64<=i
   ·rw [(tJ ..).2 (by omega),l1,Ar _ (by omega)]
    have:=rB (a:=a) (q:=1) (r:=i-64) (by omega) (by omega)
    rw [show 64*1+(i-64)=i by omega] at this
    rw [<-this]
    rfl
   ·rw [(tJ ..).1 (by omega),List.nil_append,Ar _ (by omega)]
    have:=rB (a:=a) (q:=0) (r:=i) (by omega) (by omega)
    rw [show 64*0+i=i by omega] at this
    rw [<-this]
    rfl
def yN:cf:=(iD.aH QO aj2)
theorem YG:ac Tryz.prog 142 yN:=auo
theorem YF:aF yN:=aA
def xp:Env:=ay 142 yN p9
theorem rN:aQ Tryz.prog xp:=ag YG nM
theorem Da:ax xp:=ae YF xZ
theorem HL:aU Tryz.prog te xp:=aJ follows aq rN Da
def km:aw:=⟨[.val true .elem,.val true .elem,.val true .elem],[],true,0,false⟩
abbrev QK:Type:=((aa)×(aa)×(aa)×Unit)×(Unit)
def Bu:Shape:=⟨56,[(5,.ptr 0 0 0),(6,.ptr 1 0 0),(9,.own 2),(10,.ptr 3 0 0),(11,.val false .int)],[(0,.row .u64),(1,.row .u64),(2,.row .int),(3,.row .u64)],0,true⟩
abbrev cE:Type:=((Unit)×(Unit)×(Unit)×(Unit)×(Int)×Unit)×((List (UInt64))×(List (UInt64))×(List (Int))×(List (UInt64))×Unit)
def vM:Shape:=⟨56,[(6,.ptr 0 0 0),(10,.ptr 1 0 0)],[(0,.row .u64),(1,.row .u64)],0,true⟩
abbrev jx:Type:=((Unit)×(Unit)×Unit)×((List (UInt64))×(List (UInt64))×Unit)
def aj1:SE->Option Shape:=fp [(0,vM)] none
def Ua (a11:Int) (c0:List (UInt64)) (c1:List (UInt64)) (c2:List (Int)) (c3:List (UInt64)):OT (Sum cE aE):=
 let z0:Nat:=List.length c3
 let z1:Nat:=List.length c2
 let z2:Nat:=Int.toNat a11
 let z3:aa×UInt64:=aX {w0:=List.getD c3 0 0,w1:=List.getD c3 1 0,w2:=List.getD c3 2 0,w3:=List.getD c3 3 0} (0:UInt64)
 let z4:Bool:=decide (4<=List.length c0)
 let z5:Bool:=decide ((4/1:Nat)+0<=z0)
 let z6:Bool:=inR (a11-(1:Int))
 let z7:=z3.fst
 let z8:=z7.w0
 let z9:=z7.w1
 let z10:=z7.w2
 let z11:=z7.w3
 let z12:aa:= {w0:=z8|||(1:UInt64),w1:=z9,w2:=z10,w3:=z11}
 let z13:aa:= {w0:=List.getD c0 0 0,w1:=List.getD c0 1 0,w2:=List.getD c0 2 0,w3:=List.getD c0 3 0}
 let z14:=(ef z12 z13).fst
 let z15:List UInt64:=List.set (List.set (List.set (List.set c3 0 z14.w0) 1 z14.w1) 2 z14.w2) 3 z14.w3
 let z16:Nat:=aa.nat z13
 let z17:Bool:=decide ((4/1:Nat)+0<=z0)
 let z18:=(ef z7 z13).fst
 let z19:List UInt64:=List.set (List.set (List.set (List.set c3 0 z18.w0) 1 z18.w1) 2 z18.w2) 3 z18.w3
 (.br (decide ((0:Int)<=a11))
 (gd [decide (4<=z0),inB a11 z1,decide (z2<z1)] (.br (List.getD c2 z2 (0:Int)==(1:Int))
  (.br (z3.snd==(1:UInt64))
   (gd [z4,z5,z6] (.ok (.inl (((),((),((),((),(a11-(1:Int),()))))),(c0,(c1,(c2,(z15,()))))))))
   (gd [z4] (.br (!Nat.blt (aa.nat z12) z16)
    (gd [z4,z5,z6] (.ok (.inl (((),((),((),((),(a11-(1:Int),()))))),(c0,(c1,(c2,(z15,()))))))))
    (gd [decide ((4/1:Nat)+0<=z0),z6] (.ok (.inl (((),((),((),((),(a11-(1:Int),()))))),(c0,(c1,(c2,(List.set (List.set (List.set (List.set c3 0 (z8|||(1:UInt64))) 1 z9) 2 z10) 3 z11,())))))))))))
  (.br (z3.snd==(1:UInt64))
   (gd [z4,z17,z6] (.ok (.inl (((),((),((),((),(a11-(1:Int),()))))),(c0,(c1,(c2,(z19,()))))))))
   (gd [z4] (.br (!Nat.blt (aa.nat z7) z16)
    (gd [z4,z17,z6] (.ok (.inl (((),((),((),((),(a11-(1:Int),()))))),(c0,(c1,(c2,(z19,()))))))))
    (gd [decide ((4/1:Nat)+0<=z0),z6] (.ok (.inl (((),((),((),((),(a11-(1:Int),()))))),(c0,(c1,(c2,(List.set (List.set (List.set (List.set c3 0 z8) 1 z9) 2 z10) 3 z11,())))))))))))))
 (.ok (.inr ⟨(.exit 0,vM),(((),((),())),(c1,(c3,())))⟩)))
def vN (s:cE):OT (Sum cE aE):=Ua (s.1.2.2.2.2.1) (s.2.1) (s.2.2.1) (s.2.2.2.1) (s.2.2.2.2.1)
theorem aBc (s:cE) (Q:Sum cE aE->Prop):wps te xp av 1000 (aV (aj Tryz.f107) 0) (Bu.inj s) (bV Bu aj1 (Q:Sum Bu.T aE->Prop))=(vN s).wpR Q:=by kernel_rfl
def IL (g0_0:cE->jx) (s:cE):OT aE:=(.ok ⟨(.exit 0,vM),g0_0 s⟩)
def vL:az:=⟨[.val true .elem,.val false .int],[],false⟩
def YB:SV->Option az:=λ_=>some vL
def EO (ok0:cE->Bool) (g0_0:cE->jx) (a0:aa) (a1:aa) (a2:aa):OT km.Y:=
 let z0:(PUnit×PUnit×PUnit×PUnit×Int×PUnit)×List UInt64×List UInt64×List Int×List UInt64×PUnit:=(((),(),(),(),(511:Int),()),[a2.w0,a2.w1,a2.w2,a2.w3],[(0:UInt64),(0:UInt64),(0:UInt64),(0:UInt64)],pL a0++pL a1,[(0:UInt64),(0:UInt64),(0:UInt64),(0:UInt64)],())
 let z1:=(g0_0 z0).snd
 let z2:=z1.snd.fst
 let z3:=z1.fst
 let z4:List UInt64:=lay z3 z2 4 (0:UInt64)
 (.br (a2.w0==(0:UInt64)&&(a2.w1==(0:UInt64)&&(a2.w2==(0:UInt64)&&(a2.w3==(0:UInt64)&&true))))
 (.ok ⟨vL,(({w0:=0,w1:=0,w2:=0,w3:=0},((10:Int),())),())⟩)
 (gd [ok0 z0,decide (4<=List.length z2),decide ((4/1:Nat)+0<=List.length z3),decide (4<=List.length z4)] (.ok ⟨vL,(({w0:=List.getD z4 0 0,w1:=List.getD z4 1 0,w2:=List.getD z4 2 0,w3:=List.getD z4 3 0},((0:Int),())),())⟩)))
theorem aGK (ok0:cE->Bool) (g0_0:cE->jx) (x:QK) (Q:km.Y->Prop):wpf te xp (aO 0 (cb Bu 0 ok0 (IL g0_0)) av) 1000 Tryz.f107 (km.inp.inj x).tm (km.inp.inj x).hp (fnK km YB Q) (λ_ _=>False)=(EO ok0 g0_0 (x.1.1) (x.1.2.1) (x.1.2.2.1)).wpR Q:=by kernel_rfl
theorem anC (ok0:cE->Bool) (g0_0:cE->jx) (h0:∀ s:cE,ok0 s=true->∃ m e,al (vN) m s=some e/\(IL g0_0 s).run=some e) (pre:QK->Bool) (F:QK->OT km.Y) (hF:∀ (x:QK) oy,pre x=true->(F x).run=some oy->(EO ok0 g0_0 (x.1.1) (x.1.2.1) (x.1.2.2.1)).run=some oy):ac Tryz.prog 107 (km.aH pre F):=
 aD aq rN HL (f:=107) (fn:=Tryz.f107) (c:=aj Tryz.f107) (by kernel_rfl) (by kernel_rfl) (by kernel_rfl) (S:=km) (k:=0) (by kernel_rfl) (λR hR=>(aB (c:=(aj Tryz.f107)) (by kernel_rfl) (id:=0) (by kernel_rfl) (aS aq rN HL (sh:=Bu) hR (xs:=aj1) (aC (by kernel_rfl) (by kernel_rfl) hR) aK af (n:=1000) (T:=vN) (λs Q=>aBc s Q) (ok:=ok0) (f:=IL g0_0) h0) af)) (n:=1000) (sel:=YB) (λv o h=>by cases h;rfl) (pre:=pre) (F:=F) (T:=λx=>EO ok0 g0_0 (x.1.1) (x.1.2.1) (x.1.2.2.1)) (λx Q=>aGK ok0 g0_0 x Q) hF
def agd (x:Int):UInt64:=cond (x==1) 1 0
def AZ (m:aa) (L:List Int) (k:Nat) (r:aa):aa:=IC m r (agd (L.getD (511-k) 0))
theorem S7 (r:aa) (b:UInt64):((aX r b).2==1)= !((aX r b).2==0):=by
 have h:(aX r b).2.toNat<=1:=JD _
 rcases (show (aX r b).2.toNat=0\/(aX r b).2.toNat=1 by omega) with e|e
 ·have e2:(aX r b).2=0:=UInt64.toNat_inj.1 e
  rw [e2];rfl
 ·have e2:(aX r b).2=1:=UInt64.toNat_inj.1 e
  rw [e2];rfl
theorem AL (r:aa):(⟨(aX r 0).1.w0|||1,(aX r 0).1.w1,(aX r 0).1.w2,(aX r 0).1.w3⟩:aa)=(aX r 1).1:=by
 unfold aX
 dsimp only
 rw [auU]
def IK (m:aa) (c1:List UInt64) (L:List Int) (i:Int) (r:aa):cE:=(((),(),(),(),i,()),(lst m,c1,L,lst r,()))
theorem anB (m r:aa) (c1:List UInt64) {L:List Int} (hL:L.length=512) {k:Nat} (hk:k<512):(vN (IK m c1 L ((511:Int)-(k:Int)) r)).run=some (.inl (IK m c1 L ((511:Int)-((k+1:Nat):Int)) (AZ m L k r))):=by
 have e0:(511:Int)-(k:Int)=((511-k:Nat):Int):=by omega
 have e1:(511:Int)-((k+1:Nat):Int)=((511-k:Nat):Int)-1:=by omega
 have hr:inR (((511-k:Nat):Int)-1)=true:=aI (by omega)
 rw [e1,e0]
 unfold AZ
 show (Ua ((511-k:Nat):Int) (lst m) c1 L (lst r)).run=_
 unfold Ua
 simp only [Int.toNat_natCast]
 refine (OT.ap (decide_eq_true (by omega))).trans ((ah ?_).trans ?_)
 ·simp only [List.all_cons,List.all_nil,Bool.and_true,Bool.and_eq_true]
  exact ⟨rfl,aN (by omega),decide_eq_true (by omega)⟩
 ·rcases (Bool.eq_false_or_eq_true (L.getD (511-k) 0==1)).symm with hb|hb
  ·have eb:agd (L.getD (511-k) 0)=0:=by unfold agd;rw [hb];rfl
   rw [eb]
   refine (OT.ar hb).trans ?_
   rcases (Bool.eq_false_or_eq_true ((aX r 0).2==0)).symm with g|g
   ·have e:IC m r 0=(ef (aX r 0).1 m).1:=by unfold IC;rw [g];rfl
    rw [e]
    exact (OT.ap (b:=(aX r 0).2==1) (by rw [S7,g];rfl)).trans ((ah (by rw [hr];rfl)).trans rfl)
   ·refine (OT.ar (b:=(aX r 0).2==1) (by rw [S7,g];rfl)).trans ((ah rfl).trans ?_)
    rcases (Bool.eq_false_or_eq_true (ef (aX r 0).1 m).2).symm with u|u
    ·have e:IC m r 0=(ef (aX r 0).1 m).1:=by unfold IC;rw [g,u];rfl
     rw [e]
     exact (OT.ap (b:= !(ef (aX r 0).1 m).2) (by rw [u];rfl)).trans ((ah (by rw [hr];rfl)).trans rfl)
    ·have e:IC m r 0=(aX r 0).1:=by unfold IC;rw [g,u];rfl
     rw [e]
     exact (OT.ar (b:= !(ef (aX r 0).1 m).2) (by rw [u];rfl)).trans ((ah (by rw [hr];rfl)).trans rfl)
  ·have eb:agd (L.getD (511-k) 0)=1:=by unfold agd;rw [hb];rfl
   rw [eb]
   refine (OT.ap hb).trans ?_
   rcases (Bool.eq_false_or_eq_true ((aX r 1).2==0)).symm with g|g
   ·have e:IC m r 1=(ef (aX r 1).1 m).1:=by unfold IC;rw [g];rfl
    rw [e,<-AL]
    exact (OT.ap (b:=(aX r 1).2==1) (by rw [S7,g];rfl)).trans ((ah (by rw [hr];rfl)).trans rfl)
   ·refine (OT.ar (b:=(aX r 1).2==1) (by rw [S7,g];rfl)).trans ((ah rfl).trans ?_)
    have u0:(ef ⟨(aX r 0).1.w0|||1,(aX r 0).1.w1,(aX r 0).1.w2,(aX r 0).1.w3⟩ m).2=(ef (aX r 1).1 m).2:=by rw [AL]
    rcases (Bool.eq_false_or_eq_true (ef (aX r 1).1 m).2).symm with u|u
    ·have e:IC m r 1=(ef (aX r 1).1 m).1:=by unfold IC;rw [g,u];rfl
     rw [e,<-AL]
     exact (OT.ap (b:= !(ef ⟨(aX r 0).1.w0|||1,(aX r 0).1.w1,(aX r 0).1.w2,(aX r 0).1.w3⟩ m).2) (by rw [u0,u];rfl)).trans ((ah (by rw [hr];rfl)).trans rfl)
    ·have e:IC m r 1=(aX r 1).1:=by unfold IC;rw [g,u];rfl
     rw [e,<-AL]
     exact (OT.ar (b:= !(ef ⟨(aX r 0).1.w0|||1,(aX r 0).1.w1,(aX r 0).1.w2,(aX r 0).1.w3⟩ m).2) (by rw [u0,u];rfl)).trans ((ah (by rw [hr];rfl)).trans rfl)
def KE (s:cE):Bool:=decide (s.1.2.2.2.2.1=511/\s.2.1.length=4/\s.2.2.2.1.length=512/\s.2.2.2.2.1.length=4)
def T9 (s:cE):jx:=(((),(),()),(s.2.2.1,lst (upto (AZ (elemOf s.2.1) s.2.2.2.1) (elemOf s.2.2.2.2.1) 512),()))
theorem aBe:∀ s:cE,KE s=true->∃ m e,al vN m s=some e/\(IL T9 s).run=some e:=by
 rintro ⟨⟨⟨⟩,⟨⟩,⟨⟩,⟨⟩,i,⟨⟩⟩,⟨c0,c1,L,c3,⟨⟩⟩⟩ h
 have h':=of_decide_eq_true h
 dsimp only at h'
 obtain ⟨rfl,h0,hL,h3⟩:=h'
 obtain ⟨m,rfl⟩:∃ a,c0=lst a:=⟨elemOf c0,(aR h0).symm⟩
 obtain ⟨r,rfl⟩:∃ a,c3=lst a:=⟨elemOf c3,(aR h3).symm⟩
 have:=(aP (T:=vN) (λk r=>IK m c1 L ((511:Int)-(k:Int)) r) (AZ m L)
  (λr=>(⟨(.exit 0,vM),(((),(),()),(c1,lst r,()))⟩:aE)) 512 r (λ_ _=>True) trivial (λk r hk _=>⟨anB m r c1 hL hk,trivial⟩) (λr _=> ?_)).1
 ·obtain ⟨n,hn⟩:=this
  exact ⟨n,_,hn,rfl⟩
 ·exact OT.ar (decide_eq_false (by dsimp only [IK];omega))
theorem Jy {α:Type} {f g:Nat->α->α} (x:α):∀ n,(∀ k,k<n->f k=g k)->upto f x n=upto g x n
 |0,_=>rfl
 |n+1,h=>by
  show f n (upto f x n)=g n (upto g x n)
  rw [Jy x n λk hk=>h k (by omega),h n (by omega)]
theorem W4 {α:Type} (f:Nat->α->α) (x:α) (a:Nat):∀ n,upto f x (a+n)=upto (λk=>f (a+k)) (upto f x a) n
 |0=>rfl
 |n+1=>by
  show f (a+n) (upto f x (a+n))=f (a+n) (upto (λk=>f (a+k)) (upto f x a) n)
  rw [W4 f x a n]
theorem aEc (a:aa) {i:Nat} (h:i<256):agd ((pL a).getD i 0)=OX a i:=by
 have h1:=al1 a h
 rw [axx a h]
 unfold agd
 rcases (show a.nat/2^i%2=0\/a.nat/2^i%2=1 by omega) with e|e
 ·rw [e] at h1⊢
  exact (UInt64.toNat_inj.1 h1).symm
 ·rw [e] at h1⊢
  exact (UInt64.toNat_inj.1 h1).symm
theorem aGk (m lo hi:aa):upto (AZ m (pL lo++pL hi)) ⟨0,0,0,0⟩ 512=acZ m lo (acZ m hi ⟨0,0,0,0⟩ 256) 256:=by
 have l0:=uH lo
 have a1:upto (AZ m (pL lo++pL hi)) ⟨0,0,0,0⟩ 256=acZ m hi ⟨0,0,0,0⟩ 256:=by
  unfold acZ
  refine Jy _ 256 λk hk=> ?_
  funext r
  unfold AZ
  rw [(tJ ..).2 (by omega),l0,show 511-k-256=255-k by omega,aEc hi (by omega)]
 rw [show 512=256+256 from rfl,W4,a1]
 unfold acZ
 refine Jy _ 256 λk hk=> ?_
 funext r
 unfold AZ
 rw [(tJ ..).1 (by omega),show 511-(256+k)=255-k by omega,aEc lo (by omega)]
def YC (_:QK):Bool:=true
def aul (x:QK):OT km.Y:=.br (nv x.1.2.2.1) (.ok ⟨vL,((⟨0,0,0,0⟩,((10:Int),())),())⟩) (.ok ⟨vL,((aAA x.1.1 x.1.2.1 x.1.2.2.1,((0:Int),())),())⟩)
theorem anD {ok0:cE->Bool} {g0:cE->jx} {a b m R:aa} (h:nv m=false)
 (h1:ok0 (((),(),(),(),511,()),(lst m,lst ⟨0,0,0,0⟩,pL a++pL b,lst ⟨0,0,0,0⟩,()))=true)
 (e1:(g0 (((),(),(),(),511,()),(lst m,lst ⟨0,0,0,0⟩,pL a++pL b,lst ⟨0,0,0,0⟩,()))).2=(lst ⟨0,0,0,0⟩,lst R,())):
 (EO ok0 g0 a b m).run=some ⟨vL,((R,((0:Int),())),())⟩:=by
 have l:∀ e:aa,lst e= [e.w0,e.w1,e.w2,e.w3]:=λ_=>rfl
 rw [l m,l ⟨0,0,0,0⟩] at h1 e1
 unfold EO
 simp only [e1,h1]
 exact (OT.ar h).trans ((ah rfl).trans rfl)
theorem aBd:ac Tryz.prog 107 (km.aH YC aul):=anC KE T9 aBe _ _ λx oy hp ho=>by
 rw [<-ho]
 clear ho
 obtain ⟨⟨a,b,m,⟨⟩⟩,⟨⟩⟩:=x
 show (EO KE T9 a b m).run=(OT.br (nv m) _ _:OT km.Y).run
 rcases (Bool.eq_false_or_eq_true (nv m)).symm with h|h
 ·have hl:(pL a++pL b).length=512:=by rw [List.length_append,uH,uH]
  refine Eq.trans (anD (R:=upto (AZ m (pL a++pL b)) ⟨0,0,0,0⟩ 512) h (decide_eq_true ⟨rfl,rfl,hl,rfl⟩) rfl) ?_
  rw [aGk,aju (Rd h),h]
  rfl
 ·exact (OT.ap h).trans (OT.ap (b:=nv m) h).symm
def EN:cf:=(km.aH YC aul)
theorem aec:ac Tryz.prog 107 EN:=aBd
theorem aeb:aF EN:=aA
def NX:Env:=ay 107 EN xp
theorem Gq:aQ Tryz.prog NX:=ag aec rN
theorem HK:ax NX:=ae aeb Da
theorem agJ:aU Tryz.prog te NX:=aJ follows aq Gq HK
def io:aw:=⟨[.val false .int,.val false (.list .u8)],[],true,0,false⟩
abbrev Er:Type:=((Int)×(List (UInt8))×Unit)×(Unit)
def ox:az:=⟨[.val true .elem,.val false .int],[],false⟩
def Qk:SV->Option az:=λ_=>some ox
def Bh (a0:Int) (a1:List (UInt8)):OT io.Y:=
 let z0:Nat:=List.length a1
 let z1:Int:=(↑z0:Int)
 let z2:aa:= {w0:=0,w1:=0,w2:=0,w3:=0}
 let z3:List UInt8:=List.drop 0 (List.take 32 a1)
 let z4:List UInt8:=List.drop 32 a1
 let z5:aa:=(aY (Int.toNat a0)).fst
 (gd [k8 ((a0,()),())] (.br (!z1==(64:Int))
 (.ok ⟨ox,((z2,((21:Int),())),())⟩)
 (gd [dw (0:Int) (32:Int) z0,gU ((z3,()),()),dw (32:Int) z1 z0,gU ((z4,()),())] (.br (nv z5)
  (.ok ⟨ox,((z2,((10:Int),())),())⟩)
  (.ok ⟨ox,((aAA (Ij z3) (Ij z4) z5,((0:Int),())),())⟩)))))
theorem aAS (x:Er) (Q:io.Y->Prop):wpf te NX av 1000 Tryz.f64 (io.inp.inj x).tm (io.inp.inj x).hp (fnK io Qk Q) (λ_ _=>False)=(Bh (x.1.1) (x.1.2.1)).wpR Q:=by kernel_rfl
theorem adk (pre:Er->Bool) (F:Er->OT io.Y) (hF:∀ (x:Er) oy,pre x=true->(F x).run=some oy->(Bh (x.1.1) (x.1.2.1)).run=some oy):ac Tryz.prog 64 (io.aH pre F):=
 aD aq Gq agJ (f:=64) (fn:=Tryz.f64) (c:=aj Tryz.f64) (by kernel_rfl) (by kernel_rfl) (by kernel_rfl) (S:=io) (k:=0) (by kernel_rfl) (λR hR=>af) (n:=1000) (sel:=Qk) (λv o h=>by cases h;rfl) (pre:=pre) (F:=F) (T:=λx=>Bh (x.1.1) (x.1.2.1)) (λx Q=>aAS x Q) hF
def vA (x:Er):Bool:=ao x.1.1&&Im x.1.2.1
def ajI (x:Er):OT io.Y:=.ok ⟨ox,((aqY x.1.1 x.1.2.1,((0:Int),())),())⟩
theorem adl {s:Int} {b:List UInt8} {W:aa} (hW:aAA (Ij (List.drop 0 (b.take 32))) (Ij (b.drop 32)) (aY s.toNat).1=W) (hs:ao s=true) (hl:Im b=true):(Bh s b).run=some ⟨ox,((W,((0:Int),())),())⟩:=by
 unfold Bh
 simp only [hW]
 have hb:b.length=64:=LK.1 hl
 refine (ah ?_).trans ((OT.ar (b:= !Im b) (by rw [hl];rfl)).trans ((ah ?_).trans (OT.ar (aki hs))))
 ·simp only [List.all_cons,List.all_nil,Bool.and_true]
  exact hs
 ·simp only [List.all_cons,List.all_nil,Bool.and_true,Bool.and_eq_true]
  exact ⟨gx (by omega),decide_eq_true (by show (List.drop 0 (b.take 32)).length=32;rw [List.drop_zero,List.length_take];omega),gx (by omega),decide_eq_true (by show (List.drop 32 b).length=32;rw [List.length_drop];omega)⟩
theorem atJ:ac Tryz.prog 64 (io.aH vA ajI):=adk _ _ λx oy hp ho=>by
 rw [<-ho]
 clear ho
 obtain ⟨⟨s,b,⟨⟩⟩,⟨⟩⟩:=x
 obtain ⟨hs,hl⟩:=(Bool.and_eq_true _ _).mp hp
 exact adl rfl hs hl
def yH:cf:=(io.aH vA ajI)
theorem XX:ac Tryz.prog 64 yH:=atJ
theorem XW:aF yH:=aA
def CZ:Env:=ay 64 yH NX
theorem zR:aQ Tryz.prog CZ:=ag XX Gq
theorem CY:ax CZ:=ae XW HK
theorem abF:aU Tryz.prog te CZ:=aJ follows aq zR CY
end Go.Proofs.YtohjofabochgfaaGreat

namespace Go.Proofs.YtohjofabochgfaaGreat
open Sx Go
theorem aGV {v:UInt64} {c:UInt8} (k:Nat) (hk:k<=7) (hv:v.toNat<2^(8*k)):
 (v|||bP c.toUInt64 (8*(k:Int))).toNat=v.toNat+c.toNat*2^(8*k)/\v.toNat+c.toNat*2^(8*k)<2^(8*(k+1)):=by
 have hc:c.toNat<256:=c.toNat_lt
 have h1:c.toNat*2^(8*k)<=255*2^(8*k):=Nat.mul_le_mul_right _ (by omega)
 have h2:2^(8*(k+1))=256*2^(8*k):=by rw [Nat.mul_add,Nat.pow_add];omega
 have h3:2^(8*(k+1))<=2^64:=Nat.pow_le_pow_right (by decide) (by omega)
 refine ⟨?_,by omega⟩
 have e1:bP c.toUInt64 (8*(k:Int))=c.toUInt64<<<UInt64.ofNat (8*k):=by
  unfold bP
  rw [if_pos (by omega)]
  congr 2
 have e2:(c.toUInt64<<<UInt64.ofNat (8*k)).toNat=c.toNat<<<(8*k):=by
  rw [UInt64.toNat_shiftLeft,UInt8.toNat_toUInt64,UInt64.toNat_ofNat']
  have:8*k%2^64%64=8*k:=by omega
  rw [this,Nat.shiftLeft_eq]
  exact Nat.mod_eq_of_lt (by omega)
 rw [e1,UInt64.toNat_or,e2,Nat.or_comm,<-Nat.shiftLeft_add_eq_or_of_lt hv,Nat.shiftLeft_eq]
 omega
theorem WU (b:List UInt8):∀ k,k<=8->(kG b k).toNat=(List.range k).foldl (λs i=>s+(b.getD i 0).toNat*2^(8*i)) 0/\(kG b k).toNat<2^(8*k)
 |0,_=>⟨rfl,by simp [kG]⟩
 |k+1,h=>by
  obtain ⟨h1,h2⟩:=WU b k (by omega)
  have h3:=aGV (v:=kG b k) (c:=b.getD k 0) k (by omega) h2
  rw [PO]
  refine ⟨?_,by omega⟩
  rw [h3.1,List.range_succ,List.foldl_append,h1]
  rfl
theorem aBD {v:UInt64} {c:UInt8} (k:Nat) (hk:k<=7) (hv:v.toNat<2^(8*k)):
 (v*256+c.toUInt64).toNat=v.toNat*256+c.toNat/\v.toNat*256+c.toNat<2^(8*(k+1)):=by
 have hc:c.toNat<256:=c.toNat_lt
 have h2:2^(8*(k+1))=256*2^(8*k):=by rw [Nat.mul_add,Nat.pow_add];omega
 have h3:2^(8*(k+1))<=2^64:=Nat.pow_le_pow_right (by decide) (by omega)
 refine ⟨?_,by omega⟩
 rw [UInt64.toNat_add,UInt64.toNat_mul,UInt8.toNat_toUInt64,show (256:UInt64).toNat=256 from rfl]
 rw [Nat.mod_eq_of_lt (a:=v.toNat*256) (by omega),Nat.mod_eq_of_lt (by omega)]
theorem ahg (f:Nat->UInt8):∀ k,k<=8->(upto (λk v=>v*256+UInt8.toUInt64 (f (7-k))) (0:UInt64) k).toNat=(List.range k).foldl (λs j=>s*256+(f (7-j)).toNat) 0/\
 (upto (λk v=>v*256+UInt8.toUInt64 (f (7-k))) (0:UInt64) k).toNat<2^(8*k)
 |0,_=>⟨rfl,by simp [upto]⟩
 |k+1,h=>by
  obtain ⟨h1,h2⟩:=ahg f k (by omega)
  have h3:=aBD (v:=upto (λk v=>v*256+UInt8.toUInt64 (f (7-k))) (0:UInt64) k) (c:=f (7-k)) k (by omega) h2
  refine ⟨?_,by simp only [upto];omega⟩
  simp only [upto]
  rw [h3.1,List.range_succ,List.foldl_append,h1]
  rfl
theorem aAi (g:Nat->Nat) (c:Nat):(List.range 8).foldl (λs i=>s+g i*c^i) 0=(List.range 8).foldl (λs j=>s*c+g (7-j)) 0:=by
 have r:List.range 8= [0,1,2,3,4,5,6,7]:=by decide
 rw [r]
 simp only [List.foldl_cons,List.foldl_nil,Nat.reduceSub,Nat.sub_self,Nat.sub_zero,Nat.add_mul,Nat.mul_assoc,Nat.zero_mul,Nat.zero_add,Nat.mul_one,Nat.pow_succ,Nat.pow_zero,Nat.one_mul]
 ac_rfl
theorem aFU (g:Nat->Nat):(List.range 8).foldl (λs i=>s+g i*2^(8*i)) 0=(List.range 8).foldl (λs j=>s*256+g (7-j)) 0:=by
 have h:∀ i,2^(8*i)=(2^8)^i:=λi=>Nat.pow_mul 2 8 i
 have e:(λs i=>s+g i*2^(8*i))=(λs i=>s+g i*(2^8)^i):=by
  funext s i
  rw [h]
 rw [e]
 exact aAi g (2^8)
theorem ayd (f:Nat->UInt8) (b:List UInt8) (hb:∀ i,i<8->b.getD i 0=f i):kG b 8=upto (λk v=>v*256+UInt8.toUInt64 (f (7-k))) 0 8:=by
 have hf:kG b 8=kG ((List.range 8).map f) 8:=by
  unfold kG
  have:∀ l:List Nat,(∀ i ∈ l,i<8)->∀ v,l.foldl (λv (i:Nat)=>v|||bP (UInt8.toUInt64 (b.getD i 0)) (8*(i:Int))) v=l.foldl (λv (i:Nat)=>v|||bP (UInt8.toUInt64 (((List.range 8).map f).getD i 0)) (8*(i:Int))) v:=by
   intro l
   induction l with
   |nil=>intro _ v;rfl
   |cons i r ih=>
    intro h v
    have hi:i<8:=h i (by simp)
    have e:((List.range 8).map f).getD i 0=f i:=by simp [List.getD_eq_getElem?_getD,hi]
    simp only [List.foldl_cons,hb i hi,e]
    exact ih (λj hj=>h j (by simp [hj])) _
  exact this _ (λi hi=>by simpa using hi) 0
 have e:∀ i,i<8->((List.range 8).map f).getD i 0=f i:=λi hi=>by simp [List.getD_eq_getElem?_getD,hi]
 rw [hf,<-UInt64.toNat_inj,(WU _ 8 (Nat.le_refl _)).1,(ahg f 8 (Nat.le_refl _)).1,<-aFU (λi=>(f i).toNat)]
 have:∀ l:List Nat,(∀ i ∈ l,i<8)->∀ v,l.foldl (λs (i:Nat)=>s+(((List.range 8).map f).getD i 0).toNat*2^(8*i)) v=l.foldl (λs i=>s+(f i).toNat*2^(8*i)) v:=by
  intro l
  induction l with
  |nil=>intro _ v;rfl
  |cons i r ih=>
   intro h v
   simp only [List.foldl_cons,e i (h i (by simp))]
   exact ih (λj hj=>h j (by simp [hj])) _
 exact this _ (λi hi=>by simpa using hi) 0
end Go.Proofs.YtohjofabochgfaaGreat

namespace Go.Proofs.YtohjofabochgfaaGreat
open Sx Go
theorem LW {w r:List UInt8} (n:Nat) (hw:w.length<=n) (hr:∀ x ∈ r,x=0) (i:Nat):(w.take n++r).getD i 0=w.getD i 0:=by
 rw [List.take_of_length_le hw]
 simp only [List.getD_eq_getElem?_getD,List.getElem?_append]
 split
 ·rfl
 ·rename_i h
  rw [List.getElem?_eq_none (by omega:w.length<=i)]
  cases hx:r[i-w.length]? with
  |none=>rfl
  |some x=>rw [hr x (List.mem_of_getElem? hx)];rfl
theorem WM {n k:Nat}:∀ x ∈ (List.replicate n (0:UInt8)).drop k,x=0:=λx hx=>List.eq_of_mem_replicate (List.mem_of_mem_drop hx)
theorem ae2 {w:List UInt8} (h:w.length<=128) (i:Nat):(nu w).getD i 0=w.getD i 0:=LW 128 h WM i
theorem Ru {w:List UInt8} (h:w.length<=16) (i:Nat):(Pg w).getD i 0=w.getD i 0:=LW 16 h WM i
theorem aeq {w:List UInt8} (h:w.length=128):nu w=w:=by
 unfold nu
 rw [List.take_of_length_le (by omega),List.drop_eq_nil_of_le (by simp [h]),List.append_nil]
theorem aci {b c:List UInt8} (h:∀ i,c.getD i 0=b.getD i 0) (p:Nat):kG ((c.drop p).take 8) 8=ik b p:=
 ayd (λi=>b.getD (p+i) 0) _ λi hi=>by
  rw [<-h]
  simp only [List.getD_eq_getElem?_getD,List.getElem?_take,if_pos hi,List.getElem?_drop]
theorem ac0 {b:List UInt8} (hb:b.length<=128):kI b=qn (nu b):=by
 unfold kI qn
 congr 1
 funext k m
 unfold aqU
 rw [aci (ae2 hb)]
theorem JU {h:List UInt64} {b:List UInt8} {t:UInt64} {l:Bool} (hb:b.length<=128):dI h b t l=xG h (nu b) t l:=by
 unfold dI xG
 rw [ac0 hb]
theorem aGi {p:List UInt8} {n:Int} (hp:p.length<=16):atb p n=an8 p n:=by
 unfold atb an8
 have h0:ik p 0=kG ((Pg p).take 8) 8:=(aci (Ru hp) 0).symm
 have h8:ik p 8=kG (((Pg p).drop 8).take 8) 8:=(aci (Ru hp) 8).symm
 rw [h0,h8]
theorem U3 (m:Nat):i2u (m:Int)=UInt64.ofNat m:=by
 unfold i2u
 rw [<-UInt64.toNat_inj,UInt64.toNat_ofNat',UInt64.toNat_ofNat']
 omega
theorem avz (a b:Nat):i2u ((a+b:Nat):Int)=i2u (a:Int)+i2u (b:Int):=by
 rw [U3,U3,U3,UInt64.ofNat_add]
theorem awC (b:List UInt8) (h:List UInt64):∀ k,128*k<=b.length->upto (λ_ s=>apw s) (h,0,b) k=(oi b h k,i2u ((128*k:Nat):Int),b.drop (128*k))
 |0,_=>rfl
 |k+1,hk=>by
  have ih:=awC b h k (by omega)
  show apw (upto (λ_ s=>apw s) (h,0,b) k)=_
  rw [ih]
  have e1:(b.take (128*k+128)).drop (128*k)=(b.drop (128*k)).take 128:=by rw [List.drop_take];congr 1;omega
  have e2:i2u ((128*k+128:Nat):Int)=i2u ((128*k:Nat):Int)+128:=avz _ 128
  have hl:((b.drop (128*k)).take 128).length=128:=by simp;omega
  have e3:oi b h (k+1)=xG (oi b h k) ((b.drop (128*k)).take 128) (i2u ((128*k:Nat):Int)+128) false:=by
   show dI (oi b h k) ((b.take (128*k+128)).drop (128*k)) (i2u ((128*k+128:Nat):Int)) false=_
   rw [e1,e2,JU (by omega),aeq hl]
  unfold apw
  rw [e3,List.drop_drop,show 128*(k+1)=128*k+128 by omega,e2]
theorem asJ {α:Type} (g:Nat->α) (d:α) (n:Nat):∀ m,m<=n->upto (λk o=>o.set k (g k)) (List.replicate n d) m=(List.range m).map g++List.replicate (n-m) d
 |0,_=>by simp [upto]
 |m+1,h=>by
  have ih:=asJ g d n m (by omega)
  show (upto (λk o=>o.set k (g k)) (List.replicate n d) m).set m (g m)=_
  rw [ih,List.set_append_right _ _ (by simp),List.length_map,List.length_range,Nat.sub_self,show n-m=(n-(m+1))+1 by omega,List.replicate_succ,List.set_cons_zero,List.range_succ,List.map_append]
  simp
theorem agq {α:Type} (g:Nat->α):∀ m,upto (λk o=>o++ [g k]) [] m=(List.range m).map g
 |0=>rfl
 |m+1=>by
  show upto (λk o=>o++ [g k]) [] m++ [g m]=_
  rw [agq g m,List.range_succ,List.map_append]
  rfl
theorem alL (h:List UInt64) (n:Nat):AY h n=Iw h n:=by
 unfold AY Iw
 rw [agq,asJ _ _ n n (Nat.le_refl _),Nat.sub_self,List.replicate_zero,List.append_nil]
 congr 1
 funext k
 have e:8*((k%8:Nat):Int)=((8*(k%8):Nat):Int):=by omega
 rw [e,U3,UInt64.toNat_ofNat',Nat.mod_eq_of_lt (by omega)]
theorem aAB {p:List UInt8} {n:Int} {b:List UInt8} (hp:p.length<=16):aAC p n b=uG p n b:=by
 unfold aAC uG sr MG
 rw [aGi hp,alL]
 have hk:128*((b.length-1)/128)<=b.length:=by omega
 show _=aFW n (upto (λ_ s=>apw s) (an8 p n,0,b) ((b.length-1)/128))
 rw [awC b _ _ hk]
 unfold aFW
 have hl:(b.drop (128*((b.length-1)/128))).length<=128:=by simp only [List.length_drop];omega
 have hc:i2u (b.length:Int)=i2u ((128*((b.length-1)/128):Nat):Int)+i2u ((b.drop (128*((b.length-1)/128))).length:Int):=by
  rw [<-avz,List.length_drop]
  congr 2
  omega
 rw [JU hl,hc]
theorem Pw (p:List UInt8) (n:Int) (b:List UInt8):(uG p n b).length=n.toNat:=by
 unfold uG aFW
 rw [<-alL]
 unfold AY
 rw [agq,List.length_map,List.length_range]
end Go.Proofs.YtohjofabochgfaaGreat

namespace Go.Proofs.YtohjofabochgfaaGreat
namespace Sx
open Go
section
variable {P:Program} {te:TE} {Φ:Env} (hte:nJ P te) (hΦ:aQ P Φ) (hany:aU P te Φ)
include hte hΦ hany
omit hte hΦ hany
def wM:cf:=⟨false,λ_ args hp=>match args with
 | [.own c e]=>match eM hp c e with
  |some (.row .u8 xs)=>.br (decide (0<xs.length)) (.ok (.ret ⟨.clip c e,[]⟩)) .fail
  |_=>.fail
 |_=>.fail⟩
theorem awU:aF wM:=λd args hp hp' out hg hrun=>by
 simp only [wM] at hrun⊢
 split at hrun
 ·split at hrun
  ·rename_i xs hx
   simp only [c8 hg hx]
   exact hrun
  ·cases hrun
 ·cases hrun
include hte hΦ hany
theorem aH9 {f:FuncId} {fn:Func} {c:Code} (hf:P.funcs[f]? =some fn) (hb:fn.body=some c) (hname:(fn.name== "runtime.NumGoroutine")=false) (hΛ:∀ R,Iv P R av c) {n:Nat}
 (h:∀ (hp:Hp) (c e:Nat) (xs:List UInt8) (K:SV->Hp->Prop),eM hp c e=some (.row .u8 xs)->0<xs.length->K (.clip c e) hp->wpf te Φ av n fn [.own c e] hp K (λ_ _=>False)):ac P f wM:=by
 refine ⟨λR w d args vs out hm hr hrun=>.inl ⟨fn,hf,hname,by rw [hb];rfl,?_⟩⟩
 simp only [wM] at hrun
 split at hrun
 ·split at hrun
  ·rename_i c e _ xs hx
   cases hlen:decide (0<xs.length)
   ·rw [hlen] at hrun;cases hrun
   rw [hlen] at hrun
   cases hrun
   refine (WT (n:=n) (K:=λv hp=>v=.clip c e/\hp=R.hp) (Kp:=λ_ _=>False) hte hΦ hany hf hb (hΛ _) hm hr (h _ _ _ xs _ hx (of_decide_eq_true hlen) ⟨rfl,rfl⟩)).mono λen w' hp=> ?_
   rcases hp with ⟨x,v,R₁,rfl,hx1,hm1,hv,rfl,hy⟩|⟨x,v,R₁,rfl,hx1,hm1,hv,hy⟩
   ·exact ⟨v,R₁,rfl,⟨hx1,hy,hm1⟩,hv⟩
   ·exact hy.elim
  ·cases hrun
 ·cases hrun
end
theorem fG {te:TE} {Φ:Env} {ops:List Oper} {K:SE->St->Prop} {o:Oper} {r:List Oper} {tm tm':List SV} {hp:Hp} (v:SV) (hg:guarded ops tm o=some true) (hc:(Ps te Φ hp (o.dst.getD 100000) (St.eval ⟨tm,hp⟩) o.op).run=some (.ret ⟨v,[]⟩))
 (ht:EU ⟨tm,hp⟩ o.dst v=tm') (h:kc te Φ ops K r ⟨tm',hp⟩):kc te Φ ops K (o::r) ⟨tm,hp⟩:=by
 subst ht
 simp only [kc,hg]
 exact OT.ss hc h
theorem aEn {te:TE} {Φ:Env} {Λ:Lam} {n i j:Nat} {a b:Array Oper} {st:St} {K:SE->St->Prop}:wps te Φ Λ (n+3) (.seq (.region i a false) (.seq (.region j b false) .ret)) st K=
 zm te Φ a.toList (λe st=>match e with
  |.normal=>zm te Φ b.toList (λe st=>match e with
   |.normal=>K .ret st
   |e=>K e st) b.toList st
  |e=>K e st) a.toList st:=rfl
end Sx
end Go.Proofs.YtohjofabochgfaaGreat

namespace Go.Proofs.YtohjofabochgfaaGreat
open Sx Go
set_option maxRecDepth 100000
def auL (c:Code):Array Oper:=match c with
 |.seq (.region _ ops _) _=>ops
 |_=> #[]
def auK (c:Code):Array Oper:=match c with
 |.seq _ (.seq (.region _ ops _) _)=>ops
 |_=> #[]
theorem aGS:(Tryz.f68).body=some (.seq (.region 0 (auL (aj Tryz.f68)) false) (.seq (.region 1 (auK (aj Tryz.f68)) false) .ret)):=by kernel_rfl
theorem aGR (x:SV): [x]++List.replicate ((Tryz.f68).ntmps- [x].length) SV.undef= [x,.undef,.undef,.undef,.undef,.undef,.undef,.undef,.undef]:=by kernel_rfl
theorem auI (hp:Hp) (c e:Nat):Pl te hp 25 (.own c e)=(match eQ hp c e with|some n=>.ok (.int n)|none=>.fail):=by kernel_rfl
theorem auJ (hp:Hp) (c e n:Nat):qu te hp 25 (.own c e) none (some (.int (Int.ofNat (n+1)))) (some (.int (Int.ofNat (n+1))))=(match (none:Option SV),some (SV.int (Int.ofNat (n+1))),eQ hp c e with
 |none,some (.int h),some m=>if dC hp c e=some 1 then .br (decide (h=(m:Int))&&decide (Int.ofNat (n+1)=(m:Int))) (.ok (.clip c e)) (.guard (decide (0<=h)&&decide (h<=Int.ofNat (n+1))&&decide (Int.ofNat (n+1)<=(m:Int))) (.ok (.part c e 0 h.toNat))) else .fail
 |_,_,_=>.fail):=by kernel_rfl
noncomputable def aGT (k:Nat):Oper:=(auL (aj Tryz.f68)).toList.getD k default
noncomputable def yW (k:Nat):Oper:=(auK (aj Tryz.f68)).toList.getD k default
theorem aBs:(auL (aj Tryz.f68)).toList= [aGT 0]:=by kernel_rfl
theorem aBq:(auK (aj Tryz.f68)).toList= [yW 0,yW 1,yW 2,yW 3,yW 4,yW 5,yW 6]:=by kernel_rfl
theorem aBp (hp:Hp) (c e:Nat) (xs:List UInt8) (K:SV->Hp->Prop) (hx:eM hp c e=some (.row .u8 xs)) (hl:0<xs.length) (hK:K (.clip c e) hp):
 wpf te CZ av 1000 Tryz.f68 [.own c e] hp K (λ_ _=>False):=by
 have e1:eQ hp c e=some xs.length:=by simp [eQ,hx]
 have e2:dC hp c e=some 1:=by simp only [dC,hx];rfl
 have h1:Pl te hp 25 (.own c e)=.ok (.int xs.length):=by rw [auI,e1]
 have h2:(qu te hp 25 (.own c e) none (some (.int xs.length)) (some (.int xs.length))).run=some (.clip c e):=by
  obtain ⟨m,hm⟩:∃ m,xs.length=m+1:=⟨xs.length-1,by omega⟩
  rw [hm] at e1⊢
  refine (congrArg OT.run (auJ hp c e m)).trans ?_
  rw [e1]
  simp only [e2,if_true]
  exact OT.ap (by simp)
 unfold wpf
 rw [aGS]
 dsimp only
 rw [aGR,aEn (n:=997),wu,aBs]
 refine fG (.emp) (by kernel_rfl) (by kernel_rfl) (tm':= [.own c e,.undef,.emp,.undef,.undef,.undef,.undef,.undef,.undef]) (by kernel_rfl) ?_
 dsimp only [kc]
 rw [wu,aBq]
 refine fG (.own c e) (by kernel_rfl) (by kernel_rfl) (tm':= [.own c e,.undef,.emp,.own c e,.undef,.undef,.undef,.undef,.undef]) (by kernel_rfl) ?_
 refine fG (.own c e) (by kernel_rfl) (by kernel_rfl) (tm':= [.own c e,.undef,.emp,.own c e,.own c e,.undef,.undef,.undef,.undef]) (by kernel_rfl) ?_
 refine fG (.int xs.length) (by kernel_rfl) (Eq.trans (b:=(iG (Pl te hp 25 (.own c e))).run) (by kernel_rfl) (by rw [h1];rfl)) (tm':= [.own c e,.undef,.emp,.own c e,.own c e,.int xs.length,.undef,.undef,.undef]) (by kernel_rfl) ?_
 refine fG (.own c e) (by kernel_rfl) (by kernel_rfl) (tm':= [.own c e,.undef,.emp,.own c e,.own c e,.int xs.length,.own c e,.undef,.undef]) (by kernel_rfl) ?_
 refine fG (.int xs.length) (by kernel_rfl) (Eq.trans (b:=(iG (Pl te hp 25 (.own c e))).run) (by kernel_rfl) (by rw [h1];rfl)) (tm':= [.own c e,.undef,.emp,.own c e,.own c e,.int xs.length,.own c e,.int xs.length,.undef]) (by kernel_rfl) ?_
 refine fG (.clip c e) (by kernel_rfl) (Eq.trans (b:=(iG (qu te hp 25 (.own c e) none (some (.int xs.length)) (some (.int xs.length)))).run) (by kernel_rfl) (aHg h2)) (tm':= [.own c e,.undef,.emp,.own c e,.own c e,.int xs.length,.own c e,.int xs.length,.clip c e]) (by kernel_rfl) ?_
 refine fG (.clip c e) (by kernel_rfl) (by kernel_rfl) (tm':= [.own c e,.undef,.clip c e,.own c e,.own c e,.int xs.length,.own c e,.int xs.length,.clip c e]) (by kernel_rfl) ?_
 exact hK
theorem aBr:ac Tryz.prog 68 wM:=
 aH9 aq zR abF (f:=68) (fn:=Tryz.f68) (c:=aj Tryz.f68) (by kernel_rfl) (by kernel_rfl) (by kernel_rfl) (λR=>af) (n:=1000) aBp
def E6:cf:=wM
theorem aen:ac Tryz.prog 68 E6:=aBr
theorem aem:aF E6:=awU
def zY:Env:=ay 68 E6 CZ
theorem qd:aQ Tryz.prog zY:=ag aen zR
theorem HN:ax zY:=ae aem CY
theorem zX:aU Tryz.prog te zY:=aJ follows aq qd HN
def fe:aw:=⟨[.val false .int,.val false .int,.val false (.list .u8)],[],true,0,false⟩
abbrev vX:Type:=((Int)×(Int)×(List (UInt8))×Unit)×(Unit)
def o0:Shape:=⟨87,[(0,.val false .int),(1,.val false .int),(6,.ptr 0 0 0),(10,.own 1),(38,.val false .int)],[(0,.cells [.val false .u64,.val false .u64,.val false .u64,.val false .u64,.val false .u64,.val false .u64,.val false .u64,.val false .u64,.val false .bool]),(1,.row .u8)],0,true⟩
abbrev bZ:Type:=((Int)×(Int)×(Unit)×(Unit)×(Int)×Unit)×(((UInt64)×(UInt64)×(UInt64)×(UInt64)×(UInt64)×(UInt64)×(UInt64)×(UInt64)×(Bool)×Unit)×(List (UInt8))×Unit)
def nq:Shape:=⟨87,[(0,.val false .int),(6,.ptr 0 0 0),(10,.own 1)],[(0,.cells [.val false .u64,.val false .u64,.val false .u64,.val false .u64,.val false .u64,.val false .u64,.val false .u64,.val false .u64,.val false .bool]),(1,.row .u8)],0,true⟩
abbrev iL:Type:=((Int)×(Unit)×(Unit)×Unit)×(((UInt64)×(UInt64)×(UInt64)×(UInt64)×(UInt64)×(UInt64)×(UInt64)×(UInt64)×(Bool)×Unit)×(List (UInt8))×Unit)
def Q1:SE->Option Shape:=fp [(1,nq)] none
def an1 (a0:Int) (a1:Int) (a38:Int) (c0_0:UInt64) (c0_1:UInt64) (c0_2:UInt64) (c0_3:UInt64) (c0_4:UInt64) (c0_5:UInt64) (c0_6:UInt64) (c0_7:UInt64) (c0_8:Bool) (c1:List (UInt8)):OT (Sum bZ aE):=
 (.br (decide (a38<(4:Int)))
 (gd [inR ((8:Int)*a38),decide ((0:Int)<=(8:Int)*a38),decide ((List.length c1+1)*1<=140737488355328),inR (a38+(1:Int))] (.ok (.inl ((a0,(a1,((),((),(a38+(1:Int),()))))),((c0_0,(c0_1,(c0_2,(c0_3,(c0_4,(c0_5,(c0_6,(c0_7,(c0_8,()))))))))),(c1++ [i2b (avt a1 ((8:Int)*a38))],()))))))
 (.ok (.inr ⟨(.exit 1,nq),((a0,((),((),()))),((c0_0,(c0_1,(c0_2,(c0_3,(c0_4,(c0_5,(c0_6,(c0_7,(c0_8,()))))))))),(c1,())))⟩)))
def o4 (s:bZ):OT (Sum bZ aE):=an1 (s.1.1) (s.1.2.1) (s.1.2.2.2.2.1) (s.2.1.1) (s.2.1.2.1) (s.2.1.2.2.1) (s.2.1.2.2.2.1) (s.2.1.2.2.2.2.1) (s.2.1.2.2.2.2.2.1) (s.2.1.2.2.2.2.2.2.1) (s.2.1.2.2.2.2.2.2.2.1) (s.2.1.2.2.2.2.2.2.2.2.1) (s.2.2.1)
theorem anW (s:bZ) (Q:Sum bZ aE->Prop):wps te zY av 1000 (aV (aj Tryz.f29) 1) (o0.inj s) (bV o0 Q1 (Q:Sum o0.T aE->Prop))=(o4 s).wpR Q:=by kernel_rfl
def vW (g1_1:bZ->iL) (s:bZ):OT aE:=(.ok ⟨(.exit 1,nq),g1_1 s⟩)
def oZ:Shape:=⟨87,[(0,.val false .int),(6,.ptr 0 0 0),(10,.own 1),(50,.val false .int)],[(0,.cells [.val false .u64,.val false .u64,.val false .u64,.val false .u64,.val false .u64,.val false .u64,.val false .u64,.val false .u64,.val false .bool]),(1,.row .u8)],0,true⟩
abbrev bh:Type:=((Int)×(Unit)×(Unit)×(Int)×Unit)×(((UInt64)×(UInt64)×(UInt64)×(UInt64)×(UInt64)×(UInt64)×(UInt64)×(UInt64)×(Bool)×Unit)×(List (UInt8))×Unit)
def fN:Shape:=⟨87,[(6,.ptr 0 0 0),(7,.val false .int)],[(0,.cells [.val false .u64,.val false .u64,.val false .u64,.val false .u64,.val false .u64,.val false .u64,.val false .u64,.val false .u64,.val false .bool])],0,true⟩
abbrev gn:Type:=((Unit)×(Int)×Unit)×(((UInt64)×(UInt64)×(UInt64)×(UInt64)×(UInt64)×(UInt64)×(UInt64)×(UInt64)×(Bool)×Unit)×Unit)
def np:Shape:=⟨87,[(6,.ptr 0 0 0)],[(0,.cells [.val false .u64,.val false .u64,.val false .u64,.val false .u64,.val false .u64,.val false .u64,.val false .u64,.val false .u64,.val false .bool])],0,true⟩
abbrev gp:Type:=((Unit)×Unit)×(((UInt64)×(UInt64)×(UInt64)×(UInt64)×(UInt64)×(UInt64)×(UInt64)×(UInt64)×(Bool)×Unit)×Unit)
def Q0:SE->Option Shape:=fp [(3,np)] (some fN)
def an0 (a0:Int) (a50:Int) (c0_0:UInt64) (c0_1:UInt64) (c0_2:UInt64) (c0_3:UInt64) (c0_4:UInt64) (c0_5:UInt64) (c0_6:UInt64) (c0_7:UInt64) (c0_8:Bool) (c1:List (UInt8)):OT (Sum bh aE):=
 let z0:Nat:=List.length c1
 let z1:List UInt8:=c1++ [i2b a50]
 let z2:Bool:=ao a0
 let z3:Nat:=aa.nat (aY (Int.toNat a0)).fst
 let z4:(aa×aa×Bool)×Int:=aqG a0 (aqE (ofN (aa.nat (aqY a0 (uG [(115:UInt8),(105:UInt8),(103:UInt8),(105:UInt8),(108:UInt8),(45:UInt8),(103:UInt8),(101:UInt8),(110:UInt8),(101:UInt8),(114:UInt8),(97:UInt8),(116:UInt8),(111:UInt8),(114:UInt8),(115:UInt8)] (64:Int) z1))%z3)))
 let z5:=z4.fst
 let z6:=z5.snd
 let z7:=z6.snd
 let z8:=z5.fst
 let z9:=z6.fst
 let z10:Bool:=inR (a50+(1:Int))
 let z11:(aa×aa×Bool)×Int:=aqG a0 []
 let z12:=z11.fst
 let z13:=z12.snd
 let z14:=z13.snd
 let z15:Bool:= !z14
 let z16:=z12.fst
 let z17:=z16.w0
 let z18:=z16.w1
 let z19:=z16.w2
 let z20:=z16.w3
 let z21:=z13.fst
 let z22:=z21.w0
 let z23:=z21.w1
 let z24:=z21.w2
 let z25:=z21.w3
 let z26:(aa×aa×Bool)×Int:=aqG a0 (aqE (ofN (aa.nat {w0:=0,w1:=0,w2:=0,w3:=0}%z3)))
 let z27:=z26.fst
 let z28:=z27.snd
 let z29:=z28.snd
 let z30:=z27.fst
 let z31:=z28.fst
 (.br (decide (a50<(256:Int)))
 (gd [decide (0<z0),decide ((z0+1)*1<=140737488355328)&&decide (0<1),Cq (([(115:UInt8),(105:UInt8),(103:UInt8),(105:UInt8),(108:UInt8),(45:UInt8),(103:UInt8),(101:UInt8),(110:UInt8),(101:UInt8),(114:UInt8),(97:UInt8),(116:UInt8),(111:UInt8),(114:UInt8),(115:UInt8)],(64:Int),z1,()),())] (.br (z2)
  (.br (z2)
   (.br (z4.snd==(0:Int))
    (.br (!z7)
     (.ok (.inr ⟨(.ret,fN),(((),((0:Int),())),((z8.w0,(z8.w1,(z8.w2,(z8.w3,(z9.w0,(z9.w1,(z9.w2,(z9.w3,(z7,()))))))))),()))⟩))
     (gd [z10] (.ok (.inl ((a0,((),((),(a50+(1:Int),())))),((c0_0,(c0_1,(c0_2,(c0_3,(c0_4,(c0_5,(c0_6,(c0_7,(c0_8,()))))))))),(c1,())))))))
    (gd [z10] (.ok (.inl ((a0,((),((),(a50+(1:Int),())))),((c0_0,(c0_1,(c0_2,(c0_3,(c0_4,(c0_5,(c0_6,(c0_7,(c0_8,()))))))))),(c1,())))))))
   (.br (z11.snd==(0:Int))
    (.br (z15)
     (.ok (.inr ⟨(.ret,fN),(((),((0:Int),())),((z17,(z18,(z19,(z20,(z22,(z23,(z24,(z25,(z14,()))))))))),()))⟩))
     (gd [z10] (.ok (.inl ((a0,((),((),(a50+(1:Int),())))),((c0_0,(c0_1,(c0_2,(c0_3,(c0_4,(c0_5,(c0_6,(c0_7,(c0_8,()))))))))),(c1,())))))))
    (gd [z10] (.ok (.inl ((a0,((),((),(a50+(1:Int),())))),((c0_0,(c0_1,(c0_2,(c0_3,(c0_4,(c0_5,(c0_6,(c0_7,(c0_8,()))))))))),(c1,()))))))))
  (.br (z2)
   (.br (z26.snd==(0:Int))
    (.br (!z29)
     (.ok (.inr ⟨(.ret,fN),(((),((0:Int),())),((z30.w0,(z30.w1,(z30.w2,(z30.w3,(z31.w0,(z31.w1,(z31.w2,(z31.w3,(z29,()))))))))),()))⟩))
     (gd [z10] (.ok (.inl ((a0,((),((),(a50+(1:Int),())))),((c0_0,(c0_1,(c0_2,(c0_3,(c0_4,(c0_5,(c0_6,(c0_7,(c0_8,()))))))))),(c1,())))))))
    (gd [z10] (.ok (.inl ((a0,((),((),(a50+(1:Int),())))),((c0_0,(c0_1,(c0_2,(c0_3,(c0_4,(c0_5,(c0_6,(c0_7,(c0_8,()))))))))),(c1,())))))))
   (.br (z11.snd==(0:Int))
    (.br (z15)
     (.ok (.inr ⟨(.ret,fN),(((),((0:Int),())),((z17,(z18,(z19,(z20,(z22,(z23,(z24,(z25,(z14,()))))))))),()))⟩))
     (gd [z10] (.ok (.inl ((a0,((),((),(a50+(1:Int),())))),((c0_0,(c0_1,(c0_2,(c0_3,(c0_4,(c0_5,(c0_6,(c0_7,(c0_8,()))))))))),(c1,())))))))
    (gd [z10] (.ok (.inl ((a0,((),((),(a50+(1:Int),())))),((c0_0,(c0_1,(c0_2,(c0_3,(c0_4,(c0_5,(c0_6,(c0_7,(c0_8,()))))))))),(c1,()))))))))))
 (.ok (.inr ⟨(.exit 3,np),(((),()),((c0_0,(c0_1,(c0_2,(c0_3,(c0_4,(c0_5,(c0_6,(c0_7,(c0_8,()))))))))),()))⟩)))
def o3 (s:bh):OT (Sum bh aE):=an0 (s.1.1) (s.1.2.2.2.1) (s.2.1.1) (s.2.1.2.1) (s.2.1.2.2.1) (s.2.1.2.2.2.1) (s.2.1.2.2.2.2.1) (s.2.1.2.2.2.2.2.1) (s.2.1.2.2.2.2.2.2.1) (s.2.1.2.2.2.2.2.2.2.1) (s.2.1.2.2.2.2.2.2.2.2.1) (s.2.2.1)
theorem anV (s:bh) (Q:Sum bh aE->Prop):wps te zY av 1000 (aV (aj Tryz.f29) 3) (oZ.inj s) (bV oZ Q0 (Q:Sum oZ.T aE->Prop))=(o3 s).wpR Q:=by kernel_rfl
def o1 (g3_r:bh->gn) (c3_r:bh->Bool) (g3_3:bh->gp) (s:bh):OT aE:=(.br (c3_r s) (.ok ⟨(.ret,fN),g3_r s⟩) (.ok ⟨(.exit 3,np),g3_3 s⟩))
def gW:az:=⟨[.val true (.prod .elem (.prod .elem .bool)),.val false .int],[],false⟩
def KY:SV->Option az:=λ_=>some gW
def K1 (ok1:bZ->Bool) (g1_1:bZ->iL) (ok3:bh->Bool) (g3_r:bh->gn) (c3_r:bh->Bool) (g3_3:bh->gp) (a0:Int) (a1:Int) (a2:List (UInt8)):OT fe.Y:=
 let z0:aa:= {w0:=0,w1:=0,w2:=0,w3:=0}
 let z1:aa×aa×Bool:=(z0,z0,false)
 let z2:(Int×Int×PUnit×PUnit×Int×PUnit)×(UInt64×UInt64×UInt64×UInt64×UInt64×UInt64×UInt64×UInt64×Bool×PUnit)×List UInt8×PUnit:=((a0,a1,(),(),(0:Int),()),((0:UInt64),(0:UInt64),(0:UInt64),(0:UInt64),(0:UInt64),(0:UInt64),(0:UInt64),(0:UInt64),false,()),a2,())
 let z3:(Int×PUnit×PUnit×PUnit)×(UInt64×UInt64×UInt64×UInt64×UInt64×UInt64×UInt64×UInt64×Bool×PUnit)×List UInt8×PUnit:=g1_1 z2
 let z4:=z3.snd
 let z5:=z4.fst
 let z6:=z5.snd
 let z7:=z6.snd
 let z8:=z7.snd
 let z9:=z8.snd
 let z10:=z9.snd
 let z11:=z10.snd
 let z12:=z11.snd
 let z13:(Int×PUnit×PUnit×Int×PUnit)×(UInt64×UInt64×UInt64×UInt64×UInt64×UInt64×UInt64×UInt64×Bool×PUnit)×List UInt8×PUnit:=((z3.fst.fst,(),(),(0:Int),()),(z5.fst,z6.fst,z7.fst,z8.fst,z9.fst,z10.fst,z11.fst,z12.fst,z12.snd.fst,()),z4.snd.fst,())
 let z14:(PUnit×Int×PUnit)×(UInt64×UInt64×UInt64×UInt64×UInt64×UInt64×UInt64×UInt64×Bool×PUnit)×PUnit:=g3_r z13
 let z15:=z14.snd.fst
 let z16:=z15.snd
 let z17:=z16.snd
 let z18:=z17.snd
 let z19:=z18.snd
 let z20:=z19.snd
 let z21:=z20.snd
 let z22:=z21.snd
 (.br (ao a0)
 (.br (decide (a1<(0:Int)))
  (.ok ⟨gW,((z1,((60:Int),())),())⟩)
  (.br (decide ((2147483647:Int)<a1))
   (.ok ⟨gW,((z1,((60:Int),())),())⟩)
   (gd [lh ((a2,()),()),ok1 z2,ok3 z13] (.br (c3_r z13)
    (.ok ⟨gW,((({w0:=z15.fst,w1:=z16.fst,w2:=z17.fst,w3:=z18.fst},{w0:=z19.fst,w1:=z20.fst,w2:=z21.fst,w3:=z22.fst},z22.snd.fst),(z14.fst.snd.fst,())),())⟩)
    (.ok ⟨gW,((z1,((90:Int),())),())⟩)))))
 (.ok ⟨gW,((z1,((40:Int),())),())⟩))
theorem auE (ok1:bZ->Bool) (g1_1:bZ->iL) (ok3:bh->Bool) (g3_r:bh->gn) (c3_r:bh->Bool) (g3_3:bh->gp) (x:vX) (Q:fe.Y->Prop):wpf te zY (aO 3 (cb oZ 3 ok3 (o1 g3_r c3_r g3_3)) (aO 1 (cb o0 1 ok1 (vW g1_1)) av)) 1000 Tryz.f29 (fe.inp.inj x).tm (fe.inp.inj x).hp (fnK fe KY Q) (λ_ _=>False)=(K1 ok1 g1_1 ok3 g3_r c3_r g3_3 (x.1.1) (x.1.2.1) (x.1.2.2.1)).wpR Q:=by kernel_rfl
theorem YW (ok1:bZ->Bool) (g1_1:bZ->iL) (ok3:bh->Bool) (g3_r:bh->gn) (c3_r:bh->Bool) (g3_3:bh->gp) (h1:∀ s:bZ,ok1 s=true->∃ m e,al (o4) m s=some e/\(vW g1_1 s).run=some e) (h3:∀ s:bh,ok3 s=true->∃ m e,al (o3) m s=some e/\(o1 g3_r c3_r g3_3 s).run=some e) (pre:vX->Bool) (F:vX->OT fe.Y) (hF:∀ (x:vX) oy,pre x=true->(F x).run=some oy->(K1 ok1 g1_1 ok3 g3_r c3_r g3_3 (x.1.1) (x.1.2.1) (x.1.2.2.1)).run=some oy):ac Tryz.prog 29 (fe.aH pre F):=
 aD aq qd zX (f:=29) (fn:=Tryz.f29) (c:=aj Tryz.f29) (by kernel_rfl) (by kernel_rfl) (by kernel_rfl) (S:=fe) (k:=0) (by kernel_rfl) (λR hR=>(aB (c:=(aj Tryz.f29)) (by kernel_rfl) (id:=3) (by kernel_rfl) (aS aq qd zX (sh:=oZ) hR (xs:=Q0) (aC (by kernel_rfl) (by kernel_rfl) hR) aK af (n:=1000) (T:=o3) (λs Q=>anV s Q) (ok:=ok3) (f:=o1 g3_r c3_r g3_3) h3) (aB (c:=(aj Tryz.f29)) (by kernel_rfl) (id:=1) (by kernel_rfl) (aS aq qd zX (sh:=o0) hR (xs:=Q1) (aC (by kernel_rfl) (by kernel_rfl) hR) aK af (n:=1000) (T:=o4) (λs Q=>anW s Q) (ok:=ok1) (f:=vW g1_1) h1) af))) (n:=1000) (sel:=KY) (λv o h=>by cases h;rfl) (pre:=pre) (F:=F) (T:=λx=>K1 ok1 g1_1 ok3 g3_r c3_r g3_3 (x.1.1) (x.1.2.1) (x.1.2.2.1)) (λx Q=>auE ok1 g1_1 ok3 g3_r c3_r g3_3 x Q) hF
def ae3:List UInt8:= [115,105,103,105,108,45,103,101,110,101,114,97,116,111,114,115]
def Vz (b:List UInt8) (i:Int):List UInt8:=upto (λk l=>l++ [i2b (avt i (8*(k:Int)))]) b 4
def ax9 (c:Int) (b:List UInt8) (k:Nat):Pt×Int:=aqG c (aqE (ofN ((aqY c (uG ae3 64 (b++ [i2b (k:Int)]))).nat%(aY c.toNat).1.nat)))
def apy (d:Pt×Int):Bool:=cond (d.2==(0:Int)) (!d.1.2.2) false
def WK (c:Int) (b:List UInt8):Nat->Nat->Option Pt
 |0,_=>none
 |n+1,k=>cond (apy (ax9 c b k)) (some (ax9 c b k).1) (WK c b n (k+1))
def aH1 (o:Option Pt):Pt×Int:=match o with
 |some p=>(p,0)
 |none=>(fW,90)
def Cf (c i:Int) (b:List UInt8):Pt×Int:=cond (ao c) (cond (decide (i<0)) (fW,60) (cond (decide (2147483647<i)) (fW,60) (aH1 (WK c (Vz b i) 256 0)))) (fW,40)
theorem zu (b:List UInt8) (i:Int):(Vz b i).length=b.length+4:=by
 simp only [Vz,upto,List.length_append,List.length_cons,List.length_nil]
abbrev abx:Type:=UInt64×UInt64×UInt64×UInt64×UInt64×UInt64×UInt64×UInt64×Bool×Unit
def auF (p:Pt):abx:=(p.1.w0,p.1.w1,p.1.w2,p.1.w3,p.2.1.w0,p.2.1.w1,p.2.1.w2,p.2.1.w3,p.2.2,())
def K0 (s:bZ):Bool:=decide (s.1.2.2.2.2.1=0/\s.2.2.1.length<=100000000000)
def E1 (s:bZ):iL:=((s.1.1,(),(),()),(s.2.1,Vz s.2.2.1 s.1.2.1,()))
theorem anZ:∀ s:bZ,K0 s=true->∃ m e,al o4 m s=some e/\(vW E1 s).run=some e:=by
 rintro ⟨⟨c,a,⟨⟩,⟨⟩,i,⟨⟩⟩,⟨z,b,⟨⟩⟩⟩ h
 have h':=of_decide_eq_true h
 dsimp only at h'
 obtain ⟨rfl,hl⟩:=h'
 have:=(aP (T:=o4) (λi l=>(((c,a,(),(),(i:Int),()),(z,l,())):bZ)) (λk l=>l++ [i2b (avt a (8*(k:Int)))])
  (λl=>(⟨(.exit 1,nq),((c,(),(),()),(z,l,()))⟩:aE)) 4 b (λk l=>l.length=b.length+k) rfl (λi l hi hl'=>⟨?_,by simp [hl'];omega⟩) (λl hl'=> ?_)).1
 ·obtain ⟨m,hm⟩:=this
  exact ⟨m,_,hm,rfl⟩
 ·refine (OT.ap (decide_eq_true (by dsimp only;omega))).trans ((ah ?_).trans rfl)
  simp only [hl',List.all_cons,List.all_nil,Bool.and_true,Bool.and_eq_true]
  exact ⟨aI (by omega),decide_eq_true (by omega),decide_eq_true (by omega),aI (by omega)⟩
 ·exact OT.ar (decide_eq_false (by dsimp only;omega))
def KZ (s:bh):Bool:=ao s.1.1&&decide (s.1.2.2.2.1=0/\0<s.2.2.1.length/\s.2.2.1.length<=140737488355000)
def vV (s:bh):gn:=(((),(aH1 (WK s.1.1 s.2.2.1 256 0)).2,()),(auF (aH1 (WK s.1.1 s.2.2.1 256 0)).1,()))
def Bz (s:bh):Bool:=(WK s.1.1 s.2.2.1 256 0).isSome
def EZ (s:bh):gp:=(((),()),(s.2.1,()))
def aKZ (z:abx) (o:Option Pt):aE:=match o with
 |some p=>⟨(.ret,fN),((((),(0:Int),()),(auF p,())):gn)⟩
 |none=>⟨(.exit 3,np),((((),()),(z,())):gp)⟩
theorem aj8 {c:Int} {b:List UInt8} {z:abx} (hs:ao c=true) (h0:0<b.length) (hl:b.length<=140737488355000):∀ (n k:Nat),n+k=256->∃ m,al o3 m ((c,(),(),(k:Int),()),(z,b,()))=some (aKZ z (WK c b n k))
 |0,k,hk=>⟨1,aM (OT.ar (decide_eq_false (by dsimp only;omega)))⟩
 |n+1,k,hk=>by
  have ih:=aj8 (z:=z) hs h0 hl n (k+1) (by omega)
  obtain ⟨m,hm⟩:=ih
  have hpre:∀ {α:Type} {x:OT α} {o:Option α},x.run=o->(gd [decide (0<b.length),decide ((b.length+1)*1<=140737488355328)&&decide (0<1),Cq ((ae3,64,b++ [i2b (k:Int)],()),())] x).run=o:=λhx=>by
   refine (ah ?_).trans hx
   simp only [List.all_cons,List.all_nil,Bool.and_true,Bool.and_eq_true]
   exact ⟨decide_eq_true h0,⟨decide_eq_true (by omega),rfl⟩,decide_eq_true (by simp only [List.length_append,List.length_cons,List.length_nil];omega)⟩
  have hgo:(gd [inR ((k:Int)+1)] (.ok (.inl ((c,(),(),(k:Int)+1,()),(z,b,()))):OT (Sum bh aE))).run=some (.inl ((c,(),(),((k+1:Nat):Int),()),(z,b,()))):=
   (ah (by simp only [List.all_cons,List.all_nil,Bool.and_true];exact aI (by omega))).trans rfl
  have h1:decide ((k:Int)<256)=true:=decide_eq_true (by omega)
  unfold WK
  rcases (Bool.eq_false_or_eq_true ((ax9 c b k).2==(0:Int))).symm with hd|hd
  ·have e:apy (ax9 c b k)=false:=by unfold apy;rw [hd];rfl
   rw [e]
   exact ⟨m+1,aG ((OT.ap h1).trans (hpre ((OT.ap hs).trans ((OT.ap hs).trans ((OT.ar hd).trans hgo))))) hm⟩
  ·rcases (Bool.eq_false_or_eq_true (!(ax9 c b k).1.2.2)).symm with hq|hq
   ·have e:apy (ax9 c b k)=false:=by unfold apy;rw [hd];exact hq
    rw [e]
    exact ⟨m+1,aG ((OT.ap h1).trans (hpre ((OT.ap hs).trans ((OT.ap hs).trans ((OT.ap hd).trans ((OT.ar hq).trans hgo)))))) hm⟩
   ·have e:apy (ax9 c b k)=true:=by unfold apy;rw [hd];exact hq
    rw [e]
    exact ⟨1,aM ((OT.ap h1).trans (hpre ((OT.ap hs).trans ((OT.ap hs).trans ((OT.ap hd).trans ((OT.ap hq).trans rfl))))))⟩
theorem anY:∀ s:bh,KZ s=true->∃ m e,al o3 m s=some e/\(o1 vV Bz EZ s).run=some e:=by
 rintro ⟨⟨c,⟨⟩,⟨⟩,i,⟨⟩⟩,⟨z,b,⟨⟩⟩⟩ h
 obtain ⟨hs,h⟩:=(Bool.and_eq_true _ _).mp h
 have h':=of_decide_eq_true h
 dsimp only at h' hs
 obtain ⟨rfl,h0,hl⟩:=h'
 obtain ⟨m,hm⟩:=aj8 (z:=z) hs h0 hl 256 0 rfl
 refine ⟨m,_,hm,?_⟩
 unfold o1 vV Bz EZ
 dsimp only
 cases WK c b 256 0 with
 |none=>rfl
 |some p=>rfl
def yT (x:vX):Bool:=decide (x.1.2.2.1.length<=100000000000)
def YX (x:vX):OT fe.Y:=.ok ⟨gW,(((Cf x.1.1 x.1.2.1 x.1.2.2.1).1,((Cf x.1.1 x.1.2.1 x.1.2.2.1).2,())),())⟩
theorem anX:ac Tryz.prog 29 (fe.aH yT YX):=YW K0 E1 KZ vV Bz EZ anZ anY _ _ λx oy hp ho=>by
 rw [<-ho]
 clear ho
 obtain ⟨⟨c,i,b,⟨⟩⟩,⟨⟩⟩:=x
 have hl:b.length<=100000000000:=of_decide_eq_true hp
 show _=some (⟨gW,(((Cf c i b).1,((Cf c i b).2,())),())⟩:fe.Y)
 rcases (Bool.eq_false_or_eq_true (ao c)).symm with hs|hs
 ·rw [show Cf c i b=(fW,40) from by unfold Cf;rw [hs];rfl]
  exact OT.ar hs
 refine (OT.ap hs).trans ?_
 rcases (Bool.eq_false_or_eq_true (decide (i<0))).symm with h1|h1
 ·refine (OT.ar h1).trans ?_
  rcases (Bool.eq_false_or_eq_true (decide (2147483647<i))).symm with h2|h2
  ·rw [show Cf c i b=aH1 (WK c (Vz b i) 256 0) from by unfold Cf;rw [hs,h1,h2];rfl]
   refine (OT.ar h2).trans ((ah ?_).trans ?_)
   ·simp only [List.all_cons,List.all_nil,Bool.and_true,Bool.and_eq_true]
    refine ⟨decide_eq_true (show b.length<=_ by omega),decide_eq_true ⟨rfl,hl⟩,(Bool.and_eq_true _ _).mpr ⟨hs,decide_eq_true ⟨rfl,?_,?_⟩⟩⟩
    ·show 0<(Vz b i).length
     rw [zu];omega
    ·show (Vz b i).length<=_
     rw [zu];omega
   ·unfold Bz vV E1
    dsimp only
    generalize WK c (Vz b i) 256 0=o
    cases o with
    |none=>rfl
    |some p=>rfl
  ·rw [show Cf c i b=(fW,60) from by unfold Cf;rw [hs,h1,h2];rfl]
   exact OT.ap h2
 ·rw [show Cf c i b=(fW,60) from by unfold Cf;rw [hs,h1];rfl]
  exact OT.ap h1
def tp:cf:=(fe.aH yT YX)
theorem Uo:ac Tryz.prog 29 tp:=anX
theorem Un:aF tp:=aA
def qc:Env:=ay 29 tp zY
theorem nQ:aQ Tryz.prog qc:=ag Uo qd
theorem ye:ax qc:=ae Un HN
theorem Df:aU Tryz.prog te qc:=aJ follows aq nQ ye
end Go.Proofs.YtohjofabochgfaaGreat
