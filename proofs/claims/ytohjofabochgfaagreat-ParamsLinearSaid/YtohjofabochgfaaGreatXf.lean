/- A symbolic machine for Go code over plain data, and functions of the program as it shows them. No statement is proved in this file. -/
import Derived.KernelRfl
import Derived.Test.YtohjofabochgfaaGreatXe
set_option linter.unusedSimpArgs false
set_option linter.unusedVariables false
set_option linter.unusedSectionVars false

namespace Go.Proofs.YtohjofabochgfaaGreat
open Sx Go
set_option maxRecDepth 100000
def gB:aq:=⟨[.val true aq2,.val false (.list .elem),.val false (.list .elem),.val true .elem,.val true .elem,.val true .elem],[],true,0,false⟩
abbrev Gy:Type:=(((Int×(Int×(List ((aa×(aa×Bool)))×((aa×(aa×Bool))×(aa×(aa×Bool)))))))×(List (aa))×(List (aa))×(aa)×(aa)×(aa)×Unit)×(Unit)
def uz:Shape:=⟨143,[(1,.val false (.list .elem)),(2,.val false (.list .elem)),(6,.ptr 0 0 0),(9,.ptr 1 0 0),(10,.ptr 2 0 0),(11,.ptr 3 0 0),(13,.val false .int),(14,.ptr 4 0 0),(15,.val false .int),(16,.ptr 5 0 0),(17,.val false .int),(18,.own 6),(19,.val false .int)],[(0,.cells [.val false .int,.val false .int,.val false (.list (.prod .elem (.prod .elem .bool))),.val false .u64,.val false .u64,.val false .u64,.val false .u64,.val false .u64,.val false .u64,.val false .u64,.val false .u64,.val false .bool,.val false .u64,.val false .u64,.val false .u64,.val false .u64,.val false .u64,.val false .u64,.val false .u64,.val false .u64,.val false .bool]),(1,.row .u64),(2,.row .u64),(3,.row .u64),(4,.cells [.val false .u64,.val false .u64,.val false .u64,.val false .u64,.val false .u64,.val false .u64,.val false .u64,.val false .u64,.val false .bool]),(5,.cells [.val false .u64,.val false .u64,.val false .u64,.val false .u64,.val false .u64,.val false .u64,.val false .u64,.val false .u64,.val false .bool]),(6,.row .elem)],0,true⟩
abbrev cp:Type:=((List (aa))×(List (aa))×(Unit)×(Unit)×(Unit)×(Unit)×(Int)×(Unit)×(Int)×(Unit)×(Int)×(Unit)×(Int)×Unit)×(((Int)×(Int)×(List ((aa×(aa×Bool))))×(UInt64)×(UInt64)×(UInt64)×(UInt64)×(UInt64)×(UInt64)×(UInt64)×(UInt64)×(Bool)×(UInt64)×(UInt64)×(UInt64)×(UInt64)×(UInt64)×(UInt64)×(UInt64)×(UInt64)×(Bool)×Unit)×(List (UInt64))×(List (UInt64))×(List (UInt64))×((UInt64)×(UInt64)×(UInt64)×(UInt64)×(UInt64)×(UInt64)×(UInt64)×(UInt64)×(Bool)×Unit)×((UInt64)×(UInt64)×(UInt64)×(UInt64)×(UInt64)×(UInt64)×(UInt64)×(UInt64)×(Bool)×Unit)×(List (aa))×Unit)
def qq:Shape:=⟨143,[(6,.ptr 0 0 0),(9,.ptr 1 0 0),(10,.ptr 2 0 0),(11,.ptr 3 0 0),(13,.val false .int),(14,.ptr 4 0 0),(15,.val false .int),(16,.ptr 5 0 0),(17,.val false .int),(18,.own 6)],[(0,.cells [.val false .int,.val false .int,.val false (.list (.prod .elem (.prod .elem .bool))),.val false .u64,.val false .u64,.val false .u64,.val false .u64,.val false .u64,.val false .u64,.val false .u64,.val false .u64,.val false .bool,.val false .u64,.val false .u64,.val false .u64,.val false .u64,.val false .u64,.val false .u64,.val false .u64,.val false .u64,.val false .bool]),(1,.row .u64),(2,.row .u64),(3,.row .u64),(4,.cells [.val false .u64,.val false .u64,.val false .u64,.val false .u64,.val false .u64,.val false .u64,.val false .u64,.val false .u64,.val false .bool]),(5,.cells [.val false .u64,.val false .u64,.val false .u64,.val false .u64,.val false .u64,.val false .u64,.val false .u64,.val false .u64,.val false .bool]),(6,.row .elem)],0,true⟩
abbrev j1:Type:=((Unit)×(Unit)×(Unit)×(Unit)×(Int)×(Unit)×(Int)×(Unit)×(Int)×(Unit)×Unit)×(((Int)×(Int)×(List ((aa×(aa×Bool))))×(UInt64)×(UInt64)×(UInt64)×(UInt64)×(UInt64)×(UInt64)×(UInt64)×(UInt64)×(Bool)×(UInt64)×(UInt64)×(UInt64)×(UInt64)×(UInt64)×(UInt64)×(UInt64)×(UInt64)×(Bool)×Unit)×(List (UInt64))×(List (UInt64))×(List (UInt64))×((UInt64)×(UInt64)×(UInt64)×(UInt64)×(UInt64)×(UInt64)×(UInt64)×(UInt64)×(Bool)×Unit)×((UInt64)×(UInt64)×(UInt64)×(UInt64)×(UInt64)×(UInt64)×(UInt64)×(UInt64)×(Bool)×Unit)×(List (aa))×Unit)
def V2:SE->Option Shape:=kn [(0,qq)] none
def ajI (a1:List (aa)) (a2:List (aa)) (a13:Int) (a15:Int) (a17:Int) (a19:Int) (c0_0:Int) (c0_1:Int) (c0_2:List ((aa×(aa×Bool)))) (c0_3:UInt64) (c0_4:UInt64) (c0_5:UInt64) (c0_6:UInt64) (c0_7:UInt64) (c0_8:UInt64) (c0_9:UInt64) (c0_10:UInt64) (c0_11:Bool) (c0_12:UInt64) (c0_13:UInt64) (c0_14:UInt64) (c0_15:UInt64) (c0_16:UInt64) (c0_17:UInt64) (c0_18:UInt64) (c0_19:UInt64) (c0_20:Bool) (c1:List (UInt64)) (c2:List (UInt64)) (c3:List (UInt64)) (c4_0:UInt64) (c4_1:UInt64) (c4_2:UInt64) (c4_3:UInt64) (c4_4:UInt64) (c4_5:UInt64) (c4_6:UInt64) (c4_7:UInt64) (c4_8:Bool) (c5_0:UInt64) (c5_1:UInt64) (c5_2:UInt64) (c5_3:UInt64) (c5_4:UInt64) (c5_5:UInt64) (c5_6:UInt64) (c5_7:UInt64) (c5_8:Bool) (c6:List (aa)):OT (Sum cp aQ):=
 let z0:Nat:=List.length a1
 let z1:Bool:=decide (a19<(↑z0:Int))
 let z2:Bool:=decide (4<=List.length c3)
 let z3:Bool:=inB a19 z0
 let z4:Bool:=ak a13
 let z5:Nat:=List.length a2
 let z6:Bool:=decide (a19<(↑z5:Int))
 let z7:Bool:=inB a19 z5
 let z8:Bool:=decide ((List.length c6+1)*32<=140737488355328)
 let z9:Bool:=inR (a19+(1:Int))
 let z10:Nat:=pS a13
 let z11:Nat:=Int.toNat a19
 let z12:aa:= {w0:=0,w1:=0,w2:=0,w3:=0}
 let z13:aa:=aN z10 {w0:=List.getD c3 0 0,w1:=List.getD c3 1 0,w2:=List.getD c3 2 0,w3:=List.getD c3 3 0} (List.getD a1 z11 z12)
 let z14:aa:=List.getD a2 z11 z12
 let z15:List aa:=c6++ [im z10 z13 z14]
 let z16:Bool:=decide ((List.length c6+1)*32<=140737488355328)
 let z17:List aa:=c6++ [z12]
 let z18:Bool:=decide ((List.length c6+1)*32<=140737488355328)
 let z19:List aa:=c6++ [z13]
 let z20:Bool:=decide ((List.length c6+1)*32<=140737488355328)
 let z21:List aa:=c6++ [im z10 z12 z14]
 let z22:Bool:=decide ((List.length c6+1)*32<=140737488355328)
 let z23:Bool:=decide ((List.length c6+1)*32<=140737488355328)
 let z24:Bool:=decide ((List.length c6+1)*32<=140737488355328)
 let z25:Bool:=decide ((List.length c6+1)*32<=140737488355328)
 let z26:Bool:=decide ((List.length c6+1)*32<=140737488355328)
 (.br (z1)
 (.br (z1)
  (gd [z2,z3] (.br (z4)
   (.br (z6)
    (gd [z7] (.br (z4)
     (gd [z8,z9] (.ok (.inl ((a1,(a2,((),((),((),((),(a13,((),(a15,((),(a17,((),(a19+(1:Int),()))))))))))))),((c0_0,(c0_1,(c0_2,(c0_3,(c0_4,(c0_5,(c0_6,(c0_7,(c0_8,(c0_9,(c0_10,(c0_11,(c0_12,(c0_13,(c0_14,(c0_15,(c0_16,(c0_17,(c0_18,(c0_19,(c0_20,()))))))))))))))))))))),(c1,(c2,(c3,((c4_0,(c4_1,(c4_2,(c4_3,(c4_4,(c4_5,(c4_6,(c4_7,(c4_8,()))))))))),((c5_0,(c5_1,(c5_2,(c5_3,(c5_4,(c5_5,(c5_6,(c5_7,(c5_8,()))))))))),(z15,())))))))))))
     (gd [z16,z9] (.ok (.inl ((a1,(a2,((),((),((),((),(a13,((),(a15,((),(a17,((),(a19+(1:Int),()))))))))))))),((c0_0,(c0_1,(c0_2,(c0_3,(c0_4,(c0_5,(c0_6,(c0_7,(c0_8,(c0_9,(c0_10,(c0_11,(c0_12,(c0_13,(c0_14,(c0_15,(c0_16,(c0_17,(c0_18,(c0_19,(c0_20,()))))))))))))))))))))),(c1,(c2,(c3,((c4_0,(c4_1,(c4_2,(c4_3,(c4_4,(c4_5,(c4_6,(c4_7,(c4_8,()))))))))),((c5_0,(c5_1,(c5_2,(c5_3,(c5_4,(c5_5,(c5_6,(c5_7,(c5_8,()))))))))),(z17,())))))))))))))
    (gd [z18,z9] (.ok (.inl ((a1,(a2,((),((),((),((),(a13,((),(a15,((),(a17,((),(a19+(1:Int),()))))))))))))),((c0_0,(c0_1,(c0_2,(c0_3,(c0_4,(c0_5,(c0_6,(c0_7,(c0_8,(c0_9,(c0_10,(c0_11,(c0_12,(c0_13,(c0_14,(c0_15,(c0_16,(c0_17,(c0_18,(c0_19,(c0_20,()))))))))))))))))))))),(c1,(c2,(c3,((c4_0,(c4_1,(c4_2,(c4_3,(c4_4,(c4_5,(c4_6,(c4_7,(c4_8,()))))))))),((c5_0,(c5_1,(c5_2,(c5_3,(c5_4,(c5_5,(c5_6,(c5_7,(c5_8,()))))))))),(z19,()))))))))))))
   (.br (z6)
    (gd [z7] (.br (z4)
     (gd [z20,z9] (.ok (.inl ((a1,(a2,((),((),((),((),(a13,((),(a15,((),(a17,((),(a19+(1:Int),()))))))))))))),((c0_0,(c0_1,(c0_2,(c0_3,(c0_4,(c0_5,(c0_6,(c0_7,(c0_8,(c0_9,(c0_10,(c0_11,(c0_12,(c0_13,(c0_14,(c0_15,(c0_16,(c0_17,(c0_18,(c0_19,(c0_20,()))))))))))))))))))))),(c1,(c2,(c3,((c4_0,(c4_1,(c4_2,(c4_3,(c4_4,(c4_5,(c4_6,(c4_7,(c4_8,()))))))))),((c5_0,(c5_1,(c5_2,(c5_3,(c5_4,(c5_5,(c5_6,(c5_7,(c5_8,()))))))))),(z21,())))))))))))
     (gd [z22,z9] (.ok (.inl ((a1,(a2,((),((),((),((),(a13,((),(a15,((),(a17,((),(a19+(1:Int),()))))))))))))),((c0_0,(c0_1,(c0_2,(c0_3,(c0_4,(c0_5,(c0_6,(c0_7,(c0_8,(c0_9,(c0_10,(c0_11,(c0_12,(c0_13,(c0_14,(c0_15,(c0_16,(c0_17,(c0_18,(c0_19,(c0_20,()))))))))))))))))))))),(c1,(c2,(c3,((c4_0,(c4_1,(c4_2,(c4_3,(c4_4,(c4_5,(c4_6,(c4_7,(c4_8,()))))))))),((c5_0,(c5_1,(c5_2,(c5_3,(c5_4,(c5_5,(c5_6,(c5_7,(c5_8,()))))))))),(z17,())))))))))))))
    (gd [z23,z9] (.ok (.inl ((a1,(a2,((),((),((),((),(a13,((),(a15,((),(a17,((),(a19+(1:Int),()))))))))))))),((c0_0,(c0_1,(c0_2,(c0_3,(c0_4,(c0_5,(c0_6,(c0_7,(c0_8,(c0_9,(c0_10,(c0_11,(c0_12,(c0_13,(c0_14,(c0_15,(c0_16,(c0_17,(c0_18,(c0_19,(c0_20,()))))))))))))))))))))),(c1,(c2,(c3,((c4_0,(c4_1,(c4_2,(c4_3,(c4_4,(c4_5,(c4_6,(c4_7,(c4_8,()))))))))),((c5_0,(c5_1,(c5_2,(c5_3,(c5_4,(c5_5,(c5_6,(c5_7,(c5_8,()))))))))),(z17,()))))))))))))))
  (.br (z6)
   (gd [z7] (.br (z4)
    (gd [z24,z9] (.ok (.inl ((a1,(a2,((),((),((),((),(a13,((),(a15,((),(a17,((),(a19+(1:Int),()))))))))))))),((c0_0,(c0_1,(c0_2,(c0_3,(c0_4,(c0_5,(c0_6,(c0_7,(c0_8,(c0_9,(c0_10,(c0_11,(c0_12,(c0_13,(c0_14,(c0_15,(c0_16,(c0_17,(c0_18,(c0_19,(c0_20,()))))))))))))))))))))),(c1,(c2,(c3,((c4_0,(c4_1,(c4_2,(c4_3,(c4_4,(c4_5,(c4_6,(c4_7,(c4_8,()))))))))),((c5_0,(c5_1,(c5_2,(c5_3,(c5_4,(c5_5,(c5_6,(c5_7,(c5_8,()))))))))),(z21,())))))))))))
    (gd [z25,z9] (.ok (.inl ((a1,(a2,((),((),((),((),(a13,((),(a15,((),(a17,((),(a19+(1:Int),()))))))))))))),((c0_0,(c0_1,(c0_2,(c0_3,(c0_4,(c0_5,(c0_6,(c0_7,(c0_8,(c0_9,(c0_10,(c0_11,(c0_12,(c0_13,(c0_14,(c0_15,(c0_16,(c0_17,(c0_18,(c0_19,(c0_20,()))))))))))))))))))))),(c1,(c2,(c3,((c4_0,(c4_1,(c4_2,(c4_3,(c4_4,(c4_5,(c4_6,(c4_7,(c4_8,()))))))))),((c5_0,(c5_1,(c5_2,(c5_3,(c5_4,(c5_5,(c5_6,(c5_7,(c5_8,()))))))))),(z17,())))))))))))))
   (gd [z26,z9] (.ok (.inl ((a1,(a2,((),((),((),((),(a13,((),(a15,((),(a17,((),(a19+(1:Int),()))))))))))))),((c0_0,(c0_1,(c0_2,(c0_3,(c0_4,(c0_5,(c0_6,(c0_7,(c0_8,(c0_9,(c0_10,(c0_11,(c0_12,(c0_13,(c0_14,(c0_15,(c0_16,(c0_17,(c0_18,(c0_19,(c0_20,()))))))))))))))))))))),(c1,(c2,(c3,((c4_0,(c4_1,(c4_2,(c4_3,(c4_4,(c4_5,(c4_6,(c4_7,(c4_8,()))))))))),((c5_0,(c5_1,(c5_2,(c5_3,(c5_4,(c5_5,(c5_6,(c5_7,(c5_8,()))))))))),(z17,())))))))))))))
 (.br (z6)
  (.br (z1)
   (gd [z2,z3] (.br (z4)
    (.br (z6)
     (gd [z7] (.br (z4)
      (gd [z8,z9] (.ok (.inl ((a1,(a2,((),((),((),((),(a13,((),(a15,((),(a17,((),(a19+(1:Int),()))))))))))))),((c0_0,(c0_1,(c0_2,(c0_3,(c0_4,(c0_5,(c0_6,(c0_7,(c0_8,(c0_9,(c0_10,(c0_11,(c0_12,(c0_13,(c0_14,(c0_15,(c0_16,(c0_17,(c0_18,(c0_19,(c0_20,()))))))))))))))))))))),(c1,(c2,(c3,((c4_0,(c4_1,(c4_2,(c4_3,(c4_4,(c4_5,(c4_6,(c4_7,(c4_8,()))))))))),((c5_0,(c5_1,(c5_2,(c5_3,(c5_4,(c5_5,(c5_6,(c5_7,(c5_8,()))))))))),(z15,())))))))))))
      (gd [z16,z9] (.ok (.inl ((a1,(a2,((),((),((),((),(a13,((),(a15,((),(a17,((),(a19+(1:Int),()))))))))))))),((c0_0,(c0_1,(c0_2,(c0_3,(c0_4,(c0_5,(c0_6,(c0_7,(c0_8,(c0_9,(c0_10,(c0_11,(c0_12,(c0_13,(c0_14,(c0_15,(c0_16,(c0_17,(c0_18,(c0_19,(c0_20,()))))))))))))))))))))),(c1,(c2,(c3,((c4_0,(c4_1,(c4_2,(c4_3,(c4_4,(c4_5,(c4_6,(c4_7,(c4_8,()))))))))),((c5_0,(c5_1,(c5_2,(c5_3,(c5_4,(c5_5,(c5_6,(c5_7,(c5_8,()))))))))),(z17,())))))))))))))
     (gd [z18,z9] (.ok (.inl ((a1,(a2,((),((),((),((),(a13,((),(a15,((),(a17,((),(a19+(1:Int),()))))))))))))),((c0_0,(c0_1,(c0_2,(c0_3,(c0_4,(c0_5,(c0_6,(c0_7,(c0_8,(c0_9,(c0_10,(c0_11,(c0_12,(c0_13,(c0_14,(c0_15,(c0_16,(c0_17,(c0_18,(c0_19,(c0_20,()))))))))))))))))))))),(c1,(c2,(c3,((c4_0,(c4_1,(c4_2,(c4_3,(c4_4,(c4_5,(c4_6,(c4_7,(c4_8,()))))))))),((c5_0,(c5_1,(c5_2,(c5_3,(c5_4,(c5_5,(c5_6,(c5_7,(c5_8,()))))))))),(z19,()))))))))))))
    (.br (z6)
     (gd [z7] (.br (z4)
      (gd [z20,z9] (.ok (.inl ((a1,(a2,((),((),((),((),(a13,((),(a15,((),(a17,((),(a19+(1:Int),()))))))))))))),((c0_0,(c0_1,(c0_2,(c0_3,(c0_4,(c0_5,(c0_6,(c0_7,(c0_8,(c0_9,(c0_10,(c0_11,(c0_12,(c0_13,(c0_14,(c0_15,(c0_16,(c0_17,(c0_18,(c0_19,(c0_20,()))))))))))))))))))))),(c1,(c2,(c3,((c4_0,(c4_1,(c4_2,(c4_3,(c4_4,(c4_5,(c4_6,(c4_7,(c4_8,()))))))))),((c5_0,(c5_1,(c5_2,(c5_3,(c5_4,(c5_5,(c5_6,(c5_7,(c5_8,()))))))))),(z21,())))))))))))
      (gd [z22,z9] (.ok (.inl ((a1,(a2,((),((),((),((),(a13,((),(a15,((),(a17,((),(a19+(1:Int),()))))))))))))),((c0_0,(c0_1,(c0_2,(c0_3,(c0_4,(c0_5,(c0_6,(c0_7,(c0_8,(c0_9,(c0_10,(c0_11,(c0_12,(c0_13,(c0_14,(c0_15,(c0_16,(c0_17,(c0_18,(c0_19,(c0_20,()))))))))))))))))))))),(c1,(c2,(c3,((c4_0,(c4_1,(c4_2,(c4_3,(c4_4,(c4_5,(c4_6,(c4_7,(c4_8,()))))))))),((c5_0,(c5_1,(c5_2,(c5_3,(c5_4,(c5_5,(c5_6,(c5_7,(c5_8,()))))))))),(z17,())))))))))))))
     (gd [z23,z9] (.ok (.inl ((a1,(a2,((),((),((),((),(a13,((),(a15,((),(a17,((),(a19+(1:Int),()))))))))))))),((c0_0,(c0_1,(c0_2,(c0_3,(c0_4,(c0_5,(c0_6,(c0_7,(c0_8,(c0_9,(c0_10,(c0_11,(c0_12,(c0_13,(c0_14,(c0_15,(c0_16,(c0_17,(c0_18,(c0_19,(c0_20,()))))))))))))))))))))),(c1,(c2,(c3,((c4_0,(c4_1,(c4_2,(c4_3,(c4_4,(c4_5,(c4_6,(c4_7,(c4_8,()))))))))),((c5_0,(c5_1,(c5_2,(c5_3,(c5_4,(c5_5,(c5_6,(c5_7,(c5_8,()))))))))),(z17,()))))))))))))))
   (.br (z6)
    (gd [z7] (.br (z4)
     (gd [z24,z9] (.ok (.inl ((a1,(a2,((),((),((),((),(a13,((),(a15,((),(a17,((),(a19+(1:Int),()))))))))))))),((c0_0,(c0_1,(c0_2,(c0_3,(c0_4,(c0_5,(c0_6,(c0_7,(c0_8,(c0_9,(c0_10,(c0_11,(c0_12,(c0_13,(c0_14,(c0_15,(c0_16,(c0_17,(c0_18,(c0_19,(c0_20,()))))))))))))))))))))),(c1,(c2,(c3,((c4_0,(c4_1,(c4_2,(c4_3,(c4_4,(c4_5,(c4_6,(c4_7,(c4_8,()))))))))),((c5_0,(c5_1,(c5_2,(c5_3,(c5_4,(c5_5,(c5_6,(c5_7,(c5_8,()))))))))),(z21,())))))))))))
     (gd [z25,z9] (.ok (.inl ((a1,(a2,((),((),((),((),(a13,((),(a15,((),(a17,((),(a19+(1:Int),()))))))))))))),((c0_0,(c0_1,(c0_2,(c0_3,(c0_4,(c0_5,(c0_6,(c0_7,(c0_8,(c0_9,(c0_10,(c0_11,(c0_12,(c0_13,(c0_14,(c0_15,(c0_16,(c0_17,(c0_18,(c0_19,(c0_20,()))))))))))))))))))))),(c1,(c2,(c3,((c4_0,(c4_1,(c4_2,(c4_3,(c4_4,(c4_5,(c4_6,(c4_7,(c4_8,()))))))))),((c5_0,(c5_1,(c5_2,(c5_3,(c5_4,(c5_5,(c5_6,(c5_7,(c5_8,()))))))))),(z17,())))))))))))))
    (gd [z26,z9] (.ok (.inl ((a1,(a2,((),((),((),((),(a13,((),(a15,((),(a17,((),(a19+(1:Int),()))))))))))))),((c0_0,(c0_1,(c0_2,(c0_3,(c0_4,(c0_5,(c0_6,(c0_7,(c0_8,(c0_9,(c0_10,(c0_11,(c0_12,(c0_13,(c0_14,(c0_15,(c0_16,(c0_17,(c0_18,(c0_19,(c0_20,()))))))))))))))))))))),(c1,(c2,(c3,((c4_0,(c4_1,(c4_2,(c4_3,(c4_4,(c4_5,(c4_6,(c4_7,(c4_8,()))))))))),((c5_0,(c5_1,(c5_2,(c5_3,(c5_4,(c5_5,(c5_6,(c5_7,(c5_8,()))))))))),(z17,())))))))))))))
  (.ok (.inr ⟨(.exit 0,qq),(((),((),((),((),(a13,((),(a15,((),(a17,((),())))))))))),((c0_0,(c0_1,(c0_2,(c0_3,(c0_4,(c0_5,(c0_6,(c0_7,(c0_8,(c0_9,(c0_10,(c0_11,(c0_12,(c0_13,(c0_14,(c0_15,(c0_16,(c0_17,(c0_18,(c0_19,(c0_20,()))))))))))))))))))))),(c1,(c2,(c3,((c4_0,(c4_1,(c4_2,(c4_3,(c4_4,(c4_5,(c4_6,(c4_7,(c4_8,()))))))))),((c5_0,(c5_1,(c5_2,(c5_3,(c5_4,(c5_5,(c5_6,(c5_7,(c5_8,()))))))))),(c6,()))))))))⟩))))
def uA (s:cp):OT (Sum cp aQ):=ajI (s.1.1) (s.1.2.1) (s.1.2.2.2.2.2.2.1) (s.1.2.2.2.2.2.2.2.2.1) (s.1.2.2.2.2.2.2.2.2.2.2.1) (s.1.2.2.2.2.2.2.2.2.2.2.2.2.1) (s.2.1.1) (s.2.1.2.1) (s.2.1.2.2.1) (s.2.1.2.2.2.1) (s.2.1.2.2.2.2.1) (s.2.1.2.2.2.2.2.1) (s.2.1.2.2.2.2.2.2.1) (s.2.1.2.2.2.2.2.2.2.1) (s.2.1.2.2.2.2.2.2.2.2.1) (s.2.1.2.2.2.2.2.2.2.2.2.1) (s.2.1.2.2.2.2.2.2.2.2.2.2.1) (s.2.1.2.2.2.2.2.2.2.2.2.2.2.1) (s.2.1.2.2.2.2.2.2.2.2.2.2.2.2.1) (s.2.1.2.2.2.2.2.2.2.2.2.2.2.2.2.1) (s.2.1.2.2.2.2.2.2.2.2.2.2.2.2.2.2.1) (s.2.1.2.2.2.2.2.2.2.2.2.2.2.2.2.2.2.1) (s.2.1.2.2.2.2.2.2.2.2.2.2.2.2.2.2.2.2.1) (s.2.1.2.2.2.2.2.2.2.2.2.2.2.2.2.2.2.2.2.1) (s.2.1.2.2.2.2.2.2.2.2.2.2.2.2.2.2.2.2.2.2.1) (s.2.1.2.2.2.2.2.2.2.2.2.2.2.2.2.2.2.2.2.2.2.1) (s.2.1.2.2.2.2.2.2.2.2.2.2.2.2.2.2.2.2.2.2.2.2.1) (s.2.2.1) (s.2.2.2.1) (s.2.2.2.2.1) (s.2.2.2.2.2.1.1) (s.2.2.2.2.2.1.2.1) (s.2.2.2.2.2.1.2.2.1) (s.2.2.2.2.2.1.2.2.2.1) (s.2.2.2.2.2.1.2.2.2.2.1) (s.2.2.2.2.2.1.2.2.2.2.2.1) (s.2.2.2.2.2.1.2.2.2.2.2.2.1) (s.2.2.2.2.2.1.2.2.2.2.2.2.2.1) (s.2.2.2.2.2.1.2.2.2.2.2.2.2.2.1) (s.2.2.2.2.2.2.1.1) (s.2.2.2.2.2.2.1.2.1) (s.2.2.2.2.2.2.1.2.2.1) (s.2.2.2.2.2.2.1.2.2.2.1) (s.2.2.2.2.2.2.1.2.2.2.2.1) (s.2.2.2.2.2.2.1.2.2.2.2.2.1) (s.2.2.2.2.2.2.1.2.2.2.2.2.2.1) (s.2.2.2.2.2.2.1.2.2.2.2.2.2.2.1) (s.2.2.2.2.2.2.1.2.2.2.2.2.2.2.2.1) (s.2.2.2.2.2.2.2.1)
theorem ajF (s:cp) (Q:Sum cp aQ->Prop):wps te vc az 1000 (bL (ao Tryz.f8) 0) (uz.inj s) (df uz V2 (Q:Sum uz.T aQ->Prop))=(uA s).wpR Q:=by kernel_rfl
def AD (g0_0:cp->j1) (s:cp):OT aQ:=(.ok ⟨(.exit 0,qq),g0_0 s⟩)
def cq:ax:=⟨[.val false .bool],[],false⟩
def My:SV->Option ax:=λ_=>some cq
def I4 (ok0:cp->Bool) (g0_0:cp->j1) (a0:(Int×(Int×(List ((aa×(aa×Bool)))×((aa×(aa×Bool))×(aa×(aa×Bool))))))) (a1:List (aa)) (a2:List (aa)) (a3:aa) (a4:aa) (a5:aa):OT gB.Y:=
 let z0:(Int×Int×List (aa×aa×Bool)×(aa×aa×Bool)×aa×aa×Bool)×PUnit:=(a0,())
 let z1:Bool:=lB (z0,())
 let z2:Int:=(↑(List.length a0.snd.snd.fst):Int)
 let z3:(aa×aa×Bool)×Int:=E9 a0 a1 a3
 let z4:(aa×aa×Bool)×Int:=E9 a0 a2 a4
 let z5:=z3.fst
 let z6:=z5.fst
 let z7:=z5.snd
 let z8:=z7.fst
 let z9:=z4.fst
 let z10:=z9.fst
 let z11:=z9.snd
 let z12:=z11.fst
 let z13:(List aa×List aa×PUnit×PUnit×PUnit×PUnit×Int×PUnit×Int×PUnit×Int×PUnit×Int×PUnit)×(Int×Int×List (aa×aa×Bool)×UInt64×UInt64×UInt64×UInt64×UInt64×UInt64×UInt64×UInt64×Bool×UInt64×UInt64×UInt64×UInt64×UInt64×UInt64×UInt64×UInt64×Bool×PUnit)×List UInt64×List UInt64×List UInt64×(UInt64×UInt64×UInt64×UInt64×UInt64×UInt64×UInt64×UInt64×Bool×PUnit)×(UInt64×UInt64×UInt64×UInt64×UInt64×UInt64×UInt64×UInt64×Bool×PUnit)×List aa×PUnit:=((a1,a2,(),(),(),(),fQ a0.fst (1:Int),(),z3.snd,(),z4.snd,(),(0:Int),()),(a0.fst,a0.snd.fst,a0.snd.snd.fst,a0.snd.snd.snd.fst.fst.w0,a0.snd.snd.snd.fst.fst.w1,a0.snd.snd.snd.fst.fst.w2,a0.snd.snd.snd.fst.fst.w3,a0.snd.snd.snd.fst.snd.fst.w0,a0.snd.snd.snd.fst.snd.fst.w1,a0.snd.snd.snd.fst.snd.fst.w2,a0.snd.snd.snd.fst.snd.fst.w3,a0.snd.snd.snd.fst.snd.snd,a0.snd.snd.snd.snd.fst.w0,a0.snd.snd.snd.snd.fst.w1,a0.snd.snd.snd.snd.fst.w2,a0.snd.snd.snd.snd.fst.w3,a0.snd.snd.snd.snd.snd.fst.w0,a0.snd.snd.snd.snd.snd.fst.w1,a0.snd.snd.snd.snd.snd.fst.w2,a0.snd.snd.snd.snd.snd.fst.w3,a0.snd.snd.snd.snd.snd.snd,()),[a3.w0,a3.w1,a3.w2,a3.w3],[a4.w0,a4.w1,a4.w2,a4.w3],[a5.w0,a5.w1,a5.w2,a5.w3],(z6.w0,z6.w1,z6.w2,z6.w3,z8.w0,z8.w1,z8.w2,z8.w3,z7.snd,()),(z10.w0,z10.w1,z10.w2,z10.w3,z12.w0,z12.w1,z12.w2,z12.w3,z11.snd,()),[],())
 let z14:(PUnit×PUnit×PUnit×PUnit×Int×PUnit×Int×PUnit×Int×PUnit×PUnit)×(Int×Int×List (aa×aa×Bool)×UInt64×UInt64×UInt64×UInt64×UInt64×UInt64×UInt64×UInt64×Bool×UInt64×UInt64×UInt64×UInt64×UInt64×UInt64×UInt64×UInt64×Bool×PUnit)×List UInt64×List UInt64×List UInt64×(UInt64×UInt64×UInt64×UInt64×UInt64×UInt64×UInt64×UInt64×Bool×PUnit)×(UInt64×UInt64×UInt64×UInt64×UInt64×UInt64×UInt64×UInt64×Bool×PUnit)×List aa×PUnit:=g0_0 z13
 let z15:=z14.snd
 let z16:=z15.fst
 let z17:=z16.fst
 let z18:=z16.snd
 let z19:=z18.snd
 let z20:=z19.snd
 let z21:=z20.snd
 let z22:=z21.snd
 let z23:=z22.snd
 let z24:=z23.snd
 let z25:=z24.snd
 let z26:=z25.snd
 let z27:=z26.snd
 let z28:=z27.snd
 let z29:=z28.snd
 let z30:=z29.snd
 let z31:=z30.snd
 let z32:=z31.snd
 let z33:=z32.snd
 let z34:=z33.snd
 let z35:=z34.snd
 let z36:=z35.snd
 let z37:Int×Int×List (aa×aa×Bool)×(aa×aa×Bool)×aa×aa×Bool:=(z17,z18.fst,z19.fst,({w0:=z20.fst,w1:=z21.fst,w2:=z22.fst,w3:=z23.fst},{w0:=z24.fst,w1:=z25.fst,w2:=z26.fst,w3:=z27.fst},z28.fst),{w0:=z29.fst,w1:=z30.fst,w2:=z31.fst,w3:=z32.fst},{w0:=z33.fst,w1:=z34.fst,w2:=z35.fst,w3:=z36.fst},z36.snd.fst)
 let z38:=z15.snd
 let z39:=z38.snd
 let z40:=z39.snd
 let z41:=z40.fst
 let z42:Bool:=decide (4<=List.length z41)
 let z43:=z38.fst
 let z44:=z14.fst.snd.snd.snd.snd
 let z45:=z44.fst
 let z46:Bool:=ak z45
 let z47:=z39.fst
 let z48:Bool:=decide (4<=List.length z47)
 let z49:=z40.snd
 let z50:=z49.snd
 let z51:=z50.snd.fst
 let z52:Nat:=pS z45
 let z53:aa:= {w0:=List.getD z41 0 0,w1:=List.getD z41 1 0,w2:=List.getD z41 2 0,w3:=List.getD z41 3 0}
 let z54:aa:= {w0:=List.getD z47 0 0,w1:=List.getD z47 1 0,w2:=List.getD z47 2 0,w3:=List.getD z47 3 0}
 let z55:aa:=im z52 (aN z52 z53 {w0:=List.getD z43 0 0,w1:=List.getD z43 1 0,w2:=List.getD z43 2 0,w3:=List.getD z43 3 0}) z54
 let z56:=z44.snd.snd
 let z57:(aa×aa×Bool)×Int:=E9 z37 z51 z55
 let z58:=z57.fst
 let z59:=z58.fst
 let z60:=z49.fst
 let z61:=z60.snd
 let z62:=z61.snd
 let z63:=z62.snd
 let z64:=z63.snd
 let z65:=z64.snd
 let z66:=z65.snd
 let z67:=z66.snd
 let z68:=z50.fst
 let z69:=z68.snd
 let z70:=z69.snd
 let z71:=z70.snd
 let z72:=z71.snd
 let z73:=z72.snd
 let z74:=z73.snd
 let z75:=z74.snd
 let z76:aa×aa×Bool:=ek z17 (nA z17 z53 ({w0:=z60.fst,w1:=z61.fst,w2:=z62.fst,w3:=z63.fst},{w0:=z64.fst,w1:=z65.fst,w2:=z66.fst,w3:=z67.fst},z67.snd.fst)) ({w0:=z68.fst,w1:=z69.fst,w2:=z70.fst,w3:=z71.fst},{w0:=z72.fst,w1:=z73.fst,w2:=z74.fst,w3:=z75.fst},z75.snd.fst)
 let z77:=z76.fst
 let z78:=z77.w0
 let z79:=z77.w1
 let z80:=z77.w2
 let z81:=z77.w3
 let z82:=z58.snd
 let z83:=z82.fst
 let z84:=z76.snd
 let z85:=z84.fst
 let z86:=z85.w0
 let z87:=z85.w1
 let z88:=z85.w2
 let z89:=z85.w3
 let z90:=z84.snd
 let z91:aa:= {w0:=0,w1:=0,w2:=0,w3:=0}
 let z92:Bool:=eO ((z37,z51,z91,()),())
 let z93:(aa×aa×Bool)×Int:=E9 z37 z51 z91
 let z94:=z93.fst
 let z95:=z94.fst
 let z96:=z94.snd
 let z97:=z96.fst
 let z98:Bool:=z95.w0==z78&&(z95.w1==z79&&(z95.w2==z80&&(z95.w3==z81&&true)))&&(z97.w0==z86&&(z97.w1==z87&&(z97.w2==z88&&(z97.w3==z89&&true)))&&(z96.snd==z90&&true))
 let z99:aa:=im z52 z91 z54
 let z100:(aa×aa×Bool)×Int:=E9 z37 z51 z99
 let z101:=z100.fst
 let z102:=z101.fst
 let z103:=z101.snd
 let z104:=z103.fst
 (gd [z1,jh (z0,())] (.br (!gK a0==(0:Int))
 (.ok ⟨cq,((true,()),())⟩)
 (.br (decide (z2<(↑(List.length a1):Int)))
  (.ok ⟨cq,((true,()),())⟩)
  (.br (decide (z2<(↑(List.length a2):Int)))
   (.ok ⟨cq,((true,()),())⟩)
   (gd [z1,jf ((a1,()),()),eO ((a0,a1,a3,()),()),z1,jf ((a2,()),()),eO ((a0,a2,a4,()),()),ok0 z13,lB ((z37,()),()),z42,decide (4<=List.length z43)] (.br (z46)
    (gd [z48] (.br (z46)
     (gd [eO ((z37,z51,z55,()),())] (.br (z56.fst==(0:Int))
      (.br (z56.snd.snd.fst==(0:Int))
       (.br (z57.snd==(0:Int))
        (gd [z42] (.ok ⟨cq,((z59.w0==z78&&(z59.w1==z79&&(z59.w2==z80&&(z59.w3==z81&&true)))&&(z83.w0==z86&&(z83.w1==z87&&(z83.w2==z88&&(z83.w3==z89&&true)))&&(z82.snd==z90&&true)),()),())⟩))
        (.ok ⟨cq,((false,()),())⟩))
       (.ok ⟨cq,((false,()),())⟩))
      (.ok ⟨cq,((false,()),())⟩)))
     (gd [z92] (.br (z56.fst==(0:Int))
      (.br (z56.snd.snd.fst==(0:Int))
       (.br (z93.snd==(0:Int))
        (gd [z42] (.ok ⟨cq,((z98,()),())⟩))
        (.ok ⟨cq,((false,()),())⟩))
       (.ok ⟨cq,((false,()),())⟩))
      (.ok ⟨cq,((false,()),())⟩)))))
    (gd [z48] (.br (z46)
     (gd [eO ((z37,z51,z99,()),())] (.br (z56.fst==(0:Int))
      (.br (z56.snd.snd.fst==(0:Int))
       (.br (z100.snd==(0:Int))
        (gd [z42] (.ok ⟨cq,((z102.w0==z78&&(z102.w1==z79&&(z102.w2==z80&&(z102.w3==z81&&true)))&&(z104.w0==z86&&(z104.w1==z87&&(z104.w2==z88&&(z104.w3==z89&&true)))&&(z103.snd==z90&&true)),()),())⟩))
        (.ok ⟨cq,((false,()),())⟩))
       (.ok ⟨cq,((false,()),())⟩))
      (.ok ⟨cq,((false,()),())⟩)))
     (gd [z92] (.br (z56.fst==(0:Int))
      (.br (z56.snd.snd.fst==(0:Int))
       (.br (z93.snd==(0:Int))
        (gd [z42] (.ok ⟨cq,((z98,()),())⟩))
        (.ok ⟨cq,((false,()),())⟩))
       (.ok ⟨cq,((false,()),())⟩))
      (.ok ⟨cq,((false,()),())⟩)))))))))))
theorem an3 (ok0:cp->Bool) (g0_0:cp->j1) (x:Gy) (Q:gB.Y->Prop):wpf te vc (bn 0 (dC uz 0 ok0 (AD g0_0)) az) 1000 Tryz.f8 (gB.inp.inj x).tm (gB.inp.inj x).hp (fnK gB My Q) (λ_ _=>False)=(I4 ok0 g0_0 (x.1.1) (x.1.2.1) (x.1.2.2.1) (x.1.2.2.2.1) (x.1.2.2.2.2.1) (x.1.2.2.2.2.2.1)).wpR Q:=by kernel_rfl
theorem YQ (ok0:cp->Bool) (g0_0:cp->j1) (h0:∀ s:cp,ok0 s=true->∃ m e,av (uA) m s=some e/\(AD g0_0 s).run=some e) (pre:Gy->Bool) (F:Gy->OT gB.Y) (hF:∀ (x:Gy) oy,pre x=true->(F x).run=some oy->(I4 ok0 g0_0 (x.1.1) (x.1.2.1) (x.1.2.2.1) (x.1.2.2.2.1) (x.1.2.2.2.2.1) (x.1.2.2.2.2.2.1)).run=some oy):ac Tryz.prog 8 (gB.aI pre F):=
 aE au sL zi (f:=8) (fn:=Tryz.f8) (c:=ao Tryz.f8) (by kernel_rfl) (by kernel_rfl) (by kernel_rfl) (S:=gB) (k:=0) (by kernel_rfl) (λR hR=>(aH (c:=(ao Tryz.f8)) (by kernel_rfl) (id:=0) (by kernel_rfl) (bz au sL zi (sh:=uz) hR (xs:=V2) (aJ (by kernel_rfl) (by kernel_rfl) hR) aY ag (n:=1000) (T:=uA) (λs Q=>ajF s Q) (ok:=ok0) (f:=AD g0_0) h0) ag)) (n:=1000) (sel:=My) (λv o h=>by cases h;rfl) (pre:=pre) (F:=F) (T:=λx=>I4 ok0 g0_0 (x.1.1) (x.1.2.1) (x.1.2.2.1) (x.1.2.2.2.1) (x.1.2.2.2.2.1) (x.1.2.2.2.2.2.1)) (λx Q=>an3 ok0 g0_0 x Q) hF
def elL (c:List UInt64):aa:=⟨c.getD 0 0,c.getD 1 0,c.getD 2 0,c.getD 3 0⟩
def Cs (s:cp):Bool:=ak s.1.2.2.2.2.2.2.1&&decide (s.1.2.2.2.2.2.2.2.2.2.2.2.2.1=0/\s.1.1.length<=1000/\s.1.2.1.length<=1000/\s.2.2.2.2.1.length=4/\s.2.2.2.2.2.2.2.1= [])
def I3 (s:cp):j1:=(((),(),(),(),s.1.2.2.2.2.2.2.1,(),s.1.2.2.2.2.2.2.2.2.1,(),s.1.2.2.2.2.2.2.2.2.2.2.1,(),()),
 (s.2.1,s.2.2.1,s.2.2.2.1,s.2.2.2.2.1,s.2.2.2.2.2.1,s.2.2.2.2.2.2.1,aap (pS s.1.2.2.2.2.2.2.1) (elL s.2.2.2.2.1) s.1.1 s.1.2.1 (max s.1.1.length s.1.2.1.length),()))
theorem ajH:∀ s:cp,Cs s=true->∃ m e,av uA m s=some e/\(AD I3 s).run=some e:=by
 rintro ⟨⟨a,b,⟨⟩,⟨⟩,⟨⟩,⟨⟩,t,⟨⟩,e1,⟨⟩,e2,⟨⟩,i,⟨⟩⟩,⟨q,c1,c2,c3,c4,c5,o,⟨⟩⟩⟩ h
 obtain ⟨hs,h'⟩:=(Bool.and_eq_true _ _).mp h
 have h':=of_decide_eq_true h'
 dsimp only at h' hs
 obtain ⟨rfl,ha,hb,h3,rfl⟩:=h'
 have:=(bP (T:=uA) (λk o=>(((a,b,(),(),(),(),t,(),e1,(),e2,(),(k:Int),()),(q,c1,c2,c3,c4,c5,o,())):cp)) (λi o=>o++ [YR (pS t) (elL c3) a b i])
  (λo=>(⟨(.exit 0,qq),(((),(),(),(),t,(),e1,(),e2,(),()),(q,c1,c2,c3,c4,c5,o,()))⟩:aQ)) (max a.length b.length) [] (λk o=>o.length=k) rfl (λk o hk hq=>⟨?_,?_⟩) (λo _=> ?_)).1
 ·obtain ⟨m,hm⟩:=this
  exact ⟨m,_,hm,rfl⟩
 ·have hq:o.length=k:=hq
  have g1:decide ((o.length+1)*32<=140737488355328)=true:=decide_eq_true (by omega)
  have g2:inR ((k:Int)+1)=true:=bF (by omega)
  have g3:decide (4<=c3.length)=true:=decide_eq_true (by omega)
  have hg:∀ z:OT (Sum cp aQ),(gd [decide ((o.length+1)*32<=140737488355328),inR ((k:Int)+1)] z).run=z.run:=λz=>al (by rw [g1,g2];rfl)
  by_cases h1:k<a.length
  ·have i1:inB (k:Int) a.length=true:=bG (by omega)
   have d1:decide ((k:Int)<(a.length:Int))=true:=decide_eq_true (by omega)
   by_cases h2:k<b.length
   ·have i2:inB (k:Int) b.length=true:=bG (by omega)
    have e:YR (pS t) (elL c3) a b k=im (pS t) (aN (pS t) (elL c3) (a.getD k zeE)) (b.getD k zeE):=by unfold YR;rw [decide_eq_true h1,decide_eq_true h2];rfl
    rw [e]
    exact (OT.ap d1).trans ((OT.ap d1).trans ((al (by rw [g3,i1];rfl)).trans ((OT.ap hs).trans ((OT.ap (decide_eq_true (by dsimp only;omega))).trans ((al (by rw [i2];rfl)).trans ((OT.ap hs).trans ((hg _).trans rfl)))))))
   ·have e:YR (pS t) (elL c3) a b k=aN (pS t) (elL c3) (a.getD k zeE):=by unfold YR;rw [decide_eq_true h1,decide_eq_false h2];rfl
    rw [e]
    exact (OT.ap d1).trans ((OT.ap d1).trans ((al (by rw [g3,i1];rfl)).trans ((OT.ap hs).trans ((OT.ay (decide_eq_false (by dsimp only;omega))).trans ((hg _).trans rfl)))))
  ·have d1:decide ((k:Int)<(a.length:Int))=false:=decide_eq_false (by omega)
   have h2:k<b.length:=by omega
   have i2:inB (k:Int) b.length=true:=bG (by omega)
   have d2:decide ((k:Int)<(b.length:Int))=true:=decide_eq_true (by omega)
   have e:YR (pS t) (elL c3) a b k=im (pS t) zeE (b.getD k zeE):=by unfold YR;rw [decide_eq_false h1,decide_eq_true h2];rfl
   rw [e]
   exact (OT.ay d1).trans ((OT.ap d2).trans ((OT.ay d1).trans ((OT.ap d2).trans ((al (by rw [i2];rfl)).trans ((OT.ap hs).trans ((hg _).trans rfl))))))
 ·show (o++ [_]).length=_
  rw [List.length_append,show o.length=k from hq]
  rfl
 ·exact (OT.ay (decide_eq_false (by dsimp only;omega))).trans (OT.ay (decide_eq_false (by dsimp only;omega)))
def oz (x:Gy):Bool:=decide (x.1.1.2.2.1.length*72<=140737488355328)
def ad6 (_:Gy):OT gB.Y:=.ok ⟨cq,((true,()),())⟩
theorem ajG:ac Tryz.prog 8 (gB.aI oz ad6):=YQ Cs I3 ajH _ _ λx oy hp ho=>by
 rw [<-ho]
 clear ho
 obtain ⟨⟨p,a,b,r,s,k,⟨⟩⟩,⟨⟩⟩:=x
 have hp:p.2.2.1.length*72<=140737488355328:=of_decide_eq_true hp
 show (I4 Cs I3 p a b r s k).run=some (⟨cq,((true,()),())⟩:gB.Y)
 have k1:lB ((p,()),())=true:=decide_eq_true hp
 have k2:jh ((p,()),())=true:=decide_eq_true (show p.2.2.1.length<=_ by omega)
 refine (al (by rw [k1,k2];rfl)).trans ?_
 rcases (Bool.eq_false_or_eq_true (gK p==0)).symm with h0|h0
 ·exact (OT.ap (b:= !(gK p==0)) (by rw [h0];rfl)).trans rfl
 ·refine (OT.ay (b:= !(gK p==0)) (by rw [h0];rfl)).trans ?_
  by_cases h1:(p.2.2.1.length:Int)<(a.length:Int)
  ·exact (OT.ap (decide_eq_true h1)).trans rfl
  ·refine (OT.ay (decide_eq_false h1)).trans ?_
   by_cases h2:(p.2.2.1.length:Int)<(b.length:Int)
   ·exact (OT.ap (decide_eq_true h2)).trans rfl
   ·have hG:=Dx h0
    have ha:a.length<=p.2.2.1.length:=by omega
    have hb:b.length<=p.2.2.1.length:=by omega
    have hs:=(Nt h0 a r ha).1
    have ht:=eY hs
    have ca:=Dq h0 a r ha
    have cb:=Dq h0 b s hb
    have cl:=aoL h0 k r s ha hb
    have k3:∀ (l:List aa) (e:aa),eO ((p,l,e,()),())=true:=λl e=>decide_eq_true (show p.2.2.1.length<=_ by omega)
    have k4:jf ((a,()),())=true:=decide_eq_true (show a.length*32<=_ by omega)
    have k5:jf ((b,()),())=true:=decide_eq_true (show b.length*32<=_ by omega)
    refine (OT.ay (decide_eq_false h2)).trans ((al ?_).trans ((OT.ap ht).trans ((al rfl).trans ((OT.ap ht).trans ((al (by simp only [List.all_cons,List.all_nil,Bool.and_true];exact k3 (aap (pS (fQ p.1 1)) k a b (max a.length b.length)) (im (pS (fQ p.1 1)) (aN (pS (fQ p.1 1)) k r) s))).trans
     ((OT.ap (b:=(E9 p a r).2==0) (by rw [ca];rfl)).trans ((OT.ap (b:=(E9 p b s).2==0) (by rw [cb];rfl)).trans ((OT.ap (b:=(E9 p (aap (pS (fQ p.1 1)) k a b (max a.length b.length)) (im (pS (fQ p.1 1)) (aN (pS (fQ p.1 1)) k r) s)).2==0) (by rw [cl];rfl)).trans ((al rfl).trans ?_)))))))))
    ·simp only [List.all_cons,List.all_nil,Bool.and_true,Bool.and_eq_true]
     exact ⟨k1,k4,k3 _ _,k1,k5,k3 _ _,(Bool.and_eq_true _ _).mpr ⟨ht,decide_eq_true ⟨rfl,by show a.length<=_;omega,by show b.length<=_;omega,rfl,rfl⟩⟩,k1,rfl,rfl⟩
    ·exact congrArg (λb:Bool=>some (⟨cq,((b,()),())⟩:gB.Y)) (show ape (E9 p (aap (pS (fQ p.1 1)) k a b (max a.length b.length)) (im (pS (fQ p.1 1)) (aN (pS (fQ p.1 1)) k r) s)).1 (ek p.1 (nA p.1 k (E9 p a r).1) (E9 p b s).1)=true from Jx.2 (by rw [cl]))
def YP:cN:=(gB.aI oz ad6)
theorem QQ:ac Tryz.prog 8 YP:=ajG
end Go.Proofs.YtohjofabochgfaaGreat

namespace Go.Proofs.YtohjofabochgfaaGreat
namespace Sx
open Go Go.RowKit Go.ChangeShapes Go.WideShapes Go.ChangeAt
theorem Fi {H:Type} {P:Program} {n:Nat}:∀ {ts:List TypeId} {ds:List (DataW H)} {i:Nat} {t:TypeId} {d:DataW H},ts[i]? =some t->ds[i]? =some d->n ∈ d.weights P t->n ∈ DataW.weightsEach P ts ds
 | [],_,_,_,_,h,_,_=>by simp at h
 |_::_,[],_,_,_,_,h,_=>by simp at h
 |t::ts,d::ds,0,_,_,h,k,hn=>by
  cases h
  cases k
  simp only [DataW.weightsEach,List.mem_append]
  exact .inl hn
 |t::ts,d::ds,i+1,_,_,h,k,hn=>by
  simp only [DataW.weightsEach,List.mem_append]
  exact .inr (Fi (i:=i) (by simpa using h) (by simpa using k) hn)
def arY (P:Program) (T:TypeId) (i:Nat) (T1:TypeId) (o:Nat):Bool:=match P.underlying T with
 |some (.struct fs)=>match fs.toList[i]? with
  |some f=>Nat.beq f.offset o&&(Nat.beq f.type T1&&Nat.beq (P.cellsOf T1) 1)
  |none=>false
 |_=>false
theorem aqt {H:Type} {enc:TypeId×Value->H} {P:Program} {w:World} {sp:Nat->Bool} {T T1:TypeId} {i o:Nat} (hb:arY P T i T1 o=true)
 {v c:Value} (hv:(v.cells.toList.drop o).take 1=c.cells.toList) {d:DataW H} {ps:List MemPlace} (h:DataW.Trod enc P w 0 sp true T v d ps) (hw:∀ n ∈ d.weights P T,n<=reachBytes):
 ∃ d1 p1,DataW.Trod enc P w 0 sp true T1 c d1 p1/\∀ n ∈ d1.weights P T1,n<=reachBytes:=by
 unfold arY at hb
 split at hb
 ·rename_i fs hu
  split at hb
  ·rename_i f hf
   simp only [Bool.and_eq_true] at hb
   have h0:f.offset=o:=Nat.eq_of_beq_eq_true hb.1
   have h2:f.type=T1:=Nat.eq_of_beq_eq_true hb.2.1
   have h3:P.cellsOf T1=1:=Nat.eq_of_beq_eq_true hb.2.2
   subst h2
   obtain ⟨fuel,hr⟩:=h
   cases fuel with
   |zero=>simp [DataW.trod] at hr
   |succ fuel=>
    simp only [DataW.trod,hu] at hr
    split at hr
    ·simp only [Option.map_eq_some_iff] at hr
     obtain ⟨xs,hm,hd⟩:=hr
     cases hd
     obtain ⟨m1,m2⟩:=sj hm
     obtain ⟨hi,hfi⟩:=List.getElem?_eq_some_iff.1 hf
     have hi':i<xs.length:=by rw [m1];exact hi
     have:=m2 i hi hi'
     rw [hfi,h0,h3,hv] at this
     refine ⟨xs[i].1,xs[i].2,⟨fuel,this⟩,λn hn=>hw n ?_⟩
     simp only [DataW.weights,hu]
     refine Fi (i:=i) (t:=f.type) (d:=xs[i].1) ?_ ?_ hn
     ·rw [List.getElem?_map,hf];rfl
     ·rw [List.getElem?_map,List.getElem?_eq_getElem hi'];rfl
    ·cases hr
  ·cases hb
 ·cases hb
end Sx
end Go.Proofs.YtohjofabochgfaaGreat
