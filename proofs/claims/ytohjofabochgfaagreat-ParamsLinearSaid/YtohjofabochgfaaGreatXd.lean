/- A symbolic machine for Go code over plain data, and functions of the program as it shows them. No statement is proved in this file. -/
import Derived.KernelRfl
import Derived.Test.YtohjofabochgfaaGreatXc
set_option linter.unusedSimpArgs false
set_option linter.unusedVariables false
set_option linter.unusedSectionVars false

namespace Go.Proofs.YtohjofabochgfaaGreat
open Sx Go
set_option maxRecDepth 100000
def iQ:aq:=⟨[.val false .int,.val true .elem,.val true (.prod .elem (.prod .elem .bool))],[],true,0,false⟩
abbrev GY:Type:=((Int)×(aa)×((aa×(aa×Bool)))×Unit)×(Unit)
def uS:Shape:=⟨39,[(4,.ptr 0 0 0),(5,.ptr 1 0 0),(6,.ptr 2 0 0),(7,.val false .int),(8,.ptr 3 0 0),(9,.val false .int)],[(0,.row .u64),(1,.cells [.val false .u64,.val false .u64,.val false .u64,.val false .u64,.val false .u64,.val false .u64,.val false .u64,.val false .u64,.val false .bool]),(2,.cells [.val false .u64,.val false .u64,.val false .u64,.val false .u64,.val false .u64,.val false .u64,.val false .u64,.val false .u64,.val false .bool]),(3,.cells [.val false .u64,.val false .u64,.val false .u64,.val false .u64,.val false .u64,.val false .u64,.val false .u64,.val false .u64,.val false .u64,.val false .u64,.val false .u64,.val false .u64])],0,true⟩
abbrev cB:Type:=((Unit)×(Unit)×(Unit)×(Int)×(Unit)×(Int)×Unit)×((List (UInt64))×((UInt64)×(UInt64)×(UInt64)×(UInt64)×(UInt64)×(UInt64)×(UInt64)×(UInt64)×(Bool)×Unit)×((UInt64)×(UInt64)×(UInt64)×(UInt64)×(UInt64)×(UInt64)×(UInt64)×(UInt64)×(Bool)×Unit)×((UInt64)×(UInt64)×(UInt64)×(UInt64)×(UInt64)×(UInt64)×(UInt64)×(UInt64)×(UInt64)×(UInt64)×(UInt64)×(UInt64)×Unit)×Unit)
def qD:Shape:=⟨39,[(6,.ptr 0 0 0),(7,.val false .int),(8,.ptr 1 0 0)],[(0,.cells [.val false .u64,.val false .u64,.val false .u64,.val false .u64,.val false .u64,.val false .u64,.val false .u64,.val false .u64,.val false .bool]),(1,.cells [.val false .u64,.val false .u64,.val false .u64,.val false .u64,.val false .u64,.val false .u64,.val false .u64,.val false .u64,.val false .u64,.val false .u64,.val false .u64,.val false .u64])],0,true⟩
abbrev ka:Type:=((Unit)×(Int)×(Unit)×Unit)×(((UInt64)×(UInt64)×(UInt64)×(UInt64)×(UInt64)×(UInt64)×(UInt64)×(UInt64)×(Bool)×Unit)×((UInt64)×(UInt64)×(UInt64)×(UInt64)×(UInt64)×(UInt64)×(UInt64)×(UInt64)×(UInt64)×(UInt64)×(UInt64)×(UInt64)×Unit)×Unit)
def WN:SE->Option Shape:=kn [(0,qD)] none
def aki (a7:Int) (a9:Int) (c0:List (UInt64)) (c1_0:UInt64) (c1_1:UInt64) (c1_2:UInt64) (c1_3:UInt64) (c1_4:UInt64) (c1_5:UInt64) (c1_6:UInt64) (c1_7:UInt64) (c1_8:Bool) (c2_0:UInt64) (c2_1:UInt64) (c2_2:UInt64) (c2_3:UInt64) (c2_4:UInt64) (c2_5:UInt64) (c2_6:UInt64) (c2_7:UInt64) (c2_8:Bool) (c3_0:UInt64) (c3_1:UInt64) (c3_2:UInt64) (c3_3:UInt64) (c3_4:UInt64) (c3_5:UInt64) (c3_6:UInt64) (c3_7:UInt64) (c3_8:UInt64) (c3_9:UInt64) (c3_10:UInt64) (c3_11:UInt64):OT (Sum cB aQ):=
 let z0:aa×aa×aa:=({w0:=c3_0,w1:=c3_1,w2:=c3_2,w3:=c3_3},{w0:=c3_4,w1:=c3_5,w2:=c3_6,w3:=c3_7},{w0:=c3_8,w1:=c3_9,w2:=c3_10,w3:=c3_11})
 let z1:Nat:=pS a7
 let z2:aa×aa×aa:=Rq z1 z0
 let z3:aa×aa×aa:=eH ({w0:=c1_0,w1:=c1_1,w2:=c1_2,w3:=c1_3},{w0:=c1_4,w1:=c1_5,w2:=c1_6,w3:=c1_7},c1_8)
 let z4:Bool:=inR (a9-(1:Int))
 let z5:aa×aa×aa:=N9 z1 z2 z3
 let z6:=z5.fst
 let z7:=z5.snd
 let z8:=z7.fst
 let z9:=z7.snd
 let z10:=z2.fst
 let z11:=z2.snd
 let z12:=z11.fst
 let z13:=z11.snd
 (.br (decide ((0:Int)<=a9))
 (gd [m4 ((a7,z0,()),()),decide (4<=List.length c0)] (.br (ny {w0:=List.getD c0 0 0,w1:=List.getD c0 1 0,w2:=List.getD c0 2 0,w3:=List.getD c0 3 0} a9)
  (gd [uV ((a7,z2,z3,()),()),z4] (.ok (.inl (((),((),((),(a7,((),(a9-(1:Int),())))))),(c0,((c1_0,(c1_1,(c1_2,(c1_3,(c1_4,(c1_5,(c1_6,(c1_7,(c1_8,()))))))))),((c2_0,(c2_1,(c2_2,(c2_3,(c2_4,(c2_5,(c2_6,(c2_7,(c2_8,()))))))))),((z6.w0,(z6.w1,(z6.w2,(z6.w3,(z8.w0,(z8.w1,(z8.w2,(z8.w3,(z9.w0,(z9.w1,(z9.w2,(z9.w3,())))))))))))),()))))))))
  (gd [z4] (.ok (.inl (((),((),((),(a7,((),(a9-(1:Int),())))))),(c0,((c1_0,(c1_1,(c1_2,(c1_3,(c1_4,(c1_5,(c1_6,(c1_7,(c1_8,()))))))))),((c2_0,(c2_1,(c2_2,(c2_3,(c2_4,(c2_5,(c2_6,(c2_7,(c2_8,()))))))))),((z10.w0,(z10.w1,(z10.w2,(z10.w3,(z12.w0,(z12.w1,(z12.w2,(z12.w3,(z13.w0,(z13.w1,(z13.w2,(z13.w3,())))))))))))),()))))))))))
 (.ok (.inr ⟨(.exit 0,qD),(((),(a7,((),()))),((c2_0,(c2_1,(c2_2,(c2_3,(c2_4,(c2_5,(c2_6,(c2_7,(c2_8,()))))))))),((c3_0,(c3_1,(c3_2,(c3_3,(c3_4,(c3_5,(c3_6,(c3_7,(c3_8,(c3_9,(c3_10,(c3_11,())))))))))))),())))⟩)))
def uT (s:cB):OT (Sum cB aQ):=aki (s.1.2.2.2.1) (s.1.2.2.2.2.2.1) (s.2.1) (s.2.2.1.1) (s.2.2.1.2.1) (s.2.2.1.2.2.1) (s.2.2.1.2.2.2.1) (s.2.2.1.2.2.2.2.1) (s.2.2.1.2.2.2.2.2.1) (s.2.2.1.2.2.2.2.2.2.1) (s.2.2.1.2.2.2.2.2.2.2.1) (s.2.2.1.2.2.2.2.2.2.2.2.1) (s.2.2.2.1.1) (s.2.2.2.1.2.1) (s.2.2.2.1.2.2.1) (s.2.2.2.1.2.2.2.1) (s.2.2.2.1.2.2.2.2.1) (s.2.2.2.1.2.2.2.2.2.1) (s.2.2.2.1.2.2.2.2.2.2.1) (s.2.2.2.1.2.2.2.2.2.2.2.1) (s.2.2.2.1.2.2.2.2.2.2.2.2.1) (s.2.2.2.2.1.1) (s.2.2.2.2.1.2.1) (s.2.2.2.2.1.2.2.1) (s.2.2.2.2.1.2.2.2.1) (s.2.2.2.2.1.2.2.2.2.1) (s.2.2.2.2.1.2.2.2.2.2.1) (s.2.2.2.2.1.2.2.2.2.2.2.1) (s.2.2.2.2.1.2.2.2.2.2.2.2.1) (s.2.2.2.2.1.2.2.2.2.2.2.2.2.1) (s.2.2.2.2.1.2.2.2.2.2.2.2.2.2.1) (s.2.2.2.2.1.2.2.2.2.2.2.2.2.2.2.1) (s.2.2.2.2.1.2.2.2.2.2.2.2.2.2.2.2.1)
theorem akf (s:cB) (Q:Sum cB aQ->Prop):wps te Hw az 1000 (bL (ao Tryz.f45) 0) (uS.inj s) (df uS WN (Q:Sum uS.T aQ->Prop))=(uT s).wpR Q:=by kernel_rfl
def AJ (g0_0:cB->ka) (s:cB):OT aQ:=(.ok ⟨(.exit 0,qD),g0_0 s⟩)
def qC:ax:=⟨[.val true (.prod .elem (.prod .elem .bool))],[],false⟩
def Nw:SV->Option ax:=λ_=>some qC
def Rv (ok0:cB->Bool) (g0_0:cB->ka) (a0:Int) (a1:aa) (a2:(aa×(aa×Bool))):OT iQ.Y:=
 let z0:aa:= {w0:=0,w1:=0,w2:=0,w3:=0}
 let z1:Int:=fQ a0 (1:Int)
 let z2:PUnit×PUnit×PUnit×Int×PUnit×Int×PUnit:=((),(),(),a0,(),(255:Int),())
 let z3:aa:=im (pS z1) a1 z0
 let z4:(UInt64×UInt64×UInt64×UInt64×UInt64×UInt64×UInt64×UInt64×Bool×PUnit)×(UInt64×UInt64×UInt64×UInt64×UInt64×UInt64×UInt64×UInt64×Bool×PUnit)×(UInt64×UInt64×UInt64×UInt64×UInt64×UInt64×UInt64×UInt64×UInt64×UInt64×UInt64×UInt64×PUnit)×PUnit:=((a2.fst.w0,a2.fst.w1,a2.fst.w2,a2.fst.w3,a2.snd.fst.w0,a2.snd.fst.w1,a2.snd.fst.w2,a2.snd.fst.w3,a2.snd.snd,()),((0:UInt64),(0:UInt64),(0:UInt64),(0:UInt64),(0:UInt64),(0:UInt64),(0:UInt64),(0:UInt64),false,()),((0:UInt64),(0:UInt64),(0:UInt64),(0:UInt64),(0:UInt64),(0:UInt64),(0:UInt64),(0:UInt64),(0:UInt64),(0:UInt64),(0:UInt64),(0:UInt64),()),())
 let z5:(PUnit×PUnit×PUnit×Int×PUnit×Int×PUnit)×List UInt64×(UInt64×UInt64×UInt64×UInt64×UInt64×UInt64×UInt64×UInt64×Bool×PUnit)×(UInt64×UInt64×UInt64×UInt64×UInt64×UInt64×UInt64×UInt64×Bool×PUnit)×(UInt64×UInt64×UInt64×UInt64×UInt64×UInt64×UInt64×UInt64×UInt64×UInt64×UInt64×UInt64×PUnit)×PUnit:=(z2,[z3.w0,z3.w1,z3.w2,z3.w3],z4)
 let z6:(PUnit×Int×PUnit×PUnit)×(UInt64×UInt64×UInt64×UInt64×UInt64×UInt64×UInt64×UInt64×Bool×PUnit)×(UInt64×UInt64×UInt64×UInt64×UInt64×UInt64×UInt64×UInt64×UInt64×UInt64×UInt64×UInt64×PUnit)×PUnit:=g0_0 z5
 let z7:=z6.fst.snd.fst
 let z8:=z6.snd.snd.fst
 let z9:=z8.snd
 let z10:=z9.snd
 let z11:=z10.snd
 let z12:=z11.snd
 let z13:=z12.snd
 let z14:=z13.snd
 let z15:=z14.snd
 let z16:=z15.snd
 let z17:=z16.snd
 let z18:=z17.snd
 let z19:aa×aa×aa:=({w0:=z8.fst,w1:=z9.fst,w2:=z10.fst,w3:=z11.fst},{w0:=z12.fst,w1:=z13.fst,w2:=z14.fst,w3:=z15.fst},{w0:=z16.fst,w1:=z17.fst,w2:=z18.fst,w3:=z18.snd.fst})
 let z20:(PUnit×PUnit×PUnit×Int×PUnit×Int×PUnit)×List UInt64×(UInt64×UInt64×UInt64×UInt64×UInt64×UInt64×UInt64×UInt64×Bool×PUnit)×(UInt64×UInt64×UInt64×UInt64×UInt64×UInt64×UInt64×UInt64×Bool×PUnit)×(UInt64×UInt64×UInt64×UInt64×UInt64×UInt64×UInt64×UInt64×UInt64×UInt64×UInt64×UInt64×PUnit)×PUnit:=(z2,[(0:UInt64),(0:UInt64),(0:UInt64),(0:UInt64)],z4)
 let z21:(PUnit×Int×PUnit×PUnit)×(UInt64×UInt64×UInt64×UInt64×UInt64×UInt64×UInt64×UInt64×Bool×PUnit)×(UInt64×UInt64×UInt64×UInt64×UInt64×UInt64×UInt64×UInt64×UInt64×UInt64×UInt64×UInt64×PUnit)×PUnit:=g0_0 z20
 let z22:=z21.fst.snd.fst
 let z23:=z21.snd.snd.fst
 let z24:=z23.snd
 let z25:=z24.snd
 let z26:=z25.snd
 let z27:=z26.snd
 let z28:=z27.snd
 let z29:=z28.snd
 let z30:=z29.snd
 let z31:=z30.snd
 let z32:=z31.snd
 let z33:=z32.snd
 let z34:aa×aa×aa:=({w0:=z23.fst,w1:=z24.fst,w2:=z25.fst,w3:=z26.fst},{w0:=z27.fst,w1:=z28.fst,w2:=z29.fst,w3:=z30.fst},{w0:=z31.fst,w1:=z32.fst,w2:=z33.fst,w3:=z33.snd.fst})
 (.br (!onB a0 a2)
 (.ok ⟨qC,(((z0,z0,true),()),())⟩)
 (.br (ak z1)
  (gd [ok0 z5,j9 ((z7,z19,()),())] (.ok ⟨qC,((eQ (pS z7) z19,()),())⟩))
  (gd [ok0 z20,j9 ((z22,z34,()),())] (.ok ⟨qC,((eQ (pS z22) z34,()),())⟩))))
theorem aoM (ok0:cB->Bool) (g0_0:cB->ka) (x:GY) (Q:iQ.Y->Prop):wpf te Hw (bn 0 (dC uS 0 ok0 (AJ g0_0)) az) 1000 Tryz.f45 (iQ.inp.inj x).tm (iQ.inp.inj x).hp (fnK iQ Nw Q) (λ_ _=>False)=(Rv ok0 g0_0 (x.1.1) (x.1.2.1) (x.1.2.2.1)).wpR Q:=by kernel_rfl
theorem ZL (ok0:cB->Bool) (g0_0:cB->ka) (h0:∀ s:cB,ok0 s=true->∃ m e,av (uT) m s=some e/\(AJ g0_0 s).run=some e) (pre:GY->Bool) (F:GY->OT iQ.Y) (hF:∀ (x:GY) oy,pre x=true->(F x).run=some oy->(Rv ok0 g0_0 (x.1.1) (x.1.2.1) (x.1.2.2.1)).run=some oy):ac Tryz.prog 45 (iQ.aI pre F):=
 aE au vP Hv (f:=45) (fn:=Tryz.f45) (c:=ao Tryz.f45) (by kernel_rfl) (by kernel_rfl) (by kernel_rfl) (S:=iQ) (k:=0) (by kernel_rfl) (λR hR=>(aH (c:=(ao Tryz.f45)) (by kernel_rfl) (id:=0) (by kernel_rfl) (bz au vP Hv (sh:=uS) hR (xs:=WN) (aJ (by kernel_rfl) (by kernel_rfl) hR) aY ag (n:=1000) (T:=uT) (λs Q=>akf s Q) (ok:=ok0) (f:=AJ g0_0) h0) ag)) (n:=1000) (sel:=Nw) (λv o h=>by cases h;rfl) (pre:=pre) (F:=F) (T:=λx=>Rv ok0 g0_0 (x.1.1) (x.1.2.1) (x.1.2.2.1)) (λx Q=>aoM ok0 g0_0 x Q) hF
abbrev C9:Type:=UInt64×UInt64×UInt64×UInt64×UInt64×UInt64×UInt64×UInt64×Bool×Unit
abbrev C12:Type:=UInt64×UInt64×UInt64×UInt64×UInt64×UInt64×UInt64×UInt64×UInt64×UInt64×UInt64×UInt64×Unit
def k9 (t:C9):Pt:=(⟨t.1,t.2.1,t.2.2.1,t.2.2.2.1⟩,⟨t.2.2.2.2.1,t.2.2.2.2.2.1,t.2.2.2.2.2.2.1,t.2.2.2.2.2.2.2.1⟩,t.2.2.2.2.2.2.2.2.1)
def aqI (t:C12):AP:=(⟨t.1,t.2.1,t.2.2.1,t.2.2.2.1⟩,⟨t.2.2.2.2.1,t.2.2.2.2.2.1,t.2.2.2.2.2.2.1,t.2.2.2.2.2.2.2.1⟩,⟨t.2.2.2.2.2.2.2.2.1,t.2.2.2.2.2.2.2.2.2.1,t.2.2.2.2.2.2.2.2.2.2.1,t.2.2.2.2.2.2.2.2.2.2.2.1⟩)
def aon (w:AP):C12:=(w.1.w0,w.1.w1,w.1.w2,w.1.w3,w.2.1.w0,w.2.1.w1,w.2.1.w2,w.2.1.w3,w.2.2.w0,w.2.2.w1,w.2.2.w2,w.2.2.w3,())
def gY (p:Nat) (k:aa) (P:AP) (n:Nat) (w:AP):AP:=cond (ny k (255-(n:Int))) (N9 p (Rq p w) P) (Rq p w)
def Dt (s:cB):Bool:=ak s.1.2.2.2.1&&decide (s.1.2.2.2.2.2.1=255/\s.2.1.length=4)
def WO (s:cB):ka:=(((),s.1.2.2.2.1,(),()),(s.2.2.2.1,aon (upto (gY (pS s.1.2.2.2.1) (elemOf s.2.1) (eH (k9 s.2.2.1))) (aqI s.2.2.2.2.1) 256),()))
theorem akh:∀ s:cB,Dt s=true->∃ m e,av uT m s=some e/\(AJ WO s).run=some e:=by
 rintro ⟨⟨⟨⟩,⟨⟩,⟨⟩,c,⟨⟩,i,⟨⟩⟩,⟨l,⟨p0,p1,p2,p3,p4,p5,p6,p7,p8,⟨⟩⟩,⟨q0,q1,q2,q3,q4,q5,q6,q7,q8,⟨⟩⟩,⟨w0,w1,w2,w3,w4,w5,w6,w7,w8,w9,w10,w11,⟨⟩⟩,⟨⟩⟩⟩ h
 simp only [Dt,Bool.and_eq_true,decide_eq_true_eq] at h
 obtain ⟨hs,rfl,hl⟩:=h
 obtain ⟨k,rfl⟩:∃ a,l=lst a:=⟨elemOf l,(bh hl).symm⟩
 have:=(bP (T:=uT) (λn w=>((((),(),(),c,(),255-(n:Int),()),(lst k,(p0,p1,p2,p3,p4,p5,p6,p7,p8,()),(q0,q1,q2,q3,q4,q5,q6,q7,q8,()),aon w,())):cB)) (gY (pS c) k (eH (k9 (p0,p1,p2,p3,p4,p5,p6,p7,p8,()))))
  (λw=>(⟨(.exit 0,qD),(((),c,(),()),((q0,q1,q2,q3,q4,q5,q6,q7,q8,()),aon w,()))⟩:aQ)) 256 (aqI (w0,w1,w2,w3,w4,w5,w6,w7,w8,w9,w10,w11,())) (λ_ _=>True) trivial (λn w hn _=>⟨?_,trivial⟩) (λw _=> ?_)).1
 ·obtain ⟨m,hm⟩:=this
  exact ⟨m,_,hm,rfl⟩
 ·have e2:(255:Int)-(n:Int)-1=255-((n+1:Nat):Int):=by omega
  refine (OT.ap (decide_eq_true (by dsimp only;omega))).trans ((al ?_).trans ?_)
  ·simp only [List.all_cons,List.all_nil,Bool.and_true,Bool.and_eq_true]
   exact ⟨hs,rfl⟩
  ·rcases (Bool.eq_false_or_eq_true (ny k (255-(n:Int)))).symm with hb|hb
   ·have e:gY (pS c) k (eH (k9 (p0,p1,p2,p3,p4,p5,p6,p7,p8,()))) n w=Rq (pS c) w:=by unfold gY;rw [hb];rfl
    rw [e,<-e2]
    refine (OT.ay hb).trans ((al ?_).trans rfl)
    simp only [List.all_cons,List.all_nil,Bool.and_true]
    exact bF (by omega)
   ·have e:gY (pS c) k (eH (k9 (p0,p1,p2,p3,p4,p5,p6,p7,p8,()))) n w=N9 (pS c) (Rq (pS c) w) (eH (k9 (p0,p1,p2,p3,p4,p5,p6,p7,p8,()))):=by unfold gY;rw [hb];rfl
    rw [e,<-e2]
    refine (OT.ap hb).trans ((al ?_).trans rfl)
    simp only [List.all_cons,List.all_nil,Bool.and_true,Bool.and_eq_true]
    exact ⟨hs,bF (by omega)⟩
 ·exact OT.ay (decide_eq_false (by dsimp only;omega))
def aaB:AP:=(⟨0,0,0,0⟩,⟨0,0,0,0⟩,⟨0,0,0,0⟩)
def arU (p:Nat) (k:aa) (P:AP):AP:=upto (gY p k P) aaB 256
def zY (c:Int) (k:aa):aa:=im (pS (fQ c 1)) k ⟨0,0,0,0⟩
def nA (c:Int) (k:aa) (P:Pt):Pt:=cond (onB c P) (eQ (pS c) (arU (pS c) (zY c k) (eH P))) aC
theorem eY {c:Int} (h:ak c=true):ak (fQ c 1)=true:=by
 rcases cu h with rfl|rfl|rfl|rfl<;>decide+kernel
def Nx (_:GY):Bool:=true
def afs (x:GY):OT iQ.Y:=.ok ⟨qC,((nA x.1.1 x.1.2.1 x.1.2.2.1,()),())⟩
theorem akg:ac Tryz.prog 45 (iQ.aI Nx afs):=ZL Dt WO akh _ _ λx oy _ ho=>by
 rw [<-ho]
 clear ho
 obtain ⟨⟨c,k,P,⟨⟩⟩,⟨⟩⟩:=x
 show _=(OT.ok ⟨qC,((nA c k P,()),())⟩:OT iQ.Y).run
 rcases (Bool.eq_false_or_eq_true (onB c P)).symm with h1|h1
 ·have e:nA c k P=aC:=by unfold nA;rw [h1];rfl
  rw [e]
  exact OT.ap (b:= !onB c P) (by rw [h1];rfl)
 ·have hs:=qe h1
  have e:nA c k P=eQ (pS c) (arU (pS c) (zY c k) (eH P)):=by unfold nA;rw [h1];rfl
  rw [e]
  refine (OT.ay (b:= !onB c P) (by rw [h1];rfl)).trans ((OT.ap (eY hs)).trans ((al ?_).trans ?_))
  ·simp only [List.all_cons,List.all_nil,Bool.and_true,Bool.and_eq_true]
   refine ⟨?_,hs⟩
   refine (Bool.and_eq_true _ _).mpr ⟨hs,?_⟩
   exact decide_eq_true (p:=(255:Int)=255/\(lst (zY c k)).length=4) ⟨rfl,rfl⟩
  ·rfl
def xK:cN:=(iQ.aI Nx afs)
theorem Ru:ac Tryz.prog 45 xK:=akg
theorem Rt:aK xK:=aB
def EG:Env:=aA 45 xK Hw
theorem yF:aW Tryz.prog EG:=ai Ru vP
theorem zP:aw EG:=ae Rt EM
theorem So:bc Tryz.prog te EG:=aO follows au yF zP
def fX:aq:=⟨[.val false .int],[],true,0,false⟩
abbrev yM:Type:=((Int)×Unit)×(Unit)
def iV:ax:=⟨[.val true .elem,.val false .int],[],false⟩
def Lr:SV->Option ax:=λ_=>some iV
def PG (a0:Int):OT fX.Y:=
 (.br (a0==(0:Int))
 (.ok ⟨iV,(({w0:=16513537,w1:=0,w2:=0,w3:=0},((0:Int),())),())⟩)
 (.br (a0==(1:Int))
  (.ok ⟨iV,(({w0:=16521217,w1:=0,w2:=0,w3:=0},((0:Int),())),())⟩)
  (.br (a0==(2:Int))
   (.ok ⟨iV,(({w0:=11037532056220336129,w1:=2469829653914515739,w2:=0,w3:=4611686018427387904},((0:Int),())),())⟩)
   (.br (a0==(3:Int))
    (.ok ⟨iV,(({w0:=10108024940646105089,w1:=2469829653919213789,w2:=0,w3:=4611686018427387904},((0:Int),())),())⟩)
    (.ok ⟨iV,(({w0:=0,w1:=0,w2:=0,w3:=0},((20:Int),())),())⟩)))))
theorem anr (x:yM) (Q:fX.Y->Prop):wpf te EG az 1000 Tryz.f92 (fX.inp.inj x).tm (fX.inp.inj x).hp (fnK fX Lr Q) (λ_ _=>False)=(PG (x.1.1)).wpR Q:=by kernel_rfl
theorem XN (pre:yM->Bool) (F:yM->OT fX.Y) (hF:∀ (x:yM) oy,pre x=true->(F x).run=some oy->(PG (x.1.1)).run=some oy):ac Tryz.prog 92 (fX.aI pre F):=
 aE au yF So (f:=92) (fn:=Tryz.f92) (c:=ao Tryz.f92) (by kernel_rfl) (by kernel_rfl) (by kernel_rfl) (S:=fX) (k:=0) (by kernel_rfl) (λR hR=>ag) (n:=1000) (sel:=Lr) (λv o h=>by cases h;rfl) (pre:=pre) (F:=F) (T:=λx=>PG (x.1.1)) (λx Q=>anr x Q) hF
def Ls (_:yM):Bool:=true
def acX (x:yM):OT fX.Y:=.br (ak x.1.1) (.ok ⟨iV,(((bO x.1.1.toNat).1,((0:Int),())),())⟩) (.ok ⟨iV,((⟨0,0,0,0⟩,((20:Int),())),())⟩)
theorem Vj:ac Tryz.prog 92 (fX.aI Ls acX):=XN _ _ λx oy _ ho=>by
 rw [<-ho]
 clear ho
 obtain ⟨⟨s,⟨⟩⟩,⟨⟩⟩:=x
 cases hs:ak s
 ·obtain ⟨h0,h1,h2,h3⟩:=pB hs
  exact (OT.ay h0).trans ((OT.ay h1).trans ((OT.ay h2).trans ((OT.ay h3).trans (OT.ay (b:=ak s) hs).symm)))
 ·rcases cu hs with h|h|h|h
  all_goals
   have h:s=_:=h
   subst h
   rfl
def wH:cN:=(fX.aI Ls acX)
theorem PF:ac Tryz.prog 92 wH:=Vj
theorem PE:aK wH:=aB
def DZ:Env:=aA 92 wH EG
theorem yi:aW Tryz.prog DZ:=ai PF yF
theorem zr:aw DZ:=ae PE zP
theorem Sa:bc Tryz.prog te DZ:=aO follows au yi zr
def gg:aq:=⟨[.val false .int],[],true,0,false⟩
abbrev yP:Type:=((Int)×Unit)×(Unit)
def mG:ax:=⟨[.val false .int,.val false .int],[],false⟩
def LJ:SV->Option ax:=λ_=>some mG
def P0 (a0:Int):OT gg.Y:=
 (.br (decide (a0<(0:Int)))
 (.ok ⟨mG,(((0:Int),((20:Int),())),())⟩)
 (.br (decide ((3:Int)<a0))
  (.ok ⟨mG,(((0:Int),((20:Int),())),())⟩)
  (gd [inB a0 4,decide (Int.toNat a0+0<4)] (.ok ⟨mG,((List.getD [(9:Int),(11:Int),(32:Int),(32:Int)] (Int.toNat a0+0) (0:Int),((0:Int),())),())⟩))))
theorem anx (x:yP) (Q:gg.Y->Prop):wpf te DZ az 1000 Tryz.f131 (gg.inp.inj x).tm (gg.inp.inj x).hp (fnK gg LJ Q) (λ_ _=>False)=(P0 (x.1.1)).wpR Q:=by kernel_rfl
theorem X6 (pre:yP->Bool) (F:yP->OT gg.Y) (hF:∀ (x:yP) oy,pre x=true->(F x).run=some oy->(P0 (x.1.1)).run=some oy):ac Tryz.prog 131 (gg.aI pre F):=
 aE au yi Sa (f:=131) (fn:=Tryz.f131) (c:=ao Tryz.f131) (by kernel_rfl) (by kernel_rfl) (by kernel_rfl) (S:=gg) (k:=0) (by kernel_rfl) (λR hR=>ag) (n:=1000) (sel:=LJ) (λv o h=>by cases h;rfl) (pre:=pre) (F:=F) (T:=λx=>P0 (x.1.1)) (λx Q=>anx x Q) hF
def LK (_:yP):Bool:=true
def adb (x:yP):OT gg.Y:=.br (ak x.1.1) (.ok ⟨mG,(((bO x.1.1.toNat).2.1,((0:Int),())),())⟩) (.ok ⟨mG,(((0:Int),((20:Int),())),())⟩)
theorem Vs:ac Tryz.prog 131 (gg.aI LK adb):=X6 _ _ λx oy _ ho=>by
 rw [<-ho]
 clear ho
 obtain ⟨⟨s,⟨⟩⟩,⟨⟩⟩:=x
 rcases (Bool.eq_false_or_eq_true (ak s)).symm with hs|hs
 ·refine Eq.trans ?_ (OT.ay (b:=ak s) hs).symm
  by_cases h0:s<0
  ·exact OT.ap (decide_eq_true h0)
  ·refine (OT.ay (decide_eq_false h0)).trans (OT.ap (decide_eq_true ?_))
   show (3:Int)<s
   simp only [ak,Bool.and_eq_false_iff,decide_eq_false_iff_not] at hs
   omega
 ·rcases cu hs with h|h|h|h
  all_goals
   have h:s=_:=h
   subst h
   rfl
def wS:cN:=(gg.aI LK adb)
theorem PZ:ac Tryz.prog 131 wS:=Vs
theorem PY:aK wS:=aB
def D6:Env:=aA 131 wS DZ
theorem yo:aW Tryz.prog D6:=ai PZ yi
theorem zA:aw D6:=ae PY zr
theorem Se:bc Tryz.prog te D6:=aO follows au yo zA
def iH:aq:=⟨[.val false .int],[],true,0,false⟩
abbrev FJ:Type:=((Int)×Unit)×(Unit)
def tS:ax:=⟨[.val false .u64],[],false⟩
def Lu:SV->Option ax:=λ_=>some tS
def PJ (a0:Int):OT iH.Y:=
 (.br (a0==(0:Int))
 (.ok ⟨tS,(((16513537:UInt64),()),())⟩)
 (.ok ⟨tS,(((16521217:UInt64),()),())⟩))
theorem ans (x:FJ) (Q:iH.Y->Prop):wpf te D6 az 1000 Tryz.f102 (iH.inp.inj x).tm (iH.inp.inj x).hp (fnK iH Lu Q) (λ_ _=>False)=(PJ (x.1.1)).wpR Q:=by kernel_rfl
theorem XS (pre:FJ->Bool) (F:FJ->OT iH.Y) (hF:∀ (x:FJ) oy,pre x=true->(F x).run=some oy->(PJ (x.1.1)).run=some oy):ac Tryz.prog 102 (iH.aI pre F):=
 aE au yo Se (f:=102) (fn:=Tryz.f102) (c:=ao Tryz.f102) (by kernel_rfl) (by kernel_rfl) (by kernel_rfl) (S:=iH) (k:=0) (by kernel_rfl) (λR hR=>ag) (n:=1000) (sel:=Lu) (λv o h=>by cases h;rfl) (pre:=pre) (F:=F) (T:=λx=>PJ (x.1.1)) (λx Q=>ans x Q) hF
def Kt (s:Int):UInt64:=cond (s==0) 16513537 16521217
def Lv (_:FJ):Bool:=true
def acZ (x:FJ):OT iH.Y:=.ok ⟨tS,((Kt x.1.1,()),())⟩
theorem aiS:ac Tryz.prog 102 (iH.aI Lv acZ):=XS _ _ λx oy _ ho=>by
 rw [<-ho]
 clear ho
 obtain ⟨⟨s,⟨⟩⟩,⟨⟩⟩:=x
 show _=(OT.ok ⟨tS,((Kt s,()),())⟩:OT iH.Y).run
 unfold Kt
 rcases (Bool.eq_false_or_eq_true (s==0)).symm with h|h
 ·rw [h];exact OT.ay h
 ·rw [h];exact OT.ap h
def wJ:cN:=(iH.aI Lv acZ)
theorem PI:ac Tryz.prog 102 wJ:=aiS
theorem PH:aK wJ:=aB
def yj:Env:=aA 102 wJ D6
theorem qM:aW Tryz.prog yj:=ai PI yo
theorem zt:aw yj:=ae PH zA
theorem D0:bc Tryz.prog te yj:=aO follows au qM zt
def dF:aq:=⟨[.val true .elem,.val true .elem],[],true,0,false⟩
abbrev pU:Type:=((aa)×(aa)×Unit)×(Unit)
def lx:Shape:=⟨24,[(2,.ptr 0 0 0),(3,.ptr 1 0 0),(5,.val false .int)],[(0,.row .u64),(1,.row .u64)],0,true⟩
abbrev aU:Type:=((Unit)×(Unit)×(Int)×Unit)×((List (UInt64))×(List (UInt64))×Unit)
def iy:Shape:=⟨24,[(4,.val false .bool)],[],0,true⟩
abbrev ga:Type:=((Bool)×Unit)×(Unit)
def kw:Shape:=⟨24,[],[],0,true⟩
abbrev gf:Type:=(Unit)×(Unit)
def FR:SE->Option Shape:=kn [(0,kw)] (some iy)
def X5 (a5:Int) (c0:List (UInt64)) (c1:List (UInt64)):OT (Sum aU aQ):=
 let z0:Bool:=inB a5 4
 let z1:Bool:=decide (Int.toNat a5+0<List.length c0)
 let z2:Bool:=decide (Int.toNat a5+0<List.length c1)
 let z3:UInt64:=List.getD c0 (Int.toNat a5+0) (0:UInt64)
 let z4:UInt64:=List.getD c1 (Int.toNat a5+0) (0:UInt64)
 (.br (decide ((0:Int)<=a5))
 (gd [z0,z1,z0,z2] (.br (!z3==z4)
  (gd [z0,z1,z0,z2] (.ok (.inr ⟨(.ret,iy),((decide (z3<z4),()),())⟩)))
  (gd [inR (a5-(1:Int))] (.ok (.inl (((),((),(a5-(1:Int),()))),(c0,(c1,()))))))))
 (.ok (.inr ⟨(.exit 0,kw),((),())⟩)))
def fb (s:aU):OT (Sum aU aQ):=X5 (s.1.2.2.1) (s.2.1) (s.2.2.1)
theorem X0 (s:aU) (Q:Sum aU aQ->Prop):wps te yj az 1000 (bL (ao Tryz.f99) 0) (lx.inj s) (df lx FR (Q:Sum lx.T aQ->Prop))=(fb s).wpR Q:=by kernel_rfl
def ly (g0_r:aU->ga) (c0_r:aU->Bool) (g0_0:aU->gf) (s:aU):OT aQ:=(.br (c0_r s) (.ok ⟨(.ret,iy),g0_r s⟩) (.ok ⟨(.exit 0,kw),g0_0 s⟩))
def jg:ax:=⟨[.val false .bool],[],false⟩
def BD:SV->Option ax:=λ_=>some jg
def BG (ok0:aU->Bool) (g0_r:aU->ga) (c0_r:aU->Bool) (g0_0:aU->gf) (a0:aa) (a1:aa):OT dF.Y:=
 let z0:(PUnit×PUnit×Int×PUnit)×List UInt64×List UInt64×PUnit:=(((),(),(3:Int),()),[a0.w0,a0.w1,a0.w2,a0.w3],[a1.w0,a1.w1,a1.w2,a1.w3],())
 (gd [ok0 z0] (.br (c0_r z0)
 (.ok ⟨jg,(((g0_r z0).fst.fst,()),())⟩)
 (.ok ⟨jg,((false,()),())⟩)))
theorem ac9 (ok0:aU->Bool) (g0_r:aU->ga) (c0_r:aU->Bool) (g0_0:aU->gf) (x:pU) (Q:dF.Y->Prop):wpf te yj (bn 0 (dC lx 0 ok0 (ly g0_r c0_r g0_0)) az) 1000 Tryz.f99 (dF.inp.inj x).tm (dF.inp.inj x).hp (fnK dF BD Q) (λ_ _=>False)=(BG ok0 g0_r c0_r g0_0 (x.1.1) (x.1.2.1)).wpR Q:=by kernel_rfl
theorem LF (ok0:aU->Bool) (g0_r:aU->ga) (c0_r:aU->Bool) (g0_0:aU->gf) (h0:∀ s:aU,ok0 s=true->∃ m e,av (fb) m s=some e/\(ly g0_r c0_r g0_0 s).run=some e) (pre:pU->Bool) (F:pU->OT dF.Y) (hF:∀ (x:pU) oy,pre x=true->(F x).run=some oy->(BG ok0 g0_r c0_r g0_0 (x.1.1) (x.1.2.1)).run=some oy):ac Tryz.prog 99 (dF.aI pre F):=
 aE au qM D0 (f:=99) (fn:=Tryz.f99) (c:=ao Tryz.f99) (by kernel_rfl) (by kernel_rfl) (by kernel_rfl) (S:=dF) (k:=0) (by kernel_rfl) (λR hR=>(aH (c:=(ao Tryz.f99)) (by kernel_rfl) (id:=0) (by kernel_rfl) (bz au qM D0 (sh:=lx) hR (xs:=FR) (aJ (by kernel_rfl) (by kernel_rfl) hR) aY ag (n:=1000) (T:=fb) (λs Q=>X0 s Q) (ok:=ok0) (f:=ly g0_r c0_r g0_0) h0) ag)) (n:=1000) (sel:=BD) (λv o h=>by cases h;rfl) (pre:=pre) (F:=F) (T:=λx=>BG ok0 g0_r c0_r g0_0 (x.1.1) (x.1.2.1)) (λx Q=>ac9 ok0 g0_r c0_r g0_0 x Q) hF
theorem Gx {x y N M:Nat} (hx:x<18446744073709551616) (hy:y<18446744073709551616) (h:¬N=M):(x+18446744073709551616*N<y+18446744073709551616*M ↔ N<M)/\¬x+18446744073709551616*N=y+18446744073709551616*M:=by
 omega
theorem ad5 {x y N:Nat}:(x+18446744073709551616*N<y+18446744073709551616*N ↔ x<y)/\(¬x=y->¬x+18446744073709551616*N=y+18446744073709551616*N):=by
 omega
theorem JS {n m:Nat} {x y:UInt64} (h:n<m ↔ x.toNat<y.toNat):decide (x<y)=Nat.blt n m:=by
 have h1:Nat.blt n m=true ↔ n<m:=⟨cJ,λh=>Nat.ble_eq_true_of_le h⟩
 rw [Bool.eq_iff_iff,decide_eq_true_iff,h1,h,UInt64.lt_iff_toNat_lt]
theorem Qr {x y:UInt64} (h:¬x=y):¬x.toNat=y.toNat:=λe=>h (UInt64.toNat_inj.1 e)
def db (a b:aa) (i:Int):aU:=(((),(),i,()),(lst a,lst b,()))
theorem qF (a b:aa) (k:Nat) (hk:k<4) (h:(lst a).getD k 0=(lst b).getD k 0):(fb (db a b (k:Int))).run=some (.inl (db a b ((k:Int)-1))):=by
 refine (OT.ap (decide_eq_true (by dsimp only [db];omega))).trans ((al ?_).trans ((OT.ay ?_).trans ((al ?_).trans rfl)))
 ·simp only [db,Int.toNat_natCast,Nat.add_zero,cS,List.all_cons,List.all_nil,Bool.and_true,Bool.and_eq_true]
  exact ⟨bG (by omega),decide_eq_true hk,bG (by omega),decide_eq_true hk⟩
 ·simp only [db,Int.toNat_natCast,Nat.add_zero,h,beq_self_eq_true,Bool.not_true]
 ·simp only [db,List.all_cons,List.all_nil,Bool.and_true]
  exact bF (by omega)
theorem kL (a b:aa) (k:Nat) (hk:k<4) (h:¬(lst a).getD k 0=(lst b).getD k 0):(fb (db a b (k:Int))).run=some (.inr ⟨(.ret,iy),((decide ((lst a).getD k 0<(lst b).getD k 0),()),())⟩):=by
 refine (OT.ap (decide_eq_true (by dsimp only [db];omega))).trans ((al ?_).trans ((OT.ap ?_).trans ((al ?_).trans ?_)))
 ·simp only [db,Int.toNat_natCast,Nat.add_zero,cS,List.all_cons,List.all_nil,Bool.and_true,Bool.and_eq_true]
  exact ⟨bG (by omega),decide_eq_true hk,bG (by omega),decide_eq_true hk⟩
 ·simp only [db,Int.toNat_natCast,Nat.add_zero,beq_eq_false_iff_ne.2 h,Bool.not_false]
 ·simp only [db,Int.toNat_natCast,Nat.add_zero,cS,List.all_cons,List.all_nil,Bool.and_true,Bool.and_eq_true]
  exact ⟨bG (by omega),decide_eq_true hk,bG (by omega),decide_eq_true hk⟩
 ·simp only [db,Int.toNat_natCast,Nat.add_zero]
  rfl
def BF (s:aU):Bool:=decide (s.1.2.2.1=3/\s.2.1.length=4/\s.2.2.1.length=4)
def wP (s:aU):ga:=((Nat.blt (elemOf s.2.1).nat (elemOf s.2.2.1).nat,()),())
def jJ (s:aU):Bool:= !eqE (elemOf s.2.1) (elemOf s.2.2.1)
def wQ (_:aU):gf:=((),())
theorem uZ {a b:aa} (h:¬a=b) {r:Bool} (hr:r=Nat.blt a.nat b.nat) (hm:∃ m,av fb m (db a b 3)=some ⟨(.ret,iy),((r,()),())⟩):
 ∃ m e,av fb m (db a b 3)=some e/\(ly wP jJ wQ (db a b 3)).run=some e:=by
 obtain ⟨m,hm⟩:=hm
 refine ⟨m,_,hm,?_⟩
 have hc:jJ (db a b 3)=true:=by
  show (!eqE a b)=true
  rw [Bool.eq_false_iff.2 λe=>h (k8.1 e)]
  rfl
 subst hr
 exact OT.ap hc
theorem X4:∀ s:aU,BF s=true->∃ m e,av fb m s=some e/\(ly wP jJ wQ s).run=some e:=by
 rintro ⟨⟨⟨⟩,⟨⟩,i,⟨⟩⟩,⟨l1,l2,⟨⟩⟩⟩ h
 have h':=of_decide_eq_true h
 dsimp only at h'
 obtain ⟨rfl,h1,h2⟩:=h'
 obtain ⟨a,rfl⟩:∃ a,l1=lst a:=⟨elemOf l1,(bh h1).symm⟩
 obtain ⟨b,rfl⟩:∃ a,l2=lst a:=⟨elemOf l2,(bh h2).symm⟩
 have ha0:=a.w0.toNat_lt
 have hb0:=b.w0.toNat_lt
 have ha1:=a.w1.toNat_lt
 have hb1:=b.w1.toNat_lt
 have ha2:=a.w2.toNat_lt
 have hb2:=b.w2.toNat_lt
 by_cases h3:a.w3=b.w3
 ·have s3:=qF a b 3 (by omega) h3
  by_cases h2:a.w2=b.w2
  ·have s2:=qF a b 2 (by omega) h2
   by_cases h1:a.w1=b.w1
   ·have s1:=qF a b 1 (by omega) h1
    by_cases h0:a.w0=b.w0
    ·have s0:=qF a b 0 (by omega) h0
     have e:a=b:=by cases a;cases b;simp_all
     have sx:(fb (db a b (((0:Nat):Int)-1))).run=some (.inr ⟨(.exit 0,kw),((),())⟩):=OT.ay (decide_eq_false (by dsimp only [db];omega))
     refine ⟨_,_,aM s3 (aM s2 (aM s1 (aM s0 (aR sx)))),?_⟩
     have hc:jJ (((),(),3,()),(lst a,lst b,()))=false:=by
      show (!eqE a b)=false
      rw [e,Jy]
      rfl
     exact OT.ay hc
    ·refine uZ (λe=>h0 (by rw [e])) (JS ?_) ⟨_,aM s3 (aM s2 (aM s1 (aR (kL a b 0 (by omega) h0))))⟩
     show a.nat<b.nat ↔ a.w0.toNat<b.w0.toNat
     unfold Sx.aa.nat
     rw [h3,h2,h1]
     exact ad5.1
   ·refine uZ (λe=>h1 (by rw [e])) (JS ?_) ⟨_,aM s3 (aM s2 (aR (kL a b 1 (by omega) h1)))⟩
    show a.nat<b.nat ↔ a.w1.toNat<b.w1.toNat
    unfold Sx.aa.nat
    rw [h3,h2]
    have k:=ad5 (x:=a.w1.toNat) (y:=b.w1.toNat) (N:=b.w2.toNat+18446744073709551616*b.w3.toNat)
    exact (Gx ha0 hb0 (k.2 (Qr h1))).1.trans k.1
  ·refine uZ (λe=>h2 (by rw [e])) (JS ?_) ⟨_,aM s3 (aR (kL a b 2 (by omega) h2))⟩
   show a.nat<b.nat ↔ a.w2.toNat<b.w2.toNat
   unfold Sx.aa.nat
   rw [h3]
   have k:=ad5 (x:=a.w2.toNat) (y:=b.w2.toNat) (N:=b.w3.toNat)
   have k1:=Gx ha1 hb1 (k.2 (Qr h2))
   exact (Gx ha0 hb0 k1.2).1.trans (k1.1.trans k.1)
 ·refine uZ (λe=>h3 (by rw [e])) (JS ?_) ⟨_,aR (kL a b 3 (by omega) h3)⟩
  show a.nat<b.nat ↔ a.w3.toNat<b.w3.toNat
  unfold Sx.aa.nat
  have k2:=Gx ha2 hb2 (Qr h3)
  have k1:=Gx ha1 hb1 k2.2
  exact (Gx ha0 hb0 k1.2).1.trans (k1.1.trans k2.1)
def BE (_:pU):Bool:=true
def LG (x:pU):OT dF.Y:=.ok ⟨jg,((Nat.blt x.1.1.nat x.1.2.1.nat,()),())⟩
theorem X3:ac Tryz.prog 99 (dF.aI BE LG):=LF BF wP jJ wQ X4 _ _ λx oy _ ho=>by
 rw [<-ho]
 clear ho
 obtain ⟨⟨a,b,⟨⟩⟩,⟨⟩⟩:=x
 refine (al ?_).trans ?_
 ·simp only [List.all_cons,List.all_nil,Bool.and_true]
  exact decide_eq_true ⟨rfl,rfl,rfl⟩
 ·rcases (Bool.eq_false_or_eq_true (eqE a b)).symm with h|h
  ·have hc:jJ (((),(),3,()),(lst a,lst b,()))=true:=by
    show (!eqE a b)=true
    rw [h]
    rfl
   exact OT.ap hc
  ·have hc:jJ (((),(),3,()),(lst a,lst b,()))=false:=by
    show (!eqE a b)=false
    rw [h]
    rfl
   refine (OT.ay hc).trans ?_
   have e:Nat.blt a.nat b.nat=false:=by
    rw [k8.1 h]
    cases hb:Nat.blt b.nat b.nat
    ·rfl
    ·exact absurd (cJ hb) (Nat.lt_irrefl _)
   show (OT.ok ⟨jg,((false,()),())⟩:OT dF.Y).run=(OT.ok ⟨jg,((Nat.blt a.nat b.nat,()),())⟩:OT dF.Y).run
   rw [e]
def n5:cN:=(dF.aI BE LG)
theorem Ih:ac Tryz.prog 99 n5:=X3
theorem Ig:aK n5:=aB
def mh:Env:=aA 99 n5 yj
theorem kP:aW Tryz.prog mh:=ai Ih qM
theorem rm:aw mh:=ae Ig zt
theorem vn:bc Tryz.prog te mh:=aO follows au kP rm
def eL:aq:=⟨[.val true .elem,.val true .elem],[],true,0,false⟩
abbrev pP:Type:=((aa)×(aa)×Unit)×(Unit)
def lp:Shape:=⟨39,[(2,.ptr 0 0 0),(3,.ptr 1 0 0),(4,.ptr 2 0 0),(5,.ptr 3 0 0),(6,.val false .u64),(7,.val false .int)],[(0,.row .u64),(1,.row .u64),(2,.row .u64),(3,.row .u64)],0,true⟩
abbrev bA:Type:=((Unit)×(Unit)×(Unit)×(Unit)×(UInt64)×(Int)×Unit)×((List (UInt64))×(List (UInt64))×(List (UInt64))×(List (UInt64))×Unit)
def kv:Shape:=⟨39,[(4,.ptr 0 0 0),(5,.ptr 1 0 0)],[(0,.row .u64),(1,.row .u64)],0,true⟩
abbrev fY:Type:=((Unit)×(Unit)×Unit)×((List (UInt64))×(List (UInt64))×Unit)
def FH:SE->Option Shape:=kn [(0,kv)] none
def XR (a6:UInt64) (a7:Int) (c0:List (UInt64)) (c1:List (UInt64)) (c2:List (UInt64)) (c3:List (UInt64)):OT (Sum bA aQ):=
 let z0:Bool:=inB a7 4
 let z1:Bool:=decide (Int.toNat a7+0<List.length c0)
 let z2:Bool:=decide (Int.toNat a7+0<List.length c1)
 let z3:UInt64:=List.getD c0 (Int.toNat a7+0) (0:UInt64)
 let z4:UInt64:=List.getD c1 (Int.toNat a7+0) (0:UInt64)
 let z5:Bool:=inR (a7+(1:Int))
 let z6:UInt64:=z3-z4
 let z7:List UInt64:=List.set c3 (Int.toNat a7+0) (z6-a6)
 (.br (decide (a7<(4:Int)))
 (gd [z0,z1,z0,z2,z0,decide (Int.toNat a7+0<List.length c3),z0,z1,z0,z2] (.br (decide (z3<z4))
  (gd [z5] (.ok (.inl (((),((),((),((),((1:UInt64),(a7+(1:Int),())))))),(c0,(c1,(c2,(z7,()))))))))
  (.br (decide (z6<a6))
   (gd [z5] (.ok (.inl (((),((),((),((),((1:UInt64),(a7+(1:Int),())))))),(c0,(c1,(c2,(z7,()))))))))
   (gd [z5] (.ok (.inl (((),((),((),((),((0:UInt64),(a7+(1:Int),())))))),(c0,(c1,(c2,(z7,())))))))))))
 (.ok (.inr ⟨(.exit 0,kv),(((),((),())),(c2,(c3,())))⟩)))
def lq (s:bA):OT (Sum bA aQ):=XR (s.1.2.2.2.2.1) (s.1.2.2.2.2.2.1) (s.2.1) (s.2.2.1) (s.2.2.2.1) (s.2.2.2.2.1)
theorem XO (s:bA) (Q:Sum bA aQ->Prop):wps te mh az 1000 (bL (ao Tryz.f103) 0) (lp.inj s) (df lp FH (Q:Sum lp.T aQ->Prop))=(lq s).wpR Q:=by kernel_rfl
def pO (g0_0:bA->fY) (s:bA):OT aQ:=(.ok ⟨(.exit 0,kv),g0_0 s⟩)
def wI:ax:=⟨[.val true .elem],[],false⟩
def Bq:SV->Option ax:=λ_=>some wI
def Bt (ok0:bA->Bool) (g0_0:bA->fY) (a0:aa) (a1:aa):OT eL.Y:=
 let z0:(PUnit×PUnit×PUnit×PUnit×UInt64×Int×PUnit)×List UInt64×List UInt64×List UInt64×List UInt64×PUnit:=(((),(),(),(),(0:UInt64),(0:Int),()),[a0.w0,a0.w1,a0.w2,a0.w3],[a1.w0,a1.w1,a1.w2,a1.w3],[(0:UInt64),(0:UInt64),(0:UInt64),(0:UInt64)],[(0:UInt64),(0:UInt64),(0:UInt64),(0:UInt64)],())
 let z1:=(g0_0 z0).snd
 let z2:=z1.snd.fst
 let z3:=z1.fst
 let z4:List UInt64:=lay z3 z2 4 (0:UInt64)
 (gd [ok0 z0,decide (4<=List.length z2),decide ((4/1:Nat)+0<=List.length z3),decide (4<=List.length z4)] (.ok ⟨wI,(({w0:=List.getD z4 0 0,w1:=List.getD z4 1 0,w2:=List.getD z4 2 0,w3:=List.getD z4 3 0},()),())⟩))
theorem acY (ok0:bA->Bool) (g0_0:bA->fY) (x:pP) (Q:eL.Y->Prop):wpf te mh (bn 0 (dC lp 0 ok0 (pO g0_0)) az) 1000 Tryz.f103 (eL.inp.inj x).tm (eL.inp.inj x).hp (fnK eL Bq Q) (λ_ _=>False)=(Bt ok0 g0_0 (x.1.1) (x.1.2.1)).wpR Q:=by kernel_rfl
theorem Lt (ok0:bA->Bool) (g0_0:bA->fY) (h0:∀ s:bA,ok0 s=true->∃ m e,av (lq) m s=some e/\(pO g0_0 s).run=some e) (pre:pP->Bool) (F:pP->OT eL.Y) (hF:∀ (x:pP) oy,pre x=true->(F x).run=some oy->(Bt ok0 g0_0 (x.1.1) (x.1.2.1)).run=some oy):ac Tryz.prog 103 (eL.aI pre F):=
 aE au kP vn (f:=103) (fn:=Tryz.f103) (c:=ao Tryz.f103) (by kernel_rfl) (by kernel_rfl) (by kernel_rfl) (S:=eL) (k:=0) (by kernel_rfl) (λR hR=>(aH (c:=(ao Tryz.f103)) (by kernel_rfl) (id:=0) (by kernel_rfl) (bz au kP vn (sh:=lp) hR (xs:=FH) (aJ (by kernel_rfl) (by kernel_rfl) hR) aY ag (n:=1000) (T:=lq) (λs Q=>XO s Q) (ok:=ok0) (f:=pO g0_0) h0) ag)) (n:=1000) (sel:=Bq) (λv o h=>by cases h;rfl) (pre:=pre) (F:=F) (T:=λx=>Bt ok0 g0_0 (x.1.1) (x.1.2.1)) (λx Q=>acY ok0 g0_0 x Q) hF
theorem YF {x y c:UInt64} (hc:c.toNat<=1):x-y-c=mr x y c:=by
 have hx:=x.toNat_lt
 have hy:=y.toNat_lt
 unfold mr
 rw [<-UInt64.toNat_inj,UInt64.toNat_sub,UInt64.toNat_sub,UInt64.toNat_ofNat']
 omega
theorem ajC {x y c:UInt64} (h:x<y):Kr x y c=1:=by
 have h:=UInt64.lt_iff_toNat_lt.1 h
 rw [<-UInt64.toNat_inj,tr,if_pos (by omega)]
 rfl
theorem ajB {x y c:UInt64} (h:¬x<y) (hc:x-y<c):Kr x y c=1:=by
 have hx:=x.toNat_lt
 have h:¬x.toNat<y.toNat:=λe=>h (UInt64.lt_iff_toNat_lt.2 e)
 have hc:=UInt64.lt_iff_toNat_lt.1 hc
 rw [UInt64.toNat_sub] at hc
 rw [<-UInt64.toNat_inj,tr,if_pos (by omega)]
 rfl
theorem ajA {x y c:UInt64} (h:¬x<y) (hc:¬x-y<c):Kr x y c=0:=by
 have hx:=x.toNat_lt
 have h:¬x.toNat<y.toNat:=λe=>h (UInt64.lt_iff_toNat_lt.2 e)
 have hc:¬(x-y).toNat<c.toNat:=λe=>hc (UInt64.lt_iff_toNat_lt.2 e)
 rw [UInt64.toNat_sub] at hc
 rw [<-UInt64.toNat_inj,tr,if_neg (by omega)]
 rfl
def Bs (s:bA):Bool:=decide (s.1.2.2.2.2.1=0/\s.1.2.2.2.2.2.1=0/\s.2.1.length=4/\s.2.2.1.length=4/\s.2.2.2.2.1= [0,0,0,0])
def FI (s:bA):fY:=(((),(),()),(s.2.2.2.1,(upto (ER s.2.1 s.2.2.1) ([0,0,0,0],0) 4).1,()))
theorem XQ:∀ s:bA,Bs s=true->∃ m e,av lq m s=some e/\(pO FI s).run=some e:=by
 rintro ⟨⟨⟨⟩,⟨⟩,⟨⟩,⟨⟩,c,i,⟨⟩⟩,⟨c0,c1,c2,c3,⟨⟩⟩⟩ h
 have h':=of_decide_eq_true h
 dsimp only at h'
 obtain ⟨rfl,rfl,h0,h1,rfl⟩:=h'
 have:=(bP (T:=lq) (λk s=>((((),(),(),(),s.2,(k:Int),()),(c0,c1,c2,s.1,())):bA)) (ER c0 c1)
  (λs=>(⟨(.exit 0,kv),(((),(),()),(c2,s.1,()))⟩:aQ)) 4 ([0,0,0,0],0) (λ_ s=>s.1.length=4/\s.2.toNat<=1) ⟨rfl,by decide⟩ (λk s hk hs=>⟨?_,?_⟩) (λs hs=> ?_)).1
 ·obtain ⟨m,hm⟩:=this
  exact ⟨m,_,hm,rfl⟩
 ·obtain ⟨o,c⟩:=s
  dsimp only at hs
  refine (OT.ap (decide_eq_true (by dsimp only;omega))).trans ((al ?_).trans ?_)
  ·simp only [Int.toNat_natCast,Nat.add_zero,h0,h1,hs.1,List.all_cons,List.all_nil,Bool.and_true,Bool.and_eq_true]
   exact ⟨bG (by omega),decide_eq_true (by omega),bG (by omega),decide_eq_true (by omega),bG (by omega),decide_eq_true (by omega),bG (by omega),decide_eq_true (by omega),bG (by omega),decide_eq_true (by omega)⟩
  ·have hi:∀ z,(gd [inR ((k:Int)+1)] z:OT (Sum bA aQ)).run=z.run:=λz=>al (by simp only [List.all_cons,List.all_nil,Bool.and_true];exact bF (by omega))
   have hw:=YF (x:=c0.getD k 0) (y:=c1.getD k 0) hs.2
   by_cases hx:c0.getD k 0<c1.getD k 0
   ·have hk1:=ajC (c:=c) hx
    refine (OT.ap (decide_eq_true ?_)).trans ((hi _).trans ?_)
    ·simp only [Int.toNat_natCast,Nat.add_zero];exact hx
    ·simp only [OT.kq,Int.toNat_natCast,Nat.add_zero,ER,hw,hk1]
     rfl
   ·refine (OT.ay (decide_eq_false ?_)).trans ?_
    ·simp only [Int.toNat_natCast,Nat.add_zero];exact hx
    ·by_cases hd:c0.getD k 0-c1.getD k 0<c
     ·have hk2:=ajB hx hd
      refine (OT.ap (decide_eq_true ?_)).trans ((hi _).trans ?_)
      ·simp only [Int.toNat_natCast,Nat.add_zero];exact hd
      ·simp only [OT.kq,Int.toNat_natCast,Nat.add_zero,ER,hw,hk2]
       rfl
     ·have hk3:=ajA hx hd
      refine (OT.ay (decide_eq_false ?_)).trans ((hi _).trans ?_)
      ·simp only [Int.toNat_natCast,Nat.add_zero];exact hd
      ·simp only [OT.kq,Int.toNat_natCast,Nat.add_zero,ER,hw,hk3]
       rfl
 ·exact ⟨by simp only [ER,List.length_set];exact hs.1,wb⟩
 ·exact OT.ay (decide_eq_false (by dsimp only;omega))
def Br (_:pP):Bool:=true
def Bu (x:pP):OT eL.Y:=.ok ⟨wI,(((kT x.1.1 x.1.2.1).1,()),())⟩
theorem XP:ac Tryz.prog 103 (eL.aI Br Bu):=Lt Bs FI XQ _ _ λx oy hp ho=>by
 rw [<-ho]
 clear ho
 obtain ⟨⟨a,b,⟨⟩⟩,⟨⟩⟩:=x
 obtain ⟨_,hw⟩:=Fj a b
 refine (al ?_).trans ?_
 ·simp only [List.all_cons,List.all_nil,Bool.and_true,Bool.and_eq_true]
  exact ⟨rfl,rfl,rfl,rfl⟩
 ·simp only [Bu,hw]
  rfl
def nX:cN:=(eL.aI Br Bu)
theorem Ia:ac Tryz.prog 103 nX:=XP
theorem H9:aK nX:=aB
def mg:Env:=aA 103 nX mh
theorem kO:aW Tryz.prog mg:=ai Ia kP
theorem rl:aw mg:=ae H9 rm
theorem vk:bc Tryz.prog te mg:=aO follows au kO rl
def fW:aq:=⟨[.val true .elem,.val true .elem],[],true,0,false⟩
abbrev wC:Type:=((aa)×(aa)×Unit)×(Unit)
def nU:Shape:=⟨39,[(2,.ptr 0 0 0),(3,.ptr 1 0 0),(4,.ptr 2 0 0),(5,.ptr 3 0 0),(6,.val false .u64),(7,.val false .int)],[(0,.row .u64),(1,.row .u64),(2,.row .u64),(3,.row .u64)],0,true⟩
abbrev bT:Type:=((Unit)×(Unit)×(Unit)×(Unit)×(UInt64)×(Int)×Unit)×((List (UInt64))×(List (UInt64))×(List (UInt64))×(List (UInt64))×Unit)
def mC:Shape:=⟨39,[(4,.ptr 0 0 0),(5,.ptr 1 0 0)],[(0,.row .u64),(1,.row .u64)],0,true⟩
abbrev iu:Type:=((Unit)×(Unit)×Unit)×((List (UInt64))×(List (UInt64))×Unit)
def Lh:SE->Option Shape:=kn [(0,mC)] none
def acN (a6:UInt64) (a7:Int) (c0:List (UInt64)) (c1:List (UInt64)) (c2:List (UInt64)) (c3:List (UInt64)):OT (Sum bT aQ):=
 let z0:Bool:=inB a7 4
 let z1:Bool:=decide (Int.toNat a7+0<List.length c0)
 let z2:UInt64:=List.getD c0 (Int.toNat a7+0) (0:UInt64)
 let z3:UInt64:=z2+List.getD c1 (Int.toNat a7+0) (0:UInt64)
 let z4:Bool:=inR (a7+(1:Int))
 let z5:List UInt64:=List.set c3 (Int.toNat a7+0) (z3+a6)
 (.br (decide (a7<(4:Int)))
 (gd [z0,z1,z0,decide (Int.toNat a7+0<List.length c1),z0,decide (Int.toNat a7+0<List.length c3),z0,z1] (.br (decide (z3<z2))
  (gd [z4] (.ok (.inl (((),((),((),((),((1:UInt64),(a7+(1:Int),())))))),(c0,(c1,(c2,(z5,()))))))))
  (gd [z0,decide (Int.toNat a7+0<List.length z5)] (.br (decide (List.getD z5 (Int.toNat a7+0) (0:UInt64)<z3))
   (gd [z4] (.ok (.inl (((),((),((),((),((1:UInt64),(a7+(1:Int),())))))),(c0,(c1,(c2,(z5,()))))))))
   (gd [z4] (.ok (.inl (((),((),((),((),((0:UInt64),(a7+(1:Int),())))))),(c0,(c1,(c2,(z5,()))))))))))))
 (.ok (.inr ⟨(.exit 0,mC),(((),((),())),(c2,(c3,())))⟩)))
def nV (s:bT):OT (Sum bT aQ):=acN (s.1.2.2.2.2.1) (s.1.2.2.2.2.2.1) (s.2.1) (s.2.2.1) (s.2.2.2.1) (s.2.2.2.2.1)
theorem acK (s:bT) (Q:Sum bT aQ->Prop):wps te mg az 1000 (bL (ao Tryz.f133) 0) (nU.inj s) (df nU Lh (Q:Sum nU.T aQ->Prop))=(nV s).wpR Q:=by kernel_rfl
def tO (g0_0:bT->iu) (s:bT):OT aQ:=(.ok ⟨(.exit 0,mC),g0_0 s⟩)
def Bk:ax:=⟨[.val true .elem],[],false⟩
def FC:SV->Option ax:=λ_=>some Bk
def H3 (ok0:bT->Bool) (g0_0:bT->iu) (a0:aa) (a1:aa):OT fW.Y:=
 let z0:(PUnit×PUnit×PUnit×PUnit×UInt64×Int×PUnit)×List UInt64×List UInt64×List UInt64×List UInt64×PUnit:=(((),(),(),(),(0:UInt64),(0:Int),()),[a0.w0,a0.w1,a0.w2,a0.w3],[a1.w0,a1.w1,a1.w2,a1.w3],[(0:UInt64),(0:UInt64),(0:UInt64),(0:UInt64)],[(0:UInt64),(0:UInt64),(0:UInt64),(0:UInt64)],())
 let z1:=(g0_0 z0).snd
 let z2:=z1.snd.fst
 let z3:=z1.fst
 let z4:List UInt64:=lay z3 z2 4 (0:UInt64)
 (gd [ok0 z0,decide (4<=List.length z2),decide ((4/1:Nat)+0<=List.length z3),decide (4<=List.length z4)] (.ok ⟨Bk,(({w0:=List.getD z4 0 0,w1:=List.getD z4 1 0,w2:=List.getD z4 2 0,w3:=List.getD z4 3 0},()),())⟩))
theorem aiM (ok0:bT->Bool) (g0_0:bT->iu) (x:wC) (Q:fW.Y->Prop):wpf te mg (bn 0 (dC nU 0 ok0 (tO g0_0)) az) 1000 Tryz.f133 (fW.inp.inj x).tm (fW.inp.inj x).hp (fnK fW FC Q) (λ_ _=>False)=(H3 ok0 g0_0 (x.1.1) (x.1.2.1)).wpR Q:=by kernel_rfl
theorem Ps (ok0:bT->Bool) (g0_0:bT->iu) (h0:∀ s:bT,ok0 s=true->∃ m e,av (nV) m s=some e/\(tO g0_0 s).run=some e) (pre:wC->Bool) (F:wC->OT fW.Y) (hF:∀ (x:wC) oy,pre x=true->(F x).run=some oy->(H3 ok0 g0_0 (x.1.1) (x.1.2.1)).run=some oy):ac Tryz.prog 133 (fW.aI pre F):=
 aE au kO vk (f:=133) (fn:=Tryz.f133) (c:=ao Tryz.f133) (by kernel_rfl) (by kernel_rfl) (by kernel_rfl) (S:=fW) (k:=0) (by kernel_rfl) (λR hR=>(aH (c:=(ao Tryz.f133)) (by kernel_rfl) (id:=0) (by kernel_rfl) (bz au kO vk (sh:=nU) hR (xs:=Lh) (aJ (by kernel_rfl) (by kernel_rfl) hR) aY ag (n:=1000) (T:=nV) (λs Q=>acK s Q) (ok:=ok0) (f:=tO g0_0) h0) ag)) (n:=1000) (sel:=FC) (λv o h=>by cases h;rfl) (pre:=pre) (F:=F) (T:=λx=>H3 ok0 g0_0 (x.1.1) (x.1.2.1)) (λx Q=>aiM ok0 g0_0 x Q) hF
theorem ado {x y c:UInt64}:x+y+c=qY x y c:=by
 have hx:=x.toNat_lt
 have hy:=y.toNat_lt
 unfold qY
 rw [<-UInt64.toNat_inj,UInt64.toNat_add,UInt64.toNat_add,UInt64.toNat_ofNat']
 omega
theorem J3 {x y c:UInt64} (hc:c.toNat<=1):(tf x y c).toNat=(x.toNat+y.toNat+c.toNat)/18446744073709551616:=by
 have hx:=x.toNat_lt
 have hy:=y.toNat_lt
 unfold tf
 rw [UInt64.toNat_ofNat']
 omega
theorem anG {x y c:UInt64} (hc:c.toNat<=1) (h:x+y<x):tf x y c=1:=by
 have hx:=x.toNat_lt
 have hy:=y.toNat_lt
 have h:=UInt64.lt_iff_toNat_lt.1 h
 rw [UInt64.toNat_add] at h
 rw [<-UInt64.toNat_inj,J3 hc,show (1:UInt64).toNat=1 from rfl]
 omega
theorem anF {x y c:UInt64} (hc:c.toNat<=1) (h:¬x+y<x) (h2:x+y+c<x+y):tf x y c=1:=by
 have hx:=x.toNat_lt
 have hy:=y.toNat_lt
 have h:¬(x+y).toNat<x.toNat:=λe=>h (UInt64.lt_iff_toNat_lt.2 e)
 have h2:=UInt64.lt_iff_toNat_lt.1 h2
 rw [UInt64.toNat_add] at h
 rw [UInt64.toNat_add,UInt64.toNat_add] at h2
 rw [<-UInt64.toNat_inj,J3 hc,show (1:UInt64).toNat=1 from rfl]
 omega
theorem anE {x y c:UInt64} (hc:c.toNat<=1) (h:¬x+y<x) (h2:¬x+y+c<x+y):tf x y c=0:=by
 have hx:=x.toNat_lt
 have hy:=y.toNat_lt
 have h:¬(x+y).toNat<x.toNat:=λe=>h (UInt64.lt_iff_toNat_lt.2 e)
 have h2:¬(x+y+c).toNat<(x+y).toNat:=λe=>h2 (UInt64.lt_iff_toNat_lt.2 e)
 rw [UInt64.toNat_add] at h
 rw [UInt64.toNat_add,UInt64.toNat_add] at h2
 rw [<-UInt64.toNat_inj,J3 hc,show (0:UInt64).toNat=0 from rfl]
 omega
def FE (s:bT):Bool:=decide (s.1.2.2.2.2.1=0/\s.1.2.2.2.2.2.1=0/\s.2.1.length=4/\s.2.2.1.length=4/\s.2.2.2.2.1= [0,0,0,0])
def Lk (s:bT):iu:=(((),(),()),(s.2.2.2.1,(upto (Ff s.2.1 s.2.2.1) ([0,0,0,0],0) 4).1,()))
theorem acM:∀ s:bT,FE s=true->∃ m e,av nV m s=some e/\(tO Lk s).run=some e:=by
 rintro ⟨⟨⟨⟩,⟨⟩,⟨⟩,⟨⟩,c,i,⟨⟩⟩,⟨c0,c1,c2,c3,⟨⟩⟩⟩ h
 have h':=of_decide_eq_true h
 dsimp only at h'
 obtain ⟨rfl,rfl,h0,h1,rfl⟩:=h'
 have:=(bP (T:=nV) (λk s=>((((),(),(),(),s.2,(k:Int),()),(c0,c1,c2,s.1,())):bT)) (Ff c0 c1)
  (λs=>(⟨(.exit 0,mC),(((),(),()),(c2,s.1,()))⟩:aQ)) 4 ([0,0,0,0],0) (λ_ s=>s.1.length=4/\s.2.toNat<=1) ⟨rfl,by decide⟩ (λk s hk hs=>⟨?_,?_⟩) (λs hs=> ?_)).1
 ·obtain ⟨m,hm⟩:=this
  exact ⟨m,_,hm,rfl⟩
 ·obtain ⟨o,c⟩:=s
  dsimp only at hs
  refine (OT.ap (decide_eq_true (by dsimp only;omega))).trans ((al ?_).trans ?_)
  ·simp only [Int.toNat_natCast,Nat.add_zero,h0,h1,hs.1,List.all_cons,List.all_nil,Bool.and_true,Bool.and_eq_true]
   exact ⟨bG (by omega),decide_eq_true (by omega),bG (by omega),decide_eq_true (by omega),bG (by omega),decide_eq_true (by omega),bG (by omega),decide_eq_true (by omega)⟩
  ·have hi:∀ z,(gd [inR ((k:Int)+1)] z:OT (Sum bT aQ)).run=z.run:=λz=>al (by simp only [List.all_cons,List.all_nil,Bool.and_true];exact bF (by omega))
   have hw:=ado (x:=c0.getD k 0) (y:=c1.getD k 0) (c:=c)
   by_cases hx:c0.getD k 0+c1.getD k 0<c0.getD k 0
   ·have hk1:=anG hs.2 hx
    refine (OT.ap (decide_eq_true ?_)).trans ((hi _).trans ?_)
    ·simp only [Int.toNat_natCast,Nat.add_zero];exact hx
    ·simp only [OT.kq,Int.toNat_natCast,Nat.add_zero,Ff,hw,hk1]
     rfl
   ·have hs2:∀ v,(o.set k v).getD k 0=v:=λv=>by
     rw [List.getD_eq_getElem?_getD,List.getElem?_set_self (by omega)]
     rfl
    refine (OT.ay (decide_eq_false ?_)).trans ((al ?_).trans ?_)
    ·simp only [Int.toNat_natCast,Nat.add_zero];exact hx
    ·simp only [Int.toNat_natCast,Nat.add_zero,List.length_set,hs.1,List.all_cons,List.all_nil,Bool.and_true,Bool.and_eq_true]
     exact ⟨bG (by omega),decide_eq_true (by omega)⟩
    ·by_cases hd:c0.getD k 0+c1.getD k 0+c<c0.getD k 0+c1.getD k 0
     ·have hk2:=anF hs.2 hx hd
      refine (OT.ap (decide_eq_true ?_)).trans ((hi _).trans ?_)
      ·simp only [Int.toNat_natCast,Nat.add_zero,hs2];exact hd
      ·simp only [OT.kq,Int.toNat_natCast,Nat.add_zero,Ff,hw,hk2]
       rfl
     ·have hk3:=anE hs.2 hx hd
      refine (OT.ay (decide_eq_false ?_)).trans ((hi _).trans ?_)
      ·simp only [Int.toNat_natCast,Nat.add_zero,hs2];exact hd
      ·simp only [OT.kq,Int.toNat_natCast,Nat.add_zero,Ff,hw,hk3]
       rfl
 ·exact ⟨by simp only [Ff,List.length_set];exact hs.1,ya hs.2⟩
 ·exact OT.ay (decide_eq_false (by dsimp only;omega))
def FD (_:wC):Bool:=true
def H4 (x:wC):OT fW.Y:=.ok ⟨Bk,(((tg x.1.1 x.1.2.1).1,()),())⟩
theorem acL:ac Tryz.prog 133 (fW.aI FD H4):=Ps FE Lk acM _ _ λx oy hp ho=>by
 rw [<-ho]
 clear ho
 obtain ⟨⟨a,b,⟨⟩⟩,⟨⟩⟩:=x
 obtain ⟨_,hw⟩:=Fg a b
 refine (al ?_).trans ?_
 ·simp only [List.all_cons,List.all_nil,Bool.and_true,Bool.and_eq_true]
  exact ⟨rfl,rfl,rfl,rfl⟩
 ·simp only [H4,hw]
  rfl
def rM:cN:=(fW.aI FD H4)
theorem Lj:ac Tryz.prog 133 rM:=acL
theorem Li:aK rM:=aB
def m8:Env:=aA 133 rM mg
theorem kj:aW Tryz.prog m8:=ai Lj kO
theorem vj:aw m8:=ae Li rl
theorem pd:bc Tryz.prog te m8:=aO follows au kj vj
def jB:aq:=⟨[.val false .int,.val true .elem],[],true,0,false⟩
abbrev Ll:Type:=((Int)×(aa)×Unit)×(Unit)
def Bn:Shape:=⟨60,[(3,.ptr 0 0 0),(4,.ptr 1 0 0),(5,.val false .u64),(6,.val false .u64),(7,.val false .int)],[(0,.row .u64),(1,.row .u64)],0,true⟩
abbrev cX:Type:=((Unit)×(Unit)×(UInt64)×(UInt64)×(Int)×Unit)×((List (UInt64))×(List (UInt64))×Unit)
def tQ:Shape:=⟨60,[(4,.ptr 0 0 0),(6,.val false .u64)],[(0,.row .u64)],0,true⟩
abbrev ln:Type:=((Unit)×(UInt64)×Unit)×((List (UInt64))×Unit)
def acR:SE->Option Shape:=kn [(0,tQ)] none
def ano (a5:UInt64) (a6:UInt64) (a7:Int) (c0:List (UInt64)) (c1:List (UInt64)):OT (Sum cX aQ):=
 let z0:Bool:=inB a7 4
 let z1:Bool:=decide (Int.toNat a7+0<List.length c0)
 let z2:Bool:= !a5==(0:UInt64)
 let z3:UInt64:=List.getD c0 (Int.toNat a7+0) (0:UInt64)
 (.br (decide ((0:Int)<=a7))
 (gd [z0,z1,z2,z0,z1,z2,inR (a7-(1:Int))] (.ok (.inl (((),((),(a5,((cC ((cC a6 (32:Int)+bu z3 (32:Int))%a5) (32:Int)+(z3&&&(4294967295:UInt64)))%a5,(a7-(1:Int),()))))),(c0,(c1,()))))))
 (.ok (.inr ⟨(.exit 0,tQ),(((),(a6,())),(c1,()))⟩)))
def Bp (s:cX):OT (Sum cX aQ):=ano (s.1.2.2.1) (s.1.2.2.2.1) (s.1.2.2.2.2.1) (s.2.1) (s.2.2.1)
theorem ank (s:cX) (Q:Sum cX aQ->Prop):wps te m8 az 1000 (bL (ao Tryz.f62) 0) (Bn.inj s) (df Bn acR (Q:Sum Bn.T aQ->Prop))=(Bp s).wpR Q:=by kernel_rfl
def H7 (g0_0:cX->ln) (s:cX):OT aQ:=(.ok ⟨(.exit 0,tQ),g0_0 s⟩)
def Bm:Shape:=⟨60,[(3,.ptr 0 0 0),(4,.ptr 1 0 0),(8,.ptr 2 0 0)],[(0,.row .u64),(1,.row .u64),(2,.row .u64)],0,true⟩
abbrev dl:Type:=((Unit)×(Unit)×(Unit)×Unit)×((List (UInt64))×(List (UInt64))×(List (UInt64))×Unit)
def tP:Shape:=⟨60,[(3,.ptr 0 0 0),(4,.ptr 1 0 0)],[(0,.row .u64),(1,.row .u64)],0,true⟩
abbrev lm:Type:=((Unit)×(Unit)×Unit)×((List (UInt64))×(List (UInt64))×Unit)
def acQ:SE->Option Shape:=kn [(2,tP)] none
def ann (c0:List (UInt64)) (c1:List (UInt64)) (c2:List (UInt64)):OT (Sum dl aQ):=
 let z0:Nat:=List.length c0
 let z1:Bool:=decide (4<=z0)
 let z2:Bool:=decide (4<=List.length c2)
 let z3:aa:= {w0:=List.getD c0 0 0,w1:=List.getD c0 1 0,w2:=List.getD c0 2 0,w3:=List.getD c0 3 0}
 let z4:aa:= {w0:=List.getD c2 0 0,w1:=List.getD c2 1 0,w2:=List.getD c2 2 0,w3:=List.getD c2 3 0}
 let z5:=(kT z3 z4).fst
 (gd [z1,z2] (.br (!Nat.blt (aa.nat z3) (aa.nat z4))
 (gd [z1,z2,decide ((4/1:Nat)+0<=z0)] (.ok (.inl (((),((),((),()))),(List.set (List.set (List.set (List.set c0 0 z5.w0) 1 z5.w1) 2 z5.w2) 3 z5.w3,(c1,(c2,())))))))
 (.ok (.inr ⟨(.exit 2,tP),(((),((),())),(c0,(c1,())))⟩))))
def Bo (s:dl):OT (Sum dl aQ):=ann (s.2.1) (s.2.2.1) (s.2.2.2.1)
theorem anj (s:dl) (Q:Sum dl aQ->Prop):wps te m8 az 1000 (bL (ao Tryz.f62) 2) (Bm.inj s) (df Bm acQ (Q:Sum Bm.T aQ->Prop))=(Bo s).wpR Q:=by kernel_rfl
def H6 (g2_2:dl->lm) (s:dl):OT aQ:=(.ok ⟨(.exit 2,tP),g2_2 s⟩)
def kW:ax:=⟨[.val true .elem],[],false⟩
def Vc:SV->Option ax:=λ_=>some kW
def Ve (ok0:cX->Bool) (g0_0:cX->ln) (ok2:dl->Bool) (g2_2:dl->lm) (a0:Int) (a1:aa):OT jB.Y:=
 let z0:(PUnit×PUnit×UInt64×UInt64×Int×PUnit)×List UInt64×List UInt64×PUnit:=(((),(),Kt a0,(0:UInt64),(3:Int),()),[a1.w0,a1.w1,a1.w2,a1.w3],[(0:UInt64),(0:UInt64),(0:UInt64),(0:UInt64)],())
 let z1:Bool:=ok0 z0
 let z2:(PUnit×UInt64×PUnit)×List UInt64×PUnit:=g0_0 z0
 let z3:=z2.snd.fst
 let z4:Bool:=decide ((4/1:Nat)+0<=List.length z3)
 let z5:List UInt64:=List.set (List.set (List.set (List.set z3 0 z2.fst.snd.fst) 1 (0:UInt64)) 2 (0:UInt64)) 3 (0:UInt64)
 let z6:Bool:=decide (4<=List.length z5)
 let z7:aa:= {w0:=List.getD z5 0 0,w1:=List.getD z5 1 0,w2:=List.getD z5 2 0,w3:=List.getD z5 3 0}
 let z8:aa:=(bO (Int.toNat a0)).fst
 let z9:(PUnit×PUnit×PUnit×PUnit)×List UInt64×List UInt64×List UInt64×PUnit:=(((),(),(),()),[a1.w0,a1.w1,a1.w2,a1.w3],[(0:UInt64),(0:UInt64),(0:UInt64),(0:UInt64)],[z8.w0,z8.w1,z8.w2,z8.w3],())
 let z10:=(g2_2 z9).snd
 let z11:=z10.fst
 let z12:=z10.snd.fst
 let z13:List UInt64:=lay z12 z11 4 (0:UInt64)
 (.br (a0==(0:Int))
 (gd [z1,z4,z6] (.ok ⟨kW,((z7,()),())⟩))
 (.br (a0==(1:Int))
  (gd [z1,z4,z6] (.ok ⟨kW,((z7,()),())⟩))
  (.br (ak a0)
   (gd [ok2 z9,decide (4<=List.length z11),decide ((4/1:Nat)+0<=List.length z12),decide (4<=List.length z13)] (.ok ⟨kW,(({w0:=List.getD z13 0 0,w1:=List.getD z13 1 0,w2:=List.getD z13 2 0,w3:=List.getD z13 3 0},()),())⟩))
   (.ok ⟨kW,(({w0:=0,w1:=0,w2:=0,w3:=0},()),())⟩))))
theorem apO (ok0:cX->Bool) (g0_0:cX->ln) (ok2:dl->Bool) (g2_2:dl->lm) (x:Ll) (Q:jB.Y->Prop):wpf te m8 (bn 2 (dC Bm 2 ok2 (H6 g2_2)) (bn 0 (dC Bn 0 ok0 (H7 g0_0)) az)) 1000 Tryz.f62 (jB.inp.inj x).tm (jB.inp.inj x).hp (fnK jB Vc Q) (λ_ _=>False)=(Ve ok0 g0_0 ok2 g2_2 (x.1.1) (x.1.2.1)).wpR Q:=by kernel_rfl
theorem acT (ok0:cX->Bool) (g0_0:cX->ln) (ok2:dl->Bool) (g2_2:dl->lm) (h0:∀ s:cX,ok0 s=true->∃ m e,av (Bp) m s=some e/\(H7 g0_0 s).run=some e) (h2:∀ s:dl,ok2 s=true->∃ m e,av (Bo) m s=some e/\(H6 g2_2 s).run=some e) (pre:Ll->Bool) (F:Ll->OT jB.Y) (hF:∀ (x:Ll) oy,pre x=true->(F x).run=some oy->(Ve ok0 g0_0 ok2 g2_2 (x.1.1) (x.1.2.1)).run=some oy):ac Tryz.prog 62 (jB.aI pre F):=
 aE au kj pd (f:=62) (fn:=Tryz.f62) (c:=ao Tryz.f62) (by kernel_rfl) (by kernel_rfl) (by kernel_rfl) (S:=jB) (k:=0) (by kernel_rfl) (λR hR=>(aH (c:=(ao Tryz.f62)) (by kernel_rfl) (id:=2) (by kernel_rfl) (bz au kj pd (sh:=Bm) hR (xs:=acQ) (aJ (by kernel_rfl) (by kernel_rfl) hR) aY ag (n:=1000) (T:=Bo) (λs Q=>anj s Q) (ok:=ok2) (f:=H6 g2_2) h2) (aH (c:=(ao Tryz.f62)) (by kernel_rfl) (id:=0) (by kernel_rfl) (bz au kj pd (sh:=Bn) hR (xs:=acR) (aJ (by kernel_rfl) (by kernel_rfl) hR) aY ag (n:=1000) (T:=Bp) (λs Q=>ank s Q) (ok:=ok0) (f:=H7 g0_0) h0) ag))) (n:=1000) (sel:=Vc) (λv o h=>by cases h;rfl) (pre:=pre) (F:=F) (T:=λx=>Ve ok0 g0_0 ok2 g2_2 (x.1.1) (x.1.2.1)) (λx Q=>apO ok0 g0_0 ok2 g2_2 x Q) hF
theorem apW {r w m:Nat}:((r*4294967296+w/4294967296)%m*4294967296+w%4294967296)%m=(r*18446744073709551616+w)%m:=by
 have e:(r*4294967296+w/4294967296)*4294967296+w%4294967296=r*18446744073709551616+w:=by omega
 rw [Nat.add_mod,Nat.mul_mod,Nat.mod_mod,<-Nat.mul_mod,<-Nat.add_mod,e]
theorem anK {r w m:UInt64} (hs:eS m=true) (hr:r.toNat<m.toNat):(cC ((cC r 32+bu w 32)%m) 32+(w&&&4294967295))%m=Nj r w m:=by
 have hm:=js hs
 have hb:m.toNat<=16521217:=by rcases dq hs with rfl|rfl<;>decide
 have hw:=w.toNat_lt
 have e1:(cC r 32).toNat=r.toNat*4294967296:=by
  have:(cC r 32).toNat=r.toNat*2^32%2^64:=lf r 32 (by omega)
  rw [this]
  omega
 have e2:(bu w 32).toNat=w.toNat/4294967296:=fT w 32 (by omega)
 have e3:((cC r 32+bu w 32)%m).toNat=(r.toNat*4294967296+w.toNat/4294967296)%m.toNat:=by
  rw [UInt64.toNat_mod,UInt64.toNat_add,e1,e2,Nat.mod_eq_of_lt (a:=r.toNat*4294967296+w.toNat/4294967296) (by omega)]
 generalize (cC r 32+bu w 32)%m=q at e3
 have hq:q.toNat<m.toNat:=by rw [e3];exact Nat.mod_lt _ hm
 have e4:(cC q 32).toNat=q.toNat*4294967296:=by
  have:(cC q 32).toNat=q.toNat*2^32%2^64:=lf q 32 (by omega)
  rw [this]
  omega
 rw [<-UInt64.toNat_inj,mZ hm,UInt64.toNat_mod,UInt64.toNat_add,e4,ii,Nat.mod_eq_of_lt (a:=q.toNat*4294967296+w.toNat%4294967296) (by omega),e3,apW]
def As (s:cX):Bool:=decide (s.1.2.2.2.1=0/\s.1.2.2.2.2.1=3/\s.2.1.length=4)&&eS s.1.2.2.1
def Px (s:cX):ln:=(((),apI s.2.1 s.1.2.2.1,()),(s.2.2.1,()))
theorem anm:∀ s:cX,As s=true->∃ m e,av Bp m s=some e/\(H7 Px s).run=some e:=by
 rintro ⟨⟨⟨⟩,⟨⟩,sm,r,i,⟨⟩⟩,⟨c1,c2,⟨⟩⟩⟩ h
 simp only [As,Bool.and_eq_true,decide_eq_true_eq] at h
 obtain ⟨⟨rfl,rfl,hl⟩,hs⟩:=h
 have hm:=js hs
 have hz:(!(sm==0))=true:=by rcases dq hs with rfl|rfl<;>rfl
 have:=(bP (T:=Bp) (λk r=>((((),(),sm,r,3-(k:Int),()),(c1,c2,())):cX)) (λk r=>Nj r (c1.getD (3-k) 0) sm)
  (λr=>(⟨(.exit 0,tQ),(((),r,()),(c2,()))⟩:aQ)) 4 0 (λ_ r=>r.toNat<sm.toNat) hm (λk r hk hr=>⟨?_,?_⟩) (λr hr=> ?_)).1
 ·obtain ⟨m,hm⟩:=this
  exact ⟨m,_,hm,rfl⟩
 ·have e1:(3-(k:Int)).toNat=3-k:=by omega
  have e2:(3:Int)-(k:Int)-1=3-((k+1:Nat):Int):=by omega
  refine (OT.ap (decide_eq_true (by dsimp only;omega))).trans ((al ?_).trans ?_)
  ·simp only [e1,Nat.add_zero,hl,hz,List.all_cons,List.all_nil,Bool.and_true,Bool.true_and,Bool.and_eq_true]
   exact ⟨bG (by omega),decide_eq_true (by omega),bG (by omega),decide_eq_true (by omega),bF (by omega)⟩
  ·simp only [OT.kq,e1,e2,Nat.add_zero,anK hs hr]
 ·rw [mZ hm]
  exact Nat.mod_lt _ hm
 ·exact OT.ay (decide_eq_false (by dsimp only;omega))
def H5 (s:dl):Bool:=decide (s.2.1.length=4/\s.2.2.2.1.length=4/\0<(elemOf s.2.2.2.1).nat)
def Pw (s:dl):lm:=(((),(),()),(lst (ofN ((elemOf s.2.1).nat%(elemOf s.2.2.2.1).nat)),s.2.2.1,()))
theorem XJ {M:aa} {c2:List UInt64} (hm:0<M.nat):∀ (n:Nat) (a:aa),a.nat=n->
 ∃ m,av Bo m (((),(),(),()),(lst a,c2,lst M,()))=some ⟨(.exit 2,tP),(((),(),()),(lst (ofN (a.nat%M.nat)),c2,()))⟩:=by
 intro n
 induction n using Nat.strongRecOn with
 |_ n ih=>
  intro a hn
  rcases (Bool.eq_false_or_eq_true (Nat.blt a.nat M.nat)).symm with hb|hb
  ·have hle:M.nat<=a.nat:=by
    rcases Nat.lt_or_ge a.nat M.nat with h|h
    ·have:Nat.blt a.nat M.nat=true:=Nat.ble_eq_true_of_le h
     rw [this] at hb;cases hb
    ·exact h
   have hd:=mo hle
   obtain ⟨m,hm2⟩:=ih (a.nat-M.nat) (by omega) (kT a M).1 hd
   rw [hd,<-Nat.mod_eq_sub_mod hle] at hm2
   refine ⟨m+1,aM ?_ hm2⟩
   refine (al rfl).trans ((OT.ap (b:= !Nat.blt a.nat M.nat) (by rw [hb];rfl)).trans ((al rfl).trans rfl))
  ·have hlt:=cJ hb
   rw [Nat.mod_eq_of_lt hlt,qf]
   refine ⟨1,aR ?_⟩
   exact (al rfl).trans (OT.ay (b:= !Nat.blt a.nat M.nat) (by rw [hb];rfl))
theorem anl:∀ s:dl,H5 s=true->∃ m e,av Bo m s=some e/\(H6 Pw s).run=some e:=by
 rintro ⟨⟨⟨⟩,⟨⟩,⟨⟩,⟨⟩⟩,⟨l,c2,l2,⟨⟩⟩⟩ h
 have h':=of_decide_eq_true h
 dsimp only at h'
 obtain ⟨h1,h2,h3⟩:=h'
 obtain ⟨a,rfl⟩:∃ a,l=lst a:=⟨elemOf l,(bh h1).symm⟩
 obtain ⟨M,rfl⟩:∃ a,l2=lst a:=⟨elemOf l2,(bh h2).symm⟩
 obtain ⟨m,hm⟩:=XJ (c2:=c2) (M:=M) h3 _ a rfl
 exact ⟨m,_,hm,rfl⟩
def ofP (p:Nat) (a:aa):aa:=ofN (a.nat%p)
def Vd (_:Ll):Bool:=true
def akS (x:Ll):OT jB.Y:=.br (ak x.1.1) (.ok ⟨kW,((ofP (pS x.1.1) x.1.2.1,()),())⟩) (.ok ⟨kW,((⟨0,0,0,0⟩,()),())⟩)
theorem Ml {a:aa} {p:Nat} {m:UInt64} (hp:p=m.toNat) (hs:eS m=true):(⟨apI (lst a) m,0,0,0⟩:aa)=ofP p a:=by
 have hm:=js hs
 unfold ofP
 rw [UZ hs,hp,om (n:=a.nat%m.toNat) (Nat.lt_trans (Nat.mod_lt _ hm) m.toNat_lt)]
theorem VH {s:Int} {a:aa} (h0:(s==0)=false) (h1:(s==1)=false) (hs:ak s=true):(Ve As Px H5 Pw s a).run=some ⟨kW,((ofP (pS s) a,()),())⟩:=by
 refine (OT.ay h0).trans ((OT.ay h1).trans ((OT.ap hs).trans ((al ?_).trans rfl)))
 simp only [List.all_cons,List.all_nil,Bool.and_true,Bool.and_eq_true]
 exact ⟨decide_eq_true ⟨rfl,rfl,(fh hs).1⟩,rfl,rfl,rfl⟩
theorem acS:ac Tryz.prog 62 (jB.aI Vd akS):=acT As Px H5 Pw anm anl _ _ λx oy _ ho=>by
 rw [<-ho]
 clear ho
 obtain ⟨⟨s,a,⟨⟩⟩,⟨⟩⟩:=x
 rcases (Bool.eq_false_or_eq_true (ak s)).symm with hs|hs
 ·obtain ⟨h0,h1,_,_⟩:=pB hs
  exact (OT.ay h0).trans ((OT.ay h1).trans ((OT.ay hs).trans (OT.ay (b:=ak s) hs).symm))
 ·refine Eq.trans ?_ (OT.ap (b:=ak s) hs).symm
  show _=some (⟨kW,((ofP (pS s) a,()),())⟩:jB.Y)
  rcases cu hs with rfl|rfl|rfl|rfl
  ·rw [<-Ml (a:=a) (p:=pS 0) (m:=16513537) (by decide+kernel) rfl]
   refine (OT.ap rfl).trans ((al ?_).trans rfl)
   exact rfl
  ·rw [<-Ml (a:=a) (p:=pS 1) (m:=16521217) (by decide+kernel) rfl]
   refine (OT.ay rfl).trans ((OT.ap rfl).trans ((al ?_).trans rfl))
   exact rfl
  ·exact VH rfl rfl rfl
  ·exact VH rfl rfl rfl
def Bl:cN:=(jB.aI Vd akS)
theorem XK:ac Tryz.prog 62 Bl:=acS
theorem XI:aK Bl:=aB
def Oh:Env:=aA 62 Bl m8
theorem DW:aW Tryz.prog Oh:=ai XK kj
theorem DX:aw Oh:=ae XI vj
theorem aac:bc Tryz.prog te Oh:=aO follows au DW DX
def fF:aq:=⟨[.val false .int,.val true .elem,.val true .elem],[],true,0,false⟩
abbrev FT:Type:=((Int)×(aa)×(aa)×Unit)×(Unit)
def cx:ax:=⟨[.val true .elem],[],false⟩
def LL:SV->Option ax:=λ_=>some cx
def P6 (a0:Int) (a1:aa) (a2:aa):OT fF.Y:=
 let z0:Bool:=ak a0
 let z1:UInt64:=Kt a0
 let z2:Bool:= !z1==(0:UInt64)
 let z3:Nat:=pS a0
 let z4:aa:=ofP z3 a1
 let z5:=z4.w0
 let z6:aa:=ofP z3 a2
 let z7:=z6.w0
 let z8:aa:= {w0:=(z5+z7)%z1,w1:=0,w2:=0,w3:=0}
 let z9:aa:= {w0:=(z5+(0:UInt64))%z1,w1:=0,w2:=0,w3:=0}
 let z10:aa:= {w0:=((0:UInt64)+z7)%z1,w1:=0,w2:=0,w3:=0}
 let z11:aa:= {w0:=0%z1,w1:=0,w2:=0,w3:=0}
 let z12:aa:= {w0:=0,w1:=0,w2:=0,w3:=0}
 (.br (a0==(0:Int))
 (.br (z0)
  (.br (z0)
   (gd [z2] (.ok ⟨cx,((z8,()),())⟩))
   (gd [z2] (.ok ⟨cx,((z9,()),())⟩)))
  (.br (z0)
   (gd [z2] (.ok ⟨cx,((z10,()),())⟩))
   (gd [z2] (.ok ⟨cx,((z11,()),())⟩))))
 (.br (a0==(1:Int))
  (.br (z0)
   (.br (z0)
    (gd [z2] (.ok ⟨cx,((z8,()),())⟩))
    (gd [z2] (.ok ⟨cx,((z9,()),())⟩)))
   (.br (z0)
    (gd [z2] (.ok ⟨cx,((z10,()),())⟩))
    (gd [z2] (.ok ⟨cx,((z11,()),())⟩))))
  (.br (z0)
   (.br (z0)
    (.br (z0)
     (.ok ⟨cx,((ofP z3 (tg z4 z6).fst,()),())⟩)
     (.ok ⟨cx,((z12,()),())⟩))
    (.br (z0)
     (.ok ⟨cx,((ofP z3 (tg z4 z12).fst,()),())⟩)
     (.ok ⟨cx,((z12,()),())⟩)))
   (.br (z0)
    (.br (z0)
     (.ok ⟨cx,((ofP z3 (tg z12 z6).fst,()),())⟩)
     (.ok ⟨cx,((z12,()),())⟩))
    (.br (z0)
     (.ok ⟨cx,((ofP z3 z12,()),())⟩)
     (.ok ⟨cx,((z12,()),())⟩))))))
theorem anz (x:FT) (Q:fF.Y->Prop):wpf te Oh az 1000 Tryz.f134 (fF.inp.inj x).tm (fF.inp.inj x).hp (fnK fF LL Q) (λ_ _=>False)=(P6 (x.1.1) (x.1.2.1) (x.1.2.2.1)).wpR Q:=by kernel_rfl
theorem X7 (pre:FT->Bool) (F:FT->OT fF.Y) (hF:∀ (x:FT) oy,pre x=true->(F x).run=some oy->(P6 (x.1.1) (x.1.2.1) (x.1.2.2.1)).run=some oy):ac Tryz.prog 134 (fF.aI pre F):=
 aE au DW aac (f:=134) (fn:=Tryz.f134) (c:=ao Tryz.f134) (by kernel_rfl) (by kernel_rfl) (by kernel_rfl) (S:=fF) (k:=0) (by kernel_rfl) (λR hR=>ag) (n:=1000) (sel:=LL) (λv o h=>by cases h;rfl) (pre:=pre) (F:=F) (T:=λx=>P6 (x.1.1) (x.1.2.1) (x.1.2.2.1)) (λx Q=>anz x Q) hF
theorem uC {s:Int} (h:s=0\/s=1):pS s=(Kt s).toNat/\0<(Kt s).toNat/\(Kt s).toNat<=16521217/\(!(Kt s==0))=true:=by
 rcases h with rfl|rfl<;>exact ⟨by decide+kernel,by decide+kernel,by decide+kernel,rfl⟩
theorem Z7 {s:Int} (h:s=0\/s=1) (a b:aa):(⟨((ofP (pS s) a).w0+(ofP (pS s) b).w0)%Kt s,0,0,0⟩:aa)=im (pS s) a b:=by
 obtain ⟨hp,h0,h1,_⟩:=uC h
 rw [hp]
 generalize Kt s=m at*
 have ha:=Nat.mod_lt a.nat h0
 have hb:=Nat.mod_lt b.nat h0
 have hc:=Nat.mod_lt (a.nat+b.nat) h0
 unfold im
 rw [om (by omega)]
 have e:((ofP m.toNat a).w0+(ofP m.toNat b).w0)%m=UInt64.ofNat ((a.nat+b.nat)%m.toNat):=by
  show (UInt64.ofNat (a.nat%m.toNat)+UInt64.ofNat (b.nat%m.toNat))%m=_
  rw [<-UInt64.toNat_inj,UInt64.toNat_mod,UInt64.toNat_add,UInt64.toNat_ofNat',UInt64.toNat_ofNat',UInt64.toNat_ofNat',Nat.mod_eq_of_lt (a:=a.nat%m.toNat) (by omega),Nat.mod_eq_of_lt (a:=b.nat%m.toNat) (by omega),
   Nat.mod_eq_of_lt (a:=a.nat%m.toNat+b.nat%m.toNat) (by omega),Nat.mod_eq_of_lt (a:=(a.nat+b.nat)%m.toNat) (by omega),<-Nat.add_mod]
 rw [e]
def n7 (x:FT):Bool:=ak x.1.1
def ade (x:FT):OT fF.Y:=.ok ⟨cx,((im (pS x.1.1) x.1.2.1 x.1.2.2.1,()),())⟩
theorem ai2:ac Tryz.prog 134 (fF.aI n7 ade):=X7 _ _ λx oy hp ho=>by
 rw [<-ho]
 clear ho
 obtain ⟨⟨s,a,b,⟨⟩⟩,⟨⟩⟩:=x
 have hs:ak s=true:=hp
 show _=some (⟨cx,((im (pS s) a b,()),())⟩:fF.Y)
 have little:(s=0\/s=1)->(gd [!(Kt s==0)] (.ok ⟨cx,((⟨((ofP (pS s) a).w0+(ofP (pS s) b).w0)%Kt s,0,0,0⟩,()),())⟩):OT fF.Y).run=some (⟨cx,((im (pS s) a b,()),())⟩:fF.Y):=λh=>by
  obtain ⟨_,_,_,hz⟩:=uC h
  rw [Z7 h]
  exact al (by simp only [hz,List.all_cons,List.all_nil,Bool.and_true])
 by_cases h0:s=0
 ·exact (OT.ap (by simpa using h0)).trans ((OT.ap hs).trans ((OT.ap hs).trans (little (.inl h0))))
 ·refine (OT.ay (by simpa using h0)).trans ?_
  by_cases h1:s=1
  ·exact (OT.ap (by simpa using h1)).trans ((OT.ap hs).trans ((OT.ap hs).trans (little (.inr h1))))
  ·refine (OT.ay (by simpa using h1)).trans ((OT.ap hs).trans ((OT.ap hs).trans ((OT.ap hs).trans ?_)))
   have e:ofP (pS s) (tg (ofP (pS s) a) (ofP (pS s) b)).1=im (pS s) a b:=agb (fh hs) a b
   show some (⟨cx,((ofP (pS s) (tg (ofP (pS s) a) (ofP (pS s) b)).1,()),())⟩:fF.Y)=_
   rw [e]
def wT:cN:=(fF.aI n7 ade)
theorem P5:ac Tryz.prog 134 wT:=ai2
theorem P4:aK wT:=aB
def D7:Env:=aA 134 wT Oh
theorem yp:aW Tryz.prog D7:=ai P5 DW
theorem zB:aw D7:=ae P4 DX
theorem Sf:bc Tryz.prog te D7:=aO follows au yp zB
def iG:aq:=⟨[.val false .int,.val true .elem],[],true,0,false⟩
abbrev FF:Type:=((Int)×(aa)×Unit)×(Unit)
def ku:ax:=⟨[.val true .elem],[],false⟩
def Lm:SV->Option ax:=λ_=>some ku
def PA (a0:Int) (a1:aa):OT iG.Y:=
 let z0:Bool:=ak a0
 let z1:Nat:=pS a0
 let z2:aa:=(bO (Int.toNat a0)).fst
 let z3:aa:= {w0:=0,w1:=0,w2:=0,w3:=0}
 (.br (z0)
 (.br (z0)
  (.br (z0)
   (.ok ⟨ku,((ofP z1 (kT z2 (ofP z1 a1)).fst,()),())⟩)
   (.ok ⟨ku,((z3,()),())⟩))
  (.br (z0)
   (.ok ⟨ku,((ofP z1 (kT z2 z3).fst,()),())⟩)
   (.ok ⟨ku,((z3,()),())⟩)))
 (.ok ⟨ku,((z3,()),())⟩))
theorem anp (x:FF) (Q:iG.Y->Prop):wpf te D7 az 1000 Tryz.f96 (iG.inp.inj x).tm (iG.inp.inj x).hp (fnK iG Lm Q) (λ_ _=>False)=(PA (x.1.1) (x.1.2.1)).wpR Q:=by kernel_rfl
theorem XL (pre:FF->Bool) (F:FF->OT iG.Y) (hF:∀ (x:FF) oy,pre x=true->(F x).run=some oy->(PA (x.1.1) (x.1.2.1)).run=some oy):ac Tryz.prog 96 (iG.aI pre F):=
 aE au yp Sf (f:=96) (fn:=Tryz.f96) (c:=ao Tryz.f96) (by kernel_rfl) (by kernel_rfl) (by kernel_rfl) (S:=iG) (k:=0) (by kernel_rfl) (λR hR=>ag) (n:=1000) (sel:=Lm) (λv o h=>by cases h;rfl) (pre:=pre) (F:=F) (T:=λx=>PA (x.1.1) (x.1.2.1)) (λx Q=>anp x Q) hF
theorem neg_eq {s:Int} (hs:ak s=true) (a:aa):ofP (pS s) (kT (bO s.toNat).1 (ofP (pS s) a)).1=EZ (pS s) a:=by
 have hp:=fh hs
 have hlt:=Nat.mod_lt a.nat hp.1
 have e:(ofP (pS s) a).nat=a.nat%pS s:=cv hp
 unfold EZ
 have e2:(kT (bO s.toNat).1 (ofP (pS s) a)).1.nat=pS s-a.nat%pS s:=by
  rw [mo (by rw [e];exact Nat.le_of_lt hlt),e]
  rfl
 show ofN (_%_)=_
 rw [e2]
def nW (x:FF):Bool:=ak x.1.1
def acU (x:FF):OT iG.Y:=.ok ⟨ku,((EZ (pS x.1.1) x.1.2.1,()),())⟩
theorem aiO:ac Tryz.prog 96 (iG.aI nW acU):=XL _ _ λx oy hp ho=>by
 rw [<-ho]
 clear ho
 obtain ⟨⟨s,a,⟨⟩⟩,⟨⟩⟩:=x
 have hs:ak s=true:=hp
 show _=some (⟨ku,((EZ (pS s) a,()),())⟩:iG.Y)
 rw [<-neg_eq hs]
 exact (OT.ap hs).trans ((OT.ap hs).trans ((OT.ap hs).trans rfl))
def wE:cN:=(iG.aI nW acU)
theorem Pz:ac Tryz.prog 96 wE:=aiO
theorem Py:aK wE:=aB
def DY:Env:=aA 96 wE D7
theorem yh:aW Tryz.prog DY:=ai Pz yp
theorem zp:aw DY:=ae Py zB
theorem R8:bc Tryz.prog te DY:=aO follows au yh zp
def jz:aq:=⟨[.val false .int,.val true .elem,.val true .elem],[],true,0,false⟩
abbrev FA:Type:=((Int)×(aa)×(aa)×Unit)×(Unit)
def HZ:ax:=⟨[.val true .elem],[],false⟩
def Lc:SV->Option ax:=λ_=>some HZ
def Pp (a0:Int) (a1:aa) (a2:aa):OT jz.Y:=
 let z0:Nat:=pS a0
 let z1:aa:=EZ z0 a2
 (gd [nW ((a0,a2,()),()),n7 ((a0,a1,z1,()),())] (.ok ⟨HZ,((im z0 a1 z1,()),())⟩))
theorem ani (x:FA) (Q:jz.Y->Prop):wpf te DY az 1000 Tryz.f172 (jz.inp.inj x).tm (jz.inp.inj x).hp (fnK jz Lc Q) (λ_ _=>False)=(Pp (x.1.1) (x.1.2.1) (x.1.2.2.1)).wpR Q:=by kernel_rfl
theorem XH (pre:FA->Bool) (F:FA->OT jz.Y) (hF:∀ (x:FA) oy,pre x=true->(F x).run=some oy->(Pp (x.1.1) (x.1.2.1) (x.1.2.2.1)).run=some oy):ac Tryz.prog 172 (jz.aI pre F):=
 aE au yh R8 (f:=172) (fn:=Tryz.f172) (c:=ao Tryz.f172) (by kernel_rfl) (by kernel_rfl) (by kernel_rfl) (S:=jz) (k:=0) (by kernel_rfl) (λR hR=>ag) (n:=1000) (sel:=Lc) (λv o h=>by cases h;rfl) (pre:=pre) (F:=F) (T:=λx=>Pp (x.1.1) (x.1.2.1) (x.1.2.2.1)) (λx Q=>ani x Q) hF
def dX (x:FA):Bool:=ak x.1.1
def acD (x:FA):OT jz.Y:=.ok ⟨HZ,((eW (pS x.1.1) x.1.2.1 x.1.2.2.1,()),())⟩
theorem aiK:ac Tryz.prog 172 (jz.aI dX acD):=XH _ _ λx oy hp ho=>by
 rw [<-ho]
 clear ho
 obtain ⟨⟨s,a,b,⟨⟩⟩,⟨⟩⟩:=x
 have hs:ak s=true:=hp
 refine (al ?_).trans rfl
 simp only [List.all_cons,List.all_nil,Bool.and_true,Bool.and_eq_true]
 exact ⟨hs,hs⟩
def ww:cN:=(jz.aI dX acD)
theorem Po:ac Tryz.prog 172 ww:=aiK
theorem Pn:aK ww:=aB
def yf:Env:=aA 172 ww DY
theorem qL:aW Tryz.prog yf:=ai Po yh
theorem zn:aw yf:=ae Pn zp
theorem DU:bc Tryz.prog te yf:=aO follows au qL zn
def fE:aq:=⟨[.val false .int,.val true .elem,.val true .elem],[],true,0,false⟩
abbrev FG:Type:=((Int)×(aa)×(aa)×Unit)×(Unit)
def tR:Shape:=⟨80,[(4,.ptr 0 0 0),(5,.ptr 1 0 0),(6,.ptr 2 0 0),(7,.ptr 3 0 0),(9,.ptr 4 0 0),(10,.val false .int)],[(0,.row .u64),(1,.row .u64),(2,.row .u64),(3,.row .u64),(4,.row .u64)],0,true⟩
abbrev bN:Type:=((Unit)×(Unit)×(Unit)×(Unit)×(Unit)×(Int)×Unit)×((List (UInt64))×(List (UInt64))×(List (UInt64))×(List (UInt64))×(List (UInt64))×Unit)
def pM:Shape:=⟨80,[(6,.ptr 0 0 0),(9,.ptr 1 0 0)],[(0,.row .u64),(1,.row .u64)],0,true⟩
abbrev jC:Type:=((Unit)×(Unit)×Unit)×((List (UInt64))×(List (UInt64))×Unit)
def Vf:SE->Option Shape:=kn [(0,pM)] none
def H8 (a10:Int) (c0:List (UInt64)) (c1:List (UInt64)) (c2:List (UInt64)) (c3:List (UInt64)) (c4:List (UInt64)):OT (Sum bN aQ):=
 let z0:Nat:=List.length c4
 let z1:Bool:=decide (4<=z0)
 let z2:aa:= {w0:=List.getD c4 0 0,w1:=List.getD c4 1 0,w2:=List.getD c4 2 0,w3:=List.getD c4 3 0}
 let z3:=(tg z2 z2).fst
 let z4:List UInt64:=List.set (List.set (List.set (List.set c4 0 z3.w0) 1 z3.w1) 2 z3.w2) 3 z3.w3
 let z5:Nat:=List.length z4
 let z6:Bool:=decide (4<=z5)
 let z7:Bool:=decide (4<=List.length c3)
 let z8:aa:= {w0:=List.getD z4 0 0,w1:=List.getD z4 1 0,w2:=List.getD z4 2 0,w3:=List.getD z4 3 0}
 let z9:aa:= {w0:=List.getD c3 0 0,w1:=List.getD c3 1 0,w2:=List.getD c3 2 0,w3:=List.getD c3 3 0}
 let z10:Nat:=aa.nat z9
 let z11:Int:=Int.tdiv a10 (64:Int)
 let z12:Bool:=true&&inR z11
 let z13:Bool:=inB z11 4
 let z14:Bool:=decide (Int.toNat z11+0<List.length c1)
 let z15:=(kT z8 z9).fst
 let z16:List UInt64:=List.set (List.set (List.set (List.set z4 0 z15.w0) 1 z15.w1) 2 z15.w2) 3 z15.w3
 let z17:Nat:=List.length z16
 let z18:Bool:=decide (4<=List.length c0)
 let z19:aa:= {w0:=List.getD c0 0 0,w1:=List.getD c0 1 0,w2:=List.getD c0 2 0,w3:=List.getD c0 3 0}
 let z20:aa:=(tg {w0:=List.getD z16 0 0,w1:=List.getD z16 1 0,w2:=List.getD z16 2 0,w3:=List.getD z16 3 0} z19).fst
 let z21:List UInt64:=List.set (List.set (List.set (List.set z16 0 z20.w0) 1 z20.w1) 2 z20.w2) 3 z20.w3
 let z22:Nat:=List.length z21
 let z23:Bool:=decide (4<=z22)
 let z24:aa:= {w0:=List.getD z21 0 0,w1:=List.getD z21 1 0,w2:=List.getD z21 2 0,w3:=List.getD z21 3 0}
 let z25:Bool:=inR (a10-(1:Int))
 let z26:=(kT z24 z9).fst
 let z27:=(tg z8 z19).fst
 let z28:List UInt64:=List.set (List.set (List.set (List.set z4 0 z27.w0) 1 z27.w1) 2 z27.w2) 3 z27.w3
 let z29:Nat:=List.length z28
 let z30:Bool:=decide (4<=z29)
 let z31:aa:= {w0:=List.getD z28 0 0,w1:=List.getD z28 1 0,w2:=List.getD z28 2 0,w3:=List.getD z28 3 0}
 let z32:=(kT z31 z9).fst
 (.br (decide ((0:Int)<=a10))
 (gd [z1,z1,decide ((4/1:Nat)+0<=z0),z6,z7] (.br (!Nat.blt (aa.nat z8) z10)
  (gd [z6,z7,decide ((4/1:Nat)+0<=z5),z12,z13,z14] (.br (bu (List.getD c1 (Int.toNat z11+0) (0:UInt64)) (↑(UInt64.toNat (i2u (Int.tmod a10 (64:Int)))):Int)&&&(1:UInt64)==(1:UInt64))
   (gd [decide (4<=z17),z18,decide ((4/1:Nat)+0<=z17),z23,z7] (.br (!Nat.blt (aa.nat z24) z10)
    (gd [z23,z7,decide ((4/1:Nat)+0<=z22),z25] (.ok (.inl (((),((),((),((),((),(a10-(1:Int),())))))),(c0,(c1,(c2,(c3,(List.set (List.set (List.set (List.set z21 0 z26.w0) 1 z26.w1) 2 z26.w2) 3 z26.w3,())))))))))
    (gd [z25] (.ok (.inl (((),((),((),((),((),(a10-(1:Int),())))))),(c0,(c1,(c2,(c3,(z21,())))))))))))
   (gd [z25] (.ok (.inl (((),((),((),((),((),(a10-(1:Int),())))))),(c0,(c1,(c2,(c3,(z16,())))))))))))
  (gd [z12,z13,z14] (.br (bu (List.getD c1 (Int.toNat z11+0) (0:UInt64)) (↑(UInt64.toNat (i2u (Int.tmod a10 (64:Int)))):Int)&&&(1:UInt64)==(1:UInt64))
   (gd [z6,z18,decide ((4/1:Nat)+0<=z5),z30,z7] (.br (!Nat.blt (aa.nat z31) z10)
    (gd [z30,z7,decide ((4/1:Nat)+0<=z29),z25] (.ok (.inl (((),((),((),((),((),(a10-(1:Int),())))))),(c0,(c1,(c2,(c3,(List.set (List.set (List.set (List.set z28 0 z32.w0) 1 z32.w1) 2 z32.w2) 3 z32.w3,())))))))))
    (gd [z25] (.ok (.inl (((),((),((),((),((),(a10-(1:Int),())))))),(c0,(c1,(c2,(c3,(z28,())))))))))))
   (gd [z25] (.ok (.inl (((),((),((),((),((),(a10-(1:Int),())))))),(c0,(c1,(c2,(c3,(z4,())))))))))))))
 (.ok (.inr ⟨(.exit 0,pM),(((),((),())),(c2,(c4,())))⟩)))
def pN (s:bN):OT (Sum bN aQ):=H8 (s.1.2.2.2.2.2.1) (s.2.1) (s.2.2.1) (s.2.2.2.1) (s.2.2.2.2.1) (s.2.2.2.2.2.1)
theorem aiP (s:bN) (Q:Sum bN aQ->Prop):wps te yf az 1000 (bL (ao Tryz.f113) 0) (tR.inj s) (df tR Vf (Q:Sum tR.T aQ->Prop))=(pN s).wpR Q:=by kernel_rfl
def Au (g0_0:bN->jC) (s:bN):OT aQ:=(.ok ⟨(.exit 0,pM),g0_0 s⟩)
def cP:ax:=⟨[.val true .elem],[],false⟩
def Ln:SV->Option ax:=λ_=>some cP
def PD (ok0:bN->Bool) (g0_0:bN->jC) (a0:Int) (a1:aa) (a2:aa):OT fE.Y:=
 let z0:Bool:=ak a0
 let z1:UInt64:=Kt a0
 let z2:Bool:= !z1==(0:UInt64)
 let z3:Nat:=pS a0
 let z4:aa:=ofP z3 a1
 let z5:=z4.w0
 let z6:aa:=ofP z3 a2
 let z7:=z6.w0
 let z8:aa:= {w0:=z5*z7%z1,w1:=0,w2:=0,w3:=0}
 let z9:aa:= {w0:=z5*(0:UInt64)%z1,w1:=0,w2:=0,w3:=0}
 let z10:aa:= {w0:=0*z7%z1,w1:=0,w2:=0,w3:=0}
 let z11:aa:= {w0:=0%z1,w1:=0,w2:=0,w3:=0}
 let z12:PUnit×PUnit×PUnit×PUnit×PUnit×Int×PUnit:=((),(),(),(),(),(255:Int),())
 let z13:aa:=(bO (Int.toNat a0)).fst
 let z14:List UInt64×List UInt64×List UInt64×PUnit:=([(0:UInt64),(0:UInt64),(0:UInt64),(0:UInt64)],[z13.w0,z13.w1,z13.w2,z13.w3],[(0:UInt64),(0:UInt64),(0:UInt64),(0:UInt64)],())
 let z15:List UInt64×List UInt64×List UInt64×List UInt64×PUnit:=([z7,z6.w1,z6.w2,z6.w3],z14)
 let z16:(PUnit×PUnit×PUnit×PUnit×PUnit×Int×PUnit)×List UInt64×List UInt64×List UInt64×List UInt64×List UInt64×PUnit:=(z12,[z5,z4.w1,z4.w2,z4.w3],z15)
 let z17:=(g0_0 z16).snd
 let z18:=z17.snd.fst
 let z19:=z17.fst
 let z20:List UInt64:=lay z19 z18 4 (0:UInt64)
 let z21:List UInt64×List UInt64×List UInt64×List UInt64×PUnit:=([(0:UInt64),(0:UInt64),(0:UInt64),(0:UInt64)],z14)
 let z22:(PUnit×PUnit×PUnit×PUnit×PUnit×Int×PUnit)×List UInt64×List UInt64×List UInt64×List UInt64×List UInt64×PUnit:=(z12,[z5,z4.w1,z4.w2,z4.w3],z21)
 let z23:=(g0_0 z22).snd
 let z24:=z23.snd.fst
 let z25:=z23.fst
 let z26:List UInt64:=lay z25 z24 4 (0:UInt64)
 let z27:(PUnit×PUnit×PUnit×PUnit×PUnit×Int×PUnit)×List UInt64×List UInt64×List UInt64×List UInt64×List UInt64×PUnit:=(z12,[(0:UInt64),(0:UInt64),(0:UInt64),(0:UInt64)],z15)
 let z28:=(g0_0 z27).snd
 let z29:=z28.snd.fst
 let z30:=z28.fst
 let z31:List UInt64:=lay z30 z29 4 (0:UInt64)
 let z32:(PUnit×PUnit×PUnit×PUnit×PUnit×Int×PUnit)×List UInt64×List UInt64×List UInt64×List UInt64×List UInt64×PUnit:=(z12,[(0:UInt64),(0:UInt64),(0:UInt64),(0:UInt64)],z21)
 let z33:=(g0_0 z32).snd
 let z34:=z33.snd.fst
 let z35:=z33.fst
 let z36:List UInt64:=lay z35 z34 4 (0:UInt64)
 (.br (a0==(0:Int))
 (.br (z0)
  (.br (z0)
   (gd [z2] (.ok ⟨cP,((z8,()),())⟩))
   (gd [z2] (.ok ⟨cP,((z9,()),())⟩)))
  (.br (z0)
   (gd [z2] (.ok ⟨cP,((z10,()),())⟩))
   (gd [z2] (.ok ⟨cP,((z11,()),())⟩))))
 (.br (a0==(1:Int))
  (.br (z0)
   (.br (z0)
    (gd [z2] (.ok ⟨cP,((z8,()),())⟩))
    (gd [z2] (.ok ⟨cP,((z9,()),())⟩)))
   (.br (z0)
    (gd [z2] (.ok ⟨cP,((z10,()),())⟩))
    (gd [z2] (.ok ⟨cP,((z11,()),())⟩))))
  (.br (z0)
   (.br (z0)
    (.br (z0)
     (gd [ok0 z16,decide (4<=List.length z18),decide ((4/1:Nat)+0<=List.length z19),decide (4<=List.length z20)] (.ok ⟨cP,(({w0:=List.getD z20 0 0,w1:=List.getD z20 1 0,w2:=List.getD z20 2 0,w3:=List.getD z20 3 0},()),())⟩))
     (gd [ok0 z22,decide (4<=List.length z24),decide ((4/1:Nat)+0<=List.length z25),decide (4<=List.length z26)] (.ok ⟨cP,(({w0:=List.getD z26 0 0,w1:=List.getD z26 1 0,w2:=List.getD z26 2 0,w3:=List.getD z26 3 0},()),())⟩)))
    (.br (z0)
     (gd [ok0 z27,decide (4<=List.length z29),decide ((4/1:Nat)+0<=List.length z30),decide (4<=List.length z31)] (.ok ⟨cP,(({w0:=List.getD z31 0 0,w1:=List.getD z31 1 0,w2:=List.getD z31 2 0,w3:=List.getD z31 3 0},()),())⟩))
     (gd [ok0 z32,decide (4<=List.length z34),decide ((4/1:Nat)+0<=List.length z35),decide (4<=List.length z36)] (.ok ⟨cP,(({w0:=List.getD z36 0 0,w1:=List.getD z36 1 0,w2:=List.getD z36 2 0,w3:=List.getD z36 3 0},()),())⟩))))
   (.ok ⟨cP,(({w0:=0,w1:=0,w2:=0,w3:=0},()),())⟩))))
theorem anq (ok0:bN->Bool) (g0_0:bN->jC) (x:FG) (Q:fE.Y->Prop):wpf te yf (bn 0 (dC tR 0 ok0 (Au g0_0)) az) 1000 Tryz.f113 (fE.inp.inj x).tm (fE.inp.inj x).hp (fnK fE Ln Q) (λ_ _=>False)=(PD ok0 g0_0 (x.1.1) (x.1.2.1) (x.1.2.2.1)).wpR Q:=by kernel_rfl
theorem XM (ok0:bN->Bool) (g0_0:bN->jC) (h0:∀ s:bN,ok0 s=true->∃ m e,av (pN) m s=some e/\(Au g0_0 s).run=some e) (pre:FG->Bool) (F:FG->OT fE.Y) (hF:∀ (x:FG) oy,pre x=true->(F x).run=some oy->(PD ok0 g0_0 (x.1.1) (x.1.2.1) (x.1.2.2.1)).run=some oy):ac Tryz.prog 113 (fE.aI pre F):=
 aE au qL DU (f:=113) (fn:=Tryz.f113) (c:=ao Tryz.f113) (by kernel_rfl) (by kernel_rfl) (by kernel_rfl) (S:=fE) (k:=0) (by kernel_rfl) (λR hR=>(aH (c:=(ao Tryz.f113)) (by kernel_rfl) (id:=0) (by kernel_rfl) (bz au qL DU (sh:=tR) hR (xs:=Vf) (aJ (by kernel_rfl) (by kernel_rfl) hR) aY ag (n:=1000) (T:=pN) (λs Q=>aiP s Q) (ok:=ok0) (f:=Au g0_0) h0) ag)) (n:=1000) (sel:=Ln) (λv o h=>by cases h;rfl) (pre:=pre) (F:=F) (T:=λx=>PD ok0 g0_0 (x.1.1) (x.1.2.1) (x.1.2.2.1)) (λx Q=>anq ok0 g0_0 x Q) hF
theorem Yn {s:Int} (h:s=0\/s=1) (a b:aa):(⟨(ofP (pS s) a).w0*(ofP (pS s) b).w0%Kt s,0,0,0⟩:aa)=aN (pS s) a b:=by
 obtain ⟨hp,h0,h1,_⟩:=uC h
 rw [hp]
 generalize Kt s=m at*
 have ha:=Nat.mod_lt a.nat h0
 have hb:=Nat.mod_lt b.nat h0
 have hc:=Nat.mod_lt (a.nat*b.nat) h0
 have hab:a.nat%m.toNat*(b.nat%m.toNat)<18446744073709551616:=by
  have:a.nat%m.toNat*(b.nat%m.toNat)<=16521217*16521217:=Nat.mul_le_mul (by omega) (by omega)
  omega
 unfold aN
 rw [om (n:=a.nat*b.nat%m.toNat) (by omega)]
 have e:(ofP m.toNat a).w0*(ofP m.toNat b).w0%m=UInt64.ofNat (a.nat*b.nat%m.toNat):=by
  show UInt64.ofNat (a.nat%m.toNat)*UInt64.ofNat (b.nat%m.toNat)%m=_
  rw [<-UInt64.toNat_inj,UInt64.toNat_mod,UInt64.toNat_mul,UInt64.toNat_ofNat',UInt64.toNat_ofNat',UInt64.toNat_ofNat',Nat.mod_eq_of_lt (a:=a.nat%m.toNat) (by omega),Nat.mod_eq_of_lt (a:=b.nat%m.toNat) (by omega),
   Nat.mod_eq_of_lt (a:=a.nat%m.toNat*(b.nat%m.toNat)) (by omega),Nat.mod_eq_of_lt (a:=a.nat*b.nat%m.toNat) (by omega),<-Nat.mul_mod]
 rw [e]
def uQ (p a b:Nat) (n o:Nat):Nat:=cond (Aj b (255-n)) ((2*o%p+a)%p) (2*o%p)
theorem afg (p a b:Nat) (hb:b<2^256):∀ n,n<=256->upto (uQ p a b) 0 n=a*(b/2^(256-n))%p
 |0,_=>by
  show 0=_
  rw [Nat.div_eq_of_lt (by exact hb),Nat.mul_zero,Nat.zero_mod]
 |n+1,hn=>by
  show uQ p a b n (upto (uQ p a b) 0 n)=_
  rw [afg p a b hb n (by omega)]
  have e1:256-n=(255-n)+1:=by omega
  have e2:256-(n+1)=255-n:=by omega
  rw [e1,e2,Nat.pow_succ,<-Nat.div_div_eq_div_mul]
  unfold uQ Aj
  generalize b/2^(255-n)=q
  have hd:2*(a*(q/2)%p)%p=a*(2*(q/2))%p:=by
   rw [Nat.mul_mod,Nat.mod_mod,<-Nat.mul_mod,Nat.mul_left_comm]
  cases hq:Nat.beq (q%2) 1
  ·simp only [cond_false]
   have:¬q%2=1:=λe=>by rw [e] at hq;cases hq
   rw [hd,show 2*(q/2)=q by omega]
  ·have hq:=Nat.eq_of_beq_eq_true hq
   simp only [cond_true]
   rw [hd,Nat.mod_add_mod]
   have e3:a*(2*(q/2))+a=a*q:=by
    rw [<-Nat.mul_succ,show (2*(q/2)).succ=q by omega]
   rw [e3]
theorem apK {z M:aa} (h:Nat.blt z.nat M.nat=true):z=ofN (z.nat%M.nat):=by
 rw [Nat.mod_eq_of_lt (cJ h),qf]
theorem adF {n m:Nat} (h:Nat.blt n m=false):m<=n:=by
 rcases Nat.lt_or_ge n m with h'|h'
 ·have:Nat.blt n m=true:=Nat.ble_eq_true_of_le h'
  rw [this] at h;cases h
 ·exact h'
theorem apJ {z M:aa} (h:Nat.blt z.nat M.nat=false) (h2:z.nat<2*M.nat):(kT z M).1=ofN (z.nat%M.nat):=by
 have hle:=adF h
 have hz:=gv z
 apply jP
 rw [mo hle,Nat.mod_eq_sub_mod hle,Nat.mod_eq_of_lt (by omega),gX (by omega)]
theorem sum_nat {a b:aa} (h:a.nat+b.nat<115792089237316195423570985008687907853269984665640564039457584007913129639936):(tg a b).1.nat=a.nat+b.nat:=gX h
theorem aek {k:Nat} (hk:k<64):(((i2u (k:Int)).toNat:Nat):Int)=(k:Int):=by
 unfold i2u
 rw [UInt64.toNat_ofNat']
 omega
theorem alk {b:aa} {n:Nat} (hn:n<256):(bu (List.getD (lst b) (Int.toNat (Int.tdiv (255-(n:Int)) 64)+0) 0) (((i2u (Int.tmod (255-(n:Int)) 64)).toNat:Nat):Int)&&&1==1)=Aj b.nat (255-n):=by
 have t0:(255:Int)-(n:Int)=((255-n:Nat):Int):=by omega
 rw [t0]
 generalize hk:255-n=k
 have hk2:k<256:=by omega
 have t1:Int.tdiv (k:Int) 64=((k/64:Nat):Int):=by rw [Int.tdiv_eq_ediv_of_nonneg (by omega)];omega
 have t2:Int.tmod (k:Int) 64=((k%64:Nat):Int):=by rw [Int.tmod_eq_emod_of_nonneg (by omega)];omega
 rw [t1,t2,aek (by omega),RP,fT _ _ (by omega),Int.toNat_natCast,Nat.add_zero]
 have:=W6 (a:=b) (q:=k/64) (r:=k%64) (by omega) (by omega)
 rw [show 64*(k/64)+k%64=k by omega] at this
 unfold Aj
 rw [<-this]
theorem ao4 (e f:aa):List.set (List.set (List.set (List.set (lst e) 0 f.w0) 1 f.w1) 2 f.w2) 3 f.w3=lst f:=rfl
theorem apb (e:aa):(⟨List.getD (lst e) 0 0,List.getD (lst e) 1 0,List.getD (lst e) 2 0,List.getD (lst e) 3 0⟩:aa)=e:=rfl
def afh (A B:aa) (c2:List UInt64) (M:aa) (n o:Nat):bN:=(((),(),(),(),(),255-(n:Int),()),(lst A,lst B,c2,lst M,lst (ofN o),()))
theorem aoI {A B M:aa} {c2:List UInt64} {n o:Nat} (hn:n<256) (hA:A.nat<M.nat) (ho:o<M.nat) (hM:2*M.nat<=115792089237316195423570985008687907853269984665640564039457584007913129639936):
 (pN (afh A B c2 M n o)).run=some (.inl (afh A B c2 M (n+1) (uQ M.nat A.nat B.nat n o))):=by
 have e2:(255:Int)-(n:Int)-1=255-((n+1:Nat):Int):=by omega
 have hO:(ofN o).nat=o:=gX (by omega)
 have hz:(tg (ofN o) (ofN o)).1.nat=2*o:=by rw [sum_nat (by omega),hO];omega
 have hbit:=alk (b:=B) hn
 have t0:(255:Int)-(n:Int)=((255-n:Nat):Int):=by omega
 have t1:Int.tdiv (255-(n:Int)) 64=(((255-n)/64:Nat):Int):=by rw [t0,Int.tdiv_eq_ediv_of_nonneg (by omega)];omega
 have gb:∀ z:OT (Sum bN aQ),(gd [true&&inR (Int.tdiv (255-(n:Int)) 64),inB (Int.tdiv (255-(n:Int)) 64) 4,decide (Int.toNat (Int.tdiv (255-(n:Int)) 64)+0<(lst B).length)] z).run=z.run:=λz=>al (by
  simp only [t1,Int.toNat_natCast,Nat.add_zero,cS,List.all_cons,List.all_nil,Bool.and_true,Bool.true_and,Bool.and_eq_true]
  exact ⟨bF (by omega),bG (by omega),decide_eq_true (by omega)⟩)
 have gb2:∀ z:OT (Sum bN aQ),(gd [true,true,true,true&&inR (Int.tdiv (255-(n:Int)) 64),inB (Int.tdiv (255-(n:Int)) 64) 4,decide (Int.toNat (Int.tdiv (255-(n:Int)) 64)+0<(lst B).length)] z).run=z.run:=λz=>al (by
  simp only [t1,Int.toNat_natCast,Nat.add_zero,cS,List.all_cons,List.all_nil,Bool.and_true,Bool.true_and,Bool.and_eq_true]
  exact ⟨bF (by omega),bG (by omega),decide_eq_true (by omega)⟩)
 have hi:inR ((255:Int)-(n:Int)-1)=true:=bF (by omega)
 have gi:∀ z:OT (Sum bN aQ),(gd [inR ((255:Int)-(n:Int)-1)] z).run=z.run:=λz=>al (by simp only [hi,List.all_cons,List.all_nil,Bool.and_true])
 have gi2:∀ z:OT (Sum bN aQ),(gd [true,true,true,inR ((255:Int)-(n:Int)-1)] z).run=z.run:=λz=>al (by simp only [hi,List.all_cons,List.all_nil,Bool.and_true])
 --behind the doubling
 have tail:∀ D:aa,D=ofN (2*o%M.nat)->
  (OT.br (bu (List.getD (lst B) (Int.toNat (Int.tdiv (255-(n:Int)) 64)+0) 0) (((i2u (Int.tmod (255-(n:Int)) 64)).toNat:Nat):Int)&&&1==1)
   (gd [true,true,true,true,true] (OT.br (!Nat.blt (tg D A).1.nat M.nat)
    (gd [true,true,true,inR ((255:Int)-(n:Int)-1)] (.ok (.inl (((),(),(),(),(),(255:Int)-(n:Int)-1,()),(lst A,lst B,c2,lst M,lst (kT (tg D A).1 M).1,())))))
    (gd [inR ((255:Int)-(n:Int)-1)] (.ok (.inl (((),(),(),(),(),(255:Int)-(n:Int)-1,()),(lst A,lst B,c2,lst M,lst (tg D A).1,())))))))
   (gd [inR ((255:Int)-(n:Int)-1)] (.ok (.inl (((),(),(),(),(),(255:Int)-(n:Int)-1,()),(lst A,lst B,c2,lst M,lst D,()))))):OT (Sum bN aQ)).run
  =some (.inl (afh A B c2 M (n+1) (uQ M.nat A.nat B.nat n o))):=λD hD=>by
  rw [hbit,e2]
  rw [e2] at gi gi2
  have hlt:=Nat.mod_lt (2*o) (show 0<M.nat by omega)
  have hDn:D.nat=2*o%M.nat:=by rw [hD];exact gX (by omega)
  have hw:(tg D A).1.nat=2*o%M.nat+A.nat:=by rw [sum_nat (by omega),hDn]
  unfold uQ
  rcases (Bool.eq_false_or_eq_true (Aj B.nat (255-n))).symm with hb|hb
  ·rw [hb,hD]
   exact (OT.ay rfl).trans (gi _)
  ·rw [hb]
   refine (OT.ap rfl).trans ((al rfl).trans ?_)
   rcases (Bool.eq_false_or_eq_true (Nat.blt (tg D A).1.nat M.nat)).symm with hc|hc
   ·have er:=apJ hc (by omega)
    rw [hw] at er
    refine (OT.ap (by rw [hc];rfl)).trans ((gi2 _).trans ?_)
    rw [er]
    rfl
   ·have er:=apK hc
    rw [hw] at er
    refine (OT.ay (by rw [hc];rfl)).trans ((gi _).trans ?_)
    rw [er]
    rfl
 show (H8 (255-(n:Int)) (lst A) (lst B) c2 (lst M) (lst (ofN o))).run=_
 unfold H8
 simp only [ao4,apb,cS]
 refine (OT.ap (decide_eq_true (by omega))).trans ((al rfl).trans ?_)
 rcases (Bool.eq_false_or_eq_true (Nat.blt (tg (ofN o) (ofN o)).1.nat M.nat)).symm with hc|hc
 ·have er:=apJ hc (by omega)
  rw [hz] at er
  exact (OT.ap (b:= !Nat.blt (tg (ofN o) (ofN o)).1.nat M.nat) (by rw [hc];rfl)).trans ((gb2 _).trans (tail _ er))
 ·have er:=apK hc
  rw [hz] at er
  exact (OT.ay (b:= !Nat.blt (tg (ofN o) (ofN o)).1.nat M.nat) (by rw [hc];rfl)).trans ((gb _).trans (tail _ er))
def Lo (s:bN):Bool:=decide (s.1.2.2.2.2.2.1=255/\s.2.1.length=4/\s.2.2.1.length=4/\s.2.2.2.2.1.length=4/\s.2.2.2.2.2.1= [0,0,0,0]/\(elemOf s.2.1).nat<(elemOf s.2.2.2.2.1).nat/\2*(elemOf s.2.2.2.2.1).nat<=115792089237316195423570985008687907853269984665640564039457584007913129639936)
def Vg (s:bN):jC:=(((),(),()),(s.2.2.2.1,lst (ofN ((elemOf s.2.1).nat*(elemOf s.2.2.1).nat%(elemOf s.2.2.2.2.1).nat)),()))
theorem aiR:∀ s:bN,Lo s=true->∃ m e,av pN m s=some e/\(Au Vg s).run=some e:=by
 rintro ⟨⟨⟨⟩,⟨⟩,⟨⟩,⟨⟩,⟨⟩,i,⟨⟩⟩,⟨l0,l1,c2,l3,l4,⟨⟩⟩⟩ h
 have h':=of_decide_eq_true h
 dsimp only at h'
 obtain ⟨rfl,h0,h1,h3,rfl,hA,hM⟩:=h'
 obtain ⟨A,rfl⟩:∃ a,l0=lst a:=⟨elemOf l0,(bh h0).symm⟩
 obtain ⟨B,rfl⟩:∃ a,l1=lst a:=⟨elemOf l1,(bh h1).symm⟩
 obtain ⟨M,rfl⟩:∃ a,l3=lst a:=⟨elemOf l3,(bh h3).symm⟩
 have hA:A.nat<M.nat:=hA
 have:=(bP (T:=pN) (afh A B c2 M) (uQ M.nat A.nat B.nat)
  (λo=>(⟨(.exit 0,pM),(((),(),()),(c2,lst (ofN o),()))⟩:aQ)) 256 0 (λ_ o=>o<M.nat) (by omega) (λn o hn ho=>⟨aoI hn hA ho hM,?_⟩) (λo ho=> ?_)).1
 ·rw [afg M.nat A.nat B.nat (gv B) 256 (by omega),Nat.sub_self,Nat.pow_zero,Nat.div_one] at this
  obtain ⟨m,hm⟩:=this
  exact ⟨m,_,hm,rfl⟩
 ·unfold uQ
  cases Aj B.nat (255-n)
  ·exact Nat.mod_lt _ (by omega)
  ·exact Nat.mod_lt _ (by omega)
 ·exact OT.ay (decide_eq_false (by dsimp only [afh];omega))
def b9 (x:FG):Bool:=ak x.1.1
def acV (x:FG):OT fE.Y:=.ok ⟨cP,((aN (pS x.1.1) x.1.2.1 x.1.2.2.1,()),())⟩
theorem adJ {s:Int} (hs:ak s=true) (a b:aa):ofN ((ofP (pS s) a).nat*(ofP (pS s) b).nat%pS s)=aN (pS s) a b:=by
 have hp:=fh hs
 unfold ofP aN
 rw [cv hp,cv hp,<-Nat.mul_mod]
theorem aiQ:ac Tryz.prog 113 (fE.aI b9 acV):=XM Lo Vg aiR _ _ λx oy hp ho=>by
 rw [<-ho]
 clear ho
 obtain ⟨⟨s,a,b,⟨⟩⟩,⟨⟩⟩:=x
 have hs:ak s=true:=hp
 show _=some (⟨cP,((aN (pS s) a b,()),())⟩:fE.Y)
 have little:(s=0\/s=1)->(gd [!(Kt s==0)] (.ok ⟨cP,((⟨(ofP (pS s) a).w0*(ofP (pS s) b).w0%Kt s,0,0,0⟩,()),())⟩):OT fE.Y).run=some (⟨cP,((aN (pS s) a b,()),())⟩:fE.Y):=λh=>by
  obtain ⟨_,_,_,hz⟩:=uC h
  rw [Yn h]
  exact al (by simp only [hz,List.all_cons,List.all_nil,Bool.and_true])
 by_cases h0:s=0
 ·exact (OT.ap (by simpa using h0)).trans ((OT.ap hs).trans ((OT.ap hs).trans (little (.inl h0))))
 ·refine (OT.ay (by simpa using h0)).trans ?_
  by_cases h1:s=1
  ·exact (OT.ap (by simpa using h1)).trans ((OT.ap hs).trans ((OT.ap hs).trans (little (.inr h1))))
  ·refine (OT.ay (by simpa using h1)).trans ((OT.ap hs).trans ((OT.ap hs).trans ((OT.ap hs).trans ?_)))
   have hpp:=fh hs
   have hA:(ofP (pS s) a).nat<pS s:=by
    show (ofN _).nat<_
    rw [cv hpp]
    exact Nat.mod_lt _ hpp.1
   refine (al ?_).trans ?_
   ·simp only [List.all_cons,List.all_nil,Bool.and_true,Bool.and_eq_true]
    exact ⟨decide_eq_true ⟨rfl,rfl,rfl,rfl,rfl,hA,(by show 2*pS s<=_;omega)⟩,rfl,rfl,rfl⟩
   ·rw [<-adJ hs]
    show some (⟨cP,((elemOf (lay [0,0,0,0] (lst (ofN ((ofP (pS s) a).nat*(ofP (pS s) b).nat%pS s))) 4 0),()),())⟩:fE.Y)=_
    rw [ao6 _ _ rfl rfl]
    rfl
def wF:cN:=(fE.aI b9 acV)
theorem PC:ac Tryz.prog 113 wF:=aiQ
theorem PB:aK wF:=aB
def sU:Env:=aA 113 wF yf
theorem mf:aW Tryz.prog sU:=ai PC qL
theorem zq:aw sU:=ae PB zn
theorem sT:bc Tryz.prog te sU:=aO follows au mf zq
def gU:aq:=⟨[.val false .int,.val true .elem,.val true .elem],[],true,0,false⟩
abbrev FQ:Type:=((Int)×(aa)×(aa)×Unit)×(Unit)
def tW:Shape:=⟨53,[(0,.val false .int),(4,.ptr 0 0 0),(5,.ptr 1 0 0),(6,.ptr 2 0 0),(7,.ptr 3 0 0),(8,.val false .int)],[(0,.row .u64),(1,.row .u64),(2,.row .u64),(3,.row .u64)],0,true⟩
abbrev cz:Type:=((Int)×(Unit)×(Unit)×(Unit)×(Unit)×(Int)×Unit)×((List (UInt64))×(List (UInt64))×(List (UInt64))×(List (UInt64))×Unit)
def lv:Shape:=⟨53,[(0,.val false .int),(4,.ptr 0 0 0),(5,.ptr 1 0 0),(6,.ptr 2 0 0),(7,.ptr 3 0 0),(8,.val false .int)],[(0,.row .u64),(1,.row .u64),(2,.row .u64),(3,.row .u64)],0,true⟩
abbrev jI:Type:=((Int)×(Unit)×(Unit)×(Unit)×(Unit)×(Int)×Unit)×((List (UInt64))×(List (UInt64))×(List (UInt64))×(List (UInt64))×Unit)
def Vm:SE->Option Shape:=kn [(0,lv)] none
def ai1 (a0:Int) (a8:Int) (c0:List (UInt64)) (c1:List (UInt64)) (c2:List (UInt64)) (c3:List (UInt64)):OT (Sum cz aQ):=
 let z0:Int:=Int.tdiv a8 (64:Int)
 (.br (decide ((0:Int)<=a8))
 (gd [true&&inR z0,inB z0 4,decide (Int.toNat z0+0<List.length c1)] (.br (bu (List.getD c1 (Int.toNat z0+0) (0:UInt64)) (↑(UInt64.toNat (i2u (Int.tmod a8 (64:Int)))):Int)&&&(1:UInt64)==(0:UInt64))
  (gd [inR (a8-(1:Int))] (.ok (.inl ((a0,((),((),((),((),(a8-(1:Int),())))))),(c0,(c1,(c2,(c3,()))))))))
  (.ok (.inr ⟨(.exit 0,lv),((a0,((),((),((),((),(a8,())))))),(c0,(c1,(c2,(c3,())))))⟩))))
 (.ok (.inr ⟨(.exit 0,lv),((a0,((),((),((),((),(a8,())))))),(c0,(c1,(c2,(c3,())))))⟩)))
def tX (s:cz):OT (Sum cz aQ):=ai1 (s.1.1) (s.1.2.2.2.2.2.1) (s.2.1) (s.2.2.1) (s.2.2.2.1) (s.2.2.2.2.1)
theorem aiX (s:cz) (Q:Sum cz aQ->Prop):wps te sU az 1000 (bL (ao Tryz.f129) 0) (tW.inj s) (df tW Vm (Q:Sum tW.T aQ->Prop))=(tX s).wpR Q:=by kernel_rfl
def Aw (g0_0:cz->jI) (s:cz):OT aQ:=(.ok ⟨(.exit 0,lv),g0_0 s⟩)
def tV:Shape:=⟨53,[(0,.val false .int),(4,.ptr 0 0 0),(5,.ptr 1 0 0),(6,.ptr 2 0 0),(7,.ptr 3 0 0),(9,.val false .int)],[(0,.row .u64),(1,.row .u64),(2,.row .u64),(3,.row .u64)],0,true⟩
abbrev cI:Type:=((Int)×(Unit)×(Unit)×(Unit)×(Unit)×(Int)×Unit)×((List (UInt64))×(List (UInt64))×(List (UInt64))×(List (UInt64))×Unit)
def pR:Shape:=⟨53,[(6,.ptr 0 0 0),(7,.ptr 1 0 0)],[(0,.row .u64),(1,.row .u64)],0,true⟩
abbrev jH:Type:=((Unit)×(Unit)×Unit)×((List (UInt64))×(List (UInt64))×Unit)
def Vl:SE->Option Shape:=kn [(2,pR)] none
def Ie (a0:Int) (a9:Int) (c0:List (UInt64)) (c1:List (UInt64)) (c2:List (UInt64)) (c3:List (UInt64)):OT (Sum cI aQ):=
 let z0:Nat:=List.length c3
 let z1:Bool:=decide (4<=z0)
 let z2:aa:= {w0:=List.getD c3 0 0,w1:=List.getD c3 1 0,w2:=List.getD c3 2 0,w3:=List.getD c3 3 0}
 let z3:Int:=Int.tdiv a9 (64:Int)
 let z4:Nat:=pS a0
 let z5:aa:=aN z4 z2 z2
 let z6:List UInt64:=List.set (List.set (List.set (List.set c3 0 z5.w0) 1 z5.w1) 2 z5.w2) 3 z5.w3
 let z7:Nat:=List.length z6
 let z8:aa:= {w0:=List.getD z6 0 0,w1:=List.getD z6 1 0,w2:=List.getD z6 2 0,w3:=List.getD z6 3 0}
 let z9:aa:= {w0:=List.getD c0 0 0,w1:=List.getD c0 1 0,w2:=List.getD c0 2 0,w3:=List.getD c0 3 0}
 let z10:Bool:=inR (a9-(1:Int))
 let z11:aa:=aN z4 z8 z9
 (.br (decide ((0:Int)<=a9))
 (gd [z1,z1,b9 ((a0,z2,z2,()),()),decide ((4/1:Nat)+0<=z0),true&&inR z3,inB z3 4,decide (Int.toNat z3+0<List.length c1)] (.br (bu (List.getD c1 (Int.toNat z3+0) (0:UInt64)) (↑(UInt64.toNat (i2u (Int.tmod a9 (64:Int)))):Int)&&&(1:UInt64)==(1:UInt64))
  (gd [decide (4<=z7),decide (4<=List.length c0),b9 ((a0,z8,z9,()),()),decide ((4/1:Nat)+0<=z7),z10] (.ok (.inl ((a0,((),((),((),((),(a9-(1:Int),())))))),(c0,(c1,(c2,(List.set (List.set (List.set (List.set z6 0 z11.w0) 1 z11.w1) 2 z11.w2) 3 z11.w3,()))))))))
  (gd [z10] (.ok (.inl ((a0,((),((),((),((),(a9-(1:Int),())))))),(c0,(c1,(c2,(z6,()))))))))))
 (.ok (.inr ⟨(.exit 2,pR),(((),((),())),(c2,(c3,())))⟩)))
def pT (s:cI):OT (Sum cI aQ):=Ie (s.1.1) (s.1.2.2.2.2.2.1) (s.2.1) (s.2.2.1) (s.2.2.2.1) (s.2.2.2.2.1)
theorem aiW (s:cI) (Q:Sum cI aQ->Prop):wps te sU az 1000 (bL (ao Tryz.f129) 2) (tV.inj s) (df tV Vl (Q:Sum tV.T aQ->Prop))=(pT s).wpR Q:=by kernel_rfl
def Av (g2_2:cI->jH) (s:cI):OT aQ:=(.ok ⟨(.exit 2,pR),g2_2 s⟩)
def pQ:ax:=⟨[.val true .elem],[],false⟩
def LC:SV->Option ax:=λ_=>some pQ
def PX (ok0:cz->Bool) (g0_0:cz->jI) (ok2:cI->Bool) (g2_2:cI->jH) (a0:Int) (a1:aa) (a2:aa):OT gU.Y:=
 let z0:Int×PUnit×PUnit×PUnit×PUnit×Int×PUnit:=(a0,(),(),(),(),(255:Int),())
 let z1:aa:=ofP (pS a0) {w0:=1,w1:=0,w2:=0,w3:=0}
 let z2:(Int×PUnit×PUnit×PUnit×PUnit×Int×PUnit)×List UInt64×List UInt64×List UInt64×List UInt64×PUnit:=(z0,[a1.w0,a1.w1,a1.w2,a1.w3],[a2.w0,a2.w1,a2.w2,a2.w3],[(0:UInt64),(0:UInt64),(0:UInt64),(0:UInt64)],[z1.w0,z1.w1,z1.w2,z1.w3],())
 let z3:(Int×PUnit×PUnit×PUnit×PUnit×Int×PUnit)×List UInt64×List UInt64×List UInt64×List UInt64×PUnit:=g0_0 z2
 let z4:=z3.fst
 let z5:=z3.snd
 let z6:=z5.snd
 let z7:=z6.snd
 let z8:(Int×PUnit×PUnit×PUnit×PUnit×Int×PUnit)×List UInt64×List UInt64×List UInt64×List UInt64×PUnit:=((z4.fst,(),(),(),(),z4.snd.snd.snd.snd.snd.fst,()),z5.fst,z6.fst,z7.fst,z7.snd.fst,())
 let z9:=(g2_2 z8).snd
 let z10:=z9.snd.fst
 let z11:=z9.fst
 let z12:List UInt64:=lay z11 z10 4 (0:UInt64)
 let z13:(Int×PUnit×PUnit×PUnit×PUnit×Int×PUnit)×List UInt64×List UInt64×List UInt64×List UInt64×PUnit:=(z0,[a1.w0,a1.w1,a1.w2,a1.w3],[a2.w0,a2.w1,a2.w2,a2.w3],[(0:UInt64),(0:UInt64),(0:UInt64),(0:UInt64)],[(0:UInt64),(0:UInt64),(0:UInt64),(0:UInt64)],())
 let z14:(Int×PUnit×PUnit×PUnit×PUnit×Int×PUnit)×List UInt64×List UInt64×List UInt64×List UInt64×PUnit:=g0_0 z13
 let z15:=z14.fst
 let z16:=z14.snd
 let z17:=z16.snd
 let z18:=z17.snd
 let z19:(Int×PUnit×PUnit×PUnit×PUnit×Int×PUnit)×List UInt64×List UInt64×List UInt64×List UInt64×PUnit:=((z15.fst,(),(),(),(),z15.snd.snd.snd.snd.snd.fst,()),z16.fst,z17.fst,z18.fst,z18.snd.fst,())
 let z20:=(g2_2 z19).snd
 let z21:=z20.snd.fst
 let z22:=z20.fst
 let z23:List UInt64:=lay z22 z21 4 (0:UInt64)
 (.br (ak a0)
 (gd [ok0 z2,ok2 z8,decide (4<=List.length z10),decide ((4/1:Nat)+0<=List.length z11),decide (4<=List.length z12)] (.ok ⟨pQ,(({w0:=List.getD z12 0 0,w1:=List.getD z12 1 0,w2:=List.getD z12 2 0,w3:=List.getD z12 3 0},()),())⟩))
 (gd [ok0 z13,ok2 z19,decide (4<=List.length z21),decide ((4/1:Nat)+0<=List.length z22),decide (4<=List.length z23)] (.ok ⟨pQ,(({w0:=List.getD z23 0 0,w1:=List.getD z23 1 0,w2:=List.getD z23 2 0,w3:=List.getD z23 3 0},()),())⟩)))
theorem anv (ok0:cz->Bool) (g0_0:cz->jI) (ok2:cI->Bool) (g2_2:cI->jH) (x:FQ) (Q:gU.Y->Prop):wpf te sU (bn 2 (dC tV 2 ok2 (Av g2_2)) (bn 0 (dC tW 0 ok0 (Aw g0_0)) az)) 1000 Tryz.f129 (gU.inp.inj x).tm (gU.inp.inj x).hp (fnK gU LC Q) (λ_ _=>False)=(PX ok0 g0_0 ok2 g2_2 (x.1.1) (x.1.2.1) (x.1.2.2.1)).wpR Q:=by kernel_rfl
theorem XW (ok0:cz->Bool) (g0_0:cz->jI) (ok2:cI->Bool) (g2_2:cI->jH) (h0:∀ s:cz,ok0 s=true->∃ m e,av (tX) m s=some e/\(Aw g0_0 s).run=some e) (h2:∀ s:cI,ok2 s=true->∃ m e,av (pT) m s=some e/\(Av g2_2 s).run=some e) (pre:FQ->Bool) (F:FQ->OT gU.Y) (hF:∀ (x:FQ) oy,pre x=true->(F x).run=some oy->(PX ok0 g0_0 ok2 g2_2 (x.1.1) (x.1.2.1) (x.1.2.2.1)).run=some oy):ac Tryz.prog 129 (gU.aI pre F):=
 aE au mf sT (f:=129) (fn:=Tryz.f129) (c:=ao Tryz.f129) (by kernel_rfl) (by kernel_rfl) (by kernel_rfl) (S:=gU) (k:=0) (by kernel_rfl) (λR hR=>(aH (c:=(ao Tryz.f129)) (by kernel_rfl) (id:=2) (by kernel_rfl) (bz au mf sT (sh:=tV) hR (xs:=Vl) (aJ (by kernel_rfl) (by kernel_rfl) hR) aY ag (n:=1000) (T:=pT) (λs Q=>aiW s Q) (ok:=ok2) (f:=Av g2_2) h2) (aH (c:=(ao Tryz.f129)) (by kernel_rfl) (id:=0) (by kernel_rfl) (bz au mf sT (sh:=tW) hR (xs:=Vm) (aJ (by kernel_rfl) (by kernel_rfl) hR) aY ag (n:=1000) (T:=tX) (λs Q=>aiX s Q) (ok:=ok0) (f:=Aw g0_0) h0) ag))) (n:=1000) (sel:=LC) (λv o h=>by cases h;rfl) (pre:=pre) (F:=F) (T:=λx=>PX ok0 g0_0 ok2 g2_2 (x.1.1) (x.1.2.1) (x.1.2.2.1)) (λx Q=>anv ok0 g0_0 ok2 g2_2 x Q) hF
theorem Im {p:Nat}:∀ (n o x k:Nat),k<2^n->o<p->akV p n o x k=o*x^k%p
 |0,o,x,k,hk,ho=>by
  have:k=0:=by omega
  subst this
  show o=_
  rw [Nat.pow_zero,Nat.mul_one,Nat.mod_eq_of_lt ho]
 |n+1,o,x,k,hk,ho=>by
  unfold akV
  rw [Nat.pow_succ] at hk
  cases h0:Nat.beq k 0
  ·simp only [cond_false]
   have hsq:(x*x%p)^(k/2)%p=x^(2*(k/2))%p:=by
    rw [<-Nat.pow_mod,Nat.pow_mul,Nat.pow_two]
   cases h1:Nat.beq (k%2) 1
   ·have h1':¬k%2=1:=λe=>by rw [e] at h1;cases h1
    simp only [cond_false]
    rw [Im n _ _ _ (by omega) ho,Nat.mul_mod,hsq,<-Nat.mul_mod,show 2*(k/2)=k by omega]
   ·have h1:=Nat.eq_of_beq_eq_true h1
    simp only [cond_true]
    rw [Im n _ _ _ (by omega) (Nat.mod_lt _ (by omega)),Nat.mul_mod,hsq,Nat.mod_mod,<-Nat.mul_mod,Nat.mul_assoc,<-Nat.pow_succ',show (2*(k/2)).succ=k by omega]
  ·have h0:=Nat.eq_of_beq_eq_true h0
   subst h0
   simp only [cond_true]
   rw [Nat.pow_zero,Nat.mul_one,Nat.mod_eq_of_lt ho]
theorem aoA {p:Nat} (hp:1<p) (a k:aa):vX p a k=ofN (a.nat^k.nat%p):=by
 rw [Jv (by omega),Im 256 1 _ _ (gv k) hp,Nat.one_mul,<-Nat.pow_mod]
theorem aq7 {b:aa} {k:Nat} (hk:k<256):(bu (List.getD (lst b) (Int.toNat (Int.tdiv (k:Int) 64)+0) 0) (((i2u (Int.tmod (k:Int) 64)).toNat:Nat):Int)&&&1==1)=Aj b.nat k:=by
 have h:=alk (b:=b) (n:=255-k) (by omega)
 rw [show (255:Int)-((255-k:Nat):Int)=(k:Int) by omega,show 255-(255-k)=k by omega] at h
 exact h
theorem Xa (x:UInt64):(x&&&1==0)= !(x&&&1==1):=by
 have h:=RP x
 have e:(x&&&1).toNat=x.toNat%2:=by
  rw [UInt64.toNat_and]
  exact Nat.and_two_pow_sub_one_eq_mod x.toNat 1
 have h2:x.toNat%2=0\/x.toNat%2=1:=by omega
 rcases h2 with h2|h2
 ·have:x&&&1=0:=UInt64.toNat_inj.1 (by rw [e,h2];rfl)
  rw [this];rfl
 ·have:x&&&1=1:=UInt64.toNat_inj.1 (by rw [e,h2];rfl)
  rw [this];rfl
def Xt (e:Nat):Nat->Int
 |0=> -1
 |n+1=>cond (Aj e n) (n:Int) (Xt e n)
theorem JU {e n:Nat} (h:Aj e n=false):e/2^n%2=0:=by
 unfold Aj at h
 have:¬e/2^n%2=1:=λe=>by rw [e] at h;cases h
 omega
theorem A3 (e:Nat):∀ n,e/2^n=0->∃ t:Nat,Xt e n=(t:Int)-1/\t<=n/\e/2^t=0
 |0,h=>⟨0,rfl,Nat.le_refl _,h⟩
 |n+1,h=>by
  unfold Xt
  cases hb:Aj e n
  ·simp only [cond_false]
   have h0:=JU hb
   have h1:e/2^n/2=0:=by rw [Nat.div_div_eq_div_mul,<-Nat.pow_succ];exact h
   obtain ⟨t,e1,e2,e3⟩:=A3 e n (by omega)
   exact ⟨t,e1,by omega,e3⟩
  ·exact ⟨n+1,by simp only [cond_true];omega,Nat.le_refl _,h⟩
def E7 (s:Int) (A B:aa) (c2:List UInt64) (O:aa) (i:Int):cz:=((s,(),(),(),(),i,()),(lst A,lst B,c2,lst O,()))
theorem aj5 {B:aa} {k:Nat} (hk:k<256) {α:Type} (z:OT α):(gd [true&&inR (Int.tdiv (k:Int) 64),inB (Int.tdiv (k:Int) 64) 4,decide (Int.toNat (Int.tdiv (k:Int) 64)+0<(lst B).length)] z).run=z.run:=by
 have t1:Int.tdiv (k:Int) 64=((k/64:Nat):Int):=by rw [Int.tdiv_eq_ediv_of_nonneg (by omega)];omega
 refine al ?_
 simp only [t1,Int.toNat_natCast,Nat.add_zero,cS,List.all_cons,List.all_nil,Bool.and_true,Bool.true_and,Bool.and_eq_true]
 exact ⟨bF (by omega),bG (by omega),decide_eq_true (by omega)⟩
theorem WE (s:Int) (A B:aa) (c2:List UInt64) (O:aa):∀ n:Nat,n<=256->∃ m,av tX m (E7 s A B c2 O ((n:Int)-1))=some ⟨(.exit 0,lv),E7 s A B c2 O (Xt B.nat n)⟩
 |0,_=>⟨1,aR (OT.ay (decide_eq_false (by dsimp only [E7];omega)))⟩
 |n+1,hn=>by
  have e1:((n+1:Nat):Int)-1=(n:Int):=by omega
  rw [e1]
  have hb:=aq7 (b:=B) (k:=n) (by omega)
  unfold Xt
  rcases (Bool.eq_false_or_eq_true (Aj B.nat n)).symm with h|h
  ·obtain ⟨m,hm⟩:=WE s A B c2 O n (by omega)
   rw [h] at hb⊢
   refine ⟨m+1,aM ?_ hm⟩
   refine (OT.ap (decide_eq_true (by dsimp only [E7];omega))).trans ((aj5 (B:=B) (k:=n) (by omega) _).trans ((OT.ap ?_).trans ((al ?_).trans rfl)))
   ·exact (Xa _).trans (congrArg Bool.not hb)
   ·simp only [List.all_cons,List.all_nil,Bool.and_true]
    exact bF (by dsimp only [E7];omega)
  ·rw [h] at hb⊢
   refine ⟨1,aR ?_⟩
   refine (OT.ap (decide_eq_true (by dsimp only [E7];omega))).trans ((aj5 (B:=B) (k:=n) (by omega) _).trans ((OT.ay ?_).trans rfl))
   exact (Xa _).trans (congrArg Bool.not hb)
def LD (s:cz):Bool:=decide (s.1.2.2.2.2.2.1=255/\s.2.1.length=4/\s.2.2.1.length=4/\s.2.2.2.2.1.length=4)
def Vo (s:cz):jI:=((s.1.1,(),(),(),(),Xt (elemOf s.2.2.1).nat 256,()),s.2)
theorem ai0:∀ s:cz,LD s=true->∃ m e,av tX m s=some e/\(Aw Vo s).run=some e:=by
 rintro ⟨⟨s,⟨⟩,⟨⟩,⟨⟩,⟨⟩,i,⟨⟩⟩,⟨l0,l1,c2,l3,⟨⟩⟩⟩ h
 have h':=of_decide_eq_true h
 dsimp only at h'
 obtain ⟨rfl,h0,h1,h3⟩:=h'
 obtain ⟨A,rfl⟩:∃ a,l0=lst a:=⟨elemOf l0,(bh h0).symm⟩
 obtain ⟨B,rfl⟩:∃ a,l1=lst a:=⟨elemOf l1,(bh h1).symm⟩
 obtain ⟨O,rfl⟩:∃ a,l3=lst a:=⟨elemOf l3,(bh h3).symm⟩
 obtain ⟨m,hm⟩:=WE s A B c2 O 256 (by omega)
 exact ⟨m,_,hm,rfl⟩
theorem aoB {s:Int} (hs:ak s=true) (A B:aa) (c2:List UInt64) (O:aa) {k:Nat} (hk:k<256) (hO:O=ofN (A.nat^(B.nat/2^(k+1))%pS s)):
 (pT (E7 s A B c2 O (k:Int))).run=some (.inl (E7 s A B c2 (ofN (A.nat^(B.nat/2^k)%pS s)) ((k:Int)-1))):=by
 have hp:=fh hs
 have hb:=aq7 (b:=B) (k:=k) hk
 have t1:Int.tdiv (k:Int) 64=((k/64:Nat):Int):=by rw [Int.tdiv_eq_ediv_of_nonneg (by omega)];omega
 have hOn:O.nat=A.nat^(B.nat/2^(k+1))%pS s:=by rw [hO];exact cv hp
 have hi:inR ((k:Int)-1)=true:=bF (by omega)
 have hpre:∀ x y,b9 ((s,x,y,()),())=true:=λ_ _=>hs
 have hD:aN (pS s) O O=ofN (A.nat^(2*(B.nat/2^(k+1)))%pS s):=by
  unfold aN
  rw [hOn,<-Nat.mul_mod,<-Nat.pow_add,<-Nat.two_mul]
 have hq:B.nat/2^k/2=B.nat/2^(k+1):=by rw [Nat.div_div_eq_div_mul,<-Nat.pow_succ]
 show (Ie s (k:Int) (lst A) (lst B) c2 (lst O)).run=_
 unfold Ie
 simp only [ao4,apb,cS,hpre,hi]
 refine (OT.ap (decide_eq_true (by omega))).trans ((al ?_).trans ?_)
 ·simp only [t1,Int.toNat_natCast,Nat.add_zero,cS,List.all_cons,List.all_nil,Bool.and_true,Bool.true_and,Bool.and_eq_true]
  exact ⟨rfl,rfl,rfl,bF (by omega),bG (by omega),decide_eq_true (by omega)⟩
 ·rcases (Bool.eq_false_or_eq_true (Aj B.nat k)).symm with h|h
  ·have h0:=JU h
   rw [h] at hb
   refine (OT.ay hb).trans ((al rfl).trans ?_)
   rw [hD,<-hq,show 2*(B.nat/2^k/2)=B.nat/2^k by omega]
   rfl
  ·have h0:B.nat/2^k%2=1:=Nat.eq_of_beq_eq_true h
   rw [h] at hb
   refine (OT.ap hb).trans ((al rfl).trans ?_)
   have e:aN (pS s) (aN (pS s) O O) A=ofN (A.nat^(B.nat/2^k)%pS s):=by
    have e2:(aN (pS s) O O).nat=A.nat^(2*(B.nat/2^(k+1)))%pS s:=by rw [hD];exact cv hp
    show ofN (_*_%_)=_
    rw [e2,Nat.mod_mul_mod,<-Nat.pow_succ,<-hq,show (2*(B.nat/2^k/2)).succ=B.nat/2^k by omega]
   rw [e]
   rfl
theorem WD {s:Int} (hs:ak s=true) (A B:aa) (c2:List UInt64):∀ (n:Nat) (O:aa),n<=256->O=ofN (A.nat^(B.nat/2^n)%pS s)->
 ∃ m,av pT m (E7 s A B c2 O ((n:Int)-1))=some ⟨(.exit 2,pR),(((),(),()),(c2,lst (ofN (A.nat^B.nat%pS s)),()))⟩
 |0,O,_,hO=>by
  rw [Nat.pow_zero,Nat.div_one] at hO
  rw [<-hO]
  exact ⟨1,aR (OT.ay (decide_eq_false (by dsimp only [E7];omega)))⟩
 |n+1,O,hn,hO=>by
  obtain ⟨m,hm⟩:=WD hs A B c2 n (ofN (A.nat^(B.nat/2^n)%pS s)) (by omega) rfl
  rw [show ((n+1:Nat):Int)-1=(n:Int) by omega]
  exact ⟨m+1,aM (aoB hs A B c2 O (by omega) hO) hm⟩
def BA (s:cI):Bool:=ak s.1.1&&decide (s.1.2.2.2.2.2.1=Xt (elemOf s.2.2.1).nat 256/\s.2.1.length=4/\s.2.2.1.length=4/\s.2.2.2.2.1=lst (ofP (pS s.1.1) ⟨1,0,0,0⟩))
def Vn (s:cI):jH:=(((),(),()),(s.2.2.2.1,lst (ofN ((elemOf s.2.1).nat^(elemOf s.2.2.1).nat%pS s.1.1)),()))
theorem aiZ:∀ s:cI,BA s=true->∃ m e,av pT m s=some e/\(Av Vn s).run=some e:=by
 rintro ⟨⟨s,⟨⟩,⟨⟩,⟨⟩,⟨⟩,i,⟨⟩⟩,⟨l0,l1,c2,l3,⟨⟩⟩⟩ h
 simp only [BA,Bool.and_eq_true,decide_eq_true_eq] at h
 obtain ⟨hs,rfl,h0,h1,rfl⟩:=h
 obtain ⟨A,rfl⟩:∃ a,l0=lst a:=⟨elemOf l0,(bh h0).symm⟩
 obtain ⟨B,rfl⟩:∃ a,l1=lst a:=⟨elemOf l1,(bh h1).symm⟩
 obtain ⟨t,e1,e2,e3⟩:=A3 B.nat 256 (Nat.div_eq_of_lt (gv B))
 obtain ⟨m,hm⟩:=WD hs A B c2 t (ofP (pS s) ⟨1,0,0,0⟩) e2 (by rw [e3,Nat.pow_zero];rfl)
 rw [<-e1] at hm
 exact ⟨m,_,hm,rfl⟩
theorem apT {s:Int} (h:ak s=true):1<pS s:=akX h
def jG (x:FQ):Bool:=ak x.1.1
def ac6 (x:FQ):OT gU.Y:=.ok ⟨pQ,((vX (pS x.1.1) x.1.2.1 x.1.2.2.1,()),())⟩
theorem aiY:ac Tryz.prog 129 (gU.aI jG ac6):=XW LD Vo BA Vn ai0 aiZ _ _ λx oy hp ho=>by
 rw [<-ho]
 clear ho
 obtain ⟨⟨s,a,b,⟨⟩⟩,⟨⟩⟩:=x
 have hs:ak s=true:=hp
 show _=some (⟨pQ,((vX (pS s) a b,()),())⟩:gU.Y)
 rw [aoA (apT hs)]
 refine (OT.ap hs).trans ((al ?_).trans ?_)
 ·simp only [List.all_cons,List.all_nil,Bool.and_true,Bool.and_eq_true]
  refine ⟨decide_eq_true ⟨rfl,rfl,rfl,rfl⟩,?_,rfl,rfl,rfl⟩
  refine (Bool.and_eq_true _ _).mpr ⟨hs,?_⟩
  exact decide_eq_true ⟨rfl,rfl,rfl,rfl⟩
 ·show some (⟨pQ,((elemOf (lay [0,0,0,0] (lst (ofN (a.nat^b.nat%pS s))) 4 0),()),())⟩:gU.Y)=_
  rw [ao6 _ _ rfl rfl]
  rfl
def wO:cN:=(gU.aI jG ac6)
theorem PW:ac Tryz.prog 129 wO:=aiY
theorem PV:aK wO:=aB
def D4:Env:=aA 129 wO sU
theorem yn:aW Tryz.prog D4:=ai PW mf
theorem zy:aw D4:=ae PV zq
theorem Sc:bc Tryz.prog te D4:=aO follows au yn zy
def iI:aq:=⟨[.val false .int,.val true .elem],[],true,0,false⟩
abbrev FK:Type:=((Int)×(aa)×Unit)×(Unit)
def iW:ax:=⟨[.val true .elem,.val false .int],[],false⟩
def Lw:SV->Option ax:=λ_=>some iW
def PM (a0:Int) (a1:aa):OT iI.Y:=
 let z0:Bool:=ak a0
 let z1:Nat:=pS a0
 let z2:aa:=ofP z1 a1
 let z3:aa:= {w0:=0,w1:=0,w2:=0,w3:=0}
 let z4:aa:=(kT (bO (Int.toNat a0)).fst {w0:=2,w1:=0,w2:=0,w3:=0}).fst
 (.br (z0)
 (.br (z0)
  (.br (z2.w0==(0:UInt64)&&(z2.w1==(0:UInt64)&&(z2.w2==(0:UInt64)&&(z2.w3==(0:UInt64)&&true))))
   (.ok ⟨iW,((z3,((10:Int),())),())⟩)
   (gd [jG ((a0,a1,z4,()),())] (.ok ⟨iW,((vX z1 a1 z4,((0:Int),())),())⟩)))
  (.ok ⟨iW,((z3,((10:Int),())),())⟩))
 (.ok ⟨iW,((z3,((20:Int),())),())⟩))
theorem ant (x:FK) (Q:iI.Y->Prop):wpf te D4 az 1000 Tryz.f174 (iI.inp.inj x).tm (iI.inp.inj x).hp (fnK iI Lw Q) (λ_ _=>False)=(PM (x.1.1) (x.1.2.1)).wpR Q:=by kernel_rfl
theorem XT (pre:FK->Bool) (F:FK->OT iI.Y) (hF:∀ (x:FK) oy,pre x=true->(F x).run=some oy->(PM (x.1.1) (x.1.2.1)).run=some oy):ac Tryz.prog 174 (iI.aI pre F):=
 aE au yn Sc (f:=174) (fn:=Tryz.f174) (c:=ao Tryz.f174) (by kernel_rfl) (by kernel_rfl) (by kernel_rfl) (S:=iI) (k:=0) (by kernel_rfl) (λR hR=>ag) (n:=1000) (sel:=Lw) (λv o h=>by cases h;rfl) (pre:=pre) (F:=F) (T:=λx=>PM (x.1.1) (x.1.2.1)) (λx Q=>ant x Q) hF
def Bv (x:FK):Bool:=ak x.1.1
def ac0 (x:FK):OT iI.Y:=.br (Nat.beq (x.1.2.1.nat%pS x.1.1) 0) (.ok ⟨iW,((⟨0,0,0,0⟩,((10:Int),())),())⟩) (.ok ⟨iW,((agn (pS x.1.1) x.1.2.1,((0:Int),())),())⟩)
theorem aiT:ac Tryz.prog 174 (iI.aI Bv ac0):=XT _ _ λx oy hp ho=>by
 rw [<-ho]
 clear ho
 obtain ⟨⟨s,a,⟨⟩⟩,⟨⟩⟩:=x
 have hs:ak s=true:=hp
 have hz:cr (ofP (pS s) a)=Nat.beq (a.nat%pS s) 0:=Ss (fh hs) _
 refine (OT.ap hs).trans ((OT.ap hs).trans ?_)
 show _=(OT.br (Nat.beq (a.nat%pS s) 0) (.ok ⟨iW,((⟨0,0,0,0⟩,((10:Int),())),())⟩) (.ok ⟨iW,((agn (pS s) a,((0:Int),())),())⟩):OT iI.Y).run
 rw [<-aef hs,<-hz]
 rcases (Bool.eq_false_or_eq_true (cr (ofP (pS s) a))).symm with h|h
 ·refine (OT.ay h).trans (Eq.trans ((al ?_).trans rfl) (OT.ay (b:=cr (ofP (pS s) a)) h).symm)
  simp only [List.all_cons,List.all_nil,Bool.and_true]
  exact hs
 ·exact (OT.ap h).trans (OT.ap (b:=cr (ofP (pS s) a)) h).symm
def wK:cN:=(iI.aI Bv ac0)
theorem PL:ac Tryz.prog 174 wK:=aiT
theorem PK:aK wK:=aB
def D1:Env:=aA 174 wK D4
theorem yk:aW Tryz.prog D1:=ai PL yn
theorem zu:aw D1:=ae PK zy
theorem Sb:bc Tryz.prog te D1:=aO follows au yk zu
def nl:aq:=⟨[.val false .int,.val true .elem,.val true .elem],[],true,0,false⟩
abbrev XZ:Type:=((Int)×(aa)×(aa)×Unit)×(Unit)
def BC:ax:=⟨[.val true .elem],[],false⟩
def Vp:SV->Option ax:=λ_=>some BC
def ac8 (a0:Int) (a1:aa) (a2:aa):OT nl.Y:=
 let z0:Nat:=pS a0
 let z1:aa:= {w0:=0,w1:=0,w2:=0,w3:=0}
 let z2:aa:=agn z0 a2
 (gd [Bv ((a0,a2,()),())] (.br (Nat.beq (aa.nat a2%z0) 0)
 (gd [b9 ((a0,a1,z1,()),())] (.ok ⟨BC,((aN z0 a1 z1,()),())⟩))
 (gd [b9 ((a0,a1,z2,()),())] (.ok ⟨BC,((aN z0 a1 z2,()),())⟩))))
theorem apP (x:XZ) (Q:nl.Y->Prop):wpf te D1 az 1000 Tryz.f173 (nl.inp.inj x).tm (nl.inp.inj x).hp (fnK nl Vp Q) (λ_ _=>False)=(ac8 (x.1.1) (x.1.2.1) (x.1.2.2.1)).wpR Q:=by kernel_rfl
theorem ac7 (pre:XZ->Bool) (F:XZ->OT nl.Y) (hF:∀ (x:XZ) oy,pre x=true->(F x).run=some oy->(ac8 (x.1.1) (x.1.2.1) (x.1.2.2.1)).run=some oy):ac Tryz.prog 173 (nl.aI pre F):=
 aE au yk Sb (f:=173) (fn:=Tryz.f173) (c:=ao Tryz.f173) (by kernel_rfl) (by kernel_rfl) (by kernel_rfl) (S:=nl) (k:=0) (by kernel_rfl) (λR hR=>ag) (n:=1000) (sel:=Vp) (λv o h=>by cases h;rfl) (pre:=pre) (F:=F) (T:=λx=>ac8 (x.1.1) (x.1.2.1) (x.1.2.2.1)) (λx Q=>apP x Q) hF
def byP (p:Nat) (a b:aa):aa:=aN p a (td p b)
def Ax (x:XZ):Bool:=ak x.1.1
def akT (x:XZ):OT nl.Y:=.ok ⟨BC,((byP (pS x.1.1) x.1.2.1 x.1.2.2.1,()),())⟩
theorem anw:ac Tryz.prog 173 (nl.aI Ax akT):=ac7 _ _ λx oy hp ho=>by
 rw [<-ho]
 clear ho
 obtain ⟨⟨s,a,b,⟨⟩⟩,⟨⟩⟩:=x
 have hs:ak s=true:=hp
 show _=some (⟨BC,((byP (pS s) a b,()),())⟩:nl.Y)
 refine (al ?_).trans ?_
 ·simp only [List.all_cons,List.all_nil,Bool.and_true,Bool.and_eq_true]
  exact hs
 ·rcases (Bool.eq_false_or_eq_true (Nat.beq (b.nat%pS s) 0)).symm with h|h
  ·have e:td (pS s) b=agn (pS s) b:=by unfold td;rw [h];rfl
   unfold byP
   rw [e]
   refine (OT.ay h).trans ((al ?_).trans rfl)
   simp only [List.all_cons,List.all_nil,Bool.and_true]
   exact hs
  ·have e:td (pS s) b=⟨0,0,0,0⟩:=by unfold td;rw [h];rfl
   unfold byP
   rw [e]
   refine (OT.ap h).trans ((al ?_).trans rfl)
   simp only [List.all_cons,List.all_nil,Bool.and_true]
   exact hs
def BB:cN:=(nl.aI Ax akT)
theorem XY:ac Tryz.prog 173 BB:=anw
theorem XX:aK BB:=aB
def Hl:Env:=aA 173 BB D1
theorem vm:aW Tryz.prog Hl:=ai XY yk
theorem D5:aw Hl:=ae XX zu
theorem Hk:bc Tryz.prog te Hl:=aO follows au vm D5
def fw:aq:=⟨[.val true .elem],[],true,0,false⟩
abbrev wN:Type:=((aa)×Unit)×(Unit)
def nZ:Shape:=⟨29,[(1,.ptr 0 0 0),(2,.ptr 1 0 0),(3,.ptr 2 0 0),(4,.val false .int)],[(0,.row .u64),(1,.row .u64),(2,.row .u64)],0,true⟩
abbrev bZ:Type:=((Unit)×(Unit)×(Unit)×(Int)×Unit)×((List (UInt64))×(List (UInt64))×(List (UInt64))×Unit)
def mF:Shape:=⟨29,[(2,.ptr 0 0 0),(3,.ptr 1 0 0)],[(0,.row .u64),(1,.row .u64)],0,true⟩
abbrev ix:Type:=((Unit)×(Unit)×Unit)×((List (UInt64))×(List (UInt64))×Unit)
def Ly:SE->Option Shape:=kn [(0,mF)] none
def ac5 (a4:Int) (c0:List (UInt64)) (c1:List (UInt64)) (c2:List (UInt64)):OT (Sum bZ aQ):=
 let z0:Bool:=inB a4 4
 let z1:Nat:=List.length c0
 let z2:List UInt64:=List.set c2 (Int.toNat a4+0) (bu (List.getD c0 (Int.toNat a4+0) (0:UInt64)) (1:Int))
 let z3:Bool:=decide (Int.toNat a4+0<List.length z2)
 let z4:Bool:=inR (a4+(1:Int))
 (.br (decide (a4<(4:Int)))
 (gd [z0,decide (Int.toNat a4+0<z1),z0,decide (Int.toNat a4+0<List.length c2)] (.br (decide (a4<(3:Int)))
  (gd [z0,z3,z4,inB (a4+(1:Int)) 4,decide (Int.toNat (a4+(1:Int))+0<z1),z0,z3,z4] (.ok (.inl (((),((),((),(a4+(1:Int),())))),(c0,(c1,(List.set z2 (Int.toNat a4+0) (List.getD z2 (Int.toNat a4+0) (0:UInt64)|||cC (List.getD c0 (Int.toNat (a4+(1:Int))+0) (0:UInt64)) (63:Int)),())))))))
  (gd [z4] (.ok (.inl (((),((),((),(a4+(1:Int),())))),(c0,(c1,(z2,())))))))))
 (.ok (.inr ⟨(.exit 0,mF),(((),((),())),(c1,(c2,())))⟩)))
def fZ (s:bZ):OT (Sum bZ aQ):=ac5 (s.1.2.2.2.1) (s.2.1) (s.2.2.1) (s.2.2.2.1)
theorem ac2 (s:bZ) (Q:Sum bZ aQ->Prop):wps te Hl az 1000 (bL (ao Tryz.f130) 0) (nZ.inj s) (df nZ Ly (Q:Sum nZ.T aQ->Prop))=(fZ s).wpR Q:=by kernel_rfl
def tU (g0_0:bZ->ix) (s:bZ):OT aQ:=(.ok ⟨(.exit 0,mF),g0_0 s⟩)
def n0:ax:=⟨[.val true .elem],[],false⟩
def FN:SV->Option ax:=λ_=>some n0
def Ic (ok0:bZ->Bool) (g0_0:bZ->ix) (a0:aa):OT fw.Y:=
 let z0:(PUnit×PUnit×PUnit×Int×PUnit)×List UInt64×List UInt64×List UInt64×PUnit:=(((),(),(),(0:Int),()),[a0.w0,a0.w1,a0.w2,a0.w3],[(0:UInt64),(0:UInt64),(0:UInt64),(0:UInt64)],[(0:UInt64),(0:UInt64),(0:UInt64),(0:UInt64)],())
 let z1:=(g0_0 z0).snd
 let z2:=z1.snd.fst
 let z3:=z1.fst
 let z4:List UInt64:=lay z3 z2 4 (0:UInt64)
 (gd [ok0 z0,decide (4<=List.length z2),decide ((4/1:Nat)+0<=List.length z3),decide (4<=List.length z4)] (.ok ⟨n0,(({w0:=List.getD z4 0 0,w1:=List.getD z4 1 0,w2:=List.getD z4 2 0,w3:=List.getD z4 3 0},()),())⟩))
theorem aiV (ok0:bZ->Bool) (g0_0:bZ->ix) (x:wN) (Q:fw.Y->Prop):wpf te Hl (bn 0 (dC nZ 0 ok0 (tU g0_0)) az) 1000 Tryz.f130 (fw.inp.inj x).tm (fw.inp.inj x).hp (fnK fw FN Q) (λ_ _=>False)=(Ic ok0 g0_0 (x.1.1)).wpR Q:=by kernel_rfl
theorem PU (ok0:bZ->Bool) (g0_0:bZ->ix) (h0:∀ s:bZ,ok0 s=true->∃ m e,av (fZ) m s=some e/\(tU g0_0 s).run=some e) (pre:wN->Bool) (F:wN->OT fw.Y) (hF:∀ (x:wN) oy,pre x=true->(F x).run=some oy->(Ic ok0 g0_0 (x.1.1)).run=some oy):ac Tryz.prog 130 (fw.aI pre F):=
 aE au vm Hk (f:=130) (fn:=Tryz.f130) (c:=ao Tryz.f130) (by kernel_rfl) (by kernel_rfl) (by kernel_rfl) (S:=fw) (k:=0) (by kernel_rfl) (λR hR=>(aH (c:=(ao Tryz.f130)) (by kernel_rfl) (id:=0) (by kernel_rfl) (bz au vm Hk (sh:=nZ) hR (xs:=Ly) (aJ (by kernel_rfl) (by kernel_rfl) hR) aY ag (n:=1000) (T:=fZ) (λs Q=>ac2 s Q) (ok:=ok0) (f:=tU g0_0) h0) ag)) (n:=1000) (sel:=FN) (λv o h=>by cases h;rfl) (pre:=pre) (F:=F) (T:=λx=>Ic ok0 g0_0 (x.1.1)) (λx Q=>aiV ok0 g0_0 x Q) hF
def mU (a:aa) (c1 l:List UInt64) (i:Int):bZ:=(((),(),(),i,()),(lst a,c1,l,()))
theorem aqf (a:aa) (c1:List UInt64):(fZ (mU a c1 [0,0,0,0] 0)).run=some (.inl (mU a c1 [bu a.w0 1|||cC a.w1 63,0,0,0] 1)):=rfl
theorem aqe (a:aa) (c1:List UInt64) (x:UInt64):(fZ (mU a c1 [x,0,0,0] 1)).run=some (.inl (mU a c1 [x,bu a.w1 1|||cC a.w2 63,0,0] 2)):=rfl
theorem aqd (a:aa) (c1:List UInt64) (x y:UInt64):(fZ (mU a c1 [x,y,0,0] 2)).run=some (.inl (mU a c1 [x,y,bu a.w2 1|||cC a.w3 63,0] 3)):=rfl
theorem aqc (a:aa) (c1:List UInt64) (x y z:UInt64):(fZ (mU a c1 [x,y,z,0] 3)).run=some (.inl (mU a c1 [x,y,z,bu a.w3 1] 4)):=rfl
theorem aqb (a:aa) (c1 l:List UInt64):(fZ (mU a c1 l 4)).run=some (.inr ⟨(.exit 0,mF),(((),(),()),(c1,l,()))⟩):=rfl
def FP (s:bZ):Bool:=decide (s.1.2.2.2.1=0/\s.2.1.length=4/\s.2.2.2.1= [0,0,0,0])
def LB (s:bZ):ix:=(((),(),()),(s.2.2.1,lst (fk (elemOf s.2.1)),()))
theorem ac4:∀ s:bZ,FP s=true->∃ m e,av fZ m s=some e/\(tU LB s).run=some e:=by
 rintro ⟨⟨⟨⟩,⟨⟩,⟨⟩,i,⟨⟩⟩,⟨l,c1,c2,⟨⟩⟩⟩ h
 have h':=of_decide_eq_true h
 dsimp only at h'
 obtain ⟨rfl,hl,rfl⟩:=h'
 obtain ⟨a,rfl⟩:∃ a,l=lst a:=⟨elemOf l,(bh hl).symm⟩
 refine ⟨_,_,aM (aqf a c1) (aM (aqe a c1 _) (aM (aqd a c1 _ _) (aM (aqc a c1 _ _ _) (aR (aqb a c1 _))))),?_⟩
 have e: [bu a.w0 1|||cC a.w1 63,bu a.w1 1|||cC a.w2 63,bu a.w2 1|||cC a.w3 63,bu a.w3 1]=lst (fk a):=by rw [Wa];rfl
 rw [e]
 rfl
def FO (_:wN):Bool:=true
def Vk (x:wN):OT fw.Y:=.ok ⟨n0,((fk x.1.1,()),())⟩
theorem ac3:ac Tryz.prog 130 (fw.aI FO Vk):=PU FP LB ac4 _ _ λx oy hp ho=>by
 rw [<-ho]
 clear ho
 obtain ⟨⟨a,⟨⟩⟩,⟨⟩⟩:=x
 refine (al ?_).trans ?_
 ·simp only [List.all_cons,List.all_nil,Bool.and_true,Bool.and_eq_true]
  exact ⟨decide_eq_true ⟨rfl,rfl,rfl⟩,rfl,rfl,rfl⟩
 ·show some (⟨n0,((elemOf (lay [0,0,0,0] (lst (fk a)) 4 0),()),())⟩:fw.Y)=some ⟨n0,((fk a,()),())⟩
  rw [ao6 _ _ rfl rfl]
  rfl
def rO:cN:=(fw.aI FO Vk)
theorem LA:ac Tryz.prog 130 rO:=ac3
theorem Lz:aK rO:=aB
def qO:Env:=aA 130 rO Hl
theorem m9:aW Tryz.prog qO:=ai LA vm
theorem vl:aw qO:=ae Lz D5
theorem zx:bc Tryz.prog te qO:=aO follows au m9 vl
def dh:aq:=⟨[.val true .elem,.val false .int],[],true,0,false⟩
abbrev lu:Type:=((aa)×(Int)×Unit)×(Unit)
def jD:Shape:=⟨14,[(1,.val false .int),(2,.ptr 0 0 0),(4,.ptr 1 0 0),(5,.val false .int)],[(0,.row .u64),(1,.row .u64)],0,true⟩
abbrev bw:Type:=((Int)×(Unit)×(Unit)×(Int)×Unit)×((List (UInt64))×(List (UInt64))×Unit)
def iX:Shape:=⟨14,[(2,.ptr 0 0 0),(4,.ptr 1 0 0)],[(0,.row .u64),(1,.row .u64)],0,true⟩
abbrev fq:Type:=((Unit)×(Unit)×Unit)×((List (UInt64))×(List (UInt64))×Unit)
def Bx:SE->Option Shape:=kn [(0,iX)] none
def PT (a1:Int) (a5:Int) (c0:List (UInt64)) (c1:List (UInt64)):OT (Sum bw aQ):=
 let z0:Nat:=List.length c0
 let z1:aa:=fk {w0:=List.getD c0 0 0,w1:=List.getD c0 1 0,w2:=List.getD c0 2 0,w3:=List.getD c0 3 0}
 (.br (decide (a5<a1))
 (gd [decide (4<=z0),decide ((4/1:Nat)+0<=z0),inR (a5+(1:Int))] (.ok (.inl ((a1,((),((),(a5+(1:Int),())))),(List.set (List.set (List.set (List.set c0 0 z1.w0) 1 z1.w1) 2 z1.w2) 3 z1.w3,(c1,()))))))
 (.ok (.inr ⟨(.exit 0,iX),(((),((),())),(c0,(c1,())))⟩)))
def jF (s:bw):OT (Sum bw aQ):=PT (s.1.1) (s.1.2.2.2.1) (s.2.1) (s.2.2.1)
theorem PQ (s:bw) (Q:Sum bw aQ->Prop):wps te qO az 1000 (bL (ao Tryz.f132) 0) (jD.inj s) (df jD Bx (Q:Sum jD.T aQ->Prop))=(jF s).wpR Q:=by kernel_rfl
def mE (g0_0:bw->fq) (s:bw):OT aQ:=(.ok ⟨(.exit 0,iX),g0_0 s⟩)
def jE:ax:=⟨[.val true .elem],[],false⟩
def yN:SV->Option ax:=λ_=>some jE
def wM (ok0:bw->Bool) (g0_0:bw->fq) (a0:aa) (a1:Int):OT dh.Y:=
 let z0:(Int×PUnit×PUnit×Int×PUnit)×List UInt64×List UInt64×PUnit:=((a1,(),(),(0:Int),()),[a0.w0,a0.w1,a0.w2,a0.w3],[(0:UInt64),(0:UInt64),(0:UInt64),(0:UInt64)],())
 let z1:=(g0_0 z0).snd
 let z2:=z1.fst
 let z3:=z1.snd.fst
 let z4:List UInt64:=lay z3 z2 4 (0:UInt64)
 (gd [ok0 z0,decide (4<=List.length z2),decide ((4/1:Nat)+0<=List.length z3),decide (4<=List.length z4)] (.ok ⟨jE,(({w0:=List.getD z4 0 0,w1:=List.getD z4 1 0,w2:=List.getD z4 2 0,w3:=List.getD z4 3 0},()),())⟩))
theorem XV (ok0:bw->Bool) (g0_0:bw->fq) (x:lu) (Q:dh.Y->Prop):wpf te qO (bn 0 (dC jD 0 ok0 (mE g0_0)) az) 1000 Tryz.f132 (dh.inp.inj x).tm (dh.inp.inj x).hp (fnK dh yN Q) (λ_ _=>False)=(wM ok0 g0_0 (x.1.1) (x.1.2.1)).wpR Q:=by kernel_rfl
theorem Ib (ok0:bw->Bool) (g0_0:bw->fq) (h0:∀ s:bw,ok0 s=true->∃ m e,av (jF) m s=some e/\(mE g0_0 s).run=some e) (pre:lu->Bool) (F:lu->OT dh.Y) (hF:∀ (x:lu) oy,pre x=true->(F x).run=some oy->(wM ok0 g0_0 (x.1.1) (x.1.2.1)).run=some oy):ac Tryz.prog 132 (dh.aI pre F):=
 aE au m9 zx (f:=132) (fn:=Tryz.f132) (c:=ao Tryz.f132) (by kernel_rfl) (by kernel_rfl) (by kernel_rfl) (S:=dh) (k:=0) (by kernel_rfl) (λR hR=>(aH (c:=(ao Tryz.f132)) (by kernel_rfl) (id:=0) (by kernel_rfl) (bz au m9 zx (sh:=jD) hR (xs:=Bx) (aJ (by kernel_rfl) (by kernel_rfl) hR) aY ag (n:=1000) (T:=jF) (λs Q=>PQ s Q) (ok:=ok0) (f:=mE g0_0) h0) ag)) (n:=1000) (sel:=yN) (λv o h=>by cases h;rfl) (pre:=pre) (F:=F) (T:=λx=>wM ok0 g0_0 (x.1.1) (x.1.2.1)) (λx Q=>XV ok0 g0_0 x Q) hF
def yO (s:bw):Bool:=decide (s.1.2.2.2.1=0/\0<=s.1.1/\s.1.1<=1000000/\s.2.1.length=4)
def Bz (s:bw):fq:=(((),(),()),(lst (eT (elemOf s.2.1) s.1.1.toNat),s.2.2.1,()))
theorem PS:∀ s:bw,yO s=true->∃ m e,av jF m s=some e/\(mE Bz s).run=some e:=by
 rintro ⟨⟨k,⟨⟩,⟨⟩,i,⟨⟩⟩,⟨l,o,⟨⟩⟩⟩ h
 have h':=of_decide_eq_true h
 dsimp only at h'
 obtain ⟨rfl,h0,h1,hl⟩:=h'
 obtain ⟨a,rfl⟩:∃ a,l=lst a:=⟨elemOf l,(bh hl).symm⟩
 have:=(bP (T:=jF) (λi a=>(((k,(),(),(i:Int),()),(lst a,o,())):bw)) (λ_ e=>fk e)
  (λa=>(⟨(.exit 0,iX),(((),(),()),(lst a,o,()))⟩:aQ)) k.toNat a (λ_ _=>True) trivial (λi a hi _=>⟨?_,trivial⟩) (λa _=> ?_)).1
 ·rw [sr] at this
  obtain ⟨m,hm⟩:=this
  exact ⟨m,_,hm,rfl⟩
 ·refine (OT.ap (decide_eq_true (by dsimp only;omega))).trans ((al ?_).trans rfl)
  simp only [List.all_cons,List.all_nil,Bool.and_true,Bool.and_eq_true]
  exact ⟨rfl,rfl,bF (by omega)⟩
 ·exact OT.ay (decide_eq_false (by dsimp only;omega))
def nY (x:lu):Bool:=decide (0<=x.1.2.1/\x.1.2.1<=1000000)
def FM (x:lu):OT dh.Y:=.ok ⟨jE,((eT x.1.1 x.1.2.1.toNat,()),())⟩
theorem PR:ac Tryz.prog 132 (dh.aI nY FM):=Ib yO Bz PS _ _ λx oy hp ho=>by
 rw [<-ho]
 clear ho
 obtain ⟨⟨a,k,⟨⟩⟩,⟨⟩⟩:=x
 have hp':0<=k/\k<=1000000:=of_decide_eq_true hp
 refine (al ?_).trans ?_
 ·simp only [List.all_cons,List.all_nil,Bool.and_true,Bool.and_eq_true]
  exact ⟨decide_eq_true ⟨rfl,hp'.1,hp'.2,rfl⟩,rfl,rfl,rfl⟩
 ·show some (⟨jE,((elemOf (lay [0,0,0,0] (lst (eT a k.toNat)) 4 0),()),())⟩:dh.Y)=some ⟨jE,((eT a k.toNat,()),())⟩
  rw [ao6 _ _ rfl rfl]
  rfl
def mD:cN:=(dh.aI nY FM)
theorem EV:ac Tryz.prog 132 mD:=PR
theorem EU:aK mD:=aB
def ym:Env:=aA 132 mD qO
theorem Kc:aW Tryz.prog ym:=ai EV m9
theorem D3:aw ym:=ae EU vl
end Go.Proofs.YtohjofabochgfaaGreat

namespace Go.Proofs.YtohjofabochgfaaGreat
namespace Sx
open Go Go.RowKit Go.ChangeShapes Go.WideShapes Go.ChangeAt
section
variable {H:Type} {enc:TypeId×Value->H} {P:Program} {te:TE} (hte:kN P te) {w:World} {sp:Nat->Bool}
include hte
theorem O3 {T e:TypeId} {ti ei:TI} (hT:te T=some ti) (hd:ti.desc=.slice e) (hei:te e=some ei) {ad:Option Addr} {n cap:Nat} {d:DataW H} {ps:List MemPlace}
 (h:DataW.Trod enc P w 0 sp true T (.slice ad n cap) d ps) (hw:∀ n ∈ d.weights P T,n<=reachBytes):n*ei.bytes<=reachBytes:=by
 obtain ⟨fuel,hr⟩:=h
 obtain ⟨ds,hu,hds⟩:=(hte T ti hT).desc
 rw [hd] at hds
 simp only at hds
 subst hds
 cases fuel with
 |zero=>simp [DataW.trod] at hr
 |succ fuel=>
  have hone:(Value.slice ad n cap).cells.toList= [.slice ad n cap]:=rfl
  rw [hone] at hr
  simp only [DataW.trod,hu] at hr
  cases ad with
  |none=>
   rcases n with _|n
   ·rw [Nat.zero_mul];exact Nat.zero_le _
   ·cases cap<;>cases hr
  |some a=>
   simp only at hr
   split at hr
   ·simp only [Option.bind_eq_some_iff,Option.map_eq_some_iff] at hr
    obtain ⟨elems,hm,rest,_,hx⟩:=hr
    cases hx
    obtain ⟨m1,_⟩:=sj hm
    rw [List.length_range] at m1
    have hwt:=hw ((elems.length+rest.length)*P.bytesOf e) (by simp [DataW.weights,hu])
    rw [G5 hte hei] at hwt
    refine Nat.le_trans (Nat.mul_le_mul_right _ ?_) hwt
    omega
   ·cases hr
end
end Sx
end Go.Proofs.YtohjofabochgfaaGreat

namespace Go.Proofs.YtohjofabochgfaaGreat
namespace Sx
open Go
theorem OT.JV {α β:Type} {f:α->OT β}:∀ {t:OT α} {a:α} {b:β},t.run=some a->(f a).run=some b->(t.bind f).run=some b
 |.ok x,a,b,h,h2=>by
  cases h
  exact h2
 |.br c x y,a,b,h,h2=>by
  cases c
  ·exact OT.JV (t:=y) h h2
  ·exact OT.JV (t:=x) h h2
 |.fail,a,b,h,_=>by cases h
theorem rB {P:Program} {n:FuncId} {S:aq} {pre pre':S.T->Bool} {F F':S.T->OT S.Y} (h:ac P n (S.aI pre F))
 (hw:∀ x oy,pre' x=true->(F' x).run=some oy->pre x=true/\(F x).run=some oy):ac P n (S.aI pre' F'):=by
 refine ⟨λR w d args vs out hm hr hrun=>h.calls R w d args vs out hm hr ?_⟩
 simp only [aq.aI] at hrun⊢
 split at hrun
 ·cases hrun
 ·rename_i x hx
  obtain ⟨hp,hrun⟩:=OT.aD hrun
  obtain ⟨oy,h1,h2⟩:=OT.run_bind hrun
  obtain ⟨h3,h4⟩:=hw x oy hp h1
  rw [h3]
  exact OT.JV h4 h2
end Sx
end Go.Proofs.YtohjofabochgfaaGreat

namespace Go.Proofs.YtohjofabochgfaaGreat
open Sx Go
set_option maxRecDepth 100000
abbrev Vh:aq:=fX
def wG (x:yM):Bool:=ak x.1.1
def Vi (x:yM):OT fX.Y:=.ok ⟨iV,(((bO x.1.1.toNat).1,((0:Int),())),())⟩
theorem acW:ac Tryz.prog 92 (Vh.aI wG Vi):=rB (S:=fX) Vj λx oy hp ho=>⟨rfl,(OT.ap (b:=ak x.1.1) hp).trans ho⟩
def rN:cN:=(Vh.aI wG Vi)
theorem Lq:ac Tryz.prog 92 rN:=acW
theorem Lp:aK rN:=aB
def Kb:Env:=aA 92 rN ym
theorem R9:aW Tryz.prog Kb:=ai Lq Kc
theorem Ka:aw Kb:=ae Lp D3
abbrev Vq:aq:=gg
def wR (x:yP):Bool:=ak x.1.1
def Vr (x:yP):OT gg.Y:=.ok ⟨mG,(((bO x.1.1.toNat).2.1,((0:Int),())),())⟩
theorem ada:ac Tryz.prog 131 (Vq.aI wR Vr):=rB (S:=gg) Vs λx oy hp ho=>⟨rfl,(OT.ap (b:=ak x.1.1) hp).trans ho⟩
def rP:cN:=(Vq.aI wR Vr)
theorem LI:ac Tryz.prog 131 rP:=ada
theorem LH:aK rP:=aB
def Ke:Env:=aA 131 rP Kb
theorem Sd:aW Tryz.prog Ke:=ai LI R9
theorem Kd:aw Ke:=ae LH Ka
abbrev acO:aq:=jB
def iw (x:Ll):Bool:=ak x.1.1
def acP (x:Ll):OT jB.Y:=.ok ⟨kW,((ofP (pS x.1.1) x.1.2.1,()),())⟩
theorem aiN:ac Tryz.prog 62 (acO.aI iw acP):=rB (S:=jB) acS λx oy hp ho=>⟨rfl,(OT.ap (b:=ak x.1.1) hp).trans ho⟩
def wD:cN:=(acO.aI iw acP)
theorem Pv:ac Tryz.prog 62 wD:=aiN
theorem Pu:aK wD:=aB
def DV:Env:=aA 62 wD Ke
theorem yg:aW Tryz.prog DV:=ai Pv Sd
theorem zo:aw DV:=ae Pu Kd
theorem R7:bc Tryz.prog te DV:=aO follows au yg zo
def jy:aq:=⟨[],[],true,0,false⟩
abbrev Fx:Type:=(Unit)×(Unit)
def HW:ax:=⟨[.val true (.prod .elem (.prod .elem .bool))],[],false⟩
def K6:SV->Option ax:=λ_=>some HW
def Pg:OT jy.Y:=
 let z0:aa:= {w0:=0,w1:=0,w2:=0,w3:=0}
 (.ok ⟨HW,(((z0,z0,true),()),())⟩)
theorem anf (x:Fx) (Q:jy.Y->Prop):wpf te DV az 1000 Tryz.f93 (jy.inp.inj x).tm (jy.inp.inj x).hp (fnK jy K6 Q) (λ_ _=>False)=(Pg).wpR Q:=by kernel_rfl
theorem XF (pre:Fx->Bool) (F:Fx->OT jy.Y) (hF:∀ (x:Fx) oy,pre x=true->(F x).run=some oy->(Pg).run=some oy):ac Tryz.prog 93 (jy.aI pre F):=
 aE au yg R7 (f:=93) (fn:=Tryz.f93) (c:=ao Tryz.f93) (by kernel_rfl) (by kernel_rfl) (by kernel_rfl) (S:=jy) (k:=0) (by kernel_rfl) (λR hR=>ag) (n:=1000) (sel:=K6) (λv o h=>by cases h;rfl) (pre:=pre) (F:=F) (T:=λx=>Pg) (λx Q=>anf x Q) hF
def K7 (_:Fx):Bool:=true
def acw (_:Fx):OT jy.Y:=.ok ⟨HW,((aC,()),())⟩
theorem aiG:ac Tryz.prog 93 (jy.aI K7 acw):=XF _ _ λx oy _ ho=>ho
def wq:cN:=(jy.aI K7 acw)
theorem Pf:ac Tryz.prog 93 wq:=aiG
theorem Pe:aK wq:=aB
def DT:Env:=aA 93 wq DV
theorem ye:aW Tryz.prog DT:=ai Pf yg
theorem zl:aw DT:=ae Pe zo
theorem R6:bc Tryz.prog te DT:=aO follows au ye zl
def Bh:aq:=⟨[.val false .int],[],true,0,false⟩
abbrev ao5:Type:=((Int)×Unit)×(Unit)
def acA:ax:=⟨[.val true .elem],[],false⟩
def acz:SV->Option ax:=λ_=>some acA
def ang (a0:Int):OT Bh.Y:=
 (gd [inB a0 4,decide (Int.toNat a0+0<4)] (.ok ⟨acA,(({w0:=List.getD [(23:UInt64),(21:UInt64),(5:UInt64),(5:UInt64)] (Int.toNat a0+0) (0:UInt64),w1:=0,w2:=0,w3:=0},()),())⟩))
theorem arf (x:ao5) (Q:Bh.Y->Prop):wpf te DT az 1000 Tryz.f135 (Bh.inp.inj x).tm (Bh.inp.inj x).hp (fnK Bh acz Q) (λ_ _=>False)=(ang (x.1.1)).wpR Q:=by kernel_rfl
theorem aiI (pre:ao5->Bool) (F:ao5->OT Bh.Y) (hF:∀ (x:ao5) oy,pre x=true->(F x).run=some oy->(ang (x.1.1)).run=some oy):ac Tryz.prog 135 (Bh.aI pre F):=
 aE au ye R6 (f:=135) (fn:=Tryz.f135) (c:=ao Tryz.f135) (by kernel_rfl) (by kernel_rfl) (by kernel_rfl) (S:=Bh) (k:=0) (by kernel_rfl) (λR hR=>ag) (n:=1000) (sel:=acz) (λv o h=>by cases h;rfl) (pre:=pre) (F:=F) (T:=λx=>ang (x.1.1)) (λx Q=>arf x Q) hF
def Pj (x:ao5):Bool:=ak x.1.1
def apN (x:ao5):OT Bh.Y:=.ok ⟨acA,((bS x.1.1,()),())⟩
theorem apM:ac Tryz.prog 135 (Bh.aI Pj apN):=aiI _ _ λx oy hp ho=>by
 rw [<-ho]
 clear ho
 obtain ⟨⟨s,⟨⟩⟩,⟨⟩⟩:=x
 rcases cu hp with h|h|h|h
 all_goals
  have h:s=_:=h
  subst h
  rfl
def HY:cN:=(Bh.aI Pj apN)
theorem acB:ac Tryz.prog 135 HY:=apM
theorem acy:aK HY:=aB
def agh:Env:=aA 135 HY DT
theorem J9:aW Tryz.prog agh:=ai acB ye
theorem Hj:aw agh:=ae acy zl
theorem agf:bc Tryz.prog te agh:=aO follows au J9 Hj
def fu:aq:=⟨[.val false .int,.val true .elem],[],true,0,false⟩
abbrev wu:Type:=((Int)×(aa)×Unit)×(Unit)
def tL:ax:=⟨[.val true .elem],[],false⟩
def Fy:SV->Option ax:=λ_=>some tL
def HX (a0:Int) (a1:aa):OT fu.Y:=
 let z0:Nat:=pS a0
 let z1:aa:=aN z0 a1 a1
 let z2:aa:=aN z0 a1 z1
 let z3:aa:=bS a0
 (gd [b9 ((a0,a1,a1,()),()),b9 ((a0,a1,z1,()),()),Pj ((a0,()),()),n7 ((a0,z2,z3,()),())] (.ok ⟨tL,((im z0 z2 z3,()),())⟩))
theorem aiH (x:wu) (Q:fu.Y->Prop):wpf te agh az 1000 Tryz.f95 (fu.inp.inj x).tm (fu.inp.inj x).hp (fnK fu Fy Q) (λ_ _=>False)=(HX (x.1.1) (x.1.2.1)).wpR Q:=by kernel_rfl
theorem Ph (pre:wu->Bool) (F:wu->OT fu.Y) (hF:∀ (x:wu) oy,pre x=true->(F x).run=some oy->(HX (x.1.1) (x.1.2.1)).run=some oy):ac Tryz.prog 95 (fu.aI pre F):=
 aE au J9 agf (f:=95) (fn:=Tryz.f95) (c:=ao Tryz.f95) (by kernel_rfl) (by kernel_rfl) (by kernel_rfl) (S:=fu) (k:=0) (by kernel_rfl) (λR hR=>ag) (n:=1000) (sel:=Fy) (λv o h=>by cases h;rfl) (pre:=pre) (F:=F) (T:=λx=>HX (x.1.1) (x.1.2.1)) (λx Q=>aiH x Q) hF
theorem adK (p:Nat) (a b:aa):aN p a b=aN p b a:=by unfold aN;rw [Nat.mul_comm]
def pK (x:wu):Bool:=ak x.1.1
def Va (x:wu):OT fu.Y:=.ok ⟨tL,((Ad (pS x.1.1) x.1.2.1 (bS x.1.1),()),())⟩
theorem acx:ac Tryz.prog 95 (fu.aI pK Va):=Ph _ _ λx oy hp ho=>by
 rw [<-ho]
 clear ho
 obtain ⟨⟨s,a,⟨⟩⟩,⟨⟩⟩:=x
 have hs:ak s=true:=hp
 show _=some (⟨tL,((Ad (pS s) a (bS s),()),())⟩:fu.Y)
 unfold Ad
 rw [adK _ (aN (pS s) a a) a]
 refine (al ?_).trans rfl
 simp only [List.all_cons,List.all_nil,Bool.and_true,Bool.and_eq_true]
 exact ⟨hs,hs,hs,hs⟩
def rK:cN:=(fu.aI pK Va)
theorem K9:ac Tryz.prog 95 rK:=acx
theorem K8:aK rK:=aB
def vg:Env:=aA 95 rK agh
theorem sP:aW Tryz.prog vg:=ai K9 J9
theorem vf:aw vg:=ae K8 Hj
theorem Of:bc Tryz.prog te vg:=aO follows au sP vf
def li:aq:=⟨[.val false .int,.val true (.prod .elem (.prod .elem .bool))],[],true,0,false⟩
abbrev XD:Type:=((Int)×((aa×(aa×Bool)))×Unit)×(Unit)
def mz:ax:=⟨[.val false .bool],[],false⟩
def U4:SV->Option ax:=λ_=>some mz
def acu (a0:Int) (a1:(aa×(aa×Bool))):OT li.Y:=
 let z0:Int×aa×PUnit:=(a0,a1.fst,())
 let z1:Nat:=pS a0
 let z2:aa:=ofP z1 a1.fst
 let z3:aa:=ofP z1 a1.snd.fst
 let z4:aa:=aN z1 a1.snd.fst a1.snd.fst
 let z5:aa:=Ad z1 a1.fst (bS a0)
 (.br (decide (a0<(0:Int)))
 (.ok ⟨mz,((false,()),())⟩)
 (.br (decide ((3:Int)<a0))
  (.ok ⟨mz,((false,()),())⟩)
  (.br (a1.snd.snd)
   (.ok ⟨mz,((a1.fst.w0==(0:UInt64)&&(a1.fst.w1==(0:UInt64)&&(a1.fst.w2==(0:UInt64)&&(a1.fst.w3==(0:UInt64)&&true)))&&(a1.snd.fst.w0==(0:UInt64)&&(a1.snd.fst.w1==(0:UInt64)&&(a1.snd.fst.w2==(0:UInt64)&&(a1.snd.fst.w3==(0:UInt64)&&true)))&&(a1.snd.snd==true&&true)),()),())⟩)
   (gd [iw (z0,())] (.br (!(z2.w0==a1.fst.w0&&(z2.w1==a1.fst.w1&&(z2.w2==a1.fst.w2&&(z2.w3==a1.fst.w3&&true)))))
    (.ok ⟨mz,((false,()),())⟩)
    (gd [iw ((a0,a1.snd.fst,()),())] (.br (!(z3.w0==a1.snd.fst.w0&&(z3.w1==a1.snd.fst.w1&&(z3.w2==a1.snd.fst.w2&&(z3.w3==a1.snd.fst.w3&&true)))))
     (.ok ⟨mz,((false,()),())⟩)
     (gd [b9 ((a0,a1.snd.fst,a1.snd.fst,()),()),pK (z0,())] (.ok ⟨mz,((z4.w0==z5.w0&&(z4.w1==z5.w1&&(z4.w2==z5.w2&&(z4.w3==z5.w3&&true))),()),())⟩)))))))))
theorem apL (x:XD) (Q:li.Y->Prop):wpf te vg az 1000 Tryz.f73 (li.inp.inj x).tm (li.inp.inj x).hp (fnK li U4 Q) (λ_ _=>False)=(acu (x.1.1) (x.1.2.1)).wpR Q:=by kernel_rfl
theorem acs (pre:XD->Bool) (F:XD->OT li.Y) (hF:∀ (x:XD) oy,pre x=true->(F x).run=some oy->(acu (x.1.1) (x.1.2.1)).run=some oy):ac Tryz.prog 73 (li.aI pre F):=
 aE au sP Of (f:=73) (fn:=Tryz.f73) (c:=ao Tryz.f73) (by kernel_rfl) (by kernel_rfl) (by kernel_rfl) (S:=li) (k:=0) (by kernel_rfl) (λR hR=>ag) (n:=1000) (sel:=U4) (λv o h=>by cases h;rfl) (pre:=pre) (F:=F) (T:=λx=>acu (x.1.1) (x.1.2.1)) (λx Q=>apL x Q) hF
theorem VI {s:Int} (hs:ak s=true) (x:aa):eqE (ofP (pS s) x) x=Nat.blt x.nat (pS s):=by
 have hp:=fh hs
 have hlt:=Nat.mod_lt x.nat hp.1
 rw [aoE,show (ofP (pS s) x).nat=x.nat%pS s from cv hp]
 rcases (Bool.eq_false_or_eq_true (Nat.blt x.nat (pS s))).symm with h|h
 ·rw [h]
  have hle:=adF h
  cases hb:Nat.beq (x.nat%pS s) x.nat
  ·rfl
  ·have:=Nat.eq_of_beq_eq_true hb
   omega
 ·rw [h,Nat.mod_eq_of_lt (cJ h)]
  exact Nat.beq_refl _
def U5 (_:XD):Bool:=true
def akR (x:XD):OT li.Y:=.ok ⟨mz,((onB x.1.1 x.1.2.1,()),())⟩
theorem anc:ac Tryz.prog 73 (li.aI U5 akR):=acs _ _ λx oy _ ho=>by
 rw [<-ho]
 clear ho
 obtain ⟨⟨c,⟨X,Y,i⟩,⟨⟩⟩,⟨⟩⟩:=x
 show _=some (⟨mz,((onB c (X,Y,i),()),())⟩:li.Y)
 rcases (Bool.eq_false_or_eq_true (ak c)).symm with hs|hs
 ·have e:onB c (X,Y,i)=false:=by unfold onB;rw [hs];rfl
  rw [e]
  by_cases h0:c<0
  ·exact OT.ap (decide_eq_true h0)
  ·refine (OT.ay (decide_eq_false h0)).trans (OT.ap (decide_eq_true ?_))
   show (3:Int)<c
   simp only [ak,Bool.and_eq_false_iff,decide_eq_false_iff_not] at hs
   omega
 ·have hc:0<=c/\c<4:=by simpa [ak] using hs
  refine (OT.ay (decide_eq_false (by show ¬c<0;omega))).trans ((OT.ay (decide_eq_false (by show ¬(3:Int)<c;omega))).trans ?_)
  have hx:=VI hs X
  have hy:=VI hs Y
  have gd1:∀ (a:aa) (z:OT li.Y),(gd [iw ((c,a,()),())] z).run=z.run:=λa z=>al (by simp only [List.all_cons,List.all_nil,Bool.and_true];exact hs)
  cases i
  ·refine (OT.ay rfl).trans ((gd1 X _).trans ?_)
   rcases (Bool.eq_false_or_eq_true (Nat.blt X.nat (pS c))).symm with h1|h1
   ·have e:onB c (X,Y,false)=false:=by unfold onB;rw [hs,h1];rfl
    rw [e]
    rw [h1] at hx
    exact OT.ap (b:= !eqE (ofP (pS c) X) X) (by rw [hx];rfl)
   ·have hx1:=hx
    rw [h1] at hx1
    refine (OT.ay (b:= !eqE (ofP (pS c) X) X) (by rw [hx1];rfl)).trans ((gd1 Y _).trans ?_)
    rcases (Bool.eq_false_or_eq_true (Nat.blt Y.nat (pS c))).symm with h2|h2
    ·have e:onB c (X,Y,false)=false:=by unfold onB;rw [hs,h1,h2];rfl
     rw [e]
     rw [h2] at hy
     exact OT.ap (b:= !eqE (ofP (pS c) Y) Y) (by rw [hy];rfl)
    ·have hy1:=hy
     rw [h2] at hy1
     have e:onB c (X,Y,false)=eqE (aN (pS c) Y Y) (Ad (pS c) X (bS c)):=by unfold onB;rw [hs,h1,h2];rfl
     rw [e]
     refine (OT.ay (b:= !eqE (ofP (pS c) Y) Y) (by rw [hy1];rfl)).trans ((al ?_).trans rfl)
     simp only [List.all_cons,List.all_nil,Bool.and_true,Bool.and_eq_true]
     exact ⟨hs,hs⟩
  ·have e:onB c (X,Y,true)=(cr X&&(cr Y&&true)):=by unfold onB;rw [hs];rfl
   rw [e]
   exact OT.ap rfl
def Bf:cN:=(li.aI U5 akR)
theorem XC:ac Tryz.prog 73 Bf:=anc
theorem XB:aK Bf:=aB
def Oe:Env:=aA 73 Bf vg
theorem DR:aW Tryz.prog Oe:=ai XC sP
theorem DS:aw Oe:=ae XB vf
theorem aab:bc Tryz.prog te Oe:=aO follows au DR DS
def iD:aq:=⟨[.val false .int,.val true (.prod .elem (.prod .elem .bool)),.val true (.prod .elem (.prod .elem .bool))],[],true,0,false⟩
abbrev Ft:Type:=((Int)×((aa×(aa×Bool)))×((aa×(aa×Bool)))×Unit)×(Unit)
def kt:ax:=⟨[.val true (.prod .elem (.prod .elem .bool))],[],false⟩
def KY:SV->Option ax:=λ_=>some kt
def O9 (a0:Int) (a1:(aa×(aa×Bool))) (a2:(aa×(aa×Bool))):OT iD.Y:=
 let z0:aa×PUnit:=(a1.snd.fst,())
 let z1:aa×PUnit:=(a1.fst,())
 let z2:aa:= {w0:=0,w1:=0,w2:=0,w3:=0}
 let z3:aa:= {w0:=3,w1:=0,w2:=0,w3:=0}
 let z4:Nat:=pS a0
 let z5:aa:=aN z4 a1.fst a1.fst
 let z6:aa:=aN z4 z3 z5
 let z7:aa:=im z4 a1.snd.fst a1.snd.fst
 let z8:aa:=byP z4 z6 z7
 let z9:aa:=aN z4 z8 z8
 let z10:aa:=eW z4 z9 a1.fst
 let z11:aa×PUnit:=(a2.fst,())
 let z12:aa:=eW z4 z10 a2.fst
 let z13:aa:=eW z4 a1.fst z12
 let z14:aa:=aN z4 z8 z13
 let z15:aa:=eW z4 a2.snd.fst a1.snd.fst
 let z16:aa:=eW z4 a2.fst a1.fst
 let z17:aa:=byP z4 z15 z16
 let z18:aa:=aN z4 z17 z17
 let z19:aa:=eW z4 z18 a1.fst
 let z20:aa:=eW z4 z19 a2.fst
 let z21:aa:=eW z4 a1.fst z20
 let z22:aa:=aN z4 z17 z21
 (.br (a1.snd.snd)
 (.ok ⟨kt,((a2,()),())⟩)
 (.br (a2.snd.snd)
  (.ok ⟨kt,((a1,()),())⟩)
  (gd [dX ((a0,a2.snd.fst,z0),()),dX ((a0,a2.fst,z1),())] (.br (a1.fst.w0==a2.fst.w0&&(a1.fst.w1==a2.fst.w1&&(a1.fst.w2==a2.fst.w2&&(a1.fst.w3==a2.fst.w3&&true))))
   (.br (!(a1.snd.fst.w0==a2.snd.fst.w0&&(a1.snd.fst.w1==a2.snd.fst.w1&&(a1.snd.fst.w2==a2.snd.fst.w2&&(a1.snd.fst.w3==a2.snd.fst.w3&&true)))))
    (.ok ⟨kt,(((z2,z2,true),()),())⟩)
    (gd [b9 ((a0,a1.fst,z1),()),b9 ((a0,z3,z5,()),()),n7 ((a0,a1.snd.fst,z0),()),Ax ((a0,z6,z7,()),()),b9 ((a0,z8,z8,()),()),dX ((a0,z9,z1),()),dX ((a0,z10,z11),()),dX ((a0,a1.fst,z12,()),()),b9 ((a0,z8,z13,()),()),dX ((a0,z14,z0),())] (.ok ⟨kt,(((z12,eW z4 z14 a1.snd.fst,false),()),())⟩)))
   (gd [Ax ((a0,z15,z16,()),()),b9 ((a0,z17,z17,()),()),dX ((a0,z18,z1),()),dX ((a0,z19,z11),()),dX ((a0,a1.fst,z20,()),()),b9 ((a0,z17,z21,()),()),dX ((a0,z22,z0),())] (.ok ⟨kt,(((z20,eW z4 z22 a1.snd.fst,false),()),())⟩))))))
theorem anb (x:Ft) (Q:iD.Y->Prop):wpf te Oe az 1000 Tryz.f170 (iD.inp.inj x).tm (iD.inp.inj x).hp (fnK iD KY Q) (λ_ _=>False)=(O9 (x.1.1) (x.1.2.1) (x.1.2.2.1)).wpR Q:=by kernel_rfl
theorem XA (pre:Ft->Bool) (F:Ft->OT iD.Y) (hF:∀ (x:Ft) oy,pre x=true->(F x).run=some oy->(O9 (x.1.1) (x.1.2.1) (x.1.2.2.1)).run=some oy):ac Tryz.prog 170 (iD.aI pre F):=
 aE au DR aab (f:=170) (fn:=Tryz.f170) (c:=ao Tryz.f170) (by kernel_rfl) (by kernel_rfl) (by kernel_rfl) (S:=iD) (k:=0) (by kernel_rfl) (λR hR=>ag) (n:=1000) (sel:=KY) (λv o h=>by cases h;rfl) (pre:=pre) (F:=F) (T:=λx=>O9 (x.1.1) (x.1.2.1) (x.1.2.2.1)) (λx Q=>anb x Q) hF
def xu (p:Nat) (X Y X2 s:aa):Pt:=(eW p (eW p (aN p s s) X) X2,eW p (aN p s (eW p X (eW p (eW p (aN p s s) X) X2))) Y,false)
def dQ (p:Nat) (P Q:Pt):Pt:=cond P.2.2 Q (cond Q.2.2 P (cond (eqE P.1 Q.1)
 (cond (eqE P.2.1 Q.2.1) (xu p P.1 P.2.1 Q.1 (byP p (aN p ⟨3,0,0,0⟩ (aN p P.1 P.1)) (im p P.2.1 P.2.1))) aC)
 (xu p P.1 P.2.1 Q.1 (byP p (eW p Q.2.1 P.2.1) (eW p Q.1 P.1)))))
def nM (x:Ft):Bool:=ak x.1.1
def acn (x:Ft):OT iD.Y:=.ok ⟨kt,((dQ (pS x.1.1) x.1.2.1 x.1.2.2.1,()),())⟩
theorem aix:ac Tryz.prog 170 (iD.aI nM acn):=XA _ _ λx oy hp ho=>by
 rw [<-ho]
 clear ho
 obtain ⟨⟨c,⟨X,Y,i⟩,⟨X2,Y2,i2⟩,⟨⟩⟩,⟨⟩⟩:=x
 have hs:ak c=true:=hp
 show _=(OT.ok ⟨kt,((dQ (pS c) (X,Y,i) (X2,Y2,i2),()),())⟩:OT iD.Y).run
 cases i
 ·refine (OT.ay rfl).trans ?_
  cases i2
  ·refine (OT.ay rfl).trans ((al ?_).trans ?_)
   ·simp only [List.all_cons,List.all_nil,Bool.and_true,Bool.and_eq_true]
    exact ⟨hs,hs⟩
   ·rcases (Bool.eq_false_or_eq_true (eqE X X2)).symm with h|h
    ·have e:dQ (pS c) (X,Y,false) (X2,Y2,false)=xu (pS c) X Y X2 (byP (pS c) (eW (pS c) Y2 Y) (eW (pS c) X2 X)):=by unfold dQ;simp only [cond_false,h]
     rw [e]
     refine (OT.ay h).trans ((al ?_).trans rfl)
     simp only [List.all_cons,List.all_nil,Bool.and_true,Bool.and_eq_true]
     exact ⟨hs,hs,hs,hs,hs,hs,hs⟩
    ·refine (OT.ap h).trans ?_
     rcases (Bool.eq_false_or_eq_true (eqE Y Y2)).symm with h2|h2
     ·have e:dQ (pS c) (X,Y,false) (X2,Y2,false)=aC:=by unfold dQ;simp only [cond_false,cond_true,h,h2]
      rw [e]
      exact OT.ap (b:= !eqE Y Y2) (by rw [h2];rfl)
     ·have e:dQ (pS c) (X,Y,false) (X2,Y2,false)=xu (pS c) X Y X2 (byP (pS c) (aN (pS c) ⟨3,0,0,0⟩ (aN (pS c) X X)) (im (pS c) Y Y)):=by unfold dQ;simp only [cond_false,cond_true,h,h2]
      rw [e]
      refine (OT.ay (b:= !eqE Y Y2) (by rw [h2];rfl)).trans ((al ?_).trans rfl)
      simp only [List.all_cons,List.all_nil,Bool.and_true,Bool.and_eq_true]
      exact ⟨hs,hs,hs,hs,hs,hs,hs,hs,hs,hs⟩
  ·have e:dQ (pS c) (X,Y,false) (X2,Y2,true)=(X,Y,false):=by unfold dQ;simp only [cond_false,cond_true]
   rw [e]
   exact OT.ap rfl
 ·have e:dQ (pS c) (X,Y,true) (X2,Y2,i2)=(X2,Y2,i2):=by unfold dQ;simp only [cond_true]
  rw [e]
  exact OT.ap rfl
def wk:cN:=(iD.aI nM acn)
theorem O8:ac Tryz.prog 170 wk:=aix
theorem O7:aK wk:=aB
def DQ:Env:=aA 170 wk Oe
theorem yd:aW Tryz.prog DQ:=ai O8 DR
theorem zj:aw DQ:=ae O7 DS
theorem R5:bc Tryz.prog te DQ:=aO follows au yd zj
def iF:aq:=⟨[.val false .int,.val true (.prod .elem (.prod .elem .bool)),.val true (.prod .elem (.prod .elem .bool))],[],true,0,false⟩
abbrev Fz:Type:=((Int)×((aa×(aa×Bool)))×((aa×(aa×Bool)))×Unit)×(Unit)
def pL:ax:=⟨[.val true (.prod .elem (.prod .elem .bool))],[],false⟩
def La:SV->Option ax:=λ_=>some pL
def Pm (a0:Int) (a1:(aa×(aa×Bool))) (a2:(aa×(aa×Bool))):OT iF.Y:=
 let z0:aa:= {w0:=0,w1:=0,w2:=0,w3:=0}
 let z1:aa×aa×Bool:=(z0,z0,true)
 (.br (!onB a0 a1)
 (.ok ⟨pL,((z1,()),())⟩)
 (.br (!onB a0 a2)
  (.ok ⟨pL,((z1,()),())⟩)
  (gd [nM ((a0,a1,a2,()),())] (.ok ⟨pL,((dQ (pS a0) a1 a2,()),())⟩))))
theorem anh (x:Fz) (Q:iF.Y->Prop):wpf te DQ az 1000 Tryz.f163 (iF.inp.inj x).tm (iF.inp.inj x).hp (fnK iF La Q) (λ_ _=>False)=(Pm (x.1.1) (x.1.2.1) (x.1.2.2.1)).wpR Q:=by kernel_rfl
theorem XG (pre:Fz->Bool) (F:Fz->OT iF.Y) (hF:∀ (x:Fz) oy,pre x=true->(F x).run=some oy->(Pm (x.1.1) (x.1.2.1) (x.1.2.2.1)).run=some oy):ac Tryz.prog 163 (iF.aI pre F):=
 aE au yd R5 (f:=163) (fn:=Tryz.f163) (c:=ao Tryz.f163) (by kernel_rfl) (by kernel_rfl) (by kernel_rfl) (S:=iF) (k:=0) (by kernel_rfl) (λR hR=>ag) (n:=1000) (sel:=La) (λv o h=>by cases h;rfl) (pre:=pre) (F:=F) (T:=λx=>Pm (x.1.1) (x.1.2.1) (x.1.2.2.1)) (λx Q=>anh x Q) hF
def KF (c:Int) (P Q:Pt):Pt:=cond (onB c P) (cond (onB c Q) (dQ (pS c) P Q) aC) aC
def Lb (_:Fz):Bool:=true
def acC (x:Fz):OT iF.Y:=.ok ⟨pL,((KF x.1.1 x.1.2.1 x.1.2.2.1,()),())⟩
theorem aiJ:ac Tryz.prog 163 (iF.aI Lb acC):=XG _ _ λx oy _ ho=>by
 rw [<-ho]
 clear ho
 obtain ⟨⟨c,P,Q,⟨⟩⟩,⟨⟩⟩:=x
 show _=(OT.ok ⟨pL,((KF c P Q,()),())⟩:OT iF.Y).run
 rcases (Bool.eq_false_or_eq_true (onB c P)).symm with h1|h1
 ·have e:KF c P Q=aC:=by unfold KF;rw [h1];rfl
  rw [e]
  exact OT.ap (b:= !onB c P) (by rw [h1];rfl)
 ·have hs:=qe h1
  refine (OT.ay (b:= !onB c P) (by rw [h1];rfl)).trans ?_
  rcases (Bool.eq_false_or_eq_true (onB c Q)).symm with h2|h2
  ·have e:KF c P Q=aC:=by unfold KF;rw [h1,h2];rfl
   rw [e]
   exact OT.ap (b:= !onB c Q) (by rw [h2];rfl)
  ·have e:KF c P Q=dQ (pS c) P Q:=by unfold KF;rw [h1,h2];rfl
   rw [e]
   refine (OT.ay (b:= !onB c Q) (by rw [h2];rfl)).trans ((al ?_).trans rfl)
   simp only [List.all_cons,List.all_nil,Bool.and_true]
   exact hs
def wv:cN:=(iF.aI Lb acC)
theorem Pl:ac Tryz.prog 163 wv:=aiJ
theorem Pk:aK wv:=aB
def sR:Env:=aA 163 wv DQ
theorem me:aW Tryz.prog sR:=ai Pl yd
theorem zm:aw sR:=ae Pk zj
theorem sQ:bc Tryz.prog te sR:=aO follows au me zm
def iE:aq:=⟨[.val false .int,.val true .elem,.val true (.prod .elem (.prod .elem .bool))],[],true,0,false⟩
abbrev Fw:Type:=((Int)×(aa)×((aa×(aa×Bool)))×Unit)×(Unit)
def tI:Shape:=⟨60,[(0,.val false .int),(4,.ptr 0 0 0),(5,.ptr 1 0 0),(6,.ptr 2 0 0),(7,.ptr 3 0 0),(8,.val false .int)],[(0,.row .u64),(1,.cells [.val false .u64,.val false .u64,.val false .u64,.val false .u64,.val false .u64,.val false .u64,.val false .u64,.val false .u64,.val false .bool]),(2,.cells [.val false .u64,.val false .u64,.val false .u64,.val false .u64,.val false .u64,.val false .u64,.val false .u64,.val false .u64,.val false .bool]),(3,.cells [.val false .u64,.val false .u64,.val false .u64,.val false .u64,.val false .u64,.val false .u64,.val false .u64,.val false .u64,.val false .bool])],0,true⟩
abbrev cy:Type:=((Int)×(Unit)×(Unit)×(Unit)×(Unit)×(Int)×Unit)×((List (UInt64))×((UInt64)×(UInt64)×(UInt64)×(UInt64)×(UInt64)×(UInt64)×(UInt64)×(UInt64)×(Bool)×Unit)×((UInt64)×(UInt64)×(UInt64)×(UInt64)×(UInt64)×(UInt64)×(UInt64)×(UInt64)×(Bool)×Unit)×((UInt64)×(UInt64)×(UInt64)×(UInt64)×(UInt64)×(UInt64)×(UInt64)×(UInt64)×(Bool)×Unit)×Unit)
def lj:Shape:=⟨60,[(0,.val false .int),(4,.ptr 0 0 0),(5,.ptr 1 0 0),(6,.ptr 2 0 0),(7,.ptr 3 0 0),(8,.val false .int)],[(0,.row .u64),(1,.cells [.val false .u64,.val false .u64,.val false .u64,.val false .u64,.val false .u64,.val false .u64,.val false .u64,.val false .u64,.val false .bool]),(2,.cells [.val false .u64,.val false .u64,.val false .u64,.val false .u64,.val false .u64,.val false .u64,.val false .u64,.val false .u64,.val false .bool]),(3,.cells [.val false .u64,.val false .u64,.val false .u64,.val false .u64,.val false .u64,.val false .u64,.val false .u64,.val false .u64,.val false .bool])],0,true⟩
abbrev jx:Type:=((Int)×(Unit)×(Unit)×(Unit)×(Unit)×(Int)×Unit)×((List (UInt64))×((UInt64)×(UInt64)×(UInt64)×(UInt64)×(UInt64)×(UInt64)×(UInt64)×(UInt64)×(Bool)×Unit)×((UInt64)×(UInt64)×(UInt64)×(UInt64)×(UInt64)×(UInt64)×(UInt64)×(UInt64)×(Bool)×Unit)×((UInt64)×(UInt64)×(UInt64)×(UInt64)×(UInt64)×(UInt64)×(UInt64)×(UInt64)×(Bool)×Unit)×Unit)
def U7:SE->Option Shape:=kn [(0,lj)] none
def aiF (a0:Int) (a8:Int) (c0:List (UInt64)) (c1_0:UInt64) (c1_1:UInt64) (c1_2:UInt64) (c1_3:UInt64) (c1_4:UInt64) (c1_5:UInt64) (c1_6:UInt64) (c1_7:UInt64) (c1_8:Bool) (c2_0:UInt64) (c2_1:UInt64) (c2_2:UInt64) (c2_3:UInt64) (c2_4:UInt64) (c2_5:UInt64) (c2_6:UInt64) (c2_7:UInt64) (c2_8:Bool) (c3_0:UInt64) (c3_1:UInt64) (c3_2:UInt64) (c3_3:UInt64) (c3_4:UInt64) (c3_5:UInt64) (c3_6:UInt64) (c3_7:UInt64) (c3_8:Bool):OT (Sum cy aQ):=
 let z0:Int:=Int.tdiv a8 (64:Int)
 (.br (decide ((0:Int)<=a8))
 (gd [true&&inR z0,inB z0 4,decide (Int.toNat z0+0<List.length c0)] (.br (bu (List.getD c0 (Int.toNat z0+0) (0:UInt64)) (↑(UInt64.toNat (i2u (Int.tmod a8 (64:Int)))):Int)&&&(1:UInt64)==(0:UInt64))
  (gd [inR (a8-(1:Int))] (.ok (.inl ((a0,((),((),((),((),(a8-(1:Int),())))))),(c0,((c1_0,(c1_1,(c1_2,(c1_3,(c1_4,(c1_5,(c1_6,(c1_7,(c1_8,()))))))))),((c2_0,(c2_1,(c2_2,(c2_3,(c2_4,(c2_5,(c2_6,(c2_7,(c2_8,()))))))))),((c3_0,(c3_1,(c3_2,(c3_3,(c3_4,(c3_5,(c3_6,(c3_7,(c3_8,()))))))))),()))))))))
  (.ok (.inr ⟨(.exit 0,lj),((a0,((),((),((),((),(a8,())))))),(c0,((c1_0,(c1_1,(c1_2,(c1_3,(c1_4,(c1_5,(c1_6,(c1_7,(c1_8,()))))))))),((c2_0,(c2_1,(c2_2,(c2_3,(c2_4,(c2_5,(c2_6,(c2_7,(c2_8,()))))))))),((c3_0,(c3_1,(c3_2,(c3_3,(c3_4,(c3_5,(c3_6,(c3_7,(c3_8,()))))))))),())))))⟩))))
 (.ok (.inr ⟨(.exit 0,lj),((a0,((),((),((),((),(a8,())))))),(c0,((c1_0,(c1_1,(c1_2,(c1_3,(c1_4,(c1_5,(c1_6,(c1_7,(c1_8,()))))))))),((c2_0,(c2_1,(c2_2,(c2_3,(c2_4,(c2_5,(c2_6,(c2_7,(c2_8,()))))))))),((c3_0,(c3_1,(c3_2,(c3_3,(c3_4,(c3_5,(c3_6,(c3_7,(c3_8,()))))))))),())))))⟩)))
def tK (s:cy):OT (Sum cy aQ):=aiF (s.1.1) (s.1.2.2.2.2.2.1) (s.2.1) (s.2.2.1.1) (s.2.2.1.2.1) (s.2.2.1.2.2.1) (s.2.2.1.2.2.2.1) (s.2.2.1.2.2.2.2.1) (s.2.2.1.2.2.2.2.2.1) (s.2.2.1.2.2.2.2.2.2.1) (s.2.2.1.2.2.2.2.2.2.2.1) (s.2.2.1.2.2.2.2.2.2.2.2.1) (s.2.2.2.1.1) (s.2.2.2.1.2.1) (s.2.2.2.1.2.2.1) (s.2.2.2.1.2.2.2.1) (s.2.2.2.1.2.2.2.2.1) (s.2.2.2.1.2.2.2.2.2.1) (s.2.2.2.1.2.2.2.2.2.2.1) (s.2.2.2.1.2.2.2.2.2.2.2.1) (s.2.2.2.1.2.2.2.2.2.2.2.2.1) (s.2.2.2.2.1.1) (s.2.2.2.2.1.2.1) (s.2.2.2.2.1.2.2.1) (s.2.2.2.2.1.2.2.2.1) (s.2.2.2.2.1.2.2.2.2.1) (s.2.2.2.2.1.2.2.2.2.2.1) (s.2.2.2.2.1.2.2.2.2.2.2.1) (s.2.2.2.2.1.2.2.2.2.2.2.2.1) (s.2.2.2.2.1.2.2.2.2.2.2.2.2.1)
theorem aiA (s:cy) (Q:Sum cy aQ->Prop):wps te sR az 1000 (bL (ao Tryz.f164) 0) (tI.inj s) (df tI U7 (Q:Sum tI.T aQ->Prop))=(tK s).wpR Q:=by kernel_rfl
def Ar (g0_0:cy->jx) (s:cy):OT aQ:=(.ok ⟨(.exit 0,lj),g0_0 s⟩)
def tH:Shape:=⟨60,[(0,.val false .int),(4,.ptr 0 0 0),(5,.ptr 1 0 0),(6,.ptr 2 0 0),(7,.ptr 3 0 0),(9,.val false .int)],[(0,.row .u64),(1,.cells [.val false .u64,.val false .u64,.val false .u64,.val false .u64,.val false .u64,.val false .u64,.val false .u64,.val false .u64,.val false .bool]),(2,.cells [.val false .u64,.val false .u64,.val false .u64,.val false .u64,.val false .u64,.val false .u64,.val false .u64,.val false .u64,.val false .bool]),(3,.cells [.val false .u64,.val false .u64,.val false .u64,.val false .u64,.val false .u64,.val false .u64,.val false .u64,.val false .u64,.val false .bool])],0,true⟩
abbrev cH:Type:=((Int)×(Unit)×(Unit)×(Unit)×(Unit)×(Int)×Unit)×((List (UInt64))×((UInt64)×(UInt64)×(UInt64)×(UInt64)×(UInt64)×(UInt64)×(UInt64)×(UInt64)×(Bool)×Unit)×((UInt64)×(UInt64)×(UInt64)×(UInt64)×(UInt64)×(UInt64)×(UInt64)×(UInt64)×(Bool)×Unit)×((UInt64)×(UInt64)×(UInt64)×(UInt64)×(UInt64)×(UInt64)×(UInt64)×(UInt64)×(Bool)×Unit)×Unit)
def pI:Shape:=⟨60,[(6,.ptr 0 0 0),(7,.ptr 1 0 0)],[(0,.cells [.val false .u64,.val false .u64,.val false .u64,.val false .u64,.val false .u64,.val false .u64,.val false .u64,.val false .u64,.val false .bool]),(1,.cells [.val false .u64,.val false .u64,.val false .u64,.val false .u64,.val false .u64,.val false .u64,.val false .u64,.val false .u64,.val false .bool])],0,true⟩
abbrev jw:Type:=((Unit)×(Unit)×Unit)×(((UInt64)×(UInt64)×(UInt64)×(UInt64)×(UInt64)×(UInt64)×(UInt64)×(UInt64)×(Bool)×Unit)×((UInt64)×(UInt64)×(UInt64)×(UInt64)×(UInt64)×(UInt64)×(UInt64)×(UInt64)×(Bool)×Unit)×Unit)
def U6:SE->Option Shape:=kn [(2,pI)] none
def aiE (a0:Int) (a9:Int) (c0:List (UInt64)) (c1_0:UInt64) (c1_1:UInt64) (c1_2:UInt64) (c1_3:UInt64) (c1_4:UInt64) (c1_5:UInt64) (c1_6:UInt64) (c1_7:UInt64) (c1_8:Bool) (c2_0:UInt64) (c2_1:UInt64) (c2_2:UInt64) (c2_3:UInt64) (c2_4:UInt64) (c2_5:UInt64) (c2_6:UInt64) (c2_7:UInt64) (c2_8:Bool) (c3_0:UInt64) (c3_1:UInt64) (c3_2:UInt64) (c3_3:UInt64) (c3_4:UInt64) (c3_5:UInt64) (c3_6:UInt64) (c3_7:UInt64) (c3_8:Bool):OT (Sum cH aQ):=
 let z0:aa×aa×Bool:=({w0:=c3_0,w1:=c3_1,w2:=c3_2,w3:=c3_3},{w0:=c3_4,w1:=c3_5,w2:=c3_6,w3:=c3_7},c3_8)
 let z1:Int:=Int.tdiv a9 (64:Int)
 let z2:Nat:=pS a0
 let z3:aa×aa×Bool:=dQ z2 z0 z0
 let z4:aa×aa×Bool:=({w0:=c1_0,w1:=c1_1,w2:=c1_2,w3:=c1_3},{w0:=c1_4,w1:=c1_5,w2:=c1_6,w3:=c1_7},c1_8)
 let z5:Bool:=inR (a9-(1:Int))
 let z6:aa×aa×Bool:=dQ z2 z3 z4
 let z7:=z6.fst
 let z8:=z6.snd
 let z9:=z8.fst
 let z10:=z3.fst
 let z11:=z3.snd
 let z12:=z11.fst
 (.br (decide ((0:Int)<=a9))
 (gd [nM ((a0,z0,z0,()),()),true&&inR z1,inB z1 4,decide (Int.toNat z1+0<List.length c0)] (.br (bu (List.getD c0 (Int.toNat z1+0) (0:UInt64)) (↑(UInt64.toNat (i2u (Int.tmod a9 (64:Int)))):Int)&&&(1:UInt64)==(1:UInt64))
  (gd [nM ((a0,z3,z4,()),()),z5] (.ok (.inl ((a0,((),((),((),((),(a9-(1:Int),())))))),(c0,((c1_0,(c1_1,(c1_2,(c1_3,(c1_4,(c1_5,(c1_6,(c1_7,(c1_8,()))))))))),((c2_0,(c2_1,(c2_2,(c2_3,(c2_4,(c2_5,(c2_6,(c2_7,(c2_8,()))))))))),((z7.w0,(z7.w1,(z7.w2,(z7.w3,(z9.w0,(z9.w1,(z9.w2,(z9.w3,(z8.snd,()))))))))),()))))))))
  (gd [z5] (.ok (.inl ((a0,((),((),((),((),(a9-(1:Int),())))))),(c0,((c1_0,(c1_1,(c1_2,(c1_3,(c1_4,(c1_5,(c1_6,(c1_7,(c1_8,()))))))))),((c2_0,(c2_1,(c2_2,(c2_3,(c2_4,(c2_5,(c2_6,(c2_7,(c2_8,()))))))))),((z10.w0,(z10.w1,(z10.w2,(z10.w3,(z12.w0,(z12.w1,(z12.w2,(z12.w3,(z11.snd,()))))))))),()))))))))))
 (.ok (.inr ⟨(.exit 2,pI),(((),((),())),((c2_0,(c2_1,(c2_2,(c2_3,(c2_4,(c2_5,(c2_6,(c2_7,(c2_8,()))))))))),((c3_0,(c3_1,(c3_2,(c3_3,(c3_4,(c3_5,(c3_6,(c3_7,(c3_8,()))))))))),())))⟩)))
def pJ (s:cH):OT (Sum cH aQ):=aiE (s.1.1) (s.1.2.2.2.2.2.1) (s.2.1) (s.2.2.1.1) (s.2.2.1.2.1) (s.2.2.1.2.2.1) (s.2.2.1.2.2.2.1) (s.2.2.1.2.2.2.2.1) (s.2.2.1.2.2.2.2.2.1) (s.2.2.1.2.2.2.2.2.2.1) (s.2.2.1.2.2.2.2.2.2.2.1) (s.2.2.1.2.2.2.2.2.2.2.2.1) (s.2.2.2.1.1) (s.2.2.2.1.2.1) (s.2.2.2.1.2.2.1) (s.2.2.2.1.2.2.2.1) (s.2.2.2.1.2.2.2.2.1) (s.2.2.2.1.2.2.2.2.2.1) (s.2.2.2.1.2.2.2.2.2.2.1) (s.2.2.2.1.2.2.2.2.2.2.2.1) (s.2.2.2.1.2.2.2.2.2.2.2.2.1) (s.2.2.2.2.1.1) (s.2.2.2.2.1.2.1) (s.2.2.2.2.1.2.2.1) (s.2.2.2.2.1.2.2.2.1) (s.2.2.2.2.1.2.2.2.2.1) (s.2.2.2.2.1.2.2.2.2.2.1) (s.2.2.2.2.1.2.2.2.2.2.2.1) (s.2.2.2.2.1.2.2.2.2.2.2.2.1) (s.2.2.2.2.1.2.2.2.2.2.2.2.2.1)
theorem aiz (s:cH) (Q:Sum cH aQ->Prop):wps te sR az 1000 (bL (ao Tryz.f164) 2) (tH.inj s) (df tH U6 (Q:Sum tH.T aQ->Prop))=(pJ s).wpR Q:=by kernel_rfl
def Aq (g2_2:cH->jw) (s:cH):OT aQ:=(.ok ⟨(.exit 2,pI),g2_2 s⟩)
def tJ:ax:=⟨[.val true (.prod .elem (.prod .elem .bool))],[],false⟩
def K3:SV->Option ax:=λ_=>some tJ
def Pd (ok0:cy->Bool) (g0_0:cy->jx) (ok2:cH->Bool) (g2_2:cH->jw) (a0:Int) (a1:aa) (a2:(aa×(aa×Bool))):OT iE.Y:=
 let z0:aa:= {w0:=0,w1:=0,w2:=0,w3:=0}
 let z1:Int:=fQ a0 (1:Int)
 let z2:aa:=ofP (pS z1) a1
 let z3:(Int×PUnit×PUnit×PUnit×PUnit×Int×PUnit)×List UInt64×(UInt64×UInt64×UInt64×UInt64×UInt64×UInt64×UInt64×UInt64×Bool×PUnit)×(UInt64×UInt64×UInt64×UInt64×UInt64×UInt64×UInt64×UInt64×Bool×PUnit)×(UInt64×UInt64×UInt64×UInt64×UInt64×UInt64×UInt64×UInt64×Bool×PUnit)×PUnit:=((a0,(),(),(),(),(255:Int),()),[z2.w0,z2.w1,z2.w2,z2.w3],(a2.fst.w0,a2.fst.w1,a2.fst.w2,a2.fst.w3,a2.snd.fst.w0,a2.snd.fst.w1,a2.snd.fst.w2,a2.snd.fst.w3,a2.snd.snd,()),((0:UInt64),(0:UInt64),(0:UInt64),(0:UInt64),(0:UInt64),(0:UInt64),(0:UInt64),(0:UInt64),false,()),((0:UInt64),(0:UInt64),(0:UInt64),(0:UInt64),(0:UInt64),(0:UInt64),(0:UInt64),(0:UInt64),true,()),())
 let z4:(Int×PUnit×PUnit×PUnit×PUnit×Int×PUnit)×List UInt64×(UInt64×UInt64×UInt64×UInt64×UInt64×UInt64×UInt64×UInt64×Bool×PUnit)×(UInt64×UInt64×UInt64×UInt64×UInt64×UInt64×UInt64×UInt64×Bool×PUnit)×(UInt64×UInt64×UInt64×UInt64×UInt64×UInt64×UInt64×UInt64×Bool×PUnit)×PUnit:=g0_0 z3
 let z5:=z4.fst
 let z6:=z4.snd
 let z7:=z6.snd
 let z8:=z7.fst
 let z9:=z8.snd
 let z10:=z9.snd
 let z11:=z10.snd
 let z12:=z11.snd
 let z13:=z12.snd
 let z14:=z13.snd
 let z15:=z14.snd
 let z16:=z7.snd
 let z17:=z16.fst
 let z18:=z17.snd
 let z19:=z18.snd
 let z20:=z19.snd
 let z21:=z20.snd
 let z22:=z21.snd
 let z23:=z22.snd
 let z24:=z23.snd
 let z25:=z16.snd.fst
 let z26:=z25.snd
 let z27:=z26.snd
 let z28:=z27.snd
 let z29:=z28.snd
 let z30:=z29.snd
 let z31:=z30.snd
 let z32:=z31.snd
 let z33:(Int×PUnit×PUnit×PUnit×PUnit×Int×PUnit)×List UInt64×(UInt64×UInt64×UInt64×UInt64×UInt64×UInt64×UInt64×UInt64×Bool×PUnit)×(UInt64×UInt64×UInt64×UInt64×UInt64×UInt64×UInt64×UInt64×Bool×PUnit)×(UInt64×UInt64×UInt64×UInt64×UInt64×UInt64×UInt64×UInt64×Bool×PUnit)×PUnit:=((z5.fst,(),(),(),(),z5.snd.snd.snd.snd.snd.fst,()),z6.fst,(z8.fst,z9.fst,z10.fst,z11.fst,z12.fst,z13.fst,z14.fst,z15.fst,z15.snd.fst,()),(z17.fst,z18.fst,z19.fst,z20.fst,z21.fst,z22.fst,z23.fst,z24.fst,z24.snd.fst,()),(z25.fst,z26.fst,z27.fst,z28.fst,z29.fst,z30.fst,z31.fst,z32.fst,z32.snd.fst,()),())
 let z34:=(g2_2 z33).snd.snd.fst
 let z35:=z34.snd
 let z36:=z35.snd
 let z37:=z36.snd
 let z38:=z37.snd
 let z39:=z38.snd
 let z40:=z39.snd
 let z41:=z40.snd
 (.br (!onB a0 a2)
 (.ok ⟨tJ,(((z0,z0,true),()),())⟩)
 (gd [iw ((z1,a1,()),()),ok0 z3,ok2 z33] (.ok ⟨tJ,((({w0:=z34.fst,w1:=z35.fst,w2:=z36.fst,w3:=z37.fst},{w0:=z38.fst,w1:=z39.fst,w2:=z40.fst,w3:=z41.fst},z41.snd.fst),()),())⟩)))
theorem ane (ok0:cy->Bool) (g0_0:cy->jx) (ok2:cH->Bool) (g2_2:cH->jw) (x:Fw) (Q:iE.Y->Prop):wpf te sR (bn 2 (dC tH 2 ok2 (Aq g2_2)) (bn 0 (dC tI 0 ok0 (Ar g0_0)) az)) 1000 Tryz.f164 (iE.inp.inj x).tm (iE.inp.inj x).hp (fnK iE K3 Q) (λ_ _=>False)=(Pd ok0 g0_0 ok2 g2_2 (x.1.1) (x.1.2.1) (x.1.2.2.1)).wpR Q:=by kernel_rfl
theorem XE (ok0:cy->Bool) (g0_0:cy->jx) (ok2:cH->Bool) (g2_2:cH->jw) (h0:∀ s:cy,ok0 s=true->∃ m e,av (tK) m s=some e/\(Ar g0_0 s).run=some e) (h2:∀ s:cH,ok2 s=true->∃ m e,av (pJ) m s=some e/\(Aq g2_2 s).run=some e) (pre:Fw->Bool) (F:Fw->OT iE.Y) (hF:∀ (x:Fw) oy,pre x=true->(F x).run=some oy->(Pd ok0 g0_0 ok2 g2_2 (x.1.1) (x.1.2.1) (x.1.2.2.1)).run=some oy):ac Tryz.prog 164 (iE.aI pre F):=
 aE au me sQ (f:=164) (fn:=Tryz.f164) (c:=ao Tryz.f164) (by kernel_rfl) (by kernel_rfl) (by kernel_rfl) (S:=iE) (k:=0) (by kernel_rfl) (λR hR=>(aH (c:=(ao Tryz.f164)) (by kernel_rfl) (id:=2) (by kernel_rfl) (bz au me sQ (sh:=tH) hR (xs:=U6) (aJ (by kernel_rfl) (by kernel_rfl) hR) aY ag (n:=1000) (T:=pJ) (λs Q=>aiz s Q) (ok:=ok2) (f:=Aq g2_2) h2) (aH (c:=(ao Tryz.f164)) (by kernel_rfl) (id:=0) (by kernel_rfl) (bz au me sQ (sh:=tI) hR (xs:=U7) (aJ (by kernel_rfl) (by kernel_rfl) hR) aY ag (n:=1000) (T:=tK) (λs Q=>aiA s Q) (ok:=ok0) (f:=Ar g0_0) h0) ag))) (n:=1000) (sel:=K3) (λv o h=>by cases h;rfl) (pre:=pre) (F:=F) (T:=λx=>Pd ok0 g0_0 ok2 g2_2 (x.1.1) (x.1.2.1) (x.1.2.2.1)) (λx Q=>ane ok0 g0_0 ok2 g2_2 x Q) hF
def bm (P:Pt):C9:=(P.1.w0,P.1.w1,P.1.w2,P.1.w3,P.2.1.w0,P.2.1.w1,P.2.1.w2,P.2.1.w3,P.2.2,())
def cn (p k:Nat) (P:Pt) (n:Nat) (O:Pt):Pt:=cond (Aj k (255-n)) (dQ p (dQ p O O) P) (dQ p O O)
def Bb (p k:Nat) (P:Pt):Pt:=upto (cn p k P) aC 256
theorem U1 {p k t:Nat} {P:Pt} (ht:t<=256) (hk:k/2^t=0):∀ n,n<=256-t->upto (cn p k P) aC n=aC
 |0,_=>rfl
 |n+1,hn=>by
  show cn p k P n (upto (cn p k P) aC n)=_
  rw [U1 ht hk n (by omega)]
  have hb:Aj k (255-n)=false:=by
   unfold Aj
   rw [show 255-n=t+(255-n-t) by omega,Nat.pow_add,<-Nat.div_div_eq_div_mul,hk,Nat.zero_div]
   rfl
  unfold cn
  rw [hb]
  rfl
def zZ (s:Int) (B:aa) (P:C9) (Q:C9) (O:C9) (i:Int):cy:=((s,(),(),(),(),i,()),(lst B,P,Q,O,()))
theorem UW (s:Int) (B:aa) (P Q O:C9):∀ n:Nat,n<=256->∃ m,av tK m (zZ s B P Q O ((n:Int)-1))=some ⟨(.exit 0,lj),zZ s B P Q O (Xt B.nat n)⟩
 |0,_=>⟨1,aR (OT.ay (decide_eq_false (by dsimp only [zZ];omega)))⟩
 |n+1,hn=>by
  have e1:((n+1:Nat):Int)-1=(n:Int):=by omega
  rw [e1]
  have hb:=aq7 (b:=B) (k:=n) (by omega)
  unfold Xt
  rcases (Bool.eq_false_or_eq_true (Aj B.nat n)).symm with h|h
  ·obtain ⟨m,hm⟩:=UW s B P Q O n (by omega)
   rw [h] at hb⊢
   refine ⟨m+1,aM ?_ hm⟩
   refine (OT.ap (decide_eq_true (by dsimp only [zZ];omega))).trans ((aj5 (B:=B) (k:=n) (by omega) _).trans ((OT.ap ?_).trans ((al ?_).trans rfl)))
   ·exact (Xa _).trans (congrArg Bool.not hb)
   ·simp only [List.all_cons,List.all_nil,Bool.and_true]
    exact bF (by dsimp only [zZ];omega)
  ·rw [h] at hb⊢
   refine ⟨1,aR ?_⟩
   refine (OT.ap (decide_eq_true (by dsimp only [zZ];omega))).trans ((aj5 (B:=B) (k:=n) (by omega) _).trans ((OT.ay ?_).trans rfl))
   exact (Xa _).trans (congrArg Bool.not hb)
def K5 (s:cy):Bool:=decide (s.1.2.2.2.2.2.1=255/\s.2.1.length=4)
def U9 (s:cy):jx:=((s.1.1,(),(),(),(),Xt (elemOf s.2.1).nat 256,()),s.2)
theorem aiD:∀ s:cy,K5 s=true->∃ m e,av tK m s=some e/\(Ar U9 s).run=some e:=by
 rintro ⟨⟨s,⟨⟩,⟨⟩,⟨⟩,⟨⟩,i,⟨⟩⟩,⟨l,P,Q,O,⟨⟩⟩⟩ h
 have h':=of_decide_eq_true h
 dsimp only at h'
 obtain ⟨rfl,hl⟩:=h'
 obtain ⟨B,rfl⟩:∃ a,l=lst a:=⟨elemOf l,(bh hl).symm⟩
 obtain ⟨m,hm⟩:=UW s B P Q O 256 (by omega)
 exact ⟨m,_,hm,rfl⟩
theorem am7 {s:Int} (hs:ak s=true) (B:aa) (P Q:C9) (O:Pt) {k:Nat} (hk:k<256):
 (pJ (zZ s B P Q (bm O) (k:Int))).run=some (.inl (zZ s B P Q (bm (cn (pS s) B.nat (k9 P) (255-k) O)) ((k:Int)-1))):=by
 have hb:=aq7 (b:=B) (k:=k) hk
 have t1:Int.tdiv (k:Int) 64=((k/64:Nat):Int):=by rw [Int.tdiv_eq_ediv_of_nonneg (by omega)];omega
 have hi:inR ((k:Int)-1)=true:=bF (by omega)
 refine (OT.ap (decide_eq_true (by dsimp only [zZ];omega))).trans ((al ?_).trans ?_)
 ·simp only [zZ,t1,Int.toNat_natCast,Nat.add_zero,cS,List.all_cons,List.all_nil,Bool.and_true,Bool.true_and,Bool.and_eq_true]
  exact ⟨hs,bF (by omega),bG (by omega),decide_eq_true (by omega)⟩
 ·rcases (Bool.eq_false_or_eq_true (Aj B.nat k)).symm with h|h
  ·have e:cn (pS s) B.nat (k9 P) (255-k) O=dQ (pS s) O O:=by unfold cn;rw [show 255-(255-k)=k by omega,h];rfl
   rw [e]
   rw [h] at hb
   refine (OT.ay hb).trans ((al ?_).trans rfl)
   simp only [List.all_cons,List.all_nil,Bool.and_true]
   exact hi
  ·have e:cn (pS s) B.nat (k9 P) (255-k) O=dQ (pS s) (dQ (pS s) O O) (k9 P):=by unfold cn;rw [show 255-(255-k)=k by omega,h];rfl
   rw [e]
   rw [h] at hb
   refine (OT.ap hb).trans ((al ?_).trans rfl)
   simp only [List.all_cons,List.all_nil,Bool.and_true,Bool.and_eq_true]
   exact ⟨hs,hi⟩
theorem UU {s:Int} (hs:ak s=true) (B:aa) (P Q:C9):∀ (n:Nat) (O:Pt),n<=256->O=upto (cn (pS s) B.nat (k9 P)) aC (256-n)->
 ∃ m,av pJ m (zZ s B P Q (bm O) ((n:Int)-1))=some ⟨(.exit 2,pI),(((),(),()),(Q,bm (Bb (pS s) B.nat (k9 P)),()))⟩
 |0,O,_,hO=>by
  have e:Bb (pS s) B.nat (k9 P)=O:=hO.symm
  rw [e]
  exact ⟨1,aR (OT.ay (decide_eq_false (by dsimp only [zZ];omega)))⟩
 |n+1,O,hn,hO=>by
  obtain ⟨m,hm⟩:=UU hs B P Q n (cn (pS s) B.nat (k9 P) (255-n) O) (by omega) (by
   rw [show 256-n=(255-n)+1 by omega,hO,show 256-(n+1)=255-n by omega]
   rfl)
  rw [show ((n+1:Nat):Int)-1=(n:Int) by omega]
  exact ⟨m+1,aM (am7 hs B P Q O (by omega)) hm⟩
def Bg (s:cH):Bool:=ak s.1.1&&decide (s.1.2.2.2.2.2.1=Xt (elemOf s.2.1).nat 256/\s.2.1.length=4/\k9 s.2.2.2.2.1=aC)
def U8 (s:cH):jw:=(((),(),()),(s.2.2.2.1,bm (Bb (pS s.1.1) (elemOf s.2.1).nat (k9 s.2.2.1)),()))
theorem aiC:∀ s:cH,Bg s=true->∃ m e,av pJ m s=some e/\(Aq U8 s).run=some e:=by
 rintro ⟨⟨s,⟨⟩,⟨⟩,⟨⟩,⟨⟩,i,⟨⟩⟩,⟨l,P,Q,O,⟨⟩⟩⟩ h
 simp only [Bg,Bool.and_eq_true,decide_eq_true_eq] at h
 obtain ⟨hs,rfl,hl,hO⟩:=h
 have hO2:O=bm aC:=by rw [<-hO];rfl
 subst hO2
 obtain ⟨B,rfl⟩:∃ a,l=lst a:=⟨elemOf l,(bh hl).symm⟩
 obtain ⟨t,e1,e2,e3⟩:=A3 B.nat 256 (Nat.div_eq_of_lt (gv B))
 obtain ⟨m,hm⟩:=UU hs B P Q t aC e2 (U1 e2 e3 _ (Nat.le_refl _)).symm
 rw [<-e1] at hm
 exact ⟨m,_,hm,rfl⟩
def uj (c:Int) (k:aa) (P:Pt):Pt:=cond (onB c P) (Bb (pS c) (ofP (pS (fQ c 1)) k).nat P) aC
def K4 (_:Fw):Bool:=true
def acv (x:Fw):OT iE.Y:=.ok ⟨tJ,((uj x.1.1 x.1.2.1 x.1.2.2.1,()),())⟩
theorem aiB:ac Tryz.prog 164 (iE.aI K4 acv):=XE K5 U9 Bg U8 aiD aiC _ _ λx oy _ ho=>by
 rw [<-ho]
 clear ho
 obtain ⟨⟨c,k,P,⟨⟩⟩,⟨⟩⟩:=x
 show _=(OT.ok ⟨tJ,((uj c k P,()),())⟩:OT iE.Y).run
 rcases (Bool.eq_false_or_eq_true (onB c P)).symm with h1|h1
 ·have e:uj c k P=aC:=by unfold uj;rw [h1];rfl
  rw [e]
  exact OT.ap (b:= !onB c P) (by rw [h1];rfl)
 ·have hs:=qe h1
  have e:uj c k P=Bb (pS c) (ofP (pS (fQ c 1)) k).nat P:=by unfold uj;rw [h1];rfl
  rw [e]
  refine (OT.ay (b:= !onB c P) (by rw [h1];rfl)).trans ((al ?_).trans rfl)
  simp only [List.all_cons,List.all_nil,Bool.and_true,Bool.and_eq_true]
  refine ⟨eY hs,decide_eq_true (p:=(255:Int)=255/\(lst (ofP (pS (fQ c 1)) k)).length=4) ⟨rfl,rfl⟩,?_⟩
  refine (Bool.and_eq_true _ _).mpr ⟨hs,?_⟩
  exact decide_eq_true (p:=Xt (ofP (pS (fQ c 1)) k).nat 256=Xt (ofP (pS (fQ c 1)) k).nat 256/\(lst (ofP (pS (fQ c 1)) k)).length=4/\aC=aC) ⟨rfl,rfl,rfl⟩
def wo:cN:=(iE.aI K4 acv)
theorem Pc:ac Tryz.prog 164 wo:=aiB
theorem Pb:aK wo:=aB
def sO:Env:=aA 164 wo sR
theorem mc:aW Tryz.prog sO:=ai Pc me
theorem zk:aw sO:=ae Pb zm
theorem sN:bc Tryz.prog te sO:=aO follows au mc zk
def fv:aq:=⟨[.val false .int,.val true .elem],[],true,0,false⟩
abbrev wB:Type:=((Int)×(aa)×Unit)×(Unit)
def nQ:Shape:=⟨114,[(0,.val false .int),(4,.ptr 0 0 0),(10,.ptr 1 0 0),(14,.ptr 2 0 0),(15,.ptr 3 0 0),(16,.ptr 4 0 0),(17,.val false .int)],[(0,.row .u64),(1,.row .u64),(2,.row .u64),(3,.row .u64),(4,.row .u64)],0,true⟩
abbrev bY:Type:=((Int)×(Unit)×(Unit)×(Unit)×(Unit)×(Unit)×(Int)×Unit)×((List (UInt64))×(List (UInt64))×(List (UInt64))×(List (UInt64))×(List (UInt64))×Unit)
def nO:Shape:=⟨114,[(0,.val false .int),(4,.ptr 0 0 0),(10,.ptr 1 0 0),(14,.ptr 2 0 0),(15,.ptr 3 0 0),(16,.ptr 4 0 0),(17,.val false .int),(18,.ptr 5 0 0),(19,.val false .int)],[(0,.row .u64),(1,.row .u64),(2,.row .u64),(3,.row .u64),(4,.row .u64),(5,.row .u64)],0,true⟩
abbrev bo:Type:=((Int)×(Unit)×(Unit)×(Unit)×(Unit)×(Unit)×(Int)×(Unit)×(Int)×Unit)×((List (UInt64))×(List (UInt64))×(List (UInt64))×(List (UInt64))×(List (UInt64))×(List (UInt64))×Unit)
def mA:Shape:=⟨114,[(0,.val false .int),(4,.ptr 0 0 0),(10,.ptr 1 0 0),(14,.ptr 2 0 0),(15,.ptr 3 0 0),(16,.ptr 4 0 0),(17,.val false .int),(18,.ptr 5 0 0)],[(0,.row .u64),(1,.row .u64),(2,.row .u64),(3,.row .u64),(4,.row .u64),(5,.row .u64)],0,true⟩
abbrev dO:Type:=((Int)×(Unit)×(Unit)×(Unit)×(Unit)×(Unit)×(Int)×(Unit)×Unit)×((List (UInt64))×(List (UInt64))×(List (UInt64))×(List (UInt64))×(List (UInt64))×(List (UInt64))×Unit)
def Ld:SE->Option Shape:=kn [(2,mA)] none
def acJ (a0:Int) (a17:Int) (a19:Int) (c0:List (UInt64)) (c1:List (UInt64)) (c2:List (UInt64)) (c3:List (UInt64)) (c4:List (UInt64)) (c5:List (UInt64)):OT (Sum bo aQ):=
 let z0:Nat:=List.length c5
 let z1:Bool:=decide (4<=z0)
 let z2:aa:= {w0:=List.getD c5 0 0,w1:=List.getD c5 1 0,w2:=List.getD c5 2 0,w3:=List.getD c5 3 0}
 let z3:aa:=aN (pS a0) z2 z2
 (.br (decide (a19<a17))
 (gd [z1,z1,b9 ((a0,z2,z2,()),()),decide ((4/1:Nat)+0<=z0),inR (a19+(1:Int))] (.ok (.inl ((a0,((),((),((),((),((),(a17,((),(a19+(1:Int),()))))))))),(c0,(c1,(c2,(c3,(c4,(List.set (List.set (List.set (List.set c5 0 z3.w0) 1 z3.w1) 2 z3.w2) 3 z3.w3,()))))))))))
 (.ok (.inr ⟨(.exit 2,mA),((a0,((),((),((),((),((),(a17,((),())))))))),(c0,(c1,(c2,(c3,(c4,(c5,())))))))⟩)))
def nS (s:bo):OT (Sum bo aQ):=acJ (s.1.1) (s.1.2.2.2.2.2.2.1) (s.1.2.2.2.2.2.2.2.2.1) (s.2.1) (s.2.2.1) (s.2.2.2.1) (s.2.2.2.2.1) (s.2.2.2.2.2.1) (s.2.2.2.2.2.2.1)
theorem acE (s:bo) (Q:Sum bo aQ->Prop):wps te sO az 1000 (bL (bL (ao Tryz.f94) 0) 2) (nO.inj s) (df nO Ld (Q:Sum nO.T aQ->Prop))=(nS s).wpR Q:=by kernel_rfl
def tM (g2_2:bo->dO) (s:bo):OT aQ:=(.ok ⟨(.exit 2,mA),g2_2 s⟩)
def mB:Shape:=⟨114,[(0,.val false .int),(4,.ptr 0 0 0),(14,.ptr 1 0 0)],[(0,.row .u64),(1,.row .u64)],0,true⟩
abbrev ir:Type:=((Int)×(Unit)×(Unit)×Unit)×((List (UInt64))×(List (UInt64))×Unit)
def Le:SE->Option Shape:=kn [(0,mB)] none
def Bj (ok2:bo->Bool) (g2_2:bo->dO) (a0:Int) (a17:Int) (c0:List (UInt64)) (c1:List (UInt64)) (c2:List (UInt64)) (c3:List (UInt64)) (c4:List (UInt64)):OT (Sum bY aQ):=
 let z0:(Int×PUnit×PUnit×PUnit×PUnit×PUnit×Int×PUnit×Int×PUnit)×List UInt64×List UInt64×List UInt64×List UInt64×List UInt64×List UInt64×PUnit:=((a0,(),(),(),(),(),a17,(),(1:Int),()),c0,c1,c2,c3,c4,[List.getD c3 0 0,List.getD c3 1 0,List.getD c3 2 0,List.getD c3 3 0],())
 let z1:(Int×PUnit×PUnit×PUnit×PUnit×PUnit×Int×PUnit×PUnit)×List UInt64×List UInt64×List UInt64×List UInt64×List UInt64×List UInt64×PUnit:=g2_2 z0
 let z2:=z1.snd
 let z3:=z2.snd
 let z4:=z3.snd
 let z5:=z4.snd
 let z6:=z5.snd
 let z7:=z6.snd.fst
 let z8:=z3.fst
 let z9:=z4.fst
 let z10:Nat:=List.length z9
 let z11:=z6.fst
 let z12:Nat:=List.length z11
 let z13:Bool:=decide (4<=z12)
 let z14:=z1.fst
 let z15:=z14.fst
 let z16:aa:= {w0:=List.getD z9 0 0,w1:=List.getD z9 1 0,w2:=List.getD z9 2 0,w3:=List.getD z9 3 0}
 let z17:aa:= {w0:=List.getD z11 0 0,w1:=List.getD z11 1 0,w2:=List.getD z11 2 0,w3:=List.getD z11 3 0}
 let z18:aa×PUnit:=(z17,())
 let z19:=z5.fst
 let z20:Nat:=List.length z19
 let z21:Bool:=b9 ((z15,z17,z18),())
 let z22:aa:= {w0:=List.getD z19 0 0,w1:=List.getD z19 1 0,w2:=List.getD z19 2 0,w3:=List.getD z19 3 0}
 let z23:Nat:=pS z15
 let z24:aa:=aN z23 z17 z17
 let z25:Bool:=decide ((4/1:Nat)+0<=z12)
 let z26:Bool:=inR (z14.snd.snd.snd.snd.snd.snd.fst-(1:Int))
 let z27:=z2.fst
 let z28:aa:=aN z23 z16 z17
 let z29:aa:=aN z23 z22 z24
 let z30:List UInt64:=List.set (List.set (List.set (List.set z11 0 z24.w0) 1 z24.w1) 2 z24.w2) 3 z24.w3
 (.br (decide ((1:Int)<=a17))
 (gd [decide (4<=List.length c3),ok2 z0,decide (4<=List.length z7),decide (4<=List.length z8)] (.br (!(List.getD z7 0 0==List.getD z8 0 0&&(List.getD z7 1 0==List.getD z8 1 0&&(List.getD z7 2 0==List.getD z8 2 0&&(List.getD z7 3 0==List.getD z8 3 0&&true)))))
  (gd [decide (4<=z10),z13,b9 ((z15,z16,z18),()),decide ((4/1:Nat)+0<=z10),decide (4<=z20),z13,z13,z21,b9 ((z15,z22,z24,()),()),decide ((4/1:Nat)+0<=z20),z13,z13,z21,z25,z26] (.ok (.inl ((z15,((),((),((),((),((),(z14.snd.snd.snd.snd.snd.snd.fst-(1:Int),()))))))),(z27,(z8,(List.set (List.set (List.set (List.set z9 0 z28.w0) 1 z28.w1) 2 z28.w2) 3 z28.w3,(List.set (List.set (List.set (List.set z19 0 z29.w0) 1 z29.w1) 2 z29.w2) 3 z29.w3,(z30,())))))))))
  (gd [z13,z13,z21,z25,z26] (.ok (.inl ((z15,((),((),((),((),((),(z14.snd.snd.snd.snd.snd.snd.fst-(1:Int),()))))))),(z27,(z8,(z9,(z19,(z30,())))))))))))
 (.ok (.inr ⟨(.exit 0,mB),((a0,((),((),()))),(c0,(c2,())))⟩)))
def lk (ok2:bo->Bool) (g2_2:bo->dO) (s:bY):OT (Sum bY aQ):=Bj ok2 g2_2 (s.1.1) (s.1.2.2.2.2.2.2.1) (s.2.1) (s.2.2.1) (s.2.2.2.1) (s.2.2.2.2.1) (s.2.2.2.2.2.1)
theorem acF (ok2:bo->Bool) (g2_2:bo->dO) (s:bY) (Q:Sum bY aQ->Prop):wps te sO (bn 2 (dC nO 2 ok2 (tM g2_2)) az) 1000 (bL (ao Tryz.f94) 0) (nQ.inj s) (df nQ Le (Q:Sum nQ.T aQ->Prop))=(lk ok2 g2_2 s).wpR Q:=by kernel_rfl
def tN (g0_0:bY->ir) (s:bY):OT aQ:=(.ok ⟨(.exit 0,mB),g0_0 s⟩)
def eK:ax:=⟨[.val true .elem,.val false .int],[],false⟩
def FB:SV->Option ax:=λ_=>some eK
def H2 (ok2:bo->Bool) (g2_2:bo->dO) (ok0:bY->Bool) (g0_0:bY->ir) (a0:Int) (a1:aa):OT fv.Y:=
 let z0:Int×PUnit:=(a0,())
 let z1:Nat:=pS a0
 let z2:aa:=ofP z1 a1
 let z3:aa:= {w0:=0,w1:=0,w2:=0,w3:=0}
 let z4:aa×Int×UInt64×UInt64×aa:=bO (Int.toNat a0)
 let z5:aa:= {w0:=1,w1:=0,w2:=0,w3:=0}
 let z6:aa:=(kT z4.fst z5).fst
 let z7:aa:=fk z6
 let z8:aa:=vX z1 z2 z7
 let z9:=z4.snd.fst
 let z10:aa:=eT z6 (Int.toNat z9)
 let z11:aa:=fk (tg z10 z5).fst
 let z12:aa×PUnit:=(z10,())
 let z13:aa:= {w0:=5,w1:=0,w2:=0,w3:=0}
 let z14:aa:=vX z1 z2 z11
 let z15:aa:=vX z1 z2 z10
 let z16:aa:=vX z1 z13 z10
 let z17:(Int×PUnit×PUnit×PUnit×PUnit×PUnit×Int×PUnit)×List UInt64×List UInt64×List UInt64×List UInt64×List UInt64×PUnit:=((a0,(),(),(),(),(),z9-(1:Int),()),[(0:UInt64),(0:UInt64),(0:UInt64),(0:UInt64)],[(1:UInt64),(0:UInt64),(0:UInt64),(0:UInt64)],[z14.w0,z14.w1,z14.w2,z14.w3],[z15.w0,z15.w1,z15.w2,z15.w3],[z16.w0,z16.w1,z16.w2,z16.w3],())
 let z18:(Int×PUnit×PUnit×PUnit)×List UInt64×List UInt64×PUnit:=g0_0 z17
 let z19:=z18.snd
 let z20:=z19.snd.fst
 let z21:Nat:=List.length z20
 let z22:UInt64:=List.getD z20 0 0
 let z23:Bool:=decide (4<=z21)
 let z24:=z18.fst.fst
 let z25:aa:= {w0:=z22,w1:=List.getD z20 1 0,w2:=List.getD z20 2 0,w3:=List.getD z20 3 0}
 let z26:aa:=EZ (pS z24) z25
 let z27:List UInt64:=List.set (List.set (List.set (List.set z20 0 z26.w0) 1 z26.w1) 2 z26.w2) 3 z26.w3
 let z28:=z19.fst
 let z29:Nat:=List.length z28
 let z30:List UInt64:=lay z28 z27 4 (0:UInt64)
 let z31:List UInt64:=lay z28 z20 4 (0:UInt64)
 (gd [wG (z0,()),iw ((a0,a1,()),())] (.br (z2.w0==(0:UInt64)&&(z2.w1==(0:UInt64)&&(z2.w2==(0:UInt64)&&(z2.w3==(0:UInt64)&&true))))
 (.ok ⟨eK,((z3,((0:Int),())),())⟩)
 (gd [jG ((a0,z2,z7,()),())] (.br (!(z8.w0==(1:UInt64)&&(z8.w1==(0:UInt64)&&(z8.w2==(0:UInt64)&&(z8.w3==(0:UInt64)&&true)))))
  (.ok ⟨eK,((z3,((22:Int),())),())⟩)
  (gd [wR (z0,()),nY ((z6,z9,()),()),jG ((a0,z2,z11,()),()),jG ((a0,z2,z12),()),jG ((a0,z13,z12),()),inR (z9-(1:Int)),ok0 z17,decide (0<z21)] (.br (z22%(2:UInt64)==(1:UInt64))
   (gd [z23,nW ((z24,z25,()),()),decide ((4/1:Nat)+0<=z21),decide (4<=List.length z27),decide ((4/1:Nat)+0<=z29),decide (4<=List.length z30)] (.ok ⟨eK,(({w0:=List.getD z30 0 0,w1:=List.getD z30 1 0,w2:=List.getD z30 2 0,w3:=List.getD z30 3 0},((0:Int),())),())⟩))
   (gd [z23,decide ((4/1:Nat)+0<=z29),decide (4<=List.length z31)] (.ok ⟨eK,(({w0:=List.getD z31 0 0,w1:=List.getD z31 1 0,w2:=List.getD z31 2 0,w3:=List.getD z31 3 0},((0:Int),())),())⟩))))))))
theorem aiL (ok2:bo->Bool) (g2_2:bo->dO) (ok0:bY->Bool) (g0_0:bY->ir) (x:wB) (Q:fv.Y->Prop):wpf te sO (bn 0 (dC nQ 0 ok0 (tN g0_0)) az) 1000 Tryz.f94 (fv.inp.inj x).tm (fv.inp.inj x).hp (fnK fv FB Q) (λ_ _=>False)=(H2 ok2 g2_2 ok0 g0_0 (x.1.1) (x.1.2.1)).wpR Q:=by kernel_rfl
theorem Pq (ok2:bo->Bool) (g2_2:bo->dO) (ok0:bY->Bool) (g0_0:bY->ir) (h2:∀ s:bo,ok2 s=true->∃ m e,av (nS) m s=some e/\(tM g2_2 s).run=some e) (h0:∀ s:bY,ok0 s=true->∃ m e,av (lk ok2 g2_2) m s=some e/\(tN g0_0 s).run=some e) (pre:wB->Bool) (F:wB->OT fv.Y) (hF:∀ (x:wB) oy,pre x=true->(F x).run=some oy->(H2 ok2 g2_2 ok0 g0_0 (x.1.1) (x.1.2.1)).run=some oy):ac Tryz.prog 94 (fv.aI pre F):=
 aE au mc sN (f:=94) (fn:=Tryz.f94) (c:=ao Tryz.f94) (by kernel_rfl) (by kernel_rfl) (by kernel_rfl) (S:=fv) (k:=0) (by kernel_rfl) (λR hR=>(aH (c:=(ao Tryz.f94)) (by kernel_rfl) (id:=0) (by kernel_rfl) (bz au mc sN (sh:=nQ) hR (xs:=Le) (aJ (by kernel_rfl) (by kernel_rfl) hR) aY (aH (c:=(bL (ao Tryz.f94) 0)) (by kernel_rfl) (id:=2) (by kernel_rfl) (bz au mc sN (sh:=nO) hR (xs:=Ld) (aJ (by kernel_rfl) (by kernel_rfl) hR) aY ag (n:=1000) (T:=nS) (λs Q=>acE s Q) (ok:=ok2) (f:=tM g2_2) h2) ag) (n:=1000) (T:=lk ok2 g2_2) (λs Q=>acF ok2 g2_2 s Q) (ok:=ok0) (f:=tN g0_0) h0) ag)) (n:=1000) (sel:=FB) (λv o h=>by cases h;rfl) (pre:=pre) (F:=F) (T:=λx=>H2 ok2 g2_2 ok0 g0_0 (x.1.1) (x.1.2.1)) (λx Q=>aiL ok2 g2_2 ok0 g0_0 x Q) hF
def sa:aa:=⟨1,0,0,0⟩
def sqN (p:Nat) (b:aa) (n:Nat):aa:=upto (λ_ e=>aN p e e) b n
def fJ (s:bo):Bool:=ak s.1.1&&decide (s.1.2.2.2.2.2.2.2.2.1=1/\s.1.2.2.2.2.2.2.1<=1000/\s.2.2.2.2.2.2.1.length=4)
def jA (s:bo):dO:=((s.1.1,(),(),(),(),(),s.1.2.2.2.2.2.2.1,(),()),(s.2.1,s.2.2.1,s.2.2.2.1,s.2.2.2.2.1,s.2.2.2.2.2.1,lst (sqN (pS s.1.1) (elemOf s.2.2.2.2.2.2.1) (s.1.2.2.2.2.2.2.1-1).toNat),()))
theorem acH:∀ s:bo,fJ s=true->∃ m e,av nS m s=some e/\(tM jA s).run=some e:=by
 rintro ⟨⟨s,⟨⟩,⟨⟩,⟨⟩,⟨⟩,⟨⟩,i,⟨⟩,j,⟨⟩⟩,⟨c0,c1,c2,c3,c4,c5,⟨⟩⟩⟩ h
 simp only [fJ,Bool.and_eq_true,decide_eq_true_eq] at h
 obtain ⟨hs,rfl,hi,hl⟩:=h
 obtain ⟨t,rfl⟩:∃ a,c5=lst a:=⟨elemOf c5,(bh hl).symm⟩
 have:=(bP (T:=nS) (λk t=>(((s,(),(),(),(),(),i,(),1+(k:Int),()),(c0,c1,c2,c3,c4,lst t,())):bo)) (λ_ e=>aN (pS s) e e)
  (λt=>(⟨(.exit 2,mA),((s,(),(),(),(),(),i,(),()),(c0,c1,c2,c3,c4,lst t,()))⟩:aQ)) (i-1).toNat t (λ_ _=>True) trivial (λk t hk _=>⟨?_,trivial⟩) (λt _=> ?_)).1
 ·obtain ⟨m,hm⟩:=this
  exact ⟨m,_,hm,rfl⟩
 ·have e2:(1:Int)+(k:Int)+1=1+((k+1:Nat):Int):=by omega
  rw [<-e2]
  refine (OT.ap (decide_eq_true (by dsimp only;omega))).trans ((al ?_).trans rfl)
  simp only [List.all_cons,List.all_nil,Bool.and_true,Bool.and_eq_true]
  exact ⟨rfl,rfl,hs,rfl,bF (by omega)⟩
 ·exact OT.ay (decide_eq_false (by dsimp only;omega))
abbrev Ton:Type:=aa×aa×aa
def HG (p m:Nat) (k:Nat) (w:Ton):Ton:=cond (eqE (sqN p w.2.1 (m-k-1)) sa) (w.1,w.2.1,aN p w.2.2 w.2.2) (aN p w.1 w.2.2,aN p w.2.1 (aN p w.2.2 w.2.2),aN p w.2.2 w.2.2)
def KC (s:Int) (c0:List UInt64) (i:Int) (w:Ton):bY:=((s,(),(),(),(),(),i,()),(c0,lst sa,lst w.1,lst w.2.1,lst w.2.2,()))
theorem agu {s:Int} (hs:ak s=true) (c0:List UInt64) {m k:Nat} (hm:m<=1000) (hk:k<m) (w:Ton):
 (lk fJ jA (KC s c0 ((m:Int)-(k:Int)) w)).run=some (.inl (KC s c0 ((m:Int)-((k+1:Nat):Int)) (HG (pS s) m k w))):=by
 obtain ⟨x,b,z⟩:=w
 have e2:(m:Int)-((k+1:Nat):Int)=(m:Int)-(k:Int)-1:=by omega
 have hi:inR ((m:Int)-(k:Int)-1)=true:=bF (by omega)
 have hk2:((m:Int)-(k:Int)-1).toNat=m-k-1:=by omega
 have hg:jA ((s,(),(),(),(),(),(m:Int)-(k:Int),(),1,()),(c0,lst sa,lst x,lst b,lst z,lst b,()))=((s,(),(),(),(),(),(m:Int)-(k:Int),(),()),(c0,lst sa,lst x,lst b,lst z,lst (sqN (pS s) b (m-k-1)),())):=by
  show ((s,(),(),(),(),(),(m:Int)-(k:Int),(),()),(c0,lst sa,lst x,lst b,lst z,lst (sqN (pS s) b ((m:Int)-(k:Int)-1).toNat),()))=_
  rw [hk2]
 have hok:fJ ((s,(),(),(),(),(),(m:Int)-(k:Int),(),1,()),(c0,lst sa,lst x,lst b,lst z,lst b,()))=true:=
  (Bool.and_eq_true _ _).mpr ⟨hs,decide_eq_true (p:=(1:Int)=1/\(m:Int)-(k:Int)<=1000/\(lst b).length=4) ⟨rfl,by omega,rfl⟩⟩
 have hb: [List.getD (lst b) 0 0,List.getD (lst b) 1 0,List.getD (lst b) 2 0,List.getD (lst b) 3 0]=lst b:=rfl
 have hpre:∀ x y,b9 ((s,x,y,()),())=true:=λ_ _=>hs
 show (Bj fJ jA s ((m:Int)-(k:Int)) c0 (lst sa) (lst x) (lst b) (lst z)).run=_
 unfold Bj
 simp only [hb,hg,hok]
 refine (OT.ap (decide_eq_true (by omega))).trans ((al rfl).trans ?_)
 unfold HG
 dsimp only
 rw [e2]
 generalize sqN (pS s) b (m-k-1)=t
 rcases (Bool.eq_false_or_eq_true (eqE t sa)).symm with h|h
 ·refine (OT.ap (b:= !eqE t sa) (by rw [h];rfl)).trans ((al ?_).trans ?_)
  ·simp only [ao4,apb,cS,hpre,hi,List.all_cons,List.all_nil,Bool.and_true,Bool.and_eq_true]
   exact ⟨rfl,rfl,trivial,rfl,rfl,rfl,rfl,trivial,trivial,rfl,rfl,rfl,trivial,rfl⟩
  ·rw [h]
   simp only [ao4,apb]
   rfl
 ·refine (OT.ay (b:= !eqE t sa) (by rw [h];rfl)).trans ((al ?_).trans ?_)
  ·simp only [ao4,apb,cS,hpre,hi,List.all_cons,List.all_nil,Bool.and_true,Bool.and_eq_true]
   exact ⟨rfl,rfl,trivial,rfl⟩
  ·rw [h]
   simp only [ao4,apb]
   rfl
def aqX (p m:Nat) (w:Ton):Ton:=upto (HG p m) w m
def wA (s:bY):Bool:=ak s.1.1&&decide (0<=s.1.2.2.2.2.2.2.1/\s.1.2.2.2.2.2.2.1<=1000/\s.2.2.1= [1,0,0,0]/\s.2.2.2.1.length=4/\s.2.2.2.2.1.length=4/\s.2.2.2.2.2.1.length=4)
def Bi (s:bY):ir:=((s.1.1,(),(),()),(s.2.1,lst (aqX (pS s.1.1) s.1.2.2.2.2.2.2.1.toNat (elemOf s.2.2.2.1,elemOf s.2.2.2.2.1,elemOf s.2.2.2.2.2.1)).1,()))
theorem acI:∀ s:bY,wA s=true->∃ m e,av (lk fJ jA) m s=some e/\(tN Bi s).run=some e:=by
 rintro ⟨⟨s,⟨⟩,⟨⟩,⟨⟩,⟨⟩,⟨⟩,i,⟨⟩⟩,⟨c0,c1,c2,c3,c4,⟨⟩⟩⟩ h
 simp only [wA,Bool.and_eq_true,decide_eq_true_eq] at h
 obtain ⟨hs,h0,h1,rfl,h2,h3,h4⟩:=h
 obtain ⟨x,rfl⟩:∃ a,c2=lst a:=⟨elemOf c2,(bh h2).symm⟩
 obtain ⟨b,rfl⟩:∃ a,c3=lst a:=⟨elemOf c3,(bh h3).symm⟩
 obtain ⟨z,rfl⟩:∃ a,c4=lst a:=⟨elemOf c4,(bh h4).symm⟩
 obtain ⟨m,rfl⟩:∃ m:Nat,i=(m:Int):=⟨i.toNat,by omega⟩
 have:=(bP (T:=lk fJ jA) (λk w=>KC s c0 ((m:Int)-(k:Int)) w) (HG (pS s) m)
  (λw=>(⟨(.exit 0,mB),((s,(),(),()),(c0,lst w.1,()))⟩:aQ)) m (x,b,z) (λ_ _=>True) trivial (λk w hk _=>⟨agu hs c0 (by omega) hk w,trivial⟩) (λw _=> ?_)).1
 ·obtain ⟨n,hn⟩:=this
  refine ⟨n,_,?_,rfl⟩
  have e:KC s c0 ((m:Int)-((0:Nat):Int)) (x,b,z)=((s,(),(),(),(),(),(m:Int),()),(c0,[1,0,0,0],lst x,lst b,lst z,())):=by
   rw [show (m:Int)-((0:Nat):Int)=(m:Int) by omega]
   rfl
  rw [e] at hn
  exact hn
 ·exact OT.ay (decide_eq_false (by dsimp only [KC];omega))
def Xy (s:Int) (a:aa):aa:=(aqX (pS s) ((bO s.toNat).2.1-1).toNat
 (vX (pS s) a (fk (tg (eT (kT (bO s.toNat).1 sa).1 (bO s.toNat).2.1.toNat) sa).1),vX (pS s) a (eT (kT (bO s.toNat).1 sa).1 (bO s.toNat).2.1.toNat),vX (pS s) ⟨5,0,0,0⟩ (eT (kT (bO s.toNat).1 sa).1 (bO s.toNat).2.1.toNat))).1
def Nb (p:Nat) (x:aa):aa:=cond (x.w0%2==1) (EZ p x) x
def wz (x:wB):Bool:=ak x.1.1
def Vb (x:wB):OT fv.Y:=.br (cr (ofP (pS x.1.1) x.1.2.1)) (.ok ⟨eK,((⟨0,0,0,0⟩,((0:Int),())),())⟩)
 (.br (eqE (vX (pS x.1.1) (ofP (pS x.1.1) x.1.2.1) (fk (kT (bO x.1.1.toNat).1 sa).1)) sa) (.ok ⟨eK,((Nb (pS x.1.1) (Xy x.1.1 (ofP (pS x.1.1) x.1.2.1)),((0:Int),())),())⟩) (.ok ⟨eK,((⟨0,0,0,0⟩,((22:Int),())),())⟩))
theorem aqQ {s:Int} (hs:ak s=true):1<=(bO s.toNat).2.1/\(bO s.toNat).2.1<=32:=by
 rcases cu hs with rfl|rfl|rfl|rfl<;>decide
theorem acG:ac Tryz.prog 94 (fv.aI wz Vb):=Pq fJ jA wA Bi acH acI _ _ λx oy hp ho=>by
 rw [<-ho]
 clear ho
 obtain ⟨⟨s,a,⟨⟩⟩,⟨⟩⟩:=x
 have hs:ak s=true:=hp
 have had:=aqQ hs
 show _=(OT.br (cr (ofP (pS s) a)) (.ok ⟨eK,((⟨0,0,0,0⟩,((0:Int),())),())⟩) (.br (eqE (vX (pS s) (ofP (pS s) a) (fk (kT (bO s.toNat).1 sa).1)) sa) (.ok ⟨eK,((Nb (pS s) (Xy s (ofP (pS s) a)),((0:Int),())),())⟩) (.ok ⟨eK,((⟨0,0,0,0⟩,((22:Int),())),())⟩)):OT fv.Y).run
 refine (al ?_).trans ?_
 ·simp only [List.all_cons,List.all_nil,Bool.and_true,Bool.and_eq_true]
  exact ⟨hs,hs⟩
 generalize hA:ofP (pS s) a=A
 rcases (Bool.eq_false_or_eq_true (cr A)).symm with hz|hz
 ·refine Eq.trans ?_ (OT.ay (b:=cr A) hz).symm
  refine (OT.ay hz).trans ((al ?_).trans ?_)
  ·simp only [List.all_cons,List.all_nil,Bool.and_true]
   exact hs
  ·rcases (Bool.eq_false_or_eq_true (eqE (vX (pS s) A (fk (kT (bO s.toNat).1 sa).1)) sa)).symm with h1|h1
   ·refine Eq.trans ?_ (OT.ay h1).symm
    exact OT.ap (b:= !eqE (vX (pS s) A (fk (kT (bO s.toNat).1 sa).1)) sa) (by rw [h1];rfl)
   ·refine Eq.trans ?_ (OT.ap h1).symm
    refine (OT.ay (b:= !eqE (vX (pS s) A (fk (kT (bO s.toNat).1 sa).1)) sa) (by rw [h1];rfl)).trans ((al ?_).trans ?_)
    ·simp only [List.all_cons,List.all_nil,Bool.and_true,Bool.and_eq_true]
     refine ⟨hs,decide_eq_true ⟨(by show 0<=(bO s.toNat).2.1;omega),(by show (bO s.toNat).2.1<=1000000;omega)⟩,hs,hs,hs,bF (by omega),(Bool.and_eq_true _ _).mpr ⟨hs,?_⟩,rfl⟩
     exact decide_eq_true ⟨(by show 0<=(bO s.toNat).2.1-1;omega),(by show (bO s.toNat).2.1-1<=1000;omega),rfl,rfl,rfl,rfl⟩
    ·have hg:∀ w x b z:aa,(Bi ((s,(),(),(),(),(),(bO s.toNat).2.1-1,()),([0,0,0,0],[1,0,0,0],[x.w0,x.w1,x.w2,x.w3],[b.w0,b.w1,b.w2,b.w3],[z.w0,z.w1,z.w2,z.w3],())))=((s,(),(),()),([0,0,0,0],lst (aqX (pS s) ((bO s.toNat).2.1-1).toNat (x,b,z)).1,())):=λ_ _ _ _=>rfl
     simp only [hg sa]
     have hR:(aqX (pS s) ((bO s.toNat).2.1-1).toNat (vX (pS s) A (fk (tg (eT (kT (bO s.toNat).1 ⟨1,0,0,0⟩).1 (bO s.toNat).2.1.toNat) ⟨1,0,0,0⟩).1),vX (pS s) A (eT (kT (bO s.toNat).1 ⟨1,0,0,0⟩).1 (bO s.toNat).2.1.toNat),vX (pS s) ⟨5,0,0,0⟩ (eT (kT (bO s.toNat).1 ⟨1,0,0,0⟩).1 (bO s.toNat).2.1.toNat))).1=Xy s A:=rfl
     simp only [hR]
     generalize Xy s A=R
     rcases (Bool.eq_false_or_eq_true (R.w0%2==1)).symm with h2|h2
     ·have e:Nb (pS s) R=R:=by unfold Nb;rw [h2];rfl
      rw [e]
      exact (OT.ay h2).trans ((al rfl).trans rfl)
     ·have e:Nb (pS s) R=EZ (pS s) R:=by unfold Nb;rw [h2];rfl
      rw [e]
      refine (OT.ap h2).trans ((al ?_).trans rfl)
      simp only [List.all_cons,List.all_nil,Bool.and_true,Bool.and_eq_true]
      exact ⟨rfl,hs,rfl,rfl,rfl,rfl⟩
 ·exact (OT.ap hz).trans (OT.ap (b:=cr A) hz).symm
def rL:cN:=(fv.aI wz Vb)
theorem Lg:ac Tryz.prog 94 rL:=acG
theorem Lf:aK rL:=aB
def vi:Env:=aA 94 rL sO
theorem sS:aW Tryz.prog vi:=ai Lg mc
theorem vh:aw vi:=ae Lf zk
theorem Og:bc Tryz.prog te vi:=aO follows au sS vh
def iJ:aq:=⟨[.val false .int,.val false .int],[],true,0,false⟩
abbrev FL:Type:=((Int)×(Int)×Unit)×(Unit)
def tT:ax:=⟨[.val true .elem],[],false⟩
def Lx:SV->Option ax:=λ_=>some tT
def PP (a0:Int) (a1:Int):OT iJ.Y:=
 let z0:UInt64:=i2u a1
 let z1:aa:= {w0:=z0,w1:=0,w2:=0,w3:=0}
 let z2:Nat:=pS a0
 let z3:aa:= {w0:=0-z0,w1:=0,w2:=0,w3:=0}
 (.br (decide ((0:Int)<=a1))
 (gd [iw ((a0,z1,()),())] (.ok ⟨tT,((ofP z2 z1,()),())⟩))
 (gd [nW ((a0,z3,()),())] (.ok ⟨tT,((EZ z2 z3,()),())⟩)))
theorem anu (x:FL) (Q:iJ.Y->Prop):wpf te vi az 1000 Tryz.f108 (iJ.inp.inj x).tm (iJ.inp.inj x).hp (fnK iJ Lx Q) (λ_ _=>False)=(PP (x.1.1) (x.1.2.1)).wpR Q:=by kernel_rfl
theorem XU (pre:FL->Bool) (F:FL->OT iJ.Y) (hF:∀ (x:FL) oy,pre x=true->(F x).run=some oy->(PP (x.1.1) (x.1.2.1)).run=some oy):ac Tryz.prog 108 (iJ.aI pre F):=
 aE au sS Og (f:=108) (fn:=Tryz.f108) (c:=ao Tryz.f108) (by kernel_rfl) (by kernel_rfl) (by kernel_rfl) (S:=iJ) (k:=0) (by kernel_rfl) (λR hR=>ag) (n:=1000) (sel:=Lx) (λv o h=>by cases h;rfl) (pre:=pre) (F:=F) (T:=λx=>PP (x.1.1) (x.1.2.1)) (λx Q=>anu x Q) hF
def ap9 (p:Nat) (n:Int):aa:=cond (decide (0<=n)) (ofP p ⟨i2u n,0,0,0⟩) (EZ p ⟨0-i2u n,0,0,0⟩)
def Bw (x:FL):Bool:=ak x.1.1
def ac1 (x:FL):OT iJ.Y:=.ok ⟨tT,((ap9 (pS x.1.1) x.1.2.1,()),())⟩
theorem aiU:ac Tryz.prog 108 (iJ.aI Bw ac1):=XU _ _ λx oy hp ho=>by
 rw [<-ho]
 clear ho
 obtain ⟨⟨s,n,⟨⟩⟩,⟨⟩⟩:=x
 have hs:ak s=true:=hp
 show _=some (⟨tT,((ap9 (pS s) n,()),())⟩:iJ.Y)
 unfold ap9
 rcases (Bool.eq_false_or_eq_true (decide ((0:Int)<=n))).symm with h|h
 ·rw [h]
  refine (OT.ay h).trans ((al ?_).trans rfl)
  simp only [List.all_cons,List.all_nil,Bool.and_true]
  exact hs
 ·rw [h]
  refine (OT.ap h).trans ((al ?_).trans rfl)
  simp only [List.all_cons,List.all_nil,Bool.and_true]
  exact hs
def wL:cN:=(iJ.aI Bw ac1)
theorem PO:ac Tryz.prog 108 wL:=aiU
theorem PN:aK wL:=aB
def yl:Env:=aA 108 wL vi
theorem qN:aW Tryz.prog yl:=ai PO sS
theorem zw:aw yl:=ae PN vh
theorem D2:bc Tryz.prog te yl:=aO follows au qN zw
def fV:aq:=⟨[.val false .int,.val false .int],[],true,0,false⟩
abbrev wm:Type:=((Int)×(Int)×Unit)×(Unit)
def nN:Shape:=⟨38,[(0,.val false .int),(1,.val false .int),(4,.ptr 0 0 0)],[(0,.cells [.val false .u64,.val false .u64,.val false .u64,.val false .u64,.val false .u64,.val false .u64,.val false .u64,.val false .u64,.val false .bool])],0,true⟩
abbrev bR:Type:=((Int)×(Int)×(Unit)×Unit)×(((UInt64)×(UInt64)×(UInt64)×(UInt64)×(UInt64)×(UInt64)×(UInt64)×(UInt64)×(Bool)×Unit)×Unit)
def gT:Shape:=⟨38,[(4,.ptr 0 0 0)],[(0,.cells [.val false .u64,.val false .u64,.val false .u64,.val false .u64,.val false .u64,.val false .u64,.val false .u64,.val false .u64,.val false .bool])],0,true⟩
abbrev iq:Type:=((Unit)×Unit)×(((UInt64)×(UInt64)×(UInt64)×(UInt64)×(UInt64)×(UInt64)×(UInt64)×(UInt64)×(Bool)×Unit)×Unit)
def KZ:SE->Option Shape:=kn [] (some gT)
def acr (a0:Int) (a1:Int) (c0_0:UInt64) (c0_1:UInt64) (c0_2:UInt64) (c0_3:UInt64) (c0_4:UInt64) (c0_5:UInt64) (c0_6:UInt64) (c0_7:UInt64) (c0_8:Bool):OT (Sum bR aQ):=
 let z0:Nat:=pS a0
 let z1:aa:=ap9 z0 a1
 let z2:aa:=Ad z0 z1 (bS a0)
 let z3:aa:=ofP z0 z2
 let z4:Bool:=inR (a1+(1:Int))
 let z5:aa:=Nb z0 (Xy a0 z3)
 let z6:=z5.w0
 let z7:=z5.w1
 let z8:=z5.w2
 let z9:=z5.w3
 let z10:=z1.w0
 let z11:=z1.w1
 let z12:=z1.w2
 let z13:=z1.w3
 (gd [Bw ((a0,a1,()),()),pK ((a0,z1,()),()),wz ((a0,z2,()),())] (.br (cr z3)
 (gd [z4] (.ok (.inl ((a0,(a1+(1:Int),((),()))),((c0_0,(c0_1,(c0_2,(c0_3,(c0_4,(c0_5,(c0_6,(c0_7,(c0_8,()))))))))),())))))
 (.br (eqE (vX z0 z3 (fk (kT (bO (Int.toNat a0)).fst sa).fst)) sa)
  (.br (!(z6==(0:UInt64)&&(z7==(0:UInt64)&&(z8==(0:UInt64)&&(z9==(0:UInt64)&&true)))))
   (.br (!(z10==(0:UInt64)&&(z11==(0:UInt64)&&(z12==(0:UInt64)&&(z13==(0:UInt64)&&true)))))
    (.ok (.inr ⟨(.ret,gT),(((),()),((z10,(z11,(z12,(z13,(z6,(z7,(z8,(z9,(false,()))))))))),()))⟩))
    (gd [z4] (.ok (.inl ((a0,(a1+(1:Int),((),()))),((c0_0,(c0_1,(c0_2,(c0_3,(c0_4,(c0_5,(c0_6,(c0_7,(c0_8,()))))))))),()))))))
   (gd [z4] (.ok (.inl ((a0,(a1+(1:Int),((),()))),((c0_0,(c0_1,(c0_2,(c0_3,(c0_4,(c0_5,(c0_6,(c0_7,(c0_8,()))))))))),()))))))
  (gd [z4] (.ok (.inl ((a0,(a1+(1:Int),((),()))),((c0_0,(c0_1,(c0_2,(c0_3,(c0_4,(c0_5,(c0_6,(c0_7,(c0_8,()))))))))),()))))))))
def lg (s:bR):OT (Sum bR aQ):=acr (s.1.1) (s.1.2.1) (s.2.1.1) (s.2.1.2.1) (s.2.1.2.2.1) (s.2.1.2.2.2.1) (s.2.1.2.2.2.2.1) (s.2.1.2.2.2.2.2.1) (s.2.1.2.2.2.2.2.2.1) (s.2.1.2.2.2.2.2.2.2.1) (s.2.1.2.2.2.2.2.2.2.2.1)
theorem aco (s:bR) (Q:Sum bR aQ->Prop):wps te yl az 1000 (bL (ao Tryz.f65) 0) (nN.inj s) (df nN KZ (Q:Sum nN.T aQ->Prop))=(lg s).wpR Q:=by kernel_rfl
def tF (g0_r:bR->iq) (s:bR):OT aQ:=(.ok ⟨(.ret,gT),g0_r s⟩)
def Be:ax:=⟨[.val true (.prod .elem (.prod .elem .bool))],[],false⟩
def Fu:SV->Option ax:=λ_=>some Be
def HV (ok0:bR->Bool) (g0_r:bR->iq) (a0:Int) (a1:Int):OT fV.Y:=
 let z0:(Int×Int×PUnit×PUnit)×(UInt64×UInt64×UInt64×UInt64×UInt64×UInt64×UInt64×UInt64×Bool×PUnit)×PUnit:=((a0,a1,(),()),((0:UInt64),(0:UInt64),(0:UInt64),(0:UInt64),(0:UInt64),(0:UInt64),(0:UInt64),(0:UInt64),false,()),())
 let z1:=(g0_r z0).snd.fst
 let z2:=z1.snd
 let z3:=z2.snd
 let z4:=z3.snd
 let z5:=z4.snd
 let z6:=z5.snd
 let z7:=z6.snd
 let z8:=z7.snd
 (gd [ok0 z0] (.ok ⟨Be,((({w0:=z1.fst,w1:=z2.fst,w2:=z3.fst,w3:=z4.fst},{w0:=z5.fst,w1:=z6.fst,w2:=z7.fst,w3:=z8.fst},z8.snd.fst),()),())⟩))
theorem aiy (ok0:bR->Bool) (g0_r:bR->iq) (x:wm) (Q:fV.Y->Prop):wpf te yl (bn 0 (dC nN 0 ok0 (tF g0_r)) az) 1000 Tryz.f65 (fV.inp.inj x).tm (fV.inp.inj x).hp (fnK fV Fu Q) (λ_ _=>False)=(HV ok0 g0_r (x.1.1) (x.1.2.1)).wpR Q:=by kernel_rfl
theorem Pa (ok0:bR->Bool) (g0_r:bR->iq) (h0:∀ s:bR,ok0 s=true->∃ m e,av (lg) m s=some e/\(tF g0_r s).run=some e) (pre:wm->Bool) (F:wm->OT fV.Y) (hF:∀ (x:wm) oy,pre x=true->(F x).run=some oy->(HV ok0 g0_r (x.1.1) (x.1.2.1)).run=some oy):ac Tryz.prog 65 (fV.aI pre F):=
 aE au qN D2 (f:=65) (fn:=Tryz.f65) (c:=ao Tryz.f65) (by kernel_rfl) (by kernel_rfl) (by kernel_rfl) (S:=fV) (k:=0) (by kernel_rfl) (λR hR=>(aH (c:=(ao Tryz.f65)) (by kernel_rfl) (id:=0) (by kernel_rfl) (bz au qN D2 (sh:=nN) hR (xs:=KZ) (aJ (by kernel_rfl) (by kernel_rfl) hR) aY ag (n:=1000) (T:=lg) (λs Q=>aco s Q) (ok:=ok0) (f:=tF g0_r) h0) ag)) (n:=1000) (sel:=Fu) (λv o h=>by cases h;rfl) (pre:=pre) (F:=F) (T:=λx=>HV ok0 g0_r (x.1.1) (x.1.2.1)) (λx Q=>aiy ok0 g0_r x Q) hF
def Xu (s n:Int):aa:=ap9 (pS s) n
def OZ (s n:Int):aa:=ofP (pS s) (Ad (pS s) (Xu s n) (bS s))
def ab8 (s n:Int):aa:=Nb (pS s) (Xy s (OZ s n))
def HM (s n:Int):Option Pt:=cond (cr (OZ s n)) none (cond (eqE (vX (pS s) (OZ s n) (fk (kT (bO s.toNat).1 sa).1)) sa)
 (cond (cr (ab8 s n)) none (cond (cr (Xu s n)) none (some (Xu s n,ab8 s n,false)))) none)
def mv (s:Int):Nat->Int->Option Pt
 |0,_=>none
 |k+1,n=>match HM s n with
  |some P=>some P
  |none=>mv s k (n+1)
def OY (s n:Int) (c:C9):bR:=((s,n,(),()),(c,()))
theorem ab7 {s n:Int} (hs:ak s=true) (h0:0<=n) (h1:n<=1000000) (c:C9):
 (lg (OY s n c)).run=match HM s n with
  |some P=>some (.inr ⟨(.ret,gT),(((),()),(bm P,()))⟩)
  |none=>some (.inl (OY s (n+1) c)):=by
 have hi:inR (n+1)=true:=bF (by omega)
 have hgd:∀ z:OT (Sum bR aQ),(gd [inR (n+1)] z).run=z.run:=λz=>al (by simp only [hi,List.all_cons,List.all_nil,Bool.and_true])
 refine (al (by simp only [List.all_cons,List.all_nil,Bool.and_true,Bool.and_eq_true];exact ⟨hs,hs,hs⟩)).trans ?_
 unfold HM
 rcases (Bool.eq_false_or_eq_true (cr (OZ s n))).symm with h1|h1
 ·refine (OT.ay (b:=cr (OZ s n)) h1).trans ?_
  rcases (Bool.eq_false_or_eq_true (eqE (vX (pS s) (OZ s n) (fk (kT (bO s.toNat).1 sa).1)) sa)).symm with h2|h2
  ·rw [h1,h2]
   exact (OT.ay h2).trans (hgd _)
  ·refine (OT.ap h2).trans ?_
   rcases (Bool.eq_false_or_eq_true (cr (ab8 s n))).symm with h3|h3
   ·refine (OT.ap (b:= !cr (ab8 s n)) (by rw [h3];rfl)).trans ?_
    rcases (Bool.eq_false_or_eq_true (cr (Xu s n))).symm with h4|h4
    ·rw [h1,h2,h3,h4]
     exact OT.ap (b:= !cr (Xu s n)) (by rw [h4];rfl)
    ·rw [h1,h2,h3,h4]
     exact (OT.ay (b:= !cr (Xu s n)) (by rw [h4];rfl)).trans (hgd _)
   ·rw [h1,h2,h3]
    exact (OT.ay (b:= !cr (ab8 s n)) (by rw [h3];rfl)).trans (hgd _)
 ·rw [h1]
  exact (OT.ap (b:=cr (OZ s n)) h1).trans (hgd _)
theorem KI {s:Int} (hs:ak s=true) (c:C9) {P:Pt}:∀ (k:Nat) (n:Int),0<=n->n+k<=1000000->mv s k n=some P->
 ∃ m,av lg m (OY s n c)=some ⟨(.ret,gT),(((),()),(bm P,()))⟩
 |0,_,_,_,h=>by cases h
 |k+1,n,h0,h1,h=>by
  have hst:=ab7 hs h0 (by omega) c
  unfold mv at h
  cases ho:HM s n with
  |some Q=>
   rw [ho] at h hst
   obtain rfl:=Option.some.inj h
   exact ⟨1,aR hst⟩
  |none=>
   rw [ho] at h hst
   obtain ⟨m,hm⟩:=KI hs c k (n+1) (by omega) (by omega) h
   exact ⟨m+1,aM hst hm⟩
def tu:Nat:=2000
def wl (s:bR):Bool:=ak s.1.1&&decide (0<=s.1.2.1/\s.1.2.1<=2000)&&(mv s.1.1 tu s.1.2.1).isSome
def akO (s n:Int):Pt:=(mv s tu n).getD aC
def K2 (s:bR):iq:=(((),()),(bm (akO s.1.1 s.1.2.1),()))
theorem acq:∀ s:bR,wl s=true->∃ m e,av lg m s=some e/\(tF K2 s).run=some e:=by
 rintro ⟨⟨s,n,⟨⟩,⟨⟩⟩,⟨c,⟨⟩⟩⟩ h
 simp only [wl,Bool.and_eq_true,decide_eq_true_eq] at h
 obtain ⟨⟨hs,h0,h1⟩,h2⟩:=h
 obtain ⟨P,hP⟩:=Option.isSome_iff_exists.1 h2
 obtain ⟨m,hm⟩:=KI hs c tu n h0 (by show n+((2000:Nat):Int)<=_;omega) hP
 refine ⟨m,_,hm,?_⟩
 show some (⟨(.ret,gT),(((),()),(bm ((mv s tu n).getD aC),()))⟩:aQ)=_
 rw [hP]
 rfl
def Fv (x:wm):Bool:=ak x.1.1&&decide (0<=x.1.2.1/\x.1.2.1<=2000)&&(mv x.1.1 tu x.1.2.1).isSome
def U3 (x:wm):OT fV.Y:=.ok ⟨Be,((akO x.1.1 x.1.2.1,()),())⟩
theorem acp:ac Tryz.prog 65 (fV.aI Fv U3):=Pa wl K2 acq _ _ λx oy hp ho=>by
 rw [<-ho]
 clear ho
 obtain ⟨⟨s,n,⟨⟩⟩,⟨⟩⟩:=x
 refine (al ?_).trans rfl
 simp only [List.all_cons,List.all_nil,Bool.and_true]
 exact hp
def rJ:cN:=(fV.aI Fv U3)
theorem K1:ac Tryz.prog 65 rJ:=acp
theorem K0:aK rJ:=aB
def ve:Env:=aA 65 rJ yl
theorem sM:aW Tryz.prog ve:=ai K1 qN
theorem vd:aw ve:=ae K0 zw
theorem Od:bc Tryz.prog te ve:=aO follows au sM vd
end Go.Proofs.YtohjofabochgfaaGreat

namespace Go.Proofs.YtohjofabochgfaaGreat
theorem BO {α:Type} [BEq α] [LawfulBEq α]:∀ {l1 l2:List α},l1.Nodup->(∀ x ∈ l1,x ∈ l2)->l2.length<=l1.length->l1.Perm l2
 | [],l2,_,_,h=>by
  have:l2= []:=List.length_eq_zero_iff.1 (Nat.le_zero.1 h)
  rw [this]
 |a::t,l2,hn,hs,hl=>by
  have ha:a ∈ l2:=hs a (List.mem_cons_self ..)
  have hp:l2.Perm (a::l2.erase a):=List.perm_cons_erase ha
  rw [List.nodup_cons] at hn
  have hl2:=List.length_erase_of_mem ha
  have hpos:0<l2.length:=List.length_pos_of_mem ha
  have ih:t.Perm (l2.erase a):=BO hn.2 (λx hx=>by
   have hne:x≠a:=λe=>hn.1 (e▸hx)
   exact (List.mem_erase_of_ne hne).2 (hs x (List.mem_cons_of_mem _ hx))) (by rw [List.length_cons] at hl;omega)
  exact (ih.cons a).trans hp.symm
theorem uD {α:Type} [BEq α] [LawfulBEq α]:∀ {l1 l2:List α},l1.Nodup->(∀ x ∈ l1,x ∈ l2)->l1.length<=l2.length
 | [],l2,_,_=>Nat.zero_le _
 |a::t,l2,hn,hs=>by
  have ha:a ∈ l2:=hs a (List.mem_cons_self ..)
  rw [List.nodup_cons] at hn
  have hl2:=List.length_erase_of_mem ha
  have hpos:0<l2.length:=List.length_pos_of_mem ha
  have ih:=uD (l2:=l2.erase a) hn.2 (λx hx=>by
   have hne:x≠a:=λe=>hn.1 (e▸hx)
   exact (List.mem_erase_of_ne hne).2 (hs x (List.mem_cons_of_mem _ hx)))
  rw [List.length_cons]
  omega
def Pr (p:Nat):Prop:=2<=p/\∀ d,d∣p->d=1\/d=p
theorem Pr.pos {p:Nat} (h:Pr p):0<p:=by have:=h.1;omega
theorem Pr.cop {p a:Nat} (h:Pr p) (ha:¬p∣a):Nat.Coprime p a:=by
 rcases h.2 (Nat.gcd p a) (Nat.gcd_dvd_left ..) with e|e
 ·exact e
 ·exact absurd (e▸Nat.gcd_dvd_right p a) ha
theorem Pr.WG {p a b:Nat} (h:Pr p) (hd:p∣a*b):p∣a\/p∣b:=by
 by_cases ha:p∣a
 ·exact .inl ha
 ·exact .inr ((h.cop ha).dvd_of_dvd_mul_left hd)
def qX:List Nat->Nat
 | []=>1
 |a::l=>a*qX l
theorem Ya {l1 l2:List Nat} (h:l1.Perm l2):qX l1=qX l2:=by
 induction h with
 |nil=>rfl
 |cons x _ ih=>simp only [qX,ih]
 |swap x y l=>simp only [qX];rw [<-Nat.mul_assoc,<-Nat.mul_assoc,Nat.mul_comm x y]
 |trans _ _ a b=>exact a.trans b
theorem LX (p a:Nat):∀ l:List Nat,qX (l.map λx=>a*x%p)%p=a^l.length*qX l%p
 | []=>by simp [qX]
 |x::l=>by
  have ih:=LX p a l
  simp only [List.map_cons,qX,List.length_cons]
  rw [Nat.mul_mod,Nat.mod_mod,ih,<-Nat.mul_mod,Nat.pow_succ]
  congr 1
  rw [Nat.mul_assoc,Nat.mul_assoc,Nat.mul_left_comm x]
  rw [Nat.mul_left_comm a]
theorem LW {p:Nat} (h:Pr p):∀ l:List Nat,(∀ x ∈ l,¬p∣x)->¬p∣qX l
 | [],_,hd=>by
  have:=Nat.le_of_dvd (by decide) hd
  have:=h.1
  simp only [qX] at*
  omega
 |x::l,hx,hd=>by
  rcases h.WG hd with h1|h1
  ·exact hx x (List.mem_cons_self ..) h1
  ·exact LW h l (λy hy=>hx y (List.mem_cons_of_mem _ hy)) h1
theorem YB {p a b:Nat} (hab:a<=b) (h:a%p=b%p):p∣b-a:=by
 have h1:=Nat.div_add_mod a p
 have h2:=Nat.div_add_mod b p
 refine ⟨b/p-a/p,?_⟩
 rw [Nat.mul_sub]
 omega
theorem mJ {p x:Nat} (h0:0<x) (h1:x<p):¬p∣x:=λh=>by
 have:=Nat.le_of_dvd h0 h
 omega
theorem aej {p a:Nat} (h:Pr p) (ha:¬p∣a) {x y:Nat} (hx:x<p) (hy:y<p) (e:a*x%p=a*y%p):x=y:=by
 have aux:∀ {x y:Nat},x<p->y<p->x<=y->a*x%p=a*y%p->x=y:=λ{x y} hx hy hxy e=>by
  have hd:=YB (Nat.mul_le_mul_left a hxy) e
  rw [<-Nat.mul_sub] at hd
  rcases h.WG hd with h1|h1
  ·exact absurd h1 ha
  ·by_cases h0:y-x=0
   ·omega
   ·exact absurd h1 (mJ (by omega) (by omega))
 rcases Nat.le_total x y with hxy|hxy
 ·exact aux hx hy hxy e
 ·exact (aux hy hx hxy e.symm).symm
theorem oo {α β:Type} {f:α->β}:∀ {l:List α},l.Nodup->(∀ x ∈ l,∀ y ∈ l,f x=f y->x=y)->(l.map f).Nodup
 | [],_,_=>List.nodup_nil
 |a::l,hn,hi=>by
  rw [List.nodup_cons] at hn
  rw [List.map_cons,List.nodup_cons]
  refine ⟨λhm=> ?_,oo hn.2 λx hx y hy=>hi x (List.mem_cons_of_mem _ hx) y (List.mem_cons_of_mem _ hy)⟩
  obtain ⟨b,hb,e⟩:=List.mem_map.1 hm
  have:=hi a (List.mem_cons_self ..) b (List.mem_cons_of_mem _ hb) e.symm
  exact hn.1 (this▸hb)
theorem Wx {p a:Nat} (h:Pr p) (ha:¬p∣a):a^(p-1)%p=1:=by
 have hp:=h.1
 have hn:(List.range' 1 (p-1)).Nodup:=List.nodup_range' ..
 have hm:((List.range' 1 (p-1)).map λx=>a*x%p).Nodup:=oo hn λx hx y hy e=>by
  rw [List.mem_range'_1] at hx hy
  exact aej h ha (by omega) (by omega) e
 have hperm:=BO (l2:=List.range' 1 (p-1)) hm (λy hy=>by
  obtain ⟨x,hx,rfl⟩:=List.mem_map.1 hy
  rw [List.mem_range'_1] at hx⊢
  have hlt:=Nat.mod_lt (a*x) h.pos
  have hne:a*x%p≠0:=λe=>by
   rcases h.WG (Nat.dvd_of_mod_eq_zero e) with h1|h1
   ·exact ha h1
   ·exact mJ (by omega) (by omega) h1
  omega) (by rw [List.length_map];exact Nat.le_refl _)
 have e:=LX p a (List.range' 1 (p-1))
 rw [Ya hperm,List.length_range'] at e
 have hnot:¬p∣qX (List.range' 1 (p-1)):=LW h _ λx hx=>by
  rw [List.mem_range'_1] at hx
  exact mJ (by omega) (by omega)
 have hmul:∀ z,z*qX (List.range' 1 (p-1))%p=qX (List.range' 1 (p-1))*(z%p)%p:=λz=>by
  rw [Nat.mul_comm,Nat.mul_mod_mod]
 rw [hmul] at e
 have e1:qX (List.range' 1 (p-1))%p=qX (List.range' 1 (p-1))*1%p:=by rw [Nat.mul_one]
 rw [e1] at e
 exact (aej h hnot (by omega) (Nat.mod_lt _ h.pos) e).symm
theorem Cy:∀ (k n:Nat),2<=n->n<=k->∃ r,Pr r/\r∣n
 |0,n,h2,hk=>by omega
 |k+1,n,h2,hk=>by
  by_cases hp:Pr n
  ·exact ⟨n,hp,Nat.dvd_refl _⟩
  ·have:∃ d,d∣n/\d≠1/\d≠n:=by
    apply Classical.byContradiction
    intro hc
    refine hp ⟨h2,λd hd=> ?_⟩
    apply Classical.byContradiction
    intro hd2
    exact hc ⟨d,hd,λe=>hd2 (.inl e),λe=>hd2 (.inr e)⟩
   obtain ⟨d,hd,h1,h3⟩:=this
   have hle:=Nat.le_of_dvd (by omega) hd
   have h0:d≠0:=λe=>by subst e;have:=Nat.eq_zero_of_zero_dvd hd;omega
   obtain ⟨r,hr,hrd⟩:=Cy k d (by omega) (by omega)
   exact ⟨r,hr,Nat.dvd_trans hrd hd⟩
theorem KJ {n:Nat} (h2:2<=n) (hp:¬Pr n):∃ r,Pr r/\r∣n/\r*r<=n:=by
 have:∃ d,d∣n/\d≠1/\d≠n:=by
  apply Classical.byContradiction
  intro hc
  refine hp ⟨h2,λd hd=> ?_⟩
  apply Classical.byContradiction
  intro hd2
  exact hc ⟨d,hd,λe=>hd2 (.inl e),λe=>hd2 (.inr e)⟩
 obtain ⟨d,⟨e,rfl⟩,h1,h3⟩:=this
 have hd0:d≠0:=λe'=>by subst e';omega
 have he0:e≠0:=λe'=>by subst e';omega
 have he1:e≠1:=λe'=>by subst e';omega
 rcases Nat.le_total d e with hde|hde
 ·obtain ⟨r,hr,hrd⟩:=Cy d d (by omega) (Nat.le_refl _)
  have hle:=Nat.le_of_dvd (by omega) hrd
  exact ⟨r,hr,Nat.dvd_trans hrd (Nat.dvd_mul_right ..),Nat.le_trans (Nat.mul_le_mul hle hle) (Nat.mul_le_mul_left d hde)⟩
 ·obtain ⟨r,hr,hrd⟩:=Cy e e (by omega) (Nat.le_refl _)
  have hle:=Nat.le_of_dvd (by omega) hrd
  exact ⟨r,hr,Nat.dvd_trans hrd (Nat.dvd_mul_left ..),Nat.le_trans (Nat.mul_le_mul hle hle) (Nat.mul_le_mul_right e hde)⟩
theorem anD {r a:Nat} (hr:2<=r) (m k:Nat):a^m%r=1->a^k%r=1->a^Nat.gcd m k%r=1:=by
 induction m,k using Nat.gcd.induction with
 |H0 n=>intro _ h;rw [Nat.gcd_zero_left];exact h
 |H1 m n hm ih=>
  intro h1 h2
  rw [Nat.gcd_rec]
  refine ih ?_ h1
  have e:a^n%r=a^(n%m)%r:=by
   conv=>lhs;rw [<-Nat.div_add_mod n m,Nat.pow_add,Nat.pow_mul,Nat.mul_mod,Nat.pow_mod,h1,Nat.one_pow,Nat.mod_eq_of_lt (show 1<r by omega),Nat.one_mul,Nat.mod_mod]
  rw [<-e]
  exact h2
theorem ajd {n q e a m:Nat} (hn2:2<=n) (hq:Pr q) (he:n-1=q^(e+1)*m) (h1:a^(n-1)%n=1) (h2:Nat.gcd (a^(q^e*m)%n+n-1) n=1)
 {r:Nat} (hr:Pr r) (hd:r∣n):q^(e+1)∣r-1:=by
 have hr2:=hr.1
 have ha1:a^(n-1)%r=1:=by
  have:=congrArg (· %r) h1
  simp only [Nat.mod_mod_of_dvd _ hd] at this
  rw [this,Nat.mod_eq_of_lt (by omega)]
 have hna:¬r∣a:=λh=>by
  have:r∣a^(n-1):=Nat.dvd_trans h (by
   have:=Nat.pow_dvd_pow a (show 1<=n-1 by omega)
   rwa [Nat.pow_one] at this)
  rw [Nat.mod_eq_zero_of_dvd this] at ha1
  omega
 have hg:=anD hr2 _ _ ha1 (Wx hr hna)
 obtain ⟨h,hh⟩:=Nat.gcd_dvd_left (n-1) (r-1)
 by_cases hqh:q∣h
 ·obtain ⟨k,rfl⟩:=hqh
  have hk:q^e*m=Nat.gcd (n-1) (r-1)*k:=by
   have:q*(q^e*m)=q*(Nat.gcd (n-1) (r-1)*k):=by
    rw [<-Nat.mul_assoc,<-Nat.pow_succ',<-he,Nat.mul_left_comm q,<-hh]
   exact Nat.eq_of_mul_eq_mul_left hq.pos this
  have hone:a^(q^e*m)%r=1:=by
   rw [hk,Nat.pow_mul,Nat.pow_mod,hg,Nat.one_pow,Nat.mod_eq_of_lt (by omega)]
  have hmn:a^(q^e*m)%n%r=1:=by rw [Nat.mod_mod_of_dvd _ hd,hone]
  have hdv:r∣a^(q^e*m)%n+n-1:=by
   obtain ⟨c,rfl⟩:=hd
   have:=Nat.div_add_mod (a^(q^e*m)%(r*c)) r
   refine ⟨a^(q^e*m)%(r*c)/r+c,?_⟩
   rw [Nat.mul_add]
   omega
  have:=Nat.dvd_gcd hdv hd
  rw [h2] at this
  have:=Nat.le_of_dvd (by decide) this
  omega
 ·have hc:Nat.Coprime (q^(e+1)) h:=Nat.Coprime.pow_left _ (hq.cop hqh)
  have hdg:q^(e+1)∣Nat.gcd (n-1) (r-1)*h:=by rw [<-hh,he];exact Nat.dvd_mul_right ..
  exact Nat.dvd_trans (hc.dvd_of_dvd_mul_right hdg) (Nat.gcd_dvd_right ..)
theorem aje {n F:Nat} (h2:2<=n) (hF:n<F*F) (h:∀ r,Pr r->r∣n->F∣r-1):Pr n:=by
 apply Classical.byContradiction
 intro hp
 obtain ⟨r,hr,hd,hle⟩:=KJ h2 hp
 have h1:=hr.1
 have:=Nat.le_of_dvd (by omega) (h r hr hd)
 have:F*F<=r*r:=Nat.mul_le_mul (by omega) (by omega)
 omega
def MU {α:Type} (n:Nat) (f:Nat->α):α:=match n with
 |0=>f 0
 |k+1=>f (k+1)
theorem MT {α:Type} (n:Nat) (f:Nat->α):MU n f=f n:=by cases n<;>rfl
def pw (n:Nat):Nat->Nat->Nat->Nat->Nat
 |0,o,_,_=>o
 |f+1,o,x,k=>MU k λk=>cond (Nat.beq k 0) o (MU (x*x%n) λy=>MU (cond (Nat.beq (k%2) 1) (o*x%n) o) λo=>pw n f o y (k/2))
theorem anA {p:Nat}:∀ (n o x k:Nat),k<2^n->o<p->pw p n o x k=o*x^k%p
 |0,o,x,k,hk,ho=>by
  have:k=0:=by omega
  subst this
  show o=_
  rw [Nat.pow_zero,Nat.mul_one,Nat.mod_eq_of_lt ho]
 |n+1,o,x,k,hk,ho=>by
  unfold pw
  simp only [MT]
  rw [Nat.pow_succ] at hk
  cases h0:Nat.beq k 0
  ·simp only [cond_false]
   have hsq:(x*x%p)^(k/2)%p=x^(2*(k/2))%p:=by
    rw [<-Nat.pow_mod,Nat.pow_mul,Nat.pow_two]
   cases h1:Nat.beq (k%2) 1
   ·have h1':¬k%2=1:=λe=>by rw [e] at h1;cases h1
    simp only [cond_false]
    rw [anA n _ _ _ (by omega) ho,Nat.mul_mod,hsq,<-Nat.mul_mod,show 2*(k/2)=k by omega]
   ·have h1:=Nat.eq_of_beq_eq_true h1
    simp only [cond_true]
    rw [anA n _ _ _ (by omega) (Nat.mod_lt _ (by omega)),Nat.mul_mod,hsq,Nat.mod_mod,<-Nat.mul_mod,Nat.mul_assoc,<-Nat.pow_succ',show (2*(k/2)).succ=k by omega]
  ·have h0:=Nat.eq_of_beq_eq_true h0
   subst h0
   simp only [cond_true]
   rw [Nat.pow_zero,Nat.mul_one,Nat.mod_eq_of_lt ho]
def pwm (n a k:Nat):Nat:=pw n 256 1 (a%n) k
theorem adg {n:Nat} (hn:2<=n) {a k:Nat} (hk:Nat.blt k (2^256)=true):pwm n a k=a^k%n:=by
 have hk':k<2^256:=Nat.le_of_ble_eq_true hk
 unfold pwm
 rw [anA 256 1 _ _ hk' (by omega),Nat.one_mul,<-Nat.pow_mod]
def apQ (n q e a m:Nat):Bool:=Nat.beq (n-1) (q^(e+1)*m)&&(Nat.blt n (2^256)&&(Nat.beq (pwm n a (n-1)) 1&&Nat.beq (Nat.gcd (pwm n a (q^e*m)+n-1) n) 1))
theorem eF {n q e a m:Nat} (h2:2<=n) (hq:Pr q) (h:apQ n q e a m=true) {r:Nat} (hr:Pr r) (hd:r∣n):q^(e+1)∣r-1:=by
 simp only [apQ,Bool.and_eq_true] at h
 obtain ⟨h1,h3,h4,h5⟩:=h
 have h1:=Nat.eq_of_beq_eq_true h1
 have h3:n<2^256:=Nat.le_of_ble_eq_true h3
 have hm:q^e*m<=n-1:=by
  rw [h1,Nat.pow_succ,Nat.mul_right_comm]
  exact Nat.le_mul_of_pos_right _ hq.pos
 rw [adg h2 (Nat.ble_eq_true_of_le (show n-1+1<=2^256 by omega))] at h4
 rw [adg h2 (Nat.ble_eq_true_of_le (show q^e*m+1<=2^256 by omega))] at h5
 exact ajd h2 hq h1 (Nat.eq_of_beq_eq_true h4) (Nat.eq_of_beq_eq_true h5) hr hd
def aqW (n:Nat):Nat->Nat->Bool
 |0,_=>false
 |f+1,d=>MU d λd=>cond (Nat.blt n (d*d)) true (cond (Nat.beq (n%d) 0) false (aqW n f (d+1)))
theorem aaM {n:Nat}:∀ (f d:Nat),aqW n f d=true->0<d->(∀ x,1<x->x<d->¬x∣n)->∀ x,1<x->x*x<=n->¬x∣n
 |0,d,h,_,_=>by cases h
 |f+1,d,h,hd0,hb=>by
  unfold aqW at h
  rw [MT] at h
  cases h1:Nat.blt n (d*d)
  ·rw [h1] at h
   cases h2:Nat.beq (n%d) 0
   ·rw [h2] at h
    refine aaM f (d+1) h (by omega) λx hx hxd hdv=> ?_
    by_cases hxd2:x=d
    ·subst hxd2
     rw [Nat.mod_eq_zero_of_dvd hdv] at h2
     cases h2
    ·exact hb x hx (by omega) hdv
   ·rw [h2] at h;cases h
  ·have h1:n<d*d:=Nat.le_of_ble_eq_true h1
   intro x hx hxx
   refine hb x hx ?_
   apply Classical.byContradiction
   intro hc
   have:=Nat.mul_le_mul (show d<=x by omega) (show d<=x by omega)
   omega
theorem tp {n:Nat} (f:Nat) (h2:2<=n) (h:aqW n f 2=true):Pr n:=by
 apply Classical.byContradiction
 intro hp
 obtain ⟨r,hr,hd,hle⟩:=KJ h2 hp
 have:=hr.1
 exact aaM f 2 h (by decide) (λx a b=>by omega) r (by omega) hle hd
end Go.Proofs.YtohjofabochgfaaGreat

set_option maxRecDepth 100000
namespace Go.Proofs.YtohjofabochgfaaGreat
theorem rV:Pr 16513537:=tp 4065 (by decide) (by decide+kernel)
theorem rU:Pr 16521217:=tp 4066 (by decide) (by decide+kernel)
theorem adl:Pr 772231:=tp 880 (by decide) (by decide+kernel)
theorem adm:Pr 413527:=tp 645 (by decide) (by decide+kernel)
theorem ub:Pr 325086459374267:=aje (F:=319338368737) (by decide) (by decide+kernel) λr hr hd=>by
 have h0:772231∣r-1:=eF (n:=325086459374267) (q:=772231) (e:=0) (a:=2) (m:=420970486) (by decide) adl (by decide+kernel) hr hd
 have h1:413527∣r-1:=eF (n:=325086459374267) (q:=413527) (e:=0) (a:=2) (m:=786131158) (by decide) adm (by decide+kernel) hr hd
 have k1:319338368737∣r-1:=Nat.Coprime.mul_dvd_of_dvd_of_dvd (m:=772231) (n:=413527) (show Nat.gcd 772231 413527=1 by decide+kernel) h0 h1
 exact k1
theorem Yb:Pr 6942563:=tp 2636 (by decide) (by decide+kernel)
theorem Qf:Pr 41655379:=aje (F:=6942563) (by decide) (by decide+kernel) λr hr hd=>by
 have h0:6942563∣r-1:=eF (n:=41655379) (q:=6942563) (e:=0) (a:=2) (m:=6) (by decide) Yb (by decide+kernel) hr hd
 exact h0
theorem EX:Pr 22160661629:=aje (F:=41655379) (by decide) (by decide+kernel) λr hr hd=>by
 have h0:41655379∣r-1:=eF (n:=22160661629) (q:=41655379) (e:=0) (a:=2) (m:=532) (by decide) Qf (by decide+kernel) hr hd
 exact h0
theorem dB:Pr 8999194758858563409123804352480028797519453:=aje (F:=7204131026362786056900943) (by decide) (by decide+kernel) λr hr hd=>by
 have h0:325086459374267∣r-1:=eF (n:=8999194758858563409123804352480028797519453) (q:=325086459374267) (e:=0) (a:=2) (m:=27682465692912573825889481556) (by decide) ub (by decide+kernel) hr hd
 have h1:22160661629∣r-1:=eF (n:=8999194758858563409123804352480028797519453) (q:=22160661629) (e:=0) (a:=2) (m:=406088721966766121824069856270988) (by decide) EX (by decide+kernel) hr hd
 have k1:7204131026362786056900943∣r-1:=Nat.Coprime.mul_dvd_of_dvd_of_dvd (m:=325086459374267) (n:=22160661629) (show Nat.gcd 325086459374267 22160661629=1 by decide+kernel) h0 h1
 exact k1
theorem aG:Pr 28948022309329048855892746252171976963363056481941560715954676764349967630337:=aje (F:=8999194758858563409123804352480028797519453) (by decide) (by decide+kernel) λr hr hd=>by
 have h0:8999194758858563409123804352480028797519453∣r-1:=eF (n:=28948022309329048855892746252171976963363056481941560715954676764349967630337) (q:=8999194758858563409123804352480028797519453) (e:=0) (a:=2) (m:=3216734728497058061019394250637312) (by decide) dB (by decide+kernel) hr hd
 exact h0
theorem aja:Pr 31649:=tp 179 (by decide) (by decide+kernel)
theorem ajb:Pr 12149:=tp 112 (by decide) (by decide+kernel)
theorem Ab:Pr 5239247429827:=aje (F:=384503701) (by decide) (by decide+kernel) λr hr hd=>by
 have h0:31649∣r-1:=eF (n:=5239247429827) (q:=31649) (e:=0) (a:=2) (m:=165542274) (by decide) aja (by decide+kernel) hr hd
 have h1:12149∣r-1:=eF (n:=5239247429827) (q:=12149) (e:=0) (a:=2) (m:=431249274) (by decide) ajb (by decide+kernel) hr hd
 have k1:384503701∣r-1:=Nat.Coprime.mul_dvd_of_dvd_of_dvd (m:=31649) (n:=12149) (show Nat.gcd 31649 12149=1 by decide+kernel) h0 h1
 exact k1
theorem Yc:Pr 5701177:=tp 2389 (by decide) (by decide+kernel)
theorem LZ:Pr 399082391:=aje (F:=5701177) (by decide) (by decide+kernel) λr hr hd=>by
 have h0:5701177∣r-1:=eF (n:=399082391) (q:=5701177) (e:=0) (a:=2) (m:=70) (by decide) Yc (by decide+kernel) hr hd
 exact h0
theorem fc:Pr 10427374428728808478656897599072717:=aje (F:=2090891391335963876357) (by decide) (by decide+kernel) λr hr hd=>by
 have h0:5239247429827∣r-1:=eF (n:=10427374428728808478656897599072717) (q:=5239247429827) (e:=0) (a:=2) (m:=1990242791238649418308) (by decide) Ab (by decide+kernel) hr hd
 have h1:399082391∣r-1:=eF (n:=10427374428728808478656897599072717) (q:=399082391) (e:=0) (a:=2) (m:=26128375152309860944621076) (by decide) LZ (by decide+kernel) hr hd
 have k1:2090891391335963876357∣r-1:=Nat.Coprime.mul_dvd_of_dvd_of_dvd (m:=5239247429827) (n:=399082391) (show Nat.gcd 5239247429827 399082391=1 by decide+kernel) h0 h1
 exact k1
theorem ar2:Pr 2:=tp 3 (by decide) (by decide+kernel)
theorem aF:Pr 28948022309329048855892746252171976963363056481941647379679742748393362948097:=aje (F:=44785232154536915268878889192838239440863232) (by decide) (by decide+kernel) λr hr hd=>by
 have h0:10427374428728808478656897599072717∣r-1:=eF (n:=28948022309329048855892746252171976963363056481941647379679742748393362948097) (q:=10427374428728808478656897599072717) (e:=0) (a:=2) (m:=2776156405161148062854777934377771323097088) (by decide) fc (by decide+kernel) hr hd
 have h1:4294967296∣r-1:=eF (n:=28948022309329048855892746252171976963363056481941647379679742748393362948097) (q:=2) (e:=31) (a:=5) (m:=6739986666787659948666753771754907668419893943225417141728043264801) (by decide) ar2 (by decide+kernel) hr hd
 have k1:44785232154536915268878889192838239440863232∣r-1:=Nat.Coprime.mul_dvd_of_dvd_of_dvd (m:=10427374428728808478656897599072717) (n:=4294967296) (show Nat.gcd 10427374428728808478656897599072717 4294967296=1 by decide+kernel) h0 h1
 exact k1
end Go.Proofs.YtohjofabochgfaaGreat

namespace Go.Proofs.YtohjofabochgfaaGreat
set_option maxRecDepth 100000
theorem dz (p:Int):p∣0:=Int.dvd_zero p
theorem dc {p a b:Int} (c:Int) (h:p∣a) (k:p∣b):p∣c*a+b:=Int.dvd_add (Int.dvd_trans h (Int.dvd_mul_left ..)) k
theorem dk {p a K:Int} (h:p∣a) (e:K=a):p∣K:=e▸h
theorem apw {p y3 x3 b y1 y2 x1 x2 l:Int} (h0:p∣y3-(l*(x1-x3)-y1)) (h1:p∣x3-(l*l-x1-x2)) (h2:p∣l*(x1-x2)-(y1-y2)) (h3:p∣l*(y1+y2)-(x1*x1+x1*x2+x2*x2)) (h4:p∣y1*y1-x1*x1*x1-b):p∣(y3*y3-x3*x3*x3-b):=
 dk (dc (y3-x3*l+x1*l-y1) h0 (dc (-x3*x3+x3*x1+x3*x2-x1*l*l+x2*l*l-x1*x1-2*x1*x2-x2*x2+2*y1*l) h1 (dc (-l*l*l+2*x1*l+x2*l) h2 (dc (l*l-2*x1-x2) h3 (dc (1) h4 (dz p)))))) (by clear h0 h1 h2 h3 h4;grind)
theorem alL {p y3 x3 y1 y2 x1 x2 l:Int} (h0:p∣y3-(l*(x1-x3)-y1)) (h1:p∣l*(x1-x2)-(y1-y2)):p∣(y3-(l*(x2-x3)-y2)):=
 dk (dc (1) h0 (dc (1) h1 (dz p))) (by clear h0 h1;grind)
theorem aqL {p y3 x3 y1 y2 x1 x2 l:Int} (h0:p∣y3-(l*(x1-x3)-y1)) (h1:p∣x3-(l*l-x1-x2)) (h2:p∣l*(x1-x2)-(y1-y2)) (h3:p∣l*(y1+y2)-(x1*x1+x1*x2+x2*x2)):p∣((-l)*((-y1)+y3)-(x1*x1+x1*x3+x3*x3)):=
 dk (dc (-l) h0 (dc (-x3+x2) h1 (dc (-l) h2 (dc (1) h3 (dz p))))) (by clear h0 h1 h2 h3;grind)
theorem afA {p b y1 y2 x1 x2 l:Int} (h0:p∣y1*y1-x1*x1*x1-b) (h1:p∣y2*y2-x2*x2*x2-b) (h2:p∣l*(x1-x2)-(y1-y2)):p∣(x1-x2)*(l*(y1+y2)-(x1*x1+x1*x2+x2*x2)):=
 dk (dc (1) h0 (dc (-1) h1 (dc (y1+y2) h2 (dz p)))) (by clear h0 h1 h2;grind)
theorem aqN {p x7 x5 yt xt ys xs y1 y3 L M l m x1 x3 y2 x2:Int} (h0:p∣l*(x1-x2)-(y1-y2)) (h1:p∣m*(x2-x3)-(y2-y3)) (h2:p∣xs-(l*l-x1-x2)) (h3:p∣ys-(l*(x1-xs)-y1)) (h4:p∣xt-(m*m-x2-x3)) (h5:p∣yt-(m*(x2-xt)-y2)) (h6:p∣x5-(L*L-xs-x3)) (h7:p∣x7-(M*M-x1-xt)) (h8:p∣l*(y1+y2)-(x1*x1+x1*x2+x2*x2)) (h9:p∣m*(y2+y3)-(x2*x2+x2*x3+x3*x3)) (h10:p∣L*(xs-x3)-(ys-y3)) (h11:p∣M*(x1-xt)-(y1-yt)):p∣((xs-x3)*(x1-xt))*(x5-x7):=
 dk (dc (-L*l*l-l*l*l-L*l*m-M*l*m-l*l*m-L*m*m+L*x1-M*x1+2*l*x1+2*m*x1+L*x3-M*x3+L*x2-M*x2+l*x2+m*x2) h0 (dc (-L*l*m-M*l*m-l*l*m-M*m*m-l*m*m-m*m*m-L*x1+m*x1-L*x3+l*x3+2*m*x3-L*x2+2*l*x2+3*m*x2-2*y2) h1 (dc (x7*xt-x7*x1-x5*xt+x5*x1+L*L*m*m-L*L*x1-L*l*x1-l*l*x1-L*m*x1-l*m*x1-m*m*x1-L*L*x3-m*m*x3-L*L*x2+L*l*x2+l*l*x2+L*m*x2+l*m*x2-m*m*x2+x1*x1+2*x1*x3+x3*x3-2*L*y2-2*l*y2+2*x1*x2+2*x3*x2+x2*x2) h2 (dc (-L*m*m+l*m*m+L*x1+m*x1+L*x3-l*x3+L*x2-2*l*x2-m*x2+2*y2) h3 (dc (x7*l*l-x7*x1-x7*x3-x7*x2-x5*l*l+x5*x1+x5*x3+x5*x2-M*M*l*l+M*M*x1+l*l*x1+M*M*x3+M*l*x3+l*l*x3+M*m*x3+l*m*x3+m*m*x3+M*M*x2-M*l*x2+l*l*x2-M*m*x2-l*m*x2-m*m*x2-x1*x1-2*x1*x3-x3*x3+2*M*y2+2*m*y2-2*x1*x2-2*x3*x2-x2*x2) h4 (dc (M*l*l-l*l*m-M*x1+m*x1-M*x3-l*x3-M*x2+l*x2+2*m*x2-2*y2) h5 (dc (-l*l*m*m+l*l*x1+m*m*x1+l*l*x3+m*m*x3+l*l*x2+m*m*x2-x1*x1-2*x1*x3-x3*x3-2*x1*x2-2*x3*x2-x2*x2) h6 (dc (l*l*m*m-l*l*x1-m*m*x1-l*l*x3-m*m*x3-l*l*x2-m*m*x2+x1*x1+2*x1*x3+x3*x3+2*x1*x2+2*x3*x2+x2*x2) h7 (dc (-L*l-M*l-l*l-L*m-M*m-m*m+2*x1+2*x3+2*x2) h8 (dc (L*l+M*l+l*l+L*m+M*m+m*m-2*x1-2*x3-2*x2) h9 (dc (-L*m*m+l*m*m+L*x1+m*x1+L*x3-l*x3+L*x2-2*l*x2-m*x2+2*y2) h10 (dc (-M*l*l+l*l*m+M*x1-m*x1+M*x3+l*x3+M*x2-l*x2-2*m*x2+2*y2) h11 (dz p))))))))))))) (by clear h0 h1 h2 h3 h4 h5 h6 h7 h8 h9 h10 h11;grind)
theorem aqM {p y7 x7 y5 x5 yt xt ys xs y1 y3 L M l m x1 x3 y2 x2:Int} (h0:p∣l*(x1-x2)-(y1-y2)) (h1:p∣m*(x2-x3)-(y2-y3)) (h2:p∣xs-(l*l-x1-x2)) (h3:p∣ys-(l*(x1-xs)-y1)) (h4:p∣xt-(m*m-x2-x3)) (h5:p∣yt-(m*(x2-xt)-y2)) (h6:p∣x5-(L*L-xs-x3)) (h7:p∣y5-(L*(xs-x5)-ys)) (h8:p∣x7-(M*M-x1-xt)) (h9:p∣y7-(M*(x1-x7)-y1)) (h10:p∣l*(y1+y2)-(x1*x1+x1*x2+x2*x2)) (h11:p∣m*(y2+y3)-(x2*x2+x2*x3+x3*x3)) (h12:p∣L*(xs-x3)-(ys-y3)) (h13:p∣M*(x1-xt)-(y1-yt)) (h14:p∣x5-x7):p∣((xs-x3)*(x1-xt))*(y5-y7):=
 dk (dc (-L*L*L*l+L*M*M*l-2*L*L*l*l-L*M*l*l+M*M*l*l-M*l*l*l+l*l*l*l-L*L*l*m-L*M*l*m+M*M*l*m-2*L*l*l*m-M*l*l*m-l*l*l*m+L*L*m*m-3*L*l*m*m+M*l*m*m-3*l*l*m*m-M*l*x1-2*l*l*x1+L*m*x1+l*m*x1+2*m*m*x1-L*L*x3+M*M*x3+2*L*l*x3-3*M*l*x3+3*l*l*x3-L*m*x3-2*M*m*x3+l*m*x3-m*m*x3-2*L*L*x2+2*M*M*x2+L*l*x2-2*M*l*x2+2*l*l*x2-M*m*x2-2*l*m*x2-4*m*m*x2+2*x1*x1+2*x3*x3+6*m*y2-x1*x2+5*x3*x2+x2*x2) h0 (dc (L*L*l*m-L*M*l*m-M*M*l*m-M*l*l*m-l*l*l*m-L*M*m*m-M*M*m*m-L*l*m*m-2*M*l*m*m-2*l*l*m*m-L*m*m*m-l*m*m*m+m*m*m*m+M*M*x1-2*L*l*x1-M*l*x1-2*L*m*x1-2*M*m*x1+3*l*m*x1+L*L*x3-L*l*x3-l*l*x3-L*m*x3-M*m*x3+2*L*L*x2-M*M*x2+M*l*x2-2*l*l*x2+3*x1*x3-2*L*y2-2*M*y2+2*m*y2+6*x1*x2+3*x2*x2) h1 (dc (y7*xt-y7*x1-y5*xt+y5*x1-L*L*L*m*m+L*M*M*x1-2*L*L*l*x1-L*M*l*x1+M*M*l*x1-M*l*l*x1+l*l*l*x1-L*L*m*x1-L*M*m*x1-2*L*l*m*x1-M*l*m*x1-l*l*m*x1-2*L*m*m*x1-3*l*m*m*x1+L*L*L*x3+2*L*m*m*x3+l*m*m*x3+2*L*L*L*x2-L*M*M*x2+2*L*L*l*x2+L*M*l*x2-M*M*l*x2+M*l*l*x2-l*l*l*x2+L*L*m*x2+L*M*m*x2+2*L*l*m*x2+M*l*m*x2+l*l*m*x2+3*L*m*m*x2+2*l*m*m*x2-2*L*x1*x1-l*x1*x1+3*l*x1*x3+m*x1*x3-2*L*x3*x3-l*x3*x3-2*L*L*y2-2*L*M*y2-2*M*l*y2+2*l*l*y2-4*L*m*y2+L*x1*x2+2*l*x1*x2-m*x1*x2-5*L*x3*x2-4*l*x3*x2-m*x3*x2-L*x2*x2-5*l*x2*x2-5*m*x2*x2+2*x1*y2+4*x3*y2+6*y2*x2) h2 (dc (L*L*m*m-L*l*m*m-M*M*x1+2*L*l*x1+M*l*x1-l*l*x1+L*m*x1+M*m*x1+l*m*x1+3*m*m*x1-L*L*x3+L*l*x3-m*m*x3-2*L*L*x2+M*M*x2-M*l*x2+l*l*x2-L*m*x2-M*m*x2-l*m*x2-2*m*m*x2+x1*x1-x1*x3+x3*x3+2*L*y2+2*M*y2+4*m*y2-4*x1*x2+2*x3*x2-2*x2*x2) h3 (dc (y7*l*l-y7*x1-y7*x3-y7*x2-y5*l*l+y5*x1+y5*x3+y5*x2+M*M*M*l*l-M*M*M*x1-M*l*l*x1-M*M*M*x3+L*M*l*x3+M*M*l*x3+M*l*l*x3+L*M*m*x3+M*M*m*x3+L*l*m*x3+2*M*l*m*x3+2*l*l*m*x3+L*m*m*x3+l*m*m*x3-m*m*m*x3-M*M*M*x2-L*M*l*x2-M*M*l*x2-3*M*l*l*x2-L*M*m*x2-M*M*m*x2-L*l*m*x2-2*M*l*m*x2-2*l*l*m*x2-L*m*m*x2-l*m*m*x2+m*m*m*x2+M*x1*x1-L*x1*x3+3*M*x1*x3-2*l*x1*x3+M*x3*x3+2*L*M*y2+2*M*M*y2-2*L*l*y2+6*M*l*y2-2*l*l*y2+2*L*m*y2+2*l*m*y2-2*m*m*y2+L*x1*x2+M*x1*x2+2*l*x1*x2+L*x3*x2+M*x3*x2+2*l*x3*x2+2*L*x2*x2-M*x2*x2+7*l*x2*x2+3*m*x2*x2-2*x1*y2-4*x3*y2-6*y2*x2) h4 (dc (-M*M*l*l+M*l*l*m+M*M*x1-M*m*x1+M*M*x3-L*l*x3-M*l*x3-2*l*l*x3-L*m*x3-2*M*m*x3-l*m*x3+m*m*x3+M*M*x2+L*l*x2+M*l*x2+2*l*l*x2+L*m*x2+l*m*x2-m*m*x2-x1*x3-2*L*y2-2*M*y2-6*l*y2+2*m*y2+x1*x2+x3*x2+2*x2*x2) h5 (dc (L*l*l*m*m-L*l*l*x1-L*m*m*x1-L*l*l*x3-L*m*m*x3-L*l*l*x2-L*m*m*x2+L*x1*x1+L*x1*x3-2*l*x1*x3-m*x1*x3+L*x3*x3-2*L*l*y2-2*l*l*y2-4*l*m*y2+3*L*x1*x2+2*l*x1*x2+m*x1*x2+3*L*x3*x2+2*l*x3*x2+m*x3*x2+3*L*x2*x2+7*l*x2*x2+5*m*x2*x2-2*x1*y2-4*x3*y2-6*y2*x2) h6 (dc (-l*l*m*m+l*l*x1+m*m*x1+l*l*x3+m*m*x3+l*l*x2+m*m*x2-x1*x1-2*x1*x3-x3*x3-2*x1*x2-2*x3*x2-x2*x2) h7 (dc (-M*l*l*m*m+M*l*l*x1+M*m*m*x1+M*l*l*x3+M*m*m*x3+M*l*l*x2+M*m*m*x2-M*x1*x1+L*x1*x3-2*M*x1*x3+2*l*x1*x3+m*x1*x3-M*x3*x3+2*L*l*y2+2*l*l*y2+4*l*m*y2-L*x1*x2-2*M*x1*x2-2*l*x1*x2-m*x1*x2-L*x3*x2-2*M*x3*x2-2*l*x3*x2-m*x3*x2-2*L*x2*x2-M*x2*x2-7*l*x2*x2-5*m*x2*x2+2*x1*y2+4*x3*y2+6*y2*x2) h8 (dc (l*l*m*m-l*l*x1-m*m*x1-l*l*x3-m*m*x3-l*l*x2-m*m*x2+x1*x1+2*x1*x3+x3*x3+2*x1*x2+2*x3*x2+x2*x2) h9 (dc (-L*L*L+L*M*M-2*L*L*l-L*M*l+2*M*M*l-M*l*l+l*l*l-L*L*m-L*M*m+M*M*m-2*L*l*m-2*M*l*m-l*l*m-2*L*m*m+M*m*m-4*l*m*m-2*L*x1-2*M*x1+2*L*x3-2*M*x3+6*l*x3+2*m*x3-2*M*x2-2*m*x2+6*y2) h10 (dc (-L*L*l+L*M*l+M*M*l+M*l*l+l*l*l-L*L*m+L*M*m+M*M*m+2*L*l*m+2*M*l*m+3*l*l*m+L*m*m+l*m*m-m*m*m+L*x1+M*x1-4*l*x1-4*m*x1+L*x3+M*x3+L*x2+M*x2+l*x2+m*x2-6*y2) h11 (dc (L*L*m*m-L*l*m*m-l*l*m*m-M*M*x1+2*L*l*x1+M*l*x1+L*m*x1+M*m*x1+l*m*x1+4*m*m*x1-L*L*x3+L*l*x3+l*l*x3-2*L*L*x2+M*M*x2-M*l*x2+2*l*l*x2-L*m*x2-M*m*x2-l*m*x2-m*m*x2-3*x1*x3+2*L*y2+2*M*y2+4*m*y2-6*x1*x2-3*x2*x2) h12 (dc (M*M*l*l-M*l*l*m-M*M*x1+M*m*x1-M*M*x3+L*l*x3+M*l*x3+2*l*l*x3+L*m*x3+2*M*m*x3+l*m*x3-m*m*x3-M*M*x2-L*l*x2-M*l*x2-2*l*l*x2-L*m*x2-l*m*x2+m*m*x2+x1*x3+2*L*y2+2*M*y2+6*l*y2-2*m*y2-x1*x2-x3*x2-2*x2*x2) h13 (dc (L*x1*x3+2*l*x1*x3+m*x1*x3+2*L*l*y2+2*l*l*y2+4*l*m*y2-L*x1*x2-2*l*x1*x2-m*x1*x2-L*x3*x2-2*l*x3*x2-m*x3*x2-2*L*x2*x2-7*l*x2*x2-5*m*x2*x2+2*x1*y2+4*x3*y2+6*y2*x2) h14 (dz p)))))))))))))))) (by clear h0 h1 h2 h3 h4 h5 h6 h7 h8 h9 h10 h11 h12 h13 h14;grind)
theorem aqP {p x7 x5 yt xt ys xs y1 y3 L M l m x1 x3 y2 x2:Int} (h0:p∣l*(x1-x2)-(y1-y2)) (h1:p∣m*(x2-x3)-(y2-y3)) (h2:p∣xs-(l*l-x1-x2)) (h3:p∣ys-(l*(x1-xs)-y1)) (h4:p∣xt-(m*m-x2-x3)) (h5:p∣yt-(m*(x2-xt)-y2)) (h6:p∣x5-(L*L-xs-x3)) (h7:p∣x7-(M*M-x1-xt)) (h8:p∣l*(y1+y2)-(x1*x1+x1*x2+x2*x2)) (h9:p∣m*(y2+y3)-(x2*x2+x2*x3+x3*x3)) (h10:p∣L*(xs-x3)-(ys-y3)) (h11:p∣L*(ys+y3)-(xs*xs+xs*x3+x3*x3)) (h12:p∣M*(x1-xt)-(y1-yt)) (h13:p∣xs-x3):p∣4*(y2*y3)*(x5-x7):=
 dk (dc (L*M*l*x3+M*M*l*x3-2*L*l*l*x3-2*M*l*l*x3+2*L*M*m*x3-L*l*m*x3-2*M*l*m*x3+2*l*l*m*x3-M*m*m*x3+l*m*m*x3+m*m*m*x3-L*M*l*x2-M*M*l*x2+2*L*l*l*x2+2*M*l*l*x2-2*L*M*m*x2+L*l*m*x2+2*M*l*m*x2-2*l*l*m*x2+M*m*m*x2-l*m*m*x2-m*m*m*x2+L*x1*x3+M*x1*x3+3*L*x3*x3-5*m*x3*x3-2*M*M*y2+2*L*l*y2-2*l*l*y2+2*L*m*y2+2*M*m*y2-2*l*m*y2-4*m*m*y2-L*x1*x2-M*x1*x2-L*x3*x2-M*x3*x2+4*m*x3*x2-2*L*x2*x2-2*M*x2*x2+4*m*x2*x2+4*x1*y2-4*x3*y2) h0 (dc (-4*x7*y2+4*x5*y2+2*L*M*l*x3+M*l*l*x3+L*M*m*x3+M*M*m*x3-M*l*m*x3+l*l*m*x3+L*m*m*x3-M*m*m*x3+l*m*m*x3-2*m*m*m*x3-2*L*M*l*x2-M*l*l*x2-L*M*m*x2-M*M*m*x2+M*l*m*x2-l*l*m*x2-L*m*m*x2+M*m*m*x2-l*m*m*x2+2*m*m*m*x2-L*x1*x3-M*x1*x3-2*L*x3*x3+M*x3*x3+3*m*x3*x3-4*L*L*y2+2*M*M*y2+2*L*l*y2+2*l*l*y2-4*l*m*y2-2*m*m*y2+L*x1*x2+M*x1*x2-L*x3*x2-M*x3*x2+3*L*x2*x2+3*M*x2*x2-6*m*x2*x2-4*x1*y2+2*x3*y2+2*y2*x2) h1 (dc (-xs*M*l*x3-xs*M*m*x3-xs*l*m*x3-xs*m*m*x3+xs*M*l*x2+xs*M*m*x2+xs*l*m*x2+xs*m*m*x2+2*xs*L*y2-2*xs*l*y2+L*M*x1*x3+M*M*x1*x3-2*L*l*x1*x3-M*l*x1*x3-L*m*x1*x3-2*M*m*x1*x3+3*l*m*x1*x3+m*m*x1*x3-L*M*x1*x2-M*M*x1*x2+2*L*l*x1*x2+M*l*x1*x2+L*m*x1*x2+2*M*m*x1*x2-3*l*m*x1*x2-m*m*x1*x2-L*M*x3*x2-M*M*x3*x2+2*L*l*x3*x2+2*M*l*x3*x2+L*m*x3*x2+3*M*m*x3*x2-2*l*m*x3*x2+L*M*x2*x2+M*M*x2*x2-2*L*l*x2*x2-2*M*l*x2*x2-L*m*x2*x2-3*M*m*x2*x2+2*l*m*x2*x2-4*m*x1*y2-4*L*x3*y2-4*M*x3*y2+4*m*x3*y2+2*L*y2*x2+4*M*y2*x2+2*l*y2*x2-4*y2*y2) h2 (dc (-M*l*l*x3+2*L*M*m*x3-l*l*m*x3-M*m*m*x3+m*m*m*x3+M*l*l*x2-2*L*M*m*x2+l*l*m*x2+M*m*m*x2-m*m*m*x2+L*x1*x3+M*x1*x3+2*L*x3*x3-M*x3*x3-3*m*x3*x3-2*M*M*y2+2*L*l*y2-2*l*l*y2+2*L*m*y2+2*M*m*y2+2*l*m*y2-4*m*m*y2-L*x1*x2-M*x1*x2+L*x3*x2+M*x3*x2-3*L*x2*x2-3*M*x2*x2+6*m*x2*x2+4*x1*y2-2*x3*y2-2*y2*x2) h3 (dc (-L*M*x3*x3-M*M*x3*x3-L*m*x3*x3+M*m*x3*x3+2*m*m*x3*x3+2*L*M*x3*x2+2*M*M*x3*x2+2*L*m*x3*x2-2*M*m*x3*x2-4*m*m*x3*x2-L*M*x2*x2-M*M*x2*x2-L*m*x2*x2+M*m*x2*x2+2*m*m*x2*x2+2*M*x3*y2+6*m*x3*y2-2*M*y2*x2-6*m*y2*x2+4*y2*y2) h4 (dc (L*x3*x3+M*x3*x3-2*m*x3*x3-2*L*x3*x2-2*M*x3*x2+4*m*x3*x2+L*x2*x2+M*x2*x2-2*m*x2*x2-2*x3*y2+2*y2*x2) h5 (dc (4*m*x3*y2-4*m*y2*x2+4*y2*y2) h6 (dc (-4*m*x3*y2+4*m*y2*x2-4*y2*y2) h7 (dc (L*M*x3+M*M*x3-2*L*l*x3-M*l*x3-L*m*x3-2*M*m*x3+3*l*m*x3+m*m*x3-L*M*x2-M*M*x2+2*L*l*x2+M*l*x2+L*m*x2+2*M*m*x2-3*l*m*x2-m*m*x2-4*m*y2) h8 (dc (-L*M*x3-M*M*x3+2*L*l*x3+M*l*x3+L*m*x3+2*M*m*x3-l*m*x3+m*m*x3+L*M*x2+M*M*x2-2*L*l*x2-M*l*x2-L*m*x2-2*M*m*x2+l*m*x2-m*m*x2-2*L*y2-2*M*y2+2*l*y2+6*m*y2) h9 (dc (-L*M*l*x3-M*l*l*x3+L*M*m*x3-L*l*m*x3-l*l*m*x3-L*m*m*x3-M*m*m*x3+m*m*m*x3+L*M*l*x2+M*l*l*x2-L*M*m*x2+L*l*m*x2+l*l*m*x2+L*m*m*x2+M*m*m*x2-m*m*m*x2+L*x1*x3+M*x1*x3+2*L*x3*x3-M*x3*x3-3*m*x3*x3+2*L*L*y2-2*M*M*y2-2*l*l*y2+2*L*m*y2+2*M*m*y2+2*l*m*y2-4*m*m*y2-L*x1*x2-M*x1*x2+L*x3*x2+M*x3*x2-3*L*x2*x2-3*M*x2*x2+6*m*x2*x2+4*x1*y2-2*x3*y2-2*y2*x2) h10 (dc (-M*l*x3-M*m*x3-l*m*x3-m*m*x3+M*l*x2+M*m*x2+l*m*x2+m*m*x2+2*L*y2-2*l*y2) h11 (dc (-L*x3*x3-M*x3*x3+2*m*x3*x3+2*L*x3*x2+2*M*x3*x2-4*m*x3*x2-L*x2*x2-M*x2*x2+2*m*x2*x2+2*x3*y2-2*y2*x2) h12 (dc (L*L*M*l*x3+L*M*l*l*x3-L*L*M*m*x3+L*L*l*m*x3-2*L*M*l*m*x3+L*l*l*m*x3-M*l*l*m*x3+L*L*m*m*x3+L*M*m*m*x3+M*l*m*m*x3-l*l*m*m*x3-L*m*m*m*x3-l*m*m*m*x3-L*L*M*l*x2-L*M*l*l*x2+L*L*M*m*x2-L*L*l*m*x2+2*L*M*l*m*x2-L*l*l*m*x2+M*l*l*m*x2-L*L*m*m*x2-L*M*m*m*x2-M*l*m*m*x2+l*l*m*m*x2+L*m*m*m*x2+l*m*m*m*x2-L*L*x1*x3-2*L*M*x1*x3-M*M*x1*x3+L*l*x1*x3+M*l*x1*x3+L*m*x1*x3+3*M*m*x1*x3-2*l*m*x1*x3-2*L*L*x3*x3+L*M*x3*x3-2*L*l*x3*x3+3*L*m*x3*x3-M*m*x3*x3+2*l*m*x3*x3-m*m*x3*x3-2*L*L*L*y2+2*L*M*M*y2+2*M*M*l*y2+2*L*l*l*y2-2*L*L*m*y2-2*L*M*m*y2-4*L*l*m*y2-2*M*l*m*y2-2*l*l*m*y2+4*L*m*m*y2+4*l*m*m*y2+L*L*x1*x2+2*L*M*x1*x2+M*M*x1*x2-L*l*x1*x2-M*l*x1*x2-L*m*x1*x2-3*M*m*x1*x2+2*l*m*x1*x2-L*L*x3*x2+M*M*x3*x2-3*L*l*x3*x2-M*l*x3*x2-L*m*x3*x2-M*m*x3*x2+4*l*m*x3*x2+2*m*m*x3*x2+3*L*L*x2*x2+2*L*M*x2*x2-M*M*x2*x2+5*L*l*x2*x2+4*M*l*x2*x2-5*L*m*x2*x2+2*M*m*x2*x2-9*l*m*x2*x2-m*m*x2*x2-6*L*x1*y2-2*l*x1*y2+4*m*x1*y2+8*L*x3*y2+4*M*x3*y2-8*m*x3*y2-2*L*y2*x2-4*M*y2*x2+2*l*y2*x2+4*m*y2*x2) h13 (dz p))))))))))))))) (by clear h0 h1 h2 h3 h4 h5 h6 h7 h8 h9 h10 h11 h12 h13;grind)
theorem aqO {p y7 x7 y5 x5 yt xt ys xs y1 y3 L M l m x1 x3 y2 x2:Int} (h0:p∣l*(x1-x2)-(y1-y2)) (h1:p∣m*(x2-x3)-(y2-y3)) (h2:p∣xs-(l*l-x1-x2)) (h3:p∣ys-(l*(x1-xs)-y1)) (h4:p∣xt-(m*m-x2-x3)) (h5:p∣yt-(m*(x2-xt)-y2)) (h6:p∣y5-(L*(xs-x5)-ys)) (h7:p∣x7-(M*M-x1-xt)) (h8:p∣y7-(M*(x1-x7)-y1)) (h9:p∣l*(y1+y2)-(x1*x1+x1*x2+x2*x2)) (h10:p∣m*(y2+y3)-(x2*x2+x2*x3+x3*x3)) (h11:p∣L*(xs-x3)-(ys-y3)) (h12:p∣L*(ys+y3)-(xs*xs+xs*x3+x3*x3)) (h13:p∣M*(x1-xt)-(y1-yt)) (h14:p∣xs-x3) (h15:p∣x5-x7):p∣4*(y2*y3)*(y5-y7):=
 dk (dc (-M*M*M*l*x3+M*M*l*l*x3+2*L*M*l*m*x3+2*M*M*l*m*x3-4*L*l*l*m*x3-4*M*l*l*m*x3+4*L*M*m*m*x3-2*L*l*m*m*x3-2*M*l*m*m*x3+2*l*l*m*m*x3-2*M*m*m*m*x3+2*l*m*m*m*x3+2*m*m*m*m*x3+M*M*M*l*x2-M*M*l*l*x2-2*L*M*l*m*x2-2*M*M*l*m*x2+4*L*l*l*m*x2+4*M*l*l*m*x2-4*L*M*m*m*x2+2*L*l*m*m*x2+2*M*l*m*m*x2-2*l*l*m*m*x2+2*M*m*m*m*x2-2*l*m*m*m*x2-2*m*m*m*m*x2+2*L*m*x1*x3+2*M*m*x1*x3-M*M*x3*x3-2*M*l*x3*x3+2*l*l*x3*x3+6*L*m*x3*x3-8*m*m*x3*x3+2*M*M*M*y2+2*L*M*l*y2+4*L*l*l*y2+4*L*M*m*y2-2*M*M*m*y2+6*L*l*m*y2-2*M*l*m*y2-4*l*l*m*y2+8*L*m*m*y2-2*M*m*m*y2-6*l*m*m*y2-8*m*m*m*y2-2*L*m*x1*x2-2*M*m*x1*x2+2*M*M*x3*x2+M*l*x3*x2-l*l*x3*x2-2*L*m*x3*x2-2*M*m*x3*x2+4*m*m*x3*x2+2*M*M*x2*x2+4*M*l*x2*x2-l*l*x2*x2-4*L*m*x2*x2-4*M*m*x2*x2+3*l*m*x2*x2+4*m*m*x2*x2-2*x3*x3*x3-6*L*x1*y2-2*M*x1*y2+6*m*x1*y2-2*L*x3*y2+4*M*x3*y2+2*l*x3*y2-2*m*x3*y2+3*x3*x3*x2-4*L*y2*x2+4*M*y2*x2-2*l*y2*x2+8*m*y2*x2-3*x1*x2*x2+9*x3*x2*x2+2*x2*x2*x2-4*y2*y2) h0 (dc (-4*y7*y2+4*y5*y2-M*M*M*m*x3+4*L*M*l*m*x3+2*M*l*l*m*x3+2*L*M*m*m*x3+M*M*m*m*x3-2*M*l*m*m*x3+2*l*l*m*m*x3+2*L*m*m*m*x3+2*l*m*m*m*x3-2*m*m*m*m*x3+M*M*M*m*x2-4*L*M*l*m*x2-2*M*l*l*m*x2-2*L*M*m*m*x2-M*M*m*m*x2+2*M*l*m*m*x2-2*l*l*m*m*x2-2*L*m*m*m*x2-2*l*m*m*m*x2+2*m*m*m*m*x2-2*L*m*x1*x3-2*M*m*x1*x3-4*L*m*x3*x3+4*m*m*x3*x3+4*L*M*M*y2-2*M*M*M*y2+4*L*M*l*y2+2*M*M*l*y2+2*M*l*l*y2+2*L*M*m*y2+8*L*l*m*y2-2*M*l*m*y2+2*l*l*m*y2-2*L*m*m*y2+4*M*m*m*y2-8*l*m*m*y2+2*m*m*m*y2+2*L*m*x1*x2+2*M*m*x1*x2-2*L*m*x3*x2-M*m*x3*x2+m*m*x3*x2-3*M*M*x2*x2+6*L*m*x2*x2+10*M*m*x2*x2-2*m*m*x2*x2-2*L*x1*y2+2*M*x1*y2-4*l*x1*y2-4*m*x1*y2+8*L*x3*y2-2*M*x3*y2+2*l*x3*y2-12*m*x3*y2+6*L*y2*x2-6*M*y2*x2+2*l*y2*x2-2*m*y2*x2+3*x1*x2*x2-6*x3*x2*x2-6*x2*x2*x2) h1 (dc (-2*xs*M*l*m*x3-2*xs*M*m*m*x3-2*xs*l*m*m*x3-2*xs*m*m*m*x3+2*xs*M*l*m*x2+2*xs*M*m*m*x2+2*xs*l*m*m*x2+2*xs*m*m*m*x2-2*xs*M*M*y2-2*xs*M*l*y2-2*xs*M*m*y2-2*xs*l*m*y2+4*xs*x1*y2-2*xs*x3*y2-2*xs*y2*x2-M*M*M*x1*x3+M*M*l*x1*x3+2*L*M*m*x1*x3+2*M*M*m*x1*x3-4*L*l*m*x1*x3-2*M*l*m*x1*x3-2*L*m*m*x1*x3-2*M*m*m*x1*x3+4*l*m*m*x1*x3+2*m*m*m*x1*x3+M*M*M*x1*x2-M*M*l*x1*x2-2*L*M*m*x1*x2-2*M*M*m*x1*x2+4*L*l*m*x1*x2+2*M*l*m*x1*x2+2*L*m*m*x1*x2+2*M*m*m*x1*x2-4*l*m*m*x1*x2-2*m*m*m*x1*x2+M*M*M*x3*x2-M*M*l*x3*x2-2*L*M*m*x3*x2-2*M*M*m*x3*x2+4*L*l*m*x3*x2+4*M*l*m*x3*x2+2*L*m*m*x3*x2+4*M*m*m*x3*x2-2*l*m*m*x3*x2-M*M*M*x2*x2+M*M*l*x2*x2+2*L*M*m*x2*x2+2*M*M*m*x2*x2-4*L*l*m*x2*x2-4*M*l*m*x2*x2-2*L*m*m*x2*x2-4*M*m*m*x2*x2+2*l*m*m*x2*x2-2*M*x1*x3*x3+2*l*x1*x3*x3+2*L*M*x1*y2+2*M*M*x1*y2+4*L*l*x1*y2+2*M*l*x1*y2+6*L*m*x1*y2-2*M*m*x1*y2-2*l*m*x1*y2-8*m*m*x1*y2+2*M*M*x3*y2-8*L*m*x3*y2-8*M*m*x3*y2+4*m*m*x3*y2+M*x1*x3*x2-l*x1*x3*x2+2*M*x3*x3*x2-2*l*x3*x3*x2-2*L*M*y2*x2-2*M*M*y2*x2-4*L*l*y2*x2+2*L*m*y2*x2+12*M*m*y2*x2+4*l*m*y2*x2+4*m*m*y2*x2+4*M*x1*x2*x2-l*x1*x2*x2+3*m*x1*x2*x2-M*x3*x2*x2+l*x3*x2*x2-4*M*x2*x2*x2+l*x2*x2*x2-3*m*x2*x2*x2-4*x1*x1*y2+4*x1*x3*y2+4*x3*x3*y2+8*L*y2*y2-8*m*y2*y2-4*x3*y2*x2) h2 (dc (-2*M*l*l*m*x3+4*L*M*m*m*x3-2*l*l*m*m*x3-2*M*m*m*m*x3+2*m*m*m*m*x3+2*M*l*l*m*x2-4*L*M*m*m*x2+2*l*l*m*m*x2+2*M*m*m*m*x2-2*m*m*m*m*x2+2*L*m*x1*x3+2*M*m*x1*x3+4*L*m*x3*x3-2*M*m*x3*x3-6*m*m*x3*x3+2*M*M*M*y2-2*M*M*l*y2-2*M*l*l*y2+4*L*M*m*y2-2*M*M*m*y2-2*l*l*m*y2+8*L*m*m*y2-2*M*m*m*y2+2*l*m*m*y2-8*m*m*m*y2-2*L*m*x1*x2-2*M*m*x1*x2+2*L*m*x3*x2+2*M*m*x3*x2+3*M*M*x2*x2-6*L*m*x2*x2-6*M*m*x2*x2+6*m*m*x2*x2-6*L*x1*y2-2*M*x1*y2+4*l*x1*y2+6*m*x1*y2-4*L*x3*y2+2*M*x3*y2-2*l*x3*y2+4*m*x3*y2-2*L*y2*x2+6*M*y2*x2-2*l*y2*x2+2*m*y2*x2-3*x1*x2*x2+6*x3*x2*x2+6*x2*x2*x2-4*y2*y2) h3 (dc (M*M*M*x3*x3-2*L*M*m*x3*x3-M*M*m*x3*x3-2*L*m*m*x3*x3+2*m*m*m*x3*x3-2*M*M*M*x3*x2+4*L*M*m*x3*x2+2*M*M*m*x3*x2+4*L*m*m*x3*x2-4*m*m*m*x3*x2+M*M*M*x2*x2-2*L*M*m*x2*x2-M*M*m*x2*x2-2*L*m*m*x2*x2+2*m*m*m*x2*x2+2*M*x3*x3*x3+2*m*x3*x3*x3-2*L*M*x3*y2-2*M*M*x3*y2+2*L*m*x3*y2-4*M*m*x3*y2+2*m*m*x3*y2-3*M*x3*x3*x2-3*m*x3*x3*x2+2*L*M*y2*x2+2*M*M*y2*x2-2*L*m*y2*x2+4*M*m*y2*x2-2*m*m*y2*x2-3*M*x3*x2*x2-3*m*x3*x2*x2+4*M*x2*x2*x2+4*m*x2*x2*x2+4*L*y2*y2-8*M*y2*y2-4*m*y2*y2) h4 (dc (-M*M*x3*x3+2*L*m*x3*x3+2*M*m*x3*x3-2*m*m*x3*x3+2*M*M*x3*x2-4*L*m*x3*x2-4*M*m*x3*x2+4*m*m*x3*x2-M*M*x2*x2+2*L*m*x2*x2+2*M*m*x2*x2-2*m*m*x2*x2-2*x3*x3*x3+2*L*x3*y2+2*M*x3*y2-2*m*x3*y2+3*x3*x3*x2-2*L*y2*x2-2*M*y2*x2+2*m*y2*x2+3*x3*x2*x2-4*x2*x2*x2+4*y2*y2) h5 (dc (4*m*x3*y2-4*m*y2*x2+4*y2*y2) h6 (dc (-4*L*m*x3*y2+4*M*m*x3*y2+4*L*m*y2*x2-4*M*m*y2*x2-4*L*y2*y2+4*M*y2*y2) h7 (dc (-4*m*x3*y2+4*m*y2*x2-4*y2*y2) h8 (dc (-M*M*M*x3+M*M*l*x3+2*L*M*m*x3+2*M*M*m*x3-4*L*l*m*x3-2*M*l*m*x3-2*L*m*m*x3-2*M*m*m*x3+4*l*m*m*x3+2*m*m*m*x3+M*M*M*x2-M*M*l*x2-2*L*M*m*x2-2*M*M*m*x2+4*L*l*m*x2+2*M*l*m*x2+2*L*m*m*x2+2*M*m*m*x2-4*l*m*m*x2-2*m*m*m*x2-2*M*x3*x3+2*l*x3*x3+2*L*M*y2+2*M*M*y2+4*L*l*y2+2*M*l*y2+6*L*m*y2-2*M*m*y2-2*l*m*y2-8*m*m*y2+M*x3*x2-l*x3*x2+4*M*x2*x2-l*x2*x2+3*m*x2*x2-4*x1*y2+4*x3*y2) h9 (dc (M*M*M*x3-2*L*M*m*x3-M*M*m*x3+4*L*l*m*x3+2*M*l*m*x3+2*L*m*m*x3+2*M*m*m*x3-2*l*m*m*x3-M*M*M*x2+2*L*M*m*x2+M*M*m*x2-4*L*l*m*x2-2*M*l*m*x2-2*L*m*m*x2-2*M*m*m*x2+2*l*m*m*x2+2*M*x3*x3+2*m*x3*x3-2*L*M*y2+2*M*M*y2-4*L*l*y2+2*M*l*y2-6*L*m*y2-2*M*m*y2+6*l*m*y2+6*m*m*y2-M*x3*x2-m*x3*x2-4*M*x2*x2-4*m*x2*x2-2*x1*y2+4*x3*y2+4*y2*x2) h10 (dc (-2*L*M*l*m*x3-2*M*l*l*m*x3+2*L*M*m*m*x3-2*L*l*m*m*x3-2*l*l*m*m*x3-2*L*m*m*m*x3-2*M*m*m*m*x3+2*m*m*m*m*x3+2*L*M*l*m*x2+2*M*l*l*m*x2-2*L*M*m*m*x2+2*L*l*m*m*x2+2*l*l*m*m*x2+2*L*m*m*m*x2+2*M*m*m*m*x2-2*m*m*m*m*x2+2*L*m*x1*x3+2*M*m*x1*x3+4*L*m*x3*x3-2*M*m*x3*x3-6*m*m*x3*x3-2*L*M*M*y2+2*M*M*M*y2-2*L*M*l*y2-2*M*M*l*y2-2*M*l*l*y2+2*L*M*m*y2-2*M*M*m*y2-2*L*l*m*y2-2*l*l*m*y2+8*L*m*m*y2-2*M*m*m*y2+2*l*m*m*y2-8*m*m*m*y2-2*L*m*x1*x2-2*M*m*x1*x2+2*L*m*x3*x2+2*M*m*x3*x2+3*M*M*x2*x2-6*L*m*x2*x2-6*M*m*x2*x2+6*m*m*x2*x2-2*L*x1*y2-2*M*x1*y2+4*l*x1*y2+6*m*x1*y2-6*L*x3*y2+2*M*x3*y2-2*l*x3*y2+8*m*x3*y2-4*L*y2*x2+6*M*y2*x2-2*l*y2*x2-2*m*y2*x2-3*x1*x2*x2+6*x3*x2*x2+6*x2*x2*x2) h11 (dc (-2*M*l*m*x3-2*M*m*m*x3-2*l*m*m*x3-2*m*m*m*x3+2*M*l*m*x2+2*M*m*m*x2+2*l*m*m*x2+2*m*m*m*x2-2*M*M*y2-2*M*l*y2-2*M*m*y2-2*l*m*y2+4*x1*y2-2*x3*y2-2*y2*x2) h12 (dc (M*M*x3*x3-2*L*m*x3*x3-2*M*m*x3*x3+2*m*m*x3*x3-2*M*M*x3*x2+4*L*m*x3*x2+4*M*m*x3*x2-4*m*m*x3*x2+M*M*x2*x2-2*L*m*x2*x2-2*M*m*x2*x2+2*m*m*x2*x2+2*x3*x3*x3-2*L*x3*y2-2*M*x3*y2+2*m*x3*y2-3*x3*x3*x2+2*L*y2*x2+2*M*y2*x2-2*m*y2*x2-3*x3*x2*x2+4*x2*x2*x2-4*y2*y2) h13 (dc (2*L*L*M*l*m*x3+2*L*M*l*l*m*x3-2*L*L*M*m*m*x3+2*L*L*l*m*m*x3-4*L*M*l*m*m*x3+2*L*l*l*m*m*x3-2*M*l*l*m*m*x3+2*L*L*m*m*m*x3+2*L*M*m*m*m*x3+2*M*l*m*m*m*x3-2*l*l*m*m*m*x3-2*L*m*m*m*m*x3-2*l*m*m*m*m*x3-2*L*L*M*l*m*x2-2*L*M*l*l*m*x2+2*L*L*M*m*m*x2-2*L*L*l*m*m*x2+4*L*M*l*m*m*x2-2*L*l*l*m*m*x2+2*M*l*l*m*m*x2-2*L*L*m*m*m*x2-2*L*M*m*m*m*x2-2*M*l*m*m*m*x2+2*l*l*m*m*m*x2+2*L*m*m*m*m*x2+2*l*m*m*m*m*x2+M*M*M*x1*x3-M*M*l*x1*x3-2*L*L*m*x1*x3-4*L*M*m*x1*x3-2*M*M*m*x1*x3+2*L*l*m*x1*x3+2*M*l*m*x1*x3+2*L*m*m*x1*x3+4*M*m*m*x1*x3-2*l*m*m*x1*x3-4*L*L*m*x3*x3+2*L*M*m*x3*x3-4*L*l*m*x3*x3+6*L*m*m*x3*x3-2*M*m*m*x3*x3+4*l*m*m*x3*x3-2*m*m*m*x3*x3+2*L*L*M*M*y2-2*L*M*M*M*y2+2*L*L*M*l*y2+2*L*M*M*l*y2-2*M*M*M*l*y2+2*L*M*l*l*y2-2*L*L*M*m*y2+2*L*M*M*m*y2+2*L*L*l*m*y2-4*L*M*l*m*y2+2*M*M*l*m*y2+2*L*l*l*m*y2-2*M*l*l*m*y2-8*L*L*m*m*y2+2*L*M*m*m*y2-10*L*l*m*m*y2+2*M*l*m*m*y2-2*l*l*m*m*y2+8*L*m*m*m*y2+8*l*m*m*m*y2-M*M*M*x1*x2+M*M*l*x1*x2+2*L*L*m*x1*x2+4*L*M*m*x1*x2+2*M*M*m*x1*x2-2*L*l*m*x1*x2-2*M*l*m*x1*x2-2*L*m*m*x1*x2-4*M*m*m*x1*x2+2*l*m*m*x1*x2-M*M*M*x3*x2+M*M*l*x3*x2-2*L*L*m*x3*x2+2*M*M*m*x3*x2-6*L*l*m*x3*x2-2*M*l*m*x3*x2-2*L*m*m*x3*x2+6*l*m*m*x3*x2+4*m*m*m*x3*x2-3*L*M*M*x2*x2+M*M*M*x2*x2-4*M*M*l*x2*x2+6*L*L*m*x2*x2+4*L*M*m*x2*x2-2*M*M*m*x2*x2+10*L*l*m*x2*x2+8*M*l*m*x2*x2-4*L*m*m*x2*x2+2*M*m*m*x2*x2-10*l*m*m*x2*x2-2*m*m*m*x2*x2+2*M*x1*x3*x3-2*l*x1*x3*x3+2*L*L*x1*y2-2*L*l*x1*y2+2*M*l*x1*y2-12*L*m*x1*y2+4*M*m*x1*y2-2*l*m*x1*y2+8*m*m*x1*y2+6*L*L*x3*y2-2*L*M*x3*y2-4*M*M*x3*y2+6*L*l*x3*y2-4*M*l*x3*y2+4*L*m*x3*y2+6*M*m*x3*y2-6*l*m*x3*y2-4*m*m*x3*y2-M*x1*x3*x2+l*x1*x3*x2-2*M*x3*x3*x2+2*l*x3*x3*x2+4*L*L*y2*x2-4*L*M*y2*x2+4*M*M*y2*x2+8*L*l*y2*x2-4*M*l*y2*x2-4*L*m*y2*x2-10*M*m*y2*x2-4*l*m*y2*x2-4*m*m*y2*x2+3*L*x1*x2*x2-4*M*x1*x2*x2+4*l*x1*x2*x2-3*m*x1*x2*x2-6*L*x3*x2*x2+M*x3*x2*x2-7*l*x3*x2*x2-6*L*x2*x2*x2+4*M*x2*x2*x2-7*l*x2*x2*x2+3*m*x2*x2*x2+2*x1*x3*y2-6*x3*x3*y2-4*L*y2*y2+4*l*y2*y2+8*m*y2*y2-2*x1*y2*x2+4*x3*y2*x2+2*y2*x2*x2) h14 (dc (-4*L*m*x3*y2+4*L*m*y2*x2-4*L*y2*y2) h15 (dz p))))))))))))))))) (by clear h0 h1 h2 h3 h4 h5 h6 h7 h8 h9 h10 h11 h12 h13 h14 h15;grind)
end Go.Proofs.YtohjofabochgfaaGreat

namespace Go.Proofs.YtohjofabochgfaaGreat
theorem Pr.dN {p:Nat} (h:Pr p) {a b:Int} (hd:(p:Int)∣a*b):(p:Int)∣a\/(p:Int)∣b:=by
 rw [Int.ofNat_dvd_left,Int.natAbs_mul] at hd
 rcases h.WG hd with h1|h1
 ·exact .inl (Int.ofNat_dvd_left.2 h1)
 ·exact .inr (Int.ofNat_dvd_left.2 h1)
def nm (p:Nat) (z:Int):Nat:=(z%(p:Int)).toNat
theorem adH {p:Nat} (hp:0<p) (z:Int):((nm p z:Nat):Int)=z%(p:Int):=by
 unfold nm
 have:=Int.emod_nonneg z (show (p:Int)≠0 by omega)
 omega
theorem np {p:Nat} (hp:0<p) (z:Int):(p:Int)∣((nm p z:Nat):Int)-z:=by
 rw [adH hp]
 have:=Int.emod_add_mul_ediv z p
 exact ⟨-(z/p),by grind⟩
theorem BW {p:Nat} (hp:0<p) (z:Int):nm p z<p:=by
 have h:=adH hp z
 have:=Int.emod_lt_of_pos z (show (0:Int)<p by omega)
 omega
theorem fD {p a b:Nat} (ha:a<p) (hb:b<p) (h:(p:Int)∣(a:Int)-(b:Int)):a=b:=by
 obtain ⟨k,hk⟩:=h
 have hpk:(p:Int)*k<p*1/\(p:Int)*(-1)<p*k:=by constructor<;>omega
 have h1:=Int.lt_of_mul_lt_mul_left hpk.1 (by omega)
 have h2:=Int.lt_of_mul_lt_mul_left hpk.2 (by omega)
 have:k=0:=by omega
 subst this
 omega
theorem adG {p a:Nat} {z:Int} (ha:a<p) (h:(p:Int)∣(a:Int)-z):nm p z=a:=by
 have hp:0<p:=by omega
 refine fD (BW hp z) ha ?_
 obtain ⟨k,hk⟩:=h
 obtain ⟨k2,h2⟩:=np hp z
 exact ⟨k2-k,by grind⟩
def ao7 (p:Nat) (a:Int):Int:=((nm p a^(p-2):Nat):Int)
theorem aeg {p:Nat} (h:Pr p) {a:Int} (ha:¬(p:Int)∣a):(p:Int)∣a*ao7 p a-1:=by
 have hp:=h.pos
 have h2:=h.1
 obtain ⟨k,hk⟩:=np hp a
 have hn:¬p∣nm p a:=λhd=>by
  obtain ⟨c,hc⟩:=Int.natCast_dvd_natCast.2 hd
  exact ha ⟨c-k,by grind⟩
 have hf:=Wx h hn
 have e:nm p a^(p-1)=nm p a*nm p a^(p-2):=by
  rw [show p-1=(p-2)+1 by omega,Nat.pow_succ,Nat.mul_comm]
 rw [e] at hf
 have hd:=Nat.div_add_mod (nm p a*nm p a^(p-2)) p
 rw [hf] at hd
 unfold ao7
 generalize nm p a^(p-2)=i at*
 have hd2:((p:Nat):Int)*((nm p a*i/p:Nat):Int)+1=(nm p a:Int)*(i:Int):=by
  have:=congrArg (λn:Nat=>(n:Int)) hd
  simp only [Int.natCast_add,Int.natCast_mul] at this
  exact this
 exact ⟨((nm p a*i/p:Nat):Int)-k*i,by grind⟩
structure Cur (p b:Nat):Prop where
 pr:Pr p
 big:5<=p
 n2:∀ x:Int,¬(p:Int)∣x*x*x+b
theorem Cur.pos {p b:Nat} (c:Cur p b):0<p:=c.pr.pos
theorem Cur.no2 {p b:Nat} (c:Cur p b):¬(p:Int)∣2:=λh=>by
 have:=Int.le_of_dvd (by decide) h
 have:=c.big
 omega
theorem Cur.no4 {p b:Nat} (c:Cur p b):¬(p:Int)∣4:=λh=>by
 have:=Int.le_of_dvd (by decide) h
 have:=c.big
 omega
abbrev Cv (p b:Nat) (x y:Int):Prop:=(p:Int)∣y*y-x*x*x-b
theorem Cur.yne {p b:Nat} (c:Cur p b) {x y:Int} (h:Cv p b x y):¬(p:Int)∣y:=λhy=>by
 obtain ⟨k,hk⟩:=h
 obtain ⟨m,hm⟩:=hy
 exact c.n2 x ⟨m*y-k,by grind⟩
abbrev PtQ:Type:=Option (Nat×Nat)
def OnQ (p b:Nat):PtQ->Prop
 |none=>True
 |some P=>P.1<p/\P.2<p/\Cv p b P.1 P.2
structure Lin (p:Nat) (x1 y1 x2 y2 l:Int):Prop where
 a:(p:Int)∣l*(x1-x2)-(y1-y2)
 b:(p:Int)∣l*(y1+y2)-(x1*x1+x1*x2+x2*x2)
structure Thd (p:Nat) (x1 y1 x2 l x3 y3:Int):Prop where
 x:(p:Int)∣x3-(l*l-x1-x2)
 y:(p:Int)∣y3-(l*(x1-x3)-y1)
def nk (p:Nat) (P R:Nat×Nat):Int:=if P.1=R.1 then 3*P.1*P.1*ao7 p (P.2+P.2) else ((R.2:Int)-P.2)*ao7 p ((R.1:Int)-P.1)
def qZ (p:Nat) (P R:Nat×Nat) (l:Int):Nat×Nat:=(nm p (l*l-P.1-R.1),nm p (l*(P.1-nm p (l*l-P.1-R.1))-P.2))
def cM (p:Nat):PtQ->PtQ->PtQ
 |none,R=>R
 |some P,none=>some P
 |some P,some R=>if P.1=R.1/\P.2≠R.2 then none else some (qZ p P R (nk p P R))
def ID (p:Nat):PtQ->PtQ
 |none=>none
 |some P=>some (P.1,nm p (-P.2))
variable {p b:Nat}
theorem KM (c:Cur p b) {P R:Nat×Nat} (hP:OnQ p b (some P)) (hR:OnQ p b (some R)) (h:¬(P.1=R.1/\P.2≠R.2)):Lin p P.1 P.2 R.1 R.2 (nk p P R):=by
 obtain ⟨x1,y1⟩:=P
 obtain ⟨x2,y2⟩:=R
 obtain ⟨hx1,hy1,hc1⟩:=hP
 obtain ⟨hx2,hy2,hc2⟩:=hR
 dsimp only at*
 unfold nk
 dsimp only
 by_cases e:x1=x2
 ·have e2:y1=y2:=Classical.byContradiction λh2=>h ⟨e,h2⟩
  subst e e2
  rw [if_pos rfl]
  have hn:¬(p:Int)∣(y1:Int)+y1:=λhd=>by
   rw [<-Int.two_mul] at hd
   rcases c.pr.dN hd with h1|h1
   ·exact c.no2 h1
   ·exact c.yne hc1 h1
  obtain ⟨k,hk⟩:=aeg c.pr hn
  generalize ao7 p ((y1:Int)+y1)=i at*
  exact ⟨⟨0,by grind⟩,⟨3*x1*x1*k,by grind⟩⟩
 ·rw [if_neg e]
  have hn:¬(p:Int)∣(x2:Int)-x1:=λhd=>e (fD hx2 hx1 hd).symm
  have hn':¬(p:Int)∣(x1:Int)-x2:=λ⟨k,hk⟩=>hn ⟨-k,by grind⟩
  obtain ⟨k,hk⟩:=aeg c.pr hn
  generalize ao7 p ((x2:Int)-x1)=i at*
  have ha:(p:Int)∣((y2:Int)-y1)*i*((x1:Int)-x2)-(y1-y2):=⟨(y1-y2)*k,by grind⟩
  refine ⟨ha,?_⟩
  have hc1':(p:Int)∣(y1:Int)*y1-x1*x1*x1-b:=hc1
  have hc2':(p:Int)∣(y2:Int)*y2-x2*x2*x2-b:=hc2
  rcases c.pr.dN (afA hc1' hc2' ha) with h1|h1
  ·exact absurd h1 hn'
  ·exact h1
theorem ajL (c:Cur p b) {x1 y1 x2 y2 l m:Int} (hy:¬(p:Int)∣y1) (h1:Lin p x1 y1 x2 y2 l) (h2:Lin p x1 y1 x2 y2 m):(p:Int)∣l-m:=by
 obtain ⟨k1,e1⟩:=h1.a
 obtain ⟨k2,e2⟩:=h2.a
 obtain ⟨k3,e3⟩:=h1.b
 obtain ⟨k4,e4⟩:=h2.b
 rcases c.pr.dN (a:=l-m) (b:=x1-x2) ⟨k1-k2,by grind⟩ with h|h
 ·exact h
 ·rcases c.pr.dN (a:=l-m) (b:=y1+y2) ⟨k3-k4,by grind⟩ with h'|h'
  ·exact h'
  ·obtain ⟨m1,f1⟩:=h
   obtain ⟨m2,f2⟩:=h'
   rcases c.pr.dN (a:=2) (b:=y1) ⟨l*m1-k1+m2,by grind⟩ with h3|h3
   ·exact absurd h3 c.no2
   ·exact absurd h3 hy
theorem UP (c:Cur p b) {P R S:Nat×Nat} {l:Int} (hP:OnQ p b (some P)) (hR:OnQ p b (some R)) (hl:Lin p P.1 P.2 R.1 R.2 l) (hS1:S.1<p) (hS2:S.2<p)
 (ht:Thd p P.1 P.2 R.1 l S.1 S.2):cM p (some P) (some R)=some S:=by
 have hn:¬(P.1=R.1/\P.2≠R.2):=λ⟨e1,e2⟩=>by
  obtain ⟨k,hk⟩:=hl.a
  rw [e1] at hk
  exact e2 (fD hP.2.1 hR.2.1 ⟨-k,by grind⟩)
 have hs:=KM c hP hR hn
 obtain ⟨k,hk⟩:=ajL c (c.yne hP.2.2) hs hl
 have:cM p (some P) (some R)=some (qZ p P R (nk p P R)):=if_neg hn
 rw [this]
 congr 1
 generalize nk p P R=s at*
 obtain ⟨k1,h1⟩:=ht.x
 obtain ⟨k2,h2⟩:=ht.y
 have ex:nm p (s*s-P.1-R.1)=S.1:=adG hS1 ⟨k1-k*(s+l),by grind⟩
 unfold qZ
 rw [ex]
 have ey:nm p (s*((P.1:Int)-S.1)-P.2)=S.2:=adG hS2 ⟨k2-k*(P.1-S.1),by grind⟩
 rw [ey]
theorem kD (c:Cur p b) {P R S:Nat×Nat} (hP:OnQ p b (some P)) (hR:OnQ p b (some R)) (h:cM p (some P) (some R)=some S):
 S.1<p/\S.2<p/\∃ l,Lin p P.1 P.2 R.1 R.2 l/\Thd p P.1 P.2 R.1 l S.1 S.2:=by
 by_cases hn:P.1=R.1/\P.2≠R.2
 ·have:cM p (some P) (some R)=none:=if_pos hn
  rw [this] at h
  cases h
 ·have hs:=KM c hP hR hn
  have:cM p (some P) (some R)=some (qZ p P R (nk p P R)):=if_neg hn
  rw [this] at h
  cases h
  exact ⟨BW c.pos _,BW c.pos _,_,hs,np c.pos _,np c.pos _⟩
theorem yU (c:Cur p b) {P:PtQ} (h:OnQ p b P):OnQ p b (ID p P):=by
 cases P with
 |none=>trivial
 |some P=>
  obtain ⟨k,hk⟩:=np c.pos (-(P.2:Int))
  obtain ⟨m,hm⟩:=h.2.2
  exact ⟨h.1,BW c.pos _,⟨m+k*((nm p (-(P.2:Int)):Int)-P.2),by show ((nm p (-(P.2:Int)):Nat):Int)*(nm p (-(P.2:Int)):Nat)-(P.1:Int)*P.1*P.1-b=_;grind⟩⟩
theorem gu (c:Cur p b) {P R:PtQ} (hP:OnQ p b P) (hR:OnQ p b R):OnQ p b (cM p P R):=by
 cases P with
 |none=>exact hR
 |some P=>
  cases R with
  |none=>exact hP
  |some R=>
   cases h:cM p (some P) (some R) with
   |none=>trivial
   |some S=>
    obtain ⟨h1,h2,l,hl,ht⟩:=kD c hP hR h
    exact ⟨h1,h2,apw ht.y ht.x hl.a hl.b hP.2.2⟩
theorem adC (c:Cur p b) {P R:Nat×Nat} (hP:OnQ p b (some P)) (hR:OnQ p b (some R)) (h:P.1=R.1/\P.2≠R.2):some R=ID p (some P):=by
 obtain ⟨x1,y1⟩:=P
 obtain ⟨x2,y2⟩:=R
 obtain ⟨hx1,hy1,hc1⟩:=hP
 obtain ⟨hx2,hy2,hc2⟩:=hR
 dsimp only at*
 obtain ⟨rfl,hne⟩:=h
 obtain ⟨k1,e1⟩:=hc1
 obtain ⟨k2,e2⟩:=hc2
 rcases c.pr.dN (a:=(y1:Int)-y2) (b:=(y1:Int)+y2) ⟨k1-k2,by grind⟩ with h|h
 ·exact absurd (fD hy1 hy2 h) hne
 ·obtain ⟨k,hk⟩:=h
  have:nm p (-(y1:Int))=y2:=adG hy2 ⟨k,by grind⟩
  show _=some (x1,nm p (-(y1:Int)))
  rw [this]
theorem bU (P:PtQ):cM p P none=P:=by cases P<;>rfl
theorem VJ (P:PtQ):cM p none P=P:=rfl
theorem add_neg (c:Cur p b) {P:PtQ} (hP:OnQ p b P):cM p P (ID p P)=none:=by
 cases P with
 |none=>rfl
 |some P=>
  refine if_pos ⟨rfl,λe=> ?_⟩
  have e:P.2=nm p (-(P.2:Int)):=e
  obtain ⟨k,hk⟩:=np c.pos (-(P.2:Int))
  rw [<-e] at hk
  rcases c.pr.dN (a:=2) (b:=(P.2:Int)) ⟨k,by grind⟩ with h|h
  ·exact c.no2 h
  ·exact c.yne hP.2.2 h
theorem neg_neg (c:Cur p b) {P:PtQ} (hP:OnQ p b P):ID p (ID p P)=P:=by
 cases P with
 |none=>rfl
 |some P=>
  obtain ⟨k,hk⟩:=np c.pos (-(P.2:Int))
  have:nm p (-((nm p (-(P.2:Int)):Nat):Int))=P.2:=adG hP.2.1 ⟨k,by grind⟩
  show some (P.1,nm p (-((nm p (-(P.2:Int)):Nat):Int)))=_
  rw [this]
theorem add_comm (c:Cur p b) {P R:PtQ} (hP:OnQ p b P) (hR:OnQ p b R):cM p P R=cM p R P:=by
 cases P with
 |none=>exact (bU R).symm
 |some P=>
  cases R with
  |none=>rfl
  |some R=>
   cases h:cM p (some P) (some R) with
   |none=>
    by_cases hn:P.1=R.1/\P.2≠R.2
    ·exact (if_pos ⟨hn.1.symm,λe=>hn.2 e.symm⟩).symm
    ·have:cM p (some P) (some R)=some (qZ p P R (nk p P R)):=if_neg hn
     rw [this] at h
     cases h
   |some S=>
    obtain ⟨h1,h2,l,hl,ht⟩:=kD c hP hR h
    obtain ⟨k1,e1⟩:=hl.a
    obtain ⟨k2,e2⟩:=hl.b
    obtain ⟨k3,e3⟩:=ht.x
    exact (UP c hR hP (l:=l) ⟨⟨-k1,by grind⟩,⟨k2,by grind⟩⟩ h1 h2 ⟨⟨k3,by grind⟩,alL ht.y hl.a⟩).symm
theorem aro {p l x1 x2 y1 y2 z1 z2 k2 k5 k6:Int} (e2:l*(y1+y2)-(x1*x1+x1*x2+x2*x2)=p*k2) (e5:z1- -y1=p*k5) (e6:z2- -y2=p*k6):
 -l*(z1+z2)-(x1*x1+x1*x2+x2*x2)=p*(k2-l*(k5+k6)):=by grind
theorem aqK {p l x1 x3 y1 y3 z1 k2 k5:Int} (e2: -l*(-y1+y3)-(x1*x1+x1*x3+x3*x3)=p*k2) (e5:z1- -y1=p*k5):
 -l*(z1+y3)-(x1*x1+x1*x3+x3*x3)=p*(k2-l*k5):=by grind
theorem neg_add (c:Cur p b) {P R:PtQ} (hP:OnQ p b P) (hR:OnQ p b R):ID p (cM p P R)=cM p (ID p P) (ID p R):=by
 cases P with
 |none=>rfl
 |some P=>
  cases R with
  |none=>rfl
  |some R=>
   have hP':=yU c hP
   have hR':=yU c hR
   obtain ⟨k5,e5⟩:=np c.pos (-(P.2:Int))
   obtain ⟨k6,e6⟩:=np c.pos (-(R.2:Int))
   cases h:cM p (some P) (some R) with
   |none=>
    by_cases hn:P.1=R.1/\P.2≠R.2
    ·have:=adC c hP hR hn
     rw [this,add_neg c hP']
     rfl
    ·have:cM p (some P) (some R)=some (qZ p P R (nk p P R)):=if_neg hn
     rw [this] at h
     cases h
   |some S=>
    obtain ⟨h1,h2,l,hl,ht⟩:=kD c hP hR h
    obtain ⟨k1,e1⟩:=hl.a
    obtain ⟨k2,e2⟩:=hl.b
    obtain ⟨k3,e3⟩:=ht.x
    obtain ⟨k4,e4⟩:=ht.y
    obtain ⟨k7,e7⟩:=np c.pos (-(S.2:Int))
    have g1:Lin p ((P.1:Nat):Int) ((nm p (-(P.2:Int)):Nat):Int) ((R.1:Nat):Int) ((nm p (-(R.2:Int)):Nat):Int) (-l):=
     ⟨⟨-k1-k5+k6,by grind⟩,⟨k2-l*(k5+k6),aro e2 e5 e6⟩⟩
    have g2:Thd p ((P.1:Nat):Int) ((nm p (-(P.2:Int)):Nat):Int) ((R.1:Nat):Int) (-l) ((S.1:Nat):Int) ((nm p (-(S.2:Int)):Nat):Int):=
     ⟨⟨k3,by grind⟩,⟨-k4+k7+k5,by grind⟩⟩
    exact (UP c (P:=(P.1,nm p (-(P.2:Int)))) (R:=(R.1,nm p (-(R.2:Int)))) (S:=(S.1,nm p (-(S.2:Int)))) hP' hR' g1 h1 (BW c.pos _) g2).symm
theorem cancel (c:Cur p b) {P R:PtQ} (hP:OnQ p b P) (hR:OnQ p b R):cM p (ID p P) (cM p P R)=R:=by
 cases P with
 |none=>rfl
 |some P=>
  have hP':=yU c hP
  cases R with
  |none=>
   rw [bU,add_comm c hP' hP,add_neg c hP]
  |some R=>
   cases h:cM p (some P) (some R) with
   |none=>
    by_cases hn:P.1=R.1/\P.2≠R.2
    ·rw [bU]
     exact (adC c hP hR hn).symm
    ·have:cM p (some P) (some R)=some (qZ p P R (nk p P R)):=if_neg hn
     rw [this] at h
     cases h
   |some S=>
    have hS:=gu c hP hR
    rw [h] at hS
    obtain ⟨h1,h2,l,hl,ht⟩:=kD c hP hR h
    obtain ⟨k1,e1⟩:=hl.a
    obtain ⟨k2,e2⟩:=aqL ht.y ht.x hl.a hl.b
    obtain ⟨k3,e3⟩:=ht.x
    obtain ⟨k4,e4⟩:=ht.y
    obtain ⟨k5,e5⟩:=np c.pos (-(P.2:Int))
    have g1:Lin p ((P.1:Nat):Int) ((nm p (-(P.2:Int)):Nat):Int) ((S.1:Nat):Int) ((S.2:Nat):Int) (-l):=
     ⟨⟨k4-k5,by grind⟩,⟨k2-l*k5,aqK e2 e5⟩⟩
    have g2:Thd p ((P.1:Nat):Int) ((nm p (-(P.2:Int)):Nat):Int) ((S.1:Nat):Int) (-l) ((R.1:Nat):Int) ((R.2:Nat):Int):=
     ⟨⟨k3,by grind⟩,⟨k1+k5,by grind⟩⟩
    exact UP c (P:=(P.1,nm p (-(P.2:Int)))) hP' hS g1 hR.1 hR.2.1 g2
theorem BV (c:Cur p b) {P R:PtQ} (hP:OnQ p b P) (hR:OnQ p b R) (h:cM p P R=none):R=ID p P:=by
 have:=cancel c hP hR
 rw [h,bU] at this
 exact this.symm
theorem Iv (c:Cur p b) {u v z:Int} (hu:¬(p:Int)∣u) (hv:¬(p:Int)∣v) (h:(p:Int)∣u*v*z):(p:Int)∣z:=by
 rcases c.pr.dN h with h|h
 ·rcases c.pr.dN h with h|h
  ·exact absurd h hu
  ·exact absurd h hv
 ·exact h
theorem VG (c:Cur p b) {z:Int} (h:(p:Int)∣4*z):(p:Int)∣z:=(c.pr.dN h).resolve_left c.no4
theorem adw {X Y:Nat×Nat} (h1:X.1=Y.1) (h2:X.2=Y.2):X=Y:=by
 obtain ⟨X1,X2⟩:=X
 obtain ⟨Y1,Y2⟩:=Y
 dsimp only at h1 h2
 rw [h1,h2]
theorem He (c:Cur p b) {P1 P2 P3 S T X Y:Nat×Nat} (h1:OnQ p b (some P1)) (h2:OnQ p b (some P2)) (h3:OnQ p b (some P3)) (hS:cM p (some P1) (some P2)=some S) (hT:cM p (some P2) (some P3)=some T)
 (hX:cM p (some S) (some P3)=some X) (hY:cM p (some P1) (some T)=some Y) (d1:(p:Int)∣(S.1:Int)-P3.1):X=Y:=by
 have oS:=gu c h1 h2
 have oT:=gu c h2 h3
 rw [hS] at oS
 rw [hT] at oT
 obtain ⟨hS1,hS2,l,l1,l2⟩:=kD c h1 h2 hS
 obtain ⟨hT1,hT2,m,m1,m2⟩:=kD c h2 h3 hT
 obtain ⟨hX1,hX2,L,L1,L2⟩:=kD c oS h3 hX
 obtain ⟨hY1,hY2,M,M1,M2⟩:=kD c h1 oT hY
 have n2:=c.yne h2.2.2
 have n3:=c.yne h3.2.2
 have hx:=Iv c n2 n3 (VG c (by rw [<-Int.mul_assoc];exact aqP l1.a m1.a l2.x l2.y m2.x m2.y L2.x M2.x l1.b m1.b L1.a L1.b M1.a d1))
 have hy:=Iv c n2 n3 (VG c (by rw [<-Int.mul_assoc];exact aqO l1.a m1.a l2.x l2.y m2.x m2.y L2.y M2.x M2.y l1.b m1.b L1.a L1.b M1.a d1 hx))
 exact adw (fD hX1 hY1 hx) (fD hX2 hY2 hy)
theorem add_assoc (c:Cur p b) {P R T:PtQ} (hP:OnQ p b P) (hR:OnQ p b R) (hT:OnQ p b T):cM p (cM p P R) T=cM p P (cM p R T):=by
 have hPR:=gu c hP hR
 have hRT:=gu c hR hT
 have nP:=yU c hP
 have nR:=yU c hR
 have nT:=yU c hT
 by_cases hA:cM p P R=none
 ·rw [hA,VJ]
  have e:=BV c hP hR hA
  have e2:P=ID p R:=by rw [e,neg_neg c hP]
  rw [e2,cancel c hR hT]
 by_cases hB:cM p R T=none
 ·rw [hB,bU]
  have e:=BV c hR hT hB
  rw [e,add_comm c hPR nR,add_comm c hP hR,cancel c hR hP]
 by_cases hC:cM p (cM p P R) T=none
 ·rw [hC]
  have e:=BV c hPR hT hC
  rw [e,neg_add c hP hR,add_comm c nP nR]
  have:=cancel c nR nP
  rw [neg_neg c hR] at this
  rw [this,add_neg c hP]
 by_cases hD:cM p P (cM p R T)=none
 ·rw [hD]
  have e:=BV c hRT hP (by rw [add_comm c hRT hP];exact hD)
  rw [e,neg_add c hR hT]
  have h3:=cancel c nR nT
  rw [neg_neg c hR] at h3
  rw [add_comm c (gu c nR nT) hR,h3,add_comm c nT hT,add_neg c hT]
 cases P with
 |none=>rfl
 |some P1=>
 cases R with
 |none=>rw [bU,VJ]
 |some P2=>
 cases T with
 |none=>rw [bU,bU]
 |some P3=>
 cases hS:cM p (some P1) (some P2) with
 |none=>exact absurd hS hA
 |some S=>
 cases hT':cM p (some P2) (some P3) with
 |none=>exact absurd hT' hB
 |some T=>
 rw [hS] at hPR hC
 rw [hT'] at hRT hD
 cases hX:cM p (some S) (some P3) with
 |none=>exact absurd hX hC
 |some X=>
 cases hY:cM p (some P1) (some T) with
 |none=>exact absurd hY hD
 |some Y=>
 obtain ⟨hS1,hS2,l,l1,l2⟩:=kD c hP hR hS
 obtain ⟨hT1,hT2,m,m1,m2⟩:=kD c hR hT hT'
 obtain ⟨hX1,hX2,L,L1,L2⟩:=kD c hPR hT hX
 obtain ⟨hY1,hY2,M,M1,M2⟩:=kD c hP hRT hY
 congr 1
 by_cases d1:(p:Int)∣(S.1:Int)-P3.1
 ·exact He c hP hR hT hS hT' hX hY d1
 by_cases d2:(p:Int)∣(P1.1:Int)-T.1
 ·rw [add_comm c hR hT] at hT'
  rw [add_comm c hP hR] at hS
  rw [add_comm c hPR hT] at hX
  rw [add_comm c hP hRT] at hY
  exact (He c hT hR hP hT' hS hY hX (by obtain ⟨k,hk⟩:=d2;exact ⟨-k,by rw [Int.mul_neg,<-hk];omega⟩)).symm
 ·have hx:=Iv c d1 d2 (aqN l1.a m1.a l2.x l2.y m2.x m2.y L2.x M2.x l1.b m1.b L1.a M1.a)
  have hy:=Iv c d1 d2 (aqM l1.a m1.a l2.x l2.y m2.x m2.y L2.x L2.y M2.x M2.y l1.b m1.b L1.a M1.a hx)
  exact adw (fD hX1 hY1 hx) (fD hX2 hY2 hy)
end Go.Proofs.YtohjofabochgfaaGreat
