/- A symbolic machine for Go code over plain data, and functions of the program as it shows them. No statement is proved in this file. -/
import Derived.KernelRfl
import Derived.Test.YtohjofabochgfaaGreatXd
set_option linter.unusedSimpArgs false
set_option linter.unusedVariables false
set_option linter.unusedSectionVars false

namespace Go.Proofs.YtohjofabochgfaaGreat
open Sx Go
set_option maxRecDepth 100000
def gH:aw:=⟨[.val false .int,.val true .elem],[],true,0,false⟩
abbrev Eu:Type:=((Int)×(aa)×Unit)×(Unit)
def sW:Shape:=⟨114,[(0,.val false .int),(4,.ptr 0 0 0),(10,.ptr 1 0 0),(14,.ptr 2 0 0),(15,.ptr 3 0 0),(16,.ptr 4 0 0),(17,.val false .int)],[(0,.row .u64),(1,.row .u64),(2,.row .u64),(3,.row .u64),(4,.row .u64)],0,true⟩
abbrev cx:Type:=((Int)×(Unit)×(Unit)×(Unit)×(Unit)×(Unit)×(Int)×Unit)×((List (UInt64))×(List (UInt64))×(List (UInt64))×(List (UInt64))×(List (UInt64))×Unit)
def sV:Shape:=⟨114,[(0,.val false .int),(4,.ptr 0 0 0),(10,.ptr 1 0 0),(14,.ptr 2 0 0),(15,.ptr 3 0 0),(16,.ptr 4 0 0),(17,.val false .int),(18,.ptr 5 0 0),(19,.val false .int)],[(0,.row .u64),(1,.row .u64),(2,.row .u64),(3,.row .u64),(4,.row .u64),(5,.row .u64)],0,true⟩
abbrev bG:Type:=((Int)×(Unit)×(Unit)×(Unit)×(Unit)×(Unit)×(Int)×(Unit)×(Int)×Unit)×((List (UInt64))×(List (UInt64))×(List (UInt64))×(List (UInt64))×(List (UInt64))×(List (UInt64))×Unit)
def qD:Shape:=⟨114,[(0,.val false .int),(4,.ptr 0 0 0),(10,.ptr 1 0 0),(14,.ptr 2 0 0),(15,.ptr 3 0 0),(16,.ptr 4 0 0),(17,.val false .int),(18,.ptr 5 0 0)],[(0,.row .u64),(1,.row .u64),(2,.row .u64),(3,.row .u64),(4,.row .u64),(5,.row .u64)],0,true⟩
abbrev eR:Type:=((Int)×(Unit)×(Unit)×(Unit)×(Unit)×(Unit)×(Int)×(Unit)×Unit)×((List (UInt64))×(List (UInt64))×(List (UInt64))×(List (UInt64))×(List (UInt64))×(List (UInt64))×Unit)
def XZ:SE->Option Shape:=fp [(2,qD)] none
def atQ (a0:Int) (a17:Int) (a19:Int) (c0:List (UInt64)) (c1:List (UInt64)) (c2:List (UInt64)) (c3:List (UInt64)) (c4:List (UInt64)) (c5:List (UInt64)):OT (Sum bG aE):=
 let z0:Nat:=List.length c5
 let z1:Bool:=decide (4<=z0)
 let z2:aa:= {w0:=List.getD c5 0 0,w1:=List.getD c5 1 0,w2:=List.getD c5 2 0,w3:=List.getD c5 3 0}
 let z3:aa:=bB (pS a0) z2 z2
 (.br (decide (a19<a17))
 (gd [z1,z1,cC ((a0,z2,z2,()),()),decide ((4/1:Nat)+0<=z0),inR (a19+(1:Int))] (.ok (.inl ((a0,((),((),((),((),((),(a17,((),(a19+(1:Int),()))))))))),(c0,(c1,(c2,(c3,(c4,(List.set (List.set (List.set (List.set c5 0 z3.w0) 1 z3.w1) 2 z3.w2) 3 z3.w3,()))))))))))
 (.ok (.inr ⟨(.exit 2,qD),((a0,((),((),((),((),((),(a17,((),())))))))),(c0,(c1,(c2,(c3,(c4,(c5,())))))))⟩)))
def sX (s:bG):OT (Sum bG aE):=atQ (s.1.1) (s.1.2.2.2.2.2.2.1) (s.1.2.2.2.2.2.2.2.2.1) (s.2.1) (s.2.2.1) (s.2.2.2.1) (s.2.2.2.2.1) (s.2.2.2.2.2.1) (s.2.2.2.2.2.2.1)
theorem atL (s:bG) (Q:Sum bG aE->Prop):wps te zN av 1000 (aV (aV (aj Tryz.f94) 0) 2) (sV.inj s) (bV sV XZ (Q:Sum sV.T aE->Prop))=(sX s).wpR Q:=by kernel_rfl
def Bi (g2_2:bG->eR) (s:bG):OT aE:=(.ok ⟨(.exit 2,qD),g2_2 s⟩)
def qE:Shape:=⟨114,[(0,.val false .int),(4,.ptr 0 0 0),(14,.ptr 1 0 0)],[(0,.row .u64),(1,.row .u64)],0,true⟩
abbrev jZ:Type:=((Int)×(Unit)×(Unit)×Unit)×((List (UInt64))×(List (UInt64))×Unit)
def X0:SE->Option Shape:=fp [(0,qE)] none
def J8 (ok2:bG->Bool) (g2_2:bG->eR) (a0:Int) (a17:Int) (c0:List (UInt64)) (c1:List (UInt64)) (c2:List (UInt64)) (c3:List (UInt64)) (c4:List (UInt64)):OT (Sum cx aE):=
 let z0:(Int×PUnit×PUnit×PUnit×PUnit×PUnit×Int×PUnit×Int×PUnit)×List UInt64×List UInt64×List UInt64×List UInt64×List UInt64×List UInt64×PUnit:=((a0,(),(),(),(),(),a17,(),(1:Int),()),c0,c1,c2,c3,c4,[List.getD c3 0 0,List.getD c3 1 0,List.getD c3 2 0,List.getD c3 3 0],())
 let z1:(Int×PUnit×PUnit×PUnit×PUnit×PUnit×Int×PUnit×PUnit)×List UInt64×List UInt64×List UInt64×List UInt64×List UInt64×List UInt64×PUnit:=g2_2 z0
 let z2:=z1.snd
 let z3:=z2.snd
 let z4:=z3.snd
 let z5:=z4.snd
 let z6:=z5.snd
 let z7:=z6.snd.fst
 let z8:=z3.fst
 let z9:=z4.fst
 let z10:Nat:=List.length z9
 let z11:=z6.fst
 let z12:Nat:=List.length z11
 let z13:Bool:=decide (4<=z12)
 let z14:=z1.fst
 let z15:=z14.fst
 let z16:aa:= {w0:=List.getD z9 0 0,w1:=List.getD z9 1 0,w2:=List.getD z9 2 0,w3:=List.getD z9 3 0}
 let z17:aa:= {w0:=List.getD z11 0 0,w1:=List.getD z11 1 0,w2:=List.getD z11 2 0,w3:=List.getD z11 3 0}
 let z18:aa×PUnit:=(z17,())
 let z19:=z5.fst
 let z20:Nat:=List.length z19
 let z21:Bool:=cC ((z15,z17,z18),())
 let z22:aa:= {w0:=List.getD z19 0 0,w1:=List.getD z19 1 0,w2:=List.getD z19 2 0,w3:=List.getD z19 3 0}
 let z23:Nat:=pS z15
 let z24:aa:=bB z23 z17 z17
 let z25:Bool:=decide ((4/1:Nat)+0<=z12)
 let z26:Bool:=inR (z14.snd.snd.snd.snd.snd.snd.fst-(1:Int))
 let z27:=z2.fst
 let z28:aa:=bB z23 z16 z17
 let z29:aa:=bB z23 z22 z24
 let z30:List UInt64:=List.set (List.set (List.set (List.set z11 0 z24.w0) 1 z24.w1) 2 z24.w2) 3 z24.w3
 (.br (decide ((1:Int)<=a17))
 (gd [decide (4<=List.length c3),ok2 z0,decide (4<=List.length z7),decide (4<=List.length z8)] (.br (!(List.getD z7 0 0==List.getD z8 0 0&&(List.getD z7 1 0==List.getD z8 1 0&&(List.getD z7 2 0==List.getD z8 2 0&&(List.getD z7 3 0==List.getD z8 3 0&&true)))))
  (gd [decide (4<=z10),z13,cC ((z15,z16,z18),()),decide ((4/1:Nat)+0<=z10),decide (4<=z20),z13,z13,z21,cC ((z15,z22,z24,()),()),decide ((4/1:Nat)+0<=z20),z13,z13,z21,z25,z26] (.ok (.inl ((z15,((),((),((),((),((),(z14.snd.snd.snd.snd.snd.snd.fst-(1:Int),()))))))),(z27,(z8,(List.set (List.set (List.set (List.set z9 0 z28.w0) 1 z28.w1) 2 z28.w2) 3 z28.w3,(List.set (List.set (List.set (List.set z19 0 z29.w0) 1 z29.w1) 2 z29.w2) 3 z29.w3,(z30,())))))))))
  (gd [z13,z13,z21,z25,z26] (.ok (.inl ((z15,((),((),((),((),((),(z14.snd.snd.snd.snd.snd.snd.fst-(1:Int),()))))))),(z27,(z8,(z9,(z19,(z30,())))))))))))
 (.ok (.inr ⟨(.exit 0,qE),((a0,((),((),()))),(c0,(c2,())))⟩)))
def oA (ok2:bG->Bool) (g2_2:bG->eR) (s:cx):OT (Sum cx aE):=J8 ok2 g2_2 (s.1.1) (s.1.2.2.2.2.2.2.1) (s.2.1) (s.2.2.1) (s.2.2.2.1) (s.2.2.2.2.1) (s.2.2.2.2.2.1)
theorem atM (ok2:bG->Bool) (g2_2:bG->eR) (s:cx) (Q:Sum cx aE->Prop):wps te zN (aO 2 (cb sV 2 ok2 (Bi g2_2)) av) 1000 (aV (aj Tryz.f94) 0) (sW.inj s) (bV sW X0 (Q:Sum sW.T aE->Prop))=(oA ok2 g2_2 s).wpR Q:=by kernel_rfl
def Bj (g0_0:cx->jZ) (s:cx):OT aE:=(.ok ⟨(.exit 0,qE),g0_0 s⟩)
def fI:az:=⟨[.val true .elem,.val false .int],[],false⟩
def Qm:SV->Option az:=λ_=>some fI
def TM (ok2:bG->Bool) (g2_2:bG->eR) (ok0:cx->Bool) (g0_0:cx->jZ) (a0:Int) (a1:aa):OT gH.Y:=
 let z0:Int×PUnit:=(a0,())
 let z1:Nat:=pS a0
 let z2:aa:=ofP z1 a1
 let z3:aa:= {w0:=0,w1:=0,w2:=0,w3:=0}
 let z4:aa×Int×UInt64×UInt64×aa:=aY (Int.toNat a0)
 let z5:aa:= {w0:=1,w1:=0,w2:=0,w3:=0}
 let z6:aa:=(ef z4.fst z5).fst
 let z7:aa:=dq z6
 let z8:aa:=gD z1 z2 z7
 let z9:=z4.snd.fst
 let z10:aa:=dQ z6 (Int.toNat z9)
 let z11:aa:=dq (qk z10 z5).fst
 let z12:aa×PUnit:=(z10,())
 let z13:aa:= {w0:=5,w1:=0,w2:=0,w3:=0}
 let z14:aa:=gD z1 z2 z11
 let z15:aa:=gD z1 z2 z10
 let z16:aa:=gD z1 z13 z10
 let z17:(Int×PUnit×PUnit×PUnit×PUnit×PUnit×Int×PUnit)×List UInt64×List UInt64×List UInt64×List UInt64×List UInt64×PUnit:=((a0,(),(),(),(),(),z9-(1:Int),()),[(0:UInt64),(0:UInt64),(0:UInt64),(0:UInt64)],[(1:UInt64),(0:UInt64),(0:UInt64),(0:UInt64)],[z14.w0,z14.w1,z14.w2,z14.w3],[z15.w0,z15.w1,z15.w2,z15.w3],[z16.w0,z16.w1,z16.w2,z16.w3],())
 let z18:(Int×PUnit×PUnit×PUnit)×List UInt64×List UInt64×PUnit:=g0_0 z17
 let z19:=z18.snd
 let z20:=z19.snd.fst
 let z21:Nat:=List.length z20
 let z22:UInt64:=List.getD z20 0 0
 let z23:Bool:=decide (4<=z21)
 let z24:=z18.fst.fst
 let z25:aa:= {w0:=z22,w1:=List.getD z20 1 0,w2:=List.getD z20 2 0,w3:=List.getD z20 3 0}
 let z26:aa:=Ik (pS z24) z25
 let z27:List UInt64:=List.set (List.set (List.set (List.set z20 0 z26.w0) 1 z26.w1) 2 z26.w2) 3 z26.w3
 let z28:=z19.fst
 let z29:Nat:=List.length z28
 let z30:List UInt64:=lay z28 z27 4 (0:UInt64)
 let z31:List UInt64:=lay z28 z20 4 (0:UInt64)
 (gd [k8 (z0,()),ir ((a0,a1,()),())] (.br (z2.w0==(0:UInt64)&&(z2.w1==(0:UInt64)&&(z2.w2==(0:UInt64)&&(z2.w3==(0:UInt64)&&true))))
 (.ok ⟨fI,((z3,((0:Int),())),())⟩)
 (gd [lY ((a0,z2,z7,()),())] (.br (!(z8.w0==(1:UInt64)&&(z8.w1==(0:UInt64)&&(z8.w2==(0:UInt64)&&(z8.w3==(0:UInt64)&&true)))))
  (.ok ⟨fI,((z3,((22:Int),())),())⟩)
  (gd [EJ (z0,()),s5 ((z6,z9,()),()),lY ((a0,z2,z11,()),()),lY ((a0,z2,z12),()),lY ((a0,z13,z12),()),inR (z9-(1:Int)),ok0 z17,decide (0<z21)] (.br (z22%(2:UInt64)==(1:UInt64))
   (gd [z23,j1 ((z24,z25,()),()),decide ((4/1:Nat)+0<=z21),decide (4<=List.length z27),decide ((4/1:Nat)+0<=z29),decide (4<=List.length z30)] (.ok ⟨fI,(({w0:=List.getD z30 0 0,w1:=List.getD z30 1 0,w2:=List.getD z30 2 0,w3:=List.getD z30 3 0},((0:Int),())),())⟩))
   (gd [z23,decide ((4/1:Nat)+0<=z29),decide (4<=List.length z31)] (.ok ⟨fI,(({w0:=List.getD z31 0 0,w1:=List.getD z31 1 0,w2:=List.getD z31 2 0,w3:=List.getD z31 3 0},((0:Int),())),())⟩))))))))
theorem aAU (ok2:bG->Bool) (g2_2:bG->eR) (ok0:cx->Bool) (g0_0:cx->jZ) (x:Eu) (Q:gH.Y->Prop):wpf te zN (aO 0 (cb sW 0 ok0 (Bj g0_0)) av) 1000 Tryz.f94 (gH.inp.inj x).tm (gH.inp.inj x).hp (fnK gH Qm Q) (λ_ _=>False)=(TM ok2 g2_2 ok0 g0_0 (x.1.1) (x.1.2.1)).wpR Q:=by kernel_rfl
theorem adp (ok2:bG->Bool) (g2_2:bG->eR) (ok0:cx->Bool) (g0_0:cx->jZ) (h2:∀ s:bG,ok2 s=true->∃ m e,al (sX) m s=some e/\(Bi g2_2 s).run=some e) (h0:∀ s:cx,ok0 s=true->∃ m e,al (oA ok2 g2_2) m s=some e/\(Bj g0_0 s).run=some e) (pre:Eu->Bool) (F:Eu->OT gH.Y) (hF:∀ (x:Eu) oy,pre x=true->(F x).run=some oy->(TM ok2 g2_2 ok0 g0_0 (x.1.1) (x.1.2.1)).run=some oy):ac Tryz.prog 94 (gH.aH pre F):=
 aD aq pT zM (f:=94) (fn:=Tryz.f94) (c:=aj Tryz.f94) (by kernel_rfl) (by kernel_rfl) (by kernel_rfl) (S:=gH) (k:=0) (by kernel_rfl) (λR hR=>(aB (c:=(aj Tryz.f94)) (by kernel_rfl) (id:=0) (by kernel_rfl) (aS aq pT zM (sh:=sW) hR (xs:=X0) (aC (by kernel_rfl) (by kernel_rfl) hR) aK (aB (c:=(aV (aj Tryz.f94) 0)) (by kernel_rfl) (id:=2) (by kernel_rfl) (aS aq pT zM (sh:=sV) hR (xs:=XZ) (aC (by kernel_rfl) (by kernel_rfl) hR) aK af (n:=1000) (T:=sX) (λs Q=>atL s Q) (ok:=ok2) (f:=Bi g2_2) h2) af) (n:=1000) (T:=oA ok2 g2_2) (λs Q=>atM ok2 g2_2 s Q) (ok:=ok0) (f:=Bj g0_0) h0) af)) (n:=1000) (sel:=Qm) (λv o h=>by cases h;rfl) (pre:=pre) (F:=F) (T:=λx=>TM ok2 g2_2 ok0 g0_0 (x.1.1) (x.1.2.1)) (λx Q=>aAU ok2 g2_2 ok0 g0_0 x Q) hF
def eP:aa:=⟨1,0,0,0⟩
def sqN (p:Nat) (b:aa) (n:Nat):aa:=upto (λ_ e=>bB p e e) b n
def gT (s:bG):Bool:=ao s.1.1&&decide (s.1.2.2.2.2.2.2.2.2.1=1/\s.1.2.2.2.2.2.2.1<=1000/\s.2.2.2.2.2.2.1.length=4)
def lQ (s:bG):eR:=((s.1.1,(),(),(),(),(),s.1.2.2.2.2.2.2.1,(),()),(s.2.1,s.2.2.1,s.2.2.2.1,s.2.2.2.2.1,s.2.2.2.2.2.1,lst (sqN (pS s.1.1) (elemOf s.2.2.2.2.2.2.1) (s.1.2.2.2.2.2.2.1-1).toNat),()))
theorem atO:∀ s:bG,gT s=true->∃ m e,al sX m s=some e/\(Bi lQ s).run=some e:=by
 rintro ⟨⟨s,⟨⟩,⟨⟩,⟨⟩,⟨⟩,⟨⟩,i,⟨⟩,j,⟨⟩⟩,⟨c0,c1,c2,c3,c4,c5,⟨⟩⟩⟩ h
 simp only [gT,Bool.and_eq_true,decide_eq_true_eq] at h
 obtain ⟨hs,rfl,hi,hl⟩:=h
 obtain ⟨t,rfl⟩:∃ a,c5=lst a:=⟨elemOf c5,(aR hl).symm⟩
 have:=(aP (T:=sX) (λk t=>(((s,(),(),(),(),(),i,(),1+(k:Int),()),(c0,c1,c2,c3,c4,lst t,())):bG)) (λ_ e=>bB (pS s) e e)
  (λt=>(⟨(.exit 2,qD),((s,(),(),(),(),(),i,(),()),(c0,c1,c2,c3,c4,lst t,()))⟩:aE)) (i-1).toNat t (λ_ _=>True) trivial (λk t hk _=>⟨?_,trivial⟩) (λt _=> ?_)).1
 ·obtain ⟨m,hm⟩:=this
  exact ⟨m,_,hm,rfl⟩
 ·have e2:(1:Int)+(k:Int)+1=1+((k+1:Nat):Int):=by omega
  rw [<-e2]
  refine (OT.ap (decide_eq_true (by dsimp only;omega))).trans ((ah ?_).trans rfl)
  simp only [List.all_cons,List.all_nil,Bool.and_true,Bool.and_eq_true]
  exact ⟨rfl,rfl,hs,rfl,aI (by omega)⟩
 ·exact OT.ar (decide_eq_false (by dsimp only;omega))
abbrev Ton:Type:=aa×aa×aa
def yq (p m:Nat) (k:Nat) (w:Ton):Ton:=cond (eqE (sqN p w.2.1 (m-k-1)) eP) (w.1,w.2.1,bB p w.2.2 w.2.2) (bB p w.1 w.2.2,bB p w.2.1 (bB p w.2.2 w.2.2),bB p w.2.2 w.2.2)
def W6 (s:Int) (c0:List UInt64) (i:Int) (w:Ton):cx:=((s,(),(),(),(),(),i,()),(c0,lst eP,lst w.1,lst w.2.1,lst w.2.2,()))
theorem ayn {s:Int} (hs:ao s=true) (c0:List UInt64) {m k:Nat} (hm:m<=1000) (hk:k<m) (w:Ton):
 (oA gT lQ (W6 s c0 ((m:Int)-(k:Int)) w)).run=some (.inl (W6 s c0 ((m:Int)-((k+1:Nat):Int)) (yq (pS s) m k w))):=by
 obtain ⟨x,b,z⟩:=w
 have e2:(m:Int)-((k+1:Nat):Int)=(m:Int)-(k:Int)-1:=by omega
 have hi:inR ((m:Int)-(k:Int)-1)=true:=aI (by omega)
 have hk2:((m:Int)-(k:Int)-1).toNat=m-k-1:=by omega
 have hg:lQ ((s,(),(),(),(),(),(m:Int)-(k:Int),(),1,()),(c0,lst eP,lst x,lst b,lst z,lst b,()))=((s,(),(),(),(),(),(m:Int)-(k:Int),(),()),(c0,lst eP,lst x,lst b,lst z,lst (sqN (pS s) b (m-k-1)),())):=by
  show ((s,(),(),(),(),(),(m:Int)-(k:Int),(),()),(c0,lst eP,lst x,lst b,lst z,lst (sqN (pS s) b ((m:Int)-(k:Int)-1).toNat),()))=_
  rw [hk2]
 have hok:gT ((s,(),(),(),(),(),(m:Int)-(k:Int),(),1,()),(c0,lst eP,lst x,lst b,lst z,lst b,()))=true:=
  (Bool.and_eq_true _ _).mpr ⟨hs,decide_eq_true (p:=(1:Int)=1/\(m:Int)-(k:Int)<=1000/\(lst b).length=4) ⟨rfl,by omega,rfl⟩⟩
 have hb: [List.getD (lst b) 0 0,List.getD (lst b) 1 0,List.getD (lst b) 2 0,List.getD (lst b) 3 0]=lst b:=rfl
 have hpre:∀ x y,cC ((s,x,y,()),())=true:=λ_ _=>hs
 show (J8 gT lQ s ((m:Int)-(k:Int)) c0 (lst eP) (lst x) (lst b) (lst z)).run=_
 unfold J8
 simp only [hb,hg,hok]
 refine (OT.ap (decide_eq_true (by omega))).trans ((ah rfl).trans ?_)
 unfold yq
 dsimp only
 rw [e2]
 generalize sqN (pS s) b (m-k-1)=t
 rcases (Bool.eq_false_or_eq_true (eqE t eP)).symm with h|h
 ·refine (OT.ap (b:= !eqE t eP) (by rw [h];rfl)).trans ((ah ?_).trans ?_)
  ·simp only [aIz,aII,cA,hpre,hi,List.all_cons,List.all_nil,Bool.and_true,Bool.and_eq_true]
   exact ⟨rfl,rfl,trivial,rfl,rfl,rfl,rfl,trivial,trivial,rfl,rfl,rfl,trivial,rfl⟩
  ·rw [h]
   simp only [aIz,aII]
   rfl
 ·refine (OT.ar (b:= !eqE t eP) (by rw [h];rfl)).trans ((ah ?_).trans ?_)
  ·simp only [aIz,aII,cA,hpre,hi,List.all_cons,List.all_nil,Bool.and_true,Bool.and_eq_true]
   exact ⟨rfl,rfl,trivial,rfl⟩
  ·rw [h]
   simp only [aIz,aII]
   rfl
def ayo (p m:Nat) (w:Ton):Ton:=upto (yq p m) w m
def Et (s:cx):Bool:=ao s.1.1&&decide (0<=s.1.2.2.2.2.2.2.1/\s.1.2.2.2.2.2.2.1<=1000/\s.2.2.1= [1,0,0,0]/\s.2.2.2.1.length=4/\s.2.2.2.2.1.length=4/\s.2.2.2.2.2.1.length=4)
def J7 (s:cx):jZ:=((s.1.1,(),(),()),(s.2.1,lst (ayo (pS s.1.1) s.1.2.2.2.2.2.2.1.toNat (elemOf s.2.2.2.1,elemOf s.2.2.2.2.1,elemOf s.2.2.2.2.2.1)).1,()))
theorem atP:∀ s:cx,Et s=true->∃ m e,al (oA gT lQ) m s=some e/\(Bj J7 s).run=some e:=by
 rintro ⟨⟨s,⟨⟩,⟨⟩,⟨⟩,⟨⟩,⟨⟩,i,⟨⟩⟩,⟨c0,c1,c2,c3,c4,⟨⟩⟩⟩ h
 simp only [Et,Bool.and_eq_true,decide_eq_true_eq] at h
 obtain ⟨hs,h0,h1,rfl,h2,h3,h4⟩:=h
 obtain ⟨x,rfl⟩:∃ a,c2=lst a:=⟨elemOf c2,(aR h2).symm⟩
 obtain ⟨b,rfl⟩:∃ a,c3=lst a:=⟨elemOf c3,(aR h3).symm⟩
 obtain ⟨z,rfl⟩:∃ a,c4=lst a:=⟨elemOf c4,(aR h4).symm⟩
 obtain ⟨m,rfl⟩:∃ m:Nat,i=(m:Int):=⟨i.toNat,by omega⟩
 have:=(aP (T:=oA gT lQ) (λk w=>W6 s c0 ((m:Int)-(k:Int)) w) (yq (pS s) m)
  (λw=>(⟨(.exit 0,qE),((s,(),(),()),(c0,lst w.1,()))⟩:aE)) m (x,b,z) (λ_ _=>True) trivial (λk w hk _=>⟨ayn hs c0 (by omega) hk w,trivial⟩) (λw _=> ?_)).1
 ·obtain ⟨n,hn⟩:=this
  refine ⟨n,_,?_,rfl⟩
  have e:W6 s c0 ((m:Int)-((0:Nat):Int)) (x,b,z)=((s,(),(),(),(),(),(m:Int),()),(c0,[1,0,0,0],lst x,lst b,lst z,())):=by
   rw [show (m:Int)-((0:Nat):Int)=(m:Int) by omega]
   rfl
  rw [e] at hn
  exact hn
 ·exact OT.ar (decide_eq_false (by dsimp only [W6];omega))
def sH (s:Int) (a:aa):aa:=(ayo (pS s) ((aY s.toNat).2.1-1).toNat
 (gD (pS s) a (dq (qk (dQ (ef (aY s.toNat).1 eP).1 (aY s.toNat).2.1.toNat) eP).1),gD (pS s) a (dQ (ef (aY s.toNat).1 eP).1 (aY s.toNat).2.1.toNat),gD (pS s) ⟨5,0,0,0⟩ (dQ (ef (aY s.toNat).1 eP).1 (aY s.toNat).2.1.toNat))).1
def kV (p:Nat) (x:aa):aa:=cond (x.w0%2==1) (Ik p x) x
def oz (x:Eu):Bool:=ao x.1.1
def ajJ (x:Eu):OT gH.Y:=.br (bN (ofP (pS x.1.1) x.1.2.1)) (.ok ⟨fI,((⟨0,0,0,0⟩,((0:Int),())),())⟩)
 (.br (eqE (gD (pS x.1.1) (ofP (pS x.1.1) x.1.2.1) (dq (ef (aY x.1.1.toNat).1 eP).1)) eP) (.ok ⟨fI,((kV (pS x.1.1) (sH x.1.1 (ofP (pS x.1.1) x.1.2.1)),((0:Int),())),())⟩) (.ok ⟨fI,((⟨0,0,0,0⟩,((22:Int),())),())⟩))
theorem axU {s:Int} (hs:ao s=true):1<=(aY s.toNat).2.1/\(aY s.toNat).2.1<=32:=by
 rcases cn hs with rfl|rfl|rfl|rfl<;>decide
theorem atN:ac Tryz.prog 94 (gH.aH oz ajJ):=adp gT lQ Et J7 atO atP _ _ λx oy hp ho=>by
 rw [<-ho]
 clear ho
 obtain ⟨⟨s,a,⟨⟩⟩,⟨⟩⟩:=x
 have hs:ao s=true:=hp
 have had:=axU hs
 show _=(OT.br (bN (ofP (pS s) a)) (.ok ⟨fI,((⟨0,0,0,0⟩,((0:Int),())),())⟩) (.br (eqE (gD (pS s) (ofP (pS s) a) (dq (ef (aY s.toNat).1 eP).1)) eP) (.ok ⟨fI,((kV (pS s) (sH s (ofP (pS s) a)),((0:Int),())),())⟩) (.ok ⟨fI,((⟨0,0,0,0⟩,((22:Int),())),())⟩)):OT gH.Y).run
 refine (ah ?_).trans ?_
 ·simp only [List.all_cons,List.all_nil,Bool.and_true,Bool.and_eq_true]
  exact ⟨hs,hs⟩
 generalize hA:ofP (pS s) a=A
 rcases (Bool.eq_false_or_eq_true (bN A)).symm with hz|hz
 ·refine Eq.trans ?_ (OT.ar (b:=bN A) hz).symm
  refine (OT.ar hz).trans ((ah ?_).trans ?_)
  ·simp only [List.all_cons,List.all_nil,Bool.and_true]
   exact hs
  ·rcases (Bool.eq_false_or_eq_true (eqE (gD (pS s) A (dq (ef (aY s.toNat).1 eP).1)) eP)).symm with h1|h1
   ·refine Eq.trans ?_ (OT.ar h1).symm
    exact OT.ap (b:= !eqE (gD (pS s) A (dq (ef (aY s.toNat).1 eP).1)) eP) (by rw [h1];rfl)
   ·refine Eq.trans ?_ (OT.ap h1).symm
    refine (OT.ar (b:= !eqE (gD (pS s) A (dq (ef (aY s.toNat).1 eP).1)) eP) (by rw [h1];rfl)).trans ((ah ?_).trans ?_)
    ·simp only [List.all_cons,List.all_nil,Bool.and_true,Bool.and_eq_true]
     refine ⟨hs,decide_eq_true ⟨(by show 0<=(aY s.toNat).2.1;omega),(by show (aY s.toNat).2.1<=1000000;omega)⟩,hs,hs,hs,aI (by omega),(Bool.and_eq_true _ _).mpr ⟨hs,?_⟩,rfl⟩
     exact decide_eq_true ⟨(by show 0<=(aY s.toNat).2.1-1;omega),(by show (aY s.toNat).2.1-1<=1000;omega),rfl,rfl,rfl,rfl⟩
    ·have hg:∀ w x b z:aa,(J7 ((s,(),(),(),(),(),(aY s.toNat).2.1-1,()),([0,0,0,0],[1,0,0,0],[x.w0,x.w1,x.w2,x.w3],[b.w0,b.w1,b.w2,b.w3],[z.w0,z.w1,z.w2,z.w3],())))=((s,(),(),()),([0,0,0,0],lst (ayo (pS s) ((aY s.toNat).2.1-1).toNat (x,b,z)).1,())):=λ_ _ _ _=>rfl
     simp only [hg eP]
     have hR:(ayo (pS s) ((aY s.toNat).2.1-1).toNat (gD (pS s) A (dq (qk (dQ (ef (aY s.toNat).1 ⟨1,0,0,0⟩).1 (aY s.toNat).2.1.toNat) ⟨1,0,0,0⟩).1),gD (pS s) A (dQ (ef (aY s.toNat).1 ⟨1,0,0,0⟩).1 (aY s.toNat).2.1.toNat),gD (pS s) ⟨5,0,0,0⟩ (dQ (ef (aY s.toNat).1 ⟨1,0,0,0⟩).1 (aY s.toNat).2.1.toNat))).1=sH s A:=rfl
     simp only [hR]
     generalize sH s A=R
     rcases (Bool.eq_false_or_eq_true (R.w0%2==1)).symm with h2|h2
     ·have e:kV (pS s) R=R:=by unfold kV;rw [h2];rfl
      rw [e]
      exact (OT.ar h2).trans ((ah rfl).trans rfl)
     ·have e:kV (pS s) R=Ik (pS s) R:=by unfold kV;rw [h2];rfl
      rw [e]
      refine (OT.ap h2).trans ((ah ?_).trans rfl)
      simp only [List.all_cons,List.all_nil,Bool.and_true,Bool.and_eq_true]
      exact ⟨rfl,hs,rfl,rfl,rfl,rfl⟩
 ·exact (OT.ap hz).trans (OT.ap (b:=bN A) hz).symm
def yI:cf:=(gH.aH oz ajJ)
theorem X4:ac Tryz.prog 94 yI:=atN
theorem X3:aF yI:=aA
def C1:Env:=ay 94 yI zN
theorem zS:aQ Tryz.prog C1:=ag X4 pT
theorem C0:ax C1:=ae X3 Hv
theorem abG:aU Tryz.prog te C1:=aJ follows aq zS C0
def kl:aw:=⟨[.val false .int,.val false .int],[],true,0,false⟩
abbrev Qy:Type:=((Int)×(Int)×Unit)×(Unit)
def Bp:az:=⟨[.val true .elem],[],false⟩
def Yl:SV->Option az:=λ_=>some Bp
def adQ (a0:Int) (a1:Int):OT kl.Y:=
 let z0:UInt64:=i2u a1
 let z1:aa:= {w0:=z0,w1:=0,w2:=0,w3:=0}
 let z2:Nat:=pS a0
 let z3:aa:= {w0:=0-z0,w1:=0,w2:=0,w3:=0}
 (.br (decide ((0:Int)<=a1))
 (gd [ir ((a0,z1,()),())] (.ok ⟨Bp,((ofP z2 z1,()),())⟩))
 (gd [j1 ((a0,z3,()),())] (.ok ⟨Bp,((Ik z2 z3,()),())⟩)))
theorem aGF (x:Qy) (Q:kl.Y->Prop):wpf te C1 av 1000 Tryz.f108 (kl.inp.inj x).tm (kl.inp.inj x).hp (fnK kl Yl Q) (λ_ _=>False)=(adQ (x.1.1) (x.1.2.1)).wpR Q:=by kernel_rfl
theorem ani (pre:Qy->Bool) (F:Qy->OT kl.Y) (hF:∀ (x:Qy) oy,pre x=true->(F x).run=some oy->(adQ (x.1.1) (x.1.2.1)).run=some oy):ac Tryz.prog 108 (kl.aH pre F):=
 aD aq zS abG (f:=108) (fn:=Tryz.f108) (c:=aj Tryz.f108) (by kernel_rfl) (by kernel_rfl) (by kernel_rfl) (S:=kl) (k:=0) (by kernel_rfl) (λR hR=>af) (n:=1000) (sel:=Yl) (λv o h=>by cases h;rfl) (pre:=pre) (F:=F) (T:=λx=>adQ (x.1.1) (x.1.2.1)) (λx Q=>aGF x Q) hF
def aJJ (p:Nat) (n:Int):aa:=cond (decide (0<=n)) (ofP p ⟨i2u n,0,0,0⟩) (Ik p ⟨0-i2u n,0,0,0⟩)
def Kn (x:Qy):Bool:=ao x.1.1
def at8 (x:Qy):OT kl.Y:=.ok ⟨Bp,((aJJ (pS x.1.1) x.1.2.1,()),())⟩
theorem aA3:ac Tryz.prog 108 (kl.aH Kn at8):=ani _ _ λx oy hp ho=>by
 rw [<-ho]
 clear ho
 obtain ⟨⟨s,n,⟨⟩⟩,⟨⟩⟩:=x
 have hs:ao s=true:=hp
 show _=some (⟨Bp,((aJJ (pS s) n,()),())⟩:kl.Y)
 unfold aJJ
 rcases (Bool.eq_false_or_eq_true (decide ((0:Int)<=n))).symm with h|h
 ·rw [h]
  refine (OT.ar h).trans ((ah ?_).trans rfl)
  simp only [List.all_cons,List.all_nil,Bool.and_true]
  exact hs
 ·rw [h]
  refine (OT.ap h).trans ((ah ?_).trans rfl)
  simp only [List.all_cons,List.all_nil,Bool.and_true]
  exact hs
def ED:cf:=(kl.aH Kn at8)
theorem adP:ac Tryz.prog 108 ED:=aA3
theorem adO:aF ED:=aA
def Gj:Env:=ay 108 ED C1
theorem xn:aQ Tryz.prog Gj:=ag adP zS
theorem HF:ax Gj:=ae adO C0
theorem NR:aU Tryz.prog te Gj:=aJ follows aq xn HF
def im:aw:=⟨[.val false .int,.val false .int],[],true,0,false⟩
abbrev El:Type:=((Int)×(Int)×Unit)×(Unit)
def sU:Shape:=⟨38,[(0,.val false .int),(1,.val false .int),(4,.ptr 0 0 0)],[(0,.cells [.val false .u64,.val false .u64,.val false .u64,.val false .u64,.val false .u64,.val false .u64,.val false .u64,.val false .u64,.val false .bool])],0,true⟩
abbrev cl:Type:=((Int)×(Int)×(Unit)×Unit)×(((UInt64)×(UInt64)×(UInt64)×(UInt64)×(UInt64)×(UInt64)×(UInt64)×(UInt64)×(Bool)×Unit)×Unit)
def jv:Shape:=⟨38,[(4,.ptr 0 0 0)],[(0,.cells [.val false .u64,.val false .u64,.val false .u64,.val false .u64,.val false .u64,.val false .u64,.val false .u64,.val false .u64,.val false .bool])],0,true⟩
abbrev jX:Type:=((Unit)×Unit)×(((UInt64)×(UInt64)×(UInt64)×(UInt64)×(UInt64)×(UInt64)×(UInt64)×(UInt64)×(Bool)×Unit)×Unit)
def XI:SE->Option Shape:=fp [] (some jv)
def atx (a0:Int) (a1:Int) (c0_0:UInt64) (c0_1:UInt64) (c0_2:UInt64) (c0_3:UInt64) (c0_4:UInt64) (c0_5:UInt64) (c0_6:UInt64) (c0_7:UInt64) (c0_8:Bool):OT (Sum cl aE):=
 let z0:Nat:=pS a0
 let z1:aa:=aJJ z0 a1
 let z2:aa:=xF z0 z1 (bS a0)
 let z3:aa:=ofP z0 z2
 let z4:Bool:=inR (a1+(1:Int))
 let z5:aa:=kV z0 (sH a0 z3)
 let z6:=z5.w0
 let z7:=z5.w1
 let z8:=z5.w2
 let z9:=z5.w3
 let z10:=z1.w0
 let z11:=z1.w1
 let z12:=z1.w2
 let z13:=z1.w3
 (gd [Kn ((a0,a1,()),()),kZ ((a0,z1,()),()),oz ((a0,z2,()),())] (.br (bN z3)
 (gd [z4] (.ok (.inl ((a0,(a1+(1:Int),((),()))),((c0_0,(c0_1,(c0_2,(c0_3,(c0_4,(c0_5,(c0_6,(c0_7,(c0_8,()))))))))),())))))
 (.br (eqE (gD z0 z3 (dq (ef (aY (Int.toNat a0)).fst eP).fst)) eP)
  (.br (!(z6==(0:UInt64)&&(z7==(0:UInt64)&&(z8==(0:UInt64)&&(z9==(0:UInt64)&&true)))))
   (.br (!(z10==(0:UInt64)&&(z11==(0:UInt64)&&(z12==(0:UInt64)&&(z13==(0:UInt64)&&true)))))
    (.ok (.inr ⟨(.ret,jv),(((),()),((z10,(z11,(z12,(z13,(z6,(z7,(z8,(z9,(false,()))))))))),()))⟩))
    (gd [z4] (.ok (.inl ((a0,(a1+(1:Int),((),()))),((c0_0,(c0_1,(c0_2,(c0_3,(c0_4,(c0_5,(c0_6,(c0_7,(c0_8,()))))))))),()))))))
   (gd [z4] (.ok (.inl ((a0,(a1+(1:Int),((),()))),((c0_0,(c0_1,(c0_2,(c0_3,(c0_4,(c0_5,(c0_6,(c0_7,(c0_8,()))))))))),()))))))
  (gd [z4] (.ok (.inl ((a0,(a1+(1:Int),((),()))),((c0_0,(c0_1,(c0_2,(c0_3,(c0_4,(c0_5,(c0_6,(c0_7,(c0_8,()))))))))),()))))))))
def ot (s:cl):OT (Sum cl aE):=atx (s.1.1) (s.1.2.1) (s.2.1.1) (s.2.1.2.1) (s.2.1.2.2.1) (s.2.1.2.2.2.1) (s.2.1.2.2.2.2.1) (s.2.1.2.2.2.2.2.1) (s.2.1.2.2.2.2.2.2.1) (s.2.1.2.2.2.2.2.2.2.1) (s.2.1.2.2.2.2.2.2.2.2.1)
theorem atu (s:cl) (Q:Sum cl aE->Prop):wps te Gj av 1000 (aV (aj Tryz.f65) 0) (sU.inj s) (bV sU XI (Q:Sum sU.T aE->Prop))=(ot s).wpR Q:=by kernel_rfl
def A9 (g0_r:cl->jX) (s:cl):OT aE:=(.ok ⟨(.ret,jv),g0_r s⟩)
def JY:az:=⟨[.val true (.prod .elem (.prod .elem .bool))],[],false⟩
def Qd:SV->Option az:=λ_=>some JY
def TC (ok0:cl->Bool) (g0_r:cl->jX) (a0:Int) (a1:Int):OT im.Y:=
 let z0:(Int×Int×PUnit×PUnit)×(UInt64×UInt64×UInt64×UInt64×UInt64×UInt64×UInt64×UInt64×Bool×PUnit)×PUnit:=((a0,a1,(),()),((0:UInt64),(0:UInt64),(0:UInt64),(0:UInt64),(0:UInt64),(0:UInt64),(0:UInt64),(0:UInt64),false,()),())
 let z1:=(g0_r z0).snd.fst
 let z2:=z1.snd
 let z3:=z2.snd
 let z4:=z3.snd
 let z5:=z4.snd
 let z6:=z5.snd
 let z7:=z6.snd
 let z8:=z7.snd
 (gd [ok0 z0] (.ok ⟨JY,((({w0:=z1.fst,w1:=z2.fst,w2:=z3.fst,w3:=z4.fst},{w0:=z5.fst,w1:=z6.fst,w2:=z7.fst,w3:=z8.fst},z8.snd.fst),()),())⟩))
theorem aAG (ok0:cl->Bool) (g0_r:cl->jX) (x:El) (Q:im.Y->Prop):wpf te Gj (aO 0 (cb sU 0 ok0 (A9 g0_r)) av) 1000 Tryz.f65 (im.inp.inj x).tm (im.inp.inj x).hp (fnK im Qd Q) (λ_ _=>False)=(TC ok0 g0_r (x.1.1) (x.1.2.1)).wpR Q:=by kernel_rfl
theorem ac6 (ok0:cl->Bool) (g0_r:cl->jX) (h0:∀ s:cl,ok0 s=true->∃ m e,al (ot) m s=some e/\(A9 g0_r s).run=some e) (pre:El->Bool) (F:El->OT im.Y) (hF:∀ (x:El) oy,pre x=true->(F x).run=some oy->(TC ok0 g0_r (x.1.1) (x.1.2.1)).run=some oy):ac Tryz.prog 65 (im.aH pre F):=
 aD aq xn NR (f:=65) (fn:=Tryz.f65) (c:=aj Tryz.f65) (by kernel_rfl) (by kernel_rfl) (by kernel_rfl) (S:=im) (k:=0) (by kernel_rfl) (λR hR=>(aB (c:=(aj Tryz.f65)) (by kernel_rfl) (id:=0) (by kernel_rfl) (aS aq xn NR (sh:=sU) hR (xs:=XI) (aC (by kernel_rfl) (by kernel_rfl) hR) aK af (n:=1000) (T:=ot) (λs Q=>atu s Q) (ok:=ok0) (f:=A9 g0_r) h0) af)) (n:=1000) (sel:=Qd) (λv o h=>by cases h;rfl) (pre:=pre) (F:=F) (T:=λx=>TC ok0 g0_r (x.1.1) (x.1.2.1)) (λx Q=>aAG ok0 g0_r x Q) hF
def amC (s n:Int):aa:=aJJ (pS s) n
def acE (s n:Int):aa:=ofP (pS s) (xF (pS s) (amC s n) (bS s))
def asI (s n:Int):aa:=kV (pS s) (sH s (acE s n))
def Ta (s n:Int):Option Pt:=cond (bN (acE s n)) none (cond (eqE (gD (pS s) (acE s n) (dq (ef (aY s.toNat).1 eP).1)) eP)
 (cond (bN (asI s n)) none (cond (bN (amC s n)) none (some (amC s n,asI s n,false)))) none)
def qt (s:Int):Nat->Int->Option Pt
 |0,_=>none
 |k+1,n=>match Ta s n with
  |some P=>some P
  |none=>qt s k (n+1)
def acD (s n:Int) (c:C9):cl:=((s,n,(),()),(c,()))
theorem asH {s n:Int} (hs:ao s=true) (h0:0<=n) (h1:n<=1000000) (c:C9):
 (ot (acD s n c)).run=match Ta s n with
  |some P=>some (.inr ⟨(.ret,jv),(((),()),(bE P,()))⟩)
  |none=>some (.inl (acD s (n+1) c)):=by
 have hi:inR (n+1)=true:=aI (by omega)
 have hgd:∀ z:OT (Sum cl aE),(gd [inR (n+1)] z).run=z.run:=λz=>ah (by simp only [hi,List.all_cons,List.all_nil,Bool.and_true])
 refine (ah (by simp only [List.all_cons,List.all_nil,Bool.and_true,Bool.and_eq_true];exact ⟨hs,hs,hs⟩)).trans ?_
 unfold Ta
 rcases (Bool.eq_false_or_eq_true (bN (acE s n))).symm with h1|h1
 ·refine (OT.ar (b:=bN (acE s n)) h1).trans ?_
  rcases (Bool.eq_false_or_eq_true (eqE (gD (pS s) (acE s n) (dq (ef (aY s.toNat).1 eP).1)) eP)).symm with h2|h2
  ·rw [h1,h2]
   exact (OT.ar h2).trans (hgd _)
  ·refine (OT.ap h2).trans ?_
   rcases (Bool.eq_false_or_eq_true (bN (asI s n))).symm with h3|h3
   ·refine (OT.ap (b:= !bN (asI s n)) (by rw [h3];rfl)).trans ?_
    rcases (Bool.eq_false_or_eq_true (bN (amC s n))).symm with h4|h4
    ·rw [h1,h2,h3,h4]
     exact OT.ap (b:= !bN (amC s n)) (by rw [h4];rfl)
    ·rw [h1,h2,h3,h4]
     exact (OT.ar (b:= !bN (amC s n)) (by rw [h4];rfl)).trans (hgd _)
   ·rw [h1,h2,h3]
    exact (OT.ar (b:= !bN (asI s n)) (by rw [h3];rfl)).trans (hgd _)
 ·rw [h1]
  exact (OT.ap (b:=bN (acE s n)) h1).trans (hgd _)
theorem Xd {s:Int} (hs:ao s=true) (c:C9) {P:Pt}:∀ (k:Nat) (n:Int),0<=n->n+k<=1000000->qt s k n=some P->
 ∃ m,al ot m (acD s n c)=some ⟨(.ret,jv),(((),()),(bE P,()))⟩
 |0,_,_,_,h=>by cases h
 |k+1,n,h0,h1,h=>by
  have hst:=asH hs h0 (by omega) c
  unfold qt at h
  cases ho:Ta s n with
  |some Q=>
   rw [ho] at h hst
   obtain rfl:=Option.some.inj h
   exact ⟨1,aM hst⟩
  |none=>
   rw [ho] at h hst
   obtain ⟨m,hm⟩:=Xd hs c k (n+1) (by omega) (by omega) h
   exact ⟨m+1,aG hst hm⟩
def AG:Nat:=2000
def Ek (s:cl):Bool:=ao s.1.1&&decide (0<=s.1.2.1/\s.1.2.1<=2000)&&(qt s.1.1 AG s.1.2.1).isSome
def aDw (s n:Int):Pt:=(qt s AG n).getD bD
def XL (s:cl):jX:=(((),()),(bE (aDw s.1.1 s.1.2.1),()))
theorem atw:∀ s:cl,Ek s=true->∃ m e,al ot m s=some e/\(A9 XL s).run=some e:=by
 rintro ⟨⟨s,n,⟨⟩,⟨⟩⟩,⟨c,⟨⟩⟩⟩ h
 simp only [Ek,Bool.and_eq_true,decide_eq_true_eq] at h
 obtain ⟨⟨hs,h0,h1⟩,h2⟩:=h
 obtain ⟨P,hP⟩:=Option.isSome_iff_exists.1 h2
 obtain ⟨m,hm⟩:=Xd hs c AG n h0 (by show n+((2000:Nat):Int)<=_;omega) hP
 refine ⟨m,_,hm,?_⟩
 show some (⟨(.ret,jv),(((),()),(bE ((qt s AG n).getD bD),()))⟩:aE)=_
 rw [hP]
 rfl
def Qe (x:El):Bool:=ao x.1.1&&decide (0<=x.1.2.1/\x.1.2.1<=2000)&&(qt x.1.1 AG x.1.2.1).isSome
def ajA (x:El):OT im.Y:=.ok ⟨JY,((aDw x.1.1 x.1.2.1,()),())⟩
theorem atv:ac Tryz.prog 65 (im.aH Qe ajA):=ac6 Ek XL atw _ _ λx oy hp ho=>by
 rw [<-ho]
 clear ho
 obtain ⟨⟨s,n,⟨⟩⟩,⟨⟩⟩:=x
 refine (ah ?_).trans rfl
 simp only [List.all_cons,List.all_nil,Bool.and_true]
 exact hp
def yF:cf:=(im.aH Qe ajA)
theorem XK:ac Tryz.prog 65 yF:=atv
theorem XJ:aF yF:=aA
def CV:Env:=ay 65 yF Gj
theorem zL:aQ Tryz.prog CV:=ag XK xn
theorem CU:ax CV:=ae XJ HF
theorem abC:aU Tryz.prog te CV:=aJ follows aq zL CU
def lA:aw:=⟨[.val false (.list .u8)],[],true,0,false⟩
abbrev PU:Type:=((List (UInt8))×Unit)×(Unit)
def S6:az:=⟨[.own 0],[(0,.row .u8)],false⟩
def W5:SV->Option az:=λ_=>some S6
def acw (a0:List (UInt8)):OT lA.Y:=
 (gd [decide ((0+List.length a0)*1<=140737488355328)] (.ok ⟨S6,(((),()),([]++a0,()))⟩))
theorem aEw (x:PU) (Q:lA.Y->Prop):wpf te CV av 1000 Tryz.f32 (lA.inp.inj x).tm (lA.inp.inj x).hp (fnK lA W5 Q) (λ_ _=>False)=(acw (x.1.1)).wpR Q:=by kernel_rfl
theorem amy (pre:PU->Bool) (F:PU->OT lA.Y) (hF:∀ (x:PU) oy,pre x=true->(F x).run=some oy->(acw (x.1.1)).run=some oy):ac Tryz.prog 32 (lA.aH pre F):=
 aD aq zL abC (f:=32) (fn:=Tryz.f32) (c:=aj Tryz.f32) (by kernel_rfl) (by kernel_rfl) (by kernel_rfl) (S:=lA) (k:=0) (by kernel_rfl) (λR hR=>af) (n:=1000) (sel:=W5) (λv o h=>by cases h;rfl) (pre:=pre) (F:=F) (T:=λx=>acw (x.1.1)) (λx Q=>aEw x Q) hF
def oc (x:PU):Bool:=decide (x.1.1.length<=140737488355328)
def arb (x:PU):OT lA.Y:=.ok ⟨S6,(((),()),(x.1.1,()))⟩
theorem aym:ac Tryz.prog 32 (lA.aH oc arb):=amy _ _ λx oy hp ho=>by
 rw [<-ho]
 have hp':x.1.1.length<=140737488355328:=of_decide_eq_true hp
 refine (ah ?_).trans rfl
 simp only [List.all_cons,List.all_nil,Bool.and_true]
 exact decide_eq_true (by omega)
def D3:cf:=(lA.aH oc arb)
theorem acv:ac Tryz.prog 32 D3:=aym
theorem acu:aF D3:=aA
def F6:Env:=ay 32 D3 CV
theorem xk:aQ Tryz.prog F6:=ag acv zL
theorem Ho:ax F6:=ae acu CU
theorem Nv:aU Tryz.prog te F6:=aJ follows aq xk Ho
def ic:aw:=⟨[.val false (.list .u8)],[],true,0,false⟩
abbrev D1:Type:=((List (UInt8))×Unit)×(Unit)
def sw:Shape:=⟨18,[(3,.own 0),(4,.val false .int)],[(0,.row .u8)],0,true⟩
abbrev cr:Type:=((Unit)×(Int)×Unit)×((List (UInt8))×Unit)
def qo:Shape:=⟨18,[(3,.own 0)],[(0,.row .u8)],0,true⟩
abbrev jQ:Type:=((Unit)×Unit)×((List (UInt8))×Unit)
def WX:SE->Option Shape:=fp [(0,qo)] none
def aq9 (a4:Int) (c0:List (UInt8)):OT (Sum cr aE):=
 (.br (decide (a4<(8:Int)))
 (gd [inR ((201:Int)+a4),decide ((List.length c0+1)*1<=140737488355328),inR (a4+(1:Int))] (.ok (.inl (((),(a4+(1:Int),())),(c0++ [i2b ((201:Int)+a4)],())))))
 (.ok (.inr ⟨(.exit 0,qo),(((),()),(c0,()))⟩)))
def sy (s:cr):OT (Sum cr aE):=aq9 (s.1.2.1) (s.2.1)
theorem aq6 (s:cr) (Q:Sum cr aE->Prop):wps te F6 av 1000 (aV (aj Tryz.f12) 0) (sw.inj s) (bV sw WX (Q:Sum sw.T aE->Prop))=(sy s).wpR Q:=by kernel_rfl
def Au (g0_0:cr->jQ) (s:cr):OT aE:=(.ok ⟨(.exit 0,qo),g0_0 s⟩)
def Jw:az:=⟨[.own 0],[(0,.row .u8)],false⟩
def PQ:SV->Option az:=λ_=>some Jw
def S5 (ok0:cr->Bool) (g0_0:cr->jQ) (a0:List (UInt8)):OT ic.Y:=
 let z0:(PUnit×Int×PUnit)×List UInt8×PUnit:=(((),(0:Int),()),a0,())
 (gd [oc ((a0,()),()),ok0 z0] (.ok ⟨Jw,(((),()),((g0_0 z0).snd.fst,()))⟩))
theorem ayh (ok0:cr->Bool) (g0_0:cr->jQ) (x:D1) (Q:ic.Y->Prop):wpf te F6 (aO 0 (cb sw 0 ok0 (Au g0_0)) av) 1000 Tryz.f12 (ic.inp.inj x).tm (ic.inp.inj x).hp (fnK ic PQ Q) (λ_ _=>False)=(S5 ok0 g0_0 (x.1.1)).wpR Q:=by kernel_rfl
theorem aco (ok0:cr->Bool) (g0_0:cr->jQ) (h0:∀ s:cr,ok0 s=true->∃ m e,al (sy) m s=some e/\(Au g0_0 s).run=some e) (pre:D1->Bool) (F:D1->OT ic.Y) (hF:∀ (x:D1) oy,pre x=true->(F x).run=some oy->(S5 ok0 g0_0 (x.1.1)).run=some oy):ac Tryz.prog 12 (ic.aH pre F):=
 aD aq xk Nv (f:=12) (fn:=Tryz.f12) (c:=aj Tryz.f12) (by kernel_rfl) (by kernel_rfl) (by kernel_rfl) (S:=ic) (k:=0) (by kernel_rfl) (λR hR=>(aB (c:=(aj Tryz.f12)) (by kernel_rfl) (id:=0) (by kernel_rfl) (aS aq xk Nv (sh:=sw) hR (xs:=WX) (aC (by kernel_rfl) (by kernel_rfl) hR) aK af (n:=1000) (T:=sy) (λs Q=>aq6 s Q) (ok:=ok0) (f:=Au g0_0) h0) af)) (n:=1000) (sel:=PQ) (λv o h=>by cases h;rfl) (pre:=pre) (F:=F) (T:=λx=>S5 ok0 g0_0 (x.1.1)) (λx Q=>ayh ok0 g0_0 x Q) hF
def yv (b:List UInt8):List UInt8:=upto (λk l=>l++ [i2b (201+(k:Int))]) b 8
def PR (s:cr):Bool:=decide (s.1.2.1=0/\s.2.1.length<=140737488355320)
def W0 (s:cr):jQ:=(((),()),(yv s.2.1,()))
theorem aq8:∀ s:cr,PR s=true->∃ m e,al sy m s=some e/\(Au W0 s).run=some e:=by
 rintro ⟨⟨⟨⟩,i,⟨⟩⟩,⟨b,⟨⟩⟩⟩ h
 have h':=of_decide_eq_true h
 dsimp only at h'
 obtain ⟨rfl,hl⟩:=h'
 have:=(aP (T:=sy) (λi l=>((((),(i:Int),()),(l,())):cr)) (λk l=>l++ [i2b (201+(k:Int))])
  (λl=>(⟨(.exit 0,qo),(((),()),(l,()))⟩:aE)) 8 b (λk l=>l.length=b.length+k) rfl (λi l hi hl'=>⟨?_,by simp [hl'];omega⟩) (λl hl'=> ?_)).1
 ·obtain ⟨m,hm⟩:=this
  exact ⟨m,_,hm,rfl⟩
 ·refine (OT.ap (decide_eq_true (by dsimp only;omega))).trans ((ah ?_).trans rfl)
  simp only [hl',List.all_cons,List.all_nil,Bool.and_true,Bool.and_eq_true]
  exact ⟨aI (by omega),decide_eq_true (by omega),aI (by omega)⟩
 ·exact OT.ar (decide_eq_false (by dsimp only;omega))
def D0 (x:D1):Bool:=decide (x.1.1.length<=140737488355320)
def ahd (x:D1):OT ic.Y:=.ok ⟨Jw,(((),()),(yv x.1.1,()))⟩
theorem aq7:ac Tryz.prog 12 (ic.aH D0 ahd):=aco PR W0 aq8 _ _ λx oy hp ho=>by
 rw [<-ho]
 have hp':x.1.1.length<=140737488355320:=of_decide_eq_true hp
 refine (ah ?_).trans rfl
 simp only [List.all_cons,List.all_nil,Bool.and_true,Bool.and_eq_true]
 exact ⟨decide_eq_true (show x.1.1.length<=140737488355328 by omega),decide_eq_true ⟨rfl,hp'⟩⟩
def yp:cf:=(ic.aH D0 ahd)
theorem WZ:ac Tryz.prog 12 yp:=aq7
theorem WY:aF yp:=aA
def xi:Env:=ay 12 yp F6
theorem rH:aQ Tryz.prog xi:=ag WZ xk
theorem CP:ax xi:=ae WY Ho
theorem Hm:aU Tryz.prog te xi:=aJ follows aq rH CP
def lu:aw:=⟨[.val false (.list .u8),.val false (.list .u8)],[],true,0,false⟩
abbrev PT:Type:=((List (UInt8))×(List (UInt8))×Unit)×(Unit)
def Av:Shape:=⟨26,[(0,.val false (.list .u8)),(1,.val false (.list .u8)),(5,.val false .int)],[],0,true⟩
abbrev bJ:Type:=((List (UInt8))×(List (UInt8))×(Int)×Unit)×(Unit)
def vj:Shape:=⟨26,[(4,.val false .bool)],[],0,true⟩
abbrev lp:Type:=((Bool)×Unit)×(Unit)
def vk:Shape:=⟨26,[],[],0,true⟩
abbrev lq:Type:=(Unit)×(Unit)
def ahe:SE->Option Shape:=fp [(0,vk)] (some vj)
def ayl (a0:List (UInt8)) (a1:List (UInt8)) (a5:Int):OT (Sum bJ aE):=
 let z0:Nat:=List.length a0
 let z1:Nat:=Int.toNat a5
 (.br (decide (a5<(↑z0:Int)))
 (gd [inB a5 z0,inB a5 (List.length a1)] (.br (!List.getD a0 z1 (0:UInt8)==List.getD a1 z1 (0:UInt8))
  (.ok (.inr ⟨(.ret,vj),((false,()),())⟩))
  (gd [inR (a5+(1:Int))] (.ok (.inl ((a0,(a1,(a5+(1:Int),()))),()))))))
 (.ok (.inr ⟨(.exit 0,vk),((),())⟩)))
def Ay (s:bJ):OT (Sum bJ aE):=ayl (s.1.1) (s.1.2.1) (s.1.2.2.1)
theorem ayi (s:bJ) (Q:Sum bJ aE->Prop):wps te xi av 1000 (aV (aj Tryz.f27) 0) (Av.inj s) (bV Av ahe (Q:Sum Av.T aE->Prop))=(Ay s).wpR Q:=by kernel_rfl
def vi (g0_r:bJ->lp) (c0_r:bJ->Bool) (g0_0:bJ->lq) (s:bJ):OT aE:=(.br (c0_r s) (.ok ⟨(.ret,vj),g0_r s⟩) (.ok ⟨(.exit 0,vk),g0_0 s⟩))
def Ax:az:=⟨[.val false .bool],[],false⟩
def W1:SV->Option az:=λ_=>some Ax
def acr (ok0:bJ->Bool) (g0_r:bJ->lp) (c0_r:bJ->Bool) (g0_0:bJ->lq) (a0:List (UInt8)) (a1:List (UInt8)):OT lu.Y:=
 let z0:(List UInt8×List UInt8×Int×PUnit)×PUnit:=((a0,a1,(0:Int),()),())
 (.br (!(↑(List.length a0):Int)==(↑(List.length a1):Int))
 (.ok ⟨Ax,((false,()),())⟩)
 (gd [ok0 z0] (.br (c0_r z0)
  (.ok ⟨Ax,(((g0_r z0).fst.fst,()),())⟩)
  (.ok ⟨Ax,((true,()),())⟩))))
theorem aEu (ok0:bJ->Bool) (g0_r:bJ->lp) (c0_r:bJ->Bool) (g0_0:bJ->lq) (x:PT) (Q:lu.Y->Prop):wpf te xi (aO 0 (cb Av 0 ok0 (vi g0_r c0_r g0_0)) av) 1000 Tryz.f27 (lu.inp.inj x).tm (lu.inp.inj x).hp (fnK lu W1 Q) (λ_ _=>False)=(acr ok0 g0_r c0_r g0_0 (x.1.1) (x.1.2.1)).wpR Q:=by kernel_rfl
theorem amu (ok0:bJ->Bool) (g0_r:bJ->lp) (c0_r:bJ->Bool) (g0_0:bJ->lq) (h0:∀ s:bJ,ok0 s=true->∃ m e,al (Ay) m s=some e/\(vi g0_r c0_r g0_0 s).run=some e) (pre:PT->Bool) (F:PT->OT lu.Y) (hF:∀ (x:PT) oy,pre x=true->(F x).run=some oy->(acr ok0 g0_r c0_r g0_0 (x.1.1) (x.1.2.1)).run=some oy):ac Tryz.prog 27 (lu.aH pre F):=
 aD aq rH Hm (f:=27) (fn:=Tryz.f27) (c:=aj Tryz.f27) (by kernel_rfl) (by kernel_rfl) (by kernel_rfl) (S:=lu) (k:=0) (by kernel_rfl) (λR hR=>(aB (c:=(aj Tryz.f27)) (by kernel_rfl) (id:=0) (by kernel_rfl) (aS aq rH Hm (sh:=Av) hR (xs:=ahe) (aC (by kernel_rfl) (by kernel_rfl) hR) aK af (n:=1000) (T:=Ay) (λs Q=>ayi s Q) (ok:=ok0) (f:=vi g0_r c0_r g0_0) h0) af)) (n:=1000) (sel:=W1) (λv o h=>by cases h;rfl) (pre:=pre) (F:=F) (T:=λx=>acr ok0 g0_r c0_r g0_0 (x.1.1) (x.1.2.1)) (λx Q=>aEu ok0 g0_r c0_r g0_0 x Q) hF
def W2 (s:bJ):Bool:=decide (s.1.2.2.1=0/\s.1.1.length=s.1.2.1.length/\s.1.1.length<=140737488355328)
def W3 (_:bJ):lp:=((false,()),())
def vl (s:bJ):Bool:= !decide (s.1.1=s.1.2.1)
def ahf (_:bJ):lq:=((),())
theorem PS {a b:List UInt8} (hab:a.length=b.length) (hl:a.length<=140737488355328):∀ d i,i+d=a.length->
 ∃ m,al Ay m ((a,b,(i:Int),()),())=some (cond (decide (a.drop i=b.drop i)) ⟨(.exit 0,vk),((),())⟩ ⟨(.ret,vj),((false,()),())⟩)
 |0,i,h=>by
  refine ⟨1,?_⟩
  have h1:a.drop i= []:=List.drop_eq_nil_of_le (by omega)
  have h2:b.drop i= []:=List.drop_eq_nil_of_le (by omega)
  rw [h1,h2,decide_eq_true rfl]
  exact aM (OT.ar (decide_eq_false (by dsimp only;omega)))
 |d+1,i,h=>by
  have hi:i<a.length:=by omega
  have hi':i<b.length:=by omega
  have e1:a.drop i=a[i]::a.drop (i+1):=List.drop_eq_getElem_cons hi
  have e2:b.drop i=b[i]::b.drop (i+1):=List.drop_eq_getElem_cons hi'
  have g1:a.getD i 0=a[i]:=by simp [List.getD_eq_getElem?_getD,hi]
  have g2:b.getD i 0=b[i]:=by simp [List.getD_eq_getElem?_getD,hi']
  have hg:∀ x:OT (Sum bJ aE),(gd [inB (i:Int) a.length,inB (i:Int) b.length] x).run=x.run:=λx=>ah (by simp only [List.all_cons,List.all_nil,Bool.and_true,Bool.and_eq_true];exact ⟨aN (by omega),aN (by omega)⟩)
  by_cases hx:a[i]=b[i]
  ·obtain ⟨m,hm⟩:=PS hab hl d (i+1) (by omega)
   refine ⟨m+1,aG (s':=((a,b,((i+1:Nat):Int),()),())) ?_ ?_⟩
   ·refine (OT.ap (decide_eq_true (by dsimp only;omega))).trans ((hg _).trans ((OT.ar ?_).trans ((ah ?_).trans rfl)))
    ·simp only [Int.toNat_natCast,g1,g2,hx]
     simp
    ·simp only [List.all_cons,List.all_nil,Bool.and_true]
     exact aI (by omega)
   ·rw [hm,e1,e2,hx]
    simp only [List.cons.injEq,true_and]
  ·refine ⟨1,?_⟩
   have:decide (a.drop i=b.drop i)=false:=decide_eq_false (by rw [e1,e2];intro h;exact hx (List.cons.inj h).1)
   rw [this]
   refine aM ((OT.ap (decide_eq_true (by dsimp only;omega))).trans ((hg _).trans ((OT.ap ?_).trans rfl)))
   simp only [Int.toNat_natCast,g1,g2]
   simp [hx]
theorem ayk:∀ s:bJ,W2 s=true->∃ m e,al Ay m s=some e/\(vi W3 vl ahf s).run=some e:=by
 rintro ⟨⟨a,b,i,⟨⟩⟩,⟨⟩⟩ h
 have h':=of_decide_eq_true h
 dsimp only at h'
 obtain ⟨rfl,hab,hl⟩:=h'
 obtain ⟨m,hm⟩:=PS hab hl a.length 0 (by omega)
 refine ⟨m,_,hm,?_⟩
 simp only [List.drop_zero]
 by_cases hx:a=b
 ·simp only [vi,vl,hx,decide_true,Bool.not_true]
  rfl
 ·have:decide (a=b)=false:=decide_eq_false hx
  simp only [vi,vl,this,Bool.not_false]
  rfl
def Aw (x:PT):Bool:=decide (x.1.1.length<=140737488355328)
def Jx (x:PT):OT lu.Y:=.ok ⟨Ax,((decide (x.1.1=x.1.2.1),()),())⟩
theorem ayj:ac Tryz.prog 27 (lu.aH Aw Jx):=amu W2 W3 vl ahf ayk _ _ λx oy hp ho=>by
 rw [<-ho]
 clear ho
 obtain ⟨⟨a,b,⟨⟩⟩,⟨⟩⟩:=x
 have hp':a.length<=140737488355328:=of_decide_eq_true hp
 by_cases hab:a.length=b.length
 ·refine (OT.ar (by simp [hab])).trans ((ah ?_).trans ?_)
  ·simp only [List.all_cons,List.all_nil,Bool.and_true]
   exact decide_eq_true ⟨rfl,hab,hp'⟩
  ·by_cases hx:a=b
   ·refine (OT.ar (by simp [vl,hx])).trans ?_
    simp only [Jx,hx,decide_true]
   ·refine (OT.ap (by simp [vl,hx])).trans ?_
    have:decide (a=b)=false:=decide_eq_false hx
    simp only [Jx,this]
    rfl
 ·refine (OT.ap (by simp;omega)).trans ?_
  have:decide (a=b)=false:=decide_eq_false λe=>hab (by rw [e])
  simp only [Jx,this]
def D2:cf:=(lu.aH Aw Jx)
theorem acq:ac Tryz.prog 27 D2:=ayj
theorem acp:aF D2:=aA
def F5:Env:=ay 27 D2 xi
theorem xj:aQ Tryz.prog F5:=ag acq rH
theorem Hn:ax F5:=ae acp CP
theorem Nu:aU Tryz.prog te F5:=aJ follows aq xj Hn
def fS:aw:=⟨[.val false (.list .u8)],[],true,0,false⟩
abbrev wA:Type:=((List (UInt8))×Unit)×(Unit)
def py:Shape:=⟨27,[(2,.ptr 0 0 0),(3,.ptr 1 0 0),(6,.val false (.list .u8)),(7,.val false .int),(8,.val false .int)],[(0,.row .u64),(1,.row .u64)],0,true⟩
abbrev bF:Type:=((Unit)×(Unit)×(List (UInt8))×(Int)×(Int)×Unit)×((List (UInt64))×(List (UInt64))×Unit)
def nC:Shape:=⟨27,[(2,.ptr 0 0 0),(3,.ptr 1 0 0)],[(0,.row .u64),(1,.row .u64)],0,true⟩
abbrev gv:Type:=((Unit)×(Unit)×Unit)×((List (UInt64))×(List (UInt64))×Unit)
def RA:SE->Option Shape:=fp [(0,nC)] none
def aoT (a6:List (UInt8)) (a7:Int) (a8:Int) (c0:List (UInt64)) (c1:List (UInt64)):OT (Sum bF aE):=
 let z0:Int:=Int.tdiv a8 (8:Int)
 let z1:Bool:=inB z0 4
 let z2:Bool:=decide (Int.toNat z0+0<List.length c1)
 let z3:Int:=(8:Int)*Int.tmod a8 (8:Int)
 (.br (decide (a8<a7))
 (gd [inB a8 (List.length a6),true&&inR z0,z1,z2,inR z3,decide ((0:Int)<=z3),z1,z2,inR (a8+(1:Int))] (.ok (.inl (((),((),(a6,(a7,(a8+(1:Int),()))))),(c0,(List.set c1 (Int.toNat z0+0) (List.getD c1 (Int.toNat z0+0) (0:UInt64)|||bP (UInt8.toUInt64 (List.getD a6 (Int.toNat a8) (0:UInt8))) z3),()))))))
 (.ok (.inr ⟨(.exit 0,nC),(((),((),())),(c0,(c1,())))⟩)))
def pA (s:bF):OT (Sum bF aE):=aoT (s.1.2.2.1) (s.1.2.2.2.1) (s.1.2.2.2.2.1) (s.2.1) (s.2.2.1)
theorem aoQ (s:bF) (Q:Sum bF aE->Prop):wps te F5 av 1000 (aV (aj Tryz.f101) 0) (py.inj s) (bV py RA (Q:Sum py.T aE->Prop))=(pA s).wpR Q:=by kernel_rfl
def wz (g0_0:bF->gv) (s:bF):OT aE:=(.ok ⟨(.exit 0,nC),g0_0 s⟩)
def wy:az:=⟨[.val true .elem],[],false⟩
def Mb:SV->Option az:=λ_=>some wy
def tS (ok0:bF->Bool) (g0_0:bF->gv) (a0:List (UInt8)):OT fS.Y:=
 let z0:(PUnit×PUnit×List UInt8×Int×Int×PUnit)×List UInt64×List UInt64×PUnit:=(((),(),a0,(↑(List.length a0):Int),(0:Int),()),[(0:UInt64),(0:UInt64),(0:UInt64),(0:UInt64)],[(0:UInt64),(0:UInt64),(0:UInt64),(0:UInt64)],())
 let z1:=(g0_0 z0).snd
 let z2:=z1.snd.fst
 let z3:=z1.fst
 let z4:List UInt64:=lay z3 z2 4 (0:UInt64)
 (gd [ok0 z0,decide (4<=List.length z2),decide ((4/1:Nat)+0<=List.length z3),decide (4<=List.length z4)] (.ok ⟨wy,(({w0:=List.getD z4 0 0,w1:=List.getD z4 1 0,w2:=List.getD z4 2 0,w3:=List.getD z4 3 0},()),())⟩))
theorem avZ (ok0:bF->Bool) (g0_0:bF->gv) (x:wA) (Q:fS.Y->Prop):wpf te F5 (aO 0 (cb py 0 ok0 (wz g0_0)) av) 1000 Tryz.f101 (fS.inp.inj x).tm (fS.inp.inj x).hp (fnK fS Mb Q) (λ_ _=>False)=(tS ok0 g0_0 (x.1.1)).wpR Q:=by kernel_rfl
theorem Z3 (ok0:bF->Bool) (g0_0:bF->gv) (h0:∀ s:bF,ok0 s=true->∃ m e,al (pA) m s=some e/\(wz g0_0 s).run=some e) (pre:wA->Bool) (F:wA->OT fS.Y) (hF:∀ (x:wA) oy,pre x=true->(F x).run=some oy->(tS ok0 g0_0 (x.1.1)).run=some oy):ac Tryz.prog 101 (fS.aH pre F):=
 aD aq xj Nu (f:=101) (fn:=Tryz.f101) (c:=aj Tryz.f101) (by kernel_rfl) (by kernel_rfl) (by kernel_rfl) (S:=fS) (k:=0) (by kernel_rfl) (λR hR=>(aB (c:=(aj Tryz.f101)) (by kernel_rfl) (id:=0) (by kernel_rfl) (aS aq xj Nu (sh:=py) hR (xs:=RA) (aC (by kernel_rfl) (by kernel_rfl) hR) aK af (n:=1000) (T:=pA) (λs Q=>aoQ s Q) (ok:=ok0) (f:=wz g0_0) h0) af)) (n:=1000) (sel:=Mb) (λv o h=>by cases h;rfl) (pre:=pre) (F:=F) (T:=λx=>tS ok0 g0_0 (x.1.1)) (λx Q=>avZ ok0 g0_0 x Q) hF
def Uv (b:List UInt8) (k:Nat) (l:List UInt64):List UInt64:=l.set (k/8) (l.getD (k/8) 0|||bP (UInt8.toUInt64 (b.getD k 0)) (8*((k%8:Nat):Int)))
def aIC (b:List UInt8) (n:Nat):List UInt64:=upto (Uv b) [0,0,0,0] n
def Ij (b:List UInt8):aa:=elemOf (aIC b 32)
theorem y6 (b:List UInt8):∀ n,(aIC b n).length=4
 |0=>rfl
 |n+1=>(List.length_set ..).trans (y6 b n)
def Mc (s:bF):Bool:=decide (s.1.2.2.1.length=32/\s.1.2.2.2.1=32/\s.1.2.2.2.2.1=0/\s.2.2.1= [0,0,0,0])
def RB (s:bF):gv:=(((),(),()),(s.2.1,aIC s.1.2.2.1 32,()))
theorem aGY (i:Nat):Int.tdiv (i:Int) 8=((i/8:Nat):Int):=by rw [Int.tdiv_eq_ediv_of_nonneg (by omega)];omega
theorem aGZ (i:Nat):Int.tmod (i:Int) 8=((i%8:Nat):Int):=by rw [Int.tmod_eq_emod_of_nonneg (by omega)];omega
theorem aoS:∀ s:bF,Mc s=true->∃ m e,al pA m s=some e/\(wz RB s).run=some e:=by
 rintro ⟨⟨⟨⟩,⟨⟩,b,n,i,⟨⟩⟩,⟨c0,c1,⟨⟩⟩⟩ h
 have h':=of_decide_eq_true h
 dsimp only at h'
 obtain ⟨hb,rfl,rfl,rfl⟩:=h'
 have:=(aP (T:=pA) (λi o=>((((),(),b,(32:Int),(i:Int),()),(c0,o,())):bF)) (Uv b)
  (λo=>(⟨(.exit 0,nC),(((),(),()),(c0,o,()))⟩:aE)) 32 [0,0,0,0] (λ_ o=>o.length=4) rfl (λi o hi ho=>⟨?_,(List.length_set ..).trans ho⟩) (λo ho=> ?_)).1
 ·obtain ⟨m,hm⟩:=this
  exact ⟨m,_,hm,rfl⟩
 ·have t1:=aGY i
  have t2:=aGZ i
  refine (OT.ap (decide_eq_true (by dsimp only;omega))).trans ((ah ?_).trans ?_)
  ·simp only [t1,t2,ho,hb,Int.toNat_natCast,List.all_cons,List.all_nil,Bool.and_true,Bool.true_and,Bool.and_eq_true]
   exact ⟨aN (by omega),aI (by omega),aN (by omega),decide_eq_true (by omega),aI (by omega),decide_eq_true (by omega),aN (by omega),decide_eq_true (by omega),aI (by omega)⟩
  ·simp only [OT.cK,t1,t2,Int.toNat_natCast,Nat.add_zero]
   rfl
 ·exact OT.ar (decide_eq_false (by dsimp only;omega))
def jG (x:wA):Bool:=decide (x.1.1.length=32)
def Z5 (x:wA):OT fS.Y:=.ok ⟨wy,((Ij x.1.1,()),())⟩
abbrev Z0 (b:List UInt8):bF:=(((),(),b,(b.length:Int),0,()),([0,0,0,0],[0,0,0,0],()))
theorem Z4 {ok0:bF->Bool} {g0:bF->gv} {b:List UInt8} {L:List UInt64} (hok:ok0 (Z0 b)=true)
 (hg:g0 (Z0 b)=(((),(),()),([0,0,0,0],L,()))) (hL:L.length=4):(tS ok0 g0 b).run=some ⟨wy,((elemOf L,()),())⟩:=by
 have e:lay [0,0,0,0] L 4 0=L:=xO rfl hL
 unfold tS
 simp only [hg]
 refine (ah ?_).trans ?_
 ·simp only [e,hL,List.all_cons,List.all_nil,Bool.and_true,Bool.and_eq_true]
  exact ⟨hok,rfl,rfl,rfl⟩
 ·rw [e]
  rfl
theorem aoR:ac Tryz.prog 101 (fS.aH jG Z5):=Z3 Mc RB aoS _ _ λx oy hp ho=>by
 rw [<-ho]
 clear ho
 obtain ⟨⟨b,⟨⟩⟩,⟨⟩⟩:=x
 have hb:b.length=32:=of_decide_eq_true hp
 exact Z4 (b:=b) (L:=aIC b 32) (decide_eq_true ⟨hb,by show ((b.length:Nat):Int)=32;omega,rfl,rfl⟩) rfl (y6 b 32)
def tR:cf:=(fS.aH jG Z5)
theorem Vi:ac Tryz.prog 101 tR:=aoR
theorem Vh:aF tR:=aA
def u5:Env:=ay 101 tR F5
theorem u4:aQ Tryz.prog u5:=ag Vi xj
theorem yi:ax u5:=ae Vh Hn
theorem Wx:aU Tryz.prog te u5:=aJ follows aq u4 yi
def kr:aw:=⟨[.val false .int,.val false (.list .u8)],[],true,0,false⟩
abbrev Rv:Type:=((Int)×(List (UInt8))×Unit)×(Unit)
def iX:az:=⟨[.val true .elem,.val false .int],[],false⟩
def ZM:SV->Option az:=λ_=>some iX
def LX (a0:Int) (a1:List (UInt8)):OT kr.Y:=
 let z0:Nat:=List.length a1
 let z1:Int:=(↑z0:Int)
 let z2:aa:= {w0:=0,w1:=0,w2:=0,w3:=0}
 let z3:List UInt8:=List.drop 0 (List.take 32 a1)
 let z4:List UInt8:=List.drop 32 a1
 let z5:aa:=(aY (Int.toNat a0)).fst
 (.br (ao a0)
 (.br (!z1==(64:Int))
  (.ok ⟨iX,((z2,((21:Int),())),())⟩)
  (gd [dw (0:Int) (32:Int) z0,jG ((z3,()),()),dw (32:Int) z1 z0,jG ((z4,()),())] (.br (nv z5)
   (.ok ⟨iX,((z2,((10:Int),())),())⟩)
   (.ok ⟨iX,((aAA (Ij z3) (Ij z4) z5,((0:Int),())),())⟩))))
 (.ok ⟨iX,((z2,((20:Int),())),())⟩))
theorem aHn (x:Rv) (Q:kr.Y->Prop):wpf te u5 av 1000 Tryz.f69 (kr.inp.inj x).tm (kr.inp.inj x).hp (fnK kr ZM Q) (λ_ _=>False)=(LX (x.1.1) (x.1.2.1)).wpR Q:=by kernel_rfl
theorem aoC (pre:Rv->Bool) (F:Rv->OT kr.Y) (hF:∀ (x:Rv) oy,pre x=true->(F x).run=some oy->(LX (x.1.1) (x.1.2.1)).run=some oy):ac Tryz.prog 69 (kr.aH pre F):=
 aD aq u4 Wx (f:=69) (fn:=Tryz.f69) (c:=aj Tryz.f69) (by kernel_rfl) (by kernel_rfl) (by kernel_rfl) (S:=kr) (k:=0) (by kernel_rfl) (λR hR=>af) (n:=1000) (sel:=ZM) (λv o h=>by cases h;rfl) (pre:=pre) (F:=F) (T:=λx=>LX (x.1.1) (x.1.2.1)) (λx Q=>aHn x Q) hF
def Im (b:List UInt8):Bool:=(b.length:Int)==64
def aqY (s:Int) (b:List UInt8):aa:=aAA (Ij (b.take 32)) (Ij (b.drop 32)) (aY s.toNat).1
def ZN (_:Rv):Bool:=true
def avN (x:Rv):OT kr.Y:=.br (ao x.1.1) (.br (Im x.1.2.1) (.ok ⟨iX,((aqY x.1.1 x.1.2.1,((0:Int),())),())⟩) (.ok ⟨iX,((⟨0,0,0,0⟩,((21:Int),())),())⟩)) (.ok ⟨iX,((⟨0,0,0,0⟩,((20:Int),())),())⟩)
theorem LK {b:List UInt8}:Im b=true ↔ b.length=64:=by
 unfold Im
 rw [beq_iff_eq]
 omega
theorem aki {s:Int} (h:ao s=true):nv (aY s.toNat).1=false:=by
 rcases cn h with rfl|rfl|rfl|rfl<;>rfl
theorem aoD {s:Int} {b:List UInt8} {W:aa} (hW:aAA (Ij (List.drop 0 (b.take 32))) (Ij (b.drop 32)) (aY s.toNat).1=W):(LX s b).run=(OT.br (ao s) (.br (Im b) (.ok ⟨iX,((W,((0:Int),())),())⟩) (.ok ⟨iX,((⟨0,0,0,0⟩,((21:Int),())),())⟩)) (.ok ⟨iX,((⟨0,0,0,0⟩,((20:Int),())),())⟩):OT kr.Y).run:=by
 unfold LX
 simp only [hW]
 rcases (Bool.eq_false_or_eq_true (ao s)).symm with hs|hs
 ·exact (OT.ar hs).trans (OT.ar (b:=ao s) hs).symm
 ·refine (OT.ap hs).trans (Eq.trans ?_ (OT.ap (b:=ao s) hs).symm)
  rcases (Bool.eq_false_or_eq_true (Im b)).symm with hl|hl
  ·exact (OT.ap (b:= !Im b) (by rw [hl];rfl)).trans (OT.ar (b:=Im b) hl).symm
  ·have hb:b.length=64:=LK.1 hl
   refine (OT.ar (b:= !Im b) (by rw [hl];rfl)).trans (Eq.trans ?_ (OT.ap (b:=Im b) hl).symm)
   refine (ah ?_).trans (OT.ar (aki hs))
   simp only [List.all_cons,List.all_nil,Bool.and_true,Bool.and_eq_true]
   exact ⟨gx (by omega),decide_eq_true (by show (List.drop 0 (b.take 32)).length=32;rw [List.drop_zero,List.length_take];omega),gx (by omega),decide_eq_true (by show (List.drop 32 b).length=32;rw [List.length_drop];omega)⟩
theorem aBY:ac Tryz.prog 69 (kr.aH ZN avN):=aoC _ _ λx oy hp ho=>by
 rw [<-ho]
 clear ho
 obtain ⟨⟨s,b,⟨⟩⟩,⟨⟩⟩:=x
 exact aoD rfl
def Fq:cf:=(kr.aH ZN avN)
theorem ae5:ac Tryz.prog 69 Fq:=aBY
theorem ae4:aF Fq:=aA
def N8:Env:=ay 69 Fq u5
theorem Gt:aQ Tryz.prog N8:=ag ae5 u4
theorem HT:ax N8:=ae ae4 yi
theorem agL:aU Tryz.prog te N8:=aJ follows aq Gt HT
def fj:aw:=⟨[.val false .int,.val false (.list .u8)],[],true,0,false⟩
abbrev wH:Type:=((Int)×(List (UInt8))×Unit)×(Unit)
def dB:az:=⟨[.val true .elem,.val false .int],[],false⟩
def Mw:SV->Option az:=λ_=>some dB
def ud (a0:Int) (a1:List (UInt8)):OT fj.Y:=
 let z0:aa:= {w0:=0,w1:=0,w2:=0,w3:=0}
 let z1:Bool:=jG ((a1,()),())
 let z2:aa:=Ij a1
 (.br (ao a0)
 (.br (!(↑(List.length a1):Int)==(32:Int))
  (.ok ⟨dB,((z0,((21:Int),())),())⟩)
  (gd [z1] (.br (!Nat.blt (aa.nat z2) (aa.nat (aY (Int.toNat a0)).fst))
   (.ok ⟨dB,((z0,((21:Int),())),())⟩)
   (gd [z1] (.ok ⟨dB,((z2,((0:Int),())),())⟩)))))
 (.ok ⟨dB,((z0,((20:Int),())),())⟩))
theorem awl (x:wH) (Q:fj.Y->Prop):wpf te N8 av 1000 Tryz.f61 (fj.inp.inj x).tm (fj.inp.inj x).hp (fnK fj Mw Q) (λ_ _=>False)=(ud (x.1.1) (x.1.2.1)).wpR Q:=by kernel_rfl
theorem aaj (pre:wH->Bool) (F:wH->OT fj.Y) (hF:∀ (x:wH) oy,pre x=true->(F x).run=some oy->(ud (x.1.1) (x.1.2.1)).run=some oy):ac Tryz.prog 61 (fj.aH pre F):=
 aD aq Gt agL (f:=61) (fn:=Tryz.f61) (c:=aj Tryz.f61) (by kernel_rfl) (by kernel_rfl) (by kernel_rfl) (S:=fj) (k:=0) (by kernel_rfl) (λR hR=>af) (n:=1000) (sel:=Mw) (λv o h=>by cases h;rfl) (pre:=pre) (F:=F) (T:=λx=>ud (x.1.1) (x.1.2.1)) (λx Q=>awl x Q) hF
def gz (b:List UInt8):Bool:=(b.length:Int)==32
theorem pj {b:List UInt8}:gz b=true ↔ b.length=32:=by
 unfold gz
 rw [beq_iff_eq]
 omega
def Mx (_:wH):Bool:=true
def aal (x:wH):OT fj.Y:=.br (ao x.1.1) (.br (gz x.1.2.1) (.br (Nat.blt (Ij x.1.2.1).nat (pS x.1.1)) (.ok ⟨dB,((Ij x.1.2.1,((0:Int),())),())⟩) (.ok ⟨dB,((⟨0,0,0,0⟩,((21:Int),())),())⟩))
 (.ok ⟨dB,((⟨0,0,0,0⟩,((21:Int),())),())⟩)) (.ok ⟨dB,((⟨0,0,0,0⟩,((20:Int),())),())⟩)
theorem aak {s:Int} {b:List UInt8} {N:aa} (hN:Ij b=N):(ud s b).run=(OT.br (ao s) (.br (gz b) (.br (Nat.blt N.nat (pS s)) (.ok ⟨dB,((N,((0:Int),())),())⟩) (.ok ⟨dB,((⟨0,0,0,0⟩,((21:Int),())),())⟩))
 (.ok ⟨dB,((⟨0,0,0,0⟩,((21:Int),())),())⟩)) (.ok ⟨dB,((⟨0,0,0,0⟩,((20:Int),())),())⟩):OT fj.Y).run:=by
 unfold ud
 simp only [hN]
 rcases (Bool.eq_false_or_eq_true (ao s)).symm with hs|hs
 ·exact (OT.ar hs).trans (OT.ar (b:=ao s) hs).symm
 ·refine (OT.ap hs).trans (Eq.trans ?_ (OT.ap (b:=ao s) hs).symm)
  rcases (Bool.eq_false_or_eq_true (gz b)).symm with hl|hl
  ·exact (OT.ap (b:= !gz b) (by rw [hl];rfl)).trans (OT.ar (b:=gz b) hl).symm
  ·have hp:jG ((b,()),())=true:=decide_eq_true (pj.1 hl)
   refine (OT.ar (b:= !gz b) (by rw [hl];rfl)).trans (Eq.trans ?_ (OT.ap (b:=gz b) hl).symm)
   rw [hp]
   refine (ah rfl).trans ?_
   rcases (Bool.eq_false_or_eq_true (Nat.blt N.nat (pS s))).symm with h|h
   ·exact (OT.ap (b:= !Nat.blt N.nat (pS s)) (by rw [h];rfl)).trans (OT.ar (b:=Nat.blt N.nat (pS s)) h).symm
   ·exact (OT.ar (b:= !Nat.blt N.nat (pS s)) (by rw [h];rfl)).trans ((ah rfl).trans (OT.ap (b:=Nat.blt N.nat (pS s)) h).symm)
theorem apj:ac Tryz.prog 61 (fj.aH Mx aal):=aaj _ _ λx oy hp ho=>by
 rw [<-ho]
 clear ho
 obtain ⟨⟨s,b,⟨⟩⟩,⟨⟩⟩:=x
 exact aak rfl
def uc:cf:=(fj.aH Mx aal)
theorem Vt:ac Tryz.prog 61 uc:=apj
theorem Vs:aF uc:=aA
def Ou:Env:=ay 61 uc N8
theorem abS:aQ Tryz.prog Ou:=ag Vt Gt
theorem PH:ax Ou:=ae Vs HT
abbrev awb:aw:=nE
def ua (x:aag):Bool:=ao x.1.1
def awc (x:aag):OT nE.Y:=.ok ⟨Fz,((gD (pS x.1.1) x.1.2.1 x.1.2.2.1,()),())⟩
theorem aCh:ac Tryz.prog 137 (awb.aH ua awc):=jr (S:=nE) awe λx oy hp ho=>⟨rfl,(OT.ap (b:=ao x.1.1) hp).trans ho⟩
def Fy:cf:=(awb.aH ua awc)
theorem afo:ac Tryz.prog 137 Fy:=aCh
theorem afn:aF Fy:=aA
def u7:Env:=ay 137 Fy Ou
theorem lj:aQ Tryz.prog u7:=ag afo abS
theorem HZ:ax u7:=ae afn PH
theorem rS:aU Tryz.prog te u7:=aJ follows aq lj HZ
end Go.Proofs.YtohjofabochgfaaGreat

namespace Go.Proofs.YtohjofabochgfaaGreat
theorem KX {α:Type} [BEq α] [LawfulBEq α]:∀ {l1 l2:List α},l1.Nodup->(∀ x ∈ l1,x ∈ l2)->l2.length<=l1.length->l1.Perm l2
 | [],l2,_,_,h=>by
  have:l2= []:=List.length_eq_zero_iff.1 (Nat.le_zero.1 h)
  rw [this]
 |a::t,l2,hn,hs,hl=>by
  have ha:a ∈ l2:=hs a (List.mem_cons_self ..)
  have hp:l2.Perm (a::l2.erase a):=List.perm_cons_erase ha
  rw [List.nodup_cons] at hn
  have hl2:=List.length_erase_of_mem ha
  have hpos:0<l2.length:=List.length_pos_of_mem ha
  have ih:t.Perm (l2.erase a):=KX hn.2 (λx hx=>by
   have hne:x≠a:=λe=>hn.1 (e▸hx)
   exact (List.mem_erase_of_ne hne).2 (hs x (List.mem_cons_of_mem _ hx))) (by rw [List.length_cons] at hl;omega)
  exact (ih.cons a).trans hp.symm
def Pr (p:Nat):Prop:=2<=p/\∀ d,d∣p->d=1\/d=p
theorem Pr.pos {p:Nat} (h:Pr p):0<p:=by have:=h.1;omega
theorem Pr.cop {p a:Nat} (h:Pr p) (ha:¬p∣a):Nat.Coprime p a:=by
 rcases h.2 (Nat.gcd p a) (Nat.gcd_dvd_left ..) with e|e
 ·exact e
 ·exact absurd (e▸Nat.gcd_dvd_right p a) ha
theorem Pr.alp {p a b:Nat} (h:Pr p) (hd:p∣a*b):p∣a\/p∣b:=by
 by_cases ha:p∣a
 ·exact .inl ha
 ·exact .inr ((h.cop ha).dvd_of_dvd_mul_left hd)
def xE:List Nat->Nat
 | []=>1
 |a::l=>a*xE l
theorem anN {l1 l2:List Nat} (h:l1.Perm l2):xE l1=xE l2:=by
 induction h with
 |nil=>rfl
 |cons x _ ih=>simp only [xE,ih]
 |swap x y l=>simp only [xE];rw [<-Nat.mul_assoc,<-Nat.mul_assoc,Nat.mul_comm x y]
 |trans _ _ a b=>exact a.trans b
theorem YQ (p a:Nat):∀ l:List Nat,xE (l.map λx=>a*x%p)%p=a^l.length*xE l%p
 | []=>by simp [xE]
 |x::l=>by
  have ih:=YQ p a l
  simp only [List.map_cons,xE,List.length_cons]
  rw [Nat.mul_mod,Nat.mod_mod,ih,<-Nat.mul_mod,Nat.pow_succ]
  congr 1
  rw [Nat.mul_assoc,Nat.mul_assoc,Nat.mul_left_comm x]
  rw [Nat.mul_left_comm a]
theorem YP {p:Nat} (h:Pr p):∀ l:List Nat,(∀ x ∈ l,¬p∣x)->¬p∣xE l
 | [],_,hd=>by
  have:=Nat.le_of_dvd (by decide) hd
  have:=h.1
  simp only [xE] at*
  omega
 |x::l,hx,hd=>by
  rcases h.alp hd with h1|h1
  ·exact hx x (List.mem_cons_self ..) h1
  ·exact YP h l (λy hy=>hx y (List.mem_cons_of_mem _ hy)) h1
theorem aon {p a b:Nat} (hab:a<=b) (h:a%p=b%p):p∣b-a:=by
 have h1:=Nat.div_add_mod a p
 have h2:=Nat.div_add_mod b p
 refine ⟨b/p-a/p,?_⟩
 rw [Nat.mul_sub]
 omega
theorem qU {p x:Nat} (h0:0<x) (h1:x<p):¬p∣x:=λh=>by
 have:=Nat.le_of_dvd h0 h
 omega
theorem avy {p a:Nat} (h:Pr p) (ha:¬p∣a) {x y:Nat} (hx:x<p) (hy:y<p) (e:a*x%p=a*y%p):x=y:=by
 have aux:∀ {x y:Nat},x<p->y<p->x<=y->a*x%p=a*y%p->x=y:=λ{x y} hx hy hxy e=>by
  have hd:=aon (Nat.mul_le_mul_left a hxy) e
  rw [<-Nat.mul_sub] at hd
  rcases h.alp hd with h1|h1
  ·exact absurd h1 ha
  ·by_cases h0:y-x=0
   ·omega
   ·exact absurd h1 (qU (by omega) (by omega))
 rcases Nat.le_total x y with hxy|hxy
 ·exact aux hx hy hxy e
 ·exact (aux hy hx hxy e.symm).symm
theorem G2 {α β:Type} {f:α->β}:∀ {l:List α},l.Nodup->(∀ x ∈ l,∀ y ∈ l,f x=f y->x=y)->(l.map f).Nodup
 | [],_,_=>List.nodup_nil
 |a::l,hn,hi=>by
  rw [List.nodup_cons] at hn
  rw [List.map_cons,List.nodup_cons]
  refine ⟨λhm=> ?_,G2 hn.2 λx hx y hy=>hi x (List.mem_cons_of_mem _ hx) y (List.mem_cons_of_mem _ hy)⟩
  obtain ⟨b,hb,e⟩:=List.mem_map.1 hm
  have:=hi a (List.mem_cons_self ..) b (List.mem_cons_of_mem _ hb) e.symm
  exact hn.1 (this▸hb)
theorem alg {p a:Nat} (h:Pr p) (ha:¬p∣a):a^(p-1)%p=1:=by
 have hp:=h.1
 have hn:(List.range' 1 (p-1)).Nodup:=List.nodup_range' ..
 have hm:((List.range' 1 (p-1)).map λx=>a*x%p).Nodup:=G2 hn λx hx y hy e=>by
  rw [List.mem_range'_1] at hx hy
  exact avy h ha (by omega) (by omega) e
 have hperm:=KX (l2:=List.range' 1 (p-1)) hm (λy hy=>by
  obtain ⟨x,hx,rfl⟩:=List.mem_map.1 hy
  rw [List.mem_range'_1] at hx⊢
  have hlt:=Nat.mod_lt (a*x) h.pos
  have hne:a*x%p≠0:=λe=>by
   rcases h.alp (Nat.dvd_of_mod_eq_zero e) with h1|h1
   ·exact ha h1
   ·exact qU (by omega) (by omega) h1
  omega) (by rw [List.length_map];exact Nat.le_refl _)
 have e:=YQ p a (List.range' 1 (p-1))
 rw [anN hperm,List.length_range'] at e
 have hnot:¬p∣xE (List.range' 1 (p-1)):=YP h _ λx hx=>by
  rw [List.mem_range'_1] at hx
  exact qU (by omega) (by omega)
 have hmul:∀ z,z*xE (List.range' 1 (p-1))%p=xE (List.range' 1 (p-1))*(z%p)%p:=λz=>by
  rw [Nat.mul_comm,Nat.mul_mod_mod]
 rw [hmul] at e
 have e1:xE (List.range' 1 (p-1))%p=xE (List.range' 1 (p-1))*1%p:=by rw [Nat.mul_one]
 rw [e1] at e
 exact (avy h hnot (by omega) (Nat.mod_lt _ h.pos) e).symm
theorem LL:∀ (k n:Nat),2<=n->n<=k->∃ r,Pr r/\r∣n
 |0,n,h2,hk=>by omega
 |k+1,n,h2,hk=>by
  by_cases hp:Pr n
  ·exact ⟨n,hp,Nat.dvd_refl _⟩
  ·have:∃ d,d∣n/\d≠1/\d≠n:=by
    apply Classical.byContradiction
    intro hc
    refine hp ⟨h2,λd hd=> ?_⟩
    apply Classical.byContradiction
    intro hd2
    exact hc ⟨d,hd,λe=>hd2 (.inl e),λe=>hd2 (.inr e)⟩
   obtain ⟨d,hd,h1,h3⟩:=this
   have hle:=Nat.le_of_dvd (by omega) hd
   have h0:d≠0:=λe=>by subst e;have:=Nat.eq_zero_of_zero_dvd hd;omega
   obtain ⟨r,hr,hrd⟩:=LL k d (by omega) (by omega)
   exact ⟨r,hr,Nat.dvd_trans hrd hd⟩
theorem Xe {n:Nat} (h2:2<=n) (hp:¬Pr n):∃ r,Pr r/\r∣n/\r*r<=n:=by
 have:∃ d,d∣n/\d≠1/\d≠n:=by
  apply Classical.byContradiction
  intro hc
  refine hp ⟨h2,λd hd=> ?_⟩
  apply Classical.byContradiction
  intro hd2
  exact hc ⟨d,hd,λe=>hd2 (.inl e),λe=>hd2 (.inr e)⟩
 obtain ⟨d,⟨e,rfl⟩,h1,h3⟩:=this
 have hd0:d≠0:=λe'=>by subst e';omega
 have he0:e≠0:=λe'=>by subst e';omega
 have he1:e≠1:=λe'=>by subst e';omega
 rcases Nat.le_total d e with hde|hde
 ·obtain ⟨r,hr,hrd⟩:=LL d d (by omega) (Nat.le_refl _)
  have hle:=Nat.le_of_dvd (by omega) hrd
  exact ⟨r,hr,Nat.dvd_trans hrd (Nat.dvd_mul_right ..),Nat.le_trans (Nat.mul_le_mul hle hle) (Nat.mul_le_mul_left d hde)⟩
 ·obtain ⟨r,hr,hrd⟩:=LL e e (by omega) (Nat.le_refl _)
  have hle:=Nat.le_of_dvd (by omega) hrd
  exact ⟨r,hr,Nat.dvd_trans hrd (Nat.dvd_mul_left ..),Nat.le_trans (Nat.mul_le_mul hle hle) (Nat.mul_le_mul_right e hde)⟩
theorem aGN {r a:Nat} (hr:2<=r) (m k:Nat):a^m%r=1->a^k%r=1->a^Nat.gcd m k%r=1:=by
 induction m,k using Nat.gcd.induction with
 |H0 n=>intro _ h;rw [Nat.gcd_zero_left];exact h
 |H1 m n hm ih=>
  intro h1 h2
  rw [Nat.gcd_rec]
  refine ih ?_ h1
  have e:a^n%r=a^(n%m)%r:=by
   conv=>lhs;rw [<-Nat.div_add_mod n m,Nat.pow_add,Nat.pow_mul,Nat.mul_mod,Nat.pow_mod,h1,Nat.one_pow,Nat.mod_eq_of_lt (show 1<r by omega),Nat.one_mul,Nat.mod_mod]
  rw [<-e]
  exact h2
theorem aBm {n q e a m:Nat} (hn2:2<=n) (hq:Pr q) (he:n-1=q^(e+1)*m) (h1:a^(n-1)%n=1) (h2:Nat.gcd (a^(q^e*m)%n+n-1) n=1)
 {r:Nat} (hr:Pr r) (hd:r∣n):q^(e+1)∣r-1:=by
 have hr2:=hr.1
 have ha1:a^(n-1)%r=1:=by
  have:=congrArg (· %r) h1
  simp only [Nat.mod_mod_of_dvd _ hd] at this
  rw [this,Nat.mod_eq_of_lt (by omega)]
 have hna:¬r∣a:=λh=>by
  have:r∣a^(n-1):=Nat.dvd_trans h (by
   have:=Nat.pow_dvd_pow a (show 1<=n-1 by omega)
   rwa [Nat.pow_one] at this)
  rw [Nat.mod_eq_zero_of_dvd this] at ha1
  omega
 have hg:=aGN hr2 _ _ ha1 (alg hr hna)
 obtain ⟨h,hh⟩:=Nat.gcd_dvd_left (n-1) (r-1)
 by_cases hqh:q∣h
 ·obtain ⟨k,rfl⟩:=hqh
  have hk:q^e*m=Nat.gcd (n-1) (r-1)*k:=by
   have:q*(q^e*m)=q*(Nat.gcd (n-1) (r-1)*k):=by
    rw [<-Nat.mul_assoc,<-Nat.pow_succ',<-he,Nat.mul_left_comm q,<-hh]
   exact Nat.eq_of_mul_eq_mul_left hq.pos this
  have hone:a^(q^e*m)%r=1:=by
   rw [hk,Nat.pow_mul,Nat.pow_mod,hg,Nat.one_pow,Nat.mod_eq_of_lt (by omega)]
  have hmn:a^(q^e*m)%n%r=1:=by rw [Nat.mod_mod_of_dvd _ hd,hone]
  have hdv:r∣a^(q^e*m)%n+n-1:=by
   obtain ⟨c,rfl⟩:=hd
   have:=Nat.div_add_mod (a^(q^e*m)%(r*c)) r
   refine ⟨a^(q^e*m)%(r*c)/r+c,?_⟩
   rw [Nat.mul_add]
   omega
  have:=Nat.dvd_gcd hdv hd
  rw [h2] at this
  have:=Nat.le_of_dvd (by decide) this
  omega
 ·have hc:Nat.Coprime (q^(e+1)) h:=Nat.Coprime.pow_left _ (hq.cop hqh)
  have hdg:q^(e+1)∣Nat.gcd (n-1) (r-1)*h:=by rw [<-hh,he];exact Nat.dvd_mul_right ..
  exact Nat.dvd_trans (hc.dvd_of_dvd_mul_right hdg) (Nat.gcd_dvd_right ..)
theorem aBn {n F:Nat} (h2:2<=n) (hF:n<F*F) (h:∀ r,Pr r->r∣n->F∣r-1):Pr n:=by
 apply Classical.byContradiction
 intro hp
 obtain ⟨r,hr,hd,hle⟩:=Xe h2 hp
 have h1:=hr.1
 have:=Nat.le_of_dvd (by omega) (h r hr hd)
 have:F*F<=r*r:=Nat.mul_le_mul (by omega) (by omega)
 omega
def ZW {α:Type} (n:Nat) (f:Nat->α):α:=match n with
 |0=>f 0
 |k+1=>f (k+1)
theorem ZV {α:Type} (n:Nat) (f:Nat->α):ZW n f=f n:=by cases n<;>rfl
def pw (n:Nat):Nat->Nat->Nat->Nat->Nat
 |0,o,_,_=>o
 |f+1,o,x,k=>ZW k λk=>cond (Nat.beq k 0) o (ZW (x*x%n) λy=>ZW (cond (Nat.beq (k%2) 1) (o*x%n) o) λo=>pw n f o y (k/2))
theorem aGL {p:Nat}:∀ (n o x k:Nat),k<2^n->o<p->pw p n o x k=o*x^k%p
 |0,o,x,k,hk,ho=>by
  have:k=0:=by omega
  subst this
  show o=_
  rw [Nat.pow_zero,Nat.mul_one,Nat.mod_eq_of_lt ho]
 |n+1,o,x,k,hk,ho=>by
  unfold pw
  simp only [ZV]
  rw [Nat.pow_succ] at hk
  cases h0:Nat.beq k 0
  ·simp only [cond_false]
   have hsq:(x*x%p)^(k/2)%p=x^(2*(k/2))%p:=by
    rw [<-Nat.pow_mod,Nat.pow_mul,Nat.pow_two]
   cases h1:Nat.beq (k%2) 1
   ·have h1':¬k%2=1:=λe=>by rw [e] at h1;cases h1
    simp only [cond_false]
    rw [aGL n _ _ _ (by omega) ho,Nat.mul_mod,hsq,<-Nat.mul_mod,show 2*(k/2)=k by omega]
   ·have h1:=Nat.eq_of_beq_eq_true h1
    simp only [cond_true]
    rw [aGL n _ _ _ (by omega) (Nat.mod_lt _ (by omega)),Nat.mul_mod,hsq,Nat.mod_mod,<-Nat.mul_mod,Nat.mul_assoc,<-Nat.pow_succ',show (2*(k/2)).succ=k by omega]
  ·have h0:=Nat.eq_of_beq_eq_true h0
   subst h0
   simp only [cond_true]
   rw [Nat.pow_zero,Nat.mul_one,Nat.mod_eq_of_lt ho]
def pwm (n a k:Nat):Nat:=pw n 256 1 (a%n) k
theorem aj4 {n:Nat} (hn:2<=n) {a k:Nat} (hk:Nat.blt k (2^256)=true):pwm n a k=a^k%n:=by
 have hk':k<2^256:=Nat.le_of_ble_eq_true hk
 unfold pwm
 rw [aGL 256 1 _ _ hk' (by omega),Nat.one_mul,<-Nat.pow_mod]
def aJu (n q e a m:Nat):Bool:=Nat.beq (n-1) (q^(e+1)*m)&&(Nat.blt n (2^256)&&(Nat.beq (pwm n a (n-1)) 1&&Nat.beq (Nat.gcd (pwm n a (q^e*m)+n-1) n) 1))
theorem fC {n q e a m:Nat} (h2:2<=n) (hq:Pr q) (h:aJu n q e a m=true) {r:Nat} (hr:Pr r) (hd:r∣n):q^(e+1)∣r-1:=by
 simp only [aJu,Bool.and_eq_true] at h
 obtain ⟨h1,h3,h4,h5⟩:=h
 have h1:=Nat.eq_of_beq_eq_true h1
 have h3:n<2^256:=Nat.le_of_ble_eq_true h3
 have hm:q^e*m<=n-1:=by
  rw [h1,Nat.pow_succ,Nat.mul_right_comm]
  exact Nat.le_mul_of_pos_right _ hq.pos
 rw [aj4 h2 (Nat.ble_eq_true_of_le (show n-1+1<=2^256 by omega))] at h4
 rw [aj4 h2 (Nat.ble_eq_true_of_le (show q^e*m+1<=2^256 by omega))] at h5
 exact aBm h2 hq h1 (Nat.eq_of_beq_eq_true h4) (Nat.eq_of_beq_eq_true h5) hr hd
def aKE (n:Nat):Nat->Nat->Bool
 |0,_=>false
 |f+1,d=>ZW d λd=>cond (Nat.blt n (d*d)) true (cond (Nat.beq (n%d) 0) false (aKE n f (d+1)))
theorem arf {n:Nat}:∀ (f d:Nat),aKE n f d=true->0<d->(∀ x,1<x->x<d->¬x∣n)->∀ x,1<x->x*x<=n->¬x∣n
 |0,d,h,_,_=>by cases h
 |f+1,d,h,hd0,hb=>by
  unfold aKE at h
  rw [ZV] at h
  cases h1:Nat.blt n (d*d)
  ·rw [h1] at h
   cases h2:Nat.beq (n%d) 0
   ·rw [h2] at h
    refine arf f (d+1) h (by omega) λx hx hxd hdv=> ?_
    by_cases hxd2:x=d
    ·subst hxd2
     rw [Nat.mod_eq_zero_of_dvd hdv] at h2
     cases h2
    ·exact hb x hx (by omega) hdv
   ·rw [h2] at h;cases h
  ·have h1:n<d*d:=Nat.le_of_ble_eq_true h1
   intro x hx hxx
   refine hb x hx ?_
   apply Classical.byContradiction
   intro hc
   have:=Nat.mul_le_mul (show d<=x by omega) (show d<=x by omega)
   omega
theorem AC {n:Nat} (f:Nat) (h2:2<=n) (h:aKE n f 2=true):Pr n:=by
 apply Classical.byContradiction
 intro hp
 obtain ⟨r,hr,hd,hle⟩:=Xe h2 hp
 have:=hr.1
 exact arf f 2 h (by decide) (λx a b=>by omega) r (by omega) hle hd
end Go.Proofs.YtohjofabochgfaaGreat

set_option maxRecDepth 100000
namespace Go.Proofs.YtohjofabochgfaaGreat
theorem KR:Pr 16513537:=AC 4065 (by decide) (by decide+kernel)
theorem KQ:Pr 16521217:=AC 4066 (by decide) (by decide+kernel)
theorem auy:Pr 772231:=AC 880 (by decide) (by decide+kernel)
theorem auz:Pr 413527:=AC 645 (by decide) (by decide+kernel)
theorem Bw:Pr 325086459374267:=aBn (F:=319338368737) (by decide) (by decide+kernel) λr hr hd=>by
 have h0:772231∣r-1:=fC (n:=325086459374267) (q:=772231) (e:=0) (a:=2) (m:=420970486) (by decide) auy (by decide+kernel) hr hd
 have h1:413527∣r-1:=fC (n:=325086459374267) (q:=413527) (e:=0) (a:=2) (m:=786131158) (by decide) auz (by decide+kernel) hr hd
 have k1:319338368737∣r-1:=Nat.Coprime.mul_dvd_of_dvd_of_dvd (m:=772231) (n:=413527) (show Nat.gcd 772231 413527=1 by decide+kernel) h0 h1
 exact k1
theorem anO:Pr 6942563:=AC 2636 (by decide) (by decide+kernel)
theorem aej:Pr 41655379:=aBn (F:=6942563) (by decide) (by decide+kernel) λr hr hd=>by
 have h0:6942563∣r-1:=fC (n:=41655379) (q:=6942563) (e:=0) (a:=2) (m:=6) (by decide) anO (by decide+kernel) hr hd
 exact h0
theorem Pf:Pr 22160661629:=aBn (F:=41655379) (by decide) (by decide+kernel) λr hr hd=>by
 have h0:41655379∣r-1:=fC (n:=22160661629) (q:=41655379) (e:=0) (a:=2) (m:=532) (by decide) aej (by decide+kernel) hr hd
 exact h0
theorem eA:Pr 8999194758858563409123804352480028797519453:=aBn (F:=7204131026362786056900943) (by decide) (by decide+kernel) λr hr hd=>by
 have h0:325086459374267∣r-1:=fC (n:=8999194758858563409123804352480028797519453) (q:=325086459374267) (e:=0) (a:=2) (m:=27682465692912573825889481556) (by decide) Bw (by decide+kernel) hr hd
 have h1:22160661629∣r-1:=fC (n:=8999194758858563409123804352480028797519453) (q:=22160661629) (e:=0) (a:=2) (m:=406088721966766121824069856270988) (by decide) Pf (by decide+kernel) hr hd
 have k1:7204131026362786056900943∣r-1:=Nat.Coprime.mul_dvd_of_dvd_of_dvd (m:=325086459374267) (n:=22160661629) (show Nat.gcd 325086459374267 22160661629=1 by decide+kernel) h0 h1
 exact k1
theorem bj:Pr 28948022309329048855892746252171976963363056481941560715954676764349967630337:=aBn (F:=8999194758858563409123804352480028797519453) (by decide) (by decide+kernel) λr hr hd=>by
 have h0:8999194758858563409123804352480028797519453∣r-1:=fC (n:=28948022309329048855892746252171976963363056481941560715954676764349967630337) (q:=8999194758858563409123804352480028797519453) (e:=0) (a:=2) (m:=3216734728497058061019394250637312) (by decide) eA (by decide+kernel) hr hd
 exact h0
theorem aBj:Pr 31649:=AC 179 (by decide) (by decide+kernel)
theorem aBk:Pr 12149:=AC 112 (by decide) (by decide+kernel)
theorem Ii:Pr 5239247429827:=aBn (F:=384503701) (by decide) (by decide+kernel) λr hr hd=>by
 have h0:31649∣r-1:=fC (n:=5239247429827) (q:=31649) (e:=0) (a:=2) (m:=165542274) (by decide) aBj (by decide+kernel) hr hd
 have h1:12149∣r-1:=fC (n:=5239247429827) (q:=12149) (e:=0) (a:=2) (m:=431249274) (by decide) aBk (by decide+kernel) hr hd
 have k1:384503701∣r-1:=Nat.Coprime.mul_dvd_of_dvd_of_dvd (m:=31649) (n:=12149) (show Nat.gcd 31649 12149=1 by decide+kernel) h0 h1
 exact k1
theorem anP:Pr 5701177:=AC 2389 (by decide) (by decide+kernel)
theorem YS:Pr 399082391:=aBn (F:=5701177) (by decide) (by decide+kernel) λr hr hd=>by
 have h0:5701177∣r-1:=fC (n:=399082391) (q:=5701177) (e:=0) (a:=2) (m:=70) (by decide) anP (by decide+kernel) hr hd
 exact h0
theorem gm:Pr 10427374428728808478656897599072717:=aBn (F:=2090891391335963876357) (by decide) (by decide+kernel) λr hr hd=>by
 have h0:5239247429827∣r-1:=fC (n:=10427374428728808478656897599072717) (q:=5239247429827) (e:=0) (a:=2) (m:=1990242791238649418308) (by decide) Ii (by decide+kernel) hr hd
 have h1:399082391∣r-1:=fC (n:=10427374428728808478656897599072717) (q:=399082391) (e:=0) (a:=2) (m:=26128375152309860944621076) (by decide) YS (by decide+kernel) hr hd
 have k1:2090891391335963876357∣r-1:=Nat.Coprime.mul_dvd_of_dvd_of_dvd (m:=5239247429827) (n:=399082391) (show Nat.gcd 5239247429827 399082391=1 by decide+kernel) h0 h1
 exact k1
theorem aLy:Pr 2:=AC 3 (by decide) (by decide+kernel)
theorem bi:Pr 28948022309329048855892746252171976963363056481941647379679742748393362948097:=aBn (F:=44785232154536915268878889192838239440863232) (by decide) (by decide+kernel) λr hr hd=>by
 have h0:10427374428728808478656897599072717∣r-1:=fC (n:=28948022309329048855892746252171976963363056481941647379679742748393362948097) (q:=10427374428728808478656897599072717) (e:=0) (a:=2) (m:=2776156405161148062854777934377771323097088) (by decide) gm (by decide+kernel) hr hd
 have h1:4294967296∣r-1:=fC (n:=28948022309329048855892746252171976963363056481941647379679742748393362948097) (q:=2) (e:=31) (a:=5) (m:=6739986666787659948666753771754907668419893943225417141728043264801) (by decide) aLy (by decide+kernel) hr hd
 have k1:44785232154536915268878889192838239440863232∣r-1:=Nat.Coprime.mul_dvd_of_dvd_of_dvd (m:=10427374428728808478656897599072717) (n:=4294967296) (show Nat.gcd 10427374428728808478656897599072717 4294967296=1 by decide+kernel) h0 h1
 exact k1
end Go.Proofs.YtohjofabochgfaaGreat

namespace Go.Proofs.YtohjofabochgfaaGreat
set_option maxRecDepth 100000
theorem dz (p:Int):p∣0:=Int.dvd_zero p
theorem dc {p a b:Int} (c:Int) (h:p∣a) (k:p∣b):p∣c*a+b:=Int.dvd_add (Int.dvd_trans h (Int.dvd_mul_left ..)) k
theorem dk {p a K:Int} (h:p∣a) (e:K=a):p∣K:=e▸h
theorem aI5 {p y3 x3 b y1 y2 x1 x2 l:Int} (h0:p∣y3-(l*(x1-x3)-y1)) (h1:p∣x3-(l*l-x1-x2)) (h2:p∣l*(x1-x2)-(y1-y2)) (h3:p∣l*(y1+y2)-(x1*x1+x1*x2+x2*x2)) (h4:p∣y1*y1-x1*x1*x1-b):p∣(y3*y3-x3*x3*x3-b):=
 dk (dc (y3-x3*l+x1*l-y1) h0 (dc (-x3*x3+x3*x1+x3*x2-x1*l*l+x2*l*l-x1*x1-2*x1*x2-x2*x2+2*y1*l) h1 (dc (-l*l*l+2*x1*l+x2*l) h2 (dc (l*l-2*x1-x2) h3 (dc (1) h4 (dz p)))))) (by clear h0 h1 h2 h3 h4;grind)
theorem aEE {p y3 x3 y1 y2 x1 x2 l:Int} (h0:p∣y3-(l*(x1-x3)-y1)) (h1:p∣l*(x1-x2)-(y1-y2)):p∣(y3-(l*(x2-x3)-y2)):=
 dk (dc (1) h0 (dc (1) h1 (dz p))) (by clear h0 h1;grind)
theorem aKo {p y3 x3 y1 y2 x1 x2 l:Int} (h0:p∣y3-(l*(x1-x3)-y1)) (h1:p∣x3-(l*l-x1-x2)) (h2:p∣l*(x1-x2)-(y1-y2)) (h3:p∣l*(y1+y2)-(x1*x1+x1*x2+x2*x2)):p∣((-l)*((-y1)+y3)-(x1*x1+x1*x3+x3*x3)):=
 dk (dc (-l) h0 (dc (-x3+x2) h1 (dc (-l) h2 (dc (1) h3 (dz p))))) (by clear h0 h1 h2 h3;grind)
theorem aIb {p b y1 y2 x1 x2 l:Int} (h0:p∣y1*y1-x1*x1*x1-b) (h1:p∣y2*y2-x2*x2*x2-b) (h2:p∣l*(x1-x2)-(y1-y2)):p∣(x1-x2)*(l*(y1+y2)-(x1*x1+x1*x2+x2*x2)):=
 dk (dc (1) h0 (dc (-1) h1 (dc (y1+y2) h2 (dz p)))) (by clear h0 h1 h2;grind)
theorem aKr {p x7 x5 yt xt ys xs y1 y3 L M l m x1 x3 y2 x2:Int} (h0:p∣l*(x1-x2)-(y1-y2)) (h1:p∣m*(x2-x3)-(y2-y3)) (h2:p∣xs-(l*l-x1-x2)) (h3:p∣ys-(l*(x1-xs)-y1)) (h4:p∣xt-(m*m-x2-x3)) (h5:p∣yt-(m*(x2-xt)-y2)) (h6:p∣x5-(L*L-xs-x3)) (h7:p∣x7-(M*M-x1-xt)) (h8:p∣l*(y1+y2)-(x1*x1+x1*x2+x2*x2)) (h9:p∣m*(y2+y3)-(x2*x2+x2*x3+x3*x3)) (h10:p∣L*(xs-x3)-(ys-y3)) (h11:p∣M*(x1-xt)-(y1-yt)):p∣((xs-x3)*(x1-xt))*(x5-x7):=
 dk (dc (-L*l*l-l*l*l-L*l*m-M*l*m-l*l*m-L*m*m+L*x1-M*x1+2*l*x1+2*m*x1+L*x3-M*x3+L*x2-M*x2+l*x2+m*x2) h0 (dc (-L*l*m-M*l*m-l*l*m-M*m*m-l*m*m-m*m*m-L*x1+m*x1-L*x3+l*x3+2*m*x3-L*x2+2*l*x2+3*m*x2-2*y2) h1 (dc (x7*xt-x7*x1-x5*xt+x5*x1+L*L*m*m-L*L*x1-L*l*x1-l*l*x1-L*m*x1-l*m*x1-m*m*x1-L*L*x3-m*m*x3-L*L*x2+L*l*x2+l*l*x2+L*m*x2+l*m*x2-m*m*x2+x1*x1+2*x1*x3+x3*x3-2*L*y2-2*l*y2+2*x1*x2+2*x3*x2+x2*x2) h2 (dc (-L*m*m+l*m*m+L*x1+m*x1+L*x3-l*x3+L*x2-2*l*x2-m*x2+2*y2) h3 (dc (x7*l*l-x7*x1-x7*x3-x7*x2-x5*l*l+x5*x1+x5*x3+x5*x2-M*M*l*l+M*M*x1+l*l*x1+M*M*x3+M*l*x3+l*l*x3+M*m*x3+l*m*x3+m*m*x3+M*M*x2-M*l*x2+l*l*x2-M*m*x2-l*m*x2-m*m*x2-x1*x1-2*x1*x3-x3*x3+2*M*y2+2*m*y2-2*x1*x2-2*x3*x2-x2*x2) h4 (dc (M*l*l-l*l*m-M*x1+m*x1-M*x3-l*x3-M*x2+l*x2+2*m*x2-2*y2) h5 (dc (-l*l*m*m+l*l*x1+m*m*x1+l*l*x3+m*m*x3+l*l*x2+m*m*x2-x1*x1-2*x1*x3-x3*x3-2*x1*x2-2*x3*x2-x2*x2) h6 (dc (l*l*m*m-l*l*x1-m*m*x1-l*l*x3-m*m*x3-l*l*x2-m*m*x2+x1*x1+2*x1*x3+x3*x3+2*x1*x2+2*x3*x2+x2*x2) h7 (dc (-L*l-M*l-l*l-L*m-M*m-m*m+2*x1+2*x3+2*x2) h8 (dc (L*l+M*l+l*l+L*m+M*m+m*m-2*x1-2*x3-2*x2) h9 (dc (-L*m*m+l*m*m+L*x1+m*x1+L*x3-l*x3+L*x2-2*l*x2-m*x2+2*y2) h10 (dc (-M*l*l+l*l*m+M*x1-m*x1+M*x3+l*x3+M*x2-l*x2-2*m*x2+2*y2) h11 (dz p))))))))))))) (by clear h0 h1 h2 h3 h4 h5 h6 h7 h8 h9 h10 h11;grind)
theorem aKq {p y7 x7 y5 x5 yt xt ys xs y1 y3 L M l m x1 x3 y2 x2:Int} (h0:p∣l*(x1-x2)-(y1-y2)) (h1:p∣m*(x2-x3)-(y2-y3)) (h2:p∣xs-(l*l-x1-x2)) (h3:p∣ys-(l*(x1-xs)-y1)) (h4:p∣xt-(m*m-x2-x3)) (h5:p∣yt-(m*(x2-xt)-y2)) (h6:p∣x5-(L*L-xs-x3)) (h7:p∣y5-(L*(xs-x5)-ys)) (h8:p∣x7-(M*M-x1-xt)) (h9:p∣y7-(M*(x1-x7)-y1)) (h10:p∣l*(y1+y2)-(x1*x1+x1*x2+x2*x2)) (h11:p∣m*(y2+y3)-(x2*x2+x2*x3+x3*x3)) (h12:p∣L*(xs-x3)-(ys-y3)) (h13:p∣M*(x1-xt)-(y1-yt)) (h14:p∣x5-x7):p∣((xs-x3)*(x1-xt))*(y5-y7):=
 dk (dc (-L*L*L*l+L*M*M*l-2*L*L*l*l-L*M*l*l+M*M*l*l-M*l*l*l+l*l*l*l-L*L*l*m-L*M*l*m+M*M*l*m-2*L*l*l*m-M*l*l*m-l*l*l*m+L*L*m*m-3*L*l*m*m+M*l*m*m-3*l*l*m*m-M*l*x1-2*l*l*x1+L*m*x1+l*m*x1+2*m*m*x1-L*L*x3+M*M*x3+2*L*l*x3-3*M*l*x3+3*l*l*x3-L*m*x3-2*M*m*x3+l*m*x3-m*m*x3-2*L*L*x2+2*M*M*x2+L*l*x2-2*M*l*x2+2*l*l*x2-M*m*x2-2*l*m*x2-4*m*m*x2+2*x1*x1+2*x3*x3+6*m*y2-x1*x2+5*x3*x2+x2*x2) h0 (dc (L*L*l*m-L*M*l*m-M*M*l*m-M*l*l*m-l*l*l*m-L*M*m*m-M*M*m*m-L*l*m*m-2*M*l*m*m-2*l*l*m*m-L*m*m*m-l*m*m*m+m*m*m*m+M*M*x1-2*L*l*x1-M*l*x1-2*L*m*x1-2*M*m*x1+3*l*m*x1+L*L*x3-L*l*x3-l*l*x3-L*m*x3-M*m*x3+2*L*L*x2-M*M*x2+M*l*x2-2*l*l*x2+3*x1*x3-2*L*y2-2*M*y2+2*m*y2+6*x1*x2+3*x2*x2) h1 (dc (y7*xt-y7*x1-y5*xt+y5*x1-L*L*L*m*m+L*M*M*x1-2*L*L*l*x1-L*M*l*x1+M*M*l*x1-M*l*l*x1+l*l*l*x1-L*L*m*x1-L*M*m*x1-2*L*l*m*x1-M*l*m*x1-l*l*m*x1-2*L*m*m*x1-3*l*m*m*x1+L*L*L*x3+2*L*m*m*x3+l*m*m*x3+2*L*L*L*x2-L*M*M*x2+2*L*L*l*x2+L*M*l*x2-M*M*l*x2+M*l*l*x2-l*l*l*x2+L*L*m*x2+L*M*m*x2+2*L*l*m*x2+M*l*m*x2+l*l*m*x2+3*L*m*m*x2+2*l*m*m*x2-2*L*x1*x1-l*x1*x1+3*l*x1*x3+m*x1*x3-2*L*x3*x3-l*x3*x3-2*L*L*y2-2*L*M*y2-2*M*l*y2+2*l*l*y2-4*L*m*y2+L*x1*x2+2*l*x1*x2-m*x1*x2-5*L*x3*x2-4*l*x3*x2-m*x3*x2-L*x2*x2-5*l*x2*x2-5*m*x2*x2+2*x1*y2+4*x3*y2+6*y2*x2) h2 (dc (L*L*m*m-L*l*m*m-M*M*x1+2*L*l*x1+M*l*x1-l*l*x1+L*m*x1+M*m*x1+l*m*x1+3*m*m*x1-L*L*x3+L*l*x3-m*m*x3-2*L*L*x2+M*M*x2-M*l*x2+l*l*x2-L*m*x2-M*m*x2-l*m*x2-2*m*m*x2+x1*x1-x1*x3+x3*x3+2*L*y2+2*M*y2+4*m*y2-4*x1*x2+2*x3*x2-2*x2*x2) h3 (dc (y7*l*l-y7*x1-y7*x3-y7*x2-y5*l*l+y5*x1+y5*x3+y5*x2+M*M*M*l*l-M*M*M*x1-M*l*l*x1-M*M*M*x3+L*M*l*x3+M*M*l*x3+M*l*l*x3+L*M*m*x3+M*M*m*x3+L*l*m*x3+2*M*l*m*x3+2*l*l*m*x3+L*m*m*x3+l*m*m*x3-m*m*m*x3-M*M*M*x2-L*M*l*x2-M*M*l*x2-3*M*l*l*x2-L*M*m*x2-M*M*m*x2-L*l*m*x2-2*M*l*m*x2-2*l*l*m*x2-L*m*m*x2-l*m*m*x2+m*m*m*x2+M*x1*x1-L*x1*x3+3*M*x1*x3-2*l*x1*x3+M*x3*x3+2*L*M*y2+2*M*M*y2-2*L*l*y2+6*M*l*y2-2*l*l*y2+2*L*m*y2+2*l*m*y2-2*m*m*y2+L*x1*x2+M*x1*x2+2*l*x1*x2+L*x3*x2+M*x3*x2+2*l*x3*x2+2*L*x2*x2-M*x2*x2+7*l*x2*x2+3*m*x2*x2-2*x1*y2-4*x3*y2-6*y2*x2) h4 (dc (-M*M*l*l+M*l*l*m+M*M*x1-M*m*x1+M*M*x3-L*l*x3-M*l*x3-2*l*l*x3-L*m*x3-2*M*m*x3-l*m*x3+m*m*x3+M*M*x2+L*l*x2+M*l*x2+2*l*l*x2+L*m*x2+l*m*x2-m*m*x2-x1*x3-2*L*y2-2*M*y2-6*l*y2+2*m*y2+x1*x2+x3*x2+2*x2*x2) h5 (dc (L*l*l*m*m-L*l*l*x1-L*m*m*x1-L*l*l*x3-L*m*m*x3-L*l*l*x2-L*m*m*x2+L*x1*x1+L*x1*x3-2*l*x1*x3-m*x1*x3+L*x3*x3-2*L*l*y2-2*l*l*y2-4*l*m*y2+3*L*x1*x2+2*l*x1*x2+m*x1*x2+3*L*x3*x2+2*l*x3*x2+m*x3*x2+3*L*x2*x2+7*l*x2*x2+5*m*x2*x2-2*x1*y2-4*x3*y2-6*y2*x2) h6 (dc (-l*l*m*m+l*l*x1+m*m*x1+l*l*x3+m*m*x3+l*l*x2+m*m*x2-x1*x1-2*x1*x3-x3*x3-2*x1*x2-2*x3*x2-x2*x2) h7 (dc (-M*l*l*m*m+M*l*l*x1+M*m*m*x1+M*l*l*x3+M*m*m*x3+M*l*l*x2+M*m*m*x2-M*x1*x1+L*x1*x3-2*M*x1*x3+2*l*x1*x3+m*x1*x3-M*x3*x3+2*L*l*y2+2*l*l*y2+4*l*m*y2-L*x1*x2-2*M*x1*x2-2*l*x1*x2-m*x1*x2-L*x3*x2-2*M*x3*x2-2*l*x3*x2-m*x3*x2-2*L*x2*x2-M*x2*x2-7*l*x2*x2-5*m*x2*x2+2*x1*y2+4*x3*y2+6*y2*x2) h8 (dc (l*l*m*m-l*l*x1-m*m*x1-l*l*x3-m*m*x3-l*l*x2-m*m*x2+x1*x1+2*x1*x3+x3*x3+2*x1*x2+2*x3*x2+x2*x2) h9 (dc (-L*L*L+L*M*M-2*L*L*l-L*M*l+2*M*M*l-M*l*l+l*l*l-L*L*m-L*M*m+M*M*m-2*L*l*m-2*M*l*m-l*l*m-2*L*m*m+M*m*m-4*l*m*m-2*L*x1-2*M*x1+2*L*x3-2*M*x3+6*l*x3+2*m*x3-2*M*x2-2*m*x2+6*y2) h10 (dc (-L*L*l+L*M*l+M*M*l+M*l*l+l*l*l-L*L*m+L*M*m+M*M*m+2*L*l*m+2*M*l*m+3*l*l*m+L*m*m+l*m*m-m*m*m+L*x1+M*x1-4*l*x1-4*m*x1+L*x3+M*x3+L*x2+M*x2+l*x2+m*x2-6*y2) h11 (dc (L*L*m*m-L*l*m*m-l*l*m*m-M*M*x1+2*L*l*x1+M*l*x1+L*m*x1+M*m*x1+l*m*x1+4*m*m*x1-L*L*x3+L*l*x3+l*l*x3-2*L*L*x2+M*M*x2-M*l*x2+2*l*l*x2-L*m*x2-M*m*x2-l*m*x2-m*m*x2-3*x1*x3+2*L*y2+2*M*y2+4*m*y2-6*x1*x2-3*x2*x2) h12 (dc (M*M*l*l-M*l*l*m-M*M*x1+M*m*x1-M*M*x3+L*l*x3+M*l*x3+2*l*l*x3+L*m*x3+2*M*m*x3+l*m*x3-m*m*x3-M*M*x2-L*l*x2-M*l*x2-2*l*l*x2-L*m*x2-l*m*x2+m*m*x2+x1*x3+2*L*y2+2*M*y2+6*l*y2-2*m*y2-x1*x2-x3*x2-2*x2*x2) h13 (dc (L*x1*x3+2*l*x1*x3+m*x1*x3+2*L*l*y2+2*l*l*y2+4*l*m*y2-L*x1*x2-2*l*x1*x2-m*x1*x2-L*x3*x2-2*l*x3*x2-m*x3*x2-2*L*x2*x2-7*l*x2*x2-5*m*x2*x2+2*x1*y2+4*x3*y2+6*y2*x2) h14 (dz p)))))))))))))))) (by clear h0 h1 h2 h3 h4 h5 h6 h7 h8 h9 h10 h11 h12 h13 h14;grind)
theorem aKt {p x7 x5 yt xt ys xs y1 y3 L M l m x1 x3 y2 x2:Int} (h0:p∣l*(x1-x2)-(y1-y2)) (h1:p∣m*(x2-x3)-(y2-y3)) (h2:p∣xs-(l*l-x1-x2)) (h3:p∣ys-(l*(x1-xs)-y1)) (h4:p∣xt-(m*m-x2-x3)) (h5:p∣yt-(m*(x2-xt)-y2)) (h6:p∣x5-(L*L-xs-x3)) (h7:p∣x7-(M*M-x1-xt)) (h8:p∣l*(y1+y2)-(x1*x1+x1*x2+x2*x2)) (h9:p∣m*(y2+y3)-(x2*x2+x2*x3+x3*x3)) (h10:p∣L*(xs-x3)-(ys-y3)) (h11:p∣L*(ys+y3)-(xs*xs+xs*x3+x3*x3)) (h12:p∣M*(x1-xt)-(y1-yt)) (h13:p∣xs-x3):p∣4*(y2*y3)*(x5-x7):=
 dk (dc (L*M*l*x3+M*M*l*x3-2*L*l*l*x3-2*M*l*l*x3+2*L*M*m*x3-L*l*m*x3-2*M*l*m*x3+2*l*l*m*x3-M*m*m*x3+l*m*m*x3+m*m*m*x3-L*M*l*x2-M*M*l*x2+2*L*l*l*x2+2*M*l*l*x2-2*L*M*m*x2+L*l*m*x2+2*M*l*m*x2-2*l*l*m*x2+M*m*m*x2-l*m*m*x2-m*m*m*x2+L*x1*x3+M*x1*x3+3*L*x3*x3-5*m*x3*x3-2*M*M*y2+2*L*l*y2-2*l*l*y2+2*L*m*y2+2*M*m*y2-2*l*m*y2-4*m*m*y2-L*x1*x2-M*x1*x2-L*x3*x2-M*x3*x2+4*m*x3*x2-2*L*x2*x2-2*M*x2*x2+4*m*x2*x2+4*x1*y2-4*x3*y2) h0 (dc (-4*x7*y2+4*x5*y2+2*L*M*l*x3+M*l*l*x3+L*M*m*x3+M*M*m*x3-M*l*m*x3+l*l*m*x3+L*m*m*x3-M*m*m*x3+l*m*m*x3-2*m*m*m*x3-2*L*M*l*x2-M*l*l*x2-L*M*m*x2-M*M*m*x2+M*l*m*x2-l*l*m*x2-L*m*m*x2+M*m*m*x2-l*m*m*x2+2*m*m*m*x2-L*x1*x3-M*x1*x3-2*L*x3*x3+M*x3*x3+3*m*x3*x3-4*L*L*y2+2*M*M*y2+2*L*l*y2+2*l*l*y2-4*l*m*y2-2*m*m*y2+L*x1*x2+M*x1*x2-L*x3*x2-M*x3*x2+3*L*x2*x2+3*M*x2*x2-6*m*x2*x2-4*x1*y2+2*x3*y2+2*y2*x2) h1 (dc (-xs*M*l*x3-xs*M*m*x3-xs*l*m*x3-xs*m*m*x3+xs*M*l*x2+xs*M*m*x2+xs*l*m*x2+xs*m*m*x2+2*xs*L*y2-2*xs*l*y2+L*M*x1*x3+M*M*x1*x3-2*L*l*x1*x3-M*l*x1*x3-L*m*x1*x3-2*M*m*x1*x3+3*l*m*x1*x3+m*m*x1*x3-L*M*x1*x2-M*M*x1*x2+2*L*l*x1*x2+M*l*x1*x2+L*m*x1*x2+2*M*m*x1*x2-3*l*m*x1*x2-m*m*x1*x2-L*M*x3*x2-M*M*x3*x2+2*L*l*x3*x2+2*M*l*x3*x2+L*m*x3*x2+3*M*m*x3*x2-2*l*m*x3*x2+L*M*x2*x2+M*M*x2*x2-2*L*l*x2*x2-2*M*l*x2*x2-L*m*x2*x2-3*M*m*x2*x2+2*l*m*x2*x2-4*m*x1*y2-4*L*x3*y2-4*M*x3*y2+4*m*x3*y2+2*L*y2*x2+4*M*y2*x2+2*l*y2*x2-4*y2*y2) h2 (dc (-M*l*l*x3+2*L*M*m*x3-l*l*m*x3-M*m*m*x3+m*m*m*x3+M*l*l*x2-2*L*M*m*x2+l*l*m*x2+M*m*m*x2-m*m*m*x2+L*x1*x3+M*x1*x3+2*L*x3*x3-M*x3*x3-3*m*x3*x3-2*M*M*y2+2*L*l*y2-2*l*l*y2+2*L*m*y2+2*M*m*y2+2*l*m*y2-4*m*m*y2-L*x1*x2-M*x1*x2+L*x3*x2+M*x3*x2-3*L*x2*x2-3*M*x2*x2+6*m*x2*x2+4*x1*y2-2*x3*y2-2*y2*x2) h3 (dc (-L*M*x3*x3-M*M*x3*x3-L*m*x3*x3+M*m*x3*x3+2*m*m*x3*x3+2*L*M*x3*x2+2*M*M*x3*x2+2*L*m*x3*x2-2*M*m*x3*x2-4*m*m*x3*x2-L*M*x2*x2-M*M*x2*x2-L*m*x2*x2+M*m*x2*x2+2*m*m*x2*x2+2*M*x3*y2+6*m*x3*y2-2*M*y2*x2-6*m*y2*x2+4*y2*y2) h4 (dc (L*x3*x3+M*x3*x3-2*m*x3*x3-2*L*x3*x2-2*M*x3*x2+4*m*x3*x2+L*x2*x2+M*x2*x2-2*m*x2*x2-2*x3*y2+2*y2*x2) h5 (dc (4*m*x3*y2-4*m*y2*x2+4*y2*y2) h6 (dc (-4*m*x3*y2+4*m*y2*x2-4*y2*y2) h7 (dc (L*M*x3+M*M*x3-2*L*l*x3-M*l*x3-L*m*x3-2*M*m*x3+3*l*m*x3+m*m*x3-L*M*x2-M*M*x2+2*L*l*x2+M*l*x2+L*m*x2+2*M*m*x2-3*l*m*x2-m*m*x2-4*m*y2) h8 (dc (-L*M*x3-M*M*x3+2*L*l*x3+M*l*x3+L*m*x3+2*M*m*x3-l*m*x3+m*m*x3+L*M*x2+M*M*x2-2*L*l*x2-M*l*x2-L*m*x2-2*M*m*x2+l*m*x2-m*m*x2-2*L*y2-2*M*y2+2*l*y2+6*m*y2) h9 (dc (-L*M*l*x3-M*l*l*x3+L*M*m*x3-L*l*m*x3-l*l*m*x3-L*m*m*x3-M*m*m*x3+m*m*m*x3+L*M*l*x2+M*l*l*x2-L*M*m*x2+L*l*m*x2+l*l*m*x2+L*m*m*x2+M*m*m*x2-m*m*m*x2+L*x1*x3+M*x1*x3+2*L*x3*x3-M*x3*x3-3*m*x3*x3+2*L*L*y2-2*M*M*y2-2*l*l*y2+2*L*m*y2+2*M*m*y2+2*l*m*y2-4*m*m*y2-L*x1*x2-M*x1*x2+L*x3*x2+M*x3*x2-3*L*x2*x2-3*M*x2*x2+6*m*x2*x2+4*x1*y2-2*x3*y2-2*y2*x2) h10 (dc (-M*l*x3-M*m*x3-l*m*x3-m*m*x3+M*l*x2+M*m*x2+l*m*x2+m*m*x2+2*L*y2-2*l*y2) h11 (dc (-L*x3*x3-M*x3*x3+2*m*x3*x3+2*L*x3*x2+2*M*x3*x2-4*m*x3*x2-L*x2*x2-M*x2*x2+2*m*x2*x2+2*x3*y2-2*y2*x2) h12 (dc (L*L*M*l*x3+L*M*l*l*x3-L*L*M*m*x3+L*L*l*m*x3-2*L*M*l*m*x3+L*l*l*m*x3-M*l*l*m*x3+L*L*m*m*x3+L*M*m*m*x3+M*l*m*m*x3-l*l*m*m*x3-L*m*m*m*x3-l*m*m*m*x3-L*L*M*l*x2-L*M*l*l*x2+L*L*M*m*x2-L*L*l*m*x2+2*L*M*l*m*x2-L*l*l*m*x2+M*l*l*m*x2-L*L*m*m*x2-L*M*m*m*x2-M*l*m*m*x2+l*l*m*m*x2+L*m*m*m*x2+l*m*m*m*x2-L*L*x1*x3-2*L*M*x1*x3-M*M*x1*x3+L*l*x1*x3+M*l*x1*x3+L*m*x1*x3+3*M*m*x1*x3-2*l*m*x1*x3-2*L*L*x3*x3+L*M*x3*x3-2*L*l*x3*x3+3*L*m*x3*x3-M*m*x3*x3+2*l*m*x3*x3-m*m*x3*x3-2*L*L*L*y2+2*L*M*M*y2+2*M*M*l*y2+2*L*l*l*y2-2*L*L*m*y2-2*L*M*m*y2-4*L*l*m*y2-2*M*l*m*y2-2*l*l*m*y2+4*L*m*m*y2+4*l*m*m*y2+L*L*x1*x2+2*L*M*x1*x2+M*M*x1*x2-L*l*x1*x2-M*l*x1*x2-L*m*x1*x2-3*M*m*x1*x2+2*l*m*x1*x2-L*L*x3*x2+M*M*x3*x2-3*L*l*x3*x2-M*l*x3*x2-L*m*x3*x2-M*m*x3*x2+4*l*m*x3*x2+2*m*m*x3*x2+3*L*L*x2*x2+2*L*M*x2*x2-M*M*x2*x2+5*L*l*x2*x2+4*M*l*x2*x2-5*L*m*x2*x2+2*M*m*x2*x2-9*l*m*x2*x2-m*m*x2*x2-6*L*x1*y2-2*l*x1*y2+4*m*x1*y2+8*L*x3*y2+4*M*x3*y2-8*m*x3*y2-2*L*y2*x2-4*M*y2*x2+2*l*y2*x2+4*m*y2*x2) h13 (dz p))))))))))))))) (by clear h0 h1 h2 h3 h4 h5 h6 h7 h8 h9 h10 h11 h12 h13;grind)
theorem aKs {p y7 x7 y5 x5 yt xt ys xs y1 y3 L M l m x1 x3 y2 x2:Int} (h0:p∣l*(x1-x2)-(y1-y2)) (h1:p∣m*(x2-x3)-(y2-y3)) (h2:p∣xs-(l*l-x1-x2)) (h3:p∣ys-(l*(x1-xs)-y1)) (h4:p∣xt-(m*m-x2-x3)) (h5:p∣yt-(m*(x2-xt)-y2)) (h6:p∣y5-(L*(xs-x5)-ys)) (h7:p∣x7-(M*M-x1-xt)) (h8:p∣y7-(M*(x1-x7)-y1)) (h9:p∣l*(y1+y2)-(x1*x1+x1*x2+x2*x2)) (h10:p∣m*(y2+y3)-(x2*x2+x2*x3+x3*x3)) (h11:p∣L*(xs-x3)-(ys-y3)) (h12:p∣L*(ys+y3)-(xs*xs+xs*x3+x3*x3)) (h13:p∣M*(x1-xt)-(y1-yt)) (h14:p∣xs-x3) (h15:p∣x5-x7):p∣4*(y2*y3)*(y5-y7):=
 dk (dc (-M*M*M*l*x3+M*M*l*l*x3+2*L*M*l*m*x3+2*M*M*l*m*x3-4*L*l*l*m*x3-4*M*l*l*m*x3+4*L*M*m*m*x3-2*L*l*m*m*x3-2*M*l*m*m*x3+2*l*l*m*m*x3-2*M*m*m*m*x3+2*l*m*m*m*x3+2*m*m*m*m*x3+M*M*M*l*x2-M*M*l*l*x2-2*L*M*l*m*x2-2*M*M*l*m*x2+4*L*l*l*m*x2+4*M*l*l*m*x2-4*L*M*m*m*x2+2*L*l*m*m*x2+2*M*l*m*m*x2-2*l*l*m*m*x2+2*M*m*m*m*x2-2*l*m*m*m*x2-2*m*m*m*m*x2+2*L*m*x1*x3+2*M*m*x1*x3-M*M*x3*x3-2*M*l*x3*x3+2*l*l*x3*x3+6*L*m*x3*x3-8*m*m*x3*x3+2*M*M*M*y2+2*L*M*l*y2+4*L*l*l*y2+4*L*M*m*y2-2*M*M*m*y2+6*L*l*m*y2-2*M*l*m*y2-4*l*l*m*y2+8*L*m*m*y2-2*M*m*m*y2-6*l*m*m*y2-8*m*m*m*y2-2*L*m*x1*x2-2*M*m*x1*x2+2*M*M*x3*x2+M*l*x3*x2-l*l*x3*x2-2*L*m*x3*x2-2*M*m*x3*x2+4*m*m*x3*x2+2*M*M*x2*x2+4*M*l*x2*x2-l*l*x2*x2-4*L*m*x2*x2-4*M*m*x2*x2+3*l*m*x2*x2+4*m*m*x2*x2-2*x3*x3*x3-6*L*x1*y2-2*M*x1*y2+6*m*x1*y2-2*L*x3*y2+4*M*x3*y2+2*l*x3*y2-2*m*x3*y2+3*x3*x3*x2-4*L*y2*x2+4*M*y2*x2-2*l*y2*x2+8*m*y2*x2-3*x1*x2*x2+9*x3*x2*x2+2*x2*x2*x2-4*y2*y2) h0 (dc (-4*y7*y2+4*y5*y2-M*M*M*m*x3+4*L*M*l*m*x3+2*M*l*l*m*x3+2*L*M*m*m*x3+M*M*m*m*x3-2*M*l*m*m*x3+2*l*l*m*m*x3+2*L*m*m*m*x3+2*l*m*m*m*x3-2*m*m*m*m*x3+M*M*M*m*x2-4*L*M*l*m*x2-2*M*l*l*m*x2-2*L*M*m*m*x2-M*M*m*m*x2+2*M*l*m*m*x2-2*l*l*m*m*x2-2*L*m*m*m*x2-2*l*m*m*m*x2+2*m*m*m*m*x2-2*L*m*x1*x3-2*M*m*x1*x3-4*L*m*x3*x3+4*m*m*x3*x3+4*L*M*M*y2-2*M*M*M*y2+4*L*M*l*y2+2*M*M*l*y2+2*M*l*l*y2+2*L*M*m*y2+8*L*l*m*y2-2*M*l*m*y2+2*l*l*m*y2-2*L*m*m*y2+4*M*m*m*y2-8*l*m*m*y2+2*m*m*m*y2+2*L*m*x1*x2+2*M*m*x1*x2-2*L*m*x3*x2-M*m*x3*x2+m*m*x3*x2-3*M*M*x2*x2+6*L*m*x2*x2+10*M*m*x2*x2-2*m*m*x2*x2-2*L*x1*y2+2*M*x1*y2-4*l*x1*y2-4*m*x1*y2+8*L*x3*y2-2*M*x3*y2+2*l*x3*y2-12*m*x3*y2+6*L*y2*x2-6*M*y2*x2+2*l*y2*x2-2*m*y2*x2+3*x1*x2*x2-6*x3*x2*x2-6*x2*x2*x2) h1 (dc (-2*xs*M*l*m*x3-2*xs*M*m*m*x3-2*xs*l*m*m*x3-2*xs*m*m*m*x3+2*xs*M*l*m*x2+2*xs*M*m*m*x2+2*xs*l*m*m*x2+2*xs*m*m*m*x2-2*xs*M*M*y2-2*xs*M*l*y2-2*xs*M*m*y2-2*xs*l*m*y2+4*xs*x1*y2-2*xs*x3*y2-2*xs*y2*x2-M*M*M*x1*x3+M*M*l*x1*x3+2*L*M*m*x1*x3+2*M*M*m*x1*x3-4*L*l*m*x1*x3-2*M*l*m*x1*x3-2*L*m*m*x1*x3-2*M*m*m*x1*x3+4*l*m*m*x1*x3+2*m*m*m*x1*x3+M*M*M*x1*x2-M*M*l*x1*x2-2*L*M*m*x1*x2-2*M*M*m*x1*x2+4*L*l*m*x1*x2+2*M*l*m*x1*x2+2*L*m*m*x1*x2+2*M*m*m*x1*x2-4*l*m*m*x1*x2-2*m*m*m*x1*x2+M*M*M*x3*x2-M*M*l*x3*x2-2*L*M*m*x3*x2-2*M*M*m*x3*x2+4*L*l*m*x3*x2+4*M*l*m*x3*x2+2*L*m*m*x3*x2+4*M*m*m*x3*x2-2*l*m*m*x3*x2-M*M*M*x2*x2+M*M*l*x2*x2+2*L*M*m*x2*x2+2*M*M*m*x2*x2-4*L*l*m*x2*x2-4*M*l*m*x2*x2-2*L*m*m*x2*x2-4*M*m*m*x2*x2+2*l*m*m*x2*x2-2*M*x1*x3*x3+2*l*x1*x3*x3+2*L*M*x1*y2+2*M*M*x1*y2+4*L*l*x1*y2+2*M*l*x1*y2+6*L*m*x1*y2-2*M*m*x1*y2-2*l*m*x1*y2-8*m*m*x1*y2+2*M*M*x3*y2-8*L*m*x3*y2-8*M*m*x3*y2+4*m*m*x3*y2+M*x1*x3*x2-l*x1*x3*x2+2*M*x3*x3*x2-2*l*x3*x3*x2-2*L*M*y2*x2-2*M*M*y2*x2-4*L*l*y2*x2+2*L*m*y2*x2+12*M*m*y2*x2+4*l*m*y2*x2+4*m*m*y2*x2+4*M*x1*x2*x2-l*x1*x2*x2+3*m*x1*x2*x2-M*x3*x2*x2+l*x3*x2*x2-4*M*x2*x2*x2+l*x2*x2*x2-3*m*x2*x2*x2-4*x1*x1*y2+4*x1*x3*y2+4*x3*x3*y2+8*L*y2*y2-8*m*y2*y2-4*x3*y2*x2) h2 (dc (-2*M*l*l*m*x3+4*L*M*m*m*x3-2*l*l*m*m*x3-2*M*m*m*m*x3+2*m*m*m*m*x3+2*M*l*l*m*x2-4*L*M*m*m*x2+2*l*l*m*m*x2+2*M*m*m*m*x2-2*m*m*m*m*x2+2*L*m*x1*x3+2*M*m*x1*x3+4*L*m*x3*x3-2*M*m*x3*x3-6*m*m*x3*x3+2*M*M*M*y2-2*M*M*l*y2-2*M*l*l*y2+4*L*M*m*y2-2*M*M*m*y2-2*l*l*m*y2+8*L*m*m*y2-2*M*m*m*y2+2*l*m*m*y2-8*m*m*m*y2-2*L*m*x1*x2-2*M*m*x1*x2+2*L*m*x3*x2+2*M*m*x3*x2+3*M*M*x2*x2-6*L*m*x2*x2-6*M*m*x2*x2+6*m*m*x2*x2-6*L*x1*y2-2*M*x1*y2+4*l*x1*y2+6*m*x1*y2-4*L*x3*y2+2*M*x3*y2-2*l*x3*y2+4*m*x3*y2-2*L*y2*x2+6*M*y2*x2-2*l*y2*x2+2*m*y2*x2-3*x1*x2*x2+6*x3*x2*x2+6*x2*x2*x2-4*y2*y2) h3 (dc (M*M*M*x3*x3-2*L*M*m*x3*x3-M*M*m*x3*x3-2*L*m*m*x3*x3+2*m*m*m*x3*x3-2*M*M*M*x3*x2+4*L*M*m*x3*x2+2*M*M*m*x3*x2+4*L*m*m*x3*x2-4*m*m*m*x3*x2+M*M*M*x2*x2-2*L*M*m*x2*x2-M*M*m*x2*x2-2*L*m*m*x2*x2+2*m*m*m*x2*x2+2*M*x3*x3*x3+2*m*x3*x3*x3-2*L*M*x3*y2-2*M*M*x3*y2+2*L*m*x3*y2-4*M*m*x3*y2+2*m*m*x3*y2-3*M*x3*x3*x2-3*m*x3*x3*x2+2*L*M*y2*x2+2*M*M*y2*x2-2*L*m*y2*x2+4*M*m*y2*x2-2*m*m*y2*x2-3*M*x3*x2*x2-3*m*x3*x2*x2+4*M*x2*x2*x2+4*m*x2*x2*x2+4*L*y2*y2-8*M*y2*y2-4*m*y2*y2) h4 (dc (-M*M*x3*x3+2*L*m*x3*x3+2*M*m*x3*x3-2*m*m*x3*x3+2*M*M*x3*x2-4*L*m*x3*x2-4*M*m*x3*x2+4*m*m*x3*x2-M*M*x2*x2+2*L*m*x2*x2+2*M*m*x2*x2-2*m*m*x2*x2-2*x3*x3*x3+2*L*x3*y2+2*M*x3*y2-2*m*x3*y2+3*x3*x3*x2-2*L*y2*x2-2*M*y2*x2+2*m*y2*x2+3*x3*x2*x2-4*x2*x2*x2+4*y2*y2) h5 (dc (4*m*x3*y2-4*m*y2*x2+4*y2*y2) h6 (dc (-4*L*m*x3*y2+4*M*m*x3*y2+4*L*m*y2*x2-4*M*m*y2*x2-4*L*y2*y2+4*M*y2*y2) h7 (dc (-4*m*x3*y2+4*m*y2*x2-4*y2*y2) h8 (dc (-M*M*M*x3+M*M*l*x3+2*L*M*m*x3+2*M*M*m*x3-4*L*l*m*x3-2*M*l*m*x3-2*L*m*m*x3-2*M*m*m*x3+4*l*m*m*x3+2*m*m*m*x3+M*M*M*x2-M*M*l*x2-2*L*M*m*x2-2*M*M*m*x2+4*L*l*m*x2+2*M*l*m*x2+2*L*m*m*x2+2*M*m*m*x2-4*l*m*m*x2-2*m*m*m*x2-2*M*x3*x3+2*l*x3*x3+2*L*M*y2+2*M*M*y2+4*L*l*y2+2*M*l*y2+6*L*m*y2-2*M*m*y2-2*l*m*y2-8*m*m*y2+M*x3*x2-l*x3*x2+4*M*x2*x2-l*x2*x2+3*m*x2*x2-4*x1*y2+4*x3*y2) h9 (dc (M*M*M*x3-2*L*M*m*x3-M*M*m*x3+4*L*l*m*x3+2*M*l*m*x3+2*L*m*m*x3+2*M*m*m*x3-2*l*m*m*x3-M*M*M*x2+2*L*M*m*x2+M*M*m*x2-4*L*l*m*x2-2*M*l*m*x2-2*L*m*m*x2-2*M*m*m*x2+2*l*m*m*x2+2*M*x3*x3+2*m*x3*x3-2*L*M*y2+2*M*M*y2-4*L*l*y2+2*M*l*y2-6*L*m*y2-2*M*m*y2+6*l*m*y2+6*m*m*y2-M*x3*x2-m*x3*x2-4*M*x2*x2-4*m*x2*x2-2*x1*y2+4*x3*y2+4*y2*x2) h10 (dc (-2*L*M*l*m*x3-2*M*l*l*m*x3+2*L*M*m*m*x3-2*L*l*m*m*x3-2*l*l*m*m*x3-2*L*m*m*m*x3-2*M*m*m*m*x3+2*m*m*m*m*x3+2*L*M*l*m*x2+2*M*l*l*m*x2-2*L*M*m*m*x2+2*L*l*m*m*x2+2*l*l*m*m*x2+2*L*m*m*m*x2+2*M*m*m*m*x2-2*m*m*m*m*x2+2*L*m*x1*x3+2*M*m*x1*x3+4*L*m*x3*x3-2*M*m*x3*x3-6*m*m*x3*x3-2*L*M*M*y2+2*M*M*M*y2-2*L*M*l*y2-2*M*M*l*y2-2*M*l*l*y2+2*L*M*m*y2-2*M*M*m*y2-2*L*l*m*y2-2*l*l*m*y2+8*L*m*m*y2-2*M*m*m*y2+2*l*m*m*y2-8*m*m*m*y2-2*L*m*x1*x2-2*M*m*x1*x2+2*L*m*x3*x2+2*M*m*x3*x2+3*M*M*x2*x2-6*L*m*x2*x2-6*M*m*x2*x2+6*m*m*x2*x2-2*L*x1*y2-2*M*x1*y2+4*l*x1*y2+6*m*x1*y2-6*L*x3*y2+2*M*x3*y2-2*l*x3*y2+8*m*x3*y2-4*L*y2*x2+6*M*y2*x2-2*l*y2*x2-2*m*y2*x2-3*x1*x2*x2+6*x3*x2*x2+6*x2*x2*x2) h11 (dc (-2*M*l*m*x3-2*M*m*m*x3-2*l*m*m*x3-2*m*m*m*x3+2*M*l*m*x2+2*M*m*m*x2+2*l*m*m*x2+2*m*m*m*x2-2*M*M*y2-2*M*l*y2-2*M*m*y2-2*l*m*y2+4*x1*y2-2*x3*y2-2*y2*x2) h12 (dc (M*M*x3*x3-2*L*m*x3*x3-2*M*m*x3*x3+2*m*m*x3*x3-2*M*M*x3*x2+4*L*m*x3*x2+4*M*m*x3*x2-4*m*m*x3*x2+M*M*x2*x2-2*L*m*x2*x2-2*M*m*x2*x2+2*m*m*x2*x2+2*x3*x3*x3-2*L*x3*y2-2*M*x3*y2+2*m*x3*y2-3*x3*x3*x2+2*L*y2*x2+2*M*y2*x2-2*m*y2*x2-3*x3*x2*x2+4*x2*x2*x2-4*y2*y2) h13 (dc (2*L*L*M*l*m*x3+2*L*M*l*l*m*x3-2*L*L*M*m*m*x3+2*L*L*l*m*m*x3-4*L*M*l*m*m*x3+2*L*l*l*m*m*x3-2*M*l*l*m*m*x3+2*L*L*m*m*m*x3+2*L*M*m*m*m*x3+2*M*l*m*m*m*x3-2*l*l*m*m*m*x3-2*L*m*m*m*m*x3-2*l*m*m*m*m*x3-2*L*L*M*l*m*x2-2*L*M*l*l*m*x2+2*L*L*M*m*m*x2-2*L*L*l*m*m*x2+4*L*M*l*m*m*x2-2*L*l*l*m*m*x2+2*M*l*l*m*m*x2-2*L*L*m*m*m*x2-2*L*M*m*m*m*x2-2*M*l*m*m*m*x2+2*l*l*m*m*m*x2+2*L*m*m*m*m*x2+2*l*m*m*m*m*x2+M*M*M*x1*x3-M*M*l*x1*x3-2*L*L*m*x1*x3-4*L*M*m*x1*x3-2*M*M*m*x1*x3+2*L*l*m*x1*x3+2*M*l*m*x1*x3+2*L*m*m*x1*x3+4*M*m*m*x1*x3-2*l*m*m*x1*x3-4*L*L*m*x3*x3+2*L*M*m*x3*x3-4*L*l*m*x3*x3+6*L*m*m*x3*x3-2*M*m*m*x3*x3+4*l*m*m*x3*x3-2*m*m*m*x3*x3+2*L*L*M*M*y2-2*L*M*M*M*y2+2*L*L*M*l*y2+2*L*M*M*l*y2-2*M*M*M*l*y2+2*L*M*l*l*y2-2*L*L*M*m*y2+2*L*M*M*m*y2+2*L*L*l*m*y2-4*L*M*l*m*y2+2*M*M*l*m*y2+2*L*l*l*m*y2-2*M*l*l*m*y2-8*L*L*m*m*y2+2*L*M*m*m*y2-10*L*l*m*m*y2+2*M*l*m*m*y2-2*l*l*m*m*y2+8*L*m*m*m*y2+8*l*m*m*m*y2-M*M*M*x1*x2+M*M*l*x1*x2+2*L*L*m*x1*x2+4*L*M*m*x1*x2+2*M*M*m*x1*x2-2*L*l*m*x1*x2-2*M*l*m*x1*x2-2*L*m*m*x1*x2-4*M*m*m*x1*x2+2*l*m*m*x1*x2-M*M*M*x3*x2+M*M*l*x3*x2-2*L*L*m*x3*x2+2*M*M*m*x3*x2-6*L*l*m*x3*x2-2*M*l*m*x3*x2-2*L*m*m*x3*x2+6*l*m*m*x3*x2+4*m*m*m*x3*x2-3*L*M*M*x2*x2+M*M*M*x2*x2-4*M*M*l*x2*x2+6*L*L*m*x2*x2+4*L*M*m*x2*x2-2*M*M*m*x2*x2+10*L*l*m*x2*x2+8*M*l*m*x2*x2-4*L*m*m*x2*x2+2*M*m*m*x2*x2-10*l*m*m*x2*x2-2*m*m*m*x2*x2+2*M*x1*x3*x3-2*l*x1*x3*x3+2*L*L*x1*y2-2*L*l*x1*y2+2*M*l*x1*y2-12*L*m*x1*y2+4*M*m*x1*y2-2*l*m*x1*y2+8*m*m*x1*y2+6*L*L*x3*y2-2*L*M*x3*y2-4*M*M*x3*y2+6*L*l*x3*y2-4*M*l*x3*y2+4*L*m*x3*y2+6*M*m*x3*y2-6*l*m*x3*y2-4*m*m*x3*y2-M*x1*x3*x2+l*x1*x3*x2-2*M*x3*x3*x2+2*l*x3*x3*x2+4*L*L*y2*x2-4*L*M*y2*x2+4*M*M*y2*x2+8*L*l*y2*x2-4*M*l*y2*x2-4*L*m*y2*x2-10*M*m*y2*x2-4*l*m*y2*x2-4*m*m*y2*x2+3*L*x1*x2*x2-4*M*x1*x2*x2+4*l*x1*x2*x2-3*m*x1*x2*x2-6*L*x3*x2*x2+M*x3*x2*x2-7*l*x3*x2*x2-6*L*x2*x2*x2+4*M*x2*x2*x2-7*l*x2*x2*x2+3*m*x2*x2*x2+2*x1*x3*y2-6*x3*x3*y2-4*L*y2*y2+4*l*y2*y2+8*m*y2*y2-2*x1*y2*x2+4*x3*y2*x2+2*y2*x2*x2) h14 (dc (-4*L*m*x3*y2+4*L*m*y2*x2-4*L*y2*y2) h15 (dz p))))))))))))))))) (by clear h0 h1 h2 h3 h4 h5 h6 h7 h8 h9 h10 h11 h12 h13 h14 h15;grind)
end Go.Proofs.YtohjofabochgfaaGreat

namespace Go.Proofs.YtohjofabochgfaaGreat
theorem Pr.kx {p:Nat} (h:Pr p) {a b:Int} (hd:(p:Int)∣a*b):(p:Int)∣a\/(p:Int)∣b:=by
 rw [Int.ofNat_dvd_left,Int.natAbs_mul] at hd
 rcases h.alp hd with h1|h1
 ·exact .inl (Int.ofNat_dvd_left.2 h1)
 ·exact .inr (Int.ofNat_dvd_left.2 h1)
def nm (p:Nat) (z:Int):Nat:=(z%(p:Int)).toNat
theorem auZ {p:Nat} (hp:0<p) (z:Int):((nm p z:Nat):Int)=z%(p:Int):=by
 unfold nm
 have:=Int.emod_nonneg z (show (p:Int)≠0 by omega)
 omega
theorem r5 {p:Nat} (hp:0<p) (z:Int):(p:Int)∣((nm p z:Nat):Int)-z:=by
 rw [auZ hp]
 have:=Int.emod_add_mul_ediv z p
 exact ⟨-(z/p),by grind⟩
theorem K9 {p:Nat} (hp:0<p) (z:Int):nm p z<p:=by
 have h:=auZ hp z
 have:=Int.emod_lt_of_pos z (show (0:Int)<p by omega)
 omega
theorem lE {p a b:Nat} (ha:a<p) (hb:b<p) (h:(p:Int)∣(a:Int)-(b:Int)):a=b:=by
 obtain ⟨k,hk⟩:=h
 have hpk:(p:Int)*k<p*1/\(p:Int)*(-1)<p*k:=by constructor<;>omega
 have h1:=Int.lt_of_mul_lt_mul_left hpk.1 (by omega)
 have h2:=Int.lt_of_mul_lt_mul_left hpk.2 (by omega)
 have:k=0:=by omega
 subst this
 omega
theorem aBA {p a:Nat} {z:Int} (ha:a<p) (h:(p:Int)∣(a:Int)-z):nm p z=a:=by
 have hp:0<p:=by omega
 refine lE (K9 hp z) ha ?_
 obtain ⟨k,hk⟩:=h
 obtain ⟨k2,h2⟩:=r5 hp z
 exact ⟨k2-k,by grind⟩
def aIE (p:Nat) (a:Int):Int:=((nm p a^(p-2):Nat):Int)
theorem avw {p:Nat} (h:Pr p) {a:Int} (ha:¬(p:Int)∣a):(p:Int)∣a*aIE p a-1:=by
 have hp:=h.pos
 have h2:=h.1
 obtain ⟨k,hk⟩:=r5 hp a
 have hn:¬p∣nm p a:=λhd=>by
  obtain ⟨c,hc⟩:=Int.natCast_dvd_natCast.2 hd
  exact ha ⟨c-k,by grind⟩
 have hf:=alg h hn
 have e:nm p a^(p-1)=nm p a*nm p a^(p-2):=by
  rw [show p-1=(p-2)+1 by omega,Nat.pow_succ,Nat.mul_comm]
 rw [e] at hf
 have hd:=Nat.div_add_mod (nm p a*nm p a^(p-2)) p
 rw [hf] at hd
 unfold aIE
 generalize nm p a^(p-2)=i at*
 have hd2:((p:Nat):Int)*((nm p a*i/p:Nat):Int)+1=(nm p a:Int)*(i:Int):=by
  have:=congrArg (λn:Nat=>(n:Int)) hd
  simp only [Int.natCast_add,Int.natCast_mul] at this
  exact this
 exact ⟨((nm p a*i/p:Nat):Int)-k*i,by grind⟩
structure Cur (p b:Nat):Prop where
 pr:Pr p
 big:5<=p
 n2:∀ x:Int,¬(p:Int)∣x*x*x+b
theorem Cur.pos {p b:Nat} (c:Cur p b):0<p:=c.pr.pos
theorem Cur.no2 {p b:Nat} (c:Cur p b):¬(p:Int)∣2:=λh=>by
 have:=Int.le_of_dvd (by decide) h
 have:=c.big
 omega
theorem Cur.no4 {p b:Nat} (c:Cur p b):¬(p:Int)∣4:=λh=>by
 have:=Int.le_of_dvd (by decide) h
 have:=c.big
 omega
abbrev Cv (p b:Nat) (x y:Int):Prop:=(p:Int)∣y*y-x*x*x-b
theorem Cur.yne {p b:Nat} (c:Cur p b) {x y:Int} (h:Cv p b x y):¬(p:Int)∣y:=λhy=>by
 obtain ⟨k,hk⟩:=h
 obtain ⟨m,hm⟩:=hy
 exact c.n2 x ⟨m*y-k,by grind⟩
abbrev PtQ:Type:=Option (Nat×Nat)
def OnQ (p b:Nat):PtQ->Prop
 |none=>True
 |some P=>P.1<p/\P.2<p/\Cv p b P.1 P.2
structure Lin (p:Nat) (x1 y1 x2 y2 l:Int):Prop where
 a:(p:Int)∣l*(x1-x2)-(y1-y2)
 b:(p:Int)∣l*(y1+y2)-(x1*x1+x1*x2+x2*x2)
structure Thd (p:Nat) (x1 y1 x2 l x3 y3:Int):Prop where
 x:(p:Int)∣x3-(l*l-x1-x2)
 y:(p:Int)∣y3-(l*(x1-x3)-y1)
def AH (p:Nat) (P R:Nat×Nat):Int:=if P.1=R.1 then 3*P.1*P.1*aIE p (P.2+P.2) else ((R.2:Int)-P.2)*aIE p ((R.1:Int)-P.1)
def JB (p:Nat) (P R:Nat×Nat) (l:Int):Nat×Nat:=(nm p (l*l-P.1-R.1),nm p (l*(P.1-nm p (l*l-P.1-R.1))-P.2))
def gS (p:Nat):PtQ->PtQ->PtQ
 |none,R=>R
 |some P,none=>some P
 |some P,some R=>if P.1=R.1/\P.2≠R.2 then none else some (JB p P R (AH p P R))
def Zf (p:Nat):PtQ->PtQ
 |none=>none
 |some P=>some (P.1,nm p (-P.2))
variable {p b:Nat}
theorem Xh (c:Cur p b) {P R:Nat×Nat} (hP:OnQ p b (some P)) (hR:OnQ p b (some R)) (h:¬(P.1=R.1/\P.2≠R.2)):Lin p P.1 P.2 R.1 R.2 (AH p P R):=by
 obtain ⟨x1,y1⟩:=P
 obtain ⟨x2,y2⟩:=R
 obtain ⟨hx1,hy1,hc1⟩:=hP
 obtain ⟨hx2,hy2,hc2⟩:=hR
 dsimp only at*
 unfold AH
 dsimp only
 by_cases e:x1=x2
 ·have e2:y1=y2:=Classical.byContradiction λh2=>h ⟨e,h2⟩
  subst e e2
  rw [if_pos rfl]
  have hn:¬(p:Int)∣(y1:Int)+y1:=λhd=>by
   rw [<-Int.two_mul] at hd
   rcases c.pr.kx hd with h1|h1
   ·exact c.no2 h1
   ·exact c.yne hc1 h1
  obtain ⟨k,hk⟩:=avw c.pr hn
  generalize aIE p ((y1:Int)+y1)=i at*
  exact ⟨⟨0,by grind⟩,⟨3*x1*x1*k,by grind⟩⟩
 ·rw [if_neg e]
  have hn:¬(p:Int)∣(x2:Int)-x1:=λhd=>e (lE hx2 hx1 hd).symm
  have hn':¬(p:Int)∣(x1:Int)-x2:=λ⟨k,hk⟩=>hn ⟨-k,by grind⟩
  obtain ⟨k,hk⟩:=avw c.pr hn
  generalize aIE p ((x2:Int)-x1)=i at*
  have ha:(p:Int)∣((y2:Int)-y1)*i*((x1:Int)-x2)-(y1-y2):=⟨(y1-y2)*k,by grind⟩
  refine ⟨ha,?_⟩
  have hc1':(p:Int)∣(y1:Int)*y1-x1*x1*x1-b:=hc1
  have hc2':(p:Int)∣(y2:Int)*y2-x2*x2*x2-b:=hc2
  rcases c.pr.kx (aIb hc1' hc2' ha) with h1|h1
  ·exact absurd h1 hn'
  ·exact h1
theorem aBS (c:Cur p b) {x1 y1 x2 y2 l m:Int} (hy:¬(p:Int)∣y1) (h1:Lin p x1 y1 x2 y2 l) (h2:Lin p x1 y1 x2 y2 m):(p:Int)∣l-m:=by
 obtain ⟨k1,e1⟩:=h1.a
 obtain ⟨k2,e2⟩:=h2.a
 obtain ⟨k3,e3⟩:=h1.b
 obtain ⟨k4,e4⟩:=h2.b
 rcases c.pr.kx (a:=l-m) (b:=x1-x2) ⟨k1-k2,by grind⟩ with h|h
 ·exact h
 ·rcases c.pr.kx (a:=l-m) (b:=y1+y2) ⟨k3-k4,by grind⟩ with h'|h'
  ·exact h'
  ·obtain ⟨m1,f1⟩:=h
   obtain ⟨m2,f2⟩:=h'
   rcases c.pr.kx (a:=2) (b:=y1) ⟨l*m1-k1+m2,by grind⟩ with h3|h3
   ·exact absurd h3 c.no2
   ·exact absurd h3 hy
theorem asA (c:Cur p b) {P R S:Nat×Nat} {l:Int} (hP:OnQ p b (some P)) (hR:OnQ p b (some R)) (hl:Lin p P.1 P.2 R.1 R.2 l) (hS1:S.1<p) (hS2:S.2<p)
 (ht:Thd p P.1 P.2 R.1 l S.1 S.2):gS p (some P) (some R)=some S:=by
 have hn:¬(P.1=R.1/\P.2≠R.2):=λ⟨e1,e2⟩=>by
  obtain ⟨k,hk⟩:=hl.a
  rw [e1] at hk
  exact e2 (lE hP.2.1 hR.2.1 ⟨-k,by grind⟩)
 have hs:=Xh c hP hR hn
 obtain ⟨k,hk⟩:=aBS c (c.yne hP.2.2) hs hl
 have:gS p (some P) (some R)=some (JB p P R (AH p P R)):=if_neg hn
 rw [this]
 congr 1
 generalize AH p P R=s at*
 obtain ⟨k1,h1⟩:=ht.x
 obtain ⟨k2,h2⟩:=ht.y
 have ex:nm p (s*s-P.1-R.1)=S.1:=aBA hS1 ⟨k1-k*(s+l),by grind⟩
 unfold JB
 rw [ex]
 have ey:nm p (s*((P.1:Int)-S.1)-P.2)=S.2:=aBA hS2 ⟨k2-k*(P.1-S.1),by grind⟩
 rw [ey]
theorem rZ (c:Cur p b) {P R S:Nat×Nat} (hP:OnQ p b (some P)) (hR:OnQ p b (some R)) (h:gS p (some P) (some R)=some S):
 S.1<p/\S.2<p/\∃ l,Lin p P.1 P.2 R.1 R.2 l/\Thd p P.1 P.2 R.1 l S.1 S.2:=by
 by_cases hn:P.1=R.1/\P.2≠R.2
 ·have:gS p (some P) (some R)=none:=if_pos hn
  rw [this] at h
  cases h
 ·have hs:=Xh c hP hR hn
  have:gS p (some P) (some R)=some (JB p P R (AH p P R)):=if_neg hn
  rw [this] at h
  cases h
  exact ⟨K9 c.pos _,K9 c.pos _,_,hs,r5 c.pos _,r5 c.pos _⟩
theorem K5 (c:Cur p b) {P:PtQ} (h:OnQ p b P):OnQ p b (Zf p P):=by
 cases P with
 |none=>trivial
 |some P=>
  obtain ⟨k,hk⟩:=r5 c.pos (-(P.2:Int))
  obtain ⟨m,hm⟩:=h.2.2
  exact ⟨h.1,K9 c.pos _,⟨m+k*((nm p (-(P.2:Int)):Int)-P.2),by show ((nm p (-(P.2:Int)):Nat):Int)*(nm p (-(P.2:Int)):Nat)-(P.1:Int)*P.1*P.1-b=_;grind⟩⟩
theorem xN (c:Cur p b) {P R:PtQ} (hP:OnQ p b P) (hR:OnQ p b R):OnQ p b (gS p P R):=by
 cases P with
 |none=>exact hR
 |some P=>
  cases R with
  |none=>exact hP
  |some R=>
   cases h:gS p (some P) (some R) with
   |none=>trivial
   |some S=>
    obtain ⟨h1,h2,l,hl,ht⟩:=rZ c hP hR h
    exact ⟨h1,h2,aI5 ht.y ht.x hl.a hl.b hP.2.2⟩
theorem aDH (c:Cur p b) {P R:Nat×Nat} (hP:OnQ p b (some P)) (hR:OnQ p b (some R)) (h:P.1=R.1/\P.2≠R.2):some R=Zf p (some P):=by
 obtain ⟨x1,y1⟩:=P
 obtain ⟨x2,y2⟩:=R
 obtain ⟨hx1,hy1,hc1⟩:=hP
 obtain ⟨hx2,hy2,hc2⟩:=hR
 dsimp only at*
 obtain ⟨rfl,hne⟩:=h
 obtain ⟨k1,e1⟩:=hc1
 obtain ⟨k2,e2⟩:=hc2
 rcases c.pr.kx (a:=(y1:Int)-y2) (b:=(y1:Int)+y2) ⟨k1-k2,by grind⟩ with h|h
 ·exact absurd (lE hy1 hy2 h) hne
 ·obtain ⟨k,hk⟩:=h
  have:nm p (-(y1:Int))=y2:=aBA hy2 ⟨k,by grind⟩
  show _=some (x1,nm p (-(y1:Int)))
  rw [this]
theorem db (P:PtQ):gS p P none=P:=by cases P<;>rfl
theorem akj (P:PtQ):gS p none P=P:=rfl
theorem add_neg (c:Cur p b) {P:PtQ} (hP:OnQ p b P):gS p P (Zf p P)=none:=by
 cases P with
 |none=>rfl
 |some P=>
  refine if_pos ⟨rfl,λe=> ?_⟩
  have e:P.2=nm p (-(P.2:Int)):=e
  obtain ⟨k,hk⟩:=r5 c.pos (-(P.2:Int))
  rw [<-e] at hk
  rcases c.pr.kx (a:=2) (b:=(P.2:Int)) ⟨k,by grind⟩ with h|h
  ·exact c.no2 h
  ·exact c.yne hP.2.2 h
theorem neg_neg (c:Cur p b) {P:PtQ} (hP:OnQ p b P):Zf p (Zf p P)=P:=by
 cases P with
 |none=>rfl
 |some P=>
  obtain ⟨k,hk⟩:=r5 c.pos (-(P.2:Int))
  have:nm p (-((nm p (-(P.2:Int)):Nat):Int))=P.2:=aBA hP.2.1 ⟨k,by grind⟩
  show some (P.1,nm p (-((nm p (-(P.2:Int)):Nat):Int)))=_
  rw [this]
theorem add_comm (c:Cur p b) {P R:PtQ} (hP:OnQ p b P) (hR:OnQ p b R):gS p P R=gS p R P:=by
 cases P with
 |none=>exact (db R).symm
 |some P=>
  cases R with
  |none=>rfl
  |some R=>
   cases h:gS p (some P) (some R) with
   |none=>
    by_cases hn:P.1=R.1/\P.2≠R.2
    ·exact (if_pos ⟨hn.1.symm,λe=>hn.2 e.symm⟩).symm
    ·have:gS p (some P) (some R)=some (JB p P R (AH p P R)):=if_neg hn
     rw [this] at h
     cases h
   |some S=>
    obtain ⟨h1,h2,l,hl,ht⟩:=rZ c hP hR h
    obtain ⟨k1,e1⟩:=hl.a
    obtain ⟨k2,e2⟩:=hl.b
    obtain ⟨k3,e3⟩:=ht.x
    exact (asA c hR hP (l:=l) ⟨⟨-k1,by grind⟩,⟨k2,by grind⟩⟩ h1 h2 ⟨⟨k3,by grind⟩,aEE ht.y hl.a⟩).symm
theorem aK2 {p l x1 x2 y1 y2 z1 z2 k2 k5 k6:Int} (e2:l*(y1+y2)-(x1*x1+x1*x2+x2*x2)=p*k2) (e5:z1- -y1=p*k5) (e6:z2- -y2=p*k6):
 -l*(z1+z2)-(x1*x1+x1*x2+x2*x2)=p*(k2-l*(k5+k6)):=by grind
theorem aKn {p l x1 x3 y1 y3 z1 k2 k5:Int} (e2: -l*(-y1+y3)-(x1*x1+x1*x3+x3*x3)=p*k2) (e5:z1- -y1=p*k5):
 -l*(z1+y3)-(x1*x1+x1*x3+x3*x3)=p*(k2-l*k5):=by grind
theorem neg_add (c:Cur p b) {P R:PtQ} (hP:OnQ p b P) (hR:OnQ p b R):Zf p (gS p P R)=gS p (Zf p P) (Zf p R):=by
 cases P with
 |none=>rfl
 |some P=>
  cases R with
  |none=>rfl
  |some R=>
   have hP':=K5 c hP
   have hR':=K5 c hR
   obtain ⟨k5,e5⟩:=r5 c.pos (-(P.2:Int))
   obtain ⟨k6,e6⟩:=r5 c.pos (-(R.2:Int))
   cases h:gS p (some P) (some R) with
   |none=>
    by_cases hn:P.1=R.1/\P.2≠R.2
    ·have:=aDH c hP hR hn
     rw [this,add_neg c hP']
     rfl
    ·have:gS p (some P) (some R)=some (JB p P R (AH p P R)):=if_neg hn
     rw [this] at h
     cases h
   |some S=>
    obtain ⟨h1,h2,l,hl,ht⟩:=rZ c hP hR h
    obtain ⟨k1,e1⟩:=hl.a
    obtain ⟨k2,e2⟩:=hl.b
    obtain ⟨k3,e3⟩:=ht.x
    obtain ⟨k4,e4⟩:=ht.y
    obtain ⟨k7,e7⟩:=r5 c.pos (-(S.2:Int))
    have g1:Lin p ((P.1:Nat):Int) ((nm p (-(P.2:Int)):Nat):Int) ((R.1:Nat):Int) ((nm p (-(R.2:Int)):Nat):Int) (-l):=
     ⟨⟨-k1-k5+k6,by grind⟩,⟨k2-l*(k5+k6),aK2 e2 e5 e6⟩⟩
    have g2:Thd p ((P.1:Nat):Int) ((nm p (-(P.2:Int)):Nat):Int) ((R.1:Nat):Int) (-l) ((S.1:Nat):Int) ((nm p (-(S.2:Int)):Nat):Int):=
     ⟨⟨k3,by grind⟩,⟨-k4+k7+k5,by grind⟩⟩
    exact (asA c (P:=(P.1,nm p (-(P.2:Int)))) (R:=(R.1,nm p (-(R.2:Int)))) (S:=(S.1,nm p (-(S.2:Int)))) hP' hR' g1 h1 (K9 c.pos _) g2).symm
theorem cancel (c:Cur p b) {P R:PtQ} (hP:OnQ p b P) (hR:OnQ p b R):gS p (Zf p P) (gS p P R)=R:=by
 cases P with
 |none=>rfl
 |some P=>
  have hP':=K5 c hP
  cases R with
  |none=>
   rw [db,add_comm c hP' hP,add_neg c hP]
  |some R=>
   cases h:gS p (some P) (some R) with
   |none=>
    by_cases hn:P.1=R.1/\P.2≠R.2
    ·rw [db]
     exact (aDH c hP hR hn).symm
    ·have:gS p (some P) (some R)=some (JB p P R (AH p P R)):=if_neg hn
     rw [this] at h
     cases h
   |some S=>
    have hS:=xN c hP hR
    rw [h] at hS
    obtain ⟨h1,h2,l,hl,ht⟩:=rZ c hP hR h
    obtain ⟨k1,e1⟩:=hl.a
    obtain ⟨k2,e2⟩:=aKo ht.y ht.x hl.a hl.b
    obtain ⟨k3,e3⟩:=ht.x
    obtain ⟨k4,e4⟩:=ht.y
    obtain ⟨k5,e5⟩:=r5 c.pos (-(P.2:Int))
    have g1:Lin p ((P.1:Nat):Int) ((nm p (-(P.2:Int)):Nat):Int) ((S.1:Nat):Int) ((S.2:Nat):Int) (-l):=
     ⟨⟨k4-k5,by grind⟩,⟨k2-l*k5,aKn e2 e5⟩⟩
    have g2:Thd p ((P.1:Nat):Int) ((nm p (-(P.2:Int)):Nat):Int) ((S.1:Nat):Int) (-l) ((R.1:Nat):Int) ((R.2:Nat):Int):=
     ⟨⟨k3,by grind⟩,⟨k1+k5,by grind⟩⟩
    exact asA c (P:=(P.1,nm p (-(P.2:Int)))) hP' hS g1 hR.1 hR.2.1 g2
theorem Ux (c:Cur p b) {P R:PtQ} (hP:OnQ p b P) (hR:OnQ p b R) (h:gS p P R=none):R=Zf p P:=by
 have:=cancel c hP hR
 rw [h,db] at this
 exact this.symm
theorem Us (c:Cur p b) {u v z:Int} (hu:¬(p:Int)∣u) (hv:¬(p:Int)∣v) (h:(p:Int)∣u*v*z):(p:Int)∣z:=by
 rcases c.pr.kx h with h|h
 ·rcases c.pr.kx h with h|h
  ·exact absurd h hu
  ·exact absurd h hv
 ·exact h
theorem akf (c:Cur p b) {z:Int} (h:(p:Int)∣4*z):(p:Int)∣z:=(c.pr.kx h).resolve_left c.no4
theorem auO {X Y:Nat×Nat} (h1:X.1=Y.1) (h2:X.2=Y.2):X=Y:=by
 obtain ⟨X1,X2⟩:=X
 obtain ⟨Y1,Y2⟩:=Y
 dsimp only at h1 h2
 rw [h1,h2]
theorem Sq (c:Cur p b) {P1 P2 P3 S T X Y:Nat×Nat} (h1:OnQ p b (some P1)) (h2:OnQ p b (some P2)) (h3:OnQ p b (some P3)) (hS:gS p (some P1) (some P2)=some S) (hT:gS p (some P2) (some P3)=some T)
 (hX:gS p (some S) (some P3)=some X) (hY:gS p (some P1) (some T)=some Y) (d1:(p:Int)∣(S.1:Int)-P3.1):X=Y:=by
 have oS:=xN c h1 h2
 have oT:=xN c h2 h3
 rw [hS] at oS
 rw [hT] at oT
 obtain ⟨hS1,hS2,l,l1,l2⟩:=rZ c h1 h2 hS
 obtain ⟨hT1,hT2,m,m1,m2⟩:=rZ c h2 h3 hT
 obtain ⟨hX1,hX2,L,L1,L2⟩:=rZ c oS h3 hX
 obtain ⟨hY1,hY2,M,M1,M2⟩:=rZ c h1 oT hY
 have n2:=c.yne h2.2.2
 have n3:=c.yne h3.2.2
 have hx:=Us c n2 n3 (akf c (by rw [<-Int.mul_assoc];exact aKt l1.a m1.a l2.x l2.y m2.x m2.y L2.x M2.x l1.b m1.b L1.a L1.b M1.a d1))
 have hy:=Us c n2 n3 (akf c (by rw [<-Int.mul_assoc];exact aKs l1.a m1.a l2.x l2.y m2.x m2.y L2.y M2.x M2.y l1.b m1.b L1.a L1.b M1.a d1 hx))
 exact auO (lE hX1 hY1 hx) (lE hX2 hY2 hy)
theorem add_assoc (c:Cur p b) {P R T:PtQ} (hP:OnQ p b P) (hR:OnQ p b R) (hT:OnQ p b T):gS p (gS p P R) T=gS p P (gS p R T):=by
 have hPR:=xN c hP hR
 have hRT:=xN c hR hT
 have nP:=K5 c hP
 have nR:=K5 c hR
 have nT:=K5 c hT
 by_cases hA:gS p P R=none
 ·rw [hA,akj]
  have e:=Ux c hP hR hA
  have e2:P=Zf p R:=by rw [e,neg_neg c hP]
  rw [e2,cancel c hR hT]
 by_cases hB:gS p R T=none
 ·rw [hB,db]
  have e:=Ux c hR hT hB
  rw [e,add_comm c hPR nR,add_comm c hP hR,cancel c hR hP]
 by_cases hC:gS p (gS p P R) T=none
 ·rw [hC]
  have e:=Ux c hPR hT hC
  rw [e,neg_add c hP hR,add_comm c nP nR]
  have:=cancel c nR nP
  rw [neg_neg c hR] at this
  rw [this,add_neg c hP]
 by_cases hD:gS p P (gS p R T)=none
 ·rw [hD]
  have e:=Ux c hRT hP (by rw [add_comm c hRT hP];exact hD)
  rw [e,neg_add c hR hT]
  have h3:=cancel c nR nT
  rw [neg_neg c hR] at h3
  rw [add_comm c (xN c nR nT) hR,h3,add_comm c nT hT,add_neg c hT]
 cases P with
 |none=>rfl
 |some P1=>
 cases R with
 |none=>rw [db,akj]
 |some P2=>
 cases T with
 |none=>rw [db,db]
 |some P3=>
 cases hS:gS p (some P1) (some P2) with
 |none=>exact absurd hS hA
 |some S=>
 cases hT':gS p (some P2) (some P3) with
 |none=>exact absurd hT' hB
 |some T=>
 rw [hS] at hPR hC
 rw [hT'] at hRT hD
 cases hX:gS p (some S) (some P3) with
 |none=>exact absurd hX hC
 |some X=>
 cases hY:gS p (some P1) (some T) with
 |none=>exact absurd hY hD
 |some Y=>
 obtain ⟨hS1,hS2,l,l1,l2⟩:=rZ c hP hR hS
 obtain ⟨hT1,hT2,m,m1,m2⟩:=rZ c hR hT hT'
 obtain ⟨hX1,hX2,L,L1,L2⟩:=rZ c hPR hT hX
 obtain ⟨hY1,hY2,M,M1,M2⟩:=rZ c hP hRT hY
 congr 1
 by_cases d1:(p:Int)∣(S.1:Int)-P3.1
 ·exact Sq c hP hR hT hS hT' hX hY d1
 by_cases d2:(p:Int)∣(P1.1:Int)-T.1
 ·rw [add_comm c hR hT] at hT'
  rw [add_comm c hP hR] at hS
  rw [add_comm c hPR hT] at hX
  rw [add_comm c hP hRT] at hY
  exact (Sq c hT hR hP hT' hS hY hX (by obtain ⟨k,hk⟩:=d2;exact ⟨-k,by rw [Int.mul_neg,<-hk];omega⟩)).symm
 ·have hx:=Us c d1 d2 (aKr l1.a m1.a l2.x l2.y m2.x m2.y L2.x M2.x l1.b m1.b L1.a M1.a)
  have hy:=Us c d1 d2 (aKq l1.a m1.a l2.x l2.y m2.x m2.y L2.x L2.y M2.x M2.y l1.b m1.b L1.a M1.a hx)
  exact auO (lE hX1 hY1 hx) (lE hX2 hY2 hy)
end Go.Proofs.YtohjofabochgfaaGreat

namespace Go.Proofs.YtohjofabochgfaaGreat
set_option maxRecDepth 100000
end Go.Proofs.YtohjofabochgfaaGreat

namespace Go.Proofs.YtohjofabochgfaaGreat
open Sx Go
abbrev Sm (p:Nat):Prop:=0<p/\p<57896044618658097711785492504343953926634992332820282019728792003956564819968
theorem aKJ {p:Nat} (n:Nat):(p:Int)∣((n%p:Nat):Int)-(n:Int):=by
 have:=Nat.div_add_mod n p
 refine ⟨-((n/p:Nat):Int),?_⟩
 have h:((p*(n/p)+n%p:Nat):Int)=(n:Int):=by rw [this]
 rw [Int.natCast_add,Int.natCast_mul] at h
 rw [Int.mul_neg]
 omega
variable {p:Nat}
theorem aDJ (hp:Sm p) (a b:aa):(p:Int)∣((bB p a b).nat:Int)-((a.nat:Int)*(b.nat:Int)):=by
 have e:(bB p a b).nat=a.nat*b.nat%p:=dm hp
 rw [e]
 have:=aKJ (p:=p) (a.nat*b.nat)
 rwa [Int.natCast_mul] at this
theorem aKv (hp:Sm p) (a b:aa):(p:Int)∣((zK p a b).nat:Int)-((a.nat:Int)+(b.nat:Int)):=by
 have e:(zK p a b).nat=(a.nat+b.nat)%p:=dm hp
 rw [e]
 have:=aKJ (p:=p) (a.nat+b.nat)
 rwa [Int.natCast_add] at this
theorem tv (hp:Sm p) (a b:aa):(bB p a b).nat<p:=by
 rw [show (bB p a b).nat=a.nat*b.nat%p from dm hp]
 exact Nat.mod_lt _ hp.1
theorem aIv (hp:Sm p) (a b:aa):(zK p a b).nat<p:=by
 rw [show (zK p a b).nat=(a.nat+b.nat)%p from dm hp]
 exact Nat.mod_lt _ hp.1
theorem an7:(aa.mk 0 0 0 0).nat=0:=by decide
variable {b:Nat}
end Go.Proofs.YtohjofabochgfaaGreat

namespace Go.Proofs.YtohjofabochgfaaGreat
open Sx Go
theorem Uy {p b m:Nat} (pr:Pr p) (h3:p=3*m+1) (hb0:0<b) (hb:b<p) (hm:Nat.blt m (2^256)=true) (hk:Nat.beq (pwm p (p-b) m) 1=false) (x:Int):¬(p:Int)∣x*x*x+b:=λhd=>by
 have h2:=pr.1
 rw [aj4 h2 hm] at hk
 obtain ⟨k,hk1⟩:=hd
 obtain ⟨j,hj⟩:=r5 pr.pos x
 have hn:p∣nm p x*nm p x*nm p x+b:=Int.natCast_dvd_natCast.1 (by
  rw [Int.natCast_add,Int.natCast_mul,Int.natCast_mul]
  generalize ((nm p x:Nat):Int)=n at*
  exact ⟨k+j*(n*n+n*x+x*x),by grind⟩)
 generalize nm p x=n at*
 have hpn:¬p∣n:=λhd=>by
  have h1:p∣n*n*n:=Nat.dvd_trans hd (Nat.dvd_mul_left ..)
  have:=(Nat.dvd_add_right h1).1 hn
  have:=Nat.le_of_dvd hb0 this
  omega
 have hf:=alg pr hpn
 have e:n^3%p=(p-b)%p:=by
  obtain ⟨c,hc⟩:=hn
  have hc0:c≠0:=λe=>by rw [e] at hc;omega
  obtain ⟨d,rfl⟩:∃ d,c=d+1:=⟨c-1,by omega⟩
  have:n^3=(p-b)+p*d:=by
   rw [show n^3=n*n*n by rw [Nat.pow_succ,Nat.pow_succ,Nat.pow_one]]
   rw [Nat.mul_succ] at hc
   omega
  rw [this,Nat.add_mul_mod_self_left]
 have:(p-b)^m%p=1:=by
  rw [Nat.pow_mod,<-e,<-Nat.pow_mod,<-Nat.pow_mul,show 3*m=p-1 by omega]
  exact hf
 rw [this] at hk
 cases hk
theorem aD4 {s:Int} (h:ao s=true):Cur (pS s) (bS s).nat:=by
 rcases cn h with rfl|rfl|rfl|rfl
 ·have e:pS 0=16513537:=by decide+kernel
  have e2:(bS 0).nat=23:=by decide+kernel
  rw [e,e2]
  exact ⟨KR,by decide,Uy (m:=5504512) KR (by decide) (by decide) (by decide) (by decide+kernel) (by decide+kernel)⟩
 ·have e:pS 1=16521217:=by decide+kernel
  have e2:(bS 1).nat=21:=by decide+kernel
  rw [e,e2]
  exact ⟨KQ,by decide,Uy (m:=5507072) KQ (by decide) (by decide) (by decide) (by decide+kernel) (by decide+kernel)⟩
 ·have e:pS 2=28948022309329048855892746252171976963363056481941560715954676764349967630337:=by decide+kernel
  have e2:(bS 2).nat=5:=by decide+kernel
  rw [e,e2]
  exact ⟨bj,by decide,Uy (m:=9649340769776349618630915417390658987787685493980520238651558921449989210112) bj (by decide) (by decide) (by decide) (by decide+kernel) (by decide+kernel)⟩
 ·have e:pS 3=28948022309329048855892746252171976963363056481941647379679742748393362948097:=by decide+kernel
  have e2:(bS 3).nat=5:=by decide+kernel
  rw [e,e2]
  exact ⟨bi,by decide,Uy (m:=9649340769776349618630915417390658987787685493980549126559914249464454316032) bi (by decide) (by decide) (by decide) (by decide+kernel) (by decide+kernel)⟩
end Go.Proofs.YtohjofabochgfaaGreat

namespace Go.Proofs.YtohjofabochgfaaGreat
open Sx Go
theorem gQ (a n p:Nat):(a%p)^n%p=a^n%p:=(Nat.pow_mod a n p).symm
theorem aK3 {p a b c d:Nat} (h1:a%p=c%p) (h2:b%p=d%p):a*b%p=c*d%p:=by rw [Nat.mul_mod,h1,h2,<-Nat.mul_mod]
theorem aDv {p t:Nat} (pr:Pr p) (ht:t<p) (h:t*t%p=1):t=1\/t=p-1:=by
 have h2:=pr.1
 have hd:(p:Int)∣((t:Int)-1)*((t:Int)+1):=by
  have e:=Nat.div_add_mod (t*t) p
  rw [h] at e
  refine ⟨((t*t/p:Nat):Int),?_⟩
  have e:((p*(t*t/p)+1:Nat):Int)=((t*t:Nat):Int):=congrArg (λn:Nat=>(n:Int)) e
  rw [Int.natCast_add,Int.natCast_mul,Int.natCast_mul] at e
  have e2:((t:Int)-1)*((t:Int)+1)=(t:Int)*t-1:=by grind
  rw [e2,<-e]
  omega
 rcases pr.kx hd with h|h
 ·left
  exact lE ht (by omega) h
 ·right
  refine lE ht (by omega) ?_
  obtain ⟨k,hk⟩:=h
  have:((p-1:Nat):Int)=(p:Int)-1:=by omega
  rw [this]
  exact ⟨k-1,by rw [Int.mul_sub];omega⟩
theorem aJC {p:Nat} (h2:2<=p):(p-1)*(p-1)%p=1:=by
 obtain ⟨q,rfl⟩:∃ q,p=q+2:=⟨p-2,by omega⟩
 have:(q+2-1)*(q+2-1)=1+(q+2)*q:=by
  rw [show q+2-1=q+1 by omega]
  grind
 rw [this,Nat.add_mul_mod_self_left]
 exact Nat.mod_eq_of_lt (by omega)
section
variable {p:Nat}
theorem BJ (hp:Sm p) (a b:aa):(bB p a b).nat=a.nat*b.nat%p:=dm hp
theorem kE (hp:Sm p) (h2:2<=p) (a k:aa):(gD p a k).nat=a.nat^k.nat%p:=by
 rw [awt (by omega)]
 exact dm hp
theorem aF0 (hp:Sm p) {b:aa} (hb:b.nat<p):∀ n,(sqN p b n).nat=b.nat^2^n%p
 |0=>by
  show b.nat=_
  rw [Nat.pow_zero,Nat.pow_one,Nat.mod_eq_of_lt hb]
 |n+1=>by
  show (bB p (sqN p b n) (sqN p b n)).nat=_
  rw [BJ hp,aF0 hp hb n,<-Nat.mul_mod,<-Nat.pow_add,<-Nat.two_mul,<-Nat.pow_succ']
theorem FC (t:aa):eqE t eP=Nat.beq t.nat 1:=by rw [awy];rfl
theorem y8 {a b:Nat} (h:Nat.beq a b=false):a≠b:=λe=>by rw [e,Nat.beq_refl] at h;cases h
structure aDf (p a i:Nat) (w:Ton):Prop where
 x:w.1.nat<p
 b:w.2.1.nat<p
 z:w.2.2.nat<p
 sq:w.1.nat*w.1.nat%p=a*w.2.1.nat%p
 one:w.2.1.nat^2^i%p=1
 neg:w.2.2.nat^2^i%p=p-1
theorem anQ (b i:Nat):b^2^(i+1)=b^2^i*b^2^i:=by rw [<-Nat.pow_add,<-Nat.two_mul,<-Nat.pow_succ']
theorem asE (z i:Nat) (p:Nat):(z*z%p)^2^i%p=z^2^(i+1)%p:=by rw [gQ,<-Nat.pow_two,<-Nat.pow_mul,<-Nat.pow_succ']
theorem ZH (pr:Pr p) {b i:Nat} (h:b^2^(i+1)%p=1):b^2^i%p=1\/b^2^i%p=p-1:=by
 rw [anQ,Nat.mul_mod] at h
 exact aDv pr (Nat.mod_lt _ pr.pos) h
theorem arh (hp:Sm p) (pr:Pr p) {a i:Nat} {x b z u:aa} (hx:x.nat*x.nat%p=a*b.nat%p) (hb:b.nat^2^i%p=p-1) (hu:u.nat*u.nat%p=z.nat%p) (hz:z.nat^2^i%p=p-1):
 (bB p x u).nat*(bB p x u).nat%p=a*(bB p b z).nat%p/\(bB p b z).nat^2^i%p=1:=by
 constructor
 ·rw [BJ hp,BJ hp,<-Nat.mul_mod,Nat.mul_mod_mod,show x.nat*u.nat*(x.nat*u.nat)=x.nat*x.nat*(u.nat*u.nat) by ac_rfl,show a*(b.nat*z.nat)=a*b.nat*z.nat from (Nat.mul_assoc ..).symm]
  exact aK3 hx hu
 ·rw [BJ hp,gQ,Nat.mul_pow,Nat.mul_mod,hb,hz]
  exact aJC pr.1
theorem amB (hp:Sm p) (pr:Pr p) {a m k:Nat} {w:Ton} (hk:k<m) (h:aDf p a (m-k) w):aDf p a (m-(k+1)) (yq p m k w):=by
 obtain ⟨x,b,z⟩:=w
 have e:m-k=(m-(k+1))+1:=by omega
 rw [e] at h
 obtain ⟨hx,hb,hz,h1,h2,h3⟩:=h
 dsimp only at*
 have ht:=aF0 hp hb (m-(k+1))
 have hz2:(bB p z z).nat^2^(m-(k+1))%p=p-1:=by rw [BJ hp,asE];exact h3
 unfold yq
 dsimp only
 rw [show m-k-1=m-(k+1) by omega,FC]
 cases hq:Nat.beq (sqN p b (m-(k+1))).nat 1
 ·simp only [cond_false]
  have hn:=y8 hq
  rw [ht] at hn
  have hb1:=(ZH pr h2).resolve_left hn
  obtain ⟨g1,g2⟩:=arh hp pr (u:=z) h1 hb1 (by rw [BJ hp,Nat.mod_mod]) hz2
  exact ⟨tv hp _ _,tv hp _ _,tv hp _ _,g1,g2,hz2⟩
 ·simp only [cond_true]
  have hb1:=Nat.eq_of_beq_eq_true hq
  rw [ht] at hb1
  exact ⟨hx,hb,tv hp _ _,h1,hb1,hz2⟩
theorem aEC (hp:Sm p) (pr:Pr p) {a m:Nat} {w:Ton} (h:aDf p a m w):(ayo p m w).1.nat<p/\(ayo p m w).1.nat*(ayo p m w).1.nat%p=a%p:=by
 have key:∀ n,n<=m->aDf p a (m-n) (upto (yq p m) w n):=by
  intro n
  induction n with
  |zero=>intro _;exact h
  |succ n ih=>intro hn;exact amB hp pr (by omega) (ih (by omega))
 have hk:=key m (Nat.le_refl _)
 rw [Nat.sub_self] at hk
 obtain ⟨hx,hb,hz,h1,h2,h3⟩:=hk
 refine ⟨hx,?_⟩
 rw [Nat.pow_zero,Nat.pow_one,Nat.mod_eq_of_lt hb] at h2
 rw [h2,Nat.mul_one] at h1
 exact h1
end
def IQ (s:Int):aa:=dQ (ef (aY s.toNat).1 eP).1 (aY s.toNat).2.1.toNat
def adS (s:Int):Nat:=(aY s.toNat).2.1.toNat
structure amd (s:Int):Prop where
 od:(IQ s).nat*2^adS s=pS s-1
 up:2*(dq (qk (IQ s) eP).1).nat=(IQ s).nat+1
 hf:(dq (ef (aY s.toNat).1 eP).1).nat=(pS s-1)/2
 ad:1<=adS s
 ai:(aY s.toNat).2.1=(adS s:Int)
 nr:pwm (pS s) 5 ((pS s-1)/2)=pS s-1
 pr:Pr (pS s)
 sm:Sm (pS s)
 o2:pS s%2=1
theorem Xb {s:Int} (hs:ao s=true):amd s:=by
 have pr:=(aD4 hs).pr
 have sm:Sm (pS s):=o7 hs
 rcases cn hs with rfl|rfl|rfl|rfl<;>
  exact ⟨by decide+kernel,by decide+kernel,by decide+kernel,by decide+kernel,by decide+kernel,by decide+kernel,pr,sm,by decide+kernel⟩
section
variable {s:Int} (k:amd s)
include k
theorem auA (a:Nat):(a^(IQ s).nat)^2^(adS s-1)=a^((pS s-1)/2):=by
 rw [<-Nat.pow_mul]
 congr 1
 have h:=k.od
 have ha:=k.ad
 obtain ⟨n,hn⟩:∃ n,adS s=n+1:=⟨adS s-1,by omega⟩
 rw [hn] at h⊢
 rw [Nat.pow_succ,<-Nat.mul_assoc] at h
 rw [show n+1-1=n by omega]
 omega
theorem ala:(5^(IQ s).nat)^2^(adS s-1)%pS s=pS s-1:=by
 rw [auA k]
 have h:=k.nr
 have hp:=k.sm
 rw [aj4 k.pr.1 (Nat.ble_eq_true_of_le (by have:=hp.2;omega))] at h
 exact h
omit k in
theorem alb:(aa.mk 5 0 0 0).nat=5:=by decide
theorem asV {a:aa} (he:a.nat^((pS s-1)/2)%pS s=1):(sH s a).nat<pS s/\(sH s a).nat*(sH s a).nat%pS s=a.nat%pS s:=by
 have hp:=k.sm
 have pr:=k.pr
 have e:sH s a=(ayo (pS s) (adS s-1) (gD (pS s) a (dq (qk (IQ s) eP).1),gD (pS s) a (IQ s),gD (pS s) ⟨5,0,0,0⟩ (IQ s))).1:=by
  show (ayo (pS s) ((aY s.toNat).2.1-1).toNat _).1=_
  rw [k.ai,show ((adS s:Int)-1).toNat=adS s-1 by omega]
  rfl
 rw [e]
 refine aEC hp pr (a:=a.nat) ⟨?_,?_,?_,?_,?_,?_⟩
 ·rw [kE hp pr.1];exact Nat.mod_lt _ pr.pos
 ·rw [kE hp pr.1];exact Nat.mod_lt _ pr.pos
 ·rw [kE hp pr.1];exact Nat.mod_lt _ pr.pos
 ·show (gD (pS s) a (dq (qk (IQ s) eP).1)).nat*(gD (pS s) a (dq (qk (IQ s) eP).1)).nat%pS s=a.nat*(gD (pS s) a (IQ s)).nat%pS s
  rw [kE hp pr.1,kE hp pr.1,<-Nat.mul_mod,Nat.mul_mod_mod,<-Nat.pow_add,<-Nat.two_mul,k.up,Nat.pow_succ,Nat.mul_comm]
 ·show (gD (pS s) a (IQ s)).nat^_%pS s=1
  rw [kE hp pr.1,gQ,auA k]
  exact he
 ·show (gD (pS s) ⟨5,0,0,0⟩ (IQ s)).nat^_%pS s=pS s-1
  rw [kE hp pr.1,gQ,alb]
  exact ala k
end
theorem afw {p:Nat} (hp:Sm p) (ho:p%2=1) {x:aa} (hx:x.nat<p):(kV p x).nat<p/\(kV p x).nat%2=0/\(kV p x).nat*(kV p x).nat%p=x.nat*x.nat%p:=by
 have hb:(x.w0%2==1)=Nat.beq (x.nat%2) 1:=by
  have e:x.nat%2=x.w0.toNat%2:=by unfold Sx.aa.nat;omega
  rw [e]
  have h2:(x.w0%2).toNat=x.w0.toNat%2:=by rw [UInt64.toNat_mod];rfl
  rw [<-h2]
  by_cases h:x.w0%2=1
  ·rw [h];rfl
  ·have hn:¬(x.w0%2).toNat=1:=λe=>h (UInt64.toNat_inj.1 e)
   have:Nat.beq (x.w0%2).toNat 1=false:=by
    cases hb:Nat.beq (x.w0%2).toNat 1
    ·rfl
    ·exact absurd (Nat.eq_of_beq_eq_true hb) hn
   rw [this]
   simpa using h
 unfold kV
 rw [hb]
 cases hq:Nat.beq (x.nat%2) 1
 ·simp only [cond_false]
  have:=y8 hq
  exact ⟨hx,by omega,trivial⟩
 ·simp only [cond_true]
  have h1:=Nat.eq_of_beq_eq_true hq
  have e:(Ik p x).nat=p-x.nat:=by
   rw [show (Ik p x).nat=(p-x.nat%p)%p from dm hp,Nat.mod_eq_of_lt hx,Nat.mod_eq_of_lt (by omega)]
  rw [e]
  refine ⟨by omega,by omega,?_⟩
  obtain ⟨d,hd⟩:∃ d,p=x.nat+d:=⟨p-x.nat,by omega⟩
  have e2:p-x.nat=d:=by omega
  rw [e2]
  have e3:d*d+p*x.nat=x.nat*x.nat+p*d:=by rw [hd];grind
  have:=congrArg (· %p) e3
  simp only [Nat.add_mul_mod_self_left] at this
  exact this
theorem awv {p:Nat} (pr:Pr p) (ho:p%2=1) {x y:Nat} (hx:x<p) (hy:y<p) (ex:x%2=0) (ey:y%2=0) (h:x*x%p=y*y%p):x=y:=by
 have hd:(p:Int)∣((x:Int)-y)*((x:Int)+y):=by
  obtain ⟨a,ha⟩:=aKJ (p:=p) (x*x)
  obtain ⟨b,hb⟩:=aKJ (p:=p) (y*y)
  rw [h] at ha
  rw [Int.natCast_mul] at ha hb
  generalize (((y*y%p):Nat):Int)=r at*
  exact ⟨b-a,by grind⟩
 rcases pr.kx hd with h|h
 ·exact lE hx hy h
 ·have h:(p:Int)∣((x+y:Nat):Int):=by rw [Int.natCast_add];exact h
  have h:=Int.natCast_dvd_natCast.1 h
  obtain ⟨c,hc⟩:=h
  have hc2:c<2:=by
   apply Classical.byContradiction
   intro h2
   have:=Nat.mul_le_mul_left p (show 2<=c by omega)
   omega
  rcases (show c=0\/c=1 by omega) with rfl|rfl<;>omega
end Go.Proofs.YtohjofabochgfaaGreat

namespace Go.Proofs.YtohjofabochgfaaGreat
open Sx Go
def kF (p:Nat):Nat->aa->Nat->Nat
 |0,_,k=>k
 |n+1,s,k=>cond (eqE s eP) k (kF p n (bB p s s) (k+1))
def tsB (p m k:Nat) (w:Ton):aa:=sqN p w.2.2 (m-k-1)
def tsW (p m k:Nat) (w:Ton):Ton:=(bB p w.1 (tsB p m k w),bB p w.2.1 (bB p (tsB p m k w) (tsB p m k w)),bB p (tsB p m k w) (tsB p m k w))
def tsF (p:Nat):Nat->Nat->Ton->Option aa
 |0,_,_=>none
 |f+1,m,w=>cond (eqE w.2.1 eP) (some w.1) (cond (Nat.beq (kF p m w.2.1 0) m) none (tsF p f (kF p m w.2.1 0) (tsW p m (kF p m w.2.1 0) w)))
section
variable {p:Nat}
theorem aeW (hp:Sm p):∀ (n:Nat) (s:aa) (k:Nat),s.nat<p->k<=kF p n s k/\kF p n s k<=k+n/\(kF p n s k<k+n->s.nat^2^(kF p n s k-k)%p=1)/\∀ j,k<=j->j<kF p n s k->s.nat^2^(j-k)%p≠1
 |0,s,k,_=>⟨Nat.le_refl _,Nat.le_refl _,λh=>absurd h (Nat.lt_irrefl _),λj h1 h2=>absurd h2 (by show ¬j<k;omega)⟩
 |n+1,s,k,hs=>by
  unfold kF
  rw [FC]
  cases hq:Nat.beq s.nat 1
  ·simp only [cond_false]
   obtain ⟨h1,h2,h3,h4⟩:=aeW hp n (bB p s s) (k+1) (tv hp _ _)
   have e:∀ j,(bB p s s).nat^2^j%p=s.nat^2^(j+1)%p:=λj=>by rw [BJ hp,asE]
   refine ⟨by omega,by omega,λh=> ?_,λj hj1 hj2=> ?_⟩
   ·have:=h3 (by omega)
    rw [e] at this
    rw [show kF p n (bB p s s) (k+1)-k=kF p n (bB p s s) (k+1)-(k+1)+1 by omega]
    exact this
   ·by_cases hj:j=k
    ·subst hj
     rw [Nat.sub_self,Nat.pow_zero,Nat.pow_one,Nat.mod_eq_of_lt hs]
     exact y8 hq
    ·have:=h4 j (by omega) hj2
     rw [e] at this
     rw [show j-k=j-(k+1)+1 by omega]
     exact this
  ·simp only [cond_true]
   have h1:=Nat.eq_of_beq_eq_true hq
   refine ⟨Nat.le_refl _,by omega,λ_=> ?_,λj hj1 hj2=>by omega⟩
   rw [Nat.sub_self,Nat.pow_zero,Nat.pow_one,Nat.mod_eq_of_lt hs]
   exact h1
structure aKw (p a m:Nat) (w:Ton):Prop where
 x:w.1.nat<p
 t:w.2.1.nat<p
 z:w.2.2.nat<p
 sq:w.1.nat*w.1.nat%p=a*w.2.1.nat%p
 m1:1<=m
 neg:w.2.2.nat^2^(m-1)%p=p-1
theorem aEy (hp:Sm p) (pr:Pr p) {a m k:Nat} {w:Ton} (h:aKw p a m w) (hk0:1<=k) (hk:k<m) (h1:w.2.1.nat^2^k%p=1) (h2:w.2.1.nat^2^(k-1)%p≠1):
 aKw p a k (tsW p m k w)/\(tsW p m k w).2.1.nat^2^(k-1)%p=1:=by
 have hb:=aF0 hp h.z (m-k-1)
 have hz':(bB p (tsB p m k w) (tsB p m k w)).nat^2^(k-1)%p=p-1:=by
  rw [BJ hp,asE]
  show (sqN p w.2.2 (m-k-1)).nat^_%p=_
  rw [hb,gQ,<-Nat.pow_mul,<-Nat.pow_add,show m-k-1+(k-1+1)=m-1 by omega]
  exact h.neg
 have ht:w.2.1.nat^2^(k-1)%p=p-1:=by
  have e:k=(k-1)+1:=by omega
  rw [e] at h1
  exact (ZH pr h1).resolve_left h2
 obtain ⟨g1,g2⟩:=arh hp pr (u:=tsB p m k w) (z:=bB p (tsB p m k w) (tsB p m k w)) h.sq ht (by rw [BJ hp,Nat.mod_mod]) hz'
 exact ⟨⟨tv hp _ _,tv hp _ _,tv hp _ _,g1,hk0,hz'⟩,g2⟩
theorem ard (hp:Sm p) (pr:Pr p) {a:Nat}:∀ (f m:Nat) (w:Ton),m<f->aKw p a m w->w.2.1.nat^2^(m-1)%p=1->∃ x,tsF p f m w=some x/\x.nat<p/\x.nat*x.nat%p=a%p
 |0,m,w,h,_,_=>absurd h (Nat.not_lt_zero _)
 |f+1,m,w,hf,h,hr=>by
  unfold tsF
  rw [FC]
  cases hq:Nat.beq w.2.1.nat 1
  ·simp only [cond_false]
   obtain ⟨k1,k2,k3,k4⟩:=aeW hp m w.2.1 0 h.t
   have m1:=h.m1
   have hk:kF p m w.2.1 0<m:=by
    apply Classical.byContradiction
    intro hn
    exact k4 (m-1) (by omega) (by omega) hr
   have hk0:1<=kF p m w.2.1 0:=by
    apply Classical.byContradiction
    intro hn
    have e:kF p m w.2.1 0=0:=by omega
    have:=k3 (by omega)
    rw [e,Nat.sub_self,Nat.pow_zero,Nat.pow_one,Nat.mod_eq_of_lt h.t] at this
    exact y8 hq this
   have e1:=k3 (by omega)
   have e2:=k4 (kF p m w.2.1 0-1) (by omega) (by omega)
   rw [Nat.sub_zero] at e1 e2
   have hb:Nat.beq (kF p m w.2.1 0) m=false:=by
    cases hb:Nat.beq (kF p m w.2.1 0) m
    ·rfl
    ·have:=Nat.eq_of_beq_eq_true hb;omega
   rw [hb]
   obtain ⟨g1,g2⟩:=aEy hp pr h hk0 hk e1 e2
   exact ard hp pr f _ _ (by omega) g1 g2
  ·simp only [cond_true]
   have h1:=Nat.eq_of_beq_eq_true hq
   have:=h.sq
   rw [h1,Nat.mul_one] at this
   exact ⟨w.1,rfl,h.x,this⟩
theorem aEA (hp:Sm p) (pr:Pr p) (h3:3<=p) {a f m:Nat} {w:Ton} (h:aKw p a m w) (hr:w.2.1.nat^2^(m-1)%p=p-1):tsF p f m w=none:=by
 cases f with
 |zero=>rfl
 |succ f=>
  unfold tsF
  rw [FC]
  have m1:=h.m1
  have up:∀ j,j<=m-1->w.2.1.nat^2^j%p≠1:=λj hj e=>by
   have:w.2.1.nat^2^(m-1)%p=1:=by
    rw [show m-1=j+(m-1-j) by omega,Nat.pow_add,Nat.pow_mul,Nat.pow_mod,e,Nat.one_pow,Nat.mod_eq_of_lt (by omega)]
   omega
  have hq:Nat.beq w.2.1.nat 1=false:=by
   cases hq:Nat.beq w.2.1.nat 1
   ·rfl
   ·have:=up 0 (by omega)
    rw [Nat.pow_zero,Nat.pow_one,Nat.mod_eq_of_lt h.t] at this
    exact absurd (Nat.eq_of_beq_eq_true hq) this
  rw [hq]
  obtain ⟨k1,k2,k3,k4⟩:=aeW hp m w.2.1 0 h.t
  have e:kF p m w.2.1 0=m:=by
   apply Classical.byContradiction
   intro hn
   have:=k3 (by omega)
   rw [Nat.sub_zero] at this
   exact up _ (by omega) this
  rw [e,Nat.beq_refl]
  rfl
end
section
variable {s:Int} (k:amd s)
include k
def fy (s:Int) (a:aa):Ton:=(gD (pS s) a (dq (qk (IQ s) eP).1),gD (pS s) a (IQ s),gD (pS s) ⟨5,0,0,0⟩ (IQ s))
theorem amz (a:aa):aKw (pS s) a.nat (adS s) (fy s a):=by
 have hp:=k.sm
 have pr:=k.pr
 refine ⟨?_,?_,?_,?_,k.ad,?_⟩
 ·show (gD (pS s) a _).nat<_
  rw [kE hp pr.1];exact Nat.mod_lt _ pr.pos
 ·show (gD (pS s) a _).nat<_
  rw [kE hp pr.1];exact Nat.mod_lt _ pr.pos
 ·show (gD (pS s) _ _).nat<_
  rw [kE hp pr.1];exact Nat.mod_lt _ pr.pos
 ·show (gD (pS s) a (dq (qk (IQ s) eP).1)).nat*(gD (pS s) a (dq (qk (IQ s) eP).1)).nat%pS s=a.nat*(gD (pS s) a (IQ s)).nat%pS s
  rw [kE hp pr.1,kE hp pr.1,<-Nat.mul_mod,Nat.mul_mod_mod,<-Nat.pow_add,<-Nat.two_mul,k.up,Nat.pow_succ,Nat.mul_comm]
 ·show (gD (pS s) ⟨5,0,0,0⟩ (IQ s)).nat^_%pS s=pS s-1
  rw [kE hp pr.1,gQ,alb]
  exact ala k
theorem acx (a:aa):(fy s a).2.1.nat^2^(adS s-1)%pS s=a.nat^((pS s-1)/2)%pS s:=by
 show (gD (pS s) a (IQ s)).nat^_%pS s=_
 rw [kE k.sm k.pr.1,gQ,auA k]
theorem aww {a:Nat} (ha:¬pS s∣a):a^((pS s-1)/2)%pS s=1\/a^((pS s-1)/2)%pS s=pS s-1:=by
 have hf:=alg k.pr ha
 have ho:=k.o2
 have h2:=k.pr.1
 have e:pS s-1=(pS s-1)/2+(pS s-1)/2:=by omega
 rw [e,Nat.pow_add,Nat.mul_mod] at hf
 exact aDv k.pr (Nat.mod_lt _ k.pr.pos) hf
theorem aEz {a:aa} (ha:a.nat<pS s) (hz:bN a=false):(tsF (pS s) (adS s+1) (adS s) (fy s a)).map (kV (pS s))=
 cond (eqE (gD (pS s) a (dq (ef (aY s.toNat).1 eP).1)) eP) (some (kV (pS s) (sH s a))) none:=by
 have hp:=k.sm
 have pr:=k.pr
 have h2:=pr.1
 have ho:=k.o2
 have h0:=amz k a
 have hpw:=acx k a
 rw [FC,kE hp h2,k.hf]
 have hn:¬pS s∣a.nat:=λhd=>by
  have:=Nat.eq_zero_of_dvd_of_lt hd ha
  rw [n9,this] at hz
  cases hz
 rcases aww k hn with h|h
 ·rw [h]
  obtain ⟨x,e1,e2,e3⟩:=ard hp pr (adS s+1) (adS s) _ (by omega) h0 (by rw [hpw];exact h)
  rw [e1]
  obtain ⟨r1,r2⟩:=asV k h
  obtain ⟨v1,v2,v3⟩:=afw hp ho e2
  obtain ⟨w1,w2,w3⟩:=afw hp ho r1
  show some _=some _
  rw [qW (awv pr ho v1 w1 v2 w2 (by rw [v3,w3,e3,r2]))]
 ·have h3:3<=pS s:=by omega
  rw [aEA hp pr h3 h0 (by rw [hpw];exact h),h]
  have:Nat.beq (pS s-1) 1=false:=by
   cases hb:Nat.beq (pS s-1) 1
   ·rfl
   ·have:=Nat.eq_of_beq_eq_true hb;omega
  rw [this]
  rfl
end
end Go.Proofs.YtohjofabochgfaaGreat

namespace Go.Proofs.YtohjofabochgfaaGreat
open Sx Go
theorem zero_eq {e:aa} (h:bN e=true):e=⟨0,0,0,0⟩:=qW (by rw [n9] at h;rw [Nat.eq_of_beq_eq_true h];exact an7.symm)
def sqA (s:Int) (x:aa):aa:=ofP (pS s) (xF (pS s) x (bS s))
def sqB (s:Int) (x:aa):Bool:=eqE (gD (pS s) (sqA s x) (dq (ef (aY s.toNat).1 eP).1)) eP
def sqY (s:Int) (x:aa):aa:=kV (pS s) (sH s (sqA s x))
def ptD (s:Int) (x:aa) (odd:Bool):Pt:=(x,cond odd (Ik (pS s) (sqY s x)) (sqY s x),false)
theorem aKR {s:Int} (hs:ao s=true) (x:aa):(sqA s x).nat<pS s/\((pS s:Nat):Int)∣((sqA s x).nat:Int)-((x.nat:Int)*x.nat*x.nat+(bS s).nat):=by
 have hp:Sm (pS s):=o7 hs
 have e:(sqA s x).nat=(xF (pS s) x (bS s)).nat%pS s:=dm hp
 have hlt:(xF (pS s) x (bS s)).nat<pS s:=aIv hp _ _
 rw [e,Nat.mod_eq_of_lt hlt]
 refine ⟨hlt,?_⟩
 have c2:=aDJ hp x x
 have c3:=aDJ hp (bB (pS s) x x) x
 have c4:=aKv hp (bB (pS s) (bB (pS s) x x) x) (bS s)
 unfold xF
 generalize bB (pS s) (bB (pS s) x x) x=xxx at*
 generalize bB (pS s) x x=xx at*
 generalize zK (pS s) xxx (bS s)=z at*
 have:(z.nat:Int)-((x.nat:Int)*x.nat*x.nat+(bS s).nat)=((z.nat:Int)-(xxx.nat+(bS s).nat))+(((xxx.nat:Int)-xx.nat*x.nat)+(((xx.nat:Int)-x.nat*x.nat)*x.nat)):=by grind
 rw [this]
 exact Int.dvd_add c4 (Int.dvd_add c3 (Int.dvd_trans c2 (Int.dvd_mul_right ..)))
theorem asF {s:Int} (hs:ao s=true) (x:aa):bN (sqA s x)=false:=by
 have h:=(aKR hs x).2
 cases hz:bN (sqA s x)
 ·rfl
 ·exfalso
  rw [n9] at hz
  rw [Nat.eq_of_beq_eq_true hz] at h
  obtain ⟨k,hk⟩:=h
  exact (aD4 hs).n2 (x.nat:Int) ⟨-k,by rw [Int.mul_neg,<-hk];simp⟩
theorem aAm {s:Int} (hs:ao s=true):sqB s ⟨0,0,0,0⟩=false:=by
 rcases cn hs with rfl|rfl|rfl|rfl<;>decide+kernel
theorem aKQ {s:Int} (hs:ao s=true) {x:aa} (h:sqB s x=true):(sqY s x).nat<pS s/\(sqY s x).nat%2=0/\(sqY s x).nat*(sqY s x).nat%pS s=(sqA s x).nat%pS s:=by
 have k:=Xb hs
 unfold sqB at h
 rw [FC,kE k.sm k.pr.1,k.hf] at h
 obtain ⟨r1,r2⟩:=asV k (Nat.eq_of_beq_eq_true h)
 obtain ⟨e1,e2,e3⟩:=afw k.sm k.o2 r1
 exact ⟨e1,e2,e3.trans r2⟩
section
variable {s:Int} (hs:ao s=true)
include hs
end
end Go.Proofs.YtohjofabochgfaaGreat

namespace Go.Proofs.YtohjofabochgfaaGreat
open Sx Go
set_option maxRecDepth 100000
def ks:aw:=⟨[.val false .int,.val true .elem],[],true,0,false⟩
abbrev Rw:Type:=((Int)×(aa)×Unit)×(Unit)
def B0:Shape:=⟨126,[(4,.ptr 0 0 0),(6,.ptr 1 0 0),(8,.ptr 2 0 0),(12,.ptr 3 0 0),(13,.ptr 4 0 0),(16,.ptr 5 0 0),(17,.val false .int)],[(0,.row .u64),(1,.cells [.val false .u64,.val false .u64,.val false .u64,.val false .u64,.val false .int,.val false .u64,.val false .u64,.val false .u64,.val false .u64,.val false .u64,.val false .u64]),(2,.row .u64),(3,.row .u64),(4,.row .u64),(5,.row .u64)],0,true⟩
abbrev bl:Type:=((Unit)×(Unit)×(Unit)×(Unit)×(Unit)×(Unit)×(Int)×Unit)×((List (UInt64))×((UInt64)×(UInt64)×(UInt64)×(UInt64)×(Int)×(UInt64)×(UInt64)×(UInt64)×(UInt64)×(UInt64)×(UInt64)×Unit)×(List (UInt64))×(List (UInt64))×(List (UInt64))×(List (UInt64))×Unit)
def BZ:Shape:=⟨126,[(4,.ptr 0 0 0),(6,.ptr 1 0 0),(8,.ptr 2 0 0),(12,.ptr 3 0 0),(13,.ptr 4 0 0),(16,.ptr 5 0 0),(17,.val false .int),(18,.val false .int),(19,.ptr 6 0 0)],[(0,.row .u64),(1,.cells [.val false .u64,.val false .u64,.val false .u64,.val false .u64,.val false .int,.val false .u64,.val false .u64,.val false .u64,.val false .u64,.val false .u64,.val false .u64]),(2,.row .u64),(3,.row .u64),(4,.row .u64),(5,.row .u64),(6,.row .u64)],0,true⟩
abbrev bL:Type:=((Unit)×(Unit)×(Unit)×(Unit)×(Unit)×(Unit)×(Int)×(Int)×(Unit)×Unit)×((List (UInt64))×((UInt64)×(UInt64)×(UInt64)×(UInt64)×(Int)×(UInt64)×(UInt64)×(UInt64)×(UInt64)×(UInt64)×(UInt64)×Unit)×(List (UInt64))×(List (UInt64))×(List (UInt64))×(List (UInt64))×(List (UInt64))×Unit)
def pn:Shape:=⟨126,[(4,.ptr 0 0 0),(6,.ptr 1 0 0),(8,.ptr 2 0 0),(12,.ptr 3 0 0),(13,.ptr 4 0 0),(16,.ptr 5 0 0),(17,.val false .int),(18,.val false .int)],[(0,.row .u64),(1,.cells [.val false .u64,.val false .u64,.val false .u64,.val false .u64,.val false .int,.val false .u64,.val false .u64,.val false .u64,.val false .u64,.val false .u64,.val false .u64]),(2,.row .u64),(3,.row .u64),(4,.row .u64),(5,.row .u64)],0,true⟩
abbrev ek:Type:=((Unit)×(Unit)×(Unit)×(Unit)×(Unit)×(Unit)×(Int)×(Int)×Unit)×((List (UInt64))×((UInt64)×(UInt64)×(UInt64)×(UInt64)×(Int)×(UInt64)×(UInt64)×(UInt64)×(UInt64)×(UInt64)×(UInt64)×Unit)×(List (UInt64))×(List (UInt64))×(List (UInt64))×(List (UInt64))×Unit)
def akU:SE->Option Shape:=fp [(2,pn)] none
def aB7 (a17:Int) (a18:Int) (c0:List (UInt64)) (c1_0:UInt64) (c1_1:UInt64) (c1_2:UInt64) (c1_3:UInt64) (c1_4:Int) (c1_5:UInt64) (c1_6:UInt64) (c1_7:UInt64) (c1_8:UInt64) (c1_9:UInt64) (c1_10:UInt64) (c2:List (UInt64)) (c3:List (UInt64)) (c4:List (UInt64)) (c5:List (UInt64)) (c6:List (UInt64)):OT (Sum bL aE):=
 let z0:Nat:=List.length c6
 let z1:Bool:=decide (4<=z0)
 let z2:UInt64:=List.getD c6 0 0
 let z3:UInt64:=List.getD c6 1 0
 let z4:UInt64:=List.getD c6 2 0
 let z5:UInt64:=List.getD c6 3 0
 let z6:aa:= {w0:=c1_0,w1:=c1_1,w2:=c1_2,w3:=c1_3}
 let z7:aa:= {w0:=z2,w1:=z3,w2:=z4,w3:=z5}
 let z8:aa:=bB (aa.nat z6) z7 z7
 let z9:List UInt64:=List.set (List.set (List.set (List.set c6 0 z8.w0) 1 z8.w1) 2 z8.w2) 3 z8.w3
 (gd [z1,decide (4<=List.length c2)] (.br (!(z2==List.getD c2 0 0&&(z3==List.getD c2 1 0&&(z4==List.getD c2 2 0&&(z5==List.getD c2 3 0&&true)))))
 (.br (decide (a18<a17))
  (gd [z1,z1,fT (((z6,c1_4,c1_5,c1_6,{w0:=c1_7,w1:=c1_8,w2:=c1_9,w3:=c1_10}),z7,z7,()),()),decide ((4/1:Nat)+0<=z0),decide (4<=List.length z9),inR (a18+(1:Int))] (.ok (.inl (((),((),((),((),((),((),(a17,(a18+(1:Int),((),()))))))))),(c0,((c1_0,(c1_1,(c1_2,(c1_3,(c1_4,(c1_5,(c1_6,(c1_7,(c1_8,(c1_9,(c1_10,()))))))))))),(c2,(c3,(c4,(c5,([List.getD z9 0 0,List.getD z9 1 0,List.getD z9 2 0,List.getD z9 3 0],())))))))))))
  (.ok (.inr ⟨(.exit 2,pn),(((),((),((),((),((),((),(a17,(a18,())))))))),(c0,((c1_0,(c1_1,(c1_2,(c1_3,(c1_4,(c1_5,(c1_6,(c1_7,(c1_8,(c1_9,(c1_10,()))))))))))),(c2,(c3,(c4,(c5,())))))))⟩)))
 (.ok (.inr ⟨(.exit 2,pn),(((),((),((),((),((),((),(a17,(a18,())))))))),(c0,((c1_0,(c1_1,(c1_2,(c1_3,(c1_4,(c1_5,(c1_6,(c1_7,(c1_8,(c1_9,(c1_10,()))))))))))),(c2,(c3,(c4,(c5,())))))))⟩))))
def B3 (s:bL):OT (Sum bL aE):=aB7 (s.1.2.2.2.2.2.2.1) (s.1.2.2.2.2.2.2.2.1) (s.2.1) (s.2.2.1.1) (s.2.2.1.2.1) (s.2.2.1.2.2.1) (s.2.2.1.2.2.2.1) (s.2.2.1.2.2.2.2.1) (s.2.2.1.2.2.2.2.2.1) (s.2.2.1.2.2.2.2.2.2.1) (s.2.2.1.2.2.2.2.2.2.2.1) (s.2.2.1.2.2.2.2.2.2.2.2.1) (s.2.2.1.2.2.2.2.2.2.2.2.2.1) (s.2.2.1.2.2.2.2.2.2.2.2.2.2.1) (s.2.2.2.1) (s.2.2.2.2.1) (s.2.2.2.2.2.1) (s.2.2.2.2.2.2.1) (s.2.2.2.2.2.2.2.1)
theorem aB0 (s:bL) (Q:Sum bL aE->Prop):wps te u7 av 1000 (aV (aV (aj Tryz.f97) 0) 2) (BZ.inj s) (bV BZ akU (Q:Sum BZ.T aE->Prop))=(B3 s).wpR Q:=by kernel_rfl
def I0 (g2_2:bL->ek) (s:bL):OT aE:=(.ok ⟨(.exit 2,pn),g2_2 s⟩)
def BX:Shape:=⟨126,[(4,.ptr 0 0 0),(6,.ptr 1 0 0),(8,.ptr 2 0 0),(12,.ptr 3 0 0),(13,.ptr 4 0 0),(16,.ptr 5 0 0),(18,.val false .int),(20,.ptr 6 0 0),(97,.val false .int),(98,.val false .int)],[(0,.row .u64),(1,.cells [.val false .u64,.val false .u64,.val false .u64,.val false .u64,.val false .int,.val false .u64,.val false .u64,.val false .u64,.val false .u64,.val false .u64,.val false .u64]),(2,.row .u64),(3,.row .u64),(4,.row .u64),(5,.row .u64),(6,.row .u64)],0,true⟩
abbrev bK:Type:=((Unit)×(Unit)×(Unit)×(Unit)×(Unit)×(Unit)×(Int)×(Unit)×(Int)×(Int)×Unit)×((List (UInt64))×((UInt64)×(UInt64)×(UInt64)×(UInt64)×(Int)×(UInt64)×(UInt64)×(UInt64)×(UInt64)×(UInt64)×(UInt64)×Unit)×(List (UInt64))×(List (UInt64))×(List (UInt64))×(List (UInt64))×(List (UInt64))×Unit)
def wo:Shape:=⟨126,[(4,.ptr 0 0 0),(6,.ptr 1 0 0),(8,.ptr 2 0 0),(12,.ptr 3 0 0),(13,.ptr 4 0 0),(16,.ptr 5 0 0),(18,.val false .int),(20,.ptr 6 0 0)],[(0,.row .u64),(1,.cells [.val false .u64,.val false .u64,.val false .u64,.val false .u64,.val false .int,.val false .u64,.val false .u64,.val false .u64,.val false .u64,.val false .u64,.val false .u64]),(2,.row .u64),(3,.row .u64),(4,.row .u64),(5,.row .u64),(6,.row .u64)],0,true⟩
abbrev ej:Type:=((Unit)×(Unit)×(Unit)×(Unit)×(Unit)×(Unit)×(Int)×(Unit)×Unit)×((List (UInt64))×((UInt64)×(UInt64)×(UInt64)×(UInt64)×(Int)×(UInt64)×(UInt64)×(UInt64)×(UInt64)×(UInt64)×(UInt64)×Unit)×(List (UInt64))×(List (UInt64))×(List (UInt64))×(List (UInt64))×(List (UInt64))×Unit)
def akT:SE->Option Shape:=fp [(4,wo)] none
def aB6 (a18:Int) (a97:Int) (a98:Int) (c0:List (UInt64)) (c1_0:UInt64) (c1_1:UInt64) (c1_2:UInt64) (c1_3:UInt64) (c1_4:Int) (c1_5:UInt64) (c1_6:UInt64) (c1_7:UInt64) (c1_8:UInt64) (c1_9:UInt64) (c1_10:UInt64) (c2:List (UInt64)) (c3:List (UInt64)) (c4:List (UInt64)) (c5:List (UInt64)) (c6:List (UInt64)):OT (Sum bK aE):=
 let z0:Nat:=List.length c6
 let z1:Bool:=decide (4<=z0)
 let z2:aa:= {w0:=c1_0,w1:=c1_1,w2:=c1_2,w3:=c1_3}
 let z3:aa:= {w0:=List.getD c6 0 0,w1:=List.getD c6 1 0,w2:=List.getD c6 2 0,w3:=List.getD c6 3 0}
 let z4:aa:=bB (aa.nat z2) z3 z3
 (.br (decide (a98<a97))
 (gd [z1,z1,fT (((z2,c1_4,c1_5,c1_6,{w0:=c1_7,w1:=c1_8,w2:=c1_9,w3:=c1_10}),z3,z3,()),()),decide ((4/1:Nat)+0<=z0),inR (a98+(1:Int))] (.ok (.inl (((),((),((),((),((),((),(a18,((),(a97,(a98+(1:Int),())))))))))),(c0,((c1_0,(c1_1,(c1_2,(c1_3,(c1_4,(c1_5,(c1_6,(c1_7,(c1_8,(c1_9,(c1_10,()))))))))))),(c2,(c3,(c4,(c5,(List.set (List.set (List.set (List.set c6 0 z4.w0) 1 z4.w1) 2 z4.w2) 3 z4.w3,())))))))))))
 (.ok (.inr ⟨(.exit 4,wo),(((),((),((),((),((),((),(a18,((),())))))))),(c0,((c1_0,(c1_1,(c1_2,(c1_3,(c1_4,(c1_5,(c1_6,(c1_7,(c1_8,(c1_9,(c1_10,()))))))))))),(c2,(c3,(c4,(c5,(c6,()))))))))⟩)))
def B2 (s:bK):OT (Sum bK aE):=aB6 (s.1.2.2.2.2.2.2.1) (s.1.2.2.2.2.2.2.2.2.1) (s.1.2.2.2.2.2.2.2.2.2.1) (s.2.1) (s.2.2.1.1) (s.2.2.1.2.1) (s.2.2.1.2.2.1) (s.2.2.1.2.2.2.1) (s.2.2.1.2.2.2.2.1) (s.2.2.1.2.2.2.2.2.1) (s.2.2.1.2.2.2.2.2.2.1) (s.2.2.1.2.2.2.2.2.2.2.1) (s.2.2.1.2.2.2.2.2.2.2.2.1) (s.2.2.1.2.2.2.2.2.2.2.2.2.1) (s.2.2.1.2.2.2.2.2.2.2.2.2.2.1) (s.2.2.2.1) (s.2.2.2.2.1) (s.2.2.2.2.2.1) (s.2.2.2.2.2.2.1) (s.2.2.2.2.2.2.2.1)
theorem aBZ (s:bK) (Q:Sum bK aE->Prop):wps te u7 av 1000 (aV (aV (aj Tryz.f97) 0) 4) (BX.inj s) (bV BX akT (Q:Sum BX.T aE->Prop))=(B2 s).wpR Q:=by kernel_rfl
def IZ (g4_4:bK->ej) (s:bK):OT aE:=(.ok ⟨(.exit 4,wo),g4_4 s⟩)
def lf:Shape:=⟨126,[(4,.ptr 0 0 0),(5,.val false .int)],[(0,.row .u64)],0,true⟩
abbrev jD:Type:=((Unit)×(Int)×Unit)×((List (UInt64))×Unit)
def po:Shape:=⟨126,[(4,.ptr 0 0 0),(6,.ptr 1 0 0),(16,.ptr 2 0 0)],[(0,.row .u64),(1,.cells [.val false .u64,.val false .u64,.val false .u64,.val false .u64,.val false .int,.val false .u64,.val false .u64,.val false .u64,.val false .u64,.val false .u64,.val false .u64]),(2,.row .u64)],0,true⟩
abbrev jE:Type:=((Unit)×(Unit)×(Unit)×Unit)×((List (UInt64))×((UInt64)×(UInt64)×(UInt64)×(UInt64)×(Int)×(UInt64)×(UInt64)×(UInt64)×(UInt64)×(UInt64)×(UInt64)×Unit)×(List (UInt64))×Unit)
def akV:SE->Option Shape:=fp [(0,po)] (some lf)
def U8 (ok2:bL->Bool) (g2_2:bL->ek) (ok4:bK->Bool) (g4_4:bK->ej) (a17:Int) (c0:List (UInt64)) (c1_0:UInt64) (c1_1:UInt64) (c1_2:UInt64) (c1_3:UInt64) (c1_4:Int) (c1_5:UInt64) (c1_6:UInt64) (c1_7:UInt64) (c1_8:UInt64) (c1_9:UInt64) (c1_10:UInt64) (c2:List (UInt64)) (c3:List (UInt64)) (c4:List (UInt64)) (c5:List (UInt64)):OT (Sum bl aE):=
 let z0:Bool:=decide (4<=List.length c4)
 let z1:UInt64:=List.getD c4 0 0
 let z2:UInt64:=List.getD c4 1 0
 let z3:UInt64:=List.getD c4 2 0
 let z4:UInt64:=List.getD c4 3 0
 let z5:(PUnit×PUnit×PUnit×PUnit×PUnit×PUnit×Int×Int×PUnit×PUnit)×List UInt64×(UInt64×UInt64×UInt64×UInt64×Int×UInt64×UInt64×UInt64×UInt64×UInt64×UInt64×PUnit)×List UInt64×List UInt64×List UInt64×List UInt64×List UInt64×PUnit:=(((),(),(),(),(),(),a17,(0:Int),(),()),c0,(c1_0,c1_1,c1_2,c1_3,c1_4,c1_5,c1_6,c1_7,c1_8,c1_9,c1_10,()),c2,c3,c4,c5,[z1,z2,z3,z4],())
 let z6:(PUnit×PUnit×PUnit×PUnit×PUnit×PUnit×Int×Int×PUnit)×List UInt64×(UInt64×UInt64×UInt64×UInt64×Int×UInt64×UInt64×UInt64×UInt64×UInt64×UInt64×PUnit)×List UInt64×List UInt64×List UInt64×List UInt64×PUnit:=g2_2 z5
 let z7:=z6.fst.snd.snd.snd.snd.snd.snd
 let z8:=z7.snd.fst
 let z9:=z7.fst
 let z10:=z6.snd
 let z11:=z10.fst
 let z12:=z10.snd
 let z13:=z12.snd
 let z14:=z13.snd
 let z15:=z14.fst
 let z16:Int:=z9-z8
 let z17:=z12.fst
 let z18:=z17.snd
 let z19:=z18.snd
 let z20:=z19.snd
 let z21:=z20.snd
 let z22:=z21.snd
 let z23:=z22.snd
 let z24:=z23.snd
 let z25:=z24.snd
 let z26:=z25.snd
 let z27:=z14.snd
 let z28:(PUnit×PUnit×PUnit×PUnit×PUnit×PUnit×Int×PUnit×Int×Int×PUnit)×List UInt64×(UInt64×UInt64×UInt64×UInt64×Int×UInt64×UInt64×UInt64×UInt64×UInt64×UInt64×PUnit)×List UInt64×List UInt64×List UInt64×List UInt64×List UInt64×PUnit:=(((),(),(),(),(),(),z8,(),z16-(1:Int),(0:Int),()),z11,(z17.fst,z18.fst,z19.fst,z20.fst,z21.fst,z22.fst,z23.fst,z24.fst,z25.fst,z26.fst,z26.snd.fst,()),z13.fst,z15,z27.fst,z27.snd.fst,[List.getD z15 0 0,List.getD z15 1 0,List.getD z15 2 0,List.getD z15 3 0],())
 let z29:(PUnit×PUnit×PUnit×PUnit×PUnit×PUnit×Int×PUnit×PUnit)×List UInt64×(UInt64×UInt64×UInt64×UInt64×Int×UInt64×UInt64×UInt64×UInt64×UInt64×UInt64×PUnit)×List UInt64×List UInt64×List UInt64×List UInt64×List UInt64×PUnit:=g4_4 z28
 let z30:=z29.snd
 let z31:=z30.snd
 let z32:=z31.snd
 let z33:=z32.snd
 let z34:=z33.snd
 let z35:=z34.snd
 let z36:=z35.snd.fst
 let z37:Bool:=decide (4<=List.length z36)
 let z38:=z31.fst
 let z39:=z38.fst
 let z40:=z38.snd
 let z41:=z40.fst
 let z42:=z40.snd
 let z43:=z42.fst
 let z44:=z42.snd
 let z45:=z44.fst
 let z46:aa:= {w0:=z39,w1:=z41,w2:=z43,w3:=z45}
 let z47:=z44.snd
 let z48:=z47.fst
 let z49:=z47.snd
 let z50:=z49.fst
 let z51:=z49.snd
 let z52:=z51.fst
 let z53:=z51.snd
 let z54:=z53.fst
 let z55:=z53.snd
 let z56:=z55.fst
 let z57:=z55.snd
 let z58:=z57.fst
 let z59:=z57.snd.fst
 let z60:aa×Int×UInt64×UInt64×aa:=(z46,z48,z50,z52,{w0:=z54,w1:=z56,w2:=z58,w3:=z59})
 let z61:aa:= {w0:=List.getD z36 0 0,w1:=List.getD z36 1 0,w2:=List.getD z36 2 0,w3:=List.getD z36 3 0}
 let z62:aa×PUnit:=(z61,())
 let z63:=z33.fst
 let z64:=z34.fst
 let z65:Nat:=List.length z64
 let z66:Nat:=aa.nat z46
 let z67:aa:=bB z66 z61 z61
 let z68:List UInt64:=List.set (List.set (List.set (List.set z63 0 z67.w0) 1 z67.w1) 2 z67.w2) 3 z67.w3
 let z69:aa:= {w0:=List.getD z64 0 0,w1:=List.getD z64 1 0,w2:=List.getD z64 2 0,w3:=List.getD z64 3 0}
 let z70:aa:= {w0:=List.getD z68 0 0,w1:=List.getD z68 1 0,w2:=List.getD z68 2 0,w3:=List.getD z68 3 0}
 let z71:=z35.fst
 let z72:Nat:=List.length z71
 let z73:aa:= {w0:=List.getD z71 0 0,w1:=List.getD z71 1 0,w2:=List.getD z71 2 0,w3:=List.getD z71 3 0}
 let z74:aa:=bB z66 z69 z70
 let z75:aa:=bB z66 z73 z61
 (gd [z0,decide (4<=List.length c2)] (.br (!(z1==List.getD c2 0 0&&(z2==List.getD c2 1 0&&(z3==List.getD c2 2 0&&(z4==List.getD c2 3 0&&true)))))
 (gd [z0,ok2 z5] (.br (z8==z9)
  (gd [decide (4<=List.length z11)] (.ok (.inr ⟨(.ret,lf),(((),((22:Int),())),(List.set (List.set (List.set (List.set z11 0 (0:UInt64)) 1 (0:UInt64)) 2 (0:UInt64)) 3 (0:UInt64),()))⟩)))
  (gd [decide (4<=List.length z15),inR z16,inR (z16-(1:Int)),ok4 z28,z37,z37,fT ((z60,z61,z62),()),decide ((4/1:Nat)+0<=List.length z63),decide (4<=z65),decide (4<=List.length z68),fT ((z60,z69,z70,()),()),decide ((4/1:Nat)+0<=z65),decide (4<=z72),z37,fT ((z60,z73,z62),()),decide ((4/1:Nat)+0<=z72)] (.ok (.inl (((),((),((),((),((),((),(z29.fst.snd.snd.snd.snd.snd.snd.fst,()))))))),(z30.fst,((z39,(z41,(z43,(z45,(z48,(z50,(z52,(z54,(z56,(z58,(z59,()))))))))))),(z32.fst,(z68,(List.set (List.set (List.set (List.set z64 0 z74.w0) 1 z74.w1) 2 z74.w2) 3 z74.w3,(List.set (List.set (List.set (List.set z71 0 z75.w0) 1 z75.w1) 2 z75.w2) 3 z75.w3,()))))))))))))
 (.ok (.inr ⟨(.exit 0,po),(((),((),((),()))),(c0,((c1_0,(c1_1,(c1_2,(c1_3,(c1_4,(c1_5,(c1_6,(c1_7,(c1_8,(c1_9,(c1_10,()))))))))))),(c5,()))))⟩))))
def wq (ok2:bL->Bool) (g2_2:bL->ek) (ok4:bK->Bool) (g4_4:bK->ej) (s:bl):OT (Sum bl aE):=U8 ok2 g2_2 ok4 g4_4 (s.1.2.2.2.2.2.2.1) (s.2.1) (s.2.2.1.1) (s.2.2.1.2.1) (s.2.2.1.2.2.1) (s.2.2.1.2.2.2.1) (s.2.2.1.2.2.2.2.1) (s.2.2.1.2.2.2.2.2.1) (s.2.2.1.2.2.2.2.2.2.1) (s.2.2.1.2.2.2.2.2.2.2.1) (s.2.2.1.2.2.2.2.2.2.2.2.1) (s.2.2.1.2.2.2.2.2.2.2.2.2.1) (s.2.2.1.2.2.2.2.2.2.2.2.2.2.1) (s.2.2.2.1) (s.2.2.2.2.1) (s.2.2.2.2.2.1) (s.2.2.2.2.2.2.1)
theorem aB1 (ok2:bL->Bool) (g2_2:bL->ek) (ok4:bK->Bool) (g4_4:bK->ej) (s:bl) (Q:Sum bl aE->Prop):wps te u7 (aO 4 (cb BX 4 ok4 (IZ g4_4)) (aO 2 (cb BZ 2 ok2 (I0 g2_2)) av)) 1000 (aV (aj Tryz.f97) 0) (B0.inj s) (bV B0 akV (Q:Sum B0.T aE->Prop))=(wq ok2 g2_2 ok4 g4_4 s).wpR Q:=by kernel_rfl
def I1 (g0_r:bl->jD) (c0_r:bl->Bool) (g0_0:bl->jE) (s:bl):OT aE:=(.br (c0_r s) (.ok ⟨(.ret,lf),g0_r s⟩) (.ok ⟨(.exit 0,po),g0_0 s⟩))
def eC:az:=⟨[.val true .elem,.val false .int],[],false⟩
def ZO:SV->Option az:=λ_=>some eC
def Ft (ok2:bL->Bool) (g2_2:bL->ek) (ok4:bK->Bool) (g4_4:bK->ej) (ok0:bl->Bool) (g0_r:bl->jD) (c0_r:bl->Bool) (g0_0:bl->jE) (a0:Int) (a1:aa):OT ks.Y:=
 let z0:aa×Int×UInt64×UInt64×aa:=aY (Int.toNat a0)
 let z1:=z0.fst
 let z2:aa:=ofN (aa.nat a1%aa.nat z1)
 let z3:aa:= {w0:=1,w1:=0,w2:=0,w3:=0}
 let z4:=(ef z1 z3).fst
 let z5:=z0.snd
 let z6:=z5.fst
 let z7:aa:= {w0:=5,w1:=0,w2:=0,w3:=0}
 let z8:aa:=dQ z4 (Int.toNat z6)
 let z9:aa×PUnit:=(z8,())
 let z10:aa:=dq (qk z8 z3).fst
 let z11:=z5.snd
 let z12:=z11.snd
 let z13:=z12.snd
 let z14:Nat:=pS a0
 let z15:aa:=gD z14 z7 z8
 let z16:aa:=gD z14 z2 z8
 let z17:aa:=gD z14 z2 z10
 let z18:(PUnit×PUnit×PUnit×PUnit×PUnit×PUnit×Int×PUnit)×List UInt64×(UInt64×UInt64×UInt64×UInt64×Int×UInt64×UInt64×UInt64×UInt64×UInt64×UInt64×PUnit)×List UInt64×List UInt64×List UInt64×List UInt64×PUnit:=(((),(),(),(),(),(),z6,()),[(0:UInt64),(0:UInt64),(0:UInt64),(0:UInt64)],(z1.w0,z1.w1,z1.w2,z1.w3,z6,z11.fst,z12.fst,z13.w0,z13.w1,z13.w2,z13.w3,()),[(1:UInt64),(0:UInt64),(0:UInt64),(0:UInt64)],[z15.w0,z15.w1,z15.w2,z15.w3],[z16.w0,z16.w1,z16.w2,z16.w3],[z17.w0,z17.w1,z17.w2,z17.w3],())
 let z19:(PUnit×Int×PUnit)×List UInt64×PUnit:=g0_r z18
 let z20:=z19.snd.fst
 let z21:=(g0_0 z18).snd
 let z22:=z21.snd
 let z23:=z22.snd.fst
 let z24:Nat:=List.length z23
 let z25:UInt64:=List.getD z23 0 0
 let z26:Bool:=decide (4<=z24)
 let z27:=z22.fst
 let z28:=z27.snd
 let z29:=z28.snd
 let z30:=z29.snd
 let z31:aa:= {w0:=z27.fst,w1:=z28.fst,w2:=z29.fst,w3:=z30.fst}
 let z32:=z30.snd
 let z33:=z32.snd
 let z34:=z33.snd
 let z35:=z34.snd
 let z36:=z35.snd
 let z37:=z36.snd
 let z38:aa:= {w0:=z25,w1:=List.getD z23 1 0,w2:=List.getD z23 2 0,w3:=List.getD z23 3 0}
 let z39:aa:=Ik (aa.nat z31) z38
 let z40:List UInt64:=List.set (List.set (List.set (List.set z23 0 z39.w0) 1 z39.w1) 2 z39.w2) 3 z39.w3
 let z41:=z21.fst
 let z42:Nat:=List.length z41
 let z43:List UInt64:=lay z41 z40 4 (0:UInt64)
 let z44:List UInt64:=lay z41 z23 4 (0:UInt64)
 (.br (ao a0)
 (gd [gr ((z0,a1,()),())] (.br (z2.w0==(0:UInt64)&&(z2.w1==(0:UInt64)&&(z2.w2==(0:UInt64)&&(z2.w3==(0:UInt64)&&true))))
  (.ok ⟨eC,((z2,((0:Int),())),())⟩)
  (gd [rm ((z4,z6,()),()),ua ((a0,z7,z9),()),ua ((a0,z2,z9),()),ua ((a0,z2,z10,()),()),ok0 z18] (.br (c0_r z18)
   (gd [decide (4<=List.length z20)] (.ok ⟨eC,(({w0:=List.getD z20 0 0,w1:=List.getD z20 1 0,w2:=List.getD z20 2 0,w3:=List.getD z20 3 0},(z19.fst.snd.fst,())),())⟩))
   (gd [decide (0<z24)] (.br (z25&&&(1:UInt64)==(1:UInt64))
    (gd [z26,Ca (((z31,z32.fst,z33.fst,z34.fst,{w0:=z35.fst,w1:=z36.fst,w2:=z37.fst,w3:=z37.snd.fst}),z38,()),()),decide ((4/1:Nat)+0<=z24),decide (4<=List.length z40),decide ((4/1:Nat)+0<=z42),decide (4<=List.length z43)] (.ok ⟨eC,(({w0:=List.getD z43 0 0,w1:=List.getD z43 1 0,w2:=List.getD z43 2 0,w3:=List.getD z43 3 0},((0:Int),())),())⟩))
    (gd [z26,decide ((4/1:Nat)+0<=z42),decide (4<=List.length z44)] (.ok ⟨eC,(({w0:=List.getD z44 0 0,w1:=List.getD z44 1 0,w2:=List.getD z44 2 0,w3:=List.getD z44 3 0},((0:Int),())),())⟩))))))))
 (.ok ⟨eC,(({w0:=0,w1:=0,w2:=0,w3:=0},((20:Int),())),())⟩))
theorem aHp (ok2:bL->Bool) (g2_2:bL->ek) (ok4:bK->Bool) (g4_4:bK->ej) (ok0:bl->Bool) (g0_r:bl->jD) (c0_r:bl->Bool) (g0_0:bl->jE) (x:Rw) (Q:ks.Y->Prop):wpf te u7 (aO 0 (cb B0 0 ok0 (I1 g0_r c0_r g0_0)) av) 1000 Tryz.f97 (ks.inp.inj x).tm (ks.inp.inj x).hp (fnK ks ZO Q) (λ_ _=>False)=(Ft ok2 g2_2 ok4 g4_4 ok0 g0_r c0_r g0_0 (x.1.1) (x.1.2.1)).wpR Q:=by kernel_rfl
theorem aoH (ok2:bL->Bool) (g2_2:bL->ek) (ok4:bK->Bool) (g4_4:bK->ej) (ok0:bl->Bool) (g0_r:bl->jD) (c0_r:bl->Bool) (g0_0:bl->jE) (h2:∀ s:bL,ok2 s=true->∃ m e,al (B3) m s=some e/\(I0 g2_2 s).run=some e) (h4:∀ s:bK,ok4 s=true->∃ m e,al (B2) m s=some e/\(IZ g4_4 s).run=some e) (h0:∀ s:bl,ok0 s=true->∃ m e,al (wq ok2 g2_2 ok4 g4_4) m s=some e/\(I1 g0_r c0_r g0_0 s).run=some e) (pre:Rw->Bool) (F:Rw->OT ks.Y) (hF:∀ (x:Rw) oy,pre x=true->(F x).run=some oy->(Ft ok2 g2_2 ok4 g4_4 ok0 g0_r c0_r g0_0 (x.1.1) (x.1.2.1)).run=some oy):ac Tryz.prog 97 (ks.aH pre F):=
 aD aq lj rS (f:=97) (fn:=Tryz.f97) (c:=aj Tryz.f97) (by kernel_rfl) (by kernel_rfl) (by kernel_rfl) (S:=ks) (k:=0) (by kernel_rfl) (λR hR=>(aB (c:=(aj Tryz.f97)) (by kernel_rfl) (id:=0) (by kernel_rfl) (aS aq lj rS (sh:=B0) hR (xs:=akV) (aC (by kernel_rfl) (by kernel_rfl) hR) aK (aB (c:=(aV (aj Tryz.f97) 0)) (by kernel_rfl) (id:=4) (by kernel_rfl) (aS aq lj rS (sh:=BX) hR (xs:=akT) (aC (by kernel_rfl) (by kernel_rfl) hR) aK af (n:=1000) (T:=B2) (λs Q=>aBZ s Q) (ok:=ok4) (f:=IZ g4_4) h4) (aB (c:=(aV (aj Tryz.f97) 0)) (by kernel_rfl) (id:=2) (by kernel_rfl) (aS aq lj rS (sh:=BZ) hR (xs:=akU) (aC (by kernel_rfl) (by kernel_rfl) hR) aK af (n:=1000) (T:=B3) (λs Q=>aB0 s Q) (ok:=ok2) (f:=I0 g2_2) h2) af)) (n:=1000) (T:=wq ok2 g2_2 ok4 g4_4) (λs Q=>aB1 ok2 g2_2 ok4 g4_4 s Q) (ok:=ok0) (f:=I1 g0_r c0_r g0_0) h0) af)) (n:=1000) (sel:=ZO) (λv o h=>by cases h;rfl) (pre:=pre) (F:=F) (T:=λx=>Ft ok2 g2_2 ok4 g4_4 ok0 g0_r c0_r g0_0 (x.1.1) (x.1.2.1)) (λx Q=>aHp ok2 g2_2 ok4 g4_4 ok0 g0_r c0_r g0_0 x Q) hF
abbrev C11:Type:=UInt64×UInt64×UInt64×UInt64×Int×UInt64×UInt64×UInt64×UInt64×UInt64×UInt64×Unit
def qj (c:C11):PD:=(⟨c.1,c.2.1,c.2.2.1,c.2.2.2.1⟩,c.2.2.2.2.1,c.2.2.2.2.2.1,c.2.2.2.2.2.2.1,⟨c.2.2.2.2.2.2.2.1,c.2.2.2.2.2.2.2.2.1,c.2.2.2.2.2.2.2.2.2.1,c.2.2.2.2.2.2.2.2.2.2.1⟩)
def j8 (s:bL):Bool:=kn (qj s.2.2.1)&&decide ((0<=s.1.2.2.2.2.2.2.1/\s.1.2.2.2.2.2.2.1<=1000)/\s.1.2.2.2.2.2.2.2.1=0/\s.2.2.2.1= [1,0,0,0]/\s.2.2.2.2.2.2.2.1.length=4)
def rj (s:bL):ek:=(((),(),(),(),(),(),s.1.2.2.2.2.2.2.1,(kF (qj s.2.2.1).1.nat s.1.2.2.2.2.2.2.1.toNat (elemOf s.2.2.2.2.2.2.2.1) 0:Int),()),(s.2.1,s.2.2.1,s.2.2.2.1,s.2.2.2.2.1,s.2.2.2.2.2.1,s.2.2.2.2.2.2.1,()))
def acC (c0:List UInt64) (C:C11) (z t x:List UInt64) (m k:Int) (u:aa):bL:=(((),(),(),(),(),(),m,k,(),()),(c0,C,lst eP,z,t,x,lst u,()))
theorem aje (c0:List UInt64) (C:C11) (z t x:List UInt64) (m:Nat) (hC:kn (qj C)=true) (hm:m<=1000):∀ (n k:Nat) (u:aa),k+n=m->
 ∃ j,al B3 j (acC c0 C z t x (m:Int) (k:Int) u)=some ⟨(.exit 2,pn),(((),(),(),(),(),(),(m:Int),(kF (qj C).1.nat n u k:Int),()),(c0,C,lst eP,z,t,x,()))⟩
 |0,k,u,h=>by
  refine ⟨1,aM ?_⟩
  refine (ah rfl).trans ?_
  rcases (Bool.eq_false_or_eq_true (eqE u eP)).symm with hq|hq
  ·exact (OT.ap (b:= !eqE u eP) (by rw [hq];rfl)).trans (OT.ar (decide_eq_false (by dsimp only [acC];omega)))
  ·exact OT.ar (b:= !eqE u eP) (by rw [hq];rfl)
 |n+1,k,u,h=>by
  unfold kF
  rcases (Bool.eq_false_or_eq_true (eqE u eP)).symm with hq|hq
  ·rw [hq]
   obtain ⟨j,hj⟩:=aje c0 C z t x m hC hm n (k+1) (bB (qj C).1.nat u u) (by omega)
   refine ⟨j+1,aG ?_ hj⟩
   refine (ah rfl).trans ((OT.ap (b:= !eqE u eP) (by rw [hq];rfl)).trans ((OT.ap (decide_eq_true (by dsimp only [acC];omega))).trans ((ah ?_).trans rfl)))
   simp only [List.all_cons,List.all_nil,Bool.and_true,Bool.and_eq_true]
   exact ⟨rfl,rfl,hC,rfl,rfl,aI (by dsimp only [acC];omega)⟩
  ·rw [hq]
   refine ⟨1,aM ?_⟩
   exact (ah rfl).trans (OT.ar (b:= !eqE u eP) (by rw [hq];rfl))
theorem aB4:∀ s:bL,j8 s=true->∃ m e,al B3 m s=some e/\(I0 rj s).run=some e:=by
 rintro ⟨⟨⟨⟩,⟨⟩,⟨⟩,⟨⟩,⟨⟩,⟨⟩,m,k,⟨⟩,⟨⟩⟩,⟨c0,C,one,z,t,x,u,⟨⟩⟩⟩ h
 simp only [j8,Bool.and_eq_true,decide_eq_true_eq] at h
 obtain ⟨hC,⟨h0,h1⟩,rfl,rfl,hu⟩:=h
 obtain ⟨v,rfl⟩:∃ a,u=lst a:=⟨elemOf u,(aR hu).symm⟩
 obtain ⟨n,rfl⟩:∃ n:Nat,m=(n:Int):=⟨m.toNat,by omega⟩
 obtain ⟨j,hj⟩:=aje c0 C z t x n hC (by omega) n 0 v (by omega)
 exact ⟨j,_,hj,rfl⟩
def j7 (s:bK):Bool:=kn (qj s.2.2.1)&&decide ((0<=s.1.2.2.2.2.2.2.2.2.1/\s.1.2.2.2.2.2.2.2.2.1<=1000)/\s.1.2.2.2.2.2.2.2.2.2.1=0/\s.2.2.2.2.2.2.2.1.length=4)
def ri (s:bK):ej:=(((),(),(),(),(),(),s.1.2.2.2.2.2.2.1,(),()),(s.2.1,s.2.2.1,s.2.2.2.1,s.2.2.2.2.1,s.2.2.2.2.2.1,s.2.2.2.2.2.2.1,lst (sqN (qj s.2.2.1).1.nat (elemOf s.2.2.2.2.2.2.2.1) s.1.2.2.2.2.2.2.2.2.1.toNat),()))
theorem aB3:∀ s:bK,j7 s=true->∃ m e,al B2 m s=some e/\(IZ ri s).run=some e:=by
 rintro ⟨⟨⟨⟩,⟨⟩,⟨⟩,⟨⟩,⟨⟩,⟨⟩,k,⟨⟩,n,i,⟨⟩⟩,⟨c0,C,one,z,t,x,u,⟨⟩⟩⟩ h
 simp only [j7,Bool.and_eq_true,decide_eq_true_eq] at h
 obtain ⟨hC,⟨h0,h1⟩,rfl,hu⟩:=h
 obtain ⟨v,rfl⟩:∃ a,u=lst a:=⟨elemOf u,(aR hu).symm⟩
 obtain ⟨d,rfl⟩:∃ d:Nat,n=(d:Int):=⟨n.toNat,by omega⟩
 have:=(aP (T:=B2) (λi u=>((((),(),(),(),(),(),k,(),(d:Int),(i:Int),()),(c0,C,one,z,t,x,lst u,())):bK)) (λ_ e=>bB (qj C).1.nat e e)
  (λu=>(⟨(.exit 4,wo),(((),(),(),(),(),(),k,(),()),(c0,C,one,z,t,x,lst u,()))⟩:aE)) d v (λ_ _=>True) trivial (λi u hi _=>⟨?_,trivial⟩) (λu _=> ?_)).1
 ·obtain ⟨m,hm⟩:=this
  exact ⟨m,_,hm,rfl⟩
 ·refine (OT.ap (decide_eq_true (by dsimp only;omega))).trans ((ah ?_).trans rfl)
  simp only [List.all_cons,List.all_nil,Bool.and_true,Bool.and_eq_true]
  exact ⟨rfl,rfl,hC,rfl,aI (by omega)⟩
 ·exact OT.ar (decide_eq_false (by dsimp only;omega))
def aFZ (c0:aa) (C:C11) (m:Int) (w:Ton):bl:=(((),(),(),(),(),(),m,()),(lst c0,C,lst eP,lst w.2.2,lst w.2.1,lst w.1,()))
theorem aFY {ok2:bL->Bool} {g2:bL->ek} {ok4:bK->Bool} {g4:bK->ej} {c0:aa} {C:C11} {m k:Nat} {w:Ton} {b:aa} (hC:kn (qj C)=true) (hm:m<=1000) (hq:eqE w.2.1 eP=false)
 (h2:ok2 (acC (lst c0) C (lst w.2.2) (lst w.2.1) (lst w.1) (m:Int) 0 w.2.1)=true)
 (e2:g2 (acC (lst c0) C (lst w.2.2) (lst w.2.1) (lst w.1) (m:Int) 0 w.2.1)=(((),(),(),(),(),(),(m:Int),(k:Int),()),(lst c0,C,lst eP,lst w.2.2,lst w.2.1,lst w.1,()))) (hk:k<=m)
 (h4:k<m->ok4 (((),(),(),(),(),(),(k:Int),(),(m:Int)-(k:Int)-1,0,()),(lst c0,C,lst eP,lst w.2.2,lst w.2.1,lst w.1,lst w.2.2,()))=true)
 (e4:g4 (((),(),(),(),(),(),(k:Int),(),(m:Int)-(k:Int)-1,0,()),(lst c0,C,lst eP,lst w.2.2,lst w.2.1,lst w.1,lst w.2.2,()))=(((),(),(),(),(),(),(k:Int),(),()),(lst c0,C,lst eP,lst w.2.2,lst w.2.1,lst w.1,lst b,()))):
 (wq ok2 g2 ok4 g4 (aFZ c0 C (m:Int) w)).run=cond (Nat.beq k m) (some (.inr ⟨(.ret,lf),(((),(22:Int),()),(lst ⟨0,0,0,0⟩,()))⟩))
  (some (.inl (aFZ c0 C (k:Int) (bB (qj C).1.nat w.1 b,bB (qj C).1.nat w.2.1 (bB (qj C).1.nat b b),bB (qj C).1.nat b b)))):=by
 obtain ⟨x,t,z⟩:=w
 unfold acC at h2 e2
 have hb:∀ e:aa,[List.getD (lst e) 0 0,List.getD (lst e) 1 0,List.getD (lst e) 2 0,List.getD (lst e) 3 0]=lst e:=λ_=>rfl
 have hpre:∀ a c:aa,fT ((qj C,a,c,()),())=true:=λ_ _=>hC
 have e2':g2 (((),(),(),(),(),(),(m:Int),0,(),()),(lst c0,(C.1,C.2.1,C.2.2.1,C.2.2.2.1,C.2.2.2.2.1,C.2.2.2.2.2.1,C.2.2.2.2.2.2.1,C.2.2.2.2.2.2.2.1,C.2.2.2.2.2.2.2.2.1,C.2.2.2.2.2.2.2.2.2.1,C.2.2.2.2.2.2.2.2.2.2.1,()),lst eP,lst z,lst t,lst x,lst t,()))=(((),(),(),(),(),(),(m:Int),(k:Int),()),(lst c0,C,lst eP,lst z,lst t,lst x,())):=e2
 have e4':g4 (((),(),(),(),(),(),(k:Int),(),(m:Int)-(k:Int)-1,0,()),(lst c0,(C.1,C.2.1,C.2.2.1,C.2.2.2.1,C.2.2.2.2.1,C.2.2.2.2.2.1,C.2.2.2.2.2.2.1,C.2.2.2.2.2.2.2.1,C.2.2.2.2.2.2.2.2.1,C.2.2.2.2.2.2.2.2.2.1,C.2.2.2.2.2.2.2.2.2.2.1,()),lst eP,lst z,lst t,lst x,lst z,()))=(((),(),(),(),(),(),(k:Int),(),()),(lst c0,C,lst eP,lst z,lst t,lst x,lst b,())):=e4
 show (U8 ok2 g2 ok4 g4 (m:Int) (lst c0) C.1 C.2.1 C.2.2.1 C.2.2.2.1 C.2.2.2.2.1 C.2.2.2.2.2.1 C.2.2.2.2.2.2.1 C.2.2.2.2.2.2.2.1 C.2.2.2.2.2.2.2.2.1 C.2.2.2.2.2.2.2.2.2.1 C.2.2.2.2.2.2.2.2.2.2.1 (lst eP) (lst z) (lst t) (lst x)).run=_
 unfold U8
 simp only [hb,e2',e4']
 refine (ah rfl).trans ((OT.ap (b:= !eqE t eP) (by rw [hq];rfl)).trans ((ah ?_).trans ?_))
 ·simp only [List.all_cons,List.all_nil,Bool.and_true,Bool.and_eq_true]
  exact ⟨rfl,h2⟩
 ·by_cases h:k=m
  ·subst h
   rw [Nat.beq_refl]
   refine (OT.ap (beq_self_eq_true _)).trans ((ah rfl).trans rfl)
  ·have hn:Nat.beq k m=false:=by
    cases hb:Nat.beq k m
    ·rfl
    ·exact absurd (Nat.eq_of_beq_eq_true hb) h
   rw [hn]
   refine (OT.ar ?_).trans ((ah ?_).trans rfl)
   ·exact beq_false_of_ne (λe=>h (by omega))
   ·simp only [List.all_cons,List.all_nil,Bool.and_true,Bool.and_eq_true]
    exact ⟨rfl,aI (by omega),aI (by omega),h4 (by omega),rfl,rfl,hC,rfl,rfl,rfl,hC,rfl,rfl,rfl,hC,rfl⟩
def aJg (c0:aa) (C:C11):Option aa->aE
 |some x=>⟨(.exit 0,po),(((),(),(),()),(lst c0,C,lst x,()))⟩
 |none=>⟨(.ret,lf),(((),(22:Int),()),(lst ⟨0,0,0,0⟩,()))⟩
theorem ajf (c0:aa) (C:C11) (hC:kn (qj C)=true):∀ (f m:Nat) (w:Ton),m<f->m<=1000->
 ∃ j,al (wq j8 rj j7 ri) j (aFZ c0 C (m:Int) w)=some (aJg c0 C (tsF (qj C).1.nat f m w))
 |0,m,w,h,_=>absurd h (Nat.not_lt_zero _)
 |f+1,m,w,hf,hm=>by
  unfold tsF
  rcases (Bool.eq_false_or_eq_true (eqE w.2.1 eP)).symm with hq|hq
  ·rw [hq]
   simp only [cond_false]
   have hk:kF (qj C).1.nat m w.2.1 0<=m:=by
    have key:∀ (n:Nat) (s:aa) (k:Nat),kF (qj C).1.nat n s k<=k+n:=by
     intro n
     induction n with
     |zero=>intro s k;exact Nat.le_refl _
     |succ n ih=>
      intro s k
      unfold kF
      cases eqE s eP
      ·have:=ih (bB (qj C).1.nat s s) (k+1)
       simp only [cond_false]
       omega
      ·simp only [cond_true]
       omega
    have:=key m w.2.1 0
    omega
   have hst:=aFY (ok2:=j8) (g2:=rj) (ok4:=j7) (g4:=ri) (c0:=c0) (C:=C) (m:=m) (k:=kF (qj C).1.nat m w.2.1 0) (w:=w) (b:=tsB (qj C).1.nat m (kF (qj C).1.nat m w.2.1 0) w) hC hm hq
    (by
     refine (Bool.and_eq_true _ _).mpr ⟨hC,decide_eq_true ⟨⟨?_,?_⟩,rfl,rfl,rfl⟩⟩
     ·show (0:Int)<=(m:Int);omega
     ·show (m:Int)<=1000;omega) rfl hk
    (λhlt=>by
     refine (Bool.and_eq_true _ _).mpr ⟨hC,decide_eq_true ⟨⟨?_,?_⟩,rfl,rfl⟩⟩
     ·show (0:Int)<=(m:Int)-(kF (qj C).1.nat m w.2.1 0:Int)-1;omega
     ·show (m:Int)-(kF (qj C).1.nat m w.2.1 0:Int)-1<=1000;omega)
    (by
     have e:((m:Int)-(kF (qj C).1.nat m w.2.1 0:Int)-1).toNat=m-kF (qj C).1.nat m w.2.1 0-1:=by omega
     show (((),(),(),(),(),(),(kF (qj C).1.nat m w.2.1 0:Int),(),()),(lst c0,C,lst eP,lst w.2.2,lst w.2.1,lst w.1,lst (sqN (qj C).1.nat w.2.2 ((m:Int)-(kF (qj C).1.nat m w.2.1 0:Int)-1).toNat),()))=_
     rw [e]
     rfl)
   cases hb:Nat.beq (kF (qj C).1.nat m w.2.1 0) m
   ·rw [hb] at hst
    have hne:=y8 hb
    obtain ⟨j,hj⟩:=ajf c0 C hC f (kF (qj C).1.nat m w.2.1 0) (tsW (qj C).1.nat m (kF (qj C).1.nat m w.2.1 0) w) (by omega) (by omega)
    exact ⟨j+1,aG hst hj⟩
   ·rw [hb] at hst
    exact ⟨1,aM hst⟩
  ·rw [hq]
   simp only [cond_true]
   refine ⟨1,aM ?_⟩
   exact (ah rfl).trans (OT.ar (b:= !eqE w.2.1 eP) (by rw [hq];rfl))
def tL (s:bl):Option aa:=tsF (qj s.2.2.1).1.nat (s.1.2.2.2.2.2.2.1.toNat+1) s.1.2.2.2.2.2.2.1.toNat (elemOf s.2.2.2.2.2.2.1,elemOf s.2.2.2.2.2.1,elemOf s.2.2.2.2.1)
def pl (s:bl):Bool:=kn (qj s.2.2.1)&&decide ((0<=s.1.2.2.2.2.2.2.1/\s.1.2.2.2.2.2.2.1<=1000)/\s.2.1.length=4/\s.2.2.2.1= [1,0,0,0]/\s.2.2.2.2.1.length=4/\s.2.2.2.2.2.1.length=4/\s.2.2.2.2.2.2.1.length=4)
def I2 (s:bl):Bool:=(tL s).isNone
def B1 (_:bl):jD:=(((),(22:Int),()),(lst ⟨0,0,0,0⟩,()))
def IY (s:bl):jE:=(((),(),(),()),(s.2.1,s.2.2.1,lst ((tL s).getD ⟨0,0,0,0⟩),()))
theorem aB5:∀ s:bl,pl s=true->∃ m e,al (wq j8 rj j7 ri) m s=some e/\(I1 B1 I2 IY s).run=some e:=by
 rintro ⟨⟨⟨⟩,⟨⟩,⟨⟩,⟨⟩,⟨⟩,⟨⟩,m,⟨⟩⟩,⟨c0,C,one,z,t,x,⟨⟩⟩⟩ h
 simp only [pl,Bool.and_eq_true,decide_eq_true_eq] at h
 obtain ⟨hC,⟨h0,h1⟩,hc,rfl,hz,ht,hx⟩:=h
 obtain ⟨c,rfl⟩:∃ a,c0=lst a:=⟨elemOf c0,(aR hc).symm⟩
 obtain ⟨Z,rfl⟩:∃ a,z=lst a:=⟨elemOf z,(aR hz).symm⟩
 obtain ⟨T,rfl⟩:∃ a,t=lst a:=⟨elemOf t,(aR ht).symm⟩
 obtain ⟨X,rfl⟩:∃ a,x=lst a:=⟨elemOf x,(aR hx).symm⟩
 obtain ⟨n,rfl⟩:∃ n:Nat,m=(n:Int):=⟨m.toNat,by omega⟩
 obtain ⟨j,hj⟩:=ajf c C hC (n+1) n (X,T,Z) (by omega) (by omega)
 refine ⟨j,_,hj,?_⟩
 show (OT.br (tsF (qj C).1.nat (n+1) n (X,T,Z)).isNone (.ok ⟨(.ret,lf),_⟩) (.ok ⟨(.exit 0,po),(((),(),(),()),(lst c,C,lst ((tsF (qj C).1.nat (n+1) n (X,T,Z)).getD ⟨0,0,0,0⟩),()))⟩):OT aE).run=some (aJg c C (tsF (qj C).1.nat (n+1) n (X,T,Z)))
 cases tsF (qj C).1.nat (n+1) n (X,T,Z)<;>rfl
def ZP (_:Rw):Bool:=true
def avQ (x:Rw):OT ks.Y:=.br (ao x.1.1) (.br (bN (ofP (pS x.1.1) x.1.2.1)) (.ok ⟨eC,((⟨0,0,0,0⟩,((0:Int),())),())⟩)
 (.br (eqE (gD (pS x.1.1) (ofP (pS x.1.1) x.1.2.1) (dq (ef (aY x.1.1.toNat).1 eP).1)) eP) (.ok ⟨eC,((kV (pS x.1.1) (sH x.1.1 (ofP (pS x.1.1) x.1.2.1)),((0:Int),())),())⟩) (.ok ⟨eC,((⟨0,0,0,0⟩,((22:Int),())),())⟩)))
 (.ok ⟨eC,((⟨0,0,0,0⟩,((20:Int),())),())⟩)
def aLq (n:PD):C11:=(n.1.w0,n.1.w1,n.1.w2,n.1.w3,n.2.1,n.2.2.1,n.2.2.2.1,n.2.2.2.2.w0,n.2.2.2.2.w1,n.2.2.2.2.w2,n.2.2.2.2.w3,())
abbrev Xc (n:PD) (z t x:aa):bl:=(((),(),(),(),(),(),n.2.1,()),[0,0,0,0],(n.1.w0,n.1.w1,n.1.w2,n.1.w3,n.2.1,n.2.2.1,n.2.2.2.1,n.2.2.2.2.w0,n.2.2.2.2.w1,n.2.2.2.2.w2,n.2.2.2.2.w3,()),[1,0,0,0],[z.w0,z.w1,z.w2,z.w3],[t.w0,t.w1,t.w2,t.w3],[x.w0,x.w1,x.w2,x.w3],())
theorem aoI {ok2:bL->Bool} {g2:bL->ek} {ok4:bK->Bool} {g4:bK->ej} {ok0:bl->Bool} {g0r:bl->jD} {c0:bl->Bool} {g0:bl->jE} {s:Int} {a A z t x X:aa} {c:Bool}
 (hs:ao s=true) (k:amd s) (hA:ofN (a.nat%(aY s.toNat).1.nat)=A) (hz:bN A=false) (ez:gD (pS s) ⟨5,0,0,0⟩ (IQ s)=z) (et:gD (pS s) A (IQ s)=t) (ex:gD (pS s) A (dq (qk (IQ s) eP).1)=x)
 (h0:ok0 (Xc (aY s.toNat) z t x)=true) (hc:c0 (Xc (aY s.toNat) z t x)=c) (er:g0r (Xc (aY s.toNat) z t x)=(((),(22:Int),()),(lst ⟨0,0,0,0⟩,())))
 (e0:g0 (Xc (aY s.toNat) z t x)=(((),(),(),()),(lst ⟨0,0,0,0⟩,aLq (aY s.toNat),lst X,()))):
 (Ft ok2 g2 ok4 g4 ok0 g0r c0 g0 s a).run=cond c (some ⟨eC,((⟨0,0,0,0⟩,((22:Int),())),())⟩) (some ⟨eC,((kV (pS s) X,((0:Int),())),())⟩):=by
 have ez':gD (pS s) ⟨5,0,0,0⟩ (dQ (ef (aY s.toNat).1 ⟨1,0,0,0⟩).1 (aY s.toNat).2.1.toNat)=z:=ez
 have et':gD (pS s) A (dQ (ef (aY s.toNat).1 ⟨1,0,0,0⟩).1 (aY s.toNat).2.1.toNat)=t:=et
 have ex':gD (pS s) A (dq (qk (dQ (ef (aY s.toNat).1 ⟨1,0,0,0⟩).1 (aY s.toNat).2.1.toNat) ⟨1,0,0,0⟩).1)=x:=ex
 have hp1:rm (((ef (aY s.toNat).1 ⟨1,0,0,0⟩).1,(aY s.toNat).2.1,()),())=true:=by
  refine decide_eq_true ?_
  show 0<=(aY s.toNat).2.1/\(aY s.toNat).2.1<=1000000
  have h:=axU hs
  omega
 unfold Ft
 simp only [hA,ez',et',ex',er,e0,hc]
 refine (OT.ap hs).trans ((ah ?_).trans ((OT.ar (b:=bN A) hz).trans ((ah ?_).trans ?_)))
 ·simp only [List.all_cons,List.all_nil,Bool.and_true]
  exact iP hs
 ·simp only [List.all_cons,List.all_nil,Bool.and_true,Bool.and_eq_true]
  exact ⟨hp1,hs,hs,hs,h0⟩
 ·cases c
  ·have hn:kn (qj (aLq (aY s.toNat)))=true:=iP hs
   refine (OT.ar rfl).trans ((ah rfl).trans ?_)
   have ho:=aBx X
   unfold kV
   rcases (Bool.eq_false_or_eq_true (X.w0%2==1)).symm with h|h
   ·rw [h] at ho⊢
    exact (OT.ar ho).trans ((ah rfl).trans rfl)
   ·rw [h] at ho⊢
    refine (OT.ap ho).trans ((ah ?_).trans rfl)
    simp only [List.all_cons,List.all_nil,Bool.and_true,Bool.and_eq_true]
    exact ⟨rfl,hn,rfl,rfl,rfl,rfl⟩
  ·exact (OT.ap rfl).trans ((ah rfl).trans rfl)
theorem aB2:ac Tryz.prog 97 (ks.aH ZP avQ):=aoH j8 rj j7 ri pl B1 I2 IY aB4 aB3 aB5 _ _ λx oy hp ho=>by
 rw [<-ho]
 clear ho
 obtain ⟨⟨s,a,⟨⟩⟩,⟨⟩⟩:=x
 show (Ft j8 rj j7 ri pl B1 I2 IY s a).run=(OT.br (ao s) (.br (bN (ofP (pS s) a)) (.ok ⟨eC,((⟨0,0,0,0⟩,((0:Int),())),())⟩)
  (.br (eqE (gD (pS s) (ofP (pS s) a) (dq (ef (aY s.toNat).1 eP).1)) eP) (.ok ⟨eC,((kV (pS s) (sH s (ofP (pS s) a)),((0:Int),())),())⟩) (.ok ⟨eC,((⟨0,0,0,0⟩,((22:Int),())),())⟩)))
  (.ok ⟨eC,((⟨0,0,0,0⟩,((20:Int),())),())⟩):OT ks.Y).run
 rcases (Bool.eq_false_or_eq_true (ao s)).symm with hs|hs
 ·exact (OT.ar hs).trans (OT.ar (b:=ao s) hs).symm
 ·have k:=Xb hs
  refine Eq.trans ?_ (OT.ap (b:=ao s) hs).symm
  have hA:ofN (a.nat%(aY s.toNat).1.nat)=ofP (pS s) a:=rfl
  have hlt:(ofP (pS s) a).nat<pS s:=by
   rw [show (ofP (pS s) a).nat=a.nat%pS s from dm k.sm]
   exact Nat.mod_lt _ k.pr.pos
  generalize ofP (pS s) a=A at*
  rcases (Bool.eq_false_or_eq_true (bN A)).symm with hz|hz
  ·refine Eq.trans ?_ (OT.ar (b:=bN A) hz).symm
   have hsame:=aEz k hlt hz
   have hres:tL (Xc (aY s.toNat) (fy s A).2.2 (fy s A).2.1 (fy s A).1)=tsF (pS s) (adS s+1) (adS s) (fy s A):=rfl
   have hbd:=axU hs
   have h0:pl (Xc (aY s.toNat) (fy s A).2.2 (fy s A).2.1 (fy s A).1)=true:=by
    refine (Bool.and_eq_true _ _).mpr ⟨iP hs,decide_eq_true ⟨⟨?_,?_⟩,rfl,rfl,rfl,rfl,rfl⟩⟩
    ·show 0<=(aY s.toNat).2.1;omega
    ·show (aY s.toNat).2.1<=1000;omega
   have main:=aoI (ok2:=j8) (g2:=rj) (ok4:=j7) (g4:=ri) (ok0:=pl) (g0r:=B1) (c0:=I2) (g0:=IY) (X:=(tL (Xc (aY s.toNat) (fy s A).2.2 (fy s A).2.1 (fy s A).1)).getD ⟨0,0,0,0⟩) hs k hA hz rfl rfl rfl h0 rfl rfl rfl
   refine main.trans ?_
   show cond (tL (Xc (aY s.toNat) (fy s A).2.2 (fy s A).2.1 (fy s A).1)).isNone _ _=_
   rw [hres]
   rcases (Bool.eq_false_or_eq_true (eqE (gD (pS s) A (dq (ef (aY s.toNat).1 eP).1)) eP)).symm with h|h
   ·rw [h] at hsame
    refine Eq.trans ?_ (OT.ar h).symm
    cases ht:tsF (pS s) (adS s+1) (adS s) (fy s A) with
    |none=>rfl
    |some x=>rw [ht] at hsame;cases hsame
   ·rw [h] at hsame
    refine Eq.trans ?_ (OT.ap h).symm
    cases ht:tsF (pS s) (adS s+1) (adS s) (fy s A) with
    |none=>rw [ht] at hsame;cases hsame
    |some x=>
     rw [ht] at hsame
     have hsame:some (kV (pS s) x)=some (kV (pS s) (sH s A)):=hsame
     rw [<-Option.some.inj hsame]
     rfl
  ·refine Eq.trans ?_ (OT.ap (b:=bN A) hz).symm
   rw [zero_eq hz] at hA
   refine (OT.ap hs).trans ((ah ?_).trans ?_)
   ·simp only [List.all_cons,List.all_nil,Bool.and_true]
    exact iP hs
   ·rw [hA]
    rfl
def Fs:cf:=(ks.aH ZP avQ)
theorem ae7:ac Tryz.prog 97 Fs:=aB2
theorem ae6:aF Fs:=aA
def Gu:Env:=ay 97 Fs u7
theorem xz:aQ Tryz.prog Gu:=ag ae7 lj
theorem HU:ax Gu:=ae ae6 HZ
theorem Oa:aU Tryz.prog te Gu:=aJ follows aq xz HU
def fh:aw:=⟨[.val false .int,.val true .elem],[],true,0,false⟩
abbrev wG:Type:=((Int)×(aa)×Unit)×(Unit)
def pF:Shape:=⟨39,[(3,.ptr 0 0 0),(7,.own 1),(21,.val false .int),(22,.val false .int)],[(0,.row .u64),(1,.row .u8)],0,true⟩
abbrev b9:Type:=((Unit)×(Unit)×(Int)×(Int)×Unit)×((List (UInt64))×(List (UInt8))×Unit)
def nF:Shape:=⟨39,[(7,.own 0)],[(0,.row .u8)],0,true⟩
abbrev iZ:Type:=((Unit)×Unit)×((List (UInt8))×Unit)
def RJ:SE->Option Shape:=fp [(0,nF)] none
def api (a21:Int) (a22:Int) (c0:List (UInt64)) (c1:List (UInt8)):OT (Sum b9 aE):=
 let z0:Int:=Int.tdiv a22 (8:Int)
 let z1:Int:=(8:Int)*Int.tmod a22 (8:Int)
 let z2:Nat:=List.length c1
 let z3:Nat:=Int.toNat a22
 (.br (decide (a22<a21))
 (gd [true&&inR z0,inB z0 4,decide (Int.toNat z0+0<List.length c0),inR z1,decide ((0:Int)<=z1),inB a22 z2,decide (z3<z2),inR (a22+(1:Int))] (.ok (.inl (((),((),(a21,(a22+(1:Int),())))),(c0,(List.set c1 z3 (UInt64.toUInt8 (be (List.getD c0 (Int.toNat z0+0) (0:UInt64)) z1)),()))))))
 (.ok (.inr ⟨(.exit 0,nF),(((),()),(c1,()))⟩)))
def pG (s:b9):OT (Sum b9 aE):=api (s.1.2.2.1) (s.1.2.2.2.1) (s.2.1) (s.2.2.1)
theorem apf (s:b9) (Q:Sum b9 aE->Prop):wps te Gu av 1000 (aV (aj Tryz.f53) 0) (pF.inj s) (bV pF RJ (Q:Sum pF.T aE->Prop))=(pG s).wpR Q:=by kernel_rfl
def wF (g0_0:b9->iZ) (s:b9):OT aE:=(.ok ⟨(.exit 0,nF),g0_0 s⟩)
def jH:az:=⟨[.own 0],[(0,.row .u8)],false⟩
def Mt:SV->Option az:=λ_=>some jH
def Mv (ok0:b9->Bool) (g0_0:b9->iZ) (a0:Int) (a1:aa):OT fh.Y:=
 let z0:aa×Int×UInt64×UInt64×aa:=aY (Int.toNat a0)
 let z1:aa:=ofN (aa.nat a1%aa.nat z0.fst)
 let z2:(PUnit×PUnit×Int×Int×PUnit)×List UInt64×List UInt8×PUnit:=(((),(),(32:Int),(0:Int),()),[z1.w0,z1.w1,z1.w2,z1.w3],List.replicate 32 (0:UInt8),())
 (.br (ao a0)
 (gd [gr ((z0,a1,()),()),ok0 z2] (.ok ⟨jH,(((),()),((g0_0 z2).snd.fst,()))⟩))
 (.ok ⟨jH,(((),()),([],()))⟩))
theorem awj (ok0:b9->Bool) (g0_0:b9->iZ) (x:wG) (Q:fh.Y->Prop):wpf te Gu (aO 0 (cb pF 0 ok0 (wF g0_0)) av) 1000 Tryz.f53 (fh.inp.inj x).tm (fh.inp.inj x).hp (fnK fh Mt Q) (λ_ _=>False)=(Mv ok0 g0_0 (x.1.1) (x.1.2.1)).wpR Q:=by kernel_rfl
theorem aah (ok0:b9->Bool) (g0_0:b9->iZ) (h0:∀ s:b9,ok0 s=true->∃ m e,al (pG) m s=some e/\(wF g0_0 s).run=some e) (pre:wG->Bool) (F:wG->OT fh.Y) (hF:∀ (x:wG) oy,pre x=true->(F x).run=some oy->(Mv ok0 g0_0 (x.1.1) (x.1.2.1)).run=some oy):ac Tryz.prog 53 (fh.aH pre F):=
 aD aq xz Oa (f:=53) (fn:=Tryz.f53) (c:=aj Tryz.f53) (by kernel_rfl) (by kernel_rfl) (by kernel_rfl) (S:=fh) (k:=0) (by kernel_rfl) (λR hR=>(aB (c:=(aj Tryz.f53)) (by kernel_rfl) (id:=0) (by kernel_rfl) (aS aq xz Oa (sh:=pF) hR (xs:=RJ) (aC (by kernel_rfl) (by kernel_rfl) hR) aK af (n:=1000) (T:=pG) (λs Q=>apf s Q) (ok:=ok0) (f:=wF g0_0) h0) af)) (n:=1000) (sel:=Mt) (λv o h=>by cases h;rfl) (pre:=pre) (F:=F) (T:=λx=>Mv ok0 g0_0 (x.1.1) (x.1.2.1)) (λx Q=>awj ok0 g0_0 x Q) hF
def aqE (e:aa):List UInt8:=upto (λk o=>o.set k (UInt64.toUInt8 (be ((lst e).getD (k/8) 0) (8*((k%8:Nat):Int))))) (List.replicate 32 0) 32
def zp (s:b9):Bool:=decide (s.1.2.2.1=32/\s.1.2.2.2.1=0/\s.2.1.length=4/\s.2.2.1=List.replicate 32 0)
def wE (s:b9):iZ:=(((),()),(aqE (elemOf s.2.1),()))
theorem aph:∀ s:b9,zp s=true->∃ m e,al pG m s=some e/\(wF wE s).run=some e:=by
 rintro ⟨⟨⟨⟩,⟨⟩,n,i,⟨⟩⟩,⟨h,o,⟨⟩⟩⟩ hh
 have h':=of_decide_eq_true hh
 dsimp only at h'
 obtain ⟨rfl,rfl,hl,rfl⟩:=h'
 obtain ⟨e,rfl⟩:∃ e,h=lst e:=⟨elemOf h,(aR hl).symm⟩
 have:=(aP (T:=pG) (λi o=>((((),(),(32:Int),(i:Int),()),(lst e,o,())):b9)) (λk o=>o.set k (UInt64.toUInt8 (be ((lst e).getD (k/8) 0) (8*((k%8:Nat):Int)))))
  (λo=>(⟨(.exit 0,nF),(((),()),(o,()))⟩:aE)) 32 (List.replicate 32 0) (λ_ o=>o.length=32) (by simp) (λi o hi ho=>⟨?_,by rw [List.length_set];exact ho⟩) (λo ho=> ?_)).1
 ·obtain ⟨m,hm⟩:=this
  exact ⟨m,_,hm,rfl⟩
 ·have t1:Int.tdiv (i:Int) 8=((i/8:Nat):Int):=by rw [Int.tdiv_eq_ediv_of_nonneg (by omega)];omega
  have t2:Int.tmod (i:Int) 8=((i%8:Nat):Int):=by rw [Int.tmod_eq_emod_of_nonneg (by omega)];omega
  refine (OT.ap (decide_eq_true (by dsimp only;omega))).trans ((ah ?_).trans ?_)
  ·simp only [t1,t2,cA,ho,Int.toNat_natCast,List.all_cons,List.all_nil,Bool.and_true,Bool.and_eq_true]
   exact ⟨⟨trivial,aI (by omega)⟩,aN (by omega),decide_eq_true (by omega),aI (by omega),decide_eq_true (by omega),aN (by omega),decide_eq_true (by omega),aI (by omega)⟩
  ·simp only [OT.cK,t1,t2,Int.toNat_natCast,Nat.add_zero]
   rfl
 ·exact OT.ar (decide_eq_false (by dsimp only;omega))
theorem Pp (e:aa):zp (((),(),32,0,()),(lst e,List.replicate 32 0,()))=true:=decide_eq_true ⟨rfl,rfl,rfl,rfl⟩
theorem afp (z:aa):(OT.ok ⟨jH,(((),()),((wE (((),(),32,0,()),([z.w0,z.w1,z.w2,z.w3],List.replicate 32 0,()))).2.1,()))⟩:OT fh.Y)=.ok ⟨jH,(((),()),(aqE z,()))⟩:=by
 have e:elemOf [z.w0,z.w1,z.w2,z.w3]=z:=rfl
 simp only [wE,e]
def Mu (_:wG):Bool:=true
def aai (x:wG):OT fh.Y:=.br (ao x.1.1) (.ok ⟨jH,(((),()),(aqE (ofN (x.1.2.1.nat%(aY x.1.1.toNat).1.nat)),()))⟩) (.ok ⟨jH,(((),()),([],()))⟩)
theorem apg:ac Tryz.prog 53 (fh.aH Mu aai):=aah zp wE aph _ _ λx oy hp ho=>by
 rw [<-ho]
 clear ho
 obtain ⟨⟨s,a,⟨⟩⟩,⟨⟩⟩:=x
 cases hs:ao s
 ·exact (OT.ar hs).trans (OT.ar (b:=ao s) hs).symm
 ·refine (OT.ap hs).trans ((ah ?_).trans ?_)
  ·simp only [List.all_cons,List.all_nil,Bool.and_true,Bool.and_eq_true]
   exact ⟨iP hs,Pp _⟩
  ·refine Eq.trans ?_ (OT.ap (b:=ao s) hs).symm
   exact congrArg OT.run (afp (ofN (a.nat%(aY s.toNat).1.nat)))
def ub:cf:=(fh.aH Mu aai)
theorem Vr:ac Tryz.prog 53 ub:=apg
theorem Vq:aF ub:=aA
def va:Env:=ay 53 ub Gu
theorem u9:aQ Tryz.prog va:=ag Vr xz
theorem yk:ax va:=ae Vq HU
theorem Wy:aU Tryz.prog te va:=aJ follows aq u9 yk
end Go.Proofs.YtohjofabochgfaaGreat

namespace Go.Proofs.YtohjofabochgfaaGreat
open Sx Go
abbrev fW:Pt:=(⟨0,0,0,0⟩,⟨0,0,0,0⟩,false)
end Go.Proofs.YtohjofabochgfaaGreat

namespace Go.Proofs.YtohjofabochgfaaGreat
open Sx Go
set_option maxRecDepth 100000
def dh:aw:=⟨[.val false .int,.val false (.list .u8)],[],true,0,false⟩
abbrev nG:Type:=((Int)×(List (UInt8))×Unit)×(Unit)
def bp:az:=⟨[.val true (.prod .elem (.prod .elem .bool)),.val false .int],[],false⟩
def MR:SV->Option az:=λ_=>some bp
def uw (a0:Int) (a1:List (UInt8)):OT dh.Y:=
 let z0:Bool:=ao a0
 let z1:Nat:=List.length a1
 let z2:aa:= {w0:=0,w1:=0,w2:=0,w3:=0}
 let z3:aa×Bool:=(z2,false)
 let z4:aa×aa×Bool:=(z2,z3)
 let z5:Bool:=inB (31:Int) z1
 let z6:Bool:=decide (31<z1)
 let z7:UInt8:=List.getD a1 31 (0:UInt8)
 let z8:List UInt8:=List.set a1 31 (z7&&&(127:UInt8))
 let z9:aa:=Ij z8
 let z10:Nat:=pS a0
 let z11:aa:=bS a0
 let z12:Bool:=ux ((a0,z9,z11,()),())
 let z13:aa:=ofP z10 (xF z10 z9 z11)
 let z14:Bool:=bN z13
 let z15:Bool:= !(0:UInt8)==z7>>>(7:UInt8)
 let z16:aa×aa×Bool:=(z9,Ik z10 z2,false)
 let z17:aa×aa×Bool:=(z9,z3)
 let z18:Bool:=eqE (gD z10 z13 (dq (ef (aY (Int.toNat a0)).fst eP).fst)) eP
 let z19:aa:=kV z10 (sH a0 z13)
 let z20:Bool:= !UInt64.toUInt8 (z19.w0&&&(1:UInt64))==z7>>>(7:UInt8)
 let z21:aa×aa×Bool:=(z9,Ik z10 z19,false)
 let z22:aa×aa×Bool:=(z9,z19,false)
 (.br (z0)
 (.br (!(↑z1:Int)==(32:Int))
  (.ok ⟨bp,((z4,((41:Int),())),())⟩)
  (gd [lh ((a1,()),()),z5,z6,z5,z6,z5,z6] (.br (z0)
   (.br (gz z8)
    (.br (Nat.blt (aa.nat z9) z10)
     (.br (z9.w0==(0:UInt64)&&(z9.w1==(0:UInt64)&&(z9.w2==(0:UInt64)&&(z9.w3==(0:UInt64)&&true))))
      (.br (z7>>>(7:UInt8)==(0:UInt8))
       (.ok ⟨bp,(((z2,z2,true),((0:Int),())),())⟩)
       (gd [z12] (.br (z0)
        (.br (z14)
         (.br (z15)
          (.br (z0)
           (.ok ⟨bp,((z16,((0:Int),())),())⟩)
           (.ok ⟨bp,((z17,((0:Int),())),())⟩))
          (.ok ⟨bp,((z17,((0:Int),())),())⟩))
         (.br (z18)
          (.br (z20)
           (.br (z0)
            (.ok ⟨bp,((z21,((0:Int),())),())⟩)
            (.ok ⟨bp,((z17,((0:Int),())),())⟩))
           (.ok ⟨bp,((z22,((0:Int),())),())⟩))
          (.ok ⟨bp,((z4,((41:Int),())),())⟩)))
        (.ok ⟨bp,((z4,((41:Int),())),())⟩))))
      (gd [z12] (.br (z0)
       (.br (z14)
        (.br (z15)
         (.br (z0)
          (.ok ⟨bp,((z16,((0:Int),())),())⟩)
          (.ok ⟨bp,((z17,((0:Int),())),())⟩))
         (.ok ⟨bp,((z17,((0:Int),())),())⟩))
        (.br (z18)
         (.br (z20)
          (.br (z0)
           (.ok ⟨bp,((z21,((0:Int),())),())⟩)
           (.ok ⟨bp,((z17,((0:Int),())),())⟩))
          (.ok ⟨bp,((z22,((0:Int),())),())⟩))
         (.ok ⟨bp,((z4,((41:Int),())),())⟩)))
       (.ok ⟨bp,((z4,((41:Int),())),())⟩))))
     (.ok ⟨bp,((z4,((41:Int),())),())⟩))
    (.ok ⟨bp,((z4,((41:Int),())),())⟩))
   (.ok ⟨bp,((z4,((41:Int),())),())⟩))))
 (.ok ⟨bp,((z4,((40:Int),())),())⟩))
theorem aw3 (x:nG) (Q:dh.Y->Prop):wpf te va av 1000 Tryz.f58 (dh.inp.inj x).tm (dh.inp.inj x).hp (fnK dh MR Q) (λ_ _=>False)=(uw (x.1.1) (x.1.2.1)).wpR Q:=by kernel_rfl
theorem aaI (pre:nG->Bool) (F:nG->OT dh.Y) (hF:∀ (x:nG) oy,pre x=true->(F x).run=some oy->(uw (x.1.1) (x.1.2.1)).run=some oy):ac Tryz.prog 58 (dh.aH pre F):=
 aD aq u9 Wy (f:=58) (fn:=Tryz.f58) (c:=aj Tryz.f58) (by kernel_rfl) (by kernel_rfl) (by kernel_rfl) (S:=dh) (k:=0) (by kernel_rfl) (λR hR=>af) (n:=1000) (sel:=MR) (λv o h=>by cases h;rfl) (pre:=pre) (F:=F) (T:=λx=>uw (x.1.1) (x.1.2.1)) (λx Q=>aw3 x Q) hF
def auX (b:List UInt8):aa:=Ij (b.set 31 (b.getD 31 0&&&127))
def WI (b:List UInt8):Bool:= !(b.getD 31 0>>>7==0)
theorem aCl {y:aa} (h:y.nat%2=0):UInt64.toUInt8 (y.w0&&&1)=0:=by
 have e:y.nat%2=y.w0.toNat%2:=by unfold Sx.aa.nat;omega
 have h2:(y.w0&&&1).toNat=y.w0.toNat%2:=by
  rw [UInt64.toNat_and]
  exact Nat.and_two_pow_sub_one_eq_mod y.w0.toNat 1
 have:y.w0&&&1=0:=UInt64.toNat_inj.1 (by rw [h2,<-e,h];rfl)
 rw [this]
 rfl
def MS (_:nG):Bool:=true
def aD2 {S:aw} (f:Pt->Int->OT S.Y) (s:Int) (b:List UInt8):OT S.Y:=.br (ao s) (.br (gz b) (.br (Nat.blt (auX b).nat (pS s)) (.br (bN (auX b)) (.br (WI b) (f fW 41) (f bD 0)) (.br (sqB s (auX b)) (f (ptD s (auX b) (WI b)) 0) (f fW 41))) (f fW 41)) (f fW 41)) (f fW 40)
def aaK (x:nG):OT dh.Y:=aD2 (S:=dh) (λP e=>.ok ⟨bp,((P,(e,())),())⟩) x.1.1 x.1.2.1
theorem aaJ {s:Int} {b:List UInt8} {N:aa} (hN:auX b=N):(uw s b).run=(aD2 (S:=dh) (λP e=>.ok ⟨bp,((P,(e,())),())⟩) s b).run:=by
 have hN':Ij (List.set b 31 (List.getD b 31 0&&&127))=N:=hN
 unfold uw aD2
 rw [hN]
 simp only [hN']
 rcases (Bool.eq_false_or_eq_true (ao s)).symm with hs|hs
 ·exact (OT.ar hs).trans (OT.ar (b:=ao s) hs).symm
 ·refine (OT.ap hs).trans (Eq.trans ?_ (OT.ap (b:=ao s) hs).symm)
  rcases (Bool.eq_false_or_eq_true (gz b)).symm with hl|hl
  ·exact (OT.ap (b:= !gz b) (by rw [hl];rfl)).trans (OT.ar (b:=gz b) hl).symm
  ·have hlen:=pj.1 hl
   have i1:inB 31 b.length=true:=aN (by omega)
   have i2:decide (31<b.length)=true:=decide_eq_true (by omega)
   have i3:lh ((b,()),())=true:=decide_eq_true (by show b.length<=_;omega)
   have i4:gz (List.set b 31 (List.getD b 31 0&&&127))=true:=pj.2 (by rw [List.length_set];exact hlen)
   have hg:∀ z:aa,ux ((s,z,bS s,()),())=true:=λ_=>hs
   refine (OT.ar (b:= !gz b) (by rw [hl];rfl)).trans (Eq.trans ((ah ?_).trans ((OT.ap hs).trans ((OT.ap i4).trans ?_))) (OT.ap (b:=gz b) hl).symm)
   ·simp only [i1,i2,i3,List.all_cons,List.all_nil,Bool.and_self]
   ·rcases (Bool.eq_false_or_eq_true (Nat.blt N.nat (pS s))).symm with hb|hb
    ·exact (OT.ar hb).trans (OT.ar (b:=Nat.blt N.nat (pS s)) hb).symm
    ·refine (OT.ap hb).trans (Eq.trans ?_ (OT.ap (b:=Nat.blt N.nat (pS s)) hb).symm)
     have hA:=asF hs N
     have sg:(List.getD b 31 0>>>7==0)= !WI b:=by unfold WI;rw [Bool.not_not]
     rcases (Bool.eq_false_or_eq_true (bN N)).symm with hz|hz
     ·refine (OT.ar (b:=bN N) hz).trans (Eq.trans ?_ (OT.ar (b:=bN N) hz).symm)
      refine (ah (by rw [hg];rfl)).trans ((OT.ap hs).trans ((OT.ar (b:=bN (sqA s N)) hA).trans ?_))
      rcases (Bool.eq_false_or_eq_true (sqB s N)).symm with hq|hq
      ·exact (OT.ar (b:=sqB s N) hq).trans (OT.ar (b:=sqB s N) hq).symm
      ·refine (OT.ap (b:=sqB s N) hq).trans (Eq.trans ?_ (OT.ap (b:=sqB s N) hq).symm)
       have hy:=aCl (aKQ hs hq).2.1
       have hc:(!UInt64.toUInt8 ((sqY s N).w0&&&1)==List.getD b 31 0>>>7)=WI b:=by
        rw [hy]
        unfold WI
        rw [Bool.beq_comm]
       unfold ptD
       rcases (Bool.eq_false_or_eq_true (WI b)).symm with ho|ho
       ·rw [ho] at hc⊢
        exact (OT.ar hc).trans rfl
       ·rw [ho] at hc⊢
        exact (OT.ap hc).trans ((OT.ap hs).trans rfl)
     ·refine (OT.ap (b:=bN N) hz).trans (Eq.trans ?_ (OT.ap (b:=bN N) hz).symm)
      have hN0:=zero_eq hz
      rcases (Bool.eq_false_or_eq_true (WI b)).symm with ho|ho
      ·exact (OT.ap (by rw [sg,ho];rfl)).trans (OT.ar (b:=WI b) ho).symm
      ·refine (OT.ar (by rw [sg,ho];rfl)).trans (Eq.trans ?_ (OT.ap (b:=WI b) ho).symm)
       have hq:sqB s N=false:=by rw [hN0];exact aAm hs
       exact (ah (by rw [hg];rfl)).trans ((OT.ap hs).trans ((OT.ar (b:=bN (sqA s N)) hA).trans (OT.ar (b:=sqB s N) hq)))
theorem RX:ac Tryz.prog 58 (dh.aH MS aaK):=aaI _ _ λx oy hp ho=>by
 rw [<-ho]
 clear ho
 obtain ⟨⟨s,b,⟨⟩⟩,⟨⟩⟩:=x
 exact aaJ rfl
def uv:cf:=(dh.aH MS aaK)
theorem VN:ac Tryz.prog 58 uv:=RX
theorem VM:aF uv:=aA
def qg:Env:=ay 58 uv va
theorem nU:aQ Tryz.prog qg:=ag VN u9
theorem yn:ax qg:=ae VM yk
theorem Dz:aU Tryz.prog te qg:=aJ follows aq nU yn
def eD:aw:=⟨[.val false (.list .u8)],[],true,0,false⟩
abbrev oE:Type:=((List (UInt8))×Unit)×(Unit)
def lS:Shape:=⟨27,[(0,.val false (.list .u8)),(2,.ptr 0 0 0),(3,.ptr 1 0 0),(4,.val false .int)],[(0,.row .u64),(1,.row .u64)],0,true⟩
abbrev bo:Type:=((List (UInt8))×(Unit)×(Unit)×(Int)×Unit)×((List (UInt64))×(List (UInt64))×Unit)
def kJ:Shape:=⟨27,[(2,.ptr 0 0 0),(3,.ptr 1 0 0)],[(0,.row .u64),(1,.row .u64)],0,true⟩
abbrev fq:Type:=((Unit)×(Unit)×Unit)×((List (UInt64))×(List (UInt64))×Unit)
def Kf:SE->Option Shape:=fp [(0,kJ)] none
def ady (a0:List (UInt8)) (a4:Int) (c0:List (UInt64)) (c1:List (UInt64)):OT (Sum bo aE):=
 let z0:Int:=Int.tdiv a4 (8:Int)
 let z1:Bool:=inB z0 4
 let z2:Bool:=decide (Int.toNat z0+0<List.length c1)
 let z3:Int:=(8:Int)*Int.tmod a4 (8:Int)
 (.br (decide (a4<(32:Int)))
 (gd [true&&inR z0,z1,z2,inB a4 (List.length a0),inR z3,z1,z2,inR (a4+(1:Int))] (.ok (.inl ((a0,((),((),(a4+(1:Int),())))),(c0,(List.set c1 (Int.toNat z0+0) (List.getD c1 (Int.toNat z0+0) (0:UInt64)|||bP (UInt8.toUInt64 (List.getD a0 (Int.toNat a4) (0:UInt8))) (↑(UInt64.toNat (i2u z3)):Int)),()))))))
 (.ok (.inr ⟨(.exit 0,kJ),(((),((),())),(c0,(c1,())))⟩)))
def lT (s:bo):OT (Sum bo aE):=ady (s.1.1) (s.1.2.2.2.1) (s.2.1) (s.2.2.1)
theorem adv (s:bo) (Q:Sum bo aE->Prop):wps te qg av 1000 (aV (aj Tryz.f100) 0) (lS.inj s) (bV lS Kf (Q:Sum lS.T aE->Prop))=(lT s).wpR Q:=by kernel_rfl
def qI (g0_0:bo->fq) (s:bo):OT aE:=(.ok ⟨(.exit 0,kJ),g0_0 s⟩)
def qH:az:=⟨[.val true .elem],[],false⟩
def GO:SV->Option az:=λ_=>some qH
def oD (ok0:bo->Bool) (g0_0:bo->fq) (a0:List (UInt8)):OT eD.Y:=
 let z0:(List UInt8×PUnit×PUnit×Int×PUnit)×List UInt64×List UInt64×PUnit:=((a0,(),(),(0:Int),()),[(0:UInt64),(0:UInt64),(0:UInt64),(0:UInt64)],[(0:UInt64),(0:UInt64),(0:UInt64),(0:UInt64)],())
 let z1:=(g0_0 z0).snd
 let z2:=z1.snd.fst
 let z3:=z1.fst
 let z4:List UInt64:=lay z3 z2 4 (0:UInt64)
 (gd [ok0 z0,decide (4<=List.length z2),decide ((4/1:Nat)+0<=List.length z3),decide (4<=List.length z4)] (.ok ⟨qH,(({w0:=List.getD z4 0 0,w1:=List.getD z4 1 0,w2:=List.getD z4 2 0,w3:=List.getD z4 3 0},()),())⟩))
theorem am7 (ok0:bo->Bool) (g0_0:bo->fq) (x:oE) (Q:eD.Y->Prop):wpf te qg (aO 0 (cb lS 0 ok0 (qI g0_0)) av) 1000 Tryz.f100 (eD.inp.inj x).tm (eD.inp.inj x).hp (fnK eD GO Q) (λ_ _=>False)=(oD ok0 g0_0 (x.1.1)).wpR Q:=by kernel_rfl
theorem TS (ok0:bo->Bool) (g0_0:bo->fq) (h0:∀ s:bo,ok0 s=true->∃ m e,al (lT) m s=some e/\(qI g0_0 s).run=some e) (pre:oE->Bool) (F:oE->OT eD.Y) (hF:∀ (x:oE) oy,pre x=true->(F x).run=some oy->(oD ok0 g0_0 (x.1.1)).run=some oy):ac Tryz.prog 100 (eD.aH pre F):=
 aD aq nU Dz (f:=100) (fn:=Tryz.f100) (c:=aj Tryz.f100) (by kernel_rfl) (by kernel_rfl) (by kernel_rfl) (S:=eD) (k:=0) (by kernel_rfl) (λR hR=>(aB (c:=(aj Tryz.f100)) (by kernel_rfl) (id:=0) (by kernel_rfl) (aS aq nU Dz (sh:=lS) hR (xs:=Kf) (aC (by kernel_rfl) (by kernel_rfl) hR) aK af (n:=1000) (T:=lT) (λs Q=>adv s Q) (ok:=ok0) (f:=qI g0_0) h0) af)) (n:=1000) (sel:=GO) (λv o h=>by cases h;rfl) (pre:=pre) (F:=F) (T:=λx=>oD ok0 g0_0 (x.1.1)) (λx Q=>am7 ok0 g0_0 x Q) hF
def GP (s:bo):Bool:=decide (s.1.1.length=32/\s.1.2.2.2.1=0/\s.2.2.1= [0,0,0,0])
def Kg (s:bo):fq:=(((),(),()),(s.2.1,aIC s.1.1 32,()))
theorem adx:∀ s:bo,GP s=true->∃ m e,al lT m s=some e/\(qI Kg s).run=some e:=by
 rintro ⟨⟨b,⟨⟩,⟨⟩,i,⟨⟩⟩,⟨c0,c1,⟨⟩⟩⟩ h
 have h':=of_decide_eq_true h
 dsimp only at h'
 obtain ⟨hb,rfl,rfl⟩:=h'
 have:=(aP (T:=lT) (λi o=>(((b,(),(),(i:Int),()),(c0,o,())):bo)) (Uv b)
  (λo=>(⟨(.exit 0,kJ),(((),(),()),(c0,o,()))⟩:aE)) 32 [0,0,0,0] (λ_ o=>o.length=4) rfl (λi o hi ho=>⟨?_,(List.length_set ..).trans ho⟩) (λo ho=> ?_)).1
 ·obtain ⟨m,hm⟩:=this
  exact ⟨m,_,hm,rfl⟩
 ·have t1:=aGY i
  have t2:=aGZ i
  have t3:(8:Int)*((i%8:Nat):Int)=((8*(i%8):Nat):Int):=by omega
  have t4:=LR (k:=8*(i%8)) (by omega)
  refine (OT.ap (decide_eq_true (by dsimp only;omega))).trans ((ah ?_).trans ?_)
  ·simp only [t1,t2,ho,hb,Int.toNat_natCast,List.all_cons,List.all_nil,Bool.and_true,Bool.true_and,Bool.and_eq_true]
   exact ⟨aI (by omega),aN (by omega),decide_eq_true (by omega),aN (by omega),aI (by omega),aN (by omega),decide_eq_true (by omega),aI (by omega)⟩
  ·simp only [OT.cK,t1,t2,Int.toNat_natCast,Nat.add_zero]
   unfold Uv
   rw [t3,t4]
   rfl
 ·exact OT.ar (decide_eq_false (by dsimp only;omega))
def gU (x:oE):Bool:=decide (x.1.1.length=32)
def Qr (x:oE):OT eD.Y:=.ok ⟨qH,((Ij x.1.1,()),())⟩
abbrev Qq (b:List UInt8):bo:=((b,(),(),0,()),([0,0,0,0],[0,0,0,0],()))
theorem TT {ok0:bo->Bool} {g0:bo->fq} {b:List UInt8} {L:List UInt64} (hok:ok0 (Qq b)=true)
 (hg:g0 (Qq b)=(((),(),()),([0,0,0,0],L,()))) (hL:L.length=4):(oD ok0 g0 b).run=some ⟨qH,((elemOf L,()),())⟩:=by
 have e:lay [0,0,0,0] L 4 0=L:=xO rfl hL
 unfold oD
 simp only [hg]
 refine (ah ?_).trans ?_
 ·simp only [e,hL,List.all_cons,List.all_nil,Bool.and_true,Bool.and_eq_true]
  exact ⟨hok,rfl,rfl,rfl⟩
 ·rw [e]
  rfl
theorem adw:ac Tryz.prog 100 (eD.aH gU Qr):=TS GP Kg adx _ _ λx oy hp ho=>by
 rw [<-ho]
 clear ho
 obtain ⟨⟨b,⟨⟩⟩,⟨⟩⟩:=x
 have hb:b.length=32:=of_decide_eq_true hp
 exact TT (b:=b) (L:=aIC b 32) (decide_eq_true ⟨hb,rfl,rfl⟩) rfl (y6 b 32)
def qG:cf:=(eD.aH gU Qr)
theorem O7:ac Tryz.prog 100 qG:=adw
theorem O6:aF qG:=aA
def pV:Env:=ay 100 qG qg
theorem rK:aQ Tryz.prog pV:=ag O7 nU
theorem uO:ax pV:=ae O6 yn
theorem PF:aU Tryz.prog te pV:=aJ follows aq rK uO
def dT:aw:=⟨[.val false .int,.val false (.list .u8)],[],true,0,false⟩
abbrev oM:Type:=((Int)×(List (UInt8))×Unit)×(Unit)
def eg:az:=⟨[.val true .elem,.val false .int],[],false⟩
def GW:SV->Option az:=λ_=>some eg
def oL (a0:Int) (a1:List (UInt8)):OT dT.Y:=
 let z0:aa:= {w0:=0,w1:=0,w2:=0,w3:=0}
 let z1:Bool:=gU ((a1,()),())
 let z2:aa:=Ij a1
 (gd [k8 ((a0,()),())] (.br (!(↑(List.length a1):Int)==(32:Int))
 (.ok ⟨eg,((z0,((21:Int),())),())⟩)
 (gd [z1] (.br (!Nat.blt (aa.nat z2) (aa.nat (aY (Int.toNat a0)).fst))
  (.ok ⟨eg,((z0,((21:Int),())),())⟩)
  (gd [z1] (.ok ⟨eg,((z2,((0:Int),())),())⟩))))))
theorem anm (x:oM) (Q:dT.Y->Prop):wpf te pV av 1000 Tryz.f59 (dT.inp.inj x).tm (dT.inp.inj x).hp (fnK dT GW Q) (λ_ _=>False)=(oL (x.1.1) (x.1.2.1)).wpR Q:=by kernel_rfl
theorem T3 (pre:oM->Bool) (F:oM->OT dT.Y) (hF:∀ (x:oM) oy,pre x=true->(F x).run=some oy->(oL (x.1.1) (x.1.2.1)).run=some oy):ac Tryz.prog 59 (dT.aH pre F):=
 aD aq rK PF (f:=59) (fn:=Tryz.f59) (c:=aj Tryz.f59) (by kernel_rfl) (by kernel_rfl) (by kernel_rfl) (S:=dT) (k:=0) (by kernel_rfl) (λR hR=>af) (n:=1000) (sel:=GW) (λv o h=>by cases h;rfl) (pre:=pre) (F:=F) (T:=λx=>oL (x.1.1) (x.1.2.1)) (λx Q=>anm x Q) hF
def m8 (x:oM):Bool:=ao x.1.1
def QF (x:oM):OT dT.Y:=.br (gz x.1.2.1) (.br (Nat.blt (Ij x.1.2.1).nat (pS x.1.1)) (.ok ⟨eg,((Ij x.1.2.1,((0:Int),())),())⟩) (.ok ⟨eg,((⟨0,0,0,0⟩,((21:Int),())),())⟩))
 (.ok ⟨eg,((⟨0,0,0,0⟩,((21:Int),())),())⟩)
theorem T4 {s:Int} {b:List UInt8} {N:aa} (hs:ao s=true) (hN:Ij b=N):(oL s b).run=(OT.br (gz b) (.br (Nat.blt N.nat (pS s)) (.ok ⟨eg,((N,((0:Int),())),())⟩) (.ok ⟨eg,((⟨0,0,0,0⟩,((21:Int),())),())⟩))
 (.ok ⟨eg,((⟨0,0,0,0⟩,((21:Int),())),())⟩):OT dT.Y).run:=by
 unfold oL
 simp only [hN]
 refine (ah (by simp only [List.all_cons,List.all_nil,Bool.and_true];exact hs)).trans ?_
 rcases (Bool.eq_false_or_eq_true (gz b)).symm with hl|hl
 ·exact (OT.ap (b:= !gz b) (by rw [hl];rfl)).trans (OT.ar (b:=gz b) hl).symm
 ·have hp:gU ((b,()),())=true:=decide_eq_true (pj.1 hl)
  refine (OT.ar (b:= !gz b) (by rw [hl];rfl)).trans (Eq.trans ?_ (OT.ap (b:=gz b) hl).symm)
  rw [hp]
  refine (ah rfl).trans ?_
  rcases (Bool.eq_false_or_eq_true (Nat.blt N.nat (pS s))).symm with h|h
  ·exact (OT.ap (b:= !Nat.blt N.nat (pS s)) (by rw [h];rfl)).trans (OT.ar (b:=Nat.blt N.nat (pS s)) h).symm
  ·exact (OT.ar (b:= !Nat.blt N.nat (pS s)) (by rw [h];rfl)).trans ((ah rfl).trans (OT.ap (b:=Nat.blt N.nat (pS s)) h).symm)
theorem ad4:ac Tryz.prog 59 (dT.aH m8 QF):=T3 _ _ λx oy hp ho=>by
 rw [<-ho]
 clear ho
 obtain ⟨⟨s,b,⟨⟩⟩,⟨⟩⟩:=x
 exact T4 hp rfl
def qP:cf:=(dT.aH m8 QF)
theorem Pd:ac Tryz.prog 59 qP:=ad4
theorem Pc:aF qP:=aA
def li:Env:=ay 59 qP pV
theorem kX:aQ Tryz.prog li:=ag Pd rK
theorem uQ:ax li:=ae Pc uO
theorem xX:aU Tryz.prog te li:=aJ follows aq kX uQ
def eE:aw:=⟨[.val false .int,.val true .elem],[],true,0,false⟩
abbrev oK:Type:=((Int)×(aa)×Unit)×(Unit)
def l7:Shape:=⟨38,[(3,.ptr 0 0 0),(7,.own 1),(8,.val false .int)],[(0,.row .u64),(1,.row .u8)],0,true⟩
abbrev bt:Type:=((Unit)×(Unit)×(Int)×Unit)×((List (UInt64))×(List (UInt8))×Unit)
def ix:Shape:=⟨38,[(7,.own 0)],[(0,.row .u8)],0,true⟩
abbrev ft:Type:=((Unit)×Unit)×((List (UInt8))×Unit)
def Ks:SE->Option Shape:=fp [(0,ix)] none
def ad3 (a8:Int) (c0:List (UInt64)) (c1:List (UInt8)):OT (Sum bt aE):=
 let z0:Int:=Int.tdiv a8 (8:Int)
 let z1:Int:=(8:Int)*Int.tmod a8 (8:Int)
 (.br (decide (a8<(32:Int)))
 (gd [true&&inR z0,inB z0 4,decide (Int.toNat z0+0<List.length c0),inR z1,decide ((List.length c1+1)*1<=140737488355328),inR (a8+(1:Int))] (.ok (.inl (((),((),(a8+(1:Int),()))),(c0,(c1++ [UInt64.toUInt8 (be (List.getD c0 (Int.toNat z0+0) (0:UInt64)) (↑(UInt64.toNat (i2u z1)):Int))],()))))))
 (.ok (.inr ⟨(.exit 0,ix),(((),()),(c1,()))⟩)))
def l8 (s:bt):OT (Sum bt aE):=ad3 (s.1.2.2.1) (s.2.1) (s.2.2.1)
theorem ad0 (s:bt) (Q:Sum bt aE->Prop):wps te li av 1000 (aV (aj Tryz.f55) 0) (l7.inj s) (bV l7 Ks (Q:Sum l7.T aE->Prop))=(l8 s).wpR Q:=by kernel_rfl
def qO (g0_0:bt->ft) (s:bt):OT aE:=(.ok ⟨(.exit 0,ix),g0_0 s⟩)
def qN:az:=⟨[.own 0],[(0,.row .u8)],false⟩
def GU:SV->Option az:=λ_=>some qN
def oJ (ok0:bt->Bool) (g0_0:bt->ft) (a0:Int) (a1:aa):OT eE.Y:=
 let z0:aa:=ofP (pS a0) a1
 let z1:(PUnit×PUnit×Int×PUnit)×List UInt64×List UInt8×PUnit:=(((),(),(0:Int),()),[z0.w0,z0.w1,z0.w2,z0.w3],[],())
 (gd [k8 ((a0,()),()),ir ((a0,a1,()),()),ok0 z1] (.ok ⟨qN,(((),()),((g0_0 z1).snd.fst,()))⟩))
theorem anl (ok0:bt->Bool) (g0_0:bt->ft) (x:oK) (Q:eE.Y->Prop):wpf te li (aO 0 (cb l7 0 ok0 (qO g0_0)) av) 1000 Tryz.f55 (eE.inp.inj x).tm (eE.inp.inj x).hp (fnK eE GU Q) (λ_ _=>False)=(oJ ok0 g0_0 (x.1.1) (x.1.2.1)).wpR Q:=by kernel_rfl
theorem T0 (ok0:bt->Bool) (g0_0:bt->ft) (h0:∀ s:bt,ok0 s=true->∃ m e,al (l8) m s=some e/\(qO g0_0 s).run=some e) (pre:oK->Bool) (F:oK->OT eE.Y) (hF:∀ (x:oK) oy,pre x=true->(F x).run=some oy->(oJ ok0 g0_0 (x.1.1) (x.1.2.1)).run=some oy):ac Tryz.prog 55 (eE.aH pre F):=
 aD aq kX xX (f:=55) (fn:=Tryz.f55) (c:=aj Tryz.f55) (by kernel_rfl) (by kernel_rfl) (by kernel_rfl) (S:=eE) (k:=0) (by kernel_rfl) (λR hR=>(aB (c:=(aj Tryz.f55)) (by kernel_rfl) (id:=0) (by kernel_rfl) (aS aq kX xX (sh:=l7) hR (xs:=Ks) (aC (by kernel_rfl) (by kernel_rfl) hR) aK af (n:=1000) (T:=l8) (λs Q=>ad0 s Q) (ok:=ok0) (f:=qO g0_0) h0) af)) (n:=1000) (sel:=GU) (λv o h=>by cases h;rfl) (pre:=pre) (F:=F) (T:=λx=>oJ ok0 g0_0 (x.1.1) (x.1.2.1)) (λx Q=>anl ok0 g0_0 x Q) hF
def aJ5 (e:aa) (k:Nat):UInt8:=UInt64.toUInt8 (be ((lst e).getD (k/8) 0) (8*((k%8:Nat):Int)))
theorem axS {α:Type} (f:Nat->α):∀ n,upto (λk (o:List α)=>o++ [f k]) [] n=(List.range n).map f
 |0=>rfl
 |n+1=>by
  show upto (λk (o:List α)=>o++ [f k]) [] n++ [f n]=_
  rw [axS f n,List.range_succ,List.map_append]
  rfl
theorem Xm {α:Type} (f:Nat->α) (l:List α):∀ n,n<=l.length->upto (λk (o:List α)=>o.set k (f k)) l n=(List.range n).map f++l.drop n
 |0,_=>rfl
 |n+1,h=>by
  have hl:((List.range n).map f).length=n:=by rw [List.length_map,List.length_range]
  show (upto (λk (o:List α)=>o.set k (f k)) l n).set n (f n)=_
  rw [Xm f l n (by omega),List.set_append_right _ _ (by omega),hl,Nat.sub_self,List.drop_eq_getElem_cons (by omega),List.set_cons_zero,List.range_succ,List.map_append,List.append_assoc]
  rfl
theorem aCo (e:aa):aqE e=(List.range 32).map (aJ5 e):=by
 have h:=Xm (aJ5 e) (List.replicate 32 0) 32 (by rw [List.length_replicate];omega)
 rw [List.drop_eq_nil_of_le (by rw [List.length_replicate];omega),List.append_nil] at h
 exact h
def GV (s:bt):Bool:=decide (s.1.2.2.1=0/\s.2.1.length=4/\s.2.2.1= [])
def Kt (s:bt):ft:=(((),()),(aqE (elemOf s.2.1),()))
theorem ad2:∀ s:bt,GV s=true->∃ m e,al l8 m s=some e/\(qO Kt s).run=some e:=by
 rintro ⟨⟨⟨⟩,⟨⟩,i,⟨⟩⟩,⟨h,o,⟨⟩⟩⟩ hh
 have h':=of_decide_eq_true hh
 dsimp only at h'
 obtain ⟨rfl,hl,rfl⟩:=h'
 obtain ⟨e,rfl⟩:∃ e,h=lst e:=⟨elemOf h,(aR hl).symm⟩
 have:=(aP (T:=l8) (λi o=>((((),(),(i:Int),()),(lst e,o,())):bt)) (λk o=>o++ [aJ5 e k])
  (λo=>(⟨(.exit 0,ix),(((),()),(o,()))⟩:aE)) 32 [] (λn o=>o.length=n) rfl (λi o hi ho=>⟨?_,by rw [List.length_append,ho];rfl⟩) (λo ho=> ?_)).1
 ·obtain ⟨m,hm⟩:=this
  refine ⟨m,_,hm,?_⟩
  have hE:aqE (elemOf (lst e))=upto (λk (o:List UInt8)=>o++ [aJ5 e k]) [] 32:=by rw [axS];exact aCo e
  show some (⟨(.exit 0,ix),(((),()),(aqE (elemOf (lst e)),()))⟩:aE)=_
  rw [hE]
 ·have t1:=aGY i
  have t2:=aGZ i
  have t3:(8:Int)*((i%8:Nat):Int)=((8*(i%8):Nat):Int):=by omega
  have t4:=LR (k:=8*(i%8)) (by omega)
  refine (OT.ap (decide_eq_true (by dsimp only;omega))).trans ((ah ?_).trans ?_)
  ·simp only [t1,t2,ho,cA,Int.toNat_natCast,List.all_cons,List.all_nil,Bool.and_true,Bool.true_and,Bool.and_eq_true]
   exact ⟨aI (by omega),aN (by omega),decide_eq_true (by omega),aI (by omega),decide_eq_true (by omega),aI (by omega)⟩
  ·simp only [OT.cK,t1,t2,Int.toNat_natCast,Nat.add_zero]
   unfold aJ5
   rw [t3,t4]
   rfl
 ·exact OT.ar (decide_eq_false (by dsimp only;omega))
def m7 (x:oK):Bool:=ao x.1.1
def QE (x:oK):OT eE.Y:=.ok ⟨qN,(((),()),(aqE (ofP (pS x.1.1) x.1.2.1),()))⟩
theorem T1 {ok0:bt->Bool} {g0:bt->ft} {s:Int} {a A:aa} {B:List UInt8} (hs:ao s=true) (hA:ofP (pS s) a=A) (h0:ok0 (((),(),0,()),([A.w0,A.w1,A.w2,A.w3],[],()))=true)
 (e0:g0 (((),(),0,()),([A.w0,A.w1,A.w2,A.w3],[],()))=(((),()),(B,()))):(oJ ok0 g0 s a).run=some ⟨qN,(((),()),(B,()))⟩:=by
 unfold oJ
 simp only [hA,e0]
 refine (ah ?_).trans rfl
 simp only [List.all_cons,List.all_nil,Bool.and_true,Bool.and_eq_true]
 exact ⟨hs,hs,h0⟩
theorem ad1:ac Tryz.prog 55 (eE.aH m7 QE):=T0 GV Kt ad2 _ _ λx oy hp ho=>by
 rw [<-ho]
 clear ho
 obtain ⟨⟨s,a,⟨⟩⟩,⟨⟩⟩:=x
 exact T1 (A:=ofP (pS s) a) hp rfl (decide_eq_true ⟨rfl,rfl,rfl⟩) rfl
def qM:cf:=(eE.aH m7 QE)
theorem Pb:ac Tryz.prog 55 qM:=ad1
theorem Pa:aF qM:=aA
def pY:Env:=ay 55 qM li
theorem rM:aQ Tryz.prog pY:=ag Pb kX
theorem uP:ax pY:=ae Pa uQ
theorem PG:aU Tryz.prog te pY:=aJ follows aq rM uP
def cD:aw:=⟨[.val false .int,.val false (.list .u8)],[],true,0,false⟩
abbrev jY:Type:=((Int)×(List (UInt8))×Unit)×(Unit)
def bq:az:=⟨[.val true (.prod .elem (.prod .elem .bool)),.val false .int],[],false⟩
def GM:SV->Option az:=λ_=>some bq
def ow (a0:Int) (a1:List (UInt8)):OT cD.Y:=
 let z0:aa:= {w0:=0,w1:=0,w2:=0,w3:=0}
 let z1:aa×Bool:=(z0,false)
 let z2:aa×aa×Bool:=(z0,z1)
 let z3:Nat:=List.length a1
 let z4:Bool:=inB (31:Int) z3
 let z5:Bool:=decide (31<z3)
 let z6:UInt8:=List.getD a1 31 (0:UInt8)
 let z7:List UInt8:=List.set a1 31 (z6&&&(127:UInt8))
 let z8:aa:=Ij z7
 let z9:Nat:=pS a0
 let z10:Bool:=z8.w0==(0:UInt64)&&(z8.w1==(0:UInt64)&&(z8.w2==(0:UInt64)&&(z8.w3==(0:UInt64)&&true)))
 let z11:Bool:=decide ((128:UInt8)<=z6)
 let z12:aa×aa×Bool:=(z0,z0,true)
 let z13:Bool:=kZ ((a0,z8,()),())
 let z14:aa:=xF z9 z8 (bS a0)
 let z15:Bool:=oz ((a0,z14,()),())
 let z16:aa:=ofP z9 z14
 let z17:Bool:=bN z16
 let z18:Bool:=j1 ((a0,z0,()),())
 let z19:aa×aa×Bool:=(z8,Ik z9 z0,false)
 let z20:aa×aa×Bool:=(z8,z1)
 let z21:Bool:=eqE (gD z9 z16 (dq (ef (aY (Int.toNat a0)).fst eP).fst)) eP
 let z22:aa:=kV z9 (sH a0 z16)
 let z23:Bool:=j1 ((a0,z22,()),())
 let z24:aa×aa×Bool:=(z8,Ik z9 z22,false)
 let z25:aa×aa×Bool:=(z8,z22,false)
 (.br (decide (a0<(0:Int)))
 (.ok ⟨bq,((z2,((40:Int),())),())⟩)
 (.br (decide ((3:Int)<a0))
  (.ok ⟨bq,((z2,((40:Int),())),())⟩)
  (.br (!(↑z3:Int)==(32:Int))
   (.ok ⟨bq,((z2,((41:Int),())),())⟩)
   (gd [oc ((a1,()),()),z4,z5,z4,z5,z4,z5,m8 ((a0,z7,()),())] (.br (gz z7)
    (.br (Nat.blt (aa.nat z8) z9)
     (.br (z10)
      (.br (z11)
       (.ok ⟨bq,((z2,((41:Int),())),())⟩)
       (.br (z10)
        (.ok ⟨bq,((z12,((0:Int),())),())⟩)
        (gd [z13,z15] (.br (z17)
         (.br (z11)
          (gd [z18] (.ok ⟨bq,((z19,((0:Int),())),())⟩))
          (.ok ⟨bq,((z20,((0:Int),())),())⟩))
         (.br (z21)
          (.br (z11)
           (gd [z23] (.ok ⟨bq,((z24,((0:Int),())),())⟩))
           (.ok ⟨bq,((z25,((0:Int),())),())⟩))
          (.ok ⟨bq,((z2,((41:Int),())),())⟩))))))
      (.br (z10)
       (.ok ⟨bq,((z12,((0:Int),())),())⟩)
       (gd [z13,z15] (.br (z17)
        (.br (z11)
         (gd [z18] (.ok ⟨bq,((z19,((0:Int),())),())⟩))
         (.ok ⟨bq,((z20,((0:Int),())),())⟩))
        (.br (z21)
         (.br (z11)
          (gd [z23] (.ok ⟨bq,((z24,((0:Int),())),())⟩))
          (.ok ⟨bq,((z25,((0:Int),())),())⟩))
         (.ok ⟨bq,((z2,((41:Int),())),())⟩))))))
     (.ok ⟨bq,((z2,((41:Int),())),())⟩))
    (.ok ⟨bq,((z2,((41:Int),())),())⟩))))))
theorem am1 (x:jY) (Q:cD.Y->Prop):wpf te pY av 1000 Tryz.f56 (cD.inp.inj x).tm (cD.inp.inj x).hp (fnK cD GM Q) (λ_ _=>False)=(ow (x.1.1) (x.1.2.1)).wpR Q:=by kernel_rfl
theorem TG (pre:jY->Bool) (F:jY->OT cD.Y) (hF:∀ (x:jY) oy,pre x=true->(F x).run=some oy->(ow (x.1.1) (x.1.2.1)).run=some oy):ac Tryz.prog 56 (cD.aH pre F):=
 aD aq rM PG (f:=56) (fn:=Tryz.f56) (c:=aj Tryz.f56) (by kernel_rfl) (by kernel_rfl) (by kernel_rfl) (S:=cD) (k:=0) (by kernel_rfl) (λR hR=>af) (n:=1000) (sel:=GM) (λv o h=>by cases h;rfl) (pre:=pre) (F:=F) (T:=λx=>ow (x.1.1) (x.1.2.1)) (λx Q=>am1 x Q) hF
theorem aEB (x:UInt8):decide (128<=x)= !(x>>>7==0):=by
 have h:∀ n,n<256->decide (128<=UInt8.ofNat n)= !(UInt8.ofNat n>>>7==0):=by decide+kernel
 have:=h x.toNat x.toNat_lt
 rwa [UInt8.ofNat_toNat] at this
def GN (_:jY):Bool:=true
def Qh (x:jY):OT cD.Y:=aD2 (S:=cD) (λP e=>.ok ⟨bq,((P,(e,())),())⟩) x.1.1 x.1.2.1
theorem TH {s:Int} {b:List UInt8} {N:aa} (hN:auX b=N):(ow s b).run=(aD2 (S:=cD) (λP e=>.ok ⟨bq,((P,(e,())),())⟩) s b).run:=by
 have hN':Ij (List.set b 31 (List.getD b 31 0&&&127))=N:=hN
 unfold ow aD2
 rw [hN]
 have hodd:decide (128<=List.getD b 31 0)=WI b:=aEB _
 simp only [hN',hodd]
 rcases (Bool.eq_false_or_eq_true (ao s)).symm with hs|hs
 ·refine Eq.trans ?_ (OT.ar (b:=ao s) hs).symm
  by_cases h0:s<0
  ·exact OT.ap (decide_eq_true h0)
  ·refine (OT.ar (decide_eq_false h0)).trans (OT.ap (decide_eq_true ?_))
   simp only [ao,Bool.and_eq_false_iff,decide_eq_false_iff_not] at hs
   omega
 ·have hc:0<=s/\s<4:=by simpa [ao] using hs
  refine (OT.ar (decide_eq_false (by omega))).trans ((OT.ar (decide_eq_false (by omega))).trans (Eq.trans ?_ (OT.ap (b:=ao s) hs).symm))
  rcases (Bool.eq_false_or_eq_true (gz b)).symm with hl|hl
  ·exact (OT.ap (b:= !gz b) (by rw [hl];rfl)).trans (OT.ar (b:=gz b) hl).symm
  ·have hlen:=pj.1 hl
   have i1:inB 31 b.length=true:=aN (by omega)
   have i2:decide (31<b.length)=true:=decide_eq_true (by omega)
   have i3:oc ((b,()),())=true:=decide_eq_true (by show b.length<=_;omega)
   have i4:gz (List.set b 31 (List.getD b 31 0&&&127))=true:=pj.2 (by rw [List.length_set];exact hlen)
   have i5:m8 ((s,List.set b 31 (List.getD b 31 0&&&127),()),())=true:=hs
   have hg1:∀ z:aa,kZ ((s,z,()),())=true:=λ_=>hs
   have hg2:∀ z:aa,oz ((s,z,()),())=true:=λ_=>hs
   have hg3:∀ z:aa,j1 ((s,z,()),())=true:=λ_=>hs
   refine (OT.ar (b:= !gz b) (by rw [hl];rfl)).trans (Eq.trans ((ah ?_).trans ((OT.ap i4).trans ?_)) (OT.ap (b:=gz b) hl).symm)
   ·simp only [i1,i2,i3,i5,List.all_cons,List.all_nil,Bool.and_self]
   ·rcases (Bool.eq_false_or_eq_true (Nat.blt N.nat (pS s))).symm with hb|hb
    ·exact (OT.ar hb).trans (OT.ar (b:=Nat.blt N.nat (pS s)) hb).symm
    ·refine (OT.ap hb).trans (Eq.trans ?_ (OT.ap (b:=Nat.blt N.nat (pS s)) hb).symm)
     have hA:=asF hs N
     rcases (Bool.eq_false_or_eq_true (bN N)).symm with hz|hz
     ·refine (OT.ar (b:=bN N) hz).trans (Eq.trans ((OT.ar (b:=bN N) hz).trans ?_) (OT.ar (b:=bN N) hz).symm)
      refine (ah (by rw [hg1,hg2];rfl)).trans ((OT.ar (b:=bN (sqA s N)) hA).trans ?_)
      rcases (Bool.eq_false_or_eq_true (sqB s N)).symm with hq|hq
      ·exact (OT.ar (b:=sqB s N) hq).trans (OT.ar (b:=sqB s N) hq).symm
      ·refine (OT.ap (b:=sqB s N) hq).trans (Eq.trans ?_ (OT.ap (b:=sqB s N) hq).symm)
       unfold ptD
       rcases (Bool.eq_false_or_eq_true (WI b)).symm with ho|ho
       ·rw [ho]
        exact (OT.ar rfl).trans rfl
       ·rw [ho]
        exact (OT.ap rfl).trans ((ah (by rw [hg3];rfl)).trans rfl)
     ·refine (OT.ap (b:=bN N) hz).trans (Eq.trans ?_ (OT.ap (b:=bN N) hz).symm)
      rcases (Bool.eq_false_or_eq_true (WI b)).symm with ho|ho
      ·exact (OT.ar ho).trans ((OT.ap (b:=bN N) hz).trans (OT.ar (b:=WI b) ho).symm)
      ·exact (OT.ap ho).trans (OT.ap (b:=WI b) ho).symm
theorem J5:ac Tryz.prog 56 (cD.aH GN Qh):=TG _ _ λx oy hp ho=>by
 rw [<-ho]
 clear ho
 obtain ⟨⟨s,b,⟨⟩⟩,⟨⟩⟩:=x
 exact TH rfl
def qC:cf:=(cD.aH GN Qh)
theorem O5:ac Tryz.prog 56 qC:=J5
theorem O4:aF qC:=aA
def Gc:Env:=ay 56 qC pY
theorem Wl:aQ Tryz.prog Gc:=ag O5 rM
theorem NI:ax Gc:=ae O4 uP
abbrev RV:aw:=dh
def aqG (s:Int) (b:List UInt8):Pt×Int:=cond (ao s) (cond (gz b) (cond (Nat.blt (auX b).nat (pS s)) (cond (bN (auX b)) (cond (WI b) (fW,41) (bD,0)) (cond (sqB s (auX b)) (ptD s (auX b) (WI b),0) (fW,41))) (fW,41)) (fW,41)) (fW,40)
theorem alv {S:aw} (f:Pt->Int->OT S.Y) (s:Int) (b:List UInt8):(aD2 f s b).run=(f (aqG s b).1 (aqG s b).2).run:=by
 unfold aD2 aqG
 generalize auX b=N
 rcases (Bool.eq_false_or_eq_true (ao s)).symm with h|h
 ·rw [h];rfl
 ·rcases (Bool.eq_false_or_eq_true (gz b)).symm with h1|h1
  ·rw [h,h1];rfl
  ·rcases (Bool.eq_false_or_eq_true (Nat.blt N.nat (pS s))).symm with h2|h2
   ·rw [h,h1,h2];rfl
   ·rcases (Bool.eq_false_or_eq_true (bN N)).symm with h3|h3
    ·rcases (Bool.eq_false_or_eq_true (sqB s N)).symm with h4|h4
     ·rw [h,h1,h2,h3,h4];rfl
     ·rw [h,h1,h2,h3,h4];rfl
    ·rcases (Bool.eq_false_or_eq_true (WI b)).symm with h4|h4
     ·rw [h,h1,h2,h3,h4];rfl
     ·rw [h,h1,h2,h3,h4];rfl
def Hd (_:nG):Bool:=true
def RW (x:nG):OT dh.Y:=.ok ⟨bp,(((aqG x.1.1 x.1.2.1).1,((aqG x.1.1 x.1.2.1).2,())),())⟩
theorem afI:ac Tryz.prog 58 (RV.aH Hd RW):=jr (S:=dh) RX λx oy hp ho=>⟨rfl,(alv (S:=dh) (λP e=>.ok ⟨bp,((P,(e,())),())⟩) x.1.1 x.1.2.1).trans ho⟩
def ru:cf:=(RV.aH Hd RW)
theorem Pv:ac Tryz.prog 58 ru:=afI
theorem Pu:aF ru:=aA
def GC:Env:=ay 58 ru Gc
theorem WC:aQ Tryz.prog GC:=ag Pv Wl
theorem OH:ax GC:=ae Pu NI
abbrev J3:aw:=cD
def Bf (_:jY):Bool:=true
def J4 (x:jY):OT cD.Y:=.ok ⟨bq,(((aqG x.1.1 x.1.2.1).1,((aqG x.1.1 x.1.2.1).2,())),())⟩
theorem XR:ac Tryz.prog 56 (J3.aH Bf J4):=jr (S:=cD) J5 λx oy hp ho=>⟨rfl,(alv (S:=cD) (λP e=>.ok ⟨bq,((P,(e,())),())⟩) x.1.1 x.1.2.1).trans ho⟩
def nY:cf:=(J3.aH Bf J4)
theorem J2:ac Tryz.prog 56 nY:=XR
theorem J1:aF nY:=aA
def mO:Env:=ay 56 nY GC
theorem n7:aQ Tryz.prog mO:=ag J2 WC
theorem sd:ax mO:=ae J1 OH
theorem NH:aU Tryz.prog te mO:=aJ follows aq n7 sd
def r8:aw:=⟨[.val false .int],[],true,0,false⟩
def UP:az:=⟨[.qV,.val false .int],[],false⟩
def aeD:az:=⟨[.ptr 0 0 0,.val false .int],[(0,.cells [.val false .int,.own 1]),(1,.row Ic)],false⟩
abbrev aoq:Type:=((Int)×Unit)×(Unit)
def Zo:List az:= [UP,aeD]
def akx (a0:Int):OT r8.Y:=
 (.br (decide (a0<(0:Int)))
 (.ok ⟨UP,(((),((40:Int),())),())⟩)
 (.br (decide ((3:Int)<a0))
  (.ok ⟨UP,(((),((40:Int),())),())⟩)
  (.ok ⟨aeD,(((),((0:Int),())),((a0,((),())),([],())))⟩)))
theorem aJH (x:aoq) (Q:r8.Y->Prop):wpf te mO av 1000 Tryz.f114 (r8.inp.inj x).tm (r8.inp.inj x).hp (aHD r8 Zo Q) (λ_ _=>False)=(akx (x.1.1)).wpR Q:=by kernel_rfl
theorem avg (pre:aoq->Bool) (F:aoq->OT r8.Y) (hF:∀ (x:aoq) oy,pre x=true->(F x).run=some oy->(akx (x.1.1)).run=some oy):ac Tryz.prog 114 (r8.aH pre F):=
 ak3 aq n7 NH (f:=114) (fn:=Tryz.f114) (c:=aj Tryz.f114) (by kernel_rfl) (by kernel_rfl) (by kernel_rfl) (S:=r8) (k:=0) (by kernel_rfl) (λR hR=>af) (n:=1000) (outs:=Zo) (by kernel_rfl) (pre:=pre) (F:=F) (T:=λx=>akx (x.1.1)) (λx Q=>aJH x Q) hF
def akw (_:aoq):Bool:=true
def aDM (x:aoq):OT r8.Y:=.br (ao x.1.1) (.ok ⟨aeD,(((),((0:Int),())),((x.1.1,((),())),([],())))⟩) (.ok ⟨UP,(((),((40:Int),())),())⟩)
theorem aHf:ac Tryz.prog 114 (r8.aH akw aDM):=avg _ _ λx oy _ ho=>by
 rw [<-ho]
 clear ho
 obtain ⟨⟨s,⟨⟩⟩,⟨⟩⟩:=x
 show (akx s).run=(OT.br (ao s) _ _:OT r8.Y).run
 by_cases h0:s<0
 ·refine (OT.ap (decide_eq_true h0)).trans (OT.ar (b:=ao s) ?_).symm
  simp only [ao,decide_eq_false (show ¬(0:Int)<=s by omega),Bool.false_and]
 ·refine (OT.ar (decide_eq_false h0)).trans ?_
  by_cases h3:3<s
  ·refine (OT.ap (decide_eq_true h3)).trans (OT.ar (b:=ao s) ?_).symm
   simp only [ao,decide_eq_false (show ¬s<4 by omega),Bool.and_false]
  ·refine (OT.ar (decide_eq_false h3)).trans (OT.ap (b:=ao s) ?_).symm
   simp only [ao,decide_eq_true (show (0:Int)<=s by omega),decide_eq_true (show s<4 by omega),Bool.and_self]
def Lk:cf:=(r8.aH akw aDM)
theorem aop:ac Tryz.prog 114 Lk:=aHf
theorem aoo:aF Lk:=aA
def abM:Env:=ay 114 Lk mO
theorem N5:aQ Tryz.prog abM:=ag aop n7
theorem N6:ax abM:=ae aoo sd
theorem aqp:aU Tryz.prog te abM:=aJ follows aq N5 N6
def aLs (w:Sh):CSh:=.cells [.val false .int,w]
def r9:aw:=⟨[.ptr 0 0 0,.val true .elem,.val true (.prod .elem (.prod .elem .bool))],[(0,aLs (.own 1)),(1,.row Ic)],false,1,true⟩
abbrev aoz:Type:=((Unit)×(aa)×((aa×(aa×Bool)))×Unit)×(((Int)×(Unit)×Unit)×(List ((aa×(aa×(aa×Bool)))))×Unit)
def tC:az:=⟨[.val false .int],[(0,.cells [.val false .int,.own 1]),(1,.row (.prod .elem (.prod .elem (.prod .elem .bool))))],false⟩
def akE:SV->Option az:=λ_=>some tC
def akG (a1:aa) (a2:(aa×(aa×Bool))) (c0_0:Int) (c1:List ((aa×(aa×(aa×Bool))))):OT r9.Y:=
 let z0:Int:=aqD c0_0 (1:Int)
 let z1:aa:= {w0:=0,w1:=0,w2:=0,w3:=0}
 (.br (!onB c0_0 a2)
 (.ok ⟨tC,(((41:Int),()),((c0_0,((),())),(c1,())))⟩)
 (.br (decide ((100000:Int)<=(↑(List.length c1):Int)))
  (.ok ⟨tC,(((50:Int),()),((c0_0,((),())),(c1,())))⟩)
  (.br (ao z0)
   (gd [decide ((List.length c1+1)*104<=140737488355328)] (.ok ⟨tC,(((0:Int),()),((c0_0,((),())),(c1++ [(zK (pS z0) a1 z1,a2)],())))⟩))
   (gd [decide ((List.length c1+1)*104<=140737488355328)] (.ok ⟨tC,(((0:Int),()),((c0_0,((),())),(c1++ [(z1,a2)],())))⟩)))))
theorem aJI (x:aoz) (Q:r9.Y->Prop):wpf te abM av 1000 Tryz.f115 (r9.inp.inj x).tm (r9.inp.inj x).hp (fnK r9 akE Q) (λ_ _=>False)=(akG (x.1.2.1) (x.1.2.2.1) (x.2.1.1) (x.2.2.1)).wpR Q:=by kernel_rfl
theorem avm (pre:aoz->Bool) (F:aoz->OT r9.Y) (hF:∀ (x:aoz) oy,pre x=true->(F x).run=some oy->(akG (x.1.2.1) (x.1.2.2.1) (x.2.1.1) (x.2.2.1)).run=some oy):ac Tryz.prog 115 (r9.aH pre F):=
 aD aq N5 aqp (f:=115) (fn:=Tryz.f115) (c:=aj Tryz.f115) (by kernel_rfl) (by kernel_rfl) (by kernel_rfl) (S:=r9) (k:=2) (by kernel_rfl) (λR hR=>af) (n:=1000) (sel:=akE) (λv o h=>by cases h;rfl) (pre:=pre) (F:=F) (T:=λx=>akG (x.1.2.1) (x.1.2.2.1) (x.2.1.1) (x.2.2.1)) (λx Q=>aJI x Q) hF
abbrev Tm:Type:=Ic.T
def y9:Tm:=(⟨0,0,0,0⟩,⟨0,0,0,0⟩,⟨0,0,0,0⟩,false)
def Xx (l:List Tm):Bool:=decide (l.length<100000)
def akF (_:aoz):Bool:=true
def aDN (x:aoz):OT r9.Y:=.br (onB x.2.1.1 x.1.2.2.1) (.br (Xx x.2.2.1) (.ok ⟨tC,(((0:Int),()),((x.2.1.1,((),())),(x.2.2.1++ [(acJ x.2.1.1 x.1.2.1,x.1.2.2.1)],())))⟩)
 (.ok ⟨tC,(((50:Int),()),((x.2.1.1,((),())),(x.2.2.1,())))⟩)) (.ok ⟨tC,(((41:Int),()),((x.2.1.1,((),())),(x.2.2.1,())))⟩)
theorem aHh:ac Tryz.prog 115 (r9.aH akF aDN):=avm _ _ λx oy _ ho=>by
 rw [<-ho]
 clear ho
 obtain ⟨⟨⟨⟩,k,P,⟨⟩⟩,⟨⟨c,⟨⟩,⟨⟩⟩,l,⟨⟩⟩⟩:=x
 show (akG k P c l).run=(OT.br (onB c P) (.br (Xx l) _ _) _:OT r9.Y).run
 rcases (Bool.eq_false_or_eq_true (onB c P)).symm with h|h
 ·exact (OT.ap (b:= !onB c P) (by rw [h];rfl)).trans (OT.ar (b:=onB c P) h).symm
 ·refine (OT.ar (b:= !onB c P) (by rw [h];rfl)).trans (Eq.trans ?_ (OT.ap (b:=onB c P) h).symm)
  rcases (Bool.eq_false_or_eq_true (Xx l)).symm with h2|h2
  ·have h3:=of_decide_eq_false h2
   exact (OT.ap (decide_eq_true (by omega))).trans (OT.ar (b:=Xx l) h2).symm
  ·have h3:=of_decide_eq_true h2
   refine (OT.ar (decide_eq_false (by omega))).trans (Eq.trans ?_ (OT.ap (b:=Xx l) h2).symm)
   refine (OT.ap (D5 (BF h))).trans ((ah ?_).trans rfl)
   simp only [List.all_cons,List.all_nil,Bool.and_true]
   exact decide_eq_true (by omega)
def LD:cf:=(r9.aH akF aDN)
theorem aoy:ac Tryz.prog 115 LD:=aHh
theorem aox:aF LD:=aA
def SI:Env:=ay 115 LD abM
theorem Dp:aQ Tryz.prog SI:=ag aoy N5
theorem N7:ax SI:=ae aox N6
theorem SH:aU Tryz.prog te SI:=aJ follows aq Dp N7
def fP:aw:=⟨[.val false .int,.val false (.list Ic)],[],true,0,false⟩
abbrev wh:Type:=((Int)×(List ((aa×(aa×(aa×Bool)))))×Unit)×(Unit)
def pd:Shape:=⟨26,[(0,.val false .int),(4,.ptr 0 0 0),(5,.ptr 1 0 0),(9,.val false (.list (.prod .elem (.prod .elem (.prod .elem .bool))))),(10,.val false .int),(11,.val false .int)],[(0,.cells [.val false .u64,.val false .u64,.val false .u64,.val false .u64,.val false .u64,.val false .u64,.val false .u64,.val false .u64,.val false .bool]),(1,.cells [.val false .u64,.val false .u64,.val false .u64,.val false .u64,.val false .u64,.val false .u64,.val false .u64,.val false .u64,.val false .bool])],0,true⟩
abbrev b7:Type:=((Int)×(Unit)×(Unit)×(List ((aa×(aa×(aa×Bool)))))×(Int)×(Int)×Unit)×(((UInt64)×(UInt64)×(UInt64)×(UInt64)×(UInt64)×(UInt64)×(UInt64)×(UInt64)×(Bool)×Unit)×((UInt64)×(UInt64)×(UInt64)×(UInt64)×(UInt64)×(UInt64)×(UInt64)×(UInt64)×(Bool)×Unit)×Unit)
def nw:Shape:=⟨26,[(4,.ptr 0 0 0),(5,.ptr 1 0 0)],[(0,.cells [.val false .u64,.val false .u64,.val false .u64,.val false .u64,.val false .u64,.val false .u64,.val false .u64,.val false .u64,.val false .bool]),(1,.cells [.val false .u64,.val false .u64,.val false .u64,.val false .u64,.val false .u64,.val false .u64,.val false .u64,.val false .u64,.val false .bool])],0,true⟩
abbrev iS:Type:=((Unit)×(Unit)×Unit)×(((UInt64)×(UInt64)×(UInt64)×(UInt64)×(UInt64)×(UInt64)×(UInt64)×(UInt64)×(Bool)×Unit)×((UInt64)×(UInt64)×(UInt64)×(UInt64)×(UInt64)×(UInt64)×(UInt64)×(UInt64)×(Bool)×Unit)×Unit)
def Ri:SE->Option Shape:=fp [(0,nw)] none
def aom (a0:Int) (a9:List ((aa×(aa×(aa×Bool))))) (a10:Int) (a11:Int) (c0_0:UInt64) (c0_1:UInt64) (c0_2:UInt64) (c0_3:UInt64) (c0_4:UInt64) (c0_5:UInt64) (c0_6:UInt64) (c0_7:UInt64) (c0_8:Bool) (c1_0:UInt64) (c1_1:UInt64) (c1_2:UInt64) (c1_3:UInt64) (c1_4:UInt64) (c1_5:UInt64) (c1_6:UInt64) (c1_7:UInt64) (c1_8:Bool):OT (Sum b7 aE):=
 let z0:aa:= {w0:=0,w1:=0,w2:=0,w3:=0}
 let z1:aa×aa×aa×Bool:=List.getD a9 (Int.toNat a11) (z0,z0,z0,false)
 let z2:aa×aa×Bool:=kW a0 ({w0:=c1_0,w1:=c1_1,w2:=c1_2,w3:=c1_3},{w0:=c1_4,w1:=c1_5,w2:=c1_6,w3:=c1_7},c1_8) (Zi a0 z1.fst z1.snd)
 let z3:=z2.fst
 let z4:=z2.snd
 let z5:=z4.fst
 (.br (decide (a11<a10))
 (gd [inB a11 (List.length a9),inR (a11+(1:Int))] (.ok (.inl ((a0,((),((),(a9,(a10,(a11+(1:Int),())))))),((c0_0,(c0_1,(c0_2,(c0_3,(c0_4,(c0_5,(c0_6,(c0_7,(c0_8,()))))))))),((z3.w0,(z3.w1,(z3.w2,(z3.w3,(z5.w0,(z5.w1,(z5.w2,(z5.w3,(z4.snd,()))))))))),()))))))
 (.ok (.inr ⟨(.exit 0,nw),(((),((),())),((c0_0,(c0_1,(c0_2,(c0_3,(c0_4,(c0_5,(c0_6,(c0_7,(c0_8,()))))))))),((c1_0,(c1_1,(c1_2,(c1_3,(c1_4,(c1_5,(c1_6,(c1_7,(c1_8,()))))))))),())))⟩)))
def pe (s:b7):OT (Sum b7 aE):=aom (s.1.1) (s.1.2.2.2.1) (s.1.2.2.2.2.1) (s.1.2.2.2.2.2.1) (s.2.1.1) (s.2.1.2.1) (s.2.1.2.2.1) (s.2.1.2.2.2.1) (s.2.1.2.2.2.2.1) (s.2.1.2.2.2.2.2.1) (s.2.1.2.2.2.2.2.2.1) (s.2.1.2.2.2.2.2.2.2.1) (s.2.1.2.2.2.2.2.2.2.2.1) (s.2.2.1.1) (s.2.2.1.2.1) (s.2.2.1.2.2.1) (s.2.2.1.2.2.2.1) (s.2.2.1.2.2.2.2.1) (s.2.2.1.2.2.2.2.2.1) (s.2.2.1.2.2.2.2.2.2.1) (s.2.2.1.2.2.2.2.2.2.2.1) (s.2.2.1.2.2.2.2.2.2.2.2.1)
theorem aoj (s:b7) (Q:Sum b7 aE->Prop):wps te SI av 1000 (aV (aj Tryz.f160) 0) (pd.inj s) (bV pd Ri (Q:Sum pd.T aE->Prop))=(pe s).wpR Q:=by kernel_rfl
def wg (g0_0:b7->iS) (s:b7):OT aE:=(.ok ⟨(.exit 0,nw),g0_0 s⟩)
def Fj:az:=⟨[.val true (.prod .elem (.prod .elem .bool))],[],false⟩
def Lh:SV->Option az:=λ_=>some Fj
def Lj (ok0:b7->Bool) (g0_0:b7->iS) (a0:Int) (a1:List ((aa×(aa×(aa×Bool))))):OT fP.Y:=
 let z0:(Int×PUnit×PUnit×List (aa×aa×aa×Bool)×Int×Int×PUnit)×(UInt64×UInt64×UInt64×UInt64×UInt64×UInt64×UInt64×UInt64×Bool×PUnit)×(UInt64×UInt64×UInt64×UInt64×UInt64×UInt64×UInt64×UInt64×Bool×PUnit)×PUnit:=((a0,(),(),a1,(↑(List.length a1):Int),(0:Int),()),((0:UInt64),(0:UInt64),(0:UInt64),(0:UInt64),(0:UInt64),(0:UInt64),(0:UInt64),(0:UInt64),false,()),((0:UInt64),(0:UInt64),(0:UInt64),(0:UInt64),(0:UInt64),(0:UInt64),(0:UInt64),(0:UInt64),true,()),())
 let z1:=(g0_0 z0).snd.snd.fst
 let z2:=z1.snd
 let z3:=z2.snd
 let z4:=z3.snd
 let z5:=z4.snd
 let z6:=z5.snd
 let z7:=z6.snd
 let z8:=z7.snd
 (gd [ok0 z0] (.ok ⟨Fj,((({w0:=z1.fst,w1:=z2.fst,w2:=z3.fst,w3:=z4.fst},{w0:=z5.fst,w1:=z6.fst,w2:=z7.fst,w3:=z8.fst},z8.snd.fst),()),())⟩))
theorem avd (ok0:b7->Bool) (g0_0:b7->iS) (x:wh) (Q:fP.Y->Prop):wpf te SI (aO 0 (cb pd 0 ok0 (wg g0_0)) av) 1000 Tryz.f160 (fP.inp.inj x).tm (fP.inp.inj x).hp (fnK fP Lh Q) (λ_ _=>False)=(Lj ok0 g0_0 (x.1.1) (x.1.2.1)).wpR Q:=by kernel_rfl
theorem Zm (ok0:b7->Bool) (g0_0:b7->iS) (h0:∀ s:b7,ok0 s=true->∃ m e,al (pe) m s=some e/\(wg g0_0 s).run=some e) (pre:wh->Bool) (F:wh->OT fP.Y) (hF:∀ (x:wh) oy,pre x=true->(F x).run=some oy->(Lj ok0 g0_0 (x.1.1) (x.1.2.1)).run=some oy):ac Tryz.prog 160 (fP.aH pre F):=
 aD aq Dp SH (f:=160) (fn:=Tryz.f160) (c:=aj Tryz.f160) (by kernel_rfl) (by kernel_rfl) (by kernel_rfl) (S:=fP) (k:=0) (by kernel_rfl) (λR hR=>(aB (c:=(aj Tryz.f160)) (by kernel_rfl) (id:=0) (by kernel_rfl) (aS aq Dp SH (sh:=pd) hR (xs:=Ri) (aC (by kernel_rfl) (by kernel_rfl) hR) aK af (n:=1000) (T:=pe) (λs Q=>aoj s Q) (ok:=ok0) (f:=wg g0_0) h0) af)) (n:=1000) (sel:=Lh) (λv o h=>by cases h;rfl) (pre:=pre) (F:=F) (T:=λx=>Lj ok0 g0_0 (x.1.1) (x.1.2.1)) (λx Q=>avd ok0 g0_0 x Q) hF
def PY (c:Int) (l:List Tm) (k:Nat) (O:Pt):Pt:=kW c O (Zi c (l.getD k y9).1 (l.getD k y9).2)
def AK (c:Int) (l:List Tm):Pt:=upto (PY c l) bD l.length
def Li (s:b7):Bool:=decide (s.1.2.2.2.2.1=(s.1.2.2.2.1.length:Int)/\s.1.2.2.2.2.2.1=0/\n5 s.2.2.1=bD/\s.1.2.2.2.1.length<=140737488355328)
def Rj (s:b7):iS:=(((),(),()),(s.2.1,bE (AK s.1.1 s.1.2.2.2.1),()))
theorem aol:∀ s:b7,Li s=true->∃ m e,al pe m s=some e/\(wg Rj s).run=some e:=by
 rintro ⟨⟨c,⟨⟩,⟨⟩,l,n,i,⟨⟩⟩,⟨c0,c1,⟨⟩⟩⟩ h
 have h':=of_decide_eq_true h
 dsimp only at h'
 obtain ⟨rfl,rfl,hO,hl⟩:=h'
 have hO2:c1=bE bD:=by rw [<-hO];rfl
 subst hO2
 have:=(aP (T:=pe) (λi O=>(((c,(),(),l,(l.length:Int),(i:Int),()),(c0,bE O,())):b7)) (PY c l)
  (λO=>(⟨(.exit 0,nw),(((),(),()),(c0,bE O,()))⟩:aE)) l.length bD (λ_ _=>True) trivial (λk O hk _=>⟨?_,trivial⟩) (λO _=> ?_)).1
 ·obtain ⟨m,hm⟩:=this
  exact ⟨m,_,hm,rfl⟩
 ·refine (OT.ap (decide_eq_true (by dsimp only;omega))).trans ((ah ?_).trans ?_)
  ·simp only [List.all_cons,List.all_nil,Bool.and_true,Bool.and_eq_true]
   exact ⟨aN (by omega),aI (by omega)⟩
  ·simp only [OT.cK,Int.toNat_natCast]
   rfl
 ·exact OT.ar (decide_eq_false (by dsimp only;omega))
def zf (x:wh):Bool:=decide (x.1.2.1.length<=140737488355328)
def Zn (x:wh):OT fP.Y:=.ok ⟨Fj,((AK x.1.1 x.1.2.1,()),())⟩
theorem aok:ac Tryz.prog 160 (fP.aH zf Zn):=Zm Li Rj aol _ _ λx oy hp ho=>by
 rw [<-ho]
 clear ho
 obtain ⟨⟨c,l,⟨⟩⟩,⟨⟩⟩:=x
 have hl:l.length<=140737488355328:=of_decide_eq_true hp
 refine (ah ?_).trans rfl
 simp only [List.all_cons,List.all_nil,Bool.and_true]
 exact decide_eq_true ⟨rfl,rfl,rfl,hl⟩
def tx:cf:=(fP.aH zf Zn)
theorem UM:ac Tryz.prog 160 tx:=aok
theorem UL:aF tx:=aA
def uW:Env:=ay 160 tx SI
theorem uV:aQ Tryz.prog uW:=ag UM Dp
theorem yg:ax uW:=ae UL N7
theorem Wu:aU Tryz.prog te uW:=aJ follows aq uV yg
def md:aw:=⟨[.val true Ic,.ptr 0 0 0],[(0,.cells [.val false .int])],false,1,true⟩
abbrev Rg:Type:=(((aa×(aa×(aa×Bool))))×(Unit)×Unit)×(((Int)×Unit)×Unit)
def UG:az:=⟨[.val false .bool],[(0,.cells [.val false .int])],false⟩
def Zj:SV->Option az:=λ_=>some UG
def aey (a0:(aa×(aa×(aa×Bool)))) (c0_0:Int):OT md.Y:=
 (.ok ⟨UG,((xT a0.fst c0_0,()),((c0_0,()),()))⟩)
theorem aG6 (x:Rg) (Q:md.Y->Prop):wpf te uW av 1000 Tryz.f169 (md.inp.inj x).tm (md.inp.inj x).hp (fnK md Zj Q) (λ_ _=>False)=(aey (x.1.1) (x.2.1.1)).wpR Q:=by kernel_rfl
theorem aod (pre:Rg->Bool) (F:Rg->OT md.Y) (hF:∀ (x:Rg) oy,pre x=true->(F x).run=some oy->(aey (x.1.1) (x.2.1.1)).run=some oy):ac Tryz.prog 169 (md.aH pre F):=
 aD aq uV Wu (f:=169) (fn:=Tryz.f169) (c:=aj Tryz.f169) (by kernel_rfl) (by kernel_rfl) (by kernel_rfl) (S:=md) (k:=1) (by kernel_rfl) (λR hR=>af) (n:=1000) (sel:=Zj) (λv o h=>by cases h;rfl) (pre:=pre) (F:=F) (T:=λx=>aey (x.1.1) (x.2.1.1)) (λx Q=>aG6 x Q) hF
def Zk (_:Rg):Bool:=true
def au9 (x:Rg):OT md.Y:=.ok ⟨UG,((xT x.1.1.1 x.2.1.1,()),((x.2.1.1,()),()))⟩
theorem aBF:ac Tryz.prog 169 (md.aH Zk au9):=aod _ _ λx oy hp ho=>by
 rw [<-ho]
 rfl
def Ff:cf:=(md.aH Zk au9)
theorem aex:ac Tryz.prog 169 Ff:=aBF
theorem aew:aF Ff:=aA
def Gr:Env:=ay 169 Ff uW
theorem xv:aQ Tryz.prog Gr:=ag aex uV
theorem HQ:ax Gr:=ae aew yg
theorem NZ:aU Tryz.prog te Gr:=aJ follows aq xv HQ
def ff:aw:=⟨[.val false (.list Ic),.fn 169 [0]],[(0,.cells [.val false .int])],true,1,true⟩
abbrev wj:Type:=((List ((aa×(aa×(aa×Bool)))))×(Unit)×Unit)×(((Int)×Unit)×Unit)
def pf:Shape:=⟨19,[(0,.val false (.list (.prod .elem (.prod .elem (.prod .elem .bool))))),(1,.fn 169 [0]),(7,.val false .int),(8,.val false .int)],[(0,.cells [.val false .int])],1,true⟩
abbrev bc:Type:=((List ((aa×(aa×(aa×Bool)))))×(Unit)×(Int)×(Int)×Unit)×(((Int)×Unit)×Unit)
def nx:Shape:=⟨19,[(4,.val false .int)],[(0,.cells [.val false .int])],1,true⟩
abbrev iT:Type:=((Int)×Unit)×(((Int)×Unit)×Unit)
def ny:Shape:=⟨19,[],[(0,.cells [.val false .int])],1,true⟩
abbrev iU:Type:=(Unit)×(((Int)×Unit)×Unit)
def Rl:SE->Option Shape:=fp [(0,ny)] (some nx)
def aou (a0:List ((aa×(aa×(aa×Bool))))) (a7:Int) (a8:Int) (c0_0:Int):OT (Sum bc aE):=
 let z0:aa:= {w0:=0,w1:=0,w2:=0,w3:=0}
 (.br (decide (a8<a7))
 (gd [inB a8 (List.length a0)] (.br (xT (List.getD a0 (Int.toNat a8) (z0,z0,z0,false)).fst c0_0)
  (.ok (.inr ⟨(.ret,nx),((a8,()),((c0_0,()),()))⟩))
  (gd [inR (a8+(1:Int))] (.ok (.inl ((a0,((),(a7,(a8+(1:Int),())))),((c0_0,()),())))))))
 (.ok (.inr ⟨(.exit 0,ny),((),((c0_0,()),()))⟩)))
def pg (s:bc):OT (Sum bc aE):=aou (s.1.1) (s.1.2.2.1) (s.1.2.2.2.1) (s.2.1.1)
theorem aor (s:bc) (Q:Sum bc aE->Prop):wps te Gr av 1000 (aV (aj Tryz.f171) 0) (pf.inj s) (bV pf Rl (Q:Sum pf.T aE->Prop))=(pg s).wpR Q:=by kernel_rfl
def wi (g0_r:bc->iT) (c0_r:bc->Bool) (g0_0:bc->iU) (s:bc):OT aE:=(.br (c0_r s) (.ok ⟨(.ret,nx),g0_r s⟩) (.ok ⟨(.exit 0,ny),g0_0 s⟩))
def jC:az:=⟨[.val false .int],[(0,.cells [.val false .int])],false⟩
def Lm:SV->Option az:=λ_=>some jC
def Lp (ok0:bc->Bool) (g0_r:bc->iT) (c0_r:bc->Bool) (g0_0:bc->iU) (a0:List ((aa×(aa×(aa×Bool))))) (c0_0:Int):OT ff.Y:=
 let z0:(List (aa×aa×aa×Bool)×PUnit×Int×Int×PUnit)×(Int×PUnit)×PUnit:=((a0,(),(↑(List.length a0):Int),(0:Int),()),(c0_0,()),())
 let z1:(Int×PUnit)×(Int×PUnit)×PUnit:=g0_r z0
 (gd [ok0 z0] (.br (c0_r z0)
 (.ok ⟨jC,((z1.fst.fst,()),((z1.snd.fst.fst,()),()))⟩)
 (.ok ⟨jC,(((-1:Int),()),(((g0_0 z0).snd.fst.fst,()),()))⟩)))
theorem avi (ok0:bc->Bool) (g0_r:bc->iT) (c0_r:bc->Bool) (g0_0:bc->iU) (x:wj) (Q:ff.Y->Prop):wpf te Gr (aO 0 (cb pf 0 ok0 (wi g0_r c0_r g0_0)) av) 1000 Tryz.f171 (ff.inp.inj x).tm (ff.inp.inj x).hp (fnK ff Lm Q) (λ_ _=>False)=(Lp ok0 g0_r c0_r g0_0 (x.1.1) (x.2.1.1)).wpR Q:=by kernel_rfl
theorem Zp (ok0:bc->Bool) (g0_r:bc->iT) (c0_r:bc->Bool) (g0_0:bc->iU) (h0:∀ s:bc,ok0 s=true->∃ m e,al (pg) m s=some e/\(wi g0_r c0_r g0_0 s).run=some e) (pre:wj->Bool) (F:wj->OT ff.Y) (hF:∀ (x:wj) oy,pre x=true->(F x).run=some oy->(Lp ok0 g0_r c0_r g0_0 (x.1.1) (x.2.1.1)).run=some oy):ac Tryz.prog 171 (ff.aH pre F):=
 aD aq xv NZ (f:=171) (fn:=Tryz.f171) (c:=aj Tryz.f171) (by kernel_rfl) (by kernel_rfl) (by kernel_rfl) (S:=ff) (k:=1) (by kernel_rfl) (λR hR=>(aB (c:=(aj Tryz.f171)) (by kernel_rfl) (id:=0) (by kernel_rfl) (aS aq xv NZ (sh:=pf) hR (xs:=Rl) (aC (by kernel_rfl) (by kernel_rfl) hR) aK af (n:=1000) (T:=pg) (λs Q=>aor s Q) (ok:=ok0) (f:=wi g0_r c0_r g0_0) h0) af)) (n:=1000) (sel:=Lm) (λv o h=>by cases h;rfl) (pre:=pre) (F:=F) (T:=λx=>Lp ok0 g0_r c0_r g0_0 (x.1.1) (x.2.1.1)) (λx Q=>avi ok0 g0_r c0_r g0_0 x Q) hF
def Cb (l:List Tm) (i:Int):Nat->Nat->Int
 |0,_=> -1
 |n+1,k=>cond (xT (l.getD k y9).1 i) (k:Int) (Cb l i n (k+1))
def Ln (s:bc):Bool:=decide (s.1.2.2.1=(s.1.1.length:Int)/\s.1.2.2.2.1=0/\s.1.1.length<=140737488355328)
def kw (l:List Tm) (i:Int):Int:=Cb l i l.length 0
def Lo (s:bc):iT:=((kw s.1.1 s.2.1.1,()),s.2)
def Rn (s:bc):Bool:=decide (0<=kw s.1.1 s.2.1.1)
def Rm (s:bc):iU:=((),s.2)
def ZE (l:List Tm) (i k:Int):bc:=((l,(),(l.length:Int),k,()),((i,()),()))
theorem aaa (l:List Tm) (i:Int):∀ n k,Cb l i n k= -1\/0<=Cb l i n k
 |0,_=>.inl rfl
 |n+1,k=>by
  unfold Cb
  cases xT (l.getD k y9).1 i
  ·exact aaa l i n (k+1)
  ·right
   show (0:Int)<=(k:Int)
   omega
theorem akL (l:List Tm) (i:Int) (hl:l.length<=140737488355328):∀ n k:Nat,k+n=l.length->
 ∃ m,al pg m (ZE l i (k:Int))=some (cond (decide (0<=Cb l i n k)) ⟨(.ret,nx),((Cb l i n k,()),((i,()),()))⟩ ⟨(.exit 0,ny),((),((i,()),()))⟩)
 |0,k,h=>⟨1,aM (OT.ar (decide_eq_false (by dsimp only [ZE];omega)))⟩
 |n+1,k,h=>by
  have hin:inB (k:Int) l.length=true:=aN (by omega)
  have hgd:∀ z:OT (Sum bc aE),(gd [inB (k:Int) l.length] z).run=z.run:=λz=>ah (by rw [hin];rfl)
  unfold Cb
  rcases (Bool.eq_false_or_eq_true (xT (l.getD k y9).1 i)).symm with hb|hb
  ·obtain ⟨m,hm⟩:=akL l i hl n (k+1) (by omega)
   rw [hb]
   refine ⟨m+1,aG ?_ hm⟩
   refine (OT.ap (decide_eq_true (by dsimp only [ZE];omega))).trans ((hgd _).trans ((OT.ar hb).trans ((ah ?_).trans rfl)))
   simp only [List.all_cons,List.all_nil,Bool.and_true]
   exact aI (by dsimp only [ZE];omega)
  ·rw [hb]
   have e:decide ((0:Int)<=cond true (k:Int) (Cb l i n (k+1)))=true:=decide_eq_true (by show (0:Int)<=(k:Int);omega)
   rw [e]
   refine ⟨1,aM ?_⟩
   exact (OT.ap (decide_eq_true (by dsimp only [ZE];omega))).trans ((hgd _).trans ((OT.ap hb).trans rfl))
theorem aot:∀ s:bc,Ln s=true->∃ m e,al pg m s=some e/\(wi Lo Rn Rm s).run=some e:=by
 rintro ⟨⟨l,⟨⟩,n,k,⟨⟩⟩,⟨⟨i,⟨⟩⟩,⟨⟩⟩⟩ h
 have h':=of_decide_eq_true h
 dsimp only at h'
 obtain ⟨rfl,rfl,hl⟩:=h'
 obtain ⟨m,hm⟩:=akL l i hl l.length 0 (by omega)
 refine ⟨m,_,hm,?_⟩
 show (OT.br (decide (0<=kw l i)) _ _:OT aE).run=some (cond (decide (0<=kw l i)) _ _)
 cases decide (0<=kw l i)<;>rfl
def zg (x:wj):Bool:=decide (x.1.1.length<=140737488355328)
def Zq (x:wj):OT ff.Y:=.ok ⟨jC,((kw x.1.1 x.2.1.1,()),x.2)⟩
theorem aos:ac Tryz.prog 171 (ff.aH zg Zq):=Zp Ln Lo Rn Rm aot _ _ λx oy hp ho=>by
 rw [<-ho]
 clear ho
 obtain ⟨⟨l,⟨⟩,⟨⟩⟩,⟨⟨i,⟨⟩⟩,⟨⟩⟩⟩:=x
 have hl:l.length<=140737488355328:=of_decide_eq_true hp
 refine (ah ?_).trans ?_
 ·simp only [List.all_cons,List.all_nil,Bool.and_true]
  exact decide_eq_true ⟨rfl,rfl,hl⟩
 ·show (OT.br (decide (0<=kw l i)) (.ok ⟨jC,((kw l i,()),((i,()),()))⟩) (.ok ⟨jC,(((-1:Int),()),((i,()),()))⟩):OT ff.Y).run=some ⟨jC,((kw l i,()),((i,()),()))⟩
  rcases aaa l i l.length 0 with h|h
  ·have h:kw l i= -1:=h
   rw [h]
   rfl
  ·exact OT.ap (decide_eq_true h)
def tz:cf:=(ff.aH zg Zq)
theorem UR:ac Tryz.prog 171 tz:=aos
theorem UQ:aF tz:=aA
def uY:Env:=ay 171 tz Gr
theorem uX:aQ Tryz.prog uY:=ag UR xv
theorem yh:ax uY:=ae UQ HQ
theorem Wv:aU Tryz.prog te uY:=aJ follows aq uX yh
def iV:aw:=⟨[.val false (.list Ic),.fn 169 [0]],[(0,.cells [.val false .int])],true,1,true⟩
abbrev Fk:Type:=((List ((aa×(aa×(aa×Bool)))))×(Unit)×Unit)×(((Int)×Unit)×Unit)
def Lr:az:=⟨[.val false .bool],[(0,.cells [.val false .int])],false⟩
def Rp:SV->Option az:=λ_=>some Lr
def US (a0:List ((aa×(aa×(aa×Bool))))) (c0_0:Int):OT iV.Y:=
 (gd [zg ((a0,(),()),(c0_0,()),())] (.ok ⟨Lr,((decide ((0:Int)<=kw a0 c0_0),()),((c0_0,()),()))⟩))
theorem aBN (x:Fk) (Q:iV.Y->Prop):wpf te uY av 1000 Tryz.f168 (iV.inp.inj x).tm (iV.inp.inj x).hp (fnK iV Rp Q) (λ_ _=>False)=(US (x.1.1) (x.2.1.1)).wpR Q:=by kernel_rfl
theorem aeE (pre:Fk->Bool) (F:Fk->OT iV.Y) (hF:∀ (x:Fk) oy,pre x=true->(F x).run=some oy->(US (x.1.1) (x.2.1.1)).run=some oy):ac Tryz.prog 168 (iV.aH pre F):=
 aD aq uX Wv (f:=168) (fn:=Tryz.f168) (c:=aj Tryz.f168) (by kernel_rfl) (by kernel_rfl) (by kernel_rfl) (S:=iV) (k:=1) (by kernel_rfl) (λR hR=>af) (n:=1000) (sel:=Rp) (λv o h=>by cases h;rfl) (pre:=pre) (F:=F) (T:=λx=>US (x.1.1) (x.2.1.1)) (λx Q=>aBN x Q) hF
def aKu (l:List Tm) (i:Int):Bool:=decide (0<=kw l i)
def wk (x:Fk):Bool:=decide (x.1.1.length<=140737488355328)
def akC (x:Fk):OT iV.Y:=.ok ⟨Lr,((aKu x.1.1 x.2.1.1,()),x.2)⟩
theorem avl:ac Tryz.prog 168 (iV.aH wk akC):=aeE _ _ λx oy hp ho=>by
 rw [<-ho]
 clear ho
 refine (ah ?_).trans rfl
 simp only [List.all_cons,List.all_nil,Bool.and_true]
 exact hp
def zh:cf:=(iV.aH wk akC)
theorem Zs:ac Tryz.prog 168 zh:=avl
theorem Zr:aF zh:=aA
def xw:Env:=ay 168 zh uY
theorem rR:aQ Tryz.prog xw:=ag Zs uX
theorem Dn:ax xw:=ae Zr yh
theorem HS:aU Tryz.prog te xw:=aJ follows aq rR Dn
def r6:aw:=⟨[.val false (.list Ic)],[],true,0,false⟩
abbrev aoc:Type:=((List ((aa×(aa×(aa×Bool)))))×Unit)×(Unit)
def Lc:Shape:=⟨14,[(0,.val false (.list (.prod .elem (.prod .elem (.prod .elem .bool))))),(3,.ptr 0 0 0)],[(0,.cells [.val false .int])],0,true⟩
abbrev ca:Type:=((List ((aa×(aa×(aa×Bool)))))×(Unit)×Unit)×(((Int)×Unit)×Unit)
def BK:Shape:=⟨14,[(2,.val false .int)],[],0,true⟩
abbrev o9:Type:=((Int)×Unit)×(Unit)
def BL:Shape:=⟨14,[],[],0,true⟩
abbrev pa:Type:=(Unit)×(Unit)
def au4:SE->Option Shape:=fp [(0,BL)] (some BK)
def aG5 (a0:List ((aa×(aa×(aa×Bool))))) (c0_0:Int):OT (Sum ca aE):=
 (.br (decide ((0:Int)<=c0_0))
 (gd [wk ((a0,(),()),(c0_0,()),())] (.br (aKu a0 c0_0)
  (gd [inR (c0_0+(1:Int))] (.ok (.inr ⟨(.ret,BK),((c0_0+(1:Int),()),())⟩)))
  (gd [inR (c0_0-(1:Int))] (.ok (.inl ((a0,((),())),((c0_0-(1:Int),()),())))))))
 (.ok (.inr ⟨(.exit 0,BL),((),())⟩)))
def Ld (s:ca):OT (Sum ca aE):=aG5 (s.1.1) (s.2.1.1)
theorem aG2 (s:ca) (Q:Sum ca aE->Prop):wps te xw av 1000 (aV (aj Tryz.f161) 0) (Lc.inj s) (bV Lc au4 (Q:Sum Lc.T aE->Prop))=(Ld s).wpR Q:=by kernel_rfl
def UF (g0_r:ca->o9) (c0_r:ca->Bool) (g0_0:ca->pa) (s:ca):OT aE:=(.br (c0_r s) (.ok ⟨(.ret,BK),g0_r s⟩) (.ok ⟨(.exit 0,BL),g0_0 s⟩))
def zd:az:=⟨[.val false .int],[],false⟩
def akm:SV->Option az:=λ_=>some zd
def au8 (ok0:ca->Bool) (g0_r:ca->o9) (c0_r:ca->Bool) (g0_0:ca->pa) (a0:List ((aa×(aa×(aa×Bool))))):OT r6.Y:=
 let z0:(List (aa×aa×aa×Bool)×PUnit×PUnit)×(Int×PUnit)×PUnit:=((a0,(),()),((255:Int),()),())
 (gd [ok0 z0] (.br (c0_r z0)
 (.ok ⟨zd,(((g0_r z0).fst.fst,()),())⟩)
 (.ok ⟨zd,(((0:Int),()),())⟩)))
theorem aJE (ok0:ca->Bool) (g0_r:ca->o9) (c0_r:ca->Bool) (g0_0:ca->pa) (x:aoc) (Q:r6.Y->Prop):wpf te xw (aO 0 (cb Lc 0 ok0 (UF g0_r c0_r g0_0)) av) 1000 Tryz.f161 (r6.inp.inj x).tm (r6.inp.inj x).hp (fnK r6 akm Q) (λ_ _=>False)=(au8 ok0 g0_r c0_r g0_0 (x.1.1)).wpR Q:=by kernel_rfl
theorem au5 (ok0:ca->Bool) (g0_r:ca->o9) (c0_r:ca->Bool) (g0_0:ca->pa) (h0:∀ s:ca,ok0 s=true->∃ m e,al (Ld) m s=some e/\(UF g0_r c0_r g0_0 s).run=some e) (pre:aoc->Bool) (F:aoc->OT r6.Y) (hF:∀ (x:aoc) oy,pre x=true->(F x).run=some oy->(au8 ok0 g0_r c0_r g0_0 (x.1.1)).run=some oy):ac Tryz.prog 161 (r6.aH pre F):=
 aD aq rR HS (f:=161) (fn:=Tryz.f161) (c:=aj Tryz.f161) (by kernel_rfl) (by kernel_rfl) (by kernel_rfl) (S:=r6) (k:=0) (by kernel_rfl) (λR hR=>(aB (c:=(aj Tryz.f161)) (by kernel_rfl) (id:=0) (by kernel_rfl) (aS aq rR HS (sh:=Lc) hR (xs:=au4) (aC (by kernel_rfl) (by kernel_rfl) hR) aK af (n:=1000) (T:=Ld) (λs Q=>aG2 s Q) (ok:=ok0) (f:=UF g0_r c0_r g0_0) h0) af)) (n:=1000) (sel:=akm) (λv o h=>by cases h;rfl) (pre:=pre) (F:=F) (T:=λx=>au8 ok0 g0_r c0_r g0_0 (x.1.1)) (λx Q=>aJE ok0 g0_r c0_r g0_0 x Q) hF
def ax6 (l:List Tm):Nat->Nat
 |0=>0
 |n+1=>cond (aKu l (n:Int)) (n+1) (ax6 l n)
def acy (l:List Tm):Nat:=ax6 l 256
def akn (s:ca):Bool:=decide (s.2.1.1=255/\s.1.1.length<=140737488355328)
def ako (s:ca):o9:=(((acy s.1.1:Int),()),())
def au7 (s:ca):Bool:=decide ((0:Int)<(acy s.1.1:Int))
def au6 (_:ca):pa:=((),())
def PV (l:List Tm) (i:Int):ca:=((l,(),()),((i,()),()))
theorem ahh (l:List Tm) (hl:l.length<=140737488355328):∀ n:Nat,n<=256->
 ∃ m,al Ld m (PV l ((n:Int)-1))=some (cond (decide ((0:Int)<(ax6 l n:Int))) ⟨(.ret,BK),(((ax6 l n:Int),()),())⟩ ⟨(.exit 0,BL),((),())⟩)
 |0,_=>⟨1,aM (OT.ar (decide_eq_false (by dsimp only [PV];omega)))⟩
 |n+1,h=>by
  rw [show ((n+1:Nat):Int)-1=(n:Int) by omega]
  have hgd:∀ z:OT (Sum ca aE),(gd [wk ((l,(),()),((n:Int),()),())] z).run=z.run:=λz=>ah (by
   simp only [List.all_cons,List.all_nil,Bool.and_true]
   exact decide_eq_true hl)
  unfold ax6
  rcases (Bool.eq_false_or_eq_true (aKu l (n:Int))).symm with hb|hb
  ·obtain ⟨m,hm⟩:=ahh l hl n (by omega)
   rw [hb]
   refine ⟨m+1,aG ?_ hm⟩
   refine (OT.ap (decide_eq_true (by dsimp only [PV];omega))).trans ((hgd _).trans ((OT.ar hb).trans ((ah ?_).trans rfl)))
   simp only [List.all_cons,List.all_nil,Bool.and_true]
   exact aI (by dsimp only [PV];omega)
  ·rw [hb]
   simp only [cond_true]
   rw [decide_eq_true (show (0:Int)<((n+1:Nat):Int) by omega)]
   refine ⟨1,aM ?_⟩
   refine (OT.ap (decide_eq_true (by dsimp only [PV];omega))).trans ((hgd _).trans ((OT.ap hb).trans ((ah ?_).trans rfl)))
   simp only [List.all_cons,List.all_nil,Bool.and_true]
   exact aI (by dsimp only [PV];omega)
theorem aG4:∀ s:ca,akn s=true->∃ m e,al Ld m s=some e/\(UF ako au7 au6 s).run=some e:=by
 rintro ⟨⟨l,⟨⟩,⟨⟩⟩,⟨⟨i,⟨⟩⟩,⟨⟩⟩⟩ h
 have h':=of_decide_eq_true h
 dsimp only at h'
 obtain ⟨rfl,hl⟩:=h'
 obtain ⟨m,hm⟩:=ahh l hl 256 (by omega)
 refine ⟨m,_,hm,?_⟩
 show (OT.br (decide ((0:Int)<(ax6 l 256:Int))) _ _:OT aE).run=some (cond (decide ((0:Int)<(ax6 l 256:Int))) _ _)
 cases decide ((0:Int)<(ax6 l 256:Int))<;>rfl
def UE (x:aoc):Bool:=decide (x.1.1.length<=140737488355328)
def aDK (x:aoc):OT r6.Y:=.ok ⟨zd,(((acy x.1.1:Int),()),())⟩
theorem aG3:ac Tryz.prog 161 (r6.aH UE aDK):=au5 akn ako au7 au6 aG4 _ _ λx oy hp ho=>by
 rw [<-ho]
 clear ho
 obtain ⟨⟨l,⟨⟩⟩,⟨⟩⟩:=x
 have hl:l.length<=140737488355328:=of_decide_eq_true hp
 refine (ah ?_).trans ?_
 ·simp only [List.all_cons,List.all_nil,Bool.and_true]
  exact decide_eq_true ⟨rfl,hl⟩
 ·show (OT.br (decide ((0:Int)<(acy l:Int))) (.ok ⟨zd,(((acy l:Int),()),())⟩) (.ok ⟨zd,(((0:Int),()),())⟩):OT r6.Y).run=some ⟨zd,(((acy l:Int),()),())⟩
  by_cases h:(0:Int)<(acy l:Int)
  ·exact OT.ap (decide_eq_true h)
  ·have e:acy l=0:=by omega
   rw [e]
   rfl
def Lb:cf:=(r6.aH UE aDK)
theorem aob:ac Tryz.prog 161 Lb:=aG3
theorem aoa:aF Lb:=aA
def Dm:Env:=ay 161 Lb xw
theorem mQ:aQ Tryz.prog Dm:=ag aob rR
theorem NY:ax Dm:=ae aoa Dn
theorem qe:aU Tryz.prog te Dm:=aJ follows aq mQ NY
end Go.Proofs.YtohjofabochgfaaGreat
