/- A symbolic machine for Go code over plain data, and functions of the program as it shows them. No statement is proved in this file. -/
import Derived.KernelRfl
import Derived.Tactics
import Derived.Tactics2
import Derived.Laws.Pointers
import Derived.RangeFuncNested
import Derived.RangeFuncBound
import Derived.RangeFuncCalls
import Derived.RangeFuncLeaves
import Derived.OrdersIn
import Derived.TacticsIn
import Derived.Shelf.Abstract
import Derived.WalkKit
import Derived.OwnWalkIn
import Derived.TacticsInMore
import Derived.LoopNIn
import Derived.LoopIn
import Derived.Test.YthnnknnbfhkomaaGreatXd
set_option linter.unusedSimpArgs false
set_option linter.unusedVariables false
set_option linter.unusedSectionVars false
namespace Go.Proofs.YthnnknnbfhkomaaGreat
section
open Sx Go
set_option maxRecDepth 100000
def fQ:af:=⟨[.val true aAg,jK,du],[],true,0,false⟩
abbrev pL:Type:=(kS×aB×oV)×Unit
def ak3:Shape:=⟨54,[Ci,jP,(9,.own 2),(30,jK),(31,aD),(32,aD)],[YH,(1,YJ),zW],0,true⟩
abbrev dV:Type:=(Unit×Unit×Unit×aB×jM)×ail
def nv:Shape:=⟨54,[Ci,jP,(9,.own 2)],[YH,(1,YJ),zW],0,true⟩
abbrev pK:Type:=nO×ail
def ak6 (a30:aB) (a31:Int) (a32:Int) (c0_0:Int) (c0_1:Int) (c0_2:cH) (c0_3:UInt64) (c0_4:UInt64) (c0_5:UInt64) (c0_6:UInt64) (c0_7:UInt64) (c0_8:UInt64) (c0_9:UInt64) (c0_10:UInt64) (c0_11:Bool) (c0_12:UInt64) (c0_13:UInt64) (c0_14:UInt64) (c0_15:UInt64) (c0_16:UInt64) (c0_17:UInt64) (c0_18:UInt64) (c0_19:UInt64) (c0_20:Bool) (c1_0:UInt64) (c1_1:UInt64) (c1_2:UInt64) (c1_3:UInt64) (c1_4:UInt64) (c1_5:UInt64) (c1_6:UInt64) (c1_7:UInt64) (c1_8:Bool) (c2:ef):OT (Sum dV aZ):=
 let z0:Nat:=Int.toNat a32
 let z1:ab:= {w0:=0,w1:=0,w2:=0,w3:=0}
 (.br (decide (a32<a31))
 (gd [inB a32 (List.length a30),inB a32 (List.length c0_2),decide ((List.length c2+1)*104<=140737488355328),inR (a32+(1:Int))] (.ok (.inl (((),(),(),a30,a31,a32+(1:Int),()),(c0_0,c0_1,c0_2,c0_3,c0_4,c0_5,c0_6,c0_7,c0_8,c0_9,c0_10,c0_11,c0_12,c0_13,c0_14,c0_15,c0_16,c0_17,c0_18,c0_19,c0_20,()),(c1_0,c1_1,c1_2,c1_3,c1_4,c1_5,c1_6,c1_7,c1_8,()),c2++ [(List.getD a30 z0 z1,List.getD c0_2 z0 (z1,z1,false))],()))))
 (.ok (.inr ⟨(.exit 0,nv),(((),(),(),()),(c0_0,c0_1,c0_2,c0_3,c0_4,c0_5,c0_6,c0_7,c0_8,c0_9,c0_10,c0_11,c0_12,c0_13,c0_14,c0_15,c0_16,c0_17,c0_18,c0_19,c0_20,()),(c1_0,c1_1,c1_2,c1_3,c1_4,c1_5,c1_6,c1_7,c1_8,()),c2,())⟩)))
def vd (s:dV):OT (Sum dV aZ):=ak6 s.1.2.2.2.1 s.1.2.2.2.2.1 s.1.2.2.2.2.2.1 s.2.1.1 s.2.1.2.1 s.2.1.2.2.1 s.2.1.2.2.2.1 s.2.1.2.2.2.2.1 s.2.1.2.2.2.2.2.1 s.2.1.2.2.2.2.2.2.1 s.2.1.2.2.2.2.2.2.2.1 s.2.1.2.2.2.2.2.2.2.2.1 s.2.1.2.2.2.2.2.2.2.2.2.1 s.2.1.2.2.2.2.2.2.2.2.2.2.1 s.2.1.2.2.2.2.2.2.2.2.2.2.2.1 s.2.1.2.2.2.2.2.2.2.2.2.2.2.2.1 s.2.1.2.2.2.2.2.2.2.2.2.2.2.2.2.1 s.2.1.2.2.2.2.2.2.2.2.2.2.2.2.2.2.1 s.2.1.2.2.2.2.2.2.2.2.2.2.2.2.2.2.2.1 s.2.1.2.2.2.2.2.2.2.2.2.2.2.2.2.2.2.2.1 s.2.1.2.2.2.2.2.2.2.2.2.2.2.2.2.2.2.2.2.1 s.2.1.2.2.2.2.2.2.2.2.2.2.2.2.2.2.2.2.2.2.1 s.2.1.2.2.2.2.2.2.2.2.2.2.2.2.2.2.2.2.2.2.2.1 s.2.1.2.2.2.2.2.2.2.2.2.2.2.2.2.2.2.2.2.2.2.2.1 s.2.2.1.1 s.2.2.1.2.1 s.2.2.1.2.2.1 s.2.2.1.2.2.2.1 s.2.2.1.2.2.2.2.1 s.2.2.1.2.2.2.2.2.1 s.2.2.1.2.2.2.2.2.2.1 s.2.2.1.2.2.2.2.2.2.2.1 s.2.2.1.2.2.2.2.2.2.2.2.1 s.2.2.2.1
def Nl (g0_0:dV->pK) (s:dV):OT aZ:=(.ok ⟨(.exit 0,nv),g0_0 s⟩)
def dj:aL:=⟨LJ,[],false⟩
section
variable (ok0:dV->Bool) (g0_0:dV->pK)
def IE (a0:kS) (a1:aB) (a2:ab):OT fQ.Y:=
 let z0:Int:=cR a0
 let z1:ab:= {w0:=0,w1:=0,w2:=0,w3:=0}
 let z2:cI:=(z1,z1,false)
 let z3:Int:=(↑(List.length a1):Int)
 let z4:dV:=(((),(),(),a1,z3,(0:Int),()),(a0.fst,a0.snd.fst,a0.snd.snd.fst,a0.snd.snd.snd.fst.fst.w0,a0.snd.snd.snd.fst.fst.w1,a0.snd.snd.snd.fst.fst.w2,a0.snd.snd.snd.fst.fst.w3,a0.snd.snd.snd.fst.snd.fst.w0,a0.snd.snd.snd.fst.snd.fst.w1,a0.snd.snd.snd.fst.snd.fst.w2,a0.snd.snd.snd.fst.snd.fst.w3,a0.snd.snd.snd.fst.snd.snd,a0.snd.snd.snd.snd.fst.w0,a0.snd.snd.snd.snd.fst.w1,a0.snd.snd.snd.snd.fst.w2,a0.snd.snd.snd.snd.fst.w3,a0.snd.snd.snd.snd.snd.fst.w0,a0.snd.snd.snd.snd.snd.fst.w1,a0.snd.snd.snd.snd.snd.fst.w2,a0.snd.snd.snd.snd.snd.fst.w3,a0.snd.snd.snd.snd.snd.snd,()),((0:UInt64),(0:UInt64),(0:UInt64),(0:UInt64),(0:UInt64),(0:UInt64),(0:UInt64),(0:UInt64),false,()),[(a2,a0.snd.snd.snd.fst)],())
 let z5:=(g0_0 z4).snd
 let z6:=z5.fst.fst
 let z7:=z5.snd.snd.fst
 (gd [ia ((a0,()),())] (.br (!z0==(0:Int))
 (.ok ⟨dj,((z2,z0,()),())⟩)
 (.br (decide ((↑(List.length a0.snd.snd.fst):Int)<z3))
  (.ok ⟨dj,((z2,(50:Int),()),())⟩)
  (gd [ok0 z4] (.br (ac z6)
   (.br (decide (List.length z7<=100000))
    (.br (cv z6 z7)
     (.ok ⟨dj,((AF z6 (wC z6 z7),(0:Int),()),())⟩)
     (.ok ⟨dj,((z2,(41:Int),()),())⟩))
    (.ok ⟨dj,((z2,(50:Int),()),())⟩))
   (.ok ⟨dj,((z2,(40:Int),()),())⟩))))))
theorem U8 (h0:bh vd ok0 (Nl g0_0)) (pre:pL->Bool) (F:pL->OT fQ.Y) (hF:∀ (x:pL) oy,pre x=true->(F x).run=some oy->(IE ok0 g0_0 x.1.1 x.1.2.1 x.1.2.2.1).run=some oy):aa aj 80 (fQ.az pre F):=
 dh wz 80 Tryz.f80 fQ [dj] (kZ wz 0 ak3 [(0,nv)] none none vd bE h0 bE) (λx=>IE ok0 g0_0 x.1.1 x.1.2.1 x.1.2.2.1) hF
end
theorem KV {p:mf} (h:(cR p==0)=true):p.2.2.1.length<=32:=by
 unfold cR at h
 cases h1:ac p.1
 ·rw [h1] at h;cases h
 ·rw [h1] at h
  by_cases h2:p.2.1<0
  ·rw [ag h2] at h;cases h
  ·rw [bq h2] at h
   by_cases h3:5<p.2.1
   ·rw [ag h3] at h;cases h
   ·rw [bq h3] at h
    cases h4:(p.2.2.1.length:Int)==VM 1 p.2.1
    ·rw [h4] at h;cases h
    ·rw [beq_iff_eq] at h4
     have h6:VM 1 p.2.1<=32:=by
      have:p.2.1=0\/p.2.1=1\/p.2.1=2\/p.2.1=3\/p.2.1=4\/p.2.1=5:=by omega
      rcases this with e|e|e|e|e|e<;>rw [e]<;>decide
     omega
def rI (G:List Pt) (l:aB) (k:Nat) (o:List Tm):List Tm:=o++ [(l.getD k ⟨0,0,0,0⟩,G.getD k jI)]
def Sj (p:mf) (l:aB) (b:ab):List Tm:=upto (rI p.2.2.1 l) [(b,p.2.2.2.1)] l.length
theorem Ou (G:List Pt) (l:aB) (t:Tm):∀ n,(upto (rI G l) [t] n).length=n+1
 |0=>rfl
 |n+1=>by
  show (upto (rI G l) [t] n++ [_]).length=_
  rw [bK,Ou G l t n]
  rfl
def yi (s:dV):Bool:=decide (s.1.2.2.2.2.1=(s.1.2.2.2.1.length:Int)/\s.1.2.2.2.2.2.1=0/\s.1.2.2.2.1.length<=s.2.1.2.2.1.length/\s.2.1.2.2.1.length<=32/\s.2.2.2.1.length=1)
def Dj (s:dV):pK:=(((),(),(),()),s.2.1,s.2.2.1,upto (rI s.2.1.2.2.1 s.1.2.2.2.1) s.2.2.2.1 s.1.2.2.2.1.length,())
theorem ak5:bh vd yi (Nl Dj):=by
 rintro ⟨⟨⟨⟩,⟨⟩,⟨⟩,l,n,i,⟨⟩⟩,⟨q,t,o,⟨⟩⟩⟩ h
 have h':=bn h
 dsimp only at h'
 obtain ⟨rfl,rfl,hl,hG,ho⟩:=h'
 obtain ⟨u,rfl⟩:∃ u,o= [u]:=by
  match o,ho with
  | [u],_=>exact ⟨u,rfl⟩
 have:=(bf (T:=vd) (λk o=>((((),(),(),l,(l.length:Int),(k:Int),()),q,t,o,()):dV)) (rI q.2.2.1 l)
  (λo=>(⟨(.exit 0,nv),(((),(),(),()),q,t,o,())⟩:aZ)) l.length [u] (λk o=>o.length=k+1) rfl (λk o hk hq=>⟨?_,?_⟩) (λo _=> ?_)).1
 ·obtain ⟨m,hm⟩:=this
  exact ⟨m,_,hm,rfl⟩
 ·have hq:o.length=k+1:=hq
  refine (OT.ak (ag (by dsimp only;omega))).trans ((ae ?_).trans rfl)
  simp only [aA,aI,aJ,aw]
  exact ⟨ba (by omega),ba (by omega),ag (by omega),aS (by omega)⟩
 ·show (o++ [_]).length=_
  rw [bK,show o.length=k+1 from hq]
  rfl
 ·exact OT.au (bq (by dsimp only;omega))
def ayT (p:mf) (l:aB) (b:ab):Pt×Int:=cond (!(cR p==0)) (jI,cR p) (cond (decide ((p.2.2.1.length:Int)<(l.length:Int))) (jI,50)
 (cond (ac p.1) (cond (decide ((Sj p l b).length<=100000)) (cond (cv p.1 (Sj p l b)) (AF p.1 (wC p.1 (Sj p l b)),0) (jI,41)) (jI,50)) (jI,40)))
def aa1 (x:pL):Bool:=decide (x.1.1.2.2.1.length<=140737488355328)
def apL (x:pL):OT fQ.Y:=.ok ⟨dj,(((ayT x.1.1 x.1.2.1 x.1.2.2.1).1,(ayT x.1.1 x.1.2.1 x.1.2.2.1).2,()),())⟩
theorem ak4:aa aj 80 (fQ.az aa1 apL):=U8 yi Dj ak5 _ _ λx oy hp ho=>by
 rw [<-ho]
 clear ho
 obtain ⟨⟨p,l,b,⟨⟩⟩,⟨⟩⟩:=x
 show (IE yi Dj p l b).run=some (⟨dj,(((ayT p l b).1,(ayT p l b).2,()),())⟩:fQ.Y)
 have hp:ia ((p,()),())=true:=hp
 unfold ayT
 refine (ae (by rw [hp];rfl)).trans ?_
 rcases (b9 (!(cR p==0))).symm with h1|h1
 ·rw [h1]
  refine (OT.au rfl).trans ?_
  by_cases h2:(p.2.2.1.length:Int)<(l.length:Int)
  ·rw [ag h2]
   exact (OT.ak rfl).trans rfl
  ·rw [bq h2]
   have h0:(cR p==0)=true:=by
    cases hq:cR p==0
    ·rw [hq] at h1;cases h1
    ·rfl
   have hG:=KV h0
   refine (OT.au rfl).trans ((ae ?_).trans ?_)
   ·simp only [aA,aI,aJ]
    exact ag ⟨rfl,rfl,by show l.length<=p.2.2.1.length;omega,hG,rfl⟩
   ·show (OT.br (ac p.1) (.br (decide ((Sj p l b).length<=100000)) (.br (cv p.1 (Sj p l b)) (.ok ⟨dj,((AF p.1 (wC p.1 (Sj p l b)),(0:Int),()),())⟩) (.ok ⟨dj,((jI,(41:Int),()),())⟩)) (.ok ⟨dj,((jI,(50:Int),()),())⟩)) (.ok ⟨dj,((jI,(40:Int),()),())⟩):OT fQ.Y).run=_
    generalize Sj p l b=t
    cases ac p.1<;>cases decide (t.length<=100000)<;>cases cv p.1 t<;>rfl
 ·rw [h1]
  exact (OT.ak rfl).trans rfl
def aa9:mf:=(0,0,[],jI,jI)
def pc:af:=⟨[jK],[],true,0,false⟩
abbrev HE:Type:=fG×Unit
def HD:aL:=⟨[.own 0],[(0,fH)],false⟩
def aeF (a0:aB):OT pc.Y:=
 (gd [decide ((0+List.length a0)*32<=140737488355328)] (.ok ⟨HD,(((),()),[]++a0,())⟩))
theorem ZL (pre:HE->Bool) (F:HE->OT pc.Y) (hF:∀ (x:HE) oy,pre x=true->(F x).run=some oy->(aeF x.1.1).run=some oy):aa aj 28 (pc.az pre F):=
 dh wz 28 Tryz.f28 pc [HD] bE (λx=>aeF x.1.1) hF
def dR (x:HE):Bool:=decide (x.1.1.length*32<=140737488355328)
def aeG (x:HE):OT pc.Y:=.ok ⟨HD,(((),()),x.1.1,())⟩
theorem aof:aa aj 28 (pc.az dR aeG):=ZL _ _ λx oy hp ho=>by
 rw [<-ho]
 have hp':x.1.1.length*32<=140737488355328:=bn hp
 refine (ae ?_).trans rfl
 simp only [aA,aI,aJ]
 exact ag (by omega)
def xv:bx:=(pc.az dR aeG)
theorem Tz:aa aj 28 xv:=aof
theorem Tx:ax xv:=av
def S4:Env:=aq 28 xv aiU
theorem EG:bU aj te S4:=aU follows wz Tz Tx
abbrev apb:Type:=(aB×Unit×mW)×ail
abbrev apc:Type:=nO×ail
section
variable (ok0:apb->Bool) (g0_0:apb->apc)
end
abbrev Uq:Type:=(aH×Int×UInt64×eS)×Unit
abbrev aaw:Type:=mV×Unit
section
variable (ok0:Uq->Bool) (g0_0:Uq->aaw)
end
abbrev M7:Type:=(aH×UInt64×Bool×Cg)×oY
abbrev Uz:Type:=(aH×UInt64×Bool×nO)×oX
abbrev M6:Type:=(aH×Cg)×oY
abbrev Uy:Type:=LB×oY
abbrev M5:Type:=LD×ap×ap×ap×ap×List (List Int)×Unit
abbrev Ux:Type:=nO×oX
abbrev M4:Type:=(Unit×mW)×oX
abbrev Uw:Type:=mT
section
variable (ok0:M7->Bool) (g0_0:M7->Uz) (ok2:M6->Bool) (g2_2:M6->Uy) (ok4:M5->Bool) (g4_4:M5->Ux) (ok6:M4->Bool) (g6_6:M4->Uw)
end
abbrev afO:Type:=(Int×aH×ru)×ul
abbrev akw:Type:=(Int×aH×ru)×ul
abbrev afN:Type:=(Int×mW)×ap×dp
abbrev akv:Type:=b8×dp
section
variable (ok0:afO->Bool) (g0_0:afO->akw) (ok2:afN->Bool) (g2_2:afN->akv)
end
def jy:af:=⟨[jK],[],true,0,false⟩
abbrev adk:Type:=fG×Unit
def tR:aL:=⟨[.own 0],[(0,fH)],false⟩
def Ok:SV->Option aL:=λ_=>some tR
def R8 (a0:aB):OT jy.Y:=
 (gd [decide (((0:Nat)+List.length a0)*(32:Nat)<=(140737488355328:Nat))] (.ok ⟨tR,(((),()),[]++a0,())⟩))
def asD:OT jy.Y:=.ok ⟨tR,(((),()),[],())⟩
theorem ayI (x:adk) (Q:jy.Y->Prop):wpf te S4 fR 1000 Tryz.f95 (jy.inp.inj x).tm (jy.inp.inj x).hp (fnK jy Ok Q) (λ_ _=>False)=
 Bool.rec (motive:=λ_=>Prop) ((R8 x.1.1).wpR Q) (asD.wpR Q/\(R8 x.1.1).wpR Q) (List.isEmpty x.1.1):=by kernel_rfl
def vS (x:adk):Bool:=decide (x.1.1.length*32<=140737488355328)
def aht (x:adk):OT jy.Y:=.ok ⟨tR,(((),()),x.1.1,())⟩
theorem asC:aa aj 95 (jy.az vS aht):=by
 refine ays Mb EG.ok EG.any (f:=95) (fn:=Tryz.f95) (c:=mK Tryz.f95) (by kernel_rfl) (by kernel_rfl) (by kernel_rfl) (S:=jy) (k:=0) (by kernel_rfl) (Λ:=fR) (λR hR=>Bl) (n:=1000) λx oy hp hr=>⟨fnK jy Ok (λz=>z=oy),λ_ _=>False,?_,λv hp hq=> ?_,λ_ _ hq=>hq.elim⟩
 ·refine (ayI x _).mpr ?_
  cases hr
  have hp':x.1.1.length*32<=140737488355328:=bn hp
  have h1:(R8 x.1.1).wpR (λz=>z=⟨tR,(((),()),x.1.1,())⟩):=by
   rw [OT.ES]
   refine OT.iV (ae ?_) rfl
   simp only [aA,aI,aJ]
   exact ag (by omega)
  cases hb:List.isEmpty x.1.1
  ·exact h1
  ·refine ⟨?_,h1⟩
   rw [List.isEmpty_iff.1 hb]
   rfl
 ·unfold fnK at hq
  split at hq
  ·rename_i o ho
   split at hq
   ·rename_i y hy
    subst hq
    exact ⟨by cases ho;rfl,hy⟩
   ·exact hq.elim
  ·exact hq.elim
def zx:bx:=(jy.az vS aht)
theorem Xl:aa aj 95 zx:=asC
theorem Xk:ax zx:=av
def ajf:Env:=aq 95 zx S4
theorem Pc:bU aj te ajf:=aU follows EG Xl Xk
def pg:af:=⟨[jK],[],true,0,false⟩
abbrev HK:Type:=fG×Unit
def HJ:aL:=⟨o0,[(0,.cells [kg]),(1,fH)],false⟩
def aeK (a0:aB):OT pg.Y:=
 (gd [vS ((a0,()),())] (.ok ⟨HJ,(((),()),((),()),a0,())⟩))
theorem ZZ (pre:HK->Bool) (F:HK->OT pg.Y) (hF:∀ (x:HK) oy,pre x=true->(F x).run=some oy->(aeK x.1.1).run=some oy):aa aj 36 (pg.az pre F):=
 dh Pc 36 Tryz.f36 pg [HJ] bE (λx=>aeK x.1.1) hF
def oe (x:HK):Bool:=decide (x.1.1.length*32<=140737488355328)
def aeL (x:HK):OT pg.Y:=.ok ⟨HJ,(((),()),((),()),x.1.1,())⟩
theorem aou:aa aj 36 (pg.az oe aeL):=ZZ _ _ λx oy hp ho=>by
 rw [<-ho]
 have hp':x.1.1.length*32<=140737488355328:=bn hp
 refine (ae ?_).trans rfl
 simp only [aA,aI,aJ]
 exact ag hp'
def xE:bx:=(rV [] 0 (pg.az oe aeL))
theorem TR:aa aj 36 xE:=(uL aou)
theorem TQ:ax xE:=(ng av)
def aiP:Env:=aq 36 xE ajf
theorem EH:bU aj te aiP:=aU follows Pc TR TQ
def xI:af:=⟨o0,[(0,Cs)],false,1,true⟩
abbrev TZ:Type:=b8×fG×Unit
def Gn:aL:=⟨kT,[(0,Cs)],false⟩
def aoy (c0_0:aB):OT xI.Y:=
 let z0:Nat:=List.length c0_0
 let z1:Int:=(↑z0:Int)
 let z2:ab:= {w0:=0,w1:=0,w2:=0,w3:=0}
 (.br (z1==(0:Int))
 (.ok ⟨Gn,((z2,(81:Int),()),(c0_0,()),())⟩)
 (gd [inB (0:Int) z0,cm (1:Int) z1 z0] (.ok ⟨Gn,((List.getD c0_0 0 z2,(0:Int),()),(List.drop 1 c0_0,()),())⟩)))
theorem ako (pre:TZ->Bool) (F:TZ->OT xI.Y) (hF:∀ (x:TZ) oy,pre x=true->(F x).run=some oy->(aoy x.2.1.1).run=some oy):aa aj 90 (xI.az pre F):=
 dh EH 90 Tryz.f90 xI [Gn] bE (λx=>aoy x.2.1.1) hF
def ao (l:aB):mU:=match l with
 | []=>(⟨0,0,0,0⟩,81,[])
 |x::r=>(x,0,r)
def og (x:TZ):Bool:=decide (x.2.1.1.length<=140737488355328)
def aoz (x:TZ):OT xI.Y:=.ok ⟨Gn,(((ao x.2.1.1).1,(ao x.2.1.1).2.1,()),((ao x.2.1.1).2.2,()),())⟩
theorem avO:aa aj 90 (xI.az og aoz):=ako _ _ λx oy hp ho=>by
 rw [<-ho]
 clear ho
 obtain ⟨⟨⟨⟩,⟨⟩⟩,⟨⟨l,⟨⟩⟩,⟨⟩⟩⟩:=x
 have hl:l.length<=140737488355328:=bn hp
 cases l with
 |nil=>rfl
 |cons y r=>
  have h0:(((y::r).length:Int)==0)=false:=by simp;omega
  refine (OT.au h0).trans ((ae ?_).trans rfl)
  simp only [List.length_cons] at hl⊢
  simp only [aA,aI,aJ,aw]
  exact ⟨ba (by omega),cF (by omega)⟩
def CY:bx:=(xI.az og aoz)
theorem aaa:aa aj 90 CY:=avO
theorem Z9:ax CY:=av
def pi:af:=⟨[.ptr 0 0 1],[(0,ur)],false,1,true⟩
abbrev HL:Type:=b8×jN×Unit
def AC:aL:=⟨kT,[(0,ur)],false⟩
def aeN (c0_0:Int) (c0_1:aB):OT pi.Y:=
 let z0:Nat:=List.length c0_1
 let z1:Int:=(↑z0:Int)
 let z2:ab:= {w0:=0,w1:=0,w2:=0,w3:=0}
 (.br (z1==(0:Int))
 (.ok ⟨AC,((z2,(81:Int),()),(c0_0,c0_1,()),())⟩)
 (gd [inB (0:Int) z0,cm (1:Int) z1 z0] (.ok ⟨AC,((List.getD c0_1 0 z2,(0:Int),()),(c0_0,List.drop 1 c0_1,()),())⟩)))
theorem Z8 (pre:HL->Bool) (F:HL->OT pi.Y) (hF:∀ (x:HL) oy,pre x=true->(F x).run=some oy->(aeN x.2.1.1 x.2.1.2.1).run=some oy):aa aj 90 (pi.az pre F):=
 dh EH 90 Tryz.f90 pi [AC] bE (λx=>aeN x.2.1.1 x.2.1.2.1) hF
def CX (x:HL):Bool:=decide (x.2.1.2.1.length<=140737488355328)
def aeO (x:HL):OT pi.Y:=.ok ⟨AC,(((ao x.2.1.2.1).1,(ao x.2.1.2.1).2.1,()),(x.2.1.1,(ao x.2.1.2.1).2.2,()),())⟩
theorem aox:aa aj 90 (pi.az CX aeO):=Z8 _ _ λx oy hp ho=>by
 rw [<-ho]
 clear ho
 obtain ⟨⟨⟨⟩,⟨⟩⟩,⟨⟨s,l,⟨⟩⟩,⟨⟩⟩⟩:=x
 have hl:l.length<=140737488355328:=bn hp
 cases l with
 |nil=>rfl
 |cons y r=>
  have h0:(((y::r).length:Int)==0)=false:=by simp;omega
  refine (OT.au h0).trans ((ae ?_).trans rfl)
  simp only [List.length_cons] at hl⊢
  simp only [aA,aI,aJ,aw]
  exact ⟨ba (by omega),cF (by omega)⟩
def xH:bx:=(atm CY (pi.az CX aeO))
theorem TY:aa aj 90 xH:=(ay2 aaa aox)
theorem TX:ax xH:=(am9 Z9 av)
def aiQ:Env:=aq 90 xH aiP
theorem O0:bU aj te aiQ:=aU follows EH TY TX
def xC:af:=⟨[eT,YE,iS],[(0,ur)],false,1,true⟩
abbrev TK:Type:=(Unit×UInt8×dp)×jN×Unit
def PI:aL:=⟨[],[(0,ur)],false⟩
def aom (a1:UInt8) (a2:aH) (c0_0:Int) (c0_1:aB):OT xC.Y:=
 (.ok ⟨PI,((),(c0_0,c0_1,()),())⟩)
theorem akh (pre:TK->Bool) (F:TK->OT xC.Y) (hF:∀ (x:TK) oy,pre x=true->(F x).run=some oy->(aom x.1.2.1 x.1.2.2.1 x.2.1.1 x.2.1.2.1).run=some oy):aa aj 221 (xC.az pre F):=
 dh O0 221 Tryz.f221 xC [PI] bE (λx=>aom x.1.2.1 x.1.2.2.1 x.2.1.1 x.2.1.2.1) hF
def TJ (_:TK):Bool:=true
def aon (x:TK):OT xC.Y:=.ok ⟨PI,((),(x.2.1.1,x.2.1.2.1,()),())⟩
theorem avK:aa aj 221 (xC.az TJ aon):=akh _ _ λx oy hp ho=>ho
def CU:bx:=(CZ 2 (xC.az TJ aon))
theorem ZT:aa aj 221 CU:=(MS avK)
theorem ZS:ax CU:=(EW av)
def auF:Env:=aq 221 CU aiQ
theorem YP:bU aj te auF:=aU follows O0 ZT ZS
def pj:af:=⟨o0,[(0,ur)],false,1,true⟩
abbrev HM:Type:=b8×jN×Unit
def AD:aL:=⟨kT,[(0,ur)],false⟩
def aeP (c0_0:Int) (c0_1:aB):OT pj.Y:=
 let z0:mU:=ao c0_1
 let z1:ab:= {w0:=0,w1:=0,w2:=0,w3:=0}
 let z2:=z0.snd
 let z3:=z2.fst
 let z4:=z2.snd
 (gd [CX (((),()),(c0_0,c0_1,()),())] (.br (ac c0_0)
 (.ok ⟨AD,((dr (pS c0_0) z0.fst z1,z3,()),(c0_0,z4,()),())⟩)
 (.ok ⟨AD,((z1,z3,()),(c0_0,z4,()),())⟩)))
theorem aab (pre:HM->Bool) (F:HM->OT pj.Y) (hF:∀ (x:HM) oy,pre x=true->(F x).run=some oy->(aeP x.2.1.1 x.2.1.2.1).run=some oy):aa aj 220 (pj.az pre F):=
 dh YP 220 Tryz.f220 pj [AD] bE (λx=>aeP x.2.1.1 x.2.1.2.1) hF
def uK (x:HM):Bool:=ac x.2.1.1&&decide (x.2.1.2.1.length<=140737488355328)
def aeQ (x:HM):OT pj.Y:=.ok ⟨AD,((dr (pS x.2.1.1) (ao x.2.1.2.1).1 ⟨0,0,0,0⟩,(ao x.2.1.2.1).2.1,()),(x.2.1.1,(ao x.2.1.2.1).2.2,()),())⟩
theorem aoA:aa aj 220 (pj.az uK aeQ):=aab _ _ λx oy hp ho=>by
 rw [<-ho]
 clear ho
 obtain ⟨⟨⟨⟩,⟨⟩⟩,⟨⟨s,l,⟨⟩⟩,⟨⟩⟩⟩:=x
 have hp':(ac s&&decide (l.length<=140737488355328))=true:=hp
 rw [aw] at hp'
 refine (ae ?_).trans ((OT.ak hp'.1).trans rfl)
 simp only [aA,aI,aJ]
 exact hp'.2
def xJ:bx:=(pj.az uK aeQ)
theorem T3:aa aj 220 xJ:=aoA
theorem T0:ax xJ:=av
def aiR:Env:=aq 220 xJ auF
theorem O1:bU aj te aiR:=aU follows YP T3 T0
def xG:af:=⟨[aD,YI],[],true,0,false⟩
abbrev TV:Type:=(Int×xb×Unit)×Unit
def iY:aL:=⟨[.fD,aD],[],false⟩
def AB:aL:=⟨[.ifp 165 0,aD],[aiy,(1,fH)],false⟩
def AA:aL:=⟨[.ifp 171 0,aD],[(0,.cells [aD,im]),(1,.cells [aD,aQ,aQ,aQ,aQ,aQ,aQ,aQ,aQ,.own 2,aQ]),zX],false⟩
def Z6 (a0:Int) (a1:xb):OT xG.Y:=
 let z0:Bool:=decide ((100000:Int)<(↑(List.length a1.snd):Int))
 let z1:Bool:=vS ((a1.snd,()),())
 let z2:Int:=ay a0 (1:Int)
 (.br (decide (a0<(0:Int)))
 (.ok ⟨iY,(((),(40:Int),()),())⟩)
 (.br (decide ((3:Int)<a0))
  (.ok ⟨iY,(((),(40:Int),()),())⟩)
  (.br (!a1.fst==(0:Int))
   (.br (!a1.fst==(1:Int))
    (.ok ⟨iY,(((),(80:Int),()),())⟩)
    (.br (z0)
     (.ok ⟨iY,(((),(81:Int),()),())⟩)
     (.br (a1.fst==(1:Int))
      (gd [z1] (.ok ⟨AB,(((),(0:Int),()),(z2,(),()),a1.snd,())⟩))
      (.ok ⟨AA,(((),(0:Int),()),(z2,(),()),((64:Int),(7640891576939301192:UInt64),(13503953896175478587:UInt64),(4354685564936845355:UInt64),(11912009170470909681:UInt64),(5840696475078001361:UInt64),(11170449401992604703:UInt64),(7924071207369364504:UInt64),(3427420097777323800:UInt64),(),(0:UInt64),()),[],())⟩))))
   (.br (z0)
    (.ok ⟨iY,(((),(81:Int),()),())⟩)
    (.br (a1.fst==(1:Int))
     (gd [z1] (.ok ⟨AB,(((),(0:Int),()),(z2,(),()),a1.snd,())⟩))
     (.ok ⟨AA,(((),(0:Int),()),(z2,(),()),((64:Int),(7640891576939301192:UInt64),(13503953896175478587:UInt64),(4354685564936845355:UInt64),(11912009170470909681:UInt64),(5840696475078001361:UInt64),(11170449401992604703:UInt64),(7924071207369364504:UInt64),(3427420097777323800:UInt64),(),(0:UInt64),()),[],())⟩))))))
theorem akm (pre:TV->Bool) (F:TV->OT xG.Y) (hF:∀ (x:TV) oy,pre x=true->(F x).run=some oy->(Z6 x.1.1 x.1.2.1).run=some oy):aa aj 54 (xG.az pre F):=
 dh O1 54 Tryz.f54 xG [iY,AB,AA] bE (λx=>Z6 x.1.1 x.1.2.1) hF
def cl (c mode:Int) (n:Nat):Int:=cond (ac c) (cond ((mode==0)||(mode==1)) (cond (decide ((100000:Int)<(n:Int))) 81 0) 80) 40
def PS:OV:=(64,7640891576939301192,13503953896175478587,4354685564936845355,11912009170470909681,5840696475078001361,11170449401992604703,7924071207369364504,3427420097777323800,(),0,())
def TU (_:TV):Bool:=true
def iZ (x:TV):OT xG.Y:=.br (cl x.1.1 x.1.2.1.1 x.1.2.1.2.length==0)
 (.br (x.1.2.1.1==1) (.ok ⟨AB,(((),(0:Int),()),(ay x.1.1 1,(),()),x.1.2.1.2,())⟩) (.ok ⟨AA,(((),(0:Int),()),(ay x.1.1 1,(),()),PS,[],())⟩))
 (.ok ⟨iY,(((),cl x.1.1 x.1.2.1.1 x.1.2.1.2.length,()),())⟩)
theorem avN:aa aj 54 (xG.az TU iZ):=akm _ _ λx oy _ ho=>by
 rw [<-ho]
 clear ho
 obtain ⟨⟨c,⟨mode,l⟩,⟨⟩⟩,⟨⟩⟩:=x
 unfold Z6
 cases hs:ac c
 ·have he:cl c mode l.length=40:=by unfold cl;rw [hs];rfl
  have hF:(iZ ((c,(mode,l),()),())).run=some ⟨iY,(((),(40:Int),()),())⟩:=by
   unfold iZ
   rw [he]
   rfl
  rw [hF]
  by_cases h1:c<0
  ·exact OT.ak (ag h1)
  ·refine (OT.au (bq h1)).trans (OT.ak (ag ?_))
   by_cases h2:3<c
   ·exact h2
   ·have:ac c=true:=by
     simp only [ac,aw,decide_eq_true_eq]
     omega
    rw [this] at hs;cases hs
 ·have hc:0<=c/\c<4:=by simpa [ac] using hs
  refine (OT.au (bq (by dsimp only;omega))).trans ((OT.au (bq (by dsimp only;omega))).trans ?_)
  by_cases h0:mode=0
  ·subst h0
   refine (OT.au rfl).trans ?_
   cases hl:decide ((100000:Int)<(l.length:Int))
   ·have he:cl c 0 l.length=0:=by unfold cl;rw [hs,hl];rfl
    have hF:(iZ ((c,(0,l),()),())).run=some ⟨AA,(((),(0:Int),()),(ay c 1,(),()),PS,[],())⟩:=by
     unfold iZ
     rw [he]
     rfl
    rw [hF]
    exact (OT.au rfl).trans ((OT.au rfl).trans rfl)
   ·have he:cl c 0 l.length=81:=by unfold cl;rw [hs,hl];rfl
    have hF:(iZ ((c,(0,l),()),())).run=some ⟨iY,(((),(81:Int),()),())⟩:=by
     unfold iZ
     rw [he]
     rfl
    rw [hF]
    exact (OT.ak rfl).trans rfl
  ·by_cases h1:mode=1
   ·subst h1
    refine (OT.ak rfl).trans ((OT.au rfl).trans ?_)
    cases hl:decide ((100000:Int)<(l.length:Int))
    ·have he:cl c 1 l.length=0:=by unfold cl;rw [hs,hl];rfl
     have hF:(iZ ((c,(1,l),()),())).run=some ⟨AB,(((),(0:Int),()),(ay c 1,(),()),l,())⟩:=by
      unfold iZ
      rw [he]
      rfl
     rw [hF]
     refine (OT.au rfl).trans ((OT.ak rfl).trans ((ae ?_).trans rfl))
     have hl':¬(100000:Int)<(l.length:Int):=of_decide_eq_false hl
     simp only [aA,aI,aJ]
     exact ag (show l.length*32<=140737488355328 by omega)
    ·have he:cl c 1 l.length=81:=by unfold cl;rw [hs,hl];rfl
     have hF:(iZ ((c,(1,l),()),())).run=some ⟨iY,(((),(81:Int),()),())⟩:=by
      unfold iZ
      rw [he]
      rfl
     rw [hF]
     exact (OT.ak rfl).trans rfl
   ·have b0:(mode==0)=false:=by simpa using h0
    have b1:(mode==1)=false:=by simpa using h1
    have he:cl c mode l.length=80:=by unfold cl;rw [hs,b0,b1];rfl
    have hF:(iZ ((c,(mode,l),()),())).run=some ⟨iY,(((),(80:Int),()),())⟩:=by
     unfold iZ
     rw [he]
     rfl
    rw [hF]
    exact (OT.ak (by simp [b0])).trans ((OT.ak (by simp [b1])).trans rfl)
def CW:bx:=(xG.az TU iZ)
theorem Z5:aa aj 54 CW:=avN
theorem Z4:ax CW:=av
def auG:Env:=aq 54 CW aiR
theorem Cx:bU aj te auG:=aU follows O1 Z5 Z4
def lB:af:=⟨[aD,YI],[],true,0,false⟩
abbrev xB:Type:=(Int×xb×Unit)×Unit
def Av:aL:=⟨FQ,aBg,false⟩
def HG:aL:=⟨FQ,aBp,false⟩
def Au:aL:=⟨[.rK,aD],[],false⟩
def TF:aL:=⟨FQ,[(0,.cells [aD,.fD,kg]),nQ],false⟩
def PG (a0:Int) (a1:xb):OT lB.Y:=
 let z0:Int:=cl a0 a1.fst (List.length a1.snd)
 let z1:Int:=ay a0 (1:Int)
 (.br (z0==(0:Int))
 (.br (a1.fst==(1:Int))
  (.ok ⟨Av,(((),(0:Int),()),(a0,(),(),()),(z1,(),()),[],a1.snd,())⟩)
  (.ok ⟨HG,(((),(0:Int),()),(a0,(),(),()),(z1,(),()),[],((64:Int),(7640891576939301192:UInt64),(13503953896175478587:UInt64),(4354685564936845355:UInt64),(11912009170470909681:UInt64),(5840696475078001361:UInt64),(11170449401992604703:UInt64),(7924071207369364504:UInt64),(3427420097777323800:UInt64),(),(0:UInt64),()),[],())⟩))
 (.br (!z0==(0:Int))
  (.ok ⟨Au,(((),z0,()),())⟩)
  (.ok ⟨TF,(((),(0:Int),()),(a0,(),(),()),[],())⟩)))
theorem ZQ (pre:xB->Bool) (F:xB->OT lB.Y) (hF:∀ (x:xB) oy,pre x=true->(F x).run=some oy->(PG x.1.1 x.1.2.1).run=some oy):aa aj 34 (lB.az pre F):=
 dh Cx 34 Tryz.f34 lB [Av,HG,Au,TF] bE (λx=>PG x.1.1 x.1.2.1) hF
def akf (_:xB):Bool:=true
def PH (x:xB):OT lB.Y:=.br (cl x.1.1 x.1.2.1.1 x.1.2.1.2.length==0)
 (.br (x.1.2.1.1==1) (.ok ⟨Av,(((),(0:Int),()),(x.1.1,(),(),()),(ay x.1.1 1,(),()),[],x.1.2.1.2,())⟩)
  (.ok ⟨HG,(((),(0:Int),()),(x.1.1,(),(),()),(ay x.1.1 1,(),()),[],PS,[],())⟩))
 (.ok ⟨Au,(((),cl x.1.1 x.1.2.1.1 x.1.2.1.2.length,()),())⟩)
theorem aol:aa aj 34 (lB.az akf PH):=ZQ _ _ λx oy _ ho=>by
 rw [<-ho]
 clear ho
 obtain ⟨⟨c,⟨mode,l⟩,⟨⟩⟩,⟨⟩⟩:=x
 unfold PG PH
 by_cases he:(cl c mode l.length==0)=true
 ·refine (OT.ak he).trans (Eq.trans ?_ (OT.ak he).symm)
  by_cases hm:(mode==1)=true
  ·exact (OT.ak hm).trans (OT.ak hm).symm
  ·have hm:=Bool.eq_false_iff.2 hm
   exact (OT.au hm).trans (OT.au hm).symm
 ·have he:=Bool.eq_false_iff.2 he
  exact (OT.au he).trans ((OT.ak (by show (!(cl c mode l.length==0))=true;rw [he];rfl)).trans (OT.au he).symm)
def xL:af:=⟨o0,uv,false,3,true⟩
abbrev T7:Type:=b8×OS
def PR:aL:=⟨kT,uv,false⟩
def aoQ (c0_0:Int) (c1_0:Int) (c1_1:aB) (c2:aH):OT xL.Y:=
 let z0:mU:=ao c1_1
 let z1:=z0.snd
 (gd [uK (((),()),(c1_0,c1_1,()),())] (.ok ⟨PR,((dr (pS c1_0) z0.fst {w0:=0,w1:=0,w2:=0,w3:=0},z1.fst,()),(c0_0,(),(),()),(c1_0,z1.snd,()),c2,())⟩))
theorem akp (pre:T7->Bool) (F:T7->OT xL.Y) (hF:∀ (x:T7) oy,pre x=true->(F x).run=some oy->(aoQ x.2.1.1 x.2.2.1.1 x.2.2.1.2.1 x.2.2.2.1).run=some oy):aa aj 65 (xL.az pre F):=
 dh Cx 65 Tryz.f65 xL [PR] bE (λx=>aoQ x.2.1.1 x.2.2.1.1 x.2.2.1.2.1 x.2.2.2.1) hF
def rW (x:T7):Bool:=ac x.2.2.1.1&&decide (x.2.2.1.2.1.length<=140737488355328)
def aoR (x:T7):OT xL.Y:=.ok ⟨PR,((dr (pS x.2.2.1.1) (ao x.2.2.1.2.1).1 ⟨0,0,0,0⟩,(ao x.2.2.1.2.1).2.1,()),(x.2.1.1,(),(),()),(x.2.2.1.1,(ao x.2.2.1.2.1).2.2,()),x.2.2.2.1,())⟩
theorem awv:aa aj 65 (xL.az rW aoR):=akp _ _ λx oy hp ho=>by
 rw [<-ho]
 clear ho
 obtain ⟨⟨⟨⟩,⟨⟩⟩,⟨⟨c,⟨⟩,⟨⟩,⟨⟩⟩,⟨s,l,⟨⟩⟩,o,⟨⟩⟩⟩:=x
 refine (ae ?_).trans rfl
 simp only [aA,aI,aJ]
 exact hp
def C1:bx:=(xL.az rW aoR)
theorem aaf:aa aj 65 C1:=awv
theorem aae:ax C1:=av
def HH:af:=⟨[eT,YE,iS],uv,false,2,true⟩
abbrev aop:Type:=(Unit×UInt8×dp)×OS
def ZV:aL:=⟨[],uv,false⟩
def azZ (a1:UInt8) (a2:aH) (c0_0:Int) (c1_0:Int) (c1_1:aB) (c2:aH):OT HH.Y:=
 (gd [decide ((List.length c2+List.length a2)*1<=140737488355328)] (.ok ⟨ZV,((),(c0_0,(),(),()),(c1_0,c1_1,()),c2++a2,())⟩))
theorem aoo (pre:aop->Bool) (F:aop->OT HH.Y) (hF:∀ (x:aop) oy,pre x=true->(F x).run=some oy->(azZ x.1.2.1 x.1.2.2.1 x.2.1.1 x.2.2.1.1 x.2.2.1.2.1 x.2.2.2.1).run=some oy):aa aj 136 (HH.az pre F):=
 dh Cx 136 Tryz.f136 HH [ZV] bE (λx=>azZ x.1.2.1 x.1.2.2.1 x.2.1.1 x.2.2.1.1 x.2.2.1.2.1 x.2.2.2.1) hF
def pe (x:aop):Bool:=decide (x.2.2.2.1.length+x.1.2.2.1.length<=140737488355328)
def az0 (x:aop):OT HH.Y:=.ok ⟨ZV,((),(x.2.1.1,(),(),()),(x.2.2.1.1,x.2.2.1.2.1,()),x.2.2.2.1++x.1.2.2.1,())⟩
theorem aCr:aa aj 136 (HH.az pe az0):=aoo _ _ λx oy hp ho=>by
 rw [<-ho]
 clear ho
 obtain ⟨⟨⟨⟩,m,b,⟨⟩⟩,⟨⟨c,⟨⟩,⟨⟩,⟨⟩⟩,⟨s,l,⟨⟩⟩,o,⟨⟩⟩⟩:=x
 have hp':o.length+b.length<=140737488355328:=bn hp
 refine (ae ?_).trans rfl
 simp only [aA,aI,aJ]
 exact ag (by omega)
def Ax:bx:=(CZ 2 (HH.az pe az0))
theorem MP:aa aj 136 Ax:=(MS aCr)
theorem MO:ax Ax:=(EW av)
def aBD:Env:=aq 136 Ax auG
theorem S5:bU aj te aBD:=aU follows Cx MP MO
def iX:af:=⟨[eT,du],uv,false,2,true⟩
abbrev Aw:Type:=(Unit×oV)×OS
def jS:aL:=⟨[],uv,false⟩
def TM (a1:ab) (c0_0:Int) (c1_0:Int) (c1_1:aB) (c2:aH):OT iX.Y:=
 let z0:Int:=ay c0_0 (1:Int)
 let z1:aH:=zw (ofN (ab.nat a1%ab.nat (numOf (Int.toNat z0)).fst))
 let z2:(Int×Cf)×LF×FK:=((c0_0,(),(),()),(c1_0,c1_1,()),c2,())
 (.br (ac z0)
 (gd [pe (((),(2:UInt8),z1,()),z2)] (.ok ⟨jS,((),(c0_0,(),(),()),(c1_0,c1_1,()),c2++z1,())⟩))
 (gd [pe (((),(2:UInt8),[],()),z2)] (.ok ⟨jS,((),(c0_0,(),(),()),(c1_0,c1_1,()),c2++ [],())⟩)))
theorem TL (pre:Aw->Bool) (F:Aw->OT iX.Y) (hF:∀ (x:Aw) oy,pre x=true->(F x).run=some oy->(TM x.1.2.1 x.2.1.1 x.2.2.1.1 x.2.2.1.2.1 x.2.2.2.1).run=some oy):aa aj 94 (iX.az pre F):=
 dh S5 94 Tryz.f94 iX [jS] bE (λx=>TM x.1.2.1 x.2.1.1 x.2.2.1.1 x.2.2.1.2.1 x.2.2.2.1) hF
def lC (c:Int) (v:ab):aH:=zw (ofN (v.nat%(numOf (ay c 1).toNat).1.nat))
theorem EY (c:Int) (v:ab):(lC c v).length=32:=j9 _
def pd (x:Aw):Bool:=ac (ay x.2.1.1 1)&&decide (x.2.2.2.1.length<=140737488350000)
def TN (x:Aw):OT iX.Y:=.ok ⟨jS,((),(x.2.1.1,(),(),()),(x.2.2.1.1,x.2.2.1.2.1,()),x.2.2.2.1++lC x.2.1.1 x.1.2.1,())⟩
theorem ZU (c s:Int) (l:aB) (o b:aH) (k:Bool) (hk:k=true) (hb:b.length=32) (ho:o.length<=140737488350000):
 (OT.br k (gd [pe (((),(2:UInt8),b,()),(c,(),(),()),(s,l,()),o,())] (.ok ⟨jS,((),(c,(),(),()),(s,l,()),o++b,())⟩))
  (gd [pe (((),(2:UInt8),[],()),(c,(),(),()),(s,l,()),o,())] (.ok ⟨jS,((),(c,(),(),()),(s,l,()),o++ [],())⟩)):OT iX.Y).run
 =(OT.ok ⟨jS,((),(c,(),(),()),(s,l,()),o++b,())⟩:OT iX.Y).run:=by
 refine (OT.ak hk).trans (ae ?_)
 simp only [aA,aI,aJ]
 exact ag (by dsimp only;omega)
theorem aki:aa aj 94 (iX.az pd TN):=TL _ _ λx oy hp ho=>by
 rw [<-ho]
 clear ho
 obtain ⟨⟨⟨⟩,v,⟨⟩⟩,⟨⟨c,⟨⟩,⟨⟩,⟨⟩⟩,⟨s,l,⟨⟩⟩,o,⟨⟩⟩⟩:=x
 have hp':(ac (ay c 1)&&decide (o.length<=140737488350000))=true:=hp
 rw [aw] at hp'
 have ho':=bn hp'.2
 exact ZU c s l o (lC c v) (ac (ay c 1)) hp'.1 (j9 _) ho'
def rS:bx:=(iX.az pd TN)
theorem PK:aa aj 94 rS:=aki
theorem PJ:ax rS:=av
def pn:af:=⟨o0,uv,false,3,true⟩
abbrev HS:Type:=b8×OS
def HR:aL:=⟨[.own 3],[aut,kU,zX,(3,jQ)],false⟩
def afy (c0_0:Int) (c1_0:Int) (c1_1:aB) (c2:aH):OT pn.Y:=
 (gd [eH ((c2,()),())] (.ok ⟨HR,(((),()),(c0_0,(),(),()),(c1_0,c1_1,()),c2,c2,())⟩))
theorem aag (pre:HS->Bool) (F:HS->OT pn.Y) (hF:∀ (x:HS) oy,pre x=true->(F x).run=some oy->(afy x.2.1.1 x.2.2.1.1 x.2.2.1.2.1 x.2.2.2.1).run=some oy):aa aj 37 (pn.az pre F):=
 dh S5 37 Tryz.f37 pn [HR] bE (λx=>afy x.2.1.1 x.2.2.1.1 x.2.2.1.2.1 x.2.2.2.1) hF
def C2 (x:HS):Bool:=eH ((x.2.2.2.1,()),())
def afz (x:HS):OT pn.Y:=.ok ⟨HR,(((),()),(x.2.1.1,(),(),()),(x.2.2.1.1,x.2.2.1.2.1,()),x.2.2.2.1,x.2.2.2.1,())⟩
theorem aoS:aa aj 37 (pn.az C2 afz):=aag _ _ λx oy hp ho=>by
 rw [<-ho]
 clear ho
 obtain ⟨⟨⟨⟩,⟨⟩⟩,⟨⟨c,⟨⟩,⟨⟩,⟨⟩⟩,⟨s,l,⟨⟩⟩,o,⟨⟩⟩⟩:=x
 refine ae ?_
 simp only [aA,aI,aJ]
 exact hp
def xM:bx:=(pn.az C2 afz)
theorem T9:aa aj 37 xM:=aoS
theorem T8:ax xM:=av
def DU:bx:=C1
theorem aco:aa aj 65 DU:=aaf
theorem acn:ax DU:=aae
def J1:bx:=Ax
theorem alY:aa aj 136 J1:=MP
theorem alX:ax J1:=MO
def aBJ:Env:=aq 136 J1 aBD
theorem azI:bU aj te aBJ:=aU follows S5 alY alX
def tf:bx:=rS
theorem Rt:aa aj 94 tf:=PK
theorem Rs:ax tf:=PJ
def Y7:Env:=aq 94 tf aBJ
theorem aei:bU aj te Y7:=aU follows azI Rt Rs
def zi:bx:=xM
theorem Ww:aa aj 37 zi:=T9
theorem Wv:ax zi:=T8
def ai8:Env:=aq 37 zi Y7
theorem EN:bU aj te ai8:=aU follows aei Ww Wv
def kh:af:=⟨[eT,xj],uv,false,2,true⟩
abbrev xF:Type:=(Unit×rp)×OS
def ku:aL:=⟨jG,uv,false⟩
def Gm (a1:cI) (c0_0:Int) (c1_0:Int) (c1_1:aB) (c2:aH):OT kh.Y:=
 let z0:aH:=jJ c0_0 a1
 (.br (!onB c0_0 a1)
 (.ok ⟨ku,(((41:Int),()),(c0_0,(),(),()),(c1_0,c1_1,()),c2,())⟩)
 (gd [pe (((),(1:UInt8),z0,()),(c0_0,(),(),()),(c1_0,c1_1,()),c2,())] (.ok ⟨ku,(((0:Int),()),(c0_0,(),(),()),(c1_0,c1_1,()),c2++z0,())⟩)))
theorem Z0 (pre:xF->Bool) (F:xF->OT kh.Y) (hF:∀ (x:xF) oy,pre x=true->(F x).run=some oy->(Gm x.1.2.1 x.2.1.1 x.2.2.1.1 x.2.2.1.2.1 x.2.2.2.1).run=some oy):aa aj 92 (kh.az pre F):=
 dh EN 92 Tryz.f92 kh [ku] bE (λx=>Gm x.1.2.1 x.2.1.1 x.2.2.1.1 x.2.2.1.2.1 x.2.2.2.1) hF
theorem awF {b:List UInt8} (y:ab) (h:b.length=32):(rZ b y).length=32:=by
 unfold rZ
 rw [cy]
 exact h
theorem tQ {c:Int} {P:Pt} (h:onB c P=true):(jJ c P).length=32:=by
 have e:=j9 (ofP (pS c) P.1)
 unfold jJ
 generalize zw (ofP (pS c) P.1)=B at e
 rw [h,aK]
 exact awF _ e
def CV (x:xF):Bool:=decide (x.2.2.2.1.length<=140737488350000)
def avM (x:xF):OT kh.Y:=.br (onB x.2.1.1 x.1.2.1) (.ok ⟨ku,(((0:Int),()),(x.2.1.1,(),(),()),(x.2.2.1.1,x.2.2.1.2.1,()),x.2.2.2.1++jJ x.2.1.1 x.1.2.1,())⟩)
 (.ok ⟨ku,(((41:Int),()),(x.2.1.1,(),(),()),(x.2.2.1.1,x.2.2.1.2.1,()),x.2.2.2.1,())⟩)
theorem Z3 {c s:Int} {P:Pt} {l:List ab} {o B:List UInt8} (hB:jJ c P=B) (hl:onB c P=true->B.length=32) (ho:o.length<=140737488350000):(Gm P c s l o).run=(OT.br (onB c P) (.ok ⟨ku,(((0:Int),()),(c,(),(),()),(s,l,()),o++B,())⟩)
 (.ok ⟨ku,(((41:Int),()),(c,(),(),()),(s,l,()),o,())⟩):OT kh.Y).run:=by
 unfold Gm
 simp only [hB]
 rcases (b9 (onB c P)).symm with h|h
 ·exact (OT.ak (b:= !onB c P) (by rw [h];rfl)).trans (OT.au (b:=onB c P) h).symm
 ·refine (OT.au (b:= !onB c P) (by rw [h];rfl)).trans (Eq.trans ((ae ?_).trans rfl) (OT.ak (b:=onB c P) h).symm)
  simp only [aA,aI,aJ]
  exact ag (by have:=hl h;show o.length+B.length<=_;omega)
theorem aov:aa aj 92 (kh.az CV avM):=Z0 _ _ λx oy hp ho=>by
 rw [<-ho]
 clear ho
 obtain ⟨⟨⟨⟩,P,⟨⟩⟩,⟨⟨c,⟨⟩,⟨⟩,⟨⟩⟩,⟨s,l,⟨⟩⟩,o,⟨⟩⟩⟩:=x
 have key:=Z3 (c:=c) (s:=s) (P:=P) (l:=l) (o:=o) (B:=jJ c P) (Eq.refl (jJ c P)) tQ (bn hp)
 exact key
def mJ:af:=⟨[YI],[],false,0,false⟩
abbrev BX:Type:=(xb×Unit)×Unit
def Ej:aL:=⟨[YI],[],false⟩
def Xt (a0:xb):OT mJ.Y:=
 (gd [dR ((a0.snd,()),())] (.ok ⟨Ej,((a0,()),())⟩))
theorem Xs (pre:BX->Bool) (F:BX->OT mJ.Y) (hF:∀ (x:BX) oy,pre x=true->(F x).run=some oy->(Xt x.1.1).run=some oy):aa aj 16 (mJ.az pre F):=
 dh EN 16 Tryz.f16 mJ [Ej] bE (λx=>Xt x.1.1) hF
def gR (x:BX):Bool:=decide (x.1.1.2.length*32<=140737488355328)
def Xu (x:BX):OT mJ.Y:=.ok ⟨Ej,((x.1.1,()),())⟩
theorem amP:aa aj 16 (mJ.az gR Xu):=Xs _ _ λx oy hp ho=>by
 rw [<-ho]
 clear ho
 refine (ae ?_).trans rfl
 simp only [aA,aI,aJ]
 exact hp
def tU:bx:=(Ke 0 1 (mJ.az gR Xu))
theorem Se:aa aj 16 tU:=(Kd amP)
theorem Sd:ax tU:=(zk av)
def L3:Env:=aq 16 tU ai8
theorem rc:bU aj te L3:=aU follows EN Se Sd
abbrev Ik:Type:=YC
abbrev Qg:Type:=mT
section
variable (ok0:Ik->Bool) (g0_0:Ik->Qg)
end
abbrev Ij:Type:=air×oX
abbrev Qf:Type:=aio
section
variable (ok0:Ij->Bool) (g0_0:Ij->Qf)
end
abbrev Na:Type:=(Unit×Unit×Int×UInt64×eS)×ap×List Int×Unit
abbrev UJ:Type:=mW×ap×List Int×Unit
section
variable (ok2:Na->Bool) (g2_2:Na->UJ)
end
abbrev UI:Type:=Cg×ap×ap×List Int×ul
abbrev aaL:Type:=mT
section
variable (ok0:UI->Bool) (g0_0:UI->aaL)
end
end
section
namespace Sx
open Go
def Kc (k:Nat) (s:bx):bx:=⟨true,λd args hp=>match args.getD k .gu with
 |.own c e=>match eu hp c e with
  |some (.row t xs)=>(s.f d args (cO hp [(c,⟨e,.frz t xs⟩)])).map (Out.after [(c,⟨e,.frz t xs⟩)])
  |some _=>s.f d args hp
  |none=>.fail
 |_=>s.f d args hp⟩
theorem Kb {P:Program} {f:FuncId} {s:bx} {k:Nat} (h:aa P f s):aa P f (Kc k s):=by
 refine ⟨λR w d args vs out hm hr hrun=> ?_⟩
 simp only [Kc] at hrun
 split at hrun
 ·rename_i c e hce
  split at hrun
  ·rename_i t xs hc
   obtain ⟨out',h1,rfl⟩:=OT.run_map hrun
   obtain ⟨R1,ha⟩:=N0 hm (bT hc)
   rw [<-show R1.hp=cO R.hp [(c,⟨e,.frz t xs⟩)] from ha.hp] at h1
   have hr1:SV.bz R1 args vs:=SV.eZ ha.ext _ _ hr
   have hpost:∀ en w',iH R1 out' en w'->iH R (Out.after [(c,⟨e,.frz t xs⟩)] out') en w':=λen w' hp=>by
    cases out' with
    |ret q=>
     obtain ⟨v,R',h2,h3,h4⟩:=hp
     exact ⟨v,R',h2,ha.trans h3,h4⟩
    |pan q u=>
     obtain ⟨v,R',h2,h3,h4⟩:=hp
     exact ⟨v,R',h2,ha.trans h3,h4⟩
   rcases h.calls R1 w d _ vs out' ha.mem hr1 h1 with ⟨fn,f1,f2,f3,hcl⟩|⟨v,w',hv,hp⟩
   ·exact .inl ⟨fn,f1,f2,f3,hcl.mono hpost⟩
   ·exact .inr ⟨v,w',hv,hpost _ _ hp⟩
  ·exact h.calls R w d args vs out hm hr hrun
  ·cases hrun
 ·exact h.calls R w d args vs out hm hr hrun
theorem zj {s:bx} {k:Nat} (h:ax s):ax (Kc k s):=λd args hp hp' out hg hrun=>by
 simp only [Kc] at hrun⊢
 split at hrun
 ·split at hrun
  ·rename_i t xs hc
   rw [bO hg hc]
   simp only
   obtain ⟨out',h1,rfl⟩:=OT.run_map hrun
   refine Dw (h d _ _ _ out' ⟨λn ch hn=> ?_,λn hn hn0=> ?_⟩ h1)
   ·simp only [cO] at hn⊢
    split
    ·rename_i h2;rw [if_pos h2] at hn;exact hn
    ·rename_i h2;rw [if_neg h2] at hn;exact hg.mB _ _ hn
   ·simp only [cO] at hn0⊢
    split
    ·rename_i h2;rw [if_pos h2] at hn0;cases hn0
    ·rename_i h2;rw [if_neg h2] at hn0;exact hg.free _ hn hn0
  ·rename_i b hnr hc
   rw [bO hg hc]
   cases b<;>first|exact h _ _ _ _ _ hg hrun|exact absurd rfl (hnr _ _)
  ·cases hrun
 ·exact h _ _ _ _ _ hg hrun
end Sx
end
section
open Sx Go
set_option maxRecDepth 100000
def pk:af:=⟨o0,uv,false,3,true⟩
abbrev HQ:Type:=b8×OS
def HP:aL:=⟨jG,uv,false⟩
def afw (c0_0:Int) (c1_0:Int) (c1_1:aB) (c2:aH):OT pk.Y:=
 (.ok ⟨HP,((c0_0,()),(c0_0,(),(),()),(c1_0,c1_1,()),c2,())⟩)
theorem aad (pre:HQ->Bool) (F:HQ->OT pk.Y) (hF:∀ (x:HQ) oy,pre x=true->(F x).run=some oy->(afw x.2.1.1 x.2.2.1.1 x.2.2.1.2.1 x.2.2.2.1).run=some oy):aa aj 59 (pk.az pre F):=
 dh rc 59 Tryz.f59 pk [HP] bE (λx=>afw x.2.1.1 x.2.2.1.1 x.2.2.1.2.1 x.2.2.2.1) hF
def MT (_:HQ):Bool:=true
def afx (x:HQ):OT pk.Y:=.ok ⟨HP,((x.2.1.1,()),x.2)⟩
theorem aoP:aa aj 59 (pk.az MT afx):=aad _ _ λx oy hp ho=>by
 rw [<-ho]
 rfl
def xK:bx:=(pk.az MT afx)
theorem T6:aa aj 59 xK:=aoP
theorem T5:ax xK:=av
def zh:bx:=xK
theorem Wu:aa aj 59 zh:=T6
theorem Wt:ax zh:=T5
def apP (c:Code):Array Oper:=match c with
 |.seq (.region _ ops _) _=>ops
 |_=> #[]
def apO (c:Code):Array Oper:=match c with
 |.seq _ (.seq (.region _ ops _) _)=>ops
 |_=> #[]
theorem aDh:(Tryz.f133).body=some (.seq (.region 0 (apP (mK Tryz.f133)) false) (.seq (.region 1 (apO (mK Tryz.f133)) false) .ret)):=by kernel_rfl
theorem aDg (x:SV): [x]++List.replicate ((Tryz.f133).ntmps- [x].length) SV.undef= [x,.undef,.undef,.undef,.undef,.undef,.undef,.undef,.undef]:=by kernel_rfl
theorem apM (hp:Hp) (c e:Nat):Mn te hp 37 (.own c e)=(match fg hp c e with|some n=>.ok (.int n)|none=>.fail):=by kernel_rfl
theorem apN (hp:Hp) (c e:Nat) (n:Int):px te hp 37 (.own c e) none (some (.int n)) (some (.int n))=.br (IL none (some (.int n)) (some (.int n))) (if (fg hp c e).isSome then .ok .emp else .fail) (match (none:Option SV),some (SV.int n),fg hp c e with
 |none,some (.int h),some m=>if dU hp c e=some 1 then .br (decide (h=(m:Int))&&decide (n=(m:Int))) (.ok (.clip c e)) (.guard (decide (0<=h)&&decide (h<=n)&&decide (n<=(m:Int))) (.ok (.part c e 0 h.toNat))) else .fail
 |_,_,_=>.fail):=by kernel_rfl
noncomputable def aDi (k:Nat):Oper:=(apP (mK Tryz.f133)).toList.getD k default
noncomputable def yj (k:Nat):Oper:=(apO (mK Tryz.f133)).toList.getD k default
theorem aw5:(apP (mK Tryz.f133)).toList= [aDi 0]:=by kernel_rfl
theorem aw3:(apO (mK Tryz.f133)).toList= [yj 0,yj 1,yj 2,yj 3,yj 4,yj 5,yj 6]:=by kernel_rfl
theorem aw2 (hp:Hp) (c e:Nat) (xs:aH) (K:SV->Hp->Prop) (hx:eu hp c e=some (.row .u8 xs)) (hl:0<xs.length) (hK:K (.clip c e) hp):
 wpf te L3 fR 1000 Tryz.f133 [.own c e] hp K (λ_ _=>False):=by
 have e1:fg hp c e=some xs.length:=by simp [fg,hx]
 have e2:dU hp c e=some 1:=by simp only [dU,hx];rfl
 have h1:Mn te hp 37 (.own c e)=.ok (.int xs.length):=by rw [apM,e1]
 have h2:(px te hp 37 (.own c e) none (some (.int xs.length)) (some (.int xs.length))).run=some (.clip c e):=by
  rw [apN,e1]
  simp only [e2,if_true]
  refine (OT.au ?_).trans (OT.ak (by simp))
  simp only [IL,Bool.and_self,decide_eq_false_iff_not]
  omega
 unfold wpf
 rw [aDh]
 dsimp only
 rw [aDg,aB8 (n:=997),ma,aw5]
 refine gz (.emp) (by kernel_rfl) (by kernel_rfl) (tm':= [.own c e,.undef,.emp,.undef,.undef,.undef,.undef,.undef,.undef]) (by kernel_rfl) ?_
 dsimp only [io]
 rw [ma,aw3]
 refine gz (.own c e) (by kernel_rfl) (by kernel_rfl) (tm':= [.own c e,.undef,.emp,.own c e,.undef,.undef,.undef,.undef,.undef]) (by kernel_rfl) ?_
 refine gz (.own c e) (by kernel_rfl) (by kernel_rfl) (tm':= [.own c e,.undef,.emp,.own c e,.own c e,.undef,.undef,.undef,.undef]) (by kernel_rfl) ?_
 refine gz (.int xs.length) (by kernel_rfl) (Eq.trans (b:=(jc (Mn te hp 37 (.own c e))).run) (by kernel_rfl) (by rw [h1];rfl)) (tm':= [.own c e,.undef,.emp,.own c e,.own c e,.int xs.length,.undef,.undef,.undef]) (by kernel_rfl) ?_
 refine gz (.own c e) (by kernel_rfl) (by kernel_rfl) (tm':= [.own c e,.undef,.emp,.own c e,.own c e,.int xs.length,.own c e,.undef,.undef]) (by kernel_rfl) ?_
 refine gz (.int xs.length) (by kernel_rfl) (Eq.trans (b:=(jc (Mn te hp 37 (.own c e))).run) (by kernel_rfl) (by rw [h1];rfl)) (tm':= [.own c e,.undef,.emp,.own c e,.own c e,.int xs.length,.own c e,.int xs.length,.undef]) (by kernel_rfl) ?_
 refine gz (.clip c e) (by kernel_rfl) (Eq.trans (b:=(jc (px te hp 37 (.own c e) none (some (.int xs.length)) (some (.int xs.length)))).run) (by kernel_rfl) (Dw h2)) (tm':= [.own c e,.undef,.emp,.own c e,.own c e,.int xs.length,.own c e,.int xs.length,.clip c e]) (by kernel_rfl) ?_
 refine gz (.clip c e) (by kernel_rfl) (by kernel_rfl) (tm':= [.own c e,.undef,.clip c e,.own c e,.own c e,.int xs.length,.own c e,.int xs.length,.clip c e]) (by kernel_rfl) ?_
 exact hK
theorem aw4:aa aj 133 vV:=
 aEx Mb rc.ok rc.any (f:=133) (fn:=Tryz.f133) (c:=mK Tryz.f133) (by kernel_rfl) (by kernel_rfl) (by kernel_rfl) (λR=>Bl) (n:=1000) aw2
def Dk:bx:=vV
theorem aa3:aa aj 133 Dk:=aw4
theorem aa2:ax Dk:=asZ
def auJ:Env:=aq 133 Dk L3
theorem Cy:bU aj te auJ:=aU follows rc aa3 aa2
def kD:af:=⟨[aD,aD,iS],[],true,0,false⟩
abbrev A1:Type:=(Int×Int×dp)×Unit
def akW:Shape:=⟨87,[jH,(1,aD),jO,EE,(38,aD)],[lv,nQ],0,true⟩
abbrev di:Type:=(Int×Int×mW)×kf×dp
def nu:Shape:=⟨87,[jH,jO,EE],[lv,nQ],0,true⟩
abbrev jg:Type:=kR×kf×dp
def ak1 (a0:Int) (a1:Int) (a38:Int) (c0_0:UInt64) (c0_1:UInt64) (c0_2:UInt64) (c0_3:UInt64) (c0_4:UInt64) (c0_5:UInt64) (c0_6:UInt64) (c0_7:UInt64) (c0_8:Bool) (c1:aH):OT (Sum di aZ):=
 (.br (decide (a38<(4:Int)))
 (gd [inR ((8:Int)*a38),decide ((0:Int)<=(8:Int)*a38),decide ((List.length c1+1)*1<=140737488355328),inR (a38+(1:Int))] (.ok (.inl ((a0,a1,(),(),a38+(1:Int),()),(c0_0,c0_1,c0_2,c0_3,c0_4,c0_5,c0_6,c0_7,c0_8,()),c1++ [i2b (aFW a1 ((8:Int)*a38))],()))))
 (.ok (.inr ⟨(.exit 1,nu),((a0,(),(),()),(c0_0,c0_1,c0_2,c0_3,c0_4,c0_5,c0_6,c0_7,c0_8,()),c1,())⟩)))
def va (s:di):OT (Sum di aZ):=ak1 s.1.1 s.1.2.1 s.1.2.2.2.2.1 s.2.1.1 s.2.1.2.1 s.2.1.2.2.1 s.2.1.2.2.2.1 s.2.1.2.2.2.2.1 s.2.1.2.2.2.2.2.1 s.2.1.2.2.2.2.2.2.1 s.2.1.2.2.2.2.2.2.2.1 s.2.1.2.2.2.2.2.2.2.2.1 s.2.2.1
def Ni (g1_1:di->jg) (s:di):OT aZ:=(.ok ⟨(.exit 1,nu),g1_1 s⟩)
def akV:Shape:=⟨87,[jH,jO,EE,(50,aD)],[lv,nQ],0,true⟩
abbrev bD:Type:=(Int×mW)×kf×dp
def gD:Shape:=⟨87,[jO,xf],[lv],0,true⟩
abbrev hJ:Type:=ru×kf×Unit
def nt:Shape:=⟨87,[jO],[lv],0,true⟩
abbrev jf:Type:=b8×kf×Unit
def ak0 (a0:Int) (a50:Int) (c0_0:UInt64) (c0_1:UInt64) (c0_2:UInt64) (c0_3:UInt64) (c0_4:UInt64) (c0_5:UInt64) (c0_6:UInt64) (c0_7:UInt64) (c0_8:Bool) (c1:aH):OT (Sum bD aZ):=
 let z0:Nat:=List.length c1
 let z1:aH:=c1++ [i2b a50]
 let z2:Bool:=ac a0
 let z3:Nat:=ab.nat (numOf (Int.toNat a0)).fst
 let z4:Ce:=Td a0 (zw (ofN (ab.nat (aCa a0 (SI [(115:UInt8),(105:UInt8),(103:UInt8),(105:UInt8),(108:UInt8),(45:UInt8),(103:UInt8),(101:UInt8),(110:UInt8),(101:UInt8),(114:UInt8),(97:UInt8),(116:UInt8),(111:UInt8),(114:UInt8),(115:UInt8)] (64:Int) z1))%z3)))
 let z5:=z4.fst
 let z6:=z5.snd
 let z7:=z6.snd
 let z8:=z5.fst
 let z9:=z6.fst
 let z10:Bool:=inR (a50+(1:Int))
 let z11:Ce:=Td a0 []
 let z12:=z11.fst
 let z13:=z12.snd
 let z14:=z13.snd
 let z15:Bool:= !z14
 let z16:=z12.fst
 let z17:=z16.w0
 let z18:=z16.w1
 let z19:=z16.w2
 let z20:=z16.w3
 let z21:=z13.fst
 let z22:=z21.w0
 let z23:=z21.w1
 let z24:=z21.w2
 let z25:=z21.w3
 let z26:Ce:=Td a0 (zw (ofN (ab.nat {w0:=0,w1:=0,w2:=0,w3:=0}%z3)))
 let z27:=z26.fst
 let z28:=z27.snd
 let z29:=z28.snd
 let z30:=z27.fst
 let z31:=z28.fst
 (.br (decide (a50<(256:Int)))
 (gd [decide (0<z0),decide ((z0+1)*1<=140737488355328)&&decide (0<1),B6 (([(115:UInt8),(105:UInt8),(103:UInt8),(105:UInt8),(108:UInt8),(45:UInt8),(103:UInt8),(101:UInt8),(110:UInt8),(101:UInt8),(114:UInt8),(97:UInt8),(116:UInt8),(111:UInt8),(114:UInt8),(115:UInt8)],(64:Int),z1,()),())] (.br (z2)
  (.br (z2)
   (.br (z4.snd==(0:Int))
    (.br (!z7)
     (.ok (.inr ⟨(.ret,gD),(((),(0:Int),()),(z8.w0,z8.w1,z8.w2,z8.w3,z9.w0,z9.w1,z9.w2,z9.w3,z7,()),())⟩))
     (gd [z10] (.ok (.inl ((a0,(),(),a50+(1:Int),()),(c0_0,c0_1,c0_2,c0_3,c0_4,c0_5,c0_6,c0_7,c0_8,()),c1,())))))
    (gd [z10] (.ok (.inl ((a0,(),(),a50+(1:Int),()),(c0_0,c0_1,c0_2,c0_3,c0_4,c0_5,c0_6,c0_7,c0_8,()),c1,())))))
   (.br (z11.snd==(0:Int))
    (.br (z15)
     (.ok (.inr ⟨(.ret,gD),(((),(0:Int),()),(z17,z18,z19,z20,z22,z23,z24,z25,z14,()),())⟩))
     (gd [z10] (.ok (.inl ((a0,(),(),a50+(1:Int),()),(c0_0,c0_1,c0_2,c0_3,c0_4,c0_5,c0_6,c0_7,c0_8,()),c1,())))))
    (gd [z10] (.ok (.inl ((a0,(),(),a50+(1:Int),()),(c0_0,c0_1,c0_2,c0_3,c0_4,c0_5,c0_6,c0_7,c0_8,()),c1,()))))))
  (.br (z2)
   (.br (z26.snd==(0:Int))
    (.br (!z29)
     (.ok (.inr ⟨(.ret,gD),(((),(0:Int),()),(z30.w0,z30.w1,z30.w2,z30.w3,z31.w0,z31.w1,z31.w2,z31.w3,z29,()),())⟩))
     (gd [z10] (.ok (.inl ((a0,(),(),a50+(1:Int),()),(c0_0,c0_1,c0_2,c0_3,c0_4,c0_5,c0_6,c0_7,c0_8,()),c1,())))))
    (gd [z10] (.ok (.inl ((a0,(),(),a50+(1:Int),()),(c0_0,c0_1,c0_2,c0_3,c0_4,c0_5,c0_6,c0_7,c0_8,()),c1,())))))
   (.br (z11.snd==(0:Int))
    (.br (z15)
     (.ok (.inr ⟨(.ret,gD),(((),(0:Int),()),(z17,z18,z19,z20,z22,z23,z24,z25,z14,()),())⟩))
     (gd [z10] (.ok (.inl ((a0,(),(),a50+(1:Int),()),(c0_0,c0_1,c0_2,c0_3,c0_4,c0_5,c0_6,c0_7,c0_8,()),c1,())))))
    (gd [z10] (.ok (.inl ((a0,(),(),a50+(1:Int),()),(c0_0,c0_1,c0_2,c0_3,c0_4,c0_5,c0_6,c0_7,c0_8,()),c1,()))))))))
 (.ok (.inr ⟨(.exit 3,nt),(((),()),(c0_0,c0_1,c0_2,c0_3,c0_4,c0_5,c0_6,c0_7,c0_8,()),())⟩)))
def uZ (s:bD):OT (Sum bD aZ):=ak0 s.1.1 s.1.2.2.2.1 s.2.1.1 s.2.1.2.1 s.2.1.2.2.1 s.2.1.2.2.2.1 s.2.1.2.2.2.2.1 s.2.1.2.2.2.2.2.1 s.2.1.2.2.2.2.2.2.1 s.2.1.2.2.2.2.2.2.2.1 s.2.1.2.2.2.2.2.2.2.2.1 s.2.2.1
def Dg (g3_r:bD->hJ) (c3_r:bD->Bool) (g3_3:bD->jf) (s:bD):OT aZ:=(.br (c3_r s) (.ok ⟨(.ret,gD),g3_r s⟩) (.ok ⟨(.exit 3,nt),g3_3 s⟩))
def iL:aL:=⟨LJ,[],false⟩
def U1 (ok1:di->Bool) (g1_1:di->jg) (ok3:bD->Bool) (g3_r:bD->hJ) (c3_r:bD->Bool) (g3_3:bD->jf) (a0:Int) (a1:Int) (a2:aH):OT kD.Y:=
 let z0:ab:= {w0:=0,w1:=0,w2:=0,w3:=0}
 let z1:cI:=(z0,z0,false)
 let z2:di:=((a0,a1,(),(),(0:Int),()),((0:UInt64),(0:UInt64),(0:UInt64),(0:UInt64),(0:UInt64),(0:UInt64),(0:UInt64),(0:UInt64),false,()),a2,())
 let z3:jg:=g1_1 z2
 let z4:=z3.snd
 let z5:=z4.fst
 let z6:=z5.snd
 let z7:=z6.snd
 let z8:=z7.snd
 let z9:=z8.snd
 let z10:=z9.snd
 let z11:=z10.snd
 let z12:=z11.snd
 let z13:bD:=((z3.fst.fst,(),(),(0:Int),()),(z5.fst,z6.fst,z7.fst,z8.fst,z9.fst,z10.fst,z11.fst,z12.fst,z12.snd.fst,()),z4.snd.fst,())
 let z14:hJ:=g3_r z13
 let z15:=z14.snd.fst
 let z16:=z15.snd
 let z17:=z16.snd
 let z18:=z17.snd
 let z19:=z18.snd
 let z20:=z19.snd
 let z21:=z20.snd
 let z22:=z21.snd
 (.br (ac a0)
 (.br (decide (a1<(0:Int)))
  (.ok ⟨iL,((z1,(60:Int),()),())⟩)
  (.br (decide ((2147483647:Int)<a1))
   (.ok ⟨iL,((z1,(60:Int),()),())⟩)
   (gd [eH ((a2,()),()),ok1 z2,ok3 z13] (.br (c3_r z13)
    (.ok ⟨iL,((({w0:=z15.fst,w1:=z16.fst,w2:=z17.fst,w3:=z18.fst},{w0:=z19.fst,w1:=z20.fst,w2:=z21.fst,w3:=z22.fst},z22.snd.fst),z14.fst.snd.fst,()),())⟩)
    (.ok ⟨iL,((z1,(90:Int),()),())⟩)))))
 (.ok ⟨iL,((z1,(40:Int),()),())⟩))
theorem U0 (ok1:di->Bool) (g1_1:di->jg) (ok3:bD->Bool) (g3_r:bD->hJ) (c3_r:bD->Bool) (g3_3:bD->jf) (h1:bh va ok1 (Ni g1_1)) (h3:bh uZ ok3 (Dg g3_r c3_r g3_3)) (pre:A1->Bool) (F:A1->OT kD.Y) (hF:∀ (x:A1) oy,pre x=true->(F x).run=some oy->(U1 ok1 g1_1 ok3 g3_r c3_r g3_3 x.1.1 x.1.2.1 x.1.2.2.1).run=some oy):aa aj 89 (kD.az pre F):=
 dh Cy 89 Tryz.f89 kD [iL] (kZ Cy 3 akV [(3,nt)] (some gD) none uZ bE h3 (kZ Cy 1 akW [(1,nu)] none none va bE h1 bE)) (λx=>U1 ok1 g1_1 ok3 g3_r c3_r g3_3 x.1.1 x.1.2.1 x.1.2.2.1) hF
def arA:aH:= [115,105,103,105,108,45,103,101,110,101,114,97,116,111,114,115]
def aAQ (b:aH) (i:Int):aH:=upto (λk l=>l++ [i2b (aFW i (8*(k:Int)))]) b 4
def aEq (c:Int) (b:aH) (k:Nat):Pt×Int:=Td c (zw (ofN ((aCa c (SI arA 64 (b++ [i2b (k:Int)]))).nat%(numOf c.toNat).1.nat)))
def aEp (d:Pt×Int):Bool:=cond (d.2==(0:Int)) (!d.1.2.2) false
def avr (c:Int) (b:aH):Nat->Nat->Option Pt
 |0,_=>none
 |n+1,k=>cond (aEp (aEq c b k)) (some (aEq c b k).1) (avr c b n (k+1))
def aGZ (o:Option Pt):Pt×Int:=match o with
 |some p=>(p,0)
 |none=>(fa,90)
def L8 (c i:Int) (b:aH):Pt×Int:=cond (ac c) (cond (decide (i<0)) (fa,60) (cond (decide (2147483647<i)) (fa,60) (aGZ (avr c (aAQ b i) 256 0)))) (fa,40)
theorem KH (b:aH) (i:Int):(aAQ b i).length=b.length+4:=by
 simp only [aAQ,upto,bK,List.length_cons,List.length_nil]
abbrev aEU:Type:=kf
def aFC (p:Pt):aEU:=(p.1.w0,p.1.w1,p.1.w2,p.1.w3,p.2.1.w0,p.2.1.w1,p.2.1.w2,p.2.1.w3,p.2.2,())
def Iy (s:di):Bool:=decide (s.1.2.2.2.2.1=0/\s.2.2.1.length<=140737488351232)
def Df (s:di):jg:=((s.1.1,(),(),()),s.2.1,aAQ s.2.2.1 s.1.2.1,())
theorem akZ:bh va Iy (Ni Df):=by
 rintro ⟨⟨c,a,⟨⟩,⟨⟩,i,⟨⟩⟩,⟨z,b,⟨⟩⟩⟩ h
 have h':=bn h
 dsimp only at h'
 obtain ⟨rfl,hl⟩:=h'
 have:=(bf (T:=va) (λi l=>(((c,a,(),(),(i:Int),()),z,l,()):di)) (λk l=>l++ [i2b (aFW a (8*(k:Int)))])
  (λl=>(⟨(.exit 1,nu),((c,(),(),()),z,l,())⟩:aZ)) 4 b (λk l=>l.length=b.length+k) rfl (λi l hi hl'=>⟨?_,by simp [hl'];omega⟩) (λl hl'=> ?_)).1
 ·obtain ⟨m,hm⟩:=this
  exact ⟨m,_,hm,rfl⟩
 ·refine (OT.ak (ag (by dsimp only;omega))).trans ((ae ?_).trans rfl)
  simp only [hl',aA,aI,aJ,aw]
  exact ⟨aS (by omega),ag (by omega),ag (by omega),aS (by omega)⟩
 ·exact OT.au (bq (by dsimp only;omega))
def Iw (s:bD):Bool:=ac s.1.1&&decide (s.1.2.2.2.1=0/\0<s.2.2.1.length/\s.2.2.1.length<=140737488355000)
def uY (s:bD):hJ:=(((),(aGZ (avr s.1.1 s.2.2.1 256 0)).2,()),aFC (aGZ (avr s.1.1 s.2.2.1 256 0)).1,())
def A0 (s:bD):Bool:=(avr s.1.1 s.2.2.1 256 0).isSome
def De (s:bD):jf:=(((),()),s.2.1,())
def aHi (z:aEU) (o:Option Pt):aZ:=match o with
 |some p=>⟨(.ret,gD),((((),(0:Int),()),aFC p,()):hJ)⟩
 |none=>⟨(.exit 3,nt),((((),()),z,()):jf)⟩
theorem af0 {c:Int} {b:List UInt8} {z:aEU} (hs:ac c=true) (h0:0<b.length) (hl:b.length<=140737488355000):∀ (n k:Nat),n+k=256->∃ m,cU uZ m ((c,(),(),(k:Int),()),z,b,())=some (aHi z (avr c b n k))
 |0,k,hk=>⟨1,aV (OT.au (bq (by dsimp only;omega)))⟩
 |n+1,k,hk=>by
  have ih:=af0 (z:=z) hs h0 hl n (k+1) (by omega)
  obtain ⟨m,hm⟩:=ih
  have hpre:∀ {α:Type} {x:OT α} {o:Option α},x.run=o->(gd [decide (0<b.length),decide ((b.length+1)*1<=140737488355328)&&decide (0<1),B6 ((arA,64,b++ [i2b (k:Int)],()),())] x).run=o:=λhx=>by
   refine (ae ?_).trans hx
   simp only [aA,aI,aJ,aw]
   exact ⟨ag h0,⟨ag (by omega),rfl⟩,ag (by simp only [bK,List.length_cons,List.length_nil];omega)⟩
  have hgo:(gd [inR ((k:Int)+1)] (.ok (.inl ((c,(),(),(k:Int)+1,()),z,b,())):OT (Sum bD aZ))).run=some (.inl ((c,(),(),((k+1:Nat):Int),()),z,b,())):=
   (ae (by simp only [aA,aI,aJ];exact aS (by omega))).trans rfl
  have h1:decide ((k:Int)<256)=true:=ag (by omega)
  unfold avr
  rcases (b9 ((aEq c b k).2==(0:Int))).symm with hd|hd
  ·have e:aEp (aEq c b k)=false:=by unfold aEp;rw [hd];rfl
   rw [e]
   exact ⟨m+1,bL ((OT.ak h1).trans (hpre ((OT.ak hs).trans ((OT.ak hs).trans ((OT.au hd).trans hgo))))) hm⟩
  ·rcases (b9 (!(aEq c b k).1.2.2)).symm with hq|hq
   ·have e:aEp (aEq c b k)=false:=by unfold aEp;rw [hd];exact hq
    rw [e]
    exact ⟨m+1,bL ((OT.ak h1).trans (hpre ((OT.ak hs).trans ((OT.ak hs).trans ((OT.ak hd).trans ((OT.au hq).trans hgo)))))) hm⟩
   ·have e:aEp (aEq c b k)=true:=by unfold aEp;rw [hd];exact hq
    rw [e]
    exact ⟨1,aV ((OT.ak h1).trans (hpre ((OT.ak hs).trans ((OT.ak hs).trans ((OT.ak hd).trans ((OT.ak hq).trans rfl))))))⟩
theorem akY:bh uZ Iw (Dg uY A0 De):=by
 rintro ⟨⟨c,⟨⟩,⟨⟩,i,⟨⟩⟩,⟨z,b,⟨⟩⟩⟩ h
 obtain ⟨hs,h⟩:=(aw _ _).mp h
 have h':=bn h
 dsimp only at h' hs
 obtain ⟨rfl,h0,hl⟩:=h'
 obtain ⟨m,hm⟩:=af0 (z:=z) hs h0 hl 256 0 rfl
 refine ⟨m,_,hm,?_⟩
 unfold Dg uY A0 De
 dsimp only
 cases avr c b 256 0 with
 |none=>rfl
 |some p=>rfl
def ye (x:A1):Bool:=decide (x.1.2.2.1.length<=140737488351232)
def U2 (x:A1):OT kD.Y:=.ok ⟨iL,(((L8 x.1.1 x.1.2.1 x.1.2.2.1).1,(L8 x.1.1 x.1.2.1 x.1.2.2.1).2,()),())⟩
theorem akX:aa aj 89 (kD.az ye U2):=U0 Iy Df Iw uY A0 De akZ akY _ _ λx oy hp ho=>by
 rw [<-ho]
 clear ho
 obtain ⟨⟨c,i,b,⟨⟩⟩,⟨⟩⟩:=x
 have hl:b.length<=140737488351232:=bn hp
 show _=some (⟨iL,(((L8 c i b).1,(L8 c i b).2,()),())⟩:kD.Y)
 rcases (b9 (ac c)).symm with hs|hs
 ·rw [show L8 c i b=(fa,40) from by unfold L8;rw [hs];rfl]
  exact OT.au hs
 refine (OT.ak hs).trans ?_
 rcases (b9 (decide (i<0))).symm with h1|h1
 ·refine (OT.au h1).trans ?_
  rcases (b9 (decide (2147483647<i))).symm with h2|h2
  ·rw [show L8 c i b=aGZ (avr c (aAQ b i) 256 0) from by unfold L8;rw [hs,h1,h2];rfl]
   refine (OT.au h2).trans ((ae ?_).trans ?_)
   ·simp only [aA,aI,aJ,aw]
    refine ⟨ag (show b.length<=_ by omega),ag ⟨rfl,hl⟩,(aw _ _).mpr ⟨hs,ag ⟨rfl,?_,?_⟩⟩⟩
    ·show 0<(aAQ b i).length
     rw [KH];omega
    ·show (aAQ b i).length<=_
     rw [KH];omega
   ·unfold A0 uY Df
    dsimp only
    generalize avr c (aAQ b i) 256 0=o
    cases o with
    |none=>rfl
    |some p=>rfl
  ·rw [show L8 c i b=(fa,60) from by unfold L8;rw [hs,h1,h2];rfl]
   exact OT.ak h2
 ·rw [show L8 c i b=(fa,60) from by unfold L8;rw [hs,h1];rfl]
  exact OT.ak h1
def sE:bx:=(kD.az ye U2)
theorem Qv:aa aj 89 sE:=akX
theorem Qu:ax sE:=av
def YU:Env:=aq 89 sE auJ
theorem LS:bU aj te YU:=aU follows Cy Qv Qu
def aFD:CSh:=.cells [.val false .int,.val false .int,.val false (.list (.prod .elem (.prod .elem .bool))),.val false (.prod .elem (.prod .elem .bool)),.val false (.prod .elem (.prod .elem .bool))]
def akM:Shape:=⟨70,[jH,(1,aD),(2,iS),jO,EE,(32,aD),(33,aD)],[(0,aFD),Cp],0,true⟩
def UQ:Shape:=⟨70,[jH,(1,aD),jO,EE],[(0,aFD),Cp],0,true⟩
abbrev pE:Type:=(Int×Int×aH×ry)×aiq
abbrev Ql:Type:=ru×(Int×Int×cH×cI×rp)×Unit
abbrev Qm:Type:=(Int×kR)×aiq
section
variable (ok0:pE->Bool) (g0_r:pE->Ql) (c0_r:pE->Bool) (g0_0:pE->Qm)
end
def anv (c:Int) (b:aH):Nat->Nat->List Pt->List Pt×Int
 |0,_,l=>(l,0)
 |n+1,i,l=>cond (!((L8 c (i:Int) b).2==(0:Int))) (l,(L8 c (i:Int) b).2) (anv c b n (i+1) (l++ [(L8 c (i:Int) b).1]))
def avm (k:Int):Nat:=(VM 1 k).toNat
theorem aDj {k:Int} (h0:¬k<0) (h5:¬5<k):VM 1 k=(avm k:Int)/\1<=avm k/\avm k<=32:=by
 have:k=0\/k=1\/k=2\/k=3\/k=4\/k=5:=by omega
 rcases this with rfl|rfl|rfl|rfl|rfl|rfl<;>decide
def aHb (c k:Int) (r:List Pt×Int):mf×Int:=cond (!(r.2==(0:Int))) (aa9,r.2) ((c,k,r.1.take (avm k),r.1.getD (avm k) fa,r.1.getD (avm k+1) fa),0)
def aar (c k:Int) (b:aH):mf×Int:=cond (ac c) (cond (decide (k<0)) (aa9,60) (cond (decide (5<k)) (aa9,60) (aHb c k (anv c b (avm k+2) 0 [])))) (aa9,40)
theorem afK {c:Int} {b:List UInt8}:∀ (n i:Nat) (l:List Pt),(!((anv c b n i l).2==(0:Int)))=false->(anv c b n i l).1.length=l.length+n
 |0,_,_,_=>rfl
 |n+1,i,l,h=>by
  unfold anv at h⊢
  cases hd: !((L8 c (i:Int) b).2==(0:Int))
  ·rw [hd,aT] at h
   rw [aT,afK n (i+1) _ h,bK]
   simp only [List.length_cons,List.length_nil]
   omega
  ·rw [hd] at h
   exact absurd (hd.symm.trans h) (by decide)
abbrev aIa:Type:=Int×Int×List Pt×Pt×Pt×Unit
def xz:af:=⟨o0,mY,false,2,true⟩
abbrev TB:Type:=b8×FM
def PD:aL:=⟨kT,mY,false⟩
def aoi (c0_0:Int) (c0_2:aH) (c1_0:Int) (c1_1:aB):OT xz.Y:=
 let z0:mU:=ao c1_1
 let z1:=z0.snd
 (gd [uK (((),()),(c1_0,c1_1,()),())] (.ok ⟨PD,((dr (pS c1_0) z0.fst {w0:=0,w1:=0,w2:=0,w3:=0},z1.fst,()),(c0_0,(),c0_2,()),(c1_0,z1.snd,()),())⟩))
theorem akd (pre:TB->Bool) (F:TB->OT xz.Y) (hF:∀ (x:TB) oy,pre x=true->(F x).run=some oy->(aoi x.2.1.1 x.2.1.2.2.1 x.2.2.1.1 x.2.2.1.2.1).run=some oy):aa aj 65 (xz.az pre F):=
 dh LS 65 Tryz.f65 xz [PD] bE (λx=>aoi x.2.1.1 x.2.1.2.2.1 x.2.2.1.1 x.2.2.1.2.1) hF
def rP (x:TB):Bool:=ac x.2.2.1.1&&decide (x.2.2.1.2.1.length<=140737488355328)
def aoj (x:TB):OT xz.Y:=.ok ⟨PD,((dr (pS x.2.2.1.1) (ao x.2.2.1.2.1).1 ⟨0,0,0,0⟩,(ao x.2.2.1.2.1).2.1,()),(x.2.1.1,(),x.2.1.2.2.1,()),(x.2.2.1.1,(ao x.2.2.1.2.1).2.2,()),())⟩
theorem avH:aa aj 65 (xz.az rP aoj):=akd _ _ λx oy hp ho=>by
 rw [<-ho]
 clear ho
 obtain ⟨⟨⟨⟩,⟨⟩⟩,⟨⟨c,⟨⟩,b,⟨⟩⟩,⟨s,l,⟨⟩⟩,⟨⟩⟩⟩:=x
 refine (ae ?_).trans rfl
 simp only [aA,aI,aJ]
 exact hp
def CT:bx:=(xz.az rP aoj)
theorem ZP:aa aj 65 CT:=avH
theorem ZO:ax CT:=av
def CO:bx:=(ana 0 2 DU CT)
theorem ZD:aa aj 65 CO:=(ahP aco ZP)
theorem ZC:ax CO:=(OC acn ZO)
def auD:Env:=aq 65 CO YU
theorem YN:bU aj te auD:=aU follows LS ZD ZC
def pb:af:=⟨o0,mY,false,2,true⟩
abbrev HC:Type:=b8×FM
def HB:aL:=⟨jG,mY,false⟩
def aeD (c0_0:Int) (c0_2:aH) (c1_0:Int) (c1_1:aB):OT pb.Y:=
 (.ok ⟨HB,((c0_0,()),(c0_0,(),c0_2,()),(c1_0,c1_1,()),())⟩)
theorem ZK (pre:HC->Bool) (F:HC->OT pb.Y) (hF:∀ (x:HC) oy,pre x=true->(F x).run=some oy->(aeD x.2.1.1 x.2.1.2.2.1 x.2.2.1.1 x.2.2.1.2.1).run=some oy):aa aj 59 (pb.az pre F):=
 dh YN 59 Tryz.f59 pb [HB] bE (λx=>aeD x.2.1.1 x.2.1.2.2.1 x.2.2.1.1 x.2.2.1.2.1) hF
def MN (_:HC):Bool:=true
def aeE (x:HC):OT pb.Y:=.ok ⟨HB,((x.2.1.1,()),x.2)⟩
theorem aoe:aa aj 59 (pb.az MN aeE):=ZK _ _ λx oy hp ho=>by
 rw [<-ho]
 rfl
def xu:bx:=(pb.az MN aeE)
theorem Tw:aa aj 59 xu:=aoe
theorem Tv:ax xu:=av
def xp:bx:=(ana 0 2 zh xu)
theorem Tq:aa aj 59 xp:=(ahP Wu Tw)
theorem Tp:ax xp:=(OC Wt Tv)
def aiN:Env:=aq 59 xp auD
theorem anr:bU aj te aiN:=aU follows YN Tq Tp
abbrev Of:af:=gP
def avs (s:Int) (b:aH):ab×Int:=cond (ac s) (cond (m6 b) (cond (Nat.blt (Nw b).nat (pS s)) (Nw b,0) (⟨0,0,0,0⟩,21)) (⟨0,0,0,0⟩,21)) (⟨0,0,0,0⟩,20)
def Fz (_:qB):Bool:=true
def Ed (x:qB):OT gP.Y:=.ok ⟨dA,(((avs x.1.1 x.1.2.1).1,(avs x.1.1 x.1.2.1).2,()),())⟩
theorem ac4:aa aj 122 (Of.az Fz Ed):=cJ (S:=gP) Og λx oy hp ho=>⟨rfl,by
 rw [<-ho]
 unfold Ky Ed avs
 generalize Nw x.1.2.1=N
 generalize ac x.1.1=a
 generalize m6 x.1.2.1=b
 generalize Nat.blt N.nat (pS x.1.1)=d
 cases a<;>cases b<;>cases d<;>rfl⟩
def qA:bx:=(Of.az Fz Ed)
theorem Mu:aa aj 122 qA:=ac4
theorem Mt:ax qA:=av
def Pb:Env:=aq 122 qA aiN
theorem FX:bU aj te Pb:=aU follows anr Mu Mt
def EV:af:=⟨[eT,YE,.fn 115 [],aD],mY,false,2,true⟩
abbrev aod:Type:=(Unit×UInt8×ru)×FM
def CR:aL:=⟨LJ,mY,false⟩
def aeC (a1:UInt8) (a3:Int) (c0_0:Int) (c0_2:aH) (c1_0:Int) (c1_1:aB):OT EV.Y:=
 let z0:Nat:=List.length c0_2
 let z1:Int:=(↑z0:Int)
 let z2:ab:= {w0:=0,w1:=0,w2:=0,w3:=0}
 let z3:cI:=(z2,z2,false)
 let z4:Bool:=cm (0:Int) (32:Int) z0
 let z5:Ce:=Td a3 (List.drop 0 (List.take 32 c0_2))
 let z6:=z5.snd
 (.br (decide (z1<(32:Int)))
 (.ok ⟨CR,((z3,(82:Int),()),(c0_0,(),c0_2,()),(c1_0,c1_1,()),())⟩)
 (gd [z4] (.br (!z6==(0:Int))
  (.ok ⟨CR,((z3,z6,()),(c0_0,(),c0_2,()),(c1_0,c1_1,()),())⟩)
  (gd [z4,cm (32:Int) z1 z0] (.ok ⟨CR,((z5.fst,(0:Int),()),(c0_0,(),List.drop 32 c0_2,()),(c1_0,c1_1,()),())⟩)))))
theorem aoc (pre:aod->Bool) (F:aod->OT EV.Y) (hF:∀ (x:aod) oy,pre x=true->(F x).run=some oy->(aeC x.1.2.1 x.1.2.2.2.1 x.2.1.1 x.2.1.2.2.1 x.2.2.1.1 x.2.2.1.2.1).run=some oy):aa aj 114 (EV.az pre F):=
 dh FX 114 Tryz.f114 EV [CR] bE (λx=>aeC x.1.2.1 x.1.2.2.2.1 x.2.1.1 x.2.1.2.2.1 x.2.2.1.1 x.2.2.1.2.1) hF
def dw (s:Int) (b:aH):(Pt×Int)×List UInt8:=cond (decide ((b.length:Int)<32)) ((fa,82),b) (cond (!((Td s (b.take 32)).2==(0:Int))) ((fa,(Td s (b.take 32)).2),b) (((Td s (b.take 32)).1,0),b.drop 32))
def aeB (_:aod):Bool:=true
def azX (x:aod):OT EV.Y:=.ok ⟨CR,(((dw x.1.2.2.2.1 x.2.1.2.2.1).1.1,(dw x.1.2.2.2.1 x.2.1.2.2.1).1.2,()),(x.2.1.1,(),(dw x.1.2.2.2.1 x.2.1.2.2.1).2,()),(x.2.2.1.1,x.2.2.1.2.1,()),())⟩
theorem aCn:aa aj 114 (EV.az aeB azX):=aoc _ _ λx oy hp ho=>by
 rw [<-ho]
 clear ho
 obtain ⟨⟨⟨⟩,m,⟨⟩,s,⟨⟩⟩,⟨⟨c,⟨⟩,b,⟨⟩⟩,⟨q,l,⟨⟩⟩,⟨⟩⟩⟩:=x
 show (aeC m s c b q l).run=some (⟨CR,(((dw s b).1.1,(dw s b).1.2,()),(c,(),(dw s b).2,()),(q,l,()),())⟩:EV.Y)
 unfold aeC dw
 dsimp only
 rw [List.drop_zero]
 generalize Td s (b.take 32)=d
 by_cases h1:(b.length:Int)<32
 ·rw [ag h1]
  exact OT.ak rfl
 ·rw [bq h1]
  have b1:cm 0 32 b.length=true:=cF (by omega)
  have b2:cm 32 (b.length:Int) b.length=true:=cF (by omega)
  rw [b1,b2]
  refine (OT.au rfl).trans ((ae rfl).trans ?_)
  rcases (b9 (!(d.2==(0:Int)))).symm with h2|h2
  ·rw [h2]
   exact (OT.au rfl).trans ((ae rfl).trans rfl)
  ·rw [h2]
   exact (OT.ak rfl).trans rfl
def HA:bx:=(EV.az aeB azX)
theorem akb:aa aj 114 HA:=aCn
theorem aka:ax HA:=av
def Ht:bx:=HA
theorem ajY:aa aj 114 Ht:=akb
theorem ajX:ax Ht:=aka
def aBC:Env:=aq 114 Ht Pb
theorem aiM:bU aj te aBC:=aU follows FX ajY ajX
def EU:af:=⟨[eT,YE,.fn 122 [],aD],mY,false,2,true⟩
abbrev aob:Type:=(Unit×UInt8×ru)×FM
def CQ:aL:=⟨kT,mY,false⟩
def aeA (a1:UInt8) (a3:Int) (c0_0:Int) (c0_2:aH) (c1_0:Int) (c1_1:aB):OT EU.Y:=
 let z0:Nat:=List.length c0_2
 let z1:Int:=(↑z0:Int)
 let z2:ab:= {w0:=0,w1:=0,w2:=0,w3:=0}
 let z3:Bool:=cm (0:Int) (32:Int) z0
 let z4:ab×Int:=avs a3 (List.drop 0 (List.take 32 c0_2))
 let z5:=z4.snd
 (.br (decide (z1<(32:Int)))
 (.ok ⟨CQ,((z2,(82:Int),()),(c0_0,(),c0_2,()),(c1_0,c1_1,()),())⟩)
 (gd [z3] (.br (!z5==(0:Int))
  (.ok ⟨CQ,((z2,z5,()),(c0_0,(),c0_2,()),(c1_0,c1_1,()),())⟩)
  (gd [z3,cm (32:Int) z1 z0] (.ok ⟨CQ,((z4.fst,(0:Int),()),(c0_0,(),List.drop 32 c0_2,()),(c1_0,c1_1,()),())⟩)))))
theorem aoa (pre:aob->Bool) (F:aob->OT EU.Y) (hF:∀ (x:aob) oy,pre x=true->(F x).run=some oy->(aeA x.1.2.1 x.1.2.2.2.1 x.2.1.1 x.2.1.2.2.1 x.2.2.1.1 x.2.2.1.2.1).run=some oy):aa aj 121 (EU.az pre F):=
 dh aiM 121 Tryz.f121 EU [CQ] bE (λx=>aeA x.1.2.1 x.1.2.2.2.1 x.2.1.1 x.2.1.2.2.1 x.2.2.1.1 x.2.2.1.2.1) hF
def dP (s:Int) (b:aH):(ab×Int)×aH:=cond (decide ((b.length:Int)<32)) ((⟨0,0,0,0⟩,82),b) (cond (!((avs s (b.take 32)).2==(0:Int))) ((⟨0,0,0,0⟩,(avs s (b.take 32)).2),b) (((avs s (b.take 32)).1,0),b.drop 32))
def aez (_:aob):Bool:=true
def azW (x:aob):OT EU.Y:=.ok ⟨CQ,(((dP x.1.2.2.2.1 x.2.1.2.2.1).1.1,(dP x.1.2.2.2.1 x.2.1.2.2.1).1.2,()),(x.2.1.1,(),(dP x.1.2.2.2.1 x.2.1.2.2.1).2,()),(x.2.2.1.1,x.2.2.1.2.1,()),())⟩
theorem aCm:aa aj 121 (EU.az aez azW):=aoa _ _ λx oy hp ho=>by
 rw [<-ho]
 clear ho
 obtain ⟨⟨⟨⟩,m,⟨⟩,s,⟨⟩⟩,⟨⟨c,⟨⟩,b,⟨⟩⟩,⟨q,l,⟨⟩⟩,⟨⟩⟩⟩:=x
 show (aeA m s c b q l).run=some (⟨CQ,(((dP s b).1.1,(dP s b).1.2,()),(c,(),(dP s b).2,()),(q,l,()),())⟩:EU.Y)
 unfold aeA dP
 dsimp only
 rw [List.drop_zero]
 generalize avs s (b.take 32)=d
 by_cases h1:(b.length:Int)<32
 ·rw [ag h1]
  exact OT.ak rfl
 ·rw [bq h1]
  have b1:cm 0 32 b.length=true:=cF (by omega)
  have b2:cm 32 (b.length:Int) b.length=true:=cF (by omega)
  rw [b1,b2]
  refine (OT.au rfl).trans ((ae rfl).trans ?_)
  rcases (b9 (!(d.2==(0:Int)))).symm with h2|h2
  ·rw [h2]
   exact (OT.au rfl).trans ((ae rfl).trans rfl)
  ·rw [h2]
   exact (OT.ak rfl).trans rfl
def Hz:bx:=(EU.az aez azW)
theorem aj9:aa aj 121 Hz:=aCm
theorem aj8:ax Hz:=av
def Hs:bx:=Hz
theorem ajW:aa aj 121 Hs:=aj9
theorem ajV:ax Hs:=aj8
def aBB:Env:=aq 121 Hs aBC
theorem aiL:bU aj te aBB:=aU follows aiM ajW ajV
def Hx:af:=⟨o0,mY,false,2,true⟩
abbrev an7:Type:=b8×FM
def ZF:aL:=⟨LJ,mY,false⟩
def azU (c0_0:Int) (c0_2:aH) (c1_0:Int) (c1_1:aB):OT Hx.Y:=
 let z0:Ce×aH:=dw c0_0 c0_2
 let z1:=z0.fst
 (.ok ⟨ZF,((z1.fst,z1.snd,()),(c0_0,(),z0.snd,()),(c1_0,c1_1,()),())⟩)
theorem an6 (pre:an7->Bool) (F:an7->OT Hx.Y) (hF:∀ (x:an7) oy,pre x=true->(F x).run=some oy->(azU x.2.1.1 x.2.1.2.2.1 x.2.2.1.1 x.2.2.1.2.1).run=some oy):aa aj 63 (Hx.az pre F):=
 dh aiL 63 Tryz.f63 Hx [ZF] bE (λx=>azU x.2.1.1 x.2.1.2.2.1 x.2.2.1.1 x.2.2.1.2.1) hF
def aex (_:an7):Bool:=true
def azV (x:an7):OT Hx.Y:=.ok ⟨ZF,(((dw x.2.1.1 x.2.1.2.2.1).1.1,(dw x.2.1.1 x.2.1.2.2.1).1.2,()),(x.2.1.1,(),(dw x.2.1.1 x.2.1.2.2.1).2,()),(x.2.2.1.1,x.2.2.1.2.1,()),())⟩
theorem aCk:aa aj 63 (Hx.az aex azV):=an6 _ _ λx oy hp ho=>by
 rw [<-ho]
 rfl
def Hw:bx:=(Hx.az aex azV)
theorem aj3:aa aj 63 Hw:=aCk
theorem aj2:ax Hw:=av
def Hr:bx:=Hw
theorem ajU:aa aj 63 Hr:=aj3
theorem ajT:ax Hr:=aj2
def aBA:Env:=aq 63 Hr aBB
theorem aiK:bU aj te aBA:=aU follows aiL ajU ajT
def Hv:af:=⟨o0,mY,false,2,true⟩
abbrev an5:Type:=b8×FM
def ZE:aL:=⟨kT,mY,false⟩
def azS (c0_0:Int) (c0_2:aH) (c1_0:Int) (c1_1:aB):OT Hv.Y:=
 let z0:(ab×Int)×aH:=dP (ay c0_0 (1:Int)) c0_2
 let z1:=z0.fst
 (.ok ⟨ZE,((z1.fst,z1.snd,()),(c0_0,(),z0.snd,()),(c1_0,c1_1,()),())⟩)
theorem an4 (pre:an5->Bool) (F:an5->OT Hv.Y) (hF:∀ (x:an5) oy,pre x=true->(F x).run=some oy->(azS x.2.1.1 x.2.1.2.2.1 x.2.2.1.1 x.2.2.1.2.1).run=some oy):aa aj 71 (Hv.az pre F):=
 dh aiK 71 Tryz.f71 Hv [ZE] bE (λx=>azS x.2.1.1 x.2.1.2.2.1 x.2.2.1.1 x.2.2.1.2.1) hF
def aew (_:an5):Bool:=true
def azT (x:an5):OT Hv.Y:=.ok ⟨ZE,(((dP (ay x.2.1.1 1) x.2.1.2.2.1).1.1,(dP (ay x.2.1.1 1) x.2.1.2.2.1).1.2,()),(x.2.1.1,(),(dP (ay x.2.1.1 1) x.2.1.2.2.1).2,()),(x.2.2.1.1,x.2.2.1.2.1,()),())⟩
theorem aCj:aa aj 71 (Hv.az aew azT):=an4 _ _ λx oy hp ho=>by
 rw [<-ho]
 rfl
def Hu:bx:=(Hv.az aew azT)
theorem aj1:aa aj 71 Hu:=aCj
theorem aj0:ax Hu:=av
def Hq:bx:=Hu
theorem ajS:aa aj 71 Hq:=aj1
theorem ajR:ax Hq:=aj0
def aBz:Env:=aq 71 Hq aBA
theorem aiJ:bU aj te aBz:=aU follows aiK ajS ajR
def xr:af:=⟨o0,mY,false,2,true⟩
abbrev Tu:Type:=b8×FM
def PB:aL:=⟨jG,mY,false⟩
def an8 (c0_0:Int) (c0_2:aH) (c1_0:Int) (c1_1:aB):OT xr.Y:=
 (.ok ⟨PB,(((↑(List.length c0_2):Int),()),(c0_0,(),c0_2,()),(c1_0,c1_1,()),())⟩)
theorem aj4 (pre:Tu->Bool) (F:Tu->OT xr.Y) (hF:∀ (x:Tu) oy,pre x=true->(F x).run=some oy->(an8 x.2.1.1 x.2.1.2.2.1 x.2.2.1.1 x.2.2.1.2.1).run=some oy):aa aj 24 (xr.az pre F):=
 dh aiJ 24 Tryz.f24 xr [PB] bE (λx=>an8 x.2.1.1 x.2.1.2.2.1 x.2.2.1.1 x.2.2.1.2.1) hF
def Tt (_:Tu):Bool:=true
def an9 (x:Tu):OT xr.Y:=.ok ⟨PB,(((x.2.1.2.2.1.length:Int),()),x.2)⟩
theorem avF:aa aj 24 (xr.az Tt an9):=aj4 _ _ λx oy hp ho=>by
 rw [<-ho]
 rfl
def CP:bx:=(xr.az Tt an9)
theorem ZH:aa aj 24 CP:=avF
theorem ZG:ax CP:=av
def CN:bx:=CP
theorem ZB:aa aj 24 CN:=ZH
theorem ZA:ax CN:=ZG
def auC:Env:=aq 24 CN aBz
theorem Cw:bU aj te auC:=aU follows aiJ ZB ZA
def pf:af:=⟨[aD,YI,iS],[],true,0,false⟩
abbrev HI:Type:=(Int×xb×dp)×Unit
def Gl:aL:=⟨FQ,aBg,false⟩
def PM:aL:=⟨FQ,aBp,false⟩
def Gk:aL:=⟨[.rK,aD],[],false⟩
def aeJ:aL:=⟨FQ,[(0,.cells [aD,.fD,kg]),nQ],false⟩
def ZX (a0:Int) (a1:xb) (a2:aH):OT pf.Y:=
 let z0:Int:=cl a0 a1.fst (List.length a1.snd)
 let z1:Bool:=eH ((a2,()),())
 let z2:Int:=ay a0 (1:Int)
 (.br (z0==(0:Int))
 (.br (a1.fst==(1:Int))
  (gd [z1] (.ok ⟨Gl,(((),(0:Int),()),(a0,(),(),()),(z2,(),()),a2,a1.snd,())⟩))
  (gd [z1] (.ok ⟨PM,(((),(0:Int),()),(a0,(),(),()),(z2,(),()),a2,((64:Int),(7640891576939301192:UInt64),(13503953896175478587:UInt64),(4354685564936845355:UInt64),(11912009170470909681:UInt64),(5840696475078001361:UInt64),(11170449401992604703:UInt64),(7924071207369364504:UInt64),(3427420097777323800:UInt64),(),(0:UInt64),()),[],())⟩)))
 (.br (!z0==(0:Int))
  (.ok ⟨Gk,(((),z0,()),())⟩)
  (gd [z1] (.ok ⟨aeJ,(((),(0:Int),()),(a0,(),(),()),a2,())⟩))))
theorem akk (pre:HI->Bool) (F:HI->OT pf.Y) (hF:∀ (x:HI) oy,pre x=true->(F x).run=some oy->(ZX x.1.1 x.1.2.1 x.1.2.2.1).run=some oy):aa aj 15 (pf.az pre F):=
 dh Cw 15 Tryz.f15 pf [Gl,PM,Gk,aeJ] bE (λx=>ZX x.1.1 x.1.2.1 x.1.2.2.1) hF
def aot (x:HI):Bool:=decide (x.1.2.2.1.length<=140737488355328)
def ZY (x:HI):OT pf.Y:=.br (cl x.1.1 x.1.2.1.1 x.1.2.1.2.length==0)
 (.br (x.1.2.1.1==1) (.ok ⟨Gl,(((),(0:Int),()),(x.1.1,(),(),()),(ay x.1.1 1,(),()),x.1.2.2.1,x.1.2.1.2,())⟩)
  (.ok ⟨PM,(((),(0:Int),()),(x.1.1,(),(),()),(ay x.1.1 1,(),()),x.1.2.2.1,PS,[],())⟩))
 (.ok ⟨Gk,(((),cl x.1.1 x.1.2.1.1 x.1.2.1.2.length,()),())⟩)
theorem avL:aa aj 15 (pf.az aot ZY):=akk _ _ λx oy hp ho=>by
 rw [<-ho]
 clear ho
 obtain ⟨⟨c,⟨mode,l⟩,b,⟨⟩⟩,⟨⟩⟩:=x
 have hb:eH ((b,()),())=true:=hp
 unfold ZX ZY
 dsimp only
 rw [hb]
 by_cases he:(cl c mode l.length==0)=true
 ·refine (OT.ak he).trans (Eq.trans ?_ (OT.ak he).symm)
  by_cases hm:(mode==1)=true
  ·exact (OT.ak hm).trans ((ae rfl).trans (OT.ak hm).symm)
  ·have hm:=Bool.eq_false_iff.2 hm
   exact (OT.au hm).trans ((ae rfl).trans (OT.au hm).symm)
 ·have he:=Bool.eq_false_iff.2 he
  exact (OT.au he).trans ((OT.ak (by show (!(cl c mode l.length==0))=true;rw [he];rfl)).trans (OT.au he).symm)
def ky:af:=⟨[aD,aD,iS],[],false,0,false⟩
def gY:aL:=⟨[.mix (.prod .int .int) 0 (.prod Ct Ct),aD],[(0,.row Ct)],false⟩
def aaQ:SV->Option aL:=λ_=>some gY
def aHj:CSh:=.cells [.val false .int,.val false .int,.own 1,.val false (.prod .elem (.prod .elem .bool)),.val false (.prod .elem (.prod .elem .bool))]
def akI:Shape:=akM
def kx:Shape:=⟨70,[jO,xf],[(0,aHj),Cp],0,true⟩
def nl:Shape:=UQ
abbrev AW:Type:=(Int×Int×dp)×Unit
abbrev bV:Type:=(Int×Int×aH×ry)×aiq
abbrev gZ:Type:=ru×(Int×Int×Unit×cI×rp)×LA
abbrev jd:Type:=(Int×kR)×aiq
def akL (a0:Int) (a1:Int) (a2:aH) (a32:Int) (a33:Int) (c0_0:Int) (c0_1:Int) (c0_2:cH) (c0_3:cI) (c0_4:cI) (c1:cH):OT (Sum bV aZ):=
 let z0:Ce:=L8 a0 a33 a2
 let z1:=z0.snd
 let z2:ab:= {w0:=0,w1:=0,w2:=0,w3:=0}
 let z3:cI:=(z2,z2,false)
 (.br (decide (a33<a32))
 (gd [ye ((a0,a33,a2,()),())] (.br (!z1==(0:Int))
  (.ok (.inr ⟨(.ret,kx),(((),z1,()),((0:Int),(0:Int),(),z3,z3,()),[],())⟩))
  (gd [decide ((List.length c1+1)*72<=140737488355328),inR (a33+(1:Int))] (.ok (.inl ((a0,a1,a2,(),(),a32,a33+(1:Int),()),(c0_0,c0_1,c0_2,c0_3,c0_4,()),c1++ [z0.fst],()))))))
 (.ok (.inr ⟨(.exit 0,nl),((a0,a1,(),(),()),(c0_0,c0_1,c0_2,c0_3,c0_4,()),c1,())⟩)))
def oi (s:bV):OT (Sum bV aZ):=akL s.1.1 s.1.2.1 s.1.2.2.1 s.1.2.2.2.2.2.1 s.1.2.2.2.2.2.2.1 s.2.1.1 s.2.1.2.1 s.2.1.2.2.1 s.2.1.2.2.2.1 s.2.1.2.2.2.2.1 s.2.2.1
def C8 (g0_r:bV->gZ) (c0_r:bV->Bool) (g0_0:bV->jd) (s:bV):OT aZ:=(.br (c0_r s) (.ok ⟨(.ret,kx),g0_r s⟩) (.ok ⟨(.exit 0,nl),g0_0 s⟩))
section
variable (ok0:bV->Bool) (g0_r:bV->gZ) (c0_r:bV->Bool) (g0_0:bV->jd)
def UO (a0:Int) (a1:Int) (a2:aH):OT ky.Y:=
 let z0:Int×Int:=((0:Int),(0:Int))
 let z1:ab:= {w0:=0,w1:=0,w2:=0,w3:=0}
 let z2:cI:=(z1,z1,false)
 let z3:cI×cI:=(z2,z2)
 let z4:bV:=((a0,a1,a2,(),(),VM (1:Int) a1+(2:Int),(0:Int),()),((0:Int),(0:Int),[],z2,z2,()),[],())
 let z5:gZ:=g0_r z4
 let z6:=z5.snd
 let z7:=z6.fst
 let z8:=z7.snd
 let z9:=z8.snd.snd
 let z10:jd:=g0_0 z4
 let z11:=z10.fst
 let z12:=z11.snd.fst
 let z13:Int:=VM (1:Int) z12
 let z14:Bool:=decide (z13=(0:Int))
 let z15:=z10.snd.snd.fst
 let z16:Nat:=List.length z15
 let z17:Bool:=inB z13 z16
 let z18:Nat:=Int.toNat z13
 let z19:Bool:=decide (z18<z16)
 let z20:Bool:=inR (z13+(1:Int))
 let z21:Bool:=inB (z13+(1:Int)) z16
 let z22:Nat:=Int.toNat (z13+(1:Int))
 let z23:Bool:=decide (z22<z16)
 let z24:Int×Int:=(z11.fst,z12)
 let z25:cI×cI:=(List.getD z15 z18 z2,List.getD z15 z22 z2)
 let z26:Int:=(↑z16:Int)
 let z27:Bool:=decide (z13=z26)
 (.br (ac a0)
 (.br (decide (a1<(0:Int)))
  (.ok ⟨gY,(((z0,(),z3),(60:Int),()),[],())⟩)
  (.br (decide ((5:Int)<a1))
   (.ok ⟨gY,(((z0,(),z3),(60:Int),()),[],())⟩)
   (gd [decide ((0:Int)<=a1),inR (VM (1:Int) a1+(2:Int)),ok0 z4] (.br (c0_r z4)
    (.ok ⟨gY,((((z7.fst,z8.fst),(),z9.fst,z9.snd.fst),z5.fst.snd.fst,()),z6.snd.fst,())⟩)
    (gd [decide ((0:Int)<=z12)] (.br (z14&&z14)
     (gd [z17,z19,z20,z21,z23] (.ok ⟨gY,(((z24,(),z25),(0:Int),()),[],())⟩))
     (.br (z27&&z27)
      (gd [z17,z19,z20,z21,z23] .fail)
      (gd [decide ((0:Int)<=z13)&&decide (z13<=z13)&&decide (z13<=z26),z17,z19,z20,z21,z23,Nat.ble z18 z16] (.ok ⟨gY,(((z24,(),z25),(0:Int),()),List.take z18 z15,())⟩)))))))))
 (.ok ⟨gY,(((z0,(),z3),(40:Int),()),[],())⟩))
theorem UN (h0:bh oi ok0 (C8 g0_r c0_r g0_0)) (pre:AW->Bool) (F:AW->OT ky.Y) (hF:∀ (x:AW) oy,pre x=true->(F x).run=some oy->(UO ok0 g0_r c0_r g0_0 x.1.1 x.1.2.1 x.1.2.2.1).run=some oy):aa aj 33 (ky.az pre F):=
 aIj Cw 33 Tryz.f33 ky aaQ (kZ Cw 0 akI [(0,nl)] (some kx) none oi bE h0 bE) (λx=>UO ok0 g0_r c0_r g0_0 x.1.1 x.1.2.1 x.1.2.2.1) hF
end
def Iq (s:bV):Bool:=decide (s.1.2.2.2.2.2.2.1=0/\0<=s.1.2.2.2.2.2.1/\s.1.2.2.2.2.2.1<=34/\s.2.2.1= []/\s.1.2.2.1.length<=140737488351232)
def sy (s:bV):List Pt×Int:=anv s.1.1 s.1.2.2.1 s.1.2.2.2.2.2.1.toNat 0 []
def uU (s:bV):gZ:=(((),(sy s).2,()),(0,0,(),fa,fa,()),[],())
def AV (s:bV):Bool:= !((sy s).2==(0:Int))
def uV (s:bV):jd:=((s.1.1,s.1.2.1,(),(),()),s.2.1,(sy s).1,())
def aCZ (c k:Int) (p:aIa) (r:List Pt×Int):aZ:=cond (!(r.2==(0:Int))) ⟨(.ret,kx),((((),r.2,()),(0,0,(),fa,fa,()),[],()):gZ)⟩ ⟨(.exit 0,nl),(((c,k,(),(),()),p,r.1,()):jd)⟩
theorem afI {c k:Int} {b:List UInt8} {p:aIa} {N:Nat} (hN:N<=34) (hl:b.length<=140737488351232):∀ (n i:Nat) (l:List Pt),i+n=N->l.length=i->∃ m,cU oi m ((c,k,b,(),(),(N:Int),(i:Int),()),p,l,())=some (aCZ c k p (anv c b n i l))
 |0,i,l,hi,_=>⟨1,aV (OT.au (bq (by dsimp only;omega)))⟩
 |n+1,i,l,hi,hk=>by
  have hstep:(oi ((c,k,b,(),(),(N:Int),(i:Int),()),p,l,())).run=(OT.br (!((L8 c (i:Int) b).2==(0:Int))) (.ok (.inr ⟨(.ret,kx),((((),(L8 c (i:Int) b).2,()),(0,0,(),fa,fa,()),[],()):gZ)⟩))
   (gd [decide ((l.length+1)*72<=140737488355328),inR ((i:Int)+1)] (.ok (.inl ((c,k,b,(),(),(N:Int),(i:Int)+1,()),p,l++ [(L8 c (i:Int) b).1],())))):OT (Sum bV aZ)).run:=
   (OT.ak (ag (by dsimp only;omega))).trans ((ae (by simp only [aA,aI,aJ];exact ag hl)).trans rfl)
  unfold anv
  cases hd: !((L8 c (i:Int) b).2==(0:Int))
  ·obtain ⟨m,hm⟩:=afI (c:=c) (k:=k) (p:=p) hN hl n (i+1) (l++ [(L8 c (i:Int) b).1]) (by omega) (by rw [bK];simp only [List.length_cons,List.length_nil];omega)
   refine ⟨m+1,bL (hstep.trans ((OT.au hd).trans ((ae ?_).trans rfl))) hm⟩
   simp only [aA,aI,aJ,aw]
   exact ⟨ag (by omega),aS (by omega)⟩
  ·refine ⟨1,aV (hstep.trans ((OT.ak hd).trans ?_))⟩
   unfold aCZ
   rw [aK]
   dsimp only
   rw [hd]
   rfl
theorem akK:bh oi Iq (C8 uU AV uV):=by
 rintro ⟨⟨c,k,b,⟨⟩,⟨⟩,n,i,⟨⟩⟩,⟨p,l,⟨⟩⟩⟩ h
 have h':=bn h
 dsimp only at h'
 obtain ⟨rfl,h0,h1,rfl,hl⟩:=h'
 obtain ⟨N,rfl⟩:∃ N:Nat,n=(N:Int):=⟨n.toNat,by omega⟩
 obtain ⟨m,hm⟩:=afI (c:=c) (k:=k) (p:=p) (N:=N) (by omega) hl N 0 [] (by omega) rfl
 refine ⟨m,_,hm,?_⟩
 have e:sy ((c,k,b,(),(),(N:Int),0,()),p,[],())=anv c b N 0 []:=rfl
 unfold C8 AV uU uV aCZ
 rw [e]
 generalize anv c b N 0 []=r
 cases hd: !(r.2==(0:Int))
 ·rfl
 ·rfl
def Ip (x:AW):Bool:=decide (x.1.2.2.1.length<=140737488351232)
def aG9 (p:mf×Int):ky.Y:=⟨gY,((((p.1.1,p.1.2.1),(),p.1.2.2.2.1,p.1.2.2.2.2),p.2,()),p.1.2.2.1,())⟩
def UP (x:AW):OT ky.Y:=.ok ⟨gY,(((((aar x.1.1 x.1.2.1 x.1.2.2.1).1.1,(aar x.1.1 x.1.2.1 x.1.2.2.1).1.2.1),(),(aar x.1.1 x.1.2.1 x.1.2.2.1).1.2.2.2.1,(aar x.1.1 x.1.2.1 x.1.2.2.1).1.2.2.2.2),(aar x.1.1 x.1.2.1 x.1.2.2.1).2,()),(aar x.1.1 x.1.2.1 x.1.2.2.1).1.2.2.1,())⟩
theorem akJ:aa aj 33 (ky.az Ip UP):=UN Iq uU AV uV akK _ _ λx oy hp ho=>by
 rw [<-ho]
 clear ho
 obtain ⟨⟨c,k,b,⟨⟩⟩,⟨⟩⟩:=x
 have hl:b.length<=140737488351232:=bn hp
 show _=some (aG9 (aar c k b))
 rcases (b9 (ac c)).symm with hs|hs
 ·rw [show aar c k b=(aa9,40) from by unfold aar;rw [hs];rfl]
  exact OT.au hs
 refine (OT.ak hs).trans ?_
 by_cases h0:k<0
 ·rw [show aar c k b=(aa9,60) from by unfold aar;rw [hs,ag h0];rfl]
  exact OT.ak (ag h0)
 refine (OT.au (bq h0)).trans ?_
 by_cases h5:5<k
 ·rw [show aar c k b=(aa9,60) from by unfold aar;rw [hs,bq h0,ag h5];rfl]
  exact OT.ak (ag h5)
 rw [show aar c k b=aHb c k (anv c b (avm k+2) 0 []) from by unfold aar;rw [hs,bq h0,bq h5];rfl]
 obtain ⟨hN,hn1,hn2⟩:=aDj h0 h5
 refine (OT.au (bq h5)).trans ?_
 have hlen:=afK (c:=c) (b:=b) (avm k+2) 0 []
 unfold AV uU uV sy aHb
 dsimp only
 generalize avm k=N at*
 rw [hN]
 rw [show ((N:Int)+2).toNat=N+2 by omega]
 generalize anv c b (N+2) 0 []=r at*
 refine (ae ?_).trans ?_
 ·simp only [aA,aI,aJ,aw]
  exact ⟨ag (by omega),aS (by omega),ag ⟨rfl,by dsimp only;omega,by dsimp only;omega,rfl,hl⟩⟩
 cases hd: !(r.2==(0:Int))
 ·have hlen:=hlen hd
  simp only [List.length_nil] at hlen
  have hlen:r.1.length=N+2:=by omega
  rw [show ((N:Int)+1).toNat=N+1 by omega,hlen]
  refine (OT.au rfl).trans ((ae (by simp only [aA,aI,aJ];exact ag (by omega))).trans ((OT.au (by rw [bq (by omega)];rfl)).trans ((OT.au (by rw [bq (by omega)];rfl)).trans ((ae ?_).trans rfl))))
  simp only [aA,aI,aJ,aw]
  exact ⟨⟨⟨ag (by omega),ag (by omega)⟩,ag (by omega)⟩,ba (by omega),ag (by omega),aS (by omega),ba (by omega),ag (by omega),jR (by omega)⟩
 ·exact (OT.ak rfl).trans rfl
def sx:bx:=(Kc 2 (ky.az Ip UP))
theorem Qk:aa aj 33 sx:=(Kb akJ)
theorem Qj:ax sx:=(zj av)
def YR:Env:=aq 33 sx auC
theorem aef:bU aj te YR:=aU follows Cw Qk Qj
abbrev asj:af:=wY
def gQ (x:ac8):Bool:=ac x.1.1
def asl (x:ac8):OT wY.Y:=.ok ⟨Ef,((dr (pS x.1.1) x.1.2.1 x.1.2.2.1,()),())⟩
theorem ayA:aa aj 29 (asj.az gQ asl):=cJ (S:=wY) asm λx oy hp ho=>⟨rfl,(OT.ak (b:=ac x.1.1) hp).trans ho⟩
def Ee:bx:=(asj.az gQ asl)
theorem ac7:aa aj 29 Ee:=ayA
theorem ac6:ax Ee:=av
def avb:Env:=aq 29 Ee YR
theorem ava:bU aj te avb:=aU follows aef ac7 ac6
abbrev arC:af:=wT
def BB (x:acy):Bool:=ac x.1.1
def arD (x:acy):OT wT.Y:=.ok ⟨tq,((iq (pS x.1.1) x.1.2.1 x.1.2.2.1,()),())⟩
theorem ax5:aa aj 91 (arC.az BB arD):=cJ (S:=wT) arE λx oy hp ho=>⟨rfl,(OT.ak (b:=ac x.1.1) hp).trans ho⟩
def DX:bx:=(arC.az BB arD)
theorem acx:aa aj 91 DX:=ax5
theorem acw:ax DX:=av
def auW:Env:=aq 91 DX avb
theorem auV:bU aj te auW:=aU follows ava acx acw
abbrev arZ:af:=wV
def dY (x:acP):Bool:=ac x.1.1
def ar0 (x:acP):OT wV.Y:=.ok ⟨D5,((aR (pS x.1.1) x.1.2.1 x.1.2.2.1,()),())⟩
theorem ayu:aa aj 70 (arZ.az dY ar0):=cJ (S:=wV) ar1 λx oy hp ho=>⟨rfl,(OT.ak (b:=ac x.1.1) hp).trans ho⟩
def D4:bx:=(arZ.az dY ar0)
theorem acO:aa aj 70 D4:=ayu
theorem acN:ax D4:=av
def au4:Env:=aq 70 D4 auW
theorem au3:bU aj te au4:=aU follows auV acO acN
abbrev arT:af:=wU
def tF (x:acI):Bool:=ac x.1.1
def arU (x:acI):OT wU.Y:=.ok ⟨D2,((kW (pS x.1.1) x.1.2.1,()),())⟩
theorem aym:aa aj 67 (arT.az tF arU):=cJ (S:=wU) arV λx oy hp ho=>⟨rfl,(OT.ak (b:=ac x.1.1) hp).trans ho⟩
def D1:bx:=(arT.az tF arU)
theorem acH:aa aj 67 D1:=aym
theorem acG:ax D1:=av
def au1:Env:=aq 67 D1 au4
theorem au0:bU aj te au1:=aU follows au3 acH acG
abbrev ar6:af:=wW
def tK (x:acV):Bool:=ac x.1.1&& !Nat.beq (x.1.2.1.nat%pS x.1.1) 0
def ar7 (x:acV):OT wW.Y:=.ok ⟨qv,((CC (pS x.1.1) x.1.2.1,(0:Int),()),())⟩
theorem ayw:aa aj 68 (ar6.az tK ar7):=cJ (S:=wW) ar8 λx oy hp ho=>by
 have hp':(ac x.1.1&& !Nat.beq (x.1.2.1.nat%pS x.1.1) 0)=true:=hp
 rw [aw,Bool.not_eq_true'] at hp'
 exact ⟨rfl,(OT.ak (b:=ac x.1.1) hp'.1).trans ((OT.au (b:=Nat.beq (x.1.2.1.nat%pS x.1.1) 0) hp'.2).trans ho)⟩
def D8:bx:=(ar6.az tK ar7)
theorem acU:aa aj 68 D8:=ayw
theorem acT:ax D8:=av
def au7:Env:=aq 68 D8 au1
theorem au6:bU aj te au7:=aU follows au0 acU acT
abbrev aqh:af:=sI
def om (x:abl):Bool:=ac x.1.1&&(decide (x.1.2.1.length<=100000)&&cv x.1.1 x.1.2.1)
def aqi (x:abl):OT sI.Y:=.ok ⟨jk,((AF x.1.1 (wC x.1.1 x.1.2.1),(0:Int),()),())⟩
theorem axj:aa aj 84 (aqh.az om aqi):=cJ (S:=sI) aqj λx oy hp ho=>by
 have hp':(ac x.1.1&&(decide (x.1.2.1.length<=100000)&&cv x.1.1 x.1.2.1))=true:=hp
 rw [aw,aw] at hp'
 exact ⟨rfl,(OT.ak (b:=ac x.1.1) hp'.1).trans ((OT.ak (b:=decide (x.1.2.1.length<=100000)) hp'.2.1).trans ((OT.ak (b:=cv x.1.1 x.1.2.1) hp'.2.2).trans ho))⟩
def Ds:bx:=(aqh.az om aqi)
theorem abi:aa aj 84 Ds:=axj
theorem abh:ax Ds:=av
def auL:Env:=aq 84 Ds au7
theorem YW:bU aj te auL:=aU follows au6 abi abh
def yW:af:=⟨[rA,aD],[],false,0,false⟩
def Ri:aL:=⟨[],[],false⟩
def Rh:aL:=⟨Ac,[],true⟩
abbrev VZ:Type:=(Bool×eS)×Unit
def aq3 (a0:Bool) (a1:Int):OT yW.Y:=
 (.br (!a0)
 (.ok ⟨Rh,((a1,()),())⟩)
 (.ok ⟨Ri,((),())⟩))
theorem alR (pre:VZ->Bool) (F:VZ->OT yW.Y) (hF:∀ (x:VZ) oy,pre x=true->(F x).run=some oy->(aq3 x.1.1 x.1.2.1).run=some oy):aa aj 60 (yW.az pre F):=
 aD0 YW 60 Tryz.f60 yW [Ri] [Rh] bE (λx=>aq3 x.1.1 x.1.2.1) hF
noncomputable def aHd:anx:=⟨57,175,40,Tryz.f56,56⟩
theorem awK (v:Value) (w:World):CallsD aj 57 #[v] .returning w λe u' w'=>e=.returned (.tuple #[])/\u'=.returning/\w'=w:=by
 refine callsD_of_wpS Tryz.func57 rfl λc₀ cs hu=> ?_
 apply wpS_seq
 apply wpS_region
 simp [wpOpsS,go_sem,recoverD,hu,Tryz.ntmps57,Exit.thenS]
 apply wpS_seq
 apply wpS_region
 simp [wpOpsS,go_sem,recoverD,hu,Exit.thenS]
 refine wpS_cond (t:=false) (by simp [Act.eval,Array.replicate]) ?_
 simp only [Bool.false_eq_true,if_false]
 refine wpS_of_wp (wp_skip ?_)
 cases c₀
 simp_all [bodyPostS,results,Tryz.results57]
theorem aaA (v:Value) (x:TypeId) (w:World):(Instr.typeAssert (.iface 175 v) x 175 false).run aj w=.ok v w:=by
 obtain ⟨ds,hu,hd⟩:=(Mb 175 Gq (by kernel_rfl)).desc
 have hk:Gq.desc=.struct [(0,40)]:=by kernel_rfl
 rw [hk] at hd
 obtain ⟨_,rfl,_⟩:=hd
 simp [Instr.typeAssert,Sem.run_bind,run_underlying hu]
theorem akB (x:Int) (w:World):(Instr.field 175 (.agg #[.int .i64 x]) 0).run aj w=.ok (.int .i64 x) w:=by
 simp [Instr.field,go_sem,asAgg]
theorem awL (ad:Addr) (x:Int) (w w':World) (h:(storeVar 40 ad (.int .i64 x)).run aj w=.ok () w'):
 CallsD aj 57 #[.pointer (some ad)] (.panicking [{v:=.iface 175 (.agg #[.int .i64 x]),recovered:=false}]) w λe u' w''=>e=.returned (.tuple #[])/\u'=.panicking [{v:=.iface 175 (.agg #[.int .i64 x]),recovered:=true}]/\w''=w':=by
 refine callsD_of_wpS Tryz.func57 rfl λc₀ cs hu=> ?_
 apply wpS_seq
 apply wpS_region
 simp [wpOpsS,go_sem,recoverD,hu,Tryz.ntmps57,Exit.thenS]
 apply wpS_seq
 apply wpS_region
 simp [wpOpsS,go_sem,recoverD,hu,Exit.thenS]
 refine wpS_cond (t:=true) (by simp [Act.eval,Array.replicate]) ?_
 simp only [if_true]
 apply wpS_region
 simp [go_sem] at h
 simp [wpOpsS,go_sem,aaA,akB,h,bodyPostS,results,Tryz.results57]
theorem apd:LO aj aHd where
 fn:=⟨Tryz.f57,by kernel_rfl,by kernel_rfl,by kernel_rfl⟩
 ret:=awK
 pan:=awL
 gfn:=⟨by kernel_rfl,by kernel_rfl,by kernel_rfl⟩
def VY (_:VZ):Bool:=true
def aq4 (x:VZ):OT yW.Y:=.br x.1.1 (.ok ⟨Ri,((),())⟩) (.ok ⟨Rh,((x.1.2.1,()),())⟩)
theorem axO:aa aj 60 (yW.az VY aq4):=alR _ _ λx oy hp ho=>by
 rw [<-ho]
 clear ho
 obtain ⟨⟨b,e,⟨⟩⟩,⟨⟩⟩:=x
 cases b<;>rfl
def DN:bx:=(yW.az VY aq4)
theorem ab9:aa aj 60 DN:=axO
theorem ab8:ax DN:=av
def auQ:Env:=aq 60 DN auL
theorem Y4:bU aj te auQ:=aU follows YW ab9 ab8
def qk:af:=⟨kT,[],false,0,false⟩
def JU:aL:=⟨il,[],false⟩
def JT:aL:=⟨Ac,[],true⟩
abbrev JV:Type:=aik
def agQ (a0:ab) (a1:Int):OT qk.Y:=
 (.br (!a1==(0:Int))
 (.ok ⟨JT,((a1,()),())⟩)
 (.ok ⟨JU,((a0,()),())⟩))
theorem ace (pre:JV->Bool) (F:JV->OT qk.Y) (hF:∀ (x:JV) oy,pre x=true->(F x).run=some oy->(agQ x.1.1 x.1.2.1).run=some oy):aa aj 64 (qk.az pre F):=
 aD0 Y4 64 Tryz.f64 qk [JU] [JT] bE (λx=>agQ x.1.1 x.1.2.1) hF
def NT (_:JV):Bool:=true
def agR (x:JV):OT qk.Y:=.br (x.1.2.1==0) (.ok ⟨JU,((x.1.1,()),())⟩) (.ok ⟨JT,((x.1.2.1,()),())⟩)
theorem aq7:aa aj 64 (qk.az NT agR):=ace _ _ λx oy hp ho=>by
 rw [<-ho]
 clear ho
 obtain ⟨⟨v,e,⟨⟩⟩,⟨⟩⟩:=x
 rcases (b9 (e==0)).symm with h|h
 ·exact (OT.ak (b:= !(e==0)) (by rw [h];rfl)).trans (OT.au (b:=e==0) h).symm
 ·exact (OT.au (b:= !(e==0)) (by rw [h];rfl)).trans (OT.ak (b:=e==0) h).symm
def y9:bx:=(qk.az NT agR)
theorem V7:aa aj 64 y9:=aq7
theorem V6:ax y9:=av
def ai6:Env:=aq 64 y9 auQ
theorem Pa:bU aj te ai6:=aU follows Y4 V7 V6
def qi:af:=⟨LJ,[],false,0,false⟩
def JO:aL:=⟨oZ,[],false⟩
def JN:aL:=⟨Ac,[],true⟩
abbrev JP:Type:=(cI×eS)×Unit
def agM (a0:cI) (a1:Int):OT qi.Y:=
 (.br (!a1==(0:Int))
 (.ok ⟨JN,((a1,()),())⟩)
 (.ok ⟨JO,((a0,()),())⟩))
theorem acb (pre:JP->Bool) (F:JP->OT qi.Y) (hF:∀ (x:JP) oy,pre x=true->(F x).run=some oy->(agM x.1.1 x.1.2.1).run=some oy):aa aj 62 (qi.az pre F):=
 aD0 Pa 62 Tryz.f62 qi [JO] [JN] bE (λx=>agM x.1.1 x.1.2.1) hF
def NR (_:JP):Bool:=true
def agN (x:JP):OT qi.Y:=.br (x.1.2.1==0) (.ok ⟨JO,((x.1.1,()),())⟩) (.ok ⟨JN,((x.1.2.1,()),())⟩)
theorem aq5:aa aj 62 (qi.az NR agN):=acb _ _ λx oy hp ho=>by
 rw [<-ho]
 clear ho
 obtain ⟨⟨v,e,⟨⟩⟩,⟨⟩⟩:=x
 rcases (b9 (e==0)).symm with h|h
 ·exact (OT.ak (b:= !(e==0)) (by rw [h];rfl)).trans (OT.au (b:=e==0) h).symm
 ·exact (OT.au (b:= !(e==0)) (by rw [h];rfl)).trans (OT.ak (b:=e==0) h).symm
def yY:bx:=(qi.az NR agN)
theorem V3:aa aj 62 yY:=aq5
theorem V2:ax yY:=av
def ai4:Env:=aq 62 yY ai6
theorem O8:bU aj te ai4:=aU follows Pa V3 V2
def qj:af:=⟨[aD,aD],[],false,0,false⟩
def JR:aL:=⟨jG,[],false⟩
def JQ:aL:=⟨Ac,[],true⟩
abbrev JS:Type:=jM×Unit
def agO (a0:Int) (a1:Int):OT qj.Y:=
 (.br (!a1==(0:Int))
 (.ok ⟨JQ,((a1,()),())⟩)
 (.ok ⟨JR,((a0,()),())⟩))
theorem acd (pre:JS->Bool) (F:JS->OT qj.Y) (hF:∀ (x:JS) oy,pre x=true->(F x).run=some oy->(agO x.1.1 x.1.2.1).run=some oy):aa aj 109 (qj.az pre F):=
 aD0 O8 109 Tryz.f109 qj [JR] [JQ] bE (λx=>agO x.1.1 x.1.2.1) hF
def NS (_:JS):Bool:=true
def agP (x:JS):OT qj.Y:=.br (x.1.2.1==0) (.ok ⟨JR,((x.1.1,()),())⟩) (.ok ⟨JQ,((x.1.2.1,()),())⟩)
theorem aq6:aa aj 109 (qj.az NS agP):=acd _ _ λx oy hp ho=>by
 rw [<-ho]
 clear ho
 obtain ⟨⟨v,e,⟨⟩⟩,⟨⟩⟩:=x
 rcases (b9 (e==0)).symm with h|h
 ·exact (OT.ak (b:= !(e==0)) (by rw [h];rfl)).trans (OT.au (b:=e==0) h).symm
 ·exact (OT.au (b:= !(e==0)) (by rw [h];rfl)).trans (OT.ak (b:=e==0) h).symm
def yZ:bx:=(qj.az NS agP)
theorem V5:aa aj 109 yZ:=aq6
theorem V4:ax yZ:=av
def ai5:Env:=aq 109 yZ ai4
theorem O9:bU aj te ai5:=aU follows O8 V5 V4
def xQ:af:=⟨[jK],[],false,0,false⟩
abbrev Up:Type:=fG×Unit
def afM:aL:=⟨[.fn 127 [0]],[(0,Cs)],false⟩
def aav (a0:aB):OT xQ.Y:=
 (.ok ⟨afM,(((),()),(a0,()),())⟩)
theorem akt (pre:Up->Bool) (F:Up->OT xQ.Y) (hF:∀ (x:Up) oy,pre x=true->(F x).run=some oy->(aav x.1.1).run=some oy):aa aj 81 (xQ.az pre F):=
 dh O9 81 Tryz.f81 xQ [afM] bE (λx=>aav x.1.1) hF
def Uo (_:Up):Bool:=true
def ao4 (x:Up):OT xQ.Y:=aav x.1.1
theorem awH:aa aj 81 (xQ.az Uo ao4):=akt _ _ λx oy hp ho=>ho
def C4:bx:=(xQ.az Uo ao4)
theorem aau:aa aj 81 C4:=awH
theorem aat:ax C4:=av
def iw:Env:=aq 81 C4 ai5
theorem YQ:bU aj te iw:=aU follows O9 aau aat
end
section
namespace Sx
open Go
def aDq (Q:Exit->Act->World->Prop):Exit->Act->World->Prop
 |.outgrown,_,_=>False
 |e,a,w=>Q e a w
theorem alb {Q:Exit->Act->World->Prop} (h:LetsOut (aDq Q)):False:=by
 obtain ⟨_,_,h⟩:=h
 exact h
theorem Vm {R₀:Ctx} {K:SE->St->Prop} {Q:Exit->Act->World->Prop} (h:o5 R₀ K Q):o5 R₀ K (aDq Q):=⟨h.normal,h.ret,h.exit,h.pan⟩
theorem axe {Q:Exit->Act->World->Prop}:∀ (e:Exit) (a:Act) (w:World),aDq Q e a w->Q e a w
 |.normal,_,_,h|.ret,_,_,h|.exit _,_,_,h|.goto _,_,_,h|.panic _,_,_,h=>h
 |.outgrown,_,_,h=>h.elim
def Nx (o:Oper):Bool:=match o.op with
 |.defer _=>false
 |_=>true
def aba:Code->Bool
 |.skip|.exit _|.ret=>true
 |.region _ ops _=>ops.toList.all Nx
 |.seq a b|.cond _ a b=>aba a&&aba b
 |.block _ c=>aba c
 |_=>false
section
variable {P:Program} {l n:Nat} {Q:Exit->Act->World->Prop}
theorem aFI {o:Oper} (hd:Nx o=true) {a:Act} {w:World} {K:Act->World->Prop} (h:o.wp P a w K Q):o.wpIn (Fence.wide.inRound l) n P a w K Q:=by
 unfold Oper.wp at h
 refine ⟨λ_ _=>trivial,?_⟩
 rw [Oper.semAt_eq _ _ _ λc e=>by unfold Nx at hd;rw [e] at hd;cases hd]
 generalize (execOp a.eval o).run P w=r at h⊢
 cases r with
 |ok x w'=>
  cases x<;>simp only [Oper.upon] at h<;>first|exact h.elim|exact h|exact ⟨λe=>(by cases e),CallsIn.inRound l (callsIn_wide.2 h)⟩|exact ⟨λe=>(by cases e),λc cs _=>let ⟨v,w',r,s⟩:=h c cs;⟨v,w',r,stepsIn_wide.2 s⟩⟩
 |halt x w'=>cases x<;>first|exact h|exact h.elim
theorem aih {ops:Array Oper} (hd:ops.toList.all Nx=true) {md:Region.Mode} (hQ:LetsOut Q->False):∀ (fuel:Nat) (listed:Array Bool) (a:Act) (w:World),wpAny P md ops Q fuel listed a w->wpAnyIn (Fence.wide.inRound l) n P md ops Q fuel listed a w
 |0,_,_,_,h=>h
 |fuel+1,listed,a,w,h=>by
  refine ⟨h.1,λi hi=> ?_⟩
  have h2:=h.2 i hi
  unfold wpOp at h2
  unfold wpOpIn
  cases ho:ops[i]? with
  |none=>rw [ho] at h2;exact aih hd hQ fuel _ _ _ h2
  |some o=>
   rw [ho] at h2
   simp only at h2⊢
   have hm:Nx o=true:=List.all_eq_true.1 hd o (by
    exact Array.mem_toList_iff.2 (Array.mem_of_getElem? ho))
   split
   ·rename_i hw
    rw [if_pos hw] at h2
    rcases h2 with h2|h2
    ·exact Oper.wpIn_mono (λa w h=>aih hd hQ fuel _ a w h) (aFI hm h2)
    ·exact (hQ h2.2).elim
   ·rename_i hw
    rw [if_neg hw] at h2
    exact ⟨λ_ _=>trivial,aih hd hQ fuel _ _ _ h2⟩
variable {te:TE} {Φ:Env}
theorem aEP (hm:P.follows .mixedOrders=true) (hte:kq P te) (hΦ:oa P Φ) (hmono:ob Φ) {R₀:Ctx} {ops:Array Oper} {K:SE->St->Prop} {R:Ctx} {st:St} {a:Act} {w:World} (hK:o5 R₀ K Q) (hx:R₀.Ext R) (hst:iT R st a w)
 (hok:e9 Φ ops (bitsOf ops)=true) (h:gU te Φ ops.toList (bitsOf ops) (Wp te Φ ops (bitsOf ops) st) K st 0 ops.toList []):wpAny P .any ops Q ops.size (Array.replicate ops.size false) a {w with drawn:=w.drawn+1}:=by
 obtain ⟨F,h1,h2⟩:=Ap (te:=te) (Φ:=Φ) (ops:=ops) (bs:=bitsOf ops) (H:=Wp te Φ ops (bitsOf ops) st) (st:=st) ops.toList [] trivial (λk=>by simp) h
 have hd0:∀ k,dB (Array.replicate ops.size false) k=false:=λk=>by unfold dB;simp [Array.getD]
 have hcl:CA (bitsOf ops) F.length (dB (Array.replicate ops.size false)):=λk _ hd=>by rw [hd0] at hd;cases hd
 have hst':bg st (dB (Array.replicate ops.size false)) F=st:=by
  rw [gN (D':=λ_=>false) λx hx=>hd0 _]
  clear h h1 h2 hcl
  induction F with
  |nil=>rfl
  |cons y r ih=>exact ih
 rcases h2 with ⟨h2,h3⟩|⟨h2,h3⟩
 ·refine aif hte hΦ hmono Bz hok h1 (by simpa using h2) hK h3 ops.size _ R a _ (by simp) (by simp) hcl hx ?_
  rw [hst']
  exact ⟨hst.hp,hst.mem.drew _,hst.tm,hst.defers⟩
 ·refine aua hte hΦ hmono Bz hok h1 (by simpa using h2) hK h3 ops.size _ R a _ (by simp) (by simp) hcl (hd0 _) hx ?_
  rw [hst']
  exact ⟨hst.hp,hst.mem.drew _,hst.tm,hst.defers⟩
theorem Ic (hte:kq P te) (hΦ:oa P Φ) {R₀:Ctx} {ops:Array Oper} {K:SE->St->Prop} (hK:o5 R₀ K Q):
 ∀ (r:List Oper) (R:Ctx) (st:St) (a:Act) (w:World),r.all Nx=true->R₀.Ext R->iT R st a w->io te Φ ops.toList K r st->wpListIn (Fence.wide.inRound l) n P ops Q r a w
 | [],R,st,a,w,_,hx,hst,h=>hK.normal R st a w hx hst h
 |o::r,R,st,a,w,hd,hx,hst,h=>by
  rw [aA,aw] at hd
  simp only [io] at h
  split at h
  ·exact h.elim
  ·rename_i b hb
   have hw:=gg hst hb
   simp only [wpListIn,hw]
   cases b
   ·simp only [Bool.false_eq_true,if_false]
    exact ⟨λ_ _=>trivial,Ic hte hΦ hK r R _ _ w hd.2 hx (hst.undef o.dst) h⟩
   ·simp only [if_true]
    obtain ⟨out,h1,h2⟩:=OT.Hk h
    refine aFI hd.1 (mc hte hΦ hst h1 ?_)
    cases out with
    |ret e=>exact λR' w' v ha hv=>Ic hte hΦ hK r R' _ _ w' hd.2 (hx.trans ha.ext) (hst.put ha hv o.dst) h2
    |pan sv u=>exact λR' w' v ha hv=>hK.pan R' _ a w' sv v (hx.trans ha.ext) (hst.TG ha) hv h2
theorem kr (g:bU P te Φ) (hm:P.follows .mixedOrders=true) {R₀:Ctx}:∀ (k:Nat) (c:Code) (R:Ctx) (st:St) (a:Act) (w:World) (K:SE->St->Prop) (Q:Exit->Act->World->Prop),aba c=true->
 R₀.Ext R->iT R st a w->wps te Φ fR k c st K->o5 R₀ K Q->c.wpIn (Fence.wide.inRound l) n P Q a w
 |0,c,R,st,a,w,K,Q,_,_,_,h,_=>h.elim
 |k+1,c,R,st,a,w,K,Q,hd,hx,hst,h,hK=>by
  rw [Py] at h
  cases c<;>simp only at h<;>first|exact h.elim|(cases hd;done)|skip
  case skip=>exact wpIn_skip (hK.normal R st a w hx hst h)
  case region id ops draw=>
   cases draw
   ·exact wpIn_region_list (Ic g.ty g.ok hK _ R st a w hd hx hst h)
   ·cases hr:e9 Φ ops (bitsOf ops)
    ·rw [hr] at h;exact h.elim
    ·rw [hr] at h
     exact wpIn_mono (wpIn_region_any hm (aih hd alb _ _ _ _ (aEP hm g.ty g.ok g.mono (Vm hK) hx hst hr h))) axe
  case seq x y=>
   simp only [aba,aw] at hd
   refine wpIn_seq (kr g hm k x R st a w _ _ hd.1 hx hst h ⟨?_,?_,?_,?_⟩)
   ·exact λR' st' a' w' hx' hst' hk=>kr g hm k y R' st' a' w' K Q hd.2 hx' hst' hk hK
   ·exact λR' st' a' w' hx' hst' hk=>hK.ret R' st' a' w' hx' hst' hk
   ·exact λR' st' a' w' id hx' hst' hk=>hK.exit R' st' a' w' id hx' hst' hk
   ·exact λR' st' a' w' sv v hx' hst' hv hk=>hK.pan R' st' a' w' sv v hx' hst' hv hk
  case cond c x y=>
   simp only [aba,aw] at hd
   split at h
   ·rename_i t ht
    have hc:=kn hst c
    rw [ht] at hc
    simp only [SV.rel] at hc
    refine wpIn_cond hc ?_
    cases t
    ·exact kr g hm k y R st a w K Q hd.2 hx hst h hK
    ·exact kr g hm k x R st a w K Q hd.1 hx hst h hK
   ·rename_i ht
    have hc:=kn hst c
    rw [ht] at hc
    simp only [SV.rel] at hc
    obtain ⟨t,hc⟩:=hc
    refine wpIn_cond hc ?_
    cases t
    ·exact kr g hm k y R st a w K Q hd.2 hx hst h.2 hK
    ·exact kr g hm k x R st a w K Q hd.1 hx hst h.1 hK
   ·exact h.elim
  case block id body=>
   replace h:wps te Φ fR k body st λe st'=>match e with
    |.exit j=>cond (j==id) (K .normal st') (K (.exit j) st')
    |e=>K e st':=h
   refine wpIn_block (kr g hm k body R st a w _ _ hd hx hst h ⟨?_,?_,?_,?_⟩)
   ·exact λR' st' a' w' hx' hst' hk=>hK.normal R' st' a' w' hx' hst' hk
   ·exact λR' st' a' w' hx' hst' hk=>hK.ret R' st' a' w' hx' hst' hk
   ·intro R' st' a' w' j hx' hst' hk
    simp only [Exit.inBlock]
    by_cases e:j=id
    ·subst e
     simp only [BEq.rfl,aK] at hk
     simp only [if_true]
     exact hK.normal R' st' a' w' hx' hst' hk
    ·have:(j==id)=false:=by simpa using e
     simp only [this,aT] at hk
     simp only [e,if_false]
     exact hK.exit R' st' a' w' j hx' hst' hk
   ·exact λR' st' a' w' sv v hx' hst' hv hk=>hK.pan R' st' a' w' sv v hx' hst' hv hk
  case exit id=>exact wpIn_exit (hK.exit R st a w id hx hst h)
  case ret=>exact wpIn_ret (hK.ret R st a w hx hst h)
end
end Sx
end
section
namespace Sx
open Go Go.RowKit
def SV.num:SV->Bool
 |.bool _|.u64 _|.u8 _|.int _=>true
 |_=>false
def SV.bare (k:Nat):SV->Bool
 |.ptr c _ _ _=>Nat.blt c k
 |.gu=>true
 |.agg l=>l.all SV.num
 |x=>x.num
theorem ap0 {R R':Ctx}:∀ {x:SV} {v:Value},x.num=true->SV.rel R x v->SV.rel R' x v:=by
 intro x v h hr
 cases x<;>first|(cases h;done)|simpa only [SV.rel] using hr
theorem GC {R R':Ctx}:∀ {l:List SV} {vs:List Value},l.all SV.num=true->SV.bz R l vs->SV.bz R' l vs
 | [],_,_,h=>by simpa only [SV.bz] using h
 |x::l,vs,hn,h=>by
  rw [aA,aw] at hn
  simp only [SV.bz] at h⊢
  obtain ⟨v,r,h1,h2,h3⟩:=h
  exact ⟨v,r,h1,ap0 hn.1 h2,GC hn.2 h3⟩
def aiF (k:Nat) (R R':Ctx):Prop:=∀ c ch,c<k->R.hp c=some ch->∃ ch',R'.hp c=some ch'/\ch'.ep=ch.ep/\ch'.body.shape=ch.body.shape/\R'.σ c=R.σ c
theorem azu {k:Nat} {R R':Ctx} (e:aiF k R R') {x:SV} {v:Value} (h:x.bare k=true) (hr:SV.rel R x v):SV.rel R' x v:=by
 cases x<;>first|exact ap0 h hr|(cases h;done)|skip
 case ptr c ep i off=>
  simp only [SV.rel,Ctx.ptr] at hr⊢
  obtain ⟨h1,ch,h2,h3,h4⟩:=hr
  obtain ⟨ch',g1,g2,g3,g4⟩:=e c ch (dI h) h2
  refine ⟨h1,ch',g1,by omega,λhe=> ?_⟩
  rw [g3,g4]
  exact h4 (he.trans g2)
 case agg l=>
  simp only [SV.rel] at hr⊢
  obtain ⟨vs,h1,h2,h3⟩:=hr
  exact ⟨vs,h1,GC h h2,h3⟩
 case gu=>simp only [SV.rel]
theorem mR {k:Nat} {R R':Ctx} (e:aiF k R R'):∀ {l:List SV} {vs:List Value},l.all (SV.bare k)=true->SV.bz R l vs->SV.bz R' l vs
 | [],_,_,h=>by simpa only [SV.bz] using h
 |x::l,vs,hn,h=>by
  rw [aA,aw] at hn
  simp only [SV.bz] at h⊢
  obtain ⟨v,r,h1,h2,h3⟩:=h
  exact ⟨v,r,h1,azu e hn.1 h2,mR e hn.2 h3⟩
def Plain (hp:Hp):Prop:=∀ c ch,hp c=some ch->ch.ep=0/\((∃ vs,ch.body=.cells vs/\vs.all SV.num=true)\/∃ xs,ch.body=.row .u64 xs)
def jB (σ:Nat->Option Loc) (hp:Hp) (w:World) (ds:List Deferred):Ctx:=⟨λ_=>none,⟨λ_=>none,w,ds⟩,σ,hp⟩
def wH (σ:Nat->Option Loc) (hp:Hp) (b:Nat):Prop:=∃ c ch L,hp c=some ch/\σ c=some L/\L.block=b
open Classical in
noncomputable def lc (σ:Nat->Option Loc) (hp:Hp) (w:World) (ds:List Deferred):Ctx:=⟨λ_=>none,⟨λb=>if wH σ hp b then none else w.heap[b]?,w,ds⟩,σ,hp⟩
theorem vW {R:Ctx} {w:World} (hm:cz R w) {σ:Nat->Option Loc} {hp:Hp} {U:Gf} (hp1:Plain hp) (h:∀ c ch,hp c=some ch->R.hp c=some ch/\R.σ c=σ c) (hU:∀ b o,U b=some o->w.heap[b]? =some o) (hU2:∀ b,wH σ hp b->U b=none) (he:MI U.env w):cz ⟨λ_=>none,U,σ,hp⟩ w:=by
 refine ⟨λb o e=>(by cases e),hU,λc ch hc=> ?_,λc c' ch ch' L L' h1 h2 m1 m2 s1 s2 e=> ?_,λb o e=>(by cases e),he⟩
 ·obtain ⟨k1,k2⟩:=h c ch hc
  have h0:=hm.ch c ch k1
  obtain ⟨he,hb⟩:=hp1 c ch hc
  obtain ⟨ep,body⟩:=ch
  rcases hb with ⟨vs,hb,hn⟩|⟨xs,hb⟩
  ·cases hb
   simp only [eW] at h0⊢
   obtain ⟨L,g1,g2,g3,arr,E,g4,g5,g6,g7,g8⟩:=h0
   rw [k2] at g1
   exact ⟨L,g1,trivial,hU2 _ ⟨c,_,L,hc,g1,rfl⟩,arr,E,g4,g5,g6,GC hn g7,g8⟩
  ·cases hb
   simp only [eW,k2] at h0⊢
   refine ⟨h0.1,h0.2.1,?_⟩
   have h3:=h0.2.2
   split at h3
   ·exact h3
   ·rename_i L g1
    obtain ⟨g2,g3,arr,E,g4,g5,g6,g7⟩:=h3
    exact ⟨trivial,hU2 _ ⟨c,_,L,hc,g1,rfl⟩,arr,E,g4,g5,g6,g7⟩
 ·exact hm.apart c c' ch ch' L L' (h c ch h1).1 (h c' ch' h2).1 m1 m2 ((h c ch h1).2.trans s1) ((h c' ch' h2).2.trans s2) e
theorem aB9 {ds:List Deferred} {R:Ctx} {w:World} (hm:cz R w) {σ:Nat->Option Loc} {hp:Hp} (hp1:Plain hp) (h:∀ c ch,hp c=some ch->R.hp c=some ch/\R.σ c=σ c):cz (lc σ hp w ds) w:=
 vW hm hp1 h (λb o e=>by
  dsimp only at e
  split at e
  ·cases e
  ·exact e) (λb hb=>if_pos hb) ⟨rfl,rfl,rfl⟩
theorem uH {σ:Nat->Option Loc} {hp:Hp} {w w':World} {ds:List Deferred} {R':Ctx} (hx:(lc σ hp w ds).Ext R') (hm:cz R' w'):MI w w'/\∀ b o,w.heap[b]? =some o->¬wH σ hp b->w'.heap[b]? =some o:=by
 have h:=hm.env
 have hU:=hm.U
 rw [hx.U] at h hU
 exact ⟨h,λb o hb hn=>hU b o ((if_neg hn).trans hb)⟩
theorem CK {σ:Nat->Option Loc} {hp:Hp} {w:World} {ds:List Deferred} {R':Ctx} (hx:(lc σ hp w ds).Ext R') (hp1:Plain hp) {c:Nat} {ch ch':Ch} (h:hp c=some ch) (h':R'.hp c=some ch') (he:ch'.ep=0):R'.σ c=σ c:=by
 obtain ⟨ch2,g1,g2,g3⟩:=hx.ch c ch h
 rw [h'] at g1
 cases g1
 exact (g3 ((hp1 c ch h).1.trans he.symm)).2
theorem anS {σ:Nat->Option Loc} {hp:Hp} {w w':World} {ds:List Deferred} {R':Ctx} (hx:(lc σ hp w ds).Ext R') (hm:cz R' w') (hp1:Plain hp) (hp2:∀ c ch,hp c=some ch->∃ ch',R'.hp c=some ch'/\ch'.ep=0/\ch'.body.mut=true):w.heap.size<=w'.heap.size:=by
 cases hz:w.heap.size with
 |zero=>exact Nat.zero_le _
 |succ k=>
  have hk:w.heap[k]? =some (w.heap[k]'(by omega)):=by simp [hz]
  by_cases hb:wH σ hp k
  ·obtain ⟨c,ch,L,h1,h2,rfl⟩:=hb
   obtain ⟨ch',g1,g2,g3⟩:=hp2 c ch h1
   exact hm.lt g1 g3 ((CK hx hp1 h1 g1 g2).trans h2)
  ·have:=(uH hx hm).2 _ _ hk hb
   exact (Array.getElem?_eq_some_iff.1 this).1
def onN (D:Shape) (Q:D.T->Prop) (e:SE) (st:St):Prop:=match e with
 |.normal=>D.on st Q
 |_=>False
def toN (p:St->Prop) (e:SE) (st:St):Prop:=match e with
 |.normal=>p st
 |_=>False
theorem aFk {p:St->Prop} (e:SE) (st:St) (h:toN p e st):e=.normal:=by cases e<;>first|rfl|exact h.elim
theorem aDn {D:Shape} {Q:D.T->Prop} (e:SE) (st:St) (h:onN D Q e st):e=.normal:=by cases e<;>first|rfl|exact h.elim
section
variable {P:Program} {te:TE} {Φ:Env}
theorem CL (g:bU P te Φ) (hf:P.follows .mixedOrders=true) {n:Nat} {c:Code} {R:Ctx} {w:World} (hm:cz R w) {σ:Nat->Option Loc} {st:St} (hp1:Plain st.hp) (hR:∀ c ch,st.hp c=some ch->R.hp c=some ch/\R.σ c=σ c)
 {a:Act} (ht:SV.bz (lc σ st.hp w a.defers) st.tm a.tmps.toList) {D:Shape} (hs:∀ c ch,st.hp c=some ch->c<D.fixed) {T:OT D.T} (h:∀ Q,wps te Φ fR 100 c st (onN D Q)=T.wpR Q)
 {y:D.T} (hy:T.run=some y) {Q:Exit->Act->World->Prop} (hQ:∀ R' a' w',(lc σ st.hp w a.defers).Ext R'->iT R' (D.inj y) a' w'->Q .normal a' w'):c.wpIn Fence.wide n P Q a w/\∀ l,aba c=true->c.wpIn (Fence.wide.inRound l) n P Q a w:=by
 have hw:wps te Φ fR 100 c st (onN D (λs=>s=y)):=by
  rw [h,OT.ES]
  exact OT.iV hy rfl
 have hst:iT (lc σ st.hp w a.defers) st a w:=⟨rfl,aB9 hm hp1 hR,ht,rfl⟩
 have hc:o5 (lc σ st.hp w a.defers) (onN D (λs=>s=y)) Q:=by
  refine ⟨?_,λR1 st1 a1 w1 hx1 hst1 hk=>hk.elim,λR1 st1 a1 w1 id hx1 hst1 hk=>hk.elim,λR1 st1 a1 w1 sv v hx1 hst1 hv hk=>hk.elim⟩
  intro R1 st1 a1 w1 hx1 hst1 hk
  obtain ⟨x,R',e,h2,h3⟩:=Shape.ym (R₀:=lc σ st.hp w a.defers) (λc ch hc=>⟨hs c ch hc,(hp1 c ch hc).1⟩) hx1 hst1 (hk:D.on st1 _)
  subst e
  exact hQ R' a1 w1 h2 h3
 exact ⟨wpIn_wide.2 (rN g.ty g.ok g.any (λp _ l hl=>by cases hl) (Ctx.Ext.refl _) hst hw hc),λl hd=>kr g hf 100 c _ st a w _ Q hd (Ctx.Ext.refl _) hst hw hc⟩
theorem Tk {Λ:Lam} {n:Nat} (k:Nat) {a b:Code} {st:St} {K:SE->St->Prop} (h:wps te Φ Λ n (.seq a b) st K) (hn:n=k+1) (hK:∀ e st,K e st->e=.normal):wps te Φ Λ k a st (toN λst'=>wps te Φ Λ k b st' K):=by
 subst hn
 rw [Py] at h
 have e:(λ(e:SE) (st':St)=>match e with|.normal=>wps te Φ Λ k b st' K|e=>K e st')=toN λst'=>wps te Φ Λ k b st' K:=funext λe=>funext λst'=>by
  cases e<;>first|rfl|exact propext ⟨λh=>(by cases hK _ _ h),λh=>h.elim⟩
 exact e▸h
theorem Dl (g:bU P te Φ) {c:Code} {R₀ R:Ctx} {w:World} {st:St} {a:Act} (hx:R₀.Ext R) (hst:iT R st a w) {k:Nat} {K:SE->St->Prop} (h:wps te Φ fR k c st K) (hK:∀ e st,K e st->e=.normal) {n:Nat} {Q:Exit->Act->World->Prop}
 (hQ:∀ R' st' a' w',R₀.Ext R'->iT R' st' a' w'->K .normal st'->Q .normal a' w'):c.wpIn Fence.wide n P Q a w:=by
 refine wpIn_wide.2 (rN g.ty g.ok g.any (R₀:=R₀) (λp _ l hl=>by cases hl) hx hst h ⟨hQ,?_,?_,?_⟩)
 ·exact λR1 st1 a1 w1 hx1 hst1 hk=>by cases hK _ _ hk
 ·exact λR1 st1 a1 w1 id hx1 hst1 hk=>by cases hK _ _ hk
 ·exact λR1 st1 a1 w1 sv v hx1 hst1 hv hk=>by cases hK _ _ hk
end
theorem cz.move {R:Ctx} {w w':World} (hm:cz R w) (h1:∀ b o,R.F b=some o\/R.U b=some o->w'.heap[b]? =w.heap[b]?) (h2:∀ (b:Nat) (arr:Array Value) (E:TypeId),w.heap[b]? =some (.cells arr E (0,0))->w'.heap[b]? =w.heap[b]?) (he:MI w w'):cz R w':=by
 refine ⟨λb o h=>(h1 b o (.inl h)).trans (hm.F b o h),λb o h=>(h1 b o (.inr h)).trans (hm.U b o h),λc ch hc=> ?_,hm.apart,hm.FU,hm.env.trans he⟩
 have h0:=hm.ch c ch hc
 obtain ⟨ep,body⟩:=ch
 cases body with
 |row t xs=>
  simp only [eW] at h0⊢
  refine ⟨h0.1,h0.2.1,?_⟩
  have h3:=h0.2.2
  split at h3
  ·exact h3
  ·obtain ⟨g1,g2,arr,E,g3,g4⟩:=h3
   exact ⟨g1,g2,arr,E,(h2 _ _ _ g3).trans g3,g4⟩
 |frz t xs=>exact h0
 |cells vs=>
  simp only [eW] at h0⊢
  obtain ⟨L,g1,g2,g3,arr,E,g4,g5⟩:=h0
  exact ⟨L,g1,g2,g3,arr,E,(h2 _ _ _ g4).trans g4,g5⟩
theorem cz.grownBy {R:Ctx} {w w':World} {row:Option Nat} {N:Nat} (hm:cz R w) (hg:w.grownBy w' row) (hr:∀ r,row=some r->N<=r/\∃ o:Obj,w.heap[r]? =some o/\o.isCells=false) (hN:∀ b o,R.F b=some o\/R.U b=some o->b<N):cz R w':=by
 refine hm.move (λb o h=> ?_) (λb arr E h=>grownBy_keeps_cells hg (λr e=>(hr r e).2) h rfl) ⟨hg.os,hg.output,hg.tape⟩
 have hb:b<w.heap.size:=by
  rcases h with h|h
  ·exact (Array.getElem?_eq_some_iff.1 (hm.F b o h)).1
  ·exact (Array.getElem?_eq_some_iff.1 (hm.U b o h)).1
 refine hg.block b hb λe=> ?_
 have:=(hr b e.symm).1
 have:=hN b o h
 omega
theorem akx {R R':Ctx} {w:World} (hm:cz R w) (hm':cz R' w) {c:Nat} {xs ys:List UInt64} (h:R.hp c=some ⟨0,.row .u64 xs⟩) (h':R'.hp c=some ⟨0,.row .u64 ys⟩) (hσ:R'.σ c=R.σ c) (hl:xs.length=ys.length):xs=ys:=by
 have h1:=hm.ch c _ h
 have h2:=hm'.ch c _ h'
 simp only [eW,hσ] at h1 h2
 obtain ⟨_,_,h1⟩:=h1
 obtain ⟨_,_,h2⟩:=h2
 cases hs:R.σ c with
 |none=>
  rw [hs] at h1 h2
  exact (h1:xs= []).trans (h2:ys= []).symm
 |some L=>
  rw [hs] at h1 h2
  obtain ⟨_,_,arr,E,e1,_,_,r1⟩:=h1
  obtain ⟨_,_,arr',E',e2,_,_,r2⟩:=h2
  rw [e1] at e2
  cases e2
  refine List.ext_getElem hl λi hi hi'=> ?_
  have a1:seg arr.toList (L.base+i*1) 1= [eD (xs.getD i 0)]:=r1 i hi
  have a2:seg arr.toList (L.base+i*1) 1= [eD (ys.getD i 0)]:=r2 i hi'
  rw [a1] at a2
  simp only [List.cons.injEq,and_true,eD,Value.int.injEq,true_and] at a2
  have a3:xs.getD i 0=ys.getD i 0:=UInt64.toNat.inj (by omega)
  simpa [fP,hi,hi'] using a3
end Sx
end
section
open Sx Go
set_option maxRecDepth 100000
def Qt:af:=⟨[aD,jK,du],[],true,0,false⟩
def Qs:aL:=⟨il,[],false⟩
def rH (m:Nat) (x:ab) (l:aB):ab:=l.foldr (λv e=>dr m (aR m e x) v) ⟨0,0,0,0⟩
abbrev apG:Type:=(Int×aB×oV)×Unit
def pvA:Shape:=⟨22,[Ci,uo,(6,fV),(7,gn),(11,.fn 127 [4])],[(0,o4),o3,lx,nS,(4,Cs)],0,true⟩
def pvB (k:Nat):Shape:=⟨22,[(3,.ptr 0 0 0),(5,.ptr 1 0 0),(6,.ptr 2 0 0),(7,.ptr 3 0 0)],[(0,.cells [.val false .int]),(1,.row .u64),(2,.row .u64),(3,.row .u64)],k,true⟩
def pvC (k:Nat):Shape:=⟨22,[(3,.ptr 0 0 0),(5,.ptr 1 0 0),(6,.ptr 2 0 0),(7,.ptr 3 0 0),(9,.ptr 4 0 0)],[(0,.cells [.val false .int]),(1,.row .u64),(2,.row .u64),(3,.row .u64),(4,.row .u64)],k,true⟩
def eL (e:ab):ap:= [e.w0,e.w1,e.w2,e.w3]
def yB (c:Int) (x r o:ab):(pvB 0).T:=(((),(),(),(),()),(c,()),eL x,eL r,eL o,())
def yC (c:Int) (x r o v:ab):(pvC 4).T:=(((),(),(),(),(),()),(c,()),eL x,eL r,eL o,eL v,())
noncomputable def fB:Code->Nat->Code
 |.seq a _,0=>a
 |.seq _ b,k+1=>fB b k
 |c,_=>c
noncomputable def xX:Code->Code×Code
 |.block _ c=>xX c
 |.rangeFunc _ _ a b=>(a,b)
 |c=>(c,c)
noncomputable def pvc:Code:=mK Tryz.f27
def gT:ab:=⟨0,0,0,0⟩
def yA (c:Int) (l:aB) (x:ab):pvA.T:=(((),(),(),(),(),()),(c,()),eL x,eL gT,eL gT,(l,()),())
def pvS (c:Int) (l:aB) (x:ab):St:=⟨[.int c,.lst .elem l,.agg (unpack .elem x)]++List.replicate 19 .undef,λ_=>none⟩
theorem pv1 (c:Int) (l:aB) (x:ab) (Q:pvA.T->Prop):wps te iw fR 100 (.seq (fB pvc 0) (.seq (fB pvc 1) (fB (fB pvc 2) 0))) (pvS c l x) (onN pvA Q)=
 (OT.ok (yA c l x)).wpR Q:=by kernel_rfl
theorem pv2 (c:Int) (x r o v:ab) (Q:(pvC 4).T->Prop):wps te iw fR 100 (xX (fB (fB pvc 2) 1)).1 ⟨((pvB 0).inj (yB c x r o)).tm.set 13 (.agg (unpack .elem v)),((pvB 0).inj (yB c x r o)).hp⟩ (onN (pvC 4) Q)=
 (OT.ok (yC c x r o v)).wpR Q:=by kernel_rfl
theorem pv3 (c:Int) (x r o v:ab) (Q:(pvC 5).T->Prop):wps te iw fR 100 (xX (fB (fB pvc 2) 1)).2 ((pvC 4).inj (yC c x r o v)) (onN (pvC 5) Q)=
 (gd [ac c,ac c] (OT.ok (yC c x r (dr (pS c) (aR (pS c) o x) v) v))).wpR Q:=by kernel_rfl
theorem pv4 (c:Int) (x r o:ab) (Q:(pvB 4).T->Prop):wps te iw fR 100 (fB pvc 3) ((pvB 0).inj (yB c x r o)) (onN (pvB 4) Q)=
 (OT.ok (yB c x o o)).wpR Q:=by kernel_rfl
theorem pv5 (c:Int) (x r o:ab) (K:SV->Prop):AR te Tryz.f27 ((pvB 4).inj (yB c x r o)) K=K (.agg (unpack .elem r)):=by kernel_rfl
theorem aFz:pvc=.seq (fB pvc 0) (.seq (fB pvc 1) (.seq (.seq (fB (fB pvc 2) 0) (.block 0 (.rangeFunc (.tmp 11) #[12,13] (xX (fB (fB pvc 2) 1)).1 (xX (fB (fB pvc 2) 1)).2))) (.seq (fB pvc 3) .ret))):=by kernel_rfl
attribute [local go_sem] Oper.semAt_some
open RowKit Shelf
def elemV (e:ab):Value:=.agg #[eD e.w0,eD e.w1,eD e.w2,eD e.w3]
def tS (f:Nat->ab) (len k:Nat):YB:=(List.range (len-k)).map λ(j:Nat)=>(((len:Int)-(j:Int)-1,f (len-1-j)):Int×ab)
theorem amK (f:Nat->ab) (len k:Nat):(tS f len k).length=len-k:=by simp [tS]
theorem adl (f:Nat->ab) {len k:Nat} (hk:k+1<=len):tS f len k=tS f len (k+1)++ [((k:Int),f k)]:=by
 have e:len-k=(len-(k+1))+1:=by omega
 unfold tS
 rw [e,List.range_succ,List.map_append]
 have h1:(len:Int)-((len-(k+1):Nat):Int)-1=k:=by omega
 have h2:len-1-(len-(k+1))=k:=by omega
 simp only [List.map_cons,List.map_nil,h1,h2]
theorem amL (xs:aB):(tS (λj=>xs.getD j gT) xs.length 0).map (·.2)=xs.reverse:=by
 refine List.ext_getElem (by simp [tS]) λi h1 h2=> ?_
 have hi:i<xs.length:=by simpa using h2
 have:xs.length-1-i<xs.length:=by omega
 simp [tS,List.getElem_reverse,fP,this]
def KpB (S:Nat->Prop) (W W':World):Prop:=∀ k,S k->W'.heap[k]? =W.heap[k]?
theorem KpB.cell {S:Nat->Prop} {W W':World} (h:KpB S W W') {a:Addr} {v:Value} (hs:S a.block) (hc:W.cell? a=some v):W'.cell? a=some v:=by
 unfold World.cell? at hc⊢
 rw [h _ hs]
 exact hc
set_option maxHeartbeats 2000000 in
theorem azv (n:Nat) (hn:1<=n) (l Bs Bo b off len cap:Nat) (ad:Option Addr) (f:Nat->ab) (S:Nat->Prop) (hS:S Bs) (had:0<len->ad=some ⟨b,off,none⟩/\S b) (hlen:len*32<=4503599627370496) (J Jx:List (Int×ab)->World->Prop)
 (hY:∀ pre x W,J pre W->pre.length<len->YieldAt Fence.wide (n-1) aj l #[.int .i64 x.1,elemV x.2] W λe W'=>
  (e=.returned (.bool true)/\J (pre++ [x]) W'/\KpB S W W')\/(e=.returned (.bool false)/\Jx (pre++ [x]) W'))
 (W:World) (hBs:W.cell? ⟨Bs,Bo,none⟩=some (.slice ad len cap))
 (hc:∀ j,j<len->W.cell? ⟨b,off+j*4,none⟩=some (eD (f j).w0)/\W.cell? ⟨b,off+j*4+1,none⟩=some (eD (f j).w1)/\W.cell? ⟨b,off+j*4+2,none⟩=some (eD (f j).w2)/\W.cell? ⟨b,off+j*4+3,none⟩=some (eD (f j).w3)) (h0:J [] W):
 CallsIn Fence.wide n aj 127 #[.func (.yield l) #[] #[],.pointer (some ⟨Bs,Bo,none⟩)] W λe W'=>(∃ v,e=.returned v)/\
  ((∃ ys,ys=tS f len 0/\J ys W')\/(∃ pre,True/\Jx pre W')):=by
 refine callsIn_of_wp Tryz.func127 rfl trivial ?_ rfl
 simp only [Tryz.ntmps127,List.size_toArray,List.length_cons,List.length_nil,Nat.reduceAdd,Nat.reduceSub,Array.replicate_succ,Array.replicate_zero,List.push_toArray,List.append_toArray,List.nil_append,List.cons_append]
 gi_wp2
 gi_loopw [3] (λi wr=>∃ k:Nat,k<=len/\i=.int .i64 ((k:Int)-1)/\J (tS f len k) wr/\KpB S W wr)
  (λi _=>(intOf i+1).toNat)
 case atStart=>exact ⟨len,Nat.le_refl _,rfl,by simpa [tS] using h0,λ_ _=>rfl⟩
 case round=>
  obtain ⟨k,hk,rfl,hJs,hnx⟩:=hrel
  cases k with
  |succ k=>
   have hk1:((k+1:Nat):Int)-1=(k:Int):=by omega
   rw [hk1] at*
   obtain ⟨fn,tmps,assign,body,hy,hR⟩:=hY _ ((k:Int),f k) wr hJs (by rw [amK];omega)
   dsimp only [elemV,eD] at hy
   obtain ⟨rfl,hSb⟩:=had (by omega)
   obtain ⟨c0,c1,c2,c3⟩:=hc k (by omega)
   replace c0:=hnx.cell hSb c0
   replace c1:=hnx.cell hSb c1
   replace c2:=hnx.cell hSb c2
   replace c3:=hnx.cell hSb c3
   dsimp only [eD] at c0 c1 c2 c3
   have hBs':=hnx.cell hS hBs
   gi_wp2
   refine hR.mono ?_
   rintro e W3 (⟨rfl,hJ3,hk3⟩|⟨rfl,hJx3⟩)
   ·gi_wp2
    go_roundw
    case rel=>exact ⟨k,by omega,by simp,by rw [adl f hk];exact hJ3,λj hj=>(hk3 j hj).trans (hnx j hj)⟩
    case measure=>simp [intOf]
   ·gi_wp2
    refine bodyPost_ret (results_none rfl _ _ _) rfl ?_
    exact ⟨⟨_,rfl⟩,.inr ⟨_,trivial,hJx3⟩⟩
  |zero=>
   gi_wp2
   go_end0
   exact ⟨⟨_,rfl⟩,.inl ⟨_,rfl,hJs⟩⟩
theorem anq (n:Nat) (hn:1<=n) {w:World} {Bs Bo:Nat} {ad:Option Addr} {cap b off:Nat} {xs:List ab} {S:Nat->Prop} (hlen:xs.length*32<=4503599627370496) (hS:S Bs) (had:0<xs.length->ad=some ⟨b,off,none⟩/\S b) (hlt:∀ k,S k->k<w.heap.size)
 (hBs:w.cell? ⟨Bs,Bo,none⟩=some (.slice ad xs.length cap))
 (hc:∀ j,j<xs.length->w.cell? ⟨b,off+j*4,none⟩=some (eD (xs.getD j gT).w0)/\w.cell? ⟨b,off+j*4+1,none⟩=some (eD (xs.getD j gT).w1)/\w.cell? ⟨b,off+j*4+2,none⟩=some (eD (xs.getD j gT).w2)/\w.cell? ⟨b,off+j*4+3,none⟩=some (eD (xs.getD j gT).w3)):
 SeqStopsK Fence.wide n aj 127 #[.pointer (some ⟨Bs,Bo,none⟩)] (λx:Int×ab=> #[.int .i64 x.1,elemV x.2]) (KpB S) (λys=>ys.map (·.2)=xs.reverse) (λ_=>True) xs.length w:=λl J Jx W hW _ _ hY h0=>by
 have hk:KpB S w W:=λk hk=>hW.block k (hlt k hk)
 refine (azv n hn l Bs Bo b off xs.length cap ad (λj=>xs.getD j gT) S hS had hlen J Jx hY W (hk.cell hS hBs) (λj hj=> ?_) h0).mono ?_
 ·obtain ⟨c0,c1,c2,c3⟩:=hc j hj
  have hSb:=(had (by omega)).2
  exact ⟨hk.cell hSb c0,hk.cell hSb c1,hk.cell hSb c2,hk.cell hSb c3⟩
 ·rintro e W' ⟨he,⟨ys,rfl,hj⟩|⟨pre,_,hj⟩⟩
  ·exact ⟨he,.inl ⟨_,amL xs,hj⟩⟩
  ·exact ⟨he,.inr ⟨pre,trivial,hj⟩⟩
theorem aDp {R R':Ctx} {e:ab} {v:Value} (h:SV.rel R (.agg (unpack .elem e)) v):SV.rel R' (.agg (unpack .elem e)) v:=by
 simp only [SV.rel] at h⊢
 obtain ⟨vs,h1,h2,h3⟩:=h
 exact ⟨vs,h1,GC rfl h2,h3⟩
def gk (c:Int) (x:ab) (pre:YB):ab:=pre.foldl (λe v=>dr (pS c) (aR (pS c) e x) v.2) gT
theorem akG (c:Int) (x:ab) (pre:YB) (v:Int×ab):gk c x (pre++ [v])=dr (pS c) (aR (pS c) (gk c x pre) x) v.2:=by simp [gk]
theorem apr (c:Int) (x:ab) (ys:YB) (xs:aB) (h:ys.map (·.2)=xs.reverse):gk c x ys=rH (pS c) x xs:=by
 unfold gk rH
 rw [<-List.foldl_reverse,<-h,List.foldl_map]
 rfl
noncomputable def pvH (c:Int) (x e:ab):Hp:=((pvB 0).inj (yB c x gT e)).hp
theorem su (c:Int) (x e:ab) {k:Nat} {ch:Ch} (h:pvH c x e k=some ch):k<4/\ch.ep=0/\((∃ vs,ch.body=.cells vs/\vs.all SV.num=true)\/∃ xs,ch.body=.row .u64 xs):=by
 match k with
 |0=>cases h;exact ⟨by omega,rfl,.inl ⟨_,rfl,rfl⟩⟩
 |1=>cases h;exact ⟨by omega,rfl,.inr ⟨_,rfl⟩⟩
 |2=>cases h;exact ⟨by omega,rfl,.inr ⟨_,rfl⟩⟩
 |3=>cases h;exact ⟨by omega,rfl,.inr ⟨_,rfl⟩⟩
 |k+4=>cases h
theorem kw (c:Int) (x e:ab):Plain (pvH c x e):=λ_ _ h=>⟨(su c x e h).2.1,(su c x e h).2.2⟩
theorem Gx (c:Int) (x e:ab) {k:Nat} (h:k<4):∃ ch,pvH c x e k=some ch:=by
 match k with
 |0|1|2|3=>exact ⟨_,rfl⟩
 |k+4=>omega
theorem aDd (c:Int) (l:aB) (x:ab) {k:Nat} {ch:Ch} (h:pvH c x gT k=some ch):(pvA.inj (yA c l x)).hp k=some ch:=by
 match k with
 |0=>exact h
 |1=>exact h
 |2=>exact h
 |3=>exact h
 |k+4=>cases h
theorem Qh (c:Int) (x e e':ab) {k:Nat} {ch:Ch} (h:pvH c x e k=some ch):∃ ch',pvH c x e' k=some ch'/\ch'.ep=ch.ep/\ch'.body.shape=ch.body.shape:=by
 match k with
 |0=>cases h;exact ⟨_,rfl,rfl,rfl⟩
 |1=>cases h;exact ⟨_,rfl,rfl,rfl⟩
 |2=>cases h;exact ⟨_,rfl,rfl,rfl⟩
 |3=>cases h;exact ⟨_,rfl,rfl,rfl⟩
 |k+4=>cases h
theorem akF (c:Int) (x e v:ab) {k:Nat} {ch:Ch} (h:pvH c x e k=some ch):((pvC 4).inj (yC c x gT e v)).hp k=some ch:=by
 match k with
 |0=>exact h
 |1=>exact h
 |2=>exact h
 |3=>exact h
 |k+4=>cases h
theorem Im (c:Int) (x e v:ab) {k:Nat} {ch:Ch} (h:((pvC 4).inj (yC c x gT e v)).hp k=some ch):k<5/\ch.ep=0/\((∃ vs,ch.body=.cells vs/\vs.all SV.num=true)\/∃ xs,ch.body=.row .u64 xs)/\(k<4->pvH c x e k=some ch):=by
 match k with
 |0=>cases h;exact ⟨by omega,rfl,.inl ⟨_,rfl,rfl⟩,λ_=>rfl⟩
 |1=>cases h;exact ⟨by omega,rfl,.inr ⟨_,rfl⟩,λ_=>rfl⟩
 |2=>cases h;exact ⟨by omega,rfl,.inr ⟨_,rfl⟩,λ_=>rfl⟩
 |3=>cases h;exact ⟨by omega,rfl,.inr ⟨_,rfl⟩,λ_=>rfl⟩
 |4=>cases h;exact ⟨by omega,rfl,.inr ⟨_,rfl⟩,λh=>absurd h (by omega)⟩
 |k+5=>cases h
theorem aaN (c:Int) (x e e':ab) {σ:Nat->Option Sx.Loc} {b:Nat} (h:wH σ (pvH c x e) b):wH σ (pvH c x e') b:=by
 obtain ⟨k,ch,L,h1,h2,h3⟩:=h
 obtain ⟨ch',h1',_⟩:=Qh c x e e' h1
 exact ⟨k,ch',L,h1',h2,h3⟩
theorem Lm {σ:Nat->Option Sx.Loc} {hp:Hp} (hp1:Plain hp) {R:Ctx} {w:World} (hm:cz R w) (h:∀ c ch,hp c=some ch->R.hp c=some ch/\R.σ c=σ c) {b:Nat} (hb:wH σ hp b):∃ arr E,w.heap[b]? =some (.cells arr E (0,0)):=by
 obtain ⟨c,ch,L,h1,h2,rfl⟩:=hb
 obtain ⟨k1,k2⟩:=h c ch h1
 have h0:=hm.ch c ch k1
 obtain ⟨he,hb⟩:=hp1 c ch h1
 obtain ⟨ep,body⟩:=ch
 rcases hb with ⟨vs,hb,hn⟩|⟨xs,hb⟩
 ·cases hb
  simp only [eW,k2,h2] at h0
  obtain ⟨L',g1,_,_,arr,E,g4,_⟩:=h0
  cases g1
  exact ⟨arr,E,g4⟩
 ·cases hb
  simp only [eW,k2,h2] at h0
  obtain ⟨_,_,_,_,arr,E,g4,_⟩:=h0
  exact ⟨arr,E,g4⟩
def sD (x:apG):Bool:=ac x.1.1
def apF (x:apG):OT Qt.Y:=.ok ⟨Qs,((rH (pS x.1.1) x.1.2.2.1 x.1.2.1,()),())⟩
theorem apD (e:ab) (hp:Hp):(Qs.shape 0).prj ⟨[.agg (unpack .elem e)],hp⟩=some ((e,()),()):=rfl
def pvI (c:Int) (x:ab) (σ:Nat->Option Sx.Loc) (w1:World) (pre:YB) (W:World):Prop:=
 cz (jB σ (pvH c x (gk c x pre)) w1 []) W/\w1.heap.size<=W.heap.size/\∀ b o,w1.heap[b]? =some o->¬wH σ (pvH c x gT) b->W.heap[b]? =some o
def pvX (c:Int) (x:ab) (σ:Nat->Option Sx.Loc) (w1:World) (v:Int×ab) (a:Act) (W:World):Prop:=
 ∃ (σ':Nat->Option Sx.Loc) (e:ab),(∀ k,k<4->σ' k=σ k)/\(∀ L,σ' 4=some L->w1.heap.size<=L.block)/\cz (jB σ' ((pvC 4).inj (yC c x gT e v.2)).hp w1 []) W/\SV.bz (jB σ' ((pvC 4).inj (yC c x gT e v.2)).hp w1 []) ((pvC 4).inj (yC c x gT e v.2)).tm a.tmps.toList/\a.defers= []
theorem agZ {w w':World} {row:Option Nat} {N:Nat} (hg:w.grownBy w' row) (hr:∀ r,row=some r->N<=r/\∃ o:Obj,w.heap[r]? =some o/\o.isCells=false) {b:Nat} {o:Obj} (hb:b<N) (h:w.heap[b]? =some o):w'.heap[b]? =some o:=
 (hg.block b (Array.getElem?_eq_some_iff.1 h).1 λe=>by have:=(hr b e.symm).1;omega).trans h
theorem aDc (c:Int) (x:ab) (σ:Nat->Option Sx.Loc) (w1:World):OwnFrom w1.heap.size (pvI c x σ w1):=λs A B row h hg hr=>
 ⟨h.1.grownBy hg hr (λb o h=>by rcases h with h|h<;>cases h),cT h.2.1 hg.size,λb o hb hn=>agZ hg hr (Array.getElem?_eq_some_iff.1 hb).1 (h.2.2 b o hb hn)⟩
theorem aDb (c:Int) (x:ab) (σ:Nat->Option Sx.Loc) (w1:World) (v:Int×ab) (a:Act):OwnFrom w1.heap.size (λ(_:Unit) W=>pvX c x σ w1 v a W):=λs A B row h hg hr=>by
 obtain ⟨σ',e,h1,h2,h3,h4⟩:=h
 exact ⟨σ',e,h1,h2,h3.grownBy hg hr (λb o h=>by rcases h with h|h<;>cases h),h4⟩
section
variable {c:Int} {x:ab} {σ:Nat->Option Sx.Loc} {w1:World} {S:Nat->Prop} (hc:ac c=true) (hS:∀ k,S k->k<w1.heap.size/\¬wH σ (pvH c x gT) k)
include hS
theorem afX {e:ab} {W W':World} {pre:List (Int×ab)} (hi:pvI c x σ w1 pre W) {σ':Nat->Option Sx.Loc} {hp:Hp} (hp1:Plain hp) {R:Ctx} (hm:cz R W) (hR:∀ k ch,hp k=some ch->R.hp k=some ch/\R.σ k=σ' k)
 (hb:∀ b,b<w1.heap.size->wH σ' hp b->wH σ (pvH c x gT) b) {ds:List Deferred} {R':Ctx} (hx:(lc σ' hp W ds).Ext R') (hm':cz R' W') (hp2:∀ k ch,hp k=some ch->∃ ch',R'.hp k=some ch'/\ch'.ep=0/\ch'.body.mut=true):
 KeepsFrom w1.heap.size W W'/\KpB S W W'/\w1.heap.size<=W'.heap.size/\MI w1 W'/\∀ b o,w1.heap[b]? =some o->¬wH σ (pvH c x gT) b->W'.heap[b]? =some o:=by
 obtain ⟨k1,k2⟩:=uH hx hm'
 have hs:=anS hx hm' hp1 hp2
 refine ⟨⟨hs,λk o hk ho hcl=>k2 k o ho λhbr=> ?_⟩,λk hk=> ?_,cT hi.2.1 hs,hi.1.env.trans k1,λb o ho hn=> ?_⟩
 ·obtain ⟨arr,E,he⟩:=Lm hp1 hm hR hbr
  rw [ho] at he
  cases he
  cases hcl
 ·obtain ⟨g1,g2⟩:=hS k hk
  have h1:w1.heap[k]? =some w1.heap[k]:=by simp [g1]
  have h2:=hi.2.2 k _ h1 g2
  rw [h2]
  exact k2 k _ h2 λhbr=>g2 (hb k g1 hbr)
 ·have hlt:=(Array.getElem?_eq_some_iff.1 ho).1
  exact k2 b o (hi.2.2 b o ho hn) λhbr=>hn (hb b hlt hbr)
theorem apq (g:bU aj te iw) {vals:Array Value} (hbase:SV.bz (jB σ (pvH c x gT) w1 []) ((pvB 0).inj (yB c x gT gT)).tm vals.toList) {l n:Nat} {pre:List (Int×ab)} {v:Int×ab} {W:World} (hi:pvI c x σ w1 pre W) {K:Act->World->Prop}
 (hK:∀ a' W',KeepsFrom w1.heap.size W W'->KpB S W W'->pvI c x σ w1 pre W'->pvX c x σ w1 v a' W'->K a' W'):
 (xX (fB (fB pvc 2) 1)).1.wpIn (Fence.wide.inRound l) n aj (Exit.then K (λ_ _ _=>False)) {tmps:=((#[12,13]:Array Tmp).zip #[.int .i64 v.1,elemV v.2]).foldl (λt (p,v)=>t.setIfInBounds p v) vals,defers:= []} W:=by
 have hlike:aiF 4 (jB σ (pvH c x gT) w1 []) (lc σ (pvH c x (gk c x pre)) W []):=λk ch hk h=>by
  obtain ⟨ch',h1,h2,h3⟩:=Qh c x gT (gk c x pre) h
  exact ⟨ch',h1,h2,h3,rfl⟩
 have h0:=mR hlike (by kernel_rfl) hbase
 have h1:=SV.AS (SV.AS h0 12 (x:=.gu) (v:=.int .i64 v.1) (by simp only [SV.rel])) 13 (x:=.agg (unpack .elem v.2)) (v:=elemV v.2) (by
  simp only [SV.rel,elemV,unpack]
  exact ⟨_,rfl,by simp [SV.bz,SV.rel],by simp [Value.oneCell',eD]⟩)
 refine (CL g follows hi.1 (σ:=σ) (st:=⟨((pvB 0).inj (yB c x gT (gk c x pre))).tm.set 13 (.agg (unpack .elem v.2)),pvH c x (gk c x pre)⟩) (kw _ _ _) (λk ch h=>⟨h,rfl⟩) (D:=pvC 4) ?_ (λk ch h=>(su _ _ _ h).1) (pv2 c x gT (gk c x pre) v.2) rfl ?_).2 l (by kernel_rfl)
 ·simp only [Array.toList_setIfInBounds,List.zip_toArray,List.zip_cons_cons,List.zip_nil_right,List.foldl_toArray,List.foldl_cons,List.foldl_nil]
  exact h1
 ·intro R' a' W' hx hst
  have hp2:∀ k ch,pvH c x (gk c x pre) k=some ch->∃ ch',R'.hp k=some ch'/\ch'.ep=0/\ch'.body.mut=true:=λk ch h=>by
   obtain ⟨_,h2,h3⟩:=su _ _ _ h
   refine ⟨ch,by rw [hst.hp];exact akF _ _ _ v.2 h,h2,?_⟩
   rcases h3 with ⟨vs,h3,_⟩|⟨xs,h3⟩<;>rw [h3]<;>rfl
  have hσ:∀ k,k<4->R'.σ k=σ k:=λk hk=>by
   obtain ⟨ch,h⟩:=Gx c x (gk c x pre) hk
   exact CK hx (kw _ _ _) h (by rw [hst.hp];exact akF _ _ _ v.2 h) (su _ _ _ h).2.1
  obtain ⟨k1,k2,k3,k4,k5⟩:=afX hS (e:=gT) hi (kw _ _ _) hi.1 (λk ch h=>⟨h,rfl⟩) (λb _ hb=>aaN _ _ _ _ hb) hx hst.mem hp2
  refine hK a' W' k1 k2 ⟨vW hst.mem (kw _ _ _) (λk ch h=>⟨by rw [hst.hp];exact akF _ _ _ v.2 h,hσ k (su _ _ _ h).1⟩) (λb o h=>by cases h) (λb _=>rfl) k4,k3,k5⟩ ?_
  have hC:Plain ((pvC 4).inj (yC c x gT (gk c x pre) v.2)).hp:=λk ch h=>⟨(Im _ _ _ _ h).2.1,(Im _ _ _ _ h).2.2.1⟩
  have hall:∀ k ch,((pvC 4).inj (yC c x gT (gk c x pre) v.2)).hp k=some ch->R'.hp k=some ch/\R'.σ k=R'.σ k:=λk ch h=>⟨by rw [hst.hp];exact h,rfl⟩
  refine ⟨R'.σ,gk c x pre,hσ,λL hL=> ?_,vW hst.mem hC hall (λb o h=>by cases h) (λb _=>rfl) k4,mR (k:=5) (R:=R') (R':=jB R'.σ ((pvC 4).inj (yC c x gT (gk c x pre) v.2)).hp w1 []) (λk ch hk h=>⟨ch,by rw [hst.hp] at h;exact h,rfl,rfl,rfl⟩) (by kernel_rfl) hst.tm,?_⟩
  ·have h4:=hst.mem.ch 4 ⟨0,.row .u64 (eL v.2)⟩ (by rw [hst.hp];rfl)
   simp only [eW,hL] at h4
   obtain ⟨_,_,_,hU,arr,E,hh,_⟩:=h4
   rw [hx.U] at hU
   by_cases hbr:wH σ (pvH c x (gk c x pre)) L.block
   ·obtain ⟨k,ch,L',g1,g2,g3⟩:=hbr
    have g4:=(su _ _ _ g1).1
    obtain ⟨ch',m1,m2,m3⟩:=hp2 k ch g1
    have:=hst.mem.apart 4 k _ ch' L L' (by rw [hst.hp];rfl:R'.hp 4=some ⟨0,.row .u64 (eL v.2)⟩) m1 rfl m3 hL ((hσ k g4).trans g2) g3.symm
    omega
   ·have hU':W.heap[L.block]? =none:=(if_neg hbr).symm.trans hU
    have:=hi.2.1
    rw [Array.getElem?_eq_none_iff] at hU'
    omega
  ·rw [hst.defers,hx.U];rfl
include hc
theorem aDa (g:bU aj te iw) {l n:Nat} {pre:List (Int×ab)} {v:Int×ab} {a:Act} {W:World} (hi:pvI c x σ w1 pre W) (ha:pvX c x σ w1 v a W) (Ix:Code->List (Int×ab)->World->Prop):
 (xX (fB (fB pvc 2) 1)).2.wpIn (Fence.wide.inRound l) n aj (ownPostG w1.heap.size (KpB S) (pvI c x σ w1) Ix (pre++ [v]) W) a W:=by
 obtain ⟨σ',e,hσ,h4,hm,ht,hd⟩:=ha
 have he:eL (gk c x pre)=eL e:=akx (c:=3) hi.1 hm rfl rfl (hσ 3 (by omega)) rfl
 have he':gk c x pre=e:=by
  revert he
  generalize gk c x pre=u
  intro he
  obtain ⟨u0,u1,u2,u3⟩:=u
  obtain ⟨e0,e1,e2,e3⟩:=e
  simp only [eL,List.cons.injEq,and_true] at he
  obtain ⟨rfl,rfl,rfl,rfl⟩:=he
  rfl
 have hC:Plain ((pvC 4).inj (yC c x gT e v.2)).hp:=λk ch h=>⟨(Im _ _ _ _ h).2.1,(Im _ _ _ _ h).2.2.1⟩
 refine (CL g follows hm (σ:=σ') (st:=(pvC 4).inj (yC c x gT e v.2)) hC (λk ch h=>⟨h,rfl⟩) (D:=pvC 5) ?_ (λk ch h=>(Im _ _ _ _ h).1) (pv3 c x gT e v.2) (y:=yC c x gT (dr (pS c) (aR (pS c) e x) v.2) v.2) ?_ ?_).2 l (by kernel_rfl)
 ·exact mR (k:=5) (λk ch hk h=>⟨ch,h,rfl,rfl,rfl⟩) (by kernel_rfl) ht
 ·exact (ae (by simp only [aA,aI,hc];rfl)).trans rfl
 ·intro R' a' W' hx hst
  have hst2:R'.hp=((pvC 4).inj (yC c x gT (dr (pS c) (aR (pS c) e x) v.2) v.2)).hp:=hst.hp
  have hp2:∀ k ch,((pvC 4).inj (yC c x gT e v.2)).hp k=some ch->∃ ch',R'.hp k=some ch'/\ch'.ep=0/\ch'.body.mut=true:=λk ch h=>by
   rw [hst2]
   match k with
   |0=>exact ⟨_,rfl,rfl,rfl⟩
   |1=>exact ⟨_,rfl,rfl,rfl⟩
   |2=>exact ⟨_,rfl,rfl,rfl⟩
   |3=>exact ⟨_,rfl,rfl,rfl⟩
   |4=>exact ⟨_,rfl,rfl,rfl⟩
   |k+5=>cases h
  have hσ':∀ k,k<4->R'.σ k=σ k:=λk hk=>by
   obtain ⟨ch,h⟩:=Gx c x (dr (pS c) (aR (pS c) e x) v.2) hk
   obtain ⟨ch',h'⟩:=Gx c x e hk
   exact (CK hx hC (akF _ _ _ v.2 h') (by rw [hst2];exact akF _ _ _ v.2 h) (su _ _ _ h).2.1).trans (hσ k hk)
  obtain ⟨k1,k2,k3,k4,k5⟩:=afX hS (e:=gT) hi hC hm (λk ch h=>⟨h,rfl⟩) (λb hb hbr=>by
   obtain ⟨k,ch,L,g1,g2,g3⟩:=hbr
   by_cases hk:k<4
   ·exact aaN _ _ _ _ ⟨k,ch,L,(Im _ _ _ _ g1).2.2.2 hk,(hσ k hk).symm.trans g2,g3⟩
   ·have hk5:=(Im _ _ _ _ g1).1
    obtain rfl:k=4:=by omega
    have:=h4 L g2
    omega) hx hst.mem hp2
  refine ⟨k1,k2,?_,k3,k5⟩
  rw [akG,he']
  exact vW hst.mem (kw _ _ _) (λk ch h=>⟨by rw [hst2];exact akF _ _ _ v.2 h,hσ' k (su _ _ _ h).1⟩) (λb o h=>by cases h) (λb _=>rfl) k4
end
theorem apE (g:bU aj te iw) {c:Int} {x:ab} {l:List ab} {σ:Nat->Option Sx.Loc} {w1:World} {ys:List (Int×ab)} {W:World} {a1:Act} {D:Nat} (hD:w1.heap.size<=D) (hbase:SV.bz (jB σ (pvH c x gT) w1 []) ((pvB 0).inj (yB c x gT gT)).tm a1.tmps.toList) (ha1:a1.defers= [])
 (hi:pvI c x σ w1 ys W) (hK:W.heap[D]? =some (.deferred (some []))) {R:Ctx} (hF:∀ b o,R.F b=some o\/R.U b=some o->w1.heap[b]? =some o/\¬wH σ (pvH c x gT) b) (hFU:∀ b o,R.F b=some o->R.U b=none) (hhp:R.hp=λ_=>none) (hl:MI R.U.env w1) {K Kp:SV->Hp->Prop} (hk:∀ hp,K (.agg (unpack .elem (gk c x ys))) hp):
 (Code.seq (fB pvc 3) .ret).wpIn Fence.wide 9 aj (bodyPostM Fence.wide 9 aj Tryz.f27 (FV R K Kp)) {a1 with defers:= {target:=.collected D,args:= #[]}::a1.defers} W:=by
 refine wpIn_seq ?_
 have hlike:aiF 4 (jB σ (pvH c x gT) w1 []) (lc σ (pvH c x (gk c x ys)) W [{target:=.collected D,args:= #[]}]):=λk ch hk h=>by
  obtain ⟨ch',h1,h2,h3⟩:=Qh c x gT (gk c x ys) h
  exact ⟨ch',h1,h2,h3,rfl⟩
 refine (CL g follows hi.1 (σ:=σ) (st:=(pvB 0).inj (yB c x gT (gk c x ys))) (kw _ _ _) (λk ch h=>⟨h,rfl⟩) (D:=pvB 4) ?_ (λk ch h=>(su _ _ _ h).1) (pv4 c x gT (gk c x ys)) rfl ?_).1
 ·dsimp only
  rw [ha1]
  exact mR hlike (by kernel_rfl) hbase
 ·intro R' a' W' hx hst
  have hst2:R'.hp=((pvB 4).inj (yB c x (gk c x ys) (gk c x ys))).hp:=hst.hp
  have hD':W'.heap[D]? =some (.deferred (some [])):=(uH hx hst.mem).2 D _ hK λhb=>by
   obtain ⟨arr,E,he⟩:=Lm (kw _ _ _) hi.1 (λk ch h=>⟨h,rfl⟩) hb
   rw [hK] at he
   cases he
  have hdf:a'.defers= [{target:=.collected D,args:= #[]}]:=by rw [hst.defers,hx.U];show (_::a1.defers)=_;rw [ha1]
  refine wpIn_ret ?_
  show LeavesInM Fence.wide 9 aj Tryz.f27 a'.tmps (FV R K Kp) a'.defers .returning W'
  rw [hdf]
  refine ⟨by simp,.inl ⟨_,_,rfl,run_takeDeferred hD',?_⟩⟩
  have hpl:Plain ((pvB 4).inj (yB c x (gk c x ys) (gk c x ys))).hp:=λk ch h=>by
   match k with
   |0=>cases h;exact ⟨rfl,.inl ⟨_,rfl,rfl⟩⟩
   |1=>cases h;exact ⟨rfl,.inr ⟨_,rfl⟩⟩
   |2=>cases h;exact ⟨rfl,.inr ⟨_,rfl⟩⟩
   |3=>cases h;exact ⟨rfl,.inr ⟨_,rfl⟩⟩
   |k+4=>cases h
  obtain ⟨q1,q2⟩:=uH hx hst.mem
  have hlk:MI w1 W':=hi.1.env.trans q1
  have hg:=grownBy_putObj' W' D (.deferred none)
  have hr:∀ r,some D=some r->w1.heap.size<=r/\∃ o:Obj,W'.heap[r]? =some o/\o.isCells=false:=λr e=>by cases e;exact ⟨hD,_,hD',rfl⟩
  have hm2:=(vW hst.mem hpl (σ:=R'.σ) (U:=⟨λ_=>none,w1,[]⟩) (λk ch h=>⟨by rw [hst2];exact h,rfl⟩) (λb o h=>by cases h) (λb _=>rfl) hlk).grownBy hg hr (λb o h=>by rcases h with h|h<;>cases h)
  have hst3:iT (jB R'.σ ((pvB 4).inj (yB c x (gk c x ys) (gk c x ys))).hp w1 []) ((pvB 4).inj (yB c x (gk c x ys) (gk c x ys))) {tmps:=a'.tmps,defers:= []} (W'.putObj D (.deferred none)):=
   ⟨rfl,hm2,mR (k:=4) (R:=R') (R':=jB R'.σ ((pvB 4).inj (yB c x (gk c x ys) (gk c x ys))).hp w1 []) (λk ch hk h=>⟨ch,by rw [hst2] at h;exact h,rfl,rfl,rfl⟩) (by kernel_rfl) hst.tm,rfl⟩
  obtain ⟨sv,v,e1,e2,e3⟩:=ki g.ty hst3 (fn:=Tryz.f27) (K:=λz=>z=.agg (unpack .elem (gk c x ys))) (by rw [pv5])
  subst e1
  refine ⟨v,e3,.inl ⟨_,v,R,rfl,Ctx.Ext.refl R,?_,aDp e2,hk _⟩⟩
  have hkeep:∀ b o,R.F b=some o\/R.U b=some o->(W'.putObj D (.deferred none)).heap[b]? =some o:=λb o h=>by
   obtain ⟨h1,h2⟩:=hF b o h
   exact agZ hg hr (Array.getElem?_eq_some_iff.1 h1).1 (q2 b o (hi.2.2 b o h1 h2) λhb=>h2 (aaN _ _ _ _ hb))
  exact ⟨λb o h=>hkeep b o (.inl h),λb o h=>hkeep b o (.inr h),λk ch h=>(by rw [hhp] at h;cases h),λk k' ch ch' L L' h=>(by rw [hhp] at h;cases h),hFU,hl.trans hm2.env⟩
theorem aC8 (c:Int) (l:aB) (x:ab) {st:St} (h:st=pvS c l x):wps te iw fR 100 (.seq (fB pvc 0) (.seq (fB pvc 1) (fB (fB pvc 2) 0))) st (onN pvA λs=>s=yA c l x):=by
 rw [h,pv1]
 exact (rfl:yA c l x=yA c l x)
theorem awS {R:Ctx} {w:World} {vs:List Value} (hhp:R.hp=λ_=>none) (hd:R.U.dfs= []) (hm:cz R w) {c:Int} {l:List ab} {x:ab} (ha:SV.bz R [.int c,.lst .elem l,.agg (unpack .elem x)] vs):
 iT R (pvS c l x) {tmps:=vs.toArray++Array.replicate (Tryz.f27.ntmps-vs.toArray.size) undef,defers:= []} w:=by
 have hlen:vs.length=3:=SV.aN ha
 refine ⟨hhp,hm,?_,hd.symm⟩
 simp only [Array.toList_append,List.toList_toArray,Array.toList_replicate,List.size_toArray,hlen,Tryz.ntmps27]
 exact SV.bA ha (SV.pC (by rw [fW,fW]) λi h1 h2=>by rw [List.getElem_replicate,List.getElem_replicate];simp only [SV.rel])
theorem awR {c:Int} {l:List ab} {x:ab} {st:St} (h:wps te iw fR 99 (.seq (fB pvc 1) (fB (fB pvc 2) 0)) st (onN pvA λs=>s=yA c l x)):wps te iw fR 98 (fB pvc 1) st (toN λst=>wps te iw fR 98 (fB (fB pvc 2) 0) st (onN pvA λs=>s=yA c l x)):=Tk 98 h rfl aDn
theorem aC9 (g:bU aj te iw) {R:Ctx} {w:World} {a:Act} (hsm:Small R 0) {c:Int} {l:List ab} {x:ab} {st:St} (he:st=pvS c l x) (hst:iT R st a w) {n:Nat} {b d:Code} {Q:Exit->Act->World->Prop} (hQ:∀ R1 a1 w1,R.Ext R1->iT R1 (pvA.inj (yA c l x)) a1 w1->b.wpIn Fence.wide n aj (Exit.then (d.wpIn Fence.wide n aj Q) Q) a1 w1):
 (Code.seq (fB pvc 0) (.seq (fB pvc 1) (.seq (.seq (fB (fB pvc 2) 0) b) d))).wpIn Fence.wide n aj Q a w:=by
 refine wpIn_seq (Dl g (R₀:=R) (Ctx.Ext.refl R) hst (Tk 99 (aC8 c l x he) rfl aDn) aFk λR1 st1 a1 w1 hx1 hst1 h1=> ?_)
 refine wpIn_seq (Dl g (R₀:=R) hx1 hst1 (awR h1) aFk λR2 st2 a2 w2 hx2 hst2 h2=> ?_)
 have h2':wps te iw fR 98 (fB (fB pvc 2) 0) st2 (onN pvA λs=>s=yA c l x):=h2
 refine wpIn_seq (wpIn_seq (Dl g (R₀:=R) hx2 hst2 h2' aDn λR3 st3 a3 w3 hx3 hst3 h3=> ?_))
 obtain ⟨y,R1,rfl,hx,hq⟩:=Shape.ym (R₀:=R) (s:=pvA) hsm hx3 hst3 h3
 exact hQ R1 a3 w3 hx hq
theorem aFA (c:Int) (l:aB) (x:ab):(pvA.inj (yA c l x)).tm[11]? =some (.fn (.func 127) [] [.ptr 4 0 0 0]):=by kernel_rfl
theorem aHh (c:Int) (l:aB) (x:ab):(pvA.inj (yA c l x)).hp 4=some ⟨0,.cells [.lst .elem l]⟩:=by kernel_rfl
theorem app {R:Ctx} {c:Int} {l:List ab} {x:ab} {a:Act} {w:World} (hq:iT R (pvA.inj (yA c l x)) a w):∃ (L:Sx.Loc) (ad:Option Addr) (cap:Nat),R.σ 4=some L/\a.eval (.tmp 11)=.func (.func 127) #[] #[.pointer (some ⟨L.block,L.base,none⟩)]/\
 w.cell? ⟨L.block,L.base,none⟩=some (.slice ad l.length cap)/\L.block<w.heap.size/\Rep R.F (.list .elem) l [.slice ad l.length cap]:=by
 have h:=kn hq (.tmp 11)
 have e:(pvA.inj (yA c l x)).eval (.tmp 11)=.fn (.func 127) [] [.ptr 4 0 0 0]:=by
  simp only [St.eval,fP,aFA]
  rfl
 rw [e] at h
 simp only [SV.rel] at h
 obtain ⟨l1,l2,h1,h2,h3⟩:=h
 have hc4:R.hp 4=some ⟨0,.cells [.lst .elem l]⟩:=by rw [hq.hp];exact aHh c l x
 simp only [SV.bz] at h2 h3
 obtain ⟨v,r,rfl,h4,rfl⟩:=h3
 subst h2
 simp only [SV.rel,Ctx.ptr] at h4
 obtain ⟨_,ch,g1,g2,g3⟩:=h4
 rw [hc4] at g1
 cases g1
 obtain ⟨L,g4,rfl⟩:=g3 rfl
 have hm:=hq.mem.ch 4 _ hc4
 simp only [eW] at hm
 obtain ⟨L',k1,_,_,arr,E,k2,k3,k4,k5,_⟩:=hm
 rw [g4] at k1
 cases k1
 simp only [SV.bz,SV.rel] at k5
 obtain ⟨u,r,k6,k7,rfl⟩:=k5
 have k8:=k7
 simp only [Rep] at k8
 obtain ⟨_,ad,cap,k9,_⟩:=k8
 cases k9
 refine ⟨L,ad,cap,g4,by rw [h1];simp,?_,(Array.getElem?_eq_some_iff.1 k2).1,k7⟩
 simp only [World.cell?,k2,Option.isSome_none,Bool.false_eq_true,if_false]
 have:=congrArg (·[0]?) k6
 simp only [List.getElem?_drop,List.getElem?_cons_zero,Nat.add_zero] at this
 rw [<-this]
 exact Array.getElem?_toList.symm
theorem awT {R:Ctx} {w:World} (hm:cz R w) {l:List ab} {ad:Option Addr} {cap:Nat} (h:Rep R.F (.list .elem) l [.slice ad l.length cap]):∃ b off,l.length<=cL/\(0<l.length->ad=some ⟨b,off,none⟩/\∃ o,R.F b=some o)/\
 ∀ j,j<l.length->w.cell? ⟨b,off+j*4,none⟩=some (eD (l.getD j gT).w0)/\w.cell? ⟨b,off+j*4+1,none⟩=some (eD (l.getD j gT).w1)/\w.cell? ⟨b,off+j*4+2,none⟩=some (eD (l.getD j gT).w2)/\w.cell? ⟨b,off+j*4+3,none⟩=some (eD (l.getD j gT).w3):=by
 simp only [Rep] at h
 obtain ⟨h0,ad',cap',h1,h2,h3⟩:=h
 cases h1
 rcases h3 with rfl|⟨b,o,arr,E,fz,rfl,h4,h5,h6⟩
 ·exact ⟨0,0,h0,λh=>absurd h (Nat.lt_irrefl 0),λj hj=>absurd hj (Nat.not_lt_zero j)⟩
 ·refine ⟨b,o,h0,λ_=>⟨rfl,_,h4⟩,λj hj=> ?_⟩
  have h7:seg arr.toList (o+j*4) 4= [eD (l.getD j gT).w0,eD (l.getD j gT).w1,eD (l.getD j gT).w2,eD (l.getD j gT).w3]:=h6 j hj
  have hb:=hm.F b _ h4
  have at_:∀ i,i<4->w.cell? ⟨b,o+j*4+i,none⟩= [eD (l.getD j gT).w0,eD (l.getD j gT).w1,eD (l.getD j gT).w2,eD (l.getD j gT).w3][i]? :=λi hi=>by
   rw [<-h7]
   simp only [World.cell?,hb,Option.isSome_none,Bool.false_eq_true,if_false,seg]
   rw [List.getElem?_take_of_lt hi,List.getElem?_drop]
   exact Array.getElem?_toList.symm
  exact ⟨at_ 0 (by omega),at_ 1 (by omega),at_ 2 (by omega),at_ 3 (by omega)⟩
theorem aaV (g:bU aj te iw) {R:Ctx} {w:World} {vs:List Value} {K Kp:SV->Hp->Prop} (hsm:Small R 0) (hd:R.U.dfs= []) (hm:cz R w) {c:Int} {l:List ab} {x:ab} (ha:SV.bz R [.int c,.lst .elem l,.agg (unpack .elem x)] vs) (hs:ac c=true)
 (hk:∀ hp,K (.agg (unpack .elem (rH (pS c) x l))) hp):Calls aj 27 vs.toArray w (FV R K Kp):=by
 have hhp:R.hp=λ_=>none:=funext λk=>by
  cases h:R.hp k with
  |none=>rfl
  |some ch=>exact absurd (hsm k ch h).1 (Nat.not_lt_zero _)
 refine (callsIn_wide (n:=9)).1 (callsIn_of_wp_marks (F:=Fence.wide) (n:=9) (c:=pvc) Tryz.func27 (by kernel_rfl) trivial ?_ rfl)
 rw [aFz]
 refine aC9 g hsm rfl (awS hhp hd hm ha) λR1 a1 w1 hx hq=> ?_
 obtain ⟨L4,ad,cap,hL4,e11,hc4,hb4,hrep⟩:=app hq
 have hF1:∀ {k:Nat},wH R1.σ (pvH c x gT) k->R1.F k=none/\R1.U k=none/\k≠L4.block:=λ{k} hb=>by
  obtain ⟨j,ch,L,g1,g2,rfl⟩:=hb
  have hj:=su _ _ _ g1
  have g1':R1.hp j=some ch:=by rw [hq.hp];exact aDd c l x g1
  have hmu:ch.body.mut=true:=by rcases hj.2.2 with ⟨vs,h,_⟩|⟨xs,h⟩<;>rw [h]<;>rfl
  refine ⟨((dD hq.mem g1' g2).1 hmu).1,((dD hq.mem g1' g2).1 hmu).2,λe=> ?_⟩
  have:=hq.mem.apart j 4 ch _ L L4 g1' (by rw [hq.hp];rfl:R1.hp 4=some ⟨0,.cells [.lst .elem l]⟩) hmu rfl g2 hL4 e
  omega
 have hbase:SV.bz (jB R1.σ (pvH c x gT) w1 []) ((pvB 0).inj (yB c x gT gT)).tm a1.tmps.toList:=by
  have h1:=SV.AS hq.tm 11 (x:=.gu) (v:=a1.tmps.toList.getD 11 undef) (by simp only [SV.rel])
  have e:a1.tmps.toList.set 11 (a1.tmps.toList.getD 11 undef)=a1.tmps.toList:=by
   have hl:11<a1.tmps.toList.length:=by rw [SV.aN hq.tm];exact (by decide:11<22)
   rw [fP,m4 hl]
   exact List.set_getElem_self hl
  rw [e] at h1
  exact mR (k:=4) (R:=R1) (λk ch hk h=>by
   obtain ⟨ch',h'⟩:=Gx c x gT hk
   have:=aDd c l x h'
   rw [hq.hp] at h
   rw [h] at this
   have e:=Option.some.inj this
   exact ⟨ch',h',by rw [e],by rw [e],rfl⟩) (by kernel_rfl) h1
 have hdf:a1.defers= []:=by rw [hq.defers,hx.U];exact hd
 obtain ⟨b,off,hb1,hb2,hb3⟩:=awT hq.mem hrep
 have hS:∀ k,(k=L4.block\/(0<l.length/\k=b))->k<w1.heap.size/\¬wH R1.σ (pvH c x gT) k:=λk hk=>by
  rcases hk with rfl|⟨h0,rfl⟩
  ·exact ⟨hb4,λhb=>(hF1 hb).2.2 rfl⟩
  ·obtain ⟨_,o,ho⟩:=hb2 h0
   exact ⟨(Array.getElem?_eq_some_iff.1 (hq.mem.F _ o ho)).1,λhb=>by rw [(hF1 hb).1] at ho;cases ho⟩
 refine wpIn_block (wpIn_rangeFunc_ownH (F:=Fence.wide) rfl (by decide) e11 trivial (enters_of Tryz.func127 (by kernel_rfl) rfl)
  (anq 8 (by decide) (S:=λk=>k=L4.block\/(0<l.length/\k=b)) (by have h:l.length<=140737488355328:=hb1;omega) (.inl rfl) (λh0=>⟨(hb2 h0).1,.inr ⟨h0,rfl⟩⟩) (λk hk=>(hS k hk).1) hc4 hb3)
  (λh1 h2 k hk=>(h2 k hk).trans (h1 k hk)) (λW j o o' hj _ _ _ k hk=>World.putObj_heap_other (λe=>by have:=(hS k hk).1;omega)) (Below.refl _ _) (λ_=>rfl)
  (pvI c x R1.σ w1) (λ_ _ _=>False) (aDc c x R1.σ w1) (λ_ _ _ _ _ hs _ _=>hs) ?h0 (pvX c x R1.σ w1) (λv a'=>aDb c x R1.σ w1 v a') ?assign ?body ?done ?stop)
 case h0=>exact ⟨vW hq.mem (kw _ _ _) (λk ch h=>⟨by rw [hq.hp];exact aDd c l x h,rfl⟩) (λb o h=>by cases h) (λb _=>rfl) ⟨rfl,rfl,rfl⟩,Nat.le_refl _,λb o h _=>h⟩
 case assign=>exact λl' pre v W K hi hK=>apq hS g hbase hi hK
 case body=>exact λl' pre v a' W _ _ hi ha _=>aDa hs hS g hi ha _
 case done=>
  intro D ys W hD hys hi hK
  refine apE g (l:=l) hD hbase hdf hi hK (λk o h=> ?_) hm.FU hhp (by have:=hq.mem.env;rw [hx.U] at this;exact this) (λhp=>by rw [apr c x ys l hys];exact hk hp)
  rcases h with h|h
  ·exact ⟨hq.mem.F _ _ (hx.F _ _ h),λhb=>by have:=hx.F _ _ h;rw [(hF1 hb).1] at this;cases this⟩
  ·have h':R1.U k=some o:=by rw [hx.U];exact h
   exact ⟨hq.mem.U _ _ h',λhb=>by rw [(hF1 hb).2.1] at h';cases h'⟩
 case stop=>exact λD c pre W _ _ h _=>h.elim
theorem aw0:aa aj 27 (Qt.az sD apF):=by
 refine arY (W:=λargs hp K Kp=>∃ x:apG,args=(Qt.inp.inj x).tm/\ac x.1.1=true/\∀ hp,K (.agg (unpack .elem (rH (pS x.1.1) x.1.2.2.1 x.1.2.1))) hp) Tryz.func27 rfl (by kernel_rfl) (k:=0) rfl (λR w args vs K Kp hsm hd hm ha hw=> ?_) λx oy hp hr=> ?_
 ·obtain ⟨⟨⟨c,l,x,⟨⟩⟩,⟨⟩⟩,rfl,hs,hk⟩:=hw
  exact aaV YQ hsm hd hm ha hs hk
 ·cases hr
  exact ⟨λv hp=>(Qs).is ((rH (pS x.1.1) x.1.2.2.1 x.1.2.1,()),()) false v hp,λ_ _=>False,⟨x,rfl,hp,λhp'=>⟨rfl,apD _ hp'⟩⟩,λv hp h=>h,λ_ _ h=>h.elim⟩
def Dd:bx:=(Qt.az sD apF)
theorem aaU:aa aj 27 Dd:=aw0
theorem aaT:ax Dd:=av
def auH:Env:=aq 27 Dd iw
theorem YT:bU aj te auH:=aU follows YQ aaU aaT
end
section
open Sx Go
set_option maxRecDepth 100000
def zd:af:=⟨kT,[],false,0,false⟩
def Rr:aL:=⟨il,[],false⟩
def Bw:aL:=⟨Ac,[],true⟩
abbrev Wl:Type:=aik
def arf (a0:ab) (a1:Int):OT zd.Y:=
 (.br (a1==(0:Int))
 (.br (!(a0.w0==(0:UInt64)&&(a0.w1==(0:UInt64)&&(a0.w2==(0:UInt64)&&(a0.w3==(0:UInt64)&&true)))))
  (.ok ⟨Rr,((a0,()),())⟩)
  (.ok ⟨Bw,(((100:Int),()),())⟩))
 (.ok ⟨Bw,((a1,()),())⟩))
theorem alW (pre:Wl->Bool) (F:Wl->OT zd.Y) (hF:∀ (x:Wl) oy,pre x=true->(F x).run=some oy->(arf x.1.1 x.1.2.1).run=some oy):aa aj 66 (zd.az pre F):=
 aD0 YT 66 Tryz.f66 zd [Rr] [Bw] bE (λx=>arf x.1.1 x.1.2.1) hF
def Wk (_:Wl):Bool:=true
def arh (x:Wl):OT zd.Y:=.br (x.1.2.1==0) (.br (bB x.1.1) (.ok ⟨Bw,(((100:Int),()),())⟩) (.ok ⟨Rr,((x.1.1,()),())⟩)) (.ok ⟨Bw,((x.1.2.1,()),())⟩)
theorem axW:aa aj 66 (zd.az Wk arh):=alW _ _ λx oy hp ho=>by
 rw [<-ho]
 obtain ⟨⟨v,e,⟨⟩⟩,⟨⟩⟩:=x
 show (OT.br (e==0) (OT.br (!bB v) _ _) _).run=(OT.br (e==0) (OT.br (bB v) _ _) _).run
 cases e==0
 ·rfl
 ·cases bB v<;>rfl
def DT:bx:=(zd.az Wk arh)
theorem acm:aa aj 66 DT:=axW
theorem ack:ax DT:=av
def auT:Env:=aq 66 DT auH
theorem Y6:bU aj te auT:=aU follows YT acm ack
def nH:af:=⟨[.val true aAg,aD],[],true,0,false⟩
def Bq:aL:=⟨[],[],false⟩
def sX:aL:=⟨Ac,[],true⟩
abbrev JA:Type:=(kS×eS)×Unit
def agE (a0:kS) (a1:Int):OT nH.Y:=
 let z0:Int:=cR a0
 (gd [ia ((a0,()),())] (.br (z0==(0:Int))
 (.br (a1==a0.fst)
  (.ok ⟨Bq,((),())⟩)
  (.ok ⟨sX,(((40:Int),()),())⟩))
 (.ok ⟨sX,((z0,()),())⟩)))
theorem ab3 (pre:JA->Bool) (F:JA->OT nH.Y) (hF:∀ (x:JA) oy,pre x=true->(F x).run=some oy->(agE x.1.1 x.1.2.1).run=some oy):aa aj 58 (nH.az pre F):=
 aD0 Y6 58 Tryz.f58 nH [Bq] [sX] bE (λx=>agE x.1.1 x.1.2.1) hF
def vy (x:JA):Bool:=ia ((x.1.1,()),())
def gA (p:mf) (c:Int):Int:=cond (cR p==0) (cond (c==p.1) 0 40) (cR p)
def agF (x:JA):OT nH.Y:=.br (gA x.1.1 x.1.2.1==0) (.ok ⟨Bq,((),())⟩) (.ok ⟨sX,((gA x.1.1 x.1.2.1,()),())⟩)
theorem aqS:aa aj 58 (nH.az vy agF):=ab3 _ _ λx oy hp ho=>by
 rw [<-ho]
 obtain ⟨⟨p,c,⟨⟩⟩,⟨⟩⟩:=x
 refine (ae (bs:= [ia ((p,()),())]) (by rw [aA,show ia ((p,()),())=true from hp];rfl)).trans ?_
 show _=(OT.br (gA p c==0) (.ok ⟨Bq,((),())⟩) (.ok ⟨sX,((gA p c,()),())⟩):OT nH.Y).run
 unfold gA
 cases h:cR p==0
 ·simp only [aT,h];rfl
 ·cases c==p.1<;>rfl
def yQ:bx:=(nH.az vy agF)
theorem VU:aa aj 58 yQ:=aqS
theorem VT:ax yQ:=av
def ai2:Env:=aq 58 yQ auT
theorem EL:bU aj te ai2:=aU follows Y6 VU VT
end
section
namespace Sx
open Go
def aAf:SV->Bool
 |.bool _|.u64 _|.u8 _|.int _|.str _|.lst .. =>true
 |_=>false
def Ty.ap4:Ty->Bool
 |.prod a b=>a.ap4&&b.ap4
 |.arr .. =>false
 |_=>true
theorem Dn {ok:Nat->Bool} {hp:Hp}:∀ (t:Ty) (cs:List SV) (x:t.T),t.ap4=true->kE ok hp t cs=some x->cs.all aAf=true->unpack t x=cs
 |.bool,cs,x,_,h,_=>by
  simp only [kE] at h;unfold ak8 at h
  split at h<;>first|(cases h;rfl)|cases h
 |.u64,cs,x,_,h,_=>by
  simp only [kE] at h;unfold aEZ at h
  split at h<;>first|(cases h;rfl)|cases h
 |.u8,cs,x,_,h,_=>by
  simp only [kE] at h;unfold pU8 at h
  split at h<;>first|(cases h;rfl)|cases h
 |.int,cs,x,_,h,_=>by
  simp only [kE] at h;unfold aE2 at h
  split at h<;>first|(cases h;rfl)|cases h
 |.str,cs,x,_,h,_=>by
  simp only [kE] at h;unfold aE0 at h
  split at h<;>first|(cases h;rfl)|cases h
 |.elem,cs,x,_,h,_=>by
  simp only [kE] at h;unfold ak7 at h
  split at h<;>first|(cases h;rfl)|cases h
 |.prod a b,cs,x,hn,h,hc=>by
  simp only [Ty.ap4,aw] at hn
  simp only [kE] at h
  obtain ⟨h1,h2⟩:=aW h
  have hc':=List.all_eq_true.1 hc
  simp only [unpack]
  rw [Dn a _ _ hn.1 h1 (List.all_eq_true.2 λy hy=>hc' y (List.mem_of_mem_take hy)),Dn b _ _ hn.2 h2 (List.all_eq_true.2 λy hy=>hc' y (List.mem_of_mem_drop hy)),List.take_append_drop]
 |.arr n t,cs,x,hn,_,_=>by cases hn
 |.list t,cs,x,_,h,hc=>by
  simp only [kE] at h
  split at h
  ·unfold aE1 at h
   split at h
   ·rename_i y
    cases y<;>first|(simp only [aA,aI,aJ] at hc;cases hc;done)|skip
    case lst t' xs=>
     simp only [uj] at h
     obtain ⟨e,h⟩:=bi h
     subst e
     cases h
     rfl
    all_goals (simp only [uj] at h;cases h)
   ·cases h
  ·cases h
def Out.less (c:Nat):Out->Out
 |.ret e=>.ret ⟨e.v,e.upd.filter λx=> !Nat.beq x.1 c⟩
 |.pan v u=>.pan v (u.filter λx=> !Nat.beq x.1 c)
def Out.upd:Out->List (Nat×Ch)
 |.ret e=>e.upd
 |.pan _ u=>u
def Ih (s:bx):bx:=⟨false,λd args hp=>match args.headD .gu with
 |.ptr c _ _ _=>match hp c with
  |some ⟨_,.cells vs⟩=>.guard (vs.all aAf) ((s.f d args hp).map (Out.less c))
  |_=>.fail
 |_=>.fail⟩
theorem uT {c:Nat} {ch:Ch}:∀ {u:List (Nat×Ch)} {hp:Hp},hp c=some ch->(∀ x ∈ u,x.1=c->x.2=ch)->cO hp (u.filter λx=> !Nat.beq x.1 c)=cO hp u
 | [],_,_,_=>rfl
 |(n,h)::r,hp,hc,hu=>by
  have hr:∀ x ∈ r,x.1=c->x.2=ch:=λx hx=>hu x (List.mem_cons_of_mem _ hx)
  cases hb:Nat.beq n c
  ·have hne:c≠n:=λe=>by subst e;simp at hb
   rw [List.filter_cons_of_pos (by simp [hb])]
   simp only [cO]
   exact uT (by rw [if_neg hne];exact hc) hr
  ·have e:=aY hb
   subst e
   rw [List.filter_cons_of_neg (by simp [hb])]
   simp only [cO]
   have:(λm=>if m=n then some h else hp m)=hp:=funext λm=>by
    split
    ·rename_i e;subst e;rw [hc];exact congrArg some (hu (m,h) (List.mem_cons_self ..) rfl)
    ·rfl
   rw [this]
   exact uT hc hr
theorem aey {ν:Nm}:∀ {l:List (Nat×CSh)} {x:Gh l} {y:Nat×Ch},y ∈ ks ν l x->∃ q ∈ l,(ν q.1).1=y.1
 | [],_,_,h=>by cases h
 |c::r,x,y,h=>by
  rcases List.mem_cons.1 h with rfl|h
  ·exact ⟨c,List.mem_cons_self ..,rfl⟩
  ·obtain ⟨q,h1,h2⟩:=aey h
   exact ⟨q,List.mem_cons_of_mem _ h1,h2⟩
theorem Ca {tm:List SV}:∀ {l:List (Nat×Sh)} {b:Bd} {n:Nat} {o:Option Nat},dE b n=some o->dE (oL tm l b) n=some o
 | [],_,_,_,h=>h
 |(i,s)::r,b,n,o,h=>by
  simp only [oL]
  exact Ca (Ll h)
def azG (t:Ty) {sl:List Sh} {b m:Bool} (F:af.T ⟨sl,[(0,.cells [.val true t])],b,1,m⟩->OT (af.Y ⟨sl,[(0,.cells [.val true t])],b,1,m⟩)):Prop:=
 ∀ x oy,(F x).run=some oy->∃ (rs:List Sh) (rest:List (Nat×CSh)) (pan:Bool) (y1:SlT (indexed 0 rs)) (y2:Gh rest),(rest.all λc=>Nat.ble 1 c.1)=true/\oy=⟨⟨rs,(0,.cells [.val true t])::rest,pan⟩,(y1,(x.2.1,y2))⟩
theorem Ig {P:Program} {f:FuncId} {t:Ty} {sl:List Sh} {b m:Bool} (ht:t.ap4=true) {pre:af.T ⟨.ptr 0 0 0::sl,[(0,.cells [.val true t])],b,1,m⟩->Bool} {F:af.T ⟨.ptr 0 0 0::sl,[(0,.cells [.val true t])],b,1,m⟩->OT (af.Y ⟨.ptr 0 0 0::sl,[(0,.cells [.val true t])],b,1,m⟩)}
 (hF:azG t F) (h:aa P f (af.az ⟨.ptr 0 0 0::sl,[(0,.cells [.val true t])],b,1,m⟩ pre F)):aa P f (Ih (af.az ⟨.ptr 0 0 0::sl,[(0,.cells [.val true t])],b,1,m⟩ pre F)):=by
 refine ⟨λR w d args vs out hm hr hrun=> ?_⟩
 simp only [Ih] at hrun
 split at hrun
 ·rename_i c e i off ha
  split at hrun
  ·rename_i ep cs hc
   obtain ⟨hpl,hrun⟩:=OT.aE hrun
   obtain ⟨out',h1,rfl⟩:=OT.run_map hrun
   have key:∀ x ∈ out'.upd,x.1=c->x.2=⟨ep,.cells cs⟩:=by
    have h2:=h1
    simp only [af.az] at h2
    split at h2
    ·cases h2
    ·rename_i x hx
     obtain ⟨_,h2⟩:=OT.aE h2
     obtain ⟨oy,h3,h4⟩:=OT.run_bind h2
     obtain ⟨rs,rest,pan,y1,y2,hrest,rfl⟩:=hF x oy h3
     unfold af.emit at h4
     dsimp only at h4
     obtain ⟨hend,h5⟩:=OT.aE h4
     unfold Shape.prj at hx
     dsimp only at hx
     generalize hbd:(af.inp ⟨.ptr 0 0 0::sl,[(0,.cells [.val true t])],b,1,m⟩).bd ⟨args,R.hp⟩=bd at hx h5 hend
     have hb0:dE bd 0=some (some c):=by
      rw [<-hbd]
      show dE (fy R.hp _ (oL args ((0,.ptr 0 0 0)::indexed 1 sl) [])) 0=_
      refine kp ?_
      simp only [oL]
      cases args with
      |nil=>cases ha
      |cons a r=>
       replace ha:a=.ptr c e i off:=ha
       subst ha
       exact Ca rfl
     cases hb:(af.inp ⟨.ptr 0 0 0::sl,[(0,.cells [.val true t])],b,1,m⟩).Lr ⟨args,R.hp⟩ bd&&Nat.beq args.length (af.inp ⟨.ptr 0 0 0::sl,[(0,.cells [.val true t])],b,1,m⟩).n
     ·rw [hb] at hx;cases hx
     ·rw [hb] at hx
      obtain ⟨_,hx2⟩:=aW hx
      obtain ⟨hx3,_⟩:=aW hx2
      simp only [kB,hb0,hc,je,lD] at hx3
      obtain ⟨hx4,hx5⟩:=aW hx3
      have hx6:=Dn t _ _ ht hx4 (List.all_eq_true.2 λy hy=>List.all_eq_true.1 hpl y (List.mem_of_mem_take hy))
      have hnil:cs.drop (Sh.val true t).size= []:=by
       cases hd:cs.drop (Sh.val true t).size with
       |nil=>rfl
       |cons a l=>rw [hd] at hx5;cases hx5
      have hcs:unpack t x.2.1.1=cs:=by
       rw [hx6]
       exact (List.append_nil _).symm.trans ((congrArg (_++ ·) hnil.symm).trans (List.take_append_drop _ _))
      have hu:out'.upd=(c,⟨ep,.cells (unpack t x.2.1.1++ [])⟩)::ks (af.nm ⟨.ptr 0 0 0::sl,[(0,.cells [.val true t])],b,1,m⟩ bd R.hp (fresh R.hp d)) rest y2:=by
       have e1:nameOf bd 0=c:=by unfold nameOf;rw [hb0]
       have e2:Zq R.hp c=ep:=by unfold Zq;rw [hc]
       have:out'.upd=ks (af.nm ⟨.ptr 0 0 0::sl,[(0,.cells [.val true t])],b,1,m⟩ bd R.hp (fresh R.hp d)) ((0,.cells [.val true t])::rest) (x.2.1,y2):=by
        cases pan<;>(cases h5;rfl)
       rw [this]
       show ((nameOf bd 0,_):Nat×Ch)::_=_
       show ((nameOf bd 0,(⟨Zq R.hp (nameOf bd 0),.cells (unpack t x.2.1.1++ [])⟩:Ch)):Nat×Ch)::_=_
       rw [e1,e2]
      rw [hu]
      intro y hy hyc
      rcases List.mem_cons.1 hy with rfl|hy
      ·rw [List.append_nil,hcs]
      ·exfalso
       obtain ⟨q,hq,hqn⟩:=aey hy
       have hq1:=List.all_eq_true.1 hrest q hq
       unfold af.m7 at hend
       simp only [aw,fX] at hend
       have h7:=hend.2.2.2 q (List.mem_cons_of_mem _ hq)
       have hnb:Nat.blt q.1 1=false:=by
        have:=Nat.le_of_ble_eq_true hq1
        cases hz:Nat.blt q.1 1
        ·rfl
        ·have:=dI hz;omega
       have h8:=h7.2
       rw [hnb,Bool.false_or,aw] at h8
       have h9:=h8.2
       have:(af.nm ⟨.ptr 0 0 0::sl,[(0,.cells [.val true t])],b,1,m⟩ bd R.hp (fresh R.hp d) q.1).1=fresh R.hp d+(q.1-1):=by
        simp only [af.nm,hnb,aT]
       rw [this] at hqn
       rw [hqn,hyc,hc] at h9
       cases h9
   have hpost:∀ en w',iH R out' en w'->iH R (out'.less c) en w':=λen w' hp=>by
    cases out' with
    |ret q=>
     obtain ⟨v,R',h2,h3,h4⟩:=hp
     exact ⟨v,R',h2,⟨h3.ext,h3.hp.trans (uT hc key).symm,h3.mem⟩,h4⟩
    |pan q u=>
     obtain ⟨v,R',h2,h3,h4⟩:=hp
     exact ⟨v,R',h2,⟨h3.ext,h3.hp.trans (uT hc key).symm,h3.mem⟩,h4⟩
   rcases h.calls R w d args vs out' hm hr h1 with ⟨fn,f1,f2,f3,hcl⟩|⟨v,w',hv,hp⟩
   ·exact .inl ⟨fn,f1,f2,f3,hcl.mono hpost⟩
   ·exact .inr ⟨v,w',hv,hpost _ _ hp⟩
  ·cases hrun
 ·cases hrun
theorem xV {s:bx} (h:ax s):ax (Ih s):=λd args hp hp' out hg hrun=>by
 simp only [Ih] at hrun⊢
 split at hrun
 ·split at hrun
  ·rename_i ep cs hc
   rw [hg.mB _ _ hc]
   obtain ⟨hpl,hrun⟩:=OT.aE hrun
   obtain ⟨out',h1,rfl⟩:=OT.run_map hrun
   exact (OT.ak hpl).trans (Dw (h d _ _ _ out' hg h1))
  ·cases hrun
 ·cases hrun
end Sx
end
section
open Sx Go
set_option maxRecDepth 100000
abbrev aa6:Ty:=.prod aAg (.prod .int (.prod .elem (.prod (.list .elem) (.prod (.list .elem) (.prod (.list (.prod .elem (.prod .elem .bool))) .elem)))))
def qm:af:=⟨[eT,jK,jK],[(0,.cells [.val true aa6])],false,1,false⟩
abbrev JY:Type:=(Unit×aB×fG)×uk×Unit
def aq8:Shape:=⟨35,[Aa,(1,jK),(2,jK),jP,(7,fV),(10,aD),(11,aD)],[ra,o3,lx],1,true⟩
abbrev ft:Type:=(Unit×aB×aB×ry)×uk×zV
def ql:Shape:=⟨35,[jP,(7,fV)],[ra,o3,lx],1,true⟩
abbrev tb:Type:=mX×uk×zV
def arb (a1:aB) (a2:aB) (a10:Int) (a11:Int) (c0_0:Ge) (c1:ap) (c2:ap):OT (Sum ft aZ):=
 let z0:Nat:=List.length c2
 let z1:Nat:=Int.toNat a11
 let z2:ab:= {w0:=0,w1:=0,w2:=0,w3:=0}
 let z3:ab:=List.getD a1 z1 z2
 let z4:ab:=List.getD a2 z1 z2
 let z5:ab:= {w0:=List.getD c2 0 0,w1:=List.getD c2 1 0,w2:=List.getD c2 2 0,w3:=List.getD c2 3 0}
 let z6:Nat:=pS c0_0.snd.fst
 let z7:ab:=aR z6 z3 z4
 let z8:ab:=dr z6 z5 z7
 (.br (decide (a11<a10))
 (gd [decide (4<=z0),inB a11 (List.length a1),inB a11 (List.length a2),dY ((c0_0.snd.fst,z3,z4,()),()),gQ ((c0_0.snd.fst,z5,z7,()),()),decide ((4/1:Nat)+0<=z0),inR (a11+(1:Int))] (.ok (.inl (((),a1,a2,(),(),a10,a11+(1:Int),()),(c0_0,()),c1,List.set (List.set (List.set (List.set c2 0 z8.w0) 1 z8.w1) 2 z8.w2) 3 z8.w3,()))))
 (.ok (.inr ⟨(.exit 0,ql),(((),(),()),(c0_0,()),c1,c2,())⟩)))
def Bu (s:ft):OT (Sum ft aZ):=arb s.1.2.1 s.1.2.2.1 s.1.2.2.2.2.2.1 s.1.2.2.2.2.2.2.1 s.2.1.1 s.2.2.1 s.2.2.2.1
def Wc (g0_0:ft->tb) (s:ft):OT aZ:=(.ok ⟨(.exit 0,ql),g0_0 s⟩)
def JX:aL:=⟨il,[ra],false⟩
section
variable (ok0:ft->Bool) (g0_0:ft->tb)
def agS (a1:aB) (a2:aB) (c0_0:Ge):OT qm.Y:=
 let z0:ft:=(((),a1,a2,(),(),(↑(List.length a1):Int),(0:Int),()),(c0_0,()),[(0:UInt64),(0:UInt64),(0:UInt64),(0:UInt64)],[(0:UInt64),(0:UInt64),(0:UInt64),(0:UInt64)],())
 let z1:=(g0_0 z0).snd
 let z2:=z1.snd
 let z3:=z2.snd.fst
 let z4:=z2.fst
 let z5:ap:=lay z4 z3 4 (0:UInt64)
 (gd [ok0 z0,decide (4<=List.length z3),decide ((4/1:Nat)+0<=List.length z4),decide (4<=List.length z5)] (.ok ⟨JX,(({w0:=List.getD z5 0 0,w1:=List.getD z5 1 0,w2:=List.getD z5 2 0,w3:=List.getD z5 3 0},()),(z1.fst.fst,()),())⟩))
theorem acf (h0:bh Bu ok0 (Wc g0_0)) (pre:JY->Bool) (F:JY->OT qm.Y) (hF:∀ (x:JY) oy,pre x=true->(F x).run=some oy->(agS ok0 g0_0 x.1.2.1 x.1.2.2.1 x.2.1.1).run=some oy):aa aj 164 (qm.az pre F):=
 dh EL 164 Tryz.f164 qm [JX] (kZ EL 0 aq8 [(0,ql)] none none Bu bE h0 bE) (λx=>agS ok0 g0_0 x.1.2.1 x.1.2.2.1 x.2.1.1) hF
end
theorem be {a b:Bool} (h:a=true) (k:b=true):(a&&b)=true:=by rw [h,k];rfl
abbrev wG:Type:=mf×(Int×(ab×(List ab×(List ab×(List Pt×ab)))))
def aDL (m:Nat) (a b:aB) (k:Nat) (e:ab):ab:=dr m e (aR m (a.getD k ⟨0,0,0,0⟩) (b.getD k ⟨0,0,0,0⟩))
def aDM (m:Nat) (a b:aB):ab:=upto (aDL m a b) gT a.length
def NU (s:ft):Bool:=decide (s.1.2.2.2.2.2.1=(s.1.2.1.length:Int)/\s.1.2.2.2.2.2.2.1=0/\s.1.2.1.length<=s.1.2.2.1.length/\s.1.2.1.length<=140737488355328/\s.2.2.2.1=eL gT)&&ac s.2.1.1.2.1
def Wb (s:ft):tb:=(((),(),()),s.2.1,s.2.2.1,eL (aDM (pS s.2.1.1.2.1) s.1.2.1 s.1.2.2.1),())
theorem ara:bh Bu NU (Wc Wb):=by
 rintro ⟨⟨⟨⟩,a,b,⟨⟩,⟨⟩,n,i,⟨⟩⟩,⟨⟨o,⟨⟩⟩,c1,c2,⟨⟩⟩⟩ h
 have h':(decide (n=(a.length:Int)/\i=0/\a.length<=b.length/\a.length<=140737488355328/\c2=eL gT)&&ac o.2.1)=true:=h
 rw [aw] at h'
 obtain ⟨rfl,rfl,hl,hm,rfl⟩:=bn h'.1
 have hs:=h'.2
 have:=(bf (T:=Bu) (λk e=>((((),a,b,(),(),(a.length:Int),(k:Int),()),(o,()),c1,eL e,()):ft)) (aDL (pS o.2.1) a b)
  (λe=>(⟨(.exit 0,ql),(((),(),()),(o,()),c1,eL e,())⟩:aZ)) a.length gT (λ_ _=>True) trivial (λk e hk _=>⟨?_,trivial⟩) (λe _=> ?_)).1
 ·obtain ⟨m,hm⟩:=this
  exact ⟨m,_,hm,rfl⟩
 ·refine (OT.ak (ag (by dsimp only;omega))).trans ((ae ?_).trans rfl)
  simp only [aA,aI,aJ,aw]
  exact ⟨rfl,ba (by omega),ba (by omega),hs,hs,rfl,aS (by omega)⟩
 ·exact OT.au (bq (by dsimp only;omega))
def DQ (x:JY):Bool:=decide (x.1.2.1.length<=x.1.2.2.1.length/\x.1.2.1.length<=140737488355328)&&ac x.2.1.1.2.1
def Rk (x:JY):OT qm.Y:=.ok ⟨JX,((aDM (pS x.2.1.1.2.1) x.1.2.1 x.1.2.2.1,()),x.2)⟩
theorem alT:aa aj 164 (qm.az DQ Rk):=acf NU Wb ara _ _ λx oy hp ho=>by
 rw [<-ho]
 obtain ⟨⟨⟨⟩,a,b,⟨⟩⟩,⟨⟨o,⟨⟩⟩,⟨⟩⟩⟩:=x
 have hp':(decide (a.length<=b.length/\a.length<=140737488355328)&&ac o.2.1)=true:=hp
 rw [aw] at hp'
 obtain ⟨h1,h2⟩:=bn hp'.1
 refine (ae ?_).trans rfl
 simp only [aA,aI,aJ,aw]
 exact ⟨be (ag ⟨rfl,rfl,h1,h2,rfl⟩) hp'.2,rfl,rfl,rfl⟩
theorem Wa:azG aa6 (sl:= [.ptr 0 0 0,.val false (.list .elem),.val false (.list .elem)]) (b:=false) (m:=false) Rk:=λx oy h=>by
 cases h
 exact ⟨[.val true .elem],[],false,_,(),rfl,rfl⟩
def JW:bx:=Ih (qm.az DQ Rk)
theorem aq9:aa aj 164 JW:=Ig rfl Wa alT
theorem alS:ax JW:=xV av
def za:bx:=JW
theorem V9:aa aj 164 za:=aq9
theorem V8:ax za:=alS
def ai7:Env:=aq 164 za ai2
theorem EM:bU aj te ai7:=aU follows EL V9 V8
def yO:af:=⟨[eT,jK,jK,xh,du],[(0,.cells [.val true aa6])],false,1,false⟩
abbrev VL:Type:=(Unit×aB×aB×cH×oV)×uk×Unit
def axy:Shape:=⟨68,[Aa,(1,jK),(3,xh),(10,im),(11,.own 2),(41,aD),(42,aD)],[ra,(1,.cells oZ),zW],1,true⟩
abbrev gJ:Type:=(Unit×aB×cH×ry)×uk×rp×xd
def vx:Shape:=⟨68,[Aa,(10,im),(11,.own 2)],[ra,(1,.cells oZ),zW],1,true⟩
abbrev yN:Type:=nO×uk×rp×xd
def axB (a1:aB) (a3:cH) (a41:Int) (a42:Int) (c0_0:Ge) (c1_0:cI) (c2:ef):OT (Sum gJ aZ):=
 let z0:Nat:=Int.toNat a42
 let z1:ab:= {w0:=0,w1:=0,w2:=0,w3:=0}
 (.br (decide (a42<a41))
 (gd [inB a42 (List.length a1),inB a42 (List.length a3),decide ((List.length c2+1)*104<=140737488355328),inR (a42+(1:Int))] (.ok (.inl (((),a1,a3,(),(),a41,a42+(1:Int),()),(c0_0,()),(c1_0,()),c2++ [(List.getD a1 z0 z1,List.getD a3 z0 (z1,z1,false))],()))))
 (.ok (.inr ⟨(.exit 0,vx),(((),(),(),()),(c0_0,()),(c1_0,()),c2,())⟩)))
def GK (s:gJ):OT (Sum gJ aZ):=axB s.1.2.1 s.1.2.2.1 s.1.2.2.2.2.2.1 s.1.2.2.2.2.2.2.1 s.2.1.1 s.2.2.1.1 s.2.2.2.1
def agD (g0_0:gJ->yN) (s:gJ):OT aZ:=(.ok ⟨(.exit 0,vx),g0_0 s⟩)
def Q7:aL:=⟨oZ,[ra],false⟩
section
variable (ok0:gJ->Bool) (g0_0:gJ->yN)
def aqN (a1:aB) (a2:aB) (a3:cH) (a4:ab) (c0_0:Ge):OT yO.Y:=
 let z0:Nat:=pS c0_0.snd.fst
 let z1:ab:=aDM z0 a1 a2
 let z2:ab:= {w0:=0,w1:=0,w2:=0,w3:=0}
 let z3:gJ:=(((),a1,a3,(),(),(↑(List.length a1):Int),(0:Int),()),(c0_0,()),((z2,z2,false),()),[(aR z0 z1 c0_0.snd.snd.fst,c0_0.fst.snd.snd.snd.snd),(a4,c0_0.fst.snd.snd.snd.fst)],())
 let z4:=(g0_0 z3).snd
 let z5:=z4.fst.fst
 let z6:=z5.fst.fst
 let z7:=z4.snd.snd.fst
 (gd [DQ (((),a1,a2,()),(c0_0,()),()),dY ((c0_0.snd.fst,z1,c0_0.snd.snd.fst,()),()),ok0 z3,om ((z6,z7,()),())] (.ok ⟨Q7,((AF z6 (wC z6 z7),()),(z5,()),())⟩))
theorem alO (h0:bh GK ok0 (agD g0_0)) (pre:VL->Bool) (F:VL->OT yO.Y) (hF:∀ (x:VL) oy,pre x=true->(F x).run=some oy->(aqN ok0 g0_0 x.1.2.1 x.1.2.2.1 x.1.2.2.2.1 x.1.2.2.2.2.1 x.2.1.1).run=some oy):aa aj 138 (yO.az pre F):=
 dh EM 138 Tryz.f138 yO [Q7] (kZ EM 0 axy [(0,vx)] none none GK bE h0 bE) (λx=>aqN ok0 g0_0 x.1.2.1 x.1.2.2.1 x.1.2.2.2.1 x.1.2.2.2.2.1 x.2.1.1) hF
end
def AL (o:wG) (a b:aB) (g:List Pt) (r:ab):List Tm:=upto (rI g a) [(aR (pS o.2.1) (aDM (pS o.2.1) a b) o.2.2.1,o.1.2.2.2.2),(r,o.1.2.2.2.1)] a.length
def P6 (o:wG) (a b:aB) (g:List Pt) (r:ab):Pt:=AF o.1.1 (wC o.1.1 (AL o a b g r))
theorem Si (G:List Pt) (l:aB) (t:List Tm):∀ n,(upto (rI G l) t n).length=n+t.length
 |0=>(Nat.zero_add _).symm
 |n+1=>by
  show (upto (rI G l) t n++ [_]).length=_
  rw [bK,Si G l t n,List.length_singleton]
  omega
def VK (s:gJ):Bool:=decide (s.1.2.2.2.2.2.1=(s.1.2.1.length:Int)/\s.1.2.2.2.2.2.2.1=0/\s.1.2.1.length<=s.1.2.2.1.length/\s.1.2.1.length<=1000/\s.2.2.2.1.length=2)
def agC (s:gJ):yN:=(((),(),(),()),s.2.1,s.2.2.1,upto (rI s.1.2.2.1 s.1.2.1) s.2.2.2.1 s.1.2.1.length,())
theorem axA:bh GK VK (agD agC):=by
 rintro ⟨⟨⟨⟩,a,g,⟨⟩,⟨⟩,n,i,⟨⟩⟩,⟨o,c1,c2,⟨⟩⟩⟩ h
 have h':=bn h
 dsimp only at h'
 obtain ⟨rfl,rfl,hl,hm,h2⟩:=h'
 have:=(bf (T:=GK) (λk e=>((((),a,g,(),(),(a.length:Int),(k:Int),()),o,c1,e,()):gJ)) (rI g a)
  (λe=>(⟨(.exit 0,vx),(((),(),(),()),o,c1,e,())⟩:aZ)) a.length c2 (λk e=>e.length=k+2) h2 (λk e hk hq=>⟨?_,?_⟩) (λe _=> ?_)).1
 ·obtain ⟨m,hm⟩:=this
  exact ⟨m,_,hm,rfl⟩
 ·have hq:e.length=k+2:=hq
  refine (OT.ak (ag (by dsimp only;omega))).trans ((ae ?_).trans rfl)
  simp only [aA,aI,aJ,aw]
  exact ⟨ba (by omega),ba (by omega),ag (by omega),aS (by omega)⟩
 ·show (e++ [_]).length=_
  rw [bK,show e.length=k+2 from hq]
  rfl
 ·exact OT.au (bq (by dsimp only;omega))
def sU (x:VL):Bool:=decide (x.1.2.1.length<=x.1.2.2.1.length/\x.1.2.1.length<=x.1.2.2.2.1.length/\x.1.2.1.length<=1000)&&(ac x.2.1.1.2.1&&(ac x.2.1.1.1.1&&cv x.2.1.1.1.1 (AL x.2.1.1 x.1.2.1 x.1.2.2.1 x.1.2.2.2.1 x.1.2.2.2.2.1)))
def ab1 (x:VL):OT yO.Y:=.ok ⟨Q7,((P6 x.2.1.1 x.1.2.1 x.1.2.2.1 x.1.2.2.2.1 x.1.2.2.2.2.1,()),x.2)⟩
theorem aqM:aa aj 138 (yO.az sU ab1):=alO VK agC axA _ _ λx oy hp ho=>by
 rw [<-ho]
 obtain ⟨⟨⟨⟩,a,b,g,r,⟨⟩⟩,⟨⟨o,⟨⟩⟩,⟨⟩⟩⟩:=x
 have hp':(decide (a.length<=b.length/\a.length<=g.length/\a.length<=1000)&&(ac o.2.1&&(ac o.1.1&&cv o.1.1 (AL o a b g r))))=true:=hp
 simp only [aw] at hp'
 obtain ⟨h1,h2,h3,h4⟩:=hp'
 obtain ⟨h5,h6,h7⟩:=bn h1
 refine (ae ?_).trans rfl
 simp only [aA,aI,aJ,aw]
 refine ⟨be (ag ⟨h5,?_⟩) h2,h2,ag ⟨rfl,rfl,h6,h7,rfl⟩,be h3 (be (ag ?_) h4)⟩
 ·show a.length<=140737488355328;omega
 ·show (AL o a b g r).length<=100000
  unfold AL
  rw [Si]
  show a.length+2<=100000
  omega
theorem ab0:azG aa6 (sl:= [.ptr 0 0 0,.val false (.list .elem),.val false (.list .elem),.val false (.list (.prod .elem (.prod .elem .bool))),.val true .elem]) (b:=false) (m:=false) ab1:=λx oy h=>by
 cases h
 exact ⟨[.val true (.prod .elem (.prod .elem .bool))],[],false,_,(),rfl,rfl⟩
def Q6:bx:=Ih (yO.az sU ab1)
theorem axz:aa aj 138 Q6:=Ig rfl ab0 aqM
theorem aqL:ax Q6:=xV av
def DE:bx:=Q6
theorem abZ:aa aj 138 DE:=axz
theorem abY:ax DE:=aqL
def auO:Env:=aq 138 DE ai7
theorem LX:bU aj te auO:=aU follows EM abZ abY
def zc:af:=⟨[eT,jK,du],[(0,.cells [.val true aa6])],false,1,false⟩
abbrev Wd:Type:=(Unit×aB×oV)×uk×Unit
def axS:Shape:=⟨46,[Aa,(1,jK),uo,xf,(8,.own 2),(16,aD),zZ],[ra,o3,(2,fH)],1,true⟩
abbrev gM:Type:=(Unit×aB×Unit×Int×Unit×jM)×uk×ap×fG
def vD:Shape:=⟨46,[(8,kg)],[ra,(1,fH)],1,true⟩
abbrev zb:Type:=b8×uk×fG
def axV (a1:aB) (a7:Int) (a16:Int) (a17:Int) (c0_0:Ge) (c1:ap) (c2:aB):OT (Sum gM aZ):=
 let z0:Nat:=List.length a1
 let z1:ab:= {w0:=List.getD c1 0 0,w1:=List.getD c1 1 0,w2:=List.getD c1 2 0,w3:=List.getD c1 3 0}
 let z2:ab:= {w0:=0,w1:=0,w2:=0,w3:=0}
 let z3:ab:=List.getD a1 (Int.toNat (a7+a17)) z2
 let z4:Nat:=Int.toNat a17
 let z5:ab:=List.getD a1 z4 z2
 let z6:Nat:=pS c0_0.snd.fst
 let z7:ab:=aR z6 z1 z3
 let z8:Nat:=List.length c2
 (.br (decide (a17<a16))
 (gd [inB a17 z0,decide (4<=List.length c1),inR (a7+a17),inB (a7+a17) z0,dY ((c0_0.snd.fst,z1,z3,()),()),gQ ((c0_0.snd.fst,z5,z7,()),()),inB a17 z8,decide (z4<z8),inR (a17+(1:Int))] (.ok (.inl (((),a1,(),a7,(),a16,a17+(1:Int),()),(c0_0,()),c1,List.set c2 z4 (dr z6 z5 z7),()))))
 (.ok (.inr ⟨(.exit 0,vD),(((),()),(c0_0,()),c2,())⟩)))
def GQ (s:gM):OT (Sum gM aZ):=axV s.1.2.1 s.1.2.2.2.1 s.1.2.2.2.2.2.1 s.1.2.2.2.2.2.2.1 s.2.1.1 s.2.2.1 s.2.2.2.1
def agT (g0_0:gM->zb) (s:gM):OT aZ:=(.ok ⟨(.exit 0,vD),g0_0 s⟩)
def Rm:aL:=⟨[kg],[ra,(1,fH)],false⟩
section
variable (ok0:gM->Bool) (g0_0:gM->zb)
def Ro (a1:aB) (a2:ab) (c0_0:Ge):OT zc.Y:=
 let z0:Int:=Int.tdiv (↑(List.length a1):Int) (2:Int)
 let z1:aB:=List.replicate (Int.toNat z0) {w0:=0,w1:=0,w2:=0,w3:=0}
 let z2:gM:=(((),a1,(),z0,(),(↑(List.length z1):Int),(0:Int),()),(c0_0,()),[a2.w0,a2.w1,a2.w2,a2.w3],z1,())
 let z3:=(g0_0 z2).snd
 (gd [true&&inR z0,decide ((0:Int)<=z0)&&decide (z0<=z0)&&decide (z0*(32:Int)<=(140737488355328:Int))&&decide (z0<=(140737488355328:Int)),ok0 z2] (.ok ⟨Rm,(((),()),(z3.fst.fst,()),z3.snd.fst,())⟩))
theorem alU (h0:bh GQ ok0 (agT g0_0)) (pre:Wd->Bool) (F:Wd->OT zc.Y) (hF:∀ (x:Wd) oy,pre x=true->(F x).run=some oy->(Ro ok0 g0_0 x.1.2.1 x.1.2.2.1 x.2.1.1).run=some oy):aa aj 139 (zc.az pre F):=
 dh LX 139 Tryz.f139 zc [Rm] (kZ LX 0 axS [(0,vD)] none none GQ bE h0 bE) (λx=>Ro ok0 g0_0 x.1.2.1 x.1.2.2.1 x.2.1.1) hF
end
def aha (m:Nat) (a:aB) (k:ab) (h:Nat) (i:Nat) (l:aB):aB:=l.set i (dr m (a.getD i ⟨0,0,0,0⟩) (aR m k (a.getD (h+i) ⟨0,0,0,0⟩)))
def qt (m:Nat) (a:aB) (k:ab):aB:=upto (aha m a k (a.length/2)) (List.replicate (a.length/2) ⟨0,0,0,0⟩) (a.length/2)
theorem N6 (m:Nat) (a:aB) (k:ab) (h:Nat) (l:aB):∀ n,(upto (aha m a k h) l n).length=l.length
 |0=>rfl
 |n+1=>by
  show (List.set _ _ _).length=_
  rw [cy,N6 m a k h l n]
theorem BJ (m:Nat) (a:aB) (k:ab):(qt m a k).length=a.length/2:=by
 unfold qt
 rw [N6,fW]
def JZ (s:gM):Bool:=decide (s.1.2.2.2.1=((s.1.2.1.length/2:Nat):Int)/\s.1.2.2.2.2.2.1=((s.1.2.1.length/2:Nat):Int)/\s.1.2.2.2.2.2.2.1=0/\s.1.2.1.length<=140737488355328/\s.2.2.1.length=4/\s.2.2.2.1.length=s.1.2.1.length/2)&&ac s.2.1.1.2.1
def Rn (s:gM):zb:=(((),()),s.2.1,upto (aha (pS s.2.1.1.2.1) s.1.2.1 ⟨s.2.2.1.getD 0 0,s.2.2.1.getD 1 0,s.2.2.1.getD 2 0,s.2.2.1.getD 3 0⟩ (s.1.2.1.length/2)) s.2.2.2.1 (s.1.2.1.length/2),())
theorem axU:bh GQ JZ (agT Rn):=by
 rintro ⟨⟨⟨⟩,a,⟨⟩,h,⟨⟩,n,i,⟨⟩⟩,⟨⟨o,⟨⟩⟩,c1,c2,⟨⟩⟩⟩ h0
 have h1:(decide (h=((a.length/2:Nat):Int)/\n=((a.length/2:Nat):Int)/\i=0/\a.length<=140737488355328/\c1.length=4/\c2.length=a.length/2)&&ac o.2.1)=true:=h0
 rw [aw] at h1
 obtain ⟨rfl,rfl,rfl,hm,h4,hc⟩:=bn h1.1
 have hs:=h1.2
 have:=(bf (T:=GQ) (λk e=>((((),a,(),((a.length/2:Nat):Int),(),((a.length/2:Nat):Int),(k:Int),()),(o,()),c1,e,()):gM)) (aha (pS o.2.1) a ⟨c1.getD 0 0,c1.getD 1 0,c1.getD 2 0,c1.getD 3 0⟩ (a.length/2))
  (λe=>(⟨(.exit 0,vD),(((),()),(o,()),e,())⟩:aZ)) (a.length/2) c2 (λk e=>e.length=a.length/2) hc (λk e hk hq=>⟨?_,?_⟩) (λe _=> ?_)).1
 ·obtain ⟨m,hm⟩:=this
  exact ⟨m,_,hm,rfl⟩
 ·have hq:e.length=a.length/2:=hq
  have e1:(((a.length/2:Nat):Int)+(k:Int))=((a.length/2+k:Nat):Int):=by omega
  refine (OT.ak (ag (by dsimp only;omega))).trans ((ae ?_).trans rfl)
  simp only [aA,aI,aJ,aw]
  exact ⟨ba (by omega),ag (by omega),aS (by omega),ba (by omega),hs,hs,ba (by omega),ag (by show k<e.length;omega),aS (by omega)⟩
 ·show (List.set _ _ _).length=_
  rw [cy]
  exact hq
 ·exact OT.au (bq (by dsimp only;omega))
def tc (x:Wd):Bool:=decide (x.1.2.1.length<=1000)&&ac x.2.1.1.2.1
def acj (x:Wd):OT zc.Y:=.ok ⟨Rm,(((),()),x.2.1,qt (pS x.2.1.1.2.1) x.1.2.1 x.1.2.2.1,())⟩
theorem ard:aa aj 139 (zc.az tc acj):=alU JZ Rn axU _ _ λx oy hp ho=>by
 rw [<-ho]
 obtain ⟨⟨⟨⟩,a,k,⟨⟩⟩,⟨⟨o,⟨⟩⟩,⟨⟩⟩⟩:=x
 have hp':(decide (a.length<=1000)&&ac o.2.1)=true:=hp
 rw [aw] at hp'
 have h1:=bn hp'.1
 have e:Int.tdiv (a.length:Int) 2=((a.length/2:Nat):Int):=rfl
 show (Ro JZ Rn a k o).run=_
 unfold Ro
 dsimp only
 rw [e]
 generalize hh:a.length/2=h at*
 have h2:h<=1000:=by omega
 refine (ae ?_).trans ?_
 ·simp only [aA,aI,aJ,aw,Bool.true_and]
  refine ⟨aS (by omega),⟨⟨⟨ag (by omega),ag (Int.le_refl _)⟩,ag (by omega)⟩,ag (by omega)⟩,be (ag ?_) hp'.2⟩
  simp only [cB,fW,hh]
  exact ⟨trivial,trivial,trivial,by omega,rfl,trivial⟩
 ·subst hh
  rfl
theorem aci:azG aa6 (sl:= [.ptr 0 0 0,.val false (.list .elem),.val true .elem]) (b:=false) (m:=false) acj:=λx oy h=>by
 cases h
 exact ⟨[.own 1],[(1,.row .elem)],false,_,_,rfl,rfl⟩
def Rl:bx:=Ih (zc.az tc acj)
theorem axT:aa aj 139 Rl:=Ig rfl aci ard
theorem arc:ax Rl:=xV av
def DR:bx:=Rl
theorem ach:aa aj 139 DR:=axT
theorem acg:ax DR:=arc
def auS:Env:=aq 139 DR auO
theorem auR:bU aj te auS:=aU follows LX ach acg
abbrev TS:af:=kh
def jT (x:xF):Bool:=CV x&&onB x.2.1.1 x.1.2.1
def TT (x:xF):OT kh.Y:=.ok ⟨ku,(((0:Int),()),(x.2.1.1,(),(),()),(x.2.2.1.1,x.2.2.1.2.1,()),x.2.2.2.1++jJ x.2.1.1 x.1.2.1,())⟩
theorem akl:aa aj 92 (TS.az jT TT):=cJ (S:=kh) aov λx oy hp ho=>by
 have hp':(CV x&&onB x.2.1.1 x.1.2.1)=true:=hp
 rw [aw] at hp'
 exact ⟨hp'.1,(OT.ak (b:=onB x.2.1.1 x.1.2.1) hp'.2).trans ho⟩
def rT:bx:=(TS.az jT TT)
theorem PO:aa aj 92 rT:=akl
theorem PN:ax rT:=av
def tg:bx:=rT
theorem Rv:aa aj 92 tg:=PO
theorem Ru:ax tg:=PN
def Y8:Env:=aq 92 tg auS
theorem Ae:bU aj te Y8:=aU follows auR Rv Ru
def opC:CSh:=.cells [.val true aa6]
def wrC (k:Nat):CSh:=.cells [.val false .int,.ifp 165 2,.own k]
def lR:af:=⟨[eT,im,gn],[(0,opC),(1,wrC 4),(2,ur),(3,Cs),(4,jQ)],false,4,true⟩
def sV:aL:=⟨[],[(0,opC),(1,wrC 4),(2,ur),(3,Cs),(4,jQ)],false⟩
def kJ:aL:=⟨Ac,[(0,opC),(1,wrC 4),(2,ur),(3,Cs),(4,jQ)],true⟩
abbrev DI:Type:=nO×uk×kR×jN×fG×dp
def aqO:Shape:=⟨188,[Aa,(6,Cm),(7,FP),(8,aD),(9,.ptr 7 0 0),(10,LK),(11,.own 9),(115,aD),(116,aD)],aBr,5,true⟩
abbrev fq:Type:=(Unit×Unit×Unit×Int×Unit×ry)×aBc
def qe:Shape:=⟨188,[Aa,(6,Cm),(7,FP),(9,.ptr 7 0 0),(10,LK),(11,.own 9)],aBr,5,true⟩
abbrev sW:Type:=(Unit×Unit×LB)×aBc
def aqR (a8:Int) (a115:Int) (a116:Int) (c0_0:kS) (c0_1:Int) (c0_2:ab) (c0_5:cH) (c0_6:ab) (c1_0:Int) (c2_0:Int) (c2_1:aB) (c3_0:aB) (c5:ap) (c6:ap) (c7:ap) (c8:ap) (c9:cH) (c10:aB) (c11:aB) (c12:aH):OT (Sum fq aZ):=
 let z0:Nat:=List.length c0_5
 let z1:Nat:=List.length c9
 let z2:Nat:=Int.toNat a116
 let z3:ab:= {w0:=0,w1:=0,w2:=0,w3:=0}
 let z4:cI:=(z3,z3,false)
 (.br (decide (a116<a115))
 (gd [inB a116 z0,decide (4<=List.length c7),inR (a8+a116),inB (a8+a116) z0,inB a116 z1,decide (z2<z1),inR (a116+(1:Int))] (.ok (.inl (((),(),(),a8,(),(),(),a115,a116+(1:Int),()),(c0_0,c0_1,c0_2,(),(),c0_5,c0_6,()),(c1_0,(),(),()),(c2_0,c2_1,()),(c3_0,()),(),c5,c6,c7,c8,List.set c9 z2 (fO c0_0.fst (List.getD c0_5 z2 z4) (pN c0_0.fst {w0:=List.getD c7 0 0,w1:=List.getD c7 1 0,w2:=List.getD c7 2 0,w3:=List.getD c7 3 0} (List.getD c0_5 (Int.toNat (a8+a116)) z4))),c10,c11,c12,()))))
 (.ok (.inr ⟨(.exit 0,qe),(((),(),(),(),(),(),()),(c0_0,c0_1,c0_2,(),(),c0_5,c0_6,()),(c1_0,(),(),()),(c2_0,c2_1,()),(c3_0,()),(),c5,c6,c7,c8,c9,c10,c11,c12,())⟩)))
def Bp (s:fq):OT (Sum fq aZ):=aqR s.1.2.2.2.1 s.1.2.2.2.2.2.2.2.1 s.1.2.2.2.2.2.2.2.2.1 s.2.1.1 s.2.1.2.1 s.2.1.2.2.1 s.2.1.2.2.2.2.2.1 s.2.1.2.2.2.2.2.2.1 s.2.2.1.1 s.2.2.2.1.1 s.2.2.2.1.2.1 s.2.2.2.2.1.1 s.2.2.2.2.2.2.1 s.2.2.2.2.2.2.2.1 s.2.2.2.2.2.2.2.2.1 s.2.2.2.2.2.2.2.2.2.1 s.2.2.2.2.2.2.2.2.2.2.1 s.2.2.2.2.2.2.2.2.2.2.2.1 s.2.2.2.2.2.2.2.2.2.2.2.2.1 s.2.2.2.2.2.2.2.2.2.2.2.2.2.1
def VS (g0_0:fq->sW) (s:fq):OT aZ:=(.ok ⟨(.exit 0,qe),g0_0 s⟩)
section
variable (ok0:fq->Bool) (g0_0:fq->sW)
def GL (c0_0:Ge) (c1_0:Int) (c2_0:Int) (c2_1:aB) (c3_0:aB) (c4:aH):OT lR.Y:=
 let z0:PUnit×PUnit:=((),())
 let z1:mU:=ao c3_0
 let z2:=z1.snd
 let z3:=z2.fst
 let z4:=z2.snd
 let z5:mU:=ao z4
 let z6:=z5.snd
 let z7:=z6.fst
 let z8:Nat:=List.length c0_0.snd.snd.snd.fst
 let z9:Int:=(↑z8:Int)
 let z10:Int:=Int.tdiv z9 (2:Int)
 let z11:Nat:=List.length c0_0.snd.snd.snd.snd.fst
 let z12:Nat:=List.length c0_0.snd.snd.snd.snd.snd.fst
 let z13:Nat:=Int.toNat z10
 let z14:aB:=List.drop z13 c0_0.snd.snd.snd.fst
 let z15:aB:=List.drop 0 (List.take z13 c0_0.snd.snd.snd.snd.fst)
 let z16:cH:=List.drop 0 (List.take z13 c0_0.snd.snd.snd.snd.snd.fst)
 let z17:=z1.fst
 let z18:(Ge×PUnit)×PUnit:=((c0_0,()),())
 let z19:cI:=P6 c0_0 z14 z15 z16 z17
 let z20:Int×Cf:=(c1_0,(),(),())
 let z21:LF:=(c2_0,c2_1,())
 let z22:aB:=List.drop 0 (List.take z13 c0_0.snd.snd.snd.fst)
 let z23:aB:=List.drop z13 c0_0.snd.snd.snd.snd.fst
 let z24:cH:=List.drop z13 c0_0.snd.snd.snd.snd.snd.fst
 let z25:=z5.fst
 let z26:cI:=P6 c0_0 z22 z23 z24 z25
 let z27:aH:=c4++jJ c1_0 z19
 let z28:aH:=z27++jJ c1_0 z26
 let z29:mU:=ao c2_1
 let z30:=z29.snd
 let z31:=z30.fst
 let z32:ab:= {w0:=0,w1:=0,w2:=0,w3:=0}
 let z33:ab:=dr (pS c2_0) z29.fst z32
 let z34:=z30.snd
 let z35:=z6.snd
 let z36:Nat:=pS c0_0.snd.fst
 let z37:ab:=CC z36 z33
 let z38:cH:=List.replicate z13 (z32,z32,false)
 let z39:fq:=(((),(),(),z10,(),(),(),(↑(List.length z38):Int),(0:Int),()),(c0_0.fst,c0_0.snd.fst,c0_0.snd.snd.fst,(),(),c0_0.snd.snd.snd.snd.snd.fst,c0_0.snd.snd.snd.snd.snd.snd,()),(c1_0,(),(),()),(c2_0,z34,()),(z35,()),(),[z17.w0,z17.w1,z17.w2,z17.w3],[z25.w0,z25.w1,z25.w2,z25.w3],[z33.w0,z33.w1,z33.w2,z33.w3],[z37.w0,z37.w1,z37.w2,z37.w3],z38,qt z36 c0_0.snd.snd.snd.fst z37,qt z36 c0_0.snd.snd.snd.snd.fst z33,z28,())
 let z40:=(g0_0 z39).snd
 let z41:=z40.snd
 let z42:=z41.snd
 let z43:=z42.snd
 let z44:=z43.snd.snd
 let z45:=z44.snd
 let z46:=z45.snd
 let z47:=z46.snd
 let z48:=z47.fst
 let z49:=z44.fst
 let z50:=z40.fst
 let z51:=z50.snd
 let z52:=z51.fst
 let z53:ab:= {w0:=List.getD z48 0 0,w1:=List.getD z48 1 0,w2:=List.getD z48 2 0,w3:=List.getD z48 3 0}
 let z54:ab:= {w0:=List.getD z49 0 0,w1:=List.getD z49 1 0,w2:=List.getD z49 2 0,w3:=List.getD z49 3 0}
 let z55:=z46.fst
 let z56:=z45.fst
 let z57:ab:= {w0:=List.getD z55 0 0,w1:=List.getD z55 1 0,w2:=List.getD z55 2 0,w3:=List.getD z55 3 0}
 let z58:ab:= {w0:=List.getD z56 0 0,w1:=List.getD z56 1 0,w2:=List.getD z56 2 0,w3:=List.getD z56 3 0}
 let z59:Nat:=pS z52
 let z60:ab:=aR z59 z53 z54
 let z61:ab:=aR z59 z57 z58
 let z62:=z51.snd
 let z63:=z62.snd.snd.snd.snd.fst
 let z64:ab:=dr z59 z60 z61
 let z65:=z47.snd
 let z66:=z65.snd
 let z67:=z66.snd
 let z68:=z42.fst
 (gd [og (z0,(c3_0,()),())] (.br (z3==(0:Int))
 (gd [og (z0,(z4,()),())] (.br (z7==(0:Int))
  (gd [true&&inR z10,cm z10 z9 z8,cm (0:Int) z10 z11,cm (0:Int) z10 z12,sU (((),z14,z15,z16,z17,()),z18),jT (((),z19,()),z20,z21,c4,()),cm (0:Int) z10 z8,cm z10 (↑z11:Int) z11,cm z10 (↑z12:Int) z12,sU (((),z22,z23,z24,z25,()),z18),jT (((),z26,()),z20,z21,z27,()),rW (z0,z20,z21,z28,())] (.br (z31==(0:Int))
   (.br (bB z33)
    (.ok ⟨kJ,(((100:Int),()),(c0_0,()),(c1_0,(),(),()),(c2_0,z34,()),(z35,()),z28,())⟩)
    (gd [tK ((c0_0.snd.fst,z33,()),()),tc (((),c0_0.snd.snd.snd.fst,z37,()),z18),tc (((),c0_0.snd.snd.snd.snd.fst,z33,()),z18),decide ((0:Int)<=z10)&&decide (z10<=z10)&&decide (z10*(72:Int)<=(140737488355328:Int))&&decide (z10<=(140737488355328:Int)),ok0 z39,decide (4<=List.length z48),decide (4<=List.length z49),dY ((z52,z53,z54,()),()),decide (4<=List.length z55),decide (4<=List.length z56),dY ((z52,z57,z58,()),()),gQ ((z52,z60,z61,()),()),gQ ((z52,z63,z64,()),())] (.ok ⟨sV,((),((z50.fst,z52,z62.fst,z66.fst,z67.fst,z65.fst,dr z59 z63 z64),()),(z41.fst.fst,(),(),()),(z68.fst,z68.snd.fst,()),(z43.fst.fst,()),z67.snd.fst,())⟩)))
   (.ok ⟨kJ,((z31,()),(c0_0,()),(c1_0,(),(),()),(c2_0,z34,()),(z35,()),z28,())⟩)))
  (.ok ⟨kJ,((z7,()),(c0_0,()),(c1_0,(),(),()),(c2_0,c2_1,()),(z35,()),c4,())⟩)))
 (.ok ⟨kJ,((z3,()),(c0_0,()),(c1_0,(),(),()),(c2_0,c2_1,()),(z4,()),c4,())⟩)))
theorem ab2 (h0:bh Bp ok0 (VS g0_0)) (pre:DI->Bool) (F:DI->OT lR.Y) (hF:∀ (x:DI) oy,pre x=true->(F x).run=some oy->(GL ok0 g0_0 x.2.1.1 x.2.2.1.1 x.2.2.2.1.1 x.2.2.2.1.2.1 x.2.2.2.2.1.1 x.2.2.2.2.2.1).run=some oy):aa aj 93 (lR.az pre F):=
 aD0 Ae 93 Tryz.f93 lR [sV] [kJ] (kZ Ae 0 aqO [(0,qe)] none none Bp bE h0 bE) (λx=>GL ok0 g0_0 x.2.1.1 x.2.2.1.1 x.2.2.2.1.1 x.2.2.2.1.2.1 x.2.2.2.2.1.1 x.2.2.2.2.2.1) hF
end
def arn (c:Int) (g:List Pt) (u:ab) (h:Nat) (i:Nat) (l:List Pt):List Pt:=l.set i (fO c (g.getD i jI) (pN c u (g.getD (h+i) jI)))
def DV (c:Int) (g:List Pt) (u:ab) (h:Nat) (l:List Pt):List Pt:=upto (arn c g u h) l h
theorem NW (c:Int) (g:List Pt) (u:ab) (h:Nat) (l:List Pt):∀ n,(upto (arn c g u h) l n).length=l.length
 |0=>rfl
 |n+1=>by
  show (List.set _ _ _).length=_
  rw [cy,NW c g u h l n]
def QG (o:wG) (u l r:ab):wG:=(o.1,o.2.1,o.2.2.1,qt (pS o.2.1) o.2.2.2.1 (CC (pS o.2.1) u),qt (pS o.2.1) o.2.2.2.2.1 u,
 (DV o.1.1 o.2.2.2.2.2.1 u (o.2.2.2.1.length/2) (List.replicate (o.2.2.2.1.length/2) jI),dr (pS o.2.1) o.2.2.2.2.2.2 (dr (pS o.2.1) (aR (pS o.2.1) (CC (pS o.2.1) u) l) (aR (pS o.2.1) u r))))
def avq (o:wG) (l:ab):Pt:=P6 o (o.2.2.2.1.drop (o.2.2.2.1.length/2)) (o.2.2.2.2.1.take (o.2.2.2.1.length/2)) (o.2.2.2.2.2.1.take (o.2.2.2.1.length/2)) l
def Rx (o:wG) (r:ab):Pt:=P6 o (o.2.2.2.1.take (o.2.2.2.1.length/2)) (o.2.2.2.2.1.drop (o.2.2.2.1.length/2)) (o.2.2.2.2.2.1.drop (o.2.2.2.1.length/2)) r
abbrev Cu:Type:=wG×(List ab×(List ab×List UInt8))
def bo (c s:Int) (q:Cu):Int×Cu:=
 cond ((ao q.2.2.1).2.1==0) (cond ((ao (ao q.2.2.1).2.2).2.1==0)
  (cond ((ao q.2.1).2.1==0) (cond (bB (dr (pS s) (ao q.2.1).1 ⟨0,0,0,0⟩))
   (100,q.1,(ao q.2.1).2.2,(ao (ao q.2.2.1).2.2).2.2,q.2.2.2++jJ c (avq q.1 (ao q.2.2.1).1)++jJ c (Rx q.1 (ao (ao q.2.2.1).2.2).1))
   (0,QG q.1 (dr (pS s) (ao q.2.1).1 ⟨0,0,0,0⟩) (ao q.2.2.1).1 (ao (ao q.2.2.1).2.2).1,(ao q.2.1).2.2,(ao (ao q.2.2.1).2.2).2.2,q.2.2.2++jJ c (avq q.1 (ao q.2.2.1).1)++jJ c (Rx q.1 (ao (ao q.2.2.1).2.2).1)))
   ((ao q.2.1).2.1,q.1,(ao q.2.1).2.2,(ao (ao q.2.2.1).2.2).2.2,q.2.2.2++jJ c (avq q.1 (ao q.2.2.1).1)++jJ c (Rx q.1 (ao (ao q.2.2.1).2.2).1)))
  ((ao (ao q.2.2.1).2.2).2.1,q.1,q.2.1,(ao (ao q.2.2.1).2.2).2.2,q.2.2.2))
  ((ao q.2.2.1).2.1,q.1,q.2.1,(ao q.2.2.1).2.2,q.2.2.2)
def aGU (o:wG) (l:ab):List Tm:=AL o (o.2.2.2.1.drop (o.2.2.2.1.length/2)) (o.2.2.2.2.1.take (o.2.2.2.1.length/2)) (o.2.2.2.2.2.1.take (o.2.2.2.1.length/2)) l
def axX (o:wG) (r:ab):List Tm:=AL o (o.2.2.2.1.take (o.2.2.2.1.length/2)) (o.2.2.2.2.1.drop (o.2.2.2.1.length/2)) (o.2.2.2.2.2.1.drop (o.2.2.2.1.length/2)) r
def aAa (q:Cu):Bool:=decide (q.1.2.2.2.2.1.length=q.1.2.2.2.1.length/\q.1.2.2.2.2.2.1.length=q.1.2.2.2.1.length/\q.1.2.2.2.1.length<=64/\q.1.2.2.2.1.length%2=0/\q.2.1.length<=140737488355328/\q.2.2.1.length<=140737488355328/\q.2.2.2.length<=140737488340000)
def pA (c s:Int) (q:Cu):Bool:=aAa q&&(ac s&&(ac q.1.1.1&&(q.1.2.1==s&&(cv q.1.1.1 (aGU q.1 (ao q.2.2.1).1)&&(cv q.1.1.1 (axX q.1 (ao (ao q.2.2.1).2.2).1)&&(onB c (avq q.1 (ao q.2.2.1).1)&&onB c (Rx q.1 (ao (ao q.2.2.1).2.2).1)))))))
theorem fN (l:aB):(ao l).2.2.length<=l.length:=by
 cases l with
 |nil=>exact Nat.le_refl _
 |cons a r=>exact Nat.le_succ _
theorem aal {s:Int} (h:ac s=true):Sm (pS s):=by
 rcases cb h with rfl|rfl|rfl|rfl<;>exact ⟨by decide+kernel,by decide+kernel⟩
theorem as7 {s:Int} (hs:ac s=true) {v:ab} (h:bB (dr (pS s) v ⟨0,0,0,0⟩)=false):tK ((s,dr (pS s) v ⟨0,0,0,0⟩,()),())=true:=by
 show (ac s&& !Nat.beq ((dr (pS s) v ⟨0,0,0,0⟩).nat%pS s) 0)=true
 rw [hs,bm (zT (aal hs) v _),<-dF,h]
 rfl
def DH (s:fq):Bool:=decide (s.1.2.2.2.1=((s.2.1.2.2.2.2.2.1.length/2:Nat):Int)/\s.1.2.2.2.2.2.2.2.1=((s.2.1.2.2.2.2.2.1.length/2:Nat):Int)/\s.1.2.2.2.2.2.2.2.2.1=0/\s.2.1.2.2.2.2.2.1.length<=64/\s.2.2.2.2.2.2.2.2.1.length=4/\s.2.2.2.2.2.2.2.2.2.2.1.length=s.2.1.2.2.2.2.2.1.length/2)
def Bn (s:fq):sW:=(((),(),(),(),(),(),()),s.2.1,s.2.2.1,s.2.2.2.1,s.2.2.2.2.1,(),s.2.2.2.2.2.2.1,s.2.2.2.2.2.2.2.1,s.2.2.2.2.2.2.2.2.1,s.2.2.2.2.2.2.2.2.2.1,
 DV s.2.1.1.1 s.2.1.2.2.2.2.2.1 ⟨s.2.2.2.2.2.2.2.2.1.getD 0 0,s.2.2.2.2.2.2.2.2.1.getD 1 0,s.2.2.2.2.2.2.2.2.1.getD 2 0,s.2.2.2.2.2.2.2.2.1.getD 3 0⟩ (s.2.1.2.2.2.2.2.1.length/2) s.2.2.2.2.2.2.2.2.2.2.1,s.2.2.2.2.2.2.2.2.2.2.2.1,s.2.2.2.2.2.2.2.2.2.2.2.2.1,s.2.2.2.2.2.2.2.2.2.2.2.2.2.1,())
theorem aqQ:bh Bp DH (VS Bn):=by
 rintro ⟨⟨⟨⟩,⟨⟩,⟨⟩,h,⟨⟩,⟨⟩,⟨⟩,n,i,⟨⟩⟩,⟨⟨p,so,z,⟨⟩,⟨⟩,g,bl,⟨⟩⟩,x1,x2,x3,⟨⟩,c5,c6,c7,c8,c9,c10,c11,c12,⟨⟩⟩⟩ h0
 have h1:=bn h0
 dsimp only at h1
 obtain ⟨rfl,rfl,rfl,hm,h4,hc⟩:=h1
 have:=(bf (T:=Bp) (λk e=>((((),(),(),((g.length/2:Nat):Int),(),(),(),((g.length/2:Nat):Int),(k:Int),()),(p,so,z,(),(),g,bl,()),x1,x2,x3,(),c5,c6,c7,c8,e,c10,c11,c12,()):fq)) (arn p.1 g ⟨c7.getD 0 0,c7.getD 1 0,c7.getD 2 0,c7.getD 3 0⟩ (g.length/2))
  (λe=>(⟨(.exit 0,qe),(((),(),(),(),(),(),()),(p,so,z,(),(),g,bl,()),x1,x2,x3,(),c5,c6,c7,c8,e,c10,c11,c12,())⟩:aZ)) (g.length/2) c9 (λk e=>e.length=g.length/2) hc (λk e hk hq=>⟨?_,?_⟩) (λe _=> ?_)).1
 ·obtain ⟨m,hm⟩:=this
  exact ⟨m,_,hm,rfl⟩
 ·have hq:e.length=g.length/2:=hq
  have e1:(((g.length/2:Nat):Int)+(k:Int))=((g.length/2+k:Nat):Int):=by omega
  refine (OT.ak (ag (by dsimp only;omega))).trans ((ae ?_).trans rfl)
  simp only [aA,aI,aJ,aw]
  exact ⟨ba (by omega),ag (by omega),aS (by omega),ba (by omega),ba (by omega),ag (by show k<e.length;omega),aS (by omega)⟩
 ·show (List.set _ _ _).length=_
  rw [cy]
  exact hq
 ·exact OT.au (bq (by dsimp only;omega))
def F3 (x:DI):Cu:=(x.2.1.1,x.2.2.2.1.2.1,x.2.2.2.2.1.1,x.2.2.2.2.2.1)
def DG (x:DI):Bool:=pA x.2.2.1.1 x.2.2.2.1.1 (F3 x)
def Q8 (x:DI):OT lR.Y:=.br ((bo x.2.2.1.1 x.2.2.2.1.1 (F3 x)).1==0)
 (.ok ⟨sV,((),((bo x.2.2.1.1 x.2.2.2.1.1 (F3 x)).2.1,()),(x.2.2.1.1,(),(),()),(x.2.2.2.1.1,(bo x.2.2.1.1 x.2.2.2.1.1 (F3 x)).2.2.1,()),((bo x.2.2.1.1 x.2.2.2.1.1 (F3 x)).2.2.2.1,()),(bo x.2.2.1.1 x.2.2.2.1.1 (F3 x)).2.2.2.2,())⟩)
 (.ok ⟨kJ,(((bo x.2.2.1.1 x.2.2.2.1.1 (F3 x)).1,()),((bo x.2.2.1.1 x.2.2.2.1.1 (F3 x)).2.1,()),(x.2.2.1.1,(),(),()),(x.2.2.2.1.1,(bo x.2.2.1.1 x.2.2.2.1.1 (F3 x)).2.2.1,()),((bo x.2.2.1.1 x.2.2.2.1.1 (F3 x)).2.2.2.1,()),(bo x.2.2.1.1 x.2.2.2.1.1 (F3 x)).2.2.2.2,())⟩)
theorem aqP:aa aj 93 (lR.az DG Q8):=ab2 DH Bn aqQ _ _ λx oy hp ho=>by
 rw [<-ho]
 obtain ⟨⟨⟨⟩,⟨⟩,⟨⟩,⟨⟩⟩,⟨⟨o,⟨⟩⟩,⟨c,⟨⟩,⟨⟩,⟨⟩⟩,⟨s,tp,⟨⟩⟩,⟨co,⟨⟩⟩,out,⟨⟩⟩⟩:=x
 have hp':pA c s (o,tp,co,out)=true:=hp
 unfold pA at hp'
 simp only [aw] at hp'
 obtain ⟨hL,h1,h2,h3,h4,h5,h6,h7⟩:=hp'
 obtain ⟨l1,l2,l3,l4,l5,l6,l7⟩:=bn hL
 have hF:∀ (e:Int) (o':wG) (tp' co':aB) (out':aH),bo c s (o,tp,co,out)=(e,o',tp',co',out')->
  (Q8 (((),(),(),()),(o,()),(c,(),(),()),(s,tp,()),(co,()),out,())).run=(OT.br (e==0) (.ok ⟨sV,((),(o',()),(c,(),(),()),(s,tp',()),(co',()),out',())⟩) (.ok ⟨kJ,((e,()),(o',()),(c,(),(),()),(s,tp',()),(co',()),out',())⟩):OT lR.Y).run:=λe o' tp' co' out' h=>by
  show (OT.br ((bo c s (o,tp,co,out)).1==0) (.ok ⟨sV,((),((bo c s (o,tp,co,out)).2.1,()),(c,(),(),()),(s,(bo c s (o,tp,co,out)).2.2.1,()),((bo c s (o,tp,co,out)).2.2.2.1,()),(bo c s (o,tp,co,out)).2.2.2.2,())⟩)
   (.ok ⟨kJ,(((bo c s (o,tp,co,out)).1,()),((bo c s (o,tp,co,out)).2.1,()),(c,(),(),()),(s,(bo c s (o,tp,co,out)).2.2.1,()),((bo c s (o,tp,co,out)).2.2.2.1,()),(bo c s (o,tp,co,out)).2.2.2.2,())⟩):OT lR.Y).run=_
  rw [h]
 unfold bo at hF
 dsimp only at hF l1 l2 l3 l4 l5 l6 l7 h1 h2 h3 h4 h5 h6 h7
 have q1:=fN co
 have q2:=fN (ao co).2.2
 show (GL DH Bn o c s tp co out).run=_
 unfold GL
 dsimp only
 have e10:Int.tdiv ((o.2.2.2.1.length:Nat):Int) 2=((o.2.2.2.1.length/2:Nat):Int):=rfl
 rw [e10]
 have hh:o.2.2.2.1.length=2*(o.2.2.2.1.length/2):=by omega
 refine (ae (by simp only [aA,aI,aJ];exact ag l6)).trans ?_
 cases e1:(ao co).2.1==0
 ·rw [e1] at hF
  refine (OT.au rfl).trans (Eq.trans ?_ (hF _ _ _ _ _ rfl).symm)
  exact (OT.au e1).symm
 rw [e1] at hF
 refine (OT.ak rfl).trans ((ae (by simp only [aA,aI,aJ];exact ag (cT q1 l6))).trans ?_)
 cases e2:(ao (ao co).2.2).2.1==0
 ·rw [e2] at hF
  refine (OT.au rfl).trans (Eq.trans ?_ (hF _ _ _ _ _ rfl).symm)
  exact (OT.au e2).symm
 rw [e2] at hF
 refine (OT.ak rfl).trans ((ae ?_).trans ?_)
 ·simp only [aA,aI,aJ,aw,Bool.true_and]
  have hs1:ac o.2.1=true:=by rw [eq_of_beq h3];exact h1
  have ss:∀ (a b:aB) (g:List Pt) (r:ab),a.length<=b.length->a.length<=g.length->a.length<=64->cv o.1.1 (AL o a b g r)=true->sU (((),a,b,g,r,()),(o,()),())=true:=λa b g r k1 k2 k3 k4=>
   be (ag ⟨k1,k2,by show a.length<=1000;omega⟩) (be hs1 (be h2 k4))
  have tt:∀ (P:Pt) (w:aH),w.length<=140737488350000->onB c P=true->jT (((),P,()),(c,(),(),()),(s,tp,()),w,())=true:=λP w k1 k2=>be (ag k1) k2
  have n1:(jJ c (avq o (ao co).1)).length=32:=tQ h6
  refine ⟨aS (by omega),cF (by omega),cF (by omega),cF (by omega),ss _ _ _ _ ?_ ?_ ?_ h4,tt _ _ (by omega) h6,
   cF (by omega),cF (by omega),cF (by omega),ss _ _ _ _ ?_ ?_ ?_ h5,tt _ _ ?_ h7,be h1 (ag l5)⟩
  all_goals simp only [cB,List.drop_zero,cq,bQ,bK]
  all_goals first|omega|(rw [show (jJ c (P6 o (List.drop (o.2.2.2.1.length/2) o.2.2.2.1) (List.take (o.2.2.2.1.length/2) o.2.2.2.2.1) (List.take (o.2.2.2.1.length/2) o.2.2.2.2.2.1) (ao co).1)).length=32 from n1];omega)
 cases e3:(ao tp).2.1==0
 ·rw [e3] at hF
  refine (OT.au rfl).trans (Eq.trans ?_ (hF _ _ _ _ _ rfl).symm)
  exact (OT.au e3).symm
 rw [e3] at hF
 refine (OT.ak rfl).trans ?_
 cases e4:bB (dr (pS s) (ao tp).1 ⟨0,0,0,0⟩)
 ·rw [e4] at hF
  refine (OT.au rfl).trans (Eq.trans ((ae ?_).trans ?_) (hF _ _ _ _ _ rfl).symm)
  ·simp only [aA,aI,aJ,aw,Bool.true_and]
   have hs1:ac o.2.1=true:=by rw [eq_of_beq h3];exact h1
   have fo:∀ (a:aB) (k:ab),a.length<=64->tc (((),a,k,()),(o,()),())=true:=λa k hk=>be (ag (by show a.length<=1000;omega)) hs1
   refine ⟨?_,fo _ _ l3,fo _ _ (by omega),⟨⟨⟨ag (by omega),ag (Int.le_refl _)⟩,ag (by omega)⟩,ag (by omega)⟩,ag ?_,rfl,rfl,hs1,rfl,rfl,hs1,hs1,hs1⟩
   ·have:=as7 h1 e4
    rw [<-eq_of_beq h3] at this⊢
    exact this
   ·simp only [cB,fW]
    exact ⟨by rw [l2],by rw [l2],trivial,by omega,rfl,by rw [l2]⟩
  ·unfold Bn QG
   dsimp only
   rw [l2]
   rfl
 ·rw [e4] at hF
  refine (OT.ak rfl).trans (Eq.trans ?_ (hF _ _ _ _ _ rfl).symm)
  rfl
def yP:bx:=(lR.az DG Q8)
theorem VR:aa aj 93 yP:=aqP
theorem VQ:ax yP:=av
def ai1:Env:=aq 93 yP Y8
theorem wB:bU aj te ai1:=aU follows Ae VR VQ
def j3:af:=⟨[aD,du,jK],[],true,0,false⟩
abbrev sS:Type:=(Int×ab×fG)×Unit
def abO:Shape:=⟨43,[jH,(7,.own 0),(15,jK),(16,aD),zZ],[(0,fH)],0,true⟩
abbrev cu:Type:=(Int×Unit×aB×jM)×fG
def abN:Shape:=⟨43,[jH,(9,eT),EE,(15,jK),(16,aD),zZ,(25,.own 2),(26,aD),(27,aD)],[iE,(1,fH),(2,fH)],0,true⟩
abbrev bM:Type:=(Int×Unit×Unit×aB×Int×Int×Unit×jM)×ap×aB×fG
def lL:Shape:=⟨43,[jH,(10,.own 0),(15,jK),(16,aD),zZ],[(0,fH)],0,true⟩
abbrev gb:Type:=(Int×Unit×aB×jM)×fG
def abS (a0:Int) (a15:aB) (a16:Int) (a17:Int) (a26:Int) (a27:Int) (c0:ap) (c1:aB) (c2:aB):OT (Sum bM aZ):=
 let z0:Nat:=List.length c2
 let z1:Nat:=Int.toNat a27
 let z2:ab:=List.getD c2 z1 {w0:=0,w1:=0,w2:=0,w3:=0}
 let z3:ab:= {w0:=List.getD c0 0 0,w1:=List.getD c0 1 0,w2:=List.getD c0 2 0,w3:=List.getD c0 3 0}
 (.br (decide (a27<a26))
 (gd [inB a27 z0,decide (z1<z0),decide (4<=List.length c0),dY ((a0,z2,z3,()),()),decide ((List.length c1+2)*32<=140737488355328),inR (a27+(1:Int))] (.ok (.inl ((a0,(),(),a15,a16,a17,(),a26,a27+(1:Int),()),c0,c1++ [z2,aR (pS a0) z2 z3],c2,()))))
 (.ok (.inr ⟨(.exit 2,lL),((a0,(),a15,a16,a17,()),c1,())⟩)))
def p9 (s:bM):OT (Sum bM aZ):=abS s.1.1 s.1.2.2.2.1 s.1.2.2.2.2.1 s.1.2.2.2.2.2.1 s.1.2.2.2.2.2.2.2.1 s.1.2.2.2.2.2.2.2.2.1 s.2.1 s.2.2.1 s.2.2.2.1
def Jt (g2_2:bM->gb) (s:bM):OT aZ:=(.ok ⟨(.exit 2,lL),g2_2 s⟩)
def lM:Shape:=⟨43,[(7,.own 0)],[(0,fH)],0,true⟩
abbrev km:Type:=b8×fG
def abT (ok2:bM->Bool) (g2_2:bM->gb) (a0:Int) (a15:aB) (a16:Int) (a17:Int) (c0:aB):OT (Sum cu aZ):=
 let z0:Int:=(↑(List.length c0):Int)
 let z1:Int:=(2:Int)*z0
 let z2:ab:=List.getD a15 (Int.toNat a17) {w0:=0,w1:=0,w2:=0,w3:=0}
 let z3:bM:=((a0,(),(),a15,a16,a17,(),z0,(0:Int),()),[z2.w0,z2.w1,z2.w2,z2.w3],[],c0,())
 let z4:cu:=g2_2 z3
 let z5:=z4.fst
 let z6:=z5.snd.snd
 let z7:=z6.snd
 (.br (decide (a17<a16))
 (gd [inB a17 (List.length a15),inR z1,true&&decide ((0:Int)<=z1)&&decide (z1*(32:Int)<=(140737488355328:Int))&&decide (z1<=(140737488355328:Int)),ok2 z3,inR (z7.snd.fst+(1:Int))] (.ok (.inl ((z5.fst,(),z6.fst,z7.fst,z7.snd.fst+(1:Int),()),z4.snd.fst,()))))
 (.ok (.inr ⟨(.exit 0,lM),(((),()),c0,())⟩)))
def qa (ok2:bM->Bool) (g2_2:bM->gb) (s:cu):OT (Sum cu aZ):=abT ok2 g2_2 s.1.1 s.1.2.2.1 s.1.2.2.2.1 s.1.2.2.2.2.1 s.2.1
def Ju (g0_0:cu->km) (s:cu):OT aZ:=(.ok ⟨(.exit 0,lM),g0_0 s⟩)
def yF:aL:=⟨[.own 0],[(0,fH)],false⟩
def NK (ok2:bM->Bool) (g2_2:bM->gb) (ok0:cu->Bool) (g0_0:cu->km) (a0:Int) (a1:ab) (a2:aB):OT j3.Y:=
 let z0:cu:=((a0,(),a2,(↑(List.length a2):Int),(0:Int),()),[a1],())
 (gd [ok0 z0] (.ok ⟨yF,(((),()),(g0_0 z0).snd.fst,())⟩))
theorem Q2 (ok2:bM->Bool) (g2_2:bM->gb) (ok0:cu->Bool) (g0_0:cu->km) (h2:bh p9 ok2 (Jt g2_2)) (h0:bh (qa ok2 g2_2) ok0 (Ju g0_0)) (pre:sS->Bool) (F:sS->OT j3.Y) (hF:∀ (x:sS) oy,pre x=true->(F x).run=some oy->(NK ok2 g2_2 ok0 g0_0 x.1.1 x.1.2.1 x.1.2.2.1).run=some oy):aa aj 72 (j3.az pre F):=
 dh wB 72 Tryz.f72 j3 [yF] (kZ wB 0 abO [(0,lM)] none none (qa ok2 g2_2) (kZ wB 2 abN [(2,lL)] none none p9 bE h2 bE) h0 bE) (λx=>NK ok2 g2_2 ok0 g0_0 x.1.1 x.1.2.1 x.1.2.2.1) hF
def ayP (m:Nat) (u:ab) (xs:aB) (i:Nat) (l:aB):aB:=l++ [xs.getD i ⟨0,0,0,0⟩,aR m (xs.getD i ⟨0,0,0,0⟩) u]
def ayQ (m:Nat) (u:ab) (xs:aB):aB:=upto (ayP m u xs) [] xs.length
def wtE (m:Nat) (a:ab) (us:aB):aB:=upto (λk l=>ayQ m (us.getD k ⟨0,0,0,0⟩) l) [a] us.length
theorem ado (m:Nat) (u:ab) (xs:aB):∀ n,(upto (ayP m u xs) [] n).length=2*n
 |0=>rfl
 |n+1=>by
  show (_++ [_,_]).length=_
  rw [bK,ado m u xs n]
  rfl
theorem Te (m:Nat) (a:ab) (us:aB):∀ n,(upto (λk l=>ayQ m (us.getD k ⟨0,0,0,0⟩) l) [a] n).length=2^n
 |0=>rfl
 |n+1=>by
  refine (ado _ _ _ _).trans ?_
  rw [Te m a us n,Nat.pow_succ]
  omega
def elL (c:ap):ab:=⟨c.getD 0 0,c.getD 1 0,c.getD 2 0,c.getD 3 0⟩
def nE (s:bM):Bool:=decide (s.1.2.2.2.2.2.2.2.1=(s.2.2.2.1.length:Int)/\s.1.2.2.2.2.2.2.2.2.1=0/\s.2.1.length=4/\s.2.2.1= []/\s.2.2.2.1.length<=100000)&&ac s.1.1
def pZ (s:bM):gb:=((s.1.1,(),s.1.2.2.2.1,s.1.2.2.2.2.1,s.1.2.2.2.2.2.1,()),ayQ (pS s.1.1) (elL s.2.1) s.2.2.2.1,())
theorem abQ:bh p9 nE (Jt pZ):=by
 rintro ⟨⟨so,⟨⟩,⟨⟩,us,n,k0,⟨⟩,m,i,⟨⟩⟩,⟨c0,c1,c2,⟨⟩⟩⟩ h0
 have h1:(decide (m=(c2.length:Int)/\i=0/\c0.length=4/\c1= []/\c2.length<=100000)&&ac so)=true:=h0
 rw [aw] at h1
 obtain ⟨rfl,rfl,h4,rfl,hm⟩:=bn h1.1
 have hs:=h1.2
 have:=(bf (T:=p9) (λk e=>(((so,(),(),us,n,k0,(),(c2.length:Int),(k:Int),()),c0,e,c2,()):bM)) (ayP (pS so) (elL c0) c2)
  (λe=>(⟨(.exit 2,lL),((so,(),us,n,k0,()),e,())⟩:aZ)) c2.length [] (λk e=>e.length=2*k) rfl (λk e hk hq=>⟨?_,?_⟩) (λe _=> ?_)).1
 ·obtain ⟨m,hm⟩:=this
  exact ⟨m,_,hm,rfl⟩
 ·have hq:e.length=2*k:=hq
  refine (OT.ak (ag (by dsimp only;omega))).trans ((ae ?_).trans rfl)
  simp only [aA,aI,aJ,aw]
  exact ⟨ba (by omega),ag (by show k<c2.length;omega),ag (by omega),hs,ag (by omega),aS (by omega)⟩
 ·show (_++ [_,_]).length=_
  rw [bK,show e.length=2*k from hq]
  show 2*k+2=2*(k+1)
  omega
 ·exact OT.au (bq (by dsimp only;omega))
def Fs (s:cu):Bool:=decide (s.1.2.2.2.1=(s.1.2.2.1.length:Int)/\s.1.2.2.2.2.1=0/\s.1.2.2.1.length<=10/\s.2.1.length=1)&&ac s.1.1
def Js (s:cu):km:=(((),()),upto (λk l=>ayQ (pS s.1.1) (s.1.2.2.1.getD k ⟨0,0,0,0⟩) l) s.2.1 s.1.2.2.1.length,())
theorem abR:bh (qa nE pZ) Fs (Ju Js):=by
 rintro ⟨⟨so,⟨⟩,us,n,i,⟨⟩⟩,⟨c0,⟨⟩⟩⟩ h0
 have h1:(decide (n=(us.length:Int)/\i=0/\us.length<=10/\c0.length=1)&&ac so)=true:=h0
 rw [aw] at h1
 obtain ⟨rfl,rfl,h4,hm⟩:=bn h1.1
 have hs:=h1.2
 obtain ⟨a,rfl⟩:∃ a,c0= [a]:=by
  match c0,hm with
  | [a],_=>exact ⟨a,rfl⟩
 have:=(bf (T:=qa nE pZ) (λk e=>(((so,(),us,(us.length:Int),(k:Int),()),e,()):cu)) (λk l=>ayQ (pS so) (us.getD k ⟨0,0,0,0⟩) l)
  (λe=>(⟨(.exit 0,lM),(((),()),e,())⟩:aZ)) us.length [a] (λk e=>e.length=2^k) rfl (λk e hk hq=>⟨?_,?_⟩) (λe _=> ?_)).1
 ·obtain ⟨m,hm⟩:=this
  exact ⟨m,_,hm,rfl⟩
 ·have hq:e.length=2^k:=hq
  have hb:2^k<=1024:=Nat.pow_le_pow_right (by omega) (show k<=10 by omega)
  refine (OT.ak (ag (by dsimp only;omega))).trans ((ae ?_).trans rfl)
  simp only [aA,aI,aJ,aw,Bool.true_and]
  exact ⟨ba (by omega),aS (by omega),⟨⟨ag (by omega),ag (by omega)⟩,ag (by omega)⟩,be (ag ⟨rfl,rfl,rfl,rfl,by show e.length<=100000;omega⟩) hs,aS (by show-9223372036854775808<=(k:Int)+1/\(k:Int)+1<=9223372036854775807;omega)⟩
 ·refine (ado _ _ _ _).trans ?_
  rw [show e.length=2^k from hq,Nat.pow_succ]
  omega
 ·exact OT.au (bq (by dsimp only;omega))
def sR (x:sS):Bool:=decide (x.1.2.2.1.length<=10)&&ac x.1.1
def NL (x:sS):OT j3.Y:=.ok ⟨yF,(((),()),wtE (pS x.1.1) x.1.2.1 x.1.2.2.1,())⟩
theorem abP:aa aj 72 (j3.az sR NL):=Q2 nE pZ Fs Js abQ abR _ _ λx oy hp ho=>by
 rw [<-ho]
 obtain ⟨⟨so,a,us,⟨⟩⟩,⟨⟩⟩:=x
 have hp':(decide (us.length<=10)&&ac so)=true:=hp
 rw [aw] at hp'
 refine (ae ?_).trans rfl
 simp only [aA,aI,aJ]
 exact be (ag ⟨rfl,rfl,bn hp'.1,rfl⟩) hp'.2
def pY:bx:=(j3.az sR NL)
theorem Mp:aa aj 72 pY:=abP
theorem Mo:ax pY:=av
def O6:Env:=aq 72 pY ai1
theorem FW:bU aj te O6:=aU follows wB Mp Mo
def mE:af:=⟨[aD,ly],[],true,0,false⟩
abbrev Bv:Type:=aii
def DS:aL:=⟨[rA,aD],[],false⟩
def Wi (a0:Int) (a1:ef):OT mE.Y:=
 (gd [om ((a0,a1,()),())] (.ok ⟨DS,(((AF a0 (wC a0 a1)).snd.snd,(0:Int),()),())⟩))
theorem Wh (pre:Bv->Bool) (F:Bv->OT mE.Y) (hF:∀ (x:Bv) oy,pre x=true->(F x).run=some oy->(Wi x.1.1 x.1.2.1).run=some oy):aa aj 30 (mE.az pre F):=
 dh FW 30 Tryz.f30 mE [DS] bE (λx=>Wi x.1.1 x.1.2.1) hF
def mD (x:Bv):Bool:=om x
def Wj (x:Bv):OT mE.Y:=.ok ⟨DS,(((AF x.1.1 (wC x.1.1 x.1.2.1)).2.2,(0:Int),()),())⟩
theorem alV:aa aj 30 (mE.az mD Wj):=Wh _ _ λx oy hp ho=>by
 rw [<-ho]
 obtain ⟨⟨c,l,⟨⟩⟩,⟨⟩⟩:=x
 refine (ae ?_).trans rfl
 rw [aA,show om ((c,l,()),())=true from hp]
 rfl
def td:bx:=(mE.az mD Wj)
theorem Rq:aa aj 30 td:=alV
theorem Rp:ax td:=av
def Y5:Env:=aq 30 td O6
theorem aeh:bU aj te Y5:=aU follows FW Rq Rp
abbrev Nj:af:=fQ
def El (p:mf) (l:aB) (b:ab):Pt:=AF p.1 (wC p.1 (Sj p l b))
def iM (x:pL):Bool:=(cR x.1.1==0)&&(decide (x.1.2.1.length<=x.1.1.2.2.1.length)&&cv x.1.1.1 (Sj x.1.1 x.1.2.1 x.1.2.2.1))
def Nk (x:pL):OT fQ.Y:=.ok ⟨dj,((El x.1.1 x.1.2.1 x.1.2.2.1,(0:Int),()),())⟩
theorem amZ {p:mf} (h:(cR p==0)=true):ac p.1=true:=by
 unfold cR at h
 cases h1:ac p.1
 ·rw [h1] at h;cases h
 ·rfl
theorem aEv {p:mf} {l:List ab} {b:ab} (h:(cR p==0)=true) (hl:l.length<=p.2.2.1.length) (ha:cv p.1 (Sj p l b)=true):ayT p l b=(El p l b,0):=by
 unfold ayT El
 have h3:(Sj p l b).length<=100000:=by
  unfold Sj
  rw [Ou]
  have:=KV h
  omega
 rw [h,bq (by omega),amZ h,ag h3,ha]
 rfl
theorem aa0:aa aj 80 (Nj.az iM Nk):=cJ (S:=fQ) ak4 λx oy hp ho=>by
 obtain ⟨⟨p,l,b,⟨⟩⟩,⟨⟩⟩:=x
 have hp':((cR p==0)&&(decide (l.length<=p.2.2.1.length)&&cv p.1 (Sj p l b)))=true:=hp
 rw [aw,aw] at hp'
 obtain ⟨h1,h2,h3⟩:=hp'
 have:=KV h1
 refine ⟨ag (by show p.2.2.1.length<=140737488355328;omega),?_⟩
 show (OT.ok ⟨dj,(((ayT p l b).1,(ayT p l b).2,()),())⟩:OT fQ.Y).run=some oy
 rw [aEv h1 (bn h2) h3]
 exact ho
def pJ:bx:=(Nj.az iM Nk)
theorem Mk:aa aj 80 pJ:=aa0
theorem Mj:ax pJ:=av
def O3:Env:=aq 80 pJ Y5
theorem kV:bU aj te O3:=aU follows aeh Mk Mj
end
section
namespace Sx
open Go
def aCq (i j:Nat) (st:St):St:=match st.tm.getD i .gu with
 |.ptr c0 e0 0 0=>match eu st.hp c0 e0 with
  |some (.cells vs)=>match vs[j]? with
   |some (.own c e)=>match eu st.hp c e with
    |some (.row t xs)=>cond (Nat.beq c c0) st ⟨st.tm,cO st.hp (aCz c0 e0 vs j c e t xs)⟩
    |_=>st
   |_=>st
  |_=>st
 |_=>st
def aeH:List (Nat×Nat)->St->St
 | [],st=>st
 |p::r,st=>aeH r (aCq p.1 p.2 st)
theorem avJ {i j:Nat} {R:Ctx} {st:St} {a:Act} {w:World} (h:iT R st a w):∃ R1,R.Ext R1/\iT R1 (aCq i j st) a w:=by
 unfold aCq
 split
 ·rename_i c0 e0 _
  split
  ·rename_i vs hc0
   split
   ·rename_i c e hj
    split
    ·rename_i t xs hc
     cases hb:Nat.beq c c0
     ·have hne:c≠c0:=λe'=>by subst e';simp at hb
      rw [<-h.hp] at hc0 hc
      obtain ⟨R1,ha⟩:=MR h.mem (bT hc0) hj (bT hc) hne
      exact ⟨R1,ha.ext,h.TG ha⟩
     ·exact ⟨R,.refl R,h⟩
    ·exact ⟨R,.refl R,h⟩
   ·exact ⟨R,.refl R,h⟩
  ·exact ⟨R,.refl R,h⟩
 ·exact ⟨R,.refl R,h⟩
theorem TH:∀ (l:List (Nat×Nat)) {R:Ctx} {st:St} {a:Act} {w:World},iT R st a w->∃ R1,R.Ext R1/\iT R1 (aeH l st) a w
 | [],R,_,_,_,h=>⟨R,.refl R,h⟩
 |p::r,_,_,_,_,h=>by
  obtain ⟨R1,h1,h2⟩:=avJ (i:=p.1) (j:=p.2) h
  obtain ⟨R2,h3,h4⟩:=TH r h2
  exact ⟨R2,h1.trans h3,h4⟩
theorem akg {P:Program} {R₀:Ctx} {b:Code} {l:St->(SE->St->Prop)->Prop} (t:List (Nat×Nat)) (h:Aj P R₀ b l):Aj P R₀ b λst K=>l (aeH t st) K:=λR st a w K Q hx hst hl hK=>by
 obtain ⟨R1,h1,h2⟩:=TH t hst
 exact h R1 _ a w K Q (hx.trans h1) h2 hl hK
section
variable {P:Program} {te:TE} {Φ:Env}
theorem aIg (g:bU P te Φ) {k:Nat} {c:Code} (t:List (Nat×Nat)) (id:Nat) (sh:Shape) (l:List (Nat×Shape)) (r:Option Shape) (p:Option (TypeId×Shape)) (T:sh.T->OT (Sum sh.T aZ)) {Λi Λ:Lam} {ok:sh.T->Bool} {f:sh.T->OT aZ} (inner:rC P k Λi (Jl c id)) (hf:bh T ok f) (rest:rC P k Λ c)
 (hd:distinct ((blocks c).map (·.1))=true:=by kernel_rfl) (hl:VO c id=true:=by kernel_rfl)
 (hk:(Nat.beq sh.fixed k&&((l.all λp=>Nat.beq p.2.fixed k)&&(r.all λs=>Nat.beq s.fixed k)&&p.all λq=>Nat.beq q.2.fixed k))=true:=by kernel_rfl)
 (hT:∀ s Q,wps te Φ Λi 1000 (Jl c id) (sh.inj s) (PW sh (avy l r p) Q)=(T s).wpR Q:=by intro s Q;kernel_rfl):rC P k (Q0 id (λst K=>aqB sh id ok f (aeH t st) K) Λ) c:=
 λR hR=>NJ hd hl (akg t (agz g hk inner hT hf hR)) (rest R hR)
end
end Sx
end
section
open Sx Go
set_option maxRecDepth 100000
def sZ:af:=⟨[.val true aAg,eT,fV,jK,du,du],[aiA,kU,uz,(3,jQ)],false,3,true⟩
def jo:aL:=⟨jG,[aiA,kU,uz,(3,jQ)],false⟩
noncomputable abbrev alP:anx:=aHd
def aDI:Nat:=2
theorem aqV:LO aj alP:=apd
abbrev JH:Type:=(kS×Unit×Unit×aB×xe)×kR×jN×fG×dp
def aDJ:Shape:=⟨245,[rz,(2,fV),(3,jK),(6,Cr),nV,nU,Cq,(244,.ptr 7 0 0)],aBk,4,true⟩
def axF:Shape:=⟨244,[rz,(2,fV),(3,jK),(6,Cr),nV,nU,Cq,(13,aD),ED,(15,.own 9),(46,aD),(47,aD)],aBq,8,true⟩
abbrev db:Type:=(Unit×Unit×aB×Unit×Unit×Unit×Unit×Int×ry)×aBe
def vA:Shape:=⟨244,[Cq],aBk,8,true⟩
abbrev yU:Type:=b8×kR×jN×fG×aH×rm×ap×ap×oW
def vB:Shape:=⟨244,[rz,(2,fV),(3,jK),(6,Cr),nV,nU,Cq,(13,aD),ED,(15,.own 9)],aBq,8,true⟩
abbrev qh:Type:=(Unit×Unit×aB×Unit×Unit×Unit×Unit×kR)×aBe
def axM (a3:aB) (a13:Int) (a46:Int) (a47:Int) (c0_0:Int) (c1_0:Int) (c1_1:aB) (c2_0:aB) (c3:aH) (c4_0:kS) (c5:ap) (c6:ap) (c7_0:Int) (c8_0:kS) (c8_1:Int) (c8_2:ab) (c8_5:cH) (c8_6:ab) (c9:aB) (c10:aB) (c11:aB):OT (Sum db aZ):=
 let z0:mU:=ao c2_0
 let z1:=z0.snd
 let z2:=z1.fst
 let z3:Nat:=List.length c9
 let z4:Nat:=Int.toNat a47
 let z5:=z1.snd
 (.br (decide (a47<a46))
 (gd [og (((),()),(c2_0,()),())] (.br (z2==(0:Int))
  (gd [inB a47 z3,decide (z4<z3),inR (a47+(1:Int))] (.ok (.inl (((),(),a3,(),(),(),(),a13,(),(),a46,a47+(1:Int),()),(c0_0,(),(),()),(c1_0,c1_1,()),(z5,()),c3,(c4_0,()),c5,c6,(c7_0,()),(c8_0,c8_1,c8_2,(),(),c8_5,c8_6,()),List.set c9 z4 z0.fst,c10,c11,()))))
  (.ok (.inr ⟨(.pan (.iface 175 (.agg [.int z2])),vA),(((),()),(c0_0,(),(),()),(c1_0,c1_1,()),(z5,()),c3,(c4_0,()),c5,c6,(c7_0,()),())⟩))))
 (.ok (.inr ⟨(.exit 0,vB),(((),(),a3,(),(),(),(),a13,(),(),()),(c0_0,(),(),()),(c1_0,c1_1,()),(c2_0,()),c3,(c4_0,()),c5,c6,(c7_0,()),(c8_0,c8_1,c8_2,(),(),c8_5,c8_6,()),c9,c10,c11,())⟩)))
def GO (s:db):OT (Sum db aZ):=axM s.1.2.2.1 s.1.2.2.2.2.2.2.2.1 s.1.2.2.2.2.2.2.2.2.2.2.1 s.1.2.2.2.2.2.2.2.2.2.2.2.1 s.2.1.1 s.2.2.1.1 s.2.2.1.2.1 s.2.2.2.1.1 s.2.2.2.2.1 s.2.2.2.2.2.1.1 s.2.2.2.2.2.2.1 s.2.2.2.2.2.2.2.1 s.2.2.2.2.2.2.2.2.1.1 s.2.2.2.2.2.2.2.2.2.1.1 s.2.2.2.2.2.2.2.2.2.1.2.1 s.2.2.2.2.2.2.2.2.2.1.2.2.1 s.2.2.2.2.2.2.2.2.2.1.2.2.2.2.2.1 s.2.2.2.2.2.2.2.2.2.1.2.2.2.2.2.2.1 s.2.2.2.2.2.2.2.2.2.2.1 s.2.2.2.2.2.2.2.2.2.2.2.1 s.2.2.2.2.2.2.2.2.2.2.2.2.1
def agJ (g0_p:db->yU) (v0:db->Int) (c0_p:db->Bool) (g0_0:db->qh) (s:db):OT aZ:=(.br (c0_p s) (.ok ⟨(.pan (.iface 175 (.agg [.int (v0 s)])),vA),g0_p s⟩) (.ok ⟨(.exit 0,vB),g0_0 s⟩))
def axE:Shape:=⟨244,[rz,(2,fV),(3,jK),nV,nU,Cq,ED,(15,.own 9),(17,.ptr 10 0 0),(18,.ptr 11 0 0),(19,.ptr 12 0 0),(117,aD),(118,aD)],[(0,.cells [aD,LI,.own 13]),kU,uz,(3,.gone),(4,uu),Ck,uw,(7,o4),(8,.cells [YF,aD,du,.own 14,.own 15,xh,du]),(9,fH),(10,gq),(11,gq),(12,gq),(13,jQ),(14,fH),(15,fH)],8,true⟩
abbrev gK:Type:=(Unit×Unit×aB×Unit×Unit×Unit×YD)×kR×jN×fG×Unit×rm×ap×ap×eS×ais×aB×ap×ap×ap×aH×aB×fG
def vz:Shape:=⟨244,[rz,(2,fV),(3,jK),nV,nU,Cq,ED,(17,.ptr 9 0 0),(18,.ptr 10 0 0)],[(0,.cells [aD,LI,.own 11]),kU,uz,(3,.gone),(4,uu),Ck,uw,(7,o4),(8,.cells [YF,aD,du,.own 12,.own 13,xh,du]),(9,gq),(10,gq),(11,jQ),(12,fH),(13,fH)],8,true⟩
abbrev qg:Type:=(Unit×Unit×aB×Unit×Unit×LB)×kR×jN×fG×Unit×rm×ap×ap×eS×ais×ap×ap×aH×aB×fG
def axL (a3:aB) (a117:Int) (a118:Int) (c0_0:Int) (c1_0:Int) (c1_1:aB) (c2_0:aB) (c4_0:kS) (c5:ap) (c6:ap) (c7_0:Int) (c8_0:kS) (c8_1:Int) (c8_2:ab) (c8_5:cH) (c8_6:ab) (c9:aB) (c10:ap) (c11:ap) (c12:ap) (c13:aH) (c14:aB) (c15:aB):OT (Sum gK aZ):=
 let z0:Nat:=List.length c9
 let z1:Nat:=Int.toNat a118
 let z2:ab:= {w0:=List.getD c11 0 0,w1:=List.getD c11 1 0,w2:=List.getD c11 2 0,w3:=List.getD c11 3 0}
 let z3:ab:= {w0:=0,w1:=0,w2:=0,w3:=0}
 let z4:ab:=List.getD c9 z1 z3
 let z5:Nat:=List.length c14
 let z6:Nat:=List.length a3
 let z7:Nat:=pS c8_1
 let z8:aB:=List.set c14 z1 (aR z7 z2 z4)
 let z9:Nat:=List.length z8
 let z10:Bool:=inB a118 z9
 let z11:Bool:=decide (z1<z9)
 let z12:ab:=List.getD z8 z1 z3
 let z13:ab:=List.getD a3 z1 z3
 let z14:Nat:=List.length c12
 let z15:Bool:=decide (4<=z14)
 let z16:Bool:=decide ((List.length c15+1)*32<=140737488355328)
 let z17:Bool:=decide (4<=List.length c6)
 let z18:ab:= {w0:=List.getD c12 0 0,w1:=List.getD c12 1 0,w2:=List.getD c12 2 0,w3:=List.getD c12 3 0}
 let z19:ab:= {w0:=List.getD c6 0 0,w1:=List.getD c6 1 0,w2:=List.getD c6 2 0,w3:=List.getD c6 3 0}
 let z20:Bool:=dY ((c8_1,z18,z19,()),())
 let z21:Bool:=decide ((4/1:Nat)+0<=z14)
 let z22:Bool:=inR (a118+(1:Int))
 let z23:ab:=aR z7 z18 z19
 let z24:ap:=List.set (List.set (List.set (List.set c12 0 z23.w0) 1 z23.w1) 2 z23.w2) 3 z23.w3
 let z25:aB:=c15++ [z18]
 (.br (decide (a118<a117))
 (gd [decide (4<=List.length c11),inB a118 z0,decide (z1<z0),dY ((c8_1,z2,z4,()),()),inB a118 z5,decide (z1<z5)] (.br (decide (a118<(↑z6:Int)))
  (gd [z10,z11,inB a118 z6,gQ ((c8_1,z12,z13,()),()),z10,z11,z15,z16,z15,z17,z20,z21,z22] (.ok (.inl (((),(),a3,(),(),(),(),(),(),(),(),a117,a118+(1:Int),()),(c0_0,(),(),()),(c1_0,c1_1,()),(c2_0,()),(),(c4_0,()),c5,c6,(c7_0,()),(c8_0,c8_1,c8_2,(),(),c8_5,c8_6,()),c9,c10,c11,z24,c13,List.set z8 z1 (dr z7 z12 z13),z25,()))))
  (gd [z15,z16,z15,z17,z20,z21,z22] (.ok (.inl (((),(),a3,(),(),(),(),(),(),(),(),a117,a118+(1:Int),()),(c0_0,(),(),()),(c1_0,c1_1,()),(c2_0,()),(),(c4_0,()),c5,c6,(c7_0,()),(c8_0,c8_1,c8_2,(),(),c8_5,c8_6,()),c9,c10,c11,z24,c13,z8,z25,()))))))
 (.ok (.inr ⟨(.exit 2,vz),(((),(),a3,(),(),(),(),(),(),()),(c0_0,(),(),()),(c1_0,c1_1,()),(c2_0,()),(),(c4_0,()),c5,c6,(c7_0,()),(c8_0,c8_1,c8_2,(),(),c8_5,c8_6,()),c10,c11,c13,c14,c15,())⟩)))
def GN (s:gK):OT (Sum gK aZ):=axL s.1.2.2.1 s.1.2.2.2.2.2.2.2.2.2.2.2.1 s.1.2.2.2.2.2.2.2.2.2.2.2.2.1 s.2.1.1 s.2.2.1.1 s.2.2.1.2.1 s.2.2.2.1.1 s.2.2.2.2.2.1.1 s.2.2.2.2.2.2.1 s.2.2.2.2.2.2.2.1 s.2.2.2.2.2.2.2.2.1.1 s.2.2.2.2.2.2.2.2.2.1.1 s.2.2.2.2.2.2.2.2.2.1.2.1 s.2.2.2.2.2.2.2.2.2.1.2.2.1 s.2.2.2.2.2.2.2.2.2.1.2.2.2.2.2.1 s.2.2.2.2.2.2.2.2.2.1.2.2.2.2.2.2.1 s.2.2.2.2.2.2.2.2.2.2.1 s.2.2.2.2.2.2.2.2.2.2.2.1 s.2.2.2.2.2.2.2.2.2.2.2.2.1 s.2.2.2.2.2.2.2.2.2.2.2.2.2.1 s.2.2.2.2.2.2.2.2.2.2.2.2.2.2.1 s.2.2.2.2.2.2.2.2.2.2.2.2.2.2.2.1 s.2.2.2.2.2.2.2.2.2.2.2.2.2.2.2.2.1
def agI (g2_2:gK->qg) (s:gK):OT aZ:=(.ok ⟨(.exit 2,vz),g2_2 s⟩)
def axD:Shape:=⟨244,[rz,(2,fV),Cq,ED],aBn,8,true⟩
abbrev cD:Type:=LB×aBb
def l8:Shape:=⟨244,[Cq],[(0,.cells [aD,LI,.own 8]),kU,uz,(3,.gone),(4,uu),Ck,uw,(7,o4),(8,jQ)],8,true⟩
abbrev yS:Type:=b8×kR×jN×fG×Unit×rm×ap×ap×eS×dp
def ox:Shape:=⟨244,[rz,Cq,ED],aBn,8,true⟩
abbrev yT:Type:=nO×aBb
def axK (c0_0:Int) (c1_0:Int) (c1_1:aB) (c2_0:aB) (c4_0:kS) (c5:ap) (c6:ap) (c7_0:Int) (c8_0:Ge) (c9:aH):OT (Sum cD aZ):=
 let z0:(PUnit×Cf)×(Ge×PUnit)×auq:=(((),(),(),()),(c8_0,()),(c0_0,(),(),()),(c1_0,c1_1,()),(c2_0,()),c9,())
 let z1:Int×Ge×aB×aB×aH:=bo c0_0 c1_0 (F3 z0)
 let z2:=z1.fst
 let z3:=z1.snd
 let z4:=z3.snd
 let z5:=z4.fst
 let z6:=z4.snd
 let z7:=z6.fst
 let z8:=z6.snd
 (.br (decide ((1:Int)<(↑(List.length c8_0.snd.snd.snd.fst):Int)))
 (gd [DG z0] (.br (z2==(0:Int))
  (.ok (.inl (((),(),(),(),()),(c0_0,(),(),()),(c1_0,z5,()),(z7,()),(),(c4_0,()),c5,c6,(c7_0,()),(z3.fst,()),z8,())))
  (.ok (.inr ⟨(.pan (.iface 175 (.agg [.int z2])),l8),(((),()),(c0_0,(),(),()),(c1_0,z5,()),(z7,()),(),(c4_0,()),c5,c6,(c7_0,()),z8,())⟩))))
 (.ok (.inr ⟨(.exit 4,ox),(((),(),(),()),(c0_0,(),(),()),(c1_0,c1_1,()),(c2_0,()),(),(c4_0,()),c5,c6,(c7_0,()),(c8_0,()),c9,())⟩)))
def Br (s:cD):OT (Sum cD aZ):=axK s.2.1.1 s.2.2.1.1 s.2.2.1.2.1 s.2.2.2.1.1 s.2.2.2.2.2.1.1 s.2.2.2.2.2.2.1 s.2.2.2.2.2.2.2.1 s.2.2.2.2.2.2.2.2.1.1 s.2.2.2.2.2.2.2.2.2.1.1 s.2.2.2.2.2.2.2.2.2.2.1
def agH (g4_p:cD->yS) (v4:cD->Int) (c4_p:cD->Bool) (g4_4:cD->yT) (s:cD):OT aZ:=(.br (c4_p s) (.ok ⟨(.pan (.iface 175 (.agg [.int (v4 s)])),l8),g4_p s⟩) (.ok ⟨(.exit 4,ox),g4_4 s⟩))
section
variable (ok0:db->Bool) (g0_p:db->yU) (v0:db->Int) (c0_p:db->Bool) (g0_0:db->qh) (ok2:gK->Bool) (g2_2:gK->qg) (ok4:cD->Bool) (g4_p:cD->yS) (v4:cD->Int) (c4_p:cD->Bool) (g4_4:cD->yT)
def Rf (a0:kS) (a3:aB) (a4:ab) (a5:ab) (c0_0:Int) (c1_0:Int) (c1_1:aB) (c2_0:aB) (c3:aH):OT sZ.Y:=
 let z0:Int:=gA a0 c0_0
 let z1:Int:=(↑(List.length a0.snd.snd.fst):Int)
 let z2:ab:= {w0:=0,w1:=0,w2:=0,w3:=0}
 let z3:aB:=List.replicate (Int.toNat z1) z2
 let z4:db:=(((),(),a3,(),(),(),(),z1,(),(),(↑(List.length z3):Int),(0:Int),()),(c0_0,(),(),()),(c1_0,c1_1,()),(c2_0,()),c3,(a0,()),[a4.w0,a4.w1,a4.w2,a4.w3],[a5.w0,a5.w1,a5.w2,a5.w3],((0:Int),()),(a0,ay a0.fst (1:Int),z2,(),(),a0.snd.snd.fst,z2,()),z3,[],[],())
 let z5:=(g0_p z4).snd
 let z6:=z5.snd
 let z7:=z6.fst
 let z8:=z6.snd
 let z9:PUnit×PUnit:=((),())
 let z10:qh:=g0_0 z4
 let z11:=z10.snd
 let z12:=z11.snd
 let z13:=z12.snd
 let z14:=z13.fst.fst
 let z15:mU:=ao z14
 let z16:=z15.snd
 let z17:=z16.fst
 let z18:=z13.snd
 let z19:=z18.snd
 let z20:=z19.snd
 let z21:=z20.snd
 let z22:=z21.snd
 let z23:=z22.snd
 let z24:=z23.snd
 let z25:=z24.fst
 let z26:Nat:=List.length z25
 let z27:Bool:=inB (0:Int) z26
 let z28:Bool:=decide (0<z26)
 let z29:=z21.fst
 let z30:=z23.fst
 let z31:=z30.snd
 let z32:=z31.fst
 let z33:ab:= {w0:=List.getD z29 0 0,w1:=List.getD z29 1 0,w2:=List.getD z29 2 0,w3:=List.getD z29 3 0}
 let z34:ab:=List.getD z25 0 z2
 let z35:Nat:=pS z32
 let z36:ab:=rH z35 z33 z25
 let z37:=z19.fst.fst
 let z38:aB:=List.set z25 0 (iq z35 z34 z36)
 let z39:=z15.fst
 let z40:cI:=El z37 z38 z39
 let z41:=z11.fst.fst
 let z42:Cf:=((),(),())
 let z43:Int×Cf:=(z41,z42)
 let z44:=z12.fst
 let z45:=z44.fst
 let z46:=z44.snd.fst
 let z47:LF:=(z45,z46,())
 let z48:=z18.fst
 let z49:aH:=z48++jJ z41 z40
 let z50:FK:=(z49,())
 let z51:mU:=ao z46
 let z52:=z51.snd
 let z53:=z52.fst
 let z54:=z52.snd
 let z55:mU:=ao z54
 let z56:=z55.snd
 let z57:=z56.fst
 let z58:Nat:=pS z45
 let z59:ab:=dr z58 z55.fst z2
 let z60:=z56.snd
 let z61:=z16.snd
 let z62:=z10.fst.snd.snd
 let z63:=z62.snd.snd.snd.snd.snd.fst
 let z64:aB:=List.replicate (Int.toNat z63) z2
 let z65:=z31.snd.snd.snd.snd
 let z66:ab:=dr z58 z51.fst z2
 let z67:gK:=(((),(),z62.fst,(),(),(),(),(),(),(),(),(↑(List.length z64):Int),(0:Int),()),(z41,(),(),()),(z45,z60,()),(z61,()),(),(z37,()),z20.fst,z29,(z22.fst.fst,()),(z30.fst,z32,z59,(),(),z65.fst,z65.snd.fst,()),z38,[z39.w0,z39.w1,z39.w2,z39.w3],[z66.w0,z66.w1,z66.w2,z66.w3],[(1:UInt64),(0:UInt64),(0:UInt64),(0:UInt64)],z49,z64,z24.snd.snd.fst,())
 let z68:qg:=g2_2 z67
 let z69:=z68.snd
 let z70:=z69.snd
 let z71:=z70.snd
 let z72:=z71.snd.snd
 let z73:=z72.snd
 let z74:=z73.snd
 let z75:=z74.snd
 let z76:=z75.snd
 let z77:=z76.snd
 let z78:=z77.snd
 let z79:=z78.snd
 let z80:=z79.snd
 let z81:=z80.fst
 let z82:Nat:=List.length z81
 let z83:Bool:=inB (0:Int) z82
 let z84:Bool:=decide (0<z82)
 let z85:=z74.fst
 let z86:=z76.fst
 let z87:=z86.snd
 let z88:=z87.fst
 let z89:=z68.fst.snd.snd.fst
 let z90:ab:= {w0:=List.getD z85 0 0,w1:=List.getD z85 1 0,w2:=List.getD z85 2 0,w3:=List.getD z85 3 0}
 let z91:ab:=List.getD z81 0 z2
 let z92:Nat:=pS z88
 let z93:ab:=rH z92 z90 z89
 let z94:=z73.fst
 let z95:=z78.fst
 let z96:=z77.fst
 let z97:ab:= {w0:=List.getD z95 0 0,w1:=List.getD z95 1 0,w2:=List.getD z95 2 0,w3:=List.getD z95 3 0}
 let z98:ab:= {w0:=List.getD z96 0 0,w1:=List.getD z96 1 0,w2:=List.getD z96 2 0,w3:=List.getD z96 3 0}
 let z99:ab:= {w0:=List.getD z94 0 0,w1:=List.getD z94 1 0,w2:=List.getD z94 2 0,w3:=List.getD z94 3 0}
 let z100:ab:=aR z92 z97 z98
 let z101:=z70.fst
 let z102:=z87.snd
 let z103:cD:=(((),(),(),(),()),(z69.fst.fst,(),(),()),(z101.fst,z101.snd.fst,()),(z71.fst.fst,()),(),(z72.fst.fst,()),z94,z85,(z75.fst.fst,()),((z86.fst,z88,z102.fst,List.set z81 0 (iq z92 z91 z93),z80.snd.fst,z102.snd.snd.snd.fst,dr z92 z99 z100),()),z79.fst,())
 let z104:=(g4_p z103).snd
 let z105:=z104.snd
 let z106:=z105.fst
 let z107:=z105.snd
 let z108:=(g4_4 z103).snd
 let z109:=z108.snd
 let z110:=z109.snd
 let z111:=z110.snd.snd.snd.snd.snd.snd
 let z112:=z111.fst.fst.snd.snd.snd
 let z113:=z112.fst
 let z114:ab:=List.getD z113 0 z2
 let z115:=z108.fst.fst
 let z116:Int×Cf:=(z115,z42)
 let z117:=z109.fst
 let z118:=z117.fst
 let z119:=z117.snd.fst
 let z120:LF:=(z118,z119,())
 let z121:=z111.snd.fst
 let z122:=z112.snd.snd.snd
 let z123:aH:=z121++lC z115 z114
 (gd [vy ((a0,c0_0,()),())] (.br (z0==(0:Int))
 (.br (decide ((↑(List.length a3):Int)<=z1))
  (gd [decide ((0:Int)<=z1)&&decide (z1<=z1)&&decide (z1*(32:Int)<=(140737488355328:Int))&&decide (z1<=(140737488355328:Int)),ok0 z4] (.br (c0_p z4)
   (.ok ⟨jo,((v0 z4,()),(z5.fst.fst,(),(),()),(z7.fst,z7.snd.fst,()),(z8.fst.fst,()),z8.snd.fst,())⟩)
   (gd [og (z9,(z14,()),())] (.br (z17==(0:Int))
    (gd [z27,z28,decide (4<=List.length z29),sD ((z32,z25,z33,()),()),BB ((z32,z34,z36,()),()),z27,z28,iM ((z37,z38,z39,()),()),jT (((),z40,()),z43,z47,z48,()),rW (z9,z43,z47,z50)] (.br (z53==(0:Int))
     (gd [rW (z9,z43,(z45,z54,()),z50)] (.br (z57==(0:Int))
      (.br (bB z59)
       (.ok ⟨jo,(((100:Int),()),(z41,(),(),()),(z45,z60,()),(z61,()),z49,())⟩)
       (gd [decide ((0:Int)<=z63)&&decide (z63<=z63)&&decide (z63*(32:Int)<=(140737488355328:Int))&&decide (z63<=(140737488355328:Int)),ok2 z67,z83,z84,decide (4<=List.length z85),sD ((z88,z89,z90,()),()),BB ((z88,z91,z93,()),()),z83,z84,decide (4<=List.length z94),decide (4<=List.length z95),decide (4<=List.length z96),dY ((z88,z97,z98,()),()),gQ ((z88,z99,z100,()),()),ok4 z103] (.br (c4_p z103)
        (.ok ⟨jo,((v4 z103,()),(z104.fst.fst,(),(),()),(z106.fst,z106.snd.fst,()),(z107.fst.fst,()),z107.snd.snd.snd.snd.snd.snd.fst,())⟩)
        (gd [inB (0:Int) (List.length z113),pd (((),z114,()),z116,z120,z121,()),pd (((),z122,()),z116,z120,z123,())] (.ok ⟨jo,(((0:Int),()),(z115,(),(),()),(z118,z119,()),(z110.fst.fst,()),z123++lC z115 z122,())⟩)))))
      (.ok ⟨jo,((z57,()),(z41,(),(),()),(z45,z60,()),(z61,()),z49,())⟩)))
     (.ok ⟨jo,((z53,()),(z41,(),(),()),(z45,z54,()),(z61,()),z49,())⟩)))
    (.ok ⟨jo,((z17,()),(z41,(),(),()),(z45,z46,()),(z61,()),z48,())⟩)))))
  (.ok ⟨jo,(((50:Int),()),(c0_0,(),(),()),(c1_0,c1_1,()),(c2_0,()),c3,())⟩))
 (.ok ⟨jo,((z0,()),(c0_0,(),(),()),(c1_0,c1_1,()),(c2_0,()),c3,())⟩)))
theorem alQ (h0:bh GO ok0 (agJ g0_p v0 c0_p g0_0)) (h2:bh GN ok2 (agI g2_2)) (h4:bh Br ok4 (agH g4_p v4 c4_p g4_4)) (pre:JH->Bool) (F:JH->OT sZ.Y) (hF:∀ (x:JH) oy,pre x=true->(F x).run=some oy->(Rf ok0 g0_p v0 c0_p g0_0 ok2 g2_2 ok4 g4_p v4 c4_p g4_4 x.1.1 x.1.2.2.2.1 x.1.2.2.2.2.1 x.1.2.2.2.2.2.1 x.2.1.1 x.2.2.1.1 x.2.2.1.2.1 x.2.2.2.1.1 x.2.2.2.2.1).run=some oy):aa aj 35 (sZ.az pre F):=
 aH7 kV aqV aDI aDJ 35 Tryz.f35 sZ [jo] (aIg kV [(14,26),(14,27)] 4 axD [(4,ox)] none (some (175,l8)) Br bE h4 (kZ kV 2 axE [(2,vz)] none none GN bE h2 (kZ kV 0 axF [(0,vB)] none (some (175,vA)) GO bE h0 bE))) (λx=>Rf ok0 g0_p v0 c0_p g0_0 ok2 g2_2 ok4 g4_p v4 c4_p g4_4 x.1.1 x.1.2.2.2.1 x.1.2.2.2.2.1 x.1.2.2.2.2.2.1 x.2.1.1 x.2.2.1.1 x.2.2.1.2.1 x.2.2.2.1.1 x.2.2.2.2.1) hF
end
theorem aC0 {α:Type} (e:List α) (i:Nat) (v:α) (h:i<e.length):(e.set i v).take (i+1)=e.take i++ [v]:=by
 refine List.ext_getElem? λj=> ?_
 grind
def JE:db->Bool|((_,_,cs,_,_,_,_,a13,_,_,lim,i,_),x0,x1,(co,_),x3,x4,x5,x6,x7,(y0,y1,y2,_,_,y5,y6,_),e,x10,x11,_)=>decide (lim=(e.length:Int)/\i=0/\e.length<=1000/\co.length<=140737488355328)
def JG:db->yU|((_,_,cs,_,_,_,_,a13,_,_,lim,i,_),x0,x1,(co,_),x3,x4,x5,x6,x7,(y0,y1,y2,_,_,y5,y6,_),e,x10,x11,_)=>(((),()),x0,x1,([],()),x3,x4,x5,x6,x7,())
def Rc:db->qh|((_,_,cs,_,_,_,_,a13,_,_,lim,i,_),x0,x1,(co,_),x3,x4,x5,x6,x7,(y0,y1,y2,_,_,y5,y6,_),e,x10,x11,_)=>(((),(),cs,(),(),(),(),a13,(),(),()),x0,x1,(co.drop e.length,()),x3,x4,x5,x6,x7,(y0,y1,y2,(),(),y5,y6,()),co.take e.length,x10,x11,())
def Re:db->Bool|((_,_,cs,_,_,_,_,a13,_,_,lim,i,_),x0,x1,(co,_),x3,x4,x5,x6,x7,(y0,y1,y2,_,_,y5,y6,_),e,x10,x11,_)=> !decide (e.length<=co.length)
theorem axJ:bh GO JE (agJ JG (λ_=>81) Re Rc):=by
 rintro ⟨⟨⟨⟩,⟨⟩,cs,⟨⟩,⟨⟩,⟨⟩,⟨⟩,a13,⟨⟩,⟨⟩,lim,i,⟨⟩⟩,⟨x0,x1,⟨co,⟨⟩⟩,x3,x4,x5,x6,x7,⟨y0,y1,y2,⟨⟩,⟨⟩,y5,y6,⟨⟩⟩,e,x10,x11,⟨⟩⟩⟩ h
 obtain ⟨rfl,rfl,hn,hc⟩:=bn (show decide (lim=(e.length:Int)/\i=0/\e.length<=1000/\co.length<=140737488355328)=true from h)
 have key:∀ (k i:Nat) (e co:aB),i+k=e.length->e.length<=1000->co.length<=140737488355328->
  ∃ m,cU GO m (((),(),cs,(),(),(),(),a13,(),(),(e.length:Int),(i:Int),()),x0,x1,(co,()),x3,x4,x5,x6,x7,(y0,y1,y2,(),(),y5,y6,()),e,x10,x11,())=
   some (cond (decide (k<=co.length)) ⟨(.exit 0,vB),(((),(),cs,(),(),(),(),a13,(),(),()),x0,x1,(co.drop k,()),x3,x4,x5,x6,x7,(y0,y1,y2,(),(),y5,y6,()),e.take i++co.take k,x10,x11,())⟩
    ⟨(.pan (.iface 175 (.agg [.int 81])),vA),(((),()),x0,x1,([],()),x3,x4,x5,x6,x7,())⟩):=by
  intro k
  induction k with
  |zero=>
   intro i e co hi hn hc
   refine ⟨1,aV ?_⟩
   rw [List.take_of_length_le (show e.length<=i by omega),List.take_zero,List.append_nil]
   exact OT.au (bq (by dsimp only;omega))
  |succ k ih=>
   intro i e co hi hn hc
   cases co with
   |nil=>
    refine ⟨1,aV ?_⟩
    refine (OT.ak (ag (by dsimp only;omega))).trans ((ae ?_).trans (OT.au rfl))
    rfl
   |cons v r=>
    obtain ⟨m,hm⟩:=ih (i+1) (e.set i v) r (by rw [cy];omega) (by rw [cy];exact hn) (cT (Nat.le_succ _) hc)
    rw [cy,aC0 e i v (by omega),List.append_assoc] at hm
    refine ⟨m+1,bL ?_ (hm.trans ?_)⟩
    ·refine (OT.ak (ag (by dsimp only;omega))).trans ((ae ?_).trans ((OT.ak rfl).trans ((ae ?_).trans rfl)))
     ·simp only [aA,aI,aJ]
      exact ag hc
     ·simp only [aA,aI,aJ,aw]
      exact ⟨ba (by omega),ag (by rw [cB];omega),aS (by omega)⟩
    ·rw [show decide (k+1<=(v::r).length)=decide (k<=r.length) from decide_eq_decide.2 Nat.succ_le_succ_iff]
     rfl
 obtain ⟨m,hm⟩:=key e.length 0 e co (Nat.zero_add _) hn hc
 refine ⟨m,_,hm,?_⟩
 show (OT.br (!decide (e.length<=co.length)) _ _).run=_
 cases decide (e.length<=co.length)<;>rfl
abbrev OpT:Type:=aB×aB×ab
def aw9 (m:Nat) (xi x:ab) (cs S:aB) (k:Nat) (q:OpT):OpT:=
 (q.1.set k (cond (decide (k<cs.length)) (dr m (aR m xi (S.getD k ⟨0,0,0,0⟩)) (cs.getD k ⟨0,0,0,0⟩)) (aR m xi (S.getD k ⟨0,0,0,0⟩))),q.2.1++ [q.2.2],aR m q.2.2 x)
theorem vf (m:Nat) (xi x:ab) (cs S:aB) (q:OpT):∀ n,(upto (aw9 m xi x cs S) q n).1.length=q.1.length/\(upto (aw9 m xi x cs S) q n).2.1.length=n+q.2.1.length
 |0=>⟨rfl,(Nat.zero_add _).symm⟩
 |n+1=>by
  obtain ⟨h1,h2⟩:=vf m xi x cs S q n
  refine ⟨?_,?_⟩
  ·show (List.set _ _ _).length=_
   rw [cy,h1]
  ·show (_++ [_]).length=_
   rw [bK,h2,List.length_singleton]
   omega
def gX (l:ap):ab:=⟨l.getD 0 0,l.getD 1 0,l.getD 2 0,l.getD 3 0⟩
def JD:gK->Bool|((_,_,cs,_,_,_,_,_,_,_,_,lim,i,_),x0,x1,x2,_,x4,x5,c6,x7,(y0,so,z,_,_,y5,y6,_),S,rho,xi,pw,x13,a,b,_)=>decide (lim=(S.length:Int)/\i=0/\S.length<=1000/\a.length=S.length/\b= []/\c6.length=4/\pw=eL ⟨1,0,0,0⟩/\xi.length=4)&&ac so
def Vj (m:Nat) (xi x:ab) (cs S a:aB):OpT:=upto (aw9 m xi x cs S) (a,[],⟨1,0,0,0⟩) S.length
def Rb:gK->qg|((_,_,cs,_,_,_,_,_,_,_,_,lim,i,_),x0,x1,x2,_,x4,x5,c6,x7,(y0,so,z,_,_,y5,y6,_),S,rho,xi,pw,x13,a,b,_)=>(((),(),cs,(),(),(),(),(),(),()),x0,x1,x2,(),x4,x5,c6,x7,(y0,so,z,(),(),y5,y6,()),rho,xi,x13,(Vj (pS so) (gX xi) (gX c6) cs S a).1,(Vj (pS so) (gX xi) (gX c6) cs S a).2.1,())
theorem axI:bh GN JD (agI Rb):=by
 rintro ⟨⟨⟨⟩,⟨⟩,cs,⟨⟩,⟨⟩,⟨⟩,⟨⟩,⟨⟩,⟨⟩,⟨⟩,⟨⟩,lim,i,⟨⟩⟩,⟨x0,x1,x2,⟨⟩,x4,x5,c6,x7,⟨y0,so,z,⟨⟩,⟨⟩,y5,y6,⟨⟩⟩,S,rho,xi,pw,x13,a,b,⟨⟩⟩⟩ h
 have h':(decide (lim=(S.length:Int)/\i=0/\S.length<=1000/\a.length=S.length/\b= []/\c6.length=4/\pw=eL ⟨1,0,0,0⟩/\xi.length=4)&&ac so)=true:=h
 rw [aw] at h'
 obtain ⟨rfl,rfl,hn,ha,rfl,h6,rfl,hx⟩:=bn h'.1
 have hs:=h'.2
 have:=(bf (T:=GN) (λk q=>((((),(),cs,(),(),(),(),(),(),(),(),(S.length:Int),(k:Int),()),x0,x1,x2,(),x4,x5,c6,x7,(y0,so,z,(),(),y5,y6,()),S,rho,xi,eL q.2.2,x13,q.1,q.2.1,()):gK))
  (aw9 (pS so) (gX xi) (gX c6) cs S)
  (λq=>(⟨(.exit 2,vz),(((),(),cs,(),(),(),(),(),(),()),x0,x1,x2,(),x4,x5,c6,x7,(y0,so,z,(),(),y5,y6,()),rho,xi,x13,q.1,q.2.1,())⟩:aZ)) S.length (a,[],⟨1,0,0,0⟩) (λk q=>q.1.length=S.length/\q.2.1.length=k) ⟨ha,rfl⟩ (λk q hk hq=>⟨?_,?_,?_⟩) (λq _=> ?_)).1
 ·obtain ⟨m,hm⟩:=this
  exact ⟨m,_,hm,rfl⟩
 ·obtain ⟨a,b,pw⟩:=q
  obtain ⟨hq,hb⟩:=hq
  dsimp only at hq hb
  have g1:∀ v:ab,inB (k:Int) (List.set a (Int.toNat k) v).length=true:=λv=>ba (by rw [cy];omega)
  have g2:∀ v:ab,decide (Int.toNat k<(List.set a (Int.toNat k) v).length)=true:=λv=>ag (by rw [cy,cB];omega)
  refine (OT.ak (ag (by dsimp only;omega))).trans ((ae ?_).trans ?_)
  ·simp only [aA,aI,aJ,aw]
   exact ⟨ag (by omega),ba (by omega),ag (by rw [cB];omega),hs,ba (by omega),ag (by rw [cB];omega)⟩
  by_cases hc:k<cs.length
  ·refine (OT.ak (ag (by dsimp only;omega))).trans ((ae ?_).trans ?_)
   ·simp only [aA,aI,aJ,aw]
    exact ⟨g1 _,g2 _,ba (by omega),hs,g1 _,g2 _,rfl,ag (by rw [hb];omega),rfl,ag (by omega),hs,rfl,aS (by omega)⟩
   ·simp only [cB,List.set_set,fP,List.getElem?_set_self (show k<a.length by omega),Option.getD_some]
    unfold aw9
    simp only [ag hc,aK,fP]
    rfl
  ·refine (OT.au (bq (by dsimp only;omega))).trans ((ae ?_).trans ?_)
   ·simp only [aA,aI,aJ,aw]
    exact ⟨rfl,ag (by rw [hb];omega),rfl,ag (by omega),hs,rfl,aS (by omega)⟩
   ·unfold aw9
    simp only [bq hc,aT,cB]
    rfl
 ·show (List.set _ _ _).length=_
  rw [cy]
  exact hq.1
 ·show (_++ [_]).length=_
  rw [bK,hq.2,List.length_singleton]
 ·exact OT.au (bq (by dsimp only;omega))
def aX (c s:Int):Nat->Cu->Int×Cu
 |0,q=>(0,q)
 |n+1,q=>cond (decide (1<q.1.2.2.2.1.length)) (cond ((bo c s q).1==0) (aX c s n (bo c s q).2) (bo c s q)) (0,q)
def eY (c s:Int):Nat->Cu->Bool
 |0,q=> !decide (1<q.1.2.2.2.1.length)
 |n+1,q=>cond (decide (1<q.1.2.2.2.1.length)) (pA c s q&&cond ((bo c s q).1==0) (eY c s n (bo c s q).2) true) true
def JC:cD->Bool|(_,(c,_),(s,tp,_),(co,_),_,x4,x5,x6,x7,(o,_),out,_)=>eY c s o.1.2.1.toNat (o,tp,co,out)
def jn:cD->Int×Cu|(_,(c,_),(s,tp,_),(co,_),_,x4,x5,x6,x7,(o,_),out,_)=>aX c s o.1.2.1.toNat (o,tp,co,out)
def JF (z:cD):yS:=(((),()),z.2.1,(z.2.2.1.1,(jn z).2.2.1,()),((jn z).2.2.2.1,()),(),z.2.2.2.2.2.1,z.2.2.2.2.2.2.1,z.2.2.2.2.2.2.2.1,z.2.2.2.2.2.2.2.2.1,(jn z).2.2.2.2,())
def Ra (z:cD):yT:=(((),(),(),()),z.2.1,(z.2.2.1.1,(jn z).2.2.1,()),((jn z).2.2.2.1,()),(),z.2.2.2.2.2.1,z.2.2.2.2.2.2.1,z.2.2.2.2.2.2.2.1,z.2.2.2.2.2.2.2.2.1,((jn z).2.1,()),(jn z).2.2.2.2,())
def Rd (z:cD):Bool:= !((jn z).1==0)
def Q9 (c s:Int) (p:mf) (c5 c6:ap) (c7:Int) (r:Int×Cu):aZ:=cond (r.1==0)
 ⟨(.exit 4,ox),(((),(),(),()),(c,(),(),()),(s,r.2.2.1,()),(r.2.2.2.1,()),(),(p,()),c5,c6,(c7,()),(r.2.1,()),r.2.2.2.2,())⟩
 ⟨(.pan (.iface 175 (.agg [.int r.1])),l8),(((),()),(c,(),(),()),(s,r.2.2.1,()),(r.2.2.2.1,()),(),(p,()),c5,c6,(c7,()),r.2.2.2.2,())⟩
theorem axH:bh Br JC (agH JF (λz=>(jn z).1) Rd Ra):=by
 rintro ⟨⟨⟨⟩,⟨⟩,⟨⟩,⟨⟩,⟨⟩⟩,⟨⟨c,⟨⟩,⟨⟩,⟨⟩⟩,⟨s,tp,⟨⟩⟩,⟨co,⟨⟩⟩,⟨⟩,⟨p,⟨⟩⟩,c5,c6,⟨c7,⟨⟩⟩,⟨o,⟨⟩⟩,out,⟨⟩⟩⟩ h
 have key:∀ (n:Nat) (q:Cu),eY c s n q=true->
  ∃ m,cU Br m (((),(),(),(),()),(c,(),(),()),(s,q.2.1,()),(q.2.2.1,()),(),(p,()),c5,c6,(c7,()),(q.1,()),q.2.2.2,())=some (Q9 c s p c5 c6 c7 (aX c s n q)):=by
  intro n
  induction n with
  |zero=>
   intro q h
   have h1:(!decide (1<q.1.2.2.2.1.length))=true:=h
   exact ⟨1,aV (OT.au (bq (by have:=of_decide_eq_false (Bool.not_eq_true' _▸h1);dsimp only;omega)))⟩
  |succ n ih=>
   intro q h
   unfold eY at h
   unfold aX
   by_cases h1:1<q.1.2.2.2.1.length
   ·simp only [ag h1,aK,aw] at h⊢
    have e1:(Br (((),(),(),(),()),(c,(),(),()),(s,q.2.1,()),(q.2.2.1,()),(),(p,()),c5,c6,(c7,()),(q.1,()),q.2.2.2,())).run=(OT.br ((bo c s q).1==0)
     (.ok (.inl (((),(),(),(),()),(c,(),(),()),(s,(bo c s q).2.2.1,()),((bo c s q).2.2.2.1,()),(),(p,()),c5,c6,(c7,()),((bo c s q).2.1,()),(bo c s q).2.2.2.2,())))
     (.ok (.inr ⟨(.pan (.iface 175 (.agg [.int (bo c s q).1])),l8),(((),()),(c,(),(),()),(s,(bo c s q).2.2.1,()),((bo c s q).2.2.2.1,()),(),(p,()),c5,c6,(c7,()),(bo c s q).2.2.2.2,())⟩)):OT (Sum cD aZ)).run:=by
     refine (OT.ak (ag (by dsimp only;omega))).trans ((ae ?_).trans rfl)
     simp only [aA,aI,aJ]
     exact h.1
    cases h2:(bo c s q).1==0
    ·rw [aT]
     refine ⟨1,aV (e1.trans ((OT.au h2).trans ?_))⟩
     unfold Q9
     rw [h2]
     rfl
    ·rw [h2,aK] at h
     rw [aK]
     obtain ⟨m,hm⟩:=ih _ h.2
     exact ⟨m+1,bL (e1.trans (OT.ak h2)) hm⟩
   ·simp only [bq h1,aT]
    exact ⟨1,aV (OT.au (bq (by dsimp only;omega)))⟩
 obtain ⟨m,hm⟩:=key _ (o,tp,co,out) h
 refine ⟨m,_,hm,?_⟩
 show (OT.br (!((aX c s o.1.2.1.toNat (o,tp,co,out)).1==0)) (.ok ⟨(.pan (.iface 175 (.agg [.int (aX c s o.1.2.1.toNat (o,tp,co,out)).1])),l8),(((),()),(c,(),(),()),(s,(aX c s o.1.2.1.toNat (o,tp,co,out)).2.2.1,()),((aX c s o.1.2.1.toNat (o,tp,co,out)).2.2.2.1,()),(),(p,()),c5,c6,(c7,()),(aX c s o.1.2.1.toNat (o,tp,co,out)).2.2.2.2,())⟩)
  (.ok ⟨(.exit 4,ox),(((),(),(),()),(c,(),(),()),(s,(aX c s o.1.2.1.toNat (o,tp,co,out)).2.2.1,()),((aX c s o.1.2.1.toNat (o,tp,co,out)).2.2.2.1,()),(),(p,()),c5,c6,(c7,()),((aX c s o.1.2.1.toNat (o,tp,co,out)).2.1,()),(aX c s o.1.2.1.toNat (o,tp,co,out)).2.2.2.2,())⟩):OT aZ).run=_
 generalize aX c s o.1.2.1.toNat (o,tp,co,out)=r
 unfold Q9
 cases h2:r.1==0<;>rfl
theorem pD {p:mf} {c:Int} (h:(gA p c==0)=true):cR p=0/\c=p.1/\ac p.1=true/\ac (ay p.1 1)=true/\1<=p.2.2.1.length/\p.2.2.1.length<=32/\0<=p.2.1/\p.2.1<=5/\p.2.2.1.length=2^p.2.1.toNat:=by
 unfold gA at h
 cases h1:cR p==0
 ·rw [h1] at h
  rw [aT] at h
  rw [h] at h1;cases h1
 ·rw [h1] at h
  cases h2:c==p.1
  ·rw [h2] at h;cases h
  ·have e:=eq_of_beq h1
   refine ⟨e,eq_of_beq h2,?_⟩
   unfold cR at e
   cases h3:ac p.1
   ·rw [h3] at e;cases e
   ·rw [h3,aK] at e
    refine ⟨rfl,by rcases cb h3 with h|h|h|h<;>rw [h]<;>rfl,?_⟩
    cases h4:decide (p.2.1<0)
    ·rw [h4,aT] at e
     cases h5:decide (5<p.2.1)
     ·rw [h5,aT] at e
      cases h6:(p.2.2.1.length:Int)==VM 1 p.2.1
      ·rw [h6] at e;cases e
      ·have h6:=eq_of_beq h6
       have h4:=of_decide_eq_false h4
       have h5:=of_decide_eq_false h5
       generalize p.2.1=k at*
       have:k=0\/k=1\/k=2\/k=3\/k=4\/k=5:=by omega
       rcases this with rfl|rfl|rfl|rfl|rfl|rfl
       ·have:(p.2.2.1.length:Int)=1:=h6;exact ⟨by omega,by omega,by omega,by omega,by show p.2.2.1.length=1;omega⟩
       ·have:(p.2.2.1.length:Int)=2:=h6;exact ⟨by omega,by omega,by omega,by omega,by show p.2.2.1.length=2;omega⟩
       ·have:(p.2.2.1.length:Int)=4:=h6;exact ⟨by omega,by omega,by omega,by omega,by show p.2.2.1.length=4;omega⟩
       ·have:(p.2.2.1.length:Int)=8:=h6;exact ⟨by omega,by omega,by omega,by omega,by show p.2.2.1.length=8;omega⟩
       ·have:(p.2.2.1.length:Int)=16:=h6;exact ⟨by omega,by omega,by omega,by omega,by show p.2.2.1.length=16;omega⟩
       ·have:(p.2.2.1.length:Int)=32:=h6;exact ⟨by omega,by omega,by omega,by omega,by show p.2.2.1.length=32;omega⟩
     ·rw [h5] at e;cases e
    ·rw [h4] at e;cases e
def opN (p:mf):Nat:=(List.replicate p.2.2.1.length (⟨0,0,0,0⟩:ab)).length
theorem Nt (p:mf):opN p=p.2.2.1.length:=fW
def opS (p:mf) (x:ab) (co:aB):aB:=(co.take (opN p)).set 0 (iq (pS (ay p.1 1)) ((co.take (opN p)).getD 0 ⟨0,0,0,0⟩) (rH (pS (ay p.1 1)) x (co.take (opN p))))
def opR (p:mf) (co:aB):mU:=ao (co.drop (opN p))
def Fc (p:mf) (x:ab) (co:aB):Pt:=El p (opS p x co) (opR p co).1
def opV (s:Int) (tp:aB):ab:=dr (pS s) (ao tp).1 ⟨0,0,0,0⟩
def opU (p:mf) (cs:aB) (x:ab) (s:Int) (tp co:aB):OpT:=Vj (pS (ay p.1 1)) (opV s tp) x cs (opS p x co) (List.replicate p.2.2.1.length ⟨0,0,0,0⟩)
def opO (p:mf) (cs:aB) (bl x:ab) (s:Int) (tp co:aB):wG:=
 (p,ay p.1 1,opV s (ao tp).2.2,(opU p cs x s tp co).1.set 0 (iq (pS (ay p.1 1)) ((opU p cs x s tp co).1.getD 0 ⟨0,0,0,0⟩) (rH (pS (ay p.1 1)) x cs)),(opU p cs x s tp co).2.1,p.2.2.1,dr (pS (ay p.1 1)) bl (aR (pS (ay p.1 1)) (opV s tp) (opR p co).1))
def opQ (p:mf) (cs:aB) (bl x:ab) (c s:Int) (tp co:aB) (out:aH):Cu:=
 (opO p cs bl x s tp co,(ao (ao tp).2.2).2.2,(opR p co).2.2,out++jJ c (Fc p x co))
abbrev auy:Type:=aB×aB×aH
def IJ (c:Int) (r:Int×Cu):Int×auy:=cond (r.1==0) (0,r.2.2.1,r.2.2.2.1,r.2.2.2.2++lC c (r.2.1.2.2.2.1.getD 0 ⟨0,0,0,0⟩)++lC c r.2.1.2.2.2.2.2.2) (r.1,r.2.2)
def wE (p:mf) (cs:aB) (bl x:ab) (c s:Int) (tp co:aB) (out:aH):Int×auy:=
 cond (gA p c==0) (cond (decide (cs.length<=p.2.2.1.length)) (cond (decide (opN p<=co.length)) (cond ((opR p co).2.1==0)
  (cond ((ao tp).2.1==0) (cond ((ao (ao tp).2.2).2.1==0) (cond (bB (opV s (ao tp).2.2))
   (100,(opQ p cs bl x c s tp co out).2)
   (IJ c (aX c s p.2.1.toNat (opQ p cs bl x c s tp co out))))
   ((ao (ao tp).2.2).2.1,(opQ p cs bl x c s tp co out).2))
   ((ao tp).2.1,(ao tp).2.2,(opR p co).2.2,out++jJ c (Fc p x co)))
   ((opR p co).2.1,tp,(opR p co).2.2,out))
   (81,tp,[],out)) (50,tp,co,out)) (gA p c,tp,co,out)
def agc (p:mf) (cs:aB) (c:Int) (co:aB):Bool:=gA p c==0&&(decide (cs.length<=p.2.2.1.length)&&(decide (opN p<=co.length)&&(opR p co).2.1==0))
def Qz (s:Int) (tp:aB):Bool:=(ao tp).2.1==0&&((ao (ao tp).2.2).2.1==0&& !bB (opV s (ao tp).2.2))
def m7 (r:Int×Cu):Bool:= !(r.1==0)||decide (0<r.2.1.2.2.2.1.length/\r.2.2.2.2.length<=140737488340000)
def Vi (p:mf) (cs:aB) (bl x:ab) (c s:Int) (tp co:aB) (out:aH):Bool:=
 decide (p.2.2.1.length<=140737488355328/\tp.length<=140737488355328/\co.length<=140737488355328/\out.length<=140737488340000)&&(ac s&&(cond (agc p cs c co)
  (cv p.1 (Sj p (opS p x co) (opR p co).1)&&(onB c (Fc p x co)&&cond (Qz s tp) (eY c s p.2.1.toNat (opQ p cs bl x c s tp co out)&&m7 (aX c s p.2.1.toNat (opQ p cs bl x c s tp co out))) true)) true))
def sY (x:JH):Bool:=Vi x.1.1 x.1.2.2.2.1 x.1.2.2.2.2.1 x.1.2.2.2.2.2.1 x.2.1.1 x.2.2.1.1 x.2.2.1.2.1 x.2.2.2.1.1 x.2.2.2.2.1
def aqW (x:JH):Int×auy:=wE x.1.1 x.1.2.2.2.1 x.1.2.2.2.2.1 x.1.2.2.2.2.2.1 x.2.1.1 x.2.2.1.1 x.2.2.1.2.1 x.2.2.2.1.1 x.2.2.2.2.1
def opY (c s:Int) (r:Int×auy):sZ.Y:=⟨jo,((r.1,()),(c,(),(),()),(s,r.2.1,()),(r.2.2.1,()),r.2.2.2,())⟩
def aqX (x:JH):OT sZ.Y:=.ok (opY x.2.1.1 x.2.2.1.1 (aqW x))
theorem eU (b:Bool) {P:Prop} (h0:b=false->P) (h1:b=true->P):P:=by
 cases b
 ·exact h0 rfl
 ·exact h1 rfl
set_option maxHeartbeats 4000000 in
theorem aqU (p:mf) (cs:aB) (bl x:ab) (c s:Int) (tp co:aB) (out:aH) (hp':Vi p cs bl x c s tp co out=true):
 (Rf JE JG (λ_=>81) Re Rc JD Rb JC JF (λz=>(jn z).1) Rd Ra p cs bl x c s tp co out).run=some (opY c s (wE p cs bl x c s tp co out)):=by
 unfold Vi at hp'
 simp only [aw] at hp'
 obtain ⟨hL,hs,hN⟩:=hp'
 obtain ⟨l1,l2,l3,l4⟩:=bn hL
 have hF:∀ r,wE p cs bl x c s tp co out=r->some (opY c s (wE p cs bl x c s tp co out))=some (opY c s r):=λr h=>by rw [h]
 generalize some (opY c s (wE p cs bl x c s tp co out))=G at*
 unfold wE at hF
 unfold Rf
 refine (ae (by simp only [aA,aI,aJ];exact ag l1)).trans ?_
 refine eU (gA p c==0) (λe0=> ?_) (λe0=> ?_)
 ·rw [e0] at hF
  exact (OT.au e0).trans (hF _ rfl).symm
 have r:=pD e0
 have r5:=r.2.2.2.2.1
 have r6:=r.2.2.2.2.2.1
 rw [e0] at hF
 refine (OT.ak e0).trans ?_
 refine eU (decide (cs.length<=p.2.2.1.length)) (λe1=> ?_) (λe1=> ?_)
 ·rw [e1] at hF
  exact (OT.au (bq (by have:=of_decide_eq_false e1;omega))).trans (hF _ rfl).symm
 rw [e1] at hF
 refine (OT.ak (ag (by have:=bn e1;omega))).trans ((ae ?_).trans ?_)
 ·simp only [aA,aI,aJ,aw]
  refine ⟨⟨⟨⟨ag (by omega),ag (Int.le_refl _)⟩,ag (by omega)⟩,ag (by omega)⟩,ag ?_⟩
  simp only [fW,cB]
  exact ⟨trivial,trivial,by omega,l3⟩
 refine eU (decide (opN p<=co.length)) (λe2=> ?_) (λe2=> ?_)
 ·rw [e2] at hF
  exact (OT.ak (congrArg (!·) e2)).trans (hF _ rfl).symm
 rw [e2] at hF
 have n1:=Nt p
 have n2:(co.take (opN p)).length=opN p:=by rw [bQ];exact Nat.min_eq_left (bn e2)
 have n3:(co.drop (opN p)).length<=140737488355328:=by rw [cq];omega
 have n4:(opS p x co).length=opN p:=by unfold opS;rw [cy];exact n2
 refine (OT.au (congrArg (!·) e2)).trans ((ae ?_).trans ?_)
 ·simp only [aA,aI,aJ]
  exact ag n3
 refine eU ((opR p co).2.1==0) (λe3=> ?_) (λe3=> ?_)
 ·rw [e3] at hF
  exact (OT.au e3).trans (hF _ rfl).symm
 rw [e3] at hF
 have hN1:cv p.1 (Sj p (opS p x co) (opR p co).1)=true/\onB c (Fc p x co)=true/\cond (Qz s tp) (eY c s p.2.1.toNat (opQ p cs bl x c s tp co out)&&m7 (aX c s p.2.1.toNat (opQ p cs bl x c s tp co out))) true=true:=by
  unfold agc at hN
  rw [e0,e1,e2,e3] at hN
  simpa only [aJ,aK,aw] using hN
 refine (OT.ak e3).trans ((ae ?_).trans ?_)
 ·simp only [aA,aI,aJ,aw]
  refine ⟨ba (show (0:Int)<=0/\(0:Int)<((co.take (opN p)).length:Int) by omega),ag (show 0<(co.take (opN p)).length by omega),rfl,r.2.2.2.1,r.2.2.2.1,ba (show (0:Int)<=0/\(0:Int)<((co.take (opN p)).length:Int) by omega),ag (show 0<(co.take (opN p)).length by omega),?_,?_,?_⟩
  ·exact be (by rw [show (p:mf)=p from rfl];exact beq_iff_eq.2 r.1) (be (ag (show (opS p x co).length<=p.2.2.1.length by omega)) hN1.1)
  ·exact be (ag (show out.length<=140737488350000 by omega)) hN1.2.1
  ·exact be hs (ag l2)
 have m0:=Nt p
 refine eU ((ao tp).2.1==0) (λe4=> ?_) (λe4=> ?_)
 ·rw [e4] at hF
  exact (OT.au e4).trans (hF _ rfl).symm
 rw [e4] at hF
 refine (OT.ak e4).trans ((ae ?_).trans ?_)
 ·simp only [aA,aI,aJ]
  exact be hs (ag (cT (fN tp) l2))
 refine eU ((ao (ao tp).2.2).2.1==0) (λe5=> ?_) (λe5=> ?_)
 ·rw [e5] at hF
  exact (OT.au e5).trans (hF _ rfl).symm
 rw [e5] at hF
 refine (OT.ak e5).trans ?_
 refine eU (bB (opV s (ao tp).2.2)) (λe6=> ?_) (λe6=> ?_)
 rotate_left
 ·rw [e6] at hF
  exact (OT.ak e6).trans (hF _ rfl).symm
 rw [e6] at hF
 have hN2:eY c s p.2.1.toNat (opQ p cs bl x c s tp co out)=true/\m7 (aX c s p.2.1.toNat (opQ p cs bl x c s tp co out))=true:=by
  have h:=hN1.2.2
  unfold Qz at h
  rw [e4,e5,e6] at h
  simpa only [aJ,Bool.not_false,aK,aw] using h
 have u1:(opU p cs x s tp co).1.length=p.2.2.1.length:=(vf _ _ _ _ _ _ _).1.trans fW
 refine (OT.au e6).trans ((ae ?_).trans ?_)
 ·simp only [aA,aI,aJ,aw]
  have b1:inB 0 (opU p cs x s tp co).1.length=true:=ba (by omega)
  have b2:decide (0<(opU p cs x s tp co).1.length)=true:=ag (by omega)
  refine ⟨⟨⟨⟨ag (show (0:Int)<=(p.2.2.1.length:Int) by omega),ag (Int.le_refl _)⟩,ag (show (p.2.2.1.length:Int)*32<=140737488355328 by omega)⟩,ag (show (p.2.2.1.length:Int)<=140737488355328 by omega)⟩,be (ag ?_) r.2.2.2.1,b1,b2,rfl,r.2.2.2.1,r.2.2.2.1,b1,b2,rfl,rfl,rfl,r.2.2.2.1,r.2.2.2.1,hN2.1⟩
  refine ⟨?_,rfl,?_,?_,rfl,rfl,rfl,rfl⟩
  ·show ((List.replicate (Int.toNat (p.2.2.1.length:Int)) (⟨0,0,0,0⟩:ab)).length:Int)=((opS p x co).length:Int)
   rw [n4];rfl
  ·show (opS p x co).length<=1000
   omega
  ·show (List.replicate (Int.toNat (p.2.2.1.length:Int)) (⟨0,0,0,0⟩:ab)).length=(opS p x co).length
   rw [n4];rfl
 have hG:=hF _ rfl
 rw [aK,aK,aK,aK,aK,aK,aT] at hG
 have hE:∀ R:Int×Cu,aX c s p.2.1.toNat (opQ p cs bl x c s tp co out)=R->G=some (opY c s (IJ c R)):=λR h=>by
  rw [<-h];exact hG
 refine eU ((aX c s p.2.1.toNat (opQ p cs bl x c s tp co out)).1==0) (λe7=> ?_) (λe7=> ?_)
 ·refine (OT.ak (congrArg (!·) e7)).trans ?_
  have e8:IJ c (aX c s p.2.1.toNat (opQ p cs bl x c s tp co out))=((aX c s p.2.1.toNat (opQ p cs bl x c s tp co out)).1,(aX c s p.2.1.toNat (opQ p cs bl x c s tp co out)).2.2):=by
   unfold IJ
   rw [e7]
   rfl
  rw [hE _ rfl,e8]
  rfl
 have e8:IJ c (aX c s p.2.1.toNat (opQ p cs bl x c s tp co out))=(0,(aX c s p.2.1.toNat (opQ p cs bl x c s tp co out)).2.2.1,(aX c s p.2.1.toNat (opQ p cs bl x c s tp co out)).2.2.2.1,(aX c s p.2.1.toNat (opQ p cs bl x c s tp co out)).2.2.2.2++lC c ((aX c s p.2.1.toNat (opQ p cs bl x c s tp co out)).2.1.2.2.2.1.getD 0 ⟨0,0,0,0⟩)++lC c (aX c s p.2.1.toNat (opQ p cs bl x c s tp co out)).2.1.2.2.2.2.2.2):=by
  unfold IJ
  rw [e7]
  rfl
 have hK:=hN2.2
 unfold m7 at hK
 rw [e7,Bool.not_true,Bool.false_or] at hK
 have k1:=(bn hK).1
 have k2:=(bn hK).2
 have hc:ac (ay c 1)=true:=by rw [r.2.1];exact r.2.2.2.1
 have n5:(lC c ((aX c s p.2.1.toNat (opQ p cs bl x c s tp co out)).2.1.2.2.2.1.getD 0 ⟨0,0,0,0⟩)).length=32:=j9 _
 refine (OT.au (congrArg (!·) e7)).trans ((ae ?_).trans ?_)
 ·simp only [aA,aI,aJ,aw]
  refine ⟨ba (show (0:Int)<=0/\(0:Int)<((aX c s p.2.1.toNat (opQ p cs bl x c s tp co out)).2.1.2.2.2.1.length:Int) by omega),?_,?_⟩
  ·exact be hc (ag (show (aX c s p.2.1.toNat (opQ p cs bl x c s tp co out)).2.2.2.2.length<=140737488350000 by omega))
  ·refine be hc (ag (show ((aX c s p.2.1.toNat (opQ p cs bl x c s tp co out)).2.2.2.2++lC c ((aX c s p.2.1.toNat (opQ p cs bl x c s tp co out)).2.1.2.2.2.1.getD 0 ⟨0,0,0,0⟩)).length<=140737488350000 from ?_))
   rw [bK,n5]
   omega
 ·rw [hE _ rfl,e8]
  rfl
theorem axG:aa aj 35 (sZ.az sY aqX):=alQ JE JG (λ_=>81) Re Rc JD Rb JC JF (λz=>(jn z).1) Rd Ra axJ axI axH _ _ λx oy hp ho=>(aqU _ _ _ _ _ _ _ _ _ hp).trans ho
def DK:bx:=(Kc 3 (Ke 0 2 (sZ.az sY aqX)))
theorem ab6:aa aj 35 DK:=(Kb (Kd axG))
theorem ab5:ax DK:=(zj (zk av))
def auP:Env:=aq 35 DK O3
theorem uB:bU aj te auP:=aU follows kV ab6 ab5
end
end Go.Proofs.YthnnknnbfhkomaaGreat
