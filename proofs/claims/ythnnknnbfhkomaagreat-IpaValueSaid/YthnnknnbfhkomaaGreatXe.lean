/- A symbolic machine for Go code over plain data, and functions of the program as it shows them. No statement is proved in this file. -/
import Derived.KernelRfl
import Derived.RangeFuncNested
import Derived.RangeFuncBound
import Derived.RangeFuncCalls
import Derived.RangeFuncLeaves
import Derived.OrdersIn
import Derived.TacticsIn
import Derived.Test.YthnnknnbfhkomaaGreatXd
set_option linter.unusedSimpArgs false
set_option linter.unusedVariables false
set_option linter.unusedSectionVars false
namespace Go.Proofs.YthnnknnbfhkomaaGreat
section
open Sx Go
set_option maxRecDepth 100000
def yq:af:=⟨[xr],[],true,0,false⟩
abbrev Vi:Type:=LQ×Unit
def QK:aL:=⟨[.own 0],[(0,.row CG)],false⟩
def ap4 (a0:cJ):OT yq.Y:=
 (gd [decide ((0+List.length a0)*72<=140737488355328)] (.ok ⟨QK,(((),()),[]++a0,())⟩))
theorem alp (pre:Vi->Bool) (F:Vi->OT yq.Y) (hF:∀ (x:Vi) oy,pre x=true->(F x).run=some oy->(ap4 x.1.1).run=some oy):aa aj 47 (yq.az pre F):=
 di Pk 47 Tryz.f47 yq [QK] bD (λx=>ap4 x.1.1) hF
def IQ (x:Vi):Bool:=decide (x.1.1.length*72<=140737488355328)
def ap5 (x:Vi):OT yq.Y:=.ok ⟨QK,(((),()),x.1.1,())⟩
theorem axu:aa aj 47 (yq.az IQ ap5):=alp _ _ λx oy hp ho=>by
 rw [<-ho]
 have hp':x.1.1.length*72<=140737488355328:=bm hp
 refine (ae ?_).trans rfl
 simp only [aA,aI,aJ,aw]
 exact ag (by omega)
def Dv:bt:=(yq.az IQ ap5)
theorem abd:aa aj 47 Dv:=axu
theorem abc:ax Dv:=av
def ava:Env:=aq 47 Dv ajh
theorem Zc:bV aj te ava:=aU follows Pk abd abc
def pP:af:=⟨[Pb],[],false,0,false⟩
abbrev IP:Type:=rB×Unit
def IM:aL:=⟨[YT],[],false⟩
def agl (a0:kW):OT pP.Y:=
 (gd [IQ ((a0.snd.snd.fst,()),())] (.ok ⟨IM,((a0,()),())⟩))
theorem abb (pre:IP->Bool) (F:IP->OT pP.Y) (hF:∀ (x:IP) oy,pre x=true->(F x).run=some oy->(agl x.1.1).run=some oy):aa aj 18 (pP.az pre F):=
 di Zc 18 Tryz.f18 pP [IM] bD (λx=>agl x.1.1) hF
def ic (x:IP):Bool:=decide (x.1.1.2.2.1.length*72<=140737488355328)
def agm (x:IP):OT pP.Y:=.ok ⟨IM,((x.1.1,()),())⟩
theorem ap3:aa aj 18 (pP.az ic agm):=abb _ _ λx oy hp ho=>by
 rw [<-ho]
 clear ho
 obtain ⟨⟨⟨c,k,G,W,U⟩,⟨⟩⟩,⟨⟩⟩:=x
 refine (ae ?_).trans rfl
 simp only [aA,aI,aJ]
 exact hp
def yp:bt:=(pP.az ic agm)
theorem Vh:aa aj 18 yp:=ap3
theorem Vg:ax yp:=av
def ajf:Env:=aq 18 yp ava
theorem wK:bV aj te ajf:=aU follows Zc Vh Vg
def fU:af:=⟨[Pb,jP,dw],[],true,0,false⟩
abbrev pU:Type:=(kW×aB×o3)×Unit
def alq:Shape:=⟨54,[Cu,jV,(9,.own 2),(30,jP),(31,aC),(32,aC)],[YV,(1,YX),Ag],0,true⟩
abbrev dX:Type:=(Unit×Unit×Unit×aB×jR)×aiH
def nA:Shape:=⟨54,[Cu,jV,(9,.own 2)],[YV,(1,YX),Ag],0,true⟩
abbrev pT:Type:=nW×aiH
def alt (a30:aB) (a31:Int) (a32:Int) (c0_0:Int) (c0_1:Int) (c0_2:cJ) (c0_3:UInt64) (c0_4:UInt64) (c0_5:UInt64) (c0_6:UInt64) (c0_7:UInt64) (c0_8:UInt64) (c0_9:UInt64) (c0_10:UInt64) (c0_11:Bool) (c0_12:UInt64) (c0_13:UInt64) (c0_14:UInt64) (c0_15:UInt64) (c0_16:UInt64) (c0_17:UInt64) (c0_18:UInt64) (c0_19:UInt64) (c0_20:Bool) (c1_0:UInt64) (c1_1:UInt64) (c1_2:UInt64) (c1_3:UInt64) (c1_4:UInt64) (c1_5:UInt64) (c1_6:UInt64) (c1_7:UInt64) (c1_8:Bool) (c2:eC):OT (Sum dX aZ):=
 let z0:Nat:=Int.toNat a32
 let z1:ab:= {w0:=0,w1:=0,w2:=0,w3:=0}
 (.br (decide (a32<a31))
 (gd [inB a32 (List.length a30),inB a32 (List.length c0_2),decide ((List.length c2+1)*104<=140737488355328),inR (a32+(1:Int))] (.ok (.inl (((),(),(),a30,a31,a32+(1:Int),()),(c0_0,c0_1,c0_2,c0_3,c0_4,c0_5,c0_6,c0_7,c0_8,c0_9,c0_10,c0_11,c0_12,c0_13,c0_14,c0_15,c0_16,c0_17,c0_18,c0_19,c0_20,()),(c1_0,c1_1,c1_2,c1_3,c1_4,c1_5,c1_6,c1_7,c1_8,()),c2++ [(List.getD a30 z0 z1,List.getD c0_2 z0 (z1,z1,false))],()))))
 (.ok (.inr ⟨(.exit 0,nA),(((),(),(),()),(c0_0,c0_1,c0_2,c0_3,c0_4,c0_5,c0_6,c0_7,c0_8,c0_9,c0_10,c0_11,c0_12,c0_13,c0_14,c0_15,c0_16,c0_17,c0_18,c0_19,c0_20,()),(c1_0,c1_1,c1_2,c1_3,c1_4,c1_5,c1_6,c1_7,c1_8,()),c2,())⟩)))
def vo (s:dX):OT (Sum dX aZ):=alt s.1.2.2.2.1 s.1.2.2.2.2.1 s.1.2.2.2.2.2.1 s.2.1.1 s.2.1.2.1 s.2.1.2.2.1 s.2.1.2.2.2.1 s.2.1.2.2.2.2.1 s.2.1.2.2.2.2.2.1 s.2.1.2.2.2.2.2.2.1 s.2.1.2.2.2.2.2.2.2.1 s.2.1.2.2.2.2.2.2.2.2.1 s.2.1.2.2.2.2.2.2.2.2.2.1 s.2.1.2.2.2.2.2.2.2.2.2.2.1 s.2.1.2.2.2.2.2.2.2.2.2.2.2.1 s.2.1.2.2.2.2.2.2.2.2.2.2.2.2.1 s.2.1.2.2.2.2.2.2.2.2.2.2.2.2.2.1 s.2.1.2.2.2.2.2.2.2.2.2.2.2.2.2.2.1 s.2.1.2.2.2.2.2.2.2.2.2.2.2.2.2.2.2.1 s.2.1.2.2.2.2.2.2.2.2.2.2.2.2.2.2.2.2.1 s.2.1.2.2.2.2.2.2.2.2.2.2.2.2.2.2.2.2.2.1 s.2.1.2.2.2.2.2.2.2.2.2.2.2.2.2.2.2.2.2.2.1 s.2.1.2.2.2.2.2.2.2.2.2.2.2.2.2.2.2.2.2.2.2.1 s.2.1.2.2.2.2.2.2.2.2.2.2.2.2.2.2.2.2.2.2.2.2.1 s.2.2.1.1 s.2.2.1.2.1 s.2.2.1.2.2.1 s.2.2.1.2.2.2.1 s.2.2.1.2.2.2.2.1 s.2.2.1.2.2.2.2.2.1 s.2.2.1.2.2.2.2.2.2.1 s.2.2.1.2.2.2.2.2.2.2.1 s.2.2.1.2.2.2.2.2.2.2.2.1 s.2.2.2.1
def NC (g0_0:dX->pT) (s:dX):OT aZ:=(.ok ⟨(.exit 0,nA),g0_0 s⟩)
def dp:aL:=⟨LY,[],false⟩
section
variable (ok0:dX->Bool) (g0_0:dX->pT)
def IV (a0:kW) (a1:aB) (a2:ab):OT fU.Y:=
 let z0:Int:=cU a0
 let z1:ab:= {w0:=0,w1:=0,w2:=0,w3:=0}
 let z2:cK:=(z1,z1,false)
 let z3:Int:=(↑(List.length a1):Int)
 let z4:dX:=(((),(),(),a1,z3,(0:Int),()),(a0.fst,a0.snd.fst,a0.snd.snd.fst,a0.snd.snd.snd.fst.fst.w0,a0.snd.snd.snd.fst.fst.w1,a0.snd.snd.snd.fst.fst.w2,a0.snd.snd.snd.fst.fst.w3,a0.snd.snd.snd.fst.snd.fst.w0,a0.snd.snd.snd.fst.snd.fst.w1,a0.snd.snd.snd.fst.snd.fst.w2,a0.snd.snd.snd.fst.snd.fst.w3,a0.snd.snd.snd.fst.snd.snd,a0.snd.snd.snd.snd.fst.w0,a0.snd.snd.snd.snd.fst.w1,a0.snd.snd.snd.snd.fst.w2,a0.snd.snd.snd.snd.fst.w3,a0.snd.snd.snd.snd.snd.fst.w0,a0.snd.snd.snd.snd.snd.fst.w1,a0.snd.snd.snd.snd.snd.fst.w2,a0.snd.snd.snd.snd.snd.fst.w3,a0.snd.snd.snd.snd.snd.snd,()),((0:UInt64),(0:UInt64),(0:UInt64),(0:UInt64),(0:UInt64),(0:UInt64),(0:UInt64),(0:UInt64),false,()),[(a2,a0.snd.snd.snd.fst)],())
 let z5:=(g0_0 z4).snd
 let z6:=z5.fst.fst
 let z7:=z5.snd.snd.fst
 (gd [ig ((a0,()),())] (.br (!z0==(0:Int))
 (.ok ⟨dp,((z2,z0,()),())⟩)
 (.br (decide ((↑(List.length a0.snd.snd.fst):Int)<z3))
  (.ok ⟨dp,((z2,(50:Int),()),())⟩)
  (gd [ok0 z4] (.br (ac z6)
   (.br (decide (List.length z7<=100000))
    (.br (cy z6 z7)
     (.ok ⟨dp,((AR z6 (wN z6 z7),(0:Int),()),())⟩)
     (.ok ⟨dp,((z2,(41:Int),()),())⟩))
    (.ok ⟨dp,((z2,(50:Int),()),())⟩))
   (.ok ⟨dp,((z2,(40:Int),()),())⟩))))))
theorem Vl (h0:bh vo ok0 (NC g0_0)) (pre:pU->Bool) (F:pU->OT fU.Y) (hF:∀ (x:pU) oy,pre x=true->(F x).run=some oy->(IV ok0 g0_0 x.1.1 x.1.2.1 x.1.2.2.1).run=some oy):aa aj 80 (fU.az pre F):=
 di wK 80 Tryz.f80 fU [dp] (lg wK 0 alq [(0,nA)] none none vo bD h0 bD) (λx=>IV ok0 g0_0 x.1.1 x.1.2.1 x.1.2.2.1) hF
end
theorem La {p:ml} (h:(cU p==0)=true):p.2.2.1.length<=32:=by
 unfold cU at h
 cases h1:ac p.1
 ·rw [h1] at h;cases h
 ·rw [h1] at h
  by_cases h2:p.2.1<0
  ·rw [ag h2] at h;cases h
  ·rw [bq h2] at h
   by_cases h3:5<p.2.1
   ·rw [ag h3] at h;cases h
   ·rw [bq h3] at h
    cases h4:(p.2.2.1.length:Int)==V0 1 p.2.1
    ·rw [h4] at h;cases h
    ·rw [beq_iff_eq] at h4
     have h6:V0 1 p.2.1<=32:=by
      have:p.2.1=0\/p.2.1=1\/p.2.1=2\/p.2.1=3\/p.2.1=4\/p.2.1=5:=by omega
      rcases this with e|e|e|e|e|e<;>rw [e]<;>decide
     omega
def rQ (G:List Pt) (l:aB) (k:Nat) (o:List Tm):List Tm:=o++ [(l.getD k ⟨0,0,0,0⟩,G.getD k jN)]
def SA (p:ml) (l:aB) (b:ab):List Tm:=upto (rQ p.2.2.1 l) [(b,p.2.2.2.1)] l.length
theorem OK (G:List Pt) (l:aB) (t:Tm):∀ n,(upto (rQ G l) [t] n).length=n+1
 |0=>rfl
 |n+1=>by
  show (upto (rQ G l) [t] n++ [_]).length=_
  rw [bL,OK G l t n]
  rfl
def yu (s:dX):Bool:=decide (s.1.2.2.2.2.1=(s.1.2.2.2.1.length:Int)/\s.1.2.2.2.2.2.1=0/\s.1.2.2.2.1.length<=s.2.1.2.2.1.length/\s.2.1.2.2.1.length<=32/\s.2.2.2.1.length=1)
def Dx (s:dX):pT:=(((),(),(),()),s.2.1,s.2.2.1,upto (rQ s.2.1.2.2.1 s.1.2.2.2.1) s.2.2.2.1 s.1.2.2.2.1.length,())
theorem als:bh vo yu (NC Dx):=by
 rintro ⟨⟨⟨⟩,⟨⟩,⟨⟩,l,n,i,⟨⟩⟩,⟨q,t,o,⟨⟩⟩⟩ h
 have h':=bm h
 dsimp only at h'
 obtain ⟨rfl,rfl,hl,hG,ho⟩:=h'
 obtain ⟨u,rfl⟩:∃ u,o= [u]:=by
  match o,ho with
  | [u],_=>exact ⟨u,rfl⟩
 have:=(bf (T:=vo) (λk o=>((((),(),(),l,(l.length:Int),(k:Int),()),q,t,o,()):dX)) (rQ q.2.2.1 l)
  (λo=>(⟨(.exit 0,nA),(((),(),(),()),q,t,o,())⟩:aZ)) l.length [u] (λk o=>o.length=k+1) rfl (λk o hk hq=>⟨?_,?_⟩) (λo _=> ?_)).1
 ·obtain ⟨m,hm⟩:=this
  exact ⟨m,_,hm,rfl⟩
 ·have hq:o.length=k+1:=hq
  refine (OT.ak (ag (by dsimp only;omega))).trans ((ae ?_).trans rfl)
  simp only [aA,aI,aJ,aw]
  exact ⟨ba (by omega),ba (by omega),ag (by omega),aS (by omega)⟩
 ·show (o++ [_]).length=_
  rw [bL,show o.length=k+1 from hq]
  rfl
 ·exact OT.au (bq (by dsimp only;omega))
def azm (p:ml) (l:aB) (b:ab):Pt×Int:=cond (!(cU p==0)) (jN,cU p) (cond (decide ((p.2.2.1.length:Int)<(l.length:Int))) (jN,50)
 (cond (ac p.1) (cond (decide ((SA p l b).length<=100000)) (cond (cy p.1 (SA p l b)) (AR p.1 (wN p.1 (SA p l b)),0) (jN,41)) (jN,50)) (jN,40)))
def abg (x:pU):Bool:=decide (x.1.1.2.2.1.length<=140737488355328)
def ap7 (x:pU):OT fU.Y:=.ok ⟨dp,(((azm x.1.1 x.1.2.1 x.1.2.2.1).1,(azm x.1.1 x.1.2.1 x.1.2.2.1).2,()),())⟩
theorem alr:aa aj 80 (fU.az abg ap7):=Vl yu Dx als _ _ λx oy hp ho=>by
 rw [<-ho]
 clear ho
 obtain ⟨⟨p,l,b,⟨⟩⟩,⟨⟩⟩:=x
 show (IV yu Dx p l b).run=some (⟨dp,(((azm p l b).1,(azm p l b).2,()),())⟩:fU.Y)
 have hp:ig ((p,()),())=true:=hp
 unfold azm
 refine (ae (by rw [hp];rfl)).trans ?_
 rcases (b9 (!(cU p==0))).symm with h1|h1
 ·rw [h1]
  refine (OT.au rfl).trans ?_
  by_cases h2:(p.2.2.1.length:Int)<(l.length:Int)
  ·rw [ag h2]
   exact (OT.ak rfl).trans rfl
  ·rw [bq h2]
   have h0:(cU p==0)=true:=by
    cases hq:cU p==0
    ·rw [hq] at h1;cases h1
    ·rfl
   have hG:=La h0
   refine (OT.au rfl).trans ((ae ?_).trans ?_)
   ·simp only [aA,aI,aJ]
    exact ag ⟨rfl,rfl,by show l.length<=p.2.2.1.length;omega,hG,rfl⟩
   ·show (OT.br (ac p.1) (.br (decide ((SA p l b).length<=100000)) (.br (cy p.1 (SA p l b)) (.ok ⟨dp,((AR p.1 (wN p.1 (SA p l b)),(0:Int),()),())⟩) (.ok ⟨dp,((jN,(41:Int),()),())⟩)) (.ok ⟨dp,((jN,(50:Int),()),())⟩)) (.ok ⟨dp,((jN,(40:Int),()),())⟩):OT fU.Y).run=_
    generalize SA p l b=t
    cases ac p.1<;>cases decide (t.length<=100000)<;>cases cy p.1 t<;>rfl
 ·rw [h1]
  exact (OT.ak rfl).trans rfl
def abn:ml:=(0,0,[],jN,jN)
def pn:af:=⟨[jP],[],true,0,false⟩
abbrev HR:Type:=fK×Unit
def HQ:aL:=⟨[.own 0],[(0,fL)],false⟩
def aeY (a0:aB):OT pn.Y:=
 (gd [decide ((0+List.length a0)*32<=140737488355328)] (.ok ⟨HQ,(((),()),[]++a0,())⟩))
theorem Z0 (pre:HR->Bool) (F:HR->OT pn.Y) (hF:∀ (x:HR) oy,pre x=true->(F x).run=some oy->(aeY x.1.1).run=some oy):aa aj 28 (pn.az pre F):=
 di wK 28 Tryz.f28 pn [HQ] bD (λx=>aeY x.1.1) hF
def dT (x:HR):Bool:=decide (x.1.1.length*32<=140737488355328)
def aeZ (x:HR):OT pn.Y:=.ok ⟨HQ,(((),()),x.1.1,())⟩
theorem aoB:aa aj 28 (pn.az dT aeZ):=Z0 _ _ λx oy hp ho=>by
 rw [<-ho]
 have hp':x.1.1.length*32<=140737488355328:=bm hp
 refine (ae ?_).trans rfl
 simp only [aA,aI,aJ]
 exact ag (by omega)
def xG:bt:=(pn.az dT aeZ)
theorem TP:aa aj 28 xG:=aoB
theorem TO:ax xG:=av
def Ti:Env:=aq 28 xG ajf
theorem EU:bV aj te Ti:=aU follows wK TP TO
abbrev apx:Type:=(aB×Unit×m5)×aiH
abbrev apy:Type:=nW×aiH
section
variable (ok0:apx->Bool) (g0_0:apx->apy)
end
abbrev UD:Type:=(aF×Int×UInt64×eU)×Unit
abbrev aaL:Type:=m4×Unit
section
variable (ok0:UD->Bool) (g0_0:UD->aaL)
end
abbrev Np:Type:=(aF×UInt64×Bool×Ct)×o7
abbrev UM:Type:=(aF×UInt64×Bool×nW)×o5
abbrev Nn:Type:=(aF×Ct)×o7
abbrev UL:Type:=LR×o7
abbrev Nl:Type:=LU×ap×ap×ap×ap×List (List Int)×Unit
abbrev UK:Type:=nW×o5
abbrev Nk:Type:=(Unit×m5)×o5
abbrev UJ:Type:=mY
section
variable (ok0:Np->Bool) (g0_0:Np->UM) (ok2:Nn->Bool) (g2_2:Nn->UL) (ok4:Nl->Bool) (g4_4:Nl->UK) (ok6:Nk->Bool) (g6_6:Nk->UJ)
end
abbrev af7:Type:=(Int×aF×rE)×uA
abbrev akS:Type:=(Int×aF×rE)×uA
abbrev af6:Type:=(Int×m5)×ap×dl
abbrev akR:Type:=ct×dl
section
variable (ok0:af7->Bool) (g0_0:af7->akS) (ok2:af6->Bool) (g2_2:af6->akR)
end
def jC:af:=⟨[jP],[],true,0,false⟩
abbrev adz:Type:=fK×Unit
def ua:aL:=⟨[.own 0],[(0,fL)],false⟩
def OC:SV->Option aL:=λ_=>some ua
def So (a0:aB):OT jC.Y:=
 (gd [decide (((0:Nat)+List.length a0)*(32:Nat)<=(140737488355328:Nat))] (.ok ⟨ua,(((),()),[]++a0,())⟩))
def as3:OT jC.Y:=.ok ⟨ua,(((),()),[],())⟩
theorem azb (x:adz) (Q:jC.Y->Prop):wpf te Ti fV 1000 Tryz.f95 (jC.inp.inj x).tm (jC.inp.inj x).hp (fnK jC OC Q) (λ_ _=>False)=
 Bool.rec (motive:=λ_=>Prop) ((So x.1.1).wpR Q) (as3.wpR Q/\(So x.1.1).wpR Q) (List.isEmpty x.1.1):=by kernel_rfl
def wb (x:adz):Bool:=decide (x.1.1.length*32<=140737488355328)
def ahO (x:adz):OT jC.Y:=.ok ⟨ua,(((),()),x.1.1,())⟩
theorem as2:aa aj 95 (jC.az wb ahO):=by
 refine ayV Mr EU.ok EU.any (f:=95) (fn:=Tryz.f95) (c:=mP Tryz.f95) (by kernel_rfl) (by kernel_rfl) (by kernel_rfl) (S:=jC) (k:=0) (by kernel_rfl) (Λ:=fV) (λR hR=>Bz) (n:=1000) λx oy hp hr=>⟨fnK jC OC (λz=>z=oy),λ_ _=>False,?_,λv hp hq=> ?_,λ_ _ hq=>hq.elim⟩
 ·refine (azb x _).mpr ?_
  cases hr
  have hp':x.1.1.length*32<=140737488355328:=bm hp
  have h1:(So x.1.1).wpR (λz=>z=⟨ua,(((),()),x.1.1,())⟩):=by
   rw [OT.E9]
   refine OT.iZ (ae ?_) rfl
   simp only [aA,aI,aJ]
   exact ag (by omega)
  cases hb:List.isEmpty x.1.1
  ·exact h1
  ·refine ⟨?_,h1⟩
   rw [List.isEmpty_iff.1 hb]
   rfl
 ·unfold fnK at hq
  split at hq
  ·rename_i o ho
   split at hq
   ·rename_i y hy
    subst hq
    exact ⟨by cases ho;rfl,hy⟩
   ·exact hq.elim
  ·exact hq.elim
def zI:bt:=(jC.az wb ahO)
theorem Xz:aa aj 95 zI:=as2
theorem Xy:ax zI:=av
def ajA:Env:=aq 95 zI Ti
theorem Pu:bV aj te ajA:=aU follows EU Xz Xy
def py:af:=⟨[jP],[],true,0,false⟩
abbrev HX:Type:=fK×Unit
def HW:aL:=⟨o9,[(0,.cells [kl]),(1,fL)],false⟩
def ae3 (a0:aB):OT py.Y:=
 (gd [wb ((a0,()),())] (.ok ⟨HW,(((),()),((),()),a0,())⟩))
theorem aag (pre:HX->Bool) (F:HX->OT py.Y) (hF:∀ (x:HX) oy,pre x=true->(F x).run=some oy->(ae3 x.1.1).run=some oy):aa aj 36 (py.az pre F):=
 di Pu 36 Tryz.f36 py [HW] bD (λx=>ae3 x.1.1) hF
def oo (x:HX):Bool:=decide (x.1.1.length*32<=140737488355328)
def ae4 (x:HX):OT py.Y:=.ok ⟨HW,(((),()),((),()),x.1.1,())⟩
theorem aoQ:aa aj 36 (py.az oo ae4):=aag _ _ λx oy hp ho=>by
 rw [<-ho]
 have hp':x.1.1.length*32<=140737488355328:=bm hp
 refine (ae ?_).trans rfl
 simp only [aA,aI,aJ]
 exact ag hp'
def xN:bt:=(se [] 0 (py.az oo ae4))
theorem T6:aa aj 36 xN:=(uW aoQ)
theorem T5:ax xN:=(nl av)
def aja:Env:=aq 36 xN ajA
theorem EV:bV aj te aja:=aU follows Pu T6 T5
def xR:af:=⟨o9,[(0,L6)],false,1,true⟩
abbrev Ue:Type:=ct×fK×Unit
def GB:aL:=⟨kZ,[(0,L6)],false⟩
def aoU (c0_0:aB):OT xR.Y:=
 let z0:Nat:=List.length c0_0
 let z1:Int:=(↑z0:Int)
 let z2:ab:= {w0:=0,w1:=0,w2:=0,w3:=0}
 (.br (z1==(0:Int))
 (.ok ⟨GB,((z2,(81:Int),()),(c0_0,()),())⟩)
 (gd [inB (0:Int) z0,cp (1:Int) z1 z0] (.ok ⟨GB,((List.getD c0_0 0 z2,(0:Int),()),(List.drop 1 c0_0,()),())⟩)))
theorem akJ (pre:Ue->Bool) (F:Ue->OT xR.Y) (hF:∀ (x:Ue) oy,pre x=true->(F x).run=some oy->(aoU x.2.1.1).run=some oy):aa aj 90 (xR.az pre F):=
 di EV 90 Tryz.f90 xR [GB] bD (λx=>aoU x.2.1.1) hF
def ao (l:aB):mZ:=match l with
 | []=>(⟨0,0,0,0⟩,81,[])
 |x::r=>(x,0,r)
def oq (x:Ue):Bool:=decide (x.2.1.1.length<=140737488355328)
def aoV (x:Ue):OT xR.Y:=.ok ⟨GB,(((ao x.2.1.1).1,(ao x.2.1.1).2.1,()),((ao x.2.1.1).2.2,()),())⟩
theorem awg:aa aj 90 (xR.az oq aoV):=akJ _ _ λx oy hp ho=>by
 rw [<-ho]
 clear ho
 obtain ⟨⟨⟨⟩,⟨⟩⟩,⟨⟨l,⟨⟩⟩,⟨⟩⟩⟩:=x
 have hl:l.length<=140737488355328:=bm hp
 cases l with
 |nil=>rfl
 |cons y r=>
  have h0:(((y::r).length:Int)==0)=false:=by simp;omega
  refine (OT.au h0).trans ((ae ?_).trans rfl)
  simp only [List.length_cons] at hl⊢
  simp only [aA,aI,aJ,aw]
  exact ⟨ba (by omega),cI (by omega)⟩
def Db:bt:=(xR.az oq aoV)
theorem aap:aa aj 90 Db:=awg
theorem aao:ax Db:=av
def pA:af:=⟨[.ptr 0 0 1],[(0,CF)],false,1,true⟩
abbrev HY:Type:=ct×jT×Unit
def AO:aL:=⟨kZ,[(0,CF)],false⟩
def ae6 (c0_0:Int) (c0_1:aB):OT pA.Y:=
 let z0:Nat:=List.length c0_1
 let z1:Int:=(↑z0:Int)
 let z2:ab:= {w0:=0,w1:=0,w2:=0,w3:=0}
 (.br (z1==(0:Int))
 (.ok ⟨AO,((z2,(81:Int),()),(c0_0,c0_1,()),())⟩)
 (gd [inB (0:Int) z0,cp (1:Int) z1 z0] (.ok ⟨AO,((List.getD c0_1 0 z2,(0:Int),()),(c0_0,List.drop 1 c0_1,()),())⟩)))
theorem aan (pre:HY->Bool) (F:HY->OT pA.Y) (hF:∀ (x:HY) oy,pre x=true->(F x).run=some oy->(ae6 x.2.1.1 x.2.1.2.1).run=some oy):aa aj 90 (pA.az pre F):=
 di EV 90 Tryz.f90 pA [AO] bD (λx=>ae6 x.2.1.1 x.2.1.2.1) hF
def Da (x:HY):Bool:=decide (x.2.1.2.1.length<=140737488355328)
def ae7 (x:HY):OT pA.Y:=.ok ⟨AO,(((ao x.2.1.2.1).1,(ao x.2.1.2.1).2.1,()),(x.2.1.1,(ao x.2.1.2.1).2.2,()),())⟩
theorem aoT:aa aj 90 (pA.az Da ae7):=aan _ _ λx oy hp ho=>by
 rw [<-ho]
 clear ho
 obtain ⟨⟨⟨⟩,⟨⟩⟩,⟨⟨s,l,⟨⟩⟩,⟨⟩⟩⟩:=x
 have hl:l.length<=140737488355328:=bm hp
 cases l with
 |nil=>rfl
 |cons y r=>
  have h0:(((y::r).length:Int)==0)=false:=by simp;omega
  refine (OT.au h0).trans ((ae ?_).trans rfl)
  simp only [List.length_cons] at hl⊢
  simp only [aA,aI,aJ,aw]
  exact ⟨ba (by omega),cI (by omega)⟩
def xQ:bt:=(atN Db (pA.az Da ae7))
theorem Ud:aa aj 90 xQ:=(azv aap aoT)
theorem Uc:ax xQ:=(anx aao av)
def ajb:Env:=aq 90 xQ aja
theorem Pf:bV aj te ajb:=aU follows EV Ud Uc
def xL:af:=⟨aeu,[(0,CF)],false,1,true⟩
abbrev TX:Type:=aiD×jT×Unit
def PX:aL:=⟨[],[(0,CF)],false⟩
def aoI (a1:UInt8) (a2:aF) (c0_0:Int) (c0_1:aB):OT xL.Y:=
 (.ok ⟨PX,((),(c0_0,c0_1,()),())⟩)
theorem akC (pre:TX->Bool) (F:TX->OT xL.Y) (hF:∀ (x:TX) oy,pre x=true->(F x).run=some oy->(aoI x.1.2.1 x.1.2.2.1 x.2.1.1 x.2.1.2.1).run=some oy):aa aj 221 (xL.az pre F):=
 di Pf 221 Tryz.f221 xL [PX] bD (λx=>aoI x.1.2.1 x.1.2.2.1 x.2.1.1 x.2.1.2.1) hF
def TW (_:TX):Bool:=true
def aoJ (x:TX):OT xL.Y:=.ok ⟨PX,((),(x.2.1.1,x.2.1.2.1,()),())⟩
theorem awc:aa aj 221 (xL.az TW aoJ):=akC _ _ λx oy hp ho=>ho
def C6:bt:=(xT 2 (xL.az TW aoJ))
theorem aaa:aa aj 221 C6:=(Dc awc)
theorem Z9:ax C6:=(sf av)
def au7:Env:=aq 221 C6 ajb
theorem Y6:bV aj te au7:=aU follows Pf aaa Z9
def pB:af:=⟨o9,[(0,CF)],false,1,true⟩
abbrev HZ:Type:=ct×jT×Unit
def AP:aL:=⟨kZ,[(0,CF)],false⟩
def ae8 (c0_0:Int) (c0_1:aB):OT pB.Y:=
 let z0:mZ:=ao c0_1
 let z1:ab:= {w0:=0,w1:=0,w2:=0,w3:=0}
 let z2:=z0.snd
 let z3:=z2.fst
 let z4:=z2.snd
 (gd [Da (((),()),(c0_0,c0_1,()),())] (.br (ac c0_0)
 (.ok ⟨AP,((dv (pS c0_0) z0.fst z1,z3,()),(c0_0,z4,()),())⟩)
 (.ok ⟨AP,((z1,z3,()),(c0_0,z4,()),())⟩)))
theorem aaq (pre:HZ->Bool) (F:HZ->OT pB.Y) (hF:∀ (x:HZ) oy,pre x=true->(F x).run=some oy->(ae8 x.2.1.1 x.2.1.2.1).run=some oy):aa aj 220 (pB.az pre F):=
 di Y6 220 Tryz.f220 pB [AP] bD (λx=>ae8 x.2.1.1 x.2.1.2.1) hF
def uV (x:HZ):Bool:=ac x.2.1.1&&decide (x.2.1.2.1.length<=140737488355328)
def ae9 (x:HZ):OT pB.Y:=.ok ⟨AP,((dv (pS x.2.1.1) (ao x.2.1.2.1).1 ⟨0,0,0,0⟩,(ao x.2.1.2.1).2.1,()),(x.2.1.1,(ao x.2.1.2.1).2.2,()),())⟩
theorem aoW:aa aj 220 (pB.az uV ae9):=aaq _ _ λx oy hp ho=>by
 rw [<-ho]
 clear ho
 obtain ⟨⟨⟨⟩,⟨⟩⟩,⟨⟨s,l,⟨⟩⟩,⟨⟩⟩⟩:=x
 have hp':(ac s&&decide (l.length<=140737488355328))=true:=hp
 rw [aw] at hp'
 refine (ae ?_).trans ((OT.ak hp'.1).trans rfl)
 simp only [aA,aI,aJ]
 exact hp'.2
def xS:bt:=(pB.az uV ae9)
theorem Ug:aa aj 220 xS:=aoW
theorem Uf:ax xS:=av
def ajc:Env:=aq 220 xS au7
theorem Pg:bV aj te ajc:=aU follows Y6 Ug Uf
def xP:af:=⟨[aC,YW],[],true,0,false⟩
abbrev Ua:Type:=(Int×xn×Unit)×Unit
def jc:aL:=⟨[.fH,aC],[],false⟩
def AN:aL:=⟨[.ifp 165 0,aC],[aiT,(1,fL)],false⟩
def AM:aL:=⟨[.ifp 171 0,aC],[(0,.cells [aC,ir]),(1,.cells [aC,aQ,aQ,aQ,aQ,aQ,aQ,aQ,aQ,.own 2,aQ]),Ah],false⟩
def aal (a0:Int) (a1:xn):OT xP.Y:=
 let z0:Bool:=decide ((100000:Int)<(↑(List.length a1.snd):Int))
 let z1:Bool:=wb ((a1.snd,()),())
 let z2:Int:=ay a0 (1:Int)
 (.br (decide (a0<(0:Int)))
 (.ok ⟨jc,(((),(40:Int),()),())⟩)
 (.br (decide ((3:Int)<a0))
  (.ok ⟨jc,(((),(40:Int),()),())⟩)
  (.br (!a1.fst==(0:Int))
   (.br (!a1.fst==(1:Int))
    (.ok ⟨jc,(((),(80:Int),()),())⟩)
    (.br (z0)
     (.ok ⟨jc,(((),(81:Int),()),())⟩)
     (.br (a1.fst==(1:Int))
      (gd [z1] (.ok ⟨AN,(((),(0:Int),()),(z2,(),()),a1.snd,())⟩))
      (.ok ⟨AM,(((),(0:Int),()),(z2,(),()),((64:Int),(7640891576939301192:UInt64),(13503953896175478587:UInt64),(4354685564936845355:UInt64),(11912009170470909681:UInt64),(5840696475078001361:UInt64),(11170449401992604703:UInt64),(7924071207369364504:UInt64),(3427420097777323800:UInt64),(),(0:UInt64),()),[],())⟩))))
   (.br (z0)
    (.ok ⟨jc,(((),(81:Int),()),())⟩)
    (.br (a1.fst==(1:Int))
     (gd [z1] (.ok ⟨AN,(((),(0:Int),()),(z2,(),()),a1.snd,())⟩))
     (.ok ⟨AM,(((),(0:Int),()),(z2,(),()),((64:Int),(7640891576939301192:UInt64),(13503953896175478587:UInt64),(4354685564936845355:UInt64),(11912009170470909681:UInt64),(5840696475078001361:UInt64),(11170449401992604703:UInt64),(7924071207369364504:UInt64),(3427420097777323800:UInt64),(),(0:UInt64),()),[],())⟩))))))
theorem akH (pre:Ua->Bool) (F:Ua->OT xP.Y) (hF:∀ (x:Ua) oy,pre x=true->(F x).run=some oy->(aal x.1.1 x.1.2.1).run=some oy):aa aj 54 (xP.az pre F):=
 di Pg 54 Tryz.f54 xP [jc,AN,AM] bD (λx=>aal x.1.1 x.1.2.1) hF
def cn (c mode:Int) (n:Nat):Int:=cond (ac c) (cond ((mode==0)||(mode==1)) (cond (decide ((100000:Int)<(n:Int))) 81 0) 80) 40
def Qa:F2:=(64,7640891576939301192,13503953896175478587,4354685564936845355,11912009170470909681,5840696475078001361,11170449401992604703,7924071207369364504,3427420097777323800,(),0,())
def T9 (_:Ua):Bool:=true
def jd (x:Ua):OT xP.Y:=.br (cn x.1.1 x.1.2.1.1 x.1.2.1.2.length==0)
 (.br (x.1.2.1.1==1) (.ok ⟨AN,(((),(0:Int),()),(ay x.1.1 1,(),()),x.1.2.1.2,())⟩) (.ok ⟨AM,(((),(0:Int),()),(ay x.1.1 1,(),()),Qa,[],())⟩))
 (.ok ⟨jc,(((),cn x.1.1 x.1.2.1.1 x.1.2.1.2.length,()),())⟩)
theorem awf:aa aj 54 (xP.az T9 jd):=akH _ _ λx oy _ ho=>by
 rw [<-ho]
 clear ho
 obtain ⟨⟨c,⟨mode,l⟩,⟨⟩⟩,⟨⟩⟩:=x
 unfold aal
 cases hs:ac c
 ·have he:cn c mode l.length=40:=by unfold cn;rw [hs];rfl
  have hF:(jd ((c,(mode,l),()),())).run=some ⟨jc,(((),(40:Int),()),())⟩:=by
   unfold jd
   rw [he]
   rfl
  rw [hF]
  by_cases h1:c<0
  ·exact OT.ak (ag h1)
  ·refine (OT.au (bq h1)).trans (OT.ak (ag ?_))
   by_cases h2:3<c
   ·exact h2
   ·have:ac c=true:=by
     simp only [ac,aw,decide_eq_true_eq]
     omega
    rw [this] at hs;cases hs
 ·have hc:0<=c/\c<4:=by simpa [ac] using hs
  refine (OT.au (bq (by dsimp only;omega))).trans ((OT.au (bq (by dsimp only;omega))).trans ?_)
  by_cases h0:mode=0
  ·subst h0
   refine (OT.au rfl).trans ?_
   cases hl:decide ((100000:Int)<(l.length:Int))
   ·have he:cn c 0 l.length=0:=by unfold cn;rw [hs,hl];rfl
    have hF:(jd ((c,(0,l),()),())).run=some ⟨AM,(((),(0:Int),()),(ay c 1,(),()),Qa,[],())⟩:=by
     unfold jd
     rw [he]
     rfl
    rw [hF]
    exact (OT.au rfl).trans ((OT.au rfl).trans rfl)
   ·have he:cn c 0 l.length=81:=by unfold cn;rw [hs,hl];rfl
    have hF:(jd ((c,(0,l),()),())).run=some ⟨jc,(((),(81:Int),()),())⟩:=by
     unfold jd
     rw [he]
     rfl
    rw [hF]
    exact (OT.ak rfl).trans rfl
  ·by_cases h1:mode=1
   ·subst h1
    refine (OT.ak rfl).trans ((OT.au rfl).trans ?_)
    cases hl:decide ((100000:Int)<(l.length:Int))
    ·have he:cn c 1 l.length=0:=by unfold cn;rw [hs,hl];rfl
     have hF:(jd ((c,(1,l),()),())).run=some ⟨AN,(((),(0:Int),()),(ay c 1,(),()),l,())⟩:=by
      unfold jd
      rw [he]
      rfl
     rw [hF]
     refine (OT.au rfl).trans ((OT.ak rfl).trans ((ae ?_).trans rfl))
     have hl':¬(100000:Int)<(l.length:Int):=of_decide_eq_false hl
     simp only [aA,aI,aJ]
     exact ag (show l.length*32<=140737488355328 by omega)
    ·have he:cn c 1 l.length=81:=by unfold cn;rw [hs,hl];rfl
     have hF:(jd ((c,(1,l),()),())).run=some ⟨jc,(((),(81:Int),()),())⟩:=by
      unfold jd
      rw [he]
      rfl
     rw [hF]
     exact (OT.ak rfl).trans rfl
   ·have b0:(mode==0)=false:=by simpa using h0
    have b1:(mode==1)=false:=by simpa using h1
    have he:cn c mode l.length=80:=by unfold cn;rw [hs,b0,b1];rfl
    have hF:(jd ((c,(mode,l),()),())).run=some ⟨jc,(((),(80:Int),()),())⟩:=by
     unfold jd
     rw [he]
     rfl
    rw [hF]
    exact (OT.ak (by simp [b0])).trans ((OT.ak (by simp [b1])).trans rfl)
def C8:bt:=(xP.az T9 jd)
theorem aak:aa aj 54 C8:=awf
theorem aaj:ax C8:=av
def au8:Env:=aq 54 C8 ajc
theorem CJ:bV aj te au8:=aU follows Pg aak aaj
def lF:af:=⟨[aC,YW],[],true,0,false⟩
abbrev xK:Type:=(Int×xn×Unit)×Unit
def AG:aL:=⟨F4,auZ,false⟩
def HT:aL:=⟨F4,aBT,false⟩
def AF:aL:=⟨[.rT,aC],[],false⟩
def TT:aL:=⟨F4,[(0,.cells [aC,.fH,kl]),nX],false⟩
def PV (a0:Int) (a1:xn):OT lF.Y:=
 let z0:Int:=cn a0 a1.fst (List.length a1.snd)
 let z1:Int:=ay a0 (1:Int)
 (.br (z0==(0:Int))
 (.br (a1.fst==(1:Int))
  (.ok ⟨AG,(((),(0:Int),()),(a0,(),(),()),(z1,(),()),[],a1.snd,())⟩)
  (.ok ⟨HT,(((),(0:Int),()),(a0,(),(),()),(z1,(),()),[],((64:Int),(7640891576939301192:UInt64),(13503953896175478587:UInt64),(4354685564936845355:UInt64),(11912009170470909681:UInt64),(5840696475078001361:UInt64),(11170449401992604703:UInt64),(7924071207369364504:UInt64),(3427420097777323800:UInt64),(),(0:UInt64),()),[],())⟩))
 (.br (!z0==(0:Int))
  (.ok ⟨AF,(((),z0,()),())⟩)
  (.ok ⟨TT,(((),(0:Int),()),(a0,(),(),()),[],())⟩)))
theorem Z7 (pre:xK->Bool) (F:xK->OT lF.Y) (hF:∀ (x:xK) oy,pre x=true->(F x).run=some oy->(PV x.1.1 x.1.2.1).run=some oy):aa aj 34 (lF.az pre F):=
 di CJ 34 Tryz.f34 lF [AG,HT,AF,TT] bD (λx=>PV x.1.1 x.1.2.1) hF
def akA (_:xK):Bool:=true
def PW (x:xK):OT lF.Y:=.br (cn x.1.1 x.1.2.1.1 x.1.2.1.2.length==0)
 (.br (x.1.2.1.1==1) (.ok ⟨AG,(((),(0:Int),()),(x.1.1,(),(),()),(ay x.1.1 1,(),()),[],x.1.2.1.2,())⟩)
  (.ok ⟨HT,(((),(0:Int),()),(x.1.1,(),(),()),(ay x.1.1 1,(),()),[],Qa,[],())⟩))
 (.ok ⟨AF,(((),cn x.1.1 x.1.2.1.1 x.1.2.1.2.length,()),())⟩)
theorem aoH:aa aj 34 (lF.az akA PW):=Z7 _ _ λx oy _ ho=>by
 rw [<-ho]
 clear ho
 obtain ⟨⟨c,⟨mode,l⟩,⟨⟩⟩,⟨⟩⟩:=x
 unfold PV PW
 by_cases he:(cn c mode l.length==0)=true
 ·refine (OT.ak he).trans (Eq.trans ?_ (OT.ak he).symm)
  by_cases hm:(mode==1)=true
  ·exact (OT.ak hm).trans (OT.ak hm).symm
  ·have hm:=Bool.eq_false_iff.2 hm
   exact (OT.au hm).trans (OT.au hm).symm
 ·have he:=Bool.eq_false_iff.2 he
  exact (OT.au he).trans ((OT.ak (by show (!(cn c mode l.length==0))=true;rw [he];rfl)).trans (OT.au he).symm)
def xV:af:=⟨o9,uF,false,3,true⟩
abbrev Uk:Type:=ct×O8
def P9:aL:=⟨kZ,uF,false⟩
def apc (c0_0:Int) (c1_0:Int) (c1_1:aB) (c2:aF):OT xV.Y:=
 let z0:mZ:=ao c1_1
 let z1:=z0.snd
 (gd [uV (((),()),(c1_0,c1_1,()),())] (.ok ⟨P9,((dv (pS c1_0) z0.fst {w0:=0,w1:=0,w2:=0,w3:=0},z1.fst,()),(c0_0,(),(),()),(c1_0,z1.snd,()),c2,())⟩))
theorem akL (pre:Uk->Bool) (F:Uk->OT xV.Y) (hF:∀ (x:Uk) oy,pre x=true->(F x).run=some oy->(apc x.2.1.1 x.2.2.1.1 x.2.2.1.2.1 x.2.2.2.1).run=some oy):aa aj 65 (xV.az pre F):=
 di CJ 65 Tryz.f65 xV [P9] bD (λx=>apc x.2.1.1 x.2.2.1.1 x.2.2.1.2.1 x.2.2.2.1) hF
def sj (x:Uk):Bool:=ac x.2.2.1.1&&decide (x.2.2.1.2.1.length<=140737488355328)
def apd (x:Uk):OT xV.Y:=.ok ⟨P9,((dv (pS x.2.2.1.1) (ao x.2.2.1.2.1).1 ⟨0,0,0,0⟩,(ao x.2.2.1.2.1).2.1,()),(x.2.1.1,(),(),()),(x.2.2.1.1,(ao x.2.2.1.2.1).2.2,()),x.2.2.2.1,())⟩
theorem awX:aa aj 65 (xV.az sj apd):=akL _ _ λx oy hp ho=>by
 rw [<-ho]
 clear ho
 obtain ⟨⟨⟨⟩,⟨⟩⟩,⟨⟨c,⟨⟩,⟨⟩,⟨⟩⟩,⟨s,l,⟨⟩⟩,o,⟨⟩⟩⟩:=x
 refine (ae ?_).trans rfl
 simp only [aA,aI,aJ]
 exact hp
def De:bt:=(xV.az sj apd)
theorem aau:aa aj 65 De:=awX
theorem aat:ax De:=av
def HU:af:=⟨aeu,uF,false,2,true⟩
abbrev aoL:Type:=aiD×O8
def aac:aL:=⟨[],uF,false⟩
def aAs (a1:UInt8) (a2:aF) (c0_0:Int) (c1_0:Int) (c1_1:aB) (c2:aF):OT HU.Y:=
 (gd [decide ((List.length c2+List.length a2)*1<=140737488355328)] (.ok ⟨aac,((),(c0_0,(),(),()),(c1_0,c1_1,()),c2++a2,())⟩))
theorem aoK (pre:aoL->Bool) (F:aoL->OT HU.Y) (hF:∀ (x:aoL) oy,pre x=true->(F x).run=some oy->(aAs x.1.2.1 x.1.2.2.1 x.2.1.1 x.2.2.1.1 x.2.2.1.2.1 x.2.2.2.1).run=some oy):aa aj 136 (HU.az pre F):=
 di CJ 136 Tryz.f136 HU [aac] bD (λx=>aAs x.1.2.1 x.1.2.2.1 x.2.1.1 x.2.2.1.1 x.2.2.1.2.1 x.2.2.2.1) hF
def pq (x:aoL):Bool:=decide (x.2.2.2.1.length+x.1.2.2.1.length<=140737488355328)
def aAt (x:aoL):OT HU.Y:=.ok ⟨aac,((),(x.2.1.1,(),(),()),(x.2.2.1.1,x.2.2.1.2.1,()),x.2.2.2.1++x.1.2.2.1,())⟩
theorem aCV:aa aj 136 (HU.az pq aAt):=aoK _ _ λx oy hp ho=>by
 rw [<-ho]
 clear ho
 obtain ⟨⟨⟨⟩,m,b,⟨⟩⟩,⟨⟨c,⟨⟩,⟨⟩,⟨⟩⟩,⟨s,l,⟨⟩⟩,o,⟨⟩⟩⟩:=x
 have hp':o.length+b.length<=140737488355328:=bm hp
 refine (ae ?_).trans rfl
 simp only [aA,aI,aJ]
 exact ag (by omega)
def AJ:bt:=(xT 2 (HU.az pq aAt))
theorem M7:aa aj 136 AJ:=(Dc aCV)
theorem M6:ax AJ:=(sf av)
def aB7:Env:=aq 136 AJ au8
theorem Hn:bV aj te aB7:=aU follows CJ M7 M6
def jb:af:=⟨[eX,dw],uF,false,2,true⟩
abbrev AH:Type:=(Unit×o3)×O8
def jX:aL:=⟨[],uF,false⟩
def TZ (a1:ab) (c0_0:Int) (c1_0:Int) (c1_1:aB) (c2:aF):OT jb.Y:=
 let z0:Int:=ay c0_0 (1:Int)
 let z1:aF:=zH (ofN (ab.nat a1%ab.nat (bB (Int.toNat z0)).fst))
 let z2:(Int×Cs)×LV×FZ:=((c0_0,(),(),()),(c1_0,c1_1,()),c2,())
 (.br (ac z0)
 (gd [pq (((),(2:UInt8),z1,()),z2)] (.ok ⟨jX,((),(c0_0,(),(),()),(c1_0,c1_1,()),c2++z1,())⟩))
 (gd [pq (((),(2:UInt8),[],()),z2)] (.ok ⟨jX,((),(c0_0,(),(),()),(c1_0,c1_1,()),c2++ [],())⟩)))
theorem TY (pre:AH->Bool) (F:AH->OT jb.Y) (hF:∀ (x:AH) oy,pre x=true->(F x).run=some oy->(TZ x.1.2.1 x.2.1.1 x.2.2.1.1 x.2.2.1.2.1 x.2.2.2.1).run=some oy):aa aj 94 (jb.az pre F):=
 di Hn 94 Tryz.f94 jb [jX] bD (λx=>TZ x.1.2.1 x.2.1.1 x.2.2.1.1 x.2.2.1.2.1 x.2.2.2.1) hF
def lG (c:Int) (v:ab):aF:=zH (ofN (v.nat%(bB (ay c 1).toNat).1.nat))
theorem Ff (c:Int) (v:ab):(lG c v).length=32:=kf _
def po (x:AH):Bool:=ac (ay x.2.1.1 1)&&decide (x.2.2.2.1.length<=140737488350000)
def T0 (x:AH):OT jb.Y:=.ok ⟨jX,((),(x.2.1.1,(),(),()),(x.2.2.1.1,x.2.2.1.2.1,()),x.2.2.2.1++lG x.2.1.1 x.1.2.1,())⟩
theorem aab (c s:Int) (l:aB) (o b:aF) (k:Bool) (hk:k=true) (hb:b.length=32) (ho:o.length<=140737488350000):
 (OT.br k (gd [pq (((),(2:UInt8),b,()),(c,(),(),()),(s,l,()),o,())] (.ok ⟨jX,((),(c,(),(),()),(s,l,()),o++b,())⟩))
  (gd [pq (((),(2:UInt8),[],()),(c,(),(),()),(s,l,()),o,())] (.ok ⟨jX,((),(c,(),(),()),(s,l,()),o++ [],())⟩)):OT jb.Y).run
 =(OT.ok ⟨jX,((),(c,(),(),()),(s,l,()),o++b,())⟩:OT jb.Y).run:=by
 refine (OT.ak hk).trans (ae ?_)
 simp only [aA,aI,aJ]
 exact ag (by dsimp only;omega)
theorem akD:aa aj 94 (jb.az po T0):=TY _ _ λx oy hp ho=>by
 rw [<-ho]
 clear ho
 obtain ⟨⟨⟨⟩,v,⟨⟩⟩,⟨⟨c,⟨⟩,⟨⟩,⟨⟩⟩,⟨s,l,⟨⟩⟩,o,⟨⟩⟩⟩:=x
 have hp':(ac (ay c 1)&&decide (o.length<=140737488350000))=true:=hp
 rw [aw] at hp'
 have ho':=bm hp'.2
 exact aab c s l o (lG c v) (ac (ay c 1)) hp'.1 (kf _) ho'
def sa:bt:=(jb.az po T0)
theorem PZ:aa aj 94 sa:=akD
theorem PY:ax sa:=av
def pD:af:=⟨o9,uF,false,3,true⟩
abbrev H7:Type:=ct×O8
def H6:aL:=⟨[.own 3],[auV,lc,Ah,uI],false⟩
def afR (c0_0:Int) (c1_0:Int) (c1_1:aB) (c2:aF):OT pD.Y:=
 (gd [eJ ((c2,()),())] (.ok ⟨H6,(((),()),(c0_0,(),(),()),(c1_0,c1_1,()),c2,c2,())⟩))
theorem aav (pre:H7->Bool) (F:H7->OT pD.Y) (hF:∀ (x:H7) oy,pre x=true->(F x).run=some oy->(afR x.2.1.1 x.2.2.1.1 x.2.2.1.2.1 x.2.2.2.1).run=some oy):aa aj 37 (pD.az pre F):=
 di Hn 37 Tryz.f37 pD [H6] bD (λx=>afR x.2.1.1 x.2.2.1.1 x.2.2.1.2.1 x.2.2.2.1) hF
def Df (x:H7):Bool:=eJ ((x.2.2.2.1,()),())
def afS (x:H7):OT pD.Y:=.ok ⟨H6,(((),()),(x.2.1.1,(),(),()),(x.2.2.1.1,x.2.2.1.2.1,()),x.2.2.2.1,x.2.2.2.1,())⟩
theorem ape:aa aj 37 (pD.az Df afS):=aav _ _ λx oy hp ho=>by
 rw [<-ho]
 clear ho
 obtain ⟨⟨⟨⟩,⟨⟩⟩,⟨⟨c,⟨⟩,⟨⟩,⟨⟩⟩,⟨s,l,⟨⟩⟩,o,⟨⟩⟩⟩:=x
 refine ae ?_
 simp only [aA,aI,aJ]
 exact hp
def xW:bt:=(pD.az Df afS)
theorem Um:aa aj 37 xW:=ape
theorem Ul:ax xW:=av
abbrev aGu:Type:=aiD×Cr×F2×dl
def aHQ (d:aHe) (w:aF) (m:UInt8) (b:aF):aHe×List UInt8:=(am8 d.1 (oj (sP d w) ([m]++b)).1 (oj (sP d w) ([m]++b)).2.1,(oj (sP d w) ([m]++b)).2.2)
def arI (x:aGu):Bool:=decide (x.2.2.2.1.length+x.1.2.2.1.length<=140737488350000)
def D7:bt:=(De)
theorem acE:aa aj 65 D7:=(aau)
theorem acD:ax D7:=(aat)
def Kf:af:=⟨aeu,[(0,.cells [aC,.ifp 171 1,.own 3]),(1,.cells [aC,fE]),(2,aHw (.own 4)),uI,(4,pb)],false,3,true⟩
abbrev arK:Type:=aiD×jS×Cr×F2×aF×dl
def acC:aL:=⟨[],[(0,.cells [aC,.ifp 171 1,.own 3]),(1,.cells [aC,fE]),(2,aBO),uI,(4,pb)],false⟩
def aAW (a1:UInt8) (a2:aF) (c0_0:Int) (c1_0:Int) (c2_0:Int) (c2_1:UInt64) (c2_2:UInt64) (c2_3:UInt64) (c2_4:UInt64) (c2_5:UInt64) (c2_6:UInt64) (c2_7:UInt64) (c2_8:UInt64) (c2_10:UInt64) (c3:aF) (c4:aF):OT Kf.Y:=
 let z0:Pa:=(c2_0,c2_1,c2_2,c2_3,c2_4,c2_5,c2_6,c2_7,c2_8,(),c2_10,())
 let z1:Pa×aF:=aHQ z0 c4 a1 a2
 let z2:=z1.fst
 let z3:=z2.snd
 let z4:=z3.snd
 let z5:=z4.snd
 let z6:=z5.snd
 let z7:=z6.snd
 let z8:=z7.snd
 let z9:=z8.snd
 let z10:=z9.snd
 (gd [decide ((List.length c3+List.length a2)*1<=140737488355328),arI (((),a1,a2,()),(c1_0,(),()),z0,c4,())] (.ok ⟨acC,((),(c0_0,(),(),()),(c1_0,(),()),(z2.fst,z3.fst,z4.fst,z5.fst,z6.fst,z7.fst,z8.fst,z9.fst,z10.fst,(),z10.snd.snd.fst,()),c3++a2,z1.snd,())⟩))
theorem arJ (pre:arK->Bool) (F:arK->OT Kf.Y) (hF:∀ (x:arK) oy,pre x=true->(F x).run=some oy->(aAW x.1.2.1 x.1.2.2.1 x.2.1.1 x.2.2.1.1 x.2.2.2.1.1 x.2.2.2.1.2.1 x.2.2.2.1.2.2.1 x.2.2.2.1.2.2.2.1 x.2.2.2.1.2.2.2.2.1 x.2.2.2.1.2.2.2.2.2.1 x.2.2.2.1.2.2.2.2.2.2.1 x.2.2.2.1.2.2.2.2.2.2.2.1 x.2.2.2.1.2.2.2.2.2.2.2.2.1 x.2.2.2.1.2.2.2.2.2.2.2.2.2.2.1 x.2.2.2.2.1 x.2.2.2.2.2.1).run=some oy):aa aj 136 (Kf.az pre F):=
 di Hn 136 Tryz.f136 Kf [acC] bD (λx=>aAW x.1.2.1 x.1.2.2.1 x.2.1.1 x.2.2.1.1 x.2.2.2.1.1 x.2.2.2.1.2.1 x.2.2.2.1.2.2.1 x.2.2.2.1.2.2.2.1 x.2.2.2.1.2.2.2.2.1 x.2.2.2.1.2.2.2.2.2.1 x.2.2.2.1.2.2.2.2.2.2.1 x.2.2.2.1.2.2.2.2.2.2.2.1 x.2.2.2.1.2.2.2.2.2.2.2.2.1 x.2.2.2.1.2.2.2.2.2.2.2.2.2.2.1 x.2.2.2.2.1 x.2.2.2.2.2.1) hF
def ahg (x:arK):Bool:=decide (x.2.2.2.2.1.length+x.1.2.2.1.length<=140737488350000/\x.2.2.2.2.2.1.length<=128/\x.1.2.2.1.length<=1000)
def aAX (x:arK):OT Kf.Y:=.ok ⟨acC,((),(x.2.1.1,(),(),()),(x.2.2.1.1,(),()),(aHQ x.2.2.2.1 x.2.2.2.2.2.1 x.1.2.1 x.1.2.2.1).1,x.2.2.2.2.1++x.1.2.2.1,(aHQ x.2.2.2.1 x.2.2.2.2.2.1 x.1.2.1 x.1.2.2.1).2,())⟩
theorem aEl:aa aj 136 (Kf.az ahg aAX):=arJ _ _ λx oy hp ho=>by
 rw [<-ho]
 clear ho
 obtain ⟨⟨⟨⟩,m,b,⟨⟩⟩,⟨⟨c,⟨⟩,⟨⟩,⟨⟩⟩,⟨s,⟨⟩,⟨⟩⟩,d,o,w,⟨⟩⟩⟩:=x
 obtain ⟨h1,h2,h3⟩:=bm hp
 have h1:o.length+b.length<=140737488350000:=h1
 have h2:w.length<=128:=h2
 have h3:b.length<=1000:=h3
 refine (ae ?_).trans rfl
 simp only [aA,aI,aJ,aw]
 exact ⟨ag (by omega),ag (by show w.length+b.length<=_;omega)⟩
def Ke:bt:=(X9 0 1 165 AJ (xT 2 (Kf.az ahg aAX)))
theorem amk:aa aj 136 Ke:=(atO M7 (Dc aEl))
theorem amj:ax Ke:=(adW M6 (sf av))
def aCd:Env:=aq 136 Ke aB7
theorem aAb:bV aj te aCd:=aU follows Hn amk amj
def tx:bt:=(sa)
theorem RH:aa aj 94 tx:=(PZ)
theorem RG:ax tx:=(PY)
def Zm:Env:=aq 94 tx aCd
theorem aeA:bV aj te Zm:=aU follows aAb RH RG
def zt:bt:=(xW)
theorem WL:aa aj 37 zt:=(Um)
theorem WK:ax zt:=(Ul)
def ajt:Env:=aq 37 zt Zm
theorem E4:bV aj te ajt:=aU follows aeA WL WK
def km:af:=⟨[eX,xu],uF,false,2,true⟩
abbrev xO:Type:=(Unit×rC)×O8
def kA:aL:=⟨jK,uF,false⟩
def GA (a1:cK) (c0_0:Int) (c1_0:Int) (c1_1:aB) (c2:aF):OT km.Y:=
 let z0:aF:=jO c0_0 a1
 (.br (!onB c0_0 a1)
 (.ok ⟨kA,(((41:Int),()),(c0_0,(),(),()),(c1_0,c1_1,()),c2,())⟩)
 (gd [pq (((),(1:UInt8),z0,()),(c0_0,(),(),()),(c1_0,c1_1,()),c2,())] (.ok ⟨kA,(((0:Int),()),(c0_0,(),(),()),(c1_0,c1_1,()),c2++z0,())⟩)))
theorem aah (pre:xO->Bool) (F:xO->OT km.Y) (hF:∀ (x:xO) oy,pre x=true->(F x).run=some oy->(GA x.1.2.1 x.2.1.1 x.2.2.1.1 x.2.2.1.2.1 x.2.2.2.1).run=some oy):aa aj 92 (km.az pre F):=
 di E4 92 Tryz.f92 km [kA] bD (λx=>GA x.1.2.1 x.2.1.1 x.2.2.1.1 x.2.2.1.2.1 x.2.2.2.1) hF
theorem aw7 {b:List UInt8} (y:ab) (h:b.length=32):(sr b y).length=32:=by
 unfold sr
 rw [cu]
 exact h
theorem tZ {c:Int} {P:Pt} (h:onB c P=true):(jO c P).length=32:=by
 have e:=kf (ofP (pS c) P.1)
 unfold jO
 generalize zH (ofP (pS c) P.1)=B at e
 rw [h,aK]
 exact aw7 _ e
def C7 (x:xO):Bool:=decide (x.2.2.2.1.length<=140737488350000)
def awe (x:xO):OT km.Y:=.br (onB x.2.1.1 x.1.2.1) (.ok ⟨kA,(((0:Int),()),(x.2.1.1,(),(),()),(x.2.2.1.1,x.2.2.1.2.1,()),x.2.2.2.1++jO x.2.1.1 x.1.2.1,())⟩)
 (.ok ⟨kA,(((41:Int),()),(x.2.1.1,(),(),()),(x.2.2.1.1,x.2.2.1.2.1,()),x.2.2.2.1,())⟩)
theorem aai {c s:Int} {P:Pt} {l:List ab} {o B:List UInt8} (hB:jO c P=B) (hl:onB c P=true->B.length=32) (ho:o.length<=140737488350000):(GA P c s l o).run=(OT.br (onB c P) (.ok ⟨kA,(((0:Int),()),(c,(),(),()),(s,l,()),o++B,())⟩)
 (.ok ⟨kA,(((41:Int),()),(c,(),(),()),(s,l,()),o,())⟩):OT km.Y).run:=by
 unfold GA
 simp only [hB]
 rcases (b9 (onB c P)).symm with h|h
 ·exact (OT.ak (b:= !onB c P) (by rw [h];rfl)).trans (OT.au (b:=onB c P) h).symm
 ·refine (OT.au (b:= !onB c P) (by rw [h];rfl)).trans (Eq.trans ((ae ?_).trans rfl) (OT.ak (b:=onB c P) h).symm)
  simp only [aA,aI,aJ]
  exact ag (by have:=hl h;show o.length+B.length<=_;omega)
theorem aoR:aa aj 92 (km.az C7 awe):=aah _ _ λx oy hp ho=>by
 rw [<-ho]
 clear ho
 obtain ⟨⟨⟨⟩,P,⟨⟩⟩,⟨⟨c,⟨⟩,⟨⟩,⟨⟩⟩,⟨s,l,⟨⟩⟩,o,⟨⟩⟩⟩:=x
 have key:=aai (c:=c) (s:=s) (P:=P) (l:=l) (o:=o) (B:=jO c P) (Eq.refl (jO c P)) tZ (bm hp)
 exact key
def mO:af:=⟨[YW],[],false,0,false⟩
abbrev B9:Type:=(xn×Unit)×Unit
def Ex:aL:=⟨[YW],[],false⟩
def XH (a0:xn):OT mO.Y:=
 (gd [dT ((a0.snd,()),())] (.ok ⟨Ex,((a0,()),())⟩))
theorem XG (pre:B9->Bool) (F:B9->OT mO.Y) (hF:∀ (x:B9) oy,pre x=true->(F x).run=some oy->(XH x.1.1).run=some oy):aa aj 16 (mO.az pre F):=
 di E4 16 Tryz.f16 mO [Ex] bD (λx=>XH x.1.1) hF
def gU (x:B9):Bool:=decide (x.1.1.2.length*32<=140737488355328)
def XI (x:B9):OT mO.Y:=.ok ⟨Ex,((x.1.1,()),())⟩
theorem anc:aa aj 16 (mO.az gU XI):=XG _ _ λx oy hp ho=>by
 rw [<-ho]
 clear ho
 refine (ae ?_).trans rfl
 simp only [aA,aI,aJ]
 exact hp
def ud:bt:=(Ku 0 1 (mO.az gU XI))
theorem Sv:aa aj 16 ud:=(Kt anc)
theorem Su:ax ud:=(zw av)
def Mk:Env:=aq 16 ud ajt
theorem rm:bV aj te Mk:=aU follows E4 Sv Su
abbrev Iz:Type:=YR
abbrev Qu:Type:=mY
section
variable (ok0:Iz->Bool) (g0_0:Iz->Qu)
end
abbrev Iy:Type:=aiM×o5
abbrev Qt:Type:=aiJ
section
variable (ok0:Iy->Bool) (g0_0:Iy->Qt)
end
abbrev Ns:Type:=(Unit×Unit×Int×UInt64×eU)×ap×List Int×Unit
abbrev UX:Type:=m5×ap×List Int×Unit
section
variable (ok2:Ns->Bool) (g2_2:Ns->UX)
end
abbrev UW:Type:=Ct×ap×ap×List Int×uA
abbrev aa0:Type:=mY
section
variable (ok0:UW->Bool) (g0_0:UW->aa0)
end
end
section
namespace Sx
open Go
def Ks (k:Nat) (s:bt):bt:=⟨true,λd args hp=>match args.getD k .gu with
 |.own c e=>match ec hp c e with
  |some (.row t xs)=>(s.f d args (cQ hp [(c,⟨e,.frz t xs⟩)])).map (Out.after [(c,⟨e,.frz t xs⟩)])
  |some _=>s.f d args hp
  |none=>.fail
 |_=>s.f d args hp⟩
theorem Kr {P:Program} {f:FuncId} {s:bt} {k:Nat} (h:aa P f s):aa P f (Ks k s):=by
 refine ⟨λR w d args vs out hm hr hrun=> ?_⟩
 simp only [Ks] at hrun
 split at hrun
 ·rename_i c e hce
  split at hrun
  ·rename_i t xs hc
   obtain ⟨out',h1,rfl⟩:=OT.run_map hrun
   obtain ⟨R1,ha⟩:=Oh hm (bU hc)
   rw [<-show R1.hp=cQ R.hp [(c,⟨e,.frz t xs⟩)] from ha.hp] at h1
   have hr1:SV.bw R1 args vs:=SV.fb ha.ext _ _ hr
   have hpost:∀ en w',iL R1 out' en w'->iL R (Out.after [(c,⟨e,.frz t xs⟩)] out') en w':=λen w' hp=>by
    cases out' with
    |ret q=>
     obtain ⟨v,R',h2,h3,h4⟩:=hp
     exact ⟨v,R',h2,ha.trans h3,h4⟩
    |pan q u=>
     obtain ⟨v,R',h2,h3,h4⟩:=hp
     exact ⟨v,R',h2,ha.trans h3,h4⟩
   rcases h.calls R1 w d _ vs out' ha.mem hr1 h1 with ⟨fn,f1,f2,f3,hcl⟩|⟨v,w',hv,hp⟩
   ·exact .inl ⟨fn,f1,f2,f3,hcl.mono hpost⟩
   ·exact .inr ⟨v,w',hv,hpost _ _ hp⟩
  ·exact h.calls R w d args vs out hm hr hrun
  ·cases hrun
 ·exact h.calls R w d args vs out hm hr hrun
theorem zu {s:bt} {k:Nat} (h:ax s):ax (Ks k s):=λd args hp hp' out hg hrun=>by
 simp only [Ks] at hrun⊢
 split at hrun
 ·split at hrun
  ·rename_i t xs hc
   rw [bQ hg hc]
   simp only
   obtain ⟨out',h1,rfl⟩:=OT.run_map hrun
   refine DJ (h d _ _ _ out' ⟨λn ch hn=> ?_,λn hn hn0=> ?_⟩ h1)
   ·simp only [cQ] at hn⊢
    split
    ·rename_i h2;rw [if_pos h2] at hn;exact hn
    ·rename_i h2;rw [if_neg h2] at hn;exact hg.me _ _ hn
   ·simp only [cQ] at hn0⊢
    split
    ·rename_i h2;rw [if_pos h2] at hn0;cases hn0
    ·rename_i h2;rw [if_neg h2] at hn0;exact hg.free _ hn hn0
  ·rename_i b hnr hc
   rw [bQ hg hc]
   cases b<;>first|exact h _ _ _ _ _ hg hrun|exact absurd rfl (hnr _ _)
  ·cases hrun
 ·exact h _ _ _ _ _ hg hrun
end Sx
end
section
open Sx Go
set_option maxRecDepth 100000
def pC:af:=⟨o9,uF,false,3,true⟩
abbrev H5:Type:=ct×O8
def H4:aL:=⟨jK,uF,false⟩
def afP (c0_0:Int) (c1_0:Int) (c1_1:aB) (c2:aF):OT pC.Y:=
 (.ok ⟨H4,((c0_0,()),(c0_0,(),(),()),(c1_0,c1_1,()),c2,())⟩)
theorem aas (pre:H5->Bool) (F:H5->OT pC.Y) (hF:∀ (x:H5) oy,pre x=true->(F x).run=some oy->(afP x.2.1.1 x.2.2.1.1 x.2.2.1.2.1 x.2.2.2.1).run=some oy):aa aj 59 (pC.az pre F):=
 di rm 59 Tryz.f59 pC [H4] bD (λx=>afP x.2.1.1 x.2.2.1.1 x.2.2.1.2.1 x.2.2.2.1) hF
def Na (_:H5):Bool:=true
def afQ (x:H5):OT pC.Y:=.ok ⟨H4,((x.2.1.1,()),x.2)⟩
theorem apb:aa aj 59 (pC.az Na afQ):=aas _ _ λx oy hp ho=>by
 rw [<-ho]
 rfl
def xU:bt:=(pC.az Na afQ)
theorem Uj:aa aj 59 xU:=apb
theorem Ui:ax xU:=av
def zr:bt:=(xU)
theorem WJ:aa aj 59 zr:=(Uj)
theorem WI:ax zr:=(Ui)
def aqb (c:Code):Array Oper:=match c with
 |.seq (.region _ ops _) _=>ops
 |_=> #[]
def aqa (c:Code):Array Oper:=match c with
 |.seq _ (.seq (.region _ ops _) _)=>ops
 |_=> #[]
theorem aDL:(Tryz.f133).body=some (.seq (.region 0 (aqb (mP Tryz.f133)) false) (.seq (.region 1 (aqa (mP Tryz.f133)) false) .ret)):=by kernel_rfl
theorem aDK (x:SV): [x]++List.replicate ((Tryz.f133).ntmps- [x].length) SV.undef= [x,.undef,.undef,.undef,.undef,.undef,.undef,.undef,.undef]:=by kernel_rfl
theorem ap8 (hp:Hp) (c e:Nat):MD te hp 37 (.own c e)=(match fk hp c e with|some n=>.ok (.int n)|none=>.fail):=by kernel_rfl
theorem ap9 (hp:Hp) (c e:Nat) (n:Int):pG te hp 37 (.own c e) none (some (.int n)) (some (.int n))=.br (I2 none (some (.int n)) (some (.int n))) (if (fk hp c e).isSome then .ok .emp else .fail) (match (none:Option SV),some (SV.int n),fk hp c e with
 |none,some (.int h),some m=>if dW hp c e=some 1 then .br (decide (h=(m:Int))&&decide (n=(m:Int))) (.ok (.clip c e)) (.guard (decide (0<=h)&&decide (h<=n)&&decide (n<=(m:Int))) (.ok (.part c e 0 h.toNat))) else .fail
 |_,_,_=>.fail):=by kernel_rfl
noncomputable def aDM (k:Nat):Oper:=(aqb (mP Tryz.f133)).toList.getD k default
noncomputable def yv (k:Nat):Oper:=(aqa (mP Tryz.f133)).toList.getD k default
theorem axy:(aqb (mP Tryz.f133)).toList= [aDM 0]:=by kernel_rfl
theorem axw:(aqa (mP Tryz.f133)).toList= [yv 0,yv 1,yv 2,yv 3,yv 4,yv 5,yv 6]:=by kernel_rfl
theorem axv (hp:Hp) (c e:Nat) (xs:aF) (K:SV->Hp->Prop) (hx:ec hp c e=some (.row .u8 xs)) (hl:0<xs.length) (hK:K (.clip c e) hp):
 wpf te Mk fV 1000 Tryz.f133 [.own c e] hp K (λ_ _=>False):=by
 have e1:fk hp c e=some xs.length:=by simp [fk,hx]
 have e2:dW hp c e=some 1:=by simp only [dW,hx];rfl
 have h1:MD te hp 37 (.own c e)=.ok (.int xs.length):=by rw [ap8,e1]
 have h2:(pG te hp 37 (.own c e) none (some (.int xs.length)) (some (.int xs.length))).run=some (.clip c e):=by
  rw [ap9,e1]
  simp only [e2,if_true]
  refine (OT.au ?_).trans (OT.ak (by simp))
  simp only [I2,Bool.and_self,decide_eq_false_iff_not]
  omega
 unfold wpf
 rw [aDL]
 dsimp only
 rw [aDK,aCC (n:=997),mh,axy]
 refine gD (.emp) (by kernel_rfl) (by kernel_rfl) (tm':= [.own c e,.undef,.emp,.undef,.undef,.undef,.undef,.undef,.undef]) (by kernel_rfl) ?_
 dsimp only [iu]
 rw [mh,axw]
 refine gD (.own c e) (by kernel_rfl) (by kernel_rfl) (tm':= [.own c e,.undef,.emp,.own c e,.undef,.undef,.undef,.undef,.undef]) (by kernel_rfl) ?_
 refine gD (.own c e) (by kernel_rfl) (by kernel_rfl) (tm':= [.own c e,.undef,.emp,.own c e,.own c e,.undef,.undef,.undef,.undef]) (by kernel_rfl) ?_
 refine gD (.int xs.length) (by kernel_rfl) (Eq.trans (b:=(jg (MD te hp 37 (.own c e))).run) (by kernel_rfl) (by rw [h1];rfl)) (tm':= [.own c e,.undef,.emp,.own c e,.own c e,.int xs.length,.undef,.undef,.undef]) (by kernel_rfl) ?_
 refine gD (.own c e) (by kernel_rfl) (by kernel_rfl) (tm':= [.own c e,.undef,.emp,.own c e,.own c e,.int xs.length,.own c e,.undef,.undef]) (by kernel_rfl) ?_
 refine gD (.int xs.length) (by kernel_rfl) (Eq.trans (b:=(jg (MD te hp 37 (.own c e))).run) (by kernel_rfl) (by rw [h1];rfl)) (tm':= [.own c e,.undef,.emp,.own c e,.own c e,.int xs.length,.own c e,.int xs.length,.undef]) (by kernel_rfl) ?_
 refine gD (.clip c e) (by kernel_rfl) (Eq.trans (b:=(jg (pG te hp 37 (.own c e) none (some (.int xs.length)) (some (.int xs.length)))).run) (by kernel_rfl) (DJ h2)) (tm':= [.own c e,.undef,.emp,.own c e,.own c e,.int xs.length,.own c e,.int xs.length,.clip c e]) (by kernel_rfl) ?_
 refine gD (.clip c e) (by kernel_rfl) (by kernel_rfl) (tm':= [.own c e,.undef,.clip c e,.own c e,.own c e,.int xs.length,.own c e,.int xs.length,.clip c e]) (by kernel_rfl) ?_
 exact hK
theorem axx:aa aj 133 wg:=
 aE3 Mr rm.ok rm.any (f:=133) (fn:=Tryz.f133) (c:=mP Tryz.f133) (by kernel_rfl) (by kernel_rfl) (by kernel_rfl) (λR=>Bz) (n:=1000) axv
def Dy:bt:=wg
theorem abi:aa aj 133 Dy:=axx
theorem abh:ax Dy:=atp
def avb:Env:=aq 133 Dy Mk
theorem CK:bV aj te avb:=aU follows rm abi abh
def kJ:af:=⟨[aC,aC,jM],[],true,0,false⟩
abbrev Be:Type:=(Int×Int×dl)×Unit
def ali:Shape:=⟨87,[jL,(1,aC),jU,ER,(38,aC)],[lA,nX],0,true⟩
abbrev dm:Type:=(Int×Int×m5)×kk×dl
def nz:Shape:=⟨87,[jL,jU,ER],[lA,nX],0,true⟩
abbrev jk:Type:=jS×kk×dl
def alo (a0:Int) (a1:Int) (a38:Int) (c0_0:UInt64) (c0_1:UInt64) (c0_2:UInt64) (c0_3:UInt64) (c0_4:UInt64) (c0_5:UInt64) (c0_6:UInt64) (c0_7:UInt64) (c0_8:Bool) (c1:aF):OT (Sum dm aZ):=
 (.br (decide (a38<(4:Int)))
 (gd [inR ((8:Int)*a38),decide ((0:Int)<=(8:Int)*a38),decide ((List.length c1+1)*1<=140737488355328),inR (a38+(1:Int))] (.ok (.inl ((a0,a1,(),(),a38+(1:Int),()),(c0_0,c0_1,c0_2,c0_3,c0_4,c0_5,c0_6,c0_7,c0_8,()),c1++ [i2b (aGr a1 ((8:Int)*a38))],()))))
 (.ok (.inr ⟨(.exit 1,nz),((a0,(),(),()),(c0_0,c0_1,c0_2,c0_3,c0_4,c0_5,c0_6,c0_7,c0_8,()),c1,())⟩)))
def vn (s:dm):OT (Sum dm aZ):=alo s.1.1 s.1.2.1 s.1.2.2.2.2.1 s.2.1.1 s.2.1.2.1 s.2.1.2.2.1 s.2.1.2.2.2.1 s.2.1.2.2.2.2.1 s.2.1.2.2.2.2.2.1 s.2.1.2.2.2.2.2.2.1 s.2.1.2.2.2.2.2.2.2.1 s.2.1.2.2.2.2.2.2.2.2.1 s.2.2.1
def Nz (g1_1:dm->jk) (s:dm):OT aZ:=(.ok ⟨(.exit 1,nz),g1_1 s⟩)
def alh:Shape:=⟨87,[jL,jU,ER,(50,aC)],[lA,nX],0,true⟩
abbrev bF:Type:=(Int×m5)×kk×dl
def gG:Shape:=⟨87,[jU,xp],[lA],0,true⟩
abbrev ib:Type:=rE×kk×Unit
def ny:Shape:=⟨87,[jU],[lA],0,true⟩
abbrev jj:Type:=ct×kk×Unit
def aln (a0:Int) (a50:Int) (c0_0:UInt64) (c0_1:UInt64) (c0_2:UInt64) (c0_3:UInt64) (c0_4:UInt64) (c0_5:UInt64) (c0_6:UInt64) (c0_7:UInt64) (c0_8:Bool) (c1:aF):OT (Sum bF aZ):=
 let z0:Nat:=List.length c1
 let z1:aF:=c1++ [i2b a50]
 let z2:Bool:=ac a0
 let z3:Nat:=ab.nat (bB (Int.toNat a0)).fst
 let z4:Cq:=Tt a0 (zH (ofN (ab.nat (aCE a0 (SY [(115:UInt8),(105:UInt8),(103:UInt8),(105:UInt8),(108:UInt8),(45:UInt8),(103:UInt8),(101:UInt8),(110:UInt8),(101:UInt8),(114:UInt8),(97:UInt8),(116:UInt8),(111:UInt8),(114:UInt8),(115:UInt8)] (64:Int) z1))%z3)))
 let z5:=z4.fst
 let z6:=z5.snd
 let z7:=z6.snd
 let z8:=z5.fst
 let z9:=z6.fst
 let z10:Bool:=inR (a50+(1:Int))
 let z11:Cq:=Tt a0 []
 let z12:=z11.fst
 let z13:=z12.snd
 let z14:=z13.snd
 let z15:Bool:= !z14
 let z16:=z12.fst
 let z17:=z16.w0
 let z18:=z16.w1
 let z19:=z16.w2
 let z20:=z16.w3
 let z21:=z13.fst
 let z22:=z21.w0
 let z23:=z21.w1
 let z24:=z21.w2
 let z25:=z21.w3
 let z26:Cq:=Tt a0 (zH (ofN (ab.nat {w0:=0,w1:=0,w2:=0,w3:=0}%z3)))
 let z27:=z26.fst
 let z28:=z27.snd
 let z29:=z28.snd
 let z30:=z27.fst
 let z31:=z28.fst
 (.br (decide (a50<(256:Int)))
 (gd [decide (0<z0),decide ((z0+1)*1<=140737488355328)&&decide (0<1),Ci (([(115:UInt8),(105:UInt8),(103:UInt8),(105:UInt8),(108:UInt8),(45:UInt8),(103:UInt8),(101:UInt8),(110:UInt8),(101:UInt8),(114:UInt8),(97:UInt8),(116:UInt8),(111:UInt8),(114:UInt8),(115:UInt8)],(64:Int),z1,()),())] (.br (z2)
  (.br (z2)
   (.br (z4.snd==(0:Int))
    (.br (!z7)
     (.ok (.inr ⟨(.ret,gG),(((),(0:Int),()),(z8.w0,z8.w1,z8.w2,z8.w3,z9.w0,z9.w1,z9.w2,z9.w3,z7,()),())⟩))
     (gd [z10] (.ok (.inl ((a0,(),(),a50+(1:Int),()),(c0_0,c0_1,c0_2,c0_3,c0_4,c0_5,c0_6,c0_7,c0_8,()),c1,())))))
    (gd [z10] (.ok (.inl ((a0,(),(),a50+(1:Int),()),(c0_0,c0_1,c0_2,c0_3,c0_4,c0_5,c0_6,c0_7,c0_8,()),c1,())))))
   (.br (z11.snd==(0:Int))
    (.br (z15)
     (.ok (.inr ⟨(.ret,gG),(((),(0:Int),()),(z17,z18,z19,z20,z22,z23,z24,z25,z14,()),())⟩))
     (gd [z10] (.ok (.inl ((a0,(),(),a50+(1:Int),()),(c0_0,c0_1,c0_2,c0_3,c0_4,c0_5,c0_6,c0_7,c0_8,()),c1,())))))
    (gd [z10] (.ok (.inl ((a0,(),(),a50+(1:Int),()),(c0_0,c0_1,c0_2,c0_3,c0_4,c0_5,c0_6,c0_7,c0_8,()),c1,()))))))
  (.br (z2)
   (.br (z26.snd==(0:Int))
    (.br (!z29)
     (.ok (.inr ⟨(.ret,gG),(((),(0:Int),()),(z30.w0,z30.w1,z30.w2,z30.w3,z31.w0,z31.w1,z31.w2,z31.w3,z29,()),())⟩))
     (gd [z10] (.ok (.inl ((a0,(),(),a50+(1:Int),()),(c0_0,c0_1,c0_2,c0_3,c0_4,c0_5,c0_6,c0_7,c0_8,()),c1,())))))
    (gd [z10] (.ok (.inl ((a0,(),(),a50+(1:Int),()),(c0_0,c0_1,c0_2,c0_3,c0_4,c0_5,c0_6,c0_7,c0_8,()),c1,())))))
   (.br (z11.snd==(0:Int))
    (.br (z15)
     (.ok (.inr ⟨(.ret,gG),(((),(0:Int),()),(z17,z18,z19,z20,z22,z23,z24,z25,z14,()),())⟩))
     (gd [z10] (.ok (.inl ((a0,(),(),a50+(1:Int),()),(c0_0,c0_1,c0_2,c0_3,c0_4,c0_5,c0_6,c0_7,c0_8,()),c1,())))))
    (gd [z10] (.ok (.inl ((a0,(),(),a50+(1:Int),()),(c0_0,c0_1,c0_2,c0_3,c0_4,c0_5,c0_6,c0_7,c0_8,()),c1,()))))))))
 (.ok (.inr ⟨(.exit 3,ny),(((),()),(c0_0,c0_1,c0_2,c0_3,c0_4,c0_5,c0_6,c0_7,c0_8,()),())⟩)))
def vm (s:bF):OT (Sum bF aZ):=aln s.1.1 s.1.2.2.2.1 s.2.1.1 s.2.1.2.1 s.2.1.2.2.1 s.2.1.2.2.2.1 s.2.1.2.2.2.2.1 s.2.1.2.2.2.2.2.1 s.2.1.2.2.2.2.2.2.1 s.2.1.2.2.2.2.2.2.2.1 s.2.1.2.2.2.2.2.2.2.2.1 s.2.2.1
def Du (g3_r:bF->ib) (c3_r:bF->Bool) (g3_3:bF->jj) (s:bF):OT aZ:=(.br (c3_r s) (.ok ⟨(.ret,gG),g3_r s⟩) (.ok ⟨(.exit 3,ny),g3_3 s⟩))
def iP:aL:=⟨LY,[],false⟩
def Ve (ok1:dm->Bool) (g1_1:dm->jk) (ok3:bF->Bool) (g3_r:bF->ib) (c3_r:bF->Bool) (g3_3:bF->jj) (a0:Int) (a1:Int) (a2:aF):OT kJ.Y:=
 let z0:ab:= {w0:=0,w1:=0,w2:=0,w3:=0}
 let z1:cK:=(z0,z0,false)
 let z2:dm:=((a0,a1,(),(),(0:Int),()),((0:UInt64),(0:UInt64),(0:UInt64),(0:UInt64),(0:UInt64),(0:UInt64),(0:UInt64),(0:UInt64),false,()),a2,())
 let z3:jk:=g1_1 z2
 let z4:=z3.snd
 let z5:=z4.fst
 let z6:=z5.snd
 let z7:=z6.snd
 let z8:=z7.snd
 let z9:=z8.snd
 let z10:=z9.snd
 let z11:=z10.snd
 let z12:=z11.snd
 let z13:bF:=((z3.fst.fst,(),(),(0:Int),()),(z5.fst,z6.fst,z7.fst,z8.fst,z9.fst,z10.fst,z11.fst,z12.fst,z12.snd.fst,()),z4.snd.fst,())
 let z14:ib:=g3_r z13
 let z15:=z14.snd.fst
 let z16:=z15.snd
 let z17:=z16.snd
 let z18:=z17.snd
 let z19:=z18.snd
 let z20:=z19.snd
 let z21:=z20.snd
 let z22:=z21.snd
 (.br (ac a0)
 (.br (decide (a1<(0:Int)))
  (.ok ⟨iP,((z1,(60:Int),()),())⟩)
  (.br (decide ((2147483647:Int)<a1))
   (.ok ⟨iP,((z1,(60:Int),()),())⟩)
   (gd [eJ ((a2,()),()),ok1 z2,ok3 z13] (.br (c3_r z13)
    (.ok ⟨iP,((({w0:=z15.fst,w1:=z16.fst,w2:=z17.fst,w3:=z18.fst},{w0:=z19.fst,w1:=z20.fst,w2:=z21.fst,w3:=z22.fst},z22.snd.fst),z14.fst.snd.fst,()),())⟩)
    (.ok ⟨iP,((z1,(90:Int),()),())⟩)))))
 (.ok ⟨iP,((z1,(40:Int),()),())⟩))
theorem Vd (ok1:dm->Bool) (g1_1:dm->jk) (ok3:bF->Bool) (g3_r:bF->ib) (c3_r:bF->Bool) (g3_3:bF->jj) (h1:bh vn ok1 (Nz g1_1)) (h3:bh vm ok3 (Du g3_r c3_r g3_3)) (pre:Be->Bool) (F:Be->OT kJ.Y) (hF:∀ (x:Be) oy,pre x=true->(F x).run=some oy->(Ve ok1 g1_1 ok3 g3_r c3_r g3_3 x.1.1 x.1.2.1 x.1.2.2.1).run=some oy):aa aj 89 (kJ.az pre F):=
 di CK 89 Tryz.f89 kJ [iP] (lg CK 3 alh [(3,ny)] (some gG) none vm bD h3 (lg CK 1 ali [(1,nz)] none none vn bD h1 bD)) (λx=>Ve ok1 g1_1 ok3 g3_r c3_r g3_3 x.1.1 x.1.2.1 x.1.2.2.1) hF
def ar0:aF:= [115,105,103,105,108,45,103,101,110,101,114,97,116,111,114,115]
def aBk (b:aF) (i:Int):aF:=upto (λk l=>l++ [i2b (aGr i (8*(k:Int)))]) b 4
def aEW (c:Int) (b:aF) (k:Nat):Pt×Int:=Tt c (zH (ofN ((aCE c (SY ar0 64 (b++ [i2b (k:Int)]))).nat%(bB c.toNat).1.nat)))
def aEV (d:Pt×Int):Bool:=cond (d.2==(0:Int)) (!d.1.2.2) false
def avT (c:Int) (b:aF):Nat->Nat->Option Pt
 |0,_=>none
 |n+1,k=>cond (aEV (aEW c b k)) (some (aEW c b k).1) (avT c b n (k+1))
def aHx (o:Option Pt):Pt×Int:=match o with
 |some p=>(p,0)
 |none=>(fe,90)
def Mo (c i:Int) (b:aF):Pt×Int:=cond (ac c) (cond (decide (i<0)) (fe,60) (cond (decide (2147483647<i)) (fe,60) (aHx (avT c (aBk b i) 256 0)))) (fe,40)
theorem KW (b:aF) (i:Int):(aBk b i).length=b.length+4:=by
 simp only [aBk,upto,bL,List.length_cons,List.length_nil]
abbrev aFq:Type:=kk
def aF7 (p:Pt):aFq:=(p.1.w0,p.1.w1,p.1.w2,p.1.w3,p.2.1.w0,p.2.1.w1,p.2.1.w2,p.2.1.w3,p.2.2,())
def IL (s:dm):Bool:=decide (s.1.2.2.2.2.1=0/\s.2.2.1.length<=140737488351232)
def Dt (s:dm):jk:=((s.1.1,(),(),()),s.2.1,aBk s.2.2.1 s.1.2.1,())
theorem alm:bh vn IL (Nz Dt):=by
 rintro ⟨⟨c,a,⟨⟩,⟨⟩,i,⟨⟩⟩,⟨z,b,⟨⟩⟩⟩ h
 have h':=bm h
 dsimp only at h'
 obtain ⟨rfl,hl⟩:=h'
 have:=(bf (T:=vn) (λi l=>(((c,a,(),(),(i:Int),()),z,l,()):dm)) (λk l=>l++ [i2b (aGr a (8*(k:Int)))])
  (λl=>(⟨(.exit 1,nz),((c,(),(),()),z,l,())⟩:aZ)) 4 b (λk l=>l.length=b.length+k) rfl (λi l hi hl'=>⟨?_,by simp [hl'];omega⟩) (λl hl'=> ?_)).1
 ·obtain ⟨m,hm⟩:=this
  exact ⟨m,_,hm,rfl⟩
 ·refine (OT.ak (ag (by dsimp only;omega))).trans ((ae ?_).trans rfl)
  simp only [hl',aA,aI,aJ,aw]
  exact ⟨aS (by omega),ag (by omega),ag (by omega),aS (by omega)⟩
 ·exact OT.au (bq (by dsimp only;omega))
def IK (s:bF):Bool:=ac s.1.1&&decide (s.1.2.2.2.1=0/\0<s.2.2.1.length/\s.2.2.1.length<=140737488355000)
def vl (s:bF):ib:=(((),(aHx (avT s.1.1 s.2.2.1 256 0)).2,()),aF7 (aHx (avT s.1.1 s.2.2.1 256 0)).1,())
def Bc (s:bF):Bool:=(avT s.1.1 s.2.2.1 256 0).isSome
def Ds (s:bF):jj:=(((),()),s.2.1,())
def aHR (z:aFq) (o:Option Pt):aZ:=match o with
 |some p=>⟨(.ret,gG),((((),(0:Int),()),aF7 p,()):ib)⟩
 |none=>⟨(.exit 3,ny),((((),()),z,()):jj)⟩
theorem agk {c:Int} {b:List UInt8} {z:aFq} (hs:ac c=true) (h0:0<b.length) (hl:b.length<=140737488355000):∀ (n k:Nat),n+k=256->∃ m,cW vm m ((c,(),(),(k:Int),()),z,b,())=some (aHR z (avT c b n k))
 |0,k,hk=>⟨1,aV (OT.au (bq (by dsimp only;omega)))⟩
 |n+1,k,hk=>by
  have ih:=agk (z:=z) hs h0 hl n (k+1) (by omega)
  obtain ⟨m,hm⟩:=ih
  have hpre:∀ {α:Type} {x:OT α} {o:Option α},x.run=o->(gd [decide (0<b.length),decide ((b.length+1)*1<=140737488355328)&&decide (0<1),Ci ((ar0,64,b++ [i2b (k:Int)],()),())] x).run=o:=λhx=>by
   refine (ae ?_).trans hx
   simp only [aA,aI,aJ,aw]
   exact ⟨ag h0,⟨ag (by omega),rfl⟩,ag (by simp only [bL,List.length_cons,List.length_nil];omega)⟩
  have hgo:(gd [inR ((k:Int)+1)] (.ok (.inl ((c,(),(),(k:Int)+1,()),z,b,())):OT (Sum bF aZ))).run=some (.inl ((c,(),(),((k+1:Nat):Int),()),z,b,())):=
   (ae (by simp only [aA,aI,aJ];exact aS (by omega))).trans rfl
  have h1:decide ((k:Int)<256)=true:=ag (by omega)
  unfold avT
  rcases (b9 ((aEW c b k).2==(0:Int))).symm with hd|hd
  ·have e:aEV (aEW c b k)=false:=by unfold aEV;rw [hd];rfl
   rw [e]
   exact ⟨m+1,bN ((OT.ak h1).trans (hpre ((OT.ak hs).trans ((OT.ak hs).trans ((OT.au hd).trans hgo))))) hm⟩
  ·rcases (b9 (!(aEW c b k).1.2.2)).symm with hq|hq
   ·have e:aEV (aEW c b k)=false:=by unfold aEV;rw [hd];exact hq
    rw [e]
    exact ⟨m+1,bN ((OT.ak h1).trans (hpre ((OT.ak hs).trans ((OT.ak hs).trans ((OT.ak hd).trans ((OT.au hq).trans hgo)))))) hm⟩
   ·have e:aEV (aEW c b k)=true:=by unfold aEV;rw [hd];exact hq
    rw [e]
    exact ⟨1,aV ((OT.ak h1).trans (hpre ((OT.ak hs).trans ((OT.ak hs).trans ((OT.ak hd).trans ((OT.ak hq).trans rfl))))))⟩
theorem alk:bh vm IK (Du vl Bc Ds):=by
 rintro ⟨⟨c,⟨⟩,⟨⟩,i,⟨⟩⟩,⟨z,b,⟨⟩⟩⟩ h
 obtain ⟨hs,h⟩:=(aw _ _).mp h
 have h':=bm h
 dsimp only at h' hs
 obtain ⟨rfl,h0,hl⟩:=h'
 obtain ⟨m,hm⟩:=agk (z:=z) hs h0 hl 256 0 rfl
 refine ⟨m,_,hm,?_⟩
 unfold Du vl Bc Ds
 dsimp only
 cases avT c b 256 0 with
 |none=>rfl
 |some p=>rfl
def yo (x:Be):Bool:=decide (x.1.2.2.1.length<=140737488351232)
def Vf (x:Be):OT kJ.Y:=.ok ⟨iP,(((Mo x.1.1 x.1.2.1 x.1.2.2.1).1,(Mo x.1.1 x.1.2.1 x.1.2.2.1).2,()),())⟩
theorem alj:aa aj 89 (kJ.az yo Vf):=Vd IL Dt IK vl Bc Ds alm alk _ _ λx oy hp ho=>by
 rw [<-ho]
 clear ho
 obtain ⟨⟨c,i,b,⟨⟩⟩,⟨⟩⟩:=x
 have hl:b.length<=140737488351232:=bm hp
 show _=some (⟨iP,(((Mo c i b).1,(Mo c i b).2,()),())⟩:kJ.Y)
 rcases (b9 (ac c)).symm with hs|hs
 ·rw [show Mo c i b=(fe,40) from by unfold Mo;rw [hs];rfl]
  exact OT.au hs
 refine (OT.ak hs).trans ?_
 rcases (b9 (decide (i<0))).symm with h1|h1
 ·refine (OT.au h1).trans ?_
  rcases (b9 (decide (2147483647<i))).symm with h2|h2
  ·rw [show Mo c i b=aHx (avT c (aBk b i) 256 0) from by unfold Mo;rw [hs,h1,h2];rfl]
   refine (OT.au h2).trans ((ae ?_).trans ?_)
   ·simp only [aA,aI,aJ,aw]
    refine ⟨ag (show b.length<=_ by omega),ag ⟨rfl,hl⟩,(aw _ _).mpr ⟨hs,ag ⟨rfl,?_,?_⟩⟩⟩
    ·show 0<(aBk b i).length
     rw [KW];omega
    ·show (aBk b i).length<=_
     rw [KW];omega
   ·unfold Bc vl Dt
    dsimp only
    generalize avT c (aBk b i) 256 0=o
    cases o with
    |none=>rfl
    |some p=>rfl
  ·rw [show Mo c i b=(fe,60) from by unfold Mo;rw [hs,h1,h2];rfl]
   exact OT.ak h2
 ·rw [show Mo c i b=(fe,60) from by unfold Mo;rw [hs,h1];rfl]
  exact OT.ak h1
def sM:bt:=(kJ.az yo Vf)
theorem QJ:aa aj 89 sM:=alj
theorem QI:ax sM:=av
def Zb:Env:=aq 89 sM avb
theorem Mc:bV aj te Zb:=aU follows CK QJ QI
def aF8:CSh:=.cells [.val false .int,.val false .int,.val false (.list (.prod .elem (.prod .elem .bool))),.val false (.prod .elem (.prod .elem .bool)),.val false (.prod .elem (.prod .elem .bool))]
def ak8:Shape:=⟨70,[jL,(1,aC),(2,jM),jU,ER,(32,aC),(33,aC)],[(0,aF8),CC],0,true⟩
def U4:Shape:=⟨70,[jL,(1,aC),jU,ER],[(0,aF8),CC],0,true⟩
abbrev pM:Type:=(Int×Int×aF×rF)×aiL
abbrev Qz:Type:=rE×(Int×Int×cJ×cK×rC)×Unit
abbrev QA:Type:=(Int×jS)×aiL
section
variable (ok0:pM->Bool) (g0_r:pM->Qz) (c0_r:pM->Bool) (g0_0:pM->QA)
end
def anT (c:Int) (b:aF):Nat->Nat->List Pt->List Pt×Int
 |0,_,l=>(l,0)
 |n+1,i,l=>cond (!((Mo c (i:Int) b).2==(0:Int))) (l,(Mo c (i:Int) b).2) (anT c b n (i+1) (l++ [(Mo c (i:Int) b).1]))
def avO (k:Int):Nat:=(V0 1 k).toNat
theorem aDN {k:Int} (h0:¬k<0) (h5:¬5<k):V0 1 k=(avO k:Int)/\1<=avO k/\avO k<=32:=by
 have:k=0\/k=1\/k=2\/k=3\/k=4\/k=5:=by omega
 rcases this with rfl|rfl|rfl|rfl|rfl|rfl<;>decide
def aHJ (c k:Int) (r:List Pt×Int):ml×Int:=cond (!(r.2==(0:Int))) (abn,r.2) ((c,k,r.1.take (avO k),r.1.getD (avO k) fe,r.1.getD (avO k+1) fe),0)
def aaG (c k:Int) (b:aF):ml×Int:=cond (ac c) (cond (decide (k<0)) (abn,60) (cond (decide (5<k)) (abn,60) (aHJ c k (anT c b (avO k+2) 0 [])))) (abn,40)
theorem af3 {c:Int} {b:List UInt8}:∀ (n i:Nat) (l:List Pt),(!((anT c b n i l).2==(0:Int)))=false->(anT c b n i l).1.length=l.length+n
 |0,_,_,_=>rfl
 |n+1,i,l,h=>by
  unfold anT at h⊢
  cases hd: !((Mo c (i:Int) b).2==(0:Int))
  ·rw [hd,aT] at h
   rw [aT,af3 n (i+1) _ h,bL]
   simp only [List.length_cons,List.length_nil]
   omega
  ·rw [hd] at h
   exact absurd (hd.symm.trans h) (by decide)
abbrev aII:Type:=Int×Int×List Pt×Pt×Pt×Unit
def xI:af:=⟨o9,m7,false,2,true⟩
abbrev TR:Type:=ct×F1
def PS:aL:=⟨kZ,m7,false⟩
def aoE (c0_0:Int) (c0_2:aF) (c1_0:Int) (c1_1:aB):OT xI.Y:=
 let z0:mZ:=ao c1_1
 let z1:=z0.snd
 (gd [uV (((),()),(c1_0,c1_1,()),())] (.ok ⟨PS,((dv (pS c1_0) z0.fst {w0:=0,w1:=0,w2:=0,w3:=0},z1.fst,()),(c0_0,(),c0_2,()),(c1_0,z1.snd,()),())⟩))
theorem aky (pre:TR->Bool) (F:TR->OT xI.Y) (hF:∀ (x:TR) oy,pre x=true->(F x).run=some oy->(aoE x.2.1.1 x.2.1.2.2.1 x.2.2.1.1 x.2.2.1.2.1).run=some oy):aa aj 65 (xI.az pre F):=
 di Mc 65 Tryz.f65 xI [PS] bD (λx=>aoE x.2.1.1 x.2.1.2.2.1 x.2.2.1.1 x.2.2.1.2.1) hF
def rY (x:TR):Bool:=ac x.2.2.1.1&&decide (x.2.2.1.2.1.length<=140737488355328)
def aoF (x:TR):OT xI.Y:=.ok ⟨PS,((dv (pS x.2.2.1.1) (ao x.2.2.1.2.1).1 ⟨0,0,0,0⟩,(ao x.2.2.1.2.1).2.1,()),(x.2.1.1,(),x.2.1.2.2.1,()),(x.2.2.1.1,(ao x.2.2.1.2.1).2.2,()),())⟩
theorem av9:aa aj 65 (xI.az rY aoF):=aky _ _ λx oy hp ho=>by
 rw [<-ho]
 clear ho
 obtain ⟨⟨⟨⟩,⟨⟩⟩,⟨⟨c,⟨⟩,b,⟨⟩⟩,⟨s,l,⟨⟩⟩,⟨⟩⟩⟩:=x
 refine (ae ?_).trans rfl
 simp only [aA,aI,aJ]
 exact hp
def C5:bt:=(xI.az rY aoF)
theorem Z6:aa aj 65 C5:=av9
theorem Z5:ax C5:=av
def C0:bt:=(anz 0 2 D7 (C5))
theorem ZS:aa aj 65 C0:=(aia acE (Z6))
theorem ZR:ax C0:=(OS acD (Z5))
def au5:Env:=aq 65 C0 Zb
theorem Y4:bV aj te au5:=aU follows Mc ZS ZR
def pk:af:=⟨o9,m7,false,2,true⟩
abbrev HP:Type:=ct×F1
def HO:aL:=⟨jK,m7,false⟩
def aeW (c0_0:Int) (c0_2:aF) (c1_0:Int) (c1_1:aB):OT pk.Y:=
 (.ok ⟨HO,((c0_0,()),(c0_0,(),c0_2,()),(c1_0,c1_1,()),())⟩)
theorem ZZ (pre:HP->Bool) (F:HP->OT pk.Y) (hF:∀ (x:HP) oy,pre x=true->(F x).run=some oy->(aeW x.2.1.1 x.2.1.2.2.1 x.2.2.1.1 x.2.2.1.2.1).run=some oy):aa aj 59 (pk.az pre F):=
 di Y4 59 Tryz.f59 pk [HO] bD (λx=>aeW x.2.1.1 x.2.1.2.2.1 x.2.2.1.1 x.2.2.1.2.1) hF
def M5 (_:HP):Bool:=true
def aeX (x:HP):OT pk.Y:=.ok ⟨HO,((x.2.1.1,()),x.2)⟩
theorem aoA:aa aj 59 (pk.az M5 aeX):=ZZ _ _ λx oy hp ho=>by
 rw [<-ho]
 rfl
def xF:bt:=(pk.az M5 aeX)
theorem TN:aa aj 59 xF:=aoA
theorem TM:ax xF:=av
def xC:bt:=(anz 0 2 zr (xF))
theorem TJ:aa aj 59 xC:=(aia WJ (TN))
theorem TH:ax xC:=(OS WI (TM))
def ai8:Env:=aq 59 xC au5
theorem anP:bV aj te ai8:=aU follows Y4 TJ TH
abbrev Ox:af:=gS
def avU (s:Int) (b:aF):ab×Int:=cond (ac s) (cond (nh b) (cond (Nat.blt (NL b).nat (pS s)) (NL b,0) (⟨0,0,0,0⟩,21)) (⟨0,0,0,0⟩,21)) (⟨0,0,0,0⟩,20)
def FM (_:qJ):Bool:=true
def Er (x:qJ):OT gS.Y:=.ok ⟨dC,(((avU x.1.1 x.1.2.1).1,(avU x.1.1 x.1.2.1).2,()),())⟩
theorem adl:aa aj 122 (Ox.az FM Er):=cL (S:=gS) Oy λx oy hp ho=>⟨rfl,by
 rw [<-ho]
 unfold KN Er avU
 generalize NL x.1.2.1=N
 generalize ac x.1.1=a
 generalize nh x.1.2.1=b
 generalize Nat.blt N.nat (pS x.1.1)=d
 cases a<;>cases b<;>cases d<;>rfl⟩
def qI:bt:=(Ox.az FM Er)
theorem MK:aa aj 122 qI:=adl
theorem MJ:ax qI:=av
def Ps:Env:=aq 122 qI ai8
theorem F9:bV aj te Ps:=aU follows anP MK MJ
def Fc:af:=⟨[eX,aiS,.fn 115 [],aC],m7,false,2,true⟩
abbrev aoz:Type:=(Unit×UInt8×rE)×F1
def C3:aL:=⟨LY,m7,false⟩
def aeV (a1:UInt8) (a3:Int) (c0_0:Int) (c0_2:aF) (c1_0:Int) (c1_1:aB):OT Fc.Y:=
 let z0:Nat:=List.length c0_2
 let z1:Int:=(↑z0:Int)
 let z2:ab:= {w0:=0,w1:=0,w2:=0,w3:=0}
 let z3:cK:=(z2,z2,false)
 let z4:Bool:=cp (0:Int) (32:Int) z0
 let z5:Cq:=Tt a3 (List.drop 0 (List.take 32 c0_2))
 let z6:=z5.snd
 (.br (decide (z1<(32:Int)))
 (.ok ⟨C3,((z3,(82:Int),()),(c0_0,(),c0_2,()),(c1_0,c1_1,()),())⟩)
 (gd [z4] (.br (!z6==(0:Int))
  (.ok ⟨C3,((z3,z6,()),(c0_0,(),c0_2,()),(c1_0,c1_1,()),())⟩)
  (gd [z4,cp (32:Int) z1 z0] (.ok ⟨C3,((z5.fst,(0:Int),()),(c0_0,(),List.drop 32 c0_2,()),(c1_0,c1_1,()),())⟩)))))
theorem aoy (pre:aoz->Bool) (F:aoz->OT Fc.Y) (hF:∀ (x:aoz) oy,pre x=true->(F x).run=some oy->(aeV x.1.2.1 x.1.2.2.2.1 x.2.1.1 x.2.1.2.2.1 x.2.2.1.1 x.2.2.1.2.1).run=some oy):aa aj 114 (Fc.az pre F):=
 di F9 114 Tryz.f114 Fc [C3] bD (λx=>aeV x.1.2.1 x.1.2.2.2.1 x.2.1.1 x.2.1.2.2.1 x.2.2.1.1 x.2.2.1.2.1) hF
def dB (s:Int) (b:aF):(Pt×Int)×List UInt8:=cond (decide ((b.length:Int)<32)) ((fe,82),b) (cond (!((Tt s (b.take 32)).2==(0:Int))) ((fe,(Tt s (b.take 32)).2),b) (((Tt s (b.take 32)).1,0),b.drop 32))
def aeU (_:aoz):Bool:=true
def aAq (x:aoz):OT Fc.Y:=.ok ⟨C3,(((dB x.1.2.2.2.1 x.2.1.2.2.1).1.1,(dB x.1.2.2.2.1 x.2.1.2.2.1).1.2,()),(x.2.1.1,(),(dB x.1.2.2.2.1 x.2.1.2.2.1).2,()),(x.2.2.1.1,x.2.2.1.2.1,()),())⟩
theorem aCR:aa aj 114 (Fc.az aeU aAq):=aoy _ _ λx oy hp ho=>by
 rw [<-ho]
 clear ho
 obtain ⟨⟨⟨⟩,m,⟨⟩,s,⟨⟩⟩,⟨⟨c,⟨⟩,b,⟨⟩⟩,⟨q,l,⟨⟩⟩,⟨⟩⟩⟩:=x
 show (aeV m s c b q l).run=some (⟨C3,(((dB s b).1.1,(dB s b).1.2,()),(c,(),(dB s b).2,()),(q,l,()),())⟩:Fc.Y)
 unfold aeV dB
 dsimp only
 rw [List.drop_zero]
 generalize Tt s (b.take 32)=d
 by_cases h1:(b.length:Int)<32
 ·rw [ag h1]
  exact OT.ak rfl
 ·rw [bq h1]
  have b1:cp 0 32 b.length=true:=cI (by omega)
  have b2:cp 32 (b.length:Int) b.length=true:=cI (by omega)
  rw [b1,b2]
  refine (OT.au rfl).trans ((ae rfl).trans ?_)
  rcases (b9 (!(d.2==(0:Int)))).symm with h2|h2
  ·rw [h2]
   exact (OT.au rfl).trans ((ae rfl).trans rfl)
  ·rw [h2]
   exact (OT.ak rfl).trans rfl
def HN:bt:=(Fc.az aeU aAq)
theorem akw:aa aj 114 HN:=aCR
theorem akv:ax HN:=av
def HF:bt:=(HN)
theorem akj:aa aj 114 HF:=(akw)
theorem aki:ax HF:=(akv)
def aB6:Env:=aq 114 HF Ps
theorem ai7:bV aj te aB6:=aU follows F9 akj aki
def Fb:af:=⟨[eX,aiS,.fn 122 [],aC],m7,false,2,true⟩
abbrev aox:Type:=(Unit×UInt8×rE)×F1
def C2:aL:=⟨kZ,m7,false⟩
def aeT (a1:UInt8) (a3:Int) (c0_0:Int) (c0_2:aF) (c1_0:Int) (c1_1:aB):OT Fb.Y:=
 let z0:Nat:=List.length c0_2
 let z1:Int:=(↑z0:Int)
 let z2:ab:= {w0:=0,w1:=0,w2:=0,w3:=0}
 let z3:Bool:=cp (0:Int) (32:Int) z0
 let z4:ab×Int:=avU a3 (List.drop 0 (List.take 32 c0_2))
 let z5:=z4.snd
 (.br (decide (z1<(32:Int)))
 (.ok ⟨C2,((z2,(82:Int),()),(c0_0,(),c0_2,()),(c1_0,c1_1,()),())⟩)
 (gd [z3] (.br (!z5==(0:Int))
  (.ok ⟨C2,((z2,z5,()),(c0_0,(),c0_2,()),(c1_0,c1_1,()),())⟩)
  (gd [z3,cp (32:Int) z1 z0] (.ok ⟨C2,((z4.fst,(0:Int),()),(c0_0,(),List.drop 32 c0_2,()),(c1_0,c1_1,()),())⟩)))))
theorem aow (pre:aox->Bool) (F:aox->OT Fb.Y) (hF:∀ (x:aox) oy,pre x=true->(F x).run=some oy->(aeT x.1.2.1 x.1.2.2.2.1 x.2.1.1 x.2.1.2.2.1 x.2.2.1.1 x.2.2.1.2.1).run=some oy):aa aj 121 (Fb.az pre F):=
 di ai7 121 Tryz.f121 Fb [C2] bD (λx=>aeT x.1.2.1 x.1.2.2.2.1 x.2.1.1 x.2.1.2.2.1 x.2.2.1.1 x.2.2.1.2.1) hF
def dR (s:Int) (b:aF):(ab×Int)×aF:=cond (decide ((b.length:Int)<32)) ((⟨0,0,0,0⟩,82),b) (cond (!((avU s (b.take 32)).2==(0:Int))) ((⟨0,0,0,0⟩,(avU s (b.take 32)).2),b) (((avU s (b.take 32)).1,0),b.drop 32))
def aeS (_:aox):Bool:=true
def aAp (x:aox):OT Fb.Y:=.ok ⟨C2,(((dR x.1.2.2.2.1 x.2.1.2.2.1).1.1,(dR x.1.2.2.2.1 x.2.1.2.2.1).1.2,()),(x.2.1.1,(),(dR x.1.2.2.2.1 x.2.1.2.2.1).2,()),(x.2.2.1.1,x.2.2.1.2.1,()),())⟩
theorem aCQ:aa aj 121 (Fb.az aeS aAp):=aow _ _ λx oy hp ho=>by
 rw [<-ho]
 clear ho
 obtain ⟨⟨⟨⟩,m,⟨⟩,s,⟨⟩⟩,⟨⟨c,⟨⟩,b,⟨⟩⟩,⟨q,l,⟨⟩⟩,⟨⟩⟩⟩:=x
 show (aeT m s c b q l).run=some (⟨C2,(((dR s b).1.1,(dR s b).1.2,()),(c,(),(dR s b).2,()),(q,l,()),())⟩:Fb.Y)
 unfold aeT dR
 dsimp only
 rw [List.drop_zero]
 generalize avU s (b.take 32)=d
 by_cases h1:(b.length:Int)<32
 ·rw [ag h1]
  exact OT.ak rfl
 ·rw [bq h1]
  have b1:cp 0 32 b.length=true:=cI (by omega)
  have b2:cp 32 (b.length:Int) b.length=true:=cI (by omega)
  rw [b1,b2]
  refine (OT.au rfl).trans ((ae rfl).trans ?_)
  rcases (b9 (!(d.2==(0:Int)))).symm with h2|h2
  ·rw [h2]
   exact (OT.au rfl).trans ((ae rfl).trans rfl)
  ·rw [h2]
   exact (OT.ak rfl).trans rfl
def HM:bt:=(Fb.az aeS aAp)
theorem aku:aa aj 121 HM:=aCQ
theorem akt:ax HM:=av
def HE:bt:=(HM)
theorem akh:aa aj 121 HE:=(aku)
theorem akg:ax HE:=(akt)
def aB5:Env:=aq 121 HE aB6
theorem ai6:bV aj te aB5:=aU follows ai7 akh akg
def HK:af:=⟨o9,m7,false,2,true⟩
abbrev aot:Type:=ct×F1
def ZU:aL:=⟨LY,m7,false⟩
def aAn (c0_0:Int) (c0_2:aF) (c1_0:Int) (c1_1:aB):OT HK.Y:=
 let z0:Cq×aF:=dB c0_0 c0_2
 let z1:=z0.fst
 (.ok ⟨ZU,((z1.fst,z1.snd,()),(c0_0,(),z0.snd,()),(c1_0,c1_1,()),())⟩)
theorem aos (pre:aot->Bool) (F:aot->OT HK.Y) (hF:∀ (x:aot) oy,pre x=true->(F x).run=some oy->(aAn x.2.1.1 x.2.1.2.2.1 x.2.2.1.1 x.2.2.1.2.1).run=some oy):aa aj 63 (HK.az pre F):=
 di ai6 63 Tryz.f63 HK [ZU] bD (λx=>aAn x.2.1.1 x.2.1.2.2.1 x.2.2.1.1 x.2.2.1.2.1) hF
def aeQ (_:aot):Bool:=true
def aAo (x:aot):OT HK.Y:=.ok ⟨ZU,(((dB x.2.1.1 x.2.1.2.2.1).1.1,(dB x.2.1.1 x.2.1.2.2.1).1.2,()),(x.2.1.1,(),(dB x.2.1.1 x.2.1.2.2.1).2,()),(x.2.2.1.1,x.2.2.1.2.1,()),())⟩
theorem aCO:aa aj 63 (HK.az aeQ aAo):=aos _ _ λx oy hp ho=>by
 rw [<-ho]
 rfl
def HJ:bt:=(HK.az aeQ aAo)
theorem ako:aa aj 63 HJ:=aCO
theorem akn:ax HJ:=av
def HD:bt:=(HJ)
theorem akf:aa aj 63 HD:=(ako)
theorem ake:ax HD:=(akn)
def aB4:Env:=aq 63 HD aB5
theorem ai5:bV aj te aB4:=aU follows ai6 akf ake
def HI:af:=⟨o9,m7,false,2,true⟩
abbrev aor:Type:=ct×F1
def ZT:aL:=⟨kZ,m7,false⟩
def aAl (c0_0:Int) (c0_2:aF) (c1_0:Int) (c1_1:aB):OT HI.Y:=
 let z0:(ab×Int)×aF:=dR (ay c0_0 (1:Int)) c0_2
 let z1:=z0.fst
 (.ok ⟨ZT,((z1.fst,z1.snd,()),(c0_0,(),z0.snd,()),(c1_0,c1_1,()),())⟩)
theorem aoq (pre:aor->Bool) (F:aor->OT HI.Y) (hF:∀ (x:aor) oy,pre x=true->(F x).run=some oy->(aAl x.2.1.1 x.2.1.2.2.1 x.2.2.1.1 x.2.2.1.2.1).run=some oy):aa aj 71 (HI.az pre F):=
 di ai5 71 Tryz.f71 HI [ZT] bD (λx=>aAl x.2.1.1 x.2.1.2.2.1 x.2.2.1.1 x.2.2.1.2.1) hF
def aeP (_:aor):Bool:=true
def aAm (x:aor):OT HI.Y:=.ok ⟨ZT,(((dR (ay x.2.1.1 1) x.2.1.2.2.1).1.1,(dR (ay x.2.1.1 1) x.2.1.2.2.1).1.2,()),(x.2.1.1,(),(dR (ay x.2.1.1 1) x.2.1.2.2.1).2,()),(x.2.2.1.1,x.2.2.1.2.1,()),())⟩
theorem aCN:aa aj 71 (HI.az aeP aAm):=aoq _ _ λx oy hp ho=>by
 rw [<-ho]
 rfl
def HH:bt:=(HI.az aeP aAm)
theorem akm:aa aj 71 HH:=aCN
theorem akl:ax HH:=av
def HC:bt:=(HH)
theorem akd:aa aj 71 HC:=(akm)
theorem akc:ax HC:=(akl)
def aB3:Env:=aq 71 HC aB4
theorem ai4:bV aj te aB3:=aU follows ai5 akd akc
def xE:af:=⟨o9,m7,false,2,true⟩
abbrev TL:Type:=ct×F1
def PQ:aL:=⟨jK,m7,false⟩
def aou (c0_0:Int) (c0_2:aF) (c1_0:Int) (c1_1:aB):OT xE.Y:=
 (.ok ⟨PQ,(((↑(List.length c0_2):Int),()),(c0_0,(),c0_2,()),(c1_0,c1_1,()),())⟩)
theorem akp (pre:TL->Bool) (F:TL->OT xE.Y) (hF:∀ (x:TL) oy,pre x=true->(F x).run=some oy->(aou x.2.1.1 x.2.1.2.2.1 x.2.2.1.1 x.2.2.1.2.1).run=some oy):aa aj 24 (xE.az pre F):=
 di ai4 24 Tryz.f24 xE [PQ] bD (λx=>aou x.2.1.1 x.2.1.2.2.1 x.2.2.1.1 x.2.2.1.2.1) hF
def TK (_:TL):Bool:=true
def aov (x:TL):OT xE.Y:=.ok ⟨PQ,(((x.2.1.2.2.1.length:Int),()),x.2)⟩
theorem av7:aa aj 24 (xE.az TK aov):=akp _ _ λx oy hp ho=>by
 rw [<-ho]
 rfl
def C1:bt:=(xE.az TK aov)
theorem ZW:aa aj 24 C1:=av7
theorem ZV:ax C1:=av
def CZ:bt:=(C1)
theorem ZQ:aa aj 24 CZ:=(ZW)
theorem ZP:ax CZ:=(ZV)
def au4:Env:=aq 24 CZ aB3
theorem CI:bV aj te au4:=aU follows ai4 ZQ ZP
def px:af:=⟨[aC,YW,jM],[],true,0,false⟩
abbrev HV:Type:=(Int×xn×dl)×Unit
def Gz:aL:=⟨F4,auZ,false⟩
def P4:aL:=⟨F4,aBT,false⟩
def Gy:aL:=⟨[.rT,aC],[],false⟩
def ae2:aL:=⟨F4,[(0,.cells [aC,.fH,kl]),nX],false⟩
def aae (a0:Int) (a1:xn) (a2:aF):OT px.Y:=
 let z0:Int:=cn a0 a1.fst (List.length a1.snd)
 let z1:Bool:=eJ ((a2,()),())
 let z2:Int:=ay a0 (1:Int)
 (.br (z0==(0:Int))
 (.br (a1.fst==(1:Int))
  (gd [z1] (.ok ⟨Gz,(((),(0:Int),()),(a0,(),(),()),(z2,(),()),a2,a1.snd,())⟩))
  (gd [z1] (.ok ⟨P4,(((),(0:Int),()),(a0,(),(),()),(z2,(),()),a2,((64:Int),(7640891576939301192:UInt64),(13503953896175478587:UInt64),(4354685564936845355:UInt64),(11912009170470909681:UInt64),(5840696475078001361:UInt64),(11170449401992604703:UInt64),(7924071207369364504:UInt64),(3427420097777323800:UInt64),(),(0:UInt64),()),[],())⟩)))
 (.br (!z0==(0:Int))
  (.ok ⟨Gy,(((),z0,()),())⟩)
  (gd [z1] (.ok ⟨ae2,(((),(0:Int),()),(a0,(),(),()),a2,())⟩))))
theorem akF (pre:HV->Bool) (F:HV->OT px.Y) (hF:∀ (x:HV) oy,pre x=true->(F x).run=some oy->(aae x.1.1 x.1.2.1 x.1.2.2.1).run=some oy):aa aj 15 (px.az pre F):=
 di CI 15 Tryz.f15 px [Gz,P4,Gy,ae2] bD (λx=>aae x.1.1 x.1.2.1 x.1.2.2.1) hF
def aoP (x:HV):Bool:=decide (x.1.2.2.1.length<=140737488355328)
def aaf (x:HV):OT px.Y:=.br (cn x.1.1 x.1.2.1.1 x.1.2.1.2.length==0)
 (.br (x.1.2.1.1==1) (.ok ⟨Gz,(((),(0:Int),()),(x.1.1,(),(),()),(ay x.1.1 1,(),()),x.1.2.2.1,x.1.2.1.2,())⟩)
  (.ok ⟨P4,(((),(0:Int),()),(x.1.1,(),(),()),(ay x.1.1 1,(),()),x.1.2.2.1,Qa,[],())⟩))
 (.ok ⟨Gy,(((),cn x.1.1 x.1.2.1.1 x.1.2.1.2.length,()),())⟩)
theorem awd:aa aj 15 (px.az aoP aaf):=akF _ _ λx oy hp ho=>by
 rw [<-ho]
 clear ho
 obtain ⟨⟨c,⟨mode,l⟩,b,⟨⟩⟩,⟨⟩⟩:=x
 have hb:eJ ((b,()),())=true:=hp
 unfold aae aaf
 dsimp only
 rw [hb]
 by_cases he:(cn c mode l.length==0)=true
 ·refine (OT.ak he).trans (Eq.trans ?_ (OT.ak he).symm)
  by_cases hm:(mode==1)=true
  ·exact (OT.ak hm).trans ((ae rfl).trans (OT.ak hm).symm)
  ·have hm:=Bool.eq_false_iff.2 hm
   exact (OT.au hm).trans ((ae rfl).trans (OT.au hm).symm)
 ·have he:=Bool.eq_false_iff.2 he
  exact (OT.au he).trans ((OT.ak (by show (!(cn c mode l.length==0))=true;rw [he];rfl)).trans (OT.au he).symm)
def kE:af:=⟨[aC,aC,jM],[],false,0,false⟩
def hJ:aL:=⟨[.mix (.prod .int .int) 0 (.prod CG CG),aC],[(0,.row CG)],false⟩
def aa5:SV->Option aL:=λ_=>some hJ
def aHT:CSh:=.cells [.val false .int,.val false .int,.own 1,.val false (.prod .elem (.prod .elem .bool)),.val false (.prod .elem (.prod .elem .bool))]
def ak4:Shape:=ak8
def kD:Shape:=⟨70,[jU,xp],[(0,aHT),CC],0,true⟩
def nv:Shape:=U4
abbrev A8:Type:=(Int×Int×dl)×Unit
abbrev bW:Type:=(Int×Int×aF×rF)×aiL
abbrev hZ:Type:=rE×(Int×Int×Unit×cK×rC)×LQ
abbrev jh:Type:=(Int×jS)×aiL
def ak7 (a0:Int) (a1:Int) (a2:aF) (a32:Int) (a33:Int) (c0_0:Int) (c0_1:Int) (c0_2:cJ) (c0_3:cK) (c0_4:cK) (c1:cJ):OT (Sum bW aZ):=
 let z0:Cq:=Mo a0 a33 a2
 let z1:=z0.snd
 let z2:ab:= {w0:=0,w1:=0,w2:=0,w3:=0}
 let z3:cK:=(z2,z2,false)
 (.br (decide (a33<a32))
 (gd [yo ((a0,a33,a2,()),())] (.br (!z1==(0:Int))
  (.ok (.inr ⟨(.ret,kD),(((),z1,()),((0:Int),(0:Int),(),z3,z3,()),[],())⟩))
  (gd [decide ((List.length c1+1)*72<=140737488355328),inR (a33+(1:Int))] (.ok (.inl ((a0,a1,a2,(),(),a32,a33+(1:Int),()),(c0_0,c0_1,c0_2,c0_3,c0_4,()),c1++ [z0.fst],()))))))
 (.ok (.inr ⟨(.exit 0,nv),((a0,a1,(),(),()),(c0_0,c0_1,c0_2,c0_3,c0_4,()),c1,())⟩)))
def ou (s:bW):OT (Sum bW aZ):=ak7 s.1.1 s.1.2.1 s.1.2.2.1 s.1.2.2.2.2.2.1 s.1.2.2.2.2.2.2.1 s.2.1.1 s.2.1.2.1 s.2.1.2.2.1 s.2.1.2.2.2.1 s.2.1.2.2.2.2.1 s.2.2.1
def Dm (g0_r:bW->hZ) (c0_r:bW->Bool) (g0_0:bW->jh) (s:bW):OT aZ:=(.br (c0_r s) (.ok ⟨(.ret,kD),g0_r s⟩) (.ok ⟨(.exit 0,nv),g0_0 s⟩))
section
variable (ok0:bW->Bool) (g0_r:bW->hZ) (c0_r:bW->Bool) (g0_0:bW->jh)
def U2 (a0:Int) (a1:Int) (a2:aF):OT kE.Y:=
 let z0:Int×Int:=((0:Int),(0:Int))
 let z1:ab:= {w0:=0,w1:=0,w2:=0,w3:=0}
 let z2:cK:=(z1,z1,false)
 let z3:cK×cK:=(z2,z2)
 let z4:bW:=((a0,a1,a2,(),(),V0 (1:Int) a1+(2:Int),(0:Int),()),((0:Int),(0:Int),[],z2,z2,()),[],())
 let z5:hZ:=g0_r z4
 let z6:=z5.snd
 let z7:=z6.fst
 let z8:=z7.snd
 let z9:=z8.snd.snd
 let z10:jh:=g0_0 z4
 let z11:=z10.fst
 let z12:=z11.snd.fst
 let z13:Int:=V0 (1:Int) z12
 let z14:Bool:=decide (z13=(0:Int))
 let z15:=z10.snd.snd.fst
 let z16:Nat:=List.length z15
 let z17:Bool:=inB z13 z16
 let z18:Nat:=Int.toNat z13
 let z19:Bool:=decide (z18<z16)
 let z20:Bool:=inR (z13+(1:Int))
 let z21:Bool:=inB (z13+(1:Int)) z16
 let z22:Nat:=Int.toNat (z13+(1:Int))
 let z23:Bool:=decide (z22<z16)
 let z24:Int×Int:=(z11.fst,z12)
 let z25:cK×cK:=(List.getD z15 z18 z2,List.getD z15 z22 z2)
 let z26:Int:=(↑z16:Int)
 let z27:Bool:=decide (z13=z26)
 (.br (ac a0)
 (.br (decide (a1<(0:Int)))
  (.ok ⟨hJ,(((z0,(),z3),(60:Int),()),[],())⟩)
  (.br (decide ((5:Int)<a1))
   (.ok ⟨hJ,(((z0,(),z3),(60:Int),()),[],())⟩)
   (gd [decide ((0:Int)<=a1),inR (V0 (1:Int) a1+(2:Int)),ok0 z4] (.br (c0_r z4)
    (.ok ⟨hJ,((((z7.fst,z8.fst),(),z9.fst,z9.snd.fst),z5.fst.snd.fst,()),z6.snd.fst,())⟩)
    (gd [decide ((0:Int)<=z12)] (.br (z14&&z14)
     (gd [z17,z19,z20,z21,z23] (.ok ⟨hJ,(((z24,(),z25),(0:Int),()),[],())⟩))
     (.br (z27&&z27)
      (gd [z17,z19,z20,z21,z23] .fail)
      (gd [decide ((0:Int)<=z13)&&decide (z13<=z13)&&decide (z13<=z26),z17,z19,z20,z21,z23,Nat.ble z18 z16] (.ok ⟨hJ,(((z24,(),z25),(0:Int),()),List.take z18 z15,())⟩)))))))))
 (.ok ⟨hJ,(((z0,(),z3),(40:Int),()),[],())⟩))
theorem U1 (h0:bh ou ok0 (Dm g0_r c0_r g0_0)) (pre:A8->Bool) (F:A8->OT kE.Y) (hF:∀ (x:A8) oy,pre x=true->(F x).run=some oy->(U2 ok0 g0_r c0_r g0_0 x.1.1 x.1.2.1 x.1.2.2.1).run=some oy):aa aj 33 (kE.az pre F):=
 aIR CI 33 Tryz.f33 kE aa5 (lg CI 0 ak4 [(0,nv)] (some kD) none ou bD h0 bD) (λx=>U2 ok0 g0_r c0_r g0_0 x.1.1 x.1.2.1 x.1.2.2.1) hF
end
def IE (s:bW):Bool:=decide (s.1.2.2.2.2.2.2.1=0/\0<=s.1.2.2.2.2.2.1/\s.1.2.2.2.2.2.1<=34/\s.2.2.1= []/\s.1.2.2.1.length<=140737488351232)
def sH (s:bW):List Pt×Int:=anT s.1.1 s.1.2.2.1 s.1.2.2.2.2.2.1.toNat 0 []
def vh (s:bW):hZ:=(((),(sH s).2,()),(0,0,(),fe,fe,()),[],())
def A7 (s:bW):Bool:= !((sH s).2==(0:Int))
def vi (s:bW):jh:=((s.1.1,s.1.2.1,(),(),()),s.2.1,(sH s).1,())
def aDt (c k:Int) (p:aII) (r:List Pt×Int):aZ:=cond (!(r.2==(0:Int))) ⟨(.ret,kD),((((),r.2,()),(0,0,(),fe,fe,()),[],()):hZ)⟩ ⟨(.exit 0,nv),(((c,k,(),(),()),p,r.1,()):jh)⟩
theorem af1 {c k:Int} {b:List UInt8} {p:aII} {N:Nat} (hN:N<=34) (hl:b.length<=140737488351232):∀ (n i:Nat) (l:List Pt),i+n=N->l.length=i->∃ m,cW ou m ((c,k,b,(),(),(N:Int),(i:Int),()),p,l,())=some (aDt c k p (anT c b n i l))
 |0,i,l,hi,_=>⟨1,aV (OT.au (bq (by dsimp only;omega)))⟩
 |n+1,i,l,hi,hk=>by
  have hstep:(ou ((c,k,b,(),(),(N:Int),(i:Int),()),p,l,())).run=(OT.br (!((Mo c (i:Int) b).2==(0:Int))) (.ok (.inr ⟨(.ret,kD),((((),(Mo c (i:Int) b).2,()),(0,0,(),fe,fe,()),[],()):hZ)⟩))
   (gd [decide ((l.length+1)*72<=140737488355328),inR ((i:Int)+1)] (.ok (.inl ((c,k,b,(),(),(N:Int),(i:Int)+1,()),p,l++ [(Mo c (i:Int) b).1],())))):OT (Sum bW aZ)).run:=
   (OT.ak (ag (by dsimp only;omega))).trans ((ae (by simp only [aA,aI,aJ];exact ag hl)).trans rfl)
  unfold anT
  cases hd: !((Mo c (i:Int) b).2==(0:Int))
  ·obtain ⟨m,hm⟩:=af1 (c:=c) (k:=k) (p:=p) hN hl n (i+1) (l++ [(Mo c (i:Int) b).1]) (by omega) (by rw [bL];simp only [List.length_cons,List.length_nil];omega)
   refine ⟨m+1,bN (hstep.trans ((OT.au hd).trans ((ae ?_).trans rfl))) hm⟩
   simp only [aA,aI,aJ,aw]
   exact ⟨ag (by omega),aS (by omega)⟩
  ·refine ⟨1,aV (hstep.trans ((OT.ak hd).trans ?_))⟩
   unfold aDt
   rw [aK]
   dsimp only
   rw [hd]
   rfl
theorem ak6:bh ou IE (Dm vh A7 vi):=by
 rintro ⟨⟨c,k,b,⟨⟩,⟨⟩,n,i,⟨⟩⟩,⟨p,l,⟨⟩⟩⟩ h
 have h':=bm h
 dsimp only at h'
 obtain ⟨rfl,h0,h1,rfl,hl⟩:=h'
 obtain ⟨N,rfl⟩:∃ N:Nat,n=(N:Int):=⟨n.toNat,by omega⟩
 obtain ⟨m,hm⟩:=af1 (c:=c) (k:=k) (p:=p) (N:=N) (by omega) hl N 0 [] (by omega) rfl
 refine ⟨m,_,hm,?_⟩
 have e:sH ((c,k,b,(),(),(N:Int),0,()),p,[],())=anT c b N 0 []:=rfl
 unfold Dm A7 vh vi aDt
 rw [e]
 generalize anT c b N 0 []=r
 cases hd: !(r.2==(0:Int))
 ·rfl
 ·rfl
def ID (x:A8):Bool:=decide (x.1.2.2.1.length<=140737488351232)
def aHH (p:ml×Int):kE.Y:=⟨hJ,((((p.1.1,p.1.2.1),(),p.1.2.2.2.1,p.1.2.2.2.2),p.2,()),p.1.2.2.1,())⟩
def U3 (x:A8):OT kE.Y:=.ok ⟨hJ,(((((aaG x.1.1 x.1.2.1 x.1.2.2.1).1.1,(aaG x.1.1 x.1.2.1 x.1.2.2.1).1.2.1),(),(aaG x.1.1 x.1.2.1 x.1.2.2.1).1.2.2.2.1,(aaG x.1.1 x.1.2.1 x.1.2.2.1).1.2.2.2.2),(aaG x.1.1 x.1.2.1 x.1.2.2.1).2,()),(aaG x.1.1 x.1.2.1 x.1.2.2.1).1.2.2.1,())⟩
theorem ak5:aa aj 33 (kE.az ID U3):=U1 IE vh A7 vi ak6 _ _ λx oy hp ho=>by
 rw [<-ho]
 clear ho
 obtain ⟨⟨c,k,b,⟨⟩⟩,⟨⟩⟩:=x
 have hl:b.length<=140737488351232:=bm hp
 show _=some (aHH (aaG c k b))
 rcases (b9 (ac c)).symm with hs|hs
 ·rw [show aaG c k b=(abn,40) from by unfold aaG;rw [hs];rfl]
  exact OT.au hs
 refine (OT.ak hs).trans ?_
 by_cases h0:k<0
 ·rw [show aaG c k b=(abn,60) from by unfold aaG;rw [hs,ag h0];rfl]
  exact OT.ak (ag h0)
 refine (OT.au (bq h0)).trans ?_
 by_cases h5:5<k
 ·rw [show aaG c k b=(abn,60) from by unfold aaG;rw [hs,bq h0,ag h5];rfl]
  exact OT.ak (ag h5)
 rw [show aaG c k b=aHJ c k (anT c b (avO k+2) 0 []) from by unfold aaG;rw [hs,bq h0,bq h5];rfl]
 obtain ⟨hN,hn1,hn2⟩:=aDN h0 h5
 refine (OT.au (bq h5)).trans ?_
 have hlen:=af3 (c:=c) (b:=b) (avO k+2) 0 []
 unfold A7 vh vi sH aHJ
 dsimp only
 generalize avO k=N at*
 rw [hN]
 rw [show ((N:Int)+2).toNat=N+2 by omega]
 generalize anT c b (N+2) 0 []=r at*
 refine (ae ?_).trans ?_
 ·simp only [aA,aI,aJ,aw]
  exact ⟨ag (by omega),aS (by omega),ag ⟨rfl,by dsimp only;omega,by dsimp only;omega,rfl,hl⟩⟩
 cases hd: !(r.2==(0:Int))
 ·have hlen:=hlen hd
  simp only [List.length_nil] at hlen
  have hlen:r.1.length=N+2:=by omega
  rw [show ((N:Int)+1).toNat=N+1 by omega,hlen]
  refine (OT.au rfl).trans ((ae (by simp only [aA,aI,aJ];exact ag (by omega))).trans ((OT.au (by rw [bq (by omega)];rfl)).trans ((OT.au (by rw [bq (by omega)];rfl)).trans ((ae ?_).trans rfl))))
  simp only [aA,aI,aJ,aw]
  exact ⟨⟨⟨ag (by omega),ag (by omega)⟩,ag (by omega)⟩,ba (by omega),ag (by omega),aS (by omega),ba (by omega),ag (by omega),jW (by omega)⟩
 ·exact (OT.ak rfl).trans rfl
def sG:bt:=(Ks 2 (kE.az ID U3))
theorem Qy:aa aj 33 sG:=(Kr ak5)
theorem Qx:ax sG:=(zu av)
def Y8:Env:=aq 33 sG au4
theorem aex:bV aj te Y8:=aU follows CI Qy Qx
abbrev asK:af:=xk
def gT (x:adp):Bool:=ac x.1.1
def asL (x:adp):OT xk.Y:=.ok ⟨Et,((dv (pS x.1.1) x.1.2.1 x.1.2.2.1,()),())⟩
theorem ay3:aa aj 29 (asK.az gT asL):=cL (S:=xk) asM λx oy hp ho=>⟨rfl,(OT.ak (b:=ac x.1.1) hp).trans ho⟩
def Es:bt:=(asK.az gT asL)
theorem ado:aa aj 29 Es:=ay3
theorem adn:ax Es:=av
def avD:Env:=aq 29 Es Y8
theorem avC:bV aj te avD:=aU follows aex ado adn
abbrev ar2:af:=xe
def BM (x:acN):Bool:=ac x.1.1
def ar3 (x:acN):OT xe.Y:=.ok ⟨tD,((iw (pS x.1.1) x.1.2.1 x.1.2.2.1,()),())⟩
theorem ayy:aa aj 91 (ar2.az BM ar3):=cL (S:=xe) ar4 λx oy hp ho=>⟨rfl,(OT.ak (b:=ac x.1.1) hp).trans ho⟩
def Ea:bt:=(ar2.az BM ar3)
theorem acM:aa aj 91 Ea:=ayy
theorem acL:ax Ea:=av
def avo:Env:=aq 91 Ea avD
theorem avn:bV aj te avo:=aU follows avC acM acL
abbrev asq:af:=xg
def ee (x:ac4):Bool:=ac x.1.1
def asr (x:ac4):OT xg.Y:=.ok ⟨Ei,((aR (pS x.1.1) x.1.2.1 x.1.2.2.1,()),())⟩
theorem ayX:aa aj 70 (asq.az ee asr):=cL (S:=xg) ass λx oy hp ho=>⟨rfl,(OT.ak (b:=ac x.1.1) hp).trans ho⟩
def Eh:bt:=(asq.az ee asr)
theorem ac3:aa aj 70 Eh:=ayX
theorem ac2:ax Eh:=av
def avw:Env:=aq 70 Eh avo
theorem avv:bV aj te avw:=aU follows avn ac3 ac2
abbrev asj:af:=xf
def tP (x:acX):Bool:=ac x.1.1
def asl (x:acX):OT xf.Y:=.ok ⟨Ef,((lf (pS x.1.1) x.1.2.1,()),())⟩
theorem ayP:aa aj 67 (asj.az tP asl):=cL (S:=xf) asm λx oy hp ho=>⟨rfl,(OT.ak (b:=ac x.1.1) hp).trans ho⟩
def Ee:bt:=(asj.az tP asl)
theorem acW:aa aj 67 Ee:=ayP
theorem acV:ax Ee:=av
def avt:Env:=aq 67 Ee avw
theorem avs:bV aj te avt:=aU follows avv acW acV
abbrev asx:af:=xh
def tT (x:ada):Bool:=ac x.1.1&& !Nat.beq (x.1.2.1.nat%pS x.1.1) 0
def asy (x:ada):OT xh.Y:=.ok ⟨qE,((CO (pS x.1.1) x.1.2.1,(0:Int),()),())⟩
theorem ayZ:aa aj 68 (asx.az tT asy):=cL (S:=xh) asz λx oy hp ho=>by
 have hp':(ac x.1.1&& !Nat.beq (x.1.2.1.nat%pS x.1.1) 0)=true:=hp
 rw [aw,Bool.not_eq_true'] at hp'
 exact ⟨rfl,(OT.ak (b:=ac x.1.1) hp'.1).trans ((OT.au (b:=Nat.beq (x.1.2.1.nat%pS x.1.1) 0) hp'.2).trans ho)⟩
def El:bt:=(asx.az tT asy)
theorem ac9:aa aj 68 El:=ayZ
theorem ac8:ax El:=av
def avz:Env:=aq 68 El avt
theorem avy:bV aj te avz:=aU follows avs ac9 ac8
abbrev aqE:af:=sR
def ow (x:abA):Bool:=ac x.1.1&&(decide (x.1.2.1.length<=100000)&&cy x.1.1 x.1.2.1)
def aqF (x:abA):OT sR.Y:=.ok ⟨jo,((AR x.1.1 (wN x.1.1 x.1.2.1),(0:Int),()),())⟩
theorem axM:aa aj 84 (aqE.az ow aqF):=cL (S:=sR) aqG λx oy hp ho=>by
 have hp':(ac x.1.1&&(decide (x.1.2.1.length<=100000)&&cy x.1.1 x.1.2.1))=true:=hp
 rw [aw,aw] at hp'
 exact ⟨rfl,(OT.ak (b:=ac x.1.1) hp'.1).trans ((OT.ak (b:=decide (x.1.2.1.length<=100000)) hp'.2.1).trans ((OT.ak (b:=cy x.1.1 x.1.2.1) hp'.2.2).trans ho))⟩
def DF:bt:=(aqE.az ow aqF)
theorem abx:aa aj 84 DF:=axM
theorem abw:ax DF:=av
def avd:Env:=aq 84 DF avz
theorem Zd:bV aj te avd:=aU follows avy abx abw
def zg:af:=⟨[rH,aC],[],false,0,false⟩
def Rw:aL:=⟨[],[],false⟩
def Rv:aL:=⟨Am,[],true⟩
abbrev Wd:Type:=(Bool×eU)×Unit
def art (a0:Bool) (a1:Int):OT zg.Y:=
 (.br (!a0)
 (.ok ⟨Rv,((a1,()),())⟩)
 (.ok ⟨Rw,((),())⟩))
theorem amd (pre:Wd->Bool) (F:Wd->OT zg.Y) (hF:∀ (x:Wd) oy,pre x=true->(F x).run=some oy->(art x.1.1 x.1.2.1).run=some oy):aa aj 60 (zg.az pre F):=
 aEw Zd 60 Tryz.f60 zg [Rw] [Rv] bD (λx=>art x.1.1 x.1.2.1) hF
noncomputable def aHL:anU:=⟨57,175,40,Tryz.f56,56⟩
theorem axc (v:Value) (w:World):CallsD aj 57 #[v] .returning w λe u' w'=>e=.returned (.tuple #[])/\u'=.returning/\w'=w:=by
 refine callsD_of_wpS Tryz.func57 rfl λc₀ cs hu=> ?_
 apply wpS_seq
 apply wpS_region
 simp [wpOpsS,go_sem,recoverD,hu,Tryz.ntmps57,Exit.thenS]
 apply wpS_seq
 apply wpS_region
 simp [wpOpsS,go_sem,recoverD,hu,Exit.thenS]
 refine wpS_cond (t:=false) (by simp [Act.eval,Array.replicate]) ?_
 simp only [Bool.false_eq_true,if_false]
 refine wpS_of_wp (wp_skip ?_)
 cases c₀
 simp_all [bodyPostS,results,Tryz.results57]
theorem aaP (v:Value) (x:TypeId) (w:World):(Instr.typeAssert (.iface 175 v) x 175 false).run aj w=.ok v w:=by
 obtain ⟨ds,hu,hd⟩:=(Mr 175 GC (by kernel_rfl)).desc
 have hk:GC.desc=.struct [(0,40)]:=by kernel_rfl
 rw [hk] at hd
 obtain ⟨_,rfl,_⟩:=hd
 simp [Instr.typeAssert,Sem.run_bind,run_underlying hu]
theorem akX (x:Int) (w:World):(Instr.field 175 (.agg #[.int .i64 x]) 0).run aj w=.ok (.int .i64 x) w:=by
 simp [Instr.field,go_sem,asAgg]
theorem axd (ad:Addr) (x:Int) (w w':World) (h:(storeVar 40 ad (.int .i64 x)).run aj w=.ok () w'):
 CallsD aj 57 #[.pointer (some ad)] (.panicking [{v:=.iface 175 (.agg #[.int .i64 x]),recovered:=false}]) w λe u' w''=>e=.returned (.tuple #[])/\u'=.panicking [{v:=.iface 175 (.agg #[.int .i64 x]),recovered:=true}]/\w''=w':=by
 refine callsD_of_wpS Tryz.func57 rfl λc₀ cs hu=> ?_
 apply wpS_seq
 apply wpS_region
 simp [wpOpsS,go_sem,recoverD,hu,Tryz.ntmps57,Exit.thenS]
 apply wpS_seq
 apply wpS_region
 simp [wpOpsS,go_sem,recoverD,hu,Exit.thenS]
 refine wpS_cond (t:=true) (by simp [Act.eval,Array.replicate]) ?_
 simp only [if_true]
 apply wpS_region
 simp [go_sem] at h
 simp [wpOpsS,go_sem,aaP,akX,h,bodyPostS,results,Tryz.results57]
theorem apz:L8 aj aHL where
 fn:=⟨Tryz.f57,by kernel_rfl,by kernel_rfl,by kernel_rfl⟩
 ret:=axc
 pan:=axd
 gfn:=⟨by kernel_rfl,by kernel_rfl,by kernel_rfl⟩
def Wc (_:Wd):Bool:=true
def aru (x:Wd):OT zg.Y:=.br x.1.1 (.ok ⟨Rw,((),())⟩) (.ok ⟨Rv,((x.1.2.1,()),())⟩)
theorem ayh:aa aj 60 (zg.az Wc aru):=amd _ _ λx oy hp ho=>by
 rw [<-ho]
 clear ho
 obtain ⟨⟨b,e,⟨⟩⟩,⟨⟩⟩:=x
 cases b<;>rfl
def D0:bt:=(zg.az Wc aru)
theorem acp:aa aj 60 D0:=ayh
theorem aco:ax D0:=av
def avi:Env:=aq 60 D0 avd
theorem Zj:bV aj te avi:=aU follows Zd acp aco
def qt:af:=⟨kZ,[],false,0,false⟩
def J7:aL:=⟨iq,[],false⟩
def J6:aL:=⟨Am,[],true⟩
abbrev J8:Type:=aiG
def aha (a0:ab) (a1:Int):OT qt.Y:=
 (.br (!a1==(0:Int))
 (.ok ⟨J6,((a1,()),())⟩)
 (.ok ⟨J7,((a0,()),())⟩))
theorem acu (pre:J8->Bool) (F:J8->OT qt.Y) (hF:∀ (x:J8) oy,pre x=true->(F x).run=some oy->(aha x.1.1 x.1.2.1).run=some oy):aa aj 64 (qt.az pre F):=
 aEw Zj 64 Tryz.f64 qt [J7] [J6] bD (λx=>aha x.1.1 x.1.2.1) hF
def Oa (_:J8):Bool:=true
def ahb (x:J8):OT qt.Y:=.br (x.1.2.1==0) (.ok ⟨J7,((x.1.1,()),())⟩) (.ok ⟨J6,((x.1.2.1,()),())⟩)
theorem arx:aa aj 64 (qt.az Oa ahb):=acu _ _ λx oy hp ho=>by
 rw [<-ho]
 clear ho
 obtain ⟨⟨v,e,⟨⟩⟩,⟨⟩⟩:=x
 rcases (b9 (e==0)).symm with h|h
 ·exact (OT.ak (b:= !(e==0)) (by rw [h];rfl)).trans (OT.au (b:=e==0) h).symm
 ·exact (OT.au (b:= !(e==0)) (by rw [h];rfl)).trans (OT.ak (b:=e==0) h).symm
def zk:bt:=(qt.az Oa ahb)
theorem Wl:aa aj 64 zk:=arx
theorem Wk:ax zk:=av
def ajr:Env:=aq 64 zk avi
theorem Pq:bV aj te ajr:=aU follows Zj Wl Wk
def qq:af:=⟨LY,[],false,0,false⟩
def J1:aL:=⟨o8,[],false⟩
def J0:aL:=⟨Am,[],true⟩
abbrev J2:Type:=(cK×eU)×Unit
def ag6 (a0:cK) (a1:Int):OT qq.Y:=
 (.br (!a1==(0:Int))
 (.ok ⟨J0,((a1,()),())⟩)
 (.ok ⟨J1,((a0,()),())⟩))
theorem acr (pre:J2->Bool) (F:J2->OT qq.Y) (hF:∀ (x:J2) oy,pre x=true->(F x).run=some oy->(ag6 x.1.1 x.1.2.1).run=some oy):aa aj 62 (qq.az pre F):=
 aEw Pq 62 Tryz.f62 qq [J1] [J0] bD (λx=>ag6 x.1.1 x.1.2.1) hF
def N8 (_:J2):Bool:=true
def ag7 (x:J2):OT qq.Y:=.br (x.1.2.1==0) (.ok ⟨J1,((x.1.1,()),())⟩) (.ok ⟨J0,((x.1.2.1,()),())⟩)
theorem arv:aa aj 62 (qq.az N8 ag7):=acr _ _ λx oy hp ho=>by
 rw [<-ho]
 clear ho
 obtain ⟨⟨v,e,⟨⟩⟩,⟨⟩⟩:=x
 rcases (b9 (e==0)).symm with h|h
 ·exact (OT.ak (b:= !(e==0)) (by rw [h];rfl)).trans (OT.au (b:=e==0) h).symm
 ·exact (OT.au (b:= !(e==0)) (by rw [h];rfl)).trans (OT.ak (b:=e==0) h).symm
def zi:bt:=(qq.az N8 ag7)
theorem Wh:aa aj 62 zi:=arv
theorem Wg:ax zi:=av
def ajp:Env:=aq 62 zi ajr
theorem Po:bV aj te ajp:=aU follows Pq Wh Wg
def qs:af:=⟨[aC,aC],[],false,0,false⟩
def J4:aL:=⟨jK,[],false⟩
def J3:aL:=⟨Am,[],true⟩
abbrev J5:Type:=jR×Unit
def ag8 (a0:Int) (a1:Int):OT qs.Y:=
 (.br (!a1==(0:Int))
 (.ok ⟨J3,((a1,()),())⟩)
 (.ok ⟨J4,((a0,()),())⟩))
theorem acs (pre:J5->Bool) (F:J5->OT qs.Y) (hF:∀ (x:J5) oy,pre x=true->(F x).run=some oy->(ag8 x.1.1 x.1.2.1).run=some oy):aa aj 109 (qs.az pre F):=
 aEw Po 109 Tryz.f109 qs [J4] [J3] bD (λx=>ag8 x.1.1 x.1.2.1) hF
def N9 (_:J5):Bool:=true
def ag9 (x:J5):OT qs.Y:=.br (x.1.2.1==0) (.ok ⟨J4,((x.1.1,()),())⟩) (.ok ⟨J3,((x.1.2.1,()),())⟩)
theorem arw:aa aj 109 (qs.az N9 ag9):=acs _ _ λx oy hp ho=>by
 rw [<-ho]
 clear ho
 obtain ⟨⟨v,e,⟨⟩⟩,⟨⟩⟩:=x
 rcases (b9 (e==0)).symm with h|h
 ·exact (OT.ak (b:= !(e==0)) (by rw [h];rfl)).trans (OT.au (b:=e==0) h).symm
 ·exact (OT.au (b:= !(e==0)) (by rw [h];rfl)).trans (OT.ak (b:=e==0) h).symm
def zj:bt:=(qs.az N9 ag9)
theorem Wj:aa aj 109 zj:=arw
theorem Wi:ax zj:=av
def ajq:Env:=aq 109 zj ajp
theorem Pp:bV aj te ajq:=aU follows Po Wj Wi
def ya:af:=⟨[jP],[],false,0,false⟩
abbrev UC:Type:=fK×Unit
def af5:aL:=⟨[.fn 127 [0]],[(0,L6)],false⟩
def aaK (a0:aB):OT ya.Y:=
 (.ok ⟨af5,(((),()),(a0,()),())⟩)
theorem akP (pre:UC->Bool) (F:UC->OT ya.Y) (hF:∀ (x:UC) oy,pre x=true->(F x).run=some oy->(aaK x.1.1).run=some oy):aa aj 81 (ya.az pre F):=
 di Pp 81 Tryz.f81 ya [af5] bD (λx=>aaK x.1.1) hF
def UB (_:UC):Bool:=true
def apq (x:UC):OT ya.Y:=aaK x.1.1
theorem aw9:aa aj 81 (ya.az UB apq):=akP _ _ λx oy hp ho=>ho
def Dh:bt:=(ya.az UB apq)
theorem aaJ:aa aj 81 Dh:=aw9
theorem aaI:ax Dh:=av
def iz:Env:=aq 81 Dh ajq
theorem Y7:bV aj te iz:=aU follows Pp aaJ aaI
end
section
namespace Sx
open Go
def aDV (Q:Exit->Act->World->Prop):Exit->Act->World->Prop
 |.outgrown,_,_=>False
 |e,a,w=>Q e a w
theorem aly {Q:Exit->Act->World->Prop} (h:LetsOut (aDV Q)):False:=by
 obtain ⟨_,_,h⟩:=h
 exact h
theorem Vz {R₀:Ctx} {K:SE->St->Prop} {Q:Exit->Act->World->Prop} (h:pd R₀ K Q):pd R₀ K (aDV Q):=⟨h.normal,h.ret,h.exit,h.pan⟩
theorem axH {Q:Exit->Act->World->Prop}:∀ (e:Exit) (a:Act) (w:World),aDV Q e a w->Q e a w
 |.normal,_,_,h|.ret,_,_,h|.exit _,_,_,h|.goto _,_,_,h|.panic _,_,_,h=>h
 |.outgrown,_,_,h=>h.elim
def NM (o:Oper):Bool:=match o.op with
 |.defer _=>false
 |_=>true
def abo:Code->Bool
 |.skip|.exit _|.ret=>true
 |.region _ ops _=>ops.toList.all NM
 |.seq a b|.cond _ a b=>abo a&&abo b
 |.block _ c=>abo c
 |_=>false
section
variable {P:Program} {l n:Nat} {Q:Exit->Act->World->Prop}
theorem aGd {o:Oper} (hd:NM o=true) {a:Act} {w:World} {K:Act->World->Prop} (h:o.wp P a w K Q):o.wpIn (Fence.wide.inRound l) n P a w K Q:=by
 unfold Oper.wp at h
 refine ⟨λ_ _=>trivial,?_⟩
 rw [Oper.semAt_eq _ _ _ λc e=>by unfold NM at hd;rw [e] at hd;cases hd]
 generalize (execOp a.eval o).run P w=r at h⊢
 cases r with
 |ok x w'=>
  cases x<;>simp only [Oper.upon] at h<;>first|exact h.elim|exact h|exact ⟨λe=>(by cases e),CallsIn.inRound l (callsIn_wide.2 h)⟩|exact ⟨λe=>(by cases e),λc cs _=>let ⟨v,w',r,s⟩:=h c cs;⟨v,w',r,stepsIn_wide.2 s⟩⟩
 |halt x w'=>cases x<;>first|exact h|exact h.elim
theorem aiC {ops:Array Oper} (hd:ops.toList.all NM=true) {md:Region.Mode} (hQ:LetsOut Q->False):∀ (fuel:Nat) (listed:Array Bool) (a:Act) (w:World),wpAny P md ops Q fuel listed a w->wpAnyIn (Fence.wide.inRound l) n P md ops Q fuel listed a w
 |0,_,_,_,h=>h
 |fuel+1,listed,a,w,h=>by
  refine ⟨h.1,λi hi=> ?_⟩
  have h2:=h.2 i hi
  unfold wpOp at h2
  unfold wpOpIn
  cases ho:ops[i]? with
  |none=>rw [ho] at h2;exact aiC hd hQ fuel _ _ _ h2
  |some o=>
   rw [ho] at h2
   simp only at h2⊢
   have hm:NM o=true:=List.all_eq_true.1 hd o (by
    exact Array.mem_toList_iff.2 (Array.mem_of_getElem? ho))
   split
   ·rename_i hw
    rw [if_pos hw] at h2
    rcases h2 with h2|h2
    ·exact Oper.wpIn_mono (λa w h=>aiC hd hQ fuel _ a w h) (aGd hm h2)
    ·exact (hQ h2.2).elim
   ·rename_i hw
    rw [if_neg hw] at h2
    exact ⟨λ_ _=>trivial,aiC hd hQ fuel _ _ _ h2⟩
variable {te:TE} {Φ:Env}
theorem aFl (hm:P.follows .mixedOrders=true) (hte:kv P te) (hΦ:oh P Φ) (hmono:oi Φ) {R₀:Ctx} {ops:Array Oper} {K:SE->St->Prop} {R:Ctx} {st:St} {a:Act} {w:World} (hK:pd R₀ K Q) (hx:R₀.Ext R) (hst:iX R st a w)
 (hok:fc Φ ops (iU ops)=true) (h:gX te Φ ops.toList (iU ops) (WD te Φ ops (iU ops) st) K st 0 ops.toList []):wpAny P .any ops Q ops.size (Array.replicate ops.size false) a {w with drawn:=w.drawn+1}:=by
 obtain ⟨F,h1,h2⟩:=AB (te:=te) (Φ:=Φ) (ops:=ops) (bs:=iU ops) (H:=WD te Φ ops (iU ops) st) (st:=st) ops.toList [] trivial (λk=>by simp) h
 have hd0:∀ k,dD (Array.replicate ops.size false) k=false:=λk=>by unfold dD;simp [Array.getD]
 have hcl:CM (iU ops) F.length (dD (Array.replicate ops.size false)):=λk _ hd=>by rw [hd0] at hd;cases hd
 have hst':bg st (dD (Array.replicate ops.size false)) F=st:=by
  rw [gQ (D':=λ_=>false) λx hx=>hd0 _]
  clear h h1 h2 hcl
  induction F with
  |nil=>rfl
  |cons y r ih=>exact ih
 rcases h2 with ⟨h2,h3⟩|⟨h2,h3⟩
 ·refine aiB hte hΦ hmono BK hok h1 (by simpa using h2) hK h3 ops.size _ R a _ (by simp) (by simp) hcl hx ?_
  rw [hst']
  exact ⟨hst.hp,hst.mem.drew _,hst.tm,hst.defers⟩
 ·refine auB hte hΦ hmono BK hok h1 (by simpa using h2) hK h3 ops.size _ R a _ (by simp) (by simp) hcl (hd0 _) hx ?_
  rw [hst']
  exact ⟨hst.hp,hst.mem.drew _,hst.tm,hst.defers⟩
theorem Is (hte:kv P te) (hΦ:oh P Φ) {R₀:Ctx} {ops:Array Oper} {K:SE->St->Prop} (hK:pd R₀ K Q):
 ∀ (r:List Oper) (R:Ctx) (st:St) (a:Act) (w:World),r.all NM=true->R₀.Ext R->iX R st a w->iu te Φ ops.toList K r st->wpListIn (Fence.wide.inRound l) n P ops Q r a w
 | [],R,st,a,w,_,hx,hst,h=>hK.normal R st a w hx hst h
 |o::r,R,st,a,w,hd,hx,hst,h=>by
  rw [aA,aw] at hd
  simp only [iu] at h
  split at h
  ·exact h.elim
  ·rename_i b hb
   have hw:=gi hst hb
   simp only [wpListIn,hw]
   cases b
   ·simp only [Bool.false_eq_true,if_false]
    exact ⟨λ_ _=>trivial,Is hte hΦ hK r R _ _ w hd.2 hx (hst.undef o.dst) h⟩
   ·simp only [if_true]
    obtain ⟨out,h1,h2⟩:=OT.Hx h
    refine aGd hd.1 (mi hte hΦ hst h1 ?_)
    cases out with
    |ret e=>exact λR' w' v ha hv=>Is hte hΦ hK r R' _ _ w' hd.2 (hx.trans ha.ext) (hst.put ha hv o.dst) h2
    |pan sv u=>exact λR' w' v ha hv=>hK.pan R' _ a w' sv v (hx.trans ha.ext) (hst.TU ha) hv h2
theorem kw (g:bV P te Φ) (hm:P.follows .mixedOrders=true) {R₀:Ctx}:∀ (k:Nat) (c:Code) (R:Ctx) (st:St) (a:Act) (w:World) (K:SE->St->Prop) (Q:Exit->Act->World->Prop),abo c=true->
 R₀.Ext R->iX R st a w->wps te Φ fV k c st K->pd R₀ K Q->c.wpIn (Fence.wide.inRound l) n P Q a w
 |0,c,R,st,a,w,K,Q,_,_,_,h,_=>h.elim
 |k+1,c,R,st,a,w,K,Q,hd,hx,hst,h,hK=>by
  rw [PN] at h
  cases c<;>simp only at h<;>first|exact h.elim|(cases hd;done)|skip
  case skip=>exact wpIn_skip (hK.normal R st a w hx hst h)
  case region id ops draw=>
   cases draw
   ·exact wpIn_region_list (Is g.ty g.ok hK _ R st a w hd hx hst h)
   ·cases hr:fc Φ ops (iU ops)
    ·rw [hr] at h;exact h.elim
    ·rw [hr] at h
     exact wpIn_mono (wpIn_region_any hm (aiC hd aly _ _ _ _ (aFl hm g.ty g.ok g.mono (Vz hK) hx hst hr h))) axH
  case seq x y=>
   simp only [abo,aw] at hd
   refine wpIn_seq (kw g hm k x R st a w _ _ hd.1 hx hst h ⟨?_,?_,?_,?_⟩)
   ·exact λR' st' a' w' hx' hst' hk=>kw g hm k y R' st' a' w' K Q hd.2 hx' hst' hk hK
   ·exact λR' st' a' w' hx' hst' hk=>hK.ret R' st' a' w' hx' hst' hk
   ·exact λR' st' a' w' id hx' hst' hk=>hK.exit R' st' a' w' id hx' hst' hk
   ·exact λR' st' a' w' sv v hx' hst' hv hk=>hK.pan R' st' a' w' sv v hx' hst' hv hk
  case cond c x y=>
   simp only [abo,aw] at hd
   split at h
   ·rename_i t ht
    have hc:=ks hst c
    rw [ht] at hc
    simp only [SV.rel] at hc
    refine wpIn_cond hc ?_
    cases t
    ·exact kw g hm k y R st a w K Q hd.2 hx hst h hK
    ·exact kw g hm k x R st a w K Q hd.1 hx hst h hK
   ·rename_i ht
    have hc:=ks hst c
    rw [ht] at hc
    simp only [SV.rel] at hc
    obtain ⟨t,hc⟩:=hc
    refine wpIn_cond hc ?_
    cases t
    ·exact kw g hm k y R st a w K Q hd.2 hx hst h.2 hK
    ·exact kw g hm k x R st a w K Q hd.1 hx hst h.1 hK
   ·exact h.elim
  case block id body=>
   replace h:wps te Φ fV k body st λe st'=>match e with
    |.exit j=>cond (j==id) (K .normal st') (K (.exit j) st')
    |e=>K e st':=h
   refine wpIn_block (kw g hm k body R st a w _ _ hd hx hst h ⟨?_,?_,?_,?_⟩)
   ·exact λR' st' a' w' hx' hst' hk=>hK.normal R' st' a' w' hx' hst' hk
   ·exact λR' st' a' w' hx' hst' hk=>hK.ret R' st' a' w' hx' hst' hk
   ·intro R' st' a' w' j hx' hst' hk
    simp only [Exit.inBlock]
    by_cases e:j=id
    ·subst e
     simp only [BEq.rfl,aK] at hk
     simp only [if_true]
     exact hK.normal R' st' a' w' hx' hst' hk
    ·have:(j==id)=false:=by simpa using e
     simp only [this,aT] at hk
     simp only [e,if_false]
     exact hK.exit R' st' a' w' j hx' hst' hk
   ·exact λR' st' a' w' sv v hx' hst' hv hk=>hK.pan R' st' a' w' sv v hx' hst' hv hk
  case exit id=>exact wpIn_exit (hK.exit R st a w id hx hst h)
  case ret=>exact wpIn_ret (hK.ret R st a w hx hst h)
end
end Sx
end
section
namespace Sx
open Go Go.RowKit
def SV.num:SV->Bool
 |.bool _|.u64 _|.u8 _|.int _=>true
 |_=>false
def SV.bare (k:Nat):SV->Bool
 |.ptr c _ _ _=>Nat.blt c k
 |.gu=>true
 |.agg l=>l.all SV.num
 |x=>x.num
theorem aqn {R R':Ctx}:∀ {x:SV} {v:Value},x.num=true->SV.rel R x v->SV.rel R' x v:=by
 intro x v h hr
 cases x<;>first|(cases h;done)|simpa only [SV.rel] using hr
theorem GO {R R':Ctx}:∀ {l:List SV} {vs:List Value},l.all SV.num=true->SV.bw R l vs->SV.bw R' l vs
 | [],_,_,h=>by simpa only [SV.bw] using h
 |x::l,vs,hn,h=>by
  rw [aA,aw] at hn
  simp only [SV.bw] at h⊢
  obtain ⟨v,r,h1,h2,h3⟩:=h
  exact ⟨v,r,h1,aqn hn.1 h2,GO hn.2 h3⟩
def ai0 (k:Nat) (R R':Ctx):Prop:=∀ c ch,c<k->R.hp c=some ch->∃ ch',R'.hp c=some ch'/\ch'.ep=ch.ep/\ch'.body.shape=ch.body.shape/\R'.σ c=R.σ c
theorem azX {k:Nat} {R R':Ctx} (e:ai0 k R R') {x:SV} {v:Value} (h:x.bare k=true) (hr:SV.rel R x v):SV.rel R' x v:=by
 cases x<;>first|exact aqn h hr|(cases h;done)|skip
 case ptr c ep i off=>
  simp only [SV.rel,Ctx.ptr] at hr⊢
  obtain ⟨h1,ch,h2,h3,h4⟩:=hr
  obtain ⟨ch',g1,g2,g3,g4⟩:=e c ch (dK h) h2
  refine ⟨h1,ch',g1,by omega,λhe=> ?_⟩
  rw [g3,g4]
  exact h4 (he.trans g2)
 case agg l=>
  simp only [SV.rel] at hr⊢
  obtain ⟨vs,h1,h2,h3⟩:=hr
  exact ⟨vs,h1,GO h h2,h3⟩
 case gu=>simp only [SV.rel]
theorem mW {k:Nat} {R R':Ctx} (e:ai0 k R R'):∀ {l:List SV} {vs:List Value},l.all (SV.bare k)=true->SV.bw R l vs->SV.bw R' l vs
 | [],_,_,h=>by simpa only [SV.bw] using h
 |x::l,vs,hn,h=>by
  rw [aA,aw] at hn
  simp only [SV.bw] at h⊢
  obtain ⟨v,r,h1,h2,h3⟩:=h
  exact ⟨v,r,h1,azX e hn.1 h2,mW e hn.2 h3⟩
def Plain (hp:Hp):Prop:=∀ c ch,hp c=some ch->ch.ep=0/\((∃ vs,ch.body=.cells vs/\vs.all SV.num=true)\/∃ xs,ch.body=.row .u64 xs)
def jF (σ:Nat->Option Loc) (hp:Hp) (w:World) (ds:List Deferred):Ctx:=⟨λ_=>none,⟨λ_=>none,w,ds⟩,σ,hp⟩
def wS (σ:Nat->Option Loc) (hp:Hp) (b:Nat):Prop:=∃ c ch L,hp c=some ch/\σ c=some L/\L.block=b
open Classical in
noncomputable def li (σ:Nat->Option Loc) (hp:Hp) (w:World) (ds:List Deferred):Ctx:=⟨λ_=>none,⟨λb=>if wS σ hp b then none else w.heap[b]?,w,ds⟩,σ,hp⟩
theorem wh {R:Ctx} {w:World} (hm:cB R w) {σ:Nat->Option Loc} {hp:Hp} {U:Gt} (hp1:Plain hp) (h:∀ c ch,hp c=some ch->R.hp c=some ch/\R.σ c=σ c) (hU:∀ b o,U b=some o->w.heap[b]? =some o) (hU2:∀ b,wS σ hp b->U b=none) (he:MY U.env w):cB ⟨λ_=>none,U,σ,hp⟩ w:=by
 refine ⟨λb o e=>(by cases e),hU,λc ch hc=> ?_,λc c' ch ch' L L' h1 h2 m1 m2 s1 s2 e=> ?_,λb o e=>(by cases e),he⟩
 ·obtain ⟨k1,k2⟩:=h c ch hc
  have h0:=hm.ch c ch k1
  obtain ⟨he,hb⟩:=hp1 c ch hc
  obtain ⟨ep,body⟩:=ch
  rcases hb with ⟨vs,hb,hn⟩|⟨xs,hb⟩
  ·cases hb
   simp only [eV] at h0⊢
   obtain ⟨L,g1,g2,g3,arr,E,g4,g5,g6,g7,g8⟩:=h0
   rw [k2] at g1
   exact ⟨L,g1,trivial,hU2 _ ⟨c,_,L,hc,g1,rfl⟩,arr,E,g4,g5,g6,GO hn g7,g8⟩
  ·cases hb
   simp only [eV,k2] at h0⊢
   refine ⟨h0.1,h0.2.1,?_⟩
   have h3:=h0.2.2
   split at h3
   ·exact h3
   ·rename_i L g1
    obtain ⟨g2,g3,arr,E,g4,g5,g6,g7⟩:=h3
    exact ⟨trivial,hU2 _ ⟨c,_,L,hc,g1,rfl⟩,arr,E,g4,g5,g6,g7⟩
 ·exact hm.apart c c' ch ch' L L' (h c ch h1).1 (h c' ch' h2).1 m1 m2 ((h c ch h1).2.trans s1) ((h c' ch' h2).2.trans s2) e
theorem aCD {ds:List Deferred} {R:Ctx} {w:World} (hm:cB R w) {σ:Nat->Option Loc} {hp:Hp} (hp1:Plain hp) (h:∀ c ch,hp c=some ch->R.hp c=some ch/\R.σ c=σ c):cB (li σ hp w ds) w:=
 wh hm hp1 h (λb o e=>by
  dsimp only at e
  split at e
  ·cases e
  ·exact e) (λb hb=>if_pos hb) ⟨rfl,rfl,rfl⟩
theorem uS {σ:Nat->Option Loc} {hp:Hp} {w w':World} {ds:List Deferred} {R':Ctx} (hx:(li σ hp w ds).Ext R') (hm:cB R' w'):MY w w'/\∀ b o,w.heap[b]? =some o->¬wS σ hp b->w'.heap[b]? =some o:=by
 have h:=hm.env
 have hU:=hm.U
 rw [hx.U] at h hU
 exact ⟨h,λb o hb hn=>hU b o ((if_neg hn).trans hb)⟩
theorem CW {σ:Nat->Option Loc} {hp:Hp} {w:World} {ds:List Deferred} {R':Ctx} (hx:(li σ hp w ds).Ext R') (hp1:Plain hp) {c:Nat} {ch ch':Ch} (h:hp c=some ch) (h':R'.hp c=some ch') (he:ch'.ep=0):R'.σ c=σ c:=by
 obtain ⟨ch2,g1,g2,g3⟩:=hx.ch c ch h
 rw [h'] at g1
 cases g1
 exact (g3 ((hp1 c ch h).1.trans he.symm)).2
theorem aoe {σ:Nat->Option Loc} {hp:Hp} {w w':World} {ds:List Deferred} {R':Ctx} (hx:(li σ hp w ds).Ext R') (hm:cB R' w') (hp1:Plain hp) (hp2:∀ c ch,hp c=some ch->∃ ch',R'.hp c=some ch'/\ch'.ep=0/\ch'.body.mut=true):w.heap.size<=w'.heap.size:=by
 cases hz:w.heap.size with
 |zero=>exact Nat.zero_le _
 |succ k=>
  have hk:w.heap[k]? =some (w.heap[k]'(by omega)):=by simp [hz]
  by_cases hb:wS σ hp k
  ·obtain ⟨c,ch,L,h1,h2,rfl⟩:=hb
   obtain ⟨ch',g1,g2,g3⟩:=hp2 c ch h1
   exact hm.lt g1 g3 ((CW hx hp1 h1 g1 g2).trans h2)
  ·have:=(uS hx hm).2 _ _ hk hb
   exact (Array.getElem?_eq_some_iff.1 this).1
def onN (D:Shape) (Q:D.T->Prop) (e:SE) (st:St):Prop:=match e with
 |.normal=>D.on st Q
 |_=>False
def toN (p:St->Prop) (e:SE) (st:St):Prop:=match e with
 |.normal=>p st
 |_=>False
theorem aFP {p:St->Prop} (e:SE) (st:St) (h:toN p e st):e=.normal:=by cases e<;>first|rfl|exact h.elim
theorem aDS {D:Shape} {Q:D.T->Prop} (e:SE) (st:St) (h:onN D Q e st):e=.normal:=by cases e<;>first|rfl|exact h.elim
section
variable {P:Program} {te:TE} {Φ:Env}
theorem CX (g:bV P te Φ) (hf:P.follows .mixedOrders=true) {n:Nat} {c:Code} {R:Ctx} {w:World} (hm:cB R w) {σ:Nat->Option Loc} {st:St} (hp1:Plain st.hp) (hR:∀ c ch,st.hp c=some ch->R.hp c=some ch/\R.σ c=σ c)
 {a:Act} (ht:SV.bw (li σ st.hp w a.defers) st.tm a.tmps.toList) {D:Shape} (hs:∀ c ch,st.hp c=some ch->c<D.fixed) {T:OT D.T} (h:∀ Q,wps te Φ fV 100 c st (onN D Q)=T.wpR Q)
 {y:D.T} (hy:T.run=some y) {Q:Exit->Act->World->Prop} (hQ:∀ R' a' w',(li σ st.hp w a.defers).Ext R'->iX R' (D.inj y) a' w'->Q .normal a' w'):c.wpIn Fence.wide n P Q a w/\∀ l,abo c=true->c.wpIn (Fence.wide.inRound l) n P Q a w:=by
 have hw:wps te Φ fV 100 c st (onN D (λs=>s=y)):=by
  rw [h,OT.E9]
  exact OT.iZ hy rfl
 have hst:iX (li σ st.hp w a.defers) st a w:=⟨rfl,aCD hm hp1 hR,ht,rfl⟩
 have hc:pd (li σ st.hp w a.defers) (onN D (λs=>s=y)) Q:=by
  refine ⟨?_,λR1 st1 a1 w1 hx1 hst1 hk=>hk.elim,λR1 st1 a1 w1 id hx1 hst1 hk=>hk.elim,λR1 st1 a1 w1 sv v hx1 hst1 hv hk=>hk.elim⟩
  intro R1 st1 a1 w1 hx1 hst1 hk
  obtain ⟨x,R',e,h2,h3⟩:=Shape.yE (R₀:=li σ st.hp w a.defers) (λc ch hc=>⟨hs c ch hc,(hp1 c ch hc).1⟩) hx1 hst1 (hk:D.on st1 _)
  subst e
  exact hQ R' a1 w1 h2 h3
 exact ⟨wpIn_wide.2 (rW g.ty g.ok g.any (λp _ l hl=>by cases hl) (Ctx.Ext.refl _) hst hw hc),λl hd=>kw g hf 100 c _ st a w _ Q hd (Ctx.Ext.refl _) hst hw hc⟩
theorem TB {Λ:Lam} {n:Nat} (k:Nat) {a b:Code} {st:St} {K:SE->St->Prop} (h:wps te Φ Λ n (.seq a b) st K) (hn:n=k+1) (hK:∀ e st,K e st->e=.normal):wps te Φ Λ k a st (toN λst'=>wps te Φ Λ k b st' K):=by
 subst hn
 rw [PN] at h
 have e:(λ(e:SE) (st':St)=>match e with|.normal=>wps te Φ Λ k b st' K|e=>K e st')=toN λst'=>wps te Φ Λ k b st' K:=funext λe=>funext λst'=>by
  cases e<;>first|rfl|exact propext ⟨λh=>(by cases hK _ _ h),λh=>h.elim⟩
 exact e▸h
theorem Dz (g:bV P te Φ) {c:Code} {R₀ R:Ctx} {w:World} {st:St} {a:Act} (hx:R₀.Ext R) (hst:iX R st a w) {k:Nat} {K:SE->St->Prop} (h:wps te Φ fV k c st K) (hK:∀ e st,K e st->e=.normal) {n:Nat} {Q:Exit->Act->World->Prop}
 (hQ:∀ R' st' a' w',R₀.Ext R'->iX R' st' a' w'->K .normal st'->Q .normal a' w'):c.wpIn Fence.wide n P Q a w:=by
 refine wpIn_wide.2 (rW g.ty g.ok g.any (R₀:=R₀) (λp _ l hl=>by cases hl) hx hst h ⟨hQ,?_,?_,?_⟩)
 ·exact λR1 st1 a1 w1 hx1 hst1 hk=>by cases hK _ _ hk
 ·exact λR1 st1 a1 w1 id hx1 hst1 hk=>by cases hK _ _ hk
 ·exact λR1 st1 a1 w1 sv v hx1 hst1 hv hk=>by cases hK _ _ hk
end
theorem cB.move {R:Ctx} {w w':World} (hm:cB R w) (h1:∀ b o,R.F b=some o\/R.U b=some o->w'.heap[b]? =w.heap[b]?) (h2:∀ (b:Nat) (arr:Array Value) (E:TypeId),w.heap[b]? =some (.cells arr E (0,0))->w'.heap[b]? =w.heap[b]?) (he:MY w w'):cB R w':=by
 refine ⟨λb o h=>(h1 b o (.inl h)).trans (hm.F b o h),λb o h=>(h1 b o (.inr h)).trans (hm.U b o h),λc ch hc=> ?_,hm.apart,hm.FU,hm.env.trans he⟩
 have h0:=hm.ch c ch hc
 obtain ⟨ep,body⟩:=ch
 cases body with
 |row t xs=>
  simp only [eV] at h0⊢
  refine ⟨h0.1,h0.2.1,?_⟩
  have h3:=h0.2.2
  split at h3
  ·exact h3
  ·obtain ⟨g1,g2,arr,E,g3,g4⟩:=h3
   exact ⟨g1,g2,arr,E,(h2 _ _ _ g3).trans g3,g4⟩
 |frz t xs=>exact h0
 |cells vs=>
  simp only [eV] at h0⊢
  obtain ⟨L,g1,g2,g3,arr,E,g4,g5⟩:=h0
  exact ⟨L,g1,g2,g3,arr,E,(h2 _ _ _ g4).trans g4,g5⟩
theorem cB.Kl {R:Ctx} {w w':World} {row:Option Nat} {N:Nat} (hm:cB R w) (hg:w.Kl w' row) (hr:∀ r,row=some r->N<=r/\∃ o:Obj,w.heap[r]? =some o/\o.isCells=false) (hN:∀ b o,R.F b=some o\/R.U b=some o->b<N):cB R w':=by
 refine hm.move (λb o h=> ?_) (λb arr E h=>grownBy_keeps_cells hg (λr e=>(hr r e).2) h rfl) ⟨hg.os,hg.output,hg.tape⟩
 have hb:b<w.heap.size:=by
  rcases h with h|h
  ·exact (Array.getElem?_eq_some_iff.1 (hm.F b o h)).1
  ·exact (Array.getElem?_eq_some_iff.1 (hm.U b o h)).1
 refine hg.block b hb λe=> ?_
 have:=(hr b e.symm).1
 have:=hN b o h
 omega
theorem akT {R R':Ctx} {w:World} (hm:cB R w) (hm':cB R' w) {c:Nat} {xs ys:List UInt64} (h:R.hp c=some ⟨0,.row .u64 xs⟩) (h':R'.hp c=some ⟨0,.row .u64 ys⟩) (hσ:R'.σ c=R.σ c) (hl:xs.length=ys.length):xs=ys:=by
 have h1:=hm.ch c _ h
 have h2:=hm'.ch c _ h'
 simp only [eV,hσ] at h1 h2
 obtain ⟨_,_,h1⟩:=h1
 obtain ⟨_,_,h2⟩:=h2
 cases hs:R.σ c with
 |none=>
  rw [hs] at h1 h2
  exact (h1:xs= []).trans (h2:ys= []).symm
 |some L=>
  rw [hs] at h1 h2
  obtain ⟨_,_,arr,E,e1,_,_,r1⟩:=h1
  obtain ⟨_,_,arr',E',e2,_,_,r2⟩:=h2
  rw [e1] at e2
  cases e2
  refine List.ext_getElem hl λi hi hi'=> ?_
  have a1:seg arr.toList (L.base+i*1) 1= [eG (xs.getD i 0)]:=r1 i hi
  have a2:seg arr.toList (L.base+i*1) 1= [eG (ys.getD i 0)]:=r2 i hi'
  rw [a1] at a2
  simp only [List.cons.injEq,and_true,eG,Value.int.injEq,true_and] at a2
  have a3:xs.getD i 0=ys.getD i 0:=UInt64.toNat.inj (by omega)
  simpa [eZ,hi,hi'] using a3
end Sx
end
section
open Sx Go
set_option maxRecDepth 100000
def QH:af:=⟨[aC,jP,dw],[],true,0,false⟩
def QG:aL:=⟨iq,[],false⟩
def rP (m:Nat) (x:ab) (l:aB):ab:=l.foldr (λv e=>dv m (aR m e x) v) ⟨0,0,0,0⟩
abbrev ap2:Type:=(Int×aB×o3)×Unit
def pvA:Shape:=⟨22,[Cu,uC,(6,fE),(7,gv),(11,.fn 127 [4])],[(0,pc),pa,lB,nY,(4,L6)],0,true⟩
def pvB (k:Nat):Shape:=⟨22,[(3,.ptr 0 0 0),(5,.ptr 1 0 0),(6,.ptr 2 0 0),(7,.ptr 3 0 0)],[(0,.cells [.val false .int]),(1,.row .u64),(2,.row .u64),(3,.row .u64)],k,true⟩
def pvC (k:Nat):Shape:=⟨22,[(3,.ptr 0 0 0),(5,.ptr 1 0 0),(6,.ptr 2 0 0),(7,.ptr 3 0 0),(9,.ptr 4 0 0)],[(0,.cells [.val false .int]),(1,.row .u64),(2,.row .u64),(3,.row .u64),(4,.row .u64)],k,true⟩
def eL (e:ab):ap:= [e.w0,e.w1,e.w2,e.w3]
def yB (c:Int) (x r o:ab):(pvB 0).T:=(((),(),(),(),()),(c,()),eL x,eL r,eL o,())
def yC (c:Int) (x r o v:ab):(pvC 4).T:=(((),(),(),(),(),()),(c,()),eL x,eL r,eL o,eL v,())
noncomputable def fF:Code->Nat->Code
 |.seq a _,0=>a
 |.seq _ b,k+1=>fF b k
 |c,_=>c
noncomputable def yi:Code->Code×Code
 |.block _ c=>yi c
 |.rangeFunc _ _ a b=>(a,b)
 |c=>(c,c)
noncomputable def pvc:Code:=mP Tryz.f27
def gW:ab:=⟨0,0,0,0⟩
def yA (c:Int) (l:aB) (x:ab):pvA.T:=(((),(),(),(),(),()),(c,()),eL x,eL gW,eL gW,(l,()),())
def pvS (c:Int) (l:aB) (x:ab):St:=⟨[.int c,.lst .elem l,.agg (unpack .elem x)]++List.replicate 19 .undef,λ_=>none⟩
theorem pv1 (c:Int) (l:aB) (x:ab) (Q:pvA.T->Prop):wps te iz fV 100 (.seq (fF pvc 0) (.seq (fF pvc 1) (fF (fF pvc 2) 0))) (pvS c l x) (onN pvA Q)=
 (OT.ok (yA c l x)).wpR Q:=by kernel_rfl
theorem pv2 (c:Int) (x r o v:ab) (Q:(pvC 4).T->Prop):wps te iz fV 100 (yi (fF (fF pvc 2) 1)).1 ⟨((pvB 0).inj (yB c x r o)).tm.set 13 (.agg (unpack .elem v)),((pvB 0).inj (yB c x r o)).hp⟩ (onN (pvC 4) Q)=
 (OT.ok (yC c x r o v)).wpR Q:=by kernel_rfl
theorem pv3 (c:Int) (x r o v:ab) (Q:(pvC 5).T->Prop):wps te iz fV 100 (yi (fF (fF pvc 2) 1)).2 ((pvC 4).inj (yC c x r o v)) (onN (pvC 5) Q)=
 (gd [ac c,ac c] (OT.ok (yC c x r (dv (pS c) (aR (pS c) o x) v) v))).wpR Q:=by kernel_rfl
theorem pv4 (c:Int) (x r o:ab) (Q:(pvB 4).T->Prop):wps te iz fV 100 (fF pvc 3) ((pvB 0).inj (yB c x r o)) (onN (pvB 4) Q)=
 (OT.ok (yB c x o o)).wpR Q:=by kernel_rfl
theorem pv5 (c:Int) (x r o:ab) (K:SV->Prop):A4 te Tryz.f27 ((pvB 4).inj (yB c x r o)) K=K (.agg (unpack .elem r)):=by kernel_rfl
theorem aF4:pvc=.seq (fF pvc 0) (.seq (fF pvc 1) (.seq (.seq (fF (fF pvc 2) 0) (.block 0 (.rangeFunc (.tmp 11) #[12,13] (yi (fF (fF pvc 2) 1)).1 (yi (fF (fF pvc 2) 1)).2))) (.seq (fF pvc 3) .ret))):=by kernel_rfl
attribute [local go_sem] Oper.semAt_some
open RowKit Shelf
def elemV (e:ab):Value:=.agg #[eG e.w0,eG e.w1,eG e.w2,eG e.w3]
def ub (f:Nat->ab) (len k:Nat):YQ:=(List.range (len-k)).map λ(j:Nat)=>(((len:Int)-(j:Int)-1,f (len-1-j)):Int×ab)
theorem am6 (f:Nat->ab) (len k:Nat):(ub f len k).length=len-k:=by simp [ub]
theorem adA (f:Nat->ab) {len k:Nat} (hk:k+1<=len):ub f len k=ub f len (k+1)++ [((k:Int),f k)]:=by
 have e:len-k=(len-(k+1))+1:=by omega
 unfold ub
 rw [e,List.range_succ,List.map_append]
 have h1:(len:Int)-((len-(k+1):Nat):Int)-1=k:=by omega
 have h2:len-1-(len-(k+1))=k:=by omega
 simp only [List.map_cons,List.map_nil,h1,h2]
theorem am7 (xs:aB):(ub (λj=>xs.getD j gW) xs.length 0).map (·.2)=xs.reverse:=by
 refine List.ext_getElem (by simp [ub]) λi h1 h2=> ?_
 have hi:i<xs.length:=by simpa using h2
 have:xs.length-1-i<xs.length:=by omega
 simp [ub,List.getElem_reverse,eZ,this]
def KpB (S:Nat->Prop) (W W':World):Prop:=∀ k,S k->W'.heap[k]? =W.heap[k]?
theorem KpB.cell {S:Nat->Prop} {W W':World} (h:KpB S W W') {a:Addr} {v:Value} (hs:S a.block) (hc:W.cell? a=some v):W'.cell? a=some v:=by
 unfold World.cell? at hc⊢
 rw [h _ hs]
 exact hc
set_option maxHeartbeats 2000000 in
theorem azY (n:Nat) (hn:1<=n) (l Bs Bo b off len cap:Nat) (ad:Option Addr) (f:Nat->ab) (S:Nat->Prop) (hS:S Bs) (had:0<len->ad=some ⟨b,off,none⟩/\S b) (hlen:len*32<=4503599627370496) (J Jx:List (Int×ab)->World->Prop)
 (hY:∀ pre x W,J pre W->pre.length<len->YieldAt Fence.wide (n-1) aj l #[.int .i64 x.1,elemV x.2] W λe W'=>
  (e=.returned (.bool true)/\J (pre++ [x]) W'/\KpB S W W')\/(e=.returned (.bool false)/\Jx (pre++ [x]) W'))
 (W:World) (hBs:W.cell? ⟨Bs,Bo,none⟩=some (.slice ad len cap))
 (hc:∀ j,j<len->W.cell? ⟨b,off+j*4,none⟩=some (eG (f j).w0)/\W.cell? ⟨b,off+j*4+1,none⟩=some (eG (f j).w1)/\W.cell? ⟨b,off+j*4+2,none⟩=some (eG (f j).w2)/\W.cell? ⟨b,off+j*4+3,none⟩=some (eG (f j).w3)) (h0:J [] W):
 CallsIn Fence.wide n aj 127 #[.func (.yield l) #[] #[],.pointer (some ⟨Bs,Bo,none⟩)] W λe W'=>(∃ v,e=.returned v)/\
  ((∃ ys,ys=ub f len 0/\J ys W')\/(∃ pre,True/\Jx pre W')):=by
 refine callsIn_of_wp Tryz.func127 rfl trivial ?_ rfl
 simp only [Tryz.ntmps127,List.size_toArray,List.length_cons,List.length_nil,Nat.reduceAdd,Nat.reduceSub,Array.replicate_succ,Array.replicate_zero,List.push_toArray,List.append_toArray,List.nil_append,List.cons_append]
 gi_wp2
 gi_loopw [3] (λi wr=>∃ k:Nat,k<=len/\i=.int .i64 ((k:Int)-1)/\J (ub f len k) wr/\KpB S W wr)
  (λi _=>(intOf i+1).toNat)
 case atStart=>exact ⟨len,Nat.le_refl _,rfl,by simpa [ub] using h0,λ_ _=>rfl⟩
 case round=>
  obtain ⟨k,hk,rfl,hJs,hnx⟩:=hrel
  cases k with
  |succ k=>
   have hk1:((k+1:Nat):Int)-1=(k:Int):=by omega
   rw [hk1] at*
   obtain ⟨fn,tmps,assign,body,hy,hR⟩:=hY _ ((k:Int),f k) wr hJs (by rw [am6];omega)
   dsimp only [elemV,eG] at hy
   obtain ⟨rfl,hSb⟩:=had (by omega)
   obtain ⟨c0,c1,c2,c3⟩:=hc k (by omega)
   replace c0:=hnx.cell hSb c0
   replace c1:=hnx.cell hSb c1
   replace c2:=hnx.cell hSb c2
   replace c3:=hnx.cell hSb c3
   dsimp only [eG] at c0 c1 c2 c3
   have hBs':=hnx.cell hS hBs
   gi_wp2
   refine hR.mono ?_
   rintro e W3 (⟨rfl,hJ3,hk3⟩|⟨rfl,hJx3⟩)
   ·gi_wp2
    go_roundw
    case rel=>exact ⟨k,by omega,by simp,by rw [adA f hk];exact hJ3,λj hj=>(hk3 j hj).trans (hnx j hj)⟩
    case measure=>simp [intOf]
   ·gi_wp2
    refine bodyPost_ret (results_none rfl _ _ _) rfl ?_
    exact ⟨⟨_,rfl⟩,.inr ⟨_,trivial,hJx3⟩⟩
  |zero=>
   gi_wp2
   go_end0
   exact ⟨⟨_,rfl⟩,.inl ⟨_,rfl,hJs⟩⟩
theorem anO (n:Nat) (hn:1<=n) {w:World} {Bs Bo:Nat} {ad:Option Addr} {cap b off:Nat} {xs:List ab} {S:Nat->Prop} (hlen:xs.length*32<=4503599627370496) (hS:S Bs) (had:0<xs.length->ad=some ⟨b,off,none⟩/\S b) (hlt:∀ k,S k->k<w.heap.size)
 (hBs:w.cell? ⟨Bs,Bo,none⟩=some (.slice ad xs.length cap))
 (hc:∀ j,j<xs.length->w.cell? ⟨b,off+j*4,none⟩=some (eG (xs.getD j gW).w0)/\w.cell? ⟨b,off+j*4+1,none⟩=some (eG (xs.getD j gW).w1)/\w.cell? ⟨b,off+j*4+2,none⟩=some (eG (xs.getD j gW).w2)/\w.cell? ⟨b,off+j*4+3,none⟩=some (eG (xs.getD j gW).w3)):
 SeqStopsK Fence.wide n aj 127 #[.pointer (some ⟨Bs,Bo,none⟩)] (λx:Int×ab=> #[.int .i64 x.1,elemV x.2]) (KpB S) (λys=>ys.map (·.2)=xs.reverse) (λ_=>True) xs.length w:=λl J Jx W hW _ _ hY h0=>by
 have hk:KpB S w W:=λk hk=>hW.block k (hlt k hk)
 refine (azY n hn l Bs Bo b off xs.length cap ad (λj=>xs.getD j gW) S hS had hlen J Jx hY W (hk.cell hS hBs) (λj hj=> ?_) h0).mono ?_
 ·obtain ⟨c0,c1,c2,c3⟩:=hc j hj
  have hSb:=(had (by omega)).2
  exact ⟨hk.cell hSb c0,hk.cell hSb c1,hk.cell hSb c2,hk.cell hSb c3⟩
 ·rintro e W' ⟨he,⟨ys,rfl,hj⟩|⟨pre,_,hj⟩⟩
  ·exact ⟨he,.inl ⟨_,am7 xs,hj⟩⟩
  ·exact ⟨he,.inr ⟨pre,trivial,hj⟩⟩
theorem aDU {R R':Ctx} {e:ab} {v:Value} (h:SV.rel R (.agg (unpack .elem e)) v):SV.rel R' (.agg (unpack .elem e)) v:=by
 simp only [SV.rel] at h⊢
 obtain ⟨vs,h1,h2,h3⟩:=h
 exact ⟨vs,h1,GO rfl h2,h3⟩
def gm (c:Int) (x:ab) (pre:YQ):ab:=pre.foldl (λe v=>dv (pS c) (aR (pS c) e x) v.2) gW
theorem ak2 (c:Int) (x:ab) (pre:YQ) (v:Int×ab):gm c x (pre++ [v])=dv (pS c) (aR (pS c) (gm c x pre) x) v.2:=by simp [gm]
theorem apN (c:Int) (x:ab) (ys:YQ) (xs:aB) (h:ys.map (·.2)=xs.reverse):gm c x ys=rP (pS c) x xs:=by
 unfold gm rP
 rw [<-List.foldl_reverse,<-h,List.foldl_map]
 rfl
noncomputable def pvH (c:Int) (x e:ab):Hp:=((pvB 0).inj (yB c x gW e)).hp
theorem sE (c:Int) (x e:ab) {k:Nat} {ch:Ch} (h:pvH c x e k=some ch):k<4/\ch.ep=0/\((∃ vs,ch.body=.cells vs/\vs.all SV.num=true)\/∃ xs,ch.body=.row .u64 xs):=by
 match k with
 |0=>cases h;exact ⟨by omega,rfl,.inl ⟨_,rfl,rfl⟩⟩
 |1=>cases h;exact ⟨by omega,rfl,.inr ⟨_,rfl⟩⟩
 |2=>cases h;exact ⟨by omega,rfl,.inr ⟨_,rfl⟩⟩
 |3=>cases h;exact ⟨by omega,rfl,.inr ⟨_,rfl⟩⟩
 |k+4=>cases h
theorem kC (c:Int) (x e:ab):Plain (pvH c x e):=λ_ _ h=>⟨(sE c x e h).2.1,(sE c x e h).2.2⟩
theorem GJ (c:Int) (x e:ab) {k:Nat} (h:k<4):∃ ch,pvH c x e k=some ch:=by
 match k with
 |0|1|2|3=>exact ⟨_,rfl⟩
 |k+4=>omega
theorem aDH (c:Int) (l:aB) (x:ab) {k:Nat} {ch:Ch} (h:pvH c x gW k=some ch):(pvA.inj (yA c l x)).hp k=some ch:=by
 match k with
 |0=>exact h
 |1=>exact h
 |2=>exact h
 |3=>exact h
 |k+4=>cases h
theorem Qv (c:Int) (x e e':ab) {k:Nat} {ch:Ch} (h:pvH c x e k=some ch):∃ ch',pvH c x e' k=some ch'/\ch'.ep=ch.ep/\ch'.body.shape=ch.body.shape:=by
 match k with
 |0=>cases h;exact ⟨_,rfl,rfl,rfl⟩
 |1=>cases h;exact ⟨_,rfl,rfl,rfl⟩
 |2=>cases h;exact ⟨_,rfl,rfl,rfl⟩
 |3=>cases h;exact ⟨_,rfl,rfl,rfl⟩
 |k+4=>cases h
theorem ak1 (c:Int) (x e v:ab) {k:Nat} {ch:Ch} (h:pvH c x e k=some ch):((pvC 4).inj (yC c x gW e v)).hp k=some ch:=by
 match k with
 |0=>exact h
 |1=>exact h
 |2=>exact h
 |3=>exact h
 |k+4=>cases h
theorem IB (c:Int) (x e v:ab) {k:Nat} {ch:Ch} (h:((pvC 4).inj (yC c x gW e v)).hp k=some ch):k<5/\ch.ep=0/\((∃ vs,ch.body=.cells vs/\vs.all SV.num=true)\/∃ xs,ch.body=.row .u64 xs)/\(k<4->pvH c x e k=some ch):=by
 match k with
 |0=>cases h;exact ⟨by omega,rfl,.inl ⟨_,rfl,rfl⟩,λ_=>rfl⟩
 |1=>cases h;exact ⟨by omega,rfl,.inr ⟨_,rfl⟩,λ_=>rfl⟩
 |2=>cases h;exact ⟨by omega,rfl,.inr ⟨_,rfl⟩,λ_=>rfl⟩
 |3=>cases h;exact ⟨by omega,rfl,.inr ⟨_,rfl⟩,λ_=>rfl⟩
 |4=>cases h;exact ⟨by omega,rfl,.inr ⟨_,rfl⟩,λh=>absurd h (by omega)⟩
 |k+5=>cases h
theorem aa2 (c:Int) (x e e':ab) {σ:Nat->Option Sx.Loc} {b:Nat} (h:wS σ (pvH c x e) b):wS σ (pvH c x e') b:=by
 obtain ⟨k,ch,L,h1,h2,h3⟩:=h
 obtain ⟨ch',h1',_⟩:=Qv c x e e' h1
 exact ⟨k,ch',L,h1',h2,h3⟩
theorem LB {σ:Nat->Option Sx.Loc} {hp:Hp} (hp1:Plain hp) {R:Ctx} {w:World} (hm:cB R w) (h:∀ c ch,hp c=some ch->R.hp c=some ch/\R.σ c=σ c) {b:Nat} (hb:wS σ hp b):∃ arr E,w.heap[b]? =some (.cells arr E (0,0)):=by
 obtain ⟨c,ch,L,h1,h2,rfl⟩:=hb
 obtain ⟨k1,k2⟩:=h c ch h1
 have h0:=hm.ch c ch k1
 obtain ⟨he,hb⟩:=hp1 c ch h1
 obtain ⟨ep,body⟩:=ch
 rcases hb with ⟨vs,hb,hn⟩|⟨xs,hb⟩
 ·cases hb
  simp only [eV,k2,h2] at h0
  obtain ⟨L',g1,_,_,arr,E,g4,_⟩:=h0
  cases g1
  exact ⟨arr,E,g4⟩
 ·cases hb
  simp only [eV,k2,h2] at h0
  obtain ⟨_,_,_,_,arr,E,g4,_⟩:=h0
  exact ⟨arr,E,g4⟩
def sL (x:ap2):Bool:=ac x.1.1
def ap1 (x:ap2):OT QH.Y:=.ok ⟨QG,((rP (pS x.1.1) x.1.2.2.1 x.1.2.1,()),())⟩
theorem apZ (e:ab) (hp:Hp):(QG.shape 0).prj ⟨[.agg (unpack .elem e)],hp⟩=some ((e,()),()):=rfl
def pvI (c:Int) (x:ab) (σ:Nat->Option Sx.Loc) (w1:World) (pre:YQ) (W:World):Prop:=
 cB (jF σ (pvH c x (gm c x pre)) w1 []) W/\w1.heap.size<=W.heap.size/\∀ b o,w1.heap[b]? =some o->¬wS σ (pvH c x gW) b->W.heap[b]? =some o
def pvX (c:Int) (x:ab) (σ:Nat->Option Sx.Loc) (w1:World) (v:Int×ab) (a:Act) (W:World):Prop:=
 ∃ (σ':Nat->Option Sx.Loc) (e:ab),(∀ k,k<4->σ' k=σ k)/\(∀ L,σ' 4=some L->w1.heap.size<=L.block)/\cB (jF σ' ((pvC 4).inj (yC c x gW e v.2)).hp w1 []) W/\SV.bw (jF σ' ((pvC 4).inj (yC c x gW e v.2)).hp w1 []) ((pvC 4).inj (yC c x gW e v.2)).tm a.tmps.toList/\a.defers= []
theorem ahk {w w':World} {row:Option Nat} {N:Nat} (hg:w.Kl w' row) (hr:∀ r,row=some r->N<=r/\∃ o:Obj,w.heap[r]? =some o/\o.isCells=false) {b:Nat} {o:Obj} (hb:b<N) (h:w.heap[b]? =some o):w'.heap[b]? =some o:=
 (hg.block b (Array.getElem?_eq_some_iff.1 h).1 λe=>by have:=(hr b e.symm).1;omega).trans h
theorem aDG (c:Int) (x:ab) (σ:Nat->Option Sx.Loc) (w1:World):OwnFrom w1.heap.size (pvI c x σ w1):=λs A B row h hg hr=>
 ⟨h.1.Kl hg hr (λb o h=>by rcases h with h|h<;>cases h),cV h.2.1 hg.size,λb o hb hn=>ahk hg hr (Array.getElem?_eq_some_iff.1 hb).1 (h.2.2 b o hb hn)⟩
theorem aDF (c:Int) (x:ab) (σ:Nat->Option Sx.Loc) (w1:World) (v:Int×ab) (a:Act):OwnFrom w1.heap.size (λ(_:Unit) W=>pvX c x σ w1 v a W):=λs A B row h hg hr=>by
 obtain ⟨σ',e,h1,h2,h3,h4⟩:=h
 exact ⟨σ',e,h1,h2,h3.Kl hg hr (λb o h=>by rcases h with h|h<;>cases h),h4⟩
section
variable {c:Int} {x:ab} {σ:Nat->Option Sx.Loc} {w1:World} {S:Nat->Prop} (hc:ac c=true) (hS:∀ k,S k->k<w1.heap.size/\¬wS σ (pvH c x gW) k)
include hS
theorem agh {e:ab} {W W':World} {pre:List (Int×ab)} (hi:pvI c x σ w1 pre W) {σ':Nat->Option Sx.Loc} {hp:Hp} (hp1:Plain hp) {R:Ctx} (hm:cB R W) (hR:∀ k ch,hp k=some ch->R.hp k=some ch/\R.σ k=σ' k)
 (hb:∀ b,b<w1.heap.size->wS σ' hp b->wS σ (pvH c x gW) b) {ds:List Deferred} {R':Ctx} (hx:(li σ' hp W ds).Ext R') (hm':cB R' W') (hp2:∀ k ch,hp k=some ch->∃ ch',R'.hp k=some ch'/\ch'.ep=0/\ch'.body.mut=true):
 KeepsFrom w1.heap.size W W'/\KpB S W W'/\w1.heap.size<=W'.heap.size/\MY w1 W'/\∀ b o,w1.heap[b]? =some o->¬wS σ (pvH c x gW) b->W'.heap[b]? =some o:=by
 obtain ⟨k1,k2⟩:=uS hx hm'
 have hs:=aoe hx hm' hp1 hp2
 refine ⟨⟨hs,λk o hk ho hcl=>k2 k o ho λhbr=> ?_⟩,λk hk=> ?_,cV hi.2.1 hs,hi.1.env.trans k1,λb o ho hn=> ?_⟩
 ·obtain ⟨arr,E,he⟩:=LB hp1 hm hR hbr
  rw [ho] at he
  cases he
  cases hcl
 ·obtain ⟨g1,g2⟩:=hS k hk
  have h1:w1.heap[k]? =some w1.heap[k]:=by simp [g1]
  have h2:=hi.2.2 k _ h1 g2
  rw [h2]
  exact k2 k _ h2 λhbr=>g2 (hb k g1 hbr)
 ·have hlt:=(Array.getElem?_eq_some_iff.1 ho).1
  exact k2 b o (hi.2.2 b o ho hn) λhbr=>hn (hb b hlt hbr)
theorem apM (g:bV aj te iz) {vals:Array Value} (hbase:SV.bw (jF σ (pvH c x gW) w1 []) ((pvB 0).inj (yB c x gW gW)).tm vals.toList) {l n:Nat} {pre:List (Int×ab)} {v:Int×ab} {W:World} (hi:pvI c x σ w1 pre W) {K:Act->World->Prop}
 (hK:∀ a' W',KeepsFrom w1.heap.size W W'->KpB S W W'->pvI c x σ w1 pre W'->pvX c x σ w1 v a' W'->K a' W'):
 (yi (fF (fF pvc 2) 1)).1.wpIn (Fence.wide.inRound l) n aj (Exit.then K (λ_ _ _=>False)) {tmps:=((#[12,13]:Array Tmp).zip #[.int .i64 v.1,elemV v.2]).foldl (λt (p,v)=>t.setIfInBounds p v) vals,defers:= []} W:=by
 have hlike:ai0 4 (jF σ (pvH c x gW) w1 []) (li σ (pvH c x (gm c x pre)) W []):=λk ch hk h=>by
  obtain ⟨ch',h1,h2,h3⟩:=Qv c x gW (gm c x pre) h
  exact ⟨ch',h1,h2,h3,rfl⟩
 have h0:=mW hlike (by kernel_rfl) hbase
 have h1:=SV.A5 (SV.A5 h0 12 (x:=.gu) (v:=.int .i64 v.1) (by simp only [SV.rel])) 13 (x:=.agg (unpack .elem v.2)) (v:=elemV v.2) (by
  simp only [SV.rel,elemV,unpack]
  exact ⟨_,rfl,by simp [SV.bw,SV.rel],by simp [Value.oneCell',eG]⟩)
 refine (CX g follows hi.1 (σ:=σ) (st:=⟨((pvB 0).inj (yB c x gW (gm c x pre))).tm.set 13 (.agg (unpack .elem v.2)),pvH c x (gm c x pre)⟩) (kC _ _ _) (λk ch h=>⟨h,rfl⟩) (D:=pvC 4) ?_ (λk ch h=>(sE _ _ _ h).1) (pv2 c x gW (gm c x pre) v.2) rfl ?_).2 l (by kernel_rfl)
 ·simp only [Array.toList_setIfInBounds,List.zip_toArray,List.zip_cons_cons,List.zip_nil_right,List.foldl_toArray,List.foldl_cons,List.foldl_nil]
  exact h1
 ·intro R' a' W' hx hst
  have hp2:∀ k ch,pvH c x (gm c x pre) k=some ch->∃ ch',R'.hp k=some ch'/\ch'.ep=0/\ch'.body.mut=true:=λk ch h=>by
   obtain ⟨_,h2,h3⟩:=sE _ _ _ h
   refine ⟨ch,by rw [hst.hp];exact ak1 _ _ _ v.2 h,h2,?_⟩
   rcases h3 with ⟨vs,h3,_⟩|⟨xs,h3⟩<;>rw [h3]<;>rfl
  have hσ:∀ k,k<4->R'.σ k=σ k:=λk hk=>by
   obtain ⟨ch,h⟩:=GJ c x (gm c x pre) hk
   exact CW hx (kC _ _ _) h (by rw [hst.hp];exact ak1 _ _ _ v.2 h) (sE _ _ _ h).2.1
  obtain ⟨k1,k2,k3,k4,k5⟩:=agh hS (e:=gW) hi (kC _ _ _) hi.1 (λk ch h=>⟨h,rfl⟩) (λb _ hb=>aa2 _ _ _ _ hb) hx hst.mem hp2
  refine hK a' W' k1 k2 ⟨wh hst.mem (kC _ _ _) (λk ch h=>⟨by rw [hst.hp];exact ak1 _ _ _ v.2 h,hσ k (sE _ _ _ h).1⟩) (λb o h=>by cases h) (λb _=>rfl) k4,k3,k5⟩ ?_
  have hC:Plain ((pvC 4).inj (yC c x gW (gm c x pre) v.2)).hp:=λk ch h=>⟨(IB _ _ _ _ h).2.1,(IB _ _ _ _ h).2.2.1⟩
  have hall:∀ k ch,((pvC 4).inj (yC c x gW (gm c x pre) v.2)).hp k=some ch->R'.hp k=some ch/\R'.σ k=R'.σ k:=λk ch h=>⟨by rw [hst.hp];exact h,rfl⟩
  refine ⟨R'.σ,gm c x pre,hσ,λL hL=> ?_,wh hst.mem hC hall (λb o h=>by cases h) (λb _=>rfl) k4,mW (k:=5) (R:=R') (R':=jF R'.σ ((pvC 4).inj (yC c x gW (gm c x pre) v.2)).hp w1 []) (λk ch hk h=>⟨ch,by rw [hst.hp] at h;exact h,rfl,rfl,rfl⟩) (by kernel_rfl) hst.tm,?_⟩
  ·have h4:=hst.mem.ch 4 ⟨0,.row .u64 (eL v.2)⟩ (by rw [hst.hp];rfl)
   simp only [eV,hL] at h4
   obtain ⟨_,_,_,hU,arr,E,hh,_⟩:=h4
   rw [hx.U] at hU
   by_cases hbr:wS σ (pvH c x (gm c x pre)) L.block
   ·obtain ⟨k,ch,L',g1,g2,g3⟩:=hbr
    have g4:=(sE _ _ _ g1).1
    obtain ⟨ch',m1,m2,m3⟩:=hp2 k ch g1
    have:=hst.mem.apart 4 k _ ch' L L' (by rw [hst.hp];rfl:R'.hp 4=some ⟨0,.row .u64 (eL v.2)⟩) m1 rfl m3 hL ((hσ k g4).trans g2) g3.symm
    omega
   ·have hU':W.heap[L.block]? =none:=(if_neg hbr).symm.trans hU
    have:=hi.2.1
    rw [Array.getElem?_eq_none_iff] at hU'
    omega
  ·rw [hst.defers,hx.U];rfl
include hc
theorem aDE (g:bV aj te iz) {l n:Nat} {pre:List (Int×ab)} {v:Int×ab} {a:Act} {W:World} (hi:pvI c x σ w1 pre W) (ha:pvX c x σ w1 v a W) (Ix:Code->List (Int×ab)->World->Prop):
 (yi (fF (fF pvc 2) 1)).2.wpIn (Fence.wide.inRound l) n aj (ownPostG w1.heap.size (KpB S) (pvI c x σ w1) Ix (pre++ [v]) W) a W:=by
 obtain ⟨σ',e,hσ,h4,hm,ht,hd⟩:=ha
 have he:eL (gm c x pre)=eL e:=akT (c:=3) hi.1 hm rfl rfl (hσ 3 (by omega)) rfl
 have he':gm c x pre=e:=by
  revert he
  generalize gm c x pre=u
  intro he
  obtain ⟨u0,u1,u2,u3⟩:=u
  obtain ⟨e0,e1,e2,e3⟩:=e
  simp only [eL,List.cons.injEq,and_true] at he
  obtain ⟨rfl,rfl,rfl,rfl⟩:=he
  rfl
 have hC:Plain ((pvC 4).inj (yC c x gW e v.2)).hp:=λk ch h=>⟨(IB _ _ _ _ h).2.1,(IB _ _ _ _ h).2.2.1⟩
 refine (CX g follows hm (σ:=σ') (st:=(pvC 4).inj (yC c x gW e v.2)) hC (λk ch h=>⟨h,rfl⟩) (D:=pvC 5) ?_ (λk ch h=>(IB _ _ _ _ h).1) (pv3 c x gW e v.2) (y:=yC c x gW (dv (pS c) (aR (pS c) e x) v.2) v.2) ?_ ?_).2 l (by kernel_rfl)
 ·exact mW (k:=5) (λk ch hk h=>⟨ch,h,rfl,rfl,rfl⟩) (by kernel_rfl) ht
 ·exact (ae (by simp only [aA,aI,hc];rfl)).trans rfl
 ·intro R' a' W' hx hst
  have hst2:R'.hp=((pvC 4).inj (yC c x gW (dv (pS c) (aR (pS c) e x) v.2) v.2)).hp:=hst.hp
  have hp2:∀ k ch,((pvC 4).inj (yC c x gW e v.2)).hp k=some ch->∃ ch',R'.hp k=some ch'/\ch'.ep=0/\ch'.body.mut=true:=λk ch h=>by
   rw [hst2]
   match k with
   |0=>exact ⟨_,rfl,rfl,rfl⟩
   |1=>exact ⟨_,rfl,rfl,rfl⟩
   |2=>exact ⟨_,rfl,rfl,rfl⟩
   |3=>exact ⟨_,rfl,rfl,rfl⟩
   |4=>exact ⟨_,rfl,rfl,rfl⟩
   |k+5=>cases h
  have hσ':∀ k,k<4->R'.σ k=σ k:=λk hk=>by
   obtain ⟨ch,h⟩:=GJ c x (dv (pS c) (aR (pS c) e x) v.2) hk
   obtain ⟨ch',h'⟩:=GJ c x e hk
   exact (CW hx hC (ak1 _ _ _ v.2 h') (by rw [hst2];exact ak1 _ _ _ v.2 h) (sE _ _ _ h).2.1).trans (hσ k hk)
  obtain ⟨k1,k2,k3,k4,k5⟩:=agh hS (e:=gW) hi hC hm (λk ch h=>⟨h,rfl⟩) (λb hb hbr=>by
   obtain ⟨k,ch,L,g1,g2,g3⟩:=hbr
   by_cases hk:k<4
   ·exact aa2 _ _ _ _ ⟨k,ch,L,(IB _ _ _ _ g1).2.2.2 hk,(hσ k hk).symm.trans g2,g3⟩
   ·have hk5:=(IB _ _ _ _ g1).1
    obtain rfl:k=4:=by omega
    have:=h4 L g2
    omega) hx hst.mem hp2
  refine ⟨k1,k2,?_,k3,k5⟩
  rw [ak2,he']
  exact wh hst.mem (kC _ _ _) (λk ch h=>⟨by rw [hst2];exact ak1 _ _ _ v.2 h,hσ' k (sE _ _ _ h).1⟩) (λb o h=>by cases h) (λb _=>rfl) k4
end
theorem ap0 (g:bV aj te iz) {c:Int} {x:ab} {l:List ab} {σ:Nat->Option Sx.Loc} {w1:World} {ys:List (Int×ab)} {W:World} {a1:Act} {D:Nat} (hD:w1.heap.size<=D) (hbase:SV.bw (jF σ (pvH c x gW) w1 []) ((pvB 0).inj (yB c x gW gW)).tm a1.tmps.toList) (ha1:a1.defers= [])
 (hi:pvI c x σ w1 ys W) (hK:W.heap[D]? =some (.deferred (some []))) {R:Ctx} (hF:∀ b o,R.F b=some o\/R.U b=some o->w1.heap[b]? =some o/\¬wS σ (pvH c x gW) b) (hFU:∀ b o,R.F b=some o->R.U b=none) (hhp:R.hp=λ_=>none) (hl:MY R.U.env w1) {K Kp:SV->Hp->Prop} (hk:∀ hp,K (.agg (unpack .elem (gm c x ys))) hp):
 (Code.seq (fF pvc 3) .ret).wpIn Fence.wide 9 aj (bodyPostM Fence.wide 9 aj Tryz.f27 (F7 R K Kp)) {a1 with defers:= {target:=.collected D,args:= #[]}::a1.defers} W:=by
 refine wpIn_seq ?_
 have hlike:ai0 4 (jF σ (pvH c x gW) w1 []) (li σ (pvH c x (gm c x ys)) W [{target:=.collected D,args:= #[]}]):=λk ch hk h=>by
  obtain ⟨ch',h1,h2,h3⟩:=Qv c x gW (gm c x ys) h
  exact ⟨ch',h1,h2,h3,rfl⟩
 refine (CX g follows hi.1 (σ:=σ) (st:=(pvB 0).inj (yB c x gW (gm c x ys))) (kC _ _ _) (λk ch h=>⟨h,rfl⟩) (D:=pvB 4) ?_ (λk ch h=>(sE _ _ _ h).1) (pv4 c x gW (gm c x ys)) rfl ?_).1
 ·dsimp only
  rw [ha1]
  exact mW hlike (by kernel_rfl) hbase
 ·intro R' a' W' hx hst
  have hst2:R'.hp=((pvB 4).inj (yB c x (gm c x ys) (gm c x ys))).hp:=hst.hp
  have hD':W'.heap[D]? =some (.deferred (some [])):=(uS hx hst.mem).2 D _ hK λhb=>by
   obtain ⟨arr,E,he⟩:=LB (kC _ _ _) hi.1 (λk ch h=>⟨h,rfl⟩) hb
   rw [hK] at he
   cases he
  have hdf:a'.defers= [{target:=.collected D,args:= #[]}]:=by rw [hst.defers,hx.U];show (_::a1.defers)=_;rw [ha1]
  refine wpIn_ret ?_
  show LeavesInM Fence.wide 9 aj Tryz.f27 a'.tmps (F7 R K Kp) a'.defers .returning W'
  rw [hdf]
  refine ⟨by simp,.inl ⟨_,_,rfl,run_takeDeferred hD',?_⟩⟩
  have hpl:Plain ((pvB 4).inj (yB c x (gm c x ys) (gm c x ys))).hp:=λk ch h=>by
   match k with
   |0=>cases h;exact ⟨rfl,.inl ⟨_,rfl,rfl⟩⟩
   |1=>cases h;exact ⟨rfl,.inr ⟨_,rfl⟩⟩
   |2=>cases h;exact ⟨rfl,.inr ⟨_,rfl⟩⟩
   |3=>cases h;exact ⟨rfl,.inr ⟨_,rfl⟩⟩
   |k+4=>cases h
  obtain ⟨q1,q2⟩:=uS hx hst.mem
  have hlk:MY w1 W':=hi.1.env.trans q1
  have hg:=grownBy_putObj' W' D (.deferred none)
  have hr:∀ r,some D=some r->w1.heap.size<=r/\∃ o:Obj,W'.heap[r]? =some o/\o.isCells=false:=λr e=>by cases e;exact ⟨hD,_,hD',rfl⟩
  have hm2:=(wh hst.mem hpl (σ:=R'.σ) (U:=⟨λ_=>none,w1,[]⟩) (λk ch h=>⟨by rw [hst2];exact h,rfl⟩) (λb o h=>by cases h) (λb _=>rfl) hlk).Kl hg hr (λb o h=>by rcases h with h|h<;>cases h)
  have hst3:iX (jF R'.σ ((pvB 4).inj (yB c x (gm c x ys) (gm c x ys))).hp w1 []) ((pvB 4).inj (yB c x (gm c x ys) (gm c x ys))) {tmps:=a'.tmps,defers:= []} (W'.putObj D (.deferred none)):=
   ⟨rfl,hm2,mW (k:=4) (R:=R') (R':=jF R'.σ ((pvB 4).inj (yB c x (gm c x ys) (gm c x ys))).hp w1 []) (λk ch hk h=>⟨ch,by rw [hst2] at h;exact h,rfl,rfl,rfl⟩) (by kernel_rfl) hst.tm,rfl⟩
  obtain ⟨sv,v,e1,e2,e3⟩:=kn g.ty hst3 (fn:=Tryz.f27) (K:=λz=>z=.agg (unpack .elem (gm c x ys))) (by rw [pv5])
  subst e1
  refine ⟨v,e3,.inl ⟨_,v,R,rfl,Ctx.Ext.refl R,?_,aDU e2,hk _⟩⟩
  have hkeep:∀ b o,R.F b=some o\/R.U b=some o->(W'.putObj D (.deferred none)).heap[b]? =some o:=λb o h=>by
   obtain ⟨h1,h2⟩:=hF b o h
   exact ahk hg hr (Array.getElem?_eq_some_iff.1 h1).1 (q2 b o (hi.2.2 b o h1 h2) λhb=>h2 (aa2 _ _ _ _ hb))
  exact ⟨λb o h=>hkeep b o (.inl h),λb o h=>hkeep b o (.inr h),λk ch h=>(by rw [hhp] at h;cases h),λk k' ch ch' L L' h=>(by rw [hhp] at h;cases h),hFU,hl.trans hm2.env⟩
theorem aDC (c:Int) (l:aB) (x:ab) {st:St} (h:st=pvS c l x):wps te iz fV 100 (.seq (fF pvc 0) (.seq (fF pvc 1) (fF (fF pvc 2) 0))) st (onN pvA λs=>s=yA c l x):=by
 rw [h,pv1]
 exact (rfl:yA c l x=yA c l x)
theorem axk {R:Ctx} {w:World} {vs:List Value} (hhp:R.hp=λ_=>none) (hd:R.U.dfs= []) (hm:cB R w) {c:Int} {l:List ab} {x:ab} (ha:SV.bw R [.int c,.lst .elem l,.agg (unpack .elem x)] vs):
 iX R (pvS c l x) {tmps:=vs.toArray++Array.replicate (Tryz.f27.ntmps-vs.toArray.size) undef,defers:= []} w:=by
 have hlen:vs.length=3:=SV.aN ha
 refine ⟨hhp,hm,?_,hd.symm⟩
 simp only [Array.toList_append,List.toList_toArray,Array.toList_replicate,List.size_toArray,hlen,Tryz.ntmps27]
 exact SV.bA ha (SV.pK (by rw [fM,fM]) λi h1 h2=>by rw [List.getElem_replicate,List.getElem_replicate];simp only [SV.rel])
theorem axj {c:Int} {l:List ab} {x:ab} {st:St} (h:wps te iz fV 99 (.seq (fF pvc 1) (fF (fF pvc 2) 0)) st (onN pvA λs=>s=yA c l x)):wps te iz fV 98 (fF pvc 1) st (toN λst=>wps te iz fV 98 (fF (fF pvc 2) 0) st (onN pvA λs=>s=yA c l x)):=TB 98 h rfl aDS
theorem aDD (g:bV aj te iz) {R:Ctx} {w:World} {a:Act} (hsm:Small R 0) {c:Int} {l:List ab} {x:ab} {st:St} (he:st=pvS c l x) (hst:iX R st a w) {n:Nat} {b d:Code} {Q:Exit->Act->World->Prop} (hQ:∀ R1 a1 w1,R.Ext R1->iX R1 (pvA.inj (yA c l x)) a1 w1->b.wpIn Fence.wide n aj (Exit.then (d.wpIn Fence.wide n aj Q) Q) a1 w1):
 (Code.seq (fF pvc 0) (.seq (fF pvc 1) (.seq (.seq (fF (fF pvc 2) 0) b) d))).wpIn Fence.wide n aj Q a w:=by
 refine wpIn_seq (Dz g (R₀:=R) (Ctx.Ext.refl R) hst (TB 99 (aDC c l x he) rfl aDS) aFP λR1 st1 a1 w1 hx1 hst1 h1=> ?_)
 refine wpIn_seq (Dz g (R₀:=R) hx1 hst1 (axj h1) aFP λR2 st2 a2 w2 hx2 hst2 h2=> ?_)
 have h2':wps te iz fV 98 (fF (fF pvc 2) 0) st2 (onN pvA λs=>s=yA c l x):=h2
 refine wpIn_seq (wpIn_seq (Dz g (R₀:=R) hx2 hst2 h2' aDS λR3 st3 a3 w3 hx3 hst3 h3=> ?_))
 obtain ⟨y,R1,rfl,hx,hq⟩:=Shape.yE (R₀:=R) (s:=pvA) hsm hx3 hst3 h3
 exact hQ R1 a3 w3 hx hq
theorem aF5 (c:Int) (l:aB) (x:ab):(pvA.inj (yA c l x)).tm[11]? =some (.fn (.func 127) [] [.ptr 4 0 0 0]):=by kernel_rfl
theorem aHP (c:Int) (l:aB) (x:ab):(pvA.inj (yA c l x)).hp 4=some ⟨0,.cells [.lst .elem l]⟩:=by kernel_rfl
theorem apL {R:Ctx} {c:Int} {l:List ab} {x:ab} {a:Act} {w:World} (hq:iX R (pvA.inj (yA c l x)) a w):∃ (L:Sx.Loc) (ad:Option Addr) (cap:Nat),R.σ 4=some L/\a.eval (.tmp 11)=.func (.func 127) #[] #[.pointer (some ⟨L.block,L.base,none⟩)]/\
 w.cell? ⟨L.block,L.base,none⟩=some (.slice ad l.length cap)/\L.block<w.heap.size/\Rep R.F (.list .elem) l [.slice ad l.length cap]:=by
 have h:=ks hq (.tmp 11)
 have e:(pvA.inj (yA c l x)).eval (.tmp 11)=.fn (.func 127) [] [.ptr 4 0 0 0]:=by
  simp only [St.eval,eZ,aF5]
  rfl
 rw [e] at h
 simp only [SV.rel] at h
 obtain ⟨l1,l2,h1,h2,h3⟩:=h
 have hc4:R.hp 4=some ⟨0,.cells [.lst .elem l]⟩:=by rw [hq.hp];exact aHP c l x
 simp only [SV.bw] at h2 h3
 obtain ⟨v,r,rfl,h4,rfl⟩:=h3
 subst h2
 simp only [SV.rel,Ctx.ptr] at h4
 obtain ⟨_,ch,g1,g2,g3⟩:=h4
 rw [hc4] at g1
 cases g1
 obtain ⟨L,g4,rfl⟩:=g3 rfl
 have hm:=hq.mem.ch 4 _ hc4
 simp only [eV] at hm
 obtain ⟨L',k1,_,_,arr,E,k2,k3,k4,k5,_⟩:=hm
 rw [g4] at k1
 cases k1
 simp only [SV.bw,SV.rel] at k5
 obtain ⟨u,r,k6,k7,rfl⟩:=k5
 have k8:=k7
 simp only [Rep] at k8
 obtain ⟨_,ad,cap,k9,_⟩:=k8
 cases k9
 refine ⟨L,ad,cap,g4,by rw [h1];simp,?_,(Array.getElem?_eq_some_iff.1 k2).1,k7⟩
 simp only [World.cell?,k2,Option.isSome_none,Bool.false_eq_true,if_false]
 have:=congrArg (·[0]?) k6
 simp only [List.getElem?_drop,List.getElem?_cons_zero,Nat.add_zero] at this
 rw [<-this]
 exact Array.getElem?_toList.symm
theorem axl {R:Ctx} {w:World} (hm:cB R w) {l:List ab} {ad:Option Addr} {cap:Nat} (h:Rep R.F (.list .elem) l [.slice ad l.length cap]):∃ b off,l.length<=cN/\(0<l.length->ad=some ⟨b,off,none⟩/\∃ o,R.F b=some o)/\
 ∀ j,j<l.length->w.cell? ⟨b,off+j*4,none⟩=some (eG (l.getD j gW).w0)/\w.cell? ⟨b,off+j*4+1,none⟩=some (eG (l.getD j gW).w1)/\w.cell? ⟨b,off+j*4+2,none⟩=some (eG (l.getD j gW).w2)/\w.cell? ⟨b,off+j*4+3,none⟩=some (eG (l.getD j gW).w3):=by
 simp only [Rep] at h
 obtain ⟨h0,ad',cap',h1,h2,h3⟩:=h
 cases h1
 rcases h3 with rfl|⟨b,o,arr,E,fz,rfl,h4,h5,h6⟩
 ·exact ⟨0,0,h0,λh=>absurd h (Nat.lt_irrefl 0),λj hj=>absurd hj (Nat.not_lt_zero j)⟩
 ·refine ⟨b,o,h0,λ_=>⟨rfl,_,h4⟩,λj hj=> ?_⟩
  have h7:seg arr.toList (o+j*4) 4= [eG (l.getD j gW).w0,eG (l.getD j gW).w1,eG (l.getD j gW).w2,eG (l.getD j gW).w3]:=h6 j hj
  have hb:=hm.F b _ h4
  have at_:∀ i,i<4->w.cell? ⟨b,o+j*4+i,none⟩= [eG (l.getD j gW).w0,eG (l.getD j gW).w1,eG (l.getD j gW).w2,eG (l.getD j gW).w3][i]? :=λi hi=>by
   rw [<-h7]
   simp only [World.cell?,hb,Option.isSome_none,Bool.false_eq_true,if_false,seg]
   rw [List.getElem?_take_of_lt hi,List.getElem?_drop]
   exact Array.getElem?_toList.symm
  exact ⟨at_ 0 (by omega),at_ 1 (by omega),at_ 2 (by omega),at_ 3 (by omega)⟩
theorem aba (g:bV aj te iz) {R:Ctx} {w:World} {vs:List Value} {K Kp:SV->Hp->Prop} (hsm:Small R 0) (hd:R.U.dfs= []) (hm:cB R w) {c:Int} {l:List ab} {x:ab} (ha:SV.bw R [.int c,.lst .elem l,.agg (unpack .elem x)] vs) (hs:ac c=true)
 (hk:∀ hp,K (.agg (unpack .elem (rP (pS c) x l))) hp):Calls aj 27 vs.toArray w (F7 R K Kp):=by
 have hhp:R.hp=λ_=>none:=funext λk=>by
  cases h:R.hp k with
  |none=>rfl
  |some ch=>exact absurd (hsm k ch h).1 (Nat.not_lt_zero _)
 refine (callsIn_wide (n:=9)).1 (callsIn_of_wp_marks (F:=Fence.wide) (n:=9) (c:=pvc) Tryz.func27 (by kernel_rfl) trivial ?_ rfl)
 rw [aF4]
 refine aDD g hsm rfl (axk hhp hd hm ha) λR1 a1 w1 hx hq=> ?_
 obtain ⟨L4,ad,cap,hL4,e11,hc4,hb4,hrep⟩:=apL hq
 have hF1:∀ {k:Nat},wS R1.σ (pvH c x gW) k->R1.F k=none/\R1.U k=none/\k≠L4.block:=λ{k} hb=>by
  obtain ⟨j,ch,L,g1,g2,rfl⟩:=hb
  have hj:=sE _ _ _ g1
  have g1':R1.hp j=some ch:=by rw [hq.hp];exact aDH c l x g1
  have hmu:ch.body.mut=true:=by rcases hj.2.2 with ⟨vs,h,_⟩|⟨xs,h⟩<;>rw [h]<;>rfl
  refine ⟨((dF hq.mem g1' g2).1 hmu).1,((dF hq.mem g1' g2).1 hmu).2,λe=> ?_⟩
  have:=hq.mem.apart j 4 ch _ L L4 g1' (by rw [hq.hp];rfl:R1.hp 4=some ⟨0,.cells [.lst .elem l]⟩) hmu rfl g2 hL4 e
  omega
 have hbase:SV.bw (jF R1.σ (pvH c x gW) w1 []) ((pvB 0).inj (yB c x gW gW)).tm a1.tmps.toList:=by
  have h1:=SV.A5 hq.tm 11 (x:=.gu) (v:=a1.tmps.toList.getD 11 undef) (by simp only [SV.rel])
  have e:a1.tmps.toList.set 11 (a1.tmps.toList.getD 11 undef)=a1.tmps.toList:=by
   have hl:11<a1.tmps.toList.length:=by rw [SV.aN hq.tm];exact (by decide:11<22)
   rw [eZ,m9 hl]
   exact List.set_getElem_self hl
  rw [e] at h1
  exact mW (k:=4) (R:=R1) (λk ch hk h=>by
   obtain ⟨ch',h'⟩:=GJ c x gW hk
   have:=aDH c l x h'
   rw [hq.hp] at h
   rw [h] at this
   have e:=Option.some.inj this
   exact ⟨ch',h',by rw [e],by rw [e],rfl⟩) (by kernel_rfl) h1
 have hdf:a1.defers= []:=by rw [hq.defers,hx.U];exact hd
 obtain ⟨b,off,hb1,hb2,hb3⟩:=axl hq.mem hrep
 have hS:∀ k,(k=L4.block\/(0<l.length/\k=b))->k<w1.heap.size/\¬wS R1.σ (pvH c x gW) k:=λk hk=>by
  rcases hk with rfl|⟨h0,rfl⟩
  ·exact ⟨hb4,λhb=>(hF1 hb).2.2 rfl⟩
  ·obtain ⟨_,o,ho⟩:=hb2 h0
   exact ⟨(Array.getElem?_eq_some_iff.1 (hq.mem.F _ o ho)).1,λhb=>by rw [(hF1 hb).1] at ho;cases ho⟩
 refine wpIn_block (wpIn_rangeFunc_ownH (F:=Fence.wide) rfl (by decide) e11 trivial (enters_of Tryz.func127 (by kernel_rfl) rfl)
  (anO 8 (by decide) (S:=λk=>k=L4.block\/(0<l.length/\k=b)) (by have h:l.length<=140737488355328:=hb1;omega) (.inl rfl) (λh0=>⟨(hb2 h0).1,.inr ⟨h0,rfl⟩⟩) (λk hk=>(hS k hk).1) hc4 hb3)
  (λh1 h2 k hk=>(h2 k hk).trans (h1 k hk)) (λW j o o' hj _ _ _ k hk=>World.putObj_heap_other (λe=>by have:=(hS k hk).1;omega)) (Below.refl _ _) (λ_=>rfl)
  (pvI c x R1.σ w1) (λ_ _ _=>False) (aDG c x R1.σ w1) (λ_ _ _ _ _ hs _ _=>hs) ?h0 (pvX c x R1.σ w1) (λv a'=>aDF c x R1.σ w1 v a') ?assign ?body ?done ?stop)
 case h0=>exact ⟨wh hq.mem (kC _ _ _) (λk ch h=>⟨by rw [hq.hp];exact aDH c l x h,rfl⟩) (λb o h=>by cases h) (λb _=>rfl) ⟨rfl,rfl,rfl⟩,Nat.le_refl _,λb o h _=>h⟩
 case assign=>exact λl' pre v W K hi hK=>apM hS g hbase hi hK
 case body=>exact λl' pre v a' W _ _ hi ha _=>aDE hs hS g hi ha _
 case done=>
  intro D ys W hD hys hi hK
  refine ap0 g (l:=l) hD hbase hdf hi hK (λk o h=> ?_) hm.FU hhp (by have:=hq.mem.env;rw [hx.U] at this;exact this) (λhp=>by rw [apN c x ys l hys];exact hk hp)
  rcases h with h|h
  ·exact ⟨hq.mem.F _ _ (hx.F _ _ h),λhb=>by have:=hx.F _ _ h;rw [(hF1 hb).1] at this;cases this⟩
  ·have h':R1.U k=some o:=by rw [hx.U];exact h
   exact ⟨hq.mem.U _ _ h',λhb=>by rw [(hF1 hb).2.1] at h';cases h'⟩
 case stop=>exact λD c pre W _ _ h _=>h.elim
theorem axt:aa aj 27 (QH.az sL ap1):=by
 refine asp (W:=λargs hp K Kp=>∃ x:ap2,args=(QH.inp.inj x).tm/\ac x.1.1=true/\∀ hp,K (.agg (unpack .elem (rP (pS x.1.1) x.1.2.2.1 x.1.2.1))) hp) Tryz.func27 rfl (by kernel_rfl) (k:=0) rfl (λR w args vs K Kp hsm hd hm ha hw=> ?_) λx oy hp hr=> ?_
 ·obtain ⟨⟨⟨c,l,x,⟨⟩⟩,⟨⟩⟩,rfl,hs,hk⟩:=hw
  exact aba Y7 hsm hd hm ha hs hk
 ·cases hr
  exact ⟨λv hp=>(QG).is ((rP (pS x.1.1) x.1.2.2.1 x.1.2.1,()),()) false v hp,λ_ _=>False,⟨x,rfl,hp,λhp'=>⟨rfl,apZ _ hp'⟩⟩,λv hp h=>h,λ_ _ h=>h.elim⟩
def Dr:bt:=(QH.az sL ap1)
theorem aa9:aa aj 27 Dr:=axt
theorem aa8:ax Dr:=av
def au9:Env:=aq 27 Dr iz
theorem Za:bV aj te au9:=aU follows Y7 aa9 aa8
end
section
open Sx Go
set_option maxRecDepth 100000
def zo:af:=⟨kZ,[],false,0,false⟩
def RF:aL:=⟨iq,[],false⟩
def BI:aL:=⟨Am,[],true⟩
abbrev Wz:Type:=aiG
def arE (a0:ab) (a1:Int):OT zo.Y:=
 (.br (a1==(0:Int))
 (.br (!(a0.w0==(0:UInt64)&&(a0.w1==(0:UInt64)&&(a0.w2==(0:UInt64)&&(a0.w3==(0:UInt64)&&true)))))
  (.ok ⟨RF,((a0,()),())⟩)
  (.ok ⟨BI,(((100:Int),()),())⟩))
 (.ok ⟨BI,((a1,()),())⟩))
theorem ami (pre:Wz->Bool) (F:Wz->OT zo.Y) (hF:∀ (x:Wz) oy,pre x=true->(F x).run=some oy->(arE x.1.1 x.1.2.1).run=some oy):aa aj 66 (zo.az pre F):=
 aEw Za 66 Tryz.f66 zo [RF] [BI] bD (λx=>arE x.1.1 x.1.2.1) hF
def Wy (_:Wz):Bool:=true
def arF (x:Wz):OT zo.Y:=.br (x.1.2.1==0) (.br (bC x.1.1) (.ok ⟨BI,(((100:Int),()),())⟩) (.ok ⟨RF,((x.1.1,()),())⟩)) (.ok ⟨BI,((x.1.2.1,()),())⟩)
theorem ayp:aa aj 66 (zo.az Wy arF):=ami _ _ λx oy hp ho=>by
 rw [<-ho]
 obtain ⟨⟨v,e,⟨⟩⟩,⟨⟩⟩:=x
 show (OT.br (e==0) (OT.br (!bC v) _ _) _).run=(OT.br (e==0) (OT.br (bC v) _ _) _).run
 cases e==0
 ·rfl
 ·cases bC v<;>rfl
def D6:bt:=(zo.az Wy arF)
theorem acB:aa aj 66 D6:=ayp
theorem acA:ax D6:=av
def avl:Env:=aq 66 D6 au9
theorem Zl:bV aj te avl:=aU follows Za acB acA
def nM:af:=⟨[Pb,aC],[],true,0,false⟩
def BD:aL:=⟨[],[],false⟩
def tf:aL:=⟨Am,[],true⟩
abbrev JN:Type:=(kW×eU)×Unit
def agY (a0:kW) (a1:Int):OT nM.Y:=
 let z0:Int:=cU a0
 (gd [ig ((a0,()),())] (.br (z0==(0:Int))
 (.br (a1==a0.fst)
  (.ok ⟨BD,((),())⟩)
  (.ok ⟨tf,(((40:Int),()),())⟩))
 (.ok ⟨tf,((z0,()),())⟩)))
theorem aci (pre:JN->Bool) (F:JN->OT nM.Y) (hF:∀ (x:JN) oy,pre x=true->(F x).run=some oy->(agY x.1.1 x.1.2.1).run=some oy):aa aj 58 (nM.az pre F):=
 aEw Zl 58 Tryz.f58 nM [BD] [tf] bD (λx=>agY x.1.1 x.1.2.1) hF
def vK (x:JN):Bool:=ig ((x.1.1,()),())
def gE (p:ml) (c:Int):Int:=cond (cU p==0) (cond (c==p.1) 0 40) (cU p)
def agZ (x:JN):OT nM.Y:=.br (gE x.1.1 x.1.2.1==0) (.ok ⟨BD,((),())⟩) (.ok ⟨tf,((gE x.1.1 x.1.2.1,()),())⟩)
theorem arh:aa aj 58 (nM.az vK agZ):=aci _ _ λx oy hp ho=>by
 rw [<-ho]
 obtain ⟨⟨p,c,⟨⟩⟩,⟨⟩⟩:=x
 refine (ae (bs:= [ig ((p,()),())]) (by rw [aA,show ig ((p,()),())=true from hp];rfl)).trans ?_
 show _=(OT.br (gE p c==0) (.ok ⟨BD,((),())⟩) (.ok ⟨tf,((gE p c,()),())⟩):OT nM.Y).run
 unfold gE
 cases h:cU p==0
 ·simp only [aT,h];rfl
 ·cases c==p.1<;>rfl
def y9:bt:=(nM.az vK agZ)
theorem V8:aa aj 58 y9:=arh
theorem V7:ax y9:=av
def ajn:Env:=aq 58 y9 avl
theorem EZ:bV aj te ajn:=aU follows Zl V8 V7
end
section
namespace Sx
open Go
def aAI:SV->Bool
 |.bool _|.u64 _|.u8 _|.int _|.str _|.lst .. =>true
 |_=>false
def Ty.aqr:Ty->Bool
 |.prod a b=>a.aqr&&b.aqr
 |.arr .. =>false
 |_=>true
theorem DB {ok:Nat->Bool} {hp:Hp}:∀ (t:Ty) (cs:List SV) (x:t.T),t.aqr=true->kK ok hp t cs=some x->cs.all aAI=true->unpack t x=cs
 |.bool,cs,x,_,h,_=>by
  simp only [kK] at h;unfold alv at h
  split at h<;>first|(cases h;rfl)|cases h
 |.u64,cs,x,_,h,_=>by
  simp only [kK] at h;unfold aFv at h
  split at h<;>first|(cases h;rfl)|cases h
 |.u8,cs,x,_,h,_=>by
  simp only [kK] at h;unfold pU8 at h
  split at h<;>first|(cases h;rfl)|cases h
 |.int,cs,x,_,h,_=>by
  simp only [kK] at h;unfold aFx at h
  split at h<;>first|(cases h;rfl)|cases h
 |.str,cs,x,_,h,_=>by
  simp only [kK] at h;unfold aFw at h
  split at h<;>first|(cases h;rfl)|cases h
 |.elem,cs,x,_,h,_=>by
  simp only [kK] at h;unfold alu at h
  split at h<;>first|(cases h;rfl)|cases h
 |.prod a b,cs,x,hn,h,hc=>by
  simp only [Ty.aqr,aw] at hn
  simp only [kK] at h
  obtain ⟨h1,h2⟩:=aW h
  have hc':=List.all_eq_true.1 hc
  simp only [unpack]
  rw [DB a _ _ hn.1 h1 (List.all_eq_true.2 λy hy=>hc' y (List.mem_of_mem_take hy)),DB b _ _ hn.2 h2 (List.all_eq_true.2 λy hy=>hc' y (List.mem_of_mem_drop hy)),List.take_append_drop]
 |.arr n t,cs,x,hn,_,_=>by cases hn
 |.list t,cs,x,_,h,hc=>by
  simp only [kK] at h
  split at h
  ·unfold aDO at h
   split at h
   ·rename_i y
    cases y<;>first|(simp only [aA,aI,aJ] at hc;cases hc;done)|skip
    case lst t' xs=>
     simp only [uw] at h
     obtain ⟨e,h⟩:=bi h
     subst e
     cases h
     rfl
    all_goals (simp only [uw] at h;cases h)
   ·cases h
  ·cases h
def Out.less (c:Nat):Out->Out
 |.ret e=>.ret ⟨e.v,e.upd.filter λx=> !Nat.beq x.1 c⟩
 |.pan v u=>.pan v (u.filter λx=> !Nat.beq x.1 c)
def Out.upd:Out->List (Nat×Ch)
 |.ret e=>e.upd
 |.pan _ u=>u
def Iv (s:bt):bt:=⟨false,λd args hp=>match args.headD .gu with
 |.ptr c _ _ _=>match hp c with
  |some ⟨_,.cells vs⟩=>.guard (vs.all aAI) ((s.f d args hp).map (Out.less c))
  |_=>.fail
 |_=>.fail⟩
theorem vg {c:Nat} {ch:Ch}:∀ {u:List (Nat×Ch)} {hp:Hp},hp c=some ch->(∀ x ∈ u,x.1=c->x.2=ch)->cQ hp (u.filter λx=> !Nat.beq x.1 c)=cQ hp u
 | [],_,_,_=>rfl
 |(n,h)::r,hp,hc,hu=>by
  have hr:∀ x ∈ r,x.1=c->x.2=ch:=λx hx=>hu x (List.mem_cons_of_mem _ hx)
  cases hb:Nat.beq n c
  ·have hne:c≠n:=λe=>by subst e;simp at hb
   rw [List.filter_cons_of_pos (by simp [hb])]
   simp only [cQ]
   exact vg (by rw [if_neg hne];exact hc) hr
  ·have e:=aY hb
   subst e
   rw [List.filter_cons_of_neg (by simp [hb])]
   simp only [cQ]
   have:(λm=>if m=n then some h else hp m)=hp:=funext λm=>by
    split
    ·rename_i e;subst e;rw [hc];exact congrArg some (hu (m,h) (List.mem_cons_self ..) rfl)
    ·rfl
   rw [this]
   exact vg hc hr
theorem aeR {ν:Nm}:∀ {l:List (Nat×CSh)} {x:Gv l} {y:Nat×Ch},y ∈ kx ν l x->∃ q ∈ l,(ν q.1).1=y.1
 | [],_,_,h=>by cases h
 |c::r,x,y,h=>by
  rcases List.mem_cons.1 h with rfl|h
  ·exact ⟨c,List.mem_cons_self ..,rfl⟩
  ·obtain ⟨q,h1,h2⟩:=aeR h
   exact ⟨q,List.mem_cons_of_mem _ h1,h2⟩
theorem Cm {tm:List SV}:∀ {l:List (Nat×Sh)} {b:Bd} {n:Nat} {o:Option Nat},dH b n=some o->dH (oR tm l b) n=some o
 | [],_,_,_,h=>h
 |(i,s)::r,b,n,o,h=>by
  simp only [oR]
  exact Cm (LA h)
def az9 (t:Ty) {sl:List Sh} {b m:Bool} (F:af.T ⟨sl,[(0,.cells [.val true t])],b,1,m⟩->OT (af.Y ⟨sl,[(0,.cells [.val true t])],b,1,m⟩)):Prop:=
 ∀ x oy,(F x).run=some oy->∃ (rs:List Sh) (rest:List (Nat×CSh)) (pan:Bool) (y1:SlT (indexed 0 rs)) (y2:Gv rest),(rest.all λc=>Nat.ble 1 c.1)=true/\oy=⟨⟨rs,(0,.cells [.val true t])::rest,pan⟩,(y1,(x.2.1,y2))⟩
theorem Iu {P:Program} {f:FuncId} {t:Ty} {sl:List Sh} {b m:Bool} (ht:t.aqr=true) {pre:af.T ⟨.ptr 0 0 0::sl,[(0,.cells [.val true t])],b,1,m⟩->Bool} {F:af.T ⟨.ptr 0 0 0::sl,[(0,.cells [.val true t])],b,1,m⟩->OT (af.Y ⟨.ptr 0 0 0::sl,[(0,.cells [.val true t])],b,1,m⟩)}
 (hF:az9 t F) (h:aa P f (af.az ⟨.ptr 0 0 0::sl,[(0,.cells [.val true t])],b,1,m⟩ pre F)):aa P f (Iv (af.az ⟨.ptr 0 0 0::sl,[(0,.cells [.val true t])],b,1,m⟩ pre F)):=by
 refine ⟨λR w d args vs out hm hr hrun=> ?_⟩
 simp only [Iv] at hrun
 split at hrun
 ·rename_i c e i off ha
  split at hrun
  ·rename_i ep cs hc
   obtain ⟨hpl,hrun⟩:=OT.aE hrun
   obtain ⟨out',h1,rfl⟩:=OT.run_map hrun
   have key:∀ x ∈ out'.upd,x.1=c->x.2=⟨ep,.cells cs⟩:=by
    have h2:=h1
    simp only [af.az] at h2
    split at h2
    ·cases h2
    ·rename_i x hx
     obtain ⟨_,h2⟩:=OT.aE h2
     obtain ⟨oy,h3,h4⟩:=OT.run_bind h2
     obtain ⟨rs,rest,pan,y1,y2,hrest,rfl⟩:=hF x oy h3
     unfold af.emit at h4
     dsimp only at h4
     obtain ⟨hend,h5⟩:=OT.aE h4
     unfold Shape.prj at hx
     dsimp only at hx
     generalize hbd:(af.inp ⟨.ptr 0 0 0::sl,[(0,.cells [.val true t])],b,1,m⟩).bd ⟨args,R.hp⟩=bd at hx h5 hend
     have hb0:dH bd 0=some (some c):=by
      rw [<-hbd]
      show dH (fC R.hp _ (oR args ((0,.ptr 0 0 0)::indexed 1 sl) [])) 0=_
      refine ku ?_
      simp only [oR]
      cases args with
      |nil=>cases ha
      |cons a r=>
       replace ha:a=.ptr c e i off:=ha
       subst ha
       exact Cm rfl
     cases hb:(af.inp ⟨.ptr 0 0 0::sl,[(0,.cells [.val true t])],b,1,m⟩).LH ⟨args,R.hp⟩ bd&&Nat.beq args.length (af.inp ⟨.ptr 0 0 0::sl,[(0,.cells [.val true t])],b,1,m⟩).n
     ·rw [hb] at hx;cases hx
     ·rw [hb] at hx
      obtain ⟨_,hx2⟩:=aW hx
      obtain ⟨hx3,_⟩:=aW hx2
      simp only [kH,hb0,hc,ji,lH] at hx3
      obtain ⟨hx4,hx5⟩:=aW hx3
      have hx6:=DB t _ _ ht hx4 (List.all_eq_true.2 λy hy=>List.all_eq_true.1 hpl y (List.mem_of_mem_take hy))
      have hnil:cs.drop (Sh.val true t).size= []:=by
       cases hd:cs.drop (Sh.val true t).size with
       |nil=>rfl
       |cons a l=>rw [hd] at hx5;cases hx5
      have hcs:unpack t x.2.1.1=cs:=by
       rw [hx6]
       exact (List.append_nil _).symm.trans ((congrArg (_++ ·) hnil.symm).trans (List.take_append_drop _ _))
      have hu:out'.upd=(c,⟨ep,.cells (unpack t x.2.1.1++ [])⟩)::kx (af.nm ⟨.ptr 0 0 0::sl,[(0,.cells [.val true t])],b,1,m⟩ bd R.hp (fresh R.hp d)) rest y2:=by
       have e1:nameOf bd 0=c:=by unfold nameOf;rw [hb0]
       have e2:ZG R.hp c=ep:=by unfold ZG;rw [hc]
       have:out'.upd=kx (af.nm ⟨.ptr 0 0 0::sl,[(0,.cells [.val true t])],b,1,m⟩ bd R.hp (fresh R.hp d)) ((0,.cells [.val true t])::rest) (x.2.1,y2):=by
        cases pan<;>(cases h5;rfl)
       rw [this]
       show ((nameOf bd 0,_):Nat×Ch)::_=_
       show ((nameOf bd 0,(⟨ZG R.hp (nameOf bd 0),.cells (unpack t x.2.1.1++ [])⟩:Ch)):Nat×Ch)::_=_
       rw [e1,e2]
      rw [hu]
      intro y hy hyc
      rcases List.mem_cons.1 hy with rfl|hy
      ·rw [List.append_nil,hcs]
      ·exfalso
       obtain ⟨q,hq,hqn⟩:=aeR hy
       have hq1:=List.all_eq_true.1 hrest q hq
       unfold af.ni at hend
       simp only [aw,fZ] at hend
       have h7:=hend.2.2.2 q (List.mem_cons_of_mem _ hq)
       have hnb:Nat.blt q.1 1=false:=by
        have:=Nat.le_of_ble_eq_true hq1
        cases hz:Nat.blt q.1 1
        ·rfl
        ·have:=dK hz;omega
       have h8:=h7.2
       rw [hnb,Bool.false_or,aw] at h8
       have h9:=h8.2
       have:(af.nm ⟨.ptr 0 0 0::sl,[(0,.cells [.val true t])],b,1,m⟩ bd R.hp (fresh R.hp d) q.1).1=fresh R.hp d+(q.1-1):=by
        simp only [af.nm,hnb,aT]
       rw [this] at hqn
       rw [hqn,hyc,hc] at h9
       cases h9
   have hpost:∀ en w',iL R out' en w'->iL R (out'.less c) en w':=λen w' hp=>by
    cases out' with
    |ret q=>
     obtain ⟨v,R',h2,h3,h4⟩:=hp
     exact ⟨v,R',h2,⟨h3.ext,h3.hp.trans (vg hc key).symm,h3.mem⟩,h4⟩
    |pan q u=>
     obtain ⟨v,R',h2,h3,h4⟩:=hp
     exact ⟨v,R',h2,⟨h3.ext,h3.hp.trans (vg hc key).symm,h3.mem⟩,h4⟩
   rcases h.calls R w d args vs out' hm hr h1 with ⟨fn,f1,f2,f3,hcl⟩|⟨v,w',hv,hp⟩
   ·exact .inl ⟨fn,f1,f2,f3,hcl.mono hpost⟩
   ·exact .inr ⟨v,w',hv,hpost _ _ hp⟩
  ·cases hrun
 ·cases hrun
theorem yg {s:bt} (h:ax s):ax (Iv s):=λd args hp hp' out hg hrun=>by
 simp only [Iv] at hrun⊢
 split at hrun
 ·split at hrun
  ·rename_i ep cs hc
   rw [hg.me _ _ hc]
   obtain ⟨hpl,hrun⟩:=OT.aE hrun
   obtain ⟨out',h1,rfl⟩:=OT.run_map hrun
   exact (OT.ak hpl).trans (DJ (h d _ _ _ out' hg h1))
  ·cases hrun
 ·cases hrun
end Sx
end
section
open Sx Go
set_option maxRecDepth 100000
abbrev aqi:Ty:=.prod aHS (.prod .int (.prod .elem (.prod (.list .elem) (.prod (.list .elem) (.prod (.list (.prod .elem (.prod .elem .bool))) .elem)))))
def qv:af:=⟨[eX,jP,jP],[auT],false,1,false⟩
abbrev Kb:Type:=(Unit×aB×fK)×uz×Unit
def ary:Shape:=⟨35,[Ak,(1,jP),(2,jP),jV,(7,fE),(10,aC),(11,aC)],[rk,pa,lB],1,true⟩
abbrev fw:Type:=(Unit×aB×aB×rF)×uz×Af
def qu:Shape:=⟨35,[jV,(7,fE)],[rk,pa,lB],1,true⟩
abbrev tr:Type:=m6×uz×Af
def arB (a1:aB) (a2:aB) (a10:Int) (a11:Int) (c0_0:Gr) (c1:ap) (c2:ap):OT (Sum fw aZ):=
 let z0:Nat:=List.length c2
 let z1:Nat:=Int.toNat a11
 let z2:ab:= {w0:=0,w1:=0,w2:=0,w3:=0}
 let z3:ab:=List.getD a1 z1 z2
 let z4:ab:=List.getD a2 z1 z2
 let z5:ab:= {w0:=List.getD c2 0 0,w1:=List.getD c2 1 0,w2:=List.getD c2 2 0,w3:=List.getD c2 3 0}
 let z6:Nat:=pS c0_0.snd.fst
 let z7:ab:=aR z6 z3 z4
 let z8:ab:=dv z6 z5 z7
 (.br (decide (a11<a10))
 (gd [decide (4<=z0),inB a11 (List.length a1),inB a11 (List.length a2),ee ((c0_0.snd.fst,z3,z4,()),()),gT ((c0_0.snd.fst,z5,z7,()),()),decide ((4/1:Nat)+0<=z0),inR (a11+(1:Int))] (.ok (.inl (((),a1,a2,(),(),a10,a11+(1:Int),()),(c0_0,()),c1,List.set (List.set (List.set (List.set c2 0 z8.w0) 1 z8.w1) 2 z8.w2) 3 z8.w3,()))))
 (.ok (.inr ⟨(.exit 0,qu),(((),(),()),(c0_0,()),c1,c2,())⟩)))
def BG (s:fw):OT (Sum fw aZ):=arB s.1.2.1 s.1.2.2.1 s.1.2.2.2.2.2.1 s.1.2.2.2.2.2.2.1 s.2.1.1 s.2.2.1 s.2.2.2.1
def Wq (g0_0:fw->tr) (s:fw):OT aZ:=(.ok ⟨(.exit 0,qu),g0_0 s⟩)
def Ka:aL:=⟨iq,[rk],false⟩
section
variable (ok0:fw->Bool) (g0_0:fw->tr)
def ahc (a1:aB) (a2:aB) (c0_0:Gr):OT qv.Y:=
 let z0:fw:=(((),a1,a2,(),(),(↑(List.length a1):Int),(0:Int),()),(c0_0,()),[(0:UInt64),(0:UInt64),(0:UInt64),(0:UInt64)],[(0:UInt64),(0:UInt64),(0:UInt64),(0:UInt64)],())
 let z1:=(g0_0 z0).snd
 let z2:=z1.snd
 let z3:=z2.snd.fst
 let z4:=z2.fst
 let z5:ap:=lay z4 z3 4 (0:UInt64)
 (gd [ok0 z0,decide (4<=List.length z3),decide ((4/1:Nat)+0<=List.length z4),decide (4<=List.length z5)] (.ok ⟨Ka,(({w0:=List.getD z5 0 0,w1:=List.getD z5 1 0,w2:=List.getD z5 2 0,w3:=List.getD z5 3 0},()),(z1.fst.fst,()),())⟩))
theorem acv (h0:bh BG ok0 (Wq g0_0)) (pre:Kb->Bool) (F:Kb->OT qv.Y) (hF:∀ (x:Kb) oy,pre x=true->(F x).run=some oy->(ahc ok0 g0_0 x.1.2.1 x.1.2.2.1 x.2.1.1).run=some oy):aa aj 164 (qv.az pre F):=
 di EZ 164 Tryz.f164 qv [Ka] (lg EZ 0 ary [(0,qu)] none none BG bD h0 bD) (λx=>ahc ok0 g0_0 x.1.2.1 x.1.2.2.1 x.2.1.1) hF
end
theorem be {a b:Bool} (h:a=true) (k:b=true):(a&&b)=true:=by rw [h,k];rfl
abbrev wR:Type:=ml×(Int×(ab×(List ab×(List ab×(List Pt×ab)))))
def aEg (m:Nat) (a b:aB) (k:Nat) (e:ab):ab:=dv m e (aR m (a.getD k ⟨0,0,0,0⟩) (b.getD k ⟨0,0,0,0⟩))
def aEh (m:Nat) (a b:aB):ab:=upto (aEg m a b) gW a.length
def Ob (s:fw):Bool:=decide (s.1.2.2.2.2.2.1=(s.1.2.1.length:Int)/\s.1.2.2.2.2.2.2.1=0/\s.1.2.1.length<=s.1.2.2.1.length/\s.1.2.1.length<=140737488355328/\s.2.2.2.1=eL gW)&&ac s.2.1.1.2.1
def Wp (s:fw):tr:=(((),(),()),s.2.1,s.2.2.1,eL (aEh (pS s.2.1.1.2.1) s.1.2.1 s.1.2.2.1),())
theorem arA:bh BG Ob (Wq Wp):=by
 rintro ⟨⟨⟨⟩,a,b,⟨⟩,⟨⟩,n,i,⟨⟩⟩,⟨⟨o,⟨⟩⟩,c1,c2,⟨⟩⟩⟩ h
 have h':(decide (n=(a.length:Int)/\i=0/\a.length<=b.length/\a.length<=140737488355328/\c2=eL gW)&&ac o.2.1)=true:=h
 rw [aw] at h'
 obtain ⟨rfl,rfl,hl,hm,rfl⟩:=bm h'.1
 have hs:=h'.2
 have:=(bf (T:=BG) (λk e=>((((),a,b,(),(),(a.length:Int),(k:Int),()),(o,()),c1,eL e,()):fw)) (aEg (pS o.2.1) a b)
  (λe=>(⟨(.exit 0,qu),(((),(),()),(o,()),c1,eL e,())⟩:aZ)) a.length gW (λ_ _=>True) trivial (λk e hk _=>⟨?_,trivial⟩) (λe _=> ?_)).1
 ·obtain ⟨m,hm⟩:=this
  exact ⟨m,_,hm,rfl⟩
 ·refine (OT.ak (ag (by dsimp only;omega))).trans ((ae ?_).trans rfl)
  simp only [aA,aI,aJ,aw]
  exact ⟨rfl,ba (by omega),ba (by omega),hs,hs,rfl,aS (by omega)⟩
 ·exact OT.au (bq (by dsimp only;omega))
def D3 (x:Kb):Bool:=decide (x.1.2.1.length<=x.1.2.2.1.length/\x.1.2.1.length<=140737488355328)&&ac x.2.1.1.2.1
def Ry (x:Kb):OT qv.Y:=.ok ⟨Ka,((aEh (pS x.2.1.1.2.1) x.1.2.1 x.1.2.2.1,()),x.2)⟩
theorem amf:aa aj 164 (qv.az D3 Ry):=acv Ob Wp arA _ _ λx oy hp ho=>by
 rw [<-ho]
 obtain ⟨⟨⟨⟩,a,b,⟨⟩⟩,⟨⟨o,⟨⟩⟩,⟨⟩⟩⟩:=x
 have hp':(decide (a.length<=b.length/\a.length<=140737488355328)&&ac o.2.1)=true:=hp
 rw [aw] at hp'
 obtain ⟨h1,h2⟩:=bm hp'.1
 refine (ae ?_).trans rfl
 simp only [aA,aI,aJ,aw]
 exact ⟨be (ag ⟨rfl,rfl,h1,h2,rfl⟩) hp'.2,rfl,rfl,rfl⟩
theorem Wo:az9 aqi (sl:= [.ptr 0 0 0,.val false (.list .elem),.val false (.list .elem)]) (b:=false) (m:=false) Ry:=λx oy h=>by
 cases h
 exact ⟨[.val true .elem],[],false,_,(),rfl,rfl⟩
def J9:bt:=Iv (qv.az D3 Ry)
theorem arz:aa aj 164 J9:=Iu rfl Wo amf
theorem ame:ax J9:=yg av
def zl:bt:=J9
theorem Wn:aa aj 164 zl:=arz
theorem Wm:ax zl:=ame
def ajs:Env:=aq 164 zl ajn
theorem E3:bV aj te ajs:=aU follows EZ Wn Wm
def yY:af:=⟨[eX,jP,jP,xr,dw],[auT],false,1,false⟩
abbrev VZ:Type:=(Unit×aB×aB×cJ×o3)×uz×Unit
def ax1:Shape:=⟨68,[Ak,(1,jP),(3,xr),(10,ir),(11,.own 2),(41,aC),(42,aC)],[rk,(1,.cells o8),Ag],1,true⟩
abbrev gM:Type:=(Unit×aB×cJ×rF)×uz×rC×o6
def vJ:Shape:=⟨68,[Ak,(10,ir),(11,.own 2)],[rk,(1,.cells o8),Ag],1,true⟩
abbrev yX:Type:=nW×uz×rC×o6
def ax4 (a1:aB) (a3:cJ) (a41:Int) (a42:Int) (c0_0:Gr) (c1_0:cK) (c2:eC):OT (Sum gM aZ):=
 let z0:Nat:=Int.toNat a42
 let z1:ab:= {w0:=0,w1:=0,w2:=0,w3:=0}
 (.br (decide (a42<a41))
 (gd [inB a42 (List.length a1),inB a42 (List.length a3),decide ((List.length c2+1)*104<=140737488355328),inR (a42+(1:Int))] (.ok (.inl (((),a1,a3,(),(),a41,a42+(1:Int),()),(c0_0,()),(c1_0,()),c2++ [(List.getD a1 z0 z1,List.getD a3 z0 (z1,z1,false))],()))))
 (.ok (.inr ⟨(.exit 0,vJ),(((),(),(),()),(c0_0,()),(c1_0,()),c2,())⟩)))
def GW (s:gM):OT (Sum gM aZ):=ax4 s.1.2.1 s.1.2.2.1 s.1.2.2.2.2.2.1 s.1.2.2.2.2.2.2.1 s.2.1.1 s.2.2.1.1 s.2.2.2.1
def agX (g0_0:gM->yX) (s:gM):OT aZ:=(.ok ⟨(.exit 0,vJ),g0_0 s⟩)
def Rl:aL:=⟨o8,[rk],false⟩
section
variable (ok0:gM->Bool) (g0_0:gM->yX)
def ara (a1:aB) (a2:aB) (a3:cJ) (a4:ab) (c0_0:Gr):OT yY.Y:=
 let z0:Nat:=pS c0_0.snd.fst
 let z1:ab:=aEh z0 a1 a2
 let z2:ab:= {w0:=0,w1:=0,w2:=0,w3:=0}
 let z3:gM:=(((),a1,a3,(),(),(↑(List.length a1):Int),(0:Int),()),(c0_0,()),((z2,z2,false),()),[(aR z0 z1 c0_0.snd.snd.fst,c0_0.fst.snd.snd.snd.snd),(a4,c0_0.fst.snd.snd.snd.fst)],())
 let z4:=(g0_0 z3).snd
 let z5:=z4.fst.fst
 let z6:=z5.fst.fst
 let z7:=z4.snd.snd.fst
 (gd [D3 (((),a1,a2,()),(c0_0,()),()),ee ((c0_0.snd.fst,z1,c0_0.snd.snd.fst,()),()),ok0 z3,ow ((z6,z7,()),())] (.ok ⟨Rl,((AR z6 (wN z6 z7),()),(z5,()),())⟩))
theorem ama (h0:bh GW ok0 (agX g0_0)) (pre:VZ->Bool) (F:VZ->OT yY.Y) (hF:∀ (x:VZ) oy,pre x=true->(F x).run=some oy->(ara ok0 g0_0 x.1.2.1 x.1.2.2.1 x.1.2.2.2.1 x.1.2.2.2.2.1 x.2.1.1).run=some oy):aa aj 138 (yY.az pre F):=
 di E3 138 Tryz.f138 yY [Rl] (lg E3 0 ax1 [(0,vJ)] none none GW bD h0 bD) (λx=>ara ok0 g0_0 x.1.2.1 x.1.2.2.1 x.1.2.2.2.1 x.1.2.2.2.2.1 x.2.1.1) hF
end
def AX (o:wR) (a b:aB) (g:List Pt) (r:ab):List Tm:=upto (rQ g a) [(aR (pS o.2.1) (aEh (pS o.2.1) a b) o.2.2.1,o.1.2.2.2.2),(r,o.1.2.2.2.1)] a.length
def Ql (o:wR) (a b:aB) (g:List Pt) (r:ab):Pt:=AR o.1.1 (wN o.1.1 (AX o a b g r))
theorem Sz (G:List Pt) (l:aB) (t:List Tm):∀ n,(upto (rQ G l) t n).length=n+t.length
 |0=>(Nat.zero_add _).symm
 |n+1=>by
  show (upto (rQ G l) t n++ [_]).length=_
  rw [bL,Sz G l t n,List.length_singleton]
  omega
def VY (s:gM):Bool:=decide (s.1.2.2.2.2.2.1=(s.1.2.1.length:Int)/\s.1.2.2.2.2.2.2.1=0/\s.1.2.1.length<=s.1.2.2.1.length/\s.1.2.1.length<=1000/\s.2.2.2.1.length=2)
def agW (s:gM):yX:=(((),(),(),()),s.2.1,s.2.2.1,upto (rQ s.1.2.2.1 s.1.2.1) s.2.2.2.1 s.1.2.1.length,())
theorem ax3:bh GW VY (agX agW):=by
 rintro ⟨⟨⟨⟩,a,g,⟨⟩,⟨⟩,n,i,⟨⟩⟩,⟨o,c1,c2,⟨⟩⟩⟩ h
 have h':=bm h
 dsimp only at h'
 obtain ⟨rfl,rfl,hl,hm,h2⟩:=h'
 have:=(bf (T:=GW) (λk e=>((((),a,g,(),(),(a.length:Int),(k:Int),()),o,c1,e,()):gM)) (rQ g a)
  (λe=>(⟨(.exit 0,vJ),(((),(),(),()),o,c1,e,())⟩:aZ)) a.length c2 (λk e=>e.length=k+2) h2 (λk e hk hq=>⟨?_,?_⟩) (λe _=> ?_)).1
 ·obtain ⟨m,hm⟩:=this
  exact ⟨m,_,hm,rfl⟩
 ·have hq:e.length=k+2:=hq
  refine (OT.ak (ag (by dsimp only;omega))).trans ((ae ?_).trans rfl)
  simp only [aA,aI,aJ,aw]
  exact ⟨ba (by omega),ba (by omega),ag (by omega),aS (by omega)⟩
 ·show (e++ [_]).length=_
  rw [bL,show e.length=k+2 from hq]
  rfl
 ·exact OT.au (bq (by dsimp only;omega))
def tb (x:VZ):Bool:=decide (x.1.2.1.length<=x.1.2.2.1.length/\x.1.2.1.length<=x.1.2.2.2.1.length/\x.1.2.1.length<=1000)&&(ac x.2.1.1.2.1&&(ac x.2.1.1.1.1&&cy x.2.1.1.1.1 (AX x.2.1.1 x.1.2.1 x.1.2.2.1 x.1.2.2.2.1 x.1.2.2.2.2.1)))
def acg (x:VZ):OT yY.Y:=.ok ⟨Rl,((Ql x.2.1.1 x.1.2.1 x.1.2.2.1 x.1.2.2.2.1 x.1.2.2.2.2.1,()),x.2)⟩
theorem aq9:aa aj 138 (yY.az tb acg):=ama VY agW ax3 _ _ λx oy hp ho=>by
 rw [<-ho]
 obtain ⟨⟨⟨⟩,a,b,g,r,⟨⟩⟩,⟨⟨o,⟨⟩⟩,⟨⟩⟩⟩:=x
 have hp':(decide (a.length<=b.length/\a.length<=g.length/\a.length<=1000)&&(ac o.2.1&&(ac o.1.1&&cy o.1.1 (AX o a b g r))))=true:=hp
 simp only [aw] at hp'
 obtain ⟨h1,h2,h3,h4⟩:=hp'
 obtain ⟨h5,h6,h7⟩:=bm h1
 refine (ae ?_).trans rfl
 simp only [aA,aI,aJ,aw]
 refine ⟨be (ag ⟨h5,?_⟩) h2,h2,ag ⟨rfl,rfl,h6,h7,rfl⟩,be h3 (be (ag ?_) h4)⟩
 ·show a.length<=140737488355328;omega
 ·show (AX o a b g r).length<=100000
  unfold AX
  rw [Sz]
  show a.length+2<=100000
  omega
theorem acf:az9 aqi (sl:= [.ptr 0 0 0,.val false (.list .elem),.val false (.list .elem),.val false (.list (.prod .elem (.prod .elem .bool))),.val true .elem]) (b:=false) (m:=false) acg:=λx oy h=>by
 cases h
 exact ⟨[.val true (.prod .elem (.prod .elem .bool))],[],false,_,(),rfl,rfl⟩
def Rk:bt:=Iv (yY.az tb acg)
theorem ax2:aa aj 138 Rk:=Iu rfl acf aq9
theorem aq8:ax Rk:=yg av
def DR:bt:=Rk
theorem ace:aa aj 138 DR:=ax2
theorem acd:ax DR:=aq8
def avg:Env:=aq 138 DR ajs
theorem Mg:bV aj te avg:=aU follows E3 ace acd
def zn:af:=⟨[eX,jP,dw],[auT],false,1,false⟩
abbrev Wr:Type:=(Unit×aB×o3)×uz×Unit
def ayl:Shape:=⟨46,[Ak,(1,jP),uC,xp,(8,.own 2),(16,aC),Aj],[rk,pa,(2,fL)],1,true⟩
abbrev gP:Type:=(Unit×aB×Unit×Int×Unit×jR)×uz×ap×fK
def vQ:Shape:=⟨46,[(8,kl)],[rk,(1,fL)],1,true⟩
abbrev zm:Type:=ct×uz×fK
def ayo (a1:aB) (a7:Int) (a16:Int) (a17:Int) (c0_0:Gr) (c1:ap) (c2:aB):OT (Sum gP aZ):=
 let z0:Nat:=List.length a1
 let z1:ab:= {w0:=List.getD c1 0 0,w1:=List.getD c1 1 0,w2:=List.getD c1 2 0,w3:=List.getD c1 3 0}
 let z2:ab:= {w0:=0,w1:=0,w2:=0,w3:=0}
 let z3:ab:=List.getD a1 (Int.toNat (a7+a17)) z2
 let z4:Nat:=Int.toNat a17
 let z5:ab:=List.getD a1 z4 z2
 let z6:Nat:=pS c0_0.snd.fst
 let z7:ab:=aR z6 z1 z3
 let z8:Nat:=List.length c2
 (.br (decide (a17<a16))
 (gd [inB a17 z0,decide (4<=List.length c1),inR (a7+a17),inB (a7+a17) z0,ee ((c0_0.snd.fst,z1,z3,()),()),gT ((c0_0.snd.fst,z5,z7,()),()),inB a17 z8,decide (z4<z8),inR (a17+(1:Int))] (.ok (.inl (((),a1,(),a7,(),a16,a17+(1:Int),()),(c0_0,()),c1,List.set c2 z4 (dv z6 z5 z7),()))))
 (.ok (.inr ⟨(.exit 0,vQ),(((),()),(c0_0,()),c2,())⟩)))
def G2 (s:gP):OT (Sum gP aZ):=ayo s.1.2.1 s.1.2.2.2.1 s.1.2.2.2.2.2.1 s.1.2.2.2.2.2.2.1 s.2.1.1 s.2.2.1 s.2.2.2.1
def ahd (g0_0:gP->zm) (s:gP):OT aZ:=(.ok ⟨(.exit 0,vQ),g0_0 s⟩)
def RA:aL:=⟨[kl],[rk,(1,fL)],false⟩
section
variable (ok0:gP->Bool) (g0_0:gP->zm)
def RC (a1:aB) (a2:ab) (c0_0:Gr):OT zn.Y:=
 let z0:Int:=Int.tdiv (↑(List.length a1):Int) (2:Int)
 let z1:aB:=List.replicate (Int.toNat z0) {w0:=0,w1:=0,w2:=0,w3:=0}
 let z2:gP:=(((),a1,(),z0,(),(↑(List.length z1):Int),(0:Int),()),(c0_0,()),[a2.w0,a2.w1,a2.w2,a2.w3],z1,())
 let z3:=(g0_0 z2).snd
 (gd [true&&inR z0,decide ((0:Int)<=z0)&&decide (z0<=z0)&&decide (z0*(32:Int)<=(140737488355328:Int))&&decide (z0<=(140737488355328:Int)),ok0 z2] (.ok ⟨RA,(((),()),(z3.fst.fst,()),z3.snd.fst,())⟩))
theorem amg (h0:bh G2 ok0 (ahd g0_0)) (pre:Wr->Bool) (F:Wr->OT zn.Y) (hF:∀ (x:Wr) oy,pre x=true->(F x).run=some oy->(RC ok0 g0_0 x.1.2.1 x.1.2.2.1 x.2.1.1).run=some oy):aa aj 139 (zn.az pre F):=
 di Mg 139 Tryz.f139 zn [RA] (lg Mg 0 ayl [(0,vQ)] none none G2 bD h0 bD) (λx=>RC ok0 g0_0 x.1.2.1 x.1.2.2.1 x.2.1.1) hF
end
def ahv (m:Nat) (a:aB) (k:ab) (h:Nat) (i:Nat) (l:aB):aB:=l.set i (dv m (a.getD i ⟨0,0,0,0⟩) (aR m k (a.getD (h+i) ⟨0,0,0,0⟩)))
def qC (m:Nat) (a:aB) (k:ab):aB:=upto (ahv m a k (a.length/2)) (List.replicate (a.length/2) ⟨0,0,0,0⟩) (a.length/2)
theorem Ol (m:Nat) (a:aB) (k:ab) (h:Nat) (l:aB):∀ n,(upto (ahv m a k h) l n).length=l.length
 |0=>rfl
 |n+1=>by
  show (List.set _ _ _).length=_
  rw [cu,Ol m a k h l n]
theorem BU (m:Nat) (a:aB) (k:ab):(qC m a k).length=a.length/2:=by
 unfold qC
 rw [Ol,fM]
def Kc (s:gP):Bool:=decide (s.1.2.2.2.1=((s.1.2.1.length/2:Nat):Int)/\s.1.2.2.2.2.2.1=((s.1.2.1.length/2:Nat):Int)/\s.1.2.2.2.2.2.2.1=0/\s.1.2.1.length<=140737488355328/\s.2.2.1.length=4/\s.2.2.2.1.length=s.1.2.1.length/2)&&ac s.2.1.1.2.1
def RB (s:gP):zm:=(((),()),s.2.1,upto (ahv (pS s.2.1.1.2.1) s.1.2.1 ⟨s.2.2.1.getD 0 0,s.2.2.1.getD 1 0,s.2.2.1.getD 2 0,s.2.2.1.getD 3 0⟩ (s.1.2.1.length/2)) s.2.2.2.1 (s.1.2.1.length/2),())
theorem ayn:bh G2 Kc (ahd RB):=by
 rintro ⟨⟨⟨⟩,a,⟨⟩,h,⟨⟩,n,i,⟨⟩⟩,⟨⟨o,⟨⟩⟩,c1,c2,⟨⟩⟩⟩ h0
 have h1:(decide (h=((a.length/2:Nat):Int)/\n=((a.length/2:Nat):Int)/\i=0/\a.length<=140737488355328/\c1.length=4/\c2.length=a.length/2)&&ac o.2.1)=true:=h0
 rw [aw] at h1
 obtain ⟨rfl,rfl,rfl,hm,h4,hc⟩:=bm h1.1
 have hs:=h1.2
 have:=(bf (T:=G2) (λk e=>((((),a,(),((a.length/2:Nat):Int),(),((a.length/2:Nat):Int),(k:Int),()),(o,()),c1,e,()):gP)) (ahv (pS o.2.1) a ⟨c1.getD 0 0,c1.getD 1 0,c1.getD 2 0,c1.getD 3 0⟩ (a.length/2))
  (λe=>(⟨(.exit 0,vQ),(((),()),(o,()),e,())⟩:aZ)) (a.length/2) c2 (λk e=>e.length=a.length/2) hc (λk e hk hq=>⟨?_,?_⟩) (λe _=> ?_)).1
 ·obtain ⟨m,hm⟩:=this
  exact ⟨m,_,hm,rfl⟩
 ·have hq:e.length=a.length/2:=hq
  have e1:(((a.length/2:Nat):Int)+(k:Int))=((a.length/2+k:Nat):Int):=by omega
  refine (OT.ak (ag (by dsimp only;omega))).trans ((ae ?_).trans rfl)
  simp only [aA,aI,aJ,aw]
  exact ⟨ba (by omega),ag (by omega),aS (by omega),ba (by omega),hs,hs,ba (by omega),ag (by show k<e.length;omega),aS (by omega)⟩
 ·show (List.set _ _ _).length=_
  rw [cu]
  exact hq
 ·exact OT.au (bq (by dsimp only;omega))
def tu (x:Wr):Bool:=decide (x.1.2.1.length<=1000)&&ac x.2.1.1.2.1
def acz (x:Wr):OT zn.Y:=.ok ⟨RA,(((),()),x.2.1,qC (pS x.2.1.1.2.1) x.1.2.1 x.1.2.2.1,())⟩
theorem arD:aa aj 139 (zn.az tu acz):=amg Kc RB ayn _ _ λx oy hp ho=>by
 rw [<-ho]
 obtain ⟨⟨⟨⟩,a,k,⟨⟩⟩,⟨⟨o,⟨⟩⟩,⟨⟩⟩⟩:=x
 have hp':(decide (a.length<=1000)&&ac o.2.1)=true:=hp
 rw [aw] at hp'
 have h1:=bm hp'.1
 have e:Int.tdiv (a.length:Int) 2=((a.length/2:Nat):Int):=rfl
 show (RC Kc RB a k o).run=_
 unfold RC
 dsimp only
 rw [e]
 generalize hh:a.length/2=h at*
 have h2:h<=1000:=by omega
 refine (ae ?_).trans ?_
 ·simp only [aA,aI,aJ,aw,Bool.true_and]
  refine ⟨aS (by omega),⟨⟨⟨ag (by omega),ag (Int.le_refl _)⟩,ag (by omega)⟩,ag (by omega)⟩,be (ag ?_) hp'.2⟩
  simp only [cD,fM,hh]
  exact ⟨trivial,trivial,trivial,by omega,rfl,trivial⟩
 ·subst hh
  rfl
theorem acy:az9 aqi (sl:= [.ptr 0 0 0,.val false (.list .elem),.val true .elem]) (b:=false) (m:=false) acz:=λx oy h=>by
 cases h
 exact ⟨[.own 1],[(1,.row .elem)],false,_,_,rfl,rfl⟩
def Rz:bt:=Iv (zn.az tu acz)
theorem aym:aa aj 139 Rz:=Iu rfl acy arD
theorem arC:ax Rz:=yg av
def D4:bt:=Rz
theorem acx:aa aj 139 D4:=aym
theorem acw:ax D4:=arC
def avk:Env:=aq 139 D4 avg
theorem avj:bV aj te avk:=aU follows Mg acx acw
abbrev T7:af:=km
def jY (x:xO):Bool:=C7 x&&onB x.2.1.1 x.1.2.1
def T8 (x:xO):OT km.Y:=.ok ⟨kA,(((0:Int),()),(x.2.1.1,(),(),()),(x.2.2.1.1,x.2.2.1.2.1,()),x.2.2.2.1++jO x.2.1.1 x.1.2.1,())⟩
theorem akG:aa aj 92 (T7.az jY T8):=cL (S:=km) aoR λx oy hp ho=>by
 have hp':(C7 x&&onB x.2.1.1 x.1.2.1)=true:=hp
 rw [aw] at hp'
 exact ⟨hp'.1,(OT.ak (b:=onB x.2.1.1 x.1.2.1) hp'.2).trans ho⟩
def sd:bt:=(T7.az jY T8)
theorem P6:aa aj 92 sd:=akG
theorem P5:ax sd:=av
def tz:bt:=(sd)
theorem RJ:aa aj 92 tz:=(P6)
theorem RI:ax tz:=(P5)
def Zn:Env:=aq 92 tz avk
theorem Ap:bV aj te Zn:=aU follows avj RJ RI
def opC:CSh:=.cells [.val true aqi]
def wrC (k:Nat):CSh:=.cells [.val false .int,.ifp 165 2,.own k]
def lV:af:=⟨[eX,ir,gv],auU,false,4,true⟩
def tc:aL:=⟨[],auU,false⟩
def kO:aL:=⟨Am,auU,true⟩
abbrev DV:Type:=nW×uz×jS×jT×fK×dl
def arb:Shape:=⟨188,[Ak,(6,Cz),(7,F3),(8,aC),(9,.ptr 7 0 0),(10,LZ),(11,.own 9),(115,aC),(116,aC)],aBV,5,true⟩
abbrev fv:Type:=(Unit×Unit×Unit×Int×Unit×rF)×aBG
def qm:Shape:=⟨188,[Ak,(6,Cz),(7,F3),(9,.ptr 7 0 0),(10,LZ),(11,.own 9)],aBV,5,true⟩
abbrev td:Type:=(Unit×Unit×LR)×aBG
def arf (a8:Int) (a115:Int) (a116:Int) (c0_0:kW) (c0_1:Int) (c0_2:ab) (c0_5:cJ) (c0_6:ab) (c1_0:Int) (c2_0:Int) (c2_1:aB) (c3_0:aB) (c5:ap) (c6:ap) (c7:ap) (c8:ap) (c9:cJ) (c10:aB) (c11:aB) (c12:aF):OT (Sum fv aZ):=
 let z0:Nat:=List.length c0_5
 let z1:Nat:=List.length c9
 let z2:Nat:=Int.toNat a116
 let z3:ab:= {w0:=0,w1:=0,w2:=0,w3:=0}
 let z4:cK:=(z3,z3,false)
 (.br (decide (a116<a115))
 (gd [inB a116 z0,decide (4<=List.length c7),inR (a8+a116),inB (a8+a116) z0,inB a116 z1,decide (z2<z1),inR (a116+(1:Int))] (.ok (.inl (((),(),(),a8,(),(),(),a115,a116+(1:Int),()),(c0_0,c0_1,c0_2,(),(),c0_5,c0_6,()),(c1_0,(),(),()),(c2_0,c2_1,()),(c3_0,()),(),c5,c6,c7,c8,List.set c9 z2 (fT c0_0.fst (List.getD c0_5 z2 z4) (pW c0_0.fst {w0:=List.getD c7 0 0,w1:=List.getD c7 1 0,w2:=List.getD c7 2 0,w3:=List.getD c7 3 0} (List.getD c0_5 (Int.toNat (a8+a116)) z4))),c10,c11,c12,()))))
 (.ok (.inr ⟨(.exit 0,qm),(((),(),(),(),(),(),()),(c0_0,c0_1,c0_2,(),(),c0_5,c0_6,()),(c1_0,(),(),()),(c2_0,c2_1,()),(c3_0,()),(),c5,c6,c7,c8,c9,c10,c11,c12,())⟩)))
def BC (s:fv):OT (Sum fv aZ):=arf s.1.2.2.2.1 s.1.2.2.2.2.2.2.2.1 s.1.2.2.2.2.2.2.2.2.1 s.2.1.1 s.2.1.2.1 s.2.1.2.2.1 s.2.1.2.2.2.2.2.1 s.2.1.2.2.2.2.2.2.1 s.2.2.1.1 s.2.2.2.1.1 s.2.2.2.1.2.1 s.2.2.2.2.1.1 s.2.2.2.2.2.2.1 s.2.2.2.2.2.2.2.1 s.2.2.2.2.2.2.2.2.1 s.2.2.2.2.2.2.2.2.2.1 s.2.2.2.2.2.2.2.2.2.2.1 s.2.2.2.2.2.2.2.2.2.2.2.1 s.2.2.2.2.2.2.2.2.2.2.2.2.1 s.2.2.2.2.2.2.2.2.2.2.2.2.2.1
def V6 (g0_0:fv->td) (s:fv):OT aZ:=(.ok ⟨(.exit 0,qm),g0_0 s⟩)
section
variable (ok0:fv->Bool) (g0_0:fv->td)
def GX (c0_0:Gr) (c1_0:Int) (c2_0:Int) (c2_1:aB) (c3_0:aB) (c4:aF):OT lV.Y:=
 let z0:PUnit×PUnit:=((),())
 let z1:mZ:=ao c3_0
 let z2:=z1.snd
 let z3:=z2.fst
 let z4:=z2.snd
 let z5:mZ:=ao z4
 let z6:=z5.snd
 let z7:=z6.fst
 let z8:Nat:=List.length c0_0.snd.snd.snd.fst
 let z9:Int:=(↑z8:Int)
 let z10:Int:=Int.tdiv z9 (2:Int)
 let z11:Nat:=List.length c0_0.snd.snd.snd.snd.fst
 let z12:Nat:=List.length c0_0.snd.snd.snd.snd.snd.fst
 let z13:Nat:=Int.toNat z10
 let z14:aB:=List.drop z13 c0_0.snd.snd.snd.fst
 let z15:aB:=List.drop 0 (List.take z13 c0_0.snd.snd.snd.snd.fst)
 let z16:cJ:=List.drop 0 (List.take z13 c0_0.snd.snd.snd.snd.snd.fst)
 let z17:=z1.fst
 let z18:(Gr×PUnit)×PUnit:=((c0_0,()),())
 let z19:cK:=Ql c0_0 z14 z15 z16 z17
 let z20:Int×Cs:=(c1_0,(),(),())
 let z21:LV:=(c2_0,c2_1,())
 let z22:aB:=List.drop 0 (List.take z13 c0_0.snd.snd.snd.fst)
 let z23:aB:=List.drop z13 c0_0.snd.snd.snd.snd.fst
 let z24:cJ:=List.drop z13 c0_0.snd.snd.snd.snd.snd.fst
 let z25:=z5.fst
 let z26:cK:=Ql c0_0 z22 z23 z24 z25
 let z27:aF:=c4++jO c1_0 z19
 let z28:aF:=z27++jO c1_0 z26
 let z29:mZ:=ao c2_1
 let z30:=z29.snd
 let z31:=z30.fst
 let z32:ab:= {w0:=0,w1:=0,w2:=0,w3:=0}
 let z33:ab:=dv (pS c2_0) z29.fst z32
 let z34:=z30.snd
 let z35:=z6.snd
 let z36:Nat:=pS c0_0.snd.fst
 let z37:ab:=CO z36 z33
 let z38:cJ:=List.replicate z13 (z32,z32,false)
 let z39:fv:=(((),(),(),z10,(),(),(),(↑(List.length z38):Int),(0:Int),()),(c0_0.fst,c0_0.snd.fst,c0_0.snd.snd.fst,(),(),c0_0.snd.snd.snd.snd.snd.fst,c0_0.snd.snd.snd.snd.snd.snd,()),(c1_0,(),(),()),(c2_0,z34,()),(z35,()),(),[z17.w0,z17.w1,z17.w2,z17.w3],[z25.w0,z25.w1,z25.w2,z25.w3],[z33.w0,z33.w1,z33.w2,z33.w3],[z37.w0,z37.w1,z37.w2,z37.w3],z38,qC z36 c0_0.snd.snd.snd.fst z37,qC z36 c0_0.snd.snd.snd.snd.fst z33,z28,())
 let z40:=(g0_0 z39).snd
 let z41:=z40.snd
 let z42:=z41.snd
 let z43:=z42.snd
 let z44:=z43.snd.snd
 let z45:=z44.snd
 let z46:=z45.snd
 let z47:=z46.snd
 let z48:=z47.fst
 let z49:=z44.fst
 let z50:=z40.fst
 let z51:=z50.snd
 let z52:=z51.fst
 let z53:ab:= {w0:=List.getD z48 0 0,w1:=List.getD z48 1 0,w2:=List.getD z48 2 0,w3:=List.getD z48 3 0}
 let z54:ab:= {w0:=List.getD z49 0 0,w1:=List.getD z49 1 0,w2:=List.getD z49 2 0,w3:=List.getD z49 3 0}
 let z55:=z46.fst
 let z56:=z45.fst
 let z57:ab:= {w0:=List.getD z55 0 0,w1:=List.getD z55 1 0,w2:=List.getD z55 2 0,w3:=List.getD z55 3 0}
 let z58:ab:= {w0:=List.getD z56 0 0,w1:=List.getD z56 1 0,w2:=List.getD z56 2 0,w3:=List.getD z56 3 0}
 let z59:Nat:=pS z52
 let z60:ab:=aR z59 z53 z54
 let z61:ab:=aR z59 z57 z58
 let z62:=z51.snd
 let z63:=z62.snd.snd.snd.snd.fst
 let z64:ab:=dv z59 z60 z61
 let z65:=z47.snd
 let z66:=z65.snd
 let z67:=z66.snd
 let z68:=z42.fst
 (gd [oq (z0,(c3_0,()),())] (.br (z3==(0:Int))
 (gd [oq (z0,(z4,()),())] (.br (z7==(0:Int))
  (gd [true&&inR z10,cp z10 z9 z8,cp (0:Int) z10 z11,cp (0:Int) z10 z12,tb (((),z14,z15,z16,z17,()),z18),jY (((),z19,()),z20,z21,c4,()),cp (0:Int) z10 z8,cp z10 (↑z11:Int) z11,cp z10 (↑z12:Int) z12,tb (((),z22,z23,z24,z25,()),z18),jY (((),z26,()),z20,z21,z27,()),sj (z0,z20,z21,z28,())] (.br (z31==(0:Int))
   (.br (bC z33)
    (.ok ⟨kO,(((100:Int),()),(c0_0,()),(c1_0,(),(),()),(c2_0,z34,()),(z35,()),z28,())⟩)
    (gd [tT ((c0_0.snd.fst,z33,()),()),tu (((),c0_0.snd.snd.snd.fst,z37,()),z18),tu (((),c0_0.snd.snd.snd.snd.fst,z33,()),z18),decide ((0:Int)<=z10)&&decide (z10<=z10)&&decide (z10*(72:Int)<=(140737488355328:Int))&&decide (z10<=(140737488355328:Int)),ok0 z39,decide (4<=List.length z48),decide (4<=List.length z49),ee ((z52,z53,z54,()),()),decide (4<=List.length z55),decide (4<=List.length z56),ee ((z52,z57,z58,()),()),gT ((z52,z60,z61,()),()),gT ((z52,z63,z64,()),())] (.ok ⟨tc,((),((z50.fst,z52,z62.fst,z66.fst,z67.fst,z65.fst,dv z59 z63 z64),()),(z41.fst.fst,(),(),()),(z68.fst,z68.snd.fst,()),(z43.fst.fst,()),z67.snd.fst,())⟩)))
   (.ok ⟨kO,((z31,()),(c0_0,()),(c1_0,(),(),()),(c2_0,z34,()),(z35,()),z28,())⟩)))
  (.ok ⟨kO,((z7,()),(c0_0,()),(c1_0,(),(),()),(c2_0,c2_1,()),(z35,()),c4,())⟩)))
 (.ok ⟨kO,((z3,()),(c0_0,()),(c1_0,(),(),()),(c2_0,c2_1,()),(z4,()),c4,())⟩)))
theorem ach (h0:bh BC ok0 (V6 g0_0)) (pre:DV->Bool) (F:DV->OT lV.Y) (hF:∀ (x:DV) oy,pre x=true->(F x).run=some oy->(GX ok0 g0_0 x.2.1.1 x.2.2.1.1 x.2.2.2.1.1 x.2.2.2.1.2.1 x.2.2.2.2.1.1 x.2.2.2.2.2.1).run=some oy):aa aj 93 (lV.az pre F):=
 aEw Ap 93 Tryz.f93 lV [tc] [kO] (lg Ap 0 arb [(0,qm)] none none BC bD h0 bD) (λx=>GX ok0 g0_0 x.2.1.1 x.2.2.1.1 x.2.2.2.1.1 x.2.2.2.1.2.1 x.2.2.2.2.1.1 x.2.2.2.2.2.1) hF
end
def arO (c:Int) (g:List Pt) (u:ab) (h:Nat) (i:Nat) (l:List Pt):List Pt:=l.set i (fT c (g.getD i jN) (pW c u (g.getD (h+i) jN)))
def D8 (c:Int) (g:List Pt) (u:ab) (h:Nat) (l:List Pt):List Pt:=upto (arO c g u h) l h
theorem Od (c:Int) (g:List Pt) (u:ab) (h:Nat) (l:List Pt):∀ n,(upto (arO c g u h) l n).length=l.length
 |0=>rfl
 |n+1=>by
  show (List.set _ _ _).length=_
  rw [cu,Od c g u h l n]
def QU (o:wR) (u l r:ab):wR:=(o.1,o.2.1,o.2.2.1,qC (pS o.2.1) o.2.2.2.1 (CO (pS o.2.1) u),qC (pS o.2.1) o.2.2.2.2.1 u,
 (D8 o.1.1 o.2.2.2.2.2.1 u (o.2.2.2.1.length/2) (List.replicate (o.2.2.2.1.length/2) jN),dv (pS o.2.1) o.2.2.2.2.2.2 (dv (pS o.2.1) (aR (pS o.2.1) (CO (pS o.2.1) u) l) (aR (pS o.2.1) u r))))
def avS (o:wR) (l:ab):Pt:=Ql o (o.2.2.2.1.drop (o.2.2.2.1.length/2)) (o.2.2.2.2.1.take (o.2.2.2.1.length/2)) (o.2.2.2.2.2.1.take (o.2.2.2.1.length/2)) l
def RL (o:wR) (r:ab):Pt:=Ql o (o.2.2.2.1.take (o.2.2.2.1.length/2)) (o.2.2.2.2.1.drop (o.2.2.2.1.length/2)) (o.2.2.2.2.2.1.drop (o.2.2.2.1.length/2)) r
abbrev CH:Type:=wR×(List ab×(List ab×List UInt8))
def bo (c s:Int) (q:CH):Int×CH:=
 cond ((ao q.2.2.1).2.1==0) (cond ((ao (ao q.2.2.1).2.2).2.1==0)
  (cond ((ao q.2.1).2.1==0) (cond (bC (dv (pS s) (ao q.2.1).1 ⟨0,0,0,0⟩))
   (100,q.1,(ao q.2.1).2.2,(ao (ao q.2.2.1).2.2).2.2,q.2.2.2++jO c (avS q.1 (ao q.2.2.1).1)++jO c (RL q.1 (ao (ao q.2.2.1).2.2).1))
   (0,QU q.1 (dv (pS s) (ao q.2.1).1 ⟨0,0,0,0⟩) (ao q.2.2.1).1 (ao (ao q.2.2.1).2.2).1,(ao q.2.1).2.2,(ao (ao q.2.2.1).2.2).2.2,q.2.2.2++jO c (avS q.1 (ao q.2.2.1).1)++jO c (RL q.1 (ao (ao q.2.2.1).2.2).1)))
   ((ao q.2.1).2.1,q.1,(ao q.2.1).2.2,(ao (ao q.2.2.1).2.2).2.2,q.2.2.2++jO c (avS q.1 (ao q.2.2.1).1)++jO c (RL q.1 (ao (ao q.2.2.1).2.2).1)))
  ((ao (ao q.2.2.1).2.2).2.1,q.1,q.2.1,(ao (ao q.2.2.1).2.2).2.2,q.2.2.2))
  ((ao q.2.2.1).2.1,q.1,q.2.1,(ao q.2.2.1).2.2,q.2.2.2)
def aHr (o:wR) (l:ab):List Tm:=AX o (o.2.2.2.1.drop (o.2.2.2.1.length/2)) (o.2.2.2.2.1.take (o.2.2.2.1.length/2)) (o.2.2.2.2.2.1.take (o.2.2.2.1.length/2)) l
def ayq (o:wR) (r:ab):List Tm:=AX o (o.2.2.2.1.take (o.2.2.2.1.length/2)) (o.2.2.2.2.1.drop (o.2.2.2.1.length/2)) (o.2.2.2.2.2.1.drop (o.2.2.2.1.length/2)) r
def aAD (q:CH):Bool:=decide (q.1.2.2.2.2.1.length=q.1.2.2.2.1.length/\q.1.2.2.2.2.2.1.length=q.1.2.2.2.1.length/\q.1.2.2.2.1.length<=64/\q.1.2.2.2.1.length%2=0/\q.2.1.length<=140737488355328/\q.2.2.1.length<=140737488355328/\q.2.2.2.length<=140737488340000)
def pI (c s:Int) (q:CH):Bool:=aAD q&&(ac s&&(ac q.1.1.1&&(q.1.2.1==s&&(cy q.1.1.1 (aHr q.1 (ao q.2.2.1).1)&&(cy q.1.1.1 (ayq q.1 (ao (ao q.2.2.1).2.2).1)&&(onB c (avS q.1 (ao q.2.2.1).1)&&onB c (RL q.1 (ao (ao q.2.2.1).2.2).1)))))))
theorem fS (l:aB):(ao l).2.2.length<=l.length:=by
 cases l with
 |nil=>exact Nat.le_refl _
 |cons a r=>exact Nat.le_succ _
theorem aaA {s:Int} (h:ac s=true):Sm (pS s):=by
 rcases cb h with rfl|rfl|rfl|rfl<;>exact ⟨by decide+kernel,by decide+kernel⟩
theorem atx {s:Int} (hs:ac s=true) {v:ab} (h:bC (dv (pS s) v ⟨0,0,0,0⟩)=false):tT ((s,dv (pS s) v ⟨0,0,0,0⟩,()),())=true:=by
 show (ac s&& !Nat.beq ((dv (pS s) v ⟨0,0,0,0⟩).nat%pS s) 0)=true
 rw [hs,bn (Ad (aaA hs) v _),<-dI,h]
 rfl
def DU (s:fv):Bool:=decide (s.1.2.2.2.1=((s.2.1.2.2.2.2.2.1.length/2:Nat):Int)/\s.1.2.2.2.2.2.2.2.1=((s.2.1.2.2.2.2.2.1.length/2:Nat):Int)/\s.1.2.2.2.2.2.2.2.2.1=0/\s.2.1.2.2.2.2.2.1.length<=64/\s.2.2.2.2.2.2.2.2.1.length=4/\s.2.2.2.2.2.2.2.2.2.2.1.length=s.2.1.2.2.2.2.2.1.length/2)
def BB (s:fv):td:=(((),(),(),(),(),(),()),s.2.1,s.2.2.1,s.2.2.2.1,s.2.2.2.2.1,(),s.2.2.2.2.2.2.1,s.2.2.2.2.2.2.2.1,s.2.2.2.2.2.2.2.2.1,s.2.2.2.2.2.2.2.2.2.1,
 D8 s.2.1.1.1 s.2.1.2.2.2.2.2.1 ⟨s.2.2.2.2.2.2.2.2.1.getD 0 0,s.2.2.2.2.2.2.2.2.1.getD 1 0,s.2.2.2.2.2.2.2.2.1.getD 2 0,s.2.2.2.2.2.2.2.2.1.getD 3 0⟩ (s.2.1.2.2.2.2.2.1.length/2) s.2.2.2.2.2.2.2.2.2.2.1,s.2.2.2.2.2.2.2.2.2.2.2.1,s.2.2.2.2.2.2.2.2.2.2.2.2.1,s.2.2.2.2.2.2.2.2.2.2.2.2.2.1,())
theorem ard:bh BC DU (V6 BB):=by
 rintro ⟨⟨⟨⟩,⟨⟩,⟨⟩,h,⟨⟩,⟨⟩,⟨⟩,n,i,⟨⟩⟩,⟨⟨p,so,z,⟨⟩,⟨⟩,g,bl,⟨⟩⟩,x1,x2,x3,⟨⟩,c5,c6,c7,c8,c9,c10,c11,c12,⟨⟩⟩⟩ h0
 have h1:=bm h0
 dsimp only at h1
 obtain ⟨rfl,rfl,rfl,hm,h4,hc⟩:=h1
 have:=(bf (T:=BC) (λk e=>((((),(),(),((g.length/2:Nat):Int),(),(),(),((g.length/2:Nat):Int),(k:Int),()),(p,so,z,(),(),g,bl,()),x1,x2,x3,(),c5,c6,c7,c8,e,c10,c11,c12,()):fv)) (arO p.1 g ⟨c7.getD 0 0,c7.getD 1 0,c7.getD 2 0,c7.getD 3 0⟩ (g.length/2))
  (λe=>(⟨(.exit 0,qm),(((),(),(),(),(),(),()),(p,so,z,(),(),g,bl,()),x1,x2,x3,(),c5,c6,c7,c8,e,c10,c11,c12,())⟩:aZ)) (g.length/2) c9 (λk e=>e.length=g.length/2) hc (λk e hk hq=>⟨?_,?_⟩) (λe _=> ?_)).1
 ·obtain ⟨m,hm⟩:=this
  exact ⟨m,_,hm,rfl⟩
 ·have hq:e.length=g.length/2:=hq
  have e1:(((g.length/2:Nat):Int)+(k:Int))=((g.length/2+k:Nat):Int):=by omega
  refine (OT.ak (ag (by dsimp only;omega))).trans ((ae ?_).trans rfl)
  simp only [aA,aI,aJ,aw]
  exact ⟨ba (by omega),ag (by omega),aS (by omega),ba (by omega),ba (by omega),ag (by show k<e.length;omega),aS (by omega)⟩
 ·show (List.set _ _ _).length=_
  rw [cu]
  exact hq
 ·exact OT.au (bq (by dsimp only;omega))
def Ge (x:DV):CH:=(x.2.1.1,x.2.2.2.1.2.1,x.2.2.2.2.1.1,x.2.2.2.2.2.1)
def DT (x:DV):Bool:=pI x.2.2.1.1 x.2.2.2.1.1 (Ge x)
def Rm (x:DV):OT lV.Y:=.br ((bo x.2.2.1.1 x.2.2.2.1.1 (Ge x)).1==0)
 (.ok ⟨tc,((),((bo x.2.2.1.1 x.2.2.2.1.1 (Ge x)).2.1,()),(x.2.2.1.1,(),(),()),(x.2.2.2.1.1,(bo x.2.2.1.1 x.2.2.2.1.1 (Ge x)).2.2.1,()),((bo x.2.2.1.1 x.2.2.2.1.1 (Ge x)).2.2.2.1,()),(bo x.2.2.1.1 x.2.2.2.1.1 (Ge x)).2.2.2.2,())⟩)
 (.ok ⟨kO,(((bo x.2.2.1.1 x.2.2.2.1.1 (Ge x)).1,()),((bo x.2.2.1.1 x.2.2.2.1.1 (Ge x)).2.1,()),(x.2.2.1.1,(),(),()),(x.2.2.2.1.1,(bo x.2.2.1.1 x.2.2.2.1.1 (Ge x)).2.2.1,()),((bo x.2.2.1.1 x.2.2.2.1.1 (Ge x)).2.2.2.1,()),(bo x.2.2.1.1 x.2.2.2.1.1 (Ge x)).2.2.2.2,())⟩)
theorem arc:aa aj 93 (lV.az DT Rm):=ach DU BB ard _ _ λx oy hp ho=>by
 rw [<-ho]
 obtain ⟨⟨⟨⟩,⟨⟩,⟨⟩,⟨⟩⟩,⟨⟨o,⟨⟩⟩,⟨c,⟨⟩,⟨⟩,⟨⟩⟩,⟨s,tp,⟨⟩⟩,⟨co,⟨⟩⟩,out,⟨⟩⟩⟩:=x
 have hp':pI c s (o,tp,co,out)=true:=hp
 unfold pI at hp'
 simp only [aw] at hp'
 obtain ⟨hL,h1,h2,h3,h4,h5,h6,h7⟩:=hp'
 obtain ⟨l1,l2,l3,l4,l5,l6,l7⟩:=bm hL
 have hF:∀ (e:Int) (o':wR) (tp' co':aB) (out':aF),bo c s (o,tp,co,out)=(e,o',tp',co',out')->
  (Rm (((),(),(),()),(o,()),(c,(),(),()),(s,tp,()),(co,()),out,())).run=(OT.br (e==0) (.ok ⟨tc,((),(o',()),(c,(),(),()),(s,tp',()),(co',()),out',())⟩) (.ok ⟨kO,((e,()),(o',()),(c,(),(),()),(s,tp',()),(co',()),out',())⟩):OT lV.Y).run:=λe o' tp' co' out' h=>by
  show (OT.br ((bo c s (o,tp,co,out)).1==0) (.ok ⟨tc,((),((bo c s (o,tp,co,out)).2.1,()),(c,(),(),()),(s,(bo c s (o,tp,co,out)).2.2.1,()),((bo c s (o,tp,co,out)).2.2.2.1,()),(bo c s (o,tp,co,out)).2.2.2.2,())⟩)
   (.ok ⟨kO,(((bo c s (o,tp,co,out)).1,()),((bo c s (o,tp,co,out)).2.1,()),(c,(),(),()),(s,(bo c s (o,tp,co,out)).2.2.1,()),((bo c s (o,tp,co,out)).2.2.2.1,()),(bo c s (o,tp,co,out)).2.2.2.2,())⟩):OT lV.Y).run=_
  rw [h]
 unfold bo at hF
 dsimp only at hF l1 l2 l3 l4 l5 l6 l7 h1 h2 h3 h4 h5 h6 h7
 have q1:=fS co
 have q2:=fS (ao co).2.2
 show (GX DU BB o c s tp co out).run=_
 unfold GX
 dsimp only
 have e10:Int.tdiv ((o.2.2.2.1.length:Nat):Int) 2=((o.2.2.2.1.length/2:Nat):Int):=rfl
 rw [e10]
 have hh:o.2.2.2.1.length=2*(o.2.2.2.1.length/2):=by omega
 refine (ae (by simp only [aA,aI,aJ];exact ag l6)).trans ?_
 cases e1:(ao co).2.1==0
 ·rw [e1] at hF
  refine (OT.au rfl).trans (Eq.trans ?_ (hF _ _ _ _ _ rfl).symm)
  exact (OT.au e1).symm
 rw [e1] at hF
 refine (OT.ak rfl).trans ((ae (by simp only [aA,aI,aJ];exact ag (cV q1 l6))).trans ?_)
 cases e2:(ao (ao co).2.2).2.1==0
 ·rw [e2] at hF
  refine (OT.au rfl).trans (Eq.trans ?_ (hF _ _ _ _ _ rfl).symm)
  exact (OT.au e2).symm
 rw [e2] at hF
 refine (OT.ak rfl).trans ((ae ?_).trans ?_)
 ·simp only [aA,aI,aJ,aw,Bool.true_and]
  have hs1:ac o.2.1=true:=by rw [eq_of_beq h3];exact h1
  have ss:∀ (a b:aB) (g:List Pt) (r:ab),a.length<=b.length->a.length<=g.length->a.length<=64->cy o.1.1 (AX o a b g r)=true->tb (((),a,b,g,r,()),(o,()),())=true:=λa b g r k1 k2 k3 k4=>
   be (ag ⟨k1,k2,by show a.length<=1000;omega⟩) (be hs1 (be h2 k4))
  have tt:∀ (P:Pt) (w:aF),w.length<=140737488350000->onB c P=true->jY (((),P,()),(c,(),(),()),(s,tp,()),w,())=true:=λP w k1 k2=>be (ag k1) k2
  have n1:(jO c (avS o (ao co).1)).length=32:=tZ h6
  refine ⟨aS (by omega),cI (by omega),cI (by omega),cI (by omega),ss _ _ _ _ ?_ ?_ ?_ h4,tt _ _ (by omega) h6,
   cI (by omega),cI (by omega),cI (by omega),ss _ _ _ _ ?_ ?_ ?_ h5,tt _ _ ?_ h7,be h1 (ag l5)⟩
  all_goals simp only [cD,List.drop_zero,ck,bM,bL]
  all_goals first|omega|(rw [show (jO c (Ql o (List.drop (o.2.2.2.1.length/2) o.2.2.2.1) (List.take (o.2.2.2.1.length/2) o.2.2.2.2.1) (List.take (o.2.2.2.1.length/2) o.2.2.2.2.2.1) (ao co).1)).length=32 from n1];omega)
 cases e3:(ao tp).2.1==0
 ·rw [e3] at hF
  refine (OT.au rfl).trans (Eq.trans ?_ (hF _ _ _ _ _ rfl).symm)
  exact (OT.au e3).symm
 rw [e3] at hF
 refine (OT.ak rfl).trans ?_
 cases e4:bC (dv (pS s) (ao tp).1 ⟨0,0,0,0⟩)
 ·rw [e4] at hF
  refine (OT.au rfl).trans (Eq.trans ((ae ?_).trans ?_) (hF _ _ _ _ _ rfl).symm)
  ·simp only [aA,aI,aJ,aw,Bool.true_and]
   have hs1:ac o.2.1=true:=by rw [eq_of_beq h3];exact h1
   have fo:∀ (a:aB) (k:ab),a.length<=64->tu (((),a,k,()),(o,()),())=true:=λa k hk=>be (ag (by show a.length<=1000;omega)) hs1
   refine ⟨?_,fo _ _ l3,fo _ _ (by omega),⟨⟨⟨ag (by omega),ag (Int.le_refl _)⟩,ag (by omega)⟩,ag (by omega)⟩,ag ?_,rfl,rfl,hs1,rfl,rfl,hs1,hs1,hs1⟩
   ·have:=atx h1 e4
    rw [<-eq_of_beq h3] at this⊢
    exact this
   ·simp only [cD,fM]
    exact ⟨by rw [l2],by rw [l2],trivial,by omega,rfl,by rw [l2]⟩
  ·unfold BB QU
   dsimp only
   rw [l2]
   rfl
 ·rw [e4] at hF
  refine (OT.ak rfl).trans (Eq.trans ?_ (hF _ _ _ _ _ rfl).symm)
  rfl
def yZ:bt:=(lV.az DT Rm)
theorem V5:aa aj 93 yZ:=arc
theorem V4:ax yZ:=av
def ajm:Env:=aq 93 yZ Zn
theorem wM:bV aj te ajm:=aU follows Ap V5 V4
def j8:af:=⟨[aC,dw,jP],[],true,0,false⟩
abbrev s9:Type:=(Int×ab×fK)×Unit
def ab2:Shape:=⟨43,[jL,(7,.own 0),(15,jP),(16,aC),Aj],[(0,fL)],0,true⟩
abbrev cx:Type:=(Int×Unit×aB×jR)×fK
def ab1:Shape:=⟨43,[jL,(9,eX),ER,(15,jP),(16,aC),Aj,(25,.own 2),(26,aC),(27,aC)],[iI,(1,fL),(2,fL)],0,true⟩
abbrev bO:Type:=(Int×Unit×Unit×aB×Int×Int×Unit×jR)×ap×aB×fK
def lP:Shape:=⟨43,[jL,(10,.own 0),(15,jP),(16,aC),Aj],[(0,fL)],0,true⟩
abbrev gh:Type:=(Int×Unit×aB×jR)×fK
def ab6 (a0:Int) (a15:aB) (a16:Int) (a17:Int) (a26:Int) (a27:Int) (c0:ap) (c1:aB) (c2:aB):OT (Sum bO aZ):=
 let z0:Nat:=List.length c2
 let z1:Nat:=Int.toNat a27
 let z2:ab:=List.getD c2 z1 {w0:=0,w1:=0,w2:=0,w3:=0}
 let z3:ab:= {w0:=List.getD c0 0 0,w1:=List.getD c0 1 0,w2:=List.getD c0 2 0,w3:=List.getD c0 3 0}
 (.br (decide (a27<a26))
 (gd [inB a27 z0,decide (z1<z0),decide (4<=List.length c0),ee ((a0,z2,z3,()),()),decide ((List.length c1+2)*32<=140737488355328),inR (a27+(1:Int))] (.ok (.inl ((a0,(),(),a15,a16,a17,(),a26,a27+(1:Int),()),c0,c1++ [z2,aR (pS a0) z2 z3],c2,()))))
 (.ok (.inr ⟨(.exit 2,lP),((a0,(),a15,a16,a17,()),c1,())⟩)))
def qh (s:bO):OT (Sum bO aZ):=ab6 s.1.1 s.1.2.2.2.1 s.1.2.2.2.2.1 s.1.2.2.2.2.2.1 s.1.2.2.2.2.2.2.2.1 s.1.2.2.2.2.2.2.2.2.1 s.2.1 s.2.2.1 s.2.2.2.1
def JH (g2_2:bO->gh) (s:bO):OT aZ:=(.ok ⟨(.exit 2,lP),g2_2 s⟩)
def lQ:Shape:=⟨43,[(7,.own 0)],[(0,fL)],0,true⟩
abbrev kr:Type:=ct×fK
def ab7 (ok2:bO->Bool) (g2_2:bO->gh) (a0:Int) (a15:aB) (a16:Int) (a17:Int) (c0:aB):OT (Sum cx aZ):=
 let z0:Int:=(↑(List.length c0):Int)
 let z1:Int:=(2:Int)*z0
 let z2:ab:=List.getD a15 (Int.toNat a17) {w0:=0,w1:=0,w2:=0,w3:=0}
 let z3:bO:=((a0,(),(),a15,a16,a17,(),z0,(0:Int),()),[z2.w0,z2.w1,z2.w2,z2.w3],[],c0,())
 let z4:cx:=g2_2 z3
 let z5:=z4.fst
 let z6:=z5.snd.snd
 let z7:=z6.snd
 (.br (decide (a17<a16))
 (gd [inB a17 (List.length a15),inR z1,true&&decide ((0:Int)<=z1)&&decide (z1*(32:Int)<=(140737488355328:Int))&&decide (z1<=(140737488355328:Int)),ok2 z3,inR (z7.snd.fst+(1:Int))] (.ok (.inl ((z5.fst,(),z6.fst,z7.fst,z7.snd.fst+(1:Int),()),z4.snd.fst,()))))
 (.ok (.inr ⟨(.exit 0,lQ),(((),()),c0,())⟩)))
def qi (ok2:bO->Bool) (g2_2:bO->gh) (s:cx):OT (Sum cx aZ):=ab7 ok2 g2_2 s.1.1 s.1.2.2.1 s.1.2.2.2.1 s.1.2.2.2.2.1 s.2.1
def JI (g0_0:cx->kr) (s:cx):OT aZ:=(.ok ⟨(.exit 0,lQ),g0_0 s⟩)
def yP:aL:=⟨[.own 0],[(0,fL)],false⟩
def NZ (ok2:bO->Bool) (g2_2:bO->gh) (ok0:cx->Bool) (g0_0:cx->kr) (a0:Int) (a1:ab) (a2:aB):OT j8.Y:=
 let z0:cx:=((a0,(),a2,(↑(List.length a2):Int),(0:Int),()),[a1],())
 (gd [ok0 z0] (.ok ⟨yP,(((),()),(g0_0 z0).snd.fst,())⟩))
theorem Rg (ok2:bO->Bool) (g2_2:bO->gh) (ok0:cx->Bool) (g0_0:cx->kr) (h2:bh qh ok2 (JH g2_2)) (h0:bh (qi ok2 g2_2) ok0 (JI g0_0)) (pre:s9->Bool) (F:s9->OT j8.Y) (hF:∀ (x:s9) oy,pre x=true->(F x).run=some oy->(NZ ok2 g2_2 ok0 g0_0 x.1.1 x.1.2.1 x.1.2.2.1).run=some oy):aa aj 72 (j8.az pre F):=
 di wM 72 Tryz.f72 j8 [yP] (lg wM 0 ab2 [(0,lQ)] none none (qi ok2 g2_2) (lg wM 2 ab1 [(2,lP)] none none qh bD h2 bD) h0 bD) (λx=>NZ ok2 g2_2 ok0 g0_0 x.1.1 x.1.2.1 x.1.2.2.1) hF
def azi (m:Nat) (u:ab) (xs:aB) (i:Nat) (l:aB):aB:=l++ [xs.getD i ⟨0,0,0,0⟩,aR m (xs.getD i ⟨0,0,0,0⟩) u]
def azj (m:Nat) (u:ab) (xs:aB):aB:=upto (azi m u xs) [] xs.length
def wtE (m:Nat) (a:ab) (us:aB):aB:=upto (λk l=>azj m (us.getD k ⟨0,0,0,0⟩) l) [a] us.length
theorem adD (m:Nat) (u:ab) (xs:aB):∀ n,(upto (azi m u xs) [] n).length=2*n
 |0=>rfl
 |n+1=>by
  show (_++ [_,_]).length=_
  rw [bL,adD m u xs n]
  rfl
theorem Tu (m:Nat) (a:ab) (us:aB):∀ n,(upto (λk l=>azj m (us.getD k ⟨0,0,0,0⟩) l) [a] n).length=2^n
 |0=>rfl
 |n+1=>by
  refine (adD _ _ _ _).trans ?_
  rw [Tu m a us n,Nat.pow_succ]
  omega
def elL (c:ap):ab:=⟨c.getD 0 0,c.getD 1 0,c.getD 2 0,c.getD 3 0⟩
def nJ (s:bO):Bool:=decide (s.1.2.2.2.2.2.2.2.1=(s.2.2.2.1.length:Int)/\s.1.2.2.2.2.2.2.2.2.1=0/\s.2.1.length=4/\s.2.2.1= []/\s.2.2.2.1.length<=100000)&&ac s.1.1
def qg (s:bO):gh:=((s.1.1,(),s.1.2.2.2.1,s.1.2.2.2.2.1,s.1.2.2.2.2.2.1,()),azj (pS s.1.1) (elL s.2.1) s.2.2.2.1,())
theorem ab4:bh qh nJ (JH qg):=by
 rintro ⟨⟨so,⟨⟩,⟨⟩,us,n,k0,⟨⟩,m,i,⟨⟩⟩,⟨c0,c1,c2,⟨⟩⟩⟩ h0
 have h1:(decide (m=(c2.length:Int)/\i=0/\c0.length=4/\c1= []/\c2.length<=100000)&&ac so)=true:=h0
 rw [aw] at h1
 obtain ⟨rfl,rfl,h4,rfl,hm⟩:=bm h1.1
 have hs:=h1.2
 have:=(bf (T:=qh) (λk e=>(((so,(),(),us,n,k0,(),(c2.length:Int),(k:Int),()),c0,e,c2,()):bO)) (azi (pS so) (elL c0) c2)
  (λe=>(⟨(.exit 2,lP),((so,(),us,n,k0,()),e,())⟩:aZ)) c2.length [] (λk e=>e.length=2*k) rfl (λk e hk hq=>⟨?_,?_⟩) (λe _=> ?_)).1
 ·obtain ⟨m,hm⟩:=this
  exact ⟨m,_,hm,rfl⟩
 ·have hq:e.length=2*k:=hq
  refine (OT.ak (ag (by dsimp only;omega))).trans ((ae ?_).trans rfl)
  simp only [aA,aI,aJ,aw]
  exact ⟨ba (by omega),ag (by show k<c2.length;omega),ag (by omega),hs,ag (by omega),aS (by omega)⟩
 ·show (_++ [_,_]).length=_
  rw [bL,show e.length=2*k from hq]
  show 2*k+2=2*(k+1)
  omega
 ·exact OT.au (bq (by dsimp only;omega))
def FF (s:cx):Bool:=decide (s.1.2.2.2.1=(s.1.2.2.1.length:Int)/\s.1.2.2.2.2.1=0/\s.1.2.2.1.length<=10/\s.2.1.length=1)&&ac s.1.1
def JG (s:cx):kr:=(((),()),upto (λk l=>azj (pS s.1.1) (s.1.2.2.1.getD k ⟨0,0,0,0⟩) l) s.2.1 s.1.2.2.1.length,())
theorem ab5:bh (qi nJ qg) FF (JI JG):=by
 rintro ⟨⟨so,⟨⟩,us,n,i,⟨⟩⟩,⟨c0,⟨⟩⟩⟩ h0
 have h1:(decide (n=(us.length:Int)/\i=0/\us.length<=10/\c0.length=1)&&ac so)=true:=h0
 rw [aw] at h1
 obtain ⟨rfl,rfl,h4,hm⟩:=bm h1.1
 have hs:=h1.2
 obtain ⟨a,rfl⟩:∃ a,c0= [a]:=by
  match c0,hm with
  | [a],_=>exact ⟨a,rfl⟩
 have:=(bf (T:=qi nJ qg) (λk e=>(((so,(),us,(us.length:Int),(k:Int),()),e,()):cx)) (λk l=>azj (pS so) (us.getD k ⟨0,0,0,0⟩) l)
  (λe=>(⟨(.exit 0,lQ),(((),()),e,())⟩:aZ)) us.length [a] (λk e=>e.length=2^k) rfl (λk e hk hq=>⟨?_,?_⟩) (λe _=> ?_)).1
 ·obtain ⟨m,hm⟩:=this
  exact ⟨m,_,hm,rfl⟩
 ·have hq:e.length=2^k:=hq
  have hb:2^k<=1024:=Nat.pow_le_pow_right (by omega) (show k<=10 by omega)
  refine (OT.ak (ag (by dsimp only;omega))).trans ((ae ?_).trans rfl)
  simp only [aA,aI,aJ,aw,Bool.true_and]
  exact ⟨ba (by omega),aS (by omega),⟨⟨ag (by omega),ag (by omega)⟩,ag (by omega)⟩,be (ag ⟨rfl,rfl,rfl,rfl,by show e.length<=100000;omega⟩) hs,aS (by show-9223372036854775808<=(k:Int)+1/\(k:Int)+1<=9223372036854775807;omega)⟩
 ·refine (adD _ _ _ _).trans ?_
  rw [show e.length=2^k from hq,Nat.pow_succ]
  omega
 ·exact OT.au (bq (by dsimp only;omega))
def s8 (x:s9):Bool:=decide (x.1.2.2.1.length<=10)&&ac x.1.1
def N0 (x:s9):OT j8.Y:=.ok ⟨yP,(((),()),wtE (pS x.1.1) x.1.2.1 x.1.2.2.1,())⟩
theorem ab3:aa aj 72 (j8.az s8 N0):=Rg nJ qg FF JG ab4 ab5 _ _ λx oy hp ho=>by
 rw [<-ho]
 obtain ⟨⟨so,a,us,⟨⟩⟩,⟨⟩⟩:=x
 have hp':(decide (us.length<=10)&&ac so)=true:=hp
 rw [aw] at hp'
 refine (ae ?_).trans rfl
 simp only [aA,aI,aJ]
 exact be (ag ⟨rfl,rfl,bm hp'.1,rfl⟩) hp'.2
def qf:bt:=(j8.az s8 N0)
theorem MF:aa aj 72 qf:=ab3
theorem ME:ax qf:=av
def Pm:Env:=aq 72 qf ajm
theorem F8:bV aj te Pm:=aU follows wM MF ME
def mJ:af:=⟨[aC,lC],[],true,0,false⟩
abbrev BH:Type:=aiE
def D5:aL:=⟨[rH,aC],[],false⟩
def Ww (a0:Int) (a1:eC):OT mJ.Y:=
 (gd [ow ((a0,a1,()),())] (.ok ⟨D5,(((AR a0 (wN a0 a1)).snd.snd,(0:Int),()),())⟩))
theorem Wv (pre:BH->Bool) (F:BH->OT mJ.Y) (hF:∀ (x:BH) oy,pre x=true->(F x).run=some oy->(Ww x.1.1 x.1.2.1).run=some oy):aa aj 30 (mJ.az pre F):=
 di F8 30 Tryz.f30 mJ [D5] bD (λx=>Ww x.1.1 x.1.2.1) hF
def mI (x:BH):Bool:=ow x
def Wx (x:BH):OT mJ.Y:=.ok ⟨D5,(((AR x.1.1 (wN x.1.1 x.1.2.1)).2.2,(0:Int),()),())⟩
theorem amh:aa aj 30 (mJ.az mI Wx):=Wv _ _ λx oy hp ho=>by
 rw [<-ho]
 obtain ⟨⟨c,l,⟨⟩⟩,⟨⟩⟩:=x
 refine (ae ?_).trans rfl
 rw [aA,show ow ((c,l,()),())=true from hp]
 rfl
def tv:bt:=(mJ.az mI Wx)
theorem RE:aa aj 30 tv:=amh
theorem RD:ax tv:=av
def Zk:Env:=aq 30 tv Pm
theorem aez:bV aj te Zk:=aU follows F8 RE RD
abbrev NA:af:=fU
def Ez (p:ml) (l:aB) (b:ab):Pt:=AR p.1 (wN p.1 (SA p l b))
def iQ (x:pU):Bool:=(cU x.1.1==0)&&(decide (x.1.2.1.length<=x.1.1.2.2.1.length)&&cy x.1.1.1 (SA x.1.1 x.1.2.1 x.1.2.2.1))
def NB (x:pU):OT fU.Y:=.ok ⟨dp,((Ez x.1.1 x.1.2.1 x.1.2.2.1,(0:Int),()),())⟩
theorem ann {p:ml} (h:(cU p==0)=true):ac p.1=true:=by
 unfold cU at h
 cases h1:ac p.1
 ·rw [h1] at h;cases h
 ·rfl
theorem aE1 {p:ml} {l:List ab} {b:ab} (h:(cU p==0)=true) (hl:l.length<=p.2.2.1.length) (ha:cy p.1 (SA p l b)=true):azm p l b=(Ez p l b,0):=by
 unfold azm Ez
 have h3:(SA p l b).length<=100000:=by
  unfold SA
  rw [OK]
  have:=La h
  omega
 rw [h,bq (by omega),ann h,ag h3,ha]
 rfl
theorem abf:aa aj 80 (NA.az iQ NB):=cL (S:=fU) alr λx oy hp ho=>by
 obtain ⟨⟨p,l,b,⟨⟩⟩,⟨⟩⟩:=x
 have hp':((cU p==0)&&(decide (l.length<=p.2.2.1.length)&&cy p.1 (SA p l b)))=true:=hp
 rw [aw,aw] at hp'
 obtain ⟨h1,h2,h3⟩:=hp'
 have:=La h1
 refine ⟨ag (by show p.2.2.1.length<=140737488355328;omega),?_⟩
 show (OT.ok ⟨dp,(((azm p l b).1,(azm p l b).2,()),())⟩:OT fU.Y).run=some oy
 rw [aE1 h1 (bm h2) h3]
 exact ho
def pR:bt:=(NA.az iQ NB)
theorem MA:aa aj 80 pR:=abf
theorem Mz:ax pR:=av
def Pj:Env:=aq 80 pR Zk
theorem ld:bV aj te Pj:=aU follows aez MA Mz
end
section
namespace Sx
open Go
def aCU (i j:Nat) (st:St):St:=match st.tm.getD i .gu with
 |.ptr c0 e0 0 0=>match ec st.hp c0 e0 with
  |some (.cells vs)=>match vs[j]? with
   |some (.own c e)=>match ec st.hp c e with
    |some (.row t xs)=>cond (Nat.beq c c0) st ⟨st.tm,cQ st.hp (aC3 c0 e0 vs j c e t xs)⟩
    |_=>st
   |_=>st
  |_=>st
 |_=>st
def ae0:List (Nat×Nat)->St->St
 | [],st=>st
 |p::r,st=>ae0 r (aCU p.1 p.2 st)
theorem awb {i j:Nat} {R:Ctx} {st:St} {a:Act} {w:World} (h:iX R st a w):∃ R1,R.Ext R1/\iX R1 (aCU i j st) a w:=by
 unfold aCU
 split
 ·rename_i c0 e0 _
  split
  ·rename_i vs hc0
   split
   ·rename_i c e hj
    split
    ·rename_i t xs hc
     cases hb:Nat.beq c c0
     ·have hne:c≠c0:=λe'=>by subst e';simp at hb
      rw [<-h.hp] at hc0 hc
      obtain ⟨R1,ha⟩:=M9 h.mem (bU hc0) hj (bU hc) hne
      exact ⟨R1,ha.ext,h.TU ha⟩
     ·exact ⟨R,.refl R,h⟩
    ·exact ⟨R,.refl R,h⟩
   ·exact ⟨R,.refl R,h⟩
  ·exact ⟨R,.refl R,h⟩
 ·exact ⟨R,.refl R,h⟩
theorem TV:∀ (l:List (Nat×Nat)) {R:Ctx} {st:St} {a:Act} {w:World},iX R st a w->∃ R1,R.Ext R1/\iX R1 (ae0 l st) a w
 | [],R,_,_,_,h=>⟨R,.refl R,h⟩
 |p::r,_,_,_,_,h=>by
  obtain ⟨R1,h1,h2⟩:=awb (i:=p.1) (j:=p.2) h
  obtain ⟨R2,h3,h4⟩:=TV r h2
  exact ⟨R2,h1.trans h3,h4⟩
theorem akB {P:Program} {R₀:Ctx} {b:Code} {l:St->(SE->St->Prop)->Prop} (t:List (Nat×Nat)) (h:Av P R₀ b l):Av P R₀ b λst K=>l (ae0 t st) K:=λR st a w K Q hx hst hl hK=>by
 obtain ⟨R1,h1,h2⟩:=TV t hst
 exact h R1 _ a w K Q (hx.trans h1) h2 hl hK
section
variable {P:Program} {te:TE} {Φ:Env}
theorem aIO (g:bV P te Φ) {k:Nat} {c:Code} (t:List (Nat×Nat)) (id:Nat) (sh:Shape) (l:List (Nat×Shape)) (r:Option Shape) (p:Option (TypeId×Shape)) (T:sh.T->OT (Sum sh.T aZ)) {Λi Λ:Lam} {ok:sh.T->Bool} {f:sh.T->OT aZ} (inner:rJ P k Λi (Jz c id)) (hf:bh T ok f) (rest:rJ P k Λ c)
 (hd:distinct ((blocks c).map (·.1))=true:=by kernel_rfl) (hl:V2 c id=true:=by kernel_rfl)
 (hk:(Nat.beq sh.fixed k&&((l.all λp=>Nat.beq p.2.fixed k)&&(r.all λs=>Nat.beq s.fixed k)&&p.all λq=>Nat.beq q.2.fixed k))=true:=by kernel_rfl)
 (hT:∀ s Q,wps te Φ Λi 1000 (Jz c id) (sh.inj s) (Qe sh (av0 l r p) Q)=(T s).wpR Q:=by intro s Q;kernel_rfl):rJ P k (Re id (λst K=>aqY sh id ok f (ae0 t st) K) Λ) c:=
 λR hR=>NY hd hl (akB t (agS g hk inner hT hf hR)) (rest R hR)
end
end Sx
end
section
open Sx Go
set_option maxRecDepth 100000
def tj:af:=⟨[Pb,eX,fE,jP,dw,dw],[aiV,lc,uH,uI],false,3,true⟩
def js:aL:=⟨jK,[aiV,lc,uH,uI],false⟩
noncomputable abbrev amb:anU:=aHL
def aEd:Nat:=2
theorem ark:L8 aj amb:=apz
abbrev JU:Type:=(kW×Unit×Unit×aB×xo)×jS×jT×fK×dl
def aEe:Shape:=⟨245,[rG,(2,fE),(3,jP),(6,CE),n0,nZ,CD,(244,.ptr 7 0 0)],aBN,4,true⟩
def ax8:Shape:=⟨244,[rG,(2,fE),(3,jP),(6,CE),n0,nZ,CD,(13,aC),EQ,(15,.own 9),(46,aC),(47,aC)],aBU,8,true⟩
abbrev dg:Type:=(Unit×Unit×aB×Unit×Unit×Unit×Unit×Int×rF)×aBI
def vM:Shape:=⟨244,[CD],aBN,8,true⟩
abbrev zd:Type:=ct×jS×jT×fK×aF×rB×ap×ap×o4
def vN:Shape:=⟨244,[rG,(2,fE),(3,jP),(6,CE),n0,nZ,CD,(13,aC),EQ,(15,.own 9)],aBU,8,true⟩
abbrev qp:Type:=(Unit×Unit×aB×Unit×Unit×Unit×Unit×jS)×aBI
def ayf (a3:aB) (a13:Int) (a46:Int) (a47:Int) (c0_0:Int) (c1_0:Int) (c1_1:aB) (c2_0:aB) (c3:aF) (c4_0:kW) (c5:ap) (c6:ap) (c7_0:Int) (c8_0:kW) (c8_1:Int) (c8_2:ab) (c8_5:cJ) (c8_6:ab) (c9:aB) (c10:aB) (c11:aB):OT (Sum dg aZ):=
 let z0:mZ:=ao c2_0
 let z1:=z0.snd
 let z2:=z1.fst
 let z3:Nat:=List.length c9
 let z4:Nat:=Int.toNat a47
 let z5:=z1.snd
 (.br (decide (a47<a46))
 (gd [oq (((),()),(c2_0,()),())] (.br (z2==(0:Int))
  (gd [inB a47 z3,decide (z4<z3),inR (a47+(1:Int))] (.ok (.inl (((),(),a3,(),(),(),(),a13,(),(),a46,a47+(1:Int),()),(c0_0,(),(),()),(c1_0,c1_1,()),(z5,()),c3,(c4_0,()),c5,c6,(c7_0,()),(c8_0,c8_1,c8_2,(),(),c8_5,c8_6,()),List.set c9 z4 z0.fst,c10,c11,()))))
  (.ok (.inr ⟨(.pan (.iface 175 (.agg [.int z2])),vM),(((),()),(c0_0,(),(),()),(c1_0,c1_1,()),(z5,()),c3,(c4_0,()),c5,c6,(c7_0,()),())⟩))))
 (.ok (.inr ⟨(.exit 0,vN),(((),(),a3,(),(),(),(),a13,(),(),()),(c0_0,(),(),()),(c1_0,c1_1,()),(c2_0,()),c3,(c4_0,()),c5,c6,(c7_0,()),(c8_0,c8_1,c8_2,(),(),c8_5,c8_6,()),c9,c10,c11,())⟩)))
def G0 (s:dg):OT (Sum dg aZ):=ayf s.1.2.2.1 s.1.2.2.2.2.2.2.2.1 s.1.2.2.2.2.2.2.2.2.2.2.1 s.1.2.2.2.2.2.2.2.2.2.2.2.1 s.2.1.1 s.2.2.1.1 s.2.2.1.2.1 s.2.2.2.1.1 s.2.2.2.2.1 s.2.2.2.2.2.1.1 s.2.2.2.2.2.2.1 s.2.2.2.2.2.2.2.1 s.2.2.2.2.2.2.2.2.1.1 s.2.2.2.2.2.2.2.2.2.1.1 s.2.2.2.2.2.2.2.2.2.1.2.1 s.2.2.2.2.2.2.2.2.2.1.2.2.1 s.2.2.2.2.2.2.2.2.2.1.2.2.2.2.2.1 s.2.2.2.2.2.2.2.2.2.1.2.2.2.2.2.2.1 s.2.2.2.2.2.2.2.2.2.2.1 s.2.2.2.2.2.2.2.2.2.2.2.1 s.2.2.2.2.2.2.2.2.2.2.2.2.1
def ag3 (g0_p:dg->zd) (v0:dg->Int) (c0_p:dg->Bool) (g0_0:dg->qp) (s:dg):OT aZ:=(.br (c0_p s) (.ok ⟨(.pan (.iface 175 (.agg [.int (v0 s)])),vM),g0_p s⟩) (.ok ⟨(.exit 0,vN),g0_0 s⟩))
def ax7:Shape:=⟨244,[rG,(2,fE),(3,jP),n0,nZ,CD,EQ,(15,.own 9),(17,.ptr 10 0 0),(18,.ptr 11 0 0),(19,.ptr 12 0 0),(117,aC),(118,aC)],[(0,.cells [aC,Ao,.own 13]),lc,uH,(3,.gone),(4,uE),Cx,uG,(7,pc),(8,.cells [YT,aC,dw,.own 14,.own 15,xr,dw]),(9,fL),(10,gx),(11,gx),(12,gx),(13,pb),(14,fL),(15,fL)],8,true⟩
abbrev gN:Type:=(Unit×Unit×aB×Unit×Unit×Unit×YS)×jS×jT×fK×Unit×rB×ap×ap×eU×aiN×aB×ap×ap×ap×aF×aB×fK
def vL:Shape:=⟨244,[rG,(2,fE),(3,jP),n0,nZ,CD,EQ,(17,.ptr 9 0 0),(18,.ptr 10 0 0)],[(0,.cells [aC,Ao,.own 11]),lc,uH,(3,.gone),(4,uE),Cx,uG,(7,pc),(8,.cells [YT,aC,dw,.own 12,.own 13,xr,dw]),(9,gx),(10,gx),(11,pb),(12,fL),(13,fL)],8,true⟩
abbrev qo:Type:=(Unit×Unit×aB×Unit×Unit×LR)×jS×jT×fK×Unit×rB×ap×ap×eU×aiN×ap×ap×aF×aB×fK
def aye (a3:aB) (a117:Int) (a118:Int) (c0_0:Int) (c1_0:Int) (c1_1:aB) (c2_0:aB) (c4_0:kW) (c5:ap) (c6:ap) (c7_0:Int) (c8_0:kW) (c8_1:Int) (c8_2:ab) (c8_5:cJ) (c8_6:ab) (c9:aB) (c10:ap) (c11:ap) (c12:ap) (c13:aF) (c14:aB) (c15:aB):OT (Sum gN aZ):=
 let z0:Nat:=List.length c9
 let z1:Nat:=Int.toNat a118
 let z2:ab:= {w0:=List.getD c11 0 0,w1:=List.getD c11 1 0,w2:=List.getD c11 2 0,w3:=List.getD c11 3 0}
 let z3:ab:= {w0:=0,w1:=0,w2:=0,w3:=0}
 let z4:ab:=List.getD c9 z1 z3
 let z5:Nat:=List.length c14
 let z6:Nat:=List.length a3
 let z7:Nat:=pS c8_1
 let z8:aB:=List.set c14 z1 (aR z7 z2 z4)
 let z9:Nat:=List.length z8
 let z10:Bool:=inB a118 z9
 let z11:Bool:=decide (z1<z9)
 let z12:ab:=List.getD z8 z1 z3
 let z13:ab:=List.getD a3 z1 z3
 let z14:Nat:=List.length c12
 let z15:Bool:=decide (4<=z14)
 let z16:Bool:=decide ((List.length c15+1)*32<=140737488355328)
 let z17:Bool:=decide (4<=List.length c6)
 let z18:ab:= {w0:=List.getD c12 0 0,w1:=List.getD c12 1 0,w2:=List.getD c12 2 0,w3:=List.getD c12 3 0}
 let z19:ab:= {w0:=List.getD c6 0 0,w1:=List.getD c6 1 0,w2:=List.getD c6 2 0,w3:=List.getD c6 3 0}
 let z20:Bool:=ee ((c8_1,z18,z19,()),())
 let z21:Bool:=decide ((4/1:Nat)+0<=z14)
 let z22:Bool:=inR (a118+(1:Int))
 let z23:ab:=aR z7 z18 z19
 let z24:ap:=List.set (List.set (List.set (List.set c12 0 z23.w0) 1 z23.w1) 2 z23.w2) 3 z23.w3
 let z25:aB:=c15++ [z18]
 (.br (decide (a118<a117))
 (gd [decide (4<=List.length c11),inB a118 z0,decide (z1<z0),ee ((c8_1,z2,z4,()),()),inB a118 z5,decide (z1<z5)] (.br (decide (a118<(↑z6:Int)))
  (gd [z10,z11,inB a118 z6,gT ((c8_1,z12,z13,()),()),z10,z11,z15,z16,z15,z17,z20,z21,z22] (.ok (.inl (((),(),a3,(),(),(),(),(),(),(),(),a117,a118+(1:Int),()),(c0_0,(),(),()),(c1_0,c1_1,()),(c2_0,()),(),(c4_0,()),c5,c6,(c7_0,()),(c8_0,c8_1,c8_2,(),(),c8_5,c8_6,()),c9,c10,c11,z24,c13,List.set z8 z1 (dv z7 z12 z13),z25,()))))
  (gd [z15,z16,z15,z17,z20,z21,z22] (.ok (.inl (((),(),a3,(),(),(),(),(),(),(),(),a117,a118+(1:Int),()),(c0_0,(),(),()),(c1_0,c1_1,()),(c2_0,()),(),(c4_0,()),c5,c6,(c7_0,()),(c8_0,c8_1,c8_2,(),(),c8_5,c8_6,()),c9,c10,c11,z24,c13,z8,z25,()))))))
 (.ok (.inr ⟨(.exit 2,vL),(((),(),a3,(),(),(),(),(),(),()),(c0_0,(),(),()),(c1_0,c1_1,()),(c2_0,()),(),(c4_0,()),c5,c6,(c7_0,()),(c8_0,c8_1,c8_2,(),(),c8_5,c8_6,()),c10,c11,c13,c14,c15,())⟩)))
def GZ (s:gN):OT (Sum gN aZ):=aye s.1.2.2.1 s.1.2.2.2.2.2.2.2.2.2.2.2.1 s.1.2.2.2.2.2.2.2.2.2.2.2.2.1 s.2.1.1 s.2.2.1.1 s.2.2.1.2.1 s.2.2.2.1.1 s.2.2.2.2.2.1.1 s.2.2.2.2.2.2.1 s.2.2.2.2.2.2.2.1 s.2.2.2.2.2.2.2.2.1.1 s.2.2.2.2.2.2.2.2.2.1.1 s.2.2.2.2.2.2.2.2.2.1.2.1 s.2.2.2.2.2.2.2.2.2.1.2.2.1 s.2.2.2.2.2.2.2.2.2.1.2.2.2.2.2.1 s.2.2.2.2.2.2.2.2.2.1.2.2.2.2.2.2.1 s.2.2.2.2.2.2.2.2.2.2.1 s.2.2.2.2.2.2.2.2.2.2.2.1 s.2.2.2.2.2.2.2.2.2.2.2.2.1 s.2.2.2.2.2.2.2.2.2.2.2.2.2.1 s.2.2.2.2.2.2.2.2.2.2.2.2.2.2.1 s.2.2.2.2.2.2.2.2.2.2.2.2.2.2.2.1 s.2.2.2.2.2.2.2.2.2.2.2.2.2.2.2.2.1
def ag2 (g2_2:gN->qo) (s:gN):OT aZ:=(.ok ⟨(.exit 2,vL),g2_2 s⟩)
def ax6:Shape:=⟨244,[rG,(2,fE),CD,EQ],aBR,8,true⟩
abbrev cF:Type:=LR×aBF
def mf:Shape:=⟨244,[CD],[(0,.cells [aC,Ao,.own 8]),lc,uH,(3,.gone),(4,uE),Cx,uG,(7,pc),(8,pb)],8,true⟩
abbrev zb:Type:=ct×jS×jT×fK×Unit×rB×ap×ap×eU×dl
def oE:Shape:=⟨244,[rG,CD,EQ],aBR,8,true⟩
abbrev zc:Type:=nW×aBF
def ayd (c0_0:Int) (c1_0:Int) (c1_1:aB) (c2_0:aB) (c4_0:kW) (c5:ap) (c6:ap) (c7_0:Int) (c8_0:Gr) (c9:aF):OT (Sum cF aZ):=
 let z0:(PUnit×Cs)×(Gr×PUnit)×auR:=(((),(),(),()),(c8_0,()),(c0_0,(),(),()),(c1_0,c1_1,()),(c2_0,()),c9,())
 let z1:Int×Gr×aB×aB×aF:=bo c0_0 c1_0 (Ge z0)
 let z2:=z1.fst
 let z3:=z1.snd
 let z4:=z3.snd
 let z5:=z4.fst
 let z6:=z4.snd
 let z7:=z6.fst
 let z8:=z6.snd
 (.br (decide ((1:Int)<(↑(List.length c8_0.snd.snd.snd.fst):Int)))
 (gd [DT z0] (.br (z2==(0:Int))
  (.ok (.inl (((),(),(),(),()),(c0_0,(),(),()),(c1_0,z5,()),(z7,()),(),(c4_0,()),c5,c6,(c7_0,()),(z3.fst,()),z8,())))
  (.ok (.inr ⟨(.pan (.iface 175 (.agg [.int z2])),mf),(((),()),(c0_0,(),(),()),(c1_0,z5,()),(z7,()),(),(c4_0,()),c5,c6,(c7_0,()),z8,())⟩))))
 (.ok (.inr ⟨(.exit 4,oE),(((),(),(),()),(c0_0,(),(),()),(c1_0,c1_1,()),(c2_0,()),(),(c4_0,()),c5,c6,(c7_0,()),(c8_0,()),c9,())⟩)))
def BE (s:cF):OT (Sum cF aZ):=ayd s.2.1.1 s.2.2.1.1 s.2.2.1.2.1 s.2.2.2.1.1 s.2.2.2.2.2.1.1 s.2.2.2.2.2.2.1 s.2.2.2.2.2.2.2.1 s.2.2.2.2.2.2.2.2.1.1 s.2.2.2.2.2.2.2.2.2.1.1 s.2.2.2.2.2.2.2.2.2.2.1
def ag1 (g4_p:cF->zb) (v4:cF->Int) (c4_p:cF->Bool) (g4_4:cF->zc) (s:cF):OT aZ:=(.br (c4_p s) (.ok ⟨(.pan (.iface 175 (.agg [.int (v4 s)])),mf),g4_p s⟩) (.ok ⟨(.exit 4,oE),g4_4 s⟩))
section
variable (ok0:dg->Bool) (g0_p:dg->zd) (v0:dg->Int) (c0_p:dg->Bool) (g0_0:dg->qp) (ok2:gN->Bool) (g2_2:gN->qo) (ok4:cF->Bool) (g4_p:cF->zb) (v4:cF->Int) (c4_p:cF->Bool) (g4_4:cF->zc)
def Rt (a0:kW) (a3:aB) (a4:ab) (a5:ab) (c0_0:Int) (c1_0:Int) (c1_1:aB) (c2_0:aB) (c3:aF):OT tj.Y:=
 let z0:Int:=gE a0 c0_0
 let z1:Int:=(↑(List.length a0.snd.snd.fst):Int)
 let z2:ab:= {w0:=0,w1:=0,w2:=0,w3:=0}
 let z3:aB:=List.replicate (Int.toNat z1) z2
 let z4:dg:=(((),(),a3,(),(),(),(),z1,(),(),(↑(List.length z3):Int),(0:Int),()),(c0_0,(),(),()),(c1_0,c1_1,()),(c2_0,()),c3,(a0,()),[a4.w0,a4.w1,a4.w2,a4.w3],[a5.w0,a5.w1,a5.w2,a5.w3],((0:Int),()),(a0,ay a0.fst (1:Int),z2,(),(),a0.snd.snd.fst,z2,()),z3,[],[],())
 let z5:=(g0_p z4).snd
 let z6:=z5.snd
 let z7:=z6.fst
 let z8:=z6.snd
 let z9:PUnit×PUnit:=((),())
 let z10:qp:=g0_0 z4
 let z11:=z10.snd
 let z12:=z11.snd
 let z13:=z12.snd
 let z14:=z13.fst.fst
 let z15:mZ:=ao z14
 let z16:=z15.snd
 let z17:=z16.fst
 let z18:=z13.snd
 let z19:=z18.snd
 let z20:=z19.snd
 let z21:=z20.snd
 let z22:=z21.snd
 let z23:=z22.snd
 let z24:=z23.snd
 let z25:=z24.fst
 let z26:Nat:=List.length z25
 let z27:Bool:=inB (0:Int) z26
 let z28:Bool:=decide (0<z26)
 let z29:=z21.fst
 let z30:=z23.fst
 let z31:=z30.snd
 let z32:=z31.fst
 let z33:ab:= {w0:=List.getD z29 0 0,w1:=List.getD z29 1 0,w2:=List.getD z29 2 0,w3:=List.getD z29 3 0}
 let z34:ab:=List.getD z25 0 z2
 let z35:Nat:=pS z32
 let z36:ab:=rP z35 z33 z25
 let z37:=z19.fst.fst
 let z38:aB:=List.set z25 0 (iw z35 z34 z36)
 let z39:=z15.fst
 let z40:cK:=Ez z37 z38 z39
 let z41:=z11.fst.fst
 let z42:Cs:=((),(),())
 let z43:Int×Cs:=(z41,z42)
 let z44:=z12.fst
 let z45:=z44.fst
 let z46:=z44.snd.fst
 let z47:LV:=(z45,z46,())
 let z48:=z18.fst
 let z49:aF:=z48++jO z41 z40
 let z50:FZ:=(z49,())
 let z51:mZ:=ao z46
 let z52:=z51.snd
 let z53:=z52.fst
 let z54:=z52.snd
 let z55:mZ:=ao z54
 let z56:=z55.snd
 let z57:=z56.fst
 let z58:Nat:=pS z45
 let z59:ab:=dv z58 z55.fst z2
 let z60:=z56.snd
 let z61:=z16.snd
 let z62:=z10.fst.snd.snd
 let z63:=z62.snd.snd.snd.snd.snd.fst
 let z64:aB:=List.replicate (Int.toNat z63) z2
 let z65:=z31.snd.snd.snd.snd
 let z66:ab:=dv z58 z51.fst z2
 let z67:gN:=(((),(),z62.fst,(),(),(),(),(),(),(),(),(↑(List.length z64):Int),(0:Int),()),(z41,(),(),()),(z45,z60,()),(z61,()),(),(z37,()),z20.fst,z29,(z22.fst.fst,()),(z30.fst,z32,z59,(),(),z65.fst,z65.snd.fst,()),z38,[z39.w0,z39.w1,z39.w2,z39.w3],[z66.w0,z66.w1,z66.w2,z66.w3],[(1:UInt64),(0:UInt64),(0:UInt64),(0:UInt64)],z49,z64,z24.snd.snd.fst,())
 let z68:qo:=g2_2 z67
 let z69:=z68.snd
 let z70:=z69.snd
 let z71:=z70.snd
 let z72:=z71.snd.snd
 let z73:=z72.snd
 let z74:=z73.snd
 let z75:=z74.snd
 let z76:=z75.snd
 let z77:=z76.snd
 let z78:=z77.snd
 let z79:=z78.snd
 let z80:=z79.snd
 let z81:=z80.fst
 let z82:Nat:=List.length z81
 let z83:Bool:=inB (0:Int) z82
 let z84:Bool:=decide (0<z82)
 let z85:=z74.fst
 let z86:=z76.fst
 let z87:=z86.snd
 let z88:=z87.fst
 let z89:=z68.fst.snd.snd.fst
 let z90:ab:= {w0:=List.getD z85 0 0,w1:=List.getD z85 1 0,w2:=List.getD z85 2 0,w3:=List.getD z85 3 0}
 let z91:ab:=List.getD z81 0 z2
 let z92:Nat:=pS z88
 let z93:ab:=rP z92 z90 z89
 let z94:=z73.fst
 let z95:=z78.fst
 let z96:=z77.fst
 let z97:ab:= {w0:=List.getD z95 0 0,w1:=List.getD z95 1 0,w2:=List.getD z95 2 0,w3:=List.getD z95 3 0}
 let z98:ab:= {w0:=List.getD z96 0 0,w1:=List.getD z96 1 0,w2:=List.getD z96 2 0,w3:=List.getD z96 3 0}
 let z99:ab:= {w0:=List.getD z94 0 0,w1:=List.getD z94 1 0,w2:=List.getD z94 2 0,w3:=List.getD z94 3 0}
 let z100:ab:=aR z92 z97 z98
 let z101:=z70.fst
 let z102:=z87.snd
 let z103:cF:=(((),(),(),(),()),(z69.fst.fst,(),(),()),(z101.fst,z101.snd.fst,()),(z71.fst.fst,()),(),(z72.fst.fst,()),z94,z85,(z75.fst.fst,()),((z86.fst,z88,z102.fst,List.set z81 0 (iw z92 z91 z93),z80.snd.fst,z102.snd.snd.snd.fst,dv z92 z99 z100),()),z79.fst,())
 let z104:=(g4_p z103).snd
 let z105:=z104.snd
 let z106:=z105.fst
 let z107:=z105.snd
 let z108:=(g4_4 z103).snd
 let z109:=z108.snd
 let z110:=z109.snd
 let z111:=z110.snd.snd.snd.snd.snd.snd
 let z112:=z111.fst.fst.snd.snd.snd
 let z113:=z112.fst
 let z114:ab:=List.getD z113 0 z2
 let z115:=z108.fst.fst
 let z116:Int×Cs:=(z115,z42)
 let z117:=z109.fst
 let z118:=z117.fst
 let z119:=z117.snd.fst
 let z120:LV:=(z118,z119,())
 let z121:=z111.snd.fst
 let z122:=z112.snd.snd.snd
 let z123:aF:=z121++lG z115 z114
 (gd [vK ((a0,c0_0,()),())] (.br (z0==(0:Int))
 (.br (decide ((↑(List.length a3):Int)<=z1))
  (gd [decide ((0:Int)<=z1)&&decide (z1<=z1)&&decide (z1*(32:Int)<=(140737488355328:Int))&&decide (z1<=(140737488355328:Int)),ok0 z4] (.br (c0_p z4)
   (.ok ⟨js,((v0 z4,()),(z5.fst.fst,(),(),()),(z7.fst,z7.snd.fst,()),(z8.fst.fst,()),z8.snd.fst,())⟩)
   (gd [oq (z9,(z14,()),())] (.br (z17==(0:Int))
    (gd [z27,z28,decide (4<=List.length z29),sL ((z32,z25,z33,()),()),BM ((z32,z34,z36,()),()),z27,z28,iQ ((z37,z38,z39,()),()),jY (((),z40,()),z43,z47,z48,()),sj (z9,z43,z47,z50)] (.br (z53==(0:Int))
     (gd [sj (z9,z43,(z45,z54,()),z50)] (.br (z57==(0:Int))
      (.br (bC z59)
       (.ok ⟨js,(((100:Int),()),(z41,(),(),()),(z45,z60,()),(z61,()),z49,())⟩)
       (gd [decide ((0:Int)<=z63)&&decide (z63<=z63)&&decide (z63*(32:Int)<=(140737488355328:Int))&&decide (z63<=(140737488355328:Int)),ok2 z67,z83,z84,decide (4<=List.length z85),sL ((z88,z89,z90,()),()),BM ((z88,z91,z93,()),()),z83,z84,decide (4<=List.length z94),decide (4<=List.length z95),decide (4<=List.length z96),ee ((z88,z97,z98,()),()),gT ((z88,z99,z100,()),()),ok4 z103] (.br (c4_p z103)
        (.ok ⟨js,((v4 z103,()),(z104.fst.fst,(),(),()),(z106.fst,z106.snd.fst,()),(z107.fst.fst,()),z107.snd.snd.snd.snd.snd.snd.fst,())⟩)
        (gd [inB (0:Int) (List.length z113),po (((),z114,()),z116,z120,z121,()),po (((),z122,()),z116,z120,z123,())] (.ok ⟨js,(((0:Int),()),(z115,(),(),()),(z118,z119,()),(z110.fst.fst,()),z123++lG z115 z122,())⟩)))))
      (.ok ⟨js,((z57,()),(z41,(),(),()),(z45,z60,()),(z61,()),z49,())⟩)))
     (.ok ⟨js,((z53,()),(z41,(),(),()),(z45,z54,()),(z61,()),z49,())⟩)))
    (.ok ⟨js,((z17,()),(z41,(),(),()),(z45,z46,()),(z61,()),z48,())⟩)))))
  (.ok ⟨js,(((50:Int),()),(c0_0,(),(),()),(c1_0,c1_1,()),(c2_0,()),c3,())⟩))
 (.ok ⟨js,((z0,()),(c0_0,(),(),()),(c1_0,c1_1,()),(c2_0,()),c3,())⟩)))
theorem amc (h0:bh G0 ok0 (ag3 g0_p v0 c0_p g0_0)) (h2:bh GZ ok2 (ag2 g2_2)) (h4:bh BE ok4 (ag1 g4_p v4 c4_p g4_4)) (pre:JU->Bool) (F:JU->OT tj.Y) (hF:∀ (x:JU) oy,pre x=true->(F x).run=some oy->(Rt ok0 g0_p v0 c0_p g0_0 ok2 g2_2 ok4 g4_p v4 c4_p g4_4 x.1.1 x.1.2.2.2.1 x.1.2.2.2.2.1 x.1.2.2.2.2.2.1 x.2.1.1 x.2.2.1.1 x.2.2.1.2.1 x.2.2.2.1.1 x.2.2.2.2.1).run=some oy):aa aj 35 (tj.az pre F):=
 aIF ld ark aEd aEe 35 Tryz.f35 tj [js] (aIO ld [(14,26),(14,27)] 4 ax6 [(4,oE)] none (some (175,mf)) BE bD h4 (lg ld 2 ax7 [(2,vL)] none none GZ bD h2 (lg ld 0 ax8 [(0,vN)] none (some (175,vM)) G0 bD h0 bD))) (λx=>Rt ok0 g0_p v0 c0_p g0_0 ok2 g2_2 ok4 g4_p v4 c4_p g4_4 x.1.1 x.1.2.2.2.1 x.1.2.2.2.2.1 x.1.2.2.2.2.2.1 x.2.1.1 x.2.2.1.1 x.2.2.1.2.1 x.2.2.2.1.1 x.2.2.2.2.1) hF
end
theorem aDu {α:Type} (e:List α) (i:Nat) (v:α) (h:i<e.length):(e.set i v).take (i+1)=e.take i++ [v]:=by
 refine List.ext_getElem? λj=> ?_
 grind
def JR:dg->Bool|((_,_,cs,_,_,_,_,a13,_,_,lim,i,_),x0,x1,(co,_),x3,x4,x5,x6,x7,(y0,y1,y2,_,_,y5,y6,_),e,x10,x11,_)=>decide (lim=(e.length:Int)/\i=0/\e.length<=1000/\co.length<=140737488355328)
def JT:dg->zd|((_,_,cs,_,_,_,_,a13,_,_,lim,i,_),x0,x1,(co,_),x3,x4,x5,x6,x7,(y0,y1,y2,_,_,y5,y6,_),e,x10,x11,_)=>(((),()),x0,x1,([],()),x3,x4,x5,x6,x7,())
def Rq:dg->qp|((_,_,cs,_,_,_,_,a13,_,_,lim,i,_),x0,x1,(co,_),x3,x4,x5,x6,x7,(y0,y1,y2,_,_,y5,y6,_),e,x10,x11,_)=>(((),(),cs,(),(),(),(),a13,(),(),()),x0,x1,(co.drop e.length,()),x3,x4,x5,x6,x7,(y0,y1,y2,(),(),y5,y6,()),co.take e.length,x10,x11,())
def Rs:dg->Bool|((_,_,cs,_,_,_,_,a13,_,_,lim,i,_),x0,x1,(co,_),x3,x4,x5,x6,x7,(y0,y1,y2,_,_,y5,y6,_),e,x10,x11,_)=> !decide (e.length<=co.length)
theorem ayc:bh G0 JR (ag3 JT (λ_=>81) Rs Rq):=by
 rintro ⟨⟨⟨⟩,⟨⟩,cs,⟨⟩,⟨⟩,⟨⟩,⟨⟩,a13,⟨⟩,⟨⟩,lim,i,⟨⟩⟩,⟨x0,x1,⟨co,⟨⟩⟩,x3,x4,x5,x6,x7,⟨y0,y1,y2,⟨⟩,⟨⟩,y5,y6,⟨⟩⟩,e,x10,x11,⟨⟩⟩⟩ h
 obtain ⟨rfl,rfl,hn,hc⟩:=bm (show decide (lim=(e.length:Int)/\i=0/\e.length<=1000/\co.length<=140737488355328)=true from h)
 have key:∀ (k i:Nat) (e co:aB),i+k=e.length->e.length<=1000->co.length<=140737488355328->
  ∃ m,cW G0 m (((),(),cs,(),(),(),(),a13,(),(),(e.length:Int),(i:Int),()),x0,x1,(co,()),x3,x4,x5,x6,x7,(y0,y1,y2,(),(),y5,y6,()),e,x10,x11,())=
   some (cond (decide (k<=co.length)) ⟨(.exit 0,vN),(((),(),cs,(),(),(),(),a13,(),(),()),x0,x1,(co.drop k,()),x3,x4,x5,x6,x7,(y0,y1,y2,(),(),y5,y6,()),e.take i++co.take k,x10,x11,())⟩
    ⟨(.pan (.iface 175 (.agg [.int 81])),vM),(((),()),x0,x1,([],()),x3,x4,x5,x6,x7,())⟩):=by
  intro k
  induction k with
  |zero=>
   intro i e co hi hn hc
   refine ⟨1,aV ?_⟩
   rw [List.take_of_length_le (show e.length<=i by omega),List.take_zero,List.append_nil]
   exact OT.au (bq (by dsimp only;omega))
  |succ k ih=>
   intro i e co hi hn hc
   cases co with
   |nil=>
    refine ⟨1,aV ?_⟩
    refine (OT.ak (ag (by dsimp only;omega))).trans ((ae ?_).trans (OT.au rfl))
    rfl
   |cons v r=>
    obtain ⟨m,hm⟩:=ih (i+1) (e.set i v) r (by rw [cu];omega) (by rw [cu];exact hn) (cV (Nat.le_succ _) hc)
    rw [cu,aDu e i v (by omega),List.append_assoc] at hm
    refine ⟨m+1,bN ?_ (hm.trans ?_)⟩
    ·refine (OT.ak (ag (by dsimp only;omega))).trans ((ae ?_).trans ((OT.ak rfl).trans ((ae ?_).trans rfl)))
     ·simp only [aA,aI,aJ]
      exact ag hc
     ·simp only [aA,aI,aJ,aw]
      exact ⟨ba (by omega),ag (by rw [cD];omega),aS (by omega)⟩
    ·rw [show decide (k+1<=(v::r).length)=decide (k<=r.length) from decide_eq_decide.2 Nat.succ_le_succ_iff]
     rfl
 obtain ⟨m,hm⟩:=key e.length 0 e co (Nat.zero_add _) hn hc
 refine ⟨m,_,hm,?_⟩
 show (OT.br (!decide (e.length<=co.length)) _ _).run=_
 cases decide (e.length<=co.length)<;>rfl
abbrev OpT:Type:=aB×aB×ab
def axC (m:Nat) (xi x:ab) (cs S:aB) (k:Nat) (q:OpT):OpT:=
 (q.1.set k (cond (decide (k<cs.length)) (dv m (aR m xi (S.getD k ⟨0,0,0,0⟩)) (cs.getD k ⟨0,0,0,0⟩)) (aR m xi (S.getD k ⟨0,0,0,0⟩))),q.2.1++ [q.2.2],aR m q.2.2 x)
theorem vq (m:Nat) (xi x:ab) (cs S:aB) (q:OpT):∀ n,(upto (axC m xi x cs S) q n).1.length=q.1.length/\(upto (axC m xi x cs S) q n).2.1.length=n+q.2.1.length
 |0=>⟨rfl,(Nat.zero_add _).symm⟩
 |n+1=>by
  obtain ⟨h1,h2⟩:=vq m xi x cs S q n
  refine ⟨?_,?_⟩
  ·show (List.set _ _ _).length=_
   rw [cu,h1]
  ·show (_++ [_]).length=_
   rw [bL,h2,List.length_singleton]
   omega
def hI (l:ap):ab:=⟨l.getD 0 0,l.getD 1 0,l.getD 2 0,l.getD 3 0⟩
def JQ:gN->Bool|((_,_,cs,_,_,_,_,_,_,_,_,lim,i,_),x0,x1,x2,_,x4,x5,c6,x7,(y0,so,z,_,_,y5,y6,_),S,rho,xi,pw,x13,a,b,_)=>decide (lim=(S.length:Int)/\i=0/\S.length<=1000/\a.length=S.length/\b= []/\c6.length=4/\pw=eL ⟨1,0,0,0⟩/\xi.length=4)&&ac so
def Vw (m:Nat) (xi x:ab) (cs S a:aB):OpT:=upto (axC m xi x cs S) (a,[],⟨1,0,0,0⟩) S.length
def Rp:gN->qo|((_,_,cs,_,_,_,_,_,_,_,_,lim,i,_),x0,x1,x2,_,x4,x5,c6,x7,(y0,so,z,_,_,y5,y6,_),S,rho,xi,pw,x13,a,b,_)=>(((),(),cs,(),(),(),(),(),(),()),x0,x1,x2,(),x4,x5,c6,x7,(y0,so,z,(),(),y5,y6,()),rho,xi,x13,(Vw (pS so) (hI xi) (hI c6) cs S a).1,(Vw (pS so) (hI xi) (hI c6) cs S a).2.1,())
theorem ayb:bh GZ JQ (ag2 Rp):=by
 rintro ⟨⟨⟨⟩,⟨⟩,cs,⟨⟩,⟨⟩,⟨⟩,⟨⟩,⟨⟩,⟨⟩,⟨⟩,⟨⟩,lim,i,⟨⟩⟩,⟨x0,x1,x2,⟨⟩,x4,x5,c6,x7,⟨y0,so,z,⟨⟩,⟨⟩,y5,y6,⟨⟩⟩,S,rho,xi,pw,x13,a,b,⟨⟩⟩⟩ h
 have h':(decide (lim=(S.length:Int)/\i=0/\S.length<=1000/\a.length=S.length/\b= []/\c6.length=4/\pw=eL ⟨1,0,0,0⟩/\xi.length=4)&&ac so)=true:=h
 rw [aw] at h'
 obtain ⟨rfl,rfl,hn,ha,rfl,h6,rfl,hx⟩:=bm h'.1
 have hs:=h'.2
 have:=(bf (T:=GZ) (λk q=>((((),(),cs,(),(),(),(),(),(),(),(),(S.length:Int),(k:Int),()),x0,x1,x2,(),x4,x5,c6,x7,(y0,so,z,(),(),y5,y6,()),S,rho,xi,eL q.2.2,x13,q.1,q.2.1,()):gN))
  (axC (pS so) (hI xi) (hI c6) cs S)
  (λq=>(⟨(.exit 2,vL),(((),(),cs,(),(),(),(),(),(),()),x0,x1,x2,(),x4,x5,c6,x7,(y0,so,z,(),(),y5,y6,()),rho,xi,x13,q.1,q.2.1,())⟩:aZ)) S.length (a,[],⟨1,0,0,0⟩) (λk q=>q.1.length=S.length/\q.2.1.length=k) ⟨ha,rfl⟩ (λk q hk hq=>⟨?_,?_,?_⟩) (λq _=> ?_)).1
 ·obtain ⟨m,hm⟩:=this
  exact ⟨m,_,hm,rfl⟩
 ·obtain ⟨a,b,pw⟩:=q
  obtain ⟨hq,hb⟩:=hq
  dsimp only at hq hb
  have g1:∀ v:ab,inB (k:Int) (List.set a (Int.toNat k) v).length=true:=λv=>ba (by rw [cu];omega)
  have g2:∀ v:ab,decide (Int.toNat k<(List.set a (Int.toNat k) v).length)=true:=λv=>ag (by rw [cu,cD];omega)
  refine (OT.ak (ag (by dsimp only;omega))).trans ((ae ?_).trans ?_)
  ·simp only [aA,aI,aJ,aw]
   exact ⟨ag (by omega),ba (by omega),ag (by rw [cD];omega),hs,ba (by omega),ag (by rw [cD];omega)⟩
  by_cases hc:k<cs.length
  ·refine (OT.ak (ag (by dsimp only;omega))).trans ((ae ?_).trans ?_)
   ·simp only [aA,aI,aJ,aw]
    exact ⟨g1 _,g2 _,ba (by omega),hs,g1 _,g2 _,rfl,ag (by rw [hb];omega),rfl,ag (by omega),hs,rfl,aS (by omega)⟩
   ·simp only [cD,List.set_set,eZ,List.getElem?_set_self (show k<a.length by omega),Option.getD_some]
    unfold axC
    simp only [ag hc,aK,eZ]
    rfl
  ·refine (OT.au (bq (by dsimp only;omega))).trans ((ae ?_).trans ?_)
   ·simp only [aA,aI,aJ,aw]
    exact ⟨rfl,ag (by rw [hb];omega),rfl,ag (by omega),hs,rfl,aS (by omega)⟩
   ·unfold axC
    simp only [bq hc,aT,cD]
    rfl
 ·show (List.set _ _ _).length=_
  rw [cu]
  exact hq.1
 ·show (_++ [_]).length=_
  rw [bL,hq.2,List.length_singleton]
 ·exact OT.au (bq (by dsimp only;omega))
def aX (c s:Int):Nat->CH->Int×CH
 |0,q=>(0,q)
 |n+1,q=>cond (decide (1<q.1.2.2.2.1.length)) (cond ((bo c s q).1==0) (aX c s n (bo c s q).2) (bo c s q)) (0,q)
def fa (c s:Int):Nat->CH->Bool
 |0,q=> !decide (1<q.1.2.2.2.1.length)
 |n+1,q=>cond (decide (1<q.1.2.2.2.1.length)) (pI c s q&&cond ((bo c s q).1==0) (fa c s n (bo c s q).2) true) true
def JP:cF->Bool|(_,(c,_),(s,tp,_),(co,_),_,x4,x5,x6,x7,(o,_),out,_)=>fa c s o.1.2.1.toNat (o,tp,co,out)
def jr:cF->Int×CH|(_,(c,_),(s,tp,_),(co,_),_,x4,x5,x6,x7,(o,_),out,_)=>aX c s o.1.2.1.toNat (o,tp,co,out)
def JS (z:cF):zb:=(((),()),z.2.1,(z.2.2.1.1,(jr z).2.2.1,()),((jr z).2.2.2.1,()),(),z.2.2.2.2.2.1,z.2.2.2.2.2.2.1,z.2.2.2.2.2.2.2.1,z.2.2.2.2.2.2.2.2.1,(jr z).2.2.2.2,())
def Ro (z:cF):zc:=(((),(),(),()),z.2.1,(z.2.2.1.1,(jr z).2.2.1,()),((jr z).2.2.2.1,()),(),z.2.2.2.2.2.1,z.2.2.2.2.2.2.1,z.2.2.2.2.2.2.2.1,z.2.2.2.2.2.2.2.2.1,((jr z).2.1,()),(jr z).2.2.2.2,())
def Rr (z:cF):Bool:= !((jr z).1==0)
def Rn (c s:Int) (p:ml) (c5 c6:ap) (c7:Int) (r:Int×CH):aZ:=cond (r.1==0)
 ⟨(.exit 4,oE),(((),(),(),()),(c,(),(),()),(s,r.2.2.1,()),(r.2.2.2.1,()),(),(p,()),c5,c6,(c7,()),(r.2.1,()),r.2.2.2.2,())⟩
 ⟨(.pan (.iface 175 (.agg [.int r.1])),mf),(((),()),(c,(),(),()),(s,r.2.2.1,()),(r.2.2.2.1,()),(),(p,()),c5,c6,(c7,()),r.2.2.2.2,())⟩
theorem aya:bh BE JP (ag1 JS (λz=>(jr z).1) Rr Ro):=by
 rintro ⟨⟨⟨⟩,⟨⟩,⟨⟩,⟨⟩,⟨⟩⟩,⟨⟨c,⟨⟩,⟨⟩,⟨⟩⟩,⟨s,tp,⟨⟩⟩,⟨co,⟨⟩⟩,⟨⟩,⟨p,⟨⟩⟩,c5,c6,⟨c7,⟨⟩⟩,⟨o,⟨⟩⟩,out,⟨⟩⟩⟩ h
 have key:∀ (n:Nat) (q:CH),fa c s n q=true->
  ∃ m,cW BE m (((),(),(),(),()),(c,(),(),()),(s,q.2.1,()),(q.2.2.1,()),(),(p,()),c5,c6,(c7,()),(q.1,()),q.2.2.2,())=some (Rn c s p c5 c6 c7 (aX c s n q)):=by
  intro n
  induction n with
  |zero=>
   intro q h
   have h1:(!decide (1<q.1.2.2.2.1.length))=true:=h
   exact ⟨1,aV (OT.au (bq (by have:=of_decide_eq_false (Bool.not_eq_true' _▸h1);dsimp only;omega)))⟩
  |succ n ih=>
   intro q h
   unfold fa at h
   unfold aX
   by_cases h1:1<q.1.2.2.2.1.length
   ·simp only [ag h1,aK,aw] at h⊢
    have e1:(BE (((),(),(),(),()),(c,(),(),()),(s,q.2.1,()),(q.2.2.1,()),(),(p,()),c5,c6,(c7,()),(q.1,()),q.2.2.2,())).run=(OT.br ((bo c s q).1==0)
     (.ok (.inl (((),(),(),(),()),(c,(),(),()),(s,(bo c s q).2.2.1,()),((bo c s q).2.2.2.1,()),(),(p,()),c5,c6,(c7,()),((bo c s q).2.1,()),(bo c s q).2.2.2.2,())))
     (.ok (.inr ⟨(.pan (.iface 175 (.agg [.int (bo c s q).1])),mf),(((),()),(c,(),(),()),(s,(bo c s q).2.2.1,()),((bo c s q).2.2.2.1,()),(),(p,()),c5,c6,(c7,()),(bo c s q).2.2.2.2,())⟩)):OT (Sum cF aZ)).run:=by
     refine (OT.ak (ag (by dsimp only;omega))).trans ((ae ?_).trans rfl)
     simp only [aA,aI,aJ]
     exact h.1
    cases h2:(bo c s q).1==0
    ·rw [aT]
     refine ⟨1,aV (e1.trans ((OT.au h2).trans ?_))⟩
     unfold Rn
     rw [h2]
     rfl
    ·rw [h2,aK] at h
     rw [aK]
     obtain ⟨m,hm⟩:=ih _ h.2
     exact ⟨m+1,bN (e1.trans (OT.ak h2)) hm⟩
   ·simp only [bq h1,aT]
    exact ⟨1,aV (OT.au (bq (by dsimp only;omega)))⟩
 obtain ⟨m,hm⟩:=key _ (o,tp,co,out) h
 refine ⟨m,_,hm,?_⟩
 show (OT.br (!((aX c s o.1.2.1.toNat (o,tp,co,out)).1==0)) (.ok ⟨(.pan (.iface 175 (.agg [.int (aX c s o.1.2.1.toNat (o,tp,co,out)).1])),mf),(((),()),(c,(),(),()),(s,(aX c s o.1.2.1.toNat (o,tp,co,out)).2.2.1,()),((aX c s o.1.2.1.toNat (o,tp,co,out)).2.2.2.1,()),(),(p,()),c5,c6,(c7,()),(aX c s o.1.2.1.toNat (o,tp,co,out)).2.2.2.2,())⟩)
  (.ok ⟨(.exit 4,oE),(((),(),(),()),(c,(),(),()),(s,(aX c s o.1.2.1.toNat (o,tp,co,out)).2.2.1,()),((aX c s o.1.2.1.toNat (o,tp,co,out)).2.2.2.1,()),(),(p,()),c5,c6,(c7,()),((aX c s o.1.2.1.toNat (o,tp,co,out)).2.1,()),(aX c s o.1.2.1.toNat (o,tp,co,out)).2.2.2.2,())⟩):OT aZ).run=_
 generalize aX c s o.1.2.1.toNat (o,tp,co,out)=r
 unfold Rn
 cases h2:r.1==0<;>rfl
theorem pL {p:ml} {c:Int} (h:(gE p c==0)=true):cU p=0/\c=p.1/\ac p.1=true/\ac (ay p.1 1)=true/\1<=p.2.2.1.length/\p.2.2.1.length<=32/\0<=p.2.1/\p.2.1<=5/\p.2.2.1.length=2^p.2.1.toNat:=by
 unfold gE at h
 cases h1:cU p==0
 ·rw [h1] at h
  rw [aT] at h
  rw [h] at h1;cases h1
 ·rw [h1] at h
  cases h2:c==p.1
  ·rw [h2] at h;cases h
  ·have e:=eq_of_beq h1
   refine ⟨e,eq_of_beq h2,?_⟩
   unfold cU at e
   cases h3:ac p.1
   ·rw [h3] at e;cases e
   ·rw [h3,aK] at e
    refine ⟨rfl,by rcases cb h3 with h|h|h|h<;>rw [h]<;>rfl,?_⟩
    cases h4:decide (p.2.1<0)
    ·rw [h4,aT] at e
     cases h5:decide (5<p.2.1)
     ·rw [h5,aT] at e
      cases h6:(p.2.2.1.length:Int)==V0 1 p.2.1
      ·rw [h6] at e;cases e
      ·have h6:=eq_of_beq h6
       have h4:=of_decide_eq_false h4
       have h5:=of_decide_eq_false h5
       generalize p.2.1=k at*
       have:k=0\/k=1\/k=2\/k=3\/k=4\/k=5:=by omega
       rcases this with rfl|rfl|rfl|rfl|rfl|rfl
       ·have:(p.2.2.1.length:Int)=1:=h6;exact ⟨by omega,by omega,by omega,by omega,by show p.2.2.1.length=1;omega⟩
       ·have:(p.2.2.1.length:Int)=2:=h6;exact ⟨by omega,by omega,by omega,by omega,by show p.2.2.1.length=2;omega⟩
       ·have:(p.2.2.1.length:Int)=4:=h6;exact ⟨by omega,by omega,by omega,by omega,by show p.2.2.1.length=4;omega⟩
       ·have:(p.2.2.1.length:Int)=8:=h6;exact ⟨by omega,by omega,by omega,by omega,by show p.2.2.1.length=8;omega⟩
       ·have:(p.2.2.1.length:Int)=16:=h6;exact ⟨by omega,by omega,by omega,by omega,by show p.2.2.1.length=16;omega⟩
       ·have:(p.2.2.1.length:Int)=32:=h6;exact ⟨by omega,by omega,by omega,by omega,by show p.2.2.1.length=32;omega⟩
     ·rw [h5] at e;cases e
    ·rw [h4] at e;cases e
def opN (p:ml):Nat:=(List.replicate p.2.2.1.length (⟨0,0,0,0⟩:ab)).length
theorem NI (p:ml):opN p=p.2.2.1.length:=fM
def opS (p:ml) (x:ab) (co:aB):aB:=(co.take (opN p)).set 0 (iw (pS (ay p.1 1)) ((co.take (opN p)).getD 0 ⟨0,0,0,0⟩) (rP (pS (ay p.1 1)) x (co.take (opN p))))
def opR (p:ml) (co:aB):mZ:=ao (co.drop (opN p))
def Fs (p:ml) (x:ab) (co:aB):Pt:=Ez p (opS p x co) (opR p co).1
def opV (s:Int) (tp:aB):ab:=dv (pS s) (ao tp).1 ⟨0,0,0,0⟩
def opU (p:ml) (cs:aB) (x:ab) (s:Int) (tp co:aB):OpT:=Vw (pS (ay p.1 1)) (opV s tp) x cs (opS p x co) (List.replicate p.2.2.1.length ⟨0,0,0,0⟩)
def opO (p:ml) (cs:aB) (bl x:ab) (s:Int) (tp co:aB):wR:=
 (p,ay p.1 1,opV s (ao tp).2.2,(opU p cs x s tp co).1.set 0 (iw (pS (ay p.1 1)) ((opU p cs x s tp co).1.getD 0 ⟨0,0,0,0⟩) (rP (pS (ay p.1 1)) x cs)),(opU p cs x s tp co).2.1,p.2.2.1,dv (pS (ay p.1 1)) bl (aR (pS (ay p.1 1)) (opV s tp) (opR p co).1))
def opQ (p:ml) (cs:aB) (bl x:ab) (c s:Int) (tp co:aB) (out:aF):CH:=
 (opO p cs bl x s tp co,(ao (ao tp).2.2).2.2,(opR p co).2.2,out++jO c (Fs p x co))
abbrev au0:Type:=aB×aB×aF
def I0 (c:Int) (r:Int×CH):Int×au0:=cond (r.1==0) (0,r.2.2.1,r.2.2.2.1,r.2.2.2.2++lG c (r.2.1.2.2.2.1.getD 0 ⟨0,0,0,0⟩)++lG c r.2.1.2.2.2.2.2.2) (r.1,r.2.2)
def wP (p:ml) (cs:aB) (bl x:ab) (c s:Int) (tp co:aB) (out:aF):Int×au0:=
 cond (gE p c==0) (cond (decide (cs.length<=p.2.2.1.length)) (cond (decide (opN p<=co.length)) (cond ((opR p co).2.1==0)
  (cond ((ao tp).2.1==0) (cond ((ao (ao tp).2.2).2.1==0) (cond (bC (opV s (ao tp).2.2))
   (100,(opQ p cs bl x c s tp co out).2)
   (I0 c (aX c s p.2.1.toNat (opQ p cs bl x c s tp co out))))
   ((ao (ao tp).2.2).2.1,(opQ p cs bl x c s tp co out).2))
   ((ao tp).2.1,(ao tp).2.2,(opR p co).2.2,out++jO c (Fs p x co)))
   ((opR p co).2.1,tp,(opR p co).2.2,out))
   (81,tp,[],out)) (50,tp,co,out)) (gE p c,tp,co,out)
def agw (p:ml) (cs:aB) (c:Int) (co:aB):Bool:=gE p c==0&&(decide (cs.length<=p.2.2.1.length)&&(decide (opN p<=co.length)&&(opR p co).2.1==0))
def QN (s:Int) (tp:aB):Bool:=(ao tp).2.1==0&&((ao (ao tp).2.2).2.1==0&& !bC (opV s (ao tp).2.2))
def ni (r:Int×CH):Bool:= !(r.1==0)||decide (0<r.2.1.2.2.2.1.length/\r.2.2.2.2.length<=140737488340000)
def Vv (p:ml) (cs:aB) (bl x:ab) (c s:Int) (tp co:aB) (out:aF):Bool:=
 decide (p.2.2.1.length<=140737488355328/\tp.length<=140737488355328/\co.length<=140737488355328/\out.length<=140737488340000)&&(ac s&&(cond (agw p cs c co)
  (cy p.1 (SA p (opS p x co) (opR p co).1)&&(onB c (Fs p x co)&&cond (QN s tp) (fa c s p.2.1.toNat (opQ p cs bl x c s tp co out)&&ni (aX c s p.2.1.toNat (opQ p cs bl x c s tp co out))) true)) true))
def tg (x:JU):Bool:=Vv x.1.1 x.1.2.2.2.1 x.1.2.2.2.2.1 x.1.2.2.2.2.2.1 x.2.1.1 x.2.2.1.1 x.2.2.1.2.1 x.2.2.2.1.1 x.2.2.2.2.1
def arl (x:JU):Int×au0:=wP x.1.1 x.1.2.2.2.1 x.1.2.2.2.2.1 x.1.2.2.2.2.2.1 x.2.1.1 x.2.2.1.1 x.2.2.1.2.1 x.2.2.2.1.1 x.2.2.2.2.1
def opY (c s:Int) (r:Int×au0):tj.Y:=⟨js,((r.1,()),(c,(),(),()),(s,r.2.1,()),(r.2.2.1,()),r.2.2.2,())⟩
def arm (x:JU):OT tj.Y:=.ok (opY x.2.1.1 x.2.2.1.1 (arl x))
theorem eW (b:Bool) {P:Prop} (h0:b=false->P) (h1:b=true->P):P:=by
 cases b
 ·exact h0 rfl
 ·exact h1 rfl
set_option maxHeartbeats 4000000 in
theorem arj (p:ml) (cs:aB) (bl x:ab) (c s:Int) (tp co:aB) (out:aF) (hp':Vv p cs bl x c s tp co out=true):
 (Rt JR JT (λ_=>81) Rs Rq JQ Rp JP JS (λz=>(jr z).1) Rr Ro p cs bl x c s tp co out).run=some (opY c s (wP p cs bl x c s tp co out)):=by
 unfold Vv at hp'
 simp only [aw] at hp'
 obtain ⟨hL,hs,hN⟩:=hp'
 obtain ⟨l1,l2,l3,l4⟩:=bm hL
 have hF:∀ r,wP p cs bl x c s tp co out=r->some (opY c s (wP p cs bl x c s tp co out))=some (opY c s r):=λr h=>by rw [h]
 generalize some (opY c s (wP p cs bl x c s tp co out))=G at*
 unfold wP at hF
 unfold Rt
 refine (ae (by simp only [aA,aI,aJ];exact ag l1)).trans ?_
 refine eW (gE p c==0) (λe0=> ?_) (λe0=> ?_)
 ·rw [e0] at hF
  exact (OT.au e0).trans (hF _ rfl).symm
 have r:=pL e0
 have r5:=r.2.2.2.2.1
 have r6:=r.2.2.2.2.2.1
 rw [e0] at hF
 refine (OT.ak e0).trans ?_
 refine eW (decide (cs.length<=p.2.2.1.length)) (λe1=> ?_) (λe1=> ?_)
 ·rw [e1] at hF
  exact (OT.au (bq (by have:=of_decide_eq_false e1;omega))).trans (hF _ rfl).symm
 rw [e1] at hF
 refine (OT.ak (ag (by have:=bm e1;omega))).trans ((ae ?_).trans ?_)
 ·simp only [aA,aI,aJ,aw]
  refine ⟨⟨⟨⟨ag (by omega),ag (Int.le_refl _)⟩,ag (by omega)⟩,ag (by omega)⟩,ag ?_⟩
  simp only [fM,cD]
  exact ⟨trivial,trivial,by omega,l3⟩
 refine eW (decide (opN p<=co.length)) (λe2=> ?_) (λe2=> ?_)
 ·rw [e2] at hF
  exact (OT.ak (congrArg (!·) e2)).trans (hF _ rfl).symm
 rw [e2] at hF
 have n1:=NI p
 have n2:(co.take (opN p)).length=opN p:=by rw [bM];exact Nat.min_eq_left (bm e2)
 have n3:(co.drop (opN p)).length<=140737488355328:=by rw [ck];omega
 have n4:(opS p x co).length=opN p:=by unfold opS;rw [cu];exact n2
 refine (OT.au (congrArg (!·) e2)).trans ((ae ?_).trans ?_)
 ·simp only [aA,aI,aJ]
  exact ag n3
 refine eW ((opR p co).2.1==0) (λe3=> ?_) (λe3=> ?_)
 ·rw [e3] at hF
  exact (OT.au e3).trans (hF _ rfl).symm
 rw [e3] at hF
 have hN1:cy p.1 (SA p (opS p x co) (opR p co).1)=true/\onB c (Fs p x co)=true/\cond (QN s tp) (fa c s p.2.1.toNat (opQ p cs bl x c s tp co out)&&ni (aX c s p.2.1.toNat (opQ p cs bl x c s tp co out))) true=true:=by
  unfold agw at hN
  rw [e0,e1,e2,e3] at hN
  simpa only [aJ,aK,aw] using hN
 refine (OT.ak e3).trans ((ae ?_).trans ?_)
 ·simp only [aA,aI,aJ,aw]
  refine ⟨ba (show (0:Int)<=0/\(0:Int)<((co.take (opN p)).length:Int) by omega),ag (show 0<(co.take (opN p)).length by omega),rfl,r.2.2.2.1,r.2.2.2.1,ba (show (0:Int)<=0/\(0:Int)<((co.take (opN p)).length:Int) by omega),ag (show 0<(co.take (opN p)).length by omega),?_,?_,?_⟩
  ·exact be (by rw [show (p:ml)=p from rfl];exact beq_iff_eq.2 r.1) (be (ag (show (opS p x co).length<=p.2.2.1.length by omega)) hN1.1)
  ·exact be (ag (show out.length<=140737488350000 by omega)) hN1.2.1
  ·exact be hs (ag l2)
 have m0:=NI p
 refine eW ((ao tp).2.1==0) (λe4=> ?_) (λe4=> ?_)
 ·rw [e4] at hF
  exact (OT.au e4).trans (hF _ rfl).symm
 rw [e4] at hF
 refine (OT.ak e4).trans ((ae ?_).trans ?_)
 ·simp only [aA,aI,aJ]
  exact be hs (ag (cV (fS tp) l2))
 refine eW ((ao (ao tp).2.2).2.1==0) (λe5=> ?_) (λe5=> ?_)
 ·rw [e5] at hF
  exact (OT.au e5).trans (hF _ rfl).symm
 rw [e5] at hF
 refine (OT.ak e5).trans ?_
 refine eW (bC (opV s (ao tp).2.2)) (λe6=> ?_) (λe6=> ?_)
 rotate_left
 ·rw [e6] at hF
  exact (OT.ak e6).trans (hF _ rfl).symm
 rw [e6] at hF
 have hN2:fa c s p.2.1.toNat (opQ p cs bl x c s tp co out)=true/\ni (aX c s p.2.1.toNat (opQ p cs bl x c s tp co out))=true:=by
  have h:=hN1.2.2
  unfold QN at h
  rw [e4,e5,e6] at h
  simpa only [aJ,Bool.not_false,aK,aw] using h
 have u1:(opU p cs x s tp co).1.length=p.2.2.1.length:=(vq _ _ _ _ _ _ _).1.trans fM
 refine (OT.au e6).trans ((ae ?_).trans ?_)
 ·simp only [aA,aI,aJ,aw]
  have b1:inB 0 (opU p cs x s tp co).1.length=true:=ba (by omega)
  have b2:decide (0<(opU p cs x s tp co).1.length)=true:=ag (by omega)
  refine ⟨⟨⟨⟨ag (show (0:Int)<=(p.2.2.1.length:Int) by omega),ag (Int.le_refl _)⟩,ag (show (p.2.2.1.length:Int)*32<=140737488355328 by omega)⟩,ag (show (p.2.2.1.length:Int)<=140737488355328 by omega)⟩,be (ag ?_) r.2.2.2.1,b1,b2,rfl,r.2.2.2.1,r.2.2.2.1,b1,b2,rfl,rfl,rfl,r.2.2.2.1,r.2.2.2.1,hN2.1⟩
  refine ⟨?_,rfl,?_,?_,rfl,rfl,rfl,rfl⟩
  ·show ((List.replicate (Int.toNat (p.2.2.1.length:Int)) (⟨0,0,0,0⟩:ab)).length:Int)=((opS p x co).length:Int)
   rw [n4];rfl
  ·show (opS p x co).length<=1000
   omega
  ·show (List.replicate (Int.toNat (p.2.2.1.length:Int)) (⟨0,0,0,0⟩:ab)).length=(opS p x co).length
   rw [n4];rfl
 have hG:=hF _ rfl
 rw [aK,aK,aK,aK,aK,aK,aT] at hG
 have hE:∀ R:Int×CH,aX c s p.2.1.toNat (opQ p cs bl x c s tp co out)=R->G=some (opY c s (I0 c R)):=λR h=>by
  rw [<-h];exact hG
 refine eW ((aX c s p.2.1.toNat (opQ p cs bl x c s tp co out)).1==0) (λe7=> ?_) (λe7=> ?_)
 ·refine (OT.ak (congrArg (!·) e7)).trans ?_
  have e8:I0 c (aX c s p.2.1.toNat (opQ p cs bl x c s tp co out))=((aX c s p.2.1.toNat (opQ p cs bl x c s tp co out)).1,(aX c s p.2.1.toNat (opQ p cs bl x c s tp co out)).2.2):=by
   unfold I0
   rw [e7]
   rfl
  rw [hE _ rfl,e8]
  rfl
 have e8:I0 c (aX c s p.2.1.toNat (opQ p cs bl x c s tp co out))=(0,(aX c s p.2.1.toNat (opQ p cs bl x c s tp co out)).2.2.1,(aX c s p.2.1.toNat (opQ p cs bl x c s tp co out)).2.2.2.1,(aX c s p.2.1.toNat (opQ p cs bl x c s tp co out)).2.2.2.2++lG c ((aX c s p.2.1.toNat (opQ p cs bl x c s tp co out)).2.1.2.2.2.1.getD 0 ⟨0,0,0,0⟩)++lG c (aX c s p.2.1.toNat (opQ p cs bl x c s tp co out)).2.1.2.2.2.2.2.2):=by
  unfold I0
  rw [e7]
  rfl
 have hK:=hN2.2
 unfold ni at hK
 rw [e7,Bool.not_true,Bool.false_or] at hK
 have k1:=(bm hK).1
 have k2:=(bm hK).2
 have hc:ac (ay c 1)=true:=by rw [r.2.1];exact r.2.2.2.1
 have n5:(lG c ((aX c s p.2.1.toNat (opQ p cs bl x c s tp co out)).2.1.2.2.2.1.getD 0 ⟨0,0,0,0⟩)).length=32:=kf _
 refine (OT.au (congrArg (!·) e7)).trans ((ae ?_).trans ?_)
 ·simp only [aA,aI,aJ,aw]
  refine ⟨ba (show (0:Int)<=0/\(0:Int)<((aX c s p.2.1.toNat (opQ p cs bl x c s tp co out)).2.1.2.2.2.1.length:Int) by omega),?_,?_⟩
  ·exact be hc (ag (show (aX c s p.2.1.toNat (opQ p cs bl x c s tp co out)).2.2.2.2.length<=140737488350000 by omega))
  ·refine be hc (ag (show ((aX c s p.2.1.toNat (opQ p cs bl x c s tp co out)).2.2.2.2++lG c ((aX c s p.2.1.toNat (opQ p cs bl x c s tp co out)).2.1.2.2.2.1.getD 0 ⟨0,0,0,0⟩)).length<=140737488350000 from ?_))
   rw [bL,n5]
   omega
 ·rw [hE _ rfl,e8]
  rfl
theorem ax9:aa aj 35 (tj.az tg arm):=amc JR JT (λ_=>81) Rs Rq JQ Rp JP JS (λz=>(jr z).1) Rr Ro ayc ayb aya _ _ λx oy hp ho=>(arj _ _ _ _ _ _ _ _ _ hp).trans ho
def DX:bt:=(Ks 3 (Ku 0 2 (tj.az tg arm)))
theorem acm:aa aj 35 DX:=(Kr (Kt ax9))
theorem ack:ax DX:=(zu (zw av))
def avh:Env:=aq 35 DX Pj
theorem uM:bV aj te avh:=aU follows ld acm ack
end
end Go.Proofs.YthnnknnbfhkomaaGreat
