/- A symbolic machine for Go code over plain data, and functions of the program as it shows them. No statement is proved in this file. -/
import Derived.KernelRfl
import Derived.Test.YtohjofabochgfaaGreatXe
set_option linter.unusedSimpArgs false
set_option linter.unusedVariables false
set_option linter.unusedSectionVars false

namespace Go.Proofs.YtohjofabochgfaaGreat
open Sx Go
set_option maxRecDepth 100000
def eQ:aw:=⟨[.val true aHR,.val false (.list .elem),.val true .elem],[],true,0,false⟩
abbrev wy:Type:=(((Int×(Int×(List ((aa×(aa×Bool)))×((aa×(aa×Bool))×(aa×(aa×Bool)))))))×(List (aa))×(aa)×Unit)×(Unit)
def pa:Shape:=⟨54,[(3,.ptr 0 0 0),(6,.ptr 1 0 0),(9,.own 2),(30,.val false (.list .elem)),(31,.val false .int),(32,.val false .int)],[(0,.cells [.val false .int,.val false .int,.val false (.list (.prod .elem (.prod .elem .bool))),.val false .u64,.val false .u64,.val false .u64,.val false .u64,.val false .u64,.val false .u64,.val false .u64,.val false .u64,.val false .bool,.val false .u64,.val false .u64,.val false .u64,.val false .u64,.val false .u64,.val false .u64,.val false .u64,.val false .u64,.val false .bool]),(1,.cells [.val false .u64,.val false .u64,.val false .u64,.val false .u64,.val false .u64,.val false .u64,.val false .u64,.val false .u64,.val false .bool]),(2,.row (.prod .elem (.prod .elem (.prod .elem .bool))))],0,true⟩
abbrev cc:Type:=((Unit)×(Unit)×(Unit)×(List (aa))×(Int)×(Int)×Unit)×(((Int)×(Int)×(List ((aa×(aa×Bool))))×(UInt64)×(UInt64)×(UInt64)×(UInt64)×(UInt64)×(UInt64)×(UInt64)×(UInt64)×(Bool)×(UInt64)×(UInt64)×(UInt64)×(UInt64)×(UInt64)×(UInt64)×(UInt64)×(UInt64)×(Bool)×Unit)×((UInt64)×(UInt64)×(UInt64)×(UInt64)×(UInt64)×(UInt64)×(UInt64)×(UInt64)×(Bool)×Unit)×(List ((aa×(aa×(aa×Bool)))))×Unit)
def nz:Shape:=⟨54,[(3,.ptr 0 0 0),(6,.ptr 1 0 0),(9,.own 2)],[(0,.cells [.val false .int,.val false .int,.val false (.list (.prod .elem (.prod .elem .bool))),.val false .u64,.val false .u64,.val false .u64,.val false .u64,.val false .u64,.val false .u64,.val false .u64,.val false .u64,.val false .bool,.val false .u64,.val false .u64,.val false .u64,.val false .u64,.val false .u64,.val false .u64,.val false .u64,.val false .u64,.val false .bool]),(1,.cells [.val false .u64,.val false .u64,.val false .u64,.val false .u64,.val false .u64,.val false .u64,.val false .u64,.val false .u64,.val false .bool]),(2,.row (.prod .elem (.prod .elem (.prod .elem .bool))))],0,true⟩
abbrev iW:Type:=((Unit)×(Unit)×(Unit)×Unit)×(((Int)×(Int)×(List ((aa×(aa×Bool))))×(UInt64)×(UInt64)×(UInt64)×(UInt64)×(UInt64)×(UInt64)×(UInt64)×(UInt64)×(Bool)×(UInt64)×(UInt64)×(UInt64)×(UInt64)×(UInt64)×(UInt64)×(UInt64)×(UInt64)×(Bool)×Unit)×((UInt64)×(UInt64)×(UInt64)×(UInt64)×(UInt64)×(UInt64)×(UInt64)×(UInt64)×(Bool)×Unit)×(List ((aa×(aa×(aa×Bool)))))×Unit)
def Q0:SE->Option Shape:=fc [(0,nz)] none
def anw (a30:List (aa)) (a31:Int) (a32:Int) (c0_0:Int) (c0_1:Int) (c0_2:List ((aa×(aa×Bool)))) (c0_3:UInt64) (c0_4:UInt64) (c0_5:UInt64) (c0_6:UInt64) (c0_7:UInt64) (c0_8:UInt64) (c0_9:UInt64) (c0_10:UInt64) (c0_11:Bool) (c0_12:UInt64) (c0_13:UInt64) (c0_14:UInt64) (c0_15:UInt64) (c0_16:UInt64) (c0_17:UInt64) (c0_18:UInt64) (c0_19:UInt64) (c0_20:Bool) (c1_0:UInt64) (c1_1:UInt64) (c1_2:UInt64) (c1_3:UInt64) (c1_4:UInt64) (c1_5:UInt64) (c1_6:UInt64) (c1_7:UInt64) (c1_8:Bool) (c2:List ((aa×(aa×(aa×Bool))))):OT (Sum cc aE):=
 let z0:Nat:=Int.toNat a32
 let z1:aa:= {w0:=0,w1:=0,w2:=0,w3:=0}
 (.br (decide (a32<a31))
 (gd [inB a32 (List.length a30),inB a32 (List.length c0_2),decide ((List.length c2+1)*104<=140737488355328),inR (a32+(1:Int))] (.ok (.inl (((),((),((),(a30,(a31,(a32+(1:Int),())))))),((c0_0,(c0_1,(c0_2,(c0_3,(c0_4,(c0_5,(c0_6,(c0_7,(c0_8,(c0_9,(c0_10,(c0_11,(c0_12,(c0_13,(c0_14,(c0_15,(c0_16,(c0_17,(c0_18,(c0_19,(c0_20,()))))))))))))))))))))),((c1_0,(c1_1,(c1_2,(c1_3,(c1_4,(c1_5,(c1_6,(c1_7,(c1_8,()))))))))),(c2++ [(List.getD a30 z0 z1,List.getD c0_2 z0 (z1,z1,false))],())))))))
 (.ok (.inr ⟨(.exit 0,nz),(((),((),((),()))),((c0_0,(c0_1,(c0_2,(c0_3,(c0_4,(c0_5,(c0_6,(c0_7,(c0_8,(c0_9,(c0_10,(c0_11,(c0_12,(c0_13,(c0_14,(c0_15,(c0_16,(c0_17,(c0_18,(c0_19,(c0_20,()))))))))))))))))))))),((c1_0,(c1_1,(c1_2,(c1_3,(c1_4,(c1_5,(c1_6,(c1_7,(c1_8,()))))))))),(c2,()))))⟩)))
def pb (s:cc):OT (Sum cc aE):=anw (s.1.2.2.2.1) (s.1.2.2.2.2.1) (s.1.2.2.2.2.2.1) (s.2.1.1) (s.2.1.2.1) (s.2.1.2.2.1) (s.2.1.2.2.2.1) (s.2.1.2.2.2.2.1) (s.2.1.2.2.2.2.2.1) (s.2.1.2.2.2.2.2.2.1) (s.2.1.2.2.2.2.2.2.2.1) (s.2.1.2.2.2.2.2.2.2.2.1) (s.2.1.2.2.2.2.2.2.2.2.2.1) (s.2.1.2.2.2.2.2.2.2.2.2.2.1) (s.2.1.2.2.2.2.2.2.2.2.2.2.2.1) (s.2.1.2.2.2.2.2.2.2.2.2.2.2.2.1) (s.2.1.2.2.2.2.2.2.2.2.2.2.2.2.2.1) (s.2.1.2.2.2.2.2.2.2.2.2.2.2.2.2.2.1) (s.2.1.2.2.2.2.2.2.2.2.2.2.2.2.2.2.2.1) (s.2.1.2.2.2.2.2.2.2.2.2.2.2.2.2.2.2.2.1) (s.2.1.2.2.2.2.2.2.2.2.2.2.2.2.2.2.2.2.2.1) (s.2.1.2.2.2.2.2.2.2.2.2.2.2.2.2.2.2.2.2.2.1) (s.2.1.2.2.2.2.2.2.2.2.2.2.2.2.2.2.2.2.2.2.2.1) (s.2.1.2.2.2.2.2.2.2.2.2.2.2.2.2.2.2.2.2.2.2.2.1) (s.2.2.1.1) (s.2.2.1.2.1) (s.2.2.1.2.2.1) (s.2.2.1.2.2.2.1) (s.2.2.1.2.2.2.2.1) (s.2.2.1.2.2.2.2.2.1) (s.2.2.1.2.2.2.2.2.2.1) (s.2.2.1.2.2.2.2.2.2.2.1) (s.2.2.1.2.2.2.2.2.2.2.2.1) (s.2.2.2.1)
theorem ant (s:cc) (Q:Sum cc aE->Prop):wps te xO av 1000 (aU (aj Tryz.f39) 0) (pa.inj s) (bU pa Q0 (Q:Sum pa.T aE->Prop))=(pb s).wpR Q:=by kernel_rfl
def wx (g0_0:cc->iW) (s:cc):OT aE:=(.ok ⟨(.exit 0,nz),g0_0 s⟩)
def dD:az:=⟨[.val true (.prod .elem (.prod .elem .bool)),.val false .int],[],false⟩
def K8:SV->Option az:=λ_=>some dD
def BN (ok0:cc->Bool) (g0_0:cc->iW) (a0:(Int×(Int×(List ((aa×(aa×Bool)))×((aa×(aa×Bool))×(aa×(aa×Bool))))))) (a1:List (aa)) (a2:aa):OT eQ.Y:=
 let z0:Int:=uF a0
 let z1:aa:= {w0:=0,w1:=0,w2:=0,w3:=0}
 let z2:aa×aa×Bool:=(z1,z1,false)
 let z3:Int:=(↑(List.length a1):Int)
 let z4:(PUnit×PUnit×PUnit×List aa×Int×Int×PUnit)×(Int×Int×List (aa×aa×Bool)×UInt64×UInt64×UInt64×UInt64×UInt64×UInt64×UInt64×UInt64×Bool×UInt64×UInt64×UInt64×UInt64×UInt64×UInt64×UInt64×UInt64×Bool×PUnit)×(UInt64×UInt64×UInt64×UInt64×UInt64×UInt64×UInt64×UInt64×Bool×PUnit)×List (aa×aa×aa×Bool)×PUnit:=(((),(),(),a1,z3,(0:Int),()),(a0.fst,a0.snd.fst,a0.snd.snd.fst,a0.snd.snd.snd.fst.fst.w0,a0.snd.snd.snd.fst.fst.w1,a0.snd.snd.snd.fst.fst.w2,a0.snd.snd.snd.fst.fst.w3,a0.snd.snd.snd.fst.snd.fst.w0,a0.snd.snd.snd.fst.snd.fst.w1,a0.snd.snd.snd.fst.snd.fst.w2,a0.snd.snd.snd.fst.snd.fst.w3,a0.snd.snd.snd.fst.snd.snd,a0.snd.snd.snd.snd.fst.w0,a0.snd.snd.snd.snd.fst.w1,a0.snd.snd.snd.snd.fst.w2,a0.snd.snd.snd.snd.fst.w3,a0.snd.snd.snd.snd.snd.fst.w0,a0.snd.snd.snd.snd.snd.fst.w1,a0.snd.snd.snd.snd.snd.fst.w2,a0.snd.snd.snd.snd.snd.fst.w3,a0.snd.snd.snd.snd.snd.snd,()),((0:UInt64),(0:UInt64),(0:UInt64),(0:UInt64),(0:UInt64),(0:UInt64),(0:UInt64),(0:UInt64),false,()),[(a2,a0.snd.snd.snd.fst)],())
 let z5:=(g0_0 z4).snd
 let z6:=z5.fst.fst
 let z7:=z5.snd.snd.fst
 (gd [wz ((a0,()),())] (.br (!z0==(0:Int))
 (.ok ⟨dD,((z2,(z0,())),())⟩)
 (.br (decide ((↑(List.length a0.snd.snd.fst):Int)<z3))
  (.ok ⟨dD,((z2,((50:Int),())),())⟩)
  (gd [ok0 z4] (.br (ap z6)
   (.br (decide (List.length z7<=100000))
    (.br (su z6 z7)
     (.ok ⟨dD,((aiN z6 (ab7 z6 z7),((0:Int),())),())⟩)
     (.ok ⟨dD,((z2,((41:Int),())),())⟩))
    (.ok ⟨dD,((z2,((50:Int),())),())⟩))
   (.ok ⟨dD,((z2,((40:Int),())),())⟩))))))
theorem at3 (ok0:cc->Bool) (g0_0:cc->iW) (x:wy) (Q:eQ.Y->Prop):wpf te xO (aO 0 (cf pa 0 ok0 (wx g0_0)) av) 1000 Tryz.f39 (eQ.inp.inj x).tm (eQ.inp.inj x).hp (fnK eQ K8 Q) (λ_ _=>False)=(BN ok0 g0_0 (x.1.1) (x.1.2.1) (x.1.2.2.1)).wpR Q:=by kernel_rfl
theorem Y0 (ok0:cc->Bool) (g0_0:cc->iW) (h0:∀ s:cc,ok0 s=true->∃ m e,al (pb) m s=some e/\(wx g0_0 s).run=some e) (pre:wy->Bool) (F:wy->OT eQ.Y) (hF:∀ (x:wy) oy,pre x=true->(F x).run=some oy->(BN ok0 g0_0 (x.1.1) (x.1.2.1) (x.1.2.2.1)).run=some oy):ac Tryz.prog 39 (eQ.aI pre F):=
 aD ar rX HP (f:=39) (fn:=Tryz.f39) (c:=aj Tryz.f39) (by kernel_rfl) (by kernel_rfl) (by kernel_rfl) (S:=eQ) (k:=0) (by kernel_rfl) (λR hR=>(aA (c:=(aj Tryz.f39)) (by kernel_rfl) (id:=0) (by kernel_rfl) (aP ar rX HP (sh:=pa) hR (xs:=Q0) (aC (by kernel_rfl) (by kernel_rfl) hR) aM af (n:=1000) (T:=pb) (λs Q=>ant s Q) (ok:=ok0) (f:=wx g0_0) h0) af)) (n:=1000) (sel:=K8) (λv o h=>by cases h;rfl) (pre:=pre) (F:=F) (T:=λx=>BN ok0 g0_0 (x.1.1) (x.1.2.1) (x.1.2.2.1)) (λx Q=>at3 ok0 g0_0 x Q) hF
theorem awn {p:axx} (h:(uF p==0)=true):p.2.2.1.length<=32:=by
 unfold uF at h
 cases h1:ap p.1
 ·rw [h1] at h;cases h
 ·rw [h1] at h
  by_cases h2:p.2.1<0
  ·rw [decide_eq_true h2] at h;cases h
  ·rw [decide_eq_false h2] at h
   by_cases h3:5<p.2.1
   ·rw [decide_eq_true h3] at h;cases h
   ·rw [decide_eq_false h3] at h
    cases h4:(p.2.2.1.length:Int)==Rr 1 p.2.1
    ·rw [h4] at h;cases h
    ·rw [beq_iff_eq] at h4
     have h6:Rr 1 p.2.1<=32:=by
      have:p.2.1=0\/p.2.1=1\/p.2.1=2\/p.2.1=3\/p.2.1=4\/p.2.1=5:=by omega
      rcases this with e|e|e|e|e|e<;>rw [e]<;>decide
     omega
def aHm (G:List Pt) (l:List aa) (k:Nat) (o:List Tm):List Tm:=o++ [(l.getD k ⟨0,0,0,0⟩,G.getD k Pj)]
def aHl (p:axx) (l:List aa) (b:aa):List Tm:=upto (aHm p.2.2.1 l) [(b,p.2.2.2.1)] l.length
def zl (s:cc):Bool:=decide (s.1.2.2.2.2.1=(s.1.2.2.2.1.length:Int)/\s.1.2.2.2.2.2.1=0/\s.1.2.2.2.1.length<=s.2.1.2.2.1.length/\s.2.1.2.2.1.length<=32/\s.2.2.2.1.length=1)
def Fh (s:cc):iW:=(((),(),(),()),(s.2.1,s.2.2.1,upto (aHm s.2.1.2.2.1 s.1.2.2.2.1) s.2.2.2.1 s.1.2.2.2.1.length,()))
theorem anv:∀ s:cc,zl s=true->∃ m e,al pb m s=some e/\(wx Fh s).run=some e:=by
 rintro ⟨⟨⟨⟩,⟨⟩,⟨⟩,l,n,i,⟨⟩⟩,⟨q,t,o,⟨⟩⟩⟩ h
 have h':=of_decide_eq_true h
 dsimp only at h'
 obtain ⟨rfl,rfl,hl,hG,ho⟩:=h'
 obtain ⟨u,rfl⟩:∃ u,o= [u]:=by
  match o,ho with
  | [u],_=>exact ⟨u,rfl⟩
 have:=(aR (T:=pb) (λk o=>((((),(),(),l,(l.length:Int),(k:Int),()),(q,t,o,())):cc)) (aHm q.2.2.1 l)
  (λo=>(⟨(.exit 0,nz),(((),(),(),()),(q,t,o,()))⟩:aE)) l.length [u] (λk o=>o.length=k+1) rfl (λk o hk hq=>⟨?_,?_⟩) (λo _=> ?_)).1
 ·obtain ⟨m,hm⟩:=this
  exact ⟨m,_,hm,rfl⟩
 ·have hq:o.length=k+1:=hq
  refine (OT.ao (decide_eq_true (by dsimp only;omega))).trans ((ah ?_).trans rfl)
  simp only [List.all_cons,List.all_nil,Bool.and_true,Bool.and_eq_true]
  exact ⟨aN (by omega),aN (by omega),decide_eq_true (by omega),aH (by omega)⟩
 ·show (o++ [_]).length=_
  rw [List.length_append,show o.length=k+1 from hq]
  rfl
 ·exact OT.aq (decide_eq_false (by dsimp only;omega))
def aJz (p:axx) (l:List aa) (b:aa):Pt×Int:=cond (!(uF p==0)) (Pj,uF p) (cond (decide ((p.2.2.1.length:Int)<(l.length:Int))) (Pj,50)
 (cond (ap p.1) (cond (decide ((aHl p l b).length<=100000)) (cond (su p.1 (aHl p l b)) (aiN p.1 (ab7 p.1 (aHl p l b)),0) (Pj,41)) (Pj,50)) (Pj,40)))
def K9 (x:wy):Bool:=decide (x.1.1.2.2.1.length<=140737488355328)
def Y1 (x:wy):OT eQ.Y:=.ok ⟨dD,(((aJz x.1.1 x.1.2.1 x.1.2.2.1).1,((aJz x.1.1 x.1.2.1 x.1.2.2.1).2,())),())⟩
theorem anu:ac Tryz.prog 39 (eQ.aI K9 Y1):=Y0 zl Fh anv _ _ λx oy hp ho=>by
 rw [<-ho]
 clear ho
 obtain ⟨⟨p,l,b,⟨⟩⟩,⟨⟩⟩:=x
 show (BN zl Fh p l b).run=some (⟨dD,(((aJz p l b).1,((aJz p l b).2,())),())⟩:eQ.Y)
 have hp:wz ((p,()),())=true:=hp
 unfold aJz
 refine (ah (by rw [hp];rfl)).trans ?_
 rcases (Bool.eq_false_or_eq_true (!(uF p==0))).symm with h1|h1
 ·rw [h1]
  refine (OT.aq rfl).trans ?_
  by_cases h2:(p.2.2.1.length:Int)<(l.length:Int)
  ·rw [decide_eq_true h2]
   exact (OT.ao rfl).trans rfl
  ·rw [decide_eq_false h2]
   have h0:(uF p==0)=true:=by
    cases hq:uF p==0
    ·rw [hq] at h1;cases h1
    ·rfl
   have hG:=awn h0
   refine (OT.aq rfl).trans ((ah ?_).trans ?_)
   ·simp only [List.all_cons,List.all_nil,Bool.and_true]
    exact decide_eq_true ⟨rfl,rfl,by show l.length<=p.2.2.1.length;omega,hG,rfl⟩
   ·show (OT.br (ap p.1) (.br (decide ((aHl p l b).length<=100000)) (.br (su p.1 (aHl p l b)) (.ok ⟨dD,((aiN p.1 (ab7 p.1 (aHl p l b)),((0:Int),())),())⟩) (.ok ⟨dD,((Pj,((41:Int),())),())⟩)) (.ok ⟨dD,((Pj,((50:Int),())),())⟩)) (.ok ⟨dD,((Pj,((40:Int),())),())⟩):OT eQ.Y).run=_
    generalize aHl p l b=t
    cases ap p.1<;>cases decide (t.length<=100000)<;>cases su p.1 t<;>rfl
 ·rw [h1]
  exact (OT.ao rfl).trans rfl
def tD:cj:=(eQ.aI K9 Y1)
theorem Uu:ac Tryz.prog 39 tD:=anu
theorem Ut:aG tD:=aB
def vg:Env:=ay 39 tD xO
theorem vf:aQ Tryz.prog vg:=ag Uu rX
theorem yF:ax vg:=ae Ut Dw
theorem Wx:aW Tryz.prog te vg:=aL follows ar vf yF
def iQ:aw:=⟨[.val false .int,.val false .int,.val false (.list .u8)],[],false,0,false⟩
abbrev E5:Type:=((Int)×(Int)×(List (UInt8))×Unit)×(Unit)
def tw:az:=⟨[.val true (.prod .int (.prod .int (.prod (.list (.prod .elem (.prod .elem .bool))) (.prod (.prod .elem (.prod .elem .bool)) (.prod .elem (.prod .elem .bool)))))),.val false .int],[],false⟩
def QO:SV->Option az:=λ_=>some tw
def Ui (a0:Int) (a1:Int) (a2:List (UInt8)):OT iQ.Y:=
 let z0:aa:= {w0:=0,w1:=0,w2:=0,w3:=0}
 let z1:aa×aa×Bool:=(z0,z0,false)
 let z2:Int×Int×List (aa×aa×Bool)×(aa×aa×Bool)×aa×aa×Bool:=((0:Int),(0:Int),[],z1,z1)
 (.br (ap a0)
 (.br (decide (a1<(0:Int)))
  (.ok ⟨tw,((z2,((60:Int),())),())⟩)
  (.br (decide ((5:Int)<a1))
   (.ok ⟨tw,((z2,((60:Int),())),())⟩)
   (gd [decide ((0:Int)<=a1),inR (Rr (1:Int) a1+(2:Int))] .fail)))
 (.ok ⟨tw,((z2,((40:Int),())),())⟩))
theorem aAu (x:E5) (Q:iQ.Y->Prop):wpf te vg (aO 0 (λ_ _=>False) av) 1000 Tryz.f31 (iQ.inp.inj x).tm (iQ.inp.inj x).hp (fnK iQ QO Q) (λ_ _=>False)=(Ui (x.1.1) (x.1.2.1) (x.1.2.2.1)).wpR Q:=by kernel_rfl
theorem adW (pre:E5->Bool) (F:E5->OT iQ.Y) (hF:∀ (x:E5) oy,pre x=true->(F x).run=some oy->(Ui (x.1.1) (x.1.2.1) (x.1.2.2.1)).run=some oy):ac Tryz.prog 31 (iQ.aI pre F):=
 aD ar vf Wx (f:=31) (fn:=Tryz.f31) (c:=aj Tryz.f31) (by kernel_rfl) (by kernel_rfl) (by kernel_rfl) (S:=iQ) (k:=0) (by kernel_rfl) (λR hR=>(aA (c:=(aj Tryz.f31)) (by kernel_rfl) (id:=0) (by kernel_rfl) (λ_ _ _ _ _ _ _ _ h _=>h.elim) af)) (n:=1000) (sel:=QO) (λv o h=>by cases h;rfl) (pre:=pre) (F:=F) (T:=λx=>Ui (x.1.1) (x.1.2.1) (x.1.2.2.1)) (λx Q=>aAu x Q) hF
def tH:axx:=(0,0,[],Pj,Pj)
def QP (x:E5):Bool:=ap x.1.1&&decide (5<x.1.2.1)
def ajA (_:E5):OT iQ.Y:=.ok ⟨tw,((tH,((60:Int),())),())⟩
theorem atR:ac Tryz.prog 31 (iQ.aI QP ajA):=adW _ _ λx oy hp ho=>by
 rw [<-ho]
 clear ho
 obtain ⟨⟨c,k,b,⟨⟩⟩,⟨⟩⟩:=x
 obtain ⟨hs,hk⟩:=(Bool.and_eq_true _ _).mp hp
 have hk:5<k:=of_decide_eq_true hk
 exact (OT.ao hs).trans ((OT.aq (decide_eq_false (show ¬k<0 by omega))).trans ((OT.ao (decide_eq_true hk)).trans rfl))
def zh:cj:=(iQ.aI QP ajA)
theorem YG:ac Tryz.prog 31 zh:=atR
theorem YF:aG zh:=aB
def Du:Env:=ay 31 zh vg
theorem Ai:aQ Tryz.prog Du:=ag YG vf
theorem Dt:ax Du:=ae YF yF
theorem abD:aW Tryz.prog te Du:=aL follows ar Ai Dt
def iX:aw:=⟨[],[],true,0,false⟩
abbrev Fm:Type:=(Unit)×(Unit)
def BP:az:=⟨[.val false .bool],[],false⟩
def Q2:SV->Option az:=λ_=>some BP
def IP:OT iX.Y:=
 (.ok ⟨BP,((true,()),())⟩)
theorem aAL (x:Fm) (Q:iX.Y->Prop):wpf te Du av 1000 Tryz.f28 (iX.inp.inj x).tm (iX.inp.inj x).hp (fnK iX Q2 Q) (λ_ _=>False)=(IP).wpR Q:=by kernel_rfl
theorem ad8 (pre:Fm->Bool) (F:Fm->OT iX.Y) (hF:∀ (x:Fm) oy,pre x=true->(F x).run=some oy->(IP).run=some oy):ac Tryz.prog 28 (iX.aI pre F):=
 aD ar Ai abD (f:=28) (fn:=Tryz.f28) (c:=aj Tryz.f28) (by kernel_rfl) (by kernel_rfl) (by kernel_rfl) (S:=iX) (k:=0) (by kernel_rfl) (λR hR=>af) (n:=1000) (sel:=Q2) (λv o h=>by cases h;rfl) (pre:=pre) (F:=F) (T:=λx=>IP) (λx Q=>aAL x Q) hF
def Q3 (_:Fm):Bool:=true
def ajI (_:Fm):OT iX.Y:=.ok ⟨BP,((true,()),())⟩
theorem at9:ac Tryz.prog 28 (iX.aI Q3 ajI):=ad8 _ _ λx oy hp ho=>by
 rw [<-ho]
 clear ho
 show IP.run=some ⟨BP,((true,()),())⟩
 kernel_rfl
def zo:cj:=(iX.aI Q3 ajI)
theorem Y8:ac Tryz.prog 28 zo:=at9
theorem Y7:aG zo:=aB
def DC:Env:=ay 28 zo Du
theorem Am:aQ Tryz.prog DC:=ag Y8 Ai
theorem DB:ax DC:=ae Y7 Dt
theorem abF:aW Tryz.prog te DC:=aL follows ar Am DB
def JP:aw:=⟨[],[],true,0,false⟩
abbrev aHP:Type:=(Unit)×(Unit)
def asv:az:=⟨[.val true (.arr 8 .u64)],[],false⟩
def ast:SV->Option az:=λ_=>some asv
def aFx:OT JP.Y:=
 (.ok ⟨asv,(([(7640891576956012808:UInt64),(13503953896175478587:UInt64),(4354685564936845355:UInt64),(11912009170470909681:UInt64),(5840696475078001361:UInt64),(11170449401992604703:UInt64),(2270897969802886507:UInt64),(6620516959819538809:UInt64)],()),())⟩)
theorem aKe (x:aHP) (Q:JP.Y->Prop):wpf te DC av 1000 Tryz.f104 (JP.inp.inj x).tm (JP.inp.inj x).hp (fnK JP ast Q) (λ_ _=>False)=(aFx).wpR Q:=by kernel_rfl
theorem azU (pre:aHP->Bool) (F:aHP->OT JP.Y) (hF:∀ (x:aHP) oy,pre x=true->(F x).run=some oy->(aFx).run=some oy):ac Tryz.prog 104 (JP.aI pre F):=
 aD ar Am abF (f:=104) (fn:=Tryz.f104) (c:=aj Tryz.f104) (by kernel_rfl) (by kernel_rfl) (by kernel_rfl) (S:=JP) (k:=0) (by kernel_rfl) (λR hR=>af) (n:=1000) (sel:=ast) (λv o h=>by cases h;rfl) (pre:=pre) (F:=F) (T:=λx=>aFx) (λx Q=>aKe x Q) hF
def asu (_:aHP):Bool:=true
def aIE (_:aHP):OT JP.Y:=.ok ⟨asv,((bIV,()),())⟩
theorem aID:ac Tryz.prog 104 (JP.aI asu aIE):=azU _ _ λx oy _ ho=>ho
def Tl:cj:=(JP.aI asu aIE)
theorem asw:ac Tryz.prog 104 Tl:=aID
theorem ass:aG Tl:=aB
def apP:Env:=ay 104 Tl DC
theorem Jm:aQ Tryz.prog apP:=ag asw Am
theorem SB:ax apP:=ae ass DB
theorem abx:aW Tryz.prog te apP:=aL follows ar Jm SB
def lK:aw:=⟨[.val false (.list .u8),.val false .int],[],true,0,false⟩
abbrev PX:Type:=((List (UInt8))×(Int)×Unit)×(Unit)
def AY:Shape:=⟨29,[(0,.val false (.list .u8)),(1,.val false .int),(5,.val false .u64),(6,.val false .int)],[],0,true⟩
abbrev cY:Type:=((List (UInt8))×(Int)×(UInt64)×(Int)×Unit)×(Unit)
def vA:Shape:=⟨29,[(5,.val false .u64)],[],0,true⟩
abbrev lJ:Type:=((UInt64)×Unit)×(Unit)
def aiU:SE->Option Shape:=fc [(0,vA)] none
def azN (a0:List (UInt8)) (a1:Int) (a5:UInt64) (a6:Int):OT (Sum cY aE):=
 let z0:Bool:=inR (a1+a6)
 let z1:Nat:=List.length a0
 let z2:Bool:=inR (a6-(1:Int))
 (.br (decide ((0:Int)<=a6))
 (gd [z0] (.br (decide (a1+a6<(↑z1:Int)))
  (gd [z0,inB (a1+a6) z1,z2] (.ok (.inl ((a0,(a1,(a5*(256:UInt64)+UInt8.toUInt64 (List.getD a0 (Int.toNat (a1+a6)) (0:UInt8)),(a6-(1:Int),())))),()))))
  (gd [z2] (.ok (.inl ((a0,(a1,(a5*(256:UInt64),(a6-(1:Int),())))),()))))))
 (.ok (.inr ⟨(.exit 0,vA),((a5,()),())⟩)))
def AZ (s:cY):OT (Sum cY aE):=azN (s.1.1) (s.1.2.1) (s.1.2.2.1) (s.1.2.2.2.1)
theorem azK (s:cY) (Q:Sum cY aE->Prop):wps te apP av 1000 (aU (aj Tryz.f105) 0) (AY.inj s) (bU AY aiU (Q:Sum AY.T aE->Prop))=(AZ s).wpR Q:=by kernel_rfl
def IB (g0_0:cY->lJ) (s:cY):OT aE:=(.ok ⟨(.exit 0,vA),g0_0 s⟩)
def Ta:az:=⟨[.val false .u64],[],false⟩
def Xj:SV->Option az:=λ_=>some Ta
def acF (ok0:cY->Bool) (g0_0:cY->lJ) (a0:List (UInt8)) (a1:Int):OT lK.Y:=
 let z0:(List UInt8×Int×UInt64×Int×PUnit)×PUnit:=((a0,a1,(0:UInt64),(7:Int),()),())
 (gd [ok0 z0] (.ok ⟨Ta,(((g0_0 z0).fst.fst,()),())⟩))
theorem aFj (ok0:cY->Bool) (g0_0:cY->lJ) (x:PX) (Q:lK.Y->Prop):wpf te apP (aO 0 (cf AY 0 ok0 (IB g0_0)) av) 1000 Tryz.f105 (lK.inp.inj x).tm (lK.inp.inj x).hp (fnK lK Xj Q) (λ_ _=>False)=(acF ok0 g0_0 (x.1.1) (x.1.2.1)).wpR Q:=by kernel_rfl
theorem al7 (ok0:cY->Bool) (g0_0:cY->lJ) (h0:∀ s:cY,ok0 s=true->∃ m e,al (AZ) m s=some e/\(IB g0_0 s).run=some e) (pre:PX->Bool) (F:PX->OT lK.Y) (hF:∀ (x:PX) oy,pre x=true->(F x).run=some oy->(acF ok0 g0_0 (x.1.1) (x.1.2.1)).run=some oy):ac Tryz.prog 105 (lK.aI pre F):=
 aD ar Jm abx (f:=105) (fn:=Tryz.f105) (c:=aj Tryz.f105) (by kernel_rfl) (by kernel_rfl) (by kernel_rfl) (S:=lK) (k:=0) (by kernel_rfl) (λR hR=>(aA (c:=(aj Tryz.f105)) (by kernel_rfl) (id:=0) (by kernel_rfl) (aP ar Jm abx (sh:=AY) hR (xs:=aiU) (aC (by kernel_rfl) (by kernel_rfl) hR) aM af (n:=1000) (T:=AZ) (λs Q=>azK s Q) (ok:=ok0) (f:=IB g0_0) h0) af)) (n:=1000) (sel:=Xj) (λv o h=>by cases h;rfl) (pre:=pre) (F:=F) (T:=λx=>acF ok0 g0_0 (x.1.1) (x.1.2.1)) (λx Q=>aFj ok0 g0_0 x Q) hF
def iy (b:List UInt8) (p:Nat):UInt64:=upto (λk v=>v*256+UInt8.toUInt64 (b.getD (p+(7-k)) 0)) 0 8
def Xk (s:cY):Bool:=decide (s.1.2.2.1=0/\s.1.2.2.2.1=7/\0<=s.1.2.1/\s.1.2.1<=1000000000000)
def aiV (s:cY):lJ:=((iy s.1.1 s.1.2.1.toNat,()),())
theorem azM:∀ s:cY,Xk s=true->∃ m e,al AZ m s=some e/\(IB aiV s).run=some e:=by
 rintro ⟨⟨b,p,v,i,⟨⟩⟩,⟨⟩⟩ h
 have h':=of_decide_eq_true h
 dsimp only at h'
 obtain ⟨rfl,rfl,hp0,hp⟩:=h'
 obtain ⟨p,rfl⟩:∃ q:Nat,p=(q:Int):=⟨p.toNat,by omega⟩
 have:=(aR (T:=AZ) (λk v=>(((b,(p:Int),v,7-(k:Int),()),()):cY)) (λk v=>v*256+UInt8.toUInt64 (b.getD (p+(7-k)) 0))
  (λv=>(⟨(.exit 0,vA),((v,()),())⟩:aE)) 8 0 (λ_ _=>True) trivial (λk v hk _=>⟨?_,trivial⟩) (λv _=> ?_)).1
 ·obtain ⟨m,hm⟩:=this
  exact ⟨m,_,hm,rfl⟩
 ·have e1:((p:Int)+(7-(k:Int))).toNat=p+(7-k):=by omega
  have e2:(7:Int)-((k:Int))-1=7-((k+1:Nat):Int):=by omega
  refine (OT.ao (decide_eq_true (by dsimp only;omega))).trans ((ah ?_).trans ?_)
  ·simp only [List.all_cons,List.all_nil,Bool.and_true]
   exact aH (by omega)
  ·by_cases hx:(p:Int)+(7-(k:Int))<(b.length:Int)
   ·refine (OT.ao (decide_eq_true hx)).trans ((ah ?_).trans ?_)
    ·simp only [List.all_cons,List.all_nil,Bool.and_true,Bool.and_eq_true]
     exact ⟨aH (by omega),aN (by omega),aH (by omega)⟩
    ·simp only [OT.cT,e1,e2]
   ·refine (OT.aq (decide_eq_false hx)).trans ((ah ?_).trans ?_)
    ·simp only [List.all_cons,List.all_nil,Bool.and_true]
     exact aH (by omega)
    ·have e3:b.getD (p+(7-k)) 0=0:=by
      rw [List.getD_eq_getElem?_getD,List.getElem?_eq_none (by omega)];rfl
     have e4:v*256+UInt8.toUInt64 0=v*256:=by
      show v*256+0=v*256
      rw [UInt64.add_zero]
     simp only [OT.cT,e2,e3,e4]
 ·exact OT.aq (decide_eq_false (by dsimp only;omega))
def JE (x:PX):Bool:=decide (0<=x.1.2.1/\x.1.2.1<=1000000000000)
def ar8 (x:PX):OT lK.Y:=.ok ⟨Ta,((iy x.1.1 x.1.2.1.toNat,()),())⟩
theorem azL:ac Tryz.prog 105 (lK.aI JE ar8):=al7 Xk aiV azM _ _ λx oy hp ho=>by
 rw [<-ho]
 have hp':=of_decide_eq_true hp
 refine (ah ?_).trans rfl
 simp only [List.all_cons,List.all_nil,Bool.and_true]
 exact decide_eq_true ⟨rfl,rfl,hp'.1,hp'.2⟩
def Ek:cj:=(lK.aI JE ar8)
theorem acE:ac Tryz.prog 105 Ek:=azL
theorem acD:aG Ek:=aB
def ND:Env:=ay 105 Ek apP
theorem Gk:aQ Tryz.prog ND:=ag acE Jm
theorem Hx:ax ND:=ae acD SB
theorem agc:aW Tryz.prog te ND:=aL follows ar Gk Hx
def lO:aw:=⟨[],[],true,0,false⟩
abbrev P2:Type:=(Unit)×(Unit)
def Th:az:=⟨[.val true (.arr 10 (.arr 16 .int))],[],false⟩
def Xr:SV->Option az:=λ_=>some Th
def acQ:OT lO.Y:=
 (.ok ⟨Th,(([[(0:Int),(1:Int),(2:Int),(3:Int),(4:Int),(5:Int),(6:Int),(7:Int),(8:Int),(9:Int),(10:Int),(11:Int),(12:Int),(13:Int),(14:Int),(15:Int)],[(14:Int),(10:Int),(4:Int),(8:Int),(9:Int),(15:Int),(13:Int),(6:Int),(1:Int),(12:Int),(0:Int),(2:Int),(11:Int),(7:Int),(5:Int),(3:Int)],[(11:Int),(8:Int),(12:Int),(0:Int),(5:Int),(2:Int),(15:Int),(13:Int),(10:Int),(14:Int),(3:Int),(6:Int),(7:Int),(1:Int),(9:Int),(4:Int)],[(7:Int),(9:Int),(3:Int),(1:Int),(13:Int),(12:Int),(11:Int),(14:Int),(2:Int),(6:Int),(5:Int),(10:Int),(4:Int),(0:Int),(15:Int),(8:Int)],[(9:Int),(0:Int),(5:Int),(7:Int),(2:Int),(4:Int),(10:Int),(15:Int),(14:Int),(1:Int),(11:Int),(12:Int),(6:Int),(8:Int),(3:Int),(13:Int)],[(2:Int),(12:Int),(6:Int),(10:Int),(0:Int),(11:Int),(8:Int),(3:Int),(4:Int),(13:Int),(7:Int),(5:Int),(15:Int),(14:Int),(1:Int),(9:Int)],[(12:Int),(5:Int),(1:Int),(15:Int),(14:Int),(13:Int),(4:Int),(10:Int),(0:Int),(7:Int),(6:Int),(3:Int),(9:Int),(2:Int),(8:Int),(11:Int)],[(13:Int),(11:Int),(7:Int),(14:Int),(12:Int),(1:Int),(3:Int),(9:Int),(5:Int),(0:Int),(15:Int),(4:Int),(8:Int),(6:Int),(2:Int),(10:Int)],[(6:Int),(15:Int),(14:Int),(9:Int),(11:Int),(3:Int),(0:Int),(8:Int),(12:Int),(2:Int),(13:Int),(7:Int),(1:Int),(4:Int),(10:Int),(5:Int)],[(10:Int),(2:Int),(8:Int),(4:Int),(7:Int),(6:Int),(1:Int),(5:Int),(15:Int),(11:Int),(9:Int),(14:Int),(3:Int),(12:Int),(13:Int),(0:Int)]],()),())⟩)
theorem aFt (x:P2) (Q:lO.Y->Prop):wpf te ND av 1000 Tryz.f140 (lO.inp.inj x).tm (lO.inp.inj x).hp (fnK lO Xr Q) (λ_ _=>False)=(acQ).wpR Q:=by kernel_rfl
theorem amd (pre:P2->Bool) (F:P2->OT lO.Y) (hF:∀ (x:P2) oy,pre x=true->(F x).run=some oy->(acQ).run=some oy):ac Tryz.prog 140 (lO.aI pre F):=
 aD ar Gk agc (f:=140) (fn:=Tryz.f140) (c:=aj Tryz.f140) (by kernel_rfl) (by kernel_rfl) (by kernel_rfl) (S:=lO) (k:=0) (by kernel_rfl) (λR hR=>af) (n:=1000) (sel:=Xr) (λv o h=>by cases h;rfl) (pre:=pre) (F:=F) (T:=λx=>acQ) (λx Q=>aFt x Q) hF
def Pw:List (List Int):= [[0,1,2,3,4,5,6,7,8,9,10,11,12,13,14,15],
 [14,10,4,8,9,15,13,6,1,12,0,2,11,7,5,3],
 [11,8,12,0,5,2,15,13,10,14,3,6,7,1,9,4],
 [7,9,3,1,13,12,11,14,2,6,5,10,4,0,15,8],
 [9,0,5,7,2,4,10,15,14,1,11,12,6,8,3,13],
 [2,12,6,10,0,11,8,3,4,13,7,5,15,14,1,9],
 [12,5,1,15,14,13,4,10,0,7,6,3,9,2,8,11],
 [13,11,7,14,12,1,3,9,5,0,15,4,8,6,2,10],
 [6,15,14,9,11,3,0,8,12,2,13,7,1,4,10,5],
 [10,2,8,4,7,6,1,5,15,11,9,14,3,12,13,0]]
def Xs (_:P2):Bool:=true
def asi (_:P2):OT lO.Y:=.ok ⟨Th,((Pw,()),())⟩
theorem azR:ac Tryz.prog 140 (lO.aI Xs asi):=amd _ _ λx oy _ ho=>ho
def Eo:cj:=(lO.aI Xs asi)
theorem acP:ac Tryz.prog 140 Eo:=azR
theorem acO:aG Eo:=aB
def NG:Env:=ay 140 Eo ND
theorem Gm:aQ Tryz.prog NG:=ag acP Gk
theorem HA:ax NG:=ae acO Hx
theorem age:aW Tryz.prog te NG:=aL follows ar Gm HA
def lM:aw:=⟨[.val false .u64,.val false .u64],[],true,0,false⟩
abbrev PY:Type:=((UInt64)×(UInt64)×Unit)×(Unit)
def Tb:az:=⟨[.val false .u64],[],false⟩
def Xm:SV->Option az:=λ_=>some Tb
def acJ (a0:UInt64) (a1:UInt64):OT lM.Y:=
 (.ok ⟨Tb,((bm a0 (↑(UInt64.toNat a1):Int)|||bR a0 (↑(UInt64.toNat ((64:UInt64)-a1)):Int),()),())⟩)
theorem aFk (x:PY) (Q:lM.Y->Prop):wpf te NG av 1000 Tryz.f155 (lM.inp.inj x).tm (lM.inp.inj x).hp (fnK lM Xm Q) (λ_ _=>False)=(acJ (x.1.1) (x.1.2.1)).wpR Q:=by kernel_rfl
theorem al9 (pre:PY->Bool) (F:PY->OT lM.Y) (hF:∀ (x:PY) oy,pre x=true->(F x).run=some oy->(acJ (x.1.1) (x.1.2.1)).run=some oy):ac Tryz.prog 155 (lM.aI pre F):=
 aD ar Gm age (f:=155) (fn:=Tryz.f155) (c:=aj Tryz.f155) (by kernel_rfl) (by kernel_rfl) (by kernel_rfl) (S:=lM) (k:=0) (by kernel_rfl) (λR hR=>af) (n:=1000) (sel:=Xm) (λv o h=>by cases h;rfl) (pre:=pre) (F:=F) (T:=λx=>acJ (x.1.1) (x.1.2.1)) (λx Q=>aFk x Q) hF
def Ei (a n:UInt64):UInt64:=bm a (UInt64.toNat n:Int)|||bR a (UInt64.toNat (64-n):Int)
def Xn (_:PY):Bool:=true
def ar9 (x:PY):OT lM.Y:=.ok ⟨Tb,((Ei x.1.1 x.1.2.1,()),())⟩
theorem azP:ac Tryz.prog 155 (lM.aI Xn ar9):=al9 _ _ λx oy _ ho=>ho
def Em:cj:=(lM.aI Xn ar9)
theorem acI:ac Tryz.prog 155 Em:=azP
theorem acH:aG Em:=aB
def NE:Env:=ay 155 Em NG
theorem Gl:aQ Tryz.prog NE:=ag acI Gm
theorem Hy:ax NE:=ae acH HA
theorem agd:aW Tryz.prog te NE:=aL follows ar Gl Hy
def sb:aw:=⟨[.val true (.arr 16 .u64),.val false .int,.val false .int,.val false .int,.val false .int,.val false .u64,.val false .u64],[],true,0,false⟩
abbrev amk:Type:=((List (UInt64))×(Int)×(Int)×(Int)×(Int)×(UInt64)×(UInt64)×Unit)×(Unit)
def Tk:az:=⟨[.val true (.arr 16 .u64)],[],false⟩
def ai1:SV->Option az:=λ_=>some Tk
def asr (a0:List (UInt64)) (a1:Int) (a2:Int) (a3:Int) (a4:Int) (a5:UInt64) (a6:UInt64):OT sb.Y:=
 let z0:Bool:=inB a1 16
 let z1:List UInt64:=tab a0 16 (0:UInt64)
 let z2:Nat:=List.length z1
 let z3:Bool:=decide (Int.toNat a1+0<z2)
 let z4:Bool:=inB a2 16
 let z5:Bool:=inB a4 16
 let z6:List UInt64:=List.set z1 (Int.toNat a1+0) (List.getD z1 (Int.toNat a1+0) (0:UInt64)+List.getD z1 (Int.toNat a2+0) (0:UInt64)+a5)
 let z7:Nat:=List.length z6
 let z8:Bool:=decide (Int.toNat a4+0<z7)
 let z9:Bool:=inB a3 16
 let z10:List UInt64:=List.set z6 (Int.toNat a4+0) (Ei (List.getD z6 (Int.toNat a4+0) (0:UInt64)^^^List.getD z6 (Int.toNat a1+0) (0:UInt64)) (32:UInt64))
 let z11:Nat:=List.length z10
 let z12:Bool:=decide (Int.toNat a3+0<z11)
 let z13:List UInt64:=List.set z10 (Int.toNat a3+0) (List.getD z10 (Int.toNat a3+0) (0:UInt64)+List.getD z10 (Int.toNat a4+0) (0:UInt64))
 let z14:Nat:=List.length z13
 let z15:Bool:=decide (Int.toNat a2+0<z14)
 let z16:List UInt64:=List.set z13 (Int.toNat a2+0) (Ei (List.getD z13 (Int.toNat a2+0) (0:UInt64)^^^List.getD z13 (Int.toNat a3+0) (0:UInt64)) (24:UInt64))
 let z17:Nat:=List.length z16
 let z18:Bool:=decide (Int.toNat a1+0<z17)
 let z19:List UInt64:=List.set z16 (Int.toNat a1+0) (List.getD z16 (Int.toNat a1+0) (0:UInt64)+List.getD z16 (Int.toNat a2+0) (0:UInt64)+a6)
 let z20:Nat:=List.length z19
 let z21:Bool:=decide (Int.toNat a4+0<z20)
 let z22:List UInt64:=List.set z19 (Int.toNat a4+0) (Ei (List.getD z19 (Int.toNat a4+0) (0:UInt64)^^^List.getD z19 (Int.toNat a1+0) (0:UInt64)) (16:UInt64))
 let z23:Nat:=List.length z22
 let z24:Bool:=decide (Int.toNat a3+0<z23)
 let z25:List UInt64:=List.set z22 (Int.toNat a3+0) (List.getD z22 (Int.toNat a3+0) (0:UInt64)+List.getD z22 (Int.toNat a4+0) (0:UInt64))
 let z26:Nat:=List.length z25
 let z27:Bool:=decide (Int.toNat a2+0<z26)
 let z28:List UInt64:=List.set z25 (Int.toNat a2+0) (Ei (List.getD z25 (Int.toNat a2+0) (0:UInt64)^^^List.getD z25 (Int.toNat a3+0) (0:UInt64)) (63:UInt64))
 (gd [z0,z3,z4,decide (Int.toNat a2+0<z2),z0,z3,z5,z8,z0,decide (Int.toNat a1+0<z7),z5,z8,z9,z12,z5,decide (Int.toNat a4+0<z11),z9,z12,z4,z15,z9,decide (Int.toNat a3+0<z14),z4,z15,z0,z18,z4,decide (Int.toNat a2+0<z17),z0,z18,z5,z21,z0,decide (Int.toNat a1+0<z20),z5,z21,z9,z24,z5,decide (Int.toNat a4+0<z23),z9,z24,z4,z27,z9,decide (Int.toNat a3+0<z26),z4,z27,decide (16<=List.length z28)] (.ok ⟨Tk,((tab z28 16 (0:UInt64),()),())⟩))
theorem aIC (x:amk) (Q:sb.Y->Prop):wpf te NE av 1000 Tryz.f141 (sb.inp.inj x).tm (sb.inp.inj x).hp (fnK sb ai1 Q) (λ_ _=>False)=(asr (x.1.1) (x.1.2.1) (x.1.2.2.1) (x.1.2.2.2.1) (x.1.2.2.2.2.1) (x.1.2.2.2.2.2.1) (x.1.2.2.2.2.2.2.1)).wpR Q:=by kernel_rfl
theorem asq (pre:amk->Bool) (F:amk->OT sb.Y) (hF:∀ (x:amk) oy,pre x=true->(F x).run=some oy->(asr (x.1.1) (x.1.2.1) (x.1.2.2.1) (x.1.2.2.2.1) (x.1.2.2.2.2.1) (x.1.2.2.2.2.2.1) (x.1.2.2.2.2.2.2.1)).run=some oy):ac Tryz.prog 141 (sb.aI pre F):=
 aD ar Gl agd (f:=141) (fn:=Tryz.f141) (c:=aj Tryz.f141) (by kernel_rfl) (by kernel_rfl) (by kernel_rfl) (S:=sb) (k:=0) (by kernel_rfl) (λR hR=>af) (n:=1000) (sel:=ai1) (λv o h=>by cases h;rfl) (pre:=pre) (F:=F) (T:=λx=>asr (x.1.1) (x.1.2.1) (x.1.2.2.1) (x.1.2.2.2.1) (x.1.2.2.2.2.1) (x.1.2.2.2.2.2.1) (x.1.2.2.2.2.2.2.1)) (λx Q=>aIC x Q) hF
theorem aIg (a:UInt64):Ei a 32=rotl a (-32):=by
 unfold Ei rotl
 rw [show (UInt64.toNat (i2u (-32)&&&63):Int)=32 from by decide,show (UInt64.toNat (64-(i2u (-32)&&&63)):Int)=32 from by decide,show (UInt64.toNat 32:Int)=32 from by decide,show (UInt64.toNat (64-32):Int)=32 from by decide,UInt64.or_comm]
theorem aIh (a:UInt64):Ei a 24=rotl a (-24):=by
 unfold Ei rotl
 rw [show (UInt64.toNat (i2u (-24)&&&63):Int)=40 from by decide,show (UInt64.toNat (64-(i2u (-24)&&&63)):Int)=24 from by decide,show (UInt64.toNat 24:Int)=24 from by decide,show (UInt64.toNat (64-24):Int)=40 from by decide,UInt64.or_comm]
theorem aIi (a:UInt64):Ei a 16=rotl a (-16):=by
 unfold Ei rotl
 rw [show (UInt64.toNat (i2u (-16)&&&63):Int)=48 from by decide,show (UInt64.toNat (64-(i2u (-16)&&&63)):Int)=16 from by decide,show (UInt64.toNat 16:Int)=16 from by decide,show (UInt64.toNat (64-16):Int)=48 from by decide,UInt64.or_comm]
theorem aIf (a:UInt64):Ei a 63=rotl a (-63):=by
 unfold Ei rotl
 rw [show (UInt64.toNat (i2u (-63)&&&63):Int)=1 from by decide,show (UInt64.toNat (64-(i2u (-63)&&&63)):Int)=63 from by decide,show (UInt64.toNat 63:Int)=63 from by decide,show (UInt64.toNat (64-63):Int)=1 from by decide,UInt64.or_comm]
def Tj (x:amk):Bool:=inB x.1.2.1 16&&inB x.1.2.2.1 16&&inB x.1.2.2.2.1 16&&inB x.1.2.2.2.2.1 16&&decide (x.1.1.length=16)
def aCP (x:amk):OT sb.Y:=.ok ⟨Tk,((Ce x.1.1 x.1.2.1.toNat x.1.2.2.1.toNat x.1.2.2.2.1.toNat x.1.2.2.2.2.1.toNat x.1.2.2.2.2.2.1 x.1.2.2.2.2.2.2.1,()),())⟩
theorem aFv:ac Tryz.prog 141 (sb.aI Tj aCP):=asq _ _ λx oy hp ho=>by
 rw [<-ho]
 clear ho
 obtain ⟨⟨v,a,b,c,d,x,y,⟨⟩⟩,⟨⟩⟩:=x
 simp only [Tj,Bool.and_eq_true,decide_eq_true_eq] at hp
 obtain ⟨⟨⟨⟨ha,hb⟩,hc⟩,hd⟩,hv⟩:=hp
 have na:=ym ha
 have nb:=ym hb
 have nc:=ym hc
 have nd:=ym hd
 have t1:tab v 16 0=v:=jx hv
 refine (ah ?_).trans ?_
 ·simp only [t1,List.length_set,hv,ha,hb,hc,hd,Nat.add_zero,na,nb,nc,nd,Nat.le_refl,decide_true,List.all_cons,List.all_nil,Bool.and_self]
 ·have hl:(Ce v a.toNat b.toNat c.toNat d.toNat x y).length=16:=by rw [gg];exact hv
  simp only [t1,aIg,aIh,aIi,aIf,UInt64.add_assoc,Nat.add_zero]
  exact congrArg (λl=>some (⟨Tk,((l,()),())⟩:sb.Y)) (jx hl)
def JO:cj:=(sb.aI Tj aCP)
theorem amj:ac Tryz.prog 141 JO:=aFv
theorem ami:aG JO:=aB
def C7:Env:=ay 141 JO NE
theorem mS:aQ Tryz.prog C7:=ag amj Gl
theorem NJ:ax C7:=ae ami Hy
theorem pY:aW Tryz.prog te C7:=aL follows ar mS NJ
def iz:aw:=⟨[.val true (.arr 8 .u64),.val false (.list .u8),.val false .u64,.val false .bool],[],true,0,false⟩
abbrev Ew:Type:=((List (UInt64))×(List (UInt8))×(UInt64)×(Bool)×Unit)×(Unit)
def sV:Shape:=⟨163,[(1,.val false (.list .u8)),(2,.val false .u64),(3,.val false .bool),(4,.ptr 0 0 0),(8,.ptr 1 0 0),(9,.ptr 2 0 0),(10,.ptr 3 0 0),(11,.val false .int)],[(0,.row .u64),(1,.row .u64),(2,.row .u64),(3,.row .u64)],0,true⟩
abbrev cD:Type:=((List (UInt8))×(UInt64)×(Bool)×(Unit)×(Unit)×(Unit)×(Unit)×(Int)×Unit)×((List (UInt64))×(List (UInt64))×(List (UInt64))×(List (UInt64))×Unit)
def qG:Shape:=⟨163,[(1,.val false (.list .u8)),(2,.val false .u64),(3,.val false .bool),(4,.ptr 0 0 0),(8,.ptr 1 0 0),(10,.ptr 2 0 0)],[(0,.row .u64),(1,.row .u64),(2,.row .u64)],0,true⟩
abbrev j6:Type:=((List (UInt8))×(UInt64)×(Bool)×(Unit)×(Unit)×(Unit)×Unit)×((List (UInt64))×(List (UInt64))×(List (UInt64))×Unit)
def XB:SE->Option Shape:=fc [(0,qG)] none
def asV (a1:List (UInt8)) (a2:UInt64) (a3:Bool) (a11:Int) (c0:List (UInt64)) (c1:List (UInt64)) (c2:List (UInt64)) (c3:List (UInt64)):OT (Sum cD aE):=
 let z0:Bool:=inB a11 8
 let z1:List UInt64:=List.set c3 (Int.toNat a11+0) (List.getD c0 (Int.toNat a11+0) (0:UInt64))
 (.br (decide (a11<(8:Int)))
 (gd [z0,decide (Int.toNat a11+0<List.length c0),inB a11 16,decide (Int.toNat a11+0<List.length c3),inR (a11+(8:Int)),z0,decide (Int.toNat a11+0<List.length c2),inB (a11+(8:Int)) 16,decide (Int.toNat (a11+(8:Int))+0<List.length z1),inR (a11+(1:Int))] (.ok (.inl ((a1,(a2,(a3,((),((),((),((),(a11+(1:Int),())))))))),(c0,(c1,(c2,(List.set z1 (Int.toNat (a11+(8:Int))+0) (List.getD c2 (Int.toNat a11+0) (0:UInt64)),()))))))))
 (.ok (.inr ⟨(.exit 0,qG),((a1,(a2,(a3,((),((),((),())))))),(c0,(c1,(c3,()))))⟩)))
def sZ (s:cD):OT (Sum cD aE):=asV (s.1.1) (s.1.2.1) (s.1.2.2.1) (s.1.2.2.2.2.2.2.2.1) (s.2.1) (s.2.2.1) (s.2.2.2.1) (s.2.2.2.2.1)
theorem asM (s:cD) (Q:Sum cD aE->Prop):wps te C7 av 1000 (aU (aj Tryz.f106) 0) (sV.inj s) (bU sV XB (Q:Sum sV.T aE->Prop))=(sZ s).wpR Q:=by kernel_rfl
def Bk (g0_0:cD->j6) (s:cD):OT aE:=(.ok ⟨(.exit 0,qG),g0_0 s⟩)
def sU:Shape:=⟨163,[(1,.val false (.list .u8)),(4,.ptr 0 0 0),(8,.ptr 1 0 0),(10,.ptr 2 0 0),(12,.ptr 3 0 0),(13,.val false .int)],[(0,.row .u64),(1,.row .u64),(2,.row .u64),(3,.row .u64)],0,true⟩
abbrev cC:Type:=((List (UInt8))×(Unit)×(Unit)×(Unit)×(Unit)×(Int)×Unit)×((List (UInt64))×(List (UInt64))×(List (UInt64))×(List (UInt64))×Unit)
def qF:Shape:=⟨163,[(4,.ptr 0 0 0),(8,.ptr 1 0 0),(10,.ptr 2 0 0),(12,.ptr 3 0 0)],[(0,.row .u64),(1,.row .u64),(2,.row .u64),(3,.row .u64)],0,true⟩
abbrev j5:Type:=((Unit)×(Unit)×(Unit)×(Unit)×Unit)×((List (UInt64))×(List (UInt64))×(List (UInt64))×(List (UInt64))×Unit)
def XA:SE->Option Shape:=fc [(2,qF)] none
def asU (a1:List (UInt8)) (a13:Int) (c0:List (UInt64)) (c1:List (UInt64)) (c2:List (UInt64)) (c3:List (UInt64)):OT (Sum cC aE):=
 (.br (decide (a13<(16:Int)))
 (gd [inR ((8:Int)*a13),JE ((a1,(8:Int)*a13,()),()),inB a13 16,decide (Int.toNat a13+0<List.length c3),inR (a13+(1:Int))] (.ok (.inl ((a1,((),((),((),((),(a13+(1:Int),())))))),(c0,(c1,(c2,(List.set c3 (Int.toNat a13+0) (iy a1 (Int.toNat ((8:Int)*a13))),()))))))))
 (.ok (.inr ⟨(.exit 2,qF),(((),((),((),((),())))),(c0,(c1,(c2,(c3,())))))⟩)))
def sY (s:cC):OT (Sum cC aE):=asU (s.1.1) (s.1.2.2.2.2.2.1) (s.2.1) (s.2.2.1) (s.2.2.2.1) (s.2.2.2.2.1)
theorem asL (s:cC) (Q:Sum cC aE->Prop):wps te C7 av 1000 (aU (aj Tryz.f106) 2) (sU.inj s) (bU sU XA (Q:Sum sU.T aE->Prop))=(sY s).wpR Q:=by kernel_rfl
def Bj (g2_2:cC->j5) (s:cC):OT aE:=(.ok ⟨(.exit 2,qF),g2_2 s⟩)
def sT:Shape:=⟨163,[(4,.ptr 0 0 0),(8,.ptr 1 0 0),(10,.ptr 2 0 0),(12,.ptr 3 0 0),(14,.ptr 4 0 0),(15,.val false .int)],[(0,.row .u64),(1,.row .u64),(2,.row .u64),(3,.row .u64),(4,.row (.arr 16 .int))],0,true⟩
abbrev cB:Type:=((Unit)×(Unit)×(Unit)×(Unit)×(Unit)×(Int)×Unit)×((List (UInt64))×(List (UInt64))×(List (UInt64))×(List (UInt64))×(List (List (Int)))×Unit)
def qE:Shape:=⟨163,[(4,.ptr 0 0 0),(8,.ptr 1 0 0),(10,.ptr 2 0 0)],[(0,.row .u64),(1,.row .u64),(2,.row .u64)],0,true⟩
abbrev j4:Type:=((Unit)×(Unit)×(Unit)×Unit)×((List (UInt64))×(List (UInt64))×(List (UInt64))×Unit)
def Xz:SE->Option Shape:=fc [(4,qE)] none
def asT (a15:Int) (c0:List (UInt64)) (c1:List (UInt64)) (c2:List (UInt64)) (c3:List (UInt64)) (c4:List (List (Int))):OT (Sum cB aE):=
 let z0:Int:=Int.tmod a15 (10:Int)
 let z1:Nat:=List.length c2
 let z2:List Int:=List.getD c4 (Int.toNat z0+0) [(0:Int),(0:Int),(0:Int),(0:Int),(0:Int),(0:Int),(0:Int),(0:Int),(0:Int),(0:Int),(0:Int),(0:Int),(0:Int),(0:Int),(0:Int),(0:Int)]
 let z3:Int:=List.getD z2 0 (0:Int)
 let z4:Nat:=List.length c3
 let z5:Int:=List.getD z2 1 (0:Int)
 let z6:Nat:=Int.toNat (0:Int)
 let z7:Nat:=Int.toNat (4:Int)
 let z8:Nat:=Int.toNat (8:Int)
 let z9:Nat:=Int.toNat (12:Int)
 let z10:List UInt64:=lay c2 (Ce (tab c2 16 (0:UInt64)) z6 z7 z8 z9 (List.getD c3 (Int.toNat z3+0) (0:UInt64)) (List.getD c3 (Int.toNat z5+0) (0:UInt64))) 16 (0:UInt64)
 let z11:Nat:=List.length z10
 let z12:Int:=List.getD z2 2 (0:Int)
 let z13:Int:=List.getD z2 3 (0:Int)
 let z14:Nat:=Int.toNat (1:Int)
 let z15:Nat:=Int.toNat (5:Int)
 let z16:Nat:=Int.toNat (9:Int)
 let z17:Nat:=Int.toNat (13:Int)
 let z18:List UInt64:=lay z10 (Ce (tab z10 16 (0:UInt64)) z14 z15 z16 z17 (List.getD c3 (Int.toNat z12+0) (0:UInt64)) (List.getD c3 (Int.toNat z13+0) (0:UInt64))) 16 (0:UInt64)
 let z19:Nat:=List.length z18
 let z20:Int:=List.getD z2 4 (0:Int)
 let z21:Int:=List.getD z2 5 (0:Int)
 let z22:Nat:=Int.toNat (2:Int)
 let z23:Nat:=Int.toNat (6:Int)
 let z24:Nat:=Int.toNat (10:Int)
 let z25:Nat:=Int.toNat (14:Int)
 let z26:List UInt64:=lay z18 (Ce (tab z18 16 (0:UInt64)) z22 z23 z24 z25 (List.getD c3 (Int.toNat z20+0) (0:UInt64)) (List.getD c3 (Int.toNat z21+0) (0:UInt64))) 16 (0:UInt64)
 let z27:Nat:=List.length z26
 let z28:Int:=List.getD z2 6 (0:Int)
 let z29:Int:=List.getD z2 7 (0:Int)
 let z30:Nat:=Int.toNat (3:Int)
 let z31:Nat:=Int.toNat (7:Int)
 let z32:Nat:=Int.toNat (11:Int)
 let z33:Nat:=Int.toNat (15:Int)
 let z34:List UInt64:=lay z26 (Ce (tab z26 16 (0:UInt64)) z30 z31 z32 z33 (List.getD c3 (Int.toNat z28+0) (0:UInt64)) (List.getD c3 (Int.toNat z29+0) (0:UInt64))) 16 (0:UInt64)
 let z35:Nat:=List.length z34
 let z36:Int:=List.getD z2 8 (0:Int)
 let z37:Int:=List.getD z2 9 (0:Int)
 let z38:List UInt64:=lay z34 (Ce (tab z34 16 (0:UInt64)) z6 z15 z24 z33 (List.getD c3 (Int.toNat z36+0) (0:UInt64)) (List.getD c3 (Int.toNat z37+0) (0:UInt64))) 16 (0:UInt64)
 let z39:Nat:=List.length z38
 let z40:Int:=List.getD z2 10 (0:Int)
 let z41:Int:=List.getD z2 11 (0:Int)
 let z42:List UInt64:=lay z38 (Ce (tab z38 16 (0:UInt64)) z14 z23 z32 z9 (List.getD c3 (Int.toNat z40+0) (0:UInt64)) (List.getD c3 (Int.toNat z41+0) (0:UInt64))) 16 (0:UInt64)
 let z43:Nat:=List.length z42
 let z44:Int:=List.getD z2 12 (0:Int)
 let z45:Int:=List.getD z2 13 (0:Int)
 let z46:List UInt64:=lay z42 (Ce (tab z42 16 (0:UInt64)) z22 z31 z8 z17 (List.getD c3 (Int.toNat z44+0) (0:UInt64)) (List.getD c3 (Int.toNat z45+0) (0:UInt64))) 16 (0:UInt64)
 let z47:Nat:=List.length z46
 let z48:Int:=List.getD z2 14 (0:Int)
 let z49:Int:=List.getD z2 15 (0:Int)
 (.br (decide (a15<(12:Int)))
 (gd [inB z0 10,decide (Int.toNat z0+0<List.length c4),decide (16<=z1),inB z3 16,decide (Int.toNat z3+0<z4),inB z5 16,decide (Int.toNat z5+0<z4),decide ((16/1:Nat)+0<=z1),decide (16<=z11),inB z12 16,decide (Int.toNat z12+0<z4),inB z13 16,decide (Int.toNat z13+0<z4),decide ((16/1:Nat)+0<=z11),decide (16<=z19),inB z20 16,decide (Int.toNat z20+0<z4),inB z21 16,decide (Int.toNat z21+0<z4),decide ((16/1:Nat)+0<=z19),decide (16<=z27),inB z28 16,decide (Int.toNat z28+0<z4),inB z29 16,decide (Int.toNat z29+0<z4),decide ((16/1:Nat)+0<=z27),decide (16<=z35),inB z36 16,decide (Int.toNat z36+0<z4),inB z37 16,decide (Int.toNat z37+0<z4),decide ((16/1:Nat)+0<=z35),decide (16<=z39),inB z40 16,decide (Int.toNat z40+0<z4),inB z41 16,decide (Int.toNat z41+0<z4),decide ((16/1:Nat)+0<=z39),decide (16<=z43),inB z44 16,decide (Int.toNat z44+0<z4),inB z45 16,decide (Int.toNat z45+0<z4),decide ((16/1:Nat)+0<=z43),decide (16<=z47),inB z48 16,decide (Int.toNat z48+0<z4),inB z49 16,decide (Int.toNat z49+0<z4),decide ((16/1:Nat)+0<=z47),inR (a15+(1:Int))] (.ok (.inl (((),((),((),((),((),(a15+(1:Int),())))))),(c0,(c1,(lay z46 (Ce (tab z46 16 (0:UInt64)) z30 z7 z16 z25 (List.getD c3 (Int.toNat z48+0) (0:UInt64)) (List.getD c3 (Int.toNat z49+0) (0:UInt64))) 16 (0:UInt64),(c3,(c4,())))))))))
 (.ok (.inr ⟨(.exit 4,qE),(((),((),((),()))),(c0,(c1,(c2,()))))⟩)))
def sX (s:cB):OT (Sum cB aE):=asT (s.1.2.2.2.2.2.1) (s.2.1) (s.2.2.1) (s.2.2.2.1) (s.2.2.2.2.1) (s.2.2.2.2.2.1)
theorem asK (s:cB) (Q:Sum cB aE->Prop):wps te C7 av 1000 (aU (aj Tryz.f106) 4) (sT.inj s) (bU sT Xz (Q:Sum sT.T aE->Prop))=(sX s).wpR Q:=by kernel_rfl
def Bi (g4_4:cB->j4) (s:cB):OT aE:=(.ok ⟨(.exit 4,qE),g4_4 s⟩)
def sS:Shape:=⟨163,[(4,.ptr 0 0 0),(8,.ptr 1 0 0),(10,.ptr 2 0 0),(17,.val false .int)],[(0,.row .u64),(1,.row .u64),(2,.row .u64)],0,true⟩
abbrev cA:Type:=((Unit)×(Unit)×(Unit)×(Int)×Unit)×((List (UInt64))×(List (UInt64))×(List (UInt64))×Unit)
def qD:Shape:=⟨163,[(4,.ptr 0 0 0),(8,.ptr 1 0 0)],[(0,.row .u64),(1,.row .u64)],0,true⟩
abbrev j3:Type:=((Unit)×(Unit)×Unit)×((List (UInt64))×(List (UInt64))×Unit)
def Xy:SE->Option Shape:=fc [(6,qD)] none
def asS (a17:Int) (c0:List (UInt64)) (c1:List (UInt64)) (c2:List (UInt64)):OT (Sum cA aE):=
 let z0:Bool:=inB a17 8
 let z1:Bool:=decide (Int.toNat a17+0<List.length c0)
 let z2:Nat:=List.length c2
 (.br (decide (a17<(8:Int)))
 (gd [z0,z1,inB a17 16,decide (Int.toNat a17+0<z2),inR (a17+(8:Int)),inB (a17+(8:Int)) 16,decide (Int.toNat (a17+(8:Int))+0<z2),z0,z1,inR (a17+(1:Int))] (.ok (.inl (((),((),((),(a17+(1:Int),())))),(List.set c0 (Int.toNat a17+0) (List.getD c0 (Int.toNat a17+0) (0:UInt64)^^^(List.getD c2 (Int.toNat a17+0) (0:UInt64)^^^List.getD c2 (Int.toNat (a17+(8:Int))+0) (0:UInt64))),(c1,(c2,())))))))
 (.ok (.inr ⟨(.exit 6,qD),(((),((),())),(c0,(c1,())))⟩)))
def sW (s:cA):OT (Sum cA aE):=asS (s.1.2.2.2.1) (s.2.1) (s.2.2.1) (s.2.2.2.1)
theorem asJ (s:cA) (Q:Sum cA aE->Prop):wps te C7 av 1000 (aU (aj Tryz.f106) 6) (sS.inj s) (bU sS Xy (Q:Sum sS.T aE->Prop))=(sW s).wpR Q:=by kernel_rfl
def Bh (g6_6:cA->j3) (s:cA):OT aE:=(.ok ⟨(.exit 6,qD),g6_6 s⟩)
def Bg:az:=⟨[.val true (.arr 8 .u64)],[],false⟩
def P7:SV->Option az:=λ_=>some Bg
def Tx (ok0:cD->Bool) (g0_0:cD->j6) (ok2:cC->Bool) (g2_2:cC->j5) (ok4:cB->Bool) (g4_4:cB->j4) (ok6:cA->Bool) (g6_6:cA->j3) (a0:List (UInt64)) (a1:List (UInt8)) (a2:UInt64) (a3:Bool):OT iz.Y:=
 let z0:List UInt64×PUnit:=([(0:UInt64),(0:UInt64),(0:UInt64),(0:UInt64),(0:UInt64),(0:UInt64),(0:UInt64),(0:UInt64),(0:UInt64),(0:UInt64),(0:UInt64),(0:UInt64),(0:UInt64),(0:UInt64),(0:UInt64),(0:UInt64)],())
 let z1:(List UInt8×UInt64×Bool×PUnit×PUnit×PUnit×PUnit×Int×PUnit)×List UInt64×List UInt64×List UInt64×List UInt64×PUnit:=((a1,a2,a3,(),(),(),(),(0:Int),()),tab a0 8 (0:UInt64),[(0:UInt64),(0:UInt64),(0:UInt64),(0:UInt64),(0:UInt64),(0:UInt64),(0:UInt64),(0:UInt64)],[(7640891576956012808:UInt64),(13503953896175478587:UInt64),(4354685564936845355:UInt64),(11912009170470909681:UInt64),(5840696475078001361:UInt64),(11170449401992604703:UInt64),(2270897969802886507:UInt64),(6620516959819538809:UInt64)],z0)
 let z2:(List UInt8×UInt64×Bool×PUnit×PUnit×PUnit×PUnit)×List UInt64×List UInt64×List UInt64×PUnit:=g0_0 z1
 let z3:=z2.snd
 let z4:=z3.snd
 let z5:=z4.snd.fst
 let z6:Bool:=decide (12<List.length z5)
 let z7:=z2.fst
 let z8:=z7.snd
 let z9:List UInt64:=List.set z5 12 (List.getD z5 12 0^^^z8.fst)
 let z10:Bool:=decide (14<List.length z9)
 let z11:List UInt8×PUnit×PUnit×PUnit×PUnit×Int×PUnit:=(z7.fst,(),(),(),(),(0:Int),())
 let z12:=z3.fst
 let z13:=z4.fst
 let z14:(List UInt8×PUnit×PUnit×PUnit×PUnit×Int×PUnit)×List UInt64×List UInt64×List UInt64×List UInt64×PUnit:=(z11,z12,z13,List.set z9 14 (List.getD z9 14 0^^^(18446744073709551615:UInt64)),z0)
 let z15:PUnit×PUnit×PUnit×PUnit×PUnit×Int×PUnit:=((),(),(),(),(),(0:Int),())
 let z16:=(g2_2 z14).snd
 let z17:=z16.snd
 let z18:=z17.snd
 let z19:List (List Int)×PUnit:=([[(0:Int),(1:Int),(2:Int),(3:Int),(4:Int),(5:Int),(6:Int),(7:Int),(8:Int),(9:Int),(10:Int),(11:Int),(12:Int),(13:Int),(14:Int),(15:Int)],[(14:Int),(10:Int),(4:Int),(8:Int),(9:Int),(15:Int),(13:Int),(6:Int),(1:Int),(12:Int),(0:Int),(2:Int),(11:Int),(7:Int),(5:Int),(3:Int)],[(11:Int),(8:Int),(12:Int),(0:Int),(5:Int),(2:Int),(15:Int),(13:Int),(10:Int),(14:Int),(3:Int),(6:Int),(7:Int),(1:Int),(9:Int),(4:Int)],[(7:Int),(9:Int),(3:Int),(1:Int),(13:Int),(12:Int),(11:Int),(14:Int),(2:Int),(6:Int),(5:Int),(10:Int),(4:Int),(0:Int),(15:Int),(8:Int)],[(9:Int),(0:Int),(5:Int),(7:Int),(2:Int),(4:Int),(10:Int),(15:Int),(14:Int),(1:Int),(11:Int),(12:Int),(6:Int),(8:Int),(3:Int),(13:Int)],[(2:Int),(12:Int),(6:Int),(10:Int),(0:Int),(11:Int),(8:Int),(3:Int),(4:Int),(13:Int),(7:Int),(5:Int),(15:Int),(14:Int),(1:Int),(9:Int)],[(12:Int),(5:Int),(1:Int),(15:Int),(14:Int),(13:Int),(4:Int),(10:Int),(0:Int),(7:Int),(6:Int),(3:Int),(9:Int),(2:Int),(8:Int),(11:Int)],[(13:Int),(11:Int),(7:Int),(14:Int),(12:Int),(1:Int),(3:Int),(9:Int),(5:Int),(0:Int),(15:Int),(4:Int),(8:Int),(6:Int),(2:Int),(10:Int)],[(6:Int),(15:Int),(14:Int),(9:Int),(11:Int),(3:Int),(0:Int),(8:Int),(12:Int),(2:Int),(13:Int),(7:Int),(1:Int),(4:Int),(10:Int),(5:Int)],[(10:Int),(2:Int),(8:Int),(4:Int),(7:Int),(6:Int),(1:Int),(5:Int),(15:Int),(11:Int),(9:Int),(14:Int),(3:Int),(12:Int),(13:Int),(0:Int)]],())
 let z20:(PUnit×PUnit×PUnit×PUnit×PUnit×Int×PUnit)×List UInt64×List UInt64×List UInt64×List UInt64×List (List Int)×PUnit:=(z15,z16.fst,z17.fst,z18.fst,z18.snd.fst,z19)
 let z21:PUnit×PUnit×PUnit×Int×PUnit:=((),(),(),(0:Int),())
 let z22:=(g4_4 z20).snd
 let z23:=z22.snd
 let z24:(PUnit×PUnit×PUnit×Int×PUnit)×List UInt64×List UInt64×List UInt64×PUnit:=(z21,z22.fst,z23.fst,z23.snd.fst,())
 let z25:=(g6_6 z24).snd
 let z26:=z25.fst
 let z27:=z25.snd.fst
 let z28:List UInt64:=lay z27 z26 8 (0:UInt64)
 let z29:(List UInt8×PUnit×PUnit×PUnit×PUnit×Int×PUnit)×List UInt64×List UInt64×List UInt64×List UInt64×PUnit:=(z11,z12,z13,z9,z0)
 let z30:=(g2_2 z29).snd
 let z31:=z30.snd
 let z32:=z31.snd
 let z33:(PUnit×PUnit×PUnit×PUnit×PUnit×Int×PUnit)×List UInt64×List UInt64×List UInt64×List UInt64×List (List Int)×PUnit:=(z15,z30.fst,z31.fst,z32.fst,z32.snd.fst,z19)
 let z34:=(g4_4 z33).snd
 let z35:=z34.snd
 let z36:(PUnit×PUnit×PUnit×Int×PUnit)×List UInt64×List UInt64×List UInt64×PUnit:=(z21,z34.fst,z35.fst,z35.snd.fst,())
 let z37:=(g6_6 z36).snd
 let z38:=z37.fst
 let z39:=z37.snd.fst
 let z40:List UInt64:=lay z39 z38 8 (0:UInt64)
 (gd [ok0 z1,z6,z6] (.br (z8.snd.fst)
 (gd [z10,z10,ok2 z14,ok4 z20,ok6 z24,decide (8<=List.length z26),decide ((8/1:Nat)+0<=List.length z27),decide (8<=List.length z28)] (.ok ⟨Bg,((tab z28 8 (0:UInt64),()),())⟩))
 (gd [ok2 z29,ok4 z33,ok6 z36,decide (8<=List.length z38),decide ((8/1:Nat)+0<=List.length z39),decide (8<=List.length z40)] (.ok ⟨Bg,((tab z40 8 (0:UInt64),()),())⟩))))
theorem az0 (ok0:cD->Bool) (g0_0:cD->j6) (ok2:cC->Bool) (g2_2:cC->j5) (ok4:cB->Bool) (g4_4:cB->j4) (ok6:cA->Bool) (g6_6:cA->j3) (x:Ew) (Q:iz.Y->Prop):wpf te C7 (aO 6 (cf sS 6 ok6 (Bh g6_6)) (aO 4 (cf sT 4 ok4 (Bi g4_4)) (aO 2 (cf sU 2 ok2 (Bj g2_2)) (aO 0 (cf sV 0 ok0 (Bk g0_0)) av)))) 1000 Tryz.f106 (iz.inp.inj x).tm (iz.inp.inj x).hp (fnK iz P7 Q) (λ_ _=>False)=(Tx ok0 g0_0 ok2 g2_2 ok4 g4_4 ok6 g6_6 (x.1.1) (x.1.2.1) (x.1.2.2.1) (x.1.2.2.2.1)).wpR Q:=by kernel_rfl
theorem acW (ok0:cD->Bool) (g0_0:cD->j6) (ok2:cC->Bool) (g2_2:cC->j5) (ok4:cB->Bool) (g4_4:cB->j4) (ok6:cA->Bool) (g6_6:cA->j3) (h0:∀ s:cD,ok0 s=true->∃ m e,al (sZ) m s=some e/\(Bk g0_0 s).run=some e) (h2:∀ s:cC,ok2 s=true->∃ m e,al (sY) m s=some e/\(Bj g2_2 s).run=some e) (h4:∀ s:cB,ok4 s=true->∃ m e,al (sX) m s=some e/\(Bi g4_4 s).run=some e) (h6:∀ s:cA,ok6 s=true->∃ m e,al (sW) m s=some e/\(Bh g6_6 s).run=some e) (pre:Ew->Bool) (F:Ew->OT iz.Y) (hF:∀ (x:Ew) oy,pre x=true->(F x).run=some oy->(Tx ok0 g0_0 ok2 g2_2 ok4 g4_4 ok6 g6_6 (x.1.1) (x.1.2.1) (x.1.2.2.1) (x.1.2.2.2.1)).run=some oy):ac Tryz.prog 106 (iz.aI pre F):=
 aD ar mS pY (f:=106) (fn:=Tryz.f106) (c:=aj Tryz.f106) (by kernel_rfl) (by kernel_rfl) (by kernel_rfl) (S:=iz) (k:=0) (by kernel_rfl) (λR hR=>(aA (c:=(aj Tryz.f106)) (by kernel_rfl) (id:=6) (by kernel_rfl) (aP ar mS pY (sh:=sS) hR (xs:=Xy) (aC (by kernel_rfl) (by kernel_rfl) hR) aM af (n:=1000) (T:=sW) (λs Q=>asJ s Q) (ok:=ok6) (f:=Bh g6_6) h6) (aA (c:=(aj Tryz.f106)) (by kernel_rfl) (id:=4) (by kernel_rfl) (aP ar mS pY (sh:=sT) hR (xs:=Xz) (aC (by kernel_rfl) (by kernel_rfl) hR) aM af (n:=1000) (T:=sX) (λs Q=>asK s Q) (ok:=ok4) (f:=Bi g4_4) h4) (aA (c:=(aj Tryz.f106)) (by kernel_rfl) (id:=2) (by kernel_rfl) (aP ar mS pY (sh:=sU) hR (xs:=XA) (aC (by kernel_rfl) (by kernel_rfl) hR) aM af (n:=1000) (T:=sY) (λs Q=>asL s Q) (ok:=ok2) (f:=Bj g2_2) h2) (aA (c:=(aj Tryz.f106)) (by kernel_rfl) (id:=0) (by kernel_rfl) (aP ar mS pY (sh:=sV) hR (xs:=XB) (aC (by kernel_rfl) (by kernel_rfl) hR) aM af (n:=1000) (T:=sZ) (λs Q=>asM s Q) (ok:=ok0) (f:=Bk g0_0) h0) af))))) (n:=1000) (sel:=P7) (λv o h=>by cases h;rfl) (pre:=pre) (F:=F) (T:=λx=>Tx ok0 g0_0 ok2 g2_2 ok4 g4_4 ok6 g6_6 (x.1.1) (x.1.2.1) (x.1.2.2.1) (x.1.2.2.2.1)) (λx Q=>az0 ok0 g0_0 ok2 g2_2 ok4 g4_4 ok6 g6_6 x Q) hF
theorem aGu {h:List UInt64} (hh:h.length=8):upto (λk v=>(v.set k (h.getD k 0)).set (k+8) (bIV.getD k 0)) (List.replicate 16 0) 8=h++bIV:=by
 have e:=jx (x:=h) (n:=8) (d:=0) hh
 rw [<-e]
 rfl
def Ev (s:cD):Bool:=decide (s.1.2.2.2.2.2.2.2.1=0/\s.2.1.length=8/\s.2.2.2.1=bIV/\s.2.2.2.2.1=List.replicate 16 0)
def lQ (s:cD):j6:=((s.1.1,s.1.2.1,s.1.2.2.1,(),(),(),()),(s.2.1,s.2.2.1,s.2.1++bIV,()))
theorem asR:∀ s:cD,Ev s=true->∃ m e,al sZ m s=some e/\(Bk lQ s).run=some e:=by
 rintro ⟨⟨b,t,l,⟨⟩,⟨⟩,⟨⟩,⟨⟩,i,⟨⟩⟩,⟨h,c1,c2,c3,⟨⟩⟩⟩ hh
 have h':=of_decide_eq_true hh
 dsimp only at h'
 obtain ⟨rfl,hl,rfl,rfl⟩:=h'
 have:=(aR (T:=sZ) (λk v=>(((b,t,l,(),(),(),(),(k:Int),()),(h,c1,bIV,v,())):cD)) (λk v=>(v.set k (h.getD k 0)).set (k+8) (bIV.getD k 0))
  (λv=>(⟨(.exit 0,qG),((b,t,l,(),(),(),()),(h,c1,v,()))⟩:aE)) 8 (List.replicate 16 0) (λ_ v=>v.length=16) (by simp) (λk v hk hv=>⟨?_,by rw [List.length_set,List.length_set];exact hv⟩) (λv hv=> ?_)).1
 ·obtain ⟨m,hm⟩:=this
  rw [aGu hl] at hm
  exact ⟨m,_,hm,rfl⟩
 ·have e1:((k:Int)+8).toNat=k+8:=by omega
  refine (OT.ao (decide_eq_true (by dsimp only;omega))).trans ((ah ?_).trans ?_)
  ·simp only [e1,List.length_set,hl,hv,List.all_cons,List.all_nil,Bool.and_true,Bool.and_eq_true]
   exact ⟨aN (by omega),decide_eq_true (by omega),aN (by omega),decide_eq_true (by omega),aH (by omega),aN (by omega),decide_eq_true (show k+0<8 by omega),aN (by omega),decide_eq_true (by omega),aH (by omega)⟩
  ·simp only [OT.cT,e1,Nat.add_zero]
   rfl
 ·exact OT.aq (decide_eq_false (by dsimp only;omega))
def kR (b:List UInt8):List UInt64:=upto (λk m=>m.set k (iy b (8*k))) (List.replicate 16 0) 16
theorem JT (b:List UInt8):(kR b).length=16:=by
 unfold kR;rw [lC (λk v=>List.length_set)];rfl
def Eu (s:cC):Bool:=decide (s.1.2.2.2.2.2.1=0/\s.2.2.2.2.1=List.replicate 16 0)
def ow (s:cC):j5:=(((),(),(),(),()),(s.2.1,s.2.2.1,s.2.2.2.1,kR s.1.1,()))
theorem asQ:∀ s:cC,Eu s=true->∃ m e,al sY m s=some e/\(Bj ow s).run=some e:=by
 rintro ⟨⟨b,⟨⟩,⟨⟩,⟨⟩,⟨⟩,i,⟨⟩⟩,⟨c0,c1,c2,c3,⟨⟩⟩⟩ hh
 have h':=of_decide_eq_true hh
 dsimp only at h'
 obtain ⟨rfl,rfl⟩:=h'
 have:=(aR (T:=sY) (λk m=>(((b,(),(),(),(),(k:Int),()),(c0,c1,c2,m,())):cC)) (λk m=>m.set k (iy b (8*k)))
  (λm=>(⟨(.exit 2,qF),(((),(),(),(),()),(c0,c1,c2,m,()))⟩:aE)) 16 (List.replicate 16 0) (λ_ m=>m.length=16) (by simp) (λk m hk hm=>⟨?_,by rw [List.length_set];exact hm⟩) (λm hm=> ?_)).1
 ·obtain ⟨n,hn⟩:=this
  exact ⟨n,_,hn,rfl⟩
 ·have e1:(8*(k:Int)).toNat=8*k:=by omega
  refine (OT.ao (decide_eq_true (by dsimp only;omega))).trans ((ah ?_).trans ?_)
  ·simp only [e1,hm,List.all_cons,List.all_nil,Bool.and_true,Bool.and_eq_true]
   exact ⟨aH (by omega),decide_eq_true (by dsimp only;omega),aN (by omega),decide_eq_true (by omega),aH (by omega)⟩
  ·simp only [OT.cT,e1,Nat.add_zero]
   rfl
 ·exact OT.aq (decide_eq_false (by dsimp only;omega))
def OZ (k:Nat):List Int:=Pw.getD (k%10) (List.replicate 16 0)
theorem acR (k:Nat) {j:Nat} (hj:j<16):nib ((rowAt k).getD j 0)=(OZ k).getD j 0/\inB ((OZ k).getD j 0) 16=true:=by
 have hk:k%10<10:=Nat.mod_lt _ (by decide)
 unfold rowAt OZ
 generalize k%10=r at hk
 have h:∀ r:Fin 10,∀ j:Fin 16,nib ((gP.getD r.val []).getD j.val 0)=(Pw.getD r.val (List.replicate 16 0)).getD j.val 0/\inB ((Pw.getD r.val (List.replicate 16 0)).getD j.val 0) 16=true:=by decide+kernel
 exact h ⟨r,hk⟩ ⟨j,hj⟩
theorem aJL (m:List UInt64) (k:Nat) {j:Nat} (hj:j<16):atF m (rowAt k) (j:Int)=m.getD ((OZ k).getD j 0).toNat 0:=by
 unfold atF
 rw [Int.toNat_natCast,(acR k hj).1]
theorem auK {v:List UInt64} (hv:v.length=16) (a b c d:Nat) (x y:UInt64):lay v (Ce (tab v 16 0) a b c d x y) 16 0=Ce v a b c d x y:=by
 rw [jx hv]
 exact yj hv (by rw [gg];exact hv)
def ai7 (m:List UInt64) (k:Nat) (v:List UInt64):List UInt64:=
 let g:=λj=>m.getD ((OZ k).getD j 0).toNat 0
 Ce (Ce (Ce (Ce (Ce (Ce (Ce (Ce v 0 4 8 12 (g 0) (g 1)) 1 5 9 13 (g 2) (g 3)) 2 6 10 14 (g 4) (g 5)) 3 7 11 15 (g 6) (g 7)) 0 5 10 15 (g 8) (g 9)) 1 6 11 12 (g 10) (g 11)) 2 7 8 13 (g 12) (g 13)) 3 4 9 14 (g 14) (g 15)
theorem azT (m:List UInt64) (k:Nat) (v:List UInt64):ZD m (rowAt k) (ZE m (rowAt k) v)=ai7 m k v:=by
 have h:=λ{j:Nat} (hj:j<16)=>aJL m k hj
 have a0:atF m (rowAt k) (2*((0:Nat):Int))=m.getD ((OZ k).getD 0 0).toNat 0:=h (j:=0) (by decide)
 have a1:atF m (rowAt k) (2*((0:Nat):Int)+1)=m.getD ((OZ k).getD 1 0).toNat 0:=h (j:=1) (by decide)
 have a2:atF m (rowAt k) (2*((1:Nat):Int))=m.getD ((OZ k).getD 2 0).toNat 0:=h (j:=2) (by decide)
 have a3:atF m (rowAt k) (2*((1:Nat):Int)+1)=m.getD ((OZ k).getD 3 0).toNat 0:=h (j:=3) (by decide)
 have a4:atF m (rowAt k) (2*((2:Nat):Int))=m.getD ((OZ k).getD 4 0).toNat 0:=h (j:=4) (by decide)
 have a5:atF m (rowAt k) (2*((2:Nat):Int)+1)=m.getD ((OZ k).getD 5 0).toNat 0:=h (j:=5) (by decide)
 have a6:atF m (rowAt k) (2*((3:Nat):Int))=m.getD ((OZ k).getD 6 0).toNat 0:=h (j:=6) (by decide)
 have a7:atF m (rowAt k) (2*((3:Nat):Int)+1)=m.getD ((OZ k).getD 7 0).toNat 0:=h (j:=7) (by decide)
 have a8:atF m (rowAt k) (8+2*((0:Nat):Int))=m.getD ((OZ k).getD 8 0).toNat 0:=h (j:=8) (by decide)
 have a9:atF m (rowAt k) (9+2*((0:Nat):Int))=m.getD ((OZ k).getD 9 0).toNat 0:=h (j:=9) (by decide)
 have a10:atF m (rowAt k) (8+2*((1:Nat):Int))=m.getD ((OZ k).getD 10 0).toNat 0:=h (j:=10) (by decide)
 have a11:atF m (rowAt k) (9+2*((1:Nat):Int))=m.getD ((OZ k).getD 11 0).toNat 0:=h (j:=11) (by decide)
 have a12:atF m (rowAt k) (8+2*((2:Nat):Int))=m.getD ((OZ k).getD 12 0).toNat 0:=h (j:=12) (by decide)
 have a13:atF m (rowAt k) (9+2*((2:Nat):Int))=m.getD ((OZ k).getD 13 0).toNat 0:=h (j:=13) (by decide)
 have a14:atF m (rowAt k) (8+2*((3:Nat):Int))=m.getD ((OZ k).getD 14 0).toNat 0:=h (j:=14) (by decide)
 have a15:atF m (rowAt k) (9+2*((3:Nat):Int))=m.getD ((OZ k).getD 15 0).toNat 0:=h (j:=15) (by decide)
 simp only [ZE,ZD,upto,a0,a1,a2,a3,a4,a5,a6,a7,a8,a9,a10,a11,a12,a13,a14,a15,Nat.reduceAdd,Nat.reduceMod,ai7]
def Et (s:cB):Bool:=decide (s.1.2.2.2.2.2.1=0/\s.2.2.2.1.length=16/\s.2.2.2.2.1.length=16/\s.2.2.2.2.2.1=Pw)
def ov (s:cB):j4:=(((),(),(),()),(s.2.1,s.2.2.1,kQ s.2.2.2.2.1 s.2.2.2.1,()))
theorem asP:∀ s:cB,Et s=true->∃ m e,al sX m s=some e/\(Bi ov s).run=some e:=by
 rintro ⟨⟨⟨⟩,⟨⟩,⟨⟩,⟨⟩,⟨⟩,i,⟨⟩⟩,⟨c0,c1,v,m,c4,⟨⟩⟩⟩ hh
 have h':=of_decide_eq_true hh
 dsimp only at h'
 obtain ⟨rfl,hv,hm,rfl⟩:=h'
 have:=(aR (T:=sX) (λk v=>((((),(),(),(),(),(k:Int),()),(c0,c1,v,m,Pw,())):cB)) (λk v=>ZD m (rowAt k) (ZE m (rowAt k) v))
  (λv=>(⟨(.exit 4,qE),(((),(),(),()),(c0,c1,v,()))⟩:aE)) 12 v (λ_ v=>v.length=16) hv (λk v hk hv=>⟨?_,by rw [tT,nG];exact hv⟩) (λv hv=> ?_)).1
 ·obtain ⟨n,hn⟩:=this
  exact ⟨n,_,hn,rfl⟩
 ·have t1:Int.tmod (k:Int) 10=((k%10:Nat):Int):=by rw [Int.tmod_eq_emod_of_nonneg (by omega)];omega
  have e1:((k%10:Nat):Int).toNat=k%10:=by omega
  have hrow:Pw.getD (k%10) [0,0,0,0,0,0,0,0,0,0,0,0,0,0,0,0]=OZ k:=rfl
  have hb:=λ{j:Nat} (hj:j<16)=>(acR k hj).2
  have hn:=λ{j:Nat} (hj:j<16)=>ym (acR k hj).2
  refine (OT.ao (decide_eq_true (by dsimp only;omega))).trans ((ah ?_).trans ?_)
  ·simp only [t1,e1,Nat.add_zero,hrow,auK,gF,gg,hv,hm,hb,hn,List.all_cons,List.all_nil,Bool.and_true,Bool.and_eq_true,decide_true,Nat.le_refl,Nat.reduceLT,true_and,Nat.reduceDiv]
   exact ⟨aN (by omega),decide_eq_true (show k%10<10 by omega),aH (by omega)⟩
  ·simp only [OT.cT,t1,e1,Nat.add_zero,hrow,auK,gF,gg,hv,azT]
   rfl
 ·exact OT.aq (decide_eq_false (by dsimp only;omega))
def Es (s:cA):Bool:=decide (s.1.2.2.2.1=0/\s.2.1.length=8/\s.2.2.2.1.length=16)
def ou (s:cA):j3:=(((),(),()),(Lw s.2.1 s.2.2.2.1,s.2.2.1,()))
theorem asO:∀ s:cA,Es s=true->∃ m e,al sW m s=some e/\(Bh ou s).run=some e:=by
 rintro ⟨⟨⟨⟩,⟨⟩,⟨⟩,i,⟨⟩⟩,⟨h,c1,v,⟨⟩⟩⟩ hh
 have h':=of_decide_eq_true hh
 dsimp only at h'
 obtain ⟨rfl,hl,hv⟩:=h'
 have:=(aR (T:=sW) (λk h=>((((),(),(),(k:Int),()),(h,c1,v,())):cA)) (λk h=>h.set k (h.getD k 0^^^(v.getD k 0^^^v.getD (k+8) 0)))
  (λh=>(⟨(.exit 6,qD),(((),(),()),(h,c1,()))⟩:aE)) 8 h (λ_ h=>h.length=8) hl (λk h hk hl=>⟨?_,by rw [List.length_set];exact hl⟩) (λh hl=> ?_)).1
 ·obtain ⟨n,hn⟩:=this
  exact ⟨n,_,hn,rfl⟩
 ·have e1:((k:Int)+8).toNat=k+8:=by omega
  refine (OT.ao (decide_eq_true (by dsimp only;omega))).trans ((ah ?_).trans ?_)
  ·simp only [e1,hl,hv,List.all_cons,List.all_nil,Bool.and_true,Bool.and_eq_true]
   exact ⟨aN (by omega),decide_eq_true (by omega),aN (by omega),decide_eq_true (by omega),aH (by omega),aN (by omega),decide_eq_true (by omega),aN (by omega),decide_eq_true (by omega),aH (by omega)⟩
  ·simp only [OT.cT,e1,Nat.add_zero]
   rfl
 ·exact OT.aq (decide_eq_false (by dsimp only;omega))
theorem aCx (x:UInt64):x^^^18446744073709551615= ~~~x:=by
 rw [<-UInt64.toBitVec_inj]
 show x.toBitVec^^^BitVec.allOnes 64= ~~~ x.toBitVec
 exact BitVec.xor_allOnes
theorem Tw {b:List UInt8} {t:UInt64} {l:Bool} {h c1:List UInt64} (hh:h.length=8):Ev ((b,t,l,(),(),(),(),0,()),(h,c1,bIV,[0,0,0,0,0,0,0,0,0,0,0,0,0,0,0,0],()))=true:=decide_eq_true ⟨rfl,hh,rfl,rfl⟩
theorem Bf {b:List UInt8} {c0 c1 c2:List UInt64}:Eu ((b,(),(),(),(),0,()),(c0,c1,c2,[0,0,0,0,0,0,0,0,0,0,0,0,0,0,0,0],()))=true:=decide_eq_true ⟨rfl,rfl⟩
theorem Be {c0 c1 v m:List UInt64} (hv:v.length=16) (hm:m.length=16):Et (((),(),(),(),(),0,()),(c0,c1,v,m,Pw,()))=true:=decide_eq_true ⟨rfl,hv,hm,rfl⟩
theorem Bc {c0 c1 v:List UInt64} (h0:c0.length=8) (hv:v.length=16):Es (((),(),(),0,()),(c0,c1,v,()))=true:=decide_eq_true ⟨rfl,h0,hv⟩
def dO (h:List UInt64) (b:List UInt8) (t:UInt64) (last:Bool):List UInt64:=Lw h (kQ (kR b) (ss h t last))
def P8 (x:Ew):Bool:=decide (x.1.1.length=8)
def ai9 (x:Ew):OT iz.Y:=.ok ⟨Bg,((dO x.1.1 x.1.2.1 x.1.2.2.1 x.1.2.2.2.1,()),())⟩
theorem asN:ac Tryz.prog 106 (iz.aI P8 ai9):=acW Ev lQ Eu ow Et ov Es ou asR asQ asP asO _ _ λx oy hp ho=>by
 rw [<-ho]
 clear ho
 obtain ⟨⟨h,b,t,last,⟨⟩⟩,⟨⟩⟩:=x
 have hh:h.length=8:=of_decide_eq_true hp
 have t1:tab h 8 0=h:=jx hh
 have hv:∀ c l,(ss h c l).length=16:=λc l=>by
  unfold ss
  cases l<;>simp [hh]<;>rfl
 have hm:(kR b).length=16:=JT b
 have hr:∀ c l,(kQ (kR b) (ss h c l)).length=16:=λc l=>by rw [sL];exact hv c l
 have hM:∀ c l,(dO h b c l).length=8:=λc l=>by unfold dO;rw [kV];exact hh
 have hi:(h++bIV).length=16:=by simp [hh];rfl
 have e8: [(7640891576956012808:UInt64),13503953896175478587,4354685564936845355,11912009170470909681,5840696475078001361,11170449401992604703,2270897969802886507,6620516959819538809]=bIV:=rfl
 have key:∀ M:List UInt64,M.length=8->tab (lay [(0:UInt64),0,0,0,0,0,0,0] M 8 0) 8 0=M:=λM hM=>by rw [yj (n:=8) rfl hM,jx hM]
 have l1:List.set (h++bIV) 12 ((h++bIV).getD 12 0^^^t)=ss h t false:=rfl
 have l2:List.set (ss h t false) 14 (~~~(ss h t false).getD 14 0)=ss h t true:=rfl
 have l3:∀ c l,Lw h (kQ (kR b) (ss h c l))=dO h b c l:=λ_ _=>rfl
 have l4:tab Pw 10 (List.replicate 16 0)=Pw:=jx rfl
 refine (ah ?_).trans ?_
 ·simp only [t1,List.all_cons,List.all_nil,Bool.and_true,Bool.and_eq_true]
  rw [e8]
  simp only [lQ,hi]
  exact ⟨Tw hh,rfl,rfl⟩
 ·cases last
  ·refine (OT.aq rfl).trans ((ah ?_).trans ?_)
   ·simp only [t1,List.all_cons,List.all_nil,Bool.and_true,Bool.and_eq_true]
    rw [e8]
    simp only [lQ,ow,ov,ou,l1,l3,gF,hM]
    exact ⟨Bf,Be (hv _ _) hm,Bc hh (hr _ _),rfl,rfl,rfl⟩
   ·simp only [t1]
    rw [e8]
    simp only [lQ,ow,ov,ou,l1,l3]
    rw [key _ (hM _ _)]
    rfl
  ·refine (OT.ao rfl).trans ((ah ?_).trans ?_)
   ·simp only [t1,List.all_cons,List.all_nil,Bool.and_true,Bool.and_eq_true]
    rw [e8]
    simp only [lQ,ow,ov,ou,l1,aCx,l2,l3,gF,hM,hv]
    exact ⟨rfl,rfl,Bf,Be (hv _ _) hm,Bc hh (hr _ _),rfl,rfl,rfl⟩
   ·simp only [t1]
    rw [e8]
    simp only [lQ,ow,ov,ou,l1,aCx,l2,l3]
    rw [key _ (hM _ _)]
    rfl
def y0:cj:=(iz.aI P8 ai9)
theorem XD:ac Tryz.prog 106 y0:=asN
theorem XC:aG y0:=aB
def rP:Env:=ay 106 y0 C7
theorem mT:aQ Tryz.prog rP:=ag XD mS
theorem Da:ax rP:=ae XC NJ
theorem uY:aW Tryz.prog te rP:=aL follows ar mT Da
def sI:aw:=⟨[.val false .str,.val false .int,.val false (.list .u8)],[],true,0,false⟩
abbrev amc:Type:=((List UInt8)×(Int)×(List (UInt8))×Unit)×(Unit)
def JI:Shape:=⟨90,[(1,.val false .int),(2,.val false (.list .u8)),(8,.ptr 0 0 0),(9,.val false .int)],[(0,.row .u64)],0,true⟩
abbrev dM:Type:=((Int)×(List (UInt8))×(Unit)×(Int)×Unit)×((List (UInt64))×Unit)
def A2:Shape:=⟨90,[(1,.val false .int),(2,.val false (.list .u8)),(8,.ptr 0 0 0),(9,.val false .int)],[(0,.row .u64)],0,true⟩
abbrev oj:Type:=((Int)×(List (UInt8))×(Unit)×(Int)×Unit)×((List (UInt64))×Unit)
def asb:SE->Option Shape:=fc [(0,A2)] none
def aFr (a1:Int) (a2:List (UInt8)) (a9:Int) (c0:List (UInt64)):OT (Sum dM aE):=
 let z0:Nat:=List.length a2
 let z1:Nat:=List.length c0
 let z2:Bool:=inR (a9+(128:Int))
 (gd [inR ((↑z0:Int)-a9)] (.br (decide ((128:Int)<(↑z0:Int)-a9))
 (gd [decide (8<=z1),z2,dH a9 (a9+(128:Int)) z0,z2,decide ((8/1:Nat)+0<=z1),z2] (.ok (.inl ((a1,(a2,((),(a9+(128:Int),())))),(lay c0 (dO (tab c0 8 (0:UInt64)) (List.drop (Int.toNat a9) (List.take (Int.toNat (a9+(128:Int))) a2)) (i2u (a9+(128:Int))) false) 8 (0:UInt64),())))))
 (.ok (.inr ⟨(.exit 0,A2),((a1,(a2,((),(a9,())))),(c0,()))⟩))))
def JK (s:dM):OT (Sum dM aE):=aFr (s.1.1) (s.1.2.1) (s.1.2.2.2.1) (s.2.1)
theorem aFm (s:dM) (Q:Sum dM aE->Prop):wps te rP av 1000 (aU (aj Tryz.f63) 0) (JI.inj s) (bU JI asb (Q:Sum JI.T aE->Prop))=(JK s).wpR Q:=by kernel_rfl
def Tf (g0_0:dM->oj) (s:dM):OT aE:=(.ok ⟨(.exit 0,A2),g0_0 s⟩)
def JH:Shape:=⟨90,[(1,.val false .int),(8,.ptr 0 0 0),(10,.own 1),(11,.val false .int)],[(0,.row .u64),(1,.row .u8)],0,true⟩
abbrev dL:Type:=((Int)×(Unit)×(Unit)×(Int)×Unit)×((List (UInt64))×(List (UInt8))×Unit)
def A1:Shape:=⟨90,[(10,.own 0)],[(0,.row .u8)],0,true⟩
abbrev oi:Type:=((Unit)×Unit)×((List (UInt8))×Unit)
def asa:SE->Option Shape:=fc [(2,A1)] none
def aFq (a1:Int) (a11:Int) (c0:List (UInt64)) (c1:List (UInt8)):OT (Sum dL aE):=
 let z0:Int:=Int.tdiv a11 (8:Int)
 let z1:Int:=(8:Int)*Int.tmod a11 (8:Int)
 (.br (decide (a11<a1))
 (gd [true&&inR z0,inB z0 8,decide (Int.toNat z0+0<List.length c0),inR z1,decide ((List.length c1+1)*1<=140737488355328),inR (a11+(1:Int))] (.ok (.inl ((a1,((),((),(a11+(1:Int),())))),(c0,(c1++ [UInt64.toUInt8 (bm (List.getD c0 (Int.toNat z0+0) (0:UInt64)) (↑(UInt64.toNat (i2u z1)):Int))],()))))))
 (.ok (.inr ⟨(.exit 2,A1),(((),()),(c1,()))⟩)))
def JJ (s:dL):OT (Sum dL aE):=aFq (s.1.1) (s.1.2.2.2.1) (s.2.1) (s.2.2.1)
theorem aFl (s:dL) (Q:Sum dL aE->Prop):wps te rP av 1000 (aU (aj Tryz.f63) 2) (JH.inj s) (bU JH asa (Q:Sum JH.T aE->Prop))=(JJ s).wpR Q:=by kernel_rfl
def Te (g2_2:dL->oi) (s:dL):OT aE:=(.ok ⟨(.exit 2,A1),g2_2 s⟩)
def yU:az:=⟨[.own 0,.val false .int],[(0,.row .u8)],false⟩
def aiW:SV->Option az:=λ_=>some yU
def JL (ok0:dM->Bool) (g0_0:dM->oj) (ok2:dL->Bool) (g2_2:dL->oi) (a0:List UInt8) (a1:Int) (a2:List (UInt8)):OT sI.Y:=
 let z0:(Int×List UInt8×PUnit×Int×PUnit)×List UInt64×PUnit:=((a1,a2,(),(0:Int),()),[(7640891576956012808:UInt64)^^^(16842752:UInt64)+i2u a1,(13503953896175478587:UInt64),(4354685564936845355:UInt64),(11912009170470909681:UInt64),(5840696475078001361:UInt64),(11170449401992604703:UInt64),(2270897969802886507:UInt64)^^^iy a0 (Int.toNat (0:Int)),(6620516959819538809:UInt64)^^^iy a0 (Int.toNat (8:Int))],())
 let z1:(Int×List UInt8×PUnit×Int×PUnit)×List UInt64×PUnit:=g0_0 z0
 let z2:=z1.snd.fst
 let z3:Nat:=List.length z2
 let z4:=z1.fst
 let z5:=z4.snd
 let z6:=z5.snd.snd.fst
 let z7:=z5.fst
 let z8:Nat:=List.length z7
 let z9:Int:=(↑z8:Int)
 let z10:(Int×PUnit×PUnit×Int×PUnit)×List UInt64×List UInt8×PUnit:=((z4.fst,(),(),(0:Int),()),lay z2 (dO (tab z2 8 (0:UInt64)) (List.drop (Int.toNat z6) z7) (i2u z9) true) 8 (0:UInt64),[],())
 (.br (decide ((16:Int)<(↑(List.length a0):Int)))
 (.ok ⟨yU,(((),((30:Int),())),([],()))⟩)
 (.br (decide (a1<(1:Int)))
  (.ok ⟨yU,(((),((30:Int),())),([],()))⟩)
  (.br (decide ((64:Int)<a1))
   (.ok ⟨yU,(((),((30:Int),())),([],()))⟩)
   (gd [ok0 z0,decide (8<=z3),dH z6 z9 z8,decide ((8/1:Nat)+0<=z3),ok2 z10] (.ok ⟨yU,(((),((0:Int),())),((g2_2 z10).snd.fst,()))⟩)))))
theorem aIA (ok0:dM->Bool) (g0_0:dM->oj) (ok2:dL->Bool) (g2_2:dL->oi) (x:amc) (Q:sI.Y->Prop):wpf te rP (aO 2 (cf JH 2 ok2 (Te g2_2)) (aO 0 (cf JI 0 ok0 (Tf g0_0)) av)) 1000 Tryz.f63 (sI.inp.inj x).tm (sI.inp.inj x).hp (fnK sI aiW Q) (λ_ _=>False)=(JL ok0 g0_0 ok2 g2_2 (x.1.1) (x.1.2.1) (x.1.2.2.1)).wpR Q:=by kernel_rfl
theorem asc (ok0:dM->Bool) (g0_0:dM->oj) (ok2:dL->Bool) (g2_2:dL->oi) (h0:∀ s:dM,ok0 s=true->∃ m e,al (JK) m s=some e/\(Tf g0_0 s).run=some e) (h2:∀ s:dL,ok2 s=true->∃ m e,al (JJ) m s=some e/\(Te g2_2 s).run=some e) (pre:amc->Bool) (F:amc->OT sI.Y) (hF:∀ (x:amc) oy,pre x=true->(F x).run=some oy->(JL ok0 g0_0 ok2 g2_2 (x.1.1) (x.1.2.1) (x.1.2.2.1)).run=some oy):ac Tryz.prog 63 (sI.aI pre F):=
 aD ar mT uY (f:=63) (fn:=Tryz.f63) (c:=aj Tryz.f63) (by kernel_rfl) (by kernel_rfl) (by kernel_rfl) (S:=sI) (k:=0) (by kernel_rfl) (λR hR=>(aA (c:=(aj Tryz.f63)) (by kernel_rfl) (id:=2) (by kernel_rfl) (aP ar mT uY (sh:=JH) hR (xs:=asa) (aC (by kernel_rfl) (by kernel_rfl) hR) aM af (n:=1000) (T:=JJ) (λs Q=>aFl s Q) (ok:=ok2) (f:=Te g2_2) h2) (aA (c:=(aj Tryz.f63)) (by kernel_rfl) (id:=0) (by kernel_rfl) (aP ar mT uY (sh:=JI) hR (xs:=asb) (aC (by kernel_rfl) (by kernel_rfl) hR) aM af (n:=1000) (T:=JK) (λs Q=>aFm s Q) (ok:=ok0) (f:=Tf g0_0) h0) af))) (n:=1000) (sel:=aiW) (λv o h=>by cases h;rfl) (pre:=pre) (F:=F) (T:=λx=>JL ok0 g0_0 ok2 g2_2 (x.1.1) (x.1.2.1) (x.1.2.2.1)) (λx Q=>aIA ok0 g0_0 ok2 g2_2 x Q) hF
def oo (b:List UInt8) (h:List UInt64) (n:Nat):List UInt64:=upto (λk h=>dO h ((b.take (128*k+128)).drop (128*k)) (i2u ((128*k+128:Nat):Int)) false) h n
def A9 (h:List UInt64) (n:Nat):List UInt8:=upto (λk o=>o++ [UInt64.toUInt8 (bm (h.getD (k/8) 0) ((i2u (8*((k%8:Nat):Int))).toNat:Int))]) [] n
theorem fS {h:List UInt64} {b:List UInt8} {t:UInt64} {l:Bool} (hh:h.length=8):(dO h b t l).length=8:=by unfold dO;rw [kV];exact hh
def Td (s:dM):Bool:=decide (s.1.2.2.2.1=0/\s.2.1.length=8/\s.1.2.1.length<=1000000000000)
def acM (s:dM):oj:=((s.1.1,s.1.2.1,(),((128*((s.1.2.1.length-1)/128):Nat):Int),()),(oo s.1.2.1 s.2.1 ((s.1.2.1.length-1)/128),()))
theorem aFp:∀ s:dM,Td s=true->∃ m e,al JK m s=some e/\(Tf acM s).run=some e:=by
 rintro ⟨⟨n,b,⟨⟩,i,⟨⟩⟩,⟨h,⟨⟩⟩⟩ hh
 have h':=of_decide_eq_true hh
 dsimp only at h'
 obtain ⟨rfl,hl,hb⟩:=h'
 have:=(aR (T:=JK) (λk h=>(((n,b,(),((128*k:Nat):Int),()),(h,())):dM)) (λk h=>dO h ((b.take (128*k+128)).drop (128*k)) (i2u ((128*k+128:Nat):Int)) false)
  (λh=>(⟨(.exit 0,A2),((n,b,(),((128*((b.length-1)/128):Nat):Int),()),(h,()))⟩:aE)) ((b.length-1)/128) h (λ_ h=>h.length=8) hl (λk h hk hl=>⟨?_,fS hl⟩) (λh hl=> ?_)).1
 ·obtain ⟨m,hm⟩:=this
  exact ⟨m,_,hm,rfl⟩
 ·have e1:(((128*k:Nat):Int)+128).toNat=128*k+128:=by omega
  have e2:(((128*k:Nat):Int)).toNat=128*k:=by omega
  have e3:((128*k:Nat):Int)+128=((128*k+128:Nat):Int):=by omega
  have e4:((128*(k+1):Nat):Int)=((128*k+128:Nat):Int):=by omega
  have t1:tab h 8 0=h:=jx hl
  have t2:∀ c l t,lay h (dO h c t l) 8 0=dO h c t l:=λc l t=>yj hl (fS hl)
  refine (ah (by simp only [List.all_cons,List.all_nil,Bool.and_true];exact aH (by omega))).trans ((OT.ao (decide_eq_true (by dsimp only;omega))).trans ((ah ?_).trans ?_))
  ·simp only [hl,List.all_cons,List.all_nil,Bool.and_true,Bool.and_eq_true]
   exact ⟨rfl,aH (by omega),fH (by omega),aH (by omega),rfl,aH (by omega)⟩
  ·simp only [OT.cT,e2,e3,e4,t1,t2,Int.toNat_natCast]
 ·refine (ah (by simp only [List.all_cons,List.all_nil,Bool.and_true];exact aH (by omega))).trans (OT.aq (decide_eq_false (by dsimp only;omega)))
def Tc (s:dL):Bool:=decide (s.1.2.2.2.1=0/\s.2.1.length=8/\s.1.1<=64/\0<=s.1.1/\s.2.2.1= [])
def asd (s:dL):oi:=(((),()),(A9 s.2.1 s.1.1.toNat,()))
theorem aFo:∀ s:dL,Tc s=true->∃ m e,al JJ m s=some e/\(Te asd s).run=some e:=by
 rintro ⟨⟨n,⟨⟩,⟨⟩,i,⟨⟩⟩,⟨h,o,⟨⟩⟩⟩ hh
 have h':=of_decide_eq_true hh
 dsimp only at h'
 obtain ⟨rfl,hl,hn,hn0,rfl⟩:=h'
 obtain ⟨k,rfl⟩:∃ k:Nat,n=(k:Int):=⟨n.toNat,by omega⟩
 have:=(aR (T:=JJ) (λi o=>((((k:Int),(),(),(i:Int),()),(h,o,())):dL)) (λk o=>o++ [UInt64.toUInt8 (bm (h.getD (k/8) 0) ((i2u (8*((k%8:Nat):Int))).toNat:Int))])
  (λo=>(⟨(.exit 2,A1),(((),()),(o,()))⟩:aE)) k [] (λi o=>o.length=i) rfl (λi o hi ho=>⟨?_,by simp [ho]⟩) (λo ho=> ?_)).1
 ·obtain ⟨m,hm⟩:=this
  exact ⟨m,_,hm,rfl⟩
 ·have t1:Int.tdiv (i:Int) 8=((i/8:Nat):Int):=by rw [Int.tdiv_eq_ediv_of_nonneg (by omega)];omega
  have t2:Int.tmod (i:Int) 8=((i%8:Nat):Int):=by rw [Int.tmod_eq_emod_of_nonneg (by omega)];omega
  refine (OT.ao (decide_eq_true (by dsimp only;omega))).trans ((ah ?_).trans ?_)
  ·simp only [t1,t2,hl,ho,Int.toNat_natCast,List.all_cons,List.all_nil,Bool.and_true,Bool.and_eq_true]
   exact ⟨⟨trivial,aH (by omega)⟩,aN (by omega),decide_eq_true (by omega),aH (by omega),decide_eq_true (by omega),aH (by omega)⟩
  ·simp only [OT.cT,t1,t2,Int.toNat_natCast,Nat.add_zero]
   rfl
 ·exact OT.aq (decide_eq_false (by dsimp only;omega))
def asE (p:List UInt8) (n:Int):List UInt64:= [0x6a09e667f3bcc908^^^(16842752+i2u n),0xbb67ae8584caa73b,0x3c6ef372fe94f82b,0xa54ff53a5f1d36f1,0x510e527fade682d1,0x9b05688c2b3e6c1f,0x1f83d9abfb41bd6b^^^iy p 0,0x5be0cd19137e2179^^^iy p 8]
def azZ (p:List UInt8) (n:Int) (b:List UInt8):List UInt8:=
 A9 (dO (oo b (asE p n) ((b.length-1)/128)) (b.drop (128*((b.length-1)/128))) (i2u (b.length:Int)) true) n.toNat
def IC (x:amc):Bool:=decide (x.1.2.2.1.length<=1000000000000)
def PZ (x:amc):OT sI.Y:=.br (gK x.1.1 x.1.2.1) (.ok ⟨yU,(((),((30:Int),())),([],()))⟩) (.ok ⟨yU,(((),((0:Int),())),(azZ x.1.1 x.1.2.1 x.1.2.2.1,()))⟩)
theorem acL {n:Int} {b:List UInt8} {h:List UInt64} (hh:h.length=8) (hb:b.length<=1000000000000):Td ((n,b,(),0,()),(h,()))=true:=decide_eq_true ⟨rfl,hh,hb⟩
theorem acK {n:Int} {h:List UInt64} (hh:h.length=8) (hn0:0<=n) (hn:n<=64):Tc ((n,(),(),0,()),(h,[],()))=true:=decide_eq_true ⟨rfl,hh,hn,hn0,rfl⟩
theorem A8 {b:List UInt8} {h:List UInt64} (hh:h.length=8):∀ n,(oo b h n).length=8
 |0=>hh
 |n+1=>fS (A8 hh n)
theorem aFn:ac Tryz.prog 63 (sI.aI IC PZ):=asc Td acM Tc asd aFp aFo _ _ λx oy hp ho=>by
 rw [<-ho]
 obtain ⟨⟨p,n,b,⟨⟩⟩,⟨⟩⟩:=x
 clear ho
 have hb:b.length<=1000000000000:=of_decide_eq_true hp
 by_cases h1:16<(p.length:Int)
 ·have e1:decide (16<(p.length:Int))=true:=decide_eq_true h1
  have eb:gK p n=true:=by simp only [gK,e1,Bool.true_or]
  simp only [PZ,JL,e1,eb]
  rfl
 ·have e1:decide (16<(p.length:Int))=false:=decide_eq_false h1
  by_cases h2:n<1
  ·have e2:decide (n<1)=true:=decide_eq_true h2
   have eb:gK p n=true:=by simp only [gK,e1,e2,Bool.true_or,Bool.false_or]
   simp only [PZ,JL,e1,e2,eb]
   rfl
  ·have e2:decide (n<1)=false:=decide_eq_false h2
   by_cases h3:64<n
   ·have e3:decide (64<n)=true:=decide_eq_true h3
    have eb:gK p n=true:=by simp only [gK,e1,e2,e3,Bool.false_or]
    simp only [PZ,JL,e1,e2,e3,eb]
    rfl
   ·have e3:decide (64<n)=false:=decide_eq_false h3
    have eb:gK p n=false:=by simp only [gK,e1,e2,e3,Bool.false_or]
    have hH:(asE p n).length=8:=rfl
    have hE:∀ k,(oo b (asE p n) k).length=8:=λk=>A8 hH k
    have l1: [(7640891576956012808:UInt64)^^^16842752+i2u n,13503953896175478587,4354685564936845355,11912009170470909681,5840696475078001361,11170449401992604703,2270897969802886507^^^iy p (Int.toNat 0),6620516959819538809^^^iy p (Int.toNat 8)]=asE p n:=rfl
    have t1:∀ k,tab (oo b (asE p n) k) 8 0=oo b (asE p n) k:=λk=>jx (hE k)
    have t2:∀ k c l t,lay (oo b (asE p n) k) (dO (oo b (asE p n) k) c t l) 8 0=dO (oo b (asE p n) k) c t l:=λk c l t=>yj (hE k) (fS (hE k))
    simp only [PZ,JL,e1,e2,e3,eb,acM,l1,t1,t2,hE,Int.toNat_natCast]
    refine (ah ?_).trans rfl
    simp only [List.all_cons,List.all_nil,Bool.and_true,Bool.and_eq_true]
    exact ⟨acL hH hb,rfl,fH (by omega),rfl,acK (fS (hE _)) (by omega) (by omega)⟩
def JG:cj:=(sI.aI IC PZ)
theorem amb:ac Tryz.prog 63 JG:=aFn
theorem ama:aG JG:=aB
def SA:Env:=ay 63 JG rP
theorem C5:aQ Tryz.prog SA:=ag amb mT
theorem NF:ax SA:=ae ama Da
theorem Sz:aW Tryz.prog te SA:=aL follows ar C5 NF
def eO:aw:=⟨[.val true .elem,.val true .elem],[],true,0,false⟩
abbrev v8:Type:=((aa)×(aa)×Unit)×(Unit)
def oX:Shape:=⟨24,[(2,.ptr 0 0 0),(3,.ptr 1 0 0),(5,.val false .int)],[(0,.row .u64),(1,.row .u64)],0,true⟩
abbrev bi:Type:=((Unit)×(Unit)×(Int)×Unit)×((List (UInt64))×(List (UInt64))×Unit)
def kf:Shape:=⟨24,[(4,.val false .bool)],[],0,true⟩
abbrev iN:Type:=((Bool)×Unit)×(Unit)
def nq:Shape:=⟨24,[],[],0,true⟩
abbrev iO:Type:=(Unit)×(Unit)
def QI:SE->Option Shape:=fc [(0,nq)] (some kf)
def am1 (a5:Int) (c0:List (UInt64)) (c1:List (UInt64)):OT (Sum bi aE):=
 let z0:Bool:=inB a5 4
 let z1:Bool:=decide (Int.toNat a5+0<List.length c0)
 let z2:Bool:=decide (Int.toNat a5+0<List.length c1)
 let z3:UInt64:=List.getD c0 (Int.toNat a5+0) (0:UInt64)
 let z4:UInt64:=List.getD c1 (Int.toNat a5+0) (0:UInt64)
 (.br (decide ((0:Int)<=a5))
 (gd [z0,z1,z0,z2] (.br (!z3==z4)
  (gd [z0,z1,z0,z2] (.ok (.inr ⟨(.ret,kf),((decide (z3<z4),()),())⟩)))
  (gd [inR (a5-(1:Int))] (.ok (.inl (((),((),(a5-(1:Int),()))),(c0,(c1,()))))))))
 (.ok (.inr ⟨(.exit 0,nq),((),())⟩)))
def gw (s:bi):OT (Sum bi aE):=am1 (s.1.2.2.1) (s.2.1) (s.2.2.1)
theorem amY (s:bi) (Q:Sum bi aE->Prop):wps te SA av 1000 (aU (aj Tryz.f144) 0) (oX.inj s) (bU oX QI (Q:Sum oX.T aE->Prop))=(gw s).wpR Q:=by kernel_rfl
def oY (g0_r:bi->iN) (c0_r:bi->Bool) (g0_0:bi->iO) (s:bi):OT aE:=(.br (c0_r s) (.ok ⟨(.ret,kf),g0_r s⟩) (.ok ⟨(.exit 0,nq),g0_0 s⟩))
def lh:az:=⟨[.val false .bool],[],false⟩
def KH:SV->Option az:=λ_=>some lh
def KK (ok0:bi->Bool) (g0_r:bi->iN) (c0_r:bi->Bool) (g0_0:bi->iO) (a0:aa) (a1:aa):OT eO.Y:=
 let z0:(PUnit×PUnit×Int×PUnit)×List UInt64×List UInt64×PUnit:=(((),(),(3:Int),()),[a0.w0,a0.w1,a0.w2,a0.w3],[a1.w0,a1.w1,a1.w2,a1.w3],())
 (gd [ok0 z0] (.br (c0_r z0)
 (.ok ⟨lh,(((g0_r z0).fst.fst,()),())⟩)
 (.ok ⟨lh,((false,()),())⟩)))
theorem atL (ok0:bi->Bool) (g0_r:bi->iN) (c0_r:bi->Bool) (g0_0:bi->iO) (x:v8) (Q:eO.Y->Prop):wpf te SA (aO 0 (cf oX 0 ok0 (oY g0_r c0_r g0_0)) av) 1000 Tryz.f144 (eO.inp.inj x).tm (eO.inp.inj x).hp (fnK eO KH Q) (λ_ _=>False)=(KK ok0 g0_r c0_r g0_0 (x.1.1) (x.1.2.1)).wpR Q:=by kernel_rfl
theorem Yw (ok0:bi->Bool) (g0_r:bi->iN) (c0_r:bi->Bool) (g0_0:bi->iO) (h0:∀ s:bi,ok0 s=true->∃ m e,al (gw) m s=some e/\(oY g0_r c0_r g0_0 s).run=some e) (pre:v8->Bool) (F:v8->OT eO.Y) (hF:∀ (x:v8) oy,pre x=true->(F x).run=some oy->(KK ok0 g0_r c0_r g0_0 (x.1.1) (x.1.2.1)).run=some oy):ac Tryz.prog 144 (eO.aI pre F):=
 aD ar C5 Sz (f:=144) (fn:=Tryz.f144) (c:=aj Tryz.f144) (by kernel_rfl) (by kernel_rfl) (by kernel_rfl) (S:=eO) (k:=0) (by kernel_rfl) (λR hR=>(aA (c:=(aj Tryz.f144)) (by kernel_rfl) (id:=0) (by kernel_rfl) (aP ar C5 Sz (sh:=oX) hR (xs:=QI) (aC (by kernel_rfl) (by kernel_rfl) hR) aM af (n:=1000) (T:=gw) (λs Q=>amY s Q) (ok:=ok0) (f:=oY g0_r c0_r g0_0) h0) af)) (n:=1000) (sel:=KH) (λv o h=>by cases h;rfl) (pre:=pre) (F:=F) (T:=λx=>KK ok0 g0_r c0_r g0_0 (x.1.1) (x.1.2.1)) (λx Q=>atL ok0 g0_r c0_r g0_0 x Q) hF
def jy (a b:aa) (i:Int):bi:=(((),(),i,()),(lst a,lst b,()))
theorem IM (a b:aa) (k:Nat) (hk:k<4) (h:(lst a).getD k 0=(lst b).getD k 0):(gw (jy a b (k:Int))).run=some (.inl (jy a b ((k:Int)-1))):=by
 refine (OT.ao (decide_eq_true (by dsimp only [jy];omega))).trans ((ah ?_).trans ((OT.aq ?_).trans ((ah ?_).trans rfl)))
 ·simp only [jy,Int.toNat_natCast,Nat.add_zero,cN,List.all_cons,List.all_nil,Bool.and_true,Bool.and_eq_true]
  exact ⟨aN (by omega),decide_eq_true hk,aN (by omega),decide_eq_true hk⟩
 ·simp only [jy,Int.toNat_natCast,Nat.add_zero,h,beq_self_eq_true,Bool.not_true]
 ·simp only [jy,List.all_cons,List.all_nil,Bool.and_true]
  exact aH (by omega)
theorem v9 (a b:aa) (k:Nat) (hk:k<4) (h:¬(lst a).getD k 0=(lst b).getD k 0):(gw (jy a b (k:Int))).run=some (.inr ⟨(.ret,kf),((decide ((lst a).getD k 0<(lst b).getD k 0),()),())⟩):=by
 refine (OT.ao (decide_eq_true (by dsimp only [jy];omega))).trans ((ah ?_).trans ((OT.ao ?_).trans ((ah ?_).trans ?_)))
 ·simp only [jy,Int.toNat_natCast,Nat.add_zero,cN,List.all_cons,List.all_nil,Bool.and_true,Bool.and_eq_true]
  exact ⟨aN (by omega),decide_eq_true hk,aN (by omega),decide_eq_true hk⟩
 ·simp only [jy,Int.toNat_natCast,Nat.add_zero,beq_eq_false_iff_ne.2 h,Bool.not_false]
 ·simp only [jy,Int.toNat_natCast,Nat.add_zero,cN,List.all_cons,List.all_nil,Bool.and_true,Bool.and_eq_true]
  exact ⟨aN (by omega),decide_eq_true hk,aN (by omega),decide_eq_true hk⟩
 ·simp only [jy,Int.toNat_natCast,Nat.add_zero]
  rfl
def KJ (s:bi):Bool:=decide (s.1.2.2.1=3/\s.2.1.length=4/\s.2.2.1.length=4)
def EZ (s:bi):iN:=((Nat.blt (elemOf s.2.1).nat (elemOf s.2.2.1).nat,()),())
def md (s:bi):Bool:= !eqE (elemOf s.2.1) (elemOf s.2.2.1)
def E1 (_:bi):iO:=((),())
theorem Uc {a b:aa} (h:¬a=b) {r:Bool} (hr:r=Nat.blt a.nat b.nat) (hm:∃ m,al gw m (jy a b 3)=some ⟨(.ret,kf),((r,()),())⟩):
 ∃ m e,al gw m (jy a b 3)=some e/\(oY EZ md E1 (jy a b 3)).run=some e:=by
 obtain ⟨m,hm⟩:=hm
 refine ⟨m,_,hm,?_⟩
 have hc:md (jy a b 3)=true:=by
  show (!eqE a b)=true
  rw [Bool.eq_false_iff.2 λe=>h (zM.1 e)]
  rfl
 subst hr
 exact OT.ao hc
theorem am0:∀ s:bi,KJ s=true->∃ m e,al gw m s=some e/\(oY EZ md E1 s).run=some e:=by
 rintro ⟨⟨⟨⟩,⟨⟩,i,⟨⟩⟩,⟨l1,l2,⟨⟩⟩⟩ h
 have h':=of_decide_eq_true h
 dsimp only at h'
 obtain ⟨rfl,h1,h2⟩:=h'
 obtain ⟨a,rfl⟩:∃ a,l1=lst a:=⟨elemOf l1,(aS h1).symm⟩
 obtain ⟨b,rfl⟩:∃ a,l2=lst a:=⟨elemOf l2,(aS h2).symm⟩
 have ha0:=a.w0.toNat_lt
 have hb0:=b.w0.toNat_lt
 have ha1:=a.w1.toNat_lt
 have hb1:=b.w1.toNat_lt
 have ha2:=a.w2.toNat_lt
 have hb2:=b.w2.toNat_lt
 by_cases h3:a.w3=b.w3
 ·have s3:=IM a b 3 (by omega) h3
  by_cases h2:a.w2=b.w2
  ·have s2:=IM a b 2 (by omega) h2
   by_cases h1:a.w1=b.w1
   ·have s1:=IM a b 1 (by omega) h1
    by_cases h0:a.w0=b.w0
    ·have s0:=IM a b 0 (by omega) h0
     have e:a=b:=by cases a;cases b;simp_all
     have sx:(gw (jy a b (((0:Nat):Int)-1))).run=some (.inr ⟨(.exit 0,nq),((),())⟩):=OT.aq (decide_eq_false (by dsimp only [jy];omega))
     refine ⟨_,_,aF s3 (aF s2 (aF s1 (aF s0 (aK sx)))),?_⟩
     have hc:md (((),(),3,()),(lst a,lst b,()))=false:=by
      show (!eqE a b)=false
      rw [e,akU]
      rfl
     exact OT.aq hc
    ·refine Uc (λe=>h0 (by rw [e])) (uR ?_) ⟨_,aF s3 (aF s2 (aF s1 (aK (v9 a b 0 (by omega) h0))))⟩
     show a.nat<b.nat ↔ a.w0.toNat<b.w0.toNat
     unfold Sx.aa.nat
     rw [h3,h2,h1]
     exact Ro.1
   ·refine Uc (λe=>h1 (by rw [e])) (uR ?_) ⟨_,aF s3 (aF s2 (aK (v9 a b 1 (by omega) h1)))⟩
    show a.nat<b.nat ↔ a.w1.toNat<b.w1.toNat
    unfold Sx.aa.nat
    rw [h3,h2]
    have k:=Ro (x:=a.w1.toNat) (y:=b.w1.toNat) (N:=b.w2.toNat+18446744073709551616*b.w3.toNat)
    exact (sj ha0 hb0 (k.2 (Fp h1))).1.trans k.1
  ·refine Uc (λe=>h2 (by rw [e])) (uR ?_) ⟨_,aF s3 (aK (v9 a b 2 (by omega) h2))⟩
   show a.nat<b.nat ↔ a.w2.toNat<b.w2.toNat
   unfold Sx.aa.nat
   rw [h3]
   have k:=Ro (x:=a.w2.toNat) (y:=b.w2.toNat) (N:=b.w3.toNat)
   have k1:=sj ha1 hb1 (k.2 (Fp h2))
   exact (sj ha0 hb0 k1.2).1.trans (k1.1.trans k.1)
 ·refine Uc (λe=>h3 (by rw [e])) (uR ?_) ⟨_,aK (v9 a b 3 (by omega) h3)⟩
  show a.nat<b.nat ↔ a.w3.toNat<b.w3.toNat
  unfold Sx.aa.nat
  have k2:=sj ha2 hb2 (Fp h3)
  have k1:=sj ha1 hb1 k2.2
  exact (sj ha0 hb0 k1.2).1.trans (k1.1.trans k2.1)
def KI (_:v8):Bool:=true
def Yx (x:v8):OT eO.Y:=.ok ⟨lh,((Nat.blt x.1.1.nat x.1.2.1.nat,()),())⟩
theorem amZ:ac Tryz.prog 144 (eO.aI KI Yx):=Yw KJ EZ md E1 am0 _ _ λx oy _ ho=>by
 rw [<-ho]
 clear ho
 obtain ⟨⟨a,b,⟨⟩⟩,⟨⟩⟩:=x
 refine (ah ?_).trans ?_
 ·simp only [List.all_cons,List.all_nil,Bool.and_true]
  exact decide_eq_true ⟨rfl,rfl,rfl⟩
 ·rcases (Bool.eq_false_or_eq_true (eqE a b)).symm with h|h
  ·have hc:md (((),(),3,()),(lst a,lst b,()))=true:=by
    show (!eqE a b)=true
    rw [h]
    rfl
   exact OT.ao hc
  ·have hc:md (((),(),3,()),(lst a,lst b,()))=false:=by
    show (!eqE a b)=false
    rw [h]
    rfl
   refine (OT.aq hc).trans ?_
   have e:Nat.blt a.nat b.nat=false:=by
    rw [zM.1 h]
    cases hb:Nat.blt b.nat b.nat
    ·rfl
    ·exact absurd (dW hb) (Nat.lt_irrefl _)
   show (OT.ok ⟨lh,((false,()),())⟩:OT eO.Y).run=(OT.ok ⟨lh,((Nat.blt a.nat b.nat,()),())⟩:OT eO.Y).run
   rw [e]
def tn:cj:=(eO.aI KI Yx)
theorem Ub:ac Tryz.prog 144 tn:=amZ
theorem Ua:aG tn:=aB
def qg:Env:=ay 144 tn SA
theorem nU:aQ Tryz.prog qg:=ag Ub C5
theorem yB:ax qg:=ae Ua NF
theorem Dq:aW Tryz.prog te qg:=aL follows ar nU yB
def fW:aw:=⟨[.val true .elem,.val true .elem],[],true,0,false⟩
abbrev vZ:Type:=((aa)×(aa)×Unit)×(Unit)
def oV:Shape:=⟨41,[(2,.ptr 0 0 0),(3,.ptr 1 0 0),(4,.ptr 2 0 0),(5,.ptr 3 0 0),(6,.val false .u64),(7,.val false .int)],[(0,.row .u64),(1,.row .u64),(2,.row .u64),(3,.row .u64)],0,true⟩
abbrev bX:Type:=((Unit)×(Unit)×(Unit)×(Unit)×(UInt64)×(Int)×Unit)×((List (UInt64))×(List (UInt64))×(List (UInt64))×(List (UInt64))×Unit)
def np:Shape:=⟨41,[(4,.ptr 0 0 0),(5,.ptr 1 0 0)],[(0,.row .u64),(1,.row .u64)],0,true⟩
abbrev iL:Type:=((Unit)×(Unit)×Unit)×((List (UInt64))×(List (UInt64))×Unit)
def QD:SE->Option Shape:=fc [(0,np)] none
def amX (a6:UInt64) (a7:Int) (c0:List (UInt64)) (c1:List (UInt64)) (c2:List (UInt64)) (c3:List (UInt64)):OT (Sum bX aE):=
 let z0:Bool:=inB a7 4
 let z1:Bool:=decide (Int.toNat a7+0<List.length c0)
 let z2:Bool:=decide (Int.toNat a7+0<List.length c1)
 let z3:UInt64:=List.getD c0 (Int.toNat a7+0) (0:UInt64)
 let z4:UInt64:=List.getD c1 (Int.toNat a7+0) (0:UInt64)
 let z5:Bool:=decide (Int.toNat a7+0<List.length c3)
 let z6:Bool:=inR (a7+(1:Int))
 let z7:UInt64:=z3-z4
 let z8:List UInt64:=List.set c3 (Int.toNat a7+0) (z7-a6)
 (.br (decide (a7<(4:Int)))
 (gd [z0,z1,z0,z2,z0,z1,z0,z2] (.br (decide (z3<z4))
  (gd [z0,z5,z6] (.ok (.inl (((),((),((),((),((1:UInt64),(a7+(1:Int),())))))),(c0,(c1,(c2,(z8,()))))))))
  (.br (decide (z7<a6))
   (gd [z0,z5,z6] (.ok (.inl (((),((),((),((),((1:UInt64),(a7+(1:Int),())))))),(c0,(c1,(c2,(z8,()))))))))
   (gd [z0,z5,z6] (.ok (.inl (((),((),((),((),((0:UInt64),(a7+(1:Int),())))))),(c0,(c1,(c2,(z8,())))))))))))
 (.ok (.inr ⟨(.exit 0,np),(((),((),())),(c2,(c3,())))⟩)))
def oW (s:bX):OT (Sum bX aE):=amX (s.1.2.2.2.2.1) (s.1.2.2.2.2.2.1) (s.2.1) (s.2.2.1) (s.2.2.2.1) (s.2.2.2.2.1)
theorem amU (s:bX) (Q:Sum bX aE->Prop):wps te qg av 1000 (aU (aj Tryz.f145) 0) (oV.inj s) (bU oV QD (Q:Sum oV.T aE->Prop))=(oW s).wpR Q:=by kernel_rfl
def vY (g0_0:bX->iL) (s:bX):OT aE:=(.ok ⟨(.exit 0,np),g0_0 s⟩)
def EX:az:=⟨[.val true .elem],[],false⟩
def KB:SV->Option az:=λ_=>some EX
def KE (ok0:bX->Bool) (g0_0:bX->iL) (a0:aa) (a1:aa):OT fW.Y:=
 let z0:(PUnit×PUnit×PUnit×PUnit×UInt64×Int×PUnit)×List UInt64×List UInt64×List UInt64×List UInt64×PUnit:=(((),(),(),(),(0:UInt64),(0:Int),()),[a0.w0,a0.w1,a0.w2,a0.w3],[a1.w0,a1.w1,a1.w2,a1.w3],[(0:UInt64),(0:UInt64),(0:UInt64),(0:UInt64)],[(0:UInt64),(0:UInt64),(0:UInt64),(0:UInt64)],())
 let z1:=(g0_0 z0).snd
 let z2:=z1.snd.fst
 let z3:=z1.fst
 let z4:List UInt64:=lay z3 z2 4 (0:UInt64)
 (gd [ok0 z0,decide (4<=List.length z2),decide ((4/1:Nat)+0<=List.length z3),decide (4<=List.length z4)] (.ok ⟨EX,(({w0:=List.getD z4 0 0,w1:=List.getD z4 1 0,w2:=List.getD z4 2 0,w3:=List.getD z4 3 0},()),())⟩))
theorem atG (ok0:bX->Bool) (g0_0:bX->iL) (x:vZ) (Q:fW.Y->Prop):wpf te qg (aO 0 (cf oV 0 ok0 (vY g0_0)) av) 1000 Tryz.f145 (fW.inp.inj x).tm (fW.inp.inj x).hp (fnK fW KB Q) (λ_ _=>False)=(KE ok0 g0_0 (x.1.1) (x.1.2.1)).wpR Q:=by kernel_rfl
theorem Yr (ok0:bX->Bool) (g0_0:bX->iL) (h0:∀ s:bX,ok0 s=true->∃ m e,al (oW) m s=some e/\(vY g0_0 s).run=some e) (pre:vZ->Bool) (F:vZ->OT fW.Y) (hF:∀ (x:vZ) oy,pre x=true->(F x).run=some oy->(KE ok0 g0_0 (x.1.1) (x.1.2.1)).run=some oy):ac Tryz.prog 145 (fW.aI pre F):=
 aD ar nU Dq (f:=145) (fn:=Tryz.f145) (c:=aj Tryz.f145) (by kernel_rfl) (by kernel_rfl) (by kernel_rfl) (S:=fW) (k:=0) (by kernel_rfl) (λR hR=>(aA (c:=(aj Tryz.f145)) (by kernel_rfl) (id:=0) (by kernel_rfl) (aP ar nU Dq (sh:=oV) hR (xs:=QD) (aC (by kernel_rfl) (by kernel_rfl) hR) aM af (n:=1000) (T:=oW) (λs Q=>amU s Q) (ok:=ok0) (f:=vY g0_0) h0) af)) (n:=1000) (sel:=KB) (λv o h=>by cases h;rfl) (pre:=pre) (F:=F) (T:=λx=>KE ok0 g0_0 (x.1.1) (x.1.2.1)) (λx Q=>atG ok0 g0_0 x Q) hF
def KD (s:bX):Bool:=decide (s.1.2.2.2.2.1=0/\s.1.2.2.2.2.2.1=0/\s.2.1.length=4/\s.2.2.1.length=4/\s.2.2.2.2.1= [0,0,0,0])
def QE (s:bX):iL:=(((),(),()),(s.2.2.2.1,(upto (xY s.2.1 s.2.2.1) ([0,0,0,0],0) 4).1,()))
theorem amW:∀ s:bX,KD s=true->∃ m e,al oW m s=some e/\(vY QE s).run=some e:=by
 rintro ⟨⟨⟨⟩,⟨⟩,⟨⟩,⟨⟩,c,i,⟨⟩⟩,⟨c0,c1,c2,c3,⟨⟩⟩⟩ h
 have h':=of_decide_eq_true h
 dsimp only at h'
 obtain ⟨rfl,rfl,h0,h1,rfl⟩:=h'
 have:=(aR (T:=oW) (λk s=>((((),(),(),(),s.2,(k:Int),()),(c0,c1,c2,s.1,())):bX)) (xY c0 c1)
  (λs=>(⟨(.exit 0,np),(((),(),()),(c2,s.1,()))⟩:aE)) 4 ([0,0,0,0],0) (λ_ s=>s.1.length=4/\s.2.toNat<=1) ⟨rfl,by decide⟩ (λk s hk hs=>⟨?_,?_⟩) (λs hs=> ?_)).1
 ·obtain ⟨m,hm⟩:=this
  exact ⟨m,_,hm,rfl⟩
 ·obtain ⟨o,c⟩:=s
  dsimp only at hs
  refine (OT.ao (decide_eq_true (by dsimp only;omega))).trans ((ah ?_).trans ?_)
  ·simp only [Int.toNat_natCast,Nat.add_zero,h0,h1,hs.1,List.all_cons,List.all_nil,Bool.and_true,Bool.and_eq_true]
   exact ⟨aN (by omega),decide_eq_true (by omega),aN (by omega),decide_eq_true (by omega),aN (by omega),decide_eq_true (by omega),aN (by omega),decide_eq_true (by omega)⟩
  ·have hi:∀ z,(gd [inB (k:Int) 4,decide (Int.toNat (k:Int)+0<o.length),inR ((k:Int)+1)] z:OT (Sum bX aE)).run=z.run:=λz=>ah (by
    simp only [List.all_cons,List.all_nil,Bool.and_true,Bool.and_eq_true,Int.toNat_natCast,Nat.add_zero]
    exact ⟨aN (by omega),decide_eq_true (by omega),aH (by omega)⟩)
   have hw:=Rh (x:=c0.getD k 0) (y:=c1.getD k 0) hs.2
   by_cases hx:c0.getD k 0<c1.getD k 0
   ·have hk1:=aj1 (c:=c) hx
    refine (OT.ao (decide_eq_true ?_)).trans ((hi _).trans ?_)
    ·simp only [Int.toNat_natCast,Nat.add_zero];exact hx
    ·simp only [OT.cT,Int.toNat_natCast,Nat.add_zero,xY,hw,hk1]
     rfl
   ·refine (OT.aq (decide_eq_false ?_)).trans ?_
    ·simp only [Int.toNat_natCast,Nat.add_zero];exact hx
    ·by_cases hd:c0.getD k 0-c1.getD k 0<c
     ·have hk2:=aj0 hx hd
      refine (OT.ao (decide_eq_true ?_)).trans ((hi _).trans ?_)
      ·simp only [Int.toNat_natCast,Nat.add_zero];exact hd
      ·simp only [OT.cT,Int.toNat_natCast,Nat.add_zero,xY,hw,hk2]
       rfl
     ·have hk3:=ajZ hx hd
      refine (OT.aq (decide_eq_false ?_)).trans ((hi _).trans ?_)
      ·simp only [Int.toNat_natCast,Nat.add_zero];exact hd
      ·simp only [OT.cT,Int.toNat_natCast,Nat.add_zero,xY,hw,hk3]
       rfl
 ·exact ⟨by simp only [xY,List.length_set];exact hs.1,yR⟩
 ·exact OT.aq (decide_eq_false (by dsimp only;omega))
def KC (_:vZ):Bool:=true
def KF (x:vZ):OT fW.Y:=.ok ⟨EX,(((eE x.1.1 x.1.2.1).1,()),())⟩
theorem amV:ac Tryz.prog 145 (fW.aI KC KF):=Yr KD QE amW _ _ λx oy hp ho=>by
 rw [<-ho]
 clear ho
 obtain ⟨⟨a,b,⟨⟩⟩,⟨⟩⟩:=x
 obtain ⟨_,hw⟩:=Ef a b
 refine (ah ?_).trans ?_
 ·simp only [List.all_cons,List.all_nil,Bool.and_true,Bool.and_eq_true]
  exact ⟨rfl,rfl,rfl,rfl⟩
 ·simp only [KF,hw]
  rfl
def tj:cj:=(fW.aI KC KF)
theorem T8:ac Tryz.prog 145 tj:=amV
theorem T7:aG tj:=aB
def qf:Env:=ay 145 tj qg
theorem nT:aQ Tryz.prog qf:=ag T8 nU
theorem yA:ax qf:=ae T7 yB
theorem Dn:aW Tryz.prog te qf:=aL follows ar nT yA
def fV:aw:=⟨[.val true .elem],[],true,0,false⟩
abbrev vU:Type:=((aa)×Unit)×(Unit)
def oT:Shape:=⟨27,[(1,.ptr 0 0 0),(2,.ptr 1 0 0),(4,.ptr 2 0 0),(5,.val false .u64),(6,.val false .int)],[(0,.row .u64),(1,.row .u64),(2,.row .u64)],0,true⟩
abbrev ca:Type:=((Unit)×(Unit)×(Unit)×(UInt64)×(Int)×Unit)×((List (UInt64))×(List (UInt64))×(List (UInt64))×Unit)
def nn:Shape:=⟨27,[(2,.ptr 0 0 0),(4,.ptr 1 0 0),(5,.val false .u64)],[(0,.row .u64),(1,.row .u64)],0,true⟩
abbrev iK:Type:=((Unit)×(Unit)×(UInt64)×Unit)×((List (UInt64))×(List (UInt64))×Unit)
def QA:SE->Option Shape:=fc [(0,nn)] none
def amQ (a5:UInt64) (a6:Int) (c0:List (UInt64)) (c1:List (UInt64)) (c2:List (UInt64)):OT (Sum ca aE):=
 let z0:Bool:=inB a6 4
 let z1:Bool:=decide (Int.toNat a6+0<List.length c0)
 let z2:UInt64:=List.getD c0 (Int.toNat a6+0) (0:UInt64)
 (.br (decide (a6<(4:Int)))
 (gd [z0,z1,z0,decide (Int.toNat a6+0<List.length c2),z0,z1,inR (a6+(1:Int))] (.ok (.inl (((),((),((),(bm z2 (63:Int),(a6+(1:Int),()))))),(c0,(c1,(List.set c2 (Int.toNat a6+0) (bR z2 (1:Int)|||a5),())))))))
 (.ok (.inr ⟨(.exit 0,nn),(((),((),(a5,()))),(c1,(c2,())))⟩)))
def oU (s:ca):OT (Sum ca aE):=amQ (s.1.2.2.2.1) (s.1.2.2.2.2.1) (s.2.1) (s.2.2.1) (s.2.2.2.1)
theorem amN (s:ca) (Q:Sum ca aE->Prop):wps te qf av 1000 (aU (aj Tryz.f143) 0) (oT.inj s) (bU oT QA (Q:Sum oT.T aE->Prop))=(oU s).wpR Q:=by kernel_rfl
def vT (g0_0:ca->iK) (s:ca):OT aE:=(.ok ⟨(.exit 0,nn),g0_0 s⟩)
def EU:az:=⟨[.val true .elem,.val false .bool],[],false⟩
def Kw:SV->Option az:=λ_=>some EU
def Kz (ok0:ca->Bool) (g0_0:ca->iK) (a0:aa):OT fV.Y:=
 let z0:(PUnit×PUnit×PUnit×UInt64×Int×PUnit)×List UInt64×List UInt64×List UInt64×PUnit:=(((),(),(),(0:UInt64),(0:Int),()),[a0.w0,a0.w1,a0.w2,a0.w3],[(0:UInt64),(0:UInt64),(0:UInt64),(0:UInt64)],[(0:UInt64),(0:UInt64),(0:UInt64),(0:UInt64)],())
 let z1:(PUnit×PUnit×UInt64×PUnit)×List UInt64×List UInt64×PUnit:=g0_0 z0
 let z2:=z1.snd
 let z3:=z2.snd.fst
 let z4:=z2.fst
 let z5:List UInt64:=lay z4 z3 4 (0:UInt64)
 (gd [ok0 z0,decide (4<=List.length z3),decide ((4/1:Nat)+0<=List.length z4),decide (4<=List.length z5)] (.ok ⟨EU,(({w0:=List.getD z5 0 0,w1:=List.getD z5 1 0,w2:=List.getD z5 2 0,w3:=List.getD z5 3 0},(z1.fst.snd.snd.fst==(1:UInt64),())),())⟩))
theorem atD (ok0:ca->Bool) (g0_0:ca->iK) (x:vU) (Q:fV.Y->Prop):wpf te qf (aO 0 (cf oT 0 ok0 (vT g0_0)) av) 1000 Tryz.f143 (fV.inp.inj x).tm (fV.inp.inj x).hp (fnK fV Kw Q) (λ_ _=>False)=(Kz ok0 g0_0 (x.1.1)).wpR Q:=by kernel_rfl
theorem Yn (ok0:ca->Bool) (g0_0:ca->iK) (h0:∀ s:ca,ok0 s=true->∃ m e,al (oU) m s=some e/\(vT g0_0 s).run=some e) (pre:vU->Bool) (F:vU->OT fV.Y) (hF:∀ (x:vU) oy,pre x=true->(F x).run=some oy->(Kz ok0 g0_0 (x.1.1)).run=some oy):ac Tryz.prog 143 (fV.aI pre F):=
 aD ar nT Dn (f:=143) (fn:=Tryz.f143) (c:=aj Tryz.f143) (by kernel_rfl) (by kernel_rfl) (by kernel_rfl) (S:=fV) (k:=0) (by kernel_rfl) (λR hR=>(aA (c:=(aj Tryz.f143)) (by kernel_rfl) (id:=0) (by kernel_rfl) (aP ar nT Dn (sh:=oT) hR (xs:=QA) (aC (by kernel_rfl) (by kernel_rfl) hR) aM af (n:=1000) (T:=oU) (λs Q=>amN s Q) (ok:=ok0) (f:=vT g0_0) h0) af)) (n:=1000) (sel:=Kw) (λv o h=>by cases h;rfl) (pre:=pre) (F:=F) (T:=λx=>Kz ok0 g0_0 (x.1.1)) (λx Q=>atD ok0 g0_0 x Q) hF
def aJ7 (a:List UInt64) (k:Nat) (s:List UInt64×UInt64):List UInt64×UInt64:=(s.1.set k (bR (a.getD k 0) 1|||s.2),bm (a.getD k 0) 63)
def Ky (s:ca):Bool:=decide (s.1.2.2.2.1=0/\s.1.2.2.2.2.1=0/\s.2.1.length=4/\s.2.2.2.1= [0,0,0,0])
def QB (s:ca):iK:=(((),(),(upto (aJ7 s.2.1) ([0,0,0,0],0) 4).2,()),(s.2.2.1,(upto (aJ7 s.2.1) ([0,0,0,0],0) 4).1,()))
theorem amP:∀ s:ca,Ky s=true->∃ m e,al oU m s=some e/\(vT QB s).run=some e:=by
 rintro ⟨⟨⟨⟩,⟨⟩,⟨⟩,c,i,⟨⟩⟩,⟨a,r,o,⟨⟩⟩⟩ h
 have h':=of_decide_eq_true h
 dsimp only at h'
 obtain ⟨rfl,rfl,ha,rfl⟩:=h'
 have:=(aR (T:=oU) (λk s=>((((),(),(),s.2,(k:Int),()),(a,r,s.1,())):ca)) (aJ7 a)
  (λs=>(⟨(.exit 0,nn),(((),(),s.2,()),(r,s.1,()))⟩:aE)) 4 ([0,0,0,0],0) (λ_ s=>s.1.length=4) rfl (λk s hk hs=>⟨?_,(List.length_set ..).trans hs⟩) (λs hs=> ?_)).1
 ·obtain ⟨m,hm⟩:=this
  exact ⟨m,_,hm,rfl⟩
 ·refine (OT.ao (decide_eq_true (by dsimp only;omega))).trans ((ah ?_).trans ?_)
  ·simp only [Int.toNat_natCast,Nat.add_zero,ha,hs,List.all_cons,List.all_nil,Bool.and_true,Bool.and_eq_true]
   exact ⟨aN (by omega),decide_eq_true (by omega),aN (by omega),decide_eq_true (by omega),aN (by omega),decide_eq_true (by omega),aH (by omega)⟩
  ·simp only [OT.cT,Int.toNat_natCast,Nat.add_zero]
   rfl
 ·exact OT.aq (decide_eq_false (by dsimp only;omega))
theorem aug (x:UInt64):x|||0=x:=by
 rw [<-UInt64.toNat_inj,UInt64.toNat_or]
 exact Nat.or_zero _
def Kx (_:vU):Bool:=true
def Yo (x:vU):OT fV.Y:=.ok ⟨EU,(((aX x.1.1 0).1,((aX x.1.1 0).2==1,())),())⟩
theorem amO:ac Tryz.prog 143 (fV.aI Kx Yo):=Yn Ky QB amP _ _ λx oy hp ho=>by
 rw [<-ho]
 clear ho
 obtain ⟨⟨a,⟨⟩⟩,⟨⟩⟩:=x
 refine (ah ?_).trans rfl
 simp only [List.all_cons,List.all_nil,Bool.and_true,Bool.and_eq_true]
 exact ⟨rfl,rfl,rfl,rfl⟩
def th:cj:=(fV.aI Kx Yo)
theorem T4:ac Tryz.prog 143 th:=amO
theorem T3:aG th:=aB
def qe:Env:=ay 143 th qf
theorem nS:aQ Tryz.prog qe:=ag T4 nT
theorem yz:ax qe:=ae T3 yA
theorem Dm:aW Tryz.prog te qe:=aL follows ar nS yz
def iM:aw:=⟨[.val true .elem],[],true,0,false⟩
abbrev EY:Type:=((aa)×Unit)×(Unit)
def tk:Shape:=⟨28,[(1,.ptr 0 0 0),(3,.own 1),(4,.val false .int),(5,.val false .u64),(6,.val false .int)],[(0,.row .u64),(1,.row .int)],0,true⟩
abbrev cG:Type:=((Unit)×(Unit)×(Int)×(UInt64)×(Int)×Unit)×((List (UInt64))×(List (Int))×Unit)
def qW:Shape:=⟨28,[(1,.ptr 0 0 0),(3,.own 1),(4,.val false .int)],[(0,.row .u64),(1,.row .int)],0,true⟩
abbrev ke:Type:=((Unit)×(Unit)×(Int)×Unit)×((List (UInt64))×(List (Int))×Unit)
def Ys:SE->Option Shape:=fc [(2,qW)] none
def atK (a4:Int) (a5:UInt64) (a6:Int) (c0:List (UInt64)) (c1:List (Int)):OT (Sum cG aE):=
 (.br (decide (a6<(64:Int)))
 (gd [decide ((List.length c1+1)*8<=140737488355328),inR (a6+(1:Int))] (.ok (.inl (((),((),(a4,(a5/(2:UInt64),(a6+(1:Int),()))))),(c0,(c1++ [u2i (a5%(2:UInt64))],()))))))
 (.ok (.inr ⟨(.exit 2,qW),(((),((),(a4,()))),(c0,(c1,())))⟩)))
def tl (s:cG):OT (Sum cG aE):=atK (s.1.2.2.1) (s.1.2.2.2.1) (s.1.2.2.2.2.1) (s.2.1) (s.2.2.1)
theorem atH (s:cG) (Q:Sum cG aE->Prop):wps te qe av 1000 (aU (aj Tryz.f142) 2) (tk.inj s) (bU tk Ys (Q:Sum tk.T aE->Prop))=(tl s).wpR Q:=by kernel_rfl
def BD (g2_2:cG->ke) (s:cG):OT aE:=(.ok ⟨(.exit 2,qW),(((g2_2 s).1.1,((g2_2 s).1.2.1,(s.1.2.2.1,()))),(g2_2 s).2)⟩)
def KG:az:=⟨[.own 0],[(0,.row .int)],false⟩
def QF:SV->Option az:=λ_=>some KG
def T9 (ok2:cG->Bool) (g2_2:cG->ke) (a0:aa):OT iM.Y:=
 let z0:Int×PUnit:=((0:Int),())
 let z1:(PUnit×PUnit×Int×UInt64×Int×PUnit)×List UInt64×List Int×PUnit:=(((),(),(0:Int),a0.w0,z0),[a0.w0,a0.w1,a0.w2,a0.w3],[],())
 let z2:=(g2_2 z1).snd
 let z3:=z2.fst
 let z4:(PUnit×PUnit×Int×UInt64×Int×PUnit)×List UInt64×List Int×PUnit:=(((),(),(0:Int)+(1:Int),List.getD z3 (Int.toNat ((0:Int)+(1:Int))+0) (0:UInt64),z0),z3,z2.snd.fst,())
 let z5:=(g2_2 z4).snd
 let z6:=z5.fst
 let z7:(PUnit×PUnit×Int×UInt64×Int×PUnit)×List UInt64×List Int×PUnit:=(((),(),(0:Int)+(1:Int)+(1:Int),List.getD z6 (Int.toNat ((0:Int)+(1:Int)+(1:Int))+0) (0:UInt64),z0),z6,z5.snd.fst,())
 let z8:=(g2_2 z7).snd
 let z9:=z8.fst
 let z10:(PUnit×PUnit×Int×UInt64×Int×PUnit)×List UInt64×List Int×PUnit:=(((),(),(0:Int)+(1:Int)+(1:Int)+(1:Int),List.getD z9 (Int.toNat ((0:Int)+(1:Int)+(1:Int)+(1:Int))+0) (0:UInt64),z0),z9,z8.snd.fst,())
 (gd [ok2 z1,decide (Int.toNat ((0:Int)+(1:Int))+0<List.length z3),ok2 z4,decide (Int.toNat ((0:Int)+(1:Int)+(1:Int))+0<List.length z6),ok2 z7,decide (Int.toNat ((0:Int)+(1:Int)+(1:Int)+(1:Int))+0<List.length z9),ok2 z10] (.ok ⟨KG,(((),()),((g2_2 z10).snd.snd.fst,()))⟩))
theorem aAr (ok2:cG->Bool) (g2_2:cG->ke) (x:EY) (Q:iM.Y->Prop):wpf te qe (aO 2 (cf tk 2 ok2 (BD g2_2)) av) 1000 Tryz.f142 (iM.inp.inj x).tm (iM.inp.inj x).hp (fnK iM QF Q) (λ_ _=>False)=(T9 ok2 g2_2 (x.1.1)).wpR Q:=by kernel_rfl
theorem adR (ok2:cG->Bool) (g2_2:cG->ke) (h2:∀ s:cG,ok2 s=true->∃ m e,al (tl) m s=some e/\(BD g2_2 s).run=some e) (pre:EY->Bool) (F:EY->OT iM.Y) (hF:∀ (x:EY) oy,pre x=true->(F x).run=some oy->(T9 ok2 g2_2 (x.1.1)).run=some oy):ac Tryz.prog 142 (iM.aI pre F):=
 aD ar nS Dm (f:=142) (fn:=Tryz.f142) (c:=aj Tryz.f142) (by kernel_rfl) (by kernel_rfl) (by kernel_rfl) (S:=iM) (k:=0) (by kernel_rfl) (λR hR=>(aA (c:=(aj Tryz.f142)) (by kernel_rfl) (id:=2) (by kernel_rfl) (aP ar nS Dm (sh:=tk) hR (xs:=Ys) (aC (by kernel_rfl) (by kernel_rfl) hR) aM af (n:=1000) (T:=tl) (λs Q=>atH s Q) (ok:=ok2) (f:=BD g2_2) h2) af)) (n:=1000) (sel:=QF) (λv o h=>by cases h;rfl) (pre:=pre) (F:=F) (T:=λx=>T9 ok2 g2_2 (x.1.1)) (λx Q=>aAr ok2 g2_2 x Q) hF
def apG (_:Nat) (q:List Int×UInt64):List Int×UInt64:=(q.1++ [u2i (q.2%2)],q.2/2)
def iu (v:UInt64) (n:Nat):List Int:=(List.range n).map λj=>((v.toNat/2^j%2:Nat):Int)
theorem dA (v:UInt64) (n:Nat):(iu v n).length=n:=by rw [iu,List.length_map,List.length_range]
theorem aGt (x:UInt64):u2i (x%2)=((x.toNat%2:Nat):Int):=by
 have e:(x%2).toNat=x.toNat%2:=by rw [UInt64.toNat_mod];rfl
 unfold u2i
 rw [e]
 rcases Nat.mod_two_eq_zero_or_one x.toNat with h|h<;>rw [h]<;>rfl
theorem aa8 (o:List Int) (v:UInt64):∀ n,(upto apG (o,v) n).1=o++iu v n/\(upto apG (o,v) n).2.toNat=v.toNat/2^n
 |0=>⟨(List.append_nil o).symm,by show v.toNat=_;rw [Nat.pow_zero,Nat.div_one]⟩
 |n+1=>by
  obtain ⟨h1,h2⟩:=aa8 o v n
  refine ⟨?_,?_⟩
  ·show (upto apG (o,v) n).1++ [u2i ((upto apG (o,v) n).2%2)]=_
   rw [aGt,h1,h2,List.append_assoc]
   unfold iu
   rw [List.range_succ,List.map_append]
   rfl
  ·show ((upto apG (o,v) n).2/2).toNat=_
   rw [UInt64.toNat_div,h2,Nat.pow_succ,<-Nat.div_div_eq_div_mul]
   rfl
def QH (s:cG):Bool:=decide (s.1.2.2.2.2.1=0/\s.2.2.1.length<=1000)
def Yv (s:cG):ke:=(((),(),s.1.2.2.1,()),(s.2.1,s.2.2.1++iu s.1.2.2.2.1 64,()))
theorem atJ:∀ s:cG,QH s=true->∃ m e,al tl m s=some e/\(BD Yv s).run=some e:=by
 rintro ⟨⟨⟨⟩,⟨⟩,i,v,j,⟨⟩⟩,⟨a,o,⟨⟩⟩⟩ h
 have h':=of_decide_eq_true h
 dsimp only at h'
 obtain ⟨rfl,ho⟩:=h'
 have:=(aR (T:=tl) (λk q=>((((),(),i,q.2,(k:Int),()),(a,q.1,())):cG)) apG
  (λq=>(⟨(.exit 2,qW),(((),(),i,()),(a,q.1,()))⟩:aE)) 64 (o,v) (λk q=>q.1.length=o.length+k) rfl (λk q hk hq=>⟨?_,?_⟩) (λq _=> ?_)).1
 ·obtain ⟨m,hm⟩:=this
  rw [(aa8 o v 64).1] at hm
  exact ⟨m,_,hm,rfl⟩
 ·have hq:q.1.length=o.length+k:=hq
  refine (OT.ao (decide_eq_true (by dsimp only;omega))).trans ((ah ?_).trans rfl)
  simp only [List.all_cons,List.all_nil,Bool.and_true,Bool.and_eq_true]
  exact ⟨decide_eq_true (by omega),aH (by omega)⟩
 ·show (q.1++ [u2i (q.2%2)]).length=_
  rw [List.length_append,show q.1.length=o.length+k from hq]
  rfl
 ·exact OT.aq (decide_eq_false (by dsimp only;omega))
def pR (a:aa):List Int:= []++iu a.w0 64++iu a.w1 64++iu a.w2 64++iu a.w3 64
def QG (_:EY):Bool:=true
def ajv (x:EY):OT iM.Y:=.ok ⟨KG,(((),()),(pR x.1.1,()))⟩
theorem atI:ac Tryz.prog 142 (iM.aI QG ajv):=adR QH Yv atJ _ _ λx oy hp ho=>by
 rw [<-ho]
 clear ho
 obtain ⟨⟨a,⟨⟩⟩,⟨⟩⟩:=x
 have l1:([]++iu a.w0 64).length=64:=by rw [List.nil_append,dA]
 have l2:([]++iu a.w0 64++iu a.w1 64).length=128:=by rw [List.length_append,l1,dA]
 have l3:([]++iu a.w0 64++iu a.w1 64++iu a.w2 64).length=192:=by rw [List.length_append,l2,dA]
 refine (ah ?_).trans rfl
 simp only [List.all_cons,List.all_nil,Bool.and_true,Bool.and_eq_true]
 exact ⟨rfl,rfl,decide_eq_true ⟨rfl,by show ([]++iu a.w0 64).length<=_;omega⟩,rfl,decide_eq_true ⟨rfl,by show ([]++iu a.w0 64++iu a.w1 64).length<=_;omega⟩,rfl,decide_eq_true ⟨rfl,by show ([]++iu a.w0 64++iu a.w1 64++iu a.w2 64).length<=_;omega⟩⟩
theorem tU {α:Type} (d:α) (x y:List α) (i:Nat):(i<x.length->(x++y).getD i d=x.getD i d)/\(x.length<=i->(x++y).getD i d=y.getD (i-x.length) d):=by
 refine ⟨λh=> ?_,λh=> ?_⟩
 ·rw [List.getD_eq_getElem?_getD,List.getD_eq_getElem?_getD,List.getElem?_append_left h]
 ·rw [List.getD_eq_getElem?_getD,List.getD_eq_getElem?_getD,List.getElem?_append_right h]
theorem AG (v:UInt64) {j:Nat} (h:j<64):(iu v 64).getD j 0=((v.toNat/2^j%2:Nat):Int):=by
 unfold iu
 rw [List.getD_eq_getElem?_getD,List.getElem?_map,List.getElem?_range h]
 rfl
theorem uT (a:aa):(pR a).length=256:=by
 unfold pR
 rw [List.length_append,List.length_append,List.length_append,List.length_append,dA,dA,dA,dA]
 rfl
theorem awU (a:aa) {i:Nat} (h:i<256):(pR a).getD i 0=((a.nat/2^i%2:Nat):Int):=by
 have l1:([]++iu a.w0 64).length=64:=by rw [List.nil_append,dA]
 have l2:([]++iu a.w0 64++iu a.w1 64).length=128:=by rw [List.length_append,l1,dA]
 have l3:([]++iu a.w0 64++iu a.w1 64++iu a.w2 64).length=192:=by rw [List.length_append,l2,dA]
 unfold pR
 by_cases h3:192<=i
 ·rw [(tU ..).2 (by omega),l3,AG _ (by omega)]
  have:=rI (a:=a) (q:=3) (r:=i-192) (by omega) (by omega)
  rw [show 64*3+(i-192)=i by omega] at this
  rw [<-this]
  rfl
 ·rw [(tU ..).1 (by omega)]
  by_cases h2:128<=i
  ·rw [(tU ..).2 (by omega),l2,AG _ (by omega)]
   have:=rI (a:=a) (q:=2) (r:=i-128) (by omega) (by omega)
   rw [show 64*2+(i-128)=i by omega] at this
   rw [<-this]
   rfl
  ·rw [(tU ..).1 (by omega)]
   by_cases h1:64<=i
   ·rw [(tU ..).2 (by omega),l1,AG _ (by omega)]
    have:=rI (a:=a) (q:=1) (r:=i-64) (by omega) (by omega)
    rw [show 64*1+(i-64)=i by omega] at this
    rw [<-this]
    rfl
   ·rw [(tU ..).1 (by omega),List.nil_append,AG _ (by omega)]
    have:=rI (a:=a) (q:=0) (r:=i) (by omega) (by omega)
    rw [show 64*0+i=i by omega] at this
    rw [<-this]
    rfl
def zc:cj:=(iM.aI QG ajv)
theorem Yu:ac Tryz.prog 142 zc:=atI
theorem Yt:aG zc:=aB
def xM:Env:=ay 142 zc qe
theorem rV:aQ Tryz.prog xM:=ag Yu nS
theorem Dp:ax xM:=ae Yt yz
theorem HN:aW Tryz.prog te xM:=aL follows ar rV Dp
def kv:aw:=⟨[.val true .elem,.val true .elem,.val true .elem],[],true,0,false⟩
abbrev QC:Type:=((aa)×(aa)×(aa)×Unit)×(Unit)
def BC:Shape:=⟨56,[(5,.ptr 0 0 0),(6,.ptr 1 0 0),(9,.own 2),(10,.ptr 3 0 0),(11,.val false .int)],[(0,.row .u64),(1,.row .u64),(2,.row .int),(3,.row .u64)],0,true⟩
abbrev cL:Type:=((Unit)×(Unit)×(Unit)×(Unit)×(Int)×Unit)×((List (UInt64))×(List (UInt64))×(List (Int))×(List (UInt64))×Unit)
def vW:Shape:=⟨56,[(6,.ptr 0 0 0),(10,.ptr 1 0 0)],[(0,.row .u64),(1,.row .u64)],0,true⟩
abbrev jH:Type:=((Unit)×(Unit)×Unit)×((List (UInt64))×(List (UInt64))×Unit)
def aju:SE->Option Shape:=fc [(0,vW)] none
def T6 (a11:Int) (c0:List (UInt64)) (c1:List (UInt64)) (c2:List (Int)) (c3:List (UInt64)):OT (Sum cL aE):=
 let z0:Nat:=List.length c3
 let z1:Nat:=List.length c2
 let z2:Nat:=Int.toNat a11
 let z3:aa×UInt64:=aX {w0:=List.getD c3 0 0,w1:=List.getD c3 1 0,w2:=List.getD c3 2 0,w3:=List.getD c3 3 0} (0:UInt64)
 let z4:Bool:=decide (4<=List.length c0)
 let z5:Bool:=decide ((4/1:Nat)+0<=z0)
 let z6:Bool:=inR (a11-(1:Int))
 let z7:=z3.fst
 let z8:=z7.w0
 let z9:=z7.w1
 let z10:=z7.w2
 let z11:=z7.w3
 let z12:aa:= {w0:=z8|||(1:UInt64),w1:=z9,w2:=z10,w3:=z11}
 let z13:aa:= {w0:=List.getD c0 0 0,w1:=List.getD c0 1 0,w2:=List.getD c0 2 0,w3:=List.getD c0 3 0}
 let z14:=(eE z12 z13).fst
 let z15:List UInt64:=List.set (List.set (List.set (List.set c3 0 z14.w0) 1 z14.w1) 2 z14.w2) 3 z14.w3
 let z16:Nat:=aa.nat z13
 let z17:Bool:=decide ((4/1:Nat)+0<=z0)
 let z18:=(eE z7 z13).fst
 let z19:List UInt64:=List.set (List.set (List.set (List.set c3 0 z18.w0) 1 z18.w1) 2 z18.w2) 3 z18.w3
 (.br (decide ((0:Int)<=a11))
 (gd [decide (4<=z0),inB a11 z1,decide (z2<z1)] (.br (List.getD c2 z2 (0:Int)==(1:Int))
  (.br (z3.snd==(1:UInt64))
   (gd [z4,z5,z6] (.ok (.inl (((),((),((),((),(a11-(1:Int),()))))),(c0,(c1,(c2,(z15,()))))))))
   (gd [z4] (.br (!Nat.blt (aa.nat z12) z16)
    (gd [z4,z5,z6] (.ok (.inl (((),((),((),((),(a11-(1:Int),()))))),(c0,(c1,(c2,(z15,()))))))))
    (gd [decide ((4/1:Nat)+0<=z0),z6] (.ok (.inl (((),((),((),((),(a11-(1:Int),()))))),(c0,(c1,(c2,(List.set (List.set (List.set (List.set c3 0 (z8|||(1:UInt64))) 1 z9) 2 z10) 3 z11,())))))))))))
  (.br (z3.snd==(1:UInt64))
   (gd [z4,z17,z6] (.ok (.inl (((),((),((),((),(a11-(1:Int),()))))),(c0,(c1,(c2,(z19,()))))))))
   (gd [z4] (.br (!Nat.blt (aa.nat z7) z16)
    (gd [z4,z17,z6] (.ok (.inl (((),((),((),((),(a11-(1:Int),()))))),(c0,(c1,(c2,(z19,()))))))))
    (gd [decide ((4/1:Nat)+0<=z0),z6] (.ok (.inl (((),((),((),((),(a11-(1:Int),()))))),(c0,(c1,(c2,(List.set (List.set (List.set (List.set c3 0 z8) 1 z9) 2 z10) 3 z11,())))))))))))))
 (.ok (.inr ⟨(.exit 0,vW),(((),((),())),(c1,(c3,())))⟩)))
def vX (s:cL):OT (Sum cL aE):=T6 (s.1.2.2.2.2.1) (s.2.1) (s.2.2.1) (s.2.2.2.1) (s.2.2.2.2.1)
theorem aAo (s:cL) (Q:Sum cL aE->Prop):wps te xM av 1000 (aU (aj Tryz.f107) 0) (BC.inj s) (bU BC aju (Q:Sum BC.T aE->Prop))=(vX s).wpR Q:=by kernel_rfl
def IL (g0_0:cL->jH) (s:cL):OT aE:=(.ok ⟨(.exit 0,vW),g0_0 s⟩)
def vV:az:=⟨[.val true .elem,.val false .int],[],false⟩
def Yp:SV->Option az:=λ_=>some vV
def EW (ok0:cL->Bool) (g0_0:cL->jH) (a0:aa) (a1:aa) (a2:aa):OT kv.Y:=
 let z0:(PUnit×PUnit×PUnit×PUnit×Int×PUnit)×List UInt64×List UInt64×List Int×List UInt64×PUnit:=(((),(),(),(),(511:Int),()),[a2.w0,a2.w1,a2.w2,a2.w3],[(0:UInt64),(0:UInt64),(0:UInt64),(0:UInt64)],pR a0++pR a1,[(0:UInt64),(0:UInt64),(0:UInt64),(0:UInt64)],())
 let z1:=(g0_0 z0).snd
 let z2:=z1.snd.fst
 let z3:=z1.fst
 let z4:List UInt64:=lay z3 z2 4 (0:UInt64)
 (.br (a2.w0==(0:UInt64)&&(a2.w1==(0:UInt64)&&(a2.w2==(0:UInt64)&&(a2.w3==(0:UInt64)&&true))))
 (.ok ⟨vV,(({w0:=0,w1:=0,w2:=0,w3:=0},((10:Int),())),())⟩)
 (gd [ok0 z0,decide (4<=List.length z2),decide ((4/1:Nat)+0<=List.length z3),decide (4<=List.length z4)] (.ok ⟨vV,(({w0:=List.getD z4 0 0,w1:=List.getD z4 1 0,w2:=List.getD z4 2 0,w3:=List.getD z4 3 0},((0:Int),())),())⟩)))
theorem aFU (ok0:cL->Bool) (g0_0:cL->jH) (x:QC) (Q:kv.Y->Prop):wpf te xM (aO 0 (cf BC 0 ok0 (IL g0_0)) av) 1000 Tryz.f107 (kv.inp.inj x).tm (kv.inp.inj x).hp (fnK kv Yp Q) (λ_ _=>False)=(EW ok0 g0_0 (x.1.1) (x.1.2.1) (x.1.2.2.1)).wpR Q:=by kernel_rfl
theorem amS (ok0:cL->Bool) (g0_0:cL->jH) (h0:∀ s:cL,ok0 s=true->∃ m e,al (vX) m s=some e/\(IL g0_0 s).run=some e) (pre:QC->Bool) (F:QC->OT kv.Y) (hF:∀ (x:QC) oy,pre x=true->(F x).run=some oy->(EW ok0 g0_0 (x.1.1) (x.1.2.1) (x.1.2.2.1)).run=some oy):ac Tryz.prog 107 (kv.aI pre F):=
 aD ar rV HN (f:=107) (fn:=Tryz.f107) (c:=aj Tryz.f107) (by kernel_rfl) (by kernel_rfl) (by kernel_rfl) (S:=kv) (k:=0) (by kernel_rfl) (λR hR=>(aA (c:=(aj Tryz.f107)) (by kernel_rfl) (id:=0) (by kernel_rfl) (aP ar rV HN (sh:=BC) hR (xs:=aju) (aC (by kernel_rfl) (by kernel_rfl) hR) aM af (n:=1000) (T:=vX) (λs Q=>aAo s Q) (ok:=ok0) (f:=IL g0_0) h0) af)) (n:=1000) (sel:=Yp) (λv o h=>by cases h;rfl) (pre:=pre) (F:=F) (T:=λx=>EW ok0 g0_0 (x.1.1) (x.1.2.1) (x.1.2.2.1)) (λx Q=>aFU ok0 g0_0 x Q) hF
def afW (x:Int):UInt64:=cond (x==1) 1 0
def Ba (m:aa) (L:List Int) (k:Nat) (r:aa):aa:=IF m r (afW (L.getD (511-k) 0))
theorem S3 (r:aa) (b:UInt64):((aX r b).2==1)= !((aX r b).2==0):=by
 have h:(aX r b).2.toNat<=1:=JD _
 rcases (show (aX r b).2.toNat=0\/(aX r b).2.toNat=1 by omega) with e|e
 ·have e2:(aX r b).2=0:=UInt64.toNat_inj.1 e
  rw [e2];rfl
 ·have e2:(aX r b).2=1:=UInt64.toNat_inj.1 e
  rw [e2];rfl
theorem AU (r:aa):(⟨(aX r 0).1.w0|||1,(aX r 0).1.w1,(aX r 0).1.w2,(aX r 0).1.w3⟩:aa)=(aX r 1).1:=by
 unfold aX
 dsimp only
 rw [aug]
def IK (m:aa) (c1:List UInt64) (L:List Int) (i:Int) (r:aa):cL:=(((),(),(),(),i,()),(lst m,c1,L,lst r,()))
theorem amR (m r:aa) (c1:List UInt64) {L:List Int} (hL:L.length=512) {k:Nat} (hk:k<512):(vX (IK m c1 L ((511:Int)-(k:Int)) r)).run=some (.inl (IK m c1 L ((511:Int)-((k+1:Nat):Int)) (Ba m L k r))):=by
 have e0:(511:Int)-(k:Int)=((511-k:Nat):Int):=by omega
 have e1:(511:Int)-((k+1:Nat):Int)=((511-k:Nat):Int)-1:=by omega
 have hr:inR (((511-k:Nat):Int)-1)=true:=aH (by omega)
 rw [e1,e0]
 unfold Ba
 show (T6 ((511-k:Nat):Int) (lst m) c1 L (lst r)).run=_
 unfold T6
 simp only [Int.toNat_natCast]
 refine (OT.ao (decide_eq_true (by omega))).trans ((ah ?_).trans ?_)
 ·simp only [List.all_cons,List.all_nil,Bool.and_true,Bool.and_eq_true]
  exact ⟨rfl,aN (by omega),decide_eq_true (by omega)⟩
 ·rcases (Bool.eq_false_or_eq_true (L.getD (511-k) 0==1)).symm with hb|hb
  ·have eb:afW (L.getD (511-k) 0)=0:=by unfold afW;rw [hb];rfl
   rw [eb]
   refine (OT.aq hb).trans ?_
   rcases (Bool.eq_false_or_eq_true ((aX r 0).2==0)).symm with g|g
   ·have e:IF m r 0=(eE (aX r 0).1 m).1:=by unfold IF;rw [g];rfl
    rw [e]
    exact (OT.ao (b:=(aX r 0).2==1) (by rw [S3,g];rfl)).trans ((ah (by rw [hr];rfl)).trans rfl)
   ·refine (OT.aq (b:=(aX r 0).2==1) (by rw [S3,g];rfl)).trans ((ah rfl).trans ?_)
    rcases (Bool.eq_false_or_eq_true (eE (aX r 0).1 m).2).symm with u|u
    ·have e:IF m r 0=(eE (aX r 0).1 m).1:=by unfold IF;rw [g,u];rfl
     rw [e]
     exact (OT.ao (b:= !(eE (aX r 0).1 m).2) (by rw [u];rfl)).trans ((ah (by rw [hr];rfl)).trans rfl)
    ·have e:IF m r 0=(aX r 0).1:=by unfold IF;rw [g,u];rfl
     rw [e]
     exact (OT.aq (b:= !(eE (aX r 0).1 m).2) (by rw [u];rfl)).trans ((ah (by rw [hr];rfl)).trans rfl)
  ·have eb:afW (L.getD (511-k) 0)=1:=by unfold afW;rw [hb];rfl
   rw [eb]
   refine (OT.ao hb).trans ?_
   rcases (Bool.eq_false_or_eq_true ((aX r 1).2==0)).symm with g|g
   ·have e:IF m r 1=(eE (aX r 1).1 m).1:=by unfold IF;rw [g];rfl
    rw [e,<-AU]
    exact (OT.ao (b:=(aX r 1).2==1) (by rw [S3,g];rfl)).trans ((ah (by rw [hr];rfl)).trans rfl)
   ·refine (OT.aq (b:=(aX r 1).2==1) (by rw [S3,g];rfl)).trans ((ah rfl).trans ?_)
    have u0:(eE ⟨(aX r 0).1.w0|||1,(aX r 0).1.w1,(aX r 0).1.w2,(aX r 0).1.w3⟩ m).2=(eE (aX r 1).1 m).2:=by rw [AU]
    rcases (Bool.eq_false_or_eq_true (eE (aX r 1).1 m).2).symm with u|u
    ·have e:IF m r 1=(eE (aX r 1).1 m).1:=by unfold IF;rw [g,u];rfl
     rw [e,<-AU]
     exact (OT.ao (b:= !(eE ⟨(aX r 0).1.w0|||1,(aX r 0).1.w1,(aX r 0).1.w2,(aX r 0).1.w3⟩ m).2) (by rw [u0,u];rfl)).trans ((ah (by rw [hr];rfl)).trans rfl)
    ·have e:IF m r 1=(aX r 1).1:=by unfold IF;rw [g,u];rfl
     rw [e,<-AU]
     exact (OT.aq (b:= !(eE ⟨(aX r 0).1.w0|||1,(aX r 0).1.w1,(aX r 0).1.w2,(aX r 0).1.w3⟩ m).2) (by rw [u0,u];rfl)).trans ((ah (by rw [hr];rfl)).trans rfl)
def KA (s:cL):Bool:=decide (s.1.2.2.2.2.1=511/\s.2.1.length=4/\s.2.2.2.1.length=512/\s.2.2.2.2.1.length=4)
def T5 (s:cL):jH:=(((),(),()),(s.2.2.1,lst (upto (Ba (elemOf s.2.1) s.2.2.2.1) (elemOf s.2.2.2.2.1) 512),()))
theorem aAq:∀ s:cL,KA s=true->∃ m e,al vX m s=some e/\(IL T5 s).run=some e:=by
 rintro ⟨⟨⟨⟩,⟨⟩,⟨⟩,⟨⟩,i,⟨⟩⟩,⟨c0,c1,L,c3,⟨⟩⟩⟩ h
 have h':=of_decide_eq_true h
 dsimp only at h'
 obtain ⟨rfl,h0,hL,h3⟩:=h'
 obtain ⟨m,rfl⟩:∃ a,c0=lst a:=⟨elemOf c0,(aS h0).symm⟩
 obtain ⟨r,rfl⟩:∃ a,c3=lst a:=⟨elemOf c3,(aS h3).symm⟩
 have:=(aR (T:=vX) (λk r=>IK m c1 L ((511:Int)-(k:Int)) r) (Ba m L)
  (λr=>(⟨(.exit 0,vW),(((),(),()),(c1,lst r,()))⟩:aE)) 512 r (λ_ _=>True) trivial (λk r hk _=>⟨amR m r c1 hL hk,trivial⟩) (λr _=> ?_)).1
 ·obtain ⟨n,hn⟩:=this
  exact ⟨n,_,hn,rfl⟩
 ·exact OT.aq (decide_eq_false (by dsimp only [IK];omega))
theorem Jz {α:Type} {f g:Nat->α->α} (x:α):∀ n,(∀ k,k<n->f k=g k)->upto f x n=upto g x n
 |0,_=>rfl
 |n+1,h=>by
  show f n (upto f x n)=g n (upto g x n)
  rw [Jz x n λk hk=>h k (by omega),h n (by omega)]
theorem W0 {α:Type} (f:Nat->α->α) (x:α) (a:Nat):∀ n,upto f x (a+n)=upto (λk=>f (a+k)) (upto f x a) n
 |0=>rfl
 |n+1=>by
  show f (a+n) (upto f x (a+n))=f (a+n) (upto (λk=>f (a+k)) (upto f x a) n)
  rw [W0 f x a n]
theorem aDq (a:aa) {i:Nat} (h:i<256):afW ((pR a).getD i 0)=O0 a i:=by
 have h1:=alw a h
 rw [awU a h]
 unfold afW
 rcases (show a.nat/2^i%2=0\/a.nat/2^i%2=1 by omega) with e|e
 ·rw [e] at h1⊢
  exact (UInt64.toNat_inj.1 h1).symm
 ·rw [e] at h1⊢
  exact (UInt64.toNat_inj.1 h1).symm
theorem aFB (m lo hi:aa):upto (Ba m (pR lo++pR hi)) ⟨0,0,0,0⟩ 512=acT m lo (acT m hi ⟨0,0,0,0⟩ 256) 256:=by
 have l0:=uT lo
 have a1:upto (Ba m (pR lo++pR hi)) ⟨0,0,0,0⟩ 256=acT m hi ⟨0,0,0,0⟩ 256:=by
  unfold acT
  refine Jz _ 256 λk hk=> ?_
  funext r
  unfold Ba
  rw [(tU ..).2 (by omega),l0,show 511-k-256=255-k by omega,aDq hi (by omega)]
 rw [show 512=256+256 from rfl,W0,a1]
 unfold acT
 refine Jz _ 256 λk hk=> ?_
 funext r
 unfold Ba
 rw [(tU ..).1 (by omega),show 511-(256+k)=255-k by omega,aDq lo (by omega)]
def Yq (_:QC):Bool:=true
def atE (x:QC):OT kv.Y:=.br (nB x.1.2.2.1) (.ok ⟨vV,((⟨0,0,0,0⟩,((10:Int),())),())⟩) (.ok ⟨vV,((azX x.1.1 x.1.2.1 x.1.2.2.1,((0:Int),())),())⟩)
theorem amT {ok0:cL->Bool} {g0:cL->jH} {a b m R:aa} (h:nB m=false)
 (h1:ok0 (((),(),(),(),511,()),(lst m,lst ⟨0,0,0,0⟩,pR a++pR b,lst ⟨0,0,0,0⟩,()))=true)
 (e1:(g0 (((),(),(),(),511,()),(lst m,lst ⟨0,0,0,0⟩,pR a++pR b,lst ⟨0,0,0,0⟩,()))).2=(lst ⟨0,0,0,0⟩,lst R,())):
 (EW ok0 g0 a b m).run=some ⟨vV,((R,((0:Int),())),())⟩:=by
 have l:∀ e:aa,lst e= [e.w0,e.w1,e.w2,e.w3]:=λ_=>rfl
 rw [l m,l ⟨0,0,0,0⟩] at h1 e1
 unfold EW
 simp only [e1,h1]
 exact (OT.aq h).trans ((ah rfl).trans rfl)
theorem aAp:ac Tryz.prog 107 (kv.aI Yq atE):=amS KA T5 aAq _ _ λx oy hp ho=>by
 rw [<-ho]
 clear ho
 obtain ⟨⟨a,b,m,⟨⟩⟩,⟨⟩⟩:=x
 show (EW KA T5 a b m).run=(OT.br (nB m) _ _:OT kv.Y).run
 rcases (Bool.eq_false_or_eq_true (nB m)).symm with h|h
 ·have hl:(pR a++pR b).length=512:=by rw [List.length_append,uT,uT]
  refine Eq.trans (amT (R:=upto (Ba m (pR a++pR b)) ⟨0,0,0,0⟩ 512) h (decide_eq_true ⟨rfl,rfl,hl,rfl⟩) rfl) ?_
  rw [aFB,ai5 (Rb h),h]
  rfl
 ·exact (OT.ao h).trans (OT.ao (b:=nB m) h).symm
def EV:cj:=(kv.aI Yq atE)
theorem adQ:ac Tryz.prog 107 EV:=aAp
theorem adP:aG EV:=aB
def NY:Env:=ay 107 EV xM
theorem Gz:aQ Tryz.prog NY:=ag adQ rV
theorem HM:ax NY:=ae adP Dp
theorem agn:aW Tryz.prog te NY:=aL follows ar Gz HM
def iB:aw:=⟨[.val false .int,.val false (.list .u8)],[],true,0,false⟩
abbrev EB:Type:=((Int)×(List (UInt8))×Unit)×(Unit)
def oB:az:=⟨[.val true .elem,.val false .int],[],false⟩
def Qe:SV->Option az:=λ_=>some oB
def Bo (a0:Int) (a1:List (UInt8)):OT iB.Y:=
 let z0:Nat:=List.length a1
 let z1:Int:=(↑z0:Int)
 let z2:aa:= {w0:=0,w1:=0,w2:=0,w3:=0}
 let z3:List UInt8:=List.drop 0 (List.take 32 a1)
 let z4:List UInt8:=List.drop 32 a1
 let z5:aa:=(aY (Int.toNat a0)).fst
 (gd [lf ((a0,()),())] (.br (!z1==(64:Int))
 (.ok ⟨oB,((z2,((21:Int),())),())⟩)
 (gd [dH (0:Int) (32:Int) z0,ig ((z3,()),()),dH (32:Int) z1 z0,ig ((z4,()),())] (.br (nB z5)
  (.ok ⟨oB,((z2,((10:Int),())),())⟩)
  (.ok ⟨oB,((azX (Im z3) (Im z4) z5,((0:Int),())),())⟩)))))
theorem az6 (x:EB) (Q:iB.Y->Prop):wpf te NY av 1000 Tryz.f64 (iB.inp.inj x).tm (iB.inp.inj x).hp (fnK iB Qe Q) (λ_ _=>False)=(Bo (x.1.1) (x.1.2.1)).wpR Q:=by kernel_rfl
theorem ac3 (pre:EB->Bool) (F:EB->OT iB.Y) (hF:∀ (x:EB) oy,pre x=true->(F x).run=some oy->(Bo (x.1.1) (x.1.2.1)).run=some oy):ac Tryz.prog 64 (iB.aI pre F):=
 aD ar Gz agn (f:=64) (fn:=Tryz.f64) (c:=aj Tryz.f64) (by kernel_rfl) (by kernel_rfl) (by kernel_rfl) (S:=iB) (k:=0) (by kernel_rfl) (λR hR=>af) (n:=1000) (sel:=Qe) (λv o h=>by cases h;rfl) (pre:=pre) (F:=F) (T:=λx=>Bo (x.1.1) (x.1.2.1)) (λx Q=>az6 x Q) hF
def vK (x:EB):Bool:=ap x.1.1&&Ip x.1.2.1
def ajc (x:EB):OT iB.Y:=.ok ⟨oB,((aqr x.1.1 x.1.2.1,((0:Int),())),())⟩
theorem ac4 {s:Int} {b:List UInt8} {W:aa} (hW:azX (Im (List.drop 0 (b.take 32))) (Im (b.drop 32)) (aY s.toNat).1=W) (hs:ap s=true) (hl:Ip b=true):(Bo s b).run=some ⟨oB,((W,((0:Int),())),())⟩:=by
 unfold Bo
 simp only [hW]
 have hb:b.length=64:=LQ.1 hl
 refine (ah ?_).trans ((OT.aq (b:= !Ip b) (by rw [hl];rfl)).trans ((ah ?_).trans (OT.aq (ajL hs))))
 ·simp only [List.all_cons,List.all_nil,Bool.and_true]
  exact hs
 ·simp only [List.all_cons,List.all_nil,Bool.and_true,Bool.and_eq_true]
  exact ⟨fH (by omega),decide_eq_true (by show (List.drop 0 (b.take 32)).length=32;rw [List.drop_zero,List.length_take];omega),fH (by omega),decide_eq_true (by show (List.drop 32 b).length=32;rw [List.length_drop];omega)⟩
theorem as6:ac Tryz.prog 64 (iB.aI vK ajc):=ac3 _ _ λx oy hp ho=>by
 rw [<-ho]
 clear ho
 obtain ⟨⟨s,b,⟨⟩⟩,⟨⟩⟩:=x
 obtain ⟨hs,hl⟩:=(Bool.and_eq_true _ _).mp hp
 exact ac4 rfl hs hl
def y6:cj:=(iB.aI vK ajc)
theorem XO:ac Tryz.prog 64 y6:=as6
theorem XN:aG y6:=aB
def Df:Env:=ay 64 y6 NY
theorem Ae:aQ Tryz.prog Df:=ag XO Gz
theorem De:ax Df:=ae XN HM
theorem abz:aW Tryz.prog te Df:=aL follows ar Ae De
end Go.Proofs.YtohjofabochgfaaGreat

namespace Go.Proofs.YtohjofabochgfaaGreat
namespace Sx
open Go
def Ctx.tX (R:Ctx) (c:Nat) (ch:Ch) (b:Nat) (o:Obj):Ctx:=
 ⟨λb'=>if b'=b then some o else R.F b',R.U,R.σ,λc'=>if c'=c then some ch else R.hp c'⟩
theorem FG {R:Ctx} {w:World} (hm:dt R w) {c e:Nat} {t:Ty} {xs:List t.T} (hc:R.hp c=some ⟨e,.row t xs⟩):∃ R1,fy R R1 w [(c,⟨e,.frz t xs⟩)]:=by
 have h0:=hm.ch c _ hc
 cases hσ:R.σ c with
 |none=>
  simp only [eV,hσ] at h0
  obtain ⟨hpos,hl,rfl⟩:=h0
  have hx:R.Ext (R.upd c ⟨e,.frz t []⟩):=⟨λ_ _ h=>h,rfl,λc' ch' hc'=>by
   by_cases h1:c'=c
   ·subst h1
    rw [hc] at hc'
    cases hc'
    exact ⟨⟨e,.frz t []⟩,by simp only [Ctx.upd,if_true],Nat.le_refl e,λ_=>⟨rfl,rfl⟩⟩
   ·exact ⟨ch',by simp only [Ctx.upd,if_neg h1,hc'],Nat.le_refl _,λ_=>⟨rfl,rfl⟩⟩⟩
  refine ⟨R.upd c ⟨e,.frz t []⟩,hx,rfl,?_⟩
  refine dt.turn hm hx rfl rfl (λ_ _=>rfl) w.heap.size (λ_ _ _=>rfl) ⟨hm.Wo,hm.Wj,λn ch L hn h1 h2 h3=> ?_⟩ ?_ (λL h2=> ?_)
  ·have:=hm.lt h1 h2 h3;omega
  ·simp only [eV,Ctx.upd,hσ]
   exact ⟨hpos,hl,trivial⟩
  ·have h2:R.σ c=some L:=h2
   rw [hσ] at h2;cases h2
 |some L=>
  simp only [eV,hσ] at h0
  obtain ⟨hpos,hl,hF,hU,arr,E,k1,k2,k3,k4⟩:=h0
  have hx:R.Ext (R.tX c ⟨e,.frz t xs⟩ L.block (.cells arr E (0,0))):=⟨λb o' h=>by
   have:b≠L.block:=λe'=>by rw [e',hF] at h;cases h
   simp only [Ctx.tX,if_neg this,h],rfl,λc' ch' hc'=>by
    by_cases h1:c'=c
    ·subst h1
     rw [hc] at hc'
     cases hc'
     exact ⟨⟨e,.frz t xs⟩,by simp only [Ctx.tX,if_true],Nat.le_refl e,λ_=>⟨rfl,rfl⟩⟩
    ·exact ⟨ch',by simp only [Ctx.tX,if_neg h1,hc'],Nat.le_refl _,λ_=>⟨rfl,rfl⟩⟩⟩
  refine ⟨R.tX c ⟨e,.frz t xs⟩ L.block (.cells arr E (0,0)),hx,rfl,λb o' h=> ?_,λb o' h=>hm.U b o' h,λc' ch' hc'=> ?_,λc1 c2 ch1 ch2 L1 L2 g1 g2 g3 g4 g5 g6 g7=> ?_,λb o' h=> ?_,hm.env⟩
  ·simp only [Ctx.tX] at h
   split at h
   ·rename_i h1
    subst h1
    rw [k1];exact h
   ·exact hm.F b o' h
  ·by_cases h1:c'=c
   ·subst h1
    simp only [Ctx.tX,if_true] at hc'
    cases hc'
    simp only [eV,Ctx.tX,hσ]
    exact ⟨hpos,hl,arr,E,(0,0),by simp only [if_true],k2,k3,λi hi=>cn hx.F _ _ _ (k4 i hi)⟩
   ·simp only [Ctx.tX,if_neg h1] at hc'
    have hch:=hm.ch c' ch' hc'
    have hs:(R.tX c ⟨e,.frz t xs⟩ L.block (.cells arr E (0,0))).σ c'=R.σ c':=rfl
    have hblk:∀ L',R.σ c'=some L'->ch'.body.mut=true->L'.block≠L.block:=λL' h2 h3 h4=>h1 (hm.apart c' c _ _ _ _ hc' hc h3 rfl h2 hσ h4)
    have hFn:∀ b,b≠L.block->R.F b=none->(R.tX c ⟨e,.frz t xs⟩ L.block (.cells arr E (0,0))).F b=none:=λb h2 h3=>by simp only [Ctx.tX,if_neg h2,h3]
    obtain ⟨ep,body⟩:=ch'
    cases body with
    |row t ys=>
     simp only [eV] at hch⊢
     rw [hs]
     refine ⟨hch.1,hch.2.1,?_⟩
     replace hch:=hch.2.2
     cases hL:R.σ c' with
     |none=>rw [hL] at hch;exact hch
     |some L'=>
      rw [hL] at hch
      obtain ⟨c1,c2,arr,E,c3,c4,c5,c6⟩:=hch
      have hne:=hblk L' hL rfl
      exact ⟨hFn _ hne c1,c2,arr,E,c3,c4,c5,λi hi=>cn hx.F _ _ _ (c6 i hi)⟩
    |frz t ys=>
     simp only [eV] at hch⊢
     rw [hs]
     refine ⟨hch.1,hch.2.1,?_⟩
     replace hch:=hch.2.2
     cases hL:R.σ c' with
     |none=>rw [hL] at hch;exact hch
     |some L'=>
      rw [hL] at hch
      obtain ⟨arr,E,fz,c3,c4,c5,c6⟩:=hch
      exact ⟨arr,E,fz,hx.F _ _ c3,c4,c5,λi hi=>cn hx.F _ _ _ (c6 i hi)⟩
    |cells vs=>
     simp only [eV] at hch⊢
     obtain ⟨L',hL,c1,c2,arr,E,c3,c4,c5,c6,c7⟩:=hch
     have hne:=hblk L' hL rfl
     exact ⟨L',by rw [hs];exact hL,hFn _ hne c1,c2,arr,E,c3,c4,c5,SV.dN hx _ _ c6,c7⟩
  ·by_cases h1:c1=c
   ·subst h1
    simp only [Ctx.tX,if_true] at g1
    cases g1
    cases g3
   ·by_cases h2:c2=c
    ·subst h2
     simp only [Ctx.tX,if_true] at g2
     cases g2
     cases g4
    ·simp only [Ctx.tX,if_neg h1] at g1
     simp only [Ctx.tX,if_neg h2] at g2
     exact hm.apart _ _ _ _ _ _ g1 g2 g3 g4 g5 g6 g7
  ·simp only [Ctx.tX] at h
   split at h
   ·rename_i h1
    subst h1
    exact hU
   ·exact hm.FU b o' h
def ZL (k j:Nat) (s:cj):cj:=⟨true,λd args hp=>match args.getD k .bT with
 |.agg vs=>match vs.getD j .bT with
  |.own c e=>match eh hp c e with
   |some (.row t xs)=>(s.f d args (eu hp [(c,⟨e,.frz t xs⟩)])).map (Out.after [(c,⟨e,.frz t xs⟩)])
   |some _=>s.f d args hp
   |none=>.fail
  |_=>s.f d args hp
 |_=>s.f d args hp⟩
theorem avb {P:Program} {f:FuncId} {s:cj} {k j:Nat} (h:ac P f s):ac P f (ZL k j s):=by
 refine ⟨λR w d args vs out hm hr hrun=> ?_⟩
 simp only [ZL] at hrun
 split at hrun
 ·split at hrun
  ·rename_i c e hce
   split at hrun
   ·rename_i t xs hc
    obtain ⟨out',h1,rfl⟩:=OT.run_map hrun
    obtain ⟨R1,ha⟩:=FG hm (cH hc)
    rw [<-show R1.hp=eu R.hp [(c,⟨e,.frz t xs⟩)] from ha.hp] at h1
    have hr1:SV.bV R1 args vs:=SV.dN ha.ext _ _ hr
    have hpost:∀ en w',xX R1 out' en w'->xX R (Out.after [(c,⟨e,.frz t xs⟩)] out') en w':=λen w' hp=>by
     cases out' with
     |ret q=>
      obtain ⟨v,R',h2,h3,h4⟩:=hp
      exact ⟨v,R',h2,ha.trans h3,h4⟩
     |pan q u=>
      obtain ⟨v,R',h2,h3,h4⟩:=hp
      exact ⟨v,R',h2,ha.trans h3,h4⟩
    rcases h.calls R1 w d _ vs out' ha.mem hr1 h1 with ⟨fn,f1,f2,f3,hcl⟩|⟨v,w',hv,hp⟩
    ·exact .inl ⟨fn,f1,f2,f3,hcl.mono hpost⟩
    ·exact .inr ⟨v,w',hv,hpost _ _ hp⟩
   ·exact h.calls R w d args vs out hm hr hrun
   ·cases hrun
  ·exact h.calls R w d args vs out hm hr hrun
 ·exact h.calls R w d args vs out hm hr hrun
theorem aeQ {s:cj} {k j:Nat} (h:aG s):aG (ZL k j s):=λd args hp hp' out hg hrun=>by
 simp only [ZL] at hrun⊢
 split at hrun
 ·split at hrun
  ·split at hrun
   ·rename_i t xs hc
    rw [ct hg hc]
    simp only
    obtain ⟨out',h1,rfl⟩:=OT.run_map hrun
    refine aey (h d _ _ _ out' ⟨λn ch hn=> ?_,λn hn hn0=> ?_⟩ h1)
    ·simp only [eu] at hn⊢
     split
     ·rename_i h2;rw [if_pos h2] at hn;exact hn
     ·rename_i h2;rw [if_neg h2] at hn;exact hg.kN _ _ hn
    ·simp only [eu] at hn0⊢
     split
     ·rename_i h2;rw [if_pos h2] at hn0;cases hn0
     ·rename_i h2;rw [if_neg h2] at hn0;exact hg.free _ hn hn0
   ·rename_i b hnr hc
    rw [ct hg hc]
    cases b<;>first|exact h _ _ _ _ _ hg hrun|exact absurd rfl (hnr _ _)
   ·cases hrun
  ·exact h _ _ _ _ _ hg hrun
 ·exact h _ _ _ _ _ hg hrun
end Sx
end Go.Proofs.YtohjofabochgfaaGreat

namespace Go.Proofs.YtohjofabochgfaaGreat
namespace Sx
open Go
def asm:List SV->List Nat
 | []=> []
 |.own c _::r=>c::asm r
 |.part c _ _ _::r=>c::asm r
 |_::r=>asm r
def af9:SV->List Nat
 |.agg l=>asm l
 |.tup (.agg l::_)=>asm l
 |_=> []
def akp:List Nat->Hp->Hp
 | [],hp=>hp
 |c::r,hp=>akp r (match hp c with
  |some ⟨e,.row t xs⟩=>eu hp [(c,⟨e,.frz t xs⟩)]
  |_=>hp)
theorem ava {w:World}:∀ (l:List Nat) {R:Ctx},dt R w->∃ R1,R.Ext R1/\dt R1 w/\R1.hp=akp l R.hp
 | [],R,hm=>⟨R,Ctx.Ext.refl R,hm,rfl⟩
 |c::r,R,hm=>by
  have step:∃ R1,R.Ext R1/\dt R1 w/\R1.hp=(match R.hp c with
   |some ⟨e,.row t xs⟩=>eu R.hp [(c,⟨e,.frz t xs⟩)]
   |_=>R.hp):=by
   split
   ·rename_i e t xs hc
    obtain ⟨R1,h1⟩:=FG hm hc
    exact ⟨R1,h1.ext,h1.mem,h1.hp⟩
   ·exact ⟨R,Ctx.Ext.refl R,hm,rfl⟩
  obtain ⟨R1,a1,a2,a3⟩:=step
  obtain ⟨R2,b1,b2,b3⟩:=ava r a2
  refine ⟨R2,a1.trans b1,b2,?_⟩
  rw [b3,a3]
  rfl
section
variable {P:Program} {te:TE} {Φ:Env} (hte:mZ P te) (hΦ:aQ P Φ) (hany:aW P te Φ)
include hte hΦ hany
theorem aGN {f:FuncId} {fn:Func} {c:Code} (hf:P.funcs[f]? =some fn) (hb:fn.body=some c) (hname:(fn.name== "runtime.NumGoroutine")=false) {S:aw} {k:Nat} (hk:S.chunks.all (λc=>Nat.blt c.1 k&& !c.2.pq)=true) {Λ:Lam}
 (hΛ:∀ R,Small R k->yd P R Λ c) {n:Nat} {pre:S.T->Bool} {F:S.T->OT S.Y}
 (h:∀ x oy,pre x=true->(F x).run=some oy->∃ K,wpf te Φ Λ n fn (S.inp.inj x).tm (S.inp.inj x).hp K (λ_ _=>False)/\(∀ v hp,K v hp->oy.1.is oy.2 false v (akp (af9 v) hp))):ac P f (S.aI pre F):=by
 refine ⟨?_⟩
 intro R w d args vs out hm hr hrun
 refine .inl ⟨fn,hf,hname,by rw [hb];rfl,?_⟩
 simp only [aw.aI] at hrun
 split at hrun
 ·cases hrun
 ·rename_i x hx
  obtain ⟨hpre,h2⟩:=OT.aJ hrun
  obtain ⟨oy,h3,h4⟩:=OT.run_bind h2
  unfold aw.emit at h4
  dsimp only at h4
  obtain ⟨hend,h5⟩:=OT.aJ h4
  obtain ⟨K,hwp,hK1⟩:=h x oy hpre h3
  have hx':=hx
  unfold Shape.prj at hx'
  dsimp only at hx'
  cases hbo:S.inp.Jd ⟨args,R.hp⟩ (S.inp.bd ⟨args,R.hp⟩)&&Nat.beq args.length S.inp.n
  ·rw [hbo] at hx';cases hx'
  ·rw [hbo] at hx'
   rw [Bool.and_eq_true] at hbo
   obtain ⟨hx1,hx2⟩:=bn hx'
   have hlen:args.length=S.inp.n:=Nat.eq_of_beq_eq_true hbo.2
   have hN:=BU (s:=S.inp) (st:=⟨args,R.hp⟩) (F':=R.yk (S.inp.bd ⟨args,R.hp⟩) S.bz w) (U':=R.FA (S.inp.bd ⟨args,R.hp⟩) S.bz w) hbo.1 hx2 rfl hm (Cd hm) (tP hm) U2 (Cc hm) Cb akb hm.env
   have hargs:SV.bV (R.named (R.yk (S.inp.bd ⟨args,R.hp⟩) S.bz w) (R.FA (S.inp.bd ⟨args,R.hp⟩) S.bz w) (S.inp.bd ⟨args,R.hp⟩) (dq S.chunks x.2)) (S.inp.inj x).tm vs:=
    ij (s:=S.inp) (st:=⟨args,R.hp⟩) hbo.1 hx2 rfl hm (Cd hm) (tP hm) hr hx1 (SV.sQ (by rw [List.length_replicate,<-hlen];exact SV.aV hr) λi hi hi'=>by simp [SV.rel])
   have hsm:Small (R.named (R.yk (S.inp.bd ⟨args,R.hp⟩) S.bz w) (R.FA (S.inp.bd ⟨args,R.hp⟩) S.bz w) (S.inp.bd ⟨args,R.hp⟩) (dq S.chunks x.2)) k:=λc ch hc=>by
    obtain ⟨s,y',g1,g2,g3⟩:=dE hx2 (hc:dq S.chunks x.2 c=some ch)
    have:=(List.all_eq_true.1 hk) _ g1
    simp only [Bool.and_eq_true,Bool.not_eq_true'] at this
    refine ⟨dW this.1,?_⟩
    rw [g3]
    cases s<;>first|rfl|(cases this.2;done)
   refine (AF hte hΦ hany hf hb (hΛ _ hsm) hN hargs hwp).mono λen w' hp=> ?_
   rcases hp with ⟨y,v,R₁,rfl,hx1,hm1,hv,hy⟩|⟨y,v,R₁,rfl,hx1,hm1,hv,hy⟩
   ·replace hy:=hK1 _ _ hy
    obtain ⟨R₂,b1,b2,b3⟩:=ava (af9 y) hm1
    rw [<-b3] at hy
    obtain ⟨R',a1,a2⟩:=Z3 hm hx hk (hx1.trans b1) b2 (SV.Tp b1 _ _ hv) hy hend
    rw [hy.1] at h5
    cases h5
    exact ⟨v,R',rfl,a1,a2⟩
   ·exact hy.elim
def aJk (S:aw) (sel:SV->Option az) (Q:S.Y->Prop) (v:SV) (hp:Hp):Prop:=fnK S sel Q v (akp (af9 v) hp)
theorem akx {f:FuncId} {fn:Func} {c:Code} (hf:P.funcs[f]? =some fn) (hb:fn.body=some c) (hname:(fn.name== "runtime.NumGoroutine")=false) {S:aw} {k:Nat} (hk:S.chunks.all (λc=>Nat.blt c.1 k&& !c.2.pq)=true) {Λ:Lam}
 (hΛ:∀ R,Small R k->yd P R Λ c) {n:Nat} {sel:SV->Option az} (hsel:∀ v o,sel v=some o->o.pan=false) {pre:S.T->Bool} {F T:S.T->OT S.Y}
 (h:∀ x Q,wpf te Φ Λ n fn (S.inp.inj x).tm (S.inp.inj x).hp (aJk S sel Q) (λ_ _=>False)=(T x).wpR Q)
 (hF:∀ x oy,pre x=true->(F x).run=some oy->(T x).run=some oy):ac P f (S.aI pre F):=by
 refine aGN hte hΦ hany hf hb hname hk hΛ (n:=n) λx oy hp hr=>⟨aJk S sel (λz=>z=oy),?_,λv hp hq=> ?_⟩
 ·rw [h,OT.PO];exact OT.lz (hF x oy hp hr) rfl
 ·unfold aJk fnK at hq
  split at hq
  ·rename_i o ho
   split at hq
   ·rename_i y hy
    subst hq
    exact ⟨hsel v o ho,hy⟩
   ·exact hq.elim
  ·exact hq.elim
omit hte hΦ hany
def xh:cj:=⟨false,λ_ args hp=>match args with
 | [.own c e]=>match eh hp c e with
  |some (.row .u8 xs)=>.br (decide (0<xs.length)) (.ok (.ret ⟨.clip c e,[]⟩)) .fail
  |_=>.fail
 |_=>.fail⟩
theorem awh:aG xh:=λd args hp hp' out hg hrun=>by
 simp only [xh] at hrun⊢
 split at hrun
 ·split at hrun
  ·rename_i xs hx
   simp only [ct hg hx]
   exact hrun
  ·cases hrun
 ·cases hrun
include hte hΦ hany
theorem aHp {f:FuncId} {fn:Func} {c:Code} (hf:P.funcs[f]? =some fn) (hb:fn.body=some c) (hname:(fn.name== "runtime.NumGoroutine")=false) (hΛ:∀ R,yd P R av c) {n:Nat}
 (h:∀ (hp:Hp) (c e:Nat) (xs:List UInt8) (K:SV->Hp->Prop),eh hp c e=some (.row .u8 xs)->0<xs.length->K (.clip c e) hp->wpf te Φ av n fn [.own c e] hp K (λ_ _=>False)):ac P f xh:=by
 refine ⟨λR w d args vs out hm hr hrun=>.inl ⟨fn,hf,hname,by rw [hb];rfl,?_⟩⟩
 simp only [xh] at hrun
 split at hrun
 ·split at hrun
  ·rename_i c e _ xs hx
   cases hlen:decide (0<xs.length)
   ·rw [hlen] at hrun;cases hrun
   rw [hlen] at hrun
   cases hrun
   refine (AF (n:=n) (K:=λv hp=>v=.clip c e/\hp=R.hp) (Kp:=λ_ _=>False) hte hΦ hany hf hb (hΛ _) hm hr (h _ _ _ xs _ hx (of_decide_eq_true hlen) ⟨rfl,rfl⟩)).mono λen w' hp=> ?_
   rcases hp with ⟨x,v,R₁,rfl,hx1,hm1,hv,rfl,hy⟩|⟨x,v,R₁,rfl,hx1,hm1,hv,hy⟩
   ·exact ⟨v,R₁,rfl,⟨hx1,hy,hm1⟩,hv⟩
   ·exact hy.elim
  ·cases hrun
 ·cases hrun
end
theorem fR {te:TE} {Φ:Env} {ops:List Oper} {K:SE->St->Prop} {o:Oper} {r:List Oper} {tm tm':List SV} {hp:Hp} (v:SV) (hg:guarded ops tm o=some true) (hc:(Iq te Φ hp (o.dst.getD 100000) (St.eval ⟨tm,hp⟩) o.op).run=some (.ret ⟨v,[]⟩))
 (ht:E4 ⟨tm,hp⟩ o.dst v=tm') (h:kr te Φ ops K r ⟨tm',hp⟩):kr te Φ ops K (o::r) ⟨tm,hp⟩:=by
 subst ht
 simp only [kr,hg]
 exact OT.lz hc h
theorem aDC {te:TE} {Φ:Env} {Λ:Lam} {n i j:Nat} {a b:Array Oper} {st:St} {K:SE->St->Prop}:wps te Φ Λ (n+3) (.seq (.region i a false) (.seq (.region j b false) .ret)) st K=
 zH te Φ a.toList (λe st=>match e with
  |.normal=>zH te Φ b.toList (λe st=>match e with
   |.normal=>K .ret st
   |e=>K e st) b.toList st
  |e=>K e st) a.toList st:=rfl
end Sx
end Go.Proofs.YtohjofabochgfaaGreat

namespace Go.Proofs.YtohjofabochgfaaGreat
open Sx Go
set_option maxRecDepth 100000
def at7 (c:Code):Array Oper:=match c with
 |.seq (.region _ ops _) _=>ops
 |_=> #[]
def at6 (c:Code):Array Oper:=match c with
 |.seq _ (.seq (.region _ ops _) _)=>ops
 |_=> #[]
theorem aF3:(Tryz.f68).body=some (.seq (.region 0 (at7 (aj Tryz.f68)) false) (.seq (.region 1 (at6 (aj Tryz.f68)) false) .ret)):=by kernel_rfl
theorem aF2 (x:SV): [x]++List.replicate ((Tryz.f68).ntmps- [x].length) SV.undef= [x,.undef,.undef,.undef,.undef,.undef,.undef,.undef,.undef]:=by kernel_rfl
theorem at4 (hp:Hp) (c e:Nat):Pm te hp 25 (.own c e)=(match eI hp c e with|some n=>.ok (.int n)|none=>.fail):=by kernel_rfl
theorem at5 (hp:Hp) (c e:Nat) (n:Int):qA te hp 25 (.own c e) none (some (.int n)) (some (.int n))=.br (Le none (some (.int n)) (some (.int n))) (if (eI hp c e).isSome then .ok .emp else .fail) (match (none:Option SV),some (SV.int n),eI hp c e with
 |none,some (.int h),some m=>if dG hp c e=some 1 then .br (decide (h=(m:Int))&&decide (n=(m:Int))) (.ok (.clip c e)) (.guard (decide (0<=h)&&decide (h<=n)&&decide (n<=(m:Int))) (.ok (.part c e 0 h.toNat))) else .fail
 |_,_,_=>.fail):=by kernel_rfl
noncomputable def aF4 (k:Nat):Oper:=(at7 (aj Tryz.f68)).toList.getD k default
noncomputable def zm (k:Nat):Oper:=(at6 (aj Tryz.f68)).toList.getD k default
theorem aAJ:(at7 (aj Tryz.f68)).toList= [aF4 0]:=by kernel_rfl
theorem aAH:(at6 (aj Tryz.f68)).toList= [zm 0,zm 1,zm 2,zm 3,zm 4,zm 5,zm 6]:=by kernel_rfl
theorem aAG (hp:Hp) (c e:Nat) (xs:List UInt8) (K:SV->Hp->Prop) (hx:eh hp c e=some (.row .u8 xs)) (hl:0<xs.length) (hK:K (.clip c e) hp):
 wpf te Df av 1000 Tryz.f68 [.own c e] hp K (λ_ _=>False):=by
 have e1:eI hp c e=some xs.length:=by simp [eI,hx]
 have e2:dG hp c e=some 1:=by simp only [dG,hx];rfl
 have h1:Pm te hp 25 (.own c e)=.ok (.int xs.length):=by rw [at4,e1]
 have h2:(qA te hp 25 (.own c e) none (some (.int xs.length)) (some (.int xs.length))).run=some (.clip c e):=by
  rw [at5,e1]
  simp only [e2,if_true]
  refine (OT.aq ?_).trans (OT.ao (by simp))
  simp only [Le,Bool.and_self,decide_eq_false_iff_not]
  omega
 unfold wpf
 rw [aF3]
 dsimp only
 rw [aF2,aDC (n:=997),wO,aAJ]
 refine fR (.emp) (by kernel_rfl) (by kernel_rfl) (tm':= [.own c e,.undef,.emp,.undef,.undef,.undef,.undef,.undef,.undef]) (by kernel_rfl) ?_
 dsimp only [kr]
 rw [wO,aAH]
 refine fR (.own c e) (by kernel_rfl) (by kernel_rfl) (tm':= [.own c e,.undef,.emp,.own c e,.undef,.undef,.undef,.undef,.undef]) (by kernel_rfl) ?_
 refine fR (.own c e) (by kernel_rfl) (by kernel_rfl) (tm':= [.own c e,.undef,.emp,.own c e,.own c e,.undef,.undef,.undef,.undef]) (by kernel_rfl) ?_
 refine fR (.int xs.length) (by kernel_rfl) (Eq.trans (b:=(iP (Pm te hp 25 (.own c e))).run) (by kernel_rfl) (by rw [h1];rfl)) (tm':= [.own c e,.undef,.emp,.own c e,.own c e,.int xs.length,.undef,.undef,.undef]) (by kernel_rfl) ?_
 refine fR (.own c e) (by kernel_rfl) (by kernel_rfl) (tm':= [.own c e,.undef,.emp,.own c e,.own c e,.int xs.length,.own c e,.undef,.undef]) (by kernel_rfl) ?_
 refine fR (.int xs.length) (by kernel_rfl) (Eq.trans (b:=(iP (Pm te hp 25 (.own c e))).run) (by kernel_rfl) (by rw [h1];rfl)) (tm':= [.own c e,.undef,.emp,.own c e,.own c e,.int xs.length,.own c e,.int xs.length,.undef]) (by kernel_rfl) ?_
 refine fR (.clip c e) (by kernel_rfl) (Eq.trans (b:=(iP (qA te hp 25 (.own c e) none (some (.int xs.length)) (some (.int xs.length)))).run) (by kernel_rfl) (aey h2)) (tm':= [.own c e,.undef,.emp,.own c e,.own c e,.int xs.length,.own c e,.int xs.length,.clip c e]) (by kernel_rfl) ?_
 refine fR (.clip c e) (by kernel_rfl) (by kernel_rfl) (tm':= [.own c e,.undef,.clip c e,.own c e,.own c e,.int xs.length,.own c e,.int xs.length,.clip c e]) (by kernel_rfl) ?_
 exact hK
theorem aAI:ac Tryz.prog 68 xh:=
 aHp ar Ae abz (f:=68) (fn:=Tryz.f68) (c:=aj Tryz.f68) (by kernel_rfl) (by kernel_rfl) (by kernel_rfl) (λR=>af) (n:=1000) aAG
def Fi:cj:=xh
theorem ad6:ac Tryz.prog 68 Fi:=aAI
theorem ad5:aG Fi:=awh
def Al:Env:=ay 68 Fi Df
theorem qj:aQ Tryz.prog Al:=ag ad6 Ae
theorem HR:ax Al:=ae ad5 De
theorem Ak:aW Tryz.prog te Al:=aL follows ar qj HR
def fo:aw:=⟨[.val false .int,.val false .int,.val false (.list .u8)],[],true,0,false⟩
abbrev ww:Type:=((Int)×(Int)×(List (UInt8))×Unit)×(Unit)
def o6:Shape:=⟨87,[(0,.val false .int),(1,.val false .int),(6,.ptr 0 0 0),(10,.own 1),(38,.val false .int)],[(0,.cells [.val false .u64,.val false .u64,.val false .u64,.val false .u64,.val false .u64,.val false .u64,.val false .u64,.val false .u64,.val false .bool]),(1,.row .u8)],0,true⟩
abbrev cb:Type:=((Int)×(Int)×(Unit)×(Unit)×(Int)×Unit)×(((UInt64)×(UInt64)×(UInt64)×(UInt64)×(UInt64)×(UInt64)×(UInt64)×(UInt64)×(Bool)×Unit)×(List (UInt8))×Unit)
def ny:Shape:=⟨87,[(0,.val false .int),(6,.ptr 0 0 0),(10,.own 1)],[(0,.cells [.val false .u64,.val false .u64,.val false .u64,.val false .u64,.val false .u64,.val false .u64,.val false .u64,.val false .u64,.val false .bool]),(1,.row .u8)],0,true⟩
abbrev iU:Type:=((Int)×(Unit)×(Unit)×Unit)×(((UInt64)×(UInt64)×(UInt64)×(UInt64)×(UInt64)×(UInt64)×(UInt64)×(UInt64)×(Bool)×Unit)×(List (UInt8))×Unit)
def QY:SE->Option Shape:=fc [(1,ny)] none
def ans (a0:Int) (a1:Int) (a38:Int) (c0_0:UInt64) (c0_1:UInt64) (c0_2:UInt64) (c0_3:UInt64) (c0_4:UInt64) (c0_5:UInt64) (c0_6:UInt64) (c0_7:UInt64) (c0_8:Bool) (c1:List (UInt8)):OT (Sum cb aE):=
 (.br (decide (a38<(4:Int)))
 (gd [inR ((8:Int)*a38),decide ((0:Int)<=(8:Int)*a38),decide ((List.length c1+1)*1<=140737488355328),inR (a38+(1:Int))] (.ok (.inl ((a0,(a1,((),((),(a38+(1:Int),()))))),((c0_0,(c0_1,(c0_2,(c0_3,(c0_4,(c0_5,(c0_6,(c0_7,(c0_8,()))))))))),(c1++ [i2b (auP a1 ((8:Int)*a38))],()))))))
 (.ok (.inr ⟨(.exit 1,ny),((a0,((),((),()))),((c0_0,(c0_1,(c0_2,(c0_3,(c0_4,(c0_5,(c0_6,(c0_7,(c0_8,()))))))))),(c1,())))⟩)))
def o9 (s:cb):OT (Sum cb aE):=ans (s.1.1) (s.1.2.1) (s.1.2.2.2.2.1) (s.2.1.1) (s.2.1.2.1) (s.2.1.2.2.1) (s.2.1.2.2.2.1) (s.2.1.2.2.2.2.1) (s.2.1.2.2.2.2.2.1) (s.2.1.2.2.2.2.2.2.1) (s.2.1.2.2.2.2.2.2.2.1) (s.2.1.2.2.2.2.2.2.2.2.1) (s.2.2.1)
theorem ann (s:cb) (Q:Sum cb aE->Prop):wps te Al av 1000 (aU (aj Tryz.f29) 1) (o6.inj s) (bU o6 QY (Q:Sum o6.T aE->Prop))=(o9 s).wpR Q:=by kernel_rfl
def wv (g1_1:cb->iU) (s:cb):OT aE:=(.ok ⟨(.exit 1,ny),g1_1 s⟩)
def o5:Shape:=⟨87,[(0,.val false .int),(6,.ptr 0 0 0),(10,.own 1),(50,.val false .int)],[(0,.cells [.val false .u64,.val false .u64,.val false .u64,.val false .u64,.val false .u64,.val false .u64,.val false .u64,.val false .u64,.val false .bool]),(1,.row .u8)],0,true⟩
abbrev bj:Type:=((Int)×(Unit)×(Unit)×(Int)×Unit)×(((UInt64)×(UInt64)×(UInt64)×(UInt64)×(UInt64)×(UInt64)×(UInt64)×(UInt64)×(Bool)×Unit)×(List (UInt8))×Unit)
def fY:Shape:=⟨87,[(6,.ptr 0 0 0),(7,.val false .int)],[(0,.cells [.val false .u64,.val false .u64,.val false .u64,.val false .u64,.val false .u64,.val false .u64,.val false .u64,.val false .u64,.val false .bool])],0,true⟩
abbrev gC:Type:=((Unit)×(Int)×Unit)×(((UInt64)×(UInt64)×(UInt64)×(UInt64)×(UInt64)×(UInt64)×(UInt64)×(UInt64)×(Bool)×Unit)×Unit)
def nx:Shape:=⟨87,[(6,.ptr 0 0 0)],[(0,.cells [.val false .u64,.val false .u64,.val false .u64,.val false .u64,.val false .u64,.val false .u64,.val false .u64,.val false .u64,.val false .bool])],0,true⟩
abbrev gD:Type:=((Unit)×Unit)×(((UInt64)×(UInt64)×(UInt64)×(UInt64)×(UInt64)×(UInt64)×(UInt64)×(UInt64)×(Bool)×Unit)×Unit)
def QX:SE->Option Shape:=fc [(3,nx)] (some fY)
def anr (a0:Int) (a50:Int) (c0_0:UInt64) (c0_1:UInt64) (c0_2:UInt64) (c0_3:UInt64) (c0_4:UInt64) (c0_5:UInt64) (c0_6:UInt64) (c0_7:UInt64) (c0_8:Bool) (c1:List (UInt8)):OT (Sum bj aE):=
 let z0:Nat:=List.length c1
 let z1:List UInt8:=c1++ [i2b a50]
 let z2:Bool:=ap a0
 let z3:Nat:=aa.nat (aY (Int.toNat a0)).fst
 let z4:(aa×aa×Bool)×Int:=ap8 a0 (ap6 (ofN (aa.nat (aqr a0 (uS [(115:UInt8),(105:UInt8),(103:UInt8),(105:UInt8),(108:UInt8),(45:UInt8),(103:UInt8),(101:UInt8),(110:UInt8),(101:UInt8),(114:UInt8),(97:UInt8),(116:UInt8),(111:UInt8),(114:UInt8),(115:UInt8)] (64:Int) z1))%z3)))
 let z5:=z4.fst
 let z6:=z5.snd
 let z7:=z6.snd
 let z8:=z5.fst
 let z9:=z6.fst
 let z10:Bool:=inR (a50+(1:Int))
 let z11:(aa×aa×Bool)×Int:=ap8 a0 []
 let z12:=z11.fst
 let z13:=z12.snd
 let z14:=z13.snd
 let z15:Bool:= !z14
 let z16:=z12.fst
 let z17:=z16.w0
 let z18:=z16.w1
 let z19:=z16.w2
 let z20:=z16.w3
 let z21:=z13.fst
 let z22:=z21.w0
 let z23:=z21.w1
 let z24:=z21.w2
 let z25:=z21.w3
 let z26:(aa×aa×Bool)×Int:=ap8 a0 (ap6 (ofN (aa.nat {w0:=0,w1:=0,w2:=0,w3:=0}%z3)))
 let z27:=z26.fst
 let z28:=z27.snd
 let z29:=z28.snd
 let z30:=z27.fst
 let z31:=z28.fst
 (.br (decide (a50<(256:Int)))
 (gd [decide (0<z0),decide ((z0+1)*1<=140737488355328)&&decide (0<1),CH (([(115:UInt8),(105:UInt8),(103:UInt8),(105:UInt8),(108:UInt8),(45:UInt8),(103:UInt8),(101:UInt8),(110:UInt8),(101:UInt8),(114:UInt8),(97:UInt8),(116:UInt8),(111:UInt8),(114:UInt8),(115:UInt8)],(64:Int),z1,()),())] (.br (z2)
  (.br (z2)
   (.br (z4.snd==(0:Int))
    (.br (!z7)
     (.ok (.inr ⟨(.ret,fY),(((),((0:Int),())),((z8.w0,(z8.w1,(z8.w2,(z8.w3,(z9.w0,(z9.w1,(z9.w2,(z9.w3,(z7,()))))))))),()))⟩))
     (gd [z10] (.ok (.inl ((a0,((),((),(a50+(1:Int),())))),((c0_0,(c0_1,(c0_2,(c0_3,(c0_4,(c0_5,(c0_6,(c0_7,(c0_8,()))))))))),(c1,())))))))
    (gd [z10] (.ok (.inl ((a0,((),((),(a50+(1:Int),())))),((c0_0,(c0_1,(c0_2,(c0_3,(c0_4,(c0_5,(c0_6,(c0_7,(c0_8,()))))))))),(c1,())))))))
   (.br (z11.snd==(0:Int))
    (.br (z15)
     (.ok (.inr ⟨(.ret,fY),(((),((0:Int),())),((z17,(z18,(z19,(z20,(z22,(z23,(z24,(z25,(z14,()))))))))),()))⟩))
     (gd [z10] (.ok (.inl ((a0,((),((),(a50+(1:Int),())))),((c0_0,(c0_1,(c0_2,(c0_3,(c0_4,(c0_5,(c0_6,(c0_7,(c0_8,()))))))))),(c1,())))))))
    (gd [z10] (.ok (.inl ((a0,((),((),(a50+(1:Int),())))),((c0_0,(c0_1,(c0_2,(c0_3,(c0_4,(c0_5,(c0_6,(c0_7,(c0_8,()))))))))),(c1,()))))))))
  (.br (z2)
   (.br (z26.snd==(0:Int))
    (.br (!z29)
     (.ok (.inr ⟨(.ret,fY),(((),((0:Int),())),((z30.w0,(z30.w1,(z30.w2,(z30.w3,(z31.w0,(z31.w1,(z31.w2,(z31.w3,(z29,()))))))))),()))⟩))
     (gd [z10] (.ok (.inl ((a0,((),((),(a50+(1:Int),())))),((c0_0,(c0_1,(c0_2,(c0_3,(c0_4,(c0_5,(c0_6,(c0_7,(c0_8,()))))))))),(c1,())))))))
    (gd [z10] (.ok (.inl ((a0,((),((),(a50+(1:Int),())))),((c0_0,(c0_1,(c0_2,(c0_3,(c0_4,(c0_5,(c0_6,(c0_7,(c0_8,()))))))))),(c1,())))))))
   (.br (z11.snd==(0:Int))
    (.br (z15)
     (.ok (.inr ⟨(.ret,fY),(((),((0:Int),())),((z17,(z18,(z19,(z20,(z22,(z23,(z24,(z25,(z14,()))))))))),()))⟩))
     (gd [z10] (.ok (.inl ((a0,((),((),(a50+(1:Int),())))),((c0_0,(c0_1,(c0_2,(c0_3,(c0_4,(c0_5,(c0_6,(c0_7,(c0_8,()))))))))),(c1,())))))))
    (gd [z10] (.ok (.inl ((a0,((),((),(a50+(1:Int),())))),((c0_0,(c0_1,(c0_2,(c0_3,(c0_4,(c0_5,(c0_6,(c0_7,(c0_8,()))))))))),(c1,()))))))))))
 (.ok (.inr ⟨(.exit 3,nx),(((),()),((c0_0,(c0_1,(c0_2,(c0_3,(c0_4,(c0_5,(c0_6,(c0_7,(c0_8,()))))))))),()))⟩)))
def o8 (s:bj):OT (Sum bj aE):=anr (s.1.1) (s.1.2.2.2.1) (s.2.1.1) (s.2.1.2.1) (s.2.1.2.2.1) (s.2.1.2.2.2.1) (s.2.1.2.2.2.2.1) (s.2.1.2.2.2.2.2.1) (s.2.1.2.2.2.2.2.2.1) (s.2.1.2.2.2.2.2.2.2.1) (s.2.1.2.2.2.2.2.2.2.2.1) (s.2.2.1)
theorem anm (s:bj) (Q:Sum bj aE->Prop):wps te Al av 1000 (aU (aj Tryz.f29) 3) (o5.inj s) (bU o5 QX (Q:Sum o5.T aE->Prop))=(o8 s).wpR Q:=by kernel_rfl
def o7 (g3_r:bj->gC) (c3_r:bj->Bool) (g3_3:bj->gD) (s:bj):OT aE:=(.br (c3_r s) (.ok ⟨(.ret,fY),g3_r s⟩) (.ok ⟨(.exit 3,nx),g3_3 s⟩))
def ik:az:=⟨[.val true (.prod .elem (.prod .elem .bool)),.val false .int],[],false⟩
def K3:SV->Option az:=λ_=>some ik
def K6 (ok1:cb->Bool) (g1_1:cb->iU) (ok3:bj->Bool) (g3_r:bj->gC) (c3_r:bj->Bool) (g3_3:bj->gD) (a0:Int) (a1:Int) (a2:List (UInt8)):OT fo.Y:=
 let z0:aa:= {w0:=0,w1:=0,w2:=0,w3:=0}
 let z1:aa×aa×Bool:=(z0,z0,false)
 let z2:(Int×Int×PUnit×PUnit×Int×PUnit)×(UInt64×UInt64×UInt64×UInt64×UInt64×UInt64×UInt64×UInt64×Bool×PUnit)×List UInt8×PUnit:=((a0,a1,(),(),(0:Int),()),((0:UInt64),(0:UInt64),(0:UInt64),(0:UInt64),(0:UInt64),(0:UInt64),(0:UInt64),(0:UInt64),false,()),a2,())
 let z3:(Int×PUnit×PUnit×PUnit)×(UInt64×UInt64×UInt64×UInt64×UInt64×UInt64×UInt64×UInt64×Bool×PUnit)×List UInt8×PUnit:=g1_1 z2
 let z4:=z3.snd
 let z5:=z4.fst
 let z6:=z5.snd
 let z7:=z6.snd
 let z8:=z7.snd
 let z9:=z8.snd
 let z10:=z9.snd
 let z11:=z10.snd
 let z12:=z11.snd
 let z13:(Int×PUnit×PUnit×Int×PUnit)×(UInt64×UInt64×UInt64×UInt64×UInt64×UInt64×UInt64×UInt64×Bool×PUnit)×List UInt8×PUnit:=((z3.fst.fst,(),(),(0:Int),()),(z5.fst,z6.fst,z7.fst,z8.fst,z9.fst,z10.fst,z11.fst,z12.fst,z12.snd.fst,()),z4.snd.fst,())
 let z14:(PUnit×Int×PUnit)×(UInt64×UInt64×UInt64×UInt64×UInt64×UInt64×UInt64×UInt64×Bool×PUnit)×PUnit:=g3_r z13
 let z15:=z14.snd.fst
 let z16:=z15.snd
 let z17:=z16.snd
 let z18:=z17.snd
 let z19:=z18.snd
 let z20:=z19.snd
 let z21:=z20.snd
 let z22:=z21.snd
 (.br (ap a0)
 (.br (decide (a1<(0:Int)))
  (.ok ⟨ik,((z1,((60:Int),())),())⟩)
  (.br (decide ((2147483647:Int)<a1))
   (.ok ⟨ik,((z1,((60:Int),())),())⟩)
   (gd [lu ((a2,()),()),ok1 z2,ok3 z13] (.br (c3_r z13)
    (.ok ⟨ik,((({w0:=z15.fst,w1:=z16.fst,w2:=z17.fst,w3:=z18.fst},{w0:=z19.fst,w1:=z20.fst,w2:=z21.fst,w3:=z22.fst},z22.snd.fst),(z14.fst.snd.fst,())),())⟩)
    (.ok ⟨ik,((z1,((90:Int),())),())⟩)))))
 (.ok ⟨ik,((z1,((40:Int),())),())⟩))
theorem at0 (ok1:cb->Bool) (g1_1:cb->iU) (ok3:bj->Bool) (g3_r:bj->gC) (c3_r:bj->Bool) (g3_3:bj->gD) (x:ww) (Q:fo.Y->Prop):wpf te Al (aO 3 (cf o5 3 ok3 (o7 g3_r c3_r g3_3)) (aO 1 (cf o6 1 ok1 (wv g1_1)) av)) 1000 Tryz.f29 (fo.inp.inj x).tm (fo.inp.inj x).hp (fnK fo K3 Q) (λ_ _=>False)=(K6 ok1 g1_1 ok3 g3_r c3_r g3_3 (x.1.1) (x.1.2.1) (x.1.2.2.1)).wpR Q:=by kernel_rfl
theorem YW (ok1:cb->Bool) (g1_1:cb->iU) (ok3:bj->Bool) (g3_r:bj->gC) (c3_r:bj->Bool) (g3_3:bj->gD) (h1:∀ s:cb,ok1 s=true->∃ m e,al (o9) m s=some e/\(wv g1_1 s).run=some e) (h3:∀ s:bj,ok3 s=true->∃ m e,al (o8) m s=some e/\(o7 g3_r c3_r g3_3 s).run=some e) (pre:ww->Bool) (F:ww->OT fo.Y) (hF:∀ (x:ww) oy,pre x=true->(F x).run=some oy->(K6 ok1 g1_1 ok3 g3_r c3_r g3_3 (x.1.1) (x.1.2.1) (x.1.2.2.1)).run=some oy):ac Tryz.prog 29 (fo.aI pre F):=
 aD ar qj Ak (f:=29) (fn:=Tryz.f29) (c:=aj Tryz.f29) (by kernel_rfl) (by kernel_rfl) (by kernel_rfl) (S:=fo) (k:=0) (by kernel_rfl) (λR hR=>(aA (c:=(aj Tryz.f29)) (by kernel_rfl) (id:=3) (by kernel_rfl) (aP ar qj Ak (sh:=o5) hR (xs:=QX) (aC (by kernel_rfl) (by kernel_rfl) hR) aM af (n:=1000) (T:=o8) (λs Q=>anm s Q) (ok:=ok3) (f:=o7 g3_r c3_r g3_3) h3) (aA (c:=(aj Tryz.f29)) (by kernel_rfl) (id:=1) (by kernel_rfl) (aP ar qj Ak (sh:=o6) hR (xs:=QY) (aC (by kernel_rfl) (by kernel_rfl) hR) aM af (n:=1000) (T:=o9) (λs Q=>ann s Q) (ok:=ok1) (f:=wv g1_1) h1) af))) (n:=1000) (sel:=K3) (λv o h=>by cases h;rfl) (pre:=pre) (F:=F) (T:=λx=>K6 ok1 g1_1 ok3 g3_r c3_r g3_3 (x.1.1) (x.1.2.1) (x.1.2.2.1)) (λx Q=>at0 ok1 g1_1 ok3 g3_r c3_r g3_3 x Q) hF
def aeL:List UInt8:= [115,105,103,105,108,45,103,101,110,101,114,97,116,111,114,115]
def VB (b:List UInt8) (i:Int):List UInt8:=upto (λk l=>l++ [i2b (auP i (8*(k:Int)))]) b 4
def axv (c:Int) (b:List UInt8) (k:Nat):Pt×Int:=ap8 c (ap6 (ofN ((aqr c (uS aeL 64 (b++ [i2b (k:Int)]))).nat%(aY c.toNat).1.nat)))
def ao1 (d:Pt×Int):Bool:=cond (d.2==(0:Int)) (!d.1.2.2) false
def WO (c:Int) (b:List UInt8):Nat->Nat->Option Pt
 |0,_=>none
 |n+1,k=>cond (ao1 (axv c b k)) (some (axv c b k).1) (WO c b n (k+1))
def aHf (o:Option Pt):Pt×Int:=match o with
 |some p=>(p,0)
 |none=>(dC,90)
def jw (c i:Int) (b:List UInt8):Pt×Int:=cond (ap c) (cond (decide (i<0)) (dC,60) (cond (decide (2147483647<i)) (dC,60) (aHf (WO c (VB b i) 256 0)))) (dC,40)
theorem zO (b:List UInt8) (i:Int):(VB b i).length=b.length+4:=by
 simp only [VB,upto,List.length_append,List.length_cons,List.length_nil]
abbrev abt:Type:=UInt64×UInt64×UInt64×UInt64×UInt64×UInt64×UInt64×UInt64×Bool×Unit
def at1 (p:Pt):abt:=(p.1.w0,p.1.w1,p.1.w2,p.1.w3,p.2.1.w0,p.2.1.w1,p.2.1.w2,p.2.1.w3,p.2.2,())
def K5 (s:cb):Bool:=decide (s.1.2.2.2.2.1=0/\s.2.2.1.length<=140737488351232)
def Fe (s:cb):iU:=((s.1.1,(),(),()),(s.2.1,VB s.2.2.1 s.1.2.1,()))
theorem anq:∀ s:cb,K5 s=true->∃ m e,al o9 m s=some e/\(wv Fe s).run=some e:=by
 rintro ⟨⟨c,a,⟨⟩,⟨⟩,i,⟨⟩⟩,⟨z,b,⟨⟩⟩⟩ h
 have h':=of_decide_eq_true h
 dsimp only at h'
 obtain ⟨rfl,hl⟩:=h'
 have:=(aR (T:=o9) (λi l=>(((c,a,(),(),(i:Int),()),(z,l,())):cb)) (λk l=>l++ [i2b (auP a (8*(k:Int)))])
  (λl=>(⟨(.exit 1,ny),((c,(),(),()),(z,l,()))⟩:aE)) 4 b (λk l=>l.length=b.length+k) rfl (λi l hi hl'=>⟨?_,by simp [hl'];omega⟩) (λl hl'=> ?_)).1
 ·obtain ⟨m,hm⟩:=this
  exact ⟨m,_,hm,rfl⟩
 ·refine (OT.ao (decide_eq_true (by dsimp only;omega))).trans ((ah ?_).trans rfl)
  simp only [hl',List.all_cons,List.all_nil,Bool.and_true,Bool.and_eq_true]
  exact ⟨aH (by omega),decide_eq_true (by omega),decide_eq_true (by omega),aH (by omega)⟩
 ·exact OT.aq (decide_eq_false (by dsimp only;omega))
def K4 (s:bj):Bool:=ap s.1.1&&decide (s.1.2.2.2.1=0/\0<s.2.2.1.length/\s.2.2.1.length<=140737488355000)
def wu (s:bj):gC:=(((),(aHf (WO s.1.1 s.2.2.1 256 0)).2,()),(at1 (aHf (WO s.1.1 s.2.2.1 256 0)).1,()))
def BM (s:bj):Bool:=(WO s.1.1 s.2.2.1 256 0).isSome
def Fc (s:bj):gD:=(((),()),(s.2.1,()))
def aKj (z:abt) (o:Option Pt):aE:=match o with
 |some p=>⟨(.ret,fY),((((),(0:Int),()),(at1 p,())):gC)⟩
 |none=>⟨(.exit 3,nx),((((),()),(z,())):gD)⟩
theorem ajD {c:Int} {b:List UInt8} {z:abt} (hs:ap c=true) (h0:0<b.length) (hl:b.length<=140737488355000):∀ (n k:Nat),n+k=256->∃ m,al o8 m ((c,(),(),(k:Int),()),(z,b,()))=some (aKj z (WO c b n k))
 |0,k,hk=>⟨1,aK (OT.aq (decide_eq_false (by dsimp only;omega)))⟩
 |n+1,k,hk=>by
  have ih:=ajD (z:=z) hs h0 hl n (k+1) (by omega)
  obtain ⟨m,hm⟩:=ih
  have hpre:∀ {α:Type} {x:OT α} {o:Option α},x.run=o->(gd [decide (0<b.length),decide ((b.length+1)*1<=140737488355328)&&decide (0<1),CH ((aeL,64,b++ [i2b (k:Int)],()),())] x).run=o:=λhx=>by
   refine (ah ?_).trans hx
   simp only [List.all_cons,List.all_nil,Bool.and_true,Bool.and_eq_true]
   exact ⟨decide_eq_true h0,⟨decide_eq_true (by omega),rfl⟩,decide_eq_true (by simp only [List.length_append,List.length_cons,List.length_nil];omega)⟩
  have hgo:(gd [inR ((k:Int)+1)] (.ok (.inl ((c,(),(),(k:Int)+1,()),(z,b,()))):OT (Sum bj aE))).run=some (.inl ((c,(),(),((k+1:Nat):Int),()),(z,b,()))):=
   (ah (by simp only [List.all_cons,List.all_nil,Bool.and_true];exact aH (by omega))).trans rfl
  have h1:decide ((k:Int)<256)=true:=decide_eq_true (by omega)
  unfold WO
  rcases (Bool.eq_false_or_eq_true ((axv c b k).2==(0:Int))).symm with hd|hd
  ·have e:ao1 (axv c b k)=false:=by unfold ao1;rw [hd];rfl
   rw [e]
   exact ⟨m+1,aF ((OT.ao h1).trans (hpre ((OT.ao hs).trans ((OT.ao hs).trans ((OT.aq hd).trans hgo))))) hm⟩
  ·rcases (Bool.eq_false_or_eq_true (!(axv c b k).1.2.2)).symm with hq|hq
   ·have e:ao1 (axv c b k)=false:=by unfold ao1;rw [hd];exact hq
    rw [e]
    exact ⟨m+1,aF ((OT.ao h1).trans (hpre ((OT.ao hs).trans ((OT.ao hs).trans ((OT.ao hd).trans ((OT.aq hq).trans hgo)))))) hm⟩
   ·have e:ao1 (axv c b k)=true:=by unfold ao1;rw [hd];exact hq
    rw [e]
    exact ⟨1,aK ((OT.ao h1).trans (hpre ((OT.ao hs).trans ((OT.ao hs).trans ((OT.ao hd).trans ((OT.ao hq).trans rfl))))))⟩
theorem anp:∀ s:bj,K4 s=true->∃ m e,al o8 m s=some e/\(o7 wu BM Fc s).run=some e:=by
 rintro ⟨⟨c,⟨⟩,⟨⟩,i,⟨⟩⟩,⟨z,b,⟨⟩⟩⟩ h
 obtain ⟨hs,h⟩:=(Bool.and_eq_true _ _).mp h
 have h':=of_decide_eq_true h
 dsimp only at h' hs
 obtain ⟨rfl,h0,hl⟩:=h'
 obtain ⟨m,hm⟩:=ajD (z:=z) hs h0 hl 256 0 rfl
 refine ⟨m,_,hm,?_⟩
 unfold o7 wu BM Fc
 dsimp only
 cases WO c b 256 0 with
 |none=>rfl
 |some p=>rfl
def qZ (x:ww):Bool:=decide (x.1.2.2.1.length<=140737488351232)
def YX (x:ww):OT fo.Y:=.ok ⟨ik,(((jw x.1.1 x.1.2.1 x.1.2.2.1).1,((jw x.1.1 x.1.2.1 x.1.2.2.1).2,())),())⟩
theorem ano:ac Tryz.prog 29 (fo.aI qZ YX):=YW K5 Fe K4 wu BM Fc anq anp _ _ λx oy hp ho=>by
 rw [<-ho]
 clear ho
 obtain ⟨⟨c,i,b,⟨⟩⟩,⟨⟩⟩:=x
 have hl:b.length<=140737488351232:=of_decide_eq_true hp
 show _=some (⟨ik,(((jw c i b).1,((jw c i b).2,())),())⟩:fo.Y)
 rcases (Bool.eq_false_or_eq_true (ap c)).symm with hs|hs
 ·rw [show jw c i b=(dC,40) from by unfold jw;rw [hs];rfl]
  exact OT.aq hs
 refine (OT.ao hs).trans ?_
 rcases (Bool.eq_false_or_eq_true (decide (i<0))).symm with h1|h1
 ·refine (OT.aq h1).trans ?_
  rcases (Bool.eq_false_or_eq_true (decide (2147483647<i))).symm with h2|h2
  ·rw [show jw c i b=aHf (WO c (VB b i) 256 0) from by unfold jw;rw [hs,h1,h2];rfl]
   refine (OT.aq h2).trans ((ah ?_).trans ?_)
   ·simp only [List.all_cons,List.all_nil,Bool.and_true,Bool.and_eq_true]
    refine ⟨decide_eq_true (show b.length<=_ by omega),decide_eq_true ⟨rfl,hl⟩,(Bool.and_eq_true _ _).mpr ⟨hs,decide_eq_true ⟨rfl,?_,?_⟩⟩⟩
    ·show 0<(VB b i).length
     rw [zO];omega
    ·show (VB b i).length<=_
     rw [zO];omega
   ·unfold BM wu Fe
    dsimp only
    generalize WO c (VB b i) 256 0=o
    cases o with
    |none=>rfl
    |some p=>rfl
  ·rw [show jw c i b=(dC,60) from by unfold jw;rw [hs,h1,h2];rfl]
   exact OT.ao h2
 ·rw [show jw c i b=(dC,60) from by unfold jw;rw [hs,h1];rfl]
  exact OT.ao h1
def tC:cj:=(fo.aI qZ YX)
theorem Ur:ac Tryz.prog 29 tC:=ano
theorem Uq:aG tC:=aB
def qi:Env:=ay 29 tC Al
theorem nW:aQ Tryz.prog qi:=ag Ur qj
theorem yE:ax qi:=ae Uq HR
theorem Dx:aW Tryz.prog te qi:=aL follows ar nW yE
end Go.Proofs.YtohjofabochgfaaGreat

namespace Go.Proofs.YtohjofabochgfaaGreat
open Sx Go
theorem aF5 {v:UInt64} {c:UInt8} (k:Nat) (hk:k<=7) (hv:v.toNat<2^(8*k)):
 (v|||bR c.toUInt64 (8*(k:Int))).toNat=v.toNat+c.toNat*2^(8*k)/\v.toNat+c.toNat*2^(8*k)<2^(8*(k+1)):=by
 have hc:c.toNat<256:=c.toNat_lt
 have h1:c.toNat*2^(8*k)<=255*2^(8*k):=Nat.mul_le_mul_right _ (by omega)
 have h2:2^(8*(k+1))=256*2^(8*k):=by rw [Nat.mul_add,Nat.pow_add];omega
 have h3:2^(8*(k+1))<=2^64:=Nat.pow_le_pow_right (by decide) (by omega)
 refine ⟨?_,by omega⟩
 have e1:bR c.toUInt64 (8*(k:Int))=c.toUInt64<<<UInt64.ofNat (8*k):=by
  unfold bR
  rw [if_pos (by omega)]
  congr 2
 have e2:(c.toUInt64<<<UInt64.ofNat (8*k)).toNat=c.toNat<<<(8*k):=by
  rw [UInt64.toNat_shiftLeft,UInt8.toNat_toUInt64,UInt64.toNat_ofNat']
  have:8*k%2^64%64=8*k:=by omega
  rw [this,Nat.shiftLeft_eq]
  exact Nat.mod_eq_of_lt (by omega)
 rw [e1,UInt64.toNat_or,e2,Nat.or_comm,<-Nat.shiftLeft_add_eq_or_of_lt hv,Nat.shiftLeft_eq]
 omega
theorem WX (b:List UInt8):∀ k,k<=8->(kP b k).toNat=(List.range k).foldl (λs i=>s+(b.getD i 0).toNat*2^(8*i)) 0/\(kP b k).toNat<2^(8*k)
 |0,_=>⟨rfl,by simp [kP]⟩
 |k+1,h=>by
  obtain ⟨h1,h2⟩:=WX b k (by omega)
  have h3:=aF5 (v:=kP b k) (c:=b.getD k 0) k (by omega) h2
  rw [PP]
  refine ⟨?_,by omega⟩
  rw [h3.1,List.range_succ,List.foldl_append,h1]
  rfl
theorem aAT {v:UInt64} {c:UInt8} (k:Nat) (hk:k<=7) (hv:v.toNat<2^(8*k)):
 (v*256+c.toUInt64).toNat=v.toNat*256+c.toNat/\v.toNat*256+c.toNat<2^(8*(k+1)):=by
 have hc:c.toNat<256:=c.toNat_lt
 have h2:2^(8*(k+1))=256*2^(8*k):=by rw [Nat.mul_add,Nat.pow_add];omega
 have h3:2^(8*(k+1))<=2^64:=Nat.pow_le_pow_right (by decide) (by omega)
 refine ⟨?_,by omega⟩
 rw [UInt64.toNat_add,UInt64.toNat_mul,UInt8.toNat_toUInt64,show (256:UInt64).toNat=256 from rfl]
 rw [Nat.mod_eq_of_lt (a:=v.toNat*256) (by omega),Nat.mod_eq_of_lt (by omega)]
theorem agQ (f:Nat->UInt8):∀ k,k<=8->(upto (λk v=>v*256+UInt8.toUInt64 (f (7-k))) (0:UInt64) k).toNat=(List.range k).foldl (λs j=>s*256+(f (7-j)).toNat) 0/\
 (upto (λk v=>v*256+UInt8.toUInt64 (f (7-k))) (0:UInt64) k).toNat<2^(8*k)
 |0,_=>⟨rfl,by simp [upto]⟩
 |k+1,h=>by
  obtain ⟨h1,h2⟩:=agQ f k (by omega)
  have h3:=aAT (v:=upto (λk v=>v*256+UInt8.toUInt64 (f (7-k))) (0:UInt64) k) (c:=f (7-k)) k (by omega) h2
  refine ⟨?_,by simp only [upto];omega⟩
  simp only [upto]
  rw [h3.1,List.range_succ,List.foldl_append,h1]
  rfl
theorem azB (g:Nat->Nat) (c:Nat):(List.range 8).foldl (λs i=>s+g i*c^i) 0=(List.range 8).foldl (λs j=>s*c+g (7-j)) 0:=by
 have r:List.range 8= [0,1,2,3,4,5,6,7]:=by decide
 rw [r]
 simp only [List.foldl_cons,List.foldl_nil,Nat.reduceSub,Nat.sub_self,Nat.sub_zero,Nat.add_mul,Nat.mul_assoc,Nat.zero_mul,Nat.zero_add,Nat.mul_one,Nat.pow_succ,Nat.pow_zero,Nat.one_mul]
 ac_rfl
theorem aE9 (g:Nat->Nat):(List.range 8).foldl (λs i=>s+g i*2^(8*i)) 0=(List.range 8).foldl (λs j=>s*256+g (7-j)) 0:=by
 have h:∀ i,2^(8*i)=(2^8)^i:=λi=>Nat.pow_mul 2 8 i
 have e:(λs i=>s+g i*2^(8*i))=(λs i=>s+g i*(2^8)^i):=by
  funext s i
  rw [h]
 rw [e]
 exact azB g (2^8)
theorem axB (f:Nat->UInt8) (b:List UInt8) (hb:∀ i,i<8->b.getD i 0=f i):kP b 8=upto (λk v=>v*256+UInt8.toUInt64 (f (7-k))) 0 8:=by
 have hf:kP b 8=kP ((List.range 8).map f) 8:=by
  unfold kP
  have:∀ l:List Nat,(∀ i ∈ l,i<8)->∀ v,l.foldl (λv (i:Nat)=>v|||bR (UInt8.toUInt64 (b.getD i 0)) (8*(i:Int))) v=l.foldl (λv (i:Nat)=>v|||bR (UInt8.toUInt64 (((List.range 8).map f).getD i 0)) (8*(i:Int))) v:=by
   intro l
   induction l with
   |nil=>intro _ v;rfl
   |cons i r ih=>
    intro h v
    have hi:i<8:=h i (by simp)
    have e:((List.range 8).map f).getD i 0=f i:=by simp [List.getD_eq_getElem?_getD,hi]
    simp only [List.foldl_cons,hb i hi,e]
    exact ih (λj hj=>h j (by simp [hj])) _
  exact this _ (λi hi=>by simpa using hi) 0
 have e:∀ i,i<8->((List.range 8).map f).getD i 0=f i:=λi hi=>by simp [List.getD_eq_getElem?_getD,hi]
 rw [hf,<-UInt64.toNat_inj,(WX _ 8 (Nat.le_refl _)).1,(agQ f 8 (Nat.le_refl _)).1,<-aE9 (λi=>(f i).toNat)]
 have:∀ l:List Nat,(∀ i ∈ l,i<8)->∀ v,l.foldl (λs (i:Nat)=>s+(((List.range 8).map f).getD i 0).toNat*2^(8*i)) v=l.foldl (λs i=>s+(f i).toNat*2^(8*i)) v:=by
  intro l
  induction l with
  |nil=>intro _ v;rfl
  |cons i r ih=>
   intro h v
   simp only [List.foldl_cons,e i (h i (by simp))]
   exact ih (λj hj=>h j (by simp [hj])) _
 exact this _ (λi hi=>by simpa using hi) 0
end Go.Proofs.YtohjofabochgfaaGreat

namespace Go.Proofs.YtohjofabochgfaaGreat
open Sx Go
theorem L4 {w r:List UInt8} (n:Nat) (hw:w.length<=n) (hr:∀ x ∈ r,x=0) (i:Nat):(w.take n++r).getD i 0=w.getD i 0:=by
 rw [List.take_of_length_le hw]
 simp only [List.getD_eq_getElem?_getD,List.getElem?_append]
 split
 ·rfl
 ·rename_i h
  rw [List.getElem?_eq_none (by omega:w.length<=i)]
  cases hx:r[i-w.length]? with
  |none=>rfl
  |some x=>rw [hr x (List.mem_of_getElem? hx)];rfl
theorem WR {n k:Nat}:∀ x ∈ (List.replicate n (0:UInt8)).drop k,x=0:=λx hx=>List.eq_of_mem_replicate (List.mem_of_mem_drop hx)
theorem aeK {w:List UInt8} (h:w.length<=128) (i:Nat):(nA w).getD i 0=w.getD i 0:=L4 128 h WR i
theorem Rt {w:List UInt8} (h:w.length<=16) (i:Nat):(Ph w).getD i 0=w.getD i 0:=L4 16 h WR i
theorem ad9 {w:List UInt8} (h:w.length=128):nA w=w:=by
 unfold nA
 rw [List.take_of_length_le (by omega),List.drop_eq_nil_of_le (by simp [h]),List.append_nil]
theorem acd {b c:List UInt8} (h:∀ i,c.getD i 0=b.getD i 0) (p:Nat):kP ((c.drop p).take 8) 8=iy b p:=
 axB (λi=>b.getD (p+i) 0) _ λi hi=>by
  rw [<-h]
  simp only [List.getD_eq_getElem?_getD,List.getElem?_take,if_pos hi,List.getElem?_drop]
theorem acU {b:List UInt8} (hb:b.length<=128):kR b=qu (nA b):=by
 unfold kR qu
 congr 1
 funext k m
 unfold aqm
 rw [acd (aeK hb)]
theorem JU {h:List UInt64} {b:List UInt8} {t:UInt64} {l:Bool} (hb:b.length<=128):dO h b t l=ya h (nA b) t l:=by
 unfold dO ya
 rw [acU hb]
theorem aFz {p:List UInt8} {n:Int} (hp:p.length<=16):asE p n=anA p n:=by
 unfold asE anA
 have h0:iy p 0=kP ((Ph p).take 8) 8:=(acd (Rt hp) 0).symm
 have h8:iy p 8=kP (((Ph p).drop 8).take 8) 8:=(acd (Rt hp) 8).symm
 rw [h0,h8]
theorem U5 (m:Nat):i2u (m:Int)=UInt64.ofNat m:=by
 unfold i2u
 rw [<-UInt64.toNat_inj,UInt64.toNat_ofNat',UInt64.toNat_ofNat']
 omega
theorem auS (a b:Nat):i2u ((a+b:Nat):Int)=i2u (a:Int)+i2u (b:Int):=by
 rw [U5,U5,U5,UInt64.ofNat_add]
theorem avX (b:List UInt8) (h:List UInt64):∀ k,128*k<=b.length->upto (λ_ s=>aoZ s) (h,0,b) k=(oo b h k,i2u ((128*k:Nat):Int),b.drop (128*k))
 |0,_=>rfl
 |k+1,hk=>by
  have ih:=avX b h k (by omega)
  show aoZ (upto (λ_ s=>aoZ s) (h,0,b) k)=_
  rw [ih]
  have e1:(b.take (128*k+128)).drop (128*k)=(b.drop (128*k)).take 128:=by rw [List.drop_take];congr 1;omega
  have e2:i2u ((128*k+128:Nat):Int)=i2u ((128*k:Nat):Int)+128:=auS _ 128
  have hl:((b.drop (128*k)).take 128).length=128:=by simp;omega
  have e3:oo b h (k+1)=ya (oo b h k) ((b.drop (128*k)).take 128) (i2u ((128*k:Nat):Int)+128) false:=by
   show dO (oo b h k) ((b.take (128*k+128)).drop (128*k)) (i2u ((128*k+128:Nat):Int)) false=_
   rw [e1,e2,JU (by omega),ad9 hl]
  unfold aoZ
  rw [e3,List.drop_drop,show 128*(k+1)=128*k+128 by omega,e2]
theorem ar6 {α:Type} (g:Nat->α) (d:α) (n:Nat):∀ m,m<=n->upto (λk o=>o.set k (g k)) (List.replicate n d) m=(List.range m).map g++List.replicate (n-m) d
 |0,_=>by simp [upto]
 |m+1,h=>by
  have ih:=ar6 g d n m (by omega)
  show (upto (λk o=>o.set k (g k)) (List.replicate n d) m).set m (g m)=_
  rw [ih,List.set_append_right _ _ (by simp),List.length_map,List.length_range,Nat.sub_self,show n-m=(n-(m+1))+1 by omega,List.replicate_succ,List.set_cons_zero,List.range_succ,List.map_append]
  simp
theorem af8 {α:Type} (g:Nat->α):∀ m,upto (λk o=>o++ [g k]) [] m=(List.range m).map g
 |0=>rfl
 |m+1=>by
  show upto (λk o=>o++ [g k]) [] m++ [g m]=_
  rw [af8 g m,List.range_succ,List.map_append]
  rfl
theorem alf (h:List UInt64) (n:Nat):A9 h n=Iy h n:=by
 unfold A9 Iy
 rw [af8,ar6 _ _ n n (Nat.le_refl _),Nat.sub_self,List.replicate_zero,List.append_nil]
 congr 1
 funext k
 have e:8*((k%8:Nat):Int)=((8*(k%8):Nat):Int):=by omega
 rw [e,U5,UInt64.toNat_ofNat',Nat.mod_eq_of_lt (by omega)]
theorem azY {p:List UInt8} {n:Int} {b:List UInt8} (hp:p.length<=16):azZ p n b=uS p n b:=by
 unfold azZ uS sB MN
 rw [aFz hp,alf]
 have hk:128*((b.length-1)/128)<=b.length:=by omega
 show _=aFb n (upto (λ_ s=>aoZ s) (anA p n,0,b) ((b.length-1)/128))
 rw [avX b _ _ hk]
 unfold aFb
 have hl:(b.drop (128*((b.length-1)/128))).length<=128:=by simp only [List.length_drop];omega
 have hc:i2u (b.length:Int)=i2u ((128*((b.length-1)/128):Nat):Int)+i2u ((b.drop (128*((b.length-1)/128))).length:Int):=by
  rw [<-auS,List.length_drop]
  congr 2
  omega
 rw [JU hl,hc]
theorem Pv (p:List UInt8) (n:Int) (b:List UInt8):(uS p n b).length=n.toNat:=by
 unfold uS aFb
 rw [<-alf]
 unfold A9
 rw [af8,List.length_map,List.length_range]
end Go.Proofs.YtohjofabochgfaaGreat

namespace Go.Proofs.YtohjofabochgfaaGreat
open Sx Go
set_option maxRecDepth 100000
def fg:aw:=⟨[.val false .int,.val false .int,.val false (.list .u8)],[],true,0,false⟩
abbrev vJ:Type:=((Int)×(Int)×(List (UInt8))×Unit)×(Unit)
def oq:Shape:=⟨80,[(0,.val false .int),(1,.val false .int),(2,.val false (.list .u8)),(6,.ptr 0 0 0),(8,.val false .int)],[(0,.cells [.val false .u64,.val false .u64,.val false .u64,.val false .u64,.val false .u64,.val false .u64,.val false .u64,.val false .u64,.val false .bool])],0,true⟩
abbrev aZ:Type:=((Int)×(Int)×(List (UInt8))×(Unit)×(Int)×Unit)×(((UInt64)×(UInt64)×(UInt64)×(UInt64)×(UInt64)×(UInt64)×(UInt64)×(UInt64)×(Bool)×Unit)×Unit)
def j2:Shape:=⟨80,[(6,.ptr 0 0 0),(7,.val false .int)],[(0,.cells [.val false .u64,.val false .u64,.val false .u64,.val false .u64,.val false .u64,.val false .u64,.val false .u64,.val false .u64,.val false .bool])],0,true⟩
abbrev e7:Type:=((Unit)×(Int)×Unit)×(((UInt64)×(UInt64)×(UInt64)×(UInt64)×(UInt64)×(UInt64)×(UInt64)×(UInt64)×(Bool)×Unit)×Unit)
def m9:Shape:=⟨80,[(6,.ptr 0 0 0)],[(0,.cells [.val false .u64,.val false .u64,.val false .u64,.val false .u64,.val false .u64,.val false .u64,.val false .u64,.val false .u64,.val false .bool])],0,true⟩
abbrev gu:Type:=((Unit)×Unit)×(((UInt64)×(UInt64)×(UInt64)×(UInt64)×(UInt64)×(UInt64)×(UInt64)×(UInt64)×(Bool)×Unit)×Unit)
def P5:SE->Option Shape:=fc [(0,m9)] (some j2)
def P6 (a0:Int) (a1:Int) (a2:List (UInt8)) (a8:Int) (c0_0:UInt64) (c0_1:UInt64) (c0_2:UInt64) (c0_3:UInt64) (c0_4:UInt64) (c0_5:UInt64) (c0_6:UInt64) (c0_7:UInt64) (c0_8:Bool):OT (Sum aZ aE):=
 let z0:Int:=Int.tdiv a1 (256:Int)
 let z1:Int:=Int.tdiv a1 (65536:Int)
 let z2:Int:=Int.tdiv a1 (16777216:Int)
 let z3:List UInt8:=a2++ [i2b a1,i2b z0,i2b z1,i2b z2,i2b a8]
 let z4:List UInt8:=azZ [(115:UInt8),(105:UInt8),(103:UInt8),(105:UInt8),(108:UInt8),(45:UInt8),(103:UInt8),(101:UInt8),(110:UInt8),(101:UInt8),(114:UInt8),(97:UInt8),(116:UInt8),(111:UInt8),(114:UInt8),(115:UInt8)] (64:Int) z3
 let z5:aa:=aqr a0 z4
 let z6:(aa×aa×Bool)×Int:=ap8 a0 (ap6 (ofP (pS a0) z5))
 let z7:=z6.fst
 let z8:=z7.snd
 let z9:=z8.snd
 let z10:=z7.fst
 let z11:=z8.fst
 let z12:Bool:=inR (a8+(1:Int))
 (.br (decide (a8<(256:Int)))
 (gd [sD ((a2,()),()),true&&inR z0,true&&inR z1,true&&inR z2,decide ((List.length a2+5)*1<=140737488355328),IC (([(115:UInt8),(105:UInt8),(103:UInt8),(105:UInt8),(108:UInt8),(45:UInt8),(103:UInt8),(101:UInt8),(110:UInt8),(101:UInt8),(114:UInt8),(97:UInt8),(116:UInt8),(111:UInt8),(114:UInt8),(115:UInt8)],(64:Int),z3,()),()),vK ((a0,z4,()),()),nj ((a0,z5,()),())] (.br (z6.snd==(0:Int))
  (.br (!z9)
   (.ok (.inr ⟨(.ret,j2),(((),((0:Int),())),((z10.w0,(z10.w1,(z10.w2,(z10.w3,(z11.w0,(z11.w1,(z11.w2,(z11.w3,(z9,()))))))))),()))⟩))
   (gd [z12] (.ok (.inl ((a0,(a1,(a2,((),(a8+(1:Int),()))))),((c0_0,(c0_1,(c0_2,(c0_3,(c0_4,(c0_5,(c0_6,(c0_7,(c0_8,()))))))))),()))))))
  (gd [z12] (.ok (.inl ((a0,(a1,(a2,((),(a8+(1:Int),()))))),((c0_0,(c0_1,(c0_2,(c0_3,(c0_4,(c0_5,(c0_6,(c0_7,(c0_8,()))))))))),())))))))
 (.ok (.inr ⟨(.exit 0,m9),(((),()),((c0_0,(c0_1,(c0_2,(c0_3,(c0_4,(c0_5,(c0_6,(c0_7,(c0_8,()))))))))),()))⟩)))
def jE (s:aZ):OT (Sum aZ aE):=P6 (s.1.1) (s.1.2.1) (s.1.2.2.1) (s.1.2.2.2.2.1) (s.2.1.1) (s.2.1.2.1) (s.2.1.2.2.1) (s.2.1.2.2.2.1) (s.2.1.2.2.2.2.1) (s.2.1.2.2.2.2.2.1) (s.2.1.2.2.2.2.2.2.1) (s.2.1.2.2.2.2.2.2.2.1) (s.2.1.2.2.2.2.2.2.2.2.1)
theorem aml (s:aZ) (Q:Sum aZ aE->Prop):wps te qi av 1000 (aU (aj Tryz.f30) 0) (oq.inj s) (bU oq P5 (Q:Sum oq.T aE->Prop))=(jE s).wpR Q:=by kernel_rfl
def ot (g0_r:aZ->e7) (c0_r:aZ->Bool) (g0_0:aZ->gu) (s:aZ):OT aE:=(.br (c0_r s) (.ok ⟨(.ret,j2),g0_r s⟩) (.ok ⟨(.exit 0,m9),g0_0 s⟩))
def gr:az:=⟨[.val true (.prod .elem (.prod .elem .bool)),.val false .int],[],false⟩
def JV:SV->Option az:=λ_=>some gr
def JX (ok0:aZ->Bool) (g0_r:aZ->e7) (c0_r:aZ->Bool) (g0_0:aZ->gu) (a0:Int) (a1:Int) (a2:List (UInt8)):OT fg.Y:=
 let z0:aa:= {w0:=0,w1:=0,w2:=0,w3:=0}
 let z1:aa×aa×Bool:=(z0,z0,false)
 let z2:(Int×Int×List UInt8×PUnit×Int×PUnit)×(UInt64×UInt64×UInt64×UInt64×UInt64×UInt64×UInt64×UInt64×Bool×PUnit)×PUnit:=((a0,a1,a2,(),(0:Int),()),((0:UInt64),(0:UInt64),(0:UInt64),(0:UInt64),(0:UInt64),(0:UInt64),(0:UInt64),(0:UInt64),false,()),())
 let z3:(PUnit×Int×PUnit)×(UInt64×UInt64×UInt64×UInt64×UInt64×UInt64×UInt64×UInt64×Bool×PUnit)×PUnit:=g0_r z2
 let z4:=z3.snd.fst
 let z5:=z4.snd
 let z6:=z5.snd
 let z7:=z6.snd
 let z8:=z7.snd
 let z9:=z8.snd
 let z10:=z9.snd
 let z11:=z10.snd
 (.br (decide (a0<(0:Int)))
 (.ok ⟨gr,((z1,((40:Int),())),())⟩)
 (.br (decide ((3:Int)<a0))
  (.ok ⟨gr,((z1,((40:Int),())),())⟩)
  (.br (decide (a1<(0:Int)))
   (.ok ⟨gr,((z1,((60:Int),())),())⟩)
   (.br (decide ((2147483647:Int)<a1))
    (.ok ⟨gr,((z1,((60:Int),())),())⟩)
    (gd [ok0 z2] (.br (c0_r z2)
     (.ok ⟨gr,((({w0:=z4.fst,w1:=z5.fst,w2:=z6.fst,w3:=z7.fst},{w0:=z8.fst,w1:=z9.fst,w2:=z10.fst,w3:=z11.fst},z11.snd.fst),(z3.fst.snd.fst,())),())⟩)
     (.ok ⟨gr,((z1,((90:Int),())),())⟩)))))))
theorem asH (ok0:aZ->Bool) (g0_r:aZ->e7) (c0_r:aZ->Bool) (g0_0:aZ->gu) (x:vJ) (Q:fg.Y->Prop):wpf te qi (aO 0 (cf oq 0 ok0 (ot g0_r c0_r g0_0)) av) 1000 Tryz.f30 (fg.inp.inj x).tm (fg.inp.inj x).hp (fnK fg JV Q) (λ_ _=>False)=(JX ok0 g0_r c0_r g0_0 (x.1.1) (x.1.2.1) (x.1.2.2.1)).wpR Q:=by kernel_rfl
theorem Xw (ok0:aZ->Bool) (g0_r:aZ->e7) (c0_r:aZ->Bool) (g0_0:aZ->gu) (h0:∀ s:aZ,ok0 s=true->∃ m e,al (jE) m s=some e/\(ot g0_r c0_r g0_0 s).run=some e) (pre:vJ->Bool) (F:vJ->OT fg.Y) (hF:∀ (x:vJ) oy,pre x=true->(F x).run=some oy->(JX ok0 g0_r c0_r g0_0 (x.1.1) (x.1.2.1) (x.1.2.2.1)).run=some oy):ac Tryz.prog 30 (fg.aI pre F):=
 aD ar nW Dx (f:=30) (fn:=Tryz.f30) (c:=aj Tryz.f30) (by kernel_rfl) (by kernel_rfl) (by kernel_rfl) (S:=fg) (k:=0) (by kernel_rfl) (λR hR=>(aA (c:=(aj Tryz.f30)) (by kernel_rfl) (id:=0) (by kernel_rfl) (aP ar nW Dx (sh:=oq) hR (xs:=P5) (aC (by kernel_rfl) (by kernel_rfl) hR) aM af (n:=1000) (T:=jE) (λs Q=>aml s Q) (ok:=ok0) (f:=ot g0_r c0_r g0_0) h0) af)) (n:=1000) (sel:=JV) (λv o h=>by cases h;rfl) (pre:=pre) (F:=F) (T:=λx=>JX ok0 g0_r c0_r g0_0 (x.1.1) (x.1.2.1) (x.1.2.2.1)) (λx Q=>asH ok0 g0_r c0_r g0_0 x Q) hF
theorem IY {i:Int} (hi:0<=i) (n:Nat) (hn:n<=64) (d:Nat) (hd:d=2^n):auP i (n:Int)=Int.tdiv i (d:Int):=by
 subst hd
 unfold auP
 rw [Int.toNat_natCast,Nat.min_eq_left hn,Int.fdiv_eq_ediv_of_nonneg _ (Int.le_of_lt (Int.pow_pos (by decide))),Int.tdiv_eq_ediv_of_nonneg hi]
 simp
theorem aBJ {i:Int} (hi:0<=i) (b:List UInt8) (k:Int):b++ [i2b i,i2b (Int.tdiv i 256),i2b (Int.tdiv i 65536),i2b (Int.tdiv i 16777216),i2b k]=VB b i++ [i2b k]:=by
 have h0:auP i (8*((0:Nat):Int))=i:=by rw [show (8*((0:Nat):Int))=((0:Nat):Int) from rfl,IY hi 0 (by decide) 1 rfl];exact Int.tdiv_one i
 have h1:auP i (8*((1:Nat):Int))=Int.tdiv i 256:=IY hi 8 (by decide) 256 rfl
 have h2:auP i (8*((2:Nat):Int))=Int.tdiv i 65536:=IY hi 16 (by decide) 65536 rfl
 have h3:auP i (8*((3:Nat):Int))=Int.tdiv i 16777216:=IY hi 24 (by decide) 16777216 rfl
 simp only [VB,upto,h0,h1,h2,h3,List.append_assoc,List.cons_append,List.nil_append]
def JW (s:aZ):Bool:=ap s.1.1&&decide (0<=s.1.2.1/\s.1.2.1<=2147483647/\s.1.2.2.2.2.1=0/\s.1.2.2.1.length<=100000000000)
def vI (s:aZ):e7:=(((),(aHf (WO s.1.1 (VB s.1.2.2.1 s.1.2.1) 256 0)).2,()),(at1 (aHf (WO s.1.1 (VB s.1.2.2.1 s.1.2.1) 256 0)).1,()))
def Bb (s:aZ):Bool:=(WO s.1.1 (VB s.1.2.2.1 s.1.2.1) 256 0).isSome
def Er (s:aZ):gu:=(((),()),(s.2.1,()))
def aKh (z:abt) (o:Option Pt):aE:=match o with
 |some p=>⟨(.ret,j2),((((),(0:Int),()),(at1 p,())):e7)⟩
 |none=>⟨(.exit 0,m9),((((),()),(z,())):gu)⟩
abbrev aHN:Type:=OT (Sum aZ aE)
def acV (c i:Int) (b:List UInt8) (z:abt) (k:Int):aZ:=((c,i,b,(),k,()),(z,()))
def aFD (c i:Int) (b:List UInt8) (z:abt) (k:Int):aHN:=gd [inR (k+1)] (.ok (.inl (acV c i b z (k+1))))
def aFC (d:Pt×Int) (g:aHN):aHN:=.br (d.2==(0:Int)) (.br (!d.1.2.2) (.ok (.inr ⟨(.ret,j2),((((),(0:Int),()),(at1 d.1,())):e7)⟩)) g) g
theorem asI {c i:Int} {b:List UInt8} {z:abt} (hs:ap c=true) (h0:0<=i) (hi:i<=2147483647) (hl:b.length<=100000000000) {k:Nat} (hk:k<256):
 (jE (acV c i b z (k:Int))).run=(aFC (axv c (VB b i) k) (aFD c i b z (k:Int))).run:=by
 have hd:∀ d:Int,0<d->inR (Int.tdiv i d)=true:=λd hd=>by
  have h1:=Int.tdiv_eq_ediv_of_nonneg h0 (b:=d)
  have h2:i/d<=i:=Int.ediv_le_self _ h0
  have h3:0<=i/d:=Int.ediv_nonneg h0 (Int.le_of_lt hd)
  exact aH (by omega)
 simp only [jE,P6,acV]
 rw [aBJ h0,azY (by decide)]
 refine (OT.ao (decide_eq_true (by omega))).trans ((ah ?_).trans ?_)
 ·simp only [List.all_cons,List.all_nil,Bool.and_true,Bool.and_eq_true,Bool.true_and]
  refine ⟨decide_eq_true (show b.length<=_ by omega),hd _ (by decide),hd _ (by decide),hd _ (by decide),decide_eq_true (by omega),?_,?_,?_⟩
  ·unfold IC
   dsimp only
   rw [List.length_append,zO]
   exact decide_eq_true (by simp only [List.length_cons,List.length_nil];omega)
  ·unfold vK
   dsimp only
   rw [hs,LQ.2 (by rw [Pv];rfl)]
   rfl
  ·unfold nj
   exact hs
 ·unfold aFC aFD acV axv ofP pS aeL
  rfl
theorem ai8 {c i:Int} {b:List UInt8} {z:abt} (hs:ap c=true) (h0:0<=i) (hi:i<=2147483647) (hl:b.length<=100000000000):∀ (n k:Nat),n+k=256->∃ m,al jE m (acV c i b z (k:Int))=some (aKh z (WO c (VB b i) n k))
 |0,k,hk=>⟨1,aK (OT.aq (decide_eq_false (by dsimp only [acV];omega)))⟩
 |n+1,k,hk=>by
  obtain ⟨m,hm⟩:=ai8 (z:=z) hs h0 hi hl n (k+1) (by omega)
  have hU:=asI (z:=z) hs h0 hi hl (k:=k) (by omega)
  have hgo:(aFD c i b z (k:Int)).run=some (.inl (acV c i b z ((k+1:Nat):Int))):=
   (ah (by simp only [List.all_cons,List.all_nil,Bool.and_true];exact aH (by omega))).trans rfl
  unfold WO
  generalize axv c (VB b i) k=d at hU
  unfold aFC at hU
  rcases (Bool.eq_false_or_eq_true (d.2==(0:Int))).symm with hd|hd
  ·have e:ao1 d=false:=by unfold ao1;rw [hd];rfl
   rw [e]
   exact ⟨m+1,aF (hU.trans ((OT.aq hd).trans hgo)) hm⟩
  ·rcases (Bool.eq_false_or_eq_true (!d.1.2.2)).symm with hq|hq
   ·have e:ao1 d=false:=by unfold ao1;rw [hd];exact hq
    rw [e]
    exact ⟨m+1,aF (hU.trans ((OT.ao hd).trans ((OT.aq hq).trans hgo))) hm⟩
   ·have e:ao1 d=true:=by unfold ao1;rw [hd];exact hq
    rw [e]
    exact ⟨1,aK (hU.trans ((OT.ao hd).trans ((OT.ao hq).trans rfl)))⟩
theorem amn:∀ s:aZ,JW s=true->∃ m e,al jE m s=some e/\(ot vI Bb Er s).run=some e:=by
 rintro ⟨⟨c,i,b,⟨⟩,k,⟨⟩⟩,⟨z,⟨⟩⟩⟩ h
 obtain ⟨hs,h⟩:=(Bool.and_eq_true _ _).mp h
 have h':=of_decide_eq_true h
 dsimp only at h' hs
 obtain ⟨h0,hi,rfl,hl⟩:=h'
 obtain ⟨m,hm⟩:=ai8 (z:=z) hs h0 hi hl 256 0 rfl
 refine ⟨m,_,hm,?_⟩
 unfold ot vI Bb Er
 dsimp only
 generalize WO c (VB b i) 256 0=o
 cases o with
 |none=>rfl
 |some p=>rfl
def yZ (x:vJ):Bool:=decide (x.1.2.2.1.length<=100000000000)
def Xx (x:vJ):OT fg.Y:=.ok ⟨gr,(((jw x.1.1 x.1.2.1 x.1.2.2.1).1,((jw x.1.1 x.1.2.1 x.1.2.2.1).2,())),())⟩
theorem amm:ac Tryz.prog 30 (fg.aI yZ Xx):=Xw JW vI Bb Er amn _ _ λx oy hp ho=>by
 rw [<-ho]
 clear ho
 obtain ⟨⟨c,i,b,⟨⟩⟩,⟨⟩⟩:=x
 have hl:b.length<=100000000000:=of_decide_eq_true hp
 show _=some (⟨gr,(((jw c i b).1,((jw c i b).2,())),())⟩:fg.Y)
 rcases (Bool.eq_false_or_eq_true (decide (c<0))).symm with hc|hc
 ·refine (OT.aq hc).trans ?_
  rcases (Bool.eq_false_or_eq_true (decide (3<c))).symm with hd|hd
  ·have hs:ap c=true:=by rw [vy,hc,hd];rfl
   refine (OT.aq hd).trans ?_
   rcases (Bool.eq_false_or_eq_true (decide (i<0))).symm with h1|h1
   ·refine (OT.aq h1).trans ?_
    rcases (Bool.eq_false_or_eq_true (decide (2147483647<i))).symm with h2|h2
    ·rw [show jw c i b=aHf (WO c (VB b i) 256 0) from by unfold jw;rw [hs,h1,h2];rfl]
     refine (OT.aq h2).trans ((ah ?_).trans ?_)
     ·simp only [List.all_cons,List.all_nil,Bool.and_true]
      have g1:=of_decide_eq_false h1
      have g2:=of_decide_eq_false h2
      exact (Bool.and_eq_true _ _).mpr ⟨hs,decide_eq_true ⟨show 0<=i by omega,show i<=2147483647 by omega,rfl,hl⟩⟩
     ·unfold Bb vI
      dsimp only
      generalize WO c (VB b i) 256 0=o
      cases o with
      |none=>rfl
      |some p=>rfl
    ·rw [show jw c i b=(dC,60) from by unfold jw;rw [hs,h1,h2];rfl]
     exact OT.ao h2
   ·rw [show jw c i b=(dC,60) from by unfold jw;rw [hs,h1];rfl]
    exact OT.ao h1
  ·have hs:ap c=false:=by rw [vy,hd];simp
   rw [show jw c i b=(dC,40) from by unfold jw;rw [hs];rfl]
   exact OT.ao hd
 ·have hs:ap c=false:=by rw [vy,hc];rfl
  rw [show jw c i b=(dC,40) from by unfold jw;rw [hs];rfl]
  exact OT.ao hc
def sR:cj:=(fg.aI yZ Xx)
theorem Tv:ac Tryz.prog 30 sR:=amm
theorem Tu:aG sR:=aB
def pZ:Env:=ay 30 sR qi
theorem nP:aQ Tryz.prog pZ:=ag Tv nW
theorem yt:ax pZ:=ae Tu yE
theorem C8:aW Tryz.prog te pZ:=aL follows ar nP yt
end Go.Proofs.YtohjofabochgfaaGreat

namespace Go.Proofs.YtohjofabochgfaaGreat
namespace Sx
open Go
def Rw (k:Nat) (s:cj):cj:=⟨true,λd args hp=>match args.getD k .bT with
 |.own c e=>match eh hp c e with
  |some (.row t xs)=>(s.f d args (eu hp [(c,⟨e,.frz t xs⟩)])).map (Out.after [(c,⟨e,.frz t xs⟩)])
  |some _=>s.f d args hp
  |none=>.fail
 |_=>s.f d args hp⟩
theorem ZK {P:Program} {f:FuncId} {s:cj} {k:Nat} (h:ac P f s):ac P f (Rw k s):=by
 refine ⟨λR w d args vs out hm hr hrun=> ?_⟩
 simp only [Rw] at hrun
 split at hrun
 ·rename_i c e hce
  split at hrun
  ·rename_i t xs hc
   obtain ⟨out',h1,rfl⟩:=OT.run_map hrun
   obtain ⟨R1,ha⟩:=FG hm (cH hc)
   rw [<-show R1.hp=eu R.hp [(c,⟨e,.frz t xs⟩)] from ha.hp] at h1
   have hr1:SV.bV R1 args vs:=SV.dN ha.ext _ _ hr
   have hpost:∀ en w',xX R1 out' en w'->xX R (Out.after [(c,⟨e,.frz t xs⟩)] out') en w':=λen w' hp=>by
    cases out' with
    |ret q=>
     obtain ⟨v,R',h2,h3,h4⟩:=hp
     exact ⟨v,R',h2,ha.trans h3,h4⟩
    |pan q u=>
     obtain ⟨v,R',h2,h3,h4⟩:=hp
     exact ⟨v,R',h2,ha.trans h3,h4⟩
   rcases h.calls R1 w d _ vs out' ha.mem hr1 h1 with ⟨fn,f1,f2,f3,hcl⟩|⟨v,w',hv,hp⟩
   ·exact .inl ⟨fn,f1,f2,f3,hcl.mono hpost⟩
   ·exact .inr ⟨v,w',hv,hpost _ _ hp⟩
  ·exact h.calls R w d args vs out hm hr hrun
  ·cases hrun
 ·exact h.calls R w d args vs out hm hr hrun
theorem L7 {s:cj} {k:Nat} (h:aG s):aG (Rw k s):=λd args hp hp' out hg hrun=>by
 simp only [Rw] at hrun⊢
 split at hrun
 ·split at hrun
  ·rename_i t xs hc
   rw [ct hg hc]
   simp only
   obtain ⟨out',h1,rfl⟩:=OT.run_map hrun
   refine aey (h d _ _ _ out' ⟨λn ch hn=> ?_,λn hn hn0=> ?_⟩ h1)
   ·simp only [eu] at hn⊢
    split
    ·rename_i h2;rw [if_pos h2] at hn;exact hn
    ·rename_i h2;rw [if_neg h2] at hn;exact hg.kN _ _ hn
   ·simp only [eu] at hn0⊢
    split
    ·rename_i h2;rw [if_pos h2] at hn0;cases hn0
    ·rename_i h2;rw [if_neg h2] at hn0;exact hg.free _ hn hn0
  ·rename_i b hnr hc
   rw [ct hg hc]
   cases b<;>first|exact h _ _ _ _ _ hg hrun|exact absurd rfl (hnr _ _)
  ·cases hrun
 ·exact h _ _ _ _ _ hg hrun
end Sx
end Go.Proofs.YtohjofabochgfaaGreat

namespace Go.Proofs.YtohjofabochgfaaGreat
open Sx Go
set_option maxRecDepth 100000
def fk:aw:=⟨[.val false .int,.val false .int,.val false (.list .u8)],[],false,0,false⟩
def fC:az:=⟨[.val true aHR,.val false .int],[],false⟩
def KP:SV->Option az:=λ_=>some fC
def Y6:CSh:=.cells [.val false .int,.val false .int,.val false (.list (.prod .elem (.prod .elem .bool))),.val false (.prod .elem (.prod .elem .bool)),.val false (.prod .elem (.prod .elem .bool))]
def lj:Shape:=⟨70,[(0,.val false .int),(1,.val false .int),(2,.val false (.list .u8)),(6,.ptr 0 0 0),(10,.own 1),(32,.val false .int),(33,.val false .int)],[(0,Y6),(1,.row (.prod .elem (.prod .elem .bool)))],0,true⟩
def kh:Shape:=⟨70,[(6,.ptr 0 0 0),(7,.val false .int)],[(0,Y6)],0,true⟩
def ki:Shape:=⟨70,[(0,.val false .int),(1,.val false .int),(6,.ptr 0 0 0),(10,.own 1)],[(0,Y6),(1,.row (.prod .elem (.prod .elem .bool)))],0,true⟩
abbrev wh:Type:=((Int)×(Int)×(List (UInt8))×Unit)×(Unit)
abbrev bc:Type:=((Int)×(Int)×(List (UInt8))×(Unit)×(Unit)×(Int)×(Int)×Unit)×(((Int)×(Int)×(List ((aa×(aa×Bool))))×((aa×(aa×Bool)))×((aa×(aa×Bool)))×Unit)×(List ((aa×(aa×Bool))))×Unit)
abbrev fa:Type:=((Unit)×(Int)×Unit)×(((Int)×(Int)×(List ((aa×(aa×Bool))))×((aa×(aa×Bool)))×((aa×(aa×Bool)))×Unit)×Unit)
abbrev gz:Type:=((Int)×(Int)×(Unit)×(Unit)×Unit)×(((Int)×(Int)×(List ((aa×(aa×Bool))))×((aa×(aa×Bool)))×((aa×(aa×Bool)))×Unit)×(List ((aa×(aa×Bool))))×Unit)
def QN:SE->Option Shape:=fc [(0,ki)] (some kh)
def ana (a0:Int) (a1:Int) (a2:List (UInt8)) (a32:Int) (a33:Int) (c0_0:Int) (c0_1:Int) (c0_2:List ((aa×(aa×Bool)))) (c0_3:(aa×(aa×Bool))) (c0_4:(aa×(aa×Bool))) (c1:List ((aa×(aa×Bool)))):OT (Sum bc aE):=
 let z0:(aa×aa×Bool)×Int:=jw a0 a33 a2
 let z1:=z0.snd
 let z2:aa:= {w0:=0,w1:=0,w2:=0,w3:=0}
 let z3:aa×aa×Bool:=(z2,z2,false)
 (.br (decide (a33<a32))
 (gd [qZ ((a0,a33,a2,()),())] (.br (!z1==(0:Int))
  (.ok (.inr ⟨(.ret,kh),(((),(z1,())),(((0:Int),((0:Int),([],(z3,(z3,()))))),()))⟩))
  (gd [decide ((List.length c1+1)*72<=140737488355328),inR (a33+(1:Int))] (.ok (.inl ((a0,(a1,(a2,((),((),(a32,(a33+(1:Int),()))))))),((c0_0,(c0_1,(c0_2,(c0_3,(c0_4,()))))),(c1++ [z0.fst],()))))))))
 (.ok (.inr ⟨(.exit 0,ki),((a0,(a1,((),((),())))),((c0_0,(c0_1,(c0_2,(c0_3,(c0_4,()))))),(c1,())))⟩)))
def lk (s:bc):OT (Sum bc aE):=ana (s.1.1) (s.1.2.1) (s.1.2.2.1) (s.1.2.2.2.2.2.1) (s.1.2.2.2.2.2.2.1) (s.2.1.1) (s.2.1.2.1) (s.2.1.2.2.1) (s.2.1.2.2.2.1) (s.2.1.2.2.2.2.1) (s.2.2.1)
theorem am7 (s:bc) (Q:Sum bc aE->Prop):wps te pZ av 1000 (aU (aj Tryz.f31) 0) (lj.inj s) (bU lj QN (Q:Sum lj.T aE->Prop))=(lk s).wpR Q:=by kernel_rfl
def o1 (g0_r:bc->fa) (c0_r:bc->Bool) (g0_0:bc->gz) (s:bc):OT aE:=(.br (c0_r s) (.ok ⟨(.ret,kh),g0_r s⟩) (.ok ⟨(.exit 0,ki),g0_0 s⟩))
def KS (ok0:bc->Bool) (g0_r:bc->fa) (c0_r:bc->Bool) (g0_0:bc->gz) (a0:Int) (a1:Int) (a2:List (UInt8)):OT fk.Y:=
 let z0:aa:= {w0:=0,w1:=0,w2:=0,w3:=0}
 let z1:aa×aa×Bool:=(z0,z0,false)
 let z2:Int×Int×List (aa×aa×Bool)×(aa×aa×Bool)×aa×aa×Bool:=((0:Int),(0:Int),[],z1,z1)
 let z3:(Int×Int×List UInt8×PUnit×PUnit×Int×Int×PUnit)×(Int×Int×List (aa×aa×Bool)×(aa×aa×Bool)×(aa×aa×Bool)×PUnit)×List (aa×aa×Bool)×PUnit:=((a0,a1,a2,(),(),Rr (1:Int) a1+(2:Int),(0:Int),()),((0:Int),(0:Int),[],z1,z1,()),[],())
 let z4:(PUnit×Int×PUnit)×(Int×Int×List (aa×aa×Bool)×(aa×aa×Bool)×(aa×aa×Bool)×PUnit)×PUnit:=g0_r z3
 let z5:=z4.snd.fst
 let z6:=z5.snd
 let z7:=z6.snd
 let z8:=z7.snd
 let z9:(Int×Int×PUnit×PUnit×PUnit)×(Int×Int×List (aa×aa×Bool)×(aa×aa×Bool)×(aa×aa×Bool)×PUnit)×List (aa×aa×Bool)×PUnit:=g0_0 z3
 let z10:=z9.fst
 let z11:=z10.snd.fst
 let z12:Int:=Rr (1:Int) z11
 let z13:Bool:=decide (z12=(0:Int))
 let z14:=z9.snd.snd.fst
 let z15:Nat:=List.length z14
 let z16:Bool:=inB z12 z15
 let z17:Nat:=Int.toNat z12
 let z18:Bool:=decide (z17<z15)
 let z19:Bool:=inR (z12+(1:Int))
 let z20:Bool:=inB (z12+(1:Int)) z15
 let z21:Nat:=Int.toNat (z12+(1:Int))
 let z22:Bool:=decide (z21<z15)
 let z23:=z10.fst
 let z24:(aa×aa×Bool)×aa×aa×Bool:=(List.getD z14 z17 z1,List.getD z14 z21 z1)
 let z25:Int:=(↑z15:Int)
 let z26:Bool:=decide (z12=z25)
 (.br (ap a0)
 (.br (decide (a1<(0:Int)))
  (.ok ⟨fC,((z2,((60:Int),())),())⟩)
  (.br (decide ((5:Int)<a1))
   (.ok ⟨fC,((z2,((60:Int),())),())⟩)
   (gd [decide ((0:Int)<=a1),inR (Rr (1:Int) a1+(2:Int)),ok0 z3] (.br (c0_r z3)
    (.ok ⟨fC,(((z5.fst,z6.fst,z7.fst,z8.fst,z8.snd.fst),(z4.fst.snd.fst,())),())⟩)
    (gd [decide ((0:Int)<=z11)] (.br (z13&&z13)
     (gd [z16,z18,z19,z20,z22] (.ok ⟨fC,(((z23,z11,[],z24),((0:Int),())),())⟩))
     (.br (z26&&z26)
      (gd [z16,z18,z19,z20,z22] (.ok ⟨fC,(((z23,z11,z14,z24),((0:Int),())),())⟩))
      (gd [decide ((0:Int)<=z12)&&decide (z12<=z12)&&decide (z12<=z25),z16,z18,z19,z20,z22] (.ok ⟨fC,(((z23,z11,List.take z17 (List.drop 0 z14),z24),((0:Int),())),())⟩)))))))))
 (.ok ⟨fC,((z2,((40:Int),())),())⟩))
theorem atQ (ok0:bc->Bool) (g0_r:bc->fa) (c0_r:bc->Bool) (g0_0:bc->gz) (x:wh) (Q:fk.Y->Prop):wpf te pZ (aO 0 (cf lj 0 ok0 (o1 g0_r c0_r g0_0)) av) 1000 Tryz.f31 (fk.inp.inj x).tm (fk.inp.inj x).hp (aJk fk KP Q) (λ_ _=>False)=(KS ok0 g0_r c0_r g0_0 (x.1.1) (x.1.2.1) (x.1.2.2.1)).wpR Q:=by kernel_rfl
theorem YD (ok0:bc->Bool) (g0_r:bc->fa) (c0_r:bc->Bool) (g0_0:bc->gz) (h0:∀ s:bc,ok0 s=true->∃ m e,al (lk) m s=some e/\(o1 g0_r c0_r g0_0 s).run=some e) (pre:wh->Bool) (F:wh->OT fk.Y) (hF:∀ (x:wh) oy,pre x=true->(F x).run=some oy->(KS ok0 g0_r c0_r g0_0 (x.1.1) (x.1.2.1) (x.1.2.2.1)).run=some oy):ac Tryz.prog 31 (fk.aI pre F):=
 akx ar nP C8 (f:=31) (fn:=Tryz.f31) (c:=aj Tryz.f31) (by kernel_rfl) (by kernel_rfl) (by kernel_rfl) (S:=fk) (k:=0) (by kernel_rfl) (λR hR=>(aA (c:=(aj Tryz.f31)) (by kernel_rfl) (id:=0) (by kernel_rfl) (aP ar nP C8 (sh:=lj) hR (xs:=QN) (aC (by kernel_rfl) (by kernel_rfl) hR) aM af (n:=1000) (T:=lk) (λs Q=>am7 s Q) (ok:=ok0) (f:=o1 g0_r c0_r g0_0) h0) af)) (n:=1000) (sel:=KP) (λv o h=>by cases h;rfl) (pre:=pre) (F:=F) (T:=λx=>KS ok0 g0_r c0_r g0_0 (x.1.1) (x.1.2.1) (x.1.2.2.1)) (λx Q=>atQ ok0 g0_r c0_r g0_0 x Q) hF
def yT (c:Int) (b:List UInt8):Nat->Nat->List Pt->List Pt×Int
 |0,_,l=>(l,0)
 |n+1,i,l=>cond (!((jw c (i:Int) b).2==(0:Int))) (l,(jw c (i:Int) b).2) (yT c b n (i+1) (l++ [(jw c (i:Int) b).1]))
def Fl (k:Int):Nat:=(Rr 1 k).toNat
theorem Uv {k:Int} (h0:¬k<0) (h5:¬5<k):Rr 1 k=(Fl k:Int)/\1<=Fl k/\Fl k<=32:=by
 have:k=0\/k=1\/k=2\/k=3\/k=4\/k=5:=by omega
 rcases this with rfl|rfl|rfl|rfl|rfl|rfl<;>decide
def azH (c k:Int) (r:List Pt×Int):axx×Int:=cond (!(r.2==(0:Int))) (tH,r.2) ((c,k,r.1.take (Fl k),r.1.getD (Fl k) dC,r.1.getD (Fl k+1) dC),0)
def fN (c k:Int) (b:List UInt8):axx×Int:=cond (ap c) (cond (decide (k<0)) (tH,60) (cond (decide (5<k)) (tH,60) (azH c k (yT c b (Fl k+2) 0 [])))) (tH,40)
theorem AW {c:Int} {b:List UInt8}:∀ (n i:Nat) (l:List Pt),(!((yT c b n i l).2==(0:Int)))=false->(yT c b n i l).1.length=l.length+n
 |0,_,_,_=>rfl
 |n+1,i,l,h=>by
  unfold yT at h⊢
  cases hd: !((jw c (i:Int) b).2==(0:Int))
  ·rw [hd,cond_false] at h
   rw [cond_false,AW n (i+1) _ h,List.length_append]
   simp only [List.length_cons,List.length_nil]
   omega
  ·rw [hd] at h
   exact absurd (hd.symm.trans h) (by decide)
def KR (s:bc):Bool:=decide (s.1.2.2.2.2.2.2.1=0/\0<=s.1.2.2.2.2.2.1/\s.1.2.2.2.2.2.1<=34/\s.2.2.1= []/\s.1.2.2.1.length<=140737488351232)
def tv (s:bc):List Pt×Int:=yT s.1.1 s.1.2.2.1 s.1.2.2.2.2.2.1.toNat 0 []
def we (s:bc):fa:=(((),(tv s).2,()),((0,0,[],dC,dC,()),()))
def BF (s:bc):Bool:= !((tv s).2==(0:Int))
def wg (s:bc):gz:=((s.1.1,s.1.2.1,(),(),()),(s.2.1,(tv s).1,()))
abbrev aH5:Type:=Int×Int×List Pt×Pt×Pt×Unit
def aKd (c k:Int) (p:aH5) (r:List Pt×Int):aE:=cond (!(r.2==(0:Int))) ⟨(.ret,kh),((((),r.2,()),((0,0,[],dC,dC,()),())):fa)⟩ ⟨(.exit 0,ki),(((c,k,(),(),()),(p,r.1,())):gz)⟩
theorem ar5 {c k:Int} {b:List UInt8} {p:aH5} {N:Nat} (hN:N<=34) (hl:b.length<=140737488351232):∀ (n i:Nat) (l:List Pt),i+n=N->l.length=i->∃ m,al lk m ((c,k,b,(),(),(N:Int),(i:Int),()),(p,l,()))=some (aKd c k p (yT c b n i l))
 |0,i,l,hi,_=>⟨1,aK (OT.aq (decide_eq_false (by dsimp only;omega)))⟩
 |n+1,i,l,hi,hk=>by
  have hstep:(lk ((c,k,b,(),(),(N:Int),(i:Int),()),(p,l,()))).run=(OT.br (!((jw c (i:Int) b).2==(0:Int))) (.ok (.inr ⟨(.ret,kh),((((),(jw c (i:Int) b).2,()),((0,0,[],dC,dC,()),())):fa)⟩))
   (gd [decide ((l.length+1)*72<=140737488355328),inR ((i:Int)+1)] (.ok (.inl ((c,k,b,(),(),(N:Int),(i:Int)+1,()),(p,l++ [(jw c (i:Int) b).1],()))))):OT (Sum bc aE)).run:=
   (OT.ao (decide_eq_true (by dsimp only;omega))).trans ((ah (by simp only [List.all_cons,List.all_nil,Bool.and_true];exact decide_eq_true hl)).trans rfl)
  unfold yT
  cases hd: !((jw c (i:Int) b).2==(0:Int))
  ·obtain ⟨m,hm⟩:=ar5 (c:=c) (k:=k) (p:=p) hN hl n (i+1) (l++ [(jw c (i:Int) b).1]) (by omega) (by rw [List.length_append];simp only [List.length_cons,List.length_nil];omega)
   refine ⟨m+1,aF (hstep.trans ((OT.aq hd).trans ((ah ?_).trans rfl))) hm⟩
   simp only [List.all_cons,List.all_nil,Bool.and_true,Bool.and_eq_true]
   exact ⟨decide_eq_true (by omega),aH (by omega)⟩
  ·refine ⟨1,aK (hstep.trans ((OT.ao hd).trans ?_))⟩
   unfold aKd
   rw [cond_true]
   dsimp only
   rw [hd]
   rfl
theorem am9:∀ s:bc,KR s=true->∃ m e,al lk m s=some e/\(o1 we BF wg s).run=some e:=by
 rintro ⟨⟨c,k,b,⟨⟩,⟨⟩,n,i,⟨⟩⟩,⟨p,l,⟨⟩⟩⟩ h
 have h':=of_decide_eq_true h
 dsimp only at h'
 obtain ⟨rfl,h0,h1,rfl,hl⟩:=h'
 obtain ⟨N,rfl⟩:∃ N:Nat,n=(N:Int):=⟨n.toNat,by omega⟩
 obtain ⟨m,hm⟩:=ar5 (c:=c) (k:=k) (p:=p) (N:=N) (by omega) hl N 0 [] (by omega) rfl
 refine ⟨m,_,hm,?_⟩
 have e:tv ((c,k,b,(),(),(N:Int),0,()),(p,[],()))=yT c b N 0 []:=rfl
 unfold o1 BF we wg aKd
 rw [e]
 generalize yT c b N 0 []=r
 cases hd: !(r.2==(0:Int))
 ·rfl
 ·rfl
def KQ (x:wh):Bool:=decide (x.1.2.2.1.length<=140737488351232)
def YE (x:wh):OT fk.Y:=.ok ⟨fC,(((fN x.1.1 x.1.2.1 x.1.2.2.1).1,((fN x.1.1 x.1.2.1 x.1.2.2.1).2,())),())⟩
theorem am8:ac Tryz.prog 31 (fk.aI KQ YE):=YD KR we BF wg am9 _ _ λx oy hp ho=>by
 rw [<-ho]
 clear ho
 obtain ⟨⟨c,k,b,⟨⟩⟩,⟨⟩⟩:=x
 have hl:b.length<=140737488351232:=of_decide_eq_true hp
 show _=some (⟨fC,(((fN c k b).1,((fN c k b).2,())),())⟩:fk.Y)
 rcases (Bool.eq_false_or_eq_true (ap c)).symm with hs|hs
 ·rw [show fN c k b=(tH,40) from by unfold fN;rw [hs];rfl]
  exact OT.aq hs
 refine (OT.ao hs).trans ?_
 by_cases h0:k<0
 ·rw [show fN c k b=(tH,60) from by unfold fN;rw [hs,decide_eq_true h0];rfl]
  exact OT.ao (decide_eq_true h0)
 refine (OT.aq (decide_eq_false h0)).trans ?_
 by_cases h5:5<k
 ·rw [show fN c k b=(tH,60) from by unfold fN;rw [hs,decide_eq_false h0,decide_eq_true h5];rfl]
  exact OT.ao (decide_eq_true h5)
 rw [show fN c k b=azH c k (yT c b (Fl k+2) 0 []) from by unfold fN;rw [hs,decide_eq_false h0,decide_eq_false h5];rfl]
 obtain ⟨hN,hn1,hn2⟩:=Uv h0 h5
 refine (OT.aq (decide_eq_false h5)).trans ?_
 have hlen:=AW (c:=c) (b:=b) (Fl k+2) 0 []
 unfold BF we wg tv azH
 dsimp only
 generalize Fl k=N at*
 rw [hN]
 rw [show ((N:Int)+2).toNat=N+2 by omega]
 generalize yT c b (N+2) 0 []=r at*
 refine (ah ?_).trans ?_
 ·simp only [List.all_cons,List.all_nil,Bool.and_true,Bool.and_eq_true]
  exact ⟨decide_eq_true (by omega),aH (by omega),decide_eq_true ⟨rfl,by dsimp only;omega,by dsimp only;omega,rfl,hl⟩⟩
 cases hd: !(r.2==(0:Int))
 ·have hlen:=hlen hd
  simp only [List.length_nil] at hlen
  have hlen:r.1.length=N+2:=by omega
  rw [show ((N:Int)+1).toNat=N+1 by omega,hlen]
  refine (OT.aq rfl).trans ((ah (by simp only [List.all_cons,List.all_nil,Bool.and_true];exact decide_eq_true (by omega))).trans ((OT.aq (by rw [decide_eq_false (by omega)];rfl)).trans ((OT.aq (by rw [decide_eq_false (by omega)];rfl)).trans ((ah ?_).trans rfl))))
  simp only [List.all_cons,List.all_nil,Bool.and_true,Bool.and_eq_true]
  exact ⟨⟨⟨decide_eq_true (by omega),decide_eq_true (by omega)⟩,decide_eq_true (by omega)⟩,aN (by omega),decide_eq_true (by omega),aH (by omega),aN (by omega),decide_eq_true (by omega)⟩
 ·exact (OT.ao rfl).trans rfl
def tu:cj:=(Rw 2 (fk.aI KQ YE))
theorem Uh:ac Tryz.prog 31 tu:=(ZK am8)
theorem Ug:aG tu:=(L7 aB)
def qh:Env:=ay 31 tu pZ
theorem nV:aQ Tryz.prog qh:=ag Uh nP
theorem yC:ax qh:=ae Ug yt
theorem Ds:aW Tryz.prog te qh:=aL follows ar nV yC
def gQ:aw:=⟨[.val false .int,.val false .int,.val false (.list .u8)],[],false,0,false⟩
def ix:az:=⟨[.val true aHR,.val false .int],[],false⟩
def P0:SV->Option az:=λ_=>some ix
def aIM:CSh:=.cells [.val false .int,.val false .int,.own 2,.val false (.prod .elem (.prod .elem .bool)),.val false (.prod .elem (.prod .elem .bool))]
def sJ:Shape:=⟨75,[(0,.val false .int),(2,.val false (.list .u8)),(6,.ptr 0 0 0),(8,.val false .int),(9,.ptr 1 0 0),(10,.val false .int)],[(0,Y6),(1,aIM),(2,.row (.prod .elem (.prod .elem .bool)))],0,true⟩
def lN:Shape:=⟨75,[(6,.ptr 0 0 0),(7,.val false .int)],[(0,Y6)],0,true⟩
def qB:Shape:=⟨75,[(6,.ptr 0 0 0),(8,.val false .int),(9,.ptr 1 0 0)],[(0,Y6),(1,aIM),(2,.row (.prod .elem (.prod .elem .bool)))],0,true⟩
abbrev En:Type:=((Int)×(Int)×(List (UInt8))×Unit)×(Unit)
abbrev bp:Type:=((Int)×(List (UInt8))×(Unit)×(Int)×(Unit)×(Int)×Unit)×(((Int)×(Int)×(List ((aa×(aa×Bool))))×((aa×(aa×Bool)))×((aa×(aa×Bool)))×Unit)×((Int)×(Int)×(Unit)×((aa×(aa×Bool)))×((aa×(aa×Bool)))×Unit)×(List ((aa×(aa×Bool))))×Unit)
abbrev fP:Type:=((Unit)×(Int)×Unit)×(((Int)×(Int)×(List ((aa×(aa×Bool))))×((aa×(aa×Bool)))×((aa×(aa×Bool)))×Unit)×Unit)
abbrev ib:Type:=((Unit)×(Int)×(Unit)×Unit)×(((Int)×(Int)×(List ((aa×(aa×Bool))))×((aa×(aa×Bool)))×((aa×(aa×Bool)))×Unit)×((Int)×(Int)×(Unit)×((aa×(aa×Bool)))×((aa×(aa×Bool)))×Unit)×(List ((aa×(aa×Bool))))×Unit)
def Xo:SE->Option Shape:=fc [(0,qB)] (some lN)
def ash (a0:Int) (a2:List (UInt8)) (a8:Int) (a10:Int) (c0_0:Int) (c0_1:Int) (c0_2:List ((aa×(aa×Bool)))) (c0_3:(aa×(aa×Bool))) (c0_4:(aa×(aa×Bool))) (c1_0:Int) (c1_1:Int) (c1_3:(aa×(aa×Bool))) (c1_4:(aa×(aa×Bool))) (c2:List ((aa×(aa×Bool)))):OT (Sum bp aE):=
 let z0:(aa×aa×Bool)×Int:=jw a0 a10 a2
 let z1:=z0.snd
 let z2:aa:= {w0:=0,w1:=0,w2:=0,w3:=0}
 let z3:aa×aa×Bool:=(z2,z2,false)
 (gd [inR (a8+(2:Int))] (.br (decide (a10<a8+(2:Int)))
 (gd [yZ ((a0,a10,a2,()),())] (.br (!z1==(0:Int))
  (.ok (.inr ⟨(.ret,lN),(((),(z1,())),(((0:Int),((0:Int),([],(z3,(z3,()))))),()))⟩))
  (gd [decide ((List.length c2+1)*72<=140737488355328),inR (a10+(1:Int))] (.ok (.inl ((a0,(a2,((),(a8,((),(a10+(1:Int),())))))),((c0_0,(c0_1,(c0_2,(c0_3,(c0_4,()))))),((c1_0,(c1_1,((),(c1_3,(c1_4,()))))),(c2++ [z0.fst],())))))))))
 (.ok (.inr ⟨(.exit 0,qB),(((),(a8,((),()))),((c0_0,(c0_1,(c0_2,(c0_3,(c0_4,()))))),((c1_0,(c1_1,((),(c1_3,(c1_4,()))))),(c2,()))))⟩))))
def ol (s:bp):OT (Sum bp aE):=ash (s.1.1) (s.1.2.1) (s.1.2.2.2.1) (s.1.2.2.2.2.2.1) (s.2.1.1) (s.2.1.2.1) (s.2.1.2.2.1) (s.2.1.2.2.2.1) (s.2.1.2.2.2.2.1) (s.2.2.1.1) (s.2.2.1.2.1) (s.2.2.1.2.2.2.1) (s.2.2.1.2.2.2.2.1) (s.2.2.2.1)
theorem ase (s:bp) (Q:Sum bp aE->Prop):wps te qh av 1000 (aU (aj Tryz.f33) 0) (sJ.inj s) (bU sJ Xo (Q:Sum sJ.T aE->Prop))=(ol s).wpR Q:=by kernel_rfl
def sK (g0_r:bp->fP) (c0_r:bp->Bool) (g0_0:bp->ib) (s:bp):OT aE:=(.br (c0_r s) (.ok ⟨(.ret,lN),g0_r s⟩) (.ok ⟨(.exit 0,qB),g0_0 s⟩))
def Tg (ok0:bp->Bool) (g0_r:bp->fP) (c0_r:bp->Bool) (g0_0:bp->ib) (a0:Int) (a1:Int) (a2:List (UInt8)):OT gQ.Y:=
 let z0:aa:= {w0:=0,w1:=0,w2:=0,w3:=0}
 let z1:aa×aa×Bool:=(z0,z0,false)
 let z2:Int×Int×List (aa×aa×Bool)×(aa×aa×Bool)×aa×aa×Bool:=((0:Int),(0:Int),[],z1,z1)
 let z3:(aa×aa×Bool)×(aa×aa×Bool)×PUnit:=(z1,z1,())
 let z4:(Int×List UInt8×PUnit×Int×PUnit×Int×PUnit)×(Int×Int×List (aa×aa×Bool)×(aa×aa×Bool)×(aa×aa×Bool)×PUnit)×(Int×Int×PUnit×(aa×aa×Bool)×(aa×aa×Bool)×PUnit)×List (aa×aa×Bool)×PUnit:=((a0,a2,(),Rr (1:Int) (↑(UInt64.toNat (i2u a1)):Int),(),(0:Int),()),((0:Int),(0:Int),[],z3),(a0,a1,(),z3),[],())
 let z5:(PUnit×Int×PUnit)×(Int×Int×List (aa×aa×Bool)×(aa×aa×Bool)×(aa×aa×Bool)×PUnit)×PUnit:=g0_r z4
 let z6:=z5.snd.fst
 let z7:=z6.snd
 let z8:=z7.snd
 let z9:=z8.snd
 let z10:(PUnit×Int×PUnit×PUnit)×(Int×Int×List (aa×aa×Bool)×(aa×aa×Bool)×(aa×aa×Bool)×PUnit)×(Int×Int×PUnit×(aa×aa×Bool)×(aa×aa×Bool)×PUnit)×List (aa×aa×Bool)×PUnit:=g0_0 z4
 let z11:=z10.fst.snd.fst
 let z12:=z10.snd.snd
 let z13:=z12.snd.fst
 let z14:Nat:=List.length z13
 let z15:Nat:=Int.toNat z11
 let z16:Nat:=Int.toNat (z11+(1:Int))
 let z17:=z12.fst
 (.br (decide (a0<(0:Int)))
 (.ok ⟨ix,((z2,((40:Int),())),())⟩)
 (.br (decide ((3:Int)<a0))
  (.ok ⟨ix,((z2,((40:Int),())),())⟩)
  (.br (decide (a1<(0:Int)))
   (.ok ⟨ix,((z2,((60:Int),())),())⟩)
   (.br (decide ((5:Int)<a1))
    (.ok ⟨ix,((z2,((60:Int),())),())⟩)
    (gd [ok0 z4] (.br (c0_r z4)
     (.ok ⟨ix,(((z6.fst,z7.fst,z8.fst,z9.fst,z9.snd.fst),(z5.fst.snd.fst,())),())⟩)
     (gd [inB z11 z14,decide (z15<z14),inR (z11+(1:Int)),inB (z11+(1:Int)) z14,decide (z16<z14),dH (0:Int) z11 z14] (.ok ⟨ix,(((z17.fst,z17.snd.fst,List.take (Int.toNat (z11-(0:Int))) (List.drop 0 z13),List.getD z13 z15 z1,List.getD z13 z16 z1),((0:Int),())),())⟩))))))))
theorem azQ (ok0:bp->Bool) (g0_r:bp->fP) (c0_r:bp->Bool) (g0_0:bp->ib) (x:En) (Q:gQ.Y->Prop):wpf te qh (aO 0 (cf sJ 0 ok0 (sK g0_r c0_r g0_0)) av) 1000 Tryz.f33 (gQ.inp.inj x).tm (gQ.inp.inj x).hp (aJk gQ P0 Q) (λ_ _=>False)=(Tg ok0 g0_r c0_r g0_0 (x.1.1) (x.1.2.1) (x.1.2.2.1)).wpR Q:=by kernel_rfl
theorem acN (ok0:bp->Bool) (g0_r:bp->fP) (c0_r:bp->Bool) (g0_0:bp->ib) (h0:∀ s:bp,ok0 s=true->∃ m e,al (ol) m s=some e/\(sK g0_r c0_r g0_0 s).run=some e) (pre:En->Bool) (F:En->OT gQ.Y) (hF:∀ (x:En) oy,pre x=true->(F x).run=some oy->(Tg ok0 g0_r c0_r g0_0 (x.1.1) (x.1.2.1) (x.1.2.2.1)).run=some oy):ac Tryz.prog 33 (gQ.aI pre F):=
 akx ar nV Ds (f:=33) (fn:=Tryz.f33) (c:=aj Tryz.f33) (by kernel_rfl) (by kernel_rfl) (by kernel_rfl) (S:=gQ) (k:=0) (by kernel_rfl) (λR hR=>(aA (c:=(aj Tryz.f33)) (by kernel_rfl) (id:=0) (by kernel_rfl) (aP ar nV Ds (sh:=sJ) hR (xs:=Xo) (aC (by kernel_rfl) (by kernel_rfl) hR) aM af (n:=1000) (T:=ol) (λs Q=>ase s Q) (ok:=ok0) (f:=sK g0_r c0_r g0_0) h0) af)) (n:=1000) (sel:=P0) (λv o h=>by cases h;rfl) (pre:=pre) (F:=F) (T:=λx=>Tg ok0 g0_r c0_r g0_0 (x.1.1) (x.1.2.1) (x.1.2.2.1)) (λx Q=>azQ ok0 g0_r c0_r g0_0 x Q) hF
theorem aFy {k:Int} (h0:¬k<0) (h5:¬5<k):Rr 1 ((UInt64.toNat (i2u k):Nat):Int)=(Fl k:Int):=by
 have:k=0\/k=1\/k=2\/k=3\/k=4\/k=5:=by omega
 rcases this with rfl|rfl|rfl|rfl|rfl|rfl<;>decide
def P1 (s:bp):Bool:=decide (s.1.2.2.2.2.2.1=0/\0<=s.1.2.2.2.1/\s.1.2.2.2.1<=32/\s.2.2.2.1= []/\s.1.2.1.length<=100000000000)
def A3 (s:bp):List Pt×Int:=yT s.1.1 s.1.2.1 (s.1.2.2.2.1.toNat+2) 0 []
def A4 (s:bp):fP:=(((),(A3 s).2,()),((0,0,[],dC,dC,()),()))
def ID (s:bp):Bool:= !((A3 s).2==(0:Int))
def A5 (s:bp):ib:=(((),s.1.2.2.2.1,(),()),(s.2.1,s.2.2.1,(A3 s).1,()))
abbrev aJP:Type:=Int×Int×Unit×Pt×Pt×Unit
def aFs (N:Int) (p:aH5) (q:aJP) (r:List Pt×Int):aE:=cond (!(r.2==(0:Int))) ⟨(.ret,lN),((((),r.2,()),((0,0,[],dC,dC,()),())):fP)⟩ ⟨(.exit 0,qB),((((),N,(),()),(p,q,r.1,())):ib)⟩
theorem aiY {c:Int} {b:List UInt8} {p:aH5} {q:aJP} {N:Nat} (hN:N<=32) (hl:b.length<=100000000000):∀ (n i:Nat) (l:List Pt),i+n=N+2->l.length=i->∃ m,al ol m ((c,b,(),(N:Int),(),(i:Int),()),(p,q,l,()))=some (aFs (N:Int) p q (yT c b n i l))
 |0,i,l,hi,_=>⟨1,aK ((ah (by simp only [List.all_cons,List.all_nil,Bool.and_true];exact aH (by omega))).trans (OT.aq (decide_eq_false (by dsimp only;omega))))⟩
 |n+1,i,l,hi,hk=>by
  have hstep:(ol ((c,b,(),(N:Int),(),(i:Int),()),(p,q,l,()))).run=(OT.br (!((jw c (i:Int) b).2==(0:Int))) (.ok (.inr ⟨(.ret,lN),((((),(jw c (i:Int) b).2,()),((0,0,[],dC,dC,()),())):fP)⟩))
   (gd [decide ((l.length+1)*72<=140737488355328),inR ((i:Int)+1)] (.ok (.inl ((c,b,(),(N:Int),(),(i:Int)+1,()),(p,q,l++ [(jw c (i:Int) b).1],()))))):OT (Sum bp aE)).run:=
   (ah (by simp only [List.all_cons,List.all_nil,Bool.and_true];exact aH (by omega))).trans ((OT.ao (decide_eq_true (by dsimp only;omega))).trans ((ah (by simp only [List.all_cons,List.all_nil,Bool.and_true];exact decide_eq_true hl)).trans rfl))
  unfold yT
  cases hd: !((jw c (i:Int) b).2==(0:Int))
  ·obtain ⟨m,hm⟩:=aiY (c:=c) (p:=p) (q:=q) hN hl n (i+1) (l++ [(jw c (i:Int) b).1]) (by omega) (by rw [List.length_append];simp only [List.length_cons,List.length_nil];omega)
   refine ⟨m+1,aF (hstep.trans ((OT.aq hd).trans ((ah ?_).trans rfl))) hm⟩
   simp only [List.all_cons,List.all_nil,Bool.and_true,Bool.and_eq_true]
   exact ⟨decide_eq_true (by omega),aH (by omega)⟩
  ·refine ⟨1,aK (hstep.trans ((OT.ao hd).trans ?_))⟩
   unfold aFs
   rw [cond_true]
   dsimp only
   rw [hd]
   rfl
theorem asg:∀ s:bp,P1 s=true->∃ m e,al ol m s=some e/\(sK A4 ID A5 s).run=some e:=by
 rintro ⟨⟨c,b,⟨⟩,n,⟨⟩,i,⟨⟩⟩,⟨p,⟨q1,q2,⟨⟩,q3,q4,⟨⟩⟩,l,⟨⟩⟩⟩ h
 have h':=of_decide_eq_true h
 dsimp only at h'
 obtain ⟨rfl,h0,h1,rfl,hl⟩:=h'
 obtain ⟨N,rfl⟩:∃ N:Nat,n=(N:Int):=⟨n.toNat,by omega⟩
 obtain ⟨m,hm⟩:=aiY (c:=c) (p:=p) (q:=(q1,q2,(),q3,q4,())) (N:=N) (by omega) hl (N+2) 0 [] (by omega) rfl
 refine ⟨m,_,hm,?_⟩
 have e:A3 ((c,b,(),(N:Int),(),0,()),(p,(q1,q2,(),q3,q4,()),[],()))=yT c b (N+2) 0 []:=rfl
 unfold sK ID A4 A5 aFs
 rw [e]
 generalize yT c b (N+2) 0 []=r
 cases hd: !(r.2==(0:Int))
 ·rfl
 ·rfl
def vE (x:En):Bool:=decide (x.1.2.2.1.length<=100000000000)
def aiX (x:En):OT gQ.Y:=.ok ⟨ix,(((fN x.1.1 x.1.2.1 x.1.2.2.1).1,((fN x.1.1 x.1.2.1 x.1.2.2.1).2,())),())⟩
theorem asf:ac Tryz.prog 33 (gQ.aI vE aiX):=acN P1 A4 ID A5 asg _ _ λx oy hp ho=>by
 rw [<-ho]
 clear ho
 obtain ⟨⟨c,k,b,⟨⟩⟩,⟨⟩⟩:=x
 have hl:b.length<=100000000000:=of_decide_eq_true hp
 show _=some (⟨ix,(((fN c k b).1,((fN c k b).2,())),())⟩:gQ.Y)
 rcases (Bool.eq_false_or_eq_true (decide (c<0))).symm with hc|hc
 case inr=>
  have hs:ap c=false:=by rw [vy,hc];rfl
  rw [show fN c k b=(tH,40) from by unfold fN;rw [hs];rfl]
  exact OT.ao hc
 refine (OT.aq hc).trans ?_
 rcases (Bool.eq_false_or_eq_true (decide (3<c))).symm with hd|hd
 case inr=>
  have hs:ap c=false:=by rw [vy,hd];simp
  rw [show fN c k b=(tH,40) from by unfold fN;rw [hs];rfl]
  exact OT.ao hd
 have hs:ap c=true:=by rw [vy,hc,hd];rfl
 refine (OT.aq hd).trans ?_
 by_cases h0:k<0
 ·rw [show fN c k b=(tH,60) from by unfold fN;rw [hs,decide_eq_true h0];rfl]
  exact OT.ao (decide_eq_true h0)
 refine (OT.aq (decide_eq_false h0)).trans ?_
 by_cases h5:5<k
 ·rw [show fN c k b=(tH,60) from by unfold fN;rw [hs,decide_eq_false h0,decide_eq_true h5];rfl]
  exact OT.ao (decide_eq_true h5)
 rw [show fN c k b=azH c k (yT c b (Fl k+2) 0 []) from by unfold fN;rw [hs,decide_eq_false h0,decide_eq_false h5];rfl]
 have hN:=aFy h0 h5
 obtain ⟨_,hn1,hn2⟩:=Uv h0 h5
 refine (OT.aq (decide_eq_false h5)).trans ?_
 have hlen:=AW (c:=c) (b:=b) (Fl k+2) 0 []
 unfold ID A4 A5 A3 azH
 dsimp only
 generalize Fl k=N at*
 rw [hN]
 rw [Int.toNat_natCast]
 generalize yT c b (N+2) 0 []=r at*
 refine (ah ?_).trans ?_
 ·simp only [List.all_cons,List.all_nil,Bool.and_true,Bool.and_eq_true]
  exact decide_eq_true ⟨rfl,by dsimp only;omega,by dsimp only;omega,rfl,hl⟩
 cases hd: !(r.2==(0:Int))
 ·have hlen:=hlen hd
  simp only [List.length_nil] at hlen
  have hlen:r.1.length=N+2:=by omega
  rw [show ((N:Int)+1).toNat=N+1 by omega,show ((N:Int)-0).toNat=N by omega,hlen]
  refine (OT.aq rfl).trans ((ah ?_).trans rfl)
  simp only [List.all_cons,List.all_nil,Bool.and_true,Bool.and_eq_true]
  exact ⟨aN (by omega),decide_eq_true (by omega),aH (by omega),aN (by omega),decide_eq_true (by omega),fH (by omega)⟩
 ·exact (OT.ao rfl).trans rfl
def yV:cj:=(gQ.aI vE aiX)
theorem Xq:ac Tryz.prog 33 yV:=asf
theorem Xp:aG yV:=aB
def xG:Env:=ay 33 yV qh
theorem rO:aQ Tryz.prog xG:=ag Xq nV
theorem C6:ax xG:=ae Xp yC
theorem Hz:aW Tryz.prog te xG:=aL follows ar rO C6
end Go.Proofs.YtohjofabochgfaaGreat

namespace Go.Proofs.YtohjofabochgfaaGreat
namespace Sx
open Go
theorem al4 {R:Ctx} {w:World} (hm:dt R w) {c e:Nat} {t:Ty} {xs:List t.T} (hc:R.hp c=some ⟨e,.row t xs⟩) {n:Nat} (hn:n<=xs.length):
 ∃ R1,R.Ext R1/\dt R1 w/\R1.hp=eu R.hp [(c,⟨e+1,.row t (xs.take n)⟩)]/\∀ v,R.part c e 0 n v->R1.own c (e+1) v:=by
 have h0:=hm.ch c _ hc
 have hlen:(xs.take n).length=n:=by rw [List.length_take];omega
 have hx:R.Ext (R.upd c ⟨e+1,.row t (xs.take n)⟩):=⟨λ_ _ h=>h,rfl,λc' ch' hc'=>by
  by_cases h1:c'=c
  ·subst h1
   rw [hc] at hc'
   cases hc'
   exact ⟨⟨e+1,.row t (xs.take n)⟩,by simp only [Ctx.upd,if_true],Nat.le_succ e,λe'=>absurd e' (by simp)⟩
  ·exact ⟨ch',by simp only [Ctx.upd,if_neg h1,hc'],Nat.le_refl _,λ_=>⟨rfl,rfl⟩⟩⟩
 have hnew:(R.upd c ⟨e+1,.row t (xs.take n)⟩).hp c=some ⟨e+1,.row t (xs.take n)⟩:=by simp only [Ctx.upd,if_true]
 refine ⟨R.upd c ⟨e+1,.row t (xs.take n)⟩,hx,?_,rfl,λv hv=> ?_⟩
 ·cases hσ:R.σ c with
  |none=>
   simp only [eV,hσ] at h0
   obtain ⟨hpos,hl,rfl⟩:=h0
   refine dt.turn hm hx rfl rfl (λ_ _=>rfl) w.heap.size (λ_ _ _=>rfl) ⟨hm.Wo,hm.Wj,λn ch L hn h1 h2 h3=> ?_⟩ ?_ (λL h2=> ?_)
   ·have:=hm.lt h1 h2 h3;omega
   ·simp only [eV,Ctx.upd,hσ]
    exact ⟨hpos,by rw [hlen];omega,List.take_nil⟩
   ·have h2:R.σ c=some L:=h2
    rw [hσ] at h2;cases h2
  |some L=>
   simp only [eV,hσ] at h0
   obtain ⟨hpos,hl,hF,hU,arr,E,k1,k2,k3,k4⟩:=h0
   refine dt.turn hm hx rfl rfl (λ_ _=>rfl) L.block (λ_ _ _=>rfl) ⟨hF,hU,λm ch L' hne h1 h2 h3 hb=> ?_⟩ ?_ (λL' h2=> ?_)
   ·exact hne (hm.apart m c ch _ L' L h1 hc h2 rfl h3 hσ hb)
   ·simp only [eV,Ctx.upd,hσ]
    refine ⟨hpos,by rw [hlen];omega,hF,hU,arr,E,k1,k2,?_,λi hi=> ?_⟩
    ·rw [hlen]
     exact Nat.le_trans (Nat.mul_le_mul_right _ hn) k3
    ·rw [hlen] at hi
     have e1:(xs.take n).getD i t.d=xs.getD i t.d:=by
      simp only [List.getD_eq_getElem?_getD]
      rw [List.getElem?_take_of_lt hi]
     rw [e1]
     exact k4 i (by omega)
   ·have h2:R.σ c=some L':=h2
    rw [hσ] at h2
    cases h2
    rfl
 ·obtain ⟨h1,h2,ad,cap,rfl,h4,h5⟩:=Ctx.di hc hv
  refine ⟨_,hnew,Nat.le_refl _,λ_=>⟨_,hnew,Nat.le_refl _,λ_=>⟨rfl,?_,ad,cap,?_,?_,?_⟩⟩⟩
  ·exact Nat.le_of_eq (Nat.zero_add _)
  ·show Value.slice ad n cap=.slice ad (xs.take n).length cap
   rw [hlen]
  ·show (xs.take n).length<=cap
   rw [hlen]
   exact h4
  ·exact h5
def ak0:List SV->Option (Nat×Nat×Nat)
 | []=>none
 |.part c e 0 n::_=>some (c,e,n)
 |_::r=>ak0 r
def MO:List SV->List SV
 | []=> []
 |.part c e 0 _::r=>.own c (e+1)::r
 |x::r=>x::MO r
def av4 (K:SV->Hp->Prop) (l r:List SV) (hp:Hp):Prop:=match ak0 l with
 |some (c,e,n)=>match eh hp c e with
  |some (.row t xs)=>cond (Nat.ble n xs.length) (K (.tup (.agg (MO l)::r)) (eu hp [(c,⟨e+1,.row t (xs.take n)⟩)])) False
  |_=>False
 |none=>K (.tup (.agg l::r)) hp
def aHi (K:SV->Hp->Prop) (v:SV) (hp:Hp):Prop:=match v with
 |.tup (.agg l::r)=>av4 K l r hp
 |v=>K v hp
theorem ao2 {K K':SV->Hp->Prop} (h:∀ v hp,K v hp->K' v hp) {l r:List SV} {hp:Hp} (hk:av4 K l r hp):av4 K' l r hp:=by
 unfold av4 at hk⊢
 split at hk
 ·rename_i c e n hc
  split at hk
  ·rename_i t xs hg
   try simp only [hg]
   cases hb:Nat.ble n xs.length
   ·rw [hb] at hk;exact hk.elim
   ·rw [hb] at hk;exact h _ _ hk
  ·exact hk.elim
 ·rename_i hc
  exact h _ _ hk
theorem av3 {K K':SV->Hp->Prop} (h:∀ v hp,K v hp->K' v hp) {v:SV} {hp:Hp} (hk:aHi K v hp):aHi K' v hp:=by
 unfold aHi at hk⊢
 split
 ·exact ao2 h hk
 ·rename_i hno
  split at hk
  ·exact absurd rfl (hno _ _)
  ·exact h _ _ hk
theorem RP {R R1:Ctx} (hx:R.Ext R1) {c e n:Nat} (ho:∀ v,R.part c e 0 n v->R1.own c (e+1) v):∀ {l:List SV} {vs:List Value},ak0 l=some (c,e,n)->SV.bV R l vs->SV.bV R1 (MO l) vs
 | [],_,h,_=>by cases h
 |x::l,vs,h,hr=>by
  simp only [SV.bV] at hr
  obtain ⟨v,r,rfl,hv,hr⟩:=hr
  unfold ak0 at h
  split at h
  ·rename_i h1
   cases h1
  ·rename_i c' e' n' r' h1
   cases h1
   cases h
   simp only [SV.rel] at hv
   simp only [MO,SV.bV,SV.rel]
   exact ⟨v,r,rfl,⟨hv.1,ho v hv.2⟩,SV.dN hx _ _ hr⟩
  ·rename_i x' r' hno h1
   cases h1
   have e1:MO (x::l)=x::MO l:=MO.eq_3 _ _ hno
   rw [e1]
   simp only [SV.bV]
   exact ⟨v,r,rfl,SV.Tp hx _ _ hv,RP hx ho h hr⟩
theorem aHh {R:Ctx} {w:World} {K:SV->Hp->Prop} {v:SV} {u:Value} (hm:dt R w) (hv:SV.rel R v u) (hk:aHi K v R.hp):∃ v' R1,R.Ext R1/\dt R1 w/\SV.rel R1 v' u/\K v' R1.hp:=by
 unfold aHi at hk
 split at hk
 ·rename_i l r
  unfold av4 at hk
  split at hk
  ·rename_i c e n hc
   split at hk
   ·rename_i t xs hg
    cases hb:Nat.ble n xs.length
    ·rw [hb] at hk;exact hk.elim
    ·rw [hb] at hk
     obtain ⟨R1,a1,a2,a3,a4⟩:=al4 hm (cH hg) (Nat.le_of_ble_eq_true hb)
     refine ⟨_,R1,a1,a2,?_,by rw [a3];exact hk⟩
     simp only [SV.rel,SV.bV] at hv⊢
     obtain ⟨vs,rfl,v1,r1,rfl,⟨us,rfl,h1,h2⟩,h3⟩:=hv
     exact ⟨_,rfl,_,r1,rfl,⟨us,rfl,RP a1 a4 hc h1,h2⟩,SV.dN a1 _ _ h3⟩
   ·exact hk.elim
  ·exact ⟨_,R,Ctx.Ext.refl R,hm,hv,hk⟩
 ·exact ⟨_,R,Ctx.Ext.refl R,hm,hv,hk⟩
section
variable {P:Program} {te:TE} {Φ:Env} (hte:mZ P te) (hΦ:aQ P Φ) (hany:aW P te Φ)
include hte hΦ hany
theorem aGO {f:FuncId} {fn:Func} {c:Code} (hf:P.funcs[f]? =some fn) (hb:fn.body=some c) (hname:(fn.name== "runtime.NumGoroutine")=false) {S:aw} {k:Nat} (hk:S.chunks.all (λc=>Nat.blt c.1 k&& !c.2.pq)=true) {Λ:Lam}
 (hΛ:∀ R,Small R k->yd P R Λ c) {n:Nat} {pre:S.T->Bool} {F:S.T->OT S.Y}
 (h:∀ x oy,pre x=true->(F x).run=some oy->∃ K,wpf te Φ Λ n fn (S.inp.inj x).tm (S.inp.inj x).hp K (λ_ _=>False)/\(∀ v hp,K v hp->aHi (λv hp=>oy.1.is oy.2 false v hp) v hp)):ac P f (S.aI pre F):=by
 refine ⟨?_⟩
 intro R w d args vs out hm hr hrun
 refine .inl ⟨fn,hf,hname,by rw [hb];rfl,?_⟩
 simp only [aw.aI] at hrun
 split at hrun
 ·cases hrun
 ·rename_i x hx
  obtain ⟨hpre,h2⟩:=OT.aJ hrun
  obtain ⟨oy,h3,h4⟩:=OT.run_bind h2
  unfold aw.emit at h4
  dsimp only at h4
  obtain ⟨hend,h5⟩:=OT.aJ h4
  obtain ⟨K,hwp,hK1⟩:=h x oy hpre h3
  have hx':=hx
  unfold Shape.prj at hx'
  dsimp only at hx'
  cases hbo:S.inp.Jd ⟨args,R.hp⟩ (S.inp.bd ⟨args,R.hp⟩)&&Nat.beq args.length S.inp.n
  ·rw [hbo] at hx';cases hx'
  ·rw [hbo] at hx'
   rw [Bool.and_eq_true] at hbo
   obtain ⟨hx1,hx2⟩:=bn hx'
   have hlen:args.length=S.inp.n:=Nat.eq_of_beq_eq_true hbo.2
   have hN:=BU (s:=S.inp) (st:=⟨args,R.hp⟩) (F':=R.yk (S.inp.bd ⟨args,R.hp⟩) S.bz w) (U':=R.FA (S.inp.bd ⟨args,R.hp⟩) S.bz w) hbo.1 hx2 rfl hm (Cd hm) (tP hm) U2 (Cc hm) Cb akb hm.env
   have hargs:SV.bV (R.named (R.yk (S.inp.bd ⟨args,R.hp⟩) S.bz w) (R.FA (S.inp.bd ⟨args,R.hp⟩) S.bz w) (S.inp.bd ⟨args,R.hp⟩) (dq S.chunks x.2)) (S.inp.inj x).tm vs:=
    ij (s:=S.inp) (st:=⟨args,R.hp⟩) hbo.1 hx2 rfl hm (Cd hm) (tP hm) hr hx1 (SV.sQ (by rw [List.length_replicate,<-hlen];exact SV.aV hr) λi hi hi'=>by simp [SV.rel])
   have hsm:Small (R.named (R.yk (S.inp.bd ⟨args,R.hp⟩) S.bz w) (R.FA (S.inp.bd ⟨args,R.hp⟩) S.bz w) (S.inp.bd ⟨args,R.hp⟩) (dq S.chunks x.2)) k:=λc ch hc=>by
    obtain ⟨s,y',g1,g2,g3⟩:=dE hx2 (hc:dq S.chunks x.2 c=some ch)
    have:=(List.all_eq_true.1 hk) _ g1
    simp only [Bool.and_eq_true,Bool.not_eq_true'] at this
    refine ⟨dW this.1,?_⟩
    rw [g3]
    cases s<;>first|rfl|(cases this.2;done)
   refine (AF hte hΦ hany hf hb (hΛ _ hsm) hN hargs hwp).mono λen w' hp=> ?_
   rcases hp with ⟨y,v,R₁,rfl,hx1,hm1,hv,hy⟩|⟨y,v,R₁,rfl,hx1,hm1,hv,hy⟩
   ·replace hy:=hK1 _ _ hy
    obtain ⟨y2,R₂,b1,b2,b4,hy⟩:=aHh hm1 hv hy
    obtain ⟨R',a1,a2⟩:=Z3 hm hx hk (hx1.trans b1) b2 b4 hy hend
    rw [hy.1] at h5
    cases h5
    exact ⟨v,R',rfl,a1,a2⟩
   ·exact hy.elim
def aKr (S:aw) (sel:SV->Option az) (Q:S.Y->Prop) (v:SV) (hp:Hp):Prop:=aHi (fnK S sel Q) v hp
theorem aBv {f:FuncId} {fn:Func} {c:Code} (hf:P.funcs[f]? =some fn) (hb:fn.body=some c) (hname:(fn.name== "runtime.NumGoroutine")=false) {S:aw} {k:Nat} (hk:S.chunks.all (λc=>Nat.blt c.1 k&& !c.2.pq)=true) {Λ:Lam}
 (hΛ:∀ R,Small R k->yd P R Λ c) {n:Nat} {sel:SV->Option az} (hsel:∀ v o,sel v=some o->o.pan=false) {pre:S.T->Bool} {F T:S.T->OT S.Y}
 (h:∀ x Q,wpf te Φ Λ n fn (S.inp.inj x).tm (S.inp.inj x).hp (aKr S sel Q) (λ_ _=>False)=(T x).wpR Q)
 (hF:∀ x oy,pre x=true->(F x).run=some oy->(T x).run=some oy):ac P f (S.aI pre F):=by
 refine aGO hte hΦ hany hf hb hname hk hΛ (n:=n) λx oy hp hr=>⟨aKr S sel (λz=>z=oy),?_,λv hp hq=> ?_⟩
 ·rw [h,OT.PO];exact OT.lz (hF x oy hp hr) rfl
 ·refine av3 (λv hp hq=> ?_) hq
  unfold fnK at hq
  split at hq
  ·rename_i o ho
   split at hq
   ·rename_i y hy
    subst hq
    exact ⟨hsel v o ho,hy⟩
   ·exact hq.elim
  ·exact hq.elim
end
end Sx
end Go.Proofs.YtohjofabochgfaaGreat

namespace Go.Proofs.YtohjofabochgfaaGreat
open Sx Go
set_option maxRecDepth 100000
def fj:aw:=⟨[.val false .int,.val false .int,.val false (.list .u8)],[],false,0,false⟩
def gx:az:=⟨[.mix (.prod .int .int) 0 (.prod (.prod .elem (.prod .elem .bool)) (.prod .elem (.prod .elem .bool))),.val false .int],[(0,.row (.prod .elem (.prod .elem .bool)))],false⟩
def KM:SV->Option az:=λ_=>some gx
def aKk:CSh:=.cells [.val false .int,.val false .int,.own 1,.val false (.prod .elem (.prod .elem .bool)),.val false (.prod .elem (.prod .elem .bool))]
def oZ:Shape:=lj
def kg:Shape:=⟨70,[(6,.ptr 0 0 0),(7,.val false .int)],[(0,aKk),(1,.row (.prod .elem (.prod .elem .bool)))],0,true⟩
def nt:Shape:=ki
abbrev wc:Type:=((Int)×(Int)×(List (UInt8))×Unit)×(Unit)
abbrev ba:Type:=((Int)×(Int)×(List (UInt8))×(Unit)×(Unit)×(Int)×(Int)×Unit)×(((Int)×(Int)×(List ((aa×(aa×Bool))))×((aa×(aa×Bool)))×((aa×(aa×Bool)))×Unit)×(List ((aa×(aa×Bool))))×Unit)
abbrev e9:Type:=((Unit)×(Int)×Unit)×(((Int)×(Int)×(Unit)×((aa×(aa×Bool)))×((aa×(aa×Bool)))×Unit)×(List ((aa×(aa×Bool))))×Unit)
abbrev gy:Type:=((Int)×(Int)×(Unit)×(Unit)×Unit)×(((Int)×(Int)×(List ((aa×(aa×Bool))))×((aa×(aa×Bool)))×((aa×(aa×Bool)))×Unit)×(List ((aa×(aa×Bool))))×Unit)
def QM:SE->Option Shape:=fc [(0,nt)] (some kg)
def am6 (a0:Int) (a1:Int) (a2:List (UInt8)) (a32:Int) (a33:Int) (c0_0:Int) (c0_1:Int) (c0_2:List ((aa×(aa×Bool)))) (c0_3:(aa×(aa×Bool))) (c0_4:(aa×(aa×Bool))) (c1:List ((aa×(aa×Bool)))):OT (Sum ba aE):=
 let z0:(aa×aa×Bool)×Int:=jw a0 a33 a2
 let z1:=z0.snd
 let z2:aa:= {w0:=0,w1:=0,w2:=0,w3:=0}
 let z3:aa×aa×Bool:=(z2,z2,false)
 (.br (decide (a33<a32))
 (gd [qZ ((a0,a33,a2,()),())] (.br (!z1==(0:Int))
  (.ok (.inr ⟨(.ret,kg),(((),(z1,())),(((0:Int),((0:Int),((),(z3,(z3,()))))),([],())))⟩))
  (gd [decide ((List.length c1+1)*72<=140737488355328),inR (a33+(1:Int))] (.ok (.inl ((a0,(a1,(a2,((),((),(a32,(a33+(1:Int),()))))))),((c0_0,(c0_1,(c0_2,(c0_3,(c0_4,()))))),(c1++ [z0.fst],()))))))))
 (.ok (.inr ⟨(.exit 0,nt),((a0,(a1,((),((),())))),((c0_0,(c0_1,(c0_2,(c0_3,(c0_4,()))))),(c1,())))⟩)))
def li (s:ba):OT (Sum ba aE):=am6 (s.1.1) (s.1.2.1) (s.1.2.2.1) (s.1.2.2.2.2.2.1) (s.1.2.2.2.2.2.2.1) (s.2.1.1) (s.2.1.2.1) (s.2.1.2.2.1) (s.2.1.2.2.2.1) (s.2.1.2.2.2.2.1) (s.2.2.1)
theorem am3 (s:ba) (Q:Sum ba aE->Prop):wps te xG av 1000 (aU (aj Tryz.f31) 0) (oZ.inj s) (bU oZ QM (Q:Sum oZ.T aE->Prop))=(li s).wpR Q:=by kernel_rfl
def o0 (g0_r:ba->e9) (c0_r:ba->Bool) (g0_0:ba->gy) (s:ba):OT aE:=(.br (c0_r s) (.ok ⟨(.ret,kg),g0_r s⟩) (.ok ⟨(.exit 0,nt),g0_0 s⟩))
def KO (ok0:ba->Bool) (g0_r:ba->e9) (c0_r:ba->Bool) (g0_0:ba->gy) (a0:Int) (a1:Int) (a2:List (UInt8)):OT fj.Y:=
 let z0:Int×Int:=((0:Int),(0:Int))
 let z1:aa:= {w0:=0,w1:=0,w2:=0,w3:=0}
 let z2:aa×aa×Bool:=(z1,z1,false)
 let z3:(aa×aa×Bool)×aa×aa×Bool:=(z2,z2)
 let z4:(Int×Int×List UInt8×PUnit×PUnit×Int×Int×PUnit)×(Int×Int×List (aa×aa×Bool)×(aa×aa×Bool)×(aa×aa×Bool)×PUnit)×List (aa×aa×Bool)×PUnit:=((a0,a1,a2,(),(),Rr (1:Int) a1+(2:Int),(0:Int),()),((0:Int),(0:Int),[],z2,z2,()),[],())
 let z5:(PUnit×Int×PUnit)×(Int×Int×PUnit×(aa×aa×Bool)×(aa×aa×Bool)×PUnit)×List (aa×aa×Bool)×PUnit:=g0_r z4
 let z6:=z5.snd
 let z7:=z6.fst
 let z8:=z7.snd
 let z9:=z8.snd.snd
 let z10:(Int×Int×PUnit×PUnit×PUnit)×(Int×Int×List (aa×aa×Bool)×(aa×aa×Bool)×(aa×aa×Bool)×PUnit)×List (aa×aa×Bool)×PUnit:=g0_0 z4
 let z11:=z10.fst
 let z12:=z11.snd.fst
 let z13:Int:=Rr (1:Int) z12
 let z14:Bool:=decide (z13=(0:Int))
 let z15:=z10.snd.snd.fst
 let z16:Nat:=List.length z15
 let z17:Bool:=inB z13 z16
 let z18:Nat:=Int.toNat z13
 let z19:Bool:=decide (z18<z16)
 let z20:Bool:=inR (z13+(1:Int))
 let z21:Bool:=inB (z13+(1:Int)) z16
 let z22:Nat:=Int.toNat (z13+(1:Int))
 let z23:Bool:=decide (z22<z16)
 let z24:Int×Int:=(z11.fst,z12)
 let z25:(aa×aa×Bool)×aa×aa×Bool:=(List.getD z15 z18 z2,List.getD z15 z22 z2)
 let z26:Int:=(↑z16:Int)
 let z27:Bool:=decide (z13=z26)
 (.br (ap a0)
 (.br (decide (a1<(0:Int)))
  (.ok ⟨gx,(((z0,((),z3)),((60:Int),())),([],()))⟩)
  (.br (decide ((5:Int)<a1))
   (.ok ⟨gx,(((z0,((),z3)),((60:Int),())),([],()))⟩)
   (gd [decide ((0:Int)<=a1),inR (Rr (1:Int) a1+(2:Int)),ok0 z4] (.br (c0_r z4)
    (.ok ⟨gx,((((z7.fst,z8.fst),((),(z9.fst,z9.snd.fst))),(z5.fst.snd.fst,())),(z6.snd.fst,()))⟩)
    (gd [decide ((0:Int)<=z12)] (.br (z14&&z14)
     (gd [z17,z19,z20,z21,z23] (.ok ⟨gx,(((z24,((),z25)),((0:Int),())),([],()))⟩))
     (.br (z27&&z27)
      (gd [z17,z19,z20,z21,z23] .fail)
      (gd [decide ((0:Int)<=z13)&&decide (z13<=z13)&&decide (z13<=z26),z17,z19,z20,z21,z23,Nat.ble z18 z16] (.ok ⟨gx,(((z24,((),z25)),((0:Int),())),(List.take z18 z15,()))⟩)))))))))
 (.ok ⟨gx,(((z0,((),z3)),((40:Int),())),([],()))⟩))
theorem atP (ok0:ba->Bool) (g0_r:ba->e9) (c0_r:ba->Bool) (g0_0:ba->gy) (x:wc) (Q:fj.Y->Prop):wpf te xG (aO 0 (cf oZ 0 ok0 (o0 g0_r c0_r g0_0)) av) 1000 Tryz.f31 (fj.inp.inj x).tm (fj.inp.inj x).hp (aKr fj KM Q) (λ_ _=>False)=(KO ok0 g0_r c0_r g0_0 (x.1.1) (x.1.2.1) (x.1.2.2.1)).wpR Q:=by kernel_rfl
theorem YB (ok0:ba->Bool) (g0_r:ba->e9) (c0_r:ba->Bool) (g0_0:ba->gy) (h0:∀ s:ba,ok0 s=true->∃ m e,al (li) m s=some e/\(o0 g0_r c0_r g0_0 s).run=some e) (pre:wc->Bool) (F:wc->OT fj.Y) (hF:∀ (x:wc) oy,pre x=true->(F x).run=some oy->(KO ok0 g0_r c0_r g0_0 (x.1.1) (x.1.2.1) (x.1.2.2.1)).run=some oy):ac Tryz.prog 31 (fj.aI pre F):=
 aBv ar rO Hz (f:=31) (fn:=Tryz.f31) (c:=aj Tryz.f31) (by kernel_rfl) (by kernel_rfl) (by kernel_rfl) (S:=fj) (k:=0) (by kernel_rfl) (λR hR=>(aA (c:=(aj Tryz.f31)) (by kernel_rfl) (id:=0) (by kernel_rfl) (aP ar rO Hz (sh:=oZ) hR (xs:=QM) (aC (by kernel_rfl) (by kernel_rfl) hR) aM af (n:=1000) (T:=li) (λs Q=>am3 s Q) (ok:=ok0) (f:=o0 g0_r c0_r g0_0) h0) af)) (n:=1000) (sel:=KM) (λv o h=>by cases h;rfl) (pre:=pre) (F:=F) (T:=λx=>KO ok0 g0_r c0_r g0_0 (x.1.1) (x.1.2.1) (x.1.2.2.1)) (λx Q=>atP ok0 g0_r c0_r g0_0 x Q) hF
def KN (s:ba):Bool:=decide (s.1.2.2.2.2.2.2.1=0/\0<=s.1.2.2.2.2.2.1/\s.1.2.2.2.2.2.1<=34/\s.2.2.1= []/\s.1.2.2.1.length<=140737488351232)
def tt (s:ba):List Pt×Int:=yT s.1.1 s.1.2.2.1 s.1.2.2.2.2.2.1.toNat 0 []
def wa (s:ba):e9:=(((),(tt s).2,()),((0,0,(),dC,dC,()),[],()))
def BE (s:ba):Bool:= !((tt s).2==(0:Int))
def wb (s:ba):gy:=((s.1.1,s.1.2.1,(),(),()),(s.2.1,(tt s).1,()))
def aFg (c k:Int) (p:aH5) (r:List Pt×Int):aE:=cond (!(r.2==(0:Int))) ⟨(.ret,kg),((((),r.2,()),((0,0,(),dC,dC,()),[],())):e9)⟩ ⟨(.exit 0,nt),(((c,k,(),(),()),(p,r.1,())):gy)⟩
theorem aiQ {c k:Int} {b:List UInt8} {p:aH5} {N:Nat} (hN:N<=34) (hl:b.length<=140737488351232):∀ (n i:Nat) (l:List Pt),i+n=N->l.length=i->∃ m,al li m ((c,k,b,(),(),(N:Int),(i:Int),()),(p,l,()))=some (aFg c k p (yT c b n i l))
 |0,i,l,hi,_=>⟨1,aK (OT.aq (decide_eq_false (by dsimp only;omega)))⟩
 |n+1,i,l,hi,hk=>by
  have hstep:(li ((c,k,b,(),(),(N:Int),(i:Int),()),(p,l,()))).run=(OT.br (!((jw c (i:Int) b).2==(0:Int))) (.ok (.inr ⟨(.ret,kg),((((),(jw c (i:Int) b).2,()),((0,0,(),dC,dC,()),[],())):e9)⟩))
   (gd [decide ((l.length+1)*72<=140737488355328),inR ((i:Int)+1)] (.ok (.inl ((c,k,b,(),(),(N:Int),(i:Int)+1,()),(p,l++ [(jw c (i:Int) b).1],()))))):OT (Sum ba aE)).run:=
   (OT.ao (decide_eq_true (by dsimp only;omega))).trans ((ah (by simp only [List.all_cons,List.all_nil,Bool.and_true];exact decide_eq_true hl)).trans rfl)
  unfold yT
  cases hd: !((jw c (i:Int) b).2==(0:Int))
  ·obtain ⟨m,hm⟩:=aiQ (c:=c) (k:=k) (p:=p) hN hl n (i+1) (l++ [(jw c (i:Int) b).1]) (by omega) (by rw [List.length_append];simp only [List.length_cons,List.length_nil];omega)
   refine ⟨m+1,aF (hstep.trans ((OT.aq hd).trans ((ah ?_).trans rfl))) hm⟩
   simp only [List.all_cons,List.all_nil,Bool.and_true,Bool.and_eq_true]
   exact ⟨decide_eq_true (by omega),aH (by omega)⟩
  ·refine ⟨1,aK (hstep.trans ((OT.ao hd).trans ?_))⟩
   unfold aFg
   rw [cond_true]
   dsimp only
   rw [hd]
   rfl
theorem am5:∀ s:ba,KN s=true->∃ m e,al li m s=some e/\(o0 wa BE wb s).run=some e:=by
 rintro ⟨⟨c,k,b,⟨⟩,⟨⟩,n,i,⟨⟩⟩,⟨p,l,⟨⟩⟩⟩ h
 have h':=of_decide_eq_true h
 dsimp only at h'
 obtain ⟨rfl,h0,h1,rfl,hl⟩:=h'
 obtain ⟨N,rfl⟩:∃ N:Nat,n=(N:Int):=⟨n.toNat,by omega⟩
 obtain ⟨m,hm⟩:=aiQ (c:=c) (k:=k) (p:=p) (N:=N) (by omega) hl N 0 [] (by omega) rfl
 refine ⟨m,_,hm,?_⟩
 have e:tt ((c,k,b,(),(),(N:Int),0,()),(p,[],()))=yT c b N 0 []:=rfl
 unfold o0 BE wa wb aFg
 rw [e]
 generalize yT c b N 0 []=r
 cases hd: !(r.2==(0:Int))
 ·rfl
 ·rfl
def me (x:wc):Bool:=decide (x.1.2.2.1.length<=140737488351232)
def aKb (p:axx×Int):fj.Y:=⟨gx,((((p.1.1,p.1.2.1),((),(p.1.2.2.2.1,p.1.2.2.2.2))),(p.2,())),(p.1.2.2.1,()))⟩
def YC (x:wc):OT fj.Y:=.ok ⟨gx,(((((fN x.1.1 x.1.2.1 x.1.2.2.1).1.1,(fN x.1.1 x.1.2.1 x.1.2.2.1).1.2.1),((),((fN x.1.1 x.1.2.1 x.1.2.2.1).1.2.2.2.1,(fN x.1.1 x.1.2.1 x.1.2.2.1).1.2.2.2.2))),((fN x.1.1 x.1.2.1 x.1.2.2.1).2,())),((fN x.1.1 x.1.2.1 x.1.2.2.1).1.2.2.1,()))⟩
theorem am4:ac Tryz.prog 31 (fj.aI me YC):=YB KN wa BE wb am5 _ _ λx oy hp ho=>by
 rw [<-ho]
 clear ho
 obtain ⟨⟨c,k,b,⟨⟩⟩,⟨⟩⟩:=x
 have hl:b.length<=140737488351232:=of_decide_eq_true hp
 show _=some (aKb (fN c k b))
 rcases (Bool.eq_false_or_eq_true (ap c)).symm with hs|hs
 ·rw [show fN c k b=(tH,40) from by unfold fN;rw [hs];rfl]
  exact OT.aq hs
 refine (OT.ao hs).trans ?_
 by_cases h0:k<0
 ·rw [show fN c k b=(tH,60) from by unfold fN;rw [hs,decide_eq_true h0];rfl]
  exact OT.ao (decide_eq_true h0)
 refine (OT.aq (decide_eq_false h0)).trans ?_
 by_cases h5:5<k
 ·rw [show fN c k b=(tH,60) from by unfold fN;rw [hs,decide_eq_false h0,decide_eq_true h5];rfl]
  exact OT.ao (decide_eq_true h5)
 rw [show fN c k b=azH c k (yT c b (Fl k+2) 0 []) from by unfold fN;rw [hs,decide_eq_false h0,decide_eq_false h5];rfl]
 obtain ⟨hN,hn1,hn2⟩:=Uv h0 h5
 refine (OT.aq (decide_eq_false h5)).trans ?_
 have hlen:=AW (c:=c) (b:=b) (Fl k+2) 0 []
 unfold BE wa wb tt azH
 dsimp only
 generalize Fl k=N at*
 rw [hN]
 rw [show ((N:Int)+2).toNat=N+2 by omega]
 generalize yT c b (N+2) 0 []=r at*
 refine (ah ?_).trans ?_
 ·simp only [List.all_cons,List.all_nil,Bool.and_true,Bool.and_eq_true]
  exact ⟨decide_eq_true (by omega),aH (by omega),decide_eq_true ⟨rfl,by dsimp only;omega,by dsimp only;omega,rfl,hl⟩⟩
 cases hd: !(r.2==(0:Int))
 ·have hlen:=hlen hd
  simp only [List.length_nil] at hlen
  have hlen:r.1.length=N+2:=by omega
  rw [show ((N:Int)+1).toNat=N+1 by omega,hlen]
  refine (OT.aq rfl).trans ((ah (by simp only [List.all_cons,List.all_nil,Bool.and_true];exact decide_eq_true (by omega))).trans ((OT.aq (by rw [decide_eq_false (by omega)];rfl)).trans ((OT.aq (by rw [decide_eq_false (by omega)];rfl)).trans ((ah ?_).trans rfl))))
  simp only [List.all_cons,List.all_nil,Bool.and_true,Bool.and_eq_true]
  exact ⟨⟨⟨decide_eq_true (by omega),decide_eq_true (by omega)⟩,decide_eq_true (by omega)⟩,aN (by omega),decide_eq_true (by omega),aH (by omega),aN (by omega),decide_eq_true (by omega),Nat.ble_eq_true_of_le (by omega)⟩
 ·exact (OT.ao rfl).trans rfl
def tr:cj:=(Rw 2 (fj.aI me YC))
theorem Uf:ac Tryz.prog 31 tr:=(ZK am4)
theorem Ue:aG tr:=(L7 aB)
def NZ:Env:=ay 31 tr xG
theorem abC:aQ Tryz.prog NZ:=ag Uf rO
theorem PF:ax NZ:=ae Ue C6
abbrev YH:aw:=gA
abbrev qX:=E6
abbrev YI:=Ul
theorem anb:ac Tryz.prog 34 (YH.aI qX YI):=YK
def tx:cj:=(ZL 0 2 (YH.aI qX YI))
theorem Uk:ac Tryz.prog 34 tx:=(avb anb)
theorem Uj:aG tx:=(aeQ aB)
def va:Env:=ay 34 tx NZ
theorem u9:aQ Tryz.prog va:=ag Uk abC
theorem PG:ax va:=ae Uj PF
theorem Dv:aW Tryz.prog te va:=aL follows ar u9 PG
end Go.Proofs.YtohjofabochgfaaGreat

namespace Go.Proofs.YtohjofabochgfaaGreat
open Sx Go
theorem ffP {P:Prop} (h:false=true):P:=nomatch h
theorem ftP {P:Prop} (h:true=false):P:=nomatch h
theorem aiS {c:Int} {b:List UInt8}:∀ (n i:Nat) (l:List Pt),l.length=i->(∀ j,j<i->((jw c (j:Int) b).2==(0:Int))=true/\l.getD j dC=(jw c (j:Int) b).1)->(!((yT c b n i l).2==(0:Int)))=false->
 ∀ j,j<i+n->((jw c (j:Int) b).2==(0:Int))=true/\(yT c b n i l).1.getD j dC=(jw c (j:Int) b).1
 |0,_,_,_,h,_=>h
 |n+1,i,l,hk,h,he=>by
  unfold yT at he⊢
  cases hd: !((jw c (i:Int) b).2==(0:Int))
  ·rw [hd,cond_false] at he
   rw [cond_false]
   intro j hj
   refine aiS n (i+1) (l++ [(jw c (i:Int) b).1]) (by rw [List.length_append];simp only [List.length_cons,List.length_nil];omega) (λj hj=> ?_) he j (by omega)
   by_cases hji:j<i
   ·rw [List.getD_eq_getElem?_getD,List.getElem?_append_left (by omega),<-List.getD_eq_getElem?_getD]
    exact h j hji
   ·have:j=i:=by omega
    subst this
    refine ⟨?_,?_⟩
    ·rw [<-Bool.not_not ((jw c (j:Int) b).2==(0:Int)),hd]
     rfl
    ·rw [List.getD_eq_getElem?_getD,List.getElem?_append_right (by omega),show j-l.length=0 by omega]
     rfl
  ·rw [hd] at he
   exact absurd (hd.symm.trans he) (by decide)
theorem ar7 {c k:Int} {b:List UInt8} (h:(!((fN c k b).2==(0:Int)))=false):∃ l:List Pt,ap c=true/\¬k<0/\¬5<k/\l.length=Fl k+2/\(∀ j,j<Fl k+2->((jw c (j:Int) b).2==(0:Int))=true/\l.getD j dC=(jw c (j:Int) b).1)/\
 fN c k b=((c,k,l.take (Fl k),l.getD (Fl k) dC,l.getD (Fl k+1) dC),0):=by
 unfold fN at h⊢
 cases hs:ap c
 ·rw [hs] at h;exact ftP h
 rw [hs,cond_true] at h
 rw [cond_true]
 by_cases h0:k<0
 ·rw [decide_eq_true h0] at h;exact ftP h
 rw [decide_eq_false h0,cond_false] at h⊢
 by_cases h5:5<k
 ·rw [decide_eq_true h5] at h;exact ftP h
 rw [decide_eq_false h5,cond_false] at h⊢
 unfold azH at h⊢
 have h1:=AW (c:=c) (b:=b) (Fl k+2) 0 []
 have h2:=aiS (c:=c) (b:=b) (Fl k+2) 0 [] rfl (λj hj=>by omega)
 generalize yT c b (Fl k+2) 0 []=r at*
 cases hr: !(r.2==(0:Int))
 ·refine ⟨r.1,rfl,h0,h5,?_,λj hj=>h2 hr j (by omega),rfl⟩
  have:=h1 hr
  simp only [List.length_nil] at this
  omega
 ·rw [hr,cond_true] at h
  rw [show (tH,r.2).2=r.2 from rfl] at h
  exact absurd (hr.symm.trans h) (by decide)
theorem azJ {c k:Int} {b:List UInt8} (h:(!((fN c k b).2==(0:Int)))=true):(fN c k b).1=tH:=by
 unfold fN at h⊢
 cases hs:ap c
 ·rfl
 rw [hs,cond_true] at h
 rw [cond_true]
 by_cases h0:k<0
 ·rw [decide_eq_true h0];rfl
 rw [decide_eq_false h0,cond_false] at h⊢
 by_cases h5:5<k
 ·rw [decide_eq_true h5];rfl
 rw [decide_eq_false h5,cond_false] at h⊢
 unfold azH at h⊢
 generalize yT c b (Fl k+2) 0 []=r at*
 cases hr: !(r.2==(0:Int))
 ·rw [hr] at h;exact ffP h
 ·rfl
theorem azI (c k:Int) (b:List UInt8):(fN c k b).1.2.2.1.length<=32:=by
 cases h: !((fN c k b).2==(0:Int))
 ·obtain ⟨l,hs,h0,h5,hl,ha,e⟩:=ar7 h
  obtain ⟨hN,hn1,hn2⟩:=Uv h0 h5
  rw [e]
  show (l.take (Fl k)).length<=32
  rw [List.length_take]
  omega
 ·rw [azJ h]
  exact Nat.zero_le _
end Go.Proofs.YtohjofabochgfaaGreat

namespace Go.Proofs.YtohjofabochgfaaGreat
open Sx Go
set_option maxRecDepth 100000
def ia:aw:=⟨[.val false .int,.val false .int,.val false (.list .u8)],[],true,0,false⟩
def aJ0 (n:Nat):CSh:=.cells [.val false .int,.val false .int,.own n,.val false (.prod .elem (.prod .elem .bool)),.val false (.prod .elem (.prod .elem .bool))]
def B6:Shape:=⟨80,[(7,.ptr 0 0 0),(9,.ptr 1 0 0),(11,.ptr 2 0 0),(13,.val false .int)],[(0,aJ0 3),(1,aJ0 4),(2,Y6),(3,.row (.prod .elem (.prod .elem .bool))),(4,.row (.prod .elem (.prod .elem .bool)))],0,true⟩
def wK:Shape:=⟨80,[(7,.ptr 0 0 0),(9,.ptr 1 0 0),(11,.ptr 2 0 0)],[(0,aJ0 3),(1,aJ0 4),(2,Y6),(3,.row (.prod .elem (.prod .elem .bool))),(4,.row (.prod .elem (.prod .elem .bool)))],0,true⟩
abbrev Rp:Type:=((Int)×(Int)×(List (UInt8))×Unit)×(Unit)
abbrev c8:Type:=((Unit)×(Unit)×(Unit)×(Int)×Unit)×(((Int)×(Int)×(Unit)×((aa×(aa×Bool)))×((aa×(aa×Bool)))×Unit)×((Int)×(Int)×(Unit)×((aa×(aa×Bool)))×((aa×(aa×Bool)))×Unit)×((Int)×(Int)×(List ((aa×(aa×Bool))))×((aa×(aa×Bool)))×((aa×(aa×Bool)))×Unit)×(List ((aa×(aa×Bool))))×(List ((aa×(aa×Bool))))×Unit)
abbrev jN:Type:=((Unit)×(Unit)×(Unit)×Unit)×(((Int)×(Int)×(Unit)×((aa×(aa×Bool)))×((aa×(aa×Bool)))×Unit)×((Int)×(Int)×(Unit)×((aa×(aa×Bool)))×((aa×(aa×Bool)))×Unit)×((Int)×(Int)×(List ((aa×(aa×Bool))))×((aa×(aa×Bool)))×((aa×(aa×Bool)))×Unit)×(List ((aa×(aa×Bool))))×(List ((aa×(aa×Bool))))×Unit)
def aj8:SE->Option Shape:=fc [(0,wK)] none
def aA8 (a13:Int) (c0_0:Int) (c0_1:Int) (c0_3:(aa×(aa×Bool))) (c0_4:(aa×(aa×Bool))) (c1_0:Int) (c1_1:Int) (c1_3:(aa×(aa×Bool))) (c1_4:(aa×(aa×Bool))) (c2_0:Int) (c2_1:Int) (c2_2:List ((aa×(aa×Bool)))) (c2_3:(aa×(aa×Bool))) (c2_4:(aa×(aa×Bool))) (c3:List ((aa×(aa×Bool)))) (c4:List ((aa×(aa×Bool)))):OT (Sum c8 aE):=
 let z0:Nat:=List.length c3
 let z1:Nat:=Int.toNat a13
 let z2:aa:= {w0:=0,w1:=0,w2:=0,w3:=0}
 (.br (decide (a13<(↑z0:Int)))
 (gd [inB a13 z0,decide (z1<z0),inR (a13+(1:Int))] (.ok (.inl (((),((),((),(a13+(1:Int),())))),((c0_0,(c0_1,((),(c0_3,(c0_4,()))))),((c1_0,(c1_1,((),(c1_3,(c1_4,()))))),((c2_0,(c2_1,(c2_2,(c2_3,(c2_4,()))))),(List.set c3 z1 (z2,z2,false),(c4,())))))))))
 (.ok (.inr ⟨(.exit 0,wK),(((),((),((),()))),((c0_0,(c0_1,((),(c0_3,(c0_4,()))))),((c1_0,(c1_1,((),(c1_3,(c1_4,()))))),((c2_0,(c2_1,(c2_2,(c2_3,(c2_4,()))))),(c3,(c4,()))))))⟩)))
def B8 (s:c8):OT (Sum c8 aE):=aA8 (s.1.2.2.2.1) (s.2.1.1) (s.2.1.2.1) (s.2.1.2.2.2.1) (s.2.1.2.2.2.2.1) (s.2.2.1.1) (s.2.2.1.2.1) (s.2.2.1.2.2.2.1) (s.2.2.1.2.2.2.2.1) (s.2.2.2.1.1) (s.2.2.2.1.2.1) (s.2.2.2.1.2.2.1) (s.2.2.2.1.2.2.2.1) (s.2.2.2.1.2.2.2.2.1) (s.2.2.2.2.1) (s.2.2.2.2.2.1)
theorem aA5 (s:c8) (Q:Sum c8 aE->Prop):wps te va av 1000 (aU (aj Tryz.f10) 0) (B6.inj s) (bU B6 aj8 (Q:Sum B6.T aE->Prop))=(B8 s).wpR Q:=by kernel_rfl
def IX (g0_0:c8->jN) (s:c8):OT aE:=(.ok ⟨(.exit 0,wK),g0_0 s⟩)
def fL:az:=⟨[.val false .bool],[],false⟩
def Zs:SV->Option az:=λ_=>some fL
def UZ (ok0:c8->Bool) (g0_0:c8->jN) (a0:Int) (a1:Int) (a2:List (UInt8)):OT ia.Y:=
 let z0:Int×Int×List UInt8×PUnit:=(a0,a1,a2,())
 let z1:Bool:=me (z0,())
 let z2:Bool:=vE (z0,())
 let z3:=(fN a0 a1 a2).fst
 let z4:=z3.fst
 let z5:=z3.snd
 let z6:=z5.fst
 let z7:=z5.snd
 let z8:=z7.snd
 let z9:(aa×aa×Bool)×(aa×aa×Bool)×PUnit:=(z8.fst,z8.snd,())
 let z10:=z3.snd
 let z11:=z10.snd
 let z12:=z11.snd
 let z13:=z7.fst
 let z14:(PUnit×PUnit×PUnit×Int×PUnit)×(Int×Int×PUnit×(aa×aa×Bool)×(aa×aa×Bool)×PUnit)×(Int×Int×PUnit×(aa×aa×Bool)×(aa×aa×Bool)×PUnit)×(Int×Int×List (aa×aa×Bool)×(aa×aa×Bool)×(aa×aa×Bool)×PUnit)×List (aa×aa×Bool)×List (aa×aa×Bool)×PUnit:=(((),(),(),(0:Int),()),(z4,z6,(),z9),(z4,z6,(),z9),(z3.fst,z10.fst,z11.fst,z12.fst,z12.snd,()),z13,z13,())
 let z15:Bool:=ok0 z14
 let z16:=(g0_0 z14).snd.snd
 let z17:=z16.snd
 let z18:=z17.snd
 let z19:=z18.fst
 let z20:Bool:=decide ((List.length z19+2)*72<=140737488355328)
 let z21:aa:= {w0:=0,w1:=0,w2:=0,w3:=0}
 let z22:aa×aa×Bool:=(z21,z21,false)
 let z23:Bool:=decide ((2:Int)<=(↑(List.length (z19++ [z22,z22])):Int))
 let z24:=z16.fst
 let z25:=z24.snd
 let z26:=z25.snd.snd
 let z27:Int×Int×List (aa×aa×Bool)×(aa×aa×Bool)×aa×aa×Bool:=(z24.fst,z25.fst,z18.snd.fst,z26.fst,z26.snd.fst)
 let z28:=z17.fst
 let z29:=z28.snd
 let z30:=z29.snd
 let z31:=z30.snd
 let z32:Int×Int×List (aa×aa×Bool)×(aa×aa×Bool)×aa×aa×Bool:=(z28.fst,z29.fst,z30.fst,z31.fst,z31.snd.fst)
 let z33:Bool:=qX ((z27,z32,()),())
 let z34:Bool:=acC z27 z32
 (.br (decide ((1000:Int)<(↑(List.length a2):Int)))
 (.ok ⟨fL,((true,()),())⟩)
 (.br (decide ((1:Int)<a0))
  (.br (decide (a0<(4:Int)))
   (.br (decide ((1:Int)<a1))
    (.ok ⟨fL,((true,()),())⟩)
    (gd [z1,z1,z2,z15,z20] (.br (z23)
     (gd [z33] (.ok ⟨fL,((z34,()),())⟩))
     (.ok ⟨fL,((false,()),())⟩))))
   (gd [z1,z1,z2,z15,z20] (.br (z23)
    (gd [z33] (.ok ⟨fL,((z34,()),())⟩))
    (.ok ⟨fL,((false,()),())⟩))))
  (gd [z1,z1,z2,z15,z20] (.br (z23)
   (gd [z33] (.ok ⟨fL,((z34,()),())⟩))
   (.ok ⟨fL,((false,()),())⟩)))))
theorem aGs (ok0:c8->Bool) (g0_0:c8->jN) (x:Rp) (Q:ia.Y->Prop):wpf te va (aO 0 (cf B6 0 ok0 (IX g0_0)) av) 1000 Tryz.f10 (ia.inp.inj x).tm (ia.inp.inj x).hp (fnK ia Zs Q) (λ_ _=>False)=(UZ ok0 g0_0 (x.1.1) (x.1.2.1) (x.1.2.2.1)).wpR Q:=by kernel_rfl
theorem an3 (ok0:c8->Bool) (g0_0:c8->jN) (h0:∀ s:c8,ok0 s=true->∃ m e,al (B8) m s=some e/\(IX g0_0 s).run=some e) (pre:Rp->Bool) (F:Rp->OT ia.Y) (hF:∀ (x:Rp) oy,pre x=true->(F x).run=some oy->(UZ ok0 g0_0 (x.1.1) (x.1.2.1) (x.1.2.2.1)).run=some oy):ac Tryz.prog 10 (ia.aI pre F):=
 aD ar u9 Dv (f:=10) (fn:=Tryz.f10) (c:=aj Tryz.f10) (by kernel_rfl) (by kernel_rfl) (by kernel_rfl) (S:=ia) (k:=0) (by kernel_rfl) (λR hR=>(aA (c:=(aj Tryz.f10)) (by kernel_rfl) (id:=0) (by kernel_rfl) (aP ar u9 Dv (sh:=B6) hR (xs:=aj8) (aC (by kernel_rfl) (by kernel_rfl) hR) aM af (n:=1000) (T:=B8) (λs Q=>aA5 s Q) (ok:=ok0) (f:=IX g0_0) h0) af)) (n:=1000) (sel:=Zs) (λv o h=>by cases h;rfl) (pre:=pre) (F:=F) (T:=λx=>UZ ok0 g0_0 (x.1.1) (x.1.2.1) (x.1.2.2.1)) (λx Q=>aGs ok0 g0_0 x Q) hF
def aDE (k:Nat) (o:List Pt):List Pt:=o.set k dC
def aqo (l:List Pt):List Pt:=upto aDE l l.length
theorem m5 (l:List Pt):∀ n,(upto aDE l n).length=l.length
 |0=>rfl
 |n+1=>(List.length_set ..).trans (m5 l n)
def B7 (s:c8):Bool:=decide (s.1.2.2.2.1=0/\s.2.2.2.2.1.length<=32)
def UY (s:c8):jN:=(((),(),(),()),(s.2.1,s.2.2.1,s.2.2.2.1,aqo s.2.2.2.2.1,s.2.2.2.2.2.1,()))
theorem aA7:∀ s:c8,B7 s=true->∃ m e,al B8 m s=some e/\(IX UY s).run=some e:=by
 rintro ⟨⟨⟨⟩,⟨⟩,⟨⟩,i,⟨⟩⟩,⟨⟨a1,a2,⟨⟩,a3,a4,⟨⟩⟩,⟨b1,b2,⟨⟩,b3,b4,⟨⟩⟩,w,G,H,⟨⟩⟩⟩ h
 obtain ⟨h0,hl⟩:=of_decide_eq_true h
 dsimp only at h0 hl
 subst h0
 obtain ⟨m,hm⟩:=zC (T:=B8) (λk=>((((),(),(),(k:Int),()),((a1,a2,(),a3,a4,()),(b1,b2,(),b3,b4,()),w,upto aDE G k,H,())):c8)) G.length
  (e:=(⟨(.exit 0,wK),((((),(),(),()),((a1,a2,(),a3,a4,()),(b1,b2,(),b3,b4,()),w,aqo G,H,())):jN)⟩:aE))
  (λk hk=>by
   have hn:=m5 G k
   refine (OT.ao (decide_eq_true (by dsimp only;omega))).trans ((ah ?_).trans ?_)
   ·simp only [List.all_cons,List.all_nil,Bool.and_true,Bool.and_eq_true]
    exact ⟨aN (by omega),decide_eq_true (by omega),aH (by omega)⟩
   ·rfl)
  (OT.aq (decide_eq_false (by dsimp only;rw [m5];omega))) 0 (Nat.zero_le _)
 exact ⟨m,_,hm,rfl⟩
def LL (_:Rp):Bool:=true
def auJ (_:Rp):OT ia.Y:=.ok ⟨fL,((true,()),())⟩
theorem atX {c k:Int} {b:List UInt8} (hl:b.length<=1000):(gd [me ((c,k,b,()),()),me ((c,k,b,()),()),vE ((c,k,b,()),()),B7 (((),(),(),0,()),(((fN c k b).1.1,(fN c k b).1.2.1,(),(fN c k b).1.2.2.2.1,(fN c k b).1.2.2.2.2,()),((fN c k b).1.1,(fN c k b).1.2.1,(),(fN c k b).1.2.2.2.1,(fN c k b).1.2.2.2.2,()),
 ((fN c k b).1.1,(fN c k b).1.2.1,(fN c k b).1.2.2.1,(fN c k b).1.2.2.2.1,(fN c k b).1.2.2.2.2,()),(fN c k b).1.2.2.1,(fN c k b).1.2.2.1,())),decide (((aqo (fN c k b).1.2.2.1).length+2)*72<=140737488355328)]
 (.br (decide ((2:Int)<=((aqo (fN c k b).1.2.2.1++ [dC,dC]).length:Int))) (gd [qX (((fN c k b).1,(fN c k b).1,()),())] (.ok ⟨fL,((acC (fN c k b).1 (fN c k b).1,()),())⟩)) (.ok ⟨fL,((false,()),())⟩)):OT ia.Y).run=some (⟨fL,((true,()),())⟩:ia.Y):=by
 have hn:=azI c k b
 generalize (fN c k b).1=p at*
 have hw:(aqo p.2.2.1).length=p.2.2.1.length:=m5 _ _
 refine (ah ?_).trans ((OT.ao (decide_eq_true ?_)).trans ((ah ?_).trans ?_))
 ·simp only [List.all_cons,List.all_nil,Bool.and_true,Bool.and_eq_true]
  exact ⟨decide_eq_true (show b.length<=_ by omega),decide_eq_true (show b.length<=_ by omega),decide_eq_true (show b.length<=_ by omega),decide_eq_true ⟨rfl,hn⟩,decide_eq_true (by rw [hw];omega)⟩
 ·rw [List.length_append]
  simp only [List.length_cons,List.length_nil]
  omega
 ·simp only [List.all_cons,List.all_nil,Bool.and_true]
  exact decide_eq_true (show p.2.2.1.length<=_ by omega)
 ·rw [al6]
  rfl
theorem aA6:ac Tryz.prog 10 (ia.aI LL auJ):=an3 B7 UY aA7 _ _ λx oy hp ho=>by
 rw [<-ho]
 clear ho
 obtain ⟨⟨c,k,b,⟨⟩⟩,⟨⟩⟩:=x
 show (UZ B7 UY c k b).run=some (⟨fL,((true,()),())⟩:ia.Y)
 by_cases h:(1000:Int)<(b.length:Int)
 ·exact (OT.ao (decide_eq_true h)).trans rfl
 have Iq:=atX (c:=c) (k:=k) (b:=b) (by omega)
 refine (OT.aq (decide_eq_false h)).trans ?_
 rcases (Bool.eq_false_or_eq_true (decide ((1:Int)<c))).symm with h1|h1
 ·exact (OT.aq h1).trans Iq
 ·refine (OT.ao h1).trans ?_
  rcases (Bool.eq_false_or_eq_true (decide (c<(4:Int)))).symm with h2|h2
  ·exact (OT.aq h2).trans Iq
  ·refine (OT.ao h2).trans ?_
   rcases (Bool.eq_false_or_eq_true (decide ((1:Int)<k))).symm with h3|h3
   ·exact (OT.aq h3).trans Iq
   ·exact OT.ao h3
def an2:cj:=(ia.aI LL auJ)
theorem aez:ac Tryz.prog 10 an2:=aA6
end Go.Proofs.YtohjofabochgfaaGreat
