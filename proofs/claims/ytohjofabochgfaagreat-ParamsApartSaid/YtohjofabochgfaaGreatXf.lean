/- A symbolic machine for Go code over plain data, and functions of the program as it shows them. No statement is proved in this file. -/
import Derived.KernelRfl
import Derived.Test.YtohjofabochgfaaGreatXe
set_option linter.unusedSimpArgs false
set_option linter.unusedVariables false
set_option linter.unusedSectionVars false

namespace Go.Proofs.YtohjofabochgfaaGreat
open Sx Go
set_option maxRecDepth 100000
def eF:aw:=⟨[.val true aIV,.val false (.list .elem),.val true .elem],[],true,0,false⟩
abbrev vL:Type:=(((Int×(Int×(List ((aa×(aa×Bool)))×((aa×(aa×Bool))×(aa×(aa×Bool)))))))×(List (aa))×(aa)×Unit)×(Unit)
def oS:Shape:=⟨54,[(3,.ptr 0 0 0),(6,.ptr 1 0 0),(9,.own 2),(30,.val false (.list .elem)),(31,.val false .int),(32,.val false .int)],[(0,.cells [.val false .int,.val false .int,.val false (.list (.prod .elem (.prod .elem .bool))),.val false .u64,.val false .u64,.val false .u64,.val false .u64,.val false .u64,.val false .u64,.val false .u64,.val false .u64,.val false .bool,.val false .u64,.val false .u64,.val false .u64,.val false .u64,.val false .u64,.val false .u64,.val false .u64,.val false .u64,.val false .bool]),(1,.cells [.val false .u64,.val false .u64,.val false .u64,.val false .u64,.val false .u64,.val false .u64,.val false .u64,.val false .u64,.val false .bool]),(2,.row (.prod .elem (.prod .elem (.prod .elem .bool))))],0,true⟩
abbrev b7:Type:=((Unit)×(Unit)×(Unit)×(List (aa))×(Int)×(Int)×Unit)×(((Int)×(Int)×(List ((aa×(aa×Bool))))×(UInt64)×(UInt64)×(UInt64)×(UInt64)×(UInt64)×(UInt64)×(UInt64)×(UInt64)×(Bool)×(UInt64)×(UInt64)×(UInt64)×(UInt64)×(UInt64)×(UInt64)×(UInt64)×(UInt64)×(Bool)×Unit)×((UInt64)×(UInt64)×(UInt64)×(UInt64)×(UInt64)×(UInt64)×(UInt64)×(UInt64)×(Bool)×Unit)×(List ((aa×(aa×(aa×Bool)))))×Unit)
def ng:Shape:=⟨54,[(3,.ptr 0 0 0),(6,.ptr 1 0 0),(9,.own 2)],[(0,.cells [.val false .int,.val false .int,.val false (.list (.prod .elem (.prod .elem .bool))),.val false .u64,.val false .u64,.val false .u64,.val false .u64,.val false .u64,.val false .u64,.val false .u64,.val false .u64,.val false .bool,.val false .u64,.val false .u64,.val false .u64,.val false .u64,.val false .u64,.val false .u64,.val false .u64,.val false .u64,.val false .bool]),(1,.cells [.val false .u64,.val false .u64,.val false .u64,.val false .u64,.val false .u64,.val false .u64,.val false .u64,.val false .u64,.val false .bool]),(2,.row (.prod .elem (.prod .elem (.prod .elem .bool))))],0,true⟩
abbrev iO:Type:=((Unit)×(Unit)×(Unit)×Unit)×(((Int)×(Int)×(List ((aa×(aa×Bool))))×(UInt64)×(UInt64)×(UInt64)×(UInt64)×(UInt64)×(UInt64)×(UInt64)×(UInt64)×(Bool)×(UInt64)×(UInt64)×(UInt64)×(UInt64)×(UInt64)×(UInt64)×(UInt64)×(UInt64)×(Bool)×Unit)×((UInt64)×(UInt64)×(UInt64)×(UInt64)×(UInt64)×(UInt64)×(UInt64)×(UInt64)×(Bool)×Unit)×(List ((aa×(aa×(aa×Bool)))))×Unit)
def Qe:SE->Option Shape:=fw [(0,ng)] none
def amq (a30:List (aa)) (a31:Int) (a32:Int) (c0_0:Int) (c0_1:Int) (c0_2:List ((aa×(aa×Bool)))) (c0_3:UInt64) (c0_4:UInt64) (c0_5:UInt64) (c0_6:UInt64) (c0_7:UInt64) (c0_8:UInt64) (c0_9:UInt64) (c0_10:UInt64) (c0_11:Bool) (c0_12:UInt64) (c0_13:UInt64) (c0_14:UInt64) (c0_15:UInt64) (c0_16:UInt64) (c0_17:UInt64) (c0_18:UInt64) (c0_19:UInt64) (c0_20:Bool) (c1_0:UInt64) (c1_1:UInt64) (c1_2:UInt64) (c1_3:UInt64) (c1_4:UInt64) (c1_5:UInt64) (c1_6:UInt64) (c1_7:UInt64) (c1_8:Bool) (c2:List ((aa×(aa×(aa×Bool))))):OT (Sum b7 aE):=
 let z0:Nat:=Int.toNat a32
 let z1:aa:= {w0:=0,w1:=0,w2:=0,w3:=0}
 (.br (decide (a32<a31))
 (gd [inB a32 (List.length a30),inB a32 (List.length c0_2),decide ((List.length c2+1)*104<=140737488355328),inR (a32+(1:Int))] (.ok (.inl (((),((),((),(a30,(a31,(a32+(1:Int),())))))),((c0_0,(c0_1,(c0_2,(c0_3,(c0_4,(c0_5,(c0_6,(c0_7,(c0_8,(c0_9,(c0_10,(c0_11,(c0_12,(c0_13,(c0_14,(c0_15,(c0_16,(c0_17,(c0_18,(c0_19,(c0_20,()))))))))))))))))))))),((c1_0,(c1_1,(c1_2,(c1_3,(c1_4,(c1_5,(c1_6,(c1_7,(c1_8,()))))))))),(c2++ [(List.getD a30 z0 z1,List.getD c0_2 z0 (z1,z1,false))],())))))))
 (.ok (.inr ⟨(.exit 0,ng),(((),((),((),()))),((c0_0,(c0_1,(c0_2,(c0_3,(c0_4,(c0_5,(c0_6,(c0_7,(c0_8,(c0_9,(c0_10,(c0_11,(c0_12,(c0_13,(c0_14,(c0_15,(c0_16,(c0_17,(c0_18,(c0_19,(c0_20,()))))))))))))))))))))),((c1_0,(c1_1,(c1_2,(c1_3,(c1_4,(c1_5,(c1_6,(c1_7,(c1_8,()))))))))),(c2,()))))⟩)))
def oT (s:b7):OT (Sum b7 aE):=amq (s.1.2.2.2.1) (s.1.2.2.2.2.1) (s.1.2.2.2.2.2.1) (s.2.1.1) (s.2.1.2.1) (s.2.1.2.2.1) (s.2.1.2.2.2.1) (s.2.1.2.2.2.2.1) (s.2.1.2.2.2.2.2.1) (s.2.1.2.2.2.2.2.2.1) (s.2.1.2.2.2.2.2.2.2.1) (s.2.1.2.2.2.2.2.2.2.2.1) (s.2.1.2.2.2.2.2.2.2.2.2.1) (s.2.1.2.2.2.2.2.2.2.2.2.2.1) (s.2.1.2.2.2.2.2.2.2.2.2.2.2.1) (s.2.1.2.2.2.2.2.2.2.2.2.2.2.2.1) (s.2.1.2.2.2.2.2.2.2.2.2.2.2.2.2.1) (s.2.1.2.2.2.2.2.2.2.2.2.2.2.2.2.2.1) (s.2.1.2.2.2.2.2.2.2.2.2.2.2.2.2.2.2.1) (s.2.1.2.2.2.2.2.2.2.2.2.2.2.2.2.2.2.2.1) (s.2.1.2.2.2.2.2.2.2.2.2.2.2.2.2.2.2.2.2.1) (s.2.1.2.2.2.2.2.2.2.2.2.2.2.2.2.2.2.2.2.2.1) (s.2.1.2.2.2.2.2.2.2.2.2.2.2.2.2.2.2.2.2.2.2.1) (s.2.1.2.2.2.2.2.2.2.2.2.2.2.2.2.2.2.2.2.2.2.2.1) (s.2.2.1.1) (s.2.2.1.2.1) (s.2.2.1.2.2.1) (s.2.2.1.2.2.2.1) (s.2.2.1.2.2.2.2.1) (s.2.2.1.2.2.2.2.2.1) (s.2.2.1.2.2.2.2.2.2.1) (s.2.2.1.2.2.2.2.2.2.2.1) (s.2.2.1.2.2.2.2.2.2.2.2.1) (s.2.2.2.1)
theorem amn (s:b7) (Q:Sum b7 aE->Prop):wps te FR av 1000 (aU (aj Tryz.f39) 0) (oS.inj s) (bX oS Qe (Q:Sum oS.T aE->Prop))=(oT s).wpR Q:=by kernel_rfl
def vK (g0_0:b7->iO) (s:b7):OT aE:=(.ok ⟨(.exit 0,ng),g0_0 s⟩)
def du:az:=⟨[.val true (.prod .elem (.prod .elem .bool)),.val false .int],[],false⟩
def Kq:SV->Option az:=λ_=>some du
def A7 (ok0:b7->Bool) (g0_0:b7->iO) (a0:(Int×(Int×(List ((aa×(aa×Bool)))×((aa×(aa×Bool))×(aa×(aa×Bool))))))) (a1:List (aa)) (a2:aa):OT eF.Y:=
 let z0:Int:=ue a0
 let z1:aa:= {w0:=0,w1:=0,w2:=0,w3:=0}
 let z2:aa×aa×Bool:=(z1,z1,false)
 let z3:Int:=(↑(List.length a1):Int)
 let z4:(PUnit×PUnit×PUnit×List aa×Int×Int×PUnit)×(Int×Int×List (aa×aa×Bool)×UInt64×UInt64×UInt64×UInt64×UInt64×UInt64×UInt64×UInt64×Bool×UInt64×UInt64×UInt64×UInt64×UInt64×UInt64×UInt64×UInt64×Bool×PUnit)×(UInt64×UInt64×UInt64×UInt64×UInt64×UInt64×UInt64×UInt64×Bool×PUnit)×List (aa×aa×aa×Bool)×PUnit:=(((),(),(),a1,z3,(0:Int),()),(a0.fst,a0.snd.fst,a0.snd.snd.fst,a0.snd.snd.snd.fst.fst.w0,a0.snd.snd.snd.fst.fst.w1,a0.snd.snd.snd.fst.fst.w2,a0.snd.snd.snd.fst.fst.w3,a0.snd.snd.snd.fst.snd.fst.w0,a0.snd.snd.snd.fst.snd.fst.w1,a0.snd.snd.snd.fst.snd.fst.w2,a0.snd.snd.snd.fst.snd.fst.w3,a0.snd.snd.snd.fst.snd.snd,a0.snd.snd.snd.snd.fst.w0,a0.snd.snd.snd.snd.fst.w1,a0.snd.snd.snd.snd.fst.w2,a0.snd.snd.snd.snd.fst.w3,a0.snd.snd.snd.snd.snd.fst.w0,a0.snd.snd.snd.snd.snd.fst.w1,a0.snd.snd.snd.snd.snd.fst.w2,a0.snd.snd.snd.snd.snd.fst.w3,a0.snd.snd.snd.snd.snd.snd,()),((0:UInt64),(0:UInt64),(0:UInt64),(0:UInt64),(0:UInt64),(0:UInt64),(0:UInt64),(0:UInt64),false,()),[(a2,a0.snd.snd.snd.fst)],())
 let z5:=(g0_0 z4).snd
 let z6:=z5.fst.fst
 let z7:=z5.snd.snd.fst
 (gd [vM ((a0,()),())] (.br (!z0==(0:Int))
 (.ok ⟨du,((z2,(z0,())),())⟩)
 (.br (decide ((↑(List.length a0.snd.snd.fst):Int)<z3))
  (.ok ⟨du,((z2,((50:Int),())),())⟩)
  (gd [ok0 z4] (.br (al z6)
   (.br (decide (List.length z7<=100000))
    (.br (rY z6 z7)
     (.ok ⟨du,((ahQ z6 (aa1 z6 z7),((0:Int),())),())⟩)
     (.ok ⟨du,((z2,((41:Int),())),())⟩))
    (.ok ⟨du,((z2,((50:Int),())),())⟩))
   (.ok ⟨du,((z2,((40:Int),())),())⟩))))))
theorem asQ (ok0:b7->Bool) (g0_0:b7->iO) (x:vL) (Q:eF.Y->Prop):wpf te FR (aO 0 (cg oS 0 ok0 (vK g0_0)) av) 1000 Tryz.f39 (eF.inp.inj x).tm (eF.inp.inj x).hp (fnK eF Kq Q) (λ_ _=>False)=(A7 ok0 g0_0 (x.1.1) (x.1.2.1) (x.1.2.2.1)).wpR Q:=by kernel_rfl
theorem XQ (ok0:b7->Bool) (g0_0:b7->iO) (h0:∀ s:b7,ok0 s=true->∃ m e,ao (oT) m s=some e/\(vK g0_0 s).run=some e) (pre:vL->Bool) (F:vL->OT eF.Y) (hF:∀ (x:vL) oy,pre x=true->(F x).run=some oy->(A7 ok0 g0_0 (x.1.1) (x.1.2.1) (x.1.2.2.1)).run=some oy):ac Tryz.prog 39 (eF.aI pre F):=
 aD aq xa Nb (f:=39) (fn:=Tryz.f39) (c:=aj Tryz.f39) (by kernel_rfl) (by kernel_rfl) (by kernel_rfl) (S:=eF) (k:=0) (by kernel_rfl) (λR hR=>(aB (c:=(aj Tryz.f39)) (by kernel_rfl) (id:=0) (by kernel_rfl) (aQ aq xa Nb (sh:=oS) hR (xs:=Qe) (aC (by kernel_rfl) (by kernel_rfl) hR) aL af (n:=1000) (T:=oT) (λs Q=>amn s Q) (ok:=ok0) (f:=vK g0_0) h0) af)) (n:=1000) (sel:=Kq) (λv o h=>by cases h;rfl) (pre:=pre) (F:=F) (T:=λx=>A7 ok0 g0_0 (x.1.1) (x.1.2.1) (x.1.2.2.1)) (λx Q=>asQ ok0 g0_0 x Q) hF
theorem avh {p:aGG} (h:(ue p==0)=true):p.2.2.1.length<=32:=by
 unfold ue at h
 cases h1:al p.1
 ·rw [h1] at h;cases h
 ·rw [h1] at h
  by_cases h2:p.2.1<0
  ·rw [decide_eq_true h2] at h;cases h
  ·rw [decide_eq_false h2] at h
   by_cases h3:5<p.2.1
   ·rw [decide_eq_true h3] at h;cases h
   ·rw [decide_eq_false h3] at h
    cases h4:(p.2.2.1.length:Int)==T5 1 p.2.1
    ·rw [h4] at h;cases h
    ·rw [beq_iff_eq] at h4
     have h6:T5 1 p.2.1<=32:=by
      have:p.2.1=0\/p.2.1=1\/p.2.1=2\/p.2.1=3\/p.2.1=4\/p.2.1=5:=by omega
      rcases this with e|e|e|e|e|e<;>rw [e]<;>decide
     omega
def aGe (G:List Pt) (l:List aa) (k:Nat) (o:List Tm):List Tm:=o++ [(l.getD k ⟨0,0,0,0⟩,G.getD k ac8)]
def aGd (p:aGG) (l:List aa) (b:aa):List Tm:=upto (aGe p.2.2.1 l) [(b,p.2.2.2.1)] l.length
def yG (s:b7):Bool:=decide (s.1.2.2.2.2.1=(s.1.2.2.2.1.length:Int)/\s.1.2.2.2.2.2.1=0/\s.1.2.2.2.1.length<=s.2.1.2.2.1.length/\s.2.1.2.2.1.length<=32/\s.2.2.2.1.length=1)
def Ev (s:b7):iO:=(((),(),(),()),(s.2.1,s.2.2.1,upto (aGe s.2.1.2.2.1 s.1.2.2.2.1) s.2.2.2.1 s.1.2.2.2.1.length,()))
theorem amp:∀ s:b7,yG s=true->∃ m e,ao oT m s=some e/\(vK Ev s).run=some e:=by
 rintro ⟨⟨⟨⟩,⟨⟩,⟨⟩,l,n,i,⟨⟩⟩,⟨q,t,o,⟨⟩⟩⟩ h
 have h':=of_decide_eq_true h
 dsimp only at h'
 obtain ⟨rfl,rfl,hl,hG,ho⟩:=h'
 obtain ⟨u,rfl⟩:∃ u,o= [u]:=by
  match o,ho with
  | [u],_=>exact ⟨u,rfl⟩
 have:=(aP (T:=oT) (λk o=>((((),(),(),l,(l.length:Int),(k:Int),()),(q,t,o,())):b7)) (aGe q.2.2.1 l)
  (λo=>(⟨(.exit 0,ng),(((),(),(),()),(q,t,o,()))⟩:aE)) l.length [u] (λk o=>o.length=k+1) rfl (λk o hk hq=>⟨?_,?_⟩) (λo _=> ?_)).1
 ·obtain ⟨m,hm⟩:=this
  exact ⟨m,_,hm,rfl⟩
 ·have hq:o.length=k+1:=hq
  refine (OT.ap (decide_eq_true (by dsimp only;omega))).trans ((ah ?_).trans rfl)
  simp only [List.all_cons,List.all_nil,Bool.and_true,Bool.and_eq_true]
  exact ⟨aN (by omega),aN (by omega),decide_eq_true (by omega),aH (by omega)⟩
 ·show (o++ [_]).length=_
  rw [List.length_append,show o.length=k+1 from hq]
  rfl
 ·exact OT.ar (decide_eq_false (by dsimp only;omega))
def aIv (p:aGG) (l:List aa) (b:aa):Pt×Int:=cond (!(ue p==0)) (ac8,ue p) (cond (decide ((p.2.2.1.length:Int)<(l.length:Int))) (ac8,50)
 (cond (al p.1) (cond (decide ((aGd p l b).length<=100000)) (cond (rY p.1 (aGd p l b)) (ahQ p.1 (aa1 p.1 (aGd p l b)),0) (ac8,41)) (ac8,50)) (ac8,40)))
def Kr (x:vL):Bool:=decide (x.1.1.2.2.1.length<=140737488355328)
def XR (x:vL):OT eF.Y:=.ok ⟨du,(((aIv x.1.1 x.1.2.1 x.1.2.2.1).1,((aIv x.1.1 x.1.2.1 x.1.2.2.1).2,())),())⟩
theorem amo:ac Tryz.prog 39 (eF.aI Kr XR):=XQ yG Ev amp _ _ λx oy hp ho=>by
 rw [<-ho]
 clear ho
 obtain ⟨⟨p,l,b,⟨⟩⟩,⟨⟩⟩:=x
 show (A7 yG Ev p l b).run=some (⟨du,(((aIv p l b).1,((aIv p l b).2,())),())⟩:eF.Y)
 have hp:vM ((p,()),())=true:=hp
 unfold aIv
 refine (ah (by rw [hp];rfl)).trans ?_
 rcases (Bool.eq_false_or_eq_true (!(ue p==0))).symm with h1|h1
 ·rw [h1]
  refine (OT.ar rfl).trans ?_
  by_cases h2:(p.2.2.1.length:Int)<(l.length:Int)
  ·rw [decide_eq_true h2]
   exact (OT.ap rfl).trans rfl
  ·rw [decide_eq_false h2]
   have h0:(ue p==0)=true:=by
    cases hq:ue p==0
    ·rw [hq] at h1;cases h1
    ·rfl
   have hG:=avh h0
   refine (OT.ar rfl).trans ((ah ?_).trans ?_)
   ·simp only [List.all_cons,List.all_nil,Bool.and_true]
    exact decide_eq_true ⟨rfl,rfl,by show l.length<=p.2.2.1.length;omega,hG,rfl⟩
   ·show (OT.br (al p.1) (.br (decide ((aGd p l b).length<=100000)) (.br (rY p.1 (aGd p l b)) (.ok ⟨du,((ahQ p.1 (aa1 p.1 (aGd p l b)),((0:Int),())),())⟩) (.ok ⟨du,((ac8,((41:Int),())),())⟩)) (.ok ⟨du,((ac8,((50:Int),())),())⟩)) (.ok ⟨du,((ac8,((40:Int),())),())⟩):OT eF.Y).run=_
    generalize aGd p l b=t
    cases al p.1<;>cases decide (t.length<=100000)<;>cases rY p.1 t<;>rfl
 ·rw [h1]
  exact (OT.ap rfl).trans rfl
def s9:cj:=(eF.aI Kr XR)
theorem Tw:ac Tryz.prog 39 s9:=amo
theorem Tv:aG s9:=aA
def uJ:Env:=ay 39 s9 FR
theorem uI:aR Tryz.prog uJ:=ag Tw xa
theorem xP:ax uJ:=ae Tv G9
theorem Vz:aW Tryz.prog te uJ:=aK follows aq uI xP
def iI:aw:=⟨[.val false .int,.val false .int,.val false (.list .u8)],[],false,0,false⟩
abbrev El:Type:=((Int)×(Int)×(List (UInt8))×Unit)×(Unit)
def s4:az:=⟨[.val true (.prod .int (.prod .int (.prod (.list (.prod .elem (.prod .elem .bool))) (.prod (.prod .elem (.prod .elem .bool)) (.prod .elem (.prod .elem .bool)))))),.val false .int],[],false⟩
def P4:SV->Option az:=λ_=>some s4
def Tj (a0:Int) (a1:Int) (a2:List (UInt8)):OT iI.Y:=
 let z0:aa:= {w0:=0,w1:=0,w2:=0,w3:=0}
 let z1:aa×aa×Bool:=(z0,z0,false)
 let z2:Int×Int×List (aa×aa×Bool)×(aa×aa×Bool)×aa×aa×Bool:=((0:Int),(0:Int),[],z1,z1)
 (.br (al a0)
 (.br (decide (a1<(0:Int)))
  (.ok ⟨s4,((z2,((60:Int),())),())⟩)
  (.br (decide ((5:Int)<a1))
   (.ok ⟨s4,((z2,((60:Int),())),())⟩)
   (gd [decide ((0:Int)<=a1),inR (T5 (1:Int) a1+(2:Int))] .fail)))
 (.ok ⟨s4,((z2,((40:Int),())),())⟩))
theorem azr (x:El) (Q:iI.Y->Prop):wpf te uJ (aO 0 (λ_ _=>False) av) 1000 Tryz.f31 (iI.inp.inj x).tm (iI.inp.inj x).hp (fnK iI P4 Q) (λ_ _=>False)=(Tj (x.1.1) (x.1.2.1) (x.1.2.2.1)).wpR Q:=by kernel_rfl
theorem acR (pre:El->Bool) (F:El->OT iI.Y) (hF:∀ (x:El) oy,pre x=true->(F x).run=some oy->(Tj (x.1.1) (x.1.2.1) (x.1.2.2.1)).run=some oy):ac Tryz.prog 31 (iI.aI pre F):=
 aD aq uI Vz (f:=31) (fn:=Tryz.f31) (c:=aj Tryz.f31) (by kernel_rfl) (by kernel_rfl) (by kernel_rfl) (S:=iI) (k:=0) (by kernel_rfl) (λR hR=>(aB (c:=(aj Tryz.f31)) (by kernel_rfl) (id:=0) (by kernel_rfl) (λ_ _ _ _ _ _ _ _ h _=>h.elim) af)) (n:=1000) (sel:=P4) (λv o h=>by cases h;rfl) (pre:=pre) (F:=F) (T:=λx=>Tj (x.1.1) (x.1.2.1) (x.1.2.2.1)) (λx Q=>azr x Q) hF
def Bf:aGG:=(0,0,[],ac8,ac8)
def P5 (x:El):Bool:=al x.1.1&&decide (5<x.1.2.1)
def aiE (_:El):OT iI.Y:=.ok ⟨s4,((Bf,((60:Int),())),())⟩
theorem asE:ac Tryz.prog 31 (iI.aI P5 aiE):=acR _ _ λx oy hp ho=>by
 rw [<-ho]
 clear ho
 obtain ⟨⟨c,k,b,⟨⟩⟩,⟨⟩⟩:=x
 obtain ⟨hs,hk⟩:=(Bool.and_eq_true _ _).mp hp
 have hk:5<k:=of_decide_eq_true hk
 exact (OT.ap hs).trans ((OT.ar (decide_eq_false (show ¬k<0 by omega))).trans ((OT.ap (decide_eq_true hk)).trans rfl))
def yD:cj:=(iI.aI P5 aiE)
theorem XD:ac Tryz.prog 31 yD:=asE
theorem XC:aG yD:=aA
def CL:Env:=ay 31 yD uJ
theorem zy:aR Tryz.prog CL:=ag XD uI
theorem CK:ax CL:=ae XC xP
theorem aaw:aW Tryz.prog te CL:=aK follows aq zy CK
def iP:aw:=⟨[],[],true,0,false⟩
abbrev Ez:Type:=(Unit)×(Unit)
def A9:az:=⟨[.val false .bool],[],false⟩
def Qg:SV->Option az:=λ_=>some A9
def H3:OT iP.Y:=
 (.ok ⟨A9,((true,()),())⟩)
theorem azE (x:Ez) (Q:iP.Y->Prop):wpf te CL av 1000 Tryz.f28 (iP.inp.inj x).tm (iP.inp.inj x).hp (fnK iP Qg Q) (λ_ _=>False)=(H3).wpR Q:=by kernel_rfl
theorem ac3 (pre:Ez->Bool) (F:Ez->OT iP.Y) (hF:∀ (x:Ez) oy,pre x=true->(F x).run=some oy->(H3).run=some oy):ac Tryz.prog 28 (iP.aI pre F):=
 aD aq zy aaw (f:=28) (fn:=Tryz.f28) (c:=aj Tryz.f28) (by kernel_rfl) (by kernel_rfl) (by kernel_rfl) (S:=iP) (k:=0) (by kernel_rfl) (λR hR=>af) (n:=1000) (sel:=Qg) (λv o h=>by cases h;rfl) (pre:=pre) (F:=F) (T:=λx=>H3) (λx Q=>azE x Q) hF
def Qh (_:Ez):Bool:=true
def aiK (_:Ez):OT iP.Y:=.ok ⟨A9,((true,()),())⟩
theorem asW:ac Tryz.prog 28 (iP.aI Qh aiK):=ac3 _ _ λx oy hp ho=>by
 rw [<-ho]
 clear ho
 show H3.run=some ⟨A9,((true,()),())⟩
 kernel_rfl
def yJ:cj:=(iP.aI Qh aiK)
theorem XX:ac Tryz.prog 28 yJ:=asW
theorem XW:aG yJ:=aA
def CS:Env:=ay 28 yJ CL
theorem zD:aR Tryz.prog CS:=ag XX zy
theorem CR:ax CS:=ae XW CK
theorem aaz:aW Tryz.prog te CS:=aK follows aq zD CR
def Jc:aw:=⟨[],[],true,0,false⟩
abbrev aGI:Type:=(Unit)×(Unit)
def arh:az:=⟨[.val true (.arr 8 .u64)],[],false⟩
def ard:SV->Option az:=λ_=>some arh
def aEo:OT Jc.Y:=
 (.ok ⟨arh,(([(7640891576956012808:UInt64),(13503953896175478587:UInt64),(4354685564936845355:UInt64),(11912009170470909681:UInt64),(5840696475078001361:UInt64),(11170449401992604703:UInt64),(2270897969802886507:UInt64),(6620516959819538809:UInt64)],()),())⟩)
theorem aI7 (x:aGI) (Q:Jc.Y->Prop):wpf te CS av 1000 Tryz.f104 (Jc.inp.inj x).tm (Jc.inp.inj x).hp (fnK Jc ard Q) (λ_ _=>False)=(aEo).wpR Q:=by kernel_rfl
theorem ayR (pre:aGI->Bool) (F:aGI->OT Jc.Y) (hF:∀ (x:aGI) oy,pre x=true->(F x).run=some oy->(aEo).run=some oy):ac Tryz.prog 104 (Jc.aI pre F):=
 aD aq zD aaz (f:=104) (fn:=Tryz.f104) (c:=aj Tryz.f104) (by kernel_rfl) (by kernel_rfl) (by kernel_rfl) (S:=Jc) (k:=0) (by kernel_rfl) (λR hR=>af) (n:=1000) (sel:=ard) (λv o h=>by cases h;rfl) (pre:=pre) (F:=F) (T:=λx=>aEo) (λx Q=>aI7 x Q) hF
def arf (_:aGI):Bool:=true
def aHz (_:aGI):OT Jc.Y:=.ok ⟨arh,((bIV,()),())⟩
theorem aHy:ac Tryz.prog 104 (Jc.aI arf aHz):=ayR _ _ λx oy _ ho=>ho
def Sr:cj:=(Jc.aI arf aHz)
theorem ari:ac Tryz.prog 104 Sr:=aHy
theorem arc:aG Sr:=aA
def aoH:Env:=ay 104 Sr CS
theorem IB:aR Tryz.prog aoH:=ag ari zD
theorem RH:ax aoH:=ae arc CR
theorem aar:aW Tryz.prog te aoH:=aK follows aq IB RH
def lv:aw:=⟨[.val false (.list .u8),.val false .int],[],true,0,false⟩
abbrev Pa:Type:=((List (UInt8))×(Int)×Unit)×(Unit)
def Al:Shape:=⟨29,[(0,.val false (.list .u8)),(1,.val false .int),(5,.val false .u64),(6,.val false .int)],[],0,true⟩
abbrev cS:Type:=((List (UInt8))×(Int)×(UInt64)×(Int)×Unit)×(Unit)
def u6:Shape:=⟨29,[(5,.val false .u64)],[],0,true⟩
abbrev lu:Type:=((UInt64)×Unit)×(Unit)
def ahX:SE->Option Shape:=fw [(0,u6)] none
def ayK (a0:List (UInt8)) (a1:Int) (a5:UInt64) (a6:Int):OT (Sum cS aE):=
 let z0:Bool:=inR (a1+a6)
 let z1:Nat:=List.length a0
 let z2:Bool:=inR (a6-(1:Int))
 (.br (decide ((0:Int)<=a6))
 (gd [z0] (.br (decide (a1+a6<(↑z1:Int)))
  (gd [z0,inB (a1+a6) z1,z2] (.ok (.inl ((a0,(a1,(a5*(256:UInt64)+UInt8.toUInt64 (List.getD a0 (Int.toNat (a1+a6)) (0:UInt8)),(a6-(1:Int),())))),()))))
  (gd [z2] (.ok (.inl ((a0,(a1,(a5*(256:UInt64),(a6-(1:Int),())))),()))))))
 (.ok (.inr ⟨(.exit 0,u6),((a5,()),())⟩)))
def Am (s:cS):OT (Sum cS aE):=ayK (s.1.1) (s.1.2.1) (s.1.2.2.1) (s.1.2.2.2.1)
theorem ayH (s:cS) (Q:Sum cS aE->Prop):wps te aoH av 1000 (aU (aj Tryz.f105) 0) (Al.inj s) (bX Al ahX (Q:Sum Al.T aE->Prop))=(Am s).wpR Q:=by kernel_rfl
def HP (g0_0:cS->lu) (s:cS):OT aE:=(.ok ⟨(.exit 0,u6),g0_0 s⟩)
def Se:az:=⟨[.val false .u64],[],false⟩
def Wh:SV->Option az:=λ_=>some Se
def abz (ok0:cS->Bool) (g0_0:cS->lu) (a0:List (UInt8)) (a1:Int):OT lv.Y:=
 let z0:(List UInt8×Int×UInt64×Int×PUnit)×PUnit:=((a0,a1,(0:UInt64),(7:Int),()),())
 (gd [ok0 z0] (.ok ⟨Se,(((g0_0 z0).fst.fst,()),())⟩))
theorem aEa (ok0:cS->Bool) (g0_0:cS->lu) (x:Pa) (Q:lv.Y->Prop):wpf te aoH (aO 0 (cg Al 0 ok0 (HP g0_0)) av) 1000 Tryz.f105 (lv.inp.inj x).tm (lv.inp.inj x).hp (fnK lv Wh Q) (λ_ _=>False)=(abz ok0 g0_0 (x.1.1) (x.1.2.1)).wpR Q:=by kernel_rfl
theorem ak6 (ok0:cS->Bool) (g0_0:cS->lu) (h0:∀ s:cS,ok0 s=true->∃ m e,ao (Am) m s=some e/\(HP g0_0 s).run=some e) (pre:Pa->Bool) (F:Pa->OT lv.Y) (hF:∀ (x:Pa) oy,pre x=true->(F x).run=some oy->(abz ok0 g0_0 (x.1.1) (x.1.2.1)).run=some oy):ac Tryz.prog 105 (lv.aI pre F):=
 aD aq IB aar (f:=105) (fn:=Tryz.f105) (c:=aj Tryz.f105) (by kernel_rfl) (by kernel_rfl) (by kernel_rfl) (S:=lv) (k:=0) (by kernel_rfl) (λR hR=>(aB (c:=(aj Tryz.f105)) (by kernel_rfl) (id:=0) (by kernel_rfl) (aQ aq IB aar (sh:=Al) hR (xs:=ahX) (aC (by kernel_rfl) (by kernel_rfl) hR) aL af (n:=1000) (T:=Am) (λs Q=>ayH s Q) (ok:=ok0) (f:=HP g0_0) h0) af)) (n:=1000) (sel:=Wh) (λv o h=>by cases h;rfl) (pre:=pre) (F:=F) (T:=λx=>abz ok0 g0_0 (x.1.1) (x.1.2.1)) (λx Q=>aEa ok0 g0_0 x Q) hF
def im (b:List UInt8) (p:Nat):UInt64:=upto (λk v=>v*256+UInt8.toUInt64 (b.getD (p+(7-k)) 0)) 0 8
def Wi (s:cS):Bool:=decide (s.1.2.2.1=0/\s.1.2.2.2.1=7/\0<=s.1.2.1/\s.1.2.1<=1000000000000)
def ahY (s:cS):lu:=((im s.1.1 s.1.2.1.toNat,()),())
theorem ayJ:∀ s:cS,Wi s=true->∃ m e,ao Am m s=some e/\(HP ahY s).run=some e:=by
 rintro ⟨⟨b,p,v,i,⟨⟩⟩,⟨⟩⟩ h
 have h':=of_decide_eq_true h
 dsimp only at h'
 obtain ⟨rfl,rfl,hp0,hp⟩:=h'
 obtain ⟨p,rfl⟩:∃ q:Nat,p=(q:Int):=⟨p.toNat,by omega⟩
 have:=(aP (T:=Am) (λk v=>(((b,(p:Int),v,7-(k:Int),()),()):cS)) (λk v=>v*256+UInt8.toUInt64 (b.getD (p+(7-k)) 0))
  (λv=>(⟨(.exit 0,u6),((v,()),())⟩:aE)) 8 0 (λ_ _=>True) trivial (λk v hk _=>⟨?_,trivial⟩) (λv _=> ?_)).1
 ·obtain ⟨m,hm⟩:=this
  exact ⟨m,_,hm,rfl⟩
 ·have e1:((p:Int)+(7-(k:Int))).toNat=p+(7-k):=by omega
  have e2:(7:Int)-((k:Int))-1=7-((k+1:Nat):Int):=by omega
  refine (OT.ap (decide_eq_true (by dsimp only;omega))).trans ((ah ?_).trans ?_)
  ·simp only [List.all_cons,List.all_nil,Bool.and_true]
   exact aH (by omega)
  ·by_cases hx:(p:Int)+(7-(k:Int))<(b.length:Int)
   ·refine (OT.ap (decide_eq_true hx)).trans ((ah ?_).trans ?_)
    ·simp only [List.all_cons,List.all_nil,Bool.and_true,Bool.and_eq_true]
     exact ⟨aH (by omega),aN (by omega),aH (by omega)⟩
    ·simp only [OT.cL,e1,e2]
   ·refine (OT.ar (decide_eq_false hx)).trans ((ah ?_).trans ?_)
    ·simp only [List.all_cons,List.all_nil,Bool.and_true]
     exact aH (by omega)
    ·have e3:b.getD (p+(7-k)) 0=0:=by
      rw [List.getD_eq_getElem?_getD,List.getElem?_eq_none (by omega)];rfl
     have e4:v*256+UInt8.toUInt64 0=v*256:=by
      show v*256+0=v*256
      rw [UInt64.add_zero]
     simp only [OT.cL,e2,e3,e4]
 ·exact OT.ar (decide_eq_false (by dsimp only;omega))
def I1 (x:Pa):Bool:=decide (0<=x.1.2.1/\x.1.2.1<=1000000000000)
def aqS (x:Pa):OT lv.Y:=.ok ⟨Se,((im x.1.1 x.1.2.1.toNat,()),())⟩
theorem ayI:ac Tryz.prog 105 (lv.aI I1 aqS):=ak6 Wi ahY ayJ _ _ λx oy hp ho=>by
 rw [<-ho]
 have hp':=of_decide_eq_true hp
 refine (ah ?_).trans rfl
 simp only [List.all_cons,List.all_nil,Bool.and_true]
 exact decide_eq_true ⟨rfl,rfl,hp'.1,hp'.2⟩
def DD:cj:=(lv.aI I1 aqS)
theorem aby:ac Tryz.prog 105 DD:=ayI
theorem abx:aG DD:=aA
def MP:Env:=ay 105 DD aoH
theorem FC:aR Tryz.prog MP:=ag aby IB
theorem GQ:ax MP:=ae abx RH
theorem afg:aW Tryz.prog te MP:=aK follows aq FC GQ
def lA:aw:=⟨[],[],true,0,false⟩
abbrev Pg:Type:=(Unit)×(Unit)
def Sn:az:=⟨[.val true (.arr 10 (.arr 16 .int))],[],false⟩
def Wp:SV->Option az:=λ_=>some Sn
def abK:OT lA.Y:=
 (.ok ⟨Sn,(([[(0:Int),(1:Int),(2:Int),(3:Int),(4:Int),(5:Int),(6:Int),(7:Int),(8:Int),(9:Int),(10:Int),(11:Int),(12:Int),(13:Int),(14:Int),(15:Int)],[(14:Int),(10:Int),(4:Int),(8:Int),(9:Int),(15:Int),(13:Int),(6:Int),(1:Int),(12:Int),(0:Int),(2:Int),(11:Int),(7:Int),(5:Int),(3:Int)],[(11:Int),(8:Int),(12:Int),(0:Int),(5:Int),(2:Int),(15:Int),(13:Int),(10:Int),(14:Int),(3:Int),(6:Int),(7:Int),(1:Int),(9:Int),(4:Int)],[(7:Int),(9:Int),(3:Int),(1:Int),(13:Int),(12:Int),(11:Int),(14:Int),(2:Int),(6:Int),(5:Int),(10:Int),(4:Int),(0:Int),(15:Int),(8:Int)],[(9:Int),(0:Int),(5:Int),(7:Int),(2:Int),(4:Int),(10:Int),(15:Int),(14:Int),(1:Int),(11:Int),(12:Int),(6:Int),(8:Int),(3:Int),(13:Int)],[(2:Int),(12:Int),(6:Int),(10:Int),(0:Int),(11:Int),(8:Int),(3:Int),(4:Int),(13:Int),(7:Int),(5:Int),(15:Int),(14:Int),(1:Int),(9:Int)],[(12:Int),(5:Int),(1:Int),(15:Int),(14:Int),(13:Int),(4:Int),(10:Int),(0:Int),(7:Int),(6:Int),(3:Int),(9:Int),(2:Int),(8:Int),(11:Int)],[(13:Int),(11:Int),(7:Int),(14:Int),(12:Int),(1:Int),(3:Int),(9:Int),(5:Int),(0:Int),(15:Int),(4:Int),(8:Int),(6:Int),(2:Int),(10:Int)],[(6:Int),(15:Int),(14:Int),(9:Int),(11:Int),(3:Int),(0:Int),(8:Int),(12:Int),(2:Int),(13:Int),(7:Int),(1:Int),(4:Int),(10:Int),(5:Int)],[(10:Int),(2:Int),(8:Int),(4:Int),(7:Int),(6:Int),(1:Int),(5:Int),(15:Int),(11:Int),(9:Int),(14:Int),(3:Int),(12:Int),(13:Int),(0:Int)]],()),())⟩)
theorem aEk (x:Pg) (Q:lA.Y->Prop):wpf te MP av 1000 Tryz.f140 (lA.inp.inj x).tm (lA.inp.inj x).hp (fnK lA Wp Q) (λ_ _=>False)=(abK).wpR Q:=by kernel_rfl
theorem alc (pre:Pg->Bool) (F:Pg->OT lA.Y) (hF:∀ (x:Pg) oy,pre x=true->(F x).run=some oy->(abK).run=some oy):ac Tryz.prog 140 (lA.aI pre F):=
 aD aq FC afg (f:=140) (fn:=Tryz.f140) (c:=aj Tryz.f140) (by kernel_rfl) (by kernel_rfl) (by kernel_rfl) (S:=lA) (k:=0) (by kernel_rfl) (λR hR=>af) (n:=1000) (sel:=Wp) (λv o h=>by cases h;rfl) (pre:=pre) (F:=F) (T:=λx=>abK) (λx Q=>aEk x Q) hF
def OL:List (List Int):= [[0,1,2,3,4,5,6,7,8,9,10,11,12,13,14,15],
 [14,10,4,8,9,15,13,6,1,12,0,2,11,7,5,3],
 [11,8,12,0,5,2,15,13,10,14,3,6,7,1,9,4],
 [7,9,3,1,13,12,11,14,2,6,5,10,4,0,15,8],
 [9,0,5,7,2,4,10,15,14,1,11,12,6,8,3,13],
 [2,12,6,10,0,11,8,3,4,13,7,5,15,14,1,9],
 [12,5,1,15,14,13,4,10,0,7,6,3,9,2,8,11],
 [13,11,7,14,12,1,3,9,5,0,15,4,8,6,2,10],
 [6,15,14,9,11,3,0,8,12,2,13,7,1,4,10,5],
 [10,2,8,4,7,6,1,5,15,11,9,14,3,12,13,0]]
def Wq (_:Pg):Bool:=true
def aq2 (_:Pg):OT lA.Y:=.ok ⟨Sn,((OL,()),())⟩
theorem ayO:ac Tryz.prog 140 (lA.aI Wq aq2):=alc _ _ λx oy _ ho=>ho
def DH:cj:=(lA.aI Wq aq2)
theorem abJ:ac Tryz.prog 140 DH:=ayO
theorem abI:aG DH:=aA
def MS:Env:=ay 140 DH MP
theorem FE:aR Tryz.prog MS:=ag abJ FC
theorem GU:ax MS:=ae abI GQ
theorem afi:aW Tryz.prog te MS:=aK follows aq FE GU
def ly:aw:=⟨[.val false .u64,.val false .u64],[],true,0,false⟩
abbrev Pb:Type:=((UInt64)×(UInt64)×Unit)×(Unit)
def Sf:az:=⟨[.val false .u64],[],false⟩
def Wk:SV->Option az:=λ_=>some Sf
def abD (a0:UInt64) (a1:UInt64):OT ly.Y:=
 (.ok ⟨Sf,((bf a0 (↑(UInt64.toNat a1):Int)|||bR a0 (↑(UInt64.toNat ((64:UInt64)-a1)):Int),()),())⟩)
theorem aEb (x:Pb) (Q:ly.Y->Prop):wpf te MS av 1000 Tryz.f155 (ly.inp.inj x).tm (ly.inp.inj x).hp (fnK ly Wk Q) (λ_ _=>False)=(abD (x.1.1) (x.1.2.1)).wpR Q:=by kernel_rfl
theorem ak8 (pre:Pb->Bool) (F:Pb->OT ly.Y) (hF:∀ (x:Pb) oy,pre x=true->(F x).run=some oy->(abD (x.1.1) (x.1.2.1)).run=some oy):ac Tryz.prog 155 (ly.aI pre F):=
 aD aq FE afi (f:=155) (fn:=Tryz.f155) (c:=aj Tryz.f155) (by kernel_rfl) (by kernel_rfl) (by kernel_rfl) (S:=ly) (k:=0) (by kernel_rfl) (λR hR=>af) (n:=1000) (sel:=Wk) (λv o h=>by cases h;rfl) (pre:=pre) (F:=F) (T:=λx=>abD (x.1.1) (x.1.2.1)) (λx Q=>aEb x Q) hF
def DB (a n:UInt64):UInt64:=bf a (UInt64.toNat n:Int)|||bR a (UInt64.toNat (64-n):Int)
def Wl (_:Pb):Bool:=true
def aqT (x:Pb):OT ly.Y:=.ok ⟨Sf,((DB x.1.1 x.1.2.1,()),())⟩
theorem ayM:ac Tryz.prog 155 (ly.aI Wl aqT):=ak8 _ _ λx oy _ ho=>ho
def DF:cj:=(ly.aI Wl aqT)
theorem abC:ac Tryz.prog 155 DF:=ayM
theorem abB:aG DF:=aA
def MQ:Env:=ay 155 DF MS
theorem FD:aR Tryz.prog MQ:=ag abC FE
theorem GR:ax MQ:=ae abB GU
theorem afh:aW Tryz.prog te MQ:=aK follows aq FD GR
def rM:aw:=⟨[.val true (.arr 16 .u64),.val false .int,.val false .int,.val false .int,.val false .int,.val false .u64,.val false .u64],[],true,0,false⟩
abbrev alj:Type:=((List (UInt64))×(Int)×(Int)×(Int)×(Int)×(UInt64)×(UInt64)×Unit)×(Unit)
def Sq:az:=⟨[.val true (.arr 16 .u64)],[],false⟩
def ah4:SV->Option az:=λ_=>some Sq
def arb (a0:List (UInt64)) (a1:Int) (a2:Int) (a3:Int) (a4:Int) (a5:UInt64) (a6:UInt64):OT rM.Y:=
 let z0:Bool:=inB a1 16
 let z1:List UInt64:=tab a0 16 (0:UInt64)
 let z2:Nat:=List.length z1
 let z3:Bool:=decide (Int.toNat a1+0<z2)
 let z4:Bool:=inB a2 16
 let z5:Bool:=inB a4 16
 let z6:List UInt64:=List.set z1 (Int.toNat a1+0) (List.getD z1 (Int.toNat a1+0) (0:UInt64)+List.getD z1 (Int.toNat a2+0) (0:UInt64)+a5)
 let z7:Nat:=List.length z6
 let z8:Bool:=decide (Int.toNat a4+0<z7)
 let z9:Bool:=inB a3 16
 let z10:List UInt64:=List.set z6 (Int.toNat a4+0) (DB (List.getD z6 (Int.toNat a4+0) (0:UInt64)^^^List.getD z6 (Int.toNat a1+0) (0:UInt64)) (32:UInt64))
 let z11:Nat:=List.length z10
 let z12:Bool:=decide (Int.toNat a3+0<z11)
 let z13:List UInt64:=List.set z10 (Int.toNat a3+0) (List.getD z10 (Int.toNat a3+0) (0:UInt64)+List.getD z10 (Int.toNat a4+0) (0:UInt64))
 let z14:Nat:=List.length z13
 let z15:Bool:=decide (Int.toNat a2+0<z14)
 let z16:List UInt64:=List.set z13 (Int.toNat a2+0) (DB (List.getD z13 (Int.toNat a2+0) (0:UInt64)^^^List.getD z13 (Int.toNat a3+0) (0:UInt64)) (24:UInt64))
 let z17:Nat:=List.length z16
 let z18:Bool:=decide (Int.toNat a1+0<z17)
 let z19:List UInt64:=List.set z16 (Int.toNat a1+0) (List.getD z16 (Int.toNat a1+0) (0:UInt64)+List.getD z16 (Int.toNat a2+0) (0:UInt64)+a6)
 let z20:Nat:=List.length z19
 let z21:Bool:=decide (Int.toNat a4+0<z20)
 let z22:List UInt64:=List.set z19 (Int.toNat a4+0) (DB (List.getD z19 (Int.toNat a4+0) (0:UInt64)^^^List.getD z19 (Int.toNat a1+0) (0:UInt64)) (16:UInt64))
 let z23:Nat:=List.length z22
 let z24:Bool:=decide (Int.toNat a3+0<z23)
 let z25:List UInt64:=List.set z22 (Int.toNat a3+0) (List.getD z22 (Int.toNat a3+0) (0:UInt64)+List.getD z22 (Int.toNat a4+0) (0:UInt64))
 let z26:Nat:=List.length z25
 let z27:Bool:=decide (Int.toNat a2+0<z26)
 let z28:List UInt64:=List.set z25 (Int.toNat a2+0) (DB (List.getD z25 (Int.toNat a2+0) (0:UInt64)^^^List.getD z25 (Int.toNat a3+0) (0:UInt64)) (63:UInt64))
 (gd [z0,z3,z4,decide (Int.toNat a2+0<z2),z0,z3,z5,z8,z0,decide (Int.toNat a1+0<z7),z5,z8,z9,z12,z5,decide (Int.toNat a4+0<z11),z9,z12,z4,z15,z9,decide (Int.toNat a3+0<z14),z4,z15,z0,z18,z4,decide (Int.toNat a2+0<z17),z0,z18,z5,z21,z0,decide (Int.toNat a1+0<z20),z5,z21,z9,z24,z5,decide (Int.toNat a4+0<z23),z9,z24,z4,z27,z9,decide (Int.toNat a3+0<z26),z4,z27,decide (16<=List.length z28)] (.ok ⟨Sq,((tab z28 16 (0:UInt64),()),())⟩))
theorem aHx (x:alj) (Q:rM.Y->Prop):wpf te MQ av 1000 Tryz.f141 (rM.inp.inj x).tm (rM.inp.inj x).hp (fnK rM ah4 Q) (λ_ _=>False)=(arb (x.1.1) (x.1.2.1) (x.1.2.2.1) (x.1.2.2.2.1) (x.1.2.2.2.2.1) (x.1.2.2.2.2.2.1) (x.1.2.2.2.2.2.2.1)).wpR Q:=by kernel_rfl
theorem ara (pre:alj->Bool) (F:alj->OT rM.Y) (hF:∀ (x:alj) oy,pre x=true->(F x).run=some oy->(arb (x.1.1) (x.1.2.1) (x.1.2.2.1) (x.1.2.2.2.1) (x.1.2.2.2.2.1) (x.1.2.2.2.2.2.1) (x.1.2.2.2.2.2.2.1)).run=some oy):ac Tryz.prog 141 (rM.aI pre F):=
 aD aq FD afh (f:=141) (fn:=Tryz.f141) (c:=aj Tryz.f141) (by kernel_rfl) (by kernel_rfl) (by kernel_rfl) (S:=rM) (k:=0) (by kernel_rfl) (λR hR=>af) (n:=1000) (sel:=ah4) (λv o h=>by cases h;rfl) (pre:=pre) (F:=F) (T:=λx=>arb (x.1.1) (x.1.2.1) (x.1.2.2.1) (x.1.2.2.2.1) (x.1.2.2.2.2.1) (x.1.2.2.2.2.2.1) (x.1.2.2.2.2.2.2.1)) (λx Q=>aHx x Q) hF
theorem aG8 (a:UInt64):DB a 32=rotl a (-32):=by
 unfold DB rotl
 rw [show (UInt64.toNat (i2u (-32)&&&63):Int)=32 from by decide,show (UInt64.toNat (64-(i2u (-32)&&&63)):Int)=32 from by decide,show (UInt64.toNat 32:Int)=32 from by decide,show (UInt64.toNat (64-32):Int)=32 from by decide,UInt64.or_comm]
theorem aG9 (a:UInt64):DB a 24=rotl a (-24):=by
 unfold DB rotl
 rw [show (UInt64.toNat (i2u (-24)&&&63):Int)=40 from by decide,show (UInt64.toNat (64-(i2u (-24)&&&63)):Int)=24 from by decide,show (UInt64.toNat 24:Int)=24 from by decide,show (UInt64.toNat (64-24):Int)=40 from by decide,UInt64.or_comm]
theorem aHa (a:UInt64):DB a 16=rotl a (-16):=by
 unfold DB rotl
 rw [show (UInt64.toNat (i2u (-16)&&&63):Int)=48 from by decide,show (UInt64.toNat (64-(i2u (-16)&&&63)):Int)=16 from by decide,show (UInt64.toNat 16:Int)=16 from by decide,show (UInt64.toNat (64-16):Int)=48 from by decide,UInt64.or_comm]
theorem aG7 (a:UInt64):DB a 63=rotl a (-63):=by
 unfold DB rotl
 rw [show (UInt64.toNat (i2u (-63)&&&63):Int)=1 from by decide,show (UInt64.toNat (64-(i2u (-63)&&&63)):Int)=63 from by decide,show (UInt64.toNat 63:Int)=63 from by decide,show (UInt64.toNat (64-63):Int)=1 from by decide,UInt64.or_comm]
def Sp (x:alj):Bool:=inB x.1.2.1 16&&inB x.1.2.2.1 16&&inB x.1.2.2.2.1 16&&inB x.1.2.2.2.2.1 16&&decide (x.1.1.length=16)
def aBH (x:alj):OT rM.Y:=.ok ⟨Sq,((Bv x.1.1 x.1.2.1.toNat x.1.2.2.1.toNat x.1.2.2.2.1.toNat x.1.2.2.2.2.1.toNat x.1.2.2.2.2.2.1 x.1.2.2.2.2.2.2.1,()),())⟩
theorem aEm:ac Tryz.prog 141 (rM.aI Sp aBH):=ara _ _ λx oy hp ho=>by
 rw [<-ho]
 clear ho
 obtain ⟨⟨v,a,b,c,d,x,y,⟨⟩⟩,⟨⟩⟩:=x
 simp only [Sp,Bool.and_eq_true,decide_eq_true_eq] at hp
 obtain ⟨⟨⟨⟨ha,hb⟩,hc⟩,hd⟩,hv⟩:=hp
 have na:=xz ha
 have nb:=xz hb
 have nc:=xz hc
 have nd:=xz hd
 have t1:tab v 16 0=v:=jo hv
 refine (ah ?_).trans ?_
 ·simp only [t1,List.length_set,hv,ha,hb,hc,hd,Nat.add_zero,na,nb,nc,nd,Nat.le_refl,decide_true,List.all_cons,List.all_nil,Bool.and_self]
 ·have hl:(Bv v a.toNat b.toNat c.toNat d.toNat x y).length=16:=by rw [fU];exact hv
  simp only [t1,aG8,aG9,aHa,aG7,UInt64.add_assoc,Nat.add_zero]
  exact congrArg (λl=>some (⟨Sq,((l,()),())⟩:rM.Y)) (jo hl)
def Jb:cj:=(rM.aI Sp aBH)
theorem ali:ac Tryz.prog 141 Jb:=aEm
theorem alh:aG Jb:=aA
def Cq:Env:=ay 141 Jb MQ
theorem mD:aR Tryz.prog Cq:=ag ali FD
theorem MV:ax Cq:=ae alh GR
theorem pF:aW Tryz.prog te Cq:=aK follows aq mD MV
def io:aw:=⟨[.val true (.arr 8 .u64),.val false (.list .u8),.val false .u64,.val false .bool],[],true,0,false⟩
abbrev DO:Type:=((List (UInt64))×(List (UInt8))×(UInt64)×(Bool)×Unit)×(Unit)
def sA:Shape:=⟨163,[(1,.val false (.list .u8)),(2,.val false .u64),(3,.val false .bool),(4,.ptr 0 0 0),(8,.ptr 1 0 0),(9,.ptr 2 0 0),(10,.ptr 3 0 0),(11,.val false .int)],[(0,.row .u64),(1,.row .u64),(2,.row .u64),(3,.row .u64)],0,true⟩
abbrev cw:Type:=((List (UInt8))×(UInt64)×(Bool)×(Unit)×(Unit)×(Unit)×(Unit)×(Int)×Unit)×((List (UInt64))×(List (UInt64))×(List (UInt64))×(List (UInt64))×Unit)
def qn:Shape:=⟨163,[(1,.val false (.list .u8)),(2,.val false .u64),(3,.val false .bool),(4,.ptr 0 0 0),(8,.ptr 1 0 0),(10,.ptr 2 0 0)],[(0,.row .u64),(1,.row .u64),(2,.row .u64)],0,true⟩
abbrev jW:Type:=((List (UInt8))×(UInt64)×(Bool)×(Unit)×(Unit)×(Unit)×Unit)×((List (UInt64))×(List (UInt64))×(List (UInt64))×Unit)
def Wz:SE->Option Shape:=fw [(0,qn)] none
def arJ (a1:List (UInt8)) (a2:UInt64) (a3:Bool) (a11:Int) (c0:List (UInt64)) (c1:List (UInt64)) (c2:List (UInt64)) (c3:List (UInt64)):OT (Sum cw aE):=
 let z0:Bool:=inB a11 8
 let z1:List UInt64:=List.set c3 (Int.toNat a11+0) (List.getD c0 (Int.toNat a11+0) (0:UInt64))
 (.br (decide (a11<(8:Int)))
 (gd [z0,decide (Int.toNat a11+0<List.length c0),inB a11 16,decide (Int.toNat a11+0<List.length c3),inR (a11+(8:Int)),z0,decide (Int.toNat a11+0<List.length c2),inB (a11+(8:Int)) 16,decide (Int.toNat (a11+(8:Int))+0<List.length z1),inR (a11+(1:Int))] (.ok (.inl ((a1,(a2,(a3,((),((),((),((),(a11+(1:Int),())))))))),(c0,(c1,(c2,(List.set z1 (Int.toNat (a11+(8:Int))+0) (List.getD c2 (Int.toNat a11+0) (0:UInt64)),()))))))))
 (.ok (.inr ⟨(.exit 0,qn),((a1,(a2,(a3,((),((),((),())))))),(c0,(c1,(c3,()))))⟩)))
def sE (s:cw):OT (Sum cw aE):=arJ (s.1.1) (s.1.2.1) (s.1.2.2.1) (s.1.2.2.2.2.2.2.2.1) (s.2.1) (s.2.2.1) (s.2.2.2.1) (s.2.2.2.2.1)
theorem arA (s:cw) (Q:Sum cw aE->Prop):wps te Cq av 1000 (aU (aj Tryz.f106) 0) (sA.inj s) (bX sA Wz (Q:Sum sA.T aE->Prop))=(sE s).wpR Q:=by kernel_rfl
def AJ (g0_0:cw->jW) (s:cw):OT aE:=(.ok ⟨(.exit 0,qn),g0_0 s⟩)
def sy:Shape:=⟨163,[(1,.val false (.list .u8)),(4,.ptr 0 0 0),(8,.ptr 1 0 0),(10,.ptr 2 0 0),(12,.ptr 3 0 0),(13,.val false .int)],[(0,.row .u64),(1,.row .u64),(2,.row .u64),(3,.row .u64)],0,true⟩
abbrev cv:Type:=((List (UInt8))×(Unit)×(Unit)×(Unit)×(Unit)×(Int)×Unit)×((List (UInt64))×(List (UInt64))×(List (UInt64))×(List (UInt64))×Unit)
def qm:Shape:=⟨163,[(4,.ptr 0 0 0),(8,.ptr 1 0 0),(10,.ptr 2 0 0),(12,.ptr 3 0 0)],[(0,.row .u64),(1,.row .u64),(2,.row .u64),(3,.row .u64)],0,true⟩
abbrev jV:Type:=((Unit)×(Unit)×(Unit)×(Unit)×Unit)×((List (UInt64))×(List (UInt64))×(List (UInt64))×(List (UInt64))×Unit)
def Wy:SE->Option Shape:=fw [(2,qm)] none
def arI (a1:List (UInt8)) (a13:Int) (c0:List (UInt64)) (c1:List (UInt64)) (c2:List (UInt64)) (c3:List (UInt64)):OT (Sum cv aE):=
 (.br (decide (a13<(16:Int)))
 (gd [inR ((8:Int)*a13),I1 ((a1,(8:Int)*a13,()),()),inB a13 16,decide (Int.toNat a13+0<List.length c3),inR (a13+(1:Int))] (.ok (.inl ((a1,((),((),((),((),(a13+(1:Int),())))))),(c0,(c1,(c2,(List.set c3 (Int.toNat a13+0) (im a1 (Int.toNat ((8:Int)*a13))),()))))))))
 (.ok (.inr ⟨(.exit 2,qm),(((),((),((),((),())))),(c0,(c1,(c2,(c3,())))))⟩)))
def sD (s:cv):OT (Sum cv aE):=arI (s.1.1) (s.1.2.2.2.2.2.1) (s.2.1) (s.2.2.1) (s.2.2.2.1) (s.2.2.2.2.1)
theorem arz (s:cv) (Q:Sum cv aE->Prop):wps te Cq av 1000 (aU (aj Tryz.f106) 2) (sy.inj s) (bX sy Wy (Q:Sum sy.T aE->Prop))=(sD s).wpR Q:=by kernel_rfl
def AH (g2_2:cv->jV) (s:cv):OT aE:=(.ok ⟨(.exit 2,qm),g2_2 s⟩)
def sw:Shape:=⟨163,[(4,.ptr 0 0 0),(8,.ptr 1 0 0),(10,.ptr 2 0 0),(12,.ptr 3 0 0),(14,.ptr 4 0 0),(15,.val false .int)],[(0,.row .u64),(1,.row .u64),(2,.row .u64),(3,.row .u64),(4,.row (.arr 16 .int))],0,true⟩
abbrev cu:Type:=((Unit)×(Unit)×(Unit)×(Unit)×(Unit)×(Int)×Unit)×((List (UInt64))×(List (UInt64))×(List (UInt64))×(List (UInt64))×(List (List (Int)))×Unit)
def ql:Shape:=⟨163,[(4,.ptr 0 0 0),(8,.ptr 1 0 0),(10,.ptr 2 0 0)],[(0,.row .u64),(1,.row .u64),(2,.row .u64)],0,true⟩
abbrev jU:Type:=((Unit)×(Unit)×(Unit)×Unit)×((List (UInt64))×(List (UInt64))×(List (UInt64))×Unit)
def Wx:SE->Option Shape:=fw [(4,ql)] none
def arH (a15:Int) (c0:List (UInt64)) (c1:List (UInt64)) (c2:List (UInt64)) (c3:List (UInt64)) (c4:List (List (Int))):OT (Sum cu aE):=
 let z0:Int:=Int.tmod a15 (10:Int)
 let z1:Nat:=List.length c2
 let z2:List Int:=List.getD c4 (Int.toNat z0+0) [(0:Int),(0:Int),(0:Int),(0:Int),(0:Int),(0:Int),(0:Int),(0:Int),(0:Int),(0:Int),(0:Int),(0:Int),(0:Int),(0:Int),(0:Int),(0:Int)]
 let z3:Int:=List.getD z2 0 (0:Int)
 let z4:Nat:=List.length c3
 let z5:Int:=List.getD z2 1 (0:Int)
 let z6:Nat:=Int.toNat (0:Int)
 let z7:Nat:=Int.toNat (4:Int)
 let z8:Nat:=Int.toNat (8:Int)
 let z9:Nat:=Int.toNat (12:Int)
 let z10:List UInt64:=lay c2 (Bv (tab c2 16 (0:UInt64)) z6 z7 z8 z9 (List.getD c3 (Int.toNat z3+0) (0:UInt64)) (List.getD c3 (Int.toNat z5+0) (0:UInt64))) 16 (0:UInt64)
 let z11:Nat:=List.length z10
 let z12:Int:=List.getD z2 2 (0:Int)
 let z13:Int:=List.getD z2 3 (0:Int)
 let z14:Nat:=Int.toNat (1:Int)
 let z15:Nat:=Int.toNat (5:Int)
 let z16:Nat:=Int.toNat (9:Int)
 let z17:Nat:=Int.toNat (13:Int)
 let z18:List UInt64:=lay z10 (Bv (tab z10 16 (0:UInt64)) z14 z15 z16 z17 (List.getD c3 (Int.toNat z12+0) (0:UInt64)) (List.getD c3 (Int.toNat z13+0) (0:UInt64))) 16 (0:UInt64)
 let z19:Nat:=List.length z18
 let z20:Int:=List.getD z2 4 (0:Int)
 let z21:Int:=List.getD z2 5 (0:Int)
 let z22:Nat:=Int.toNat (2:Int)
 let z23:Nat:=Int.toNat (6:Int)
 let z24:Nat:=Int.toNat (10:Int)
 let z25:Nat:=Int.toNat (14:Int)
 let z26:List UInt64:=lay z18 (Bv (tab z18 16 (0:UInt64)) z22 z23 z24 z25 (List.getD c3 (Int.toNat z20+0) (0:UInt64)) (List.getD c3 (Int.toNat z21+0) (0:UInt64))) 16 (0:UInt64)
 let z27:Nat:=List.length z26
 let z28:Int:=List.getD z2 6 (0:Int)
 let z29:Int:=List.getD z2 7 (0:Int)
 let z30:Nat:=Int.toNat (3:Int)
 let z31:Nat:=Int.toNat (7:Int)
 let z32:Nat:=Int.toNat (11:Int)
 let z33:Nat:=Int.toNat (15:Int)
 let z34:List UInt64:=lay z26 (Bv (tab z26 16 (0:UInt64)) z30 z31 z32 z33 (List.getD c3 (Int.toNat z28+0) (0:UInt64)) (List.getD c3 (Int.toNat z29+0) (0:UInt64))) 16 (0:UInt64)
 let z35:Nat:=List.length z34
 let z36:Int:=List.getD z2 8 (0:Int)
 let z37:Int:=List.getD z2 9 (0:Int)
 let z38:List UInt64:=lay z34 (Bv (tab z34 16 (0:UInt64)) z6 z15 z24 z33 (List.getD c3 (Int.toNat z36+0) (0:UInt64)) (List.getD c3 (Int.toNat z37+0) (0:UInt64))) 16 (0:UInt64)
 let z39:Nat:=List.length z38
 let z40:Int:=List.getD z2 10 (0:Int)
 let z41:Int:=List.getD z2 11 (0:Int)
 let z42:List UInt64:=lay z38 (Bv (tab z38 16 (0:UInt64)) z14 z23 z32 z9 (List.getD c3 (Int.toNat z40+0) (0:UInt64)) (List.getD c3 (Int.toNat z41+0) (0:UInt64))) 16 (0:UInt64)
 let z43:Nat:=List.length z42
 let z44:Int:=List.getD z2 12 (0:Int)
 let z45:Int:=List.getD z2 13 (0:Int)
 let z46:List UInt64:=lay z42 (Bv (tab z42 16 (0:UInt64)) z22 z31 z8 z17 (List.getD c3 (Int.toNat z44+0) (0:UInt64)) (List.getD c3 (Int.toNat z45+0) (0:UInt64))) 16 (0:UInt64)
 let z47:Nat:=List.length z46
 let z48:Int:=List.getD z2 14 (0:Int)
 let z49:Int:=List.getD z2 15 (0:Int)
 (.br (decide (a15<(12:Int)))
 (gd [inB z0 10,decide (Int.toNat z0+0<List.length c4),decide (16<=z1),inB z3 16,decide (Int.toNat z3+0<z4),inB z5 16,decide (Int.toNat z5+0<z4),decide ((16/1:Nat)+0<=z1),decide (16<=z11),inB z12 16,decide (Int.toNat z12+0<z4),inB z13 16,decide (Int.toNat z13+0<z4),decide ((16/1:Nat)+0<=z11),decide (16<=z19),inB z20 16,decide (Int.toNat z20+0<z4),inB z21 16,decide (Int.toNat z21+0<z4),decide ((16/1:Nat)+0<=z19),decide (16<=z27),inB z28 16,decide (Int.toNat z28+0<z4),inB z29 16,decide (Int.toNat z29+0<z4),decide ((16/1:Nat)+0<=z27),decide (16<=z35),inB z36 16,decide (Int.toNat z36+0<z4),inB z37 16,decide (Int.toNat z37+0<z4),decide ((16/1:Nat)+0<=z35),decide (16<=z39),inB z40 16,decide (Int.toNat z40+0<z4),inB z41 16,decide (Int.toNat z41+0<z4),decide ((16/1:Nat)+0<=z39),decide (16<=z43),inB z44 16,decide (Int.toNat z44+0<z4),inB z45 16,decide (Int.toNat z45+0<z4),decide ((16/1:Nat)+0<=z43),decide (16<=z47),inB z48 16,decide (Int.toNat z48+0<z4),inB z49 16,decide (Int.toNat z49+0<z4),decide ((16/1:Nat)+0<=z47),inR (a15+(1:Int))] (.ok (.inl (((),((),((),((),((),(a15+(1:Int),())))))),(c0,(c1,(lay z46 (Bv (tab z46 16 (0:UInt64)) z30 z7 z16 z25 (List.getD c3 (Int.toNat z48+0) (0:UInt64)) (List.getD c3 (Int.toNat z49+0) (0:UInt64))) 16 (0:UInt64),(c3,(c4,())))))))))
 (.ok (.inr ⟨(.exit 4,ql),(((),((),((),()))),(c0,(c1,(c2,()))))⟩)))
def sC (s:cu):OT (Sum cu aE):=arH (s.1.2.2.2.2.2.1) (s.2.1) (s.2.2.1) (s.2.2.2.1) (s.2.2.2.2.1) (s.2.2.2.2.2.1)
theorem ary (s:cu) (Q:Sum cu aE->Prop):wps te Cq av 1000 (aU (aj Tryz.f106) 4) (sw.inj s) (bX sw Wx (Q:Sum sw.T aE->Prop))=(sC s).wpR Q:=by kernel_rfl
def AG (g4_4:cu->jU) (s:cu):OT aE:=(.ok ⟨(.exit 4,ql),g4_4 s⟩)
def su:Shape:=⟨163,[(4,.ptr 0 0 0),(8,.ptr 1 0 0),(10,.ptr 2 0 0),(17,.val false .int)],[(0,.row .u64),(1,.row .u64),(2,.row .u64)],0,true⟩
abbrev ct:Type:=((Unit)×(Unit)×(Unit)×(Int)×Unit)×((List (UInt64))×(List (UInt64))×(List (UInt64))×Unit)
def qk:Shape:=⟨163,[(4,.ptr 0 0 0),(8,.ptr 1 0 0)],[(0,.row .u64),(1,.row .u64)],0,true⟩
abbrev jT:Type:=((Unit)×(Unit)×Unit)×((List (UInt64))×(List (UInt64))×Unit)
def Ww:SE->Option Shape:=fw [(6,qk)] none
def arG (a17:Int) (c0:List (UInt64)) (c1:List (UInt64)) (c2:List (UInt64)):OT (Sum ct aE):=
 let z0:Bool:=inB a17 8
 let z1:Bool:=decide (Int.toNat a17+0<List.length c0)
 let z2:Nat:=List.length c2
 (.br (decide (a17<(8:Int)))
 (gd [z0,z1,inB a17 16,decide (Int.toNat a17+0<z2),inR (a17+(8:Int)),inB (a17+(8:Int)) 16,decide (Int.toNat (a17+(8:Int))+0<z2),z0,z1,inR (a17+(1:Int))] (.ok (.inl (((),((),((),(a17+(1:Int),())))),(List.set c0 (Int.toNat a17+0) (List.getD c0 (Int.toNat a17+0) (0:UInt64)^^^(List.getD c2 (Int.toNat a17+0) (0:UInt64)^^^List.getD c2 (Int.toNat (a17+(8:Int))+0) (0:UInt64))),(c1,(c2,())))))))
 (.ok (.inr ⟨(.exit 6,qk),(((),((),())),(c0,(c1,())))⟩)))
def sB (s:ct):OT (Sum ct aE):=arG (s.1.2.2.2.1) (s.2.1) (s.2.2.1) (s.2.2.2.1)
theorem arx (s:ct) (Q:Sum ct aE->Prop):wps te Cq av 1000 (aU (aj Tryz.f106) 6) (su.inj s) (bX su Ww (Q:Sum su.T aE->Prop))=(sB s).wpR Q:=by kernel_rfl
def AF (g6_6:ct->jT) (s:ct):OT aE:=(.ok ⟨(.exit 6,qk),g6_6 s⟩)
def AE:az:=⟨[.val true (.arr 8 .u64)],[],false⟩
def Pm:SV->Option az:=λ_=>some AE
def SB (ok0:cw->Bool) (g0_0:cw->jW) (ok2:cv->Bool) (g2_2:cv->jV) (ok4:cu->Bool) (g4_4:cu->jU) (ok6:ct->Bool) (g6_6:ct->jT) (a0:List (UInt64)) (a1:List (UInt8)) (a2:UInt64) (a3:Bool):OT io.Y:=
 let z0:List UInt64×PUnit:=([(0:UInt64),(0:UInt64),(0:UInt64),(0:UInt64),(0:UInt64),(0:UInt64),(0:UInt64),(0:UInt64),(0:UInt64),(0:UInt64),(0:UInt64),(0:UInt64),(0:UInt64),(0:UInt64),(0:UInt64),(0:UInt64)],())
 let z1:(List UInt8×UInt64×Bool×PUnit×PUnit×PUnit×PUnit×Int×PUnit)×List UInt64×List UInt64×List UInt64×List UInt64×PUnit:=((a1,a2,a3,(),(),(),(),(0:Int),()),tab a0 8 (0:UInt64),[(0:UInt64),(0:UInt64),(0:UInt64),(0:UInt64),(0:UInt64),(0:UInt64),(0:UInt64),(0:UInt64)],[(7640891576956012808:UInt64),(13503953896175478587:UInt64),(4354685564936845355:UInt64),(11912009170470909681:UInt64),(5840696475078001361:UInt64),(11170449401992604703:UInt64),(2270897969802886507:UInt64),(6620516959819538809:UInt64)],z0)
 let z2:(List UInt8×UInt64×Bool×PUnit×PUnit×PUnit×PUnit)×List UInt64×List UInt64×List UInt64×PUnit:=g0_0 z1
 let z3:=z2.snd
 let z4:=z3.snd
 let z5:=z4.snd.fst
 let z6:Bool:=decide (12<List.length z5)
 let z7:=z2.fst
 let z8:=z7.snd
 let z9:List UInt64:=List.set z5 12 (List.getD z5 12 0^^^z8.fst)
 let z10:Bool:=decide (14<List.length z9)
 let z11:List UInt8×PUnit×PUnit×PUnit×PUnit×Int×PUnit:=(z7.fst,(),(),(),(),(0:Int),())
 let z12:=z3.fst
 let z13:=z4.fst
 let z14:(List UInt8×PUnit×PUnit×PUnit×PUnit×Int×PUnit)×List UInt64×List UInt64×List UInt64×List UInt64×PUnit:=(z11,z12,z13,List.set z9 14 (List.getD z9 14 0^^^(18446744073709551615:UInt64)),z0)
 let z15:PUnit×PUnit×PUnit×PUnit×PUnit×Int×PUnit:=((),(),(),(),(),(0:Int),())
 let z16:=(g2_2 z14).snd
 let z17:=z16.snd
 let z18:=z17.snd
 let z19:List (List Int)×PUnit:=([[(0:Int),(1:Int),(2:Int),(3:Int),(4:Int),(5:Int),(6:Int),(7:Int),(8:Int),(9:Int),(10:Int),(11:Int),(12:Int),(13:Int),(14:Int),(15:Int)],[(14:Int),(10:Int),(4:Int),(8:Int),(9:Int),(15:Int),(13:Int),(6:Int),(1:Int),(12:Int),(0:Int),(2:Int),(11:Int),(7:Int),(5:Int),(3:Int)],[(11:Int),(8:Int),(12:Int),(0:Int),(5:Int),(2:Int),(15:Int),(13:Int),(10:Int),(14:Int),(3:Int),(6:Int),(7:Int),(1:Int),(9:Int),(4:Int)],[(7:Int),(9:Int),(3:Int),(1:Int),(13:Int),(12:Int),(11:Int),(14:Int),(2:Int),(6:Int),(5:Int),(10:Int),(4:Int),(0:Int),(15:Int),(8:Int)],[(9:Int),(0:Int),(5:Int),(7:Int),(2:Int),(4:Int),(10:Int),(15:Int),(14:Int),(1:Int),(11:Int),(12:Int),(6:Int),(8:Int),(3:Int),(13:Int)],[(2:Int),(12:Int),(6:Int),(10:Int),(0:Int),(11:Int),(8:Int),(3:Int),(4:Int),(13:Int),(7:Int),(5:Int),(15:Int),(14:Int),(1:Int),(9:Int)],[(12:Int),(5:Int),(1:Int),(15:Int),(14:Int),(13:Int),(4:Int),(10:Int),(0:Int),(7:Int),(6:Int),(3:Int),(9:Int),(2:Int),(8:Int),(11:Int)],[(13:Int),(11:Int),(7:Int),(14:Int),(12:Int),(1:Int),(3:Int),(9:Int),(5:Int),(0:Int),(15:Int),(4:Int),(8:Int),(6:Int),(2:Int),(10:Int)],[(6:Int),(15:Int),(14:Int),(9:Int),(11:Int),(3:Int),(0:Int),(8:Int),(12:Int),(2:Int),(13:Int),(7:Int),(1:Int),(4:Int),(10:Int),(5:Int)],[(10:Int),(2:Int),(8:Int),(4:Int),(7:Int),(6:Int),(1:Int),(5:Int),(15:Int),(11:Int),(9:Int),(14:Int),(3:Int),(12:Int),(13:Int),(0:Int)]],())
 let z20:(PUnit×PUnit×PUnit×PUnit×PUnit×Int×PUnit)×List UInt64×List UInt64×List UInt64×List UInt64×List (List Int)×PUnit:=(z15,z16.fst,z17.fst,z18.fst,z18.snd.fst,z19)
 let z21:PUnit×PUnit×PUnit×Int×PUnit:=((),(),(),(0:Int),())
 let z22:=(g4_4 z20).snd
 let z23:=z22.snd
 let z24:(PUnit×PUnit×PUnit×Int×PUnit)×List UInt64×List UInt64×List UInt64×PUnit:=(z21,z22.fst,z23.fst,z23.snd.fst,())
 let z25:=(g6_6 z24).snd
 let z26:=z25.fst
 let z27:=z25.snd.fst
 let z28:List UInt64:=lay z27 z26 8 (0:UInt64)
 let z29:(List UInt8×PUnit×PUnit×PUnit×PUnit×Int×PUnit)×List UInt64×List UInt64×List UInt64×List UInt64×PUnit:=(z11,z12,z13,z9,z0)
 let z30:=(g2_2 z29).snd
 let z31:=z30.snd
 let z32:=z31.snd
 let z33:(PUnit×PUnit×PUnit×PUnit×PUnit×Int×PUnit)×List UInt64×List UInt64×List UInt64×List UInt64×List (List Int)×PUnit:=(z15,z30.fst,z31.fst,z32.fst,z32.snd.fst,z19)
 let z34:=(g4_4 z33).snd
 let z35:=z34.snd
 let z36:(PUnit×PUnit×PUnit×Int×PUnit)×List UInt64×List UInt64×List UInt64×PUnit:=(z21,z34.fst,z35.fst,z35.snd.fst,())
 let z37:=(g6_6 z36).snd
 let z38:=z37.fst
 let z39:=z37.snd.fst
 let z40:List UInt64:=lay z39 z38 8 (0:UInt64)
 (gd [ok0 z1,z6,z6] (.br (z8.snd.fst)
 (gd [z10,z10,ok2 z14,ok4 z20,ok6 z24,decide (8<=List.length z26),decide ((8/1:Nat)+0<=List.length z27),decide (8<=List.length z28)] (.ok ⟨AE,((tab z28 8 (0:UInt64),()),())⟩))
 (gd [ok2 z29,ok4 z33,ok6 z36,decide (8<=List.length z38),decide ((8/1:Nat)+0<=List.length z39),decide (8<=List.length z40)] (.ok ⟨AE,((tab z40 8 (0:UInt64),()),())⟩))))
theorem ayX (ok0:cw->Bool) (g0_0:cw->jW) (ok2:cv->Bool) (g2_2:cv->jV) (ok4:cu->Bool) (g4_4:cu->jU) (ok6:ct->Bool) (g6_6:ct->jT) (x:DO) (Q:io.Y->Prop):wpf te Cq (aO 6 (cg su 6 ok6 (AF g6_6)) (aO 4 (cg sw 4 ok4 (AG g4_4)) (aO 2 (cg sy 2 ok2 (AH g2_2)) (aO 0 (cg sA 0 ok0 (AJ g0_0)) av)))) 1000 Tryz.f106 (io.inp.inj x).tm (io.inp.inj x).hp (fnK io Pm Q) (λ_ _=>False)=(SB ok0 g0_0 ok2 g2_2 ok4 g4_4 ok6 g6_6 (x.1.1) (x.1.2.1) (x.1.2.2.1) (x.1.2.2.2.1)).wpR Q:=by kernel_rfl
theorem abR (ok0:cw->Bool) (g0_0:cw->jW) (ok2:cv->Bool) (g2_2:cv->jV) (ok4:cu->Bool) (g4_4:cu->jU) (ok6:ct->Bool) (g6_6:ct->jT) (h0:∀ s:cw,ok0 s=true->∃ m e,ao (sE) m s=some e/\(AJ g0_0 s).run=some e) (h2:∀ s:cv,ok2 s=true->∃ m e,ao (sD) m s=some e/\(AH g2_2 s).run=some e) (h4:∀ s:cu,ok4 s=true->∃ m e,ao (sC) m s=some e/\(AG g4_4 s).run=some e) (h6:∀ s:ct,ok6 s=true->∃ m e,ao (sB) m s=some e/\(AF g6_6 s).run=some e) (pre:DO->Bool) (F:DO->OT io.Y) (hF:∀ (x:DO) oy,pre x=true->(F x).run=some oy->(SB ok0 g0_0 ok2 g2_2 ok4 g4_4 ok6 g6_6 (x.1.1) (x.1.2.1) (x.1.2.2.1) (x.1.2.2.2.1)).run=some oy):ac Tryz.prog 106 (io.aI pre F):=
 aD aq mD pF (f:=106) (fn:=Tryz.f106) (c:=aj Tryz.f106) (by kernel_rfl) (by kernel_rfl) (by kernel_rfl) (S:=io) (k:=0) (by kernel_rfl) (λR hR=>(aB (c:=(aj Tryz.f106)) (by kernel_rfl) (id:=6) (by kernel_rfl) (aQ aq mD pF (sh:=su) hR (xs:=Ww) (aC (by kernel_rfl) (by kernel_rfl) hR) aL af (n:=1000) (T:=sB) (λs Q=>arx s Q) (ok:=ok6) (f:=AF g6_6) h6) (aB (c:=(aj Tryz.f106)) (by kernel_rfl) (id:=4) (by kernel_rfl) (aQ aq mD pF (sh:=sw) hR (xs:=Wx) (aC (by kernel_rfl) (by kernel_rfl) hR) aL af (n:=1000) (T:=sC) (λs Q=>ary s Q) (ok:=ok4) (f:=AG g4_4) h4) (aB (c:=(aj Tryz.f106)) (by kernel_rfl) (id:=2) (by kernel_rfl) (aQ aq mD pF (sh:=sy) hR (xs:=Wy) (aC (by kernel_rfl) (by kernel_rfl) hR) aL af (n:=1000) (T:=sD) (λs Q=>arz s Q) (ok:=ok2) (f:=AH g2_2) h2) (aB (c:=(aj Tryz.f106)) (by kernel_rfl) (id:=0) (by kernel_rfl) (aQ aq mD pF (sh:=sA) hR (xs:=Wz) (aC (by kernel_rfl) (by kernel_rfl) hR) aL af (n:=1000) (T:=sE) (λs Q=>arA s Q) (ok:=ok0) (f:=AJ g0_0) h0) af))))) (n:=1000) (sel:=Pm) (λv o h=>by cases h;rfl) (pre:=pre) (F:=F) (T:=λx=>SB ok0 g0_0 ok2 g2_2 ok4 g4_4 ok6 g6_6 (x.1.1) (x.1.2.1) (x.1.2.2.1) (x.1.2.2.2.1)) (λx Q=>ayX ok0 g0_0 ok2 g2_2 ok4 g4_4 ok6 g6_6 x Q) hF
theorem aFn {h:List UInt64} (hh:h.length=8):upto (λk v=>(v.set k (h.getD k 0)).set (k+8) (bIV.getD k 0)) (List.replicate 16 0) 8=h++bIV:=by
 have e:=jo (x:=h) (n:=8) (d:=0) hh
 rw [<-e]
 rfl
def DN (s:cw):Bool:=decide (s.1.2.2.2.2.2.2.2.1=0/\s.2.1.length=8/\s.2.2.2.1=bIV/\s.2.2.2.2.1=List.replicate 16 0)
def lC (s:cw):jW:=((s.1.1,s.1.2.1,s.1.2.2.1,(),(),(),()),(s.2.1,s.2.2.1,s.2.1++bIV,()))
theorem arF:∀ s:cw,DN s=true->∃ m e,ao sE m s=some e/\(AJ lC s).run=some e:=by
 rintro ⟨⟨b,t,l,⟨⟩,⟨⟩,⟨⟩,⟨⟩,i,⟨⟩⟩,⟨h,c1,c2,c3,⟨⟩⟩⟩ hh
 have h':=of_decide_eq_true hh
 dsimp only at h'
 obtain ⟨rfl,hl,rfl,rfl⟩:=h'
 have:=(aP (T:=sE) (λk v=>(((b,t,l,(),(),(),(),(k:Int),()),(h,c1,bIV,v,())):cw)) (λk v=>(v.set k (h.getD k 0)).set (k+8) (bIV.getD k 0))
  (λv=>(⟨(.exit 0,qn),((b,t,l,(),(),(),()),(h,c1,v,()))⟩:aE)) 8 (List.replicate 16 0) (λ_ v=>v.length=16) (by simp) (λk v hk hv=>⟨?_,by rw [List.length_set,List.length_set];exact hv⟩) (λv hv=> ?_)).1
 ·obtain ⟨m,hm⟩:=this
  rw [aFn hl] at hm
  exact ⟨m,_,hm,rfl⟩
 ·have e1:((k:Int)+8).toNat=k+8:=by omega
  refine (OT.ap (decide_eq_true (by dsimp only;omega))).trans ((ah ?_).trans ?_)
  ·simp only [e1,List.length_set,hl,hv,List.all_cons,List.all_nil,Bool.and_true,Bool.and_eq_true]
   exact ⟨aN (by omega),decide_eq_true (by omega),aN (by omega),decide_eq_true (by omega),aH (by omega),aN (by omega),decide_eq_true (show k+0<8 by omega),aN (by omega),decide_eq_true (by omega),aH (by omega)⟩
  ·simp only [OT.cL,e1,Nat.add_zero]
   rfl
 ·exact OT.ar (decide_eq_false (by dsimp only;omega))
def kD (b:List UInt8):List UInt64:=upto (λk m=>m.set k (im b (8*k))) (List.replicate 16 0) 16
theorem Jg (b:List UInt8):(kD b).length=16:=by
 unfold kD;rw [lh (λk v=>List.length_set)];rfl
def DM (s:cv):Bool:=decide (s.1.2.2.2.2.2.1=0/\s.2.2.2.2.1=List.replicate 16 0)
def n9 (s:cv):jV:=(((),(),(),(),()),(s.2.1,s.2.2.1,s.2.2.2.1,kD s.1.1,()))
theorem arE:∀ s:cv,DM s=true->∃ m e,ao sD m s=some e/\(AH n9 s).run=some e:=by
 rintro ⟨⟨b,⟨⟩,⟨⟩,⟨⟩,⟨⟩,i,⟨⟩⟩,⟨c0,c1,c2,c3,⟨⟩⟩⟩ hh
 have h':=of_decide_eq_true hh
 dsimp only at h'
 obtain ⟨rfl,rfl⟩:=h'
 have:=(aP (T:=sD) (λk m=>(((b,(),(),(),(),(k:Int),()),(c0,c1,c2,m,())):cv)) (λk m=>m.set k (im b (8*k)))
  (λm=>(⟨(.exit 2,qm),(((),(),(),(),()),(c0,c1,c2,m,()))⟩:aE)) 16 (List.replicate 16 0) (λ_ m=>m.length=16) (by simp) (λk m hk hm=>⟨?_,by rw [List.length_set];exact hm⟩) (λm hm=> ?_)).1
 ·obtain ⟨n,hn⟩:=this
  exact ⟨n,_,hn,rfl⟩
 ·have e1:(8*(k:Int)).toNat=8*k:=by omega
  refine (OT.ap (decide_eq_true (by dsimp only;omega))).trans ((ah ?_).trans ?_)
  ·simp only [e1,hm,List.all_cons,List.all_nil,Bool.and_true,Bool.and_eq_true]
   exact ⟨aH (by omega),decide_eq_true (by dsimp only;omega),aN (by omega),decide_eq_true (by omega),aH (by omega)⟩
  ·simp only [OT.cL,e1,Nat.add_zero]
   rfl
 ·exact OT.ar (decide_eq_false (by dsimp only;omega))
def N8 (k:Nat):List Int:=OL.getD (k%10) (List.replicate 16 0)
theorem abL (k:Nat) {j:Nat} (hj:j<16):nib ((rowAt k).getD j 0)=(N8 k).getD j 0/\inB ((N8 k).getD j 0) 16=true:=by
 have hk:k%10<10:=Nat.mod_lt _ (by decide)
 unfold rowAt N8
 generalize k%10=r at hk
 have h:∀ r:Fin 10,∀ j:Fin 16,nib ((gE.getD r.val []).getD j.val 0)=(OL.getD r.val (List.replicate 16 0)).getD j.val 0/\inB ((OL.getD r.val (List.replicate 16 0)).getD j.val 0) 16=true:=by decide+kernel
 exact h ⟨r,hk⟩ ⟨j,hj⟩
theorem aIG (m:List UInt64) (k:Nat) {j:Nat} (hj:j<16):atF m (rowAt k) (j:Int)=m.getD ((N8 k).getD j 0).toNat 0:=by
 unfold atF
 rw [Int.toNat_natCast,(abL k hj).1]
theorem atu {v:List UInt64} (hv:v.length=16) (a b c d:Nat) (x y:UInt64):lay v (Bv (tab v 16 0) a b c d x y) 16 0=Bv v a b c d x y:=by
 rw [jo hv]
 exact xv hv (by rw [fU];exact hv)
def aia (m:List UInt64) (k:Nat) (v:List UInt64):List UInt64:=
 let g:=λj=>m.getD ((N8 k).getD j 0).toNat 0
 Bv (Bv (Bv (Bv (Bv (Bv (Bv (Bv v 0 4 8 12 (g 0) (g 1)) 1 5 9 13 (g 2) (g 3)) 2 6 10 14 (g 4) (g 5)) 3 7 11 15 (g 6) (g 7)) 0 5 10 15 (g 8) (g 9)) 1 6 11 12 (g 10) (g 11)) 2 7 8 13 (g 12) (g 13)) 3 4 9 14 (g 14) (g 15)
theorem ayQ (m:List UInt64) (k:Nat) (v:List UInt64):Yv m (rowAt k) (Yw m (rowAt k) v)=aia m k v:=by
 have h:=λ{j:Nat} (hj:j<16)=>aIG m k hj
 have a0:atF m (rowAt k) (2*((0:Nat):Int))=m.getD ((N8 k).getD 0 0).toNat 0:=h (j:=0) (by decide)
 have a1:atF m (rowAt k) (2*((0:Nat):Int)+1)=m.getD ((N8 k).getD 1 0).toNat 0:=h (j:=1) (by decide)
 have a2:atF m (rowAt k) (2*((1:Nat):Int))=m.getD ((N8 k).getD 2 0).toNat 0:=h (j:=2) (by decide)
 have a3:atF m (rowAt k) (2*((1:Nat):Int)+1)=m.getD ((N8 k).getD 3 0).toNat 0:=h (j:=3) (by decide)
 have a4:atF m (rowAt k) (2*((2:Nat):Int))=m.getD ((N8 k).getD 4 0).toNat 0:=h (j:=4) (by decide)
 have a5:atF m (rowAt k) (2*((2:Nat):Int)+1)=m.getD ((N8 k).getD 5 0).toNat 0:=h (j:=5) (by decide)
 have a6:atF m (rowAt k) (2*((3:Nat):Int))=m.getD ((N8 k).getD 6 0).toNat 0:=h (j:=6) (by decide)
 have a7:atF m (rowAt k) (2*((3:Nat):Int)+1)=m.getD ((N8 k).getD 7 0).toNat 0:=h (j:=7) (by decide)
 have a8:atF m (rowAt k) (8+2*((0:Nat):Int))=m.getD ((N8 k).getD 8 0).toNat 0:=h (j:=8) (by decide)
 have a9:atF m (rowAt k) (9+2*((0:Nat):Int))=m.getD ((N8 k).getD 9 0).toNat 0:=h (j:=9) (by decide)
 have a10:atF m (rowAt k) (8+2*((1:Nat):Int))=m.getD ((N8 k).getD 10 0).toNat 0:=h (j:=10) (by decide)
 have a11:atF m (rowAt k) (9+2*((1:Nat):Int))=m.getD ((N8 k).getD 11 0).toNat 0:=h (j:=11) (by decide)
 have a12:atF m (rowAt k) (8+2*((2:Nat):Int))=m.getD ((N8 k).getD 12 0).toNat 0:=h (j:=12) (by decide)
 have a13:atF m (rowAt k) (9+2*((2:Nat):Int))=m.getD ((N8 k).getD 13 0).toNat 0:=h (j:=13) (by decide)
 have a14:atF m (rowAt k) (8+2*((3:Nat):Int))=m.getD ((N8 k).getD 14 0).toNat 0:=h (j:=14) (by decide)
 have a15:atF m (rowAt k) (9+2*((3:Nat):Int))=m.getD ((N8 k).getD 15 0).toNat 0:=h (j:=15) (by decide)
 simp only [Yw,Yv,upto,a0,a1,a2,a3,a4,a5,a6,a7,a8,a9,a10,a11,a12,a13,a14,a15,Nat.reduceAdd,Nat.reduceMod,aia]
def DL (s:cu):Bool:=decide (s.1.2.2.2.2.2.1=0/\s.2.2.2.1.length=16/\s.2.2.2.2.1.length=16/\s.2.2.2.2.2.1=OL)
def n8 (s:cu):jU:=(((),(),(),()),(s.2.1,s.2.2.1,kC s.2.2.2.2.1 s.2.2.2.1,()))
theorem arD:∀ s:cu,DL s=true->∃ m e,ao sC m s=some e/\(AG n8 s).run=some e:=by
 rintro ⟨⟨⟨⟩,⟨⟩,⟨⟩,⟨⟩,⟨⟩,i,⟨⟩⟩,⟨c0,c1,v,m,c4,⟨⟩⟩⟩ hh
 have h':=of_decide_eq_true hh
 dsimp only at h'
 obtain ⟨rfl,hv,hm,rfl⟩:=h'
 have:=(aP (T:=sC) (λk v=>((((),(),(),(),(),(k:Int),()),(c0,c1,v,m,OL,())):cu)) (λk v=>Yv m (rowAt k) (Yw m (rowAt k) v))
  (λv=>(⟨(.exit 4,ql),(((),(),(),()),(c0,c1,v,()))⟩:aE)) 12 v (λ_ v=>v.length=16) hv (λk v hk hv=>⟨?_,by rw [tv,nq];exact hv⟩) (λv hv=> ?_)).1
 ·obtain ⟨n,hn⟩:=this
  exact ⟨n,_,hn,rfl⟩
 ·have t1:Int.tmod (k:Int) 10=((k%10:Nat):Int):=by rw [Int.tmod_eq_emod_of_nonneg (by omega)];omega
  have e1:((k%10:Nat):Int).toNat=k%10:=by omega
  have hrow:OL.getD (k%10) [0,0,0,0,0,0,0,0,0,0,0,0,0,0,0,0]=N8 k:=rfl
  have hb:=λ{j:Nat} (hj:j<16)=>(abL k hj).2
  have hn:=λ{j:Nat} (hj:j<16)=>xz (abL k hj).2
  refine (OT.ap (decide_eq_true (by dsimp only;omega))).trans ((ah ?_).trans ?_)
  ·simp only [t1,e1,Nat.add_zero,hrow,atu,gr,fU,hv,hm,hb,hn,List.all_cons,List.all_nil,Bool.and_true,Bool.and_eq_true,decide_true,Nat.le_refl,Nat.reduceLT,true_and,Nat.reduceDiv]
   exact ⟨aN (by omega),decide_eq_true (show k%10<10 by omega),aH (by omega)⟩
  ·simp only [OT.cL,t1,e1,Nat.add_zero,hrow,atu,gr,fU,hv,ayQ]
   rfl
 ·exact OT.ar (decide_eq_false (by dsimp only;omega))
def DK (s:ct):Bool:=decide (s.1.2.2.2.1=0/\s.2.1.length=8/\s.2.2.2.1.length=16)
def n7 (s:ct):jT:=(((),(),()),(KL s.2.1 s.2.2.2.1,s.2.2.1,()))
theorem arC:∀ s:ct,DK s=true->∃ m e,ao sB m s=some e/\(AF n7 s).run=some e:=by
 rintro ⟨⟨⟨⟩,⟨⟩,⟨⟩,i,⟨⟩⟩,⟨h,c1,v,⟨⟩⟩⟩ hh
 have h':=of_decide_eq_true hh
 dsimp only at h'
 obtain ⟨rfl,hl,hv⟩:=h'
 have:=(aP (T:=sB) (λk h=>((((),(),(),(k:Int),()),(h,c1,v,())):ct)) (λk h=>h.set k (h.getD k 0^^^(v.getD k 0^^^v.getD (k+8) 0)))
  (λh=>(⟨(.exit 6,qk),(((),(),()),(h,c1,()))⟩:aE)) 8 h (λ_ h=>h.length=8) hl (λk h hk hl=>⟨?_,by rw [List.length_set];exact hl⟩) (λh hl=> ?_)).1
 ·obtain ⟨n,hn⟩:=this
  exact ⟨n,_,hn,rfl⟩
 ·have e1:((k:Int)+8).toNat=k+8:=by omega
  refine (OT.ap (decide_eq_true (by dsimp only;omega))).trans ((ah ?_).trans ?_)
  ·simp only [e1,hl,hv,List.all_cons,List.all_nil,Bool.and_true,Bool.and_eq_true]
   exact ⟨aN (by omega),decide_eq_true (by omega),aN (by omega),decide_eq_true (by omega),aH (by omega),aN (by omega),decide_eq_true (by omega),aN (by omega),decide_eq_true (by omega),aH (by omega)⟩
  ·simp only [OT.cL,e1,Nat.add_zero]
   rfl
 ·exact OT.ar (decide_eq_false (by dsimp only;omega))
theorem aBq (x:UInt64):x^^^18446744073709551615= ~~~x:=by
 rw [<-UInt64.toBitVec_inj]
 show x.toBitVec^^^BitVec.allOnes 64= ~~~ x.toBitVec
 exact BitVec.xor_allOnes
theorem SA {b:List UInt8} {t:UInt64} {l:Bool} {h c1:List UInt64} (hh:h.length=8):DN ((b,t,l,(),(),(),(),0,()),(h,c1,bIV,[0,0,0,0,0,0,0,0,0,0,0,0,0,0,0,0],()))=true:=decide_eq_true ⟨rfl,hh,rfl,rfl⟩
theorem AD {b:List UInt8} {c0 c1 c2:List UInt64}:DM ((b,(),(),(),(),0,()),(c0,c1,c2,[0,0,0,0,0,0,0,0,0,0,0,0,0,0,0,0],()))=true:=decide_eq_true ⟨rfl,rfl⟩
theorem AC {c0 c1 v m:List UInt64} (hv:v.length=16) (hm:m.length=16):DL (((),(),(),(),(),0,()),(c0,c1,v,m,OL,()))=true:=decide_eq_true ⟨rfl,hv,hm,rfl⟩
theorem AB {c0 c1 v:List UInt64} (h0:c0.length=8) (hv:v.length=16):DK (((),(),(),0,()),(c0,c1,v,()))=true:=decide_eq_true ⟨rfl,h0,hv⟩
def dF (h:List UInt64) (b:List UInt8) (t:UInt64) (last:Bool):List UInt64:=KL h (kC (kD b) (rX h t last))
def Pn (x:DO):Bool:=decide (x.1.1.length=8)
def aic (x:DO):OT io.Y:=.ok ⟨AE,((dF x.1.1 x.1.2.1 x.1.2.2.1 x.1.2.2.2.1,()),())⟩
theorem arB:ac Tryz.prog 106 (io.aI Pn aic):=abR DN lC DM n9 DL n8 DK n7 arF arE arD arC _ _ λx oy hp ho=>by
 rw [<-ho]
 clear ho
 obtain ⟨⟨h,b,t,last,⟨⟩⟩,⟨⟩⟩:=x
 have hh:h.length=8:=of_decide_eq_true hp
 have t1:tab h 8 0=h:=jo hh
 have hv:∀ c l,(rX h c l).length=16:=λc l=>by
  unfold rX
  cases l<;>simp [hh]<;>rfl
 have hm:(kD b).length=16:=Jg b
 have hr:∀ c l,(kC (kD b) (rX h c l)).length=16:=λc l=>by rw [sj];exact hv c l
 have hM:∀ c l,(dF h b c l).length=8:=λc l=>by unfold dF;rw [kI];exact hh
 have hi:(h++bIV).length=16:=by simp [hh];rfl
 have e8: [(7640891576956012808:UInt64),13503953896175478587,4354685564936845355,11912009170470909681,5840696475078001361,11170449401992604703,2270897969802886507,6620516959819538809]=bIV:=rfl
 have key:∀ M:List UInt64,M.length=8->tab (lay [(0:UInt64),0,0,0,0,0,0,0] M 8 0) 8 0=M:=λM hM=>by rw [xv (n:=8) rfl hM,jo hM]
 have l1:List.set (h++bIV) 12 ((h++bIV).getD 12 0^^^t)=rX h t false:=rfl
 have l2:List.set (rX h t false) 14 (~~~(rX h t false).getD 14 0)=rX h t true:=rfl
 have l3:∀ c l,KL h (kC (kD b) (rX h c l))=dF h b c l:=λ_ _=>rfl
 have l4:tab OL 10 (List.replicate 16 0)=OL:=jo rfl
 refine (ah ?_).trans ?_
 ·simp only [t1,List.all_cons,List.all_nil,Bool.and_true,Bool.and_eq_true]
  rw [e8]
  simp only [lC,hi]
  exact ⟨SA hh,rfl,rfl⟩
 ·cases last
  ·refine (OT.ar rfl).trans ((ah ?_).trans ?_)
   ·simp only [t1,List.all_cons,List.all_nil,Bool.and_true,Bool.and_eq_true]
    rw [e8]
    simp only [lC,n9,n8,n7,l1,l3,gr,hM]
    exact ⟨AD,AC (hv _ _) hm,AB hh (hr _ _),rfl,rfl,rfl⟩
   ·simp only [t1]
    rw [e8]
    simp only [lC,n9,n8,n7,l1,l3]
    rw [key _ (hM _ _)]
    rfl
  ·refine (OT.ap rfl).trans ((ah ?_).trans ?_)
   ·simp only [t1,List.all_cons,List.all_nil,Bool.and_true,Bool.and_eq_true]
    rw [e8]
    simp only [lC,n9,n8,n7,l1,aBq,l2,l3,gr,hM,hv]
    exact ⟨rfl,rfl,AD,AC (hv _ _) hm,AB hh (hr _ _),rfl,rfl,rfl⟩
   ·simp only [t1]
    rw [e8]
    simp only [lC,n9,n8,n7,l1,aBq,l2,l3]
    rw [key _ (hM _ _)]
    rfl
def ym:cj:=(io.aI Pn aic)
theorem WB:ac Tryz.prog 106 ym:=arB
theorem WA:aG ym:=aA
def rv:Env:=ay 106 ym Cq
theorem mE:aR Tryz.prog rv:=ag WB mD
theorem Cs:ax rv:=ae WA MV
theorem uA:aW Tryz.prog te rv:=aK follows aq mE Cs
def sd:aw:=⟨[.val false .str,.val false .int,.val false (.list .u8)],[],true,0,false⟩
abbrev alb:Type:=((List UInt8)×(Int)×(List (UInt8))×Unit)×(Unit)
def I5:Shape:=⟨90,[(1,.val false .int),(2,.val false (.list .u8)),(8,.ptr 0 0 0),(9,.val false .int)],[(0,.row .u64)],0,true⟩
abbrev dE:Type:=((Int)×(List (UInt8))×(Unit)×(Int)×Unit)×((List (UInt64))×Unit)
def Ap:Shape:=⟨90,[(1,.val false .int),(2,.val false (.list .u8)),(8,.ptr 0 0 0),(9,.val false .int)],[(0,.row .u64)],0,true⟩
abbrev n0:Type:=((Int)×(List (UInt8))×(Unit)×(Int)×Unit)×((List (UInt64))×Unit)
def aqV:SE->Option Shape:=fw [(0,Ap)] none
def aEi (a1:Int) (a2:List (UInt8)) (a9:Int) (c0:List (UInt64)):OT (Sum dE aE):=
 let z0:Nat:=List.length a2
 let z1:Nat:=List.length c0
 let z2:Bool:=inR (a9+(128:Int))
 (gd [inR ((↑z0:Int)-a9)] (.br (decide ((128:Int)<(↑z0:Int)-a9))
 (gd [decide (8<=z1),z2,dz a9 (a9+(128:Int)) z0,z2,decide ((8/1:Nat)+0<=z1),z2] (.ok (.inl ((a1,(a2,((),(a9+(128:Int),())))),(lay c0 (dF (tab c0 8 (0:UInt64)) (List.drop (Int.toNat a9) (List.take (Int.toNat (a9+(128:Int))) a2)) (i2u (a9+(128:Int))) false) 8 (0:UInt64),())))))
 (.ok (.inr ⟨(.exit 0,Ap),((a1,(a2,((),(a9,())))),(c0,()))⟩))))
def I7 (s:dE):OT (Sum dE aE):=aEi (s.1.1) (s.1.2.1) (s.1.2.2.2.1) (s.2.1)
theorem aEd (s:dE) (Q:Sum dE aE->Prop):wps te rv av 1000 (aU (aj Tryz.f63) 0) (I5.inj s) (bX I5 aqV (Q:Sum I5.T aE->Prop))=(I7 s).wpR Q:=by kernel_rfl
def Sk (g0_0:dE->n0) (s:dE):OT aE:=(.ok ⟨(.exit 0,Ap),g0_0 s⟩)
def I4:Shape:=⟨90,[(1,.val false .int),(8,.ptr 0 0 0),(10,.own 1),(11,.val false .int)],[(0,.row .u64),(1,.row .u8)],0,true⟩
abbrev dD:Type:=((Int)×(Unit)×(Unit)×(Int)×Unit)×((List (UInt64))×(List (UInt8))×Unit)
def Ao:Shape:=⟨90,[(10,.own 0)],[(0,.row .u8)],0,true⟩
abbrev nZ:Type:=((Unit)×Unit)×((List (UInt8))×Unit)
def aqU:SE->Option Shape:=fw [(2,Ao)] none
def aEh (a1:Int) (a11:Int) (c0:List (UInt64)) (c1:List (UInt8)):OT (Sum dD aE):=
 let z0:Int:=Int.tdiv a11 (8:Int)
 let z1:Int:=(8:Int)*Int.tmod a11 (8:Int)
 (.br (decide (a11<a1))
 (gd [true&&inR z0,inB z0 8,decide (Int.toNat z0+0<List.length c0),inR z1,decide ((List.length c1+1)*1<=140737488355328),inR (a11+(1:Int))] (.ok (.inl ((a1,((),((),(a11+(1:Int),())))),(c0,(c1++ [UInt64.toUInt8 (bf (List.getD c0 (Int.toNat z0+0) (0:UInt64)) (↑(UInt64.toNat (i2u z1)):Int))],()))))))
 (.ok (.inr ⟨(.exit 2,Ao),(((),()),(c1,()))⟩)))
def I6 (s:dD):OT (Sum dD aE):=aEh (s.1.1) (s.1.2.2.2.1) (s.2.1) (s.2.2.1)
theorem aEc (s:dD) (Q:Sum dD aE->Prop):wps te rv av 1000 (aU (aj Tryz.f63) 2) (I4.inj s) (bX I4 aqU (Q:Sum I4.T aE->Prop))=(I6 s).wpR Q:=by kernel_rfl
def Sj (g2_2:dD->nZ) (s:dD):OT aE:=(.ok ⟨(.exit 2,Ao),g2_2 s⟩)
def yf:az:=⟨[.own 0,.val false .int],[(0,.row .u8)],false⟩
def ahZ:SV->Option az:=λ_=>some yf
def I8 (ok0:dE->Bool) (g0_0:dE->n0) (ok2:dD->Bool) (g2_2:dD->nZ) (a0:List UInt8) (a1:Int) (a2:List (UInt8)):OT sd.Y:=
 let z0:(Int×List UInt8×PUnit×Int×PUnit)×List UInt64×PUnit:=((a1,a2,(),(0:Int),()),[(7640891576956012808:UInt64)^^^(16842752:UInt64)+i2u a1,(13503953896175478587:UInt64),(4354685564936845355:UInt64),(11912009170470909681:UInt64),(5840696475078001361:UInt64),(11170449401992604703:UInt64),(2270897969802886507:UInt64)^^^im a0 (Int.toNat (0:Int)),(6620516959819538809:UInt64)^^^im a0 (Int.toNat (8:Int))],())
 let z1:(Int×List UInt8×PUnit×Int×PUnit)×List UInt64×PUnit:=g0_0 z0
 let z2:=z1.snd.fst
 let z3:Nat:=List.length z2
 let z4:=z1.fst
 let z5:=z4.snd
 let z6:=z5.snd.snd.fst
 let z7:=z5.fst
 let z8:Nat:=List.length z7
 let z9:Int:=(↑z8:Int)
 let z10:(Int×PUnit×PUnit×Int×PUnit)×List UInt64×List UInt8×PUnit:=((z4.fst,(),(),(0:Int),()),lay z2 (dF (tab z2 8 (0:UInt64)) (List.drop (Int.toNat z6) z7) (i2u z9) true) 8 (0:UInt64),[],())
 (.br (decide ((16:Int)<(↑(List.length a0):Int)))
 (.ok ⟨yf,(((),((30:Int),())),([],()))⟩)
 (.br (decide (a1<(1:Int)))
  (.ok ⟨yf,(((),((30:Int),())),([],()))⟩)
  (.br (decide ((64:Int)<a1))
   (.ok ⟨yf,(((),((30:Int),())),([],()))⟩)
   (gd [ok0 z0,decide (8<=z3),dz z6 z9 z8,decide ((8/1:Nat)+0<=z3),ok2 z10] (.ok ⟨yf,(((),((0:Int),())),((g2_2 z10).snd.fst,()))⟩)))))
theorem aHv (ok0:dE->Bool) (g0_0:dE->n0) (ok2:dD->Bool) (g2_2:dD->nZ) (x:alb) (Q:sd.Y->Prop):wpf te rv (aO 2 (cg I4 2 ok2 (Sj g2_2)) (aO 0 (cg I5 0 ok0 (Sk g0_0)) av)) 1000 Tryz.f63 (sd.inp.inj x).tm (sd.inp.inj x).hp (fnK sd ahZ Q) (λ_ _=>False)=(I8 ok0 g0_0 ok2 g2_2 (x.1.1) (x.1.2.1) (x.1.2.2.1)).wpR Q:=by kernel_rfl
theorem aqW (ok0:dE->Bool) (g0_0:dE->n0) (ok2:dD->Bool) (g2_2:dD->nZ) (h0:∀ s:dE,ok0 s=true->∃ m e,ao (I7) m s=some e/\(Sk g0_0 s).run=some e) (h2:∀ s:dD,ok2 s=true->∃ m e,ao (I6) m s=some e/\(Sj g2_2 s).run=some e) (pre:alb->Bool) (F:alb->OT sd.Y) (hF:∀ (x:alb) oy,pre x=true->(F x).run=some oy->(I8 ok0 g0_0 ok2 g2_2 (x.1.1) (x.1.2.1) (x.1.2.2.1)).run=some oy):ac Tryz.prog 63 (sd.aI pre F):=
 aD aq mE uA (f:=63) (fn:=Tryz.f63) (c:=aj Tryz.f63) (by kernel_rfl) (by kernel_rfl) (by kernel_rfl) (S:=sd) (k:=0) (by kernel_rfl) (λR hR=>(aB (c:=(aj Tryz.f63)) (by kernel_rfl) (id:=2) (by kernel_rfl) (aQ aq mE uA (sh:=I4) hR (xs:=aqU) (aC (by kernel_rfl) (by kernel_rfl) hR) aL af (n:=1000) (T:=I6) (λs Q=>aEc s Q) (ok:=ok2) (f:=Sj g2_2) h2) (aB (c:=(aj Tryz.f63)) (by kernel_rfl) (id:=0) (by kernel_rfl) (aQ aq mE uA (sh:=I5) hR (xs:=aqV) (aC (by kernel_rfl) (by kernel_rfl) hR) aL af (n:=1000) (T:=I7) (λs Q=>aEd s Q) (ok:=ok0) (f:=Sk g0_0) h0) af))) (n:=1000) (sel:=ahZ) (λv o h=>by cases h;rfl) (pre:=pre) (F:=F) (T:=λx=>I8 ok0 g0_0 ok2 g2_2 (x.1.1) (x.1.2.1) (x.1.2.2.1)) (λx Q=>aHv ok0 g0_0 ok2 g2_2 x Q) hF
def n4 (b:List UInt8) (h:List UInt64) (n:Nat):List UInt64:=upto (λk h=>dF h ((b.take (128*k+128)).drop (128*k)) (i2u ((128*k+128:Nat):Int)) false) h n
def Ay (h:List UInt64) (n:Nat):List UInt8:=upto (λk o=>o++ [UInt64.toUInt8 (bf (h.getD (k/8) 0) ((i2u (8*((k%8:Nat):Int))).toNat:Int))]) [] n
theorem fJ {h:List UInt64} {b:List UInt8} {t:UInt64} {l:Bool} (hh:h.length=8):(dF h b t l).length=8:=by unfold dF;rw [kI];exact hh
def Si (s:dE):Bool:=decide (s.1.2.2.2.1=0/\s.2.1.length=8/\s.1.2.1.length<=1000000000000)
def abG (s:dE):n0:=((s.1.1,s.1.2.1,(),((128*((s.1.2.1.length-1)/128):Nat):Int),()),(n4 s.1.2.1 s.2.1 ((s.1.2.1.length-1)/128),()))
theorem aEg:∀ s:dE,Si s=true->∃ m e,ao I7 m s=some e/\(Sk abG s).run=some e:=by
 rintro ⟨⟨n,b,⟨⟩,i,⟨⟩⟩,⟨h,⟨⟩⟩⟩ hh
 have h':=of_decide_eq_true hh
 dsimp only at h'
 obtain ⟨rfl,hl,hb⟩:=h'
 have:=(aP (T:=I7) (λk h=>(((n,b,(),((128*k:Nat):Int),()),(h,())):dE)) (λk h=>dF h ((b.take (128*k+128)).drop (128*k)) (i2u ((128*k+128:Nat):Int)) false)
  (λh=>(⟨(.exit 0,Ap),((n,b,(),((128*((b.length-1)/128):Nat):Int),()),(h,()))⟩:aE)) ((b.length-1)/128) h (λ_ h=>h.length=8) hl (λk h hk hl=>⟨?_,fJ hl⟩) (λh hl=> ?_)).1
 ·obtain ⟨m,hm⟩:=this
  exact ⟨m,_,hm,rfl⟩
 ·have e1:(((128*k:Nat):Int)+128).toNat=128*k+128:=by omega
  have e2:(((128*k:Nat):Int)).toNat=128*k:=by omega
  have e3:((128*k:Nat):Int)+128=((128*k+128:Nat):Int):=by omega
  have e4:((128*(k+1):Nat):Int)=((128*k+128:Nat):Int):=by omega
  have t1:tab h 8 0=h:=jo hl
  have t2:∀ c l t,lay h (dF h c t l) 8 0=dF h c t l:=λc l t=>xv hl (fJ hl)
  refine (ah (by simp only [List.all_cons,List.all_nil,Bool.and_true];exact aH (by omega))).trans ((OT.ap (decide_eq_true (by dsimp only;omega))).trans ((ah ?_).trans ?_))
  ·simp only [hl,List.all_cons,List.all_nil,Bool.and_true,Bool.and_eq_true]
   exact ⟨rfl,aH (by omega),fv (by omega),aH (by omega),rfl,aH (by omega)⟩
  ·simp only [OT.cL,e2,e3,e4,t1,t2,Int.toNat_natCast]
 ·refine (ah (by simp only [List.all_cons,List.all_nil,Bool.and_true];exact aH (by omega))).trans (OT.ar (decide_eq_false (by dsimp only;omega)))
def Sg (s:dD):Bool:=decide (s.1.2.2.2.1=0/\s.2.1.length=8/\s.1.1<=64/\0<=s.1.1/\s.2.2.1= [])
def aqX (s:dD):nZ:=(((),()),(Ay s.2.1 s.1.1.toNat,()))
theorem aEf:∀ s:dD,Sg s=true->∃ m e,ao I6 m s=some e/\(Sj aqX s).run=some e:=by
 rintro ⟨⟨n,⟨⟩,⟨⟩,i,⟨⟩⟩,⟨h,o,⟨⟩⟩⟩ hh
 have h':=of_decide_eq_true hh
 dsimp only at h'
 obtain ⟨rfl,hl,hn,hn0,rfl⟩:=h'
 obtain ⟨k,rfl⟩:∃ k:Nat,n=(k:Int):=⟨n.toNat,by omega⟩
 have:=(aP (T:=I6) (λi o=>((((k:Int),(),(),(i:Int),()),(h,o,())):dD)) (λk o=>o++ [UInt64.toUInt8 (bf (h.getD (k/8) 0) ((i2u (8*((k%8:Nat):Int))).toNat:Int))])
  (λo=>(⟨(.exit 2,Ao),(((),()),(o,()))⟩:aE)) k [] (λi o=>o.length=i) rfl (λi o hi ho=>⟨?_,by simp [ho]⟩) (λo ho=> ?_)).1
 ·obtain ⟨m,hm⟩:=this
  exact ⟨m,_,hm,rfl⟩
 ·have t1:Int.tdiv (i:Int) 8=((i/8:Nat):Int):=by rw [Int.tdiv_eq_ediv_of_nonneg (by omega)];omega
  have t2:Int.tmod (i:Int) 8=((i%8:Nat):Int):=by rw [Int.tmod_eq_emod_of_nonneg (by omega)];omega
  refine (OT.ap (decide_eq_true (by dsimp only;omega))).trans ((ah ?_).trans ?_)
  ·simp only [t1,t2,hl,ho,Int.toNat_natCast,List.all_cons,List.all_nil,Bool.and_true,Bool.and_eq_true]
   exact ⟨⟨trivial,aH (by omega)⟩,aN (by omega),decide_eq_true (by omega),aH (by omega),decide_eq_true (by omega),aH (by omega)⟩
  ·simp only [OT.cL,t1,t2,Int.toNat_natCast,Nat.add_zero]
   rfl
 ·exact OT.ar (decide_eq_false (by dsimp only;omega))
def ars (p:List UInt8) (n:Int):List UInt64:= [0x6a09e667f3bcc908^^^(16842752+i2u n),0xbb67ae8584caa73b,0x3c6ef372fe94f82b,0xa54ff53a5f1d36f1,0x510e527fade682d1,0x9b05688c2b3e6c1f,0x1f83d9abfb41bd6b^^^im p 0,0x5be0cd19137e2179^^^im p 8]
def ayW (p:List UInt8) (n:Int) (b:List UInt8):List UInt8:=
 Ay (dF (n4 b (ars p n) ((b.length-1)/128)) (b.drop (128*((b.length-1)/128))) (i2u (b.length:Int)) true) n.toNat
def HQ (x:alb):Bool:=decide (x.1.2.2.1.length<=1000000000000)
def Pc (x:alb):OT sd.Y:=.br (gz x.1.1 x.1.2.1) (.ok ⟨yf,(((),((30:Int),())),([],()))⟩) (.ok ⟨yf,(((),((0:Int),())),(ayW x.1.1 x.1.2.1 x.1.2.2.1,()))⟩)
theorem abF {n:Int} {b:List UInt8} {h:List UInt64} (hh:h.length=8) (hb:b.length<=1000000000000):Si ((n,b,(),0,()),(h,()))=true:=decide_eq_true ⟨rfl,hh,hb⟩
theorem abE {n:Int} {h:List UInt64} (hh:h.length=8) (hn0:0<=n) (hn:n<=64):Sg ((n,(),(),0,()),(h,[],()))=true:=decide_eq_true ⟨rfl,hh,hn,hn0,rfl⟩
theorem Ax {b:List UInt8} {h:List UInt64} (hh:h.length=8):∀ n,(n4 b h n).length=8
 |0=>hh
 |n+1=>fJ (Ax hh n)
theorem aEe:ac Tryz.prog 63 (sd.aI HQ Pc):=aqW Si abG Sg aqX aEg aEf _ _ λx oy hp ho=>by
 rw [<-ho]
 obtain ⟨⟨p,n,b,⟨⟩⟩,⟨⟩⟩:=x
 clear ho
 have hb:b.length<=1000000000000:=of_decide_eq_true hp
 by_cases h1:16<(p.length:Int)
 ·have e1:decide (16<(p.length:Int))=true:=decide_eq_true h1
  have eb:gz p n=true:=by simp only [gz,e1,Bool.true_or]
  simp only [Pc,I8,e1,eb]
  rfl
 ·have e1:decide (16<(p.length:Int))=false:=decide_eq_false h1
  by_cases h2:n<1
  ·have e2:decide (n<1)=true:=decide_eq_true h2
   have eb:gz p n=true:=by simp only [gz,e1,e2,Bool.true_or,Bool.false_or]
   simp only [Pc,I8,e1,e2,eb]
   rfl
  ·have e2:decide (n<1)=false:=decide_eq_false h2
   by_cases h3:64<n
   ·have e3:decide (64<n)=true:=decide_eq_true h3
    have eb:gz p n=true:=by simp only [gz,e1,e2,e3,Bool.false_or]
    simp only [Pc,I8,e1,e2,e3,eb]
    rfl
   ·have e3:decide (64<n)=false:=decide_eq_false h3
    have eb:gz p n=false:=by simp only [gz,e1,e2,e3,Bool.false_or]
    have hH:(ars p n).length=8:=rfl
    have hE:∀ k,(n4 b (ars p n) k).length=8:=λk=>Ax hH k
    have l1: [(7640891576956012808:UInt64)^^^16842752+i2u n,13503953896175478587,4354685564936845355,11912009170470909681,5840696475078001361,11170449401992604703,2270897969802886507^^^im p (Int.toNat 0),6620516959819538809^^^im p (Int.toNat 8)]=ars p n:=rfl
    have t1:∀ k,tab (n4 b (ars p n) k) 8 0=n4 b (ars p n) k:=λk=>jo (hE k)
    have t2:∀ k c l t,lay (n4 b (ars p n) k) (dF (n4 b (ars p n) k) c t l) 8 0=dF (n4 b (ars p n) k) c t l:=λk c l t=>xv (hE k) (fJ (hE k))
    simp only [Pc,I8,e1,e2,e3,eb,abG,l1,t1,t2,hE,Int.toNat_natCast]
    refine (ah ?_).trans rfl
    simp only [List.all_cons,List.all_nil,Bool.and_true,Bool.and_eq_true]
    exact ⟨abF hH hb,rfl,fv (by omega),rfl,abE (fJ (hE _)) (by omega) (by omega)⟩
def I3:cj:=(sd.aI HQ Pc)
theorem ala:ac Tryz.prog 63 I3:=aEe
theorem ak9:aG I3:=aA
def RG:Env:=ay 63 I3 rv
theorem Co:aR Tryz.prog RG:=ag ala mE
theorem MR:ax RG:=ae ak9 Cs
theorem RF:aW Tryz.prog te RG:=aK follows aq Co MR
end Go.Proofs.YtohjofabochgfaaGreat

namespace Go.Proofs.YtohjofabochgfaaGreat
namespace Sx
open Go
def Ctx.tA (R:Ctx) (c:Nat) (ch:Ch) (b:Nat) (o:Obj):Ctx:=
 ⟨λb'=>if b'=b then some o else R.F b',R.U,R.σ,λc'=>if c'=c then some ch else R.hp c'⟩
theorem QI {R:Ctx} {w:World} (hm:dw R w) {c e:Nat} {t:Ty} {xs:List t.T} (hc:R.hp c=some ⟨e,.row t xs⟩):∃ R1,fj R R1 w [(c,⟨e,.frz t xs⟩)]:=by
 have h0:=hm.ch c _ hc
 cases hσ:R.σ c with
 |none=>
  simp only [fh,hσ] at h0
  obtain ⟨hpos,hl,rfl⟩:=h0
  have hx:R.Ext (R.upd c ⟨e,.frz t []⟩):=⟨λ_ _ h=>h,rfl,λc' ch' hc'=>by
   by_cases h1:c'=c
   ·subst h1
    rw [hc] at hc'
    cases hc'
    exact ⟨⟨e,.frz t []⟩,by simp only [Ctx.upd,if_true],Nat.le_refl e,λ_=>⟨rfl,rfl⟩⟩
   ·exact ⟨ch',by simp only [Ctx.upd,if_neg h1,hc'],Nat.le_refl _,λ_=>⟨rfl,rfl⟩⟩⟩
  refine ⟨R.upd c ⟨e,.frz t []⟩,hx,rfl,?_⟩
  refine dw.turn hm hx rfl rfl (λ_ _=>rfl) w.heap.size (λ_ _ _=>rfl) ⟨hm.aan,hm.aak,λn ch L hn h1 h2 h3=> ?_⟩ ?_ (λL h2=> ?_)
  ·have:=hm.lt h1 h2 h3;omega
  ·simp only [fh,Ctx.upd,hσ]
   exact ⟨hpos,hl,trivial⟩
  ·have h2:R.σ c=some L:=h2
   rw [hσ] at h2;cases h2
 |some L=>
  simp only [fh,hσ] at h0
  obtain ⟨hpos,hl,hF,hU,arr,E,k1,k2,k3,k4⟩:=h0
  have hx:R.Ext (R.tA c ⟨e,.frz t xs⟩ L.block (.cells arr E (0,0))):=⟨λb o' h=>by
   have:b≠L.block:=λe'=>by rw [e',hF] at h;cases h
   simp only [Ctx.tA,if_neg this,h],rfl,λc' ch' hc'=>by
    by_cases h1:c'=c
    ·subst h1
     rw [hc] at hc'
     cases hc'
     exact ⟨⟨e,.frz t xs⟩,by simp only [Ctx.tA,if_true],Nat.le_refl e,λ_=>⟨rfl,rfl⟩⟩
    ·exact ⟨ch',by simp only [Ctx.tA,if_neg h1,hc'],Nat.le_refl _,λ_=>⟨rfl,rfl⟩⟩⟩
  refine ⟨R.tA c ⟨e,.frz t xs⟩ L.block (.cells arr E (0,0)),hx,rfl,λb o' h=> ?_,λb o' h=>hm.U b o' h,λc' ch' hc'=> ?_,λc1 c2 ch1 ch2 L1 L2 g1 g2 g3 g4 g5 g6 g7=> ?_,λb o' h=> ?_,hm.env⟩
  ·simp only [Ctx.tA] at h
   split at h
   ·rename_i h1
    subst h1
    rw [k1];exact h
   ·exact hm.F b o' h
  ·by_cases h1:c'=c
   ·subst h1
    simp only [Ctx.tA,if_true] at hc'
    cases hc'
    simp only [fh,Ctx.tA,hσ]
    exact ⟨hpos,hl,arr,E,(0,0),by simp only [if_true],k2,k3,λi hi=>cf hx.F _ _ _ (k4 i hi)⟩
   ·simp only [Ctx.tA,if_neg h1] at hc'
    have hch:=hm.ch c' ch' hc'
    have hs:(R.tA c ⟨e,.frz t xs⟩ L.block (.cells arr E (0,0))).σ c'=R.σ c':=rfl
    have hblk:∀ L',R.σ c'=some L'->ch'.body.mut=true->L'.block≠L.block:=λL' h2 h3 h4=>h1 (hm.apart c' c _ _ _ _ hc' hc h3 rfl h2 hσ h4)
    have hFn:∀ b,b≠L.block->R.F b=none->(R.tA c ⟨e,.frz t xs⟩ L.block (.cells arr E (0,0))).F b=none:=λb h2 h3=>by simp only [Ctx.tA,if_neg h2,h3]
    obtain ⟨ep,body⟩:=ch'
    cases body with
    |row t ys=>
     simp only [fh] at hch⊢
     rw [hs]
     refine ⟨hch.1,hch.2.1,?_⟩
     replace hch:=hch.2.2
     cases hL:R.σ c' with
     |none=>rw [hL] at hch;exact hch
     |some L'=>
      rw [hL] at hch
      obtain ⟨c1,c2,arr,E,c3,c4,c5,c6⟩:=hch
      have hne:=hblk L' hL rfl
      exact ⟨hFn _ hne c1,c2,arr,E,c3,c4,c5,λi hi=>cf hx.F _ _ _ (c6 i hi)⟩
    |frz t ys=>
     simp only [fh] at hch⊢
     rw [hs]
     refine ⟨hch.1,hch.2.1,?_⟩
     replace hch:=hch.2.2
     cases hL:R.σ c' with
     |none=>rw [hL] at hch;exact hch
     |some L'=>
      rw [hL] at hch
      obtain ⟨arr,E,fz,c3,c4,c5,c6⟩:=hch
      exact ⟨arr,E,fz,hx.F _ _ c3,c4,c5,λi hi=>cf hx.F _ _ _ (c6 i hi)⟩
    |cells vs=>
     simp only [fh] at hch⊢
     obtain ⟨L',hL,c1,c2,arr,E,c3,c4,c5,c6,c7⟩:=hch
     have hne:=hblk L' hL rfl
     exact ⟨L',by rw [hs];exact hL,hFn _ hne c1,c2,arr,E,c3,c4,c5,SV.eP hx _ _ c6,c7⟩
  ·by_cases h1:c1=c
   ·subst h1
    simp only [Ctx.tA,if_true] at g1
    cases g1
    cases g3
   ·by_cases h2:c2=c
    ·subst h2
     simp only [Ctx.tA,if_true] at g2
     cases g2
     cases g4
    ·simp only [Ctx.tA,if_neg h1] at g1
     simp only [Ctx.tA,if_neg h2] at g2
     exact hm.apart _ _ _ _ _ _ g1 g2 g3 g4 g5 g6 g7
  ·simp only [Ctx.tA] at h
   split at h
   ·rename_i h1
    subst h1
    exact hU
   ·exact hm.FU b o' h
end Sx
end Go.Proofs.YtohjofabochgfaaGreat

namespace Go.Proofs.YtohjofabochgfaaGreat
open Sx Go
set_option maxRecDepth 100000
def eD:aw:=⟨[.val true .elem,.val true .elem],[],true,0,false⟩
abbrev vz:Type:=((aa)×(aa)×Unit)×(Unit)
def oH:Shape:=⟨24,[(2,.ptr 0 0 0),(3,.ptr 1 0 0),(5,.val false .int)],[(0,.row .u64),(1,.row .u64)],0,true⟩
abbrev bh:Type:=((Unit)×(Unit)×(Int)×Unit)×((List (UInt64))×(List (UInt64))×Unit)
def j4:Shape:=⟨24,[(4,.val false .bool)],[],0,true⟩
abbrev iF:Type:=((Bool)×Unit)×(Unit)
def mZ:Shape:=⟨24,[],[],0,true⟩
abbrev iG:Type:=(Unit)×(Unit)
def PZ:SE->Option Shape:=fw [(0,mZ)] (some j4)
def al1 (a5:Int) (c0:List (UInt64)) (c1:List (UInt64)):OT (Sum bh aE):=
 let z0:Bool:=inB a5 4
 let z1:Bool:=decide (Int.toNat a5+0<List.length c0)
 let z2:Bool:=decide (Int.toNat a5+0<List.length c1)
 let z3:UInt64:=List.getD c0 (Int.toNat a5+0) (0:UInt64)
 let z4:UInt64:=List.getD c1 (Int.toNat a5+0) (0:UInt64)
 (.br (decide ((0:Int)<=a5))
 (gd [z0,z1,z0,z2] (.br (!z3==z4)
  (gd [z0,z1,z0,z2] (.ok (.inr ⟨(.ret,j4),((decide (z3<z4),()),())⟩)))
  (gd [inR (a5-(1:Int))] (.ok (.inl (((),((),(a5-(1:Int),()))),(c0,(c1,()))))))))
 (.ok (.inr ⟨(.exit 0,mZ),((),())⟩)))
def gl (s:bh):OT (Sum bh aE):=al1 (s.1.2.2.1) (s.2.1) (s.2.2.1)
theorem alY (s:bh) (Q:Sum bh aE->Prop):wps te RG av 1000 (aU (aj Tryz.f144) 0) (oH.inj s) (bX oH PZ (Q:Sum oH.T aE->Prop))=(gl s).wpR Q:=by kernel_rfl
def oI (g0_r:bh->iF) (c0_r:bh->Bool) (g0_0:bh->iG) (s:bh):OT aE:=(.br (c0_r s) (.ok ⟨(.ret,j4),g0_r s⟩) (.ok ⟨(.exit 0,mZ),g0_0 s⟩))
def kX:az:=⟨[.val false .bool],[],false⟩
def J3:SV->Option az:=λ_=>some kX
def J6 (ok0:bh->Bool) (g0_r:bh->iF) (c0_r:bh->Bool) (g0_0:bh->iG) (a0:aa) (a1:aa):OT eD.Y:=
 let z0:(PUnit×PUnit×Int×PUnit)×List UInt64×List UInt64×PUnit:=(((),(),(3:Int),()),[a0.w0,a0.w1,a0.w2,a0.w3],[a1.w0,a1.w1,a1.w2,a1.w3],())
 (gd [ok0 z0] (.br (c0_r z0)
 (.ok ⟨kX,(((g0_r z0).fst.fst,()),())⟩)
 (.ok ⟨kX,((false,()),())⟩)))
theorem asz (ok0:bh->Bool) (g0_r:bh->iF) (c0_r:bh->Bool) (g0_0:bh->iG) (x:vz) (Q:eD.Y->Prop):wpf te RG (aO 0 (cg oH 0 ok0 (oI g0_r c0_r g0_0)) av) 1000 Tryz.f144 (eD.inp.inj x).tm (eD.inp.inj x).hp (fnK eD J3 Q) (λ_ _=>False)=(J6 ok0 g0_r c0_r g0_0 (x.1.1) (x.1.2.1)).wpR Q:=by kernel_rfl
theorem Xv (ok0:bh->Bool) (g0_r:bh->iF) (c0_r:bh->Bool) (g0_0:bh->iG) (h0:∀ s:bh,ok0 s=true->∃ m e,ao (gl) m s=some e/\(oI g0_r c0_r g0_0 s).run=some e) (pre:vz->Bool) (F:vz->OT eD.Y) (hF:∀ (x:vz) oy,pre x=true->(F x).run=some oy->(J6 ok0 g0_r c0_r g0_0 (x.1.1) (x.1.2.1)).run=some oy):ac Tryz.prog 144 (eD.aI pre F):=
 aD aq Co RF (f:=144) (fn:=Tryz.f144) (c:=aj Tryz.f144) (by kernel_rfl) (by kernel_rfl) (by kernel_rfl) (S:=eD) (k:=0) (by kernel_rfl) (λR hR=>(aB (c:=(aj Tryz.f144)) (by kernel_rfl) (id:=0) (by kernel_rfl) (aQ aq Co RF (sh:=oH) hR (xs:=PZ) (aC (by kernel_rfl) (by kernel_rfl) hR) aL af (n:=1000) (T:=gl) (λs Q=>alY s Q) (ok:=ok0) (f:=oI g0_r c0_r g0_0) h0) af)) (n:=1000) (sel:=J3) (λv o h=>by cases h;rfl) (pre:=pre) (F:=F) (T:=λx=>J6 ok0 g0_r c0_r g0_0 (x.1.1) (x.1.2.1)) (λx Q=>asz ok0 g0_r c0_r g0_0 x Q) hF
def jp (a b:aa) (i:Int):bh:=(((),(),i,()),(lst a,lst b,()))
theorem H2 (a b:aa) (k:Nat) (hk:k<4) (h:(lst a).getD k 0=(lst b).getD k 0):(gl (jp a b (k:Int))).run=some (.inl (jp a b ((k:Int)-1))):=by
 refine (OT.ap (decide_eq_true (by dsimp only [jp];omega))).trans ((ah ?_).trans ((OT.ar ?_).trans ((ah ?_).trans rfl)))
 ·simp only [jp,Int.toNat_natCast,Nat.add_zero,cG,List.all_cons,List.all_nil,Bool.and_true,Bool.and_eq_true]
  exact ⟨aN (by omega),decide_eq_true hk,aN (by omega),decide_eq_true hk⟩
 ·simp only [jp,Int.toNat_natCast,Nat.add_zero,h,beq_self_eq_true,Bool.not_true]
 ·simp only [jp,List.all_cons,List.all_nil,Bool.and_true]
  exact aH (by omega)
theorem vA (a b:aa) (k:Nat) (hk:k<4) (h:¬(lst a).getD k 0=(lst b).getD k 0):(gl (jp a b (k:Int))).run=some (.inr ⟨(.ret,j4),((decide ((lst a).getD k 0<(lst b).getD k 0),()),())⟩):=by
 refine (OT.ap (decide_eq_true (by dsimp only [jp];omega))).trans ((ah ?_).trans ((OT.ap ?_).trans ((ah ?_).trans ?_)))
 ·simp only [jp,Int.toNat_natCast,Nat.add_zero,cG,List.all_cons,List.all_nil,Bool.and_true,Bool.and_eq_true]
  exact ⟨aN (by omega),decide_eq_true hk,aN (by omega),decide_eq_true hk⟩
 ·simp only [jp,Int.toNat_natCast,Nat.add_zero,beq_eq_false_iff_ne.2 h,Bool.not_false]
 ·simp only [jp,Int.toNat_natCast,Nat.add_zero,cG,List.all_cons,List.all_nil,Bool.and_true,Bool.and_eq_true]
  exact ⟨aN (by omega),decide_eq_true hk,aN (by omega),decide_eq_true hk⟩
 ·simp only [jp,Int.toNat_natCast,Nat.add_zero]
  rfl
def J5 (s:bh):Bool:=decide (s.1.2.2.1=3/\s.2.1.length=4/\s.2.2.1.length=4)
def Eh (s:bh):iF:=((Nat.blt (elemOf s.2.1).nat (elemOf s.2.2.1).nat,()),())
def lS (s:bh):Bool:= !eqE (elemOf s.2.1) (elemOf s.2.2.1)
def Ei (_:bh):iG:=((),())
theorem Tf {a b:aa} (h:¬a=b) {r:Bool} (hr:r=Nat.blt a.nat b.nat) (hm:∃ m,ao gl m (jp a b 3)=some ⟨(.ret,j4),((r,()),())⟩):
 ∃ m e,ao gl m (jp a b 3)=some e/\(oI Eh lS Ei (jp a b 3)).run=some e:=by
 obtain ⟨m,hm⟩:=hm
 refine ⟨m,_,hm,?_⟩
 have hc:lS (jp a b 3)=true:=by
  show (!eqE a b)=true
  rw [Bool.eq_false_iff.2 λe=>h (y8.1 e)]
  rfl
 subst hr
 exact OT.ap hc
theorem al0:∀ s:bh,J5 s=true->∃ m e,ao gl m s=some e/\(oI Eh lS Ei s).run=some e:=by
 rintro ⟨⟨⟨⟩,⟨⟩,i,⟨⟩⟩,⟨l1,l2,⟨⟩⟩⟩ h
 have h':=of_decide_eq_true h
 dsimp only at h'
 obtain ⟨rfl,h1,h2⟩:=h'
 obtain ⟨a,rfl⟩:∃ a,l1=lst a:=⟨elemOf l1,(aS h1).symm⟩
 obtain ⟨b,rfl⟩:∃ a,l2=lst a:=⟨elemOf l2,(aS h2).symm⟩
 have ha0:=a.w0.toNat_lt
 have hb0:=b.w0.toNat_lt
 have ha1:=a.w1.toNat_lt
 have hb1:=b.w1.toNat_lt
 have ha2:=a.w2.toNat_lt
 have hb2:=b.w2.toNat_lt
 by_cases h3:a.w3=b.w3
 ·have s3:=H2 a b 3 (by omega) h3
  by_cases h2:a.w2=b.w2
  ·have s2:=H2 a b 2 (by omega) h2
   by_cases h1:a.w1=b.w1
   ·have s1:=H2 a b 1 (by omega) h1
    by_cases h0:a.w0=b.w0
    ·have s0:=H2 a b 0 (by omega) h0
     have e:a=b:=by cases a;cases b;simp_all
     have sx:(gl (jp a b (((0:Nat):Int)-1))).run=some (.inr ⟨(.exit 0,mZ),((),())⟩):=OT.ar (decide_eq_false (by dsimp only [jp];omega))
     refine ⟨_,_,aF s3 (aF s2 (aF s1 (aF s0 (aM sx)))),?_⟩
     have hc:lS (((),(),3,()),(lst a,lst b,()))=false:=by
      show (!eqE a b)=false
      rw [e,ajW]
      rfl
     exact OT.ar hc
    ·refine Tf (λe=>h0 (by rw [e])) (uu ?_) ⟨_,aF s3 (aF s2 (aF s1 (aM (vA a b 0 (by omega) h0))))⟩
     show a.nat<b.nat ↔ a.w0.toNat<b.w0.toNat
     unfold Sx.aa.nat
     rw [h3,h2,h1]
     exact QB.1
   ·refine Tf (λe=>h1 (by rw [e])) (uu ?_) ⟨_,aF s3 (aF s2 (aM (vA a b 1 (by omega) h1)))⟩
    show a.nat<b.nat ↔ a.w1.toNat<b.w1.toNat
    unfold Sx.aa.nat
    rw [h3,h2]
    have k:=QB (x:=a.w1.toNat) (y:=b.w1.toNat) (N:=b.w2.toNat+18446744073709551616*b.w3.toNat)
    exact (rR ha0 hb0 (k.2 (EB h1))).1.trans k.1
  ·refine Tf (λe=>h2 (by rw [e])) (uu ?_) ⟨_,aF s3 (aM (vA a b 2 (by omega) h2))⟩
   show a.nat<b.nat ↔ a.w2.toNat<b.w2.toNat
   unfold Sx.aa.nat
   rw [h3]
   have k:=QB (x:=a.w2.toNat) (y:=b.w2.toNat) (N:=b.w3.toNat)
   have k1:=rR ha1 hb1 (k.2 (EB h2))
   exact (rR ha0 hb0 k1.2).1.trans (k1.1.trans k.1)
 ·refine Tf (λe=>h3 (by rw [e])) (uu ?_) ⟨_,aM (vA a b 3 (by omega) h3)⟩
  show a.nat<b.nat ↔ a.w3.toNat<b.w3.toNat
  unfold Sx.aa.nat
  have k2:=rR ha2 hb2 (EB h3)
  have k1:=rR ha1 hb1 k2.2
  exact (rR ha0 hb0 k1.2).1.trans (k1.1.trans k2.1)
def J4 (_:vz):Bool:=true
def Xw (x:vz):OT eD.Y:=.ok ⟨kX,((Nat.blt x.1.1.nat x.1.2.1.nat,()),())⟩
theorem alZ:ac Tryz.prog 144 (eD.aI J4 Xw):=Xv J5 Eh lS Ei al0 _ _ λx oy _ ho=>by
 rw [<-ho]
 clear ho
 obtain ⟨⟨a,b,⟨⟩⟩,⟨⟩⟩:=x
 refine (ah ?_).trans ?_
 ·simp only [List.all_cons,List.all_nil,Bool.and_true]
  exact decide_eq_true ⟨rfl,rfl,rfl⟩
 ·rcases (Bool.eq_false_or_eq_true (eqE a b)).symm with h|h
  ·have hc:lS (((),(),3,()),(lst a,lst b,()))=true:=by
    show (!eqE a b)=true
    rw [h]
    rfl
   exact OT.ap hc
  ·have hc:lS (((),(),3,()),(lst a,lst b,()))=false:=by
    show (!eqE a b)=false
    rw [h]
    rfl
   refine (OT.ar hc).trans ?_
   have e:Nat.blt a.nat b.nat=false:=by
    rw [y8.1 h]
    cases hb:Nat.blt b.nat b.nat
    ·rfl
    ·exact absurd (dy hb) (Nat.lt_irrefl _)
   show (OT.ok ⟨kX,((false,()),())⟩:OT eD.Y).run=(OT.ok ⟨kX,((Nat.blt a.nat b.nat,()),())⟩:OT eD.Y).run
   rw [e]
def sV:cj:=(eD.aI J4 Xw)
theorem Te:ac Tryz.prog 144 sV:=alZ
theorem Td:aG sV:=aA
def pO:Env:=ay 144 sV RG
theorem nG:aR Tryz.prog pO:=ag Te Co
theorem xL:ax pO:=ae Td MR
theorem CH:aW Tryz.prog te pO:=aK follows aq nG xL
def fN:aw:=⟨[.val true .elem,.val true .elem],[],true,0,false⟩
abbrev vy:Type:=((aa)×(aa)×Unit)×(Unit)
def oF:Shape:=⟨41,[(2,.ptr 0 0 0),(3,.ptr 1 0 0),(4,.ptr 2 0 0),(5,.ptr 3 0 0),(6,.val false .u64),(7,.val false .int)],[(0,.row .u64),(1,.row .u64),(2,.row .u64),(3,.row .u64)],0,true⟩
abbrev bV:Type:=((Unit)×(Unit)×(Unit)×(Unit)×(UInt64)×(Int)×Unit)×((List (UInt64))×(List (UInt64))×(List (UInt64))×(List (UInt64))×Unit)
def mY:Shape:=⟨41,[(4,.ptr 0 0 0),(5,.ptr 1 0 0)],[(0,.row .u64),(1,.row .u64)],0,true⟩
abbrev iD:Type:=((Unit)×(Unit)×Unit)×((List (UInt64))×(List (UInt64))×Unit)
def PU:SE->Option Shape:=fw [(0,mY)] none
def alX (a6:UInt64) (a7:Int) (c0:List (UInt64)) (c1:List (UInt64)) (c2:List (UInt64)) (c3:List (UInt64)):OT (Sum bV aE):=
 let z0:Bool:=inB a7 4
 let z1:Bool:=decide (Int.toNat a7+0<List.length c0)
 let z2:Bool:=decide (Int.toNat a7+0<List.length c1)
 let z3:UInt64:=List.getD c0 (Int.toNat a7+0) (0:UInt64)
 let z4:UInt64:=List.getD c1 (Int.toNat a7+0) (0:UInt64)
 let z5:Bool:=decide (Int.toNat a7+0<List.length c3)
 let z6:Bool:=inR (a7+(1:Int))
 let z7:UInt64:=z3-z4
 let z8:List UInt64:=List.set c3 (Int.toNat a7+0) (z7-a6)
 (.br (decide (a7<(4:Int)))
 (gd [z0,z1,z0,z2,z0,z1,z0,z2] (.br (decide (z3<z4))
  (gd [z0,z5,z6] (.ok (.inl (((),((),((),((),((1:UInt64),(a7+(1:Int),())))))),(c0,(c1,(c2,(z8,()))))))))
  (.br (decide (z7<a6))
   (gd [z0,z5,z6] (.ok (.inl (((),((),((),((),((1:UInt64),(a7+(1:Int),())))))),(c0,(c1,(c2,(z8,()))))))))
   (gd [z0,z5,z6] (.ok (.inl (((),((),((),((),((0:UInt64),(a7+(1:Int),())))))),(c0,(c1,(c2,(z8,())))))))))))
 (.ok (.inr ⟨(.exit 0,mY),(((),((),())),(c2,(c3,())))⟩)))
def oG (s:bV):OT (Sum bV aE):=alX (s.1.2.2.2.2.1) (s.1.2.2.2.2.2.1) (s.2.1) (s.2.2.1) (s.2.2.2.1) (s.2.2.2.2.1)
theorem alU (s:bV) (Q:Sum bV aE->Prop):wps te pO av 1000 (aU (aj Tryz.f145) 0) (oF.inj s) (bX oF PU (Q:Sum oF.T aE->Prop))=(oG s).wpR Q:=by kernel_rfl
def vx (g0_0:bV->iD) (s:bV):OT aE:=(.ok ⟨(.exit 0,mY),g0_0 s⟩)
def Ef:az:=⟨[.val true .elem],[],false⟩
def JX:SV->Option az:=λ_=>some Ef
def J0 (ok0:bV->Bool) (g0_0:bV->iD) (a0:aa) (a1:aa):OT fN.Y:=
 let z0:(PUnit×PUnit×PUnit×PUnit×UInt64×Int×PUnit)×List UInt64×List UInt64×List UInt64×List UInt64×PUnit:=(((),(),(),(),(0:UInt64),(0:Int),()),[a0.w0,a0.w1,a0.w2,a0.w3],[a1.w0,a1.w1,a1.w2,a1.w3],[(0:UInt64),(0:UInt64),(0:UInt64),(0:UInt64)],[(0:UInt64),(0:UInt64),(0:UInt64),(0:UInt64)],())
 let z1:=(g0_0 z0).snd
 let z2:=z1.snd.fst
 let z3:=z1.fst
 let z4:List UInt64:=lay z3 z2 4 (0:UInt64)
 (gd [ok0 z0,decide (4<=List.length z2),decide ((4/1:Nat)+0<=List.length z3),decide (4<=List.length z4)] (.ok ⟨Ef,(({w0:=List.getD z4 0 0,w1:=List.getD z4 1 0,w2:=List.getD z4 2 0,w3:=List.getD z4 3 0},()),())⟩))
theorem asu (ok0:bV->Bool) (g0_0:bV->iD) (x:vy) (Q:fN.Y->Prop):wpf te pO (aO 0 (cg oF 0 ok0 (vx g0_0)) av) 1000 Tryz.f145 (fN.inp.inj x).tm (fN.inp.inj x).hp (fnK fN JX Q) (λ_ _=>False)=(J0 ok0 g0_0 (x.1.1) (x.1.2.1)).wpR Q:=by kernel_rfl
theorem Xq (ok0:bV->Bool) (g0_0:bV->iD) (h0:∀ s:bV,ok0 s=true->∃ m e,ao (oG) m s=some e/\(vx g0_0 s).run=some e) (pre:vy->Bool) (F:vy->OT fN.Y) (hF:∀ (x:vy) oy,pre x=true->(F x).run=some oy->(J0 ok0 g0_0 (x.1.1) (x.1.2.1)).run=some oy):ac Tryz.prog 145 (fN.aI pre F):=
 aD aq nG CH (f:=145) (fn:=Tryz.f145) (c:=aj Tryz.f145) (by kernel_rfl) (by kernel_rfl) (by kernel_rfl) (S:=fN) (k:=0) (by kernel_rfl) (λR hR=>(aB (c:=(aj Tryz.f145)) (by kernel_rfl) (id:=0) (by kernel_rfl) (aQ aq nG CH (sh:=oF) hR (xs:=PU) (aC (by kernel_rfl) (by kernel_rfl) hR) aL af (n:=1000) (T:=oG) (λs Q=>alU s Q) (ok:=ok0) (f:=vx g0_0) h0) af)) (n:=1000) (sel:=JX) (λv o h=>by cases h;rfl) (pre:=pre) (F:=F) (T:=λx=>J0 ok0 g0_0 (x.1.1) (x.1.2.1)) (λx Q=>asu ok0 g0_0 x Q) hF
def JZ (s:bV):Bool:=decide (s.1.2.2.2.2.1=0/\s.1.2.2.2.2.2.1=0/\s.2.1.length=4/\s.2.2.1.length=4/\s.2.2.2.2.1= [0,0,0,0])
def PV (s:bV):iD:=(((),(),()),(s.2.2.2.1,(upto (xj s.2.1 s.2.2.1) ([0,0,0,0],0) 4).1,()))
theorem alW:∀ s:bV,JZ s=true->∃ m e,ao oG m s=some e/\(vx PV s).run=some e:=by
 rintro ⟨⟨⟨⟩,⟨⟩,⟨⟩,⟨⟩,c,i,⟨⟩⟩,⟨c0,c1,c2,c3,⟨⟩⟩⟩ h
 have h':=of_decide_eq_true h
 dsimp only at h'
 obtain ⟨rfl,rfl,h0,h1,rfl⟩:=h'
 have:=(aP (T:=oG) (λk s=>((((),(),(),(),s.2,(k:Int),()),(c0,c1,c2,s.1,())):bV)) (xj c0 c1)
  (λs=>(⟨(.exit 0,mY),(((),(),()),(c2,s.1,()))⟩:aE)) 4 ([0,0,0,0],0) (λ_ s=>s.1.length=4/\s.2.toNat<=1) ⟨rfl,by decide⟩ (λk s hk hs=>⟨?_,?_⟩) (λs hs=> ?_)).1
 ·obtain ⟨m,hm⟩:=this
  exact ⟨m,_,hm,rfl⟩
 ·obtain ⟨o,c⟩:=s
  dsimp only at hs
  refine (OT.ap (decide_eq_true (by dsimp only;omega))).trans ((ah ?_).trans ?_)
  ·simp only [Int.toNat_natCast,Nat.add_zero,h0,h1,hs.1,List.all_cons,List.all_nil,Bool.and_true,Bool.and_eq_true]
   exact ⟨aN (by omega),decide_eq_true (by omega),aN (by omega),decide_eq_true (by omega),aN (by omega),decide_eq_true (by omega),aN (by omega),decide_eq_true (by omega)⟩
  ·have hi:∀ z,(gd [inB (k:Int) 4,decide (Int.toNat (k:Int)+0<o.length),inR ((k:Int)+1)] z:OT (Sum bV aE)).run=z.run:=λz=>ah (by
    simp only [List.all_cons,List.all_nil,Bool.and_true,Bool.and_eq_true,Int.toNat_natCast,Nat.add_zero]
    exact ⟨aN (by omega),decide_eq_true (by omega),aH (by omega)⟩)
   have hw:=Qu (x:=c0.getD k 0) (y:=c1.getD k 0) hs.2
   by_cases hx:c0.getD k 0<c1.getD k 0
   ·have hk1:=ai3 (c:=c) hx
    refine (OT.ap (decide_eq_true ?_)).trans ((hi _).trans ?_)
    ·simp only [Int.toNat_natCast,Nat.add_zero];exact hx
    ·simp only [OT.cL,Int.toNat_natCast,Nat.add_zero,xj,hw,hk1]
     rfl
   ·refine (OT.ar (decide_eq_false ?_)).trans ?_
    ·simp only [Int.toNat_natCast,Nat.add_zero];exact hx
    ·by_cases hd:c0.getD k 0-c1.getD k 0<c
     ·have hk2:=ai2 hx hd
      refine (OT.ap (decide_eq_true ?_)).trans ((hi _).trans ?_)
      ·simp only [Int.toNat_natCast,Nat.add_zero];exact hd
      ·simp only [OT.cL,Int.toNat_natCast,Nat.add_zero,xj,hw,hk2]
       rfl
     ·have hk3:=ai1 hx hd
      refine (OT.ar (decide_eq_false ?_)).trans ((hi _).trans ?_)
      ·simp only [Int.toNat_natCast,Nat.add_zero];exact hd
      ·simp only [OT.cL,Int.toNat_natCast,Nat.add_zero,xj,hw,hk3]
       rfl
 ·exact ⟨by simp only [xj,List.length_set];exact hs.1,yb⟩
 ·exact OT.ar (decide_eq_false (by dsimp only;omega))
def JY (_:vy):Bool:=true
def J1 (x:vy):OT fN.Y:=.ok ⟨Ef,(((eg x.1.1 x.1.2.1).1,()),())⟩
theorem alV:ac Tryz.prog 145 (fN.aI JY J1):=Xq JZ PV alW _ _ λx oy hp ho=>by
 rw [<-ho]
 clear ho
 obtain ⟨⟨a,b,⟨⟩⟩,⟨⟩⟩:=x
 obtain ⟨_,hw⟩:=Dy a b
 refine (ah ?_).trans ?_
 ·simp only [List.all_cons,List.all_nil,Bool.and_true,Bool.and_eq_true]
  exact ⟨rfl,rfl,rfl,rfl⟩
 ·simp only [J1,hw]
  rfl
def sS:cj:=(fN.aI JY J1)
theorem Tb:ac Tryz.prog 145 sS:=alV
theorem Ta:aG sS:=aA
def pN:Env:=ay 145 sS pO
theorem nF:aR Tryz.prog pN:=ag Tb nG
theorem xK:ax pN:=ae Ta xL
theorem CF:aW Tryz.prog te pN:=aK follows aq nF xK
def fM:aw:=⟨[.val true .elem],[],true,0,false⟩
abbrev vt:Type:=((aa)×Unit)×(Unit)
def oD:Shape:=⟨27,[(1,.ptr 0 0 0),(2,.ptr 1 0 0),(4,.ptr 2 0 0),(5,.val false .u64),(6,.val false .int)],[(0,.row .u64),(1,.row .u64),(2,.row .u64)],0,true⟩
abbrev bZ:Type:=((Unit)×(Unit)×(Unit)×(UInt64)×(Int)×Unit)×((List (UInt64))×(List (UInt64))×(List (UInt64))×Unit)
def mX:Shape:=⟨27,[(2,.ptr 0 0 0),(4,.ptr 1 0 0),(5,.val false .u64)],[(0,.row .u64),(1,.row .u64)],0,true⟩
abbrev iC:Type:=((Unit)×(Unit)×(UInt64)×Unit)×((List (UInt64))×(List (UInt64))×Unit)
def PR:SE->Option Shape:=fw [(0,mX)] none
def alQ (a5:UInt64) (a6:Int) (c0:List (UInt64)) (c1:List (UInt64)) (c2:List (UInt64)):OT (Sum bZ aE):=
 let z0:Bool:=inB a6 4
 let z1:Bool:=decide (Int.toNat a6+0<List.length c0)
 let z2:UInt64:=List.getD c0 (Int.toNat a6+0) (0:UInt64)
 (.br (decide (a6<(4:Int)))
 (gd [z0,z1,z0,decide (Int.toNat a6+0<List.length c2),z0,z1,inR (a6+(1:Int))] (.ok (.inl (((),((),((),(bf z2 (63:Int),(a6+(1:Int),()))))),(c0,(c1,(List.set c2 (Int.toNat a6+0) (bR z2 (1:Int)|||a5),())))))))
 (.ok (.inr ⟨(.exit 0,mX),(((),((),(a5,()))),(c1,(c2,())))⟩)))
def oE (s:bZ):OT (Sum bZ aE):=alQ (s.1.2.2.2.1) (s.1.2.2.2.2.1) (s.2.1) (s.2.2.1) (s.2.2.2.1)
theorem alN (s:bZ) (Q:Sum bZ aE->Prop):wps te pN av 1000 (aU (aj Tryz.f143) 0) (oD.inj s) (bX oD PR (Q:Sum oD.T aE->Prop))=(oE s).wpR Q:=by kernel_rfl
def vr (g0_0:bZ->iC) (s:bZ):OT aE:=(.ok ⟨(.exit 0,mX),g0_0 s⟩)
def Ec:az:=⟨[.val true .elem,.val false .bool],[],false⟩
def JS:SV->Option az:=λ_=>some Ec
def JV (ok0:bZ->Bool) (g0_0:bZ->iC) (a0:aa):OT fM.Y:=
 let z0:(PUnit×PUnit×PUnit×UInt64×Int×PUnit)×List UInt64×List UInt64×List UInt64×PUnit:=(((),(),(),(0:UInt64),(0:Int),()),[a0.w0,a0.w1,a0.w2,a0.w3],[(0:UInt64),(0:UInt64),(0:UInt64),(0:UInt64)],[(0:UInt64),(0:UInt64),(0:UInt64),(0:UInt64)],())
 let z1:(PUnit×PUnit×UInt64×PUnit)×List UInt64×List UInt64×PUnit:=g0_0 z0
 let z2:=z1.snd
 let z3:=z2.snd.fst
 let z4:=z2.fst
 let z5:List UInt64:=lay z4 z3 4 (0:UInt64)
 (gd [ok0 z0,decide (4<=List.length z3),decide ((4/1:Nat)+0<=List.length z4),decide (4<=List.length z5)] (.ok ⟨Ec,(({w0:=List.getD z5 0 0,w1:=List.getD z5 1 0,w2:=List.getD z5 2 0,w3:=List.getD z5 3 0},(z1.fst.snd.snd.fst==(1:UInt64),())),())⟩))
theorem ass (ok0:bZ->Bool) (g0_0:bZ->iC) (x:vt) (Q:fM.Y->Prop):wpf te pN (aO 0 (cg oD 0 ok0 (vr g0_0)) av) 1000 Tryz.f143 (fM.inp.inj x).tm (fM.inp.inj x).hp (fnK fM JS Q) (λ_ _=>False)=(JV ok0 g0_0 (x.1.1)).wpR Q:=by kernel_rfl
theorem Xm (ok0:bZ->Bool) (g0_0:bZ->iC) (h0:∀ s:bZ,ok0 s=true->∃ m e,ao (oE) m s=some e/\(vr g0_0 s).run=some e) (pre:vt->Bool) (F:vt->OT fM.Y) (hF:∀ (x:vt) oy,pre x=true->(F x).run=some oy->(JV ok0 g0_0 (x.1.1)).run=some oy):ac Tryz.prog 143 (fM.aI pre F):=
 aD aq nF CF (f:=143) (fn:=Tryz.f143) (c:=aj Tryz.f143) (by kernel_rfl) (by kernel_rfl) (by kernel_rfl) (S:=fM) (k:=0) (by kernel_rfl) (λR hR=>(aB (c:=(aj Tryz.f143)) (by kernel_rfl) (id:=0) (by kernel_rfl) (aQ aq nF CF (sh:=oD) hR (xs:=PR) (aC (by kernel_rfl) (by kernel_rfl) hR) aL af (n:=1000) (T:=oE) (λs Q=>alN s Q) (ok:=ok0) (f:=vr g0_0) h0) af)) (n:=1000) (sel:=JS) (λv o h=>by cases h;rfl) (pre:=pre) (F:=F) (T:=λx=>JV ok0 g0_0 (x.1.1)) (λx Q=>ass ok0 g0_0 x Q) hF
def aI3 (a:List UInt64) (k:Nat) (s:List UInt64×UInt64):List UInt64×UInt64:=(s.1.set k (bR (a.getD k 0) 1|||s.2),bf (a.getD k 0) 63)
def JU (s:bZ):Bool:=decide (s.1.2.2.2.1=0/\s.1.2.2.2.2.1=0/\s.2.1.length=4/\s.2.2.2.1= [0,0,0,0])
def PS (s:bZ):iC:=(((),(),(upto (aI3 s.2.1) ([0,0,0,0],0) 4).2,()),(s.2.2.1,(upto (aI3 s.2.1) ([0,0,0,0],0) 4).1,()))
theorem alP:∀ s:bZ,JU s=true->∃ m e,ao oE m s=some e/\(vr PS s).run=some e:=by
 rintro ⟨⟨⟨⟩,⟨⟩,⟨⟩,c,i,⟨⟩⟩,⟨a,r,o,⟨⟩⟩⟩ h
 have h':=of_decide_eq_true h
 dsimp only at h'
 obtain ⟨rfl,rfl,ha,rfl⟩:=h'
 have:=(aP (T:=oE) (λk s=>((((),(),(),s.2,(k:Int),()),(a,r,s.1,())):bZ)) (aI3 a)
  (λs=>(⟨(.exit 0,mX),(((),(),s.2,()),(r,s.1,()))⟩:aE)) 4 ([0,0,0,0],0) (λ_ s=>s.1.length=4) rfl (λk s hk hs=>⟨?_,(List.length_set ..).trans hs⟩) (λs hs=> ?_)).1
 ·obtain ⟨m,hm⟩:=this
  exact ⟨m,_,hm,rfl⟩
 ·refine (OT.ap (decide_eq_true (by dsimp only;omega))).trans ((ah ?_).trans ?_)
  ·simp only [Int.toNat_natCast,Nat.add_zero,ha,hs,List.all_cons,List.all_nil,Bool.and_true,Bool.and_eq_true]
   exact ⟨aN (by omega),decide_eq_true (by omega),aN (by omega),decide_eq_true (by omega),aN (by omega),decide_eq_true (by omega),aH (by omega)⟩
  ·simp only [OT.cL,Int.toNat_natCast,Nat.add_zero]
   rfl
 ·exact OT.ar (decide_eq_false (by dsimp only;omega))
theorem as2 (x:UInt64):x|||0=x:=by
 rw [<-UInt64.toNat_inj,UInt64.toNat_or]
 exact Nat.or_zero _
def JT (_:vt):Bool:=true
def Xn (x:vt):OT fM.Y:=.ok ⟨Ec,(((aY x.1.1 0).1,((aY x.1.1 0).2==1,())),())⟩
theorem alO:ac Tryz.prog 143 (fM.aI JT Xn):=Xm JU PS alP _ _ λx oy hp ho=>by
 rw [<-ho]
 clear ho
 obtain ⟨⟨a,⟨⟩⟩,⟨⟩⟩:=x
 refine (ah ?_).trans rfl
 simp only [List.all_cons,List.all_nil,Bool.and_true,Bool.and_eq_true]
 exact ⟨rfl,rfl,rfl,rfl⟩
def sR:cj:=(fM.aI JT Xn)
theorem S7:ac Tryz.prog 143 sR:=alO
theorem S6:aG sR:=aA
def pM:Env:=ay 143 sR pN
theorem nE:aR Tryz.prog pM:=ag S7 nF
theorem xJ:ax pM:=ae S6 xK
theorem CE:aW Tryz.prog te pM:=aK follows aq nE xJ
def iE:aw:=⟨[.val true .elem],[],true,0,false⟩
abbrev Eg:Type:=((aa)×Unit)×(Unit)
def sT:Shape:=⟨28,[(1,.ptr 0 0 0),(3,.own 1),(4,.val false .int),(5,.val false .u64),(6,.val false .int)],[(0,.row .u64),(1,.row .int)],0,true⟩
abbrev cz:Type:=((Unit)×(Unit)×(Int)×(UInt64)×(Int)×Unit)×((List (UInt64))×(List (Int))×Unit)
def qF:Shape:=⟨28,[(1,.ptr 0 0 0),(3,.own 1),(4,.val false .int)],[(0,.row .u64),(1,.row .int)],0,true⟩
abbrev j3:Type:=((Unit)×(Unit)×(Int)×Unit)×((List (UInt64))×(List (Int))×Unit)
def Xr:SE->Option Shape:=fw [(2,qF)] none
def asy (a4:Int) (a5:UInt64) (a6:Int) (c0:List (UInt64)) (c1:List (Int)):OT (Sum cz aE):=
 (.br (decide (a6<(64:Int)))
 (gd [decide ((List.length c1+1)*8<=140737488355328),inR (a6+(1:Int))] (.ok (.inl (((),((),(a4,(a5/(2:UInt64),(a6+(1:Int),()))))),(c0,(c1++ [u2i (a5%(2:UInt64))],()))))))
 (.ok (.inr ⟨(.exit 2,qF),(((),((),(a4,()))),(c0,(c1,())))⟩)))
def sU (s:cz):OT (Sum cz aE):=asy (s.1.2.2.1) (s.1.2.2.2.1) (s.1.2.2.2.2.1) (s.2.1) (s.2.2.1)
theorem asv (s:cz) (Q:Sum cz aE->Prop):wps te pM av 1000 (aU (aj Tryz.f142) 2) (sT.inj s) (bX sT Xr (Q:Sum sT.T aE->Prop))=(sU s).wpR Q:=by kernel_rfl
def A2 (g2_2:cz->j3) (s:cz):OT aE:=(.ok ⟨(.exit 2,qF),(((g2_2 s).1.1,((g2_2 s).1.2.1,(s.1.2.2.1,()))),(g2_2 s).2)⟩)
def J2:az:=⟨[.own 0],[(0,.row .int)],false⟩
def PW:SV->Option az:=λ_=>some J2
def Tc (ok2:cz->Bool) (g2_2:cz->j3) (a0:aa):OT iE.Y:=
 let z0:Int×PUnit:=((0:Int),())
 let z1:(PUnit×PUnit×Int×UInt64×Int×PUnit)×List UInt64×List Int×PUnit:=(((),(),(0:Int),a0.w0,z0),[a0.w0,a0.w1,a0.w2,a0.w3],[],())
 let z2:=(g2_2 z1).snd
 let z3:=z2.fst
 let z4:(PUnit×PUnit×Int×UInt64×Int×PUnit)×List UInt64×List Int×PUnit:=(((),(),(0:Int)+(1:Int),List.getD z3 (Int.toNat ((0:Int)+(1:Int))+0) (0:UInt64),z0),z3,z2.snd.fst,())
 let z5:=(g2_2 z4).snd
 let z6:=z5.fst
 let z7:(PUnit×PUnit×Int×UInt64×Int×PUnit)×List UInt64×List Int×PUnit:=(((),(),(0:Int)+(1:Int)+(1:Int),List.getD z6 (Int.toNat ((0:Int)+(1:Int)+(1:Int))+0) (0:UInt64),z0),z6,z5.snd.fst,())
 let z8:=(g2_2 z7).snd
 let z9:=z8.fst
 let z10:(PUnit×PUnit×Int×UInt64×Int×PUnit)×List UInt64×List Int×PUnit:=(((),(),(0:Int)+(1:Int)+(1:Int)+(1:Int),List.getD z9 (Int.toNat ((0:Int)+(1:Int)+(1:Int)+(1:Int))+0) (0:UInt64),z0),z9,z8.snd.fst,())
 (gd [ok2 z1,decide (Int.toNat ((0:Int)+(1:Int))+0<List.length z3),ok2 z4,decide (Int.toNat ((0:Int)+(1:Int)+(1:Int))+0<List.length z6),ok2 z7,decide (Int.toNat ((0:Int)+(1:Int)+(1:Int)+(1:Int))+0<List.length z9),ok2 z10] (.ok ⟨J2,(((),()),((g2_2 z10).snd.snd.fst,()))⟩))
theorem azo (ok2:cz->Bool) (g2_2:cz->j3) (x:Eg) (Q:iE.Y->Prop):wpf te pM (aO 2 (cg sT 2 ok2 (A2 g2_2)) av) 1000 Tryz.f142 (iE.inp.inj x).tm (iE.inp.inj x).hp (fnK iE PW Q) (λ_ _=>False)=(Tc ok2 g2_2 (x.1.1)).wpR Q:=by kernel_rfl
theorem acN (ok2:cz->Bool) (g2_2:cz->j3) (h2:∀ s:cz,ok2 s=true->∃ m e,ao (sU) m s=some e/\(A2 g2_2 s).run=some e) (pre:Eg->Bool) (F:Eg->OT iE.Y) (hF:∀ (x:Eg) oy,pre x=true->(F x).run=some oy->(Tc ok2 g2_2 (x.1.1)).run=some oy):ac Tryz.prog 142 (iE.aI pre F):=
 aD aq nE CE (f:=142) (fn:=Tryz.f142) (c:=aj Tryz.f142) (by kernel_rfl) (by kernel_rfl) (by kernel_rfl) (S:=iE) (k:=0) (by kernel_rfl) (λR hR=>(aB (c:=(aj Tryz.f142)) (by kernel_rfl) (id:=2) (by kernel_rfl) (aQ aq nE CE (sh:=sT) hR (xs:=Xr) (aC (by kernel_rfl) (by kernel_rfl) hR) aL af (n:=1000) (T:=sU) (λs Q=>asv s Q) (ok:=ok2) (f:=A2 g2_2) h2) af)) (n:=1000) (sel:=PW) (λv o h=>by cases h;rfl) (pre:=pre) (F:=F) (T:=λx=>Tc ok2 g2_2 (x.1.1)) (λx Q=>azo ok2 g2_2 x Q) hF
def aoy (_:Nat) (q:List Int×UInt64):List Int×UInt64:=(q.1++ [u2i (q.2%2)],q.2/2)
def ii (v:UInt64) (n:Nat):List Int:=(List.range n).map λj=>((v.toNat/2^j%2:Nat):Int)
theorem dr (v:UInt64) (n:Nat):(ii v n).length=n:=by rw [ii,List.length_map,List.length_range]
theorem aFm (x:UInt64):u2i (x%2)=((x.toNat%2:Nat):Int):=by
 have e:(x%2).toNat=x.toNat%2:=by rw [UInt64.toNat_mod];rfl
 unfold u2i
 rw [e]
 rcases Nat.mod_two_eq_zero_or_one x.toNat with h|h<;>rw [h]<;>rfl
theorem ZY (o:List Int) (v:UInt64):∀ n,(upto aoy (o,v) n).1=o++ii v n/\(upto aoy (o,v) n).2.toNat=v.toNat/2^n
 |0=>⟨(List.append_nil o).symm,by show v.toNat=_;rw [Nat.pow_zero,Nat.div_one]⟩
 |n+1=>by
  obtain ⟨h1,h2⟩:=ZY o v n
  refine ⟨?_,?_⟩
  ·show (upto aoy (o,v) n).1++ [u2i ((upto aoy (o,v) n).2%2)]=_
   rw [aFm,h1,h2,List.append_assoc]
   unfold ii
   rw [List.range_succ,List.map_append]
   rfl
  ·show ((upto aoy (o,v) n).2/2).toNat=_
   rw [UInt64.toNat_div,h2,Nat.pow_succ,<-Nat.div_div_eq_div_mul]
   rfl
def PY (s:cz):Bool:=decide (s.1.2.2.2.2.1=0/\s.2.2.1.length<=1000)
def Xu (s:cz):j3:=(((),(),s.1.2.2.1,()),(s.2.1,s.2.2.1++ii s.1.2.2.2.1 64,()))
theorem asx:∀ s:cz,PY s=true->∃ m e,ao sU m s=some e/\(A2 Xu s).run=some e:=by
 rintro ⟨⟨⟨⟩,⟨⟩,i,v,j,⟨⟩⟩,⟨a,o,⟨⟩⟩⟩ h
 have h':=of_decide_eq_true h
 dsimp only at h'
 obtain ⟨rfl,ho⟩:=h'
 have:=(aP (T:=sU) (λk q=>((((),(),i,q.2,(k:Int),()),(a,q.1,())):cz)) aoy
  (λq=>(⟨(.exit 2,qF),(((),(),i,()),(a,q.1,()))⟩:aE)) 64 (o,v) (λk q=>q.1.length=o.length+k) rfl (λk q hk hq=>⟨?_,?_⟩) (λq _=> ?_)).1
 ·obtain ⟨m,hm⟩:=this
  rw [(ZY o v 64).1] at hm
  exact ⟨m,_,hm,rfl⟩
 ·have hq:q.1.length=o.length+k:=hq
  refine (OT.ap (decide_eq_true (by dsimp only;omega))).trans ((ah ?_).trans rfl)
  simp only [List.all_cons,List.all_nil,Bool.and_true,Bool.and_eq_true]
  exact ⟨decide_eq_true (by omega),aH (by omega)⟩
 ·show (q.1++ [u2i (q.2%2)]).length=_
  rw [List.length_append,show q.1.length=o.length+k from hq]
  rfl
 ·exact OT.ar (decide_eq_false (by dsimp only;omega))
def py (a:aa):List Int:= []++ii a.w0 64++ii a.w1 64++ii a.w2 64++ii a.w3 64
def PX (_:Eg):Bool:=true
def aiz (x:Eg):OT iE.Y:=.ok ⟨J2,(((),()),(py x.1.1,()))⟩
theorem asw:ac Tryz.prog 142 (iE.aI PX aiz):=acN PY Xu asx _ _ λx oy hp ho=>by
 rw [<-ho]
 clear ho
 obtain ⟨⟨a,⟨⟩⟩,⟨⟩⟩:=x
 have l1:([]++ii a.w0 64).length=64:=by rw [List.nil_append,dr]
 have l2:([]++ii a.w0 64++ii a.w1 64).length=128:=by rw [List.length_append,l1,dr]
 have l3:([]++ii a.w0 64++ii a.w1 64++ii a.w2 64).length=192:=by rw [List.length_append,l2,dr]
 refine (ah ?_).trans rfl
 simp only [List.all_cons,List.all_nil,Bool.and_true,Bool.and_eq_true]
 exact ⟨rfl,rfl,decide_eq_true ⟨rfl,by show ([]++ii a.w0 64).length<=_;omega⟩,rfl,decide_eq_true ⟨rfl,by show ([]++ii a.w0 64++ii a.w1 64).length<=_;omega⟩,rfl,decide_eq_true ⟨rfl,by show ([]++ii a.w0 64++ii a.w1 64++ii a.w2 64).length<=_;omega⟩⟩
theorem tw {α:Type} (d:α) (x y:List α) (i:Nat):(i<x.length->(x++y).getD i d=x.getD i d)/\(x.length<=i->(x++y).getD i d=y.getD (i-x.length) d):=by
 refine ⟨λh=> ?_,λh=> ?_⟩
 ·rw [List.getD_eq_getElem?_getD,List.getD_eq_getElem?_getD,List.getElem?_append_left h]
 ·rw [List.getD_eq_getElem?_getD,List.getD_eq_getElem?_getD,List.getElem?_append_right h]
theorem zW (v:UInt64) {j:Nat} (h:j<64):(ii v 64).getD j 0=((v.toNat/2^j%2:Nat):Int):=by
 unfold ii
 rw [List.getD_eq_getElem?_getD,List.getElem?_map,List.getElem?_range h]
 rfl
theorem uv (a:aa):(py a).length=256:=by
 unfold py
 rw [List.length_append,List.length_append,List.length_append,List.length_append,dr,dr,dr,dr]
 rfl
theorem avQ (a:aa) {i:Nat} (h:i<256):(py a).getD i 0=((a.nat/2^i%2:Nat):Int):=by
 have l1:([]++ii a.w0 64).length=64:=by rw [List.nil_append,dr]
 have l2:([]++ii a.w0 64++ii a.w1 64).length=128:=by rw [List.length_append,l1,dr]
 have l3:([]++ii a.w0 64++ii a.w1 64++ii a.w2 64).length=192:=by rw [List.length_append,l2,dr]
 unfold py
 by_cases h3:192<=i
 ·rw [(tw ..).2 (by omega),l3,zW _ (by omega)]
  have:=rm (a:=a) (q:=3) (r:=i-192) (by omega) (by omega)
  rw [show 64*3+(i-192)=i by omega] at this
  rw [<-this]
  rfl
 ·rw [(tw ..).1 (by omega)]
  by_cases h2:128<=i
  ·rw [(tw ..).2 (by omega),l2,zW _ (by omega)]
   have:=rm (a:=a) (q:=2) (r:=i-128) (by omega) (by omega)
   rw [show 64*2+(i-128)=i by omega] at this
   rw [<-this]
   rfl
  ·rw [(tw ..).1 (by omega)]
   by_cases h1:64<=i
   ·rw [(tw ..).2 (by omega),l1,zW _ (by omega)]
    have:=rm (a:=a) (q:=1) (r:=i-64) (by omega) (by omega)
    rw [show 64*1+(i-64)=i by omega] at this
    rw [<-this]
    rfl
   ·rw [(tw ..).1 (by omega),List.nil_append,zW _ (by omega)]
    have:=rm (a:=a) (q:=0) (r:=i) (by omega) (by omega)
    rw [show 64*0+i=i by omega] at this
    rw [<-this]
    rfl
def yw:cj:=(iE.aI PX aiz)
theorem Xt:ac Tryz.prog 142 yw:=asw
theorem Xs:aG yw:=aA
def wY:Env:=ay 142 yw pM
theorem rD:aR Tryz.prog wY:=ag Xt nE
theorem CG:ax wY:=ae Xs xJ
theorem G7:aW Tryz.prog te wY:=aK follows aq rD CG
def kj:aw:=⟨[.val true .elem,.val true .elem,.val true .elem],[],true,0,false⟩
abbrev PT:Type:=((aa)×(aa)×(aa)×Unit)×(Unit)
def A1:Shape:=⟨56,[(5,.ptr 0 0 0),(6,.ptr 1 0 0),(9,.own 2),(10,.ptr 3 0 0),(11,.val false .int)],[(0,.row .u64),(1,.row .u64),(2,.row .int),(3,.row .u64)],0,true⟩
abbrev cE:Type:=((Unit)×(Unit)×(Unit)×(Unit)×(Int)×Unit)×((List (UInt64))×(List (UInt64))×(List (Int))×(List (UInt64))×Unit)
def vv:Shape:=⟨56,[(6,.ptr 0 0 0),(10,.ptr 1 0 0)],[(0,.row .u64),(1,.row .u64)],0,true⟩
abbrev jy:Type:=((Unit)×(Unit)×Unit)×((List (UInt64))×(List (UInt64))×Unit)
def aiy:SE->Option Shape:=fw [(0,vv)] none
def S9 (a11:Int) (c0:List (UInt64)) (c1:List (UInt64)) (c2:List (Int)) (c3:List (UInt64)):OT (Sum cE aE):=
 let z0:Nat:=List.length c3
 let z1:Nat:=List.length c2
 let z2:Nat:=Int.toNat a11
 let z3:aa×UInt64:=aY {w0:=List.getD c3 0 0,w1:=List.getD c3 1 0,w2:=List.getD c3 2 0,w3:=List.getD c3 3 0} (0:UInt64)
 let z4:Bool:=decide (4<=List.length c0)
 let z5:Bool:=decide ((4/1:Nat)+0<=z0)
 let z6:Bool:=inR (a11-(1:Int))
 let z7:=z3.fst
 let z8:=z7.w0
 let z9:=z7.w1
 let z10:=z7.w2
 let z11:=z7.w3
 let z12:aa:= {w0:=z8|||(1:UInt64),w1:=z9,w2:=z10,w3:=z11}
 let z13:aa:= {w0:=List.getD c0 0 0,w1:=List.getD c0 1 0,w2:=List.getD c0 2 0,w3:=List.getD c0 3 0}
 let z14:=(eg z12 z13).fst
 let z15:List UInt64:=List.set (List.set (List.set (List.set c3 0 z14.w0) 1 z14.w1) 2 z14.w2) 3 z14.w3
 let z16:Nat:=aa.nat z13
 let z17:Bool:=decide ((4/1:Nat)+0<=z0)
 let z18:=(eg z7 z13).fst
 let z19:List UInt64:=List.set (List.set (List.set (List.set c3 0 z18.w0) 1 z18.w1) 2 z18.w2) 3 z18.w3
 (.br (decide ((0:Int)<=a11))
 (gd [decide (4<=z0),inB a11 z1,decide (z2<z1)] (.br (List.getD c2 z2 (0:Int)==(1:Int))
  (.br (z3.snd==(1:UInt64))
   (gd [z4,z5,z6] (.ok (.inl (((),((),((),((),(a11-(1:Int),()))))),(c0,(c1,(c2,(z15,()))))))))
   (gd [z4] (.br (!Nat.blt (aa.nat z12) z16)
    (gd [z4,z5,z6] (.ok (.inl (((),((),((),((),(a11-(1:Int),()))))),(c0,(c1,(c2,(z15,()))))))))
    (gd [decide ((4/1:Nat)+0<=z0),z6] (.ok (.inl (((),((),((),((),(a11-(1:Int),()))))),(c0,(c1,(c2,(List.set (List.set (List.set (List.set c3 0 (z8|||(1:UInt64))) 1 z9) 2 z10) 3 z11,())))))))))))
  (.br (z3.snd==(1:UInt64))
   (gd [z4,z17,z6] (.ok (.inl (((),((),((),((),(a11-(1:Int),()))))),(c0,(c1,(c2,(z19,()))))))))
   (gd [z4] (.br (!Nat.blt (aa.nat z7) z16)
    (gd [z4,z17,z6] (.ok (.inl (((),((),((),((),(a11-(1:Int),()))))),(c0,(c1,(c2,(z19,()))))))))
    (gd [decide ((4/1:Nat)+0<=z0),z6] (.ok (.inl (((),((),((),((),(a11-(1:Int),()))))),(c0,(c1,(c2,(List.set (List.set (List.set (List.set c3 0 z8) 1 z9) 2 z10) 3 z11,())))))))))))))
 (.ok (.inr ⟨(.exit 0,vv),(((),((),())),(c1,(c3,())))⟩)))
def vw (s:cE):OT (Sum cE aE):=S9 (s.1.2.2.2.2.1) (s.2.1) (s.2.2.1) (s.2.2.2.1) (s.2.2.2.2.1)
theorem azl (s:cE) (Q:Sum cE aE->Prop):wps te wY av 1000 (aU (aj Tryz.f107) 0) (A1.inj s) (bX A1 aiy (Q:Sum A1.T aE->Prop))=(vw s).wpR Q:=by kernel_rfl
def HZ (g0_0:cE->jy) (s:cE):OT aE:=(.ok ⟨(.exit 0,vv),g0_0 s⟩)
def vu:az:=⟨[.val true .elem,.val false .int],[],false⟩
def Xo:SV->Option az:=λ_=>some vu
def Ee (ok0:cE->Bool) (g0_0:cE->jy) (a0:aa) (a1:aa) (a2:aa):OT kj.Y:=
 let z0:(PUnit×PUnit×PUnit×PUnit×Int×PUnit)×List UInt64×List UInt64×List Int×List UInt64×PUnit:=(((),(),(),(),(511:Int),()),[a2.w0,a2.w1,a2.w2,a2.w3],[(0:UInt64),(0:UInt64),(0:UInt64),(0:UInt64)],py a0++py a1,[(0:UInt64),(0:UInt64),(0:UInt64),(0:UInt64)],())
 let z1:=(g0_0 z0).snd
 let z2:=z1.snd.fst
 let z3:=z1.fst
 let z4:List UInt64:=lay z3 z2 4 (0:UInt64)
 (.br (a2.w0==(0:UInt64)&&(a2.w1==(0:UInt64)&&(a2.w2==(0:UInt64)&&(a2.w3==(0:UInt64)&&true))))
 (.ok ⟨vu,(({w0:=0,w1:=0,w2:=0,w3:=0},((10:Int),())),())⟩)
 (gd [ok0 z0,decide (4<=List.length z2),decide ((4/1:Nat)+0<=List.length z3),decide (4<=List.length z4)] (.ok ⟨vu,(({w0:=List.getD z4 0 0,w1:=List.getD z4 1 0,w2:=List.getD z4 2 0,w3:=List.getD z4 3 0},((0:Int),())),())⟩)))
theorem aEK (ok0:cE->Bool) (g0_0:cE->jy) (x:PT) (Q:kj.Y->Prop):wpf te wY (aO 0 (cg A1 0 ok0 (HZ g0_0)) av) 1000 Tryz.f107 (kj.inp.inj x).tm (kj.inp.inj x).hp (fnK kj Xo Q) (λ_ _=>False)=(Ee ok0 g0_0 (x.1.1) (x.1.2.1) (x.1.2.2.1)).wpR Q:=by kernel_rfl
theorem alS (ok0:cE->Bool) (g0_0:cE->jy) (h0:∀ s:cE,ok0 s=true->∃ m e,ao (vw) m s=some e/\(HZ g0_0 s).run=some e) (pre:PT->Bool) (F:PT->OT kj.Y) (hF:∀ (x:PT) oy,pre x=true->(F x).run=some oy->(Ee ok0 g0_0 (x.1.1) (x.1.2.1) (x.1.2.2.1)).run=some oy):ac Tryz.prog 107 (kj.aI pre F):=
 aD aq rD G7 (f:=107) (fn:=Tryz.f107) (c:=aj Tryz.f107) (by kernel_rfl) (by kernel_rfl) (by kernel_rfl) (S:=kj) (k:=0) (by kernel_rfl) (λR hR=>(aB (c:=(aj Tryz.f107)) (by kernel_rfl) (id:=0) (by kernel_rfl) (aQ aq rD G7 (sh:=A1) hR (xs:=aiy) (aC (by kernel_rfl) (by kernel_rfl) hR) aL af (n:=1000) (T:=vw) (λs Q=>azl s Q) (ok:=ok0) (f:=HZ g0_0) h0) af)) (n:=1000) (sel:=Xo) (λv o h=>by cases h;rfl) (pre:=pre) (F:=F) (T:=λx=>Ee ok0 g0_0 (x.1.1) (x.1.2.1) (x.1.2.2.1)) (λx Q=>aEK ok0 g0_0 x Q) hF
def aeZ (x:Int):UInt64:=cond (x==1) 1 0
def Az (m:aa) (L:List Int) (k:Nat) (r:aa):aa:=HT m r (aeZ (L.getD (511-k) 0))
theorem R7 (r:aa) (b:UInt64):((aY r b).2==1)= !((aY r b).2==0):=by
 have h:(aY r b).2.toNat<=1:=IZ _
 rcases (show (aY r b).2.toNat=0\/(aY r b).2.toNat=1 by omega) with e|e
 ·have e2:(aY r b).2=0:=UInt64.toNat_inj.1 e
  rw [e2];rfl
 ·have e2:(aY r b).2=1:=UInt64.toNat_inj.1 e
  rw [e2];rfl
theorem Ai (r:aa):(⟨(aY r 0).1.w0|||1,(aY r 0).1.w1,(aY r 0).1.w2,(aY r 0).1.w3⟩:aa)=(aY r 1).1:=by
 unfold aY
 dsimp only
 rw [as2]
def HY (m:aa) (c1:List UInt64) (L:List Int) (i:Int) (r:aa):cE:=(((),(),(),(),i,()),(lst m,c1,L,lst r,()))
theorem alR (m r:aa) (c1:List UInt64) {L:List Int} (hL:L.length=512) {k:Nat} (hk:k<512):(vw (HY m c1 L ((511:Int)-(k:Int)) r)).run=some (.inl (HY m c1 L ((511:Int)-((k+1:Nat):Int)) (Az m L k r))):=by
 have e0:(511:Int)-(k:Int)=((511-k:Nat):Int):=by omega
 have e1:(511:Int)-((k+1:Nat):Int)=((511-k:Nat):Int)-1:=by omega
 have hr:inR (((511-k:Nat):Int)-1)=true:=aH (by omega)
 rw [e1,e0]
 unfold Az
 show (S9 ((511-k:Nat):Int) (lst m) c1 L (lst r)).run=_
 unfold S9
 simp only [Int.toNat_natCast]
 refine (OT.ap (decide_eq_true (by omega))).trans ((ah ?_).trans ?_)
 ·simp only [List.all_cons,List.all_nil,Bool.and_true,Bool.and_eq_true]
  exact ⟨rfl,aN (by omega),decide_eq_true (by omega)⟩
 ·rcases (Bool.eq_false_or_eq_true (L.getD (511-k) 0==1)).symm with hb|hb
  ·have eb:aeZ (L.getD (511-k) 0)=0:=by unfold aeZ;rw [hb];rfl
   rw [eb]
   refine (OT.ar hb).trans ?_
   rcases (Bool.eq_false_or_eq_true ((aY r 0).2==0)).symm with g|g
   ·have e:HT m r 0=(eg (aY r 0).1 m).1:=by unfold HT;rw [g];rfl
    rw [e]
    exact (OT.ap (b:=(aY r 0).2==1) (by rw [R7,g];rfl)).trans ((ah (by rw [hr];rfl)).trans rfl)
   ·refine (OT.ar (b:=(aY r 0).2==1) (by rw [R7,g];rfl)).trans ((ah rfl).trans ?_)
    rcases (Bool.eq_false_or_eq_true (eg (aY r 0).1 m).2).symm with u|u
    ·have e:HT m r 0=(eg (aY r 0).1 m).1:=by unfold HT;rw [g,u];rfl
     rw [e]
     exact (OT.ap (b:= !(eg (aY r 0).1 m).2) (by rw [u];rfl)).trans ((ah (by rw [hr];rfl)).trans rfl)
    ·have e:HT m r 0=(aY r 0).1:=by unfold HT;rw [g,u];rfl
     rw [e]
     exact (OT.ar (b:= !(eg (aY r 0).1 m).2) (by rw [u];rfl)).trans ((ah (by rw [hr];rfl)).trans rfl)
  ·have eb:aeZ (L.getD (511-k) 0)=1:=by unfold aeZ;rw [hb];rfl
   rw [eb]
   refine (OT.ap hb).trans ?_
   rcases (Bool.eq_false_or_eq_true ((aY r 1).2==0)).symm with g|g
   ·have e:HT m r 1=(eg (aY r 1).1 m).1:=by unfold HT;rw [g];rfl
    rw [e,<-Ai]
    exact (OT.ap (b:=(aY r 1).2==1) (by rw [R7,g];rfl)).trans ((ah (by rw [hr];rfl)).trans rfl)
   ·refine (OT.ar (b:=(aY r 1).2==1) (by rw [R7,g];rfl)).trans ((ah rfl).trans ?_)
    have u0:(eg ⟨(aY r 0).1.w0|||1,(aY r 0).1.w1,(aY r 0).1.w2,(aY r 0).1.w3⟩ m).2=(eg (aY r 1).1 m).2:=by rw [Ai]
    rcases (Bool.eq_false_or_eq_true (eg (aY r 1).1 m).2).symm with u|u
    ·have e:HT m r 1=(eg (aY r 1).1 m).1:=by unfold HT;rw [g,u];rfl
     rw [e,<-Ai]
     exact (OT.ap (b:= !(eg ⟨(aY r 0).1.w0|||1,(aY r 0).1.w1,(aY r 0).1.w2,(aY r 0).1.w3⟩ m).2) (by rw [u0,u];rfl)).trans ((ah (by rw [hr];rfl)).trans rfl)
    ·have e:HT m r 1=(aY r 1).1:=by unfold HT;rw [g,u];rfl
     rw [e,<-Ai]
     exact (OT.ar (b:= !(eg ⟨(aY r 0).1.w0|||1,(aY r 0).1.w1,(aY r 0).1.w2,(aY r 0).1.w3⟩ m).2) (by rw [u0,u];rfl)).trans ((ah (by rw [hr];rfl)).trans rfl)
def JW (s:cE):Bool:=decide (s.1.2.2.2.2.1=511/\s.2.1.length=4/\s.2.2.2.1.length=512/\s.2.2.2.2.1.length=4)
def S8 (s:cE):jy:=(((),(),()),(s.2.2.1,lst (upto (Az (elemOf s.2.1) s.2.2.2.1) (elemOf s.2.2.2.2.1) 512),()))
theorem azn:∀ s:cE,JW s=true->∃ m e,ao vw m s=some e/\(HZ S8 s).run=some e:=by
 rintro ⟨⟨⟨⟩,⟨⟩,⟨⟩,⟨⟩,i,⟨⟩⟩,⟨c0,c1,L,c3,⟨⟩⟩⟩ h
 have h':=of_decide_eq_true h
 dsimp only at h'
 obtain ⟨rfl,h0,hL,h3⟩:=h'
 obtain ⟨m,rfl⟩:∃ a,c0=lst a:=⟨elemOf c0,(aS h0).symm⟩
 obtain ⟨r,rfl⟩:∃ a,c3=lst a:=⟨elemOf c3,(aS h3).symm⟩
 have:=(aP (T:=vw) (λk r=>HY m c1 L ((511:Int)-(k:Int)) r) (Az m L)
  (λr=>(⟨(.exit 0,vv),(((),(),()),(c1,lst r,()))⟩:aE)) 512 r (λ_ _=>True) trivial (λk r hk _=>⟨alR m r c1 hL hk,trivial⟩) (λr _=> ?_)).1
 ·obtain ⟨n,hn⟩:=this
  exact ⟨n,_,hn,rfl⟩
 ·exact OT.ar (decide_eq_false (by dsimp only [HY];omega))
theorem IU {α:Type} {f g:Nat->α->α} (x:α):∀ n,(∀ k,k<n->f k=g k)->upto f x n=upto g x n
 |0,_=>rfl
 |n+1,h=>by
  show f n (upto f x n)=g n (upto g x n)
  rw [IU x n λk hk=>h k (by omega),h n (by omega)]
theorem V0 {α:Type} (f:Nat->α->α) (x:α) (a:Nat):∀ n,upto f x (a+n)=upto (λk=>f (a+k)) (upto f x a) n
 |0=>rfl
 |n+1=>by
  show f (a+n) (upto f x (a+n))=f (a+n) (upto (λk=>f (a+k)) (upto f x a) n)
  rw [V0 f x a n]
theorem aCi (a:aa) {i:Nat} (h:i<256):aeZ ((py a).getD i 0)=Ob a i:=by
 have h1:=akx a h
 rw [avQ a h]
 unfold aeZ
 rcases (show a.nat/2^i%2=0\/a.nat/2^i%2=1 by omega) with e|e
 ·rw [e] at h1⊢
  exact (UInt64.toNat_inj.1 h1).symm
 ·rw [e] at h1⊢
  exact (UInt64.toNat_inj.1 h1).symm
theorem aEr (m lo hi:aa):upto (Az m (py lo++py hi)) ⟨0,0,0,0⟩ 512=abN m lo (abN m hi ⟨0,0,0,0⟩ 256) 256:=by
 have l0:=uv lo
 have a1:upto (Az m (py lo++py hi)) ⟨0,0,0,0⟩ 256=abN m hi ⟨0,0,0,0⟩ 256:=by
  unfold abN
  refine IU _ 256 λk hk=> ?_
  funext r
  unfold Az
  rw [(tw ..).2 (by omega),l0,show 511-k-256=255-k by omega,aCi hi (by omega)]
 rw [show 512=256+256 from rfl,V0,a1]
 unfold abN
 refine IU _ 256 λk hk=> ?_
 funext r
 unfold Az
 rw [(tw ..).1 (by omega),show 511-(256+k)=255-k by omega,aCi lo (by omega)]
def Xp (_:PT):Bool:=true
def ast (x:PT):OT kj.Y:=.br (nj x.1.2.2.1) (.ok ⟨vu,((⟨0,0,0,0⟩,((10:Int),())),())⟩) (.ok ⟨vu,((ayU x.1.1 x.1.2.1 x.1.2.2.1,((0:Int),())),())⟩)
theorem alT {ok0:cE->Bool} {g0:cE->jy} {a b m R:aa} (h:nj m=false)
 (h1:ok0 (((),(),(),(),511,()),(lst m,lst ⟨0,0,0,0⟩,py a++py b,lst ⟨0,0,0,0⟩,()))=true)
 (e1:(g0 (((),(),(),(),511,()),(lst m,lst ⟨0,0,0,0⟩,py a++py b,lst ⟨0,0,0,0⟩,()))).2=(lst ⟨0,0,0,0⟩,lst R,())):
 (Ee ok0 g0 a b m).run=some ⟨vu,((R,((0:Int),())),())⟩:=by
 have l:∀ e:aa,lst e= [e.w0,e.w1,e.w2,e.w3]:=λ_=>rfl
 rw [l m,l ⟨0,0,0,0⟩] at h1 e1
 unfold Ee
 simp only [e1,h1]
 exact (OT.ar h).trans ((ah rfl).trans rfl)
theorem azm:ac Tryz.prog 107 (kj.aI Xp ast):=alS JW S8 azn _ _ λx oy hp ho=>by
 rw [<-ho]
 clear ho
 obtain ⟨⟨a,b,m,⟨⟩⟩,⟨⟩⟩:=x
 show (Ee JW S8 a b m).run=(OT.br (nj m) _ _:OT kj.Y).run
 rcases (Bool.eq_false_or_eq_true (nj m)).symm with h|h
 ·have hl:(py a++py b).length=512:=by rw [List.length_append,uv,uv]
  refine Eq.trans (alT (R:=upto (Az m (py a++py b)) ⟨0,0,0,0⟩ 512) h (decide_eq_true ⟨rfl,rfl,hl,rfl⟩) rfl) ?_
  rw [aEr,ah8 (Qo h),h]
  rfl
 ·exact (OT.ap h).trans (OT.ap (b:=nj m) h).symm
def Ed:cj:=(kj.aI Xp ast)
theorem acM:ac Tryz.prog 107 Ed:=azm
theorem acL:aG Ed:=aA
def Na:Env:=ay 107 Ed wY
theorem FQ:aR Tryz.prog Na:=ag acM rD
theorem G6:ax Na:=ae acL CG
theorem afq:aW Tryz.prog te Na:=aK follows aq FQ G6
def ir:aw:=⟨[.val false .int,.val false (.list .u8)],[],true,0,false⟩
abbrev DT:Type:=((Int)×(List (UInt8))×Unit)×(Unit)
def oe:az:=⟨[.val true .elem,.val false .int],[],false⟩
def Pv:SV->Option az:=λ_=>some oe
def AN (a0:Int) (a1:List (UInt8)):OT ir.Y:=
 let z0:Nat:=List.length a1
 let z1:Int:=(↑z0:Int)
 let z2:aa:= {w0:=0,w1:=0,w2:=0,w3:=0}
 let z3:List UInt8:=List.drop 0 (List.take 32 a1)
 let z4:List UInt8:=List.drop 32 a1
 let z5:aa:=(aX (Int.toNat a0)).fst
 (gd [kV ((a0,()),())] (.br (!z1==(64:Int))
 (.ok ⟨oe,((z2,((21:Int),())),())⟩)
 (gd [dz (0:Int) (32:Int) z0,gY ((z3,()),()),dz (32:Int) z1 z0,gY ((z4,()),())] (.br (nj z5)
  (.ok ⟨oe,((z2,((10:Int),())),())⟩)
  (.ok ⟨oe,((ayU (HB z3) (HB z4) z5,((0:Int),())),())⟩)))))
theorem ay3 (x:DT) (Q:ir.Y->Prop):wpf te Na av 1000 Tryz.f64 (ir.inp.inj x).tm (ir.inp.inj x).hp (fnK ir Pv Q) (λ_ _=>False)=(AN (x.1.1) (x.1.2.1)).wpR Q:=by kernel_rfl
theorem abY (pre:DT->Bool) (F:DT->OT ir.Y) (hF:∀ (x:DT) oy,pre x=true->(F x).run=some oy->(AN (x.1.1) (x.1.2.1)).run=some oy):ac Tryz.prog 64 (ir.aI pre F):=
 aD aq FQ afq (f:=64) (fn:=Tryz.f64) (c:=aj Tryz.f64) (by kernel_rfl) (by kernel_rfl) (by kernel_rfl) (S:=ir) (k:=0) (by kernel_rfl) (λR hR=>af) (n:=1000) (sel:=Pv) (λv o h=>by cases h;rfl) (pre:=pre) (F:=F) (T:=λx=>AN (x.1.1) (x.1.2.1)) (λx Q=>ay3 x Q) hF
def vi (x:DT):Bool:=al x.1.1&&HD x.1.2.1
def aif (x:DT):OT ir.Y:=.ok ⟨oe,((VZ x.1.1 x.1.2.1,((0:Int),())),())⟩
theorem abZ {s:Int} {b:List UInt8} {W:aa} (hW:ayU (HB (List.drop 0 (b.take 32))) (HB (b.drop 32)) (aX s.toNat).1=W) (hs:al s=true) (hl:HD b=true):(AN s b).run=some ⟨oe,((W,((0:Int),())),())⟩:=by
 unfold AN
 simp only [hW]
 have hb:b.length=64:=K2.1 hl
 refine (ah ?_).trans ((OT.ar (b:= !HD b) (by rw [hl];rfl)).trans ((ah ?_).trans (OT.ar (aiN hs))))
 ·simp only [List.all_cons,List.all_nil,Bool.and_true]
  exact hs
 ·simp only [List.all_cons,List.all_nil,Bool.and_true,Bool.and_eq_true]
  exact ⟨fv (by omega),decide_eq_true (by show (List.drop 0 (b.take 32)).length=32;rw [List.drop_zero,List.length_take];omega),fv (by omega),decide_eq_true (by show (List.drop 32 b).length=32;rw [List.length_drop];omega)⟩
theorem arU:ac Tryz.prog 64 (ir.aI vi aif):=abY _ _ λx oy hp ho=>by
 rw [<-ho]
 clear ho
 obtain ⟨⟨s,b,⟨⟩⟩,⟨⟩⟩:=x
 obtain ⟨hs,hl⟩:=(Bool.and_eq_true _ _).mp hp
 exact abZ rfl hs hl
def yp:cj:=(ir.aI vi aif)
theorem WN:ac Tryz.prog 64 yp:=arU
theorem WM:aG yp:=aA
def Cx:Env:=ay 64 yp Na
theorem zt:aR Tryz.prog Cx:=ag WN FQ
theorem Cw:ax Cx:=ae WM G6
theorem aat:aW Tryz.prog te Cx:=aK follows aq zt Cw
end Go.Proofs.YtohjofabochgfaaGreat

namespace Go.Proofs.YtohjofabochgfaaGreat
namespace Sx
open Go
def YC (k:Nat) (s:cj):cj:=⟨true,λd args hp=>match args.getD k .bT with
 |.own c e=>match ek hp c e with
  |some (.row t xs)=>(s.f d args (fy hp [(c,⟨e,.frz t xs⟩)])).map (Out.after [(c,⟨e,.frz t xs⟩)])
  |some _=>s.f d args hp
  |none=>.fail
 |_=>s.f d args hp⟩
theorem at0 {P:Program} {f:FuncId} {s:cj} {k:Nat} (h:ac P f s):ac P f (YC k s):=by
 refine ⟨λR w d args vs out hm hr hrun=> ?_⟩
 simp only [YC] at hrun
 split at hrun
 ·rename_i c e hce
  split at hrun
  ·rename_i t xs hc
   obtain ⟨out',h1,rfl⟩:=OT.run_map hrun
   obtain ⟨R1,ha⟩:=QI hm (cO hc)
   rw [<-show R1.hp=fy R.hp [(c,⟨e,.frz t xs⟩)] from ha.hp] at h1
   have hr1:SV.ci R1 args vs:=SV.eP ha.ext _ _ hr
   have hpost:∀ en w',IC R1 out' en w'->IC R (Out.after [(c,⟨e,.frz t xs⟩)] out') en w':=λen w' hp=>by
    cases out' with
    |ret q=>
     obtain ⟨v,R',h2,h3,h4⟩:=hp
     exact ⟨v,R',h2,ha.trans h3,h4⟩
    |pan q u=>
     obtain ⟨v,R',h2,h3,h4⟩:=hp
     exact ⟨v,R',h2,ha.trans h3,h4⟩
   rcases h.calls R1 w d _ vs out' ha.mem hr1 h1 with ⟨fn,f1,f2,f3,hcl⟩|⟨v,w',hv,hp⟩
   ·exact .inl ⟨fn,f1,f2,f3,hcl.mono hpost⟩
   ·exact .inr ⟨v,w',hv,hpost _ _ hp⟩
  ·exact h.calls R w d args vs out hm hr hrun
  ·cases hrun
 ·exact h.calls R w d args vs out hm hr hrun
theorem adT {s:cj} {k:Nat} (h:aG s):aG (YC k s):=λd args hp hp' out hg hrun=>by
 simp only [YC] at hrun⊢
 split at hrun
 ·split at hrun
  ·rename_i t xs hc
   rw [cC hg hc]
   simp only
   obtain ⟨out',h1,rfl⟩:=OT.run_map hrun
   refine ats (h d _ _ _ out' ⟨λn ch hn=> ?_,λn hn hn0=> ?_⟩ h1)
   ·simp only [fy] at hn⊢
    split
    ·rename_i h2;rw [if_pos h2] at hn;exact hn
    ·rename_i h2;rw [if_neg h2] at hn;exact hg.kN _ _ hn
   ·simp only [fy] at hn0⊢
    split
    ·rename_i h2;rw [if_pos h2] at hn0;cases hn0
    ·rename_i h2;rw [if_neg h2] at hn0;exact hg.free _ hn hn0
  ·rename_i b hnr hc
   rw [cC hg hc]
   cases b<;>first|exact h _ _ _ _ _ hg hrun|exact absurd rfl (hnr _ _)
  ·cases hrun
 ·exact h _ _ _ _ _ hg hrun
end Sx
end Go.Proofs.YtohjofabochgfaaGreat

namespace Go.Proofs.YtohjofabochgfaaGreat
open Sx Go
theorem aEZ {v:UInt64} {c:UInt8} (k:Nat) (hk:k<=7) (hv:v.toNat<2^(8*k)):
 (v|||bR c.toUInt64 (8*(k:Int))).toNat=v.toNat+c.toNat*2^(8*k)/\v.toNat+c.toNat*2^(8*k)<2^(8*(k+1)):=by
 have hc:c.toNat<256:=c.toNat_lt
 have h1:c.toNat*2^(8*k)<=255*2^(8*k):=Nat.mul_le_mul_right _ (by omega)
 have h2:2^(8*(k+1))=256*2^(8*k):=by rw [Nat.mul_add,Nat.pow_add];omega
 have h3:2^(8*(k+1))<=2^64:=Nat.pow_le_pow_right (by decide) (by omega)
 refine ⟨?_,by omega⟩
 have e1:bR c.toUInt64 (8*(k:Int))=c.toUInt64<<<UInt64.ofNat (8*k):=by
  unfold bR
  rw [if_pos (by omega)]
  congr 2
 have e2:(c.toUInt64<<<UInt64.ofNat (8*k)).toNat=c.toNat<<<(8*k):=by
  rw [UInt64.toNat_shiftLeft,UInt8.toNat_toUInt64,UInt64.toNat_ofNat']
  have:8*k%2^64%64=8*k:=by omega
  rw [this,Nat.shiftLeft_eq]
  exact Nat.mod_eq_of_lt (by omega)
 rw [e1,UInt64.toNat_or,e2,Nat.or_comm,<-Nat.shiftLeft_add_eq_or_of_lt hv,Nat.shiftLeft_eq]
 omega
theorem VW (b:List UInt8):∀ k,k<=8->(kB b k).toNat=(List.range k).foldl (λs i=>s+(b.getD i 0).toNat*2^(8*i)) 0/\(kB b k).toNat<2^(8*k)
 |0,_=>⟨rfl,by simp [kB]⟩
 |k+1,h=>by
  obtain ⟨h1,h2⟩:=VW b k (by omega)
  have h3:=aEZ (v:=kB b k) (c:=b.getD k 0) k (by omega) h2
  rw [O2]
  refine ⟨?_,by omega⟩
  rw [h3.1,List.range_succ,List.foldl_append,h1]
  rfl
theorem azM {v:UInt64} {c:UInt8} (k:Nat) (hk:k<=7) (hv:v.toNat<2^(8*k)):
 (v*256+c.toUInt64).toNat=v.toNat*256+c.toNat/\v.toNat*256+c.toNat<2^(8*(k+1)):=by
 have hc:c.toNat<256:=c.toNat_lt
 have h2:2^(8*(k+1))=256*2^(8*k):=by rw [Nat.mul_add,Nat.pow_add];omega
 have h3:2^(8*(k+1))<=2^64:=Nat.pow_le_pow_right (by decide) (by omega)
 refine ⟨?_,by omega⟩
 rw [UInt64.toNat_add,UInt64.toNat_mul,UInt8.toNat_toUInt64,show (256:UInt64).toNat=256 from rfl]
 rw [Nat.mod_eq_of_lt (a:=v.toNat*256) (by omega),Nat.mod_eq_of_lt (by omega)]
theorem afS (f:Nat->UInt8):∀ k,k<=8->(upto (λk v=>v*256+UInt8.toUInt64 (f (7-k))) (0:UInt64) k).toNat=(List.range k).foldl (λs j=>s*256+(f (7-j)).toNat) 0/\
 (upto (λk v=>v*256+UInt8.toUInt64 (f (7-k))) (0:UInt64) k).toNat<2^(8*k)
 |0,_=>⟨rfl,by simp [upto]⟩
 |k+1,h=>by
  obtain ⟨h1,h2⟩:=afS f k (by omega)
  have h3:=azM (v:=upto (λk v=>v*256+UInt8.toUInt64 (f (7-k))) (0:UInt64) k) (c:=f (7-k)) k (by omega) h2
  refine ⟨?_,by simp only [upto];omega⟩
  simp only [upto]
  rw [h3.1,List.range_succ,List.foldl_append,h1]
  rfl
theorem ayx (g:Nat->Nat) (c:Nat):(List.range 8).foldl (λs i=>s+g i*c^i) 0=(List.range 8).foldl (λs j=>s*c+g (7-j)) 0:=by
 have r:List.range 8= [0,1,2,3,4,5,6,7]:=by decide
 rw [r]
 simp only [List.foldl_cons,List.foldl_nil,Nat.reduceSub,Nat.sub_self,Nat.sub_zero,Nat.add_mul,Nat.mul_assoc,Nat.zero_mul,Nat.zero_add,Nat.mul_one,Nat.pow_succ,Nat.pow_zero,Nat.one_mul]
 ac_rfl
theorem aD1 (g:Nat->Nat):(List.range 8).foldl (λs i=>s+g i*2^(8*i)) 0=(List.range 8).foldl (λs j=>s*256+g (7-j)) 0:=by
 have h:∀ i,2^(8*i)=(2^8)^i:=λi=>Nat.pow_mul 2 8 i
 have e:(λs i=>s+g i*2^(8*i))=(λs i=>s+g i*(2^8)^i):=by
  funext s i
  rw [h]
 rw [e]
 exact ayx g (2^8)
theorem awx (f:Nat->UInt8) (b:List UInt8) (hb:∀ i,i<8->b.getD i 0=f i):kB b 8=upto (λk v=>v*256+UInt8.toUInt64 (f (7-k))) 0 8:=by
 have hf:kB b 8=kB ((List.range 8).map f) 8:=by
  unfold kB
  have:∀ l:List Nat,(∀ i ∈ l,i<8)->∀ v,l.foldl (λv (i:Nat)=>v|||bR (UInt8.toUInt64 (b.getD i 0)) (8*(i:Int))) v=l.foldl (λv (i:Nat)=>v|||bR (UInt8.toUInt64 (((List.range 8).map f).getD i 0)) (8*(i:Int))) v:=by
   intro l
   induction l with
   |nil=>intro _ v;rfl
   |cons i r ih=>
    intro h v
    have hi:i<8:=h i (by simp)
    have e:((List.range 8).map f).getD i 0=f i:=by simp [List.getD_eq_getElem?_getD,hi]
    simp only [List.foldl_cons,hb i hi,e]
    exact ih (λj hj=>h j (by simp [hj])) _
  exact this _ (λi hi=>by simpa using hi) 0
 have e:∀ i,i<8->((List.range 8).map f).getD i 0=f i:=λi hi=>by simp [List.getD_eq_getElem?_getD,hi]
 rw [hf,<-UInt64.toNat_inj,(VW _ 8 (Nat.le_refl _)).1,(afS f 8 (Nat.le_refl _)).1,<-aD1 (λi=>(f i).toNat)]
 have:∀ l:List Nat,(∀ i ∈ l,i<8)->∀ v,l.foldl (λs (i:Nat)=>s+(((List.range 8).map f).getD i 0).toNat*2^(8*i)) v=l.foldl (λs i=>s+(f i).toNat*2^(8*i)) v:=by
  intro l
  induction l with
  |nil=>intro _ v;rfl
  |cons i r ih=>
   intro h v
   simp only [List.foldl_cons,e i (h i (by simp))]
   exact ih (λj hj=>h j (by simp [hj])) _
 exact this _ (λi hi=>by simpa using hi) 0
end Go.Proofs.YtohjofabochgfaaGreat

namespace Go.Proofs.YtohjofabochgfaaGreat
open Sx Go
theorem Lg {w r:List UInt8} (n:Nat) (hw:w.length<=n) (hr:∀ x ∈ r,x=0) (i:Nat):(w.take n++r).getD i 0=w.getD i 0:=by
 rw [List.take_of_length_le hw]
 simp only [List.getD_eq_getElem?_getD,List.getElem?_append]
 split
 ·rfl
 ·rename_i h
  rw [List.getElem?_eq_none (by omega:w.length<=i)]
  cases hx:r[i-w.length]? with
  |none=>rfl
  |some x=>rw [hr x (List.mem_of_getElem? hx)];rfl
theorem VP {n k:Nat}:∀ x ∈ (List.replicate n (0:UInt8)).drop k,x=0:=λx hx=>List.eq_of_mem_replicate (List.mem_of_mem_drop hx)
theorem adN {w:List UInt8} (h:w.length<=128) (i:Nat):(nh w).getD i 0=w.getD i 0:=Lg 128 h VP i
theorem QF {w:List UInt8} (h:w.length<=16) (i:Nat):(Ow w).getD i 0=w.getD i 0:=Lg 16 h VP i
theorem ac4 {w:List UInt8} (h:w.length=128):nh w=w:=by
 unfold nh
 rw [List.take_of_length_le (by omega),List.drop_eq_nil_of_le (by simp [h]),List.append_nil]
theorem aa6 {b c:List UInt8} (h:∀ i,c.getD i 0=b.getD i 0) (p:Nat):kB ((c.drop p).take 8) 8=im b p:=
 awx (λi=>b.getD (p+i) 0) _ λi hi=>by
  rw [<-h]
  simp only [List.getD_eq_getElem?_getD,List.getElem?_take,if_pos hi,List.getElem?_drop]
theorem abP {b:List UInt8} (hb:b.length<=128):kD b=qc (nh b):=by
 unfold kD qc
 congr 1
 funext k m
 unfold apc
 rw [aa6 (adN hb)]
theorem Jh {h:List UInt64} {b:List UInt8} {t:UInt64} {l:Bool} (hb:b.length<=128):dF h b t l=xm h (nh b) t l:=by
 unfold dF xm
 rw [abP hb]
theorem aEp {p:List UInt8} {n:Int} (hp:p.length<=16):ars p n=amu p n:=by
 unfold ars amu
 have h0:im p 0=kB ((Ow p).take 8) 8:=(aa6 (QF hp) 0).symm
 have h8:im p 8=kB (((Ow p).drop 8).take 8) 8:=(aa6 (QF hp) 8).symm
 rw [h0,h8]
theorem T8 (m:Nat):i2u (m:Int)=UInt64.ofNat m:=by
 unfold i2u
 rw [<-UInt64.toNat_inj,UInt64.toNat_ofNat',UInt64.toNat_ofNat']
 omega
theorem atH (a b:Nat):i2u ((a+b:Nat):Int)=i2u (a:Int)+i2u (b:Int):=by
 rw [T8,T8,T8,UInt64.ofNat_add]
theorem auP (b:List UInt8) (h:List UInt64):∀ k,128*k<=b.length->upto (λ_ s=>anU s) (h,0,b) k=(n4 b h k,i2u ((128*k:Nat):Int),b.drop (128*k))
 |0,_=>rfl
 |k+1,hk=>by
  have ih:=auP b h k (by omega)
  show anU (upto (λ_ s=>anU s) (h,0,b) k)=_
  rw [ih]
  have e1:(b.take (128*k+128)).drop (128*k)=(b.drop (128*k)).take 128:=by rw [List.drop_take];congr 1;omega
  have e2:i2u ((128*k+128:Nat):Int)=i2u ((128*k:Nat):Int)+128:=atH _ 128
  have hl:((b.drop (128*k)).take 128).length=128:=by simp;omega
  have e3:n4 b h (k+1)=xm (n4 b h k) ((b.drop (128*k)).take 128) (i2u ((128*k:Nat):Int)+128) false:=by
   show dF (n4 b h k) ((b.take (128*k+128)).drop (128*k)) (i2u ((128*k+128:Nat):Int)) false=_
   rw [e1,e2,Jh (by omega),ac4 hl]
  unfold anU
  rw [e3,List.drop_drop,show 128*(k+1)=128*k+128 by omega,e2]
theorem aqQ {α:Type} (g:Nat->α) (d:α) (n:Nat):∀ m,m<=n->upto (λk o=>o.set k (g k)) (List.replicate n d) m=(List.range m).map g++List.replicate (n-m) d
 |0,_=>by simp [upto]
 |m+1,h=>by
  have ih:=aqQ g d n m (by omega)
  show (upto (λk o=>o.set k (g k)) (List.replicate n d) m).set m (g m)=_
  rw [ih,List.set_append_right _ _ (by simp),List.length_map,List.length_range,Nat.sub_self,show n-m=(n-(m+1))+1 by omega,List.replicate_succ,List.set_cons_zero,List.range_succ,List.map_append]
  simp
theorem afc {α:Type} (g:Nat->α):∀ m,upto (λk o=>o++ [g k]) [] m=(List.range m).map g
 |0=>rfl
 |m+1=>by
  show upto (λk o=>o++ [g k]) [] m++ [g m]=_
  rw [afc g m,List.range_succ,List.map_append]
  rfl
theorem akh (h:List UInt64) (n:Nat):Ay h n=HL h n:=by
 unfold Ay HL
 rw [afc,aqQ _ _ n n (Nat.le_refl _),Nat.sub_self,List.replicate_zero,List.append_nil]
 congr 1
 funext k
 have e:8*((k%8:Nat):Int)=((8*(k%8):Nat):Int):=by omega
 rw [e,T8,UInt64.toNat_ofNat',Nat.mod_eq_of_lt (by omega)]
theorem ayV {p:List UInt8} {n:Int} {b:List UInt8} (hp:p.length<=16):ayW p n b=mu p n b:=by
 unfold ayW mu r7 L0
 rw [aEp hp,akh]
 have hk:128*((b.length-1)/128)<=b.length:=by omega
 show _=aD3 n (upto (λ_ s=>anU s) (amu p n,0,b) ((b.length-1)/128))
 rw [auP b _ _ hk]
 unfold aD3
 have hl:(b.drop (128*((b.length-1)/128))).length<=128:=by simp only [List.length_drop];omega
 have hc:i2u (b.length:Int)=i2u ((128*((b.length-1)/128):Nat):Int)+i2u ((b.drop (128*((b.length-1)/128))).length:Int):=by
  rw [<-atH,List.length_drop]
  congr 2
  omega
 rw [Jh hl,hc]
theorem OK (p:List UInt8) (n:Int) (b:List UInt8):(mu p n b).length=n.toNat:=by
 unfold mu aD3
 rw [<-akh]
 unfold Ay
 rw [afc,List.length_map,List.length_range]
end Go.Proofs.YtohjofabochgfaaGreat

namespace Go.Proofs.YtohjofabochgfaaGreat
namespace Sx
open Go Go.RowKit Go.ChangeShapes Go.WideShapes Go.ChangeAt
theorem adA {H:Type} {enc:TypeId×Value->H} {P:Program} {te:TE} (hte:mJ P te) {w:World} {sp:Nat->Bool} {T e:TypeId} {ti ei:TI} (hT:te T=some ti) (hd:ti.desc=.slice e) (hei:te e=some ei) {t:Ty} {F:Ctx} {x:List t.T} {v:Value} {d:DataW H} {ps:List MemPlace}
 (hx:Rep F.F (.list t) x [v]) (h:DataW.Trod enc P w 0 sp true T v d ps) (hw:(d.weights P T).all (· <=reachBytes)=true):x.length*ei.bytes<=reachBytes:=by
 simp only [Rep] at hx
 obtain ⟨_,ad,cap,hv,_⟩:=hx
 cases hv
 exact abq hte hT hd hei h λn hn=>by simpa using List.all_eq_true.1 hw n hn
end Sx
end Go.Proofs.YtohjofabochgfaaGreat

namespace Go.Proofs.YtohjofabochgfaaGreat
namespace Sx
open Go
def aq5:List SV->List Nat
 | []=> []
 |.own c _::r=>c::aq5 r
 |.part c _ _ _::r=>c::aq5 r
 |_::r=>aq5 r
def afd:SV->List Nat
 |.agg l=>aq5 l
 |.tup (.agg l::_)=>aq5 l
 |_=> []
def ajq:List Nat->Hp->Hp
 | [],hp=>hp
 |c::r,hp=>ajq r (match hp c with
  |some ⟨e,.row t xs⟩=>fy hp [(c,⟨e,.frz t xs⟩)]
  |_=>hp)
theorem atZ {w:World}:∀ (l:List Nat) {R:Ctx},dw R w->∃ R1,R.Ext R1/\dw R1 w/\R1.hp=ajq l R.hp
 | [],R,hm=>⟨R,Ctx.Ext.refl R,hm,rfl⟩
 |c::r,R,hm=>by
  have step:∃ R1,R.Ext R1/\dw R1 w/\R1.hp=(match R.hp c with
   |some ⟨e,.row t xs⟩=>fy R.hp [(c,⟨e,.frz t xs⟩)]
   |_=>R.hp):=by
   split
   ·rename_i e t xs hc
    obtain ⟨R1,h1⟩:=QI hm hc
    exact ⟨R1,h1.ext,h1.mem,h1.hp⟩
   ·exact ⟨R,Ctx.Ext.refl R,hm,rfl⟩
  obtain ⟨R1,a1,a2,a3⟩:=step
  obtain ⟨R2,b1,b2,b3⟩:=atZ r a2
  refine ⟨R2,a1.trans b1,b2,?_⟩
  rw [b3,a3]
  rfl
section
variable {P:Program} {te:TE} {Φ:Env} (hte:mJ P te) (hΦ:aR P Φ) (hany:aW P te Φ)
include hte hΦ hany
theorem aFG {f:FuncId} {fn:Func} {c:Code} (hf:P.funcs[f]? =some fn) (hb:fn.body=some c) (hname:(fn.name== "runtime.NumGoroutine")=false) {S:aw} {k:Nat} (hk:S.chunks.all (λc=>Nat.blt c.1 k&& !c.2.tp)=true) {Λ:Lam}
 (hΛ:∀ R,Small R k->Ck P R Λ c) {n:Nat} {pre:S.T->Bool} {F:S.T->OT S.Y}
 (h:∀ x oy,pre x=true->(F x).run=some oy->∃ K,wpf te Φ Λ n fn (S.inp.inj x).tm (S.inp.inj x).hp K (λ_ _=>False)/\(∀ v hp,K v hp->oy.1.is oy.2 false v (ajq (afd v) hp))):ac P f (S.aI pre F):=by
 refine ⟨?_⟩
 intro R w d args vs out hm hr hrun
 refine .inl ⟨fn,hf,hname,by rw [hb];rfl,?_⟩
 simp only [aw.aI] at hrun
 split at hrun
 ·cases hrun
 ·rename_i x hx
  obtain ⟨hpre,h2⟩:=OT.aJ hrun
  obtain ⟨oy,h3,h4⟩:=OT.run_bind h2
  unfold aw.emit at h4
  dsimp only at h4
  obtain ⟨hend,h5⟩:=OT.aJ h4
  obtain ⟨K,hwp,hK1⟩:=h x oy hpre h3
  have hx':=hx
  unfold Shape.prj at hx'
  dsimp only at hx'
  cases hbo:S.inp.Mx ⟨args,R.hp⟩ (S.inp.bd ⟨args,R.hp⟩)&&Nat.beq args.length S.inp.n
  ·rw [hbo] at hx';cases hx'
  ·rw [hbo] at hx'
   rw [Bool.and_eq_true] at hbo
   obtain ⟨hx1,hx2⟩:=bI hx'
   have hlen:args.length=S.inp.n:=Nat.eq_of_beq_eq_true hbo.2
   have hN:=H5 (s:=S.inp) (st:=⟨args,R.hp⟩) (F':=R.Bu (S.inp.bd ⟨args,R.hp⟩) S.bM w) (U':=R.Ib (S.inp.bd ⟨args,R.hp⟩) S.bM w) hbo.1 hx2 rfl hm (K9 hm) (EO hm) adI (K8 hm) K7 atE hm.env
   have hargs:SV.ci (R.named (R.Bu (S.inp.bd ⟨args,R.hp⟩) S.bM w) (R.Ib (S.inp.bd ⟨args,R.hp⟩) S.bM w) (S.inp.bd ⟨args,R.hp⟩) (dN S.chunks x.2)) (S.inp.inj x).tm vs:=
    j6 (s:=S.inp) (st:=⟨args,R.hp⟩) hbo.1 hx2 rfl hm (K9 hm) (EO hm) hr hx1 (SV.yj (by rw [List.length_replicate,<-hlen];exact SV.aV hr) λi hi hi'=>by simp [SV.rel])
   have hsm:Small (R.named (R.Bu (S.inp.bd ⟨args,R.hp⟩) S.bM w) (R.Ib (S.inp.bd ⟨args,R.hp⟩) S.bM w) (S.inp.bd ⟨args,R.hp⟩) (dN S.chunks x.2)) k:=λc ch hc=>by
    obtain ⟨s,y',g1,g2,g3⟩:=dR hx2 (hc:dN S.chunks x.2 c=some ch)
    have:=(List.all_eq_true.1 hk) _ g1
    simp only [Bool.and_eq_true,Bool.not_eq_true'] at this
    refine ⟨dy this.1,?_⟩
    rw [g3]
    cases s<;>first|rfl|(cases this.2;done)
   refine (IK hte hΦ hany hf hb (hΛ _ hsm) hN hargs hwp).mono λen w' hp=> ?_
   rcases hp with ⟨y,v,R₁,rfl,hx1,hm1,hv,hy⟩|⟨y,v,R₁,rfl,hx1,hm1,hv,hy⟩
   ·replace hy:=hK1 _ _ hy
    obtain ⟨R₂,b1,b2,b3⟩:=atZ (afd y) hm1
    rw [<-b3] at hy
    obtain ⟨R',a1,a2⟩:=ajA hm hx hk (hx1.trans b1) b2 (SV.abO b1 _ _ hv) hy hend
    rw [hy.1] at h5
    cases h5
    exact ⟨v,R',rfl,a1,a2⟩
   ·exact hy.elim
def aIh (S:aw) (sel:SV->Option az) (Q:S.Y->Prop) (v:SV) (hp:Hp):Prop:=fnK S sel Q v (ajq (afd v) hp)
theorem ajy {f:FuncId} {fn:Func} {c:Code} (hf:P.funcs[f]? =some fn) (hb:fn.body=some c) (hname:(fn.name== "runtime.NumGoroutine")=false) {S:aw} {k:Nat} (hk:S.chunks.all (λc=>Nat.blt c.1 k&& !c.2.tp)=true) {Λ:Lam}
 (hΛ:∀ R,Small R k->Ck P R Λ c) {n:Nat} {sel:SV->Option az} (hsel:∀ v o,sel v=some o->o.pan=false) {pre:S.T->Bool} {F T:S.T->OT S.Y}
 (h:∀ x Q,wpf te Φ Λ n fn (S.inp.inj x).tm (S.inp.inj x).hp (aIh S sel Q) (λ_ _=>False)=(T x).wpR Q)
 (hF:∀ x oy,pre x=true->(F x).run=some oy->(T x).run=some oy):ac P f (S.aI pre F):=by
 refine aFG hte hΦ hany hf hb hname hk hΛ (n:=n) λx oy hp hr=>⟨aIh S sel (λz=>z=oy),?_,λv hp hq=> ?_⟩
 ·rw [h,OT.VV];exact OT.nW (hF x oy hp hr) rfl
 ·unfold aIh fnK at hq
  split at hq
  ·rename_i o ho
   split at hq
   ·rename_i y hy
    subst hq
    exact ⟨hsel v o ho,hy⟩
   ·exact hq.elim
  ·exact hq.elim
omit hte hΦ hany
def wx:cj:=⟨false,λ_ args hp=>match args with
 | [.own c e]=>match ek hp c e with
  |some (.row .u8 xs)=>.br (decide (0<xs.length)) (.ok (.ret ⟨.clip c e,[]⟩)) .fail
  |_=>.fail
 |_=>.fail⟩
theorem avb:aG wx:=λd args hp hp' out hg hrun=>by
 simp only [wx] at hrun⊢
 split at hrun
 ·split at hrun
  ·rename_i xs hx
   simp only [cC hg hx]
   exact hrun
  ·cases hrun
 ·cases hrun
include hte hΦ hany
theorem aGh {f:FuncId} {fn:Func} {c:Code} (hf:P.funcs[f]? =some fn) (hb:fn.body=some c) (hname:(fn.name== "runtime.NumGoroutine")=false) (hΛ:∀ R,Ck P R av c) {n:Nat}
 (h:∀ (hp:Hp) (c e:Nat) (xs:List UInt8) (K:SV->Hp->Prop),ek hp c e=some (.row .u8 xs)->0<xs.length->K (.clip c e) hp->wpf te Φ av n fn [.own c e] hp K (λ_ _=>False)):ac P f wx:=by
 refine ⟨λR w d args vs out hm hr hrun=>.inl ⟨fn,hf,hname,by rw [hb];rfl,?_⟩⟩
 simp only [wx] at hrun
 split at hrun
 ·split at hrun
  ·rename_i c e _ xs hx
   cases hlen:decide (0<xs.length)
   ·rw [hlen] at hrun;cases hrun
   rw [hlen] at hrun
   cases hrun
   refine (IK (n:=n) (K:=λv hp=>v=.clip c e/\hp=R.hp) (Kp:=λ_ _=>False) hte hΦ hany hf hb (hΛ _) hm hr (h _ _ _ xs _ hx (of_decide_eq_true hlen) ⟨rfl,rfl⟩)).mono λen w' hp=> ?_
   rcases hp with ⟨x,v,R₁,rfl,hx1,hm1,hv,rfl,hy⟩|⟨x,v,R₁,rfl,hx1,hm1,hv,hy⟩
   ·exact ⟨v,R₁,rfl,⟨hx1,hy,hm1⟩,hv⟩
   ·exact hy.elim
  ·cases hrun
 ·cases hrun
end
theorem fI {te:TE} {Φ:Env} {ops:List Oper} {K:SE->St->Prop} {o:Oper} {r:List Oper} {tm tm':List SV} {hp:Hp} (v:SV) (hg:guarded ops tm o=some true) (hc:(OH te Φ hp (o.dst.getD 100000) (St.eval ⟨tm,hp⟩) o.op).run=some (.ret ⟨v,[]⟩))
 (ht:Ek ⟨tm,hp⟩ o.dst v=tm') (h:kf te Φ ops K r ⟨tm',hp⟩):kf te Φ ops K (o::r) ⟨tm,hp⟩:=by
 subst ht
 simp only [kf,hg]
 exact OT.nW hc h
theorem aCu {te:TE} {Φ:Env} {Λ:Lam} {n i j:Nat} {a b:Array Oper} {st:St} {K:SE->St->Prop}:wps te Φ Λ (n+3) (.seq (.region i a false) (.seq (.region j b false) .ret)) st K=
 y0 te Φ a.toList (λe st=>match e with
  |.normal=>y0 te Φ b.toList (λe st=>match e with
   |.normal=>K .ret st
   |e=>K e st) b.toList st
  |e=>K e st) a.toList st:=rfl
end Sx
end Go.Proofs.YtohjofabochgfaaGreat

namespace Go.Proofs.YtohjofabochgfaaGreat
open Sx Go
set_option maxRecDepth 100000
def asU (c:Code):Array Oper:=match c with
 |.seq (.region _ ops _) _=>ops
 |_=> #[]
def asT (c:Code):Array Oper:=match c with
 |.seq _ (.seq (.region _ ops _) _)=>ops
 |_=> #[]
theorem aET:(Tryz.f68).body=some (.seq (.region 0 (asU (aj Tryz.f68)) false) (.seq (.region 1 (asT (aj Tryz.f68)) false) .ret)):=by kernel_rfl
theorem aES (x:SV): [x]++List.replicate ((Tryz.f68).ntmps- [x].length) SV.undef= [x,.undef,.undef,.undef,.undef,.undef,.undef,.undef,.undef]:=by kernel_rfl
theorem asR (hp:Hp) (c e:Nat):OB te hp 25 (.own c e)=(match eu hp c e with|some n=>.ok (.int n)|none=>.fail):=by kernel_rfl
theorem asS (hp:Hp) (c e:Nat) (n:Int):qh te hp 25 (.own c e) none (some (.int n)) (some (.int n))=.br (Kt none (some (.int n)) (some (.int n))) (if (eu hp c e).isSome then .ok .emp else .fail) (match (none:Option SV),some (SV.int n),eu hp c e with
 |none,some (.int h),some m=>if dx hp c e=some 1 then .br (decide (h=(m:Int))&&decide (n=(m:Int))) (.ok (.clip c e)) (.guard (decide (0<=h)&&decide (h<=n)&&decide (n<=(m:Int))) (.ok (.part c e 0 h.toNat))) else .fail
 |_,_,_=>.fail):=by kernel_rfl
noncomputable def aEU (k:Nat):Oper:=(asU (aj Tryz.f68)).toList.getD k default
noncomputable def yH (k:Nat):Oper:=(asT (aj Tryz.f68)).toList.getD k default
theorem azC:(asU (aj Tryz.f68)).toList= [aEU 0]:=by kernel_rfl
theorem azA:(asT (aj Tryz.f68)).toList= [yH 0,yH 1,yH 2,yH 3,yH 4,yH 5,yH 6]:=by kernel_rfl
theorem azz (hp:Hp) (c e:Nat) (xs:List UInt8) (K:SV->Hp->Prop) (hx:ek hp c e=some (.row .u8 xs)) (hl:0<xs.length) (hK:K (.clip c e) hp):
 wpf te Cx av 1000 Tryz.f68 [.own c e] hp K (λ_ _=>False):=by
 have e1:eu hp c e=some xs.length:=by simp [eu,hx]
 have e2:dx hp c e=some 1:=by simp only [dx,hx];rfl
 have h1:OB te hp 25 (.own c e)=.ok (.int xs.length):=by rw [asR,e1]
 have h2:(qh te hp 25 (.own c e) none (some (.int xs.length)) (some (.int xs.length))).run=some (.clip c e):=by
  rw [asS,e1]
  simp only [e2,if_true]
  refine (OT.ar ?_).trans (OT.ap (by simp))
  simp only [Kt,Bool.and_self,decide_eq_false_iff_not]
  omega
 unfold wpf
 rw [aET]
 dsimp only
 rw [aES,aCu (n:=997),v8,azC]
 refine fI (.emp) (by kernel_rfl) (by kernel_rfl) (tm':= [.own c e,.undef,.emp,.undef,.undef,.undef,.undef,.undef,.undef]) (by kernel_rfl) ?_
 dsimp only [kf]
 rw [v8,azA]
 refine fI (.own c e) (by kernel_rfl) (by kernel_rfl) (tm':= [.own c e,.undef,.emp,.own c e,.undef,.undef,.undef,.undef,.undef]) (by kernel_rfl) ?_
 refine fI (.own c e) (by kernel_rfl) (by kernel_rfl) (tm':= [.own c e,.undef,.emp,.own c e,.own c e,.undef,.undef,.undef,.undef]) (by kernel_rfl) ?_
 refine fI (.int xs.length) (by kernel_rfl) (Eq.trans (b:=(iH (OB te hp 25 (.own c e))).run) (by kernel_rfl) (by rw [h1];rfl)) (tm':= [.own c e,.undef,.emp,.own c e,.own c e,.int xs.length,.undef,.undef,.undef]) (by kernel_rfl) ?_
 refine fI (.own c e) (by kernel_rfl) (by kernel_rfl) (tm':= [.own c e,.undef,.emp,.own c e,.own c e,.int xs.length,.own c e,.undef,.undef]) (by kernel_rfl) ?_
 refine fI (.int xs.length) (by kernel_rfl) (Eq.trans (b:=(iH (OB te hp 25 (.own c e))).run) (by kernel_rfl) (by rw [h1];rfl)) (tm':= [.own c e,.undef,.emp,.own c e,.own c e,.int xs.length,.own c e,.int xs.length,.undef]) (by kernel_rfl) ?_
 refine fI (.clip c e) (by kernel_rfl) (Eq.trans (b:=(iH (qh te hp 25 (.own c e) none (some (.int xs.length)) (some (.int xs.length)))).run) (by kernel_rfl) (ats h2)) (tm':= [.own c e,.undef,.emp,.own c e,.own c e,.int xs.length,.own c e,.int xs.length,.clip c e]) (by kernel_rfl) ?_
 refine fI (.clip c e) (by kernel_rfl) (by kernel_rfl) (tm':= [.own c e,.undef,.clip c e,.own c e,.own c e,.int xs.length,.own c e,.int xs.length,.clip c e]) (by kernel_rfl) ?_
 exact hK
theorem azB:ac Tryz.prog 68 wx:=
 aGh aq zt aat (f:=68) (fn:=Tryz.f68) (c:=aj Tryz.f68) (by kernel_rfl) (by kernel_rfl) (by kernel_rfl) (λR=>af) (n:=1000) azz
def Ew:cj:=wx
theorem ac0:ac Tryz.prog 68 Ew:=azB
theorem acZ:aG Ew:=avb
def zB:Env:=ay 68 Ew Cx
theorem pR:aR Tryz.prog zB:=ag ac0 zt
theorem Ha:ax zB:=ae acZ Cw
theorem zA:aW Tryz.prog te zB:=aK follows aq pR Ha
def e7:aw:=⟨[.val false .int,.val false .int,.val false (.list .u8)],[],true,0,false⟩
abbrev vJ:Type:=((Int)×(Int)×(List (UInt8))×Unit)×(Unit)
def oO:Shape:=⟨87,[(0,.val false .int),(1,.val false .int),(6,.ptr 0 0 0),(10,.own 1),(38,.val false .int)],[(0,.cells [.val false .u64,.val false .u64,.val false .u64,.val false .u64,.val false .u64,.val false .u64,.val false .u64,.val false .u64,.val false .bool]),(1,.row .u8)],0,true⟩
abbrev b6:Type:=((Int)×(Int)×(Unit)×(Unit)×(Int)×Unit)×(((UInt64)×(UInt64)×(UInt64)×(UInt64)×(UInt64)×(UInt64)×(UInt64)×(UInt64)×(Bool)×Unit)×(List (UInt8))×Unit)
def m9:Shape:=⟨87,[(0,.val false .int),(6,.ptr 0 0 0),(10,.own 1)],[(0,.cells [.val false .u64,.val false .u64,.val false .u64,.val false .u64,.val false .u64,.val false .u64,.val false .u64,.val false .u64,.val false .bool]),(1,.row .u8)],0,true⟩
abbrev iM:Type:=((Int)×(Unit)×(Unit)×Unit)×(((UInt64)×(UInt64)×(UInt64)×(UInt64)×(UInt64)×(UInt64)×(UInt64)×(UInt64)×(Bool)×Unit)×(List (UInt8))×Unit)
def Qb:SE->Option Shape:=fw [(1,m9)] none
def aml (a0:Int) (a1:Int) (a38:Int) (c0_0:UInt64) (c0_1:UInt64) (c0_2:UInt64) (c0_3:UInt64) (c0_4:UInt64) (c0_5:UInt64) (c0_6:UInt64) (c0_7:UInt64) (c0_8:Bool) (c1:List (UInt8)):OT (Sum b6 aE):=
 (.br (decide (a38<(4:Int)))
 (gd [inR ((8:Int)*a38),decide ((0:Int)<=(8:Int)*a38),decide ((List.length c1+1)*1<=140737488355328),inR (a38+(1:Int))] (.ok (.inl ((a0,(a1,((),((),(a38+(1:Int),()))))),((c0_0,(c0_1,(c0_2,(c0_3,(c0_4,(c0_5,(c0_6,(c0_7,(c0_8,()))))))))),(c1++ [i2b (atC a1 ((8:Int)*a38))],()))))))
 (.ok (.inr ⟨(.exit 1,m9),((a0,((),((),()))),((c0_0,(c0_1,(c0_2,(c0_3,(c0_4,(c0_5,(c0_6,(c0_7,(c0_8,()))))))))),(c1,())))⟩)))
def oR (s:b6):OT (Sum b6 aE):=aml (s.1.1) (s.1.2.1) (s.1.2.2.2.2.1) (s.2.1.1) (s.2.1.2.1) (s.2.1.2.2.1) (s.2.1.2.2.2.1) (s.2.1.2.2.2.2.1) (s.2.1.2.2.2.2.2.1) (s.2.1.2.2.2.2.2.2.1) (s.2.1.2.2.2.2.2.2.2.1) (s.2.1.2.2.2.2.2.2.2.2.1) (s.2.2.1)
theorem amg (s:b6) (Q:Sum b6 aE->Prop):wps te zB av 1000 (aU (aj Tryz.f29) 1) (oO.inj s) (bX oO Qb (Q:Sum oO.T aE->Prop))=(oR s).wpR Q:=by kernel_rfl
def vI (g1_1:b6->iM) (s:b6):OT aE:=(.ok ⟨(.exit 1,m9),g1_1 s⟩)
def oN:Shape:=⟨87,[(0,.val false .int),(6,.ptr 0 0 0),(10,.own 1),(50,.val false .int)],[(0,.cells [.val false .u64,.val false .u64,.val false .u64,.val false .u64,.val false .u64,.val false .u64,.val false .u64,.val false .u64,.val false .bool]),(1,.row .u8)],0,true⟩
abbrev bi:Type:=((Int)×(Unit)×(Unit)×(Int)×Unit)×(((UInt64)×(UInt64)×(UInt64)×(UInt64)×(UInt64)×(UInt64)×(UInt64)×(UInt64)×(Bool)×Unit)×(List (UInt8))×Unit)
def fP:Shape:=⟨87,[(6,.ptr 0 0 0),(7,.val false .int)],[(0,.cells [.val false .u64,.val false .u64,.val false .u64,.val false .u64,.val false .u64,.val false .u64,.val false .u64,.val false .u64,.val false .bool])],0,true⟩
abbrev gp:Type:=((Unit)×(Int)×Unit)×(((UInt64)×(UInt64)×(UInt64)×(UInt64)×(UInt64)×(UInt64)×(UInt64)×(UInt64)×(Bool)×Unit)×Unit)
def m8:Shape:=⟨87,[(6,.ptr 0 0 0)],[(0,.cells [.val false .u64,.val false .u64,.val false .u64,.val false .u64,.val false .u64,.val false .u64,.val false .u64,.val false .u64,.val false .bool])],0,true⟩
abbrev gq:Type:=((Unit)×Unit)×(((UInt64)×(UInt64)×(UInt64)×(UInt64)×(UInt64)×(UInt64)×(UInt64)×(UInt64)×(Bool)×Unit)×Unit)
def Qa:SE->Option Shape:=fw [(3,m8)] (some fP)
def amk (a0:Int) (a50:Int) (c0_0:UInt64) (c0_1:UInt64) (c0_2:UInt64) (c0_3:UInt64) (c0_4:UInt64) (c0_5:UInt64) (c0_6:UInt64) (c0_7:UInt64) (c0_8:Bool) (c1:List (UInt8)):OT (Sum bi aE):=
 let z0:Nat:=List.length c1
 let z1:List UInt8:=c1++ [i2b a50]
 let z2:Bool:=al a0
 let z3:Nat:=aa.nat (aX (Int.toNat a0)).fst
 let z4:(aa×aa×Bool)×Int:=Oa a0 (VO (ofN (aa.nat (VZ a0 (mu [(115:UInt8),(105:UInt8),(103:UInt8),(105:UInt8),(108:UInt8),(45:UInt8),(103:UInt8),(101:UInt8),(110:UInt8),(101:UInt8),(114:UInt8),(97:UInt8),(116:UInt8),(111:UInt8),(114:UInt8),(115:UInt8)] (64:Int) z1))%z3)))
 let z5:=z4.fst
 let z6:=z5.snd
 let z7:=z6.snd
 let z8:=z5.fst
 let z9:=z6.fst
 let z10:Bool:=inR (a50+(1:Int))
 let z11:(aa×aa×Bool)×Int:=Oa a0 []
 let z12:=z11.fst
 let z13:=z12.snd
 let z14:=z13.snd
 let z15:Bool:= !z14
 let z16:=z12.fst
 let z17:=z16.w0
 let z18:=z16.w1
 let z19:=z16.w2
 let z20:=z16.w3
 let z21:=z13.fst
 let z22:=z21.w0
 let z23:=z21.w1
 let z24:=z21.w2
 let z25:=z21.w3
 let z26:(aa×aa×Bool)×Int:=Oa a0 (VO (ofN (aa.nat {w0:=0,w1:=0,w2:=0,w3:=0}%z3)))
 let z27:=z26.fst
 let z28:=z27.snd
 let z29:=z28.snd
 let z30:=z27.fst
 let z31:=z28.fst
 (.br (decide (a50<(256:Int)))
 (gd [decide (0<z0),decide ((z0+1)*1<=140737488355328)&&decide (0<1),BX (([(115:UInt8),(105:UInt8),(103:UInt8),(105:UInt8),(108:UInt8),(45:UInt8),(103:UInt8),(101:UInt8),(110:UInt8),(101:UInt8),(114:UInt8),(97:UInt8),(116:UInt8),(111:UInt8),(114:UInt8),(115:UInt8)],(64:Int),z1,()),())] (.br (z2)
  (.br (z2)
   (.br (z4.snd==(0:Int))
    (.br (!z7)
     (.ok (.inr ⟨(.ret,fP),(((),((0:Int),())),((z8.w0,(z8.w1,(z8.w2,(z8.w3,(z9.w0,(z9.w1,(z9.w2,(z9.w3,(z7,()))))))))),()))⟩))
     (gd [z10] (.ok (.inl ((a0,((),((),(a50+(1:Int),())))),((c0_0,(c0_1,(c0_2,(c0_3,(c0_4,(c0_5,(c0_6,(c0_7,(c0_8,()))))))))),(c1,())))))))
    (gd [z10] (.ok (.inl ((a0,((),((),(a50+(1:Int),())))),((c0_0,(c0_1,(c0_2,(c0_3,(c0_4,(c0_5,(c0_6,(c0_7,(c0_8,()))))))))),(c1,())))))))
   (.br (z11.snd==(0:Int))
    (.br (z15)
     (.ok (.inr ⟨(.ret,fP),(((),((0:Int),())),((z17,(z18,(z19,(z20,(z22,(z23,(z24,(z25,(z14,()))))))))),()))⟩))
     (gd [z10] (.ok (.inl ((a0,((),((),(a50+(1:Int),())))),((c0_0,(c0_1,(c0_2,(c0_3,(c0_4,(c0_5,(c0_6,(c0_7,(c0_8,()))))))))),(c1,())))))))
    (gd [z10] (.ok (.inl ((a0,((),((),(a50+(1:Int),())))),((c0_0,(c0_1,(c0_2,(c0_3,(c0_4,(c0_5,(c0_6,(c0_7,(c0_8,()))))))))),(c1,()))))))))
  (.br (z2)
   (.br (z26.snd==(0:Int))
    (.br (!z29)
     (.ok (.inr ⟨(.ret,fP),(((),((0:Int),())),((z30.w0,(z30.w1,(z30.w2,(z30.w3,(z31.w0,(z31.w1,(z31.w2,(z31.w3,(z29,()))))))))),()))⟩))
     (gd [z10] (.ok (.inl ((a0,((),((),(a50+(1:Int),())))),((c0_0,(c0_1,(c0_2,(c0_3,(c0_4,(c0_5,(c0_6,(c0_7,(c0_8,()))))))))),(c1,())))))))
    (gd [z10] (.ok (.inl ((a0,((),((),(a50+(1:Int),())))),((c0_0,(c0_1,(c0_2,(c0_3,(c0_4,(c0_5,(c0_6,(c0_7,(c0_8,()))))))))),(c1,())))))))
   (.br (z11.snd==(0:Int))
    (.br (z15)
     (.ok (.inr ⟨(.ret,fP),(((),((0:Int),())),((z17,(z18,(z19,(z20,(z22,(z23,(z24,(z25,(z14,()))))))))),()))⟩))
     (gd [z10] (.ok (.inl ((a0,((),((),(a50+(1:Int),())))),((c0_0,(c0_1,(c0_2,(c0_3,(c0_4,(c0_5,(c0_6,(c0_7,(c0_8,()))))))))),(c1,())))))))
    (gd [z10] (.ok (.inl ((a0,((),((),(a50+(1:Int),())))),((c0_0,(c0_1,(c0_2,(c0_3,(c0_4,(c0_5,(c0_6,(c0_7,(c0_8,()))))))))),(c1,()))))))))))
 (.ok (.inr ⟨(.exit 3,m8),(((),()),((c0_0,(c0_1,(c0_2,(c0_3,(c0_4,(c0_5,(c0_6,(c0_7,(c0_8,()))))))))),()))⟩)))
def oQ (s:bi):OT (Sum bi aE):=amk (s.1.1) (s.1.2.2.2.1) (s.2.1.1) (s.2.1.2.1) (s.2.1.2.2.1) (s.2.1.2.2.2.1) (s.2.1.2.2.2.2.1) (s.2.1.2.2.2.2.2.1) (s.2.1.2.2.2.2.2.2.1) (s.2.1.2.2.2.2.2.2.2.1) (s.2.1.2.2.2.2.2.2.2.2.1) (s.2.2.1)
theorem amf (s:bi) (Q:Sum bi aE->Prop):wps te zB av 1000 (aU (aj Tryz.f29) 3) (oN.inj s) (bX oN Qa (Q:Sum oN.T aE->Prop))=(oQ s).wpR Q:=by kernel_rfl
def oP (g3_r:bi->gp) (c3_r:bi->Bool) (g3_3:bi->gq) (s:bi):OT aE:=(.br (c3_r s) (.ok ⟨(.ret,fP),g3_r s⟩) (.ok ⟨(.exit 3,m8),g3_3 s⟩))
def hJ:az:=⟨[.val true (.prod .elem (.prod .elem .bool)),.val false .int],[],false⟩
def Kj:SV->Option az:=λ_=>some hJ
def Km (ok1:b6->Bool) (g1_1:b6->iM) (ok3:bi->Bool) (g3_r:bi->gp) (c3_r:bi->Bool) (g3_3:bi->gq) (a0:Int) (a1:Int) (a2:List (UInt8)):OT e7.Y:=
 let z0:aa:= {w0:=0,w1:=0,w2:=0,w3:=0}
 let z1:aa×aa×Bool:=(z0,z0,false)
 let z2:(Int×Int×PUnit×PUnit×Int×PUnit)×(UInt64×UInt64×UInt64×UInt64×UInt64×UInt64×UInt64×UInt64×Bool×PUnit)×List UInt8×PUnit:=((a0,a1,(),(),(0:Int),()),((0:UInt64),(0:UInt64),(0:UInt64),(0:UInt64),(0:UInt64),(0:UInt64),(0:UInt64),(0:UInt64),false,()),a2,())
 let z3:(Int×PUnit×PUnit×PUnit)×(UInt64×UInt64×UInt64×UInt64×UInt64×UInt64×UInt64×UInt64×Bool×PUnit)×List UInt8×PUnit:=g1_1 z2
 let z4:=z3.snd
 let z5:=z4.fst
 let z6:=z5.snd
 let z7:=z6.snd
 let z8:=z7.snd
 let z9:=z8.snd
 let z10:=z9.snd
 let z11:=z10.snd
 let z12:=z11.snd
 let z13:(Int×PUnit×PUnit×Int×PUnit)×(UInt64×UInt64×UInt64×UInt64×UInt64×UInt64×UInt64×UInt64×Bool×PUnit)×List UInt8×PUnit:=((z3.fst.fst,(),(),(0:Int),()),(z5.fst,z6.fst,z7.fst,z8.fst,z9.fst,z10.fst,z11.fst,z12.fst,z12.snd.fst,()),z4.snd.fst,())
 let z14:(PUnit×Int×PUnit)×(UInt64×UInt64×UInt64×UInt64×UInt64×UInt64×UInt64×UInt64×Bool×PUnit)×PUnit:=g3_r z13
 let z15:=z14.snd.fst
 let z16:=z15.snd
 let z17:=z16.snd
 let z18:=z17.snd
 let z19:=z18.snd
 let z20:=z19.snd
 let z21:=z20.snd
 let z22:=z21.snd
 (.br (al a0)
 (.br (decide (a1<(0:Int)))
  (.ok ⟨hJ,((z1,((60:Int),())),())⟩)
  (.br (decide ((2147483647:Int)<a1))
   (.ok ⟨hJ,((z1,((60:Int),())),())⟩)
   (gd [k9 ((a2,()),()),ok1 z2,ok3 z13] (.br (c3_r z13)
    (.ok ⟨hJ,((({w0:=z15.fst,w1:=z16.fst,w2:=z17.fst,w3:=z18.fst},{w0:=z19.fst,w1:=z20.fst,w2:=z21.fst,w3:=z22.fst},z22.snd.fst),(z14.fst.snd.fst,())),())⟩)
    (.ok ⟨hJ,((z1,((90:Int),())),())⟩)))))
 (.ok ⟨hJ,((z1,((40:Int),())),())⟩))
theorem asM (ok1:b6->Bool) (g1_1:b6->iM) (ok3:bi->Bool) (g3_r:bi->gp) (c3_r:bi->Bool) (g3_3:bi->gq) (x:vJ) (Q:e7.Y->Prop):wpf te zB (aO 3 (cg oN 3 ok3 (oP g3_r c3_r g3_3)) (aO 1 (cg oO 1 ok1 (vI g1_1)) av)) 1000 Tryz.f29 (e7.inp.inj x).tm (e7.inp.inj x).hp (fnK e7 Kj Q) (λ_ _=>False)=(Km ok1 g1_1 ok3 g3_r c3_r g3_3 (x.1.1) (x.1.2.1) (x.1.2.2.1)).wpR Q:=by kernel_rfl
theorem XL (ok1:b6->Bool) (g1_1:b6->iM) (ok3:bi->Bool) (g3_r:bi->gp) (c3_r:bi->Bool) (g3_3:bi->gq) (h1:∀ s:b6,ok1 s=true->∃ m e,ao (oR) m s=some e/\(vI g1_1 s).run=some e) (h3:∀ s:bi,ok3 s=true->∃ m e,ao (oQ) m s=some e/\(oP g3_r c3_r g3_3 s).run=some e) (pre:vJ->Bool) (F:vJ->OT e7.Y) (hF:∀ (x:vJ) oy,pre x=true->(F x).run=some oy->(Km ok1 g1_1 ok3 g3_r c3_r g3_3 (x.1.1) (x.1.2.1) (x.1.2.2.1)).run=some oy):ac Tryz.prog 29 (e7.aI pre F):=
 aD aq pR zA (f:=29) (fn:=Tryz.f29) (c:=aj Tryz.f29) (by kernel_rfl) (by kernel_rfl) (by kernel_rfl) (S:=e7) (k:=0) (by kernel_rfl) (λR hR=>(aB (c:=(aj Tryz.f29)) (by kernel_rfl) (id:=3) (by kernel_rfl) (aQ aq pR zA (sh:=oN) hR (xs:=Qa) (aC (by kernel_rfl) (by kernel_rfl) hR) aL af (n:=1000) (T:=oQ) (λs Q=>amf s Q) (ok:=ok3) (f:=oP g3_r c3_r g3_3) h3) (aB (c:=(aj Tryz.f29)) (by kernel_rfl) (id:=1) (by kernel_rfl) (aQ aq pR zA (sh:=oO) hR (xs:=Qb) (aC (by kernel_rfl) (by kernel_rfl) hR) aL af (n:=1000) (T:=oR) (λs Q=>amg s Q) (ok:=ok1) (f:=vI g1_1) h1) af))) (n:=1000) (sel:=Kj) (λv o h=>by cases h;rfl) (pre:=pre) (F:=F) (T:=λx=>Km ok1 g1_1 ok3 g3_r c3_r g3_3 (x.1.1) (x.1.2.1) (x.1.2.2.1)) (λx Q=>asM ok1 g1_1 ok3 g3_r c3_r g3_3 x Q) hF
def ES:List UInt8:= [115,105,103,105,108,45,103,101,110,101,114,97,116,111,114,115]
def Dr (b:List UInt8) (i:Int):List UInt8:=upto (λk l=>l++ [i2b (atC i (8*(k:Int)))]) b 4
def Il (c:Int) (b:List UInt8) (k:Nat):Pt×Int:=Oa c (VO (ofN ((VZ c (mu ES 64 (b++ [i2b (k:Int)]))).nat%(aX c.toNat).1.nat)))
def UE (d:Pt×Int):Bool:=cond (d.2==(0:Int)) (!d.1.2.2) false
def N9 (c:Int) (b:List UInt8):Nat->Nat->Option Pt
 |0,_=>none
 |n+1,k=>cond (UE (Il c b k)) (some (Il c b k).1) (N9 c b n (k+1))
def aF7 (o:Option Pt):Pt×Int:=match o with
 |some p=>(p,0)
 |none=>(dk,90)
def fE (c i:Int) (b:List UInt8):Pt×Int:=cond (al c) (cond (decide (i<0)) (dk,60) (cond (decide (2147483647<i)) (dk,60) (aF7 (N9 c (Dr b i) 256 0)))) (dk,40)
theorem za (b:List UInt8) (i:Int):(Dr b i).length=b.length+4:=by
 simp only [Dr,upto,List.length_append,List.length_cons,List.length_nil]
abbrev aam:Type:=UInt64×UInt64×UInt64×UInt64×UInt64×UInt64×UInt64×UInt64×Bool×Unit
def asN (p:Pt):aam:=(p.1.w0,p.1.w1,p.1.w2,p.1.w3,p.2.1.w0,p.2.1.w1,p.2.1.w2,p.2.1.w3,p.2.2,())
def Kl (s:b6):Bool:=decide (s.1.2.2.2.2.1=0/\s.2.2.1.length<=140737488351232)
def Er (s:b6):iM:=((s.1.1,(),(),()),(s.2.1,Dr s.2.2.1 s.1.2.1,()))
theorem amj:∀ s:b6,Kl s=true->∃ m e,ao oR m s=some e/\(vI Er s).run=some e:=by
 rintro ⟨⟨c,a,⟨⟩,⟨⟩,i,⟨⟩⟩,⟨z,b,⟨⟩⟩⟩ h
 have h':=of_decide_eq_true h
 dsimp only at h'
 obtain ⟨rfl,hl⟩:=h'
 have:=(aP (T:=oR) (λi l=>(((c,a,(),(),(i:Int),()),(z,l,())):b6)) (λk l=>l++ [i2b (atC a (8*(k:Int)))])
  (λl=>(⟨(.exit 1,m9),((c,(),(),()),(z,l,()))⟩:aE)) 4 b (λk l=>l.length=b.length+k) rfl (λi l hi hl'=>⟨?_,by simp [hl'];omega⟩) (λl hl'=> ?_)).1
 ·obtain ⟨m,hm⟩:=this
  exact ⟨m,_,hm,rfl⟩
 ·refine (OT.ap (decide_eq_true (by dsimp only;omega))).trans ((ah ?_).trans rfl)
  simp only [hl',List.all_cons,List.all_nil,Bool.and_true,Bool.and_eq_true]
  exact ⟨aH (by omega),decide_eq_true (by omega),decide_eq_true (by omega),aH (by omega)⟩
 ·exact OT.ar (decide_eq_false (by dsimp only;omega))
def Kk (s:bi):Bool:=al s.1.1&&decide (s.1.2.2.2.1=0/\0<s.2.2.1.length/\s.2.2.1.length<=140737488355000)
def vH (s:bi):gp:=(((),(aF7 (N9 s.1.1 s.2.2.1 256 0)).2,()),(asN (aF7 (N9 s.1.1 s.2.2.1 256 0)).1,()))
def A6 (s:bi):Bool:=(N9 s.1.1 s.2.2.1 256 0).isSome
def Ep (s:bi):gq:=(((),()),(s.2.1,()))
def aJc (z:aam) (o:Option Pt):aE:=match o with
 |some p=>⟨(.ret,fP),((((),(0:Int),()),(asN p,())):gp)⟩
 |none=>⟨(.exit 3,m8),((((),()),(z,())):gq)⟩
theorem aiF {c:Int} {b:List UInt8} {z:aam} (hs:al c=true) (h0:0<b.length) (hl:b.length<=140737488355000):∀ (n k:Nat),n+k=256->∃ m,ao oQ m ((c,(),(),(k:Int),()),(z,b,()))=some (aJc z (N9 c b n k))
 |0,k,hk=>⟨1,aM (OT.ar (decide_eq_false (by dsimp only;omega)))⟩
 |n+1,k,hk=>by
  have ih:=aiF (z:=z) hs h0 hl n (k+1) (by omega)
  obtain ⟨m,hm⟩:=ih
  have hpre:∀ {α:Type} {x:OT α} {o:Option α},x.run=o->(gd [decide (0<b.length),decide ((b.length+1)*1<=140737488355328)&&decide (0<1),BX ((ES,64,b++ [i2b (k:Int)],()),())] x).run=o:=λhx=>by
   refine (ah ?_).trans hx
   simp only [List.all_cons,List.all_nil,Bool.and_true,Bool.and_eq_true]
   exact ⟨decide_eq_true h0,⟨decide_eq_true (by omega),rfl⟩,decide_eq_true (by simp only [List.length_append,List.length_cons,List.length_nil];omega)⟩
  have hgo:(gd [inR ((k:Int)+1)] (.ok (.inl ((c,(),(),(k:Int)+1,()),(z,b,()))):OT (Sum bi aE))).run=some (.inl ((c,(),(),((k+1:Nat):Int),()),(z,b,()))):=
   (ah (by simp only [List.all_cons,List.all_nil,Bool.and_true];exact aH (by omega))).trans rfl
  have h1:decide ((k:Int)<256)=true:=decide_eq_true (by omega)
  unfold N9
  rcases (Bool.eq_false_or_eq_true ((Il c b k).2==(0:Int))).symm with hd|hd
  ·have e:UE (Il c b k)=false:=by unfold UE;rw [hd];rfl
   rw [e]
   exact ⟨m+1,aF ((OT.ap h1).trans (hpre ((OT.ap hs).trans ((OT.ap hs).trans ((OT.ar hd).trans hgo))))) hm⟩
  ·rcases (Bool.eq_false_or_eq_true (!(Il c b k).1.2.2)).symm with hq|hq
   ·have e:UE (Il c b k)=false:=by unfold UE;rw [hd];exact hq
    rw [e]
    exact ⟨m+1,aF ((OT.ap h1).trans (hpre ((OT.ap hs).trans ((OT.ap hs).trans ((OT.ap hd).trans ((OT.ar hq).trans hgo)))))) hm⟩
   ·have e:UE (Il c b k)=true:=by unfold UE;rw [hd];exact hq
    rw [e]
    exact ⟨1,aM ((OT.ap h1).trans (hpre ((OT.ap hs).trans ((OT.ap hs).trans ((OT.ap hd).trans ((OT.ap hq).trans rfl))))))⟩
theorem ami:∀ s:bi,Kk s=true->∃ m e,ao oQ m s=some e/\(oP vH A6 Ep s).run=some e:=by
 rintro ⟨⟨c,⟨⟩,⟨⟩,i,⟨⟩⟩,⟨z,b,⟨⟩⟩⟩ h
 obtain ⟨hs,h⟩:=(Bool.and_eq_true _ _).mp h
 have h':=of_decide_eq_true h
 dsimp only at h' hs
 obtain ⟨rfl,h0,hl⟩:=h'
 obtain ⟨m,hm⟩:=aiF (z:=z) hs h0 hl 256 0 rfl
 refine ⟨m,_,hm,?_⟩
 unfold oP vH A6 Ep
 dsimp only
 cases N9 c b 256 0 with
 |none=>rfl
 |some p=>rfl
def qH (x:vJ):Bool:=decide (x.1.2.2.1.length<=140737488351232)
def XM (x:vJ):OT e7.Y:=.ok ⟨hJ,(((fE x.1.1 x.1.2.1 x.1.2.2.1).1,((fE x.1.1 x.1.2.1 x.1.2.2.1).2,())),())⟩
theorem amh:ac Tryz.prog 29 (e7.aI qH XM):=XL Kl Er Kk vH A6 Ep amj ami _ _ λx oy hp ho=>by
 rw [<-ho]
 clear ho
 obtain ⟨⟨c,i,b,⟨⟩⟩,⟨⟩⟩:=x
 have hl:b.length<=140737488351232:=of_decide_eq_true hp
 show _=some (⟨hJ,(((fE c i b).1,((fE c i b).2,())),())⟩:e7.Y)
 rcases (Bool.eq_false_or_eq_true (al c)).symm with hs|hs
 ·rw [show fE c i b=(dk,40) from by unfold fE;rw [hs];rfl]
  exact OT.ar hs
 refine (OT.ap hs).trans ?_
 rcases (Bool.eq_false_or_eq_true (decide (i<0))).symm with h1|h1
 ·refine (OT.ar h1).trans ?_
  rcases (Bool.eq_false_or_eq_true (decide (2147483647<i))).symm with h2|h2
  ·rw [show fE c i b=aF7 (N9 c (Dr b i) 256 0) from by unfold fE;rw [hs,h1,h2];rfl]
   refine (OT.ar h2).trans ((ah ?_).trans ?_)
   ·simp only [List.all_cons,List.all_nil,Bool.and_true,Bool.and_eq_true]
    refine ⟨decide_eq_true (show b.length<=_ by omega),decide_eq_true ⟨rfl,hl⟩,(Bool.and_eq_true _ _).mpr ⟨hs,decide_eq_true ⟨rfl,?_,?_⟩⟩⟩
    ·show 0<(Dr b i).length
     rw [za];omega
    ·show (Dr b i).length<=_
     rw [za];omega
   ·unfold A6 vH Er
    dsimp only
    generalize N9 c (Dr b i) 256 0=o
    cases o with
    |none=>rfl
    |some p=>rfl
  ·rw [show fE c i b=(dk,60) from by unfold fE;rw [hs,h1,h2];rfl]
   exact OT.ap h2
 ·rw [show fE c i b=(dk,60) from by unfold fE;rw [hs,h1];rfl]
  exact OT.ap h1
def s8:cj:=(e7.aI qH XM)
theorem Tq:ac Tryz.prog 29 s8:=amh
theorem Tp:aG s8:=aA
def pQ:Env:=ay 29 s8 zB
theorem nI:aR Tryz.prog pQ:=ag Tq pR
theorem xO:ax pQ:=ae Tp Ha
theorem CM:aW Tryz.prog te pQ:=aK follows aq nI xO
def eX:aw:=⟨[.val false .int,.val false .int,.val false (.list .u8)],[],true,0,false⟩
abbrev vh:Type:=((Int)×(Int)×(List (UInt8))×Unit)×(Unit)
def n5:Shape:=⟨80,[(0,.val false .int),(1,.val false .int),(2,.val false (.list .u8)),(6,.ptr 0 0 0),(8,.val false .int)],[(0,.cells [.val false .u64,.val false .u64,.val false .u64,.val false .u64,.val false .u64,.val false .u64,.val false .u64,.val false .u64,.val false .bool])],0,true⟩
abbrev aZ:Type:=((Int)×(Int)×(List (UInt8))×(Unit)×(Int)×Unit)×(((UInt64)×(UInt64)×(UInt64)×(UInt64)×(UInt64)×(UInt64)×(UInt64)×(UInt64)×(Bool)×Unit)×Unit)
def jS:Shape:=⟨80,[(6,.ptr 0 0 0),(7,.val false .int)],[(0,.cells [.val false .u64,.val false .u64,.val false .u64,.val false .u64,.val false .u64,.val false .u64,.val false .u64,.val false .u64,.val false .bool])],0,true⟩
abbrev eQ:Type:=((Unit)×(Int)×Unit)×(((UInt64)×(UInt64)×(UInt64)×(UInt64)×(UInt64)×(UInt64)×(UInt64)×(UInt64)×(Bool)×Unit)×Unit)
def mQ:Shape:=⟨80,[(6,.ptr 0 0 0)],[(0,.cells [.val false .u64,.val false .u64,.val false .u64,.val false .u64,.val false .u64,.val false .u64,.val false .u64,.val false .u64,.val false .bool])],0,true⟩
abbrev gj:Type:=((Unit)×Unit)×(((UInt64)×(UInt64)×(UInt64)×(UInt64)×(UInt64)×(UInt64)×(UInt64)×(UInt64)×(Bool)×Unit)×Unit)
def Pk:SE->Option Shape:=fw [(0,mQ)] (some jS)
def Pl (a0:Int) (a1:Int) (a2:List (UInt8)) (a8:Int) (c0_0:UInt64) (c0_1:UInt64) (c0_2:UInt64) (c0_3:UInt64) (c0_4:UInt64) (c0_5:UInt64) (c0_6:UInt64) (c0_7:UInt64) (c0_8:Bool):OT (Sum aZ aE):=
 let z0:Int:=Int.tdiv a1 (256:Int)
 let z1:Int:=Int.tdiv a1 (65536:Int)
 let z2:Int:=Int.tdiv a1 (16777216:Int)
 let z3:List UInt8:=a2++ [i2b a1,i2b z0,i2b z1,i2b z2,i2b a8]
 let z4:List UInt8:=ayW [(115:UInt8),(105:UInt8),(103:UInt8),(105:UInt8),(108:UInt8),(45:UInt8),(103:UInt8),(101:UInt8),(110:UInt8),(101:UInt8),(114:UInt8),(97:UInt8),(116:UInt8),(111:UInt8),(114:UInt8),(115:UInt8)] (64:Int) z3
 let z5:aa:=VZ a0 z4
 let z6:(aa×aa×Bool)×Int:=Oa a0 (VO (ofP (pS a0) z5))
 let z7:=z6.fst
 let z8:=z7.snd
 let z9:=z8.snd
 let z10:=z7.fst
 let z11:=z8.fst
 let z12:Bool:=inR (a8+(1:Int))
 (.br (decide (a8<(256:Int)))
 (gd [lm ((a2,()),()),true&&inR z0,true&&inR z1,true&&inR z2,decide ((List.length a2+5)*1<=140737488355328),HQ (([(115:UInt8),(105:UInt8),(103:UInt8),(105:UInt8),(108:UInt8),(45:UInt8),(103:UInt8),(101:UInt8),(110:UInt8),(101:UInt8),(114:UInt8),(97:UInt8),(116:UInt8),(111:UInt8),(114:UInt8),(115:UInt8)],(64:Int),z3,()),()),vi ((a0,z4,()),()),mU ((a0,z5,()),())] (.br (z6.snd==(0:Int))
  (.br (!z9)
   (.ok (.inr ⟨(.ret,jS),(((),((0:Int),())),((z10.w0,(z10.w1,(z10.w2,(z10.w3,(z11.w0,(z11.w1,(z11.w2,(z11.w3,(z9,()))))))))),()))⟩))
   (gd [z12] (.ok (.inl ((a0,(a1,(a2,((),(a8+(1:Int),()))))),((c0_0,(c0_1,(c0_2,(c0_3,(c0_4,(c0_5,(c0_6,(c0_7,(c0_8,()))))))))),()))))))
  (gd [z12] (.ok (.inl ((a0,(a1,(a2,((),(a8+(1:Int),()))))),((c0_0,(c0_1,(c0_2,(c0_3,(c0_4,(c0_5,(c0_6,(c0_7,(c0_8,()))))))))),())))))))
 (.ok (.inr ⟨(.exit 0,mQ),(((),()),((c0_0,(c0_1,(c0_2,(c0_3,(c0_4,(c0_5,(c0_6,(c0_7,(c0_8,()))))))))),()))⟩)))
def jv (s:aZ):OT (Sum aZ aE):=Pl (s.1.1) (s.1.2.1) (s.1.2.2.1) (s.1.2.2.2.2.1) (s.2.1.1) (s.2.1.2.1) (s.2.1.2.2.1) (s.2.1.2.2.2.1) (s.2.1.2.2.2.2.1) (s.2.1.2.2.2.2.2.1) (s.2.1.2.2.2.2.2.2.1) (s.2.1.2.2.2.2.2.2.2.1) (s.2.1.2.2.2.2.2.2.2.2.1)
theorem alk (s:aZ) (Q:Sum aZ aE->Prop):wps te pQ av 1000 (aU (aj Tryz.f30) 0) (n5.inj s) (bX n5 Pk (Q:Sum n5.T aE->Prop))=(jv s).wpR Q:=by kernel_rfl
def n6 (g0_r:aZ->eQ) (c0_r:aZ->Bool) (g0_0:aZ->gj) (s:aZ):OT aE:=(.br (c0_r s) (.ok ⟨(.ret,jS),g0_r s⟩) (.ok ⟨(.exit 0,mQ),g0_0 s⟩))
def gh:az:=⟨[.val true (.prod .elem (.prod .elem .bool)),.val false .int],[],false⟩
def Ji:SV->Option az:=λ_=>some gh
def Jk (ok0:aZ->Bool) (g0_r:aZ->eQ) (c0_r:aZ->Bool) (g0_0:aZ->gj) (a0:Int) (a1:Int) (a2:List (UInt8)):OT eX.Y:=
 let z0:aa:= {w0:=0,w1:=0,w2:=0,w3:=0}
 let z1:aa×aa×Bool:=(z0,z0,false)
 let z2:(Int×Int×List UInt8×PUnit×Int×PUnit)×(UInt64×UInt64×UInt64×UInt64×UInt64×UInt64×UInt64×UInt64×Bool×PUnit)×PUnit:=((a0,a1,a2,(),(0:Int),()),((0:UInt64),(0:UInt64),(0:UInt64),(0:UInt64),(0:UInt64),(0:UInt64),(0:UInt64),(0:UInt64),false,()),())
 let z3:(PUnit×Int×PUnit)×(UInt64×UInt64×UInt64×UInt64×UInt64×UInt64×UInt64×UInt64×Bool×PUnit)×PUnit:=g0_r z2
 let z4:=z3.snd.fst
 let z5:=z4.snd
 let z6:=z5.snd
 let z7:=z6.snd
 let z8:=z7.snd
 let z9:=z8.snd
 let z10:=z9.snd
 let z11:=z10.snd
 (.br (decide (a0<(0:Int)))
 (.ok ⟨gh,((z1,((40:Int),())),())⟩)
 (.br (decide ((3:Int)<a0))
  (.ok ⟨gh,((z1,((40:Int),())),())⟩)
  (.br (decide (a1<(0:Int)))
   (.ok ⟨gh,((z1,((60:Int),())),())⟩)
   (.br (decide ((2147483647:Int)<a1))
    (.ok ⟨gh,((z1,((60:Int),())),())⟩)
    (gd [ok0 z2] (.br (c0_r z2)
     (.ok ⟨gh,((({w0:=z4.fst,w1:=z5.fst,w2:=z6.fst,w3:=z7.fst},{w0:=z8.fst,w1:=z9.fst,w2:=z10.fst,w3:=z11.fst},z11.snd.fst),(z3.fst.snd.fst,())),())⟩)
     (.ok ⟨gh,((z1,((90:Int),())),())⟩)))))))
theorem arv (ok0:aZ->Bool) (g0_r:aZ->eQ) (c0_r:aZ->Bool) (g0_0:aZ->gj) (x:vh) (Q:eX.Y->Prop):wpf te pQ (aO 0 (cg n5 0 ok0 (n6 g0_r c0_r g0_0)) av) 1000 Tryz.f30 (eX.inp.inj x).tm (eX.inp.inj x).hp (fnK eX Ji Q) (λ_ _=>False)=(Jk ok0 g0_r c0_r g0_0 (x.1.1) (x.1.2.1) (x.1.2.2.1)).wpR Q:=by kernel_rfl
theorem Wu (ok0:aZ->Bool) (g0_r:aZ->eQ) (c0_r:aZ->Bool) (g0_0:aZ->gj) (h0:∀ s:aZ,ok0 s=true->∃ m e,ao (jv) m s=some e/\(n6 g0_r c0_r g0_0 s).run=some e) (pre:vh->Bool) (F:vh->OT eX.Y) (hF:∀ (x:vh) oy,pre x=true->(F x).run=some oy->(Jk ok0 g0_r c0_r g0_0 (x.1.1) (x.1.2.1) (x.1.2.2.1)).run=some oy):ac Tryz.prog 30 (eX.aI pre F):=
 aD aq nI CM (f:=30) (fn:=Tryz.f30) (c:=aj Tryz.f30) (by kernel_rfl) (by kernel_rfl) (by kernel_rfl) (S:=eX) (k:=0) (by kernel_rfl) (λR hR=>(aB (c:=(aj Tryz.f30)) (by kernel_rfl) (id:=0) (by kernel_rfl) (aQ aq nI CM (sh:=n5) hR (xs:=Pk) (aC (by kernel_rfl) (by kernel_rfl) hR) aL af (n:=1000) (T:=jv) (λs Q=>alk s Q) (ok:=ok0) (f:=n6 g0_r c0_r g0_0) h0) af)) (n:=1000) (sel:=Ji) (λv o h=>by cases h;rfl) (pre:=pre) (F:=F) (T:=λx=>Jk ok0 g0_r c0_r g0_0 (x.1.1) (x.1.2.1) (x.1.2.2.1)) (λx Q=>arv ok0 g0_r c0_r g0_0 x Q) hF
theorem Ia {i:Int} (hi:0<=i) (n:Nat) (hn:n<=64) (d:Nat) (hd:d=2^n):atC i (n:Int)=Int.tdiv i (d:Int):=by
 subst hd
 unfold atC
 rw [Int.toNat_natCast,Nat.min_eq_left hn,Int.fdiv_eq_ediv_of_nonneg _ (Int.le_of_lt (Int.pow_pos (by decide))),Int.tdiv_eq_ediv_of_nonneg hi]
 simp
theorem aAA {i:Int} (hi:0<=i) (b:List UInt8) (k:Int):b++ [i2b i,i2b (Int.tdiv i 256),i2b (Int.tdiv i 65536),i2b (Int.tdiv i 16777216),i2b k]=Dr b i++ [i2b k]:=by
 have h0:atC i (8*((0:Nat):Int))=i:=by rw [show (8*((0:Nat):Int))=((0:Nat):Int) from rfl,Ia hi 0 (by decide) 1 rfl];exact Int.tdiv_one i
 have h1:atC i (8*((1:Nat):Int))=Int.tdiv i 256:=Ia hi 8 (by decide) 256 rfl
 have h2:atC i (8*((2:Nat):Int))=Int.tdiv i 65536:=Ia hi 16 (by decide) 65536 rfl
 have h3:atC i (8*((3:Nat):Int))=Int.tdiv i 16777216:=Ia hi 24 (by decide) 16777216 rfl
 simp only [Dr,upto,h0,h1,h2,h3,List.append_assoc,List.cons_append,List.nil_append]
def Jj (s:aZ):Bool:=al s.1.1&&decide (0<=s.1.2.1/\s.1.2.1<=2147483647/\s.1.2.2.2.2.1=0/\s.1.2.2.1.length<=100000000000)
def vg (s:aZ):eQ:=(((),(aF7 (N9 s.1.1 (Dr s.1.2.2.1 s.1.2.1) 256 0)).2,()),(asN (aF7 (N9 s.1.1 (Dr s.1.2.2.1 s.1.2.1) 256 0)).1,()))
def AA (s:aZ):Bool:=(N9 s.1.1 (Dr s.1.2.2.1 s.1.2.1) 256 0).isSome
def DJ (s:aZ):gj:=(((),()),(s.2.1,()))
def aJa (z:aam) (o:Option Pt):aE:=match o with
 |some p=>⟨(.ret,jS),((((),(0:Int),()),(asN p,())):eQ)⟩
 |none=>⟨(.exit 0,mQ),((((),()),(z,())):gj)⟩
abbrev aGF:Type:=OT (Sum aZ aE)
def abQ (c i:Int) (b:List UInt8) (z:aam) (k:Int):aZ:=((c,i,b,(),k,()),(z,()))
def aEt (c i:Int) (b:List UInt8) (z:aam) (k:Int):aGF:=gd [inR (k+1)] (.ok (.inl (abQ c i b z (k+1))))
def aEs (d:Pt×Int) (g:aGF):aGF:=.br (d.2==(0:Int)) (.br (!d.1.2.2) (.ok (.inr ⟨(.ret,jS),((((),(0:Int),()),(asN d.1,())):eQ)⟩)) g) g
theorem arw {c i:Int} {b:List UInt8} {z:aam} (hs:al c=true) (h0:0<=i) (hi:i<=2147483647) (hl:b.length<=100000000000) {k:Nat} (hk:k<256):
 (jv (abQ c i b z (k:Int))).run=(aEs (Il c (Dr b i) k) (aEt c i b z (k:Int))).run:=by
 have hd:∀ d:Int,0<d->inR (Int.tdiv i d)=true:=λd hd=>by
  have h1:=Int.tdiv_eq_ediv_of_nonneg h0 (b:=d)
  have h2:i/d<=i:=Int.ediv_le_self _ h0
  have h3:0<=i/d:=Int.ediv_nonneg h0 (Int.le_of_lt hd)
  exact aH (by omega)
 simp only [jv,Pl,abQ]
 rw [aAA h0,ayV (by decide)]
 refine (OT.ap (decide_eq_true (by omega))).trans ((ah ?_).trans ?_)
 ·simp only [List.all_cons,List.all_nil,Bool.and_true,Bool.and_eq_true,Bool.true_and]
  refine ⟨decide_eq_true (show b.length<=_ by omega),hd _ (by decide),hd _ (by decide),hd _ (by decide),decide_eq_true (by omega),?_,?_,?_⟩
  ·unfold HQ
   dsimp only
   rw [List.length_append,za]
   exact decide_eq_true (by simp only [List.length_cons,List.length_nil];omega)
  ·unfold vi
   dsimp only
   rw [hs,K2.2 (by rw [OK];rfl)]
   rfl
  ·unfold mU
   exact hs
 ·unfold aEs aEt abQ Il ofP pS ES
  rfl
theorem aib {c i:Int} {b:List UInt8} {z:aam} (hs:al c=true) (h0:0<=i) (hi:i<=2147483647) (hl:b.length<=100000000000):∀ (n k:Nat),n+k=256->∃ m,ao jv m (abQ c i b z (k:Int))=some (aJa z (N9 c (Dr b i) n k))
 |0,k,hk=>⟨1,aM (OT.ar (decide_eq_false (by dsimp only [abQ];omega)))⟩
 |n+1,k,hk=>by
  obtain ⟨m,hm⟩:=aib (z:=z) hs h0 hi hl n (k+1) (by omega)
  have hU:=arw (z:=z) hs h0 hi hl (k:=k) (by omega)
  have hgo:(aEt c i b z (k:Int)).run=some (.inl (abQ c i b z ((k+1:Nat):Int))):=
   (ah (by simp only [List.all_cons,List.all_nil,Bool.and_true];exact aH (by omega))).trans rfl
  unfold N9
  generalize Il c (Dr b i) k=d at hU
  unfold aEs at hU
  rcases (Bool.eq_false_or_eq_true (d.2==(0:Int))).symm with hd|hd
  ·have e:UE d=false:=by unfold UE;rw [hd];rfl
   rw [e]
   exact ⟨m+1,aF (hU.trans ((OT.ar hd).trans hgo)) hm⟩
  ·rcases (Bool.eq_false_or_eq_true (!d.1.2.2)).symm with hq|hq
   ·have e:UE d=false:=by unfold UE;rw [hd];exact hq
    rw [e]
    exact ⟨m+1,aF (hU.trans ((OT.ap hd).trans ((OT.ar hq).trans hgo))) hm⟩
   ·have e:UE d=true:=by unfold UE;rw [hd];exact hq
    rw [e]
    exact ⟨1,aM (hU.trans ((OT.ap hd).trans ((OT.ap hq).trans rfl)))⟩
theorem aln:∀ s:aZ,Jj s=true->∃ m e,ao jv m s=some e/\(n6 vg AA DJ s).run=some e:=by
 rintro ⟨⟨c,i,b,⟨⟩,k,⟨⟩⟩,⟨z,⟨⟩⟩⟩ h
 obtain ⟨hs,h⟩:=(Bool.and_eq_true _ _).mp h
 have h':=of_decide_eq_true h
 dsimp only at h' hs
 obtain ⟨h0,hi,rfl,hl⟩:=h'
 obtain ⟨m,hm⟩:=aib (z:=z) hs h0 hi hl 256 0 rfl
 refine ⟨m,_,hm,?_⟩
 unfold n6 vg AA DJ
 dsimp only
 generalize N9 c (Dr b i) 256 0=o
 cases o with
 |none=>rfl
 |some p=>rfl
def yl (x:vh):Bool:=decide (x.1.2.2.1.length<=100000000000)
def Wv (x:vh):OT eX.Y:=.ok ⟨gh,(((fE x.1.1 x.1.2.1 x.1.2.2.1).1,((fE x.1.1 x.1.2.1 x.1.2.2.1).2,())),())⟩
theorem alm:ac Tryz.prog 30 (eX.aI yl Wv):=Wu Jj vg AA DJ aln _ _ λx oy hp ho=>by
 rw [<-ho]
 clear ho
 obtain ⟨⟨c,i,b,⟨⟩⟩,⟨⟩⟩:=x
 have hl:b.length<=100000000000:=of_decide_eq_true hp
 show _=some (⟨gh,(((fE c i b).1,((fE c i b).2,())),())⟩:eX.Y)
 rcases (Bool.eq_false_or_eq_true (decide (c<0))).symm with hc|hc
 ·refine (OT.ar hc).trans ?_
  rcases (Bool.eq_false_or_eq_true (decide (3<c))).symm with hd|hd
  ·have hs:al c=true:=by rw [u4,hc,hd];rfl
   refine (OT.ar hd).trans ?_
   rcases (Bool.eq_false_or_eq_true (decide (i<0))).symm with h1|h1
   ·refine (OT.ar h1).trans ?_
    rcases (Bool.eq_false_or_eq_true (decide (2147483647<i))).symm with h2|h2
    ·rw [show fE c i b=aF7 (N9 c (Dr b i) 256 0) from by unfold fE;rw [hs,h1,h2];rfl]
     refine (OT.ar h2).trans ((ah ?_).trans ?_)
     ·simp only [List.all_cons,List.all_nil,Bool.and_true]
      have g1:=of_decide_eq_false h1
      have g2:=of_decide_eq_false h2
      exact (Bool.and_eq_true _ _).mpr ⟨hs,decide_eq_true ⟨show 0<=i by omega,show i<=2147483647 by omega,rfl,hl⟩⟩
     ·unfold AA vg
      dsimp only
      generalize N9 c (Dr b i) 256 0=o
      cases o with
      |none=>rfl
      |some p=>rfl
    ·rw [show fE c i b=(dk,60) from by unfold fE;rw [hs,h1,h2];rfl]
     exact OT.ap h2
   ·rw [show fE c i b=(dk,60) from by unfold fE;rw [hs,h1];rfl]
    exact OT.ap h1
  ·have hs:al c=false:=by rw [u4,hd];simp
   rw [show fE c i b=(dk,40) from by unfold fE;rw [hs];rfl]
   exact OT.ap hd
 ·have hs:al c=false:=by rw [u4,hc];rfl
  rw [show fE c i b=(dk,40) from by unfold fE;rw [hs];rfl]
  exact OT.ap hc
def ss:cj:=(eX.aI yl Wv)
theorem Sz:ac Tryz.prog 30 ss:=alm
theorem Sy:aG ss:=aA
def pG:Env:=ay 30 ss pQ
theorem nB:aR Tryz.prog pG:=ag Sz nI
theorem xF:ax pG:=ae Sy xO
theorem Cr:aW Tryz.prog te pG:=aK follows aq nB xF
def eZ:aw:=⟨[.val false .int,.val false .int,.val false (.list .u8)],[],false,0,false⟩
def fo:az:=⟨[.val true aIV,.val false .int],[],false⟩
def J8:SV->Option az:=λ_=>some fo
def XV:CSh:=.cells [.val false .int,.val false .int,.val false (.list (.prod .elem (.prod .elem .bool))),.val false (.prod .elem (.prod .elem .bool)),.val false (.prod .elem (.prod .elem .bool))]
def oJ:Shape:=⟨70,[(0,.val false .int),(1,.val false .int),(2,.val false (.list .u8)),(6,.ptr 0 0 0),(10,.own 1),(32,.val false .int),(33,.val false .int)],[(0,XV),(1,.row (.prod .elem (.prod .elem .bool)))],0,true⟩
def j5:Shape:=⟨70,[(6,.ptr 0 0 0),(7,.val false .int)],[(0,XV)],0,true⟩
def m4:Shape:=⟨70,[(0,.val false .int),(1,.val false .int),(6,.ptr 0 0 0),(10,.own 1)],[(0,XV),(1,.row (.prod .elem (.prod .elem .bool)))],0,true⟩
abbrev vD:Type:=((Int)×(Int)×(List (UInt8))×Unit)×(Unit)
abbrev ba:Type:=((Int)×(Int)×(List (UInt8))×(Unit)×(Unit)×(Int)×(Int)×Unit)×(((Int)×(Int)×(List ((aa×(aa×Bool))))×((aa×(aa×Bool)))×((aa×(aa×Bool)))×Unit)×(List ((aa×(aa×Bool))))×Unit)
abbrev eR:Type:=((Unit)×(Int)×Unit)×(((Int)×(Int)×(List ((aa×(aa×Bool))))×((aa×(aa×Bool)))×((aa×(aa×Bool)))×Unit)×Unit)
abbrev gm:Type:=((Int)×(Int)×(Unit)×(Unit)×Unit)×(((Int)×(Int)×(List ((aa×(aa×Bool))))×((aa×(aa×Bool)))×((aa×(aa×Bool)))×Unit)×(List ((aa×(aa×Bool))))×Unit)
def P3:SE->Option Shape:=fw [(0,m4)] (some j5)
def al6 (a0:Int) (a1:Int) (a2:List (UInt8)) (a32:Int) (a33:Int) (c0_0:Int) (c0_1:Int) (c0_2:List ((aa×(aa×Bool)))) (c0_3:(aa×(aa×Bool))) (c0_4:(aa×(aa×Bool))) (c1:List ((aa×(aa×Bool)))):OT (Sum ba aE):=
 let z0:(aa×aa×Bool)×Int:=fE a0 a33 a2
 let z1:=z0.snd
 let z2:aa:= {w0:=0,w1:=0,w2:=0,w3:=0}
 let z3:aa×aa×Bool:=(z2,z2,false)
 (.br (decide (a33<a32))
 (gd [qH ((a0,a33,a2,()),())] (.br (!z1==(0:Int))
  (.ok (.inr ⟨(.ret,j5),(((),(z1,())),(((0:Int),((0:Int),([],(z3,(z3,()))))),()))⟩))
  (gd [decide ((List.length c1+1)*72<=140737488355328),inR (a33+(1:Int))] (.ok (.inl ((a0,(a1,(a2,((),((),(a32,(a33+(1:Int),()))))))),((c0_0,(c0_1,(c0_2,(c0_3,(c0_4,()))))),(c1++ [z0.fst],()))))))))
 (.ok (.inr ⟨(.exit 0,m4),((a0,(a1,((),((),())))),((c0_0,(c0_1,(c0_2,(c0_3,(c0_4,()))))),(c1,())))⟩)))
def kY (s:ba):OT (Sum ba aE):=al6 (s.1.1) (s.1.2.1) (s.1.2.2.1) (s.1.2.2.2.2.2.1) (s.1.2.2.2.2.2.2.1) (s.2.1.1) (s.2.1.2.1) (s.2.1.2.2.1) (s.2.1.2.2.2.1) (s.2.1.2.2.2.2.1) (s.2.2.1)
theorem al3 (s:ba) (Q:Sum ba aE->Prop):wps te pG av 1000 (aU (aj Tryz.f31) 0) (oJ.inj s) (bX oJ P3 (Q:Sum oJ.T aE->Prop))=(kY s).wpR Q:=by kernel_rfl
def oK (g0_r:ba->eR) (c0_r:ba->Bool) (g0_0:ba->gm) (s:ba):OT aE:=(.br (c0_r s) (.ok ⟨(.ret,j5),g0_r s⟩) (.ok ⟨(.exit 0,m4),g0_0 s⟩))
def Ka (ok0:ba->Bool) (g0_r:ba->eR) (c0_r:ba->Bool) (g0_0:ba->gm) (a0:Int) (a1:Int) (a2:List (UInt8)):OT eZ.Y:=
 let z0:aa:= {w0:=0,w1:=0,w2:=0,w3:=0}
 let z1:aa×aa×Bool:=(z0,z0,false)
 let z2:Int×Int×List (aa×aa×Bool)×(aa×aa×Bool)×aa×aa×Bool:=((0:Int),(0:Int),[],z1,z1)
 let z3:(Int×Int×List UInt8×PUnit×PUnit×Int×Int×PUnit)×(Int×Int×List (aa×aa×Bool)×(aa×aa×Bool)×(aa×aa×Bool)×PUnit)×List (aa×aa×Bool)×PUnit:=((a0,a1,a2,(),(),T5 (1:Int) a1+(2:Int),(0:Int),()),((0:Int),(0:Int),[],z1,z1,()),[],())
 let z4:(PUnit×Int×PUnit)×(Int×Int×List (aa×aa×Bool)×(aa×aa×Bool)×(aa×aa×Bool)×PUnit)×PUnit:=g0_r z3
 let z5:=z4.snd.fst
 let z6:=z5.snd
 let z7:=z6.snd
 let z8:=z7.snd
 let z9:(Int×Int×PUnit×PUnit×PUnit)×(Int×Int×List (aa×aa×Bool)×(aa×aa×Bool)×(aa×aa×Bool)×PUnit)×List (aa×aa×Bool)×PUnit:=g0_0 z3
 let z10:=z9.fst
 let z11:=z10.snd.fst
 let z12:Int:=T5 (1:Int) z11
 let z13:Bool:=decide (z12=(0:Int))
 let z14:=z9.snd.snd.fst
 let z15:Nat:=List.length z14
 let z16:Bool:=inB z12 z15
 let z17:Nat:=Int.toNat z12
 let z18:Bool:=decide (z17<z15)
 let z19:Bool:=inR (z12+(1:Int))
 let z20:Bool:=inB (z12+(1:Int)) z15
 let z21:Nat:=Int.toNat (z12+(1:Int))
 let z22:Bool:=decide (z21<z15)
 let z23:=z10.fst
 let z24:(aa×aa×Bool)×aa×aa×Bool:=(List.getD z14 z17 z1,List.getD z14 z21 z1)
 let z25:Int:=(↑z15:Int)
 let z26:Bool:=decide (z12=z25)
 (.br (al a0)
 (.br (decide (a1<(0:Int)))
  (.ok ⟨fo,((z2,((60:Int),())),())⟩)
  (.br (decide ((5:Int)<a1))
   (.ok ⟨fo,((z2,((60:Int),())),())⟩)
   (gd [decide ((0:Int)<=a1),inR (T5 (1:Int) a1+(2:Int)),ok0 z3] (.br (c0_r z3)
    (.ok ⟨fo,(((z5.fst,z6.fst,z7.fst,z8.fst,z8.snd.fst),(z4.fst.snd.fst,())),())⟩)
    (gd [decide ((0:Int)<=z11)] (.br (z13&&z13)
     (gd [z16,z18,z19,z20,z22] (.ok ⟨fo,(((z23,z11,[],z24),((0:Int),())),())⟩))
     (.br (z26&&z26)
      (gd [z16,z18,z19,z20,z22] (.ok ⟨fo,(((z23,z11,z14,z24),((0:Int),())),())⟩))
      (gd [decide ((0:Int)<=z12)&&decide (z12<=z12)&&decide (z12<=z25),z16,z18,z19,z20,z22] (.ok ⟨fo,(((z23,z11,List.take z17 (List.drop 0 z14),z24),((0:Int),())),())⟩)))))))))
 (.ok ⟨fo,((z2,((40:Int),())),())⟩))
theorem asD (ok0:ba->Bool) (g0_r:ba->eR) (c0_r:ba->Bool) (g0_0:ba->gm) (x:vD) (Q:eZ.Y->Prop):wpf te pG (aO 0 (cg oJ 0 ok0 (oK g0_r c0_r g0_0)) av) 1000 Tryz.f31 (eZ.inp.inj x).tm (eZ.inp.inj x).hp (aIh eZ J8 Q) (λ_ _=>False)=(Ka ok0 g0_r c0_r g0_0 (x.1.1) (x.1.2.1) (x.1.2.2.1)).wpR Q:=by kernel_rfl
theorem XA (ok0:ba->Bool) (g0_r:ba->eR) (c0_r:ba->Bool) (g0_0:ba->gm) (h0:∀ s:ba,ok0 s=true->∃ m e,ao (kY) m s=some e/\(oK g0_r c0_r g0_0 s).run=some e) (pre:vD->Bool) (F:vD->OT eZ.Y) (hF:∀ (x:vD) oy,pre x=true->(F x).run=some oy->(Ka ok0 g0_r c0_r g0_0 (x.1.1) (x.1.2.1) (x.1.2.2.1)).run=some oy):ac Tryz.prog 31 (eZ.aI pre F):=
 ajy aq nB Cr (f:=31) (fn:=Tryz.f31) (c:=aj Tryz.f31) (by kernel_rfl) (by kernel_rfl) (by kernel_rfl) (S:=eZ) (k:=0) (by kernel_rfl) (λR hR=>(aB (c:=(aj Tryz.f31)) (by kernel_rfl) (id:=0) (by kernel_rfl) (aQ aq nB Cr (sh:=oJ) hR (xs:=P3) (aC (by kernel_rfl) (by kernel_rfl) hR) aL af (n:=1000) (T:=kY) (λs Q=>al3 s Q) (ok:=ok0) (f:=oK g0_r c0_r g0_0) h0) af)) (n:=1000) (sel:=J8) (λv o h=>by cases h;rfl) (pre:=pre) (F:=F) (T:=λx=>Ka ok0 g0_r c0_r g0_0 (x.1.1) (x.1.2.1) (x.1.2.2.1)) (λx Q=>asD ok0 g0_r c0_r g0_0 x Q) hF
def ye (c:Int) (b:List UInt8):Nat->Nat->List Pt->List Pt×Int
 |0,_,l=>(l,0)
 |n+1,i,l=>cond (!((fE c (i:Int) b).2==(0:Int))) (l,(fE c (i:Int) b).2) (ye c b n (i+1) (l++ [(fE c (i:Int) b).1]))
def rV (k:Int):Nat:=(T5 1 k).toNat
theorem ac2 {k:Int} (h0:¬k<0) (h5:¬5<k):T5 1 k=(rV k:Int)/\1<=rV k/\rV k<=32:=by
 have:k=0\/k=1\/k=2\/k=3\/k=4\/k=5:=by omega
 rcases this with rfl|rfl|rfl|rfl|rfl|rfl<;>decide
def ayE (c k:Int) (r:List Pt×Int):aGG×Int:=cond (!(r.2==(0:Int))) (Bf,r.2) ((c,k,r.1.take (rV k),r.1.getD (rV k) dk,r.1.getD (rV k+1) dk),0)
def pY (c k:Int) (b:List UInt8):aGG×Int:=cond (al c) (cond (decide (k<0)) (Bf,60) (cond (decide (5<k)) (Bf,60) (ayE c k (ye c b (rV k+2) 0 [])))) (Bf,40)
theorem HO {c:Int} {b:List UInt8}:∀ (n i:Nat) (l:List Pt),(!((ye c b n i l).2==(0:Int)))=false->(ye c b n i l).1.length=l.length+n
 |0,_,_,_=>rfl
 |n+1,i,l,h=>by
  unfold ye at h⊢
  cases hd: !((fE c (i:Int) b).2==(0:Int))
  ·rw [hd,cond_false] at h
   rw [cond_false,HO n (i+1) _ h,List.length_append]
   simp only [List.length_cons,List.length_nil]
   omega
  ·rw [hd] at h
   exact absurd (hd.symm.trans h) (by decide)
def J9 (s:ba):Bool:=decide (s.1.2.2.2.2.2.2.1=0/\0<=s.1.2.2.2.2.2.1/\s.1.2.2.2.2.2.1<=34/\s.2.2.1= []/\s.1.2.2.1.length<=140737488351232)
def sZ (s:ba):List Pt×Int:=ye s.1.1 s.1.2.2.1 s.1.2.2.2.2.2.1.toNat 0 []
def vB (s:ba):eR:=(((),(sZ s).2,()),((0,0,[],dk,dk,()),()))
def A3 (s:ba):Bool:= !((sZ s).2==(0:Int))
def vC (s:ba):gm:=((s.1.1,s.1.2.1,(),(),()),(s.2.1,(sZ s).1,()))
abbrev aGX:Type:=Int×Int×List Pt×Pt×Pt×Unit
def aI6 (c k:Int) (p:aGX) (r:List Pt×Int):aE:=cond (!(r.2==(0:Int))) ⟨(.ret,j5),((((),r.2,()),((0,0,[],dk,dk,()),())):eR)⟩ ⟨(.exit 0,m4),(((c,k,(),(),()),(p,r.1,())):gm)⟩
theorem aqP {c k:Int} {b:List UInt8} {p:aGX} {N:Nat} (hN:N<=34) (hl:b.length<=140737488351232):∀ (n i:Nat) (l:List Pt),i+n=N->l.length=i->∃ m,ao kY m ((c,k,b,(),(),(N:Int),(i:Int),()),(p,l,()))=some (aI6 c k p (ye c b n i l))
 |0,i,l,hi,_=>⟨1,aM (OT.ar (decide_eq_false (by dsimp only;omega)))⟩
 |n+1,i,l,hi,hk=>by
  have hstep:(kY ((c,k,b,(),(),(N:Int),(i:Int),()),(p,l,()))).run=(OT.br (!((fE c (i:Int) b).2==(0:Int))) (.ok (.inr ⟨(.ret,j5),((((),(fE c (i:Int) b).2,()),((0,0,[],dk,dk,()),())):eR)⟩))
   (gd [decide ((l.length+1)*72<=140737488355328),inR ((i:Int)+1)] (.ok (.inl ((c,k,b,(),(),(N:Int),(i:Int)+1,()),(p,l++ [(fE c (i:Int) b).1],()))))):OT (Sum ba aE)).run:=
   (OT.ap (decide_eq_true (by dsimp only;omega))).trans ((ah (by simp only [List.all_cons,List.all_nil,Bool.and_true];exact decide_eq_true hl)).trans rfl)
  unfold ye
  cases hd: !((fE c (i:Int) b).2==(0:Int))
  ·obtain ⟨m,hm⟩:=aqP (c:=c) (k:=k) (p:=p) hN hl n (i+1) (l++ [(fE c (i:Int) b).1]) (by omega) (by rw [List.length_append];simp only [List.length_cons,List.length_nil];omega)
   refine ⟨m+1,aF (hstep.trans ((OT.ar hd).trans ((ah ?_).trans rfl))) hm⟩
   simp only [List.all_cons,List.all_nil,Bool.and_true,Bool.and_eq_true]
   exact ⟨decide_eq_true (by omega),aH (by omega)⟩
  ·refine ⟨1,aM (hstep.trans ((OT.ap hd).trans ?_))⟩
   unfold aI6
   rw [cond_true]
   dsimp only
   rw [hd]
   rfl
theorem al5:∀ s:ba,J9 s=true->∃ m e,ao kY m s=some e/\(oK vB A3 vC s).run=some e:=by
 rintro ⟨⟨c,k,b,⟨⟩,⟨⟩,n,i,⟨⟩⟩,⟨p,l,⟨⟩⟩⟩ h
 have h':=of_decide_eq_true h
 dsimp only at h'
 obtain ⟨rfl,h0,h1,rfl,hl⟩:=h'
 obtain ⟨N,rfl⟩:∃ N:Nat,n=(N:Int):=⟨n.toNat,by omega⟩
 obtain ⟨m,hm⟩:=aqP (c:=c) (k:=k) (p:=p) (N:=N) (by omega) hl N 0 [] (by omega) rfl
 refine ⟨m,_,hm,?_⟩
 have e:sZ ((c,k,b,(),(),(N:Int),0,()),(p,[],()))=ye c b N 0 []:=rfl
 unfold oK A3 vB vC aI6
 rw [e]
 generalize ye c b N 0 []=r
 cases hd: !(r.2==(0:Int))
 ·rfl
 ·rfl
def yC (x:vD):Bool:=decide (x.1.2.2.1.length<=140737488351232)
def XB (x:vD):OT eZ.Y:=.ok ⟨fo,(((pY x.1.1 x.1.2.1 x.1.2.2.1).1,((pY x.1.1 x.1.2.1 x.1.2.2.1).2,())),())⟩
theorem al4:ac Tryz.prog 31 (eZ.aI yC XB):=XA J9 vB A3 vC al5 _ _ λx oy hp ho=>by
 rw [<-ho]
 clear ho
 obtain ⟨⟨c,k,b,⟨⟩⟩,⟨⟩⟩:=x
 have hl:b.length<=140737488351232:=of_decide_eq_true hp
 show _=some (⟨fo,(((pY c k b).1,((pY c k b).2,())),())⟩:eZ.Y)
 rcases (Bool.eq_false_or_eq_true (al c)).symm with hs|hs
 ·rw [show pY c k b=(Bf,40) from by unfold pY;rw [hs];rfl]
  exact OT.ar hs
 refine (OT.ap hs).trans ?_
 by_cases h0:k<0
 ·rw [show pY c k b=(Bf,60) from by unfold pY;rw [hs,decide_eq_true h0];rfl]
  exact OT.ap (decide_eq_true h0)
 refine (OT.ar (decide_eq_false h0)).trans ?_
 by_cases h5:5<k
 ·rw [show pY c k b=(Bf,60) from by unfold pY;rw [hs,decide_eq_false h0,decide_eq_true h5];rfl]
  exact OT.ap (decide_eq_true h5)
 rw [show pY c k b=ayE c k (ye c b (rV k+2) 0 []) from by unfold pY;rw [hs,decide_eq_false h0,decide_eq_false h5];rfl]
 obtain ⟨hN,hn1,hn2⟩:=ac2 h0 h5
 refine (OT.ar (decide_eq_false h5)).trans ?_
 have hlen:=HO (c:=c) (b:=b) (rV k+2) 0 []
 unfold A3 vB vC sZ ayE
 dsimp only
 generalize rV k=N at*
 rw [hN]
 rw [show ((N:Int)+2).toNat=N+2 by omega]
 generalize ye c b (N+2) 0 []=r at*
 refine (ah ?_).trans ?_
 ·simp only [List.all_cons,List.all_nil,Bool.and_true,Bool.and_eq_true]
  exact ⟨decide_eq_true (by omega),aH (by omega),decide_eq_true ⟨rfl,by dsimp only;omega,by dsimp only;omega,rfl,hl⟩⟩
 cases hd: !(r.2==(0:Int))
 ·have hlen:=hlen hd
  simp only [List.length_nil] at hlen
  have hlen:r.1.length=N+2:=by omega
  rw [show ((N:Int)+1).toNat=N+1 by omega,hlen]
  refine (OT.ar rfl).trans ((ah (by simp only [List.all_cons,List.all_nil,Bool.and_true];exact decide_eq_true (by omega))).trans ((OT.ar (by rw [decide_eq_false (by omega)];rfl)).trans ((OT.ar (by rw [decide_eq_false (by omega)];rfl)).trans ((ah ?_).trans rfl))))
  simp only [List.all_cons,List.all_nil,Bool.and_true,Bool.and_eq_true]
  exact ⟨⟨⟨decide_eq_true (by omega),decide_eq_true (by omega)⟩,decide_eq_true (by omega)⟩,aN (by omega),decide_eq_true (by omega),aH (by omega),aN (by omega),decide_eq_true (by omega)⟩
 ·exact (OT.ap rfl).trans rfl
def sY:cj:=(YC 2 (eZ.aI yC XB))
theorem Ti:ac Tryz.prog 31 sY:=(at0 al4)
theorem Th:aG sY:=(adT aA)
def pP:Env:=ay 31 sY pG
theorem nH:aR Tryz.prog pP:=ag Ti nB
theorem xM:ax pP:=ae Th xF
theorem CJ:aW Tryz.prog te pP:=aK follows aq nH xM
def gG:aw:=⟨[.val false .int,.val false .int,.val false (.list .u8)],[],false,0,false⟩
def il:az:=⟨[.val true aIV,.val false .int],[],false⟩
def Pd:SV->Option az:=λ_=>some il
def aHH:CSh:=.cells [.val false .int,.val false .int,.own 2,.val false (.prod .elem (.prod .elem .bool)),.val false (.prod .elem (.prod .elem .bool))]
def se:Shape:=⟨75,[(0,.val false .int),(2,.val false (.list .u8)),(6,.ptr 0 0 0),(8,.val false .int),(9,.ptr 1 0 0),(10,.val false .int)],[(0,XV),(1,aHH),(2,.row (.prod .elem (.prod .elem .bool)))],0,true⟩
def lz:Shape:=⟨75,[(6,.ptr 0 0 0),(7,.val false .int)],[(0,XV)],0,true⟩
def qi:Shape:=⟨75,[(6,.ptr 0 0 0),(8,.val false .int),(9,.ptr 1 0 0)],[(0,XV),(1,aHH),(2,.row (.prod .elem (.prod .elem .bool)))],0,true⟩
abbrev DG:Type:=((Int)×(Int)×(List (UInt8))×Unit)×(Unit)
abbrev bm:Type:=((Int)×(List (UInt8))×(Unit)×(Int)×(Unit)×(Int)×Unit)×(((Int)×(Int)×(List ((aa×(aa×Bool))))×((aa×(aa×Bool)))×((aa×(aa×Bool)))×Unit)×((Int)×(Int)×(Unit)×((aa×(aa×Bool)))×((aa×(aa×Bool)))×Unit)×(List ((aa×(aa×Bool))))×Unit)
abbrev fG:Type:=((Unit)×(Int)×Unit)×(((Int)×(Int)×(List ((aa×(aa×Bool))))×((aa×(aa×Bool)))×((aa×(aa×Bool)))×Unit)×Unit)
abbrev gW:Type:=((Unit)×(Int)×(Unit)×Unit)×(((Int)×(Int)×(List ((aa×(aa×Bool))))×((aa×(aa×Bool)))×((aa×(aa×Bool)))×Unit)×((Int)×(Int)×(Unit)×((aa×(aa×Bool)))×((aa×(aa×Bool)))×Unit)×(List ((aa×(aa×Bool))))×Unit)
def Wm:SE->Option Shape:=fw [(0,qi)] (some lz)
def aq1 (a0:Int) (a2:List (UInt8)) (a8:Int) (a10:Int) (c0_0:Int) (c0_1:Int) (c0_2:List ((aa×(aa×Bool)))) (c0_3:(aa×(aa×Bool))) (c0_4:(aa×(aa×Bool))) (c1_0:Int) (c1_1:Int) (c1_3:(aa×(aa×Bool))) (c1_4:(aa×(aa×Bool))) (c2:List ((aa×(aa×Bool)))):OT (Sum bm aE):=
 let z0:(aa×aa×Bool)×Int:=fE a0 a10 a2
 let z1:=z0.snd
 let z2:aa:= {w0:=0,w1:=0,w2:=0,w3:=0}
 let z3:aa×aa×Bool:=(z2,z2,false)
 (gd [inR (a8+(2:Int))] (.br (decide (a10<a8+(2:Int)))
 (gd [yl ((a0,a10,a2,()),())] (.br (!z1==(0:Int))
  (.ok (.inr ⟨(.ret,lz),(((),(z1,())),(((0:Int),((0:Int),([],(z3,(z3,()))))),()))⟩))
  (gd [decide ((List.length c2+1)*72<=140737488355328),inR (a10+(1:Int))] (.ok (.inl ((a0,(a2,((),(a8,((),(a10+(1:Int),())))))),((c0_0,(c0_1,(c0_2,(c0_3,(c0_4,()))))),((c1_0,(c1_1,((),(c1_3,(c1_4,()))))),(c2++ [z0.fst],())))))))))
 (.ok (.inr ⟨(.exit 0,qi),(((),(a8,((),()))),((c0_0,(c0_1,(c0_2,(c0_3,(c0_4,()))))),((c1_0,(c1_1,((),(c1_3,(c1_4,()))))),(c2,()))))⟩))))
def n3 (s:bm):OT (Sum bm aE):=aq1 (s.1.1) (s.1.2.1) (s.1.2.2.2.1) (s.1.2.2.2.2.2.1) (s.2.1.1) (s.2.1.2.1) (s.2.1.2.2.1) (s.2.1.2.2.2.1) (s.2.1.2.2.2.2.1) (s.2.2.1.1) (s.2.2.1.2.1) (s.2.2.1.2.2.2.1) (s.2.2.1.2.2.2.2.1) (s.2.2.2.1)
theorem aqY (s:bm) (Q:Sum bm aE->Prop):wps te pP av 1000 (aU (aj Tryz.f33) 0) (se.inj s) (bX se Wm (Q:Sum se.T aE->Prop))=(n3 s).wpR Q:=by kernel_rfl
def sf (g0_r:bm->fG) (c0_r:bm->Bool) (g0_0:bm->gW) (s:bm):OT aE:=(.br (c0_r s) (.ok ⟨(.ret,lz),g0_r s⟩) (.ok ⟨(.exit 0,qi),g0_0 s⟩))
def Sl (ok0:bm->Bool) (g0_r:bm->fG) (c0_r:bm->Bool) (g0_0:bm->gW) (a0:Int) (a1:Int) (a2:List (UInt8)):OT gG.Y:=
 let z0:aa:= {w0:=0,w1:=0,w2:=0,w3:=0}
 let z1:aa×aa×Bool:=(z0,z0,false)
 let z2:Int×Int×List (aa×aa×Bool)×(aa×aa×Bool)×aa×aa×Bool:=((0:Int),(0:Int),[],z1,z1)
 let z3:(aa×aa×Bool)×(aa×aa×Bool)×PUnit:=(z1,z1,())
 let z4:(Int×List UInt8×PUnit×Int×PUnit×Int×PUnit)×(Int×Int×List (aa×aa×Bool)×(aa×aa×Bool)×(aa×aa×Bool)×PUnit)×(Int×Int×PUnit×(aa×aa×Bool)×(aa×aa×Bool)×PUnit)×List (aa×aa×Bool)×PUnit:=((a0,a2,(),T5 (1:Int) (↑(UInt64.toNat (i2u a1)):Int),(),(0:Int),()),((0:Int),(0:Int),[],z3),(a0,a1,(),z3),[],())
 let z5:(PUnit×Int×PUnit)×(Int×Int×List (aa×aa×Bool)×(aa×aa×Bool)×(aa×aa×Bool)×PUnit)×PUnit:=g0_r z4
 let z6:=z5.snd.fst
 let z7:=z6.snd
 let z8:=z7.snd
 let z9:=z8.snd
 let z10:(PUnit×Int×PUnit×PUnit)×(Int×Int×List (aa×aa×Bool)×(aa×aa×Bool)×(aa×aa×Bool)×PUnit)×(Int×Int×PUnit×(aa×aa×Bool)×(aa×aa×Bool)×PUnit)×List (aa×aa×Bool)×PUnit:=g0_0 z4
 let z11:=z10.fst.snd.fst
 let z12:=z10.snd.snd
 let z13:=z12.snd.fst
 let z14:Nat:=List.length z13
 let z15:Nat:=Int.toNat z11
 let z16:Nat:=Int.toNat (z11+(1:Int))
 let z17:=z12.fst
 (.br (decide (a0<(0:Int)))
 (.ok ⟨il,((z2,((40:Int),())),())⟩)
 (.br (decide ((3:Int)<a0))
  (.ok ⟨il,((z2,((40:Int),())),())⟩)
  (.br (decide (a1<(0:Int)))
   (.ok ⟨il,((z2,((60:Int),())),())⟩)
   (.br (decide ((5:Int)<a1))
    (.ok ⟨il,((z2,((60:Int),())),())⟩)
    (gd [ok0 z4] (.br (c0_r z4)
     (.ok ⟨il,(((z6.fst,z7.fst,z8.fst,z9.fst,z9.snd.fst),(z5.fst.snd.fst,())),())⟩)
     (gd [inB z11 z14,decide (z15<z14),inR (z11+(1:Int)),inB (z11+(1:Int)) z14,decide (z16<z14),dz (0:Int) z11 z14] (.ok ⟨il,(((z17.fst,z17.snd.fst,List.take (Int.toNat (z11-(0:Int))) (List.drop 0 z13),List.getD z13 z15 z1,List.getD z13 z16 z1),((0:Int),())),())⟩))))))))
theorem ayN (ok0:bm->Bool) (g0_r:bm->fG) (c0_r:bm->Bool) (g0_0:bm->gW) (x:DG) (Q:gG.Y->Prop):wpf te pP (aO 0 (cg se 0 ok0 (sf g0_r c0_r g0_0)) av) 1000 Tryz.f33 (gG.inp.inj x).tm (gG.inp.inj x).hp (aIh gG Pd Q) (λ_ _=>False)=(Sl ok0 g0_r c0_r g0_0 (x.1.1) (x.1.2.1) (x.1.2.2.1)).wpR Q:=by kernel_rfl
theorem abH (ok0:bm->Bool) (g0_r:bm->fG) (c0_r:bm->Bool) (g0_0:bm->gW) (h0:∀ s:bm,ok0 s=true->∃ m e,ao (n3) m s=some e/\(sf g0_r c0_r g0_0 s).run=some e) (pre:DG->Bool) (F:DG->OT gG.Y) (hF:∀ (x:DG) oy,pre x=true->(F x).run=some oy->(Sl ok0 g0_r c0_r g0_0 (x.1.1) (x.1.2.1) (x.1.2.2.1)).run=some oy):ac Tryz.prog 33 (gG.aI pre F):=
 ajy aq nH CJ (f:=33) (fn:=Tryz.f33) (c:=aj Tryz.f33) (by kernel_rfl) (by kernel_rfl) (by kernel_rfl) (S:=gG) (k:=0) (by kernel_rfl) (λR hR=>(aB (c:=(aj Tryz.f33)) (by kernel_rfl) (id:=0) (by kernel_rfl) (aQ aq nH CJ (sh:=se) hR (xs:=Wm) (aC (by kernel_rfl) (by kernel_rfl) hR) aL af (n:=1000) (T:=n3) (λs Q=>aqY s Q) (ok:=ok0) (f:=sf g0_r c0_r g0_0) h0) af)) (n:=1000) (sel:=Pd) (λv o h=>by cases h;rfl) (pre:=pre) (F:=F) (T:=λx=>Sl ok0 g0_r c0_r g0_0 (x.1.1) (x.1.2.1) (x.1.2.2.1)) (λx Q=>ayN ok0 g0_r c0_r g0_0 x Q) hF
theorem arq {k:Int} (h0:¬k<0) (h5:¬5<k):T5 1 ((UInt64.toNat (i2u k):Nat):Int)=(rV k:Int):=by
 have:k=0\/k=1\/k=2\/k=3\/k=4\/k=5:=by omega
 rcases this with rfl|rfl|rfl|rfl|rfl|rfl<;>decide
def Pf (s:bm):Bool:=decide (s.1.2.2.2.2.2.1=0/\0<=s.1.2.2.2.1/\s.1.2.2.2.1<=32/\s.2.2.2.1= []/\s.1.2.1.length<=100000000000)
def Aq (s:bm):List Pt×Int:=ye s.1.1 s.1.2.1 (s.1.2.2.2.1.toNat+2) 0 []
def Ar (s:bm):fG:=(((),(Aq s).2,()),((0,0,[],dk,dk,()),()))
def HR (s:bm):Bool:= !((Aq s).2==(0:Int))
def As (s:bm):gW:=(((),s.1.2.2.2.1,(),()),(s.2.1,s.2.2.1,(Aq s).1,()))
abbrev aIK:Type:=Int×Int×Unit×Pt×Pt×Unit
def aEj (N:Int) (p:aGX) (q:aIK) (r:List Pt×Int):aE:=cond (!(r.2==(0:Int))) ⟨(.ret,lz),((((),r.2,()),((0,0,[],dk,dk,()),())):fG)⟩ ⟨(.exit 0,qi),((((),N,(),()),(p,q,r.1,())):gW)⟩
theorem ah1 {c:Int} {b:List UInt8} {p:aGX} {q:aIK} {N:Nat} (hN:N<=32) (hl:b.length<=100000000000):∀ (n i:Nat) (l:List Pt),i+n=N+2->l.length=i->∃ m,ao n3 m ((c,b,(),(N:Int),(),(i:Int),()),(p,q,l,()))=some (aEj (N:Int) p q (ye c b n i l))
 |0,i,l,hi,_=>⟨1,aM ((ah (by simp only [List.all_cons,List.all_nil,Bool.and_true];exact aH (by omega))).trans (OT.ar (decide_eq_false (by dsimp only;omega))))⟩
 |n+1,i,l,hi,hk=>by
  have hstep:(n3 ((c,b,(),(N:Int),(),(i:Int),()),(p,q,l,()))).run=(OT.br (!((fE c (i:Int) b).2==(0:Int))) (.ok (.inr ⟨(.ret,lz),((((),(fE c (i:Int) b).2,()),((0,0,[],dk,dk,()),())):fG)⟩))
   (gd [decide ((l.length+1)*72<=140737488355328),inR ((i:Int)+1)] (.ok (.inl ((c,b,(),(N:Int),(),(i:Int)+1,()),(p,q,l++ [(fE c (i:Int) b).1],()))))):OT (Sum bm aE)).run:=
   (ah (by simp only [List.all_cons,List.all_nil,Bool.and_true];exact aH (by omega))).trans ((OT.ap (decide_eq_true (by dsimp only;omega))).trans ((ah (by simp only [List.all_cons,List.all_nil,Bool.and_true];exact decide_eq_true hl)).trans rfl))
  unfold ye
  cases hd: !((fE c (i:Int) b).2==(0:Int))
  ·obtain ⟨m,hm⟩:=ah1 (c:=c) (p:=p) (q:=q) hN hl n (i+1) (l++ [(fE c (i:Int) b).1]) (by omega) (by rw [List.length_append];simp only [List.length_cons,List.length_nil];omega)
   refine ⟨m+1,aF (hstep.trans ((OT.ar hd).trans ((ah ?_).trans rfl))) hm⟩
   simp only [List.all_cons,List.all_nil,Bool.and_true,Bool.and_eq_true]
   exact ⟨decide_eq_true (by omega),aH (by omega)⟩
  ·refine ⟨1,aM (hstep.trans ((OT.ap hd).trans ?_))⟩
   unfold aEj
   rw [cond_true]
   dsimp only
   rw [hd]
   rfl
theorem aq0:∀ s:bm,Pf s=true->∃ m e,ao n3 m s=some e/\(sf Ar HR As s).run=some e:=by
 rintro ⟨⟨c,b,⟨⟩,n,⟨⟩,i,⟨⟩⟩,⟨p,⟨q1,q2,⟨⟩,q3,q4,⟨⟩⟩,l,⟨⟩⟩⟩ h
 have h':=of_decide_eq_true h
 dsimp only at h'
 obtain ⟨rfl,h0,h1,rfl,hl⟩:=h'
 obtain ⟨N,rfl⟩:∃ N:Nat,n=(N:Int):=⟨n.toNat,by omega⟩
 obtain ⟨m,hm⟩:=ah1 (c:=c) (p:=p) (q:=(q1,q2,(),q3,q4,())) (N:=N) (by omega) hl (N+2) 0 [] (by omega) rfl
 refine ⟨m,_,hm,?_⟩
 have e:Aq ((c,b,(),(N:Int),(),0,()),(p,(q1,q2,(),q3,q4,()),[],()))=ye c b (N+2) 0 []:=rfl
 unfold sf HR Ar As aEj
 rw [e]
 generalize ye c b (N+2) 0 []=r
 cases hd: !(r.2==(0:Int))
 ·rfl
 ·rfl
def Pe (x:DG):Bool:=decide (x.1.2.2.1.length<=100000000000)
def ah0 (x:DG):OT gG.Y:=.ok ⟨il,(((pY x.1.1 x.1.2.1 x.1.2.2.1).1,((pY x.1.1 x.1.2.1 x.1.2.2.1).2,())),())⟩
theorem aqZ:ac Tryz.prog 33 (gG.aI Pe ah0):=abH Pf Ar HR As aq0 _ _ λx oy hp ho=>by
 rw [<-ho]
 clear ho
 obtain ⟨⟨c,k,b,⟨⟩⟩,⟨⟩⟩:=x
 have hl:b.length<=100000000000:=of_decide_eq_true hp
 show _=some (⟨il,(((pY c k b).1,((pY c k b).2,())),())⟩:gG.Y)
 rcases (Bool.eq_false_or_eq_true (decide (c<0))).symm with hc|hc
 case inr=>
  have hs:al c=false:=by rw [u4,hc];rfl
  rw [show pY c k b=(Bf,40) from by unfold pY;rw [hs];rfl]
  exact OT.ap hc
 refine (OT.ar hc).trans ?_
 rcases (Bool.eq_false_or_eq_true (decide (3<c))).symm with hd|hd
 case inr=>
  have hs:al c=false:=by rw [u4,hd];simp
  rw [show pY c k b=(Bf,40) from by unfold pY;rw [hs];rfl]
  exact OT.ap hd
 have hs:al c=true:=by rw [u4,hc,hd];rfl
 refine (OT.ar hd).trans ?_
 by_cases h0:k<0
 ·rw [show pY c k b=(Bf,60) from by unfold pY;rw [hs,decide_eq_true h0];rfl]
  exact OT.ap (decide_eq_true h0)
 refine (OT.ar (decide_eq_false h0)).trans ?_
 by_cases h5:5<k
 ·rw [show pY c k b=(Bf,60) from by unfold pY;rw [hs,decide_eq_false h0,decide_eq_true h5];rfl]
  exact OT.ap (decide_eq_true h5)
 rw [show pY c k b=ayE c k (ye c b (rV k+2) 0 []) from by unfold pY;rw [hs,decide_eq_false h0,decide_eq_false h5];rfl]
 have hN:=arq h0 h5
 obtain ⟨_,hn1,hn2⟩:=ac2 h0 h5
 refine (OT.ar (decide_eq_false h5)).trans ?_
 have hlen:=HO (c:=c) (b:=b) (rV k+2) 0 []
 unfold HR Ar As Aq ayE
 dsimp only
 generalize rV k=N at*
 rw [hN]
 rw [Int.toNat_natCast]
 generalize ye c b (N+2) 0 []=r at*
 refine (ah ?_).trans ?_
 ·simp only [List.all_cons,List.all_nil,Bool.and_true,Bool.and_eq_true]
  exact decide_eq_true ⟨rfl,by dsimp only;omega,by dsimp only;omega,rfl,hl⟩
 cases hd: !(r.2==(0:Int))
 ·have hlen:=hlen hd
  simp only [List.length_nil] at hlen
  have hlen:r.1.length=N+2:=by omega
  rw [show ((N:Int)+1).toNat=N+1 by omega,show ((N:Int)-0).toNat=N by omega,hlen]
  refine (OT.ar rfl).trans ((ah ?_).trans rfl)
  simp only [List.all_cons,List.all_nil,Bool.and_true,Bool.and_eq_true]
  exact ⟨aN (by omega),decide_eq_true (by omega),aH (by omega),aN (by omega),decide_eq_true (by omega),fv (by omega)⟩
 ·exact (OT.ap rfl).trans rfl
def yg:cj:=(gG.aI Pe ah0)
theorem Wo:ac Tryz.prog 33 yg:=aqZ
theorem Wn:aG yg:=aA
def Cp:Env:=ay 33 yg pP
theorem zq:aR Tryz.prog Cp:=ag Wo nH
theorem Vq:ax Cp:=ae Wn xM
theorem GS:aW Tryz.prog te Cp:=aK follows aq zq Vq
end Go.Proofs.YtohjofabochgfaaGreat

namespace Go.Proofs.YtohjofabochgfaaGreat
open Sx Go
theorem ffP {P:Prop} (h:false=true):P:=nomatch h
theorem ftP {P:Prop} (h:true=false):P:=nomatch h
theorem aF9 {s:Int} {b:List UInt8} (hs:al s=true) (h0:((Oa s b).2==(0:Int))=true) (hi:(Oa s b).1.2.2=false):onB s (Oa s b).1=true:=by
 have hv:Oa s b=cond (fA b) (cond (Nat.blt (Oy b).nat (pS s)) (cond (bQ (Oy b)) (cond (Gu b) (dk,41) (cB,0)) (cond (sqB s (Oy b)) (ptD s (Oy b) (Gu b),0) (dk,41))) (dk,41)) (dk,41):=by
  unfold Oa
  rw [hs]
  rfl
 rw [hv] at h0 hi⊢
 clear hv
 generalize Oy b=N at*
 cases h1:fA b
 ·rw [h1] at h0;exact ffP h0
 rw [h1,cond_true] at h0 hi
 rw [cond_true]
 cases h2:Nat.blt N.nat (pS s)
 ·rw [h2] at h0;exact ffP h0
 rw [h2,cond_true] at h0 hi
 rw [cond_true]
 cases h3:bQ N
 ·rw [h3,cond_false] at h0 hi
  rw [cond_false]
  cases h4:sqB s N
  ·rw [h4] at h0;exact ffP h0
  ·rw [cond_true]
   exact (aq8 hs (dy h2) h4 _).1
 ·rw [h3,cond_true] at h0 hi
  cases h4:Gu b
  ·rw [h4] at hi;exact ftP hi
  ·rw [h4] at h0;exact ffP h0
theorem aF8 {c:Int} {B:List UInt8} {k:Nat} (hs:al c=true) (h:UE (Il c B k)=true):MD c (Il c B k).1=false:=by
 unfold UE at h
 cases h0:((Il c B k).2==(0:Int))
 ·rw [h0] at h;exact ffP h
 ·rw [h0,cond_true] at h
  have hi:(Il c B k).1.2.2=false:=by
   cases hq:(Il c B k).1.2.2
   ·rfl
   ·exact ffP (show false=true by rw [hq] at h;exact h)
  unfold MD
  rw [hi,cond_false]
  have:=aF9 (s:=c) (b:=VO (ofN ((VZ c (mu ES 64 (B++ [i2b (k:Int)]))).nat%(aX c.toNat).1.nat))) hs h0 hi
  rw [show onB c (Il c B k).1=true from this]
  rfl
theorem Zg {c:Int} {B:List UInt8} {p:Pt}:∀ n k,N9 c B n k=some p->∃ j,UE (Il c B j)=true/\p=(Il c B j).1
 |0,k,h=>by cases h
 |n+1,k,h=>by
  unfold N9 at h
  cases hg:UE (Il c B k)
  ·rw [hg] at h;exact Zg n (k+1) h
  ·rw [hg] at h
   cases h
   exact ⟨k,hg,rfl⟩
theorem auS {c i:Int} {b:List UInt8} (h:((fE c i b).2==(0:Int))=true):al c=true/\∃ j,UE (Il c (Dr b i) j)=true/\(fE c i b).1=(Il c (Dr b i) j).1:=by
 unfold fE at h⊢
 cases hs:al c
 ·rw [hs] at h;exact ffP h
 rw [hs,cond_true] at h
 rw [cond_true]
 refine ⟨rfl,?_⟩
 cases h1:decide (i<0)
 ·rw [h1,cond_false] at h
  rw [cond_false]
  cases h2:decide (2147483647<i)
  ·rw [h2,cond_false] at h
   rw [cond_false]
   cases hN:N9 c (Dr b i) 256 0 with
   |none=>rw [hN] at h;exact ffP h
   |some p=>
    obtain ⟨j,hg,rfl⟩:=Zg 256 0 hN
    exact ⟨j,hg,rfl⟩
  ·rw [h2] at h;exact ffP h
 ·rw [h1] at h;exact ffP h
theorem auT {c i:Int} {b:List UInt8} (h:((fE c i b).2==(0:Int))=true):MD c (fE c i b).1=false:=by
 obtain ⟨hs,j,hg,e⟩:=auS h
 rw [e]
 exact aF8 hs hg
theorem aAz (c i:Int) (b:List UInt8):(fE c i b).2=0\/(fE c i b).2=40\/(fE c i b).2=60\/(fE c i b).2=90:=by
 unfold fE
 cases al c
 ·exact .inr (.inl rfl)
 cases decide (i<0)
 ·cases decide (2147483647<i)
  ·cases N9 c (Dr b i) 256 0
   ·exact .inr (.inr (.inr rfl))
   ·exact .inl rfl
  ·exact .inr (.inr (.inl rfl))
 ·exact .inr (.inr (.inl rfl))
theorem ahV {c:Int} {b:List UInt8}:∀ (n i:Nat) (l:List Pt),l.length=i->(∀ j,j<i->((fE c (j:Int) b).2==(0:Int))=true/\l.getD j dk=(fE c (j:Int) b).1)->(!((ye c b n i l).2==(0:Int)))=false->
 ∀ j,j<i+n->((fE c (j:Int) b).2==(0:Int))=true/\(ye c b n i l).1.getD j dk=(fE c (j:Int) b).1
 |0,_,_,_,h,_=>h
 |n+1,i,l,hk,h,he=>by
  unfold ye at he⊢
  cases hd: !((fE c (i:Int) b).2==(0:Int))
  ·rw [hd,cond_false] at he
   rw [cond_false]
   intro j hj
   refine ahV n (i+1) (l++ [(fE c (i:Int) b).1]) (by rw [List.length_append];simp only [List.length_cons,List.length_nil];omega) (λj hj=> ?_) he j (by omega)
   by_cases hji:j<i
   ·rw [List.getD_eq_getElem?_getD,List.getElem?_append_left (by omega),<-List.getD_eq_getElem?_getD]
    exact h j hji
   ·have:j=i:=by omega
    subst this
    refine ⟨?_,?_⟩
    ·rw [<-Bool.not_not ((fE c (j:Int) b).2==(0:Int)),hd]
     rfl
    ·rw [List.getD_eq_getElem?_getD,List.getElem?_append_right (by omega),show j-l.length=0 by omega]
     rfl
  ·rw [hd] at he
   exact absurd (hd.symm.trans he) (by decide)
theorem aqR {c k:Int} {b:List UInt8} (h:(!((pY c k b).2==(0:Int)))=false):∃ l:List Pt,al c=true/\¬k<0/\¬5<k/\l.length=rV k+2/\(∀ j,j<rV k+2->((fE c (j:Int) b).2==(0:Int))=true/\l.getD j dk=(fE c (j:Int) b).1)/\
 pY c k b=((c,k,l.take (rV k),l.getD (rV k) dk,l.getD (rV k+1) dk),0):=by
 unfold pY at h⊢
 cases hs:al c
 ·rw [hs] at h;exact ftP h
 rw [hs,cond_true] at h
 rw [cond_true]
 by_cases h0:k<0
 ·rw [decide_eq_true h0] at h;exact ftP h
 rw [decide_eq_false h0,cond_false] at h⊢
 by_cases h5:5<k
 ·rw [decide_eq_true h5] at h;exact ftP h
 rw [decide_eq_false h5,cond_false] at h⊢
 unfold ayE at h⊢
 have h1:=HO (c:=c) (b:=b) (rV k+2) 0 []
 have h2:=ahV (c:=c) (b:=b) (rV k+2) 0 [] rfl (λj hj=>by omega)
 generalize ye c b (rV k+2) 0 []=r at*
 cases hr: !(r.2==(0:Int))
 ·refine ⟨r.1,rfl,h0,h5,?_,λj hj=>h2 hr j (by omega),rfl⟩
  have:=h1 hr
  simp only [List.length_nil] at this
  omega
 ·rw [hr,cond_true] at h
  rw [show (Bf,r.2).2=r.2 from rfl] at h
  exact absurd (hr.symm.trans h) (by decide)
theorem ayG {c k:Int} {b:List UInt8} (h:(!((pY c k b).2==(0:Int)))=true):(pY c k b).1=Bf:=by
 unfold pY at h⊢
 cases hs:al c
 ·rfl
 rw [hs,cond_true] at h
 rw [cond_true]
 by_cases h0:k<0
 ·rw [decide_eq_true h0];rfl
 rw [decide_eq_false h0,cond_false] at h⊢
 by_cases h5:5<k
 ·rw [decide_eq_true h5];rfl
 rw [decide_eq_false h5,cond_false] at h⊢
 unfold ayE at h⊢
 generalize ye c b (rV k+2) 0 []=r at*
 cases hr: !(r.2==(0:Int))
 ·rw [hr] at h;exact ffP h
 ·rfl
end Go.Proofs.YtohjofabochgfaaGreat

namespace Go.Proofs.YtohjofabochgfaaGreat
open Sx Go
def avt (w:UInt64) (k:Nat):UInt8:=UInt64.toUInt8 (bf w ((8*k:Nat):Int))
theorem avs (w:UInt64) {k:Nat} (hk:k<8):(avt w k).toNat=w.toNat/2^(8*k)%256:=by
 have h:=I0 w ((8*k:Nat):Int) (by omega)
 unfold avt
 rw [Int.toNat_natCast,show min (8*k) 64=8*k by omega] at h
 have e:(bf w ((8*k:Nat):Int)).toNat=w.toNat/2^(8*k):=by
  have h2:((w.toNat:Int).fdiv (2^(8*k)))=((w.toNat/2^(8*k):Nat):Int):=by
   rw [Int.fdiv_eq_ediv_of_nonneg _ (by exact Int.pow_nonneg (by omega))]
   rw [Int.natCast_ediv,Int.natCast_pow]
   rfl
  rw [h2] at h
  exact (Int.ofNat_inj.1 h).symm
 rw [UInt64.toNat_toUInt8,e]
def gB (b:List UInt8) (k:Nat):UInt8:=b.getD k 0
theorem auO (e:aa) (q r:Nat) (hr:r<8):aB6 e (8*q+r)=avt ((lst e).getD q 0) r:=by
 unfold aB6 avt
 rw [show (8*q+r)/8=q by omega,show (8*q+r)%8=r by omega]
 rfl
theorem aIb (e:aa) (k:Nat) (hk:k<32):gB (VO e) k=aB6 e k:=by
 unfold gB
 rw [ajZ,List.getD_eq_getElem?_getD,List.getElem?_map,List.getElem?_range hk]
 rfl
theorem aAZ:∀ n:Fin 128,UInt8.ofNat n&&&127=UInt8.ofNat n/\(UInt8.ofNat n>>>7==0)=true/\(UInt8.ofNat n|||128)&&&127=UInt8.ofNat n/\((UInt8.ofNat n|||128)>>>7==0)=false:=by decide+kernel
theorem aCD (x:UInt8):UInt8.ofNat x.toNat=x:=UInt8.ofNat_toNat
theorem avS (x:UInt8) (h:x.toNat<128):x&&&127=x/\(x>>>7==0)=true/\(x|||128)&&&127=x/\((x|||128)>>>7==0)=false:=by
 have:=aAZ ⟨x.toNat,h⟩
 rw [aCD] at this
 exact this
theorem aAO {e:aa} (h:e.nat<57896044618658097711785492504343953926634992332820282019728792003956564819968):((VO e).getD 31 0).toNat<128:=by
 have h1:(VO e).getD 31 0=avt ((lst e).getD 3 0) 7:=(aIb e 31 (by omega)).trans (auO e 3 7 (by omega))
 rw [h1,avs _ (by omega)]
 have h2:((lst e).getD 3 0)=e.w3:=rfl
 rw [h2]
 have h3:e.w3.toNat<9223372036854775808:=by unfold Sx.aa.nat at h;omega
 have:e.w3.toNat/2^(8*7)<128:=by
  rw [show (2:Nat)^(8*7)=72057594037927936 from rfl]
  omega
 omega
end Go.Proofs.YtohjofabochgfaaGreat

namespace Go.Proofs.YtohjofabochgfaaGreat
open Sx Go
theorem auV {s:Int} {b:List UInt8} (hs:al s=true) (h0:((Oa s b).2==(0:Int))=true) (hi:(Oa s b).1.2.2=false) (ho:Gu b=false):Nat.beq ((Oa s b).1.2.1.nat%2) 1=false:=by
 have hv:Oa s b=cond (fA b) (cond (Nat.blt (Oy b).nat (pS s)) (cond (bQ (Oy b)) (cond (Gu b) (dk,41) (cB,0)) (cond (sqB s (Oy b)) (ptD s (Oy b) (Gu b),0) (dk,41))) (dk,41)) (dk,41):=by
  unfold Oa
  rw [hs]
  rfl
 rw [hv,ho] at h0 hi⊢
 clear hv
 generalize Oy b=N at*
 cases h1:fA b
 ·rfl
 rw [h1,cond_true] at h0 hi
 rw [cond_true]
 cases h2:Nat.blt N.nat (pS s)
 ·rfl
 rw [h2,cond_true] at h0 hi
 rw [cond_true]
 cases h3:bQ N
 ·rw [cond_false]
  cases h4:sqB s N
  ·rfl
  ·rw [cond_true]
   exact (aq8 hs (dy h2) h4 false).2
 ·rw [h3,cond_true,cond_false] at hi
  exact ftP hi
theorem aAv {e:aa} (h:e.nat<57896044618658097711785492504343953926634992332820282019728792003956564819968):Gu (VO e)=false:=by
 unfold Gu
 rw [(avS _ (aAO h)).2.1]
 rfl
theorem aFZ {y:aa} (h:Nat.beq (y.nat%2) 1=false):(y.w0%2==0)=true:=by
 have e:y.nat%2=y.w0.toNat%2:=by unfold Sx.aa.nat;omega
 rw [e] at h
 have hn:¬y.w0.toNat%2=1:=λq=>by rw [q] at h;exact ftP h
 have:y.w0%2=0:=UInt64.toNat_inj.1 (by rw [UInt64.toNat_mod];show y.w0.toNat%2=0;omega)
 rw [this]
 rfl
theorem aEV {c:Int} (hs:al c=true):pS c<57896044618658097711785492504343953926634992332820282019728792003956564819968:=by
 rcases ck hs with rfl|rfl|rfl|rfl<;>decide+kernel
theorem auU {c i:Int} {b:List UInt8} (h:((fE c i b).2==(0:Int))=true):((fE c i b).1.2.1.w0%2==0)=true:=by
 obtain ⟨hs,j,hg,e⟩:=auS h
 rw [e]
 clear e h
 unfold UE at hg
 cases h0:((Il c (Dr b i) j).2==(0:Int))
 ·rw [h0] at hg;exact ffP hg
 ·rw [h0,cond_true] at hg
  have hi:(Il c (Dr b i) j).1.2.2=false:=by
   cases hq:(Il c (Dr b i) j).1.2.2
   ·rfl
   ·exact ffP (show false=true by rw [hq] at hg;exact hg)
  refine aFZ (auV (s:=c) (b:=VO (ofN ((VZ c (mu ES 64 (Dr b i++ [i2b (j:Int)]))).nat%(aX c.toNat).1.nat))) hs h0 hi (aAv ?_))
  generalize VZ c (mu ES 64 (Dr b i++ [i2b (j:Int)]))=W
  have hp:=ni hs
  rw [show (ofN (W.nat%(aX c.toNat).1.nat)).nat=W.nat%pS c from cZ hp]
  exact Nat.lt_trans (Nat.mod_lt _ (by have:=hp.1;omega)) (aEV hs)
end Go.Proofs.YtohjofabochgfaaGreat

namespace Go.Proofs.YtohjofabochgfaaGreat
open Sx Go
set_option maxRecDepth 100000
def gu:aw:=⟨[.val false .int,.val false .int,.val false (.list .u8)],[],true,0,false⟩
def tn:Shape:=⟨120,[(0,.val false .int),(1,.val false .int),(2,.val false (.list .u8)),(7,.ptr 0 0 0),(9,.own 1),(10,.val false .int)],[(0,XV),(1,.row (.prod .elem (.prod .elem .bool)))],0,true⟩
def qU:Shape:=⟨120,[(0,.val false .int),(1,.val false .int),(7,.ptr 0 0 0),(9,.own 1)],[(0,XV),(1,.row (.prod .elem (.prod .elem .bool)))],0,true⟩
abbrev EM:Type:=((Int)×(Int)×(List (UInt8))×Unit)×(Unit)
abbrev bq:Type:=((Int)×(Int)×(List (UInt8))×(Unit)×(Unit)×(Int)×Unit)×(((Int)×(Int)×(List ((aa×(aa×Bool))))×((aa×(aa×Bool)))×((aa×(aa×Bool)))×Unit)×(List ((aa×(aa×Bool))))×Unit)
def gV:Shape:=⟨120,[(6,.val false .bool)],[],0,true⟩
abbrev j7:Type:=((Bool)×Unit)×(Unit)
abbrev hY:Type:=((Int)×(Int)×(Unit)×(Unit)×Unit)×(((Int)×(Int)×(List ((aa×(aa×Bool))))×((aa×(aa×Bool)))×((aa×(aa×Bool)))×Unit)×(List ((aa×(aa×Bool))))×Unit)
def Yj:SE->Option Shape:=fw [(0,qU)] (some gV)
def Yl (a0:Int) (a1:Int) (a2:List (UInt8)) (a10:Int) (c0_0:Int) (c0_1:Int) (c0_2:List ((aa×(aa×Bool)))) (c0_3:(aa×(aa×Bool))) (c0_4:(aa×(aa×Bool))) (c1:List ((aa×(aa×Bool)))):OT (Sum bq aE):=
 let z0:Nat:=List.length c1
 let z1:(aa×aa×Bool)×Int:=fE a0 a10 a2
 let z2:Bool:=inB a10 z0
 let z3:Nat:=Int.toNat a10
 let z4:Bool:=decide (z3<z0)
 let z5:=z1.fst
 let z6:=z5.fst
 let z7:aa:= {w0:=0,w1:=0,w2:=0,w3:=0}
 let z8:aa×aa×Bool:=List.getD c1 z3 (z7,z7,false)
 let z9:=z8.fst
 let z10:=z5.snd
 let z11:=z10.fst
 let z12:=z8.snd
 let z13:=z12.fst
 let z14:=z13.w0
 let z15:=z12.snd
 (.br (decide (a10<(↑z0:Int)))
 (gd [lm ((a2,()),()),qH ((a0,a10,a2,()),())] (.br (!z1.snd==(0:Int))
  (.ok (.inr ⟨(.ret,gV),((false,()),())⟩))
  (gd [z2,z4] (.br (!(z6.w0==z9.w0&&(z6.w1==z9.w1&&(z6.w2==z9.w2&&(z6.w3==z9.w3&&true)))&&(z11.w0==z14&&(z11.w1==z13.w1&&(z11.w2==z13.w2&&(z11.w3==z13.w3&&true)))&&(z10.snd==z15&&true))))
   (.ok (.inr ⟨(.ret,gV),((false,()),())⟩))
   (gd [z2,z4] (.br (z15)
    (.ok (.inr ⟨(.ret,gV),((false,()),())⟩))
    (gd [z2,z4] (.br (!z14%(2:UInt64)==(0:UInt64))
     (.ok (.inr ⟨(.ret,gV),((false,()),())⟩))
     (gd [z2,z4] (.br (!onB a0 z8)
      (.ok (.inr ⟨(.ret,gV),((false,()),())⟩))
      (gd [inR (a10+(1:Int))] (.ok (.inl ((a0,(a1,(a2,((),((),(a10+(1:Int),())))))),((c0_0,(c0_1,(c0_2,(c0_3,(c0_4,()))))),(c1,()))))))))))))))))
 (.ok (.inr ⟨(.exit 0,qU),((a0,(a1,((),((),())))),((c0_0,(c0_1,(c0_2,(c0_3,(c0_4,()))))),(c1,())))⟩)))
def mc (s:bq):OT (Sum bq aE):=Yl (s.1.1) (s.1.2.1) (s.1.2.2.1) (s.1.2.2.2.2.2.1) (s.2.1.1) (s.2.1.2.1) (s.2.1.2.2.1) (s.2.1.2.2.2.1) (s.2.1.2.2.2.2.1) (s.2.2.1)
theorem aty (s:bq) (Q:Sum bq aE->Prop):wps te Cp av 1000 (aU (aj Tryz.f9) 0) (tn.inj s) (bX tn Yj (Q:Sum tn.T aE->Prop))=(mc s).wpR Q:=by kernel_rfl
def Bs (g0_r:bq->j7) (c0_r:bq->Bool) (g0_0:bq->hY) (s:bq):OT aE:=(.br (c0_r s) (.ok ⟨(.ret,gV),g0_r s⟩) (.ok ⟨(.exit 0,qU),g0_0 s⟩))
def fS:az:=⟨[.val false .bool],[],false⟩
def QD:SV->Option az:=λ_=>some fS
def Bt (ok0:bq->Bool) (g0_r:bq->j7) (c0_r:bq->Bool) (g0_0:bq->hY) (a0:Int) (a1:Int) (a2:List (UInt8)):OT gu.Y:=
 let z0:(Int×Int×List (aa×aa×Bool)×(aa×aa×Bool)×aa×aa×Bool)×Int:=pY a0 a1 a2
 let z1:=z0.snd
 let z2:=z0.fst
 let z3:=z2.snd
 let z4:=z3.snd
 let z5:=z4.fst
 let z6:Nat:=List.length z5
 let z7:=z4.snd
 let z8:=z7.fst
 let z9:=z7.snd
 let z10:(Int×Int×List UInt8×PUnit×PUnit×Int×PUnit)×(Int×Int×List (aa×aa×Bool)×(aa×aa×Bool)×(aa×aa×Bool)×PUnit)×List (aa×aa×Bool)×PUnit:=((a0,a1,a2,(),(),(0:Int),()),(z2.fst,z3.fst,z5,z8,z9,()),z5++ [z8,z9],())
 let z11:(Int×Int×PUnit×PUnit×PUnit)×(Int×Int×List (aa×aa×Bool)×(aa×aa×Bool)×(aa×aa×Bool)×PUnit)×List (aa×aa×Bool)×PUnit:=g0_0 z10
 let z12:=z11.fst
 let z13:=z12.snd.fst
 let z14:=z11.snd
 let z15:=z14.fst
 (gd [lm ((a2,()),()),yC ((a0,a1,a2,()),())] (.br (!z1==(0:Int))
 (.br ((↑z6:Int)==(0:Int))
  (.br (z1==(40:Int))
   (.ok ⟨fS,((true,()),())⟩)
   (.br (z1==(60:Int))
    (.ok ⟨fS,((true,()),())⟩)
    (.ok ⟨fS,((z1==(90:Int),()),())⟩)))
  (.ok ⟨fS,((false,()),())⟩))
 (gd [Kn ((z5,()),()),decide ((z6+2)*72<=140737488355328),ok0 z10] (.br (c0_r z10)
  (.ok ⟨fS,(((g0_r z10).fst.fst,()),())⟩)
  (gd [inR (T5 (1:Int) (↑(UInt64.toNat (i2u z13)):Int)+(2:Int))] (.br ((↑(List.length z14.snd.fst):Int)==T5 (1:Int) (↑(UInt64.toNat (i2u z13)):Int)+(2:Int))
   (.br (z15.fst==z12.fst)
    (.ok ⟨fS,((z15.snd.fst==z13,()),())⟩)
    (.ok ⟨fS,((false,()),())⟩))
   (.ok ⟨fS,((false,()),())⟩)))))))
theorem az0 (ok0:bq->Bool) (g0_r:bq->j7) (c0_r:bq->Bool) (g0_0:bq->hY) (x:EM) (Q:gu.Y->Prop):wpf te Cp (aO 0 (cg tn 0 ok0 (Bs g0_r c0_r g0_0)) av) 1000 Tryz.f9 (gu.inp.inj x).tm (gu.inp.inj x).hp (fnK gu QD Q) (λ_ _=>False)=(Bt ok0 g0_r c0_r g0_0 (x.1.1) (x.1.2.1) (x.1.2.2.1)).wpR Q:=by kernel_rfl
theorem adF (ok0:bq->Bool) (g0_r:bq->j7) (c0_r:bq->Bool) (g0_0:bq->hY) (h0:∀ s:bq,ok0 s=true->∃ m e,ao (mc) m s=some e/\(Bs g0_r c0_r g0_0 s).run=some e) (pre:EM->Bool) (F:EM->OT gu.Y) (hF:∀ (x:EM) oy,pre x=true->(F x).run=some oy->(Bt ok0 g0_r c0_r g0_0 (x.1.1) (x.1.2.1) (x.1.2.2.1)).run=some oy):ac Tryz.prog 9 (gu.aI pre F):=
 aD aq zq GS (f:=9) (fn:=Tryz.f9) (c:=aj Tryz.f9) (by kernel_rfl) (by kernel_rfl) (by kernel_rfl) (S:=gu) (k:=0) (by kernel_rfl) (λR hR=>(aB (c:=(aj Tryz.f9)) (by kernel_rfl) (id:=0) (by kernel_rfl) (aQ aq zq GS (sh:=tn) hR (xs:=Yj) (aC (by kernel_rfl) (by kernel_rfl) hR) aL af (n:=1000) (T:=mc) (λs Q=>aty s Q) (ok:=ok0) (f:=Bs g0_r c0_r g0_0) h0) af)) (n:=1000) (sel:=QD) (λv o h=>by cases h;rfl) (pre:=pre) (F:=F) (T:=λx=>Bt ok0 g0_r c0_r g0_0 (x.1.1) (x.1.2.1) (x.1.2.2.1)) (λx Q=>az0 ok0 g0_r c0_r g0_0 x Q) hF
theorem ahU {c:Int} {b:List UInt8}:∀ (n i:Nat) (l:List Pt),(ye c b n i l).2=0\/(ye c b n i l).2=40\/(ye c b n i l).2=60\/(ye c b n i l).2=90
 |0,_,_=>.inl rfl
 |n+1,i,l=>by
  unfold ye
  rcases (Bool.eq_false_or_eq_true (!((fE c (i:Int) b).2==(0:Int)))).symm with hd|hd
  ·rw [hd];exact ahU n (i+1) _
  ·rw [hd];exact aAz c (i:Int) b
theorem ayF (c k:Int) (b:List UInt8):(pY c k b).2=0\/(pY c k b).2=40\/(pY c k b).2=60\/(pY c k b).2=90:=by
 unfold pY
 cases al c
 ·exact .inr (.inl rfl)
 cases decide (k<0)
 ·cases decide (5<k)
  ·show (ayE c k (ye c b (rV k+2) 0 [])).2=0\/_
   have:=ahU (c:=c) (b:=b) (rV k+2) 0 []
   unfold ayE
   generalize ye c b (rV k+2) 0 []=r at*
   cases !(r.2==(0:Int))
   ·exact .inl rfl
   ·exact this
  ·exact .inr (.inr (.inl rfl))
 ·exact .inr (.inr (.inl rfl))
def aIW (c:Int) (b:List UInt8) (l:List Pt):Bool:=(List.range l.length).all λj=>((fE c (j:Int) b).2==(0:Int))&&decide (l.getD j dk=(fE c (j:Int) b).1)
theorem aEY {c:Int} {b:List UInt8} {l:List Pt} (h:aIW c b l=true) {j:Nat} (hj:j<l.length):((fE c (j:Int) b).2==(0:Int))=true/\l.getD j dk=(fE c (j:Int) b).1:=by
 obtain ⟨h1,h2⟩:=(Bool.and_eq_true _ _).mp (List.all_eq_true.1 h j (List.mem_range.2 hj))
 exact ⟨h1,of_decide_eq_true h2⟩
theorem aEX {c:Int} {b:List UInt8} {l:List Pt} (h:∀ j,j<l.length->((fE c (j:Int) b).2==(0:Int))=true/\l.getD j dk=(fE c (j:Int) b).1):aIW c b l=true:=
 List.all_eq_true.2 λj hj=>(Bool.and_eq_true _ _).mpr ⟨(h j (List.mem_range.1 hj)).1,decide_eq_true (h j (List.mem_range.1 hj)).2⟩
def EL (s:bq):Bool:=aIW s.1.1 s.1.2.2.1 s.2.2.1&&decide (s.1.2.2.2.2.2.1=0/\s.2.2.1.length<=34/\s.1.2.2.1.length<=140737488351232)
def K5 (_:bq):j7:=((false,()),())
def H9 (_:bq):Bool:=false
def Br (s:bq):hY:=((s.1.1,s.1.2.1,(),(),()),(s.2.1,s.2.2.1,()))
def apS (c k:Int) (b:List UInt8) (p:aGX) (l:List Pt) (i:Int):bq:=((c,k,b,(),(),i,()),(p,l,()))
theorem aHs (A:Pt):(A.1.w0==A.1.w0&&(A.1.w1==A.1.w1&&(A.1.w2==A.1.w2&&(A.1.w3==A.1.w3&&true)))&&(A.2.1.w0==A.2.1.w0&&(A.2.1.w1==A.2.1.w1&&(A.2.1.w2==A.2.1.w2&&(A.2.1.w3==A.2.1.w3&&true)))&&(A.2.2==A.2.2&&true)))=true:=by
 simp only [beq_self_eq_true,Bool.and_self]
theorem aGB {c k:Int} {b:List UInt8} {p:aGX} {l:List Pt} (ho:aIW c b l=true) (hl:l.length<=34) (hb:b.length<=140737488351232) {i:Nat} (hi:i<l.length):(mc (apS c k b p l (i:Int))).run=some (.inl (apS c k b p l ((i:Int)+1))):=by
 obtain ⟨h0,h1⟩:=aEY ho hi
 have h2:=auT h0
 have h3:=auU h0
 have hin:inB (i:Int) l.length=true:=aN (by omega)
 have hde:decide (i<l.length)=true:=decide_eq_true hi
 have h1':l.getD i ((⟨0,0,0,0⟩:aa),(⟨0,0,0,0⟩:aa),false)=(fE c (i:Int) b).1:=h1
 unfold mc Yl apS
 dsimp only
 rw [Int.toNat_natCast,h1',hin,hde]
 generalize fE c (i:Int) b=d at*
 obtain ⟨A,e⟩:=d
 dsimp only at*
 have hI:A.2.2=false:=by
  cases hq:A.2.2
  ·rfl
  ·unfold MD at h2;rw [hq] at h2;exact ftP h2
 have hO:onB c A=true:=by
  unfold MD at h2
  rw [hI] at h2
  cases hq:onB c A
  ·rw [hq] at h2;exact ftP h2
  ·rfl
 refine (OT.ap (decide_eq_true (by omega))).trans ((ah ?_).trans ((OT.ar (by rw [h0];rfl)).trans ((ah rfl).trans ((OT.ar (by rw [aHs A];rfl)).trans ((ah rfl).trans ((OT.ar hI).trans ((ah rfl).trans ((OT.ar (by rw [h3];rfl)).trans ((ah rfl).trans ((OT.ar (b:= !onB c A) (by rw [hO];rfl)).trans ((ah ?_).trans rfl)))))))))))
 ·simp only [List.all_cons,List.all_nil,Bool.and_true,Bool.and_eq_true]
  exact ⟨decide_eq_true (show b.length<=_ by omega),decide_eq_true (show b.length<=_ by omega)⟩
 ·simp only [List.all_cons,List.all_nil,Bool.and_true]
  exact aH (by omega)
theorem atA:∀ s:bq,EL s=true->∃ m e,ao mc m s=some e/\(Bs K5 H9 Br s).run=some e:=by
 rintro ⟨⟨c,k,b,⟨⟩,⟨⟩,i,⟨⟩⟩,⟨p,l,⟨⟩⟩⟩ h
 obtain ⟨ho,h⟩:=(Bool.and_eq_true _ _).mp h
 have h':=of_decide_eq_true h
 dsimp only at h' ho
 obtain ⟨rfl,hl,hb⟩:=h'
 obtain ⟨m,hm⟩:=yW (T:=mc) (λi=>apS c k b p l (i:Int)) l.length (e:=(⟨(.exit 0,qU),(((c,k,(),(),()),(p,l,())):hY)⟩:aE)) (λi hi=>aGB ho hl hb hi) (OT.ar (decide_eq_false (by dsimp only [apS];omega))) 0 (Nat.zero_le _)
 exact ⟨m,_,hm,rfl⟩
def o7 (x:EM):Bool:=decide (x.1.2.2.1.length<=140737488351232)
def ajc (_:EM):OT gu.Y:=.ok ⟨fS,((true,()),())⟩
theorem atz:ac Tryz.prog 9 (gu.aI o7 ajc):=adF EL K5 H9 Br atA _ _ λx oy hp ho=>by
 rw [<-ho]
 clear ho
 obtain ⟨⟨c,k,b,⟨⟩⟩,⟨⟩⟩:=x
 have hb:b.length<=140737488351232:=of_decide_eq_true hp
 show (Bt EL K5 H9 Br c k b).run=some (⟨fS,((true,()),())⟩:gu.Y)
 unfold Bt
 refine (ah ?_).trans ?_
 ·simp only [List.all_cons,List.all_nil,Bool.and_true,Bool.and_eq_true]
  exact ⟨decide_eq_true (show b.length<=_ by omega),decide_eq_true (show b.length<=_ by omega)⟩
 rcases (Bool.eq_false_or_eq_true (!((pY c k b).2==(0:Int)))).symm with he|he
 ·refine (OT.ar he).trans ?_
  obtain ⟨l,hs,h0,h5,hl,ha,e⟩:=aqR he
  obtain ⟨hN,hn1,hn2⟩:=ac2 h0 h5
  have hR:=arq h0 h5
  have hw:l.take (rV k)++ [l.getD (rV k) dk,l.getD (rV k+1) dk]=l:=by
   refine List.ext_getElem (by rw [List.length_append,List.length_take];simp only [List.length_cons,List.length_nil];omega) λj h1 h2=> ?_
   by_cases hj:j<rV k
   ·rw [List.getElem_append_left (by rw [List.length_take];omega),List.getElem_take]
   ·have hlt:(l.take (rV k)).length=rV k:=by rw [List.length_take];omega
    rw [List.getElem_append_right (by omega)]
    have:j=rV k\/j=rV k+1:=by omega
    rcases this with rfl|rfl
    ·simp only [hlt,Nat.sub_self,List.getElem_cons_zero]
     rw [List.getD_eq_getElem?_getD,List.getElem?_eq_getElem (by omega)];rfl
    ·simp only [hlt,show rV k+1-rV k=1 by omega,List.getElem_cons_succ,List.getElem_cons_zero]
     rw [List.getD_eq_getElem?_getD,List.getElem?_eq_getElem (by omega)];rfl
  rw [e]
  dsimp only
  rw [hw]
  unfold Br H9
  dsimp only
  rw [hR,hl,List.length_take,Nat.min_eq_left (by omega)]
  generalize rV k=N at*
  refine (ah ?_).trans ((OT.ar rfl).trans ((ah ?_).trans ((OT.ap ?_).trans ((OT.ap (beq_self_eq_true c)).trans ?_))))
  ·simp only [List.all_cons,List.all_nil,Bool.and_true,Bool.and_eq_true]
   refine ⟨decide_eq_true ?_,decide_eq_true (by omega),(Bool.and_eq_true _ _).mpr ⟨aEX λj hj=>ha j (by dsimp only at hj;omega),decide_eq_true ⟨rfl,by dsimp only;omega,hb⟩⟩⟩
   show (l.take N).length*72<=_
   rw [List.length_take]
   omega
  ·simp only [List.all_cons,List.all_nil,Bool.and_true]
   exact aH (by omega)
  ·rw [beq_iff_eq]
   omega
  ·rw [beq_self_eq_true]
   rfl
 ·refine (OT.ap he).trans ?_
  have h1:=ayG he
  have h2:=ayF c k b
  generalize pY c k b=d at*
  rw [h1]
  refine (OT.ap rfl).trans ?_
  rcases h2 with h2|h2|h2|h2
  ·rw [h2] at he;exact ffP he
  ·rw [h2];rfl
  ·rw [h2];rfl
  ·rw [h2];rfl
def adE:cj:=(gu.aI o7 ajc)
theorem Yk:ac Tryz.prog 9 adE:=atz
end Go.Proofs.YtohjofabochgfaaGreat
