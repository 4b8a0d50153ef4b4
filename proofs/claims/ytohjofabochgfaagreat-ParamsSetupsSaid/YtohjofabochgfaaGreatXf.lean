/- A symbolic machine for Go code over plain data, and functions of the program as it shows them. No statement is proved in this file. -/
import Derived.KernelRfl
import Derived.Test.YtohjofabochgfaaGreatXe
set_option linter.unusedSimpArgs false
set_option linter.unusedVariables false
set_option linter.unusedSectionVars false

namespace Go.Proofs.YtohjofabochgfaaGreat
open Sx Go
set_option maxRecDepth 100000
def eK:aw:=⟨[.val true aGO,.val false (.list .elem),.val true .elem],[],true,0,false⟩
abbrev vR:Type:=(((Int×(Int×(List ((aa×(aa×Bool)))×((aa×(aa×Bool))×(aa×(aa×Bool)))))))×(List (aa))×(aa)×Unit)×(Unit)
def oU:Shape:=⟨54,[(3,.ptr 0 0 0),(6,.ptr 1 0 0),(9,.own 2),(30,.val false (.list .elem)),(31,.val false .int),(32,.val false .int)],[(0,.cells [.val false .int,.val false .int,.val false (.list (.prod .elem (.prod .elem .bool))),.val false .u64,.val false .u64,.val false .u64,.val false .u64,.val false .u64,.val false .u64,.val false .u64,.val false .u64,.val false .bool,.val false .u64,.val false .u64,.val false .u64,.val false .u64,.val false .u64,.val false .u64,.val false .u64,.val false .u64,.val false .bool]),(1,.cells [.val false .u64,.val false .u64,.val false .u64,.val false .u64,.val false .u64,.val false .u64,.val false .u64,.val false .u64,.val false .bool]),(2,.row (.prod .elem (.prod .elem (.prod .elem .bool))))],0,true⟩
abbrev cb:Type:=((Unit)×(Unit)×(Unit)×(List (aa))×(Int)×(Int)×Unit)×(((Int)×(Int)×(List ((aa×(aa×Bool))))×(UInt64)×(UInt64)×(UInt64)×(UInt64)×(UInt64)×(UInt64)×(UInt64)×(UInt64)×(Bool)×(UInt64)×(UInt64)×(UInt64)×(UInt64)×(UInt64)×(UInt64)×(UInt64)×(UInt64)×(Bool)×Unit)×((UInt64)×(UInt64)×(UInt64)×(UInt64)×(UInt64)×(UInt64)×(UInt64)×(UInt64)×(Bool)×Unit)×(List ((aa×(aa×(aa×Bool)))))×Unit)
def ni:Shape:=⟨54,[(3,.ptr 0 0 0),(6,.ptr 1 0 0),(9,.own 2)],[(0,.cells [.val false .int,.val false .int,.val false (.list (.prod .elem (.prod .elem .bool))),.val false .u64,.val false .u64,.val false .u64,.val false .u64,.val false .u64,.val false .u64,.val false .u64,.val false .u64,.val false .bool,.val false .u64,.val false .u64,.val false .u64,.val false .u64,.val false .u64,.val false .u64,.val false .u64,.val false .u64,.val false .bool]),(1,.cells [.val false .u64,.val false .u64,.val false .u64,.val false .u64,.val false .u64,.val false .u64,.val false .u64,.val false .u64,.val false .bool]),(2,.row (.prod .elem (.prod .elem (.prod .elem .bool))))],0,true⟩
abbrev iN:Type:=((Unit)×(Unit)×(Unit)×Unit)×(((Int)×(Int)×(List ((aa×(aa×Bool))))×(UInt64)×(UInt64)×(UInt64)×(UInt64)×(UInt64)×(UInt64)×(UInt64)×(UInt64)×(Bool)×(UInt64)×(UInt64)×(UInt64)×(UInt64)×(UInt64)×(UInt64)×(UInt64)×(UInt64)×(Bool)×Unit)×((UInt64)×(UInt64)×(UInt64)×(UInt64)×(UInt64)×(UInt64)×(UInt64)×(UInt64)×(Bool)×Unit)×(List ((aa×(aa×(aa×Bool)))))×Unit)
def Qo:SE->Option Shape:=fC [(0,ni)] none
def amE (a30:List (aa)) (a31:Int) (a32:Int) (c0_0:Int) (c0_1:Int) (c0_2:List ((aa×(aa×Bool)))) (c0_3:UInt64) (c0_4:UInt64) (c0_5:UInt64) (c0_6:UInt64) (c0_7:UInt64) (c0_8:UInt64) (c0_9:UInt64) (c0_10:UInt64) (c0_11:Bool) (c0_12:UInt64) (c0_13:UInt64) (c0_14:UInt64) (c0_15:UInt64) (c0_16:UInt64) (c0_17:UInt64) (c0_18:UInt64) (c0_19:UInt64) (c0_20:Bool) (c1_0:UInt64) (c1_1:UInt64) (c1_2:UInt64) (c1_3:UInt64) (c1_4:UInt64) (c1_5:UInt64) (c1_6:UInt64) (c1_7:UInt64) (c1_8:Bool) (c2:List ((aa×(aa×(aa×Bool))))):OT (Sum cb aE):=
 let z0:Nat:=Int.toNat a32
 let z1:aa:= {w0:=0,w1:=0,w2:=0,w3:=0}
 (.br (decide (a32<a31))
 (gd [inB a32 (List.length a30),inB a32 (List.length c0_2),decide ((List.length c2+1)*104<=140737488355328),inR (a32+(1:Int))] (.ok (.inl (((),((),((),(a30,(a31,(a32+(1:Int),())))))),((c0_0,(c0_1,(c0_2,(c0_3,(c0_4,(c0_5,(c0_6,(c0_7,(c0_8,(c0_9,(c0_10,(c0_11,(c0_12,(c0_13,(c0_14,(c0_15,(c0_16,(c0_17,(c0_18,(c0_19,(c0_20,()))))))))))))))))))))),((c1_0,(c1_1,(c1_2,(c1_3,(c1_4,(c1_5,(c1_6,(c1_7,(c1_8,()))))))))),(c2++ [(List.getD a30 z0 z1,List.getD c0_2 z0 (z1,z1,false))],())))))))
 (.ok (.inr ⟨(.exit 0,ni),(((),((),((),()))),((c0_0,(c0_1,(c0_2,(c0_3,(c0_4,(c0_5,(c0_6,(c0_7,(c0_8,(c0_9,(c0_10,(c0_11,(c0_12,(c0_13,(c0_14,(c0_15,(c0_16,(c0_17,(c0_18,(c0_19,(c0_20,()))))))))))))))))))))),((c1_0,(c1_1,(c1_2,(c1_3,(c1_4,(c1_5,(c1_6,(c1_7,(c1_8,()))))))))),(c2,()))))⟩)))
def oV (s:cb):OT (Sum cb aE):=amE (s.1.2.2.2.1) (s.1.2.2.2.2.1) (s.1.2.2.2.2.2.1) (s.2.1.1) (s.2.1.2.1) (s.2.1.2.2.1) (s.2.1.2.2.2.1) (s.2.1.2.2.2.2.1) (s.2.1.2.2.2.2.2.1) (s.2.1.2.2.2.2.2.2.1) (s.2.1.2.2.2.2.2.2.2.1) (s.2.1.2.2.2.2.2.2.2.2.1) (s.2.1.2.2.2.2.2.2.2.2.2.1) (s.2.1.2.2.2.2.2.2.2.2.2.2.1) (s.2.1.2.2.2.2.2.2.2.2.2.2.2.1) (s.2.1.2.2.2.2.2.2.2.2.2.2.2.2.1) (s.2.1.2.2.2.2.2.2.2.2.2.2.2.2.2.1) (s.2.1.2.2.2.2.2.2.2.2.2.2.2.2.2.2.1) (s.2.1.2.2.2.2.2.2.2.2.2.2.2.2.2.2.2.1) (s.2.1.2.2.2.2.2.2.2.2.2.2.2.2.2.2.2.2.1) (s.2.1.2.2.2.2.2.2.2.2.2.2.2.2.2.2.2.2.2.1) (s.2.1.2.2.2.2.2.2.2.2.2.2.2.2.2.2.2.2.2.2.1) (s.2.1.2.2.2.2.2.2.2.2.2.2.2.2.2.2.2.2.2.2.2.1) (s.2.1.2.2.2.2.2.2.2.2.2.2.2.2.2.2.2.2.2.2.2.2.1) (s.2.2.1.1) (s.2.2.1.2.1) (s.2.2.1.2.2.1) (s.2.2.1.2.2.2.1) (s.2.2.1.2.2.2.2.1) (s.2.2.1.2.2.2.2.2.1) (s.2.2.1.2.2.2.2.2.2.1) (s.2.2.1.2.2.2.2.2.2.2.1) (s.2.2.1.2.2.2.2.2.2.2.2.1) (s.2.2.2.1)
theorem amB (s:cb) (Q:Sum cb aE->Prop):wps te xh av 1000 (aU (aj Tryz.f39) 0) (oU.inj s) (bY oU Qo (Q:Sum oU.T aE->Prop))=(oV s).wpR Q:=by kernel_rfl
def vQ (g0_0:cb->iN) (s:cb):OT aE:=(.ok ⟨(.exit 0,ni),g0_0 s⟩)
def dx:az:=⟨[.val true (.prod .elem (.prod .elem .bool)),.val false .int],[],false⟩
def Kv:SV->Option az:=λ_=>some dx
def Bh (ok0:cb->Bool) (g0_0:cb->iN) (a0:(Int×(Int×(List ((aa×(aa×Bool)))×((aa×(aa×Bool))×(aa×(aa×Bool))))))) (a1:List (aa)) (a2:aa):OT eK.Y:=
 let z0:Int:=je a0
 let z1:aa:= {w0:=0,w1:=0,w2:=0,w3:=0}
 let z2:aa×aa×Bool:=(z1,z1,false)
 let z3:Int:=(↑(List.length a1):Int)
 let z4:(PUnit×PUnit×PUnit×List aa×Int×Int×PUnit)×(Int×Int×List (aa×aa×Bool)×UInt64×UInt64×UInt64×UInt64×UInt64×UInt64×UInt64×UInt64×Bool×UInt64×UInt64×UInt64×UInt64×UInt64×UInt64×UInt64×UInt64×Bool×PUnit)×(UInt64×UInt64×UInt64×UInt64×UInt64×UInt64×UInt64×UInt64×Bool×PUnit)×List (aa×aa×aa×Bool)×PUnit:=(((),(),(),a1,z3,(0:Int),()),(a0.fst,a0.snd.fst,a0.snd.snd.fst,a0.snd.snd.snd.fst.fst.w0,a0.snd.snd.snd.fst.fst.w1,a0.snd.snd.snd.fst.fst.w2,a0.snd.snd.snd.fst.fst.w3,a0.snd.snd.snd.fst.snd.fst.w0,a0.snd.snd.snd.fst.snd.fst.w1,a0.snd.snd.snd.fst.snd.fst.w2,a0.snd.snd.snd.fst.snd.fst.w3,a0.snd.snd.snd.fst.snd.snd,a0.snd.snd.snd.snd.fst.w0,a0.snd.snd.snd.snd.fst.w1,a0.snd.snd.snd.snd.fst.w2,a0.snd.snd.snd.snd.fst.w3,a0.snd.snd.snd.snd.snd.fst.w0,a0.snd.snd.snd.snd.snd.fst.w1,a0.snd.snd.snd.snd.snd.fst.w2,a0.snd.snd.snd.snd.snd.fst.w3,a0.snd.snd.snd.snd.snd.snd,()),((0:UInt64),(0:UInt64),(0:UInt64),(0:UInt64),(0:UInt64),(0:UInt64),(0:UInt64),(0:UInt64),false,()),[(a2,a0.snd.snd.snd.fst)],())
 let z5:=(g0_0 z4).snd
 let z6:=z5.fst.fst
 let z7:=z5.snd.snd.fst
 (gd [k6 ((a0,()),())] (.br (!z0==(0:Int))
 (.ok ⟨dx,((z2,(z0,())),())⟩)
 (.br (decide ((↑(List.length a0.snd.snd.fst):Int)<z3))
  (.ok ⟨dx,((z2,((50:Int),())),())⟩)
  (gd [ok0 z4] (.br (ap z6)
   (.br (decide (List.length z7<=100000))
    (.br (r5 z6 z7)
     (.ok ⟨dx,((ah1 z6 (abf z6 z7),((0:Int),())),())⟩)
     (.ok ⟨dx,((z2,((41:Int),())),())⟩))
    (.ok ⟨dx,((z2,((50:Int),())),())⟩))
   (.ok ⟨dx,((z2,((40:Int),())),())⟩))))))
theorem as5 (ok0:cb->Bool) (g0_0:cb->iN) (x:vR) (Q:eK.Y->Prop):wpf te xh (aO 0 (cl oU 0 ok0 (vQ g0_0)) av) 1000 Tryz.f39 (eK.inp.inj x).tm (eK.inp.inj x).hp (fnK eK Kv Q) (λ_ _=>False)=(Bh ok0 g0_0 (x.1.1) (x.1.2.1) (x.1.2.2.1)).wpR Q:=by kernel_rfl
theorem X5 (ok0:cb->Bool) (g0_0:cb->iN) (h0:∀ s:cb,ok0 s=true->∃ m e,al (oV) m s=some e/\(vQ g0_0 s).run=some e) (pre:vR->Bool) (F:vR->OT eK.Y) (hF:∀ (x:vR) oy,pre x=true->(F x).run=some oy->(Bh ok0 g0_0 (x.1.1) (x.1.2.1) (x.1.2.2.1)).run=some oy):ac Tryz.prog 39 (eK.aI pre F):=
 aD ar rG Hb (f:=39) (fn:=Tryz.f39) (c:=aj Tryz.f39) (by kernel_rfl) (by kernel_rfl) (by kernel_rfl) (S:=eK) (k:=0) (by kernel_rfl) (λR hR=>(aB (c:=(aj Tryz.f39)) (by kernel_rfl) (id:=0) (by kernel_rfl) (aR ar rG Hb (sh:=oU) hR (xs:=Qo) (aC (by kernel_rfl) (by kernel_rfl) hR) aL af (n:=1000) (T:=oV) (λs Q=>amB s Q) (ok:=ok0) (f:=vQ g0_0) h0) af)) (n:=1000) (sel:=Kv) (λv o h=>by cases h;rfl) (pre:=pre) (F:=F) (T:=λx=>Bh ok0 g0_0 (x.1.1) (x.1.2.1) (x.1.2.2.1)) (λx Q=>as5 ok0 g0_0 x Q) hF
theorem avq {p:aBt} (h:(je p==0)=true):p.2.2.1.length<=32:=by
 unfold je at h
 cases h1:ap p.1
 ·rw [h1] at h;cases h
 ·rw [h1] at h
  by_cases h2:p.2.1<0
  ·rw [decide_eq_true h2] at h;cases h
  ·rw [decide_eq_false h2] at h
   by_cases h3:5<p.2.1
   ·rw [decide_eq_true h3] at h;cases h
   ·rw [decide_eq_false h3] at h
    cases h4:(p.2.2.1.length:Int)==VW 1 p.2.1
    ·rw [h4] at h;cases h
    ·rw [beq_iff_eq] at h4
     have h6:VW 1 p.2.1<=32:=by
      have:p.2.1=0\/p.2.1=1\/p.2.1=2\/p.2.1=3\/p.2.1=4\/p.2.1=5:=by omega
      rcases this with e|e|e|e|e|e<;>rw [e]<;>decide
     omega
def aGk (G:List Pt) (l:List aa) (k:Nat) (o:List Tm):List Tm:=o++ [(l.getD k ⟨0,0,0,0⟩,G.getD k OH)]
def aGj (p:aBt) (l:List aa) (b:aa):List Tm:=upto (aGk p.2.2.1 l) [(b,p.2.2.2.1)] l.length
def yN (s:cb):Bool:=decide (s.1.2.2.2.2.1=(s.1.2.2.2.1.length:Int)/\s.1.2.2.2.2.2.1=0/\s.1.2.2.2.1.length<=s.2.1.2.2.1.length/\s.2.1.2.2.1.length<=32/\s.2.2.2.1.length=1)
def EB (s:cb):iN:=(((),(),(),()),(s.2.1,s.2.2.1,upto (aGk s.2.1.2.2.1 s.1.2.2.2.1) s.2.2.2.1 s.1.2.2.2.1.length,()))
theorem amD:∀ s:cb,yN s=true->∃ m e,al oV m s=some e/\(vQ EB s).run=some e:=by
 rintro ⟨⟨⟨⟩,⟨⟩,⟨⟩,l,n,i,⟨⟩⟩,⟨q,t,o,⟨⟩⟩⟩ h
 have h':=of_decide_eq_true h
 dsimp only at h'
 obtain ⟨rfl,rfl,hl,hG,ho⟩:=h'
 obtain ⟨u,rfl⟩:∃ u,o= [u]:=by
  match o,ho with
  | [u],_=>exact ⟨u,rfl⟩
 have:=(aP (T:=oV) (λk o=>((((),(),(),l,(l.length:Int),(k:Int),()),(q,t,o,())):cb)) (aGk q.2.2.1 l)
  (λo=>(⟨(.exit 0,ni),(((),(),(),()),(q,t,o,()))⟩:aE)) l.length [u] (λk o=>o.length=k+1) rfl (λk o hk hq=>⟨?_,?_⟩) (λo _=> ?_)).1
 ·obtain ⟨m,hm⟩:=this
  exact ⟨m,_,hm,rfl⟩
 ·have hq:o.length=k+1:=hq
  refine (OT.ao (decide_eq_true (by dsimp only;omega))).trans ((ah ?_).trans rfl)
  simp only [List.all_cons,List.all_nil,Bool.and_true,Bool.and_eq_true]
  exact ⟨aN (by omega),aN (by omega),decide_eq_true (by omega),aH (by omega)⟩
 ·show (o++ [_]).length=_
  rw [List.length_append,show o.length=k+1 from hq]
  rfl
 ·exact OT.aq (decide_eq_false (by dsimp only;omega))
def aIy (p:aBt) (l:List aa) (b:aa):Pt×Int:=cond (!(je p==0)) (OH,je p) (cond (decide ((p.2.2.1.length:Int)<(l.length:Int))) (OH,50)
 (cond (ap p.1) (cond (decide ((aGj p l b).length<=100000)) (cond (r5 p.1 (aGj p l b)) (ah1 p.1 (abf p.1 (aGj p l b)),0) (OH,41)) (OH,50)) (OH,40)))
def Kw (x:vR):Bool:=decide (x.1.1.2.2.1.length<=140737488355328)
def X6 (x:vR):OT eK.Y:=.ok ⟨dx,(((aIy x.1.1 x.1.2.1 x.1.2.2.1).1,((aIy x.1.1 x.1.2.1 x.1.2.2.1).2,())),())⟩
theorem amC:ac Tryz.prog 39 (eK.aI Kw X6):=X5 yN EB amD _ _ λx oy hp ho=>by
 rw [<-ho]
 clear ho
 obtain ⟨⟨p,l,b,⟨⟩⟩,⟨⟩⟩:=x
 show (Bh yN EB p l b).run=some (⟨dx,(((aIy p l b).1,((aIy p l b).2,())),())⟩:eK.Y)
 have hp:k6 ((p,()),())=true:=hp
 unfold aIy
 refine (ah (by rw [hp];rfl)).trans ?_
 rcases (Bool.eq_false_or_eq_true (!(je p==0))).symm with h1|h1
 ·rw [h1]
  refine (OT.aq rfl).trans ?_
  by_cases h2:(p.2.2.1.length:Int)<(l.length:Int)
  ·rw [decide_eq_true h2]
   exact (OT.ao rfl).trans rfl
  ·rw [decide_eq_false h2]
   have h0:(je p==0)=true:=by
    cases hq:je p==0
    ·rw [hq] at h1;cases h1
    ·rfl
   have hG:=avq h0
   refine (OT.aq rfl).trans ((ah ?_).trans ?_)
   ·simp only [List.all_cons,List.all_nil,Bool.and_true]
    exact decide_eq_true ⟨rfl,rfl,by show l.length<=p.2.2.1.length;omega,hG,rfl⟩
   ·show (OT.br (ap p.1) (.br (decide ((aGj p l b).length<=100000)) (.br (r5 p.1 (aGj p l b)) (.ok ⟨dx,((ah1 p.1 (abf p.1 (aGj p l b)),((0:Int),())),())⟩) (.ok ⟨dx,((OH,((41:Int),())),())⟩)) (.ok ⟨dx,((OH,((50:Int),())),())⟩)) (.ok ⟨dx,((OH,((40:Int),())),())⟩):OT eK.Y).run=_
    generalize aGj p l b=t
    cases ap p.1<;>cases decide (t.length<=100000)<;>cases r5 p.1 t<;>rfl
 ·rw [h1]
  exact (OT.ao rfl).trans rfl
def tb:cn:=(eK.aI Kw X6)
theorem TG:ac Tryz.prog 39 tb:=amC
theorem TF:aG tb:=aA
def uJ:Env:=ay 39 tb xh
theorem uI:aQ Tryz.prog uJ:=ag TG rG
theorem xW:ax uJ:=ae TF CS
theorem VH:aW Tryz.prog te uJ:=aJ follows ar uI xW
def iH:aw:=⟨[.val false .int,.val false .int,.val false (.list .u8)],[],false,0,false⟩
abbrev Er:Type:=((Int)×(Int)×(List (UInt8))×Unit)×(Unit)
def s6:az:=⟨[.val true (.prod .int (.prod .int (.prod (.list (.prod .elem (.prod .elem .bool))) (.prod (.prod .elem (.prod .elem .bool)) (.prod .elem (.prod .elem .bool)))))),.val false .int],[],false⟩
def Qc:SV->Option az:=λ_=>some s6
def Tu (a0:Int) (a1:Int) (a2:List (UInt8)):OT iH.Y:=
 let z0:aa:= {w0:=0,w1:=0,w2:=0,w3:=0}
 let z1:aa×aa×Bool:=(z0,z0,false)
 let z2:Int×Int×List (aa×aa×Bool)×(aa×aa×Bool)×aa×aa×Bool:=((0:Int),(0:Int),[],z1,z1)
 (.br (ap a0)
 (.br (decide (a1<(0:Int)))
  (.ok ⟨s6,((z2,((60:Int),())),())⟩)
  (.br (decide ((5:Int)<a1))
   (.ok ⟨s6,((z2,((60:Int),())),())⟩)
   (gd [decide ((0:Int)<=a1),inR (VW (1:Int) a1+(2:Int))] .fail)))
 (.ok ⟨s6,((z2,((40:Int),())),())⟩))
theorem azw (x:Er) (Q:iH.Y->Prop):wpf te uJ (aO 0 (λ_ _=>False) av) 1000 Tryz.f31 (iH.inp.inj x).tm (iH.inp.inj x).hp (fnK iH Qc Q) (λ_ _=>False)=(Tu (x.1.1) (x.1.2.1) (x.1.2.2.1)).wpR Q:=by kernel_rfl
theorem ac6 (pre:Er->Bool) (F:Er->OT iH.Y) (hF:∀ (x:Er) oy,pre x=true->(F x).run=some oy->(Tu (x.1.1) (x.1.2.1) (x.1.2.2.1)).run=some oy):ac Tryz.prog 31 (iH.aI pre F):=
 aD ar uI VH (f:=31) (fn:=Tryz.f31) (c:=aj Tryz.f31) (by kernel_rfl) (by kernel_rfl) (by kernel_rfl) (S:=iH) (k:=0) (by kernel_rfl) (λR hR=>(aB (c:=(aj Tryz.f31)) (by kernel_rfl) (id:=0) (by kernel_rfl) (λ_ _ _ _ _ _ _ _ h _=>h.elim) af)) (n:=1000) (sel:=Qc) (λv o h=>by cases h;rfl) (pre:=pre) (F:=F) (T:=λx=>Tu (x.1.1) (x.1.2.1) (x.1.2.2.1)) (λx Q=>azw x Q) hF
def Bo:aBt:=(0,0,[],OH,OH)
def Qd (x:Er):Bool:=ap x.1.1&&decide (5<x.1.2.1)
def aiO (_:Er):OT iH.Y:=.ok ⟨s6,((Bo,((60:Int),())),())⟩
theorem asT:ac Tryz.prog 31 (iH.aI Qd aiO):=ac6 _ _ λx oy hp ho=>by
 rw [<-ho]
 clear ho
 obtain ⟨⟨c,k,b,⟨⟩⟩,⟨⟩⟩:=x
 obtain ⟨hs,hk⟩:=(Bool.and_eq_true _ _).mp hp
 have hk:5<k:=of_decide_eq_true hk
 exact (OT.ao hs).trans ((OT.aq (decide_eq_false (show ¬k<0 by omega))).trans ((OT.ao (decide_eq_true hk)).trans rfl))
def yI:cn:=(iH.aI Qd aiO)
theorem XN:ac Tryz.prog 31 yI:=asT
theorem XM:aG yI:=aA
def CR:Env:=ay 31 yI uJ
theorem zE:aQ Tryz.prog CR:=ag XN uI
theorem CQ:ax CR:=ae XM xW
theorem aaL:aW Tryz.prog te CR:=aJ follows ar zE CQ
def iO:aw:=⟨[],[],true,0,false⟩
abbrev EG:Type:=(Unit)×(Unit)
def Bj:az:=⟨[.val false .bool],[],false⟩
def Qq:SV->Option az:=λ_=>some Bj
def H8:OT iO.Y:=
 (.ok ⟨Bj,((true,()),())⟩)
theorem azN (x:EG) (Q:iO.Y->Prop):wpf te CR av 1000 Tryz.f28 (iO.inp.inj x).tm (iO.inp.inj x).hp (fnK iO Qq Q) (λ_ _=>False)=(H8).wpR Q:=by kernel_rfl
theorem adk (pre:EG->Bool) (F:EG->OT iO.Y) (hF:∀ (x:EG) oy,pre x=true->(F x).run=some oy->(H8).run=some oy):ac Tryz.prog 28 (iO.aI pre F):=
 aD ar zE aaL (f:=28) (fn:=Tryz.f28) (c:=aj Tryz.f28) (by kernel_rfl) (by kernel_rfl) (by kernel_rfl) (S:=iO) (k:=0) (by kernel_rfl) (λR hR=>af) (n:=1000) (sel:=Qq) (λv o h=>by cases h;rfl) (pre:=pre) (F:=F) (T:=λx=>H8) (λx Q=>azN x Q) hF
def Qr (_:EG):Bool:=true
def aiX (_:EG):OT iO.Y:=.ok ⟨Bj,((true,()),())⟩
theorem atb:ac Tryz.prog 28 (iO.aI Qr aiX):=adk _ _ λx oy hp ho=>by
 rw [<-ho]
 clear ho
 show H8.run=some ⟨Bj,((true,()),())⟩
 kernel_rfl
def yQ:cn:=(iO.aI Qr aiX)
theorem Yb:ac Tryz.prog 28 yQ:=atb
theorem Ya:aG yQ:=aA
def CY:Env:=ay 28 yQ CR
theorem zI:aQ Tryz.prog CY:=ag Yb zE
theorem CX:ax CY:=ae Ya CQ
theorem aaN:aW Tryz.prog te CY:=aJ follows ar zI CX
def Jg:aw:=⟨[],[],true,0,false⟩
abbrev aGM:Type:=(Unit)×(Unit)
def ary:az:=⟨[.val true (.arr 8 .u64)],[],false⟩
def arw:SV->Option az:=λ_=>some ary
def aEw:OT Jg.Y:=
 (.ok ⟨ary,(([(7640891576956012808:UInt64),(13503953896175478587:UInt64),(4354685564936845355:UInt64),(11912009170470909681:UInt64),(5840696475078001361:UInt64),(11170449401992604703:UInt64),(2270897969802886507:UInt64),(6620516959819538809:UInt64)],()),())⟩)
theorem aI9 (x:aGM) (Q:Jg.Y->Prop):wpf te CY av 1000 Tryz.f104 (Jg.inp.inj x).tm (Jg.inp.inj x).hp (fnK Jg arw Q) (λ_ _=>False)=(aEw).wpR Q:=by kernel_rfl
theorem ayW (pre:aGM->Bool) (F:aGM->OT Jg.Y) (hF:∀ (x:aGM) oy,pre x=true->(F x).run=some oy->(aEw).run=some oy):ac Tryz.prog 104 (Jg.aI pre F):=
 aD ar zI aaN (f:=104) (fn:=Tryz.f104) (c:=aj Tryz.f104) (by kernel_rfl) (by kernel_rfl) (by kernel_rfl) (S:=Jg) (k:=0) (by kernel_rfl) (λR hR=>af) (n:=1000) (sel:=arw) (λv o h=>by cases h;rfl) (pre:=pre) (F:=F) (T:=λx=>aEw) (λx Q=>aI9 x Q) hF
def arx (_:aGM):Bool:=true
def aHC (_:aGM):OT Jg.Y:=.ok ⟨ary,((bIV,()),())⟩
theorem aHB:ac Tryz.prog 104 (Jg.aI arx aHC):=ayW _ _ λx oy _ ho=>ho
def SB:cn:=(Jg.aI arx aHC)
theorem arz:ac Tryz.prog 104 SB:=aHB
theorem arv:aG SB:=aA
def aoZ:Env:=ay 104 SB CY
theorem IG:aQ Tryz.prog aoZ:=ag arz zI
theorem RP:ax aoZ:=ae arv CX
theorem aaG:aW Tryz.prog te aoZ:=aJ follows ar IG RP
def lz:aw:=⟨[.val false (.list .u8),.val false .int],[],true,0,false⟩
abbrev Pk:Type:=((List (UInt8))×(Int)×Unit)×(Unit)
def Aq:Shape:=⟨29,[(0,.val false (.list .u8)),(1,.val false .int),(5,.val false .u64),(6,.val false .int)],[],0,true⟩
abbrev cW:Type:=((List (UInt8))×(Int)×(UInt64)×(Int)×Unit)×(Unit)
def u6:Shape:=⟨29,[(5,.val false .u64)],[],0,true⟩
abbrev ly:Type:=((UInt64)×Unit)×(Unit)
def ah7:SE->Option Shape:=fC [(0,u6)] none
def ayP (a0:List (UInt8)) (a1:Int) (a5:UInt64) (a6:Int):OT (Sum cW aE):=
 let z0:Bool:=inR (a1+a6)
 let z1:Nat:=List.length a0
 let z2:Bool:=inR (a6-(1:Int))
 (.br (decide ((0:Int)<=a6))
 (gd [z0] (.br (decide (a1+a6<(↑z1:Int)))
  (gd [z0,inB (a1+a6) z1,z2] (.ok (.inl ((a0,(a1,(a5*(256:UInt64)+UInt8.toUInt64 (List.getD a0 (Int.toNat (a1+a6)) (0:UInt8)),(a6-(1:Int),())))),()))))
  (gd [z2] (.ok (.inl ((a0,(a1,(a5*(256:UInt64),(a6-(1:Int),())))),()))))))
 (.ok (.inr ⟨(.exit 0,u6),((a5,()),())⟩)))
def Ar (s:cW):OT (Sum cW aE):=ayP (s.1.1) (s.1.2.1) (s.1.2.2.1) (s.1.2.2.2.1)
theorem ayM (s:cW) (Q:Sum cW aE->Prop):wps te aoZ av 1000 (aU (aj Tryz.f105) 0) (Aq.inj s) (bY Aq ah7 (Q:Sum Aq.T aE->Prop))=(Ar s).wpR Q:=by kernel_rfl
def HU (g0_0:cW->ly) (s:cW):OT aE:=(.ok ⟨(.exit 0,u6),g0_0 s⟩)
def So:az:=⟨[.val false .u64],[],false⟩
def Wr:SV->Option az:=λ_=>some So
def abO (ok0:cW->Bool) (g0_0:cW->ly) (a0:List (UInt8)) (a1:Int):OT lz.Y:=
 let z0:(List UInt8×Int×UInt64×Int×PUnit)×PUnit:=((a0,a1,(0:UInt64),(7:Int),()),())
 (gd [ok0 z0] (.ok ⟨So,(((g0_0 z0).fst.fst,()),())⟩))
theorem aEh (ok0:cW->Bool) (g0_0:cW->ly) (x:Pk) (Q:lz.Y->Prop):wpf te aoZ (aO 0 (cl Aq 0 ok0 (HU g0_0)) av) 1000 Tryz.f105 (lz.inp.inj x).tm (lz.inp.inj x).hp (fnK lz Wr Q) (λ_ _=>False)=(abO ok0 g0_0 (x.1.1) (x.1.2.1)).wpR Q:=by kernel_rfl
theorem alk (ok0:cW->Bool) (g0_0:cW->ly) (h0:∀ s:cW,ok0 s=true->∃ m e,al (Ar) m s=some e/\(HU g0_0 s).run=some e) (pre:Pk->Bool) (F:Pk->OT lz.Y) (hF:∀ (x:Pk) oy,pre x=true->(F x).run=some oy->(abO ok0 g0_0 (x.1.1) (x.1.2.1)).run=some oy):ac Tryz.prog 105 (lz.aI pre F):=
 aD ar IG aaG (f:=105) (fn:=Tryz.f105) (c:=aj Tryz.f105) (by kernel_rfl) (by kernel_rfl) (by kernel_rfl) (S:=lz) (k:=0) (by kernel_rfl) (λR hR=>(aB (c:=(aj Tryz.f105)) (by kernel_rfl) (id:=0) (by kernel_rfl) (aR ar IG aaG (sh:=Aq) hR (xs:=ah7) (aC (by kernel_rfl) (by kernel_rfl) hR) aL af (n:=1000) (T:=Ar) (λs Q=>ayM s Q) (ok:=ok0) (f:=HU g0_0) h0) af)) (n:=1000) (sel:=Wr) (λv o h=>by cases h;rfl) (pre:=pre) (F:=F) (T:=λx=>abO ok0 g0_0 (x.1.1) (x.1.2.1)) (λx Q=>aEh ok0 g0_0 x Q) hF
def il (b:List UInt8) (p:Nat):UInt64:=upto (λk v=>v*256+UInt8.toUInt64 (b.getD (p+(7-k)) 0)) 0 8
def Ws (s:cW):Bool:=decide (s.1.2.2.1=0/\s.1.2.2.2.1=7/\0<=s.1.2.1/\s.1.2.1<=1000000000000)
def ah8 (s:cW):ly:=((il s.1.1 s.1.2.1.toNat,()),())
theorem ayO:∀ s:cW,Ws s=true->∃ m e,al Ar m s=some e/\(HU ah8 s).run=some e:=by
 rintro ⟨⟨b,p,v,i,⟨⟩⟩,⟨⟩⟩ h
 have h':=of_decide_eq_true h
 dsimp only at h'
 obtain ⟨rfl,rfl,hp0,hp⟩:=h'
 obtain ⟨p,rfl⟩:∃ q:Nat,p=(q:Int):=⟨p.toNat,by omega⟩
 have:=(aP (T:=Ar) (λk v=>(((b,(p:Int),v,7-(k:Int),()),()):cW)) (λk v=>v*256+UInt8.toUInt64 (b.getD (p+(7-k)) 0))
  (λv=>(⟨(.exit 0,u6),((v,()),())⟩:aE)) 8 0 (λ_ _=>True) trivial (λk v hk _=>⟨?_,trivial⟩) (λv _=> ?_)).1
 ·obtain ⟨m,hm⟩:=this
  exact ⟨m,_,hm,rfl⟩
 ·have e1:((p:Int)+(7-(k:Int))).toNat=p+(7-k):=by omega
  have e2:(7:Int)-((k:Int))-1=7-((k+1:Nat):Int):=by omega
  refine (OT.ao (decide_eq_true (by dsimp only;omega))).trans ((ah ?_).trans ?_)
  ·simp only [List.all_cons,List.all_nil,Bool.and_true]
   exact aH (by omega)
  ·by_cases hx:(p:Int)+(7-(k:Int))<(b.length:Int)
   ·refine (OT.ao (decide_eq_true hx)).trans ((ah ?_).trans ?_)
    ·simp only [List.all_cons,List.all_nil,Bool.and_true,Bool.and_eq_true]
     exact ⟨aH (by omega),aN (by omega),aH (by omega)⟩
    ·simp only [OT.cP,e1,e2]
   ·refine (OT.aq (decide_eq_false hx)).trans ((ah ?_).trans ?_)
    ·simp only [List.all_cons,List.all_nil,Bool.and_true]
     exact aH (by omega)
    ·have e3:b.getD (p+(7-k)) 0=0:=by
      rw [List.getD_eq_getElem?_getD,List.getElem?_eq_none (by omega)];rfl
     have e4:v*256+UInt8.toUInt64 0=v*256:=by
      show v*256+0=v*256
      rw [UInt64.add_zero]
     simp only [OT.cP,e2,e3,e4]
 ·exact OT.aq (decide_eq_false (by dsimp only;omega))
def I5 (x:Pk):Bool:=decide (0<=x.1.2.1/\x.1.2.1<=1000000000000)
def aq9 (x:Pk):OT lz.Y:=.ok ⟨So,((il x.1.1 x.1.2.1.toNat,()),())⟩
theorem ayN:ac Tryz.prog 105 (lz.aI I5 aq9):=alk Ws ah8 ayO _ _ λx oy hp ho=>by
 rw [<-ho]
 have hp':=of_decide_eq_true hp
 refine (ah ?_).trans rfl
 simp only [List.all_cons,List.all_nil,Bool.and_true]
 exact decide_eq_true ⟨rfl,rfl,hp'.1,hp'.2⟩
def DI:cn:=(lz.aI I5 aq9)
theorem abN:ac Tryz.prog 105 DI:=ayN
theorem abM:aG DI:=aA
def MW:Env:=ay 105 DI aoZ
theorem FG:aQ Tryz.prog MW:=ag abN IG
theorem GU:ax MW:=ae abM RP
theorem afr:aW Tryz.prog te MW:=aJ follows ar FG GU
def lD:aw:=⟨[],[],true,0,false⟩
abbrev Pp:Type:=(Unit)×(Unit)
def Sw:az:=⟨[.val true (.arr 10 (.arr 16 .int))],[],false⟩
def Wz:SV->Option az:=λ_=>some Sw
def abZ:OT lD.Y:=
 (.ok ⟨Sw,(([[(0:Int),(1:Int),(2:Int),(3:Int),(4:Int),(5:Int),(6:Int),(7:Int),(8:Int),(9:Int),(10:Int),(11:Int),(12:Int),(13:Int),(14:Int),(15:Int)],[(14:Int),(10:Int),(4:Int),(8:Int),(9:Int),(15:Int),(13:Int),(6:Int),(1:Int),(12:Int),(0:Int),(2:Int),(11:Int),(7:Int),(5:Int),(3:Int)],[(11:Int),(8:Int),(12:Int),(0:Int),(5:Int),(2:Int),(15:Int),(13:Int),(10:Int),(14:Int),(3:Int),(6:Int),(7:Int),(1:Int),(9:Int),(4:Int)],[(7:Int),(9:Int),(3:Int),(1:Int),(13:Int),(12:Int),(11:Int),(14:Int),(2:Int),(6:Int),(5:Int),(10:Int),(4:Int),(0:Int),(15:Int),(8:Int)],[(9:Int),(0:Int),(5:Int),(7:Int),(2:Int),(4:Int),(10:Int),(15:Int),(14:Int),(1:Int),(11:Int),(12:Int),(6:Int),(8:Int),(3:Int),(13:Int)],[(2:Int),(12:Int),(6:Int),(10:Int),(0:Int),(11:Int),(8:Int),(3:Int),(4:Int),(13:Int),(7:Int),(5:Int),(15:Int),(14:Int),(1:Int),(9:Int)],[(12:Int),(5:Int),(1:Int),(15:Int),(14:Int),(13:Int),(4:Int),(10:Int),(0:Int),(7:Int),(6:Int),(3:Int),(9:Int),(2:Int),(8:Int),(11:Int)],[(13:Int),(11:Int),(7:Int),(14:Int),(12:Int),(1:Int),(3:Int),(9:Int),(5:Int),(0:Int),(15:Int),(4:Int),(8:Int),(6:Int),(2:Int),(10:Int)],[(6:Int),(15:Int),(14:Int),(9:Int),(11:Int),(3:Int),(0:Int),(8:Int),(12:Int),(2:Int),(13:Int),(7:Int),(1:Int),(4:Int),(10:Int),(5:Int)],[(10:Int),(2:Int),(8:Int),(4:Int),(7:Int),(6:Int),(1:Int),(5:Int),(15:Int),(11:Int),(9:Int),(14:Int),(3:Int),(12:Int),(13:Int),(0:Int)]],()),())⟩)
theorem aEr (x:Pp) (Q:lD.Y->Prop):wpf te MW av 1000 Tryz.f140 (lD.inp.inj x).tm (lD.inp.inj x).hp (fnK lD Wz Q) (λ_ _=>False)=(abZ).wpR Q:=by kernel_rfl
theorem alr (pre:Pp->Bool) (F:Pp->OT lD.Y) (hF:∀ (x:Pp) oy,pre x=true->(F x).run=some oy->(abZ).run=some oy):ac Tryz.prog 140 (lD.aI pre F):=
 aD ar FG afr (f:=140) (fn:=Tryz.f140) (c:=aj Tryz.f140) (by kernel_rfl) (by kernel_rfl) (by kernel_rfl) (S:=lD) (k:=0) (by kernel_rfl) (λR hR=>af) (n:=1000) (sel:=Wz) (λv o h=>by cases h;rfl) (pre:=pre) (F:=F) (T:=λx=>abZ) (λx Q=>aEr x Q) hF
def OV:List (List Int):= [[0,1,2,3,4,5,6,7,8,9,10,11,12,13,14,15],
 [14,10,4,8,9,15,13,6,1,12,0,2,11,7,5,3],
 [11,8,12,0,5,2,15,13,10,14,3,6,7,1,9,4],
 [7,9,3,1,13,12,11,14,2,6,5,10,4,0,15,8],
 [9,0,5,7,2,4,10,15,14,1,11,12,6,8,3,13],
 [2,12,6,10,0,11,8,3,4,13,7,5,15,14,1,9],
 [12,5,1,15,14,13,4,10,0,7,6,3,9,2,8,11],
 [13,11,7,14,12,1,3,9,5,0,15,4,8,6,2,10],
 [6,15,14,9,11,3,0,8,12,2,13,7,1,4,10,5],
 [10,2,8,4,7,6,1,5,15,11,9,14,3,12,13,0]]
def WA (_:Pp):Bool:=true
def arl (_:Pp):OT lD.Y:=.ok ⟨Sw,((OV,()),())⟩
theorem ayT:ac Tryz.prog 140 (lD.aI WA arl):=alr _ _ λx oy _ ho=>ho
def DM:cn:=(lD.aI WA arl)
theorem abY:ac Tryz.prog 140 DM:=ayT
theorem abX:aG DM:=aA
def M0:Env:=ay 140 DM MW
theorem FI:aQ Tryz.prog M0:=ag abY FG
theorem GW:ax M0:=ae abX GU
theorem aft:aW Tryz.prog te M0:=aJ follows ar FI GW
def lB:aw:=⟨[.val false .u64,.val false .u64],[],true,0,false⟩
abbrev Pl:Type:=((UInt64)×(UInt64)×Unit)×(Unit)
def Sp:az:=⟨[.val false .u64],[],false⟩
def Wu:SV->Option az:=λ_=>some Sp
def abS (a0:UInt64) (a1:UInt64):OT lB.Y:=
 (.ok ⟨Sp,((bk a0 (↑(UInt64.toNat a1):Int)|||bR a0 (↑(UInt64.toNat ((64:UInt64)-a1)):Int),()),())⟩)
theorem aEi (x:Pl) (Q:lB.Y->Prop):wpf te M0 av 1000 Tryz.f155 (lB.inp.inj x).tm (lB.inp.inj x).hp (fnK lB Wu Q) (λ_ _=>False)=(abS (x.1.1) (x.1.2.1)).wpR Q:=by kernel_rfl
theorem aln (pre:Pl->Bool) (F:Pl->OT lB.Y) (hF:∀ (x:Pl) oy,pre x=true->(F x).run=some oy->(abS (x.1.1) (x.1.2.1)).run=some oy):ac Tryz.prog 155 (lB.aI pre F):=
 aD ar FI aft (f:=155) (fn:=Tryz.f155) (c:=aj Tryz.f155) (by kernel_rfl) (by kernel_rfl) (by kernel_rfl) (S:=lB) (k:=0) (by kernel_rfl) (λR hR=>af) (n:=1000) (sel:=Wu) (λv o h=>by cases h;rfl) (pre:=pre) (F:=F) (T:=λx=>abS (x.1.1) (x.1.2.1)) (λx Q=>aEi x Q) hF
def DG (a n:UInt64):UInt64:=bk a (UInt64.toNat n:Int)|||bR a (UInt64.toNat (64-n):Int)
def Wv (_:Pl):Bool:=true
def ara (x:Pl):OT lB.Y:=.ok ⟨Sp,((DG x.1.1 x.1.2.1,()),())⟩
theorem ayR:ac Tryz.prog 155 (lB.aI Wv ara):=aln _ _ λx oy _ ho=>ho
def DK:cn:=(lB.aI Wv ara)
theorem abR:ac Tryz.prog 155 DK:=ayR
theorem abQ:aG DK:=aA
def MX:Env:=ay 155 DK M0
theorem FH:aQ Tryz.prog MX:=ag abR FI
theorem GV:ax MX:=ae abQ GW
theorem afs:aW Tryz.prog te MX:=aJ follows ar FH GV
def rP:aw:=⟨[.val true (.arr 16 .u64),.val false .int,.val false .int,.val false .int,.val false .int,.val false .u64,.val false .u64],[],true,0,false⟩
abbrev aly:Type:=((List (UInt64))×(Int)×(Int)×(Int)×(Int)×(UInt64)×(UInt64)×Unit)×(Unit)
def SA:az:=⟨[.val true (.arr 16 .u64)],[],false⟩
def aie:SV->Option az:=λ_=>some SA
def aru (a0:List (UInt64)) (a1:Int) (a2:Int) (a3:Int) (a4:Int) (a5:UInt64) (a6:UInt64):OT rP.Y:=
 let z0:Bool:=inB a1 16
 let z1:List UInt64:=tab a0 16 (0:UInt64)
 let z2:Nat:=List.length z1
 let z3:Bool:=decide (Int.toNat a1+0<z2)
 let z4:Bool:=inB a2 16
 let z5:Bool:=inB a4 16
 let z6:List UInt64:=List.set z1 (Int.toNat a1+0) (List.getD z1 (Int.toNat a1+0) (0:UInt64)+List.getD z1 (Int.toNat a2+0) (0:UInt64)+a5)
 let z7:Nat:=List.length z6
 let z8:Bool:=decide (Int.toNat a4+0<z7)
 let z9:Bool:=inB a3 16
 let z10:List UInt64:=List.set z6 (Int.toNat a4+0) (DG (List.getD z6 (Int.toNat a4+0) (0:UInt64)^^^List.getD z6 (Int.toNat a1+0) (0:UInt64)) (32:UInt64))
 let z11:Nat:=List.length z10
 let z12:Bool:=decide (Int.toNat a3+0<z11)
 let z13:List UInt64:=List.set z10 (Int.toNat a3+0) (List.getD z10 (Int.toNat a3+0) (0:UInt64)+List.getD z10 (Int.toNat a4+0) (0:UInt64))
 let z14:Nat:=List.length z13
 let z15:Bool:=decide (Int.toNat a2+0<z14)
 let z16:List UInt64:=List.set z13 (Int.toNat a2+0) (DG (List.getD z13 (Int.toNat a2+0) (0:UInt64)^^^List.getD z13 (Int.toNat a3+0) (0:UInt64)) (24:UInt64))
 let z17:Nat:=List.length z16
 let z18:Bool:=decide (Int.toNat a1+0<z17)
 let z19:List UInt64:=List.set z16 (Int.toNat a1+0) (List.getD z16 (Int.toNat a1+0) (0:UInt64)+List.getD z16 (Int.toNat a2+0) (0:UInt64)+a6)
 let z20:Nat:=List.length z19
 let z21:Bool:=decide (Int.toNat a4+0<z20)
 let z22:List UInt64:=List.set z19 (Int.toNat a4+0) (DG (List.getD z19 (Int.toNat a4+0) (0:UInt64)^^^List.getD z19 (Int.toNat a1+0) (0:UInt64)) (16:UInt64))
 let z23:Nat:=List.length z22
 let z24:Bool:=decide (Int.toNat a3+0<z23)
 let z25:List UInt64:=List.set z22 (Int.toNat a3+0) (List.getD z22 (Int.toNat a3+0) (0:UInt64)+List.getD z22 (Int.toNat a4+0) (0:UInt64))
 let z26:Nat:=List.length z25
 let z27:Bool:=decide (Int.toNat a2+0<z26)
 let z28:List UInt64:=List.set z25 (Int.toNat a2+0) (DG (List.getD z25 (Int.toNat a2+0) (0:UInt64)^^^List.getD z25 (Int.toNat a3+0) (0:UInt64)) (63:UInt64))
 (gd [z0,z3,z4,decide (Int.toNat a2+0<z2),z0,z3,z5,z8,z0,decide (Int.toNat a1+0<z7),z5,z8,z9,z12,z5,decide (Int.toNat a4+0<z11),z9,z12,z4,z15,z9,decide (Int.toNat a3+0<z14),z4,z15,z0,z18,z4,decide (Int.toNat a2+0<z17),z0,z18,z5,z21,z0,decide (Int.toNat a1+0<z20),z5,z21,z9,z24,z5,decide (Int.toNat a4+0<z23),z9,z24,z4,z27,z9,decide (Int.toNat a3+0<z26),z4,z27,decide (16<=List.length z28)] (.ok ⟨SA,((tab z28 16 (0:UInt64),()),())⟩))
theorem aHA (x:aly) (Q:rP.Y->Prop):wpf te MX av 1000 Tryz.f141 (rP.inp.inj x).tm (rP.inp.inj x).hp (fnK rP aie Q) (λ_ _=>False)=(aru (x.1.1) (x.1.2.1) (x.1.2.2.1) (x.1.2.2.2.1) (x.1.2.2.2.2.1) (x.1.2.2.2.2.2.1) (x.1.2.2.2.2.2.2.1)).wpR Q:=by kernel_rfl
theorem art (pre:aly->Bool) (F:aly->OT rP.Y) (hF:∀ (x:aly) oy,pre x=true->(F x).run=some oy->(aru (x.1.1) (x.1.2.1) (x.1.2.2.1) (x.1.2.2.2.1) (x.1.2.2.2.2.1) (x.1.2.2.2.2.2.1) (x.1.2.2.2.2.2.2.1)).run=some oy):ac Tryz.prog 141 (rP.aI pre F):=
 aD ar FH afs (f:=141) (fn:=Tryz.f141) (c:=aj Tryz.f141) (by kernel_rfl) (by kernel_rfl) (by kernel_rfl) (S:=rP) (k:=0) (by kernel_rfl) (λR hR=>af) (n:=1000) (sel:=aie) (λv o h=>by cases h;rfl) (pre:=pre) (F:=F) (T:=λx=>aru (x.1.1) (x.1.2.1) (x.1.2.2.1) (x.1.2.2.2.1) (x.1.2.2.2.2.1) (x.1.2.2.2.2.2.1) (x.1.2.2.2.2.2.2.1)) (λx Q=>aHA x Q) hF
theorem aHc (a:UInt64):DG a 32=rotl a (-32):=by
 unfold DG rotl
 rw [show (UInt64.toNat (i2u (-32)&&&63):Int)=32 from by decide,show (UInt64.toNat (64-(i2u (-32)&&&63)):Int)=32 from by decide,show (UInt64.toNat 32:Int)=32 from by decide,show (UInt64.toNat (64-32):Int)=32 from by decide,UInt64.or_comm]
theorem aHd (a:UInt64):DG a 24=rotl a (-24):=by
 unfold DG rotl
 rw [show (UInt64.toNat (i2u (-24)&&&63):Int)=40 from by decide,show (UInt64.toNat (64-(i2u (-24)&&&63)):Int)=24 from by decide,show (UInt64.toNat 24:Int)=24 from by decide,show (UInt64.toNat (64-24):Int)=40 from by decide,UInt64.or_comm]
theorem aHe (a:UInt64):DG a 16=rotl a (-16):=by
 unfold DG rotl
 rw [show (UInt64.toNat (i2u (-16)&&&63):Int)=48 from by decide,show (UInt64.toNat (64-(i2u (-16)&&&63)):Int)=16 from by decide,show (UInt64.toNat 16:Int)=16 from by decide,show (UInt64.toNat (64-16):Int)=48 from by decide,UInt64.or_comm]
theorem aHb (a:UInt64):DG a 63=rotl a (-63):=by
 unfold DG rotl
 rw [show (UInt64.toNat (i2u (-63)&&&63):Int)=1 from by decide,show (UInt64.toNat (64-(i2u (-63)&&&63)):Int)=63 from by decide,show (UInt64.toNat 63:Int)=63 from by decide,show (UInt64.toNat (64-63):Int)=1 from by decide,UInt64.or_comm]
def Sz (x:aly):Bool:=inB x.1.2.1 16&&inB x.1.2.2.1 16&&inB x.1.2.2.2.1 16&&inB x.1.2.2.2.2.1 16&&decide (x.1.1.length=16)
def aBN (x:aly):OT rP.Y:=.ok ⟨SA,((BD x.1.1 x.1.2.1.toNat x.1.2.2.1.toNat x.1.2.2.2.1.toNat x.1.2.2.2.2.1.toNat x.1.2.2.2.2.2.1 x.1.2.2.2.2.2.2.1,()),())⟩
theorem aEu:ac Tryz.prog 141 (rP.aI Sz aBN):=art _ _ λx oy hp ho=>by
 rw [<-ho]
 clear ho
 obtain ⟨⟨v,a,b,c,d,x,y,⟨⟩⟩,⟨⟩⟩:=x
 simp only [Sz,Bool.and_eq_true,decide_eq_true_eq] at hp
 obtain ⟨⟨⟨⟨ha,hb⟩,hc⟩,hd⟩,hv⟩:=hp
 have na:=xG ha
 have nb:=xG hb
 have nc:=xG hc
 have nd:=xG hd
 have t1:tab v 16 0=v:=jo hv
 refine (ah ?_).trans ?_
 ·simp only [t1,List.length_set,hv,ha,hb,hc,hd,Nat.add_zero,na,nb,nc,nd,Nat.le_refl,decide_true,List.all_cons,List.all_nil,Bool.and_self]
 ·have hl:(BD v a.toNat b.toNat c.toNat d.toNat x y).length=16:=by rw [fX];exact hv
  simp only [t1,aHc,aHd,aHe,aHb,UInt64.add_assoc,Nat.add_zero]
  exact congrArg (λl=>some (⟨SA,((l,()),())⟩:rP.Y)) (jo hl)
def Jf:cn:=(rP.aI Sz aBN)
theorem alx:ac Tryz.prog 141 Jf:=aEu
theorem alw:aG Jf:=aA
def Cw:Env:=ay 141 Jf MX
theorem mG:aQ Tryz.prog Cw:=ag alx FH
theorem M3:ax Cw:=ae alw GV
theorem pH:aW Tryz.prog te Cw:=aJ follows ar mG M3
def im:aw:=⟨[.val true (.arr 8 .u64),.val false (.list .u8),.val false .u64,.val false .bool],[],true,0,false⟩
abbrev DT:Type:=((List (UInt64))×(List (UInt8))×(UInt64)×(Bool)×Unit)×(Unit)
def sC:Shape:=⟨163,[(1,.val false (.list .u8)),(2,.val false .u64),(3,.val false .bool),(4,.ptr 0 0 0),(8,.ptr 1 0 0),(9,.ptr 2 0 0),(10,.ptr 3 0 0),(11,.val false .int)],[(0,.row .u64),(1,.row .u64),(2,.row .u64),(3,.row .u64)],0,true⟩
abbrev cA:Type:=((List (UInt8))×(UInt64)×(Bool)×(Unit)×(Unit)×(Unit)×(Unit)×(Int)×Unit)×((List (UInt64))×(List (UInt64))×(List (UInt64))×(List (UInt64))×Unit)
def qo:Shape:=⟨163,[(1,.val false (.list .u8)),(2,.val false .u64),(3,.val false .bool),(4,.ptr 0 0 0),(8,.ptr 1 0 0),(10,.ptr 2 0 0)],[(0,.row .u64),(1,.row .u64),(2,.row .u64)],0,true⟩
abbrev jX:Type:=((List (UInt8))×(UInt64)×(Bool)×(Unit)×(Unit)×(Unit)×Unit)×((List (UInt64))×(List (UInt64))×(List (UInt64))×Unit)
def WK:SE->Option Shape:=fC [(0,qo)] none
def arY (a1:List (UInt8)) (a2:UInt64) (a3:Bool) (a11:Int) (c0:List (UInt64)) (c1:List (UInt64)) (c2:List (UInt64)) (c3:List (UInt64)):OT (Sum cA aE):=
 let z0:Bool:=inB a11 8
 let z1:List UInt64:=List.set c3 (Int.toNat a11+0) (List.getD c0 (Int.toNat a11+0) (0:UInt64))
 (.br (decide (a11<(8:Int)))
 (gd [z0,decide (Int.toNat a11+0<List.length c0),inB a11 16,decide (Int.toNat a11+0<List.length c3),inR (a11+(8:Int)),z0,decide (Int.toNat a11+0<List.length c2),inB (a11+(8:Int)) 16,decide (Int.toNat (a11+(8:Int))+0<List.length z1),inR (a11+(1:Int))] (.ok (.inl ((a1,(a2,(a3,((),((),((),((),(a11+(1:Int),())))))))),(c0,(c1,(c2,(List.set z1 (Int.toNat (a11+(8:Int))+0) (List.getD c2 (Int.toNat a11+0) (0:UInt64)),()))))))))
 (.ok (.inr ⟨(.exit 0,qo),((a1,(a2,(a3,((),((),((),())))))),(c0,(c1,(c3,()))))⟩)))
def sG (s:cA):OT (Sum cA aE):=arY (s.1.1) (s.1.2.1) (s.1.2.2.1) (s.1.2.2.2.2.2.2.2.1) (s.2.1) (s.2.2.1) (s.2.2.2.1) (s.2.2.2.2.1)
theorem arP (s:cA) (Q:Sum cA aE->Prop):wps te Cw av 1000 (aU (aj Tryz.f106) 0) (sC.inj s) (bY sC WK (Q:Sum sC.T aE->Prop))=(sG s).wpR Q:=by kernel_rfl
def AO (g0_0:cA->jX) (s:cA):OT aE:=(.ok ⟨(.exit 0,qo),g0_0 s⟩)
def sB:Shape:=⟨163,[(1,.val false (.list .u8)),(4,.ptr 0 0 0),(8,.ptr 1 0 0),(10,.ptr 2 0 0),(12,.ptr 3 0 0),(13,.val false .int)],[(0,.row .u64),(1,.row .u64),(2,.row .u64),(3,.row .u64)],0,true⟩
abbrev cz:Type:=((List (UInt8))×(Unit)×(Unit)×(Unit)×(Unit)×(Int)×Unit)×((List (UInt64))×(List (UInt64))×(List (UInt64))×(List (UInt64))×Unit)
def qn:Shape:=⟨163,[(4,.ptr 0 0 0),(8,.ptr 1 0 0),(10,.ptr 2 0 0),(12,.ptr 3 0 0)],[(0,.row .u64),(1,.row .u64),(2,.row .u64),(3,.row .u64)],0,true⟩
abbrev jW:Type:=((Unit)×(Unit)×(Unit)×(Unit)×Unit)×((List (UInt64))×(List (UInt64))×(List (UInt64))×(List (UInt64))×Unit)
def WJ:SE->Option Shape:=fC [(2,qn)] none
def arX (a1:List (UInt8)) (a13:Int) (c0:List (UInt64)) (c1:List (UInt64)) (c2:List (UInt64)) (c3:List (UInt64)):OT (Sum cz aE):=
 (.br (decide (a13<(16:Int)))
 (gd [inR ((8:Int)*a13),I5 ((a1,(8:Int)*a13,()),()),inB a13 16,decide (Int.toNat a13+0<List.length c3),inR (a13+(1:Int))] (.ok (.inl ((a1,((),((),((),((),(a13+(1:Int),())))))),(c0,(c1,(c2,(List.set c3 (Int.toNat a13+0) (il a1 (Int.toNat ((8:Int)*a13))),()))))))))
 (.ok (.inr ⟨(.exit 2,qn),(((),((),((),((),())))),(c0,(c1,(c2,(c3,())))))⟩)))
def sF (s:cz):OT (Sum cz aE):=arX (s.1.1) (s.1.2.2.2.2.2.1) (s.2.1) (s.2.2.1) (s.2.2.2.1) (s.2.2.2.2.1)
theorem arO (s:cz) (Q:Sum cz aE->Prop):wps te Cw av 1000 (aU (aj Tryz.f106) 2) (sB.inj s) (bY sB WJ (Q:Sum sB.T aE->Prop))=(sF s).wpR Q:=by kernel_rfl
def AN (g2_2:cz->jW) (s:cz):OT aE:=(.ok ⟨(.exit 2,qn),g2_2 s⟩)
def sA:Shape:=⟨163,[(4,.ptr 0 0 0),(8,.ptr 1 0 0),(10,.ptr 2 0 0),(12,.ptr 3 0 0),(14,.ptr 4 0 0),(15,.val false .int)],[(0,.row .u64),(1,.row .u64),(2,.row .u64),(3,.row .u64),(4,.row (.arr 16 .int))],0,true⟩
abbrev cy:Type:=((Unit)×(Unit)×(Unit)×(Unit)×(Unit)×(Int)×Unit)×((List (UInt64))×(List (UInt64))×(List (UInt64))×(List (UInt64))×(List (List (Int)))×Unit)
def qm:Shape:=⟨163,[(4,.ptr 0 0 0),(8,.ptr 1 0 0),(10,.ptr 2 0 0)],[(0,.row .u64),(1,.row .u64),(2,.row .u64)],0,true⟩
abbrev jV:Type:=((Unit)×(Unit)×(Unit)×Unit)×((List (UInt64))×(List (UInt64))×(List (UInt64))×Unit)
def WI:SE->Option Shape:=fC [(4,qm)] none
def arW (a15:Int) (c0:List (UInt64)) (c1:List (UInt64)) (c2:List (UInt64)) (c3:List (UInt64)) (c4:List (List (Int))):OT (Sum cy aE):=
 let z0:Int:=Int.tmod a15 (10:Int)
 let z1:Nat:=List.length c2
 let z2:List Int:=List.getD c4 (Int.toNat z0+0) [(0:Int),(0:Int),(0:Int),(0:Int),(0:Int),(0:Int),(0:Int),(0:Int),(0:Int),(0:Int),(0:Int),(0:Int),(0:Int),(0:Int),(0:Int),(0:Int)]
 let z3:Int:=List.getD z2 0 (0:Int)
 let z4:Nat:=List.length c3
 let z5:Int:=List.getD z2 1 (0:Int)
 let z6:Nat:=Int.toNat (0:Int)
 let z7:Nat:=Int.toNat (4:Int)
 let z8:Nat:=Int.toNat (8:Int)
 let z9:Nat:=Int.toNat (12:Int)
 let z10:List UInt64:=lay c2 (BD (tab c2 16 (0:UInt64)) z6 z7 z8 z9 (List.getD c3 (Int.toNat z3+0) (0:UInt64)) (List.getD c3 (Int.toNat z5+0) (0:UInt64))) 16 (0:UInt64)
 let z11:Nat:=List.length z10
 let z12:Int:=List.getD z2 2 (0:Int)
 let z13:Int:=List.getD z2 3 (0:Int)
 let z14:Nat:=Int.toNat (1:Int)
 let z15:Nat:=Int.toNat (5:Int)
 let z16:Nat:=Int.toNat (9:Int)
 let z17:Nat:=Int.toNat (13:Int)
 let z18:List UInt64:=lay z10 (BD (tab z10 16 (0:UInt64)) z14 z15 z16 z17 (List.getD c3 (Int.toNat z12+0) (0:UInt64)) (List.getD c3 (Int.toNat z13+0) (0:UInt64))) 16 (0:UInt64)
 let z19:Nat:=List.length z18
 let z20:Int:=List.getD z2 4 (0:Int)
 let z21:Int:=List.getD z2 5 (0:Int)
 let z22:Nat:=Int.toNat (2:Int)
 let z23:Nat:=Int.toNat (6:Int)
 let z24:Nat:=Int.toNat (10:Int)
 let z25:Nat:=Int.toNat (14:Int)
 let z26:List UInt64:=lay z18 (BD (tab z18 16 (0:UInt64)) z22 z23 z24 z25 (List.getD c3 (Int.toNat z20+0) (0:UInt64)) (List.getD c3 (Int.toNat z21+0) (0:UInt64))) 16 (0:UInt64)
 let z27:Nat:=List.length z26
 let z28:Int:=List.getD z2 6 (0:Int)
 let z29:Int:=List.getD z2 7 (0:Int)
 let z30:Nat:=Int.toNat (3:Int)
 let z31:Nat:=Int.toNat (7:Int)
 let z32:Nat:=Int.toNat (11:Int)
 let z33:Nat:=Int.toNat (15:Int)
 let z34:List UInt64:=lay z26 (BD (tab z26 16 (0:UInt64)) z30 z31 z32 z33 (List.getD c3 (Int.toNat z28+0) (0:UInt64)) (List.getD c3 (Int.toNat z29+0) (0:UInt64))) 16 (0:UInt64)
 let z35:Nat:=List.length z34
 let z36:Int:=List.getD z2 8 (0:Int)
 let z37:Int:=List.getD z2 9 (0:Int)
 let z38:List UInt64:=lay z34 (BD (tab z34 16 (0:UInt64)) z6 z15 z24 z33 (List.getD c3 (Int.toNat z36+0) (0:UInt64)) (List.getD c3 (Int.toNat z37+0) (0:UInt64))) 16 (0:UInt64)
 let z39:Nat:=List.length z38
 let z40:Int:=List.getD z2 10 (0:Int)
 let z41:Int:=List.getD z2 11 (0:Int)
 let z42:List UInt64:=lay z38 (BD (tab z38 16 (0:UInt64)) z14 z23 z32 z9 (List.getD c3 (Int.toNat z40+0) (0:UInt64)) (List.getD c3 (Int.toNat z41+0) (0:UInt64))) 16 (0:UInt64)
 let z43:Nat:=List.length z42
 let z44:Int:=List.getD z2 12 (0:Int)
 let z45:Int:=List.getD z2 13 (0:Int)
 let z46:List UInt64:=lay z42 (BD (tab z42 16 (0:UInt64)) z22 z31 z8 z17 (List.getD c3 (Int.toNat z44+0) (0:UInt64)) (List.getD c3 (Int.toNat z45+0) (0:UInt64))) 16 (0:UInt64)
 let z47:Nat:=List.length z46
 let z48:Int:=List.getD z2 14 (0:Int)
 let z49:Int:=List.getD z2 15 (0:Int)
 (.br (decide (a15<(12:Int)))
 (gd [inB z0 10,decide (Int.toNat z0+0<List.length c4),decide (16<=z1),inB z3 16,decide (Int.toNat z3+0<z4),inB z5 16,decide (Int.toNat z5+0<z4),decide ((16/1:Nat)+0<=z1),decide (16<=z11),inB z12 16,decide (Int.toNat z12+0<z4),inB z13 16,decide (Int.toNat z13+0<z4),decide ((16/1:Nat)+0<=z11),decide (16<=z19),inB z20 16,decide (Int.toNat z20+0<z4),inB z21 16,decide (Int.toNat z21+0<z4),decide ((16/1:Nat)+0<=z19),decide (16<=z27),inB z28 16,decide (Int.toNat z28+0<z4),inB z29 16,decide (Int.toNat z29+0<z4),decide ((16/1:Nat)+0<=z27),decide (16<=z35),inB z36 16,decide (Int.toNat z36+0<z4),inB z37 16,decide (Int.toNat z37+0<z4),decide ((16/1:Nat)+0<=z35),decide (16<=z39),inB z40 16,decide (Int.toNat z40+0<z4),inB z41 16,decide (Int.toNat z41+0<z4),decide ((16/1:Nat)+0<=z39),decide (16<=z43),inB z44 16,decide (Int.toNat z44+0<z4),inB z45 16,decide (Int.toNat z45+0<z4),decide ((16/1:Nat)+0<=z43),decide (16<=z47),inB z48 16,decide (Int.toNat z48+0<z4),inB z49 16,decide (Int.toNat z49+0<z4),decide ((16/1:Nat)+0<=z47),inR (a15+(1:Int))] (.ok (.inl (((),((),((),((),((),(a15+(1:Int),())))))),(c0,(c1,(lay z46 (BD (tab z46 16 (0:UInt64)) z30 z7 z16 z25 (List.getD c3 (Int.toNat z48+0) (0:UInt64)) (List.getD c3 (Int.toNat z49+0) (0:UInt64))) 16 (0:UInt64),(c3,(c4,())))))))))
 (.ok (.inr ⟨(.exit 4,qm),(((),((),((),()))),(c0,(c1,(c2,()))))⟩)))
def sE (s:cy):OT (Sum cy aE):=arW (s.1.2.2.2.2.2.1) (s.2.1) (s.2.2.1) (s.2.2.2.1) (s.2.2.2.2.1) (s.2.2.2.2.2.1)
theorem arN (s:cy) (Q:Sum cy aE->Prop):wps te Cw av 1000 (aU (aj Tryz.f106) 4) (sA.inj s) (bY sA WI (Q:Sum sA.T aE->Prop))=(sE s).wpR Q:=by kernel_rfl
def AM (g4_4:cy->jV) (s:cy):OT aE:=(.ok ⟨(.exit 4,qm),g4_4 s⟩)
def sy:Shape:=⟨163,[(4,.ptr 0 0 0),(8,.ptr 1 0 0),(10,.ptr 2 0 0),(17,.val false .int)],[(0,.row .u64),(1,.row .u64),(2,.row .u64)],0,true⟩
abbrev cx:Type:=((Unit)×(Unit)×(Unit)×(Int)×Unit)×((List (UInt64))×(List (UInt64))×(List (UInt64))×Unit)
def ql:Shape:=⟨163,[(4,.ptr 0 0 0),(8,.ptr 1 0 0)],[(0,.row .u64),(1,.row .u64)],0,true⟩
abbrev jU:Type:=((Unit)×(Unit)×Unit)×((List (UInt64))×(List (UInt64))×Unit)
def WH:SE->Option Shape:=fC [(6,ql)] none
def arV (a17:Int) (c0:List (UInt64)) (c1:List (UInt64)) (c2:List (UInt64)):OT (Sum cx aE):=
 let z0:Bool:=inB a17 8
 let z1:Bool:=decide (Int.toNat a17+0<List.length c0)
 let z2:Nat:=List.length c2
 (.br (decide (a17<(8:Int)))
 (gd [z0,z1,inB a17 16,decide (Int.toNat a17+0<z2),inR (a17+(8:Int)),inB (a17+(8:Int)) 16,decide (Int.toNat (a17+(8:Int))+0<z2),z0,z1,inR (a17+(1:Int))] (.ok (.inl (((),((),((),(a17+(1:Int),())))),(List.set c0 (Int.toNat a17+0) (List.getD c0 (Int.toNat a17+0) (0:UInt64)^^^(List.getD c2 (Int.toNat a17+0) (0:UInt64)^^^List.getD c2 (Int.toNat (a17+(8:Int))+0) (0:UInt64))),(c1,(c2,())))))))
 (.ok (.inr ⟨(.exit 6,ql),(((),((),())),(c0,(c1,())))⟩)))
def sD (s:cx):OT (Sum cx aE):=arV (s.1.2.2.2.1) (s.2.1) (s.2.2.1) (s.2.2.2.1)
theorem arM (s:cx) (Q:Sum cx aE->Prop):wps te Cw av 1000 (aU (aj Tryz.f106) 6) (sy.inj s) (bY sy WH (Q:Sum sy.T aE->Prop))=(sD s).wpR Q:=by kernel_rfl
def AL (g6_6:cx->jU) (s:cx):OT aE:=(.ok ⟨(.exit 6,ql),g6_6 s⟩)
def AK:az:=⟨[.val true (.arr 8 .u64)],[],false⟩
def Pw:SV->Option az:=λ_=>some AK
def SK (ok0:cA->Bool) (g0_0:cA->jX) (ok2:cz->Bool) (g2_2:cz->jW) (ok4:cy->Bool) (g4_4:cy->jV) (ok6:cx->Bool) (g6_6:cx->jU) (a0:List (UInt64)) (a1:List (UInt8)) (a2:UInt64) (a3:Bool):OT im.Y:=
 let z0:List UInt64×PUnit:=([(0:UInt64),(0:UInt64),(0:UInt64),(0:UInt64),(0:UInt64),(0:UInt64),(0:UInt64),(0:UInt64),(0:UInt64),(0:UInt64),(0:UInt64),(0:UInt64),(0:UInt64),(0:UInt64),(0:UInt64),(0:UInt64)],())
 let z1:(List UInt8×UInt64×Bool×PUnit×PUnit×PUnit×PUnit×Int×PUnit)×List UInt64×List UInt64×List UInt64×List UInt64×PUnit:=((a1,a2,a3,(),(),(),(),(0:Int),()),tab a0 8 (0:UInt64),[(0:UInt64),(0:UInt64),(0:UInt64),(0:UInt64),(0:UInt64),(0:UInt64),(0:UInt64),(0:UInt64)],[(7640891576956012808:UInt64),(13503953896175478587:UInt64),(4354685564936845355:UInt64),(11912009170470909681:UInt64),(5840696475078001361:UInt64),(11170449401992604703:UInt64),(2270897969802886507:UInt64),(6620516959819538809:UInt64)],z0)
 let z2:(List UInt8×UInt64×Bool×PUnit×PUnit×PUnit×PUnit)×List UInt64×List UInt64×List UInt64×PUnit:=g0_0 z1
 let z3:=z2.snd
 let z4:=z3.snd
 let z5:=z4.snd.fst
 let z6:Bool:=decide (12<List.length z5)
 let z7:=z2.fst
 let z8:=z7.snd
 let z9:List UInt64:=List.set z5 12 (List.getD z5 12 0^^^z8.fst)
 let z10:Bool:=decide (14<List.length z9)
 let z11:List UInt8×PUnit×PUnit×PUnit×PUnit×Int×PUnit:=(z7.fst,(),(),(),(),(0:Int),())
 let z12:=z3.fst
 let z13:=z4.fst
 let z14:(List UInt8×PUnit×PUnit×PUnit×PUnit×Int×PUnit)×List UInt64×List UInt64×List UInt64×List UInt64×PUnit:=(z11,z12,z13,List.set z9 14 (List.getD z9 14 0^^^(18446744073709551615:UInt64)),z0)
 let z15:PUnit×PUnit×PUnit×PUnit×PUnit×Int×PUnit:=((),(),(),(),(),(0:Int),())
 let z16:=(g2_2 z14).snd
 let z17:=z16.snd
 let z18:=z17.snd
 let z19:List (List Int)×PUnit:=([[(0:Int),(1:Int),(2:Int),(3:Int),(4:Int),(5:Int),(6:Int),(7:Int),(8:Int),(9:Int),(10:Int),(11:Int),(12:Int),(13:Int),(14:Int),(15:Int)],[(14:Int),(10:Int),(4:Int),(8:Int),(9:Int),(15:Int),(13:Int),(6:Int),(1:Int),(12:Int),(0:Int),(2:Int),(11:Int),(7:Int),(5:Int),(3:Int)],[(11:Int),(8:Int),(12:Int),(0:Int),(5:Int),(2:Int),(15:Int),(13:Int),(10:Int),(14:Int),(3:Int),(6:Int),(7:Int),(1:Int),(9:Int),(4:Int)],[(7:Int),(9:Int),(3:Int),(1:Int),(13:Int),(12:Int),(11:Int),(14:Int),(2:Int),(6:Int),(5:Int),(10:Int),(4:Int),(0:Int),(15:Int),(8:Int)],[(9:Int),(0:Int),(5:Int),(7:Int),(2:Int),(4:Int),(10:Int),(15:Int),(14:Int),(1:Int),(11:Int),(12:Int),(6:Int),(8:Int),(3:Int),(13:Int)],[(2:Int),(12:Int),(6:Int),(10:Int),(0:Int),(11:Int),(8:Int),(3:Int),(4:Int),(13:Int),(7:Int),(5:Int),(15:Int),(14:Int),(1:Int),(9:Int)],[(12:Int),(5:Int),(1:Int),(15:Int),(14:Int),(13:Int),(4:Int),(10:Int),(0:Int),(7:Int),(6:Int),(3:Int),(9:Int),(2:Int),(8:Int),(11:Int)],[(13:Int),(11:Int),(7:Int),(14:Int),(12:Int),(1:Int),(3:Int),(9:Int),(5:Int),(0:Int),(15:Int),(4:Int),(8:Int),(6:Int),(2:Int),(10:Int)],[(6:Int),(15:Int),(14:Int),(9:Int),(11:Int),(3:Int),(0:Int),(8:Int),(12:Int),(2:Int),(13:Int),(7:Int),(1:Int),(4:Int),(10:Int),(5:Int)],[(10:Int),(2:Int),(8:Int),(4:Int),(7:Int),(6:Int),(1:Int),(5:Int),(15:Int),(11:Int),(9:Int),(14:Int),(3:Int),(12:Int),(13:Int),(0:Int)]],())
 let z20:(PUnit×PUnit×PUnit×PUnit×PUnit×Int×PUnit)×List UInt64×List UInt64×List UInt64×List UInt64×List (List Int)×PUnit:=(z15,z16.fst,z17.fst,z18.fst,z18.snd.fst,z19)
 let z21:PUnit×PUnit×PUnit×Int×PUnit:=((),(),(),(0:Int),())
 let z22:=(g4_4 z20).snd
 let z23:=z22.snd
 let z24:(PUnit×PUnit×PUnit×Int×PUnit)×List UInt64×List UInt64×List UInt64×PUnit:=(z21,z22.fst,z23.fst,z23.snd.fst,())
 let z25:=(g6_6 z24).snd
 let z26:=z25.fst
 let z27:=z25.snd.fst
 let z28:List UInt64:=lay z27 z26 8 (0:UInt64)
 let z29:(List UInt8×PUnit×PUnit×PUnit×PUnit×Int×PUnit)×List UInt64×List UInt64×List UInt64×List UInt64×PUnit:=(z11,z12,z13,z9,z0)
 let z30:=(g2_2 z29).snd
 let z31:=z30.snd
 let z32:=z31.snd
 let z33:(PUnit×PUnit×PUnit×PUnit×PUnit×Int×PUnit)×List UInt64×List UInt64×List UInt64×List UInt64×List (List Int)×PUnit:=(z15,z30.fst,z31.fst,z32.fst,z32.snd.fst,z19)
 let z34:=(g4_4 z33).snd
 let z35:=z34.snd
 let z36:(PUnit×PUnit×PUnit×Int×PUnit)×List UInt64×List UInt64×List UInt64×PUnit:=(z21,z34.fst,z35.fst,z35.snd.fst,())
 let z37:=(g6_6 z36).snd
 let z38:=z37.fst
 let z39:=z37.snd.fst
 let z40:List UInt64:=lay z39 z38 8 (0:UInt64)
 (gd [ok0 z1,z6,z6] (.br (z8.snd.fst)
 (gd [z10,z10,ok2 z14,ok4 z20,ok6 z24,decide (8<=List.length z26),decide ((8/1:Nat)+0<=List.length z27),decide (8<=List.length z28)] (.ok ⟨AK,((tab z28 8 (0:UInt64),()),())⟩))
 (gd [ok2 z29,ok4 z33,ok6 z36,decide (8<=List.length z38),decide ((8/1:Nat)+0<=List.length z39),decide (8<=List.length z40)] (.ok ⟨AK,((tab z40 8 (0:UInt64),()),())⟩))))
theorem ay2 (ok0:cA->Bool) (g0_0:cA->jX) (ok2:cz->Bool) (g2_2:cz->jW) (ok4:cy->Bool) (g4_4:cy->jV) (ok6:cx->Bool) (g6_6:cx->jU) (x:DT) (Q:im.Y->Prop):wpf te Cw (aO 6 (cl sy 6 ok6 (AL g6_6)) (aO 4 (cl sA 4 ok4 (AM g4_4)) (aO 2 (cl sB 2 ok2 (AN g2_2)) (aO 0 (cl sC 0 ok0 (AO g0_0)) av)))) 1000 Tryz.f106 (im.inp.inj x).tm (im.inp.inj x).hp (fnK im Pw Q) (λ_ _=>False)=(SK ok0 g0_0 ok2 g2_2 ok4 g4_4 ok6 g6_6 (x.1.1) (x.1.2.1) (x.1.2.2.1) (x.1.2.2.2.1)).wpR Q:=by kernel_rfl
theorem ab6 (ok0:cA->Bool) (g0_0:cA->jX) (ok2:cz->Bool) (g2_2:cz->jW) (ok4:cy->Bool) (g4_4:cy->jV) (ok6:cx->Bool) (g6_6:cx->jU) (h0:∀ s:cA,ok0 s=true->∃ m e,al (sG) m s=some e/\(AO g0_0 s).run=some e) (h2:∀ s:cz,ok2 s=true->∃ m e,al (sF) m s=some e/\(AN g2_2 s).run=some e) (h4:∀ s:cy,ok4 s=true->∃ m e,al (sE) m s=some e/\(AM g4_4 s).run=some e) (h6:∀ s:cx,ok6 s=true->∃ m e,al (sD) m s=some e/\(AL g6_6 s).run=some e) (pre:DT->Bool) (F:DT->OT im.Y) (hF:∀ (x:DT) oy,pre x=true->(F x).run=some oy->(SK ok0 g0_0 ok2 g2_2 ok4 g4_4 ok6 g6_6 (x.1.1) (x.1.2.1) (x.1.2.2.1) (x.1.2.2.2.1)).run=some oy):ac Tryz.prog 106 (im.aI pre F):=
 aD ar mG pH (f:=106) (fn:=Tryz.f106) (c:=aj Tryz.f106) (by kernel_rfl) (by kernel_rfl) (by kernel_rfl) (S:=im) (k:=0) (by kernel_rfl) (λR hR=>(aB (c:=(aj Tryz.f106)) (by kernel_rfl) (id:=6) (by kernel_rfl) (aR ar mG pH (sh:=sy) hR (xs:=WH) (aC (by kernel_rfl) (by kernel_rfl) hR) aL af (n:=1000) (T:=sD) (λs Q=>arM s Q) (ok:=ok6) (f:=AL g6_6) h6) (aB (c:=(aj Tryz.f106)) (by kernel_rfl) (id:=4) (by kernel_rfl) (aR ar mG pH (sh:=sA) hR (xs:=WI) (aC (by kernel_rfl) (by kernel_rfl) hR) aL af (n:=1000) (T:=sE) (λs Q=>arN s Q) (ok:=ok4) (f:=AM g4_4) h4) (aB (c:=(aj Tryz.f106)) (by kernel_rfl) (id:=2) (by kernel_rfl) (aR ar mG pH (sh:=sB) hR (xs:=WJ) (aC (by kernel_rfl) (by kernel_rfl) hR) aL af (n:=1000) (T:=sF) (λs Q=>arO s Q) (ok:=ok2) (f:=AN g2_2) h2) (aB (c:=(aj Tryz.f106)) (by kernel_rfl) (id:=0) (by kernel_rfl) (aR ar mG pH (sh:=sC) hR (xs:=WK) (aC (by kernel_rfl) (by kernel_rfl) hR) aL af (n:=1000) (T:=sG) (λs Q=>arP s Q) (ok:=ok0) (f:=AO g0_0) h0) af))))) (n:=1000) (sel:=Pw) (λv o h=>by cases h;rfl) (pre:=pre) (F:=F) (T:=λx=>SK ok0 g0_0 ok2 g2_2 ok4 g4_4 ok6 g6_6 (x.1.1) (x.1.2.1) (x.1.2.2.1) (x.1.2.2.2.1)) (λx Q=>ay2 ok0 g0_0 ok2 g2_2 ok4 g4_4 ok6 g6_6 x Q) hF
theorem aFt {h:List UInt64} (hh:h.length=8):upto (λk v=>(v.set k (h.getD k 0)).set (k+8) (bIV.getD k 0)) (List.replicate 16 0) 8=h++bIV:=by
 have e:=jo (x:=h) (n:=8) (d:=0) hh
 rw [<-e]
 rfl
def DS (s:cA):Bool:=decide (s.1.2.2.2.2.2.2.2.1=0/\s.2.1.length=8/\s.2.2.2.1=bIV/\s.2.2.2.2.1=List.replicate 16 0)
def lF (s:cA):jX:=((s.1.1,s.1.2.1,s.1.2.2.1,(),(),(),()),(s.2.1,s.2.2.1,s.2.1++bIV,()))
theorem arU:∀ s:cA,DS s=true->∃ m e,al sG m s=some e/\(AO lF s).run=some e:=by
 rintro ⟨⟨b,t,l,⟨⟩,⟨⟩,⟨⟩,⟨⟩,i,⟨⟩⟩,⟨h,c1,c2,c3,⟨⟩⟩⟩ hh
 have h':=of_decide_eq_true hh
 dsimp only at h'
 obtain ⟨rfl,hl,rfl,rfl⟩:=h'
 have:=(aP (T:=sG) (λk v=>(((b,t,l,(),(),(),(),(k:Int),()),(h,c1,bIV,v,())):cA)) (λk v=>(v.set k (h.getD k 0)).set (k+8) (bIV.getD k 0))
  (λv=>(⟨(.exit 0,qo),((b,t,l,(),(),(),()),(h,c1,v,()))⟩:aE)) 8 (List.replicate 16 0) (λ_ v=>v.length=16) (by simp) (λk v hk hv=>⟨?_,by rw [List.length_set,List.length_set];exact hv⟩) (λv hv=> ?_)).1
 ·obtain ⟨m,hm⟩:=this
  rw [aFt hl] at hm
  exact ⟨m,_,hm,rfl⟩
 ·have e1:((k:Int)+8).toNat=k+8:=by omega
  refine (OT.ao (decide_eq_true (by dsimp only;omega))).trans ((ah ?_).trans ?_)
  ·simp only [e1,List.length_set,hl,hv,List.all_cons,List.all_nil,Bool.and_true,Bool.and_eq_true]
   exact ⟨aN (by omega),decide_eq_true (by omega),aN (by omega),decide_eq_true (by omega),aH (by omega),aN (by omega),decide_eq_true (show k+0<8 by omega),aN (by omega),decide_eq_true (by omega),aH (by omega)⟩
  ·simp only [OT.cP,e1,Nat.add_zero]
   rfl
 ·exact OT.aq (decide_eq_false (by dsimp only;omega))
def kE (b:List UInt8):List UInt64:=upto (λk m=>m.set k (il b (8*k))) (List.replicate 16 0) 16
theorem Jk (b:List UInt8):(kE b).length=16:=by
 unfold kE;rw [lj (λk v=>List.length_set)];rfl
def DR (s:cz):Bool:=decide (s.1.2.2.2.2.2.1=0/\s.2.2.2.2.1=List.replicate 16 0)
def ob (s:cz):jW:=(((),(),(),(),()),(s.2.1,s.2.2.1,s.2.2.2.1,kE s.1.1,()))
theorem arT:∀ s:cz,DR s=true->∃ m e,al sF m s=some e/\(AN ob s).run=some e:=by
 rintro ⟨⟨b,⟨⟩,⟨⟩,⟨⟩,⟨⟩,i,⟨⟩⟩,⟨c0,c1,c2,c3,⟨⟩⟩⟩ hh
 have h':=of_decide_eq_true hh
 dsimp only at h'
 obtain ⟨rfl,rfl⟩:=h'
 have:=(aP (T:=sF) (λk m=>(((b,(),(),(),(),(k:Int),()),(c0,c1,c2,m,())):cz)) (λk m=>m.set k (il b (8*k)))
  (λm=>(⟨(.exit 2,qn),(((),(),(),(),()),(c0,c1,c2,m,()))⟩:aE)) 16 (List.replicate 16 0) (λ_ m=>m.length=16) (by simp) (λk m hk hm=>⟨?_,by rw [List.length_set];exact hm⟩) (λm hm=> ?_)).1
 ·obtain ⟨n,hn⟩:=this
  exact ⟨n,_,hn,rfl⟩
 ·have e1:(8*(k:Int)).toNat=8*k:=by omega
  refine (OT.ao (decide_eq_true (by dsimp only;omega))).trans ((ah ?_).trans ?_)
  ·simp only [e1,hm,List.all_cons,List.all_nil,Bool.and_true,Bool.and_eq_true]
   exact ⟨aH (by omega),decide_eq_true (by dsimp only;omega),aN (by omega),decide_eq_true (by omega),aH (by omega)⟩
  ·simp only [OT.cP,e1,Nat.add_zero]
   rfl
 ·exact OT.aq (decide_eq_false (by dsimp only;omega))
def Og (k:Nat):List Int:=OV.getD (k%10) (List.replicate 16 0)
theorem ab0 (k:Nat) {j:Nat} (hj:j<16):nib ((rowAt k).getD j 0)=(Og k).getD j 0/\inB ((Og k).getD j 0) 16=true:=by
 have hk:k%10<10:=Nat.mod_lt _ (by decide)
 unfold rowAt Og
 generalize k%10=r at hk
 have h:∀ r:Fin 10,∀ j:Fin 16,nib ((gF.getD r.val []).getD j.val 0)=(OV.getD r.val (List.replicate 16 0)).getD j.val 0/\inB ((OV.getD r.val (List.replicate 16 0)).getD j.val 0) 16=true:=by decide+kernel
 exact h ⟨r,hk⟩ ⟨j,hj⟩
theorem aIJ (m:List UInt64) (k:Nat) {j:Nat} (hj:j<16):atF m (rowAt k) (j:Int)=m.getD ((Og k).getD j 0).toNat 0:=by
 unfold atF
 rw [Int.toNat_natCast,(ab0 k hj).1]
theorem atL {v:List UInt64} (hv:v.length=16) (a b c d:Nat) (x y:UInt64):lay v (BD (tab v 16 0) a b c d x y) 16 0=BD v a b c d x y:=by
 rw [jo hv]
 exact xE hv (by rw [fX];exact hv)
def ail (m:List UInt64) (k:Nat) (v:List UInt64):List UInt64:=
 let g:=λj=>m.getD ((Og k).getD j 0).toNat 0
 BD (BD (BD (BD (BD (BD (BD (BD v 0 4 8 12 (g 0) (g 1)) 1 5 9 13 (g 2) (g 3)) 2 6 10 14 (g 4) (g 5)) 3 7 11 15 (g 6) (g 7)) 0 5 10 15 (g 8) (g 9)) 1 6 11 12 (g 10) (g 11)) 2 7 8 13 (g 12) (g 13)) 3 4 9 14 (g 14) (g 15)
theorem ayV (m:List UInt64) (k:Nat) (v:List UInt64):YI m (rowAt k) (YJ m (rowAt k) v)=ail m k v:=by
 have h:=λ{j:Nat} (hj:j<16)=>aIJ m k hj
 have a0:atF m (rowAt k) (2*((0:Nat):Int))=m.getD ((Og k).getD 0 0).toNat 0:=h (j:=0) (by decide)
 have a1:atF m (rowAt k) (2*((0:Nat):Int)+1)=m.getD ((Og k).getD 1 0).toNat 0:=h (j:=1) (by decide)
 have a2:atF m (rowAt k) (2*((1:Nat):Int))=m.getD ((Og k).getD 2 0).toNat 0:=h (j:=2) (by decide)
 have a3:atF m (rowAt k) (2*((1:Nat):Int)+1)=m.getD ((Og k).getD 3 0).toNat 0:=h (j:=3) (by decide)
 have a4:atF m (rowAt k) (2*((2:Nat):Int))=m.getD ((Og k).getD 4 0).toNat 0:=h (j:=4) (by decide)
 have a5:atF m (rowAt k) (2*((2:Nat):Int)+1)=m.getD ((Og k).getD 5 0).toNat 0:=h (j:=5) (by decide)
 have a6:atF m (rowAt k) (2*((3:Nat):Int))=m.getD ((Og k).getD 6 0).toNat 0:=h (j:=6) (by decide)
 have a7:atF m (rowAt k) (2*((3:Nat):Int)+1)=m.getD ((Og k).getD 7 0).toNat 0:=h (j:=7) (by decide)
 have a8:atF m (rowAt k) (8+2*((0:Nat):Int))=m.getD ((Og k).getD 8 0).toNat 0:=h (j:=8) (by decide)
 have a9:atF m (rowAt k) (9+2*((0:Nat):Int))=m.getD ((Og k).getD 9 0).toNat 0:=h (j:=9) (by decide)
 have a10:atF m (rowAt k) (8+2*((1:Nat):Int))=m.getD ((Og k).getD 10 0).toNat 0:=h (j:=10) (by decide)
 have a11:atF m (rowAt k) (9+2*((1:Nat):Int))=m.getD ((Og k).getD 11 0).toNat 0:=h (j:=11) (by decide)
 have a12:atF m (rowAt k) (8+2*((2:Nat):Int))=m.getD ((Og k).getD 12 0).toNat 0:=h (j:=12) (by decide)
 have a13:atF m (rowAt k) (9+2*((2:Nat):Int))=m.getD ((Og k).getD 13 0).toNat 0:=h (j:=13) (by decide)
 have a14:atF m (rowAt k) (8+2*((3:Nat):Int))=m.getD ((Og k).getD 14 0).toNat 0:=h (j:=14) (by decide)
 have a15:atF m (rowAt k) (9+2*((3:Nat):Int))=m.getD ((Og k).getD 15 0).toNat 0:=h (j:=15) (by decide)
 simp only [YJ,YI,upto,a0,a1,a2,a3,a4,a5,a6,a7,a8,a9,a10,a11,a12,a13,a14,a15,Nat.reduceAdd,Nat.reduceMod,ail]
def DQ (s:cy):Bool:=decide (s.1.2.2.2.2.2.1=0/\s.2.2.2.1.length=16/\s.2.2.2.2.1.length=16/\s.2.2.2.2.2.1=OV)
def oa (s:cy):jV:=(((),(),(),()),(s.2.1,s.2.2.1,kD s.2.2.2.2.1 s.2.2.2.1,()))
theorem arS:∀ s:cy,DQ s=true->∃ m e,al sE m s=some e/\(AM oa s).run=some e:=by
 rintro ⟨⟨⟨⟩,⟨⟩,⟨⟩,⟨⟩,⟨⟩,i,⟨⟩⟩,⟨c0,c1,v,m,c4,⟨⟩⟩⟩ hh
 have h':=of_decide_eq_true hh
 dsimp only at h'
 obtain ⟨rfl,hv,hm,rfl⟩:=h'
 have:=(aP (T:=sE) (λk v=>((((),(),(),(),(),(k:Int),()),(c0,c1,v,m,OV,())):cy)) (λk v=>YI m (rowAt k) (YJ m (rowAt k) v))
  (λv=>(⟨(.exit 4,qm),(((),(),(),()),(c0,c1,v,()))⟩:aE)) 12 v (λ_ v=>v.length=16) hv (λk v hk hv=>⟨?_,by rw [tw,nt];exact hv⟩) (λv hv=> ?_)).1
 ·obtain ⟨n,hn⟩:=this
  exact ⟨n,_,hn,rfl⟩
 ·have t1:Int.tmod (k:Int) 10=((k%10:Nat):Int):=by rw [Int.tmod_eq_emod_of_nonneg (by omega)];omega
  have e1:((k%10:Nat):Int).toNat=k%10:=by omega
  have hrow:OV.getD (k%10) [0,0,0,0,0,0,0,0,0,0,0,0,0,0,0,0]=Og k:=rfl
  have hb:=λ{j:Nat} (hj:j<16)=>(ab0 k hj).2
  have hn:=λ{j:Nat} (hj:j<16)=>xG (ab0 k hj).2
  refine (OT.ao (decide_eq_true (by dsimp only;omega))).trans ((ah ?_).trans ?_)
  ·simp only [t1,e1,Nat.add_zero,hrow,atL,gw,fX,hv,hm,hb,hn,List.all_cons,List.all_nil,Bool.and_true,Bool.and_eq_true,decide_true,Nat.le_refl,Nat.reduceLT,true_and,Nat.reduceDiv]
   exact ⟨aN (by omega),decide_eq_true (show k%10<10 by omega),aH (by omega)⟩
  ·simp only [OT.cP,t1,e1,Nat.add_zero,hrow,atL,gw,fX,hv,ayV]
   rfl
 ·exact OT.aq (decide_eq_false (by dsimp only;omega))
def DP (s:cx):Bool:=decide (s.1.2.2.2.1=0/\s.2.1.length=8/\s.2.2.2.1.length=16)
def n9 (s:cx):jU:=(((),(),()),(KQ s.2.1 s.2.2.2.1,s.2.2.1,()))
theorem arR:∀ s:cx,DP s=true->∃ m e,al sD m s=some e/\(AL n9 s).run=some e:=by
 rintro ⟨⟨⟨⟩,⟨⟩,⟨⟩,i,⟨⟩⟩,⟨h,c1,v,⟨⟩⟩⟩ hh
 have h':=of_decide_eq_true hh
 dsimp only at h'
 obtain ⟨rfl,hl,hv⟩:=h'
 have:=(aP (T:=sD) (λk h=>((((),(),(),(k:Int),()),(h,c1,v,())):cx)) (λk h=>h.set k (h.getD k 0^^^(v.getD k 0^^^v.getD (k+8) 0)))
  (λh=>(⟨(.exit 6,ql),(((),(),()),(h,c1,()))⟩:aE)) 8 h (λ_ h=>h.length=8) hl (λk h hk hl=>⟨?_,by rw [List.length_set];exact hl⟩) (λh hl=> ?_)).1
 ·obtain ⟨n,hn⟩:=this
  exact ⟨n,_,hn,rfl⟩
 ·have e1:((k:Int)+8).toNat=k+8:=by omega
  refine (OT.ao (decide_eq_true (by dsimp only;omega))).trans ((ah ?_).trans ?_)
  ·simp only [e1,hl,hv,List.all_cons,List.all_nil,Bool.and_true,Bool.and_eq_true]
   exact ⟨aN (by omega),decide_eq_true (by omega),aN (by omega),decide_eq_true (by omega),aH (by omega),aN (by omega),decide_eq_true (by omega),aN (by omega),decide_eq_true (by omega),aH (by omega)⟩
  ·simp only [OT.cP,e1,Nat.add_zero]
   rfl
 ·exact OT.aq (decide_eq_false (by dsimp only;omega))
theorem aBv (x:UInt64):x^^^18446744073709551615= ~~~x:=by
 rw [<-UInt64.toBitVec_inj]
 show x.toBitVec^^^BitVec.allOnes 64= ~~~ x.toBitVec
 exact BitVec.xor_allOnes
theorem SJ {b:List UInt8} {t:UInt64} {l:Bool} {h c1:List UInt64} (hh:h.length=8):DS ((b,t,l,(),(),(),(),0,()),(h,c1,bIV,[0,0,0,0,0,0,0,0,0,0,0,0,0,0,0,0],()))=true:=decide_eq_true ⟨rfl,hh,rfl,rfl⟩
theorem AJ {b:List UInt8} {c0 c1 c2:List UInt64}:DR ((b,(),(),(),(),0,()),(c0,c1,c2,[0,0,0,0,0,0,0,0,0,0,0,0,0,0,0,0],()))=true:=decide_eq_true ⟨rfl,rfl⟩
theorem AH {c0 c1 v m:List UInt64} (hv:v.length=16) (hm:m.length=16):DQ (((),(),(),(),(),0,()),(c0,c1,v,m,OV,()))=true:=decide_eq_true ⟨rfl,hv,hm,rfl⟩
theorem AG {c0 c1 v:List UInt64} (h0:c0.length=8) (hv:v.length=16):DP (((),(),(),0,()),(c0,c1,v,()))=true:=decide_eq_true ⟨rfl,h0,hv⟩
def dJ (h:List UInt64) (b:List UInt8) (t:UInt64) (last:Bool):List UInt64:=KQ h (kD (kE b) (rZ h t last))
def Px (x:DT):Bool:=decide (x.1.1.length=8)
def ain (x:DT):OT im.Y:=.ok ⟨AK,((dJ x.1.1 x.1.2.1 x.1.2.2.1 x.1.2.2.2.1,()),())⟩
theorem arQ:ac Tryz.prog 106 (im.aI Px ain):=ab6 DS lF DR ob DQ oa DP n9 arU arT arS arR _ _ λx oy hp ho=>by
 rw [<-ho]
 clear ho
 obtain ⟨⟨h,b,t,last,⟨⟩⟩,⟨⟩⟩:=x
 have hh:h.length=8:=of_decide_eq_true hp
 have t1:tab h 8 0=h:=jo hh
 have hv:∀ c l,(rZ h c l).length=16:=λc l=>by
  unfold rZ
  cases l<;>simp [hh]<;>rfl
 have hm:(kE b).length=16:=Jk b
 have hr:∀ c l,(kD (kE b) (rZ h c l)).length=16:=λc l=>by rw [sn];exact hv c l
 have hM:∀ c l,(dJ h b c l).length=8:=λc l=>by unfold dJ;rw [kJ];exact hh
 have hi:(h++bIV).length=16:=by simp [hh];rfl
 have e8: [(7640891576956012808:UInt64),13503953896175478587,4354685564936845355,11912009170470909681,5840696475078001361,11170449401992604703,2270897969802886507,6620516959819538809]=bIV:=rfl
 have key:∀ M:List UInt64,M.length=8->tab (lay [(0:UInt64),0,0,0,0,0,0,0] M 8 0) 8 0=M:=λM hM=>by rw [xE (n:=8) rfl hM,jo hM]
 have l1:List.set (h++bIV) 12 ((h++bIV).getD 12 0^^^t)=rZ h t false:=rfl
 have l2:List.set (rZ h t false) 14 (~~~(rZ h t false).getD 14 0)=rZ h t true:=rfl
 have l3:∀ c l,KQ h (kD (kE b) (rZ h c l))=dJ h b c l:=λ_ _=>rfl
 have l4:tab OV 10 (List.replicate 16 0)=OV:=jo rfl
 refine (ah ?_).trans ?_
 ·simp only [t1,List.all_cons,List.all_nil,Bool.and_true,Bool.and_eq_true]
  rw [e8]
  simp only [lF,hi]
  exact ⟨SJ hh,rfl,rfl⟩
 ·cases last
  ·refine (OT.aq rfl).trans ((ah ?_).trans ?_)
   ·simp only [t1,List.all_cons,List.all_nil,Bool.and_true,Bool.and_eq_true]
    rw [e8]
    simp only [lF,ob,oa,n9,l1,l3,gw,hM]
    exact ⟨AJ,AH (hv _ _) hm,AG hh (hr _ _),rfl,rfl,rfl⟩
   ·simp only [t1]
    rw [e8]
    simp only [lF,ob,oa,n9,l1,l3]
    rw [key _ (hM _ _)]
    rfl
  ·refine (OT.ao rfl).trans ((ah ?_).trans ?_)
   ·simp only [t1,List.all_cons,List.all_nil,Bool.and_true,Bool.and_eq_true]
    rw [e8]
    simp only [lF,ob,oa,n9,l1,aBv,l2,l3,gw,hM,hv]
    exact ⟨rfl,rfl,AJ,AH (hv _ _) hm,AG hh (hr _ _),rfl,rfl,rfl⟩
   ·simp only [t1]
    rw [e8]
    simp only [lF,ob,oa,n9,l1,aBv,l2,l3]
    rw [key _ (hM _ _)]
    rfl
def yt:cn:=(im.aI Px ain)
theorem WM:ac Tryz.prog 106 yt:=arQ
theorem WL:aG yt:=aA
def ry:Env:=ay 106 yt Cw
theorem mH:aQ Tryz.prog ry:=ag WM mG
theorem Cy:ax ry:=ae WL M3
theorem uA:aW Tryz.prog te ry:=aJ follows ar mH Cy
def sf:aw:=⟨[.val false .str,.val false .int,.val false (.list .u8)],[],true,0,false⟩
abbrev alq:Type:=((List UInt8)×(Int)×(List (UInt8))×Unit)×(Unit)
def I9:Shape:=⟨90,[(1,.val false .int),(2,.val false (.list .u8)),(8,.ptr 0 0 0),(9,.val false .int)],[(0,.row .u64)],0,true⟩
abbrev dI:Type:=((Int)×(List (UInt8))×(Unit)×(Int)×Unit)×((List (UInt64))×Unit)
def Av:Shape:=⟨90,[(1,.val false .int),(2,.val false (.list .u8)),(8,.ptr 0 0 0),(9,.val false .int)],[(0,.row .u64)],0,true⟩
abbrev n4:Type:=((Int)×(List (UInt8))×(Unit)×(Int)×Unit)×((List (UInt64))×Unit)
def arc:SE->Option Shape:=fC [(0,Av)] none
def aEp (a1:Int) (a2:List (UInt8)) (a9:Int) (c0:List (UInt64)):OT (Sum dI aE):=
 let z0:Nat:=List.length a2
 let z1:Nat:=List.length c0
 let z2:Bool:=inR (a9+(128:Int))
 (gd [inR ((↑z0:Int)-a9)] (.br (decide ((128:Int)<(↑z0:Int)-a9))
 (gd [decide (8<=z1),z2,dD a9 (a9+(128:Int)) z0,z2,decide ((8/1:Nat)+0<=z1),z2] (.ok (.inl ((a1,(a2,((),(a9+(128:Int),())))),(lay c0 (dJ (tab c0 8 (0:UInt64)) (List.drop (Int.toNat a9) (List.take (Int.toNat (a9+(128:Int))) a2)) (i2u (a9+(128:Int))) false) 8 (0:UInt64),())))))
 (.ok (.inr ⟨(.exit 0,Av),((a1,(a2,((),(a9,())))),(c0,()))⟩))))
def Jb (s:dI):OT (Sum dI aE):=aEp (s.1.1) (s.1.2.1) (s.1.2.2.2.1) (s.2.1)
theorem aEk (s:dI) (Q:Sum dI aE->Prop):wps te ry av 1000 (aU (aj Tryz.f63) 0) (I9.inj s) (bY I9 arc (Q:Sum I9.T aE->Prop))=(Jb s).wpR Q:=by kernel_rfl
def Su (g0_0:dI->n4) (s:dI):OT aE:=(.ok ⟨(.exit 0,Av),g0_0 s⟩)
def I8:Shape:=⟨90,[(1,.val false .int),(8,.ptr 0 0 0),(10,.own 1),(11,.val false .int)],[(0,.row .u64),(1,.row .u8)],0,true⟩
abbrev dH:Type:=((Int)×(Unit)×(Unit)×(Int)×Unit)×((List (UInt64))×(List (UInt8))×Unit)
def Au:Shape:=⟨90,[(10,.own 0)],[(0,.row .u8)],0,true⟩
abbrev n3:Type:=((Unit)×Unit)×((List (UInt8))×Unit)
def arb:SE->Option Shape:=fC [(2,Au)] none
def aEo (a1:Int) (a11:Int) (c0:List (UInt64)) (c1:List (UInt8)):OT (Sum dH aE):=
 let z0:Int:=Int.tdiv a11 (8:Int)
 let z1:Int:=(8:Int)*Int.tmod a11 (8:Int)
 (.br (decide (a11<a1))
 (gd [true&&inR z0,inB z0 8,decide (Int.toNat z0+0<List.length c0),inR z1,decide ((List.length c1+1)*1<=140737488355328),inR (a11+(1:Int))] (.ok (.inl ((a1,((),((),(a11+(1:Int),())))),(c0,(c1++ [UInt64.toUInt8 (bk (List.getD c0 (Int.toNat z0+0) (0:UInt64)) (↑(UInt64.toNat (i2u z1)):Int))],()))))))
 (.ok (.inr ⟨(.exit 2,Au),(((),()),(c1,()))⟩)))
def Ja (s:dH):OT (Sum dH aE):=aEo (s.1.1) (s.1.2.2.2.1) (s.2.1) (s.2.2.1)
theorem aEj (s:dH) (Q:Sum dH aE->Prop):wps te ry av 1000 (aU (aj Tryz.f63) 2) (I8.inj s) (bY I8 arb (Q:Sum I8.T aE->Prop))=(Ja s).wpR Q:=by kernel_rfl
def Ss (g2_2:dH->n3) (s:dH):OT aE:=(.ok ⟨(.exit 2,Au),g2_2 s⟩)
def yl:az:=⟨[.own 0,.val false .int],[(0,.row .u8)],false⟩
def ah9:SV->Option az:=λ_=>some yl
def Jc (ok0:dI->Bool) (g0_0:dI->n4) (ok2:dH->Bool) (g2_2:dH->n3) (a0:List UInt8) (a1:Int) (a2:List (UInt8)):OT sf.Y:=
 let z0:(Int×List UInt8×PUnit×Int×PUnit)×List UInt64×PUnit:=((a1,a2,(),(0:Int),()),[(7640891576956012808:UInt64)^^^(16842752:UInt64)+i2u a1,(13503953896175478587:UInt64),(4354685564936845355:UInt64),(11912009170470909681:UInt64),(5840696475078001361:UInt64),(11170449401992604703:UInt64),(2270897969802886507:UInt64)^^^il a0 (Int.toNat (0:Int)),(6620516959819538809:UInt64)^^^il a0 (Int.toNat (8:Int))],())
 let z1:(Int×List UInt8×PUnit×Int×PUnit)×List UInt64×PUnit:=g0_0 z0
 let z2:=z1.snd.fst
 let z3:Nat:=List.length z2
 let z4:=z1.fst
 let z5:=z4.snd
 let z6:=z5.snd.snd.fst
 let z7:=z5.fst
 let z8:Nat:=List.length z7
 let z9:Int:=(↑z8:Int)
 let z10:(Int×PUnit×PUnit×Int×PUnit)×List UInt64×List UInt8×PUnit:=((z4.fst,(),(),(0:Int),()),lay z2 (dJ (tab z2 8 (0:UInt64)) (List.drop (Int.toNat z6) z7) (i2u z9) true) 8 (0:UInt64),[],())
 (.br (decide ((16:Int)<(↑(List.length a0):Int)))
 (.ok ⟨yl,(((),((30:Int),())),([],()))⟩)
 (.br (decide (a1<(1:Int)))
  (.ok ⟨yl,(((),((30:Int),())),([],()))⟩)
  (.br (decide ((64:Int)<a1))
   (.ok ⟨yl,(((),((30:Int),())),([],()))⟩)
   (gd [ok0 z0,decide (8<=z3),dD z6 z9 z8,decide ((8/1:Nat)+0<=z3),ok2 z10] (.ok ⟨yl,(((),((0:Int),())),((g2_2 z10).snd.fst,()))⟩)))))
theorem aHy (ok0:dI->Bool) (g0_0:dI->n4) (ok2:dH->Bool) (g2_2:dH->n3) (x:alq) (Q:sf.Y->Prop):wpf te ry (aO 2 (cl I8 2 ok2 (Ss g2_2)) (aO 0 (cl I9 0 ok0 (Su g0_0)) av)) 1000 Tryz.f63 (sf.inp.inj x).tm (sf.inp.inj x).hp (fnK sf ah9 Q) (λ_ _=>False)=(Jc ok0 g0_0 ok2 g2_2 (x.1.1) (x.1.2.1) (x.1.2.2.1)).wpR Q:=by kernel_rfl
theorem ard (ok0:dI->Bool) (g0_0:dI->n4) (ok2:dH->Bool) (g2_2:dH->n3) (h0:∀ s:dI,ok0 s=true->∃ m e,al (Jb) m s=some e/\(Su g0_0 s).run=some e) (h2:∀ s:dH,ok2 s=true->∃ m e,al (Ja) m s=some e/\(Ss g2_2 s).run=some e) (pre:alq->Bool) (F:alq->OT sf.Y) (hF:∀ (x:alq) oy,pre x=true->(F x).run=some oy->(Jc ok0 g0_0 ok2 g2_2 (x.1.1) (x.1.2.1) (x.1.2.2.1)).run=some oy):ac Tryz.prog 63 (sf.aI pre F):=
 aD ar mH uA (f:=63) (fn:=Tryz.f63) (c:=aj Tryz.f63) (by kernel_rfl) (by kernel_rfl) (by kernel_rfl) (S:=sf) (k:=0) (by kernel_rfl) (λR hR=>(aB (c:=(aj Tryz.f63)) (by kernel_rfl) (id:=2) (by kernel_rfl) (aR ar mH uA (sh:=I8) hR (xs:=arb) (aC (by kernel_rfl) (by kernel_rfl) hR) aL af (n:=1000) (T:=Ja) (λs Q=>aEj s Q) (ok:=ok2) (f:=Ss g2_2) h2) (aB (c:=(aj Tryz.f63)) (by kernel_rfl) (id:=0) (by kernel_rfl) (aR ar mH uA (sh:=I9) hR (xs:=arc) (aC (by kernel_rfl) (by kernel_rfl) hR) aL af (n:=1000) (T:=Jb) (λs Q=>aEk s Q) (ok:=ok0) (f:=Su g0_0) h0) af))) (n:=1000) (sel:=ah9) (λv o h=>by cases h;rfl) (pre:=pre) (F:=F) (T:=λx=>Jc ok0 g0_0 ok2 g2_2 (x.1.1) (x.1.2.1) (x.1.2.2.1)) (λx Q=>aHy ok0 g0_0 ok2 g2_2 x Q) hF
def n6 (b:List UInt8) (h:List UInt64) (n:Nat):List UInt64:=upto (λk h=>dJ h ((b.take (128*k+128)).drop (128*k)) (i2u ((128*k+128:Nat):Int)) false) h n
def AD (h:List UInt64) (n:Nat):List UInt8:=upto (λk o=>o++ [UInt64.toUInt8 (bk (h.getD (k/8) 0) ((i2u (8*((k%8:Nat):Int))).toNat:Int))]) [] n
theorem fM {h:List UInt64} {b:List UInt8} {t:UInt64} {l:Bool} (hh:h.length=8):(dJ h b t l).length=8:=by unfold dJ;rw [kJ];exact hh
def Sr (s:dI):Bool:=decide (s.1.2.2.2.1=0/\s.2.1.length=8/\s.1.2.1.length<=1000000000000)
def abV (s:dI):n4:=((s.1.1,s.1.2.1,(),((128*((s.1.2.1.length-1)/128):Nat):Int),()),(n6 s.1.2.1 s.2.1 ((s.1.2.1.length-1)/128),()))
theorem aEn:∀ s:dI,Sr s=true->∃ m e,al Jb m s=some e/\(Su abV s).run=some e:=by
 rintro ⟨⟨n,b,⟨⟩,i,⟨⟩⟩,⟨h,⟨⟩⟩⟩ hh
 have h':=of_decide_eq_true hh
 dsimp only at h'
 obtain ⟨rfl,hl,hb⟩:=h'
 have:=(aP (T:=Jb) (λk h=>(((n,b,(),((128*k:Nat):Int),()),(h,())):dI)) (λk h=>dJ h ((b.take (128*k+128)).drop (128*k)) (i2u ((128*k+128:Nat):Int)) false)
  (λh=>(⟨(.exit 0,Av),((n,b,(),((128*((b.length-1)/128):Nat):Int),()),(h,()))⟩:aE)) ((b.length-1)/128) h (λ_ h=>h.length=8) hl (λk h hk hl=>⟨?_,fM hl⟩) (λh hl=> ?_)).1
 ·obtain ⟨m,hm⟩:=this
  exact ⟨m,_,hm,rfl⟩
 ·have e1:(((128*k:Nat):Int)+128).toNat=128*k+128:=by omega
  have e2:(((128*k:Nat):Int)).toNat=128*k:=by omega
  have e3:((128*k:Nat):Int)+128=((128*k+128:Nat):Int):=by omega
  have e4:((128*(k+1):Nat):Int)=((128*k+128:Nat):Int):=by omega
  have t1:tab h 8 0=h:=jo hl
  have t2:∀ c l t,lay h (dJ h c t l) 8 0=dJ h c t l:=λc l t=>xE hl (fM hl)
  refine (ah (by simp only [List.all_cons,List.all_nil,Bool.and_true];exact aH (by omega))).trans ((OT.ao (decide_eq_true (by dsimp only;omega))).trans ((ah ?_).trans ?_))
  ·simp only [hl,List.all_cons,List.all_nil,Bool.and_true,Bool.and_eq_true]
   exact ⟨rfl,aH (by omega),fB (by omega),aH (by omega),rfl,aH (by omega)⟩
  ·simp only [OT.cP,e2,e3,e4,t1,t2,Int.toNat_natCast]
 ·refine (ah (by simp only [List.all_cons,List.all_nil,Bool.and_true];exact aH (by omega))).trans (OT.aq (decide_eq_false (by dsimp only;omega)))
def Sq (s:dH):Bool:=decide (s.1.2.2.2.1=0/\s.2.1.length=8/\s.1.1<=64/\0<=s.1.1/\s.2.2.1= [])
def arf (s:dH):n3:=(((),()),(AD s.2.1 s.1.1.toNat,()))
theorem aEm:∀ s:dH,Sq s=true->∃ m e,al Ja m s=some e/\(Ss arf s).run=some e:=by
 rintro ⟨⟨n,⟨⟩,⟨⟩,i,⟨⟩⟩,⟨h,o,⟨⟩⟩⟩ hh
 have h':=of_decide_eq_true hh
 dsimp only at h'
 obtain ⟨rfl,hl,hn,hn0,rfl⟩:=h'
 obtain ⟨k,rfl⟩:∃ k:Nat,n=(k:Int):=⟨n.toNat,by omega⟩
 have:=(aP (T:=Ja) (λi o=>((((k:Int),(),(),(i:Int),()),(h,o,())):dH)) (λk o=>o++ [UInt64.toUInt8 (bk (h.getD (k/8) 0) ((i2u (8*((k%8:Nat):Int))).toNat:Int))])
  (λo=>(⟨(.exit 2,Au),(((),()),(o,()))⟩:aE)) k [] (λi o=>o.length=i) rfl (λi o hi ho=>⟨?_,by simp [ho]⟩) (λo ho=> ?_)).1
 ·obtain ⟨m,hm⟩:=this
  exact ⟨m,_,hm,rfl⟩
 ·have t1:Int.tdiv (i:Int) 8=((i/8:Nat):Int):=by rw [Int.tdiv_eq_ediv_of_nonneg (by omega)];omega
  have t2:Int.tmod (i:Int) 8=((i%8:Nat):Int):=by rw [Int.tmod_eq_emod_of_nonneg (by omega)];omega
  refine (OT.ao (decide_eq_true (by dsimp only;omega))).trans ((ah ?_).trans ?_)
  ·simp only [t1,t2,hl,ho,Int.toNat_natCast,List.all_cons,List.all_nil,Bool.and_true,Bool.and_eq_true]
   exact ⟨⟨trivial,aH (by omega)⟩,aN (by omega),decide_eq_true (by omega),aH (by omega),decide_eq_true (by omega),aH (by omega)⟩
  ·simp only [OT.cP,t1,t2,Int.toNat_natCast,Nat.add_zero]
   rfl
 ·exact OT.aq (decide_eq_false (by dsimp only;omega))
def arH (p:List UInt8) (n:Int):List UInt64:= [0x6a09e667f3bcc908^^^(16842752+i2u n),0xbb67ae8584caa73b,0x3c6ef372fe94f82b,0xa54ff53a5f1d36f1,0x510e527fade682d1,0x9b05688c2b3e6c1f,0x1f83d9abfb41bd6b^^^il p 0,0x5be0cd19137e2179^^^il p 8]
def ay1 (p:List UInt8) (n:Int) (b:List UInt8):List UInt8:=
 AD (dJ (n6 b (arH p n) ((b.length-1)/128)) (b.drop (128*((b.length-1)/128))) (i2u (b.length:Int)) true) n.toNat
def HV (x:alq):Bool:=decide (x.1.2.2.1.length<=1000000000000)
def Pm (x:alq):OT sf.Y:=.br (gB x.1.1 x.1.2.1) (.ok ⟨yl,(((),((30:Int),())),([],()))⟩) (.ok ⟨yl,(((),((0:Int),())),(ay1 x.1.1 x.1.2.1 x.1.2.2.1,()))⟩)
theorem abU {n:Int} {b:List UInt8} {h:List UInt64} (hh:h.length=8) (hb:b.length<=1000000000000):Sr ((n,b,(),0,()),(h,()))=true:=decide_eq_true ⟨rfl,hh,hb⟩
theorem abT {n:Int} {h:List UInt64} (hh:h.length=8) (hn0:0<=n) (hn:n<=64):Sq ((n,(),(),0,()),(h,[],()))=true:=decide_eq_true ⟨rfl,hh,hn,hn0,rfl⟩
theorem AC {b:List UInt8} {h:List UInt64} (hh:h.length=8):∀ n,(n6 b h n).length=8
 |0=>hh
 |n+1=>fM (AC hh n)
theorem aEl:ac Tryz.prog 63 (sf.aI HV Pm):=ard Sr abV Sq arf aEn aEm _ _ λx oy hp ho=>by
 rw [<-ho]
 obtain ⟨⟨p,n,b,⟨⟩⟩,⟨⟩⟩:=x
 clear ho
 have hb:b.length<=1000000000000:=of_decide_eq_true hp
 by_cases h1:16<(p.length:Int)
 ·have e1:decide (16<(p.length:Int))=true:=decide_eq_true h1
  have eb:gB p n=true:=by simp only [gB,e1,Bool.true_or]
  simp only [Pm,Jc,e1,eb]
  rfl
 ·have e1:decide (16<(p.length:Int))=false:=decide_eq_false h1
  by_cases h2:n<1
  ·have e2:decide (n<1)=true:=decide_eq_true h2
   have eb:gB p n=true:=by simp only [gB,e1,e2,Bool.true_or,Bool.false_or]
   simp only [Pm,Jc,e1,e2,eb]
   rfl
  ·have e2:decide (n<1)=false:=decide_eq_false h2
   by_cases h3:64<n
   ·have e3:decide (64<n)=true:=decide_eq_true h3
    have eb:gB p n=true:=by simp only [gB,e1,e2,e3,Bool.false_or]
    simp only [Pm,Jc,e1,e2,e3,eb]
    rfl
   ·have e3:decide (64<n)=false:=decide_eq_false h3
    have eb:gB p n=false:=by simp only [gB,e1,e2,e3,Bool.false_or]
    have hH:(arH p n).length=8:=rfl
    have hE:∀ k,(n6 b (arH p n) k).length=8:=λk=>AC hH k
    have l1: [(7640891576956012808:UInt64)^^^16842752+i2u n,13503953896175478587,4354685564936845355,11912009170470909681,5840696475078001361,11170449401992604703,2270897969802886507^^^il p (Int.toNat 0),6620516959819538809^^^il p (Int.toNat 8)]=arH p n:=rfl
    have t1:∀ k,tab (n6 b (arH p n) k) 8 0=n6 b (arH p n) k:=λk=>jo (hE k)
    have t2:∀ k c l t,lay (n6 b (arH p n) k) (dJ (n6 b (arH p n) k) c t l) 8 0=dJ (n6 b (arH p n) k) c t l:=λk c l t=>xE (hE k) (fM (hE k))
    simp only [Pm,Jc,e1,e2,e3,eb,abV,l1,t1,t2,hE,Int.toNat_natCast]
    refine (ah ?_).trans rfl
    simp only [List.all_cons,List.all_nil,Bool.and_true,Bool.and_eq_true]
    exact ⟨abU hH hb,rfl,fB (by omega),rfl,abT (fM (hE _)) (by omega) (by omega)⟩
def I7:cn:=(sf.aI HV Pm)
theorem alp:ac Tryz.prog 63 I7:=aEl
theorem alo:aG I7:=aA
def RO:Env:=ay 63 I7 ry
theorem Cv:aQ Tryz.prog RO:=ag alp mH
theorem MY:ax RO:=ae alo Cy
theorem RN:aW Tryz.prog te RO:=aJ follows ar Cv MY
end Go.Proofs.YtohjofabochgfaaGreat

namespace Go.Proofs.YtohjofabochgfaaGreat
namespace Sx
open Go
def Ctx.tB (R:Ctx) (c:Nat) (ch:Ch) (b:Nat) (o:Obj):Ctx:=
 ⟨λb'=>if b'=b then some o else R.F b',R.U,R.σ,λc'=>if c'=c then some ch else R.hp c'⟩
theorem QR {R:Ctx} {w:World} (hm:dz R w) {c e:Nat} {t:Ty} {xs:List t.T} (hc:R.hp c=some ⟨e,.row t xs⟩):∃ R1,fq R R1 w [(c,⟨e,.frz t xs⟩)]:=by
 have h0:=hm.ch c _ hc
 cases hσ:R.σ c with
 |none=>
  simp only [fp,hσ] at h0
  obtain ⟨hpos,hl,rfl⟩:=h0
  have hx:R.Ext (R.upd c ⟨e,.frz t []⟩):=⟨λ_ _ h=>h,rfl,λc' ch' hc'=>by
   by_cases h1:c'=c
   ·subst h1
    rw [hc] at hc'
    cases hc'
    exact ⟨⟨e,.frz t []⟩,by simp only [Ctx.upd,if_true],Nat.le_refl e,λ_=>⟨rfl,rfl⟩⟩
   ·exact ⟨ch',by simp only [Ctx.upd,if_neg h1,hc'],Nat.le_refl _,λ_=>⟨rfl,rfl⟩⟩⟩
  refine ⟨R.upd c ⟨e,.frz t []⟩,hx,rfl,?_⟩
  refine dz.turn hm hx rfl rfl (λ_ _=>rfl) w.heap.size (λ_ _ _=>rfl) ⟨hm.aaB,hm.aay,λn ch L hn h1 h2 h3=> ?_⟩ ?_ (λL h2=> ?_)
  ·have:=hm.lt h1 h2 h3;omega
  ·simp only [fp,Ctx.upd,hσ]
   exact ⟨hpos,hl,trivial⟩
  ·have h2:R.σ c=some L:=h2
   rw [hσ] at h2;cases h2
 |some L=>
  simp only [fp,hσ] at h0
  obtain ⟨hpos,hl,hF,hU,arr,E,k1,k2,k3,k4⟩:=h0
  have hx:R.Ext (R.tB c ⟨e,.frz t xs⟩ L.block (.cells arr E (0,0))):=⟨λb o' h=>by
   have:b≠L.block:=λe'=>by rw [e',hF] at h;cases h
   simp only [Ctx.tB,if_neg this,h],rfl,λc' ch' hc'=>by
    by_cases h1:c'=c
    ·subst h1
     rw [hc] at hc'
     cases hc'
     exact ⟨⟨e,.frz t xs⟩,by simp only [Ctx.tB,if_true],Nat.le_refl e,λ_=>⟨rfl,rfl⟩⟩
    ·exact ⟨ch',by simp only [Ctx.tB,if_neg h1,hc'],Nat.le_refl _,λ_=>⟨rfl,rfl⟩⟩⟩
  refine ⟨R.tB c ⟨e,.frz t xs⟩ L.block (.cells arr E (0,0)),hx,rfl,λb o' h=> ?_,λb o' h=>hm.U b o' h,λc' ch' hc'=> ?_,λc1 c2 ch1 ch2 L1 L2 g1 g2 g3 g4 g5 g6 g7=> ?_,λb o' h=> ?_,hm.env⟩
  ·simp only [Ctx.tB] at h
   split at h
   ·rename_i h1
    subst h1
    rw [k1];exact h
   ·exact hm.F b o' h
  ·by_cases h1:c'=c
   ·subst h1
    simp only [Ctx.tB,if_true] at hc'
    cases hc'
    simp only [fp,Ctx.tB,hσ]
    exact ⟨hpos,hl,arr,E,(0,0),by simp only [if_true],k2,k3,λi hi=>ck hx.F _ _ _ (k4 i hi)⟩
   ·simp only [Ctx.tB,if_neg h1] at hc'
    have hch:=hm.ch c' ch' hc'
    have hs:(R.tB c ⟨e,.frz t xs⟩ L.block (.cells arr E (0,0))).σ c'=R.σ c':=rfl
    have hblk:∀ L',R.σ c'=some L'->ch'.body.mut=true->L'.block≠L.block:=λL' h2 h3 h4=>h1 (hm.apart c' c _ _ _ _ hc' hc h3 rfl h2 hσ h4)
    have hFn:∀ b,b≠L.block->R.F b=none->(R.tB c ⟨e,.frz t xs⟩ L.block (.cells arr E (0,0))).F b=none:=λb h2 h3=>by simp only [Ctx.tB,if_neg h2,h3]
    obtain ⟨ep,body⟩:=ch'
    cases body with
    |row t ys=>
     simp only [fp] at hch⊢
     rw [hs]
     refine ⟨hch.1,hch.2.1,?_⟩
     replace hch:=hch.2.2
     cases hL:R.σ c' with
     |none=>rw [hL] at hch;exact hch
     |some L'=>
      rw [hL] at hch
      obtain ⟨c1,c2,arr,E,c3,c4,c5,c6⟩:=hch
      have hne:=hblk L' hL rfl
      exact ⟨hFn _ hne c1,c2,arr,E,c3,c4,c5,λi hi=>ck hx.F _ _ _ (c6 i hi)⟩
    |frz t ys=>
     simp only [fp] at hch⊢
     rw [hs]
     refine ⟨hch.1,hch.2.1,?_⟩
     replace hch:=hch.2.2
     cases hL:R.σ c' with
     |none=>rw [hL] at hch;exact hch
     |some L'=>
      rw [hL] at hch
      obtain ⟨arr,E,fz,c3,c4,c5,c6⟩:=hch
      exact ⟨arr,E,fz,hx.F _ _ c3,c4,c5,λi hi=>ck hx.F _ _ _ (c6 i hi)⟩
    |cells vs=>
     simp only [fp] at hch⊢
     obtain ⟨L',hL,c1,c2,arr,E,c3,c4,c5,c6,c7⟩:=hch
     have hne:=hblk L' hL rfl
     exact ⟨L',by rw [hs];exact hL,hFn _ hne c1,c2,arr,E,c3,c4,c5,SV.eU hx _ _ c6,c7⟩
  ·by_cases h1:c1=c
   ·subst h1
    simp only [Ctx.tB,if_true] at g1
    cases g1
    cases g3
   ·by_cases h2:c2=c
    ·subst h2
     simp only [Ctx.tB,if_true] at g2
     cases g2
     cases g4
    ·simp only [Ctx.tB,if_neg h1] at g1
     simp only [Ctx.tB,if_neg h2] at g2
     exact hm.apart _ _ _ _ _ _ g1 g2 g3 g4 g5 g6 g7
  ·simp only [Ctx.tB] at h
   split at h
   ·rename_i h1
    subst h1
    exact hU
   ·exact hm.FU b o' h
end Sx
end Go.Proofs.YtohjofabochgfaaGreat

namespace Go.Proofs.YtohjofabochgfaaGreat
open Sx Go
set_option maxRecDepth 100000
def eI:aw:=⟨[.val true .elem,.val true .elem],[],true,0,false⟩
abbrev vA:Type:=((aa)×(aa)×Unit)×(Unit)
def oJ:Shape:=⟨24,[(2,.ptr 0 0 0),(3,.ptr 1 0 0),(5,.val false .int)],[(0,.row .u64),(1,.row .u64)],0,true⟩
abbrev bg:Type:=((Unit)×(Unit)×(Int)×Unit)×((List (UInt64))×(List (UInt64))×Unit)
def j5:Shape:=⟨24,[(4,.val false .bool)],[],0,true⟩
abbrev iE:Type:=((Bool)×Unit)×(Unit)
def m5:Shape:=⟨24,[],[],0,true⟩
abbrev iF:Type:=(Unit)×(Unit)
def P7:SE->Option Shape:=fC [(0,m5)] (some j5)
def amf (a5:Int) (c0:List (UInt64)) (c1:List (UInt64)):OT (Sum bg aE):=
 let z0:Bool:=inB a5 4
 let z1:Bool:=decide (Int.toNat a5+0<List.length c0)
 let z2:Bool:=decide (Int.toNat a5+0<List.length c1)
 let z3:UInt64:=List.getD c0 (Int.toNat a5+0) (0:UInt64)
 let z4:UInt64:=List.getD c1 (Int.toNat a5+0) (0:UInt64)
 (.br (decide ((0:Int)<=a5))
 (gd [z0,z1,z0,z2] (.br (!z3==z4)
  (gd [z0,z1,z0,z2] (.ok (.inr ⟨(.ret,j5),((decide (z3<z4),()),())⟩)))
  (gd [inR (a5-(1:Int))] (.ok (.inl (((),((),(a5-(1:Int),()))),(c0,(c1,()))))))))
 (.ok (.inr ⟨(.exit 0,m5),((),())⟩)))
def gp (s:bg):OT (Sum bg aE):=amf (s.1.2.2.1) (s.2.1) (s.2.2.1)
theorem amc (s:bg) (Q:Sum bg aE->Prop):wps te RO av 1000 (aU (aj Tryz.f144) 0) (oJ.inj s) (bY oJ P7 (Q:Sum oJ.T aE->Prop))=(gp s).wpR Q:=by kernel_rfl
def oK (g0_r:bg->iE) (c0_r:bg->Bool) (g0_0:bg->iF) (s:bg):OT aE:=(.br (c0_r s) (.ok ⟨(.ret,j5),g0_r s⟩) (.ok ⟨(.exit 0,m5),g0_0 s⟩))
def kY:az:=⟨[.val false .bool],[],false⟩
def J7:SV->Option az:=λ_=>some kY
def Ka (ok0:bg->Bool) (g0_r:bg->iE) (c0_r:bg->Bool) (g0_0:bg->iF) (a0:aa) (a1:aa):OT eI.Y:=
 let z0:(PUnit×PUnit×Int×PUnit)×List UInt64×List UInt64×PUnit:=(((),(),(3:Int),()),[a0.w0,a0.w1,a0.w2,a0.w3],[a1.w0,a1.w1,a1.w2,a1.w3],())
 (gd [ok0 z0] (.br (c0_r z0)
 (.ok ⟨kY,(((g0_r z0).fst.fst,()),())⟩)
 (.ok ⟨kY,((false,()),())⟩)))
theorem asO (ok0:bg->Bool) (g0_r:bg->iE) (c0_r:bg->Bool) (g0_0:bg->iF) (x:vA) (Q:eI.Y->Prop):wpf te RO (aO 0 (cl oJ 0 ok0 (oK g0_r c0_r g0_0)) av) 1000 Tryz.f144 (eI.inp.inj x).tm (eI.inp.inj x).hp (fnK eI J7 Q) (λ_ _=>False)=(Ka ok0 g0_r c0_r g0_0 (x.1.1) (x.1.2.1)).wpR Q:=by kernel_rfl
theorem XF (ok0:bg->Bool) (g0_r:bg->iE) (c0_r:bg->Bool) (g0_0:bg->iF) (h0:∀ s:bg,ok0 s=true->∃ m e,al (gp) m s=some e/\(oK g0_r c0_r g0_0 s).run=some e) (pre:vA->Bool) (F:vA->OT eI.Y) (hF:∀ (x:vA) oy,pre x=true->(F x).run=some oy->(Ka ok0 g0_r c0_r g0_0 (x.1.1) (x.1.2.1)).run=some oy):ac Tryz.prog 144 (eI.aI pre F):=
 aD ar Cv RN (f:=144) (fn:=Tryz.f144) (c:=aj Tryz.f144) (by kernel_rfl) (by kernel_rfl) (by kernel_rfl) (S:=eI) (k:=0) (by kernel_rfl) (λR hR=>(aB (c:=(aj Tryz.f144)) (by kernel_rfl) (id:=0) (by kernel_rfl) (aR ar Cv RN (sh:=oJ) hR (xs:=P7) (aC (by kernel_rfl) (by kernel_rfl) hR) aL af (n:=1000) (T:=gp) (λs Q=>amc s Q) (ok:=ok0) (f:=oK g0_r c0_r g0_0) h0) af)) (n:=1000) (sel:=J7) (λv o h=>by cases h;rfl) (pre:=pre) (F:=F) (T:=λx=>Ka ok0 g0_r c0_r g0_0 (x.1.1) (x.1.2.1)) (λx Q=>asO ok0 g0_r c0_r g0_0 x Q) hF
def jp (a b:aa) (i:Int):bg:=(((),(),i,()),(lst a,lst b,()))
theorem H7 (a b:aa) (k:Nat) (hk:k<4) (h:(lst a).getD k 0=(lst b).getD k 0):(gp (jp a b (k:Int))).run=some (.inl (jp a b ((k:Int)-1))):=by
 refine (OT.ao (decide_eq_true (by dsimp only [jp];omega))).trans ((ah ?_).trans ((OT.aq ?_).trans ((ah ?_).trans rfl)))
 ·simp only [jp,Int.toNat_natCast,Nat.add_zero,cK,List.all_cons,List.all_nil,Bool.and_true,Bool.and_eq_true]
  exact ⟨aN (by omega),decide_eq_true hk,aN (by omega),decide_eq_true hk⟩
 ·simp only [jp,Int.toNat_natCast,Nat.add_zero,h,beq_self_eq_true,Bool.not_true]
 ·simp only [jp,List.all_cons,List.all_nil,Bool.and_true]
  exact aH (by omega)
theorem vB (a b:aa) (k:Nat) (hk:k<4) (h:¬(lst a).getD k 0=(lst b).getD k 0):(gp (jp a b (k:Int))).run=some (.inr ⟨(.ret,j5),((decide ((lst a).getD k 0<(lst b).getD k 0),()),())⟩):=by
 refine (OT.ao (decide_eq_true (by dsimp only [jp];omega))).trans ((ah ?_).trans ((OT.ao ?_).trans ((ah ?_).trans ?_)))
 ·simp only [jp,Int.toNat_natCast,Nat.add_zero,cK,List.all_cons,List.all_nil,Bool.and_true,Bool.and_eq_true]
  exact ⟨aN (by omega),decide_eq_true hk,aN (by omega),decide_eq_true hk⟩
 ·simp only [jp,Int.toNat_natCast,Nat.add_zero,beq_eq_false_iff_ne.2 h,Bool.not_false]
 ·simp only [jp,Int.toNat_natCast,Nat.add_zero,cK,List.all_cons,List.all_nil,Bool.and_true,Bool.and_eq_true]
  exact ⟨aN (by omega),decide_eq_true hk,aN (by omega),decide_eq_true hk⟩
 ·simp only [jp,Int.toNat_natCast,Nat.add_zero]
  rfl
def J9 (s:bg):Bool:=decide (s.1.2.2.1=3/\s.2.1.length=4/\s.2.2.1.length=4)
def Em (s:bg):iE:=((Nat.blt (elemOf s.2.1).nat (elemOf s.2.2.1).nat,()),())
def lV (s:bg):Bool:= !eqE (elemOf s.2.1) (elemOf s.2.2.1)
def En (_:bg):iF:=((),())
theorem To {a b:aa} (h:¬a=b) {r:Bool} (hr:r=Nat.blt a.nat b.nat) (hm:∃ m,al gp m (jp a b 3)=some ⟨(.ret,j5),((r,()),())⟩):
 ∃ m e,al gp m (jp a b 3)=some e/\(oK Em lV En (jp a b 3)).run=some e:=by
 obtain ⟨m,hm⟩:=hm
 refine ⟨m,_,hm,?_⟩
 have hc:lV (jp a b 3)=true:=by
  show (!eqE a b)=true
  rw [Bool.eq_false_iff.2 λe=>h (zg.1 e)]
  rfl
 subst hr
 exact OT.ao hc
theorem ame:∀ s:bg,J9 s=true->∃ m e,al gp m s=some e/\(oK Em lV En s).run=some e:=by
 rintro ⟨⟨⟨⟩,⟨⟩,i,⟨⟩⟩,⟨l1,l2,⟨⟩⟩⟩ h
 have h':=of_decide_eq_true h
 dsimp only at h'
 obtain ⟨rfl,h1,h2⟩:=h'
 obtain ⟨a,rfl⟩:∃ a,l1=lst a:=⟨elemOf l1,(aS h1).symm⟩
 obtain ⟨b,rfl⟩:∃ a,l2=lst a:=⟨elemOf l2,(aS h2).symm⟩
 have ha0:=a.w0.toNat_lt
 have hb0:=b.w0.toNat_lt
 have ha1:=a.w1.toNat_lt
 have hb1:=b.w1.toNat_lt
 have ha2:=a.w2.toNat_lt
 have hb2:=b.w2.toNat_lt
 by_cases h3:a.w3=b.w3
 ·have s3:=H7 a b 3 (by omega) h3
  by_cases h2:a.w2=b.w2
  ·have s2:=H7 a b 2 (by omega) h2
   by_cases h1:a.w1=b.w1
   ·have s1:=H7 a b 1 (by omega) h1
    by_cases h0:a.w0=b.w0
    ·have s0:=H7 a b 0 (by omega) h0
     have e:a=b:=by cases a;cases b;simp_all
     have sx:(gp (jp a b (((0:Nat):Int)-1))).run=some (.inr ⟨(.exit 0,m5),((),())⟩):=OT.aq (decide_eq_false (by dsimp only [jp];omega))
     refine ⟨_,_,aF s3 (aF s2 (aF s1 (aF s0 (aM sx)))),?_⟩
     have hc:lV (((),(),3,()),(lst a,lst b,()))=false:=by
      show (!eqE a b)=false
      rw [e,aj8]
      rfl
     exact OT.aq hc
    ·refine To (λe=>h0 (by rw [e])) (uu ?_) ⟨_,aF s3 (aF s2 (aF s1 (aM (vB a b 0 (by omega) h0))))⟩
     show a.nat<b.nat ↔ a.w0.toNat<b.w0.toNat
     unfold Sx.aa.nat
     rw [h3,h2,h1]
     exact QL.1
   ·refine To (λe=>h1 (by rw [e])) (uu ?_) ⟨_,aF s3 (aF s2 (aM (vB a b 1 (by omega) h1)))⟩
    show a.nat<b.nat ↔ a.w1.toNat<b.w1.toNat
    unfold Sx.aa.nat
    rw [h3,h2]
    have k:=QL (x:=a.w1.toNat) (y:=b.w1.toNat) (N:=b.w2.toNat+18446744073709551616*b.w3.toNat)
    exact (rU ha0 hb0 (k.2 (EI h1))).1.trans k.1
  ·refine To (λe=>h2 (by rw [e])) (uu ?_) ⟨_,aF s3 (aM (vB a b 2 (by omega) h2))⟩
   show a.nat<b.nat ↔ a.w2.toNat<b.w2.toNat
   unfold Sx.aa.nat
   rw [h3]
   have k:=QL (x:=a.w2.toNat) (y:=b.w2.toNat) (N:=b.w3.toNat)
   have k1:=rU ha1 hb1 (k.2 (EI h2))
   exact (rU ha0 hb0 k1.2).1.trans (k1.1.trans k.1)
 ·refine To (λe=>h3 (by rw [e])) (uu ?_) ⟨_,aM (vB a b 3 (by omega) h3)⟩
  show a.nat<b.nat ↔ a.w3.toNat<b.w3.toNat
  unfold Sx.aa.nat
  have k2:=rU ha2 hb2 (EI h3)
  have k1:=rU ha1 hb1 k2.2
  exact (rU ha0 hb0 k1.2).1.trans (k1.1.trans k2.1)
def J8 (_:vA):Bool:=true
def XG (x:vA):OT eI.Y:=.ok ⟨kY,((Nat.blt x.1.1.nat x.1.2.1.nat,()),())⟩
theorem amd:ac Tryz.prog 144 (eI.aI J8 XG):=XF J9 Em lV En ame _ _ λx oy _ ho=>by
 rw [<-ho]
 clear ho
 obtain ⟨⟨a,b,⟨⟩⟩,⟨⟩⟩:=x
 refine (ah ?_).trans ?_
 ·simp only [List.all_cons,List.all_nil,Bool.and_true]
  exact decide_eq_true ⟨rfl,rfl,rfl⟩
 ·rcases (Bool.eq_false_or_eq_true (eqE a b)).symm with h|h
  ·have hc:lV (((),(),3,()),(lst a,lst b,()))=true:=by
    show (!eqE a b)=true
    rw [h]
    rfl
   exact OT.ao hc
  ·have hc:lV (((),(),3,()),(lst a,lst b,()))=false:=by
    show (!eqE a b)=false
    rw [h]
    rfl
   refine (OT.aq hc).trans ?_
   have e:Nat.blt a.nat b.nat=false:=by
    rw [zg.1 h]
    cases hb:Nat.blt b.nat b.nat
    ·rfl
    ·exact absurd (dR hb) (Nat.lt_irrefl _)
   show (OT.ok ⟨kY,((false,()),())⟩:OT eI.Y).run=(OT.ok ⟨kY,((Nat.blt a.nat b.nat,()),())⟩:OT eI.Y).run
   rw [e]
def sX:cn:=(eI.aI J8 XG)
theorem Tn:ac Tryz.prog 144 sX:=amd
theorem Tl:aG sX:=aA
def pQ:Env:=ay 144 sX RO
theorem nI:aQ Tryz.prog pQ:=ag Tn Cv
theorem xS:ax pQ:=ae Tl MY
theorem CN:aW Tryz.prog te pQ:=aJ follows ar nI xS
def fQ:aw:=⟨[.val true .elem,.val true .elem],[],true,0,false⟩
abbrev vz:Type:=((aa)×(aa)×Unit)×(Unit)
def oH:Shape:=⟨41,[(2,.ptr 0 0 0),(3,.ptr 1 0 0),(4,.ptr 2 0 0),(5,.ptr 3 0 0),(6,.val false .u64),(7,.val false .int)],[(0,.row .u64),(1,.row .u64),(2,.row .u64),(3,.row .u64)],0,true⟩
abbrev bW:Type:=((Unit)×(Unit)×(Unit)×(Unit)×(UInt64)×(Int)×Unit)×((List (UInt64))×(List (UInt64))×(List (UInt64))×(List (UInt64))×Unit)
def m4:Shape:=⟨41,[(4,.ptr 0 0 0),(5,.ptr 1 0 0)],[(0,.row .u64),(1,.row .u64)],0,true⟩
abbrev iC:Type:=((Unit)×(Unit)×Unit)×((List (UInt64))×(List (UInt64))×Unit)
def P2:SE->Option Shape:=fC [(0,m4)] none
def amb (a6:UInt64) (a7:Int) (c0:List (UInt64)) (c1:List (UInt64)) (c2:List (UInt64)) (c3:List (UInt64)):OT (Sum bW aE):=
 let z0:Bool:=inB a7 4
 let z1:Bool:=decide (Int.toNat a7+0<List.length c0)
 let z2:Bool:=decide (Int.toNat a7+0<List.length c1)
 let z3:UInt64:=List.getD c0 (Int.toNat a7+0) (0:UInt64)
 let z4:UInt64:=List.getD c1 (Int.toNat a7+0) (0:UInt64)
 let z5:Bool:=decide (Int.toNat a7+0<List.length c3)
 let z6:Bool:=inR (a7+(1:Int))
 let z7:UInt64:=z3-z4
 let z8:List UInt64:=List.set c3 (Int.toNat a7+0) (z7-a6)
 (.br (decide (a7<(4:Int)))
 (gd [z0,z1,z0,z2,z0,z1,z0,z2] (.br (decide (z3<z4))
  (gd [z0,z5,z6] (.ok (.inl (((),((),((),((),((1:UInt64),(a7+(1:Int),())))))),(c0,(c1,(c2,(z8,()))))))))
  (.br (decide (z7<a6))
   (gd [z0,z5,z6] (.ok (.inl (((),((),((),((),((1:UInt64),(a7+(1:Int),())))))),(c0,(c1,(c2,(z8,()))))))))
   (gd [z0,z5,z6] (.ok (.inl (((),((),((),((),((0:UInt64),(a7+(1:Int),())))))),(c0,(c1,(c2,(z8,())))))))))))
 (.ok (.inr ⟨(.exit 0,m4),(((),((),())),(c2,(c3,())))⟩)))
def oI (s:bW):OT (Sum bW aE):=amb (s.1.2.2.2.2.1) (s.1.2.2.2.2.2.1) (s.2.1) (s.2.2.1) (s.2.2.2.1) (s.2.2.2.2.1)
theorem al8 (s:bW) (Q:Sum bW aE->Prop):wps te pQ av 1000 (aU (aj Tryz.f145) 0) (oH.inj s) (bY oH P2 (Q:Sum oH.T aE->Prop))=(oI s).wpR Q:=by kernel_rfl
def vy (g0_0:bW->iC) (s:bW):OT aE:=(.ok ⟨(.exit 0,m4),g0_0 s⟩)
def Ek:az:=⟨[.val true .elem],[],false⟩
def J1:SV->Option az:=λ_=>some Ek
def J4 (ok0:bW->Bool) (g0_0:bW->iC) (a0:aa) (a1:aa):OT fQ.Y:=
 let z0:(PUnit×PUnit×PUnit×PUnit×UInt64×Int×PUnit)×List UInt64×List UInt64×List UInt64×List UInt64×PUnit:=(((),(),(),(),(0:UInt64),(0:Int),()),[a0.w0,a0.w1,a0.w2,a0.w3],[a1.w0,a1.w1,a1.w2,a1.w3],[(0:UInt64),(0:UInt64),(0:UInt64),(0:UInt64)],[(0:UInt64),(0:UInt64),(0:UInt64),(0:UInt64)],())
 let z1:=(g0_0 z0).snd
 let z2:=z1.snd.fst
 let z3:=z1.fst
 let z4:List UInt64:=lay z3 z2 4 (0:UInt64)
 (gd [ok0 z0,decide (4<=List.length z2),decide ((4/1:Nat)+0<=List.length z3),decide (4<=List.length z4)] (.ok ⟨Ek,(({w0:=List.getD z4 0 0,w1:=List.getD z4 1 0,w2:=List.getD z4 2 0,w3:=List.getD z4 3 0},()),())⟩))
theorem asJ (ok0:bW->Bool) (g0_0:bW->iC) (x:vz) (Q:fQ.Y->Prop):wpf te pQ (aO 0 (cl oH 0 ok0 (vy g0_0)) av) 1000 Tryz.f145 (fQ.inp.inj x).tm (fQ.inp.inj x).hp (fnK fQ J1 Q) (λ_ _=>False)=(J4 ok0 g0_0 (x.1.1) (x.1.2.1)).wpR Q:=by kernel_rfl
theorem XA (ok0:bW->Bool) (g0_0:bW->iC) (h0:∀ s:bW,ok0 s=true->∃ m e,al (oI) m s=some e/\(vy g0_0 s).run=some e) (pre:vz->Bool) (F:vz->OT fQ.Y) (hF:∀ (x:vz) oy,pre x=true->(F x).run=some oy->(J4 ok0 g0_0 (x.1.1) (x.1.2.1)).run=some oy):ac Tryz.prog 145 (fQ.aI pre F):=
 aD ar nI CN (f:=145) (fn:=Tryz.f145) (c:=aj Tryz.f145) (by kernel_rfl) (by kernel_rfl) (by kernel_rfl) (S:=fQ) (k:=0) (by kernel_rfl) (λR hR=>(aB (c:=(aj Tryz.f145)) (by kernel_rfl) (id:=0) (by kernel_rfl) (aR ar nI CN (sh:=oH) hR (xs:=P2) (aC (by kernel_rfl) (by kernel_rfl) hR) aL af (n:=1000) (T:=oI) (λs Q=>al8 s Q) (ok:=ok0) (f:=vy g0_0) h0) af)) (n:=1000) (sel:=J1) (λv o h=>by cases h;rfl) (pre:=pre) (F:=F) (T:=λx=>J4 ok0 g0_0 (x.1.1) (x.1.2.1)) (λx Q=>asJ ok0 g0_0 x Q) hF
def J3 (s:bW):Bool:=decide (s.1.2.2.2.2.1=0/\s.1.2.2.2.2.2.1=0/\s.2.1.length=4/\s.2.2.1.length=4/\s.2.2.2.2.1= [0,0,0,0])
def P3 (s:bW):iC:=(((),(),()),(s.2.2.2.1,(upto (xq s.2.1 s.2.2.1) ([0,0,0,0],0) 4).1,()))
theorem ama:∀ s:bW,J3 s=true->∃ m e,al oI m s=some e/\(vy P3 s).run=some e:=by
 rintro ⟨⟨⟨⟩,⟨⟩,⟨⟩,⟨⟩,c,i,⟨⟩⟩,⟨c0,c1,c2,c3,⟨⟩⟩⟩ h
 have h':=of_decide_eq_true h
 dsimp only at h'
 obtain ⟨rfl,rfl,h0,h1,rfl⟩:=h'
 have:=(aP (T:=oI) (λk s=>((((),(),(),(),s.2,(k:Int),()),(c0,c1,c2,s.1,())):bW)) (xq c0 c1)
  (λs=>(⟨(.exit 0,m4),(((),(),()),(c2,s.1,()))⟩:aE)) 4 ([0,0,0,0],0) (λ_ s=>s.1.length=4/\s.2.toNat<=1) ⟨rfl,by decide⟩ (λk s hk hs=>⟨?_,?_⟩) (λs hs=> ?_)).1
 ·obtain ⟨m,hm⟩:=this
  exact ⟨m,_,hm,rfl⟩
 ·obtain ⟨o,c⟩:=s
  dsimp only at hs
  refine (OT.ao (decide_eq_true (by dsimp only;omega))).trans ((ah ?_).trans ?_)
  ·simp only [Int.toNat_natCast,Nat.add_zero,h0,h1,hs.1,List.all_cons,List.all_nil,Bool.and_true,Bool.and_eq_true]
   exact ⟨aN (by omega),decide_eq_true (by omega),aN (by omega),decide_eq_true (by omega),aN (by omega),decide_eq_true (by omega),aN (by omega),decide_eq_true (by omega)⟩
  ·have hi:∀ z,(gd [inB (k:Int) 4,decide (Int.toNat (k:Int)+0<o.length),inR ((k:Int)+1)] z:OT (Sum bW aE)).run=z.run:=λz=>ah (by
    simp only [List.all_cons,List.all_nil,Bool.and_true,Bool.and_eq_true,Int.toNat_natCast,Nat.add_zero]
    exact ⟨aN (by omega),decide_eq_true (by omega),aH (by omega)⟩)
   have hw:=QE (x:=c0.getD k 0) (y:=c1.getD k 0) hs.2
   by_cases hx:c0.getD k 0<c1.getD k 0
   ·have hk1:=ajg (c:=c) hx
    refine (OT.ao (decide_eq_true ?_)).trans ((hi _).trans ?_)
    ·simp only [Int.toNat_natCast,Nat.add_zero];exact hx
    ·simp only [OT.cP,Int.toNat_natCast,Nat.add_zero,xq,hw,hk1]
     rfl
   ·refine (OT.aq (decide_eq_false ?_)).trans ?_
    ·simp only [Int.toNat_natCast,Nat.add_zero];exact hx
    ·by_cases hd:c0.getD k 0-c1.getD k 0<c
     ·have hk2:=ajf hx hd
      refine (OT.ao (decide_eq_true ?_)).trans ((hi _).trans ?_)
      ·simp only [Int.toNat_natCast,Nat.add_zero];exact hd
      ·simp only [OT.cP,Int.toNat_natCast,Nat.add_zero,xq,hw,hk2]
       rfl
     ·have hk3:=aje hx hd
      refine (OT.aq (decide_eq_false ?_)).trans ((hi _).trans ?_)
      ·simp only [Int.toNat_natCast,Nat.add_zero];exact hd
      ·simp only [OT.cP,Int.toNat_natCast,Nat.add_zero,xq,hw,hk3]
       rfl
 ·exact ⟨by simp only [xq,List.length_set];exact hs.1,yj⟩
 ·exact OT.aq (decide_eq_false (by dsimp only;omega))
def J2 (_:vz):Bool:=true
def J5 (x:vz):OT fQ.Y:=.ok ⟨Ek,(((eu x.1.1 x.1.2.1).1,()),())⟩
theorem al9:ac Tryz.prog 145 (fQ.aI J2 J5):=XA J3 P3 ama _ _ λx oy hp ho=>by
 rw [<-ho]
 clear ho
 obtain ⟨⟨a,b,⟨⟩⟩,⟨⟩⟩:=x
 obtain ⟨_,hw⟩:=DD a b
 refine (ah ?_).trans ?_
 ·simp only [List.all_cons,List.all_nil,Bool.and_true,Bool.and_eq_true]
  exact ⟨rfl,rfl,rfl,rfl⟩
 ·simp only [J5,hw]
  rfl
def sU:cn:=(fQ.aI J2 J5)
theorem Tj:ac Tryz.prog 145 sU:=al9
theorem Ti:aG sU:=aA
def pP:Env:=ay 145 sU pQ
theorem nH:aQ Tryz.prog pP:=ag Tj nI
theorem xR:ax pP:=ae Ti xS
theorem CL:aW Tryz.prog te pP:=aJ follows ar nH xR
def fP:aw:=⟨[.val true .elem],[],true,0,false⟩
abbrev vu:Type:=((aa)×Unit)×(Unit)
def oF:Shape:=⟨27,[(1,.ptr 0 0 0),(2,.ptr 1 0 0),(4,.ptr 2 0 0),(5,.val false .u64),(6,.val false .int)],[(0,.row .u64),(1,.row .u64),(2,.row .u64)],0,true⟩
abbrev b9:Type:=((Unit)×(Unit)×(Unit)×(UInt64)×(Int)×Unit)×((List (UInt64))×(List (UInt64))×(List (UInt64))×Unit)
def mZ:Shape:=⟨27,[(2,.ptr 0 0 0),(4,.ptr 1 0 0),(5,.val false .u64)],[(0,.row .u64),(1,.row .u64)],0,true⟩
abbrev iB:Type:=((Unit)×(Unit)×(UInt64)×Unit)×((List (UInt64))×(List (UInt64))×Unit)
def PZ:SE->Option Shape:=fC [(0,mZ)] none
def al4 (a5:UInt64) (a6:Int) (c0:List (UInt64)) (c1:List (UInt64)) (c2:List (UInt64)):OT (Sum b9 aE):=
 let z0:Bool:=inB a6 4
 let z1:Bool:=decide (Int.toNat a6+0<List.length c0)
 let z2:UInt64:=List.getD c0 (Int.toNat a6+0) (0:UInt64)
 (.br (decide (a6<(4:Int)))
 (gd [z0,z1,z0,decide (Int.toNat a6+0<List.length c2),z0,z1,inR (a6+(1:Int))] (.ok (.inl (((),((),((),(bk z2 (63:Int),(a6+(1:Int),()))))),(c0,(c1,(List.set c2 (Int.toNat a6+0) (bR z2 (1:Int)|||a5),())))))))
 (.ok (.inr ⟨(.exit 0,mZ),(((),((),(a5,()))),(c1,(c2,())))⟩)))
def oG (s:b9):OT (Sum b9 aE):=al4 (s.1.2.2.2.1) (s.1.2.2.2.2.1) (s.2.1) (s.2.2.1) (s.2.2.2.1)
theorem al1 (s:b9) (Q:Sum b9 aE->Prop):wps te pP av 1000 (aU (aj Tryz.f143) 0) (oF.inj s) (bY oF PZ (Q:Sum oF.T aE->Prop))=(oG s).wpR Q:=by kernel_rfl
def vt (g0_0:b9->iB) (s:b9):OT aE:=(.ok ⟨(.exit 0,mZ),g0_0 s⟩)
def Eh:az:=⟨[.val true .elem,.val false .bool],[],false⟩
def JW:SV->Option az:=λ_=>some Eh
def JZ (ok0:b9->Bool) (g0_0:b9->iB) (a0:aa):OT fP.Y:=
 let z0:(PUnit×PUnit×PUnit×UInt64×Int×PUnit)×List UInt64×List UInt64×List UInt64×PUnit:=(((),(),(),(0:UInt64),(0:Int),()),[a0.w0,a0.w1,a0.w2,a0.w3],[(0:UInt64),(0:UInt64),(0:UInt64),(0:UInt64)],[(0:UInt64),(0:UInt64),(0:UInt64),(0:UInt64)],())
 let z1:(PUnit×PUnit×UInt64×PUnit)×List UInt64×List UInt64×PUnit:=g0_0 z0
 let z2:=z1.snd
 let z3:=z2.snd.fst
 let z4:=z2.fst
 let z5:List UInt64:=lay z4 z3 4 (0:UInt64)
 (gd [ok0 z0,decide (4<=List.length z3),decide ((4/1:Nat)+0<=List.length z4),decide (4<=List.length z5)] (.ok ⟨Eh,(({w0:=List.getD z5 0 0,w1:=List.getD z5 1 0,w2:=List.getD z5 2 0,w3:=List.getD z5 3 0},(z1.fst.snd.snd.fst==(1:UInt64),())),())⟩))
theorem asH (ok0:b9->Bool) (g0_0:b9->iB) (x:vu) (Q:fP.Y->Prop):wpf te pP (aO 0 (cl oF 0 ok0 (vt g0_0)) av) 1000 Tryz.f143 (fP.inp.inj x).tm (fP.inp.inj x).hp (fnK fP JW Q) (λ_ _=>False)=(JZ ok0 g0_0 (x.1.1)).wpR Q:=by kernel_rfl
theorem Xw (ok0:b9->Bool) (g0_0:b9->iB) (h0:∀ s:b9,ok0 s=true->∃ m e,al (oG) m s=some e/\(vt g0_0 s).run=some e) (pre:vu->Bool) (F:vu->OT fP.Y) (hF:∀ (x:vu) oy,pre x=true->(F x).run=some oy->(JZ ok0 g0_0 (x.1.1)).run=some oy):ac Tryz.prog 143 (fP.aI pre F):=
 aD ar nH CL (f:=143) (fn:=Tryz.f143) (c:=aj Tryz.f143) (by kernel_rfl) (by kernel_rfl) (by kernel_rfl) (S:=fP) (k:=0) (by kernel_rfl) (λR hR=>(aB (c:=(aj Tryz.f143)) (by kernel_rfl) (id:=0) (by kernel_rfl) (aR ar nH CL (sh:=oF) hR (xs:=PZ) (aC (by kernel_rfl) (by kernel_rfl) hR) aL af (n:=1000) (T:=oG) (λs Q=>al1 s Q) (ok:=ok0) (f:=vt g0_0) h0) af)) (n:=1000) (sel:=JW) (λv o h=>by cases h;rfl) (pre:=pre) (F:=F) (T:=λx=>JZ ok0 g0_0 (x.1.1)) (λx Q=>asH ok0 g0_0 x Q) hF
def aI5 (a:List UInt64) (k:Nat) (s:List UInt64×UInt64):List UInt64×UInt64:=(s.1.set k (bR (a.getD k 0) 1|||s.2),bk (a.getD k 0) 63)
def JY (s:b9):Bool:=decide (s.1.2.2.2.1=0/\s.1.2.2.2.2.1=0/\s.2.1.length=4/\s.2.2.2.1= [0,0,0,0])
def P0 (s:b9):iB:=(((),(),(upto (aI5 s.2.1) ([0,0,0,0],0) 4).2,()),(s.2.2.1,(upto (aI5 s.2.1) ([0,0,0,0],0) 4).1,()))
theorem al3:∀ s:b9,JY s=true->∃ m e,al oG m s=some e/\(vt P0 s).run=some e:=by
 rintro ⟨⟨⟨⟩,⟨⟩,⟨⟩,c,i,⟨⟩⟩,⟨a,r,o,⟨⟩⟩⟩ h
 have h':=of_decide_eq_true h
 dsimp only at h'
 obtain ⟨rfl,rfl,ha,rfl⟩:=h'
 have:=(aP (T:=oG) (λk s=>((((),(),(),s.2,(k:Int),()),(a,r,s.1,())):b9)) (aI5 a)
  (λs=>(⟨(.exit 0,mZ),(((),(),s.2,()),(r,s.1,()))⟩:aE)) 4 ([0,0,0,0],0) (λ_ s=>s.1.length=4) rfl (λk s hk hs=>⟨?_,(List.length_set ..).trans hs⟩) (λs hs=> ?_)).1
 ·obtain ⟨m,hm⟩:=this
  exact ⟨m,_,hm,rfl⟩
 ·refine (OT.ao (decide_eq_true (by dsimp only;omega))).trans ((ah ?_).trans ?_)
  ·simp only [Int.toNat_natCast,Nat.add_zero,ha,hs,List.all_cons,List.all_nil,Bool.and_true,Bool.and_eq_true]
   exact ⟨aN (by omega),decide_eq_true (by omega),aN (by omega),decide_eq_true (by omega),aN (by omega),decide_eq_true (by omega),aH (by omega)⟩
  ·simp only [OT.cP,Int.toNat_natCast,Nat.add_zero]
   rfl
 ·exact OT.aq (decide_eq_false (by dsimp only;omega))
theorem ath (x:UInt64):x|||0=x:=by
 rw [<-UInt64.toNat_inj,UInt64.toNat_or]
 exact Nat.or_zero _
def JX (_:vu):Bool:=true
def Xx (x:vu):OT fP.Y:=.ok ⟨Eh,(((aX x.1.1 0).1,((aX x.1.1 0).2==1,())),())⟩
theorem al2:ac Tryz.prog 143 (fP.aI JX Xx):=Xw JY P0 al3 _ _ λx oy hp ho=>by
 rw [<-ho]
 clear ho
 obtain ⟨⟨a,⟨⟩⟩,⟨⟩⟩:=x
 refine (ah ?_).trans rfl
 simp only [List.all_cons,List.all_nil,Bool.and_true,Bool.and_eq_true]
 exact ⟨rfl,rfl,rfl,rfl⟩
def sT:cn:=(fP.aI JX Xx)
theorem Tf:ac Tryz.prog 143 sT:=al2
theorem Te:aG sT:=aA
def pO:Env:=ay 143 sT pP
theorem nG:aQ Tryz.prog pO:=ag Tf nH
theorem xQ:ax pO:=ae Te xR
theorem CK:aW Tryz.prog te pO:=aJ follows ar nG xQ
def iD:aw:=⟨[.val true .elem],[],true,0,false⟩
abbrev El:Type:=((aa)×Unit)×(Unit)
def sV:Shape:=⟨28,[(1,.ptr 0 0 0),(3,.own 1),(4,.val false .int),(5,.val false .u64),(6,.val false .int)],[(0,.row .u64),(1,.row .int)],0,true⟩
abbrev cD:Type:=((Unit)×(Unit)×(Int)×(UInt64)×(Int)×Unit)×((List (UInt64))×(List (Int))×Unit)
def qG:Shape:=⟨28,[(1,.ptr 0 0 0),(3,.own 1),(4,.val false .int)],[(0,.row .u64),(1,.row .int)],0,true⟩
abbrev j4:Type:=((Unit)×(Unit)×(Int)×Unit)×((List (UInt64))×(List (Int))×Unit)
def XB:SE->Option Shape:=fC [(2,qG)] none
def asN (a4:Int) (a5:UInt64) (a6:Int) (c0:List (UInt64)) (c1:List (Int)):OT (Sum cD aE):=
 (.br (decide (a6<(64:Int)))
 (gd [decide ((List.length c1+1)*8<=140737488355328),inR (a6+(1:Int))] (.ok (.inl (((),((),(a4,(a5/(2:UInt64),(a6+(1:Int),()))))),(c0,(c1++ [u2i (a5%(2:UInt64))],()))))))
 (.ok (.inr ⟨(.exit 2,qG),(((),((),(a4,()))),(c0,(c1,())))⟩)))
def sW (s:cD):OT (Sum cD aE):=asN (s.1.2.2.1) (s.1.2.2.2.1) (s.1.2.2.2.2.1) (s.2.1) (s.2.2.1)
theorem asK (s:cD) (Q:Sum cD aE->Prop):wps te pO av 1000 (aU (aj Tryz.f142) 2) (sV.inj s) (bY sV XB (Q:Sum sV.T aE->Prop))=(sW s).wpR Q:=by kernel_rfl
def A7 (g2_2:cD->j4) (s:cD):OT aE:=(.ok ⟨(.exit 2,qG),(((g2_2 s).1.1,((g2_2 s).1.2.1,(s.1.2.2.1,()))),(g2_2 s).2)⟩)
def J6:az:=⟨[.own 0],[(0,.row .int)],false⟩
def P4:SV->Option az:=λ_=>some J6
def Tk (ok2:cD->Bool) (g2_2:cD->j4) (a0:aa):OT iD.Y:=
 let z0:Int×PUnit:=((0:Int),())
 let z1:(PUnit×PUnit×Int×UInt64×Int×PUnit)×List UInt64×List Int×PUnit:=(((),(),(0:Int),a0.w0,z0),[a0.w0,a0.w1,a0.w2,a0.w3],[],())
 let z2:=(g2_2 z1).snd
 let z3:=z2.fst
 let z4:(PUnit×PUnit×Int×UInt64×Int×PUnit)×List UInt64×List Int×PUnit:=(((),(),(0:Int)+(1:Int),List.getD z3 (Int.toNat ((0:Int)+(1:Int))+0) (0:UInt64),z0),z3,z2.snd.fst,())
 let z5:=(g2_2 z4).snd
 let z6:=z5.fst
 let z7:(PUnit×PUnit×Int×UInt64×Int×PUnit)×List UInt64×List Int×PUnit:=(((),(),(0:Int)+(1:Int)+(1:Int),List.getD z6 (Int.toNat ((0:Int)+(1:Int)+(1:Int))+0) (0:UInt64),z0),z6,z5.snd.fst,())
 let z8:=(g2_2 z7).snd
 let z9:=z8.fst
 let z10:(PUnit×PUnit×Int×UInt64×Int×PUnit)×List UInt64×List Int×PUnit:=(((),(),(0:Int)+(1:Int)+(1:Int)+(1:Int),List.getD z9 (Int.toNat ((0:Int)+(1:Int)+(1:Int)+(1:Int))+0) (0:UInt64),z0),z9,z8.snd.fst,())
 (gd [ok2 z1,decide (Int.toNat ((0:Int)+(1:Int))+0<List.length z3),ok2 z4,decide (Int.toNat ((0:Int)+(1:Int)+(1:Int))+0<List.length z6),ok2 z7,decide (Int.toNat ((0:Int)+(1:Int)+(1:Int)+(1:Int))+0<List.length z9),ok2 z10] (.ok ⟨J6,(((),()),((g2_2 z10).snd.snd.fst,()))⟩))
theorem azt (ok2:cD->Bool) (g2_2:cD->j4) (x:El) (Q:iD.Y->Prop):wpf te pO (aO 2 (cl sV 2 ok2 (A7 g2_2)) av) 1000 Tryz.f142 (iD.inp.inj x).tm (iD.inp.inj x).hp (fnK iD P4 Q) (λ_ _=>False)=(Tk ok2 g2_2 (x.1.1)).wpR Q:=by kernel_rfl
theorem ac2 (ok2:cD->Bool) (g2_2:cD->j4) (h2:∀ s:cD,ok2 s=true->∃ m e,al (sW) m s=some e/\(A7 g2_2 s).run=some e) (pre:El->Bool) (F:El->OT iD.Y) (hF:∀ (x:El) oy,pre x=true->(F x).run=some oy->(Tk ok2 g2_2 (x.1.1)).run=some oy):ac Tryz.prog 142 (iD.aI pre F):=
 aD ar nG CK (f:=142) (fn:=Tryz.f142) (c:=aj Tryz.f142) (by kernel_rfl) (by kernel_rfl) (by kernel_rfl) (S:=iD) (k:=0) (by kernel_rfl) (λR hR=>(aB (c:=(aj Tryz.f142)) (by kernel_rfl) (id:=2) (by kernel_rfl) (aR ar nG CK (sh:=sV) hR (xs:=XB) (aC (by kernel_rfl) (by kernel_rfl) hR) aL af (n:=1000) (T:=sW) (λs Q=>asK s Q) (ok:=ok2) (f:=A7 g2_2) h2) af)) (n:=1000) (sel:=P4) (λv o h=>by cases h;rfl) (pre:=pre) (F:=F) (T:=λx=>Tk ok2 g2_2 (x.1.1)) (λx Q=>azt ok2 g2_2 x Q) hF
def aoQ (_:Nat) (q:List Int×UInt64):List Int×UInt64:=(q.1++ [u2i (q.2%2)],q.2/2)
def ic (v:UInt64) (n:Nat):List Int:=(List.range n).map λj=>((v.toNat/2^j%2:Nat):Int)
theorem dv (v:UInt64) (n:Nat):(ic v n).length=n:=by rw [ic,List.length_map,List.length_range]
theorem aFs (x:UInt64):u2i (x%2)=((x.toNat%2:Nat):Int):=by
 have e:(x%2).toNat=x.toNat%2:=by rw [UInt64.toNat_mod];rfl
 unfold u2i
 rw [e]
 rcases Nat.mod_two_eq_zero_or_one x.toNat with h|h<;>rw [h]<;>rfl
theorem aae (o:List Int) (v:UInt64):∀ n,(upto aoQ (o,v) n).1=o++ic v n/\(upto aoQ (o,v) n).2.toNat=v.toNat/2^n
 |0=>⟨(List.append_nil o).symm,by show v.toNat=_;rw [Nat.pow_zero,Nat.div_one]⟩
 |n+1=>by
  obtain ⟨h1,h2⟩:=aae o v n
  refine ⟨?_,?_⟩
  ·show (upto aoQ (o,v) n).1++ [u2i ((upto aoQ (o,v) n).2%2)]=_
   rw [aFs,h1,h2,List.append_assoc]
   unfold ic
   rw [List.range_succ,List.map_append]
   rfl
  ·show ((upto aoQ (o,v) n).2/2).toNat=_
   rw [UInt64.toNat_div,h2,Nat.pow_succ,<-Nat.div_div_eq_div_mul]
   rfl
def P6 (s:cD):Bool:=decide (s.1.2.2.2.2.1=0/\s.2.2.1.length<=1000)
def XE (s:cD):j4:=(((),(),s.1.2.2.1,()),(s.2.1,s.2.2.1++ic s.1.2.2.2.1 64,()))
theorem asM:∀ s:cD,P6 s=true->∃ m e,al sW m s=some e/\(A7 XE s).run=some e:=by
 rintro ⟨⟨⟨⟩,⟨⟩,i,v,j,⟨⟩⟩,⟨a,o,⟨⟩⟩⟩ h
 have h':=of_decide_eq_true h
 dsimp only at h'
 obtain ⟨rfl,ho⟩:=h'
 have:=(aP (T:=sW) (λk q=>((((),(),i,q.2,(k:Int),()),(a,q.1,())):cD)) aoQ
  (λq=>(⟨(.exit 2,qG),(((),(),i,()),(a,q.1,()))⟩:aE)) 64 (o,v) (λk q=>q.1.length=o.length+k) rfl (λk q hk hq=>⟨?_,?_⟩) (λq _=> ?_)).1
 ·obtain ⟨m,hm⟩:=this
  rw [(aae o v 64).1] at hm
  exact ⟨m,_,hm,rfl⟩
 ·have hq:q.1.length=o.length+k:=hq
  refine (OT.ao (decide_eq_true (by dsimp only;omega))).trans ((ah ?_).trans rfl)
  simp only [List.all_cons,List.all_nil,Bool.and_true,Bool.and_eq_true]
  exact ⟨decide_eq_true (by omega),aH (by omega)⟩
 ·show (q.1++ [u2i (q.2%2)]).length=_
  rw [List.length_append,show q.1.length=o.length+k from hq]
  rfl
 ·exact OT.aq (decide_eq_false (by dsimp only;omega))
def pB (a:aa):List Int:= []++ic a.w0 64++ic a.w1 64++ic a.w2 64++ic a.w3 64
def P5 (_:El):Bool:=true
def aiJ (x:El):OT iD.Y:=.ok ⟨J6,(((),()),(pB x.1.1,()))⟩
theorem asL:ac Tryz.prog 142 (iD.aI P5 aiJ):=ac2 P6 XE asM _ _ λx oy hp ho=>by
 rw [<-ho]
 clear ho
 obtain ⟨⟨a,⟨⟩⟩,⟨⟩⟩:=x
 have l1:([]++ic a.w0 64).length=64:=by rw [List.nil_append,dv]
 have l2:([]++ic a.w0 64++ic a.w1 64).length=128:=by rw [List.length_append,l1,dv]
 have l3:([]++ic a.w0 64++ic a.w1 64++ic a.w2 64).length=192:=by rw [List.length_append,l2,dv]
 refine (ah ?_).trans rfl
 simp only [List.all_cons,List.all_nil,Bool.and_true,Bool.and_eq_true]
 exact ⟨rfl,rfl,decide_eq_true ⟨rfl,by show ([]++ic a.w0 64).length<=_;omega⟩,rfl,decide_eq_true ⟨rfl,by show ([]++ic a.w0 64++ic a.w1 64).length<=_;omega⟩,rfl,decide_eq_true ⟨rfl,by show ([]++ic a.w0 64++ic a.w1 64++ic a.w2 64).length<=_;omega⟩⟩
theorem tx {α:Type} (d:α) (x y:List α) (i:Nat):(i<x.length->(x++y).getD i d=x.getD i d)/\(x.length<=i->(x++y).getD i d=y.getD (i-x.length) d):=by
 refine ⟨λh=> ?_,λh=> ?_⟩
 ·rw [List.getD_eq_getElem?_getD,List.getD_eq_getElem?_getD,List.getElem?_append_left h]
 ·rw [List.getD_eq_getElem?_getD,List.getD_eq_getElem?_getD,List.getElem?_append_right h]
theorem Ab (v:UInt64) {j:Nat} (h:j<64):(ic v 64).getD j 0=((v.toNat/2^j%2:Nat):Int):=by
 unfold ic
 rw [List.getD_eq_getElem?_getD,List.getElem?_map,List.getElem?_range h]
 rfl
theorem uv (a:aa):(pB a).length=256:=by
 unfold pB
 rw [List.length_append,List.length_append,List.length_append,List.length_append,dv,dv,dv,dv]
 rfl
theorem avX (a:aa) {i:Nat} (h:i<256):(pB a).getD i 0=((a.nat/2^i%2:Nat):Int):=by
 have l1:([]++ic a.w0 64).length=64:=by rw [List.nil_append,dv]
 have l2:([]++ic a.w0 64++ic a.w1 64).length=128:=by rw [List.length_append,l1,dv]
 have l3:([]++ic a.w0 64++ic a.w1 64++ic a.w2 64).length=192:=by rw [List.length_append,l2,dv]
 unfold pB
 by_cases h3:192<=i
 ·rw [(tx ..).2 (by omega),l3,Ab _ (by omega)]
  have:=rn (a:=a) (q:=3) (r:=i-192) (by omega) (by omega)
  rw [show 64*3+(i-192)=i by omega] at this
  rw [<-this]
  rfl
 ·rw [(tx ..).1 (by omega)]
  by_cases h2:128<=i
  ·rw [(tx ..).2 (by omega),l2,Ab _ (by omega)]
   have:=rn (a:=a) (q:=2) (r:=i-128) (by omega) (by omega)
   rw [show 64*2+(i-128)=i by omega] at this
   rw [<-this]
   rfl
  ·rw [(tx ..).1 (by omega)]
   by_cases h1:64<=i
   ·rw [(tx ..).2 (by omega),l1,Ab _ (by omega)]
    have:=rn (a:=a) (q:=1) (r:=i-64) (by omega) (by omega)
    rw [show 64*1+(i-64)=i by omega] at this
    rw [<-this]
    rfl
   ·rw [(tx ..).1 (by omega),List.nil_append,Ab _ (by omega)]
    have:=rn (a:=a) (q:=0) (r:=i) (by omega) (by omega)
    rw [show 64*0+i=i by omega] at this
    rw [<-this]
    rfl
def yE:cn:=(iD.aI P5 aiJ)
theorem XD:ac Tryz.prog 142 yE:=asL
theorem XC:aG yE:=aA
def xf:Env:=ay 142 yE pO
theorem rE:aQ Tryz.prog xf:=ag XD nG
theorem CM:ax xf:=ae XC xQ
theorem G9:aW Tryz.prog te xf:=aJ follows ar rE CM
def kk:aw:=⟨[.val true .elem,.val true .elem,.val true .elem],[],true,0,false⟩
abbrev P1:Type:=((aa)×(aa)×(aa)×Unit)×(Unit)
def A6:Shape:=⟨56,[(5,.ptr 0 0 0),(6,.ptr 1 0 0),(9,.own 2),(10,.ptr 3 0 0),(11,.val false .int)],[(0,.row .u64),(1,.row .u64),(2,.row .int),(3,.row .u64)],0,true⟩
abbrev cI:Type:=((Unit)×(Unit)×(Unit)×(Unit)×(Int)×Unit)×((List (UInt64))×(List (UInt64))×(List (Int))×(List (UInt64))×Unit)
def vw:Shape:=⟨56,[(6,.ptr 0 0 0),(10,.ptr 1 0 0)],[(0,.row .u64),(1,.row .u64)],0,true⟩
abbrev jz:Type:=((Unit)×(Unit)×Unit)×((List (UInt64))×(List (UInt64))×Unit)
def aiI:SE->Option Shape:=fC [(0,vw)] none
def Th (a11:Int) (c0:List (UInt64)) (c1:List (UInt64)) (c2:List (Int)) (c3:List (UInt64)):OT (Sum cI aE):=
 let z0:Nat:=List.length c3
 let z1:Nat:=List.length c2
 let z2:Nat:=Int.toNat a11
 let z3:aa×UInt64:=aX {w0:=List.getD c3 0 0,w1:=List.getD c3 1 0,w2:=List.getD c3 2 0,w3:=List.getD c3 3 0} (0:UInt64)
 let z4:Bool:=decide (4<=List.length c0)
 let z5:Bool:=decide ((4/1:Nat)+0<=z0)
 let z6:Bool:=inR (a11-(1:Int))
 let z7:=z3.fst
 let z8:=z7.w0
 let z9:=z7.w1
 let z10:=z7.w2
 let z11:=z7.w3
 let z12:aa:= {w0:=z8|||(1:UInt64),w1:=z9,w2:=z10,w3:=z11}
 let z13:aa:= {w0:=List.getD c0 0 0,w1:=List.getD c0 1 0,w2:=List.getD c0 2 0,w3:=List.getD c0 3 0}
 let z14:=(eu z12 z13).fst
 let z15:List UInt64:=List.set (List.set (List.set (List.set c3 0 z14.w0) 1 z14.w1) 2 z14.w2) 3 z14.w3
 let z16:Nat:=aa.nat z13
 let z17:Bool:=decide ((4/1:Nat)+0<=z0)
 let z18:=(eu z7 z13).fst
 let z19:List UInt64:=List.set (List.set (List.set (List.set c3 0 z18.w0) 1 z18.w1) 2 z18.w2) 3 z18.w3
 (.br (decide ((0:Int)<=a11))
 (gd [decide (4<=z0),inB a11 z1,decide (z2<z1)] (.br (List.getD c2 z2 (0:Int)==(1:Int))
  (.br (z3.snd==(1:UInt64))
   (gd [z4,z5,z6] (.ok (.inl (((),((),((),((),(a11-(1:Int),()))))),(c0,(c1,(c2,(z15,()))))))))
   (gd [z4] (.br (!Nat.blt (aa.nat z12) z16)
    (gd [z4,z5,z6] (.ok (.inl (((),((),((),((),(a11-(1:Int),()))))),(c0,(c1,(c2,(z15,()))))))))
    (gd [decide ((4/1:Nat)+0<=z0),z6] (.ok (.inl (((),((),((),((),(a11-(1:Int),()))))),(c0,(c1,(c2,(List.set (List.set (List.set (List.set c3 0 (z8|||(1:UInt64))) 1 z9) 2 z10) 3 z11,())))))))))))
  (.br (z3.snd==(1:UInt64))
   (gd [z4,z17,z6] (.ok (.inl (((),((),((),((),(a11-(1:Int),()))))),(c0,(c1,(c2,(z19,()))))))))
   (gd [z4] (.br (!Nat.blt (aa.nat z7) z16)
    (gd [z4,z17,z6] (.ok (.inl (((),((),((),((),(a11-(1:Int),()))))),(c0,(c1,(c2,(z19,()))))))))
    (gd [decide ((4/1:Nat)+0<=z0),z6] (.ok (.inl (((),((),((),((),(a11-(1:Int),()))))),(c0,(c1,(c2,(List.set (List.set (List.set (List.set c3 0 z8) 1 z9) 2 z10) 3 z11,())))))))))))))
 (.ok (.inr ⟨(.exit 0,vw),(((),((),())),(c1,(c3,())))⟩)))
def vx (s:cI):OT (Sum cI aE):=Th (s.1.2.2.2.2.1) (s.2.1) (s.2.2.1) (s.2.2.2.1) (s.2.2.2.2.1)
theorem azq (s:cI) (Q:Sum cI aE->Prop):wps te xf av 1000 (aU (aj Tryz.f107) 0) (A6.inj s) (bY A6 aiI (Q:Sum A6.T aE->Prop))=(vx s).wpR Q:=by kernel_rfl
def H6 (g0_0:cI->jz) (s:cI):OT aE:=(.ok ⟨(.exit 0,vw),g0_0 s⟩)
def vv:az:=⟨[.val true .elem,.val false .int],[],false⟩
def Xy:SV->Option az:=λ_=>some vv
def Ej (ok0:cI->Bool) (g0_0:cI->jz) (a0:aa) (a1:aa) (a2:aa):OT kk.Y:=
 let z0:(PUnit×PUnit×PUnit×PUnit×Int×PUnit)×List UInt64×List UInt64×List Int×List UInt64×PUnit:=(((),(),(),(),(511:Int),()),[a2.w0,a2.w1,a2.w2,a2.w3],[(0:UInt64),(0:UInt64),(0:UInt64),(0:UInt64)],pB a0++pB a1,[(0:UInt64),(0:UInt64),(0:UInt64),(0:UInt64)],())
 let z1:=(g0_0 z0).snd
 let z2:=z1.snd.fst
 let z3:=z1.fst
 let z4:List UInt64:=lay z3 z2 4 (0:UInt64)
 (.br (a2.w0==(0:UInt64)&&(a2.w1==(0:UInt64)&&(a2.w2==(0:UInt64)&&(a2.w3==(0:UInt64)&&true))))
 (.ok ⟨vv,(({w0:=0,w1:=0,w2:=0,w3:=0},((10:Int),())),())⟩)
 (gd [ok0 z0,decide (4<=List.length z2),decide ((4/1:Nat)+0<=List.length z3),decide (4<=List.length z4)] (.ok ⟨vv,(({w0:=List.getD z4 0 0,w1:=List.getD z4 1 0,w2:=List.getD z4 2 0,w3:=List.getD z4 3 0},((0:Int),())),())⟩)))
theorem aET (ok0:cI->Bool) (g0_0:cI->jz) (x:P1) (Q:kk.Y->Prop):wpf te xf (aO 0 (cl A6 0 ok0 (H6 g0_0)) av) 1000 Tryz.f107 (kk.inp.inj x).tm (kk.inp.inj x).hp (fnK kk Xy Q) (λ_ _=>False)=(Ej ok0 g0_0 (x.1.1) (x.1.2.1) (x.1.2.2.1)).wpR Q:=by kernel_rfl
theorem al6 (ok0:cI->Bool) (g0_0:cI->jz) (h0:∀ s:cI,ok0 s=true->∃ m e,al (vx) m s=some e/\(H6 g0_0 s).run=some e) (pre:P1->Bool) (F:P1->OT kk.Y) (hF:∀ (x:P1) oy,pre x=true->(F x).run=some oy->(Ej ok0 g0_0 (x.1.1) (x.1.2.1) (x.1.2.2.1)).run=some oy):ac Tryz.prog 107 (kk.aI pre F):=
 aD ar rE G9 (f:=107) (fn:=Tryz.f107) (c:=aj Tryz.f107) (by kernel_rfl) (by kernel_rfl) (by kernel_rfl) (S:=kk) (k:=0) (by kernel_rfl) (λR hR=>(aB (c:=(aj Tryz.f107)) (by kernel_rfl) (id:=0) (by kernel_rfl) (aR ar rE G9 (sh:=A6) hR (xs:=aiI) (aC (by kernel_rfl) (by kernel_rfl) hR) aL af (n:=1000) (T:=vx) (λs Q=>azq s Q) (ok:=ok0) (f:=H6 g0_0) h0) af)) (n:=1000) (sel:=Xy) (λv o h=>by cases h;rfl) (pre:=pre) (F:=F) (T:=λx=>Ej ok0 g0_0 (x.1.1) (x.1.2.1) (x.1.2.2.1)) (λx Q=>aET ok0 g0_0 x Q) hF
def afa (x:Int):UInt64:=cond (x==1) 1 0
def AE (m:aa) (L:List Int) (k:Nat) (r:aa):aa:=HY m r (afa (L.getD (511-k) 0))
theorem Sf (r:aa) (b:UInt64):((aX r b).2==1)= !((aX r b).2==0):=by
 have h:(aX r b).2.toNat<=1:=I4 _
 rcases (show (aX r b).2.toNat=0\/(aX r b).2.toNat=1 by omega) with e|e
 ·have e2:(aX r b).2=0:=UInt64.toNat_inj.1 e
  rw [e2];rfl
 ·have e2:(aX r b).2=1:=UInt64.toNat_inj.1 e
  rw [e2];rfl
theorem An (r:aa):(⟨(aX r 0).1.w0|||1,(aX r 0).1.w1,(aX r 0).1.w2,(aX r 0).1.w3⟩:aa)=(aX r 1).1:=by
 unfold aX
 dsimp only
 rw [ath]
def H5 (m:aa) (c1:List UInt64) (L:List Int) (i:Int) (r:aa):cI:=(((),(),(),(),i,()),(lst m,c1,L,lst r,()))
theorem al5 (m r:aa) (c1:List UInt64) {L:List Int} (hL:L.length=512) {k:Nat} (hk:k<512):(vx (H5 m c1 L ((511:Int)-(k:Int)) r)).run=some (.inl (H5 m c1 L ((511:Int)-((k+1:Nat):Int)) (AE m L k r))):=by
 have e0:(511:Int)-(k:Int)=((511-k:Nat):Int):=by omega
 have e1:(511:Int)-((k+1:Nat):Int)=((511-k:Nat):Int)-1:=by omega
 have hr:inR (((511-k:Nat):Int)-1)=true:=aH (by omega)
 rw [e1,e0]
 unfold AE
 show (Th ((511-k:Nat):Int) (lst m) c1 L (lst r)).run=_
 unfold Th
 simp only [Int.toNat_natCast]
 refine (OT.ao (decide_eq_true (by omega))).trans ((ah ?_).trans ?_)
 ·simp only [List.all_cons,List.all_nil,Bool.and_true,Bool.and_eq_true]
  exact ⟨rfl,aN (by omega),decide_eq_true (by omega)⟩
 ·rcases (Bool.eq_false_or_eq_true (L.getD (511-k) 0==1)).symm with hb|hb
  ·have eb:afa (L.getD (511-k) 0)=0:=by unfold afa;rw [hb];rfl
   rw [eb]
   refine (OT.aq hb).trans ?_
   rcases (Bool.eq_false_or_eq_true ((aX r 0).2==0)).symm with g|g
   ·have e:HY m r 0=(eu (aX r 0).1 m).1:=by unfold HY;rw [g];rfl
    rw [e]
    exact (OT.ao (b:=(aX r 0).2==1) (by rw [Sf,g];rfl)).trans ((ah (by rw [hr];rfl)).trans rfl)
   ·refine (OT.aq (b:=(aX r 0).2==1) (by rw [Sf,g];rfl)).trans ((ah rfl).trans ?_)
    rcases (Bool.eq_false_or_eq_true (eu (aX r 0).1 m).2).symm with u|u
    ·have e:HY m r 0=(eu (aX r 0).1 m).1:=by unfold HY;rw [g,u];rfl
     rw [e]
     exact (OT.ao (b:= !(eu (aX r 0).1 m).2) (by rw [u];rfl)).trans ((ah (by rw [hr];rfl)).trans rfl)
    ·have e:HY m r 0=(aX r 0).1:=by unfold HY;rw [g,u];rfl
     rw [e]
     exact (OT.aq (b:= !(eu (aX r 0).1 m).2) (by rw [u];rfl)).trans ((ah (by rw [hr];rfl)).trans rfl)
  ·have eb:afa (L.getD (511-k) 0)=1:=by unfold afa;rw [hb];rfl
   rw [eb]
   refine (OT.ao hb).trans ?_
   rcases (Bool.eq_false_or_eq_true ((aX r 1).2==0)).symm with g|g
   ·have e:HY m r 1=(eu (aX r 1).1 m).1:=by unfold HY;rw [g];rfl
    rw [e,<-An]
    exact (OT.ao (b:=(aX r 1).2==1) (by rw [Sf,g];rfl)).trans ((ah (by rw [hr];rfl)).trans rfl)
   ·refine (OT.aq (b:=(aX r 1).2==1) (by rw [Sf,g];rfl)).trans ((ah rfl).trans ?_)
    have u0:(eu ⟨(aX r 0).1.w0|||1,(aX r 0).1.w1,(aX r 0).1.w2,(aX r 0).1.w3⟩ m).2=(eu (aX r 1).1 m).2:=by rw [An]
    rcases (Bool.eq_false_or_eq_true (eu (aX r 1).1 m).2).symm with u|u
    ·have e:HY m r 1=(eu (aX r 1).1 m).1:=by unfold HY;rw [g,u];rfl
     rw [e,<-An]
     exact (OT.ao (b:= !(eu ⟨(aX r 0).1.w0|||1,(aX r 0).1.w1,(aX r 0).1.w2,(aX r 0).1.w3⟩ m).2) (by rw [u0,u];rfl)).trans ((ah (by rw [hr];rfl)).trans rfl)
    ·have e:HY m r 1=(aX r 1).1:=by unfold HY;rw [g,u];rfl
     rw [e,<-An]
     exact (OT.aq (b:= !(eu ⟨(aX r 0).1.w0|||1,(aX r 0).1.w1,(aX r 0).1.w2,(aX r 0).1.w3⟩ m).2) (by rw [u0,u];rfl)).trans ((ah (by rw [hr];rfl)).trans rfl)
def J0 (s:cI):Bool:=decide (s.1.2.2.2.2.1=511/\s.2.1.length=4/\s.2.2.2.1.length=512/\s.2.2.2.2.1.length=4)
def Tg (s:cI):jz:=(((),(),()),(s.2.2.1,lst (upto (AE (elemOf s.2.1) s.2.2.2.1) (elemOf s.2.2.2.2.1) 512),()))
theorem azs:∀ s:cI,J0 s=true->∃ m e,al vx m s=some e/\(H6 Tg s).run=some e:=by
 rintro ⟨⟨⟨⟩,⟨⟩,⟨⟩,⟨⟩,i,⟨⟩⟩,⟨c0,c1,L,c3,⟨⟩⟩⟩ h
 have h':=of_decide_eq_true h
 dsimp only at h'
 obtain ⟨rfl,h0,hL,h3⟩:=h'
 obtain ⟨m,rfl⟩:∃ a,c0=lst a:=⟨elemOf c0,(aS h0).symm⟩
 obtain ⟨r,rfl⟩:∃ a,c3=lst a:=⟨elemOf c3,(aS h3).symm⟩
 have:=(aP (T:=vx) (λk r=>H5 m c1 L ((511:Int)-(k:Int)) r) (AE m L)
  (λr=>(⟨(.exit 0,vw),(((),(),()),(c1,lst r,()))⟩:aE)) 512 r (λ_ _=>True) trivial (λk r hk _=>⟨al5 m r c1 hL hk,trivial⟩) (λr _=> ?_)).1
 ·obtain ⟨n,hn⟩:=this
  exact ⟨n,_,hn,rfl⟩
 ·exact OT.aq (decide_eq_false (by dsimp only [H5];omega))
theorem IZ {α:Type} {f g:Nat->α->α} (x:α):∀ n,(∀ k,k<n->f k=g k)->upto f x n=upto g x n
 |0,_=>rfl
 |n+1,h=>by
  show f n (upto f x n)=g n (upto g x n)
  rw [IZ x n λk hk=>h k (by omega),h n (by omega)]
theorem V8 {α:Type} (f:Nat->α->α) (x:α) (a:Nat):∀ n,upto f x (a+n)=upto (λk=>f (a+k)) (upto f x a) n
 |0=>rfl
 |n+1=>by
  show f (a+n) (upto f x (a+n))=f (a+n) (upto (λk=>f (a+k)) (upto f x a) n)
  rw [V8 f x a n]
theorem aCp (a:aa) {i:Nat} (h:i<256):afa ((pB a).getD i 0)=Oi a i:=by
 have h1:=akI a h
 rw [avX a h]
 unfold afa
 rcases (show a.nat/2^i%2=0\/a.nat/2^i%2=1 by omega) with e|e
 ·rw [e] at h1⊢
  exact (UInt64.toNat_inj.1 h1).symm
 ·rw [e] at h1⊢
  exact (UInt64.toNat_inj.1 h1).symm
theorem aEA (m lo hi:aa):upto (AE m (pB lo++pB hi)) ⟨0,0,0,0⟩ 512=ab2 m lo (ab2 m hi ⟨0,0,0,0⟩ 256) 256:=by
 have l0:=uv lo
 have a1:upto (AE m (pB lo++pB hi)) ⟨0,0,0,0⟩ 256=ab2 m hi ⟨0,0,0,0⟩ 256:=by
  unfold ab2
  refine IZ _ 256 λk hk=> ?_
  funext r
  unfold AE
  rw [(tx ..).2 (by omega),l0,show 511-k-256=255-k by omega,aCp hi (by omega)]
 rw [show 512=256+256 from rfl,V8,a1]
 unfold ab2
 refine IZ _ 256 λk hk=> ?_
 funext r
 unfold AE
 rw [(tx ..).1 (by omega),show 511-(256+k)=255-k by omega,aCp lo (by omega)]
def Xz (_:P1):Bool:=true
def asI (x:P1):OT kk.Y:=.br (nk x.1.2.2.1) (.ok ⟨vv,((⟨0,0,0,0⟩,((10:Int),())),())⟩) (.ok ⟨vv,((ayZ x.1.1 x.1.2.1 x.1.2.2.1,((0:Int),())),())⟩)
theorem al7 {ok0:cI->Bool} {g0:cI->jz} {a b m R:aa} (h:nk m=false)
 (h1:ok0 (((),(),(),(),511,()),(lst m,lst ⟨0,0,0,0⟩,pB a++pB b,lst ⟨0,0,0,0⟩,()))=true)
 (e1:(g0 (((),(),(),(),511,()),(lst m,lst ⟨0,0,0,0⟩,pB a++pB b,lst ⟨0,0,0,0⟩,()))).2=(lst ⟨0,0,0,0⟩,lst R,())):
 (Ej ok0 g0 a b m).run=some ⟨vv,((R,((0:Int),())),())⟩:=by
 have l:∀ e:aa,lst e= [e.w0,e.w1,e.w2,e.w3]:=λ_=>rfl
 rw [l m,l ⟨0,0,0,0⟩] at h1 e1
 unfold Ej
 simp only [e1,h1]
 exact (OT.aq h).trans ((ah rfl).trans rfl)
theorem azr:ac Tryz.prog 107 (kk.aI Xz asI):=al6 J0 Tg azs _ _ λx oy hp ho=>by
 rw [<-ho]
 clear ho
 obtain ⟨⟨a,b,m,⟨⟩⟩,⟨⟩⟩:=x
 show (Ej J0 Tg a b m).run=(OT.br (nk m) _ _:OT kk.Y).run
 rcases (Bool.eq_false_or_eq_true (nk m)).symm with h|h
 ·have hl:(pB a++pB b).length=512:=by rw [List.length_append,uv,uv]
  refine Eq.trans (al7 (R:=upto (AE m (pB a++pB b)) ⟨0,0,0,0⟩ 512) h (decide_eq_true ⟨rfl,rfl,hl,rfl⟩) rfl) ?_
  rw [aEA,aij (Qy h),h]
  rfl
 ·exact (OT.ao h).trans (OT.ao (b:=nk m) h).symm
def Ei:cn:=(kk.aI Xz asI)
theorem ac1:ac Tryz.prog 107 Ei:=azr
theorem ac0:aG Ei:=aA
def Nj:Env:=ay 107 Ei xf
theorem FW:aQ Tryz.prog Nj:=ag ac1 rE
theorem G8:ax Nj:=ae ac0 CM
theorem afB:aW Tryz.prog te Nj:=aJ follows ar FW G8
def iq:aw:=⟨[.val false .int,.val false (.list .u8)],[],true,0,false⟩
abbrev DY:Type:=((Int)×(List (UInt8))×Unit)×(Unit)
def oh:az:=⟨[.val true .elem,.val false .int],[],false⟩
def PD:SV->Option az:=λ_=>some oh
def AS (a0:Int) (a1:List (UInt8)):OT iq.Y:=
 let z0:Nat:=List.length a1
 let z1:Int:=(↑z0:Int)
 let z2:aa:= {w0:=0,w1:=0,w2:=0,w3:=0}
 let z3:List UInt8:=List.drop 0 (List.take 32 a1)
 let z4:List UInt8:=List.drop 32 a1
 let z5:aa:=(aY (Int.toNat a0)).fst
 (gd [kW ((a0,()),())] (.br (!z1==(64:Int))
 (.ok ⟨oh,((z2,((21:Int),())),())⟩)
 (gd [dD (0:Int) (32:Int) z0,gY ((z3,()),()),dD (32:Int) z1 z0,gY ((z4,()),())] (.br (nk z5)
  (.ok ⟨oh,((z2,((10:Int),())),())⟩)
  (.ok ⟨oh,((ayZ (HF z3) (HF z4) z5,((0:Int),())),())⟩)))))
theorem ay8 (x:DY) (Q:iq.Y->Prop):wpf te Nj av 1000 Tryz.f64 (iq.inp.inj x).tm (iq.inp.inj x).hp (fnK iq PD Q) (λ_ _=>False)=(AS (x.1.1) (x.1.2.1)).wpR Q:=by kernel_rfl
theorem ace (pre:DY->Bool) (F:DY->OT iq.Y) (hF:∀ (x:DY) oy,pre x=true->(F x).run=some oy->(AS (x.1.1) (x.1.2.1)).run=some oy):ac Tryz.prog 64 (iq.aI pre F):=
 aD ar FW afB (f:=64) (fn:=Tryz.f64) (c:=aj Tryz.f64) (by kernel_rfl) (by kernel_rfl) (by kernel_rfl) (S:=iq) (k:=0) (by kernel_rfl) (λR hR=>af) (n:=1000) (sel:=PD) (λv o h=>by cases h;rfl) (pre:=pre) (F:=F) (T:=λx=>AS (x.1.1) (x.1.2.1)) (λx Q=>ay8 x Q) hF
def vj (x:DY):Bool:=ap x.1.1&&HH x.1.2.1
def aiq (x:DY):OT iq.Y:=.ok ⟨oh,((ak3 x.1.1 x.1.2.1,((0:Int),())),())⟩
theorem acf {s:Int} {b:List UInt8} {W:aa} (hW:ayZ (HF (List.drop 0 (b.take 32))) (HF (b.drop 32)) (aY s.toNat).1=W) (hs:ap s=true) (hl:HH b=true):(AS s b).run=some ⟨oh,((W,((0:Int),())),())⟩:=by
 unfold AS
 simp only [hW]
 have hb:b.length=64:=La.1 hl
 refine (ah ?_).trans ((OT.aq (b:= !HH b) (by rw [hl];rfl)).trans ((ah ?_).trans (OT.aq (ai0 hs))))
 ·simp only [List.all_cons,List.all_nil,Bool.and_true]
  exact hs
 ·simp only [List.all_cons,List.all_nil,Bool.and_true,Bool.and_eq_true]
  exact ⟨fB (by omega),decide_eq_true (by show (List.drop 0 (b.take 32)).length=32;rw [List.drop_zero,List.length_take];omega),fB (by omega),decide_eq_true (by show (List.drop 32 b).length=32;rw [List.length_drop];omega)⟩
theorem ar9:ac Tryz.prog 64 (iq.aI vj aiq):=ace _ _ λx oy hp ho=>by
 rw [<-ho]
 clear ho
 obtain ⟨⟨s,b,⟨⟩⟩,⟨⟩⟩:=x
 obtain ⟨hs,hl⟩:=(Bool.and_eq_true _ _).mp hp
 exact acf rfl hs hl
def yw:cn:=(iq.aI vj aiq)
theorem WY:ac Tryz.prog 64 yw:=ar9
theorem WX:aG yw:=aA
def CD:Env:=ay 64 yw Nj
theorem zA:aQ Tryz.prog CD:=ag WY FW
theorem CC:ax CD:=ae WX G8
theorem aaI:aW Tryz.prog te CD:=aJ follows ar zA CC
end Go.Proofs.YtohjofabochgfaaGreat

namespace Go.Proofs.YtohjofabochgfaaGreat
namespace Sx
open Go
def YP (k:Nat) (s:cn):cn:=⟨true,λd args hp=>match args.getD k .bT with
 |.own c e=>match eC hp c e with
  |some (.row t xs)=>(s.f d args (fE hp [(c,⟨e,.frz t xs⟩)])).map (Out.after [(c,⟨e,.frz t xs⟩)])
  |some _=>s.f d args hp
  |none=>.fail
 |_=>s.f d args hp⟩
theorem aud {P:Program} {f:FuncId} {s:cn} {k:Nat} (h:ac P f s):ac P f (YP k s):=by
 refine ⟨λR w d args vs out hm hr hrun=> ?_⟩
 simp only [YP] at hrun
 split at hrun
 ·rename_i c e hce
  split at hrun
  ·rename_i t xs hc
   obtain ⟨out',h1,rfl⟩:=OT.run_map hrun
   obtain ⟨R1,ha⟩:=QR hm (cS hc)
   rw [<-show R1.hp=fE R.hp [(c,⟨e,.frz t xs⟩)] from ha.hp] at h1
   have hr1:SV.cm R1 args vs:=SV.eU ha.ext _ _ hr
   have hpost:∀ en w',IH R1 out' en w'->IH R (Out.after [(c,⟨e,.frz t xs⟩)] out') en w':=λen w' hp=>by
    cases out' with
    |ret q=>
     obtain ⟨v,R',h2,h3,h4⟩:=hp
     exact ⟨v,R',h2,ha.trans h3,h4⟩
    |pan q u=>
     obtain ⟨v,R',h2,h3,h4⟩:=hp
     exact ⟨v,R',h2,ha.trans h3,h4⟩
   rcases h.calls R1 w d _ vs out' ha.mem hr1 h1 with ⟨fn,f1,f2,f3,hcl⟩|⟨v,w',hv,hp⟩
   ·exact .inl ⟨fn,f1,f2,f3,hcl.mono hpost⟩
   ·exact .inr ⟨v,w',hv,hpost _ _ hp⟩
  ·exact h.calls R w d args vs out hm hr hrun
  ·cases hrun
 ·exact h.calls R w d args vs out hm hr hrun
theorem ad4 {s:cn} {k:Nat} (h:aG s):aG (YP k s):=λd args hp hp' out hg hrun=>by
 simp only [YP] at hrun⊢
 split at hrun
 ·split at hrun
  ·rename_i t xs hc
   rw [cG hg hc]
   simp only
   obtain ⟨out',h1,rfl⟩:=OT.run_map hrun
   refine atI (h d _ _ _ out' ⟨λn ch hn=> ?_,λn hn hn0=> ?_⟩ h1)
   ·simp only [fE] at hn⊢
    split
    ·rename_i h2;rw [if_pos h2] at hn;exact hn
    ·rename_i h2;rw [if_neg h2] at hn;exact hg.kO _ _ hn
   ·simp only [fE] at hn0⊢
    split
    ·rename_i h2;rw [if_pos h2] at hn0;cases hn0
    ·rename_i h2;rw [if_neg h2] at hn0;exact hg.free _ hn hn0
  ·rename_i b hnr hc
   rw [cG hg hc]
   cases b<;>first|exact h _ _ _ _ _ hg hrun|exact absurd rfl (hnr _ _)
  ·cases hrun
 ·exact h _ _ _ _ _ hg hrun
end Sx
end Go.Proofs.YtohjofabochgfaaGreat

namespace Go.Proofs.YtohjofabochgfaaGreat
open Sx Go
theorem aE5 {v:UInt64} {c:UInt8} (k:Nat) (hk:k<=7) (hv:v.toNat<2^(8*k)):
 (v|||bR c.toUInt64 (8*(k:Int))).toNat=v.toNat+c.toNat*2^(8*k)/\v.toNat+c.toNat*2^(8*k)<2^(8*(k+1)):=by
 have hc:c.toNat<256:=c.toNat_lt
 have h1:c.toNat*2^(8*k)<=255*2^(8*k):=Nat.mul_le_mul_right _ (by omega)
 have h2:2^(8*(k+1))=256*2^(8*k):=by rw [Nat.mul_add,Nat.pow_add];omega
 have h3:2^(8*(k+1))<=2^64:=Nat.pow_le_pow_right (by decide) (by omega)
 refine ⟨?_,by omega⟩
 have e1:bR c.toUInt64 (8*(k:Int))=c.toUInt64<<<UInt64.ofNat (8*k):=by
  unfold bR
  rw [if_pos (by omega)]
  congr 2
 have e2:(c.toUInt64<<<UInt64.ofNat (8*k)).toNat=c.toNat<<<(8*k):=by
  rw [UInt64.toNat_shiftLeft,UInt8.toNat_toUInt64,UInt64.toNat_ofNat']
  have:8*k%2^64%64=8*k:=by omega
  rw [this,Nat.shiftLeft_eq]
  exact Nat.mod_eq_of_lt (by omega)
 rw [e1,UInt64.toNat_or,e2,Nat.or_comm,<-Nat.shiftLeft_add_eq_or_of_lt hv,Nat.shiftLeft_eq]
 omega
theorem V5 (b:List UInt8):∀ k,k<=8->(kC b k).toNat=(List.range k).foldl (λs i=>s+(b.getD i 0).toNat*2^(8*i)) 0/\(kC b k).toNat<2^(8*k)
 |0,_=>⟨rfl,by simp [kC]⟩
 |k+1,h=>by
  obtain ⟨h1,h2⟩:=V5 b k (by omega)
  have h3:=aE5 (v:=kC b k) (c:=b.getD k 0) k (by omega) h2
  rw [Pb]
  refine ⟨?_,by omega⟩
  rw [h3.1,List.range_succ,List.foldl_append,h1]
  rfl
theorem azV {v:UInt64} {c:UInt8} (k:Nat) (hk:k<=7) (hv:v.toNat<2^(8*k)):
 (v*256+c.toUInt64).toNat=v.toNat*256+c.toNat/\v.toNat*256+c.toNat<2^(8*(k+1)):=by
 have hc:c.toNat<256:=c.toNat_lt
 have h2:2^(8*(k+1))=256*2^(8*k):=by rw [Nat.mul_add,Nat.pow_add];omega
 have h3:2^(8*(k+1))<=2^64:=Nat.pow_le_pow_right (by decide) (by omega)
 refine ⟨?_,by omega⟩
 rw [UInt64.toNat_add,UInt64.toNat_mul,UInt8.toNat_toUInt64,show (256:UInt64).toNat=256 from rfl]
 rw [Nat.mod_eq_of_lt (a:=v.toNat*256) (by omega),Nat.mod_eq_of_lt (by omega)]
theorem af4 (f:Nat->UInt8):∀ k,k<=8->(upto (λk v=>v*256+UInt8.toUInt64 (f (7-k))) (0:UInt64) k).toNat=(List.range k).foldl (λs j=>s*256+(f (7-j)).toNat) 0/\
 (upto (λk v=>v*256+UInt8.toUInt64 (f (7-k))) (0:UInt64) k).toNat<2^(8*k)
 |0,_=>⟨rfl,by simp [upto]⟩
 |k+1,h=>by
  obtain ⟨h1,h2⟩:=af4 f k (by omega)
  have h3:=azV (v:=upto (λk v=>v*256+UInt8.toUInt64 (f (7-k))) (0:UInt64) k) (c:=f (7-k)) k (by omega) h2
  refine ⟨?_,by simp only [upto];omega⟩
  simp only [upto]
  rw [h3.1,List.range_succ,List.foldl_append,h1]
  rfl
theorem ayD (g:Nat->Nat) (c:Nat):(List.range 8).foldl (λs i=>s+g i*c^i) 0=(List.range 8).foldl (λs j=>s*c+g (7-j)) 0:=by
 have r:List.range 8= [0,1,2,3,4,5,6,7]:=by decide
 rw [r]
 simp only [List.foldl_cons,List.foldl_nil,Nat.reduceSub,Nat.sub_self,Nat.sub_zero,Nat.add_mul,Nat.mul_assoc,Nat.zero_mul,Nat.zero_add,Nat.mul_one,Nat.pow_succ,Nat.pow_zero,Nat.one_mul]
 ac_rfl
theorem aD7 (g:Nat->Nat):(List.range 8).foldl (λs i=>s+g i*2^(8*i)) 0=(List.range 8).foldl (λs j=>s*256+g (7-j)) 0:=by
 have h:∀ i,2^(8*i)=(2^8)^i:=λi=>Nat.pow_mul 2 8 i
 have e:(λs i=>s+g i*2^(8*i))=(λs i=>s+g i*(2^8)^i):=by
  funext s i
  rw [h]
 rw [e]
 exact ayD g (2^8)
theorem awD (f:Nat->UInt8) (b:List UInt8) (hb:∀ i,i<8->b.getD i 0=f i):kC b 8=upto (λk v=>v*256+UInt8.toUInt64 (f (7-k))) 0 8:=by
 have hf:kC b 8=kC ((List.range 8).map f) 8:=by
  unfold kC
  have:∀ l:List Nat,(∀ i ∈ l,i<8)->∀ v,l.foldl (λv (i:Nat)=>v|||bR (UInt8.toUInt64 (b.getD i 0)) (8*(i:Int))) v=l.foldl (λv (i:Nat)=>v|||bR (UInt8.toUInt64 (((List.range 8).map f).getD i 0)) (8*(i:Int))) v:=by
   intro l
   induction l with
   |nil=>intro _ v;rfl
   |cons i r ih=>
    intro h v
    have hi:i<8:=h i (by simp)
    have e:((List.range 8).map f).getD i 0=f i:=by simp [List.getD_eq_getElem?_getD,hi]
    simp only [List.foldl_cons,hb i hi,e]
    exact ih (λj hj=>h j (by simp [hj])) _
  exact this _ (λi hi=>by simpa using hi) 0
 have e:∀ i,i<8->((List.range 8).map f).getD i 0=f i:=λi hi=>by simp [List.getD_eq_getElem?_getD,hi]
 rw [hf,<-UInt64.toNat_inj,(V5 _ 8 (Nat.le_refl _)).1,(af4 f 8 (Nat.le_refl _)).1,<-aD7 (λi=>(f i).toNat)]
 have:∀ l:List Nat,(∀ i ∈ l,i<8)->∀ v,l.foldl (λs (i:Nat)=>s+(((List.range 8).map f).getD i 0).toNat*2^(8*i)) v=l.foldl (λs i=>s+(f i).toNat*2^(8*i)) v:=by
  intro l
  induction l with
  |nil=>intro _ v;rfl
  |cons i r ih=>
   intro h v
   simp only [List.foldl_cons,e i (h i (by simp))]
   exact ih (λj hj=>h j (by simp [hj])) _
 exact this _ (λi hi=>by simpa using hi) 0
end Go.Proofs.YtohjofabochgfaaGreat

namespace Go.Proofs.YtohjofabochgfaaGreat
open Sx Go
theorem Ln {w r:List UInt8} (n:Nat) (hw:w.length<=n) (hr:∀ x ∈ r,x=0) (i:Nat):(w.take n++r).getD i 0=w.getD i 0:=by
 rw [List.take_of_length_le hw]
 simp only [List.getD_eq_getElem?_getD,List.getElem?_append]
 split
 ·rfl
 ·rename_i h
  rw [List.getElem?_eq_none (by omega:w.length<=i)]
  cases hx:r[i-w.length]? with
  |none=>rfl
  |some x=>rw [hr x (List.mem_of_getElem? hx)];rfl
theorem VY {n k:Nat}:∀ x ∈ (List.replicate n (0:UInt8)).drop k,x=0:=λx hx=>List.eq_of_mem_replicate (List.mem_of_mem_drop hx)
theorem adZ {w:List UInt8} (h:w.length<=128) (i:Nat):(nj w).getD i 0=w.getD i 0:=Ln 128 h VY i
theorem QO {w:List UInt8} (h:w.length<=16) (i:Nat):(OD w).getD i 0=w.getD i 0:=Ln 16 h VY i
theorem adl {w:List UInt8} (h:w.length=128):nj w=w:=by
 unfold nj
 rw [List.take_of_length_le (by omega),List.drop_eq_nil_of_le (by simp [h]),List.append_nil]
theorem abl {b c:List UInt8} (h:∀ i,c.getD i 0=b.getD i 0) (p:Nat):kC ((c.drop p).take 8) 8=il b p:=
 awD (λi=>b.getD (p+i) 0) _ λi hi=>by
  rw [<-h]
  simp only [List.getD_eq_getElem?_getD,List.getElem?_take,if_pos hi,List.getElem?_drop]
theorem ab4 {b:List UInt8} (hb:b.length<=128):kE b=qd (nj b):=by
 unfold kE qd
 congr 1
 funext k m
 unfold apu
 rw [abl (adZ hb)]
theorem Jl {h:List UInt64} {b:List UInt8} {t:UInt64} {l:Bool} (hb:b.length<=128):dJ h b t l=xu h (nj b) t l:=by
 unfold dJ xu
 rw [ab4 hb]
theorem aEy {p:List UInt8} {n:Int} (hp:p.length<=16):arH p n=amJ p n:=by
 unfold arH amJ
 have h0:il p 0=kC ((OD p).take 8) 8:=(abl (QO hp) 0).symm
 have h8:il p 8=kC (((OD p).drop 8).take 8) 8:=(abl (QO hp) 8).symm
 rw [h0,h8]
theorem Ug (m:Nat):i2u (m:Int)=UInt64.ofNat m:=by
 unfold i2u
 rw [<-UInt64.toNat_inj,UInt64.toNat_ofNat',UInt64.toNat_ofNat']
 omega
theorem atU (a b:Nat):i2u ((a+b:Nat):Int)=i2u (a:Int)+i2u (b:Int):=by
 rw [Ug,Ug,Ug,UInt64.ofNat_add]
theorem au1 (b:List UInt8) (h:List UInt64):∀ k,128*k<=b.length->upto (λ_ s=>aob s) (h,0,b) k=(n6 b h k,i2u ((128*k:Nat):Int),b.drop (128*k))
 |0,_=>rfl
 |k+1,hk=>by
  have ih:=au1 b h k (by omega)
  show aob (upto (λ_ s=>aob s) (h,0,b) k)=_
  rw [ih]
  have e1:(b.take (128*k+128)).drop (128*k)=(b.drop (128*k)).take 128:=by rw [List.drop_take];congr 1;omega
  have e2:i2u ((128*k+128:Nat):Int)=i2u ((128*k:Nat):Int)+128:=atU _ 128
  have hl:((b.drop (128*k)).take 128).length=128:=by simp;omega
  have e3:n6 b h (k+1)=xu (n6 b h k) ((b.drop (128*k)).take 128) (i2u ((128*k:Nat):Int)+128) false:=by
   show dJ (n6 b h k) ((b.take (128*k+128)).drop (128*k)) (i2u ((128*k+128:Nat):Int)) false=_
   rw [e1,e2,Jl (by omega),adl hl]
  unfold aob
  rw [e3,List.drop_drop,show 128*(k+1)=128*k+128 by omega,e2]
theorem aq8 {α:Type} (g:Nat->α) (d:α) (n:Nat):∀ m,m<=n->upto (λk o=>o.set k (g k)) (List.replicate n d) m=(List.range m).map g++List.replicate (n-m) d
 |0,_=>by simp [upto]
 |m+1,h=>by
  have ih:=aq8 g d n m (by omega)
  show (upto (λk o=>o.set k (g k)) (List.replicate n d) m).set m (g m)=_
  rw [ih,List.set_append_right _ _ (by simp),List.length_map,List.length_range,Nat.sub_self,show n-m=(n-(m+1))+1 by omega,List.replicate_succ,List.set_cons_zero,List.range_succ,List.map_append]
  simp
theorem afn {α:Type} (g:Nat->α):∀ m,upto (λk o=>o++ [g k]) [] m=(List.range m).map g
 |0=>rfl
 |m+1=>by
  show upto (λk o=>o++ [g k]) [] m++ [g m]=_
  rw [afn g m,List.range_succ,List.map_append]
  rfl
theorem aks (h:List UInt64) (n:Nat):AD h n=HP h n:=by
 unfold AD HP
 rw [afn,aq8 _ _ n n (Nat.le_refl _),Nat.sub_self,List.replicate_zero,List.append_nil]
 congr 1
 funext k
 have e:8*((k%8:Nat):Int)=((8*(k%8):Nat):Int):=by omega
 rw [e,Ug,UInt64.toNat_ofNat',Nat.mod_eq_of_lt (by omega)]
theorem ay0 {p:List UInt8} {n:Int} {b:List UInt8} (hp:p.length<=16):ay1 p n b=rm p n b:=by
 unfold ay1 rm r9 L9
 rw [aEy hp,aks]
 have hk:128*((b.length-1)/128)<=b.length:=by omega
 show _=aD9 n (upto (λ_ s=>aob s) (amJ p n,0,b) ((b.length-1)/128))
 rw [au1 b _ _ hk]
 unfold aD9
 have hl:(b.drop (128*((b.length-1)/128))).length<=128:=by simp only [List.length_drop];omega
 have hc:i2u (b.length:Int)=i2u ((128*((b.length-1)/128):Nat):Int)+i2u ((b.drop (128*((b.length-1)/128))).length:Int):=by
  rw [<-atU,List.length_drop]
  congr 2
  omega
 rw [Jl hl,hc]
theorem OU (p:List UInt8) (n:Int) (b:List UInt8):(rm p n b).length=n.toNat:=by
 unfold rm aD9
 rw [<-aks]
 unfold AD
 rw [afn,List.length_map,List.length_range]
end Go.Proofs.YtohjofabochgfaaGreat

namespace Go.Proofs.YtohjofabochgfaaGreat
namespace Sx
open Go
def aro:List SV->List Nat
 | []=> []
 |.own c _::r=>c::aro r
 |.part c _ _ _::r=>c::aro r
 |_::r=>aro r
def afo:SV->List Nat
 |.agg l=>aro l
 |.tup (.agg l::_)=>aro l
 |_=> []
def ajC:List Nat->Hp->Hp
 | [],hp=>hp
 |c::r,hp=>ajC r (match hp c with
  |some ⟨e,.row t xs⟩=>fE hp [(c,⟨e,.frz t xs⟩)]
  |_=>hp)
theorem auc {w:World}:∀ (l:List Nat) {R:Ctx},dz R w->∃ R1,R.Ext R1/\dz R1 w/\R1.hp=ajC l R.hp
 | [],R,hm=>⟨R,Ctx.Ext.refl R,hm,rfl⟩
 |c::r,R,hm=>by
  have step:∃ R1,R.Ext R1/\dz R1 w/\R1.hp=(match R.hp c with
   |some ⟨e,.row t xs⟩=>fE R.hp [(c,⟨e,.frz t xs⟩)]
   |_=>R.hp):=by
   split
   ·rename_i e t xs hc
    obtain ⟨R1,h1⟩:=QR hm hc
    exact ⟨R1,h1.ext,h1.mem,h1.hp⟩
   ·exact ⟨R,Ctx.Ext.refl R,hm,rfl⟩
  obtain ⟨R1,a1,a2,a3⟩:=step
  obtain ⟨R2,b1,b2,b3⟩:=auc r a2
  refine ⟨R2,a1.trans b1,b2,?_⟩
  rw [b3,a3]
  rfl
section
variable {P:Program} {te:TE} {Φ:Env} (hte:nC P te) (hΦ:aQ P Φ) (hany:aW P te Φ)
include hte hΦ hany
theorem aFM {f:FuncId} {fn:Func} {c:Code} (hf:P.funcs[f]? =some fn) (hb:fn.body=some c) (hname:(fn.name== "runtime.NumGoroutine")=false) {S:aw} {k:Nat} (hk:S.chunks.all (λc=>Nat.blt c.1 k&& !c.2.tq)=true) {Λ:Lam}
 (hΛ:∀ R,Small R k->Cr P R Λ c) {n:Nat} {pre:S.T->Bool} {F:S.T->OT S.Y}
 (h:∀ x oy,pre x=true->(F x).run=some oy->∃ K,wpf te Φ Λ n fn (S.inp.inj x).tm (S.inp.inj x).hp K (λ_ _=>False)/\(∀ v hp,K v hp->oy.1.is oy.2 false v (ajC (afo v) hp))):ac P f (S.aI pre F):=by
 refine ⟨?_⟩
 intro R w d args vs out hm hr hrun
 refine .inl ⟨fn,hf,hname,by rw [hb];rfl,?_⟩
 simp only [aw.aI] at hrun
 split at hrun
 ·cases hrun
 ·rename_i x hx
  obtain ⟨hpre,h2⟩:=OT.aK hrun
  obtain ⟨oy,h3,h4⟩:=OT.run_bind h2
  unfold aw.emit at h4
  dsimp only at h4
  obtain ⟨hend,h5⟩:=OT.aK h4
  obtain ⟨K,hwp,hK1⟩:=h x oy hpre h3
  have hx':=hx
  unfold Shape.prj at hx'
  dsimp only at hx'
  cases hbo:S.inp.ME ⟨args,R.hp⟩ (S.inp.bd ⟨args,R.hp⟩)&&Nat.beq args.length S.inp.n
  ·rw [hbo] at hx';cases hx'
  ·rw [hbo] at hx'
   rw [Bool.and_eq_true] at hbo
   obtain ⟨hx1,hx2⟩:=bI hx'
   have hlen:args.length=S.inp.n:=Nat.eq_of_beq_eq_true hbo.2
   have hN:=Ia (s:=S.inp) (st:=⟨args,R.hp⟩) (F':=R.BC (S.inp.bd ⟨args,R.hp⟩) S.bN w) (U':=R.Ih (S.inp.bd ⟨args,R.hp⟩) S.bN w) hbo.1 hx2 rfl hm (Lg hm) (ES hm) adU (Lf hm) Le atS hm.env
   have hargs:SV.cm (R.named (R.BC (S.inp.bd ⟨args,R.hp⟩) S.bN w) (R.Ih (S.inp.bd ⟨args,R.hp⟩) S.bN w) (S.inp.bd ⟨args,R.hp⟩) (dS S.chunks x.2)) (S.inp.inj x).tm vs:=
    j8 (s:=S.inp) (st:=⟨args,R.hp⟩) hbo.1 hx2 rfl hm (Lg hm) (ES hm) hr hx1 (SV.yp (by rw [List.length_replicate,<-hlen];exact SV.aV hr) λi hi hi'=>by simp [SV.rel])
   have hsm:Small (R.named (R.BC (S.inp.bd ⟨args,R.hp⟩) S.bN w) (R.Ih (S.inp.bd ⟨args,R.hp⟩) S.bN w) (S.inp.bd ⟨args,R.hp⟩) (dS S.chunks x.2)) k:=λc ch hc=>by
    obtain ⟨s,y',g1,g2,g3⟩:=dW hx2 (hc:dS S.chunks x.2 c=some ch)
    have:=(List.all_eq_true.1 hk) _ g1
    simp only [Bool.and_eq_true,Bool.not_eq_true'] at this
    refine ⟨dR this.1,?_⟩
    rw [g3]
    cases s<;>first|rfl|(cases this.2;done)
   refine (IR hte hΦ hany hf hb (hΛ _ hsm) hN hargs hwp).mono λen w' hp=> ?_
   rcases hp with ⟨y,v,R₁,rfl,hx1,hm1,hv,hy⟩|⟨y,v,R₁,rfl,hx1,hm1,hv,hy⟩
   ·replace hy:=hK1 _ _ hy
    obtain ⟨R₂,b1,b2,b3⟩:=auc (afo y) hm1
    rw [<-b3] at hy
    obtain ⟨R',a1,a2⟩:=ajM hm hx hk (hx1.trans b1) b2 (SV.ab3 b1 _ _ hv) hy hend
    rw [hy.1] at h5
    cases h5
    exact ⟨v,R',rfl,a1,a2⟩
   ·exact hy.elim
def aIj (S:aw) (sel:SV->Option az) (Q:S.Y->Prop) (v:SV) (hp:Hp):Prop:=fnK S sel Q v (ajC (afo v) hp)
theorem ajK {f:FuncId} {fn:Func} {c:Code} (hf:P.funcs[f]? =some fn) (hb:fn.body=some c) (hname:(fn.name== "runtime.NumGoroutine")=false) {S:aw} {k:Nat} (hk:S.chunks.all (λc=>Nat.blt c.1 k&& !c.2.tq)=true) {Λ:Lam}
 (hΛ:∀ R,Small R k->Cr P R Λ c) {n:Nat} {sel:SV->Option az} (hsel:∀ v o,sel v=some o->o.pan=false) {pre:S.T->Bool} {F T:S.T->OT S.Y}
 (h:∀ x Q,wpf te Φ Λ n fn (S.inp.inj x).tm (S.inp.inj x).hp (aIj S sel Q) (λ_ _=>False)=(T x).wpR Q)
 (hF:∀ x oy,pre x=true->(F x).run=some oy->(T x).run=some oy):ac P f (S.aI pre F):=by
 refine aFM hte hΦ hany hf hb hname hk hΛ (n:=n) λx oy hp hr=>⟨aIj S sel (λz=>z=oy),?_,λv hp hq=> ?_⟩
 ·rw [h,OT.V4];exact OT.nY (hF x oy hp hr) rfl
 ·unfold aIj fnK at hq
  split at hq
  ·rename_i o ho
   split at hq
   ·rename_i y hy
    subst hq
    exact ⟨hsel v o ho,hy⟩
   ·exact hq.elim
  ·exact hq.elim
omit hte hΦ hany
def wD:cn:=⟨false,λ_ args hp=>match args with
 | [.own c e]=>match eC hp c e with
  |some (.row .u8 xs)=>.br (decide (0<xs.length)) (.ok (.ret ⟨.clip c e,[]⟩)) .fail
  |_=>.fail
 |_=>.fail⟩
theorem avk:aG wD:=λd args hp hp' out hg hrun=>by
 simp only [wD] at hrun⊢
 split at hrun
 ·split at hrun
  ·rename_i xs hx
   simp only [cG hg hx]
   exact hrun
  ·cases hrun
 ·cases hrun
include hte hΦ hany
theorem aGn {f:FuncId} {fn:Func} {c:Code} (hf:P.funcs[f]? =some fn) (hb:fn.body=some c) (hname:(fn.name== "runtime.NumGoroutine")=false) (hΛ:∀ R,Cr P R av c) {n:Nat}
 (h:∀ (hp:Hp) (c e:Nat) (xs:List UInt8) (K:SV->Hp->Prop),eC hp c e=some (.row .u8 xs)->0<xs.length->K (.clip c e) hp->wpf te Φ av n fn [.own c e] hp K (λ_ _=>False)):ac P f wD:=by
 refine ⟨λR w d args vs out hm hr hrun=>.inl ⟨fn,hf,hname,by rw [hb];rfl,?_⟩⟩
 simp only [wD] at hrun
 split at hrun
 ·split at hrun
  ·rename_i c e _ xs hx
   cases hlen:decide (0<xs.length)
   ·rw [hlen] at hrun;cases hrun
   rw [hlen] at hrun
   cases hrun
   refine (IR (n:=n) (K:=λv hp=>v=.clip c e/\hp=R.hp) (Kp:=λ_ _=>False) hte hΦ hany hf hb (hΛ _) hm hr (h _ _ _ xs _ hx (of_decide_eq_true hlen) ⟨rfl,rfl⟩)).mono λen w' hp=> ?_
   rcases hp with ⟨x,v,R₁,rfl,hx1,hm1,hv,rfl,hy⟩|⟨x,v,R₁,rfl,hx1,hm1,hv,hy⟩
   ·exact ⟨v,R₁,rfl,⟨hx1,hy,hm1⟩,hv⟩
   ·exact hy.elim
  ·cases hrun
 ·cases hrun
end
theorem fL {te:TE} {Φ:Env} {ops:List Oper} {K:SE->St->Prop} {o:Oper} {r:List Oper} {tm tm':List SV} {hp:Hp} (v:SV) (hg:guarded ops tm o=some true) (hc:(Fc te Φ hp (o.dst.getD 100000) (St.eval ⟨tm,hp⟩) o.op).run=some (.ret ⟨v,[]⟩))
 (ht:Ep ⟨tm,hp⟩ o.dst v=tm') (h:kg te Φ ops K r ⟨tm',hp⟩):kg te Φ ops K (o::r) ⟨tm,hp⟩:=by
 subst ht
 simp only [kg,hg]
 exact OT.nY hc h
theorem aCB {te:TE} {Φ:Env} {Λ:Lam} {n i j:Nat} {a b:Array Oper} {st:St} {K:SE->St->Prop}:wps te Φ Λ (n+3) (.seq (.region i a false) (.seq (.region j b false) .ret)) st K=
 za te Φ a.toList (λe st=>match e with
  |.normal=>za te Φ b.toList (λe st=>match e with
   |.normal=>K .ret st
   |e=>K e st) b.toList st
  |e=>K e st) a.toList st:=rfl
end Sx
end Go.Proofs.YtohjofabochgfaaGreat

namespace Go.Proofs.YtohjofabochgfaaGreat
open Sx Go
set_option maxRecDepth 100000
def as9 (c:Code):Array Oper:=match c with
 |.seq (.region _ ops _) _=>ops
 |_=> #[]
def as8 (c:Code):Array Oper:=match c with
 |.seq _ (.seq (.region _ ops _) _)=>ops
 |_=> #[]
theorem aE2:(Tryz.f68).body=some (.seq (.region 0 (as9 (aj Tryz.f68)) false) (.seq (.region 1 (as8 (aj Tryz.f68)) false) .ret)):=by kernel_rfl
theorem aE1 (x:SV): [x]++List.replicate ((Tryz.f68).ntmps- [x].length) SV.undef= [x,.undef,.undef,.undef,.undef,.undef,.undef,.undef,.undef]:=by kernel_rfl
theorem as6 (hp:Hp) (c e:Nat):OK te hp 25 (.own c e)=(match eE hp c e with|some n=>.ok (.int n)|none=>.fail):=by kernel_rfl
theorem as7 (hp:Hp) (c e:Nat) (n:Int):qi te hp 25 (.own c e) none (some (.int n)) (some (.int n))=.br (Ky none (some (.int n)) (some (.int n))) (if (eE hp c e).isSome then .ok .emp else .fail) (match (none:Option SV),some (SV.int n),eE hp c e with
 |none,some (.int h),some m=>if dA hp c e=some 1 then .br (decide (h=(m:Int))&&decide (n=(m:Int))) (.ok (.clip c e)) (.guard (decide (0<=h)&&decide (h<=n)&&decide (n<=(m:Int))) (.ok (.part c e 0 h.toNat))) else .fail
 |_,_,_=>.fail):=by kernel_rfl
noncomputable def aE3 (k:Nat):Oper:=(as9 (aj Tryz.f68)).toList.getD k default
noncomputable def yO (k:Nat):Oper:=(as8 (aj Tryz.f68)).toList.getD k default
theorem azL:(as9 (aj Tryz.f68)).toList= [aE3 0]:=by kernel_rfl
theorem azJ:(as8 (aj Tryz.f68)).toList= [yO 0,yO 1,yO 2,yO 3,yO 4,yO 5,yO 6]:=by kernel_rfl
theorem azI (hp:Hp) (c e:Nat) (xs:List UInt8) (K:SV->Hp->Prop) (hx:eC hp c e=some (.row .u8 xs)) (hl:0<xs.length) (hK:K (.clip c e) hp):
 wpf te CD av 1000 Tryz.f68 [.own c e] hp K (λ_ _=>False):=by
 have e1:eE hp c e=some xs.length:=by simp [eE,hx]
 have e2:dA hp c e=some 1:=by simp only [dA,hx];rfl
 have h1:OK te hp 25 (.own c e)=.ok (.int xs.length):=by rw [as6,e1]
 have h2:(qi te hp 25 (.own c e) none (some (.int xs.length)) (some (.int xs.length))).run=some (.clip c e):=by
  rw [as7,e1]
  simp only [e2,if_true]
  refine (OT.aq ?_).trans (OT.ao (by simp))
  simp only [Ky,Bool.and_self,decide_eq_false_iff_not]
  omega
 unfold wpf
 rw [aE2]
 dsimp only
 rw [aE1,aCB (n:=997),wg,azL]
 refine fL (.emp) (by kernel_rfl) (by kernel_rfl) (tm':= [.own c e,.undef,.emp,.undef,.undef,.undef,.undef,.undef,.undef]) (by kernel_rfl) ?_
 dsimp only [kg]
 rw [wg,azJ]
 refine fL (.own c e) (by kernel_rfl) (by kernel_rfl) (tm':= [.own c e,.undef,.emp,.own c e,.undef,.undef,.undef,.undef,.undef]) (by kernel_rfl) ?_
 refine fL (.own c e) (by kernel_rfl) (by kernel_rfl) (tm':= [.own c e,.undef,.emp,.own c e,.own c e,.undef,.undef,.undef,.undef]) (by kernel_rfl) ?_
 refine fL (.int xs.length) (by kernel_rfl) (Eq.trans (b:=(iG (OK te hp 25 (.own c e))).run) (by kernel_rfl) (by rw [h1];rfl)) (tm':= [.own c e,.undef,.emp,.own c e,.own c e,.int xs.length,.undef,.undef,.undef]) (by kernel_rfl) ?_
 refine fL (.own c e) (by kernel_rfl) (by kernel_rfl) (tm':= [.own c e,.undef,.emp,.own c e,.own c e,.int xs.length,.own c e,.undef,.undef]) (by kernel_rfl) ?_
 refine fL (.int xs.length) (by kernel_rfl) (Eq.trans (b:=(iG (OK te hp 25 (.own c e))).run) (by kernel_rfl) (by rw [h1];rfl)) (tm':= [.own c e,.undef,.emp,.own c e,.own c e,.int xs.length,.own c e,.int xs.length,.undef]) (by kernel_rfl) ?_
 refine fL (.clip c e) (by kernel_rfl) (Eq.trans (b:=(iG (qi te hp 25 (.own c e) none (some (.int xs.length)) (some (.int xs.length)))).run) (by kernel_rfl) (atI h2)) (tm':= [.own c e,.undef,.emp,.own c e,.own c e,.int xs.length,.own c e,.int xs.length,.clip c e]) (by kernel_rfl) ?_
 refine fL (.clip c e) (by kernel_rfl) (by kernel_rfl) (tm':= [.own c e,.undef,.clip c e,.own c e,.own c e,.int xs.length,.own c e,.int xs.length,.clip c e]) (by kernel_rfl) ?_
 exact hK
theorem azK:ac Tryz.prog 68 wD:=
 aGn ar zA aaI (f:=68) (fn:=Tryz.f68) (c:=aj Tryz.f68) (by kernel_rfl) (by kernel_rfl) (by kernel_rfl) (λR=>af) (n:=1000) azI
def EC:cn:=wD
theorem adi:ac Tryz.prog 68 EC:=azK
theorem adh:aG EC:=avk
def zH:Env:=ay 68 EC CD
theorem pU:aQ Tryz.prog zH:=ag adi zA
theorem Hd:ax zH:=ae adh CC
theorem zG:aW Tryz.prog te zH:=aJ follows ar pU Hd
def fe:aw:=⟨[.val false .int,.val false .int,.val false (.list .u8)],[],true,0,false⟩
abbrev vP:Type:=((Int)×(Int)×(List (UInt8))×Unit)×(Unit)
def oQ:Shape:=⟨87,[(0,.val false .int),(1,.val false .int),(6,.ptr 0 0 0),(10,.own 1),(38,.val false .int)],[(0,.cells [.val false .u64,.val false .u64,.val false .u64,.val false .u64,.val false .u64,.val false .u64,.val false .u64,.val false .u64,.val false .bool]),(1,.row .u8)],0,true⟩
abbrev ca:Type:=((Int)×(Int)×(Unit)×(Unit)×(Int)×Unit)×(((UInt64)×(UInt64)×(UInt64)×(UInt64)×(UInt64)×(UInt64)×(UInt64)×(UInt64)×(Bool)×Unit)×(List (UInt8))×Unit)
def nh:Shape:=⟨87,[(0,.val false .int),(6,.ptr 0 0 0),(10,.own 1)],[(0,.cells [.val false .u64,.val false .u64,.val false .u64,.val false .u64,.val false .u64,.val false .u64,.val false .u64,.val false .u64,.val false .bool]),(1,.row .u8)],0,true⟩
abbrev iL:Type:=((Int)×(Unit)×(Unit)×Unit)×(((UInt64)×(UInt64)×(UInt64)×(UInt64)×(UInt64)×(UInt64)×(UInt64)×(UInt64)×(Bool)×Unit)×(List (UInt8))×Unit)
def Qm:SE->Option Shape:=fC [(1,nh)] none
def amA (a0:Int) (a1:Int) (a38:Int) (c0_0:UInt64) (c0_1:UInt64) (c0_2:UInt64) (c0_3:UInt64) (c0_4:UInt64) (c0_5:UInt64) (c0_6:UInt64) (c0_7:UInt64) (c0_8:Bool) (c1:List (UInt8)):OT (Sum ca aE):=
 (.br (decide (a38<(4:Int)))
 (gd [inR ((8:Int)*a38),decide ((0:Int)<=(8:Int)*a38),decide ((List.length c1+1)*1<=140737488355328),inR (a38+(1:Int))] (.ok (.inl ((a0,(a1,((),((),(a38+(1:Int),()))))),((c0_0,(c0_1,(c0_2,(c0_3,(c0_4,(c0_5,(c0_6,(c0_7,(c0_8,()))))))))),(c1++ [i2b (atQ a1 ((8:Int)*a38))],()))))))
 (.ok (.inr ⟨(.exit 1,nh),((a0,((),((),()))),((c0_0,(c0_1,(c0_2,(c0_3,(c0_4,(c0_5,(c0_6,(c0_7,(c0_8,()))))))))),(c1,())))⟩)))
def oT (s:ca):OT (Sum ca aE):=amA (s.1.1) (s.1.2.1) (s.1.2.2.2.2.1) (s.2.1.1) (s.2.1.2.1) (s.2.1.2.2.1) (s.2.1.2.2.2.1) (s.2.1.2.2.2.2.1) (s.2.1.2.2.2.2.2.1) (s.2.1.2.2.2.2.2.2.1) (s.2.1.2.2.2.2.2.2.2.1) (s.2.1.2.2.2.2.2.2.2.2.1) (s.2.2.1)
theorem amv (s:ca) (Q:Sum ca aE->Prop):wps te zH av 1000 (aU (aj Tryz.f29) 1) (oQ.inj s) (bY oQ Qm (Q:Sum oQ.T aE->Prop))=(oT s).wpR Q:=by kernel_rfl
def vO (g1_1:ca->iL) (s:ca):OT aE:=(.ok ⟨(.exit 1,nh),g1_1 s⟩)
def oP:Shape:=⟨87,[(0,.val false .int),(6,.ptr 0 0 0),(10,.own 1),(50,.val false .int)],[(0,.cells [.val false .u64,.val false .u64,.val false .u64,.val false .u64,.val false .u64,.val false .u64,.val false .u64,.val false .u64,.val false .bool]),(1,.row .u8)],0,true⟩
abbrev bh:Type:=((Int)×(Unit)×(Unit)×(Int)×Unit)×(((UInt64)×(UInt64)×(UInt64)×(UInt64)×(UInt64)×(UInt64)×(UInt64)×(UInt64)×(Bool)×Unit)×(List (UInt8))×Unit)
def fS:Shape:=⟨87,[(6,.ptr 0 0 0),(7,.val false .int)],[(0,.cells [.val false .u64,.val false .u64,.val false .u64,.val false .u64,.val false .u64,.val false .u64,.val false .u64,.val false .u64,.val false .bool])],0,true⟩
abbrev gu:Type:=((Unit)×(Int)×Unit)×(((UInt64)×(UInt64)×(UInt64)×(UInt64)×(UInt64)×(UInt64)×(UInt64)×(UInt64)×(Bool)×Unit)×Unit)
def ng:Shape:=⟨87,[(6,.ptr 0 0 0)],[(0,.cells [.val false .u64,.val false .u64,.val false .u64,.val false .u64,.val false .u64,.val false .u64,.val false .u64,.val false .u64,.val false .bool])],0,true⟩
abbrev gv:Type:=((Unit)×Unit)×(((UInt64)×(UInt64)×(UInt64)×(UInt64)×(UInt64)×(UInt64)×(UInt64)×(UInt64)×(Bool)×Unit)×Unit)
def Ql:SE->Option Shape:=fC [(3,ng)] (some fS)
def amz (a0:Int) (a50:Int) (c0_0:UInt64) (c0_1:UInt64) (c0_2:UInt64) (c0_3:UInt64) (c0_4:UInt64) (c0_5:UInt64) (c0_6:UInt64) (c0_7:UInt64) (c0_8:Bool) (c1:List (UInt8)):OT (Sum bh aE):=
 let z0:Nat:=List.length c1
 let z1:List UInt8:=c1++ [i2b a50]
 let z2:Bool:=ap a0
 let z3:Nat:=aa.nat (aY (Int.toNat a0)).fst
 let z4:(aa×aa×Bool)×Int:=Zu a0 (an8 (ofN (aa.nat (ak3 a0 (rm [(115:UInt8),(105:UInt8),(103:UInt8),(105:UInt8),(108:UInt8),(45:UInt8),(103:UInt8),(101:UInt8),(110:UInt8),(101:UInt8),(114:UInt8),(97:UInt8),(116:UInt8),(111:UInt8),(114:UInt8),(115:UInt8)] (64:Int) z1))%z3)))
 let z5:=z4.fst
 let z6:=z5.snd
 let z7:=z6.snd
 let z8:=z5.fst
 let z9:=z6.fst
 let z10:Bool:=inR (a50+(1:Int))
 let z11:(aa×aa×Bool)×Int:=Zu a0 []
 let z12:=z11.fst
 let z13:=z12.snd
 let z14:=z13.snd
 let z15:Bool:= !z14
 let z16:=z12.fst
 let z17:=z16.w0
 let z18:=z16.w1
 let z19:=z16.w2
 let z20:=z16.w3
 let z21:=z13.fst
 let z22:=z21.w0
 let z23:=z21.w1
 let z24:=z21.w2
 let z25:=z21.w3
 let z26:(aa×aa×Bool)×Int:=Zu a0 (an8 (ofN (aa.nat {w0:=0,w1:=0,w2:=0,w3:=0}%z3)))
 let z27:=z26.fst
 let z28:=z27.snd
 let z29:=z28.snd
 let z30:=z27.fst
 let z31:=z28.fst
 (.br (decide (a50<(256:Int)))
 (gd [decide (0<z0),decide ((z0+1)*1<=140737488355328)&&decide (0<1),B5 (([(115:UInt8),(105:UInt8),(103:UInt8),(105:UInt8),(108:UInt8),(45:UInt8),(103:UInt8),(101:UInt8),(110:UInt8),(101:UInt8),(114:UInt8),(97:UInt8),(116:UInt8),(111:UInt8),(114:UInt8),(115:UInt8)],(64:Int),z1,()),())] (.br (z2)
  (.br (z2)
   (.br (z4.snd==(0:Int))
    (.br (!z7)
     (.ok (.inr ⟨(.ret,fS),(((),((0:Int),())),((z8.w0,(z8.w1,(z8.w2,(z8.w3,(z9.w0,(z9.w1,(z9.w2,(z9.w3,(z7,()))))))))),()))⟩))
     (gd [z10] (.ok (.inl ((a0,((),((),(a50+(1:Int),())))),((c0_0,(c0_1,(c0_2,(c0_3,(c0_4,(c0_5,(c0_6,(c0_7,(c0_8,()))))))))),(c1,())))))))
    (gd [z10] (.ok (.inl ((a0,((),((),(a50+(1:Int),())))),((c0_0,(c0_1,(c0_2,(c0_3,(c0_4,(c0_5,(c0_6,(c0_7,(c0_8,()))))))))),(c1,())))))))
   (.br (z11.snd==(0:Int))
    (.br (z15)
     (.ok (.inr ⟨(.ret,fS),(((),((0:Int),())),((z17,(z18,(z19,(z20,(z22,(z23,(z24,(z25,(z14,()))))))))),()))⟩))
     (gd [z10] (.ok (.inl ((a0,((),((),(a50+(1:Int),())))),((c0_0,(c0_1,(c0_2,(c0_3,(c0_4,(c0_5,(c0_6,(c0_7,(c0_8,()))))))))),(c1,())))))))
    (gd [z10] (.ok (.inl ((a0,((),((),(a50+(1:Int),())))),((c0_0,(c0_1,(c0_2,(c0_3,(c0_4,(c0_5,(c0_6,(c0_7,(c0_8,()))))))))),(c1,()))))))))
  (.br (z2)
   (.br (z26.snd==(0:Int))
    (.br (!z29)
     (.ok (.inr ⟨(.ret,fS),(((),((0:Int),())),((z30.w0,(z30.w1,(z30.w2,(z30.w3,(z31.w0,(z31.w1,(z31.w2,(z31.w3,(z29,()))))))))),()))⟩))
     (gd [z10] (.ok (.inl ((a0,((),((),(a50+(1:Int),())))),((c0_0,(c0_1,(c0_2,(c0_3,(c0_4,(c0_5,(c0_6,(c0_7,(c0_8,()))))))))),(c1,())))))))
    (gd [z10] (.ok (.inl ((a0,((),((),(a50+(1:Int),())))),((c0_0,(c0_1,(c0_2,(c0_3,(c0_4,(c0_5,(c0_6,(c0_7,(c0_8,()))))))))),(c1,())))))))
   (.br (z11.snd==(0:Int))
    (.br (z15)
     (.ok (.inr ⟨(.ret,fS),(((),((0:Int),())),((z17,(z18,(z19,(z20,(z22,(z23,(z24,(z25,(z14,()))))))))),()))⟩))
     (gd [z10] (.ok (.inl ((a0,((),((),(a50+(1:Int),())))),((c0_0,(c0_1,(c0_2,(c0_3,(c0_4,(c0_5,(c0_6,(c0_7,(c0_8,()))))))))),(c1,())))))))
    (gd [z10] (.ok (.inl ((a0,((),((),(a50+(1:Int),())))),((c0_0,(c0_1,(c0_2,(c0_3,(c0_4,(c0_5,(c0_6,(c0_7,(c0_8,()))))))))),(c1,()))))))))))
 (.ok (.inr ⟨(.exit 3,ng),(((),()),((c0_0,(c0_1,(c0_2,(c0_3,(c0_4,(c0_5,(c0_6,(c0_7,(c0_8,()))))))))),()))⟩)))
def oS (s:bh):OT (Sum bh aE):=amz (s.1.1) (s.1.2.2.2.1) (s.2.1.1) (s.2.1.2.1) (s.2.1.2.2.1) (s.2.1.2.2.2.1) (s.2.1.2.2.2.2.1) (s.2.1.2.2.2.2.2.1) (s.2.1.2.2.2.2.2.2.1) (s.2.1.2.2.2.2.2.2.2.1) (s.2.1.2.2.2.2.2.2.2.2.1) (s.2.2.1)
theorem amu (s:bh) (Q:Sum bh aE->Prop):wps te zH av 1000 (aU (aj Tryz.f29) 3) (oP.inj s) (bY oP Ql (Q:Sum oP.T aE->Prop))=(oS s).wpR Q:=by kernel_rfl
def oR (g3_r:bh->gu) (c3_r:bh->Bool) (g3_3:bh->gv) (s:bh):OT aE:=(.br (c3_r s) (.ok ⟨(.ret,fS),g3_r s⟩) (.ok ⟨(.exit 3,ng),g3_3 s⟩))
def hI:az:=⟨[.val true (.prod .elem (.prod .elem .bool)),.val false .int],[],false⟩
def Kq:SV->Option az:=λ_=>some hI
def Kt (ok1:ca->Bool) (g1_1:ca->iL) (ok3:bh->Bool) (g3_r:bh->gu) (c3_r:bh->Bool) (g3_3:bh->gv) (a0:Int) (a1:Int) (a2:List (UInt8)):OT fe.Y:=
 let z0:aa:= {w0:=0,w1:=0,w2:=0,w3:=0}
 let z1:aa×aa×Bool:=(z0,z0,false)
 let z2:(Int×Int×PUnit×PUnit×Int×PUnit)×(UInt64×UInt64×UInt64×UInt64×UInt64×UInt64×UInt64×UInt64×Bool×PUnit)×List UInt8×PUnit:=((a0,a1,(),(),(0:Int),()),((0:UInt64),(0:UInt64),(0:UInt64),(0:UInt64),(0:UInt64),(0:UInt64),(0:UInt64),(0:UInt64),false,()),a2,())
 let z3:(Int×PUnit×PUnit×PUnit)×(UInt64×UInt64×UInt64×UInt64×UInt64×UInt64×UInt64×UInt64×Bool×PUnit)×List UInt8×PUnit:=g1_1 z2
 let z4:=z3.snd
 let z5:=z4.fst
 let z6:=z5.snd
 let z7:=z6.snd
 let z8:=z7.snd
 let z9:=z8.snd
 let z10:=z9.snd
 let z11:=z10.snd
 let z12:=z11.snd
 let z13:(Int×PUnit×PUnit×Int×PUnit)×(UInt64×UInt64×UInt64×UInt64×UInt64×UInt64×UInt64×UInt64×Bool×PUnit)×List UInt8×PUnit:=((z3.fst.fst,(),(),(0:Int),()),(z5.fst,z6.fst,z7.fst,z8.fst,z9.fst,z10.fst,z11.fst,z12.fst,z12.snd.fst,()),z4.snd.fst,())
 let z14:(PUnit×Int×PUnit)×(UInt64×UInt64×UInt64×UInt64×UInt64×UInt64×UInt64×UInt64×Bool×PUnit)×PUnit:=g3_r z13
 let z15:=z14.snd.fst
 let z16:=z15.snd
 let z17:=z16.snd
 let z18:=z17.snd
 let z19:=z18.snd
 let z20:=z19.snd
 let z21:=z20.snd
 let z22:=z21.snd
 (.br (ap a0)
 (.br (decide (a1<(0:Int)))
  (.ok ⟨hI,((z1,((60:Int),())),())⟩)
  (.br (decide ((2147483647:Int)<a1))
   (.ok ⟨hI,((z1,((60:Int),())),())⟩)
   (gd [lb ((a2,()),()),ok1 z2,ok3 z13] (.br (c3_r z13)
    (.ok ⟨hI,((({w0:=z15.fst,w1:=z16.fst,w2:=z17.fst,w3:=z18.fst},{w0:=z19.fst,w1:=z20.fst,w2:=z21.fst,w3:=z22.fst},z22.snd.fst),(z14.fst.snd.fst,())),())⟩)
    (.ok ⟨hI,((z1,((90:Int),())),())⟩)))))
 (.ok ⟨hI,((z1,((40:Int),())),())⟩))
theorem as2 (ok1:ca->Bool) (g1_1:ca->iL) (ok3:bh->Bool) (g3_r:bh->gu) (c3_r:bh->Bool) (g3_3:bh->gv) (x:vP) (Q:fe.Y->Prop):wpf te zH (aO 3 (cl oP 3 ok3 (oR g3_r c3_r g3_3)) (aO 1 (cl oQ 1 ok1 (vO g1_1)) av)) 1000 Tryz.f29 (fe.inp.inj x).tm (fe.inp.inj x).hp (fnK fe Kq Q) (λ_ _=>False)=(Kt ok1 g1_1 ok3 g3_r c3_r g3_3 (x.1.1) (x.1.2.1) (x.1.2.2.1)).wpR Q:=by kernel_rfl
theorem X0 (ok1:ca->Bool) (g1_1:ca->iL) (ok3:bh->Bool) (g3_r:bh->gu) (c3_r:bh->Bool) (g3_3:bh->gv) (h1:∀ s:ca,ok1 s=true->∃ m e,al (oT) m s=some e/\(vO g1_1 s).run=some e) (h3:∀ s:bh,ok3 s=true->∃ m e,al (oS) m s=some e/\(oR g3_r c3_r g3_3 s).run=some e) (pre:vP->Bool) (F:vP->OT fe.Y) (hF:∀ (x:vP) oy,pre x=true->(F x).run=some oy->(Kt ok1 g1_1 ok3 g3_r c3_r g3_3 (x.1.1) (x.1.2.1) (x.1.2.2.1)).run=some oy):ac Tryz.prog 29 (fe.aI pre F):=
 aD ar pU zG (f:=29) (fn:=Tryz.f29) (c:=aj Tryz.f29) (by kernel_rfl) (by kernel_rfl) (by kernel_rfl) (S:=fe) (k:=0) (by kernel_rfl) (λR hR=>(aB (c:=(aj Tryz.f29)) (by kernel_rfl) (id:=3) (by kernel_rfl) (aR ar pU zG (sh:=oP) hR (xs:=Ql) (aC (by kernel_rfl) (by kernel_rfl) hR) aL af (n:=1000) (T:=oS) (λs Q=>amu s Q) (ok:=ok3) (f:=oR g3_r c3_r g3_3) h3) (aB (c:=(aj Tryz.f29)) (by kernel_rfl) (id:=1) (by kernel_rfl) (aR ar pU zG (sh:=oQ) hR (xs:=Qm) (aC (by kernel_rfl) (by kernel_rfl) hR) aL af (n:=1000) (T:=oT) (λs Q=>amv s Q) (ok:=ok1) (f:=vO g1_1) h1) af))) (n:=1000) (sel:=Kq) (λv o h=>by cases h;rfl) (pre:=pre) (F:=F) (T:=λx=>Kt ok1 g1_1 ok3 g3_r c3_r g3_3 (x.1.1) (x.1.2.1) (x.1.2.2.1)) (λx Q=>as2 ok1 g1_1 ok3 g3_r c3_r g3_3 x Q) hF
def Ul:List UInt8:= [115,105,103,105,108,45,103,101,110,101,114,97,116,111,114,115]
def Oh (b:List UInt8) (i:Int):List UInt8:=upto (λk l=>l++ [i2b (atQ i (8*(k:Int)))]) b 4
def OQ (c:Int) (b:List UInt8) (k:Nat):Pt×Int:=Zu c (an8 (ofN ((ak3 c (rm Ul 64 (b++ [i2b (k:Int)]))).nat%(aY c.toNat).1.nat)))
def VX (d:Pt×Int):Bool:=cond (d.2==(0:Int)) (!d.1.2.2) false
def OP (c:Int) (b:List UInt8):Nat->Nat->Option Pt
 |0,_=>none
 |n+1,k=>cond (VX (OQ c b k)) (some (OQ c b k).1) (OP c b n (k+1))
def aGd (o:Option Pt):Pt×Int:=match o with
 |some p=>(p,0)
 |none=>(dB,90)
def jr (c i:Int) (b:List UInt8):Pt×Int:=cond (ap c) (cond (decide (i<0)) (dB,60) (cond (decide (2147483647<i)) (dB,60) (aGd (OP c (Oh b i) 256 0)))) (dB,40)
theorem zi (b:List UInt8) (i:Int):(Oh b i).length=b.length+4:=by
 simp only [Oh,upto,List.length_append,List.length_cons,List.length_nil]
abbrev aaA:Type:=UInt64×UInt64×UInt64×UInt64×UInt64×UInt64×UInt64×UInt64×Bool×Unit
def as3 (p:Pt):aaA:=(p.1.w0,p.1.w1,p.1.w2,p.1.w3,p.2.1.w0,p.2.1.w1,p.2.1.w2,p.2.1.w3,p.2.2,())
def Ks (s:ca):Bool:=decide (s.1.2.2.2.2.1=0/\s.2.2.1.length<=140737488351232)
def Ey (s:ca):iL:=((s.1.1,(),(),()),(s.2.1,Oh s.2.2.1 s.1.2.1,()))
theorem amy:∀ s:ca,Ks s=true->∃ m e,al oT m s=some e/\(vO Ey s).run=some e:=by
 rintro ⟨⟨c,a,⟨⟩,⟨⟩,i,⟨⟩⟩,⟨z,b,⟨⟩⟩⟩ h
 have h':=of_decide_eq_true h
 dsimp only at h'
 obtain ⟨rfl,hl⟩:=h'
 have:=(aP (T:=oT) (λi l=>(((c,a,(),(),(i:Int),()),(z,l,())):ca)) (λk l=>l++ [i2b (atQ a (8*(k:Int)))])
  (λl=>(⟨(.exit 1,nh),((c,(),(),()),(z,l,()))⟩:aE)) 4 b (λk l=>l.length=b.length+k) rfl (λi l hi hl'=>⟨?_,by simp [hl'];omega⟩) (λl hl'=> ?_)).1
 ·obtain ⟨m,hm⟩:=this
  exact ⟨m,_,hm,rfl⟩
 ·refine (OT.ao (decide_eq_true (by dsimp only;omega))).trans ((ah ?_).trans rfl)
  simp only [hl',List.all_cons,List.all_nil,Bool.and_true,Bool.and_eq_true]
  exact ⟨aH (by omega),decide_eq_true (by omega),decide_eq_true (by omega),aH (by omega)⟩
 ·exact OT.aq (decide_eq_false (by dsimp only;omega))
def Kr (s:bh):Bool:=ap s.1.1&&decide (s.1.2.2.2.1=0/\0<s.2.2.1.length/\s.2.2.1.length<=140737488355000)
def vN (s:bh):gu:=(((),(aGd (OP s.1.1 s.2.2.1 256 0)).2,()),(as3 (aGd (OP s.1.1 s.2.2.1 256 0)).1,()))
def Bg (s:bh):Bool:=(OP s.1.1 s.2.2.1 256 0).isSome
def Ex (s:bh):gv:=(((),()),(s.2.1,()))
def aJe (z:aaA) (o:Option Pt):aE:=match o with
 |some p=>⟨(.ret,fS),((((),(0:Int),()),(as3 p,())):gu)⟩
 |none=>⟨(.exit 3,ng),((((),()),(z,())):gv)⟩
theorem aiS {c:Int} {b:List UInt8} {z:aaA} (hs:ap c=true) (h0:0<b.length) (hl:b.length<=140737488355000):∀ (n k:Nat),n+k=256->∃ m,al oS m ((c,(),(),(k:Int),()),(z,b,()))=some (aJe z (OP c b n k))
 |0,k,hk=>⟨1,aM (OT.aq (decide_eq_false (by dsimp only;omega)))⟩
 |n+1,k,hk=>by
  have ih:=aiS (z:=z) hs h0 hl n (k+1) (by omega)
  obtain ⟨m,hm⟩:=ih
  have hpre:∀ {α:Type} {x:OT α} {o:Option α},x.run=o->(gd [decide (0<b.length),decide ((b.length+1)*1<=140737488355328)&&decide (0<1),B5 ((Ul,64,b++ [i2b (k:Int)],()),())] x).run=o:=λhx=>by
   refine (ah ?_).trans hx
   simp only [List.all_cons,List.all_nil,Bool.and_true,Bool.and_eq_true]
   exact ⟨decide_eq_true h0,⟨decide_eq_true (by omega),rfl⟩,decide_eq_true (by simp only [List.length_append,List.length_cons,List.length_nil];omega)⟩
  have hgo:(gd [inR ((k:Int)+1)] (.ok (.inl ((c,(),(),(k:Int)+1,()),(z,b,()))):OT (Sum bh aE))).run=some (.inl ((c,(),(),((k+1:Nat):Int),()),(z,b,()))):=
   (ah (by simp only [List.all_cons,List.all_nil,Bool.and_true];exact aH (by omega))).trans rfl
  have h1:decide ((k:Int)<256)=true:=decide_eq_true (by omega)
  unfold OP
  rcases (Bool.eq_false_or_eq_true ((OQ c b k).2==(0:Int))).symm with hd|hd
  ·have e:VX (OQ c b k)=false:=by unfold VX;rw [hd];rfl
   rw [e]
   exact ⟨m+1,aF ((OT.ao h1).trans (hpre ((OT.ao hs).trans ((OT.ao hs).trans ((OT.aq hd).trans hgo))))) hm⟩
  ·rcases (Bool.eq_false_or_eq_true (!(OQ c b k).1.2.2)).symm with hq|hq
   ·have e:VX (OQ c b k)=false:=by unfold VX;rw [hd];exact hq
    rw [e]
    exact ⟨m+1,aF ((OT.ao h1).trans (hpre ((OT.ao hs).trans ((OT.ao hs).trans ((OT.ao hd).trans ((OT.aq hq).trans hgo)))))) hm⟩
   ·have e:VX (OQ c b k)=true:=by unfold VX;rw [hd];exact hq
    rw [e]
    exact ⟨1,aM ((OT.ao h1).trans (hpre ((OT.ao hs).trans ((OT.ao hs).trans ((OT.ao hd).trans ((OT.ao hq).trans rfl))))))⟩
theorem amx:∀ s:bh,Kr s=true->∃ m e,al oS m s=some e/\(oR vN Bg Ex s).run=some e:=by
 rintro ⟨⟨c,⟨⟩,⟨⟩,i,⟨⟩⟩,⟨z,b,⟨⟩⟩⟩ h
 obtain ⟨hs,h⟩:=(Bool.and_eq_true _ _).mp h
 have h':=of_decide_eq_true h
 dsimp only at h' hs
 obtain ⟨rfl,h0,hl⟩:=h'
 obtain ⟨m,hm⟩:=aiS (z:=z) hs h0 hl 256 0 rfl
 refine ⟨m,_,hm,?_⟩
 unfold oR vN Bg Ex
 dsimp only
 cases OP c b 256 0 with
 |none=>rfl
 |some p=>rfl
def yL (x:vP):Bool:=decide (x.1.2.2.1.length<=140737488351232)
def X1 (x:vP):OT fe.Y:=.ok ⟨hI,(((jr x.1.1 x.1.2.1 x.1.2.2.1).1,((jr x.1.1 x.1.2.1 x.1.2.2.1).2,())),())⟩
theorem amw:ac Tryz.prog 29 (fe.aI yL X1):=X0 Ks Ey Kr vN Bg Ex amy amx _ _ λx oy hp ho=>by
 rw [<-ho]
 clear ho
 obtain ⟨⟨c,i,b,⟨⟩⟩,⟨⟩⟩:=x
 have hl:b.length<=140737488351232:=of_decide_eq_true hp
 show _=some (⟨hI,(((jr c i b).1,((jr c i b).2,())),())⟩:fe.Y)
 rcases (Bool.eq_false_or_eq_true (ap c)).symm with hs|hs
 ·rw [show jr c i b=(dB,40) from by unfold jr;rw [hs];rfl]
  exact OT.aq hs
 refine (OT.ao hs).trans ?_
 rcases (Bool.eq_false_or_eq_true (decide (i<0))).symm with h1|h1
 ·refine (OT.aq h1).trans ?_
  rcases (Bool.eq_false_or_eq_true (decide (2147483647<i))).symm with h2|h2
  ·rw [show jr c i b=aGd (OP c (Oh b i) 256 0) from by unfold jr;rw [hs,h1,h2];rfl]
   refine (OT.aq h2).trans ((ah ?_).trans ?_)
   ·simp only [List.all_cons,List.all_nil,Bool.and_true,Bool.and_eq_true]
    refine ⟨decide_eq_true (show b.length<=_ by omega),decide_eq_true ⟨rfl,hl⟩,(Bool.and_eq_true _ _).mpr ⟨hs,decide_eq_true ⟨rfl,?_,?_⟩⟩⟩
    ·show 0<(Oh b i).length
     rw [zi];omega
    ·show (Oh b i).length<=_
     rw [zi];omega
   ·unfold Bg vN Ey
    dsimp only
    generalize OP c (Oh b i) 256 0=o
    cases o with
    |none=>rfl
    |some p=>rfl
  ·rw [show jr c i b=(dB,60) from by unfold jr;rw [hs,h1,h2];rfl]
   exact OT.ao h2
 ·rw [show jr c i b=(dB,60) from by unfold jr;rw [hs,h1];rfl]
  exact OT.ao h1
def ta:cn:=(fe.aI yL X1)
theorem TB:ac Tryz.prog 29 ta:=amw
theorem TA:aG ta:=aA
def pT:Env:=ay 29 ta zH
theorem nK:aQ Tryz.prog pT:=ag TB pU
theorem xV:ax pT:=ae TA Hd
theorem CT:aW Tryz.prog te pT:=aJ follows ar nK xV
def e9:aw:=⟨[.val false .int,.val false .int,.val false (.list .u8)],[],true,0,false⟩
abbrev vi:Type:=((Int)×(Int)×(List (UInt8))×Unit)×(Unit)
def n7:Shape:=⟨80,[(0,.val false .int),(1,.val false .int),(2,.val false (.list .u8)),(6,.ptr 0 0 0),(8,.val false .int)],[(0,.cells [.val false .u64,.val false .u64,.val false .u64,.val false .u64,.val false .u64,.val false .u64,.val false .u64,.val false .u64,.val false .bool])],0,true⟩
abbrev aZ:Type:=((Int)×(Int)×(List (UInt8))×(Unit)×(Int)×Unit)×(((UInt64)×(UInt64)×(UInt64)×(UInt64)×(UInt64)×(UInt64)×(UInt64)×(UInt64)×(Bool)×Unit)×Unit)
def jT:Shape:=⟨80,[(6,.ptr 0 0 0),(7,.val false .int)],[(0,.cells [.val false .u64,.val false .u64,.val false .u64,.val false .u64,.val false .u64,.val false .u64,.val false .u64,.val false .u64,.val false .bool])],0,true⟩
abbrev eV:Type:=((Unit)×(Int)×Unit)×(((UInt64)×(UInt64)×(UInt64)×(UInt64)×(UInt64)×(UInt64)×(UInt64)×(UInt64)×(Bool)×Unit)×Unit)
def mS:Shape:=⟨80,[(6,.ptr 0 0 0)],[(0,.cells [.val false .u64,.val false .u64,.val false .u64,.val false .u64,.val false .u64,.val false .u64,.val false .u64,.val false .u64,.val false .bool])],0,true⟩
abbrev gm:Type:=((Unit)×Unit)×(((UInt64)×(UInt64)×(UInt64)×(UInt64)×(UInt64)×(UInt64)×(UInt64)×(UInt64)×(Bool)×Unit)×Unit)
def Pu:SE->Option Shape:=fC [(0,mS)] (some jT)
def Pv (a0:Int) (a1:Int) (a2:List (UInt8)) (a8:Int) (c0_0:UInt64) (c0_1:UInt64) (c0_2:UInt64) (c0_3:UInt64) (c0_4:UInt64) (c0_5:UInt64) (c0_6:UInt64) (c0_7:UInt64) (c0_8:Bool):OT (Sum aZ aE):=
 let z0:Int:=Int.tdiv a1 (256:Int)
 let z1:Int:=Int.tdiv a1 (65536:Int)
 let z2:Int:=Int.tdiv a1 (16777216:Int)
 let z3:List UInt8:=a2++ [i2b a1,i2b z0,i2b z1,i2b z2,i2b a8]
 let z4:List UInt8:=ay1 [(115:UInt8),(105:UInt8),(103:UInt8),(105:UInt8),(108:UInt8),(45:UInt8),(103:UInt8),(101:UInt8),(110:UInt8),(101:UInt8),(114:UInt8),(97:UInt8),(116:UInt8),(111:UInt8),(114:UInt8),(115:UInt8)] (64:Int) z3
 let z5:aa:=ak3 a0 z4
 let z6:(aa×aa×Bool)×Int:=Zu a0 (an8 (ofP (pS a0) z5))
 let z7:=z6.fst
 let z8:=z7.snd
 let z9:=z8.snd
 let z10:=z7.fst
 let z11:=z8.fst
 let z12:Bool:=inR (a8+(1:Int))
 (.br (decide (a8<(256:Int)))
 (gd [lp ((a2,()),()),true&&inR z0,true&&inR z1,true&&inR z2,decide ((List.length a2+5)*1<=140737488355328),HV (([(115:UInt8),(105:UInt8),(103:UInt8),(105:UInt8),(108:UInt8),(45:UInt8),(103:UInt8),(101:UInt8),(110:UInt8),(101:UInt8),(114:UInt8),(97:UInt8),(116:UInt8),(111:UInt8),(114:UInt8),(115:UInt8)],(64:Int),z3,()),()),vj ((a0,z4,()),()),mW ((a0,z5,()),())] (.br (z6.snd==(0:Int))
  (.br (!z9)
   (.ok (.inr ⟨(.ret,jT),(((),((0:Int),())),((z10.w0,(z10.w1,(z10.w2,(z10.w3,(z11.w0,(z11.w1,(z11.w2,(z11.w3,(z9,()))))))))),()))⟩))
   (gd [z12] (.ok (.inl ((a0,(a1,(a2,((),(a8+(1:Int),()))))),((c0_0,(c0_1,(c0_2,(c0_3,(c0_4,(c0_5,(c0_6,(c0_7,(c0_8,()))))))))),()))))))
  (gd [z12] (.ok (.inl ((a0,(a1,(a2,((),(a8+(1:Int),()))))),((c0_0,(c0_1,(c0_2,(c0_3,(c0_4,(c0_5,(c0_6,(c0_7,(c0_8,()))))))))),())))))))
 (.ok (.inr ⟨(.exit 0,mS),(((),()),((c0_0,(c0_1,(c0_2,(c0_3,(c0_4,(c0_5,(c0_6,(c0_7,(c0_8,()))))))))),()))⟩)))
def jw (s:aZ):OT (Sum aZ aE):=Pv (s.1.1) (s.1.2.1) (s.1.2.2.1) (s.1.2.2.2.2.1) (s.2.1.1) (s.2.1.2.1) (s.2.1.2.2.1) (s.2.1.2.2.2.1) (s.2.1.2.2.2.2.1) (s.2.1.2.2.2.2.2.1) (s.2.1.2.2.2.2.2.2.1) (s.2.1.2.2.2.2.2.2.2.1) (s.2.1.2.2.2.2.2.2.2.2.1)
theorem alz (s:aZ) (Q:Sum aZ aE->Prop):wps te pT av 1000 (aU (aj Tryz.f30) 0) (n7.inj s) (bY n7 Pu (Q:Sum n7.T aE->Prop))=(jw s).wpR Q:=by kernel_rfl
def n8 (g0_r:aZ->eV) (c0_r:aZ->Bool) (g0_0:aZ->gm) (s:aZ):OT aE:=(.br (c0_r s) (.ok ⟨(.ret,jT),g0_r s⟩) (.ok ⟨(.exit 0,mS),g0_0 s⟩))
def gl:az:=⟨[.val true (.prod .elem (.prod .elem .bool)),.val false .int],[],false⟩
def Jm:SV->Option az:=λ_=>some gl
def Jo (ok0:aZ->Bool) (g0_r:aZ->eV) (c0_r:aZ->Bool) (g0_0:aZ->gm) (a0:Int) (a1:Int) (a2:List (UInt8)):OT e9.Y:=
 let z0:aa:= {w0:=0,w1:=0,w2:=0,w3:=0}
 let z1:aa×aa×Bool:=(z0,z0,false)
 let z2:(Int×Int×List UInt8×PUnit×Int×PUnit)×(UInt64×UInt64×UInt64×UInt64×UInt64×UInt64×UInt64×UInt64×Bool×PUnit)×PUnit:=((a0,a1,a2,(),(0:Int),()),((0:UInt64),(0:UInt64),(0:UInt64),(0:UInt64),(0:UInt64),(0:UInt64),(0:UInt64),(0:UInt64),false,()),())
 let z3:(PUnit×Int×PUnit)×(UInt64×UInt64×UInt64×UInt64×UInt64×UInt64×UInt64×UInt64×Bool×PUnit)×PUnit:=g0_r z2
 let z4:=z3.snd.fst
 let z5:=z4.snd
 let z6:=z5.snd
 let z7:=z6.snd
 let z8:=z7.snd
 let z9:=z8.snd
 let z10:=z9.snd
 let z11:=z10.snd
 (.br (decide (a0<(0:Int)))
 (.ok ⟨gl,((z1,((40:Int),())),())⟩)
 (.br (decide ((3:Int)<a0))
  (.ok ⟨gl,((z1,((40:Int),())),())⟩)
  (.br (decide (a1<(0:Int)))
   (.ok ⟨gl,((z1,((60:Int),())),())⟩)
   (.br (decide ((2147483647:Int)<a1))
    (.ok ⟨gl,((z1,((60:Int),())),())⟩)
    (gd [ok0 z2] (.br (c0_r z2)
     (.ok ⟨gl,((({w0:=z4.fst,w1:=z5.fst,w2:=z6.fst,w3:=z7.fst},{w0:=z8.fst,w1:=z9.fst,w2:=z10.fst,w3:=z11.fst},z11.snd.fst),(z3.fst.snd.fst,())),())⟩)
     (.ok ⟨gl,((z1,((90:Int),())),())⟩)))))))
theorem arK (ok0:aZ->Bool) (g0_r:aZ->eV) (c0_r:aZ->Bool) (g0_0:aZ->gm) (x:vi) (Q:e9.Y->Prop):wpf te pT (aO 0 (cl n7 0 ok0 (n8 g0_r c0_r g0_0)) av) 1000 Tryz.f30 (e9.inp.inj x).tm (e9.inp.inj x).hp (fnK e9 Jm Q) (λ_ _=>False)=(Jo ok0 g0_r c0_r g0_0 (x.1.1) (x.1.2.1) (x.1.2.2.1)).wpR Q:=by kernel_rfl
theorem WE (ok0:aZ->Bool) (g0_r:aZ->eV) (c0_r:aZ->Bool) (g0_0:aZ->gm) (h0:∀ s:aZ,ok0 s=true->∃ m e,al (jw) m s=some e/\(n8 g0_r c0_r g0_0 s).run=some e) (pre:vi->Bool) (F:vi->OT e9.Y) (hF:∀ (x:vi) oy,pre x=true->(F x).run=some oy->(Jo ok0 g0_r c0_r g0_0 (x.1.1) (x.1.2.1) (x.1.2.2.1)).run=some oy):ac Tryz.prog 30 (e9.aI pre F):=
 aD ar nK CT (f:=30) (fn:=Tryz.f30) (c:=aj Tryz.f30) (by kernel_rfl) (by kernel_rfl) (by kernel_rfl) (S:=e9) (k:=0) (by kernel_rfl) (λR hR=>(aB (c:=(aj Tryz.f30)) (by kernel_rfl) (id:=0) (by kernel_rfl) (aR ar nK CT (sh:=n7) hR (xs:=Pu) (aC (by kernel_rfl) (by kernel_rfl) hR) aL af (n:=1000) (T:=jw) (λs Q=>alz s Q) (ok:=ok0) (f:=n8 g0_r c0_r g0_0) h0) af)) (n:=1000) (sel:=Jm) (λv o h=>by cases h;rfl) (pre:=pre) (F:=F) (T:=λx=>Jo ok0 g0_r c0_r g0_0 (x.1.1) (x.1.2.1) (x.1.2.2.1)) (λx Q=>arK ok0 g0_r c0_r g0_0 x Q) hF
theorem Ig {i:Int} (hi:0<=i) (n:Nat) (hn:n<=64) (d:Nat) (hd:d=2^n):atQ i (n:Int)=Int.tdiv i (d:Int):=by
 subst hd
 unfold atQ
 rw [Int.toNat_natCast,Nat.min_eq_left hn,Int.fdiv_eq_ediv_of_nonneg _ (Int.le_of_lt (Int.pow_pos (by decide))),Int.tdiv_eq_ediv_of_nonneg hi]
 simp
theorem aAG {i:Int} (hi:0<=i) (b:List UInt8) (k:Int):b++ [i2b i,i2b (Int.tdiv i 256),i2b (Int.tdiv i 65536),i2b (Int.tdiv i 16777216),i2b k]=Oh b i++ [i2b k]:=by
 have h0:atQ i (8*((0:Nat):Int))=i:=by rw [show (8*((0:Nat):Int))=((0:Nat):Int) from rfl,Ig hi 0 (by decide) 1 rfl];exact Int.tdiv_one i
 have h1:atQ i (8*((1:Nat):Int))=Int.tdiv i 256:=Ig hi 8 (by decide) 256 rfl
 have h2:atQ i (8*((2:Nat):Int))=Int.tdiv i 65536:=Ig hi 16 (by decide) 65536 rfl
 have h3:atQ i (8*((3:Nat):Int))=Int.tdiv i 16777216:=Ig hi 24 (by decide) 16777216 rfl
 simp only [Oh,upto,h0,h1,h2,h3,List.append_assoc,List.cons_append,List.nil_append]
def Jn (s:aZ):Bool:=ap s.1.1&&decide (0<=s.1.2.1/\s.1.2.1<=2147483647/\s.1.2.2.2.2.1=0/\s.1.2.2.1.length<=100000000000)
def vh (s:aZ):eV:=(((),(aGd (OP s.1.1 (Oh s.1.2.2.1 s.1.2.1) 256 0)).2,()),(as3 (aGd (OP s.1.1 (Oh s.1.2.2.1 s.1.2.1) 256 0)).1,()))
def AF (s:aZ):Bool:=(OP s.1.1 (Oh s.1.2.2.1 s.1.2.1) 256 0).isSome
def DO (s:aZ):gm:=(((),()),(s.2.1,()))
def aJc (z:aaA) (o:Option Pt):aE:=match o with
 |some p=>⟨(.ret,jT),((((),(0:Int),()),(as3 p,())):eV)⟩
 |none=>⟨(.exit 0,mS),((((),()),(z,())):gm)⟩
abbrev aGK:Type:=OT (Sum aZ aE)
def ab5 (c i:Int) (b:List UInt8) (z:aaA) (k:Int):aZ:=((c,i,b,(),k,()),(z,()))
def aEC (c i:Int) (b:List UInt8) (z:aaA) (k:Int):aGK:=gd [inR (k+1)] (.ok (.inl (ab5 c i b z (k+1))))
def aEB (d:Pt×Int) (g:aGK):aGK:=.br (d.2==(0:Int)) (.br (!d.1.2.2) (.ok (.inr ⟨(.ret,jT),((((),(0:Int),()),(as3 d.1,())):eV)⟩)) g) g
theorem arL {c i:Int} {b:List UInt8} {z:aaA} (hs:ap c=true) (h0:0<=i) (hi:i<=2147483647) (hl:b.length<=100000000000) {k:Nat} (hk:k<256):
 (jw (ab5 c i b z (k:Int))).run=(aEB (OQ c (Oh b i) k) (aEC c i b z (k:Int))).run:=by
 have hd:∀ d:Int,0<d->inR (Int.tdiv i d)=true:=λd hd=>by
  have h1:=Int.tdiv_eq_ediv_of_nonneg h0 (b:=d)
  have h2:i/d<=i:=Int.ediv_le_self _ h0
  have h3:0<=i/d:=Int.ediv_nonneg h0 (Int.le_of_lt hd)
  exact aH (by omega)
 simp only [jw,Pv,ab5]
 rw [aAG h0,ay0 (by decide)]
 refine (OT.ao (decide_eq_true (by omega))).trans ((ah ?_).trans ?_)
 ·simp only [List.all_cons,List.all_nil,Bool.and_true,Bool.and_eq_true,Bool.true_and]
  refine ⟨decide_eq_true (show b.length<=_ by omega),hd _ (by decide),hd _ (by decide),hd _ (by decide),decide_eq_true (by omega),?_,?_,?_⟩
  ·unfold HV
   dsimp only
   rw [List.length_append,zi]
   exact decide_eq_true (by simp only [List.length_cons,List.length_nil];omega)
  ·unfold vj
   dsimp only
   rw [hs,La.2 (by rw [OU];rfl)]
   rfl
  ·unfold mW
   exact hs
 ·unfold aEB aEC ab5 OQ ofP pS Ul
  rfl
theorem aim {c i:Int} {b:List UInt8} {z:aaA} (hs:ap c=true) (h0:0<=i) (hi:i<=2147483647) (hl:b.length<=100000000000):∀ (n k:Nat),n+k=256->∃ m,al jw m (ab5 c i b z (k:Int))=some (aJc z (OP c (Oh b i) n k))
 |0,k,hk=>⟨1,aM (OT.aq (decide_eq_false (by dsimp only [ab5];omega)))⟩
 |n+1,k,hk=>by
  obtain ⟨m,hm⟩:=aim (z:=z) hs h0 hi hl n (k+1) (by omega)
  have hU:=arL (z:=z) hs h0 hi hl (k:=k) (by omega)
  have hgo:(aEC c i b z (k:Int)).run=some (.inl (ab5 c i b z ((k+1:Nat):Int))):=
   (ah (by simp only [List.all_cons,List.all_nil,Bool.and_true];exact aH (by omega))).trans rfl
  unfold OP
  generalize OQ c (Oh b i) k=d at hU
  unfold aEB at hU
  rcases (Bool.eq_false_or_eq_true (d.2==(0:Int))).symm with hd|hd
  ·have e:VX d=false:=by unfold VX;rw [hd];rfl
   rw [e]
   exact ⟨m+1,aF (hU.trans ((OT.aq hd).trans hgo)) hm⟩
  ·rcases (Bool.eq_false_or_eq_true (!d.1.2.2)).symm with hq|hq
   ·have e:VX d=false:=by unfold VX;rw [hd];exact hq
    rw [e]
    exact ⟨m+1,aF (hU.trans ((OT.ao hd).trans ((OT.aq hq).trans hgo))) hm⟩
   ·have e:VX d=true:=by unfold VX;rw [hd];exact hq
    rw [e]
    exact ⟨1,aM (hU.trans ((OT.ao hd).trans ((OT.ao hq).trans rfl)))⟩
theorem alB:∀ s:aZ,Jn s=true->∃ m e,al jw m s=some e/\(n8 vh AF DO s).run=some e:=by
 rintro ⟨⟨c,i,b,⟨⟩,k,⟨⟩⟩,⟨z,⟨⟩⟩⟩ h
 obtain ⟨hs,h⟩:=(Bool.and_eq_true _ _).mp h
 have h':=of_decide_eq_true h
 dsimp only at h' hs
 obtain ⟨h0,hi,rfl,hl⟩:=h'
 obtain ⟨m,hm⟩:=aim (z:=z) hs h0 hi hl 256 0 rfl
 refine ⟨m,_,hm,?_⟩
 unfold n8 vh AF DO
 dsimp only
 generalize OP c (Oh b i) 256 0=o
 cases o with
 |none=>rfl
 |some p=>rfl
def yr (x:vi):Bool:=decide (x.1.2.2.1.length<=100000000000)
def WG (x:vi):OT e9.Y:=.ok ⟨gl,(((jr x.1.1 x.1.2.1 x.1.2.2.1).1,((jr x.1.1 x.1.2.1 x.1.2.2.1).2,())),())⟩
theorem alA:ac Tryz.prog 30 (e9.aI yr WG):=WE Jn vh AF DO alB _ _ λx oy hp ho=>by
 rw [<-ho]
 clear ho
 obtain ⟨⟨c,i,b,⟨⟩⟩,⟨⟩⟩:=x
 have hl:b.length<=100000000000:=of_decide_eq_true hp
 show _=some (⟨gl,(((jr c i b).1,((jr c i b).2,())),())⟩:e9.Y)
 rcases (Bool.eq_false_or_eq_true (decide (c<0))).symm with hc|hc
 ·refine (OT.aq hc).trans ?_
  rcases (Bool.eq_false_or_eq_true (decide (3<c))).symm with hd|hd
  ·have hs:ap c=true:=by rw [u4,hc,hd];rfl
   refine (OT.aq hd).trans ?_
   rcases (Bool.eq_false_or_eq_true (decide (i<0))).symm with h1|h1
   ·refine (OT.aq h1).trans ?_
    rcases (Bool.eq_false_or_eq_true (decide (2147483647<i))).symm with h2|h2
    ·rw [show jr c i b=aGd (OP c (Oh b i) 256 0) from by unfold jr;rw [hs,h1,h2];rfl]
     refine (OT.aq h2).trans ((ah ?_).trans ?_)
     ·simp only [List.all_cons,List.all_nil,Bool.and_true]
      have g1:=of_decide_eq_false h1
      have g2:=of_decide_eq_false h2
      exact (Bool.and_eq_true _ _).mpr ⟨hs,decide_eq_true ⟨show 0<=i by omega,show i<=2147483647 by omega,rfl,hl⟩⟩
     ·unfold AF vh
      dsimp only
      generalize OP c (Oh b i) 256 0=o
      cases o with
      |none=>rfl
      |some p=>rfl
    ·rw [show jr c i b=(dB,60) from by unfold jr;rw [hs,h1,h2];rfl]
     exact OT.ao h2
   ·rw [show jr c i b=(dB,60) from by unfold jr;rw [hs,h1];rfl]
    exact OT.ao h1
  ·have hs:ap c=false:=by rw [u4,hd];simp
   rw [show jr c i b=(dB,40) from by unfold jr;rw [hs];rfl]
   exact OT.ao hd
 ·have hs:ap c=false:=by rw [u4,hc];rfl
  rw [show jr c i b=(dB,40) from by unfold jr;rw [hs];rfl]
  exact OT.ao hc
def sw:cn:=(e9.aI yr WG)
theorem SI:ac Tryz.prog 30 sw:=alA
theorem SH:aG sw:=aA
def pI:Env:=ay 30 sw pT
theorem nD:aQ Tryz.prog pI:=ag SI nK
theorem xM:ax pI:=ae SH xV
theorem Cx:aW Tryz.prog te pI:=aJ follows ar nD xM
def fb:aw:=⟨[.val false .int,.val false .int,.val false (.list .u8)],[],false,0,false⟩
def fv:az:=⟨[.val true aGO,.val false .int],[],false⟩
def Kc:SV->Option az:=λ_=>some fv
def amF:CSh:=.cells [.val false .int,.val false .int,.val false (.list (.prod .elem (.prod .elem .bool))),.val false (.prod .elem (.prod .elem .bool)),.val false (.prod .elem (.prod .elem .bool))]
def oL:Shape:=⟨70,[(0,.val false .int),(1,.val false .int),(2,.val false (.list .u8)),(6,.ptr 0 0 0),(10,.own 1),(32,.val false .int),(33,.val false .int)],[(0,amF),(1,.row (.prod .elem (.prod .elem .bool)))],0,true⟩
def j6:Shape:=⟨70,[(6,.ptr 0 0 0),(7,.val false .int)],[(0,amF)],0,true⟩
def m6:Shape:=⟨70,[(0,.val false .int),(1,.val false .int),(6,.ptr 0 0 0),(10,.own 1)],[(0,amF),(1,.row (.prod .elem (.prod .elem .bool)))],0,true⟩
abbrev vE:Type:=((Int)×(Int)×(List (UInt8))×Unit)×(Unit)
abbrev ba:Type:=((Int)×(Int)×(List (UInt8))×(Unit)×(Unit)×(Int)×(Int)×Unit)×(((Int)×(Int)×(List ((aa×(aa×Bool))))×((aa×(aa×Bool)))×((aa×(aa×Bool)))×Unit)×(List ((aa×(aa×Bool))))×Unit)
abbrev eW:Type:=((Unit)×(Int)×Unit)×(((Int)×(Int)×(List ((aa×(aa×Bool))))×((aa×(aa×Bool)))×((aa×(aa×Bool)))×Unit)×Unit)
abbrev gq:Type:=((Int)×(Int)×(Unit)×(Unit)×Unit)×(((Int)×(Int)×(List ((aa×(aa×Bool))))×((aa×(aa×Bool)))×((aa×(aa×Bool)))×Unit)×(List ((aa×(aa×Bool))))×Unit)
def Qb:SE->Option Shape:=fC [(0,m6)] (some j6)
def amk (a0:Int) (a1:Int) (a2:List (UInt8)) (a32:Int) (a33:Int) (c0_0:Int) (c0_1:Int) (c0_2:List ((aa×(aa×Bool)))) (c0_3:(aa×(aa×Bool))) (c0_4:(aa×(aa×Bool))) (c1:List ((aa×(aa×Bool)))):OT (Sum ba aE):=
 let z0:(aa×aa×Bool)×Int:=jr a0 a33 a2
 let z1:=z0.snd
 let z2:aa:= {w0:=0,w1:=0,w2:=0,w3:=0}
 let z3:aa×aa×Bool:=(z2,z2,false)
 (.br (decide (a33<a32))
 (gd [yL ((a0,a33,a2,()),())] (.br (!z1==(0:Int))
  (.ok (.inr ⟨(.ret,j6),(((),(z1,())),(((0:Int),((0:Int),([],(z3,(z3,()))))),()))⟩))
  (gd [decide ((List.length c1+1)*72<=140737488355328),inR (a33+(1:Int))] (.ok (.inl ((a0,(a1,(a2,((),((),(a32,(a33+(1:Int),()))))))),((c0_0,(c0_1,(c0_2,(c0_3,(c0_4,()))))),(c1++ [z0.fst],()))))))))
 (.ok (.inr ⟨(.exit 0,m6),((a0,(a1,((),((),())))),((c0_0,(c0_1,(c0_2,(c0_3,(c0_4,()))))),(c1,())))⟩)))
def kZ (s:ba):OT (Sum ba aE):=amk (s.1.1) (s.1.2.1) (s.1.2.2.1) (s.1.2.2.2.2.2.1) (s.1.2.2.2.2.2.2.1) (s.2.1.1) (s.2.1.2.1) (s.2.1.2.2.1) (s.2.1.2.2.2.1) (s.2.1.2.2.2.2.1) (s.2.2.1)
theorem amh (s:ba) (Q:Sum ba aE->Prop):wps te pI av 1000 (aU (aj Tryz.f31) 0) (oL.inj s) (bY oL Qb (Q:Sum oL.T aE->Prop))=(kZ s).wpR Q:=by kernel_rfl
def oM (g0_r:ba->eW) (c0_r:ba->Bool) (g0_0:ba->gq) (s:ba):OT aE:=(.br (c0_r s) (.ok ⟨(.ret,j6),g0_r s⟩) (.ok ⟨(.exit 0,m6),g0_0 s⟩))
def Ke (ok0:ba->Bool) (g0_r:ba->eW) (c0_r:ba->Bool) (g0_0:ba->gq) (a0:Int) (a1:Int) (a2:List (UInt8)):OT fb.Y:=
 let z0:aa:= {w0:=0,w1:=0,w2:=0,w3:=0}
 let z1:aa×aa×Bool:=(z0,z0,false)
 let z2:Int×Int×List (aa×aa×Bool)×(aa×aa×Bool)×aa×aa×Bool:=((0:Int),(0:Int),[],z1,z1)
 let z3:(Int×Int×List UInt8×PUnit×PUnit×Int×Int×PUnit)×(Int×Int×List (aa×aa×Bool)×(aa×aa×Bool)×(aa×aa×Bool)×PUnit)×List (aa×aa×Bool)×PUnit:=((a0,a1,a2,(),(),VW (1:Int) a1+(2:Int),(0:Int),()),((0:Int),(0:Int),[],z1,z1,()),[],())
 let z4:(PUnit×Int×PUnit)×(Int×Int×List (aa×aa×Bool)×(aa×aa×Bool)×(aa×aa×Bool)×PUnit)×PUnit:=g0_r z3
 let z5:=z4.snd.fst
 let z6:=z5.snd
 let z7:=z6.snd
 let z8:=z7.snd
 let z9:(Int×Int×PUnit×PUnit×PUnit)×(Int×Int×List (aa×aa×Bool)×(aa×aa×Bool)×(aa×aa×Bool)×PUnit)×List (aa×aa×Bool)×PUnit:=g0_0 z3
 let z10:=z9.fst
 let z11:=z10.snd.fst
 let z12:Int:=VW (1:Int) z11
 let z13:Bool:=decide (z12=(0:Int))
 let z14:=z9.snd.snd.fst
 let z15:Nat:=List.length z14
 let z16:Bool:=inB z12 z15
 let z17:Nat:=Int.toNat z12
 let z18:Bool:=decide (z17<z15)
 let z19:Bool:=inR (z12+(1:Int))
 let z20:Bool:=inB (z12+(1:Int)) z15
 let z21:Nat:=Int.toNat (z12+(1:Int))
 let z22:Bool:=decide (z21<z15)
 let z23:=z10.fst
 let z24:(aa×aa×Bool)×aa×aa×Bool:=(List.getD z14 z17 z1,List.getD z14 z21 z1)
 let z25:Int:=(↑z15:Int)
 let z26:Bool:=decide (z12=z25)
 (.br (ap a0)
 (.br (decide (a1<(0:Int)))
  (.ok ⟨fv,((z2,((60:Int),())),())⟩)
  (.br (decide ((5:Int)<a1))
   (.ok ⟨fv,((z2,((60:Int),())),())⟩)
   (gd [decide ((0:Int)<=a1),inR (VW (1:Int) a1+(2:Int)),ok0 z3] (.br (c0_r z3)
    (.ok ⟨fv,(((z5.fst,z6.fst,z7.fst,z8.fst,z8.snd.fst),(z4.fst.snd.fst,())),())⟩)
    (gd [decide ((0:Int)<=z11)] (.br (z13&&z13)
     (gd [z16,z18,z19,z20,z22] (.ok ⟨fv,(((z23,z11,[],z24),((0:Int),())),())⟩))
     (.br (z26&&z26)
      (gd [z16,z18,z19,z20,z22] (.ok ⟨fv,(((z23,z11,z14,z24),((0:Int),())),())⟩))
      (gd [decide ((0:Int)<=z12)&&decide (z12<=z12)&&decide (z12<=z25),z16,z18,z19,z20,z22] (.ok ⟨fv,(((z23,z11,List.take z17 (List.drop 0 z14),z24),((0:Int),())),())⟩)))))))))
 (.ok ⟨fv,((z2,((40:Int),())),())⟩))
theorem asS (ok0:ba->Bool) (g0_r:ba->eW) (c0_r:ba->Bool) (g0_0:ba->gq) (x:vE) (Q:fb.Y->Prop):wpf te pI (aO 0 (cl oL 0 ok0 (oM g0_r c0_r g0_0)) av) 1000 Tryz.f31 (fb.inp.inj x).tm (fb.inp.inj x).hp (aIj fb Kc Q) (λ_ _=>False)=(Ke ok0 g0_r c0_r g0_0 (x.1.1) (x.1.2.1) (x.1.2.2.1)).wpR Q:=by kernel_rfl
theorem XK (ok0:ba->Bool) (g0_r:ba->eW) (c0_r:ba->Bool) (g0_0:ba->gq) (h0:∀ s:ba,ok0 s=true->∃ m e,al (kZ) m s=some e/\(oM g0_r c0_r g0_0 s).run=some e) (pre:vE->Bool) (F:vE->OT fb.Y) (hF:∀ (x:vE) oy,pre x=true->(F x).run=some oy->(Ke ok0 g0_r c0_r g0_0 (x.1.1) (x.1.2.1) (x.1.2.2.1)).run=some oy):ac Tryz.prog 31 (fb.aI pre F):=
 ajK ar nD Cx (f:=31) (fn:=Tryz.f31) (c:=aj Tryz.f31) (by kernel_rfl) (by kernel_rfl) (by kernel_rfl) (S:=fb) (k:=0) (by kernel_rfl) (λR hR=>(aB (c:=(aj Tryz.f31)) (by kernel_rfl) (id:=0) (by kernel_rfl) (aR ar nD Cx (sh:=oL) hR (xs:=Qb) (aC (by kernel_rfl) (by kernel_rfl) hR) aL af (n:=1000) (T:=kZ) (λs Q=>amh s Q) (ok:=ok0) (f:=oM g0_r c0_r g0_0) h0) af)) (n:=1000) (sel:=Kc) (λv o h=>by cases h;rfl) (pre:=pre) (F:=F) (T:=λx=>Ke ok0 g0_r c0_r g0_0 (x.1.1) (x.1.2.1) (x.1.2.2.1)) (λx Q=>asS ok0 g0_r c0_r g0_0 x Q) hF
def HT (c:Int) (b:List UInt8):Nat->Nat->List Pt->List Pt×Int
 |0,_,l=>(l,0)
 |n+1,i,l=>cond (!((jr c (i:Int) b).2==(0:Int))) (l,(jr c (i:Int) b).2) (HT c b n (i+1) (l++ [(jr c (i:Int) b).1]))
def EF (k:Int):Nat:=(VW 1 k).toNat
theorem TH {k:Int} (h0:¬k<0) (h5:¬5<k):VW 1 k=(EF k:Int)/\1<=EF k/\EF k<=32:=by
 have:k=0\/k=1\/k=2\/k=3\/k=4\/k=5:=by omega
 rcases this with rfl|rfl|rfl|rfl|rfl|rfl<;>decide
def aEe (c k:Int) (r:List Pt×Int):aBt×Int:=cond (!(r.2==(0:Int))) (Bo,r.2) ((c,k,r.1.take (EF k),r.1.getD (EF k) dB,r.1.getD (EF k+1) dB),0)
def lx (c k:Int) (b:List UInt8):aBt×Int:=cond (ap c) (cond (decide (k<0)) (Bo,60) (cond (decide (5<k)) (Bo,60) (aEe c k (HT c b (EF k+2) 0 [])))) (Bo,40)
theorem HS {c:Int} {b:List UInt8}:∀ (n i:Nat) (l:List Pt),(!((HT c b n i l).2==(0:Int)))=false->(HT c b n i l).1.length=l.length+n
 |0,_,_,_=>rfl
 |n+1,i,l,h=>by
  unfold HT at h⊢
  cases hd: !((jr c (i:Int) b).2==(0:Int))
  ·rw [hd,cond_false] at h
   rw [cond_false,HS n (i+1) _ h,List.length_append]
   simp only [List.length_cons,List.length_nil]
   omega
  ·rw [hd] at h
   exact absurd (hd.symm.trans h) (by decide)
def Kd (s:ba):Bool:=decide (s.1.2.2.2.2.2.2.1=0/\0<=s.1.2.2.2.2.2.1/\s.1.2.2.2.2.2.1<=34/\s.2.2.1= []/\s.1.2.2.1.length<=140737488351232)
def s5 (s:ba):List Pt×Int:=HT s.1.1 s.1.2.2.1 s.1.2.2.2.2.2.1.toNat 0 []
def vC (s:ba):eW:=(((),(s5 s).2,()),((0,0,[],dB,dB,()),()))
def A8 (s:ba):Bool:= !((s5 s).2==(0:Int))
def vD (s:ba):gq:=((s.1.1,s.1.2.1,(),(),()),(s.2.1,(s5 s).1,()))
abbrev aI3:Type:=Int×Int×List Pt×Pt×Pt×Unit
def aI8 (c k:Int) (p:aI3) (r:List Pt×Int):aE:=cond (!(r.2==(0:Int))) ⟨(.ret,j6),((((),r.2,()),((0,0,[],dB,dB,()),())):eW)⟩ ⟨(.exit 0,m6),(((c,k,(),(),()),(p,r.1,())):gq)⟩
theorem aq7 {c k:Int} {b:List UInt8} {p:aI3} {N:Nat} (hN:N<=34) (hl:b.length<=140737488351232):∀ (n i:Nat) (l:List Pt),i+n=N->l.length=i->∃ m,al kZ m ((c,k,b,(),(),(N:Int),(i:Int),()),(p,l,()))=some (aI8 c k p (HT c b n i l))
 |0,i,l,hi,_=>⟨1,aM (OT.aq (decide_eq_false (by dsimp only;omega)))⟩
 |n+1,i,l,hi,hk=>by
  have hstep:(kZ ((c,k,b,(),(),(N:Int),(i:Int),()),(p,l,()))).run=(OT.br (!((jr c (i:Int) b).2==(0:Int))) (.ok (.inr ⟨(.ret,j6),((((),(jr c (i:Int) b).2,()),((0,0,[],dB,dB,()),())):eW)⟩))
   (gd [decide ((l.length+1)*72<=140737488355328),inR ((i:Int)+1)] (.ok (.inl ((c,k,b,(),(),(N:Int),(i:Int)+1,()),(p,l++ [(jr c (i:Int) b).1],()))))):OT (Sum ba aE)).run:=
   (OT.ao (decide_eq_true (by dsimp only;omega))).trans ((ah (by simp only [List.all_cons,List.all_nil,Bool.and_true];exact decide_eq_true hl)).trans rfl)
  unfold HT
  cases hd: !((jr c (i:Int) b).2==(0:Int))
  ·obtain ⟨m,hm⟩:=aq7 (c:=c) (k:=k) (p:=p) hN hl n (i+1) (l++ [(jr c (i:Int) b).1]) (by omega) (by rw [List.length_append];simp only [List.length_cons,List.length_nil];omega)
   refine ⟨m+1,aF (hstep.trans ((OT.aq hd).trans ((ah ?_).trans rfl))) hm⟩
   simp only [List.all_cons,List.all_nil,Bool.and_true,Bool.and_eq_true]
   exact ⟨decide_eq_true (by omega),aH (by omega)⟩
  ·refine ⟨1,aM (hstep.trans ((OT.ao hd).trans ?_))⟩
   unfold aI8
   rw [cond_true]
   dsimp only
   rw [hd]
   rfl
theorem amj:∀ s:ba,Kd s=true->∃ m e,al kZ m s=some e/\(oM vC A8 vD s).run=some e:=by
 rintro ⟨⟨c,k,b,⟨⟩,⟨⟩,n,i,⟨⟩⟩,⟨p,l,⟨⟩⟩⟩ h
 have h':=of_decide_eq_true h
 dsimp only at h'
 obtain ⟨rfl,h0,h1,rfl,hl⟩:=h'
 obtain ⟨N,rfl⟩:∃ N:Nat,n=(N:Int):=⟨n.toNat,by omega⟩
 obtain ⟨m,hm⟩:=aq7 (c:=c) (k:=k) (p:=p) (N:=N) (by omega) hl N 0 [] (by omega) rfl
 refine ⟨m,_,hm,?_⟩
 have e:s5 ((c,k,b,(),(),(N:Int),0,()),(p,[],()))=HT c b N 0 []:=rfl
 unfold oM A8 vC vD aI8
 rw [e]
 generalize HT c b N 0 []=r
 cases hd: !(r.2==(0:Int))
 ·rfl
 ·rfl
def qH (x:vE):Bool:=decide (x.1.2.2.1.length<=140737488351232)
def XL (x:vE):OT fb.Y:=.ok ⟨fv,(((lx x.1.1 x.1.2.1 x.1.2.2.1).1,((lx x.1.1 x.1.2.1 x.1.2.2.1).2,())),())⟩
theorem ami:ac Tryz.prog 31 (fb.aI qH XL):=XK Kd vC A8 vD amj _ _ λx oy hp ho=>by
 rw [<-ho]
 clear ho
 obtain ⟨⟨c,k,b,⟨⟩⟩,⟨⟩⟩:=x
 have hl:b.length<=140737488351232:=of_decide_eq_true hp
 show _=some (⟨fv,(((lx c k b).1,((lx c k b).2,())),())⟩:fb.Y)
 rcases (Bool.eq_false_or_eq_true (ap c)).symm with hs|hs
 ·rw [show lx c k b=(Bo,40) from by unfold lx;rw [hs];rfl]
  exact OT.aq hs
 refine (OT.ao hs).trans ?_
 by_cases h0:k<0
 ·rw [show lx c k b=(Bo,60) from by unfold lx;rw [hs,decide_eq_true h0];rfl]
  exact OT.ao (decide_eq_true h0)
 refine (OT.aq (decide_eq_false h0)).trans ?_
 by_cases h5:5<k
 ·rw [show lx c k b=(Bo,60) from by unfold lx;rw [hs,decide_eq_false h0,decide_eq_true h5];rfl]
  exact OT.ao (decide_eq_true h5)
 rw [show lx c k b=aEe c k (HT c b (EF k+2) 0 []) from by unfold lx;rw [hs,decide_eq_false h0,decide_eq_false h5];rfl]
 obtain ⟨hN,hn1,hn2⟩:=TH h0 h5
 refine (OT.aq (decide_eq_false h5)).trans ?_
 have hlen:=HS (c:=c) (b:=b) (EF k+2) 0 []
 unfold A8 vC vD s5 aEe
 dsimp only
 generalize EF k=N at*
 rw [hN]
 rw [show ((N:Int)+2).toNat=N+2 by omega]
 generalize HT c b (N+2) 0 []=r at*
 refine (ah ?_).trans ?_
 ·simp only [List.all_cons,List.all_nil,Bool.and_true,Bool.and_eq_true]
  exact ⟨decide_eq_true (by omega),aH (by omega),decide_eq_true ⟨rfl,by dsimp only;omega,by dsimp only;omega,rfl,hl⟩⟩
 cases hd: !(r.2==(0:Int))
 ·have hlen:=hlen hd
  simp only [List.length_nil] at hlen
  have hlen:r.1.length=N+2:=by omega
  rw [show ((N:Int)+1).toNat=N+1 by omega,hlen]
  refine (OT.aq rfl).trans ((ah (by simp only [List.all_cons,List.all_nil,Bool.and_true];exact decide_eq_true (by omega))).trans ((OT.aq (by rw [decide_eq_false (by omega)];rfl)).trans ((OT.aq (by rw [decide_eq_false (by omega)];rfl)).trans ((ah ?_).trans rfl))))
  simp only [List.all_cons,List.all_nil,Bool.and_true,Bool.and_eq_true]
  exact ⟨⟨⟨decide_eq_true (by omega),decide_eq_true (by omega)⟩,decide_eq_true (by omega)⟩,aN (by omega),decide_eq_true (by omega),aH (by omega),aN (by omega),decide_eq_true (by omega)⟩
 ·exact (OT.ao rfl).trans rfl
def s4:cn:=(YP 2 (fb.aI qH XL))
theorem Tt:ac Tryz.prog 31 s4:=(aud ami)
theorem Tq:aG s4:=(ad4 aA)
def pR:Env:=ay 31 s4 pI
theorem nJ:aQ Tryz.prog pR:=ag Tt nD
theorem xT:ax pR:=ae Tq xM
theorem CP:aW Tryz.prog te pR:=aJ follows ar nJ xT
def gG:aw:=⟨[.val false .int,.val false .int,.val false (.list .u8)],[],false,0,false⟩
def ik:az:=⟨[.val true aGO,.val false .int],[],false⟩
def Pn:SV->Option az:=λ_=>some ik
def aHK:CSh:=.cells [.val false .int,.val false .int,.own 2,.val false (.prod .elem (.prod .elem .bool)),.val false (.prod .elem (.prod .elem .bool))]
def sj:Shape:=⟨75,[(0,.val false .int),(2,.val false (.list .u8)),(6,.ptr 0 0 0),(8,.val false .int),(9,.ptr 1 0 0),(10,.val false .int)],[(0,amF),(1,aHK),(2,.row (.prod .elem (.prod .elem .bool)))],0,true⟩
def lC:Shape:=⟨75,[(6,.ptr 0 0 0),(7,.val false .int)],[(0,amF)],0,true⟩
def qj:Shape:=⟨75,[(6,.ptr 0 0 0),(8,.val false .int),(9,.ptr 1 0 0)],[(0,amF),(1,aHK),(2,.row (.prod .elem (.prod .elem .bool)))],0,true⟩
abbrev DL:Type:=((Int)×(Int)×(List (UInt8))×Unit)×(Unit)
abbrev bn:Type:=((Int)×(List (UInt8))×(Unit)×(Int)×(Unit)×(Int)×Unit)×(((Int)×(Int)×(List ((aa×(aa×Bool))))×((aa×(aa×Bool)))×((aa×(aa×Bool)))×Unit)×((Int)×(Int)×(Unit)×((aa×(aa×Bool)))×((aa×(aa×Bool)))×Unit)×(List ((aa×(aa×Bool))))×Unit)
abbrev fJ:Type:=((Unit)×(Int)×Unit)×(((Int)×(Int)×(List ((aa×(aa×Bool))))×((aa×(aa×Bool)))×((aa×(aa×Bool)))×Unit)×Unit)
abbrev gW:Type:=((Unit)×(Int)×(Unit)×Unit)×(((Int)×(Int)×(List ((aa×(aa×Bool))))×((aa×(aa×Bool)))×((aa×(aa×Bool)))×Unit)×((Int)×(Int)×(Unit)×((aa×(aa×Bool)))×((aa×(aa×Bool)))×Unit)×(List ((aa×(aa×Bool))))×Unit)
def Ww:SE->Option Shape:=fC [(0,qj)] (some lC)
def ark (a0:Int) (a2:List (UInt8)) (a8:Int) (a10:Int) (c0_0:Int) (c0_1:Int) (c0_2:List ((aa×(aa×Bool)))) (c0_3:(aa×(aa×Bool))) (c0_4:(aa×(aa×Bool))) (c1_0:Int) (c1_1:Int) (c1_3:(aa×(aa×Bool))) (c1_4:(aa×(aa×Bool))) (c2:List ((aa×(aa×Bool)))):OT (Sum bn aE):=
 let z0:(aa×aa×Bool)×Int:=jr a0 a10 a2
 let z1:=z0.snd
 let z2:aa:= {w0:=0,w1:=0,w2:=0,w3:=0}
 let z3:aa×aa×Bool:=(z2,z2,false)
 (gd [inR (a8+(2:Int))] (.br (decide (a10<a8+(2:Int)))
 (gd [yr ((a0,a10,a2,()),())] (.br (!z1==(0:Int))
  (.ok (.inr ⟨(.ret,lC),(((),(z1,())),(((0:Int),((0:Int),([],(z3,(z3,()))))),()))⟩))
  (gd [decide ((List.length c2+1)*72<=140737488355328),inR (a10+(1:Int))] (.ok (.inl ((a0,(a2,((),(a8,((),(a10+(1:Int),())))))),((c0_0,(c0_1,(c0_2,(c0_3,(c0_4,()))))),((c1_0,(c1_1,((),(c1_3,(c1_4,()))))),(c2++ [z0.fst],())))))))))
 (.ok (.inr ⟨(.exit 0,qj),(((),(a8,((),()))),((c0_0,(c0_1,(c0_2,(c0_3,(c0_4,()))))),((c1_0,(c1_1,((),(c1_3,(c1_4,()))))),(c2,()))))⟩))))
def n5 (s:bn):OT (Sum bn aE):=ark (s.1.1) (s.1.2.1) (s.1.2.2.2.1) (s.1.2.2.2.2.2.1) (s.2.1.1) (s.2.1.2.1) (s.2.1.2.2.1) (s.2.1.2.2.2.1) (s.2.1.2.2.2.2.1) (s.2.2.1.1) (s.2.2.1.2.1) (s.2.2.1.2.2.2.1) (s.2.2.1.2.2.2.2.1) (s.2.2.2.1)
theorem arh (s:bn) (Q:Sum bn aE->Prop):wps te pR av 1000 (aU (aj Tryz.f33) 0) (sj.inj s) (bY sj Ww (Q:Sum sj.T aE->Prop))=(n5 s).wpR Q:=by kernel_rfl
def sk (g0_r:bn->fJ) (c0_r:bn->Bool) (g0_0:bn->gW) (s:bn):OT aE:=(.br (c0_r s) (.ok ⟨(.ret,lC),g0_r s⟩) (.ok ⟨(.exit 0,qj),g0_0 s⟩))
def Sv (ok0:bn->Bool) (g0_r:bn->fJ) (c0_r:bn->Bool) (g0_0:bn->gW) (a0:Int) (a1:Int) (a2:List (UInt8)):OT gG.Y:=
 let z0:aa:= {w0:=0,w1:=0,w2:=0,w3:=0}
 let z1:aa×aa×Bool:=(z0,z0,false)
 let z2:Int×Int×List (aa×aa×Bool)×(aa×aa×Bool)×aa×aa×Bool:=((0:Int),(0:Int),[],z1,z1)
 let z3:(aa×aa×Bool)×(aa×aa×Bool)×PUnit:=(z1,z1,())
 let z4:(Int×List UInt8×PUnit×Int×PUnit×Int×PUnit)×(Int×Int×List (aa×aa×Bool)×(aa×aa×Bool)×(aa×aa×Bool)×PUnit)×(Int×Int×PUnit×(aa×aa×Bool)×(aa×aa×Bool)×PUnit)×List (aa×aa×Bool)×PUnit:=((a0,a2,(),VW (1:Int) (↑(UInt64.toNat (i2u a1)):Int),(),(0:Int),()),((0:Int),(0:Int),[],z3),(a0,a1,(),z3),[],())
 let z5:(PUnit×Int×PUnit)×(Int×Int×List (aa×aa×Bool)×(aa×aa×Bool)×(aa×aa×Bool)×PUnit)×PUnit:=g0_r z4
 let z6:=z5.snd.fst
 let z7:=z6.snd
 let z8:=z7.snd
 let z9:=z8.snd
 let z10:(PUnit×Int×PUnit×PUnit)×(Int×Int×List (aa×aa×Bool)×(aa×aa×Bool)×(aa×aa×Bool)×PUnit)×(Int×Int×PUnit×(aa×aa×Bool)×(aa×aa×Bool)×PUnit)×List (aa×aa×Bool)×PUnit:=g0_0 z4
 let z11:=z10.fst.snd.fst
 let z12:=z10.snd.snd
 let z13:=z12.snd.fst
 let z14:Nat:=List.length z13
 let z15:Nat:=Int.toNat z11
 let z16:Nat:=Int.toNat (z11+(1:Int))
 let z17:=z12.fst
 (.br (decide (a0<(0:Int)))
 (.ok ⟨ik,((z2,((40:Int),())),())⟩)
 (.br (decide ((3:Int)<a0))
  (.ok ⟨ik,((z2,((40:Int),())),())⟩)
  (.br (decide (a1<(0:Int)))
   (.ok ⟨ik,((z2,((60:Int),())),())⟩)
   (.br (decide ((5:Int)<a1))
    (.ok ⟨ik,((z2,((60:Int),())),())⟩)
    (gd [ok0 z4] (.br (c0_r z4)
     (.ok ⟨ik,(((z6.fst,z7.fst,z8.fst,z9.fst,z9.snd.fst),(z5.fst.snd.fst,())),())⟩)
     (gd [inB z11 z14,decide (z15<z14),inR (z11+(1:Int)),inB (z11+(1:Int)) z14,decide (z16<z14),dD (0:Int) z11 z14] (.ok ⟨ik,(((z17.fst,z17.snd.fst,List.take (Int.toNat (z11-(0:Int))) (List.drop 0 z13),List.getD z13 z15 z1,List.getD z13 z16 z1),((0:Int),())),())⟩))))))))
theorem ayS (ok0:bn->Bool) (g0_r:bn->fJ) (c0_r:bn->Bool) (g0_0:bn->gW) (x:DL) (Q:gG.Y->Prop):wpf te pR (aO 0 (cl sj 0 ok0 (sk g0_r c0_r g0_0)) av) 1000 Tryz.f33 (gG.inp.inj x).tm (gG.inp.inj x).hp (aIj gG Pn Q) (λ_ _=>False)=(Sv ok0 g0_r c0_r g0_0 (x.1.1) (x.1.2.1) (x.1.2.2.1)).wpR Q:=by kernel_rfl
theorem abW (ok0:bn->Bool) (g0_r:bn->fJ) (c0_r:bn->Bool) (g0_0:bn->gW) (h0:∀ s:bn,ok0 s=true->∃ m e,al (n5) m s=some e/\(sk g0_r c0_r g0_0 s).run=some e) (pre:DL->Bool) (F:DL->OT gG.Y) (hF:∀ (x:DL) oy,pre x=true->(F x).run=some oy->(Sv ok0 g0_r c0_r g0_0 (x.1.1) (x.1.2.1) (x.1.2.2.1)).run=some oy):ac Tryz.prog 33 (gG.aI pre F):=
 ajK ar nJ CP (f:=33) (fn:=Tryz.f33) (c:=aj Tryz.f33) (by kernel_rfl) (by kernel_rfl) (by kernel_rfl) (S:=gG) (k:=0) (by kernel_rfl) (λR hR=>(aB (c:=(aj Tryz.f33)) (by kernel_rfl) (id:=0) (by kernel_rfl) (aR ar nJ CP (sh:=sj) hR (xs:=Ww) (aC (by kernel_rfl) (by kernel_rfl) hR) aL af (n:=1000) (T:=n5) (λs Q=>arh s Q) (ok:=ok0) (f:=sk g0_r c0_r g0_0) h0) af)) (n:=1000) (sel:=Pn) (λv o h=>by cases h;rfl) (pre:=pre) (F:=F) (T:=λx=>Sv ok0 g0_r c0_r g0_0 (x.1.1) (x.1.2.1) (x.1.2.2.1)) (λx Q=>ayS ok0 g0_r c0_r g0_0 x Q) hF
theorem aEx {k:Int} (h0:¬k<0) (h5:¬5<k):VW 1 ((UInt64.toNat (i2u k):Nat):Int)=(EF k:Int):=by
 have:k=0\/k=1\/k=2\/k=3\/k=4\/k=5:=by omega
 rcases this with rfl|rfl|rfl|rfl|rfl|rfl<;>decide
def Po (s:bn):Bool:=decide (s.1.2.2.2.2.2.1=0/\0<=s.1.2.2.2.1/\s.1.2.2.2.1<=32/\s.2.2.2.1= []/\s.1.2.1.length<=100000000000)
def Aw (s:bn):List Pt×Int:=HT s.1.1 s.1.2.1 (s.1.2.2.2.1.toNat+2) 0 []
def Ax (s:bn):fJ:=(((),(Aw s).2,()),((0,0,[],dB,dB,()),()))
def HW (s:bn):Bool:= !((Aw s).2==(0:Int))
def Ay (s:bn):gW:=(((),s.1.2.2.2.1,(),()),(s.2.1,s.2.2.1,(Aw s).1,()))
abbrev aIN:Type:=Int×Int×Unit×Pt×Pt×Unit
def aEq (N:Int) (p:aI3) (q:aIN) (r:List Pt×Int):aE:=cond (!(r.2==(0:Int))) ⟨(.ret,lC),((((),r.2,()),((0,0,[],dB,dB,()),())):fJ)⟩ ⟨(.exit 0,qj),((((),N,(),()),(p,q,r.1,())):gW)⟩
theorem aib {c:Int} {b:List UInt8} {p:aI3} {q:aIN} {N:Nat} (hN:N<=32) (hl:b.length<=100000000000):∀ (n i:Nat) (l:List Pt),i+n=N+2->l.length=i->∃ m,al n5 m ((c,b,(),(N:Int),(),(i:Int),()),(p,q,l,()))=some (aEq (N:Int) p q (HT c b n i l))
 |0,i,l,hi,_=>⟨1,aM ((ah (by simp only [List.all_cons,List.all_nil,Bool.and_true];exact aH (by omega))).trans (OT.aq (decide_eq_false (by dsimp only;omega))))⟩
 |n+1,i,l,hi,hk=>by
  have hstep:(n5 ((c,b,(),(N:Int),(),(i:Int),()),(p,q,l,()))).run=(OT.br (!((jr c (i:Int) b).2==(0:Int))) (.ok (.inr ⟨(.ret,lC),((((),(jr c (i:Int) b).2,()),((0,0,[],dB,dB,()),())):fJ)⟩))
   (gd [decide ((l.length+1)*72<=140737488355328),inR ((i:Int)+1)] (.ok (.inl ((c,b,(),(N:Int),(),(i:Int)+1,()),(p,q,l++ [(jr c (i:Int) b).1],()))))):OT (Sum bn aE)).run:=
   (ah (by simp only [List.all_cons,List.all_nil,Bool.and_true];exact aH (by omega))).trans ((OT.ao (decide_eq_true (by dsimp only;omega))).trans ((ah (by simp only [List.all_cons,List.all_nil,Bool.and_true];exact decide_eq_true hl)).trans rfl))
  unfold HT
  cases hd: !((jr c (i:Int) b).2==(0:Int))
  ·obtain ⟨m,hm⟩:=aib (c:=c) (p:=p) (q:=q) hN hl n (i+1) (l++ [(jr c (i:Int) b).1]) (by omega) (by rw [List.length_append];simp only [List.length_cons,List.length_nil];omega)
   refine ⟨m+1,aF (hstep.trans ((OT.aq hd).trans ((ah ?_).trans rfl))) hm⟩
   simp only [List.all_cons,List.all_nil,Bool.and_true,Bool.and_eq_true]
   exact ⟨decide_eq_true (by omega),aH (by omega)⟩
  ·refine ⟨1,aM (hstep.trans ((OT.ao hd).trans ?_))⟩
   unfold aEq
   rw [cond_true]
   dsimp only
   rw [hd]
   rfl
theorem arj:∀ s:bn,Po s=true->∃ m e,al n5 m s=some e/\(sk Ax HW Ay s).run=some e:=by
 rintro ⟨⟨c,b,⟨⟩,n,⟨⟩,i,⟨⟩⟩,⟨p,⟨q1,q2,⟨⟩,q3,q4,⟨⟩⟩,l,⟨⟩⟩⟩ h
 have h':=of_decide_eq_true h
 dsimp only at h'
 obtain ⟨rfl,h0,h1,rfl,hl⟩:=h'
 obtain ⟨N,rfl⟩:∃ N:Nat,n=(N:Int):=⟨n.toNat,by omega⟩
 obtain ⟨m,hm⟩:=aib (c:=c) (p:=p) (q:=(q1,q2,(),q3,q4,())) (N:=N) (by omega) hl (N+2) 0 [] (by omega) rfl
 refine ⟨m,_,hm,?_⟩
 have e:Aw ((c,b,(),(N:Int),(),0,()),(p,(q1,q2,(),q3,q4,()),[],()))=HT c b (N+2) 0 []:=rfl
 unfold sk HW Ax Ay aEq
 rw [e]
 generalize HT c b (N+2) 0 []=r
 cases hd: !(r.2==(0:Int))
 ·rfl
 ·rfl
def vd (x:DL):Bool:=decide (x.1.2.2.1.length<=100000000000)
def aia (x:DL):OT gG.Y:=.ok ⟨ik,(((lx x.1.1 x.1.2.1 x.1.2.2.1).1,((lx x.1.1 x.1.2.1 x.1.2.2.1).2,())),())⟩
theorem ari:ac Tryz.prog 33 (gG.aI vd aia):=abW Po Ax HW Ay arj _ _ λx oy hp ho=>by
 rw [<-ho]
 clear ho
 obtain ⟨⟨c,k,b,⟨⟩⟩,⟨⟩⟩:=x
 have hl:b.length<=100000000000:=of_decide_eq_true hp
 show _=some (⟨ik,(((lx c k b).1,((lx c k b).2,())),())⟩:gG.Y)
 rcases (Bool.eq_false_or_eq_true (decide (c<0))).symm with hc|hc
 case inr=>
  have hs:ap c=false:=by rw [u4,hc];rfl
  rw [show lx c k b=(Bo,40) from by unfold lx;rw [hs];rfl]
  exact OT.ao hc
 refine (OT.aq hc).trans ?_
 rcases (Bool.eq_false_or_eq_true (decide (3<c))).symm with hd|hd
 case inr=>
  have hs:ap c=false:=by rw [u4,hd];simp
  rw [show lx c k b=(Bo,40) from by unfold lx;rw [hs];rfl]
  exact OT.ao hd
 have hs:ap c=true:=by rw [u4,hc,hd];rfl
 refine (OT.aq hd).trans ?_
 by_cases h0:k<0
 ·rw [show lx c k b=(Bo,60) from by unfold lx;rw [hs,decide_eq_true h0];rfl]
  exact OT.ao (decide_eq_true h0)
 refine (OT.aq (decide_eq_false h0)).trans ?_
 by_cases h5:5<k
 ·rw [show lx c k b=(Bo,60) from by unfold lx;rw [hs,decide_eq_false h0,decide_eq_true h5];rfl]
  exact OT.ao (decide_eq_true h5)
 rw [show lx c k b=aEe c k (HT c b (EF k+2) 0 []) from by unfold lx;rw [hs,decide_eq_false h0,decide_eq_false h5];rfl]
 have hN:=aEx h0 h5
 obtain ⟨_,hn1,hn2⟩:=TH h0 h5
 refine (OT.aq (decide_eq_false h5)).trans ?_
 have hlen:=HS (c:=c) (b:=b) (EF k+2) 0 []
 unfold HW Ax Ay Aw aEe
 dsimp only
 generalize EF k=N at*
 rw [hN]
 rw [Int.toNat_natCast]
 generalize HT c b (N+2) 0 []=r at*
 refine (ah ?_).trans ?_
 ·simp only [List.all_cons,List.all_nil,Bool.and_true,Bool.and_eq_true]
  exact decide_eq_true ⟨rfl,by dsimp only;omega,by dsimp only;omega,rfl,hl⟩
 cases hd: !(r.2==(0:Int))
 ·have hlen:=hlen hd
  simp only [List.length_nil] at hlen
  have hlen:r.1.length=N+2:=by omega
  rw [show ((N:Int)+1).toNat=N+1 by omega,show ((N:Int)-0).toNat=N by omega,hlen]
  refine (OT.aq rfl).trans ((ah ?_).trans rfl)
  simp only [List.all_cons,List.all_nil,Bool.and_true,Bool.and_eq_true]
  exact ⟨aN (by omega),decide_eq_true (by omega),aH (by omega),aN (by omega),decide_eq_true (by omega),fB (by omega)⟩
 ·exact (OT.ao rfl).trans rfl
def ym:cn:=(gG.aI vd aia)
theorem Wy:ac Tryz.prog 33 ym:=ari
theorem Wx:aG ym:=aA
def IF:Env:=ay 33 ym pR
theorem MZ:aQ Tryz.prog IF:=ag Wy nJ
theorem Vy:ax IF:=ae Wx xT
theorem aaE:aW Tryz.prog te IF:=aJ follows ar MZ Vy
end Go.Proofs.YtohjofabochgfaaGreat

namespace Go.Proofs.YtohjofabochgfaaGreat
open Sx Go
theorem ffP {P:Prop} (h:false=true):P:=nomatch h
theorem ftP {P:Prop} (h:true=false):P:=nomatch h
theorem aGf {s:Int} {b:List UInt8} (hs:ap s=true) (h0:((Zu s b).2==(0:Int))=true) (hi:(Zu s b).1.2.2=false):onB s (Zu s b).1=true:=by
 have hv:Zu s b=cond (fV b) (cond (Nat.blt (abg b).nat (pS s)) (cond (bU (abg b)) (cond (OG b) (dB,41) (cF,0)) (cond (sqB s (abg b)) (ptD s (abg b) (OG b),0) (dB,41))) (dB,41)) (dB,41):=by
  unfold Zu
  rw [hs]
  rfl
 rw [hv] at h0 hi⊢
 clear hv
 generalize abg b=N at*
 cases h1:fV b
 ·rw [h1] at h0;exact ffP h0
 rw [h1,cond_true] at h0 hi
 rw [cond_true]
 cases h2:Nat.blt N.nat (pS s)
 ·rw [h2] at h0;exact ffP h0
 rw [h2,cond_true] at h0 hi
 rw [cond_true]
 cases h3:bU N
 ·rw [h3,cond_false] at h0 hi
  rw [cond_false]
  cases h4:sqB s N
  ·rw [h4] at h0;exact ffP h0
  ·rw [cond_true]
   exact (aEt hs (dR h2) h4 _).1
 ·rw [h3,cond_true] at h0 hi
  cases h4:OG b
  ·rw [h4] at hi;exact ftP hi
  ·rw [h4] at h0;exact ffP h0
theorem aGe {c:Int} {B:List UInt8} {k:Nat} (hs:ap c=true) (h:VX (OQ c B k)=true):MK c (OQ c B k).1=false:=by
 unfold VX at h
 cases h0:((OQ c B k).2==(0:Int))
 ·rw [h0] at h;exact ffP h
 ·rw [h0,cond_true] at h
  have hi:(OQ c B k).1.2.2=false:=by
   cases hq:(OQ c B k).1.2.2
   ·rfl
   ·exact ffP (show false=true by rw [hq] at h;exact h)
  unfold MK
  rw [hi,cond_false]
  have:=aGf (s:=c) (b:=an8 (ofN ((ak3 c (rm Ul 64 (B++ [i2b (k:Int)]))).nat%(aY c.toNat).1.nat))) hs h0 hi
  rw [show onB c (OQ c B k).1=true from this]
  rfl
theorem Zt {c:Int} {B:List UInt8} {p:Pt}:∀ n k,OP c B n k=some p->∃ j,VX (OQ c B j)=true/\p=(OQ c B j).1
 |0,k,h=>by cases h
 |n+1,k,h=>by
  unfold OP at h
  cases hg:VX (OQ c B k)
  ·rw [hg] at h;exact Zt n (k+1) h
  ·rw [hg] at h
   cases h
   exact ⟨k,hg,rfl⟩
theorem aGc {c i:Int} {b:List UInt8} (h:((jr c i b).2==(0:Int))=true):ap c=true/\∃ j,VX (OQ c (Oh b i) j)=true/\(jr c i b).1=(OQ c (Oh b i) j).1:=by
 unfold jr at h⊢
 cases hs:ap c
 ·rw [hs] at h;exact ffP h
 rw [hs,cond_true] at h
 rw [cond_true]
 refine ⟨rfl,?_⟩
 cases h1:decide (i<0)
 ·rw [h1,cond_false] at h
  rw [cond_false]
  cases h2:decide (2147483647<i)
  ·rw [h2,cond_false] at h
   rw [cond_false]
   cases hN:OP c (Oh b i) 256 0 with
   |none=>rw [hN] at h;exact ffP h
   |some p=>
    obtain ⟨j,hg,rfl⟩:=Zt 256 0 hN
    exact ⟨j,hg,rfl⟩
  ·rw [h2] at h;exact ffP h
 ·rw [h1] at h;exact ffP h
theorem au4 {c i:Int} {b:List UInt8} (h:((jr c i b).2==(0:Int))=true):MK c (jr c i b).1=false:=by
 obtain ⟨hs,j,hg,e⟩:=aGc h
 rw [e]
 exact aGe hs hg
theorem ah5 {c:Int} {b:List UInt8}:∀ (n i:Nat) (l:List Pt),l.length=i->(∀ j,j<i->((jr c (j:Int) b).2==(0:Int))=true/\l.getD j dB=(jr c (j:Int) b).1)->(!((HT c b n i l).2==(0:Int)))=false->
 ∀ j,j<i+n->((jr c (j:Int) b).2==(0:Int))=true/\(HT c b n i l).1.getD j dB=(jr c (j:Int) b).1
 |0,_,_,_,h,_=>h
 |n+1,i,l,hk,h,he=>by
  unfold HT at he⊢
  cases hd: !((jr c (i:Int) b).2==(0:Int))
  ·rw [hd,cond_false] at he
   rw [cond_false]
   intro j hj
   refine ah5 n (i+1) (l++ [(jr c (i:Int) b).1]) (by rw [List.length_append];simp only [List.length_cons,List.length_nil];omega) (λj hj=> ?_) he j (by omega)
   by_cases hji:j<i
   ·rw [List.getD_eq_getElem?_getD,List.getElem?_append_left (by omega),<-List.getD_eq_getElem?_getD]
    exact h j hji
   ·have:j=i:=by omega
    subst this
    refine ⟨?_,?_⟩
    ·rw [<-Bool.not_not ((jr c (j:Int) b).2==(0:Int)),hd]
     rfl
    ·rw [List.getD_eq_getElem?_getD,List.getElem?_append_right (by omega),show j-l.length=0 by omega]
     rfl
  ·rw [hd] at he
   exact absurd (hd.symm.trans he) (by decide)
theorem Wp {c k:Int} {b:List UInt8} (h:(!((lx c k b).2==(0:Int)))=false):∃ l:List Pt,ap c=true/\¬k<0/\¬5<k/\l.length=EF k+2/\(∀ j,j<EF k+2->((jr c (j:Int) b).2==(0:Int))=true/\l.getD j dB=(jr c (j:Int) b).1)/\
 lx c k b=((c,k,l.take (EF k),l.getD (EF k) dB,l.getD (EF k+1) dB),0):=by
 unfold lx at h⊢
 cases hs:ap c
 ·rw [hs] at h;exact ftP h
 rw [hs,cond_true] at h
 rw [cond_true]
 by_cases h0:k<0
 ·rw [decide_eq_true h0] at h;exact ftP h
 rw [decide_eq_false h0,cond_false] at h⊢
 by_cases h5:5<k
 ·rw [decide_eq_true h5] at h;exact ftP h
 rw [decide_eq_false h5,cond_false] at h⊢
 unfold aEe at h⊢
 have h1:=HS (c:=c) (b:=b) (EF k+2) 0 []
 have h2:=ah5 (c:=c) (b:=b) (EF k+2) 0 [] rfl (λj hj=>by omega)
 generalize HT c b (EF k+2) 0 []=r at*
 cases hr: !(r.2==(0:Int))
 ·refine ⟨r.1,rfl,h0,h5,?_,λj hj=>h2 hr j (by omega),rfl⟩
  have:=h1 hr
  simp only [List.length_nil] at this
  omega
 ·rw [hr,cond_true] at h
  rw [show (Bo,r.2).2=r.2 from rfl] at h
  exact absurd (hr.symm.trans h) (by decide)
theorem ali {c k:Int} {b:List UInt8} (h:(!((lx c k b).2==(0:Int)))=false):je (lx c k b).1=0:=by
 obtain ⟨l,hs,h0,h5,hl,ha,e⟩:=Wp h
 obtain ⟨hN,hn1,hn2⟩:=TH h0 h5
 rw [e]
 have hb:∀ j,j<EF k+2->MK c (l.getD j dB)=false:=λj hj=>by rw [(ha j hj).2];exact au4 (ha j hj).1
 unfold je
 dsimp only
 rw [hs,decide_eq_false h0,decide_eq_false h5,cond_true,cond_false,cond_false]
 have e1:((((l.take (EF k)).length:Nat):Int)==VW 1 k)=true:=by
  rw [List.length_take,hN,beq_iff_eq]
  omega
 have e2:(l.take (EF k)).any (MK c)=false:=by
  rw [List.any_eq_false]
  intro p hp
  obtain ⟨j,hj,rfl⟩:=List.getElem_of_mem hp
  rw [List.length_take] at hj
  have:=hb j (by omega)
  rw [List.getD_eq_getElem?_getD,List.getElem?_eq_getElem (by omega)] at this
  rw [List.getElem_take]
  rw [show (some l[j]).getD dB=l[j] from rfl] at this
  rw [this]
  decide
 rw [e1,e2,hb _ (by omega),hb _ (by omega)]
 rfl
theorem ayL {c k:Int} {b:List UInt8} (h:(!((lx c k b).2==(0:Int)))=true):(lx c k b).1=Bo:=by
 unfold lx at h⊢
 cases hs:ap c
 ·rfl
 rw [hs,cond_true] at h
 rw [cond_true]
 by_cases h0:k<0
 ·rw [decide_eq_true h0];rfl
 rw [decide_eq_false h0,cond_false] at h⊢
 by_cases h5:5<k
 ·rw [decide_eq_true h5];rfl
 rw [decide_eq_false h5,cond_false] at h⊢
 unfold aEe at h⊢
 generalize HT c b (EF k+2) 0 []=r at*
 cases hr: !(r.2==(0:Int))
 ·rw [hr] at h;exact ffP h
 ·rfl
theorem ayK (c k:Int) (b:List UInt8):(lx c k b).1.2.2.1.length<=32:=by
 cases h: !((lx c k b).2==(0:Int))
 ·obtain ⟨l,hs,h0,h5,hl,ha,e⟩:=Wp h
  obtain ⟨hN,hn1,hn2⟩:=TH h0 h5
  rw [e]
  show (l.take (EF k)).length<=32
  rw [List.length_take]
  omega
 ·rw [ayL h]
  exact Nat.zero_le _
end Go.Proofs.YtohjofabochgfaaGreat

namespace Go.Proofs.YtohjofabochgfaaGreat
open Sx Go
set_option maxRecDepth 100000
def dC:aw:=⟨[.val false .int,.val false .int,.val false (.list .u8)],[],true,0,false⟩
abbrev wa:Type:=((Int)×(Int)×(List (UInt8))×Unit)×(Unit)
def bl:az:=⟨[.val false .bool],[],false⟩
def K4:SV->Option az:=λ_=>some bl
def Bz (a0:Int) (a1:Int) (a2:List (UInt8)):OT dC.Y:=
 let z0:Bool:=decide ((1:Int)<a1)
 let z1:Bool:=decide (a1<(6:Int))
 let z2:Bool:=lp ((a2,()),())
 let z3:Int×Int×List UInt8×PUnit:=(a0,a1,a2,())
 let z4:Bool:=qH (z3,())
 let z5:Bool:=vd (z3,())
 let z6:(Int×Int×List (aa×aa×Bool)×(aa×aa×Bool)×aa×aa×Bool)×Int:=lx a0 a1 a2
 let z7:=z6.fst
 let z8:Bool:=vF ((z7,z7,()),())
 let z9:Bool:=abL z7 z7
 let z10:=z6.snd
 let z11:Bool:=z10==z10
 let z12:Bool:= !z10==(0:Int)
 let z13:Bool:=k6 ((z7,()),())
 (.br (decide ((1000:Int)<(↑(List.length a2):Int)))
 (.ok ⟨bl,((true,()),())⟩)
 (.br (a0==(2:Int))
  (.br (z0)
   (.br (z1)
    (.ok ⟨bl,((true,()),())⟩)
    (gd [z2,z4,z5,z8] (.br (z9)
     (.br (z11)
      (.br (z12)
       (.ok ⟨bl,((true,()),())⟩)
       (gd [z13] (.ok ⟨bl,((je z7==(0:Int),()),())⟩)))
      (.ok ⟨bl,((false,()),())⟩))
     (.ok ⟨bl,((false,()),())⟩))))
   (gd [z2,z4,z5,z8] (.br (z9)
    (.br (z11)
     (.br (z12)
      (.ok ⟨bl,((true,()),())⟩)
      (gd [z13] (.ok ⟨bl,((je z7==(0:Int),()),())⟩)))
     (.ok ⟨bl,((false,()),())⟩))
    (.ok ⟨bl,((false,()),())⟩))))
  (.br (a0==(3:Int))
   (.br (z0)
    (.br (z1)
     (.ok ⟨bl,((true,()),())⟩)
     (gd [z2,z4,z5,z8] (.br (z9)
      (.br (z11)
       (.br (z12)
        (.ok ⟨bl,((true,()),())⟩)
        (gd [z13] (.ok ⟨bl,((je z7==(0:Int),()),())⟩)))
       (.ok ⟨bl,((false,()),())⟩))
      (.ok ⟨bl,((false,()),())⟩))))
    (gd [z2,z4,z5,z8] (.br (z9)
     (.br (z11)
      (.br (z12)
       (.ok ⟨bl,((true,()),())⟩)
       (gd [z13] (.ok ⟨bl,((je z7==(0:Int),()),())⟩)))
      (.ok ⟨bl,((false,()),())⟩))
     (.ok ⟨bl,((false,()),())⟩))))
   (gd [z2,z4,z5,z8] (.br (z9)
    (.br (z11)
     (.br (z12)
      (.ok ⟨bl,((true,()),())⟩)
      (gd [z13] (.ok ⟨bl,((je z7==(0:Int),()),())⟩)))
     (.ok ⟨bl,((false,()),())⟩))
    (.ok ⟨bl,((false,()),())⟩))))))
theorem atK (x:wa) (Q:dC.Y->Prop):wpf te IF av 1000 Tryz.f5 (dC.inp.inj x).tm (dC.inp.inj x).hp (fnK dC K4 Q) (λ_ _=>False)=(Bz (x.1.1) (x.1.2.1) (x.1.2.2.1)).wpR Q:=by kernel_rfl
theorem Yw (pre:wa->Bool) (F:wa->OT dC.Y) (hF:∀ (x:wa) oy,pre x=true->(F x).run=some oy->(Bz (x.1.1) (x.1.2.1) (x.1.2.2.1)).run=some oy):ac Tryz.prog 5 (dC.aI pre F):=
 aD ar MZ aaE (f:=5) (fn:=Tryz.f5) (c:=aj Tryz.f5) (by kernel_rfl) (by kernel_rfl) (by kernel_rfl) (S:=dC) (k:=0) (by kernel_rfl) (λR hR=>af) (n:=1000) (sel:=K4) (λv o h=>by cases h;rfl) (pre:=pre) (F:=F) (T:=λx=>Bz (x.1.1) (x.1.2.1) (x.1.2.2.1)) (λx Q=>atK x Q) hF
def y6 (_:wa):Bool:=true
def Yx (_:wa):OT dC.Y:=.ok ⟨bl,((true,()),())⟩
theorem abH {c k:Int} {b:List UInt8} (hl:b.length<=1000):(gd [lp ((b,()),()),qH ((c,k,b,()),()),vd ((c,k,b,()),()),vF (((lx c k b).1,(lx c k b).1,()),())] (.br (abL (lx c k b).1 (lx c k b).1)
 (.br ((lx c k b).2==(lx c k b).2)
  (.br (!(lx c k b).2==(0:Int))
   (.ok ⟨bl,((true,()),())⟩)
   (gd [k6 (((lx c k b).1,()),())] (.ok ⟨bl,((je (lx c k b).1==(0:Int),()),())⟩)))
  (.ok ⟨bl,((false,()),())⟩))
 (.ok ⟨bl,((false,()),())⟩)):OT dC.Y).run=some (⟨bl,((true,()),())⟩:dC.Y):=by
 have hn:=ayK c k b
 have hc:=ali (c:=c) (k:=k) (b:=b)
 generalize lx c k b=d at*
 refine (ah ?_).trans ((OT.ao (alj d.1)).trans ((OT.ao (beq_self_eq_true d.2)).trans ?_))
 ·simp only [List.all_cons,List.all_nil,Bool.and_true,Bool.and_eq_true]
  exact ⟨decide_eq_true (show b.length<=_ by omega),decide_eq_true (show b.length<=_ by omega),decide_eq_true (show b.length<=_ by omega),decide_eq_true (show d.1.2.2.1.length<=_ by omega)⟩
 ·rcases (Bool.eq_false_or_eq_true (!(d.2==(0:Int)))).symm with he|he
  ·refine (OT.aq he).trans ((ah ?_).trans ?_)
   ·simp only [List.all_cons,List.all_nil,Bool.and_true]
    exact decide_eq_true (show d.1.2.2.1.length<=_ by omega)
   ·rw [hc he]
    rfl
  ·exact OT.ao he
theorem anc:ac Tryz.prog 5 (dC.aI y6 Yx):=Yw _ _ λx oy hp ho=>by
 rw [<-ho]
 clear ho
 obtain ⟨⟨c,k,b,⟨⟩⟩,⟨⟩⟩:=x
 show (Bz c k b).run=some (⟨bl,((true,()),())⟩:dC.Y)
 by_cases h:(1000:Int)<(b.length:Int)
 ·exact (OT.ao (decide_eq_true h)).trans rfl
 have hl:b.length<=1000:=by omega
 have Fc:=abH (c:=c) (k:=k) hl
 refine (OT.aq (decide_eq_false h)).trans ?_
 rcases (Bool.eq_false_or_eq_true (c==(2:Int))).symm with h2|h2
 ·refine (OT.aq h2).trans ?_
  rcases (Bool.eq_false_or_eq_true (c==(3:Int))).symm with h3|h3
  ·exact (OT.aq h3).trans Fc
  ·refine (OT.ao h3).trans ?_
   rcases (Bool.eq_false_or_eq_true (decide ((1:Int)<k))).symm with h4|h4
   ·exact (OT.aq h4).trans Fc
   ·refine (OT.ao h4).trans ?_
    rcases (Bool.eq_false_or_eq_true (decide (k<(6:Int)))).symm with h5|h5
    ·exact (OT.aq h5).trans Fc
    ·exact OT.ao h5
 ·refine (OT.ao h2).trans ?_
  rcases (Bool.eq_false_or_eq_true (decide ((1:Int)<k))).symm with h4|h4
  ·exact (OT.aq h4).trans Fc
  ·refine (OT.ao h4).trans ?_
   rcases (Bool.eq_false_or_eq_true (decide (k<(6:Int)))).symm with h5|h5
   ·exact (OT.aq h5).trans Fc
   ·exact OT.ao h5
def Yv:cn:=(dC.aI y6 Yx)
theorem Ub:ac Tryz.prog 5 Yv:=anc
end Go.Proofs.YtohjofabochgfaaGreat
