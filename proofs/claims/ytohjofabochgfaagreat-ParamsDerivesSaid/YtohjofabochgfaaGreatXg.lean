/- A symbolic machine for Go code over plain data, and functions of the program as it shows them. No statement is proved in this file. -/
import Derived.KernelRfl
import Derived.Test.YtohjofabochgfaaGreatXf
set_option linter.unusedSimpArgs false
set_option linter.unusedVariables false
set_option linter.unusedSectionVars false

namespace Go.Proofs.YtohjofabochgfaaGreat
open Sx Go
set_option maxRecDepth 100000
def fa:aw:=⟨[.val false .int,.val false .int,.val false (.list .u8)],[],true,0,false⟩
abbrev vw:Type:=((Int)×(Int)×(List (UInt8))×Unit)×(Unit)
def oj:Shape:=⟨80,[(0,.val false .int),(1,.val false .int),(2,.val false (.list .u8)),(6,.ptr 0 0 0),(8,.val false .int)],[(0,.cells [.val false .u64,.val false .u64,.val false .u64,.val false .u64,.val false .u64,.val false .u64,.val false .u64,.val false .u64,.val false .bool])],0,true⟩
abbrev aZ:Type:=((Int)×(Int)×(List (UInt8))×(Unit)×(Int)×Unit)×(((UInt64)×(UInt64)×(UInt64)×(UInt64)×(UInt64)×(UInt64)×(UInt64)×(UInt64)×(Bool)×Unit)×Unit)
def jS:Shape:=⟨80,[(6,.ptr 0 0 0),(7,.val false .int)],[(0,.cells [.val false .u64,.val false .u64,.val false .u64,.val false .u64,.val false .u64,.val false .u64,.val false .u64,.val false .u64,.val false .bool])],0,true⟩
abbrev eV:Type:=((Unit)×(Int)×Unit)×(((UInt64)×(UInt64)×(UInt64)×(UInt64)×(UInt64)×(UInt64)×(UInt64)×(UInt64)×(Bool)×Unit)×Unit)
def mY:Shape:=⟨80,[(6,.ptr 0 0 0)],[(0,.cells [.val false .u64,.val false .u64,.val false .u64,.val false .u64,.val false .u64,.val false .u64,.val false .u64,.val false .u64,.val false .bool])],0,true⟩
abbrev gj:Type:=((Unit)×Unit)×(((UInt64)×(UInt64)×(UInt64)×(UInt64)×(UInt64)×(UInt64)×(UInt64)×(UInt64)×(Bool)×Unit)×Unit)
def P8:SE->Option Shape:=fp [(0,mY)] (some jS)
def P9 (a0:Int) (a1:Int) (a2:List (UInt8)) (a8:Int) (c0_0:UInt64) (c0_1:UInt64) (c0_2:UInt64) (c0_3:UInt64) (c0_4:UInt64) (c0_5:UInt64) (c0_6:UInt64) (c0_7:UInt64) (c0_8:Bool):OT (Sum aZ aE):=
 let z0:Int:=Int.tdiv a1 (256:Int)
 let z1:Int:=Int.tdiv a1 (65536:Int)
 let z2:Int:=Int.tdiv a1 (16777216:Int)
 let z3:List UInt8:=a2++ [i2b a1,i2b z0,i2b z1,i2b z2,i2b a8]
 let z4:List UInt8:=aAC [(115:UInt8),(105:UInt8),(103:UInt8),(105:UInt8),(108:UInt8),(45:UInt8),(103:UInt8),(101:UInt8),(110:UInt8),(101:UInt8),(114:UInt8),(97:UInt8),(116:UInt8),(111:UInt8),(114:UInt8),(115:UInt8)] (64:Int) z3
 let z5:aa:=aqY a0 z4
 let z6:(aa×aa×Bool)×Int:=aqG a0 (aqE (ofP (pS a0) z5))
 let z7:=z6.fst
 let z8:=z7.snd
 let z9:=z8.snd
 let z10:=z7.fst
 let z11:=z8.fst
 let z12:Bool:=inR (a8+(1:Int))
 (.br (decide (a8<(256:Int)))
 (gd [oc ((a2,()),()),true&&inR z0,true&&inR z1,true&&inR z2,decide ((List.length a2+5)*1<=140737488355328),IA (([(115:UInt8),(105:UInt8),(103:UInt8),(105:UInt8),(108:UInt8),(45:UInt8),(103:UInt8),(101:UInt8),(110:UInt8),(101:UInt8),(114:UInt8),(97:UInt8),(116:UInt8),(111:UInt8),(114:UInt8),(115:UInt8)],(64:Int),z3,()),()),vA ((a0,z4,()),()),m7 ((a0,z5,()),())] (.br (z6.snd==(0:Int))
  (.br (!z9)
   (.ok (.inr ⟨(.ret,jS),(((),((0:Int),())),((z10.w0,(z10.w1,(z10.w2,(z10.w3,(z11.w0,(z11.w1,(z11.w2,(z11.w3,(z9,()))))))))),()))⟩))
   (gd [z12] (.ok (.inl ((a0,(a1,(a2,((),(a8+(1:Int),()))))),((c0_0,(c0_1,(c0_2,(c0_3,(c0_4,(c0_5,(c0_6,(c0_7,(c0_8,()))))))))),()))))))
  (gd [z12] (.ok (.inl ((a0,(a1,(a2,((),(a8+(1:Int),()))))),((c0_0,(c0_1,(c0_2,(c0_3,(c0_4,(c0_5,(c0_6,(c0_7,(c0_8,()))))))))),())))))))
 (.ok (.inr ⟨(.exit 0,mY),(((),()),((c0_0,(c0_1,(c0_2,(c0_3,(c0_4,(c0_5,(c0_6,(c0_7,(c0_8,()))))))))),()))⟩)))
def ju (s:aZ):OT (Sum aZ aE):=P9 (s.1.1) (s.1.2.1) (s.1.2.2.1) (s.1.2.2.2.2.1) (s.2.1.1) (s.2.1.2.1) (s.2.1.2.2.1) (s.2.1.2.2.2.1) (s.2.1.2.2.2.2.1) (s.2.1.2.2.2.2.2.1) (s.2.1.2.2.2.2.2.2.1) (s.2.1.2.2.2.2.2.2.2.1) (s.2.1.2.2.2.2.2.2.2.2.1)
theorem amS (s:aZ) (Q:Sum aZ aE->Prop):wps te qc av 1000 (aV (aj Tryz.f30) 0) (oj.inj s) (bV oj P8 (Q:Sum oj.T aE->Prop))=(ju s).wpR Q:=by kernel_rfl
def ol (g0_r:aZ->eV) (c0_r:aZ->Bool) (g0_0:aZ->gj) (s:aZ):OT aE:=(.br (c0_r s) (.ok ⟨(.ret,jS),g0_r s⟩) (.ok ⟨(.exit 0,mY),g0_0 s⟩))
def gh:az:=⟨[.val true (.prod .elem (.prod .elem .bool)),.val false .int],[],false⟩
def JV:SV->Option az:=λ_=>some gh
def JX (ok0:aZ->Bool) (g0_r:aZ->eV) (c0_r:aZ->Bool) (g0_0:aZ->gj) (a0:Int) (a1:Int) (a2:List (UInt8)):OT fa.Y:=
 let z0:aa:= {w0:=0,w1:=0,w2:=0,w3:=0}
 let z1:aa×aa×Bool:=(z0,z0,false)
 let z2:(Int×Int×List UInt8×PUnit×Int×PUnit)×(UInt64×UInt64×UInt64×UInt64×UInt64×UInt64×UInt64×UInt64×Bool×PUnit)×PUnit:=((a0,a1,a2,(),(0:Int),()),((0:UInt64),(0:UInt64),(0:UInt64),(0:UInt64),(0:UInt64),(0:UInt64),(0:UInt64),(0:UInt64),false,()),())
 let z3:(PUnit×Int×PUnit)×(UInt64×UInt64×UInt64×UInt64×UInt64×UInt64×UInt64×UInt64×Bool×PUnit)×PUnit:=g0_r z2
 let z4:=z3.snd.fst
 let z5:=z4.snd
 let z6:=z5.snd
 let z7:=z6.snd
 let z8:=z7.snd
 let z9:=z8.snd
 let z10:=z9.snd
 let z11:=z10.snd
 (.br (decide (a0<(0:Int)))
 (.ok ⟨gh,((z1,((40:Int),())),())⟩)
 (.br (decide ((3:Int)<a0))
  (.ok ⟨gh,((z1,((40:Int),())),())⟩)
  (.br (decide (a1<(0:Int)))
   (.ok ⟨gh,((z1,((60:Int),())),())⟩)
   (.br (decide ((2147483647:Int)<a1))
    (.ok ⟨gh,((z1,((60:Int),())),())⟩)
    (gd [ok0 z2] (.br (c0_r z2)
     (.ok ⟨gh,((({w0:=z4.fst,w1:=z5.fst,w2:=z6.fst,w3:=z7.fst},{w0:=z8.fst,w1:=z9.fst,w2:=z10.fst,w3:=z11.fst},z11.snd.fst),(z3.fst.snd.fst,())),())⟩)
     (.ok ⟨gh,((z1,((90:Int),())),())⟩)))))))
theorem ate (ok0:aZ->Bool) (g0_r:aZ->eV) (c0_r:aZ->Bool) (g0_0:aZ->gj) (x:vw) (Q:fa.Y->Prop):wpf te qc (aO 0 (cb oj 0 ok0 (ol g0_r c0_r g0_0)) av) 1000 Tryz.f30 (fa.inp.inj x).tm (fa.inp.inj x).hp (fnK fa JV Q) (λ_ _=>False)=(JX ok0 g0_r c0_r g0_0 (x.1.1) (x.1.2.1) (x.1.2.2.1)).wpR Q:=by kernel_rfl
theorem Xz (ok0:aZ->Bool) (g0_r:aZ->eV) (c0_r:aZ->Bool) (g0_0:aZ->gj) (h0:∀ s:aZ,ok0 s=true->∃ m e,al (ju) m s=some e/\(ol g0_r c0_r g0_0 s).run=some e) (pre:vw->Bool) (F:vw->OT fa.Y) (hF:∀ (x:vw) oy,pre x=true->(F x).run=some oy->(JX ok0 g0_r c0_r g0_0 (x.1.1) (x.1.2.1) (x.1.2.2.1)).run=some oy):ac Tryz.prog 30 (fa.aH pre F):=
 aD aq nQ Df (f:=30) (fn:=Tryz.f30) (c:=aj Tryz.f30) (by kernel_rfl) (by kernel_rfl) (by kernel_rfl) (S:=fa) (k:=0) (by kernel_rfl) (λR hR=>(aB (c:=(aj Tryz.f30)) (by kernel_rfl) (id:=0) (by kernel_rfl) (aS aq nQ Df (sh:=oj) hR (xs:=P8) (aC (by kernel_rfl) (by kernel_rfl) hR) aK af (n:=1000) (T:=ju) (λs Q=>amS s Q) (ok:=ok0) (f:=ol g0_r c0_r g0_0) h0) af)) (n:=1000) (sel:=JV) (λv o h=>by cases h;rfl) (pre:=pre) (F:=F) (T:=λx=>JX ok0 g0_r c0_r g0_0 (x.1.1) (x.1.2.1) (x.1.2.2.1)) (λx Q=>ate ok0 g0_r c0_r g0_0 x Q) hF
theorem IW {i:Int} (hi:0<=i) (n:Nat) (hn:n<=64) (d:Nat) (hd:d=2^n):avt i (n:Int)=Int.tdiv i (d:Int):=by
 subst hd
 unfold avt
 rw [Int.toNat_natCast,Nat.min_eq_left hn,Int.fdiv_eq_ediv_of_nonneg _ (Int.le_of_lt (Int.pow_pos (by decide))),Int.tdiv_eq_ediv_of_nonneg hi]
 simp
theorem aCs {i:Int} (hi:0<=i) (b:List UInt8) (k:Int):b++ [i2b i,i2b (Int.tdiv i 256),i2b (Int.tdiv i 65536),i2b (Int.tdiv i 16777216),i2b k]=Vz b i++ [i2b k]:=by
 have h0:avt i (8*((0:Nat):Int))=i:=by rw [show (8*((0:Nat):Int))=((0:Nat):Int) from rfl,IW hi 0 (by decide) 1 rfl];exact Int.tdiv_one i
 have h1:avt i (8*((1:Nat):Int))=Int.tdiv i 256:=IW hi 8 (by decide) 256 rfl
 have h2:avt i (8*((2:Nat):Int))=Int.tdiv i 65536:=IW hi 16 (by decide) 65536 rfl
 have h3:avt i (8*((3:Nat):Int))=Int.tdiv i 16777216:=IW hi 24 (by decide) 16777216 rfl
 simp only [Vz,upto,h0,h1,h2,h3,List.append_assoc,List.cons_append,List.nil_append]
def JW (s:aZ):Bool:=ao s.1.1&&decide (0<=s.1.2.1/\s.1.2.1<=2147483647/\s.1.2.2.2.2.1=0/\s.1.2.2.1.length<=100000000000)
def vv (s:aZ):eV:=(((),(aH1 (WK s.1.1 (Vz s.1.2.2.1 s.1.2.1) 256 0)).2,()),(auF (aH1 (WK s.1.1 (Vz s.1.2.2.1 s.1.2.1) 256 0)).1,()))
def A0 (s:aZ):Bool:=(WK s.1.1 (Vz s.1.2.2.1 s.1.2.1) 256 0).isSome
def Ed (s:aZ):gj:=(((),()),(s.2.1,()))
def aKX (z:abx) (o:Option Pt):aE:=match o with
 |some p=>⟨(.ret,jS),((((),(0:Int),()),(auF p,())):eV)⟩
 |none=>⟨(.exit 0,mY),((((),()),(z,())):gj)⟩
abbrev aIy:Type:=OT (Sum aZ aE)
def ac1 (c i:Int) (b:List UInt8) (z:abx) (k:Int):aZ:=((c,i,b,(),k,()),(z,()))
def aGm (c i:Int) (b:List UInt8) (z:abx) (k:Int):aIy:=gd [inR (k+1)] (.ok (.inl (ac1 c i b z (k+1))))
def aGl (d:Pt×Int) (g:aIy):aIy:=.br (d.2==(0:Int)) (.br (!d.1.2.2) (.ok (.inr ⟨(.ret,jS),((((),(0:Int),()),(auF d.1,())):eV)⟩)) g) g
theorem atf {c i:Int} {b:List UInt8} {z:abx} (hs:ao c=true) (h0:0<=i) (hi:i<=2147483647) (hl:b.length<=100000000000) {k:Nat} (hk:k<256):
 (ju (ac1 c i b z (k:Int))).run=(aGl (ax9 c (Vz b i) k) (aGm c i b z (k:Int))).run:=by
 have hd:∀ d:Int,0<d->inR (Int.tdiv i d)=true:=λd hd=>by
  have h1:=Int.tdiv_eq_ediv_of_nonneg h0 (b:=d)
  have h2:i/d<=i:=Int.ediv_le_self _ h0
  have h3:0<=i/d:=Int.ediv_nonneg h0 (Int.le_of_lt hd)
  exact aI (by omega)
 simp only [ju,P9,ac1]
 rw [aCs h0,aAB (by decide)]
 refine (OT.ap (decide_eq_true (by omega))).trans ((ah ?_).trans ?_)
 ·simp only [List.all_cons,List.all_nil,Bool.and_true,Bool.and_eq_true,Bool.true_and]
  refine ⟨decide_eq_true (show b.length<=_ by omega),hd _ (by decide),hd _ (by decide),hd _ (by decide),decide_eq_true (by omega),?_,?_,?_⟩
  ·unfold IA
   dsimp only
   rw [List.length_append,zu]
   exact decide_eq_true (by simp only [List.length_cons,List.length_nil];omega)
  ·unfold vA
   dsimp only
   rw [hs,LK.2 (by rw [Pw];rfl)]
   rfl
  ·unfold m7
   exact hs
 ·unfold aGl aGm ac1 ax9 ofP pS ae3
  rfl
theorem ajy {c i:Int} {b:List UInt8} {z:abx} (hs:ao c=true) (h0:0<=i) (hi:i<=2147483647) (hl:b.length<=100000000000):∀ (n k:Nat),n+k=256->∃ m,al ju m (ac1 c i b z (k:Int))=some (aKX z (WK c (Vz b i) n k))
 |0,k,hk=>⟨1,aM (OT.ar (decide_eq_false (by dsimp only [ac1];omega)))⟩
 |n+1,k,hk=>by
  obtain ⟨m,hm⟩:=ajy (z:=z) hs h0 hi hl n (k+1) (by omega)
  have hU:=atf (z:=z) hs h0 hi hl (k:=k) (by omega)
  have hgo:(aGm c i b z (k:Int)).run=some (.inl (ac1 c i b z ((k+1:Nat):Int))):=
   (ah (by simp only [List.all_cons,List.all_nil,Bool.and_true];exact aI (by omega))).trans rfl
  unfold WK
  generalize ax9 c (Vz b i) k=d at hU
  unfold aGl at hU
  rcases (Bool.eq_false_or_eq_true (d.2==(0:Int))).symm with hd|hd
  ·have e:apy d=false:=by unfold apy;rw [hd];rfl
   rw [e]
   exact ⟨m+1,aG (hU.trans ((OT.ar hd).trans hgo)) hm⟩
  ·rcases (Bool.eq_false_or_eq_true (!d.1.2.2)).symm with hq|hq
   ·have e:apy d=false:=by unfold apy;rw [hd];exact hq
    rw [e]
    exact ⟨m+1,aG (hU.trans ((OT.ap hd).trans ((OT.ar hq).trans hgo))) hm⟩
   ·have e:apy d=true:=by unfold apy;rw [hd];exact hq
    rw [e]
    exact ⟨1,aM (hU.trans ((OT.ap hd).trans ((OT.ap hq).trans rfl)))⟩
theorem amU:∀ s:aZ,JW s=true->∃ m e,al ju m s=some e/\(ol vv A0 Ed s).run=some e:=by
 rintro ⟨⟨c,i,b,⟨⟩,k,⟨⟩⟩,⟨z,⟨⟩⟩⟩ h
 obtain ⟨hs,h⟩:=(Bool.and_eq_true _ _).mp h
 have h':=of_decide_eq_true h
 dsimp only at h' hs
 obtain ⟨h0,hi,rfl,hl⟩:=h'
 obtain ⟨m,hm⟩:=ajy (z:=z) hs h0 hi hl 256 0 rfl
 refine ⟨m,_,hm,?_⟩
 unfold ol vv A0 Ed
 dsimp only
 generalize WK c (Vz b i) 256 0=o
 cases o with
 |none=>rfl
 |some p=>rfl
def yD (x:vw):Bool:=decide (x.1.2.2.1.length<=100000000000)
def XA (x:vw):OT fa.Y:=.ok ⟨gh,(((Cf x.1.1 x.1.2.1 x.1.2.2.1).1,((Cf x.1.1 x.1.2.1 x.1.2.2.1).2,())),())⟩
theorem amT:ac Tryz.prog 30 (fa.aH yD XA):=Xz JW vv A0 Ed amU _ _ λx oy hp ho=>by
 rw [<-ho]
 clear ho
 obtain ⟨⟨c,i,b,⟨⟩⟩,⟨⟩⟩:=x
 have hl:b.length<=100000000000:=of_decide_eq_true hp
 show _=some (⟨gh,(((Cf c i b).1,((Cf c i b).2,())),())⟩:fa.Y)
 rcases (Bool.eq_false_or_eq_true (decide (c<0))).symm with hc|hc
 ·refine (OT.ar hc).trans ?_
  rcases (Bool.eq_false_or_eq_true (decide (3<c))).symm with hd|hd
  ·have hs:ao c=true:=by rw [S9,hc,hd];rfl
   refine (OT.ar hd).trans ?_
   rcases (Bool.eq_false_or_eq_true (decide (i<0))).symm with h1|h1
   ·refine (OT.ar h1).trans ?_
    rcases (Bool.eq_false_or_eq_true (decide (2147483647<i))).symm with h2|h2
    ·rw [show Cf c i b=aH1 (WK c (Vz b i) 256 0) from by unfold Cf;rw [hs,h1,h2];rfl]
     refine (OT.ar h2).trans ((ah ?_).trans ?_)
     ·simp only [List.all_cons,List.all_nil,Bool.and_true]
      have g1:=of_decide_eq_false h1
      have g2:=of_decide_eq_false h2
      exact (Bool.and_eq_true _ _).mpr ⟨hs,decide_eq_true ⟨show 0<=i by omega,show i<=2147483647 by omega,rfl,hl⟩⟩
     ·unfold A0 vv
      dsimp only
      generalize WK c (Vz b i) 256 0=o
      cases o with
      |none=>rfl
      |some p=>rfl
    ·rw [show Cf c i b=(fW,60) from by unfold Cf;rw [hs,h1,h2];rfl]
     exact OT.ap h2
   ·rw [show Cf c i b=(fW,60) from by unfold Cf;rw [hs,h1];rfl]
    exact OT.ap h1
  ·have hs:ao c=false:=by rw [S9,hd];simp
   rw [show Cf c i b=(fW,40) from by unfold Cf;rw [hs];rfl]
   exact OT.ap hd
 ·have hs:ao c=false:=by rw [S9,hc];rfl
  rw [show Cf c i b=(fW,40) from by unfold Cf;rw [hs];rfl]
  exact OT.ap hc
def sK:cf:=(fa.aH yD XA)
theorem Tz:ac Tryz.prog 30 sK:=amT
theorem Tx:aF sK:=aA
def CS:Env:=ay 30 sK qc
theorem Ht:aQ Tryz.prog CS:=ag Tz nQ
theorem PE:ax CS:=ae Tx ye
theorem Wk:aU Tryz.prog te CS:=aJ follows aq Ht PE
def dX:aw:=⟨[.val false .int,.val false .int,.val false (.list .u8)],[],true,0,false⟩
abbrev wl:Type:=((Int)×(Int)×(List (UInt8))×Unit)×(Unit)
def gY:az:=⟨[.val false .bool],[],false⟩
def LM:SV->Option az:=λ_=>some gY
def tD (a0:Int) (a1:Int) (a2:List (UInt8)):OT dX.Y:=
 let z0:Int:=(↑(List.length a2):Int)
 let z1:Bool:=D0 ((a2,()),())
 let z2:List UInt8:=yv a2
 let z3:List UInt8:=List.take (Int.toNat (z0-(0:Int))) (List.drop 0 z2)
 let z4:(aa×aa×Bool)×Int:=Cf a0 a1 z3
 let z5:=z4.fst
 let z6:=z5.fst
 let z7:(aa×aa×Bool)×Int:=Cf a0 a1 a2
 let z8:=z7.fst
 let z9:=z8.fst
 let z10:=z5.snd
 let z11:=z10.fst
 let z12:=z8.snd
 let z13:=z12.fst
 (.br (decide ((1000:Int)<z0))
 (.ok ⟨gY,((true,()),())⟩)
 (gd [z1,dw (0:Int) z0 (List.length z2),yT ((a0,a1,z3,()),()),yD ((a0,a1,a2,()),())] (.br (z6.w0==z9.w0&&(z6.w1==z9.w1&&(z6.w2==z9.w2&&(z6.w3==z9.w3&&true)))&&(z11.w0==z13.w0&&(z11.w1==z13.w1&&(z11.w2==z13.w2&&(z11.w3==z13.w3&&true)))&&(z10.snd==z12.snd&&true)))
  (.br (z4.snd==z7.snd)
   (gd [z1,Aw ((z2,z2,()),())] (.ok ⟨gY,((decide (z2=z2),()),())⟩))
   (.ok ⟨gY,((false,()),())⟩))
  (.ok ⟨gY,((false,()),())⟩))))
theorem avn (x:wl) (Q:dX.Y->Prop):wpf te CS av 1000 Tryz.f4 (dX.inp.inj x).tm (dX.inp.inj x).hp (fnK dX LM Q) (λ_ _=>False)=(tD (x.1.1) (x.1.2.1) (x.1.2.2.1)).wpR Q:=by kernel_rfl
theorem Zv (pre:wl->Bool) (F:wl->OT dX.Y) (hF:∀ (x:wl) oy,pre x=true->(F x).run=some oy->(tD (x.1.1) (x.1.2.1) (x.1.2.2.1)).run=some oy):ac Tryz.prog 4 (dX.aH pre F):=
 aD aq Ht Wk (f:=4) (fn:=Tryz.f4) (c:=aj Tryz.f4) (by kernel_rfl) (by kernel_rfl) (by kernel_rfl) (S:=dX) (k:=0) (by kernel_rfl) (λR hR=>af) (n:=1000) (sel:=LM) (λv o h=>by cases h;rfl) (pre:=pre) (F:=F) (T:=λx=>tD (x.1.1) (x.1.2.1) (x.1.2.2.1)) (λx Q=>avn x Q) hF
theorem ajg (b:List UInt8):∀ k,∃ r,upto (λk l=>l++ [i2b (201+(k:Int))]) b k=b++r/\r.length=k
 |0=>⟨[],by simp [upto],rfl⟩
 |k+1=>by
  obtain ⟨r,h,hl⟩:=ajg b k
  exact ⟨r++ [i2b (201+(k:Int))],by simp only [upto,h,List.append_assoc],by simp [hl]⟩
theorem asG (b:List UInt8):(yv b).take b.length=b/\(yv b).length=b.length+8:=by
 obtain ⟨r,h,hl⟩:=ajg b 8
 rw [show yv b=b++r from h]
 exact ⟨List.take_left,by rw [List.length_append,hl]⟩
def zi (_:wl):Bool:=true
def Zw (_:wl):OT dX.Y:=.ok ⟨gY,((true,()),())⟩
theorem aoA:ac Tryz.prog 4 (dX.aH zi Zw):=Zv _ _ λx oy hp ho=>by
 rw [<-ho]
 clear ho
 obtain ⟨⟨c,i,b,⟨⟩⟩,⟨⟩⟩:=x
 show (tD c i b).run=some (⟨gY,((true,()),())⟩:dX.Y)
 by_cases h:(1000:Int)<(b.length:Int)
 ·exact (OT.ap (decide_eq_true h)).trans rfl
 have hl:b.length<=1000:=by omega
 obtain ⟨h1,h2⟩:=asG b
 have e:List.take (((b.length:Int)-0).toNat) (List.drop 0 (yv b))=b:=by
  rw [List.drop_zero,Int.sub_zero,Int.toNat_natCast,h1]
 unfold tD
 dsimp only
 rw [e]
 generalize Cf c i b=d
 refine (OT.ar (decide_eq_false h)).trans ((ah ?_).trans ((OT.ap ?_).trans ((OT.ap (beq_self_eq_true d.2)).trans ((ah ?_).trans ?_))))
 ·simp only [List.all_cons,List.all_nil,Bool.and_true,Bool.and_eq_true]
  refine ⟨decide_eq_true (show b.length<=_ by omega),?_,decide_eq_true (show b.length<=_ by omega),decide_eq_true (show b.length<=_ by omega)⟩
  rw [h2]
  unfold dw
  simp only [Bool.and_eq_true,decide_eq_true_eq]
  omega
 ·simp only [beq_self_eq_true,Bool.and_self]
 ·simp only [List.all_cons,List.all_nil,Bool.and_true,Bool.and_eq_true]
  exact ⟨decide_eq_true (show b.length<=_ by omega),by unfold Aw;dsimp only;rw [h2];exact decide_eq_true (by omega)⟩
 ·exact congrArg (λt:Bool=>some (⟨gY,((t,()),())⟩:dX.Y)) (decide_eq_true rfl)
def Zu:cf:=(dX.aH zi Zw)
theorem UZ:ac Tryz.prog 4 Zu:=aoA
end Go.Proofs.YtohjofabochgfaaGreat
