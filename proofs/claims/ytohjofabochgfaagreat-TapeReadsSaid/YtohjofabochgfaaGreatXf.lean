/- A symbolic machine for Go code over plain data, and functions of the program as it shows them. No statement is proved in this file. -/
import Derived.KernelRfl
import Derived.Test.YtohjofabochgfaaGreatXe
set_option linter.unusedSimpArgs false
set_option linter.unusedVariables false
set_option linter.unusedSectionVars false

namespace Go.Proofs.YtohjofabochgfaaGreat
open Sx Go
set_option maxRecDepth 100000
def jO:ap:=⟨[.val true .elem,.val true .elem,.val true .elem],[],true,0,false⟩
abbrev Pa:Type:=((ag)×(ag)×(ag)×Unit)×(Unit)
def y5:Shape:=⟨56,[(5,.ptr 0 0 0),(6,.ptr 1 0 0),(9,.own 2),(10,.ptr 3 0 0),(11,.val false .int)],[(0,.row .u64),(1,.row .u64),(2,.row .int),(3,.row .u64)],0,true⟩
abbrev cq:Type:=((Unit)×(Unit)×(Unit)×(Unit)×(Int)×Unit)×((List (UInt64))×(List (UInt64))×(List (Int))×(List (UInt64))×Unit)
def tP:Shape:=⟨56,[(6,.ptr 0 0 0),(10,.ptr 1 0 0)],[(0,.row .u64),(1,.row .u64)],0,true⟩
abbrev iY:Type:=((Unit)×(Unit)×Unit)×((List (UInt64))×(List (UInt64))×Unit)
def aiw:SE->Option Shape:=gI [(0,tP)] none
def Sl (a11:Int) (c0:List (UInt64)) (c1:List (UInt64)) (c2:List (Int)) (c3:List (UInt64)):OT (Sum cq aI):=
 let z0:Nat:=List.length c3
 let z1:Nat:=List.length c2
 let z2:Nat:=Int.toNat a11
 let z3:ag×UInt64:=aT {w0:=List.getD c3 0 0,w1:=List.getD c3 1 0,w2:=List.getD c3 2 0,w3:=List.getD c3 3 0} (0:UInt64)
 let z4:Bool:=decide (4<=List.length c0)
 let z5:Bool:=decide ((4/1:Nat)+0<=z0)
 let z6:Bool:=inR (a11-(1:Int))
 let z7:=z3.fst
 let z8:=z7.w0
 let z9:=z7.w1
 let z10:=z7.w2
 let z11:=z7.w3
 let z12:ag:= {w0:=z8|||(1:UInt64),w1:=z9,w2:=z10,w3:=z11}
 let z13:ag:= {w0:=List.getD c0 0 0,w1:=List.getD c0 1 0,w2:=List.getD c0 2 0,w3:=List.getD c0 3 0}
 let z14:=(ef z12 z13).fst
 let z15:List UInt64:=List.set (List.set (List.set (List.set c3 0 z14.w0) 1 z14.w1) 2 z14.w2) 3 z14.w3
 let z16:Nat:=ag.nat z13
 let z17:Bool:=decide ((4/1:Nat)+0<=z0)
 let z18:=(ef z7 z13).fst
 let z19:List UInt64:=List.set (List.set (List.set (List.set c3 0 z18.w0) 1 z18.w1) 2 z18.w2) 3 z18.w3
 (.br (decide ((0:Int)<=a11))
 (gd [decide (4<=z0),inB a11 z1,decide (z2<z1)] (.br (List.getD c2 z2 (0:Int)==(1:Int))
  (.br (z3.snd==(1:UInt64))
   (gd [z4,z5,z6] (.ok (.inl (((),((),((),((),(a11-(1:Int),()))))),(c0,(c1,(c2,(z15,()))))))))
   (gd [z4] (.br (!Nat.blt (ag.nat z12) z16)
    (gd [z4,z5,z6] (.ok (.inl (((),((),((),((),(a11-(1:Int),()))))),(c0,(c1,(c2,(z15,()))))))))
    (gd [decide ((4/1:Nat)+0<=z0),z6] (.ok (.inl (((),((),((),((),(a11-(1:Int),()))))),(c0,(c1,(c2,(List.set (List.set (List.set (List.set c3 0 (z8|||(1:UInt64))) 1 z9) 2 z10) 3 z11,())))))))))))
  (.br (z3.snd==(1:UInt64))
   (gd [z4,z17,z6] (.ok (.inl (((),((),((),((),(a11-(1:Int),()))))),(c0,(c1,(c2,(z19,()))))))))
   (gd [z4] (.br (!Nat.blt (ag.nat z7) z16)
    (gd [z4,z17,z6] (.ok (.inl (((),((),((),((),(a11-(1:Int),()))))),(c0,(c1,(c2,(z19,()))))))))
    (gd [decide ((4/1:Nat)+0<=z0),z6] (.ok (.inl (((),((),((),((),(a11-(1:Int),()))))),(c0,(c1,(c2,(List.set (List.set (List.set (List.set c3 0 z8) 1 z9) 2 z10) 3 z11,())))))))))))))
 (.ok (.inr ⟨(.exit 0,tP),(((),((),())),(c1,(c3,())))⟩)))
def tQ (s:cq):OT (Sum cq aI):=Sl (s.1.2.2.2.2.1) (s.2.1) (s.2.2.1) (s.2.2.2.1) (s.2.2.2.2.1)
theorem ayM (s:cq) (Q:Sum cq aI->Prop):wps te u5 ax 1000 (bg (ak Tryz.f107) 0) (y5.inj s) (cz y5 aiw (Q:Sum y5.T aI->Prop))=(tQ s).wpR Q:=by kernel_rfl
def GG (g0_0:cq->iY) (s:cq):OT aI:=(.ok ⟨(.exit 0,tP),g0_0 s⟩)
def tO:av:=⟨[.val true .elem,.val false .int],[],false⟩
def W3:SV->Option av:=λ_=>some tO
def CG (ok0:cq->Bool) (g0_0:cq->iY) (a0:ag) (a1:ag) (a2:ag):OT jO.Y:=
 let z0:(PUnit×PUnit×PUnit×PUnit×Int×PUnit)×List UInt64×List UInt64×List Int×List UInt64×PUnit:=(((),(),(),(),(511:Int),()),[a2.w0,a2.w1,a2.w2,a2.w3],[(0:UInt64),(0:UInt64),(0:UInt64),(0:UInt64)],ob a0++ob a1,[(0:UInt64),(0:UInt64),(0:UInt64),(0:UInt64)],())
 let z1:=(g0_0 z0).snd
 let z2:=z1.snd.fst
 let z3:=z1.fst
 let z4:List UInt64:=lay z3 z2 4 (0:UInt64)
 (.br (a2.w0==(0:UInt64)&&(a2.w1==(0:UInt64)&&(a2.w2==(0:UInt64)&&(a2.w3==(0:UInt64)&&true))))
 (.ok ⟨tO,(({w0:=0,w1:=0,w2:=0,w3:=0},((10:Int),())),())⟩)
 (gd [ok0 z0,decide (4<=List.length z2),decide ((4/1:Nat)+0<=List.length z3),decide (4<=List.length z4)] (.ok ⟨tO,(({w0:=List.getD z4 0 0,w1:=List.getD z4 1 0,w2:=List.getD z4 2 0,w3:=List.getD z4 3 0},((0:Int),())),())⟩)))
theorem aEd (ok0:cq->Bool) (g0_0:cq->iY) (x:Pa) (Q:jO.Y->Prop):wpf te u5 (be 0 (cE y5 0 ok0 (GG g0_0)) ax) 1000 Tryz.f107 (jO.inp.inj x).tm (jO.inp.inj x).hp (fnK jO W3 Q) (λ_ _=>False)=(CG ok0 g0_0 (x.1.1) (x.1.2.1) (x.1.2.2.1)).wpR Q:=by kernel_rfl
theorem alO (ok0:cq->Bool) (g0_0:cq->iY) (h0:∀ s:cq,ok0 s=true->∃ m e,aA (tQ) m s=some e/\(GG g0_0 s).run=some e) (pre:Pa->Bool) (F:Pa->OT jO.Y) (hF:∀ (x:Pa) oy,pre x=true->(F x).run=some oy->(CG ok0 g0_0 (x.1.1) (x.1.2.1) (x.1.2.2.1)).run=some oy):aa Tryz.prog 107 (jO.aD pre F):=
 aB al pW FO (f:=107) (fn:=Tryz.f107) (c:=ak Tryz.f107) (by kernel_rfl) (by kernel_rfl) (by kernel_rfl) (S:=jO) (k:=0) (by kernel_rfl) (λR hR=>(aG (c:=(ak Tryz.f107)) (by kernel_rfl) (id:=0) (by kernel_rfl) (ba al pW FO (sh:=y5) hR (xs:=aiw) (aF (by kernel_rfl) (by kernel_rfl) hR) aN ae (n:=1000) (T:=tQ) (λs Q=>ayM s Q) (ok:=ok0) (f:=GG g0_0) h0) ae)) (n:=1000) (sel:=W3) (λv o h=>by cases h;rfl) (pre:=pre) (F:=F) (T:=λx=>CG ok0 g0_0 (x.1.1) (x.1.2.1) (x.1.2.2.1)) (λx Q=>aEd ok0 g0_0 x Q) hF
def aer (x:Int):UInt64:=cond (x==1) 1 0
def yB (m:ag) (L:List Int) (k:Nat) (r:ag):ag:=Gz m r (aer (L.getD (511-k) 0))
theorem Rh (r:ag) (b:UInt64):((aT r b).2==1)= !((aT r b).2==0):=by
 have h:(aT r b).2.toNat<=1:=HS _
 rcases (show (aT r b).2.toNat=0\/(aT r b).2.toNat=1 by omega) with e|e
 ·have e2:(aT r b).2=0:=UInt64.toNat_inj.1 e
  rw [e2];rfl
 ·have e2:(aT r b).2=1:=UInt64.toNat_inj.1 e
  rw [e2];rfl
theorem yl (r:ag):(⟨(aT r 0).1.w0|||1,(aT r 0).1.w1,(aT r 0).1.w2,(aT r 0).1.w3⟩:ag)=(aT r 1).1:=by
 unfold aT
 dsimp only
 rw [asu]
def GF (m:ag) (c1:List UInt64) (L:List Int) (i:Int) (r:ag):cq:=(((),(),(),(),i,()),(lst m,c1,L,lst r,()))
theorem alN (m r:ag) (c1:List UInt64) {L:List Int} (hL:L.length=512) {k:Nat} (hk:k<512):(tQ (GF m c1 L ((511:Int)-(k:Int)) r)).run=some (.inl (GF m c1 L ((511:Int)-((k+1:Nat):Int)) (yB m L k r))):=by
 have e0:(511:Int)-(k:Int)=((511-k:Nat):Int):=by omega
 have e1:(511:Int)-((k+1:Nat):Int)=((511-k:Nat):Int)-1:=by omega
 have hr:inR (((511-k:Nat):Int)-1)=true:=aL (by omega)
 rw [e1,e0]
 unfold yB
 show (Sl ((511-k:Nat):Int) (lst m) c1 L (lst r)).run=_
 unfold Sl
 simp only [Int.toNat_natCast]
 refine (OT.az (decide_eq_true (by omega))).trans ((aj ?_).trans ?_)
 ·simp only [List.all_cons,List.all_nil,Bool.and_true,Bool.and_eq_true]
  exact ⟨rfl,aM (by omega),decide_eq_true (by omega)⟩
 ·rcases (Bool.eq_false_or_eq_true (L.getD (511-k) 0==1)).symm with hb|hb
  ·have eb:aer (L.getD (511-k) 0)=0:=by unfold aer;rw [hb];rfl
   rw [eb]
   refine (OT.aq hb).trans ?_
   rcases (Bool.eq_false_or_eq_true ((aT r 0).2==0)).symm with g|g
   ·have e:Gz m r 0=(ef (aT r 0).1 m).1:=by unfold Gz;rw [g];rfl
    rw [e]
    exact (OT.az (b:=(aT r 0).2==1) (by rw [Rh,g];rfl)).trans ((aj (by rw [hr];rfl)).trans rfl)
   ·refine (OT.aq (b:=(aT r 0).2==1) (by rw [Rh,g];rfl)).trans ((aj rfl).trans ?_)
    rcases (Bool.eq_false_or_eq_true (ef (aT r 0).1 m).2).symm with u|u
    ·have e:Gz m r 0=(ef (aT r 0).1 m).1:=by unfold Gz;rw [g,u];rfl
     rw [e]
     exact (OT.az (b:= !(ef (aT r 0).1 m).2) (by rw [u];rfl)).trans ((aj (by rw [hr];rfl)).trans rfl)
    ·have e:Gz m r 0=(aT r 0).1:=by unfold Gz;rw [g,u];rfl
     rw [e]
     exact (OT.aq (b:= !(ef (aT r 0).1 m).2) (by rw [u];rfl)).trans ((aj (by rw [hr];rfl)).trans rfl)
  ·have eb:aer (L.getD (511-k) 0)=1:=by unfold aer;rw [hb];rfl
   rw [eb]
   refine (OT.az hb).trans ?_
   rcases (Bool.eq_false_or_eq_true ((aT r 1).2==0)).symm with g|g
   ·have e:Gz m r 1=(ef (aT r 1).1 m).1:=by unfold Gz;rw [g];rfl
    rw [e,<-yl]
    exact (OT.az (b:=(aT r 1).2==1) (by rw [Rh,g];rfl)).trans ((aj (by rw [hr];rfl)).trans rfl)
   ·refine (OT.aq (b:=(aT r 1).2==1) (by rw [Rh,g];rfl)).trans ((aj rfl).trans ?_)
    have u0:(ef ⟨(aT r 0).1.w0|||1,(aT r 0).1.w1,(aT r 0).1.w2,(aT r 0).1.w3⟩ m).2=(ef (aT r 1).1 m).2:=by rw [yl]
    rcases (Bool.eq_false_or_eq_true (ef (aT r 1).1 m).2).symm with u|u
    ·have e:Gz m r 1=(ef (aT r 1).1 m).1:=by unfold Gz;rw [g,u];rfl
     rw [e,<-yl]
     exact (OT.az (b:= !(ef ⟨(aT r 0).1.w0|||1,(aT r 0).1.w1,(aT r 0).1.w2,(aT r 0).1.w3⟩ m).2) (by rw [u0,u];rfl)).trans ((aj (by rw [hr];rfl)).trans rfl)
    ·have e:Gz m r 1=(aT r 1).1:=by unfold Gz;rw [g,u];rfl
     rw [e,<-yl]
     exact (OT.aq (b:= !(ef ⟨(aT r 0).1.w0|||1,(aT r 0).1.w1,(aT r 0).1.w2,(aT r 0).1.w3⟩ m).2) (by rw [u0,u];rfl)).trans ((aj (by rw [hr];rfl)).trans rfl)
def I2 (s:cq):Bool:=decide (s.1.2.2.2.2.1=511/\s.2.1.length=4/\s.2.2.2.1.length=512/\s.2.2.2.2.1.length=4)
def Sk (s:cq):iY:=(((),(),()),(s.2.2.1,lst (upto (yB (elemOf s.2.1) s.2.2.2.1) (elemOf s.2.2.2.2.1) 512),()))
theorem ayO:∀ s:cq,I2 s=true->∃ m e,aA tQ m s=some e/\(GG Sk s).run=some e:=by
 rintro ⟨⟨⟨⟩,⟨⟩,⟨⟩,⟨⟩,i,⟨⟩⟩,⟨c0,c1,L,c3,⟨⟩⟩⟩ h
 have h':=of_decide_eq_true h
 dsimp only at h'
 obtain ⟨rfl,h0,hL,h3⟩:=h'
 obtain ⟨m,rfl⟩:∃ a,c0=lst a:=⟨elemOf c0,(aP h0).symm⟩
 obtain ⟨r,rfl⟩:∃ a,c3=lst a:=⟨elemOf c3,(aP h3).symm⟩
 have:=(aR (T:=tQ) (λk r=>GF m c1 L ((511:Int)-(k:Int)) r) (yB m L)
  (λr=>(⟨(.exit 0,tP),(((),(),()),(c1,lst r,()))⟩:aI)) 512 r (λ_ _=>True) trivial (λk r hk _=>⟨alN m r c1 hL hk,trivial⟩) (λr _=> ?_)).1
 ·obtain ⟨n,hn⟩:=this
  exact ⟨n,_,hn,rfl⟩
 ·exact OT.aq (decide_eq_false (by dsimp only [GF];omega))
theorem Hu {α:Type} {f g:Nat->α->α} (x:α):∀ n,(∀ k,k<n->f k=g k)->upto f x n=upto g x n
 |0,_=>rfl
 |n+1,h=>by
  show f n (upto f x n)=g n (upto g x n)
  rw [Hu x n λk hk=>h k (by omega),h n (by omega)]
theorem Ve {α:Type} (f:Nat->α->α) (x:α) (a:Nat):∀ n,upto f x (a+n)=upto (λk=>f (a+k)) (upto f x a) n
 |0=>rfl
 |n+1=>by
  show f (a+n) (upto f x (a+n))=f (a+n) (upto (λk=>f (a+k)) (upto f x a) n)
  rw [Ve f x a n]
theorem aBu (a:ag) {i:Nat} (h:i<256):aer ((ob a).getD i 0)=MU a i:=by
 have h1:=aj1 a h
 rw [auU a h]
 unfold aer
 rcases (show a.nat/2^i%2=0\/a.nat/2^i%2=1 by omega) with e|e
 ·rw [e] at h1⊢
  exact (UInt64.toNat_inj.1 h1).symm
 ·rw [e] at h1⊢
  exact (UInt64.toNat_inj.1 h1).symm
theorem aDV (m lo hi:ag):upto (yB m (ob lo++ob hi)) ⟨0,0,0,0⟩ 512=abH m lo (abH m hi ⟨0,0,0,0⟩ 256) 256:=by
 have l0:=sB lo
 have a1:upto (yB m (ob lo++ob hi)) ⟨0,0,0,0⟩ 256=abH m hi ⟨0,0,0,0⟩ 256:=by
  unfold abH
  refine Hu _ 256 λk hk=> ?_
  funext r
  unfold yB
  rw [(rG ..).2 (by omega),l0,show 511-k-256=255-k by omega,aBu hi (by omega)]
 rw [show 512=256+256 from rfl,Ve,a1]
 unfold abH
 refine Hu _ 256 λk hk=> ?_
 funext r
 unfold yB
 rw [(rG ..).1 (by omega),show 511-(256+k)=255-k by omega,aBu lo (by omega)]
def W4 (_:Pa):Bool:=true
def ar9 (x:Pa):OT jO.Y:=.br (mu x.1.2.2.1) (.ok ⟨tO,((⟨0,0,0,0⟩,((10:Int),())),())⟩) (.ok ⟨tO,((ayk x.1.1 x.1.2.1 x.1.2.2.1,((0:Int),())),())⟩)
theorem alP {ok0:cq->Bool} {g0:cq->iY} {a b m R:ag} (h:mu m=false)
 (h1:ok0 (((),(),(),(),511,()),(lst m,lst ⟨0,0,0,0⟩,ob a++ob b,lst ⟨0,0,0,0⟩,()))=true)
 (e1:(g0 (((),(),(),(),511,()),(lst m,lst ⟨0,0,0,0⟩,ob a++ob b,lst ⟨0,0,0,0⟩,()))).2=(lst ⟨0,0,0,0⟩,lst R,())):
 (CG ok0 g0 a b m).run=some ⟨tO,((R,((0:Int),())),())⟩:=by
 have l:∀ e:ag,lst e= [e.w0,e.w1,e.w2,e.w3]:=λ_=>rfl
 rw [l m,l ⟨0,0,0,0⟩] at h1 e1
 unfold CG
 simp only [e1,h1]
 exact (OT.aq h).trans ((aj rfl).trans rfl)
theorem ayN:aa Tryz.prog 107 (jO.aD W4 ar9):=alO I2 Sk ayO _ _ λx oy hp ho=>by
 rw [<-ho]
 clear ho
 obtain ⟨⟨a,b,m,⟨⟩⟩,⟨⟩⟩:=x
 show (CG I2 Sk a b m).run=(OT.br (mu m) _ _:OT jO.Y).run
 rcases (Bool.eq_false_or_eq_true (mu m)).symm with h|h
 ·have hl:(ob a++ob b).length=512:=by rw [List.length_append,sB,sB]
  refine Eq.trans (alP (R:=upto (yB m (ob a++ob b)) ⟨0,0,0,0⟩ 512) h (decide_eq_true ⟨rfl,rfl,hl,rfl⟩) rfl) ?_
  rw [aDV,ah4 (Pp h),h]
  rfl
 ·exact (OT.az h).trans (OT.az (b:=mu m) h).symm
def CF:bw:=(jO.aD W4 ar9)
theorem acK:aa Tryz.prog 107 CF:=ayN
theorem acJ:aC CF:=ay
def L9:Env:=aw 107 CF u5
theorem Eb:aK Tryz.prog L9:=af acK pW
theorem FN:ar L9:=ab acJ AU
theorem ae3:aO Tryz.prog te L9:=aE follows al Eb FN
def hX:ap:=⟨[.val false .int,.val false (.list .u8)],[],true,0,false⟩
abbrev Cl:Type:=((Int)×(List (UInt8))×Unit)×(Unit)
def nj:av:=⟨[.val true .elem,.val false .int],[],false⟩
def ON:SV->Option av:=λ_=>some nj
def yQ (a0:Int) (a1:List (UInt8)):OT hX.Y:=
 let z0:Nat:=List.length a1
 let z1:Int:=(↑z0:Int)
 let z2:ag:= {w0:=0,w1:=0,w2:=0,w3:=0}
 let z3:List UInt8:=List.drop 0 (List.take 32 a1)
 let z4:List UInt8:=List.drop 32 a1
 let z5:ag:=(aS (Int.toNat a0)).fst
 (gd [ki ((a0,()),())] (.br (!z1==(64:Int))
 (.ok ⟨nj,((z2,((21:Int),())),())⟩)
 (gd [bj (0:Int) (32:Int) z0,gA ((z3,()),()),bj (32:Int) z1 z0,gA ((z4,()),())] (.br (mu z5)
  (.ok ⟨nj,((z2,((10:Int),())),())⟩)
  (.ok ⟨nj,((ayk (zc z3) (zc z4) z5,((0:Int),())),())⟩)))))
theorem ayv (x:Cl) (Q:hX.Y->Prop):wpf te L9 ax 1000 Tryz.f64 (hX.inp.inj x).tm (hX.inp.inj x).hp (fnK hX ON Q) (λ_ _=>False)=(yQ (x.1.1) (x.1.2.1)).wpR Q:=by kernel_rfl
theorem ab0 (pre:Cl->Bool) (F:Cl->OT hX.Y) (hF:∀ (x:Cl) oy,pre x=true->(F x).run=some oy->(yQ (x.1.1) (x.1.2.1)).run=some oy):aa Tryz.prog 64 (hX.aD pre F):=
 aB al Eb ae3 (f:=64) (fn:=Tryz.f64) (c:=ak Tryz.f64) (by kernel_rfl) (by kernel_rfl) (by kernel_rfl) (S:=hX) (k:=0) (by kernel_rfl) (λR hR=>ae) (n:=1000) (sel:=ON) (λv o h=>by cases h;rfl) (pre:=pre) (F:=F) (T:=λx=>yQ (x.1.1) (x.1.2.1)) (λx Q=>ayv x Q) hF
def Ck (x:Cl):Bool:=au x.1.1&&vf x.1.2.1
def aid (x:Cl):OT hX.Y:=.ok ⟨nj,((vM x.1.1 x.1.2.1,((0:Int),())),())⟩
theorem ab1 {s:Int} {b:List UInt8} {W:ag} (hW:ayk (zc (List.drop 0 (b.take 32))) (zc (b.drop 32)) (aS s.toNat).1=W) (hs:au s=true) (hl:vf b=true):(yQ s b).run=some ⟨nj,((W,((0:Int),())),())⟩:=by
 unfold yQ
 simp only [hW]
 have hb:b.length=64:=zl.1 hl
 refine (aj ?_).trans ((OT.aq (b:= !vf b) (by rw [hl];rfl)).trans ((aj ?_).trans (OT.aq (aiE hs))))
 ·simp only [List.all_cons,List.all_nil,Bool.and_true]
  exact hs
 ·simp only [List.all_cons,List.all_nil,Bool.and_true,Bool.and_eq_true]
  exact ⟨bu (by omega),decide_eq_true (by show (List.drop 0 (b.take 32)).length=32;rw [List.drop_zero,List.length_take];omega),bu (by omega),decide_eq_true (by show (List.drop 32 b).length=32;rw [List.length_drop];omega)⟩
theorem arC:aa Tryz.prog 64 (hX.aD Ck aid):=ab0 _ _ λx oy hp ho=>by
 rw [<-ho]
 clear ho
 obtain ⟨⟨s,b,⟨⟩⟩,⟨⟩⟩:=x
 obtain ⟨hs,hl⟩:=(Bool.and_eq_true _ _).mp hp
 exact ab1 rfl hs hl
def wj:bw:=(hX.aD Ck aid)
theorem Wr:aa Tryz.prog 64 wj:=arC
theorem Wq:aC wj:=ay
def AK:Env:=aw 64 wj L9
theorem xh:aK Tryz.prog AK:=af Wr Eb
theorem AJ:ar AK:=ab Wq FN
theorem ZU:aO Tryz.prog te AK:=aE follows al xh AJ
abbrev aqy:Ty:=(.prod .int (.prod (.prod .int (.list .elem)) (.prod (.list .u8) (.prod .int (.list .u8)))))
def ft:ap:=⟨[.val false .int,.val true (.prod .int (.list .elem)),.val false (.list .u8)],[],false,0,false⟩
abbrev tB:Type:=((Int)×((Int×List (ag)))×(List (UInt8))×Unit)×(Unit)
def eW:av:=⟨[.val true (.prod .int (.prod (.prod .int (.list .elem)) (.prod (.list .u8) (.prod .int (.list .u8))))),.val false .int],[],false⟩
def Ii:SV->Option av:=λ_=>some eW
def qU (a0:Int) (a1:(Int×List (ag))) (a2:List (UInt8)):OT ft.Y:=
 let z0:Int×(Int×List ag)×List UInt8×Int×List UInt8:=((0:Int),((0:Int),[]),[],(0:Int),[])
 let z1:Bool:=decide ((100000:Int)<(↑(List.length a1.snd):Int))
 let z2:Int×(Int×List ag)×List UInt8×Int×List UInt8:=(a0,a1,[],(0:Int),a2)
 (.br (decide (a0<(0:Int)))
 (.ok ⟨eW,((z0,((40:Int),())),())⟩)
 (.br (decide ((3:Int)<a0))
  (.ok ⟨eW,((z0,((40:Int),())),())⟩)
  (.br (!a1.fst==(0:Int))
   (.br (!a1.fst==(1:Int))
    (.ok ⟨eW,((z0,((80:Int),())),())⟩)
    (.br (z1)
     (.ok ⟨eW,((z0,((81:Int),())),())⟩)
     (.ok ⟨eW,((z2,((0:Int),())),())⟩)))
   (.br (z1)
    (.ok ⟨eW,((z0,((81:Int),())),())⟩)
    (.ok ⟨eW,((z2,((0:Int),())),())⟩)))))
theorem arv (x:tB) (Q:ft.Y->Prop):wpf te AK ax 1000 Tryz.f15 (ft.inp.inj x).tm (ft.inp.inj x).hp (fnK ft Ii Q) (λ_ _=>False)=(qU (x.1.1) (x.1.2.1) (x.1.2.2.1)).wpR Q:=by kernel_rfl
theorem Wk (pre:tB->Bool) (F:tB->OT ft.Y) (hF:∀ (x:tB) oy,pre x=true->(F x).run=some oy->(qU (x.1.1) (x.1.2.1) (x.1.2.2.1)).run=some oy):aa Tryz.prog 15 (ft.aD pre F):=
 aB al xh ZU (f:=15) (fn:=Tryz.f15) (c:=ak Tryz.f15) (by kernel_rfl) (by kernel_rfl) (by kernel_rfl) (S:=ft) (k:=0) (by kernel_rfl) (λR hR=>ae) (n:=1000) (sel:=Ii) (λv o h=>by cases h;rfl) (pre:=pre) (F:=F) (T:=λx=>qU (x.1.1) (x.1.2.1) (x.1.2.2.1)) (λx Q=>arv x Q) hF
abbrev pL:Type:=Int×((Int×List ag)×(List UInt8×(Int×List UInt8)))
def aiF:pL:=(0,(0,[]),[],0,[])
def Ij (_:tB):Bool:=true
def yN (x:tB):OT ft.Y:=.br (b6 x.1.1 x.1.2.1.1 x.1.2.1.2.length==0) (.ok ⟨eW,(((x.1.1,x.1.2.1,[],0,x.1.2.2.1),((0:Int),())),())⟩)
 (.ok ⟨eW,((aiF,(b6 x.1.1 x.1.2.1.1 x.1.2.1.2.length,())),())⟩)
theorem alj:aa Tryz.prog 15 (ft.aD Ij yN):=Wk _ _ λx oy _ ho=>by
 rw [<-ho]
 clear ho
 obtain ⟨⟨c,⟨m,l⟩,b,⟨⟩⟩,⟨⟩⟩:=x
 show (qU c (m,l) b).run=(yN ((c,(m,l),b,()),())).run
 unfold qU yN b6
 dsimp only
 rw [ax5]
 generalize decide (c<0)=p1
 generalize decide (3<c)=p2
 generalize decide ((100000:Int)<(l.length:Int))=p5
 cases h3:m==0<;>cases h4:m==1<;>cases p1<;>cases p2<;>cases p5<;>rfl
def qT:bw:=(ft.aD Ij yN)
theorem RP:aa Tryz.prog 15 qT:=alj
theorem RO:aC qT:=ay
def sK:Env:=aw 15 qT AK
theorem sJ:aK Tryz.prog sK:=af RP xh
theorem vy:ar sK:=ab RO AJ
theorem Uq:aO Tryz.prog te sK:=aE follows al sJ vy
end Go.Proofs.YtohjofabochgfaaGreat

namespace Go.Proofs.YtohjofabochgfaaGreat
namespace Sx
open Go
def XX (k:Nat) (s:bw):bw:=⟨true,λd args hp=>match args.getD k .bF with
 |.own c e=>match eD hp c e with
  |some (.row t xs)=>(s.f d args (dJ hp [(c,⟨e,.frz t xs⟩)])).map (Out.after [(c,⟨e,.frz t xs⟩)])
  |some _=>s.f d args hp
  |none=>.fail
 |_=>s.f d args hp⟩
theorem atk {P:Program} {f:FuncId} {s:bw} {k:Nat} (h:aa P f s):aa P f (XX k s):=by
 refine ⟨λR w d args vs out hm hr hrun=> ?_⟩
 simp only [XX] at hrun
 split at hrun
 ·rename_i c e hce
  split at hrun
  ·rename_i t xs hc
   obtain ⟨out',h1,rfl⟩:=OT.run_map hrun
   obtain ⟨R1,ha⟩:=PQ hm (cm hc)
   rw [<-show R1.hp=dJ R.hp [(c,⟨e,.frz t xs⟩)] from ha.hp] at h1
   have hr1:SV.bL R1 args vs:=SV.dz ha.ext _ _ hr
   have hpost:∀ en w',jl R1 out' en w'->jl R (Out.after [(c,⟨e,.frz t xs⟩)] out') en w':=λen w' hp=>by
    cases out' with
    |ret q=>
     obtain ⟨v,R',h2,h3,h4⟩:=hp
     exact ⟨v,R',h2,ha.trans h3,h4⟩
    |pan q u=>
     obtain ⟨v,R',h2,h3,h4⟩:=hp
     exact ⟨v,R',h2,ha.trans h3,h4⟩
   rcases h.calls R1 w d _ vs out' ha.mem hr1 h1 with ⟨fn,f1,f2,f3,hcl⟩|⟨v,w',hv,hp⟩
   ·exact .inl ⟨fn,f1,f2,f3,hcl.mono hpost⟩
   ·exact .inr ⟨v,w',hv,hpost _ _ hp⟩
  ·exact h.calls R w d args vs out hm hr hrun
  ·cases hrun
 ·exact h.calls R w d args vs out hm hr hrun
theorem ads {s:bw} {k:Nat} (h:aC s):aC (XX k s):=λd args hp hp' out hg hrun=>by
 simp only [XX] at hrun⊢
 split at hrun
 ·split at hrun
  ·rename_i t xs hc
   rw [bR hg hc]
   simp only
   obtain ⟨out',h1,rfl⟩:=OT.run_map hrun
   refine SJ (h d _ _ _ out' ⟨λn ch hn=> ?_,λn hn hn0=> ?_⟩ h1)
   ·simp only [dJ] at hn⊢
    split
    ·rename_i h2;rw [if_pos h2] at hn;exact hn
    ·rename_i h2;rw [if_neg h2] at hn;exact hg.jD _ _ hn
   ·simp only [dJ] at hn0⊢
    split
    ·rename_i h2;rw [if_pos h2] at hn0;cases hn0
    ·rename_i h2;rw [if_neg h2] at hn0;exact hg.free _ hn hn0
  ·rename_i b hnr hc
   rw [bR hg hc]
   cases b<;>first|exact h _ _ _ _ _ hg hrun|exact absurd rfl (hnr _ _)
  ·cases hrun
 ·exact h _ _ _ _ _ hg hrun
end Sx
end Go.Proofs.YtohjofabochgfaaGreat

namespace Go.Proofs.YtohjofabochgfaaGreat
open Sx Go
set_option maxRecDepth 100000
def hG:ap:=⟨[.val true aqy,.val false .u8,.val false (.list .u8)],[],false,0,false⟩
abbrev Cc:Type:=(((Int×((Int×List (ag))×(List (UInt8)×(Int×List (UInt8))))))×(UInt8)×(List (UInt8))×Unit)×(Unit)
def Ie:av:=⟨[.val true (.prod .int (.prod (.prod .int (.list .elem)) (.prod (.list .u8) (.prod .int (.list .u8)))))],[],false⟩
def OE:SV->Option av:=λ_=>some Ie
def RN (a0:(Int×((Int×List (ag))×(List (UInt8)×(Int×List (UInt8)))))) (a1:UInt8) (a2:List (UInt8)):OT hG.Y:=
 let z0:List UInt8:=a0.snd.snd.fst++ [a1]
 (gd [mZ ((a0.snd.snd.fst,()),()),decide ((List.length a0.snd.snd.fst+1)*1<=140737488355328),decide ((List.length z0+List.length a2)*1<=140737488355328)] (.ok ⟨Ie,(((a0.fst,a0.snd.fst,z0++a2,a0.snd.snd.snd),()),())⟩))
theorem ayn (x:Cc) (Q:hG.Y->Prop):wpf te sK ax 1000 Tryz.f54 (hG.inp.inj x).tm (hG.inp.inj x).hp (fnK hG OE Q) (λ_ _=>False)=(RN (x.1.1) (x.1.2.1) (x.1.2.2.1)).wpR Q:=by kernel_rfl
theorem abM (pre:Cc->Bool) (F:Cc->OT hG.Y) (hF:∀ (x:Cc) oy,pre x=true->(F x).run=some oy->(RN (x.1.1) (x.1.2.1) (x.1.2.2.1)).run=some oy):aa Tryz.prog 54 (hG.aD pre F):=
 aB al sJ Uq (f:=54) (fn:=Tryz.f54) (c:=ak Tryz.f54) (by kernel_rfl) (by kernel_rfl) (by kernel_rfl) (S:=hG) (k:=0) (by kernel_rfl) (λR hR=>ae) (n:=1000) (sel:=OE) (λv o h=>by cases h;rfl) (pre:=pre) (F:=F) (T:=λx=>RN (x.1.1) (x.1.2.1) (x.1.2.2.1)) (λx Q=>ayn x Q) hF
def fZ (t:pL) (m:UInt8) (b:List UInt8):pL:=(t.1,t.2.1,t.2.2.1++ [m]++b,t.2.2.2)
def kf (x:Cc):Bool:=decide (x.1.1.2.2.1.length+x.1.2.2.1.length<=1000000000000)
def ah9 (x:Cc):OT hG.Y:=.ok ⟨Ie,((fZ x.1.1 x.1.2.1 x.1.2.2.1,()),())⟩
theorem arp:aa Tryz.prog 54 (hG.aD kf ah9):=abM _ _ λx oy hp ho=>by
 rw [<-ho]
 clear ho
 obtain ⟨⟨⟨c,s,t,n,b⟩,m,a,⟨⟩⟩,⟨⟩⟩:=x
 have hp:t.length+a.length<=1000000000000:=of_decide_eq_true hp
 refine (aj ?_).trans rfl
 simp only [List.all_cons,List.all_nil,Bool.and_true,Bool.and_eq_true]
 exact ⟨decide_eq_true (by show t.length<=_;omega),decide_eq_true (by omega),decide_eq_true (by rw [List.length_append];simp only [List.length_cons,List.length_nil];omega)⟩
def we:bw:=(XX 2 (hG.aD kf ah9))
theorem Wd:aa Tryz.prog 54 we:=(atk arp)
theorem Wc:aC we:=(ads ay)
def AC:Env:=aw 54 we sK
theorem xd:aK Tryz.prog AC:=af Wd sJ
theorem AB:ar AC:=ab Wc vy
theorem ZQ:aO Tryz.prog te AC:=aE follows al xd AB
def hI:ap:=⟨[.val true aqy,.val true .elem],[],false,0,false⟩
abbrev Cf:Type:=(((Int×((Int×List (ag))×(List (UInt8)×(Int×List (UInt8))))))×(ag)×Unit)×(Unit)
def yK:av:=⟨[.val true (.prod .int (.prod (.prod .int (.list .elem)) (.prod (.list .u8) (.prod .int (.list .u8)))))],[],false⟩
def OI:SV->Option av:=λ_=>some yK
def yL (a0:(Int×((Int×List (ag))×(List (UInt8)×(Int×List (UInt8)))))) (a1:ag):OT hI.Y:=
 let z0:Int:=cU a0.fst (1:Int)
 let z1:List UInt8:=P8 (ofP (pS z0) a1)
 (gd [rb ((z0,a1,()),()),kf ((a0,(2:UInt8),z1,()),())] (.ok ⟨yK,((fZ a0 (2:UInt8) z1,()),())⟩))
theorem ayq (x:Cf) (Q:hI.Y->Prop):wpf te AC ax 1000 Tryz.f18 (hI.inp.inj x).tm (hI.inp.inj x).hp (fnK hI OI Q) (λ_ _=>False)=(yL (x.1.1) (x.1.2.1)).wpR Q:=by kernel_rfl
theorem abR (pre:Cf->Bool) (F:Cf->OT hI.Y) (hF:∀ (x:Cf) oy,pre x=true->(F x).run=some oy->(yL (x.1.1) (x.1.2.1)).run=some oy):aa Tryz.prog 18 (hI.aD pre F):=
 aB al xd ZQ (f:=18) (fn:=Tryz.f18) (c:=ak Tryz.f18) (by kernel_rfl) (by kernel_rfl) (by kernel_rfl) (S:=hI) (k:=0) (by kernel_rfl) (λR hR=>ae) (n:=1000) (sel:=OI) (λv o h=>by cases h;rfl) (pre:=pre) (F:=F) (T:=λx=>yL (x.1.1) (x.1.2.1)) (λx Q=>ayq x Q) hF
theorem ax7 (c:Int) (v:ag):P8 (ofP (pS (cU c 1)) v)=dX c v:=rfl
def kg (x:Cf):Bool:=au (cU x.1.1.1 1)&&decide (x.1.1.2.2.1.length<=100000000000)
def aia (x:Cf):OT hI.Y:=.ok ⟨yK,((fZ x.1.1 2 (dX x.1.1.1 x.1.2.1),()),())⟩
theorem abS {t:pL} {v:ag} (hs:au (cU t.1 1)=true) (hl:t.2.2.1.length<=100000000000):(yL t v).run=some ⟨yK,((fZ t 2 (dX t.1 v),()),())⟩:=by
 have hb:=gy t.1 v
 unfold yL
 dsimp only
 rw [ax7]
 generalize dX t.1 v=B at hb
 refine (aj ?_).trans rfl
 simp only [List.all_cons,List.all_nil,Bool.and_true,Bool.and_eq_true]
 exact ⟨hs,decide_eq_true (by show t.2.2.1.length+B.length<=_;omega)⟩
theorem art:aa Tryz.prog 18 (hI.aD kg aia):=abR _ _ λx oy hp ho=>by
 rw [<-ho]
 clear ho
 obtain ⟨⟨t,v,⟨⟩⟩,⟨⟩⟩:=x
 obtain ⟨hs,hl⟩:=(Bool.and_eq_true _ _).mp hp
 exact abS hs (of_decide_eq_true hl)
def wg:bw:=(hI.aD kg aia)
theorem Wh:aa Tryz.prog 18 wg:=art
theorem Wg:aC wg:=ay
def AE:Env:=aw 18 wg AC
theorem xf:aK Tryz.prog AE:=af Wh xd
theorem AD:ar AE:=ab Wg AB
theorem ZS:aO Tryz.prog te AE:=aE follows al xf AD
end Go.Proofs.YtohjofabochgfaaGreat

namespace Go.Proofs.YtohjofabochgfaaGreat
open Sx Go
theorem aEm {v:UInt64} {c:UInt8} (k:Nat) (hk:k<=7) (hv:v.toNat<2^(8*k)):
 (v|||bH c.toUInt64 (8*(k:Int))).toNat=v.toNat+c.toNat*2^(8*k)/\v.toNat+c.toNat*2^(8*k)<2^(8*(k+1)):=by
 have hc:c.toNat<256:=c.toNat_lt
 have h1:c.toNat*2^(8*k)<=255*2^(8*k):=Nat.mul_le_mul_right _ (by omega)
 have h2:2^(8*(k+1))=256*2^(8*k):=by rw [Nat.mul_add,Nat.pow_add];omega
 have h3:2^(8*(k+1))<=2^64:=Nat.pow_le_pow_right (by decide) (by omega)
 refine ⟨?_,by omega⟩
 have e1:bH c.toUInt64 (8*(k:Int))=c.toUInt64<<<UInt64.ofNat (8*k):=by
  unfold bH
  rw [if_pos (by omega)]
  congr 2
 have e2:(c.toUInt64<<<UInt64.ofNat (8*k)).toNat=c.toNat<<<(8*k):=by
  rw [UInt64.toNat_shiftLeft,UInt8.toNat_toUInt64,UInt64.toNat_ofNat']
  have:8*k%2^64%64=8*k:=by omega
  rw [this,Nat.shiftLeft_eq]
  exact Nat.mod_eq_of_lt (by omega)
 rw [e1,UInt64.toNat_or,e2,Nat.or_comm,<-Nat.shiftLeft_add_eq_or_of_lt hv,Nat.shiftLeft_eq]
 omega
theorem UT (b:List UInt8):∀ k,k<=8->(j2 b k).toNat=(List.range k).foldl (λs i=>s+(b.getD i 0).toNat*2^(8*i)) 0/\(j2 b k).toNat<2^(8*k)
 |0,_=>⟨rfl,by simp [j2]⟩
 |k+1,h=>by
  obtain ⟨h1,h2⟩:=UT b k (by omega)
  have h3:=aEm (v:=j2 b k) (c:=b.getD k 0) k (by omega) h2
  rw [NH]
  refine ⟨?_,by omega⟩
  rw [h3.1,List.range_succ,List.foldl_append,h1]
  rfl
theorem ay4 {v:UInt64} {c:UInt8} (k:Nat) (hk:k<=7) (hv:v.toNat<2^(8*k)):
 (v*256+c.toUInt64).toNat=v.toNat*256+c.toNat/\v.toNat*256+c.toNat<2^(8*(k+1)):=by
 have hc:c.toNat<256:=c.toNat_lt
 have h2:2^(8*(k+1))=256*2^(8*k):=by rw [Nat.mul_add,Nat.pow_add];omega
 have h3:2^(8*(k+1))<=2^64:=Nat.pow_le_pow_right (by decide) (by omega)
 refine ⟨?_,by omega⟩
 rw [UInt64.toNat_add,UInt64.toNat_mul,UInt8.toNat_toUInt64,show (256:UInt64).toNat=256 from rfl]
 rw [Nat.mod_eq_of_lt (a:=v.toNat*256) (by omega),Nat.mod_eq_of_lt (by omega)]
theorem afG (f:Nat->UInt8):∀ k,k<=8->(upto (λk v=>v*256+UInt8.toUInt64 (f (7-k))) (0:UInt64) k).toNat=(List.range k).foldl (λs j=>s*256+(f (7-j)).toNat) 0/\
 (upto (λk v=>v*256+UInt8.toUInt64 (f (7-k))) (0:UInt64) k).toNat<2^(8*k)
 |0,_=>⟨rfl,by simp [upto]⟩
 |k+1,h=>by
  obtain ⟨h1,h2⟩:=afG f k (by omega)
  have h3:=ay4 (v:=upto (λk v=>v*256+UInt8.toUInt64 (f (7-k))) (0:UInt64) k) (c:=f (7-k)) k (by omega) h2
  refine ⟨?_,by simp only [upto];omega⟩
  simp only [upto]
  rw [h3.1,List.range_succ,List.foldl_append,h1]
  rfl
theorem axZ (g:Nat->Nat) (c:Nat):(List.range 8).foldl (λs i=>s+g i*c^i) 0=(List.range 8).foldl (λs j=>s*c+g (7-j)) 0:=by
 have r:List.range 8= [0,1,2,3,4,5,6,7]:=by decide
 rw [r]
 simp only [List.foldl_cons,List.foldl_nil,Nat.reduceSub,Nat.sub_self,Nat.sub_zero,Nat.add_mul,Nat.mul_assoc,Nat.zero_mul,Nat.zero_add,Nat.mul_one,Nat.pow_succ,Nat.pow_zero,Nat.one_mul]
 ac_rfl
theorem aDw (g:Nat->Nat):(List.range 8).foldl (λs i=>s+g i*2^(8*i)) 0=(List.range 8).foldl (λs j=>s*256+g (7-j)) 0:=by
 have h:∀ i,2^(8*i)=(2^8)^i:=λi=>Nat.pow_mul 2 8 i
 have e:(λs i=>s+g i*2^(8*i))=(λs i=>s+g i*(2^8)^i):=by
  funext s i
  rw [h]
 rw [e]
 exact axZ g (2^8)
theorem avy (f:Nat->UInt8) (b:List UInt8) (hb:∀ i,i<8->b.getD i 0=f i):j2 b 8=upto (λk v=>v*256+UInt8.toUInt64 (f (7-k))) 0 8:=by
 have hf:j2 b 8=j2 ((List.range 8).map f) 8:=by
  unfold j2
  have:∀ l:List Nat,(∀ i ∈ l,i<8)->∀ v,l.foldl (λv (i:Nat)=>v|||bH (UInt8.toUInt64 (b.getD i 0)) (8*(i:Int))) v=l.foldl (λv (i:Nat)=>v|||bH (UInt8.toUInt64 (((List.range 8).map f).getD i 0)) (8*(i:Int))) v:=by
   intro l
   induction l with
   |nil=>intro _ v;rfl
   |cons i r ih=>
    intro h v
    have hi:i<8:=h i (by simp)
    have e:((List.range 8).map f).getD i 0=f i:=by simp [List.getD_eq_getElem?_getD,hi]
    simp only [List.foldl_cons,hb i hi,e]
    exact ih (λj hj=>h j (by simp [hj])) _
  exact this _ (λi hi=>by simpa using hi) 0
 have e:∀ i,i<8->((List.range 8).map f).getD i 0=f i:=λi hi=>by simp [List.getD_eq_getElem?_getD,hi]
 rw [hf,<-UInt64.toNat_inj,(UT _ 8 (Nat.le_refl _)).1,(afG f 8 (Nat.le_refl _)).1,<-aDw (λi=>(f i).toNat)]
 have:∀ l:List Nat,(∀ i ∈ l,i<8)->∀ v,l.foldl (λs (i:Nat)=>s+(((List.range 8).map f).getD i 0).toNat*2^(8*i)) v=l.foldl (λs i=>s+(f i).toNat*2^(8*i)) v:=by
  intro l
  induction l with
  |nil=>intro _ v;rfl
  |cons i r ih=>
   intro h v
   simp only [List.foldl_cons,e i (h i (by simp))]
   exact ih (λj hj=>h j (by simp [hj])) _
 exact this _ (λi hi=>by simpa using hi) 0
end Go.Proofs.YtohjofabochgfaaGreat

namespace Go.Proofs.YtohjofabochgfaaGreat
open Sx Go
theorem JR {w r:List UInt8} (n:Nat) (hw:w.length<=n) (hr:∀ x ∈ r,x=0) (i:Nat):(w.take n++r).getD i 0=w.getD i 0:=by
 rw [List.take_of_length_le hw]
 simp only [List.getD_eq_getElem?_getD,List.getElem?_append]
 split
 ·rfl
 ·rename_i h
  rw [List.getElem?_eq_none (by omega:w.length<=i)]
  cases hx:r[i-w.length]? with
  |none=>rfl
  |some x=>rw [hr x (List.mem_of_getElem? hx)];rfl
theorem UM {n k:Nat}:∀ x ∈ (List.replicate n (0:UInt8)).drop k,x=0:=λx hx=>List.eq_of_mem_replicate (List.mem_of_mem_drop hx)
theorem adn {w:List UInt8} (h:w.length<=128) (i:Nat):(mr w).getD i 0=w.getD i 0:=JR 128 h UM i
theorem PM {w:List UInt8} (h:w.length<=16) (i:Nat):(Nc w).getD i 0=w.getD i 0:=JR 16 h UM i
theorem acR {w:List UInt8} (h:w.length=128):mr w=w:=by
 unfold mr
 rw [List.take_of_length_le (by omega),List.drop_eq_nil_of_le (by simp [h]),List.append_nil]
theorem aap {b c:List UInt8} (h:∀ i,c.getD i 0=b.getD i 0) (p:Nat):j2 ((c.drop p).take 8) 8=gY b p:=
 avy (λi=>b.getD (p+i) 0) _ λi hi=>by
  rw [<-h]
  simp only [List.getD_eq_getElem?_getD,List.getElem?_take,if_pos hi,List.getElem?_drop]
theorem abK {b:List UInt8} (hb:b.length<=128):j4 b=oH (mr b):=by
 unfold j4 oH
 congr 1
 funext k m
 unfold aov
 rw [aap (adn hb)]
theorem Ic {h:List UInt64} {b:List UInt8} {t:UInt64} {l:Bool} (hb:b.length<=128):dA h b t l=vg h (mr b) t l:=by
 unfold dA vg
 rw [abK hb]
theorem aDT {p:List UInt8} {n:Int} (hp:p.length<=16):aq8 p n=aFK p n:=by
 unfold aq8 aFK
 have h0:gY p 0=j2 ((Nc p).take 8) 8:=(aap (PM hp) 0).symm
 have h8:gY p 8=j2 (((Nc p).drop 8).take 8) 8:=(aap (PM hp) 8).symm
 rw [h0,h8]
theorem SR (m:Nat):i2u (m:Int)=UInt64.ofNat m:=by
 unfold i2u
 rw [<-UInt64.toNat_inj,UInt64.toNat_ofNat',UInt64.toNat_ofNat']
 omega
theorem asU (a b:Nat):i2u ((a+b:Nat):Int)=i2u (a:Int)+i2u (b:Int):=by
 rw [SR,SR,SR,UInt64.ofNat_add]
theorem aub (b:List UInt8) (h:List UInt64):∀ k,128*k<=b.length->upto (λ_ s=>Bo s) (h,0,b) k=(m6 b h k,i2u ((128*k:Nat):Int),b.drop (128*k))
 |0,_=>rfl
 |k+1,hk=>by
  have ih:=aub b h k (by omega)
  show Bo (upto (λ_ s=>Bo s) (h,0,b) k)=_
  rw [ih]
  have e1:(b.take (128*k+128)).drop (128*k)=(b.drop (128*k)).take 128:=by rw [List.drop_take];congr 1;omega
  have e2:i2u ((128*k+128:Nat):Int)=i2u ((128*k:Nat):Int)+128:=asU _ 128
  have hl:((b.drop (128*k)).take 128).length=128:=by simp;omega
  have e3:m6 b h (k+1)=vg (m6 b h k) ((b.drop (128*k)).take 128) (i2u ((128*k:Nat):Int)+128) false:=by
   show dA (m6 b h k) ((b.take (128*k+128)).drop (128*k)) (i2u ((128*k+128:Nat):Int)) false=_
   rw [e1,e2,Ic (by omega),acR hl]
  unfold Bo
  rw [e3,List.drop_drop,show 128*(k+1)=128*k+128 by omega,e2]
theorem aqF {α:Type} (g:Nat->α) (d:α) (n:Nat):∀ m,m<=n->upto (λk o=>o.set k (g k)) (List.replicate n d) m=(List.range m).map g++List.replicate (n-m) d
 |0,_=>by simp [upto]
 |m+1,h=>by
  have ih:=aqF g d n m (by omega)
  show (upto (λk o=>o.set k (g k)) (List.replicate n d) m).set m (g m)=_
  rw [ih,List.set_append_right _ _ (by simp),List.length_map,List.length_range,Nat.sub_self,show n-m=(n-(m+1))+1 by omega,List.replicate_succ,List.set_cons_zero,List.range_succ,List.map_append]
  simp
theorem aeD {α:Type} (g:Nat->α):∀ m,upto (λk o=>o++ [g k]) [] m=(List.range m).map g
 |0=>rfl
 |m+1=>by
  show upto (λk o=>o++ [g k]) [] m++ [g m]=_
  rw [aeD g m,List.range_succ,List.map_append]
  rfl
theorem ajM (h:List UInt64) (n:Nat):yA h n=Gu h n:=by
 unfold yA Gu
 rw [aeD,aqF _ _ n n (Nat.le_refl _),Nat.sub_self,List.replicate_zero,List.append_nil]
 congr 1
 funext k
 have e:8*((k%8:Nat):Int)=((8*(k%8):Nat):Int):=by omega
 rw [e,SR,UInt64.toNat_ofNat',Nat.mod_eq_of_lt (by omega)]
theorem ah7 {p:List UInt8} {n:Int} {b:List UInt8} (hp:p.length<=16):wb p n b=T5 p n b:=by
 unfold wb T5 iN vt
 rw [aDT hp,ajM]
 have hk:128*((b.length-1)/128)<=b.length:=by omega
 show _=avt n (upto (λ_ s=>Bo s) (aFK p n,0,b) ((b.length-1)/128))
 rw [aub b _ _ hk]
 unfold avt
 have hl:(b.drop (128*((b.length-1)/128))).length<=128:=by simp only [List.length_drop];omega
 have hc:i2u (b.length:Int)=i2u ((128*((b.length-1)/128):Nat):Int)+i2u ((b.drop (128*((b.length-1)/128))).length:Int):=by
  rw [<-asU,List.length_drop]
  congr 2
  omega
 rw [Ic hl,hc]
theorem afH {β:Type} (f:β->β) (s:β) (a:Nat):∀ b,upto (λ_ x=>f x) (upto (λ_ x=>f x) s a) b=upto (λ_ x=>f x) s (a+b)
 |0=>rfl
 |b+1=>congrArg f (afH f s a b)
theorem ajE (h:List UInt64) (c:UInt64) (v b:List UInt8):∀ k,128*k<=v.length->upto (λ_ s=>Bo s) (h,c,v++b) k=
 ((upto (λ_ s=>Bo s) (h,c,v) k).1,(upto (λ_ s=>Bo s) (h,c,v) k).2.1,(upto (λ_ s=>Bo s) (h,c,v) k).2.2++b)
 |0,_=>rfl
 |k+1,hk=>by
  have ih:=ajE h c v b k (by omega)
  have hl:=Tx (h,c,v) k
  simp only at hl
  show Bo (upto (λ_ s=>Bo s) (h,c,v++b) k)=_
  rw [ih]
  show _=((Bo (upto (λ_ s=>Bo s) (h,c,v) k)).1,(Bo (upto (λ_ s=>Bo s) (h,c,v) k)).2.1,(Bo (upto (λ_ s=>Bo s) (h,c,v) k)).2.2++b)
  generalize upto (λ_ s=>Bo s) (h,c,v) k=s at*
  simp only [Bo]
  rw [List.take_append_of_le_length (by omega),List.drop_append_of_le_length (by omega)]
theorem aam (s:List UInt64×UInt64×List UInt8) (a b:List UInt8):iN (iN s a) b=iN s (a++b):=by
 obtain ⟨h,c,w⟩:=s
 have hk:128*(((w++a).length-1)/128)<=(w++a).length:=by omega
 have e1:=ajE h c (w++a) b _ hk
 have hl:=Tx (h,c,w++a) (((w++a).length-1)/128)
 simp only at hl
 show vt ((iN (h,c,w) a).1,(iN (h,c,w) a).2.1,(iN (h,c,w) a).2.2++b)=vt (h,c,w++(a++b))
 have e2:iN (h,c,w) a=upto (λ_ s=>Bo s) (h,c,w++a) (((w++a).length-1)/128):=rfl
 rw [e2,<-e1,<-List.append_assoc]
 unfold vt
 rw [afH]
 congr 1
 rw [e1]
 simp only [List.length_append] at hl⊢
 rw [hl]
 omega
theorem Nq (p:List UInt8) (n:Int) (b:List UInt8):(T5 p n b).length=n.toNat:=by
 unfold T5 avt
 rw [<-ajM]
 unfold yA
 rw [aeD,List.length_map,List.length_range]
end Go.Proofs.YtohjofabochgfaaGreat

namespace Go.Proofs.YtohjofabochgfaaGreat
open Sx Go
set_option maxRecDepth 100000
def fN:ap:=⟨[.val true aqy],[],false,0,false⟩
abbrev Cg:Type:=(((Int×((Int×List (ag))×(List (UInt8)×(Int×List (UInt8))))))×Unit)×(Unit)
def hJ:av:=⟨[.val true (.prod .int (.prod (.prod .int (.list .elem)) (.prod (.list .u8) (.prod .int (.list .u8))))),.val true .elem,.val false .int],[],false⟩
def OJ:SV->Option av:=λ_=>some hJ
def yM (a0:(Int×((Int×List (ag))×(List (UInt8)×(Int×List (UInt8)))))):OT fN.Y:=
 let z0:Nat:=List.length a0.snd.fst.snd
 let z1:ag:= {w0:=0,w1:=0,w2:=0,w3:=0}
 let z2:Int:=cU a0.fst (1:Int)
 let z3:ag:=List.getD a0.snd.fst.snd (Int.toNat a0.snd.snd.snd.fst) z1
 let z4:Int×(Int×List ag)×List UInt8×Int×List UInt8:=fZ a0 (0:UInt8) []
 let z5:=z4.snd.snd.fst
 let z6:Int:=cU z4.fst (1:Int)
 let z7:List UInt8:=wb [(115:UInt8),(105:UInt8),(103:UInt8),(105:UInt8),(108:UInt8),(45:UInt8),(116:UInt8),(114:UInt8),(97:UInt8),(110:UInt8),(115:UInt8),(99:UInt8),(114:UInt8),(105:UInt8),(112:UInt8),(116:UInt8)] (64:Int) z5
 (.br (a0.snd.fst.fst==(1:Int))
 (.br (decide ((↑z0:Int)<=a0.snd.snd.snd.fst))
  (.ok ⟨hJ,((a0,(z1,((81:Int),()))),())⟩)
  (gd [inB a0.snd.snd.snd.fst z0,q6 ((z2,z3,()),()),inR (a0.snd.snd.snd.fst+(1:Int))] (.ok ⟨hJ,(((a0.fst,a0.snd.fst,a0.snd.snd.fst,a0.snd.snd.snd.fst+(1:Int),a0.snd.snd.snd.snd),(ofP (pS z2) z3,((0:Int),()))),())⟩)))
 (gd [kf ((a0,(0:UInt8),[],()),()),Rx (([(115:UInt8),(105:UInt8),(103:UInt8),(105:UInt8),(108:UInt8),(45:UInt8),(116:UInt8),(114:UInt8),(97:UInt8),(110:UInt8),(115:UInt8),(99:UInt8),(114:UInt8),(105:UInt8),(112:UInt8),(116:UInt8)],(64:Int),z5,()),()),Ck ((z6,z7,()),())] (.ok ⟨hJ,((z4,(vM z6 z7,((0:Int),()))),())⟩)))
theorem ayr (x:Cg) (Q:fN.Y->Prop):wpf te AE ax 1000 Tryz.f23 (fN.inp.inj x).tm (fN.inp.inj x).hp (fnK fN OJ Q) (λ_ _=>False)=(yM (x.1.1)).wpR Q:=by kernel_rfl
theorem abT (pre:Cg->Bool) (F:Cg->OT fN.Y) (hF:∀ (x:Cg) oy,pre x=true->(F x).run=some oy->(yM (x.1.1)).run=some oy):aa Tryz.prog 23 (fN.aD pre F):=
 aB al xf ZS (f:=23) (fn:=Tryz.f23) (c:=ak Tryz.f23) (by kernel_rfl) (by kernel_rfl) (by kernel_rfl) (S:=fN) (k:=0) (by kernel_rfl) (λR hR=>ae) (n:=1000) (sel:=OJ) (λv o h=>by cases h;rfl) (pre:=pre) (F:=F) (T:=λx=>yM (x.1.1)) (λx Q=>ayr x Q) hF
def fJ:List UInt8:= [115,105,103,105,108,45,116,114,97,110,115,99,114,105,112,116]
def EB (t:List UInt8):List UInt64×UInt64×List UInt8:=iN (aFK fJ 64,0,[]) t
def MT (t:List UInt8):UI×List UInt8:=(aFh 64 (EB t).1 (EB t).2.1,(EB t).2.2)
theorem axY (t:List UInt8):(EB t).1.length=8:=azR _ rfl
theorem aHo (t:List UInt8):wA (MT t).1 (MT t).2=EB t:=al6 (axY t)
theorem aBm (t:List UInt8) (m:UInt8) (b:List UInt8):jP (MT t).1 (MT t).2 m b=MT (t++ [m]++b):=by
 have e:iN (EB t) ([m]++b)=EB (t++ [m]++b):=by
  unfold EB
  rw [aam,List.append_assoc]
 unfold jP
 rw [aHo,e]
 rfl
theorem aHn (t:List UInt8):avt (MT t).1.1 (wA (MT t).1 (MT t).2)=wb fJ 64 t:=by
 rw [aHo,ah7 (show fJ.length<=16 by decide)]
 rfl
theorem aFi (s:Int) (t:List UInt8):TH s (MT t).1 (MT t).2=vM s (wb fJ 64 (t++ [0]++ [])):=by
 unfold TH
 rw [aBm]
 exact congrArg (vM s) (aHn _)
theorem azV:((oN,[]):UI×List UInt8)=MT []:=by kernel_rfl
theorem ay3 (t:List UInt8):vf (wb fJ 64 t)=true:=zl.2 (by rw [ah7 (show fJ.length<=16 by decide),Nq];rfl)
def kh (x:Cg):Bool:=au (cU x.1.1.1 1)&&decide (x.1.1.2.2.1.length<=100000000000/\0<=x.1.1.2.2.2.1/\x.1.1.2.2.2.1<=1000000000000)
def iE (t:pL):pL×(ag×Int):=cond (t.2.1.1==1) (cond (decide ((t.2.1.2.length:Int)<=t.2.2.2.1)) (t,⟨0,0,0,0⟩,81)
 ((t.1,t.2.1,t.2.2.1,t.2.2.2.1+1,t.2.2.2.2),ofP (pS (cU t.1 1)) (t.2.1.2.getD t.2.2.2.1.toNat ⟨0,0,0,0⟩),0)) (fZ t 0 [],vM (cU t.1 1) (wb fJ 64 (t.2.2.1++ [0]++ [])),0)
def aib (x:Cg):OT fN.Y:=.ok ⟨hJ,(((iE x.1.1).1,((iE x.1.1).2.1,((iE x.1.1).2.2,()))),())⟩
theorem abU {t:pL} {R:List UInt8} {W:ag} (hs:au (cU t.1 1)=true) (hl:t.2.2.1.length<=100000000000) (h0:0<=t.2.2.2.1) (h1:t.2.2.2.1<=1000000000000) (hR:wb fJ 64 (t.2.2.1++ [0]++ [])=R) (h6:vf R=true) (hW:vM (cU t.1 1) R=W):
 (yM t).run=(OT.br (t.2.1.1==1) (.br (decide ((t.2.1.2.length:Int)<=t.2.2.2.1)) (.ok ⟨hJ,((t,(⟨0,0,0,0⟩,((81:Int),()))),())⟩)
  (.ok ⟨hJ,(((t.1,t.2.1,t.2.2.1,t.2.2.2.1+1,t.2.2.2.2),(ofP (pS (cU t.1 1)) (t.2.1.2.getD t.2.2.2.1.toNat ⟨0,0,0,0⟩),((0:Int),()))),())⟩)) (.ok ⟨hJ,((fZ t 0 [],(W,((0:Int),()))),())⟩):OT fN.Y).run:=by
 have hR:wb [115,105,103,105,108,45,116,114,97,110,115,99,114,105,112,116] 64 (fZ t 0 []).2.2.1=R:=hR
 have hW:vM (cU (fZ t 0 []).1 1) R=W:=hW
 unfold yM
 simp only [hR,hW]
 rcases (Bool.eq_false_or_eq_true (t.2.1.1==1)).symm with h|h
 ·refine (OT.aq h).trans (Eq.trans ((aj ?_).trans rfl) (OT.aq (b:=t.2.1.1==1) h).symm)
  simp only [List.all_cons,List.all_nil,Bool.and_true,Bool.and_eq_true]
  refine ⟨decide_eq_true (by show t.2.2.1.length+0<=_;omega),decide_eq_true ?_,(Bool.and_eq_true _ _).mpr ⟨hs,h6⟩⟩
  show (t.2.2.1++ [0]++ []).length<=_
  rw [List.length_append,List.length_append]
  simp only [List.length_cons,List.length_nil]
  omega
 ·refine (OT.az h).trans (Eq.trans ?_ (OT.az (b:=t.2.1.1==1) h).symm)
  by_cases h2:(t.2.1.2.length:Int)<=t.2.2.2.1
  ·exact (OT.az (decide_eq_true h2)).trans (OT.az (b:=decide ((t.2.1.2.length:Int)<=t.2.2.2.1)) (decide_eq_true h2)).symm
  ·refine (OT.aq (decide_eq_false h2)).trans (Eq.trans ((aj ?_).trans rfl) (OT.aq (b:=decide ((t.2.1.2.length:Int)<=t.2.2.2.1)) (decide_eq_false h2)).symm)
   simp only [List.all_cons,List.all_nil,Bool.and_true,Bool.and_eq_true]
   exact ⟨aM (by omega),hs,aL (by omega)⟩
theorem aru:aa Tryz.prog 23 (fN.aD kh aib):=abT _ _ λx oy hp ho=>by
 rw [<-ho]
 clear ho
 obtain ⟨⟨t,⟨⟩⟩,⟨⟩⟩:=x
 obtain ⟨hs,hl⟩:=(Bool.and_eq_true _ _).mp hp
 obtain ⟨h1,h2,h3⟩:=of_decide_eq_true hl
 refine (abU (t:=t) hs h1 h2 h3 (Eq.refl _) (ay3 _) (Eq.refl _)).trans ?_
 show _=some (⟨hJ,(((iE t).1,((iE t).2.1,((iE t).2.2,()))),())⟩:fN.Y)
 unfold iE
 generalize vM (cU t.1 1) (wb fJ 64 (t.2.2.1++ [0]++ []))=W
 rcases (Bool.eq_false_or_eq_true (t.2.1.1==1)).symm with h|h
 ·rw [h];rfl
 ·rw [h]
  rcases (Bool.eq_false_or_eq_true (decide ((t.2.1.2.length:Int)<=t.2.2.2.1))).symm with h2|h2
  ·rw [h2];rfl
  ·rw [h2];rfl
def wh:bw:=(fN.aD kh aib)
theorem Wj:aa Tryz.prog 23 wh:=aru
theorem Wi:aC wh:=ay
def AG:Env:=aw 23 wh AE
theorem xg:aK Tryz.prog AG:=af Wj xf
theorem AF:ar AG:=ab Wi AD
theorem ZT:aO Tryz.prog te AG:=aE follows al xg AF
abbrev aIk:Ty:=.prod .int (.prod .elem (.prod .elem (.prod .elem .bool)))
def qg:ap:=⟨[.val false (.list aIk)],[],false,0,false⟩
abbrev ami:Type:=((List ((Int×(ag×(ag×(ag×Bool))))))×Unit)×(Unit)
def Jy:av:=⟨[.val false (.list (.prod .int (.prod .elem (.prod .elem (.prod .elem .bool)))))],[],false⟩
def aiO:SV->Option av:=λ_=>some Jy
def aiQ (a0:List ((Int×(ag×(ag×(ag×Bool)))))):OT qg.Y:=
 let z0:Nat:=List.length a0
 (.br (decide ((60:Int)<(↑z0:Int)))
 (gd [bj (0:Int) (60:Int) z0] (.ok ⟨Jy,((List.drop 0 (List.take 60 a0),()),())⟩))
 (.ok ⟨Jy,((a0,()),())⟩))
theorem aGW (x:ami) (Q:qg.Y->Prop):wpf te AG ax 1000 Tryz.f16 (qg.inp.inj x).tm (qg.inp.inj x).hp (fnK qg aiO Q) (λ_ _=>False)=(aiQ (x.1.1)).wpR Q:=by kernel_rfl
theorem asM (pre:ami->Bool) (F:ami->OT qg.Y) (hF:∀ (x:ami) oy,pre x=true->(F x).run=some oy->(aiQ (x.1.1)).run=some oy):aa Tryz.prog 16 (qg.aD pre F):=
 aB al xg ZT (f:=16) (fn:=Tryz.f16) (c:=ak Tryz.f16) (by kernel_rfl) (by kernel_rfl) (by kernel_rfl) (S:=qg) (k:=0) (by kernel_rfl) (λR hR=>ae) (n:=1000) (sel:=aiO) (λv o h=>by cases h;rfl) (pre:=pre) (F:=F) (T:=λx=>aiQ (x.1.1)) (λx Q=>aGW x Q) hF
abbrev OpY:Type:=Int×(ag×(ag×(ag×Bool)))
def aiP (_:ami):Bool:=true
def aA9 (x:ami):OT qg.Y:=.ok ⟨Jy,((x.1.1.take 60,()),())⟩
theorem aEy:aa Tryz.prog 16 (qg.aD aiP aA9):=asM _ _ λx oy hp ho=>by
 rw [<-ho]
 clear ho
 obtain ⟨⟨l,⟨⟩⟩,⟨⟩⟩:=x
 show (aiQ l).run=some (⟨Jy,((l.take 60,()),())⟩:qg.Y)
 by_cases h:(60:Int)<(l.length:Int)
 ·refine (OT.az (decide_eq_true h)).trans ((aj ?_).trans rfl)
  simp only [List.all_cons,List.all_nil,Bool.and_true]
  exact bu (by omega)
 ·rw [List.take_of_length_le (by omega)]
  exact (OT.aq (decide_eq_false h)).trans rfl
def Jx:bw:=(qg.aD aiP aA9)
theorem amh:aa Tryz.prog 16 Jx:=aEy
theorem amg:aC Jx:=ay
def ZX:Env:=aw 16 Jx AG
theorem Ma:aK Tryz.prog ZX:=af amh xg
theorem Mb:ar ZX:=ab amg AF
theorem an6:aO Tryz.prog te ZX:=aE follows al Ma Mb
def gV:ap:=⟨[.ptr 0 0 0],[(0,.cells [.val false .int,.ifp 133 1,.own 2]),(1,.cells [.val false .int,.val false (.list .elem)]),(2,.row .u8)],false,3,true⟩
abbrev BV:Type:=((Unit)×Unit)×(((Int)×(Unit)×(Unit)×Unit)×((Int)×(List (ag))×Unit)×(List (UInt8))×Unit)
def HN:av:=⟨[.val false .int],[(0,.cells [.val false .int,.ifp 133 1,.own 2]),(1,.cells [.val false .int,.val false (.list .elem)]),(2,.row .u8)],false⟩
def Om:SV->Option av:=λ_=>some HN
def Rm (c0_0:Int) (c1_0:Int) (c1_1:List (ag)) (c2:List (UInt8)):OT gV.Y:=
 (.ok ⟨HN,((c0_0,()),((c0_0,((),((),()))),((c1_0,(c1_1,())),(c2,()))))⟩)
theorem axV (x:BV) (Q:gV.Y->Prop):wpf te ZX ax 1000 Tryz.f26 (gV.inp.inj x).tm (gV.inp.inj x).hp (fnK gV Om Q) (λ_ _=>False)=(Rm (x.2.1.1) (x.2.2.1.1) (x.2.2.1.2.1) (x.2.2.2.1)).wpR Q:=by kernel_rfl
theorem abg (pre:BV->Bool) (F:BV->OT gV.Y) (hF:∀ (x:BV) oy,pre x=true->(F x).run=some oy->(Rm (x.2.1.1) (x.2.2.1.1) (x.2.2.1.2.1) (x.2.2.2.1)).run=some oy):aa Tryz.prog 26 (gV.aD pre F):=
 aB al Ma an6 (f:=26) (fn:=Tryz.f26) (c:=ak Tryz.f26) (by kernel_rfl) (by kernel_rfl) (by kernel_rfl) (S:=gV) (k:=3) (by kernel_rfl) (λR hR=>ae) (n:=1000) (sel:=Om) (λv o h=>by cases h;rfl) (pre:=pre) (F:=F) (T:=λx=>Rm (x.2.1.1) (x.2.2.1.1) (x.2.2.1.2.1) (x.2.2.2.1)) (λx Q=>axV x Q) hF
def On (_:BV):Bool:=true
def ahN (x:BV):OT gV.Y:=.ok ⟨HN,((x.2.1.1,()),x.2)⟩
theorem aqv:aa Tryz.prog 26 (gV.aD On ahN):=abg _ _ λx oy hp ho=>by
 rw [<-ho]
 rfl
def oL:bw:=(gV.aD On ahN)
theorem Ey:aa Tryz.prog 26 oL:=aqv
theorem Ex:aC oL:=ay
def Aw:Env:=aw 26 oL ZX
theorem xa:aK Tryz.prog Aw:=af Ey Ma
theorem Av:ar Aw:=ab Ex Mb
theorem ZL:aO Tryz.prog te Aw:=aE follows al xa Av
def iw:ap:=⟨[.ptr 0 0 0],[(0,.cells [.val false .int,.ifp 141 1,.own 3]),(1,.cells [.val false .int,.ptr 2 0 0]),(2,TA (.own 4)),(3,.row .u8),(4,.row .u8)],false,5,true⟩
abbrev C3:Type:=((Unit)×Unit)×(((Int)×(Unit)×(Unit)×Unit)×((Int)×(Unit)×Unit)×((Int)×(UInt64)×(UInt64)×(UInt64)×(UInt64)×(UInt64)×(UInt64)×(UInt64)×(UInt64)×(Unit)×(UInt64)×Unit)×(List (UInt8))×(List (UInt8))×Unit)
def JK:av:=⟨[.val false .int],[(0,.cells [.val false .int,.ifp 141 1,.own 3]),(1,.cells [.val false .int,.ptr 2 0 0]),(2,.cells [.val false .int,.val false .u64,.val false .u64,.val false .u64,.val false .u64,.val false .u64,.val false .u64,.val false .u64,.val false .u64,.own 4,.val false .u64]),(3,.row .u8),(4,.row .u8)],false⟩
def PG:SV->Option av:=λ_=>some JK
def SZ (c0_0:Int) (c1_0:Int) (c2_0:Int) (c2_1:UInt64) (c2_2:UInt64) (c2_3:UInt64) (c2_4:UInt64) (c2_5:UInt64) (c2_6:UInt64) (c2_7:UInt64) (c2_8:UInt64) (c2_10:UInt64) (c3:List (UInt8)) (c4:List (UInt8)):OT iw.Y:=
 (.ok ⟨JK,((c0_0,()),((c0_0,((),((),()))),((c1_0,((),())),((c2_0,(c2_1,(c2_2,(c2_3,(c2_4,(c2_5,(c2_6,(c2_7,(c2_8,((),(c2_10,()))))))))))),(c3,(c4,()))))))⟩)
theorem azj (x:C3) (Q:iw.Y->Prop):wpf te Aw ax 1000 Tryz.f26 (iw.inp.inj x).tm (iw.inp.inj x).hp (fnK iw PG Q) (λ_ _=>False)=(SZ (x.2.1.1) (x.2.2.1.1) (x.2.2.2.1.1) (x.2.2.2.1.2.1) (x.2.2.2.1.2.2.1) (x.2.2.2.1.2.2.2.1) (x.2.2.2.1.2.2.2.2.1) (x.2.2.2.1.2.2.2.2.2.1) (x.2.2.2.1.2.2.2.2.2.2.1) (x.2.2.2.1.2.2.2.2.2.2.2.1) (x.2.2.2.1.2.2.2.2.2.2.2.2.1) (x.2.2.2.1.2.2.2.2.2.2.2.2.2.2.1) (x.2.2.2.2.1) (x.2.2.2.2.2.1)).wpR Q:=by kernel_rfl
theorem adh (pre:C3->Bool) (F:C3->OT iw.Y) (hF:∀ (x:C3) oy,pre x=true->(F x).run=some oy->(SZ (x.2.1.1) (x.2.2.1.1) (x.2.2.2.1.1) (x.2.2.2.1.2.1) (x.2.2.2.1.2.2.1) (x.2.2.2.1.2.2.2.1) (x.2.2.2.1.2.2.2.2.1) (x.2.2.2.1.2.2.2.2.2.1) (x.2.2.2.1.2.2.2.2.2.2.1) (x.2.2.2.1.2.2.2.2.2.2.2.1) (x.2.2.2.1.2.2.2.2.2.2.2.2.1) (x.2.2.2.1.2.2.2.2.2.2.2.2.2.2.1) (x.2.2.2.2.1) (x.2.2.2.2.2.1)).run=some oy):aa Tryz.prog 26 (iw.aD pre F):=
 aB al xa ZL (f:=26) (fn:=Tryz.f26) (c:=ak Tryz.f26) (by kernel_rfl) (by kernel_rfl) (by kernel_rfl) (S:=iw) (k:=5) (by kernel_rfl) (λR hR=>ae) (n:=1000) (sel:=PG) (λv o h=>by cases h;rfl) (pre:=pre) (F:=F) (T:=λx=>SZ (x.2.1.1) (x.2.2.1.1) (x.2.2.2.1.1) (x.2.2.2.1.2.1) (x.2.2.2.1.2.2.1) (x.2.2.2.1.2.2.2.1) (x.2.2.2.1.2.2.2.2.1) (x.2.2.2.1.2.2.2.2.2.1) (x.2.2.2.1.2.2.2.2.2.2.1) (x.2.2.2.1.2.2.2.2.2.2.2.1) (x.2.2.2.1.2.2.2.2.2.2.2.2.1) (x.2.2.2.1.2.2.2.2.2.2.2.2.2.2.1) (x.2.2.2.2.1) (x.2.2.2.2.2.1)) (λx Q=>azj x Q) hF
def PH (_:C3):Bool:=true
def aiZ (x:C3):OT iw.Y:=.ok ⟨JK,((x.2.1.1,()),x.2)⟩
theorem as5:aa Tryz.prog 26 (iw.aD PH aiZ):=adh _ _ λx oy hp ho=>by
 rw [<-ho]
 rfl
def pl:bw:=(iR 0 1 133 oL (iw.aD PH aiZ))
theorem EZ:aa Tryz.prog 26 pl:=(dR Ey as5)
theorem EY:aC pl:=(cB Ex ay)
def AX:Env:=aw 26 pl Aw
theorem xl:aK Tryz.prog AX:=af EZ xa
theorem AW:ar AX:=ab EY Av
theorem ZZ:aO Tryz.prog te AX:=aE follows al xl AW
end Go.Proofs.YtohjofabochgfaaGreat

namespace Go.Proofs.YtohjofabochgfaaGreat
namespace Sx
open Go Go.RowKit Go.ChangeShapes Go.WideShapes Go.ChangeAt
theorem ac1 {H:Type} {enc:TypeId×Value->H} {P:Program} {te:TE} (hte:l7 P te) {w:World} {sp:Nat->Bool} {T e:TypeId} {ti ei:TI} (hT:te T=some ti) (hd:ti.desc=.slice e) (hei:te e=some ei) {t:Ty} {F:Ctx} {x:List t.T} {v:Value} {d:DataW H} {ps:List MemPlace}
 (hx:Rep F.F (.list t) x [v]) (h:DataW.Trod enc P w 0 sp true T v d ps) (hw:(d.weights P T).all (· <=reachBytes)=true):x.length*ei.bytes<=reachBytes:=by
 simp only [Rep] at hx
 obtain ⟨_,ad,cap,hv,_⟩:=hx
 cases hv
 exact HR hte hT hd hei h λn hn=>by simpa using List.all_eq_true.1 hw n hn
end Sx
end Go.Proofs.YtohjofabochgfaaGreat

namespace Go.Proofs.YtohjofabochgfaaGreat
namespace Sx
open Go Go.RowKit Go.ChangeShapes Go.WideShapes Go.ChangeAt
theorem al3 {H:Type} {enc:TypeId×Value->H} {P:Program} {w:World} {sp:Nat->Bool} {T:TypeId} {fs:Array Field} {f0 f1:Field} (hu:P.underlying T=some (.struct fs)) (hfs:fs.toList= [f0,f1]) (ho:f1.offset=1) (hc:P.cellsOf f1.type=1)
 {v c0 c1:Value} (hv:v.cells.toList= [c0,c1]) (h1:c1.cells.toList= [c1]) {d:DataW H} {ps:List MemPlace} (h:DataW.Trod enc P w 0 sp true T v d ps) (hw:∀ n ∈ d.weights P T,n<=reachBytes):
 ∃ d1 p1,DataW.Trod enc P w 0 sp true f1.type c1 d1 p1/\∀ n ∈ d1.weights P f1.type,n<=reachBytes:=by
 obtain ⟨fuel,hr⟩:=h
 rw [hv] at hr
 cases fuel with
 |zero=>simp [DataW.trod] at hr
 |succ fuel=>
  simp only [DataW.trod,hu,hfs] at hr
  split at hr
  ·simp only [List.mapM_cons,List.mapM_nil,Option.map_eq_some_iff,Option.bind_eq_bind,Option.bind_eq_some_iff,Option.pure_def] at hr
   obtain ⟨xs,⟨x0,_,ys,⟨x1,hx1,zs,hz,hy⟩,hxs⟩,hd⟩:=hr
   cases hz
   cases hy
   cases hxs
   cases hd
   refine ⟨x1.1,x1.2,⟨fuel,?_⟩,λn hn=>hw n ?_⟩
   ·rw [h1]
    rw [ho,hc] at hx1
    exact hx1
   ·simp only [DataW.weights,hu,hfs,List.map_cons,List.map_nil,DataW.weightsEach,List.append_nil,List.mem_append]
    exact .inr hn
  ·cases hr
def aGK (P:Program) (T T1:TypeId):Bool:=match P.underlying T with
 |some (.struct fs)=>match fs.toList with
  | [_,f1]=>Nat.beq f1.offset 1&&(Nat.beq f1.type T1&&Nat.beq (P.cellsOf T1) 1)
  |_=>false
 |_=>false
theorem aEk {H:Type} {enc:TypeId×Value->H} {P:Program} {w:World} {sp:Nat->Bool} {T T1:TypeId} (hb:aGK P T T1=true)
 {v c0 c1:Value} (hv:v.cells.toList= [c0,c1]) (h1:c1.cells.toList= [c1]) {d:DataW H} {ps:List MemPlace} (h:DataW.Trod enc P w 0 sp true T v d ps) (hw:∀ n ∈ d.weights P T,n<=reachBytes):
 ∃ d1 p1,DataW.Trod enc P w 0 sp true T1 c1 d1 p1/\∀ n ∈ d1.weights P T1,n<=reachBytes:=by
 unfold aGK at hb
 split at hb
 ·rename_i fs hu
  split at hb
  ·rename_i f0 f1 hfs
   simp only [Bool.and_eq_true] at hb
   have h0:=Nat.eq_of_beq_eq_true hb.1
   have h2:f1.type=T1:=Nat.eq_of_beq_eq_true hb.2.1
   have h3:=Nat.eq_of_beq_eq_true hb.2.2
   subst h2
   exact al3 hu hfs h0 h3 hv h1 h hw
  ·cases hb
 ·cases hb
end Sx
end Go.Proofs.YtohjofabochgfaaGreat

namespace Go.Proofs.YtohjofabochgfaaGreat
open Sx Go
set_option maxRecDepth 100000
def kH:ap:=⟨[.ptr 0 0 0,.val true .elem],[(0,.cells [.val false .int,.ifp 133 1,.val false (.list .u8)]),(1,.cells [.val false .int,.val false (.list .elem)])],false,2,true⟩
abbrev N3:Type:=((Unit)×(ag)×Unit)×(((Int)×(Unit)×(List (UInt8))×Unit)×((Int)×(List (ag))×Unit)×Unit)
def Gq:av:=⟨[],[(0,.cells [.val false .int,.ifp 133 1,.val false (.list .u8)]),(1,.cells [.val false .int,.val false (.list .elem)])],false⟩
def Vh:SV->Option av:=λ_=>some Gq
def aaO (a1:ag) (c0_0:Int) (c0_2:List (UInt8)) (c1_0:Int) (c1_1:List (ag)):OT kH.Y:=
 (.br (au (cU c0_0 (1:Int)))
 (.ok ⟨Gq,((),((c0_0,((),(c0_2,()))),((c1_0,(c1_1,())),())))⟩)
 (.ok ⟨Gq,((),((c0_0,((),(c0_2,()))),((c1_0,(c1_1,())),())))⟩))
theorem aBY (x:N3) (Q:kH.Y->Prop):wpf te AX ax 1000 Tryz.f17 (kH.inp.inj x).tm (kH.inp.inj x).hp (fnK kH Vh Q) (λ_ _=>False)=(aaO (x.1.2.1) (x.2.1.1) (x.2.1.2.2.1) (x.2.2.1.1) (x.2.2.1.2.1)).wpR Q:=by kernel_rfl
theorem akN (pre:N3->Bool) (F:N3->OT kH.Y) (hF:∀ (x:N3) oy,pre x=true->(F x).run=some oy->(aaO (x.1.2.1) (x.2.1.1) (x.2.1.2.2.1) (x.2.2.1.1) (x.2.2.1.2.1)).run=some oy):aa Tryz.prog 17 (kH.aD pre F):=
 aB al xl ZZ (f:=17) (fn:=Tryz.f17) (c:=ak Tryz.f17) (by kernel_rfl) (by kernel_rfl) (by kernel_rfl) (S:=kH) (k:=2) (by kernel_rfl) (λR hR=>ae) (n:=1000) (sel:=Vh) (λv o h=>by cases h;rfl) (pre:=pre) (F:=F) (T:=λx=>aaO (x.1.2.1) (x.2.1.1) (x.2.1.2.2.1) (x.2.2.1.1) (x.2.2.1.2.1)) (λx Q=>aBY x Q) hF
def xU (x:N3):Bool:=au (cU x.2.1.1 1)
def aoZ (x:N3):OT kH.Y:=.ok ⟨Gq,((),x.2)⟩
theorem avM:aa Tryz.prog 17 (kH.aD xU aoZ):=akN _ _ λx oy hp ho=>by
 rw [<-ho]
 clear ho
 obtain ⟨⟨⟨⟩,v,⟨⟩⟩,⟨⟨c,⟨⟩,b,⟨⟩⟩,⟨s,l,⟨⟩⟩,⟨⟩⟩⟩:=x
 have hs:au (cU c 1)=true:=hp
 exact (OT.az hs).trans rfl
def ta:bw:=(kH.aD xU aoZ)
theorem Hx:aa Tryz.prog 17 ta:=avM
theorem Hw:aC ta:=ay
def Lw:Env:=aw 17 ta AX
theorem DM:aK Tryz.prog Lw:=af Hx xl
theorem Fo:ar Lw:=ab Hw AW
theorem aeK:aO Tryz.prog te Lw:=aE follows al DM Fo
end Go.Proofs.YtohjofabochgfaaGreat

namespace Go.Proofs.YtohjofabochgfaaGreat
namespace Sx
open Go
def ay8 (args:List SV) (hp:Hp) (a k:Nat):Option Bool:=match args.getD a .bF with
 |.ptr c _ _ off=>match hp c with
  |some ⟨_,.cells vs⟩=>match vs.getD (off+k) .bF with
   |.lst _ _=>some true
   |_=>some false
  |_=>none
 |_=>none
theorem acX {d:Nat} {hp hp':Hp} (hg:Zu d hp hp') {args:List SV} {a k:Nat} {t:Bool} (h:ay8 args hp a k=some t):ay8 args hp' a k=some t:=by
 unfold ay8 at h⊢
 split at h
 ·split at h
  ·rename_i e vs hc
   rw [hg.jD _ _ hc]
   exact h
  ·cases h
 ·cases h
def ad6 (a k:Nat) (s0 s1:bw):bw:=⟨s0.mod||s1.mod,λd args hp=>match ay8 args hp a k with
 |some t=>cond t (s1.f d args hp) (s0.f d args hp)
 |none=>.fail⟩
theorem TP {P:Program} {f:FuncId} {a k:Nat} {s0 s1:bw} (h0:aa P f s0) (h1:aa P f s1):aa P f (ad6 a k s0 s1):=by
 refine ⟨λR w d args vs out hm hr hrun=> ?_⟩
 simp only [ad6] at hrun
 split at hrun
 ·rename_i t ht
  cases t
  ·exact h0.calls R w d args vs out hm hr hrun
  ·exact h1.calls R w d args vs out hm hr hrun
 ·cases hrun
theorem Dm {a k:Nat} {s0 s1:bw} (h0:aC s0) (h1:aC s1):aC (ad6 a k s0 s1):=λd args hp hp' out hg hrun=>by
 simp only [ad6] at hrun⊢
 split at hrun
 ·rename_i t ht
  rw [acX hg ht]
  dsimp only
  cases t
  ·exact h0 d args hp hp' out hg hrun
  ·exact h1 d args hp hp' out hg hrun
 ·cases hrun
end Sx
end Go.Proofs.YtohjofabochgfaaGreat

namespace Go.Proofs.YtohjofabochgfaaGreat
open Sx Go
set_option maxRecDepth 100000
def kv:ap:=⟨[.ptr 0 0 0,.val true .elem],[(0,.cells [.val false .int,.ifp 141 1,.val false (.list .u8)]),(1,.cells [.val false .int,.ptr 2 0 0]),(2,TA (.own 3)),(3,.row .u8)],false,3,true⟩
abbrev NK:Type:=((Unit)×(ag)×Unit)×(((Int)×(Unit)×(List (UInt8))×Unit)×((Int)×(Unit)×Unit)×((Int)×(UInt64)×(UInt64)×(UInt64)×(UInt64)×(UInt64)×(UInt64)×(UInt64)×(UInt64)×(Unit)×(UInt64)×Unit)×(List (UInt8))×Unit)
def xI:av:=⟨[],[(0,.cells [.val false .int,.ifp 141 1,.val false (.list .u8)]),(1,.cells [.val false .int,.ptr 2 0 0]),(2,.cells [.val false .int,.val false .u64,.val false .u64,.val false .u64,.val false .u64,.val false .u64,.val false .u64,.val false .u64,.val false .u64,.own 3,.val false .u64]),(3,.row .u8)],false⟩
def U1:SV->Option av:=λ_=>some xI
def Hn (a1:ag) (c0_0:Int) (c0_2:List (UInt8)) (c1_0:Int) (c2_0:Int) (c2_1:UInt64) (c2_2:UInt64) (c2_3:UInt64) (c2_4:UInt64) (c2_5:UInt64) (c2_6:UInt64) (c2_7:UInt64) (c2_8:UInt64) (c2_10:UInt64) (c3:List (UInt8)):OT kv.Y:=
 let z0:Int:=cU c0_0 (1:Int)
 let z1:List UInt8:=P8 (ofN (ag.nat a1%ag.nat (aS (Int.toNat z0)).fst))
 let z2:Int×UInt64×UInt64×UInt64×UInt64×UInt64×UInt64×UInt64×UInt64×PUnit×UInt64×PUnit:=(c2_0,c2_1,c2_2,c2_3,c2_4,c2_5,c2_6,c2_7,c2_8,(),c2_10,())
 let z3:(Int×PUnit×PUnit)×(Int×UInt64×UInt64×UInt64×UInt64×UInt64×UInt64×UInt64×UInt64×PUnit×UInt64×PUnit)×List UInt8×PUnit:=((c1_0,(),()),z2,c3,())
 let z4:(Int×UInt64×UInt64×UInt64×UInt64×UInt64×UInt64×UInt64×UInt64×PUnit×UInt64×PUnit)×List UInt8:=jP z2 c3 (2:UInt8) z1
 let z5:=z4.fst
 let z6:=z5.snd
 let z7:=z6.snd
 let z8:=z7.snd
 let z9:=z8.snd
 let z10:=z9.snd
 let z11:=z10.snd
 let z12:=z11.snd
 let z13:=z12.snd
 let z14:(Int×UInt64×UInt64×UInt64×UInt64×UInt64×UInt64×UInt64×UInt64×PUnit×UInt64×PUnit)×List UInt8:=jP z2 c3 (2:UInt8) []
 let z15:=z14.fst
 let z16:=z15.snd
 let z17:=z16.snd
 let z18:=z17.snd
 let z19:=z18.snd
 let z20:=z19.snd
 let z21:=z20.snd
 let z22:=z21.snd
 let z23:=z22.snd
 (.br (au z0)
 (gd [gh (((),(2:UInt8),z1,()),z3)] (.ok ⟨xI,((),((c0_0,((),(c0_2,()))),((c1_0,((),())),((z5.fst,(z6.fst,(z7.fst,(z8.fst,(z9.fst,(z10.fst,(z11.fst,(z12.fst,(z13.fst,((),(z13.snd.snd.fst,()))))))))))),(z4.snd,())))))⟩))
 (gd [gh (((),(2:UInt8),[],()),z3)] (.ok ⟨xI,((),((c0_0,((),(c0_2,()))),((c1_0,((),())),((z15.fst,(z16.fst,(z17.fst,(z18.fst,(z19.fst,(z20.fst,(z21.fst,(z22.fst,(z23.fst,((),(z23.snd.snd.fst,()))))))))))),(z14.snd,())))))⟩)))
theorem aBP (x:NK) (Q:kv.Y->Prop):wpf te Lw ax 1000 Tryz.f17 (kv.inp.inj x).tm (kv.inp.inj x).hp (fnK kv U1 Q) (λ_ _=>False)=(Hn (x.1.2.1) (x.2.1.1) (x.2.1.2.2.1) (x.2.2.1.1) (x.2.2.2.1.1) (x.2.2.2.1.2.1) (x.2.2.2.1.2.2.1) (x.2.2.2.1.2.2.2.1) (x.2.2.2.1.2.2.2.2.1) (x.2.2.2.1.2.2.2.2.2.1) (x.2.2.2.1.2.2.2.2.2.2.1) (x.2.2.2.1.2.2.2.2.2.2.2.1) (x.2.2.2.1.2.2.2.2.2.2.2.2.1) (x.2.2.2.1.2.2.2.2.2.2.2.2.2.2.1) (x.2.2.2.2.1)).wpR Q:=by kernel_rfl
theorem akB (pre:NK->Bool) (F:NK->OT kv.Y) (hF:∀ (x:NK) oy,pre x=true->(F x).run=some oy->(Hn (x.1.2.1) (x.2.1.1) (x.2.1.2.2.1) (x.2.2.1.1) (x.2.2.2.1.1) (x.2.2.2.1.2.1) (x.2.2.2.1.2.2.1) (x.2.2.2.1.2.2.2.1) (x.2.2.2.1.2.2.2.2.1) (x.2.2.2.1.2.2.2.2.2.1) (x.2.2.2.1.2.2.2.2.2.2.1) (x.2.2.2.1.2.2.2.2.2.2.2.1) (x.2.2.2.1.2.2.2.2.2.2.2.2.1) (x.2.2.2.1.2.2.2.2.2.2.2.2.2.2.1) (x.2.2.2.2.1)).run=some oy):aa Tryz.prog 17 (kv.aD pre F):=
 aB al DM aeK (f:=17) (fn:=Tryz.f17) (c:=ak Tryz.f17) (by kernel_rfl) (by kernel_rfl) (by kernel_rfl) (S:=kv) (k:=4) (by kernel_rfl) (λR hR=>ae) (n:=1000) (sel:=U1) (λv o h=>by cases h;rfl) (pre:=pre) (F:=F) (T:=λx=>Hn (x.1.2.1) (x.2.1.1) (x.2.1.2.2.1) (x.2.2.1.1) (x.2.2.2.1.1) (x.2.2.2.1.2.1) (x.2.2.2.1.2.2.1) (x.2.2.2.1.2.2.2.1) (x.2.2.2.1.2.2.2.2.1) (x.2.2.2.1.2.2.2.2.2.1) (x.2.2.2.1.2.2.2.2.2.2.1) (x.2.2.2.1.2.2.2.2.2.2.2.1) (x.2.2.2.1.2.2.2.2.2.2.2.2.1) (x.2.2.2.1.2.2.2.2.2.2.2.2.2.2.1) (x.2.2.2.2.1)) (λx Q=>aBP x Q) hF
def xH (x:NK):Bool:=au (cU x.2.1.1 1)&&decide (x.2.2.2.2.1.length<=128)
def aoL (x:NK):OT kv.Y:=.ok ⟨xI,((),((x.2.1.1,((),(x.2.1.2.2.1,()))),((x.2.2.1.1,((),())),((jP x.2.2.2.1 x.2.2.2.2.1 2 (dX x.2.1.1 x.1.2.1)).1,((jP x.2.2.2.1 x.2.2.2.2.1 2 (dX x.2.1.1 x.1.2.1)).2,())))))⟩
theorem akC {c s:Int} {v:ag} {d:UI} {w b:List UInt8} (hs:au (cU c 1)=true) (hw:w.length<=128):
 (Hn v c b s d.1 d.2.1 d.2.2.1 d.2.2.2.1 d.2.2.2.2.1 d.2.2.2.2.2.1 d.2.2.2.2.2.2.1 d.2.2.2.2.2.2.2.1 d.2.2.2.2.2.2.2.2.1 d.2.2.2.2.2.2.2.2.2.2.1 w).run=some ⟨xI,((),((c,((),(b,()))),((s,((),())),((jP d w 2 (dX c v)).1,((jP d w 2 (dX c v)).2,())))))⟩:=by
 have hb:=gy c v
 generalize hB:dX c v=B at hb
 have hB:P8 (ofN (v.nat%(aS (cU c 1).toNat).1.nat))=B:=hB
 unfold Hn
 simp only [hB]
 refine (OT.az hs).trans ((aj ?_).trans rfl)
 simp only [List.all_cons,List.all_nil,Bool.and_true]
 exact decide_eq_true (by show w.length+B.length<=_;omega)
theorem avD:aa Tryz.prog 17 (kv.aD xH aoL):=akB _ _ λx oy hp ho=>by
 rw [<-ho]
 clear ho
 obtain ⟨⟨⟨⟩,v,⟨⟩⟩,⟨⟨c,⟨⟩,b,⟨⟩⟩,⟨s,⟨⟩,⟨⟩⟩,d,w,⟨⟩⟩⟩:=x
 obtain ⟨hs,hw⟩:=(Bool.and_eq_true _ _).mp hp
 exact akC hs (of_decide_eq_true hw)
def BA:bw:=(ad6 0 2 ub (iR 0 1 133 ta (kv.aD xH aoL)))
theorem aaA:aa Tryz.prog 17 BA:=(TP JI (dR Hx avD))
theorem aaz:aC BA:=(Dm JH (cB Hw ay))
def Lk:Env:=aw 17 BA Lw
theorem DI:aK Tryz.prog Lk:=af aaA DM
theorem Fi:ar Lk:=ab aaz Fo
theorem aeG:aO Tryz.prog te Lk:=aE follows al DI Fi
def kJ:ap:=⟨[.ptr 0 0 0],[(0,.cells [.val false .int,.ifp 133 1,.val false (.list .u8)]),(1,.cells [.val false .int,.val false (.list .elem)])],false,2,true⟩
abbrev N8:Type:=((Unit)×Unit)×(((Int)×(Unit)×(List (UInt8))×Unit)×((Int)×(List (ag))×Unit)×Unit)
def Q9:av:=⟨[.val true .elem,.val false .int],[(0,.cells [.val false .int,.ifp 133 1,.val false (.list .u8)]),(1,.cells [.val false .int,.val false (.list .elem)])],false⟩
def Vl:SV->Option av:=λ_=>some Q9
def aaU (c0_0:Int) (c0_2:List (UInt8)) (c1_0:Int) (c1_1:List (ag)):OT kJ.Y:=
 let z0:ag×Int×List ag:=eF c1_1
 let z1:=z0.snd
 (gd [tg (((),()),(c1_0,c1_1,()),())] (.ok ⟨Q9,((vh (pS c1_0) z0.fst {w0:=0,w1:=0,w2:=0,w3:=0},(z1.fst,())),((c0_0,((),(c0_2,()))),((c1_0,(z1.snd,())),())))⟩))
theorem aB0 (x:N8) (Q:kJ.Y->Prop):wpf te Lk ax 1000 Tryz.f24 (kJ.inp.inj x).tm (kJ.inp.inj x).hp (fnK kJ Vl Q) (λ_ _=>False)=(aaU (x.2.1.1) (x.2.1.2.2.1) (x.2.2.1.1) (x.2.2.1.2.1)).wpR Q:=by kernel_rfl
theorem akP (pre:N8->Bool) (F:N8->OT kJ.Y) (hF:∀ (x:N8) oy,pre x=true->(F x).run=some oy->(aaU (x.2.1.1) (x.2.1.2.2.1) (x.2.2.1.1) (x.2.2.1.2.1)).run=some oy):aa Tryz.prog 24 (kJ.aD pre F):=
 aB al DI aeG (f:=24) (fn:=Tryz.f24) (c:=ak Tryz.f24) (by kernel_rfl) (by kernel_rfl) (by kernel_rfl) (S:=kJ) (k:=2) (by kernel_rfl) (λR hR=>ae) (n:=1000) (sel:=Vl) (λv o h=>by cases h;rfl) (pre:=pre) (F:=F) (T:=λx=>aaU (x.2.1.1) (x.2.1.2.2.1) (x.2.2.1.1) (x.2.2.1.2.1)) (λx Q=>aB0 x Q) hF
def xV (x:N8):Bool:=au x.2.2.1.1&&decide (x.2.2.1.2.1.length<=140737488355328)
def ao3 (x:N8):OT kJ.Y:=.ok ⟨Q9,((vh (pS x.2.2.1.1) (eF x.2.2.1.2.1).1 ⟨0,0,0,0⟩,((eF x.2.2.1.2.1).2.1,())),((x.2.1.1,((),(x.2.1.2.2.1,()))),((x.2.2.1.1,((eF x.2.2.1.2.1).2.2,())),())))⟩
theorem avQ:aa Tryz.prog 24 (kJ.aD xV ao3):=akP _ _ λx oy hp ho=>by
 rw [<-ho]
 clear ho
 obtain ⟨⟨⟨⟩,⟨⟩⟩,⟨⟨c,⟨⟩,b,⟨⟩⟩,⟨s,l,⟨⟩⟩,⟨⟩⟩⟩:=x
 refine (aj ?_).trans rfl
 simp only [List.all_cons,List.all_nil,Bool.and_true]
 exact hp
def tb:bw:=(kJ.aD xV ao3)
theorem HB:aa Tryz.prog 24 tb:=avQ
theorem HA:aC tb:=ay
def Ly:Env:=aw 24 tb Lk
theorem DO:aK Tryz.prog Ly:=af HB DI
theorem Fq:ar Ly:=ab HA Fi
theorem aeL:aO Tryz.prog te Ly:=aE follows al DO Fq
def kw:ap:=⟨[.ptr 0 0 0],[(0,.cells [.val false .int,.ifp 141 1,.val false (.list .u8)]),(1,.cells [.val false .int,.ptr 2 0 0]),(2,TA (.own 3)),(3,.row .u8)],false,3,true⟩
abbrev NN:Type:=((Unit)×Unit)×(((Int)×(Unit)×(List (UInt8))×Unit)×((Int)×(Unit)×Unit)×((Int)×(UInt64)×(UInt64)×(UInt64)×(UInt64)×(UInt64)×(UInt64)×(UInt64)×(UInt64)×(Unit)×(UInt64)×Unit)×(List (UInt8))×Unit)
def Q3:av:=⟨[.val true .elem,.val false .int],[(0,.cells [.val false .int,.ifp 141 1,.val false (.list .u8)]),(1,.cells [.val false .int,.ptr 2 0 0]),(2,.cells [.val false .int,.val false .u64,.val false .u64,.val false .u64,.val false .u64,.val false .u64,.val false .u64,.val false .u64,.val false .u64,.own 3,.val false .u64]),(3,.row .u8)],false⟩
def U4:SV->Option av:=λ_=>some Q3
def aaE (c0_0:Int) (c0_2:List (UInt8)) (c1_0:Int) (c2_0:Int) (c2_1:UInt64) (c2_2:UInt64) (c2_3:UInt64) (c2_4:UInt64) (c2_5:UInt64) (c2_6:UInt64) (c2_7:UInt64) (c2_8:UInt64) (c2_10:UInt64) (c3:List (UInt8)):OT kw.Y:=
 let z0:Int×UInt64×UInt64×UInt64×UInt64×UInt64×UInt64×UInt64×UInt64×PUnit×UInt64×PUnit:=(c2_0,c2_1,c2_2,c2_3,c2_4,c2_5,c2_6,c2_7,c2_8,(),c2_10,())
 let z1:(Int×UInt64×UInt64×UInt64×UInt64×UInt64×UInt64×UInt64×UInt64×PUnit×UInt64×PUnit)×List UInt8:=jP z0 c3 (0:UInt8) []
 let z2:=z1.fst
 let z3:=z2.snd
 let z4:=z3.snd
 let z5:=z4.snd
 let z6:=z5.snd
 let z7:=z6.snd
 let z8:=z7.snd
 let z9:=z8.snd
 let z10:=z9.snd
 (gd [zn (((),()),(c1_0,(),()),z0,c3,())] (.ok ⟨Q3,((TH c1_0 z0 c3,((0:Int),())),((c0_0,((),(c0_2,()))),((c1_0,((),())),((z2.fst,(z3.fst,(z4.fst,(z5.fst,(z6.fst,(z7.fst,(z8.fst,(z9.fst,(z10.fst,((),(z10.snd.snd.fst,()))))))))))),(z1.snd,())))))⟩))
theorem aBQ (x:NN) (Q:kw.Y->Prop):wpf te Ly ax 1000 Tryz.f24 (kw.inp.inj x).tm (kw.inp.inj x).hp (fnK kw U4 Q) (λ_ _=>False)=(aaE (x.2.1.1) (x.2.1.2.2.1) (x.2.2.1.1) (x.2.2.2.1.1) (x.2.2.2.1.2.1) (x.2.2.2.1.2.2.1) (x.2.2.2.1.2.2.2.1) (x.2.2.2.1.2.2.2.2.1) (x.2.2.2.1.2.2.2.2.2.1) (x.2.2.2.1.2.2.2.2.2.2.1) (x.2.2.2.1.2.2.2.2.2.2.2.1) (x.2.2.2.1.2.2.2.2.2.2.2.2.1) (x.2.2.2.1.2.2.2.2.2.2.2.2.2.2.1) (x.2.2.2.2.1)).wpR Q:=by kernel_rfl
theorem akD (pre:NN->Bool) (F:NN->OT kw.Y) (hF:∀ (x:NN) oy,pre x=true->(F x).run=some oy->(aaE (x.2.1.1) (x.2.1.2.2.1) (x.2.2.1.1) (x.2.2.2.1.1) (x.2.2.2.1.2.1) (x.2.2.2.1.2.2.1) (x.2.2.2.1.2.2.2.1) (x.2.2.2.1.2.2.2.2.1) (x.2.2.2.1.2.2.2.2.2.1) (x.2.2.2.1.2.2.2.2.2.2.1) (x.2.2.2.1.2.2.2.2.2.2.2.1) (x.2.2.2.1.2.2.2.2.2.2.2.2.1) (x.2.2.2.1.2.2.2.2.2.2.2.2.2.2.1) (x.2.2.2.2.1)).run=some oy):aa Tryz.prog 24 (kw.aD pre F):=
 aB al DO aeL (f:=24) (fn:=Tryz.f24) (c:=ak Tryz.f24) (by kernel_rfl) (by kernel_rfl) (by kernel_rfl) (S:=kw) (k:=4) (by kernel_rfl) (λR hR=>ae) (n:=1000) (sel:=U4) (λv o h=>by cases h;rfl) (pre:=pre) (F:=F) (T:=λx=>aaE (x.2.1.1) (x.2.1.2.2.1) (x.2.2.1.1) (x.2.2.2.1.1) (x.2.2.2.1.2.1) (x.2.2.2.1.2.2.1) (x.2.2.2.1.2.2.2.1) (x.2.2.2.1.2.2.2.2.1) (x.2.2.2.1.2.2.2.2.2.1) (x.2.2.2.1.2.2.2.2.2.2.1) (x.2.2.2.1.2.2.2.2.2.2.2.1) (x.2.2.2.1.2.2.2.2.2.2.2.2.1) (x.2.2.2.1.2.2.2.2.2.2.2.2.2.2.1) (x.2.2.2.2.1)) (λx Q=>aBQ x Q) hF
def xJ (x:NN):Bool:=au x.2.2.1.1&&decide (x.2.2.2.1.1=64/\x.2.2.2.2.1.length<=128)
def aoN (x:NN):OT kw.Y:=.ok ⟨Q3,((TH x.2.2.1.1 x.2.2.2.1 x.2.2.2.2.1,((0:Int),())),((x.2.1.1,((),(x.2.1.2.2.1,()))),((x.2.2.1.1,((),())),((jP x.2.2.2.1 x.2.2.2.2.1 0 []).1,((jP x.2.2.2.1 x.2.2.2.2.1 0 []).2,())))))⟩
theorem avF:aa Tryz.prog 24 (kw.aD xJ aoN):=akD _ _ λx oy hp ho=>by
 rw [<-ho]
 clear ho
 obtain ⟨⟨⟨⟩,⟨⟩⟩,⟨⟨c,⟨⟩,b,⟨⟩⟩,⟨s,⟨⟩,⟨⟩⟩,⟨n,h0,h1,h2,h3,h4,h5,h6,h7,⟨⟩,k,⟨⟩⟩,w,⟨⟩⟩⟩:=x
 refine (aj ?_).trans rfl
 simp only [List.all_cons,List.all_nil,Bool.and_true]
 exact hp
def BC:bw:=(ad6 0 2 uc (iR 0 1 133 tb (kw.aD xJ aoN)))
theorem aaD:aa Tryz.prog 24 BC:=(TP JM (dR HB avF))
theorem aaC:aC BC:=(Dm JL (cB HA ay))
def Ll:Env:=aw 24 BC Ly
theorem DJ:aK Tryz.prog Ll:=af aaD DO
theorem Fj:ar Ll:=ab aaC Fq
theorem aeI:aO Tryz.prog te Ll:=aE follows al DJ Fj
def gO:ap:=⟨[.ptr 0 0 0],[(0,.cells [.val false .int,.ifp 133 1,.val false (.list .u8)]),(1,.cells [.val false .int,.val false (.list .elem)])],false,2,true⟩
abbrev BH:Type:=((Unit)×Unit)×(((Int)×(Unit)×(List (UInt8))×Unit)×((Int)×(List (ag))×Unit)×Unit)
def Hy:av:=⟨[.val false .int],[(0,.cells [.val false .int,.ifp 133 1,.val false (.list .u8)]),(1,.cells [.val false .int,.val false (.list .elem)])],false⟩
def N4:SV->Option av:=λ_=>some Hy
def Q6 (c0_0:Int) (c0_2:List (UInt8)) (c1_0:Int) (c1_1:List (ag)):OT gO.Y:=
 (.ok ⟨Hy,((c0_0,()),((c0_0,((),(c0_2,()))),((c1_0,(c1_1,())),())))⟩)
theorem avN (x:BH) (Q:gO.Y->Prop):wpf te Ll ax 1000 Tryz.f26 (gO.inp.inj x).tm (gO.inp.inj x).hp (fnK gO N4 Q) (λ_ _=>False)=(Q6 (x.2.1.1) (x.2.1.2.2.1) (x.2.2.1.1) (x.2.2.1.2.1)).wpR Q:=by kernel_rfl
theorem aaP (pre:BH->Bool) (F:BH->OT gO.Y) (hF:∀ (x:BH) oy,pre x=true->(F x).run=some oy->(Q6 (x.2.1.1) (x.2.1.2.2.1) (x.2.2.1.1) (x.2.2.1.2.1)).run=some oy):aa Tryz.prog 26 (gO.aD pre F):=
 aB al DJ aeI (f:=26) (fn:=Tryz.f26) (c:=ak Tryz.f26) (by kernel_rfl) (by kernel_rfl) (by kernel_rfl) (S:=gO) (k:=2) (by kernel_rfl) (λR hR=>ae) (n:=1000) (sel:=N4) (λv o h=>by cases h;rfl) (pre:=pre) (F:=F) (T:=λx=>Q6 (x.2.1.1) (x.2.1.2.2.1) (x.2.2.1.1) (x.2.2.1.2.1)) (λx Q=>avN x Q) hF
def N5 (_:BH):Bool:=true
def afM (x:BH):OT gO.Y:=.ok ⟨Hy,((x.2.1.1,()),x.2)⟩
theorem ao0:aa Tryz.prog 26 (gO.aD N5 afM):=aaP _ _ λx oy hp ho=>by
 rw [<-ho]
 rfl
def oK:bw:=(gO.aD N5 afM)
theorem Ew:aa Tryz.prog 26 oK:=ao0
theorem Ev:aC oK:=ay
def Al:Env:=aw 26 oK Ll
theorem w5:aK Tryz.prog Al:=af Ew DJ
theorem Ak:ar Al:=ab Ev Fj
theorem ZF:aO Tryz.prog te Al:=aE follows al w5 Ak
def gL:ap:=⟨[.ptr 0 0 0],[(0,.cells [.val false .int,.ifp 141 1,.val false (.list .u8)]),(1,.cells [.val false .int,.ptr 2 0 0]),(2,TA (.own 3)),(3,.row .u8)],false,4,true⟩
abbrev BB:Type:=((Unit)×Unit)×(((Int)×(Unit)×(List (UInt8))×Unit)×((Int)×(Unit)×Unit)×((Int)×(UInt64)×(UInt64)×(UInt64)×(UInt64)×(UInt64)×(UInt64)×(UInt64)×(UInt64)×(Unit)×(UInt64)×Unit)×(List (UInt8))×Unit)
def Ho:av:=⟨[.val false .int],[(0,.cells [.val false .int,.ifp 141 1,.val false (.list .u8)]),(1,.cells [.val false .int,.ptr 2 0 0]),(2,.cells [.val false .int,.val false .u64,.val false .u64,.val false .u64,.val false .u64,.val false .u64,.val false .u64,.val false .u64,.val false .u64,.own 3,.val false .u64]),(3,.row .u8)],false⟩
def NL:SV->Option av:=λ_=>some Ho
def Q2 (c0_0:Int) (c0_2:List (UInt8)) (c1_0:Int) (c2_0:Int) (c2_1:UInt64) (c2_2:UInt64) (c2_3:UInt64) (c2_4:UInt64) (c2_5:UInt64) (c2_6:UInt64) (c2_7:UInt64) (c2_8:UInt64) (c2_10:UInt64) (c3:List (UInt8)):OT gL.Y:=
 (.ok ⟨Ho,((c0_0,()),((c0_0,((),(c0_2,()))),((c1_0,((),())),((c2_0,(c2_1,(c2_2,(c2_3,(c2_4,(c2_5,(c2_6,(c2_7,(c2_8,((),(c2_10,()))))))))))),(c3,())))))⟩)
theorem avE (x:BB) (Q:gL.Y->Prop):wpf te Al ax 1000 Tryz.f26 (gL.inp.inj x).tm (gL.inp.inj x).hp (fnK gL NL Q) (λ_ _=>False)=(Q2 (x.2.1.1) (x.2.1.2.2.1) (x.2.2.1.1) (x.2.2.2.1.1) (x.2.2.2.1.2.1) (x.2.2.2.1.2.2.1) (x.2.2.2.1.2.2.2.1) (x.2.2.2.1.2.2.2.2.1) (x.2.2.2.1.2.2.2.2.2.1) (x.2.2.2.1.2.2.2.2.2.2.1) (x.2.2.2.1.2.2.2.2.2.2.2.1) (x.2.2.2.1.2.2.2.2.2.2.2.2.1) (x.2.2.2.1.2.2.2.2.2.2.2.2.2.2.1) (x.2.2.2.2.1)).wpR Q:=by kernel_rfl
theorem aaB (pre:BB->Bool) (F:BB->OT gL.Y) (hF:∀ (x:BB) oy,pre x=true->(F x).run=some oy->(Q2 (x.2.1.1) (x.2.1.2.2.1) (x.2.2.1.1) (x.2.2.2.1.1) (x.2.2.2.1.2.1) (x.2.2.2.1.2.2.1) (x.2.2.2.1.2.2.2.1) (x.2.2.2.1.2.2.2.2.1) (x.2.2.2.1.2.2.2.2.2.1) (x.2.2.2.1.2.2.2.2.2.2.1) (x.2.2.2.1.2.2.2.2.2.2.2.1) (x.2.2.2.1.2.2.2.2.2.2.2.2.1) (x.2.2.2.1.2.2.2.2.2.2.2.2.2.2.1) (x.2.2.2.2.1)).run=some oy):aa Tryz.prog 26 (gL.aD pre F):=
 aB al w5 ZF (f:=26) (fn:=Tryz.f26) (c:=ak Tryz.f26) (by kernel_rfl) (by kernel_rfl) (by kernel_rfl) (S:=gL) (k:=4) (by kernel_rfl) (λR hR=>ae) (n:=1000) (sel:=NL) (λv o h=>by cases h;rfl) (pre:=pre) (F:=F) (T:=λx=>Q2 (x.2.1.1) (x.2.1.2.2.1) (x.2.2.1.1) (x.2.2.2.1.1) (x.2.2.2.1.2.1) (x.2.2.2.1.2.2.1) (x.2.2.2.1.2.2.2.1) (x.2.2.2.1.2.2.2.2.1) (x.2.2.2.1.2.2.2.2.2.1) (x.2.2.2.1.2.2.2.2.2.2.1) (x.2.2.2.1.2.2.2.2.2.2.2.1) (x.2.2.2.1.2.2.2.2.2.2.2.2.1) (x.2.2.2.1.2.2.2.2.2.2.2.2.2.2.1) (x.2.2.2.2.1)) (λx Q=>avE x Q) hF
def NM (_:BB):Bool:=true
def afy (x:BB):OT gL.Y:=.ok ⟨Ho,((x.2.1.1,()),x.2)⟩
theorem aoM:aa Tryz.prog 26 (gL.aD NM afy):=aaB _ _ λx oy hp ho=>by
 rw [<-ho]
 rfl
def vN:bw:=(ad6 0 2 pl (iR 0 1 133 oK (gL.aD NM afy)))
theorem U3:aa Tryz.prog 26 vN:=(TP EZ (dR Ew aoM))
theorem U2:aC vN:=(Dm EY (cB Ev ay))
def Uo:Env:=aw 26 vN Al
theorem aeH:aK Tryz.prog Uo:=af U3 w5
theorem Un:ar Uo:=ab U2 Ak
abbrev P3:ap:=dr
def aaj (s:Int) (b:List UInt8):ag×Int:=cond (au s) (cond (fh b) (cond (Nat.blt (zc b).nat (pS s)) (zc b,0) (⟨0,0,0,0⟩,21)) (⟨0,0,0,0⟩,21)) (⟨0,0,0,0⟩,20)
def E6 (_:mD):Bool:=true
def De (x:mD):OT dr.Y:=.ok ⟨cX,(((aaj x.1.1 x.1.2.1).1,((aaj x.1.1 x.1.2.1).2,())),())⟩
theorem adM:aa Tryz.prog 61 (P3.aD E6 De):=fj (S:=dr) P4 λx oy hp ho=>⟨rfl,by
 rw [<-ho]
 unfold Ks De aaj
 generalize zc x.1.2.1=N
 generalize au x.1.1=a
 generalize fh x.1.2.1=b
 generalize Nat.blt N.nat (pS x.1.1)=d
 cases a<;>cases b<;>cases d<;>rfl⟩
def py:bw:=(P3.aD E6 De)
theorem Nk:aa Tryz.prog 61 py:=adM
theorem Nj:aC py:=ay
def En:Env:=aw 61 py Uo
theorem UC:aK Tryz.prog En:=af Nk aeH
theorem Mz:ar En:=ab Nj Un
abbrev IP:ap:=cQ
def o9 (x:jx):Bool:=au x.1.1
def wq (x:jx):OT cQ.Y:=.ok ⟨dm,(((aaj x.1.1 x.1.2.1).1,((aaj x.1.1 x.1.2.1).2,())),())⟩
theorem WT:aa Tryz.prog 59 (IP.aD o9 wq):=fj (S:=cQ) IQ λx oy hp ho=>⟨hp,by
 have hs:au x.1.1=true:=hp
 rw [<-ho]
 unfold Cy wq aaj
 rw [hs]
 generalize zc x.1.2.1=N
 generalize fh x.1.2.1=b
 generalize Nat.blt N.nat (pS x.1.1)=d
 cases b<;>cases d<;>rfl⟩
def mS:bw:=(IP.aD o9 wq)
theorem IM:aa Tryz.prog 59 mS:=WT
theorem IL:aC mS:=ay
def lW:Env:=aw 59 mS En
theorem mV:aK Tryz.prog lW:=af IM UC
theorem qj:ar lW:=ab IL Mz
theorem L6:aO Tryz.prog te lW:=aE follows al mV qj
def qd:ap:=⟨[.ptr 0 0 0,.val false .u8,.fn 58 [],.val false .int],[(0,.cells [.val false .int,.ifp 133 1,.val false (.list .u8)]),(1,.cells [.val false .int,.val false (.list .elem)])],false,2,true⟩
abbrev akM:Type:=((Unit)×(UInt8)×(Unit)×(Int)×Unit)×(((Int)×(Unit)×(List (UInt8))×Unit)×((Int)×(List (ag))×Unit)×Unit)
def BG:av:=⟨[.val true (.prod .elem (.prod .elem .bool)),.val false .int],[(0,.cells [.val false .int,.ifp 133 1,.val false (.list .u8)]),(1,.cells [.val false .int,.val false (.list .elem)])],false⟩
def afK:SV->Option av:=λ_=>some BG
def Vg (a1:UInt8) (a3:Int) (c0_0:Int) (c0_2:List (UInt8)) (c1_0:Int) (c1_1:List (ag)):OT qd.Y:=
 let z0:Nat:=List.length c0_2
 let z1:Int:=(↑z0:Int)
 let z2:ag:= {w0:=0,w1:=0,w2:=0,w3:=0}
 let z3:ag×ag×Bool:=(z2,z2,false)
 let z4:Bool:=bj (0:Int) (32:Int) z0
 let z5:(ag×ag×Bool)×Int:=YB a3 (List.drop 0 (List.take 32 c0_2))
 let z6:=z5.snd
 (.br (decide (z1<(32:Int)))
 (.ok ⟨BG,((z3,((82:Int),())),((c0_0,((),(c0_2,()))),((c1_0,(c1_1,())),())))⟩)
 (gd [z4] (.br (!z6==(0:Int))
  (.ok ⟨BG,((z3,(z6,())),((c0_0,((),(c0_2,()))),((c1_0,(c1_1,())),())))⟩)
  (gd [z4,bj (32:Int) z1 z0] (.ok ⟨BG,((z5.fst,((0:Int),())),((c0_0,((),(List.drop 32 c0_2,()))),((c1_0,(c1_1,())),())))⟩)))))
theorem aF9 (x:akM) (Q:qd.Y->Prop):wpf te lW ax 1000 Tryz.f57 (qd.inp.inj x).tm (qd.inp.inj x).hp (fnK qd afK Q) (λ_ _=>False)=(Vg (x.1.2.1) (x.1.2.2.2.1) (x.2.1.1) (x.2.1.2.2.1) (x.2.2.1.1) (x.2.2.1.2.1)).wpR Q:=by kernel_rfl
theorem aoY (pre:akM->Bool) (F:akM->OT qd.Y) (hF:∀ (x:akM) oy,pre x=true->(F x).run=some oy->(Vg (x.1.2.1) (x.1.2.2.2.1) (x.2.1.1) (x.2.1.2.2.1) (x.2.2.1.1) (x.2.2.1.2.1)).run=some oy):aa Tryz.prog 57 (qd.aD pre F):=
 aB al mV L6 (f:=57) (fn:=Tryz.f57) (c:=ak Tryz.f57) (by kernel_rfl) (by kernel_rfl) (by kernel_rfl) (S:=qd) (k:=2) (by kernel_rfl) (λR hR=>ae) (n:=1000) (sel:=afK) (λv o h=>by cases h;rfl) (pre:=pre) (F:=F) (T:=λx=>Vg (x.1.2.1) (x.1.2.2.2.1) (x.2.1.1) (x.2.1.2.2.1) (x.2.2.1.1) (x.2.2.1.2.1)) (λx Q=>aF9 x Q) hF
def c9 (s:Int) (b:List UInt8):(Pt×Int)×List UInt8:=cond (decide ((b.length:Int)<32)) ((aog,82),b) (cond (!((YB s (b.take 32)).2==(0:Int))) ((aog,(YB s (b.take 32)).2),b) (((YB s (b.take 32)).1,0),b.drop 32))
def afL (_:akM):Bool:=true
def aAK (x:akM):OT qd.Y:=.ok ⟨BG,(((c9 x.1.2.2.2.1 x.2.1.2.2.1).1.1,((c9 x.1.2.2.2.1 x.2.1.2.2.1).1.2,())),((x.2.1.1,((),((c9 x.1.2.2.2.1 x.2.1.2.2.1).2,()))),((x.2.2.1.1,(x.2.2.1.2.1,())),())))⟩
theorem aBX:aa Tryz.prog 57 (qd.aD afL aAK):=aoY _ _ λx oy hp ho=>by
 rw [<-ho]
 clear ho
 obtain ⟨⟨⟨⟩,m,⟨⟩,s,⟨⟩⟩,⟨⟨c,⟨⟩,b,⟨⟩⟩,⟨q,l,⟨⟩⟩,⟨⟩⟩⟩:=x
 show (Vg m s c b q l).run=some (⟨BG,(((c9 s b).1.1,((c9 s b).1.2,())),((c,((),((c9 s b).2,()))),((q,(l,())),())))⟩:qd.Y)
 unfold Vg c9
 dsimp only
 rw [List.drop_zero]
 generalize YB s (b.take 32)=d
 by_cases h1:(b.length:Int)<32
 ·rw [decide_eq_true h1]
  exact OT.az rfl
 ·rw [decide_eq_false h1]
  have b1:bj 0 32 b.length=true:=bu (by omega)
  have b2:bj 32 (b.length:Int) b.length=true:=bu (by omega)
  rw [b1,b2]
  refine (OT.aq rfl).trans ((aj rfl).trans ?_)
  rcases (Bool.eq_false_or_eq_true (!(d.2==(0:Int)))).symm with h2|h2
  ·rw [h2]
   exact (OT.aq rfl).trans ((aj rfl).trans rfl)
  ·rw [h2]
   exact (OT.az rfl).trans rfl
def xT:bw:=(qd.aD afL aAK)
theorem N0:aa Tryz.prog 57 xT:=aBX
theorem NZ:aC xT:=ay
def ZE:Env:=aw 57 xT lW
theorem Lu:aK Tryz.prog ZE:=af N0 mV
theorem Lv:ar ZE:=ab NZ qj
theorem an0:aO Tryz.prog te ZE:=aE follows al Lu Lv
def qb:ap:=⟨[.ptr 0 0 0,.val false .u8,.fn 58 [],.val false .int],[(0,.cells [.val false .int,.ifp 141 1,.val false (.list .u8)]),(1,.cells [.val false .int,.ptr 2 0 0]),(2,TA (.own 3)),(3,.row .u8)],false,3,true⟩
abbrev akA:Type:=((Unit)×(UInt8)×(Unit)×(Int)×Unit)×(((Int)×(Unit)×(List (UInt8))×Unit)×((Int)×(Unit)×Unit)×((Int)×(UInt64)×(UInt64)×(UInt64)×(UInt64)×(UInt64)×(UInt64)×(UInt64)×(UInt64)×(Unit)×(UInt64)×Unit)×(List (UInt8))×Unit)
def Bz:av:=⟨[.val true (.prod .elem (.prod .elem .bool)),.val false .int],[(0,.cells [.val false .int,.ifp 141 1,.val false (.list .u8)]),(1,.cells [.val false .int,.ptr 2 0 0]),(2,.cells [.val false .int,.val false .u64,.val false .u64,.val false .u64,.val false .u64,.val false .u64,.val false .u64,.val false .u64,.val false .u64,.own 3,.val false .u64]),(3,.row .u8)],false⟩
def afx:SV->Option av:=λ_=>some Bz
def U0 (a1:UInt8) (a3:Int) (c0_0:Int) (c0_2:List (UInt8)) (c1_0:Int) (c2_0:Int) (c2_1:UInt64) (c2_2:UInt64) (c2_3:UInt64) (c2_4:UInt64) (c2_5:UInt64) (c2_6:UInt64) (c2_7:UInt64) (c2_8:UInt64) (c2_10:UInt64) (c3:List (UInt8)):OT qb.Y:=
 let z0:Nat:=List.length c0_2
 let z1:Int:=(↑z0:Int)
 let z2:ag:= {w0:=0,w1:=0,w2:=0,w3:=0}
 let z3:ag×ag×Bool:=(z2,z2,false)
 let z4:Bool:=bj (0:Int) (32:Int) z0
 let z5:List UInt8:=List.drop 0 (List.take 32 c0_2)
 let z6:(ag×ag×Bool)×Int:=YB a3 z5
 let z7:=z6.snd
 let z8:Int×UInt64×UInt64×UInt64×UInt64×UInt64×UInt64×UInt64×UInt64×PUnit×UInt64×PUnit:=(c2_0,c2_1,c2_2,c2_3,c2_4,c2_5,c2_6,c2_7,c2_8,(),c2_10,())
 let z9:(Int×UInt64×UInt64×UInt64×UInt64×UInt64×UInt64×UInt64×UInt64×PUnit×UInt64×PUnit)×List UInt8:=jP z8 c3 a1 z5
 let z10:=z9.fst
 let z11:=z10.snd
 let z12:=z11.snd
 let z13:=z12.snd
 let z14:=z13.snd
 let z15:=z14.snd
 let z16:=z15.snd
 let z17:=z16.snd
 let z18:=z17.snd
 (.br (decide (z1<(32:Int)))
 (.ok ⟨Bz,((z3,((82:Int),())),((c0_0,((),(c0_2,()))),((c1_0,((),())),((c2_0,(c2_1,(c2_2,(c2_3,(c2_4,(c2_5,(c2_6,(c2_7,(c2_8,((),(c2_10,()))))))))))),(c3,())))))⟩)
 (gd [z4] (.br (!z7==(0:Int))
  (.ok ⟨Bz,((z3,(z7,())),((c0_0,((),(c0_2,()))),((c1_0,((),())),((c2_0,(c2_1,(c2_2,(c2_3,(c2_4,(c2_5,(c2_6,(c2_7,(c2_8,((),(c2_10,()))))))))))),(c3,())))))⟩)
  (gd [z4,gh (((),a1,z5,()),(c1_0,(),()),z8,c3,()),bj (32:Int) z1 z0] (.ok ⟨Bz,((z6.fst,((0:Int),())),((c0_0,((),(List.drop 32 c0_2,()))),((c1_0,((),())),((z10.fst,(z11.fst,(z12.fst,(z13.fst,(z14.fst,(z15.fst,(z16.fst,(z17.fst,(z18.fst,((),(z18.snd.snd.fst,()))))))))))),(z9.snd,())))))⟩)))))
theorem aF2 (x:akA) (Q:qb.Y->Prop):wpf te ZE ax 1000 Tryz.f57 (qb.inp.inj x).tm (qb.inp.inj x).hp (fnK qb afx Q) (λ_ _=>False)=(U0 (x.1.2.1) (x.1.2.2.2.1) (x.2.1.1) (x.2.1.2.2.1) (x.2.2.1.1) (x.2.2.2.1.1) (x.2.2.2.1.2.1) (x.2.2.2.1.2.2.1) (x.2.2.2.1.2.2.2.1) (x.2.2.2.1.2.2.2.2.1) (x.2.2.2.1.2.2.2.2.2.1) (x.2.2.2.1.2.2.2.2.2.2.1) (x.2.2.2.1.2.2.2.2.2.2.2.1) (x.2.2.2.1.2.2.2.2.2.2.2.2.1) (x.2.2.2.1.2.2.2.2.2.2.2.2.2.2.1) (x.2.2.2.2.1)).wpR Q:=by kernel_rfl
theorem aoJ (pre:akA->Bool) (F:akA->OT qb.Y) (hF:∀ (x:akA) oy,pre x=true->(F x).run=some oy->(U0 (x.1.2.1) (x.1.2.2.2.1) (x.2.1.1) (x.2.1.2.2.1) (x.2.2.1.1) (x.2.2.2.1.1) (x.2.2.2.1.2.1) (x.2.2.2.1.2.2.1) (x.2.2.2.1.2.2.2.1) (x.2.2.2.1.2.2.2.2.1) (x.2.2.2.1.2.2.2.2.2.1) (x.2.2.2.1.2.2.2.2.2.2.1) (x.2.2.2.1.2.2.2.2.2.2.2.1) (x.2.2.2.1.2.2.2.2.2.2.2.2.1) (x.2.2.2.1.2.2.2.2.2.2.2.2.2.2.1) (x.2.2.2.2.1)).run=some oy):aa Tryz.prog 57 (qb.aD pre F):=
 aB al Lu an0 (f:=57) (fn:=Tryz.f57) (c:=ak Tryz.f57) (by kernel_rfl) (by kernel_rfl) (by kernel_rfl) (S:=qb) (k:=4) (by kernel_rfl) (λR hR=>ae) (n:=1000) (sel:=afx) (λv o h=>by cases h;rfl) (pre:=pre) (F:=F) (T:=λx=>U0 (x.1.2.1) (x.1.2.2.2.1) (x.2.1.1) (x.2.1.2.2.1) (x.2.2.1.1) (x.2.2.2.1.1) (x.2.2.2.1.2.1) (x.2.2.2.1.2.2.1) (x.2.2.2.1.2.2.2.1) (x.2.2.2.1.2.2.2.2.1) (x.2.2.2.1.2.2.2.2.2.1) (x.2.2.2.1.2.2.2.2.2.2.1) (x.2.2.2.1.2.2.2.2.2.2.2.1) (x.2.2.2.1.2.2.2.2.2.2.2.2.1) (x.2.2.2.1.2.2.2.2.2.2.2.2.2.2.1) (x.2.2.2.2.1)) (λx Q=>aF2 x Q) hF
def fT (e:Int) (m:UInt8) (b:List UInt8) (d:UI) (w:List UInt8):UI×List UInt8:=cond (e==(0:Int)) (jP d w m (b.take 32)) (d,w)
def Q1 (x:akA):Bool:=decide (x.2.2.2.2.1.length<=128)
def aAG (x:akA):OT qb.Y:=.ok ⟨Bz,(((c9 x.1.2.2.2.1 x.2.1.2.2.1).1.1,((c9 x.1.2.2.2.1 x.2.1.2.2.1).1.2,())),((x.2.1.1,((),((c9 x.1.2.2.2.1 x.2.1.2.2.1).2,()))),((x.2.2.1.1,((),())),
 ((fT (c9 x.1.2.2.2.1 x.2.1.2.2.1).1.2 x.1.2.1 x.2.1.2.2.1 x.2.2.2.1 x.2.2.2.2.1).1,((fT (c9 x.1.2.2.2.1 x.2.1.2.2.1).1.2 x.1.2.1 x.2.1.2.2.1 x.2.2.2.1 x.2.2.2.2.1).2,())))))⟩
theorem aoK {m:UInt8} {s c q:Int} {b w:List UInt8} {d:UI} (hw:w.length<=128):
 (U0 m s c b q d.1 d.2.1 d.2.2.1 d.2.2.2.1 d.2.2.2.2.1 d.2.2.2.2.2.1 d.2.2.2.2.2.2.1 d.2.2.2.2.2.2.2.1 d.2.2.2.2.2.2.2.2.1 d.2.2.2.2.2.2.2.2.2.2.1 w).run=some (⟨Bz,(((c9 s b).1.1,((c9 s b).1.2,())),((c,((),((c9 s b).2,()))),((q,((),())),((fT (c9 s b).1.2 m b d w).1,((fT (c9 s b).1.2 m b d w).2,())))))⟩:qb.Y):=by
 unfold U0 c9
 dsimp only
 rw [List.drop_zero]
 generalize YB s (b.take 32)=D
 by_cases h1:(b.length:Int)<32
 ·rw [decide_eq_true h1]
  exact OT.az rfl
 ·rw [decide_eq_false h1]
  have b1:bj 0 32 b.length=true:=bu (by omega)
  have b2:bj 32 (b.length:Int) b.length=true:=bu (by omega)
  have b3:(b.take 32).length<=32:=by rw [List.length_take];omega
  rw [b1,b2]
  refine (OT.aq rfl).trans ((aj rfl).trans ?_)
  rcases (Bool.eq_false_or_eq_true (!(D.2==(0:Int)))).symm with h2|h2
  ·rw [h2]
   unfold fT
   rw [cond_false,cond_false]
   generalize b.take 32=B at b3
   refine (OT.aq rfl).trans ((aj ?_).trans rfl)
   simp only [List.all_cons,List.all_nil,Bool.and_true,Bool.true_and]
   exact decide_eq_true (show w.length+B.length<=_ by omega)
  ·rw [h2]
   unfold fT
   rw [cond_false,cond_true]
   dsimp only
   rw [show (D.2==(0:Int))=false by simpa using h2]
   exact (OT.az rfl).trans rfl
theorem aBO:aa Tryz.prog 57 (qb.aD Q1 aAG):=aoJ _ _ λx oy hp ho=>by
 rw [<-ho]
 clear ho
 obtain ⟨⟨⟨⟩,m,⟨⟩,s,⟨⟩⟩,⟨⟨c,⟨⟩,b,⟨⟩⟩,⟨q,⟨⟩,⟨⟩⟩,d,w,⟨⟩⟩⟩:=x
 have hw:w.length<=128:=of_decide_eq_true hp
 exact aoK hw
def Hm:bw:=(iR 0 1 133 xT (qb.aD Q1 aAG))
theorem akz:aa Tryz.prog 57 Hm:=(dR N0 aBO)
theorem aky:aC Hm:=(cB NZ ay)
def ZA:Env:=aw 57 Hm ZE
theorem Li:aK Tryz.prog ZA:=af akz Lu
theorem Lj:ar ZA:=ab aky Lv
theorem anW:aO Tryz.prog te ZA:=aE follows al Li Lj
def qc:ap:=⟨[.ptr 0 0 0,.val false .u8,.fn 61 [],.val false .int],[(0,.cells [.val false .int,.ifp 133 1,.val false (.list .u8)]),(1,.cells [.val false .int,.val false (.list .elem)])],false,2,true⟩
abbrev akL:Type:=((Unit)×(UInt8)×(Unit)×(Int)×Unit)×(((Int)×(Unit)×(List (UInt8))×Unit)×((Int)×(List (ag))×Unit)×Unit)
def BF:av:=⟨[.val true .elem,.val false .int],[(0,.cells [.val false .int,.ifp 133 1,.val false (.list .u8)]),(1,.cells [.val false .int,.val false (.list .elem)])],false⟩
def afI:SV->Option av:=λ_=>some BF
def Vf (a1:UInt8) (a3:Int) (c0_0:Int) (c0_2:List (UInt8)) (c1_0:Int) (c1_1:List (ag)):OT qc.Y:=
 let z0:Nat:=List.length c0_2
 let z1:Int:=(↑z0:Int)
 let z2:ag:= {w0:=0,w1:=0,w2:=0,w3:=0}
 let z3:Bool:=bj (0:Int) (32:Int) z0
 let z4:ag×Int:=aaj a3 (List.drop 0 (List.take 32 c0_2))
 let z5:=z4.snd
 (.br (decide (z1<(32:Int)))
 (.ok ⟨BF,((z2,((82:Int),())),((c0_0,((),(c0_2,()))),((c1_0,(c1_1,())),())))⟩)
 (gd [z3] (.br (!z5==(0:Int))
  (.ok ⟨BF,((z2,(z5,())),((c0_0,((),(c0_2,()))),((c1_0,(c1_1,())),())))⟩)
  (gd [z3,bj (32:Int) z1 z0] (.ok ⟨BF,((z4.fst,((0:Int),())),((c0_0,((),(List.drop 32 c0_2,()))),((c1_0,(c1_1,())),())))⟩)))))
theorem aF8 (x:akL) (Q:qc.Y->Prop):wpf te ZA ax 1000 Tryz.f60 (qc.inp.inj x).tm (qc.inp.inj x).hp (fnK qc afI Q) (λ_ _=>False)=(Vf (x.1.2.1) (x.1.2.2.2.1) (x.2.1.1) (x.2.1.2.2.1) (x.2.2.1.1) (x.2.2.1.2.1)).wpR Q:=by kernel_rfl
theorem aoX (pre:akL->Bool) (F:akL->OT qc.Y) (hF:∀ (x:akL) oy,pre x=true->(F x).run=some oy->(Vf (x.1.2.1) (x.1.2.2.2.1) (x.2.1.1) (x.2.1.2.2.1) (x.2.2.1.1) (x.2.2.1.2.1)).run=some oy):aa Tryz.prog 60 (qc.aD pre F):=
 aB al Li anW (f:=60) (fn:=Tryz.f60) (c:=ak Tryz.f60) (by kernel_rfl) (by kernel_rfl) (by kernel_rfl) (S:=qc) (k:=2) (by kernel_rfl) (λR hR=>ae) (n:=1000) (sel:=afI) (λv o h=>by cases h;rfl) (pre:=pre) (F:=F) (T:=λx=>Vf (x.1.2.1) (x.1.2.2.2.1) (x.2.1.1) (x.2.1.2.2.1) (x.2.2.1.1) (x.2.2.1.2.1)) (λx Q=>aF8 x Q) hF
def c8 (s:Int) (b:List UInt8):(ag×Int)×List UInt8:=cond (decide ((b.length:Int)<32)) ((⟨0,0,0,0⟩,82),b) (cond (!((aaj s (b.take 32)).2==(0:Int))) ((⟨0,0,0,0⟩,(aaj s (b.take 32)).2),b) (((aaj s (b.take 32)).1,0),b.drop 32))
def afJ (_:akL):Bool:=true
def aAJ (x:akL):OT qc.Y:=.ok ⟨BF,(((c8 x.1.2.2.2.1 x.2.1.2.2.1).1.1,((c8 x.1.2.2.2.1 x.2.1.2.2.1).1.2,())),((x.2.1.1,((),((c8 x.1.2.2.2.1 x.2.1.2.2.1).2,()))),((x.2.2.1.1,(x.2.2.1.2.1,())),())))⟩
theorem aBW:aa Tryz.prog 60 (qc.aD afJ aAJ):=aoX _ _ λx oy hp ho=>by
 rw [<-ho]
 clear ho
 obtain ⟨⟨⟨⟩,m,⟨⟩,s,⟨⟩⟩,⟨⟨c,⟨⟩,b,⟨⟩⟩,⟨q,l,⟨⟩⟩,⟨⟩⟩⟩:=x
 show (Vf m s c b q l).run=some (⟨BF,(((c8 s b).1.1,((c8 s b).1.2,())),((c,((),((c8 s b).2,()))),((q,(l,())),())))⟩:qc.Y)
 unfold Vf c8
 dsimp only
 rw [List.drop_zero]
 generalize aaj s (b.take 32)=d
 by_cases h1:(b.length:Int)<32
 ·rw [decide_eq_true h1]
  exact OT.az rfl
 ·rw [decide_eq_false h1]
  have b1:bj 0 32 b.length=true:=bu (by omega)
  have b2:bj 32 (b.length:Int) b.length=true:=bu (by omega)
  rw [b1,b2]
  refine (OT.aq rfl).trans ((aj rfl).trans ?_)
  rcases (Bool.eq_false_or_eq_true (!(d.2==(0:Int)))).symm with h2|h2
  ·rw [h2]
   exact (OT.aq rfl).trans ((aj rfl).trans rfl)
  ·rw [h2]
   exact (OT.az rfl).trans rfl
def xS:bw:=(qc.aD afJ aAJ)
theorem NY:aa Tryz.prog 60 xS:=aBW
theorem NX:aC xS:=ay
def ZD:Env:=aw 60 xS ZA
theorem Ls:aK Tryz.prog ZD:=af NY Li
theorem Lt:ar ZD:=ab NX Lj
theorem anZ:aO Tryz.prog te ZD:=aE follows al Ls Lt
def qa:ap:=⟨[.ptr 0 0 0,.val false .u8,.fn 61 [],.val false .int],[(0,.cells [.val false .int,.ifp 141 1,.val false (.list .u8)]),(1,.cells [.val false .int,.ptr 2 0 0]),(2,TA (.own 3)),(3,.row .u8)],false,3,true⟩
abbrev akx:Type:=((Unit)×(UInt8)×(Unit)×(Int)×Unit)×(((Int)×(Unit)×(List (UInt8))×Unit)×((Int)×(Unit)×Unit)×((Int)×(UInt64)×(UInt64)×(UInt64)×(UInt64)×(UInt64)×(UInt64)×(UInt64)×(UInt64)×(Unit)×(UInt64)×Unit)×(List (UInt8))×Unit)
def Bx:av:=⟨[.val true .elem,.val false .int],[(0,.cells [.val false .int,.ifp 141 1,.val false (.list .u8)]),(1,.cells [.val false .int,.ptr 2 0 0]),(2,.cells [.val false .int,.val false .u64,.val false .u64,.val false .u64,.val false .u64,.val false .u64,.val false .u64,.val false .u64,.val false .u64,.own 3,.val false .u64]),(3,.row .u8)],false⟩
def afw:SV->Option av:=λ_=>some Bx
def UZ (a1:UInt8) (a3:Int) (c0_0:Int) (c0_2:List (UInt8)) (c1_0:Int) (c2_0:Int) (c2_1:UInt64) (c2_2:UInt64) (c2_3:UInt64) (c2_4:UInt64) (c2_5:UInt64) (c2_6:UInt64) (c2_7:UInt64) (c2_8:UInt64) (c2_10:UInt64) (c3:List (UInt8)):OT qa.Y:=
 let z0:Nat:=List.length c0_2
 let z1:Int:=(↑z0:Int)
 let z2:ag:= {w0:=0,w1:=0,w2:=0,w3:=0}
 let z3:Bool:=bj (0:Int) (32:Int) z0
 let z4:List UInt8:=List.drop 0 (List.take 32 c0_2)
 let z5:ag×Int:=aaj a3 z4
 let z6:=z5.snd
 let z7:Int×UInt64×UInt64×UInt64×UInt64×UInt64×UInt64×UInt64×UInt64×PUnit×UInt64×PUnit:=(c2_0,c2_1,c2_2,c2_3,c2_4,c2_5,c2_6,c2_7,c2_8,(),c2_10,())
 let z8:(Int×UInt64×UInt64×UInt64×UInt64×UInt64×UInt64×UInt64×UInt64×PUnit×UInt64×PUnit)×List UInt8:=jP z7 c3 a1 z4
 let z9:=z8.fst
 let z10:=z9.snd
 let z11:=z10.snd
 let z12:=z11.snd
 let z13:=z12.snd
 let z14:=z13.snd
 let z15:=z14.snd
 let z16:=z15.snd
 let z17:=z16.snd
 (.br (decide (z1<(32:Int)))
 (.ok ⟨Bx,((z2,((82:Int),())),((c0_0,((),(c0_2,()))),((c1_0,((),())),((c2_0,(c2_1,(c2_2,(c2_3,(c2_4,(c2_5,(c2_6,(c2_7,(c2_8,((),(c2_10,()))))))))))),(c3,())))))⟩)
 (gd [z3] (.br (!z6==(0:Int))
  (.ok ⟨Bx,((z2,(z6,())),((c0_0,((),(c0_2,()))),((c1_0,((),())),((c2_0,(c2_1,(c2_2,(c2_3,(c2_4,(c2_5,(c2_6,(c2_7,(c2_8,((),(c2_10,()))))))))))),(c3,())))))⟩)
  (gd [z3,gh (((),a1,z4,()),(c1_0,(),()),z7,c3,()),bj (32:Int) z1 z0] (.ok ⟨Bx,((z5.fst,((0:Int),())),((c0_0,((),(List.drop 32 c0_2,()))),((c1_0,((),())),((z9.fst,(z10.fst,(z11.fst,(z12.fst,(z13.fst,(z14.fst,(z15.fst,(z16.fst,(z17.fst,((),(z17.snd.snd.fst,()))))))))))),(z8.snd,())))))⟩)))))
theorem aF1 (x:akx) (Q:qa.Y->Prop):wpf te ZD ax 1000 Tryz.f60 (qa.inp.inj x).tm (qa.inp.inj x).hp (fnK qa afw Q) (λ_ _=>False)=(UZ (x.1.2.1) (x.1.2.2.2.1) (x.2.1.1) (x.2.1.2.2.1) (x.2.2.1.1) (x.2.2.2.1.1) (x.2.2.2.1.2.1) (x.2.2.2.1.2.2.1) (x.2.2.2.1.2.2.2.1) (x.2.2.2.1.2.2.2.2.1) (x.2.2.2.1.2.2.2.2.2.1) (x.2.2.2.1.2.2.2.2.2.2.1) (x.2.2.2.1.2.2.2.2.2.2.2.1) (x.2.2.2.1.2.2.2.2.2.2.2.2.1) (x.2.2.2.1.2.2.2.2.2.2.2.2.2.2.1) (x.2.2.2.2.1)).wpR Q:=by kernel_rfl
theorem aoH (pre:akx->Bool) (F:akx->OT qa.Y) (hF:∀ (x:akx) oy,pre x=true->(F x).run=some oy->(UZ (x.1.2.1) (x.1.2.2.2.1) (x.2.1.1) (x.2.1.2.2.1) (x.2.2.1.1) (x.2.2.2.1.1) (x.2.2.2.1.2.1) (x.2.2.2.1.2.2.1) (x.2.2.2.1.2.2.2.1) (x.2.2.2.1.2.2.2.2.1) (x.2.2.2.1.2.2.2.2.2.1) (x.2.2.2.1.2.2.2.2.2.2.1) (x.2.2.2.1.2.2.2.2.2.2.2.1) (x.2.2.2.1.2.2.2.2.2.2.2.2.1) (x.2.2.2.1.2.2.2.2.2.2.2.2.2.2.1) (x.2.2.2.2.1)).run=some oy):aa Tryz.prog 60 (qa.aD pre F):=
 aB al Ls anZ (f:=60) (fn:=Tryz.f60) (c:=ak Tryz.f60) (by kernel_rfl) (by kernel_rfl) (by kernel_rfl) (S:=qa) (k:=4) (by kernel_rfl) (λR hR=>ae) (n:=1000) (sel:=afw) (λv o h=>by cases h;rfl) (pre:=pre) (F:=F) (T:=λx=>UZ (x.1.2.1) (x.1.2.2.2.1) (x.2.1.1) (x.2.1.2.2.1) (x.2.2.1.1) (x.2.2.2.1.1) (x.2.2.2.1.2.1) (x.2.2.2.1.2.2.1) (x.2.2.2.1.2.2.2.1) (x.2.2.2.1.2.2.2.2.1) (x.2.2.2.1.2.2.2.2.2.1) (x.2.2.2.1.2.2.2.2.2.2.1) (x.2.2.2.1.2.2.2.2.2.2.2.1) (x.2.2.2.1.2.2.2.2.2.2.2.2.1) (x.2.2.2.1.2.2.2.2.2.2.2.2.2.2.1) (x.2.2.2.2.1)) (λx Q=>aF1 x Q) hF
def Q0 (x:akx):Bool:=decide (x.2.2.2.2.1.length<=128)
def aAF (x:akx):OT qa.Y:=.ok ⟨Bx,(((c8 x.1.2.2.2.1 x.2.1.2.2.1).1.1,((c8 x.1.2.2.2.1 x.2.1.2.2.1).1.2,())),((x.2.1.1,((),((c8 x.1.2.2.2.1 x.2.1.2.2.1).2,()))),((x.2.2.1.1,((),())),
 ((fT (c8 x.1.2.2.2.1 x.2.1.2.2.1).1.2 x.1.2.1 x.2.1.2.2.1 x.2.2.2.1 x.2.2.2.2.1).1,((fT (c8 x.1.2.2.2.1 x.2.1.2.2.1).1.2 x.1.2.1 x.2.1.2.2.1 x.2.2.2.1 x.2.2.2.2.1).2,())))))⟩
theorem aoI {m:UInt8} {s c q:Int} {b w:List UInt8} {d:UI} (hw:w.length<=128):
 (UZ m s c b q d.1 d.2.1 d.2.2.1 d.2.2.2.1 d.2.2.2.2.1 d.2.2.2.2.2.1 d.2.2.2.2.2.2.1 d.2.2.2.2.2.2.2.1 d.2.2.2.2.2.2.2.2.1 d.2.2.2.2.2.2.2.2.2.2.1 w).run=some (⟨Bx,(((c8 s b).1.1,((c8 s b).1.2,())),((c,((),((c8 s b).2,()))),((q,((),())),((fT (c8 s b).1.2 m b d w).1,((fT (c8 s b).1.2 m b d w).2,())))))⟩:qa.Y):=by
 unfold UZ c8
 dsimp only
 rw [List.drop_zero]
 generalize aaj s (b.take 32)=D
 by_cases h1:(b.length:Int)<32
 ·rw [decide_eq_true h1]
  exact OT.az rfl
 ·rw [decide_eq_false h1]
  have b1:bj 0 32 b.length=true:=bu (by omega)
  have b2:bj 32 (b.length:Int) b.length=true:=bu (by omega)
  have b3:(b.take 32).length<=32:=by rw [List.length_take];omega
  rw [b1,b2]
  refine (OT.aq rfl).trans ((aj rfl).trans ?_)
  rcases (Bool.eq_false_or_eq_true (!(D.2==(0:Int)))).symm with h2|h2
  ·rw [h2]
   unfold fT
   rw [cond_false,cond_false]
   generalize b.take 32=B at b3
   refine (OT.aq rfl).trans ((aj ?_).trans rfl)
   simp only [List.all_cons,List.all_nil,Bool.and_true,Bool.true_and]
   exact decide_eq_true (show w.length+B.length<=_ by omega)
  ·rw [h2]
   unfold fT
   rw [cond_false,cond_true]
   dsimp only
   rw [show (D.2==(0:Int))=false by simpa using h2]
   exact (OT.az rfl).trans rfl
theorem aBN:aa Tryz.prog 60 (qa.aD Q0 aAF):=aoH _ _ λx oy hp ho=>by
 rw [<-ho]
 clear ho
 obtain ⟨⟨⟨⟩,m,⟨⟩,s,⟨⟩⟩,⟨⟨c,⟨⟩,b,⟨⟩⟩,⟨q,⟨⟩,⟨⟩⟩,d,w,⟨⟩⟩⟩:=x
 have hw:w.length<=128:=of_decide_eq_true hp
 exact aoI hw
def Hl:bw:=(iR 0 1 133 xS (qa.aD Q0 aAF))
theorem akw:aa Tryz.prog 60 Hl:=(dR NY aBN)
theorem akv:aC Hl:=(cB NX ay)
def Zz:Env:=aw 60 Hl ZD
theorem Lg:aK Tryz.prog Zz:=af akw Ls
theorem Lh:ar Zz:=ab akv Lt
theorem anV:aO Tryz.prog te Zz:=aE follows al Lg Lh
def qy:ap:=⟨[.ptr 0 0 0],[(0,.cells [.val false .int,.ifp 133 1,.val false (.list .u8)]),(1,.cells [.val false .int,.val false (.list .elem)])],false,2,true⟩
abbrev akG:Type:=((Unit)×Unit)×(((Int)×(Unit)×(List (UInt8))×Unit)×((Int)×(List (ag))×Unit)×Unit)
def aaK:av:=⟨[.val true (.prod .elem (.prod .elem .bool)),.val false .int],[(0,.cells [.val false .int,.ifp 133 1,.val false (.list .u8)]),(1,.cells [.val false .int,.val false (.list .elem)])],false⟩
def afE:SV->Option av:=λ_=>some aaK
def aoV (c0_0:Int) (c0_2:List (UInt8)) (c1_0:Int) (c1_1:List (ag)):OT qy.Y:=
 let z0:((ag×ag×Bool)×Int)×List UInt8:=c9 c0_0 c0_2
 let z1:=z0.fst
 (.ok ⟨aaK,((z1.fst,(z1.snd,())),((c0_0,((),(z0.snd,()))),((c1_0,(c1_1,())),())))⟩)
theorem aF5 (x:akG) (Q:qy.Y->Prop):wpf te Zz ax 1000 Tryz.f20 (qy.inp.inj x).tm (qy.inp.inj x).hp (fnK qy afE Q) (λ_ _=>False)=(aoV (x.2.1.1) (x.2.1.2.2.1) (x.2.2.1.1) (x.2.2.1.2.1)).wpR Q:=by kernel_rfl
theorem aoU (pre:akG->Bool) (F:akG->OT qy.Y) (hF:∀ (x:akG) oy,pre x=true->(F x).run=some oy->(aoV (x.2.1.1) (x.2.1.2.2.1) (x.2.2.1.1) (x.2.2.1.2.1)).run=some oy):aa Tryz.prog 20 (qy.aD pre F):=
 aB al Lg anV (f:=20) (fn:=Tryz.f20) (c:=ak Tryz.f20) (by kernel_rfl) (by kernel_rfl) (by kernel_rfl) (S:=qy) (k:=2) (by kernel_rfl) (λR hR=>ae) (n:=1000) (sel:=afE) (λv o h=>by cases h;rfl) (pre:=pre) (F:=F) (T:=λx=>aoV (x.2.1.1) (x.2.1.2.2.1) (x.2.2.1.1) (x.2.2.1.2.1)) (λx Q=>aF5 x Q) hF
def afF (_:akG):Bool:=true
def aAI (x:akG):OT qy.Y:=.ok ⟨aaK,(((c9 x.2.1.1 x.2.1.2.2.1).1.1,((c9 x.2.1.1 x.2.1.2.2.1).1.2,())),((x.2.1.1,((),((c9 x.2.1.1 x.2.1.2.2.1).2,()))),((x.2.2.1.1,(x.2.2.1.2.1,())),())))⟩
theorem aBT:aa Tryz.prog 20 (qy.aD afF aAI):=aoU _ _ λx oy hp ho=>by
 rw [<-ho]
 rfl
def xP:bw:=(qy.aD afF aAI)
theorem NV:aa Tryz.prog 20 xP:=aBT
theorem NU:aC xP:=ay
def ZC:Env:=aw 20 xP Zz
theorem Lp:aK Tryz.prog ZC:=af NV Lg
theorem Lq:ar ZC:=ab NU Lh
theorem anY:aO Tryz.prog te ZC:=aE follows al Lp Lq
def qu:ap:=⟨[.ptr 0 0 0],[(0,.cells [.val false .int,.ifp 141 1,.val false (.list .u8)]),(1,.cells [.val false .int,.ptr 2 0 0]),(2,TA (.own 3)),(3,.row .u8)],false,3,true⟩
abbrev akt:Type:=((Unit)×Unit)×(((Int)×(Unit)×(List (UInt8))×Unit)×((Int)×(Unit)×Unit)×((Int)×(UInt64)×(UInt64)×(UInt64)×(UInt64)×(UInt64)×(UInt64)×(UInt64)×(UInt64)×(Unit)×(UInt64)×Unit)×(List (UInt8))×Unit)
def aav:av:=⟨[.val true (.prod .elem (.prod .elem .bool)),.val false .int],[(0,.cells [.val false .int,.ifp 141 1,.val false (.list .u8)]),(1,.cells [.val false .int,.ptr 2 0 0]),(2,.cells [.val false .int,.val false .u64,.val false .u64,.val false .u64,.val false .u64,.val false .u64,.val false .u64,.val false .u64,.val false .u64,.own 3,.val false .u64]),(3,.row .u8)],false⟩
def afv:SV->Option av:=λ_=>some aav
def aoF (c0_0:Int) (c0_2:List (UInt8)) (c1_0:Int) (c2_0:Int) (c2_1:UInt64) (c2_2:UInt64) (c2_3:UInt64) (c2_4:UInt64) (c2_5:UInt64) (c2_6:UInt64) (c2_7:UInt64) (c2_8:UInt64) (c2_10:UInt64) (c3:List (UInt8)):OT qu.Y:=
 let z0:Int×UInt64×UInt64×UInt64×UInt64×UInt64×UInt64×UInt64×UInt64×PUnit×UInt64×PUnit:=(c2_0,c2_1,c2_2,c2_3,c2_4,c2_5,c2_6,c2_7,c2_8,(),c2_10,())
 let z1:((ag×ag×Bool)×Int)×List UInt8:=c9 c0_0 c0_2
 let z2:=z1.fst
 let z3:=z2.snd
 let z4:(Int×UInt64×UInt64×UInt64×UInt64×UInt64×UInt64×UInt64×UInt64×PUnit×UInt64×PUnit)×List UInt8:=fT z3 (1:UInt8) c0_2 z0 c3
 let z5:=z4.fst
 let z6:=z5.snd
 let z7:=z6.snd
 let z8:=z7.snd
 let z9:=z8.snd
 let z10:=z9.snd
 let z11:=z10.snd
 let z12:=z11.snd
 let z13:=z12.snd
 (gd [Q1 (((),(1:UInt8),(),c0_0,()),(c0_0,(),c0_2,()),(c1_0,(),()),z0,c3,())] (.ok ⟨aav,((z2.fst,(z3,())),((c0_0,((),(z1.snd,()))),((c1_0,((),())),((z5.fst,(z6.fst,(z7.fst,(z8.fst,(z9.fst,(z10.fst,(z11.fst,(z12.fst,(z13.fst,((),(z13.snd.snd.fst,()))))))))))),(z4.snd,())))))⟩))
theorem aF0 (x:akt) (Q:qu.Y->Prop):wpf te ZC ax 1000 Tryz.f20 (qu.inp.inj x).tm (qu.inp.inj x).hp (fnK qu afv Q) (λ_ _=>False)=(aoF (x.2.1.1) (x.2.1.2.2.1) (x.2.2.1.1) (x.2.2.2.1.1) (x.2.2.2.1.2.1) (x.2.2.2.1.2.2.1) (x.2.2.2.1.2.2.2.1) (x.2.2.2.1.2.2.2.2.1) (x.2.2.2.1.2.2.2.2.2.1) (x.2.2.2.1.2.2.2.2.2.2.1) (x.2.2.2.1.2.2.2.2.2.2.2.1) (x.2.2.2.1.2.2.2.2.2.2.2.2.1) (x.2.2.2.1.2.2.2.2.2.2.2.2.2.2.1) (x.2.2.2.2.1)).wpR Q:=by kernel_rfl
theorem aoE (pre:akt->Bool) (F:akt->OT qu.Y) (hF:∀ (x:akt) oy,pre x=true->(F x).run=some oy->(aoF (x.2.1.1) (x.2.1.2.2.1) (x.2.2.1.1) (x.2.2.2.1.1) (x.2.2.2.1.2.1) (x.2.2.2.1.2.2.1) (x.2.2.2.1.2.2.2.1) (x.2.2.2.1.2.2.2.2.1) (x.2.2.2.1.2.2.2.2.2.1) (x.2.2.2.1.2.2.2.2.2.2.1) (x.2.2.2.1.2.2.2.2.2.2.2.1) (x.2.2.2.1.2.2.2.2.2.2.2.2.1) (x.2.2.2.1.2.2.2.2.2.2.2.2.2.2.1) (x.2.2.2.2.1)).run=some oy):aa Tryz.prog 20 (qu.aD pre F):=
 aB al Lp anY (f:=20) (fn:=Tryz.f20) (c:=ak Tryz.f20) (by kernel_rfl) (by kernel_rfl) (by kernel_rfl) (S:=qu) (k:=4) (by kernel_rfl) (λR hR=>ae) (n:=1000) (sel:=afv) (λv o h=>by cases h;rfl) (pre:=pre) (F:=F) (T:=λx=>aoF (x.2.1.1) (x.2.1.2.2.1) (x.2.2.1.1) (x.2.2.2.1.1) (x.2.2.2.1.2.1) (x.2.2.2.1.2.2.1) (x.2.2.2.1.2.2.2.1) (x.2.2.2.1.2.2.2.2.1) (x.2.2.2.1.2.2.2.2.2.1) (x.2.2.2.1.2.2.2.2.2.2.1) (x.2.2.2.1.2.2.2.2.2.2.2.1) (x.2.2.2.1.2.2.2.2.2.2.2.2.1) (x.2.2.2.1.2.2.2.2.2.2.2.2.2.2.1) (x.2.2.2.2.1)) (λx Q=>aF0 x Q) hF
def Gp (x:akt):Bool:=decide (x.2.2.2.2.1.length<=128)
def aAE (x:akt):OT qu.Y:=.ok ⟨aav,(((c9 x.2.1.1 x.2.1.2.2.1).1.1,((c9 x.2.1.1 x.2.1.2.2.1).1.2,())),((x.2.1.1,((),((c9 x.2.1.1 x.2.1.2.2.1).2,()))),((x.2.2.1.1,((),())),
 ((fT (c9 x.2.1.1 x.2.1.2.2.1).1.2 1 x.2.1.2.2.1 x.2.2.2.1 x.2.2.2.2.1).1,((fT (c9 x.2.1.1 x.2.1.2.2.1).1.2 1 x.2.1.2.2.1 x.2.2.2.1 x.2.2.2.2.1).2,())))))⟩
theorem aBL:aa Tryz.prog 20 (qu.aD Gp aAE):=aoE _ _ λx oy hp ho=>by
 rw [<-ho]
 clear ho
 obtain ⟨⟨⟨⟩,⟨⟩⟩,⟨⟨c,⟨⟩,b,⟨⟩⟩,⟨q,⟨⟩,⟨⟩⟩,⟨n,h0,h1,h2,h3,h4,h5,h6,h7,⟨⟩,k,⟨⟩⟩,w,⟨⟩⟩⟩:=x
 refine (aj ?_).trans rfl
 simp only [List.all_cons,List.all_nil,Bool.and_true]
 exact hp
def Hk:bw:=(iR 0 1 133 xP (qu.aD Gp aAE))
theorem aks:aa Tryz.prog 20 Hk:=(dR NV aBL)
theorem akr:aC Hk:=(cB NU ay)
def Zy:Env:=aw 20 Hk ZC
theorem Ld:aK Tryz.prog Zy:=af aks Lp
theorem Le:ar Zy:=ab akr Lq
theorem anU:aO Tryz.prog te Zy:=aE follows al Ld Le
def qx:ap:=⟨[.ptr 0 0 0],[(0,.cells [.val false .int,.ifp 133 1,.val false (.list .u8)]),(1,.cells [.val false .int,.val false (.list .elem)])],false,2,true⟩
abbrev akF:Type:=((Unit)×Unit)×(((Int)×(Unit)×(List (UInt8))×Unit)×((Int)×(List (ag))×Unit)×Unit)
def aaJ:av:=⟨[.val true .elem,.val false .int],[(0,.cells [.val false .int,.ifp 133 1,.val false (.list .u8)]),(1,.cells [.val false .int,.val false (.list .elem)])],false⟩
def afC:SV->Option av:=λ_=>some aaJ
def aoT (c0_0:Int) (c0_2:List (UInt8)) (c1_0:Int) (c1_1:List (ag)):OT qx.Y:=
 let z0:(ag×Int)×List UInt8:=c8 (cU c0_0 (1:Int)) c0_2
 let z1:=z0.fst
 (.ok ⟨aaJ,((z1.fst,(z1.snd,())),((c0_0,((),(z0.snd,()))),((c1_0,(c1_1,())),())))⟩)
theorem aF4 (x:akF) (Q:qx.Y->Prop):wpf te Zy ax 1000 Tryz.f22 (qx.inp.inj x).tm (qx.inp.inj x).hp (fnK qx afC Q) (λ_ _=>False)=(aoT (x.2.1.1) (x.2.1.2.2.1) (x.2.2.1.1) (x.2.2.1.2.1)).wpR Q:=by kernel_rfl
theorem aoS (pre:akF->Bool) (F:akF->OT qx.Y) (hF:∀ (x:akF) oy,pre x=true->(F x).run=some oy->(aoT (x.2.1.1) (x.2.1.2.2.1) (x.2.2.1.1) (x.2.2.1.2.1)).run=some oy):aa Tryz.prog 22 (qx.aD pre F):=
 aB al Ld anU (f:=22) (fn:=Tryz.f22) (c:=ak Tryz.f22) (by kernel_rfl) (by kernel_rfl) (by kernel_rfl) (S:=qx) (k:=2) (by kernel_rfl) (λR hR=>ae) (n:=1000) (sel:=afC) (λv o h=>by cases h;rfl) (pre:=pre) (F:=F) (T:=λx=>aoT (x.2.1.1) (x.2.1.2.2.1) (x.2.2.1.1) (x.2.2.1.2.1)) (λx Q=>aF4 x Q) hF
def afD (_:akF):Bool:=true
def aAH (x:akF):OT qx.Y:=.ok ⟨aaJ,(((c8 (cU x.2.1.1 1) x.2.1.2.2.1).1.1,((c8 (cU x.2.1.1 1) x.2.1.2.2.1).1.2,())),((x.2.1.1,((),((c8 (cU x.2.1.1 1) x.2.1.2.2.1).2,()))),((x.2.2.1.1,(x.2.2.1.2.1,())),())))⟩
theorem aBS:aa Tryz.prog 22 (qx.aD afD aAH):=aoS _ _ λx oy hp ho=>by
 rw [<-ho]
 rfl
def xO:bw:=(qx.aD afD aAH)
theorem NT:aa Tryz.prog 22 xO:=aBS
theorem NS:aC xO:=ay
def ZB:Env:=aw 22 xO Zy
theorem Ln:aK Tryz.prog ZB:=af NT Ld
theorem Lo:ar ZB:=ab NS Le
theorem anX:aO Tryz.prog te ZB:=aE follows al Ln Lo
def qt:ap:=⟨[.ptr 0 0 0],[(0,.cells [.val false .int,.ifp 141 1,.val false (.list .u8)]),(1,.cells [.val false .int,.ptr 2 0 0]),(2,TA (.own 3)),(3,.row .u8)],false,3,true⟩
abbrev akq:Type:=((Unit)×Unit)×(((Int)×(Unit)×(List (UInt8))×Unit)×((Int)×(Unit)×Unit)×((Int)×(UInt64)×(UInt64)×(UInt64)×(UInt64)×(UInt64)×(UInt64)×(UInt64)×(UInt64)×(Unit)×(UInt64)×Unit)×(List (UInt8))×Unit)
def aau:av:=⟨[.val true .elem,.val false .int],[(0,.cells [.val false .int,.ifp 141 1,.val false (.list .u8)]),(1,.cells [.val false .int,.ptr 2 0 0]),(2,.cells [.val false .int,.val false .u64,.val false .u64,.val false .u64,.val false .u64,.val false .u64,.val false .u64,.val false .u64,.val false .u64,.own 3,.val false .u64]),(3,.row .u8)],false⟩
def afu:SV->Option av:=λ_=>some aau
def aoD (c0_0:Int) (c0_2:List (UInt8)) (c1_0:Int) (c2_0:Int) (c2_1:UInt64) (c2_2:UInt64) (c2_3:UInt64) (c2_4:UInt64) (c2_5:UInt64) (c2_6:UInt64) (c2_7:UInt64) (c2_8:UInt64) (c2_10:UInt64) (c3:List (UInt8)):OT qt.Y:=
 let z0:Int:=cU c0_0 (1:Int)
 let z1:Int×UInt64×UInt64×UInt64×UInt64×UInt64×UInt64×UInt64×UInt64×PUnit×UInt64×PUnit:=(c2_0,c2_1,c2_2,c2_3,c2_4,c2_5,c2_6,c2_7,c2_8,(),c2_10,())
 let z2:(ag×Int)×List UInt8:=c8 z0 c0_2
 let z3:=z2.fst
 let z4:=z3.snd
 let z5:(Int×UInt64×UInt64×UInt64×UInt64×UInt64×UInt64×UInt64×UInt64×PUnit×UInt64×PUnit)×List UInt8:=fT z4 (2:UInt8) c0_2 z1 c3
 let z6:=z5.fst
 let z7:=z6.snd
 let z8:=z7.snd
 let z9:=z8.snd
 let z10:=z9.snd
 let z11:=z10.snd
 let z12:=z11.snd
 let z13:=z12.snd
 let z14:=z13.snd
 (gd [Q0 (((),(2:UInt8),(),z0,()),(c0_0,(),c0_2,()),(c1_0,(),()),z1,c3,())] (.ok ⟨aau,((z3.fst,(z4,())),((c0_0,((),(z2.snd,()))),((c1_0,((),())),((z6.fst,(z7.fst,(z8.fst,(z9.fst,(z10.fst,(z11.fst,(z12.fst,(z13.fst,(z14.fst,((),(z14.snd.snd.fst,()))))))))))),(z5.snd,())))))⟩))
theorem aFZ (x:akq) (Q:qt.Y->Prop):wpf te ZB ax 1000 Tryz.f22 (qt.inp.inj x).tm (qt.inp.inj x).hp (fnK qt afu Q) (λ_ _=>False)=(aoD (x.2.1.1) (x.2.1.2.2.1) (x.2.2.1.1) (x.2.2.2.1.1) (x.2.2.2.1.2.1) (x.2.2.2.1.2.2.1) (x.2.2.2.1.2.2.2.1) (x.2.2.2.1.2.2.2.2.1) (x.2.2.2.1.2.2.2.2.2.1) (x.2.2.2.1.2.2.2.2.2.2.1) (x.2.2.2.1.2.2.2.2.2.2.2.1) (x.2.2.2.1.2.2.2.2.2.2.2.2.1) (x.2.2.2.1.2.2.2.2.2.2.2.2.2.2.1) (x.2.2.2.2.1)).wpR Q:=by kernel_rfl
theorem aoC (pre:akq->Bool) (F:akq->OT qt.Y) (hF:∀ (x:akq) oy,pre x=true->(F x).run=some oy->(aoD (x.2.1.1) (x.2.1.2.2.1) (x.2.2.1.1) (x.2.2.2.1.1) (x.2.2.2.1.2.1) (x.2.2.2.1.2.2.1) (x.2.2.2.1.2.2.2.1) (x.2.2.2.1.2.2.2.2.1) (x.2.2.2.1.2.2.2.2.2.1) (x.2.2.2.1.2.2.2.2.2.2.1) (x.2.2.2.1.2.2.2.2.2.2.2.1) (x.2.2.2.1.2.2.2.2.2.2.2.2.1) (x.2.2.2.1.2.2.2.2.2.2.2.2.2.2.1) (x.2.2.2.2.1)).run=some oy):aa Tryz.prog 22 (qt.aD pre F):=
 aB al Ln anX (f:=22) (fn:=Tryz.f22) (c:=ak Tryz.f22) (by kernel_rfl) (by kernel_rfl) (by kernel_rfl) (S:=qt) (k:=4) (by kernel_rfl) (λR hR=>ae) (n:=1000) (sel:=afu) (λv o h=>by cases h;rfl) (pre:=pre) (F:=F) (T:=λx=>aoD (x.2.1.1) (x.2.1.2.2.1) (x.2.2.1.1) (x.2.2.2.1.1) (x.2.2.2.1.2.1) (x.2.2.2.1.2.2.1) (x.2.2.2.1.2.2.2.1) (x.2.2.2.1.2.2.2.2.1) (x.2.2.2.1.2.2.2.2.2.1) (x.2.2.2.1.2.2.2.2.2.2.1) (x.2.2.2.1.2.2.2.2.2.2.2.1) (x.2.2.2.1.2.2.2.2.2.2.2.2.1) (x.2.2.2.1.2.2.2.2.2.2.2.2.2.2.1) (x.2.2.2.2.1)) (λx Q=>aFZ x Q) hF
def Gn (x:akq):Bool:=decide (x.2.2.2.2.1.length<=128)
def aAD (x:akq):OT qt.Y:=.ok ⟨aau,(((c8 (cU x.2.1.1 1) x.2.1.2.2.1).1.1,((c8 (cU x.2.1.1 1) x.2.1.2.2.1).1.2,())),((x.2.1.1,((),((c8 (cU x.2.1.1 1) x.2.1.2.2.1).2,()))),((x.2.2.1.1,((),())),
 ((fT (c8 (cU x.2.1.1 1) x.2.1.2.2.1).1.2 2 x.2.1.2.2.1 x.2.2.2.1 x.2.2.2.2.1).1,((fT (c8 (cU x.2.1.1 1) x.2.1.2.2.1).1.2 2 x.2.1.2.2.1 x.2.2.2.1 x.2.2.2.2.1).2,())))))⟩
theorem aBK:aa Tryz.prog 22 (qt.aD Gn aAD):=aoC _ _ λx oy hp ho=>by
 rw [<-ho]
 clear ho
 obtain ⟨⟨⟨⟩,⟨⟩⟩,⟨⟨c,⟨⟩,b,⟨⟩⟩,⟨q,⟨⟩,⟨⟩⟩,⟨n,h0,h1,h2,h3,h4,h5,h6,h7,⟨⟩,k,⟨⟩⟩,w,⟨⟩⟩⟩:=x
 refine (aj ?_).trans rfl
 simp only [List.all_cons,List.all_nil,Bool.and_true]
 exact hp
def Hj:bw:=(iR 0 1 133 xO (qt.aD Gn aAD))
theorem akp:aa Tryz.prog 22 Hj:=(dR NT aBK)
theorem ako:aC Hj:=(cB NS ay)
def Zx:Env:=aw 22 Hj ZB
theorem Lb:aK Tryz.prog Zx:=af akp Ln
theorem Lc:ar Zx:=ab ako Lo
theorem anT:aO Tryz.prog te Zx:=aE follows al Lb Lc
def kB:ap:=⟨[.ptr 0 0 0],[(0,.cells [.val false .int,.ifp 133 1,.val false (.list .u8)]),(1,.cells [.val false .int,.val false (.list .elem)])],false,2,true⟩
abbrev NW:Type:=((Unit)×Unit)×(((Int)×(Unit)×(List (UInt8))×Unit)×((Int)×(List (ag))×Unit)×Unit)
def Q5:av:=⟨[.val false .int],[(0,.cells [.val false .int,.ifp 133 1,.val false (.list .u8)]),(1,.cells [.val false .int,.val false (.list .elem)])],false⟩
def Vc:SV->Option av:=λ_=>some Q5
def aaL (c0_0:Int) (c0_2:List (UInt8)) (c1_0:Int) (c1_1:List (ag)):OT kB.Y:=
 (.ok ⟨Q5,(((↑(List.length c0_2):Int),()),((c0_0,((),(c0_2,()))),((c1_0,(c1_1,())),())))⟩)
theorem aBU (x:NW) (Q:kB.Y->Prop):wpf te Zx ax 1000 Tryz.f25 (kB.inp.inj x).tm (kB.inp.inj x).hp (fnK kB Vc Q) (λ_ _=>False)=(aaL (x.2.1.1) (x.2.1.2.2.1) (x.2.2.1.1) (x.2.2.1.2.1)).wpR Q:=by kernel_rfl
theorem akH (pre:NW->Bool) (F:NW->OT kB.Y) (hF:∀ (x:NW) oy,pre x=true->(F x).run=some oy->(aaL (x.2.1.1) (x.2.1.2.2.1) (x.2.2.1.1) (x.2.2.1.2.1)).run=some oy):aa Tryz.prog 25 (kB.aD pre F):=
 aB al Lb anT (f:=25) (fn:=Tryz.f25) (c:=ak Tryz.f25) (by kernel_rfl) (by kernel_rfl) (by kernel_rfl) (S:=kB) (k:=2) (by kernel_rfl) (λR hR=>ae) (n:=1000) (sel:=Vc) (λv o h=>by cases h;rfl) (pre:=pre) (F:=F) (T:=λx=>aaL (x.2.1.1) (x.2.1.2.2.1) (x.2.2.1.1) (x.2.2.1.2.1)) (λx Q=>aBU x Q) hF
def Vd (_:NW):Bool:=true
def aoW (x:NW):OT kB.Y:=.ok ⟨Q5,(((x.2.1.2.2.1.length:Int),()),x.2)⟩
theorem avL:aa Tryz.prog 25 (kB.aD Vd aoW):=akH _ _ λx oy hp ho=>by
 rw [<-ho]
 rfl
def s9:bw:=(kB.aD Vd aoW)
theorem Ht:aa Tryz.prog 25 s9:=avL
theorem Hs:aC s9:=ay
def Lr:Env:=aw 25 s9 Zx
theorem DL:aK Tryz.prog Lr:=af Ht Lb
theorem Fm:ar Lr:=ab Hs Lc
theorem aeJ:aO Tryz.prog te Lr:=aE follows al DL Fm
def ku:ap:=⟨[.ptr 0 0 0],[(0,.cells [.val false .int,.ifp 141 1,.val false (.list .u8)]),(1,.cells [.val false .int,.ptr 2 0 0]),(2,TA (.own 3)),(3,.row .u8)],false,4,true⟩
abbrev NJ:Type:=((Unit)×Unit)×(((Int)×(Unit)×(List (UInt8))×Unit)×((Int)×(Unit)×Unit)×((Int)×(UInt64)×(UInt64)×(UInt64)×(UInt64)×(UInt64)×(UInt64)×(UInt64)×(UInt64)×(Unit)×(UInt64)×Unit)×(List (UInt8))×Unit)
def QZ:av:=⟨[.val false .int],[(0,.cells [.val false .int,.ifp 141 1,.val false (.list .u8)]),(1,.cells [.val false .int,.ptr 2 0 0]),(2,.cells [.val false .int,.val false .u64,.val false .u64,.val false .u64,.val false .u64,.val false .u64,.val false .u64,.val false .u64,.val false .u64,.own 3,.val false .u64]),(3,.row .u8)],false⟩
def UX:SV->Option av:=λ_=>some QZ
def aay (c0_0:Int) (c0_2:List (UInt8)) (c1_0:Int) (c2_0:Int) (c2_1:UInt64) (c2_2:UInt64) (c2_3:UInt64) (c2_4:UInt64) (c2_5:UInt64) (c2_6:UInt64) (c2_7:UInt64) (c2_8:UInt64) (c2_10:UInt64) (c3:List (UInt8)):OT ku.Y:=
 (.ok ⟨QZ,(((↑(List.length c0_2):Int),()),((c0_0,((),(c0_2,()))),((c1_0,((),())),((c2_0,(c2_1,(c2_2,(c2_3,(c2_4,(c2_5,(c2_6,(c2_7,(c2_8,((),(c2_10,()))))))))))),(c3,())))))⟩)
theorem aBM (x:NJ) (Q:ku.Y->Prop):wpf te Lr ax 1000 Tryz.f25 (ku.inp.inj x).tm (ku.inp.inj x).hp (fnK ku UX Q) (λ_ _=>False)=(aay (x.2.1.1) (x.2.1.2.2.1) (x.2.2.1.1) (x.2.2.2.1.1) (x.2.2.2.1.2.1) (x.2.2.2.1.2.2.1) (x.2.2.2.1.2.2.2.1) (x.2.2.2.1.2.2.2.2.1) (x.2.2.2.1.2.2.2.2.2.1) (x.2.2.2.1.2.2.2.2.2.2.1) (x.2.2.2.1.2.2.2.2.2.2.2.1) (x.2.2.2.1.2.2.2.2.2.2.2.2.1) (x.2.2.2.1.2.2.2.2.2.2.2.2.2.2.1) (x.2.2.2.2.1)).wpR Q:=by kernel_rfl
theorem aku (pre:NJ->Bool) (F:NJ->OT ku.Y) (hF:∀ (x:NJ) oy,pre x=true->(F x).run=some oy->(aay (x.2.1.1) (x.2.1.2.2.1) (x.2.2.1.1) (x.2.2.2.1.1) (x.2.2.2.1.2.1) (x.2.2.2.1.2.2.1) (x.2.2.2.1.2.2.2.1) (x.2.2.2.1.2.2.2.2.1) (x.2.2.2.1.2.2.2.2.2.1) (x.2.2.2.1.2.2.2.2.2.2.1) (x.2.2.2.1.2.2.2.2.2.2.2.1) (x.2.2.2.1.2.2.2.2.2.2.2.2.1) (x.2.2.2.1.2.2.2.2.2.2.2.2.2.2.1) (x.2.2.2.2.1)).run=some oy):aa Tryz.prog 25 (ku.aD pre F):=
 aB al DL aeJ (f:=25) (fn:=Tryz.f25) (c:=ak Tryz.f25) (by kernel_rfl) (by kernel_rfl) (by kernel_rfl) (S:=ku) (k:=4) (by kernel_rfl) (λR hR=>ae) (n:=1000) (sel:=UX) (λv o h=>by cases h;rfl) (pre:=pre) (F:=F) (T:=λx=>aay (x.2.1.1) (x.2.1.2.2.1) (x.2.2.1.1) (x.2.2.2.1.1) (x.2.2.2.1.2.1) (x.2.2.2.1.2.2.1) (x.2.2.2.1.2.2.2.1) (x.2.2.2.1.2.2.2.2.1) (x.2.2.2.1.2.2.2.2.2.1) (x.2.2.2.1.2.2.2.2.2.2.1) (x.2.2.2.1.2.2.2.2.2.2.2.1) (x.2.2.2.1.2.2.2.2.2.2.2.2.1) (x.2.2.2.1.2.2.2.2.2.2.2.2.2.2.1) (x.2.2.2.2.1)) (λx Q=>aBM x Q) hF
def UY (_:NJ):Bool:=true
def aoG (x:NJ):OT ku.Y:=.ok ⟨QZ,(((x.2.1.2.2.1.length:Int),()),x.2)⟩
theorem avC:aa Tryz.prog 25 (ku.aD UY aoG):=aku _ _ λx oy hp ho=>by
 rw [<-ho]
 rfl
def Bw:bw:=(iR 0 1 133 s9 (ku.aD UY aoG))
theorem aax:aa Tryz.prog 25 Bw:=(dR Ht avC)
theorem aaw:aC Bw:=(cB Hs ay)
def Lf:Env:=aw 25 Bw Lr
theorem DH:aK Tryz.prog Lf:=af aax DL
theorem Fh:ar Lf:=ab aaw Fm
theorem aeF:aO Tryz.prog te Lf:=aE follows al DH Fh
def kL:ap:=⟨[.val false .int,.val true (.prod .int (.list .elem)),.val false (.list .u8)],[],true,0,false⟩
abbrev Oe:Type:=((Int)×((Int×List (ag)))×(List (UInt8))×Unit)×(Unit)
def Re:av:=⟨[.ptr 0 0 0,.val false .int],[(0,.cells [.val false .int,.ifp 133 1,.own 2]),(1,.cells [.val false .int,.own 3]),(2,.row .u8),(3,.row .elem)],false⟩
def Rd:av:=⟨[.ptr 0 0 0,.val false .int],[(0,.cells [.val false .int,.ifp 141 1,.own 2]),(1,.cells [.val false .int,.ptr 3 0 0]),(2,.row .u8),(3,.cells [.val false .int,.val false .u64,.val false .u64,.val false .u64,.val false .u64,.val false .u64,.val false .u64,.val false .u64,.val false .u64,.own 4,.val false .u64]),(4,.row .u8)],false⟩
def Rc:av:=⟨[.oD,.val false .int],[],false⟩
def afP:av:=⟨[.ptr 0 0 0,.val false .int],[(0,.cells [.val false .int,.dq,.own 1]),(1,.row .u8)],false⟩
def Od:List av:= [Re,Rd,Rc,afP]
def Rf (a0:Int) (a1:(Int×List (ag))) (a2:List (UInt8)):OT kL.Y:=
 let z0:Int:=b6 a0 a1.fst (List.length a1.snd)
 let z1:Bool:=eG ((a2,()),())
 let z2:Int:=cU a0 (1:Int)
 (.br (z0==(0:Int))
 (.br (a1.fst==(1:Int))
  (gd [z1] (.ok ⟨Re,(((),((0:Int),())),((a0,((),((),()))),((z2,((),())),(a2,(a1.snd,())))))⟩))
  (gd [z1] (.ok ⟨Rd,(((),((0:Int),())),((a0,((),((),()))),((z2,((),())),(a2,(((64:Int),((7640891576939301192:UInt64),((13503953896175478587:UInt64),((4354685564936845355:UInt64),((11912009170470909681:UInt64),((5840696475078001361:UInt64),((11170449401992604703:UInt64),((7924071207369364504:UInt64),((3427420097777323800:UInt64),((),((0:UInt64),()))))))))))),([],()))))))⟩)))
 (.br (!z0==(0:Int))
  (.ok ⟨Rc,(((),(z0,())),())⟩)
  (gd [z1] (.ok ⟨afP,(((),((0:Int),())),((a0,((),((),()))),(a2,())))⟩))))
theorem aB7 (x:Oe) (Q:kL.Y->Prop):wpf te Lf ax 1000 Tryz.f13 (kL.inp.inj x).tm (kL.inp.inj x).hp (azG kL Od Q) (λ_ _=>False)=(Rf (x.1.1) (x.1.2.1) (x.1.2.2.1)).wpR Q:=by kernel_rfl
theorem akU (pre:Oe->Bool) (F:Oe->OT kL.Y) (hF:∀ (x:Oe) oy,pre x=true->(F x).run=some oy->(Rf (x.1.1) (x.1.2.1) (x.1.2.2.1)).run=some oy):aa Tryz.prog 13 (kL.aD pre F):=
 GS al DH aeF (f:=13) (fn:=Tryz.f13) (c:=ak Tryz.f13) (by kernel_rfl) (by kernel_rfl) (by kernel_rfl) (S:=kL) (k:=0) (by kernel_rfl) (λR hR=>ae) (n:=1000) (outs:=Od) (by kernel_rfl) (pre:=pre) (F:=F) (T:=λx=>Rf (x.1.1) (x.1.2.1) (x.1.2.2.1)) (λx Q=>aB7 x Q) hF
def yb (x:Oe):Bool:=decide (x.1.2.2.1.length<=140737488355328)
def aa4 (x:Oe):OT kL.Y:=.br (b6 x.1.1 x.1.2.1.1 x.1.2.1.2.length==0)
 (.br (x.1.2.1.1==1) (.ok ⟨Re,(((),((0:Int),())),((x.1.1,((),((),()))),((cU x.1.1 1,((),())),(x.1.2.2.1,(x.1.2.1.2,())))))⟩)
  (.ok ⟨Rd,(((),((0:Int),())),((x.1.1,((),((),()))),((cU x.1.1 1,((),())),(x.1.2.2.1,(oN,([],()))))))⟩))
 (.ok ⟨Rc,(((),(b6 x.1.1 x.1.2.1.1 x.1.2.1.2.length,())),())⟩)
theorem avT:aa Tryz.prog 13 (kL.aD yb aa4):=akU _ _ λx oy hp ho=>by
 rw [<-ho]
 clear ho
 obtain ⟨⟨c,⟨mode,l⟩,b,⟨⟩⟩,⟨⟩⟩:=x
 have hb:eG ((b,()),())=true:=hp
 unfold Rf aa4
 dsimp only
 rw [hb]
 by_cases he:(b6 c mode l.length==0)=true
 ·refine (OT.az he).trans (Eq.trans ?_ (OT.az he).symm)
  by_cases hm:(mode==1)=true
  ·exact (OT.az hm).trans ((aj rfl).trans (OT.az hm).symm)
  ·have hm:=Bool.eq_false_iff.2 hm
   exact (OT.aq hm).trans ((aj rfl).trans (OT.aq hm).symm)
 ·have he:=Bool.eq_false_iff.2 he
  exact (OT.aq he).trans ((OT.az (by show (!(b6 c mode l.length==0))=true;rw [he];rfl)).trans (OT.aq he).symm)
def BO:bw:=(vU [] 2 (vU [1] 1 (kL.aD yb aa4)))
theorem aa3:aa Tryz.prog 13 BO:=(BU (BU avT))
theorem aa2:aC BO:=(qA (qA ay))
def LC:Env:=aw 13 BO Lf
theorem DQ:aK Tryz.prog LC:=af aa3 DH
theorem Ft:ar LC:=ab aa2 Fh
theorem aeN:aO Tryz.prog te LC:=aE follows al DQ Ft
def jL:ap:=⟨[.val true aqy],[],false,0,false⟩
abbrev OH:Type:=(((Int×((Int×List (ag))×(List (UInt8)×(Int×List (UInt8))))))×Unit)×(Unit)
def tA:av:=⟨[.val true (.prod .int (.prod (.prod .int (.list .elem)) (.prod (.list .u8) (.prod .int (.list .u8))))),.val true (.prod .elem (.prod .elem .bool)),.val false .int],[],false⟩
def Wf:SV->Option av:=λ_=>some tA
def Ih (a0:(Int×((Int×List (ag))×(List (UInt8)×(Int×List (UInt8)))))):OT jL.Y:=
 let z0:Nat:=List.length a0.snd.snd.snd.snd
 let z1:Int:=(↑z0:Int)
 let z2:ag:= {w0:=0,w1:=0,w2:=0,w3:=0}
 let z3:ag×ag×Bool:=(z2,z2,false)
 let z4:Bool:=bj (0:Int) (32:Int) z0
 let z5:List UInt8:=List.drop 0 (List.take 32 a0.snd.snd.snd.snd)
 let z6:(ag×ag×Bool)×Int:=YB a0.fst z5
 let z7:=z6.snd
 let z8:Int×(Int×List ag)×List UInt8×Int×List UInt8:=(a0.fst,a0.snd.fst,a0.snd.snd.fst,a0.snd.snd.snd.fst,List.drop 32 a0.snd.snd.snd.snd)
 (.br (decide (z1<(32:Int)))
 (.ok ⟨tA,((a0,(z3,((82:Int),()))),())⟩)
 (gd [z4] (.br (!z7==(0:Int))
  (.ok ⟨tA,((a0,(z3,(z7,()))),())⟩)
  (gd [z4,bj (32:Int) z1 z0,kf ((z8,(1:UInt8),z5,()),())] (.ok ⟨tA,((fZ z8 (1:UInt8) z5,(z6.fst,((0:Int),()))),())⟩)))))
theorem aDX (x:OH) (Q:jL.Y->Prop):wpf te LC ax 1000 Tryz.f19 (jL.inp.inj x).tm (jL.inp.inj x).hp (fnK jL Wf Q) (λ_ _=>False)=(Ih (x.1.1)).wpR Q:=by kernel_rfl
theorem ali (pre:OH->Bool) (F:OH->OT jL.Y) (hF:∀ (x:OH) oy,pre x=true->(F x).run=some oy->(Ih (x.1.1)).run=some oy):aa Tryz.prog 19 (jL.aD pre F):=
 aB al DQ aeN (f:=19) (fn:=Tryz.f19) (c:=ak Tryz.f19) (by kernel_rfl) (by kernel_rfl) (by kernel_rfl) (S:=jL) (k:=0) (by kernel_rfl) (λR hR=>ae) (n:=1000) (sel:=Wf) (λv o h=>by cases h;rfl) (pre:=pre) (F:=F) (T:=λx=>Ih (x.1.1)) (λx Q=>aDX x Q) hF
def bP (t:pL) (e:Int) (m:UInt8):pL:=cond (e==(0:Int)) (fZ (t.1,t.2.1,t.2.2.1,t.2.2.2.1,t.2.2.2.2.drop 32) m (t.2.2.2.2.take 32)) t
def nh (x:OH):Bool:=decide (x.1.1.2.2.1.length<=100000000000)
def ars (x:OH):OT jL.Y:=.ok ⟨tA,((bP x.1.1 (c9 x.1.1.1 x.1.1.2.2.2.2).1.2 1,((c9 x.1.1.1 x.1.1.2.2.2.2).1.1,((c9 x.1.1.1 x.1.1.2.2.2.2).1.2,()))),())⟩
theorem ayp:aa Tryz.prog 19 (jL.aD nh ars):=ali _ _ λx oy hp ho=>by
 rw [<-ho]
 clear ho
 obtain ⟨⟨t,⟨⟩⟩,⟨⟩⟩:=x
 have hl:t.2.2.1.length<=100000000000:=of_decide_eq_true hp
 show (Ih t).run=some (⟨tA,((bP t (c9 t.1 t.2.2.2.2).1.2 1,((c9 t.1 t.2.2.2.2).1.1,((c9 t.1 t.2.2.2.2).1.2,()))),())⟩:jL.Y)
 unfold Ih c9
 dsimp only
 rw [List.drop_zero]
 generalize YB t.1 (t.2.2.2.2.take 32)=D
 by_cases h1:(t.2.2.2.2.length:Int)<32
 ·rw [decide_eq_true h1]
  exact OT.az rfl
 ·rw [decide_eq_false h1]
  have b1:bj 0 32 t.2.2.2.2.length=true:=bu (by omega)
  have b2:bj 32 (t.2.2.2.2.length:Int) t.2.2.2.2.length=true:=bu (by omega)
  have b3:(t.2.2.2.2.take 32).length<=32:=by rw [List.length_take];omega
  rw [b1,b2]
  refine (OT.aq rfl).trans ((aj rfl).trans ?_)
  rcases (Bool.eq_false_or_eq_true (!(D.2==(0:Int)))).symm with h2|h2
  ·rw [h2]
   unfold bP
   rw [cond_false,cond_false]
   generalize t.2.2.2.2.take 32=B at b3
   refine (OT.aq rfl).trans ((aj ?_).trans rfl)
   simp only [List.all_cons,List.all_nil,Bool.and_true,Bool.true_and]
   exact decide_eq_true (show t.2.2.1.length+B.length<=_ by omega)
  ·rw [h2]
   unfold bP
   rw [cond_false,cond_true]
   dsimp only
   rw [show (D.2==(0:Int))=false by simpa using h2]
   exact (OT.az rfl).trans rfl
def Ce:bw:=(jL.aD nh ars)
theorem abQ:aa Tryz.prog 19 Ce:=ayp
theorem abP:aC Ce:=ay
def LR:Env:=aw 19 Ce LC
theorem D0:aK Tryz.prog LR:=af abQ DQ
theorem FC:ar LR:=ab abP Ft
theorem aeV:aO Tryz.prog te LR:=aE follows al D0 FC
def jK:ap:=⟨[.val true aqy],[],false,0,false⟩
abbrev OG:Type:=(((Int×((Int×List (ag))×(List (UInt8)×(Int×List (UInt8))))))×Unit)×(Unit)
def tz:av:=⟨[.val true (.prod .int (.prod (.prod .int (.list .elem)) (.prod (.list .u8) (.prod .int (.list .u8))))),.val true .elem,.val false .int],[],false⟩
def We:SV->Option av:=λ_=>some tz
def Ig (a0:(Int×((Int×List (ag))×(List (UInt8)×(Int×List (UInt8)))))):OT jK.Y:=
 let z0:Nat:=List.length a0.snd.snd.snd.snd
 let z1:Int:=(↑z0:Int)
 let z2:ag:= {w0:=0,w1:=0,w2:=0,w3:=0}
 let z3:Bool:=bj (0:Int) (32:Int) z0
 let z4:Int:=cU a0.fst (1:Int)
 let z5:List UInt8:=List.drop 0 (List.take 32 a0.snd.snd.snd.snd)
 let z6:ag×Int:=aaj z4 z5
 let z7:=z6.snd
 let z8:Int×(Int×List ag)×List UInt8×Int×List UInt8:=(a0.fst,a0.snd.fst,a0.snd.snd.fst,a0.snd.snd.snd.fst,List.drop 32 a0.snd.snd.snd.snd)
 (.br (decide (z1<(32:Int)))
 (.ok ⟨tz,((a0,(z2,((82:Int),()))),())⟩)
 (gd [z3,o9 ((z4,z5,()),())] (.br (!z7==(0:Int))
  (.ok ⟨tz,((a0,(z2,(z7,()))),())⟩)
  (gd [z3,bj (32:Int) z1 z0,kf ((z8,(2:UInt8),z5,()),())] (.ok ⟨tz,((fZ z8 (2:UInt8) z5,(z6.fst,((0:Int),()))),())⟩)))))
theorem aDW (x:OG) (Q:jK.Y->Prop):wpf te LR ax 1000 Tryz.f21 (jK.inp.inj x).tm (jK.inp.inj x).hp (fnK jK We Q) (λ_ _=>False)=(Ig (x.1.1)).wpR Q:=by kernel_rfl
theorem alh (pre:OG->Bool) (F:OG->OT jK.Y) (hF:∀ (x:OG) oy,pre x=true->(F x).run=some oy->(Ig (x.1.1)).run=some oy):aa Tryz.prog 21 (jK.aD pre F):=
 aB al D0 aeV (f:=21) (fn:=Tryz.f21) (c:=ak Tryz.f21) (by kernel_rfl) (by kernel_rfl) (by kernel_rfl) (S:=jK) (k:=0) (by kernel_rfl) (λR hR=>ae) (n:=1000) (sel:=We) (λv o h=>by cases h;rfl) (pre:=pre) (F:=F) (T:=λx=>Ig (x.1.1)) (λx Q=>aDW x Q) hF
def ng (x:OG):Bool:=au (cU x.1.1.1 1)&&decide (x.1.1.2.2.1.length<=100000000000)
def arq (x:OG):OT jK.Y:=.ok ⟨tz,((bP x.1.1 (c8 (cU x.1.1.1 1) x.1.1.2.2.2.2).1.2 2,((c8 (cU x.1.1.1 1) x.1.1.2.2.2.2).1.1,((c8 (cU x.1.1.1 1) x.1.1.2.2.2.2).1.2,()))),())⟩
theorem ayo:aa Tryz.prog 21 (jK.aD ng arq):=alh _ _ λx oy hp ho=>by
 rw [<-ho]
 clear ho
 obtain ⟨⟨t,⟨⟩⟩,⟨⟩⟩:=x
 obtain ⟨hs,hp⟩:=(Bool.and_eq_true _ _).mp hp
 have hs:au (cU t.1 1)=true:=hs
 have hl:t.2.2.1.length<=100000000000:=of_decide_eq_true hp
 show (Ig t).run=some (⟨tz,((bP t (c8 (cU t.1 1) t.2.2.2.2).1.2 2,((c8 (cU t.1 1) t.2.2.2.2).1.1,((c8 (cU t.1 1) t.2.2.2.2).1.2,()))),())⟩:jK.Y)
 unfold Ig c8
 dsimp only
 rw [List.drop_zero]
 generalize aaj (cU t.1 1) (t.2.2.2.2.take 32)=D
 by_cases h1:(t.2.2.2.2.length:Int)<32
 ·rw [decide_eq_true h1]
  exact OT.az rfl
 ·rw [decide_eq_false h1]
  have b1:bj 0 32 t.2.2.2.2.length=true:=bu (by omega)
  have b2:bj 32 (t.2.2.2.2.length:Int) t.2.2.2.2.length=true:=bu (by omega)
  have b3:(t.2.2.2.2.take 32).length<=32:=by rw [List.length_take];omega
  rw [b1,b2]
  refine (OT.aq rfl).trans ((aj (by simp only [List.all_cons,List.all_nil,Bool.and_true,Bool.true_and];exact hs)).trans ?_)
  rcases (Bool.eq_false_or_eq_true (!(D.2==(0:Int)))).symm with h2|h2
  ·rw [h2]
   unfold bP
   rw [cond_false,cond_false]
   generalize t.2.2.2.2.take 32=B at b3
   refine (OT.aq rfl).trans ((aj ?_).trans rfl)
   simp only [List.all_cons,List.all_nil,Bool.and_true,Bool.true_and]
   exact decide_eq_true (show t.2.2.1.length+B.length<=_ by omega)
  ·rw [h2]
   unfold bP
   rw [cond_false,cond_true]
   dsimp only
   rw [show (D.2==(0:Int))=false by simpa using h2]
   exact (OT.az rfl).trans rfl
def Cd:bw:=(jK.aD ng arq)
theorem abO:aa Tryz.prog 21 Cd:=ayo
theorem abN:aC Cd:=ay
def DZ:Env:=aw 21 Cd LR
theorem uW:aK Tryz.prog DZ:=af abO D0
theorem ZR:ar DZ:=ab abN FC
theorem xe:aO Tryz.prog te DZ:=aE follows al uW ZR
end Go.Proofs.YtohjofabochgfaaGreat

namespace Go.Proofs.YtohjofabochgfaaGreat
open Sx Go
theorem ahS (b:List UInt8):∀ k,∃ r,upto (λk l=>l++ [i2b (201+(k:Int))]) b k=b++r/\r.length=k
 |0=>⟨[],by simp [upto],rfl⟩
 |k+1=>by
  obtain ⟨r,h,hl⟩:=ahS b k
  exact ⟨r++ [i2b (201+(k:Int))],by simp only [upto,h,List.append_assoc],by simp [hl]⟩
theorem aqE (b:List UInt8):(fk b).take b.length=b/\(fk b).length=b.length+8:=by
 obtain ⟨r,h,hl⟩:=ahS b 8
 rw [show fk b=b++r from h]
 exact ⟨List.take_left,by rw [List.length_append,hl]⟩
end Go.Proofs.YtohjofabochgfaaGreat

namespace Go.Proofs.YtohjofabochgfaaGreat
open Sx Go
set_option maxRecDepth 100000
def ff:ap:=⟨[.val false .int,.val true (.prod .int (.list .elem)),.val false (.list .u8),.val false (.list aIk)],[],true,0,false⟩
abbrev CW:Type:=((Int)×((Int×List (ag)))×(List (UInt8))×(List ((Int×(ag×(ag×(ag×Bool))))))×Unit)×(Unit)
def lq:Shape:=⟨181,[(0,.val false .int),(2,.val false (.list .u8)),(3,.val false (.list (.prod .int (.prod .elem (.prod .elem (.prod .elem .bool)))))),(9,.own 0),(10,.ptr 1 0 0),(12,.ptr 2 0 0),(14,.val false .int)],[(0,.row .u8),(1,.cells [.val false .int,.ifp 133 3,.val false (.list .u8)]),(2,.cells [.val false .int,.val false .int,.val false (.list .elem),.val false (.list .u8),.val false .int,.val false (.list .u8)]),(3,.cells [.val false .int,.val false (.list .elem)])],0,true⟩
abbrev bl:Type:=((Int)×(List (UInt8))×(List ((Int×(ag×(ag×(ag×Bool))))))×(Unit)×(Unit)×(Unit)×(Int)×Unit)×((List (UInt8))×((Int)×(Unit)×(List (UInt8))×Unit)×((Int)×(Int)×(List (ag))×(List (UInt8))×(Int)×(List (UInt8))×Unit)×((Int)×(List (ag))×Unit)×Unit)
def b9:Shape:=⟨181,[(8,.val false .bool)],[],0,true⟩
abbrev jC:Type:=((Bool)×Unit)×(Unit)
def pi:Shape:=⟨181,[(2,.val false (.list .u8)),(9,.own 0)],[(0,.row .u8)],0,true⟩
abbrev gD:Type:=((List (UInt8))×(Unit)×Unit)×((List (UInt8))×Unit)
def Xo:SE->Option Shape:=gI [(0,pi)] (some b9)
def Jp (a0:Int) (a2:List (UInt8)) (a3:List ((Int×(ag×(ag×(ag×Bool)))))) (a14:Int) (c0:List (UInt8)) (c1_0:Int) (c1_2:List (UInt8)) (c2_0:Int) (c2_1:Int) (c2_2:List (ag)) (c2_3:List (UInt8)) (c2_4:Int) (c2_5:List (UInt8)) (c3_0:Int) (c3_1:List (ag)):OT (Sum bl aI):=
 let z0:Nat:=List.length a3
 let z1:ag:= {w0:=0,w1:=0,w2:=0,w3:=0}
 let z2:Int×ag×ag×ag×Bool:=List.getD a3 (Int.toNat a14) ((0:Int),z1,z1,z1,false)
 let z3:=z2.fst
 let z4:=z2.snd.fst
 let z5:ag×PUnit:=(z4,())
 let z6:(Int×PUnit×List UInt8×PUnit)×(Int×List ag×PUnit)×PUnit:=((c1_0,(),c1_2,()),(c3_0,c3_1,()),())
 let z7:Int×(Int×List ag)×List UInt8×Int×List UInt8:=(c2_0,(c2_1,c2_2),c2_3,c2_4,c2_5)
 let z8:Int:=(↑(List.length c1_2):Int)
 let z9:Int×(Int×List ag)×List UInt8×Int×List UInt8:=fZ z7 (2:UInt8) (dX c2_0 z4)
 let z10:=z9.snd
 let z11:=z10.snd
 let z12:=z11.snd
 let z13:=z12.snd
 let z14:Bool:= !c1_0==a0
 let z15:Bool:=inR (a14+(1:Int))
 let z16:=z10.fst
 let z17:(Int×(Int×List ag)×List UInt8×Int×List UInt8)×PUnit:=(z7,())
 let z18:=(c9 c2_0 c2_5).fst
 let z19:=z18.fst
 let z20:=z19.fst
 let z21:((ag×ag×Bool)×Int)×List UInt8:=c9 c1_0 c1_2
 let z22:=z21.fst
 let z23:=z22.fst
 let z24:=z23.fst
 let z25:=z19.snd
 let z26:=z25.fst
 let z27:=z23.snd
 let z28:=z27.fst
 let z29:=z18.snd
 let z30:=z21.snd
 let z31:Int×(Int×List ag)×List UInt8×Int×List UInt8:=bP z7 z29 (1:UInt8)
 let z32:=z31.snd
 let z33:=z32.snd
 let z34:=z33.snd
 let z35:=z34.snd
 let z36:=z32.fst
 let z37:(ag×Int)×List UInt8:=c8 (cU c1_0 (1:Int)) c1_2
 let z38:=z37.fst
 let z39:=z38.fst
 let z40:ag×Int:=(c8 (cU c2_0 (1:Int)) c2_5).fst
 let z41:=z40.fst
 let z42:=z40.snd
 let z43:=z37.snd
 let z44:Int×(Int×List ag)×List UInt8×Int×List UInt8:=bP z7 z42 (2:UInt8)
 let z45:=z44.snd
 let z46:=z45.snd
 let z47:=z46.snd
 let z48:=z47.snd
 let z49:=z45.fst
 let z50:ag×Int×List ag:=eF c3_1
 let z51:ag:=vh (pS c3_0) z50.fst z1
 let z52:(Int×(Int×List ag)×List UInt8×Int×List UInt8)×ag×Int:=iE z7
 let z53:=z52.snd
 let z54:=z53.fst
 let z55:=z50.snd
 let z56:=z52.fst
 let z57:=z56.snd
 let z58:=z57.snd
 let z59:=z58.snd
 let z60:=z59.snd
 let z61:=z57.fst
 (.br (decide (a14<(↑z0:Int)))
 (gd [inB a14 z0] (.br (z3==(1:Int))
  (gd [xU (((),z5),z6),kg ((z7,z5),())] (.br (!z8==(↑(List.length z13):Int))
   (.ok (.inr ⟨(.ret,b9),((false,()),())⟩))
   (.br (z14)
    (.ok (.inr ⟨(.ret,b9),((false,()),())⟩))
    (gd [z15] (.ok (.inl ((a0,(a2,(a3,((),((),((),(a14+(1:Int),()))))))),(c0,((c1_0,((),(c1_2,()))),((z9.fst,(z16.fst,(z16.snd,(z11.fst,(z12.fst,(z13,())))))),((c3_0,(c3_1,())),())))))))))))
  (.br (z3==(2:Int))
   (gd [nh (z17,())] (.br (!(z20.w0==z24.w0&&(z20.w1==z24.w1&&(z20.w2==z24.w2&&(z20.w3==z24.w3&&true)))&&(z26.w0==z28.w0&&(z26.w1==z28.w1&&(z26.w2==z28.w2&&(z26.w3==z28.w3&&true)))&&(z25.snd==z27.snd&&true))))
    (.ok (.inr ⟨(.ret,b9),((false,()),())⟩))
    (.br (!z22.snd==z29)
     (.ok (.inr ⟨(.ret,b9),((false,()),())⟩))
     (.br (!(↑(List.length z30):Int)==(↑(List.length z35):Int))
      (.ok (.inr ⟨(.ret,b9),((false,()),())⟩))
      (.br (z14)
       (.ok (.inr ⟨(.ret,b9),((false,()),())⟩))
       (gd [z15] (.ok (.inl ((a0,(a2,(a3,((),((),((),(a14+(1:Int),()))))))),(c0,((c1_0,((),(z30,()))),((z31.fst,(z36.fst,(z36.snd,(z33.fst,(z34.fst,(z35,())))))),((c3_0,(c3_1,())),())))))))))))))
   (.br (z3==(3:Int))
    (gd [ng (z17,())] (.br (!(z39.w0==z41.w0&&(z39.w1==z41.w1&&(z39.w2==z41.w2&&(z39.w3==z41.w3&&true)))))
     (.ok (.inr ⟨(.ret,b9),((false,()),())⟩))
     (.br (!z38.snd==z42)
      (.ok (.inr ⟨(.ret,b9),((false,()),())⟩))
      (.br (!(↑(List.length z43):Int)==(↑(List.length z48):Int))
       (.ok (.inr ⟨(.ret,b9),((false,()),())⟩))
       (.br (z14)
        (.ok (.inr ⟨(.ret,b9),((false,()),())⟩))
        (gd [z15] (.ok (.inl ((a0,(a2,(a3,((),((),((),(a14+(1:Int),()))))))),(c0,((c1_0,((),(z43,()))),((z44.fst,(z49.fst,(z49.snd,(z46.fst,(z47.fst,(z48,())))))),((c3_0,(c3_1,())),())))))))))))))
    (gd [kh (z17,()),xV (((),()),z6)] (.br (!(z51.w0==z54.w0&&(z51.w1==z54.w1&&(z51.w2==z54.w2&&(z51.w3==z54.w3&&true)))))
     (.ok (.inr ⟨(.ret,b9),((false,()),())⟩))
     (.br (!z55.fst==z53.snd)
      (.ok (.inr ⟨(.ret,b9),((false,()),())⟩))
      (.br (!z8==(↑(List.length z60):Int))
       (.ok (.inr ⟨(.ret,b9),((false,()),())⟩))
       (.br (z14)
        (.ok (.inr ⟨(.ret,b9),((false,()),())⟩))
        (gd [z15] (.ok (.inl ((a0,(a2,(a3,((),((),((),(a14+(1:Int),()))))))),(c0,((c1_0,((),(c1_2,()))),((z56.fst,(z61.fst,(z61.snd,(z58.fst,(z59.fst,(z60,())))))),((c3_0,(z55.snd,())),())))))))))))))))))
 (.ok (.inr ⟨(.exit 0,pi),((a2,((),())),(c0,()))⟩)))
def nN (s:bl):OT (Sum bl aI):=Jp (s.1.1) (s.1.2.1) (s.1.2.2.1) (s.1.2.2.2.2.2.2.1) (s.2.1) (s.2.2.1.1) (s.2.2.1.2.2.1) (s.2.2.2.1.1) (s.2.2.2.1.2.1) (s.2.2.2.1.2.2.1) (s.2.2.2.1.2.2.2.1) (s.2.2.2.1.2.2.2.2.1) (s.2.2.2.1.2.2.2.2.2.1) (s.2.2.2.2.1.1) (s.2.2.2.2.1.2.1)
theorem asJ (s:bl) (Q:Sum bl aI->Prop):wps te DZ ax 1000 (bg (ak Tryz.f3) 0) (lq.inj s) (cz lq Xo (Q:Sum lq.T aI->Prop))=(nN s).wpR Q:=by kernel_rfl
def zh (g0_r:bl->jC) (c0_r:bl->Bool) (g0_0:bl->gD) (s:bl):OT aI:=(.br (c0_r s) (.ok ⟨(.ret,b9),g0_r s⟩) (.ok ⟨(.exit 0,pi),g0_0 s⟩))
def ja:Shape:=⟨181,[(0,.val false .int),(2,.val false (.list .u8)),(3,.val false (.list (.prod .int (.prod .elem (.prod .elem (.prod .elem .bool)))))),(9,.own 0),(10,.ptr 1 0 0),(12,.ptr 2 0 0),(14,.val false .int)],[(0,.row .u8),(1,.cells [.val false .int,.ifp 141 3,.val false (.list .u8)]),(2,.cells [.val false .int,.val false .int,.val false (.list .elem),.val false (.list .u8),.val false .int,.val false (.list .u8)]),(3,.cells [.val false .int,.ptr 4 0 0]),(4,.cells [.val false .int,.val false .u64,.val false .u64,.val false .u64,.val false .u64,.val false .u64,.val false .u64,.val false .u64,.val false .u64,.own 5,.val false .u64]),(5,.row .u8)],0,true⟩
abbrev aW:Type:=((Int)×(List (UInt8))×(List ((Int×(ag×(ag×(ag×Bool))))))×(Unit)×(Unit)×(Unit)×(Int)×Unit)×((List (UInt8))×((Int)×(Unit)×(List (UInt8))×Unit)×((Int)×(Int)×(List (ag))×(List (UInt8))×(Int)×(List (UInt8))×Unit)×((Int)×(Unit)×Unit)×((Int)×(UInt64)×(UInt64)×(UInt64)×(UInt64)×(UInt64)×(UInt64)×(UInt64)×(UInt64)×(Unit)×(UInt64)×Unit)×(List (UInt8))×Unit)
def bO:Shape:=⟨181,[(8,.val false .bool)],[],0,true⟩
abbrev iv:Type:=((Bool)×Unit)×(Unit)
def mv:Shape:=⟨181,[(2,.val false (.list .u8)),(9,.own 0)],[(0,.row .u8)],0,true⟩
abbrev fR:Type:=((List (UInt8))×(Unit)×Unit)×((List (UInt8))×Unit)
def Pw:SE->Option Shape:=gI [(0,mv)] (some bO)
def CV (a0:Int) (a2:List (UInt8)) (a3:List ((Int×(ag×(ag×(ag×Bool)))))) (a14:Int) (c0:List (UInt8)) (c1_0:Int) (c1_2:List (UInt8)) (c2_0:Int) (c2_1:Int) (c2_2:List (ag)) (c2_3:List (UInt8)) (c2_4:Int) (c2_5:List (UInt8)) (c3_0:Int) (c4_0:Int) (c4_1:UInt64) (c4_2:UInt64) (c4_3:UInt64) (c4_4:UInt64) (c4_5:UInt64) (c4_6:UInt64) (c4_7:UInt64) (c4_8:UInt64) (c4_10:UInt64) (c5:List (UInt8)):OT (Sum aW aI):=
 let z0:Nat:=List.length a3
 let z1:ag:= {w0:=0,w1:=0,w2:=0,w3:=0}
 let z2:Int×ag×ag×ag×Bool:=List.getD a3 (Int.toNat a14) ((0:Int),z1,z1,z1,false)
 let z3:=z2.fst
 let z4:=z2.snd.fst
 let z5:ag×PUnit:=(z4,())
 let z6:Int×UInt64×UInt64×UInt64×UInt64×UInt64×UInt64×UInt64×UInt64×PUnit×UInt64×PUnit:=(c4_0,c4_1,c4_2,c4_3,c4_4,c4_5,c4_6,c4_7,c4_8,(),c4_10,())
 let z7:(Int×PUnit×List UInt8×PUnit)×(Int×PUnit×PUnit)×(Int×UInt64×UInt64×UInt64×UInt64×UInt64×UInt64×UInt64×UInt64×PUnit×UInt64×PUnit)×List UInt8×PUnit:=((c1_0,(),c1_2,()),(c3_0,(),()),z6,c5,())
 let z8:Int×(Int×List ag)×List UInt8×Int×List UInt8:=(c2_0,(c2_1,c2_2),c2_3,c2_4,c2_5)
 let z9:Int:=(↑(List.length c1_2):Int)
 let z10:Int×(Int×List ag)×List UInt8×Int×List UInt8:=fZ z8 (2:UInt8) (dX c2_0 z4)
 let z11:=z10.snd
 let z12:=z11.snd
 let z13:=z12.snd
 let z14:=z13.snd
 let z15:Bool:= !c1_0==a0
 let z16:Bool:=inR (a14+(1:Int))
 let z17:=z11.fst
 let z18:(Int×UInt64×UInt64×UInt64×UInt64×UInt64×UInt64×UInt64×UInt64×PUnit×UInt64×PUnit)×List UInt8:=jP z6 c5 (2:UInt8) (dX c1_0 z4)
 let z19:=z18.fst
 let z20:=z19.snd
 let z21:=z20.snd
 let z22:=z21.snd
 let z23:=z22.snd
 let z24:=z23.snd
 let z25:=z24.snd
 let z26:=z25.snd
 let z27:=z26.snd
 let z28:(Int×(Int×List ag)×List UInt8×Int×List UInt8)×PUnit:=(z8,())
 let z29:PUnit×PUnit:=((),())
 let z30:=(c9 c2_0 c2_5).fst
 let z31:=z30.fst
 let z32:=z31.fst
 let z33:((ag×ag×Bool)×Int)×List UInt8:=c9 c1_0 c1_2
 let z34:=z33.fst
 let z35:=z34.fst
 let z36:=z35.fst
 let z37:=z31.snd
 let z38:=z37.fst
 let z39:=z35.snd
 let z40:=z39.fst
 let z41:=z34.snd
 let z42:=z30.snd
 let z43:=z33.snd
 let z44:Int×(Int×List ag)×List UInt8×Int×List UInt8:=bP z8 z42 (1:UInt8)
 let z45:=z44.snd
 let z46:=z45.snd
 let z47:=z46.snd
 let z48:=z47.snd
 let z49:=z45.fst
 let z50:(Int×UInt64×UInt64×UInt64×UInt64×UInt64×UInt64×UInt64×UInt64×PUnit×UInt64×PUnit)×List UInt8:=fT z41 (1:UInt8) c1_2 z6 c5
 let z51:=z50.fst
 let z52:=z51.snd
 let z53:=z52.snd
 let z54:=z53.snd
 let z55:=z54.snd
 let z56:=z55.snd
 let z57:=z56.snd
 let z58:=z57.snd
 let z59:=z58.snd
 let z60:(ag×Int)×List UInt8:=c8 (cU c1_0 (1:Int)) c1_2
 let z61:=z60.fst
 let z62:=z61.fst
 let z63:ag×Int:=(c8 (cU c2_0 (1:Int)) c2_5).fst
 let z64:=z63.fst
 let z65:=z61.snd
 let z66:=z63.snd
 let z67:=z60.snd
 let z68:Int×(Int×List ag)×List UInt8×Int×List UInt8:=bP z8 z66 (2:UInt8)
 let z69:=z68.snd
 let z70:=z69.snd
 let z71:=z70.snd
 let z72:=z71.snd
 let z73:=z69.fst
 let z74:(Int×UInt64×UInt64×UInt64×UInt64×UInt64×UInt64×UInt64×UInt64×PUnit×UInt64×PUnit)×List UInt8:=fT z65 (2:UInt8) c1_2 z6 c5
 let z75:=z74.fst
 let z76:=z75.snd
 let z77:=z76.snd
 let z78:=z77.snd
 let z79:=z78.snd
 let z80:=z79.snd
 let z81:=z80.snd
 let z82:=z81.snd
 let z83:=z82.snd
 let z84:ag:=TH c3_0 z6 c5
 let z85:(Int×(Int×List ag)×List UInt8×Int×List UInt8)×ag×Int:=iE z8
 let z86:=z85.snd
 let z87:=z86.fst
 let z88:=z85.fst
 let z89:=z88.snd
 let z90:=z89.snd
 let z91:=z90.snd
 let z92:=z91.snd
 let z93:=z89.fst
 let z94:(Int×UInt64×UInt64×UInt64×UInt64×UInt64×UInt64×UInt64×UInt64×PUnit×UInt64×PUnit)×List UInt8:=jP z6 c5 (0:UInt8) []
 let z95:=z94.fst
 let z96:=z95.snd
 let z97:=z96.snd
 let z98:=z97.snd
 let z99:=z98.snd
 let z100:=z99.snd
 let z101:=z100.snd
 let z102:=z101.snd
 let z103:=z102.snd
 (.br (decide (a14<(↑z0:Int)))
 (gd [inB a14 z0] (.br (z3==(1:Int))
  (gd [xH (((),z5),z7),kg ((z8,z5),())] (.br (!z9==(↑(List.length z14):Int))
   (.ok (.inr ⟨(.ret,bO),((false,()),())⟩))
   (.br (z15)
    (.ok (.inr ⟨(.ret,bO),((false,()),())⟩))
    (gd [z16] (.ok (.inl ((a0,(a2,(a3,((),((),((),(a14+(1:Int),()))))))),(c0,((c1_0,((),(c1_2,()))),((z10.fst,(z17.fst,(z17.snd,(z12.fst,(z13.fst,(z14,())))))),((c3_0,((),())),((z19.fst,(z20.fst,(z21.fst,(z22.fst,(z23.fst,(z24.fst,(z25.fst,(z26.fst,(z27.fst,((),(z27.snd.snd.fst,()))))))))))),(z18.snd,())))))))))))))
  (.br (z3==(2:Int))
   (gd [nh (z28,()),Gp (z29,z7)] (.br (!(z32.w0==z36.w0&&(z32.w1==z36.w1&&(z32.w2==z36.w2&&(z32.w3==z36.w3&&true)))&&(z38.w0==z40.w0&&(z38.w1==z40.w1&&(z38.w2==z40.w2&&(z38.w3==z40.w3&&true)))&&(z37.snd==z39.snd&&true))))
    (.ok (.inr ⟨(.ret,bO),((false,()),())⟩))
    (.br (!z41==z42)
     (.ok (.inr ⟨(.ret,bO),((false,()),())⟩))
     (.br (!(↑(List.length z43):Int)==(↑(List.length z48):Int))
      (.ok (.inr ⟨(.ret,bO),((false,()),())⟩))
      (.br (z15)
       (.ok (.inr ⟨(.ret,bO),((false,()),())⟩))
       (gd [z16] (.ok (.inl ((a0,(a2,(a3,((),((),((),(a14+(1:Int),()))))))),(c0,((c1_0,((),(z43,()))),((z44.fst,(z49.fst,(z49.snd,(z46.fst,(z47.fst,(z48,())))))),((c3_0,((),())),((z51.fst,(z52.fst,(z53.fst,(z54.fst,(z55.fst,(z56.fst,(z57.fst,(z58.fst,(z59.fst,((),(z59.snd.snd.fst,()))))))))))),(z50.snd,())))))))))))))))
   (.br (z3==(3:Int))
    (gd [ng (z28,()),Gn (z29,z7)] (.br (!(z62.w0==z64.w0&&(z62.w1==z64.w1&&(z62.w2==z64.w2&&(z62.w3==z64.w3&&true)))))
     (.ok (.inr ⟨(.ret,bO),((false,()),())⟩))
     (.br (!z65==z66)
      (.ok (.inr ⟨(.ret,bO),((false,()),())⟩))
      (.br (!(↑(List.length z67):Int)==(↑(List.length z72):Int))
       (.ok (.inr ⟨(.ret,bO),((false,()),())⟩))
       (.br (z15)
        (.ok (.inr ⟨(.ret,bO),((false,()),())⟩))
        (gd [z16] (.ok (.inl ((a0,(a2,(a3,((),((),((),(a14+(1:Int),()))))))),(c0,((c1_0,((),(z67,()))),((z68.fst,(z73.fst,(z73.snd,(z70.fst,(z71.fst,(z72,())))))),((c3_0,((),())),((z75.fst,(z76.fst,(z77.fst,(z78.fst,(z79.fst,(z80.fst,(z81.fst,(z82.fst,(z83.fst,((),(z83.snd.snd.fst,()))))))))))),(z74.snd,())))))))))))))))
    (gd [kh (z28,()),xJ (z29,z7)] (.br (!(z84.w0==z87.w0&&(z84.w1==z87.w1&&(z84.w2==z87.w2&&(z84.w3==z87.w3&&true)))))
     (.ok (.inr ⟨(.ret,bO),((false,()),())⟩))
     (.br (!(0:Int)==z86.snd)
      (.ok (.inr ⟨(.ret,bO),((false,()),())⟩))
      (.br (!z9==(↑(List.length z92):Int))
       (.ok (.inr ⟨(.ret,bO),((false,()),())⟩))
       (.br (z15)
        (.ok (.inr ⟨(.ret,bO),((false,()),())⟩))
        (gd [z16] (.ok (.inl ((a0,(a2,(a3,((),((),((),(a14+(1:Int),()))))))),(c0,((c1_0,((),(c1_2,()))),((z88.fst,(z93.fst,(z93.snd,(z90.fst,(z91.fst,(z92,())))))),((c3_0,((),())),((z95.fst,(z96.fst,(z97.fst,(z98.fst,(z99.fst,(z100.fst,(z101.fst,(z102.fst,(z103.fst,((),(z103.snd.snd.fst,()))))))))))),(z94.snd,())))))))))))))))))))
 (.ok (.inr ⟨(.exit 0,mv),((a2,((),())),(c0,()))⟩)))
def kn (s:aW):OT (Sum aW aI):=CV (s.1.1) (s.1.2.1) (s.1.2.2.1) (s.1.2.2.2.2.2.2.1) (s.2.1) (s.2.2.1.1) (s.2.2.1.2.2.1) (s.2.2.2.1.1) (s.2.2.2.1.2.1) (s.2.2.2.1.2.2.1) (s.2.2.2.1.2.2.2.1) (s.2.2.2.1.2.2.2.2.1) (s.2.2.2.1.2.2.2.2.2.1) (s.2.2.2.2.1.1) (s.2.2.2.2.2.1.1) (s.2.2.2.2.2.1.2.1) (s.2.2.2.2.2.1.2.2.1) (s.2.2.2.2.2.1.2.2.2.1) (s.2.2.2.2.2.1.2.2.2.2.1) (s.2.2.2.2.2.1.2.2.2.2.2.1) (s.2.2.2.2.2.1.2.2.2.2.2.2.1) (s.2.2.2.2.2.1.2.2.2.2.2.2.2.1) (s.2.2.2.2.2.1.2.2.2.2.2.2.2.2.1) (s.2.2.2.2.2.1.2.2.2.2.2.2.2.2.2.2.1) (s.2.2.2.2.2.2.1)
theorem amc (s:aW) (Q:Sum aW aI->Prop):wps te DZ ax 1000 (bg (ak Tryz.f3) 0) (ja.inj s) (cz ja Pw (Q:Sum ja.T aI->Prop))=(kn s).wpR Q:=by kernel_rfl
def tZ (g0b_r:aW->iv) (c0b_r:aW->Bool) (g0b_0:aW->fR) (s:aW):OT aI:=(.br (c0b_r s) (.ok ⟨(.ret,bO),g0b_r s⟩) (.ok ⟨(.exit 0,mv),g0b_0 s⟩))
def bV:av:=⟨[.val false .bool],[],false⟩
def Px:SV->Option av:=λ_=>some bV
def zi (ok0:bl->Bool) (g0_r:bl->jC) (c0_r:bl->Bool) (g0_0:bl->gD) (ok0b:aW->Bool) (g0b_r:aW->iv) (c0b_r:aW->Bool) (g0b_0:aW->fR) (a0:Int) (a1:(Int×List (ag))) (a2:List (UInt8)) (a3:List ((Int×(ag×(ag×(ag×Bool)))))):OT ff.Y:=
 let z0:Int:=(↑(List.length a2):Int)
 let z1:List UInt8:=fk a2
 let z2:List UInt8:=List.take (Int.toNat (z0-(0:Int))) (List.drop 0 z1)
 let z3:Int:=b6 a0 a1.fst (List.length a1.snd)
 let z4:Int×List UInt8×List (Int×ag×ag×ag×Bool)×PUnit×PUnit×PUnit×Int×PUnit:=(a0,a2,List.take 60 a3,(),(),(),(0:Int),())
 let z5:List UInt8×PUnit:=(z2,())
 let z6:Int×PUnit×List UInt8×PUnit:=(a0,(),z5)
 let z7:Int×Int×List ag×List UInt8×Int×List UInt8×PUnit:=(a0,a1.fst,a1.snd,[],(0:Int),a2,())
 let z8:Int:=cU a0 (1:Int)
 let z9:(Int×List ag×PUnit)×PUnit:=((z8,a1.snd,()),())
 let z10:(Int×List UInt8×List (Int×ag×ag×ag×Bool)×PUnit×PUnit×PUnit×Int×PUnit)×List UInt8×(Int×PUnit×List UInt8×PUnit)×(Int×Int×List ag×List UInt8×Int×List UInt8×PUnit)×(Int×List ag×PUnit)×PUnit:=(z4,z1,z6,z7,z9)
 let z11:(List UInt8×PUnit×PUnit)×List UInt8×PUnit:=g0_0 z10
 let z12:=z11.fst.fst
 let z13:=z11.snd.fst
 let z14:List UInt8:=fk z12
 let z15:Bool:= !(0:Int)==z3
 let z16:Int×Int×List ag×List UInt8×Int×List UInt8×PUnit:=((0:Int),(0:Int),aiF.snd.fst.snd,aiF.snd.snd.fst,(0:Int),aiF.snd.snd.snd.snd,())
 let z17:(Int×List UInt8×List (Int×ag×ag×ag×Bool)×PUnit×PUnit×PUnit×Int×PUnit)×List UInt8×(Int×PUnit×List UInt8×PUnit)×(Int×Int×List ag×List UInt8×Int×List UInt8×PUnit)×(Int×List ag×PUnit)×PUnit:=(z4,z1,z6,z16,z9)
 let z18:(List UInt8×PUnit×PUnit)×List UInt8×PUnit:=g0_0 z17
 let z19:=z18.fst.fst
 let z20:=z18.snd.fst
 let z21:List UInt8:=fk z19
 let z22:Int×PUnit×List UInt8×PUnit:=(a0,(),z5)
 let z23:(Int×PUnit×PUnit)×(Int×UInt64×UInt64×UInt64×UInt64×UInt64×UInt64×UInt64×UInt64×PUnit×UInt64×PUnit)×List UInt8×PUnit:=((z8,(),()),((64:Int),(7640891576939301192:UInt64),(13503953896175478587:UInt64),(4354685564936845355:UInt64),(11912009170470909681:UInt64),(5840696475078001361:UInt64),(11170449401992604703:UInt64),(7924071207369364504:UInt64),(3427420097777323800:UInt64),(),(0:UInt64),()),[],())
 let z24:(Int×List UInt8×List (Int×ag×ag×ag×Bool)×PUnit×PUnit×PUnit×Int×PUnit)×List UInt8×(Int×PUnit×List UInt8×PUnit)×(Int×Int×List ag×List UInt8×Int×List UInt8×PUnit)×(Int×PUnit×PUnit)×(Int×UInt64×UInt64×UInt64×UInt64×UInt64×UInt64×UInt64×UInt64×PUnit×UInt64×PUnit)×List UInt8×PUnit:=(z4,z1,z22,z7,z23)
 let z25:(List UInt8×PUnit×PUnit)×List UInt8×PUnit:=g0b_0 z24
 let z26:=z25.fst.fst
 let z27:=z25.snd.fst
 let z28:List UInt8:=fk z26
 let z29:(Int×List UInt8×List (Int×ag×ag×ag×Bool)×PUnit×PUnit×PUnit×Int×PUnit)×List UInt8×(Int×PUnit×List UInt8×PUnit)×(Int×Int×List ag×List UInt8×Int×List UInt8×PUnit)×(Int×PUnit×PUnit)×(Int×UInt64×UInt64×UInt64×UInt64×UInt64×UInt64×UInt64×UInt64×PUnit×UInt64×PUnit)×List UInt8×PUnit:=(z4,z1,z22,z16,z23)
 let z30:(List UInt8×PUnit×PUnit)×List UInt8×PUnit:=g0b_0 z29
 let z31:=z30.fst.fst
 let z32:=z30.snd.fst
 let z33:List UInt8:=fk z31
 let z34:Bool:= !z3==(0:Int)
 let z35:Bool:= !(0:Int)==(0:Int)
 let z36:Bool:=z3==z3
 (gd [gx ((a2,()),()),pC ((a1,()),()),bj (0:Int) z0 (List.length z1),yb ((a0,a1,z2,()),())] (.br (z3==(0:Int))
 (.br (a1.fst==(1:Int))
  (.br (z3==(0:Int))
   (gd [ok0 z10] (.br (c0_r z10)
    (.ok ⟨bV,(((g0_r z10).fst.fst,()),())⟩)
    (gd [gx ((z12,()),()),kx ((z13,z14,()),())] (.ok ⟨bV,((decide (z13=z14),()),())⟩))))
   (.br (z15)
    (.ok ⟨bV,((false,()),())⟩)
    (gd [ok0 z17] (.br (c0_r z17)
     (.ok ⟨bV,(((g0_r z17).fst.fst,()),())⟩)
     (gd [gx ((z19,()),()),kx ((z20,z21,()),())] (.ok ⟨bV,((decide (z20=z21),()),())⟩))))))
  (.br (z3==(0:Int))
   (gd [ok0b z24] (.br (c0b_r z24)
    (.ok ⟨bV,(((g0b_r z24).fst.fst,()),())⟩)
    (gd [gx ((z26,()),()),kx ((z27,z28,()),())] (.ok ⟨bV,((decide (z27=z28),()),())⟩))))
   (.br (z15)
    (.ok ⟨bV,((false,()),())⟩)
    (gd [ok0b z29] (.br (c0b_r z29)
     (.ok ⟨bV,(((g0b_r z29).fst.fst,()),())⟩)
     (gd [gx ((z31,()),()),kx ((z32,z33,()),())] (.ok ⟨bV,((decide (z32=z33),()),())⟩)))))))
 (.br (z3==(0:Int))
  (.br (z34)
   (.br (z3==(0:Int))
    (.ok ⟨bV,((z35,()),())⟩)
    (.ok ⟨bV,((false,()),())⟩))
   (.br (z3==(0:Int))
    (.ok ⟨bV,((z35,()),())⟩)
    (.ok ⟨bV,((false,()),())⟩)))
  (.br (!z36)
   (.br (z36)
    (.ok ⟨bV,((z34,()),())⟩)
    (.ok ⟨bV,((false,()),())⟩))
   (.br (z36)
    (.ok ⟨bV,((z34,()),())⟩)
    (.ok ⟨bV,((false,()),())⟩))))))
theorem ay9 (ok0:bl->Bool) (g0_r:bl->jC) (c0_r:bl->Bool) (g0_0:bl->gD) (ok0b:aW->Bool) (g0b_r:aW->iv) (c0b_r:aW->Bool) (g0b_0:aW->fR) (x:CW) (Q:ff.Y->Prop):wpf te DZ (aiR 0 ja (cE ja 0 ok0b (tZ g0b_r c0b_r g0b_0)) (aiR 0 lq (cE lq 0 ok0 (zh g0_r c0_r g0_0)) ax)) 1000 Tryz.f3 (ff.inp.inj x).tm (ff.inp.inj x).hp (fnK ff Px Q) (λ_ _=>False)=(zi ok0 g0_r c0_r g0_0 ok0b g0b_r c0b_r g0b_0 (x.1.1) (x.1.2.1) (x.1.2.2.1) (x.1.2.2.2.1)).wpR Q:=by kernel_rfl
theorem acZ (ok0:bl->Bool) (g0_r:bl->jC) (c0_r:bl->Bool) (g0_0:bl->gD) (ok0b:aW->Bool) (g0b_r:aW->iv) (c0b_r:aW->Bool) (g0b_0:aW->fR) (h0:∀ s:bl,ok0 s=true->∃ m e,aA (nN) m s=some e/\(zh g0_r c0_r g0_0 s).run=some e) (h0b:∀ s:aW,ok0b s=true->∃ m e,aA (kn) m s=some e/\(tZ g0b_r c0b_r g0b_0 s).run=some e) (pre:CW->Bool) (F:CW->OT ff.Y) (hF:∀ (x:CW) oy,pre x=true->(F x).run=some oy->(zi ok0 g0_r c0_r g0_0 ok0b g0b_r c0b_r g0b_0 (x.1.1) (x.1.2.1) (x.1.2.2.1) (x.1.2.2.2.1)).run=some oy):aa Tryz.prog 3 (ff.aD pre F):=
 aB al uW xe (f:=3) (fn:=Tryz.f3) (c:=ak Tryz.f3) (by kernel_rfl) (by kernel_rfl) (by kernel_rfl) (S:=ff) (k:=0) (by kernel_rfl) (λR hR=>(Xr (c:=(ak Tryz.f3)) (by kernel_rfl) (id:=0) (sh:=ja) (by kernel_rfl) (ba al uW xe (sh:=ja) hR (xs:=Pw) (aF (by kernel_rfl) (by kernel_rfl) hR) aN ae (n:=1000) (T:=kn) (λs Q=>amc s Q) (ok:=ok0b) (f:=tZ g0b_r c0b_r g0b_0) h0b) (Xr (c:=(ak Tryz.f3)) (by kernel_rfl) (id:=0) (sh:=lq) (by kernel_rfl) (ba al uW xe (sh:=lq) hR (xs:=Xo) (aF (by kernel_rfl) (by kernel_rfl) hR) aN ae (n:=1000) (T:=nN) (λs Q=>asJ s Q) (ok:=ok0) (f:=zh g0_r c0_r g0_0) h0) ae))) (n:=1000) (sel:=Px) (λv o h=>by cases h;rfl) (pre:=pre) (F:=F) (T:=λx=>zi ok0 g0_r c0_r g0_0 ok0b g0b_r c0b_r g0b_0 (x.1.1) (x.1.2.1) (x.1.2.2.1) (x.1.2.2.2.1)) (λx Q=>ay9 ok0 g0_r c0_r g0_0 ok0b g0b_r c0b_r g0b_0 x Q) hF
def aHf (t:pL):Int×Int×List ag×List UInt8×Int×List UInt8×Unit:=(t.1,t.2.1.1,t.2.1.2,t.2.2.1,t.2.2.2.1,t.2.2.2.2,())
def ay1:OpY:=(0,⟨0,0,0,0⟩,⟨0,0,0,0⟩,⟨0,0,0,0⟩,false)
theorem Zs (p:Nat) (a:ag):vh p a ⟨0,0,0,0⟩=ofP p a:=by
 unfold vh ofP
 rw [show (⟨0,0,0,0⟩:ag).nat=0 from rfl,Nat.add_zero]
theorem aEo (p:Nat):ofP p ⟨0,0,0,0⟩=⟨0,0,0,0⟩:=by
 unfold ofP
 rw [show (⟨0,0,0,0⟩:ag).nat=0 from rfl,Nat.zero_mod]
 rfl
theorem aFm {t:pL} (h:(t.2.1.1==1)=false):iE t=(fZ t 0 [],vM (cU t.1 1) (wb fJ 64 (t.2.2.1++ [0]++ [])),0):=by
 unfold iE
 rw [h]
 rfl
def Ru (A B:ag):Bool:=A.w0==B.w0&&(A.w1==B.w1&&(A.w2==B.w2&&(A.w3==B.w3&&true)))
theorem yo {A B:ag} (h:A=B):Ru A B=true:=by
 rw [h]
 unfold Ru
 simp only [beq_self_eq_true,Bool.and_self]
theorem eO {x y:Int} (h:x=y):(!(x==y))=false:=by rw [h,beq_self_eq_true];rfl
theorem aum {t:pL} (h:(t.2.1.1==1)=true):iE t=cond (decide ((t.2.1.2.length:Int)<=t.2.2.2.1)) (t,⟨0,0,0,0⟩,81) ((t.1,t.2.1,t.2.2.1,t.2.2.2.1+1,t.2.2.2.2),ofP (pS (cU t.1 1)) (t.2.1.2.getD t.2.2.2.1.toNat ⟨0,0,0,0⟩),0):=by
 unfold iE
 rw [h]
 rfl
theorem azX {l:List ag} {j:Nat} (h:l.length<=j):l.drop j= []:=List.drop_eq_nil_of_le h
theorem aFl {l:List ag} {j:Nat} (h:j<l.length):eF (l.drop j)=(l.getD j ⟨0,0,0,0⟩,0,l.drop (j+1)):=by
 rw [List.drop_eq_getElem_cons h,List.getD_eq_getElem?_getD,List.getElem?_eq_getElem h]
 rfl
def aud (d:UI):List UInt64:= [d.2.1,d.2.2.1,d.2.2.2.1,d.2.2.2.2.1,d.2.2.2.2.2.1,d.2.2.2.2.2.2.1,d.2.2.2.2.2.2.2.1,d.2.2.2.2.2.2.2.2.1,d.2.2.2.2.2.2.2.2.2.2.1]
theorem azU {d e:UI} (h:d.1=e.1) (hw:aud d=aud e):d=e:=by
 obtain ⟨n,d0,d1,d2,d3,d4,d5,d6,d7,⟨⟩,dc,⟨⟩⟩:=d
 obtain ⟨n',e0,e1,e2,e3,e4,e5,e6,e7,⟨⟩,ec,⟨⟩⟩:=e
 simp only [aud,List.cons.injEq] at h hw
 obtain ⟨g0,g1,g2,g3,g4,g5,g6,g7,g8,_⟩:=hw
 subst h g0 g1 g2 g3 g4 g5 g6 g7 g8
 rfl
theorem asw {c m:Int} {n:Nat} (h:(b6 c m n==0)=true):au c=true/\n<=100000:=by
 unfold b6 at h
 cases hs:au c
 ·rw [hs] at h;cases h
 ·refine ⟨rfl,?_⟩
  rw [hs] at h
  cases hm:((m==0)||(m==1))
  ·rw [hm] at h;cases h
  ·rw [hm] at h
   by_cases hn:(100000:Int)<(n:Int)
   ·rw [decide_eq_true hn] at h;cases h
   ·omega
def nxR (o:OpY) (t:pL):pL:=cond (o.1==1) (fZ t 2 (dX t.1 o.2.1)) (cond (o.1==2) (bP t (c9 t.1 t.2.2.2.2).1.2 1) (cond (o.1==3) (bP t (c8 (cU t.1 1) t.2.2.2.2).1.2 2) (iE t).1))
theorem PF (s:Int) (b:List UInt8):(c9 s b).2=cond ((c9 s b).1.2==(0:Int)) (b.drop 32) b:=by
 unfold c9
 generalize YB s (b.take 32)=D
 cases decide ((b.length:Int)<32)
 ·rcases (Bool.eq_false_or_eq_true (!(D.2==(0:Int)))).symm with h2|h2
  ·rw [h2];rfl
  ·rw [h2]
   show b=cond (D.2==(0:Int)) _ b
   rw [show (D.2==(0:Int))=false by simpa using h2]
   rfl
 ·rfl
theorem PE (s:Int) (b:List UInt8):(c8 s b).2=cond ((c8 s b).1.2==(0:Int)) (b.drop 32) b:=by
 unfold c8
 generalize aaj s (b.take 32)=D
 cases decide ((b.length:Int)<32)
 ·rcases (Bool.eq_false_or_eq_true (!(D.2==(0:Int)))).symm with h2|h2
  ·rw [h2];rfl
  ·rw [h2]
   show b=cond (D.2==(0:Int)) _ b
   rw [show (D.2==(0:Int))=false by simpa using h2]
   rfl
 ·rfl
def ahU (A B:Pt):Bool:=A.1.w0==B.1.w0&&(A.1.w1==B.1.w1&&(A.1.w2==B.1.w2&&(A.1.w3==B.1.w3&&true)))&&(A.2.1.w0==B.2.1.w0&&(A.2.1.w1==B.2.1.w1&&(A.2.1.w2==B.2.1.w2&&(A.2.1.w3==B.2.1.w3&&true)))&&(A.2.2==B.2.2&&true))
theorem HT (A:Pt):ahU A A=true:=by
 unfold ahU
 simp only [beq_self_eq_true,Bool.and_self]
theorem aAV (b:List UInt8):(b.take 32).length<=32:=by rw [List.length_take];omega
def XS (c:Int) (k:Nat) (t:pL):Prop:=t.1=c/\(t.2.1.1==1)=true/\0<=t.2.2.2.1/\t.2.2.2.1<=k/\t.2.2.1.length<=40*k/\t.2.1.2.length<=100000
theorem azn {c:Int} {k:Nat} (o:OpY) {t:pL} (h:XS c k t):XS c (k+1) (nxR o t):=by
 obtain ⟨c',⟨m,tp⟩,tk,at',b⟩:=t
 obtain ⟨h1,h2,h3,h3',h4,h6⟩:=h
 have h1:c'=c:=h1
 have h3:0<=at':=h3
 have h3':at'<=k:=h3'
 have h4:tk.length<=40*k:=h4
 subst h1
 have key:∀ (n:UInt8) (B b':List UInt8),B.length<=32->XS c' (k+1) (fZ (c',(m,tp),tk,at',b') n B):=λn B b' hB=>by
  have l1:(tk++ [n]++B).length<=40*(k+1):=by
   rw [List.length_append,List.length_append]
   simp only [List.length_cons,List.length_nil]
   omega
  exact ⟨rfl,h2,h3,by show at'<=_;omega,l1,h6⟩
 have same:XS c' (k+1) (c',(m,tp),tk,at',b):=⟨rfl,h2,h3,by show at'<=_;omega,by show tk.length<=_;omega,h6⟩
 have heard:∀ (e:Int) (n:UInt8),XS c' (k+1) (bP (c',(m,tp),tk,at',b) e n):=λe n=>by
  unfold bP
  cases e==(0:Int)
  ·exact same
  ·exact key n (b.take 32) (b.drop 32) (aAV b)
 have hS:=gy c' o.2.1
 unfold nxR
 dsimp only
 generalize dX c' o.2.1=S at hS
 cases o.1==1
 ·cases o.1==2
  ·cases o.1==3
   ·show XS c' (k+1) (iE (c',(m,tp),tk,at',b)).1
    rw [aum h2]
    dsimp only
    cases decide ((tp.length:Int)<=at')
    ·exact ⟨rfl,h2,by show 0<=at'+1;omega,by show at'+1<=_;omega,by show tk.length<=_;omega,h6⟩
    ·exact same
   ·exact heard _ _
  ·exact heard _ _
 ·exact key 2 S b (by omega)
def aqI (c:Int) (pf fl:List UInt8) (l:List OpY) (k:Int) (t:pL):bl:=((c,pf,l,(),(),(),k,()),(fl,(c,(),t.2.2.2.2,()),aHf t,(cU c 1,t.2.1.2.drop t.2.2.2.1.toNat,()),()))
theorem aDF {c:Int} (hs:au c=true) {pf fl:List UInt8} {l:List OpY} {k:Nat} (hk:k<l.length) (hk3:k<60) {o:OpY} (ho:l.getD k ay1=o) {t:pL} (h:XS c k t):
 (nN (aqI c pf fl l (k:Int) t)).run=some (.inl (aqI c pf fl l ((k:Int)+1) (nxR o t))):=by
 obtain ⟨c',⟨m,tp⟩,tk,at',b⟩:=t
 obtain ⟨h1,h2,h3,h3',h4,h6⟩:=h
 have h1:c'=c:=h1
 have h2:(m==1)=true:=h2
 have h3:0<=at':=h3
 have h3':at'<=k:=h3'
 have h4:tk.length<=40*k:=h4
 have h6:tp.length<=100000:=h6
 obtain ⟨j,rfl⟩:∃ j:Nat,at'=(j:Int):=⟨at'.toNat,by omega⟩
 subst h1
 obtain ⟨w,v,P⟩:=o
 have i1:inR ((k:Int)+1)=true:=aL (by omega)
 have hso:=VN hs
 have ht':l.getD k ((0:Int),(⟨0,0,0,0⟩:ag),(⟨0,0,0,0⟩:ag),(⟨0,0,0,0⟩:ag),false)=(w,v,P):=ho
 have z22:(!(c'==c'))=false:=by rw [beq_self_eq_true];rfl
 have ld:(tp.drop j).length<=100000:=by rw [List.length_drop];omega
 have p1:xU (((),v,()),((c',(),b,()),(cU c' 1,tp.drop j,()),()))=true:=hso
 have p2:kg (((c',(m,tp),tk,(j:Int),b),v,()),())=true:=(Bool.and_eq_true _ _).mpr ⟨hso,decide_eq_true (show tk.length<=_ by omega)⟩
 have p3:nh (((c',(m,tp),tk,(j:Int),b),()),())=true:=decide_eq_true (show tk.length<=_ by omega)
 have p5:ng (((c',(m,tp),tk,(j:Int),b),()),())=true:=(Bool.and_eq_true _ _).mpr ⟨hso,decide_eq_true (show tk.length<=_ by omega)⟩
 have p7:kh (((c',(m,tp),tk,(j:Int),b),()),())=true:=(Bool.and_eq_true _ _).mpr ⟨hso,decide_eq_true ⟨show tk.length<=_ by omega,show (0:Int)<=(j:Int) by omega,show (j:Int)<=_ by omega⟩⟩
 have p8:xV (((),()),((c',(),b,()),(cU c' 1,tp.drop j,()),()))=true:=(Bool.and_eq_true _ _).mpr ⟨hso,decide_eq_true (show (tp.drop j).length<=_ by omega)⟩
 have ec0:iE (c',(m,tp),tk,(j:Int),b)=cond (decide ((tp.length:Int)<=(j:Int))) ((c',(m,tp),tk,(j:Int),b),⟨0,0,0,0⟩,81) ((c',(m,tp),tk,(j:Int)+1,b),ofP (pS (cU c' 1)) (tp.getD (j:Int).toNat ⟨0,0,0,0⟩),0):=aum h2
 rw [Int.toNat_natCast] at ec0
 show (Jp c' pf l (k:Int) fl c' b c' m tp tk (j:Int) b (cU c' 1) (tp.drop (j:Int).toNat)).run=some (.inl (aqI c' pf fl l ((k:Int)+1) (nxR (w,v,P) (c',(m,tp),tk,(j:Int),b))))
 rw [Int.toNat_natCast]
 have rp:=PF c' b
 have rs:=PE (cU c' 1) b
 have nx:nxR (w,v,P) (c',(m,tp),tk,(j:Int),b)=cond (w==1) (fZ (c',(m,tp),tk,(j:Int),b) 2 (dX c' v)) (cond (w==2) (bP (c',(m,tp),tk,(j:Int),b) (c9 c' b).1.2 1) (cond (w==3) (bP (c',(m,tp),tk,(j:Int),b) (c8 (cU c' 1) b).1.2 2) (iE (c',(m,tp),tk,(j:Int),b)).1)):=rfl
 rw [nx]
 clear nx
 unfold Jp
 dsimp only
 rw [Int.toNat_natCast,ht']
 dsimp only
 generalize c9 c' b=rP at*
 generalize c8 (cU c' 1) b=rS at*
 refine (OT.az (decide_eq_true (by omega))).trans ((aj (by rw [aM (show 0<=(k:Int)/\(k:Int)<(l.length:Int) by omega)];rfl)).trans ?_)
 rcases (Bool.eq_false_or_eq_true (w==1)).symm with w1|w1
 ·refine (OT.aq w1).trans ?_
  rcases (Bool.eq_false_or_eq_true (w==2)).symm with w2|w2
  ·refine (OT.aq w2).trans ?_
   rcases (Bool.eq_false_or_eq_true (w==3)).symm with w3|w3
   ·rw [w1,w2,w3]
    rw [show (cond false (fZ (c',(m,tp),tk,(j:Int),b) 2 (dX c' v)) (cond false (bP (c',(m,tp),tk,(j:Int),b) rP.1.2 1) (cond false (bP (c',(m,tp),tk,(j:Int),b) rS.1.2 2) (iE (c',(m,tp),tk,(j:Int),b)).1)))=(iE (c',(m,tp),tk,(j:Int),b)).1 from rfl]
    refine (OT.aq rfl).trans ((aj (by rw [p7,p8];rfl)).trans ?_)
    by_cases hj:tp.length<=j
    ·rw [decide_eq_true (show (tp.length:Int)<=(j:Int) by omega)] at ec0
     have ed:=azX hj
     have q0:vh (pS (cU c' 1)) (eF (tp.drop j)).1 ⟨0,0,0,0⟩=⟨0,0,0,0⟩:=by rw [ed,Zs];exact aEo _
     have q1:Ru (vh (pS (cU c' 1)) (eF (tp.drop j)).1 ⟨0,0,0,0⟩) (iE (c',(m,tp),tk,(j:Int),b)).2.1=true:=yo (by rw [q0,ec0];rfl)
     have q2:(!((eF (tp.drop j)).2.1==(iE (c',(m,tp),tk,(j:Int),b)).2.2))=false:=eO (by rw [ed,ec0];rfl)
     have q3:(iE (c',(m,tp),tk,(j:Int),b)).1=(c',(m,tp),tk,(j:Int),b):=by rw [ec0];rfl
     have q4:(eF (tp.drop j)).2.2=tp.drop j:=by rw [ed];rfl
     rw [q3,q4]
     exact (OT.aq (b:= !Ru _ _) (by rw [q1];rfl)).trans ((OT.aq q2).trans ((OT.aq (eO rfl)).trans ((OT.aq z22).trans ((aj (by rw [i1];rfl)).trans rfl))))
    ·rw [decide_eq_false (show ¬(tp.length:Int)<=(j:Int) by omega)] at ec0
     have ed:=aFl (l:=tp) (j:=j) (by omega)
     have q1:Ru (vh (pS (cU c' 1)) (eF (tp.drop j)).1 ⟨0,0,0,0⟩) (iE (c',(m,tp),tk,(j:Int),b)).2.1=true:=yo (by rw [ed,Zs,ec0];rfl)
     have q2:(!((eF (tp.drop j)).2.1==(iE (c',(m,tp),tk,(j:Int),b)).2.2))=false:=eO (by rw [ed,ec0];rfl)
     have q3:(iE (c',(m,tp),tk,(j:Int),b)).1=(c',(m,tp),tk,(j:Int)+1,b):=by rw [ec0];rfl
     have q4:(eF (tp.drop j)).2.2=tp.drop (j+1):=by rw [ed]
     rw [q3,q4]
     exact (OT.aq (b:= !Ru _ _) (by rw [q1];rfl)).trans ((OT.aq q2).trans ((OT.aq (eO rfl)).trans ((OT.aq z22).trans ((aj (by rw [i1];rfl)).trans rfl))))
   ·rw [w1,w2,w3]
    rw [show (cond false (fZ (c',(m,tp),tk,(j:Int),b) 2 (dX c' v)) (cond false (bP (c',(m,tp),tk,(j:Int),b) rP.1.2 1) (cond true (bP (c',(m,tp),tk,(j:Int),b) rS.1.2 2) (iE (c',(m,tp),tk,(j:Int),b)).1)))=bP (c',(m,tp),tk,(j:Int),b) rS.1.2 2 from rfl]
    obtain ⟨⟨E,e⟩,rest⟩:=rS
    dsimp only at rs⊢
    have q1:=yo (Eq.refl E)
    refine (OT.az rfl).trans ((aj (by rw [p5];rfl)).trans ((OT.aq (b:= !Ru E E) (by rw [q1];rfl)).trans ((OT.aq (eO rfl)).trans ?_)))
    rcases (Bool.eq_false_or_eq_true (e==(0:Int))).symm with e0|e0
    ·have hT:bP (c',(m,tp),tk,(j:Int),b) e 2=(c',(m,tp),tk,(j:Int),b):=by unfold bP;rw [e0];rfl
     rw [e0,cond_false] at rs
     rw [hT,rs]
     exact (OT.aq (eO rfl)).trans ((OT.aq z22).trans ((aj (by rw [i1];rfl)).trans rfl))
    ·have hT:bP (c',(m,tp),tk,(j:Int),b) e 2=fZ (c',(m,tp),tk,(j:Int),b.drop 32) 2 (b.take 32):=by unfold bP;rw [e0];rfl
     rw [e0,cond_true] at rs
     rw [hT,rs]
     exact (OT.aq (eO rfl)).trans ((OT.aq z22).trans ((aj (by rw [i1];rfl)).trans rfl))
  ·rw [w1,w2]
   rw [show (cond false (fZ (c',(m,tp),tk,(j:Int),b) 2 (dX c' v)) (cond true (bP (c',(m,tp),tk,(j:Int),b) rP.1.2 1) (cond (w==3) (bP (c',(m,tp),tk,(j:Int),b) rS.1.2 2) (iE (c',(m,tp),tk,(j:Int),b)).1)))=bP (c',(m,tp),tk,(j:Int),b) rP.1.2 1 from rfl]
   obtain ⟨⟨E,e⟩,rest⟩:=rP
   dsimp only at rp⊢
   have q1:=HT E
   refine (OT.az rfl).trans ((aj (by rw [p3];rfl)).trans ((OT.aq (b:= !ahU E E) (by rw [q1];rfl)).trans ((OT.aq (eO rfl)).trans ?_)))
   rcases (Bool.eq_false_or_eq_true (e==(0:Int))).symm with e0|e0
   ·have hT:bP (c',(m,tp),tk,(j:Int),b) e 1=(c',(m,tp),tk,(j:Int),b):=by unfold bP;rw [e0];rfl
    rw [e0,cond_false] at rp
    rw [hT,rp]
    exact (OT.aq (eO rfl)).trans ((OT.aq z22).trans ((aj (by rw [i1];rfl)).trans rfl))
   ·have hT:bP (c',(m,tp),tk,(j:Int),b) e 1=fZ (c',(m,tp),tk,(j:Int),b.drop 32) 1 (b.take 32):=by unfold bP;rw [e0];rfl
    rw [e0,cond_true] at rp
    rw [hT,rp]
    exact (OT.aq (eO rfl)).trans ((OT.aq z22).trans ((aj (by rw [i1];rfl)).trans rfl))
 ·rw [w1]
  rw [show (cond true (fZ (c',(m,tp),tk,(j:Int),b) 2 (dX c' v)) (cond (w==2) (bP (c',(m,tp),tk,(j:Int),b) rP.1.2 1) (cond (w==3) (bP (c',(m,tp),tk,(j:Int),b) rS.1.2 2) (iE (c',(m,tp),tk,(j:Int),b)).1)))=fZ (c',(m,tp),tk,(j:Int),b) 2 (dX c' v) from rfl]
  generalize dX c' v=S
  exact (OT.az rfl).trans ((aj (by rw [p1,p2];rfl)).trans ((OT.aq (eO rfl)).trans ((OT.aq z22).trans ((aj (by rw [i1];rfl)).trans rfl))))
abbrev TQ:Type:=pL×(UI×List UInt8)
def aFI (o:OpY) (q:TQ):TQ:=cond (o.1==1) (fZ q.1 2 (dX q.1.1 o.2.1),jP q.2.1 q.2.2 2 (dX q.1.1 o.2.1)) (cond (o.1==2) (bP q.1 (c9 q.1.1 q.1.2.2.2.2).1.2 1,fT (c9 q.1.1 q.1.2.2.2.2).1.2 1 q.1.2.2.2.2 q.2.1 q.2.2)
 (cond (o.1==3) (bP q.1 (c8 (cU q.1.1 1) q.1.2.2.2.2).1.2 2,fT (c8 (cU q.1.1 1) q.1.2.2.2.2).1.2 2 q.1.2.2.2.2 q.2.1 q.2.2) (fZ q.1 0 [],jP q.2.1 q.2.2 0 [])))
def PL (c:Int) (k:Nat) (q:TQ):Prop:=q.1.1=c/\(q.1.2.1.1==1)=false/\q.1.2.2.2.1=0/\q.1.2.2.1.length<=40*k/\q.2=MT q.1.2.2.1
theorem atf {c:Int} {k:Nat} (o:OpY) {q:TQ} (h:PL c k q):PL c (k+1) (aFI o q):=by
 obtain ⟨⟨c',s,tk,at',b⟩,D⟩:=q
 obtain ⟨h1,h2,h3,h4,h6⟩:=h
 have h1:c'=c:=h1
 have h6:D=MT tk:=h6
 have h4:tk.length<=40*k:=h4
 subst h1 h6
 have key:∀ (m:UInt8) (B b':List UInt8),B.length<=32->PL c' (k+1) (fZ (c',s,tk,at',b') m B,jP (MT tk).1 (MT tk).2 m B):=λm B b' hB=>by
  have l1:(tk++ [m]++B).length<=40*(k+1):=by
   rw [List.length_append,List.length_append]
   simp only [List.length_cons,List.length_nil]
   omega
  exact ⟨rfl,h2,h3,l1,aBm tk m B⟩
 have heard:∀ (e:Int) (n:UInt8),PL c' (k+1) (bP (c',s,tk,at',b) e n,fT e n b (MT tk).1 (MT tk).2):=λe n=>by
  unfold bP fT
  cases e==(0:Int)
  ·exact ⟨rfl,h2,h3,by show tk.length<=_;omega,rfl⟩
  ·exact key n (b.take 32) (b.drop 32) (aAV b)
 have hS:=gy c' o.2.1
 unfold aFI
 dsimp only
 generalize dX c' o.2.1=S at hS
 cases o.1==1
 ·cases o.1==2
  ·cases o.1==3
   ·exact key 0 [] b (Nat.zero_le _)
   ·exact heard _ _
  ·exact heard _ _
 ·exact key 2 S b (by omega)
def aq0 (c:Int) (pf fl:List UInt8) (l:List OpY) (k:Int) (q:TQ):aW:=((c,pf,l,(),(),(),k,()),(fl,(c,(),q.1.2.2.2.2,()),aHf q.1,(cU c 1,(),()),q.2.1,q.2.2,()))
theorem aDS {c:Int} (hs:au c=true) {pf fl:List UInt8} {l:List OpY} {k:Nat} (hk:k<l.length) (hk3:k<60) {o:OpY} (ho:l.getD k ay1=o) {q:TQ} (h:PL c k q):
 (kn (aq0 c pf fl l (k:Int) q)).run=some (.inl (aq0 c pf fl l ((k:Int)+1) (aFI o q))):=by
 obtain ⟨⟨c',⟨m,tp⟩,tk,at',b⟩,D⟩:=q
 obtain ⟨h1,h2,h3,h4,h6⟩:=h
 have h1:c'=c:=h1
 have h2:(m==1)=false:=h2
 have h3:at'=0:=h3
 have h6:D=MT tk:=h6
 have h4:tk.length<=40*k:=h4
 subst h1 h3
 obtain ⟨w,v,P⟩:=o
 obtain ⟨d,wt⟩:=D
 have hw:wt.length<=128:=by
  have:wt=(MT tk).2:=congrArg Prod.snd h6
  rw [this]
  exact Qa _
 have hd:d.1=64:=by
  have:d=(MT tk).1:=congrArg Prod.fst h6
  rw [this]
  rfl
 have i1:inR ((k:Int)+1)=true:=aL (by omega)
 have hso:=VN hs
 have ht':l.getD k ((0:Int),(⟨0,0,0,0⟩:ag),(⟨0,0,0,0⟩:ag),(⟨0,0,0,0⟩:ag),false)=(w,v,P):=ho
 have z22:(!(c'==c'))=false:=by rw [beq_self_eq_true];rfl
 have p1:xH (((),v,()),((c',(),b,()),(cU c' 1,(),()),d,wt,()))=true:=(Bool.and_eq_true _ _).mpr ⟨hso,decide_eq_true hw⟩
 have p2:kg (((c',(m,tp),tk,0,b),v,()),())=true:=(Bool.and_eq_true _ _).mpr ⟨hso,decide_eq_true (show tk.length<=_ by omega)⟩
 have p3:nh (((c',(m,tp),tk,0,b),()),())=true:=decide_eq_true (show tk.length<=_ by omega)
 have p4:Gp (((),()),((c',(),b,()),(cU c' 1,(),()),d,wt,()))=true:=decide_eq_true hw
 have p5:Gn (((),()),((c',(),b,()),(cU c' 1,(),()),d,wt,()))=true:=decide_eq_true hw
 have p6:ng (((c',(m,tp),tk,0,b),()),())=true:=(Bool.and_eq_true _ _).mpr ⟨hso,decide_eq_true (show tk.length<=_ by omega)⟩
 have p7:kh (((c',(m,tp),tk,0,b),()),())=true:=(Bool.and_eq_true _ _).mpr ⟨hso,decide_eq_true ⟨show tk.length<=_ by omega,show (0:Int)<=0 by omega,show (0:Int)<=_ by omega⟩⟩
 have p8:xJ (((),()),((c',(),b,()),(cU c' 1,(),()),d,wt,()))=true:=(Bool.and_eq_true _ _).mpr ⟨hso,decide_eq_true ⟨hd,hw⟩⟩
 have ec:iE (c',(m,tp),tk,0,b)=(fZ (c',(m,tp),tk,0,b) 0 [],vM (cU c' 1) (wb fJ 64 (tk++ [0]++ [])),0):=aFm h2
 have ex:TH (cU c' 1) d wt=vM (cU c' 1) (wb fJ 64 (tk++ [0]++ [])):=by
  have e1:d=(MT tk).1:=congrArg Prod.fst h6
  have e2:wt=(MT tk).2:=congrArg Prod.snd h6
  rw [e1,e2]
  exact aFi _ _
 clear h6
 show (CV c' pf l (k:Int) fl c' b c' m tp tk 0 b (cU c' 1) d.1 d.2.1 d.2.2.1 d.2.2.2.1 d.2.2.2.2.1 d.2.2.2.2.2.1 d.2.2.2.2.2.2.1 d.2.2.2.2.2.2.2.1 d.2.2.2.2.2.2.2.2.1 d.2.2.2.2.2.2.2.2.2.2.1 wt).run=some (.inl (aq0 c' pf fl l ((k:Int)+1) (aFI (w,v,P) ((c',(m,tp),tk,0,b),(d,wt)))))
 obtain ⟨n,d0,d1,d2,d3,d4,d5,d6,d7,⟨⟩,dc,⟨⟩⟩:=d
 have rp:=PF c' b
 have rs:=PE (cU c' 1) b
 have nx:aFI (w,v,P) ((c',(m,tp),tk,0,b),((n,d0,d1,d2,d3,d4,d5,d6,d7,(),dc,()),wt))=cond (w==1) (fZ (c',(m,tp),tk,0,b) 2 (dX c' v),jP (n,d0,d1,d2,d3,d4,d5,d6,d7,(),dc,()) wt 2 (dX c' v))
  (cond (w==2) (bP (c',(m,tp),tk,0,b) (c9 c' b).1.2 1,fT (c9 c' b).1.2 1 b (n,d0,d1,d2,d3,d4,d5,d6,d7,(),dc,()) wt)
  (cond (w==3) (bP (c',(m,tp),tk,0,b) (c8 (cU c' 1) b).1.2 2,fT (c8 (cU c' 1) b).1.2 2 b (n,d0,d1,d2,d3,d4,d5,d6,d7,(),dc,()) wt) (fZ (c',(m,tp),tk,0,b) 0 [],jP (n,d0,d1,d2,d3,d4,d5,d6,d7,(),dc,()) wt 0 []))):=rfl
 rw [nx]
 clear nx
 unfold CV
 dsimp only
 rw [Int.toNat_natCast,ht']
 dsimp only
 rw [ec,ex]
 generalize vM (cU c' 1) (wb fJ 64 (tk++ [0]++ []))=W
 generalize c9 c' b=rP at*
 generalize c8 (cU c' 1) b=rS at*
 refine (OT.az (decide_eq_true (by omega))).trans ((aj (by rw [aM (show 0<=(k:Int)/\(k:Int)<(l.length:Int) by omega)];rfl)).trans ?_)
 rcases (Bool.eq_false_or_eq_true (w==1)).symm with w1|w1
 ·refine (OT.aq w1).trans ?_
  rcases (Bool.eq_false_or_eq_true (w==2)).symm with w2|w2
  ·refine (OT.aq w2).trans ?_
   rcases (Bool.eq_false_or_eq_true (w==3)).symm with w3|w3
   ·rw [w1,w2,w3]
    have q1:=yo (Eq.refl W)
    exact (OT.aq rfl).trans ((aj (by rw [p7,p8];rfl)).trans ((OT.aq (b:= !Ru W W) (by rw [q1];rfl)).trans ((OT.aq rfl).trans ((OT.aq (eO rfl)).trans ((OT.aq z22).trans ((aj (by rw [i1];rfl)).trans rfl))))))
   ·rw [w1,w2,w3]
    obtain ⟨⟨E,e⟩,rest⟩:=rS
    dsimp only [cond_true,cond_false] at rs⊢
    have q1:=yo (Eq.refl E)
    refine (OT.az rfl).trans ((aj (by rw [p5,p6];rfl)).trans ((OT.aq (b:= !Ru E E) (by rw [q1];rfl)).trans ((OT.aq (eO rfl)).trans ?_)))
    rcases (Bool.eq_false_or_eq_true (e==(0:Int))).symm with e0|e0
    ·have hT:bP (c',(m,tp),tk,0,b) e 2=(c',(m,tp),tk,0,b):=by unfold bP;rw [e0];rfl
     have hD:fT e 2 b (n,d0,d1,d2,d3,d4,d5,d6,d7,(),dc,()) wt=((n,d0,d1,d2,d3,d4,d5,d6,d7,(),dc,()),wt):=by unfold fT;rw [e0];rfl
     rw [e0,cond_false] at rs
     rw [hT,hD,rs]
     exact (OT.aq (eO rfl)).trans ((OT.aq z22).trans ((aj (by rw [i1];rfl)).trans rfl))
    ·have hT:bP (c',(m,tp),tk,0,b) e 2=fZ (c',(m,tp),tk,0,b.drop 32) 2 (b.take 32):=by unfold bP;rw [e0];rfl
     have hD:fT e 2 b (n,d0,d1,d2,d3,d4,d5,d6,d7,(),dc,()) wt=jP (n,d0,d1,d2,d3,d4,d5,d6,d7,(),dc,()) wt 2 (b.take 32):=by unfold fT;rw [e0];rfl
     rw [e0,cond_true] at rs
     rw [hT,hD,rs]
     exact (OT.aq (eO rfl)).trans ((OT.aq z22).trans ((aj (by rw [i1];rfl)).trans rfl))
  ·rw [w1,w2]
   obtain ⟨⟨E,e⟩,rest⟩:=rP
   dsimp only [cond_true,cond_false] at rp⊢
   have q1:=HT E
   refine (OT.az rfl).trans ((aj (by rw [p3,p4];rfl)).trans ((OT.aq (b:= !ahU E E) (by rw [q1];rfl)).trans ((OT.aq (eO rfl)).trans ?_)))
   rcases (Bool.eq_false_or_eq_true (e==(0:Int))).symm with e0|e0
   ·have hT:bP (c',(m,tp),tk,0,b) e 1=(c',(m,tp),tk,0,b):=by unfold bP;rw [e0];rfl
    have hD:fT e 1 b (n,d0,d1,d2,d3,d4,d5,d6,d7,(),dc,()) wt=((n,d0,d1,d2,d3,d4,d5,d6,d7,(),dc,()),wt):=by unfold fT;rw [e0];rfl
    rw [e0,cond_false] at rp
    rw [hT,hD,rp]
    exact (OT.aq (eO rfl)).trans ((OT.aq z22).trans ((aj (by rw [i1];rfl)).trans rfl))
   ·have hT:bP (c',(m,tp),tk,0,b) e 1=fZ (c',(m,tp),tk,0,b.drop 32) 1 (b.take 32):=by unfold bP;rw [e0];rfl
    have hD:fT e 1 b (n,d0,d1,d2,d3,d4,d5,d6,d7,(),dc,()) wt=jP (n,d0,d1,d2,d3,d4,d5,d6,d7,(),dc,()) wt 1 (b.take 32):=by unfold fT;rw [e0];rfl
    rw [e0,cond_true] at rp
    rw [hT,hD,rp]
    exact (OT.aq (eO rfl)).trans ((OT.aq z22).trans ((aj (by rw [i1];rfl)).trans rfl))
 ·rw [w1]
  generalize dX c' v=S
  exact (OT.az rfl).trans ((aj (by rw [p1,p2];rfl)).trans ((OT.aq (eO rfl)).trans ((OT.aq z22).trans ((aj (by rw [i1];rfl)).trans rfl))))
def CS (s:bl):Bool:=au s.1.1&&decide (s.1.2.2.2.2.2.2.1=0/\s.1.2.2.1.length<=60/\s.2.2.1.1=s.1.1/\s.2.2.2.1.1=s.1.1/\s.2.2.2.1.2.1=1/\s.2.2.2.1.2.2.1.length<=100000/\s.2.2.2.1.2.2.2.1= []/\s.2.2.2.1.2.2.2.2.1=0/\s.2.2.2.1.2.2.2.2.2.1=s.2.2.1.2.2.1/\s.2.2.2.2.1.1=cU s.1.1 1/\s.2.2.2.2.1.2.1=s.2.2.2.1.2.2.1)
def Jn (_:bl):jC:=((false,()),())
def Jo (_:bl):Bool:=false
def zg (s:bl):gD:=((s.1.2.1,(),()),(s.2.1,()))
theorem asL:∀ s:bl,CS s=true->∃ m e,aA nN m s=some e/\(zh Jn Jo zg s).run=some e:=by
 rintro ⟨⟨c,pf,l,⟨⟩,⟨⟩,⟨⟩,i,⟨⟩⟩,⟨fl,⟨cw,⟨⟩,o,⟨⟩⟩,⟨ct,m,tp,tk,at',b,⟨⟩⟩,⟨s,co,⟨⟩⟩,⟨⟩⟩⟩ h
 obtain ⟨hs,h⟩:=(Bool.and_eq_true _ _).mp h
 obtain ⟨h0,hl,h1,h2,h3,h4,h5,h6,h7,h8,h9⟩:=of_decide_eq_true h
 dsimp only at h0 hl h1 h2 h3 h4 h5 h6 h7 h8 h9 hs
 subst h0 h3 h5 h6 h7 h8 h9
 subst h1
 subst h2
 have:=(aR (T:=nN) (λk t=>aqI ct pf fl l (k:Int) t) (λk t=>nxR (l.getD k ay1) t)
  (λ_=>(⟨(.exit 0,pi),(((pf,(),()),(fl,())):gD)⟩:aI)) l.length (ct,(1,co),[],0,b) (λk t=>XS ct k t) ⟨rfl,rfl,Int.le_refl _,Int.le_refl _,Nat.zero_le _,h4⟩
  (λk t hk ht=>⟨aDF hs hk (by omega) rfl ht,azn _ ht⟩) (λt _=> ?_)).1
 ·obtain ⟨n,hn⟩:=this
  exact ⟨n,_,hn,rfl⟩
 ·exact OT.aq (decide_eq_false (by dsimp only [aqI];omega))
def wE (s:aW):Bool:=au s.1.1&&decide (s.1.2.2.2.2.2.2.1=0/\s.1.2.2.1.length<=60/\s.2.2.1.1=s.1.1/\s.2.2.2.1.1=s.1.1/\(s.2.2.2.1.2.1==1)=false/\s.2.2.2.1.2.2.2.1= []/\s.2.2.2.1.2.2.2.2.1=0/\s.2.2.2.1.2.2.2.2.2.1=s.2.2.1.2.2.1/\s.2.2.2.2.1.1=cU s.1.1 1/\s.2.2.2.2.2.1.1=oN.1/\aud s.2.2.2.2.2.1=aud oN/\s.2.2.2.2.2.2.1= [])
def CT (_:aW):iv:=((false,()),())
def CU (_:aW):Bool:=false
def tY (s:aW):fR:=((s.1.2.1,(),()),(s.2.1,()))
theorem amd:∀ s:aW,wE s=true->∃ m e,aA kn m s=some e/\(tZ CT CU tY s).run=some e:=by
 rintro ⟨⟨c,pf,l,⟨⟩,⟨⟩,⟨⟩,i,⟨⟩⟩,⟨fl,⟨cw,⟨⟩,o,⟨⟩⟩,⟨ct,m,tp,tk,at',b,⟨⟩⟩,⟨s,⟨⟩,⟨⟩⟩,d,w,⟨⟩⟩⟩ h
 obtain ⟨hs,h⟩:=(Bool.and_eq_true _ _).mp h
 obtain ⟨h0,hl,h1,h2,h3,h5,h6,h7,h8,h11,h11',h12⟩:=of_decide_eq_true h
 have hdd:d=oN:=azU h11 h11'
 clear h11 h11'
 dsimp only at h0 hl h1 h2 h3 h5 h6 h7 h8 h12 hs
 subst h0 h5 h6 h7 h8 h12
 subst h1
 subst h2
 subst hdd
 have:=(aR (T:=kn) (λk q=>aq0 ct pf fl l (k:Int) q) (λk q=>aFI (l.getD k ay1) q)
  (λ_=>(⟨(.exit 0,mv),(((pf,(),()),(fl,())):fR)⟩:aI)) l.length ((ct,(m,tp),[],0,b),(oN,[])) (λk q=>PL ct k q) ⟨rfl,h3,rfl,Nat.zero_le _,azV⟩
  (λk q hk hq=>⟨aDS hs hk (by omega) rfl hq,atf _ hq⟩) (λq _=> ?_)).1
 ·obtain ⟨n,hn⟩:=this
  exact ⟨n,_,hn,rfl⟩
 ·exact OT.aq (decide_eq_false (by dsimp only [aq0];omega))
def nM (x:CW):Bool:=decide (x.1.2.1.2.length*32<=140737488355328/\x.1.2.2.1.length<=140737488351232)
def aiM (_:CW):OT ff.Y:=.ok ⟨bV,((true,()),())⟩
theorem asK:aa Tryz.prog 3 (ff.aD nM aiM):=acZ CS Jn Jo zg wE CT CU tY asL amd _ _ λx oy hp ho=>by
 rw [<-ho]
 clear ho
 obtain ⟨⟨c,⟨m,tp⟩,pf,l,⟨⟩⟩,⟨⟩⟩:=x
 show (zi CS Jn Jo zg wE CT CU tY c (m,tp) pf l).run=some ⟨bV,((true,()),())⟩
 obtain ⟨hp1,hp2⟩:=of_decide_eq_true hp
 have hp2:pf.length<=140737488351232:=hp2
 have hc:pC (((m,tp),()),())=true:=decide_eq_true hp1
 have lt:(l.take 60).length<=60:=by rw [List.length_take];omega
 obtain ⟨s1,s2⟩:=aqE pf
 have e:List.take (((pf.length:Int)-0).toNat) (List.drop 0 (fk pf))=pf:=by
  rw [List.drop_zero,Int.sub_zero,Int.toNat_natCast,s1]
 have hu:gx ((pf,()),())=true:=decide_eq_true (show pf.length<=_ by omega)
 have hm:kx ((fk pf,fk pf,()),())=true:=decide_eq_true (show (fk pf).length<=_ by rw [s2];omega)
 have hb:bj 0 (pf.length:Int) (fk pf).length=true:=by
  rw [s2]
  exact bu (by omega)
 have hr:yb ((c,(m,tp),pf,()),())=true:=decide_eq_true (show pf.length<=_ by omega)
 have done:some (⟨bV,((decide (fk pf=fk pf),()),())⟩:ff.Y)=some ⟨bV,((true,()),())⟩:=by rw [decide_eq_true rfl]
 unfold zi
 dsimp only
 rw [e]
 refine (aj (by rw [hu,hc,hb,hr];rfl)).trans ?_
 rcases (Bool.eq_false_or_eq_true (b6 c m tp.length==0)).symm with h|h
 ·have q1:(!(b6 c m tp.length==b6 c m tp.length))=false:=by rw [beq_self_eq_true];rfl
  refine (OT.aq h).trans ((OT.aq h).trans ((OT.aq q1).trans ((OT.az (beq_self_eq_true (b6 c m tp.length))).trans ?_)))
  have e:(!(b6 c m tp.length==0))=true:=by rw [h];rfl
  exact congrArg (λb:Bool=>some (⟨bV,((b,()),())⟩:ff.Y)) e
 ·obtain ⟨hs,hn⟩:=asw h
  refine (OT.az h).trans ?_
  rcases (Bool.eq_false_or_eq_true (m==1)).symm with g|g
  ·refine (OT.aq g).trans ((OT.az h).trans ((aj ?_).trans ((OT.aq rfl).trans ((aj ?_).trans done))))
   ·simp only [List.all_cons,List.all_nil,Bool.and_true]
    exact (Bool.and_eq_true _ _).mpr ⟨hs,decide_eq_true ⟨rfl,lt,rfl,rfl,g,rfl,rfl,rfl,rfl,rfl,rfl,rfl⟩⟩
   ·unfold tY
    dsimp only
    rw [hu,hm]
    rfl
  ·refine (OT.az g).trans ((OT.az h).trans ((aj ?_).trans ((OT.aq rfl).trans ((aj ?_).trans done))))
   ·simp only [List.all_cons,List.all_nil,Bool.and_true]
    have g':m=1:=by simpa using g
    exact (Bool.and_eq_true _ _).mpr ⟨hs,decide_eq_true ⟨rfl,lt,rfl,rfl,g',hn,rfl,rfl,rfl,rfl,rfl⟩⟩
   ·unfold zg
    dsimp only
    rw [hu,hm]
    rfl
def acY:bw:=(ff.aD nM aiM)
theorem Xp:aa Tryz.prog 3 acY:=asK
end Go.Proofs.YtohjofabochgfaaGreat
