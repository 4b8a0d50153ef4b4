/- A symbolic machine for Go code over plain data, and functions of the program as it shows them. No statement is proved in this file. -/
import Derived.KernelRfl
import Derived.Test.YthnnknnbfhkomaaGreatXc
set_option linter.unusedSimpArgs false
set_option linter.unusedVariables false
set_option linter.unusedSectionVars false
namespace Go.Proofs.YthnnknnbfhkomaaGreat
section
open Sx Go
set_option maxRecDepth 100000
def zD:af:=⟨LM,[],true,0,false⟩
abbrev XO:Type:=LG
def ko:aL:=⟨il,[],false⟩
def atb (a0:Int) (a1:ab) (a2:ab):OT zD.Y:=
 let z0:Bool:=ac a0
 let z1:Nat:=pS a0
 let z2:ab:= {w0:=0,w1:=0,w2:=0,w3:=0}
 let z3:ab:=dr z1 z2 a2
 (.br (z0)
 (.br (z0)
  (.br (z0)
   (.ok ⟨ko,((dr z1 (aR z1 (aR z1 a1 a1) a1) a2,()),())⟩)
   (.ok ⟨ko,((z2,()),())⟩))
  (.br (z0)
   (.ok ⟨ko,((z3,()),())⟩)
   (.ok ⟨ko,((z2,()),())⟩)))
 (.br (z0)
  (.br (z0)
   (.ok ⟨ko,((dr z1 (aR z1 z2 a1) a2,()),())⟩)
   (.ok ⟨ko,((z2,()),())⟩))
  (.br (z0)
   (.ok ⟨ko,((z3,()),())⟩)
   (.ok ⟨ko,((z2,()),())⟩))))
theorem am4 (pre:XO->Bool) (F:XO->OT zD.Y) (hF:∀ (x:XO) oy,pre x=true->(F x).run=some oy->(atb x.1.1 x.1.2.1 x.1.2.2.1).run=some oy):aa aj 113 (zD.az pre F):=
 dh ajl 113 Tryz.f113 zD [ko] bE (λx=>atb x.1.1 x.1.2.1 x.1.2.2.1) hF
def F5 (p:Nat) (x b:ab):ab:=dr p (aR p (aR p x x) x) b
def ua (x:XO):Bool:=ac x.1.1
def atc (x:XO):OT zD.Y:=.ok ⟨ko,((F5 (pS x.1.1) x.1.2.1 x.1.2.2.1,()),())⟩
theorem ayY:aa aj 113 (zD.az ua atc):=am4 _ _ λx oy hp ho=>by
 rw [<-ho]
 clear ho
 obtain ⟨⟨s,a,b,⟨⟩⟩,⟨⟩⟩:=x
 have hs:ac s=true:=hp
 exact (OT.ak hs).trans ((OT.ak hs).trans ((OT.ak hs).trans rfl))
def En:bx:=(zD.az ua atc)
theorem adC:aa aj 113 En:=ayY
theorem adB:ax En:=av
def avf:Env:=aq 113 En aBV
theorem Zm:bU aj te avf:=aU follows ajl adC adB
def Xx:af:=⟨[aD,xj],[],true,0,false⟩
abbrev aGm:Type:=(Int×rp)×Unit
def wZ:aL:=⟨n9,[],false⟩
def aGk (a0:Int) (a1:cI):OT Xx.Y:=
 let z0:Bool:=ac a0
 let z1:Nat:=ab.nat (numOf (Int.toNat a0)).fst
 let z2:ab:=bS a0
 let z3:Bool:=ua ((a0,a1.fst,z2,()),())
 let z4:Nat:=pS a0
 let z5:ab:=aR z4 a1.snd.fst a1.snd.fst
 let z6:ab:=F5 z4 a1.fst z2
 let z7:=z6.w0
 let z8:=z6.w1
 let z9:=z6.w2
 let z10:=z6.w3
 (.br (z0)
 (.br (a1.snd.snd)
  (.ok ⟨wZ,((a1.fst.w0==(0:UInt64)&&(a1.fst.w1==(0:UInt64)&&(a1.fst.w2==(0:UInt64)&&(a1.fst.w3==(0:UInt64)&&true)))&&(a1.snd.fst.w0==(0:UInt64)&&(a1.snd.fst.w1==(0:UInt64)&&(a1.snd.fst.w2==(0:UInt64)&&(a1.snd.fst.w3==(0:UInt64)&&true)))&&(a1.snd.snd==true&&true)),()),())⟩)
  (.br (z0)
   (.br (Nat.blt (ab.nat a1.fst) z1)
    (.br (Nat.blt (ab.nat a1.snd.fst) z1)
     (.br (z0)
      (gd [z3] (.ok ⟨wZ,((z5.w0==z7&&(z5.w1==z8&&(z5.w2==z9&&(z5.w3==z10&&true))),()),())⟩))
      (gd [z3] (.ok ⟨wZ,(((0:UInt64)==z7&&((0:UInt64)==z8&&((0:UInt64)==z9&&((0:UInt64)==z10&&true))),()),())⟩)))
     (.ok ⟨wZ,((false,()),())⟩))
    (.ok ⟨wZ,((false,()),())⟩))
   (.ok ⟨wZ,((false,()),())⟩)))
 (.ok ⟨wZ,((false,()),())⟩))
theorem ayS (pre:aGm->Bool) (F:aGm->OT Xx.Y) (hF:∀ (x:aGm) oy,pre x=true->(F x).run=some oy->(aGk x.1.1 x.1.2.1).run=some oy):aa aj 61 (Xx.az pre F):=
 dh Zm 61 Tryz.f61 Xx [wZ] bE (λx=>aGk x.1.1 x.1.2.1) hF
def eqE (a b:ab):Bool:=(a.w0==b.w0&&(a.w1==b.w1&&(a.w2==b.w2&&(a.w3==b.w3&&true))))
theorem tO {a b:ab}:eqE a b=true ↔ a=b:=by
 obtain ⟨a0,a1,a2,a3⟩:=a
 obtain ⟨b0,b1,b2,b3⟩:=b
 simp [eqE]
theorem ahq (a:ab):eqE a a=true:=tO.2 rfl
theorem asy (a b:ab):eqE a b=Nat.beq a.nat b.nat:=by
 cases h:eqE a b
 ·cases hb:Nat.beq a.nat b.nat
  ·rfl
  ·rw [tO.2 (gF (aY hb))] at h
   cases h
 ·rw [tO.1 h]
  exact (Nat.beq_refl _).symm
abbrev Pt:Type:=cI
def onB (c:Int) (P:Pt):Bool:=cond (ac c) (cond P.2.2 (bB P.1&&(bB P.2.1&&(P.2.2==true&&true)))
 (cond (Nat.blt P.1.nat (pS c)) (cond (Nat.blt P.2.1.nat (pS c)) (eqE (aR (pS c) P.2.1 P.2.1) (F5 (pS c) P.1 (bS c))) false) false)) false
def asT (_:aGm):Bool:=true
def aGl (x:aGm):OT Xx.Y:=.ok ⟨wZ,((onB x.1.1 x.1.2.1,()),())⟩
theorem aGj:aa aj 61 (Xx.az asT aGl):=ayS _ _ λx oy _ ho=>by
 rw [<-ho]
 clear ho
 obtain ⟨⟨c,⟨X,Y,i⟩,⟨⟩⟩,⟨⟩⟩:=x
 show _=(OT.ok ⟨wZ,((onB c (X,Y,i),()),())⟩:OT Xx.Y).run
 unfold onB
 cases hs:ac c
 ·exact OT.au hs
 ·refine (OT.ak hs).trans ?_
  cases i
  ·refine (OT.au rfl).trans ((OT.ak hs).trans ?_)
   cases hx:Nat.blt X.nat (pS c)
   ·exact OT.au hx
   ·refine (OT.ak hx).trans ?_
    cases hy:Nat.blt Y.nat (pS c)
    ·exact OT.au hy
    ·refine (OT.ak hy).trans ((OT.ak hs).trans ((ae ?_).trans rfl))
     simp only [aA,aI,aJ]
     exact hs
  ·exact OT.ak rfl
theorem vg {c:Int} {P:Pt} (h:onB c P=true):ac c=true:=by
 unfold onB at h
 cases hs:ac c
 ·rw [hs] at h;cases h
 ·rfl
def Sg:bx:=(Xx.az asT aGl)
theorem asU:aa aj 61 Sg:=aGj
theorem asS:ax Sg:=av
def aGG:Env:=aq 61 Sg avf
theorem avd:bU aj te aGG:=aU follows Zm asU asS
def qG:af:=⟨[FR],[],true,0,false⟩
abbrev KS:Type:=(iD×Unit)×Unit
def KR:aL:=⟨n9,[],false⟩
def ahF (a0:iD):OT qG.Y:=
 (.ok ⟨KR,((a0.snd.snd.w0==(0:UInt64)&&(a0.snd.snd.w1==(0:UInt64)&&(a0.snd.snd.w2==(0:UInt64)&&(a0.snd.snd.w3==(0:UInt64)&&true))),()),())⟩)
theorem adu (pre:KS->Bool) (F:KS->OT qG.Y) (hF:∀ (x:KS) oy,pre x=true->(F x).run=some oy->(ahF x.1.1).run=some oy):aa aj 185 (qG.az pre F):=
 dh avd 185 Tryz.f185 qG [KR] bE (λx=>ahF x.1.1) hF
abbrev Hb:Type:=iD
def Ov (_:KS):Bool:=true
def ahG (x:KS):OT qG.Y:=.ok ⟨KR,((bB x.1.1.2.2,()),())⟩
theorem as2:aa aj 185 (qG.az Ov ahG):=adu _ _ λx oy hp ho=>by
 rw [<-ho]
 rfl
def zC:bx:=(qG.az Ov ahG)
theorem XF:aa aj 185 zC:=as2
theorem XE:ax zC:=av
def ajk:Env:=aq 185 zC aGG
theorem Pf:bU aj te ajk:=aU follows avd XF XE
def qE:af:=⟨oZ,[],true,0,false⟩
abbrev KI:Type:=rp×Unit
def BW:aL:=⟨[FR],[],false⟩
def ahx (a0:cI):OT qE.Y:=
 let z0:ab:= {w0:=0,w1:=0,w2:=0,w3:=0}
 (.br (a0.snd.snd)
 (.ok ⟨BW,(((z0,z0,z0),()),())⟩)
 (.ok ⟨BW,(((a0.fst,a0.snd.fst,{w0:=1,w1:=0,w2:=0,w3:=0}),()),())⟩))
theorem adq (pre:KI->Bool) (F:KI->OT qE.Y) (hF:∀ (x:KI) oy,pre x=true->(F x).run=some oy->(ahx x.1.1).run=some oy):aa aj 167 (qE.az pre F):=
 dh Pf 167 Tryz.f167 qE [BW] bE (λx=>ahx x.1.1) hF
def gv (P:Pt):Hb:=cond P.2.2 (⟨0,0,0,0⟩,⟨0,0,0,0⟩,⟨0,0,0,0⟩) (P.1,P.2.1,⟨1,0,0,0⟩)
def On (_:KI):Bool:=true
def ahy (x:KI):OT qE.Y:=.ok ⟨BW,((gv x.1.1,()),())⟩
theorem asL:aa aj 167 (qE.az On ahy):=adq _ _ λx oy hp ho=>by
 rw [<-ho]
 clear ho
 obtain ⟨⟨⟨X,Y,i⟩,⟨⟩⟩,⟨⟩⟩:=x
 cases i<;>rfl
def zy:bx:=(qE.az On ahy)
theorem Xp:aa aj 167 zy:=asL
theorem Xo:ax zy:=av
def ajg:Env:=aq 167 zy ajk
theorem Pd:bU aj te ajg:=aU follows Pf Xp Xo
def KQ:af:=⟨LM,[],true,0,false⟩
abbrev asY:Type:=LG
def Sn:aL:=⟨il,[],false⟩
def aAT (a0:Int) (a1:ab) (a2:ab):OT KQ.Y:=
 (.br (ac a0)
 (.ok ⟨Sn,((aR (pS a0) a1 a2,()),())⟩)
 (.ok ⟨Sn,(({w0:=0,w1:=0,w2:=0,w3:=0},()),())⟩))
theorem asX (pre:asY->Bool) (F:asY->OT KQ.Y) (hF:∀ (x:asY) oy,pre x=true->(F x).run=some oy->(aAT x.1.1 x.1.2.1 x.1.2.2.1).run=some oy):aa aj 186 (KQ.az pre F):=
 dh Pd 186 Tryz.f186 KQ [Sn] bE (λx=>aAT x.1.1 x.1.2.1 x.1.2.2.1) hF
def bH (x:asY):Bool:=ac x.1.1
def aAU (x:asY):OT KQ.Y:=.ok ⟨Sn,((aR (pS x.1.1) x.1.2.1 x.1.2.2.1,()),())⟩
theorem aEw:aa aj 186 (KQ.az bH aAU):=asX _ _ λx oy hp ho=>by
 rw [<-ho]
 clear ho
 obtain ⟨⟨s,a,b,⟨⟩⟩,⟨⟩⟩:=x
 have hs:ac s=true:=hp
 exact (OT.ak hs).trans rfl
def KP:bx:=(KQ.az bH aAU)
theorem amV:aa aj 186 KP:=aEw
theorem amU:ax KP:=av
def aBU:Env:=aq 186 KP ajg
theorem ajj:bU aj te aBU:=aU follows Pd amV amU
def KN:af:=⟨LM,[],true,0,false⟩
abbrev asQ:Type:=LG
def Sc:aL:=⟨il,[],false⟩
def aAR (a0:Int) (a1:ab) (a2:ab):OT KN.Y:=
 (.br (ac a0)
 (.ok ⟨Sc,((iq (pS a0) a1 a2,()),())⟩)
 (.ok ⟨Sc,(({w0:=0,w1:=0,w2:=0,w3:=0},()),())⟩))
theorem asP (pre:asQ->Bool) (F:asQ->OT KN.Y) (hF:∀ (x:asQ) oy,pre x=true->(F x).run=some oy->(aAR x.1.1 x.1.2.1 x.1.2.2.1).run=some oy):aa aj 187 (KN.az pre F):=
 dh ajj 187 Tryz.f187 KN [Sc] bE (λx=>aAR x.1.1 x.1.2.1 x.1.2.2.1) hF
def jA (x:asQ):Bool:=ac x.1.1
def aAS (x:asQ):OT KN.Y:=.ok ⟨Sc,((iq (pS x.1.1) x.1.2.1 x.1.2.2.1,()),())⟩
theorem aEu:aa aj 187 (KN.az jA aAS):=asP _ _ λx oy hp ho=>by
 rw [<-ho]
 clear ho
 obtain ⟨⟨s,a,b,⟨⟩⟩,⟨⟩⟩:=x
 have hs:ac s=true:=hp
 exact (OT.ak hs).trans rfl
def KM:bx:=(KN.az jA aAS)
theorem amO:aa aj 187 KM:=aEu
theorem amN:ax KM:=av
def aBT:Env:=aq 187 KM aBU
theorem aji:bU aj te aBT:=aU follows ajj amO amN
def qF:af:=⟨[aD,du,aQ],[],true,0,false⟩
abbrev KL:Type:=(Int×ab×mV)×Unit
def KK:aL:=⟨il,[],false⟩
def ahA (a0:Int) (a1:ab) (a2:UInt64):OT qF.Y:=
 let z0:ab:= {w0:=a2,w1:=0,w2:=0,w3:=0}
 (gd [bH ((a0,a1,z0,()),())] (.ok ⟨KK,((aR (pS a0) a1 z0,()),())⟩))
theorem adr (pre:KL->Bool) (F:KL->OT qF.Y) (hF:∀ (x:KL) oy,pre x=true->(F x).run=some oy->(ahA x.1.1 x.1.2.1 x.1.2.2.1).run=some oy):aa aj 188 (qF.az pre F):=
 dh aji 188 Tryz.f188 qF [KK] bE (λx=>ahA x.1.1 x.1.2.1 x.1.2.2.1) hF
def mj (p:Nat) (a:ab) (n:UInt64):ab:=aR p a ⟨n,0,0,0⟩
def iP (x:KL):Bool:=ac x.1.1
def ahB (x:KL):OT qF.Y:=.ok ⟨KK,((mj (pS x.1.1) x.1.2.1 x.1.2.2.1,()),())⟩
theorem asO:aa aj 188 (qF.az iP ahB):=adr _ _ λx oy hp ho=>by
 rw [<-ho]
 clear ho
 obtain ⟨⟨s,a,b,⟨⟩⟩,⟨⟩⟩:=x
 have hs:ac s=true:=hp
 refine (ae ?_).trans rfl
 simp only [aA,aI,aJ]
 exact hs
def zA:bx:=(qF.az iP ahB)
theorem Xr:aa aj 188 zA:=asO
theorem Xq:ax zA:=av
def ajh:Env:=aq 188 zA aBT
theorem Pe:bU aj te ajh:=aU follows aji Xr Xq
def kO:af:=⟨[aD,FR],[],true,0,false⟩
abbrev BZ:Type:=(Int×iD×Unit)×Unit
def ka:aL:=⟨oZ,[],false⟩
def XA (a0:Int) (a1:iD):OT kO.Y:=
 let z0:ab:= {w0:=0,w1:=0,w2:=0,w3:=0}
 let z1:Nat:=pS a0
 let z2:rq:=(z0,())
 let z3:Bool:=bH ((a0,z0,z2),())
 let z4:ab:=aR z1 z0 z0
 let z5:Bool:=bH ((a0,a1.fst,z4,()),())
 let z6:Bool:=bH ((a0,z4,z2),())
 let z7:ab:=aR z1 z4 z0
 let z8:Bool:=bH ((a0,a1.snd.fst,z7,()),())
 let z9:cI:=(aR z1 a1.fst z4,aR z1 a1.snd.fst z7,false)
 let z10:ab:=CC z1 a1.snd.snd
 let z11:rq:=(z10,())
 let z12:ab:=aR z1 z10 z10
 let z13:ab:=aR z1 z12 z10
 (.br (bB a1.snd.snd)
 (.ok ⟨ka,(((z0,z0,true),()),())⟩)
 (.br (ac a0)
  (.br (Nat.beq (ab.nat a1.snd.snd%z1) 0)
   (gd [z3,z5,z6,z8] (.ok ⟨ka,((z9,()),())⟩))
   (gd [bH ((a0,z10,z11),()),bH ((a0,a1.fst,z12,()),()),bH ((a0,z12,z11),()),bH ((a0,a1.snd.fst,z13,()),())] (.ok ⟨ka,(((aR z1 a1.fst z12,aR z1 a1.snd.fst z13,false),()),())⟩)))
  (gd [z3,z5,z6,z8] (.ok ⟨ka,((z9,()),())⟩))))
theorem Xz (pre:BZ->Bool) (F:BZ->OT kO.Y) (hF:∀ (x:BZ) oy,pre x=true->(F x).run=some oy->(XA x.1.1 x.1.2.1).run=some oy):aa aj 165 (kO.az pre F):=
 dh Pe 165 Tryz.f165 kO [ka] bE (λx=>XA x.1.1 x.1.2.1) hF
def Ft (p:Nat) (a:ab):ab:=cond (Nat.beq (a.nat%p) 0) ⟨0,0,0,0⟩ (CC p a)
def abd (p:Nat) (x y i:ab):Pt:=(aR p x (aR p i i),aR p y (aR p (aR p i i) i),false)
def gG (p:Nat) (w:Hb):Pt:=cond (bB w.2.2) aM (abd p w.1 w.2.1 (Ft p w.2.2))
def mL (x:BZ):Bool:=ac x.1.1
def XB (x:BZ):OT kO.Y:=.ok ⟨ka,((gG (pS x.1.1) x.1.2.1,()),())⟩
theorem amS:aa aj 165 (kO.az mL XB):=Xz _ _ λx oy hp ho=>by
 rw [<-ho]
 clear ho
 obtain ⟨⟨c,⟨X,Y,Z⟩,⟨⟩⟩,⟨⟩⟩:=x
 have hs:ac c=true:=hp
 show _=(OT.ok ⟨ka,((gG (pS c) (X,Y,Z),()),())⟩:OT kO.Y).run
 unfold gG
 dsimp only
 cases hz:bB Z
 ·refine (OT.au hz).trans ((OT.ak hs).trans ?_)
  unfold Ft
  cases hb:Nat.beq (Z.nat%pS c) 0
  ·refine (OT.au rfl).trans ((ae ?_).trans rfl)
   simp only [aA,aI,aJ,aw]
   exact ⟨hs,hs,hs,hs⟩
  ·refine (OT.ak rfl).trans ((ae ?_).trans rfl)
   simp only [aA,aI,aJ,aw]
   exact ⟨hs,hs,hs,hs⟩
 ·exact OT.ak hz
def tX:bx:=(kO.az mL XB)
theorem Sl:aa aj 165 tX:=amS
theorem Sk:ax tX:=av
def Zi:Env:=aq 165 tX ajh
theorem L5:bU aj te Zi:=aU follows Pe Sl Sk
def kP:af:=⟨[aD,FR],[],true,0,false⟩
abbrev B2:Type:=(Int×iD×Unit)×Unit
def oK:aL:=⟨[FR],[],false⟩
def XK (a0:Int) (a1:iD):OT kP.Y:=
 let z0:Nat:=pS a0
 let z1:ab:=aR z0 a1.snd.fst a1.snd.fst
 let z2:rq:=(z1,())
 let z3:ab:=aR z0 a1.fst z1
 let z4:ab:=aR z0 a1.fst a1.fst
 let z5:ab:=mj z0 z4 (3:UInt64)
 let z6:ab:=mj z0 z3 (4:UInt64)
 let z7:UInt64×PUnit:=((2:UInt64),())
 let z8:ab:=aR z0 z5 z5
 let z9:ab:=mj z0 z6 (2:UInt64)
 let z10:ab:=iq z0 z8 z9
 let z11:ab:=iq z0 z6 z10
 let z12:ab:=aR z0 z1 z1
 let z13:ab:=aR z0 z5 z11
 let z14:ab:=mj z0 z12 (8:UInt64)
 let z15:ab:=aR z0 a1.snd.fst a1.snd.snd
 (.br (bB a1.snd.snd)
 (.ok ⟨oK,((a1,()),())⟩)
 (gd [bH ((a0,a1.snd.fst,a1.snd.fst,()),()),bH ((a0,a1.fst,z2),()),iP ((a0,z3,(4:UInt64),()),()),bH ((a0,a1.fst,a1.fst,()),()),iP ((a0,z4,(3:UInt64),()),()),bH ((a0,z5,z5,()),()),iP ((a0,z6,z7),()),jA ((a0,z8,z9,()),()),jA ((a0,z6,z10,()),()),bH ((a0,z5,z11,()),()),bH ((a0,z1,z2),()),iP ((a0,z12,(8:UInt64),()),()),jA ((a0,z13,z14,()),()),bH ((a0,a1.snd.fst,a1.snd.snd,()),()),iP ((a0,z15,z7),())] (.ok ⟨oK,(((z10,iq z0 z13 z14,mj z0 z15 (2:UInt64)),()),())⟩)))
theorem XJ (pre:B2->Bool) (F:B2->OT kP.Y) (hF:∀ (x:B2) oy,pre x=true->(F x).run=some oy->(XK x.1.1 x.1.2.1).run=some oy):aa aj 168 (kP.az pre F):=
 dh L5 168 Tryz.f168 kP [oK] bE (λx=>XK x.1.1 x.1.2.1) hF
def aHI (p:Nat) (x y z:ab):Hb:=
 let yy:=aR p y y
 let s:=mj p (aR p x yy) 4
 let m:=mj p (aR p x x) 3
 let x':=iq p (aR p m m) (mj p s 2)
 (x',iq p (aR p m (iq p s x')) (mj p (aR p yy yy) 8),mj p (aR p y z) 2)
def adp (p:Nat) (w:Hb):Hb:=cond (bB w.2.2) w (aHI p w.1 w.2.1 w.2.2)
def qJ (x:B2):Bool:=ac x.1.1
def XL (x:B2):OT kP.Y:=.ok ⟨oK,((adp (pS x.1.1) x.1.2.1,()),())⟩
theorem am2:aa aj 168 (kP.az qJ XL):=XJ _ _ λx oy hp ho=>by
 rw [<-ho]
 clear ho
 obtain ⟨⟨c,⟨X,Y,Z⟩,⟨⟩⟩,⟨⟩⟩:=x
 have hs:ac c=true:=hp
 show _=(OT.ok ⟨oK,((adp (pS c) (X,Y,Z),()),())⟩:OT kP.Y).run
 unfold adp
 dsimp only
 cases hz:bB Z
 ·refine (OT.au hz).trans ((ae ?_).trans rfl)
  simp only [aA,aI,aJ,aw]
  exact ⟨hs,hs,hs,hs,hs,hs,hs,hs,hs,hs,hs,hs,hs,hs,hs⟩
 ·exact OT.ak hz
def tZ:bx:=(kP.az qJ XL)
theorem Sq:aa aj 168 tZ:=am2
theorem Sp:ax tZ:=av
def Zk:Env:=aq 168 tZ Zi
theorem L6:bU aj te Zk:=aU follows L5 Sq Sp
def ub:af:=⟨[aD,FR,FR],[],true,0,false⟩
abbrev XS:Type:=(Int×iD×iD×Unit)×Unit
def nL:aL:=⟨[FR],[],false⟩
def atj (a0:Int) (a1:iD) (a2:iD):OT ub.Y:=
 let z0:rq:=(a1.snd.snd,())
 let z1:rq:=(a2.snd.snd,())
 let z2:Nat:=pS a0
 let z3:ab:=aR z2 a2.snd.snd a2.snd.snd
 let z4:ab:=aR z2 a1.snd.snd a1.snd.snd
 let z5:ab:=aR z2 z3 a2.snd.snd
 let z6:ab:=aR z2 z4 a1.snd.snd
 let z7:ab:=aR z2 a2.fst z4
 let z8:ab:=aR z2 a1.fst z3
 let z9:ab:=aR z2 a2.snd.fst z6
 let z10:ab:=aR z2 a1.snd.fst z5
 let z11:ab:=iq z2 z7 z8
 let z12:ab:=iq z2 z9 z10
 let z13:ab:= {w0:=0,w1:=0,w2:=0,w3:=0}
 let z14:rq:=(z11,())
 let z15:ab:=aR z2 z11 z11
 let z16:ab:=aR z2 z12 z12
 let z17:ab:=aR z2 z15 z11
 let z18:rq:=(z17,())
 let z19:ab:=aR z2 z8 z15
 let z20:ab:=iq z2 z16 z17
 let z21:ab:=mj z2 z19 (2:UInt64)
 let z22:ab:=iq z2 z20 z21
 let z23:ab:=iq z2 z19 z22
 let z24:ab:=aR z2 z12 z23
 let z25:ab:=aR z2 z10 z17
 let z26:ab:=aR z2 a1.snd.snd a2.snd.snd
 (.br (bB a1.snd.snd)
 (.ok ⟨nL,((a2,()),())⟩)
 (.br (bB a2.snd.snd)
  (.ok ⟨nL,((a1,()),())⟩)
  (gd [bH ((a0,a1.snd.snd,z0),()),bH ((a0,a2.snd.snd,z1),()),bH ((a0,a1.fst,z3,()),()),bH ((a0,a2.fst,z4,()),()),bH ((a0,z3,z1),()),bH ((a0,a1.snd.fst,z5,()),()),bH ((a0,z4,z0),()),bH ((a0,a2.snd.fst,z6,()),()),jA ((a0,z7,z8,()),()),jA ((a0,z9,z10,()),())] (.br (z11.w0==(0:UInt64)&&(z11.w1==(0:UInt64)&&(z11.w2==(0:UInt64)&&(z11.w3==(0:UInt64)&&true))))
   (.br (z12.w0==(0:UInt64)&&(z12.w1==(0:UInt64)&&(z12.w2==(0:UInt64)&&(z12.w3==(0:UInt64)&&true))))
    (gd [qJ ((a0,a1,()),())] (.ok ⟨nL,((adp z2 a1,()),())⟩))
    (.ok ⟨nL,(((z13,z13,z13),()),())⟩))
   (gd [bH ((a0,z11,z14),()),bH ((a0,z15,z14),()),bH ((a0,z8,z15,()),()),bH ((a0,z12,z12,()),()),jA ((a0,z16,z18),()),iP ((a0,z19,(2:UInt64),()),()),jA ((a0,z20,z21,()),()),jA ((a0,z19,z22,()),()),bH ((a0,z12,z23,()),()),bH ((a0,z10,z18),()),jA ((a0,z24,z25,()),()),bH ((a0,a1.snd.snd,z1),()),bH ((a0,z11,z26,()),())] (.ok ⟨nL,(((z22,iq z2 z24 z25,aR z2 z11 z26),()),())⟩))))))
theorem am8 (pre:XS->Bool) (F:XS->OT ub.Y) (hF:∀ (x:XS) oy,pre x=true->(F x).run=some oy->(atj x.1.1 x.1.2.1 x.1.2.2.1).run=some oy):aa aj 166 (ub.az pre F):=
 dh L6 166 Tryz.f166 ub [nL] bE (λx=>atj x.1.1 x.1.2.1 x.1.2.2.1) hF
def aH8 (p:Nat) (u s h r Z1 Z2:ab):Hb:=
 let hh:=aR p h h
 let hhh:=aR p hh h
 let c:=aR p u hh
 let x:=iq p (iq p (aR p r r) hhh) (mj p c 2)
 (x,iq p (aR p r (iq p c x)) (aR p s hhh),aR p h (aR p Z1 Z2))
def aHS (p:Nat) (w:Hb) (u s h r Z2:ab):Hb:=cond (bB h) (cond (bB r) (adp p w) (⟨0,0,0,0⟩,⟨0,0,0,0⟩,⟨0,0,0,0⟩)) (aH8 p u s h r w.2.2 Z2)
def aG1 (p:Nat) (w v:Hb):Hb:=
 let pz:=aR p w.2.2 w.2.2
 let qz:=aR p v.2.2 v.2.2
 let u:=aR p w.1 qz
 let s:=aR p w.2.1 (aR p qz v.2.2)
 aHS p w u s (iq p (aR p v.1 pz) u) (iq p (aR p v.2.1 (aR p pz w.2.2)) s) v.2.2
def Yy (p:Nat) (w v:Hb):Hb:=cond (bB w.2.2) v (cond (bB v.2.2) w (aG1 p w v))
def B4 (x:XS):Bool:=ac x.1.1
def atk (x:XS):OT ub.Y:=.ok ⟨nL,((Yy (pS x.1.1) x.1.2.1 x.1.2.2.1,()),())⟩
theorem ay0:aa aj 166 (ub.az B4 atk):=am8 _ _ λx oy hp ho=>by
 rw [<-ho]
 clear ho
 obtain ⟨⟨c,⟨X,Y,Z⟩,⟨X2,Y2,Z2⟩,⟨⟩⟩,⟨⟩⟩:=x
 have hs:ac c=true:=hp
 show _=(OT.ok ⟨nL,((Yy (pS c) (X,Y,Z) (X2,Y2,Z2),()),())⟩:OT ub.Y).run
 unfold Yy
 dsimp only
 cases hz:bB Z
 ·refine (OT.au hz).trans ?_
  cases hz2:bB Z2
  ·refine (OT.au rfl).trans ((ae ?_).trans ?_)
   ·simp only [aA,aI,aJ,aw]
    exact ⟨hs,hs,hs,hs,hs,hs,hs,hs,hs,hs⟩
   ·unfold aG1 aHS
    dsimp only [cond_false]
    cases hh:bB (iq (pS c) (aR (pS c) X2 (aR (pS c) Z Z)) (aR (pS c) X (aR (pS c) Z2 Z2)))
    ·refine (OT.au hh).trans ((ae ?_).trans rfl)
     simp only [aA,aI,aJ,aw]
     exact ⟨hs,hs,hs,hs,hs,hs,hs,hs,hs,hs,hs,hs,hs⟩
    ·refine (OT.ak hh).trans ?_
     dsimp only [cond_true]
     cases hr:bB (iq (pS c) (aR (pS c) Y2 (aR (pS c) (aR (pS c) Z Z) Z)) (aR (pS c) Y (aR (pS c) (aR (pS c) Z2 Z2) Z2)))
     ·exact OT.au hr
     ·refine (OT.ak hr).trans ((ae ?_).trans rfl)
      simp only [aA,aI,aJ]
      exact hs
  ·exact OT.ak rfl
 ·exact OT.ak hz
def Ep:bx:=(ub.az B4 atk)
theorem adF:aa aj 166 Ep:=ay0
theorem adE:ax Ep:=av
def avg:Env:=aq 166 Ep Zk
theorem Zn:bU aj te avg:=aU follows L6 adF adE
def FD:af:=⟨[aD,xj,xj],[],true,0,false⟩
abbrev ati:Type:=(Int×cI×rp)×Unit
def Eo:aL:=⟨oZ,[],false⟩
def aAY (a0:Int) (a1:cI) (a2:cI):OT FD.Y:=
 let z0:ab:= {w0:=0,w1:=0,w2:=0,w3:=0}
 let z1:cI:=(z0,z0,true)
 let z2:iD:=gv a1
 let z3:iD:=gv a2
 let z4:Nat:=pS a0
 let z5:iD:=Yy z4 z2 z3
 (.br (!onB a0 a1)
 (.ok ⟨Eo,((z1,()),())⟩)
 (.br (!onB a0 a2)
  (.ok ⟨Eo,((z1,()),())⟩)
  (gd [B4 ((a0,z2,z3,()),()),mL ((a0,z5,()),())] (.ok ⟨Eo,((gG z4 z5,()),())⟩))))
theorem ath (pre:ati->Bool) (F:ati->OT FD.Y) (hF:∀ (x:ati) oy,pre x=true->(F x).run=some oy->(aAY x.1.1 x.1.2.1 x.1.2.2.1).run=some oy):aa aj 140 (FD.az pre F):=
 dh Zn 140 Tryz.f140 FD [Eo] bE (λx=>aAY x.1.1 x.1.2.1 x.1.2.2.1) hF
def fO (c:Int) (P Q:Pt):Pt:=cond (onB c P) (cond (onB c Q) (gG (pS c) (Yy (pS c) (gv P) (gv Q))) aM) aM
def ahO (_:ati):Bool:=true
def aAZ (x:ati):OT FD.Y:=.ok ⟨Eo,((fO x.1.1 x.1.2.1 x.1.2.2.1,()),())⟩
theorem aEB:aa aj 140 (FD.az ahO aAZ):=ath _ _ λx oy _ ho=>by
 rw [<-ho]
 clear ho
 obtain ⟨⟨c,P,Q,⟨⟩⟩,⟨⟩⟩:=x
 show _=(OT.ok ⟨Eo,((fO c P Q,()),())⟩:OT FD.Y).run
 rcases (b9 (onB c P)).symm with h1|h1
 ·have e:fO c P Q=aM:=by unfold fO;rw [h1];rfl
  rw [e]
  exact OT.ak (b:= !onB c P) (by rw [h1];rfl)
 ·have hs:=vg h1
  refine (OT.au (b:= !onB c P) (by rw [h1];rfl)).trans ?_
  rcases (b9 (onB c Q)).symm with h2|h2
  ·have e:fO c P Q=aM:=by unfold fO;rw [h1,h2];rfl
   rw [e]
   exact OT.ak (b:= !onB c Q) (by rw [h2];rfl)
  ·have e:fO c P Q=gG (pS c) (Yy (pS c) (gv P) (gv Q)):=by unfold fO;rw [h1,h2];rfl
   rw [e]
   refine (OT.au (b:= !onB c Q) (by rw [h2];rfl)).trans ((ae ?_).trans rfl)
   simp only [aA,aI,aJ,aw]
   exact ⟨hs,hs⟩
def KY:bx:=(FD.az ahO aAZ)
theorem am7:aa aj 140 KY:=aEB
theorem am6:ax KY:=av
def aBW:Env:=aq 140 KY avg
theorem S9:bU aj te aBW:=aU follows Zn am7 am6
def tY:af:=⟨[aD,du,xj],[],true,0,false⟩
abbrev XD:Type:=(Int×ab×rp)×Unit
def ayU:Shape:=⟨39,[ej,uo,(6,fV),xf,(8,gn),(9,aD)],[iE,(1,YJ),(2,YJ),(3,aBl)],0,true⟩
abbrev fS:Type:=(Unit×Unit×Unit×Int×ru)×ap×kf×kf×auk×Unit
def vU:Shape:=⟨39,[jO,xf,Cn],[lv,(1,aBl)],0,true⟩
abbrev mM:Type:=(Unit×Int×b8)×kf×auk×Unit
def ayX (a7:Int) (a9:Int) (c0:ap) (c1_0:UInt64) (c1_1:UInt64) (c1_2:UInt64) (c1_3:UInt64) (c1_4:UInt64) (c1_5:UInt64) (c1_6:UInt64) (c1_7:UInt64) (c1_8:Bool) (c2_0:UInt64) (c2_1:UInt64) (c2_2:UInt64) (c2_3:UInt64) (c2_4:UInt64) (c2_5:UInt64) (c2_6:UInt64) (c2_7:UInt64) (c2_8:Bool) (c3_0:UInt64) (c3_1:UInt64) (c3_2:UInt64) (c3_3:UInt64) (c3_4:UInt64) (c3_5:UInt64) (c3_6:UInt64) (c3_7:UInt64) (c3_8:UInt64) (c3_9:UInt64) (c3_10:UInt64) (c3_11:UInt64):OT (Sum fS aZ):=
 let z0:iD:=({w0:=c3_0,w1:=c3_1,w2:=c3_2,w3:=c3_3},{w0:=c3_4,w1:=c3_5,w2:=c3_6,w3:=c3_7},{w0:=c3_8,w1:=c3_9,w2:=c3_10,w3:=c3_11})
 let z1:Nat:=pS a7
 let z2:iD:=adp z1 z0
 let z3:iD:=gv ({w0:=c1_0,w1:=c1_1,w2:=c1_2,w3:=c1_3},{w0:=c1_4,w1:=c1_5,w2:=c1_6,w3:=c1_7},c1_8)
 let z4:Bool:=inR (a9-(1:Int))
 let z5:iD:=Yy z1 z2 z3
 let z6:=z5.fst
 let z7:=z5.snd
 let z8:=z7.fst
 let z9:=z7.snd
 let z10:=z2.fst
 let z11:=z2.snd
 let z12:=z11.fst
 let z13:=z11.snd
 (.br (decide ((0:Int)<=a9))
 (gd [qJ ((a7,z0,()),()),decide (4<=List.length c0)] (.br (rl {w0:=List.getD c0 0 0,w1:=List.getD c0 1 0,w2:=List.getD c0 2 0,w3:=List.getD c0 3 0} a9)
  (gd [B4 ((a7,z2,z3,()),()),z4] (.ok (.inl (((),(),(),a7,(),a9-(1:Int),()),c0,(c1_0,c1_1,c1_2,c1_3,c1_4,c1_5,c1_6,c1_7,c1_8,()),(c2_0,c2_1,c2_2,c2_3,c2_4,c2_5,c2_6,c2_7,c2_8,()),(z6.w0,z6.w1,z6.w2,z6.w3,z8.w0,z8.w1,z8.w2,z8.w3,z9.w0,z9.w1,z9.w2,z9.w3,()),()))))
  (gd [z4] (.ok (.inl (((),(),(),a7,(),a9-(1:Int),()),c0,(c1_0,c1_1,c1_2,c1_3,c1_4,c1_5,c1_6,c1_7,c1_8,()),(c2_0,c2_1,c2_2,c2_3,c2_4,c2_5,c2_6,c2_7,c2_8,()),(z10.w0,z10.w1,z10.w2,z10.w3,z12.w0,z12.w1,z12.w2,z12.w3,z13.w0,z13.w1,z13.w2,z13.w3,()),()))))))
 (.ok (.inr ⟨(.exit 0,vU),(((),a7,(),()),(c2_0,c2_1,c2_2,c2_3,c2_4,c2_5,c2_6,c2_7,c2_8,()),(c3_0,c3_1,c3_2,c3_3,c3_4,c3_5,c3_6,c3_7,c3_8,c3_9,c3_10,c3_11,()),())⟩)))
def GZ (s:fS):OT (Sum fS aZ):=ayX s.1.2.2.2.1 s.1.2.2.2.2.2.1 s.2.1 s.2.2.1.1 s.2.2.1.2.1 s.2.2.1.2.2.1 s.2.2.1.2.2.2.1 s.2.2.1.2.2.2.2.1 s.2.2.1.2.2.2.2.2.1 s.2.2.1.2.2.2.2.2.2.1 s.2.2.1.2.2.2.2.2.2.2.1 s.2.2.1.2.2.2.2.2.2.2.2.1 s.2.2.2.1.1 s.2.2.2.1.2.1 s.2.2.2.1.2.2.1 s.2.2.2.1.2.2.2.1 s.2.2.2.1.2.2.2.2.1 s.2.2.2.1.2.2.2.2.2.1 s.2.2.2.1.2.2.2.2.2.2.1 s.2.2.2.1.2.2.2.2.2.2.2.1 s.2.2.2.1.2.2.2.2.2.2.2.2.1 s.2.2.2.2.1.1 s.2.2.2.2.1.2.1 s.2.2.2.2.1.2.2.1 s.2.2.2.2.1.2.2.2.1 s.2.2.2.2.1.2.2.2.2.1 s.2.2.2.2.1.2.2.2.2.2.1 s.2.2.2.2.1.2.2.2.2.2.2.1 s.2.2.2.2.1.2.2.2.2.2.2.2.1 s.2.2.2.2.1.2.2.2.2.2.2.2.2.1 s.2.2.2.2.1.2.2.2.2.2.2.2.2.2.1 s.2.2.2.2.1.2.2.2.2.2.2.2.2.2.2.1 s.2.2.2.2.1.2.2.2.2.2.2.2.2.2.2.2.1
def ahD (g0_0:fS->mM) (s:fS):OT aZ:=(.ok ⟨(.exit 0,vU),g0_0 s⟩)
def vT:aL:=⟨oZ,[],false⟩
section
variable (ok0:fS->Bool) (g0_0:fS->mM)
def asV (a0:Int) (a1:ab) (a2:cI):OT tY.Y:=
 let z0:ab:= {w0:=0,w1:=0,w2:=0,w3:=0}
 let z1:Int:=ay a0 (1:Int)
 let z2:PUnit×PUnit×PUnit×Int×PUnit×Int×PUnit:=((),(),(),a0,(),(255:Int),())
 let z3:ab:=dr (pS z1) a1 z0
 let z4:aiv×aiv×(UInt64×UInt64×UInt64×UInt64×UInt64×UInt64×aBa)×PUnit:=((a2.fst.w0,a2.fst.w1,a2.fst.w2,a2.fst.w3,a2.snd.fst.w0,a2.snd.fst.w1,a2.snd.fst.w2,a2.snd.fst.w3,a2.snd.snd,()),((0:UInt64),(0:UInt64),(0:UInt64),(0:UInt64),(0:UInt64),(0:UInt64),(0:UInt64),(0:UInt64),false,()),((0:UInt64),(0:UInt64),(0:UInt64),(0:UInt64),(0:UInt64),(0:UInt64),(0:UInt64),(0:UInt64),(0:UInt64),(0:UInt64),(0:UInt64),(0:UInt64),()),())
 let z5:fS:=(z2,[z3.w0,z3.w1,z3.w2,z3.w3],z4)
 let z6:mM:=g0_0 z5
 let z7:=z6.fst.snd.fst
 let z8:=z6.snd.snd.fst
 let z9:=z8.snd
 let z10:=z9.snd
 let z11:=z10.snd
 let z12:=z11.snd
 let z13:=z12.snd
 let z14:=z13.snd
 let z15:=z14.snd
 let z16:=z15.snd
 let z17:=z16.snd
 let z18:=z17.snd
 let z19:iD:=({w0:=z8.fst,w1:=z9.fst,w2:=z10.fst,w3:=z11.fst},{w0:=z12.fst,w1:=z13.fst,w2:=z14.fst,w3:=z15.fst},{w0:=z16.fst,w1:=z17.fst,w2:=z18.fst,w3:=z18.snd.fst})
 let z20:fS:=(z2,[(0:UInt64),(0:UInt64),(0:UInt64),(0:UInt64)],z4)
 let z21:mM:=g0_0 z20
 let z22:=z21.fst.snd.fst
 let z23:=z21.snd.snd.fst
 let z24:=z23.snd
 let z25:=z24.snd
 let z26:=z25.snd
 let z27:=z26.snd
 let z28:=z27.snd
 let z29:=z28.snd
 let z30:=z29.snd
 let z31:=z30.snd
 let z32:=z31.snd
 let z33:=z32.snd
 let z34:iD:=({w0:=z23.fst,w1:=z24.fst,w2:=z25.fst,w3:=z26.fst},{w0:=z27.fst,w1:=z28.fst,w2:=z29.fst,w3:=z30.fst},{w0:=z31.fst,w1:=z32.fst,w2:=z33.fst,w3:=z33.snd.fst})
 (.br (!onB a0 a2)
 (.ok ⟨vT,(((z0,z0,true),()),())⟩)
 (.br (ac z1)
  (gd [ok0 z5,mL ((z7,z19,()),())] (.ok ⟨vT,((gG (pS z7) z19,()),())⟩))
  (gd [ok0 z20,mL ((z22,z34,()),())] (.ok ⟨vT,((gG (pS z22) z34,()),())⟩))))
theorem amT (h0:bh GZ ok0 (ahD g0_0)) (pre:XD->Bool) (F:XD->OT tY.Y) (hF:∀ (x:XD) oy,pre x=true->(F x).run=some oy->(asV ok0 g0_0 x.1.1 x.1.2.1 x.1.2.2.1).run=some oy):aa aj 141 (tY.az pre F):=
 dh S9 141 Tryz.f141 tY [vT] (kZ S9 0 ayU [(0,vU)] none none GZ bE h0 bE) (λx=>asV ok0 g0_0 x.1.1 x.1.2.1 x.1.2.2.1) hF
end
abbrev C9:Type:=kf
def bP (P:Pt):C9:=(P.1.w0,P.1.w1,P.1.w2,P.1.w3,P.2.1.w0,P.2.1.w1,P.2.1.w2,P.2.1.w3,P.2.2,())
abbrev C12:Type:=auk
def KW (t:C9):Pt:=(⟨t.1,t.2.1,t.2.2.1,t.2.2.2.1⟩,⟨t.2.2.2.2.1,t.2.2.2.2.2.1,t.2.2.2.2.2.2.1,t.2.2.2.2.2.2.2.1⟩,t.2.2.2.2.2.2.2.2.1)
def aGn (t:C12):Hb:=(⟨t.1,t.2.1,t.2.2.1,t.2.2.2.1⟩,⟨t.2.2.2.2.1,t.2.2.2.2.2.1,t.2.2.2.2.2.2.1,t.2.2.2.2.2.2.2.1⟩,⟨t.2.2.2.2.2.2.2.2.1,t.2.2.2.2.2.2.2.2.2.1,t.2.2.2.2.2.2.2.2.2.2.1,t.2.2.2.2.2.2.2.2.2.2.2.1⟩)
def aD2 (w:Hb):C12:=(w.1.w0,w.1.w1,w.1.w2,w.1.w3,w.2.1.w0,w.2.1.w1,w.2.1.w2,w.2.1.w3,w.2.2.w0,w.2.2.w1,w.2.2.w2,w.2.2.w3,())
def jX (p:Nat) (k:ab) (P:Hb) (n:Nat) (w:Hb):Hb:=cond (rl k (255-(n:Int))) (Yy p (adp p w) P) (adp p w)
def KO (s:fS):Bool:=ac s.1.2.2.2.1&&decide (s.1.2.2.2.2.2.1=255/\s.2.1.length=4)
def ahC (s:fS):mM:=(((),s.1.2.2.2.1,(),()),s.2.2.2.1,aD2 (upto (jX (pS s.1.2.2.2.1) (elemOf s.2.1) (gv (KW s.2.2.1))) (aGn s.2.2.2.2.1) 256),())
theorem ayW:bh GZ KO (ahD ahC):=by
 rintro ⟨⟨⟨⟩,⟨⟩,⟨⟩,c,⟨⟩,i,⟨⟩⟩,⟨l,⟨p0,p1,p2,p3,p4,p5,p6,p7,p8,⟨⟩⟩,⟨q0,q1,q2,q3,q4,q5,q6,q7,q8,⟨⟩⟩,⟨w0,w1,w2,w3,w4,w5,w6,w7,w8,w9,w10,w11,⟨⟩⟩,⟨⟩⟩⟩ h
 simp only [KO,aw,decide_eq_true_eq] at h
 obtain ⟨hs,rfl,hl⟩:=h
 obtain ⟨k,rfl⟩:∃ a,l=lst a:=⟨elemOf l,(cN hl).symm⟩
 have:=(bf (T:=GZ) (λn w=>((((),(),(),c,(),255-(n:Int),()),lst k,(p0,p1,p2,p3,p4,p5,p6,p7,p8,()),(q0,q1,q2,q3,q4,q5,q6,q7,q8,()),aD2 w,()):fS)) (jX (pS c) k (gv (KW (p0,p1,p2,p3,p4,p5,p6,p7,p8,()))))
  (λw=>(⟨(.exit 0,vU),(((),c,(),()),(q0,q1,q2,q3,q4,q5,q6,q7,q8,()),aD2 w,())⟩:aZ)) 256 (aGn (w0,w1,w2,w3,w4,w5,w6,w7,w8,w9,w10,w11,())) (λ_ _=>True) trivial (λn w hn _=>⟨?_,trivial⟩) (λw _=> ?_)).1
 ·obtain ⟨m,hm⟩:=this
  exact ⟨m,_,hm,rfl⟩
 ·have e2:(255:Int)-(n:Int)-1=255-((n+1:Nat):Int):=by omega
  refine (OT.ak (ag (by dsimp only;omega))).trans ((ae ?_).trans ?_)
  ·simp only [aA,aI,aJ,aw]
   exact ⟨hs,rfl⟩
  ·rcases (b9 (rl k (255-(n:Int)))).symm with hb|hb
   ·have e:jX (pS c) k (gv (KW (p0,p1,p2,p3,p4,p5,p6,p7,p8,()))) n w=adp (pS c) w:=by unfold jX;rw [hb];rfl
    rw [e,<-e2]
    refine (OT.au hb).trans ((ae ?_).trans rfl)
    simp only [aA,aI,aJ]
    exact aS (by omega)
   ·have e:jX (pS c) k (gv (KW (p0,p1,p2,p3,p4,p5,p6,p7,p8,()))) n w=Yy (pS c) (adp (pS c) w) (gv (KW (p0,p1,p2,p3,p4,p5,p6,p7,p8,()))):=by unfold jX;rw [hb];rfl
    rw [e,<-e2]
    refine (OT.ak hb).trans ((ae ?_).trans rfl)
    simp only [aA,aI,aJ,aw]
    exact ⟨hs,aS (by omega)⟩
 ·exact OT.au (bq (by dsimp only;omega))
def anT:Hb:=(⟨0,0,0,0⟩,⟨0,0,0,0⟩,⟨0,0,0,0⟩)
def aH3 (p:Nat) (k:ab) (P:Hb):Hb:=upto (jX p k P) anT 256
def F2 (c:Int) (k:ab):ab:=dr (pS (ay c 1)) k ⟨0,0,0,0⟩
def pN (c:Int) (k:ab) (P:Pt):Pt:=cond (onB c P) (gG (pS c) (aH3 (pS c) (F2 c k) (gv P))) aM
theorem bF {c:Int} (h:ac c=true):ac (ay c 1)=true:=by
 rcases cb h with rfl|rfl|rfl|rfl<;>decide+kernel
def XC (_:XD):Bool:=true
def asW (x:XD):OT tY.Y:=.ok ⟨vT,((pN x.1.1 x.1.2.1 x.1.2.2.1,()),())⟩
theorem ayV:aa aj 141 (tY.az XC asW):=amT KO ahC ayW _ _ λx oy _ ho=>by
 rw [<-ho]
 clear ho
 obtain ⟨⟨c,k,P,⟨⟩⟩,⟨⟩⟩:=x
 show _=(OT.ok ⟨vT,((pN c k P,()),())⟩:OT tY.Y).run
 rcases (b9 (onB c P)).symm with h1|h1
 ·have e:pN c k P=aM:=by unfold pN;rw [h1];rfl
  rw [e]
  exact OT.ak (b:= !onB c P) (by rw [h1];rfl)
 ·have hs:=vg h1
  have e:pN c k P=gG (pS c) (aH3 (pS c) (F2 c k) (gv P)):=by unfold pN;rw [h1];rfl
  rw [e]
  refine (OT.au (b:= !onB c P) (by rw [h1];rfl)).trans ((OT.ak (bF hs)).trans ((ae ?_).trans ?_))
  ·simp only [aA,aI,aJ,aw]
   refine ⟨?_,hs⟩
   refine (aw _ _).mpr ⟨hs,?_⟩
   exact ag (p:=(255:Int)=255/\(lst (F2 c k)).length=4) ⟨rfl,rfl⟩
  ·rfl
def Em:bx:=(tY.az XC asW)
theorem adt:aa aj 141 Em:=ayV
theorem ads:ax Em:=av
def ave:Env:=aq 141 Em aBW
theorem Zj:bU aj te ave:=aU follows S9 adt ads
abbrev Ii:Type:=YC
abbrev Qe:Type:=mT
section
variable (ok0:Ii->Bool) (g0_0:Ii->Qe)
end
abbrev M8:Type:=YC
abbrev UD:Type:=mT
section
variable (ok0:M8->Bool) (g0_0:M8->UD)
end
abbrev afT:Type:=(Unit×Unit×UInt64×UInt64×eS)×zV
abbrev akE:Type:=(Unit×mV)×ul
abbrev afS:Type:=nO×oX
abbrev akD:Type:=mT
section
variable (ok0:afT->Bool) (g0_0:afT->akE) (ok2:afS->Bool) (g2_2:afS->akD)
end
def ofP (p:Nat) (a:ab):ab:=ofN (a.nat%p)
abbrev UE:Type:=LD×ap×oY
abbrev aaI:Type:=mT
section
variable (ok0:UE->Bool) (g0_0:UE->aaI)
end
abbrev UH:Type:=(Int×Cg)×oY
abbrev aaK:Type:=(Int×Cg)×oY
abbrev UG:Type:=(Int×Cg)×oY
abbrev aaJ:Type:=mT
section
variable (ok0:UH->Bool) (g0_0:UH->aaK) (ok2:UG->Bool) (g2_2:UG->aaJ)
end
theorem Ir {p:Nat}:∀ (n o x k:Nat),k<2^n->o<p->aAe p n o x k=o*x^k%p
 |0,o,x,k,hk,ho=>by
  have:k=0:=by omega
  subst this
  show o=_
  rw [Nat.pow_zero,Nat.mul_one,bm ho]
 |n+1,o,x,k,hk,ho=>by
  unfold aAe
  rw [Nat.pow_succ] at hk
  cases h0:Nat.beq k 0
  ·simp only [aT]
   have hsq:(x*x%p)^(k/2)%p=x^(2*(k/2))%p:=by
    rw [<-Nat.pow_mod,Nat.pow_mul,Nat.pow_two]
   cases h1:Nat.beq (k%2) 1
   ·have h1':¬k%2=1:=λe=>by rw [e] at h1;cases h1
    simp only [aT]
    rw [Ir n _ _ _ (by omega) ho,Nat.mul_mod,hsq,<-Nat.mul_mod,show 2*(k/2)=k by omega]
   ·have h1:=aY h1
    simp only [aK]
    rw [Ir n _ _ _ (by omega) (Nat.mod_lt _ (by omega)),Nat.mul_mod,hsq,Nat.mod_mod,<-Nat.mul_mod,Nat.mul_assoc,<-Nat.pow_succ',show (2*(k/2)).succ=k by omega]
  ·have h0:=aY h0
   subst h0
   simp only [aK]
   rw [Nat.pow_zero,Nat.mul_one,bm ho]
theorem aEa {p:Nat} (hp:1<p) (a k:ab):ln p a k=ofN (a.nat^k.nat%p):=by
 rw [R5 (by omega),Ir 256 1 _ _ (jj k) hp,Nat.one_mul,<-Nat.pow_mod]
theorem azb {e n:Nat} (h:avt e n=false):e/2^n%2=0:=by
 unfold avt at h
 have:¬e/2^n%2=1:=λe=>by rw [e] at h;cases h
 omega
def byP (p:Nat) (a b:ab):ab:=aR p a (Ft p b)
abbrev M9:Type:=(Unit×mW)×oX
abbrev UF:Type:=mT
section
variable (ok0:M9->Bool) (g0_0:M9->UF)
end
abbrev E6:Type:=(Int×mW)×zV
abbrev Mf:Type:=mT
section
variable (ok0:E6->Bool) (g0_0:E6->Mf)
end
def Jp (p:Nat) (X Y X2 s:ab):Pt:=(iq p (iq p (aR p s s) X) X2,iq p (aR p s (iq p X (iq p (iq p (aR p s s) X) X2))) Y,false)
def po (p:Nat) (P Q:Pt):Pt:=cond P.2.2 Q (cond Q.2.2 P (cond (eqE P.1 Q.1)
 (cond (eqE P.2.1 Q.2.1) (Jp p P.1 P.2.1 Q.1 (byP p (aR p ⟨3,0,0,0⟩ (aR p P.1 P.1)) (dr p P.2.1 P.2.1))) aM)
 (Jp p P.1 P.2.1 Q.1 (byP p (iq p Q.2.1 P.2.1) (iq p Q.1 P.1)))))
abbrev UC:Type:=aum
abbrev aaH:Type:=aum
abbrev UB:Type:=aum
abbrev aaG:Type:=mX×um
section
variable (ok0:UC->Bool) (g0_0:UC->aaH) (ok2:UB->Bool) (g2_2:UB->aaG)
end
def gj (p k:Nat) (P:Pt) (n:Nat) (O:Pt):Pt:=cond (avt k (255-n)) (po p (po p O O) P) (po p O O)
def apm (p k:Nat) (P:Pt):Pt:=upto (gj p k P) aM 256
def ap8 (c:Int) (k:ab) (P:Pt):Pt:=cond (onB c P) (apm (pS c) (ofP (pS (ay c 1)) k).nat P) aM
def kk:ab:=⟨1,0,0,0⟩
def sqN (p:Nat) (b:ab) (n:Nat):ab:=upto (λ_ e=>aR p e e) b n
abbrev Ton:Type:=iD
def PP (p m:Nat) (k:Nat) (w:Ton):Ton:=cond (eqE (sqN p w.2.1 (m-k-1)) kk) (w.1,w.2.1,aR p w.2.2 w.2.2) (aR p w.1 w.2.2,aR p w.2.1 (aR p w.2.2 w.2.2),aR p w.2.2 w.2.2)
def aEX (p m:Nat) (w:Ton):Ton:=upto (PP p m) w m
def Md (s:Int) (a:ab):ab:=(aEX (pS s) ((numOf s.toNat).2.1-1).toNat
 (ln (pS s) a (iB (Tb (jp (m5 (numOf s.toNat).1 kk).1 (numOf s.toNat).2.1.toNat) kk).1),ln (pS s) a (jp (m5 (numOf s.toNat).1 kk).1 (numOf s.toNat).2.1.toNat),ln (pS s) ⟨5,0,0,0⟩ (jp (m5 (numOf s.toNat).1 kk).1 (numOf s.toNat).2.1.toNat))).1
def zt (p:Nat) (x:ab):ab:=cond (x.w0%2==1) (kW p x) x
theorem aA8 {s:Int} (hs:ac s=true):1<=(numOf s.toNat).2.1/\(numOf s.toNat).2.1<=32:=by
 rcases cb hs with rfl|rfl|rfl|rfl<;>decide
def xw:af:=⟨[iS],[],true,0,false⟩
abbrev TA:Type:=dp×Unit
def PC:aL:=⟨[.own 0],Ad,false⟩
def aog (a0:aH):OT xw.Y:=
 (gd [decide ((0+List.length a0)*1<=140737488355328)] (.ok ⟨PC,(((),()),[]++a0,())⟩))
theorem akc (pre:TA->Bool) (F:TA->OT xw.Y) (hF:∀ (x:TA) oy,pre x=true->(F x).run=some oy->(aog x.1.1).run=some oy):aa aj 17 (xw.az pre F):=
 dh Zj 17 Tryz.f17 xw [PC] bE (λx=>aog x.1.1) hF
def rO (x:TA):Bool:=decide (x.1.1.length<=140737488355328)
def aoh (x:TA):OT xw.Y:=.ok ⟨PC,(((),()),x.1.1,())⟩
theorem avG:aa aj 17 (xw.az rO aoh):=akc _ _ λx oy hp ho=>by
 rw [<-ho]
 have hp':x.1.1.length<=140737488355328:=bn hp
 refine (ae ?_).trans rfl
 simp only [aA,aI,aJ]
 exact ag (by omega)
def CS:bx:=(xw.az rO aoh)
theorem ZN:aa aj 17 CS:=avG
theorem ZM:ax CS:=av
def auE:Env:=aq 17 CS ave
theorem LQ:bU aj te auE:=aU follows Zj ZN ZM
def mH:af:=⟨[iS],[],true,0,false⟩
abbrev BL:Type:=dp×Unit
def amb:Shape:=⟨27,[Cj,(3,im),(6,iS),xf,(8,aD)],uq,0,true⟩
abbrev cM:Type:=(Unit×Unit×aH×jM)×zV
def nI:Shape:=⟨27,[Cj,(3,im)],uq,0,true⟩
abbrev lW:Type:=mT
def ame (a6:aH) (a7:Int) (a8:Int) (c0:ap) (c1:ap):OT (Sum cM aZ):=
 let z0:Int:=Int.tdiv a8 (8:Int)
 let z1:Bool:=inB z0 4
 let z2:Bool:=decide (Int.toNat z0+0<List.length c1)
 let z3:Int:=(8:Int)*Int.tmod a8 (8:Int)
 (.br (decide (a8<a7))
 (gd [inB a8 (List.length a6),true&&inR z0,z1,z2,inR z3,decide ((0:Int)<=z3),z1,z2,inR (a8+(1:Int))] (.ok (.inl (((),(),a6,a7,a8+(1:Int),()),c0,List.set c1 (Int.toNat z0+0) (List.getD c1 (Int.toNat z0+0) (0:UInt64)|||cC (UInt8.toUInt64 (List.getD a6 (Int.toNat a8) (0:UInt8))) z3),()))))
 (.ok (.inr ⟨(.exit 0,nI),(((),(),()),c0,c1,())⟩)))
def vL (s:cM):OT (Sum cM aZ):=ame s.1.2.2.1 s.1.2.2.2.1 s.1.2.2.2.2.1 s.2.1 s.2.2.1
def N9 (g0_0:cM->lW) (s:cM):OT aZ:=(.ok ⟨(.exit 0,nI),g0_0 s⟩)
def vK:aL:=⟨il,[],false⟩
section
variable (ok0:cM->Bool) (g0_0:cM->lW)
def BK (a0:aH):OT mH.Y:=
 let z0:cM:=(((),(),a0,(↑(List.length a0):Int),(0:Int),()),[(0:UInt64),(0:UInt64),(0:UInt64),(0:UInt64)],[(0:UInt64),(0:UInt64),(0:UInt64),(0:UInt64)],())
 let z1:=(g0_0 z0).snd
 let z2:=z1.snd.fst
 let z3:=z1.fst
 let z4:ap:=lay z3 z2 4 (0:UInt64)
 (gd [ok0 z0,decide (4<=List.length z2),decide ((4/1:Nat)+0<=List.length z3),decide (4<=List.length z4)] (.ok ⟨vK,(({w0:=List.getD z4 0 0,w1:=List.getD z4 1 0,w2:=List.getD z4 2 0,w3:=List.getD z4 3 0},()),())⟩))
theorem WT (h0:bh vL ok0 (N9 g0_0)) (pre:BL->Bool) (F:BL->OT mH.Y) (hF:∀ (x:BL) oy,pre x=true->(F x).run=some oy->(BK ok0 g0_0 x.1.1).run=some oy):aa aj 155 (mH.az pre F):=
 dh LQ 155 Tryz.f155 mH [vK] (kZ LQ 0 amb [(0,nI)] none none vL bE h0 bE) (λx=>BK ok0 g0_0 x.1.1) hF
end
def ap2 (b:aH) (k:Nat) (l:ap):ap:=l.set (k/8) (l.getD (k/8) 0|||cC (UInt8.toUInt64 (b.getD k 0)) (8*((k%8:Nat):Int)))
def aGT (b:aH) (n:Nat):ap:=upto (ap2 b) [0,0,0,0] n
def Nw (b:aH):ab:=elemOf (aGT b 32)
theorem IK (b:aH):∀ n,(aGT b n).length=4
 |0=>rfl
 |n+1=>(cy ..).trans (IK b n)
def Kj (s:cM):Bool:=decide (s.1.2.2.1.length=32/\s.1.2.2.2.1=32/\s.1.2.2.2.2.1=0/\s.2.2.1= [0,0,0,0])
def N8 (s:cM):lW:=(((),(),()),s.2.1,aGT s.1.2.2.1 32,())
theorem aHr (i:Nat):Int.tdiv (i:Int) 8=((i/8:Nat):Int):=by rw [Int.tdiv_eq_ediv_of_nonneg (by omega)];omega
theorem aHs (i:Nat):Int.tmod (i:Int) 8=((i%8:Nat):Int):=by rw [Int.tmod_eq_emod_of_nonneg (by omega)];omega
theorem amd:bh vL Kj (N9 N8):=by
 rintro ⟨⟨⟨⟩,⟨⟩,b,n,i,⟨⟩⟩,⟨c0,c1,⟨⟩⟩⟩ h
 have h':=bn h
 dsimp only at h'
 obtain ⟨hb,rfl,rfl,rfl⟩:=h'
 have:=(bf (T:=vL) (λi o=>((((),(),b,(32:Int),(i:Int),()),c0,o,()):cM)) (ap2 b)
  (λo=>(⟨(.exit 0,nI),(((),(),()),c0,o,())⟩:aZ)) 32 [0,0,0,0] (λ_ o=>o.length=4) rfl (λi o hi ho=>⟨?_,(cy ..).trans ho⟩) (λo ho=> ?_)).1
 ·obtain ⟨m,hm⟩:=this
  exact ⟨m,_,hm,rfl⟩
 ·have t1:=aHr i
  have t2:=aHs i
  refine (OT.ak (ag (by dsimp only;omega))).trans ((ae ?_).trans ?_)
  ·simp only [t1,t2,ho,hb,cB,aA,aI,aJ,Bool.true_and,aw]
   exact ⟨ba (by omega),aS (by omega),ba (by omega),ag (by omega),aS (by omega),ag (by omega),ba (by omega),ag (by omega),aS (by omega)⟩
  ·simp only [OT.jb,t1,t2,cB,Nat.add_zero]
   rfl
 ·exact OT.au (bq (by dsimp only;omega))
def j6 (x:BL):Bool:=decide (x.1.1.length=32)
def WV (x:BL):OT mH.Y:=.ok ⟨vK,((Nw x.1.1,()),())⟩
abbrev WS (b:aH):cM:=(((),(),b,(b.length:Int),0,()),[0,0,0,0],[0,0,0,0],())
theorem WU {ok0:cM->Bool} {g0:cM->lW} {b:List UInt8} {L:List UInt64} (hok:ok0 (WS b)=true)
 (hg:g0 (WS b)=(((),(),()),[0,0,0,0],L,())) (hL:L.length=4):(BK ok0 g0 b).run=some ⟨vK,((elemOf L,()),())⟩:=by
 have e:lay [0,0,0,0] L 4 0=L:=VD rfl hL
 unfold BK
 simp only [hg]
 refine (ae ?_).trans ?_
 ·simp only [e,hL,aA,aI,aJ,aw]
  exact ⟨hok,rfl,rfl,rfl⟩
 ·rw [e]
  rfl
theorem amc:aa aj 155 (mH.az j6 WV):=WT Kj N8 amd _ _ λx oy hp ho=>by
 rw [<-ho]
 clear ho
 obtain ⟨⟨b,⟨⟩⟩,⟨⟩⟩:=x
 have hb:b.length=32:=bn hp
 exact WU (b:=b) (L:=aGT b 32) (ag ⟨hb,by show ((b.length:Nat):Int)=32;omega,rfl,rfl⟩) rfl (IK b 32)
def tE:bx:=(mH.az j6 WV)
theorem RO:aa aj 155 tE:=amc
theorem RN:ax tE:=av
def Zb:Env:=aq 155 tE auE
theorem LZ:bU aj te Zb:=aU follows LQ RO RN
def tn:af:=⟨[aD,iS],[],true,0,false⟩
abbrev WC:Type:=(Int×dp)×Unit
def jr:aL:=⟨kT,[],false⟩
def RC (a0:Int) (a1:aH):OT tn.Y:=
 let z0:Nat:=List.length a1
 let z1:Int:=(↑z0:Int)
 let z2:ab:= {w0:=0,w1:=0,w2:=0,w3:=0}
 let z3:aH:=List.drop 0 (List.take 32 a1)
 let z4:aH:=List.drop 32 a1
 let z5:ab:=(numOf (Int.toNat a0)).fst
 (.br (ac a0)
 (.br (!z1==(64:Int))
  (.ok ⟨jr,((z2,(21:Int),()),())⟩)
  (gd [cm (0:Int) (32:Int) z0,j6 ((z3,()),()),cm (32:Int) z1 z0,j6 ((z4,()),())] (.br (Fg z5)
   (.ok ⟨jr,((z2,(10:Int),()),())⟩)
   (.ok ⟨jr,((aEY (Nw z3) (Nw z4) z5,(0:Int),()),())⟩))))
 (.ok ⟨jr,((z2,(20:Int),()),())⟩))
theorem alZ (pre:WC->Bool) (F:WC->OT tn.Y) (hF:∀ (x:WC) oy,pre x=true->(F x).run=some oy->(RC x.1.1 x.1.2.1).run=some oy):aa aj 134 (tn.az pre F):=
 dh LZ 134 Tryz.f134 tn [jr] bE (λx=>RC x.1.1 x.1.2.1) hF
def QZ (b:aH):Bool:=(b.length:Int)==64
def aCa (s:Int) (b:aH):ab:=aEY (Nw (b.take 32)) (Nw (b.drop 32)) (numOf s.toNat).1
def WB (_:WC):Bool:=true
def arB (x:WC):OT tn.Y:=.br (ac x.1.1) (.br (QZ x.1.2.1) (.ok ⟨jr,((aCa x.1.1 x.1.2.1,(0:Int),()),())⟩) (.ok ⟨jr,((⟨0,0,0,0⟩,(21:Int),()),())⟩)) (.ok ⟨jr,((⟨0,0,0,0⟩,(20:Int),()),())⟩)
theorem aqD {b:List UInt8}:QZ b=true ↔ b.length=64:=by
 unfold QZ
 rw [beq_iff_eq]
 omega
theorem axd {s:Int} (h:ac s=true):Fg (numOf s.toNat).1=false:=by
 rcases cb h with rfl|rfl|rfl|rfl<;>rfl
theorem al0 {s:Int} {b:List UInt8} {W:ab} (hW:aEY (Nw (List.drop 0 (b.take 32))) (Nw (b.drop 32)) (numOf s.toNat).1=W):(RC s b).run=(OT.br (ac s) (.br (QZ b) (.ok ⟨jr,((W,(0:Int),()),())⟩) (.ok ⟨jr,((⟨0,0,0,0⟩,(21:Int),()),())⟩)) (.ok ⟨jr,((⟨0,0,0,0⟩,(20:Int),()),())⟩):OT tn.Y).run:=by
 unfold RC
 simp only [hW]
 rcases (b9 (ac s)).symm with hs|hs
 ·exact (OT.au hs).trans (OT.au (b:=ac s) hs).symm
 ·refine (OT.ak hs).trans (Eq.trans ?_ (OT.ak (b:=ac s) hs).symm)
  rcases (b9 (QZ b)).symm with hl|hl
  ·exact (OT.ak (b:= !QZ b) (by rw [hl];rfl)).trans (OT.au (b:=QZ b) hl).symm
  ·have hb:b.length=64:=aqD.1 hl
   refine (OT.au (b:= !QZ b) (by rw [hl];rfl)).trans (Eq.trans ?_ (OT.ak (b:=QZ b) hl).symm)
   refine (ae ?_).trans (OT.au (axd hs))
   simp only [aA,aI,aJ,aw]
   exact ⟨cF (by omega),ag (by show (List.drop 0 (b.take 32)).length=32;rw [List.drop_zero,bQ];omega),cF (by omega),ag (by show (List.drop 32 b).length=32;rw [cq];omega)⟩
theorem ax4:aa aj 134 (tn.az WB arB):=alZ _ _ λx oy hp ho=>by
 rw [<-ho]
 clear ho
 obtain ⟨⟨s,b,⟨⟩⟩,⟨⟩⟩:=x
 exact al0 rfl
def DW:bx:=(tn.az WB arB)
theorem acv:aa aj 134 DW:=ax4
theorem acu:ax DW:=av
def auU:Env:=aq 134 DW Zb
theorem Y9:bU aj te auU:=aU follows LZ acv acu
def gP:af:=⟨[aD,iS],[],true,0,false⟩
abbrev qB:Type:=(Int×dp)×Unit
def dA:aL:=⟨kT,[],false⟩
def BR (a0:Int) (a1:aH):OT gP.Y:=
 let z0:ab:= {w0:=0,w1:=0,w2:=0,w3:=0}
 let z1:Bool:=j6 ((a1,()),())
 let z2:ab:=Nw a1
 (.br (ac a0)
 (.br (!(↑(List.length a1):Int)==(32:Int))
  (.ok ⟨dA,((z0,(21:Int),()),())⟩)
  (gd [z1] (.br (!Nat.blt (ab.nat z2) (ab.nat (numOf (Int.toNat a0)).fst))
   (.ok ⟨dA,((z0,(21:Int),()),())⟩)
   (gd [z1] (.ok ⟨dA,((z2,(0:Int),()),())⟩)))))
 (.ok ⟨dA,((z0,(20:Int),()),())⟩))
theorem Xa (pre:qB->Bool) (F:qB->OT gP.Y) (hF:∀ (x:qB) oy,pre x=true->(F x).run=some oy->(BR x.1.1 x.1.2.1).run=some oy):aa aj 122 (gP.az pre F):=
 dh Y9 122 Tryz.f122 gP [dA] bE (λx=>BR x.1.1 x.1.2.1) hF
def m6 (b:aH):Bool:=(b.length:Int)==32
theorem sQ {b:List UInt8}:m6 b=true ↔ b.length=32:=by
 unfold m6
 rw [beq_iff_eq]
 omega
def Kx (_:qB):Bool:=true
def Ky (x:qB):OT gP.Y:=.br (ac x.1.1) (.br (m6 x.1.2.1) (.br (Nat.blt (Nw x.1.2.1).nat (pS x.1.1)) (.ok ⟨dA,((Nw x.1.2.1,(0:Int),()),())⟩) (.ok ⟨dA,((⟨0,0,0,0⟩,(21:Int),()),())⟩))
 (.ok ⟨dA,((⟨0,0,0,0⟩,(21:Int),()),())⟩)) (.ok ⟨dA,((⟨0,0,0,0⟩,(20:Int),()),())⟩)
theorem Xb {s:Int} {b:List UInt8} {N:ab} (hN:Nw b=N):(BR s b).run=(OT.br (ac s) (.br (m6 b) (.br (Nat.blt N.nat (pS s)) (.ok ⟨dA,((N,(0:Int),()),())⟩) (.ok ⟨dA,((⟨0,0,0,0⟩,(21:Int),()),())⟩))
 (.ok ⟨dA,((⟨0,0,0,0⟩,(21:Int),()),())⟩)) (.ok ⟨dA,((⟨0,0,0,0⟩,(20:Int),()),())⟩):OT gP.Y).run:=by
 unfold BR
 simp only [hN]
 rcases (b9 (ac s)).symm with hs|hs
 ·exact (OT.au hs).trans (OT.au (b:=ac s) hs).symm
 ·refine (OT.ak hs).trans (Eq.trans ?_ (OT.ak (b:=ac s) hs).symm)
  rcases (b9 (m6 b)).symm with hl|hl
  ·exact (OT.ak (b:= !m6 b) (by rw [hl];rfl)).trans (OT.au (b:=m6 b) hl).symm
  ·have hp:j6 ((b,()),())=true:=ag (sQ.1 hl)
   refine (OT.au (b:= !m6 b) (by rw [hl];rfl)).trans (Eq.trans ?_ (OT.ak (b:=m6 b) hl).symm)
   rw [hp]
   refine (ae rfl).trans ?_
   rcases (b9 (Nat.blt N.nat (pS s))).symm with h|h
   ·exact (OT.ak (b:= !Nat.blt N.nat (pS s)) (by rw [h];rfl)).trans (OT.au (b:=Nat.blt N.nat (pS s)) h).symm
   ·exact (OT.au (b:= !Nat.blt N.nat (pS s)) (by rw [h];rfl)).trans ((ae rfl).trans (OT.ak (b:=Nat.blt N.nat (pS s)) h).symm)
theorem Og:aa aj 122 (gP.az Kx Ky):=Xa _ _ λx oy hp ho=>by
 rw [<-ho]
 clear ho
 obtain ⟨⟨s,b,⟨⟩⟩,⟨⟩⟩:=x
 exact Xb rfl
def tN:bx:=(gP.az Kx Ky)
theorem RZ:aa aj 122 tN:=Og
theorem RY:ax tN:=av
def Zg:Env:=aq 122 tN auU
theorem aej:bU aj te Zg:=aU follows Y9 RZ RY
abbrev asb:af:=wX
def oJ (x:ac2):Bool:=ac x.1.1
def asc (x:ac2):OT wX.Y:=.ok ⟨Eb,((ln (pS x.1.1) x.1.2.1 x.1.2.2.1,()),())⟩
theorem ayy:aa aj 69 (asb.az oJ asc):=cJ (S:=wX) asd λx oy hp ho=>⟨rfl,(OT.ak (b:=ac x.1.1) hp).trans ho⟩
def Ea:bx:=(asb.az oJ asc)
theorem ac1:aa aj 69 Ea:=ayy
theorem ac0:ax Ea:=av
def au9:Env:=aq 69 Ea Zg
theorem uC:bU aj te au9:=aU follows aej ac1 ac0
end
section
theorem Iv {α:Type} [BEq α] [LawfulBEq α]:∀ {l1 l2:List α},l1.Nodup->(∀ x ∈ l1,x ∈ l2)->l2.length<=l1.length->l1.Perm l2
 | [],l2,_,_,h=>by
  have:l2= []:=List.length_eq_zero_iff.1 (Nat.le_zero.1 h)
  rw [this]
 |a::t,l2,hn,hs,hl=>by
  have ha:a ∈ l2:=hs a (List.mem_cons_self ..)
  have hp:l2.Perm (a::l2.erase a):=List.perm_cons_erase ha
  rw [List.nodup_cons] at hn
  have hl2:=List.length_erase_of_mem ha
  have hpos:0<l2.length:=List.length_pos_of_mem ha
  have ih:t.Perm (l2.erase a):=Iv hn.2 (λx hx=>by
   have hne:x≠a:=λe=>hn.1 (e▸hx)
   exact (List.mem_erase_of_ne hne).2 (hs x (List.mem_cons_of_mem _ hx))) (by rw [List.length_cons] at hl;omega)
  exact (ih.cons a).trans hp.symm
theorem Bk {α:Type} [BEq α] [LawfulBEq α]:∀ {l1 l2:List α},l1.Nodup->(∀ x ∈ l1,x ∈ l2)->l1.length<=l2.length
 | [],l2,_,_=>Nat.zero_le _
 |a::t,l2,hn,hs=>by
  have ha:a ∈ l2:=hs a (List.mem_cons_self ..)
  rw [List.nodup_cons] at hn
  have hl2:=List.length_erase_of_mem ha
  have hpos:0<l2.length:=List.length_pos_of_mem ha
  have ih:=Bk (l2:=l2.erase a) hn.2 (λx hx=>by
   have hne:x≠a:=λe=>hn.1 (e▸hx)
   exact (List.mem_erase_of_ne hne).2 (hs x (List.mem_cons_of_mem _ hx)))
  rw [List.length_cons]
  omega
def Pr (p:Nat):Prop:=2<=p/\∀ d,d∣p->d=1\/d=p
theorem Pr.pos {p:Nat} (h:Pr p):0<p:=by have:=h.1;omega
theorem Pr.cop {p a:Nat} (h:Pr p) (ha:¬p∣a):Nat.Coprime p a:=by
 rcases h.2 (Nat.gcd p a) (Nat.gcd_dvd_left ..) with e|e
 ·exact e
 ·exact absurd (e▸Nat.gcd_dvd_right p a) ha
theorem Pr.aho {p a b:Nat} (h:Pr p) (hd:p∣a*b):p∣a\/p∣b:=by
 by_cases ha:p∣a
 ·exact .inl ha
 ·exact .inr ((h.cop ha).dvd_of_dvd_mul_left hd)
def wD:List Nat->Nat
 | []=>1
 |a::l=>a*wD l
theorem akN {l1 l2:List Nat} (h:l1.Perm l2):wD l1=wD l2:=by
 induction h with
 |nil=>rfl
 |cons x _ ih=>simp only [wD,ih]
 |swap x y l=>simp only [wD];rw [<-Nat.mul_assoc,<-Nat.mul_assoc,Nat.mul_comm x y]
 |trans _ _ a b=>exact a.trans b
theorem US (p a:Nat):∀ l:List Nat,wD (l.map λx=>a*x%p)%p=a^l.length*wD l%p
 | []=>by simp [wD]
 |x::l=>by
  have ih:=US p a l
  simp only [List.map_cons,wD,List.length_cons]
  rw [Nat.mul_mod,Nat.mod_mod,ih,<-Nat.mul_mod,Nat.pow_succ]
  congr 1
  rw [Nat.mul_assoc,Nat.mul_assoc,Nat.mul_left_comm x]
  rw [Nat.mul_left_comm a]
theorem UR {p:Nat} (h:Pr p):∀ l:List Nat,(∀ x ∈ l,¬p∣x)->¬p∣wD l
 | [],_,hd=>by
  have:=Nat.le_of_dvd (by decide) hd
  have:=h.1
  simp only [wD] at*
  omega
 |x::l,hx,hd=>by
  rcases h.aho hd with h1|h1
  ·exact hx x (List.mem_cons_self ..) h1
  ·exact UR h l (λy hy=>hx y (List.mem_cons_of_mem _ hy)) h1
theorem alq {p a b:Nat} (hab:a<=b) (h:a%p=b%p):p∣b-a:=by
 have h1:=Nat.div_add_mod a p
 have h2:=Nat.div_add_mod b p
 refine ⟨b/p-a/p,?_⟩
 rw [Nat.mul_sub]
 omega
theorem lF {p x:Nat} (h0:0<x) (h1:x<p):¬p∣x:=λh=>by
 have:=Nat.le_of_dvd h0 h
 omega
theorem aq2 {p a:Nat} (h:Pr p) (ha:¬p∣a) {x y:Nat} (hx:x<p) (hy:y<p) (e:a*x%p=a*y%p):x=y:=by
 have aux:∀ {x y:Nat},x<p->y<p->x<=y->a*x%p=a*y%p->x=y:=λ{x y} hx hy hxy e=>by
  have hd:=alq (Nat.mul_le_mul_left a hxy) e
  rw [<-Nat.mul_sub] at hd
  rcases h.aho hd with h1|h1
  ·exact absurd h1 ha
  ·by_cases h0:y-x=0
   ·omega
   ·exact absurd h1 (lF (by omega) (by omega))
 rcases Nat.le_total x y with hxy|hxy
 ·exact aux hx hy hxy e
 ·exact (aux hy hx hxy e.symm).symm
theorem sH {α β:Type} {f:α->β}:∀ {l:List α},l.Nodup->(∀ x ∈ l,∀ y ∈ l,f x=f y->x=y)->(l.map f).Nodup
 | [],_,_=>List.nodup_nil
 |a::l,hn,hi=>by
  rw [List.nodup_cons] at hn
  rw [List.map_cons,List.nodup_cons]
  refine ⟨λhm=> ?_,sH hn.2 λx hx y hy=>hi x (List.mem_cons_of_mem _ hx) y (List.mem_cons_of_mem _ hy)⟩
  obtain ⟨b,hb,e⟩:=List.mem_map.1 hm
  have:=hi a (List.mem_cons_self ..) b (List.mem_cons_of_mem _ hb) e.symm
  exact hn.1 (this▸hb)
theorem Fy {p a:Nat} (h:Pr p) (ha:¬p∣a):a^(p-1)%p=1:=by
 have hp:=h.1
 have hn:(List.range' 1 (p-1)).Nodup:=List.nodup_range' ..
 have hm:((List.range' 1 (p-1)).map λx=>a*x%p).Nodup:=sH hn λx hx y hy e=>by
  rw [List.mem_range'_1] at hx hy
  exact aq2 h ha (by omega) (by omega) e
 have hperm:=Iv (l2:=List.range' 1 (p-1)) hm (λy hy=>by
  obtain ⟨x,hx,rfl⟩:=List.mem_map.1 hy
  rw [List.mem_range'_1] at hx⊢
  have hlt:=Nat.mod_lt (a*x) h.pos
  have hne:a*x%p≠0:=λe=>by
   rcases h.aho (Nat.dvd_of_mod_eq_zero e) with h1|h1
   ·exact ha h1
   ·exact lF (by omega) (by omega) h1
  omega) (by rw [List.length_map];exact Nat.le_refl _)
 have e:=US p a (List.range' 1 (p-1))
 rw [akN hperm,List.length_range'] at e
 have hnot:¬p∣wD (List.range' 1 (p-1)):=UR h _ λx hx=>by
  rw [List.mem_range'_1] at hx
  exact lF (by omega) (by omega)
 have hmul:∀ z,z*wD (List.range' 1 (p-1))%p=wD (List.range' 1 (p-1))*(z%p)%p:=λz=>by
  rw [Nat.mul_comm,Nat.mul_mod_mod]
 rw [hmul] at e
 have e1:wD (List.range' 1 (p-1))%p=wD (List.range' 1 (p-1))*1%p:=by rw [Nat.mul_one]
 rw [e1] at e
 exact (aq2 h hnot (by omega) (Nat.mod_lt _ h.pos) e).symm
theorem Jq:∀ (k n:Nat),2<=n->n<=k->∃ r,Pr r/\r∣n
 |0,n,h2,hk=>by omega
 |k+1,n,h2,hk=>by
  by_cases hp:Pr n
  ·exact ⟨n,hp,Nat.dvd_refl _⟩
  ·have:∃ d,d∣n/\d≠1/\d≠n:=by
    apply lz
    intro hc
    refine hp ⟨h2,λd hd=> ?_⟩
    apply lz
    intro hd2
    exact hc ⟨d,hd,λe=>hd2 (.inl e),λe=>hd2 (.inr e)⟩
   obtain ⟨d,hd,h1,h3⟩:=this
   have hle:=Nat.le_of_dvd (by omega) hd
   have h0:d≠0:=λe=>by subst e;have:=Nat.eq_zero_of_zero_dvd hd;omega
   obtain ⟨r,hr,hrd⟩:=Jq k d (by omega) (by omega)
   exact ⟨r,hr,Nat.dvd_trans hrd hd⟩
theorem Ue {n:Nat} (h2:2<=n) (hp:¬Pr n):∃ r,Pr r/\r∣n/\r*r<=n:=by
 have:∃ d,d∣n/\d≠1/\d≠n:=by
  apply lz
  intro hc
  refine hp ⟨h2,λd hd=> ?_⟩
  apply lz
  intro hd2
  exact hc ⟨d,hd,λe=>hd2 (.inl e),λe=>hd2 (.inr e)⟩
 obtain ⟨d,⟨e,rfl⟩,h1,h3⟩:=this
 have hd0:d≠0:=λe'=>by subst e';omega
 have he0:e≠0:=λe'=>by subst e';omega
 have he1:e≠1:=λe'=>by subst e';omega
 rcases Nat.le_total d e with hde|hde
 ·obtain ⟨r,hr,hrd⟩:=Jq d d (by omega) (Nat.le_refl _)
  have hle:=Nat.le_of_dvd (by omega) hrd
  exact ⟨r,hr,Nat.dvd_trans hrd (Nat.dvd_mul_right ..),cT (Nat.mul_le_mul hle hle) (Nat.mul_le_mul_left d hde)⟩
 ·obtain ⟨r,hr,hrd⟩:=Jq e e (by omega) (Nat.le_refl _)
  have hle:=Nat.le_of_dvd (by omega) hrd
  exact ⟨r,hr,Nat.dvd_trans hrd (Nat.dvd_mul_left ..),cT (Nat.mul_le_mul hle hle) (ck e hde)⟩
theorem aDf {r a:Nat} (hr:2<=r) (m k:Nat):a^m%r=1->a^k%r=1->a^Nat.gcd m k%r=1:=by
 induction m,k using Nat.gcd.induction with
 |H0 n=>intro _ h;rw [Nat.gcd_zero_left];exact h
 |H1 m n hm ih=>
  intro h1 h2
  rw [Nat.gcd_rec]
  refine ih ?_ h1
  have e:a^n%r=a^(n%m)%r:=by
   conv=>lhs;rw [<-Nat.div_add_mod n m,Nat.pow_add,Nat.pow_mul,Nat.mul_mod,Nat.pow_mod,h1,Nat.one_pow,bm (show 1<r by omega),Nat.one_mul,Nat.mod_mod]
  rw [<-e]
  exact h2
theorem awY {n q e a m:Nat} (hn2:2<=n) (hq:Pr q) (he:n-1=q^(e+1)*m) (h1:a^(n-1)%n=1) (h2:Nat.gcd (a^(q^e*m)%n+n-1) n=1)
 {r:Nat} (hr:Pr r) (hd:r∣n):q^(e+1)∣r-1:=by
 have hr2:=hr.1
 have ha1:a^(n-1)%r=1:=by
  have:=congrArg (· %r) h1
  simp only [Nat.mod_mod_of_dvd _ hd] at this
  rw [this,bm (by omega)]
 have hna:¬r∣a:=λh=>by
  have:r∣a^(n-1):=Nat.dvd_trans h (by
   have:=Nat.pow_dvd_pow a (show 1<=n-1 by omega)
   rwa [Nat.pow_one] at this)
  rw [Nat.mod_eq_zero_of_dvd this] at ha1
  omega
 have hg:=aDf hr2 _ _ ha1 (Fy hr hna)
 obtain ⟨h,hh⟩:=Nat.gcd_dvd_left (n-1) (r-1)
 by_cases hqh:q∣h
 ·obtain ⟨k,rfl⟩:=hqh
  have hk:q^e*m=Nat.gcd (n-1) (r-1)*k:=by
   have:q*(q^e*m)=q*(Nat.gcd (n-1) (r-1)*k):=by
    rw [<-Nat.mul_assoc,<-Nat.pow_succ',<-he,Nat.mul_left_comm q,<-hh]
   exact Nat.eq_of_mul_eq_mul_left hq.pos this
  have hone:a^(q^e*m)%r=1:=by
   rw [hk,Nat.pow_mul,Nat.pow_mod,hg,Nat.one_pow,bm (by omega)]
  have hmn:a^(q^e*m)%n%r=1:=by rw [Nat.mod_mod_of_dvd _ hd,hone]
  have hdv:r∣a^(q^e*m)%n+n-1:=by
   obtain ⟨c,rfl⟩:=hd
   have:=Nat.div_add_mod (a^(q^e*m)%(r*c)) r
   refine ⟨a^(q^e*m)%(r*c)/r+c,?_⟩
   rw [Nat.mul_add]
   omega
  have:=Nat.dvd_gcd hdv hd
  rw [h2] at this
  have:=Nat.le_of_dvd (by decide) this
  omega
 ·have hc:Nat.Coprime (q^(e+1)) h:=Nat.Coprime.pow_left _ (hq.cop hqh)
  have hdg:q^(e+1)∣Nat.gcd (n-1) (r-1)*h:=by rw [<-hh,he];exact Nat.dvd_mul_right ..
  exact Nat.dvd_trans (hc.dvd_of_dvd_mul_right hdg) (Nat.gcd_dvd_right ..)
theorem awZ {n F:Nat} (h2:2<=n) (hF:n<F*F) (h:∀ r,Pr r->r∣n->F∣r-1):Pr n:=by
 apply lz
 intro hp
 obtain ⟨r,hr,hd,hle⟩:=Ue h2 hp
 have h1:=hr.1
 have:=Nat.le_of_dvd (by omega) (h r hr hd)
 have:F*F<=r*r:=Nat.mul_le_mul (by omega) (by omega)
 omega
def WM {α:Type} (n:Nat) (f:Nat->α):α:=match n with
 |0=>f 0
 |k+1=>f (k+1)
theorem WL {α:Type} (n:Nat) (f:Nat->α):WM n f=f n:=by cases n<;>rfl
def pw (n:Nat):Nat->Nat->Nat->Nat->Nat
 |0,o,_,_=>o
 |f+1,o,x,k=>WM k λk=>cond (Nat.beq k 0) o (WM (x*x%n) λy=>WM (cond (Nat.beq (k%2) 1) (o*x%n) o) λo=>pw n f o y (k/2))
theorem aC7 {p:Nat}:∀ (n o x k:Nat),k<2^n->o<p->pw p n o x k=o*x^k%p
 |0,o,x,k,hk,ho=>by
  have:k=0:=by omega
  subst this
  show o=_
  rw [Nat.pow_zero,Nat.mul_one,bm ho]
 |n+1,o,x,k,hk,ho=>by
  unfold pw
  simp only [WL]
  rw [Nat.pow_succ] at hk
  cases h0:Nat.beq k 0
  ·simp only [aT]
   have hsq:(x*x%p)^(k/2)%p=x^(2*(k/2))%p:=by
    rw [<-Nat.pow_mod,Nat.pow_mul,Nat.pow_two]
   cases h1:Nat.beq (k%2) 1
   ·have h1':¬k%2=1:=λe=>by rw [e] at h1;cases h1
    simp only [aT]
    rw [aC7 n _ _ _ (by omega) ho,Nat.mul_mod,hsq,<-Nat.mul_mod,show 2*(k/2)=k by omega]
   ·have h1:=aY h1
    simp only [aK]
    rw [aC7 n _ _ _ (by omega) (Nat.mod_lt _ (by omega)),Nat.mul_mod,hsq,Nat.mod_mod,<-Nat.mul_mod,Nat.mul_assoc,<-Nat.pow_succ',show (2*(k/2)).succ=k by omega]
  ·have h0:=aY h0
   subst h0
   simp only [aK]
   rw [Nat.pow_zero,Nat.mul_one,bm ho]
def pwm (n a k:Nat):Nat:=pw n 256 1 (a%n) k
theorem afW {n:Nat} (hn:2<=n) {a k:Nat} (hk:Nat.blt k (2^256)=true):pwm n a k=a^k%n:=by
 have hk':k<2^256:=Nat.le_of_ble_eq_true hk
 unfold pwm
 rw [aC7 256 1 _ _ hk' (by omega),Nat.one_mul,<-Nat.pow_mod]
def aFB (n q e a m:Nat):Bool:=Nat.beq (n-1) (q^(e+1)*m)&&(Nat.blt n (2^256)&&(Nat.beq (pwm n a (n-1)) 1&&Nat.beq (Nat.gcd (pwm n a (q^e*m)+n-1) n) 1))
theorem gm {n q e a m:Nat} (h2:2<=n) (hq:Pr q) (h:aFB n q e a m=true) {r:Nat} (hr:Pr r) (hd:r∣n):q^(e+1)∣r-1:=by
 simp only [aFB,aw] at h
 obtain ⟨h1,h3,h4,h5⟩:=h
 have h1:=aY h1
 have h3:n<2^256:=Nat.le_of_ble_eq_true h3
 have hm:q^e*m<=n-1:=by
  rw [h1,Nat.pow_succ,Nat.mul_right_comm]
  exact Nat.le_mul_of_pos_right _ hq.pos
 rw [afW h2 (jR (show n-1+1<=2^256 by omega))] at h4
 rw [afW h2 (jR (show q^e*m+1<=2^256 by omega))] at h5
 exact awY h2 hq h1 (aY h4) (aY h5) hr hd
def aGM (n:Nat):Nat->Nat->Bool
 |0,_=>false
 |f+1,d=>WM d λd=>cond (Nat.blt n (d*d)) true (cond (Nat.beq (n%d) 0) false (aGM n f (d+1)))
theorem aor {n:Nat}:∀ (f d:Nat),aGM n f d=true->0<d->(∀ x,1<x->x<d->¬x∣n)->∀ x,1<x->x*x<=n->¬x∣n
 |0,d,h,_,_=>by cases h
 |f+1,d,h,hd0,hb=>by
  unfold aGM at h
  rw [WL] at h
  cases h1:Nat.blt n (d*d)
  ·rw [h1] at h
   cases h2:Nat.beq (n%d) 0
   ·rw [h2] at h
    refine aor f (d+1) h (by omega) λx hx hxd hdv=> ?_
    by_cases hxd2:x=d
    ·subst hxd2
     rw [Nat.mod_eq_zero_of_dvd hdv] at h2
     cases h2
    ·exact hb x hx (by omega) hdv
   ·rw [h2] at h;cases h
  ·have h1:n<d*d:=Nat.le_of_ble_eq_true h1
   intro x hx hxx
   refine hb x hx ?_
   apply lz
   intro hc
   have:=Nat.mul_le_mul (show d<=x by omega) (show d<=x by omega)
   omega
theorem Az {n:Nat} (f:Nat) (h2:2<=n) (h:aGM n f 2=true):Pr n:=by
 apply lz
 intro hp
 obtain ⟨r,hr,hd,hle⟩:=Ue h2 hp
 have:=hr.1
 exact aor f 2 h (by decide) (λx a b=>by omega) r (by omega) hle hd
end
end Go.Proofs.YthnnknnbfhkomaaGreat
set_option maxRecDepth 100000
namespace Go.Proofs.YthnnknnbfhkomaaGreat
theorem yb:Pr 16513537:=Az 4065 (by decide) (by decide+kernel)
theorem ya:Pr 16521217:=Az 4066 (by decide) (by decide+kernel)
theorem apy:Pr 772231:=Az 880 (by decide) (by decide+kernel)
theorem apz:Pr 413527:=Az 645 (by decide) (by decide+kernel)
theorem AX:Pr 325086459374267:=awZ (F:=319338368737) (by decide) (by decide+kernel) λr hr hd=>by
 have h0:772231∣r-1:=gm (n:=325086459374267) (q:=772231) (e:=0) (a:=2) (m:=420970486) (by decide) apy (by decide+kernel) hr hd
 have h1:413527∣r-1:=gm (n:=325086459374267) (q:=413527) (e:=0) (a:=2) (m:=786131158) (by decide) apz (by decide+kernel) hr hd
 have k1:319338368737∣r-1:=Nat.Coprime.mul_dvd_of_dvd_of_dvd (m:=772231) (n:=413527) (show Nat.gcd 772231 413527=1 by decide+kernel) h0 h1
 exact k1
theorem akO:Pr 6942563:=Az 2636 (by decide) (by decide+kernel)
theorem aaS:Pr 41655379:=awZ (F:=6942563) (by decide) (by decide+kernel) λr hr hd=>by
 have h0:6942563∣r-1:=gm (n:=41655379) (q:=6942563) (e:=0) (a:=2) (m:=6) (by decide) akO (by decide+kernel) hr hd
 exact h0
theorem Mi:Pr 22160661629:=awZ (F:=41655379) (by decide) (by decide+kernel) λr hr hd=>by
 have h0:41655379∣r-1:=gm (n:=22160661629) (q:=41655379) (e:=0) (a:=2) (m:=532) (by decide) aaS (by decide+kernel) hr hd
 exact h0
theorem eV:Pr 8999194758858563409123804352480028797519453:=awZ (F:=7204131026362786056900943) (by decide) (by decide+kernel) λr hr hd=>by
 have h0:325086459374267∣r-1:=gm (n:=8999194758858563409123804352480028797519453) (q:=325086459374267) (e:=0) (a:=2) (m:=27682465692912573825889481556) (by decide) AX (by decide+kernel) hr hd
 have h1:22160661629∣r-1:=gm (n:=8999194758858563409123804352480028797519453) (q:=22160661629) (e:=0) (a:=2) (m:=406088721966766121824069856270988) (by decide) Mi (by decide+kernel) hr hd
 have k1:7204131026362786056900943∣r-1:=Nat.Coprime.mul_dvd_of_dvd_of_dvd (m:=325086459374267) (n:=22160661629) (show Nat.gcd 325086459374267 22160661629=1 by decide+kernel) h0 h1
 exact k1
theorem aP:Pr 28948022309329048855892746252171976963363056481941560715954676764349967630337:=awZ (F:=8999194758858563409123804352480028797519453) (by decide) (by decide+kernel) λr hr hd=>by
 have h0:8999194758858563409123804352480028797519453∣r-1:=gm (n:=28948022309329048855892746252171976963363056481941560715954676764349967630337) (q:=8999194758858563409123804352480028797519453) (e:=0) (a:=2) (m:=3216734728497058061019394250637312) (by decide) eV (by decide+kernel) hr hd
 exact h0
theorem awV:Pr 31649:=Az 179 (by decide) (by decide+kernel)
theorem awW:Pr 12149:=Az 112 (by decide) (by decide+kernel)
theorem F4:Pr 5239247429827:=awZ (F:=384503701) (by decide) (by decide+kernel) λr hr hd=>by
 have h0:31649∣r-1:=gm (n:=5239247429827) (q:=31649) (e:=0) (a:=2) (m:=165542274) (by decide) awV (by decide+kernel) hr hd
 have h1:12149∣r-1:=gm (n:=5239247429827) (q:=12149) (e:=0) (a:=2) (m:=431249274) (by decide) awW (by decide+kernel) hr hd
 have k1:384503701∣r-1:=Nat.Coprime.mul_dvd_of_dvd_of_dvd (m:=31649) (n:=12149) (show Nat.gcd 31649 12149=1 by decide+kernel) h0 h1
 exact k1
theorem akP:Pr 5701177:=Az 2389 (by decide) (by decide+kernel)
theorem UU:Pr 399082391:=awZ (F:=5701177) (by decide) (by decide+kernel) λr hr hd=>by
 have h0:5701177∣r-1:=gm (n:=399082391) (q:=5701177) (e:=0) (a:=2) (m:=70) (by decide) akP (by decide+kernel) hr hd
 exact h0
theorem hI:Pr 10427374428728808478656897599072717:=awZ (F:=2090891391335963876357) (by decide) (by decide+kernel) λr hr hd=>by
 have h0:5239247429827∣r-1:=gm (n:=10427374428728808478656897599072717) (q:=5239247429827) (e:=0) (a:=2) (m:=1990242791238649418308) (by decide) F4 (by decide+kernel) hr hd
 have h1:399082391∣r-1:=gm (n:=10427374428728808478656897599072717) (q:=399082391) (e:=0) (a:=2) (m:=26128375152309860944621076) (by decide) UU (by decide+kernel) hr hd
 have k1:2090891391335963876357∣r-1:=Nat.Coprime.mul_dvd_of_dvd_of_dvd (m:=5239247429827) (n:=399082391) (show Nat.gcd 5239247429827 399082391=1 by decide+kernel) h0 h1
 exact k1
theorem aIc:Pr 2:=Az 3 (by decide) (by decide+kernel)
theorem aO:Pr 28948022309329048855892746252171976963363056481941647379679742748393362948097:=awZ (F:=44785232154536915268878889192838239440863232) (by decide) (by decide+kernel) λr hr hd=>by
 have h0:10427374428728808478656897599072717∣r-1:=gm (n:=28948022309329048855892746252171976963363056481941647379679742748393362948097) (q:=10427374428728808478656897599072717) (e:=0) (a:=2) (m:=2776156405161148062854777934377771323097088) (by decide) hI (by decide+kernel) hr hd
 have h1:4294967296∣r-1:=gm (n:=28948022309329048855892746252171976963363056481941647379679742748393362948097) (q:=2) (e:=31) (a:=5) (m:=6739986666787659948666753771754907668419893943225417141728043264801) (by decide) aIc (by decide+kernel) hr hd
 have k1:44785232154536915268878889192838239440863232∣r-1:=Nat.Coprime.mul_dvd_of_dvd_of_dvd (m:=10427374428728808478656897599072717) (n:=4294967296) (show Nat.gcd 10427374428728808478656897599072717 4294967296=1 by decide+kernel) h0 h1
 exact k1
end Go.Proofs.YthnnknnbfhkomaaGreat
namespace Go.Proofs.YthnnknnbfhkomaaGreat
section
set_option maxRecDepth 100000
theorem dz (p:Int):p∣0:=Int.dvd_zero p
theorem dc {p a b:Int} (c:Int) (h:p∣a) (k:p∣b):p∣c*a+b:=Int.dvd_add (Int.dvd_trans h (Int.dvd_mul_left ..)) k
theorem dk {p a K:Int} (h:p∣a) (e:K=a):p∣K:=e▸h
theorem aFl {p y3 x3 b y1 y2 x1 x2 l:Int} (h0:p∣y3-(l*(x1-x3)-y1)) (h1:p∣x3-(l*l-x1-x2)) (h2:p∣l*(x1-x2)-(y1-y2)) (h3:p∣l*(y1+y2)-(x1*x1+x1*x2+x2*x2)) (h4:p∣y1*y1-x1*x1*x1-b):p∣(y3*y3-x3*x3*x3-b):=
 dk (dc (y3-x3*l+x1*l-y1) h0 (dc (-x3*x3+x3*x1+x3*x2-x1*l*l+x2*l*l-x1*x1-2*x1*x2-x2*x2+2*y1*l) h1 (dc (-l*l*l+2*x1*l+x2*l) h2 (dc (l*l-2*x1-x2) h3 (dc (1) h4 (dz p)))))) (by clear h0 h1 h2 h3 h4;grind)
theorem aCy {p y3 x3 y1 y2 x1 x2 l:Int} (h0:p∣y3-(l*(x1-x3)-y1)) (h1:p∣l*(x1-x2)-(y1-y2)):p∣(y3-(l*(x2-x3)-y2)):=
 dk (dc (1) h0 (dc (1) h1 (dz p))) (by clear h0 h1;grind)
theorem aGv {p y3 x3 y1 y2 x1 x2 l:Int} (h0:p∣y3-(l*(x1-x3)-y1)) (h1:p∣x3-(l*l-x1-x2)) (h2:p∣l*(x1-x2)-(y1-y2)) (h3:p∣l*(y1+y2)-(x1*x1+x1*x2+x2*x2)):p∣((-l)*((-y1)+y3)-(x1*x1+x1*x3+x3*x3)):=
 dk (dc (-l) h0 (dc (-x3+x2) h1 (dc (-l) h2 (dc (1) h3 (dz p))))) (by clear h0 h1 h2 h3;grind)
theorem as6 {p b y1 y2 x1 x2 l:Int} (h0:p∣y1*y1-x1*x1*x1-b) (h1:p∣y2*y2-x2*x2*x2-b) (h2:p∣l*(x1-x2)-(y1-y2)):p∣(x1-x2)*(l*(y1+y2)-(x1*x1+x1*x2+x2*x2)):=
 dk (dc (1) h0 (dc (-1) h1 (dc (y1+y2) h2 (dz p)))) (by clear h0 h1 h2;grind)
theorem aGy {p x7 x5 yt xt ys xs y1 y3 L M l m x1 x3 y2 x2:Int} (h0:p∣l*(x1-x2)-(y1-y2)) (h1:p∣m*(x2-x3)-(y2-y3)) (h2:p∣xs-(l*l-x1-x2)) (h3:p∣ys-(l*(x1-xs)-y1)) (h4:p∣xt-(m*m-x2-x3)) (h5:p∣yt-(m*(x2-xt)-y2)) (h6:p∣x5-(L*L-xs-x3)) (h7:p∣x7-(M*M-x1-xt)) (h8:p∣l*(y1+y2)-(x1*x1+x1*x2+x2*x2)) (h9:p∣m*(y2+y3)-(x2*x2+x2*x3+x3*x3)) (h10:p∣L*(xs-x3)-(ys-y3)) (h11:p∣M*(x1-xt)-(y1-yt)):p∣((xs-x3)*(x1-xt))*(x5-x7):=
 dk (dc (-L*l*l-l*l*l-L*l*m-M*l*m-l*l*m-L*m*m+L*x1-M*x1+2*l*x1+2*m*x1+L*x3-M*x3+L*x2-M*x2+l*x2+m*x2) h0 (dc (-L*l*m-M*l*m-l*l*m-M*m*m-l*m*m-m*m*m-L*x1+m*x1-L*x3+l*x3+2*m*x3-L*x2+2*l*x2+3*m*x2-2*y2) h1 (dc (x7*xt-x7*x1-x5*xt+x5*x1+L*L*m*m-L*L*x1-L*l*x1-l*l*x1-L*m*x1-l*m*x1-m*m*x1-L*L*x3-m*m*x3-L*L*x2+L*l*x2+l*l*x2+L*m*x2+l*m*x2-m*m*x2+x1*x1+2*x1*x3+x3*x3-2*L*y2-2*l*y2+2*x1*x2+2*x3*x2+x2*x2) h2 (dc (-L*m*m+l*m*m+L*x1+m*x1+L*x3-l*x3+L*x2-2*l*x2-m*x2+2*y2) h3 (dc (x7*l*l-x7*x1-x7*x3-x7*x2-x5*l*l+x5*x1+x5*x3+x5*x2-M*M*l*l+M*M*x1+l*l*x1+M*M*x3+M*l*x3+l*l*x3+M*m*x3+l*m*x3+m*m*x3+M*M*x2-M*l*x2+l*l*x2-M*m*x2-l*m*x2-m*m*x2-x1*x1-2*x1*x3-x3*x3+2*M*y2+2*m*y2-2*x1*x2-2*x3*x2-x2*x2) h4 (dc (M*l*l-l*l*m-M*x1+m*x1-M*x3-l*x3-M*x2+l*x2+2*m*x2-2*y2) h5 (dc (-l*l*m*m+l*l*x1+m*m*x1+l*l*x3+m*m*x3+l*l*x2+m*m*x2-x1*x1-2*x1*x3-x3*x3-2*x1*x2-2*x3*x2-x2*x2) h6 (dc (l*l*m*m-l*l*x1-m*m*x1-l*l*x3-m*m*x3-l*l*x2-m*m*x2+x1*x1+2*x1*x3+x3*x3+2*x1*x2+2*x3*x2+x2*x2) h7 (dc (-L*l-M*l-l*l-L*m-M*m-m*m+2*x1+2*x3+2*x2) h8 (dc (L*l+M*l+l*l+L*m+M*m+m*m-2*x1-2*x3-2*x2) h9 (dc (-L*m*m+l*m*m+L*x1+m*x1+L*x3-l*x3+L*x2-2*l*x2-m*x2+2*y2) h10 (dc (-M*l*l+l*l*m+M*x1-m*x1+M*x3+l*x3+M*x2-l*x2-2*m*x2+2*y2) h11 (dz p))))))))))))) (by clear h0 h1 h2 h3 h4 h5 h6 h7 h8 h9 h10 h11;grind)
theorem aGx {p y7 x7 y5 x5 yt xt ys xs y1 y3 L M l m x1 x3 y2 x2:Int} (h0:p∣l*(x1-x2)-(y1-y2)) (h1:p∣m*(x2-x3)-(y2-y3)) (h2:p∣xs-(l*l-x1-x2)) (h3:p∣ys-(l*(x1-xs)-y1)) (h4:p∣xt-(m*m-x2-x3)) (h5:p∣yt-(m*(x2-xt)-y2)) (h6:p∣x5-(L*L-xs-x3)) (h7:p∣y5-(L*(xs-x5)-ys)) (h8:p∣x7-(M*M-x1-xt)) (h9:p∣y7-(M*(x1-x7)-y1)) (h10:p∣l*(y1+y2)-(x1*x1+x1*x2+x2*x2)) (h11:p∣m*(y2+y3)-(x2*x2+x2*x3+x3*x3)) (h12:p∣L*(xs-x3)-(ys-y3)) (h13:p∣M*(x1-xt)-(y1-yt)) (h14:p∣x5-x7):p∣((xs-x3)*(x1-xt))*(y5-y7):=
 dk (dc (-L*L*L*l+L*M*M*l-2*L*L*l*l-L*M*l*l+M*M*l*l-M*l*l*l+l*l*l*l-L*L*l*m-L*M*l*m+M*M*l*m-2*L*l*l*m-M*l*l*m-l*l*l*m+L*L*m*m-3*L*l*m*m+M*l*m*m-3*l*l*m*m-M*l*x1-2*l*l*x1+L*m*x1+l*m*x1+2*m*m*x1-L*L*x3+M*M*x3+2*L*l*x3-3*M*l*x3+3*l*l*x3-L*m*x3-2*M*m*x3+l*m*x3-m*m*x3-2*L*L*x2+2*M*M*x2+L*l*x2-2*M*l*x2+2*l*l*x2-M*m*x2-2*l*m*x2-4*m*m*x2+2*x1*x1+2*x3*x3+6*m*y2-x1*x2+5*x3*x2+x2*x2) h0 (dc (L*L*l*m-L*M*l*m-M*M*l*m-M*l*l*m-l*l*l*m-L*M*m*m-M*M*m*m-L*l*m*m-2*M*l*m*m-2*l*l*m*m-L*m*m*m-l*m*m*m+m*m*m*m+M*M*x1-2*L*l*x1-M*l*x1-2*L*m*x1-2*M*m*x1+3*l*m*x1+L*L*x3-L*l*x3-l*l*x3-L*m*x3-M*m*x3+2*L*L*x2-M*M*x2+M*l*x2-2*l*l*x2+3*x1*x3-2*L*y2-2*M*y2+2*m*y2+6*x1*x2+3*x2*x2) h1 (dc (y7*xt-y7*x1-y5*xt+y5*x1-L*L*L*m*m+L*M*M*x1-2*L*L*l*x1-L*M*l*x1+M*M*l*x1-M*l*l*x1+l*l*l*x1-L*L*m*x1-L*M*m*x1-2*L*l*m*x1-M*l*m*x1-l*l*m*x1-2*L*m*m*x1-3*l*m*m*x1+L*L*L*x3+2*L*m*m*x3+l*m*m*x3+2*L*L*L*x2-L*M*M*x2+2*L*L*l*x2+L*M*l*x2-M*M*l*x2+M*l*l*x2-l*l*l*x2+L*L*m*x2+L*M*m*x2+2*L*l*m*x2+M*l*m*x2+l*l*m*x2+3*L*m*m*x2+2*l*m*m*x2-2*L*x1*x1-l*x1*x1+3*l*x1*x3+m*x1*x3-2*L*x3*x3-l*x3*x3-2*L*L*y2-2*L*M*y2-2*M*l*y2+2*l*l*y2-4*L*m*y2+L*x1*x2+2*l*x1*x2-m*x1*x2-5*L*x3*x2-4*l*x3*x2-m*x3*x2-L*x2*x2-5*l*x2*x2-5*m*x2*x2+2*x1*y2+4*x3*y2+6*y2*x2) h2 (dc (L*L*m*m-L*l*m*m-M*M*x1+2*L*l*x1+M*l*x1-l*l*x1+L*m*x1+M*m*x1+l*m*x1+3*m*m*x1-L*L*x3+L*l*x3-m*m*x3-2*L*L*x2+M*M*x2-M*l*x2+l*l*x2-L*m*x2-M*m*x2-l*m*x2-2*m*m*x2+x1*x1-x1*x3+x3*x3+2*L*y2+2*M*y2+4*m*y2-4*x1*x2+2*x3*x2-2*x2*x2) h3 (dc (y7*l*l-y7*x1-y7*x3-y7*x2-y5*l*l+y5*x1+y5*x3+y5*x2+M*M*M*l*l-M*M*M*x1-M*l*l*x1-M*M*M*x3+L*M*l*x3+M*M*l*x3+M*l*l*x3+L*M*m*x3+M*M*m*x3+L*l*m*x3+2*M*l*m*x3+2*l*l*m*x3+L*m*m*x3+l*m*m*x3-m*m*m*x3-M*M*M*x2-L*M*l*x2-M*M*l*x2-3*M*l*l*x2-L*M*m*x2-M*M*m*x2-L*l*m*x2-2*M*l*m*x2-2*l*l*m*x2-L*m*m*x2-l*m*m*x2+m*m*m*x2+M*x1*x1-L*x1*x3+3*M*x1*x3-2*l*x1*x3+M*x3*x3+2*L*M*y2+2*M*M*y2-2*L*l*y2+6*M*l*y2-2*l*l*y2+2*L*m*y2+2*l*m*y2-2*m*m*y2+L*x1*x2+M*x1*x2+2*l*x1*x2+L*x3*x2+M*x3*x2+2*l*x3*x2+2*L*x2*x2-M*x2*x2+7*l*x2*x2+3*m*x2*x2-2*x1*y2-4*x3*y2-6*y2*x2) h4 (dc (-M*M*l*l+M*l*l*m+M*M*x1-M*m*x1+M*M*x3-L*l*x3-M*l*x3-2*l*l*x3-L*m*x3-2*M*m*x3-l*m*x3+m*m*x3+M*M*x2+L*l*x2+M*l*x2+2*l*l*x2+L*m*x2+l*m*x2-m*m*x2-x1*x3-2*L*y2-2*M*y2-6*l*y2+2*m*y2+x1*x2+x3*x2+2*x2*x2) h5 (dc (L*l*l*m*m-L*l*l*x1-L*m*m*x1-L*l*l*x3-L*m*m*x3-L*l*l*x2-L*m*m*x2+L*x1*x1+L*x1*x3-2*l*x1*x3-m*x1*x3+L*x3*x3-2*L*l*y2-2*l*l*y2-4*l*m*y2+3*L*x1*x2+2*l*x1*x2+m*x1*x2+3*L*x3*x2+2*l*x3*x2+m*x3*x2+3*L*x2*x2+7*l*x2*x2+5*m*x2*x2-2*x1*y2-4*x3*y2-6*y2*x2) h6 (dc (-l*l*m*m+l*l*x1+m*m*x1+l*l*x3+m*m*x3+l*l*x2+m*m*x2-x1*x1-2*x1*x3-x3*x3-2*x1*x2-2*x3*x2-x2*x2) h7 (dc (-M*l*l*m*m+M*l*l*x1+M*m*m*x1+M*l*l*x3+M*m*m*x3+M*l*l*x2+M*m*m*x2-M*x1*x1+L*x1*x3-2*M*x1*x3+2*l*x1*x3+m*x1*x3-M*x3*x3+2*L*l*y2+2*l*l*y2+4*l*m*y2-L*x1*x2-2*M*x1*x2-2*l*x1*x2-m*x1*x2-L*x3*x2-2*M*x3*x2-2*l*x3*x2-m*x3*x2-2*L*x2*x2-M*x2*x2-7*l*x2*x2-5*m*x2*x2+2*x1*y2+4*x3*y2+6*y2*x2) h8 (dc (l*l*m*m-l*l*x1-m*m*x1-l*l*x3-m*m*x3-l*l*x2-m*m*x2+x1*x1+2*x1*x3+x3*x3+2*x1*x2+2*x3*x2+x2*x2) h9 (dc (-L*L*L+L*M*M-2*L*L*l-L*M*l+2*M*M*l-M*l*l+l*l*l-L*L*m-L*M*m+M*M*m-2*L*l*m-2*M*l*m-l*l*m-2*L*m*m+M*m*m-4*l*m*m-2*L*x1-2*M*x1+2*L*x3-2*M*x3+6*l*x3+2*m*x3-2*M*x2-2*m*x2+6*y2) h10 (dc (-L*L*l+L*M*l+M*M*l+M*l*l+l*l*l-L*L*m+L*M*m+M*M*m+2*L*l*m+2*M*l*m+3*l*l*m+L*m*m+l*m*m-m*m*m+L*x1+M*x1-4*l*x1-4*m*x1+L*x3+M*x3+L*x2+M*x2+l*x2+m*x2-6*y2) h11 (dc (L*L*m*m-L*l*m*m-l*l*m*m-M*M*x1+2*L*l*x1+M*l*x1+L*m*x1+M*m*x1+l*m*x1+4*m*m*x1-L*L*x3+L*l*x3+l*l*x3-2*L*L*x2+M*M*x2-M*l*x2+2*l*l*x2-L*m*x2-M*m*x2-l*m*x2-m*m*x2-3*x1*x3+2*L*y2+2*M*y2+4*m*y2-6*x1*x2-3*x2*x2) h12 (dc (M*M*l*l-M*l*l*m-M*M*x1+M*m*x1-M*M*x3+L*l*x3+M*l*x3+2*l*l*x3+L*m*x3+2*M*m*x3+l*m*x3-m*m*x3-M*M*x2-L*l*x2-M*l*x2-2*l*l*x2-L*m*x2-l*m*x2+m*m*x2+x1*x3+2*L*y2+2*M*y2+6*l*y2-2*m*y2-x1*x2-x3*x2-2*x2*x2) h13 (dc (L*x1*x3+2*l*x1*x3+m*x1*x3+2*L*l*y2+2*l*l*y2+4*l*m*y2-L*x1*x2-2*l*x1*x2-m*x1*x2-L*x3*x2-2*l*x3*x2-m*x3*x2-2*L*x2*x2-7*l*x2*x2-5*m*x2*x2+2*x1*y2+4*x3*y2+6*y2*x2) h14 (dz p)))))))))))))))) (by clear h0 h1 h2 h3 h4 h5 h6 h7 h8 h9 h10 h11 h12 h13 h14;grind)
theorem aGA {p x7 x5 yt xt ys xs y1 y3 L M l m x1 x3 y2 x2:Int} (h0:p∣l*(x1-x2)-(y1-y2)) (h1:p∣m*(x2-x3)-(y2-y3)) (h2:p∣xs-(l*l-x1-x2)) (h3:p∣ys-(l*(x1-xs)-y1)) (h4:p∣xt-(m*m-x2-x3)) (h5:p∣yt-(m*(x2-xt)-y2)) (h6:p∣x5-(L*L-xs-x3)) (h7:p∣x7-(M*M-x1-xt)) (h8:p∣l*(y1+y2)-(x1*x1+x1*x2+x2*x2)) (h9:p∣m*(y2+y3)-(x2*x2+x2*x3+x3*x3)) (h10:p∣L*(xs-x3)-(ys-y3)) (h11:p∣L*(ys+y3)-(xs*xs+xs*x3+x3*x3)) (h12:p∣M*(x1-xt)-(y1-yt)) (h13:p∣xs-x3):p∣4*(y2*y3)*(x5-x7):=
 dk (dc (L*M*l*x3+M*M*l*x3-2*L*l*l*x3-2*M*l*l*x3+2*L*M*m*x3-L*l*m*x3-2*M*l*m*x3+2*l*l*m*x3-M*m*m*x3+l*m*m*x3+m*m*m*x3-L*M*l*x2-M*M*l*x2+2*L*l*l*x2+2*M*l*l*x2-2*L*M*m*x2+L*l*m*x2+2*M*l*m*x2-2*l*l*m*x2+M*m*m*x2-l*m*m*x2-m*m*m*x2+L*x1*x3+M*x1*x3+3*L*x3*x3-5*m*x3*x3-2*M*M*y2+2*L*l*y2-2*l*l*y2+2*L*m*y2+2*M*m*y2-2*l*m*y2-4*m*m*y2-L*x1*x2-M*x1*x2-L*x3*x2-M*x3*x2+4*m*x3*x2-2*L*x2*x2-2*M*x2*x2+4*m*x2*x2+4*x1*y2-4*x3*y2) h0 (dc (-4*x7*y2+4*x5*y2+2*L*M*l*x3+M*l*l*x3+L*M*m*x3+M*M*m*x3-M*l*m*x3+l*l*m*x3+L*m*m*x3-M*m*m*x3+l*m*m*x3-2*m*m*m*x3-2*L*M*l*x2-M*l*l*x2-L*M*m*x2-M*M*m*x2+M*l*m*x2-l*l*m*x2-L*m*m*x2+M*m*m*x2-l*m*m*x2+2*m*m*m*x2-L*x1*x3-M*x1*x3-2*L*x3*x3+M*x3*x3+3*m*x3*x3-4*L*L*y2+2*M*M*y2+2*L*l*y2+2*l*l*y2-4*l*m*y2-2*m*m*y2+L*x1*x2+M*x1*x2-L*x3*x2-M*x3*x2+3*L*x2*x2+3*M*x2*x2-6*m*x2*x2-4*x1*y2+2*x3*y2+2*y2*x2) h1 (dc (-xs*M*l*x3-xs*M*m*x3-xs*l*m*x3-xs*m*m*x3+xs*M*l*x2+xs*M*m*x2+xs*l*m*x2+xs*m*m*x2+2*xs*L*y2-2*xs*l*y2+L*M*x1*x3+M*M*x1*x3-2*L*l*x1*x3-M*l*x1*x3-L*m*x1*x3-2*M*m*x1*x3+3*l*m*x1*x3+m*m*x1*x3-L*M*x1*x2-M*M*x1*x2+2*L*l*x1*x2+M*l*x1*x2+L*m*x1*x2+2*M*m*x1*x2-3*l*m*x1*x2-m*m*x1*x2-L*M*x3*x2-M*M*x3*x2+2*L*l*x3*x2+2*M*l*x3*x2+L*m*x3*x2+3*M*m*x3*x2-2*l*m*x3*x2+L*M*x2*x2+M*M*x2*x2-2*L*l*x2*x2-2*M*l*x2*x2-L*m*x2*x2-3*M*m*x2*x2+2*l*m*x2*x2-4*m*x1*y2-4*L*x3*y2-4*M*x3*y2+4*m*x3*y2+2*L*y2*x2+4*M*y2*x2+2*l*y2*x2-4*y2*y2) h2 (dc (-M*l*l*x3+2*L*M*m*x3-l*l*m*x3-M*m*m*x3+m*m*m*x3+M*l*l*x2-2*L*M*m*x2+l*l*m*x2+M*m*m*x2-m*m*m*x2+L*x1*x3+M*x1*x3+2*L*x3*x3-M*x3*x3-3*m*x3*x3-2*M*M*y2+2*L*l*y2-2*l*l*y2+2*L*m*y2+2*M*m*y2+2*l*m*y2-4*m*m*y2-L*x1*x2-M*x1*x2+L*x3*x2+M*x3*x2-3*L*x2*x2-3*M*x2*x2+6*m*x2*x2+4*x1*y2-2*x3*y2-2*y2*x2) h3 (dc (-L*M*x3*x3-M*M*x3*x3-L*m*x3*x3+M*m*x3*x3+2*m*m*x3*x3+2*L*M*x3*x2+2*M*M*x3*x2+2*L*m*x3*x2-2*M*m*x3*x2-4*m*m*x3*x2-L*M*x2*x2-M*M*x2*x2-L*m*x2*x2+M*m*x2*x2+2*m*m*x2*x2+2*M*x3*y2+6*m*x3*y2-2*M*y2*x2-6*m*y2*x2+4*y2*y2) h4 (dc (L*x3*x3+M*x3*x3-2*m*x3*x3-2*L*x3*x2-2*M*x3*x2+4*m*x3*x2+L*x2*x2+M*x2*x2-2*m*x2*x2-2*x3*y2+2*y2*x2) h5 (dc (4*m*x3*y2-4*m*y2*x2+4*y2*y2) h6 (dc (-4*m*x3*y2+4*m*y2*x2-4*y2*y2) h7 (dc (L*M*x3+M*M*x3-2*L*l*x3-M*l*x3-L*m*x3-2*M*m*x3+3*l*m*x3+m*m*x3-L*M*x2-M*M*x2+2*L*l*x2+M*l*x2+L*m*x2+2*M*m*x2-3*l*m*x2-m*m*x2-4*m*y2) h8 (dc (-L*M*x3-M*M*x3+2*L*l*x3+M*l*x3+L*m*x3+2*M*m*x3-l*m*x3+m*m*x3+L*M*x2+M*M*x2-2*L*l*x2-M*l*x2-L*m*x2-2*M*m*x2+l*m*x2-m*m*x2-2*L*y2-2*M*y2+2*l*y2+6*m*y2) h9 (dc (-L*M*l*x3-M*l*l*x3+L*M*m*x3-L*l*m*x3-l*l*m*x3-L*m*m*x3-M*m*m*x3+m*m*m*x3+L*M*l*x2+M*l*l*x2-L*M*m*x2+L*l*m*x2+l*l*m*x2+L*m*m*x2+M*m*m*x2-m*m*m*x2+L*x1*x3+M*x1*x3+2*L*x3*x3-M*x3*x3-3*m*x3*x3+2*L*L*y2-2*M*M*y2-2*l*l*y2+2*L*m*y2+2*M*m*y2+2*l*m*y2-4*m*m*y2-L*x1*x2-M*x1*x2+L*x3*x2+M*x3*x2-3*L*x2*x2-3*M*x2*x2+6*m*x2*x2+4*x1*y2-2*x3*y2-2*y2*x2) h10 (dc (-M*l*x3-M*m*x3-l*m*x3-m*m*x3+M*l*x2+M*m*x2+l*m*x2+m*m*x2+2*L*y2-2*l*y2) h11 (dc (-L*x3*x3-M*x3*x3+2*m*x3*x3+2*L*x3*x2+2*M*x3*x2-4*m*x3*x2-L*x2*x2-M*x2*x2+2*m*x2*x2+2*x3*y2-2*y2*x2) h12 (dc (L*L*M*l*x3+L*M*l*l*x3-L*L*M*m*x3+L*L*l*m*x3-2*L*M*l*m*x3+L*l*l*m*x3-M*l*l*m*x3+L*L*m*m*x3+L*M*m*m*x3+M*l*m*m*x3-l*l*m*m*x3-L*m*m*m*x3-l*m*m*m*x3-L*L*M*l*x2-L*M*l*l*x2+L*L*M*m*x2-L*L*l*m*x2+2*L*M*l*m*x2-L*l*l*m*x2+M*l*l*m*x2-L*L*m*m*x2-L*M*m*m*x2-M*l*m*m*x2+l*l*m*m*x2+L*m*m*m*x2+l*m*m*m*x2-L*L*x1*x3-2*L*M*x1*x3-M*M*x1*x3+L*l*x1*x3+M*l*x1*x3+L*m*x1*x3+3*M*m*x1*x3-2*l*m*x1*x3-2*L*L*x3*x3+L*M*x3*x3-2*L*l*x3*x3+3*L*m*x3*x3-M*m*x3*x3+2*l*m*x3*x3-m*m*x3*x3-2*L*L*L*y2+2*L*M*M*y2+2*M*M*l*y2+2*L*l*l*y2-2*L*L*m*y2-2*L*M*m*y2-4*L*l*m*y2-2*M*l*m*y2-2*l*l*m*y2+4*L*m*m*y2+4*l*m*m*y2+L*L*x1*x2+2*L*M*x1*x2+M*M*x1*x2-L*l*x1*x2-M*l*x1*x2-L*m*x1*x2-3*M*m*x1*x2+2*l*m*x1*x2-L*L*x3*x2+M*M*x3*x2-3*L*l*x3*x2-M*l*x3*x2-L*m*x3*x2-M*m*x3*x2+4*l*m*x3*x2+2*m*m*x3*x2+3*L*L*x2*x2+2*L*M*x2*x2-M*M*x2*x2+5*L*l*x2*x2+4*M*l*x2*x2-5*L*m*x2*x2+2*M*m*x2*x2-9*l*m*x2*x2-m*m*x2*x2-6*L*x1*y2-2*l*x1*y2+4*m*x1*y2+8*L*x3*y2+4*M*x3*y2-8*m*x3*y2-2*L*y2*x2-4*M*y2*x2+2*l*y2*x2+4*m*y2*x2) h13 (dz p))))))))))))))) (by clear h0 h1 h2 h3 h4 h5 h6 h7 h8 h9 h10 h11 h12 h13;grind)
theorem aGz {p y7 x7 y5 x5 yt xt ys xs y1 y3 L M l m x1 x3 y2 x2:Int} (h0:p∣l*(x1-x2)-(y1-y2)) (h1:p∣m*(x2-x3)-(y2-y3)) (h2:p∣xs-(l*l-x1-x2)) (h3:p∣ys-(l*(x1-xs)-y1)) (h4:p∣xt-(m*m-x2-x3)) (h5:p∣yt-(m*(x2-xt)-y2)) (h6:p∣y5-(L*(xs-x5)-ys)) (h7:p∣x7-(M*M-x1-xt)) (h8:p∣y7-(M*(x1-x7)-y1)) (h9:p∣l*(y1+y2)-(x1*x1+x1*x2+x2*x2)) (h10:p∣m*(y2+y3)-(x2*x2+x2*x3+x3*x3)) (h11:p∣L*(xs-x3)-(ys-y3)) (h12:p∣L*(ys+y3)-(xs*xs+xs*x3+x3*x3)) (h13:p∣M*(x1-xt)-(y1-yt)) (h14:p∣xs-x3) (h15:p∣x5-x7):p∣4*(y2*y3)*(y5-y7):=
 dk (dc (-M*M*M*l*x3+M*M*l*l*x3+2*L*M*l*m*x3+2*M*M*l*m*x3-4*L*l*l*m*x3-4*M*l*l*m*x3+4*L*M*m*m*x3-2*L*l*m*m*x3-2*M*l*m*m*x3+2*l*l*m*m*x3-2*M*m*m*m*x3+2*l*m*m*m*x3+2*m*m*m*m*x3+M*M*M*l*x2-M*M*l*l*x2-2*L*M*l*m*x2-2*M*M*l*m*x2+4*L*l*l*m*x2+4*M*l*l*m*x2-4*L*M*m*m*x2+2*L*l*m*m*x2+2*M*l*m*m*x2-2*l*l*m*m*x2+2*M*m*m*m*x2-2*l*m*m*m*x2-2*m*m*m*m*x2+2*L*m*x1*x3+2*M*m*x1*x3-M*M*x3*x3-2*M*l*x3*x3+2*l*l*x3*x3+6*L*m*x3*x3-8*m*m*x3*x3+2*M*M*M*y2+2*L*M*l*y2+4*L*l*l*y2+4*L*M*m*y2-2*M*M*m*y2+6*L*l*m*y2-2*M*l*m*y2-4*l*l*m*y2+8*L*m*m*y2-2*M*m*m*y2-6*l*m*m*y2-8*m*m*m*y2-2*L*m*x1*x2-2*M*m*x1*x2+2*M*M*x3*x2+M*l*x3*x2-l*l*x3*x2-2*L*m*x3*x2-2*M*m*x3*x2+4*m*m*x3*x2+2*M*M*x2*x2+4*M*l*x2*x2-l*l*x2*x2-4*L*m*x2*x2-4*M*m*x2*x2+3*l*m*x2*x2+4*m*m*x2*x2-2*x3*x3*x3-6*L*x1*y2-2*M*x1*y2+6*m*x1*y2-2*L*x3*y2+4*M*x3*y2+2*l*x3*y2-2*m*x3*y2+3*x3*x3*x2-4*L*y2*x2+4*M*y2*x2-2*l*y2*x2+8*m*y2*x2-3*x1*x2*x2+9*x3*x2*x2+2*x2*x2*x2-4*y2*y2) h0 (dc (-4*y7*y2+4*y5*y2-M*M*M*m*x3+4*L*M*l*m*x3+2*M*l*l*m*x3+2*L*M*m*m*x3+M*M*m*m*x3-2*M*l*m*m*x3+2*l*l*m*m*x3+2*L*m*m*m*x3+2*l*m*m*m*x3-2*m*m*m*m*x3+M*M*M*m*x2-4*L*M*l*m*x2-2*M*l*l*m*x2-2*L*M*m*m*x2-M*M*m*m*x2+2*M*l*m*m*x2-2*l*l*m*m*x2-2*L*m*m*m*x2-2*l*m*m*m*x2+2*m*m*m*m*x2-2*L*m*x1*x3-2*M*m*x1*x3-4*L*m*x3*x3+4*m*m*x3*x3+4*L*M*M*y2-2*M*M*M*y2+4*L*M*l*y2+2*M*M*l*y2+2*M*l*l*y2+2*L*M*m*y2+8*L*l*m*y2-2*M*l*m*y2+2*l*l*m*y2-2*L*m*m*y2+4*M*m*m*y2-8*l*m*m*y2+2*m*m*m*y2+2*L*m*x1*x2+2*M*m*x1*x2-2*L*m*x3*x2-M*m*x3*x2+m*m*x3*x2-3*M*M*x2*x2+6*L*m*x2*x2+10*M*m*x2*x2-2*m*m*x2*x2-2*L*x1*y2+2*M*x1*y2-4*l*x1*y2-4*m*x1*y2+8*L*x3*y2-2*M*x3*y2+2*l*x3*y2-12*m*x3*y2+6*L*y2*x2-6*M*y2*x2+2*l*y2*x2-2*m*y2*x2+3*x1*x2*x2-6*x3*x2*x2-6*x2*x2*x2) h1 (dc (-2*xs*M*l*m*x3-2*xs*M*m*m*x3-2*xs*l*m*m*x3-2*xs*m*m*m*x3+2*xs*M*l*m*x2+2*xs*M*m*m*x2+2*xs*l*m*m*x2+2*xs*m*m*m*x2-2*xs*M*M*y2-2*xs*M*l*y2-2*xs*M*m*y2-2*xs*l*m*y2+4*xs*x1*y2-2*xs*x3*y2-2*xs*y2*x2-M*M*M*x1*x3+M*M*l*x1*x3+2*L*M*m*x1*x3+2*M*M*m*x1*x3-4*L*l*m*x1*x3-2*M*l*m*x1*x3-2*L*m*m*x1*x3-2*M*m*m*x1*x3+4*l*m*m*x1*x3+2*m*m*m*x1*x3+M*M*M*x1*x2-M*M*l*x1*x2-2*L*M*m*x1*x2-2*M*M*m*x1*x2+4*L*l*m*x1*x2+2*M*l*m*x1*x2+2*L*m*m*x1*x2+2*M*m*m*x1*x2-4*l*m*m*x1*x2-2*m*m*m*x1*x2+M*M*M*x3*x2-M*M*l*x3*x2-2*L*M*m*x3*x2-2*M*M*m*x3*x2+4*L*l*m*x3*x2+4*M*l*m*x3*x2+2*L*m*m*x3*x2+4*M*m*m*x3*x2-2*l*m*m*x3*x2-M*M*M*x2*x2+M*M*l*x2*x2+2*L*M*m*x2*x2+2*M*M*m*x2*x2-4*L*l*m*x2*x2-4*M*l*m*x2*x2-2*L*m*m*x2*x2-4*M*m*m*x2*x2+2*l*m*m*x2*x2-2*M*x1*x3*x3+2*l*x1*x3*x3+2*L*M*x1*y2+2*M*M*x1*y2+4*L*l*x1*y2+2*M*l*x1*y2+6*L*m*x1*y2-2*M*m*x1*y2-2*l*m*x1*y2-8*m*m*x1*y2+2*M*M*x3*y2-8*L*m*x3*y2-8*M*m*x3*y2+4*m*m*x3*y2+M*x1*x3*x2-l*x1*x3*x2+2*M*x3*x3*x2-2*l*x3*x3*x2-2*L*M*y2*x2-2*M*M*y2*x2-4*L*l*y2*x2+2*L*m*y2*x2+12*M*m*y2*x2+4*l*m*y2*x2+4*m*m*y2*x2+4*M*x1*x2*x2-l*x1*x2*x2+3*m*x1*x2*x2-M*x3*x2*x2+l*x3*x2*x2-4*M*x2*x2*x2+l*x2*x2*x2-3*m*x2*x2*x2-4*x1*x1*y2+4*x1*x3*y2+4*x3*x3*y2+8*L*y2*y2-8*m*y2*y2-4*x3*y2*x2) h2 (dc (-2*M*l*l*m*x3+4*L*M*m*m*x3-2*l*l*m*m*x3-2*M*m*m*m*x3+2*m*m*m*m*x3+2*M*l*l*m*x2-4*L*M*m*m*x2+2*l*l*m*m*x2+2*M*m*m*m*x2-2*m*m*m*m*x2+2*L*m*x1*x3+2*M*m*x1*x3+4*L*m*x3*x3-2*M*m*x3*x3-6*m*m*x3*x3+2*M*M*M*y2-2*M*M*l*y2-2*M*l*l*y2+4*L*M*m*y2-2*M*M*m*y2-2*l*l*m*y2+8*L*m*m*y2-2*M*m*m*y2+2*l*m*m*y2-8*m*m*m*y2-2*L*m*x1*x2-2*M*m*x1*x2+2*L*m*x3*x2+2*M*m*x3*x2+3*M*M*x2*x2-6*L*m*x2*x2-6*M*m*x2*x2+6*m*m*x2*x2-6*L*x1*y2-2*M*x1*y2+4*l*x1*y2+6*m*x1*y2-4*L*x3*y2+2*M*x3*y2-2*l*x3*y2+4*m*x3*y2-2*L*y2*x2+6*M*y2*x2-2*l*y2*x2+2*m*y2*x2-3*x1*x2*x2+6*x3*x2*x2+6*x2*x2*x2-4*y2*y2) h3 (dc (M*M*M*x3*x3-2*L*M*m*x3*x3-M*M*m*x3*x3-2*L*m*m*x3*x3+2*m*m*m*x3*x3-2*M*M*M*x3*x2+4*L*M*m*x3*x2+2*M*M*m*x3*x2+4*L*m*m*x3*x2-4*m*m*m*x3*x2+M*M*M*x2*x2-2*L*M*m*x2*x2-M*M*m*x2*x2-2*L*m*m*x2*x2+2*m*m*m*x2*x2+2*M*x3*x3*x3+2*m*x3*x3*x3-2*L*M*x3*y2-2*M*M*x3*y2+2*L*m*x3*y2-4*M*m*x3*y2+2*m*m*x3*y2-3*M*x3*x3*x2-3*m*x3*x3*x2+2*L*M*y2*x2+2*M*M*y2*x2-2*L*m*y2*x2+4*M*m*y2*x2-2*m*m*y2*x2-3*M*x3*x2*x2-3*m*x3*x2*x2+4*M*x2*x2*x2+4*m*x2*x2*x2+4*L*y2*y2-8*M*y2*y2-4*m*y2*y2) h4 (dc (-M*M*x3*x3+2*L*m*x3*x3+2*M*m*x3*x3-2*m*m*x3*x3+2*M*M*x3*x2-4*L*m*x3*x2-4*M*m*x3*x2+4*m*m*x3*x2-M*M*x2*x2+2*L*m*x2*x2+2*M*m*x2*x2-2*m*m*x2*x2-2*x3*x3*x3+2*L*x3*y2+2*M*x3*y2-2*m*x3*y2+3*x3*x3*x2-2*L*y2*x2-2*M*y2*x2+2*m*y2*x2+3*x3*x2*x2-4*x2*x2*x2+4*y2*y2) h5 (dc (4*m*x3*y2-4*m*y2*x2+4*y2*y2) h6 (dc (-4*L*m*x3*y2+4*M*m*x3*y2+4*L*m*y2*x2-4*M*m*y2*x2-4*L*y2*y2+4*M*y2*y2) h7 (dc (-4*m*x3*y2+4*m*y2*x2-4*y2*y2) h8 (dc (-M*M*M*x3+M*M*l*x3+2*L*M*m*x3+2*M*M*m*x3-4*L*l*m*x3-2*M*l*m*x3-2*L*m*m*x3-2*M*m*m*x3+4*l*m*m*x3+2*m*m*m*x3+M*M*M*x2-M*M*l*x2-2*L*M*m*x2-2*M*M*m*x2+4*L*l*m*x2+2*M*l*m*x2+2*L*m*m*x2+2*M*m*m*x2-4*l*m*m*x2-2*m*m*m*x2-2*M*x3*x3+2*l*x3*x3+2*L*M*y2+2*M*M*y2+4*L*l*y2+2*M*l*y2+6*L*m*y2-2*M*m*y2-2*l*m*y2-8*m*m*y2+M*x3*x2-l*x3*x2+4*M*x2*x2-l*x2*x2+3*m*x2*x2-4*x1*y2+4*x3*y2) h9 (dc (M*M*M*x3-2*L*M*m*x3-M*M*m*x3+4*L*l*m*x3+2*M*l*m*x3+2*L*m*m*x3+2*M*m*m*x3-2*l*m*m*x3-M*M*M*x2+2*L*M*m*x2+M*M*m*x2-4*L*l*m*x2-2*M*l*m*x2-2*L*m*m*x2-2*M*m*m*x2+2*l*m*m*x2+2*M*x3*x3+2*m*x3*x3-2*L*M*y2+2*M*M*y2-4*L*l*y2+2*M*l*y2-6*L*m*y2-2*M*m*y2+6*l*m*y2+6*m*m*y2-M*x3*x2-m*x3*x2-4*M*x2*x2-4*m*x2*x2-2*x1*y2+4*x3*y2+4*y2*x2) h10 (dc (-2*L*M*l*m*x3-2*M*l*l*m*x3+2*L*M*m*m*x3-2*L*l*m*m*x3-2*l*l*m*m*x3-2*L*m*m*m*x3-2*M*m*m*m*x3+2*m*m*m*m*x3+2*L*M*l*m*x2+2*M*l*l*m*x2-2*L*M*m*m*x2+2*L*l*m*m*x2+2*l*l*m*m*x2+2*L*m*m*m*x2+2*M*m*m*m*x2-2*m*m*m*m*x2+2*L*m*x1*x3+2*M*m*x1*x3+4*L*m*x3*x3-2*M*m*x3*x3-6*m*m*x3*x3-2*L*M*M*y2+2*M*M*M*y2-2*L*M*l*y2-2*M*M*l*y2-2*M*l*l*y2+2*L*M*m*y2-2*M*M*m*y2-2*L*l*m*y2-2*l*l*m*y2+8*L*m*m*y2-2*M*m*m*y2+2*l*m*m*y2-8*m*m*m*y2-2*L*m*x1*x2-2*M*m*x1*x2+2*L*m*x3*x2+2*M*m*x3*x2+3*M*M*x2*x2-6*L*m*x2*x2-6*M*m*x2*x2+6*m*m*x2*x2-2*L*x1*y2-2*M*x1*y2+4*l*x1*y2+6*m*x1*y2-6*L*x3*y2+2*M*x3*y2-2*l*x3*y2+8*m*x3*y2-4*L*y2*x2+6*M*y2*x2-2*l*y2*x2-2*m*y2*x2-3*x1*x2*x2+6*x3*x2*x2+6*x2*x2*x2) h11 (dc (-2*M*l*m*x3-2*M*m*m*x3-2*l*m*m*x3-2*m*m*m*x3+2*M*l*m*x2+2*M*m*m*x2+2*l*m*m*x2+2*m*m*m*x2-2*M*M*y2-2*M*l*y2-2*M*m*y2-2*l*m*y2+4*x1*y2-2*x3*y2-2*y2*x2) h12 (dc (M*M*x3*x3-2*L*m*x3*x3-2*M*m*x3*x3+2*m*m*x3*x3-2*M*M*x3*x2+4*L*m*x3*x2+4*M*m*x3*x2-4*m*m*x3*x2+M*M*x2*x2-2*L*m*x2*x2-2*M*m*x2*x2+2*m*m*x2*x2+2*x3*x3*x3-2*L*x3*y2-2*M*x3*y2+2*m*x3*y2-3*x3*x3*x2+2*L*y2*x2+2*M*y2*x2-2*m*y2*x2-3*x3*x2*x2+4*x2*x2*x2-4*y2*y2) h13 (dc (2*L*L*M*l*m*x3+2*L*M*l*l*m*x3-2*L*L*M*m*m*x3+2*L*L*l*m*m*x3-4*L*M*l*m*m*x3+2*L*l*l*m*m*x3-2*M*l*l*m*m*x3+2*L*L*m*m*m*x3+2*L*M*m*m*m*x3+2*M*l*m*m*m*x3-2*l*l*m*m*m*x3-2*L*m*m*m*m*x3-2*l*m*m*m*m*x3-2*L*L*M*l*m*x2-2*L*M*l*l*m*x2+2*L*L*M*m*m*x2-2*L*L*l*m*m*x2+4*L*M*l*m*m*x2-2*L*l*l*m*m*x2+2*M*l*l*m*m*x2-2*L*L*m*m*m*x2-2*L*M*m*m*m*x2-2*M*l*m*m*m*x2+2*l*l*m*m*m*x2+2*L*m*m*m*m*x2+2*l*m*m*m*m*x2+M*M*M*x1*x3-M*M*l*x1*x3-2*L*L*m*x1*x3-4*L*M*m*x1*x3-2*M*M*m*x1*x3+2*L*l*m*x1*x3+2*M*l*m*x1*x3+2*L*m*m*x1*x3+4*M*m*m*x1*x3-2*l*m*m*x1*x3-4*L*L*m*x3*x3+2*L*M*m*x3*x3-4*L*l*m*x3*x3+6*L*m*m*x3*x3-2*M*m*m*x3*x3+4*l*m*m*x3*x3-2*m*m*m*x3*x3+2*L*L*M*M*y2-2*L*M*M*M*y2+2*L*L*M*l*y2+2*L*M*M*l*y2-2*M*M*M*l*y2+2*L*M*l*l*y2-2*L*L*M*m*y2+2*L*M*M*m*y2+2*L*L*l*m*y2-4*L*M*l*m*y2+2*M*M*l*m*y2+2*L*l*l*m*y2-2*M*l*l*m*y2-8*L*L*m*m*y2+2*L*M*m*m*y2-10*L*l*m*m*y2+2*M*l*m*m*y2-2*l*l*m*m*y2+8*L*m*m*m*y2+8*l*m*m*m*y2-M*M*M*x1*x2+M*M*l*x1*x2+2*L*L*m*x1*x2+4*L*M*m*x1*x2+2*M*M*m*x1*x2-2*L*l*m*x1*x2-2*M*l*m*x1*x2-2*L*m*m*x1*x2-4*M*m*m*x1*x2+2*l*m*m*x1*x2-M*M*M*x3*x2+M*M*l*x3*x2-2*L*L*m*x3*x2+2*M*M*m*x3*x2-6*L*l*m*x3*x2-2*M*l*m*x3*x2-2*L*m*m*x3*x2+6*l*m*m*x3*x2+4*m*m*m*x3*x2-3*L*M*M*x2*x2+M*M*M*x2*x2-4*M*M*l*x2*x2+6*L*L*m*x2*x2+4*L*M*m*x2*x2-2*M*M*m*x2*x2+10*L*l*m*x2*x2+8*M*l*m*x2*x2-4*L*m*m*x2*x2+2*M*m*m*x2*x2-10*l*m*m*x2*x2-2*m*m*m*x2*x2+2*M*x1*x3*x3-2*l*x1*x3*x3+2*L*L*x1*y2-2*L*l*x1*y2+2*M*l*x1*y2-12*L*m*x1*y2+4*M*m*x1*y2-2*l*m*x1*y2+8*m*m*x1*y2+6*L*L*x3*y2-2*L*M*x3*y2-4*M*M*x3*y2+6*L*l*x3*y2-4*M*l*x3*y2+4*L*m*x3*y2+6*M*m*x3*y2-6*l*m*x3*y2-4*m*m*x3*y2-M*x1*x3*x2+l*x1*x3*x2-2*M*x3*x3*x2+2*l*x3*x3*x2+4*L*L*y2*x2-4*L*M*y2*x2+4*M*M*y2*x2+8*L*l*y2*x2-4*M*l*y2*x2-4*L*m*y2*x2-10*M*m*y2*x2-4*l*m*y2*x2-4*m*m*y2*x2+3*L*x1*x2*x2-4*M*x1*x2*x2+4*l*x1*x2*x2-3*m*x1*x2*x2-6*L*x3*x2*x2+M*x3*x2*x2-7*l*x3*x2*x2-6*L*x2*x2*x2+4*M*x2*x2*x2-7*l*x2*x2*x2+3*m*x2*x2*x2+2*x1*x3*y2-6*x3*x3*y2-4*L*y2*y2+4*l*y2*y2+8*m*y2*y2-2*x1*y2*x2+4*x3*y2*x2+2*y2*x2*x2) h14 (dc (-4*L*m*x3*y2+4*L*m*y2*x2-4*L*y2*y2) h15 (dz p))))))))))))))))) (by clear h0 h1 h2 h3 h4 h5 h6 h7 h8 h9 h10 h11 h12 h13 h14 h15;grind)
end
section
theorem Pr.eC {p:Nat} (h:Pr p) {a b:Int} (hd:(p:Int)∣a*b):(p:Int)∣a\/(p:Int)∣b:=by
 rw [Int.ofNat_dvd_left,Int.natAbs_mul] at hd
 rcases h.aho hd with h1|h1
 ·exact .inl (Int.ofNat_dvd_left.2 h1)
 ·exact .inr (Int.ofNat_dvd_left.2 h1)
def nm (p:Nat) (z:Int):Nat:=(z%(p:Int)).toNat
theorem ap6 {p:Nat} (hp:0<p) (z:Int):((nm p z:Nat):Int)=z%(p:Int):=by
 unfold nm
 have:=Int.emod_nonneg z (show (p:Int)≠0 by omega)
 omega
theorem rk {p:Nat} (hp:0<p) (z:Int):(p:Int)∣((nm p z:Nat):Int)-z:=by
 rw [ap6 hp]
 have:=Int.emod_add_mul_ediv z p
 exact ⟨-(z/p),by grind⟩
theorem IQ {p:Nat} (hp:0<p) (z:Int):nm p z<p:=by
 have h:=ap6 hp z
 have:=Int.emod_lt_of_pos z (show (0:Int)<p by omega)
 omega
theorem gi {p a b:Nat} (ha:a<p) (hb:b<p) (h:(p:Int)∣(a:Int)-(b:Int)):a=b:=by
 obtain ⟨k,hk⟩:=h
 have hpk:(p:Int)*k<p*1/\(p:Int)*(-1)<p*k:=by constructor<;>omega
 have h1:=Int.lt_of_mul_lt_mul_left hpk.1 (by omega)
 have h2:=Int.lt_of_mul_lt_mul_left hpk.2 (by omega)
 have:k=0:=by omega
 subst this
 omega
theorem ap5 {p a:Nat} {z:Int} (ha:a<p) (h:(p:Int)∣(a:Int)-z):nm p z=a:=by
 have hp:0<p:=by omega
 refine gi (IQ hp z) ha ?_
 obtain ⟨k,hk⟩:=h
 obtain ⟨k2,h2⟩:=rk hp z
 exact ⟨k2-k,by grind⟩
def aE3 (p:Nat) (a:Int):Int:=((nm p a^(p-2):Nat):Int)
theorem aqY {p:Nat} (h:Pr p) {a:Int} (ha:¬(p:Int)∣a):(p:Int)∣a*aE3 p a-1:=by
 have hp:=h.pos
 have h2:=h.1
 obtain ⟨k,hk⟩:=rk hp a
 have hn:¬p∣nm p a:=λhd=>by
  obtain ⟨c,hc⟩:=Int.natCast_dvd_natCast.2 hd
  exact ha ⟨c-k,by grind⟩
 have hf:=Fy h hn
 have e:nm p a^(p-1)=nm p a*nm p a^(p-2):=by
  rw [show p-1=(p-2)+1 by omega,Nat.pow_succ,Nat.mul_comm]
 rw [e] at hf
 have hd:=Nat.div_add_mod (nm p a*nm p a^(p-2)) p
 rw [hf] at hd
 unfold aE3
 generalize nm p a^(p-2)=i at*
 have hd2:((p:Nat):Int)*((nm p a*i/p:Nat):Int)+1=(nm p a:Int)*(i:Int):=by
  have:=congrArg (λn:Nat=>(n:Int)) hd
  simp only [Int.natCast_add,Int.natCast_mul] at this
  exact this
 exact ⟨((nm p a*i/p:Nat):Int)-k*i,by grind⟩
structure Cur (p b:Nat):Prop where
 pr:Pr p
 big:5<=p
 n2:∀ x:Int,¬(p:Int)∣x*x*x+b
theorem Cur.pos {p b:Nat} (c:Cur p b):0<p:=c.pr.pos
theorem Cur.no2 {p b:Nat} (c:Cur p b):¬(p:Int)∣2:=λh=>by
 have:=Int.le_of_dvd (by decide) h
 have:=c.big
 omega
theorem Cur.no4 {p b:Nat} (c:Cur p b):¬(p:Int)∣4:=λh=>by
 have:=Int.le_of_dvd (by decide) h
 have:=c.big
 omega
abbrev Cv (p b:Nat) (x y:Int):Prop:=(p:Int)∣y*y-x*x*x-b
theorem Cur.yne {p b:Nat} (c:Cur p b) {x y:Int} (h:Cv p b x y):¬(p:Int)∣y:=λhy=>by
 obtain ⟨k,hk⟩:=h
 obtain ⟨m,hm⟩:=hy
 exact c.n2 x ⟨m*y-k,by grind⟩
abbrev PtQ:Type:=Option (Nat×Nat)
def OnQ (p b:Nat):PtQ->Prop
 |none=>True
 |some P=>P.1<p/\P.2<p/\Cv p b P.1 P.2
structure Lin (p:Nat) (x1 y1 x2 y2 l:Int):Prop where
 a:(p:Int)∣l*(x1-x2)-(y1-y2)
 b:(p:Int)∣l*(y1+y2)-(x1*x1+x1*x2+x2*x2)
structure Thd (p:Nat) (x1 y1 x2 l x3 y3:Int):Prop where
 x:(p:Int)∣x3-(l*l-x1-x2)
 y:(p:Int)∣y3-(l*(x1-x3)-y1)
def rf (p:Nat) (P R:Nat×Nat):Int:=if P.1=R.1 then 3*P.1*P.1*aE3 p (P.2+P.2) else ((R.2:Int)-P.2)*aE3 p ((R.1:Int)-P.1)
def wK (p:Nat) (P R:Nat×Nat) (l:Int):Nat×Nat:=(nm p (l*l-P.1-R.1),nm p (l*(P.1-nm p (l*l-P.1-R.1))-P.2))
def dK (p:Nat):PtQ->PtQ->PtQ
 |none,R=>R
 |some P,none=>some P
 |some P,some R=>if P.1=R.1/\P.2≠R.2 then none else some (wK p P R (rf p P R))
def agh (p:Nat):PtQ->PtQ
 |none=>none
 |some P=>some (P.1,nm p (-P.2))
variable {p b:Nat}
theorem Ui (c:Cur p b) {P R:Nat×Nat} (hP:OnQ p b (some P)) (hR:OnQ p b (some R)) (h:¬(P.1=R.1/\P.2≠R.2)):Lin p P.1 P.2 R.1 R.2 (rf p P R):=by
 obtain ⟨x1,y1⟩:=P
 obtain ⟨x2,y2⟩:=R
 obtain ⟨hx1,hy1,hc1⟩:=hP
 obtain ⟨hx2,hy2,hc2⟩:=hR
 dsimp only at*
 unfold rf
 dsimp only
 by_cases e:x1=x2
 ·have e2:y1=y2:=lz λh2=>h ⟨e,h2⟩
  subst e e2
  rw [if_pos rfl]
  have hn:¬(p:Int)∣(y1:Int)+y1:=λhd=>by
   rw [<-Int.two_mul] at hd
   rcases c.pr.eC hd with h1|h1
   ·exact c.no2 h1
   ·exact c.yne hc1 h1
  obtain ⟨k,hk⟩:=aqY c.pr hn
  generalize aE3 p ((y1:Int)+y1)=i at*
  exact ⟨⟨0,by grind⟩,⟨3*x1*x1*k,by grind⟩⟩
 ·rw [if_neg e]
  have hn:¬(p:Int)∣(x2:Int)-x1:=λhd=>e (gi hx2 hx1 hd).symm
  have hn':¬(p:Int)∣(x1:Int)-x2:=λ⟨k,hk⟩=>hn ⟨-k,by grind⟩
  obtain ⟨k,hk⟩:=aqY c.pr hn
  generalize aE3 p ((x2:Int)-x1)=i at*
  have ha:(p:Int)∣((y2:Int)-y1)*i*((x1:Int)-x2)-(y1-y2):=⟨(y1-y2)*k,by grind⟩
  refine ⟨ha,?_⟩
  have hc1':(p:Int)∣(y1:Int)*y1-x1*x1*x1-b:=hc1
  have hc2':(p:Int)∣(y2:Int)*y2-x2*x2*x2-b:=hc2
  rcases c.pr.eC (as6 hc1' hc2' ha) with h1|h1
  ·exact absurd h1 hn'
  ·exact h1
theorem axv (c:Cur p b) {x1 y1 x2 y2 l m:Int} (hy:¬(p:Int)∣y1) (h1:Lin p x1 y1 x2 y2 l) (h2:Lin p x1 y1 x2 y2 m):(p:Int)∣l-m:=by
 obtain ⟨k1,e1⟩:=h1.a
 obtain ⟨k2,e2⟩:=h2.a
 obtain ⟨k3,e3⟩:=h1.b
 obtain ⟨k4,e4⟩:=h2.b
 rcases c.pr.eC (a:=l-m) (b:=x1-x2) ⟨k1-k2,by grind⟩ with h|h
 ·exact h
 ·rcases c.pr.eC (a:=l-m) (b:=y1+y2) ⟨k3-k4,by grind⟩ with h'|h'
  ·exact h'
  ·obtain ⟨m1,f1⟩:=h
   obtain ⟨m2,f2⟩:=h'
   rcases c.pr.eC (a:=2) (b:=y1) ⟨l*m1-k1+m2,by grind⟩ with h3|h3
   ·exact absurd h3 c.no2
   ·exact absurd h3 hy
theorem afB (c:Cur p b) {P R S:Nat×Nat} {l:Int} (hP:OnQ p b (some P)) (hR:OnQ p b (some R)) (hl:Lin p P.1 P.2 R.1 R.2 l) (hS1:S.1<p) (hS2:S.2<p)
 (ht:Thd p P.1 P.2 R.1 l S.1 S.2):dK p (some P) (some R)=some S:=by
 have hn:¬(P.1=R.1/\P.2≠R.2):=λ⟨e1,e2⟩=>by
  obtain ⟨k,hk⟩:=hl.a
  rw [e1] at hk
  exact e2 (gi hP.2.1 hR.2.1 ⟨-k,by grind⟩)
 have hs:=Ui c hP hR hn
 obtain ⟨k,hk⟩:=axv c (c.yne hP.2.2) hs hl
 have:dK p (some P) (some R)=some (wK p P R (rf p P R)):=if_neg hn
 rw [this]
 congr 1
 generalize rf p P R=s at*
 obtain ⟨k1,h1⟩:=ht.x
 obtain ⟨k2,h2⟩:=ht.y
 have ex:nm p (s*s-P.1-R.1)=S.1:=ap5 hS1 ⟨k1-k*(s+l),by grind⟩
 unfold wK
 rw [ex]
 have ey:nm p (s*((P.1:Int)-S.1)-P.2)=S.2:=ap5 hS2 ⟨k2-k*(P.1-S.1),by grind⟩
 rw [ey]
theorem nz (c:Cur p b) {P R S:Nat×Nat} (hP:OnQ p b (some P)) (hR:OnQ p b (some R)) (h:dK p (some P) (some R)=some S):
 S.1<p/\S.2<p/\∃ l,Lin p P.1 P.2 R.1 R.2 l/\Thd p P.1 P.2 R.1 l S.1 S.2:=by
 by_cases hn:P.1=R.1/\P.2≠R.2
 ·have:dK p (some P) (some R)=none:=if_pos hn
  rw [this] at h
  cases h
 ·have hs:=Ui c hP hR hn
  have:dK p (some P) (some R)=some (wK p P R (rf p P R)):=if_neg hn
  rw [this] at h
  cases h
  exact ⟨IQ c.pos _,IQ c.pos _,_,hs,rk c.pos _,rk c.pos _⟩
theorem Fe (c:Cur p b) {P:PtQ} (h:OnQ p b P):OnQ p b (agh p P):=by
 cases P with
 |none=>trivial
 |some P=>
  obtain ⟨k,hk⟩:=rk c.pos (-(P.2:Int))
  obtain ⟨m,hm⟩:=h.2.2
  exact ⟨h.1,IQ c.pos _,⟨m+k*((nm p (-(P.2:Int)):Int)-P.2),by show ((nm p (-(P.2:Int)):Nat):Int)*(nm p (-(P.2:Int)):Nat)-(P.1:Int)*P.1*P.1-b=_;grind⟩⟩
theorem jh (c:Cur p b) {P R:PtQ} (hP:OnQ p b P) (hR:OnQ p b R):OnQ p b (dK p P R):=by
 cases P with
 |none=>exact hR
 |some P=>
  cases R with
  |none=>exact hP
  |some R=>
   cases h:dK p (some P) (some R) with
   |none=>trivial
   |some S=>
    obtain ⟨h1,h2,l,hl,ht⟩:=nz c hP hR h
    exact ⟨h1,h2,aFl ht.y ht.x hl.a hl.b hP.2.2⟩
theorem apV (c:Cur p b) {P R:Nat×Nat} (hP:OnQ p b (some P)) (hR:OnQ p b (some R)) (h:P.1=R.1/\P.2≠R.2):some R=agh p (some P):=by
 obtain ⟨x1,y1⟩:=P
 obtain ⟨x2,y2⟩:=R
 obtain ⟨hx1,hy1,hc1⟩:=hP
 obtain ⟨hx2,hy2,hc2⟩:=hR
 dsimp only at*
 obtain ⟨rfl,hne⟩:=h
 obtain ⟨k1,e1⟩:=hc1
 obtain ⟨k2,e2⟩:=hc2
 rcases c.pr.eC (a:=(y1:Int)-y2) (b:=(y1:Int)+y2) ⟨k1-k2,by grind⟩ with h|h
 ·exact absurd (gi hy1 hy2 h) hne
 ·obtain ⟨k,hk⟩:=h
  have:nm p (-(y1:Int))=y2:=ap5 hy2 ⟨k,by grind⟩
  show _=some (x1,nm p (-(y1:Int)))
  rw [this]
theorem cn (P:PtQ):dK p P none=P:=by cases P<;>rfl
theorem agf (P:PtQ):dK p none P=P:=rfl
theorem add_neg (c:Cur p b) {P:PtQ} (hP:OnQ p b P):dK p P (agh p P)=none:=by
 cases P with
 |none=>rfl
 |some P=>
  refine if_pos ⟨rfl,λe=> ?_⟩
  have e:P.2=nm p (-(P.2:Int)):=e
  obtain ⟨k,hk⟩:=rk c.pos (-(P.2:Int))
  rw [<-e] at hk
  rcases c.pr.eC (a:=2) (b:=(P.2:Int)) ⟨k,by grind⟩ with h|h
  ·exact c.no2 h
  ·exact c.yne hP.2.2 h
theorem neg_neg (c:Cur p b) {P:PtQ} (hP:OnQ p b P):agh p (agh p P)=P:=by
 cases P with
 |none=>rfl
 |some P=>
  obtain ⟨k,hk⟩:=rk c.pos (-(P.2:Int))
  have:nm p (-((nm p (-(P.2:Int)):Nat):Int))=P.2:=ap5 hP.2.1 ⟨k,by grind⟩
  show some (P.1,nm p (-((nm p (-(P.2:Int)):Nat):Int)))=_
  rw [this]
theorem add_comm (c:Cur p b) {P R:PtQ} (hP:OnQ p b P) (hR:OnQ p b R):dK p P R=dK p R P:=by
 cases P with
 |none=>exact (cn R).symm
 |some P=>
  cases R with
  |none=>rfl
  |some R=>
   cases h:dK p (some P) (some R) with
   |none=>
    by_cases hn:P.1=R.1/\P.2≠R.2
    ·exact (if_pos ⟨hn.1.symm,λe=>hn.2 e.symm⟩).symm
    ·have:dK p (some P) (some R)=some (wK p P R (rf p P R)):=if_neg hn
     rw [this] at h
     cases h
   |some S=>
    obtain ⟨h1,h2,l,hl,ht⟩:=nz c hP hR h
    obtain ⟨k1,e1⟩:=hl.a
    obtain ⟨k2,e2⟩:=hl.b
    obtain ⟨k3,e3⟩:=ht.x
    exact (afB c hR hP (l:=l) ⟨⟨-k1,by grind⟩,⟨k2,by grind⟩⟩ h1 h2 ⟨⟨k3,by grind⟩,aCy ht.y hl.a⟩).symm
theorem aHt {p l x1 x2 y1 y2 z1 z2 k2 k5 k6:Int} (e2:l*(y1+y2)-(x1*x1+x1*x2+x2*x2)=p*k2) (e5:z1- -y1=p*k5) (e6:z2- -y2=p*k6):
 -l*(z1+z2)-(x1*x1+x1*x2+x2*x2)=p*(k2-l*(k5+k6)):=by grind
theorem aGu {p l x1 x3 y1 y3 z1 k2 k5:Int} (e2: -l*(-y1+y3)-(x1*x1+x1*x3+x3*x3)=p*k2) (e5:z1- -y1=p*k5):
 -l*(z1+y3)-(x1*x1+x1*x3+x3*x3)=p*(k2-l*k5):=by grind
theorem neg_add (c:Cur p b) {P R:PtQ} (hP:OnQ p b P) (hR:OnQ p b R):agh p (dK p P R)=dK p (agh p P) (agh p R):=by
 cases P with
 |none=>rfl
 |some P=>
  cases R with
  |none=>rfl
  |some R=>
   have hP':=Fe c hP
   have hR':=Fe c hR
   obtain ⟨k5,e5⟩:=rk c.pos (-(P.2:Int))
   obtain ⟨k6,e6⟩:=rk c.pos (-(R.2:Int))
   cases h:dK p (some P) (some R) with
   |none=>
    by_cases hn:P.1=R.1/\P.2≠R.2
    ·have:=apV c hP hR hn
     rw [this,add_neg c hP']
     rfl
    ·have:dK p (some P) (some R)=some (wK p P R (rf p P R)):=if_neg hn
     rw [this] at h
     cases h
   |some S=>
    obtain ⟨h1,h2,l,hl,ht⟩:=nz c hP hR h
    obtain ⟨k1,e1⟩:=hl.a
    obtain ⟨k2,e2⟩:=hl.b
    obtain ⟨k3,e3⟩:=ht.x
    obtain ⟨k4,e4⟩:=ht.y
    obtain ⟨k7,e7⟩:=rk c.pos (-(S.2:Int))
    have g1:Lin p ((P.1:Nat):Int) ((nm p (-(P.2:Int)):Nat):Int) ((R.1:Nat):Int) ((nm p (-(R.2:Int)):Nat):Int) (-l):=
     ⟨⟨-k1-k5+k6,by grind⟩,⟨k2-l*(k5+k6),aHt e2 e5 e6⟩⟩
    have g2:Thd p ((P.1:Nat):Int) ((nm p (-(P.2:Int)):Nat):Int) ((R.1:Nat):Int) (-l) ((S.1:Nat):Int) ((nm p (-(S.2:Int)):Nat):Int):=
     ⟨⟨k3,by grind⟩,⟨-k4+k7+k5,by grind⟩⟩
    exact (afB c (P:=(P.1,nm p (-(P.2:Int)))) (R:=(R.1,nm p (-(R.2:Int)))) (S:=(S.1,nm p (-(S.2:Int)))) hP' hR' g1 h1 (IQ c.pos _) g2).symm
theorem cancel (c:Cur p b) {P R:PtQ} (hP:OnQ p b P) (hR:OnQ p b R):dK p (agh p P) (dK p P R)=R:=by
 cases P with
 |none=>rfl
 |some P=>
  have hP':=Fe c hP
  cases R with
  |none=>
   rw [cn,add_comm c hP' hP,add_neg c hP]
  |some R=>
   cases h:dK p (some P) (some R) with
   |none=>
    by_cases hn:P.1=R.1/\P.2≠R.2
    ·rw [cn]
     exact (apV c hP hR hn).symm
    ·have:dK p (some P) (some R)=some (wK p P R (rf p P R)):=if_neg hn
     rw [this] at h
     cases h
   |some S=>
    have hS:=jh c hP hR
    rw [h] at hS
    obtain ⟨h1,h2,l,hl,ht⟩:=nz c hP hR h
    obtain ⟨k1,e1⟩:=hl.a
    obtain ⟨k2,e2⟩:=aGv ht.y ht.x hl.a hl.b
    obtain ⟨k3,e3⟩:=ht.x
    obtain ⟨k4,e4⟩:=ht.y
    obtain ⟨k5,e5⟩:=rk c.pos (-(P.2:Int))
    have g1:Lin p ((P.1:Nat):Int) ((nm p (-(P.2:Int)):Nat):Int) ((S.1:Nat):Int) ((S.2:Nat):Int) (-l):=
     ⟨⟨k4-k5,by grind⟩,⟨k2-l*k5,aGu e2 e5⟩⟩
    have g2:Thd p ((P.1:Nat):Int) ((nm p (-(P.2:Int)):Nat):Int) ((S.1:Nat):Int) (-l) ((R.1:Nat):Int) ((R.2:Nat):Int):=
     ⟨⟨k3,by grind⟩,⟨k1+k5,by grind⟩⟩
    exact afB c (P:=(P.1,nm p (-(P.2:Int)))) hP' hS g1 hR.1 hR.2.1 g2
theorem IP (c:Cur p b) {P R:PtQ} (hP:OnQ p b P) (hR:OnQ p b R) (h:dK p P R=none):R=agh p P:=by
 have:=cancel c hP hR
 rw [h,cn] at this
 exact this.symm
theorem Qx (c:Cur p b) {u v z:Int} (hu:¬(p:Int)∣u) (hv:¬(p:Int)∣v) (h:(p:Int)∣u*v*z):(p:Int)∣z:=by
 rcases c.pr.eC h with h|h
 ·rcases c.pr.eC h with h|h
  ·exact absurd h hu
  ·exact absurd h hv
 ·exact h
theorem aga (c:Cur p b) {z:Int} (h:(p:Int)∣4*z):(p:Int)∣z:=(c.pr.eC h).resolve_left c.no4
theorem af7 {X Y:Nat×Nat} (h1:X.1=Y.1) (h2:X.2=Y.2):X=Y:=by
 obtain ⟨X1,X2⟩:=X
 obtain ⟨Y1,Y2⟩:=Y
 dsimp only at h1 h2
 rw [h1,h2]
theorem OO (c:Cur p b) {P1 P2 P3 S T X Y:Nat×Nat} (h1:OnQ p b (some P1)) (h2:OnQ p b (some P2)) (h3:OnQ p b (some P3)) (hS:dK p (some P1) (some P2)=some S) (hT:dK p (some P2) (some P3)=some T)
 (hX:dK p (some S) (some P3)=some X) (hY:dK p (some P1) (some T)=some Y) (d1:(p:Int)∣(S.1:Int)-P3.1):X=Y:=by
 have oS:=jh c h1 h2
 have oT:=jh c h2 h3
 rw [hS] at oS
 rw [hT] at oT
 obtain ⟨hS1,hS2,l,l1,l2⟩:=nz c h1 h2 hS
 obtain ⟨hT1,hT2,m,m1,m2⟩:=nz c h2 h3 hT
 obtain ⟨hX1,hX2,L,L1,L2⟩:=nz c oS h3 hX
 obtain ⟨hY1,hY2,M,M1,M2⟩:=nz c h1 oT hY
 have n2:=c.yne h2.2.2
 have n3:=c.yne h3.2.2
 have hx:=Qx c n2 n3 (aga c (by rw [<-Int.mul_assoc];exact aGA l1.a m1.a l2.x l2.y m2.x m2.y L2.x M2.x l1.b m1.b L1.a L1.b M1.a d1))
 have hy:=Qx c n2 n3 (aga c (by rw [<-Int.mul_assoc];exact aGz l1.a m1.a l2.x l2.y m2.x m2.y L2.y M2.x M2.y l1.b m1.b L1.a L1.b M1.a d1 hx))
 exact af7 (gi hX1 hY1 hx) (gi hX2 hY2 hy)
theorem add_assoc (c:Cur p b) {P R T:PtQ} (hP:OnQ p b P) (hR:OnQ p b R) (hT:OnQ p b T):dK p (dK p P R) T=dK p P (dK p R T):=by
 have hPR:=jh c hP hR
 have hRT:=jh c hR hT
 have nP:=Fe c hP
 have nR:=Fe c hR
 have nT:=Fe c hT
 by_cases hA:dK p P R=none
 ·rw [hA,agf]
  have e:=IP c hP hR hA
  have e2:P=agh p R:=by rw [e,neg_neg c hP]
  rw [e2,cancel c hR hT]
 by_cases hB:dK p R T=none
 ·rw [hB,cn]
  have e:=IP c hR hT hB
  rw [e,add_comm c hPR nR,add_comm c hP hR,cancel c hR hP]
 by_cases hC:dK p (dK p P R) T=none
 ·rw [hC]
  have e:=IP c hPR hT hC
  rw [e,neg_add c hP hR,add_comm c nP nR]
  have:=cancel c nR nP
  rw [neg_neg c hR] at this
  rw [this,add_neg c hP]
 by_cases hD:dK p P (dK p R T)=none
 ·rw [hD]
  have e:=IP c hRT hP (by rw [add_comm c hRT hP];exact hD)
  rw [e,neg_add c hR hT]
  have h3:=cancel c nR nT
  rw [neg_neg c hR] at h3
  rw [add_comm c (jh c nR nT) hR,h3,add_comm c nT hT,add_neg c hT]
 cases P with
 |none=>rfl
 |some P1=>
 cases R with
 |none=>rw [cn,agf]
 |some P2=>
 cases T with
 |none=>rw [cn,cn]
 |some P3=>
 cases hS:dK p (some P1) (some P2) with
 |none=>exact absurd hS hA
 |some S=>
 cases hT':dK p (some P2) (some P3) with
 |none=>exact absurd hT' hB
 |some T=>
 rw [hS] at hPR hC
 rw [hT'] at hRT hD
 cases hX:dK p (some S) (some P3) with
 |none=>exact absurd hX hC
 |some X=>
 cases hY:dK p (some P1) (some T) with
 |none=>exact absurd hY hD
 |some Y=>
 obtain ⟨hS1,hS2,l,l1,l2⟩:=nz c hP hR hS
 obtain ⟨hT1,hT2,m,m1,m2⟩:=nz c hR hT hT'
 obtain ⟨hX1,hX2,L,L1,L2⟩:=nz c hPR hT hX
 obtain ⟨hY1,hY2,M,M1,M2⟩:=nz c hP hRT hY
 congr 1
 by_cases d1:(p:Int)∣(S.1:Int)-P3.1
 ·exact OO c hP hR hT hS hT' hX hY d1
 by_cases d2:(p:Int)∣(P1.1:Int)-T.1
 ·rw [add_comm c hR hT] at hT'
  rw [add_comm c hP hR] at hS
  rw [add_comm c hPR hT] at hX
  rw [add_comm c hP hRT] at hY
  exact (OO c hT hR hP hT' hS hY hX (by obtain ⟨k,hk⟩:=d2;exact ⟨-k,by rw [Int.mul_neg,<-hk];omega⟩)).symm
 ·have hx:=Qx c d1 d2 (aGy l1.a m1.a l2.x l2.y m2.x m2.y L2.x M2.x l1.b m1.b L1.a M1.a)
  have hy:=Qx c d1 d2 (aGx l1.a m1.a l2.x l2.y m2.x m2.y L2.x L2.y M2.x M2.y l1.b m1.b L1.a M1.a hx)
  exact af7 (gi hX1 hY1 hx) (gi hX2 hY2 hy)
end
section
open Sx Go
abbrev Sm (p:Nat):Prop:=0<p/\p<57896044618658097711785492504343953926634992332820282019728792003956564819968
theorem aGe {p a b:Int} (h2:p∣a) (h1:p∣a-b):p∣b:=by
 obtain ⟨k,hk⟩:=h1
 obtain ⟨m,hm⟩:=h2
 exact ⟨m-k,by rw [Int.mul_sub];omega⟩
theorem avp {p:Nat} (n:Nat):(p:Int)∣((n%p:Nat):Int)-(n:Int):=by
 have:=Nat.div_add_mod n p
 refine ⟨-((n/p:Nat):Int),?_⟩
 have h:((p*(n/p)+n%p:Nat):Int)=(n:Int):=by rw [this]
 rw [Int.natCast_add,Int.natCast_mul] at h
 rw [Int.mul_neg]
 omega
variable {p:Nat}
theorem cf (hp:Sm p) (a b:ab):(p:Int)∣((aR p a b).nat:Int)-((a.nat:Int)*(b.nat:Int)):=by
 have e:(aR p a b).nat=a.nat*b.nat%p:=cr hp
 rw [e]
 have:=avp (p:=p) (a.nat*b.nat)
 rwa [Int.natCast_mul] at this
theorem Yz (hp:Sm p) (a b:ab):(p:Int)∣((dr p a b).nat:Int)-((a.nat:Int)+(b.nat:Int)):=by
 have e:(dr p a b).nat=(a.nat+b.nat)%p:=cr hp
 rw [e]
 have:=avp (p:=p) (a.nat+b.nat)
 rwa [Int.natCast_add] at this
theorem aFP (hp:Sm p) (a:ab):(p:Int)∣((kW p a).nat:Int)- -(a.nat:Int):=by
 have e:(kW p a).nat=(p-a.nat%p)%p:=cr hp
 rw [e]
 obtain ⟨k,hk⟩:=avp (p:=p) (p-a.nat%p)
 obtain ⟨m,hm⟩:=avp (p:=p) a.nat
 have hlt:=Nat.mod_lt a.nat hp.1
 have e2:((p-a.nat%p:Nat):Int)=(p:Int)-((a.nat%p:Nat):Int):=by omega
 rw [e2] at hk
 generalize (((p-a.nat%p)%p:Nat):Int)=u at*
 generalize ((a.nat%p:Nat):Int)=v at*
 exact ⟨k+1-m,by grind⟩
theorem ml (hp:Sm p) (a b:ab):(p:Int)∣((iq p a b).nat:Int)-((a.nat:Int)-(b.nat:Int)):=by
 obtain ⟨k,hk⟩:=Yz hp a (kW p b)
 obtain ⟨m,hm⟩:=aFP hp b
 unfold iq
 generalize ((dr p a (kW p b)).nat:Int)=u at*
 exact ⟨k+m,by grind⟩
theorem jY (hp:Sm p) (a b:ab):(aR p a b).nat<p:=by
 rw [show (aR p a b).nat=a.nat*b.nat%p from cr hp]
 exact Nat.mod_lt _ hp.1
theorem zT (hp:Sm p) (a b:ab):(dr p a b).nat<p:=by
 rw [show (dr p a b).nat=(a.nat+b.nat)%p from cr hp]
 exact Nat.mod_lt _ hp.1
theorem PV (hp:Sm p) (a b:ab):(iq p a b).nat<p:=zT hp _ _
theorem ZR:(ab.mk 2 0 0 0).nat=2:=by decide
theorem ayj:(ab.mk 4 0 0 0).nat=4:=by decide
theorem asB:(ab.mk 8 0 0 0).nat=8:=by decide
theorem QA:(ab.mk 1 0 0 0).nat=1:=by decide
theorem lY:(ab.mk 0 0 0 0).nat=0:=by decide
theorem QD {p b m:Nat} (pr:Pr p) (h3:p=3*m+1) (hb0:0<b) (hb:b<p) (hm:Nat.blt m (2^256)=true) (hk:Nat.beq (pwm p (p-b) m) 1=false) (x:Int):¬(p:Int)∣x*x*x+b:=λhd=>by
 have h2:=pr.1
 rw [afW h2 hm] at hk
 obtain ⟨k,hk1⟩:=hd
 obtain ⟨j,hj⟩:=rk pr.pos x
 have hn:p∣nm p x*nm p x*nm p x+b:=Int.natCast_dvd_natCast.1 (by
  rw [Int.natCast_add,Int.natCast_mul,Int.natCast_mul]
  generalize ((nm p x:Nat):Int)=n at*
  exact ⟨k+j*(n*n+n*x+x*x),by grind⟩)
 generalize nm p x=n at*
 have hpn:¬p∣n:=λhd=>by
  have h1:p∣n*n*n:=Nat.dvd_trans hd (Nat.dvd_mul_left ..)
  have:=(Nat.dvd_add_right h1).1 hn
  have:=Nat.le_of_dvd hb0 this
  omega
 have hf:=Fy pr hpn
 have e:n^3%p=(p-b)%p:=by
  obtain ⟨c,hc⟩:=hn
  have hc0:c≠0:=λe=>by rw [e] at hc;omega
  obtain ⟨d,rfl⟩:∃ d,c=d+1:=⟨c-1,by omega⟩
  have:n^3=(p-b)+p*d:=by
   rw [show n^3=n*n*n by rw [Nat.pow_succ,Nat.pow_succ,Nat.pow_one]]
   rw [Nat.mul_succ] at hc
   omega
  rw [this,Nat.add_mul_mod_self_left]
 have:(p-b)^m%p=1:=by
  rw [Nat.pow_mod,<-e,<-Nat.pow_mod,<-Nat.pow_mul,show 3*m=p-1 by omega]
  exact hf
 rw [this] at hk
 cases hk
theorem aC {s:Int} (h:ac s=true):Cur (pS s) (bS s).nat:=by
 rcases cb h with rfl|rfl|rfl|rfl
 ·have e:pS 0=16513537:=by decide+kernel
  have e2:(bS 0).nat=23:=by decide+kernel
  rw [e,e2]
  exact ⟨yb,by decide,QD (m:=5504512) yb (by decide) (by decide) (by decide) (by decide+kernel) (by decide+kernel)⟩
 ·have e:pS 1=16521217:=by decide+kernel
  have e2:(bS 1).nat=21:=by decide+kernel
  rw [e,e2]
  exact ⟨ya,by decide,QD (m:=5507072) ya (by decide) (by decide) (by decide) (by decide+kernel) (by decide+kernel)⟩
 ·have e:pS 2=28948022309329048855892746252171976963363056481941560715954676764349967630337:=by decide+kernel
  have e2:(bS 2).nat=5:=by decide+kernel
  rw [e,e2]
  exact ⟨aP,by decide,QD (m:=9649340769776349618630915417390658987787685493980520238651558921449989210112) aP (by decide) (by decide) (by decide) (by decide+kernel) (by decide+kernel)⟩
 ·have e:pS 3=28948022309329048855892746252171976963363056481941647379679742748393362948097:=by decide+kernel
  have e2:(bS 3).nat=5:=by decide+kernel
  rw [e,e2]
  exact ⟨aO,by decide,QD (m:=9649340769776349618630915417390658987787685493980549126559914249464454316032) aO (by decide) (by decide) (by decide) (by decide+kernel) (by decide+kernel)⟩
end
section
open Sx Go
set_option maxRecDepth 100000
theorem gI (a n p:Nat):(a%p)^n%p=a^n%p:=(Nat.pow_mod a n p).symm
theorem aHw {p a b c d:Nat} (h1:a%p=c%p) (h2:b%p=d%p):a*b%p=c*d%p:=by rw [Nat.mul_mod,h1,h2,<-Nat.mul_mod]
theorem az7 {p t:Nat} (pr:Pr p) (ht:t<p) (h:t*t%p=1):t=1\/t=p-1:=by
 have h2:=pr.1
 have hd:(p:Int)∣((t:Int)-1)*((t:Int)+1):=by
  have e:=Nat.div_add_mod (t*t) p
  rw [h] at e
  refine ⟨((t*t/p:Nat):Int),?_⟩
  have e:((p*(t*t/p)+1:Nat):Int)=((t*t:Nat):Int):=congrArg (λn:Nat=>(n:Int)) e
  rw [Int.natCast_add,Int.natCast_mul,Int.natCast_mul] at e
  have e2:((t:Int)-1)*((t:Int)+1)=(t:Int)*t-1:=by grind
  rw [e2,<-e]
  omega
 rcases pr.eC hd with h|h
 ·left
  exact gi ht (by omega) h
 ·right
  refine gi ht (by omega) ?_
  obtain ⟨k,hk⟩:=h
  have:((p-1:Nat):Int)=(p:Int)-1:=by omega
  rw [this]
  exact ⟨k-1,by rw [Int.mul_sub];omega⟩
theorem aFN {p:Nat} (h2:2<=p):(p-1)*(p-1)%p=1:=by
 obtain ⟨q,rfl⟩:∃ q,p=q+2:=⟨p-2,by omega⟩
 have:(q+2-1)*(q+2-1)=1+(q+2)*q:=by
  rw [show q+2-1=q+1 by omega]
  grind
 rw [this,Nat.add_mul_mod_self_left]
 exact bm (by omega)
section
variable {p:Nat}
theorem wR (hp:Sm p) (a b:ab):(aR p a b).nat=a.nat*b.nat%p:=cr hp
theorem jL (hp:Sm p) (h2:2<=p) (a k:ab):(ln p a k).nat=a.nat^k.nat%p:=by
 rw [aEa (by omega)]
 exact cr hp
theorem aCW (hp:Sm p) {b:ab} (hb:b.nat<p):∀ n,(sqN p b n).nat=b.nat^2^n%p
 |0=>by
  show b.nat=_
  rw [Nat.pow_zero,Nat.pow_one,bm hb]
 |n+1=>by
  show (aR p (sqN p b n) (sqN p b n)).nat=_
  rw [wR hp,aCW hp hb n,<-Nat.mul_mod,<-Nat.pow_add,<-Nat.two_mul,<-Nat.pow_succ']
theorem zu (t:ab):eqE t kk=Nat.beq t.nat 1:=by rw [asy];rfl
theorem yo {a b:Nat} (h:Nat.beq a b=false):a≠b:=λe=>by rw [e,Nat.beq_refl] at h;cases h
structure azE (p a i:Nat) (w:Ton):Prop where
 x:w.1.nat<p
 b:w.2.1.nat<p
 z:w.2.2.nat<p
 sq:w.1.nat*w.1.nat%p=a*w.2.1.nat%p
 one:w.2.1.nat^2^i%p=1
 neg:w.2.2.nat^2^i%p=p-1
theorem akQ (b i:Nat):b^2^(i+1)=b^2^i*b^2^i:=by rw [<-Nat.pow_add,<-Nat.two_mul,<-Nat.pow_succ']
theorem aoX (z i:Nat) (p:Nat):(z*z%p)^2^i%p=z^2^(i+1)%p:=by rw [gI,<-Nat.pow_two,<-Nat.pow_mul,<-Nat.pow_succ']
theorem Wx (pr:Pr p) {b i:Nat} (h:b^2^(i+1)%p=1):b^2^i%p=1\/b^2^i%p=p-1:=by
 rw [akQ,Nat.mul_mod] at h
 exact az7 pr (Nat.mod_lt _ pr.pos) h
theorem aow (hp:Sm p) (pr:Pr p) {a i:Nat} {x b z u:ab} (hx:x.nat*x.nat%p=a*b.nat%p) (hb:b.nat^2^i%p=p-1) (hu:u.nat*u.nat%p=z.nat%p) (hz:z.nat^2^i%p=p-1):
 (aR p x u).nat*(aR p x u).nat%p=a*(aR p b z).nat%p/\(aR p b z).nat^2^i%p=1:=by
 constructor
 ·rw [wR hp,wR hp,<-Nat.mul_mod,Nat.mul_mod_mod,show x.nat*u.nat*(x.nat*u.nat)=x.nat*x.nat*(u.nat*u.nat) by ac_rfl,show a*(b.nat*z.nat)=a*b.nat*z.nat from (Nat.mul_assoc ..).symm]
  exact aHw hx hu
 ·rw [wR hp,gI,Nat.mul_pow,Nat.mul_mod,hb,hz]
  exact aFN pr.1
theorem akn (hp:Sm p) (pr:Pr p) {a m k:Nat} {w:Ton} (hk:k<m) (h:azE p a (m-k) w):azE p a (m-(k+1)) (PP p m k w):=by
 obtain ⟨x,b,z⟩:=w
 have e:m-k=(m-(k+1))+1:=by omega
 rw [e] at h
 obtain ⟨hx,hb,hz,h1,h2,h3⟩:=h
 dsimp only at*
 have ht:=aCW hp hb (m-(k+1))
 have hz2:(aR p z z).nat^2^(m-(k+1))%p=p-1:=by rw [wR hp,aoX];exact h3
 unfold PP
 dsimp only
 rw [show m-k-1=m-(k+1) by omega,zu]
 cases hq:Nat.beq (sqN p b (m-(k+1))).nat 1
 ·simp only [aT]
  have hn:=yo hq
  rw [ht] at hn
  have hb1:=(Wx pr h2).resolve_left hn
  obtain ⟨g1,g2⟩:=aow hp pr (u:=z) h1 hb1 (by rw [wR hp,Nat.mod_mod]) hz2
  exact ⟨jY hp _ _,jY hp _ _,jY hp _ _,g1,g2,hz2⟩
 ·simp only [aK]
  have hb1:=aY hq
  rw [ht] at hb1
  exact ⟨hx,hb,jY hp _ _,h1,hb1,hz2⟩
theorem aCv (hp:Sm p) (pr:Pr p) {a m:Nat} {w:Ton} (h:azE p a m w):(aEX p m w).1.nat<p/\(aEX p m w).1.nat*(aEX p m w).1.nat%p=a%p:=by
 have key:∀ n,n<=m->azE p a (m-n) (upto (PP p m) w n):=by
  intro n
  induction n with
  |zero=>intro _;exact h
  |succ n ih=>intro hn;exact akn hp pr (by omega) (ih (by omega))
 have hk:=key m (Nat.le_refl _)
 rw [Nat.sub_self] at hk
 obtain ⟨hx,hb,hz,h1,h2,h3⟩:=hk
 refine ⟨hx,?_⟩
 rw [Nat.pow_zero,Nat.pow_one,bm hb] at h2
 rw [h2,Nat.mul_one] at h1
 exact h1
end
def GB (s:Int):ab:=jp (m5 (numOf s.toNat).1 kk).1 (numOf s.toNat).2.1.toNat
def adS (s:Int):Nat:=(numOf s.toNat).2.1.toNat
structure aiC (s:Int):Prop where
 od:(GB s).nat*2^adS s=pS s-1
 up:2*(iB (Tb (GB s) kk).1).nat=(GB s).nat+1
 hf:(iB (m5 (numOf s.toNat).1 kk).1).nat=(pS s-1)/2
 ad:1<=adS s
 ai:(numOf s.toNat).2.1=(adS s:Int)
 nr:pwm (pS s) 5 ((pS s-1)/2)=pS s-1
 pr:Pr (pS s)
 sm:Sm (pS s)
 o2:pS s%2=1
theorem HV {s:Int} (hs:ac s=true):aiC s:=by
 have pr:=(aC hs).pr
 have sm:Sm (pS s):=eK hs
 rcases cb hs with rfl|rfl|rfl|rfl<;>
  exact ⟨by decide+kernel,by decide+kernel,by decide+kernel,by decide+kernel,by decide+kernel,by decide+kernel,pr,sm,by decide+kernel⟩
section
variable {s:Int} (k:aiC s)
include k
theorem apB (a:Nat):(a^(GB s).nat)^2^(adS s-1)=a^((pS s-1)/2):=by
 rw [<-Nat.pow_mul]
 congr 1
 have h:=k.od
 have ha:=k.ad
 obtain ⟨n,hn⟩:∃ n,adS s=n+1:=⟨adS s-1,by omega⟩
 rw [hn] at h⊢
 rw [Nat.pow_succ,<-Nat.mul_assoc] at h
 rw [show n+1-1=n by omega]
 omega
theorem ahh:(5^(GB s).nat)^2^(adS s-1)%pS s=pS s-1:=by
 rw [apB k]
 have h:=k.nr
 have hp:=k.sm
 rw [afW k.pr.1 (jR (by have:=hp.2;omega))] at h
 exact h
omit k in
theorem ahi:(ab.mk 5 0 0 0).nat=5:=by decide
theorem apa {a:ab} (he:a.nat^((pS s-1)/2)%pS s=1):(Md s a).nat<pS s/\(Md s a).nat*(Md s a).nat%pS s=a.nat%pS s:=by
 have hp:=k.sm
 have pr:=k.pr
 have e:Md s a=(aEX (pS s) (adS s-1) (ln (pS s) a (iB (Tb (GB s) kk).1),ln (pS s) a (GB s),ln (pS s) ⟨5,0,0,0⟩ (GB s))).1:=by
  show (aEX (pS s) ((numOf s.toNat).2.1-1).toNat _).1=_
  rw [k.ai,show ((adS s:Int)-1).toNat=adS s-1 by omega]
  rfl
 rw [e]
 refine aCv hp pr (a:=a.nat) ⟨?_,?_,?_,?_,?_,?_⟩
 ·rw [jL hp pr.1];exact Nat.mod_lt _ pr.pos
 ·rw [jL hp pr.1];exact Nat.mod_lt _ pr.pos
 ·rw [jL hp pr.1];exact Nat.mod_lt _ pr.pos
 ·show (ln (pS s) a (iB (Tb (GB s) kk).1)).nat*(ln (pS s) a (iB (Tb (GB s) kk).1)).nat%pS s=a.nat*(ln (pS s) a (GB s)).nat%pS s
  rw [jL hp pr.1,jL hp pr.1,<-Nat.mul_mod,Nat.mul_mod_mod,<-Nat.pow_add,<-Nat.two_mul,k.up,Nat.pow_succ,Nat.mul_comm]
 ·show (ln (pS s) a (GB s)).nat^_%pS s=1
  rw [jL hp pr.1,gI,apB k]
  exact he
 ·show (ln (pS s) ⟨5,0,0,0⟩ (GB s)).nat^_%pS s=pS s-1
  rw [jL hp pr.1,gI,ahi]
  exact ahh k
end
theorem adf {p:Nat} (hp:Sm p) (ho:p%2=1) {x:ab} (hx:x.nat<p):(zt p x).nat<p/\(zt p x).nat%2=0/\(zt p x).nat*(zt p x).nat%p=x.nat*x.nat%p:=by
 have hb:(x.w0%2==1)=Nat.beq (x.nat%2) 1:=by
  have e:x.nat%2=x.w0.toNat%2:=by unfold Sx.ab.nat;omega
  rw [e]
  have h2:(x.w0%2).toNat=x.w0.toNat%2:=by rw [UInt64.toNat_mod];rfl
  rw [<-h2]
  by_cases h:x.w0%2=1
  ·rw [h];rfl
  ·have hn:¬(x.w0%2).toNat=1:=λe=>h (UInt64.toNat_inj.1 e)
   have:Nat.beq (x.w0%2).toNat 1=false:=by
    cases hb:Nat.beq (x.w0%2).toNat 1
    ·rfl
    ·exact absurd (aY hb) hn
   rw [this]
   simpa using h
 unfold zt
 rw [hb]
 cases hq:Nat.beq (x.nat%2) 1
 ·simp only [aT]
  have:=yo hq
  exact ⟨hx,by omega,trivial⟩
 ·simp only [aK]
  have h1:=aY hq
  have e:(kW p x).nat=p-x.nat:=by
   rw [show (kW p x).nat=(p-x.nat%p)%p from cr hp,bm hx,bm (by omega)]
  rw [e]
  refine ⟨by omega,by omega,?_⟩
  obtain ⟨d,hd⟩:∃ d,p=x.nat+d:=⟨p-x.nat,by omega⟩
  have e2:p-x.nat=d:=by omega
  rw [e2]
  have e3:d*d+p*x.nat=x.nat*x.nat+p*d:=by rw [hd];grind
  have:=congrArg (· %p) e3
  simp only [Nat.add_mul_mod_self_left] at this
  exact this
theorem KD {p:Nat} (pr:Pr p) (ho:p%2=1) {x y:Nat} (hx:x<p) (hy:y<p) (ex:x%2=0) (ey:y%2=0) (h:x*x%p=y*y%p):x=y:=by
 have hd:(p:Int)∣((x:Int)-y)*((x:Int)+y):=by
  obtain ⟨a,ha⟩:=avp (p:=p) (x*x)
  obtain ⟨b,hb⟩:=avp (p:=p) (y*y)
  rw [h] at ha
  rw [Int.natCast_mul] at ha hb
  generalize (((y*y%p):Nat):Int)=r at*
  exact ⟨b-a,by grind⟩
 rcases pr.eC hd with h|h
 ·exact gi hx hy h
 ·have h:(p:Int)∣((x+y:Nat):Int):=by rw [Int.natCast_add];exact h
  have h:=Int.natCast_dvd_natCast.1 h
  obtain ⟨c,hc⟩:=h
  have hc2:c<2:=by
   apply lz
   intro h2
   have:=Nat.mul_le_mul_left p (show 2<=c by omega)
   omega
  rcases (show c=0\/c=1 by omega) with rfl|rfl<;>omega
def kF (p:Nat):Nat->ab->Nat->Nat
 |0,_,k=>k
 |n+1,s,k=>cond (eqE s kk) k (kF p n (aR p s s) (k+1))
def tsB (p m k:Nat) (w:Ton):ab:=sqN p w.2.2 (m-k-1)
def tsW (p m k:Nat) (w:Ton):Ton:=(aR p w.1 (tsB p m k w),aR p w.2.1 (aR p (tsB p m k w) (tsB p m k w)),aR p (tsB p m k w) (tsB p m k w))
def tsF (p:Nat):Nat->Nat->Ton->Option ab
 |0,_,_=>none
 |f+1,m,w=>cond (eqE w.2.1 kk) (some w.1) (cond (Nat.beq (kF p m w.2.1 0) m) none (tsF p f (kF p m w.2.1 0) (tsW p m (kF p m w.2.1 0) w)))
section
variable {p:Nat}
theorem abM (hp:Sm p):∀ (n:Nat) (s:ab) (k:Nat),s.nat<p->k<=kF p n s k/\kF p n s k<=k+n/\(kF p n s k<k+n->s.nat^2^(kF p n s k-k)%p=1)/\∀ j,k<=j->j<kF p n s k->s.nat^2^(j-k)%p≠1
 |0,s,k,_=>⟨Nat.le_refl _,Nat.le_refl _,λh=>absurd h (Nat.lt_irrefl _),λj h1 h2=>absurd h2 (by show ¬j<k;omega)⟩
 |n+1,s,k,hs=>by
  unfold kF
  rw [zu]
  cases hq:Nat.beq s.nat 1
  ·simp only [aT]
   obtain ⟨h1,h2,h3,h4⟩:=abM hp n (aR p s s) (k+1) (jY hp _ _)
   have e:∀ j,(aR p s s).nat^2^j%p=s.nat^2^(j+1)%p:=λj=>by rw [wR hp,aoX]
   refine ⟨by omega,by omega,λh=> ?_,λj hj1 hj2=> ?_⟩
   ·have:=h3 (by omega)
    rw [e] at this
    rw [show kF p n (aR p s s) (k+1)-k=kF p n (aR p s s) (k+1)-(k+1)+1 by omega]
    exact this
   ·by_cases hj:j=k
    ·subst hj
     rw [Nat.sub_self,Nat.pow_zero,Nat.pow_one,bm hs]
     exact yo hq
    ·have:=h4 j (by omega) hj2
     rw [e] at this
     rw [show j-k=j-(k+1)+1 by omega]
     exact this
  ·simp only [aK]
   have h1:=aY hq
   refine ⟨Nat.le_refl _,by omega,λ_=> ?_,λj hj1 hj2=>by omega⟩
   rw [Nat.sub_self,Nat.pow_zero,Nat.pow_one,bm hs]
   exact h1
structure aGD (p a m:Nat) (w:Ton):Prop where
 x:w.1.nat<p
 t:w.2.1.nat<p
 z:w.2.2.nat<p
 sq:w.1.nat*w.1.nat%p=a*w.2.1.nat%p
 m1:1<=m
 neg:w.2.2.nat^2^(m-1)%p=p-1
theorem aCs (hp:Sm p) (pr:Pr p) {a m k:Nat} {w:Ton} (h:aGD p a m w) (hk0:1<=k) (hk:k<m) (h1:w.2.1.nat^2^k%p=1) (h2:w.2.1.nat^2^(k-1)%p≠1):
 aGD p a k (tsW p m k w)/\(tsW p m k w).2.1.nat^2^(k-1)%p=1:=by
 have hb:=aCW hp h.z (m-k-1)
 have hz':(aR p (tsB p m k w) (tsB p m k w)).nat^2^(k-1)%p=p-1:=by
  rw [wR hp,aoX]
  show (sqN p w.2.2 (m-k-1)).nat^_%p=_
  rw [hb,gI,<-Nat.pow_mul,<-Nat.pow_add,show m-k-1+(k-1+1)=m-1 by omega]
  exact h.neg
 have ht:w.2.1.nat^2^(k-1)%p=p-1:=by
  have e:k=(k-1)+1:=by omega
  rw [e] at h1
  exact (Wx pr h1).resolve_left h2
 obtain ⟨g1,g2⟩:=aow hp pr (u:=tsB p m k w) (z:=aR p (tsB p m k w) (tsB p m k w)) h.sq ht (by rw [wR hp,Nat.mod_mod]) hz'
 exact ⟨⟨jY hp _ _,jY hp _ _,jY hp _ _,g1,hk0,hz'⟩,g2⟩
theorem aoq (hp:Sm p) (pr:Pr p) {a:Nat}:∀ (f m:Nat) (w:Ton),m<f->aGD p a m w->w.2.1.nat^2^(m-1)%p=1->∃ x,tsF p f m w=some x/\x.nat<p/\x.nat*x.nat%p=a%p
 |0,m,w,h,_,_=>absurd h (Nat.not_lt_zero _)
 |f+1,m,w,hf,h,hr=>by
  unfold tsF
  rw [zu]
  cases hq:Nat.beq w.2.1.nat 1
  ·simp only [aT]
   obtain ⟨k1,k2,k3,k4⟩:=abM hp m w.2.1 0 h.t
   have m1:=h.m1
   have hk:kF p m w.2.1 0<m:=by
    apply lz
    intro hn
    exact k4 (m-1) (by omega) (by omega) hr
   have hk0:1<=kF p m w.2.1 0:=by
    apply lz
    intro hn
    have e:kF p m w.2.1 0=0:=by omega
    have:=k3 (by omega)
    rw [e,Nat.sub_self,Nat.pow_zero,Nat.pow_one,bm h.t] at this
    exact yo hq this
   have e1:=k3 (by omega)
   have e2:=k4 (kF p m w.2.1 0-1) (by omega) (by omega)
   rw [Nat.sub_zero] at e1 e2
   have hb:Nat.beq (kF p m w.2.1 0) m=false:=by
    cases hb:Nat.beq (kF p m w.2.1 0) m
    ·rfl
    ·have:=aY hb;omega
   rw [hb]
   obtain ⟨g1,g2⟩:=aCs hp pr h hk0 hk e1 e2
   exact aoq hp pr f _ _ (by omega) g1 g2
  ·simp only [aK]
   have h1:=aY hq
   have:=h.sq
   rw [h1,Nat.mul_one] at this
   exact ⟨w.1,rfl,h.x,this⟩
theorem aCu (hp:Sm p) (pr:Pr p) (h3:3<=p) {a f m:Nat} {w:Ton} (h:aGD p a m w) (hr:w.2.1.nat^2^(m-1)%p=p-1):tsF p f m w=none:=by
 cases f with
 |zero=>rfl
 |succ f=>
  unfold tsF
  rw [zu]
  have m1:=h.m1
  have up:∀ j,j<=m-1->w.2.1.nat^2^j%p≠1:=λj hj e=>by
   have:w.2.1.nat^2^(m-1)%p=1:=by
    rw [show m-1=j+(m-1-j) by omega,Nat.pow_add,Nat.pow_mul,Nat.pow_mod,e,Nat.one_pow,bm (by omega)]
   omega
  have hq:Nat.beq w.2.1.nat 1=false:=by
   cases hq:Nat.beq w.2.1.nat 1
   ·rfl
   ·have:=up 0 (by omega)
    rw [Nat.pow_zero,Nat.pow_one,bm h.t] at this
    exact absurd (aY hq) this
  rw [hq]
  obtain ⟨k1,k2,k3,k4⟩:=abM hp m w.2.1 0 h.t
  have e:kF p m w.2.1 0=m:=by
   apply lz
   intro hn
   have:=k3 (by omega)
   rw [Nat.sub_zero] at this
   exact up _ (by omega) this
  rw [e,Nat.beq_refl]
  rfl
end
section
variable {s:Int} (k:aiC s)
include k
def gh (s:Int) (a:ab):Ton:=(ln (pS s) a (iB (Tb (GB s) kk).1),ln (pS s) a (GB s),ln (pS s) ⟨5,0,0,0⟩ (GB s))
theorem akj (a:ab):aGD (pS s) a.nat (adS s) (gh s a):=by
 have hp:=k.sm
 have pr:=k.pr
 refine ⟨?_,?_,?_,?_,k.ad,?_⟩
 ·show (ln (pS s) a _).nat<_
  rw [jL hp pr.1];exact Nat.mod_lt _ pr.pos
 ·show (ln (pS s) a _).nat<_
  rw [jL hp pr.1];exact Nat.mod_lt _ pr.pos
 ·show (ln (pS s) _ _).nat<_
  rw [jL hp pr.1];exact Nat.mod_lt _ pr.pos
 ·show (ln (pS s) a (iB (Tb (GB s) kk).1)).nat*(ln (pS s) a (iB (Tb (GB s) kk).1)).nat%pS s=a.nat*(ln (pS s) a (GB s)).nat%pS s
  rw [jL hp pr.1,jL hp pr.1,<-Nat.mul_mod,Nat.mul_mod_mod,<-Nat.pow_add,<-Nat.two_mul,k.up,Nat.pow_succ,Nat.mul_comm]
 ·show (ln (pS s) ⟨5,0,0,0⟩ (GB s)).nat^_%pS s=pS s-1
  rw [jL hp pr.1,gI,ahi]
  exact ahh k
theorem ZW (a:ab):(gh s a).2.1.nat^2^(adS s-1)%pS s=a.nat^((pS s-1)/2)%pS s:=by
 show (ln (pS s) a (GB s)).nat^_%pS s=_
 rw [jL k.sm k.pr.1,gI,apB k]
theorem asw {a:Nat} (ha:¬pS s∣a):a^((pS s-1)/2)%pS s=1\/a^((pS s-1)/2)%pS s=pS s-1:=by
 have hf:=Fy k.pr ha
 have ho:=k.o2
 have h2:=k.pr.1
 have e:pS s-1=(pS s-1)/2+(pS s-1)/2:=by omega
 rw [e,Nat.pow_add,Nat.mul_mod] at hf
 exact az7 k.pr (Nat.mod_lt _ k.pr.pos) hf
theorem aCt {a:ab} (ha:a.nat<pS s) (hz:bB a=false):(tsF (pS s) (adS s+1) (adS s) (gh s a)).map (zt (pS s))=
 cond (eqE (ln (pS s) a (iB (m5 (numOf s.toNat).1 kk).1)) kk) (some (zt (pS s) (Md s a))) none:=by
 have hp:=k.sm
 have pr:=k.pr
 have h2:=pr.1
 have ho:=k.o2
 have h0:=akj k a
 have hpw:=ZW k a
 rw [zu,jL hp h2,k.hf]
 have hn:¬pS s∣a.nat:=λhd=>by
  have:=Nat.eq_zero_of_dvd_of_lt hd ha
  rw [dF,this] at hz
  cases hz
 rcases asw k hn with h|h
 ·rw [h]
  obtain ⟨x,e1,e2,e3⟩:=aoq hp pr (adS s+1) (adS s) _ (by omega) h0 (by rw [hpw];exact h)
  rw [e1]
  obtain ⟨r1,r2⟩:=apa k h
  obtain ⟨v1,v2,v3⟩:=adf hp ho e2
  obtain ⟨w1,w2,w3⟩:=adf hp ho r1
  show some _=some _
  rw [gF (KD pr ho v1 w1 v2 w2 (by rw [v3,w3,e3,r2]))]
 ·have h3:3<=pS s:=by omega
  rw [aCu hp pr h3 h0 (by rw [hpw];exact h),h]
  have:Nat.beq (pS s-1) 1=false:=by
   cases hb:Nat.beq (pS s-1) 1
   ·rfl
   ·have:=aY hb;omega
  rw [this]
  rfl
end
theorem zero_eq {e:ab} (h:bB e=true):e=⟨0,0,0,0⟩:=gF (by rw [dF] at h;rw [aY h];exact lY.symm)
def sqA (s:Int) (x:ab):ab:=ofP (pS s) (F5 (pS s) x (bS s))
def sqB (s:Int) (x:ab):Bool:=eqE (ln (pS s) (sqA s x) (iB (m5 (numOf s.toNat).1 kk).1)) kk
def sqY (s:Int) (x:ab):ab:=zt (pS s) (Md s (sqA s x))
def ptD (s:Int) (x:ab) (odd:Bool):Pt:=(x,cond odd (kW (pS s) (sqY s x)) (sqY s x),false)
theorem aFv {s:Int} (hs:ac s=true) (x:ab):(sqA s x).nat<pS s/\((pS s:Nat):Int)∣((sqA s x).nat:Int)-((x.nat:Int)*x.nat*x.nat+(bS s).nat):=by
 have hp:Sm (pS s):=eK hs
 have e:(sqA s x).nat=(F5 (pS s) x (bS s)).nat%pS s:=cr hp
 have hlt:(F5 (pS s) x (bS s)).nat<pS s:=zT hp _ _
 rw [e,bm hlt]
 refine ⟨hlt,?_⟩
 have c2:=cf hp x x
 have c3:=cf hp (aR (pS s) x x) x
 have c4:=Yz hp (aR (pS s) (aR (pS s) x x) x) (bS s)
 unfold F5
 generalize aR (pS s) (aR (pS s) x x) x=xxx at*
 generalize aR (pS s) x x=xx at*
 generalize dr (pS s) xxx (bS s)=z at*
 have:(z.nat:Int)-((x.nat:Int)*x.nat*x.nat+(bS s).nat)=((z.nat:Int)-(xxx.nat+(bS s).nat))+(((xxx.nat:Int)-xx.nat*x.nat)+(((xx.nat:Int)-x.nat*x.nat)*x.nat)):=by grind
 rw [this]
 exact Int.dvd_add c4 (Int.dvd_add c3 (Int.dvd_trans c2 (Int.dvd_mul_right ..)))
theorem aoY {s:Int} (hs:ac s=true) (x:ab):bB (sqA s x)=false:=by
 have h:=(aFv hs x).2
 cases hz:bB (sqA s x)
 ·rfl
 ·exfalso
  rw [dF] at hz
  rw [aY hz] at h
  obtain ⟨k,hk⟩:=h
  exact (aC hs).n2 (x.nat:Int) ⟨-k,by rw [Int.mul_neg,<-hk];simp⟩
theorem afH {s:Int} (hs:ac s=true):sqB s ⟨0,0,0,0⟩=false:=by
 rcases cb hs with rfl|rfl|rfl|rfl<;>decide+kernel
theorem aFt {s:Int} (hs:ac s=true) {x:ab} (h:sqB s x=true):(sqY s x).nat<pS s/\(sqY s x).nat%2=0/\(sqY s x).nat*(sqY s x).nat%pS s=(sqA s x).nat%pS s:=by
 have k:=HV hs
 unfold sqB at h
 rw [zu,jL k.sm k.pr.1,k.hf] at h
 obtain ⟨r1,r2⟩:=apa k (aY h)
 obtain ⟨e1,e2,e3⟩:=adf k.sm k.o2 r1
 exact ⟨e1,e2,e3.trans r2⟩
section
variable {s:Int} (hs:ac s=true)
include hs
theorem aAl {X Y:ab}:onB s (X,Y,false)=true ↔ X.nat<pS s/\Y.nat<pS s/\Y.nat*Y.nat%pS s=(sqA s X).nat:=by
 have hp:Sm (pS s):=eK hs
 have e1:(sqA s X).nat=(F5 (pS s) X (bS s)).nat:=by
  show (ofN _).nat=_
  rw [cr hp]
  exact bm (zT hp _ _)
 rw [e1,<-wR hp]
 unfold onB
 rw [hs]
 simp only [aK,aT]
 rw [asy]
 generalize (F5 (pS s) X (bS s)).nat=A
 generalize (aR (pS s) Y Y).nat=M
 have b1:Nat.blt X.nat (pS s)=true ↔ X.nat<pS s:=⟨λh=>Nat.le_of_ble_eq_true h,λh=>jR h⟩
 have b2:Nat.blt Y.nat (pS s)=true ↔ Y.nat<pS s:=⟨λh=>Nat.le_of_ble_eq_true h,λh=>jR h⟩
 rw [<-b1,<-b2]
 generalize Nat.blt X.nat (pS s)=x
 generalize Nat.blt Y.nat (pS s)=y
 have b3:Nat.beq M A=true ↔ M=A:=⟨aY,λe=>by rw [e,Nat.beq_refl]⟩
 rw [<-b3]
 generalize Nat.beq M A=z
 cases x<;>cases y<;>cases z<;>simp
theorem aFO {y:ab} (hy:y.nat<pS s) (h0:y.nat≠0):(kW (pS s) y).nat=pS s-y.nat:=by
 have hp:Sm (pS s):=eK hs
 rw [show (kW (pS s) y).nat=(pS s-y.nat%pS s)%pS s from cr hp,bm hy,bm (by omega)]
omit hs in
theorem ald {p y:Nat} (hy:y<p):(p-y)*(p-y)%p=y*y%p:=by
 obtain ⟨d,hd⟩:∃ d,p=y+d:=⟨p-y,by omega⟩
 have e2:p-y=d:=by omega
 rw [e2]
 have e3:d*d+p*y=y*y+p*d:=by rw [hd];grind
 have:=congrArg (· %p) e3
 simp only [Nat.add_mul_mod_self_left] at this
 exact this
theorem awB (x:ab):(sqA s x).nat≠0:=λh=>by
 have:=aoY hs x
 rw [dF,h] at this
 cases this
end
def tu:af:=⟨[aD,du],[],true,0,false⟩
abbrev WE:Type:=aij
def ax8:Shape:=⟨126,[ej,jP,FO,(12,gn),Co,(16,Cm),zZ],auw,0,true⟩
abbrev bJ:Type:=(Unit×LD)×ap×MF×oY
def ax7:Shape:=⟨126,[ej,jP,FO,(12,gn),Co,(16,Cm),zZ,(18,aD),(19,FP)],auu,0,true⟩
abbrev cx:Type:=(Unit×Unit×Unit×Unit×Unit×Unit×Int×Int×b8)×auj
def oE:Shape:=⟨126,[ej,jP,FO,(12,gn),Co,(16,Cm),zZ,(18,aD)],auw,0,true⟩
abbrev fM:Type:=(Unit×YD)×ap×MF×oY
def aye (a17:Int) (a18:Int) (c0:ap) (c1_0:UInt64) (c1_1:UInt64) (c1_2:UInt64) (c1_3:UInt64) (c1_4:Int) (c1_5:UInt64) (c1_6:UInt64) (c1_7:UInt64) (c1_8:UInt64) (c1_9:UInt64) (c1_10:UInt64) (c2:ap) (c3:ap) (c4:ap) (c5:ap) (c6:ap):OT (Sum cx aZ):=
 let z0:Nat:=List.length c6
 let z1:Bool:=decide (4<=z0)
 let z2:UInt64:=List.getD c6 0 0
 let z3:UInt64:=List.getD c6 1 0
 let z4:UInt64:=List.getD c6 2 0
 let z5:UInt64:=List.getD c6 3 0
 let z6:ab:= {w0:=c1_0,w1:=c1_1,w2:=c1_2,w3:=c1_3}
 let z7:ab:= {w0:=z2,w1:=z3,w2:=z4,w3:=z5}
 let z8:ab:=aR (ab.nat z6) z7 z7
 let z9:ap:=List.set (List.set (List.set (List.set c6 0 z8.w0) 1 z8.w1) 2 z8.w2) 3 z8.w3
 (gd [z1,decide (4<=List.length c2)] (.br (!(z2==List.getD c2 0 0&&(z3==List.getD c2 1 0&&(z4==List.getD c2 2 0&&(z5==List.getD c2 3 0&&true)))))
 (.br (decide (a18<a17))
  (gd [z1,z1,gO (((z6,c1_4,c1_5,c1_6,{w0:=c1_7,w1:=c1_8,w2:=c1_9,w3:=c1_10}),z7,z7,()),()),decide ((4/1:Nat)+0<=z0),decide (4<=List.length z9),inR (a18+(1:Int))] (.ok (.inl (((),(),(),(),(),(),a17,a18+(1:Int),(),()),c0,(c1_0,c1_1,c1_2,c1_3,c1_4,c1_5,c1_6,c1_7,c1_8,c1_9,c1_10,()),c2,c3,c4,c5,[List.getD z9 0 0,List.getD z9 1 0,List.getD z9 2 0,List.getD z9 3 0],()))))
  (.ok (.inr ⟨(.exit 2,oE),(((),(),(),(),(),(),a17,a18,()),c0,(c1_0,c1_1,c1_2,c1_3,c1_4,c1_5,c1_6,c1_7,c1_8,c1_9,c1_10,()),c2,c3,c4,c5,())⟩)))
 (.ok (.inr ⟨(.exit 2,oE),(((),(),(),(),(),(),a17,a18,()),c0,(c1_0,c1_1,c1_2,c1_3,c1_4,c1_5,c1_6,c1_7,c1_8,c1_9,c1_10,()),c2,c3,c4,c5,())⟩))))
def GV (s:cx):OT (Sum cx aZ):=aye s.1.2.2.2.2.2.2.1 s.1.2.2.2.2.2.2.2.1 s.2.1 s.2.2.1.1 s.2.2.1.2.1 s.2.2.1.2.2.1 s.2.2.1.2.2.2.1 s.2.2.1.2.2.2.2.1 s.2.2.1.2.2.2.2.2.1 s.2.2.1.2.2.2.2.2.2.1 s.2.2.1.2.2.2.2.2.2.2.1 s.2.2.1.2.2.2.2.2.2.2.2.1 s.2.2.1.2.2.2.2.2.2.2.2.2.1 s.2.2.1.2.2.2.2.2.2.2.2.2.2.1 s.2.2.2.1 s.2.2.2.2.1 s.2.2.2.2.2.1 s.2.2.2.2.2.2.1 s.2.2.2.2.2.2.2.1
def ag5 (g2_2:cx->fM) (s:cx):OT aZ:=(.ok ⟨(.exit 2,oE),g2_2 s⟩)
def ax6:Shape:=⟨126,[ej,jP,FO,(12,gn),Co,(16,Cm),(18,aD),(20,FP),(97,aD),(98,aD)],auu,0,true⟩
abbrev cw:Type:=(Unit×Unit×Unit×Unit×Unit×Unit×Int×Unit×jM)×auj
def vE:Shape:=⟨126,[ej,jP,FO,(12,gn),Co,(16,Cm),(18,aD),(20,FP)],auu,0,true⟩
abbrev fL:Type:=(Unit×Unit×Unit×Unit×Unit×Unit×Int×b8)×auj
def ayd (a18:Int) (a97:Int) (a98:Int) (c0:ap) (c1_0:UInt64) (c1_1:UInt64) (c1_2:UInt64) (c1_3:UInt64) (c1_4:Int) (c1_5:UInt64) (c1_6:UInt64) (c1_7:UInt64) (c1_8:UInt64) (c1_9:UInt64) (c1_10:UInt64) (c2:ap) (c3:ap) (c4:ap) (c5:ap) (c6:ap):OT (Sum cw aZ):=
 let z0:Nat:=List.length c6
 let z1:Bool:=decide (4<=z0)
 let z2:ab:= {w0:=c1_0,w1:=c1_1,w2:=c1_2,w3:=c1_3}
 let z3:ab:= {w0:=List.getD c6 0 0,w1:=List.getD c6 1 0,w2:=List.getD c6 2 0,w3:=List.getD c6 3 0}
 let z4:ab:=aR (ab.nat z2) z3 z3
 (.br (decide (a98<a97))
 (gd [z1,z1,gO (((z2,c1_4,c1_5,c1_6,{w0:=c1_7,w1:=c1_8,w2:=c1_9,w3:=c1_10}),z3,z3,()),()),decide ((4/1:Nat)+0<=z0),inR (a98+(1:Int))] (.ok (.inl (((),(),(),(),(),(),a18,(),a97,a98+(1:Int),()),c0,(c1_0,c1_1,c1_2,c1_3,c1_4,c1_5,c1_6,c1_7,c1_8,c1_9,c1_10,()),c2,c3,c4,c5,List.set (List.set (List.set (List.set c6 0 z4.w0) 1 z4.w1) 2 z4.w2) 3 z4.w3,()))))
 (.ok (.inr ⟨(.exit 4,vE),(((),(),(),(),(),(),a18,(),()),c0,(c1_0,c1_1,c1_2,c1_3,c1_4,c1_5,c1_6,c1_7,c1_8,c1_9,c1_10,()),c2,c3,c4,c5,c6,())⟩)))
def GU (s:cw):OT (Sum cw aZ):=ayd s.1.2.2.2.2.2.2.1 s.1.2.2.2.2.2.2.2.2.1 s.1.2.2.2.2.2.2.2.2.2.1 s.2.1 s.2.2.1.1 s.2.2.1.2.1 s.2.2.1.2.2.1 s.2.2.1.2.2.2.1 s.2.2.1.2.2.2.2.1 s.2.2.1.2.2.2.2.2.1 s.2.2.1.2.2.2.2.2.2.1 s.2.2.1.2.2.2.2.2.2.2.1 s.2.2.1.2.2.2.2.2.2.2.2.1 s.2.2.1.2.2.2.2.2.2.2.2.2.1 s.2.2.1.2.2.2.2.2.2.2.2.2.2.1 s.2.2.2.1 s.2.2.2.2.1 s.2.2.2.2.2.1 s.2.2.2.2.2.2.1 s.2.2.2.2.2.2.2.1
def ag4 (g4_4:cw->fL) (s:cw):OT aZ:=(.ok ⟨(.exit 4,vE),g4_4 s⟩)
def l9:Shape:=⟨126,[ej,(5,aD)],[iE],0,true⟩
abbrev j4:Type:=ru×ul
def oF:Shape:=⟨126,[ej,jP,(16,fV)],[iE,(1,OX),lx],0,true⟩
abbrev mF:Type:=nO×ap×MF×ul
def RD (ok2:cx->Bool) (g2_2:cx->fM) (ok4:cw->Bool) (g4_4:cw->fL) (a17:Int) (c0:ap) (c1_0:UInt64) (c1_1:UInt64) (c1_2:UInt64) (c1_3:UInt64) (c1_4:Int) (c1_5:UInt64) (c1_6:UInt64) (c1_7:UInt64) (c1_8:UInt64) (c1_9:UInt64) (c1_10:UInt64) (c2:ap) (c3:ap) (c4:ap) (c5:ap):OT (Sum bJ aZ):=
 let z0:Bool:=decide (4<=List.length c4)
 let z1:UInt64:=List.getD c4 0 0
 let z2:UInt64:=List.getD c4 1 0
 let z3:UInt64:=List.getD c4 2 0
 let z4:UInt64:=List.getD c4 3 0
 let z5:cx:=(((),(),(),(),(),(),a17,(0:Int),(),()),c0,(c1_0,c1_1,c1_2,c1_3,c1_4,c1_5,c1_6,c1_7,c1_8,c1_9,c1_10,()),c2,c3,c4,c5,[z1,z2,z3,z4],())
 let z6:fM:=g2_2 z5
 let z7:=z6.fst.snd.snd.snd.snd.snd.snd
 let z8:=z7.snd.fst
 let z9:=z7.fst
 let z10:=z6.snd
 let z11:=z10.fst
 let z12:=z10.snd
 let z13:=z12.snd
 let z14:=z13.snd
 let z15:=z14.fst
 let z16:Int:=z9-z8
 let z17:=z12.fst
 let z18:=z17.snd
 let z19:=z18.snd
 let z20:=z19.snd
 let z21:=z20.snd
 let z22:=z21.snd
 let z23:=z22.snd
 let z24:=z23.snd
 let z25:=z24.snd
 let z26:=z25.snd
 let z27:=z14.snd
 let z28:cw:=(((),(),(),(),(),(),z8,(),z16-(1:Int),(0:Int),()),z11,(z17.fst,z18.fst,z19.fst,z20.fst,z21.fst,z22.fst,z23.fst,z24.fst,z25.fst,z26.fst,z26.snd.fst,()),z13.fst,z15,z27.fst,z27.snd.fst,[List.getD z15 0 0,List.getD z15 1 0,List.getD z15 2 0,List.getD z15 3 0],())
 let z29:fL:=g4_4 z28
 let z30:=z29.snd
 let z31:=z30.snd
 let z32:=z31.snd
 let z33:=z32.snd
 let z34:=z33.snd
 let z35:=z34.snd
 let z36:=z35.snd.fst
 let z37:Bool:=decide (4<=List.length z36)
 let z38:=z31.fst
 let z39:=z38.fst
 let z40:=z38.snd
 let z41:=z40.fst
 let z42:=z40.snd
 let z43:=z42.fst
 let z44:=z42.snd
 let z45:=z44.fst
 let z46:ab:= {w0:=z39,w1:=z41,w2:=z43,w3:=z45}
 let z47:=z44.snd
 let z48:=z47.fst
 let z49:=z47.snd
 let z50:=z49.fst
 let z51:=z49.snd
 let z52:=z51.fst
 let z53:=z51.snd
 let z54:=z53.fst
 let z55:=z53.snd
 let z56:=z55.fst
 let z57:=z55.snd
 let z58:=z57.fst
 let z59:=z57.snd.fst
 let z60:iR:=(z46,z48,z50,z52,{w0:=z54,w1:=z56,w2:=z58,w3:=z59})
 let z61:ab:= {w0:=List.getD z36 0 0,w1:=List.getD z36 1 0,w2:=List.getD z36 2 0,w3:=List.getD z36 3 0}
 let z62:rq:=(z61,())
 let z63:=z33.fst
 let z64:=z34.fst
 let z65:Nat:=List.length z64
 let z66:Nat:=ab.nat z46
 let z67:ab:=aR z66 z61 z61
 let z68:ap:=List.set (List.set (List.set (List.set z63 0 z67.w0) 1 z67.w1) 2 z67.w2) 3 z67.w3
 let z69:ab:= {w0:=List.getD z64 0 0,w1:=List.getD z64 1 0,w2:=List.getD z64 2 0,w3:=List.getD z64 3 0}
 let z70:ab:= {w0:=List.getD z68 0 0,w1:=List.getD z68 1 0,w2:=List.getD z68 2 0,w3:=List.getD z68 3 0}
 let z71:=z35.fst
 let z72:Nat:=List.length z71
 let z73:ab:= {w0:=List.getD z71 0 0,w1:=List.getD z71 1 0,w2:=List.getD z71 2 0,w3:=List.getD z71 3 0}
 let z74:ab:=aR z66 z69 z70
 let z75:ab:=aR z66 z73 z61
 (gd [z0,decide (4<=List.length c2)] (.br (!(z1==List.getD c2 0 0&&(z2==List.getD c2 1 0&&(z3==List.getD c2 2 0&&(z4==List.getD c2 3 0&&true)))))
 (gd [z0,ok2 z5] (.br (z8==z9)
  (gd [decide (4<=List.length z11)] (.ok (.inr ⟨(.ret,l9),(((),(22:Int),()),List.set (List.set (List.set (List.set z11 0 (0:UInt64)) 1 (0:UInt64)) 2 (0:UInt64)) 3 (0:UInt64),())⟩)))
  (gd [decide (4<=List.length z15),inR z16,inR (z16-(1:Int)),ok4 z28,z37,z37,gO ((z60,z61,z62),()),decide ((4/1:Nat)+0<=List.length z63),decide (4<=z65),decide (4<=List.length z68),gO ((z60,z69,z70,()),()),decide ((4/1:Nat)+0<=z65),decide (4<=z72),z37,gO ((z60,z73,z62),()),decide ((4/1:Nat)+0<=z72)] (.ok (.inl (((),(),(),(),(),(),z29.fst.snd.snd.snd.snd.snd.snd.fst,()),z30.fst,(z39,z41,z43,z45,z48,z50,z52,z54,z56,z58,z59,()),z32.fst,z68,List.set (List.set (List.set (List.set z64 0 z74.w0) 1 z74.w1) 2 z74.w2) 3 z74.w3,List.set (List.set (List.set (List.set z71 0 z75.w0) 1 z75.w1) 2 z75.w2) 3 z75.w3,()))))))
 (.ok (.inr ⟨(.exit 0,oF),(((),(),(),()),c0,(c1_0,c1_1,c1_2,c1_3,c1_4,c1_5,c1_6,c1_7,c1_8,c1_9,c1_10,()),c5,())⟩))))
def BD (ok2:cx->Bool) (g2_2:cx->fM) (ok4:cw->Bool) (g4_4:cw->fL) (s:bJ):OT (Sum bJ aZ):=RD ok2 g2_2 ok4 g4_4 s.1.2.2.2.2.2.2.1 s.2.1 s.2.2.1.1 s.2.2.1.2.1 s.2.2.1.2.2.1 s.2.2.1.2.2.2.1 s.2.2.1.2.2.2.2.1 s.2.2.1.2.2.2.2.2.1 s.2.2.1.2.2.2.2.2.2.1 s.2.2.1.2.2.2.2.2.2.2.1 s.2.2.1.2.2.2.2.2.2.2.2.1 s.2.2.1.2.2.2.2.2.2.2.2.2.1 s.2.2.1.2.2.2.2.2.2.2.2.2.2.1 s.2.2.2.1 s.2.2.2.2.1 s.2.2.2.2.2.1 s.2.2.2.2.2.2.1
def ag6 (g0_r:bJ->j4) (c0_r:bJ->Bool) (g0_0:bJ->mF) (s:bJ):OT aZ:=(.br (c0_r s) (.ok ⟨(.ret,l9),g0_r s⟩) (.ok ⟨(.exit 0,oF),g0_0 s⟩))
def fb:aL:=⟨kT,[],false⟩
def Ka (ok2:cx->Bool) (g2_2:cx->fM) (ok4:cw->Bool) (g4_4:cw->fL) (ok0:bJ->Bool) (g0_r:bJ->j4) (c0_r:bJ->Bool) (g0_0:bJ->mF) (a0:Int) (a1:ab):OT tu.Y:=
 let z0:iR:=numOf (Int.toNat a0)
 let z1:=z0.fst
 let z2:ab:=ofN (ab.nat a1%ab.nat z1)
 let z3:ab:= {w0:=1,w1:=0,w2:=0,w3:=0}
 let z4:=(m5 z1 z3).fst
 let z5:=z0.snd
 let z6:=z5.fst
 let z7:ab:= {w0:=5,w1:=0,w2:=0,w3:=0}
 let z8:ab:=jp z4 (Int.toNat z6)
 let z9:rq:=(z8,())
 let z10:ab:=iB (Tb z8 z3).fst
 let z11:=z5.snd
 let z12:=z11.snd
 let z13:=z12.snd
 let z14:Nat:=pS a0
 let z15:ab:=ln z14 z7 z8
 let z16:ab:=ln z14 z2 z8
 let z17:ab:=ln z14 z2 z10
 let z18:bJ:=(((),(),(),(),(),(),z6,()),[(0:UInt64),(0:UInt64),(0:UInt64),(0:UInt64)],(z1.w0,z1.w1,z1.w2,z1.w3,z6,z11.fst,z12.fst,z13.w0,z13.w1,z13.w2,z13.w3,()),[(1:UInt64),(0:UInt64),(0:UInt64),(0:UInt64)],[z15.w0,z15.w1,z15.w2,z15.w3],[z16.w0,z16.w1,z16.w2,z16.w3],[z17.w0,z17.w1,z17.w2,z17.w3],())
 let z19:j4:=g0_r z18
 let z20:=z19.snd.fst
 let z21:=(g0_0 z18).snd
 let z22:=z21.snd
 let z23:=z22.snd.fst
 let z24:Nat:=List.length z23
 let z25:UInt64:=List.getD z23 0 0
 let z26:Bool:=decide (4<=z24)
 let z27:=z22.fst
 let z28:=z27.snd
 let z29:=z28.snd
 let z30:=z29.snd
 let z31:ab:= {w0:=z27.fst,w1:=z28.fst,w2:=z29.fst,w3:=z30.fst}
 let z32:=z30.snd
 let z33:=z32.snd
 let z34:=z33.snd
 let z35:=z34.snd
 let z36:=z35.snd
 let z37:=z36.snd
 let z38:ab:= {w0:=z25,w1:=List.getD z23 1 0,w2:=List.getD z23 2 0,w3:=List.getD z23 3 0}
 let z39:ab:=kW (ab.nat z31) z38
 let z40:ap:=List.set (List.set (List.set (List.set z23 0 z39.w0) 1 z39.w1) 2 z39.w2) 3 z39.w3
 let z41:=z21.fst
 let z42:Nat:=List.length z41
 let z43:ap:=lay z41 z40 4 (0:UInt64)
 let z44:ap:=lay z41 z23 4 (0:UInt64)
 (.br (ac a0)
 (gd [ii ((z0,a1,()),())] (.br (z2.w0==(0:UInt64)&&(z2.w1==(0:UInt64)&&(z2.w2==(0:UInt64)&&(z2.w3==(0:UInt64)&&true))))
  (.ok ⟨fb,((z2,(0:Int),()),())⟩)
  (gd [qw ((z4,z6,()),()),oJ ((a0,z7,z9),()),oJ ((a0,z2,z9),()),oJ ((a0,z2,z10,()),()),ok0 z18] (.br (c0_r z18)
   (gd [decide (4<=List.length z20)] (.ok ⟨fb,(({w0:=List.getD z20 0 0,w1:=List.getD z20 1 0,w2:=List.getD z20 2 0,w3:=List.getD z20 3 0},z19.fst.snd.fst,()),())⟩))
   (gd [decide (0<z24)] (.br (z25&&&(1:UInt64)==(1:UInt64))
    (gd [z26,BM (((z31,z32.fst,z33.fst,z34.fst,{w0:=z35.fst,w1:=z36.fst,w2:=z37.fst,w3:=z37.snd.fst}),z38,()),()),decide ((4/1:Nat)+0<=z24),decide (4<=List.length z40),decide ((4/1:Nat)+0<=z42),decide (4<=List.length z43)] (.ok ⟨fb,(({w0:=List.getD z43 0 0,w1:=List.getD z43 1 0,w2:=List.getD z43 2 0,w3:=List.getD z43 3 0},(0:Int),()),())⟩))
    (gd [z26,decide ((4/1:Nat)+0<=z42),decide (4<=List.length z44)] (.ok ⟨fb,(({w0:=List.getD z44 0 0,w1:=List.getD z44 1 0,w2:=List.getD z44 2 0,w3:=List.getD z44 3 0},(0:Int),()),())⟩))))))))
 (.ok ⟨fb,(({w0:=0,w1:=0,w2:=0,w3:=0},(20:Int),()),())⟩))
theorem al3 (ok2:cx->Bool) (g2_2:cx->fM) (ok4:cw->Bool) (g4_4:cw->fL) (ok0:bJ->Bool) (g0_r:bJ->j4) (c0_r:bJ->Bool) (g0_0:bJ->mF) (h2:bh GV ok2 (ag5 g2_2)) (h4:bh GU ok4 (ag4 g4_4)) (h0:bh (BD ok2 g2_2 ok4 g4_4) ok0 (ag6 g0_r c0_r g0_0)) (pre:WE->Bool) (F:WE->OT tu.Y) (hF:∀ (x:WE) oy,pre x=true->(F x).run=some oy->(Ka ok2 g2_2 ok4 g4_4 ok0 g0_r c0_r g0_0 x.1.1 x.1.2.1).run=some oy):aa aj 151 (tu.az pre F):=
 dh uC 151 Tryz.f151 tu [fb] (kZ uC 0 ax8 [(0,oF)] (some l9) none (BD ok2 g2_2 ok4 g4_4) (kZ uC 4 ax6 [(4,vE)] none none GU bE h4 (kZ uC 2 ax7 [(2,oE)] none none GV bE h2 bE)) h0 bE) (λx=>Ka ok2 g2_2 ok4 g4_4 ok0 g0_r c0_r g0_0 x.1.1 x.1.2.1) hF
abbrev C11:Type:=MF
def o6 (c:C11):MH:=(⟨c.1,c.2.1,c.2.2.1,c.2.2.2.1⟩,c.2.2.2.2.1,c.2.2.2.2.2.1,c.2.2.2.2.2.2.1,⟨c.2.2.2.2.2.2.2.1,c.2.2.2.2.2.2.2.2.1,c.2.2.2.2.2.2.2.2.2.1,c.2.2.2.2.2.2.2.2.2.2.1⟩)
def kL (s:cx):Bool:=lf (o6 s.2.2.1)&&decide ((0<=s.1.2.2.2.2.2.2.1/\s.1.2.2.2.2.2.2.1<=1000)/\s.1.2.2.2.2.2.2.2.1=0/\s.2.2.2.1= [1,0,0,0]/\s.2.2.2.2.2.2.2.1.length=4)
def qq (s:cx):fM:=(((),(),(),(),(),(),s.1.2.2.2.2.2.2.1,(kF (o6 s.2.2.1).1.nat s.1.2.2.2.2.2.2.1.toNat (elemOf s.2.2.2.2.2.2.2.1) 0:Int),()),s.2.1,s.2.2.1,s.2.2.2.1,s.2.2.2.2.1,s.2.2.2.2.2.1,s.2.2.2.2.2.2.1,())
def aak (c0:ap) (C:C11) (z t x:ap) (m k:Int) (u:ab):cx:=(((),(),(),(),(),(),m,k,(),()),c0,C,lst kk,z,t,x,lst u,())
theorem afF (c0:ap) (C:C11) (z t x:ap) (m:Nat) (hC:lf (o6 C)=true) (hm:m<=1000):∀ (n k:Nat) (u:ab),k+n=m->
 ∃ j,cU GV j (aak c0 C z t x (m:Int) (k:Int) u)=some ⟨(.exit 2,oE),(((),(),(),(),(),(),(m:Int),(kF (o6 C).1.nat n u k:Int),()),c0,C,lst kk,z,t,x,())⟩
 |0,k,u,h=>by
  refine ⟨1,aV ?_⟩
  refine (ae rfl).trans ?_
  rcases (b9 (eqE u kk)).symm with hq|hq
  ·exact (OT.ak (b:= !eqE u kk) (by rw [hq];rfl)).trans (OT.au (bq (by dsimp only [aak];omega)))
  ·exact OT.au (b:= !eqE u kk) (by rw [hq];rfl)
 |n+1,k,u,h=>by
  unfold kF
  rcases (b9 (eqE u kk)).symm with hq|hq
  ·rw [hq]
   obtain ⟨j,hj⟩:=afF c0 C z t x m hC hm n (k+1) (aR (o6 C).1.nat u u) (by omega)
   refine ⟨j+1,bL ?_ hj⟩
   refine (ae rfl).trans ((OT.ak (b:= !eqE u kk) (by rw [hq];rfl)).trans ((OT.ak (ag (by dsimp only [aak];omega))).trans ((ae ?_).trans rfl)))
   simp only [aA,aI,aJ,aw]
   exact ⟨rfl,rfl,hC,rfl,rfl,aS (by dsimp only [aak];omega)⟩
  ·rw [hq]
   refine ⟨1,aV ?_⟩
   exact (ae rfl).trans (OT.au (b:= !eqE u kk) (by rw [hq];rfl))
theorem ayb:bh GV kL (ag5 qq):=by
 rintro ⟨⟨⟨⟩,⟨⟩,⟨⟩,⟨⟩,⟨⟩,⟨⟩,m,k,⟨⟩,⟨⟩⟩,⟨c0,C,one,z,t,x,u,⟨⟩⟩⟩ h
 simp only [kL,aw,decide_eq_true_eq] at h
 obtain ⟨hC,⟨h0,h1⟩,rfl,rfl,hu⟩:=h
 obtain ⟨v,rfl⟩:∃ a,u=lst a:=⟨elemOf u,(cN hu).symm⟩
 obtain ⟨n,rfl⟩:∃ n:Nat,m=(n:Int):=⟨m.toNat,by omega⟩
 obtain ⟨j,hj⟩:=afF c0 C z t x n hC (by omega) n 0 v (by omega)
 exact ⟨j,_,hj,rfl⟩
def kK (s:cw):Bool:=lf (o6 s.2.2.1)&&decide ((0<=s.1.2.2.2.2.2.2.2.2.1/\s.1.2.2.2.2.2.2.2.2.1<=1000)/\s.1.2.2.2.2.2.2.2.2.2.1=0/\s.2.2.2.2.2.2.2.1.length=4)
def qp (s:cw):fL:=(((),(),(),(),(),(),s.1.2.2.2.2.2.2.1,(),()),s.2.1,s.2.2.1,s.2.2.2.1,s.2.2.2.2.1,s.2.2.2.2.2.1,s.2.2.2.2.2.2.1,lst (sqN (o6 s.2.2.1).1.nat (elemOf s.2.2.2.2.2.2.2.1) s.1.2.2.2.2.2.2.2.2.1.toNat),())
theorem aya:bh GU kK (ag4 qp):=by
 rintro ⟨⟨⟨⟩,⟨⟩,⟨⟩,⟨⟩,⟨⟩,⟨⟩,k,⟨⟩,n,i,⟨⟩⟩,⟨c0,C,one,z,t,x,u,⟨⟩⟩⟩ h
 simp only [kK,aw,decide_eq_true_eq] at h
 obtain ⟨hC,⟨h0,h1⟩,rfl,hu⟩:=h
 obtain ⟨v,rfl⟩:∃ a,u=lst a:=⟨elemOf u,(cN hu).symm⟩
 obtain ⟨d,rfl⟩:∃ d:Nat,n=(d:Int):=⟨n.toNat,by omega⟩
 have:=(bf (T:=GU) (λi u=>((((),(),(),(),(),(),k,(),(d:Int),(i:Int),()),c0,C,one,z,t,x,lst u,()):cw)) (λ_ e=>aR (o6 C).1.nat e e)
  (λu=>(⟨(.exit 4,vE),(((),(),(),(),(),(),k,(),()),c0,C,one,z,t,x,lst u,())⟩:aZ)) d v (λ_ _=>True) trivial (λi u hi _=>⟨?_,trivial⟩) (λu _=> ?_)).1
 ·obtain ⟨m,hm⟩:=this
  exact ⟨m,_,hm,rfl⟩
 ·refine (OT.ak (ag (by dsimp only;omega))).trans ((ae ?_).trans rfl)
  simp only [aA,aI,aJ,aw]
  exact ⟨rfl,rfl,hC,rfl,aS (by omega)⟩
 ·exact OT.au (bq (by dsimp only;omega))
def aCV (c0:ab) (C:C11) (m:Int) (w:Ton):bJ:=(((),(),(),(),(),(),m,()),lst c0,C,lst kk,lst w.2.2,lst w.2.1,lst w.1,())
theorem aCU {ok2:cx->Bool} {g2:cx->fM} {ok4:cw->Bool} {g4:cw->fL} {c0:ab} {C:C11} {m k:Nat} {w:Ton} {b:ab} (hC:lf (o6 C)=true) (hm:m<=1000) (hq:eqE w.2.1 kk=false)
 (h2:ok2 (aak (lst c0) C (lst w.2.2) (lst w.2.1) (lst w.1) (m:Int) 0 w.2.1)=true)
 (e2:g2 (aak (lst c0) C (lst w.2.2) (lst w.2.1) (lst w.1) (m:Int) 0 w.2.1)=(((),(),(),(),(),(),(m:Int),(k:Int),()),lst c0,C,lst kk,lst w.2.2,lst w.2.1,lst w.1,())) (hk:k<=m)
 (h4:k<m->ok4 (((),(),(),(),(),(),(k:Int),(),(m:Int)-(k:Int)-1,0,()),lst c0,C,lst kk,lst w.2.2,lst w.2.1,lst w.1,lst w.2.2,())=true)
 (e4:g4 (((),(),(),(),(),(),(k:Int),(),(m:Int)-(k:Int)-1,0,()),lst c0,C,lst kk,lst w.2.2,lst w.2.1,lst w.1,lst w.2.2,())=(((),(),(),(),(),(),(k:Int),(),()),lst c0,C,lst kk,lst w.2.2,lst w.2.1,lst w.1,lst b,())):
 (BD ok2 g2 ok4 g4 (aCV c0 C (m:Int) w)).run=cond (Nat.beq k m) (some (.inr ⟨(.ret,l9),(((),(22:Int),()),lst ⟨0,0,0,0⟩,())⟩))
  (some (.inl (aCV c0 C (k:Int) (aR (o6 C).1.nat w.1 b,aR (o6 C).1.nat w.2.1 (aR (o6 C).1.nat b b),aR (o6 C).1.nat b b)))):=by
 obtain ⟨x,t,z⟩:=w
 unfold aak at h2 e2
 have hb:∀ e:ab,[List.getD (lst e) 0 0,List.getD (lst e) 1 0,List.getD (lst e) 2 0,List.getD (lst e) 3 0]=lst e:=λ_=>rfl
 have hpre:∀ a c:ab,gO ((o6 C,a,c,()),())=true:=λ_ _=>hC
 have e2':g2 (((),(),(),(),(),(),(m:Int),0,(),()),lst c0,(C.1,C.2.1,C.2.2.1,C.2.2.2.1,C.2.2.2.2.1,C.2.2.2.2.2.1,C.2.2.2.2.2.2.1,C.2.2.2.2.2.2.2.1,C.2.2.2.2.2.2.2.2.1,C.2.2.2.2.2.2.2.2.2.1,C.2.2.2.2.2.2.2.2.2.2.1,()),lst kk,lst z,lst t,lst x,lst t,())=(((),(),(),(),(),(),(m:Int),(k:Int),()),lst c0,C,lst kk,lst z,lst t,lst x,()):=e2
 have e4':g4 (((),(),(),(),(),(),(k:Int),(),(m:Int)-(k:Int)-1,0,()),lst c0,(C.1,C.2.1,C.2.2.1,C.2.2.2.1,C.2.2.2.2.1,C.2.2.2.2.2.1,C.2.2.2.2.2.2.1,C.2.2.2.2.2.2.2.1,C.2.2.2.2.2.2.2.2.1,C.2.2.2.2.2.2.2.2.2.1,C.2.2.2.2.2.2.2.2.2.2.1,()),lst kk,lst z,lst t,lst x,lst z,())=(((),(),(),(),(),(),(k:Int),(),()),lst c0,C,lst kk,lst z,lst t,lst x,lst b,()):=e4
 show (RD ok2 g2 ok4 g4 (m:Int) (lst c0) C.1 C.2.1 C.2.2.1 C.2.2.2.1 C.2.2.2.2.1 C.2.2.2.2.2.1 C.2.2.2.2.2.2.1 C.2.2.2.2.2.2.2.1 C.2.2.2.2.2.2.2.2.1 C.2.2.2.2.2.2.2.2.2.1 C.2.2.2.2.2.2.2.2.2.2.1 (lst kk) (lst z) (lst t) (lst x)).run=_
 unfold RD
 simp only [hb,e2',e4']
 refine (ae rfl).trans ((OT.ak (b:= !eqE t kk) (by rw [hq];rfl)).trans ((ae ?_).trans ?_))
 ·simp only [aA,aI,aJ,aw]
  exact ⟨rfl,h2⟩
 ·by_cases h:k=m
  ·subst h
   rw [Nat.beq_refl]
   refine (OT.ak (beq_self_eq_true _)).trans ((ae rfl).trans rfl)
  ·have hn:Nat.beq k m=false:=by
    cases hb:Nat.beq k m
    ·rfl
    ·exact absurd (aY hb) h
   rw [hn]
   refine (OT.au ?_).trans ((ae ?_).trans rfl)
   ·exact beq_false_of_ne (λe=>h (by omega))
   ·simp only [aA,aI,aJ,aw]
    exact ⟨rfl,aS (by omega),aS (by omega),h4 (by omega),rfl,rfl,hC,rfl,rfl,rfl,hC,rfl,rfl,rfl,hC,rfl⟩
def aFu (c0:ab) (C:C11):Option ab->aZ
 |some x=>⟨(.exit 0,oF),(((),(),(),()),lst c0,C,lst x,())⟩
 |none=>⟨(.ret,l9),(((),(22:Int),()),lst ⟨0,0,0,0⟩,())⟩
theorem afG (c0:ab) (C:C11) (hC:lf (o6 C)=true):∀ (f m:Nat) (w:Ton),m<f->m<=1000->
 ∃ j,cU (BD kL qq kK qp) j (aCV c0 C (m:Int) w)=some (aFu c0 C (tsF (o6 C).1.nat f m w))
 |0,m,w,h,_=>absurd h (Nat.not_lt_zero _)
 |f+1,m,w,hf,hm=>by
  unfold tsF
  rcases (b9 (eqE w.2.1 kk)).symm with hq|hq
  ·rw [hq]
   simp only [aT]
   have hk:kF (o6 C).1.nat m w.2.1 0<=m:=by
    have key:∀ (n:Nat) (s:ab) (k:Nat),kF (o6 C).1.nat n s k<=k+n:=by
     intro n
     induction n with
     |zero=>intro s k;exact Nat.le_refl _
     |succ n ih=>
      intro s k
      unfold kF
      cases eqE s kk
      ·have:=ih (aR (o6 C).1.nat s s) (k+1)
       simp only [aT]
       omega
      ·simp only [aK]
       omega
    have:=key m w.2.1 0
    omega
   have hst:=aCU (ok2:=kL) (g2:=qq) (ok4:=kK) (g4:=qp) (c0:=c0) (C:=C) (m:=m) (k:=kF (o6 C).1.nat m w.2.1 0) (w:=w) (b:=tsB (o6 C).1.nat m (kF (o6 C).1.nat m w.2.1 0) w) hC hm hq
    (by
     refine (aw _ _).mpr ⟨hC,ag ⟨⟨?_,?_⟩,rfl,rfl,rfl⟩⟩
     ·show (0:Int)<=(m:Int);omega
     ·show (m:Int)<=1000;omega) rfl hk
    (λhlt=>by
     refine (aw _ _).mpr ⟨hC,ag ⟨⟨?_,?_⟩,rfl,rfl⟩⟩
     ·show (0:Int)<=(m:Int)-(kF (o6 C).1.nat m w.2.1 0:Int)-1;omega
     ·show (m:Int)-(kF (o6 C).1.nat m w.2.1 0:Int)-1<=1000;omega)
    (by
     have e:((m:Int)-(kF (o6 C).1.nat m w.2.1 0:Int)-1).toNat=m-kF (o6 C).1.nat m w.2.1 0-1:=by omega
     show (((),(),(),(),(),(),(kF (o6 C).1.nat m w.2.1 0:Int),(),()),lst c0,C,lst kk,lst w.2.2,lst w.2.1,lst w.1,lst (sqN (o6 C).1.nat w.2.2 ((m:Int)-(kF (o6 C).1.nat m w.2.1 0:Int)-1).toNat),())=_
     rw [e]
     rfl)
   cases hb:Nat.beq (kF (o6 C).1.nat m w.2.1 0) m
   ·rw [hb] at hst
    have hne:=yo hb
    obtain ⟨j,hj⟩:=afG c0 C hC f (kF (o6 C).1.nat m w.2.1 0) (tsW (o6 C).1.nat m (kF (o6 C).1.nat m w.2.1 0) w) (by omega) (by omega)
    exact ⟨j+1,bL hst hj⟩
   ·rw [hb] at hst
    exact ⟨1,aV hst⟩
  ·rw [hq]
   simp only [aK]
   refine ⟨1,aV ?_⟩
   exact (ae rfl).trans (OT.au (b:= !eqE w.2.1 kk) (by rw [hq];rfl))
def tr (s:bJ):Option ab:=tsF (o6 s.2.2.1).1.nat (s.1.2.2.2.2.2.2.1.toNat+1) s.1.2.2.2.2.2.2.1.toNat (elemOf s.2.2.2.2.2.2.1,elemOf s.2.2.2.2.2.1,elemOf s.2.2.2.2.1)
def oD (s:bJ):Bool:=lf (o6 s.2.2.1)&&decide ((0<=s.1.2.2.2.2.2.2.1/\s.1.2.2.2.2.2.2.1<=1000)/\s.2.1.length=4/\s.2.2.2.1= [1,0,0,0]/\s.2.2.2.2.1.length=4/\s.2.2.2.2.2.1.length=4/\s.2.2.2.2.2.2.1.length=4)
def GS (s:bJ):Bool:=(tr s).isNone
def BC (_:bJ):j4:=(((),(22:Int),()),lst ⟨0,0,0,0⟩,())
def GR (s:bJ):mF:=(((),(),(),()),s.2.1,s.2.2.1,lst ((tr s).getD ⟨0,0,0,0⟩),())
theorem ayc:bh (BD kL qq kK qp) oD (ag6 BC GS GR):=by
 rintro ⟨⟨⟨⟩,⟨⟩,⟨⟩,⟨⟩,⟨⟩,⟨⟩,m,⟨⟩⟩,⟨c0,C,one,z,t,x,⟨⟩⟩⟩ h
 simp only [oD,aw,decide_eq_true_eq] at h
 obtain ⟨hC,⟨h0,h1⟩,hc,rfl,hz,ht,hx⟩:=h
 obtain ⟨c,rfl⟩:∃ a,c0=lst a:=⟨elemOf c0,(cN hc).symm⟩
 obtain ⟨Z,rfl⟩:∃ a,z=lst a:=⟨elemOf z,(cN hz).symm⟩
 obtain ⟨T,rfl⟩:∃ a,t=lst a:=⟨elemOf t,(cN ht).symm⟩
 obtain ⟨X,rfl⟩:∃ a,x=lst a:=⟨elemOf x,(cN hx).symm⟩
 obtain ⟨n,rfl⟩:∃ n:Nat,m=(n:Int):=⟨m.toNat,by omega⟩
 obtain ⟨j,hj⟩:=afG c C hC (n+1) n (X,T,Z) (by omega) (by omega)
 refine ⟨j,_,hj,?_⟩
 show (OT.br (tsF (o6 C).1.nat (n+1) n (X,T,Z)).isNone (.ok ⟨(.ret,l9),_⟩) (.ok ⟨(.exit 0,oF),(((),(),(),()),lst c,C,lst ((tsF (o6 C).1.nat (n+1) n (X,T,Z)).getD ⟨0,0,0,0⟩),())⟩):OT aZ).run=some (aFu c C (tsF (o6 C).1.nat (n+1) n (X,T,Z)))
 cases tsF (o6 C).1.nat (n+1) n (X,T,Z)<;>rfl
def WD (_:WE):Bool:=true
def arG (x:WE):OT tu.Y:=.br (ac x.1.1) (.br (bB (ofP (pS x.1.1) x.1.2.1)) (.ok ⟨fb,((⟨0,0,0,0⟩,(0:Int),()),())⟩)
 (.br (eqE (ln (pS x.1.1) (ofP (pS x.1.1) x.1.2.1) (iB (m5 (numOf x.1.1.toNat).1 kk).1)) kk) (.ok ⟨fb,((zt (pS x.1.1) (Md x.1.1 (ofP (pS x.1.1) x.1.2.1)),(0:Int),()),())⟩) (.ok ⟨fb,((⟨0,0,0,0⟩,(22:Int),()),())⟩)))
 (.ok ⟨fb,((⟨0,0,0,0⟩,(20:Int),()),())⟩)
def aH2 (n:MH):C11:=(n.1.w0,n.1.w1,n.1.w2,n.1.w3,n.2.1,n.2.2.1,n.2.2.2.1,n.2.2.2.2.w0,n.2.2.2.2.w1,n.2.2.2.2.w2,n.2.2.2.2.w3,())
abbrev Ud (n:MH) (z t x:ab):bJ:=(((),(),(),(),(),(),n.2.1,()),[0,0,0,0],(n.1.w0,n.1.w1,n.1.w2,n.1.w3,n.2.1,n.2.2.1,n.2.2.2.1,n.2.2.2.2.w0,n.2.2.2.2.w1,n.2.2.2.2.w2,n.2.2.2.2.w3,()),[1,0,0,0],[z.w0,z.w1,z.w2,z.w3],[t.w0,t.w1,t.w2,t.w3],[x.w0,x.w1,x.w2,x.w3],())
theorem al4 {ok2:cx->Bool} {g2:cx->fM} {ok4:cw->Bool} {g4:cw->fL} {ok0:bJ->Bool} {g0r:bJ->j4} {c0:bJ->Bool} {g0:bJ->mF} {s:Int} {a A z t x X:ab} {c:Bool}
 (hs:ac s=true) (k:aiC s) (hA:ofN (a.nat%(numOf s.toNat).1.nat)=A) (hz:bB A=false) (ez:ln (pS s) ⟨5,0,0,0⟩ (GB s)=z) (et:ln (pS s) A (GB s)=t) (ex:ln (pS s) A (iB (Tb (GB s) kk).1)=x)
 (h0:ok0 (Ud (numOf s.toNat) z t x)=true) (hc:c0 (Ud (numOf s.toNat) z t x)=c) (er:g0r (Ud (numOf s.toNat) z t x)=(((),(22:Int),()),lst ⟨0,0,0,0⟩,()))
 (e0:g0 (Ud (numOf s.toNat) z t x)=(((),(),(),()),lst ⟨0,0,0,0⟩,aH2 (numOf s.toNat),lst X,())):
 (Ka ok2 g2 ok4 g4 ok0 g0r c0 g0 s a).run=cond c (some ⟨fb,((⟨0,0,0,0⟩,(22:Int),()),())⟩) (some ⟨fb,((zt (pS s) X,(0:Int),()),())⟩):=by
 have ez':ln (pS s) ⟨5,0,0,0⟩ (jp (m5 (numOf s.toNat).1 ⟨1,0,0,0⟩).1 (numOf s.toNat).2.1.toNat)=z:=ez
 have et':ln (pS s) A (jp (m5 (numOf s.toNat).1 ⟨1,0,0,0⟩).1 (numOf s.toNat).2.1.toNat)=t:=et
 have ex':ln (pS s) A (iB (Tb (jp (m5 (numOf s.toNat).1 ⟨1,0,0,0⟩).1 (numOf s.toNat).2.1.toNat) ⟨1,0,0,0⟩).1)=x:=ex
 have hp1:qw (((m5 (numOf s.toNat).1 ⟨1,0,0,0⟩).1,(numOf s.toNat).2.1,()),())=true:=by
  refine ag ?_
  show 0<=(numOf s.toNat).2.1/\(numOf s.toNat).2.1<=1000000
  have h:=aA8 hs
  omega
 unfold Ka
 simp only [hA,ez',et',ex',er,e0,hc]
 refine (OT.ak hs).trans ((ae ?_).trans ((OT.au (b:=bB A) hz).trans ((ae ?_).trans ?_)))
 ·simp only [aA,aI,aJ]
  exact ji hs
 ·simp only [aA,aI,aJ,aw]
  exact ⟨hp1,hs,hs,hs,h0⟩
 ·cases c
  ·have hn:lf (o6 (aH2 (numOf s.toNat)))=true:=ji hs
   refine (OT.au rfl).trans ((ae rfl).trans ?_)
   have ho:=agd X
   unfold zt
   rcases (b9 (X.w0%2==1)).symm with h|h
   ·rw [h] at ho⊢
    exact (OT.au ho).trans ((ae rfl).trans rfl)
   ·rw [h] at ho⊢
    refine (OT.ak ho).trans ((ae ?_).trans rfl)
    simp only [aA,aI,aJ,aw]
    exact ⟨rfl,hn,rfl,rfl,rfl,rfl⟩
  ·exact (OT.ak rfl).trans ((ae rfl).trans rfl)
theorem ax9:aa aj 151 (tu.az WD arG):=al3 kL qq kK qp oD BC GS GR ayb aya ayc _ _ λx oy hp ho=>by
 rw [<-ho]
 clear ho
 obtain ⟨⟨s,a,⟨⟩⟩,⟨⟩⟩:=x
 show (Ka kL qq kK qp oD BC GS GR s a).run=(OT.br (ac s) (.br (bB (ofP (pS s) a)) (.ok ⟨fb,((⟨0,0,0,0⟩,(0:Int),()),())⟩)
  (.br (eqE (ln (pS s) (ofP (pS s) a) (iB (m5 (numOf s.toNat).1 kk).1)) kk) (.ok ⟨fb,((zt (pS s) (Md s (ofP (pS s) a)),(0:Int),()),())⟩) (.ok ⟨fb,((⟨0,0,0,0⟩,(22:Int),()),())⟩)))
  (.ok ⟨fb,((⟨0,0,0,0⟩,(20:Int),()),())⟩):OT tu.Y).run
 rcases (b9 (ac s)).symm with hs|hs
 ·exact (OT.au hs).trans (OT.au (b:=ac s) hs).symm
 ·have k:=HV hs
  refine Eq.trans ?_ (OT.ak (b:=ac s) hs).symm
  have hA:ofN (a.nat%(numOf s.toNat).1.nat)=ofP (pS s) a:=rfl
  have hlt:(ofP (pS s) a).nat<pS s:=by
   rw [show (ofP (pS s) a).nat=a.nat%pS s from cr k.sm]
   exact Nat.mod_lt _ k.pr.pos
  generalize ofP (pS s) a=A at*
  rcases (b9 (bB A)).symm with hz|hz
  ·refine Eq.trans ?_ (OT.au (b:=bB A) hz).symm
   have hsame:=aCt k hlt hz
   have hres:tr (Ud (numOf s.toNat) (gh s A).2.2 (gh s A).2.1 (gh s A).1)=tsF (pS s) (adS s+1) (adS s) (gh s A):=rfl
   have hbd:=aA8 hs
   have h0:oD (Ud (numOf s.toNat) (gh s A).2.2 (gh s A).2.1 (gh s A).1)=true:=by
    refine (aw _ _).mpr ⟨ji hs,ag ⟨⟨?_,?_⟩,rfl,rfl,rfl,rfl,rfl⟩⟩
    ·show 0<=(numOf s.toNat).2.1;omega
    ·show (numOf s.toNat).2.1<=1000;omega
   have main:=al4 (ok2:=kL) (g2:=qq) (ok4:=kK) (g4:=qp) (ok0:=oD) (g0r:=BC) (c0:=GS) (g0:=GR) (X:=(tr (Ud (numOf s.toNat) (gh s A).2.2 (gh s A).2.1 (gh s A).1)).getD ⟨0,0,0,0⟩) hs k hA hz rfl rfl rfl h0 rfl rfl rfl
   refine main.trans ?_
   show cond (tr (Ud (numOf s.toNat) (gh s A).2.2 (gh s A).2.1 (gh s A).1)).isNone _ _=_
   rw [hres]
   rcases (b9 (eqE (ln (pS s) A (iB (m5 (numOf s.toNat).1 kk).1)) kk)).symm with h|h
   ·rw [h] at hsame
    refine Eq.trans ?_ (OT.au h).symm
    cases ht:tsF (pS s) (adS s+1) (adS s) (gh s A) with
    |none=>rfl
    |some x=>rw [ht] at hsame;cases hsame
   ·rw [h] at hsame
    refine Eq.trans ?_ (OT.ak h).symm
    cases ht:tsF (pS s) (adS s+1) (adS s) (gh s A) with
    |none=>rw [ht] at hsame;cases hsame
    |some x=>
     rw [ht] at hsame
     have hsame:some (zt (pS s) x)=some (zt (pS s) (Md s A)):=hsame
     rw [<-Option.some.inj hsame]
     rfl
  ·refine Eq.trans ?_ (OT.ak (b:=bB A) hz).symm
   rw [zero_eq hz] at hA
   refine (OT.ak hs).trans ((ae ?_).trans ?_)
   ·simp only [aA,aI,aJ]
    exact ji hs
   ·rw [hA]
    rfl
def DY:bx:=(tu.az WD arG)
theorem acA:aa aj 151 DY:=ax9
theorem acz:ax DY:=av
def auX:Env:=aq 151 DY au9
theorem LY:bU aj te auX:=aU follows uC acA acz
def kN:af:=⟨[aD,du],[],true,0,false⟩
abbrev BQ:Type:=aij
def amw:Shape:=⟨39,[Ci,(7,kg),(21,aD),(22,aD)],[iE,nQ],0,true⟩
abbrev ec:Type:=ry×ap×dp
def nK:Shape:=⟨39,[(7,.own 0)],Ad,0,true⟩
abbrev qy:Type:=b8×dp
def amz (a21:Int) (a22:Int) (c0:ap) (c1:aH):OT (Sum ec aZ):=
 let z0:Int:=Int.tdiv a22 (8:Int)
 let z1:Int:=(8:Int)*Int.tmod a22 (8:Int)
 let z2:Nat:=List.length c1
 let z3:Nat:=Int.toNat a22
 (.br (decide (a22<a21))
 (gd [true&&inR z0,inB z0 4,decide (Int.toNat z0+0<List.length c0),inR z1,decide ((0:Int)<=z1),inB a22 z2,decide (z3<z2),inR (a22+(1:Int))] (.ok (.inl (((),(),a21,a22+(1:Int),()),c0,List.set c1 z3 (UInt64.toUInt8 (bC (List.getD c0 (Int.toNat z0+0) (0:UInt64)) z1)),()))))
 (.ok (.inr ⟨(.exit 0,nK),(((),()),c1,())⟩)))
def vQ (s:ec):OT (Sum ec aZ):=amz s.1.2.2.1 s.1.2.2.2.1 s.2.1 s.2.2.1
def Oe (g0_0:ec->qy) (s:ec):OT aZ:=(.ok ⟨(.exit 0,nK),g0_0 s⟩)
def j8:aL:=⟨[.own 0],Ad,false⟩
section
variable (ok0:ec->Bool) (g0_0:ec->qy)
def W8 (a0:Int) (a1:ab):OT kN.Y:=
 let z0:iR:=numOf (Int.toNat a0)
 let z1:ab:=ofN (ab.nat a1%ab.nat z0.fst)
 let z2:ec:=(((),(),(32:Int),(0:Int),()),[z1.w0,z1.w1,z1.w2,z1.w3],List.replicate 32 (0:UInt8),())
 (.br (ac a0)
 (gd [ii ((z0,a1,()),()),ok0 z2] (.ok ⟨j8,(((),()),(g0_0 z2).snd.fst,())⟩))
 (.ok ⟨j8,(((),()),[],())⟩))
theorem W7 (h0:bh vQ ok0 (Oe g0_0)) (pre:BQ->Bool) (F:BQ->OT kN.Y) (hF:∀ (x:BQ) oy,pre x=true->(F x).run=some oy->(W8 ok0 g0_0 x.1.1 x.1.2.1).run=some oy):aa aj 135 (kN.az pre F):=
 dh LY 135 Tryz.f135 kN [j8] (kZ LY 0 amw [(0,nK)] none none vQ bE h0 bE) (λx=>W8 ok0 g0_0 x.1.1 x.1.2.1) hF
end
def zw (e:ab):aH:=upto (λk o=>o.set k (UInt64.toUInt8 (bC ((lst e).getD (k/8) 0) (8*((k%8:Nat):Int))))) (List.replicate 32 0) 32
def zp (s:ec):Bool:=decide (s.1.2.2.1=32/\s.1.2.2.2.1=0/\s.2.1.length=4/\s.2.2.1=List.replicate 32 0)
def vP (s:ec):qy:=(((),()),zw (elemOf s.2.1),())
theorem amy:bh vQ zp (Oe vP):=by
 rintro ⟨⟨⟨⟩,⟨⟩,n,i,⟨⟩⟩,⟨h,o,⟨⟩⟩⟩ hh
 have h':=bn hh
 dsimp only at h'
 obtain ⟨rfl,rfl,hl,rfl⟩:=h'
 obtain ⟨e,rfl⟩:∃ e,h=lst e:=⟨elemOf h,(cN hl).symm⟩
 have:=(bf (T:=vQ) (λi o=>((((),(),(32:Int),(i:Int),()),lst e,o,()):ec)) (λk o=>o.set k (UInt64.toUInt8 (bC ((lst e).getD (k/8) 0) (8*((k%8:Nat):Int)))))
  (λo=>(⟨(.exit 0,nK),(((),()),o,())⟩:aZ)) 32 (List.replicate 32 0) (λ_ o=>o.length=32) (by simp) (λi o hi ho=>⟨?_,by rw [cy];exact ho⟩) (λo ho=> ?_)).1
 ·obtain ⟨m,hm⟩:=this
  exact ⟨m,_,hm,rfl⟩
 ·have t1:Int.tdiv (i:Int) 8=((i/8:Nat):Int):=by rw [Int.tdiv_eq_ediv_of_nonneg (by omega)];omega
  have t2:Int.tmod (i:Int) 8=((i%8:Nat):Int):=by rw [Int.tmod_eq_emod_of_nonneg (by omega)];omega
  refine (OT.ak (ag (by dsimp only;omega))).trans ((ae ?_).trans ?_)
  ·simp only [t1,t2,NF,ho,cB,aA,aI,aJ,aw]
   exact ⟨⟨trivial,aS (by omega)⟩,ba (by omega),ag (by omega),aS (by omega),ag (by omega),ba (by omega),ag (by omega),aS (by omega)⟩
  ·simp only [OT.jb,t1,t2,cB,Nat.add_zero]
   rfl
 ·exact OT.au (bq (by dsimp only;omega))
theorem Ms (e:ab):zp (((),(),32,0,()),lst e,List.replicate 32 0,())=true:=ag ⟨rfl,rfl,rfl,rfl⟩
theorem ac3 (z:ab):(OT.ok ⟨j8,(((),()),(vP (((),(),32,0,()),[z.w0,z.w1,z.w2,z.w3],List.replicate 32 0,())).2.1,())⟩:OT kN.Y)=.ok ⟨j8,(((),()),zw z,())⟩:=by
 have e:elemOf [z.w0,z.w1,z.w2,z.w3]=z:=rfl
 simp only [vP,e]
def Kw (_:BQ):Bool:=true
def W9 (x:BQ):OT kN.Y:=.br (ac x.1.1) (.ok ⟨j8,(((),()),zw (ofN (x.1.2.1.nat%(numOf x.1.1.toNat).1.nat)),())⟩) (.ok ⟨j8,(((),()),[],())⟩)
theorem amx:aa aj 135 (kN.az Kw W9):=W7 zp vP amy _ _ λx oy hp ho=>by
 rw [<-ho]
 clear ho
 obtain ⟨⟨s,a,⟨⟩⟩,⟨⟩⟩:=x
 cases hs:ac s
 ·exact (OT.au hs).trans (OT.au (b:=ac s) hs).symm
 ·refine (OT.ak hs).trans ((ae ?_).trans ?_)
  ·simp only [aA,aI,aJ,aw]
   exact ⟨ji hs,Ms _⟩
  ·refine Eq.trans ?_ (OT.ak (b:=ac s) hs).symm
   exact congrArg OT.run (ac3 (ofN (a.nat%(numOf s.toNat).1.nat)))
theorem j9 (e:ab):(zw e).length=32:=by
 unfold zw
 have key:∀ n,(upto (λk (o:aH)=>o.set k (UInt64.toUInt8 (bC ((lst e).getD (k/8) 0) (8*((k%8:Nat):Int))))) (List.replicate 32 0) n).length=32:=by
  intro n
  induction n with
  |zero=>rfl
  |succ n ih=>exact (cy ..).trans ih
 exact key 32
def tM:bx:=(kN.az Kw W9)
theorem RX:aa aj 135 tM:=amx
theorem RW:ax tM:=av
def Zf:Env:=aq 135 tM auX
theorem Ag:bU aj te Zf:=aU follows LY RX RW
abbrev fa:Pt:=(⟨0,0,0,0⟩,⟨0,0,0,0⟩,false)
def fT:af:=⟨[aD,iS],[],true,0,false⟩
abbrev qL:Type:=(Int×dp)×Unit
def bp:aL:=⟨LJ,[],false⟩
def B3 (a0:Int) (a1:aH):OT fT.Y:=
 let z0:Bool:=ac a0
 let z1:Nat:=List.length a1
 let z2:ab:= {w0:=0,w1:=0,w2:=0,w3:=0}
 let z3:ab×Bool:=(z2,false)
 let z4:cI:=(z2,z3)
 let z5:Bool:=inB (31:Int) z1
 let z6:Bool:=decide (31<z1)
 let z7:UInt8:=List.getD a1 31 (0:UInt8)
 let z8:aH:=List.set a1 31 (z7&&&(127:UInt8))
 let z9:ab:=Nw z8
 let z10:Nat:=pS a0
 let z11:ab:=bS a0
 let z12:Bool:=ua ((a0,z9,z11,()),())
 let z13:ab:=ofP z10 (F5 z10 z9 z11)
 let z14:Bool:=bB z13
 let z15:Bool:= !(0:UInt8)==z7>>>(7:UInt8)
 let z16:cI:=(z9,kW z10 z2,false)
 let z17:cI:=(z9,z3)
 let z18:Bool:=eqE (ln z10 z13 (iB (m5 (numOf (Int.toNat a0)).fst kk).fst)) kk
 let z19:ab:=zt z10 (Md a0 z13)
 let z20:Bool:= !UInt64.toUInt8 (z19.w0&&&(1:UInt64))==z7>>>(7:UInt8)
 let z21:cI:=(z9,kW z10 z19,false)
 let z22:cI:=(z9,z19,false)
 (.br (z0)
 (.br (!(↑z1:Int)==(32:Int))
  (.ok ⟨bp,((z4,(41:Int),()),())⟩)
  (gd [eH ((a1,()),()),z5,z6,z5,z6,z5,z6] (.br (z0)
   (.br (m6 z8)
    (.br (Nat.blt (ab.nat z9) z10)
     (.br (z9.w0==(0:UInt64)&&(z9.w1==(0:UInt64)&&(z9.w2==(0:UInt64)&&(z9.w3==(0:UInt64)&&true))))
      (.br (z7>>>(7:UInt8)==(0:UInt8))
       (.ok ⟨bp,(((z2,z2,true),(0:Int),()),())⟩)
       (gd [z12] (.br (z0)
        (.br (z14)
         (.br (z15)
          (.br (z0)
           (.ok ⟨bp,((z16,(0:Int),()),())⟩)
           (.ok ⟨bp,((z17,(0:Int),()),())⟩))
          (.ok ⟨bp,((z17,(0:Int),()),())⟩))
         (.br (z18)
          (.br (z20)
           (.br (z0)
            (.ok ⟨bp,((z21,(0:Int),()),())⟩)
            (.ok ⟨bp,((z17,(0:Int),()),())⟩))
           (.ok ⟨bp,((z22,(0:Int),()),())⟩))
          (.ok ⟨bp,((z4,(41:Int),()),())⟩)))
        (.ok ⟨bp,((z4,(41:Int),()),())⟩))))
      (gd [z12] (.br (z0)
       (.br (z14)
        (.br (z15)
         (.br (z0)
          (.ok ⟨bp,((z16,(0:Int),()),())⟩)
          (.ok ⟨bp,((z17,(0:Int),()),())⟩))
         (.ok ⟨bp,((z17,(0:Int),()),())⟩))
        (.br (z18)
         (.br (z20)
          (.br (z0)
           (.ok ⟨bp,((z21,(0:Int),()),())⟩)
           (.ok ⟨bp,((z17,(0:Int),()),())⟩))
          (.ok ⟨bp,((z22,(0:Int),()),())⟩))
         (.ok ⟨bp,((z4,(41:Int),()),())⟩)))
       (.ok ⟨bp,((z4,(41:Int),()),())⟩))))
     (.ok ⟨bp,((z4,(41:Int),()),())⟩))
    (.ok ⟨bp,((z4,(41:Int),()),())⟩))
   (.ok ⟨bp,((z4,(41:Int),()),())⟩))))
 (.ok ⟨bp,((z4,(40:Int),()),())⟩))
theorem XM (pre:qL->Bool) (F:qL->OT fT.Y) (hF:∀ (x:qL) oy,pre x=true->(F x).run=some oy->(B3 x.1.1 x.1.2.1).run=some oy):aa aj 115 (fT.az pre F):=
 dh Ag 115 Tryz.f115 fT [bp] bE (λx=>B3 x.1.1 x.1.2.1) hF
def age (b:aH):ab:=Nw (b.set 31 (b.getD 31 0&&&127))
def Vl (b:aH):Bool:= !(b.getD 31 0>>>7==0)
theorem ayC {y:ab} (h:y.nat%2=0):UInt64.toUInt8 (y.w0&&&1)=0:=by
 have e:y.nat%2=y.w0.toNat%2:=by unfold Sx.ab.nat;omega
 have h2:(y.w0&&&1).toNat=y.w0.toNat%2:=by
  rw [UInt64.toNat_and]
  exact Nat.and_two_pow_sub_one_eq_mod y.w0.toNat 1
 have:y.w0&&&1=0:=UInt64.toNat_inj.1 (by rw [h2,<-e,h];rfl)
 rw [this]
 rfl
def adA (_:qL):Bool:=true
def aGg {S:af} (f:Pt->Int->OT S.Y) (s:Int) (b:aH):OT S.Y:=.br (ac s) (.br (m6 b) (.br (Nat.blt (age b).nat (pS s)) (.br (bB (age b)) (.br (Vl b) (f fa 41) (f aM 0)) (.br (sqB s (age b)) (f (ptD s (age b) (Vl b)) 0) (f fa 41))) (f fa 41)) (f fa 41)) (f fa 40)
def ata (x:qL):OT fT.Y:=aGg (S:=fT) (λP e=>.ok ⟨bp,((P,e,()),())⟩) x.1.1 x.1.2.1
theorem XN {s:Int} {b:List UInt8} {N:ab} (hN:age b=N):(B3 s b).run=(aGg (S:=fT) (λP e=>.ok ⟨bp,((P,e,()),())⟩) s b).run:=by
 have hN':Nw (List.set b 31 (List.getD b 31 0&&&127))=N:=hN
 unfold B3 aGg
 rw [hN]
 simp only [hN']
 rcases (b9 (ac s)).symm with hs|hs
 ·exact (OT.au hs).trans (OT.au (b:=ac s) hs).symm
 ·refine (OT.ak hs).trans (Eq.trans ?_ (OT.ak (b:=ac s) hs).symm)
  rcases (b9 (m6 b)).symm with hl|hl
  ·exact (OT.ak (b:= !m6 b) (by rw [hl];rfl)).trans (OT.au (b:=m6 b) hl).symm
  ·have hlen:=sQ.1 hl
   have i1:inB 31 b.length=true:=ba (by omega)
   have i2:decide (31<b.length)=true:=ag (by omega)
   have i3:eH ((b,()),())=true:=ag (by show b.length<=_;omega)
   have i4:m6 (List.set b 31 (List.getD b 31 0&&&127))=true:=sQ.2 (by rw [cy];exact hlen)
   have hg:∀ z:ab,ua ((s,z,bS s,()),())=true:=λ_=>hs
   refine (OT.au (b:= !m6 b) (by rw [hl];rfl)).trans (Eq.trans ((ae ?_).trans ((OT.ak hs).trans ((OT.ak i4).trans ?_))) (OT.ak (b:=m6 b) hl).symm)
   ·simp only [i1,i2,i3,aA,aI,Bool.and_self]
   ·rcases (b9 (Nat.blt N.nat (pS s))).symm with hb|hb
    ·exact (OT.au hb).trans (OT.au (b:=Nat.blt N.nat (pS s)) hb).symm
    ·refine (OT.ak hb).trans (Eq.trans ?_ (OT.ak (b:=Nat.blt N.nat (pS s)) hb).symm)
     have hA:=aoY hs N
     have sg:(List.getD b 31 0>>>7==0)= !Vl b:=by unfold Vl;rw [Bool.not_not]
     rcases (b9 (bB N)).symm with hz|hz
     ·refine (OT.au (b:=bB N) hz).trans (Eq.trans ?_ (OT.au (b:=bB N) hz).symm)
      refine (ae (by rw [hg];rfl)).trans ((OT.ak hs).trans ((OT.au (b:=bB (sqA s N)) hA).trans ?_))
      rcases (b9 (sqB s N)).symm with hq|hq
      ·exact (OT.au (b:=sqB s N) hq).trans (OT.au (b:=sqB s N) hq).symm
      ·refine (OT.ak (b:=sqB s N) hq).trans (Eq.trans ?_ (OT.ak (b:=sqB s N) hq).symm)
       have hy:=ayC (aFt hs hq).2.1
       have hc:(!UInt64.toUInt8 ((sqY s N).w0&&&1)==List.getD b 31 0>>>7)=Vl b:=by
        rw [hy]
        unfold Vl
        rw [Bool.beq_comm]
       unfold ptD
       rcases (b9 (Vl b)).symm with ho|ho
       ·rw [ho] at hc⊢
        exact (OT.au hc).trans rfl
       ·rw [ho] at hc⊢
        exact (OT.ak hc).trans ((OT.ak hs).trans rfl)
     ·refine (OT.ak (b:=bB N) hz).trans (Eq.trans ?_ (OT.ak (b:=bB N) hz).symm)
      have hN0:=zero_eq hz
      rcases (b9 (Vl b)).symm with ho|ho
      ·exact (OT.ak (by rw [sg,ho];rfl)).trans (OT.au (b:=Vl b) ho).symm
      ·refine (OT.au (by rw [sg,ho];rfl)).trans (Eq.trans ?_ (OT.ak (b:=Vl b) ho).symm)
       have hq:sqB s N=false:=by rw [hN0];exact afH hs
       exact (ae (by rw [hg];rfl)).trans ((OT.ak hs).trans ((OT.au (b:=bB (sqA s N)) hA).trans (OT.au (b:=sqB s N) hq)))
theorem am3:aa aj 115 (fT.az adA ata):=XM _ _ λx oy hp ho=>by
 rw [<-ho]
 clear ho
 obtain ⟨⟨s,b,⟨⟩⟩,⟨⟩⟩:=x
 exact XN rfl
def gS:af:=⟨[aD,xj],[],true,0,false⟩
abbrev qI:Type:=(Int×rp)×Unit
def fw:aL:=⟨[.own 0],Ad,false⟩
def B0 (a0:Int) (a1:cI):OT gS.Y:=
 let z0:aH:=zw (ofN (ab.nat a1.fst%ab.nat (numOf (Int.toNat a0)).fst))
 let z1:Nat:=Int.toNat ((↑(List.length z0):Int)-(1:Int))
 (.br (!onB a0 a1)
 (.ok ⟨fw,(((),()),[],())⟩)
 (gd [ac a0] (.ok ⟨fw,(((),()),List.set z0 z1 (List.getD z0 z1 (0:UInt8)|||UInt64.toUInt8 (a1.snd.fst.w0&&&(1:UInt64))<<<(7:UInt8)),())⟩)))
theorem XH (pre:qI->Bool) (F:qI->OT gS.Y) (hF:∀ (x:qI) oy,pre x=true->(F x).run=some oy->(B0 x.1.1 x.1.2.1).run=some oy):aa aj 137 (gS.az pre F):=
 dh Ag 137 Tryz.f137 gS [fw] bE (λx=>B0 x.1.1 x.1.2.1) hF
def rZ (b:aH) (y:ab):aH:=b.set 31 (b.getD 31 0|||UInt64.toUInt8 (y.w0&&&1)<<<7)
def jJ (s:Int) (P:Pt):aH:=cond (onB s P) (rZ (zw (ofP (pS s) P.1)) P.2.1) []
def ady (_:qI):Bool:=true
def as8 (x:qI):OT gS.Y:=.br (onB x.1.1 x.1.2.1) (.ok ⟨fw,(((),()),rZ (zw (ofP (pS x.1.1) x.1.2.1.1)) x.1.2.1.2.1,())⟩) (.ok ⟨fw,(((),()),[],())⟩)
theorem XI {s:Int} {P:Pt} {B:List UInt8} (hB:zw (ofN (P.1.nat%(numOf s.toNat).1.nat))=B) (hl:B.length=32):(B0 s P).run=(OT.br (onB s P) (.ok ⟨fw,(((),()),rZ B P.2.1,())⟩) (.ok ⟨fw,(((),()),[],())⟩):OT gS.Y).run:=by
 unfold B0
 have e:Int.toNat ((B.length:Int)-1)=31:=by rw [hl];rfl
 simp only [hB,e]
 rcases (b9 (onB s P)).symm with h|h
 ·exact (OT.ak (b:= !onB s P) (by rw [h];rfl)).trans (OT.au (b:=onB s P) h).symm
 ·refine (OT.au (b:= !onB s P) (by rw [h];rfl)).trans (Eq.trans ((ae ?_).trans rfl) (OT.ak (b:=onB s P) h).symm)
  simp only [aA,aI,aJ]
  exact vg h
theorem am0:aa aj 137 (gS.az ady as8):=XH _ _ λx oy hp ho=>by
 rw [<-ho]
 clear ho
 obtain ⟨⟨s,P,⟨⟩⟩,⟨⟩⟩:=x
 exact XI (B:=zw (ofP (pS s) P.1)) rfl (j9 _)
abbrev E5:Type:=(aH×mW)×zV
abbrev Me:Type:=mT
section
variable (ok0:E5->Bool) (g0_0:E5->Me)
end
abbrev E7:Type:=mW×ap×dp
abbrev Mg:Type:=b8×dp
section
variable (ok0:E7->Bool) (g0_0:E7->Mg)
end
def aGb (e:ab) (k:Nat):UInt8:=UInt64.toUInt8 (bC ((lst e).getD (k/8) 0) (8*((k%8:Nat):Int)))
theorem Ul {α:Type} (f:Nat->α) (l:List α):∀ n,n<=l.length->upto (λk (o:List α)=>o.set k (f k)) l n=(List.range n).map f++l.drop n
 |0,_=>rfl
 |n+1,h=>by
  have hl:((List.range n).map f).length=n:=by rw [List.length_map,List.length_range]
  show (upto (λk (o:List α)=>o.set k (f k)) l n).set n (f n)=_
  rw [Ul f l n (by omega),List.set_append_right _ _ (by omega),hl,Nat.sub_self,mZ (by omega),List.set_cons_zero,List.range_succ,List.map_append,List.append_assoc]
  rfl
theorem ayG (e:ab):zw e=(List.range 32).map (aGb e):=by
 have h:=Ul (aGb e) (List.replicate 32 0) 32 (by rw [fW];omega)
 rw [List.drop_eq_nil_of_le (by rw [fW];omega),List.append_nil] at h
 exact h
theorem awD {y:ab} (h:(y.w0%2==1)=true) (b:aH):rZ b y=b.set 31 (b.getD 31 0|||128):=by
 rw [<-agd] at h
 have e:y.w0&&&1=1:=by simpa using h
 unfold rZ
 rw [e]
 rfl
theorem ao0 {y:ab} (h:(y.w0%2==1)=false) {b:List UInt8} (hb:b.length=32):rZ b y=b:=by
 have h2:(y.w0&&&1).toNat=y.w0.toNat%2:=by
  rw [UInt64.toNat_and]
  exact Nat.and_two_pow_sub_one_eq_mod y.w0.toNat 1
 have h3:(y.w0%2).toNat=y.w0.toNat%2:=by rw [UInt64.toNat_mod];rfl
 have hn:y.w0.toNat%2≠1:=λe=>by
  have:y.w0%2=1:=UInt64.toNat_inj.1 (by rw [h3,e];rfl)
  rw [this] at h
  cases h
 have e:y.w0&&&1=0:=UInt64.toNat_inj.1 (by rw [h2];show _=0;omega)
 unfold rZ
 rw [e]
 have e2:(UInt64.toUInt8 0<<<7:UInt8)=0:=by decide
 rw [e2,UInt8.or_zero]
 have hl:31<b.length:=by omega
 rw [fP,m4 hl]
 exact List.set_getElem_self hl
abbrev Oy:af:=fT
def Td (s:Int) (b:aH):Pt×Int:=cond (ac s) (cond (m6 b) (cond (Nat.blt (age b).nat (pS s)) (cond (bB (age b)) (cond (Vl b) (fa,41) (aM,0)) (cond (sqB s (age b)) (ptD s (age b) (Vl b),0) (fa,41))) (fa,41)) (fa,41)) (fa,40)
theorem ayO {S:af} (f:Pt->Int->OT S.Y) (s:Int) (b:aH):(aGg f s b).run=(f (Td s b).1 (Td s b).2).run:=by
 unfold aGg Td
 generalize age b=N
 rcases (b9 (ac s)).symm with h|h
 ·rw [h];rfl
 ·rcases (b9 (m6 b)).symm with h1|h1
  ·rw [h,h1];rfl
  ·rcases (b9 (Nat.blt N.nat (pS s))).symm with h2|h2
   ·rw [h,h1,h2];rfl
   ·rcases (b9 (bB N)).symm with h3|h3
    ·rcases (b9 (sqB s N)).symm with h4|h4
     ·rw [h,h1,h2,h3,h4];rfl
     ·rw [h,h1,h2,h3,h4];rfl
    ·rcases (b9 (Vl b)).symm with h4|h4
     ·rw [h,h1,h2,h3,h4];rfl
     ·rw [h,h1,h2,h3,h4];rfl
def FC (_:qL):Bool:=true
def Oz (x:qL):OT fT.Y:=.ok ⟨bp,(((Td x.1.1 x.1.2.1).1,(Td x.1.1 x.1.2.1).2,()),())⟩
theorem adz:aa aj 115 (Oy.az FC Oz):=cJ (S:=fT) am3 λx oy hp ho=>⟨rfl,(ayO (S:=fT) (λP e=>.ok ⟨bp,((P,e,()),())⟩) x.1.1 x.1.2.1).trans ho⟩
def qK:bx:=(Oy.az FC Oz)
theorem My:aa aj 115 qK:=adz
theorem Mx:ax qK:=av
def Ph:Env:=aq 115 qK Zf
theorem Zl:bU aj te Ph:=aU follows Ag My Mx
abbrev Ow:af:=gS
def FB (_:qI):Bool:=true
def Ox (x:qI):OT gS.Y:=.ok ⟨fw,(((),()),jJ x.1.1 x.1.2.1,())⟩
theorem XG (s:Int) (P:Pt):(OT.br (onB s P) (.ok ⟨fw,(((),()),rZ (zw (ofP (pS s) P.1)) P.2.1,())⟩) (.ok ⟨fw,(((),()),[],())⟩):OT gS.Y).run=some ⟨fw,(((),()),jJ s P,())⟩:=by
 unfold jJ
 generalize rZ (zw (ofP (pS s) P.1)) P.2.1=B
 rcases (b9 (onB s P)).symm with h|h
 ·rw [h];rfl
 ·rw [h];rfl
theorem adx:aa aj 137 (Ow.az FB Ox):=cJ (S:=gS) am0 λx oy hp ho=>⟨rfl,(XG x.1.1 x.1.2.1).trans ho⟩
def qH:bx:=(Ow.az FB Ox)
theorem Mw:aa aj 137 qH:=adx
theorem Mv:ax qH:=av
def Pg:Env:=aq 137 qH Ph
theorem FY:bU aj te Pg:=aU follows Zl Mw Mv
def Fk:af:=⟨jG,[],true,0,false⟩
def QR:aL:=⟨[.rK,aD],[],false⟩
def abo:aL:=⟨FQ,[aiy,(1,.row FZ)],false⟩
abbrev aqs:Type:=oW
def aqr (a0:Int):OT Fk.Y:=
 (.br (decide (a0<(0:Int)))
 (.ok ⟨QR,(((),(40:Int),()),())⟩)
 (.br (decide ((3:Int)<a0))
  (.ok ⟨QR,(((),(40:Int),()),())⟩)
  (.ok ⟨abo,(((),(0:Int),()),(a0,(),()),[],())⟩)))
theorem aqq (pre:aqs->Bool) (F:aqs->OT Fk.Y) (hF:∀ (x:aqs) oy,pre x=true->(F x).run=some oy->(aqr x.1.1).run=some oy):aa aj 129 (Fk.az pre F):=
 dh FY 129 Tryz.f129 Fk [QR,abo] bE (λx=>aqr x.1.1) hF
def agr (_:aqs):Bool:=true
def aAr (x:aqs):OT Fk.Y:=.br (ac x.1.1) (.ok ⟨abo,(((),(0:Int),()),(x.1.1,(),()),[],())⟩) (.ok ⟨QR,(((),(40:Int),()),())⟩)
theorem aDD:aa aj 129 (Fk.az agr aAr):=aqq _ _ λx oy _ ho=>by
 rw [<-ho]
 clear ho
 obtain ⟨⟨s,⟨⟩⟩,⟨⟩⟩:=x
 show (aqr s).run=(OT.br (ac s) _ _:OT Fk.Y).run
 by_cases h0:s<0
 ·refine (OT.ak (ag h0)).trans (OT.au (b:=ac s) ?_).symm
  simp only [ac,bq (show ¬(0:Int)<=s by omega),Bool.false_and]
 ·refine (OT.au (bq h0)).trans ?_
  by_cases h3:3<s
  ·refine (OT.ak (ag h3)).trans (OT.au (b:=ac s) ?_).symm
   simp only [ac,bq (show ¬s<4 by omega),Bool.and_false]
  ·refine (OT.au (bq h3)).trans (OT.ak (b:=ac s) ?_).symm
   simp only [ac,ag (show (0:Int)<=s by omega),ag (show s<4 by omega),Bool.and_self]
def I1:bx:=(Fk.az agr aAr)
theorem als:aa aj 129 I1:=aDD
theorem alr:ax I1:=av
def aBH:Env:=aq 129 I1 Pg
theorem aiZ:bU aj te aBH:=aU follows FY als alr
def aH4 (w:Sh):CSh:=.cells [.val false .int,w]
def Fp:af:=⟨[eT,du,xj],[(0,aH4 kg),(1,.row FZ)],false,1,true⟩
abbrev aqz:Type:=(Unit×ab×rp)×aim
def sP:aL:=⟨jG,[aiy,(1,FT)],false⟩
def aqy (a1:ab) (a2:cI) (c0_0:Int) (c1:ef):OT Fp.Y:=
 let z0:Int:=ay c0_0 (1:Int)
 let z1:ab:= {w0:=0,w1:=0,w2:=0,w3:=0}
 (.br (!onB c0_0 a2)
 (.ok ⟨sP,(((41:Int),()),(c0_0,(),()),c1,())⟩)
 (.br (decide ((100000:Int)<=(↑(List.length c1):Int)))
  (.ok ⟨sP,(((50:Int),()),(c0_0,(),()),c1,())⟩)
  (.br (ac z0)
   (gd [decide ((List.length c1+1)*104<=140737488355328)] (.ok ⟨sP,(((0:Int),()),(c0_0,(),()),c1++ [(dr (pS z0) a1 z1,a2)],())⟩))
   (gd [decide ((List.length c1+1)*104<=140737488355328)] (.ok ⟨sP,(((0:Int),()),(c0_0,(),()),c1++ [(z1,a2)],())⟩)))))
theorem aqx (pre:aqz->Bool) (F:aqz->OT Fp.Y) (hF:∀ (x:aqz) oy,pre x=true->(F x).run=some oy->(aqy x.1.2.1 x.1.2.2.1 x.2.1.1 x.2.2.1).run=some oy):aa aj 130 (Fp.az pre F):=
 dh aiZ 130 Tryz.f130 Fp [sP] bE (λx=>aqy x.1.2.1 x.1.2.2.1 x.2.1.1 x.2.2.1) hF
abbrev Tm:Type:=FZ.T
def lg:Tm:=(⟨0,0,0,0⟩,⟨0,0,0,0⟩,⟨0,0,0,0⟩,false)
def Uv (l:List Tm):Bool:=decide (l.length<100000)
def agx (_:aqz):Bool:=true
def aAs (x:aqz):OT Fp.Y:=.br (onB x.2.1.1 x.1.2.2.1) (.br (Uv x.2.2.1) (.ok ⟨sP,(((0:Int),()),(x.2.1.1,(),()),x.2.2.1++ [(F2 x.2.1.1 x.1.2.1,x.1.2.2.1)],())⟩)
 (.ok ⟨sP,(((50:Int),()),(x.2.1.1,(),()),x.2.2.1,())⟩)) (.ok ⟨sP,(((41:Int),()),(x.2.1.1,(),()),x.2.2.1,())⟩)
theorem aDE:aa aj 130 (Fp.az agx aAs):=aqx _ _ λx oy _ ho=>by
 rw [<-ho]
 clear ho
 obtain ⟨⟨⟨⟩,k,P,⟨⟩⟩,⟨⟨c,⟨⟩,⟨⟩⟩,l,⟨⟩⟩⟩:=x
 show (aqy k P c l).run=(OT.br (onB c P) (.br (Uv l) _ _) _:OT Fp.Y).run
 rcases (b9 (onB c P)).symm with h|h
 ·exact (OT.ak (b:= !onB c P) (by rw [h];rfl)).trans (OT.au (b:=onB c P) h).symm
 ·refine (OT.au (b:= !onB c P) (by rw [h];rfl)).trans (Eq.trans ?_ (OT.ak (b:=onB c P) h).symm)
  rcases (b9 (Uv l)).symm with h2|h2
  ·have h3:=of_decide_eq_false h2
   exact (OT.ak (ag (by omega))).trans (OT.au (b:=Uv l) h2).symm
  ·have h3:=bn h2
   refine (OT.au (bq (by omega))).trans (Eq.trans ?_ (OT.ak (b:=Uv l) h2).symm)
   refine (OT.ak (bF (vg h))).trans ((ae ?_).trans rfl)
   simp only [aA,aI,aJ]
   exact ag (by omega)
def Jh:bx:=(Fp.az agx aAs)
theorem alA:aa aj 130 Jh:=aDE
theorem alz:ax Jh:=av
def aBI:Env:=aq 130 Jh aBH
theorem S6:bU aj te aBI:=aU follows aiZ alA alz
def mz:af:=⟨[aD,.val false (.list FZ)],[],true,0,false⟩
abbrev Be:Type:=aii
def alm:Shape:=⟨26,[jH,ej,uo,(9,ly),(10,aD),(11,aD)],LL,0,true⟩
abbrev dW:Type:=(Int×Unit×Unit×ef×jM)×um
def nA:Shape:=⟨26,[ej,uo],LL,0,true⟩
abbrev pO:Type:=mX×um
def alp (a0:Int) (a9:ef) (a10:Int) (a11:Int) (c0_0:UInt64) (c0_1:UInt64) (c0_2:UInt64) (c0_3:UInt64) (c0_4:UInt64) (c0_5:UInt64) (c0_6:UInt64) (c0_7:UInt64) (c0_8:Bool) (c1_0:UInt64) (c1_1:UInt64) (c1_2:UInt64) (c1_3:UInt64) (c1_4:UInt64) (c1_5:UInt64) (c1_6:UInt64) (c1_7:UInt64) (c1_8:Bool):OT (Sum dW aZ):=
 let z0:ab:= {w0:=0,w1:=0,w2:=0,w3:=0}
 let z1:ab×cI:=List.getD a9 (Int.toNat a11) (z0,z0,z0,false)
 let z2:cI:=fO a0 ({w0:=c1_0,w1:=c1_1,w2:=c1_2,w3:=c1_3},{w0:=c1_4,w1:=c1_5,w2:=c1_6,w3:=c1_7},c1_8) (pN a0 z1.fst z1.snd)
 let z3:=z2.fst
 let z4:=z2.snd
 let z5:=z4.fst
 (.br (decide (a11<a10))
 (gd [inB a11 (List.length a9),inR (a11+(1:Int))] (.ok (.inl ((a0,(),(),a9,a10,a11+(1:Int),()),(c0_0,c0_1,c0_2,c0_3,c0_4,c0_5,c0_6,c0_7,c0_8,()),(z3.w0,z3.w1,z3.w2,z3.w3,z5.w0,z5.w1,z5.w2,z5.w3,z4.snd,()),()))))
 (.ok (.inr ⟨(.exit 0,nA),(((),(),()),(c0_0,c0_1,c0_2,c0_3,c0_4,c0_5,c0_6,c0_7,c0_8,()),(c1_0,c1_1,c1_2,c1_3,c1_4,c1_5,c1_6,c1_7,c1_8,()),())⟩)))
def vp (s:dW):OT (Sum dW aZ):=alp s.1.1 s.1.2.2.2.1 s.1.2.2.2.2.1 s.1.2.2.2.2.2.1 s.2.1.1 s.2.1.2.1 s.2.1.2.2.1 s.2.1.2.2.2.1 s.2.1.2.2.2.2.1 s.2.1.2.2.2.2.2.1 s.2.1.2.2.2.2.2.2.1 s.2.1.2.2.2.2.2.2.2.1 s.2.1.2.2.2.2.2.2.2.2.1 s.2.2.1.1 s.2.2.1.2.1 s.2.2.1.2.2.1 s.2.2.1.2.2.2.1 s.2.2.1.2.2.2.2.1 s.2.2.1.2.2.2.2.2.1 s.2.2.1.2.2.2.2.2.2.1 s.2.2.1.2.2.2.2.2.2.2.1 s.2.2.1.2.2.2.2.2.2.2.2.1
def NA (g0_0:dW->pO) (s:dW):OT aZ:=(.ok ⟨(.exit 0,nA),g0_0 s⟩)
def Dv:aL:=⟨oZ,[],false⟩
section
variable (ok0:dW->Bool) (g0_0:dW->pO)
def Vt (a0:Int) (a1:ef):OT mz.Y:=
 let z0:dW:=((a0,(),(),a1,(↑(List.length a1):Int),(0:Int),()),((0:UInt64),(0:UInt64),(0:UInt64),(0:UInt64),(0:UInt64),(0:UInt64),(0:UInt64),(0:UInt64),false,()),((0:UInt64),(0:UInt64),(0:UInt64),(0:UInt64),(0:UInt64),(0:UInt64),(0:UInt64),(0:UInt64),true,()),())
 let z1:=(g0_0 z0).snd.snd.fst
 let z2:=z1.snd
 let z3:=z2.snd
 let z4:=z3.snd
 let z5:=z4.snd
 let z6:=z5.snd
 let z7:=z6.snd
 let z8:=z7.snd
 (gd [ok0 z0] (.ok ⟨Dv,((({w0:=z1.fst,w1:=z2.fst,w2:=z3.fst,w3:=z4.fst},{w0:=z5.fst,w1:=z6.fst,w2:=z7.fst,w3:=z8.fst},z8.snd.fst),()),())⟩))
theorem Vs (h0:bh vp ok0 (NA g0_0)) (pre:Be->Bool) (F:Be->OT mz.Y) (hF:∀ (x:Be) oy,pre x=true->(F x).run=some oy->(Vt ok0 g0_0 x.1.1 x.1.2.1).run=some oy):aa aj 180 (mz.az pre F):=
 dh S6 180 Tryz.f180 mz [Dv] (kZ S6 0 alm [(0,nA)] none none vp bE h0 bE) (λx=>Vt ok0 g0_0 x.1.1 x.1.2.1) hF
end
def fY (c:Int) (l:List Tm) (k:Nat) (O:Pt):Pt:=fO c O (pN c (l.getD k lg).1 (l.getD k lg).2)
def py (c:Int) (l:List Tm):Pt:=upto (fY c l) aM l.length
def I0 (s:dW):Bool:=decide (s.1.2.2.2.2.1=(s.1.2.2.2.1.length:Int)/\s.1.2.2.2.2.2.1=0/\KW s.2.2.1=aM/\s.1.2.2.2.1.length<=140737488355328)
def Nz (s:dW):pO:=(((),(),()),s.2.1,bP (py s.1.1 s.1.2.2.2.1),())
theorem alo:bh vp I0 (NA Nz):=by
 rintro ⟨⟨c,⟨⟩,⟨⟩,l,n,i,⟨⟩⟩,⟨c0,c1,⟨⟩⟩⟩ h
 have h':=bn h
 dsimp only at h'
 obtain ⟨rfl,rfl,hO,hl⟩:=h'
 have hO2:c1=bP aM:=by rw [<-hO];rfl
 subst hO2
 have:=(bf (T:=vp) (λi O=>(((c,(),(),l,(l.length:Int),(i:Int),()),c0,bP O,()):dW)) (fY c l)
  (λO=>(⟨(.exit 0,nA),(((),(),()),c0,bP O,())⟩:aZ)) l.length aM (λ_ _=>True) trivial (λk O hk _=>⟨?_,trivial⟩) (λO _=> ?_)).1
 ·obtain ⟨m,hm⟩:=this
  exact ⟨m,_,hm,rfl⟩
 ·refine (OT.ak (ag (by dsimp only;omega))).trans ((ae ?_).trans ?_)
  ·simp only [aA,aI,aJ,aw]
   exact ⟨ba (by omega),aS (by omega)⟩
  ·simp only [OT.jb,cB]
   rfl
 ·exact OT.au (bq (by dsimp only;omega))
def yv (x:Be):Bool:=decide (x.1.2.1.length<=140737488355328)
def Vu (x:Be):OT mz.Y:=.ok ⟨Dv,((py x.1.1 x.1.2.1,()),())⟩
theorem aln:aa aj 180 (mz.az yv Vu):=Vs I0 Nz alo _ _ λx oy hp ho=>by
 rw [<-ho]
 clear ho
 obtain ⟨⟨c,l,⟨⟩⟩,⟨⟩⟩:=x
 have hl:l.length<=140737488355328:=bn hp
 refine (ae ?_).trans rfl
 simp only [aA,aI,aJ]
 exact ag ⟨rfl,rfl,rfl,hl⟩
def sK:bx:=(mz.az yv Vu)
theorem QO:aa aj 180 sK:=aln
theorem QN:ax sK:=av
def YY:Env:=aq 180 sK aBI
theorem LV:bU aj te YY:=aU follows S6 QO QN
def yr:af:=⟨[.val true FZ,eT],xg,false,1,true⟩
abbrev Vq:Type:=((ab×cI)×b8)×oW
def QJ:aL:=⟨n9,xg,false⟩
def aqf (a0:ab×cI) (c0_0:Int):OT yr.Y:=
 (.ok ⟨QJ,((rl a0.fst c0_0,()),(c0_0,()),())⟩)
theorem alg (pre:Vq->Bool) (F:Vq->OT yr.Y) (hF:∀ (x:Vq) oy,pre x=true->(F x).run=some oy->(aqf x.1.1 x.2.1.1).run=some oy):aa aj 196 (yr.az pre F):=
 dh LV 196 Tryz.f196 yr [QJ] bE (λx=>aqf x.1.1 x.2.1.1) hF
def Vp (_:Vq):Bool:=true
def aqg (x:Vq):OT yr.Y:=.ok ⟨QJ,((rl x.1.1.1 x.2.1.1,()),(x.2.1.1,()),())⟩
theorem axi:aa aj 196 (yr.az Vp aqg):=alg _ _ λx oy hp ho=>by
 rw [<-ho]
 rfl
def Dr:bx:=(yr.az Vp aqg)
theorem abg:aa aj 196 Dr:=axi
theorem abf:ax Dr:=av
def auK:Env:=aq 196 Dr YY
theorem LU:bU aj te auK:=aU follows LV abg abf
def kG:af:=⟨[.val false (.list FZ),.fn 196 [0]],xg,true,1,true⟩
abbrev Bg:Type:=(ef×b8)×oW
def alt:Shape:=⟨19,[(0,ly),(1,.fn 196 [0]),xf,(8,aD)],xg,1,true⟩
abbrev bX:Type:=(ef×Unit×jM)×oW
def nB:Shape:=⟨19,[(4,aD)],xg,1,true⟩
abbrev lG:Type:=eS×oW
def nC:Shape:=⟨19,[],xg,1,true⟩
abbrev pP:Type:=Unit×oW
def alw (a0:ef) (a7:Int) (a8:Int) (c0_0:Int):OT (Sum bX aZ):=
 let z0:ab:= {w0:=0,w1:=0,w2:=0,w3:=0}
 (.br (decide (a8<a7))
 (gd [inB a8 (List.length a0)] (.br (rl (List.getD a0 (Int.toNat a8) (z0,z0,z0,false)).fst c0_0)
  (.ok (.inr ⟨(.ret,nB),((a8,()),(c0_0,()),())⟩))
  (gd [inR (a8+(1:Int))] (.ok (.inl ((a0,(),a7,a8+(1:Int),()),(c0_0,()),()))))))
 (.ok (.inr ⟨(.exit 0,nC),((),(c0_0,()),())⟩)))
def vq (s:bX):OT (Sum bX aZ):=alw s.1.1 s.1.2.2.1 s.1.2.2.2.1 s.2.1.1
def NC (g0_r:bX->lG) (c0_r:bX->Bool) (g0_0:bX->pP) (s:bX):OT aZ:=(.br (c0_r s) (.ok ⟨(.ret,nB),g0_r s⟩) (.ok ⟨(.exit 0,nC),g0_0 s⟩))
def jZ:aL:=⟨jG,xg,false⟩
section
variable (ok0:bX->Bool) (g0_r:bX->lG) (c0_r:bX->Bool) (g0_0:bX->pP)
def Vw (a0:ef) (c0_0:Int):OT kG.Y:=
 let z0:bX:=((a0,(),(↑(List.length a0):Int),(0:Int),()),(c0_0,()),())
 let z1:lG:=g0_r z0
 (gd [ok0 z0] (.br (c0_r z0)
 (.ok ⟨jZ,((z1.fst.fst,()),(z1.snd.fst.fst,()),())⟩)
 (.ok ⟨jZ,(((-1:Int),()),((g0_0 z0).snd.fst.fst,()),())⟩)))
theorem Vv (h0:bh vq ok0 (NC g0_r c0_r g0_0)) (pre:Bg->Bool) (F:Bg->OT kG.Y) (hF:∀ (x:Bg) oy,pre x=true->(F x).run=some oy->(Vw ok0 g0_r c0_r g0_0 x.1.1 x.2.1.1).run=some oy):aa aj 201 (kG.az pre F):=
 dh LU 201 Tryz.f201 kG [jZ] (kZ LU 0 alt [(0,nC)] (some nB) none vq bE h0 bE) (λx=>Vw ok0 g0_r c0_r g0_0 x.1.1 x.2.1.1) hF
end
def oH (l:List Tm) (i:Int):Nat->Nat->Int
 |0,_=> -1
 |n+1,k=>cond (rl (l.getD k lg).1 i) (k:Int) (oH l i n (k+1))
def I3 (s:bX):Bool:=decide (s.1.2.2.1=(s.1.1.length:Int)/\s.1.2.2.2.1=0/\s.1.1.length<=140737488355328)
def j7 (l:List Tm) (i:Int):Int:=oH l i l.length 0
def I4 (s:bX):lG:=((j7 s.1.1 s.2.1.1,()),s.2)
def ND (s:bX):Bool:=decide (0<=j7 s.1.1 s.2.1.1)
def NB (s:bX):pP:=((),s.2)
def Wf (l:List Tm) (i k:Int):bX:=((l,(),(l.length:Int),k,()),(i,()),())
theorem WZ (l:List Tm) (i:Int):∀ n k,oH l i n k= -1\/0<=oH l i n k
 |0,_=>.inl rfl
 |n+1,k=>by
  unfold oH
  cases rl (l.getD k lg).1 i
  ·exact WZ l i n (k+1)
  ·right
   show (0:Int)<=(k:Int)
   omega
theorem agU (l:List Tm) (i:Int) (hl:l.length<=140737488355328):∀ n k:Nat,k+n=l.length->
 ∃ m,cU vq m (Wf l i (k:Int))=some (cond (decide (0<=oH l i n k)) ⟨(.ret,nB),((oH l i n k,()),(i,()),())⟩ ⟨(.exit 0,nC),((),(i,()),())⟩)
 |0,k,h=>⟨1,aV (OT.au (bq (by dsimp only [Wf];omega)))⟩
 |n+1,k,h=>by
  have hin:inB (k:Int) l.length=true:=ba (by omega)
  have hgd:∀ z:OT (Sum bX aZ),(gd [inB (k:Int) l.length] z).run=z.run:=λz=>ae (by rw [hin];rfl)
  unfold oH
  rcases (b9 (rl (l.getD k lg).1 i)).symm with hb|hb
  ·obtain ⟨m,hm⟩:=agU l i hl n (k+1) (by omega)
   rw [hb]
   refine ⟨m+1,bL ?_ hm⟩
   refine (OT.ak (ag (by dsimp only [Wf];omega))).trans ((hgd _).trans ((OT.au hb).trans ((ae ?_).trans rfl)))
   simp only [aA,aI,aJ]
   exact aS (by dsimp only [Wf];omega)
  ·rw [hb]
   have e:decide ((0:Int)<=cond true (k:Int) (oH l i n (k+1)))=true:=ag (by show (0:Int)<=(k:Int);omega)
   rw [e]
   refine ⟨1,aV ?_⟩
   exact (OT.ak (ag (by dsimp only [Wf];omega))).trans ((hgd _).trans ((OT.ak hb).trans rfl))
theorem alv:bh vq I3 (NC I4 ND NB):=by
 rintro ⟨⟨l,⟨⟩,n,k,⟨⟩⟩,⟨⟨i,⟨⟩⟩,⟨⟩⟩⟩ h
 have h':=bn h
 dsimp only at h'
 obtain ⟨rfl,rfl,hl⟩:=h'
 obtain ⟨m,hm⟩:=agU l i hl l.length 0 (by omega)
 refine ⟨m,_,hm,?_⟩
 show (OT.br (decide (0<=j7 l i)) _ _:OT aZ).run=some (cond (decide (0<=j7 l i)) _ _)
 cases decide (0<=j7 l i)<;>rfl
def yw (x:Bg):Bool:=decide (x.1.1.length<=140737488355328)
def Vx (x:Bg):OT kG.Y:=.ok ⟨jZ,((j7 x.1.1 x.2.1.1,()),x.2)⟩
theorem alu:aa aj 201 (kG.az yw Vx):=Vv I3 I4 ND NB alv _ _ λx oy hp ho=>by
 rw [<-ho]
 clear ho
 obtain ⟨⟨l,⟨⟩,⟨⟩⟩,⟨⟨i,⟨⟩⟩,⟨⟩⟩⟩:=x
 have hl:l.length<=140737488355328:=bn hp
 refine (ae ?_).trans ?_
 ·simp only [aA,aI,aJ]
  exact ag ⟨rfl,rfl,hl⟩
 ·show (OT.br (decide (0<=j7 l i)) (.ok ⟨jZ,((j7 l i,()),(i,()),())⟩) (.ok ⟨jZ,(((-1:Int),()),(i,()),())⟩):OT kG.Y).run=some ⟨jZ,((j7 l i,()),(i,()),())⟩
  rcases WZ l i l.length 0 with h|h
  ·have h:j7 l i= -1:=h
   rw [h]
   rfl
  ·exact OT.ak (ag h)
def sL:bx:=(kG.az yw Vx)
theorem QT:aa aj 201 sL:=alu
theorem QS:ax sL:=av
def YZ:Env:=aq 201 sL auK
theorem LW:bU aj te YZ:=aU follows LU QT QS
def pQ:af:=⟨[.val false (.list FZ),.fn 196 [0]],xg,true,1,true⟩
abbrev I6:Type:=(ef×b8)×oW
def I5:aL:=⟨n9,xg,false⟩
def agu (a0:ef) (c0_0:Int):OT pQ.Y:=
 (gd [yw ((a0,(),()),(c0_0,()),())] (.ok ⟨I5,((decide ((0:Int)<=j7 a0 c0_0),()),(c0_0,()),())⟩))
theorem abp (pre:I6->Bool) (F:I6->OT pQ.Y) (hF:∀ (x:I6) oy,pre x=true->(F x).run=some oy->(agu x.1.1 x.2.1.1).run=some oy):aa aj 195 (pQ.az pre F):=
 dh LW 195 Tryz.f195 pQ [I5] bE (λx=>agu x.1.1 x.2.1.1) hF
def aE8 (l:List Tm) (i:Int):Bool:=decide (0<=j7 l i)
def vt (x:I6):Bool:=decide (x.1.1.length<=140737488355328)
def agv (x:I6):OT pQ.Y:=.ok ⟨I5,((aE8 x.1.1 x.2.1.1,()),x.2)⟩
theorem aqw:aa aj 195 (pQ.az vt agv):=abp _ _ λx oy hp ho=>by
 rw [<-ho]
 clear ho
 refine (ae ?_).trans rfl
 simp only [aA,aI,aJ]
 exact hp
def yD:bx:=(pQ.az vt agv)
theorem Vz:aa aj 195 yD:=aqw
theorem Vy:ax yD:=av
def ai0:Env:=aq 195 yD YZ
theorem EK:bU aj te ai0:=aU follows LW Vz Vy
def Fj:af:=⟨[.val false (.list FZ)],[],true,0,false⟩
abbrev aqe:Type:=xd×Unit
def aDt:Shape:=⟨14,[(0,ly),Ci],xg,0,true⟩
abbrev cW:Type:=(ef×b8)×oW
def A8:Shape:=⟨14,[(2,aD)],[],0,true⟩
abbrev vi:Type:=oW
def A9:Shape:=⟨14,[],[],0,true⟩
abbrev vj:Type:=b8
def aDw (a0:ef) (c0_0:Int):OT (Sum cW aZ):=
 (.br (decide ((0:Int)<=c0_0))
 (gd [vt ((a0,(),()),(c0_0,()),())] (.br (aE8 a0 c0_0)
  (gd [inR (c0_0+(1:Int))] (.ok (.inr ⟨(.ret,A8),((c0_0+(1:Int),()),())⟩)))
  (gd [inR (c0_0-(1:Int))] (.ok (.inl ((a0,(),()),(c0_0-(1:Int),()),()))))))
 (.ok (.inr ⟨(.exit 0,A9),((),())⟩)))
def QI (s:cW):OT (Sum cW aZ):=aDw s.1.1 s.2.1.1
def aqc (g0_r:cW->vi) (c0_r:cW->Bool) (g0_0:cW->vj) (s:cW):OT aZ:=(.br (c0_r s) (.ok ⟨(.ret,A8),g0_r s⟩) (.ok ⟨(.exit 0,A9),g0_0 s⟩))
def yq:aL:=⟨jG,[],false⟩
def aAo (ok0:cW->Bool) (g0_r:cW->vi) (c0_r:cW->Bool) (g0_0:cW->vj) (a0:ef):OT Fj.Y:=
 let z0:cW:=((a0,(),()),((255:Int),()),())
 (gd [ok0 z0] (.br (c0_r z0)
 (.ok ⟨yq,(((g0_r z0).fst.fst,()),())⟩)
 (.ok ⟨yq,(((0:Int),()),())⟩)))
theorem aqa (ok0:cW->Bool) (g0_r:cW->vi) (c0_r:cW->Bool) (g0_0:cW->vj) (h0:bh QI ok0 (aqc g0_r c0_r g0_0)) (pre:aqe->Bool) (F:aqe->OT Fj.Y) (hF:∀ (x:aqe) oy,pre x=true->(F x).run=some oy->(aAo ok0 g0_r c0_r g0_0 x.1.1).run=some oy):aa aj 181 (Fj.az pre F):=
 dh EK 181 Tryz.f181 Fj [yq] (kZ EK 0 aDt [(0,A9)] (some A8) none QI bE h0 bE) (λx=>aAo ok0 g0_r c0_r g0_0 x.1.1) hF
def anu (l:List Tm):Nat->Nat
 |0=>0
 |n+1=>cond (aE8 l (n:Int)) (n+1) (anu l n)
def Zp (l:List Tm):Nat:=anu l 256
def agk (s:cW):Bool:=decide (s.2.1.1=255/\s.1.1.length<=140737488355328)
def agl (s:cW):vi:=(((Zp s.1.1:Int),()),())
def aqd (s:cW):Bool:=decide ((0:Int)<(Zp s.1.1:Int))
def aqb (_:cW):vj:=((),())
def MQ (l:List Tm) (i:Int):cW:=((l,(),()),(i,()),())
theorem aeM (l:List Tm) (hl:l.length<=140737488355328):∀ n:Nat,n<=256->
 ∃ m,cU QI m (MQ l ((n:Int)-1))=some (cond (decide ((0:Int)<(anu l n:Int))) ⟨(.ret,A8),(((anu l n:Int),()),())⟩ ⟨(.exit 0,A9),((),())⟩)
 |0,_=>⟨1,aV (OT.au (bq (by dsimp only [MQ];omega)))⟩
 |n+1,h=>by
  rw [show ((n+1:Nat):Int)-1=(n:Int) by omega]
  have hgd:∀ z:OT (Sum cW aZ),(gd [vt ((l,(),()),((n:Int),()),())] z).run=z.run:=λz=>ae (by
   simp only [aA,aI,aJ]
   exact ag hl)
  unfold anu
  rcases (b9 (aE8 l (n:Int))).symm with hb|hb
  ·obtain ⟨m,hm⟩:=aeM l hl n (by omega)
   rw [hb]
   refine ⟨m+1,bL ?_ hm⟩
   refine (OT.ak (ag (by dsimp only [MQ];omega))).trans ((hgd _).trans ((OT.au hb).trans ((ae ?_).trans rfl)))
   simp only [aA,aI,aJ]
   exact aS (by dsimp only [MQ];omega)
  ·rw [hb]
   simp only [aK]
   rw [ag (show (0:Int)<((n+1:Nat):Int) by omega)]
   refine ⟨1,aV ?_⟩
   refine (OT.ak (ag (by dsimp only [MQ];omega))).trans ((hgd _).trans ((OT.ak hb).trans ((ae ?_).trans rfl)))
   simp only [aA,aI,aJ]
   exact aS (by dsimp only [MQ];omega)
theorem aDv:bh QI agk (aqc agl aqd aqb):=by
 rintro ⟨⟨l,⟨⟩,⟨⟩⟩,⟨⟨i,⟨⟩⟩,⟨⟩⟩⟩ h
 have h':=bn h
 dsimp only at h'
 obtain ⟨rfl,hl⟩:=h'
 obtain ⟨m,hm⟩:=aeM l hl 256 (by omega)
 refine ⟨m,_,hm,?_⟩
 show (OT.br (decide ((0:Int)<(anu l 256:Int))) _ _:OT aZ).run=some (cond (decide ((0:Int)<(anu l 256:Int))) _ _)
 cases decide ((0:Int)<(anu l 256:Int))<;>rfl
def QH (x:aqe):Bool:=decide (x.1.1.length<=140737488355328)
def aAp (x:aqe):OT Fj.Y:=.ok ⟨yq,(((Zp x.1.1:Int),()),())⟩
theorem aDu:aa aj 181 (Fj.az QH aAp):=aqa agk agl aqd aqb aDv _ _ λx oy hp ho=>by
 rw [<-ho]
 clear ho
 obtain ⟨⟨l,⟨⟩⟩,⟨⟩⟩:=x
 have hl:l.length<=140737488355328:=bn hp
 refine (ae ?_).trans ?_
 ·simp only [aA,aI,aJ]
  exact ag ⟨rfl,hl⟩
 ·show (OT.br (decide ((0:Int)<(Zp l:Int))) (.ok ⟨yq,(((Zp l:Int),()),())⟩) (.ok ⟨yq,(((0:Int),()),())⟩):OT Fj.Y).run=some ⟨yq,(((Zp l:Int),()),())⟩
  by_cases h:(0:Int)<(Zp l:Int)
  ·exact OT.ak (ag h)
  ·have e:Zp l=0:=by omega
   rw [e]
   rfl
def IV:bx:=(Fj.az QH aAp)
theorem alf:aa aj 181 IV:=aDu
theorem ale:ax IV:=av
def aBF:Env:=aq 181 IV ai0
theorem wA:bU aj te aBF:=aU follows EK alf ale
def j1:af:=⟨[aD,.val false (.list FZ),aD],[],true,0,false⟩
abbrev sN:Type:=(Int×ef×eS)×Unit
def abu:Shape:=⟨74,[jH,(1,ly),(2,aD),jO,zY,(16,aD)],[lv,Cp],0,true⟩
abbrev cj:Type:=(Int×ef×Int×mW)×kf×LA
def lK:Shape:=⟨74,[jH,(1,ly),(2,aD),jO,zY],[lv,Cp],0,true⟩
abbrev ga:Type:=(Int×ef×kR)×kf×LA
def abC (a0:Int) (a1:ef) (a2:Int) (a16:Int) (c0_0:UInt64) (c0_1:UInt64) (c0_2:UInt64) (c0_3:UInt64) (c0_4:UInt64) (c0_5:UInt64) (c0_6:UInt64) (c0_7:UInt64) (c0_8:Bool) (c1:cH):OT (Sum cj aZ):=
 let z0:ab:= {w0:=0,w1:=0,w2:=0,w3:=0}
 (.br (decide (a16<(15:Int)))
 (gd [inB a16 15,decide (Int.toNat a16+0<List.length c1),inR (a16+(1:Int))] (.ok (.inl ((a0,a1,a2,(),(),a16+(1:Int),()),(c0_0,c0_1,c0_2,c0_3,c0_4,c0_5,c0_6,c0_7,c0_8,()),List.set c1 (Int.toNat a16+0) (z0,z0,true),()))))
 (.ok (.inr ⟨(.exit 0,lK),((a0,a1,a2,(),(),()),(c0_0,c0_1,c0_2,c0_3,c0_4,c0_5,c0_6,c0_7,c0_8,()),c1,())⟩)))
def pX (s:cj):OT (Sum cj aZ):=abC s.1.1 s.1.2.1 s.1.2.2.1 s.1.2.2.2.2.2.1 s.2.1.1 s.2.1.2.1 s.2.1.2.2.1 s.2.1.2.2.2.1 s.2.1.2.2.2.2.1 s.2.1.2.2.2.2.2.1 s.2.1.2.2.2.2.2.2.1 s.2.1.2.2.2.2.2.2.2.1 s.2.1.2.2.2.2.2.2.2.2.1 s.2.2.1
def Jd (g0_0:cj->ga) (s:cj):OT aZ:=(.ok ⟨(.exit 0,lK),g0_0 s⟩)
def abt:Shape:=⟨74,[jH,(2,aD),jO,zY,(23,ly),(24,aD),(25,aD)],[lv,Cp],0,true⟩
abbrev ci:Type:=(Int×Int×Unit×Unit×ef×jM)×kf×LA
def abr:Shape:=⟨74,[jH,(2,aD),jO,zY,(10,fV),(11,aD),(23,ly),(24,aD),(25,aD),(29,aD)],aBm,0,true⟩
abbrev bj:Type:=(Int×Int×Unit×Unit×Unit×Int×ef×Int×jM)×kf×cH×aun×Unit
def lI:Shape:=⟨74,[jH,(2,aD),jO,zY,(10,fV),(11,aD),(23,ly),(24,aD),(25,aD)],aBm,0,true⟩
abbrev dq:Type:=(Int×Int×Unit×Unit×Unit×Int×ef×jM)×kf×cH×aun×Unit
def abB (a0:Int) (a2:Int) (a11:Int) (a23:ef) (a24:Int) (a25:Int) (a29:Int) (c0_0:UInt64) (c0_1:UInt64) (c0_2:UInt64) (c0_3:UInt64) (c0_4:UInt64) (c0_5:UInt64) (c0_6:UInt64) (c0_7:UInt64) (c0_8:Bool) (c1:cH) (c2_0:UInt64) (c2_1:UInt64) (c2_2:UInt64) (c2_3:UInt64) (c2_4:UInt64) (c2_5:UInt64) (c2_6:UInt64) (c2_7:UInt64) (c2_8:UInt64) (c2_9:UInt64) (c2_10:UInt64) (c2_11:UInt64) (c2_12:Bool):OT (Sum bj aZ):=
 let z0:Bool:=inR (a29+(1:Int))
 (.br (decide (a29<(4:Int)))
 (gd [inR (a2+a29)] (.br (rl {w0:=c2_0,w1:=c2_1,w2:=c2_2,w3:=c2_3} (a2+a29))
  (gd [decide ((0:Int)<=a29),z0] (.ok (.inl ((a0,a2,(),(),(),ior a11 (VM (1:Int) a29),a23,a24,a25,a29+(1:Int),()),(c0_0,c0_1,c0_2,c0_3,c0_4,c0_5,c0_6,c0_7,c0_8,()),c1,(c2_0,c2_1,c2_2,c2_3,c2_4,c2_5,c2_6,c2_7,c2_8,c2_9,c2_10,c2_11,c2_12,()),()))))
  (gd [z0] (.ok (.inl ((a0,a2,(),(),(),a11,a23,a24,a25,a29+(1:Int),()),(c0_0,c0_1,c0_2,c0_3,c0_4,c0_5,c0_6,c0_7,c0_8,()),c1,(c2_0,c2_1,c2_2,c2_3,c2_4,c2_5,c2_6,c2_7,c2_8,c2_9,c2_10,c2_11,c2_12,()),()))))))
 (.ok (.inr ⟨(.exit 4,lI),((a0,a2,(),(),(),a11,a23,a24,a25,()),(c0_0,c0_1,c0_2,c0_3,c0_4,c0_5,c0_6,c0_7,c0_8,()),c1,(c2_0,c2_1,c2_2,c2_3,c2_4,c2_5,c2_6,c2_7,c2_8,c2_9,c2_10,c2_11,c2_12,()),())⟩)))
def pW (s:bj):OT (Sum bj aZ):=abB s.1.1 s.1.2.1 s.1.2.2.2.2.2.1 s.1.2.2.2.2.2.2.1 s.1.2.2.2.2.2.2.2.1 s.1.2.2.2.2.2.2.2.2.1 s.1.2.2.2.2.2.2.2.2.2.1 s.2.1.1 s.2.1.2.1 s.2.1.2.2.1 s.2.1.2.2.2.1 s.2.1.2.2.2.2.1 s.2.1.2.2.2.2.2.1 s.2.1.2.2.2.2.2.2.1 s.2.1.2.2.2.2.2.2.2.1 s.2.1.2.2.2.2.2.2.2.2.1 s.2.2.1 s.2.2.2.1.1 s.2.2.2.1.2.1 s.2.2.2.1.2.2.1 s.2.2.2.1.2.2.2.1 s.2.2.2.1.2.2.2.2.1 s.2.2.2.1.2.2.2.2.2.1 s.2.2.2.1.2.2.2.2.2.2.1 s.2.2.2.1.2.2.2.2.2.2.2.1 s.2.2.2.1.2.2.2.2.2.2.2.2.1 s.2.2.2.1.2.2.2.2.2.2.2.2.2.1 s.2.2.2.1.2.2.2.2.2.2.2.2.2.2.1 s.2.2.2.1.2.2.2.2.2.2.2.2.2.2.2.1 s.2.2.2.1.2.2.2.2.2.2.2.2.2.2.2.2.1
def Jb (g4_4:bj->dq) (s:bj):OT aZ:=(.ok ⟨(.exit 4,lI),g4_4 s⟩)
def lJ:Shape:=⟨74,[jH,jO,zY],[lv,Cp],0,true⟩
abbrev fZ:Type:=kR×kf×LA
def Je (ok4:bj->Bool) (g4_4:bj->dq) (a0:Int) (a2:Int) (a23:ef) (a24:Int) (a25:Int) (c0_0:UInt64) (c0_1:UInt64) (c0_2:UInt64) (c0_3:UInt64) (c0_4:UInt64) (c0_5:UInt64) (c0_6:UInt64) (c0_7:UInt64) (c0_8:Bool) (c1:cH):OT (Sum ci aZ):=
 let z0:ab:= {w0:=0,w1:=0,w2:=0,w3:=0}
 let z1:cI:=(z0,z0,false)
 let z2:ab×cI:=List.getD a23 (Int.toNat a25) (z0,z1)
 let z3:=z2.fst
 let z4:=z2.snd
 let z5:=z4.fst
 let z6:=z4.snd
 let z7:=z6.fst
 let z8:bj:=((a0,a2,(),(),(),(0:Int),a23,a24,a25,(0:Int),()),(c0_0,c0_1,c0_2,c0_3,c0_4,c0_5,c0_6,c0_7,c0_8,()),c1,(z3.w0,z3.w1,z3.w2,z3.w3,z5.w0,z5.w1,z5.w2,z5.w3,z7.w0,z7.w1,z7.w2,z7.w3,z6.snd,()),())
 let z9:dq:=g4_4 z8
 let z10:=z9.fst
 let z11:=z10.snd
 let z12:=z11.snd.snd.snd.snd
 let z13:=z12.fst
 let z14:Bool:=inR (z13-(1:Int))
 let z15:Bool:=inB (z13-(1:Int)) 15
 let z16:=z9.snd
 let z17:=z16.snd
 let z18:=z17.fst
 let z19:Bool:=decide (Int.toNat (z13-(1:Int))+0<List.length z18)
 let z20:=z12.snd
 let z21:=z20.snd
 let z22:Bool:=inR (z21.snd.fst+(1:Int))
 let z23:=z10.fst
 let z24:=z11.fst
 let z25:=z20.fst
 let z26:=z21.fst
 let z27:=z16.fst
 let z28:=z27.fst
 let z29:=z27.snd
 let z30:=z29.fst
 let z31:=z29.snd
 let z32:=z31.fst
 let z33:=z31.snd
 let z34:=z33.fst
 let z35:=z33.snd
 let z36:=z35.fst
 let z37:=z35.snd
 let z38:=z37.fst
 let z39:=z37.snd
 let z40:=z39.fst
 let z41:=z39.snd
 let z42:=z41.fst
 let z43:=z41.snd.fst
 let z44:=z17.snd.fst.snd.snd.snd.snd
 let z45:=z44.snd
 let z46:=z45.snd
 let z47:=z46.snd
 let z48:=z47.snd
 let z49:=z48.snd
 let z50:=z49.snd
 let z51:=z50.snd
 (.br (decide (a25<a24))
 (gd [inB a25 (List.length a23),ok4 z8] (.br (decide ((0:Int)<z13))
  (gd [z14,z14,z15,z19,z15,z19,z22] (.ok (.inl ((z23,z24,(),(),z25,z26,z21.snd.fst+(1:Int),()),(z28,z30,z32,z34,z36,z38,z40,z42,z43,()),List.set z18 (Int.toNat (z13-(1:Int))+0) (fO z23 (List.getD z18 (Int.toNat (z13-(1:Int))+0) z1) ({w0:=z44.fst,w1:=z45.fst,w2:=z46.fst,w3:=z47.fst},{w0:=z48.fst,w1:=z49.fst,w2:=z50.fst,w3:=z51.fst},z51.snd.fst)),()))))
  (gd [z22] (.ok (.inl ((z23,z24,(),(),z25,z26,z21.snd.fst+(1:Int),()),(z28,z30,z32,z34,z36,z38,z40,z42,z43,()),z18,()))))))
 (.ok (.inr ⟨(.exit 2,lJ),((a0,(),(),()),(c0_0,c0_1,c0_2,c0_3,c0_4,c0_5,c0_6,c0_7,c0_8,()),c1,())⟩)))
def j0 (ok4:bj->Bool) (g4_4:bj->dq) (s:ci):OT (Sum ci aZ):=Je ok4 g4_4 s.1.1 s.1.2.1 s.1.2.2.2.2.1 s.1.2.2.2.2.2.1 s.1.2.2.2.2.2.2.1 s.2.1.1 s.2.1.2.1 s.2.1.2.2.1 s.2.1.2.2.2.1 s.2.1.2.2.2.2.1 s.2.1.2.2.2.2.2.1 s.2.1.2.2.2.2.2.2.1 s.2.1.2.2.2.2.2.2.2.1 s.2.1.2.2.2.2.2.2.2.2.1 s.2.2.1
def Jc (g2_2:ci->fZ) (s:ci):OT aZ:=(.ok ⟨(.exit 2,lJ),g2_2 s⟩)
def abq:Shape:=⟨74,[jH,jO,zY,(13,fV),(14,gn),(15,aD)],[lv,Cp,(2,YJ),(3,YJ)],0,true⟩
abbrev cg:Type:=(Int×Cg)×kf×cH×um
def lH:Shape:=⟨74,[jO,(14,im)],LL,0,true⟩
abbrev iz:Type:=mX×um
def abA (a0:Int) (a15:Int) (c0_0:UInt64) (c0_1:UInt64) (c0_2:UInt64) (c0_3:UInt64) (c0_4:UInt64) (c0_5:UInt64) (c0_6:UInt64) (c0_7:UInt64) (c0_8:Bool) (c1:cH) (c2_0:UInt64) (c2_1:UInt64) (c2_2:UInt64) (c2_3:UInt64) (c2_4:UInt64) (c2_5:UInt64) (c2_6:UInt64) (c2_7:UInt64) (c2_8:Bool) (c3_0:UInt64) (c3_1:UInt64) (c3_2:UInt64) (c3_3:UInt64) (c3_4:UInt64) (c3_5:UInt64) (c3_6:UInt64) (c3_7:UInt64) (c3_8:Bool):OT (Sum cg aZ):=
 let z0:ab:= {w0:=0,w1:=0,w2:=0,w3:=0}
 let z1:cI:=fO a0 ({w0:=c2_0,w1:=c2_1,w2:=c2_2,w3:=c2_3},{w0:=c2_4,w1:=c2_5,w2:=c2_6,w3:=c2_7},c2_8) (List.getD c1 (Int.toNat a15+0) (z0,z0,false))
 let z2:=z1.fst
 let z3:=z1.snd
 let z4:=z3.fst
 let z5:cI:=fO a0 ({w0:=c3_0,w1:=c3_1,w2:=c3_2,w3:=c3_3},{w0:=c3_4,w1:=c3_5,w2:=c3_6,w3:=c3_7},c3_8) z1
 let z6:=z5.fst
 let z7:=z5.snd
 let z8:=z7.fst
 (.br (decide ((0:Int)<=a15))
 (gd [inB a15 15,decide (Int.toNat a15+0<List.length c1),inR (a15-(1:Int))] (.ok (.inl ((a0,(),(),(),(),a15-(1:Int),()),(c0_0,c0_1,c0_2,c0_3,c0_4,c0_5,c0_6,c0_7,c0_8,()),c1,(z2.w0,z2.w1,z2.w2,z2.w3,z4.w0,z4.w1,z4.w2,z4.w3,z3.snd,()),(z6.w0,z6.w1,z6.w2,z6.w3,z8.w0,z8.w1,z8.w2,z8.w3,z7.snd,()),()))))
 (.ok (.inr ⟨(.exit 6,lH),(((),(),()),(c0_0,c0_1,c0_2,c0_3,c0_4,c0_5,c0_6,c0_7,c0_8,()),(c3_0,c3_1,c3_2,c3_3,c3_4,c3_5,c3_6,c3_7,c3_8,()),())⟩)))
def pV (s:cg):OT (Sum cg aZ):=abA s.1.1 s.1.2.2.2.2.2.1 s.2.1.1 s.2.1.2.1 s.2.1.2.2.1 s.2.1.2.2.2.1 s.2.1.2.2.2.2.1 s.2.1.2.2.2.2.2.1 s.2.1.2.2.2.2.2.2.1 s.2.1.2.2.2.2.2.2.2.1 s.2.1.2.2.2.2.2.2.2.2.1 s.2.2.1 s.2.2.2.1.1 s.2.2.2.1.2.1 s.2.2.2.1.2.2.1 s.2.2.2.1.2.2.2.1 s.2.2.2.1.2.2.2.2.1 s.2.2.2.1.2.2.2.2.2.1 s.2.2.2.1.2.2.2.2.2.2.1 s.2.2.2.1.2.2.2.2.2.2.2.1 s.2.2.2.1.2.2.2.2.2.2.2.2.1 s.2.2.2.2.1.1 s.2.2.2.2.1.2.1 s.2.2.2.2.1.2.2.1 s.2.2.2.2.1.2.2.2.1 s.2.2.2.2.1.2.2.2.2.1 s.2.2.2.2.1.2.2.2.2.2.1 s.2.2.2.2.1.2.2.2.2.2.2.1 s.2.2.2.2.1.2.2.2.2.2.2.2.1 s.2.2.2.2.1.2.2.2.2.2.2.2.2.1
def Ja (g6_6:cg->iz) (s:cg):OT aZ:=(.ok ⟨(.exit 6,lH),g6_6 s⟩)
def pT:aL:=⟨oZ,[],false⟩
def vu (ok0:cj->Bool) (g0_0:cj->ga) (ok4:bj->Bool) (g4_4:bj->dq) (ok2:ci->Bool) (g2_2:ci->fZ) (ok6:cg->Bool) (g6_6:cg->iz) (a0:Int) (a1:ef) (a2:Int):OT j1.Y:=
 let z0:ab:= {w0:=0,w1:=0,w2:=0,w3:=0}
 let z1:cI:=(z0,z0,false)
 let z2:cj:=((a0,a1,a2,(),(),(0:Int),()),((0:UInt64),(0:UInt64),(0:UInt64),(0:UInt64),(0:UInt64),(0:UInt64),(0:UInt64),(0:UInt64),false,()),[z1,z1,z1,z1,z1,z1,z1,z1,z1,z1,z1,z1,z1,z1,z1],())
 let z3:ga:=g0_0 z2
 let z4:=z3.fst
 let z5:=z4.snd
 let z6:=z5.fst
 let z7:=z3.snd
 let z8:=z7.fst
 let z9:=z8.snd
 let z10:=z9.snd
 let z11:=z10.snd
 let z12:=z11.snd
 let z13:=z12.snd
 let z14:=z13.snd
 let z15:=z14.snd
 let z16:ci:=((z4.fst,z5.snd.fst,(),(),z6,(↑(List.length z6):Int),(0:Int),()),(z8.fst,z9.fst,z10.fst,z11.fst,z12.fst,z13.fst,z14.fst,z15.fst,z15.snd.fst,()),z7.snd.fst,())
 let z17:fZ:=g2_2 z16
 let z18:=z17.snd
 let z19:=z18.fst
 let z20:=z19.snd
 let z21:=z20.snd
 let z22:=z21.snd
 let z23:=z22.snd
 let z24:=z23.snd
 let z25:=z24.snd
 let z26:=z25.snd
 let z27:aiv:=((0:UInt64),(0:UInt64),(0:UInt64),(0:UInt64),(0:UInt64),(0:UInt64),(0:UInt64),(0:UInt64),true,())
 let z28:cg:=((z17.fst.fst,(),(),(),(),(14:Int),()),(z19.fst,z20.fst,z21.fst,z22.fst,z23.fst,z24.fst,z25.fst,z26.fst,z26.snd.fst,()),z18.snd.fst,z27,z27,())
 let z29:=(g6_6 z28).snd.snd.fst
 let z30:=z29.snd
 let z31:=z30.snd
 let z32:=z31.snd
 let z33:=z32.snd
 let z34:=z33.snd
 let z35:=z34.snd
 let z36:=z35.snd
 (gd [ok0 z2,ok2 z16,ok6 z28] (.ok ⟨pT,((({w0:=z29.fst,w1:=z30.fst,w2:=z31.fst,w3:=z32.fst},{w0:=z33.fst,w1:=z34.fst,w2:=z35.fst,w3:=z36.fst},z36.snd.fst),()),())⟩))
theorem QU (ok0:cj->Bool) (g0_0:cj->ga) (ok4:bj->Bool) (g4_4:bj->dq) (ok2:ci->Bool) (g2_2:ci->fZ) (ok6:cg->Bool) (g6_6:cg->iz) (h0:bh pX ok0 (Jd g0_0)) (h4:bh pW ok4 (Jb g4_4)) (h2:bh (j0 ok4 g4_4) ok2 (Jc g2_2)) (h6:bh pV ok6 (Ja g6_6)) (pre:sN->Bool) (F:sN->OT j1.Y) (hF:∀ (x:sN) oy,pre x=true->(F x).run=some oy->(vu ok0 g0_0 ok4 g4_4 ok2 g2_2 ok6 g6_6 x.1.1 x.1.2.1 x.1.2.2.1).run=some oy):aa aj 182 (j1.az pre F):=
 dh wA 182 Tryz.f182 j1 [pT] (kZ wA 6 abq [(6,lH)] none none pV bE h6 (kZ wA 2 abt [(2,lJ)] none none (j0 ok4 g4_4) (kZ wA 4 abr [(4,lI)] none none pW bE h4 bE) h2 (kZ wA 0 abu [(0,lK)] none none pX bE h0 bE))) (λx=>vu ok0 g0_0 ok4 g4_4 ok2 g2_2 ok6 g6_6 x.1.1 x.1.2.1 x.1.2.2.1) hF
abbrev C13:Type:=aun
def ahg (t:Tm):C13:=(t.1.w0,t.1.w1,t.1.w2,t.1.w3,t.2.1.w0,t.2.1.w1,t.2.1.w2,t.2.1.w3,t.2.2.1.w0,t.2.2.1.w1,t.2.2.1.w2,t.2.2.1.w3,t.2.2.2,())
theorem afJ {α:Type} (x:α) (l:List α):∀ n,n<=l.length->upto (λk (o:List α)=>o.set k x) l n=List.replicate n x++l.drop n
 |0,_=>rfl
 |n+1,h=>by
  show (upto (λk (o:List α)=>o.set k x) l n).set n x=_
  rw [afJ x l n (by omega),List.set_append_right _ _ (by rw [fW];omega),fW,Nat.sub_self,mZ (by omega),List.set_cons_zero,List.replicate_succ',List.append_assoc]
  rfl
def Fo (s:cj):Bool:=decide (s.1.2.2.2.2.2.1=0/\s.2.2.1.length=15)
def I9 (s:cj):ga:=((s.1.1,s.1.2.1,s.1.2.2.1,(),(),()),s.2.1,List.replicate 15 aM,())
theorem abz:bh pX Fo (Jd I9):=by
 rintro ⟨⟨c,l,at',⟨⟩,⟨⟩,i,⟨⟩⟩,⟨c0,S,⟨⟩⟩⟩ h
 have h':=bn h
 dsimp only at h'
 obtain ⟨rfl,hS⟩:=h'
 have:=(bf (T:=pX) (λi o=>(((c,l,at',(),(),(i:Int),()),c0,o,()):cj)) (λk (o:List Pt)=>o.set k aM)
  (λo=>(⟨(.exit 0,lK),((c,l,at',(),(),()),c0,o,())⟩:aZ)) 15 S (λ_ o=>o.length=15) hS (λk o hk ho=>⟨?_,(cy ..).trans ho⟩) (λo ho=> ?_)).1
 ·obtain ⟨m,hm⟩:=this
  rw [afJ aM S 15 (by omega),List.drop_eq_nil_of_le (by omega),List.append_nil] at hm
  exact ⟨m,_,hm,rfl⟩
 ·refine (OT.ak (ag (by dsimp only;omega))).trans ((ae ?_).trans ?_)
  ·simp only [ho,cB,Nat.add_zero,aA,aI,aJ,aw]
   exact ⟨ba (by omega),ag (by omega),aS (by omega)⟩
  ·simp only [OT.jb,cB,Nat.add_zero]
   rfl
 ·exact OT.au (bq (by dsimp only;omega))
def tT (k:ab) (a:Int) (n:Nat) (d:Int):Int:=cond (rl k (a+(n:Int))) (ior d (VM 1 (n:Int))) d
def Xn (k:ab) (a:Int):Int:=upto (tT k a) 0 4
def aA6 (b:Bool):Int:=cond b 1 0
theorem asI (k:ab) (a:Int):Xn k a=aA6 (rl k a)+2*aA6 (rl k (a+1))+4*aA6 (rl k (a+2))+8*aA6 (rl k (a+3)):=by
 have e0:a+((0:Nat):Int)=a:=by omega
 show tT k a 3 (tT k a 2 (tT k a 1 (tT k a 0 0)))=_
 unfold tT
 rw [e0,show a+((1:Nat):Int)=a+1 by omega,show a+((2:Nat):Int)=a+2 by omega,show a+((3:Nat):Int)=a+3 by omega]
 generalize rl k a=b0
 generalize rl k (a+1)=b1
 generalize rl k (a+2)=b2
 generalize rl k (a+3)=b3
 cases b0<;>cases b1<;>cases b2<;>cases b3<;>decide+kernel
theorem asH (k:ab) (a:Int):0<=Xn k a/\Xn k a<=15:=by
 rw [asI]
 have h:∀ b,0<=aA6 b/\aA6 b<=1:=λb=>by cases b<;>decide
 have h0:=h (rl k a)
 have h1:=h (rl k (a+1))
 have h2:=h (rl k (a+2))
 have h3:=h (rl k (a+3))
 omega
def adL (c at' d:Int) (l:List Tm) (n i:Int) (b:Int) (c0:C9) (S:List Pt) (t:C13):bj:=((c,at',(),(),(),d,l,n,i,b,()),c0,S,t,())
def keyOf (t:C13):ab:=⟨t.1,t.2.1,t.2.2.1,t.2.2.2.1⟩
def nD (s:bj):Bool:=decide (s.1.2.2.2.2.2.1=0/\s.1.2.2.2.2.2.2.2.2.2.1=0/\0<=s.1.2.1/\s.1.2.1<=1000)
def pU (s:bj):dq:=((s.1.1,s.1.2.1,(),(),(),Xn (keyOf s.2.2.2.1) s.1.2.1,s.1.2.2.2.2.2.2.1,s.1.2.2.2.2.2.2.2.1,s.1.2.2.2.2.2.2.2.2.1,()),s.2)
theorem abx:bh pW nD (Jb pU):=by
 rintro ⟨⟨c,at',⟨⟩,⟨⟩,⟨⟩,d,l,n,i,b,⟨⟩⟩,⟨c0,S,t,⟨⟩⟩⟩ h
 have h':=bn h
 dsimp only at h'
 obtain ⟨rfl,rfl,ha0,ha1⟩:=h'
 have:=(bf (T:=pW) (λb d=>(((c,at',(),(),(),d,l,n,i,(b:Int),()),c0,S,t,()):bj)) (tT (keyOf t) at')
  (λd=>(⟨(.exit 4,lI),((c,at',(),(),(),d,l,n,i,()),c0,S,t,())⟩:aZ)) 4 0 (λ_ _=>True) trivial (λk d hk _=>⟨?_,trivial⟩) (λd _=> ?_)).1
 ·obtain ⟨m,hm⟩:=this
  exact ⟨m,_,hm,rfl⟩
 ·have hr:inR ((k:Int)+1)=true:=aS (by omega)
  have hgr:∀ z:OT (Sum bj aZ),(gd [inR ((k:Int)+1)] z).run=z.run:=λz=>ae (by rw [hr];rfl)
  refine (OT.ak (ag (by dsimp only;omega))).trans ((ae ?_).trans ?_)
  ·simp only [aA,aI,aJ]
   exact aS (by omega)
  ·unfold tT
   rcases (b9 (rl (keyOf t) (at'+(k:Int)))).symm with hb|hb
   ·rw [hb]
    exact (OT.au hb).trans ((hgr _).trans rfl)
   ·rw [hb]
    refine (OT.ak hb).trans ((ae ?_).trans rfl)
    simp only [aA,aI,aJ,aw]
    exact ⟨ag (by omega),hr⟩
 ·exact OT.au (bq (by dsimp only;omega))
def fc (c a:Int) (l:List Tm) (k:Nat) (S:List Pt):List Pt:=cond (decide (0<Xn (l.getD k lg).1 a))
 (S.set (Xn (l.getD k lg).1 a-1).toNat (fO c (S.getD (Xn (l.getD k lg).1 a-1).toNat fa) (l.getD k lg).2)) S
theorem mO (c a:Int) (l:List Tm) (k:Nat) (S:List Pt):(fc c a l k S).length=S.length:=by
 unfold fc
 cases decide (0<Xn (l.getD k lg).1 a)
 ·rfl
 ·exact cy ..
def aCQ (c a:Int) (l:List Tm) (S:List Pt):List Pt:=upto (fc c a l) S l.length
def Fm (s:ci):Bool:=decide (s.1.2.2.2.2.2.1=(s.1.2.2.2.2.1.length:Int)/\s.1.2.2.2.2.2.2.1=0/\s.2.2.1.length=15/\(0<=s.1.2.1/\s.1.2.1<=1000)/\s.1.2.2.2.2.1.length<=140737488355328)
def I8 (s:ci):fZ:=((s.1.1,(),(),()),s.2.1,aCQ s.1.1 s.1.2.1 s.1.2.2.2.2.1 s.2.2.1,())
theorem aED {ok4:bj->Bool} {g4:bj->dq} {c a:Int} {l:List Tm} {k:Nat} {c0:C9} {S:List Pt} {t:Tm} {d:Int} (ht:l.getD k lg=t) (hk:k<l.length) (hl:l.length<=140737488355328) (hS:S.length=15) (hd:0<=d/\d<=15)
 (h4:ok4 (adL c a 0 l (l.length:Int) (k:Int) 0 c0 S (ahg t))=true)
 (e4:g4 (adL c a 0 l (l.length:Int) (k:Int) 0 c0 S (ahg t))=((c,a,(),(),(),d,l,(l.length:Int),(k:Int),()),c0,S,ahg t,())):
 (j0 ok4 g4 ((c,a,(),(),l,(l.length:Int),(k:Int),()),c0,S,())).run=some (.inl ((c,a,(),(),l,(l.length:Int),((k+1:Nat):Int),()),c0,cond (decide (0<d)) (S.set (d-1).toNat (fO c (S.getD (d-1).toNat fa) t.2)) S,())):=by
 have hr:inR ((k:Int)+1)=true:=aS (by omega)
 unfold adL at h4 e4
 unfold j0 Je
 have ht':List.getD l (Int.toNat (k:Int)) (⟨0,0,0,0⟩,⟨0,0,0,0⟩,⟨0,0,0,0⟩,false)=t:=by rw [cB];exact ht
 simp only [ht']
 refine (OT.ak (ag (by omega))).trans ((ae ?_).trans ?_)
 ·simp only [aA,aI,aJ,aw]
  exact ⟨ba (by omega),h4⟩
 ·have e4':g4 ((c,a,(),(),(),0,l,(l.length:Int),(k:Int),0,()),(c0.1,c0.2.1,c0.2.2.1,c0.2.2.2.1,c0.2.2.2.2.1,c0.2.2.2.2.2.1,c0.2.2.2.2.2.2.1,c0.2.2.2.2.2.2.2.1,c0.2.2.2.2.2.2.2.2.1,()),S,(t.1.w0,t.1.w1,t.1.w2,t.1.w3,t.2.1.w0,t.2.1.w1,t.2.1.w2,t.2.1.w3,t.2.2.1.w0,t.2.2.1.w1,t.2.2.1.w2,t.2.2.1.w3,t.2.2.2,()),())=((c,a,(),(),(),d,l,(l.length:Int),(k:Int),()),c0,S,ahg t,()):=e4
  simp only [e4']
  by_cases h0:0<d
  ·rw [ag h0]
   refine (OT.ak rfl).trans ((ae ?_).trans ?_)
   ·simp only [hS,Nat.add_zero,hr,aA,aI,aJ,aw]
    have i1:inR (d-1)=true:=aS (by omega)
    have i2:inB (d-1) 15=true:=ba (by omega)
    have i3:decide ((d-1).toNat<15)=true:=ag (by omega)
    exact ⟨i1,i1,i2,i3,i2,i3⟩
   ·rfl
  ·rw [bq h0]
   refine (OT.au rfl).trans ((ae ?_).trans rfl)
   simp only [hr,aA,aI,aJ]
theorem aby:bh (j0 nD pU) Fm (Jc I8):=by
 rintro ⟨⟨c,at',⟨⟩,⟨⟩,l,n,i,⟨⟩⟩,⟨c0,S,⟨⟩⟩⟩ h
 have h':=bn h
 dsimp only at h'
 obtain ⟨rfl,rfl,hS,⟨ha0,ha1⟩,hl⟩:=h'
 have:=(bf (T:=j0 nD pU) (λi o=>(((c,at',(),(),l,(l.length:Int),(i:Int),()),c0,o,()):ci)) (fc c at' l)
  (λo=>(⟨(.exit 2,lJ),((c,(),(),()),c0,o,())⟩:aZ)) l.length S (λ_ o=>o.length=15) hS (λk o hk ho=>⟨?_,(mO c at' l k o).trans ho⟩) (λo ho=> ?_)).1
 ·obtain ⟨m,hm⟩:=this
  exact ⟨m,_,hm,rfl⟩
 ·exact aED rfl hk hl ho (asH _ _) (ag ⟨rfl,rfl,ha0,ha1⟩) rfl
 ·exact OT.au (bq (by dsimp only;omega))
def ir (c:Int) (S:List Pt) (n:Nat) (w:Pt×Pt):Pt×Pt:=(fO c w.1 (S.getD (14-n) fa),fO c w.2 (fO c w.1 (S.getD (14-n) fa)))
def aGP (c:Int) (S:List Pt):Pt×Pt:=upto (ir c S) (aM,aM) 15
def Fl (s:cg):Bool:=decide (s.1.2.2.2.2.2.1=14/\s.2.2.1.length=15/\KW s.2.2.2.1=aM/\KW s.2.2.2.2.1=aM)
def I7 (s:cg):iz:=(((),(),()),s.2.1,bP (aGP s.1.1 s.2.2.1).2,())
theorem abw:bh pV Fl (Ja I7):=by
 rintro ⟨⟨c,⟨⟩,⟨⟩,⟨⟩,⟨⟩,i,⟨⟩⟩,⟨c0,S,r,a,⟨⟩⟩⟩ h
 have h':=bn h
 dsimp only at h'
 obtain ⟨rfl,hS,hr,ha⟩:=h'
 have hr2:r=bP aM:=by rw [<-hr];rfl
 have ha2:a=bP aM:=by rw [<-ha];rfl
 subst hr2 ha2
 have:=(bf (T:=pV) (λn w=>(((c,(),(),(),(),14-(n:Int),()),c0,S,bP w.1,bP w.2,()):cg)) (ir c S)
  (λw=>(⟨(.exit 6,lH),(((),(),()),c0,bP w.2,())⟩:aZ)) 15 (aM,aM) (λ_ _=>True) trivial (λn w hn _=>⟨?_,trivial⟩) (λw _=> ?_)).1
 ·obtain ⟨m,hm⟩:=this
  exact ⟨m,_,hm,rfl⟩
 ·have e1:((14:Int)-(n:Int)).toNat=14-n:=by omega
  have e2:(14:Int)-(n:Int)-1=14-((n+1:Nat):Int):=by omega
  refine (OT.ak (ag (by dsimp only;omega))).trans ((ae ?_).trans ?_)
  ·simp only [e1,hS,Nat.add_zero,aA,aI,aJ,aw]
   exact ⟨ba (by omega),ag (by omega),aS (by omega)⟩
  ·rw [<-e2]
   simp only [OT.jb,e1,Nat.add_zero]
   rfl
 ·exact OT.au (bq (by dsimp only;omega))
def adM (c:Int) (l:List Tm) (a:Int):Pt:=(aGP c (aCQ c a l (List.replicate 15 aM))).2
theorem QV {ok4:bj->Bool} {g4:bj->dq} {ok0:cj->Bool} {g0:cj->ga} {ok2:ci->Bool} {g2:ci->fZ} {ok6:cg->Bool} {g6:cg->iz} {c a:Int} {l:List Tm} {S0 S:List Pt} {R:Pt} {z:C9}
 (h0:ok0 ((c,l,a,(),(),0,()),bP fa,List.replicate 15 fa,())=true) (e0:g0 ((c,l,a,(),(),0,()),bP fa,List.replicate 15 fa,())=((c,l,a,(),(),()),bP fa,S0,()))
 (h2:ok2 ((c,a,(),(),l,(l.length:Int),0,()),bP fa,S0,())=true) (e2:g2 ((c,a,(),(),l,(l.length:Int),0,()),bP fa,S0,())=((c,(),(),()),bP fa,S,()))
 (h6:ok6 ((c,(),(),(),(),14,()),bP fa,S,bP aM,bP aM,())=true) (e6:g6 ((c,(),(),(),(),14,()),bP fa,S,bP aM,bP aM,())=(((),(),()),z,bP R,())):
 (vu ok0 g0 ok4 g4 ok2 g2 ok6 g6 c l a).run=some ⟨pT,((R,()),())⟩:=by
 have e0':g0 ((c,l,a,(),(),0,()),(0,0,0,0,0,0,0,0,false,()),[((⟨0,0,0,0⟩,⟨0,0,0,0⟩,false):Pt),((⟨0,0,0,0⟩,⟨0,0,0,0⟩,false):Pt),((⟨0,0,0,0⟩,⟨0,0,0,0⟩,false):Pt),((⟨0,0,0,0⟩,⟨0,0,0,0⟩,false):Pt),((⟨0,0,0,0⟩,⟨0,0,0,0⟩,false):Pt),((⟨0,0,0,0⟩,⟨0,0,0,0⟩,false):Pt),((⟨0,0,0,0⟩,⟨0,0,0,0⟩,false):Pt),((⟨0,0,0,0⟩,⟨0,0,0,0⟩,false):Pt),((⟨0,0,0,0⟩,⟨0,0,0,0⟩,false):Pt),((⟨0,0,0,0⟩,⟨0,0,0,0⟩,false):Pt),((⟨0,0,0,0⟩,⟨0,0,0,0⟩,false):Pt),((⟨0,0,0,0⟩,⟨0,0,0,0⟩,false):Pt),((⟨0,0,0,0⟩,⟨0,0,0,0⟩,false):Pt),((⟨0,0,0,0⟩,⟨0,0,0,0⟩,false):Pt),((⟨0,0,0,0⟩,⟨0,0,0,0⟩,false):Pt)],())=((c,l,a,(),(),()),bP fa,S0,()):=e0
 have e2':g2 ((c,a,(),(),l,(l.length:Int),0,()),((bP fa).1,(bP fa).2.1,(bP fa).2.2.1,(bP fa).2.2.2.1,(bP fa).2.2.2.2.1,(bP fa).2.2.2.2.2.1,(bP fa).2.2.2.2.2.2.1,(bP fa).2.2.2.2.2.2.2.1,(bP fa).2.2.2.2.2.2.2.2.1,()),S0,())=((c,(),(),()),bP fa,S,()):=e2
 have e6':g6 ((c,(),(),(),(),14,()),((bP fa).1,(bP fa).2.1,(bP fa).2.2.1,(bP fa).2.2.2.1,(bP fa).2.2.2.2.1,(bP fa).2.2.2.2.2.1,(bP fa).2.2.2.2.2.2.1,(bP fa).2.2.2.2.2.2.2.1,(bP fa).2.2.2.2.2.2.2.2.1,()),S,(0,0,0,0,0,0,0,0,true,()),(0,0,0,0,0,0,0,0,true,()),())=(((),(),()),z,bP R,()):=e6
 unfold vu
 simp only [e0',e2',e6']
 refine (ae ?_).trans rfl
 simp only [aA,aI,aJ,aw]
 exact ⟨h0,h2,h6⟩
theorem HT (c a:Int) (l:List Tm) (S:List Pt):∀ n,(upto (fc c a l) S n).length=S.length
 |0=>rfl
 |n+1=>(mO c a l n _).trans (HT c a l S n)
def sM (x:sN):Bool:=decide ((0<=x.1.2.2.1/\x.1.2.2.1<=1000)/\x.1.2.1.length<=140737488355328)
def NE (x:sN):OT j1.Y:=.ok ⟨pT,((adM x.1.1 x.1.2.1 x.1.2.2.1,()),())⟩
theorem abv:aa aj 182 (j1.az sM NE):=QU Fo I9 nD pU Fm I8 Fl I7 abz abx aby abw _ _ λx oy hp ho=>by
 rw [<-ho]
 clear ho
 obtain ⟨⟨c,l,a,⟨⟩⟩,⟨⟩⟩:=x
 obtain ⟨ha,hl⟩:=bn hp
 exact QV (S0:=List.replicate 15 aM) (S:=aCQ c a l (List.replicate 15 aM)) (R:=adM c l a) (z:=bP fa) (ag ⟨rfl,rfl⟩) rfl
  (ag ⟨rfl,rfl,rfl,ha,hl⟩) rfl (ag ⟨rfl,HT c a l _ l.length,rfl,rfl⟩) rfl
def pR:bx:=(j1.az sM NE)
theorem Mm:aa aj 182 pR:=abv
theorem Ml:ax pR:=av
def O5:Env:=aq 182 pR aBF
theorem nW:bU aj te O5:=aU follows wA Mm Ml
def yu:af:=⟨[aD,.val false (.list FZ)],[],true,0,false⟩
abbrev Vr:Type:=aii
def axl:Shape:=⟨39,[jH,(1,ly),ej,uo,(6,aD)],LL,0,true⟩
abbrev dH:Type:=aip
def axk:Shape:=⟨39,[jH,(1,ly),ej,uo,(6,aD),(24,aD)],LL,0,true⟩
abbrev cp:Type:=(Int×ef×ry)×um
def vm:Shape:=⟨39,[jH,(1,ly),ej,uo,(6,aD)],LL,0,true⟩
abbrev gH:Type:=aip
def axp (a0:Int) (a1:ef) (a6:Int) (a24:Int) (c0_0:UInt64) (c0_1:UInt64) (c0_2:UInt64) (c0_3:UInt64) (c0_4:UInt64) (c0_5:UInt64) (c0_6:UInt64) (c0_7:UInt64) (c0_8:Bool) (c1_0:UInt64) (c1_1:UInt64) (c1_2:UInt64) (c1_3:UInt64) (c1_4:UInt64) (c1_5:UInt64) (c1_6:UInt64) (c1_7:UInt64) (c1_8:Bool):OT (Sum cp aZ):=
 let z0:cI:=({w0:=c1_0,w1:=c1_1,w2:=c1_2,w3:=c1_3},{w0:=c1_4,w1:=c1_5,w2:=c1_6,w3:=c1_7},c1_8)
 let z1:cI:=fO a0 z0 z0
 let z2:=z1.fst
 let z3:=z1.snd
 let z4:=z3.fst
 (.br (decide (a24<(4:Int)))
 (gd [inR (a24+(1:Int))] (.ok (.inl ((a0,a1,(),(),a6,a24+(1:Int),()),(c0_0,c0_1,c0_2,c0_3,c0_4,c0_5,c0_6,c0_7,c0_8,()),(z2.w0,z2.w1,z2.w2,z2.w3,z4.w0,z4.w1,z4.w2,z4.w3,z3.snd,()),()))))
 (.ok (.inr ⟨(.exit 2,vm),((a0,a1,(),(),a6,()),(c0_0,c0_1,c0_2,c0_3,c0_4,c0_5,c0_6,c0_7,c0_8,()),(c1_0,c1_1,c1_2,c1_3,c1_4,c1_5,c1_6,c1_7,c1_8,()),())⟩)))
def GH (s:cp):OT (Sum cp aZ):=axp s.1.1 s.1.2.1 s.1.2.2.2.2.1 s.1.2.2.2.2.2.1 s.2.1.1 s.2.1.2.1 s.2.1.2.2.1 s.2.1.2.2.2.1 s.2.1.2.2.2.2.1 s.2.1.2.2.2.2.2.1 s.2.1.2.2.2.2.2.2.1 s.2.1.2.2.2.2.2.2.2.1 s.2.1.2.2.2.2.2.2.2.2.1 s.2.2.1.1 s.2.2.1.2.1 s.2.2.1.2.2.1 s.2.2.1.2.2.2.1 s.2.2.1.2.2.2.2.1 s.2.2.1.2.2.2.2.2.1 s.2.2.1.2.2.2.2.2.2.1 s.2.2.1.2.2.2.2.2.2.2.1 s.2.2.1.2.2.2.2.2.2.2.2.1
def agn (g2_2:cp->gH) (s:cp):OT aZ:=(.ok ⟨(.exit 2,vm),g2_2 s⟩)
def vn:Shape:=⟨39,[ej,uo],LL,0,true⟩
abbrev my:Type:=mX×um
def agp (ok2:cp->Bool) (g2_2:cp->gH) (a0:Int) (a1:ef) (a6:Int) (c0_0:UInt64) (c0_1:UInt64) (c0_2:UInt64) (c0_3:UInt64) (c0_4:UInt64) (c0_5:UInt64) (c0_6:UInt64) (c0_7:UInt64) (c0_8:Bool) (c1_0:UInt64) (c1_1:UInt64) (c1_2:UInt64) (c1_3:UInt64) (c1_4:UInt64) (c1_5:UInt64) (c1_6:UInt64) (c1_7:UInt64) (c1_8:Bool):OT (Sum dH aZ):=
 let z0:cp:=((a0,a1,(),(),a6,(0:Int),()),(c0_0,c0_1,c0_2,c0_3,c0_4,c0_5,c0_6,c0_7,c0_8,()),(c1_0,c1_1,c1_2,c1_3,c1_4,c1_5,c1_6,c1_7,c1_8,()),())
 let z1:dH:=g2_2 z0
 let z2:=z1.fst
 let z3:=z2.fst
 let z4:=z2.snd
 let z5:=z4.fst
 let z6:=z4.snd.snd.snd.fst
 let z7:=z1.snd
 let z8:=z7.fst
 let z9:=z8.snd
 let z10:=z9.snd
 let z11:=z10.snd
 let z12:=z11.snd
 let z13:=z12.snd
 let z14:=z13.snd
 let z15:=z14.snd
 let z16:=z7.snd.fst
 let z17:=z16.snd
 let z18:=z17.snd
 let z19:=z18.snd
 let z20:=z19.snd
 let z21:=z20.snd
 let z22:=z21.snd
 let z23:=z22.snd
 let z24:cI:=fO z3 ({w0:=z16.fst,w1:=z17.fst,w2:=z18.fst,w3:=z19.fst},{w0:=z20.fst,w1:=z21.fst,w2:=z22.fst,w3:=z23.fst},z23.snd.fst) (adM z3 z5 z6)
 let z25:=z24.fst
 let z26:=z24.snd
 let z27:=z26.fst
 (.br (decide ((0:Int)<=a6))
 (gd [ok2 z0,sM ((z3,z5,z6,()),()),inR (z6-(4:Int))] (.ok (.inl ((z3,z5,(),(),z6-(4:Int),()),(z8.fst,z9.fst,z10.fst,z11.fst,z12.fst,z13.fst,z14.fst,z15.fst,z15.snd.fst,()),(z25.w0,z25.w1,z25.w2,z25.w3,z27.w0,z27.w1,z27.w2,z27.w3,z26.snd,()),()))))
 (.ok (.inr ⟨(.exit 0,vn),(((),(),()),(c0_0,c0_1,c0_2,c0_3,c0_4,c0_5,c0_6,c0_7,c0_8,()),(c1_0,c1_1,c1_2,c1_3,c1_4,c1_5,c1_6,c1_7,c1_8,()),())⟩)))
def vo (ok2:cp->Bool) (g2_2:cp->gH) (s:dH):OT (Sum dH aZ):=agp ok2 g2_2 s.1.1 s.1.2.1 s.1.2.2.2.2.1 s.2.1.1 s.2.1.2.1 s.2.1.2.2.1 s.2.1.2.2.2.1 s.2.1.2.2.2.2.1 s.2.1.2.2.2.2.2.1 s.2.1.2.2.2.2.2.2.1 s.2.1.2.2.2.2.2.2.2.1 s.2.1.2.2.2.2.2.2.2.2.1 s.2.2.1.1 s.2.2.1.2.1 s.2.2.1.2.2.1 s.2.2.1.2.2.2.1 s.2.2.1.2.2.2.2.1 s.2.2.1.2.2.2.2.2.1 s.2.2.1.2.2.2.2.2.2.1 s.2.2.1.2.2.2.2.2.2.2.1 s.2.2.1.2.2.2.2.2.2.2.2.1
def ago (g0_0:dH->my) (s:dH):OT aZ:=(.ok ⟨(.exit 0,vn),g0_0 s⟩)
def vl:aL:=⟨oZ,[],false⟩
def IZ (ok2:cp->Bool) (g2_2:cp->gH) (ok0:dH->Bool) (g0_0:dH->my) (a0:Int) (a1:ef):OT yu.Y:=
 let z0:Int:=Int.tdiv ((↑(Zp a1):Int)+(4:Int)-(1:Int)) (4:Int)
 let z1:dH:=((a0,a1,(),(),z0*(4:Int),()),((0:UInt64),(0:UInt64),(0:UInt64),(0:UInt64),(0:UInt64),(0:UInt64),(0:UInt64),(0:UInt64),false,()),((0:UInt64),(0:UInt64),(0:UInt64),(0:UInt64),(0:UInt64),(0:UInt64),(0:UInt64),(0:UInt64),true,()),())
 let z2:=(g0_0 z1).snd.snd.fst
 let z3:=z2.snd
 let z4:=z3.snd
 let z5:=z4.snd
 let z6:=z5.snd
 let z7:=z6.snd
 let z8:=z7.snd
 let z9:=z8.snd
 (.br (decide ((↑(List.length a1):Int)<(24:Int)))
 (gd [yv ((a0,a1,()),())] (.ok ⟨vl,((py a0 a1,()),())⟩))
 (gd [QH ((a1,()),()),inR ((↑(Zp a1):Int)+(4:Int)),inR ((↑(Zp a1):Int)+(4:Int)-(1:Int)),true&&inR z0,inR (z0*(4:Int)),ok0 z1] (.ok ⟨vl,((({w0:=z2.fst,w1:=z3.fst,w2:=z4.fst,w3:=z5.fst},{w0:=z6.fst,w1:=z7.fst,w2:=z8.fst,w3:=z9.fst},z9.snd.fst),()),())⟩)))
theorem alj (ok2:cp->Bool) (g2_2:cp->gH) (ok0:dH->Bool) (g0_0:dH->my) (h2:bh GH ok2 (agn g2_2)) (h0:bh (vo ok2 g2_2) ok0 (ago g0_0)) (pre:Vr->Bool) (F:Vr->OT yu.Y) (hF:∀ (x:Vr) oy,pre x=true->(F x).run=some oy->(IZ ok2 g2_2 ok0 g0_0 x.1.1 x.1.2.1).run=some oy):aa aj 160 (yu.az pre F):=
 dh nW 160 Tryz.f160 yu [vl] (kZ nW 0 axl [(0,vn)] none none (vo ok2 g2_2) (kZ nW 2 axk [(2,vm)] none none GH bE h2 bE) h0 bE) (λx=>IZ ok2 g2_2 ok0 g0_0 x.1.1 x.1.2.1) hF
theorem Z7 (l:List Tm):∀ n,anu l n<=n
 |0=>Nat.le_refl _
 |n+1=>by
  unfold anu
  cases aE8 l (n:Int)
  ·exact Nat.le_succ_of_le (Z7 l n)
  ·exact Nat.le_refl _
def aGi (c:Int) (O:Pt):Pt:=upto (λ_ o=>fO c o o) O 4
def sJ (s:cp):Bool:=decide (s.1.2.2.2.2.2.1=0)
def Bc (s:cp):gH:=((s.1.1,s.1.2.1,(),(),s.1.2.2.2.2.1,()),s.2.1,bP (aGi s.1.1 (KW s.2.2.1)),())
theorem axn:bh GH sJ (agn Bc):=by
 rintro ⟨⟨c,l,⟨⟩,⟨⟩,a,i,⟨⟩⟩,⟨c0,c1,⟨⟩⟩⟩ h
 have h':=bn h
 dsimp only at h'
 subst h'
 have:=(bf (T:=GH) (λi O=>(((c,l,(),(),a,(i:Int),()),c0,bP O,()):cp)) (λ_ o=>fO c o o)
  (λO=>(⟨(.exit 2,vm),((c,l,(),(),a,()),c0,bP O,())⟩:aZ)) 4 (KW c1) (λ_ _=>True) trivial (λk O hk _=>⟨?_,trivial⟩) (λO _=> ?_)).1
 ·obtain ⟨m,hm⟩:=this
  exact ⟨m,_,hm,rfl⟩
 ·refine (OT.ak (ag (by dsimp only;omega))).trans ((ae ?_).trans rfl)
  simp only [aA,aI,aJ]
  exact aS (by omega)
 ·exact OT.au (bq (by dsimp only;omega))
def nX (c:Int) (l:List Tm) (W n:Nat) (O:Pt):Pt:=fO c (aGi c O) (adM c l (4*(W:Int)-4*(n:Int)))
def re (l:List Tm):Nat:=(Zp l+3)/4
def aGK (c:Int) (l:List Tm):Pt:=upto (nX c l (re l)) aM (re l+1)
def anR (c:Int) (l:List Tm) (a:Int) (c0:C9) (O:Pt):cp:=((c,l,(),(),a,0,()),c0,bP O,())
theorem aFd {ok2:cp->Bool} {g2:cp->gH} {c a:Int} {l:List Tm} {c0:C9} {O D:Pt} (h0:0<=a) (h1:a<=1000) (hl:l.length<=140737488355328) (hok:ok2 (anR c l a c0 O)=true)
 (e2:g2 (anR c l a c0 O)=((c,l,(),(),a,()),c0,bP D,())):
 (vo ok2 g2 ((c,l,(),(),a,()),c0,bP O,())).run=some (.inl ((c,l,(),(),a-4,()),c0,bP (fO c D (adM c l a)),())):=by
 unfold anR at hok e2
 have e2':g2 ((c,l,(),(),a,0,()),(c0.1,c0.2.1,c0.2.2.1,c0.2.2.2.1,c0.2.2.2.2.1,c0.2.2.2.2.2.1,c0.2.2.2.2.2.2.1,c0.2.2.2.2.2.2.2.1,c0.2.2.2.2.2.2.2.2.1,()),((bP O).1,(bP O).2.1,(bP O).2.2.1,(bP O).2.2.2.1,(bP O).2.2.2.2.1,(bP O).2.2.2.2.2.1,(bP O).2.2.2.2.2.2.1,(bP O).2.2.2.2.2.2.2.1,(bP O).2.2.2.2.2.2.2.2.1,()),())=((c,l,(),(),a,()),c0,bP D,()):=e2
 unfold vo agp
 simp only [e2']
 refine (OT.ak (ag h0)).trans ((ae ?_).trans rfl)
 simp only [aA,aI,aJ,aw]
 exact ⟨hok,ag ⟨⟨h0,h1⟩,hl⟩,aS (by omega)⟩
def IY (s:dH):Bool:=decide (s.1.2.2.2.2.1=4*(re s.1.2.1:Int)/\KW s.2.2.1=aM/\s.1.2.1.length<=140737488355328)
def QM (s:dH):my:=(((),(),()),s.2.1,bP (aGK s.1.1 s.1.2.1),())
theorem axo:bh (vo sJ Bc) IY (ago QM):=by
 rintro ⟨⟨c,l,⟨⟩,⟨⟩,a,⟨⟩⟩,⟨c0,c1,⟨⟩⟩⟩ h
 have h':=bn h
 dsimp only at h'
 obtain ⟨rfl,hO,hl⟩:=h'
 have hO2:c1=bP aM:=by rw [<-hO];rfl
 subst hO2
 have hW:re l<=64:=by
  have:=Z7 l 256
  unfold re Zp
  omega
 have:=(bf (T:=vo sJ Bc) (λn O=>(((c,l,(),(),4*(re l:Int)-4*(n:Int),()),c0,bP O,()):dH)) (nX c l (re l))
  (λO=>(⟨(.exit 0,vn),(((),(),()),c0,bP O,())⟩:aZ)) (re l+1) aM (λ_ _=>True) trivial (λn O hn _=>⟨?_,trivial⟩) (λO _=> ?_)).1
 ·obtain ⟨m,hm⟩:=this
  refine ⟨m,_,?_,rfl⟩
  have e:4*(re l:Int)-4*((0:Nat):Int)=4*(re l:Int):=by omega
  rw [e] at hm
  exact hm
 ·have e:4*(re l:Int)-4*((n+1:Nat):Int)=4*(re l:Int)-4*(n:Int)-4:=by omega
  rw [e]
  exact aFd (D:=aGi c O) (by omega) (by omega) hl (ag rfl) rfl
 ·exact OT.au (bq (by dsimp only;omega))
def aGX (l:List Tm):Bool:=decide ((l.length:Int)<24)
def AF (c:Int) (l:List Tm):Pt:=cond (aGX l) (py c l) (aGK c l)
def Bb (x:Vr):Bool:=decide (x.1.2.1.length<=140737488355328)
def aqn (x:Vr):OT yu.Y:=.ok ⟨vl,((AF x.1.1 x.1.2.1,()),())⟩
theorem alk {ok2:cp->Bool} {g2:cp->gH} {ok0:dH->Bool} {g0:dH->my} {c:Int} {l:List Tm} {R:Pt} (hl:l.length<=140737488355328) (hf:aGX l=false)
 (h0:ok0 ((c,l,(),(),4*(re l:Int),()),bP fa,bP aM,())=true) (e0:g0 ((c,l,(),(),4*(re l:Int),()),bP fa,bP aM,())=(((),(),()),bP fa,bP R,())):
 (IZ ok2 g2 ok0 g0 c l).run=some ⟨vl,((R,()),())⟩:=by
 have ht:Int.tdiv ((Zp l:Int)+4-1) 4=(re l:Int):=by
  unfold re
  rw [Int.tdiv_eq_ediv_of_nonneg (by omega)]
  omega
 have hW:=Z7 l 256
 have hW:Zp l<=256:=hW
 have hW2:re l<=64:=by unfold re;omega
 have e1:(re l:Int)*4=4*(re l:Int):=Int.mul_comm _ _
 unfold IZ
 have e0':g0 ((c,l,(),(),4*(re l:Int),()),(0,0,0,0,0,0,0,0,false,()),(0,0,0,0,0,0,0,0,true,()),())=(((),(),()),bP fa,bP R,()):=e0
 simp only [ht,e1,e0']
 refine (OT.au hf).trans ((ae ?_).trans rfl)
 simp only [aA,aI,aJ,Bool.true_and,aw]
 exact ⟨ag hl,aS (by omega),aS (by omega),aS (by omega),aS (by omega),h0⟩
theorem axm:aa aj 160 (yu.az Bb aqn):=alj sJ Bc IY QM axn axo _ _ λx oy hp ho=>by
 rw [<-ho]
 clear ho
 obtain ⟨⟨c,l,⟨⟩⟩,⟨⟩⟩:=x
 have hl:l.length<=140737488355328:=bn hp
 show (IZ sJ Bc IY QM c l).run=some ⟨vl,((AF c l,()),())⟩
 rcases (b9 (aGX l)).symm with hf|hf
 ·have e:AF c l=aGK c l:=by unfold AF;rw [hf];rfl
  rw [e]
  exact alk (R:=aGK c l) hl hf (ag ⟨rfl,rfl,hl⟩) rfl
 ·have e:AF c l=py c l:=by unfold AF;rw [hf];rfl
  rw [e]
  refine (OT.ak hf).trans ((ae ?_).trans rfl)
  simp only [aA,aI,aJ]
  exact hp
def Du:bx:=(yu.az Bb aqn)
theorem abn:aa aj 160 Du:=axm
theorem abm:ax Du:=av
def auM:Env:=aq 160 Du O5
theorem YX:bU aj te auM:=aU follows nW abn abm
def pM:af:=⟨o0,[(0,aH4 kg),(1,.row FZ)],false,2,true⟩
abbrev IU:Type:=b8×aim
def IR:aL:=⟨oZ,[aiy,(1,FT)],false⟩
def agi (c0_0:Int) (c1:ef):OT pM.Y:=
 (gd [Bb ((c0_0,c1,()),())] (.ok ⟨IR,((AF c0_0 c1,()),(c0_0,(),()),c1,())⟩))
theorem abe (pre:IU->Bool) (F:IU->OT pM.Y) (hF:∀ (x:IU) oy,pre x=true->(F x).run=some oy->(agi x.2.1.1 x.2.2.1).run=some oy):aa aj 131 (pM.az pre F):=
 dh YX 131 Tryz.f131 pM [IR] bE (λx=>agi x.2.1.1 x.2.2.1) hF
def Dq (x:IU):Bool:=Bb ((x.2.1.1,x.2.2.1,()),())
def agj (x:IU):OT pM.Y:=.ok ⟨IR,((AF x.2.1.1 x.2.2.1,()),(x.2.1.1,(),()),x.2.2.1,())⟩
theorem ap7:aa aj 131 (pM.az Dq agj):=abe _ _ λx oy hp ho=>by
 rw [<-ho]
 clear ho
 refine (ae ?_).trans rfl
 simp only [aA,aI,aJ]
 exact hp
def yp:bx:=(pM.az Dq agj)
theorem Vo:aa aj 131 yp:=ap7
theorem Vn:ax yp:=av
def aiX:Env:=aq 131 yp auM
theorem EJ:bU aj te aiX:=aU follows YX Vo Vn
def sI:af:=⟨[aD,.val false (.list FZ)],[],true,0,false⟩
abbrev abl:Type:=aii
def aDx:Shape:=⟨45,[ej,jP,(26,ly),(27,aD),(28,aD)],[lv,(1,.cells [aD,.own 2]),zW],0,true⟩
abbrev dN:Type:=(Unit×Unit×ef×jM)×kf×aim
def mw:Shape:=⟨45,[ej,(5,aD)],[lv],0,true⟩
abbrev vk:Type:=ru×kf×Unit
def Ba:Shape:=⟨45,[ej,jP],[lv,(1,.cells [aD,.own 2]),zW],0,true⟩
abbrev Dt:Type:=mX×kf×aim
def aDz (a26:ef) (a27:Int) (a28:Int) (c0_0:UInt64) (c0_1:UInt64) (c0_2:UInt64) (c0_3:UInt64) (c0_4:UInt64) (c0_5:UInt64) (c0_6:UInt64) (c0_7:UInt64) (c0_8:Bool) (c1_0:Int) (c2:ef):OT (Sum dN aZ):=
 let z0:ab:= {w0:=0,w1:=0,w2:=0,w3:=0}
 let z1:ab×cI:=List.getD a26 (Int.toNat a28) (z0,z0,z0,false)
 let z2:=z1.snd
 (.br (decide (a28<a27))
 (gd [inB a28 (List.length a26)] (.br (onB c1_0 z2)
  (.br (Uv c2)
   (gd [inR (a28+(1:Int))] (.ok (.inl (((),(),a26,a27,a28+(1:Int),()),(c0_0,c0_1,c0_2,c0_3,c0_4,c0_5,c0_6,c0_7,c0_8,()),(c1_0,(),()),c2++ [(F2 c1_0 z1.fst,z2)],()))))
   (.ok (.inr ⟨(.ret,mw),(((),(50:Int),()),((0:UInt64),(0:UInt64),(0:UInt64),(0:UInt64),(0:UInt64),(0:UInt64),(0:UInt64),(0:UInt64),false,()),())⟩)))
  (.ok (.inr ⟨(.ret,mw),(((),(41:Int),()),((0:UInt64),(0:UInt64),(0:UInt64),(0:UInt64),(0:UInt64),(0:UInt64),(0:UInt64),(0:UInt64),false,()),())⟩))))
 (.ok (.inr ⟨(.exit 1,Ba),(((),(),()),(c0_0,c0_1,c0_2,c0_3,c0_4,c0_5,c0_6,c0_7,c0_8,()),(c1_0,(),()),c2,())⟩)))
def IX (s:dN):OT (Sum dN aZ):=aDz s.1.2.2.1 s.1.2.2.2.1 s.1.2.2.2.2.1 s.2.1.1 s.2.1.2.1 s.2.1.2.2.1 s.2.1.2.2.2.1 s.2.1.2.2.2.2.1 s.2.1.2.2.2.2.2.1 s.2.1.2.2.2.2.2.2.1 s.2.1.2.2.2.2.2.2.2.1 s.2.1.2.2.2.2.2.2.2.2.1 s.2.2.1.1 s.2.2.2.1
def aql (g1_r:dN->vk) (c1_r:dN->Bool) (g1_1:dN->Dt) (s:dN):OT aZ:=(.br (c1_r s) (.ok ⟨(.ret,mw),g1_r s⟩) (.ok ⟨(.exit 1,Ba),g1_1 s⟩))
def jk:aL:=⟨LJ,[],false⟩
section
variable (ok1:dN->Bool) (g1_r:dN->vk) (c1_r:dN->Bool) (g1_1:dN->Dt)
def aqm (a0:Int) (a1:ef):OT sI.Y:=
 let z0:Int:=(↑(List.length a1):Int)
 let z1:ab:= {w0:=0,w1:=0,w2:=0,w3:=0}
 let z2:cI:=(z1,z1,false)
 let z3:dN:=(((),(),a1,z0,(0:Int),()),((0:UInt64),(0:UInt64),(0:UInt64),(0:UInt64),(0:UInt64),(0:UInt64),(0:UInt64),(0:UInt64),false,()),(a0,(),()),[],())
 let z4:vk:=g1_r z3
 let z5:=z4.snd.fst
 let z6:=z5.snd
 let z7:=z6.snd
 let z8:=z7.snd
 let z9:=z8.snd
 let z10:=z9.snd
 let z11:=z10.snd
 let z12:=z11.snd
 let z13:=(g1_1 z3).snd.snd
 let z14:=z13.fst.fst
 let z15:=z13.snd.fst
 (.br (ac a0)
 (.br (decide ((100000:Int)<z0))
  (.ok ⟨jk,((z2,(50:Int),()),())⟩)
  (gd [ok1 z3] (.br (c1_r z3)
   (.ok ⟨jk,((({w0:=z5.fst,w1:=z6.fst,w2:=z7.fst,w3:=z8.fst},{w0:=z9.fst,w1:=z10.fst,w2:=z11.fst,w3:=z12.fst},z12.snd.fst),z4.fst.snd.fst,()),())⟩)
   (gd [Dq (((),()),(z14,(),()),z15,())] (.ok ⟨jk,((AF z14 z15,(0:Int),()),())⟩)))))
 (.ok ⟨jk,((z2,(40:Int),()),())⟩))
theorem aqk (h1:bh IX ok1 (aql g1_r c1_r g1_1)) (pre:abl->Bool) (F:abl->OT sI.Y) (hF:∀ (x:abl) oy,pre x=true->(F x).run=some oy->(aqm ok1 g1_r c1_r g1_1 x.1.1 x.1.2.1).run=some oy):aa aj 84 (sI.az pre F):=
 dh EJ 84 Tryz.f84 sI [jk] (kZ EJ 1 aDx [(1,Ba)] (some mw) none IX bE h1 bE) (λx=>aqm ok1 g1_r c1_r g1_1 x.1.1 x.1.2.1) hF
end
def wC (c:Int) (l:List Tm):List Tm:=l.map λt=>(F2 c t.1,t.2)
def cv (c:Int) (l:List Tm):Bool:=l.all λt=>onB c t.2
def QK (s:dN):Bool:=decide (s.1.2.2.2.1=(s.1.2.2.1.length:Int)/\s.1.2.2.2.2.1=0/\s.2.2.2.1= []/\s.1.2.2.1.length<=100000)
def QL (_:dN):vk:=(((),(41:Int),()),bP fa,())
def abk (s:dN):Bool:= !cv s.2.2.1.1 s.1.2.2.1
def abj (s:dN):Dt:=(((),(),()),s.2.1,(s.2.2.1.1,(),()),wC s.2.2.1.1 s.1.2.2.1,())
def Ua (c:Int) (l:List Tm) (c0:C9) (k:Int) (o:List Tm):dN:=(((),(),l,(l.length:Int),k,()),c0,(c,(),()),o,())
theorem afC (c:Int) (l:List Tm) (c0:C9) (hl:l.length<=100000):∀ d k:Nat,k+d=l.length->
 ∃ m,cU IX m (Ua c l c0 (k:Int) (wC c (l.take k)))=some (cond (cv c (l.drop k)) ⟨(.exit 1,Ba),(((),(),()),c0,(c,(),()),wC c l,())⟩ ⟨(.ret,mw),(((),(41:Int),()),bP fa,())⟩)
 |0,k,h=>by
  rw [List.drop_eq_nil_of_le (by omega),List.take_of_length_le (by omega)]
  exact ⟨1,aV (OT.au (bq (by dsimp only [Ua];omega)))⟩
 |d+1,k,h=>by
  have hk:k<l.length:=by omega
  have e1:l.drop k=l[k]::l.drop (k+1):=mZ hk
  have e2:l.take (k+1)=l.take k++ [l[k]]:=(List.take_append_getElem hk).symm
  have e3:l.getD k lg=l[k]:=by rw [fP,m4 hk];rfl
  have hgd:∀ z:OT (Sum dN aZ),(gd [inB (k:Int) l.length] z).run=z.run:=λz=>ae (by rw [ba (by omega)];rfl)
  have ea:cv c (l.drop k)=(onB c l[k].2&&cv c (l.drop (k+1))):=by rw [e1];rfl
  rw [ea]
  have hr:Uv (wC c (l.take k))=true:=ag (by rw [wC,List.length_map,bQ];omega)
  have first:∀ e:aZ ⊕ Unit,(IX (Ua c l c0 (k:Int) (wC c (l.take k)))).run=(OT.br (onB c (l.getD k lg).2) (.br (Uv (wC c (l.take k))) (gd [inR ((k:Int)+1)] (.ok (.inl (Ua c l c0 ((k:Int)+1) (wC c (l.take k)++ [(F2 c (l.getD k lg).1,(l.getD k lg).2)])))))
   (.ok (.inr ⟨(.ret,mw),(((),(50:Int),()),bP fa,())⟩))) (.ok (.inr ⟨(.ret,mw),(((),(41:Int),()),bP fa,())⟩)):OT (Sum dN aZ)).run:=λ_=>
   (OT.ak (ag (by dsimp only [Ua];omega))).trans ((hgd _).trans rfl)
  have first:=first (.inr ())
  rw [e3] at first
  rcases (b9 (onB c l[k].2)).symm with hb|hb
  ·rw [hb]
   exact ⟨1,aV (first.trans (OT.au hb))⟩
  ·rw [hb]
   obtain ⟨m,hm⟩:=afC c l c0 hl d (k+1) (by omega)
   refine ⟨m+1,bL ?_ hm⟩
   refine first.trans ((OT.ak hb).trans ((OT.ak hr).trans ((ae ?_).trans ?_)))
   ·simp only [aA,aI,aJ]
    exact aS (by omega)
   ·rw [e2]
    simp only [wC,List.map_append,List.map_cons,List.map_nil]
    rfl
theorem aDy:bh IX QK (aql QL abk abj):=by
 rintro ⟨⟨⟨⟩,⟨⟩,l,n,k,⟨⟩⟩,⟨c0,⟨c,⟨⟩,⟨⟩⟩,o,⟨⟩⟩⟩ h
 have h':=bn h
 dsimp only at h'
 obtain ⟨rfl,rfl,rfl,hl⟩:=h'
 obtain ⟨m,hm⟩:=afC c l c0 hl l.length 0 (by omega)
 refine ⟨m,_,hm,?_⟩
 show (OT.br (!cv c l) _ _:OT aZ).run=some (cond (cv c l) _ _)
 cases cv c l<;>rfl
def agm (_:abl):Bool:=true
def aAq (x:abl):OT sI.Y:=.br (ac x.1.1) (.br (decide (x.1.2.1.length<=100000)) (.br (cv x.1.1 x.1.2.1) (.ok ⟨jk,((AF x.1.1 (wC x.1.1 x.1.2.1),(0:Int),()),())⟩)
 (.ok ⟨jk,((fa,(41:Int),()),())⟩)) (.ok ⟨jk,((fa,(50:Int),()),())⟩)) (.ok ⟨jk,((fa,(40:Int),()),())⟩)
theorem aqj:aa aj 84 (sI.az agm aAq):=aqk QK QL abk abj aDy _ _ λx oy hp ho=>by
 rw [<-ho]
 clear ho
 obtain ⟨⟨c,l,⟨⟩⟩,⟨⟩⟩:=x
 show (aqm QK QL abk abj c l).run=(OT.br (ac c) (.br (decide (l.length<=100000)) (.br (cv c l) (.ok ⟨jk,((AF c (wC c l),(0:Int),()),())⟩)
  (.ok ⟨jk,((fa,(41:Int),()),())⟩)) (.ok ⟨jk,((fa,(50:Int),()),())⟩)) (.ok ⟨jk,((fa,(40:Int),()),())⟩):OT sI.Y).run
 rcases (b9 (ac c)).symm with hs|hs
 ·exact (OT.au hs).trans (OT.au (b:=ac c) hs).symm
 ·refine (OT.ak hs).trans (Eq.trans ?_ (OT.ak (b:=ac c) hs).symm)
  by_cases hl:l.length<=100000
  ·refine (OT.au (bq (by omega))).trans (Eq.trans ?_ (OT.ak (b:=decide (l.length<=100000)) (ag hl)).symm)
   refine (ae ?_).trans ?_
   ·simp only [aA,aI,aJ]
    exact ag ⟨rfl,rfl,rfl,hl⟩
   ·rcases (b9 (cv c l)).symm with ha|ha
    ·exact (OT.ak (b:= !cv c l) (by rw [ha];rfl)).trans (OT.au (b:=cv c l) ha).symm
    ·refine (OT.au (b:= !cv c l) (by rw [ha];rfl)).trans (Eq.trans ?_ (OT.ak (b:=cv c l) ha).symm)
     refine (ae ?_).trans rfl
     simp only [aA,aI,aJ]
     refine ag ?_
     show (wC c l).length<=_
     rw [wC,List.length_map]
     omega
  ·exact (OT.ak (ag (by omega))).trans (OT.au (b:=decide (l.length<=100000)) (bq hl)).symm
def IW:bx:=(sI.az agm aAq)
theorem ali:aa aj 84 IW:=aqj
theorem alh:ax IW:=av
def aBG:Env:=aq 84 IW aiX
theorem aiY:bU aj te aBG:=aU follows EJ ali alh
abbrev AU:Type:=aip
abbrev aaE:Type:=ru×kf×Unit
abbrev aaF:Type:=(Int×ef×mX)×um
abbrev UA:Type:=aip
abbrev aaD:Type:=mX×um
section
variable (ok0:AU->Bool) (g0_r:AU->aaE) (c0_r:AU->Bool) (g0_0:AU->aaF) (ok2:UA->Bool) (g2_2:UA->aaD)
end
abbrev aAg:Ty:=.prod .int (.prod .int (.prod (.list (.prod .elem (.prod .elem .bool))) (.prod (.prod .elem (.prod .elem .bool)) (.prod .elem (.prod .elem .bool)))))
def aHk:CSh:=.cells [.val false .int,.val false .int,.val false (.list (.prod .elem (.prod .elem .bool))),.val false .u64,.val false .u64,.val false .u64,.val false .u64,.val false .u64,.val false .u64,.val false .u64,.val false .u64,.val false .bool,.val false .u64,.val false .u64,.val false .u64,.val false .u64,.val false .u64,.val false .u64,.val false .u64,.val false .u64,.val false .bool]
def nk:af:=⟨[xj,eT],[(0,aHk)],false,1,true⟩
abbrev Il:Type:=(cI×b8)×LH×Unit
def sr:aL:=⟨n9,[YH],false⟩
def afU (a0:cI) (c0_0:Int) (c0_1:Int) (c0_2:cH) (c0_3:UInt64) (c0_4:UInt64) (c0_5:UInt64) (c0_6:UInt64) (c0_7:UInt64) (c0_8:UInt64) (c0_9:UInt64) (c0_10:UInt64) (c0_11:Bool) (c0_12:UInt64) (c0_13:UInt64) (c0_14:UInt64) (c0_15:UInt64) (c0_16:UInt64) (c0_17:UInt64) (c0_18:UInt64) (c0_19:UInt64) (c0_20:Bool):OT nk.Y:=
 (.br (a0.snd.snd)
 (.ok ⟨sr,((true,()),(c0_0,c0_1,c0_2,c0_3,c0_4,c0_5,c0_6,c0_7,c0_8,c0_9,c0_10,c0_11,c0_12,c0_13,c0_14,c0_15,c0_16,c0_17,c0_18,c0_19,c0_20,()),())⟩)
 (.ok ⟨sr,((!onB c0_0 a0,()),(c0_0,c0_1,c0_2,c0_3,c0_4,c0_5,c0_6,c0_7,c0_8,c0_9,c0_10,c0_11,c0_12,c0_13,c0_14,c0_15,c0_16,c0_17,c0_18,c0_19,c0_20,()),())⟩))
theorem aaM (pre:Il->Bool) (F:Il->OT nk.Y) (hF:∀ (x:Il) oy,pre x=true->(F x).run=some oy->(afU x.1.1 x.2.1.1 x.2.1.2.1 x.2.1.2.2.1 x.2.1.2.2.2.1 x.2.1.2.2.2.2.1 x.2.1.2.2.2.2.2.1 x.2.1.2.2.2.2.2.2.1 x.2.1.2.2.2.2.2.2.2.1 x.2.1.2.2.2.2.2.2.2.2.1 x.2.1.2.2.2.2.2.2.2.2.2.1 x.2.1.2.2.2.2.2.2.2.2.2.2.1 x.2.1.2.2.2.2.2.2.2.2.2.2.2.1 x.2.1.2.2.2.2.2.2.2.2.2.2.2.2.1 x.2.1.2.2.2.2.2.2.2.2.2.2.2.2.2.1 x.2.1.2.2.2.2.2.2.2.2.2.2.2.2.2.2.1 x.2.1.2.2.2.2.2.2.2.2.2.2.2.2.2.2.2.1 x.2.1.2.2.2.2.2.2.2.2.2.2.2.2.2.2.2.2.1 x.2.1.2.2.2.2.2.2.2.2.2.2.2.2.2.2.2.2.2.1 x.2.1.2.2.2.2.2.2.2.2.2.2.2.2.2.2.2.2.2.2.1 x.2.1.2.2.2.2.2.2.2.2.2.2.2.2.2.2.2.2.2.2.2.1 x.2.1.2.2.2.2.2.2.2.2.2.2.2.2.2.2.2.2.2.2.2.2.1).run=some oy):aa aj 78 (nk.az pre F):=
 dh aiY 78 Tryz.f78 nk [sr] bE (λx=>afU x.1.1 x.2.1.1 x.2.1.2.1 x.2.1.2.2.1 x.2.1.2.2.2.1 x.2.1.2.2.2.2.1 x.2.1.2.2.2.2.2.1 x.2.1.2.2.2.2.2.2.1 x.2.1.2.2.2.2.2.2.2.1 x.2.1.2.2.2.2.2.2.2.2.1 x.2.1.2.2.2.2.2.2.2.2.2.1 x.2.1.2.2.2.2.2.2.2.2.2.2.1 x.2.1.2.2.2.2.2.2.2.2.2.2.2.1 x.2.1.2.2.2.2.2.2.2.2.2.2.2.2.1 x.2.1.2.2.2.2.2.2.2.2.2.2.2.2.2.1 x.2.1.2.2.2.2.2.2.2.2.2.2.2.2.2.2.1 x.2.1.2.2.2.2.2.2.2.2.2.2.2.2.2.2.2.1 x.2.1.2.2.2.2.2.2.2.2.2.2.2.2.2.2.2.2.1 x.2.1.2.2.2.2.2.2.2.2.2.2.2.2.2.2.2.2.2.1 x.2.1.2.2.2.2.2.2.2.2.2.2.2.2.2.2.2.2.2.2.1 x.2.1.2.2.2.2.2.2.2.2.2.2.2.2.2.2.2.2.2.2.2.1 x.2.1.2.2.2.2.2.2.2.2.2.2.2.2.2.2.2.2.2.2.2.2.1) hF
abbrev aBs:Type:=Int×(Int×(List Pt×(UInt64×(UInt64×(UInt64×(UInt64×(UInt64×(UInt64×(UInt64×(UInt64×(Bool×(UInt64×(UInt64×(UInt64×(UInt64×(UInt64×(UInt64×(UInt64×(UInt64×(Bool×Unit))))))))))))))))))))
def jI:Pt:=(⟨0,0,0,0⟩,⟨0,0,0,0⟩,false)
def wF (c:Int) (P:Pt):Bool:=cond P.2.2 true (!onB c P)
def Nb (_:Il):Bool:=true
def afV (x:Il):OT nk.Y:=.ok ⟨sr,((wF x.2.1.1 x.1.1,()),x.2)⟩
theorem apo:aa aj 78 (nk.az Nb afV):=aaM _ _ λx oy hp ho=>by
 rw [<-ho]
 clear ho
 obtain ⟨⟨P,⟨⟩,⟨⟩⟩,⟨i,⟨⟩⟩⟩:=x
 show _=some (⟨sr,((wF i.1 P,()),i,())⟩:nk.Y)
 unfold wF
 rcases (b9 P.2.2).symm with h|h
 ·rw [h]
  exact (OT.au h).trans rfl
 ·rw [h]
  exact (OT.ak h).trans rfl
def xW:bx:=(nk.az Nb afV)
theorem UL:aa aj 78 xW:=apo
theorem UK:ax xW:=av
def aiT:Env:=aq 78 xW aBG
theorem EI:bU aj te aiT:=aU follows aiY UL UK
def kC:af:=⟨[xh,.fn 78 [0]],[(0,aHk)],false,1,true⟩
abbrev AZ:Type:=(cH×b8)×LH×Unit
def akR:Shape:=⟨19,[(0,xh),(1,.fn 78 [0]),xf,(8,aD)],[YH],1,true⟩
abbrev bW:Type:=(cH×Unit×jM)×LH×Unit
def np:Shape:=⟨19,[(4,aD)],[YH],1,true⟩
abbrev lE:Type:=eS×LH×Unit
def nq:Shape:=⟨19,[],[YH],1,true⟩
abbrev pG:Type:=Unit×LH×Unit
def akU (a0:cH) (a7:Int) (a8:Int) (c0_0:Int) (c0_1:Int) (c0_2:cH) (c0_3:UInt64) (c0_4:UInt64) (c0_5:UInt64) (c0_6:UInt64) (c0_7:UInt64) (c0_8:UInt64) (c0_9:UInt64) (c0_10:UInt64) (c0_11:Bool) (c0_12:UInt64) (c0_13:UInt64) (c0_14:UInt64) (c0_15:UInt64) (c0_16:UInt64) (c0_17:UInt64) (c0_18:UInt64) (c0_19:UInt64) (c0_20:Bool):OT (Sum bW aZ):=
 let z0:ab:= {w0:=0,w1:=0,w2:=0,w3:=0}
 (.br (decide (a8<a7))
 (gd [inB a8 (List.length a0)] (.br (wF c0_0 (List.getD a0 (Int.toNat a8) (z0,z0,false)))
  (.ok (.inr ⟨(.ret,np),((a8,()),(c0_0,c0_1,c0_2,c0_3,c0_4,c0_5,c0_6,c0_7,c0_8,c0_9,c0_10,c0_11,c0_12,c0_13,c0_14,c0_15,c0_16,c0_17,c0_18,c0_19,c0_20,()),())⟩))
  (gd [inR (a8+(1:Int))] (.ok (.inl ((a0,(),a7,a8+(1:Int),()),(c0_0,c0_1,c0_2,c0_3,c0_4,c0_5,c0_6,c0_7,c0_8,c0_9,c0_10,c0_11,c0_12,c0_13,c0_14,c0_15,c0_16,c0_17,c0_18,c0_19,c0_20,()),()))))))
 (.ok (.inr ⟨(.exit 0,nq),((),(c0_0,c0_1,c0_2,c0_3,c0_4,c0_5,c0_6,c0_7,c0_8,c0_9,c0_10,c0_11,c0_12,c0_13,c0_14,c0_15,c0_16,c0_17,c0_18,c0_19,c0_20,()),())⟩)))
def uX (s:bW):OT (Sum bW aZ):=akU s.1.1 s.1.2.2.1 s.1.2.2.2.1 s.2.1.1 s.2.1.2.1 s.2.1.2.2.1 s.2.1.2.2.2.1 s.2.1.2.2.2.2.1 s.2.1.2.2.2.2.2.1 s.2.1.2.2.2.2.2.2.1 s.2.1.2.2.2.2.2.2.2.1 s.2.1.2.2.2.2.2.2.2.2.1 s.2.1.2.2.2.2.2.2.2.2.2.1 s.2.1.2.2.2.2.2.2.2.2.2.2.1 s.2.1.2.2.2.2.2.2.2.2.2.2.2.1 s.2.1.2.2.2.2.2.2.2.2.2.2.2.2.1 s.2.1.2.2.2.2.2.2.2.2.2.2.2.2.2.1 s.2.1.2.2.2.2.2.2.2.2.2.2.2.2.2.2.1 s.2.1.2.2.2.2.2.2.2.2.2.2.2.2.2.2.2.1 s.2.1.2.2.2.2.2.2.2.2.2.2.2.2.2.2.2.2.1 s.2.1.2.2.2.2.2.2.2.2.2.2.2.2.2.2.2.2.2.1 s.2.1.2.2.2.2.2.2.2.2.2.2.2.2.2.2.2.2.2.2.1 s.2.1.2.2.2.2.2.2.2.2.2.2.2.2.2.2.2.2.2.2.2.1 s.2.1.2.2.2.2.2.2.2.2.2.2.2.2.2.2.2.2.2.2.2.2.1
def Ng (g0_r:bW->lE) (c0_r:bW->Bool) (g0_0:bW->pG) (s:bW):OT aZ:=(.br (c0_r s) (.ok ⟨(.ret,np),g0_r s⟩) (.ok ⟨(.exit 0,nq),g0_0 s⟩))
def jW:aL:=⟨jG,[YH],false⟩
section
variable (ok0:bW->Bool) (g0_r:bW->lE) (c0_r:bW->Bool) (g0_0:bW->pG)
def UX (a0:cH) (c0_0:Int) (c0_1:Int) (c0_2:cH) (c0_3:UInt64) (c0_4:UInt64) (c0_5:UInt64) (c0_6:UInt64) (c0_7:UInt64) (c0_8:UInt64) (c0_9:UInt64) (c0_10:UInt64) (c0_11:Bool) (c0_12:UInt64) (c0_13:UInt64) (c0_14:UInt64) (c0_15:UInt64) (c0_16:UInt64) (c0_17:UInt64) (c0_18:UInt64) (c0_19:UInt64) (c0_20:Bool):OT kC.Y:=
 let z0:bW:=((a0,(),(↑(List.length a0):Int),(0:Int),()),(c0_0,c0_1,c0_2,c0_3,c0_4,c0_5,c0_6,c0_7,c0_8,c0_9,c0_10,c0_11,c0_12,c0_13,c0_14,c0_15,c0_16,c0_17,c0_18,c0_19,c0_20,()),())
 let z1:lE:=g0_r z0
 let z2:=z1.snd.fst
 let z3:=z2.snd
 let z4:=z3.snd
 let z5:=z4.snd
 let z6:=z5.snd
 let z7:=z6.snd
 let z8:=z7.snd
 let z9:=z8.snd
 let z10:=z9.snd
 let z11:=z10.snd
 let z12:=z11.snd
 let z13:=z12.snd
 let z14:=z13.snd
 let z15:=z14.snd
 let z16:=z15.snd
 let z17:=z16.snd
 let z18:=z17.snd
 let z19:=z18.snd
 let z20:=z19.snd
 let z21:=z20.snd
 let z22:=(g0_0 z0).snd.fst
 let z23:=z22.snd
 let z24:=z23.snd
 let z25:=z24.snd
 let z26:=z25.snd
 let z27:=z26.snd
 let z28:=z27.snd
 let z29:=z28.snd
 let z30:=z29.snd
 let z31:=z30.snd
 let z32:=z31.snd
 let z33:=z32.snd
 let z34:=z33.snd
 let z35:=z34.snd
 let z36:=z35.snd
 let z37:=z36.snd
 let z38:=z37.snd
 let z39:=z38.snd
 let z40:=z39.snd
 let z41:=z40.snd
 (gd [ok0 z0] (.br (c0_r z0)
 (.ok ⟨jW,((z1.fst.fst,()),(z2.fst,z3.fst,z4.fst,z5.fst,z6.fst,z7.fst,z8.fst,z9.fst,z10.fst,z11.fst,z12.fst,z13.fst,z14.fst,z15.fst,z16.fst,z17.fst,z18.fst,z19.fst,z20.fst,z21.fst,z21.snd.fst,()),())⟩)
 (.ok ⟨jW,(((-1:Int),()),(z22.fst,z23.fst,z24.fst,z25.fst,z26.fst,z27.fst,z28.fst,z29.fst,z30.fst,z31.fst,z32.fst,z33.fst,z34.fst,z35.fst,z36.fst,z37.fst,z38.fst,z39.fst,z40.fst,z41.fst,z41.snd.fst,()),())⟩)))
theorem UW (h0:bh uX ok0 (Ng g0_r c0_r g0_0)) (pre:AZ->Bool) (F:AZ->OT kC.Y) (hF:∀ (x:AZ) oy,pre x=true->(F x).run=some oy->(UX ok0 g0_r c0_r g0_0 x.1.1 x.2.1.1 x.2.1.2.1 x.2.1.2.2.1 x.2.1.2.2.2.1 x.2.1.2.2.2.2.1 x.2.1.2.2.2.2.2.1 x.2.1.2.2.2.2.2.2.1 x.2.1.2.2.2.2.2.2.2.1 x.2.1.2.2.2.2.2.2.2.2.1 x.2.1.2.2.2.2.2.2.2.2.2.1 x.2.1.2.2.2.2.2.2.2.2.2.2.1 x.2.1.2.2.2.2.2.2.2.2.2.2.2.1 x.2.1.2.2.2.2.2.2.2.2.2.2.2.2.1 x.2.1.2.2.2.2.2.2.2.2.2.2.2.2.2.1 x.2.1.2.2.2.2.2.2.2.2.2.2.2.2.2.2.1 x.2.1.2.2.2.2.2.2.2.2.2.2.2.2.2.2.2.1 x.2.1.2.2.2.2.2.2.2.2.2.2.2.2.2.2.2.2.1 x.2.1.2.2.2.2.2.2.2.2.2.2.2.2.2.2.2.2.2.1 x.2.1.2.2.2.2.2.2.2.2.2.2.2.2.2.2.2.2.2.2.1 x.2.1.2.2.2.2.2.2.2.2.2.2.2.2.2.2.2.2.2.2.2.1 x.2.1.2.2.2.2.2.2.2.2.2.2.2.2.2.2.2.2.2.2.2.2.1).run=some oy):aa aj 126 (kC.az pre F):=
 dh EI 126 Tryz.f126 kC [jW] (kZ EI 0 akR [(0,nq)] (some np) none uX bE h0 bE) (λx=>UX ok0 g0_r c0_r g0_0 x.1.1 x.2.1.1 x.2.1.2.1 x.2.1.2.2.1 x.2.1.2.2.2.1 x.2.1.2.2.2.2.1 x.2.1.2.2.2.2.2.1 x.2.1.2.2.2.2.2.2.1 x.2.1.2.2.2.2.2.2.2.1 x.2.1.2.2.2.2.2.2.2.2.1 x.2.1.2.2.2.2.2.2.2.2.2.1 x.2.1.2.2.2.2.2.2.2.2.2.2.1 x.2.1.2.2.2.2.2.2.2.2.2.2.2.1 x.2.1.2.2.2.2.2.2.2.2.2.2.2.2.1 x.2.1.2.2.2.2.2.2.2.2.2.2.2.2.2.1 x.2.1.2.2.2.2.2.2.2.2.2.2.2.2.2.2.1 x.2.1.2.2.2.2.2.2.2.2.2.2.2.2.2.2.2.1 x.2.1.2.2.2.2.2.2.2.2.2.2.2.2.2.2.2.2.1 x.2.1.2.2.2.2.2.2.2.2.2.2.2.2.2.2.2.2.2.1 x.2.1.2.2.2.2.2.2.2.2.2.2.2.2.2.2.2.2.2.2.1 x.2.1.2.2.2.2.2.2.2.2.2.2.2.2.2.2.2.2.2.2.2.1 x.2.1.2.2.2.2.2.2.2.2.2.2.2.2.2.2.2.2.2.2.2.2.1) hF
end
def tJ (l:List Pt) (i:aBs):Nat->Nat->Int
 |0,_=> -1
 |n+1,k=>cond (wF i.1 (l.getD k jI)) (k:Int) (tJ l i n (k+1))
def Is (s:bW):Bool:=decide (s.1.2.2.1=(s.1.1.length:Int)/\s.1.2.2.2.1=0/\s.1.1.length<=140737488355328)
def lm (l:List Pt) (i:aBs):Int:=tJ l i l.length 0
def It (s:bW):lE:=((lm s.1.1 s.2.1,()),s.2)
def Nh (s:bW):Bool:=decide (0<=lm s.1.1 s.2.1)
def Nf (s:bW):pG:=((),s.2)
def Iu (l:List Pt) (i:aBs) (k:Int):bW:=((l,(),(l.length:Int),k,()),i,())
theorem Oa (l:List Pt) (i:aBs):∀ n k,tJ l i n k= -1\/0<=tJ l i n k
 |0,_=>.inl rfl
 |n+1,k=>by
  unfold tJ
  cases wF i.1 (l.getD k jI)
  ·exact Oa l i n (k+1)
  ·right
   show (0:Int)<=(k:Int)
   omega
theorem UZ (l:List Pt) (i:aBs) (hl:l.length<=140737488355328):∀ n k:Nat,k+n=l.length->
 ∃ m,cU uX m (Iu l i (k:Int))=some (cond (decide (0<=tJ l i n k)) ⟨(.ret,np),((tJ l i n k,()),i,())⟩ ⟨(.exit 0,nq),((),i,())⟩)
 |0,k,h=>⟨1,aV (OT.au (bq (by dsimp only [Iu];omega)))⟩
 |n+1,k,h=>by
  have hin:inB (k:Int) l.length=true:=ba (by omega)
  have hgd:∀ z:OT (Sum bW aZ),(gd [inB (k:Int) l.length] z).run=z.run:=λz=>ae (by rw [hin];rfl)
  unfold tJ
  rcases (b9 (wF i.1 (l.getD k jI))).symm with hb|hb
  ·obtain ⟨m,hm⟩:=UZ l i hl n (k+1) (by omega)
   rw [hb]
   refine ⟨m+1,bL ?_ hm⟩
   refine (OT.ak (ag (by dsimp only [Iu];omega))).trans ((hgd _).trans ((OT.au hb).trans ((ae ?_).trans rfl)))
   simp only [aA,aI,aJ]
   exact aS (by dsimp only [Iu];omega)
  ·rw [hb]
   have e:decide ((0:Int)<=cond true (k:Int) (tJ l i n (k+1)))=true:=ag (by show (0:Int)<=(k:Int);omega)
   rw [e]
   refine ⟨1,aV ?_⟩
   exact (OT.ak (ag (by dsimp only [Iu];omega))).trans ((hgd _).trans ((OT.ak hb).trans rfl))
theorem akT:bh uX Is (Ng It Nh Nf):=by
 rintro ⟨⟨l,⟨⟩,n,k,⟨⟩⟩,⟨i,⟨⟩⟩⟩ h
 have h':=bn h
 dsimp only at h'
 obtain ⟨rfl,rfl,hl⟩:=h'
 obtain ⟨m,hm⟩:=UZ l i hl l.length 0 (by omega)
 refine ⟨m,_,hm,?_⟩
 show (OT.br (decide (0<=lm l i)) _ _:OT aZ).run=some (cond (decide (0<=lm l i)) _ _)
 cases decide (0<=lm l i)<;>rfl
def yd (x:AZ):Bool:=decide (x.1.1.length<=140737488355328)
def UY (x:AZ):OT kC.Y:=.ok ⟨jW,((lm x.1.1 x.2.1,()),x.2)⟩
theorem akS:aa aj 126 (kC.az yd UY):=UW Is It Nh Nf akT _ _ λx oy hp ho=>by
 rw [<-ho]
 clear ho
 obtain ⟨⟨l,⟨⟩,⟨⟩⟩,⟨i,⟨⟩⟩⟩:=x
 have hl:l.length<=140737488355328:=bn hp
 refine (ae ?_).trans ?_
 ·simp only [aA,aI,aJ]
  exact ag ⟨rfl,rfl,hl⟩
 ·show (OT.br (decide (0<=lm l i)) (.ok ⟨jW,((lm l i,()),i,())⟩) (.ok ⟨jW,(((-1:Int),()),i,())⟩):OT kC.Y).run=some ⟨jW,((lm l i,()),i,())⟩
  rcases Oa l i l.length 0 with h|h
  ·have h:lm l i= -1:=h
   rw [h]
   rfl
  ·exact OT.ak (ag h)
def sC:bx:=(kC.az yd UY)
theorem Qr:aa aj 126 sC:=akS
theorem Qq:ax sC:=av
def YS:Env:=aq 126 sC aiT
theorem LR:bU aj te YS:=aU follows EI Qr Qq
def pI:af:=⟨[xh,.fn 78 [0]],[(0,aHk)],false,1,true⟩
abbrev ID:Type:=(cH×b8)×LH×Unit
def IC:aL:=⟨n9,[YH],false⟩
def af3 (a0:cH) (c0_0:Int) (c0_1:Int) (c0_2:cH) (c0_3:UInt64) (c0_4:UInt64) (c0_5:UInt64) (c0_6:UInt64) (c0_7:UInt64) (c0_8:UInt64) (c0_9:UInt64) (c0_10:UInt64) (c0_11:Bool) (c0_12:UInt64) (c0_13:UInt64) (c0_14:UInt64) (c0_15:UInt64) (c0_16:UInt64) (c0_17:UInt64) (c0_18:UInt64) (c0_19:UInt64) (c0_20:Bool):OT pI.Y:=
 let z0:aBd:=(c0_0,c0_1,c0_2,c0_3,c0_4,c0_5,c0_6,c0_7,c0_8,c0_9,c0_10,c0_11,c0_12,c0_13,c0_14,c0_15,c0_16,c0_17,c0_18,c0_19,c0_20,())
 (gd [yd ((a0,(),()),z0,())] (.ok ⟨IC,((decide ((0:Int)<=lm a0 z0),()),(c0_0,c0_1,c0_2,c0_3,c0_4,c0_5,c0_6,c0_7,c0_8,c0_9,c0_10,c0_11,c0_12,c0_13,c0_14,c0_15,c0_16,c0_17,c0_18,c0_19,c0_20,()),())⟩))
theorem aaZ (pre:ID->Bool) (F:ID->OT pI.Y) (hF:∀ (x:ID) oy,pre x=true->(F x).run=some oy->(af3 x.1.1 x.2.1.1 x.2.1.2.1 x.2.1.2.2.1 x.2.1.2.2.2.1 x.2.1.2.2.2.2.1 x.2.1.2.2.2.2.2.1 x.2.1.2.2.2.2.2.2.1 x.2.1.2.2.2.2.2.2.2.1 x.2.1.2.2.2.2.2.2.2.2.1 x.2.1.2.2.2.2.2.2.2.2.2.1 x.2.1.2.2.2.2.2.2.2.2.2.2.1 x.2.1.2.2.2.2.2.2.2.2.2.2.2.1 x.2.1.2.2.2.2.2.2.2.2.2.2.2.2.1 x.2.1.2.2.2.2.2.2.2.2.2.2.2.2.2.1 x.2.1.2.2.2.2.2.2.2.2.2.2.2.2.2.2.1 x.2.1.2.2.2.2.2.2.2.2.2.2.2.2.2.2.2.1 x.2.1.2.2.2.2.2.2.2.2.2.2.2.2.2.2.2.2.1 x.2.1.2.2.2.2.2.2.2.2.2.2.2.2.2.2.2.2.2.1 x.2.1.2.2.2.2.2.2.2.2.2.2.2.2.2.2.2.2.2.2.1 x.2.1.2.2.2.2.2.2.2.2.2.2.2.2.2.2.2.2.2.2.2.1 x.2.1.2.2.2.2.2.2.2.2.2.2.2.2.2.2.2.2.2.2.2.2.1).run=some oy):aa aj 79 (pI.az pre F):=
 dh LR 79 Tryz.f79 pI [IC] bE (λx=>af3 x.1.1 x.2.1.1 x.2.1.2.1 x.2.1.2.2.1 x.2.1.2.2.2.1 x.2.1.2.2.2.2.1 x.2.1.2.2.2.2.2.1 x.2.1.2.2.2.2.2.2.1 x.2.1.2.2.2.2.2.2.2.1 x.2.1.2.2.2.2.2.2.2.2.1 x.2.1.2.2.2.2.2.2.2.2.2.1 x.2.1.2.2.2.2.2.2.2.2.2.2.1 x.2.1.2.2.2.2.2.2.2.2.2.2.2.1 x.2.1.2.2.2.2.2.2.2.2.2.2.2.2.1 x.2.1.2.2.2.2.2.2.2.2.2.2.2.2.2.1 x.2.1.2.2.2.2.2.2.2.2.2.2.2.2.2.2.1 x.2.1.2.2.2.2.2.2.2.2.2.2.2.2.2.2.2.1 x.2.1.2.2.2.2.2.2.2.2.2.2.2.2.2.2.2.2.1 x.2.1.2.2.2.2.2.2.2.2.2.2.2.2.2.2.2.2.2.1 x.2.1.2.2.2.2.2.2.2.2.2.2.2.2.2.2.2.2.2.2.1 x.2.1.2.2.2.2.2.2.2.2.2.2.2.2.2.2.2.2.2.2.2.1 x.2.1.2.2.2.2.2.2.2.2.2.2.2.2.2.2.2.2.2.2.2.2.1) hF
def aub (l:List Pt) (i:aBs):Bool:=decide (0<=lm l i)
def Di (x:ID):Bool:=decide (x.1.1.length<=140737488355328)
def af4 (x:ID):OT pI.Y:=.ok ⟨IC,((aub x.1.1 x.2.1,()),x.2)⟩
theorem apK:aa aj 79 (pI.az Di af4):=aaZ _ _ λx oy hp ho=>by
 rw [<-ho]
 clear ho
 refine (ae ?_).trans rfl
 simp only [aA,aI,aJ]
 exact hp
def yh:bx:=(pI.az Di af4)
theorem U7:aa aj 79 yh:=apK
theorem U6:ax yh:=av
def aiV:Env:=aq 79 yh YS
theorem O2:bU aj te aiV:=aU follows LR U7 U6
def nw:af:=⟨[.val true aAg],[],true,0,false⟩
abbrev IF:Type:=rm×Unit
def gE:aL:=⟨jG,[],false⟩
def GA (a0:kS):OT nw.Y:=
 let z0:aBd:=(a0.fst,a0.snd.fst,a0.snd.snd.fst,a0.snd.snd.snd.fst.fst.w0,a0.snd.snd.snd.fst.fst.w1,a0.snd.snd.snd.fst.fst.w2,a0.snd.snd.snd.fst.fst.w3,a0.snd.snd.snd.fst.snd.fst.w0,a0.snd.snd.snd.fst.snd.fst.w1,a0.snd.snd.snd.fst.snd.fst.w2,a0.snd.snd.snd.fst.snd.fst.w3,a0.snd.snd.snd.fst.snd.snd,a0.snd.snd.snd.snd.fst.w0,a0.snd.snd.snd.snd.fst.w1,a0.snd.snd.snd.snd.fst.w2,a0.snd.snd.snd.snd.fst.w3,a0.snd.snd.snd.snd.snd.fst.w0,a0.snd.snd.snd.snd.snd.fst.w1,a0.snd.snd.snd.snd.snd.fst.w2,a0.snd.snd.snd.snd.snd.fst.w3,a0.snd.snd.snd.snd.snd.snd,())
 (.br (ac a0.fst)
 (.br (decide (a0.snd.fst<(0:Int)))
  (.ok ⟨gE,(((60:Int),()),())⟩)
  (.br (decide ((5:Int)<a0.snd.fst))
   (.ok ⟨gE,(((60:Int),()),())⟩)
   (gd [decide ((0:Int)<=a0.snd.fst)] (.br (!(↑(List.length a0.snd.snd.fst):Int)==VM (1:Int) a0.snd.fst)
    (.ok ⟨gE,(((90:Int),()),())⟩)
    (gd [Di ((a0.snd.snd.fst,(),()),z0,())] (.br (aub a0.snd.snd.fst z0)
     (.ok ⟨gE,(((90:Int),()),())⟩)
     (.br (wF a0.fst a0.snd.snd.snd.fst)
      (.ok ⟨gE,(((90:Int),()),())⟩)
      (.br (wF a0.fst a0.snd.snd.snd.snd)
       (.ok ⟨gE,(((90:Int),()),())⟩)
       (.ok ⟨gE,(((0:Int),()),())⟩)))))))))
 (.ok ⟨gE,(((40:Int),()),())⟩))
theorem aa4 (pre:IF->Bool) (F:IF->OT nw.Y) (hF:∀ (x:IF) oy,pre x=true->(F x).run=some oy->(GA x.1.1).run=some oy):aa aj 25 (nw.az pre F):=
 dh O2 25 Tryz.f25 nw [gE] bE (λx=>GA x.1.1) hF
abbrev mf:Type:=Int×(Int×(List Pt×(Pt×Pt)))
theorem aie (l:List Pt) (i:aBs):∀ n k:Nat,k+n=l.length->decide (0<=tJ l i n k)=(l.drop k).any (wF i.1)
 |0,k,h=>by
  rw [List.drop_eq_nil_of_le (by omega)]
  rfl
 |n+1,k,h=>by
  have hk:k<l.length:=by omega
  have e1:l.drop k=l[k]::l.drop (k+1):=mZ hk
  have e3:l.getD k jI=l[k]:=by rw [fP,m4 hk];rfl
  rw [e1,List.any_cons]
  unfold tJ
  rw [e3]
  cases wF i.1 l[k]
  ·rw [aT,Bool.false_or]
   exact aie l i n (k+1) (by omega)
  ·rw [aK,Bool.true_or]
   exact ag (by omega)
theorem aEO (l:List Pt) (i:aBs):aub l i=l.any (wF i.1):=aie l i l.length 0 (by omega)
def cR (p:mf):Int:=cond (ac p.1) (cond (decide (p.2.1<0)) 60 (cond (decide (5<p.2.1)) 60 (cond (!((p.2.2.1.length:Int)==VM 1 p.2.1)) 90 (cond (p.2.2.1.any (wF p.1)) 90 (cond (wF p.1 p.2.2.2.1) 90 (cond (wF p.1 p.2.2.2.2) 90 0)))))) 40
def ia (x:IF):Bool:=decide (x.1.1.2.2.1.length<=140737488355328)
def af5 (x:IF):OT nw.Y:=.ok ⟨gE,((cR x.1.1,()),())⟩
theorem apQ:aa aj 25 (nw.az ia af5):=aa4 _ _ λx oy hp ho=>by
 rw [<-ho]
 clear ho
 obtain ⟨⟨p,⟨⟩⟩,⟨⟩⟩:=x
 show (GA p).run=some (⟨gE,((cR p,()),())⟩:nw.Y)
 have hp:decide (p.2.2.1.length<=140737488355328)=true:=hp
 unfold GA cR
 simp only [aEO]
 rcases (b9 (ac p.1)).symm with h1|h1
 ·rw [h1];exact (OT.au rfl).trans rfl
 ·rw [h1]
  refine (OT.ak rfl).trans ?_
  by_cases h2:p.2.1<0
  ·rw [ag h2];exact (OT.ak rfl).trans rfl
  ·rw [bq h2]
   refine (OT.au rfl).trans ?_
   by_cases h3:5<p.2.1
   ·rw [ag h3];exact (OT.ak rfl).trans rfl
   ·rw [bq h3]
    refine (OT.au rfl).trans ((ae (by rw [ag (show 0<=p.2.1 by omega)];rfl)).trans ?_)
    rcases (b9 (!((p.2.2.1.length:Int)==VM 1 p.2.1))).symm with h4|h4
    ·rw [h4]
     refine (OT.au rfl).trans ((ae ?_).trans ?_)
     ·simp only [aA,aI,aJ]
      exact hp
     ·rcases (b9 (p.2.2.1.any (wF p.1))).symm with h5|h5
      ·rw [h5]
       refine (OT.au rfl).trans ?_
       rcases (b9 (wF p.1 p.2.2.2.1)).symm with h6|h6
       ·rw [h6]
        refine (OT.au rfl).trans ?_
        rcases (b9 (wF p.1 p.2.2.2.2)).symm with h7|h7
        ·rw [h7];exact (OT.au rfl).trans rfl
        ·rw [h7];exact (OT.ak rfl).trans rfl
       ·rw [h6];exact (OT.ak rfl).trans rfl
      ·rw [h5];exact (OT.ak rfl).trans rfl
    ·rw [h4];exact (OT.ak rfl).trans rfl
def yk:bx:=(nw.az ia af5)
theorem Va:aa aj 25 yk:=apQ
theorem U9:ax yk:=av
def aiW:Env:=aq 25 yk aiV
theorem O4:bU aj te aiW:=aU follows O2 Va U9
def yg:af:=⟨[xh],[],true,0,false⟩
abbrev U5:Type:=LA×Unit
def Qw:aL:=⟨[.own 0],[(0,.row Ct)],false⟩
def apI (a0:cH):OT yg.Y:=
 (gd [decide ((0+List.length a0)*72<=140737488355328)] (.ok ⟨Qw,(((),()),[]++a0,())⟩))
theorem ak2 (pre:U5->Bool) (F:U5->OT yg.Y) (hF:∀ (x:U5) oy,pre x=true->(F x).run=some oy->(apI x.1.1).run=some oy):aa aj 47 (yg.az pre F):=
 dh O4 47 Tryz.f47 yg [Qw] bE (λx=>apI x.1.1) hF
def IB (x:U5):Bool:=decide (x.1.1.length*72<=140737488355328)
def apJ (x:U5):OT yg.Y:=.ok ⟨Qw,(((),()),x.1.1,())⟩
theorem aw1:aa aj 47 (yg.az IB apJ):=ak2 _ _ λx oy hp ho=>by
 rw [<-ho]
 have hp':x.1.1.length*72<=140737488355328:=bn hp
 refine (ae ?_).trans rfl
 simp only [aA,aI,aJ,aw]
 exact ag (by omega)
def Dh:bx:=(yg.az IB apJ)
theorem aaY:aa aj 47 Dh:=aw1
theorem aaX:ax Dh:=av
def auI:Env:=aq 47 Dh aiW
theorem YV:bU aj te auI:=aU follows O4 aaY aaX
def pH:af:=⟨[.val true aAg],[],false,0,false⟩
abbrev IA:Type:=rm×Unit
def Iz:aL:=⟨[YF],[],false⟩
def af1 (a0:kS):OT pH.Y:=
 (gd [IB ((a0.snd.snd.fst,()),())] (.ok ⟨Iz,((a0,()),())⟩))
theorem aaW (pre:IA->Bool) (F:IA->OT pH.Y) (hF:∀ (x:IA) oy,pre x=true->(F x).run=some oy->(af1 x.1.1).run=some oy):aa aj 18 (pH.az pre F):=
 dh YV 18 Tryz.f18 pH [Iz] bE (λx=>af1 x.1.1) hF
def hZ (x:IA):Bool:=decide (x.1.1.2.2.1.length*72<=140737488355328)
def af2 (x:IA):OT pH.Y:=.ok ⟨Iz,((x.1.1,()),())⟩
theorem apH:aa aj 18 (pH.az hZ af2):=aaW _ _ λx oy hp ho=>by
 rw [<-ho]
 clear ho
 obtain ⟨⟨⟨c,k,G,W,U⟩,⟨⟩⟩,⟨⟩⟩:=x
 refine (ae ?_).trans rfl
 simp only [aA,aI,aJ]
 exact hp
def yf:bx:=(pH.az hZ af2)
theorem U4:aa aj 18 yf:=apH
theorem U3:ax yf:=av
def aiU:Env:=aq 18 yf auI
theorem wz:bU aj te aiU:=aU follows YV U4 U3
end
end Go.Proofs.YthnnknnbfhkomaaGreat
