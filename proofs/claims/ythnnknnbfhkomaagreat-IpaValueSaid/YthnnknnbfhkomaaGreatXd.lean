/- A symbolic machine for Go code over plain data, and functions of the program as it shows them. No statement is proved in this file. -/
import Derived.KernelRfl
import Derived.Test.YthnnknnbfhkomaaGreatXc
set_option linter.unusedSimpArgs false
set_option linter.unusedVariables false
set_option linter.unusedSectionVars false
namespace Go.Proofs.YthnnknnbfhkomaaGreat
section
open Sx Go
set_option maxRecDepth 100000
def qU:af:=⟨jK,[],true,0,false⟩
abbrev Lc:Type:=o4
def jG:aL:=⟨[dw,rH],[],false⟩
def ah4 (a0:Int):OT qU.Y:=
 let z0:ab:= {w0:=5,w1:=0,w2:=0,w3:=0}
 let z1:ab:= {w0:=0,w1:=0,w2:=0,w3:=0}
 (.br (a0==(0:Int))
 (.ok ⟨jG,(({w0:=23,w1:=0,w2:=0,w3:=0},true,()),())⟩)
 (.br (a0==(1:Int))
  (.ok ⟨jG,(({w0:=21,w1:=0,w2:=0,w3:=0},true,()),())⟩)
  (.br (a0==(2:Int))
   (.br (a0==(2:Int))
    (.ok ⟨jG,((z0,true,()),())⟩)
    (.ok ⟨jG,((z1,false,()),())⟩))
   (.br (a0==(3:Int))
    (.ok ⟨jG,((z0,true,()),())⟩)
    (.ok ⟨jG,((z1,false,()),())⟩)))))
theorem adT (pre:Lc->Bool) (F:Lc->OT qU.Y) (hF:∀ (x:Lc) oy,pre x=true->(F x).run=some oy->(ah4 x.1.1).run=some oy):aa aj 110 (qU.az pre F):=
 di ajx 110 Tryz.f110 qU [jG] bD (λx=>ah4 x.1.1) hF
def bOf:Nat->ab
 |0=>⟨23,0,0,0⟩
 |1=>⟨21,0,0,0⟩
 |_=>⟨5,0,0,0⟩
abbrev bS (s:Int):ab:=bOf s.toNat
def OQ (_:Lc):Bool:=true
def ah5 (x:Lc):OT qU.Y:=.br (ac x.1.1) (.ok ⟨jG,((bS x.1.1,true,()),())⟩) (.ok ⟨jG,((⟨0,0,0,0⟩,false,()),())⟩)
theorem atD:aa aj 110 (qU.az OQ ah5):=adT _ _ λx oy _ ho=>by
 rw [<-ho]
 clear ho
 obtain ⟨⟨s,⟨⟩⟩,⟨⟩⟩:=x
 cases hs:ac s
 ·obtain ⟨h0,h1,h2,h3⟩:=Nd hs
  exact (OT.au h0).trans ((OT.au h1).trans ((OT.au h2).trans ((OT.au h3).trans (OT.au (b:=ac s) hs).symm)))
 ·rcases cb hs with h|h|h|h
  all_goals
   have h:s=_:=h
   subst h
   rfl
def zO:bt:=(qU.az OQ ah5)
theorem X6:aa aj 110 zO:=atD
theorem X5:ax zO:=av
def ajH:Env:=aq 110 zO aCj
theorem PA:bV aj te ajH:=aU follows ajx X6 X5
def K9:af:=⟨[],[],true,0,false⟩
abbrev atu:Type:=ct
def adK:aL:=⟨o8,[],false⟩
def aBp:OT K9.Y:=
 let z0:ab:= {w0:=0,w1:=0,w2:=0,w3:=0}
 (.ok ⟨adK,(((z0,z0,true),()),())⟩)
theorem att (pre:atu->Bool) (F:atu->OT K9.Y) (hF:∀ (x:atu) oy,pre x=true->(F x).run=some oy->(aBp).run=some oy):aa aj 111 (K9.az pre F):=
 di PA 111 Tryz.f111 K9 [adK] bD (λx=>aBp) hF
def aM:cK:=(⟨0,0,0,0⟩,⟨0,0,0,0⟩,true)
def ah2 (_:atu):Bool:=true
def aBq (_:atu):OT K9.Y:=.ok ⟨adK,((aM,()),())⟩
theorem aE4:aa aj 111 (K9.az ah2 aBq):=att _ _ λx oy _ ho=>ho
def K8:bt:=(K9.az ah2 aBq)
theorem anm:aa aj 111 K8:=aE4
theorem anl:ax K8:=av
def aCp:Env:=aq 111 K8 ajH
theorem ajG:bV aj te aCp:=aU follows PA anm anl
def zN:af:=⟨L3,[],true,0,false⟩
abbrev X4:Type:=LW
def kt:aL:=⟨iq,[],false⟩
def atB (a0:Int) (a1:ab) (a2:ab):OT zN.Y:=
 let z0:Bool:=ac a0
 let z1:Nat:=pS a0
 let z2:ab:= {w0:=0,w1:=0,w2:=0,w3:=0}
 let z3:ab:=dv z1 z2 a2
 (.br (z0)
 (.br (z0)
  (.br (z0)
   (.ok ⟨kt,((dv z1 (aR z1 (aR z1 a1 a1) a1) a2,()),())⟩)
   (.ok ⟨kt,((z2,()),())⟩))
  (.br (z0)
   (.ok ⟨kt,((z3,()),())⟩)
   (.ok ⟨kt,((z2,()),())⟩)))
 (.br (z0)
  (.br (z0)
   (.ok ⟨kt,((dv z1 (aR z1 z2 a1) a2,()),())⟩)
   (.ok ⟨kt,((z2,()),())⟩))
  (.br (z0)
   (.ok ⟨kt,((z3,()),())⟩)
   (.ok ⟨kt,((z2,()),())⟩))))
theorem ans (pre:X4->Bool) (F:X4->OT zN.Y) (hF:∀ (x:X4) oy,pre x=true->(F x).run=some oy->(atB x.1.1 x.1.2.1 x.1.2.2.1).run=some oy):aa aj 113 (zN.az pre F):=
 di ajG 113 Tryz.f113 zN [kt] bD (λx=>atB x.1.1 x.1.2.1 x.1.2.2.1) hF
def Gg (p:Nat) (x b:ab):ab:=dv p (aR p (aR p x x) x) b
def uk (x:X4):Bool:=ac x.1.1
def atC (x:X4):OT zN.Y:=.ok ⟨kt,((Gg (pS x.1.1) x.1.2.1 x.1.2.2.1,()),())⟩
theorem azr:aa aj 113 (zN.az uk atC):=ans _ _ λx oy hp ho=>by
 rw [<-ho]
 clear ho
 obtain ⟨⟨s,a,b,⟨⟩⟩,⟨⟩⟩:=x
 have hs:ac s=true:=hp
 exact (OT.ak hs).trans ((OT.ak hs).trans ((OT.ak hs).trans rfl))
def EB:bt:=(zN.az uk atC)
theorem adR:aa aj 113 EB:=azr
theorem adQ:ax EB:=av
def avH:Env:=aq 113 EB aCp
theorem ZC:bV aj te avH:=aU follows ajG adR adQ
def XL:af:=⟨[aC,xu],[],true,0,false⟩
abbrev aGS:Type:=(Int×rC)×Unit
def xl:aL:=⟨og,[],false⟩
def aGQ (a0:Int) (a1:cK):OT XL.Y:=
 let z0:Bool:=ac a0
 let z1:Nat:=ab.nat (bB (Int.toNat a0)).fst
 let z2:ab:=bS a0
 let z3:Bool:=uk ((a0,a1.fst,z2,()),())
 let z4:Nat:=pS a0
 let z5:ab:=aR z4 a1.snd.fst a1.snd.fst
 let z6:ab:=Gg z4 a1.fst z2
 let z7:=z6.w0
 let z8:=z6.w1
 let z9:=z6.w2
 let z10:=z6.w3
 (.br (z0)
 (.br (a1.snd.snd)
  (.ok ⟨xl,((a1.fst.w0==(0:UInt64)&&(a1.fst.w1==(0:UInt64)&&(a1.fst.w2==(0:UInt64)&&(a1.fst.w3==(0:UInt64)&&true)))&&(a1.snd.fst.w0==(0:UInt64)&&(a1.snd.fst.w1==(0:UInt64)&&(a1.snd.fst.w2==(0:UInt64)&&(a1.snd.fst.w3==(0:UInt64)&&true)))&&(a1.snd.snd==true&&true)),()),())⟩)
  (.br (z0)
   (.br (Nat.blt (ab.nat a1.fst) z1)
    (.br (Nat.blt (ab.nat a1.snd.fst) z1)
     (.br (z0)
      (gd [z3] (.ok ⟨xl,((z5.w0==z7&&(z5.w1==z8&&(z5.w2==z9&&(z5.w3==z10&&true))),()),())⟩))
      (gd [z3] (.ok ⟨xl,(((0:UInt64)==z7&&((0:UInt64)==z8&&((0:UInt64)==z9&&((0:UInt64)==z10&&true))),()),())⟩)))
     (.ok ⟨xl,((false,()),())⟩))
    (.ok ⟨xl,((false,()),())⟩))
   (.ok ⟨xl,((false,()),())⟩)))
 (.ok ⟨xl,((false,()),())⟩))
theorem azl (pre:aGS->Bool) (F:aGS->OT XL.Y) (hF:∀ (x:aGS) oy,pre x=true->(F x).run=some oy->(aGQ x.1.1 x.1.2.1).run=some oy):aa aj 61 (XL.az pre F):=
 di ZC 61 Tryz.f61 XL [xl] bD (λx=>aGQ x.1.1 x.1.2.1) hF
def eqE (a b:ab):Bool:=(a.w0==b.w0&&(a.w1==b.w1&&(a.w2==b.w2&&(a.w3==b.w3&&true))))
theorem tX {a b:ab}:eqE a b=true ↔ a=b:=by
 obtain ⟨a0,a1,a2,a3⟩:=a
 obtain ⟨b0,b1,b2,b3⟩:=b
 simp [eqE]
theorem ahL (a:ab):eqE a a=true:=tX.2 rfl
theorem asY (a b:ab):eqE a b=Nat.beq a.nat b.nat:=by
 cases h:eqE a b
 ·cases hb:Nat.beq a.nat b.nat
  ·rfl
  ·rw [tX.2 (gI (aY hb))] at h
   cases h
 ·rw [tX.1 h]
  exact (Nat.beq_refl _).symm
abbrev Pt:Type:=cK
def onB (c:Int) (P:Pt):Bool:=cond (ac c) (cond P.2.2 (bC P.1&&(bC P.2.1&&(P.2.2==true&&true)))
 (cond (Nat.blt P.1.nat (pS c)) (cond (Nat.blt P.2.1.nat (pS c)) (eqE (aR (pS c) P.2.1 P.2.1) (Gg (pS c) P.1 (bS c))) false) false)) false
def atj (_:aGS):Bool:=true
def aGR (x:aGS):OT XL.Y:=.ok ⟨xl,((onB x.1.1 x.1.2.1,()),())⟩
theorem aGP:aa aj 61 (XL.az atj aGR):=azl _ _ λx oy _ ho=>by
 rw [<-ho]
 clear ho
 obtain ⟨⟨c,⟨X,Y,i⟩,⟨⟩⟩,⟨⟩⟩:=x
 show _=(OT.ok ⟨xl,((onB c (X,Y,i),()),())⟩:OT XL.Y).run
 unfold onB
 cases hs:ac c
 ·exact OT.au hs
 ·refine (OT.ak hs).trans ?_
  cases i
  ·refine (OT.au rfl).trans ((OT.ak hs).trans ?_)
   cases hx:Nat.blt X.nat (pS c)
   ·exact OT.au hx
   ·refine (OT.ak hx).trans ?_
    cases hy:Nat.blt Y.nat (pS c)
    ·exact OT.au hy
    ·refine (OT.ak hy).trans ((OT.ak hs).trans ((ae ?_).trans rfl))
     simp only [aA,aI,aJ]
     exact hs
  ·exact OT.ak rfl
theorem vt {c:Int} {P:Pt} (h:onB c P=true):ac c=true:=by
 unfold onB at h
 cases hs:ac c
 ·rw [hs] at h;cases h
 ·rfl
def Sy:bt:=(XL.az atj aGR)
theorem atk:aa aj 61 Sy:=aGP
theorem ati:ax Sy:=av
def aHc:Env:=aq 61 Sy avH
theorem avF:bV aj te aHc:=aU follows ZC atk ati
def qO:af:=⟨[F5],[],true,0,false⟩
abbrev K7:Type:=(iH×Unit)×Unit
def K6:aL:=⟨og,[],false⟩
def ah0 (a0:iH):OT qO.Y:=
 (.ok ⟨K6,((a0.snd.snd.w0==(0:UInt64)&&(a0.snd.snd.w1==(0:UInt64)&&(a0.snd.snd.w2==(0:UInt64)&&(a0.snd.snd.w3==(0:UInt64)&&true))),()),())⟩)
theorem adJ (pre:K7->Bool) (F:K7->OT qO.Y) (hF:∀ (x:K7) oy,pre x=true->(F x).run=some oy->(ah0 x.1.1).run=some oy):aa aj 185 (qO.az pre F):=
 di avF 185 Tryz.f185 qO [K6] bD (λx=>ah0 x.1.1) hF
abbrev Hm:Type:=iH
def OL (_:K7):Bool:=true
def ah1 (x:K7):OT qO.Y:=.ok ⟨K6,((bC x.1.1.2.2,()),())⟩
theorem ats:aa aj 185 (qO.az OL ah1):=adJ _ _ λx oy hp ho=>by
 rw [<-ho]
 rfl
def zM:bt:=(qO.az OL ah1)
theorem XT:aa aj 185 zM:=ats
theorem XS:ax zM:=av
def ajF:Env:=aq 185 zM aHc
theorem Px:bV aj te ajF:=aU follows avF XT XS
def qM:af:=⟨o8,[],true,0,false⟩
abbrev KX:Type:=rC×Unit
def B8:aL:=⟨[F5],[],false⟩
def ahS (a0:cK):OT qM.Y:=
 let z0:ab:= {w0:=0,w1:=0,w2:=0,w3:=0}
 (.br (a0.snd.snd)
 (.ok ⟨B8,(((z0,z0,z0),()),())⟩)
 (.ok ⟨B8,(((a0.fst,a0.snd.fst,{w0:=1,w1:=0,w2:=0,w3:=0}),()),())⟩))
theorem adF (pre:KX->Bool) (F:KX->OT qM.Y) (hF:∀ (x:KX) oy,pre x=true->(F x).run=some oy->(ahS x.1.1).run=some oy):aa aj 167 (qM.az pre F):=
 di Px 167 Tryz.f167 qM [B8] bD (λx=>ahS x.1.1) hF
def gz (P:Pt):Hm:=cond P.2.2 (⟨0,0,0,0⟩,⟨0,0,0,0⟩,⟨0,0,0,0⟩) (P.1,P.2.1,⟨1,0,0,0⟩)
def OG (_:KX):Bool:=true
def ahT (x:KX):OT qM.Y:=.ok ⟨B8,((gz x.1.1,()),())⟩
theorem atb:aa aj 167 (qM.az OG ahT):=adF _ _ λx oy hp ho=>by
 rw [<-ho]
 clear ho
 obtain ⟨⟨⟨X,Y,i⟩,⟨⟩⟩,⟨⟩⟩:=x
 cases i<;>rfl
def zJ:bt:=(qM.az OG ahT)
theorem XD:aa aj 167 zJ:=atb
theorem XC:ax zJ:=av
def ajB:Env:=aq 167 zJ ajF
theorem Pv:bV aj te ajB:=aU follows Px XD XC
def K5:af:=⟨L3,[],true,0,false⟩
abbrev ato:Type:=LW
def SD:aL:=⟨iq,[],false⟩
def aBn (a0:Int) (a1:ab) (a2:ab):OT K5.Y:=
 (.br (ac a0)
 (.ok ⟨SD,((aR (pS a0) a1 a2,()),())⟩)
 (.ok ⟨SD,(({w0:=0,w1:=0,w2:=0,w3:=0},()),())⟩))
theorem atn (pre:ato->Bool) (F:ato->OT K5.Y) (hF:∀ (x:ato) oy,pre x=true->(F x).run=some oy->(aBn x.1.1 x.1.2.1 x.1.2.2.1).run=some oy):aa aj 186 (K5.az pre F):=
 di Pv 186 Tryz.f186 K5 [SD] bD (λx=>aBn x.1.1 x.1.2.1 x.1.2.2.1) hF
def bI (x:ato):Bool:=ac x.1.1
def aBo (x:ato):OT K5.Y:=.ok ⟨SD,((aR (pS x.1.1) x.1.2.1 x.1.2.2.1,()),())⟩
theorem aE2:aa aj 186 (K5.az bI aBo):=atn _ _ λx oy hp ho=>by
 rw [<-ho]
 clear ho
 obtain ⟨⟨s,a,b,⟨⟩⟩,⟨⟩⟩:=x
 have hs:ac s=true:=hp
 exact (OT.ak hs).trans rfl
def K4:bt:=(K5.az bI aBo)
theorem anj:aa aj 186 K4:=aE2
theorem ani:ax K4:=av
def aCo:Env:=aq 186 K4 ajB
theorem ajE:bV aj te aCo:=aU follows Pv anj ani
def K2:af:=⟨L3,[],true,0,false⟩
abbrev atg:Type:=LW
def Ss:aL:=⟨iq,[],false⟩
def aBl (a0:Int) (a1:ab) (a2:ab):OT K2.Y:=
 (.br (ac a0)
 (.ok ⟨Ss,((iw (pS a0) a1 a2,()),())⟩)
 (.ok ⟨Ss,(({w0:=0,w1:=0,w2:=0,w3:=0},()),())⟩))
theorem atf (pre:atg->Bool) (F:atg->OT K2.Y) (hF:∀ (x:atg) oy,pre x=true->(F x).run=some oy->(aBl x.1.1 x.1.2.1 x.1.2.2.1).run=some oy):aa aj 187 (K2.az pre F):=
 di ajE 187 Tryz.f187 K2 [Ss] bD (λx=>aBl x.1.1 x.1.2.1 x.1.2.2.1) hF
def jE (x:atg):Bool:=ac x.1.1
def aBm (x:atg):OT K2.Y:=.ok ⟨Ss,((iw (pS x.1.1) x.1.2.1 x.1.2.2.1,()),())⟩
theorem aE0:aa aj 187 (K2.az jE aBm):=atf _ _ λx oy hp ho=>by
 rw [<-ho]
 clear ho
 obtain ⟨⟨s,a,b,⟨⟩⟩,⟨⟩⟩:=x
 have hs:ac s=true:=hp
 exact (OT.ak hs).trans rfl
def K1:bt:=(K2.az jE aBm)
theorem anb:aa aj 187 K1:=aE0
theorem ana:ax K1:=av
def aCn:Env:=aq 187 K1 aCo
theorem ajD:bV aj te aCn:=aU follows ajE anb ana
def qN:af:=⟨[aC,dw,aQ],[],true,0,false⟩
abbrev K0:Type:=(Int×ab×m4)×Unit
def KZ:aL:=⟨iq,[],false⟩
def ahV (a0:Int) (a1:ab) (a2:UInt64):OT qN.Y:=
 let z0:ab:= {w0:=a2,w1:=0,w2:=0,w3:=0}
 (gd [bI ((a0,a1,z0,()),())] (.ok ⟨KZ,((aR (pS a0) a1 z0,()),())⟩))
theorem adG (pre:K0->Bool) (F:K0->OT qN.Y) (hF:∀ (x:K0) oy,pre x=true->(F x).run=some oy->(ahV x.1.1 x.1.2.1 x.1.2.2.1).run=some oy):aa aj 188 (qN.az pre F):=
 di ajD 188 Tryz.f188 qN [KZ] bD (λx=>ahV x.1.1 x.1.2.1 x.1.2.2.1) hF
def mu (p:Nat) (a:ab) (n:UInt64):ab:=aR p a ⟨n,0,0,0⟩
def iT (x:K0):Bool:=ac x.1.1
def ahW (x:K0):OT qN.Y:=.ok ⟨KZ,((mu (pS x.1.1) x.1.2.1 x.1.2.2.1,()),())⟩
theorem ate:aa aj 188 (qN.az iT ahW):=adG _ _ λx oy hp ho=>by
 rw [<-ho]
 clear ho
 obtain ⟨⟨s,a,b,⟨⟩⟩,⟨⟩⟩:=x
 have hs:ac s=true:=hp
 refine (ae ?_).trans rfl
 simp only [aA,aI,aJ]
 exact hs
def zK:bt:=(qN.az iT ahW)
theorem XF:aa aj 188 zK:=ate
theorem XE:ax zK:=av
def ajC:Env:=aq 188 zK aCn
theorem Pw:bV aj te ajC:=aU follows ajD XF XE
def kT:af:=⟨[aC,F5],[],true,0,false⟩
abbrev Ca:Type:=(Int×iH×Unit)×Unit
def kg:aL:=⟨o8,[],false⟩
def XO (a0:Int) (a1:iH):OT kT.Y:=
 let z0:ab:= {w0:=0,w1:=0,w2:=0,w3:=0}
 let z1:Nat:=pS a0
 let z2:rD:=(z0,())
 let z3:Bool:=bI ((a0,z0,z2),())
 let z4:ab:=aR z1 z0 z0
 let z5:Bool:=bI ((a0,a1.fst,z4,()),())
 let z6:Bool:=bI ((a0,z4,z2),())
 let z7:ab:=aR z1 z4 z0
 let z8:Bool:=bI ((a0,a1.snd.fst,z7,()),())
 let z9:cK:=(aR z1 a1.fst z4,aR z1 a1.snd.fst z7,false)
 let z10:ab:=CO z1 a1.snd.snd
 let z11:rD:=(z10,())
 let z12:ab:=aR z1 z10 z10
 let z13:ab:=aR z1 z12 z10
 (.br (bC a1.snd.snd)
 (.ok ⟨kg,(((z0,z0,true),()),())⟩)
 (.br (ac a0)
  (.br (Nat.beq (ab.nat a1.snd.snd%z1) 0)
   (gd [z3,z5,z6,z8] (.ok ⟨kg,((z9,()),())⟩))
   (gd [bI ((a0,z10,z11),()),bI ((a0,a1.fst,z12,()),()),bI ((a0,z12,z11),()),bI ((a0,a1.snd.fst,z13,()),())] (.ok ⟨kg,(((aR z1 a1.fst z12,aR z1 a1.snd.fst z13,false),()),())⟩)))
  (gd [z3,z5,z6,z8] (.ok ⟨kg,((z9,()),())⟩))))
theorem XN (pre:Ca->Bool) (F:Ca->OT kT.Y) (hF:∀ (x:Ca) oy,pre x=true->(F x).run=some oy->(XO x.1.1 x.1.2.1).run=some oy):aa aj 165 (kT.az pre F):=
 di Pw 165 Tryz.f165 kT [kg] bD (λx=>XO x.1.1 x.1.2.1) hF
def FG (p:Nat) (a:ab):ab:=cond (Nat.beq (a.nat%p) 0) ⟨0,0,0,0⟩ (CO p a)
def abr (p:Nat) (x y i:ab):Pt:=(aR p x (aR p i i),aR p y (aR p (aR p i i) i),false)
def gJ (p:Nat) (w:Hm):Pt:=cond (bC w.2.2) aM (abr p w.1 w.2.1 (FG p w.2.2))
def mQ (x:Ca):Bool:=ac x.1.1
def XP (x:Ca):OT kT.Y:=.ok ⟨kg,((gJ (pS x.1.1) x.1.2.1,()),())⟩
theorem ang:aa aj 165 (kT.az mQ XP):=XN _ _ λx oy hp ho=>by
 rw [<-ho]
 clear ho
 obtain ⟨⟨c,⟨X,Y,Z⟩,⟨⟩⟩,⟨⟩⟩:=x
 have hs:ac c=true:=hp
 show _=(OT.ok ⟨kg,((gJ (pS c) (X,Y,Z),()),())⟩:OT kT.Y).run
 unfold gJ
 dsimp only
 cases hz:bC Z
 ·refine (OT.au hz).trans ((OT.ak hs).trans ?_)
  unfold FG
  cases hb:Nat.beq (Z.nat%pS c) 0
  ·refine (OT.au rfl).trans ((ae ?_).trans rfl)
   simp only [aA,aI,aJ,aw]
   exact ⟨hs,hs,hs,hs⟩
  ·refine (OT.ak rfl).trans ((ae ?_).trans rfl)
   simp only [aA,aI,aJ,aw]
   exact ⟨hs,hs,hs,hs⟩
 ·exact OT.ak hz
def ug:bt:=(kT.az mQ XP)
theorem SC:aa aj 165 ug:=ang
theorem SB:ax ug:=av
def Zy:Env:=aq 165 ug ajC
theorem Ml:bV aj te Zy:=aU follows Pw SC SB
def kU:af:=⟨[aC,F5],[],true,0,false⟩
abbrev Cd:Type:=(Int×iH×Unit)×Unit
def oQ:aL:=⟨[F5],[],false⟩
def XY (a0:Int) (a1:iH):OT kU.Y:=
 let z0:Nat:=pS a0
 let z1:ab:=aR z0 a1.snd.fst a1.snd.fst
 let z2:rD:=(z1,())
 let z3:ab:=aR z0 a1.fst z1
 let z4:ab:=aR z0 a1.fst a1.fst
 let z5:ab:=mu z0 z4 (3:UInt64)
 let z6:ab:=mu z0 z3 (4:UInt64)
 let z7:UInt64×PUnit:=((2:UInt64),())
 let z8:ab:=aR z0 z5 z5
 let z9:ab:=mu z0 z6 (2:UInt64)
 let z10:ab:=iw z0 z8 z9
 let z11:ab:=iw z0 z6 z10
 let z12:ab:=aR z0 z1 z1
 let z13:ab:=aR z0 z5 z11
 let z14:ab:=mu z0 z12 (8:UInt64)
 let z15:ab:=aR z0 a1.snd.fst a1.snd.snd
 (.br (bC a1.snd.snd)
 (.ok ⟨oQ,((a1,()),())⟩)
 (gd [bI ((a0,a1.snd.fst,a1.snd.fst,()),()),bI ((a0,a1.fst,z2),()),iT ((a0,z3,(4:UInt64),()),()),bI ((a0,a1.fst,a1.fst,()),()),iT ((a0,z4,(3:UInt64),()),()),bI ((a0,z5,z5,()),()),iT ((a0,z6,z7),()),jE ((a0,z8,z9,()),()),jE ((a0,z6,z10,()),()),bI ((a0,z5,z11,()),()),bI ((a0,z1,z2),()),iT ((a0,z12,(8:UInt64),()),()),jE ((a0,z13,z14,()),()),bI ((a0,a1.snd.fst,a1.snd.snd,()),()),iT ((a0,z15,z7),())] (.ok ⟨oQ,(((z10,iw z0 z13 z14,mu z0 z15 (2:UInt64)),()),())⟩)))
theorem XX (pre:Cd->Bool) (F:Cd->OT kU.Y) (hF:∀ (x:Cd) oy,pre x=true->(F x).run=some oy->(XY x.1.1 x.1.2.1).run=some oy):aa aj 168 (kU.az pre F):=
 di Ml 168 Tryz.f168 kU [oQ] bD (λx=>XY x.1.1 x.1.2.1) hF
def aIh (p:Nat) (x y z:ab):Hm:=
 let yy:=aR p y y
 let s:=mu p (aR p x yy) 4
 let m:=mu p (aR p x x) 3
 let x':=iw p (aR p m m) (mu p s 2)
 (x',iw p (aR p m (iw p s x')) (mu p (aR p yy yy) 8),mu p (aR p y z) 2)
def adE (p:Nat) (w:Hm):Hm:=cond (bC w.2.2) w (aIh p w.1 w.2.1 w.2.2)
def qR (x:Cd):Bool:=ac x.1.1
def XZ (x:Cd):OT kU.Y:=.ok ⟨oQ,((adE (pS x.1.1) x.1.2.1,()),())⟩
theorem anq:aa aj 168 (kU.az qR XZ):=XX _ _ λx oy hp ho=>by
 rw [<-ho]
 clear ho
 obtain ⟨⟨c,⟨X,Y,Z⟩,⟨⟩⟩,⟨⟩⟩:=x
 have hs:ac c=true:=hp
 show _=(OT.ok ⟨oQ,((adE (pS c) (X,Y,Z),()),())⟩:OT kU.Y).run
 unfold adE
 dsimp only
 cases hz:bC Z
 ·refine (OT.au hz).trans ((ae ?_).trans rfl)
  simp only [aA,aI,aJ,aw]
  exact ⟨hs,hs,hs,hs,hs,hs,hs,hs,hs,hs,hs,hs,hs,hs,hs⟩
 ·exact OT.ak hz
def uj:bt:=(kU.az qR XZ)
theorem SH:aa aj 168 uj:=anq
theorem SG:ax uj:=av
def ZA:Env:=aq 168 uj Zy
theorem Mm:bV aj te ZA:=aU follows Ml SH SG
def ul:af:=⟨[aC,F5,F5],[],true,0,false⟩
abbrev X8:Type:=(Int×iH×iH×Unit)×Unit
def nS:aL:=⟨[F5],[],false⟩
def atK (a0:Int) (a1:iH) (a2:iH):OT ul.Y:=
 let z0:rD:=(a1.snd.snd,())
 let z1:rD:=(a2.snd.snd,())
 let z2:Nat:=pS a0
 let z3:ab:=aR z2 a2.snd.snd a2.snd.snd
 let z4:ab:=aR z2 a1.snd.snd a1.snd.snd
 let z5:ab:=aR z2 z3 a2.snd.snd
 let z6:ab:=aR z2 z4 a1.snd.snd
 let z7:ab:=aR z2 a2.fst z4
 let z8:ab:=aR z2 a1.fst z3
 let z9:ab:=aR z2 a2.snd.fst z6
 let z10:ab:=aR z2 a1.snd.fst z5
 let z11:ab:=iw z2 z7 z8
 let z12:ab:=iw z2 z9 z10
 let z13:ab:= {w0:=0,w1:=0,w2:=0,w3:=0}
 let z14:rD:=(z11,())
 let z15:ab:=aR z2 z11 z11
 let z16:ab:=aR z2 z12 z12
 let z17:ab:=aR z2 z15 z11
 let z18:rD:=(z17,())
 let z19:ab:=aR z2 z8 z15
 let z20:ab:=iw z2 z16 z17
 let z21:ab:=mu z2 z19 (2:UInt64)
 let z22:ab:=iw z2 z20 z21
 let z23:ab:=iw z2 z19 z22
 let z24:ab:=aR z2 z12 z23
 let z25:ab:=aR z2 z10 z17
 let z26:ab:=aR z2 a1.snd.snd a2.snd.snd
 (.br (bC a1.snd.snd)
 (.ok ⟨nS,((a2,()),())⟩)
 (.br (bC a2.snd.snd)
  (.ok ⟨nS,((a1,()),())⟩)
  (gd [bI ((a0,a1.snd.snd,z0),()),bI ((a0,a2.snd.snd,z1),()),bI ((a0,a1.fst,z3,()),()),bI ((a0,a2.fst,z4,()),()),bI ((a0,z3,z1),()),bI ((a0,a1.snd.fst,z5,()),()),bI ((a0,z4,z0),()),bI ((a0,a2.snd.fst,z6,()),()),jE ((a0,z7,z8,()),()),jE ((a0,z9,z10,()),())] (.br (z11.w0==(0:UInt64)&&(z11.w1==(0:UInt64)&&(z11.w2==(0:UInt64)&&(z11.w3==(0:UInt64)&&true))))
   (.br (z12.w0==(0:UInt64)&&(z12.w1==(0:UInt64)&&(z12.w2==(0:UInt64)&&(z12.w3==(0:UInt64)&&true))))
    (gd [qR ((a0,a1,()),())] (.ok ⟨nS,((adE z2 a1,()),())⟩))
    (.ok ⟨nS,(((z13,z13,z13),()),())⟩))
   (gd [bI ((a0,z11,z14),()),bI ((a0,z15,z14),()),bI ((a0,z8,z15,()),()),bI ((a0,z12,z12,()),()),jE ((a0,z16,z18),()),iT ((a0,z19,(2:UInt64),()),()),jE ((a0,z20,z21,()),()),jE ((a0,z19,z22,()),()),bI ((a0,z12,z23,()),()),bI ((a0,z10,z18),()),jE ((a0,z24,z25,()),()),bI ((a0,a1.snd.snd,z1),()),bI ((a0,z11,z26,()),())] (.ok ⟨nS,(((z22,iw z2 z24 z25,aR z2 z11 z26),()),())⟩))))))
theorem anw (pre:X8->Bool) (F:X8->OT ul.Y) (hF:∀ (x:X8) oy,pre x=true->(F x).run=some oy->(atK x.1.1 x.1.2.1 x.1.2.2.1).run=some oy):aa aj 166 (ul.az pre F):=
 di Mm 166 Tryz.f166 ul [nS] bD (λx=>atK x.1.1 x.1.2.1 x.1.2.2.1) hF
def aIG (p:Nat) (u s h r Z1 Z2:ab):Hm:=
 let hh:=aR p h h
 let hhh:=aR p hh h
 let c:=aR p u hh
 let x:=iw p (iw p (aR p r r) hhh) (mu p c 2)
 (x,iw p (aR p r (iw p c x)) (aR p s hhh),aR p h (aR p Z1 Z2))
def aIr (p:Nat) (w:Hm) (u s h r Z2:ab):Hm:=cond (bC h) (cond (bC r) (adE p w) (⟨0,0,0,0⟩,⟨0,0,0,0⟩,⟨0,0,0,0⟩)) (aIG p u s h r w.2.2 Z2)
def aHz (p:Nat) (w v:Hm):Hm:=
 let pz:=aR p w.2.2 w.2.2
 let qz:=aR p v.2.2 v.2.2
 let u:=aR p w.1 qz
 let s:=aR p w.2.1 (aR p qz v.2.2)
 aIr p w u s (iw p (aR p v.1 pz) u) (iw p (aR p v.2.1 (aR p pz w.2.2)) s) v.2.2
def YN (p:Nat) (w v:Hm):Hm:=cond (bC w.2.2) v (cond (bC v.2.2) w (aHz p w v))
def Cf (x:X8):Bool:=ac x.1.1
def atL (x:X8):OT ul.Y:=.ok ⟨nS,((YN (pS x.1.1) x.1.2.1 x.1.2.2.1,()),())⟩
theorem azt:aa aj 166 (ul.az Cf atL):=anw _ _ λx oy hp ho=>by
 rw [<-ho]
 clear ho
 obtain ⟨⟨c,⟨X,Y,Z⟩,⟨X2,Y2,Z2⟩,⟨⟩⟩,⟨⟩⟩:=x
 have hs:ac c=true:=hp
 show _=(OT.ok ⟨nS,((YN (pS c) (X,Y,Z) (X2,Y2,Z2),()),())⟩:OT ul.Y).run
 unfold YN
 dsimp only
 cases hz:bC Z
 ·refine (OT.au hz).trans ?_
  cases hz2:bC Z2
  ·refine (OT.au rfl).trans ((ae ?_).trans ?_)
   ·simp only [aA,aI,aJ,aw]
    exact ⟨hs,hs,hs,hs,hs,hs,hs,hs,hs,hs⟩
   ·unfold aHz aIr
    dsimp only [aT]
    cases hh:bC (iw (pS c) (aR (pS c) X2 (aR (pS c) Z Z)) (aR (pS c) X (aR (pS c) Z2 Z2)))
    ·refine (OT.au hh).trans ((ae ?_).trans rfl)
     simp only [aA,aI,aJ,aw]
     exact ⟨hs,hs,hs,hs,hs,hs,hs,hs,hs,hs,hs,hs,hs⟩
    ·refine (OT.ak hh).trans ?_
     dsimp only [aK]
     cases hr:bC (iw (pS c) (aR (pS c) Y2 (aR (pS c) (aR (pS c) Z Z) Z)) (aR (pS c) Y (aR (pS c) (aR (pS c) Z2 Z2) Z2)))
     ·exact OT.au hr
     ·refine (OT.ak hr).trans ((ae ?_).trans rfl)
      simp only [aA,aI,aJ]
      exact hs
  ·exact OT.ak rfl
 ·exact OT.ak hz
def ED:bt:=(ul.az Cf atL)
theorem adV:aa aj 166 ED:=azt
theorem adU:ax ED:=av
def avI:Env:=aq 166 ED ZA
theorem ZD:bV aj te avI:=aU follows Mm adV adU
def FQ:af:=⟨[aC,xu,xu],[],true,0,false⟩
abbrev atJ:Type:=(Int×cK×rC)×Unit
def EC:aL:=⟨o8,[],false⟩
def aBs (a0:Int) (a1:cK) (a2:cK):OT FQ.Y:=
 let z0:ab:= {w0:=0,w1:=0,w2:=0,w3:=0}
 let z1:cK:=(z0,z0,true)
 let z2:iH:=gz a1
 let z3:iH:=gz a2
 let z4:Nat:=pS a0
 let z5:iH:=YN z4 z2 z3
 (.br (!onB a0 a1)
 (.ok ⟨EC,((z1,()),())⟩)
 (.br (!onB a0 a2)
  (.ok ⟨EC,((z1,()),())⟩)
  (gd [Cf ((a0,z2,z3,()),()),mQ ((a0,z5,()),())] (.ok ⟨EC,((gJ z4 z5,()),())⟩))))
theorem atI (pre:atJ->Bool) (F:atJ->OT FQ.Y) (hF:∀ (x:atJ) oy,pre x=true->(F x).run=some oy->(aBs x.1.1 x.1.2.1 x.1.2.2.1).run=some oy):aa aj 140 (FQ.az pre F):=
 di ZD 140 Tryz.f140 FQ [EC] bD (λx=>aBs x.1.1 x.1.2.1 x.1.2.2.1) hF
def fT (c:Int) (P Q:Pt):Pt:=cond (onB c P) (cond (onB c Q) (gJ (pS c) (YN (pS c) (gz P) (gz Q))) aM) aM
def ah9 (_:atJ):Bool:=true
def aBt (x:atJ):OT FQ.Y:=.ok ⟨EC,((fT x.1.1 x.1.2.1 x.1.2.2.1,()),())⟩
theorem aE7:aa aj 140 (FQ.az ah9 aBt):=atI _ _ λx oy _ ho=>by
 rw [<-ho]
 clear ho
 obtain ⟨⟨c,P,Q,⟨⟩⟩,⟨⟩⟩:=x
 show _=(OT.ok ⟨EC,((fT c P Q,()),())⟩:OT FQ.Y).run
 rcases (b9 (onB c P)).symm with h1|h1
 ·have e:fT c P Q=aM:=by unfold fT;rw [h1];rfl
  rw [e]
  exact OT.ak (b:= !onB c P) (by rw [h1];rfl)
 ·have hs:=vt h1
  refine (OT.au (b:= !onB c P) (by rw [h1];rfl)).trans ?_
  rcases (b9 (onB c Q)).symm with h2|h2
  ·have e:fT c P Q=aM:=by unfold fT;rw [h1,h2];rfl
   rw [e]
   exact OT.ak (b:= !onB c Q) (by rw [h2];rfl)
  ·have e:fT c P Q=gJ (pS c) (YN (pS c) (gz P) (gz Q)):=by unfold fT;rw [h1,h2];rfl
   rw [e]
   refine (OT.au (b:= !onB c Q) (by rw [h2];rfl)).trans ((ae ?_).trans rfl)
   simp only [aA,aI,aJ,aw]
   exact ⟨hs,hs⟩
def Ld:bt:=(FQ.az ah9 aBt)
theorem anv:aa aj 140 Ld:=aE7
theorem anu:ax Ld:=av
def aCq:Env:=aq 140 Ld avI
theorem Tn:bV aj te aCq:=aU follows ZD anv anu
def uh:af:=⟨[aC,dw,xu],[],true,0,false⟩
abbrev XR:Type:=(Int×ab×rC)×Unit
def azn:Shape:=⟨39,[eD,uC,(6,fE),xp,(8,gv),(9,aC)],[iI,(1,YX),(2,YX),(3,aBP)],0,true⟩
abbrev fW:Type:=(Unit×Unit×Unit×Int×rE)×ap×kk×kk×auL×Unit
def we:Shape:=⟨39,[jU,xp,CA],[lA,(1,aBP)],0,true⟩
abbrev mR:Type:=(Unit×Cr)×kk×auL×Unit
def azq (a7:Int) (a9:Int) (c0:ap) (c1_0:UInt64) (c1_1:UInt64) (c1_2:UInt64) (c1_3:UInt64) (c1_4:UInt64) (c1_5:UInt64) (c1_6:UInt64) (c1_7:UInt64) (c1_8:Bool) (c2_0:UInt64) (c2_1:UInt64) (c2_2:UInt64) (c2_3:UInt64) (c2_4:UInt64) (c2_5:UInt64) (c2_6:UInt64) (c2_7:UInt64) (c2_8:Bool) (c3_0:UInt64) (c3_1:UInt64) (c3_2:UInt64) (c3_3:UInt64) (c3_4:UInt64) (c3_5:UInt64) (c3_6:UInt64) (c3_7:UInt64) (c3_8:UInt64) (c3_9:UInt64) (c3_10:UInt64) (c3_11:UInt64):OT (Sum fW aZ):=
 let z0:iH:=({w0:=c3_0,w1:=c3_1,w2:=c3_2,w3:=c3_3},{w0:=c3_4,w1:=c3_5,w2:=c3_6,w3:=c3_7},{w0:=c3_8,w1:=c3_9,w2:=c3_10,w3:=c3_11})
 let z1:Nat:=pS a7
 let z2:iH:=adE z1 z0
 let z3:iH:=gz ({w0:=c1_0,w1:=c1_1,w2:=c1_2,w3:=c1_3},{w0:=c1_4,w1:=c1_5,w2:=c1_6,w3:=c1_7},c1_8)
 let z4:Bool:=inR (a9-(1:Int))
 let z5:iH:=YN z1 z2 z3
 let z6:=z5.fst
 let z7:=z5.snd
 let z8:=z7.fst
 let z9:=z7.snd
 let z10:=z2.fst
 let z11:=z2.snd
 let z12:=z11.fst
 let z13:=z11.snd
 (.br (decide ((0:Int)<=a9))
 (gd [qR ((a7,z0,()),()),decide (4<=List.length c0)] (.br (rA {w0:=List.getD c0 0 0,w1:=List.getD c0 1 0,w2:=List.getD c0 2 0,w3:=List.getD c0 3 0} a9)
  (gd [Cf ((a7,z2,z3,()),()),z4] (.ok (.inl (((),(),(),a7,(),a9-(1:Int),()),c0,(c1_0,c1_1,c1_2,c1_3,c1_4,c1_5,c1_6,c1_7,c1_8,()),(c2_0,c2_1,c2_2,c2_3,c2_4,c2_5,c2_6,c2_7,c2_8,()),(z6.w0,z6.w1,z6.w2,z6.w3,z8.w0,z8.w1,z8.w2,z8.w3,z9.w0,z9.w1,z9.w2,z9.w3,()),()))))
  (gd [z4] (.ok (.inl (((),(),(),a7,(),a9-(1:Int),()),c0,(c1_0,c1_1,c1_2,c1_3,c1_4,c1_5,c1_6,c1_7,c1_8,()),(c2_0,c2_1,c2_2,c2_3,c2_4,c2_5,c2_6,c2_7,c2_8,()),(z10.w0,z10.w1,z10.w2,z10.w3,z12.w0,z12.w1,z12.w2,z12.w3,z13.w0,z13.w1,z13.w2,z13.w3,()),()))))))
 (.ok (.inr ⟨(.exit 0,we),(((),a7,(),()),(c2_0,c2_1,c2_2,c2_3,c2_4,c2_5,c2_6,c2_7,c2_8,()),(c3_0,c3_1,c3_2,c3_3,c3_4,c3_5,c3_6,c3_7,c3_8,c3_9,c3_10,c3_11,()),())⟩)))
def Ha (s:fW):OT (Sum fW aZ):=azq s.1.2.2.2.1 s.1.2.2.2.2.2.1 s.2.1 s.2.2.1.1 s.2.2.1.2.1 s.2.2.1.2.2.1 s.2.2.1.2.2.2.1 s.2.2.1.2.2.2.2.1 s.2.2.1.2.2.2.2.2.1 s.2.2.1.2.2.2.2.2.2.1 s.2.2.1.2.2.2.2.2.2.2.1 s.2.2.1.2.2.2.2.2.2.2.2.1 s.2.2.2.1.1 s.2.2.2.1.2.1 s.2.2.2.1.2.2.1 s.2.2.2.1.2.2.2.1 s.2.2.2.1.2.2.2.2.1 s.2.2.2.1.2.2.2.2.2.1 s.2.2.2.1.2.2.2.2.2.2.1 s.2.2.2.1.2.2.2.2.2.2.2.1 s.2.2.2.1.2.2.2.2.2.2.2.2.1 s.2.2.2.2.1.1 s.2.2.2.2.1.2.1 s.2.2.2.2.1.2.2.1 s.2.2.2.2.1.2.2.2.1 s.2.2.2.2.1.2.2.2.2.1 s.2.2.2.2.1.2.2.2.2.2.1 s.2.2.2.2.1.2.2.2.2.2.2.1 s.2.2.2.2.1.2.2.2.2.2.2.2.1 s.2.2.2.2.1.2.2.2.2.2.2.2.2.1 s.2.2.2.2.1.2.2.2.2.2.2.2.2.2.1 s.2.2.2.2.1.2.2.2.2.2.2.2.2.2.2.1 s.2.2.2.2.1.2.2.2.2.2.2.2.2.2.2.2.1
def ahY (g0_0:fW->mR) (s:fW):OT aZ:=(.ok ⟨(.exit 0,we),g0_0 s⟩)
def wc:aL:=⟨o8,[],false⟩
section
variable (ok0:fW->Bool) (g0_0:fW->mR)
def atl (a0:Int) (a1:ab) (a2:cK):OT uh.Y:=
 let z0:ab:= {w0:=0,w1:=0,w2:=0,w3:=0}
 let z1:Int:=ay a0 (1:Int)
 let z2:PUnit×PUnit×PUnit×Int×PUnit×Int×PUnit:=((),(),(),a0,(),(255:Int),())
 let z3:ab:=dv (pS z1) a1 z0
 let z4:aiP×aiP×(UInt64×UInt64×UInt64×UInt64×UInt64×UInt64×aBE)×PUnit:=((a2.fst.w0,a2.fst.w1,a2.fst.w2,a2.fst.w3,a2.snd.fst.w0,a2.snd.fst.w1,a2.snd.fst.w2,a2.snd.fst.w3,a2.snd.snd,()),((0:UInt64),(0:UInt64),(0:UInt64),(0:UInt64),(0:UInt64),(0:UInt64),(0:UInt64),(0:UInt64),false,()),((0:UInt64),(0:UInt64),(0:UInt64),(0:UInt64),(0:UInt64),(0:UInt64),(0:UInt64),(0:UInt64),(0:UInt64),(0:UInt64),(0:UInt64),(0:UInt64),()),())
 let z5:fW:=(z2,[z3.w0,z3.w1,z3.w2,z3.w3],z4)
 let z6:mR:=g0_0 z5
 let z7:=z6.fst.snd.fst
 let z8:=z6.snd.snd.fst
 let z9:=z8.snd
 let z10:=z9.snd
 let z11:=z10.snd
 let z12:=z11.snd
 let z13:=z12.snd
 let z14:=z13.snd
 let z15:=z14.snd
 let z16:=z15.snd
 let z17:=z16.snd
 let z18:=z17.snd
 let z19:iH:=({w0:=z8.fst,w1:=z9.fst,w2:=z10.fst,w3:=z11.fst},{w0:=z12.fst,w1:=z13.fst,w2:=z14.fst,w3:=z15.fst},{w0:=z16.fst,w1:=z17.fst,w2:=z18.fst,w3:=z18.snd.fst})
 let z20:fW:=(z2,[(0:UInt64),(0:UInt64),(0:UInt64),(0:UInt64)],z4)
 let z21:mR:=g0_0 z20
 let z22:=z21.fst.snd.fst
 let z23:=z21.snd.snd.fst
 let z24:=z23.snd
 let z25:=z24.snd
 let z26:=z25.snd
 let z27:=z26.snd
 let z28:=z27.snd
 let z29:=z28.snd
 let z30:=z29.snd
 let z31:=z30.snd
 let z32:=z31.snd
 let z33:=z32.snd
 let z34:iH:=({w0:=z23.fst,w1:=z24.fst,w2:=z25.fst,w3:=z26.fst},{w0:=z27.fst,w1:=z28.fst,w2:=z29.fst,w3:=z30.fst},{w0:=z31.fst,w1:=z32.fst,w2:=z33.fst,w3:=z33.snd.fst})
 (.br (!onB a0 a2)
 (.ok ⟨wc,(((z0,z0,true),()),())⟩)
 (.br (ac z1)
  (gd [ok0 z5,mQ ((z7,z19,()),())] (.ok ⟨wc,((gJ (pS z7) z19,()),())⟩))
  (gd [ok0 z20,mQ ((z22,z34,()),())] (.ok ⟨wc,((gJ (pS z22) z34,()),())⟩))))
theorem anh (h0:bh Ha ok0 (ahY g0_0)) (pre:XR->Bool) (F:XR->OT uh.Y) (hF:∀ (x:XR) oy,pre x=true->(F x).run=some oy->(atl ok0 g0_0 x.1.1 x.1.2.1 x.1.2.2.1).run=some oy):aa aj 141 (uh.az pre F):=
 di Tn 141 Tryz.f141 uh [wc] (lg Tn 0 azn [(0,we)] none none Ha bD h0 bD) (λx=>atl ok0 g0_0 x.1.1 x.1.2.1 x.1.2.2.1) hF
end
abbrev C9:Type:=kk
def bR (P:Pt):C9:=(P.1.w0,P.1.w1,P.1.w2,P.1.w3,P.2.1.w0,P.2.1.w1,P.2.1.w2,P.2.1.w3,P.2.2,())
abbrev C12:Type:=auL
def Lb (t:C9):Pt:=(⟨t.1,t.2.1,t.2.2.1,t.2.2.2.1⟩,⟨t.2.2.2.2.1,t.2.2.2.2.2.1,t.2.2.2.2.2.2.1,t.2.2.2.2.2.2.2.1⟩,t.2.2.2.2.2.2.2.2.1)
def aGT (t:C12):Hm:=(⟨t.1,t.2.1,t.2.2.1,t.2.2.2.1⟩,⟨t.2.2.2.2.1,t.2.2.2.2.2.1,t.2.2.2.2.2.2.1,t.2.2.2.2.2.2.2.1⟩,⟨t.2.2.2.2.2.2.2.2.1,t.2.2.2.2.2.2.2.2.2.1,t.2.2.2.2.2.2.2.2.2.2.1,t.2.2.2.2.2.2.2.2.2.2.2.1⟩)
def aEy (w:Hm):C12:=(w.1.w0,w.1.w1,w.1.w2,w.1.w3,w.2.1.w0,w.2.1.w1,w.2.1.w2,w.2.1.w3,w.2.2.w0,w.2.2.w1,w.2.2.w2,w.2.2.w3,())
def j2 (p:Nat) (k:ab) (P:Hm) (n:Nat) (w:Hm):Hm:=cond (rA k (255-(n:Int))) (YN p (adE p w) P) (adE p w)
def K3 (s:fW):Bool:=ac s.1.2.2.2.1&&decide (s.1.2.2.2.2.2.1=255/\s.2.1.length=4)
def ahX (s:fW):mR:=(((),s.1.2.2.2.1,(),()),s.2.2.2.1,aEy (upto (j2 (pS s.1.2.2.2.1) (elemOf s.2.1) (gz (Lb s.2.2.1))) (aGT s.2.2.2.2.1) 256),())
theorem azp:bh Ha K3 (ahY ahX):=by
 rintro ⟨⟨⟨⟩,⟨⟩,⟨⟩,c,⟨⟩,i,⟨⟩⟩,⟨l,⟨p0,p1,p2,p3,p4,p5,p6,p7,p8,⟨⟩⟩,⟨q0,q1,q2,q3,q4,q5,q6,q7,q8,⟨⟩⟩,⟨w0,w1,w2,w3,w4,w5,w6,w7,w8,w9,w10,w11,⟨⟩⟩,⟨⟩⟩⟩ h
 simp only [K3,aw,decide_eq_true_eq] at h
 obtain ⟨hs,rfl,hl⟩:=h
 obtain ⟨k,rfl⟩:∃ a,l=lst a:=⟨elemOf l,(cP hl).symm⟩
 have:=(bf (T:=Ha) (λn w=>((((),(),(),c,(),255-(n:Int),()),lst k,(p0,p1,p2,p3,p4,p5,p6,p7,p8,()),(q0,q1,q2,q3,q4,q5,q6,q7,q8,()),aEy w,()):fW)) (j2 (pS c) k (gz (Lb (p0,p1,p2,p3,p4,p5,p6,p7,p8,()))))
  (λw=>(⟨(.exit 0,we),(((),c,(),()),(q0,q1,q2,q3,q4,q5,q6,q7,q8,()),aEy w,())⟩:aZ)) 256 (aGT (w0,w1,w2,w3,w4,w5,w6,w7,w8,w9,w10,w11,())) (λ_ _=>True) trivial (λn w hn _=>⟨?_,trivial⟩) (λw _=> ?_)).1
 ·obtain ⟨m,hm⟩:=this
  exact ⟨m,_,hm,rfl⟩
 ·have e2:(255:Int)-(n:Int)-1=255-((n+1:Nat):Int):=by omega
  refine (OT.ak (ag (by dsimp only;omega))).trans ((ae ?_).trans ?_)
  ·simp only [aA,aI,aJ,aw]
   exact ⟨hs,rfl⟩
  ·rcases (b9 (rA k (255-(n:Int)))).symm with hb|hb
   ·have e:j2 (pS c) k (gz (Lb (p0,p1,p2,p3,p4,p5,p6,p7,p8,()))) n w=adE (pS c) w:=by unfold j2;rw [hb];rfl
    rw [e,<-e2]
    refine (OT.au hb).trans ((ae ?_).trans rfl)
    simp only [aA,aI,aJ]
    exact aS (by omega)
   ·have e:j2 (pS c) k (gz (Lb (p0,p1,p2,p3,p4,p5,p6,p7,p8,()))) n w=YN (pS c) (adE (pS c) w) (gz (Lb (p0,p1,p2,p3,p4,p5,p6,p7,p8,()))):=by unfold j2;rw [hb];rfl
    rw [e,<-e2]
    refine (OT.ak hb).trans ((ae ?_).trans rfl)
    simp only [aA,aI,aJ,aw]
    exact ⟨hs,aS (by omega)⟩
 ·exact OT.au (bq (by dsimp only;omega))
def aof:Hm:=(⟨0,0,0,0⟩,⟨0,0,0,0⟩,⟨0,0,0,0⟩)
def aIB (p:Nat) (k:ab) (P:Hm):Hm:=upto (j2 p k P) aof 256
def Gd (c:Int) (k:ab):ab:=dv (pS (ay c 1)) k ⟨0,0,0,0⟩
def pW (c:Int) (k:ab) (P:Pt):Pt:=cond (onB c P) (gJ (pS c) (aIB (pS c) (Gd c k) (gz P))) aM
theorem bG {c:Int} (h:ac c=true):ac (ay c 1)=true:=by
 rcases cb h with rfl|rfl|rfl|rfl<;>decide+kernel
def XQ (_:XR):Bool:=true
def atm (x:XR):OT uh.Y:=.ok ⟨wc,((pW x.1.1 x.1.2.1 x.1.2.2.1,()),())⟩
theorem azo:aa aj 141 (uh.az XQ atm):=anh K3 ahX azp _ _ λx oy _ ho=>by
 rw [<-ho]
 clear ho
 obtain ⟨⟨c,k,P,⟨⟩⟩,⟨⟩⟩:=x
 show _=(OT.ok ⟨wc,((pW c k P,()),())⟩:OT uh.Y).run
 rcases (b9 (onB c P)).symm with h1|h1
 ·have e:pW c k P=aM:=by unfold pW;rw [h1];rfl
  rw [e]
  exact OT.ak (b:= !onB c P) (by rw [h1];rfl)
 ·have hs:=vt h1
  have e:pW c k P=gJ (pS c) (aIB (pS c) (Gd c k) (gz P)):=by unfold pW;rw [h1];rfl
  rw [e]
  refine (OT.au (b:= !onB c P) (by rw [h1];rfl)).trans ((OT.ak (bG hs)).trans ((ae ?_).trans ?_))
  ·simp only [aA,aI,aJ,aw]
   refine ⟨?_,hs⟩
   refine (aw _ _).mpr ⟨hs,?_⟩
   exact ag (p:=(255:Int)=255/\(lst (Gd c k)).length=4) ⟨rfl,rfl⟩
  ·rfl
def EA:bt:=(uh.az XQ atm)
theorem adI:aa aj 141 EA:=azo
theorem adH:ax EA:=av
def avG:Env:=aq 141 EA aCq
theorem Zz:bV aj te avG:=aU follows Tn adI adH
abbrev Iw:Type:=YR
abbrev Qs:Type:=mY
section
variable (ok0:Iw->Bool) (g0_0:Iw->Qs)
end
abbrev Nq:Type:=YR
abbrev UQ:Type:=mY
section
variable (ok0:Nq->Bool) (g0_0:Nq->UQ)
end
abbrev agc:Type:=(Unit×Unit×UInt64×UInt64×eU)×Af
abbrev ak0:Type:=(Unit×m4)×uA
abbrev agb:Type:=nW×o5
abbrev akZ:Type:=mY
section
variable (ok0:agc->Bool) (g0_0:agc->ak0) (ok2:agb->Bool) (g2_2:agb->akZ)
end
def ofP (p:Nat) (a:ab):ab:=ofN (a.nat%p)
abbrev UR:Type:=LU×ap×o7
abbrev aaX:Type:=mY
section
variable (ok0:UR->Bool) (g0_0:UR->aaX)
end
abbrev UU:Type:=(Int×Ct)×o7
abbrev aaZ:Type:=(Int×Ct)×o7
abbrev UT:Type:=(Int×Ct)×o7
abbrev aaY:Type:=mY
section
variable (ok0:UU->Bool) (g0_0:UU->aaZ) (ok2:UT->Bool) (g2_2:UT->aaY)
end
theorem IF {p:Nat}:∀ (n o x k:Nat),k<2^n->o<p->aAH p n o x k=o*x^k%p
 |0,o,x,k,hk,ho=>by
  have:k=0:=by omega
  subst this
  show o=_
  rw [Nat.pow_zero,Nat.mul_one,bn ho]
 |n+1,o,x,k,hk,ho=>by
  unfold aAH
  rw [Nat.pow_succ] at hk
  cases h0:Nat.beq k 0
  ·simp only [aT]
   have hsq:(x*x%p)^(k/2)%p=x^(2*(k/2))%p:=by
    rw [<-Nat.pow_mod,Nat.pow_mul,Nat.pow_two]
   cases h1:Nat.beq (k%2) 1
   ·have h1':¬k%2=1:=λe=>by rw [e] at h1;cases h1
    simp only [aT]
    rw [IF n _ _ _ (by omega) ho,Nat.mul_mod,hsq,<-Nat.mul_mod,show 2*(k/2)=k by omega]
   ·have h1:=aY h1
    simp only [aK]
    rw [IF n _ _ _ (by omega) (Nat.mod_lt _ (by omega)),Nat.mul_mod,hsq,Nat.mod_mod,<-Nat.mul_mod,Nat.mul_assoc,<-Nat.pow_succ',show (2*(k/2)).succ=k by omega]
  ·have h0:=aY h0
   subst h0
   simp only [aK]
   rw [Nat.pow_zero,Nat.mul_one,bn ho]
theorem aEG {p:Nat} (hp:1<p) (a k:ab):lv p a k=ofN (a.nat^k.nat%p):=by
 rw [Sk (by omega),IF 256 1 _ _ (jn k) hp,Nat.one_mul,<-Nat.pow_mod]
theorem azE {e n:Nat} (h:avV e n=false):e/2^n%2=0:=by
 unfold avV at h
 have:¬e/2^n%2=1:=λe=>by rw [e] at h;cases h
 omega
def byP (p:Nat) (a b:ab):ab:=aR p a (FG p b)
abbrev Nr:Type:=(Unit×m5)×o5
abbrev US:Type:=mY
section
variable (ok0:Nr->Bool) (g0_0:Nr->US)
end
abbrev Fk:Type:=(Int×m5)×Af
abbrev Mv:Type:=mY
section
variable (ok0:Fk->Bool) (g0_0:Fk->Mv)
end
def JD (p:Nat) (X Y X2 s:ab):Pt:=(iw p (iw p (aR p s s) X) X2,iw p (aR p s (iw p X (iw p (iw p (aR p s s) X) X2))) Y,false)
def pE (p:Nat) (P Q:Pt):Pt:=cond P.2.2 Q (cond Q.2.2 P (cond (eqE P.1 Q.1)
 (cond (eqE P.2.1 Q.2.1) (JD p P.1 P.2.1 Q.1 (byP p (aR p ⟨3,0,0,0⟩ (aR p P.1 P.1)) (dv p P.2.1 P.2.1))) aM)
 (JD p P.1 P.2.1 Q.1 (byP p (iw p Q.2.1 P.2.1) (iw p Q.1 P.1)))))
abbrev UP:Type:=auN
abbrev aaW:Type:=auN
abbrev UO:Type:=auN
abbrev aaV:Type:=m6×uB
section
variable (ok0:UP->Bool) (g0_0:UP->aaW) (ok2:UO->Bool) (g2_2:UO->aaV)
end
def gl (p k:Nat) (P:Pt) (n:Nat) (O:Pt):Pt:=cond (avV k (255-n)) (pE p (pE p O O) P) (pE p O O)
def apI (p k:Nat) (P:Pt):Pt:=upto (gl p k P) aM 256
def aqv (c:Int) (k:ab) (P:Pt):Pt:=cond (onB c P) (apI (pS c) (ofP (pS (ay c 1)) k).nat P) aM
def kp:ab:=⟨1,0,0,0⟩
def sqN (p:Nat) (b:ab) (n:Nat):ab:=upto (λ_ e=>aR p e e) b n
abbrev Ton:Type:=iH
def P7 (p m:Nat) (k:Nat) (w:Ton):Ton:=cond (eqE (sqN p w.2.1 (m-k-1)) kp) (w.1,w.2.1,aR p w.2.2 w.2.2) (aR p w.1 w.2.2,aR p w.2.1 (aR p w.2.2 w.2.2),aR p w.2.2 w.2.2)
def aFt (p m:Nat) (w:Ton):Ton:=upto (P7 p m) w m
def Mt (s:Int) (a:ab):ab:=(aFt (pS s) ((bB s.toNat).2.1-1).toNat
 (lv (pS s) a (iF (Tp (jt (ng (bB s.toNat).1 kp).1 (bB s.toNat).2.1.toNat) kp).1),lv (pS s) a (jt (ng (bB s.toNat).1 kp).1 (bB s.toNat).2.1.toNat),lv (pS s) ⟨5,0,0,0⟩ (jt (ng (bB s.toNat).1 kp).1 (bB s.toNat).2.1.toNat))).1
def zF (p:Nat) (x:ab):ab:=cond (x.w0%2==1) (lf p x) x
theorem aBC {s:Int} (hs:ac s=true):1<=(bB s.toNat).2.1/\(bB s.toNat).2.1<=32:=by
 rcases cb hs with rfl|rfl|rfl|rfl<;>decide
def xH:af:=⟨[jM],[],true,0,false⟩
abbrev TQ:Type:=dl×Unit
def PR:aL:=⟨[.own 0],An,false⟩
def aoC (a0:aF):OT xH.Y:=
 (gd [decide ((0+List.length a0)*1<=140737488355328)] (.ok ⟨PR,(((),()),[]++a0,())⟩))
theorem akx (pre:TQ->Bool) (F:TQ->OT xH.Y) (hF:∀ (x:TQ) oy,pre x=true->(F x).run=some oy->(aoC x.1.1).run=some oy):aa aj 17 (xH.az pre F):=
 di Zz 17 Tryz.f17 xH [PR] bD (λx=>aoC x.1.1) hF
def rX (x:TQ):Bool:=decide (x.1.1.length<=140737488355328)
def aoD (x:TQ):OT xH.Y:=.ok ⟨PR,(((),()),x.1.1,())⟩
theorem av8:aa aj 17 (xH.az rX aoD):=akx _ _ λx oy hp ho=>by
 rw [<-ho]
 have hp':x.1.1.length<=140737488355328:=bm hp
 refine (ae ?_).trans rfl
 simp only [aA,aI,aJ]
 exact ag (by omega)
def C4:bt:=(xH.az rX aoD)
theorem Z4:aa aj 17 C4:=av8
theorem Z3:ax C4:=av
def au6:Env:=aq 17 C4 avG
theorem Ma:bV aj te au6:=aU follows Zz Z4 Z3
def mM:af:=⟨[jM],[],true,0,false⟩
abbrev BW:Type:=dl×Unit
def amx:Shape:=⟨27,[Cw,(3,ir),(6,jM),xp,(8,aC)],uD,0,true⟩
abbrev cO:Type:=(Unit×Unit×aF×jR)×Af
def nN:Shape:=⟨27,[Cw,(3,ir)],uD,0,true⟩
abbrev l8:Type:=mY
def amA (a6:aF) (a7:Int) (a8:Int) (c0:ap) (c1:ap):OT (Sum cO aZ):=
 let z0:Int:=Int.tdiv a8 (8:Int)
 let z1:Bool:=inB z0 4
 let z2:Bool:=decide (Int.toNat z0+0<List.length c1)
 let z3:Int:=(8:Int)*Int.tmod a8 (8:Int)
 (.br (decide (a8<a7))
 (gd [inB a8 (List.length a6),true&&inR z0,z1,z2,inR z3,decide ((0:Int)<=z3),z1,z2,inR (a8+(1:Int))] (.ok (.inl (((),(),a6,a7,a8+(1:Int),()),c0,List.set c1 (Int.toNat z0+0) (List.getD c1 (Int.toNat z0+0) (0:UInt64)|||cE (UInt8.toUInt64 (List.getD a6 (Int.toNat a8) (0:UInt8))) z3),()))))
 (.ok (.inr ⟨(.exit 0,nN),(((),(),()),c0,c1,())⟩)))
def vX (s:cO):OT (Sum cO aZ):=amA s.1.2.2.1 s.1.2.2.2.1 s.1.2.2.2.2.1 s.2.1 s.2.2.1
def Oo (g0_0:cO->l8) (s:cO):OT aZ:=(.ok ⟨(.exit 0,nN),g0_0 s⟩)
def vW:aL:=⟨iq,[],false⟩
section
variable (ok0:cO->Bool) (g0_0:cO->l8)
def BV (a0:aF):OT mM.Y:=
 let z0:cO:=(((),(),a0,(↑(List.length a0):Int),(0:Int),()),[(0:UInt64),(0:UInt64),(0:UInt64),(0:UInt64)],[(0:UInt64),(0:UInt64),(0:UInt64),(0:UInt64)],())
 let z1:=(g0_0 z0).snd
 let z2:=z1.snd.fst
 let z3:=z1.fst
 let z4:ap:=lay z3 z2 4 (0:UInt64)
 (gd [ok0 z0,decide (4<=List.length z2),decide ((4/1:Nat)+0<=List.length z3),decide (4<=List.length z4)] (.ok ⟨vW,(({w0:=List.getD z4 0 0,w1:=List.getD z4 1 0,w2:=List.getD z4 2 0,w3:=List.getD z4 3 0},()),())⟩))
theorem W8 (h0:bh vX ok0 (Oo g0_0)) (pre:BW->Bool) (F:BW->OT mM.Y) (hF:∀ (x:BW) oy,pre x=true->(F x).run=some oy->(BV ok0 g0_0 x.1.1).run=some oy):aa aj 155 (mM.az pre F):=
 di Ma 155 Tryz.f155 mM [vW] (lg Ma 0 amx [(0,nN)] none none vX bD h0 bD) (λx=>BV ok0 g0_0 x.1.1) hF
end
def aqp (b:aF) (k:Nat) (l:ap):ap:=l.set (k/8) (l.getD (k/8) 0|||cE (UInt8.toUInt64 (b.getD k 0)) (8*((k%8:Nat):Int)))
def aHq (b:aF) (n:Nat):ap:=upto (aqp b) [0,0,0,0] n
def NL (b:aF):ab:=elemOf (aHq b 32)
theorem I1 (b:aF):∀ n,(aHq b n).length=4
 |0=>rfl
 |n+1=>(cu ..).trans (I1 b n)
def Kz (s:cO):Bool:=decide (s.1.2.2.1.length=32/\s.1.2.2.2.1=32/\s.1.2.2.2.2.1=0/\s.2.2.1= [0,0,0,0])
def On (s:cO):l8:=(((),(),()),s.2.1,aHq s.1.2.2.1 32,())
theorem aH1 (i:Nat):Int.tdiv (i:Int) 8=((i/8:Nat):Int):=by rw [Int.tdiv_eq_ediv_of_nonneg (by omega)];omega
theorem aH2 (i:Nat):Int.tmod (i:Int) 8=((i%8:Nat):Int):=by rw [Int.tmod_eq_emod_of_nonneg (by omega)];omega
theorem amz:bh vX Kz (Oo On):=by
 rintro ⟨⟨⟨⟩,⟨⟩,b,n,i,⟨⟩⟩,⟨c0,c1,⟨⟩⟩⟩ h
 have h':=bm h
 dsimp only at h'
 obtain ⟨hb,rfl,rfl,rfl⟩:=h'
 have:=(bf (T:=vX) (λi o=>((((),(),b,(32:Int),(i:Int),()),c0,o,()):cO)) (aqp b)
  (λo=>(⟨(.exit 0,nN),(((),(),()),c0,o,())⟩:aZ)) 32 [0,0,0,0] (λ_ o=>o.length=4) rfl (λi o hi ho=>⟨?_,(cu ..).trans ho⟩) (λo ho=> ?_)).1
 ·obtain ⟨m,hm⟩:=this
  exact ⟨m,_,hm,rfl⟩
 ·have t1:=aH1 i
  have t2:=aH2 i
  refine (OT.ak (ag (by dsimp only;omega))).trans ((ae ?_).trans ?_)
  ·simp only [t1,t2,ho,hb,cD,aA,aI,aJ,Bool.true_and,aw]
   exact ⟨ba (by omega),aS (by omega),ba (by omega),ag (by omega),aS (by omega),ag (by omega),ba (by omega),ag (by omega),aS (by omega)⟩
  ·simp only [OT.jf,t1,t2,cD,Nat.add_zero]
   rfl
 ·exact OT.au (bq (by dsimp only;omega))
def kb (x:BW):Bool:=decide (x.1.1.length=32)
def Xa (x:BW):OT mM.Y:=.ok ⟨vW,((NL x.1.1,()),())⟩
abbrev W7 (b:aF):cO:=(((),(),b,(b.length:Int),0,()),[0,0,0,0],[0,0,0,0],())
theorem W9 {ok0:cO->Bool} {g0:cO->l8} {b:List UInt8} {L:List UInt64} (hok:ok0 (W7 b)=true)
 (hg:g0 (W7 b)=(((),(),()),[0,0,0,0],L,())) (hL:L.length=4):(BV ok0 g0 b).run=some ⟨vW,((elemOf L,()),())⟩:=by
 have e:lay [0,0,0,0] L 4 0=L:=VQ rfl hL
 unfold BV
 simp only [hg]
 refine (ae ?_).trans ?_
 ·simp only [e,hL,aA,aI,aJ,aw]
  exact ⟨hok,rfl,rfl,rfl⟩
 ·rw [e]
  rfl
theorem amy:aa aj 155 (mM.az kb Xa):=W8 Kz On amz _ _ λx oy hp ho=>by
 rw [<-ho]
 clear ho
 obtain ⟨⟨b,⟨⟩⟩,⟨⟩⟩:=x
 have hb:b.length=32:=bm hp
 exact W9 (b:=b) (L:=aHq b 32) (ag ⟨hb,by show ((b.length:Nat):Int)=32;omega,rfl,rfl⟩) rfl (I1 b 32)
def tO:bt:=(mM.az kb Xa)
theorem R5:aa aj 155 tO:=amy
theorem R4:ax tO:=av
def Zq:Env:=aq 155 tO au6
theorem Mi:bV aj te Zq:=aU follows Ma R5 R4
def tC:af:=⟨[aC,jM],[],true,0,false⟩
abbrev WS:Type:=(Int×dl)×Unit
def jv:aL:=⟨kZ,[],false⟩
def RQ (a0:Int) (a1:aF):OT tC.Y:=
 let z0:Nat:=List.length a1
 let z1:Int:=(↑z0:Int)
 let z2:ab:= {w0:=0,w1:=0,w2:=0,w3:=0}
 let z3:aF:=List.drop 0 (List.take 32 a1)
 let z4:aF:=List.drop 32 a1
 let z5:ab:=(bB (Int.toNat a0)).fst
 (.br (ac a0)
 (.br (!z1==(64:Int))
  (.ok ⟨jv,((z2,(21:Int),()),())⟩)
  (gd [cp (0:Int) (32:Int) z0,kb ((z3,()),()),cp (32:Int) z1 z0,kb ((z4,()),())] (.br (Fv z5)
   (.ok ⟨jv,((z2,(10:Int),()),())⟩)
   (.ok ⟨jv,((aFu (NL z3) (NL z4) z5,(0:Int),()),())⟩))))
 (.ok ⟨jv,((z2,(20:Int),()),())⟩))
theorem aml (pre:WS->Bool) (F:WS->OT tC.Y) (hF:∀ (x:WS) oy,pre x=true->(F x).run=some oy->(RQ x.1.1 x.1.2.1).run=some oy):aa aj 134 (tC.az pre F):=
 di Mi 134 Tryz.f134 tC [jv] bD (λx=>RQ x.1.1 x.1.2.1) hF
def Rd (b:aF):Bool:=(b.length:Int)==64
def aCE (s:Int) (b:aF):ab:=aFu (NL (b.take 32)) (NL (b.drop 32)) (bB s.toNat).1
def WR (_:WS):Bool:=true
def ar1 (x:WS):OT tC.Y:=.br (ac x.1.1) (.br (Rd x.1.2.1) (.ok ⟨jv,((aCE x.1.1 x.1.2.1,(0:Int),()),())⟩) (.ok ⟨jv,((⟨0,0,0,0⟩,(21:Int),()),())⟩)) (.ok ⟨jv,((⟨0,0,0,0⟩,(20:Int),()),())⟩)
theorem aq0 {b:List UInt8}:Rd b=true ↔ b.length=64:=by
 unfold Rd
 rw [beq_iff_eq]
 omega
theorem axG {s:Int} (h:ac s=true):Fv (bB s.toNat).1=false:=by
 rcases cb h with rfl|rfl|rfl|rfl<;>rfl
theorem amm {s:Int} {b:List UInt8} {W:ab} (hW:aFu (NL (List.drop 0 (b.take 32))) (NL (b.drop 32)) (bB s.toNat).1=W):(RQ s b).run=(OT.br (ac s) (.br (Rd b) (.ok ⟨jv,((W,(0:Int),()),())⟩) (.ok ⟨jv,((⟨0,0,0,0⟩,(21:Int),()),())⟩)) (.ok ⟨jv,((⟨0,0,0,0⟩,(20:Int),()),())⟩):OT tC.Y).run:=by
 unfold RQ
 simp only [hW]
 rcases (b9 (ac s)).symm with hs|hs
 ·exact (OT.au hs).trans (OT.au (b:=ac s) hs).symm
 ·refine (OT.ak hs).trans (Eq.trans ?_ (OT.ak (b:=ac s) hs).symm)
  rcases (b9 (Rd b)).symm with hl|hl
  ·exact (OT.ak (b:= !Rd b) (by rw [hl];rfl)).trans (OT.au (b:=Rd b) hl).symm
  ·have hb:b.length=64:=aq0.1 hl
   refine (OT.au (b:= !Rd b) (by rw [hl];rfl)).trans (Eq.trans ?_ (OT.ak (b:=Rd b) hl).symm)
   refine (ae ?_).trans (OT.au (axG hs))
   simp only [aA,aI,aJ,aw]
   exact ⟨cI (by omega),ag (by show (List.drop 0 (b.take 32)).length=32;rw [List.drop_zero,bM];omega),cI (by omega),ag (by show (List.drop 32 b).length=32;rw [ck];omega)⟩
theorem ayx:aa aj 134 (tC.az WR ar1):=aml _ _ λx oy hp ho=>by
 rw [<-ho]
 clear ho
 obtain ⟨⟨s,b,⟨⟩⟩,⟨⟩⟩:=x
 exact amm rfl
def D9:bt:=(tC.az WR ar1)
theorem acK:aa aj 134 D9:=ayx
theorem acJ:ax D9:=av
def avm:Env:=aq 134 D9 Zq
theorem Zo:bV aj te avm:=aU follows Mi acK acJ
def gS:af:=⟨[aC,jM],[],true,0,false⟩
abbrev qJ:Type:=(Int×dl)×Unit
def dC:aL:=⟨kZ,[],false⟩
def B3 (a0:Int) (a1:aF):OT gS.Y:=
 let z0:ab:= {w0:=0,w1:=0,w2:=0,w3:=0}
 let z1:Bool:=kb ((a1,()),())
 let z2:ab:=NL a1
 (.br (ac a0)
 (.br (!(↑(List.length a1):Int)==(32:Int))
  (.ok ⟨dC,((z0,(21:Int),()),())⟩)
  (gd [z1] (.br (!Nat.blt (ab.nat z2) (ab.nat (bB (Int.toNat a0)).fst))
   (.ok ⟨dC,((z0,(21:Int),()),())⟩)
   (gd [z1] (.ok ⟨dC,((z2,(0:Int),()),())⟩)))))
 (.ok ⟨dC,((z0,(20:Int),()),())⟩))
theorem Xo (pre:qJ->Bool) (F:qJ->OT gS.Y) (hF:∀ (x:qJ) oy,pre x=true->(F x).run=some oy->(B3 x.1.1 x.1.2.1).run=some oy):aa aj 122 (gS.az pre F):=
 di Zo 122 Tryz.f122 gS [dC] bD (λx=>B3 x.1.1 x.1.2.1) hF
def nh (b:aF):Bool:=(b.length:Int)==32
theorem sZ {b:List UInt8}:nh b=true ↔ b.length=32:=by
 unfold nh
 rw [beq_iff_eq]
 omega
def KM (_:qJ):Bool:=true
def KN (x:qJ):OT gS.Y:=.br (ac x.1.1) (.br (nh x.1.2.1) (.br (Nat.blt (NL x.1.2.1).nat (pS x.1.1)) (.ok ⟨dC,((NL x.1.2.1,(0:Int),()),())⟩) (.ok ⟨dC,((⟨0,0,0,0⟩,(21:Int),()),())⟩))
 (.ok ⟨dC,((⟨0,0,0,0⟩,(21:Int),()),())⟩)) (.ok ⟨dC,((⟨0,0,0,0⟩,(20:Int),()),())⟩)
theorem Xp {s:Int} {b:List UInt8} {N:ab} (hN:NL b=N):(B3 s b).run=(OT.br (ac s) (.br (nh b) (.br (Nat.blt N.nat (pS s)) (.ok ⟨dC,((N,(0:Int),()),())⟩) (.ok ⟨dC,((⟨0,0,0,0⟩,(21:Int),()),())⟩))
 (.ok ⟨dC,((⟨0,0,0,0⟩,(21:Int),()),())⟩)) (.ok ⟨dC,((⟨0,0,0,0⟩,(20:Int),()),())⟩):OT gS.Y).run:=by
 unfold B3
 simp only [hN]
 rcases (b9 (ac s)).symm with hs|hs
 ·exact (OT.au hs).trans (OT.au (b:=ac s) hs).symm
 ·refine (OT.ak hs).trans (Eq.trans ?_ (OT.ak (b:=ac s) hs).symm)
  rcases (b9 (nh b)).symm with hl|hl
  ·exact (OT.ak (b:= !nh b) (by rw [hl];rfl)).trans (OT.au (b:=nh b) hl).symm
  ·have hp:kb ((b,()),())=true:=ag (sZ.1 hl)
   refine (OT.au (b:= !nh b) (by rw [hl];rfl)).trans (Eq.trans ?_ (OT.ak (b:=nh b) hl).symm)
   rw [hp]
   refine (ae rfl).trans ?_
   rcases (b9 (Nat.blt N.nat (pS s))).symm with h|h
   ·exact (OT.ak (b:= !Nat.blt N.nat (pS s)) (by rw [h];rfl)).trans (OT.au (b:=Nat.blt N.nat (pS s)) h).symm
   ·exact (OT.au (b:= !Nat.blt N.nat (pS s)) (by rw [h];rfl)).trans ((ae rfl).trans (OT.ak (b:=Nat.blt N.nat (pS s)) h).symm)
theorem Oy:aa aj 122 (gS.az KM KN):=Xo _ _ λx oy hp ho=>by
 rw [<-ho]
 clear ho
 obtain ⟨⟨s,b,⟨⟩⟩,⟨⟩⟩:=x
 exact Xp rfl
def tW:bt:=(gS.az KM KN)
theorem Sg:aa aj 122 tW:=Oy
theorem Sf:ax tW:=av
def Zw:Env:=aq 122 tW avm
theorem aeB:bV aj te Zw:=aU follows Zo Sg Sf
abbrev asC:af:=xj
def oP (x:adj):Bool:=ac x.1.1
def asD (x:adj):OT xj.Y:=.ok ⟨Eo,((lv (pS x.1.1) x.1.2.1 x.1.2.2.1,()),())⟩
theorem ay1:aa aj 69 (asC.az oP asD):=cL (S:=xj) asE λx oy hp ho=>⟨rfl,(OT.ak (b:=ac x.1.1) hp).trans ho⟩
def En:bt:=(asC.az oP asD)
theorem adi:aa aj 69 En:=ay1
theorem adh:ax En:=av
def avB:Env:=aq 69 En Zw
theorem uN:bV aj te avB:=aU follows aeB adi adh
end
section
theorem IJ {α:Type} [BEq α] [LawfulBEq α]:∀ {l1 l2:List α},l1.Nodup->(∀ x ∈ l1,x ∈ l2)->l2.length<=l1.length->l1.Perm l2
 | [],l2,_,_,h=>by
  have:l2= []:=List.length_eq_zero_iff.1 (Nat.le_zero.1 h)
  rw [this]
 |a::t,l2,hn,hs,hl=>by
  have ha:a ∈ l2:=hs a (List.mem_cons_self ..)
  have hp:l2.Perm (a::l2.erase a):=List.perm_cons_erase ha
  rw [List.nodup_cons] at hn
  have hl2:=List.length_erase_of_mem ha
  have hpos:0<l2.length:=List.length_pos_of_mem ha
  have ih:t.Perm (l2.erase a):=IJ hn.2 (λx hx=>by
   have hne:x≠a:=λe=>hn.1 (e▸hx)
   exact (List.mem_erase_of_ne hne).2 (hs x (List.mem_cons_of_mem _ hx))) (by rw [List.length_cons] at hl;omega)
  exact (ih.cons a).trans hp.symm
theorem Bx {α:Type} [BEq α] [LawfulBEq α]:∀ {l1 l2:List α},l1.Nodup->(∀ x ∈ l1,x ∈ l2)->l1.length<=l2.length
 | [],l2,_,_=>Nat.zero_le _
 |a::t,l2,hn,hs=>by
  have ha:a ∈ l2:=hs a (List.mem_cons_self ..)
  rw [List.nodup_cons] at hn
  have hl2:=List.length_erase_of_mem ha
  have hpos:0<l2.length:=List.length_pos_of_mem ha
  have ih:=Bx (l2:=l2.erase a) hn.2 (λx hx=>by
   have hne:x≠a:=λe=>hn.1 (e▸hx)
   exact (List.mem_erase_of_ne hne).2 (hs x (List.mem_cons_of_mem _ hx)))
  rw [List.length_cons]
  omega
def Pr (p:Nat):Prop:=2<=p/\∀ d,d∣p->d=1\/d=p
theorem Pr.pos {p:Nat} (h:Pr p):0<p:=by have:=h.1;omega
theorem Pr.cop {p a:Nat} (h:Pr p) (ha:¬p∣a):Nat.Coprime p a:=by
 rcases h.2 (Nat.gcd p a) (Nat.gcd_dvd_left ..) with e|e
 ·exact e
 ·exact absurd (e▸Nat.gcd_dvd_right p a) ha
theorem Pr.ahJ {p a b:Nat} (h:Pr p) (hd:p∣a*b):p∣a\/p∣b:=by
 by_cases ha:p∣a
 ·exact .inl ha
 ·exact .inr ((h.cop ha).dvd_of_dvd_mul_left hd)
def wO:List Nat->Nat
 | []=>1
 |a::l=>a*wO l
theorem ak9 {l1 l2:List Nat} (h:l1.Perm l2):wO l1=wO l2:=by
 induction h with
 |nil=>rfl
 |cons x _ ih=>simp only [wO,ih]
 |swap x y l=>simp only [wO];rw [<-Nat.mul_assoc,<-Nat.mul_assoc,Nat.mul_comm x y]
 |trans _ _ a b=>exact a.trans b
theorem U6 (p a:Nat):∀ l:List Nat,wO (l.map λx=>a*x%p)%p=a^l.length*wO l%p
 | []=>by simp [wO]
 |x::l=>by
  have ih:=U6 p a l
  simp only [List.map_cons,wO,List.length_cons]
  rw [Nat.mul_mod,Nat.mod_mod,ih,<-Nat.mul_mod,Nat.pow_succ]
  congr 1
  rw [Nat.mul_assoc,Nat.mul_assoc,Nat.mul_left_comm x]
  rw [Nat.mul_left_comm a]
theorem U5 {p:Nat} (h:Pr p):∀ l:List Nat,(∀ x ∈ l,¬p∣x)->¬p∣wO l
 | [],_,hd=>by
  have:=Nat.le_of_dvd (by decide) hd
  have:=h.1
  simp only [wO] at*
  omega
 |x::l,hx,hd=>by
  rcases h.ahJ hd with h1|h1
  ·exact hx x (List.mem_cons_self ..) h1
  ·exact U5 h l (λy hy=>hx y (List.mem_cons_of_mem _ hy)) h1
theorem alM {p a b:Nat} (hab:a<=b) (h:a%p=b%p):p∣b-a:=by
 have h1:=Nat.div_add_mod a p
 have h2:=Nat.div_add_mod b p
 refine ⟨b/p-a/p,?_⟩
 rw [Nat.mul_sub]
 omega
theorem lJ {p x:Nat} (h0:0<x) (h1:x<p):¬p∣x:=λh=>by
 have:=Nat.le_of_dvd h0 h
 omega
theorem ars {p a:Nat} (h:Pr p) (ha:¬p∣a) {x y:Nat} (hx:x<p) (hy:y<p) (e:a*x%p=a*y%p):x=y:=by
 have aux:∀ {x y:Nat},x<p->y<p->x<=y->a*x%p=a*y%p->x=y:=λ{x y} hx hy hxy e=>by
  have hd:=alM (Nat.mul_le_mul_left a hxy) e
  rw [<-Nat.mul_sub] at hd
  rcases h.ahJ hd with h1|h1
  ·exact absurd h1 ha
  ·by_cases h0:y-x=0
   ·omega
   ·exact absurd h1 (lJ (by omega) (by omega))
 rcases Nat.le_total x y with hxy|hxy
 ·exact aux hx hy hxy e
 ·exact (aux hy hx hxy e.symm).symm
theorem sQ {α β:Type} {f:α->β}:∀ {l:List α},l.Nodup->(∀ x ∈ l,∀ y ∈ l,f x=f y->x=y)->(l.map f).Nodup
 | [],_,_=>List.nodup_nil
 |a::l,hn,hi=>by
  rw [List.nodup_cons] at hn
  rw [List.map_cons,List.nodup_cons]
  refine ⟨λhm=> ?_,sQ hn.2 λx hx y hy=>hi x (List.mem_cons_of_mem _ hx) y (List.mem_cons_of_mem _ hy)⟩
  obtain ⟨b,hb,e⟩:=List.mem_map.1 hm
  have:=hi a (List.mem_cons_self ..) b (List.mem_cons_of_mem _ hb) e.symm
  exact hn.1 (this▸hb)
theorem FL {p a:Nat} (h:Pr p) (ha:¬p∣a):a^(p-1)%p=1:=by
 have hp:=h.1
 have hn:(List.range' 1 (p-1)).Nodup:=List.nodup_range' ..
 have hm:((List.range' 1 (p-1)).map λx=>a*x%p).Nodup:=sQ hn λx hx y hy e=>by
  rw [List.mem_range'_1] at hx hy
  exact ars h ha (by omega) (by omega) e
 have hperm:=IJ (l2:=List.range' 1 (p-1)) hm (λy hy=>by
  obtain ⟨x,hx,rfl⟩:=List.mem_map.1 hy
  rw [List.mem_range'_1] at hx⊢
  have hlt:=Nat.mod_lt (a*x) h.pos
  have hne:a*x%p≠0:=λe=>by
   rcases h.ahJ (Nat.dvd_of_mod_eq_zero e) with h1|h1
   ·exact ha h1
   ·exact lJ (by omega) (by omega) h1
  omega) (by rw [List.length_map];exact Nat.le_refl _)
 have e:=U6 p a (List.range' 1 (p-1))
 rw [ak9 hperm,List.length_range'] at e
 have hnot:¬p∣wO (List.range' 1 (p-1)):=U5 h _ λx hx=>by
  rw [List.mem_range'_1] at hx
  exact lJ (by omega) (by omega)
 have hmul:∀ z,z*wO (List.range' 1 (p-1))%p=wO (List.range' 1 (p-1))*(z%p)%p:=λz=>by
  rw [Nat.mul_comm,Nat.mul_mod_mod]
 rw [hmul] at e
 have e1:wO (List.range' 1 (p-1))%p=wO (List.range' 1 (p-1))*1%p:=by rw [Nat.mul_one]
 rw [e1] at e
 exact (ars h hnot (by omega) (Nat.mod_lt _ h.pos) e).symm
theorem JE:∀ (k n:Nat),2<=n->n<=k->∃ r,Pr r/\r∣n
 |0,n,h2,hk=>by omega
 |k+1,n,h2,hk=>by
  by_cases hp:Pr n
  ·exact ⟨n,hp,Nat.dvd_refl _⟩
  ·have:∃ d,d∣n/\d≠1/\d≠n:=by
    apply lD
    intro hc
    refine hp ⟨h2,λd hd=> ?_⟩
    apply lD
    intro hd2
    exact hc ⟨d,hd,λe=>hd2 (.inl e),λe=>hd2 (.inr e)⟩
   obtain ⟨d,hd,h1,h3⟩:=this
   have hle:=Nat.le_of_dvd (by omega) hd
   have h0:d≠0:=λe=>by subst e;have:=Nat.eq_zero_of_zero_dvd hd;omega
   obtain ⟨r,hr,hrd⟩:=JE k d (by omega) (by omega)
   exact ⟨r,hr,Nat.dvd_trans hrd hd⟩
theorem Ur {n:Nat} (h2:2<=n) (hp:¬Pr n):∃ r,Pr r/\r∣n/\r*r<=n:=by
 have:∃ d,d∣n/\d≠1/\d≠n:=by
  apply lD
  intro hc
  refine hp ⟨h2,λd hd=> ?_⟩
  apply lD
  intro hd2
  exact hc ⟨d,hd,λe=>hd2 (.inl e),λe=>hd2 (.inr e)⟩
 obtain ⟨d,⟨e,rfl⟩,h1,h3⟩:=this
 have hd0:d≠0:=λe'=>by subst e';omega
 have he0:e≠0:=λe'=>by subst e';omega
 have he1:e≠1:=λe'=>by subst e';omega
 rcases Nat.le_total d e with hde|hde
 ·obtain ⟨r,hr,hrd⟩:=JE d d (by omega) (Nat.le_refl _)
  have hle:=Nat.le_of_dvd (by omega) hrd
  exact ⟨r,hr,Nat.dvd_trans hrd (Nat.dvd_mul_right ..),cV (Nat.mul_le_mul hle hle) (Nat.mul_le_mul_left d hde)⟩
 ·obtain ⟨r,hr,hrd⟩:=JE e e (by omega) (Nat.le_refl _)
  have hle:=Nat.le_of_dvd (by omega) hrd
  exact ⟨r,hr,Nat.dvd_trans hrd (Nat.dvd_mul_left ..),cV (Nat.mul_le_mul hle hle) (cl e hde)⟩
theorem aDJ {r a:Nat} (hr:2<=r) (m k:Nat):a^m%r=1->a^k%r=1->a^Nat.gcd m k%r=1:=by
 induction m,k using Nat.gcd.induction with
 |H0 n=>intro _ h;rw [Nat.gcd_zero_left];exact h
 |H1 m n hm ih=>
  intro h1 h2
  rw [Nat.gcd_rec]
  refine ih ?_ h1
  have e:a^n%r=a^(n%m)%r:=by
   conv=>lhs;rw [<-Nat.div_add_mod n m,Nat.pow_add,Nat.pow_mul,Nat.mul_mod,Nat.pow_mod,h1,Nat.one_pow,bn (show 1<r by omega),Nat.one_mul,Nat.mod_mod]
  rw [<-e]
  exact h2
theorem axr {n q e a m:Nat} (hn2:2<=n) (hq:Pr q) (he:n-1=q^(e+1)*m) (h1:a^(n-1)%n=1) (h2:Nat.gcd (a^(q^e*m)%n+n-1) n=1)
 {r:Nat} (hr:Pr r) (hd:r∣n):q^(e+1)∣r-1:=by
 have hr2:=hr.1
 have ha1:a^(n-1)%r=1:=by
  have:=congrArg (· %r) h1
  simp only [Nat.mod_mod_of_dvd _ hd] at this
  rw [this,bn (by omega)]
 have hna:¬r∣a:=λh=>by
  have:r∣a^(n-1):=Nat.dvd_trans h (by
   have:=Nat.pow_dvd_pow a (show 1<=n-1 by omega)
   rwa [Nat.pow_one] at this)
  rw [Nat.mod_eq_zero_of_dvd this] at ha1
  omega
 have hg:=aDJ hr2 _ _ ha1 (FL hr hna)
 obtain ⟨h,hh⟩:=Nat.gcd_dvd_left (n-1) (r-1)
 by_cases hqh:q∣h
 ·obtain ⟨k,rfl⟩:=hqh
  have hk:q^e*m=Nat.gcd (n-1) (r-1)*k:=by
   have:q*(q^e*m)=q*(Nat.gcd (n-1) (r-1)*k):=by
    rw [<-Nat.mul_assoc,<-Nat.pow_succ',<-he,Nat.mul_left_comm q,<-hh]
   exact Nat.eq_of_mul_eq_mul_left hq.pos this
  have hone:a^(q^e*m)%r=1:=by
   rw [hk,Nat.pow_mul,Nat.pow_mod,hg,Nat.one_pow,bn (by omega)]
  have hmn:a^(q^e*m)%n%r=1:=by rw [Nat.mod_mod_of_dvd _ hd,hone]
  have hdv:r∣a^(q^e*m)%n+n-1:=by
   obtain ⟨c,rfl⟩:=hd
   have:=Nat.div_add_mod (a^(q^e*m)%(r*c)) r
   refine ⟨a^(q^e*m)%(r*c)/r+c,?_⟩
   rw [Nat.mul_add]
   omega
  have:=Nat.dvd_gcd hdv hd
  rw [h2] at this
  have:=Nat.le_of_dvd (by decide) this
  omega
 ·have hc:Nat.Coprime (q^(e+1)) h:=Nat.Coprime.pow_left _ (hq.cop hqh)
  have hdg:q^(e+1)∣Nat.gcd (n-1) (r-1)*h:=by rw [<-hh,he];exact Nat.dvd_mul_right ..
  exact Nat.dvd_trans (hc.dvd_of_dvd_mul_right hdg) (Nat.gcd_dvd_right ..)
theorem axs {n F:Nat} (h2:2<=n) (hF:n<F*F) (h:∀ r,Pr r->r∣n->F∣r-1):Pr n:=by
 apply lD
 intro hp
 obtain ⟨r,hr,hd,hle⟩:=Ur h2 hp
 have h1:=hr.1
 have:=Nat.le_of_dvd (by omega) (h r hr hd)
 have:F*F<=r*r:=Nat.mul_le_mul (by omega) (by omega)
 omega
def W1 {α:Type} (n:Nat) (f:Nat->α):α:=match n with
 |0=>f 0
 |k+1=>f (k+1)
theorem W0 {α:Type} (n:Nat) (f:Nat->α):W1 n f=f n:=by cases n<;>rfl
def pw (n:Nat):Nat->Nat->Nat->Nat->Nat
 |0,o,_,_=>o
 |f+1,o,x,k=>W1 k λk=>cond (Nat.beq k 0) o (W1 (x*x%n) λy=>W1 (cond (Nat.beq (k%2) 1) (o*x%n) o) λo=>pw n f o y (k/2))
theorem aDB {p:Nat}:∀ (n o x k:Nat),k<2^n->o<p->pw p n o x k=o*x^k%p
 |0,o,x,k,hk,ho=>by
  have:k=0:=by omega
  subst this
  show o=_
  rw [Nat.pow_zero,Nat.mul_one,bn ho]
 |n+1,o,x,k,hk,ho=>by
  unfold pw
  simp only [W0]
  rw [Nat.pow_succ] at hk
  cases h0:Nat.beq k 0
  ·simp only [aT]
   have hsq:(x*x%p)^(k/2)%p=x^(2*(k/2))%p:=by
    rw [<-Nat.pow_mod,Nat.pow_mul,Nat.pow_two]
   cases h1:Nat.beq (k%2) 1
   ·have h1':¬k%2=1:=λe=>by rw [e] at h1;cases h1
    simp only [aT]
    rw [aDB n _ _ _ (by omega) ho,Nat.mul_mod,hsq,<-Nat.mul_mod,show 2*(k/2)=k by omega]
   ·have h1:=aY h1
    simp only [aK]
    rw [aDB n _ _ _ (by omega) (Nat.mod_lt _ (by omega)),Nat.mul_mod,hsq,Nat.mod_mod,<-Nat.mul_mod,Nat.mul_assoc,<-Nat.pow_succ',show (2*(k/2)).succ=k by omega]
  ·have h0:=aY h0
   subst h0
   simp only [aK]
   rw [Nat.pow_zero,Nat.mul_one,bn ho]
def pwm (n a k:Nat):Nat:=pw n 256 1 (a%n) k
theorem agf {n:Nat} (hn:2<=n) {a k:Nat} (hk:Nat.blt k (2^256)=true):pwm n a k=a^k%n:=by
 have hk':k<2^256:=Nat.le_of_ble_eq_true hk
 unfold pwm
 rw [aDB 256 1 _ _ hk' (by omega),Nat.one_mul,<-Nat.pow_mod]
def aF6 (n q e a m:Nat):Bool:=Nat.beq (n-1) (q^(e+1)*m)&&(Nat.blt n (2^256)&&(Nat.beq (pwm n a (n-1)) 1&&Nat.beq (Nat.gcd (pwm n a (q^e*m)+n-1) n) 1))
theorem gr {n q e a m:Nat} (h2:2<=n) (hq:Pr q) (h:aF6 n q e a m=true) {r:Nat} (hr:Pr r) (hd:r∣n):q^(e+1)∣r-1:=by
 simp only [aF6,aw] at h
 obtain ⟨h1,h3,h4,h5⟩:=h
 have h1:=aY h1
 have h3:n<2^256:=Nat.le_of_ble_eq_true h3
 have hm:q^e*m<=n-1:=by
  rw [h1,Nat.pow_succ,Nat.mul_right_comm]
  exact Nat.le_mul_of_pos_right _ hq.pos
 rw [agf h2 (jW (show n-1+1<=2^256 by omega))] at h4
 rw [agf h2 (jW (show q^e*m+1<=2^256 by omega))] at h5
 exact axr h2 hq h1 (aY h4) (aY h5) hr hd
def aHj (n:Nat):Nat->Nat->Bool
 |0,_=>false
 |f+1,d=>W1 d λd=>cond (Nat.blt n (d*d)) true (cond (Nat.beq (n%d) 0) false (aHj n f (d+1)))
theorem aoN {n:Nat}:∀ (f d:Nat),aHj n f d=true->0<d->(∀ x,1<x->x<d->¬x∣n)->∀ x,1<x->x*x<=n->¬x∣n
 |0,d,h,_,_=>by cases h
 |f+1,d,h,hd0,hb=>by
  unfold aHj at h
  rw [W0] at h
  cases h1:Nat.blt n (d*d)
  ·rw [h1] at h
   cases h2:Nat.beq (n%d) 0
   ·rw [h2] at h
    refine aoN f (d+1) h (by omega) λx hx hxd hdv=> ?_
    by_cases hxd2:x=d
    ·subst hxd2
     rw [Nat.mod_eq_zero_of_dvd hdv] at h2
     cases h2
    ·exact hb x hx (by omega) hdv
   ·rw [h2] at h;cases h
  ·have h1:n<d*d:=Nat.le_of_ble_eq_true h1
   intro x hx hxx
   refine hb x hx ?_
   apply lD
   intro hc
   have:=Nat.mul_le_mul (show d<=x by omega) (show d<=x by omega)
   omega
theorem AL {n:Nat} (f:Nat) (h2:2<=n) (h:aHj n f 2=true):Pr n:=by
 apply lD
 intro hp
 obtain ⟨r,hr,hd,hle⟩:=Ur h2 hp
 have:=hr.1
 exact aoN f 2 h (by decide) (λx a b=>by omega) r (by omega) hle hd
end
end Go.Proofs.YthnnknnbfhkomaaGreat
set_option maxRecDepth 100000
namespace Go.Proofs.YthnnknnbfhkomaaGreat
theorem ym:Pr 16513537:=AL 4065 (by decide) (by decide+kernel)
theorem yl:Pr 16521217:=AL 4066 (by decide) (by decide+kernel)
theorem apU:Pr 772231:=AL 880 (by decide) (by decide+kernel)
theorem apV:Pr 413527:=AL 645 (by decide) (by decide+kernel)
theorem A9:Pr 325086459374267:=axs (F:=319338368737) (by decide) (by decide+kernel) λr hr hd=>by
 have h0:772231∣r-1:=gr (n:=325086459374267) (q:=772231) (e:=0) (a:=2) (m:=420970486) (by decide) apU (by decide+kernel) hr hd
 have h1:413527∣r-1:=gr (n:=325086459374267) (q:=413527) (e:=0) (a:=2) (m:=786131158) (by decide) apV (by decide+kernel) hr hd
 have k1:319338368737∣r-1:=Nat.Coprime.mul_dvd_of_dvd_of_dvd (m:=772231) (n:=413527) (show Nat.gcd 772231 413527=1 by decide+kernel) h0 h1
 exact k1
theorem ala:Pr 6942563:=AL 2636 (by decide) (by decide+kernel)
theorem aa7:Pr 41655379:=axs (F:=6942563) (by decide) (by decide+kernel) λr hr hd=>by
 have h0:6942563∣r-1:=gr (n:=41655379) (q:=6942563) (e:=0) (a:=2) (m:=6) (by decide) ala (by decide+kernel) hr hd
 exact h0
theorem My:Pr 22160661629:=axs (F:=41655379) (by decide) (by decide+kernel) λr hr hd=>by
 have h0:41655379∣r-1:=gr (n:=22160661629) (q:=41655379) (e:=0) (a:=2) (m:=532) (by decide) aa7 (by decide+kernel) hr hd
 exact h0
theorem eY:Pr 8999194758858563409123804352480028797519453:=axs (F:=7204131026362786056900943) (by decide) (by decide+kernel) λr hr hd=>by
 have h0:325086459374267∣r-1:=gr (n:=8999194758858563409123804352480028797519453) (q:=325086459374267) (e:=0) (a:=2) (m:=27682465692912573825889481556) (by decide) A9 (by decide+kernel) hr hd
 have h1:22160661629∣r-1:=gr (n:=8999194758858563409123804352480028797519453) (q:=22160661629) (e:=0) (a:=2) (m:=406088721966766121824069856270988) (by decide) My (by decide+kernel) hr hd
 have k1:7204131026362786056900943∣r-1:=Nat.Coprime.mul_dvd_of_dvd_of_dvd (m:=325086459374267) (n:=22160661629) (show Nat.gcd 325086459374267 22160661629=1 by decide+kernel) h0 h1
 exact k1
theorem aP:Pr 28948022309329048855892746252171976963363056481941560715954676764349967630337:=axs (F:=8999194758858563409123804352480028797519453) (by decide) (by decide+kernel) λr hr hd=>by
 have h0:8999194758858563409123804352480028797519453∣r-1:=gr (n:=28948022309329048855892746252171976963363056481941560715954676764349967630337) (q:=8999194758858563409123804352480028797519453) (e:=0) (a:=2) (m:=3216734728497058061019394250637312) (by decide) eY (by decide+kernel) hr hd
 exact h0
theorem axo:Pr 31649:=AL 179 (by decide) (by decide+kernel)
theorem axp:Pr 12149:=AL 112 (by decide) (by decide+kernel)
theorem Gf:Pr 5239247429827:=axs (F:=384503701) (by decide) (by decide+kernel) λr hr hd=>by
 have h0:31649∣r-1:=gr (n:=5239247429827) (q:=31649) (e:=0) (a:=2) (m:=165542274) (by decide) axo (by decide+kernel) hr hd
 have h1:12149∣r-1:=gr (n:=5239247429827) (q:=12149) (e:=0) (a:=2) (m:=431249274) (by decide) axp (by decide+kernel) hr hd
 have k1:384503701∣r-1:=Nat.Coprime.mul_dvd_of_dvd_of_dvd (m:=31649) (n:=12149) (show Nat.gcd 31649 12149=1 by decide+kernel) h0 h1
 exact k1
theorem alb:Pr 5701177:=AL 2389 (by decide) (by decide+kernel)
theorem U8:Pr 399082391:=axs (F:=5701177) (by decide) (by decide+kernel) λr hr hd=>by
 have h0:5701177∣r-1:=gr (n:=399082391) (q:=5701177) (e:=0) (a:=2) (m:=70) (by decide) alb (by decide+kernel) hr hd
 exact h0
theorem ia:Pr 10427374428728808478656897599072717:=axs (F:=2090891391335963876357) (by decide) (by decide+kernel) λr hr hd=>by
 have h0:5239247429827∣r-1:=gr (n:=10427374428728808478656897599072717) (q:=5239247429827) (e:=0) (a:=2) (m:=1990242791238649418308) (by decide) Gf (by decide+kernel) hr hd
 have h1:399082391∣r-1:=gr (n:=10427374428728808478656897599072717) (q:=399082391) (e:=0) (a:=2) (m:=26128375152309860944621076) (by decide) U8 (by decide+kernel) hr hd
 have k1:2090891391335963876357∣r-1:=Nat.Coprime.mul_dvd_of_dvd_of_dvd (m:=5239247429827) (n:=399082391) (show Nat.gcd 5239247429827 399082391=1 by decide+kernel) h0 h1
 exact k1
theorem aIK:Pr 2:=AL 3 (by decide) (by decide+kernel)
theorem aO:Pr 28948022309329048855892746252171976963363056481941647379679742748393362948097:=axs (F:=44785232154536915268878889192838239440863232) (by decide) (by decide+kernel) λr hr hd=>by
 have h0:10427374428728808478656897599072717∣r-1:=gr (n:=28948022309329048855892746252171976963363056481941647379679742748393362948097) (q:=10427374428728808478656897599072717) (e:=0) (a:=2) (m:=2776156405161148062854777934377771323097088) (by decide) ia (by decide+kernel) hr hd
 have h1:4294967296∣r-1:=gr (n:=28948022309329048855892746252171976963363056481941647379679742748393362948097) (q:=2) (e:=31) (a:=5) (m:=6739986666787659948666753771754907668419893943225417141728043264801) (by decide) aIK (by decide+kernel) hr hd
 have k1:44785232154536915268878889192838239440863232∣r-1:=Nat.Coprime.mul_dvd_of_dvd_of_dvd (m:=10427374428728808478656897599072717) (n:=4294967296) (show Nat.gcd 10427374428728808478656897599072717 4294967296=1 by decide+kernel) h0 h1
 exact k1
end Go.Proofs.YthnnknnbfhkomaaGreat
namespace Go.Proofs.YthnnknnbfhkomaaGreat
section
set_option maxRecDepth 100000
theorem dz (p:Int):p∣0:=Int.dvd_zero p
theorem dc {p a b:Int} (c:Int) (h:p∣a) (k:p∣b):p∣c*a+b:=Int.dvd_add (Int.dvd_trans h (Int.dvd_mul_left ..)) k
theorem dk {p a K:Int} (h:p∣a) (e:K=a):p∣K:=e▸h
theorem aFQ {p y3 x3 b y1 y2 x1 x2 l:Int} (h0:p∣y3-(l*(x1-x3)-y1)) (h1:p∣x3-(l*l-x1-x2)) (h2:p∣l*(x1-x2)-(y1-y2)) (h3:p∣l*(y1+y2)-(x1*x1+x1*x2+x2*x2)) (h4:p∣y1*y1-x1*x1*x1-b):p∣(y3*y3-x3*x3*x3-b):=
 dk (dc (y3-x3*l+x1*l-y1) h0 (dc (-x3*x3+x3*x1+x3*x2-x1*l*l+x2*l*l-x1*x1-2*x1*x2-x2*x2+2*y1*l) h1 (dc (-l*l*l+2*x1*l+x2*l) h2 (dc (l*l-2*x1-x2) h3 (dc (1) h4 (dz p)))))) (by clear h0 h1 h2 h3 h4;grind)
theorem aC2 {p y3 x3 y1 y2 x1 x2 l:Int} (h0:p∣y3-(l*(x1-x3)-y1)) (h1:p∣l*(x1-x2)-(y1-y2)):p∣(y3-(l*(x2-x3)-y2)):=
 dk (dc (1) h0 (dc (1) h1 (dz p))) (by clear h0 h1;grind)
theorem aG1 {p y3 x3 y1 y2 x1 x2 l:Int} (h0:p∣y3-(l*(x1-x3)-y1)) (h1:p∣x3-(l*l-x1-x2)) (h2:p∣l*(x1-x2)-(y1-y2)) (h3:p∣l*(y1+y2)-(x1*x1+x1*x2+x2*x2)):p∣((-l)*((-y1)+y3)-(x1*x1+x1*x3+x3*x3)):=
 dk (dc (-l) h0 (dc (-x3+x2) h1 (dc (-l) h2 (dc (1) h3 (dz p))))) (by clear h0 h1 h2 h3;grind)
theorem atw {p b y1 y2 x1 x2 l:Int} (h0:p∣y1*y1-x1*x1*x1-b) (h1:p∣y2*y2-x2*x2*x2-b) (h2:p∣l*(x1-x2)-(y1-y2)):p∣(x1-x2)*(l*(y1+y2)-(x1*x1+x1*x2+x2*x2)):=
 dk (dc (1) h0 (dc (-1) h1 (dc (y1+y2) h2 (dz p)))) (by clear h0 h1 h2;grind)
theorem aG4 {p x7 x5 yt xt ys xs y1 y3 L M l m x1 x3 y2 x2:Int} (h0:p∣l*(x1-x2)-(y1-y2)) (h1:p∣m*(x2-x3)-(y2-y3)) (h2:p∣xs-(l*l-x1-x2)) (h3:p∣ys-(l*(x1-xs)-y1)) (h4:p∣xt-(m*m-x2-x3)) (h5:p∣yt-(m*(x2-xt)-y2)) (h6:p∣x5-(L*L-xs-x3)) (h7:p∣x7-(M*M-x1-xt)) (h8:p∣l*(y1+y2)-(x1*x1+x1*x2+x2*x2)) (h9:p∣m*(y2+y3)-(x2*x2+x2*x3+x3*x3)) (h10:p∣L*(xs-x3)-(ys-y3)) (h11:p∣M*(x1-xt)-(y1-yt)):p∣((xs-x3)*(x1-xt))*(x5-x7):=
 dk (dc (-L*l*l-l*l*l-L*l*m-M*l*m-l*l*m-L*m*m+L*x1-M*x1+2*l*x1+2*m*x1+L*x3-M*x3+L*x2-M*x2+l*x2+m*x2) h0 (dc (-L*l*m-M*l*m-l*l*m-M*m*m-l*m*m-m*m*m-L*x1+m*x1-L*x3+l*x3+2*m*x3-L*x2+2*l*x2+3*m*x2-2*y2) h1 (dc (x7*xt-x7*x1-x5*xt+x5*x1+L*L*m*m-L*L*x1-L*l*x1-l*l*x1-L*m*x1-l*m*x1-m*m*x1-L*L*x3-m*m*x3-L*L*x2+L*l*x2+l*l*x2+L*m*x2+l*m*x2-m*m*x2+x1*x1+2*x1*x3+x3*x3-2*L*y2-2*l*y2+2*x1*x2+2*x3*x2+x2*x2) h2 (dc (-L*m*m+l*m*m+L*x1+m*x1+L*x3-l*x3+L*x2-2*l*x2-m*x2+2*y2) h3 (dc (x7*l*l-x7*x1-x7*x3-x7*x2-x5*l*l+x5*x1+x5*x3+x5*x2-M*M*l*l+M*M*x1+l*l*x1+M*M*x3+M*l*x3+l*l*x3+M*m*x3+l*m*x3+m*m*x3+M*M*x2-M*l*x2+l*l*x2-M*m*x2-l*m*x2-m*m*x2-x1*x1-2*x1*x3-x3*x3+2*M*y2+2*m*y2-2*x1*x2-2*x3*x2-x2*x2) h4 (dc (M*l*l-l*l*m-M*x1+m*x1-M*x3-l*x3-M*x2+l*x2+2*m*x2-2*y2) h5 (dc (-l*l*m*m+l*l*x1+m*m*x1+l*l*x3+m*m*x3+l*l*x2+m*m*x2-x1*x1-2*x1*x3-x3*x3-2*x1*x2-2*x3*x2-x2*x2) h6 (dc (l*l*m*m-l*l*x1-m*m*x1-l*l*x3-m*m*x3-l*l*x2-m*m*x2+x1*x1+2*x1*x3+x3*x3+2*x1*x2+2*x3*x2+x2*x2) h7 (dc (-L*l-M*l-l*l-L*m-M*m-m*m+2*x1+2*x3+2*x2) h8 (dc (L*l+M*l+l*l+L*m+M*m+m*m-2*x1-2*x3-2*x2) h9 (dc (-L*m*m+l*m*m+L*x1+m*x1+L*x3-l*x3+L*x2-2*l*x2-m*x2+2*y2) h10 (dc (-M*l*l+l*l*m+M*x1-m*x1+M*x3+l*x3+M*x2-l*x2-2*m*x2+2*y2) h11 (dz p))))))))))))) (by clear h0 h1 h2 h3 h4 h5 h6 h7 h8 h9 h10 h11;grind)
theorem aG3 {p y7 x7 y5 x5 yt xt ys xs y1 y3 L M l m x1 x3 y2 x2:Int} (h0:p∣l*(x1-x2)-(y1-y2)) (h1:p∣m*(x2-x3)-(y2-y3)) (h2:p∣xs-(l*l-x1-x2)) (h3:p∣ys-(l*(x1-xs)-y1)) (h4:p∣xt-(m*m-x2-x3)) (h5:p∣yt-(m*(x2-xt)-y2)) (h6:p∣x5-(L*L-xs-x3)) (h7:p∣y5-(L*(xs-x5)-ys)) (h8:p∣x7-(M*M-x1-xt)) (h9:p∣y7-(M*(x1-x7)-y1)) (h10:p∣l*(y1+y2)-(x1*x1+x1*x2+x2*x2)) (h11:p∣m*(y2+y3)-(x2*x2+x2*x3+x3*x3)) (h12:p∣L*(xs-x3)-(ys-y3)) (h13:p∣M*(x1-xt)-(y1-yt)) (h14:p∣x5-x7):p∣((xs-x3)*(x1-xt))*(y5-y7):=
 dk (dc (-L*L*L*l+L*M*M*l-2*L*L*l*l-L*M*l*l+M*M*l*l-M*l*l*l+l*l*l*l-L*L*l*m-L*M*l*m+M*M*l*m-2*L*l*l*m-M*l*l*m-l*l*l*m+L*L*m*m-3*L*l*m*m+M*l*m*m-3*l*l*m*m-M*l*x1-2*l*l*x1+L*m*x1+l*m*x1+2*m*m*x1-L*L*x3+M*M*x3+2*L*l*x3-3*M*l*x3+3*l*l*x3-L*m*x3-2*M*m*x3+l*m*x3-m*m*x3-2*L*L*x2+2*M*M*x2+L*l*x2-2*M*l*x2+2*l*l*x2-M*m*x2-2*l*m*x2-4*m*m*x2+2*x1*x1+2*x3*x3+6*m*y2-x1*x2+5*x3*x2+x2*x2) h0 (dc (L*L*l*m-L*M*l*m-M*M*l*m-M*l*l*m-l*l*l*m-L*M*m*m-M*M*m*m-L*l*m*m-2*M*l*m*m-2*l*l*m*m-L*m*m*m-l*m*m*m+m*m*m*m+M*M*x1-2*L*l*x1-M*l*x1-2*L*m*x1-2*M*m*x1+3*l*m*x1+L*L*x3-L*l*x3-l*l*x3-L*m*x3-M*m*x3+2*L*L*x2-M*M*x2+M*l*x2-2*l*l*x2+3*x1*x3-2*L*y2-2*M*y2+2*m*y2+6*x1*x2+3*x2*x2) h1 (dc (y7*xt-y7*x1-y5*xt+y5*x1-L*L*L*m*m+L*M*M*x1-2*L*L*l*x1-L*M*l*x1+M*M*l*x1-M*l*l*x1+l*l*l*x1-L*L*m*x1-L*M*m*x1-2*L*l*m*x1-M*l*m*x1-l*l*m*x1-2*L*m*m*x1-3*l*m*m*x1+L*L*L*x3+2*L*m*m*x3+l*m*m*x3+2*L*L*L*x2-L*M*M*x2+2*L*L*l*x2+L*M*l*x2-M*M*l*x2+M*l*l*x2-l*l*l*x2+L*L*m*x2+L*M*m*x2+2*L*l*m*x2+M*l*m*x2+l*l*m*x2+3*L*m*m*x2+2*l*m*m*x2-2*L*x1*x1-l*x1*x1+3*l*x1*x3+m*x1*x3-2*L*x3*x3-l*x3*x3-2*L*L*y2-2*L*M*y2-2*M*l*y2+2*l*l*y2-4*L*m*y2+L*x1*x2+2*l*x1*x2-m*x1*x2-5*L*x3*x2-4*l*x3*x2-m*x3*x2-L*x2*x2-5*l*x2*x2-5*m*x2*x2+2*x1*y2+4*x3*y2+6*y2*x2) h2 (dc (L*L*m*m-L*l*m*m-M*M*x1+2*L*l*x1+M*l*x1-l*l*x1+L*m*x1+M*m*x1+l*m*x1+3*m*m*x1-L*L*x3+L*l*x3-m*m*x3-2*L*L*x2+M*M*x2-M*l*x2+l*l*x2-L*m*x2-M*m*x2-l*m*x2-2*m*m*x2+x1*x1-x1*x3+x3*x3+2*L*y2+2*M*y2+4*m*y2-4*x1*x2+2*x3*x2-2*x2*x2) h3 (dc (y7*l*l-y7*x1-y7*x3-y7*x2-y5*l*l+y5*x1+y5*x3+y5*x2+M*M*M*l*l-M*M*M*x1-M*l*l*x1-M*M*M*x3+L*M*l*x3+M*M*l*x3+M*l*l*x3+L*M*m*x3+M*M*m*x3+L*l*m*x3+2*M*l*m*x3+2*l*l*m*x3+L*m*m*x3+l*m*m*x3-m*m*m*x3-M*M*M*x2-L*M*l*x2-M*M*l*x2-3*M*l*l*x2-L*M*m*x2-M*M*m*x2-L*l*m*x2-2*M*l*m*x2-2*l*l*m*x2-L*m*m*x2-l*m*m*x2+m*m*m*x2+M*x1*x1-L*x1*x3+3*M*x1*x3-2*l*x1*x3+M*x3*x3+2*L*M*y2+2*M*M*y2-2*L*l*y2+6*M*l*y2-2*l*l*y2+2*L*m*y2+2*l*m*y2-2*m*m*y2+L*x1*x2+M*x1*x2+2*l*x1*x2+L*x3*x2+M*x3*x2+2*l*x3*x2+2*L*x2*x2-M*x2*x2+7*l*x2*x2+3*m*x2*x2-2*x1*y2-4*x3*y2-6*y2*x2) h4 (dc (-M*M*l*l+M*l*l*m+M*M*x1-M*m*x1+M*M*x3-L*l*x3-M*l*x3-2*l*l*x3-L*m*x3-2*M*m*x3-l*m*x3+m*m*x3+M*M*x2+L*l*x2+M*l*x2+2*l*l*x2+L*m*x2+l*m*x2-m*m*x2-x1*x3-2*L*y2-2*M*y2-6*l*y2+2*m*y2+x1*x2+x3*x2+2*x2*x2) h5 (dc (L*l*l*m*m-L*l*l*x1-L*m*m*x1-L*l*l*x3-L*m*m*x3-L*l*l*x2-L*m*m*x2+L*x1*x1+L*x1*x3-2*l*x1*x3-m*x1*x3+L*x3*x3-2*L*l*y2-2*l*l*y2-4*l*m*y2+3*L*x1*x2+2*l*x1*x2+m*x1*x2+3*L*x3*x2+2*l*x3*x2+m*x3*x2+3*L*x2*x2+7*l*x2*x2+5*m*x2*x2-2*x1*y2-4*x3*y2-6*y2*x2) h6 (dc (-l*l*m*m+l*l*x1+m*m*x1+l*l*x3+m*m*x3+l*l*x2+m*m*x2-x1*x1-2*x1*x3-x3*x3-2*x1*x2-2*x3*x2-x2*x2) h7 (dc (-M*l*l*m*m+M*l*l*x1+M*m*m*x1+M*l*l*x3+M*m*m*x3+M*l*l*x2+M*m*m*x2-M*x1*x1+L*x1*x3-2*M*x1*x3+2*l*x1*x3+m*x1*x3-M*x3*x3+2*L*l*y2+2*l*l*y2+4*l*m*y2-L*x1*x2-2*M*x1*x2-2*l*x1*x2-m*x1*x2-L*x3*x2-2*M*x3*x2-2*l*x3*x2-m*x3*x2-2*L*x2*x2-M*x2*x2-7*l*x2*x2-5*m*x2*x2+2*x1*y2+4*x3*y2+6*y2*x2) h8 (dc (l*l*m*m-l*l*x1-m*m*x1-l*l*x3-m*m*x3-l*l*x2-m*m*x2+x1*x1+2*x1*x3+x3*x3+2*x1*x2+2*x3*x2+x2*x2) h9 (dc (-L*L*L+L*M*M-2*L*L*l-L*M*l+2*M*M*l-M*l*l+l*l*l-L*L*m-L*M*m+M*M*m-2*L*l*m-2*M*l*m-l*l*m-2*L*m*m+M*m*m-4*l*m*m-2*L*x1-2*M*x1+2*L*x3-2*M*x3+6*l*x3+2*m*x3-2*M*x2-2*m*x2+6*y2) h10 (dc (-L*L*l+L*M*l+M*M*l+M*l*l+l*l*l-L*L*m+L*M*m+M*M*m+2*L*l*m+2*M*l*m+3*l*l*m+L*m*m+l*m*m-m*m*m+L*x1+M*x1-4*l*x1-4*m*x1+L*x3+M*x3+L*x2+M*x2+l*x2+m*x2-6*y2) h11 (dc (L*L*m*m-L*l*m*m-l*l*m*m-M*M*x1+2*L*l*x1+M*l*x1+L*m*x1+M*m*x1+l*m*x1+4*m*m*x1-L*L*x3+L*l*x3+l*l*x3-2*L*L*x2+M*M*x2-M*l*x2+2*l*l*x2-L*m*x2-M*m*x2-l*m*x2-m*m*x2-3*x1*x3+2*L*y2+2*M*y2+4*m*y2-6*x1*x2-3*x2*x2) h12 (dc (M*M*l*l-M*l*l*m-M*M*x1+M*m*x1-M*M*x3+L*l*x3+M*l*x3+2*l*l*x3+L*m*x3+2*M*m*x3+l*m*x3-m*m*x3-M*M*x2-L*l*x2-M*l*x2-2*l*l*x2-L*m*x2-l*m*x2+m*m*x2+x1*x3+2*L*y2+2*M*y2+6*l*y2-2*m*y2-x1*x2-x3*x2-2*x2*x2) h13 (dc (L*x1*x3+2*l*x1*x3+m*x1*x3+2*L*l*y2+2*l*l*y2+4*l*m*y2-L*x1*x2-2*l*x1*x2-m*x1*x2-L*x3*x2-2*l*x3*x2-m*x3*x2-2*L*x2*x2-7*l*x2*x2-5*m*x2*x2+2*x1*y2+4*x3*y2+6*y2*x2) h14 (dz p)))))))))))))))) (by clear h0 h1 h2 h3 h4 h5 h6 h7 h8 h9 h10 h11 h12 h13 h14;grind)
theorem aG6 {p x7 x5 yt xt ys xs y1 y3 L M l m x1 x3 y2 x2:Int} (h0:p∣l*(x1-x2)-(y1-y2)) (h1:p∣m*(x2-x3)-(y2-y3)) (h2:p∣xs-(l*l-x1-x2)) (h3:p∣ys-(l*(x1-xs)-y1)) (h4:p∣xt-(m*m-x2-x3)) (h5:p∣yt-(m*(x2-xt)-y2)) (h6:p∣x5-(L*L-xs-x3)) (h7:p∣x7-(M*M-x1-xt)) (h8:p∣l*(y1+y2)-(x1*x1+x1*x2+x2*x2)) (h9:p∣m*(y2+y3)-(x2*x2+x2*x3+x3*x3)) (h10:p∣L*(xs-x3)-(ys-y3)) (h11:p∣L*(ys+y3)-(xs*xs+xs*x3+x3*x3)) (h12:p∣M*(x1-xt)-(y1-yt)) (h13:p∣xs-x3):p∣4*(y2*y3)*(x5-x7):=
 dk (dc (L*M*l*x3+M*M*l*x3-2*L*l*l*x3-2*M*l*l*x3+2*L*M*m*x3-L*l*m*x3-2*M*l*m*x3+2*l*l*m*x3-M*m*m*x3+l*m*m*x3+m*m*m*x3-L*M*l*x2-M*M*l*x2+2*L*l*l*x2+2*M*l*l*x2-2*L*M*m*x2+L*l*m*x2+2*M*l*m*x2-2*l*l*m*x2+M*m*m*x2-l*m*m*x2-m*m*m*x2+L*x1*x3+M*x1*x3+3*L*x3*x3-5*m*x3*x3-2*M*M*y2+2*L*l*y2-2*l*l*y2+2*L*m*y2+2*M*m*y2-2*l*m*y2-4*m*m*y2-L*x1*x2-M*x1*x2-L*x3*x2-M*x3*x2+4*m*x3*x2-2*L*x2*x2-2*M*x2*x2+4*m*x2*x2+4*x1*y2-4*x3*y2) h0 (dc (-4*x7*y2+4*x5*y2+2*L*M*l*x3+M*l*l*x3+L*M*m*x3+M*M*m*x3-M*l*m*x3+l*l*m*x3+L*m*m*x3-M*m*m*x3+l*m*m*x3-2*m*m*m*x3-2*L*M*l*x2-M*l*l*x2-L*M*m*x2-M*M*m*x2+M*l*m*x2-l*l*m*x2-L*m*m*x2+M*m*m*x2-l*m*m*x2+2*m*m*m*x2-L*x1*x3-M*x1*x3-2*L*x3*x3+M*x3*x3+3*m*x3*x3-4*L*L*y2+2*M*M*y2+2*L*l*y2+2*l*l*y2-4*l*m*y2-2*m*m*y2+L*x1*x2+M*x1*x2-L*x3*x2-M*x3*x2+3*L*x2*x2+3*M*x2*x2-6*m*x2*x2-4*x1*y2+2*x3*y2+2*y2*x2) h1 (dc (-xs*M*l*x3-xs*M*m*x3-xs*l*m*x3-xs*m*m*x3+xs*M*l*x2+xs*M*m*x2+xs*l*m*x2+xs*m*m*x2+2*xs*L*y2-2*xs*l*y2+L*M*x1*x3+M*M*x1*x3-2*L*l*x1*x3-M*l*x1*x3-L*m*x1*x3-2*M*m*x1*x3+3*l*m*x1*x3+m*m*x1*x3-L*M*x1*x2-M*M*x1*x2+2*L*l*x1*x2+M*l*x1*x2+L*m*x1*x2+2*M*m*x1*x2-3*l*m*x1*x2-m*m*x1*x2-L*M*x3*x2-M*M*x3*x2+2*L*l*x3*x2+2*M*l*x3*x2+L*m*x3*x2+3*M*m*x3*x2-2*l*m*x3*x2+L*M*x2*x2+M*M*x2*x2-2*L*l*x2*x2-2*M*l*x2*x2-L*m*x2*x2-3*M*m*x2*x2+2*l*m*x2*x2-4*m*x1*y2-4*L*x3*y2-4*M*x3*y2+4*m*x3*y2+2*L*y2*x2+4*M*y2*x2+2*l*y2*x2-4*y2*y2) h2 (dc (-M*l*l*x3+2*L*M*m*x3-l*l*m*x3-M*m*m*x3+m*m*m*x3+M*l*l*x2-2*L*M*m*x2+l*l*m*x2+M*m*m*x2-m*m*m*x2+L*x1*x3+M*x1*x3+2*L*x3*x3-M*x3*x3-3*m*x3*x3-2*M*M*y2+2*L*l*y2-2*l*l*y2+2*L*m*y2+2*M*m*y2+2*l*m*y2-4*m*m*y2-L*x1*x2-M*x1*x2+L*x3*x2+M*x3*x2-3*L*x2*x2-3*M*x2*x2+6*m*x2*x2+4*x1*y2-2*x3*y2-2*y2*x2) h3 (dc (-L*M*x3*x3-M*M*x3*x3-L*m*x3*x3+M*m*x3*x3+2*m*m*x3*x3+2*L*M*x3*x2+2*M*M*x3*x2+2*L*m*x3*x2-2*M*m*x3*x2-4*m*m*x3*x2-L*M*x2*x2-M*M*x2*x2-L*m*x2*x2+M*m*x2*x2+2*m*m*x2*x2+2*M*x3*y2+6*m*x3*y2-2*M*y2*x2-6*m*y2*x2+4*y2*y2) h4 (dc (L*x3*x3+M*x3*x3-2*m*x3*x3-2*L*x3*x2-2*M*x3*x2+4*m*x3*x2+L*x2*x2+M*x2*x2-2*m*x2*x2-2*x3*y2+2*y2*x2) h5 (dc (4*m*x3*y2-4*m*y2*x2+4*y2*y2) h6 (dc (-4*m*x3*y2+4*m*y2*x2-4*y2*y2) h7 (dc (L*M*x3+M*M*x3-2*L*l*x3-M*l*x3-L*m*x3-2*M*m*x3+3*l*m*x3+m*m*x3-L*M*x2-M*M*x2+2*L*l*x2+M*l*x2+L*m*x2+2*M*m*x2-3*l*m*x2-m*m*x2-4*m*y2) h8 (dc (-L*M*x3-M*M*x3+2*L*l*x3+M*l*x3+L*m*x3+2*M*m*x3-l*m*x3+m*m*x3+L*M*x2+M*M*x2-2*L*l*x2-M*l*x2-L*m*x2-2*M*m*x2+l*m*x2-m*m*x2-2*L*y2-2*M*y2+2*l*y2+6*m*y2) h9 (dc (-L*M*l*x3-M*l*l*x3+L*M*m*x3-L*l*m*x3-l*l*m*x3-L*m*m*x3-M*m*m*x3+m*m*m*x3+L*M*l*x2+M*l*l*x2-L*M*m*x2+L*l*m*x2+l*l*m*x2+L*m*m*x2+M*m*m*x2-m*m*m*x2+L*x1*x3+M*x1*x3+2*L*x3*x3-M*x3*x3-3*m*x3*x3+2*L*L*y2-2*M*M*y2-2*l*l*y2+2*L*m*y2+2*M*m*y2+2*l*m*y2-4*m*m*y2-L*x1*x2-M*x1*x2+L*x3*x2+M*x3*x2-3*L*x2*x2-3*M*x2*x2+6*m*x2*x2+4*x1*y2-2*x3*y2-2*y2*x2) h10 (dc (-M*l*x3-M*m*x3-l*m*x3-m*m*x3+M*l*x2+M*m*x2+l*m*x2+m*m*x2+2*L*y2-2*l*y2) h11 (dc (-L*x3*x3-M*x3*x3+2*m*x3*x3+2*L*x3*x2+2*M*x3*x2-4*m*x3*x2-L*x2*x2-M*x2*x2+2*m*x2*x2+2*x3*y2-2*y2*x2) h12 (dc (L*L*M*l*x3+L*M*l*l*x3-L*L*M*m*x3+L*L*l*m*x3-2*L*M*l*m*x3+L*l*l*m*x3-M*l*l*m*x3+L*L*m*m*x3+L*M*m*m*x3+M*l*m*m*x3-l*l*m*m*x3-L*m*m*m*x3-l*m*m*m*x3-L*L*M*l*x2-L*M*l*l*x2+L*L*M*m*x2-L*L*l*m*x2+2*L*M*l*m*x2-L*l*l*m*x2+M*l*l*m*x2-L*L*m*m*x2-L*M*m*m*x2-M*l*m*m*x2+l*l*m*m*x2+L*m*m*m*x2+l*m*m*m*x2-L*L*x1*x3-2*L*M*x1*x3-M*M*x1*x3+L*l*x1*x3+M*l*x1*x3+L*m*x1*x3+3*M*m*x1*x3-2*l*m*x1*x3-2*L*L*x3*x3+L*M*x3*x3-2*L*l*x3*x3+3*L*m*x3*x3-M*m*x3*x3+2*l*m*x3*x3-m*m*x3*x3-2*L*L*L*y2+2*L*M*M*y2+2*M*M*l*y2+2*L*l*l*y2-2*L*L*m*y2-2*L*M*m*y2-4*L*l*m*y2-2*M*l*m*y2-2*l*l*m*y2+4*L*m*m*y2+4*l*m*m*y2+L*L*x1*x2+2*L*M*x1*x2+M*M*x1*x2-L*l*x1*x2-M*l*x1*x2-L*m*x1*x2-3*M*m*x1*x2+2*l*m*x1*x2-L*L*x3*x2+M*M*x3*x2-3*L*l*x3*x2-M*l*x3*x2-L*m*x3*x2-M*m*x3*x2+4*l*m*x3*x2+2*m*m*x3*x2+3*L*L*x2*x2+2*L*M*x2*x2-M*M*x2*x2+5*L*l*x2*x2+4*M*l*x2*x2-5*L*m*x2*x2+2*M*m*x2*x2-9*l*m*x2*x2-m*m*x2*x2-6*L*x1*y2-2*l*x1*y2+4*m*x1*y2+8*L*x3*y2+4*M*x3*y2-8*m*x3*y2-2*L*y2*x2-4*M*y2*x2+2*l*y2*x2+4*m*y2*x2) h13 (dz p))))))))))))))) (by clear h0 h1 h2 h3 h4 h5 h6 h7 h8 h9 h10 h11 h12 h13;grind)
theorem aG5 {p y7 x7 y5 x5 yt xt ys xs y1 y3 L M l m x1 x3 y2 x2:Int} (h0:p∣l*(x1-x2)-(y1-y2)) (h1:p∣m*(x2-x3)-(y2-y3)) (h2:p∣xs-(l*l-x1-x2)) (h3:p∣ys-(l*(x1-xs)-y1)) (h4:p∣xt-(m*m-x2-x3)) (h5:p∣yt-(m*(x2-xt)-y2)) (h6:p∣y5-(L*(xs-x5)-ys)) (h7:p∣x7-(M*M-x1-xt)) (h8:p∣y7-(M*(x1-x7)-y1)) (h9:p∣l*(y1+y2)-(x1*x1+x1*x2+x2*x2)) (h10:p∣m*(y2+y3)-(x2*x2+x2*x3+x3*x3)) (h11:p∣L*(xs-x3)-(ys-y3)) (h12:p∣L*(ys+y3)-(xs*xs+xs*x3+x3*x3)) (h13:p∣M*(x1-xt)-(y1-yt)) (h14:p∣xs-x3) (h15:p∣x5-x7):p∣4*(y2*y3)*(y5-y7):=
 dk (dc (-M*M*M*l*x3+M*M*l*l*x3+2*L*M*l*m*x3+2*M*M*l*m*x3-4*L*l*l*m*x3-4*M*l*l*m*x3+4*L*M*m*m*x3-2*L*l*m*m*x3-2*M*l*m*m*x3+2*l*l*m*m*x3-2*M*m*m*m*x3+2*l*m*m*m*x3+2*m*m*m*m*x3+M*M*M*l*x2-M*M*l*l*x2-2*L*M*l*m*x2-2*M*M*l*m*x2+4*L*l*l*m*x2+4*M*l*l*m*x2-4*L*M*m*m*x2+2*L*l*m*m*x2+2*M*l*m*m*x2-2*l*l*m*m*x2+2*M*m*m*m*x2-2*l*m*m*m*x2-2*m*m*m*m*x2+2*L*m*x1*x3+2*M*m*x1*x3-M*M*x3*x3-2*M*l*x3*x3+2*l*l*x3*x3+6*L*m*x3*x3-8*m*m*x3*x3+2*M*M*M*y2+2*L*M*l*y2+4*L*l*l*y2+4*L*M*m*y2-2*M*M*m*y2+6*L*l*m*y2-2*M*l*m*y2-4*l*l*m*y2+8*L*m*m*y2-2*M*m*m*y2-6*l*m*m*y2-8*m*m*m*y2-2*L*m*x1*x2-2*M*m*x1*x2+2*M*M*x3*x2+M*l*x3*x2-l*l*x3*x2-2*L*m*x3*x2-2*M*m*x3*x2+4*m*m*x3*x2+2*M*M*x2*x2+4*M*l*x2*x2-l*l*x2*x2-4*L*m*x2*x2-4*M*m*x2*x2+3*l*m*x2*x2+4*m*m*x2*x2-2*x3*x3*x3-6*L*x1*y2-2*M*x1*y2+6*m*x1*y2-2*L*x3*y2+4*M*x3*y2+2*l*x3*y2-2*m*x3*y2+3*x3*x3*x2-4*L*y2*x2+4*M*y2*x2-2*l*y2*x2+8*m*y2*x2-3*x1*x2*x2+9*x3*x2*x2+2*x2*x2*x2-4*y2*y2) h0 (dc (-4*y7*y2+4*y5*y2-M*M*M*m*x3+4*L*M*l*m*x3+2*M*l*l*m*x3+2*L*M*m*m*x3+M*M*m*m*x3-2*M*l*m*m*x3+2*l*l*m*m*x3+2*L*m*m*m*x3+2*l*m*m*m*x3-2*m*m*m*m*x3+M*M*M*m*x2-4*L*M*l*m*x2-2*M*l*l*m*x2-2*L*M*m*m*x2-M*M*m*m*x2+2*M*l*m*m*x2-2*l*l*m*m*x2-2*L*m*m*m*x2-2*l*m*m*m*x2+2*m*m*m*m*x2-2*L*m*x1*x3-2*M*m*x1*x3-4*L*m*x3*x3+4*m*m*x3*x3+4*L*M*M*y2-2*M*M*M*y2+4*L*M*l*y2+2*M*M*l*y2+2*M*l*l*y2+2*L*M*m*y2+8*L*l*m*y2-2*M*l*m*y2+2*l*l*m*y2-2*L*m*m*y2+4*M*m*m*y2-8*l*m*m*y2+2*m*m*m*y2+2*L*m*x1*x2+2*M*m*x1*x2-2*L*m*x3*x2-M*m*x3*x2+m*m*x3*x2-3*M*M*x2*x2+6*L*m*x2*x2+10*M*m*x2*x2-2*m*m*x2*x2-2*L*x1*y2+2*M*x1*y2-4*l*x1*y2-4*m*x1*y2+8*L*x3*y2-2*M*x3*y2+2*l*x3*y2-12*m*x3*y2+6*L*y2*x2-6*M*y2*x2+2*l*y2*x2-2*m*y2*x2+3*x1*x2*x2-6*x3*x2*x2-6*x2*x2*x2) h1 (dc (-2*xs*M*l*m*x3-2*xs*M*m*m*x3-2*xs*l*m*m*x3-2*xs*m*m*m*x3+2*xs*M*l*m*x2+2*xs*M*m*m*x2+2*xs*l*m*m*x2+2*xs*m*m*m*x2-2*xs*M*M*y2-2*xs*M*l*y2-2*xs*M*m*y2-2*xs*l*m*y2+4*xs*x1*y2-2*xs*x3*y2-2*xs*y2*x2-M*M*M*x1*x3+M*M*l*x1*x3+2*L*M*m*x1*x3+2*M*M*m*x1*x3-4*L*l*m*x1*x3-2*M*l*m*x1*x3-2*L*m*m*x1*x3-2*M*m*m*x1*x3+4*l*m*m*x1*x3+2*m*m*m*x1*x3+M*M*M*x1*x2-M*M*l*x1*x2-2*L*M*m*x1*x2-2*M*M*m*x1*x2+4*L*l*m*x1*x2+2*M*l*m*x1*x2+2*L*m*m*x1*x2+2*M*m*m*x1*x2-4*l*m*m*x1*x2-2*m*m*m*x1*x2+M*M*M*x3*x2-M*M*l*x3*x2-2*L*M*m*x3*x2-2*M*M*m*x3*x2+4*L*l*m*x3*x2+4*M*l*m*x3*x2+2*L*m*m*x3*x2+4*M*m*m*x3*x2-2*l*m*m*x3*x2-M*M*M*x2*x2+M*M*l*x2*x2+2*L*M*m*x2*x2+2*M*M*m*x2*x2-4*L*l*m*x2*x2-4*M*l*m*x2*x2-2*L*m*m*x2*x2-4*M*m*m*x2*x2+2*l*m*m*x2*x2-2*M*x1*x3*x3+2*l*x1*x3*x3+2*L*M*x1*y2+2*M*M*x1*y2+4*L*l*x1*y2+2*M*l*x1*y2+6*L*m*x1*y2-2*M*m*x1*y2-2*l*m*x1*y2-8*m*m*x1*y2+2*M*M*x3*y2-8*L*m*x3*y2-8*M*m*x3*y2+4*m*m*x3*y2+M*x1*x3*x2-l*x1*x3*x2+2*M*x3*x3*x2-2*l*x3*x3*x2-2*L*M*y2*x2-2*M*M*y2*x2-4*L*l*y2*x2+2*L*m*y2*x2+12*M*m*y2*x2+4*l*m*y2*x2+4*m*m*y2*x2+4*M*x1*x2*x2-l*x1*x2*x2+3*m*x1*x2*x2-M*x3*x2*x2+l*x3*x2*x2-4*M*x2*x2*x2+l*x2*x2*x2-3*m*x2*x2*x2-4*x1*x1*y2+4*x1*x3*y2+4*x3*x3*y2+8*L*y2*y2-8*m*y2*y2-4*x3*y2*x2) h2 (dc (-2*M*l*l*m*x3+4*L*M*m*m*x3-2*l*l*m*m*x3-2*M*m*m*m*x3+2*m*m*m*m*x3+2*M*l*l*m*x2-4*L*M*m*m*x2+2*l*l*m*m*x2+2*M*m*m*m*x2-2*m*m*m*m*x2+2*L*m*x1*x3+2*M*m*x1*x3+4*L*m*x3*x3-2*M*m*x3*x3-6*m*m*x3*x3+2*M*M*M*y2-2*M*M*l*y2-2*M*l*l*y2+4*L*M*m*y2-2*M*M*m*y2-2*l*l*m*y2+8*L*m*m*y2-2*M*m*m*y2+2*l*m*m*y2-8*m*m*m*y2-2*L*m*x1*x2-2*M*m*x1*x2+2*L*m*x3*x2+2*M*m*x3*x2+3*M*M*x2*x2-6*L*m*x2*x2-6*M*m*x2*x2+6*m*m*x2*x2-6*L*x1*y2-2*M*x1*y2+4*l*x1*y2+6*m*x1*y2-4*L*x3*y2+2*M*x3*y2-2*l*x3*y2+4*m*x3*y2-2*L*y2*x2+6*M*y2*x2-2*l*y2*x2+2*m*y2*x2-3*x1*x2*x2+6*x3*x2*x2+6*x2*x2*x2-4*y2*y2) h3 (dc (M*M*M*x3*x3-2*L*M*m*x3*x3-M*M*m*x3*x3-2*L*m*m*x3*x3+2*m*m*m*x3*x3-2*M*M*M*x3*x2+4*L*M*m*x3*x2+2*M*M*m*x3*x2+4*L*m*m*x3*x2-4*m*m*m*x3*x2+M*M*M*x2*x2-2*L*M*m*x2*x2-M*M*m*x2*x2-2*L*m*m*x2*x2+2*m*m*m*x2*x2+2*M*x3*x3*x3+2*m*x3*x3*x3-2*L*M*x3*y2-2*M*M*x3*y2+2*L*m*x3*y2-4*M*m*x3*y2+2*m*m*x3*y2-3*M*x3*x3*x2-3*m*x3*x3*x2+2*L*M*y2*x2+2*M*M*y2*x2-2*L*m*y2*x2+4*M*m*y2*x2-2*m*m*y2*x2-3*M*x3*x2*x2-3*m*x3*x2*x2+4*M*x2*x2*x2+4*m*x2*x2*x2+4*L*y2*y2-8*M*y2*y2-4*m*y2*y2) h4 (dc (-M*M*x3*x3+2*L*m*x3*x3+2*M*m*x3*x3-2*m*m*x3*x3+2*M*M*x3*x2-4*L*m*x3*x2-4*M*m*x3*x2+4*m*m*x3*x2-M*M*x2*x2+2*L*m*x2*x2+2*M*m*x2*x2-2*m*m*x2*x2-2*x3*x3*x3+2*L*x3*y2+2*M*x3*y2-2*m*x3*y2+3*x3*x3*x2-2*L*y2*x2-2*M*y2*x2+2*m*y2*x2+3*x3*x2*x2-4*x2*x2*x2+4*y2*y2) h5 (dc (4*m*x3*y2-4*m*y2*x2+4*y2*y2) h6 (dc (-4*L*m*x3*y2+4*M*m*x3*y2+4*L*m*y2*x2-4*M*m*y2*x2-4*L*y2*y2+4*M*y2*y2) h7 (dc (-4*m*x3*y2+4*m*y2*x2-4*y2*y2) h8 (dc (-M*M*M*x3+M*M*l*x3+2*L*M*m*x3+2*M*M*m*x3-4*L*l*m*x3-2*M*l*m*x3-2*L*m*m*x3-2*M*m*m*x3+4*l*m*m*x3+2*m*m*m*x3+M*M*M*x2-M*M*l*x2-2*L*M*m*x2-2*M*M*m*x2+4*L*l*m*x2+2*M*l*m*x2+2*L*m*m*x2+2*M*m*m*x2-4*l*m*m*x2-2*m*m*m*x2-2*M*x3*x3+2*l*x3*x3+2*L*M*y2+2*M*M*y2+4*L*l*y2+2*M*l*y2+6*L*m*y2-2*M*m*y2-2*l*m*y2-8*m*m*y2+M*x3*x2-l*x3*x2+4*M*x2*x2-l*x2*x2+3*m*x2*x2-4*x1*y2+4*x3*y2) h9 (dc (M*M*M*x3-2*L*M*m*x3-M*M*m*x3+4*L*l*m*x3+2*M*l*m*x3+2*L*m*m*x3+2*M*m*m*x3-2*l*m*m*x3-M*M*M*x2+2*L*M*m*x2+M*M*m*x2-4*L*l*m*x2-2*M*l*m*x2-2*L*m*m*x2-2*M*m*m*x2+2*l*m*m*x2+2*M*x3*x3+2*m*x3*x3-2*L*M*y2+2*M*M*y2-4*L*l*y2+2*M*l*y2-6*L*m*y2-2*M*m*y2+6*l*m*y2+6*m*m*y2-M*x3*x2-m*x3*x2-4*M*x2*x2-4*m*x2*x2-2*x1*y2+4*x3*y2+4*y2*x2) h10 (dc (-2*L*M*l*m*x3-2*M*l*l*m*x3+2*L*M*m*m*x3-2*L*l*m*m*x3-2*l*l*m*m*x3-2*L*m*m*m*x3-2*M*m*m*m*x3+2*m*m*m*m*x3+2*L*M*l*m*x2+2*M*l*l*m*x2-2*L*M*m*m*x2+2*L*l*m*m*x2+2*l*l*m*m*x2+2*L*m*m*m*x2+2*M*m*m*m*x2-2*m*m*m*m*x2+2*L*m*x1*x3+2*M*m*x1*x3+4*L*m*x3*x3-2*M*m*x3*x3-6*m*m*x3*x3-2*L*M*M*y2+2*M*M*M*y2-2*L*M*l*y2-2*M*M*l*y2-2*M*l*l*y2+2*L*M*m*y2-2*M*M*m*y2-2*L*l*m*y2-2*l*l*m*y2+8*L*m*m*y2-2*M*m*m*y2+2*l*m*m*y2-8*m*m*m*y2-2*L*m*x1*x2-2*M*m*x1*x2+2*L*m*x3*x2+2*M*m*x3*x2+3*M*M*x2*x2-6*L*m*x2*x2-6*M*m*x2*x2+6*m*m*x2*x2-2*L*x1*y2-2*M*x1*y2+4*l*x1*y2+6*m*x1*y2-6*L*x3*y2+2*M*x3*y2-2*l*x3*y2+8*m*x3*y2-4*L*y2*x2+6*M*y2*x2-2*l*y2*x2-2*m*y2*x2-3*x1*x2*x2+6*x3*x2*x2+6*x2*x2*x2) h11 (dc (-2*M*l*m*x3-2*M*m*m*x3-2*l*m*m*x3-2*m*m*m*x3+2*M*l*m*x2+2*M*m*m*x2+2*l*m*m*x2+2*m*m*m*x2-2*M*M*y2-2*M*l*y2-2*M*m*y2-2*l*m*y2+4*x1*y2-2*x3*y2-2*y2*x2) h12 (dc (M*M*x3*x3-2*L*m*x3*x3-2*M*m*x3*x3+2*m*m*x3*x3-2*M*M*x3*x2+4*L*m*x3*x2+4*M*m*x3*x2-4*m*m*x3*x2+M*M*x2*x2-2*L*m*x2*x2-2*M*m*x2*x2+2*m*m*x2*x2+2*x3*x3*x3-2*L*x3*y2-2*M*x3*y2+2*m*x3*y2-3*x3*x3*x2+2*L*y2*x2+2*M*y2*x2-2*m*y2*x2-3*x3*x2*x2+4*x2*x2*x2-4*y2*y2) h13 (dc (2*L*L*M*l*m*x3+2*L*M*l*l*m*x3-2*L*L*M*m*m*x3+2*L*L*l*m*m*x3-4*L*M*l*m*m*x3+2*L*l*l*m*m*x3-2*M*l*l*m*m*x3+2*L*L*m*m*m*x3+2*L*M*m*m*m*x3+2*M*l*m*m*m*x3-2*l*l*m*m*m*x3-2*L*m*m*m*m*x3-2*l*m*m*m*m*x3-2*L*L*M*l*m*x2-2*L*M*l*l*m*x2+2*L*L*M*m*m*x2-2*L*L*l*m*m*x2+4*L*M*l*m*m*x2-2*L*l*l*m*m*x2+2*M*l*l*m*m*x2-2*L*L*m*m*m*x2-2*L*M*m*m*m*x2-2*M*l*m*m*m*x2+2*l*l*m*m*m*x2+2*L*m*m*m*m*x2+2*l*m*m*m*m*x2+M*M*M*x1*x3-M*M*l*x1*x3-2*L*L*m*x1*x3-4*L*M*m*x1*x3-2*M*M*m*x1*x3+2*L*l*m*x1*x3+2*M*l*m*x1*x3+2*L*m*m*x1*x3+4*M*m*m*x1*x3-2*l*m*m*x1*x3-4*L*L*m*x3*x3+2*L*M*m*x3*x3-4*L*l*m*x3*x3+6*L*m*m*x3*x3-2*M*m*m*x3*x3+4*l*m*m*x3*x3-2*m*m*m*x3*x3+2*L*L*M*M*y2-2*L*M*M*M*y2+2*L*L*M*l*y2+2*L*M*M*l*y2-2*M*M*M*l*y2+2*L*M*l*l*y2-2*L*L*M*m*y2+2*L*M*M*m*y2+2*L*L*l*m*y2-4*L*M*l*m*y2+2*M*M*l*m*y2+2*L*l*l*m*y2-2*M*l*l*m*y2-8*L*L*m*m*y2+2*L*M*m*m*y2-10*L*l*m*m*y2+2*M*l*m*m*y2-2*l*l*m*m*y2+8*L*m*m*m*y2+8*l*m*m*m*y2-M*M*M*x1*x2+M*M*l*x1*x2+2*L*L*m*x1*x2+4*L*M*m*x1*x2+2*M*M*m*x1*x2-2*L*l*m*x1*x2-2*M*l*m*x1*x2-2*L*m*m*x1*x2-4*M*m*m*x1*x2+2*l*m*m*x1*x2-M*M*M*x3*x2+M*M*l*x3*x2-2*L*L*m*x3*x2+2*M*M*m*x3*x2-6*L*l*m*x3*x2-2*M*l*m*x3*x2-2*L*m*m*x3*x2+6*l*m*m*x3*x2+4*m*m*m*x3*x2-3*L*M*M*x2*x2+M*M*M*x2*x2-4*M*M*l*x2*x2+6*L*L*m*x2*x2+4*L*M*m*x2*x2-2*M*M*m*x2*x2+10*L*l*m*x2*x2+8*M*l*m*x2*x2-4*L*m*m*x2*x2+2*M*m*m*x2*x2-10*l*m*m*x2*x2-2*m*m*m*x2*x2+2*M*x1*x3*x3-2*l*x1*x3*x3+2*L*L*x1*y2-2*L*l*x1*y2+2*M*l*x1*y2-12*L*m*x1*y2+4*M*m*x1*y2-2*l*m*x1*y2+8*m*m*x1*y2+6*L*L*x3*y2-2*L*M*x3*y2-4*M*M*x3*y2+6*L*l*x3*y2-4*M*l*x3*y2+4*L*m*x3*y2+6*M*m*x3*y2-6*l*m*x3*y2-4*m*m*x3*y2-M*x1*x3*x2+l*x1*x3*x2-2*M*x3*x3*x2+2*l*x3*x3*x2+4*L*L*y2*x2-4*L*M*y2*x2+4*M*M*y2*x2+8*L*l*y2*x2-4*M*l*y2*x2-4*L*m*y2*x2-10*M*m*y2*x2-4*l*m*y2*x2-4*m*m*y2*x2+3*L*x1*x2*x2-4*M*x1*x2*x2+4*l*x1*x2*x2-3*m*x1*x2*x2-6*L*x3*x2*x2+M*x3*x2*x2-7*l*x3*x2*x2-6*L*x2*x2*x2+4*M*x2*x2*x2-7*l*x2*x2*x2+3*m*x2*x2*x2+2*x1*x3*y2-6*x3*x3*y2-4*L*y2*y2+4*l*y2*y2+8*m*y2*y2-2*x1*y2*x2+4*x3*y2*x2+2*y2*x2*x2) h14 (dc (-4*L*m*x3*y2+4*L*m*y2*x2-4*L*y2*y2) h15 (dz p))))))))))))))))) (by clear h0 h1 h2 h3 h4 h5 h6 h7 h8 h9 h10 h11 h12 h13 h14 h15;grind)
end
section
theorem Pr.eE {p:Nat} (h:Pr p) {a b:Int} (hd:(p:Int)∣a*b):(p:Int)∣a\/(p:Int)∣b:=by
 rw [Int.ofNat_dvd_left,Int.natAbs_mul] at hd
 rcases h.ahJ hd with h1|h1
 ·exact .inl (Int.ofNat_dvd_left.2 h1)
 ·exact .inr (Int.ofNat_dvd_left.2 h1)
def nm (p:Nat) (z:Int):Nat:=(z%(p:Int)).toNat
theorem aqt {p:Nat} (hp:0<p) (z:Int):((nm p z:Nat):Int)=z%(p:Int):=by
 unfold nm
 have:=Int.emod_nonneg z (show (p:Int)≠0 by omega)
 omega
theorem rz {p:Nat} (hp:0<p) (z:Int):(p:Int)∣((nm p z:Nat):Int)-z:=by
 rw [aqt hp]
 have:=Int.emod_add_mul_ediv z p
 exact ⟨-(z/p),by grind⟩
theorem I5 {p:Nat} (hp:0<p) (z:Int):nm p z<p:=by
 have h:=aqt hp z
 have:=Int.emod_lt_of_pos z (show (0:Int)<p by omega)
 omega
theorem gk {p a b:Nat} (ha:a<p) (hb:b<p) (h:(p:Int)∣(a:Int)-(b:Int)):a=b:=by
 obtain ⟨k,hk⟩:=h
 have hpk:(p:Int)*k<p*1/\(p:Int)*(-1)<p*k:=by constructor<;>omega
 have h1:=Int.lt_of_mul_lt_mul_left hpk.1 (by omega)
 have h2:=Int.lt_of_mul_lt_mul_left hpk.2 (by omega)
 have:k=0:=by omega
 subst this
 omega
theorem aqs {p a:Nat} {z:Int} (ha:a<p) (h:(p:Int)∣(a:Int)-z):nm p z=a:=by
 have hp:0<p:=by omega
 refine gk (I5 hp z) ha ?_
 obtain ⟨k,hk⟩:=h
 obtain ⟨k2,h2⟩:=rz hp z
 exact ⟨k2-k,by grind⟩
def aFy (p:Nat) (a:Int):Int:=((nm p a^(p-2):Nat):Int)
theorem arn {p:Nat} (h:Pr p) {a:Int} (ha:¬(p:Int)∣a):(p:Int)∣a*aFy p a-1:=by
 have hp:=h.pos
 have h2:=h.1
 obtain ⟨k,hk⟩:=rz hp a
 have hn:¬p∣nm p a:=λhd=>by
  obtain ⟨c,hc⟩:=Int.natCast_dvd_natCast.2 hd
  exact ha ⟨c-k,by grind⟩
 have hf:=FL h hn
 have e:nm p a^(p-1)=nm p a*nm p a^(p-2):=by
  rw [show p-1=(p-2)+1 by omega,Nat.pow_succ,Nat.mul_comm]
 rw [e] at hf
 have hd:=Nat.div_add_mod (nm p a*nm p a^(p-2)) p
 rw [hf] at hd
 unfold aFy
 generalize nm p a^(p-2)=i at*
 have hd2:((p:Nat):Int)*((nm p a*i/p:Nat):Int)+1=(nm p a:Int)*(i:Int):=by
  have:=congrArg (λn:Nat=>(n:Int)) hd
  simp only [Int.natCast_add,Int.natCast_mul] at this
  exact this
 exact ⟨((nm p a*i/p:Nat):Int)-k*i,by grind⟩
structure Cur (p b:Nat):Prop where
 pr:Pr p
 big:5<=p
 n2:∀ x:Int,¬(p:Int)∣x*x*x+b
theorem Cur.pos {p b:Nat} (c:Cur p b):0<p:=c.pr.pos
theorem Cur.no2 {p b:Nat} (c:Cur p b):¬(p:Int)∣2:=λh=>by
 have:=Int.le_of_dvd (by decide) h
 have:=c.big
 omega
theorem Cur.no4 {p b:Nat} (c:Cur p b):¬(p:Int)∣4:=λh=>by
 have:=Int.le_of_dvd (by decide) h
 have:=c.big
 omega
abbrev Cv (p b:Nat) (x y:Int):Prop:=(p:Int)∣y*y-x*x*x-b
theorem Cur.yne {p b:Nat} (c:Cur p b) {x y:Int} (h:Cv p b x y):¬(p:Int)∣y:=λhy=>by
 obtain ⟨k,hk⟩:=h
 obtain ⟨m,hm⟩:=hy
 exact c.n2 x ⟨m*y-k,by grind⟩
abbrev PtQ:Type:=Option (Nat×Nat)
def OnQ (p b:Nat):PtQ->Prop
 |none=>True
 |some P=>P.1<p/\P.2<p/\Cv p b P.1 P.2
structure Lin (p:Nat) (x1 y1 x2 y2 l:Int):Prop where
 a:(p:Int)∣l*(x1-x2)-(y1-y2)
 b:(p:Int)∣l*(y1+y2)-(x1*x1+x1*x2+x2*x2)
structure Thd (p:Nat) (x1 y1 x2 l x3 y3:Int):Prop where
 x:(p:Int)∣x3-(l*l-x1-x2)
 y:(p:Int)∣y3-(l*(x1-x3)-y1)
def rq (p:Nat) (P R:Nat×Nat):Int:=if P.1=R.1 then 3*P.1*P.1*aFy p (P.2+P.2) else ((R.2:Int)-P.2)*aFy p ((R.1:Int)-P.1)
def wU (p:Nat) (P R:Nat×Nat) (l:Int):Nat×Nat:=(nm p (l*l-P.1-R.1),nm p (l*(P.1-nm p (l*l-P.1-R.1))-P.2))
def dM (p:Nat):PtQ->PtQ->PtQ
 |none,R=>R
 |some P,none=>some P
 |some P,some R=>if P.1=R.1/\P.2≠R.2 then none else some (wU p P R (rq p P R))
def agA (p:Nat):PtQ->PtQ
 |none=>none
 |some P=>some (P.1,nm p (-P.2))
variable {p b:Nat}
theorem Uv (c:Cur p b) {P R:Nat×Nat} (hP:OnQ p b (some P)) (hR:OnQ p b (some R)) (h:¬(P.1=R.1/\P.2≠R.2)):Lin p P.1 P.2 R.1 R.2 (rq p P R):=by
 obtain ⟨x1,y1⟩:=P
 obtain ⟨x2,y2⟩:=R
 obtain ⟨hx1,hy1,hc1⟩:=hP
 obtain ⟨hx2,hy2,hc2⟩:=hR
 dsimp only at*
 unfold rq
 dsimp only
 by_cases e:x1=x2
 ·have e2:y1=y2:=lD λh2=>h ⟨e,h2⟩
  subst e e2
  rw [if_pos rfl]
  have hn:¬(p:Int)∣(y1:Int)+y1:=λhd=>by
   rw [<-Int.two_mul] at hd
   rcases c.pr.eE hd with h1|h1
   ·exact c.no2 h1
   ·exact c.yne hc1 h1
  obtain ⟨k,hk⟩:=arn c.pr hn
  generalize aFy p ((y1:Int)+y1)=i at*
  exact ⟨⟨0,by grind⟩,⟨3*x1*x1*k,by grind⟩⟩
 ·rw [if_neg e]
  have hn:¬(p:Int)∣(x2:Int)-x1:=λhd=>e (gk hx2 hx1 hd).symm
  have hn':¬(p:Int)∣(x1:Int)-x2:=λ⟨k,hk⟩=>hn ⟨-k,by grind⟩
  obtain ⟨k,hk⟩:=arn c.pr hn
  generalize aFy p ((x2:Int)-x1)=i at*
  have ha:(p:Int)∣((y2:Int)-y1)*i*((x1:Int)-x2)-(y1-y2):=⟨(y1-y2)*k,by grind⟩
  refine ⟨ha,?_⟩
  have hc1':(p:Int)∣(y1:Int)*y1-x1*x1*x1-b:=hc1
  have hc2':(p:Int)∣(y2:Int)*y2-x2*x2*x2-b:=hc2
  rcases c.pr.eE (atw hc1' hc2' ha) with h1|h1
  ·exact absurd h1 hn'
  ·exact h1
theorem axY (c:Cur p b) {x1 y1 x2 y2 l m:Int} (hy:¬(p:Int)∣y1) (h1:Lin p x1 y1 x2 y2 l) (h2:Lin p x1 y1 x2 y2 m):(p:Int)∣l-m:=by
 obtain ⟨k1,e1⟩:=h1.a
 obtain ⟨k2,e2⟩:=h2.a
 obtain ⟨k3,e3⟩:=h1.b
 obtain ⟨k4,e4⟩:=h2.b
 rcases c.pr.eE (a:=l-m) (b:=x1-x2) ⟨k1-k2,by grind⟩ with h|h
 ·exact h
 ·rcases c.pr.eE (a:=l-m) (b:=y1+y2) ⟨k3-k4,by grind⟩ with h'|h'
  ·exact h'
  ·obtain ⟨m1,f1⟩:=h
   obtain ⟨m2,f2⟩:=h'
   rcases c.pr.eE (a:=2) (b:=y1) ⟨l*m1-k1+m2,by grind⟩ with h3|h3
   ·exact absurd h3 c.no2
   ·exact absurd h3 hy
theorem afU (c:Cur p b) {P R S:Nat×Nat} {l:Int} (hP:OnQ p b (some P)) (hR:OnQ p b (some R)) (hl:Lin p P.1 P.2 R.1 R.2 l) (hS1:S.1<p) (hS2:S.2<p)
 (ht:Thd p P.1 P.2 R.1 l S.1 S.2):dM p (some P) (some R)=some S:=by
 have hn:¬(P.1=R.1/\P.2≠R.2):=λ⟨e1,e2⟩=>by
  obtain ⟨k,hk⟩:=hl.a
  rw [e1] at hk
  exact e2 (gk hP.2.1 hR.2.1 ⟨-k,by grind⟩)
 have hs:=Uv c hP hR hn
 obtain ⟨k,hk⟩:=axY c (c.yne hP.2.2) hs hl
 have:dM p (some P) (some R)=some (wU p P R (rq p P R)):=if_neg hn
 rw [this]
 congr 1
 generalize rq p P R=s at*
 obtain ⟨k1,h1⟩:=ht.x
 obtain ⟨k2,h2⟩:=ht.y
 have ex:nm p (s*s-P.1-R.1)=S.1:=aqs hS1 ⟨k1-k*(s+l),by grind⟩
 unfold wU
 rw [ex]
 have ey:nm p (s*((P.1:Int)-S.1)-P.2)=S.2:=aqs hS2 ⟨k2-k*(P.1-S.1),by grind⟩
 rw [ey]
theorem nE (c:Cur p b) {P R S:Nat×Nat} (hP:OnQ p b (some P)) (hR:OnQ p b (some R)) (h:dM p (some P) (some R)=some S):
 S.1<p/\S.2<p/\∃ l,Lin p P.1 P.2 R.1 R.2 l/\Thd p P.1 P.2 R.1 l S.1 S.2:=by
 by_cases hn:P.1=R.1/\P.2≠R.2
 ·have:dM p (some P) (some R)=none:=if_pos hn
  rw [this] at h
  cases h
 ·have hs:=Uv c hP hR hn
  have:dM p (some P) (some R)=some (wU p P R (rq p P R)):=if_neg hn
  rw [this] at h
  cases h
  exact ⟨I5 c.pos _,I5 c.pos _,_,hs,rz c.pos _,rz c.pos _⟩
theorem Ft (c:Cur p b) {P:PtQ} (h:OnQ p b P):OnQ p b (agA p P):=by
 cases P with
 |none=>trivial
 |some P=>
  obtain ⟨k,hk⟩:=rz c.pos (-(P.2:Int))
  obtain ⟨m,hm⟩:=h.2.2
  exact ⟨h.1,I5 c.pos _,⟨m+k*((nm p (-(P.2:Int)):Int)-P.2),by show ((nm p (-(P.2:Int)):Nat):Int)*(nm p (-(P.2:Int)):Nat)-(P.1:Int)*P.1*P.1-b=_;grind⟩⟩
theorem jl (c:Cur p b) {P R:PtQ} (hP:OnQ p b P) (hR:OnQ p b R):OnQ p b (dM p P R):=by
 cases P with
 |none=>exact hR
 |some P=>
  cases R with
  |none=>exact hP
  |some R=>
   cases h:dM p (some P) (some R) with
   |none=>trivial
   |some S=>
    obtain ⟨h1,h2,l,hl,ht⟩:=nE c hP hR h
    exact ⟨h1,h2,aFQ ht.y ht.x hl.a hl.b hP.2.2⟩
theorem aqh (c:Cur p b) {P R:Nat×Nat} (hP:OnQ p b (some P)) (hR:OnQ p b (some R)) (h:P.1=R.1/\P.2≠R.2):some R=agA p (some P):=by
 obtain ⟨x1,y1⟩:=P
 obtain ⟨x2,y2⟩:=R
 obtain ⟨hx1,hy1,hc1⟩:=hP
 obtain ⟨hx2,hy2,hc2⟩:=hR
 dsimp only at*
 obtain ⟨rfl,hne⟩:=h
 obtain ⟨k1,e1⟩:=hc1
 obtain ⟨k2,e2⟩:=hc2
 rcases c.pr.eE (a:=(y1:Int)-y2) (b:=(y1:Int)+y2) ⟨k1-k2,by grind⟩ with h|h
 ·exact absurd (gk hy1 hy2 h) hne
 ·obtain ⟨k,hk⟩:=h
  have:nm p (-(y1:Int))=y2:=aqs hy2 ⟨k,by grind⟩
  show _=some (x1,nm p (-(y1:Int)))
  rw [this]
theorem cq (P:PtQ):dM p P none=P:=by cases P<;>rfl
theorem agz (P:PtQ):dM p none P=P:=rfl
theorem add_neg (c:Cur p b) {P:PtQ} (hP:OnQ p b P):dM p P (agA p P)=none:=by
 cases P with
 |none=>rfl
 |some P=>
  refine if_pos ⟨rfl,λe=> ?_⟩
  have e:P.2=nm p (-(P.2:Int)):=e
  obtain ⟨k,hk⟩:=rz c.pos (-(P.2:Int))
  rw [<-e] at hk
  rcases c.pr.eE (a:=2) (b:=(P.2:Int)) ⟨k,by grind⟩ with h|h
  ·exact c.no2 h
  ·exact c.yne hP.2.2 h
theorem neg_neg (c:Cur p b) {P:PtQ} (hP:OnQ p b P):agA p (agA p P)=P:=by
 cases P with
 |none=>rfl
 |some P=>
  obtain ⟨k,hk⟩:=rz c.pos (-(P.2:Int))
  have:nm p (-((nm p (-(P.2:Int)):Nat):Int))=P.2:=aqs hP.2.1 ⟨k,by grind⟩
  show some (P.1,nm p (-((nm p (-(P.2:Int)):Nat):Int)))=_
  rw [this]
theorem add_comm (c:Cur p b) {P R:PtQ} (hP:OnQ p b P) (hR:OnQ p b R):dM p P R=dM p R P:=by
 cases P with
 |none=>exact (cq R).symm
 |some P=>
  cases R with
  |none=>rfl
  |some R=>
   cases h:dM p (some P) (some R) with
   |none=>
    by_cases hn:P.1=R.1/\P.2≠R.2
    ·exact (if_pos ⟨hn.1.symm,λe=>hn.2 e.symm⟩).symm
    ·have:dM p (some P) (some R)=some (wU p P R (rq p P R)):=if_neg hn
     rw [this] at h
     cases h
   |some S=>
    obtain ⟨h1,h2,l,hl,ht⟩:=nE c hP hR h
    obtain ⟨k1,e1⟩:=hl.a
    obtain ⟨k2,e2⟩:=hl.b
    obtain ⟨k3,e3⟩:=ht.x
    exact (afU c hR hP (l:=l) ⟨⟨-k1,by grind⟩,⟨k2,by grind⟩⟩ h1 h2 ⟨⟨k3,by grind⟩,aC2 ht.y hl.a⟩).symm
theorem aH3 {p l x1 x2 y1 y2 z1 z2 k2 k5 k6:Int} (e2:l*(y1+y2)-(x1*x1+x1*x2+x2*x2)=p*k2) (e5:z1- -y1=p*k5) (e6:z2- -y2=p*k6):
 -l*(z1+z2)-(x1*x1+x1*x2+x2*x2)=p*(k2-l*(k5+k6)):=by grind
theorem aG0 {p l x1 x3 y1 y3 z1 k2 k5:Int} (e2: -l*(-y1+y3)-(x1*x1+x1*x3+x3*x3)=p*k2) (e5:z1- -y1=p*k5):
 -l*(z1+y3)-(x1*x1+x1*x3+x3*x3)=p*(k2-l*k5):=by grind
theorem neg_add (c:Cur p b) {P R:PtQ} (hP:OnQ p b P) (hR:OnQ p b R):agA p (dM p P R)=dM p (agA p P) (agA p R):=by
 cases P with
 |none=>rfl
 |some P=>
  cases R with
  |none=>rfl
  |some R=>
   have hP':=Ft c hP
   have hR':=Ft c hR
   obtain ⟨k5,e5⟩:=rz c.pos (-(P.2:Int))
   obtain ⟨k6,e6⟩:=rz c.pos (-(R.2:Int))
   cases h:dM p (some P) (some R) with
   |none=>
    by_cases hn:P.1=R.1/\P.2≠R.2
    ·have:=aqh c hP hR hn
     rw [this,add_neg c hP']
     rfl
    ·have:dM p (some P) (some R)=some (wU p P R (rq p P R)):=if_neg hn
     rw [this] at h
     cases h
   |some S=>
    obtain ⟨h1,h2,l,hl,ht⟩:=nE c hP hR h
    obtain ⟨k1,e1⟩:=hl.a
    obtain ⟨k2,e2⟩:=hl.b
    obtain ⟨k3,e3⟩:=ht.x
    obtain ⟨k4,e4⟩:=ht.y
    obtain ⟨k7,e7⟩:=rz c.pos (-(S.2:Int))
    have g1:Lin p ((P.1:Nat):Int) ((nm p (-(P.2:Int)):Nat):Int) ((R.1:Nat):Int) ((nm p (-(R.2:Int)):Nat):Int) (-l):=
     ⟨⟨-k1-k5+k6,by grind⟩,⟨k2-l*(k5+k6),aH3 e2 e5 e6⟩⟩
    have g2:Thd p ((P.1:Nat):Int) ((nm p (-(P.2:Int)):Nat):Int) ((R.1:Nat):Int) (-l) ((S.1:Nat):Int) ((nm p (-(S.2:Int)):Nat):Int):=
     ⟨⟨k3,by grind⟩,⟨-k4+k7+k5,by grind⟩⟩
    exact (afU c (P:=(P.1,nm p (-(P.2:Int)))) (R:=(R.1,nm p (-(R.2:Int)))) (S:=(S.1,nm p (-(S.2:Int)))) hP' hR' g1 h1 (I5 c.pos _) g2).symm
theorem cancel (c:Cur p b) {P R:PtQ} (hP:OnQ p b P) (hR:OnQ p b R):dM p (agA p P) (dM p P R)=R:=by
 cases P with
 |none=>rfl
 |some P=>
  have hP':=Ft c hP
  cases R with
  |none=>
   rw [cq,add_comm c hP' hP,add_neg c hP]
  |some R=>
   cases h:dM p (some P) (some R) with
   |none=>
    by_cases hn:P.1=R.1/\P.2≠R.2
    ·rw [cq]
     exact (aqh c hP hR hn).symm
    ·have:dM p (some P) (some R)=some (wU p P R (rq p P R)):=if_neg hn
     rw [this] at h
     cases h
   |some S=>
    have hS:=jl c hP hR
    rw [h] at hS
    obtain ⟨h1,h2,l,hl,ht⟩:=nE c hP hR h
    obtain ⟨k1,e1⟩:=hl.a
    obtain ⟨k2,e2⟩:=aG1 ht.y ht.x hl.a hl.b
    obtain ⟨k3,e3⟩:=ht.x
    obtain ⟨k4,e4⟩:=ht.y
    obtain ⟨k5,e5⟩:=rz c.pos (-(P.2:Int))
    have g1:Lin p ((P.1:Nat):Int) ((nm p (-(P.2:Int)):Nat):Int) ((S.1:Nat):Int) ((S.2:Nat):Int) (-l):=
     ⟨⟨k4-k5,by grind⟩,⟨k2-l*k5,aG0 e2 e5⟩⟩
    have g2:Thd p ((P.1:Nat):Int) ((nm p (-(P.2:Int)):Nat):Int) ((S.1:Nat):Int) (-l) ((R.1:Nat):Int) ((R.2:Nat):Int):=
     ⟨⟨k3,by grind⟩,⟨k1+k5,by grind⟩⟩
    exact afU c (P:=(P.1,nm p (-(P.2:Int)))) hP' hS g1 hR.1 hR.2.1 g2
theorem I4 (c:Cur p b) {P R:PtQ} (hP:OnQ p b P) (hR:OnQ p b R) (h:dM p P R=none):R=agA p P:=by
 have:=cancel c hP hR
 rw [h,cq] at this
 exact this.symm
theorem QL (c:Cur p b) {u v z:Int} (hu:¬(p:Int)∣u) (hv:¬(p:Int)∣v) (h:(p:Int)∣u*v*z):(p:Int)∣z:=by
 rcases c.pr.eE h with h|h
 ·rcases c.pr.eE h with h|h
  ·exact absurd h hu
  ·exact absurd h hv
 ·exact h
theorem agu (c:Cur p b) {z:Int} (h:(p:Int)∣4*z):(p:Int)∣z:=(c.pr.eE h).resolve_left c.no4
theorem agr {X Y:Nat×Nat} (h1:X.1=Y.1) (h2:X.2=Y.2):X=Y:=by
 obtain ⟨X1,X2⟩:=X
 obtain ⟨Y1,Y2⟩:=Y
 dsimp only at h1 h2
 rw [h1,h2]
theorem O4 (c:Cur p b) {P1 P2 P3 S T X Y:Nat×Nat} (h1:OnQ p b (some P1)) (h2:OnQ p b (some P2)) (h3:OnQ p b (some P3)) (hS:dM p (some P1) (some P2)=some S) (hT:dM p (some P2) (some P3)=some T)
 (hX:dM p (some S) (some P3)=some X) (hY:dM p (some P1) (some T)=some Y) (d1:(p:Int)∣(S.1:Int)-P3.1):X=Y:=by
 have oS:=jl c h1 h2
 have oT:=jl c h2 h3
 rw [hS] at oS
 rw [hT] at oT
 obtain ⟨hS1,hS2,l,l1,l2⟩:=nE c h1 h2 hS
 obtain ⟨hT1,hT2,m,m1,m2⟩:=nE c h2 h3 hT
 obtain ⟨hX1,hX2,L,L1,L2⟩:=nE c oS h3 hX
 obtain ⟨hY1,hY2,M,M1,M2⟩:=nE c h1 oT hY
 have n2:=c.yne h2.2.2
 have n3:=c.yne h3.2.2
 have hx:=QL c n2 n3 (agu c (by rw [<-Int.mul_assoc];exact aG6 l1.a m1.a l2.x l2.y m2.x m2.y L2.x M2.x l1.b m1.b L1.a L1.b M1.a d1))
 have hy:=QL c n2 n3 (agu c (by rw [<-Int.mul_assoc];exact aG5 l1.a m1.a l2.x l2.y m2.x m2.y L2.y M2.x M2.y l1.b m1.b L1.a L1.b M1.a d1 hx))
 exact agr (gk hX1 hY1 hx) (gk hX2 hY2 hy)
theorem add_assoc (c:Cur p b) {P R T:PtQ} (hP:OnQ p b P) (hR:OnQ p b R) (hT:OnQ p b T):dM p (dM p P R) T=dM p P (dM p R T):=by
 have hPR:=jl c hP hR
 have hRT:=jl c hR hT
 have nP:=Ft c hP
 have nR:=Ft c hR
 have nT:=Ft c hT
 by_cases hA:dM p P R=none
 ·rw [hA,agz]
  have e:=I4 c hP hR hA
  have e2:P=agA p R:=by rw [e,neg_neg c hP]
  rw [e2,cancel c hR hT]
 by_cases hB:dM p R T=none
 ·rw [hB,cq]
  have e:=I4 c hR hT hB
  rw [e,add_comm c hPR nR,add_comm c hP hR,cancel c hR hP]
 by_cases hC:dM p (dM p P R) T=none
 ·rw [hC]
  have e:=I4 c hPR hT hC
  rw [e,neg_add c hP hR,add_comm c nP nR]
  have:=cancel c nR nP
  rw [neg_neg c hR] at this
  rw [this,add_neg c hP]
 by_cases hD:dM p P (dM p R T)=none
 ·rw [hD]
  have e:=I4 c hRT hP (by rw [add_comm c hRT hP];exact hD)
  rw [e,neg_add c hR hT]
  have h3:=cancel c nR nT
  rw [neg_neg c hR] at h3
  rw [add_comm c (jl c nR nT) hR,h3,add_comm c nT hT,add_neg c hT]
 cases P with
 |none=>rfl
 |some P1=>
 cases R with
 |none=>rw [cq,agz]
 |some P2=>
 cases T with
 |none=>rw [cq,cq]
 |some P3=>
 cases hS:dM p (some P1) (some P2) with
 |none=>exact absurd hS hA
 |some S=>
 cases hT':dM p (some P2) (some P3) with
 |none=>exact absurd hT' hB
 |some T=>
 rw [hS] at hPR hC
 rw [hT'] at hRT hD
 cases hX:dM p (some S) (some P3) with
 |none=>exact absurd hX hC
 |some X=>
 cases hY:dM p (some P1) (some T) with
 |none=>exact absurd hY hD
 |some Y=>
 obtain ⟨hS1,hS2,l,l1,l2⟩:=nE c hP hR hS
 obtain ⟨hT1,hT2,m,m1,m2⟩:=nE c hR hT hT'
 obtain ⟨hX1,hX2,L,L1,L2⟩:=nE c hPR hT hX
 obtain ⟨hY1,hY2,M,M1,M2⟩:=nE c hP hRT hY
 congr 1
 by_cases d1:(p:Int)∣(S.1:Int)-P3.1
 ·exact O4 c hP hR hT hS hT' hX hY d1
 by_cases d2:(p:Int)∣(P1.1:Int)-T.1
 ·rw [add_comm c hR hT] at hT'
  rw [add_comm c hP hR] at hS
  rw [add_comm c hPR hT] at hX
  rw [add_comm c hP hRT] at hY
  exact (O4 c hT hR hP hT' hS hY hX (by obtain ⟨k,hk⟩:=d2;exact ⟨-k,by rw [Int.mul_neg,<-hk];omega⟩)).symm
 ·have hx:=QL c d1 d2 (aG4 l1.a m1.a l2.x l2.y m2.x m2.y L2.x M2.x l1.b m1.b L1.a M1.a)
  have hy:=QL c d1 d2 (aG3 l1.a m1.a l2.x l2.y m2.x m2.y L2.x L2.y M2.x M2.y l1.b m1.b L1.a M1.a hx)
  exact agr (gk hX1 hY1 hx) (gk hX2 hY2 hy)
end
section
open Sx Go
abbrev Sm (p:Nat):Prop:=0<p/\p<57896044618658097711785492504343953926634992332820282019728792003956564819968
theorem aGK {p a b:Int} (h2:p∣a) (h1:p∣a-b):p∣b:=by
 obtain ⟨k,hk⟩:=h1
 obtain ⟨m,hm⟩:=h2
 exact ⟨m-k,by rw [Int.mul_sub];omega⟩
theorem avR {p:Nat} (n:Nat):(p:Int)∣((n%p:Nat):Int)-(n:Int):=by
 have:=Nat.div_add_mod n p
 refine ⟨-((n/p:Nat):Int),?_⟩
 have h:((p*(n/p)+n%p:Nat):Int)=(n:Int):=by rw [this]
 rw [Int.natCast_add,Int.natCast_mul] at h
 rw [Int.mul_neg]
 omega
variable {p:Nat}
theorem cf (hp:Sm p) (a b:ab):(p:Int)∣((aR p a b).nat:Int)-((a.nat:Int)*(b.nat:Int)):=by
 have e:(aR p a b).nat=a.nat*b.nat%p:=cv hp
 rw [e]
 have:=avR (p:=p) (a.nat*b.nat)
 rwa [Int.natCast_mul] at this
theorem YO (hp:Sm p) (a b:ab):(p:Int)∣((dv p a b).nat:Int)-((a.nat:Int)+(b.nat:Int)):=by
 have e:(dv p a b).nat=(a.nat+b.nat)%p:=cv hp
 rw [e]
 have:=avR (p:=p) (a.nat+b.nat)
 rwa [Int.natCast_add] at this
theorem aGk (hp:Sm p) (a:ab):(p:Int)∣((lf p a).nat:Int)- -(a.nat:Int):=by
 have e:(lf p a).nat=(p-a.nat%p)%p:=cv hp
 rw [e]
 obtain ⟨k,hk⟩:=avR (p:=p) (p-a.nat%p)
 obtain ⟨m,hm⟩:=avR (p:=p) a.nat
 have hlt:=Nat.mod_lt a.nat hp.1
 have e2:((p-a.nat%p:Nat):Int)=(p:Int)-((a.nat%p:Nat):Int):=by omega
 rw [e2] at hk
 generalize (((p-a.nat%p)%p:Nat):Int)=u at*
 generalize ((a.nat%p:Nat):Int)=v at*
 exact ⟨k+1-m,by grind⟩
theorem mv (hp:Sm p) (a b:ab):(p:Int)∣((iw p a b).nat:Int)-((a.nat:Int)-(b.nat:Int)):=by
 obtain ⟨k,hk⟩:=YO hp a (lf p b)
 obtain ⟨m,hm⟩:=aGk hp b
 unfold iw
 generalize ((dv p a (lf p b)).nat:Int)=u at*
 exact ⟨k+m,by grind⟩
theorem j3 (hp:Sm p) (a b:ab):(aR p a b).nat<p:=by
 rw [show (aR p a b).nat=a.nat*b.nat%p from cv hp]
 exact Nat.mod_lt _ hp.1
theorem Ad (hp:Sm p) (a b:ab):(dv p a b).nat<p:=by
 rw [show (dv p a b).nat=(a.nat+b.nat)%p from cv hp]
 exact Nat.mod_lt _ hp.1
theorem Qd (hp:Sm p) (a b:ab):(iw p a b).nat<p:=Ad hp _ _
theorem Z8:(ab.mk 2 0 0 0).nat=2:=by decide
theorem ayM:(ab.mk 4 0 0 0).nat=4:=by decide
theorem as1:(ab.mk 8 0 0 0).nat=8:=by decide
theorem QO:(ab.mk 1 0 0 0).nat=1:=by decide
theorem ma:(ab.mk 0 0 0 0).nat=0:=by decide
theorem QR {p b m:Nat} (pr:Pr p) (h3:p=3*m+1) (hb0:0<b) (hb:b<p) (hm:Nat.blt m (2^256)=true) (hk:Nat.beq (pwm p (p-b) m) 1=false) (x:Int):¬(p:Int)∣x*x*x+b:=λhd=>by
 have h2:=pr.1
 rw [agf h2 hm] at hk
 obtain ⟨k,hk1⟩:=hd
 obtain ⟨j,hj⟩:=rz pr.pos x
 have hn:p∣nm p x*nm p x*nm p x+b:=Int.natCast_dvd_natCast.1 (by
  rw [Int.natCast_add,Int.natCast_mul,Int.natCast_mul]
  generalize ((nm p x:Nat):Int)=n at*
  exact ⟨k+j*(n*n+n*x+x*x),by grind⟩)
 generalize nm p x=n at*
 have hpn:¬p∣n:=λhd=>by
  have h1:p∣n*n*n:=Nat.dvd_trans hd (Nat.dvd_mul_left ..)
  have:=(Nat.dvd_add_right h1).1 hn
  have:=Nat.le_of_dvd hb0 this
  omega
 have hf:=FL pr hpn
 have e:n^3%p=(p-b)%p:=by
  obtain ⟨c,hc⟩:=hn
  have hc0:c≠0:=λe=>by rw [e] at hc;omega
  obtain ⟨d,rfl⟩:∃ d,c=d+1:=⟨c-1,by omega⟩
  have:n^3=(p-b)+p*d:=by
   rw [show n^3=n*n*n by rw [Nat.pow_succ,Nat.pow_succ,Nat.pow_one]]
   rw [Nat.mul_succ] at hc
   omega
  rw [this,Nat.add_mul_mod_self_left]
 have:(p-b)^m%p=1:=by
  rw [Nat.pow_mod,<-e,<-Nat.pow_mod,<-Nat.pow_mul,show 3*m=p-1 by omega]
  exact hf
 rw [this] at hk
 cases hk
theorem aD {s:Int} (h:ac s=true):Cur (pS s) (bS s).nat:=by
 rcases cb h with rfl|rfl|rfl|rfl
 ·have e:pS 0=16513537:=by decide+kernel
  have e2:(bS 0).nat=23:=by decide+kernel
  rw [e,e2]
  exact ⟨ym,by decide,QR (m:=5504512) ym (by decide) (by decide) (by decide) (by decide+kernel) (by decide+kernel)⟩
 ·have e:pS 1=16521217:=by decide+kernel
  have e2:(bS 1).nat=21:=by decide+kernel
  rw [e,e2]
  exact ⟨yl,by decide,QR (m:=5507072) yl (by decide) (by decide) (by decide) (by decide+kernel) (by decide+kernel)⟩
 ·have e:pS 2=28948022309329048855892746252171976963363056481941560715954676764349967630337:=by decide+kernel
  have e2:(bS 2).nat=5:=by decide+kernel
  rw [e,e2]
  exact ⟨aP,by decide,QR (m:=9649340769776349618630915417390658987787685493980520238651558921449989210112) aP (by decide) (by decide) (by decide) (by decide+kernel) (by decide+kernel)⟩
 ·have e:pS 3=28948022309329048855892746252171976963363056481941647379679742748393362948097:=by decide+kernel
  have e2:(bS 3).nat=5:=by decide+kernel
  rw [e,e2]
  exact ⟨aO,by decide,QR (m:=9649340769776349618630915417390658987787685493980549126559914249464454316032) aO (by decide) (by decide) (by decide) (by decide+kernel) (by decide+kernel)⟩
end
section
open Sx Go
set_option maxRecDepth 100000
theorem gL (a n p:Nat):(a%p)^n%p=a^n%p:=(Nat.pow_mod a n p).symm
theorem aH6 {p a b c d:Nat} (h1:a%p=c%p) (h2:b%p=d%p):a*b%p=c*d%p:=by rw [Nat.mul_mod,h1,h2,<-Nat.mul_mod]
theorem aAA {p t:Nat} (pr:Pr p) (ht:t<p) (h:t*t%p=1):t=1\/t=p-1:=by
 have h2:=pr.1
 have hd:(p:Int)∣((t:Int)-1)*((t:Int)+1):=by
  have e:=Nat.div_add_mod (t*t) p
  rw [h] at e
  refine ⟨((t*t/p:Nat):Int),?_⟩
  have e:((p*(t*t/p)+1:Nat):Int)=((t*t:Nat):Int):=congrArg (λn:Nat=>(n:Int)) e
  rw [Int.natCast_add,Int.natCast_mul,Int.natCast_mul] at e
  have e2:((t:Int)-1)*((t:Int)+1)=(t:Int)*t-1:=by grind
  rw [e2,<-e]
  omega
 rcases pr.eE hd with h|h
 ·left
  exact gk ht (by omega) h
 ·right
  refine gk ht (by omega) ?_
  obtain ⟨k,hk⟩:=h
  have:((p-1:Nat):Int)=(p:Int)-1:=by omega
  rw [this]
  exact ⟨k-1,by rw [Int.mul_sub];omega⟩
theorem aGi {p:Nat} (h2:2<=p):(p-1)*(p-1)%p=1:=by
 obtain ⟨q,rfl⟩:∃ q,p=q+2:=⟨p-2,by omega⟩
 have:(q+2-1)*(q+2-1)=1+(q+2)*q:=by
  rw [show q+2-1=q+1 by omega]
  grind
 rw [this,Nat.add_mul_mod_self_left]
 exact bn (by omega)
section
variable {p:Nat}
theorem xb (hp:Sm p) (a b:ab):(aR p a b).nat=a.nat*b.nat%p:=cv hp
theorem jQ (hp:Sm p) (h2:2<=p) (a k:ab):(lv p a k).nat=a.nat^k.nat%p:=by
 rw [aEG (by omega)]
 exact cv hp
theorem aDq (hp:Sm p) {b:ab} (hb:b.nat<p):∀ n,(sqN p b n).nat=b.nat^2^n%p
 |0=>by
  show b.nat=_
  rw [Nat.pow_zero,Nat.pow_one,bn hb]
 |n+1=>by
  show (aR p (sqN p b n) (sqN p b n)).nat=_
  rw [xb hp,aDq hp hb n,<-Nat.mul_mod,<-Nat.pow_add,<-Nat.two_mul,<-Nat.pow_succ']
theorem zG (t:ab):eqE t kp=Nat.beq t.nat 1:=by rw [asY];rfl
theorem yG {a b:Nat} (h:Nat.beq a b=false):a≠b:=λe=>by rw [e,Nat.beq_refl] at h;cases h
structure az7 (p a i:Nat) (w:Ton):Prop where
 x:w.1.nat<p
 b:w.2.1.nat<p
 z:w.2.2.nat<p
 sq:w.1.nat*w.1.nat%p=a*w.2.1.nat%p
 one:w.2.1.nat^2^i%p=1
 neg:w.2.2.nat^2^i%p=p-1
theorem alc (b i:Nat):b^2^(i+1)=b^2^i*b^2^i:=by rw [<-Nat.pow_add,<-Nat.two_mul,<-Nat.pow_succ']
theorem apj (z i:Nat) (p:Nat):(z*z%p)^2^i%p=z^2^(i+1)%p:=by rw [gL,<-Nat.pow_two,<-Nat.pow_mul,<-Nat.pow_succ']
theorem WM (pr:Pr p) {b i:Nat} (h:b^2^(i+1)%p=1):b^2^i%p=1\/b^2^i%p=p-1:=by
 rw [alc,Nat.mul_mod] at h
 exact aAA pr (Nat.mod_lt _ pr.pos) h
theorem aoS (hp:Sm p) (pr:Pr p) {a i:Nat} {x b z u:ab} (hx:x.nat*x.nat%p=a*b.nat%p) (hb:b.nat^2^i%p=p-1) (hu:u.nat*u.nat%p=z.nat%p) (hz:z.nat^2^i%p=p-1):
 (aR p x u).nat*(aR p x u).nat%p=a*(aR p b z).nat%p/\(aR p b z).nat^2^i%p=1:=by
 constructor
 ·rw [xb hp,xb hp,<-Nat.mul_mod,Nat.mul_mod_mod,show x.nat*u.nat*(x.nat*u.nat)=x.nat*x.nat*(u.nat*u.nat) by ac_rfl,show a*(b.nat*z.nat)=a*b.nat*z.nat from (Nat.mul_assoc ..).symm]
  exact aH6 hx hu
 ·rw [xb hp,gL,Nat.mul_pow,Nat.mul_mod,hb,hz]
  exact aGi pr.1
theorem akI (hp:Sm p) (pr:Pr p) {a m k:Nat} {w:Ton} (hk:k<m) (h:az7 p a (m-k) w):az7 p a (m-(k+1)) (P7 p m k w):=by
 obtain ⟨x,b,z⟩:=w
 have e:m-k=(m-(k+1))+1:=by omega
 rw [e] at h
 obtain ⟨hx,hb,hz,h1,h2,h3⟩:=h
 dsimp only at*
 have ht:=aDq hp hb (m-(k+1))
 have hz2:(aR p z z).nat^2^(m-(k+1))%p=p-1:=by rw [xb hp,apj];exact h3
 unfold P7
 dsimp only
 rw [show m-k-1=m-(k+1) by omega,zG]
 cases hq:Nat.beq (sqN p b (m-(k+1))).nat 1
 ·simp only [aT]
  have hn:=yG hq
  rw [ht] at hn
  have hb1:=(WM pr h2).resolve_left hn
  obtain ⟨g1,g2⟩:=aoS hp pr (u:=z) h1 hb1 (by rw [xb hp,Nat.mod_mod]) hz2
  exact ⟨j3 hp _ _,j3 hp _ _,j3 hp _ _,g1,g2,hz2⟩
 ·simp only [aK]
  have hb1:=aY hq
  rw [ht] at hb1
  exact ⟨hx,hb,j3 hp _ _,h1,hb1,hz2⟩
theorem aCZ (hp:Sm p) (pr:Pr p) {a m:Nat} {w:Ton} (h:az7 p a m w):(aFt p m w).1.nat<p/\(aFt p m w).1.nat*(aFt p m w).1.nat%p=a%p:=by
 have key:∀ n,n<=m->az7 p a (m-n) (upto (P7 p m) w n):=by
  intro n
  induction n with
  |zero=>intro _;exact h
  |succ n ih=>intro hn;exact akI hp pr (by omega) (ih (by omega))
 have hk:=key m (Nat.le_refl _)
 rw [Nat.sub_self] at hk
 obtain ⟨hx,hb,hz,h1,h2,h3⟩:=hk
 refine ⟨hx,?_⟩
 rw [Nat.pow_zero,Nat.pow_one,bn hb] at h2
 rw [h2,Nat.mul_one] at h1
 exact h1
end
def GN (s:Int):ab:=jt (ng (bB s.toNat).1 kp).1 (bB s.toNat).2.1.toNat
def adS (s:Int):Nat:=(bB s.toNat).2.1.toNat
structure aiX (s:Int):Prop where
 od:(GN s).nat*2^adS s=pS s-1
 up:2*(iF (Tp (GN s) kp).1).nat=(GN s).nat+1
 hf:(iF (ng (bB s.toNat).1 kp).1).nat=(pS s-1)/2
 ad:1<=adS s
 ai:(bB s.toNat).2.1=(adS s:Int)
 nr:pwm (pS s) 5 ((pS s-1)/2)=pS s-1
 pr:Pr (pS s)
 sm:Sm (pS s)
 o2:pS s%2=1
theorem Ia {s:Int} (hs:ac s=true):aiX s:=by
 have pr:=(aD hs).pr
 have sm:Sm (pS s):=eP hs
 rcases cb hs with rfl|rfl|rfl|rfl<;>
  exact ⟨by decide+kernel,by decide+kernel,by decide+kernel,by decide+kernel,by decide+kernel,by decide+kernel,pr,sm,by decide+kernel⟩
section
variable {s:Int} (k:aiX s)
include k
theorem apX (a:Nat):(a^(GN s).nat)^2^(adS s-1)=a^((pS s-1)/2):=by
 rw [<-Nat.pow_mul]
 congr 1
 have h:=k.od
 have ha:=k.ad
 obtain ⟨n,hn⟩:∃ n,adS s=n+1:=⟨adS s-1,by omega⟩
 rw [hn] at h⊢
 rw [Nat.pow_succ,<-Nat.mul_assoc] at h
 rw [show n+1-1=n by omega]
 omega
theorem ahC:(5^(GN s).nat)^2^(adS s-1)%pS s=pS s-1:=by
 rw [apX k]
 have h:=k.nr
 have hp:=k.sm
 rw [agf k.pr.1 (jW (by have:=hp.2;omega))] at h
 exact h
omit k in
theorem ahD:(ab.mk 5 0 0 0).nat=5:=by decide
theorem apw {a:ab} (he:a.nat^((pS s-1)/2)%pS s=1):(Mt s a).nat<pS s/\(Mt s a).nat*(Mt s a).nat%pS s=a.nat%pS s:=by
 have hp:=k.sm
 have pr:=k.pr
 have e:Mt s a=(aFt (pS s) (adS s-1) (lv (pS s) a (iF (Tp (GN s) kp).1),lv (pS s) a (GN s),lv (pS s) ⟨5,0,0,0⟩ (GN s))).1:=by
  show (aFt (pS s) ((bB s.toNat).2.1-1).toNat _).1=_
  rw [k.ai,show ((adS s:Int)-1).toNat=adS s-1 by omega]
  rfl
 rw [e]
 refine aCZ hp pr (a:=a.nat) ⟨?_,?_,?_,?_,?_,?_⟩
 ·rw [jQ hp pr.1];exact Nat.mod_lt _ pr.pos
 ·rw [jQ hp pr.1];exact Nat.mod_lt _ pr.pos
 ·rw [jQ hp pr.1];exact Nat.mod_lt _ pr.pos
 ·show (lv (pS s) a (iF (Tp (GN s) kp).1)).nat*(lv (pS s) a (iF (Tp (GN s) kp).1)).nat%pS s=a.nat*(lv (pS s) a (GN s)).nat%pS s
  rw [jQ hp pr.1,jQ hp pr.1,<-Nat.mul_mod,Nat.mul_mod_mod,<-Nat.pow_add,<-Nat.two_mul,k.up,Nat.pow_succ,Nat.mul_comm]
 ·show (lv (pS s) a (GN s)).nat^_%pS s=1
  rw [jQ hp pr.1,gL,apX k]
  exact he
 ·show (lv (pS s) ⟨5,0,0,0⟩ (GN s)).nat^_%pS s=pS s-1
  rw [jQ hp pr.1,gL,ahD]
  exact ahC k
end
theorem adu {p:Nat} (hp:Sm p) (ho:p%2=1) {x:ab} (hx:x.nat<p):(zF p x).nat<p/\(zF p x).nat%2=0/\(zF p x).nat*(zF p x).nat%p=x.nat*x.nat%p:=by
 have hb:(x.w0%2==1)=Nat.beq (x.nat%2) 1:=by
  have e:x.nat%2=x.w0.toNat%2:=by unfold Sx.ab.nat;omega
  rw [e]
  have h2:(x.w0%2).toNat=x.w0.toNat%2:=by rw [UInt64.toNat_mod];rfl
  rw [<-h2]
  by_cases h:x.w0%2=1
  ·rw [h];rfl
  ·have hn:¬(x.w0%2).toNat=1:=λe=>h (UInt64.toNat_inj.1 e)
   have:Nat.beq (x.w0%2).toNat 1=false:=by
    cases hb:Nat.beq (x.w0%2).toNat 1
    ·rfl
    ·exact absurd (aY hb) hn
   rw [this]
   simpa using h
 unfold zF
 rw [hb]
 cases hq:Nat.beq (x.nat%2) 1
 ·simp only [aT]
  have:=yG hq
  exact ⟨hx,by omega,trivial⟩
 ·simp only [aK]
  have h1:=aY hq
  have e:(lf p x).nat=p-x.nat:=by
   rw [show (lf p x).nat=(p-x.nat%p)%p from cv hp,bn hx,bn (by omega)]
  rw [e]
  refine ⟨by omega,by omega,?_⟩
  obtain ⟨d,hd⟩:∃ d,p=x.nat+d:=⟨p-x.nat,by omega⟩
  have e2:p-x.nat=d:=by omega
  rw [e2]
  have e3:d*d+p*x.nat=x.nat*x.nat+p*d:=by rw [hd];grind
  have:=congrArg (· %p) e3
  simp only [Nat.add_mul_mod_self_left] at this
  exact this
theorem KS {p:Nat} (pr:Pr p) (ho:p%2=1) {x y:Nat} (hx:x<p) (hy:y<p) (ex:x%2=0) (ey:y%2=0) (h:x*x%p=y*y%p):x=y:=by
 have hd:(p:Int)∣((x:Int)-y)*((x:Int)+y):=by
  obtain ⟨a,ha⟩:=avR (p:=p) (x*x)
  obtain ⟨b,hb⟩:=avR (p:=p) (y*y)
  rw [h] at ha
  rw [Int.natCast_mul] at ha hb
  generalize (((y*y%p):Nat):Int)=r at*
  exact ⟨b-a,by grind⟩
 rcases pr.eE hd with h|h
 ·exact gk hx hy h
 ·have h:(p:Int)∣((x+y:Nat):Int):=by rw [Int.natCast_add];exact h
  have h:=Int.natCast_dvd_natCast.1 h
  obtain ⟨c,hc⟩:=h
  have hc2:c<2:=by
   apply lD
   intro h2
   have:=Nat.mul_le_mul_left p (show 2<=c by omega)
   omega
  rcases (show c=0\/c=1 by omega) with rfl|rfl<;>omega
def kF (p:Nat):Nat->ab->Nat->Nat
 |0,_,k=>k
 |n+1,s,k=>cond (eqE s kp) k (kF p n (aR p s s) (k+1))
def tsB (p m k:Nat) (w:Ton):ab:=sqN p w.2.2 (m-k-1)
def tsW (p m k:Nat) (w:Ton):Ton:=(aR p w.1 (tsB p m k w),aR p w.2.1 (aR p (tsB p m k w) (tsB p m k w)),aR p (tsB p m k w) (tsB p m k w))
def tsF (p:Nat):Nat->Nat->Ton->Option ab
 |0,_,_=>none
 |f+1,m,w=>cond (eqE w.2.1 kp) (some w.1) (cond (Nat.beq (kF p m w.2.1 0) m) none (tsF p f (kF p m w.2.1 0) (tsW p m (kF p m w.2.1 0) w)))
section
variable {p:Nat}
theorem ab0 (hp:Sm p):∀ (n:Nat) (s:ab) (k:Nat),s.nat<p->k<=kF p n s k/\kF p n s k<=k+n/\(kF p n s k<k+n->s.nat^2^(kF p n s k-k)%p=1)/\∀ j,k<=j->j<kF p n s k->s.nat^2^(j-k)%p≠1
 |0,s,k,_=>⟨Nat.le_refl _,Nat.le_refl _,λh=>absurd h (Nat.lt_irrefl _),λj h1 h2=>absurd h2 (by show ¬j<k;omega)⟩
 |n+1,s,k,hs=>by
  unfold kF
  rw [zG]
  cases hq:Nat.beq s.nat 1
  ·simp only [aT]
   obtain ⟨h1,h2,h3,h4⟩:=ab0 hp n (aR p s s) (k+1) (j3 hp _ _)
   have e:∀ j,(aR p s s).nat^2^j%p=s.nat^2^(j+1)%p:=λj=>by rw [xb hp,apj]
   refine ⟨by omega,by omega,λh=> ?_,λj hj1 hj2=> ?_⟩
   ·have:=h3 (by omega)
    rw [e] at this
    rw [show kF p n (aR p s s) (k+1)-k=kF p n (aR p s s) (k+1)-(k+1)+1 by omega]
    exact this
   ·by_cases hj:j=k
    ·subst hj
     rw [Nat.sub_self,Nat.pow_zero,Nat.pow_one,bn hs]
     exact yG hq
    ·have:=h4 j (by omega) hj2
     rw [e] at this
     rw [show j-k=j-(k+1)+1 by omega]
     exact this
  ·simp only [aK]
   have h1:=aY hq
   refine ⟨Nat.le_refl _,by omega,λ_=> ?_,λj hj1 hj2=>by omega⟩
   rw [Nat.sub_self,Nat.pow_zero,Nat.pow_one,bn hs]
   exact h1
structure aG9 (p a m:Nat) (w:Ton):Prop where
 x:w.1.nat<p
 t:w.2.1.nat<p
 z:w.2.2.nat<p
 sq:w.1.nat*w.1.nat%p=a*w.2.1.nat%p
 m1:1<=m
 neg:w.2.2.nat^2^(m-1)%p=p-1
theorem aCW (hp:Sm p) (pr:Pr p) {a m k:Nat} {w:Ton} (h:aG9 p a m w) (hk0:1<=k) (hk:k<m) (h1:w.2.1.nat^2^k%p=1) (h2:w.2.1.nat^2^(k-1)%p≠1):
 aG9 p a k (tsW p m k w)/\(tsW p m k w).2.1.nat^2^(k-1)%p=1:=by
 have hb:=aDq hp h.z (m-k-1)
 have hz':(aR p (tsB p m k w) (tsB p m k w)).nat^2^(k-1)%p=p-1:=by
  rw [xb hp,apj]
  show (sqN p w.2.2 (m-k-1)).nat^_%p=_
  rw [hb,gL,<-Nat.pow_mul,<-Nat.pow_add,show m-k-1+(k-1+1)=m-1 by omega]
  exact h.neg
 have ht:w.2.1.nat^2^(k-1)%p=p-1:=by
  have e:k=(k-1)+1:=by omega
  rw [e] at h1
  exact (WM pr h1).resolve_left h2
 obtain ⟨g1,g2⟩:=aoS hp pr (u:=tsB p m k w) (z:=aR p (tsB p m k w) (tsB p m k w)) h.sq ht (by rw [xb hp,Nat.mod_mod]) hz'
 exact ⟨⟨j3 hp _ _,j3 hp _ _,j3 hp _ _,g1,hk0,hz'⟩,g2⟩
theorem aoM (hp:Sm p) (pr:Pr p) {a:Nat}:∀ (f m:Nat) (w:Ton),m<f->aG9 p a m w->w.2.1.nat^2^(m-1)%p=1->∃ x,tsF p f m w=some x/\x.nat<p/\x.nat*x.nat%p=a%p
 |0,m,w,h,_,_=>absurd h (Nat.not_lt_zero _)
 |f+1,m,w,hf,h,hr=>by
  unfold tsF
  rw [zG]
  cases hq:Nat.beq w.2.1.nat 1
  ·simp only [aT]
   obtain ⟨k1,k2,k3,k4⟩:=ab0 hp m w.2.1 0 h.t
   have m1:=h.m1
   have hk:kF p m w.2.1 0<m:=by
    apply lD
    intro hn
    exact k4 (m-1) (by omega) (by omega) hr
   have hk0:1<=kF p m w.2.1 0:=by
    apply lD
    intro hn
    have e:kF p m w.2.1 0=0:=by omega
    have:=k3 (by omega)
    rw [e,Nat.sub_self,Nat.pow_zero,Nat.pow_one,bn h.t] at this
    exact yG hq this
   have e1:=k3 (by omega)
   have e2:=k4 (kF p m w.2.1 0-1) (by omega) (by omega)
   rw [Nat.sub_zero] at e1 e2
   have hb:Nat.beq (kF p m w.2.1 0) m=false:=by
    cases hb:Nat.beq (kF p m w.2.1 0) m
    ·rfl
    ·have:=aY hb;omega
   rw [hb]
   obtain ⟨g1,g2⟩:=aCW hp pr h hk0 hk e1 e2
   exact aoM hp pr f _ _ (by omega) g1 g2
  ·simp only [aK]
   have h1:=aY hq
   have:=h.sq
   rw [h1,Nat.mul_one] at this
   exact ⟨w.1,rfl,h.x,this⟩
theorem aCY (hp:Sm p) (pr:Pr p) (h3:3<=p) {a f m:Nat} {w:Ton} (h:aG9 p a m w) (hr:w.2.1.nat^2^(m-1)%p=p-1):tsF p f m w=none:=by
 cases f with
 |zero=>rfl
 |succ f=>
  unfold tsF
  rw [zG]
  have m1:=h.m1
  have up:∀ j,j<=m-1->w.2.1.nat^2^j%p≠1:=λj hj e=>by
   have:w.2.1.nat^2^(m-1)%p=1:=by
    rw [show m-1=j+(m-1-j) by omega,Nat.pow_add,Nat.pow_mul,Nat.pow_mod,e,Nat.one_pow,bn (by omega)]
   omega
  have hq:Nat.beq w.2.1.nat 1=false:=by
   cases hq:Nat.beq w.2.1.nat 1
   ·rfl
   ·have:=up 0 (by omega)
    rw [Nat.pow_zero,Nat.pow_one,bn h.t] at this
    exact absurd (aY hq) this
  rw [hq]
  obtain ⟨k1,k2,k3,k4⟩:=ab0 hp m w.2.1 0 h.t
  have e:kF p m w.2.1 0=m:=by
   apply lD
   intro hn
   have:=k3 (by omega)
   rw [Nat.sub_zero] at this
   exact up _ (by omega) this
  rw [e,Nat.beq_refl]
  rfl
end
section
variable {s:Int} (k:aiX s)
include k
def gj (s:Int) (a:ab):Ton:=(lv (pS s) a (iF (Tp (GN s) kp).1),lv (pS s) a (GN s),lv (pS s) ⟨5,0,0,0⟩ (GN s))
theorem akE (a:ab):aG9 (pS s) a.nat (adS s) (gj s a):=by
 have hp:=k.sm
 have pr:=k.pr
 refine ⟨?_,?_,?_,?_,k.ad,?_⟩
 ·show (lv (pS s) a _).nat<_
  rw [jQ hp pr.1];exact Nat.mod_lt _ pr.pos
 ·show (lv (pS s) a _).nat<_
  rw [jQ hp pr.1];exact Nat.mod_lt _ pr.pos
 ·show (lv (pS s) _ _).nat<_
  rw [jQ hp pr.1];exact Nat.mod_lt _ pr.pos
 ·show (lv (pS s) a (iF (Tp (GN s) kp).1)).nat*(lv (pS s) a (iF (Tp (GN s) kp).1)).nat%pS s=a.nat*(lv (pS s) a (GN s)).nat%pS s
  rw [jQ hp pr.1,jQ hp pr.1,<-Nat.mul_mod,Nat.mul_mod_mod,<-Nat.pow_add,<-Nat.two_mul,k.up,Nat.pow_succ,Nat.mul_comm]
 ·show (lv (pS s) ⟨5,0,0,0⟩ (GN s)).nat^_%pS s=pS s-1
  rw [jQ hp pr.1,gL,ahD]
  exact ahC k
theorem aad (a:ab):(gj s a).2.1.nat^2^(adS s-1)%pS s=a.nat^((pS s-1)/2)%pS s:=by
 show (lv (pS s) a (GN s)).nat^_%pS s=_
 rw [jQ k.sm k.pr.1,gL,apX k]
theorem asW {a:Nat} (ha:¬pS s∣a):a^((pS s-1)/2)%pS s=1\/a^((pS s-1)/2)%pS s=pS s-1:=by
 have hf:=FL k.pr ha
 have ho:=k.o2
 have h2:=k.pr.1
 have e:pS s-1=(pS s-1)/2+(pS s-1)/2:=by omega
 rw [e,Nat.pow_add,Nat.mul_mod] at hf
 exact aAA k.pr (Nat.mod_lt _ k.pr.pos) hf
theorem aCX {a:ab} (ha:a.nat<pS s) (hz:bC a=false):(tsF (pS s) (adS s+1) (adS s) (gj s a)).map (zF (pS s))=
 cond (eqE (lv (pS s) a (iF (ng (bB s.toNat).1 kp).1)) kp) (some (zF (pS s) (Mt s a))) none:=by
 have hp:=k.sm
 have pr:=k.pr
 have h2:=pr.1
 have ho:=k.o2
 have h0:=akE k a
 have hpw:=aad k a
 rw [zG,jQ hp h2,k.hf]
 have hn:¬pS s∣a.nat:=λhd=>by
  have:=Nat.eq_zero_of_dvd_of_lt hd ha
  rw [dI,this] at hz
  cases hz
 rcases asW k hn with h|h
 ·rw [h]
  obtain ⟨x,e1,e2,e3⟩:=aoM hp pr (adS s+1) (adS s) _ (by omega) h0 (by rw [hpw];exact h)
  rw [e1]
  obtain ⟨r1,r2⟩:=apw k h
  obtain ⟨v1,v2,v3⟩:=adu hp ho e2
  obtain ⟨w1,w2,w3⟩:=adu hp ho r1
  show some _=some _
  rw [gI (KS pr ho v1 w1 v2 w2 (by rw [v3,w3,e3,r2]))]
 ·have h3:3<=pS s:=by omega
  rw [aCY hp pr h3 h0 (by rw [hpw];exact h),h]
  have:Nat.beq (pS s-1) 1=false:=by
   cases hb:Nat.beq (pS s-1) 1
   ·rfl
   ·have:=aY hb;omega
  rw [this]
  rfl
end
theorem zero_eq {e:ab} (h:bC e=true):e=⟨0,0,0,0⟩:=gI (by rw [dI] at h;rw [aY h];exact ma.symm)
def sqA (s:Int) (x:ab):ab:=ofP (pS s) (Gg (pS s) x (bS s))
def sqB (s:Int) (x:ab):Bool:=eqE (lv (pS s) (sqA s x) (iF (ng (bB s.toNat).1 kp).1)) kp
def sqY (s:Int) (x:ab):ab:=zF (pS s) (Mt s (sqA s x))
def ptD (s:Int) (x:ab) (odd:Bool):Pt:=(x,cond odd (lf (pS s) (sqY s x)) (sqY s x),false)
theorem aF0 {s:Int} (hs:ac s=true) (x:ab):(sqA s x).nat<pS s/\((pS s:Nat):Int)∣((sqA s x).nat:Int)-((x.nat:Int)*x.nat*x.nat+(bS s).nat):=by
 have hp:Sm (pS s):=eP hs
 have e:(sqA s x).nat=(Gg (pS s) x (bS s)).nat%pS s:=cv hp
 have hlt:(Gg (pS s) x (bS s)).nat<pS s:=Ad hp _ _
 rw [e,bn hlt]
 refine ⟨hlt,?_⟩
 have c2:=cf hp x x
 have c3:=cf hp (aR (pS s) x x) x
 have c4:=YO hp (aR (pS s) (aR (pS s) x x) x) (bS s)
 unfold Gg
 generalize aR (pS s) (aR (pS s) x x) x=xxx at*
 generalize aR (pS s) x x=xx at*
 generalize dv (pS s) xxx (bS s)=z at*
 have:(z.nat:Int)-((x.nat:Int)*x.nat*x.nat+(bS s).nat)=((z.nat:Int)-(xxx.nat+(bS s).nat))+(((xxx.nat:Int)-xx.nat*x.nat)+(((xx.nat:Int)-x.nat*x.nat)*x.nat)):=by grind
 rw [this]
 exact Int.dvd_add c4 (Int.dvd_add c3 (Int.dvd_trans c2 (Int.dvd_mul_right ..)))
theorem apk {s:Int} (hs:ac s=true) (x:ab):bC (sqA s x)=false:=by
 have h:=(aF0 hs x).2
 cases hz:bC (sqA s x)
 ·rfl
 ·exfalso
  rw [dI] at hz
  rw [aY hz] at h
  obtain ⟨k,hk⟩:=h
  exact (aD hs).n2 (x.nat:Int) ⟨-k,by rw [Int.mul_neg,<-hk];simp⟩
theorem af0 {s:Int} (hs:ac s=true):sqB s ⟨0,0,0,0⟩=false:=by
 rcases cb hs with rfl|rfl|rfl|rfl<;>decide+kernel
theorem aFY {s:Int} (hs:ac s=true) {x:ab} (h:sqB s x=true):(sqY s x).nat<pS s/\(sqY s x).nat%2=0/\(sqY s x).nat*(sqY s x).nat%pS s=(sqA s x).nat%pS s:=by
 have k:=Ia hs
 unfold sqB at h
 rw [zG,jQ k.sm k.pr.1,k.hf] at h
 obtain ⟨r1,r2⟩:=apw k (aY h)
 obtain ⟨e1,e2,e3⟩:=adu k.sm k.o2 r1
 exact ⟨e1,e2,e3.trans r2⟩
section
variable {s:Int} (hs:ac s=true)
include hs
theorem aAN {X Y:ab}:onB s (X,Y,false)=true ↔ X.nat<pS s/\Y.nat<pS s/\Y.nat*Y.nat%pS s=(sqA s X).nat:=by
 have hp:Sm (pS s):=eP hs
 have e1:(sqA s X).nat=(Gg (pS s) X (bS s)).nat:=by
  show (ofN _).nat=_
  rw [cv hp]
  exact bn (Ad hp _ _)
 rw [e1,<-xb hp]
 unfold onB
 rw [hs]
 simp only [aK,aT]
 rw [asY]
 generalize (Gg (pS s) X (bS s)).nat=A
 generalize (aR (pS s) Y Y).nat=M
 have b1:Nat.blt X.nat (pS s)=true ↔ X.nat<pS s:=⟨λh=>Nat.le_of_ble_eq_true h,λh=>jW h⟩
 have b2:Nat.blt Y.nat (pS s)=true ↔ Y.nat<pS s:=⟨λh=>Nat.le_of_ble_eq_true h,λh=>jW h⟩
 rw [<-b1,<-b2]
 generalize Nat.blt X.nat (pS s)=x
 generalize Nat.blt Y.nat (pS s)=y
 have b3:Nat.beq M A=true ↔ M=A:=⟨aY,λe=>by rw [e,Nat.beq_refl]⟩
 rw [<-b3]
 generalize Nat.beq M A=z
 cases x<;>cases y<;>cases z<;>simp
theorem aGj {y:ab} (hy:y.nat<pS s) (h0:y.nat≠0):(lf (pS s) y).nat=pS s-y.nat:=by
 have hp:Sm (pS s):=eP hs
 rw [show (lf (pS s) y).nat=(pS s-y.nat%pS s)%pS s from cv hp,bn hy,bn (by omega)]
omit hs in
theorem alA {p y:Nat} (hy:y<p):(p-y)*(p-y)%p=y*y%p:=by
 obtain ⟨d,hd⟩:∃ d,p=y+d:=⟨p-y,by omega⟩
 have e2:p-y=d:=by omega
 rw [e2]
 have e3:d*d+p*y=y*y+p*d:=by rw [hd];grind
 have:=congrArg (· %p) e3
 simp only [Nat.add_mul_mod_self_left] at this
 exact this
theorem aw3 (x:ab):(sqA s x).nat≠0:=λh=>by
 have:=apk hs x
 rw [dI,h] at this
 cases this
end
def tF:af:=⟨[aC,dw],[],true,0,false⟩
abbrev WU:Type:=aiF
def ayB:Shape:=⟨126,[eD,jV,uK,(12,gv),CB,(16,Cz),Aj],auY,0,true⟩
abbrev bK:Type:=(Unit×LU)×ap×MV×o7
def ayA:Shape:=⟨126,[eD,jV,uK,(12,gv),CB,(16,Cz),Aj,(18,aC),(19,F3)],auW,0,true⟩
abbrev cA:Type:=(Unit×Unit×Unit×Unit×Unit×Unit×Int×Cr)×auK
def oK:Shape:=⟨126,[eD,jV,uK,(12,gv),CB,(16,Cz),Aj,(18,aC)],auY,0,true⟩
abbrev fR:Type:=(Unit×YS)×ap×MV×o7
def ayH (a17:Int) (a18:Int) (c0:ap) (c1_0:UInt64) (c1_1:UInt64) (c1_2:UInt64) (c1_3:UInt64) (c1_4:Int) (c1_5:UInt64) (c1_6:UInt64) (c1_7:UInt64) (c1_8:UInt64) (c1_9:UInt64) (c1_10:UInt64) (c2:ap) (c3:ap) (c4:ap) (c5:ap) (c6:ap):OT (Sum cA aZ):=
 let z0:Nat:=List.length c6
 let z1:Bool:=decide (4<=z0)
 let z2:UInt64:=List.getD c6 0 0
 let z3:UInt64:=List.getD c6 1 0
 let z4:UInt64:=List.getD c6 2 0
 let z5:UInt64:=List.getD c6 3 0
 let z6:ab:= {w0:=c1_0,w1:=c1_1,w2:=c1_2,w3:=c1_3}
 let z7:ab:= {w0:=z2,w1:=z3,w2:=z4,w3:=z5}
 let z8:ab:=aR (ab.nat z6) z7 z7
 let z9:ap:=List.set (List.set (List.set (List.set c6 0 z8.w0) 1 z8.w1) 2 z8.w2) 3 z8.w3
 (gd [z1,decide (4<=List.length c2)] (.br (!(z2==List.getD c2 0 0&&(z3==List.getD c2 1 0&&(z4==List.getD c2 2 0&&(z5==List.getD c2 3 0&&true)))))
 (.br (decide (a18<a17))
  (gd [z1,z1,gR (((z6,c1_4,c1_5,c1_6,{w0:=c1_7,w1:=c1_8,w2:=c1_9,w3:=c1_10}),z7,z7,()),()),decide ((4/1:Nat)+0<=z0),decide (4<=List.length z9),inR (a18+(1:Int))] (.ok (.inl (((),(),(),(),(),(),a17,a18+(1:Int),(),()),c0,(c1_0,c1_1,c1_2,c1_3,c1_4,c1_5,c1_6,c1_7,c1_8,c1_9,c1_10,()),c2,c3,c4,c5,[List.getD z9 0 0,List.getD z9 1 0,List.getD z9 2 0,List.getD z9 3 0],()))))
  (.ok (.inr ⟨(.exit 2,oK),(((),(),(),(),(),(),a17,a18,()),c0,(c1_0,c1_1,c1_2,c1_3,c1_4,c1_5,c1_6,c1_7,c1_8,c1_9,c1_10,()),c2,c3,c4,c5,())⟩)))
 (.ok (.inr ⟨(.exit 2,oK),(((),(),(),(),(),(),a17,a18,()),c0,(c1_0,c1_1,c1_2,c1_3,c1_4,c1_5,c1_6,c1_7,c1_8,c1_9,c1_10,()),c2,c3,c4,c5,())⟩))))
def G6 (s:cA):OT (Sum cA aZ):=ayH s.1.2.2.2.2.2.2.1 s.1.2.2.2.2.2.2.2.1 s.2.1 s.2.2.1.1 s.2.2.1.2.1 s.2.2.1.2.2.1 s.2.2.1.2.2.2.1 s.2.2.1.2.2.2.2.1 s.2.2.1.2.2.2.2.2.1 s.2.2.1.2.2.2.2.2.2.1 s.2.2.1.2.2.2.2.2.2.2.1 s.2.2.1.2.2.2.2.2.2.2.2.1 s.2.2.1.2.2.2.2.2.2.2.2.2.1 s.2.2.1.2.2.2.2.2.2.2.2.2.2.1 s.2.2.2.1 s.2.2.2.2.1 s.2.2.2.2.2.1 s.2.2.2.2.2.2.1 s.2.2.2.2.2.2.2.1
def ahq (g2_2:cA->fR) (s:cA):OT aZ:=(.ok ⟨(.exit 2,oK),g2_2 s⟩)
def ayz:Shape:=⟨126,[eD,jV,uK,(12,gv),CB,(16,Cz),(18,aC),(20,F3),(97,aC),(98,aC)],auW,0,true⟩
abbrev cz:Type:=(Unit×Unit×Unit×Unit×Unit×Unit×Int×Unit×jR)×auK
def vR:Shape:=⟨126,[eD,jV,uK,(12,gv),CB,(16,Cz),(18,aC),(20,F3)],auW,0,true⟩
abbrev fQ:Type:=(Unit×Unit×Unit×Unit×Unit×Unit×Cr)×auK
def ayG (a18:Int) (a97:Int) (a98:Int) (c0:ap) (c1_0:UInt64) (c1_1:UInt64) (c1_2:UInt64) (c1_3:UInt64) (c1_4:Int) (c1_5:UInt64) (c1_6:UInt64) (c1_7:UInt64) (c1_8:UInt64) (c1_9:UInt64) (c1_10:UInt64) (c2:ap) (c3:ap) (c4:ap) (c5:ap) (c6:ap):OT (Sum cz aZ):=
 let z0:Nat:=List.length c6
 let z1:Bool:=decide (4<=z0)
 let z2:ab:= {w0:=c1_0,w1:=c1_1,w2:=c1_2,w3:=c1_3}
 let z3:ab:= {w0:=List.getD c6 0 0,w1:=List.getD c6 1 0,w2:=List.getD c6 2 0,w3:=List.getD c6 3 0}
 let z4:ab:=aR (ab.nat z2) z3 z3
 (.br (decide (a98<a97))
 (gd [z1,z1,gR (((z2,c1_4,c1_5,c1_6,{w0:=c1_7,w1:=c1_8,w2:=c1_9,w3:=c1_10}),z3,z3,()),()),decide ((4/1:Nat)+0<=z0),inR (a98+(1:Int))] (.ok (.inl (((),(),(),(),(),(),a18,(),a97,a98+(1:Int),()),c0,(c1_0,c1_1,c1_2,c1_3,c1_4,c1_5,c1_6,c1_7,c1_8,c1_9,c1_10,()),c2,c3,c4,c5,List.set (List.set (List.set (List.set c6 0 z4.w0) 1 z4.w1) 2 z4.w2) 3 z4.w3,()))))
 (.ok (.inr ⟨(.exit 4,vR),(((),(),(),(),(),(),a18,(),()),c0,(c1_0,c1_1,c1_2,c1_3,c1_4,c1_5,c1_6,c1_7,c1_8,c1_9,c1_10,()),c2,c3,c4,c5,c6,())⟩)))
def G5 (s:cz):OT (Sum cz aZ):=ayG s.1.2.2.2.2.2.2.1 s.1.2.2.2.2.2.2.2.2.1 s.1.2.2.2.2.2.2.2.2.2.1 s.2.1 s.2.2.1.1 s.2.2.1.2.1 s.2.2.1.2.2.1 s.2.2.1.2.2.2.1 s.2.2.1.2.2.2.2.1 s.2.2.1.2.2.2.2.2.1 s.2.2.1.2.2.2.2.2.2.1 s.2.2.1.2.2.2.2.2.2.2.1 s.2.2.1.2.2.2.2.2.2.2.2.1 s.2.2.1.2.2.2.2.2.2.2.2.2.1 s.2.2.1.2.2.2.2.2.2.2.2.2.2.1 s.2.2.2.1 s.2.2.2.2.1 s.2.2.2.2.2.1 s.2.2.2.2.2.2.1 s.2.2.2.2.2.2.2.1
def ahp (g4_4:cz->fQ) (s:cz):OT aZ:=(.ok ⟨(.exit 4,vR),g4_4 s⟩)
def mg:Shape:=⟨126,[eD,(5,aC)],[iI],0,true⟩
abbrev j9:Type:=rE×uA
def oL:Shape:=⟨126,[eD,jV,(16,fE)],[iI,(1,Pd),lB],0,true⟩
abbrev mK:Type:=nW×ap×MV×uA
def RR (ok2:cA->Bool) (g2_2:cA->fR) (ok4:cz->Bool) (g4_4:cz->fQ) (a17:Int) (c0:ap) (c1_0:UInt64) (c1_1:UInt64) (c1_2:UInt64) (c1_3:UInt64) (c1_4:Int) (c1_5:UInt64) (c1_6:UInt64) (c1_7:UInt64) (c1_8:UInt64) (c1_9:UInt64) (c1_10:UInt64) (c2:ap) (c3:ap) (c4:ap) (c5:ap):OT (Sum bK aZ):=
 let z0:Bool:=decide (4<=List.length c4)
 let z1:UInt64:=List.getD c4 0 0
 let z2:UInt64:=List.getD c4 1 0
 let z3:UInt64:=List.getD c4 2 0
 let z4:UInt64:=List.getD c4 3 0
 let z5:cA:=(((),(),(),(),(),(),a17,(0:Int),(),()),c0,(c1_0,c1_1,c1_2,c1_3,c1_4,c1_5,c1_6,c1_7,c1_8,c1_9,c1_10,()),c2,c3,c4,c5,[z1,z2,z3,z4],())
 let z6:fR:=g2_2 z5
 let z7:=z6.fst.snd.snd.snd.snd.snd.snd
 let z8:=z7.snd.fst
 let z9:=z7.fst
 let z10:=z6.snd
 let z11:=z10.fst
 let z12:=z10.snd
 let z13:=z12.snd
 let z14:=z13.snd
 let z15:=z14.fst
 let z16:Int:=z9-z8
 let z17:=z12.fst
 let z18:=z17.snd
 let z19:=z18.snd
 let z20:=z19.snd
 let z21:=z20.snd
 let z22:=z21.snd
 let z23:=z22.snd
 let z24:=z23.snd
 let z25:=z24.snd
 let z26:=z25.snd
 let z27:=z14.snd
 let z28:cz:=(((),(),(),(),(),(),z8,(),z16-(1:Int),(0:Int),()),z11,(z17.fst,z18.fst,z19.fst,z20.fst,z21.fst,z22.fst,z23.fst,z24.fst,z25.fst,z26.fst,z26.snd.fst,()),z13.fst,z15,z27.fst,z27.snd.fst,[List.getD z15 0 0,List.getD z15 1 0,List.getD z15 2 0,List.getD z15 3 0],())
 let z29:fQ:=g4_4 z28
 let z30:=z29.snd
 let z31:=z30.snd
 let z32:=z31.snd
 let z33:=z32.snd
 let z34:=z33.snd
 let z35:=z34.snd
 let z36:=z35.snd.fst
 let z37:Bool:=decide (4<=List.length z36)
 let z38:=z31.fst
 let z39:=z38.fst
 let z40:=z38.snd
 let z41:=z40.fst
 let z42:=z40.snd
 let z43:=z42.fst
 let z44:=z42.snd
 let z45:=z44.fst
 let z46:ab:= {w0:=z39,w1:=z41,w2:=z43,w3:=z45}
 let z47:=z44.snd
 let z48:=z47.fst
 let z49:=z47.snd
 let z50:=z49.fst
 let z51:=z49.snd
 let z52:=z51.fst
 let z53:=z51.snd
 let z54:=z53.fst
 let z55:=z53.snd
 let z56:=z55.fst
 let z57:=z55.snd
 let z58:=z57.fst
 let z59:=z57.snd.fst
 let z60:iW:=(z46,z48,z50,z52,{w0:=z54,w1:=z56,w2:=z58,w3:=z59})
 let z61:ab:= {w0:=List.getD z36 0 0,w1:=List.getD z36 1 0,w2:=List.getD z36 2 0,w3:=List.getD z36 3 0}
 let z62:rD:=(z61,())
 let z63:=z33.fst
 let z64:=z34.fst
 let z65:Nat:=List.length z64
 let z66:Nat:=ab.nat z46
 let z67:ab:=aR z66 z61 z61
 let z68:ap:=List.set (List.set (List.set (List.set z63 0 z67.w0) 1 z67.w1) 2 z67.w2) 3 z67.w3
 let z69:ab:= {w0:=List.getD z64 0 0,w1:=List.getD z64 1 0,w2:=List.getD z64 2 0,w3:=List.getD z64 3 0}
 let z70:ab:= {w0:=List.getD z68 0 0,w1:=List.getD z68 1 0,w2:=List.getD z68 2 0,w3:=List.getD z68 3 0}
 let z71:=z35.fst
 let z72:Nat:=List.length z71
 let z73:ab:= {w0:=List.getD z71 0 0,w1:=List.getD z71 1 0,w2:=List.getD z71 2 0,w3:=List.getD z71 3 0}
 let z74:ab:=aR z66 z69 z70
 let z75:ab:=aR z66 z73 z61
 (gd [z0,decide (4<=List.length c2)] (.br (!(z1==List.getD c2 0 0&&(z2==List.getD c2 1 0&&(z3==List.getD c2 2 0&&(z4==List.getD c2 3 0&&true)))))
 (gd [z0,ok2 z5] (.br (z8==z9)
  (gd [decide (4<=List.length z11)] (.ok (.inr ⟨(.ret,mg),(((),(22:Int),()),List.set (List.set (List.set (List.set z11 0 (0:UInt64)) 1 (0:UInt64)) 2 (0:UInt64)) 3 (0:UInt64),())⟩)))
  (gd [decide (4<=List.length z15),inR z16,inR (z16-(1:Int)),ok4 z28,z37,z37,gR ((z60,z61,z62),()),decide ((4/1:Nat)+0<=List.length z63),decide (4<=z65),decide (4<=List.length z68),gR ((z60,z69,z70,()),()),decide ((4/1:Nat)+0<=z65),decide (4<=z72),z37,gR ((z60,z73,z62),()),decide ((4/1:Nat)+0<=z72)] (.ok (.inl (((),(),(),(),(),(),z29.fst.snd.snd.snd.snd.snd.snd.fst,()),z30.fst,(z39,z41,z43,z45,z48,z50,z52,z54,z56,z58,z59,()),z32.fst,z68,List.set (List.set (List.set (List.set z64 0 z74.w0) 1 z74.w1) 2 z74.w2) 3 z74.w3,List.set (List.set (List.set (List.set z71 0 z75.w0) 1 z75.w1) 2 z75.w2) 3 z75.w3,()))))))
 (.ok (.inr ⟨(.exit 0,oL),(((),(),(),()),c0,(c1_0,c1_1,c1_2,c1_3,c1_4,c1_5,c1_6,c1_7,c1_8,c1_9,c1_10,()),c5,())⟩))))
def BO (ok2:cA->Bool) (g2_2:cA->fR) (ok4:cz->Bool) (g4_4:cz->fQ) (s:bK):OT (Sum bK aZ):=RR ok2 g2_2 ok4 g4_4 s.1.2.2.2.2.2.2.1 s.2.1 s.2.2.1.1 s.2.2.1.2.1 s.2.2.1.2.2.1 s.2.2.1.2.2.2.1 s.2.2.1.2.2.2.2.1 s.2.2.1.2.2.2.2.2.1 s.2.2.1.2.2.2.2.2.2.1 s.2.2.1.2.2.2.2.2.2.2.1 s.2.2.1.2.2.2.2.2.2.2.2.1 s.2.2.1.2.2.2.2.2.2.2.2.2.1 s.2.2.1.2.2.2.2.2.2.2.2.2.2.1 s.2.2.2.1 s.2.2.2.2.1 s.2.2.2.2.2.1 s.2.2.2.2.2.2.1
def ahr (g0_r:bK->j9) (c0_r:bK->Bool) (g0_0:bK->mK) (s:bK):OT aZ:=(.br (c0_r s) (.ok ⟨(.ret,mg),g0_r s⟩) (.ok ⟨(.exit 0,oL),g0_0 s⟩))
def ff:aL:=⟨kZ,[],false⟩
def Kq (ok2:cA->Bool) (g2_2:cA->fR) (ok4:cz->Bool) (g4_4:cz->fQ) (ok0:bK->Bool) (g0_r:bK->j9) (c0_r:bK->Bool) (g0_0:bK->mK) (a0:Int) (a1:ab):OT tF.Y:=
 let z0:iW:=bB (Int.toNat a0)
 let z1:=z0.fst
 let z2:ab:=ofN (ab.nat a1%ab.nat z1)
 let z3:ab:= {w0:=1,w1:=0,w2:=0,w3:=0}
 let z4:=(ng z1 z3).fst
 let z5:=z0.snd
 let z6:=z5.fst
 let z7:ab:= {w0:=5,w1:=0,w2:=0,w3:=0}
 let z8:ab:=jt z4 (Int.toNat z6)
 let z9:rD:=(z8,())
 let z10:ab:=iF (Tp z8 z3).fst
 let z11:=z5.snd
 let z12:=z11.snd
 let z13:=z12.snd
 let z14:Nat:=pS a0
 let z15:ab:=lv z14 z7 z8
 let z16:ab:=lv z14 z2 z8
 let z17:ab:=lv z14 z2 z10
 let z18:bK:=(((),(),(),(),(),(),z6,()),[(0:UInt64),(0:UInt64),(0:UInt64),(0:UInt64)],(z1.w0,z1.w1,z1.w2,z1.w3,z6,z11.fst,z12.fst,z13.w0,z13.w1,z13.w2,z13.w3,()),[(1:UInt64),(0:UInt64),(0:UInt64),(0:UInt64)],[z15.w0,z15.w1,z15.w2,z15.w3],[z16.w0,z16.w1,z16.w2,z16.w3],[z17.w0,z17.w1,z17.w2,z17.w3],())
 let z19:j9:=g0_r z18
 let z20:=z19.snd.fst
 let z21:=(g0_0 z18).snd
 let z22:=z21.snd
 let z23:=z22.snd.fst
 let z24:Nat:=List.length z23
 let z25:UInt64:=List.getD z23 0 0
 let z26:Bool:=decide (4<=z24)
 let z27:=z22.fst
 let z28:=z27.snd
 let z29:=z28.snd
 let z30:=z29.snd
 let z31:ab:= {w0:=z27.fst,w1:=z28.fst,w2:=z29.fst,w3:=z30.fst}
 let z32:=z30.snd
 let z33:=z32.snd
 let z34:=z33.snd
 let z35:=z34.snd
 let z36:=z35.snd
 let z37:=z36.snd
 let z38:ab:= {w0:=z25,w1:=List.getD z23 1 0,w2:=List.getD z23 2 0,w3:=List.getD z23 3 0}
 let z39:ab:=lf (ab.nat z31) z38
 let z40:ap:=List.set (List.set (List.set (List.set z23 0 z39.w0) 1 z39.w1) 2 z39.w2) 3 z39.w3
 let z41:=z21.fst
 let z42:Nat:=List.length z41
 let z43:ap:=lay z41 z40 4 (0:UInt64)
 let z44:ap:=lay z41 z23 4 (0:UInt64)
 (.br (ac a0)
 (gd [il ((z0,a1,()),())] (.br (z2.w0==(0:UInt64)&&(z2.w1==(0:UInt64)&&(z2.w2==(0:UInt64)&&(z2.w3==(0:UInt64)&&true))))
  (.ok ⟨ff,((z2,(0:Int),()),())⟩)
  (gd [qF ((z4,z6,()),()),oP ((a0,z7,z9),()),oP ((a0,z2,z9),()),oP ((a0,z2,z10,()),()),ok0 z18] (.br (c0_r z18)
   (gd [decide (4<=List.length z20)] (.ok ⟨ff,(({w0:=List.getD z20 0 0,w1:=List.getD z20 1 0,w2:=List.getD z20 2 0,w3:=List.getD z20 3 0},z19.fst.snd.fst,()),())⟩))
   (gd [decide (0<z24)] (.br (z25&&&(1:UInt64)==(1:UInt64))
    (gd [z26,BX (((z31,z32.fst,z33.fst,z34.fst,{w0:=z35.fst,w1:=z36.fst,w2:=z37.fst,w3:=z37.snd.fst}),z38,()),()),decide ((4/1:Nat)+0<=z24),decide (4<=List.length z40),decide ((4/1:Nat)+0<=z42),decide (4<=List.length z43)] (.ok ⟨ff,(({w0:=List.getD z43 0 0,w1:=List.getD z43 1 0,w2:=List.getD z43 2 0,w3:=List.getD z43 3 0},(0:Int),()),())⟩))
    (gd [z26,decide ((4/1:Nat)+0<=z42),decide (4<=List.length z44)] (.ok ⟨ff,(({w0:=List.getD z44 0 0,w1:=List.getD z44 1 0,w2:=List.getD z44 2 0,w3:=List.getD z44 3 0},(0:Int),()),())⟩))))))))
 (.ok ⟨ff,(({w0:=0,w1:=0,w2:=0,w3:=0},(20:Int),()),())⟩))
theorem amp (ok2:cA->Bool) (g2_2:cA->fR) (ok4:cz->Bool) (g4_4:cz->fQ) (ok0:bK->Bool) (g0_r:bK->j9) (c0_r:bK->Bool) (g0_0:bK->mK) (h2:bh G6 ok2 (ahq g2_2)) (h4:bh G5 ok4 (ahp g4_4)) (h0:bh (BO ok2 g2_2 ok4 g4_4) ok0 (ahr g0_r c0_r g0_0)) (pre:WU->Bool) (F:WU->OT tF.Y) (hF:∀ (x:WU) oy,pre x=true->(F x).run=some oy->(Kq ok2 g2_2 ok4 g4_4 ok0 g0_r c0_r g0_0 x.1.1 x.1.2.1).run=some oy):aa aj 151 (tF.az pre F):=
 di uN 151 Tryz.f151 tF [ff] (lg uN 0 ayB [(0,oL)] (some mg) none (BO ok2 g2_2 ok4 g4_4) (lg uN 4 ayz [(4,vR)] none none G5 bD h4 (lg uN 2 ayA [(2,oK)] none none G6 bD h2 bD)) h0 bD) (λx=>Kq ok2 g2_2 ok4 g4_4 ok0 g0_r c0_r g0_0 x.1.1 x.1.2.1) hF
abbrev C11:Type:=MV
def pe (c:C11):MX:=(⟨c.1,c.2.1,c.2.2.1,c.2.2.2.1⟩,c.2.2.2.2.1,c.2.2.2.2.2.1,c.2.2.2.2.2.2.1,⟨c.2.2.2.2.2.2.2.1,c.2.2.2.2.2.2.2.2.1,c.2.2.2.2.2.2.2.2.2.1,c.2.2.2.2.2.2.2.2.2.2.1⟩)
def kQ (s:cA):Bool:=lk (pe s.2.2.1)&&decide ((0<=s.1.2.2.2.2.2.2.1/\s.1.2.2.2.2.2.2.1<=1000)/\s.1.2.2.2.2.2.2.2.1=0/\s.2.2.2.1= [1,0,0,0]/\s.2.2.2.2.2.2.2.1.length=4)
def qA (s:cA):fR:=(((),(),(),(),(),(),s.1.2.2.2.2.2.2.1,(kF (pe s.2.2.1).1.nat s.1.2.2.2.2.2.2.1.toNat (elemOf s.2.2.2.2.2.2.2.1) 0:Int),()),s.2.1,s.2.2.1,s.2.2.2.1,s.2.2.2.2.1,s.2.2.2.2.2.1,s.2.2.2.2.2.2.1,())
def aaz (c0:ap) (C:C11) (z t x:ap) (m k:Int) (u:ab):cA:=(((),(),(),(),(),(),m,k,(),()),c0,C,lst kp,z,t,x,lst u,())
theorem afY (c0:ap) (C:C11) (z t x:ap) (m:Nat) (hC:lk (pe C)=true) (hm:m<=1000):∀ (n k:Nat) (u:ab),k+n=m->
 ∃ j,cW G6 j (aaz c0 C z t x (m:Int) (k:Int) u)=some ⟨(.exit 2,oK),(((),(),(),(),(),(),(m:Int),(kF (pe C).1.nat n u k:Int),()),c0,C,lst kp,z,t,x,())⟩
 |0,k,u,h=>by
  refine ⟨1,aV ?_⟩
  refine (ae rfl).trans ?_
  rcases (b9 (eqE u kp)).symm with hq|hq
  ·exact (OT.ak (b:= !eqE u kp) (by rw [hq];rfl)).trans (OT.au (bq (by dsimp only [aaz];omega)))
  ·exact OT.au (b:= !eqE u kp) (by rw [hq];rfl)
 |n+1,k,u,h=>by
  unfold kF
  rcases (b9 (eqE u kp)).symm with hq|hq
  ·rw [hq]
   obtain ⟨j,hj⟩:=afY c0 C z t x m hC hm n (k+1) (aR (pe C).1.nat u u) (by omega)
   refine ⟨j+1,bN ?_ hj⟩
   refine (ae rfl).trans ((OT.ak (b:= !eqE u kp) (by rw [hq];rfl)).trans ((OT.ak (ag (by dsimp only [aaz];omega))).trans ((ae ?_).trans rfl)))
   simp only [aA,aI,aJ,aw]
   exact ⟨rfl,rfl,hC,rfl,rfl,aS (by dsimp only [aaz];omega)⟩
  ·rw [hq]
   refine ⟨1,aV ?_⟩
   exact (ae rfl).trans (OT.au (b:= !eqE u kp) (by rw [hq];rfl))
theorem ayE:bh G6 kQ (ahq qA):=by
 rintro ⟨⟨⟨⟩,⟨⟩,⟨⟩,⟨⟩,⟨⟩,⟨⟩,m,k,⟨⟩,⟨⟩⟩,⟨c0,C,one,z,t,x,u,⟨⟩⟩⟩ h
 simp only [kQ,aw,decide_eq_true_eq] at h
 obtain ⟨hC,⟨h0,h1⟩,rfl,rfl,hu⟩:=h
 obtain ⟨v,rfl⟩:∃ a,u=lst a:=⟨elemOf u,(cP hu).symm⟩
 obtain ⟨n,rfl⟩:∃ n:Nat,m=(n:Int):=⟨m.toNat,by omega⟩
 obtain ⟨j,hj⟩:=afY c0 C z t x n hC (by omega) n 0 v (by omega)
 exact ⟨j,_,hj,rfl⟩
def kP (s:cz):Bool:=lk (pe s.2.2.1)&&decide ((0<=s.1.2.2.2.2.2.2.2.2.1/\s.1.2.2.2.2.2.2.2.2.1<=1000)/\s.1.2.2.2.2.2.2.2.2.2.1=0/\s.2.2.2.2.2.2.2.1.length=4)
def qy (s:cz):fQ:=(((),(),(),(),(),(),s.1.2.2.2.2.2.2.1,(),()),s.2.1,s.2.2.1,s.2.2.2.1,s.2.2.2.2.1,s.2.2.2.2.2.1,s.2.2.2.2.2.2.1,lst (sqN (pe s.2.2.1).1.nat (elemOf s.2.2.2.2.2.2.2.1) s.1.2.2.2.2.2.2.2.2.1.toNat),())
theorem ayD:bh G5 kP (ahp qy):=by
 rintro ⟨⟨⟨⟩,⟨⟩,⟨⟩,⟨⟩,⟨⟩,⟨⟩,k,⟨⟩,n,i,⟨⟩⟩,⟨c0,C,one,z,t,x,u,⟨⟩⟩⟩ h
 simp only [kP,aw,decide_eq_true_eq] at h
 obtain ⟨hC,⟨h0,h1⟩,rfl,hu⟩:=h
 obtain ⟨v,rfl⟩:∃ a,u=lst a:=⟨elemOf u,(cP hu).symm⟩
 obtain ⟨d,rfl⟩:∃ d:Nat,n=(d:Int):=⟨n.toNat,by omega⟩
 have:=(bf (T:=G5) (λi u=>((((),(),(),(),(),(),k,(),(d:Int),(i:Int),()),c0,C,one,z,t,x,lst u,()):cz)) (λ_ e=>aR (pe C).1.nat e e)
  (λu=>(⟨(.exit 4,vR),(((),(),(),(),(),(),k,(),()),c0,C,one,z,t,x,lst u,())⟩:aZ)) d v (λ_ _=>True) trivial (λi u hi _=>⟨?_,trivial⟩) (λu _=> ?_)).1
 ·obtain ⟨m,hm⟩:=this
  exact ⟨m,_,hm,rfl⟩
 ·refine (OT.ak (ag (by dsimp only;omega))).trans ((ae ?_).trans rfl)
  simp only [aA,aI,aJ,aw]
  exact ⟨rfl,rfl,hC,rfl,aS (by omega)⟩
 ·exact OT.au (bq (by dsimp only;omega))
def aDp (c0:ab) (C:C11) (m:Int) (w:Ton):bK:=(((),(),(),(),(),(),m,()),lst c0,C,lst kp,lst w.2.2,lst w.2.1,lst w.1,())
theorem aDo {ok2:cA->Bool} {g2:cA->fR} {ok4:cz->Bool} {g4:cz->fQ} {c0:ab} {C:C11} {m k:Nat} {w:Ton} {b:ab} (hC:lk (pe C)=true) (hm:m<=1000) (hq:eqE w.2.1 kp=false)
 (h2:ok2 (aaz (lst c0) C (lst w.2.2) (lst w.2.1) (lst w.1) (m:Int) 0 w.2.1)=true)
 (e2:g2 (aaz (lst c0) C (lst w.2.2) (lst w.2.1) (lst w.1) (m:Int) 0 w.2.1)=(((),(),(),(),(),(),(m:Int),(k:Int),()),lst c0,C,lst kp,lst w.2.2,lst w.2.1,lst w.1,())) (hk:k<=m)
 (h4:k<m->ok4 (((),(),(),(),(),(),(k:Int),(),(m:Int)-(k:Int)-1,0,()),lst c0,C,lst kp,lst w.2.2,lst w.2.1,lst w.1,lst w.2.2,())=true)
 (e4:g4 (((),(),(),(),(),(),(k:Int),(),(m:Int)-(k:Int)-1,0,()),lst c0,C,lst kp,lst w.2.2,lst w.2.1,lst w.1,lst w.2.2,())=(((),(),(),(),(),(),(k:Int),(),()),lst c0,C,lst kp,lst w.2.2,lst w.2.1,lst w.1,lst b,())):
 (BO ok2 g2 ok4 g4 (aDp c0 C (m:Int) w)).run=cond (Nat.beq k m) (some (.inr ⟨(.ret,mg),(((),(22:Int),()),lst ⟨0,0,0,0⟩,())⟩))
  (some (.inl (aDp c0 C (k:Int) (aR (pe C).1.nat w.1 b,aR (pe C).1.nat w.2.1 (aR (pe C).1.nat b b),aR (pe C).1.nat b b)))):=by
 obtain ⟨x,t,z⟩:=w
 unfold aaz at h2 e2
 have hb:∀ e:ab,[List.getD (lst e) 0 0,List.getD (lst e) 1 0,List.getD (lst e) 2 0,List.getD (lst e) 3 0]=lst e:=λ_=>rfl
 have hpre:∀ a c:ab,gR ((pe C,a,c,()),())=true:=λ_ _=>hC
 have e2':g2 (((),(),(),(),(),(),(m:Int),0,(),()),lst c0,(C.1,C.2.1,C.2.2.1,C.2.2.2.1,C.2.2.2.2.1,C.2.2.2.2.2.1,C.2.2.2.2.2.2.1,C.2.2.2.2.2.2.2.1,C.2.2.2.2.2.2.2.2.1,C.2.2.2.2.2.2.2.2.2.1,C.2.2.2.2.2.2.2.2.2.2.1,()),lst kp,lst z,lst t,lst x,lst t,())=(((),(),(),(),(),(),(m:Int),(k:Int),()),lst c0,C,lst kp,lst z,lst t,lst x,()):=e2
 have e4':g4 (((),(),(),(),(),(),(k:Int),(),(m:Int)-(k:Int)-1,0,()),lst c0,(C.1,C.2.1,C.2.2.1,C.2.2.2.1,C.2.2.2.2.1,C.2.2.2.2.2.1,C.2.2.2.2.2.2.1,C.2.2.2.2.2.2.2.1,C.2.2.2.2.2.2.2.2.1,C.2.2.2.2.2.2.2.2.2.1,C.2.2.2.2.2.2.2.2.2.2.1,()),lst kp,lst z,lst t,lst x,lst z,())=(((),(),(),(),(),(),(k:Int),(),()),lst c0,C,lst kp,lst z,lst t,lst x,lst b,()):=e4
 show (RR ok2 g2 ok4 g4 (m:Int) (lst c0) C.1 C.2.1 C.2.2.1 C.2.2.2.1 C.2.2.2.2.1 C.2.2.2.2.2.1 C.2.2.2.2.2.2.1 C.2.2.2.2.2.2.2.1 C.2.2.2.2.2.2.2.2.1 C.2.2.2.2.2.2.2.2.2.1 C.2.2.2.2.2.2.2.2.2.2.1 (lst kp) (lst z) (lst t) (lst x)).run=_
 unfold RR
 simp only [hb,e2',e4']
 refine (ae rfl).trans ((OT.ak (b:= !eqE t kp) (by rw [hq];rfl)).trans ((ae ?_).trans ?_))
 ·simp only [aA,aI,aJ,aw]
  exact ⟨rfl,h2⟩
 ·by_cases h:k=m
  ·subst h
   rw [Nat.beq_refl]
   refine (OT.ak (beq_self_eq_true _)).trans ((ae rfl).trans rfl)
  ·have hn:Nat.beq k m=false:=by
    cases hb:Nat.beq k m
    ·rfl
    ·exact absurd (aY hb) h
   rw [hn]
   refine (OT.au ?_).trans ((ae ?_).trans rfl)
   ·exact beq_false_of_ne (λe=>h (by omega))
   ·simp only [aA,aI,aJ,aw]
    exact ⟨rfl,aS (by omega),aS (by omega),h4 (by omega),rfl,rfl,hC,rfl,rfl,rfl,hC,rfl,rfl,rfl,hC,rfl⟩
def aFZ (c0:ab) (C:C11):Option ab->aZ
 |some x=>⟨(.exit 0,oL),(((),(),(),()),lst c0,C,lst x,())⟩
 |none=>⟨(.ret,mg),(((),(22:Int),()),lst ⟨0,0,0,0⟩,())⟩
theorem afZ (c0:ab) (C:C11) (hC:lk (pe C)=true):∀ (f m:Nat) (w:Ton),m<f->m<=1000->
 ∃ j,cW (BO kQ qA kP qy) j (aDp c0 C (m:Int) w)=some (aFZ c0 C (tsF (pe C).1.nat f m w))
 |0,m,w,h,_=>absurd h (Nat.not_lt_zero _)
 |f+1,m,w,hf,hm=>by
  unfold tsF
  rcases (b9 (eqE w.2.1 kp)).symm with hq|hq
  ·rw [hq]
   simp only [aT]
   have hk:kF (pe C).1.nat m w.2.1 0<=m:=by
    have key:∀ (n:Nat) (s:ab) (k:Nat),kF (pe C).1.nat n s k<=k+n:=by
     intro n
     induction n with
     |zero=>intro s k;exact Nat.le_refl _
     |succ n ih=>
      intro s k
      unfold kF
      cases eqE s kp
      ·have:=ih (aR (pe C).1.nat s s) (k+1)
       simp only [aT]
       omega
      ·simp only [aK]
       omega
    have:=key m w.2.1 0
    omega
   have hst:=aDo (ok2:=kQ) (g2:=qA) (ok4:=kP) (g4:=qy) (c0:=c0) (C:=C) (m:=m) (k:=kF (pe C).1.nat m w.2.1 0) (w:=w) (b:=tsB (pe C).1.nat m (kF (pe C).1.nat m w.2.1 0) w) hC hm hq
    (by
     refine (aw _ _).mpr ⟨hC,ag ⟨⟨?_,?_⟩,rfl,rfl,rfl⟩⟩
     ·show (0:Int)<=(m:Int);omega
     ·show (m:Int)<=1000;omega) rfl hk
    (λhlt=>by
     refine (aw _ _).mpr ⟨hC,ag ⟨⟨?_,?_⟩,rfl,rfl⟩⟩
     ·show (0:Int)<=(m:Int)-(kF (pe C).1.nat m w.2.1 0:Int)-1;omega
     ·show (m:Int)-(kF (pe C).1.nat m w.2.1 0:Int)-1<=1000;omega)
    (by
     have e:((m:Int)-(kF (pe C).1.nat m w.2.1 0:Int)-1).toNat=m-kF (pe C).1.nat m w.2.1 0-1:=by omega
     show (((),(),(),(),(),(),(kF (pe C).1.nat m w.2.1 0:Int),(),()),lst c0,C,lst kp,lst w.2.2,lst w.2.1,lst w.1,lst (sqN (pe C).1.nat w.2.2 ((m:Int)-(kF (pe C).1.nat m w.2.1 0:Int)-1).toNat),())=_
     rw [e]
     rfl)
   cases hb:Nat.beq (kF (pe C).1.nat m w.2.1 0) m
   ·rw [hb] at hst
    have hne:=yG hb
    obtain ⟨j,hj⟩:=afZ c0 C hC f (kF (pe C).1.nat m w.2.1 0) (tsW (pe C).1.nat m (kF (pe C).1.nat m w.2.1 0) w) (by omega) (by omega)
    exact ⟨j+1,bN hst hj⟩
   ·rw [hb] at hst
    exact ⟨1,aV hst⟩
  ·rw [hq]
   simp only [aK]
   refine ⟨1,aV ?_⟩
   exact (ae rfl).trans (OT.au (b:= !eqE w.2.1 kp) (by rw [hq];rfl))
def tE (s:bK):Option ab:=tsF (pe s.2.2.1).1.nat (s.1.2.2.2.2.2.2.1.toNat+1) s.1.2.2.2.2.2.2.1.toNat (elemOf s.2.2.2.2.2.2.1,elemOf s.2.2.2.2.2.1,elemOf s.2.2.2.2.1)
def oJ (s:bK):Bool:=lk (pe s.2.2.1)&&decide ((0<=s.1.2.2.2.2.2.2.1/\s.1.2.2.2.2.2.2.1<=1000)/\s.2.1.length=4/\s.2.2.2.1= [1,0,0,0]/\s.2.2.2.2.1.length=4/\s.2.2.2.2.2.1.length=4/\s.2.2.2.2.2.2.1.length=4)
def G4 (s:bK):Bool:=(tE s).isNone
def BN (_:bK):j9:=(((),(22:Int),()),lst ⟨0,0,0,0⟩,())
def G3 (s:bK):mK:=(((),(),(),()),s.2.1,s.2.2.1,lst ((tE s).getD ⟨0,0,0,0⟩),())
theorem ayF:bh (BO kQ qA kP qy) oJ (ahr BN G4 G3):=by
 rintro ⟨⟨⟨⟩,⟨⟩,⟨⟩,⟨⟩,⟨⟩,⟨⟩,m,⟨⟩⟩,⟨c0,C,one,z,t,x,⟨⟩⟩⟩ h
 simp only [oJ,aw,decide_eq_true_eq] at h
 obtain ⟨hC,⟨h0,h1⟩,hc,rfl,hz,ht,hx⟩:=h
 obtain ⟨c,rfl⟩:∃ a,c0=lst a:=⟨elemOf c0,(cP hc).symm⟩
 obtain ⟨Z,rfl⟩:∃ a,z=lst a:=⟨elemOf z,(cP hz).symm⟩
 obtain ⟨T,rfl⟩:∃ a,t=lst a:=⟨elemOf t,(cP ht).symm⟩
 obtain ⟨X,rfl⟩:∃ a,x=lst a:=⟨elemOf x,(cP hx).symm⟩
 obtain ⟨n,rfl⟩:∃ n:Nat,m=(n:Int):=⟨m.toNat,by omega⟩
 obtain ⟨j,hj⟩:=afZ c C hC (n+1) n (X,T,Z) (by omega) (by omega)
 refine ⟨j,_,hj,?_⟩
 show (OT.br (tsF (pe C).1.nat (n+1) n (X,T,Z)).isNone (.ok ⟨(.ret,mg),_⟩) (.ok ⟨(.exit 0,oL),(((),(),(),()),lst c,C,lst ((tsF (pe C).1.nat (n+1) n (X,T,Z)).getD ⟨0,0,0,0⟩),())⟩):OT aZ).run=some (aFZ c C (tsF (pe C).1.nat (n+1) n (X,T,Z)))
 cases tsF (pe C).1.nat (n+1) n (X,T,Z)<;>rfl
def WT (_:WU):Bool:=true
def ar6 (x:WU):OT tF.Y:=.br (ac x.1.1) (.br (bC (ofP (pS x.1.1) x.1.2.1)) (.ok ⟨ff,((⟨0,0,0,0⟩,(0:Int),()),())⟩)
 (.br (eqE (lv (pS x.1.1) (ofP (pS x.1.1) x.1.2.1) (iF (ng (bB x.1.1.toNat).1 kp).1)) kp) (.ok ⟨ff,((zF (pS x.1.1) (Mt x.1.1 (ofP (pS x.1.1) x.1.2.1)),(0:Int),()),())⟩) (.ok ⟨ff,((⟨0,0,0,0⟩,(22:Int),()),())⟩)))
 (.ok ⟨ff,((⟨0,0,0,0⟩,(20:Int),()),())⟩)
def aIA (n:MX):C11:=(n.1.w0,n.1.w1,n.1.w2,n.1.w3,n.2.1,n.2.2.1,n.2.2.2.1,n.2.2.2.2.w0,n.2.2.2.2.w1,n.2.2.2.2.w2,n.2.2.2.2.w3,())
abbrev Uq (n:MX) (z t x:ab):bK:=(((),(),(),(),(),(),n.2.1,()),[0,0,0,0],(n.1.w0,n.1.w1,n.1.w2,n.1.w3,n.2.1,n.2.2.1,n.2.2.2.1,n.2.2.2.2.w0,n.2.2.2.2.w1,n.2.2.2.2.w2,n.2.2.2.2.w3,()),[1,0,0,0],[z.w0,z.w1,z.w2,z.w3],[t.w0,t.w1,t.w2,t.w3],[x.w0,x.w1,x.w2,x.w3],())
theorem amq {ok2:cA->Bool} {g2:cA->fR} {ok4:cz->Bool} {g4:cz->fQ} {ok0:bK->Bool} {g0r:bK->j9} {c0:bK->Bool} {g0:bK->mK} {s:Int} {a A z t x X:ab} {c:Bool}
 (hs:ac s=true) (k:aiX s) (hA:ofN (a.nat%(bB s.toNat).1.nat)=A) (hz:bC A=false) (ez:lv (pS s) ⟨5,0,0,0⟩ (GN s)=z) (et:lv (pS s) A (GN s)=t) (ex:lv (pS s) A (iF (Tp (GN s) kp).1)=x)
 (h0:ok0 (Uq (bB s.toNat) z t x)=true) (hc:c0 (Uq (bB s.toNat) z t x)=c) (er:g0r (Uq (bB s.toNat) z t x)=(((),(22:Int),()),lst ⟨0,0,0,0⟩,()))
 (e0:g0 (Uq (bB s.toNat) z t x)=(((),(),(),()),lst ⟨0,0,0,0⟩,aIA (bB s.toNat),lst X,())):
 (Kq ok2 g2 ok4 g4 ok0 g0r c0 g0 s a).run=cond c (some ⟨ff,((⟨0,0,0,0⟩,(22:Int),()),())⟩) (some ⟨ff,((zF (pS s) X,(0:Int),()),())⟩):=by
 have ez':lv (pS s) ⟨5,0,0,0⟩ (jt (ng (bB s.toNat).1 ⟨1,0,0,0⟩).1 (bB s.toNat).2.1.toNat)=z:=ez
 have et':lv (pS s) A (jt (ng (bB s.toNat).1 ⟨1,0,0,0⟩).1 (bB s.toNat).2.1.toNat)=t:=et
 have ex':lv (pS s) A (iF (Tp (jt (ng (bB s.toNat).1 ⟨1,0,0,0⟩).1 (bB s.toNat).2.1.toNat) ⟨1,0,0,0⟩).1)=x:=ex
 have hp1:qF (((ng (bB s.toNat).1 ⟨1,0,0,0⟩).1,(bB s.toNat).2.1,()),())=true:=by
  refine ag ?_
  show 0<=(bB s.toNat).2.1/\(bB s.toNat).2.1<=1000000
  have h:=aBC hs
  omega
 unfold Kq
 simp only [hA,ez',et',ex',er,e0,hc]
 refine (OT.ak hs).trans ((ae ?_).trans ((OT.au (b:=bC A) hz).trans ((ae ?_).trans ?_)))
 ·simp only [aA,aI,aJ]
  exact jm hs
 ·simp only [aA,aI,aJ,aw]
  exact ⟨hp1,hs,hs,hs,h0⟩
 ·cases c
  ·have hn:lk (pe (aIA (bB s.toNat)))=true:=jm hs
   refine (OT.au rfl).trans ((ae rfl).trans ?_)
   have ho:=agx X
   unfold zF
   rcases (b9 (X.w0%2==1)).symm with h|h
   ·rw [h] at ho⊢
    exact (OT.au ho).trans ((ae rfl).trans rfl)
   ·rw [h] at ho⊢
    refine (OT.ak ho).trans ((ae ?_).trans rfl)
    simp only [aA,aI,aJ,aw]
    exact ⟨rfl,hn,rfl,rfl,rfl,rfl⟩
  ·exact (OT.ak rfl).trans ((ae rfl).trans rfl)
theorem ayC:aa aj 151 (tF.az WT ar6):=amp kQ qA kP qy oJ BN G4 G3 ayE ayD ayF _ _ λx oy hp ho=>by
 rw [<-ho]
 clear ho
 obtain ⟨⟨s,a,⟨⟩⟩,⟨⟩⟩:=x
 show (Kq kQ qA kP qy oJ BN G4 G3 s a).run=(OT.br (ac s) (.br (bC (ofP (pS s) a)) (.ok ⟨ff,((⟨0,0,0,0⟩,(0:Int),()),())⟩)
  (.br (eqE (lv (pS s) (ofP (pS s) a) (iF (ng (bB s.toNat).1 kp).1)) kp) (.ok ⟨ff,((zF (pS s) (Mt s (ofP (pS s) a)),(0:Int),()),())⟩) (.ok ⟨ff,((⟨0,0,0,0⟩,(22:Int),()),())⟩)))
  (.ok ⟨ff,((⟨0,0,0,0⟩,(20:Int),()),())⟩):OT tF.Y).run
 rcases (b9 (ac s)).symm with hs|hs
 ·exact (OT.au hs).trans (OT.au (b:=ac s) hs).symm
 ·have k:=Ia hs
  refine Eq.trans ?_ (OT.ak (b:=ac s) hs).symm
  have hA:ofN (a.nat%(bB s.toNat).1.nat)=ofP (pS s) a:=rfl
  have hlt:(ofP (pS s) a).nat<pS s:=by
   rw [show (ofP (pS s) a).nat=a.nat%pS s from cv k.sm]
   exact Nat.mod_lt _ k.pr.pos
  generalize ofP (pS s) a=A at*
  rcases (b9 (bC A)).symm with hz|hz
  ·refine Eq.trans ?_ (OT.au (b:=bC A) hz).symm
   have hsame:=aCX k hlt hz
   have hres:tE (Uq (bB s.toNat) (gj s A).2.2 (gj s A).2.1 (gj s A).1)=tsF (pS s) (adS s+1) (adS s) (gj s A):=rfl
   have hbd:=aBC hs
   have h0:oJ (Uq (bB s.toNat) (gj s A).2.2 (gj s A).2.1 (gj s A).1)=true:=by
    refine (aw _ _).mpr ⟨jm hs,ag ⟨⟨?_,?_⟩,rfl,rfl,rfl,rfl,rfl⟩⟩
    ·show 0<=(bB s.toNat).2.1;omega
    ·show (bB s.toNat).2.1<=1000;omega
   have main:=amq (ok2:=kQ) (g2:=qA) (ok4:=kP) (g4:=qy) (ok0:=oJ) (g0r:=BN) (c0:=G4) (g0:=G3) (X:=(tE (Uq (bB s.toNat) (gj s A).2.2 (gj s A).2.1 (gj s A).1)).getD ⟨0,0,0,0⟩) hs k hA hz rfl rfl rfl h0 rfl rfl rfl
   refine main.trans ?_
   show cond (tE (Uq (bB s.toNat) (gj s A).2.2 (gj s A).2.1 (gj s A).1)).isNone _ _=_
   rw [hres]
   rcases (b9 (eqE (lv (pS s) A (iF (ng (bB s.toNat).1 kp).1)) kp)).symm with h|h
   ·rw [h] at hsame
    refine Eq.trans ?_ (OT.au h).symm
    cases ht:tsF (pS s) (adS s+1) (adS s) (gj s A) with
    |none=>rfl
    |some x=>rw [ht] at hsame;cases hsame
   ·rw [h] at hsame
    refine Eq.trans ?_ (OT.ak h).symm
    cases ht:tsF (pS s) (adS s+1) (adS s) (gj s A) with
    |none=>rw [ht] at hsame;cases hsame
    |some x=>
     rw [ht] at hsame
     have hsame:some (zF (pS s) x)=some (zF (pS s) (Mt s A)):=hsame
     rw [<-Option.some.inj hsame]
     rfl
  ·refine Eq.trans ?_ (OT.ak (b:=bC A) hz).symm
   rw [zero_eq hz] at hA
   refine (OT.ak hs).trans ((ae ?_).trans ?_)
   ·simp only [aA,aI,aJ]
    exact jm hs
   ·rw [hA]
    rfl
def Eb:bt:=(tF.az WT ar6)
theorem acP:aa aj 151 Eb:=ayC
theorem acO:ax Eb:=av
def avp:Env:=aq 151 Eb avB
theorem Mh:bV aj te avp:=aU follows uN acP acO
def kS:af:=⟨[aC,dw],[],true,0,false⟩
abbrev B2:Type:=aiF
def amS:Shape:=⟨39,[Cu,(7,kl),(21,aC),(22,aC)],[iI,nX],0,true⟩
abbrev ej:Type:=rF×ap×dl
def nQ:Shape:=⟨39,[(7,.own 0)],An,0,true⟩
abbrev qH:Type:=ct×dl
def amV (a21:Int) (a22:Int) (c0:ap) (c1:aF):OT (Sum ej aZ):=
 let z0:Int:=Int.tdiv a22 (8:Int)
 let z1:Int:=(8:Int)*Int.tmod a22 (8:Int)
 let z2:Nat:=List.length c1
 let z3:Nat:=Int.toNat a22
 (.br (decide (a22<a21))
 (gd [true&&inR z0,inB z0 4,decide (Int.toNat z0+0<List.length c0),inR z1,decide ((0:Int)<=z1),inB a22 z2,decide (z3<z2),inR (a22+(1:Int))] (.ok (.inl (((),(),a21,a22+(1:Int),()),c0,List.set c1 z3 (UInt64.toUInt8 (bE (List.getD c0 (Int.toNat z0+0) (0:UInt64)) z1)),()))))
 (.ok (.inr ⟨(.exit 0,nQ),(((),()),c1,())⟩)))
def v9 (s:ej):OT (Sum ej aZ):=amV s.1.2.2.1 s.1.2.2.2.1 s.2.1 s.2.2.1
def Ow (g0_0:ej->qH) (s:ej):OT aZ:=(.ok ⟨(.exit 0,nQ),g0_0 s⟩)
def ke:aL:=⟨[.own 0],An,false⟩
section
variable (ok0:ej->Bool) (g0_0:ej->qH)
def Xm (a0:Int) (a1:ab):OT kS.Y:=
 let z0:iW:=bB (Int.toNat a0)
 let z1:ab:=ofN (ab.nat a1%ab.nat z0.fst)
 let z2:ej:=(((),(),(32:Int),(0:Int),()),[z1.w0,z1.w1,z1.w2,z1.w3],List.replicate 32 (0:UInt8),())
 (.br (ac a0)
 (gd [il ((z0,a1,()),()),ok0 z2] (.ok ⟨ke,(((),()),(g0_0 z2).snd.fst,())⟩))
 (.ok ⟨ke,(((),()),[],())⟩))
theorem Xl (h0:bh v9 ok0 (Ow g0_0)) (pre:B2->Bool) (F:B2->OT kS.Y) (hF:∀ (x:B2) oy,pre x=true->(F x).run=some oy->(Xm ok0 g0_0 x.1.1 x.1.2.1).run=some oy):aa aj 135 (kS.az pre F):=
 di Mh 135 Tryz.f135 kS [ke] (lg Mh 0 amS [(0,nQ)] none none v9 bD h0 bD) (λx=>Xm ok0 g0_0 x.1.1 x.1.2.1) hF
end
def zH (e:ab):aF:=upto (λk o=>o.set k (UInt64.toUInt8 (bE ((lst e).getD (k/8) 0) (8*((k%8:Nat):Int))))) (List.replicate 32 0) 32
def zC (s:ej):Bool:=decide (s.1.2.2.1=32/\s.1.2.2.2.1=0/\s.2.1.length=4/\s.2.2.1=List.replicate 32 0)
def v8 (s:ej):qH:=(((),()),zH (elemOf s.2.1),())
theorem amU:bh v9 zC (Ow v8):=by
 rintro ⟨⟨⟨⟩,⟨⟩,n,i,⟨⟩⟩,⟨h,o,⟨⟩⟩⟩ hh
 have h':=bm hh
 dsimp only at h'
 obtain ⟨rfl,rfl,hl,rfl⟩:=h'
 obtain ⟨e,rfl⟩:∃ e,h=lst e:=⟨elemOf h,(cP hl).symm⟩
 have:=(bf (T:=v9) (λi o=>((((),(),(32:Int),(i:Int),()),lst e,o,()):ej)) (λk o=>o.set k (UInt64.toUInt8 (bE ((lst e).getD (k/8) 0) (8*((k%8:Nat):Int)))))
  (λo=>(⟨(.exit 0,nQ),(((),()),o,())⟩:aZ)) 32 (List.replicate 32 0) (λ_ o=>o.length=32) (by simp) (λi o hi ho=>⟨?_,by rw [cu];exact ho⟩) (λo ho=> ?_)).1
 ·obtain ⟨m,hm⟩:=this
  exact ⟨m,_,hm,rfl⟩
 ·have t1:Int.tdiv (i:Int) 8=((i/8:Nat):Int):=by rw [Int.tdiv_eq_ediv_of_nonneg (by omega)];omega
  have t2:Int.tmod (i:Int) 8=((i%8:Nat):Int):=by rw [Int.tmod_eq_emod_of_nonneg (by omega)];omega
  refine (OT.ak (ag (by dsimp only;omega))).trans ((ae ?_).trans ?_)
  ·simp only [t1,t2,NU,ho,cD,aA,aI,aJ,aw]
   exact ⟨⟨trivial,aS (by omega)⟩,ba (by omega),ag (by omega),aS (by omega),ag (by omega),ba (by omega),ag (by omega),aS (by omega)⟩
  ·simp only [OT.jf,t1,t2,cD,Nat.add_zero]
   rfl
 ·exact OT.au (bq (by dsimp only;omega))
theorem MI (e:ab):zC (((),(),32,0,()),lst e,List.replicate 32 0,())=true:=ag ⟨rfl,rfl,rfl,rfl⟩
theorem adk (z:ab):(OT.ok ⟨ke,(((),()),(v8 (((),(),32,0,()),[z.w0,z.w1,z.w2,z.w3],List.replicate 32 0,())).2.1,())⟩:OT kS.Y)=.ok ⟨ke,(((),()),zH z,())⟩:=by
 have e:elemOf [z.w0,z.w1,z.w2,z.w3]=z:=rfl
 simp only [v8,e]
def KL (_:B2):Bool:=true
def Xn (x:B2):OT kS.Y:=.br (ac x.1.1) (.ok ⟨ke,(((),()),zH (ofN (x.1.2.1.nat%(bB x.1.1.toNat).1.nat)),())⟩) (.ok ⟨ke,(((),()),[],())⟩)
theorem amT:aa aj 135 (kS.az KL Xn):=Xl zC v8 amU _ _ λx oy hp ho=>by
 rw [<-ho]
 clear ho
 obtain ⟨⟨s,a,⟨⟩⟩,⟨⟩⟩:=x
 cases hs:ac s
 ·exact (OT.au hs).trans (OT.au (b:=ac s) hs).symm
 ·refine (OT.ak hs).trans ((ae ?_).trans ?_)
  ·simp only [aA,aI,aJ,aw]
   exact ⟨jm hs,MI _⟩
  ·refine Eq.trans ?_ (OT.ak (b:=ac s) hs).symm
   exact congrArg OT.run (adk (ofN (a.nat%(bB s.toNat).1.nat)))
theorem kf (e:ab):(zH e).length=32:=by
 unfold zH
 have key:∀ n,(upto (λk (o:aF)=>o.set k (UInt64.toUInt8 (bE ((lst e).getD (k/8) 0) (8*((k%8:Nat):Int))))) (List.replicate 32 0) n).length=32:=by
  intro n
  induction n with
  |zero=>rfl
  |succ n ih=>exact (cu ..).trans ih
 exact key 32
def tV:bt:=(kS.az KL Xn)
theorem Se:aa aj 135 tV:=amT
theorem Sd:ax tV:=av
def Zv:Env:=aq 135 tV avp
theorem Ar:bV aj te Zv:=aU follows Mh Se Sd
abbrev fe:Pt:=(⟨0,0,0,0⟩,⟨0,0,0,0⟩,false)
def fX:af:=⟨[aC,jM],[],true,0,false⟩
abbrev qT:Type:=(Int×dl)×Unit
def bp:aL:=⟨LY,[],false⟩
def Ce (a0:Int) (a1:aF):OT fX.Y:=
 let z0:Bool:=ac a0
 let z1:Nat:=List.length a1
 let z2:ab:= {w0:=0,w1:=0,w2:=0,w3:=0}
 let z3:ab×Bool:=(z2,false)
 let z4:cK:=(z2,z3)
 let z5:Bool:=inB (31:Int) z1
 let z6:Bool:=decide (31<z1)
 let z7:UInt8:=List.getD a1 31 (0:UInt8)
 let z8:aF:=List.set a1 31 (z7&&&(127:UInt8))
 let z9:ab:=NL z8
 let z10:Nat:=pS a0
 let z11:ab:=bS a0
 let z12:Bool:=uk ((a0,z9,z11,()),())
 let z13:ab:=ofP z10 (Gg z10 z9 z11)
 let z14:Bool:=bC z13
 let z15:Bool:= !(0:UInt8)==z7>>>(7:UInt8)
 let z16:cK:=(z9,lf z10 z2,false)
 let z17:cK:=(z9,z3)
 let z18:Bool:=eqE (lv z10 z13 (iF (ng (bB (Int.toNat a0)).fst kp).fst)) kp
 let z19:ab:=zF z10 (Mt a0 z13)
 let z20:Bool:= !UInt64.toUInt8 (z19.w0&&&(1:UInt64))==z7>>>(7:UInt8)
 let z21:cK:=(z9,lf z10 z19,false)
 let z22:cK:=(z9,z19,false)
 (.br (z0)
 (.br (!(↑z1:Int)==(32:Int))
  (.ok ⟨bp,((z4,(41:Int),()),())⟩)
  (gd [eJ ((a1,()),()),z5,z6,z5,z6,z5,z6] (.br (z0)
   (.br (nh z8)
    (.br (Nat.blt (ab.nat z9) z10)
     (.br (z9.w0==(0:UInt64)&&(z9.w1==(0:UInt64)&&(z9.w2==(0:UInt64)&&(z9.w3==(0:UInt64)&&true))))
      (.br (z7>>>(7:UInt8)==(0:UInt8))
       (.ok ⟨bp,(((z2,z2,true),(0:Int),()),())⟩)
       (gd [z12] (.br (z0)
        (.br (z14)
         (.br (z15)
          (.br (z0)
           (.ok ⟨bp,((z16,(0:Int),()),())⟩)
           (.ok ⟨bp,((z17,(0:Int),()),())⟩))
          (.ok ⟨bp,((z17,(0:Int),()),())⟩))
         (.br (z18)
          (.br (z20)
           (.br (z0)
            (.ok ⟨bp,((z21,(0:Int),()),())⟩)
            (.ok ⟨bp,((z17,(0:Int),()),())⟩))
           (.ok ⟨bp,((z22,(0:Int),()),())⟩))
          (.ok ⟨bp,((z4,(41:Int),()),())⟩)))
        (.ok ⟨bp,((z4,(41:Int),()),())⟩))))
      (gd [z12] (.br (z0)
       (.br (z14)
        (.br (z15)
         (.br (z0)
          (.ok ⟨bp,((z16,(0:Int),()),())⟩)
          (.ok ⟨bp,((z17,(0:Int),()),())⟩))
         (.ok ⟨bp,((z17,(0:Int),()),())⟩))
        (.br (z18)
         (.br (z20)
          (.br (z0)
           (.ok ⟨bp,((z21,(0:Int),()),())⟩)
           (.ok ⟨bp,((z17,(0:Int),()),())⟩))
          (.ok ⟨bp,((z22,(0:Int),()),())⟩))
         (.ok ⟨bp,((z4,(41:Int),()),())⟩)))
       (.ok ⟨bp,((z4,(41:Int),()),())⟩))))
     (.ok ⟨bp,((z4,(41:Int),()),())⟩))
    (.ok ⟨bp,((z4,(41:Int),()),())⟩))
   (.ok ⟨bp,((z4,(41:Int),()),())⟩))))
 (.ok ⟨bp,((z4,(40:Int),()),())⟩))
theorem X0 (pre:qT->Bool) (F:qT->OT fX.Y) (hF:∀ (x:qT) oy,pre x=true->(F x).run=some oy->(Ce x.1.1 x.1.2.1).run=some oy):aa aj 115 (fX.az pre F):=
 di Ar 115 Tryz.f115 fX [bp] bD (λx=>Ce x.1.1 x.1.2.1) hF
def agy (b:aF):ab:=NL (b.set 31 (b.getD 31 0&&&127))
def Vy (b:aF):Bool:= !(b.getD 31 0>>>7==0)
theorem ay5 {y:ab} (h:y.nat%2=0):UInt64.toUInt8 (y.w0&&&1)=0:=by
 have e:y.nat%2=y.w0.toNat%2:=by unfold Sx.ab.nat;omega
 have h2:(y.w0&&&1).toNat=y.w0.toNat%2:=by
  rw [UInt64.toNat_and]
  exact Nat.and_two_pow_sub_one_eq_mod y.w0.toNat 1
 have:y.w0&&&1=0:=UInt64.toNat_inj.1 (by rw [h2,<-e,h];rfl)
 rw [this]
 rfl
def adP (_:qT):Bool:=true
def aGM {S:af} (f:Pt->Int->OT S.Y) (s:Int) (b:aF):OT S.Y:=.br (ac s) (.br (nh b) (.br (Nat.blt (agy b).nat (pS s)) (.br (bC (agy b)) (.br (Vy b) (f fe 41) (f aM 0)) (.br (sqB s (agy b)) (f (ptD s (agy b) (Vy b)) 0) (f fe 41))) (f fe 41)) (f fe 41)) (f fe 40)
def atA (x:qT):OT fX.Y:=aGM (S:=fX) (λP e=>.ok ⟨bp,((P,e,()),())⟩) x.1.1 x.1.2.1
theorem X3 {s:Int} {b:List UInt8} {N:ab} (hN:agy b=N):(Ce s b).run=(aGM (S:=fX) (λP e=>.ok ⟨bp,((P,e,()),())⟩) s b).run:=by
 have hN':NL (List.set b 31 (List.getD b 31 0&&&127))=N:=hN
 unfold Ce aGM
 rw [hN]
 simp only [hN']
 rcases (b9 (ac s)).symm with hs|hs
 ·exact (OT.au hs).trans (OT.au (b:=ac s) hs).symm
 ·refine (OT.ak hs).trans (Eq.trans ?_ (OT.ak (b:=ac s) hs).symm)
  rcases (b9 (nh b)).symm with hl|hl
  ·exact (OT.ak (b:= !nh b) (by rw [hl];rfl)).trans (OT.au (b:=nh b) hl).symm
  ·have hlen:=sZ.1 hl
   have i1:inB 31 b.length=true:=ba (by omega)
   have i2:decide (31<b.length)=true:=ag (by omega)
   have i3:eJ ((b,()),())=true:=ag (by show b.length<=_;omega)
   have i4:nh (List.set b 31 (List.getD b 31 0&&&127))=true:=sZ.2 (by rw [cu];exact hlen)
   have hg:∀ z:ab,uk ((s,z,bS s,()),())=true:=λ_=>hs
   refine (OT.au (b:= !nh b) (by rw [hl];rfl)).trans (Eq.trans ((ae ?_).trans ((OT.ak hs).trans ((OT.ak i4).trans ?_))) (OT.ak (b:=nh b) hl).symm)
   ·simp only [i1,i2,i3,aA,aI,Bool.and_self]
   ·rcases (b9 (Nat.blt N.nat (pS s))).symm with hb|hb
    ·exact (OT.au hb).trans (OT.au (b:=Nat.blt N.nat (pS s)) hb).symm
    ·refine (OT.ak hb).trans (Eq.trans ?_ (OT.ak (b:=Nat.blt N.nat (pS s)) hb).symm)
     have hA:=apk hs N
     have sg:(List.getD b 31 0>>>7==0)= !Vy b:=by unfold Vy;rw [Bool.not_not]
     rcases (b9 (bC N)).symm with hz|hz
     ·refine (OT.au (b:=bC N) hz).trans (Eq.trans ?_ (OT.au (b:=bC N) hz).symm)
      refine (ae (by rw [hg];rfl)).trans ((OT.ak hs).trans ((OT.au (b:=bC (sqA s N)) hA).trans ?_))
      rcases (b9 (sqB s N)).symm with hq|hq
      ·exact (OT.au (b:=sqB s N) hq).trans (OT.au (b:=sqB s N) hq).symm
      ·refine (OT.ak (b:=sqB s N) hq).trans (Eq.trans ?_ (OT.ak (b:=sqB s N) hq).symm)
       have hy:=ay5 (aFY hs hq).2.1
       have hc:(!UInt64.toUInt8 ((sqY s N).w0&&&1)==List.getD b 31 0>>>7)=Vy b:=by
        rw [hy]
        unfold Vy
        rw [Bool.beq_comm]
       unfold ptD
       rcases (b9 (Vy b)).symm with ho|ho
       ·rw [ho] at hc⊢
        exact (OT.au hc).trans rfl
       ·rw [ho] at hc⊢
        exact (OT.ak hc).trans ((OT.ak hs).trans rfl)
     ·refine (OT.ak (b:=bC N) hz).trans (Eq.trans ?_ (OT.ak (b:=bC N) hz).symm)
      have hN0:=zero_eq hz
      rcases (b9 (Vy b)).symm with ho|ho
      ·exact (OT.ak (by rw [sg,ho];rfl)).trans (OT.au (b:=Vy b) ho).symm
      ·refine (OT.au (by rw [sg,ho];rfl)).trans (Eq.trans ?_ (OT.ak (b:=Vy b) ho).symm)
       have hq:sqB s N=false:=by rw [hN0];exact af0 hs
       exact (ae (by rw [hg];rfl)).trans ((OT.ak hs).trans ((OT.au (b:=bC (sqA s N)) hA).trans (OT.au (b:=sqB s N) hq)))
theorem anr:aa aj 115 (fX.az adP atA):=X0 _ _ λx oy hp ho=>by
 rw [<-ho]
 clear ho
 obtain ⟨⟨s,b,⟨⟩⟩,⟨⟩⟩:=x
 exact X3 rfl
def gV:af:=⟨[aC,xu],[],true,0,false⟩
abbrev qQ:Type:=(Int×rC)×Unit
def fA:aL:=⟨[.own 0],An,false⟩
def Cb (a0:Int) (a1:cK):OT gV.Y:=
 let z0:aF:=zH (ofN (ab.nat a1.fst%ab.nat (bB (Int.toNat a0)).fst))
 let z1:Nat:=Int.toNat ((↑(List.length z0):Int)-(1:Int))
 (.br (!onB a0 a1)
 (.ok ⟨fA,(((),()),[],())⟩)
 (gd [ac a0] (.ok ⟨fA,(((),()),List.set z0 z1 (List.getD z0 z1 (0:UInt8)|||UInt64.toUInt8 (a1.snd.fst.w0&&&(1:UInt64))<<<(7:UInt8)),())⟩)))
theorem XV (pre:qQ->Bool) (F:qQ->OT gV.Y) (hF:∀ (x:qQ) oy,pre x=true->(F x).run=some oy->(Cb x.1.1 x.1.2.1).run=some oy):aa aj 137 (gV.az pre F):=
 di Ar 137 Tryz.f137 gV [fA] bD (λx=>Cb x.1.1 x.1.2.1) hF
def sr (b:aF) (y:ab):aF:=b.set 31 (b.getD 31 0|||UInt64.toUInt8 (y.w0&&&1)<<<7)
def jO (s:Int) (P:Pt):aF:=cond (onB s P) (sr (zH (ofP (pS s) P.1)) P.2.1) []
def adN (_:qQ):Bool:=true
def aty (x:qQ):OT gV.Y:=.br (onB x.1.1 x.1.2.1) (.ok ⟨fA,(((),()),sr (zH (ofP (pS x.1.1) x.1.2.1.1)) x.1.2.1.2.1,())⟩) (.ok ⟨fA,(((),()),[],())⟩)
theorem XW {s:Int} {P:Pt} {B:List UInt8} (hB:zH (ofN (P.1.nat%(bB s.toNat).1.nat))=B) (hl:B.length=32):(Cb s P).run=(OT.br (onB s P) (.ok ⟨fA,(((),()),sr B P.2.1,())⟩) (.ok ⟨fA,(((),()),[],())⟩):OT gV.Y).run:=by
 unfold Cb
 have e:Int.toNat ((B.length:Int)-1)=31:=by rw [hl];rfl
 simp only [hB,e]
 rcases (b9 (onB s P)).symm with h|h
 ·exact (OT.ak (b:= !onB s P) (by rw [h];rfl)).trans (OT.au (b:=onB s P) h).symm
 ·refine (OT.au (b:= !onB s P) (by rw [h];rfl)).trans (Eq.trans ((ae ?_).trans rfl) (OT.ak (b:=onB s P) h).symm)
  simp only [aA,aI,aJ]
  exact vt h
theorem ano:aa aj 137 (gV.az adN aty):=XV _ _ λx oy hp ho=>by
 rw [<-ho]
 clear ho
 obtain ⟨⟨s,P,⟨⟩⟩,⟨⟩⟩:=x
 exact XW (B:=zH (ofP (pS s) P.1)) rfl (kf _)
abbrev Fj:Type:=(aF×m5)×Af
abbrev Mu:Type:=mY
section
variable (ok0:Fj->Bool) (g0_0:Fj->Mu)
end
abbrev Fl:Type:=m5×ap×dl
abbrev Mw:Type:=ct×dl
section
variable (ok0:Fl->Bool) (g0_0:Fl->Mw)
end
def aGH (e:ab) (k:Nat):UInt8:=UInt64.toUInt8 (bE ((lst e).getD (k/8) 0) (8*((k%8:Nat):Int)))
theorem Uy {α:Type} (f:Nat->α) (l:List α):∀ n,n<=l.length->upto (λk (o:List α)=>o.set k (f k)) l n=(List.range n).map f++l.drop n
 |0,_=>rfl
 |n+1,h=>by
  have hl:((List.range n).map f).length=n:=by rw [List.length_map,List.length_range]
  show (upto (λk (o:List α)=>o.set k (f k)) l n).set n (f n)=_
  rw [Uy f l n (by omega),List.set_append_right _ _ (by omega),hl,Nat.sub_self,m8 (by omega),List.set_cons_zero,List.range_succ,List.map_append,List.append_assoc]
  rfl
theorem ay9 (e:ab):zH e=(List.range 32).map (aGH e):=by
 have h:=Uy (aGH e) (List.replicate 32 0) 32 (by rw [fM];omega)
 rw [List.drop_eq_nil_of_le (by rw [fM];omega),List.append_nil] at h
 exact h
theorem aw5 {y:ab} (h:(y.w0%2==1)=true) (b:aF):sr b y=b.set 31 (b.getD 31 0|||128):=by
 rw [<-agx] at h
 have e:y.w0&&&1=1:=by simpa using h
 unfold sr
 rw [e]
 rfl
theorem apm {y:ab} (h:(y.w0%2==1)=false) {b:List UInt8} (hb:b.length=32):sr b y=b:=by
 have h2:(y.w0&&&1).toNat=y.w0.toNat%2:=by
  rw [UInt64.toNat_and]
  exact Nat.and_two_pow_sub_one_eq_mod y.w0.toNat 1
 have h3:(y.w0%2).toNat=y.w0.toNat%2:=by rw [UInt64.toNat_mod];rfl
 have hn:y.w0.toNat%2≠1:=λe=>by
  have:y.w0%2=1:=UInt64.toNat_inj.1 (by rw [h3,e];rfl)
  rw [this] at h
  cases h
 have e:y.w0&&&1=0:=UInt64.toNat_inj.1 (by rw [h2];show _=0;omega)
 unfold sr
 rw [e]
 have e2:(UInt64.toUInt8 0<<<7:UInt8)=0:=by decide
 rw [e2,UInt8.or_zero]
 have hl:31<b.length:=by omega
 rw [eZ,m9 hl]
 exact List.set_getElem_self hl
abbrev OO:af:=fX
def Tt (s:Int) (b:aF):Pt×Int:=cond (ac s) (cond (nh b) (cond (Nat.blt (agy b).nat (pS s)) (cond (bC (agy b)) (cond (Vy b) (fe,41) (aM,0)) (cond (sqB s (agy b)) (ptD s (agy b) (Vy b),0) (fe,41))) (fe,41)) (fe,41)) (fe,40)
theorem azh {S:af} (f:Pt->Int->OT S.Y) (s:Int) (b:aF):(aGM f s b).run=(f (Tt s b).1 (Tt s b).2).run:=by
 unfold aGM Tt
 generalize agy b=N
 rcases (b9 (ac s)).symm with h|h
 ·rw [h];rfl
 ·rcases (b9 (nh b)).symm with h1|h1
  ·rw [h,h1];rfl
  ·rcases (b9 (Nat.blt N.nat (pS s))).symm with h2|h2
   ·rw [h,h1,h2];rfl
   ·rcases (b9 (bC N)).symm with h3|h3
    ·rcases (b9 (sqB s N)).symm with h4|h4
     ·rw [h,h1,h2,h3,h4];rfl
     ·rw [h,h1,h2,h3,h4];rfl
    ·rcases (b9 (Vy b)).symm with h4|h4
     ·rw [h,h1,h2,h3,h4];rfl
     ·rw [h,h1,h2,h3,h4];rfl
def FP (_:qT):Bool:=true
def OP (x:qT):OT fX.Y:=.ok ⟨bp,(((Tt x.1.1 x.1.2.1).1,(Tt x.1.1 x.1.2.1).2,()),())⟩
theorem adO:aa aj 115 (OO.az FP OP):=cL (S:=fX) anr λx oy hp ho=>⟨rfl,(azh (S:=fX) (λP e=>.ok ⟨bp,((P,e,()),())⟩) x.1.1 x.1.2.1).trans ho⟩
def qS:bt:=(OO.az FP OP)
theorem MO:aa aj 115 qS:=adO
theorem MN:ax qS:=av
def Pz:Env:=aq 115 qS Zv
theorem ZB:bV aj te Pz:=aU follows Ar MO MN
abbrev OM:af:=gV
def FO (_:qQ):Bool:=true
def ON (x:qQ):OT gV.Y:=.ok ⟨fA,(((),()),jO x.1.1 x.1.2.1,())⟩
theorem XU (s:Int) (P:Pt):(OT.br (onB s P) (.ok ⟨fA,(((),()),sr (zH (ofP (pS s) P.1)) P.2.1,())⟩) (.ok ⟨fA,(((),()),[],())⟩):OT gV.Y).run=some ⟨fA,(((),()),jO s P,())⟩:=by
 unfold jO
 generalize sr (zH (ofP (pS s) P.1)) P.2.1=B
 rcases (b9 (onB s P)).symm with h|h
 ·rw [h];rfl
 ·rw [h];rfl
theorem adM:aa aj 137 (OM.az FO ON):=cL (S:=gV) ano λx oy hp ho=>⟨rfl,(XU x.1.1 x.1.2.1).trans ho⟩
def qP:bt:=(OM.az FO ON)
theorem MM:aa aj 137 qP:=adM
theorem ML:ax qP:=av
def Py:Env:=aq 137 qP Pz
theorem Ga:bV aj te Py:=aU follows ZB MM ML
def Fz:af:=⟨jK,[],true,0,false⟩
def Q5:aL:=⟨[.rT,aC],[],false⟩
def abD:aL:=⟨F4,[aiT,(1,.row akK)],false⟩
abbrev aqP:Type:=o4
def aqO (a0:Int):OT Fz.Y:=
 (.br (decide (a0<(0:Int)))
 (.ok ⟨Q5,(((),(40:Int),()),())⟩)
 (.br (decide ((3:Int)<a0))
  (.ok ⟨Q5,(((),(40:Int),()),())⟩)
  (.ok ⟨abD,(((),(0:Int),()),(a0,(),()),[],())⟩)))
theorem aqN (pre:aqP->Bool) (F:aqP->OT Fz.Y) (hF:∀ (x:aqP) oy,pre x=true->(F x).run=some oy->(aqO x.1.1).run=some oy):aa aj 129 (Fz.az pre F):=
 di Ga 129 Tryz.f129 Fz [Q5,abD] bD (λx=>aqO x.1.1) hF
def agK (_:aqP):Bool:=true
def aAT (x:aqP):OT Fz.Y:=.br (ac x.1.1) (.ok ⟨abD,(((),(0:Int),()),(x.1.1,(),()),[],())⟩) (.ok ⟨Q5,(((),(40:Int),()),())⟩)
theorem aD8:aa aj 129 (Fz.az agK aAT):=aqN _ _ λx oy _ ho=>by
 rw [<-ho]
 clear ho
 obtain ⟨⟨s,⟨⟩⟩,⟨⟩⟩:=x
 show (aqO s).run=(OT.br (ac s) _ _:OT Fz.Y).run
 by_cases h0:s<0
 ·refine (OT.ak (ag h0)).trans (OT.au (b:=ac s) ?_).symm
  simp only [ac,bq (show ¬(0:Int)<=s by omega),Bool.false_and]
 ·refine (OT.au (bq h0)).trans ?_
  by_cases h3:3<s
  ·refine (OT.ak (ag h3)).trans (OT.au (b:=ac s) ?_).symm
   simp only [ac,bq (show ¬s<4 by omega),Bool.and_false]
  ·refine (OT.au (bq h3)).trans (OT.ak (b:=ac s) ?_).symm
   simp only [ac,ag (show (0:Int)<=s by omega),ag (show s<4 by omega),Bool.and_self]
def Je:bt:=(Fz.az agK aAT)
theorem alO:aa aj 129 Je:=aD8
theorem alN:ax Je:=av
def aCb:Env:=aq 129 Je Py
theorem ajk:bV aj te aCb:=aU follows Ga alO alN
def aIC (w:Sh):CSh:=.cells [.val false .int,w]
def FD:af:=⟨[eX,dw,xu],[(0,aIC kl),(1,.row akK)],false,1,true⟩
abbrev aqW:Type:=(Unit×ab×rC)×Cr×o6
def sY:aL:=⟨jK,[aiT,(1,F6)],false⟩
def aqV (a1:ab) (a2:cK) (c0_0:Int) (c1:eC):OT FD.Y:=
 let z0:Int:=ay c0_0 (1:Int)
 let z1:ab:= {w0:=0,w1:=0,w2:=0,w3:=0}
 (.br (!onB c0_0 a2)
 (.ok ⟨sY,(((41:Int),()),(c0_0,(),()),c1,())⟩)
 (.br (decide ((100000:Int)<=(↑(List.length c1):Int)))
  (.ok ⟨sY,(((50:Int),()),(c0_0,(),()),c1,())⟩)
  (.br (ac z0)
   (gd [decide ((List.length c1+1)*104<=140737488355328)] (.ok ⟨sY,(((0:Int),()),(c0_0,(),()),c1++ [(dv (pS z0) a1 z1,a2)],())⟩))
   (gd [decide ((List.length c1+1)*104<=140737488355328)] (.ok ⟨sY,(((0:Int),()),(c0_0,(),()),c1++ [(z1,a2)],())⟩)))))
theorem aqU (pre:aqW->Bool) (F:aqW->OT FD.Y) (hF:∀ (x:aqW) oy,pre x=true->(F x).run=some oy->(aqV x.1.2.1 x.1.2.2.1 x.2.1.1 x.2.2.1).run=some oy):aa aj 130 (FD.az pre F):=
 di ajk 130 Tryz.f130 FD [sY] bD (λx=>aqV x.1.2.1 x.1.2.2.1 x.2.1.1 x.2.2.1) hF
abbrev Tm:Type:=akK.T
def lm:Tm:=(⟨0,0,0,0⟩,⟨0,0,0,0⟩,⟨0,0,0,0⟩,false)
def UI (l:List Tm):Bool:=decide (l.length<100000)
def agQ (_:aqW):Bool:=true
def aAU (x:aqW):OT FD.Y:=.br (onB x.2.1.1 x.1.2.2.1) (.br (UI x.2.2.1) (.ok ⟨sY,(((0:Int),()),(x.2.1.1,(),()),x.2.2.1++ [(Gd x.2.1.1 x.1.2.1,x.1.2.2.1)],())⟩)
 (.ok ⟨sY,(((50:Int),()),(x.2.1.1,(),()),x.2.2.1,())⟩)) (.ok ⟨sY,(((41:Int),()),(x.2.1.1,(),()),x.2.2.1,())⟩)
theorem aD9:aa aj 130 (FD.az agQ aAU):=aqU _ _ λx oy _ ho=>by
 rw [<-ho]
 clear ho
 obtain ⟨⟨⟨⟩,k,P,⟨⟩⟩,⟨⟨c,⟨⟩,⟨⟩⟩,l,⟨⟩⟩⟩:=x
 show (aqV k P c l).run=(OT.br (onB c P) (.br (UI l) _ _) _:OT FD.Y).run
 rcases (b9 (onB c P)).symm with h|h
 ·exact (OT.ak (b:= !onB c P) (by rw [h];rfl)).trans (OT.au (b:=onB c P) h).symm
 ·refine (OT.au (b:= !onB c P) (by rw [h];rfl)).trans (Eq.trans ?_ (OT.ak (b:=onB c P) h).symm)
  rcases (b9 (UI l)).symm with h2|h2
  ·have h3:=of_decide_eq_false h2
   exact (OT.ak (ag (by omega))).trans (OT.au (b:=UI l) h2).symm
  ·have h3:=bm h2
   refine (OT.au (bq (by omega))).trans (Eq.trans ?_ (OT.ak (b:=UI l) h2).symm)
   refine (OT.ak (bG (vt h))).trans ((ae ?_).trans rfl)
   simp only [aA,aI,aJ]
   exact ag (by omega)
def Ju:bt:=(FD.az agQ aAU)
theorem alW:aa aj 130 Ju:=aD9
theorem alV:ax Ju:=av
def aCc:Env:=aq 130 Ju aCb
theorem Tj:bV aj te aCc:=aU follows ajk alW alV
def mF:af:=⟨[aC,L5],[],true,0,false⟩
abbrev Bq:Type:=aiE
def alI:Shape:=⟨26,[jL,eD,uC,(9,lC),(10,aC),(11,aC)],L0,0,true⟩
abbrev dY:Type:=(Int×Unit×Unit×eC×jR)×uB
def nF:Shape:=⟨26,[eD,uC],L0,0,true⟩
abbrev pX:Type:=m6×uB
def alL (a0:Int) (a9:eC) (a10:Int) (a11:Int) (c0_0:UInt64) (c0_1:UInt64) (c0_2:UInt64) (c0_3:UInt64) (c0_4:UInt64) (c0_5:UInt64) (c0_6:UInt64) (c0_7:UInt64) (c0_8:Bool) (c1_0:UInt64) (c1_1:UInt64) (c1_2:UInt64) (c1_3:UInt64) (c1_4:UInt64) (c1_5:UInt64) (c1_6:UInt64) (c1_7:UInt64) (c1_8:Bool):OT (Sum dY aZ):=
 let z0:ab:= {w0:=0,w1:=0,w2:=0,w3:=0}
 let z1:ab×cK:=List.getD a9 (Int.toNat a11) (z0,z0,z0,false)
 let z2:cK:=fT a0 ({w0:=c1_0,w1:=c1_1,w2:=c1_2,w3:=c1_3},{w0:=c1_4,w1:=c1_5,w2:=c1_6,w3:=c1_7},c1_8) (pW a0 z1.fst z1.snd)
 let z3:=z2.fst
 let z4:=z2.snd
 let z5:=z4.fst
 (.br (decide (a11<a10))
 (gd [inB a11 (List.length a9),inR (a11+(1:Int))] (.ok (.inl ((a0,(),(),a9,a10,a11+(1:Int),()),(c0_0,c0_1,c0_2,c0_3,c0_4,c0_5,c0_6,c0_7,c0_8,()),(z3.w0,z3.w1,z3.w2,z3.w3,z5.w0,z5.w1,z5.w2,z5.w3,z4.snd,()),()))))
 (.ok (.inr ⟨(.exit 0,nF),(((),(),()),(c0_0,c0_1,c0_2,c0_3,c0_4,c0_5,c0_6,c0_7,c0_8,()),(c1_0,c1_1,c1_2,c1_3,c1_4,c1_5,c1_6,c1_7,c1_8,()),())⟩)))
def vC (s:dY):OT (Sum dY aZ):=alL s.1.1 s.1.2.2.2.1 s.1.2.2.2.2.1 s.1.2.2.2.2.2.1 s.2.1.1 s.2.1.2.1 s.2.1.2.2.1 s.2.1.2.2.2.1 s.2.1.2.2.2.2.1 s.2.1.2.2.2.2.2.1 s.2.1.2.2.2.2.2.2.1 s.2.1.2.2.2.2.2.2.2.1 s.2.1.2.2.2.2.2.2.2.2.1 s.2.2.1.1 s.2.2.1.2.1 s.2.2.1.2.2.1 s.2.2.1.2.2.2.1 s.2.2.1.2.2.2.2.1 s.2.2.1.2.2.2.2.2.1 s.2.2.1.2.2.2.2.2.2.1 s.2.2.1.2.2.2.2.2.2.2.1 s.2.2.1.2.2.2.2.2.2.2.2.1
def NP (g0_0:dY->pX) (s:dY):OT aZ:=(.ok ⟨(.exit 0,nF),g0_0 s⟩)
def DI:aL:=⟨o8,[],false⟩
section
variable (ok0:dY->Bool) (g0_0:dY->pX)
def VG (a0:Int) (a1:eC):OT mF.Y:=
 let z0:dY:=((a0,(),(),a1,(↑(List.length a1):Int),(0:Int),()),((0:UInt64),(0:UInt64),(0:UInt64),(0:UInt64),(0:UInt64),(0:UInt64),(0:UInt64),(0:UInt64),false,()),((0:UInt64),(0:UInt64),(0:UInt64),(0:UInt64),(0:UInt64),(0:UInt64),(0:UInt64),(0:UInt64),true,()),())
 let z1:=(g0_0 z0).snd.snd.fst
 let z2:=z1.snd
 let z3:=z2.snd
 let z4:=z3.snd
 let z5:=z4.snd
 let z6:=z5.snd
 let z7:=z6.snd
 let z8:=z7.snd
 (gd [ok0 z0] (.ok ⟨DI,((({w0:=z1.fst,w1:=z2.fst,w2:=z3.fst,w3:=z4.fst},{w0:=z5.fst,w1:=z6.fst,w2:=z7.fst,w3:=z8.fst},z8.snd.fst),()),())⟩))
theorem VF (h0:bh vC ok0 (NP g0_0)) (pre:Bq->Bool) (F:Bq->OT mF.Y) (hF:∀ (x:Bq) oy,pre x=true->(F x).run=some oy->(VG ok0 g0_0 x.1.1 x.1.2.1).run=some oy):aa aj 180 (mF.az pre F):=
 di Tj 180 Tryz.f180 mF [DI] (lg Tj 0 alI [(0,nF)] none none vC bD h0 bD) (λx=>VG ok0 g0_0 x.1.1 x.1.2.1) hF
end
def ga (c:Int) (l:List Tm) (k:Nat) (O:Pt):Pt:=fT c O (pW c (l.getD k lm).1 (l.getD k lm).2)
def pH (c:Int) (l:List Tm):Pt:=upto (ga c l) aM l.length
def Jd (s:dY):Bool:=decide (s.1.2.2.2.2.1=(s.1.2.2.2.1.length:Int)/\s.1.2.2.2.2.2.1=0/\Lb s.2.2.1=aM/\s.1.2.2.2.1.length<=140737488355328)
def NO (s:dY):pX:=(((),(),()),s.2.1,bR (pH s.1.1 s.1.2.2.2.1),())
theorem alK:bh vC Jd (NP NO):=by
 rintro ⟨⟨c,⟨⟩,⟨⟩,l,n,i,⟨⟩⟩,⟨c0,c1,⟨⟩⟩⟩ h
 have h':=bm h
 dsimp only at h'
 obtain ⟨rfl,rfl,hO,hl⟩:=h'
 have hO2:c1=bR aM:=by rw [<-hO];rfl
 subst hO2
 have:=(bf (T:=vC) (λi O=>(((c,(),(),l,(l.length:Int),(i:Int),()),c0,bR O,()):dY)) (ga c l)
  (λO=>(⟨(.exit 0,nF),(((),(),()),c0,bR O,())⟩:aZ)) l.length aM (λ_ _=>True) trivial (λk O hk _=>⟨?_,trivial⟩) (λO _=> ?_)).1
 ·obtain ⟨m,hm⟩:=this
  exact ⟨m,_,hm,rfl⟩
 ·refine (OT.ak (ag (by dsimp only;omega))).trans ((ae ?_).trans ?_)
  ·simp only [aA,aI,aJ,aw]
   exact ⟨ba (by omega),aS (by omega)⟩
  ·simp only [OT.jf,cD]
   rfl
 ·exact OT.au (bq (by dsimp only;omega))
def yL (x:Bq):Bool:=decide (x.1.2.1.length<=140737488355328)
def VH (x:Bq):OT mF.Y:=.ok ⟨DI,((pH x.1.1 x.1.2.1,()),())⟩
theorem alJ:aa aj 180 (mF.az yL VH):=VF Jd NO alK _ _ λx oy hp ho=>by
 rw [<-ho]
 clear ho
 obtain ⟨⟨c,l,⟨⟩⟩,⟨⟩⟩:=x
 have hl:l.length<=140737488355328:=bm hp
 refine (ae ?_).trans rfl
 simp only [aA,aI,aJ]
 exact ag ⟨rfl,rfl,rfl,hl⟩
def sT:bt:=(mF.az yL VH)
theorem Q2:aa aj 180 sT:=alJ
theorem Q1:ax sT:=av
def Zf:Env:=aq 180 sT aCc
theorem Me:bV aj te Zf:=aU follows Tj Q2 Q1
def yJ:af:=⟨[.val true akK,eX],xq,false,1,true⟩
abbrev VD:Type:=((ab×cK)×ct)×o4
def QX:aL:=⟨og,xq,false⟩
def aqC (a0:ab×cK) (c0_0:Int):OT yJ.Y:=
 (.ok ⟨QX,((rA a0.fst c0_0,()),(c0_0,()),())⟩)
theorem alD (pre:VD->Bool) (F:VD->OT yJ.Y) (hF:∀ (x:VD) oy,pre x=true->(F x).run=some oy->(aqC x.1.1 x.2.1.1).run=some oy):aa aj 196 (yJ.az pre F):=
 di Me 196 Tryz.f196 yJ [QX] bD (λx=>aqC x.1.1 x.2.1.1) hF
def VC (_:VD):Bool:=true
def aqD (x:VD):OT yJ.Y:=.ok ⟨QX,((rA x.1.1.1 x.2.1.1,()),(x.2.1.1,()),())⟩
theorem axL:aa aj 196 (yJ.az VC aqD):=alD _ _ λx oy hp ho=>by
 rw [<-ho]
 rfl
def DE:bt:=(yJ.az VC aqD)
theorem abv:aa aj 196 DE:=axL
theorem abu:ax DE:=av
def avc:Env:=aq 196 DE Zf
theorem Md:bV aj te avc:=aU follows Me abv abu
def kL:af:=⟨[L5,.fn 196 [0]],xq,true,1,true⟩
abbrev Bt:Type:=(eC×ct)×o4
def alP:Shape:=⟨19,[(0,lC),(1,.fn 196 [0]),xp,(8,aC)],xq,1,true⟩
abbrev bY:Type:=(eC×Unit×jR)×o4
def nG:Shape:=⟨19,[(4,aC)],xq,1,true⟩
abbrev lK:Type:=eU×o4
def nH:Shape:=⟨19,[],xq,1,true⟩
abbrev pY:Type:=Unit×o4
def alS (a0:eC) (a7:Int) (a8:Int) (c0_0:Int):OT (Sum bY aZ):=
 let z0:ab:= {w0:=0,w1:=0,w2:=0,w3:=0}
 (.br (decide (a8<a7))
 (gd [inB a8 (List.length a0)] (.br (rA (List.getD a0 (Int.toNat a8) (z0,z0,z0,false)).fst c0_0)
  (.ok (.inr ⟨(.ret,nG),((a8,()),(c0_0,()),())⟩))
  (gd [inR (a8+(1:Int))] (.ok (.inl ((a0,(),a7,a8+(1:Int),()),(c0_0,()),()))))))
 (.ok (.inr ⟨(.exit 0,nH),((),(c0_0,()),())⟩)))
def vD (s:bY):OT (Sum bY aZ):=alS s.1.1 s.1.2.2.1 s.1.2.2.2.1 s.2.1.1
def NR (g0_r:bY->lK) (c0_r:bY->Bool) (g0_0:bY->pY) (s:bY):OT aZ:=(.br (c0_r s) (.ok ⟨(.ret,nG),g0_r s⟩) (.ok ⟨(.exit 0,nH),g0_0 s⟩))
def j4:aL:=⟨jK,xq,false⟩
section
variable (ok0:bY->Bool) (g0_r:bY->lK) (c0_r:bY->Bool) (g0_0:bY->pY)
def VJ (a0:eC) (c0_0:Int):OT kL.Y:=
 let z0:bY:=((a0,(),(↑(List.length a0):Int),(0:Int),()),(c0_0,()),())
 let z1:lK:=g0_r z0
 (gd [ok0 z0] (.br (c0_r z0)
 (.ok ⟨j4,((z1.fst.fst,()),(z1.snd.fst.fst,()),())⟩)
 (.ok ⟨j4,(((-1:Int),()),((g0_0 z0).snd.fst.fst,()),())⟩)))
theorem VI (h0:bh vD ok0 (NR g0_r c0_r g0_0)) (pre:Bt->Bool) (F:Bt->OT kL.Y) (hF:∀ (x:Bt) oy,pre x=true->(F x).run=some oy->(VJ ok0 g0_r c0_r g0_0 x.1.1 x.2.1.1).run=some oy):aa aj 201 (kL.az pre F):=
 di Md 201 Tryz.f201 kL [j4] (lg Md 0 alP [(0,nH)] (some nG) none vD bD h0 bD) (λx=>VJ ok0 g0_r c0_r g0_0 x.1.1 x.2.1.1) hF
end
def oN (l:List Tm) (i:Int):Nat->Nat->Int
 |0,_=> -1
 |n+1,k=>cond (rA (l.getD k lm).1 i) (k:Int) (oN l i n (k+1))
def Jg (s:bY):Bool:=decide (s.1.2.2.1=(s.1.1.length:Int)/\s.1.2.2.2.1=0/\s.1.1.length<=140737488355328)
def kc (l:List Tm) (i:Int):Int:=oN l i l.length 0
def Jh (s:bY):lK:=((kc s.1.1 s.2.1.1,()),s.2)
def NS (s:bY):Bool:=decide (0<=kc s.1.1 s.2.1.1)
def NQ (s:bY):pY:=((),s.2)
def Wt (l:List Tm) (i k:Int):bY:=((l,(),(l.length:Int),k,()),(i,()),())
theorem Xe (l:List Tm) (i:Int):∀ n k,oN l i n k= -1\/0<=oN l i n k
 |0,_=>.inl rfl
 |n+1,k=>by
  unfold oN
  cases rA (l.getD k lm).1 i
  ·exact Xe l i n (k+1)
  ·right
   show (0:Int)<=(k:Int)
   omega
theorem ahe (l:List Tm) (i:Int) (hl:l.length<=140737488355328):∀ n k:Nat,k+n=l.length->
 ∃ m,cW vD m (Wt l i (k:Int))=some (cond (decide (0<=oN l i n k)) ⟨(.ret,nG),((oN l i n k,()),(i,()),())⟩ ⟨(.exit 0,nH),((),(i,()),())⟩)
 |0,k,h=>⟨1,aV (OT.au (bq (by dsimp only [Wt];omega)))⟩
 |n+1,k,h=>by
  have hin:inB (k:Int) l.length=true:=ba (by omega)
  have hgd:∀ z:OT (Sum bY aZ),(gd [inB (k:Int) l.length] z).run=z.run:=λz=>ae (by rw [hin];rfl)
  unfold oN
  rcases (b9 (rA (l.getD k lm).1 i)).symm with hb|hb
  ·obtain ⟨m,hm⟩:=ahe l i hl n (k+1) (by omega)
   rw [hb]
   refine ⟨m+1,bN ?_ hm⟩
   refine (OT.ak (ag (by dsimp only [Wt];omega))).trans ((hgd _).trans ((OT.au hb).trans ((ae ?_).trans rfl)))
   simp only [aA,aI,aJ]
   exact aS (by dsimp only [Wt];omega)
  ·rw [hb]
   have e:decide ((0:Int)<=cond true (k:Int) (oN l i n (k+1)))=true:=ag (by show (0:Int)<=(k:Int);omega)
   rw [e]
   refine ⟨1,aV ?_⟩
   exact (OT.ak (ag (by dsimp only [Wt];omega))).trans ((hgd _).trans ((OT.ak hb).trans rfl))
theorem alR:bh vD Jg (NR Jh NS NQ):=by
 rintro ⟨⟨l,⟨⟩,n,k,⟨⟩⟩,⟨⟨i,⟨⟩⟩,⟨⟩⟩⟩ h
 have h':=bm h
 dsimp only at h'
 obtain ⟨rfl,rfl,hl⟩:=h'
 obtain ⟨m,hm⟩:=ahe l i hl l.length 0 (by omega)
 refine ⟨m,_,hm,?_⟩
 show (OT.br (decide (0<=kc l i)) _ _:OT aZ).run=some (cond (decide (0<=kc l i)) _ _)
 cases decide (0<=kc l i)<;>rfl
def yM (x:Bt):Bool:=decide (x.1.1.length<=140737488355328)
def VK (x:Bt):OT kL.Y:=.ok ⟨j4,((kc x.1.1 x.2.1.1,()),x.2)⟩
theorem alQ:aa aj 201 (kL.az yM VK):=VI Jg Jh NS NQ alR _ _ λx oy hp ho=>by
 rw [<-ho]
 clear ho
 obtain ⟨⟨l,⟨⟩,⟨⟩⟩,⟨⟨i,⟨⟩⟩,⟨⟩⟩⟩:=x
 have hl:l.length<=140737488355328:=bm hp
 refine (ae ?_).trans ?_
 ·simp only [aA,aI,aJ]
  exact ag ⟨rfl,rfl,hl⟩
 ·show (OT.br (decide (0<=kc l i)) (.ok ⟨j4,((kc l i,()),(i,()),())⟩) (.ok ⟨j4,(((-1:Int),()),(i,()),())⟩):OT kL.Y).run=some ⟨j4,((kc l i,()),(i,()),())⟩
  rcases Xe l i l.length 0 with h|h
  ·have h:kc l i= -1:=h
   rw [h]
   rfl
  ·exact OT.ak (ag h)
def sU:bt:=(kL.az yM VK)
theorem Q7:aa aj 201 sU:=alQ
theorem Q6:ax sU:=av
def Zg:Env:=aq 201 sU avc
theorem Mf:bV aj te Zg:=aU follows Md Q7 Q6
def pZ:af:=⟨[L5,.fn 196 [0]],xq,true,1,true⟩
abbrev Jj:Type:=(eC×ct)×o4
def Ji:aL:=⟨og,xq,false⟩
def agN (a0:eC) (c0_0:Int):OT pZ.Y:=
 (gd [yM ((a0,(),()),(c0_0,()),())] (.ok ⟨Ji,((decide ((0:Int)<=kc a0 c0_0),()),(c0_0,()),())⟩))
theorem abE (pre:Jj->Bool) (F:Jj->OT pZ.Y) (hF:∀ (x:Jj) oy,pre x=true->(F x).run=some oy->(agN x.1.1 x.2.1.1).run=some oy):aa aj 195 (pZ.az pre F):=
 di Mf 195 Tryz.f195 pZ [Ji] bD (λx=>agN x.1.1 x.2.1.1) hF
def aFD (l:List Tm) (i:Int):Bool:=decide (0<=kc l i)
def vE (x:Jj):Bool:=decide (x.1.1.length<=140737488355328)
def agO (x:Jj):OT pZ.Y:=.ok ⟨Ji,((aFD x.1.1 x.2.1.1,()),x.2)⟩
theorem aqT:aa aj 195 (pZ.az vE agO):=abE _ _ λx oy hp ho=>by
 rw [<-ho]
 clear ho
 refine (ae ?_).trans rfl
 simp only [aA,aI,aJ]
 exact hp
def yN:bt:=(pZ.az vE agO)
theorem VM:aa aj 195 yN:=aqT
theorem VL:ax yN:=av
def ajl:Env:=aq 195 yN Zg
theorem EY:bV aj te ajl:=aU follows Mf VM VL
def Fy:af:=⟨[L5],[],true,0,false⟩
abbrev aqB:Type:=o6×Unit
def aDY:Shape:=⟨14,[(0,lC),Cu],xq,0,true⟩
abbrev cY:Type:=(eC×ct)×o4
def Bk:Shape:=⟨14,[(2,aC)],[],0,true⟩
abbrev vv:Type:=o4
def Bl:Shape:=⟨14,[],[],0,true⟩
abbrev vw:Type:=ct
def aD1 (a0:eC) (c0_0:Int):OT (Sum cY aZ):=
 (.br (decide ((0:Int)<=c0_0))
 (gd [vE ((a0,(),()),(c0_0,()),())] (.br (aFD a0 c0_0)
  (gd [inR (c0_0+(1:Int))] (.ok (.inr ⟨(.ret,Bk),((c0_0+(1:Int),()),())⟩)))
  (gd [inR (c0_0-(1:Int))] (.ok (.inl ((a0,(),()),(c0_0-(1:Int),()),()))))))
 (.ok (.inr ⟨(.exit 0,Bl),((),())⟩)))
def QW (s:cY):OT (Sum cY aZ):=aD1 s.1.1 s.2.1.1
def aqz (g0_r:cY->vv) (c0_r:cY->Bool) (g0_0:cY->vw) (s:cY):OT aZ:=(.br (c0_r s) (.ok ⟨(.ret,Bk),g0_r s⟩) (.ok ⟨(.exit 0,Bl),g0_0 s⟩))
def yI:aL:=⟨jK,[],false⟩
def aAQ (ok0:cY->Bool) (g0_r:cY->vv) (c0_r:cY->Bool) (g0_0:cY->vw) (a0:eC):OT Fy.Y:=
 let z0:cY:=((a0,(),()),((255:Int),()),())
 (gd [ok0 z0] (.br (c0_r z0)
 (.ok ⟨yI,(((g0_r z0).fst.fst,()),())⟩)
 (.ok ⟨yI,(((0:Int),()),())⟩)))
theorem aqx (ok0:cY->Bool) (g0_r:cY->vv) (c0_r:cY->Bool) (g0_0:cY->vw) (h0:bh QW ok0 (aqz g0_r c0_r g0_0)) (pre:aqB->Bool) (F:aqB->OT Fy.Y) (hF:∀ (x:aqB) oy,pre x=true->(F x).run=some oy->(aAQ ok0 g0_r c0_r g0_0 x.1.1).run=some oy):aa aj 181 (Fy.az pre F):=
 di EY 181 Tryz.f181 Fy [yI] (lg EY 0 aDY [(0,Bl)] (some Bk) none QW bD h0 bD) (λx=>aAQ ok0 g0_r c0_r g0_0 x.1.1) hF
def anS (l:List Tm):Nat->Nat
 |0=>0
 |n+1=>cond (aFD l (n:Int)) (n+1) (anS l n)
def ZF (l:List Tm):Nat:=anS l 256
def agD (s:cY):Bool:=decide (s.2.1.1=255/\s.1.1.length<=140737488355328)
def agE (s:cY):vv:=(((ZF s.1.1:Int),()),())
def aqA (s:cY):Bool:=decide ((0:Int)<(ZF s.1.1:Int))
def aqy (_:cY):vw:=((),())
def M8 (l:List Tm) (i:Int):cY:=((l,(),()),(i,()),())
theorem ae5 (l:List Tm) (hl:l.length<=140737488355328):∀ n:Nat,n<=256->
 ∃ m,cW QW m (M8 l ((n:Int)-1))=some (cond (decide ((0:Int)<(anS l n:Int))) ⟨(.ret,Bk),(((anS l n:Int),()),())⟩ ⟨(.exit 0,Bl),((),())⟩)
 |0,_=>⟨1,aV (OT.au (bq (by dsimp only [M8];omega)))⟩
 |n+1,h=>by
  rw [show ((n+1:Nat):Int)-1=(n:Int) by omega]
  have hgd:∀ z:OT (Sum cY aZ),(gd [vE ((l,(),()),((n:Int),()),())] z).run=z.run:=λz=>ae (by
   simp only [aA,aI,aJ]
   exact ag hl)
  unfold anS
  rcases (b9 (aFD l (n:Int))).symm with hb|hb
  ·obtain ⟨m,hm⟩:=ae5 l hl n (by omega)
   rw [hb]
   refine ⟨m+1,bN ?_ hm⟩
   refine (OT.ak (ag (by dsimp only [M8];omega))).trans ((hgd _).trans ((OT.au hb).trans ((ae ?_).trans rfl)))
   simp only [aA,aI,aJ]
   exact aS (by dsimp only [M8];omega)
  ·rw [hb]
   simp only [aK]
   rw [ag (show (0:Int)<((n+1:Nat):Int) by omega)]
   refine ⟨1,aV ?_⟩
   refine (OT.ak (ag (by dsimp only [M8];omega))).trans ((hgd _).trans ((OT.ak hb).trans ((ae ?_).trans rfl)))
   simp only [aA,aI,aJ]
   exact aS (by dsimp only [M8];omega)
theorem aD0:bh QW agD (aqz agE aqA aqy):=by
 rintro ⟨⟨l,⟨⟩,⟨⟩⟩,⟨⟨i,⟨⟩⟩,⟨⟩⟩⟩ h
 have h':=bm h
 dsimp only at h'
 obtain ⟨rfl,hl⟩:=h'
 obtain ⟨m,hm⟩:=ae5 l hl 256 (by omega)
 refine ⟨m,_,hm,?_⟩
 show (OT.br (decide ((0:Int)<(anS l 256:Int))) _ _:OT aZ).run=some (cond (decide ((0:Int)<(anS l 256:Int))) _ _)
 cases decide ((0:Int)<(anS l 256:Int))<;>rfl
def QV (x:aqB):Bool:=decide (x.1.1.length<=140737488355328)
def aAR (x:aqB):OT Fy.Y:=.ok ⟨yI,(((ZF x.1.1:Int),()),())⟩
theorem aDZ:aa aj 181 (Fy.az QV aAR):=aqx agD agE aqA aqy aD0 _ _ λx oy hp ho=>by
 rw [<-ho]
 clear ho
 obtain ⟨⟨l,⟨⟩⟩,⟨⟩⟩:=x
 have hl:l.length<=140737488355328:=bm hp
 refine (ae ?_).trans ?_
 ·simp only [aA,aI,aJ]
  exact ag ⟨rfl,hl⟩
 ·show (OT.br (decide ((0:Int)<(ZF l:Int))) (.ok ⟨yI,(((ZF l:Int),()),())⟩) (.ok ⟨yI,(((0:Int),()),())⟩):OT Fy.Y).run=some ⟨yI,(((ZF l:Int),()),())⟩
  by_cases h:(0:Int)<(ZF l:Int)
  ·exact OT.ak (ag h)
  ·have e:ZF l=0:=by omega
   rw [e]
   rfl
def I8:bt:=(Fy.az QV aAR)
theorem alC:aa aj 181 I8:=aDZ
theorem alB:ax I8:=av
def aB9:Env:=aq 181 I8 ajl
theorem wL:bV aj te aB9:=aU follows EY alC alB
def j6:af:=⟨[aC,L5,aC],[],true,0,false⟩
abbrev sW:Type:=(Int×eC×eU)×Unit
def abI:Shape:=⟨74,[jL,(1,lC),(2,aC),jU,Ai,(16,aC)],[lA,CC],0,true⟩
abbrev cj:Type:=(Int×eC×Int×m5)×kk×LQ
def lO:Shape:=⟨74,[jL,(1,lC),(2,aC),jU,Ai],[lA,CC],0,true⟩
abbrev gg:Type:=(Int×eC×jS)×kk×LQ
def abQ (a0:Int) (a1:eC) (a2:Int) (a16:Int) (c0_0:UInt64) (c0_1:UInt64) (c0_2:UInt64) (c0_3:UInt64) (c0_4:UInt64) (c0_5:UInt64) (c0_6:UInt64) (c0_7:UInt64) (c0_8:Bool) (c1:cJ):OT (Sum cj aZ):=
 let z0:ab:= {w0:=0,w1:=0,w2:=0,w3:=0}
 (.br (decide (a16<(15:Int)))
 (gd [inB a16 15,decide (Int.toNat a16+0<List.length c1),inR (a16+(1:Int))] (.ok (.inl ((a0,a1,a2,(),(),a16+(1:Int),()),(c0_0,c0_1,c0_2,c0_3,c0_4,c0_5,c0_6,c0_7,c0_8,()),List.set c1 (Int.toNat a16+0) (z0,z0,true),()))))
 (.ok (.inr ⟨(.exit 0,lO),((a0,a1,a2,(),(),()),(c0_0,c0_1,c0_2,c0_3,c0_4,c0_5,c0_6,c0_7,c0_8,()),c1,())⟩)))
def qe (s:cj):OT (Sum cj aZ):=abQ s.1.1 s.1.2.1 s.1.2.2.1 s.1.2.2.2.2.2.1 s.2.1.1 s.2.1.2.1 s.2.1.2.2.1 s.2.1.2.2.2.1 s.2.1.2.2.2.2.1 s.2.1.2.2.2.2.2.1 s.2.1.2.2.2.2.2.2.1 s.2.1.2.2.2.2.2.2.2.1 s.2.1.2.2.2.2.2.2.2.2.1 s.2.2.1
def Jq (g0_0:cj->gg) (s:cj):OT aZ:=(.ok ⟨(.exit 0,lO),g0_0 s⟩)
def abH:Shape:=⟨74,[jL,(2,aC),jU,Ai,(23,lC),(24,aC),(25,aC)],[lA,CC],0,true⟩
abbrev ci:Type:=(Int×Int×Unit×Unit×eC×jR)×kk×LQ
def abG:Shape:=⟨74,[jL,(2,aC),jU,Ai,(10,fE),(11,aC),(23,lC),(24,aC),(25,aC),(29,aC)],aBQ,0,true⟩
abbrev bj:Type:=(Int×Int×Unit×Unit×Unit×Int×eC×Int×jR)×kk×cJ×auO×Unit
def lM:Shape:=⟨74,[jL,(2,aC),jU,Ai,(10,fE),(11,aC),(23,lC),(24,aC),(25,aC)],aBQ,0,true⟩
abbrev du:Type:=(Int×Int×Unit×Unit×Unit×Int×eC×jR)×kk×cJ×auO×Unit
def abP (a0:Int) (a2:Int) (a11:Int) (a23:eC) (a24:Int) (a25:Int) (a29:Int) (c0_0:UInt64) (c0_1:UInt64) (c0_2:UInt64) (c0_3:UInt64) (c0_4:UInt64) (c0_5:UInt64) (c0_6:UInt64) (c0_7:UInt64) (c0_8:Bool) (c1:cJ) (c2_0:UInt64) (c2_1:UInt64) (c2_2:UInt64) (c2_3:UInt64) (c2_4:UInt64) (c2_5:UInt64) (c2_6:UInt64) (c2_7:UInt64) (c2_8:UInt64) (c2_9:UInt64) (c2_10:UInt64) (c2_11:UInt64) (c2_12:Bool):OT (Sum bj aZ):=
 let z0:Bool:=inR (a29+(1:Int))
 (.br (decide (a29<(4:Int)))
 (gd [inR (a2+a29)] (.br (rA {w0:=c2_0,w1:=c2_1,w2:=c2_2,w3:=c2_3} (a2+a29))
  (gd [decide ((0:Int)<=a29),z0] (.ok (.inl ((a0,a2,(),(),(),ior a11 (V0 (1:Int) a29),a23,a24,a25,a29+(1:Int),()),(c0_0,c0_1,c0_2,c0_3,c0_4,c0_5,c0_6,c0_7,c0_8,()),c1,(c2_0,c2_1,c2_2,c2_3,c2_4,c2_5,c2_6,c2_7,c2_8,c2_9,c2_10,c2_11,c2_12,()),()))))
  (gd [z0] (.ok (.inl ((a0,a2,(),(),(),a11,a23,a24,a25,a29+(1:Int),()),(c0_0,c0_1,c0_2,c0_3,c0_4,c0_5,c0_6,c0_7,c0_8,()),c1,(c2_0,c2_1,c2_2,c2_3,c2_4,c2_5,c2_6,c2_7,c2_8,c2_9,c2_10,c2_11,c2_12,()),()))))))
 (.ok (.inr ⟨(.exit 4,lM),((a0,a2,(),(),(),a11,a23,a24,a25,()),(c0_0,c0_1,c0_2,c0_3,c0_4,c0_5,c0_6,c0_7,c0_8,()),c1,(c2_0,c2_1,c2_2,c2_3,c2_4,c2_5,c2_6,c2_7,c2_8,c2_9,c2_10,c2_11,c2_12,()),())⟩)))
def qd (s:bj):OT (Sum bj aZ):=abP s.1.1 s.1.2.1 s.1.2.2.2.2.2.1 s.1.2.2.2.2.2.2.1 s.1.2.2.2.2.2.2.2.1 s.1.2.2.2.2.2.2.2.2.1 s.1.2.2.2.2.2.2.2.2.2.1 s.2.1.1 s.2.1.2.1 s.2.1.2.2.1 s.2.1.2.2.2.1 s.2.1.2.2.2.2.1 s.2.1.2.2.2.2.2.1 s.2.1.2.2.2.2.2.2.1 s.2.1.2.2.2.2.2.2.2.1 s.2.1.2.2.2.2.2.2.2.2.1 s.2.2.1 s.2.2.2.1.1 s.2.2.2.1.2.1 s.2.2.2.1.2.2.1 s.2.2.2.1.2.2.2.1 s.2.2.2.1.2.2.2.2.1 s.2.2.2.1.2.2.2.2.2.1 s.2.2.2.1.2.2.2.2.2.2.1 s.2.2.2.1.2.2.2.2.2.2.2.1 s.2.2.2.1.2.2.2.2.2.2.2.2.1 s.2.2.2.1.2.2.2.2.2.2.2.2.2.1 s.2.2.2.1.2.2.2.2.2.2.2.2.2.2.1 s.2.2.2.1.2.2.2.2.2.2.2.2.2.2.2.1 s.2.2.2.1.2.2.2.2.2.2.2.2.2.2.2.2.1
def Jo (g4_4:bj->du) (s:bj):OT aZ:=(.ok ⟨(.exit 4,lM),g4_4 s⟩)
def lN:Shape:=⟨74,[jL,jU,Ai],[lA,CC],0,true⟩
abbrev gb:Type:=jS×kk×LQ
def Jr (ok4:bj->Bool) (g4_4:bj->du) (a0:Int) (a2:Int) (a23:eC) (a24:Int) (a25:Int) (c0_0:UInt64) (c0_1:UInt64) (c0_2:UInt64) (c0_3:UInt64) (c0_4:UInt64) (c0_5:UInt64) (c0_6:UInt64) (c0_7:UInt64) (c0_8:Bool) (c1:cJ):OT (Sum ci aZ):=
 let z0:ab:= {w0:=0,w1:=0,w2:=0,w3:=0}
 let z1:cK:=(z0,z0,false)
 let z2:ab×cK:=List.getD a23 (Int.toNat a25) (z0,z1)
 let z3:=z2.fst
 let z4:=z2.snd
 let z5:=z4.fst
 let z6:=z4.snd
 let z7:=z6.fst
 let z8:bj:=((a0,a2,(),(),(),(0:Int),a23,a24,a25,(0:Int),()),(c0_0,c0_1,c0_2,c0_3,c0_4,c0_5,c0_6,c0_7,c0_8,()),c1,(z3.w0,z3.w1,z3.w2,z3.w3,z5.w0,z5.w1,z5.w2,z5.w3,z7.w0,z7.w1,z7.w2,z7.w3,z6.snd,()),())
 let z9:du:=g4_4 z8
 let z10:=z9.fst
 let z11:=z10.snd
 let z12:=z11.snd.snd.snd.snd
 let z13:=z12.fst
 let z14:Bool:=inR (z13-(1:Int))
 let z15:Bool:=inB (z13-(1:Int)) 15
 let z16:=z9.snd
 let z17:=z16.snd
 let z18:=z17.fst
 let z19:Bool:=decide (Int.toNat (z13-(1:Int))+0<List.length z18)
 let z20:=z12.snd
 let z21:=z20.snd
 let z22:Bool:=inR (z21.snd.fst+(1:Int))
 let z23:=z10.fst
 let z24:=z11.fst
 let z25:=z20.fst
 let z26:=z21.fst
 let z27:=z16.fst
 let z28:=z27.fst
 let z29:=z27.snd
 let z30:=z29.fst
 let z31:=z29.snd
 let z32:=z31.fst
 let z33:=z31.snd
 let z34:=z33.fst
 let z35:=z33.snd
 let z36:=z35.fst
 let z37:=z35.snd
 let z38:=z37.fst
 let z39:=z37.snd
 let z40:=z39.fst
 let z41:=z39.snd
 let z42:=z41.fst
 let z43:=z41.snd.fst
 let z44:=z17.snd.fst.snd.snd.snd.snd
 let z45:=z44.snd
 let z46:=z45.snd
 let z47:=z46.snd
 let z48:=z47.snd
 let z49:=z48.snd
 let z50:=z49.snd
 let z51:=z50.snd
 (.br (decide (a25<a24))
 (gd [inB a25 (List.length a23),ok4 z8] (.br (decide ((0:Int)<z13))
  (gd [z14,z14,z15,z19,z15,z19,z22] (.ok (.inl ((z23,z24,(),(),z25,z26,z21.snd.fst+(1:Int),()),(z28,z30,z32,z34,z36,z38,z40,z42,z43,()),List.set z18 (Int.toNat (z13-(1:Int))+0) (fT z23 (List.getD z18 (Int.toNat (z13-(1:Int))+0) z1) ({w0:=z44.fst,w1:=z45.fst,w2:=z46.fst,w3:=z47.fst},{w0:=z48.fst,w1:=z49.fst,w2:=z50.fst,w3:=z51.fst},z51.snd.fst)),()))))
  (gd [z22] (.ok (.inl ((z23,z24,(),(),z25,z26,z21.snd.fst+(1:Int),()),(z28,z30,z32,z34,z36,z38,z40,z42,z43,()),z18,()))))))
 (.ok (.inr ⟨(.exit 2,lN),((a0,(),(),()),(c0_0,c0_1,c0_2,c0_3,c0_4,c0_5,c0_6,c0_7,c0_8,()),c1,())⟩)))
def j5 (ok4:bj->Bool) (g4_4:bj->du) (s:ci):OT (Sum ci aZ):=Jr ok4 g4_4 s.1.1 s.1.2.1 s.1.2.2.2.2.1 s.1.2.2.2.2.2.1 s.1.2.2.2.2.2.2.1 s.2.1.1 s.2.1.2.1 s.2.1.2.2.1 s.2.1.2.2.2.1 s.2.1.2.2.2.2.1 s.2.1.2.2.2.2.2.1 s.2.1.2.2.2.2.2.2.1 s.2.1.2.2.2.2.2.2.2.1 s.2.1.2.2.2.2.2.2.2.2.1 s.2.2.1
def Jp (g2_2:ci->gb) (s:ci):OT aZ:=(.ok ⟨(.exit 2,lN),g2_2 s⟩)
def abF:Shape:=⟨74,[jL,jU,Ai,(13,fE),(14,gv),(15,aC)],[lA,CC,(2,YX),(3,YX)],0,true⟩
abbrev cg:Type:=(Int×Ct)×kk×cJ×uB
def lL:Shape:=⟨74,[jU,(14,ir)],L0,0,true⟩
abbrev iD:Type:=m6×uB
def abO (a0:Int) (a15:Int) (c0_0:UInt64) (c0_1:UInt64) (c0_2:UInt64) (c0_3:UInt64) (c0_4:UInt64) (c0_5:UInt64) (c0_6:UInt64) (c0_7:UInt64) (c0_8:Bool) (c1:cJ) (c2_0:UInt64) (c2_1:UInt64) (c2_2:UInt64) (c2_3:UInt64) (c2_4:UInt64) (c2_5:UInt64) (c2_6:UInt64) (c2_7:UInt64) (c2_8:Bool) (c3_0:UInt64) (c3_1:UInt64) (c3_2:UInt64) (c3_3:UInt64) (c3_4:UInt64) (c3_5:UInt64) (c3_6:UInt64) (c3_7:UInt64) (c3_8:Bool):OT (Sum cg aZ):=
 let z0:ab:= {w0:=0,w1:=0,w2:=0,w3:=0}
 let z1:cK:=fT a0 ({w0:=c2_0,w1:=c2_1,w2:=c2_2,w3:=c2_3},{w0:=c2_4,w1:=c2_5,w2:=c2_6,w3:=c2_7},c2_8) (List.getD c1 (Int.toNat a15+0) (z0,z0,false))
 let z2:=z1.fst
 let z3:=z1.snd
 let z4:=z3.fst
 let z5:cK:=fT a0 ({w0:=c3_0,w1:=c3_1,w2:=c3_2,w3:=c3_3},{w0:=c3_4,w1:=c3_5,w2:=c3_6,w3:=c3_7},c3_8) z1
 let z6:=z5.fst
 let z7:=z5.snd
 let z8:=z7.fst
 (.br (decide ((0:Int)<=a15))
 (gd [inB a15 15,decide (Int.toNat a15+0<List.length c1),inR (a15-(1:Int))] (.ok (.inl ((a0,(),(),(),(),a15-(1:Int),()),(c0_0,c0_1,c0_2,c0_3,c0_4,c0_5,c0_6,c0_7,c0_8,()),c1,(z2.w0,z2.w1,z2.w2,z2.w3,z4.w0,z4.w1,z4.w2,z4.w3,z3.snd,()),(z6.w0,z6.w1,z6.w2,z6.w3,z8.w0,z8.w1,z8.w2,z8.w3,z7.snd,()),()))))
 (.ok (.inr ⟨(.exit 6,lL),(((),(),()),(c0_0,c0_1,c0_2,c0_3,c0_4,c0_5,c0_6,c0_7,c0_8,()),(c3_0,c3_1,c3_2,c3_3,c3_4,c3_5,c3_6,c3_7,c3_8,()),())⟩)))
def qc (s:cg):OT (Sum cg aZ):=abO s.1.1 s.1.2.2.2.2.2.1 s.2.1.1 s.2.1.2.1 s.2.1.2.2.1 s.2.1.2.2.2.1 s.2.1.2.2.2.2.1 s.2.1.2.2.2.2.2.1 s.2.1.2.2.2.2.2.2.1 s.2.1.2.2.2.2.2.2.2.1 s.2.1.2.2.2.2.2.2.2.2.1 s.2.2.1 s.2.2.2.1.1 s.2.2.2.1.2.1 s.2.2.2.1.2.2.1 s.2.2.2.1.2.2.2.1 s.2.2.2.1.2.2.2.2.1 s.2.2.2.1.2.2.2.2.2.1 s.2.2.2.1.2.2.2.2.2.2.1 s.2.2.2.1.2.2.2.2.2.2.2.1 s.2.2.2.1.2.2.2.2.2.2.2.2.1 s.2.2.2.2.1.1 s.2.2.2.2.1.2.1 s.2.2.2.2.1.2.2.1 s.2.2.2.2.1.2.2.2.1 s.2.2.2.2.1.2.2.2.2.1 s.2.2.2.2.1.2.2.2.2.2.1 s.2.2.2.2.1.2.2.2.2.2.2.1 s.2.2.2.2.1.2.2.2.2.2.2.2.1 s.2.2.2.2.1.2.2.2.2.2.2.2.2.1
def Jn (g6_6:cg->iD) (s:cg):OT aZ:=(.ok ⟨(.exit 6,lL),g6_6 s⟩)
def qa:aL:=⟨o8,[],false⟩
def vF (ok0:cj->Bool) (g0_0:cj->gg) (ok4:bj->Bool) (g4_4:bj->du) (ok2:ci->Bool) (g2_2:ci->gb) (ok6:cg->Bool) (g6_6:cg->iD) (a0:Int) (a1:eC) (a2:Int):OT j6.Y:=
 let z0:ab:= {w0:=0,w1:=0,w2:=0,w3:=0}
 let z1:cK:=(z0,z0,false)
 let z2:cj:=((a0,a1,a2,(),(),(0:Int),()),((0:UInt64),(0:UInt64),(0:UInt64),(0:UInt64),(0:UInt64),(0:UInt64),(0:UInt64),(0:UInt64),false,()),[z1,z1,z1,z1,z1,z1,z1,z1,z1,z1,z1,z1,z1,z1,z1],())
 let z3:gg:=g0_0 z2
 let z4:=z3.fst
 let z5:=z4.snd
 let z6:=z5.fst
 let z7:=z3.snd
 let z8:=z7.fst
 let z9:=z8.snd
 let z10:=z9.snd
 let z11:=z10.snd
 let z12:=z11.snd
 let z13:=z12.snd
 let z14:=z13.snd
 let z15:=z14.snd
 let z16:ci:=((z4.fst,z5.snd.fst,(),(),z6,(↑(List.length z6):Int),(0:Int),()),(z8.fst,z9.fst,z10.fst,z11.fst,z12.fst,z13.fst,z14.fst,z15.fst,z15.snd.fst,()),z7.snd.fst,())
 let z17:gb:=g2_2 z16
 let z18:=z17.snd
 let z19:=z18.fst
 let z20:=z19.snd
 let z21:=z20.snd
 let z22:=z21.snd
 let z23:=z22.snd
 let z24:=z23.snd
 let z25:=z24.snd
 let z26:=z25.snd
 let z27:aiP:=((0:UInt64),(0:UInt64),(0:UInt64),(0:UInt64),(0:UInt64),(0:UInt64),(0:UInt64),(0:UInt64),true,())
 let z28:cg:=((z17.fst.fst,(),(),(),(),(14:Int),()),(z19.fst,z20.fst,z21.fst,z22.fst,z23.fst,z24.fst,z25.fst,z26.fst,z26.snd.fst,()),z18.snd.fst,z27,z27,())
 let z29:=(g6_6 z28).snd.snd.fst
 let z30:=z29.snd
 let z31:=z30.snd
 let z32:=z31.snd
 let z33:=z32.snd
 let z34:=z33.snd
 let z35:=z34.snd
 let z36:=z35.snd
 (gd [ok0 z2,ok2 z16,ok6 z28] (.ok ⟨qa,((({w0:=z29.fst,w1:=z30.fst,w2:=z31.fst,w3:=z32.fst},{w0:=z33.fst,w1:=z34.fst,w2:=z35.fst,w3:=z36.fst},z36.snd.fst),()),())⟩))
theorem Q8 (ok0:cj->Bool) (g0_0:cj->gg) (ok4:bj->Bool) (g4_4:bj->du) (ok2:ci->Bool) (g2_2:ci->gb) (ok6:cg->Bool) (g6_6:cg->iD) (h0:bh qe ok0 (Jq g0_0)) (h4:bh qd ok4 (Jo g4_4)) (h2:bh (j5 ok4 g4_4) ok2 (Jp g2_2)) (h6:bh qc ok6 (Jn g6_6)) (pre:sW->Bool) (F:sW->OT j6.Y) (hF:∀ (x:sW) oy,pre x=true->(F x).run=some oy->(vF ok0 g0_0 ok4 g4_4 ok2 g2_2 ok6 g6_6 x.1.1 x.1.2.1 x.1.2.2.1).run=some oy):aa aj 182 (j6.az pre F):=
 di wL 182 Tryz.f182 j6 [qa] (lg wL 6 abF [(6,lL)] none none qc bD h6 (lg wL 2 abH [(2,lN)] none none (j5 ok4 g4_4) (lg wL 4 abG [(4,lM)] none none qd bD h4 bD) h2 (lg wL 0 abI [(0,lO)] none none qe bD h0 bD))) (λx=>vF ok0 g0_0 ok4 g4_4 ok2 g2_2 ok6 g6_6 x.1.1 x.1.2.1 x.1.2.2.1) hF
abbrev C13:Type:=auO
def ahB (t:Tm):C13:=(t.1.w0,t.1.w1,t.1.w2,t.1.w3,t.2.1.w0,t.2.1.w1,t.2.1.w2,t.2.1.w3,t.2.2.1.w0,t.2.2.1.w1,t.2.2.1.w2,t.2.2.1.w3,t.2.2.2,())
theorem af2 {α:Type} (x:α) (l:List α):∀ n,n<=l.length->upto (λk (o:List α)=>o.set k x) l n=List.replicate n x++l.drop n
 |0,_=>rfl
 |n+1,h=>by
  show (upto (λk (o:List α)=>o.set k x) l n).set n x=_
  rw [af2 x l n (by omega),List.set_append_right _ _ (by rw [fM];omega),fM,Nat.sub_self,m8 (by omega),List.set_cons_zero,List.replicate_succ',List.append_assoc]
  rfl
def FC (s:cj):Bool:=decide (s.1.2.2.2.2.2.1=0/\s.2.2.1.length=15)
def Jm (s:cj):gg:=((s.1.1,s.1.2.1,s.1.2.2.1,(),(),()),s.2.1,List.replicate 15 aM,())
theorem abN:bh qe FC (Jq Jm):=by
 rintro ⟨⟨c,l,at',⟨⟩,⟨⟩,i,⟨⟩⟩,⟨c0,S,⟨⟩⟩⟩ h
 have h':=bm h
 dsimp only at h'
 obtain ⟨rfl,hS⟩:=h'
 have:=(bf (T:=qe) (λi o=>(((c,l,at',(),(),(i:Int),()),c0,o,()):cj)) (λk (o:List Pt)=>o.set k aM)
  (λo=>(⟨(.exit 0,lO),((c,l,at',(),(),()),c0,o,())⟩:aZ)) 15 S (λ_ o=>o.length=15) hS (λk o hk ho=>⟨?_,(cu ..).trans ho⟩) (λo ho=> ?_)).1
 ·obtain ⟨m,hm⟩:=this
  rw [af2 aM S 15 (by omega),List.drop_eq_nil_of_le (by omega),List.append_nil] at hm
  exact ⟨m,_,hm,rfl⟩
 ·refine (OT.ak (ag (by dsimp only;omega))).trans ((ae ?_).trans ?_)
  ·simp only [ho,cD,Nat.add_zero,aA,aI,aJ,aw]
   exact ⟨ba (by omega),ag (by omega),aS (by omega)⟩
  ·simp only [OT.jf,cD,Nat.add_zero]
   rfl
 ·exact OT.au (bq (by dsimp only;omega))
def uc (k:ab) (a:Int) (n:Nat) (d:Int):Int:=cond (rA k (a+(n:Int))) (ior d (V0 1 (n:Int))) d
def XB (k:ab) (a:Int):Int:=upto (uc k a) 0 4
def aBA (b:Bool):Int:=cond b 1 0
theorem as8 (k:ab) (a:Int):XB k a=aBA (rA k a)+2*aBA (rA k (a+1))+4*aBA (rA k (a+2))+8*aBA (rA k (a+3)):=by
 have e0:a+((0:Nat):Int)=a:=by omega
 show uc k a 3 (uc k a 2 (uc k a 1 (uc k a 0 0)))=_
 unfold uc
 rw [e0,show a+((1:Nat):Int)=a+1 by omega,show a+((2:Nat):Int)=a+2 by omega,show a+((3:Nat):Int)=a+3 by omega]
 generalize rA k a=b0
 generalize rA k (a+1)=b1
 generalize rA k (a+2)=b2
 generalize rA k (a+3)=b3
 cases b0<;>cases b1<;>cases b2<;>cases b3<;>decide+kernel
theorem as7 (k:ab) (a:Int):0<=XB k a/\XB k a<=15:=by
 rw [as8]
 have h:∀ b,0<=aBA b/\aBA b<=1:=λb=>by cases b<;>decide
 have h0:=h (rA k a)
 have h1:=h (rA k (a+1))
 have h2:=h (rA k (a+2))
 have h3:=h (rA k (a+3))
 omega
def ad3 (c at' d:Int) (l:List Tm) (n i:Int) (b:Int) (c0:C9) (S:List Pt) (t:C13):bj:=((c,at',(),(),(),d,l,n,i,b,()),c0,S,t,())
def keyOf (t:C13):ab:=⟨t.1,t.2.1,t.2.2.1,t.2.2.2.1⟩
def nI (s:bj):Bool:=decide (s.1.2.2.2.2.2.1=0/\s.1.2.2.2.2.2.2.2.2.2.1=0/\0<=s.1.2.1/\s.1.2.1<=1000)
def qb (s:bj):du:=((s.1.1,s.1.2.1,(),(),(),XB (keyOf s.2.2.2.1) s.1.2.1,s.1.2.2.2.2.2.2.1,s.1.2.2.2.2.2.2.2.1,s.1.2.2.2.2.2.2.2.2.1,()),s.2)
theorem abL:bh qd nI (Jo qb):=by
 rintro ⟨⟨c,at',⟨⟩,⟨⟩,⟨⟩,d,l,n,i,b,⟨⟩⟩,⟨c0,S,t,⟨⟩⟩⟩ h
 have h':=bm h
 dsimp only at h'
 obtain ⟨rfl,rfl,ha0,ha1⟩:=h'
 have:=(bf (T:=qd) (λb d=>(((c,at',(),(),(),d,l,n,i,(b:Int),()),c0,S,t,()):bj)) (uc (keyOf t) at')
  (λd=>(⟨(.exit 4,lM),((c,at',(),(),(),d,l,n,i,()),c0,S,t,())⟩:aZ)) 4 0 (λ_ _=>True) trivial (λk d hk _=>⟨?_,trivial⟩) (λd _=> ?_)).1
 ·obtain ⟨m,hm⟩:=this
  exact ⟨m,_,hm,rfl⟩
 ·have hr:inR ((k:Int)+1)=true:=aS (by omega)
  have hgr:∀ z:OT (Sum bj aZ),(gd [inR ((k:Int)+1)] z).run=z.run:=λz=>ae (by rw [hr];rfl)
  refine (OT.ak (ag (by dsimp only;omega))).trans ((ae ?_).trans ?_)
  ·simp only [aA,aI,aJ]
   exact aS (by omega)
  ·unfold uc
   rcases (b9 (rA (keyOf t) (at'+(k:Int)))).symm with hb|hb
   ·rw [hb]
    exact (OT.au hb).trans ((hgr _).trans rfl)
   ·rw [hb]
    refine (OT.ak hb).trans ((ae ?_).trans rfl)
    simp only [aA,aI,aJ,aw]
    exact ⟨ag (by omega),hr⟩
 ·exact OT.au (bq (by dsimp only;omega))
def fg (c a:Int) (l:List Tm) (k:Nat) (S:List Pt):List Pt:=cond (decide (0<XB (l.getD k lm).1 a))
 (S.set (XB (l.getD k lm).1 a-1).toNat (fT c (S.getD (XB (l.getD k lm).1 a-1).toNat fe) (l.getD k lm).2)) S
theorem mT (c a:Int) (l:List Tm) (k:Nat) (S:List Pt):(fg c a l k S).length=S.length:=by
 unfold fg
 cases decide (0<XB (l.getD k lm).1 a)
 ·rfl
 ·exact cu ..
def aDk (c a:Int) (l:List Tm) (S:List Pt):List Pt:=upto (fg c a l) S l.length
def FB (s:ci):Bool:=decide (s.1.2.2.2.2.2.1=(s.1.2.2.2.2.1.length:Int)/\s.1.2.2.2.2.2.2.1=0/\s.2.2.1.length=15/\(0<=s.1.2.1/\s.1.2.1<=1000)/\s.1.2.2.2.2.1.length<=140737488355328)
def Jl (s:ci):gb:=((s.1.1,(),(),()),s.2.1,aDk s.1.1 s.1.2.1 s.1.2.2.2.2.1 s.2.2.1,())
theorem aE9 {ok4:bj->Bool} {g4:bj->du} {c a:Int} {l:List Tm} {k:Nat} {c0:C9} {S:List Pt} {t:Tm} {d:Int} (ht:l.getD k lm=t) (hk:k<l.length) (hl:l.length<=140737488355328) (hS:S.length=15) (hd:0<=d/\d<=15)
 (h4:ok4 (ad3 c a 0 l (l.length:Int) (k:Int) 0 c0 S (ahB t))=true)
 (e4:g4 (ad3 c a 0 l (l.length:Int) (k:Int) 0 c0 S (ahB t))=((c,a,(),(),(),d,l,(l.length:Int),(k:Int),()),c0,S,ahB t,())):
 (j5 ok4 g4 ((c,a,(),(),l,(l.length:Int),(k:Int),()),c0,S,())).run=some (.inl ((c,a,(),(),l,(l.length:Int),((k+1:Nat):Int),()),c0,cond (decide (0<d)) (S.set (d-1).toNat (fT c (S.getD (d-1).toNat fe) t.2)) S,())):=by
 have hr:inR ((k:Int)+1)=true:=aS (by omega)
 unfold ad3 at h4 e4
 unfold j5 Jr
 have ht':List.getD l (Int.toNat (k:Int)) (⟨0,0,0,0⟩,⟨0,0,0,0⟩,⟨0,0,0,0⟩,false)=t:=by rw [cD];exact ht
 simp only [ht']
 refine (OT.ak (ag (by omega))).trans ((ae ?_).trans ?_)
 ·simp only [aA,aI,aJ,aw]
  exact ⟨ba (by omega),h4⟩
 ·have e4':g4 ((c,a,(),(),(),0,l,(l.length:Int),(k:Int),0,()),(c0.1,c0.2.1,c0.2.2.1,c0.2.2.2.1,c0.2.2.2.2.1,c0.2.2.2.2.2.1,c0.2.2.2.2.2.2.1,c0.2.2.2.2.2.2.2.1,c0.2.2.2.2.2.2.2.2.1,()),S,(t.1.w0,t.1.w1,t.1.w2,t.1.w3,t.2.1.w0,t.2.1.w1,t.2.1.w2,t.2.1.w3,t.2.2.1.w0,t.2.2.1.w1,t.2.2.1.w2,t.2.2.1.w3,t.2.2.2,()),())=((c,a,(),(),(),d,l,(l.length:Int),(k:Int),()),c0,S,ahB t,()):=e4
  simp only [e4']
  by_cases h0:0<d
  ·rw [ag h0]
   refine (OT.ak rfl).trans ((ae ?_).trans ?_)
   ·simp only [hS,Nat.add_zero,hr,aA,aI,aJ,aw]
    have i1:inR (d-1)=true:=aS (by omega)
    have i2:inB (d-1) 15=true:=ba (by omega)
    have i3:decide ((d-1).toNat<15)=true:=ag (by omega)
    exact ⟨i1,i1,i2,i3,i2,i3⟩
   ·rfl
  ·rw [bq h0]
   refine (OT.au rfl).trans ((ae ?_).trans rfl)
   simp only [hr,aA,aI,aJ]
theorem abM:bh (j5 nI qb) FB (Jp Jl):=by
 rintro ⟨⟨c,at',⟨⟩,⟨⟩,l,n,i,⟨⟩⟩,⟨c0,S,⟨⟩⟩⟩ h
 have h':=bm h
 dsimp only at h'
 obtain ⟨rfl,rfl,hS,⟨ha0,ha1⟩,hl⟩:=h'
 have:=(bf (T:=j5 nI qb) (λi o=>(((c,at',(),(),l,(l.length:Int),(i:Int),()),c0,o,()):ci)) (fg c at' l)
  (λo=>(⟨(.exit 2,lN),((c,(),(),()),c0,o,())⟩:aZ)) l.length S (λ_ o=>o.length=15) hS (λk o hk ho=>⟨?_,(mT c at' l k o).trans ho⟩) (λo ho=> ?_)).1
 ·obtain ⟨m,hm⟩:=this
  exact ⟨m,_,hm,rfl⟩
 ·exact aE9 rfl hk hl ho (as7 _ _) (ag ⟨rfl,rfl,ha0,ha1⟩) rfl
 ·exact OT.au (bq (by dsimp only;omega))
def ix (c:Int) (S:List Pt) (n:Nat) (w:Pt×Pt):Pt×Pt:=(fT c w.1 (S.getD (14-n) fe),fT c w.2 (fT c w.1 (S.getD (14-n) fe)))
def aHm (c:Int) (S:List Pt):Pt×Pt:=upto (ix c S) (aM,aM) 15
def FA (s:cg):Bool:=decide (s.1.2.2.2.2.2.1=14/\s.2.2.1.length=15/\Lb s.2.2.2.1=aM/\Lb s.2.2.2.2.1=aM)
def Jk (s:cg):iD:=(((),(),()),s.2.1,bR (aHm s.1.1 s.2.2.1).2,())
theorem abK:bh qc FA (Jn Jk):=by
 rintro ⟨⟨c,⟨⟩,⟨⟩,⟨⟩,⟨⟩,i,⟨⟩⟩,⟨c0,S,r,a,⟨⟩⟩⟩ h
 have h':=bm h
 dsimp only at h'
 obtain ⟨rfl,hS,hr,ha⟩:=h'
 have hr2:r=bR aM:=by rw [<-hr];rfl
 have ha2:a=bR aM:=by rw [<-ha];rfl
 subst hr2 ha2
 have:=(bf (T:=qc) (λn w=>(((c,(),(),(),(),14-(n:Int),()),c0,S,bR w.1,bR w.2,()):cg)) (ix c S)
  (λw=>(⟨(.exit 6,lL),(((),(),()),c0,bR w.2,())⟩:aZ)) 15 (aM,aM) (λ_ _=>True) trivial (λn w hn _=>⟨?_,trivial⟩) (λw _=> ?_)).1
 ·obtain ⟨m,hm⟩:=this
  exact ⟨m,_,hm,rfl⟩
 ·have e1:((14:Int)-(n:Int)).toNat=14-n:=by omega
  have e2:(14:Int)-(n:Int)-1=14-((n+1:Nat):Int):=by omega
  refine (OT.ak (ag (by dsimp only;omega))).trans ((ae ?_).trans ?_)
  ·simp only [e1,hS,Nat.add_zero,aA,aI,aJ,aw]
   exact ⟨ba (by omega),ag (by omega),aS (by omega)⟩
  ·rw [<-e2]
   simp only [OT.jf,e1,Nat.add_zero]
   rfl
 ·exact OT.au (bq (by dsimp only;omega))
def ad4 (c:Int) (l:List Tm) (a:Int):Pt:=(aHm c (aDk c a l (List.replicate 15 aM))).2
theorem Q9 {ok4:bj->Bool} {g4:bj->du} {ok0:cj->Bool} {g0:cj->gg} {ok2:ci->Bool} {g2:ci->gb} {ok6:cg->Bool} {g6:cg->iD} {c a:Int} {l:List Tm} {S0 S:List Pt} {R:Pt} {z:C9}
 (h0:ok0 ((c,l,a,(),(),0,()),bR fe,List.replicate 15 fe,())=true) (e0:g0 ((c,l,a,(),(),0,()),bR fe,List.replicate 15 fe,())=((c,l,a,(),(),()),bR fe,S0,()))
 (h2:ok2 ((c,a,(),(),l,(l.length:Int),0,()),bR fe,S0,())=true) (e2:g2 ((c,a,(),(),l,(l.length:Int),0,()),bR fe,S0,())=((c,(),(),()),bR fe,S,()))
 (h6:ok6 ((c,(),(),(),(),14,()),bR fe,S,bR aM,bR aM,())=true) (e6:g6 ((c,(),(),(),(),14,()),bR fe,S,bR aM,bR aM,())=(((),(),()),z,bR R,())):
 (vF ok0 g0 ok4 g4 ok2 g2 ok6 g6 c l a).run=some ⟨qa,((R,()),())⟩:=by
 have e0':g0 ((c,l,a,(),(),0,()),(0,0,0,0,0,0,0,0,false,()),[((⟨0,0,0,0⟩,⟨0,0,0,0⟩,false):Pt),((⟨0,0,0,0⟩,⟨0,0,0,0⟩,false):Pt),((⟨0,0,0,0⟩,⟨0,0,0,0⟩,false):Pt),((⟨0,0,0,0⟩,⟨0,0,0,0⟩,false):Pt),((⟨0,0,0,0⟩,⟨0,0,0,0⟩,false):Pt),((⟨0,0,0,0⟩,⟨0,0,0,0⟩,false):Pt),((⟨0,0,0,0⟩,⟨0,0,0,0⟩,false):Pt),((⟨0,0,0,0⟩,⟨0,0,0,0⟩,false):Pt),((⟨0,0,0,0⟩,⟨0,0,0,0⟩,false):Pt),((⟨0,0,0,0⟩,⟨0,0,0,0⟩,false):Pt),((⟨0,0,0,0⟩,⟨0,0,0,0⟩,false):Pt),((⟨0,0,0,0⟩,⟨0,0,0,0⟩,false):Pt),((⟨0,0,0,0⟩,⟨0,0,0,0⟩,false):Pt),((⟨0,0,0,0⟩,⟨0,0,0,0⟩,false):Pt),((⟨0,0,0,0⟩,⟨0,0,0,0⟩,false):Pt)],())=((c,l,a,(),(),()),bR fe,S0,()):=e0
 have e2':g2 ((c,a,(),(),l,(l.length:Int),0,()),((bR fe).1,(bR fe).2.1,(bR fe).2.2.1,(bR fe).2.2.2.1,(bR fe).2.2.2.2.1,(bR fe).2.2.2.2.2.1,(bR fe).2.2.2.2.2.2.1,(bR fe).2.2.2.2.2.2.2.1,(bR fe).2.2.2.2.2.2.2.2.1,()),S0,())=((c,(),(),()),bR fe,S,()):=e2
 have e6':g6 ((c,(),(),(),(),14,()),((bR fe).1,(bR fe).2.1,(bR fe).2.2.1,(bR fe).2.2.2.1,(bR fe).2.2.2.2.1,(bR fe).2.2.2.2.2.1,(bR fe).2.2.2.2.2.2.1,(bR fe).2.2.2.2.2.2.2.1,(bR fe).2.2.2.2.2.2.2.2.1,()),S,(0,0,0,0,0,0,0,0,true,()),(0,0,0,0,0,0,0,0,true,()),())=(((),(),()),z,bR R,()):=e6
 unfold vF
 simp only [e0',e2',e6']
 refine (ae ?_).trans rfl
 simp only [aA,aI,aJ,aw]
 exact ⟨h0,h2,h6⟩
theorem H8 (c a:Int) (l:List Tm) (S:List Pt):∀ n,(upto (fg c a l) S n).length=S.length
 |0=>rfl
 |n+1=>(mT c a l n _).trans (H8 c a l S n)
def sV (x:sW):Bool:=decide ((0<=x.1.2.2.1/\x.1.2.2.1<=1000)/\x.1.2.1.length<=140737488355328)
def NT (x:sW):OT j6.Y:=.ok ⟨qa,((ad4 x.1.1 x.1.2.1 x.1.2.2.1,()),())⟩
theorem abJ:aa aj 182 (j6.az sV NT):=Q8 FC Jm nI qb FB Jl FA Jk abN abL abM abK _ _ λx oy hp ho=>by
 rw [<-ho]
 clear ho
 obtain ⟨⟨c,l,a,⟨⟩⟩,⟨⟩⟩:=x
 obtain ⟨ha,hl⟩:=bm hp
 exact Q9 (S0:=List.replicate 15 aM) (S:=aDk c a l (List.replicate 15 aM)) (R:=ad4 c l a) (z:=bR fe) (ag ⟨rfl,rfl⟩) rfl
  (ag ⟨rfl,rfl,rfl,ha,hl⟩) rfl (ag ⟨rfl,H8 c a l _ l.length,rfl,rfl⟩) rfl
def p9:bt:=(j6.az sV NT)
theorem MC:aa aj 182 p9:=abJ
theorem MB:ax p9:=av
def Pl:Env:=aq 182 p9 aB9
theorem n7:bV aj te Pl:=aU follows wL MC MB
def yK:af:=⟨[aC,L5],[],true,0,false⟩
abbrev VE:Type:=aiE
def axO:Shape:=⟨39,[jL,(1,lC),eD,uC,(6,aC)],L0,0,true⟩
abbrev dJ:Type:=aiK
def axN:Shape:=⟨39,[jL,(1,lC),eD,uC,(6,aC),(24,aC)],L0,0,true⟩
abbrev cr:Type:=(Int×eC×rF)×uB
def vz:Shape:=⟨39,[jL,(1,lC),eD,uC,(6,aC)],L0,0,true⟩
abbrev gK:Type:=aiK
def axS (a0:Int) (a1:eC) (a6:Int) (a24:Int) (c0_0:UInt64) (c0_1:UInt64) (c0_2:UInt64) (c0_3:UInt64) (c0_4:UInt64) (c0_5:UInt64) (c0_6:UInt64) (c0_7:UInt64) (c0_8:Bool) (c1_0:UInt64) (c1_1:UInt64) (c1_2:UInt64) (c1_3:UInt64) (c1_4:UInt64) (c1_5:UInt64) (c1_6:UInt64) (c1_7:UInt64) (c1_8:Bool):OT (Sum cr aZ):=
 let z0:cK:=({w0:=c1_0,w1:=c1_1,w2:=c1_2,w3:=c1_3},{w0:=c1_4,w1:=c1_5,w2:=c1_6,w3:=c1_7},c1_8)
 let z1:cK:=fT a0 z0 z0
 let z2:=z1.fst
 let z3:=z1.snd
 let z4:=z3.fst
 (.br (decide (a24<(4:Int)))
 (gd [inR (a24+(1:Int))] (.ok (.inl ((a0,a1,(),(),a6,a24+(1:Int),()),(c0_0,c0_1,c0_2,c0_3,c0_4,c0_5,c0_6,c0_7,c0_8,()),(z2.w0,z2.w1,z2.w2,z2.w3,z4.w0,z4.w1,z4.w2,z4.w3,z3.snd,()),()))))
 (.ok (.inr ⟨(.exit 2,vz),((a0,a1,(),(),a6,()),(c0_0,c0_1,c0_2,c0_3,c0_4,c0_5,c0_6,c0_7,c0_8,()),(c1_0,c1_1,c1_2,c1_3,c1_4,c1_5,c1_6,c1_7,c1_8,()),())⟩)))
def GS (s:cr):OT (Sum cr aZ):=axS s.1.1 s.1.2.1 s.1.2.2.2.2.1 s.1.2.2.2.2.2.1 s.2.1.1 s.2.1.2.1 s.2.1.2.2.1 s.2.1.2.2.2.1 s.2.1.2.2.2.2.1 s.2.1.2.2.2.2.2.1 s.2.1.2.2.2.2.2.2.1 s.2.1.2.2.2.2.2.2.2.1 s.2.1.2.2.2.2.2.2.2.2.1 s.2.2.1.1 s.2.2.1.2.1 s.2.2.1.2.2.1 s.2.2.1.2.2.2.1 s.2.2.1.2.2.2.2.1 s.2.2.1.2.2.2.2.2.1 s.2.2.1.2.2.2.2.2.2.1 s.2.2.1.2.2.2.2.2.2.2.1 s.2.2.1.2.2.2.2.2.2.2.2.1
def agG (g2_2:cr->gK) (s:cr):OT aZ:=(.ok ⟨(.exit 2,vz),g2_2 s⟩)
def vA:Shape:=⟨39,[eD,uC],L0,0,true⟩
abbrev mE:Type:=m6×uB
def agI (ok2:cr->Bool) (g2_2:cr->gK) (a0:Int) (a1:eC) (a6:Int) (c0_0:UInt64) (c0_1:UInt64) (c0_2:UInt64) (c0_3:UInt64) (c0_4:UInt64) (c0_5:UInt64) (c0_6:UInt64) (c0_7:UInt64) (c0_8:Bool) (c1_0:UInt64) (c1_1:UInt64) (c1_2:UInt64) (c1_3:UInt64) (c1_4:UInt64) (c1_5:UInt64) (c1_6:UInt64) (c1_7:UInt64) (c1_8:Bool):OT (Sum dJ aZ):=
 let z0:cr:=((a0,a1,(),(),a6,(0:Int),()),(c0_0,c0_1,c0_2,c0_3,c0_4,c0_5,c0_6,c0_7,c0_8,()),(c1_0,c1_1,c1_2,c1_3,c1_4,c1_5,c1_6,c1_7,c1_8,()),())
 let z1:dJ:=g2_2 z0
 let z2:=z1.fst
 let z3:=z2.fst
 let z4:=z2.snd
 let z5:=z4.fst
 let z6:=z4.snd.snd.snd.fst
 let z7:=z1.snd
 let z8:=z7.fst
 let z9:=z8.snd
 let z10:=z9.snd
 let z11:=z10.snd
 let z12:=z11.snd
 let z13:=z12.snd
 let z14:=z13.snd
 let z15:=z14.snd
 let z16:=z7.snd.fst
 let z17:=z16.snd
 let z18:=z17.snd
 let z19:=z18.snd
 let z20:=z19.snd
 let z21:=z20.snd
 let z22:=z21.snd
 let z23:=z22.snd
 let z24:cK:=fT z3 ({w0:=z16.fst,w1:=z17.fst,w2:=z18.fst,w3:=z19.fst},{w0:=z20.fst,w1:=z21.fst,w2:=z22.fst,w3:=z23.fst},z23.snd.fst) (ad4 z3 z5 z6)
 let z25:=z24.fst
 let z26:=z24.snd
 let z27:=z26.fst
 (.br (decide ((0:Int)<=a6))
 (gd [ok2 z0,sV ((z3,z5,z6,()),()),inR (z6-(4:Int))] (.ok (.inl ((z3,z5,(),(),z6-(4:Int),()),(z8.fst,z9.fst,z10.fst,z11.fst,z12.fst,z13.fst,z14.fst,z15.fst,z15.snd.fst,()),(z25.w0,z25.w1,z25.w2,z25.w3,z27.w0,z27.w1,z27.w2,z27.w3,z26.snd,()),()))))
 (.ok (.inr ⟨(.exit 0,vA),(((),(),()),(c0_0,c0_1,c0_2,c0_3,c0_4,c0_5,c0_6,c0_7,c0_8,()),(c1_0,c1_1,c1_2,c1_3,c1_4,c1_5,c1_6,c1_7,c1_8,()),())⟩)))
def vB (ok2:cr->Bool) (g2_2:cr->gK) (s:dJ):OT (Sum dJ aZ):=agI ok2 g2_2 s.1.1 s.1.2.1 s.1.2.2.2.2.1 s.2.1.1 s.2.1.2.1 s.2.1.2.2.1 s.2.1.2.2.2.1 s.2.1.2.2.2.2.1 s.2.1.2.2.2.2.2.1 s.2.1.2.2.2.2.2.2.1 s.2.1.2.2.2.2.2.2.2.1 s.2.1.2.2.2.2.2.2.2.2.1 s.2.2.1.1 s.2.2.1.2.1 s.2.2.1.2.2.1 s.2.2.1.2.2.2.1 s.2.2.1.2.2.2.2.1 s.2.2.1.2.2.2.2.2.1 s.2.2.1.2.2.2.2.2.2.1 s.2.2.1.2.2.2.2.2.2.2.1 s.2.2.1.2.2.2.2.2.2.2.2.1
def agH (g0_0:dJ->mE) (s:dJ):OT aZ:=(.ok ⟨(.exit 0,vA),g0_0 s⟩)
def vy:aL:=⟨o8,[],false⟩
def Jc (ok2:cr->Bool) (g2_2:cr->gK) (ok0:dJ->Bool) (g0_0:dJ->mE) (a0:Int) (a1:eC):OT yK.Y:=
 let z0:Int:=Int.tdiv ((↑(ZF a1):Int)+(4:Int)-(1:Int)) (4:Int)
 let z1:dJ:=((a0,a1,(),(),z0*(4:Int),()),((0:UInt64),(0:UInt64),(0:UInt64),(0:UInt64),(0:UInt64),(0:UInt64),(0:UInt64),(0:UInt64),false,()),((0:UInt64),(0:UInt64),(0:UInt64),(0:UInt64),(0:UInt64),(0:UInt64),(0:UInt64),(0:UInt64),true,()),())
 let z2:=(g0_0 z1).snd.snd.fst
 let z3:=z2.snd
 let z4:=z3.snd
 let z5:=z4.snd
 let z6:=z5.snd
 let z7:=z6.snd
 let z8:=z7.snd
 let z9:=z8.snd
 (.br (decide ((↑(List.length a1):Int)<(24:Int)))
 (gd [yL ((a0,a1,()),())] (.ok ⟨vy,((pH a0 a1,()),())⟩))
 (gd [QV ((a1,()),()),inR ((↑(ZF a1):Int)+(4:Int)),inR ((↑(ZF a1):Int)+(4:Int)-(1:Int)),true&&inR z0,inR (z0*(4:Int)),ok0 z1] (.ok ⟨vy,((({w0:=z2.fst,w1:=z3.fst,w2:=z4.fst,w3:=z5.fst},{w0:=z6.fst,w1:=z7.fst,w2:=z8.fst,w3:=z9.fst},z9.snd.fst),()),())⟩)))
theorem alG (ok2:cr->Bool) (g2_2:cr->gK) (ok0:dJ->Bool) (g0_0:dJ->mE) (h2:bh GS ok2 (agG g2_2)) (h0:bh (vB ok2 g2_2) ok0 (agH g0_0)) (pre:VE->Bool) (F:VE->OT yK.Y) (hF:∀ (x:VE) oy,pre x=true->(F x).run=some oy->(Jc ok2 g2_2 ok0 g0_0 x.1.1 x.1.2.1).run=some oy):aa aj 160 (yK.az pre F):=
 di n7 160 Tryz.f160 yK [vy] (lg n7 0 axO [(0,vA)] none none (vB ok2 g2_2) (lg n7 2 axN [(2,vz)] none none GS bD h2 bD) h0 bD) (λx=>Jc ok2 g2_2 ok0 g0_0 x.1.1 x.1.2.1) hF
theorem aam (l:List Tm):∀ n,anS l n<=n
 |0=>Nat.le_refl _
 |n+1=>by
  unfold anS
  cases aFD l (n:Int)
  ·exact Nat.le_succ_of_le (aam l n)
  ·exact Nat.le_refl _
def aGO (c:Int) (O:Pt):Pt:=upto (λ_ o=>fT c o o) O 4
def sS (s:cr):Bool:=decide (s.1.2.2.2.2.2.1=0)
def Bp (s:cr):gK:=((s.1.1,s.1.2.1,(),(),s.1.2.2.2.2.1,()),s.2.1,bR (aGO s.1.1 (Lb s.2.2.1)),())
theorem axQ:bh GS sS (agG Bp):=by
 rintro ⟨⟨c,l,⟨⟩,⟨⟩,a,i,⟨⟩⟩,⟨c0,c1,⟨⟩⟩⟩ h
 have h':=bm h
 dsimp only at h'
 subst h'
 have:=(bf (T:=GS) (λi O=>(((c,l,(),(),a,(i:Int),()),c0,bR O,()):cr)) (λ_ o=>fT c o o)
  (λO=>(⟨(.exit 2,vz),((c,l,(),(),a,()),c0,bR O,())⟩:aZ)) 4 (Lb c1) (λ_ _=>True) trivial (λk O hk _=>⟨?_,trivial⟩) (λO _=> ?_)).1
 ·obtain ⟨m,hm⟩:=this
  exact ⟨m,_,hm,rfl⟩
 ·refine (OT.ak (ag (by dsimp only;omega))).trans ((ae ?_).trans rfl)
  simp only [aA,aI,aJ]
  exact aS (by omega)
 ·exact OT.au (bq (by dsimp only;omega))
def n8 (c:Int) (l:List Tm) (W n:Nat) (O:Pt):Pt:=fT c (aGO c O) (ad4 c l (4*(W:Int)-4*(n:Int)))
def rp (l:List Tm):Nat:=(ZF l+3)/4
def aHh (c:Int) (l:List Tm):Pt:=upto (n8 c l (rp l)) aM (rp l+1)
def aod (c:Int) (l:List Tm) (a:Int) (c0:C9) (O:Pt):cr:=((c,l,(),(),a,0,()),c0,bR O,())
theorem aFI {ok2:cr->Bool} {g2:cr->gK} {c a:Int} {l:List Tm} {c0:C9} {O D:Pt} (h0:0<=a) (h1:a<=1000) (hl:l.length<=140737488355328) (hok:ok2 (aod c l a c0 O)=true)
 (e2:g2 (aod c l a c0 O)=((c,l,(),(),a,()),c0,bR D,())):
 (vB ok2 g2 ((c,l,(),(),a,()),c0,bR O,())).run=some (.inl ((c,l,(),(),a-4,()),c0,bR (fT c D (ad4 c l a)),())):=by
 unfold aod at hok e2
 have e2':g2 ((c,l,(),(),a,0,()),(c0.1,c0.2.1,c0.2.2.1,c0.2.2.2.1,c0.2.2.2.2.1,c0.2.2.2.2.2.1,c0.2.2.2.2.2.2.1,c0.2.2.2.2.2.2.2.1,c0.2.2.2.2.2.2.2.2.1,()),((bR O).1,(bR O).2.1,(bR O).2.2.1,(bR O).2.2.2.1,(bR O).2.2.2.2.1,(bR O).2.2.2.2.2.1,(bR O).2.2.2.2.2.2.1,(bR O).2.2.2.2.2.2.2.1,(bR O).2.2.2.2.2.2.2.2.1,()),())=((c,l,(),(),a,()),c0,bR D,()):=e2
 unfold vB agI
 simp only [e2']
 refine (OT.ak (ag h0)).trans ((ae ?_).trans rfl)
 simp only [aA,aI,aJ,aw]
 exact ⟨hok,ag ⟨⟨h0,h1⟩,hl⟩,aS (by omega)⟩
def Jb (s:dJ):Bool:=decide (s.1.2.2.2.2.1=4*(rp s.1.2.1:Int)/\Lb s.2.2.1=aM/\s.1.2.1.length<=140737488355328)
def Q0 (s:dJ):mE:=(((),(),()),s.2.1,bR (aHh s.1.1 s.1.2.1),())
theorem axR:bh (vB sS Bp) Jb (agH Q0):=by
 rintro ⟨⟨c,l,⟨⟩,⟨⟩,a,⟨⟩⟩,⟨c0,c1,⟨⟩⟩⟩ h
 have h':=bm h
 dsimp only at h'
 obtain ⟨rfl,hO,hl⟩:=h'
 have hO2:c1=bR aM:=by rw [<-hO];rfl
 subst hO2
 have hW:rp l<=64:=by
  have:=aam l 256
  unfold rp ZF
  omega
 have:=(bf (T:=vB sS Bp) (λn O=>(((c,l,(),(),4*(rp l:Int)-4*(n:Int),()),c0,bR O,()):dJ)) (n8 c l (rp l))
  (λO=>(⟨(.exit 0,vA),(((),(),()),c0,bR O,())⟩:aZ)) (rp l+1) aM (λ_ _=>True) trivial (λn O hn _=>⟨?_,trivial⟩) (λO _=> ?_)).1
 ·obtain ⟨m,hm⟩:=this
  refine ⟨m,_,?_,rfl⟩
  have e:4*(rp l:Int)-4*((0:Nat):Int)=4*(rp l:Int):=by omega
  rw [e] at hm
  exact hm
 ·have e:4*(rp l:Int)-4*((n+1:Nat):Int)=4*(rp l:Int)-4*(n:Int)-4:=by omega
  rw [e]
  exact aFI (D:=aGO c O) (by omega) (by omega) hl (ag rfl) rfl
 ·exact OT.au (bq (by dsimp only;omega))
def aHu (l:List Tm):Bool:=decide ((l.length:Int)<24)
def AR (c:Int) (l:List Tm):Pt:=cond (aHu l) (pH c l) (aHh c l)
def Bn (x:VE):Bool:=decide (x.1.2.1.length<=140737488355328)
def aqK (x:VE):OT yK.Y:=.ok ⟨vy,((AR x.1.1 x.1.2.1,()),())⟩
theorem alH {ok2:cr->Bool} {g2:cr->gK} {ok0:dJ->Bool} {g0:dJ->mE} {c:Int} {l:List Tm} {R:Pt} (hl:l.length<=140737488355328) (hf:aHu l=false)
 (h0:ok0 ((c,l,(),(),4*(rp l:Int),()),bR fe,bR aM,())=true) (e0:g0 ((c,l,(),(),4*(rp l:Int),()),bR fe,bR aM,())=(((),(),()),bR fe,bR R,())):
 (Jc ok2 g2 ok0 g0 c l).run=some ⟨vy,((R,()),())⟩:=by
 have ht:Int.tdiv ((ZF l:Int)+4-1) 4=(rp l:Int):=by
  unfold rp
  rw [Int.tdiv_eq_ediv_of_nonneg (by omega)]
  omega
 have hW:=aam l 256
 have hW:ZF l<=256:=hW
 have hW2:rp l<=64:=by unfold rp;omega
 have e1:(rp l:Int)*4=4*(rp l:Int):=Int.mul_comm _ _
 unfold Jc
 have e0':g0 ((c,l,(),(),4*(rp l:Int),()),(0,0,0,0,0,0,0,0,false,()),(0,0,0,0,0,0,0,0,true,()),())=(((),(),()),bR fe,bR R,()):=e0
 simp only [ht,e1,e0']
 refine (OT.au hf).trans ((ae ?_).trans rfl)
 simp only [aA,aI,aJ,Bool.true_and,aw]
 exact ⟨ag hl,aS (by omega),aS (by omega),aS (by omega),aS (by omega),h0⟩
theorem axP:aa aj 160 (yK.az Bn aqK):=alG sS Bp Jb Q0 axQ axR _ _ λx oy hp ho=>by
 rw [<-ho]
 clear ho
 obtain ⟨⟨c,l,⟨⟩⟩,⟨⟩⟩:=x
 have hl:l.length<=140737488355328:=bm hp
 show (Jc sS Bp Jb Q0 c l).run=some ⟨vy,((AR c l,()),())⟩
 rcases (b9 (aHu l)).symm with hf|hf
 ·have e:AR c l=aHh c l:=by unfold AR;rw [hf];rfl
  rw [e]
  exact alH (R:=aHh c l) hl hf (ag ⟨rfl,rfl,hl⟩) rfl
 ·have e:AR c l=pH c l:=by unfold AR;rw [hf];rfl
  rw [e]
  refine (OT.ak hf).trans ((ae ?_).trans rfl)
  simp only [aA,aI,aJ]
  exact hp
def DH:bt:=(yK.az Bn aqK)
theorem abC:aa aj 160 DH:=axP
theorem abB:ax DH:=av
def ave:Env:=aq 160 DH Pl
theorem Ze:bV aj te ave:=aU follows n7 abC abB
def pV:af:=⟨o9,[(0,aIC kl),(1,.row akK)],false,2,true⟩
abbrev I7:Type:=ct×Cr×o6
def I6:aL:=⟨o8,[aiT,(1,F6)],false⟩
def agB (c0_0:Int) (c1:eC):OT pV.Y:=
 (gd [Bn ((c0_0,c1,()),())] (.ok ⟨I6,((AR c0_0 c1,()),(c0_0,(),()),c1,())⟩))
theorem abt (pre:I7->Bool) (F:I7->OT pV.Y) (hF:∀ (x:I7) oy,pre x=true->(F x).run=some oy->(agB x.2.1.1 x.2.2.1).run=some oy):aa aj 131 (pV.az pre F):=
 di Ze 131 Tryz.f131 pV [I6] bD (λx=>agB x.2.1.1 x.2.2.1) hF
def DD (x:I7):Bool:=Bn ((x.2.1.1,x.2.2.1,()),())
def agC (x:I7):OT pV.Y:=.ok ⟨I6,((AR x.2.1.1 x.2.2.1,()),(x.2.1.1,(),()),x.2.2.1,())⟩
theorem aqu:aa aj 131 (pV.az DD agC):=abt _ _ λx oy hp ho=>by
 rw [<-ho]
 clear ho
 refine (ae ?_).trans rfl
 simp only [aA,aI,aJ]
 exact hp
def yH:bt:=(pV.az DD agC)
theorem VB:aa aj 131 yH:=aqu
theorem VA:ax yH:=av
def aji:Env:=aq 131 yH ave
theorem EX:bV aj te aji:=aU follows Ze VB VA
def sR:af:=⟨[aC,L5],[],true,0,false⟩
abbrev abA:Type:=aiE
def aD2:Shape:=⟨45,[eD,jV,(26,lC),(27,aC),(28,aC)],[lA,(1,.cells [aC,.own 2]),Ag],0,true⟩
abbrev dP:Type:=(Unit×Unit×eC×jR)×kk×Cr×o6
def mD:Shape:=⟨45,[eD,(5,aC)],[lA],0,true⟩
abbrev vx:Type:=rE×kk×Unit
def Bm:Shape:=⟨45,[eD,jV],[lA,(1,.cells [aC,.own 2]),Ag],0,true⟩
abbrev DG:Type:=m6×kk×Cr×o6
def aD4 (a26:eC) (a27:Int) (a28:Int) (c0_0:UInt64) (c0_1:UInt64) (c0_2:UInt64) (c0_3:UInt64) (c0_4:UInt64) (c0_5:UInt64) (c0_6:UInt64) (c0_7:UInt64) (c0_8:Bool) (c1_0:Int) (c2:eC):OT (Sum dP aZ):=
 let z0:ab:= {w0:=0,w1:=0,w2:=0,w3:=0}
 let z1:ab×cK:=List.getD a26 (Int.toNat a28) (z0,z0,z0,false)
 let z2:=z1.snd
 (.br (decide (a28<a27))
 (gd [inB a28 (List.length a26)] (.br (onB c1_0 z2)
  (.br (UI c2)
   (gd [inR (a28+(1:Int))] (.ok (.inl (((),(),a26,a27,a28+(1:Int),()),(c0_0,c0_1,c0_2,c0_3,c0_4,c0_5,c0_6,c0_7,c0_8,()),(c1_0,(),()),c2++ [(Gd c1_0 z1.fst,z2)],()))))
   (.ok (.inr ⟨(.ret,mD),(((),(50:Int),()),((0:UInt64),(0:UInt64),(0:UInt64),(0:UInt64),(0:UInt64),(0:UInt64),(0:UInt64),(0:UInt64),false,()),())⟩)))
  (.ok (.inr ⟨(.ret,mD),(((),(41:Int),()),((0:UInt64),(0:UInt64),(0:UInt64),(0:UInt64),(0:UInt64),(0:UInt64),(0:UInt64),(0:UInt64),false,()),())⟩))))
 (.ok (.inr ⟨(.exit 1,Bm),(((),(),()),(c0_0,c0_1,c0_2,c0_3,c0_4,c0_5,c0_6,c0_7,c0_8,()),(c1_0,(),()),c2,())⟩)))
def Ja (s:dP):OT (Sum dP aZ):=aD4 s.1.2.2.1 s.1.2.2.2.1 s.1.2.2.2.2.1 s.2.1.1 s.2.1.2.1 s.2.1.2.2.1 s.2.1.2.2.2.1 s.2.1.2.2.2.2.1 s.2.1.2.2.2.2.2.1 s.2.1.2.2.2.2.2.2.1 s.2.1.2.2.2.2.2.2.2.1 s.2.1.2.2.2.2.2.2.2.2.1 s.2.2.1.1 s.2.2.2.1
def aqI (g1_r:dP->vx) (c1_r:dP->Bool) (g1_1:dP->DG) (s:dP):OT aZ:=(.br (c1_r s) (.ok ⟨(.ret,mD),g1_r s⟩) (.ok ⟨(.exit 1,Bm),g1_1 s⟩))
def jo:aL:=⟨LY,[],false⟩
section
variable (ok1:dP->Bool) (g1_r:dP->vx) (c1_r:dP->Bool) (g1_1:dP->DG)
def aqJ (a0:Int) (a1:eC):OT sR.Y:=
 let z0:Int:=(↑(List.length a1):Int)
 let z1:ab:= {w0:=0,w1:=0,w2:=0,w3:=0}
 let z2:cK:=(z1,z1,false)
 let z3:dP:=(((),(),a1,z0,(0:Int),()),((0:UInt64),(0:UInt64),(0:UInt64),(0:UInt64),(0:UInt64),(0:UInt64),(0:UInt64),(0:UInt64),false,()),(a0,(),()),[],())
 let z4:vx:=g1_r z3
 let z5:=z4.snd.fst
 let z6:=z5.snd
 let z7:=z6.snd
 let z8:=z7.snd
 let z9:=z8.snd
 let z10:=z9.snd
 let z11:=z10.snd
 let z12:=z11.snd
 let z13:=(g1_1 z3).snd.snd
 let z14:=z13.fst.fst
 let z15:=z13.snd.fst
 (.br (ac a0)
 (.br (decide ((100000:Int)<z0))
  (.ok ⟨jo,((z2,(50:Int),()),())⟩)
  (gd [ok1 z3] (.br (c1_r z3)
   (.ok ⟨jo,((({w0:=z5.fst,w1:=z6.fst,w2:=z7.fst,w3:=z8.fst},{w0:=z9.fst,w1:=z10.fst,w2:=z11.fst,w3:=z12.fst},z12.snd.fst),z4.fst.snd.fst,()),())⟩)
   (gd [DD (((),()),(z14,(),()),z15,())] (.ok ⟨jo,((AR z14 z15,(0:Int),()),())⟩)))))
 (.ok ⟨jo,((z2,(40:Int),()),())⟩))
theorem aqH (h1:bh Ja ok1 (aqI g1_r c1_r g1_1)) (pre:abA->Bool) (F:abA->OT sR.Y) (hF:∀ (x:abA) oy,pre x=true->(F x).run=some oy->(aqJ ok1 g1_r c1_r g1_1 x.1.1 x.1.2.1).run=some oy):aa aj 84 (sR.az pre F):=
 di EX 84 Tryz.f84 sR [jo] (lg EX 1 aD2 [(1,Bm)] (some mD) none Ja bD h1 bD) (λx=>aqJ ok1 g1_r c1_r g1_1 x.1.1 x.1.2.1) hF
end
def wN (c:Int) (l:List Tm):List Tm:=l.map λt=>(Gd c t.1,t.2)
def cy (c:Int) (l:List Tm):Bool:=l.all λt=>onB c t.2
def QY (s:dP):Bool:=decide (s.1.2.2.2.1=(s.1.2.2.1.length:Int)/\s.1.2.2.2.2.1=0/\s.2.2.2.1= []/\s.1.2.2.1.length<=100000)
def QZ (_:dP):vx:=(((),(41:Int),()),bR fe,())
def abz (s:dP):Bool:= !cy s.2.2.1.1 s.1.2.2.1
def aby (s:dP):DG:=(((),(),()),s.2.1,(s.2.2.1.1,(),()),wN s.2.2.1.1 s.1.2.2.1,())
def Un (c:Int) (l:List Tm) (c0:C9) (k:Int) (o:List Tm):dP:=(((),(),l,(l.length:Int),k,()),c0,(c,(),()),o,())
theorem afV (c:Int) (l:List Tm) (c0:C9) (hl:l.length<=100000):∀ d k:Nat,k+d=l.length->
 ∃ m,cW Ja m (Un c l c0 (k:Int) (wN c (l.take k)))=some (cond (cy c (l.drop k)) ⟨(.exit 1,Bm),(((),(),()),c0,(c,(),()),wN c l,())⟩ ⟨(.ret,mD),(((),(41:Int),()),bR fe,())⟩)
 |0,k,h=>by
  rw [List.drop_eq_nil_of_le (by omega),List.take_of_length_le (by omega)]
  exact ⟨1,aV (OT.au (bq (by dsimp only [Un];omega)))⟩
 |d+1,k,h=>by
  have hk:k<l.length:=by omega
  have e1:l.drop k=l[k]::l.drop (k+1):=m8 hk
  have e2:l.take (k+1)=l.take k++ [l[k]]:=(List.take_append_getElem hk).symm
  have e3:l.getD k lm=l[k]:=by rw [eZ,m9 hk];rfl
  have hgd:∀ z:OT (Sum dP aZ),(gd [inB (k:Int) l.length] z).run=z.run:=λz=>ae (by rw [ba (by omega)];rfl)
  have ea:cy c (l.drop k)=(onB c l[k].2&&cy c (l.drop (k+1))):=by rw [e1];rfl
  rw [ea]
  have hr:UI (wN c (l.take k))=true:=ag (by rw [wN,List.length_map,bM];omega)
  have first:∀ e:aZ ⊕ Unit,(Ja (Un c l c0 (k:Int) (wN c (l.take k)))).run=(OT.br (onB c (l.getD k lm).2) (.br (UI (wN c (l.take k))) (gd [inR ((k:Int)+1)] (.ok (.inl (Un c l c0 ((k:Int)+1) (wN c (l.take k)++ [(Gd c (l.getD k lm).1,(l.getD k lm).2)])))))
   (.ok (.inr ⟨(.ret,mD),(((),(50:Int),()),bR fe,())⟩))) (.ok (.inr ⟨(.ret,mD),(((),(41:Int),()),bR fe,())⟩)):OT (Sum dP aZ)).run:=λ_=>
   (OT.ak (ag (by dsimp only [Un];omega))).trans ((hgd _).trans rfl)
  have first:=first (.inr ())
  rw [e3] at first
  rcases (b9 (onB c l[k].2)).symm with hb|hb
  ·rw [hb]
   exact ⟨1,aV (first.trans (OT.au hb))⟩
  ·rw [hb]
   obtain ⟨m,hm⟩:=afV c l c0 hl d (k+1) (by omega)
   refine ⟨m+1,bN ?_ hm⟩
   refine first.trans ((OT.ak hb).trans ((OT.ak hr).trans ((ae ?_).trans ?_)))
   ·simp only [aA,aI,aJ]
    exact aS (by omega)
   ·rw [e2]
    simp only [wN,List.map_append,List.map_cons,List.map_nil]
    rfl
theorem aD3:bh Ja QY (aqI QZ abz aby):=by
 rintro ⟨⟨⟨⟩,⟨⟩,l,n,k,⟨⟩⟩,⟨c0,⟨c,⟨⟩,⟨⟩⟩,o,⟨⟩⟩⟩ h
 have h':=bm h
 dsimp only at h'
 obtain ⟨rfl,rfl,rfl,hl⟩:=h'
 obtain ⟨m,hm⟩:=afV c l c0 hl l.length 0 (by omega)
 refine ⟨m,_,hm,?_⟩
 show (OT.br (!cy c l) _ _:OT aZ).run=some (cond (cy c l) _ _)
 cases cy c l<;>rfl
def agF (_:abA):Bool:=true
def aAS (x:abA):OT sR.Y:=.br (ac x.1.1) (.br (decide (x.1.2.1.length<=100000)) (.br (cy x.1.1 x.1.2.1) (.ok ⟨jo,((AR x.1.1 (wN x.1.1 x.1.2.1),(0:Int),()),())⟩)
 (.ok ⟨jo,((fe,(41:Int),()),())⟩)) (.ok ⟨jo,((fe,(50:Int),()),())⟩)) (.ok ⟨jo,((fe,(40:Int),()),())⟩)
theorem aqG:aa aj 84 (sR.az agF aAS):=aqH QY QZ abz aby aD3 _ _ λx oy hp ho=>by
 rw [<-ho]
 clear ho
 obtain ⟨⟨c,l,⟨⟩⟩,⟨⟩⟩:=x
 show (aqJ QY QZ abz aby c l).run=(OT.br (ac c) (.br (decide (l.length<=100000)) (.br (cy c l) (.ok ⟨jo,((AR c (wN c l),(0:Int),()),())⟩)
  (.ok ⟨jo,((fe,(41:Int),()),())⟩)) (.ok ⟨jo,((fe,(50:Int),()),())⟩)) (.ok ⟨jo,((fe,(40:Int),()),())⟩):OT sR.Y).run
 rcases (b9 (ac c)).symm with hs|hs
 ·exact (OT.au hs).trans (OT.au (b:=ac c) hs).symm
 ·refine (OT.ak hs).trans (Eq.trans ?_ (OT.ak (b:=ac c) hs).symm)
  by_cases hl:l.length<=100000
  ·refine (OT.au (bq (by omega))).trans (Eq.trans ?_ (OT.ak (b:=decide (l.length<=100000)) (ag hl)).symm)
   refine (ae ?_).trans ?_
   ·simp only [aA,aI,aJ]
    exact ag ⟨rfl,rfl,rfl,hl⟩
   ·rcases (b9 (cy c l)).symm with ha|ha
    ·exact (OT.ak (b:= !cy c l) (by rw [ha];rfl)).trans (OT.au (b:=cy c l) ha).symm
    ·refine (OT.au (b:= !cy c l) (by rw [ha];rfl)).trans (Eq.trans ?_ (OT.ak (b:=cy c l) ha).symm)
     refine (ae ?_).trans rfl
     simp only [aA,aI,aJ]
     refine ag ?_
     show (wN c l).length<=_
     rw [wN,List.length_map]
     omega
  ·exact (OT.ak (ag (by omega))).trans (OT.au (b:=decide (l.length<=100000)) (bq hl)).symm
def I9:bt:=(sR.az agF aAS)
theorem alF:aa aj 84 I9:=aqG
theorem alE:ax I9:=av
def aCa:Env:=aq 84 I9 aji
theorem ajj:bV aj te aCa:=aU follows EX alF alE
abbrev A6:Type:=aiK
abbrev aaT:Type:=rE×kk×Unit
abbrev aaU:Type:=(Int×eC×m6)×uB
abbrev UN:Type:=aiK
abbrev aaS:Type:=m6×uB
section
variable (ok0:A6->Bool) (g0_r:A6->aaT) (c0_r:A6->Bool) (g0_0:A6->aaU) (ok2:UN->Bool) (g2_2:UN->aaS)
end
abbrev aHS:Ty:=.prod .int (.prod .int (.prod (.list (.prod .elem (.prod .elem .bool))) (.prod (.prod .elem (.prod .elem .bool)) (.prod .elem (.prod .elem .bool)))))
def aHU:CSh:=.cells [.val false .int,.val false .int,.val false (.list (.prod .elem (.prod .elem .bool))),.val false .u64,.val false .u64,.val false .u64,.val false .u64,.val false .u64,.val false .u64,.val false .u64,.val false .u64,.val false .bool,.val false .u64,.val false .u64,.val false .u64,.val false .u64,.val false .u64,.val false .u64,.val false .u64,.val false .u64,.val false .bool]
def nu:af:=⟨[xu,eX],[(0,aHU)],false,1,true⟩
abbrev IA:Type:=(cK×ct)×LX×Unit
def sD:aL:=⟨og,[YV],false⟩
def agd (a0:cK) (c0_0:Int) (c0_1:Int) (c0_2:cJ) (c0_3:UInt64) (c0_4:UInt64) (c0_5:UInt64) (c0_6:UInt64) (c0_7:UInt64) (c0_8:UInt64) (c0_9:UInt64) (c0_10:UInt64) (c0_11:Bool) (c0_12:UInt64) (c0_13:UInt64) (c0_14:UInt64) (c0_15:UInt64) (c0_16:UInt64) (c0_17:UInt64) (c0_18:UInt64) (c0_19:UInt64) (c0_20:Bool):OT nu.Y:=
 (.br (a0.snd.snd)
 (.ok ⟨sD,((true,()),(c0_0,c0_1,c0_2,c0_3,c0_4,c0_5,c0_6,c0_7,c0_8,c0_9,c0_10,c0_11,c0_12,c0_13,c0_14,c0_15,c0_16,c0_17,c0_18,c0_19,c0_20,()),())⟩)
 (.ok ⟨sD,((!onB c0_0 a0,()),(c0_0,c0_1,c0_2,c0_3,c0_4,c0_5,c0_6,c0_7,c0_8,c0_9,c0_10,c0_11,c0_12,c0_13,c0_14,c0_15,c0_16,c0_17,c0_18,c0_19,c0_20,()),())⟩))
theorem aa1 (pre:IA->Bool) (F:IA->OT nu.Y) (hF:∀ (x:IA) oy,pre x=true->(F x).run=some oy->(agd x.1.1 x.2.1.1 x.2.1.2.1 x.2.1.2.2.1 x.2.1.2.2.2.1 x.2.1.2.2.2.2.1 x.2.1.2.2.2.2.2.1 x.2.1.2.2.2.2.2.2.1 x.2.1.2.2.2.2.2.2.2.1 x.2.1.2.2.2.2.2.2.2.2.1 x.2.1.2.2.2.2.2.2.2.2.2.1 x.2.1.2.2.2.2.2.2.2.2.2.2.1 x.2.1.2.2.2.2.2.2.2.2.2.2.2.1 x.2.1.2.2.2.2.2.2.2.2.2.2.2.2.1 x.2.1.2.2.2.2.2.2.2.2.2.2.2.2.2.1 x.2.1.2.2.2.2.2.2.2.2.2.2.2.2.2.2.1 x.2.1.2.2.2.2.2.2.2.2.2.2.2.2.2.2.2.1 x.2.1.2.2.2.2.2.2.2.2.2.2.2.2.2.2.2.2.1 x.2.1.2.2.2.2.2.2.2.2.2.2.2.2.2.2.2.2.2.1 x.2.1.2.2.2.2.2.2.2.2.2.2.2.2.2.2.2.2.2.2.1 x.2.1.2.2.2.2.2.2.2.2.2.2.2.2.2.2.2.2.2.2.2.1 x.2.1.2.2.2.2.2.2.2.2.2.2.2.2.2.2.2.2.2.2.2.2.1).run=some oy):aa aj 78 (nu.az pre F):=
 di ajj 78 Tryz.f78 nu [sD] bD (λx=>agd x.1.1 x.2.1.1 x.2.1.2.1 x.2.1.2.2.1 x.2.1.2.2.2.1 x.2.1.2.2.2.2.1 x.2.1.2.2.2.2.2.1 x.2.1.2.2.2.2.2.2.1 x.2.1.2.2.2.2.2.2.2.1 x.2.1.2.2.2.2.2.2.2.2.1 x.2.1.2.2.2.2.2.2.2.2.2.1 x.2.1.2.2.2.2.2.2.2.2.2.2.1 x.2.1.2.2.2.2.2.2.2.2.2.2.2.1 x.2.1.2.2.2.2.2.2.2.2.2.2.2.2.1 x.2.1.2.2.2.2.2.2.2.2.2.2.2.2.2.1 x.2.1.2.2.2.2.2.2.2.2.2.2.2.2.2.2.1 x.2.1.2.2.2.2.2.2.2.2.2.2.2.2.2.2.2.1 x.2.1.2.2.2.2.2.2.2.2.2.2.2.2.2.2.2.2.1 x.2.1.2.2.2.2.2.2.2.2.2.2.2.2.2.2.2.2.2.1 x.2.1.2.2.2.2.2.2.2.2.2.2.2.2.2.2.2.2.2.2.1 x.2.1.2.2.2.2.2.2.2.2.2.2.2.2.2.2.2.2.2.2.2.1 x.2.1.2.2.2.2.2.2.2.2.2.2.2.2.2.2.2.2.2.2.2.2.1) hF
abbrev aBW:Type:=Int×(Int×(List Pt×(UInt64×(UInt64×(UInt64×(UInt64×(UInt64×(UInt64×(UInt64×(UInt64×(Bool×(UInt64×(UInt64×(UInt64×(UInt64×(UInt64×(UInt64×(UInt64×(UInt64×(Bool×Unit))))))))))))))))))))
def jN:Pt:=(⟨0,0,0,0⟩,⟨0,0,0,0⟩,false)
def wQ (c:Int) (P:Pt):Bool:=cond P.2.2 true (!onB c P)
def Nt (_:IA):Bool:=true
def age (x:IA):OT nu.Y:=.ok ⟨sD,((wQ x.2.1.1 x.1.1,()),x.2)⟩
theorem apK:aa aj 78 (nu.az Nt age):=aa1 _ _ λx oy hp ho=>by
 rw [<-ho]
 clear ho
 obtain ⟨⟨P,⟨⟩,⟨⟩⟩,⟨i,⟨⟩⟩⟩:=x
 show _=some (⟨sD,((wQ i.1 P,()),i,())⟩:nu.Y)
 unfold wQ
 rcases (b9 P.2.2).symm with h|h
 ·rw [h]
  exact (OT.au h).trans rfl
 ·rw [h]
  exact (OT.ak h).trans rfl
def yh:bt:=(nu.az Nt age)
theorem UZ:aa aj 78 yh:=apK
theorem UY:ax yh:=av
def aje:Env:=aq 78 yh aCa
theorem EW:bV aj te aje:=aU follows ajj UZ UY
def kI:af:=⟨[xr,.fn 78 [0]],[(0,aHU)],false,1,true⟩
abbrev Bb:Type:=(cJ×ct)×LX×Unit
def ald:Shape:=⟨19,[(0,xr),(1,.fn 78 [0]),xp,(8,aC)],[YV],1,true⟩
abbrev bX:Type:=(cJ×Unit×jR)×LX×Unit
def nw:Shape:=⟨19,[(4,aC)],[YV],1,true⟩
abbrev lI:Type:=eU×LX×Unit
def nx:Shape:=⟨19,[],[YV],1,true⟩
abbrev pO:Type:=Unit×LX×Unit
def alg (a0:cJ) (a7:Int) (a8:Int) (c0_0:Int) (c0_1:Int) (c0_2:cJ) (c0_3:UInt64) (c0_4:UInt64) (c0_5:UInt64) (c0_6:UInt64) (c0_7:UInt64) (c0_8:UInt64) (c0_9:UInt64) (c0_10:UInt64) (c0_11:Bool) (c0_12:UInt64) (c0_13:UInt64) (c0_14:UInt64) (c0_15:UInt64) (c0_16:UInt64) (c0_17:UInt64) (c0_18:UInt64) (c0_19:UInt64) (c0_20:Bool):OT (Sum bX aZ):=
 let z0:ab:= {w0:=0,w1:=0,w2:=0,w3:=0}
 (.br (decide (a8<a7))
 (gd [inB a8 (List.length a0)] (.br (wQ c0_0 (List.getD a0 (Int.toNat a8) (z0,z0,false)))
  (.ok (.inr ⟨(.ret,nw),((a8,()),(c0_0,c0_1,c0_2,c0_3,c0_4,c0_5,c0_6,c0_7,c0_8,c0_9,c0_10,c0_11,c0_12,c0_13,c0_14,c0_15,c0_16,c0_17,c0_18,c0_19,c0_20,()),())⟩))
  (gd [inR (a8+(1:Int))] (.ok (.inl ((a0,(),a7,a8+(1:Int),()),(c0_0,c0_1,c0_2,c0_3,c0_4,c0_5,c0_6,c0_7,c0_8,c0_9,c0_10,c0_11,c0_12,c0_13,c0_14,c0_15,c0_16,c0_17,c0_18,c0_19,c0_20,()),()))))))
 (.ok (.inr ⟨(.exit 0,nx),((),(c0_0,c0_1,c0_2,c0_3,c0_4,c0_5,c0_6,c0_7,c0_8,c0_9,c0_10,c0_11,c0_12,c0_13,c0_14,c0_15,c0_16,c0_17,c0_18,c0_19,c0_20,()),())⟩)))
def vk (s:bX):OT (Sum bX aZ):=alg s.1.1 s.1.2.2.1 s.1.2.2.2.1 s.2.1.1 s.2.1.2.1 s.2.1.2.2.1 s.2.1.2.2.2.1 s.2.1.2.2.2.2.1 s.2.1.2.2.2.2.2.1 s.2.1.2.2.2.2.2.2.1 s.2.1.2.2.2.2.2.2.2.1 s.2.1.2.2.2.2.2.2.2.2.1 s.2.1.2.2.2.2.2.2.2.2.2.1 s.2.1.2.2.2.2.2.2.2.2.2.2.1 s.2.1.2.2.2.2.2.2.2.2.2.2.2.1 s.2.1.2.2.2.2.2.2.2.2.2.2.2.2.1 s.2.1.2.2.2.2.2.2.2.2.2.2.2.2.2.1 s.2.1.2.2.2.2.2.2.2.2.2.2.2.2.2.2.1 s.2.1.2.2.2.2.2.2.2.2.2.2.2.2.2.2.2.1 s.2.1.2.2.2.2.2.2.2.2.2.2.2.2.2.2.2.2.1 s.2.1.2.2.2.2.2.2.2.2.2.2.2.2.2.2.2.2.2.1 s.2.1.2.2.2.2.2.2.2.2.2.2.2.2.2.2.2.2.2.2.1 s.2.1.2.2.2.2.2.2.2.2.2.2.2.2.2.2.2.2.2.2.2.1 s.2.1.2.2.2.2.2.2.2.2.2.2.2.2.2.2.2.2.2.2.2.2.1
def Nx (g0_r:bX->lI) (c0_r:bX->Bool) (g0_0:bX->pO) (s:bX):OT aZ:=(.br (c0_r s) (.ok ⟨(.ret,nw),g0_r s⟩) (.ok ⟨(.exit 0,nx),g0_0 s⟩))
def j1:aL:=⟨jK,[YV],false⟩
section
variable (ok0:bX->Bool) (g0_r:bX->lI) (c0_r:bX->Bool) (g0_0:bX->pO)
def Va (a0:cJ) (c0_0:Int) (c0_1:Int) (c0_2:cJ) (c0_3:UInt64) (c0_4:UInt64) (c0_5:UInt64) (c0_6:UInt64) (c0_7:UInt64) (c0_8:UInt64) (c0_9:UInt64) (c0_10:UInt64) (c0_11:Bool) (c0_12:UInt64) (c0_13:UInt64) (c0_14:UInt64) (c0_15:UInt64) (c0_16:UInt64) (c0_17:UInt64) (c0_18:UInt64) (c0_19:UInt64) (c0_20:Bool):OT kI.Y:=
 let z0:bX:=((a0,(),(↑(List.length a0):Int),(0:Int),()),(c0_0,c0_1,c0_2,c0_3,c0_4,c0_5,c0_6,c0_7,c0_8,c0_9,c0_10,c0_11,c0_12,c0_13,c0_14,c0_15,c0_16,c0_17,c0_18,c0_19,c0_20,()),())
 let z1:lI:=g0_r z0
 let z2:=z1.snd.fst
 let z3:=z2.snd
 let z4:=z3.snd
 let z5:=z4.snd
 let z6:=z5.snd
 let z7:=z6.snd
 let z8:=z7.snd
 let z9:=z8.snd
 let z10:=z9.snd
 let z11:=z10.snd
 let z12:=z11.snd
 let z13:=z12.snd
 let z14:=z13.snd
 let z15:=z14.snd
 let z16:=z15.snd
 let z17:=z16.snd
 let z18:=z17.snd
 let z19:=z18.snd
 let z20:=z19.snd
 let z21:=z20.snd
 let z22:=(g0_0 z0).snd.fst
 let z23:=z22.snd
 let z24:=z23.snd
 let z25:=z24.snd
 let z26:=z25.snd
 let z27:=z26.snd
 let z28:=z27.snd
 let z29:=z28.snd
 let z30:=z29.snd
 let z31:=z30.snd
 let z32:=z31.snd
 let z33:=z32.snd
 let z34:=z33.snd
 let z35:=z34.snd
 let z36:=z35.snd
 let z37:=z36.snd
 let z38:=z37.snd
 let z39:=z38.snd
 let z40:=z39.snd
 let z41:=z40.snd
 (gd [ok0 z0] (.br (c0_r z0)
 (.ok ⟨j1,((z1.fst.fst,()),(z2.fst,z3.fst,z4.fst,z5.fst,z6.fst,z7.fst,z8.fst,z9.fst,z10.fst,z11.fst,z12.fst,z13.fst,z14.fst,z15.fst,z16.fst,z17.fst,z18.fst,z19.fst,z20.fst,z21.fst,z21.snd.fst,()),())⟩)
 (.ok ⟨j1,(((-1:Int),()),(z22.fst,z23.fst,z24.fst,z25.fst,z26.fst,z27.fst,z28.fst,z29.fst,z30.fst,z31.fst,z32.fst,z33.fst,z34.fst,z35.fst,z36.fst,z37.fst,z38.fst,z39.fst,z40.fst,z41.fst,z41.snd.fst,()),())⟩)))
theorem U9 (h0:bh vk ok0 (Nx g0_r c0_r g0_0)) (pre:Bb->Bool) (F:Bb->OT kI.Y) (hF:∀ (x:Bb) oy,pre x=true->(F x).run=some oy->(Va ok0 g0_r c0_r g0_0 x.1.1 x.2.1.1 x.2.1.2.1 x.2.1.2.2.1 x.2.1.2.2.2.1 x.2.1.2.2.2.2.1 x.2.1.2.2.2.2.2.1 x.2.1.2.2.2.2.2.2.1 x.2.1.2.2.2.2.2.2.2.1 x.2.1.2.2.2.2.2.2.2.2.1 x.2.1.2.2.2.2.2.2.2.2.2.1 x.2.1.2.2.2.2.2.2.2.2.2.2.1 x.2.1.2.2.2.2.2.2.2.2.2.2.2.1 x.2.1.2.2.2.2.2.2.2.2.2.2.2.2.1 x.2.1.2.2.2.2.2.2.2.2.2.2.2.2.2.1 x.2.1.2.2.2.2.2.2.2.2.2.2.2.2.2.2.1 x.2.1.2.2.2.2.2.2.2.2.2.2.2.2.2.2.2.1 x.2.1.2.2.2.2.2.2.2.2.2.2.2.2.2.2.2.2.1 x.2.1.2.2.2.2.2.2.2.2.2.2.2.2.2.2.2.2.2.1 x.2.1.2.2.2.2.2.2.2.2.2.2.2.2.2.2.2.2.2.2.1 x.2.1.2.2.2.2.2.2.2.2.2.2.2.2.2.2.2.2.2.2.2.1 x.2.1.2.2.2.2.2.2.2.2.2.2.2.2.2.2.2.2.2.2.2.2.1).run=some oy):aa aj 126 (kI.az pre F):=
 di EW 126 Tryz.f126 kI [j1] (lg EW 0 ald [(0,nx)] (some nw) none vk bD h0 bD) (λx=>Va ok0 g0_r c0_r g0_0 x.1.1 x.2.1.1 x.2.1.2.1 x.2.1.2.2.1 x.2.1.2.2.2.1 x.2.1.2.2.2.2.1 x.2.1.2.2.2.2.2.1 x.2.1.2.2.2.2.2.2.1 x.2.1.2.2.2.2.2.2.2.1 x.2.1.2.2.2.2.2.2.2.2.1 x.2.1.2.2.2.2.2.2.2.2.2.1 x.2.1.2.2.2.2.2.2.2.2.2.2.1 x.2.1.2.2.2.2.2.2.2.2.2.2.2.1 x.2.1.2.2.2.2.2.2.2.2.2.2.2.2.1 x.2.1.2.2.2.2.2.2.2.2.2.2.2.2.2.1 x.2.1.2.2.2.2.2.2.2.2.2.2.2.2.2.2.1 x.2.1.2.2.2.2.2.2.2.2.2.2.2.2.2.2.2.1 x.2.1.2.2.2.2.2.2.2.2.2.2.2.2.2.2.2.2.1 x.2.1.2.2.2.2.2.2.2.2.2.2.2.2.2.2.2.2.2.1 x.2.1.2.2.2.2.2.2.2.2.2.2.2.2.2.2.2.2.2.2.1 x.2.1.2.2.2.2.2.2.2.2.2.2.2.2.2.2.2.2.2.2.2.1 x.2.1.2.2.2.2.2.2.2.2.2.2.2.2.2.2.2.2.2.2.2.2.1) hF
end
def tS (l:List Pt) (i:aBW):Nat->Nat->Int
 |0,_=> -1
 |n+1,k=>cond (wQ i.1 (l.getD k jN)) (k:Int) (tS l i n (k+1))
def IG (s:bX):Bool:=decide (s.1.2.2.1=(s.1.1.length:Int)/\s.1.2.2.2.1=0/\s.1.1.length<=140737488355328)
def lu (l:List Pt) (i:aBW):Int:=tS l i l.length 0
def IH (s:bX):lI:=((lu s.1.1 s.2.1,()),s.2)
def Ny (s:bX):Bool:=decide (0<=lu s.1.1 s.2.1)
def Nw (s:bX):pO:=((),s.2)
def II (l:List Pt) (i:aBW) (k:Int):bX:=((l,(),(l.length:Int),k,()),i,())
theorem Oq (l:List Pt) (i:aBW):∀ n k,tS l i n k= -1\/0<=tS l i n k
 |0,_=>.inl rfl
 |n+1,k=>by
  unfold tS
  cases wQ i.1 (l.getD k jN)
  ·exact Oq l i n (k+1)
  ·right
   show (0:Int)<=(k:Int)
   omega
theorem Vc (l:List Pt) (i:aBW) (hl:l.length<=140737488355328):∀ n k:Nat,k+n=l.length->
 ∃ m,cW vk m (II l i (k:Int))=some (cond (decide (0<=tS l i n k)) ⟨(.ret,nw),((tS l i n k,()),i,())⟩ ⟨(.exit 0,nx),((),i,())⟩)
 |0,k,h=>⟨1,aV (OT.au (bq (by dsimp only [II];omega)))⟩
 |n+1,k,h=>by
  have hin:inB (k:Int) l.length=true:=ba (by omega)
  have hgd:∀ z:OT (Sum bX aZ),(gd [inB (k:Int) l.length] z).run=z.run:=λz=>ae (by rw [hin];rfl)
  unfold tS
  rcases (b9 (wQ i.1 (l.getD k jN))).symm with hb|hb
  ·obtain ⟨m,hm⟩:=Vc l i hl n (k+1) (by omega)
   rw [hb]
   refine ⟨m+1,bN ?_ hm⟩
   refine (OT.ak (ag (by dsimp only [II];omega))).trans ((hgd _).trans ((OT.au hb).trans ((ae ?_).trans rfl)))
   simp only [aA,aI,aJ]
   exact aS (by dsimp only [II];omega)
  ·rw [hb]
   have e:decide ((0:Int)<=cond true (k:Int) (tS l i n (k+1)))=true:=ag (by show (0:Int)<=(k:Int);omega)
   rw [e]
   refine ⟨1,aV ?_⟩
   exact (OT.ak (ag (by dsimp only [II];omega))).trans ((hgd _).trans ((OT.ak hb).trans rfl))
theorem alf:bh vk IG (Nx IH Ny Nw):=by
 rintro ⟨⟨l,⟨⟩,n,k,⟨⟩⟩,⟨i,⟨⟩⟩⟩ h
 have h':=bm h
 dsimp only at h'
 obtain ⟨rfl,rfl,hl⟩:=h'
 obtain ⟨m,hm⟩:=Vc l i hl l.length 0 (by omega)
 refine ⟨m,_,hm,?_⟩
 show (OT.br (decide (0<=lu l i)) _ _:OT aZ).run=some (cond (decide (0<=lu l i)) _ _)
 cases decide (0<=lu l i)<;>rfl
def yn (x:Bb):Bool:=decide (x.1.1.length<=140737488355328)
def Vb (x:Bb):OT kI.Y:=.ok ⟨j1,((lu x.1.1 x.2.1,()),x.2)⟩
theorem ale:aa aj 126 (kI.az yn Vb):=U9 IG IH Ny Nw alf _ _ λx oy hp ho=>by
 rw [<-ho]
 clear ho
 obtain ⟨⟨l,⟨⟩,⟨⟩⟩,⟨i,⟨⟩⟩⟩:=x
 have hl:l.length<=140737488355328:=bm hp
 refine (ae ?_).trans ?_
 ·simp only [aA,aI,aJ]
  exact ag ⟨rfl,rfl,hl⟩
 ·show (OT.br (decide (0<=lu l i)) (.ok ⟨j1,((lu l i,()),i,())⟩) (.ok ⟨j1,(((-1:Int),()),i,())⟩):OT kI.Y).run=some ⟨j1,((lu l i,()),i,())⟩
  rcases Oq l i l.length 0 with h|h
  ·have h:lu l i= -1:=h
   rw [h]
   rfl
  ·exact OT.ak (ag h)
def sK:bt:=(kI.az yn Vb)
theorem QF:aa aj 126 sK:=ale
theorem QE:ax sK:=av
def Y9:Env:=aq 126 sK aje
theorem Mb:bV aj te Y9:=aU follows EW QF QE
def pQ:af:=⟨[xr,.fn 78 [0]],[(0,aHU)],false,1,true⟩
abbrev IU:Type:=(cJ×ct)×LX×Unit
def IR:aL:=⟨og,[YV],false⟩
def agn (a0:cJ) (c0_0:Int) (c0_1:Int) (c0_2:cJ) (c0_3:UInt64) (c0_4:UInt64) (c0_5:UInt64) (c0_6:UInt64) (c0_7:UInt64) (c0_8:UInt64) (c0_9:UInt64) (c0_10:UInt64) (c0_11:Bool) (c0_12:UInt64) (c0_13:UInt64) (c0_14:UInt64) (c0_15:UInt64) (c0_16:UInt64) (c0_17:UInt64) (c0_18:UInt64) (c0_19:UInt64) (c0_20:Bool):OT pQ.Y:=
 let z0:aBH:=(c0_0,c0_1,c0_2,c0_3,c0_4,c0_5,c0_6,c0_7,c0_8,c0_9,c0_10,c0_11,c0_12,c0_13,c0_14,c0_15,c0_16,c0_17,c0_18,c0_19,c0_20,())
 (gd [yn ((a0,(),()),z0,())] (.ok ⟨IR,((decide ((0:Int)<=lu a0 z0),()),(c0_0,c0_1,c0_2,c0_3,c0_4,c0_5,c0_6,c0_7,c0_8,c0_9,c0_10,c0_11,c0_12,c0_13,c0_14,c0_15,c0_16,c0_17,c0_18,c0_19,c0_20,()),())⟩))
theorem abe (pre:IU->Bool) (F:IU->OT pQ.Y) (hF:∀ (x:IU) oy,pre x=true->(F x).run=some oy->(agn x.1.1 x.2.1.1 x.2.1.2.1 x.2.1.2.2.1 x.2.1.2.2.2.1 x.2.1.2.2.2.2.1 x.2.1.2.2.2.2.2.1 x.2.1.2.2.2.2.2.2.1 x.2.1.2.2.2.2.2.2.2.1 x.2.1.2.2.2.2.2.2.2.2.1 x.2.1.2.2.2.2.2.2.2.2.2.1 x.2.1.2.2.2.2.2.2.2.2.2.2.1 x.2.1.2.2.2.2.2.2.2.2.2.2.2.1 x.2.1.2.2.2.2.2.2.2.2.2.2.2.2.1 x.2.1.2.2.2.2.2.2.2.2.2.2.2.2.2.1 x.2.1.2.2.2.2.2.2.2.2.2.2.2.2.2.2.1 x.2.1.2.2.2.2.2.2.2.2.2.2.2.2.2.2.2.1 x.2.1.2.2.2.2.2.2.2.2.2.2.2.2.2.2.2.2.1 x.2.1.2.2.2.2.2.2.2.2.2.2.2.2.2.2.2.2.2.1 x.2.1.2.2.2.2.2.2.2.2.2.2.2.2.2.2.2.2.2.2.1 x.2.1.2.2.2.2.2.2.2.2.2.2.2.2.2.2.2.2.2.2.2.1 x.2.1.2.2.2.2.2.2.2.2.2.2.2.2.2.2.2.2.2.2.2.2.1).run=some oy):aa aj 79 (pQ.az pre F):=
 di Mb 79 Tryz.f79 pQ [IR] bD (λx=>agn x.1.1 x.2.1.1 x.2.1.2.1 x.2.1.2.2.1 x.2.1.2.2.2.1 x.2.1.2.2.2.2.1 x.2.1.2.2.2.2.2.1 x.2.1.2.2.2.2.2.2.1 x.2.1.2.2.2.2.2.2.2.1 x.2.1.2.2.2.2.2.2.2.2.1 x.2.1.2.2.2.2.2.2.2.2.2.1 x.2.1.2.2.2.2.2.2.2.2.2.2.1 x.2.1.2.2.2.2.2.2.2.2.2.2.2.1 x.2.1.2.2.2.2.2.2.2.2.2.2.2.2.1 x.2.1.2.2.2.2.2.2.2.2.2.2.2.2.2.1 x.2.1.2.2.2.2.2.2.2.2.2.2.2.2.2.2.1 x.2.1.2.2.2.2.2.2.2.2.2.2.2.2.2.2.2.1 x.2.1.2.2.2.2.2.2.2.2.2.2.2.2.2.2.2.2.1 x.2.1.2.2.2.2.2.2.2.2.2.2.2.2.2.2.2.2.2.1 x.2.1.2.2.2.2.2.2.2.2.2.2.2.2.2.2.2.2.2.2.1 x.2.1.2.2.2.2.2.2.2.2.2.2.2.2.2.2.2.2.2.2.2.1 x.2.1.2.2.2.2.2.2.2.2.2.2.2.2.2.2.2.2.2.2.2.2.1) hF
def auC (l:List Pt) (i:aBW):Bool:=decide (0<=lu l i)
def Dw (x:IU):Bool:=decide (x.1.1.length<=140737488355328)
def ago (x:IU):OT pQ.Y:=.ok ⟨IR,((auC x.1.1 x.2.1,()),x.2)⟩
theorem ap6:aa aj 79 (pQ.az Dw ago):=abe _ _ λx oy hp ho=>by
 rw [<-ho]
 clear ho
 refine (ae ?_).trans rfl
 simp only [aA,aI,aJ]
 exact hp
def yr:bt:=(pQ.az Dw ago)
theorem Vk:aa aj 79 yr:=ap6
theorem Vj:ax yr:=av
def ajg:Env:=aq 79 yr Y9
theorem Ph:bV aj te ajg:=aU follows Mb Vk Vj
def nB:af:=⟨[Pb],[],true,0,false⟩
abbrev IW:Type:=rB×Unit
def gH:aL:=⟨jK,[],false⟩
def GM (a0:kW):OT nB.Y:=
 let z0:aBH:=(a0.fst,a0.snd.fst,a0.snd.snd.fst,a0.snd.snd.snd.fst.fst.w0,a0.snd.snd.snd.fst.fst.w1,a0.snd.snd.snd.fst.fst.w2,a0.snd.snd.snd.fst.fst.w3,a0.snd.snd.snd.fst.snd.fst.w0,a0.snd.snd.snd.fst.snd.fst.w1,a0.snd.snd.snd.fst.snd.fst.w2,a0.snd.snd.snd.fst.snd.fst.w3,a0.snd.snd.snd.fst.snd.snd,a0.snd.snd.snd.snd.fst.w0,a0.snd.snd.snd.snd.fst.w1,a0.snd.snd.snd.snd.fst.w2,a0.snd.snd.snd.snd.fst.w3,a0.snd.snd.snd.snd.snd.fst.w0,a0.snd.snd.snd.snd.snd.fst.w1,a0.snd.snd.snd.snd.snd.fst.w2,a0.snd.snd.snd.snd.snd.fst.w3,a0.snd.snd.snd.snd.snd.snd,())
 (.br (ac a0.fst)
 (.br (decide (a0.snd.fst<(0:Int)))
  (.ok ⟨gH,(((60:Int),()),())⟩)
  (.br (decide ((5:Int)<a0.snd.fst))
   (.ok ⟨gH,(((60:Int),()),())⟩)
   (gd [decide ((0:Int)<=a0.snd.fst)] (.br (!(↑(List.length a0.snd.snd.fst):Int)==V0 (1:Int) a0.snd.fst)
    (.ok ⟨gH,(((90:Int),()),())⟩)
    (gd [Dw ((a0.snd.snd.fst,(),()),z0,())] (.br (auC a0.snd.snd.fst z0)
     (.ok ⟨gH,(((90:Int),()),())⟩)
     (.br (wQ a0.fst a0.snd.snd.snd.fst)
      (.ok ⟨gH,(((90:Int),()),())⟩)
      (.br (wQ a0.fst a0.snd.snd.snd.snd)
       (.ok ⟨gH,(((90:Int),()),())⟩)
       (.ok ⟨gH,(((0:Int),()),())⟩)))))))))
 (.ok ⟨gH,(((40:Int),()),())⟩))
theorem abj (pre:IW->Bool) (F:IW->OT nB.Y) (hF:∀ (x:IW) oy,pre x=true->(F x).run=some oy->(GM x.1.1).run=some oy):aa aj 25 (nB.az pre F):=
 di Ph 25 Tryz.f25 nB [gH] bD (λx=>GM x.1.1) hF
abbrev ml:Type:=Int×(Int×(List Pt×(Pt×Pt)))
theorem aiA (l:List Pt) (i:aBW):∀ n k:Nat,k+n=l.length->decide (0<=tS l i n k)=(l.drop k).any (wQ i.1)
 |0,k,h=>by
  rw [List.drop_eq_nil_of_le (by omega)]
  rfl
 |n+1,k,h=>by
  have hk:k<l.length:=by omega
  have e1:l.drop k=l[k]::l.drop (k+1):=m8 hk
  have e3:l.getD k jN=l[k]:=by rw [eZ,m9 hk];rfl
  rw [e1,List.any_cons]
  unfold tS
  rw [e3]
  cases wQ i.1 l[k]
  ·rw [aT,Bool.false_or]
   exact aiA l i n (k+1) (by omega)
  ·rw [aK,Bool.true_or]
   exact ag (by omega)
theorem aFk (l:List Pt) (i:aBW):auC l i=l.any (wQ i.1):=aiA l i l.length 0 (by omega)
def cU (p:ml):Int:=cond (ac p.1) (cond (decide (p.2.1<0)) 60 (cond (decide (5<p.2.1)) 60 (cond (!((p.2.2.1.length:Int)==V0 1 p.2.1)) 90 (cond (p.2.2.1.any (wQ p.1)) 90 (cond (wQ p.1 p.2.2.2.1) 90 (cond (wQ p.1 p.2.2.2.2) 90 0)))))) 40
def ig (x:IW):Bool:=decide (x.1.1.2.2.1.length<=140737488355328)
def agp (x:IW):OT nB.Y:=.ok ⟨gH,((cU x.1.1,()),())⟩
theorem aqc:aa aj 25 (nB.az ig agp):=abj _ _ λx oy hp ho=>by
 rw [<-ho]
 clear ho
 obtain ⟨⟨p,⟨⟩⟩,⟨⟩⟩:=x
 show (GM p).run=some (⟨gH,((cU p,()),())⟩:nB.Y)
 have hp:decide (p.2.2.1.length<=140737488355328)=true:=hp
 unfold GM cU
 simp only [aFk]
 rcases (b9 (ac p.1)).symm with h1|h1
 ·rw [h1];exact (OT.au rfl).trans rfl
 ·rw [h1]
  refine (OT.ak rfl).trans ?_
  by_cases h2:p.2.1<0
  ·rw [ag h2];exact (OT.ak rfl).trans rfl
  ·rw [bq h2]
   refine (OT.au rfl).trans ?_
   by_cases h3:5<p.2.1
   ·rw [ag h3];exact (OT.ak rfl).trans rfl
   ·rw [bq h3]
    refine (OT.au rfl).trans ((ae (by rw [ag (show 0<=p.2.1 by omega)];rfl)).trans ?_)
    rcases (b9 (!((p.2.2.1.length:Int)==V0 1 p.2.1))).symm with h4|h4
    ·rw [h4]
     refine (OT.au rfl).trans ((ae ?_).trans ?_)
     ·simp only [aA,aI,aJ]
      exact hp
     ·rcases (b9 (p.2.2.1.any (wQ p.1))).symm with h5|h5
      ·rw [h5]
       refine (OT.au rfl).trans ?_
       rcases (b9 (wQ p.1 p.2.2.2.1)).symm with h6|h6
       ·rw [h6]
        refine (OT.au rfl).trans ?_
        rcases (b9 (wQ p.1 p.2.2.2.2)).symm with h7|h7
        ·rw [h7];exact (OT.au rfl).trans rfl
        ·rw [h7];exact (OT.ak rfl).trans rfl
       ·rw [h6];exact (OT.ak rfl).trans rfl
      ·rw [h5];exact (OT.ak rfl).trans rfl
    ·rw [h4];exact (OT.ak rfl).trans rfl
def yw:bt:=(nB.az ig agp)
theorem Vn:aa aj 25 yw:=aqc
theorem Vm:ax yw:=av
def ajh:Env:=aq 25 yw ajg
theorem Pk:bV aj te ajh:=aU follows Ph Vn Vm
end
end Go.Proofs.YthnnknnbfhkomaaGreat
