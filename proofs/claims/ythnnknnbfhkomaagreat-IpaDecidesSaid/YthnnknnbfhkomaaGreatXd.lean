/- A symbolic machine for Go code over plain data, and functions of the program as it shows them. No statement is proved in this file. -/
import Derived.KernelRfl
import Derived.Test.YthnnknnbfhkomaaGreatXc
set_option linter.unusedSimpArgs false
set_option linter.unusedVariables false
set_option linter.unusedSectionVars false
namespace Go.Proofs.YthnnknnbfhkomaaGreat
section
open Sx Go
set_option maxRecDepth 100000
def yX:af:=⟨Lb,[],true,0,false⟩
abbrev Xz:Type:=K6
def j7:aH:=⟨fG,[],false⟩
def att (a0:Int) (a1:ab) (a2:ab):OT yX.Y:=
 let z0:Bool:=ac a0
 let z1:Nat:=pS a0
 let z2:ab:= {w0:=0,w1:=0,w2:=0,w3:=0}
 let z3:ab:=fp z1 z2 a2
 (.br (z0)
 (.br (z0)
  (.br (z0)
   (.ok ⟨j7,((fp z1 (aQ z1 (aQ z1 a1 a1) a1) a2,()),())⟩)
   (.ok ⟨j7,((z2,()),())⟩))
  (.br (z0)
   (.ok ⟨j7,((z3,()),())⟩)
   (.ok ⟨j7,((z2,()),())⟩)))
 (.br (z0)
  (.br (z0)
   (.ok ⟨j7,((fp z1 (aQ z1 z2 a1) a2,()),())⟩)
   (.ok ⟨j7,((z2,()),())⟩))
  (.br (z0)
   (.ok ⟨j7,((z3,()),())⟩)
   (.ok ⟨j7,((z2,()),())⟩))))
theorem anc (pre:Xz->Bool) (F:Xz->OT yX.Y) (hF:∀ (x:Xz) oy,pre x=true->(F x).run=some oy->(att x.1.1 x.1.2.1 x.1.2.2.1).run=some oy):aa ag 113 (yX.aw pre F):=
 cC ajj 113 Tryz.f113 yX [j7] bw (λx=>att x.1.1 x.1.2.1 x.1.2.2.1) hF
def L5 (p:Nat) (x b:ab):ab:=fp p (aQ p (aQ p x x) x) b
def tO (x:Xz):Bool:=ac x.1.1
def atu (x:Xz):OT yX.Y:=.ok ⟨j7,((L5 (pS x.1.1) x.1.2.1 x.1.2.2.1,()),())⟩
theorem aze:aa ag 113 (yX.aw tO atu):=anc _ _ λx oy hp ho=>by
 rw [<-ho]
 clear ho
 obtain ⟨⟨s,a,b,⟨⟩⟩,⟨⟩⟩:=x
 have hs:ac s=true:=hp
 exact (OT.ak hs).trans ((OT.ak hs).trans ((OT.ak hs).trans rfl))
def D4:bi:=(yX.aw tO atu)
theorem adE:aa ag 113 D4:=aze
theorem adD:au D4:=aq
def avE:Env:=ap 113 D4 aB9
theorem Ze:bI ag te avE:=aP follows ajj adE adD
def Xj:af:=⟨[aB,wH],[],true,0,false⟩
abbrev aGD:Type:=(Int×rp)×Unit
def wC:aH:=⟨mO,[],false⟩
def aGB (a0:Int) (a1:cM):OT Xj.Y:=
 let z0:Bool:=ac a0
 let z1:Nat:=ab.nat (numOf (Int.toNat a0)).fst
 let z2:ab:=bS a0
 let z3:Bool:=tO ((a0,a1.fst,z2,()),())
 let z4:Nat:=pS a0
 let z5:ab:=aQ z4 a1.snd.fst a1.snd.fst
 let z6:ab:=L5 z4 a1.fst z2
 let z7:=z6.w0
 let z8:=z6.w1
 let z9:=z6.w2
 let z10:=z6.w3
 (.br (z0)
 (.br (a1.snd.snd)
  (.ok ⟨wC,((a1.fst.w0==(0:UInt64)&&(a1.fst.w1==(0:UInt64)&&(a1.fst.w2==(0:UInt64)&&(a1.fst.w3==(0:UInt64)&&true)))&&(a1.snd.fst.w0==(0:UInt64)&&(a1.snd.fst.w1==(0:UInt64)&&(a1.snd.fst.w2==(0:UInt64)&&(a1.snd.fst.w3==(0:UInt64)&&true)))&&(a1.snd.snd==true&&true)),()),())⟩)
  (.br (z0)
   (.br (Nat.blt (ab.nat a1.fst) z1)
    (.br (Nat.blt (ab.nat a1.snd.fst) z1)
     (.br (z0)
      (gd [z3] (.ok ⟨wC,((z5.w0==z7&&(z5.w1==z8&&(z5.w2==z9&&(z5.w3==z10&&true))),()),())⟩))
      (gd [z3] (.ok ⟨wC,(((0:UInt64)==z7&&((0:UInt64)==z8&&((0:UInt64)==z9&&((0:UInt64)==z10&&true))),()),())⟩)))
     (.ok ⟨wC,((false,()),())⟩))
    (.ok ⟨wC,((false,()),())⟩))
   (.ok ⟨wC,((false,()),())⟩)))
 (.ok ⟨wC,((false,()),())⟩))
theorem ay8 (pre:aGD->Bool) (F:aGD->OT Xj.Y) (hF:∀ (x:aGD) oy,pre x=true->(F x).run=some oy->(aGB x.1.1 x.1.2.1).run=some oy):aa ag 61 (Xj.aw pre F):=
 cC Ze 61 Tryz.f61 Xj [wC] bw (λx=>aGB x.1.1 x.1.2.1) hF
def eqE (a b:ab):Bool:=(a.w0==b.w0&&(a.w1==b.w1&&(a.w2==b.w2&&(a.w3==b.w3&&true))))
theorem nU {a b:ab}:eqE a b=true ↔ a=b:=by
 obtain ⟨a0,a1,a2,a3⟩:=a
 obtain ⟨b0,b1,b2,b3⟩:=b
 simp [eqE]
theorem RH (a:ab):eqE a a=true:=nU.2 rfl
theorem aEt (a b:ab):eqE a b=Nat.beq a.nat b.nat:=by
 cases h:eqE a b
 ·cases hb:Nat.beq a.nat b.nat
  ·rfl
  ·rw [nU.2 (iY (aX hb))] at h
   cases h
 ·rw [nU.1 h]
  exact (Nat.beq_refl _).symm
abbrev Pt:Type:=cM
def onB (c:Int) (P:Pt):Bool:=cond (ac c) (cond P.2.2 (bJ P.1&&(bJ P.2.1&&(P.2.2==true&&true)))
 (cond (Nat.blt P.1.nat (pS c)) (cond (Nat.blt P.2.1.nat (pS c)) (eqE (aQ (pS c) P.2.1 P.2.1) (L5 (pS c) P.1 (bS c))) false) false)) false
def atb (_:aGD):Bool:=true
def aGC (x:aGD):OT Xj.Y:=.ok ⟨wC,((onB x.1.1 x.1.2.1,()),())⟩
theorem aGA:aa ag 61 (Xj.aw atb aGC):=ay8 _ _ λx oy _ ho=>by
 rw [<-ho]
 clear ho
 obtain ⟨⟨c,⟨X,Y,i⟩,⟨⟩⟩,⟨⟩⟩:=x
 show _=(OT.ok ⟨wC,((onB c (X,Y,i),()),())⟩:OT Xj.Y).run
 unfold onB
 cases hs:ac c
 ·exact OT.al hs
 ·refine (OT.ak hs).trans ?_
  cases i
  ·refine (OT.al rfl).trans ((OT.ak hs).trans ?_)
   cases hx:Nat.blt X.nat (pS c)
   ·exact OT.al hx
   ·refine (OT.ak hx).trans ?_
    cases hy:Nat.blt Y.nat (pS c)
    ·exact OT.al hy
    ·refine (OT.ak hy).trans ((OT.ak hs).trans ((ae ?_).trans rfl))
     simp only [ax,aA,aC]
     exact hs
  ·exact OT.ak rfl
theorem AF {c:Int} {P:Pt} (h:onB c P=true):ac c=true:=by
 unfold onB at h
 cases hs:ac c
 ·rw [hs] at h;cases h
 ·rfl
def RO:bi:=(Xj.aw atb aGC)
theorem atc:aa ag 61 RO:=aGA
theorem ata:au RO:=aq
def aGX:Env:=ap 61 RO avE
theorem avC:bI ag te aGX:=aP follows Ze atc ata
def qI:af:=⟨[Fu],[],true,0,false⟩
abbrev Kj:Type:=(ib×Unit)×Unit
def Ki:aH:=⟨mO,[],false⟩
def ahC (a0:ib):OT qI.Y:=
 (.ok ⟨Ki,((a0.snd.snd.w0==(0:UInt64)&&(a0.snd.snd.w1==(0:UInt64)&&(a0.snd.snd.w2==(0:UInt64)&&(a0.snd.snd.w3==(0:UInt64)&&true))),()),())⟩)
theorem adw (pre:Kj->Bool) (F:Kj->OT qI.Y) (hF:∀ (x:Kj) oy,pre x=true->(F x).run=some oy->(ahC x.1.1).run=some oy):aa ag 185 (qI.aw pre F):=
 cC avC 185 Tryz.f185 qI [Ki] bw (λx=>ahC x.1.1) hF
abbrev GG:Type:=ib
def NW (_:Kj):Bool:=true
def ahD (x:Kj):OT qI.Y:=.ok ⟨Ki,((bJ x.1.1.2.2,()),())⟩
theorem atk:aa ag 185 (qI.aw NW ahD):=adw _ _ λx oy hp ho=>by
 rw [<-ho]
 rfl
def yW:bi:=(qI.aw NW ahD)
theorem Xq:aa ag 185 yW:=atk
theorem Xp:au yW:=aq
def aji:Env:=ap 185 yW aGX
theorem OK:bI ag te aji:=aP follows avC Xq Xp
def qG:af:=⟨oP,[],true,0,false⟩
abbrev J9:Type:=rp×Unit
def Bv:aH:=⟨[Fu],[],false⟩
def ahu (a0:cM):OT qG.Y:=
 let z0:ab:= {w0:=0,w1:=0,w2:=0,w3:=0}
 (.br (a0.snd.snd)
 (.ok ⟨Bv,(((z0,z0,z0),()),())⟩)
 (.ok ⟨Bv,(((a0.fst,a0.snd.fst,{w0:=1,w1:=0,w2:=0,w3:=0}),()),())⟩))
theorem adq (pre:J9->Bool) (F:J9->OT qG.Y) (hF:∀ (x:J9) oy,pre x=true->(F x).run=some oy->(ahu x.1.1).run=some oy):aa ag 167 (qG.aw pre F):=
 cC OK 167 Tryz.f167 qG [Bv] bw (λx=>ahu x.1.1) hF
def fZ (P:Pt):GG:=cond P.2.2 (⟨0,0,0,0⟩,⟨0,0,0,0⟩,⟨0,0,0,0⟩) (P.1,P.2.1,⟨1,0,0,0⟩)
def NS (_:J9):Bool:=true
def ahv (x:J9):OT qG.Y:=.ok ⟨Bv,((fZ x.1.1,()),())⟩
theorem as3:aa ag 167 (qG.aw NS ahv):=adq _ _ λx oy hp ho=>by
 rw [<-ho]
 clear ho
 obtain ⟨⟨⟨X,Y,i⟩,⟨⟩⟩,⟨⟩⟩:=x
 cases i<;>rfl
def yT:bi:=(qG.aw NS ahv)
theorem Xb:aa ag 167 yT:=as3
theorem Xa:au yT:=aq
def aje:Env:=ap 167 yT aji
theorem OI:bI ag te aje:=aP follows OK Xb Xa
def Kh:af:=⟨Lb,[],true,0,false⟩
abbrev atg:Type:=K6
def RR:aH:=⟨fG,[],false⟩
def aA7 (a0:Int) (a1:ab) (a2:ab):OT Kh.Y:=
 (.br (ac a0)
 (.ok ⟨RR,((aQ (pS a0) a1 a2,()),())⟩)
 (.ok ⟨RR,(({w0:=0,w1:=0,w2:=0,w3:=0},()),())⟩))
theorem atf (pre:atg->Bool) (F:atg->OT Kh.Y) (hF:∀ (x:atg) oy,pre x=true->(F x).run=some oy->(aA7 x.1.1 x.1.2.1 x.1.2.2.1).run=some oy):aa ag 186 (Kh.aw pre F):=
 cC OI 186 Tryz.f186 Kh [RR] bw (λx=>aA7 x.1.1 x.1.2.1 x.1.2.2.1) hF
def bE (x:atg):Bool:=ac x.1.1
def aA8 (x:atg):OT Kh.Y:=.ok ⟨RR,((aQ (pS x.1.1) x.1.2.1 x.1.2.2.1,()),())⟩
theorem aEL:aa ag 186 (Kh.aw bE aA8):=atf _ _ λx oy hp ho=>by
 rw [<-ho]
 clear ho
 obtain ⟨⟨s,a,b,⟨⟩⟩,⟨⟩⟩:=x
 have hs:ac s=true:=hp
 exact (OT.ak hs).trans rfl
def Kg:bi:=(Kh.aw bE aA8)
theorem am3:aa ag 186 Kg:=aEL
theorem am2:au Kg:=aq
def aB8:Env:=ap 186 Kg aje
theorem ajh:bI ag te aB8:=aP follows OI am3 am2
def Ke:af:=⟨Lb,[],true,0,false⟩
abbrev as8:Type:=K6
def RK:aH:=⟨fG,[],false⟩
def aA5 (a0:Int) (a1:ab) (a2:ab):OT Ke.Y:=
 (.br (ac a0)
 (.ok ⟨RK,((gZ (pS a0) a1 a2,()),())⟩)
 (.ok ⟨RK,(({w0:=0,w1:=0,w2:=0,w3:=0},()),())⟩))
theorem as7 (pre:as8->Bool) (F:as8->OT Ke.Y) (hF:∀ (x:as8) oy,pre x=true->(F x).run=some oy->(aA5 x.1.1 x.1.2.1 x.1.2.2.1).run=some oy):aa ag 187 (Ke.aw pre F):=
 cC ajh 187 Tryz.f187 Ke [RK] bw (λx=>aA5 x.1.1 x.1.2.1 x.1.2.2.1) hF
def jn (x:as8):Bool:=ac x.1.1
def aA6 (x:as8):OT Ke.Y:=.ok ⟨RK,((gZ (pS x.1.1) x.1.2.1 x.1.2.2.1,()),())⟩
theorem aEI:aa ag 187 (Ke.aw jn aA6):=as7 _ _ λx oy hp ho=>by
 rw [<-ho]
 clear ho
 obtain ⟨⟨s,a,b,⟨⟩⟩,⟨⟩⟩:=x
 have hs:ac s=true:=hp
 exact (OT.ak hs).trans rfl
def Kd:bi:=(Ke.aw jn aA6)
theorem amW:aa ag 187 Kd:=aEI
theorem amV:au Kd:=aq
def aB7:Env:=ap 187 Kd aB8
theorem ajg:bI ag te aB7:=aP follows ajh amW amV
def qH:af:=⟨[aB,dY,aI],[],true,0,false⟩
abbrev Kc:Type:=(Int×ab×mJ)×Unit
def Kb:aH:=⟨fG,[],false⟩
def ahx (a0:Int) (a1:ab) (a2:UInt64):OT qH.Y:=
 let z0:ab:= {w0:=a2,w1:=0,w2:=0,w3:=0}
 (gd [bE ((a0,a1,z0,()),())] (.ok ⟨Kb,((aQ (pS a0) a1 z0,()),())⟩))
theorem adr (pre:Kc->Bool) (F:Kc->OT qH.Y) (hF:∀ (x:Kc) oy,pre x=true->(F x).run=some oy->(ahx x.1.1 x.1.2.1 x.1.2.2.1).run=some oy):aa ag 188 (qH.aw pre F):=
 cC ajg 188 Tryz.f188 qH [Kb] bw (λx=>ahx x.1.1 x.1.2.1 x.1.2.2.1) hF
def lV (p:Nat) (a:ab) (n:UInt64):ab:=aQ p a ⟨n,0,0,0⟩
def iB (x:Kc):Bool:=ac x.1.1
def ahy (x:Kc):OT qH.Y:=.ok ⟨Kb,((lV (pS x.1.1) x.1.2.1 x.1.2.2.1,()),())⟩
theorem as6:aa ag 188 (qH.aw iB ahy):=adr _ _ λx oy hp ho=>by
 rw [<-ho]
 clear ho
 obtain ⟨⟨s,a,b,⟨⟩⟩,⟨⟩⟩:=x
 have hs:ac s=true:=hp
 refine (ae ?_).trans rfl
 simp only [ax,aA,aC]
 exact hs
def yU:bi:=(qH.aw iB ahy)
theorem Xd:aa ag 188 yU:=as6
theorem Xc:au yU:=aq
def ajf:Env:=ap 188 yU aB7
theorem OJ:bI ag te ajf:=aP follows ajg Xd Xc
def ky:af:=⟨[aB,Fu],[],true,0,false⟩
abbrev Bz:Type:=(Int×ib×Unit)×Unit
def jT:aH:=⟨oP,[],false⟩
def Xl (a0:Int) (a1:ib):OT ky.Y:=
 let z0:ab:= {w0:=0,w1:=0,w2:=0,w3:=0}
 let z1:Nat:=pS a0
 let z2:rq:=(z0,())
 let z3:Bool:=bE ((a0,z0,z2),())
 let z4:ab:=aQ z1 z0 z0
 let z5:Bool:=bE ((a0,a1.fst,z4,()),())
 let z6:Bool:=bE ((a0,z4,z2),())
 let z7:ab:=aQ z1 z4 z0
 let z8:Bool:=bE ((a0,a1.snd.fst,z7,()),())
 let z9:cM:=(aQ z1 a1.fst z4,aQ z1 a1.snd.fst z7,false)
 let z10:ab:=anI z1 a1.snd.snd
 let z11:rq:=(z10,())
 let z12:ab:=aQ z1 z10 z10
 let z13:ab:=aQ z1 z12 z10
 (.br (bJ a1.snd.snd)
 (.ok ⟨jT,(((z0,z0,true),()),())⟩)
 (.br (ac a0)
  (.br (Nat.beq (ab.nat a1.snd.snd%z1) 0)
   (gd [z3,z5,z6,z8] (.ok ⟨jT,((z9,()),())⟩))
   (gd [bE ((a0,z10,z11),()),bE ((a0,a1.fst,z12,()),()),bE ((a0,z12,z11),()),bE ((a0,a1.snd.fst,z13,()),())] (.ok ⟨jT,(((aQ z1 a1.fst z12,aQ z1 a1.snd.fst z13,false),()),())⟩)))
  (gd [z3,z5,z6,z8] (.ok ⟨jT,((z9,()),())⟩))))
theorem Xk (pre:Bz->Bool) (F:Bz->OT ky.Y) (hF:∀ (x:Bz) oy,pre x=true->(F x).run=some oy->(Xl x.1.1 x.1.2.1).run=some oy):aa ag 165 (ky.aw pre F):=
 cC OJ 165 Tryz.f165 ky [jT] bw (λx=>Xl x.1.1 x.1.2.1) hF
def E4 (p:Nat) (a:ab):ab:=cond (Nat.beq (a.nat%p) 0) ⟨0,0,0,0⟩ (anI p a)
def abd (p:Nat) (x y i:ab):Pt:=(aQ p x (aQ p i i),aQ p y (aQ p (aQ p i i) i),false)
def gm (p:Nat) (w:GG):Pt:=cond (bJ w.2.2) aK (abd p w.1 w.2.1 (E4 p w.2.2))
def my (x:Bz):Bool:=ac x.1.1
def Xm (x:Bz):OT ky.Y:=.ok ⟨jT,((gm (pS x.1.1) x.1.2.1,()),())⟩
theorem am0:aa ag 165 (ky.aw my Xm):=Xk _ _ λx oy hp ho=>by
 rw [<-ho]
 clear ho
 obtain ⟨⟨c,⟨X,Y,Z⟩,⟨⟩⟩,⟨⟩⟩:=x
 have hs:ac c=true:=hp
 show _=(OT.ok ⟨jT,((gm (pS c) (X,Y,Z),()),())⟩:OT ky.Y).run
 unfold gm
 dsimp only
 cases hz:bJ Z
 ·refine (OT.al hz).trans ((OT.ak hs).trans ?_)
  unfold E4
  cases hb:Nat.beq (Z.nat%pS c) 0
  ·refine (OT.al rfl).trans ((ae ?_).trans rfl)
   simp only [ax,aA,aC,av]
   exact ⟨hs,hs,hs,hs⟩
  ·refine (OT.ak rfl).trans ((ae ?_).trans rfl)
   simp only [ax,aA,aC,av]
   exact ⟨hs,hs,hs,hs⟩
 ·exact OT.ak hz
def tL:bi:=(ky.aw my Xm)
theorem RQ:aa ag 165 tL:=am0
theorem RP:au tL:=aq
def Za:Env:=ap 165 tL ajf
theorem Lu:bI ag te Za:=aP follows OJ RQ RP
def kA:af:=⟨[aB,Fu],[],true,0,false⟩
abbrev BC:Type:=(Int×ib×Unit)×Unit
def oB:aH:=⟨[Fu],[],false⟩
def Xv (a0:Int) (a1:ib):OT kA.Y:=
 let z0:Nat:=pS a0
 let z1:ab:=aQ z0 a1.snd.fst a1.snd.fst
 let z2:rq:=(z1,())
 let z3:ab:=aQ z0 a1.fst z1
 let z4:ab:=aQ z0 a1.fst a1.fst
 let z5:ab:=lV z0 z4 (3:UInt64)
 let z6:ab:=lV z0 z3 (4:UInt64)
 let z7:UInt64×PUnit:=((2:UInt64),())
 let z8:ab:=aQ z0 z5 z5
 let z9:ab:=lV z0 z6 (2:UInt64)
 let z10:ab:=gZ z0 z8 z9
 let z11:ab:=gZ z0 z6 z10
 let z12:ab:=aQ z0 z1 z1
 let z13:ab:=aQ z0 z5 z11
 let z14:ab:=lV z0 z12 (8:UInt64)
 let z15:ab:=aQ z0 a1.snd.fst a1.snd.snd
 (.br (bJ a1.snd.snd)
 (.ok ⟨oB,((a1,()),())⟩)
 (gd [bE ((a0,a1.snd.fst,a1.snd.fst,()),()),bE ((a0,a1.fst,z2),()),iB ((a0,z3,(4:UInt64),()),()),bE ((a0,a1.fst,a1.fst,()),()),iB ((a0,z4,(3:UInt64),()),()),bE ((a0,z5,z5,()),()),iB ((a0,z6,z7),()),jn ((a0,z8,z9,()),()),jn ((a0,z6,z10,()),()),bE ((a0,z5,z11,()),()),bE ((a0,z1,z2),()),iB ((a0,z12,(8:UInt64),()),()),jn ((a0,z13,z14,()),()),bE ((a0,a1.snd.fst,a1.snd.snd,()),()),iB ((a0,z15,z7),())] (.ok ⟨oB,(((z10,gZ z0 z13 z14,lV z0 z15 (2:UInt64)),()),())⟩)))
theorem Xu (pre:BC->Bool) (F:BC->OT kA.Y) (hF:∀ (x:BC) oy,pre x=true->(F x).run=some oy->(Xv x.1.1 x.1.2.1).run=some oy):aa ag 168 (kA.aw pre F):=
 cC Lu 168 Tryz.f168 kA [oB] bw (λx=>Xv x.1.1 x.1.2.1) hF
def aH0 (p:Nat) (x y z:ab):GG:=
 let yy:=aQ p y y
 let s:=lV p (aQ p x yy) 4
 let m:=lV p (aQ p x x) 3
 let x':=gZ p (aQ p m m) (lV p s 2)
 (x',gZ p (aQ p m (gZ p s x')) (lV p (aQ p yy yy) 8),lV p (aQ p y z) 2)
def adp (p:Nat) (w:GG):GG:=cond (bJ w.2.2) w (aH0 p w.1 w.2.1 w.2.2)
def qL (x:BC):Bool:=ac x.1.1
def Xw (x:BC):OT kA.Y:=.ok ⟨oB,((adp (pS x.1.1) x.1.2.1,()),())⟩
theorem ana:aa ag 168 (kA.aw qL Xw):=Xu _ _ λx oy hp ho=>by
 rw [<-ho]
 clear ho
 obtain ⟨⟨c,⟨X,Y,Z⟩,⟨⟩⟩,⟨⟩⟩:=x
 have hs:ac c=true:=hp
 show _=(OT.ok ⟨oB,((adp (pS c) (X,Y,Z),()),())⟩:OT kA.Y).run
 unfold adp
 dsimp only
 cases hz:bJ Z
 ·refine (OT.al hz).trans ((ae ?_).trans rfl)
  simp only [ax,aA,aC,av]
  exact ⟨hs,hs,hs,hs,hs,hs,hs,hs,hs,hs,hs,hs,hs,hs,hs⟩
 ·exact OT.ak hz
def tN:bi:=(kA.aw qL Xw)
theorem RU:aa ag 168 tN:=ana
theorem RT:au tN:=aq
def Zc:Env:=ap 168 tN Za
theorem Lv:bI ag te Zc:=aP follows Lu RU RT
def tP:af:=⟨[aB,Fu,Fu],[],true,0,false⟩
abbrev XC:Type:=(Int×ib×ib×Unit)×Unit
def nz:aH:=⟨[Fu],[],false⟩
def atB (a0:Int) (a1:ib) (a2:ib):OT tP.Y:=
 let z0:rq:=(a1.snd.snd,())
 let z1:rq:=(a2.snd.snd,())
 let z2:Nat:=pS a0
 let z3:ab:=aQ z2 a2.snd.snd a2.snd.snd
 let z4:ab:=aQ z2 a1.snd.snd a1.snd.snd
 let z5:ab:=aQ z2 z3 a2.snd.snd
 let z6:ab:=aQ z2 z4 a1.snd.snd
 let z7:ab:=aQ z2 a2.fst z4
 let z8:ab:=aQ z2 a1.fst z3
 let z9:ab:=aQ z2 a2.snd.fst z6
 let z10:ab:=aQ z2 a1.snd.fst z5
 let z11:ab:=gZ z2 z7 z8
 let z12:ab:=gZ z2 z9 z10
 let z13:ab:= {w0:=0,w1:=0,w2:=0,w3:=0}
 let z14:rq:=(z11,())
 let z15:ab:=aQ z2 z11 z11
 let z16:ab:=aQ z2 z12 z12
 let z17:ab:=aQ z2 z15 z11
 let z18:rq:=(z17,())
 let z19:ab:=aQ z2 z8 z15
 let z20:ab:=gZ z2 z16 z17
 let z21:ab:=lV z2 z19 (2:UInt64)
 let z22:ab:=gZ z2 z20 z21
 let z23:ab:=gZ z2 z19 z22
 let z24:ab:=aQ z2 z12 z23
 let z25:ab:=aQ z2 z10 z17
 let z26:ab:=aQ z2 a1.snd.snd a2.snd.snd
 (.br (bJ a1.snd.snd)
 (.ok ⟨nz,((a2,()),())⟩)
 (.br (bJ a2.snd.snd)
  (.ok ⟨nz,((a1,()),())⟩)
  (gd [bE ((a0,a1.snd.snd,z0),()),bE ((a0,a2.snd.snd,z1),()),bE ((a0,a1.fst,z3,()),()),bE ((a0,a2.fst,z4,()),()),bE ((a0,z3,z1),()),bE ((a0,a1.snd.fst,z5,()),()),bE ((a0,z4,z0),()),bE ((a0,a2.snd.fst,z6,()),()),jn ((a0,z7,z8,()),()),jn ((a0,z9,z10,()),())] (.br (z11.w0==(0:UInt64)&&(z11.w1==(0:UInt64)&&(z11.w2==(0:UInt64)&&(z11.w3==(0:UInt64)&&true))))
   (.br (z12.w0==(0:UInt64)&&(z12.w1==(0:UInt64)&&(z12.w2==(0:UInt64)&&(z12.w3==(0:UInt64)&&true))))
    (gd [qL ((a0,a1,()),())] (.ok ⟨nz,((adp z2 a1,()),())⟩))
    (.ok ⟨nz,(((z13,z13,z13),()),())⟩))
   (gd [bE ((a0,z11,z14),()),bE ((a0,z15,z14),()),bE ((a0,z8,z15,()),()),bE ((a0,z12,z12,()),()),jn ((a0,z16,z18),()),iB ((a0,z19,(2:UInt64),()),()),jn ((a0,z20,z21,()),()),jn ((a0,z19,z22,()),()),bE ((a0,z12,z23,()),()),bE ((a0,z10,z18),()),jn ((a0,z24,z25,()),()),bE ((a0,a1.snd.snd,z1),()),bE ((a0,z11,z26,()),())] (.ok ⟨nz,(((z22,gZ z2 z24 z25,aQ z2 z11 z26),()),())⟩))))))
theorem anh (pre:XC->Bool) (F:XC->OT tP.Y) (hF:∀ (x:XC) oy,pre x=true->(F x).run=some oy->(atB x.1.1 x.1.2.1 x.1.2.2.1).run=some oy):aa ag 166 (tP.aw pre F):=
 cC Lv 166 Tryz.f166 tP [nz] bw (λx=>atB x.1.1 x.1.2.1 x.1.2.2.1) hF
def aIq (p:Nat) (u s h r Z1 Z2:ab):GG:=
 let hh:=aQ p h h
 let hhh:=aQ p hh h
 let c:=aQ p u hh
 let x:=gZ p (gZ p (aQ p r r) hhh) (lV p c 2)
 (x,gZ p (aQ p r (gZ p c x)) (aQ p s hhh),aQ p h (aQ p Z1 Z2))
def aIb (p:Nat) (w:GG) (u s h r Z2:ab):GG:=cond (bJ h) (cond (bJ r) (adp p w) (⟨0,0,0,0⟩,⟨0,0,0,0⟩,⟨0,0,0,0⟩)) (aIq p u s h r w.2.2 Z2)
def aHk (p:Nat) (w v:GG):GG:=
 let pz:=aQ p w.2.2 w.2.2
 let qz:=aQ p v.2.2 v.2.2
 let u:=aQ p w.1 qz
 let s:=aQ p w.2.1 (aQ p qz v.2.2)
 aIb p w u s (gZ p (aQ p v.1 pz) u) (gZ p (aQ p v.2.1 (aQ p pz w.2.2)) s) v.2.2
def Yi (p:Nat) (w v:GG):GG:=cond (bJ w.2.2) v (cond (bJ v.2.2) w (aHk p w v))
def BE (x:XC):Bool:=ac x.1.1
def atC (x:XC):OT tP.Y:=.ok ⟨nz,((Yi (pS x.1.1) x.1.2.1 x.1.2.2.1,()),())⟩
theorem azg:aa ag 166 (tP.aw BE atC):=anh _ _ λx oy hp ho=>by
 rw [<-ho]
 clear ho
 obtain ⟨⟨c,⟨X,Y,Z⟩,⟨X2,Y2,Z2⟩,⟨⟩⟩,⟨⟩⟩:=x
 have hs:ac c=true:=hp
 show _=(OT.ok ⟨nz,((Yi (pS c) (X,Y,Z) (X2,Y2,Z2),()),())⟩:OT tP.Y).run
 unfold Yi
 dsimp only
 cases hz:bJ Z
 ·refine (OT.al hz).trans ?_
  cases hz2:bJ Z2
  ·refine (OT.al rfl).trans ((ae ?_).trans ?_)
   ·simp only [ax,aA,aC,av]
    exact ⟨hs,hs,hs,hs,hs,hs,hs,hs,hs,hs⟩
   ·unfold aHk aIb
    dsimp only [cond_false]
    cases hh:bJ (gZ (pS c) (aQ (pS c) X2 (aQ (pS c) Z Z)) (aQ (pS c) X (aQ (pS c) Z2 Z2)))
    ·refine (OT.al hh).trans ((ae ?_).trans rfl)
     simp only [ax,aA,aC,av]
     exact ⟨hs,hs,hs,hs,hs,hs,hs,hs,hs,hs,hs,hs,hs⟩
    ·refine (OT.ak hh).trans ?_
     dsimp only [cond_true]
     cases hr:bJ (gZ (pS c) (aQ (pS c) Y2 (aQ (pS c) (aQ (pS c) Z Z) Z)) (aQ (pS c) Y (aQ (pS c) (aQ (pS c) Z2 Z2) Z2)))
     ·exact OT.al hr
     ·refine (OT.ak hr).trans ((ae ?_).trans rfl)
      simp only [ax,aA,aC]
      exact hs
  ·exact OT.ak rfl
 ·exact OT.ak hz
def D6:bi:=(tP.aw BE atC)
theorem adI:aa ag 166 D6:=azg
theorem adH:au D6:=aq
def avF:Env:=ap 166 D6 Zc
theorem Zf:bI ag te avF:=aP follows Lv adI adH
def Ff:af:=⟨[aB,wH,wH],[],true,0,false⟩
abbrev atA:Type:=(Int×cM×rp)×Unit
def D5:aH:=⟨oP,[],false⟩
def aBc (a0:Int) (a1:cM) (a2:cM):OT Ff.Y:=
 let z0:ab:= {w0:=0,w1:=0,w2:=0,w3:=0}
 let z1:cM:=(z0,z0,true)
 let z2:ib:=fZ a1
 let z3:ib:=fZ a2
 let z4:Nat:=pS a0
 let z5:ib:=Yi z4 z2 z3
 (.br (!onB a0 a1)
 (.ok ⟨D5,((z1,()),())⟩)
 (.br (!onB a0 a2)
  (.ok ⟨D5,((z1,()),())⟩)
  (gd [BE ((a0,z2,z3,()),()),my ((a0,z5,()),())] (.ok ⟨D5,((gm z4 z5,()),())⟩))))
theorem atz (pre:atA->Bool) (F:atA->OT Ff.Y) (hF:∀ (x:atA) oy,pre x=true->(F x).run=some oy->(aBc x.1.1 x.1.2.1 x.1.2.2.1).run=some oy):aa ag 140 (Ff.aw pre F):=
 cC Zf 140 Tryz.f140 Ff [D5] bw (λx=>aBc x.1.1 x.1.2.1 x.1.2.2.1) hF
def fS (c:Int) (P Q:Pt):Pt:=cond (onB c P) (cond (onB c Q) (gm (pS c) (Yi (pS c) (fZ P) (fZ Q))) aK) aK
def ahL (_:atA):Bool:=true
def aBd (x:atA):OT Ff.Y:=.ok ⟨D5,((fS x.1.1 x.1.2.1 x.1.2.2.1,()),())⟩
theorem aEQ:aa ag 140 (Ff.aw ahL aBd):=atz _ _ λx oy _ ho=>by
 rw [<-ho]
 clear ho
 obtain ⟨⟨c,P,Q,⟨⟩⟩,⟨⟩⟩:=x
 show _=(OT.ok ⟨D5,((fS c P Q,()),())⟩:OT Ff.Y).run
 rcases (bX (onB c P)).symm with h1|h1
 ·have e:fS c P Q=aK:=by unfold fS;rw [h1];rfl
  rw [e]
  exact OT.ak (b:= !onB c P) (by rw [h1];rfl)
 ·have hs:=AF h1
  refine (OT.al (b:= !onB c P) (by rw [h1];rfl)).trans ?_
  rcases (bX (onB c Q)).symm with h2|h2
  ·have e:fS c P Q=aK:=by unfold fS;rw [h1,h2];rfl
   rw [e]
   exact OT.ak (b:= !onB c Q) (by rw [h2];rfl)
  ·have e:fS c P Q=gm (pS c) (Yi (pS c) (fZ P) (fZ Q)):=by unfold fS;rw [h1,h2];rfl
   rw [e]
   refine (OT.al (b:= !onB c Q) (by rw [h2];rfl)).trans ((ae ?_).trans rfl)
   simp only [ax,aA,aC,av]
   exact ⟨hs,hs⟩
def Kq:bi:=(Ff.aw ahL aBd)
theorem ang:aa ag 140 Kq:=aEQ
theorem anf:au Kq:=aq
def aCa:Env:=ap 140 Kq avF
theorem SG:bI ag te aCa:=aP follows Zf ang anf
def tM:af:=⟨[aB,dY,wH],[],true,0,false⟩
abbrev Xo:Type:=(Int×ab×rp)×Unit
def aza:Shape:=⟨39,[dC,rB,(6,fu),ry,(8,fH),(9,aB)],[fV,(1,Yw),(2,Yw),(3,aBy)],0,true⟩
abbrev fD:Type:=(Unit×Unit×Unit×Int×oK)×ao×jY×jY×auD×Unit
def vE:Shape:=⟨39,[jx,ry,BX],[kV,(1,aBy)],0,true⟩
abbrev mz:Type:=(Unit×Int×bQ)×jY×auD×Unit
def azd (a7:Int) (a9:Int) (c0:ao) (c1_0:UInt64) (c1_1:UInt64) (c1_2:UInt64) (c1_3:UInt64) (c1_4:UInt64) (c1_5:UInt64) (c1_6:UInt64) (c1_7:UInt64) (c1_8:Bool) (c2_0:UInt64) (c2_1:UInt64) (c2_2:UInt64) (c2_3:UInt64) (c2_4:UInt64) (c2_5:UInt64) (c2_6:UInt64) (c2_7:UInt64) (c2_8:Bool) (c3_0:UInt64) (c3_1:UInt64) (c3_2:UInt64) (c3_3:UInt64) (c3_4:UInt64) (c3_5:UInt64) (c3_6:UInt64) (c3_7:UInt64) (c3_8:UInt64) (c3_9:UInt64) (c3_10:UInt64) (c3_11:UInt64):OT (Sum fD aT):=
 let z0:ib:=({w0:=c3_0,w1:=c3_1,w2:=c3_2,w3:=c3_3},{w0:=c3_4,w1:=c3_5,w2:=c3_6,w3:=c3_7},{w0:=c3_8,w1:=c3_9,w2:=c3_10,w3:=c3_11})
 let z1:Nat:=pS a7
 let z2:ib:=adp z1 z0
 let z3:ib:=fZ ({w0:=c1_0,w1:=c1_1,w2:=c1_2,w3:=c1_3},{w0:=c1_4,w1:=c1_5,w2:=c1_6,w3:=c1_7},c1_8)
 let z4:Bool:=inR (a9-(1:Int))
 let z5:ib:=Yi z1 z2 z3
 let z6:=z5.fst
 let z7:=z5.snd
 let z8:=z7.fst
 let z9:=z7.snd
 let z10:=z2.fst
 let z11:=z2.snd
 let z12:=z11.fst
 let z13:=z11.snd
 (.br (decide ((0:Int)<=a9))
 (gd [qL ((a7,z0,()),()),decide (4<=List.length c0)] (.br (rm {w0:=List.getD c0 0 0,w1:=List.getD c0 1 0,w2:=List.getD c0 2 0,w3:=List.getD c0 3 0} a9)
  (gd [BE ((a7,z2,z3,()),()),z4] (.ok (.inl (((),(),(),a7,(),a9-(1:Int),()),c0,(c1_0,c1_1,c1_2,c1_3,c1_4,c1_5,c1_6,c1_7,c1_8,()),(c2_0,c2_1,c2_2,c2_3,c2_4,c2_5,c2_6,c2_7,c2_8,()),(z6.w0,z6.w1,z6.w2,z6.w3,z8.w0,z8.w1,z8.w2,z8.w3,z9.w0,z9.w1,z9.w2,z9.w3,()),()))))
  (gd [z4] (.ok (.inl (((),(),(),a7,(),a9-(1:Int),()),c0,(c1_0,c1_1,c1_2,c1_3,c1_4,c1_5,c1_6,c1_7,c1_8,()),(c2_0,c2_1,c2_2,c2_3,c2_4,c2_5,c2_6,c2_7,c2_8,()),(z10.w0,z10.w1,z10.w2,z10.w3,z12.w0,z12.w1,z12.w2,z12.w3,z13.w0,z13.w1,z13.w2,z13.w3,()),()))))))
 (.ok (.inr ⟨(.exit 0,vE),(((),a7,(),()),(c2_0,c2_1,c2_2,c2_3,c2_4,c2_5,c2_6,c2_7,c2_8,()),(c3_0,c3_1,c3_2,c3_3,c3_4,c3_5,c3_6,c3_7,c3_8,c3_9,c3_10,c3_11,()),())⟩)))
def Gu (s:fD):OT (Sum fD aT):=azd s.1.2.2.2.1 s.1.2.2.2.2.2.1 s.2.1 s.2.2.1.1 s.2.2.1.2.1 s.2.2.1.2.2.1 s.2.2.1.2.2.2.1 s.2.2.1.2.2.2.2.1 s.2.2.1.2.2.2.2.2.1 s.2.2.1.2.2.2.2.2.2.1 s.2.2.1.2.2.2.2.2.2.2.1 s.2.2.1.2.2.2.2.2.2.2.2.1 s.2.2.2.1.1 s.2.2.2.1.2.1 s.2.2.2.1.2.2.1 s.2.2.2.1.2.2.2.1 s.2.2.2.1.2.2.2.2.1 s.2.2.2.1.2.2.2.2.2.1 s.2.2.2.1.2.2.2.2.2.2.1 s.2.2.2.1.2.2.2.2.2.2.2.1 s.2.2.2.1.2.2.2.2.2.2.2.2.1 s.2.2.2.2.1.1 s.2.2.2.2.1.2.1 s.2.2.2.2.1.2.2.1 s.2.2.2.2.1.2.2.2.1 s.2.2.2.2.1.2.2.2.2.1 s.2.2.2.2.1.2.2.2.2.2.1 s.2.2.2.2.1.2.2.2.2.2.2.1 s.2.2.2.2.1.2.2.2.2.2.2.2.1 s.2.2.2.2.1.2.2.2.2.2.2.2.2.1 s.2.2.2.2.1.2.2.2.2.2.2.2.2.2.1 s.2.2.2.2.1.2.2.2.2.2.2.2.2.2.2.1 s.2.2.2.2.1.2.2.2.2.2.2.2.2.2.2.2.1
def ahA (g0_0:fD->mz) (s:fD):OT aT:=(.ok ⟨(.exit 0,vE),g0_0 s⟩)
def vD:aH:=⟨oP,[],false⟩
section
variable (ok0:fD->Bool) (g0_0:fD->mz)
def atd (a0:Int) (a1:ab) (a2:cM):OT tM.Y:=
 let z0:ab:= {w0:=0,w1:=0,w2:=0,w3:=0}
 let z1:Int:=bm a0 (1:Int)
 let z2:PUnit×PUnit×PUnit×Int×PUnit×Int×PUnit:=((),(),(),a0,(),(255:Int),())
 let z3:ab:=fp (pS z1) a1 z0
 let z4:ais×ais×(UInt64×UInt64×UInt64×UInt64×UInt64×UInt64×aBo)×PUnit:=((a2.fst.w0,a2.fst.w1,a2.fst.w2,a2.fst.w3,a2.snd.fst.w0,a2.snd.fst.w1,a2.snd.fst.w2,a2.snd.fst.w3,a2.snd.snd,()),((0:UInt64),(0:UInt64),(0:UInt64),(0:UInt64),(0:UInt64),(0:UInt64),(0:UInt64),(0:UInt64),false,()),((0:UInt64),(0:UInt64),(0:UInt64),(0:UInt64),(0:UInt64),(0:UInt64),(0:UInt64),(0:UInt64),(0:UInt64),(0:UInt64),(0:UInt64),(0:UInt64),()),())
 let z5:fD:=(z2,[z3.w0,z3.w1,z3.w2,z3.w3],z4)
 let z6:mz:=g0_0 z5
 let z7:=z6.fst.snd.fst
 let z8:=z6.snd.snd.fst
 let z9:=z8.snd
 let z10:=z9.snd
 let z11:=z10.snd
 let z12:=z11.snd
 let z13:=z12.snd
 let z14:=z13.snd
 let z15:=z14.snd
 let z16:=z15.snd
 let z17:=z16.snd
 let z18:=z17.snd
 let z19:ib:=({w0:=z8.fst,w1:=z9.fst,w2:=z10.fst,w3:=z11.fst},{w0:=z12.fst,w1:=z13.fst,w2:=z14.fst,w3:=z15.fst},{w0:=z16.fst,w1:=z17.fst,w2:=z18.fst,w3:=z18.snd.fst})
 let z20:fD:=(z2,[(0:UInt64),(0:UInt64),(0:UInt64),(0:UInt64)],z4)
 let z21:mz:=g0_0 z20
 let z22:=z21.fst.snd.fst
 let z23:=z21.snd.snd.fst
 let z24:=z23.snd
 let z25:=z24.snd
 let z26:=z25.snd
 let z27:=z26.snd
 let z28:=z27.snd
 let z29:=z28.snd
 let z30:=z29.snd
 let z31:=z30.snd
 let z32:=z31.snd
 let z33:=z32.snd
 let z34:ib:=({w0:=z23.fst,w1:=z24.fst,w2:=z25.fst,w3:=z26.fst},{w0:=z27.fst,w1:=z28.fst,w2:=z29.fst,w3:=z30.fst},{w0:=z31.fst,w1:=z32.fst,w2:=z33.fst,w3:=z33.snd.fst})
 (.br (!onB a0 a2)
 (.ok ⟨vD,(((z0,z0,true),()),())⟩)
 (.br (ac z1)
  (gd [ok0 z5,my ((z7,z19,()),())] (.ok ⟨vD,((gm (pS z7) z19,()),())⟩))
  (gd [ok0 z20,my ((z22,z34,()),())] (.ok ⟨vD,((gm (pS z22) z34,()),())⟩))))
theorem am1 (h0:aY Gu ok0 (ahA g0_0)) (pre:Xo->Bool) (F:Xo->OT tM.Y) (hF:∀ (x:Xo) oy,pre x=true->(F x).run=some oy->(atd ok0 g0_0 x.1.1 x.1.2.1 x.1.2.2.1).run=some oy):aa ag 141 (tM.aw pre F):=
 cC SG 141 Tryz.f141 tM [vD] (js SG 0 aza [(0,vE)] none none Gu bw h0 bw) (λx=>atd ok0 g0_0 x.1.1 x.1.2.1 x.1.2.2.1) hF
end
abbrev C9:Type:=jY
def bN (P:Pt):C9:=(P.1.w0,P.1.w1,P.1.w2,P.1.w3,P.2.1.w0,P.2.1.w1,P.2.1.w2,P.2.1.w3,P.2.2,())
abbrev C12:Type:=auD
def Kn (t:C9):Pt:=(⟨t.1,t.2.1,t.2.2.1,t.2.2.2.1⟩,⟨t.2.2.2.2.1,t.2.2.2.2.2.1,t.2.2.2.2.2.2.1,t.2.2.2.2.2.2.2.1⟩,t.2.2.2.2.2.2.2.2.1)
def aGE (t:C12):GG:=(⟨t.1,t.2.1,t.2.2.1,t.2.2.2.1⟩,⟨t.2.2.2.2.1,t.2.2.2.2.2.1,t.2.2.2.2.2.2.1,t.2.2.2.2.2.2.2.1⟩,⟨t.2.2.2.2.2.2.2.2.1,t.2.2.2.2.2.2.2.2.2.1,t.2.2.2.2.2.2.2.2.2.2.1,t.2.2.2.2.2.2.2.2.2.2.2.1⟩)
def aEi (w:GG):C12:=(w.1.w0,w.1.w1,w.1.w2,w.1.w3,w.2.1.w0,w.2.1.w1,w.2.1.w2,w.2.1.w3,w.2.2.w0,w.2.2.w1,w.2.2.w2,w.2.2.w3,())
def jG (p:Nat) (k:ab) (P:GG) (n:Nat) (w:GG):GG:=cond (rm k (255-(n:Int))) (Yi p (adp p w) P) (adp p w)
def Kf (s:fD):Bool:=ac s.1.2.2.2.1&&decide (s.1.2.2.2.2.2.1=255/\s.2.1.length=4)
def ahz (s:fD):mz:=(((),s.1.2.2.2.1,(),()),s.2.2.2.1,aEi (upto (jG (pS s.1.2.2.2.1) (elemOf s.2.1) (fZ (Kn s.2.2.1))) (aGE s.2.2.2.2.1) 256),())
theorem azc:aY Gu Kf (ahA ahz):=by
 rintro ⟨⟨⟨⟩,⟨⟩,⟨⟩,c,⟨⟩,i,⟨⟩⟩,⟨l,⟨p0,p1,p2,p3,p4,p5,p6,p7,p8,⟨⟩⟩,⟨q0,q1,q2,q3,q4,q5,q6,q7,q8,⟨⟩⟩,⟨w0,w1,w2,w3,w4,w5,w6,w7,w8,w9,w10,w11,⟨⟩⟩,⟨⟩⟩⟩ h
 simp only [Kf,av,decide_eq_true_eq] at h
 obtain ⟨hs,rfl,hl⟩:=h
 obtain ⟨k,rfl⟩:∃ a,l=lst a:=⟨elemOf l,(bY hl).symm⟩
 have:=(aW (T:=Gu) (λn w=>((((),(),(),c,(),255-(n:Int),()),lst k,(p0,p1,p2,p3,p4,p5,p6,p7,p8,()),(q0,q1,q2,q3,q4,q5,q6,q7,q8,()),aEi w,()):fD)) (jG (pS c) k (fZ (Kn (p0,p1,p2,p3,p4,p5,p6,p7,p8,()))))
  (λw=>(⟨(.exit 0,vE),(((),c,(),()),(q0,q1,q2,q3,q4,q5,q6,q7,q8,()),aEi w,())⟩:aT)) 256 (aGE (w0,w1,w2,w3,w4,w5,w6,w7,w8,w9,w10,w11,())) (λ_ _=>True) trivial (λn w hn _=>⟨?_,trivial⟩) (λw _=> ?_)).1
 ·obtain ⟨m,hm⟩:=this
  exact ⟨m,_,hm,rfl⟩
 ·have e2:(255:Int)-(n:Int)-1=255-((n+1:Nat):Int):=by omega
  refine (OT.ak (aj (by dsimp only;omega))).trans ((ae ?_).trans ?_)
  ·simp only [ax,aA,aC,av]
   exact ⟨hs,rfl⟩
  ·rcases (bX (rm k (255-(n:Int)))).symm with hb|hb
   ·have e:jG (pS c) k (fZ (Kn (p0,p1,p2,p3,p4,p5,p6,p7,p8,()))) n w=adp (pS c) w:=by unfold jG;rw [hb];rfl
    rw [e,<-e2]
    refine (OT.al hb).trans ((ae ?_).trans rfl)
    simp only [ax,aA,aC]
    exact aL (by omega)
   ·have e:jG (pS c) k (fZ (Kn (p0,p1,p2,p3,p4,p5,p6,p7,p8,()))) n w=Yi (pS c) (adp (pS c) w) (fZ (Kn (p0,p1,p2,p3,p4,p5,p6,p7,p8,()))):=by unfold jG;rw [hb];rfl
    rw [e,<-e2]
    refine (OT.ak hb).trans ((ae ?_).trans rfl)
    simp only [ax,aA,aC,av]
    exact ⟨hs,aL (by omega)⟩
 ·exact OT.al (bn (by dsimp only;omega))
def an3:GG:=(⟨0,0,0,0⟩,⟨0,0,0,0⟩,⟨0,0,0,0⟩)
def aIl (p:Nat) (k:ab) (P:GG):GG:=upto (jG p k P) an3 256
def FC (c:Int) (k:ab):ab:=fp (pS (bm c 1)) k ⟨0,0,0,0⟩
def sB (c:Int) (k:ab) (P:Pt):Pt:=cond (onB c P) (gm (pS c) (aIl (pS c) (FC c k) (fZ P))) aK
theorem dJ {c:Int} (h:ac c=true):ac (bm c 1)=true:=by
 rcases b6 h with rfl|rfl|rfl|rfl<;>decide+kernel
def Xn (_:Xo):Bool:=true
def ate (x:Xo):OT tM.Y:=.ok ⟨vD,((sB x.1.1 x.1.2.1 x.1.2.2.1,()),())⟩
theorem azb:aa ag 141 (tM.aw Xn ate):=am1 Kf ahz azc _ _ λx oy _ ho=>by
 rw [<-ho]
 clear ho
 obtain ⟨⟨c,k,P,⟨⟩⟩,⟨⟩⟩:=x
 show _=(OT.ok ⟨vD,((sB c k P,()),())⟩:OT tM.Y).run
 rcases (bX (onB c P)).symm with h1|h1
 ·have e:sB c k P=aK:=by unfold sB;rw [h1];rfl
  rw [e]
  exact OT.ak (b:= !onB c P) (by rw [h1];rfl)
 ·have hs:=AF h1
  have e:sB c k P=gm (pS c) (aIl (pS c) (FC c k) (fZ P)):=by unfold sB;rw [h1];rfl
  rw [e]
  refine (OT.al (b:= !onB c P) (by rw [h1];rfl)).trans ((OT.ak (dJ hs)).trans ((ae ?_).trans ?_))
  ·simp only [ax,aA,aC,av]
   refine ⟨?_,hs⟩
   refine (av _ _).mpr ⟨hs,?_⟩
   exact aj (p:=(255:Int)=255/\(lst (FC c k)).length=4) ⟨rfl,rfl⟩
  ·rfl
def D3:bi:=(tM.aw Xn ate)
theorem adv:aa ag 141 D3:=azb
theorem adu:au D3:=aq
def avD:Env:=ap 141 D3 aCa
theorem Zb:bI ag te avD:=aP follows SG adv adu
def xu:af:=⟨ic,[],true,0,false⟩
abbrev Up:Type:=mG
def mW:aH:=⟨jz,[],false⟩
def apC (a0:Int):OT xu.Y:=
 (.br (a0==(0:Int))
 (.ok ⟨mW,(({w0:=16513537,w1:=0,w2:=0,w3:=0},(0:Int),()),())⟩)
 (.br (a0==(1:Int))
  (.ok ⟨mW,(({w0:=16521217,w1:=0,w2:=0,w3:=0},(0:Int),()),())⟩)
  (.br (a0==(2:Int))
   (.ok ⟨mW,(({w0:=11037532056220336129,w1:=2469829653914515739,w2:=0,w3:=4611686018427387904},(0:Int),()),())⟩)
   (.br (a0==(3:Int))
    (.ok ⟨mW,(({w0:=10108024940646105089,w1:=2469829653919213789,w2:=0,w3:=4611686018427387904},(0:Int),()),())⟩)
    (.ok ⟨mW,(({w0:=0,w1:=0,w2:=0,w3:=0},(20:Int),()),())⟩)))))
theorem akC (pre:Up->Bool) (F:Up->OT xu.Y) (hF:∀ (x:Up) oy,pre x=true->(F x).run=some oy->(apC x.1.1).run=some oy):aa ag 85 (xu.aw pre F):=
 cC Zb 85 Tryz.f85 xu [mW] bw (λx=>apC x.1.1) hF
def Uo (_:Up):Bool:=true
def apD (x:Up):OT xu.Y:=.br (ac x.1.1) (.ok ⟨mW,(((numOf x.1.1.toNat).1,(0:Int),()),())⟩) (.ok ⟨mW,((⟨0,0,0,0⟩,(20:Int),()),())⟩)
theorem axa:aa ag 85 (xu.aw Uo apD):=akC _ _ λx oy _ ho=>by
 rw [<-ho]
 clear ho
 obtain ⟨⟨s,⟨⟩⟩,⟨⟩⟩:=x
 cases hs:ac s
 ·obtain ⟨h0,h1,h2,h3⟩:=uA hs
  exact (OT.al h0).trans ((OT.al h1).trans ((OT.al h2).trans ((OT.al h3).trans (OT.al (b:=ac s) hs).symm)))
 ·rcases b6 hs with h|h|h|h
  all_goals
   have h:s=_:=h
   subst h
   rfl
def CK:bi:=(xu.aw Uo apD)
theorem aaF:aa ag 85 CK:=axa
theorem aaE:au CK:=aq
def au3:Env:=ap 85 CK avD
theorem YF:bI ag te au3:=aP follows Zb aaF aaE
def rZ:af:=⟨ic,[],true,0,false⟩
abbrev Ut:Type:=mG
def Ar:aH:=⟨[aI],[],false⟩
def apE (a0:Int):OT rZ.Y:=
 (.br (a0==(0:Int))
 (.ok ⟨Ar,(((16513537:UInt64),()),())⟩)
 (.ok ⟨Ar,(((16521217:UInt64),()),())⟩))
theorem akH (pre:Ut->Bool) (F:Ut->OT rZ.Y) (hF:∀ (x:Ut) oy,pre x=true->(F x).run=some oy->(apE x.1.1).run=some oy):aa ag 87 (rZ.aw pre F):=
 cC YF 87 Tryz.f87 rZ [Ar] bw (λx=>apE x.1.1) hF
def aHc (s:Int):UInt64:=cond (s==0) 16513537 16521217
def Us (_:Ut):Bool:=true
def apF (x:Ut):OT rZ.Y:=.ok ⟨Ar,((aHc x.1.1,()),())⟩
theorem axb:aa ag 87 (rZ.aw Us apF):=akH _ _ λx oy _ ho=>by
 rw [<-ho]
 clear ho
 obtain ⟨⟨s,⟨⟩⟩,⟨⟩⟩:=x
 show _=(OT.ok ⟨Ar,((aHc s,()),())⟩:OT rZ.Y).run
 unfold aHc
 rcases (bX (s==0)).symm with h|h
 ·rw [h];exact OT.al h
 ·rw [h];exact OT.ak h
def CM:bi:=(rZ.aw Us apF)
theorem aaH:aa ag 87 CM:=axb
theorem aaG:au CM:=aq
def au4:Env:=ap 87 CM au3
theorem Li:bI ag te au4:=aP follows YF aaH aaG
def iP:af:=⟨Lc,[],true,0,false⟩
abbrev As:Type:=ru×Unit
def akI:Shape:=⟨24,[ua,zu,(5,aB)],mN,0,true⟩
abbrev bB:Type:=kU×wg
def kg:Shape:=⟨24,[(4,kZ)],[],0,true⟩
abbrev lf:Type:=(Bool×Unit)×Unit
def mY:Shape:=⟨24,[],[],0,true⟩
abbrev lg:Type:=bQ
def akL (a5:Int) (c0:ao) (c1:ao):OT (Sum bB aT):=
 let z0:Bool:=inB a5 4
 let z1:Bool:=decide (Int.toNat a5+0<List.length c0)
 let z2:Bool:=decide (Int.toNat a5+0<List.length c1)
 let z3:UInt64:=List.getD c0 (Int.toNat a5+0) (0:UInt64)
 let z4:UInt64:=List.getD c1 (Int.toNat a5+0) (0:UInt64)
 (.br (decide ((0:Int)<=a5))
 (gd [z0,z1,z0,z2] (.br (!z3==z4)
  (gd [z0,z1,z0,z2] (.ok (.inr ⟨(.ret,kg),((decide (z3<z4),()),())⟩)))
  (gd [inR (a5-(1:Int))] (.ok (.inl (((),(),a5-(1:Int),()),c0,c1,()))))))
 (.ok (.inr ⟨(.exit 0,mY),((),())⟩)))
def ir (s:bB):OT (Sum bB aT):=akL s.1.2.2.1 s.2.1 s.2.2.1
def CP (g0_r:bB->lf) (c0_r:bB->Bool) (g0_0:bB->lg) (s:bB):OT aT:=(.br (c0_r s) (.ok ⟨(.ret,kg),g0_r s⟩) (.ok ⟨(.exit 0,mY),g0_0 s⟩))
def lI:aH:=⟨mO,[],false⟩
def Uy (ok0:bB->Bool) (g0_r:bB->lf) (c0_r:bB->Bool) (g0_0:bB->lg) (a0:ab) (a1:ab):OT iP.Y:=
 let z0:bB:=(((),(),(3:Int),()),[a0.w0,a0.w1,a0.w2,a0.w3],[a1.w0,a1.w1,a1.w2,a1.w3],())
 (gd [ok0 z0] (.br (c0_r z0)
 (.ok ⟨lI,(((g0_r z0).fst.fst,()),())⟩)
 (.ok ⟨lI,((false,()),())⟩)))
theorem Ux (ok0:bB->Bool) (g0_r:bB->lf) (c0_r:bB->Bool) (g0_0:bB->lg) (h0:aY ir ok0 (CP g0_r c0_r g0_0)) (pre:As->Bool) (F:As->OT iP.Y) (hF:∀ (x:As) oy,pre x=true->(F x).run=some oy->(Uy ok0 g0_r c0_r g0_0 x.1.1 x.1.2.1).run=some oy):aa ag 88 (iP.aw pre F):=
 cC Li 88 Tryz.f88 iP [lI] (js Li 0 akI [(0,mY)] (some kg) none ir bw h0 bw) (λx=>Uy ok0 g0_r c0_r g0_0 x.1.1 x.1.2.1) hF
theorem M9 {x y N M:Nat} (hx:x<18446744073709551616) (hy:y<18446744073709551616) (h:¬N=M):(x+18446744073709551616*N<y+18446744073709551616*M ↔ N<M)/\¬x+18446744073709551616*N=y+18446744073709551616*M:=by
 omega
theorem aqT {x y N:Nat}:(x+18446744073709551616*N<y+18446744073709551616*N ↔ x<y)/\(¬x=y->¬x+18446744073709551616*N=y+18446744073709551616*N):=by
 omega
theorem Sb {n m:Nat} {x y:UInt64} (h:n<m ↔ x.toNat<y.toNat):decide (x<y)=Nat.blt n m:=by
 have h1:Nat.blt n m=true ↔ n<m:=⟨db,λh=>lb h⟩
 rw [Bool.eq_iff_iff,decide_eq_true_iff,h1,h,UInt64.lt_iff_toNat_lt]
theorem abc {x y:UInt64} (h:¬x=y):¬x.toNat=y.toNat:=λe=>h (UInt64.toNat_inj.1 e)
def dX (a b:ab) (i:Int):bB:=(((),(),i,()),lst a,lst b,())
theorem vL (a b:ab) (k:Nat) (hk:k<4) (h:(lst a).getD k 0=(lst b).getD k 0):(ir (dX a b (k:Int))).run=some (.inl (dX a b ((k:Int)-1))):=by
 refine (OT.ak (aj (by dsimp only [dX];omega))).trans ((ae ?_).trans ((OT.al ?_).trans ((ae ?_).trans rfl)))
 ·simp only [dX,bH,Nat.add_zero,oc,ax,aA,aC,av]
  exact ⟨aR (by omega),aj hk,aR (by omega),aj hk⟩
 ·simp only [dX,bH,Nat.add_zero,h,beq_self_eq_true,Bool.not_true]
 ·simp only [dX,ax,aA,aC]
  exact aL (by omega)
theorem nA (a b:ab) (k:Nat) (hk:k<4) (h:¬(lst a).getD k 0=(lst b).getD k 0):(ir (dX a b (k:Int))).run=some (.inr ⟨(.ret,kg),((decide ((lst a).getD k 0<(lst b).getD k 0),()),())⟩):=by
 refine (OT.ak (aj (by dsimp only [dX];omega))).trans ((ae ?_).trans ((OT.ak ?_).trans ((ae ?_).trans ?_)))
 ·simp only [dX,bH,Nat.add_zero,oc,ax,aA,aC,av]
  exact ⟨aR (by omega),aj hk,aR (by omega),aj hk⟩
 ·simp only [dX,bH,Nat.add_zero,beq_eq_false_iff_ne.2 h,Bool.not_false]
 ·simp only [dX,bH,Nat.add_zero,oc,ax,aA,aC,av]
  exact ⟨aR (by omega),aj hk,aR (by omega),aj hk⟩
 ·simp only [dX,bH,Nat.add_zero]
  rfl
def HK (s:bB):Bool:=decide (s.1.2.2.1=3/\s.2.1.length=4/\s.2.2.1.length=4)
def CN (s:bB):lf:=((Nat.blt (elemOf s.2.1).nat (elemOf s.2.2.1).nat,()),())
def ma (s:bB):Bool:= !eqE (elemOf s.2.1) (elemOf s.2.2.1)
def CO (_:bB):lg:=((),())
theorem BM {a b:ab} (h:¬a=b) {r:Bool} (hr:r=Nat.blt a.nat b.nat) (hm:∃ m,cx ir m (dX a b 3)=some ⟨(.ret,kg),((r,()),())⟩):
 ∃ m e,cx ir m (dX a b 3)=some e/\(CP CN ma CO (dX a b 3)).run=some e:=by
 obtain ⟨m,hm⟩:=hm
 refine ⟨m,_,hm,?_⟩
 have hc:ma (dX a b 3)=true:=by
  show (!eqE a b)=true
  rw [Bool.eq_false_iff.2 λe=>h (nU.1 e)]
  rfl
 subst hr
 exact OT.ak hc
theorem akK:aY ir HK (CP CN ma CO):=by
 rintro ⟨⟨⟨⟩,⟨⟩,i,⟨⟩⟩,⟨l1,l2,⟨⟩⟩⟩ h
 have h':=bh h
 dsimp only at h'
 obtain ⟨rfl,h1,h2⟩:=h'
 obtain ⟨a,rfl⟩:∃ a,l1=lst a:=⟨elemOf l1,(bY h1).symm⟩
 obtain ⟨b,rfl⟩:∃ a,l2=lst a:=⟨elemOf l2,(bY h2).symm⟩
 have ha0:=a.w0.toNat_lt
 have hb0:=b.w0.toNat_lt
 have ha1:=a.w1.toNat_lt
 have hb1:=b.w1.toNat_lt
 have ha2:=a.w2.toNat_lt
 have hb2:=b.w2.toNat_lt
 by_cases h3:a.w3=b.w3
 ·have s3:=vL a b 3 (by omega) h3
  by_cases h2:a.w2=b.w2
  ·have s2:=vL a b 2 (by omega) h2
   by_cases h1:a.w1=b.w1
   ·have s1:=vL a b 1 (by omega) h1
    by_cases h0:a.w0=b.w0
    ·have s0:=vL a b 0 (by omega) h0
     have e:a=b:=by cases a;cases b;simp_all
     have sx:(ir (dX a b (((0:Nat):Int)-1))).run=some (.inr ⟨(.exit 0,mY),((),())⟩):=OT.al (bn (by dsimp only [dX];omega))
     refine ⟨_,_,aS s3 (aS s2 (aS s1 (aS s0 (aO sx)))),?_⟩
     have hc:ma (((),(),3,()),lst a,lst b,())=false:=by
      show (!eqE a b)=false
      rw [e,RH]
      rfl
     exact OT.al hc
    ·refine BM (λe=>h0 (by rw [e])) (Sb ?_) ⟨_,aS s3 (aS s2 (aS s1 (aO (nA a b 0 (by omega) h0))))⟩
     show a.nat<b.nat ↔ a.w0.toNat<b.w0.toNat
     unfold Sx.ab.nat
     rw [h3,h2,h1]
     exact aqT.1
   ·refine BM (λe=>h1 (by rw [e])) (Sb ?_) ⟨_,aS s3 (aS s2 (aO (nA a b 1 (by omega) h1)))⟩
    show a.nat<b.nat ↔ a.w1.toNat<b.w1.toNat
    unfold Sx.ab.nat
    rw [h3,h2]
    have k:=aqT (x:=a.w1.toNat) (y:=b.w1.toNat) (N:=b.w2.toNat+18446744073709551616*b.w3.toNat)
    exact (M9 ha0 hb0 (k.2 (abc h1))).1.trans k.1
  ·refine BM (λe=>h2 (by rw [e])) (Sb ?_) ⟨_,aS s3 (aO (nA a b 2 (by omega) h2))⟩
   show a.nat<b.nat ↔ a.w2.toNat<b.w2.toNat
   unfold Sx.ab.nat
   rw [h3]
   have k:=aqT (x:=a.w2.toNat) (y:=b.w2.toNat) (N:=b.w3.toNat)
   have k1:=M9 ha1 hb1 (k.2 (abc h2))
   exact (M9 ha0 hb0 k1.2).1.trans (k1.1.trans k.1)
 ·refine BM (λe=>h3 (by rw [e])) (Sb ?_) ⟨_,aO (nA a b 3 (by omega) h3)⟩
  show a.nat<b.nat ↔ a.w3.toNat<b.w3.toNat
  unfold Sx.ab.nat
  have k2:=M9 ha2 hb2 (abc h3)
  have k1:=M9 ha1 hb1 k2.2
  exact (M9 ha0 hb0 k1.2).1.trans (k1.1.trans k2.1)
def HJ (_:As):Bool:=true
def Uz (x:As):OT iP.Y:=.ok ⟨lI,((Nat.blt x.1.1.nat x.1.2.1.nat,()),())⟩
theorem akJ:aa ag 88 (iP.aw HJ Uz):=Ux HK CN ma CO akK _ _ λx oy _ ho=>by
 rw [<-ho]
 clear ho
 obtain ⟨⟨a,b,⟨⟩⟩,⟨⟩⟩:=x
 refine (ae ?_).trans ?_
 ·simp only [ax,aA,aC]
  exact aj ⟨rfl,rfl,rfl⟩
 ·rcases (bX (eqE a b)).symm with h|h
  ·have hc:ma (((),(),3,()),lst a,lst b,())=true:=by
    show (!eqE a b)=true
    rw [h]
    rfl
   exact OT.ak hc
  ·have hc:ma (((),(),3,()),lst a,lst b,())=false:=by
    show (!eqE a b)=false
    rw [h]
    rfl
   refine (OT.al hc).trans ?_
   have e:Nat.blt a.nat b.nat=false:=by
    rw [nU.1 h]
    cases hb:Nat.blt b.nat b.nat
    ·rfl
    ·exact absurd (db hb) (Nat.lt_irrefl _)
   show (OT.ok ⟨lI,((false,()),())⟩:OT iP.Y).run=(OT.ok ⟨lI,((Nat.blt a.nat b.nat,()),())⟩:OT iP.Y).run
   rw [e]
def sa:bi:=(iP.aw HJ Uz)
theorem PM:aa ag 88 sa:=akJ
theorem PL:au sa:=aq
def YH:Env:=ap 88 sa au4
theorem zC:bI ag te YH:=aP follows Li PM PL
def l9:af:=⟨Lc,[],true,0,false⟩
abbrev Aq:Type:=ru×Unit
def akD:Shape:=⟨39,[ua,zu,(4,fu),(5,fH),(6,aI),ry],Yu,0,true⟩
abbrev dq:Type:=Yn
def mX:Shape:=⟨39,[dC,rB],mN,0,true⟩
abbrev pA:Type:=mH
def akG (a6:UInt64) (a7:Int) (c0:ao) (c1:ao) (c2:ao) (c3:ao):OT (Sum dq aT):=
 let z0:Bool:=inB a7 4
 let z1:Bool:=decide (Int.toNat a7+0<List.length c0)
 let z2:Bool:=decide (Int.toNat a7+0<List.length c1)
 let z3:UInt64:=List.getD c0 (Int.toNat a7+0) (0:UInt64)
 let z4:UInt64:=List.getD c1 (Int.toNat a7+0) (0:UInt64)
 let z5:Bool:=inR (a7+(1:Int))
 let z6:UInt64:=z3-z4
 let z7:ao:=List.set c3 (Int.toNat a7+0) (z6-a6)
 (.br (decide (a7<(4:Int)))
 (gd [z0,z1,z0,z2,z0,decide (Int.toNat a7+0<List.length c3),z0,z1,z0,z2] (.br (decide (z3<z4))
  (gd [z5] (.ok (.inl (((),(),(),(),(1:UInt64),a7+(1:Int),()),c0,c1,c2,z7,()))))
  (.br (decide (z6<a6))
   (gd [z5] (.ok (.inl (((),(),(),(),(1:UInt64),a7+(1:Int),()),c0,c1,c2,z7,()))))
   (gd [z5] (.ok (.inl (((),(),(),(),(0:UInt64),a7+(1:Int),()),c0,c1,c2,z7,())))))))
 (.ok (.inr ⟨(.exit 0,mX),(((),(),()),c2,c3,())⟩)))
def uI (s:dq):OT (Sum dq aT):=akG s.1.2.2.2.2.1 s.1.2.2.2.2.2.1 s.2.1 s.2.2.1 s.2.2.2.1 s.2.2.2.2.1
def ME (g0_0:dq->pA) (s:dq):OT aT:=(.ok ⟨(.exit 0,mX),g0_0 s⟩)
def CL:aH:=⟨fG,[],false⟩
section
variable (ok0:dq->Bool) (g0_0:dq->pA)
def Ur (a0:ab) (a1:ab):OT l9.Y:=
 let z0:dq:=(((),(),(),(),(0:UInt64),(0:Int),()),[a0.w0,a0.w1,a0.w2,a0.w3],[a1.w0,a1.w1,a1.w2,a1.w3],[(0:UInt64),(0:UInt64),(0:UInt64),(0:UInt64)],[(0:UInt64),(0:UInt64),(0:UInt64),(0:UInt64)],())
 let z1:=(g0_0 z0).snd
 let z2:=z1.snd.fst
 let z3:=z1.fst
 let z4:ao:=lay z3 z2 4 (0:UInt64)
 (gd [ok0 z0,decide (4<=List.length z2),decide ((4/1:Nat)+0<=List.length z3),decide (4<=List.length z4)] (.ok ⟨CL,(({w0:=List.getD z4 0 0,w1:=List.getD z4 1 0,w2:=List.getD z4 2 0,w3:=List.getD z4 3 0},()),())⟩))
theorem Uq (h0:aY uI ok0 (ME g0_0)) (pre:Aq->Bool) (F:Aq->OT l9.Y) (hF:∀ (x:Aq) oy,pre x=true->(F x).run=some oy->(Ur ok0 g0_0 x.1.1 x.1.2.1).run=some oy):aa ag 86 (l9.aw pre F):=
 cC zC 86 Tryz.f86 l9 [CL] (js zC 0 akD [(0,mX)] none none uI bw h0 bw) (λx=>Ur ok0 g0_0 x.1.1 x.1.2.1) hF
end
theorem alA {x y c:UInt64} (hc:c.toNat<=1):x-y-c=pj x y c:=by
 have hx:=x.toNat_lt
 have hy:=y.toNat_lt
 unfold pj
 rw [<-kE,UInt64.toNat_sub,UInt64.toNat_sub,dg]
 omega
theorem axO {x y c:UInt64} (h:x<y):SK x y c=1:=by
 have h:=UInt64.lt_iff_toNat_lt.1 h
 rw [<-kE,Ad,if_pos (by omega)]
 rfl
theorem axN {x y c:UInt64} (h:¬x<y) (hc:x-y<c):SK x y c=1:=by
 have hx:=x.toNat_lt
 have h:¬x.toNat<y.toNat:=λe=>h (UInt64.lt_iff_toNat_lt.2 e)
 have hc:=UInt64.lt_iff_toNat_lt.1 hc
 rw [UInt64.toNat_sub] at hc
 rw [<-kE,Ad,if_pos (by omega)]
 rfl
theorem axM {x y c:UInt64} (h:¬x<y) (hc:¬x-y<c):SK x y c=0:=by
 have hx:=x.toNat_lt
 have h:¬x.toNat<y.toNat:=λe=>h (UInt64.lt_iff_toNat_lt.2 e)
 have hc:¬(x-y).toNat<c.toNat:=λe=>hc (UInt64.lt_iff_toNat_lt.2 e)
 rw [UInt64.toNat_sub] at hc
 rw [<-kE,Ad,if_neg (by omega)]
 rfl
def HH (s:dq):Bool:=decide (s.1.2.2.2.2.1=0/\s.1.2.2.2.2.2.1=0/\s.2.1.length=4/\s.2.2.1.length=4/\s.2.2.2.2.1= [0,0,0,0])
def MD (s:dq):pA:=(((),(),()),s.2.2.2.1,(upto (LA s.2.1 s.2.2.1) ([0,0,0,0],0) 4).1,())
theorem akF:aY uI HH (ME MD):=by
 rintro ⟨⟨⟨⟩,⟨⟩,⟨⟩,⟨⟩,c,i,⟨⟩⟩,⟨c0,c1,c2,c3,⟨⟩⟩⟩ h
 have h':=bh h
 dsimp only at h'
 obtain ⟨rfl,rfl,h0,h1,rfl⟩:=h'
 have:=(aW (T:=uI) (λk s=>((((),(),(),(),s.2,(k:Int),()),c0,c1,c2,s.1,()):dq)) (LA c0 c1)
  (λs=>(⟨(.exit 0,mX),(((),(),()),c2,s.1,())⟩:aT)) 4 ([0,0,0,0],0) (λ_ s=>s.1.length=4/\s.2.toNat<=1) ⟨rfl,by decide⟩ (λk s hk hs=>⟨?_,?_⟩) (λs hs=> ?_)).1
 ·obtain ⟨m,hm⟩:=this
  exact ⟨m,_,hm,rfl⟩
 ·obtain ⟨o,c⟩:=s
  dsimp only at hs
  refine (OT.ak (aj (by dsimp only;omega))).trans ((ae ?_).trans ?_)
  ·simp only [bH,Nat.add_zero,h0,h1,hs.1,ax,aA,aC,av]
   exact ⟨aR (by omega),aj (by omega),aR (by omega),aj (by omega),aR (by omega),aj (by omega),aR (by omega),aj (by omega),aR (by omega),aj (by omega)⟩
  ·have hi:∀ z,(gd [inR ((k:Int)+1)] z:OT (Sum dq aT)).run=z.run:=λz=>ae (by simp only [ax,aA,aC];exact aL (by omega))
   have hw:=alA (x:=c0.getD k 0) (y:=c1.getD k 0) hs.2
   by_cases hx:c0.getD k 0<c1.getD k 0
   ·have hk1:=axO (c:=c) hx
    refine (OT.ak (aj ?_)).trans ((hi _).trans ?_)
    ·simp only [bH,Nat.add_zero];exact hx
    ·simp only [OT.gb,bH,Nat.add_zero,LA,hw,hk1]
     rfl
   ·refine (OT.al (bn ?_)).trans ?_
    ·simp only [bH,Nat.add_zero];exact hx
    ·by_cases hd:c0.getD k 0-c1.getD k 0<c
     ·have hk2:=axN hx hd
      refine (OT.ak (aj ?_)).trans ((hi _).trans ?_)
      ·simp only [bH,Nat.add_zero];exact hd
      ·simp only [OT.gb,bH,Nat.add_zero,LA,hw,hk2]
       rfl
     ·have hk3:=axM hx hd
      refine (OT.al (bn ?_)).trans ((hi _).trans ?_)
      ·simp only [bH,Nat.add_zero];exact hd
      ·simp only [OT.gb,bH,Nat.add_zero,LA,hw,hk3]
       rfl
 ·exact ⟨by simp only [LA,dm];exact hs.1,CC⟩
 ·exact OT.al (bn (by dsimp only;omega))
def HG (_:Aq):Bool:=true
def HI (x:Aq):OT l9.Y:=.ok ⟨CL,(((ka x.1.1 x.1.2.1).1,()),())⟩
theorem akE:aa ag 86 (l9.aw HG HI):=Uq HH MD akF _ _ λx oy hp ho=>by
 rw [<-ho]
 clear ho
 obtain ⟨⟨a,b,⟨⟩⟩,⟨⟩⟩:=x
 obtain ⟨_,hw⟩:=Mm a b
 refine (ae ?_).trans ?_
 ·simp only [ax,aA,aC,av]
  exact ⟨rfl,rfl,rfl,rfl⟩
 ·simp only [HI,hw]
  rfl
def rY:bi:=(l9.aw HG HI)
theorem PK:aa ag 86 rY:=akE
theorem PJ:au rY:=aq
def YG:Env:=ap 86 rY YH
theorem rf:bI ag te YG:=aP follows zC PK PJ
abbrev MC:Type:=Yn
abbrev Ul:Type:=mH
section
variable (ok0:MC->Bool) (g0_0:MC->Ul)
end
def rW:af:=⟨Om,[],true,0,false⟩
abbrev aaA:Type:=Oj
def aDl:Shape:=⟨60,[rA,BS,(5,aI),(6,aI),ry],mN,0,true⟩
abbrev iO:Type:=(Unit×Unit×UInt64×UInt64×eE)×wg
def Ap:Shape:=⟨60,[dC,(6,aI)],[fV],0,true⟩
abbrev uH:Type:=(Unit×mJ)×tY
def aDp (a5:UInt64) (a6:UInt64) (a7:Int) (c0:ao) (c1:ao):OT (Sum iO aT):=
 let z0:Bool:=inB a7 4
 let z1:Bool:=decide (Int.toNat a7+0<List.length c0)
 let z2:Bool:= !a5==(0:UInt64)
 let z3:UInt64:=List.getD c0 (Int.toNat a7+0) (0:UInt64)
 (.br (decide ((0:Int)<=a7))
 (gd [z0,z1,z2,z0,z1,z2,inR (a7-(1:Int))] (.ok (.inl (((),(),a5,(cn ((cn a6 (32:Int)+bA z3 (32:Int))%a5) (32:Int)+(z3&&&(4294967295:UInt64)))%a5,a7-(1:Int),()),c0,c1,()))))
 (.ok (.inr ⟨(.exit 0,Ap),(((),a6,()),c1,())⟩)))
def PI (s:iO):OT (Sum iO aT):=aDp s.1.2.2.1 s.1.2.2.2.1 s.1.2.2.2.2.1 s.2.1 s.2.2.1
def apy (g0_0:iO->uH) (s:iO):OT aT:=(.ok ⟨(.exit 0,Ap),g0_0 s⟩)
def aDk:Shape:=⟨60,[rA,BS,BT],Yt,0,true⟩
abbrev j1:Type:=nC×oL
def Ao:Shape:=⟨60,[rA,BS],mN,0,true⟩
abbrev CI:Type:=mH
def aDo (c0:ao) (c1:ao) (c2:ao):OT (Sum j1 aT):=
 let z0:Nat:=List.length c0
 let z1:Bool:=decide (4<=z0)
 let z2:Bool:=decide (4<=List.length c2)
 let z3:ab:= {w0:=List.getD c0 0 0,w1:=List.getD c0 1 0,w2:=List.getD c0 2 0,w3:=List.getD c0 3 0}
 let z4:ab:= {w0:=List.getD c2 0 0,w1:=List.getD c2 1 0,w2:=List.getD c2 2 0,w3:=List.getD c2 3 0}
 let z5:=(ka z3 z4).fst
 (gd [z1,z2] (.br (!Nat.blt (ab.nat z3) (ab.nat z4))
 (gd [z1,z2,decide ((4/1:Nat)+0<=z0)] (.ok (.inl (((),(),(),()),List.set (List.set (List.set (List.set c0 0 z5.w0) 1 z5.w1) 2 z5.w2) 3 z5.w3,c1,c2,()))))
 (.ok (.inr ⟨(.exit 2,Ao),(((),(),()),c0,c1,())⟩))))
def PH (s:j1):OT (Sum j1 aT):=aDo s.2.1 s.2.2.1 s.2.2.2.1
def apx (g2_2:j1->CI) (s:j1):OT aT:=(.ok ⟨(.exit 2,Ao),g2_2 s⟩)
def nO:aH:=⟨fG,[],false⟩
section
variable (ok0:iO->Bool) (g0_0:iO->uH) (ok2:j1->Bool) (g2_2:j1->CI)
def apz (a0:Int) (a1:ab):OT rW.Y:=
 let z0:iO:=(((),(),aHc a0,(0:UInt64),(3:Int),()),[a1.w0,a1.w1,a1.w2,a1.w3],[(0:UInt64),(0:UInt64),(0:UInt64),(0:UInt64)],())
 let z1:Bool:=ok0 z0
 let z2:uH:=g0_0 z0
 let z3:=z2.snd.fst
 let z4:Bool:=decide ((4/1:Nat)+0<=List.length z3)
 let z5:ao:=List.set (List.set (List.set (List.set z3 0 z2.fst.snd.fst) 1 (0:UInt64)) 2 (0:UInt64)) 3 (0:UInt64)
 let z6:Bool:=decide (4<=List.length z5)
 let z7:ab:= {w0:=List.getD z5 0 0,w1:=List.getD z5 1 0,w2:=List.getD z5 2 0,w3:=List.getD z5 3 0}
 let z8:ab:=(numOf (Int.toNat a0)).fst
 let z9:j1:=(((),(),(),()),[a1.w0,a1.w1,a1.w2,a1.w3],[(0:UInt64),(0:UInt64),(0:UInt64),(0:UInt64)],[z8.w0,z8.w1,z8.w2,z8.w3],())
 let z10:=(g2_2 z9).snd
 let z11:=z10.fst
 let z12:=z10.snd.fst
 let z13:ao:=lay z12 z11 4 (0:UInt64)
 (.br (a0==(0:Int))
 (gd [z1,z4,z6] (.ok ⟨nO,((z7,()),())⟩))
 (.br (a0==(1:Int))
  (gd [z1,z4,z6] (.ok ⟨nO,((z7,()),())⟩))
  (.br (ac a0)
   (gd [ok2 z9,decide (4<=List.length z11),decide ((4/1:Nat)+0<=List.length z12),decide (4<=List.length z13)] (.ok ⟨nO,(({w0:=List.getD z13 0 0,w1:=List.getD z13 1 0,w2:=List.getD z13 2 0,w3:=List.getD z13 3 0},()),())⟩))
   (.ok ⟨nO,(({w0:=0,w1:=0,w2:=0,w3:=0},()),())⟩))))
theorem apw (h0:aY PI ok0 (apy g0_0)) (h2:aY PH ok2 (apx g2_2)) (pre:aaA->Bool) (F:aaA->OT rW.Y) (hF:∀ (x:aaA) oy,pre x=true->(F x).run=some oy->(apz ok0 g0_0 ok2 g2_2 x.1.1 x.1.2.1).run=some oy):aa ag 32 (rW.aw pre F):=
 cC rf 32 Tryz.f32 rW [nO] (js rf 2 aDk [(2,Ao)] none none PH bw h2 (js rf 0 aDl [(0,Ap)] none none PI bw h0 bw)) (λx=>apz ok0 g0_0 ok2 g2_2 x.1.1 x.1.2.1) hF
end
theorem aFX {r w m:Nat}:((r*4294967296+w/4294967296)%m*4294967296+w%4294967296)%m=(r*18446744073709551616+w)%m:=by
 have e:(r*4294967296+w/4294967296)*4294967296+w%4294967296=r*18446744073709551616+w:=by omega
 rw [Nat.add_mod,Nat.mul_mod,Nat.mod_mod,<-Nat.mul_mod,<-Nat.add_mod,e]
theorem aDH {r w m:UInt64} (hs:gr m=true) (hr:r.toNat<m.toNat):(cn ((cn r 32+bA w 32)%m) 32+(w&&&4294967295))%m=W8 r w m:=by
 have hm:=lX hs
 have hb:m.toNat<=16521217:=by rcases eu hs with rfl|rfl<;>decide
 have hw:=w.toNat_lt
 have e1:(cn r 32).toNat=r.toNat*4294967296:=by
  have:(cn r 32).toNat=r.toNat*2^32%2^64:=lY r 32 (by omega)
  rw [this]
  omega
 have e2:(bA w 32).toNat=w.toNat/4294967296:=ga w 32 (by omega)
 have e3:((cn r 32+bA w 32)%m).toNat=(r.toNat*4294967296+w.toNat/4294967296)%m.toNat:=by
  rw [UInt64.toNat_mod,UInt64.toNat_add,e1,e2,bj (a:=r.toNat*4294967296+w.toNat/4294967296) (by omega)]
 generalize (cn r 32+bA w 32)%m=q at e3
 have hq:q.toNat<m.toNat:=by rw [e3];exact Nat.mod_lt _ hm
 have e4:(cn q 32).toNat=q.toNat*4294967296:=by
  have:(cn q 32).toNat=q.toNat*2^32%2^64:=lY q 32 (by omega)
  rw [this]
  omega
 rw [<-kE,qF hm,UInt64.toNat_mod,UInt64.toNat_add,e4,jX,bj (a:=q.toNat*4294967296+w.toNat%4294967296) (by omega),e3,aFX]
def F1 (s:iO):Bool:=decide (s.1.2.2.2.1=0/\s.1.2.2.2.2.1=3/\s.2.1.length=4)&&gr s.1.2.2.1
def aaz (s:iO):uH:=(((),aFO s.2.1 s.1.2.2.1,()),s.2.2.1,())
theorem aDn:aY PI F1 (apy aaz):=by
 rintro ⟨⟨⟨⟩,⟨⟩,sm,r,i,⟨⟩⟩,⟨c1,c2,⟨⟩⟩⟩ h
 simp only [F1,av,decide_eq_true_eq] at h
 obtain ⟨⟨rfl,rfl,hl⟩,hs⟩:=h
 have hm:=lX hs
 have hz:(!(sm==0))=true:=by rcases eu hs with rfl|rfl<;>rfl
 have:=(aW (T:=PI) (λk r=>((((),(),sm,r,3-(k:Int),()),c1,c2,()):iO)) (λk r=>W8 r (c1.getD (3-k) 0) sm)
  (λr=>(⟨(.exit 0,Ap),(((),r,()),c2,())⟩:aT)) 4 0 (λ_ r=>r.toNat<sm.toNat) hm (λk r hk hr=>⟨?_,?_⟩) (λr hr=> ?_)).1
 ·obtain ⟨m,hm⟩:=this
  exact ⟨m,_,hm,rfl⟩
 ·have e1:(3-(k:Int)).toNat=3-k:=by omega
  have e2:(3:Int)-(k:Int)-1=3-((k+1:Nat):Int):=by omega
  refine (OT.ak (aj (by dsimp only;omega))).trans ((ae ?_).trans ?_)
  ·simp only [e1,Nat.add_zero,hl,hz,ax,aA,aC,Bool.true_and,av]
   exact ⟨aR (by omega),aj (by omega),aR (by omega),aj (by omega),aL (by omega)⟩
  ·simp only [OT.gb,e1,e2,Nat.add_zero,aDH hs hr]
 ·rw [qF hm]
  exact Nat.mod_lt _ hm
 ·exact OT.al (bn (by dsimp only;omega))
def PG (s:j1):Bool:=decide (s.2.1.length=4/\s.2.2.2.1.length=4/\0<(elemOf s.2.2.2.1).nat)
def aay (s:j1):CI:=(((),(),()),lst (ofN ((elemOf s.2.1).nat%(elemOf s.2.2.2.1).nat)),s.2.2.1,())
theorem akz {M:ab} {c2:List UInt64} (hm:0<M.nat):∀ (n:Nat) (a:ab),a.nat=n->
 ∃ m,cx PH m (((),(),(),()),lst a,c2,lst M,())=some ⟨(.exit 2,Ao),(((),(),()),lst (ofN (a.nat%M.nat)),c2,())⟩:=by
 intro n
 induction n using Nat.strongRecOn with
 |_ n ih=>
  intro a hn
  rcases (bX (Nat.blt a.nat M.nat)).symm with hb|hb
  ·have hle:M.nat<=a.nat:=by
    rcases Nat.lt_or_ge a.nat M.nat with h|h
    ·have:Nat.blt a.nat M.nat=true:=lb h
     rw [this] at hb;cases hb
    ·exact h
   have hd:=o4 hle
   obtain ⟨m,hm2⟩:=ih (a.nat-M.nat) (by omega) (ka a M).1 hd
   rw [hd,<-Nat.mod_eq_sub_mod hle] at hm2
   refine ⟨m+1,aS ?_ hm2⟩
   refine (ae rfl).trans ((OT.ak (b:= !Nat.blt a.nat M.nat) (by rw [hb];rfl)).trans ((ae rfl).trans rfl))
  ·have hlt:=db hb
   rw [bj hlt,AG]
   refine ⟨1,aO ?_⟩
   exact (ae rfl).trans (OT.al (b:= !Nat.blt a.nat M.nat) (by rw [hb];rfl))
theorem aDm:aY PH PG (apx aay):=by
 rintro ⟨⟨⟨⟩,⟨⟩,⟨⟩,⟨⟩⟩,⟨l,c2,l2,⟨⟩⟩⟩ h
 have h':=bh h
 dsimp only at h'
 obtain ⟨h1,h2,h3⟩:=h'
 obtain ⟨a,rfl⟩:∃ a,l=lst a:=⟨elemOf l,(bY h1).symm⟩
 obtain ⟨M,rfl⟩:∃ a,l2=lst a:=⟨elemOf l2,(bY h2).symm⟩
 obtain ⟨m,hm⟩:=akz (c2:=c2) (M:=M) h3 _ a rfl
 exact ⟨m,_,hm,rfl⟩
def ofP (p:Nat) (a:ab):ab:=ofN (a.nat%p)
def afZ (_:aaA):Bool:=true
def aAs (x:aaA):OT rW.Y:=.br (ac x.1.1) (.ok ⟨nO,((ofP (pS x.1.1) x.1.2.1,()),())⟩) (.ok ⟨nO,((⟨0,0,0,0⟩,()),())⟩)
theorem Va {a:ab} {p:Nat} {m:UInt64} (hp:p=m.toNat) (hs:gr m=true):(⟨aFO (lst a) m,0,0,0⟩:ab)=ofP p a:=by
 have hm:=lX hs
 unfold ofP
 rw [afW hs,hp,Ia (n:=a.nat%m.toNat) (Nat.lt_trans (Nat.mod_lt _ hm) m.toNat_lt)]
theorem agi {s:Int} {a:ab} (h0:(s==0)=false) (h1:(s==1)=false) (hs:ac s=true):(apz F1 aaz PG aay s a).run=some ⟨nO,((ofP (pS s) a,()),())⟩:=by
 refine (OT.al h0).trans ((OT.al h1).trans ((OT.ak hs).trans ((ae ?_).trans rfl)))
 simp only [ax,aA,aC,av]
 exact ⟨aj ⟨rfl,rfl,(gU hs).1⟩,rfl,rfl,rfl⟩
theorem apv:aa ag 32 (rW.aw afZ aAs):=apw F1 aaz PG aay aDn aDm _ _ λx oy _ ho=>by
 rw [<-ho]
 clear ho
 obtain ⟨⟨s,a,⟨⟩⟩,⟨⟩⟩:=x
 rcases (bX (ac s)).symm with hs|hs
 ·obtain ⟨h0,h1,_,_⟩:=uA hs
  exact (OT.al h0).trans ((OT.al h1).trans ((OT.al hs).trans (OT.al (b:=ac s) hs).symm))
 ·refine Eq.trans ?_ (OT.ak (b:=ac s) hs).symm
  show _=some (⟨nO,((ofP (pS s) a,()),())⟩:rW.Y)
  rcases b6 hs with rfl|rfl|rfl|rfl
  ·rw [<-Va (a:=a) (p:=pS 0) (m:=16513537) (by decide+kernel) rfl]
   refine (OT.ak rfl).trans ((ae ?_).trans rfl)
   exact rfl
  ·rw [<-Va (a:=a) (p:=pS 1) (m:=16521217) (by decide+kernel) rfl]
   refine (OT.al rfl).trans ((OT.ak rfl).trans ((ae ?_).trans rfl))
   exact rfl
  ·exact agi rfl rfl rfl
  ·exact agi rfl rfl rfl
def HE:bi:=(rW.aw afZ aAs)
theorem akA:aa ag 32 HE:=apv
theorem aky:au HE:=aq
def aBS:Env:=ap 32 HE YG
theorem aiP:bI ag te aBS:=aP follows rf akA aky
def rX:af:=⟨Om,[],true,0,false⟩
abbrev Um:Type:=Oj
def mV:aH:=⟨fG,[],false⟩
def apA (a0:Int) (a1:ab):OT rX.Y:=
 let z0:Bool:=ac a0
 let z1:Nat:=pS a0
 let z2:ab:=(numOf (Int.toNat a0)).fst
 let z3:ab:= {w0:=0,w1:=0,w2:=0,w3:=0}
 (.br (z0)
 (.br (z0)
  (.br (z0)
   (.ok ⟨mV,((ofP z1 (ka z2 (ofP z1 a1)).fst,()),())⟩)
   (.ok ⟨mV,((z3,()),())⟩))
  (.br (z0)
   (.ok ⟨mV,((ofP z1 (ka z2 z3).fst,()),())⟩)
   (.ok ⟨mV,((z3,()),())⟩)))
 (.ok ⟨mV,((z3,()),())⟩))
theorem akB (pre:Um->Bool) (F:Um->OT rX.Y) (hF:∀ (x:Um) oy,pre x=true->(F x).run=some oy->(apA x.1.1 x.1.2.1).run=some oy):aa ag 31 (rX.aw pre F):=
 cC aiP 31 Tryz.f31 rX [mV] bw (λx=>apA x.1.1 x.1.2.1) hF
theorem neg_eq {s:Int} (hs:ac s=true) (a:ab):ofP (pS s) (ka (numOf s.toNat).1 (ofP (pS s) a)).1=n9 (pS s) a:=by
 have hp:=gU hs
 have hlt:=Nat.mod_lt a.nat hp.1
 have e:(ofP (pS s) a).nat=a.nat%pS s:=cL hp
 unfold n9
 have e2:(ka (numOf s.toNat).1 (ofP (pS s) a)).1.nat=pS s-a.nat%pS s:=by
  rw [o4 (by rw [e];exact Nat.le_of_lt hlt),e]
  rfl
 show ofN (_%_)=_
 rw [e2]
def HF (x:Um):Bool:=ac x.1.1
def apB (x:Um):OT rX.Y:=.ok ⟨mV,((n9 (pS x.1.1) x.1.2.1,()),())⟩
theorem aw9:aa ag 31 (rX.aw HF apB):=akB _ _ λx oy hp ho=>by
 rw [<-ho]
 clear ho
 obtain ⟨⟨s,a,⟨⟩⟩,⟨⟩⟩:=x
 have hs:ac s=true:=hp
 show _=some (⟨mV,((n9 (pS s) a,()),())⟩:rX.Y)
 rw [<-neg_eq hs]
 exact (OT.ak hs).trans ((OT.ak hs).trans ((OT.ak hs).trans rfl))
def CJ:bi:=(rX.aw HF apB)
theorem aaC:aa ag 31 CJ:=aw9
theorem aaB:au CJ:=aq
def au2:Env:=ap 31 CJ aBS
theorem au1:bI ag te au2:=aP follows aiP aaC aaB
abbrev Un:Type:=K4×ao×oO
abbrev aaD:Type:=mH
section
variable (ok0:Un->Bool) (g0_0:Un->aaD)
end
abbrev Uw:Type:=(Int×BR)×oO
abbrev aaJ:Type:=(Int×BR)×oO
abbrev Uv:Type:=(Int×BR)×oO
abbrev aaI:Type:=mH
section
variable (ok0:Uw->Bool) (g0_0:Uw->aaJ) (ok2:Uv->Bool) (g2_2:Uv->aaI)
end
theorem PX {p:Nat}:∀ (n o x k:Nat),k<2^n->o<p->aAu p n o x k=o*x^k%p
 |0,o,x,k,hk,ho=>by
  have:k=0:=by omega
  subst this
  show o=_
  rw [Nat.pow_zero,Nat.mul_one,bj ho]
 |n+1,o,x,k,hk,ho=>by
  unfold aAu
  rw [Nat.pow_succ] at hk
  cases h0:Nat.beq k 0
  ·simp only [bo]
   have hsq:(x*x%p)^(k/2)%p=x^(2*(k/2))%p:=by
    rw [<-Nat.pow_mod,Nat.pow_mul,Nat.pow_two]
   cases h1:Nat.beq (k%2) 1
   ·have h1':¬k%2=1:=λe=>by rw [e] at h1;cases h1
    simp only [bo]
    rw [PX n _ _ _ (by omega) ho,Nat.mul_mod,hsq,<-Nat.mul_mod,show 2*(k/2)=k by omega]
   ·have h1:=aX h1
    simp only [aV]
    rw [PX n _ _ _ (by omega) (Nat.mod_lt _ (by omega)),Nat.mul_mod,hsq,Nat.mod_mod,<-Nat.mul_mod,Nat.mul_assoc,<-Nat.pow_succ',show (2*(k/2)).succ=k by omega]
  ·have h0:=aX h0
   subst h0
   simp only [aV]
   rw [Nat.pow_zero,Nat.mul_one,bj ho]
theorem aEq {p:Nat} (hp:1<p) (a k:ab):lQ p a k=ofN (a.nat^k.nat%p):=by
 rw [RF (by omega),PX 256 1 _ _ (iX k) hp,Nat.one_mul,<-Nat.pow_mod]
theorem azp {e n:Nat} (h:avR e n=false):e/2^n%2=0:=by
 unfold avR at h
 have:¬e/2^n%2=1:=λe=>by rw [e] at h;cases h
 omega
def byP (p:Nat) (a b:ab):ab:=aQ p a (E4 p b)
abbrev MF:Type:=(Unit×kU)×oL
abbrev Uu:Type:=mH
section
variable (ok0:MF->Bool) (g0_0:MF->Uu)
end
abbrev EI:Type:=(Int×kU)×wg
abbrev LG:Type:=mH
section
variable (ok0:EI->Bool) (g0_0:EI->LG)
end
abbrev apt:af:=rW
def HD (x:aaA):Bool:=ac x.1.1
def apu (x:aaA):OT rW.Y:=.ok ⟨nO,((ofP (pS x.1.1) x.1.2.1,()),())⟩
theorem aw8:aa ag 32 (apt.aw HD apu):=cw (S:=rW) apv λx oy hp ho=>⟨rfl,(OT.ak (b:=ac x.1.1) hp).trans ho⟩
def CH:bi:=(apt.aw HD apu)
theorem aax:aa ag 32 CH:=aw8
theorem aaw:au CH:=aq
def au0:Env:=ap 32 CH au2
theorem YE:bI ag te au0:=aP follows au1 aax aaw
def IU (p:Nat) (X Y X2 s:ab):Pt:=(gZ p (gZ p (aQ p s s) X) X2,gZ p (aQ p s (gZ p X (gZ p (gZ p (aQ p s s) X) X2))) Y,false)
def pi (p:Nat) (P Q:Pt):Pt:=cond P.2.2 Q (cond Q.2.2 P (cond (eqE P.1 Q.1)
 (cond (eqE P.2.1 Q.2.1) (IU p P.1 P.2.1 Q.1 (byP p (aQ p ⟨3,0,0,0⟩ (aQ p P.1 P.1)) (fp p P.2.1 P.2.1))) aK)
 (IU p P.1 P.2.1 Q.1 (byP p (gZ p Q.2.1 P.2.1) (gZ p Q.1 P.1)))))
abbrev Uk:Type:=auF
abbrev aav:Type:=auF
abbrev Uj:Type:=auF
abbrev aau:Type:=mK×tZ
section
variable (ok0:Uk->Bool) (g0_0:Uk->aav) (ok2:Uj->Bool) (g2_2:Uj->aau)
end
def fQ (p k:Nat) (P:Pt) (n:Nat) (O:Pt):Pt:=cond (avR k (255-n)) (pi p (pi p O O) P) (pi p O O)
def apr (p k:Nat) (P:Pt):Pt:=upto (fQ p k P) aK 256
def aqp (c:Int) (k:ab) (P:Pt):Pt:=cond (onB c P) (apr (pS c) (ofP (pS (bm c 1)) k).nat P) aK
def j3:ab:=⟨1,0,0,0⟩
def sqN (p:Nat) (b:ab) (n:Nat):ab:=upto (λ_ e=>aQ p e e) b n
abbrev Ton:Type:=ib
def Ph (p m:Nat) (k:Nat) (w:Ton):Ton:=cond (eqE (sqN p w.2.1 (m-k-1)) j3) (w.1,w.2.1,aQ p w.2.2 w.2.2) (aQ p w.1 w.2.2,aQ p w.2.1 (aQ p w.2.2 w.2.2),aQ p w.2.2 w.2.2)
def aFb (p m:Nat) (w:Ton):Ton:=upto (Ph p m) w m
def LD (s:Int) (a:ab):ab:=(aFb (pS s) ((numOf s.toNat).2.1-1).toNat
 (lQ (pS s) a (hJ (SJ (jd (ka (numOf s.toNat).1 j3).1 (numOf s.toNat).2.1.toNat) j3).1),lQ (pS s) a (jd (ka (numOf s.toNat).1 j3).1 (numOf s.toNat).2.1.toNat),lQ (pS s) ⟨5,0,0,0⟩ (jd (ka (numOf s.toNat).1 j3).1 (numOf s.toNat).2.1.toNat))).1
def yR (p:Nat) (x:ab):ab:=cond (x.w0%2==1) (n9 p x) x
theorem aBm {s:Int} (hs:ac s=true):1<=(numOf s.toNat).2.1/\(numOf s.toNat).2.1<=32:=by
 rcases b6 hs with rfl|rfl|rfl|rfl<;>decide
def wS:af:=⟨[iE],[],true,0,false⟩
abbrev Ta:Type:=df×Unit
def O4:aH:=⟨[.own 0],zA,false⟩
def aoo (a0:aG):OT wS.Y:=
 (gd [decide ((0+List.length a0)*1<=140737488355328)] (.ok ⟨O4,(((),()),[]++a0,())⟩))
theorem aj5 (pre:Ta->Bool) (F:Ta->OT wS.Y) (hF:∀ (x:Ta) oy,pre x=true->(F x).run=some oy->(aoo x.1.1).run=some oy):aa ag 17 (wS.aw pre F):=
 cC YE 17 Tryz.f17 wS [O4] bw (λx=>aoo x.1.1) hF
def zQ (x:Ta):Bool:=decide (x.1.1.length<=140737488355328)
def aop (x:Ta):OT wS.Y:=.ok ⟨O4,(((),()),x.1.1,())⟩
theorem av1:aa ag 17 (wS.aw zQ aop):=aj5 _ _ λx oy hp ho=>by
 rw [<-ho]
 have hp':x.1.1.length<=140737488355328:=bh hp
 refine (ae ?_).trans rfl
 simp only [ax,aA,aC]
 exact aj (by omega)
def Cq:bi:=(wS.aw zQ aop)
theorem ZG:aa ag 17 Cq:=av1
theorem ZF:au Cq:=aq
def auX:Env:=ap 17 Cq au0
theorem Lh:bI ag te auX:=aP follows YE ZG ZF
def mr:af:=⟨[iE],[],true,0,false⟩
abbrev Bl:Type:=df×Unit
def amj:Shape:=⟨27,[ua,zu,(6,iE),ry,(8,aB)],mN,0,true⟩
abbrev cF:Type:=(Unit×Unit×aG×jv)×wg
def nw:Shape:=⟨27,[ua,zu],mN,0,true⟩
abbrev lH:Type:=mH
def amm (a6:aG) (a7:Int) (a8:Int) (c0:ao) (c1:ao):OT (Sum cF aT):=
 let z0:Int:=Int.tdiv a8 (8:Int)
 let z1:Bool:=inB z0 4
 let z2:Bool:=decide (Int.toNat z0+0<List.length c1)
 let z3:Int:=(8:Int)*Int.tmod a8 (8:Int)
 (.br (decide (a8<a7))
 (gd [inB a8 (List.length a6),true&&inR z0,z1,z2,inR z3,decide ((0:Int)<=z3),z1,z2,inR (a8+(1:Int))] (.ok (.inl (((),(),a6,a7,a8+(1:Int),()),c0,List.set c1 (Int.toNat z0+0) (List.getD c1 (Int.toNat z0+0) (0:UInt64)|||cn (UInt8.toUInt64 (List.getD a6 (Int.toNat a8) (0:UInt8))) z3),()))))
 (.ok (.inr ⟨(.exit 0,nw),(((),(),()),c0,c1,())⟩)))
def vv (s:cF):OT (Sum cF aT):=amm s.1.2.2.1 s.1.2.2.2.1 s.1.2.2.2.2.1 s.2.1 s.2.2.1
def ND (g0_0:cF->lH) (s:cF):OT aT:=(.ok ⟨(.exit 0,nw),g0_0 s⟩)
def vu:aH:=⟨fG,[],false⟩
section
variable (ok0:cF->Bool) (g0_0:cF->lH)
def Bk (a0:aG):OT mr.Y:=
 let z0:cF:=(((),(),a0,(↑(List.length a0):Int),(0:Int),()),[(0:UInt64),(0:UInt64),(0:UInt64),(0:UInt64)],[(0:UInt64),(0:UInt64),(0:UInt64),(0:UInt64)],())
 let z1:=(g0_0 z0).snd
 let z2:=z1.snd.fst
 let z3:=z1.fst
 let z4:ao:=lay z3 z2 4 (0:UInt64)
 (gd [ok0 z0,decide (4<=List.length z2),decide ((4/1:Nat)+0<=List.length z3),decide (4<=List.length z4)] (.ok ⟨vu,(({w0:=List.getD z4 0 0,w1:=List.getD z4 1 0,w2:=List.getD z4 2 0,w3:=List.getD z4 3 0},()),())⟩))
theorem WD (h0:aY vv ok0 (ND g0_0)) (pre:Bl->Bool) (F:Bl->OT mr.Y) (hF:∀ (x:Bl) oy,pre x=true->(F x).run=some oy->(Bk ok0 g0_0 x.1.1).run=some oy):aa ag 155 (mr.aw pre F):=
 cC Lh 155 Tryz.f155 mr [vu] (js Lh 0 amj [(0,nw)] none none vv bw h0 bw) (λx=>Bk ok0 g0_0 x.1.1) hF
end
def aqh (b:aG) (k:Nat) (l:ao):ao:=l.set (k/8) (l.getD (k/8) 0|||cn (UInt8.toUInt64 (b.getD k 0)) (8*((k%8:Nat):Int)))
def aHb (b:aG) (n:Nat):ao:=upto (aqh b) [0,0,0,0] n
def Vb (b:aG):ab:=elemOf (aHb b 32)
theorem Ib (b:aG):∀ n,(aHb b n).length=4
 |0=>rfl
 |n+1=>(dm ..).trans (Ib b n)
def JM (s:cF):Bool:=decide (s.1.2.2.1.length=32/\s.1.2.2.2.1=32/\s.1.2.2.2.2.1=0/\s.2.2.1= [0,0,0,0])
def NC (s:cF):lH:=(((),(),()),s.2.1,aHb s.1.2.2.1 32,())
theorem aHJ (i:Nat):Int.tdiv (i:Int) 8=((i/8:Nat):Int):=by rw [Int.tdiv_eq_ediv_of_nonneg (by omega)];omega
theorem aHK (i:Nat):Int.tmod (i:Int) 8=((i%8:Nat):Int):=by rw [Int.tmod_eq_emod_of_nonneg (by omega)];omega
theorem aml:aY vv JM (ND NC):=by
 rintro ⟨⟨⟨⟩,⟨⟩,b,n,i,⟨⟩⟩,⟨c0,c1,⟨⟩⟩⟩ h
 have h':=bh h
 dsimp only at h'
 obtain ⟨hb,rfl,rfl,rfl⟩:=h'
 have:=(aW (T:=vv) (λi o=>((((),(),b,(32:Int),(i:Int),()),c0,o,()):cF)) (aqh b)
  (λo=>(⟨(.exit 0,nw),(((),(),()),c0,o,())⟩:aT)) 32 [0,0,0,0] (λ_ o=>o.length=4) rfl (λi o hi ho=>⟨?_,(dm ..).trans ho⟩) (λo ho=> ?_)).1
 ·obtain ⟨m,hm⟩:=this
  exact ⟨m,_,hm,rfl⟩
 ·have t1:=aHJ i
  have t2:=aHK i
  refine (OT.ak (aj (by dsimp only;omega))).trans ((ae ?_).trans ?_)
  ·simp only [t1,t2,ho,hb,bH,ax,aA,aC,Bool.true_and,av]
   exact ⟨aR (by omega),aL (by omega),aR (by omega),aj (by omega),aL (by omega),aj (by omega),aR (by omega),aj (by omega),aL (by omega)⟩
  ·simp only [OT.gb,t1,t2,bH,Nat.add_zero]
   rfl
 ·exact OT.al (bn (by dsimp only;omega))
def jP (x:Bl):Bool:=decide (x.1.1.length=32)
def WG (x:Bl):OT mr.Y:=.ok ⟨vu,((Vb x.1.1,()),())⟩
abbrev WC (b:aG):cF:=(((),(),b,(b.length:Int),0,()),[0,0,0,0],[0,0,0,0],())
theorem WE {ok0:cF->Bool} {g0:cF->lH} {b:List UInt8} {L:List UInt64} (hok:ok0 (WC b)=true)
 (hg:g0 (WC b)=(((),(),()),[0,0,0,0],L,())) (hL:L.length=4):(Bk ok0 g0 b).run=some ⟨vu,((elemOf L,()),())⟩:=by
 have e:lay [0,0,0,0] L 4 0=L:=Vt rfl hL
 unfold Bk
 simp only [hg]
 refine (ae ?_).trans ?_
 ·simp only [e,hL,ax,aA,aC,av]
  exact ⟨hok,rfl,rfl,rfl⟩
 ·rw [e]
  rfl
theorem amk:aa ag 155 (mr.aw jP WG):=WD JM NC aml _ _ λx oy hp ho=>by
 rw [<-ho]
 clear ho
 obtain ⟨⟨b,⟨⟩⟩,⟨⟩⟩:=x
 have hb:b.length=32:=bh hp
 exact WE (b:=b) (L:=aHb b 32) (aj ⟨hb,by show ((b.length:Nat):Int)=32;omega,rfl,rfl⟩) rfl (Ib b 32)
def tq:bi:=(mr.aw jP WG)
theorem Rr:aa ag 155 tq:=amk
theorem Rq:au tq:=aq
def Y3:Env:=ap 155 tq auX
theorem Lr:bI ag te Y3:=aP follows Lh Rr Rq
def ta:af:=⟨[aB,iE],[],true,0,false⟩
abbrev Wp:Type:=(Int×df)×Unit
def jf:aH:=⟨jz,[],false⟩
def Rf (a0:Int) (a1:aG):OT ta.Y:=
 let z0:Nat:=List.length a1
 let z1:Int:=(↑z0:Int)
 let z2:ab:= {w0:=0,w1:=0,w2:=0,w3:=0}
 let z3:aG:=List.drop 0 (List.take 32 a1)
 let z4:aG:=List.drop 32 a1
 let z5:ab:=(numOf (Int.toNat a0)).fst
 (.br (ac a0)
 (.br (!z1==(64:Int))
  (.ok ⟨jf,((z2,(21:Int),()),())⟩)
  (gd [cj (0:Int) (32:Int) z0,jP ((z3,()),()),cj (32:Int) z1 z0,jP ((z4,()),())] (.br (EQ z5)
   (.ok ⟨jf,((z2,(10:Int),()),())⟩)
   (.ok ⟨jf,((aFc (Vb z3) (Vb z4) z5,(0:Int),()),())⟩))))
 (.ok ⟨jf,((z2,(20:Int),()),())⟩))
theorem al7 (pre:Wp->Bool) (F:Wp->OT ta.Y) (hF:∀ (x:Wp) oy,pre x=true->(F x).run=some oy->(Rf x.1.1 x.1.2.1).run=some oy):aa ag 134 (ta.aw pre F):=
 cC Lr 134 Tryz.f134 ta [jf] bw (λx=>Rf x.1.1 x.1.2.1) hF
def QB (b:aG):Bool:=(b.length:Int)==64
def aCo (s:Int) (b:aG):ab:=aFc (Vb (b.take 32)) (Vb (b.drop 32)) (numOf s.toNat).1
def Wo (_:Wp):Bool:=true
def arU (x:Wp):OT ta.Y:=.br (ac x.1.1) (.br (QB x.1.2.1) (.ok ⟨jf,((aCo x.1.1 x.1.2.1,(0:Int),()),())⟩) (.ok ⟨jf,((⟨0,0,0,0⟩,(21:Int),()),())⟩)) (.ok ⟨jf,((⟨0,0,0,0⟩,(20:Int),()),())⟩)
theorem aqW {b:List UInt8}:QB b=true ↔ b.length=64:=by
 unfold QB
 rw [beq_iff_eq]
 omega
theorem axw {s:Int} (h:ac s=true):EQ (numOf s.toNat).1=false:=by
 rcases b6 h with rfl|rfl|rfl|rfl<;>rfl
theorem al8 {s:Int} {b:List UInt8} {W:ab} (hW:aFc (Vb (List.drop 0 (b.take 32))) (Vb (b.drop 32)) (numOf s.toNat).1=W):(Rf s b).run=(OT.br (ac s) (.br (QB b) (.ok ⟨jf,((W,(0:Int),()),())⟩) (.ok ⟨jf,((⟨0,0,0,0⟩,(21:Int),()),())⟩)) (.ok ⟨jf,((⟨0,0,0,0⟩,(20:Int),()),())⟩):OT ta.Y).run:=by
 unfold Rf
 simp only [hW]
 rcases (bX (ac s)).symm with hs|hs
 ·exact (OT.al hs).trans (OT.al (b:=ac s) hs).symm
 ·refine (OT.ak hs).trans (Eq.trans ?_ (OT.ak (b:=ac s) hs).symm)
  rcases (bX (QB b)).symm with hl|hl
  ·exact (OT.ak (b:= !QB b) (by rw [hl];rfl)).trans (OT.al (b:=QB b) hl).symm
  ·have hb:b.length=64:=aqW.1 hl
   refine (OT.al (b:= !QB b) (by rw [hl];rfl)).trans (Eq.trans ?_ (OT.ak (b:=QB b) hl).symm)
   refine (ae ?_).trans (OT.al (axw hs))
   simp only [ax,aA,aC,av]
   exact ⟨cA (by omega),aj (by show (List.drop 0 (b.take 32)).length=32;rw [List.drop_zero,fI];omega),cA (by omega),aj (by show (List.drop 32 b).length=32;rw [gD];omega)⟩
theorem ayp:aa ag 134 (ta.aw Wo arU):=al7 _ _ λx oy hp ho=>by
 rw [<-ho]
 clear ho
 obtain ⟨⟨s,b,⟨⟩⟩,⟨⟩⟩:=x
 exact al8 rfl
def DE:bi:=(ta.aw Wo arU)
theorem acA:aa ag 134 DE:=ayp
theorem acz:au DE:=aq
def avj:Env:=ap 134 DE Y3
theorem YZ:bI ag te avj:=aP follows Lr acA acz
def gz:af:=⟨[aB,iE],[],true,0,false⟩
abbrev qB:Type:=(Int×df)×Unit
def dj:aH:=⟨jz,[],false⟩
def Br (a0:Int) (a1:aG):OT gz.Y:=
 let z0:ab:= {w0:=0,w1:=0,w2:=0,w3:=0}
 let z1:Bool:=jP ((a1,()),())
 let z2:ab:=Vb a1
 (.br (ac a0)
 (.br (!(↑(List.length a1):Int)==(32:Int))
  (.ok ⟨dj,((z0,(21:Int),()),())⟩)
  (gd [z1] (.br (!Nat.blt (ab.nat z2) (ab.nat (numOf (Int.toNat a0)).fst))
   (.ok ⟨dj,((z0,(21:Int),()),())⟩)
   (gd [z1] (.ok ⟨dj,((z2,(0:Int),()),())⟩)))))
 (.ok ⟨dj,((z0,(20:Int),()),())⟩))
theorem WV (pre:qB->Bool) (F:qB->OT gz.Y) (hF:∀ (x:qB) oy,pre x=true->(F x).run=some oy->(Br x.1.1 x.1.2.1).run=some oy):aa ag 122 (gz.aw pre F):=
 cC YZ 122 Tryz.f122 gz [dj] bw (λx=>Br x.1.1 x.1.2.1) hF
def nS (b:aG):Bool:=(b.length:Int)==32
theorem IV {b:List UInt8}:nS b=true ↔ b.length=32:=by
 unfold nS
 rw [beq_iff_eq]
 omega
def JZ (_:qB):Bool:=true
def J0 (x:qB):OT gz.Y:=.br (ac x.1.1) (.br (nS x.1.2.1) (.br (Nat.blt (Vb x.1.2.1).nat (pS x.1.1)) (.ok ⟨dj,((Vb x.1.2.1,(0:Int),()),())⟩) (.ok ⟨dj,((⟨0,0,0,0⟩,(21:Int),()),())⟩))
 (.ok ⟨dj,((⟨0,0,0,0⟩,(21:Int),()),())⟩)) (.ok ⟨dj,((⟨0,0,0,0⟩,(20:Int),()),())⟩)
theorem WW {s:Int} {b:List UInt8} {N:ab} (hN:Vb b=N):(Br s b).run=(OT.br (ac s) (.br (nS b) (.br (Nat.blt N.nat (pS s)) (.ok ⟨dj,((N,(0:Int),()),())⟩) (.ok ⟨dj,((⟨0,0,0,0⟩,(21:Int),()),())⟩))
 (.ok ⟨dj,((⟨0,0,0,0⟩,(21:Int),()),())⟩)) (.ok ⟨dj,((⟨0,0,0,0⟩,(20:Int),()),())⟩):OT gz.Y).run:=by
 unfold Br
 simp only [hN]
 rcases (bX (ac s)).symm with hs|hs
 ·exact (OT.al hs).trans (OT.al (b:=ac s) hs).symm
 ·refine (OT.ak hs).trans (Eq.trans ?_ (OT.ak (b:=ac s) hs).symm)
  rcases (bX (nS b)).symm with hl|hl
  ·exact (OT.ak (b:= !nS b) (by rw [hl];rfl)).trans (OT.al (b:=nS b) hl).symm
  ·have hp:jP ((b,()),())=true:=aj (IV.1 hl)
   refine (OT.al (b:= !nS b) (by rw [hl];rfl)).trans (Eq.trans ?_ (OT.ak (b:=nS b) hl).symm)
   rw [hp]
   refine (ae rfl).trans ?_
   rcases (bX (Nat.blt N.nat (pS s))).symm with h|h
   ·exact (OT.ak (b:= !Nat.blt N.nat (pS s)) (by rw [h];rfl)).trans (OT.al (b:=Nat.blt N.nat (pS s)) h).symm
   ·exact (OT.al (b:= !Nat.blt N.nat (pS s)) (by rw [h];rfl)).trans ((ae rfl).trans (OT.ak (b:=Nat.blt N.nat (pS s)) h).symm)
theorem NL:aa ag 122 (gz.aw JZ J0):=WV _ _ λx oy hp ho=>by
 rw [<-ho]
 clear ho
 obtain ⟨⟨s,b,⟨⟩⟩,⟨⟩⟩:=x
 exact WW rfl
def tC:bi:=(gz.aw JZ J0)
theorem RC:aa ag 122 tC:=NL
theorem RB:au tC:=aq
def Y8:Env:=ap 122 tC avj
theorem aem:bI ag te Y8:=aP follows YZ RC RB
abbrev asv:af:=wA
def oA (x:ac5):Bool:=ac x.1.1
def asw (x:ac5):OT wA.Y:=.ok ⟨DT,((lQ (pS x.1.1) x.1.2.1 x.1.2.2.1,()),())⟩
theorem ayS:aa ag 69 (asv.aw oA asw):=cw (S:=wA) asx λx oy hp ho=>⟨rfl,(OT.ak (b:=ac x.1.1) hp).trans ho⟩
def DS:bi:=(asv.aw oA asw)
theorem ac4:aa ag 69 DS:=ayS
theorem ac3:au DS:=aq
def avy:Env:=ap 69 DS Y8
theorem ul:bI ag te avy:=aP follows aem ac4 ac3
end
section
theorem HV {α:Type} [BEq α] [LawfulBEq α]:∀ {l1 l2:List α},l1.Nodup->(∀ x ∈ l1,x ∈ l2)->l2.length<=l1.length->l1.Perm l2
 | [],l2,_,_,h=>by
  have:l2= []:=List.length_eq_zero_iff.1 (Nat.le_zero.1 h)
  rw [this]
 |a::t,l2,hn,hs,hl=>by
  have ha:a ∈ l2:=hs a (List.mem_cons_self ..)
  have hp:l2.Perm (a::l2.erase a):=List.perm_cons_erase ha
  rw [List.nodup_cons] at hn
  have hl2:=List.length_erase_of_mem ha
  have hpos:0<l2.length:=List.length_pos_of_mem ha
  have ih:t.Perm (l2.erase a):=HV hn.2 (λx hx=>by
   have hne:x≠a:=λe=>hn.1 (e▸hx)
   exact (List.mem_erase_of_ne hne).2 (hs x (List.mem_cons_of_mem _ hx))) (by rw [List.length_cons] at hl;omega)
  exact (ih.cons a).trans hp.symm
theorem AW {α:Type} [BEq α] [LawfulBEq α]:∀ {l1 l2:List α},l1.Nodup->(∀ x ∈ l1,x ∈ l2)->l1.length<=l2.length
 | [],l2,_,_=>Nat.zero_le _
 |a::t,l2,hn,hs=>by
  have ha:a ∈ l2:=hs a (List.mem_cons_self ..)
  rw [List.nodup_cons] at hn
  have hl2:=List.length_erase_of_mem ha
  have hpos:0<l2.length:=List.length_pos_of_mem ha
  have ih:=AW (l2:=l2.erase a) hn.2 (λx hx=>by
   have hne:x≠a:=λe=>hn.1 (e▸hx)
   exact (List.mem_erase_of_ne hne).2 (hs x (List.mem_cons_of_mem _ hx)))
  rw [List.length_cons]
  omega
def Pr (p:Nat):Prop:=2<=p/\∀ d,d∣p->d=1\/d=p
theorem Pr.pos {p:Nat} (h:Pr p):0<p:=by have:=h.1;omega
theorem Pr.cop {p a:Nat} (h:Pr p) (ha:¬p∣a):Nat.Coprime p a:=by
 rcases h.2 (Nat.gcd p a) (Nat.gcd_dvd_left ..) with e|e
 ·exact e
 ·exact absurd (e▸Nat.gcd_dvd_right p a) ha
theorem Pr.ahn {p a b:Nat} (h:Pr p) (hd:p∣a*b):p∣a\/p∣b:=by
 by_cases ha:p∣a
 ·exact .inl ha
 ·exact .inr ((h.cop ha).dvd_of_dvd_mul_left hd)
def we:List Nat->Nat
 | []=>1
 |a::l=>a*we l
theorem akU {l1 l2:List Nat} (h:l1.Perm l2):we l1=we l2:=by
 induction h with
 |nil=>rfl
 |cons x _ ih=>simp only [we,ih]
 |swap x y l=>simp only [we];rw [<-Nat.mul_assoc,<-Nat.mul_assoc,Nat.mul_comm x y]
 |trans _ _ a b=>exact a.trans b
theorem UK (p a:Nat):∀ l:List Nat,we (l.map λx=>a*x%p)%p=a^l.length*we l%p
 | []=>by simp [we]
 |x::l=>by
  have ih:=UK p a l
  simp only [List.map_cons,we,List.length_cons]
  rw [Nat.mul_mod,Nat.mod_mod,ih,<-Nat.mul_mod,Nat.pow_succ]
  congr 1
  rw [Nat.mul_assoc,Nat.mul_assoc,Nat.mul_left_comm x]
  rw [Nat.mul_left_comm a]
theorem UJ {p:Nat} (h:Pr p):∀ l:List Nat,(∀ x ∈ l,¬p∣x)->¬p∣we l
 | [],_,hd=>by
  have:=Nat.le_of_dvd (by decide) hd
  have:=h.1
  simp only [we] at*
  omega
 |x::l,hx,hd=>by
  rcases h.ahn hd with h1|h1
  ·exact hx x (List.mem_cons_self ..) h1
  ·exact UJ h l (λy hy=>hx y (List.mem_cons_of_mem _ hy)) h1
theorem alx {p a b:Nat} (hab:a<=b) (h:a%p=b%p):p∣b-a:=by
 have h1:=Nat.div_add_mod a p
 have h2:=Nat.div_add_mod b p
 refine ⟨b/p-a/p,?_⟩
 rw [Nat.mul_sub]
 omega
theorem pJ {p x:Nat} (h0:0<x) (h1:x<p):¬p∣x:=λh=>by
 have:=Nat.le_of_dvd h0 h
 omega
theorem arm {p a:Nat} (h:Pr p) (ha:¬p∣a) {x y:Nat} (hx:x<p) (hy:y<p) (e:a*x%p=a*y%p):x=y:=by
 have aux:∀ {x y:Nat},x<p->y<p->x<=y->a*x%p=a*y%p->x=y:=λ{x y} hx hy hxy e=>by
  have hd:=alx (Nat.mul_le_mul_left a hxy) e
  rw [<-Nat.mul_sub] at hd
  rcases h.ahn hd with h1|h1
  ·exact absurd h1 ha
  ·by_cases h0:y-x=0
   ·omega
   ·exact absurd h1 (pJ (by omega) (by omega))
 rcases Nat.le_total x y with hxy|hxy
 ·exact aux hx hy hxy e
 ·exact (aux hy hx hxy e.symm).symm
theorem sA {α β:Type} {f:α->β}:∀ {l:List α},l.Nodup->(∀ x ∈ l,∀ y ∈ l,f x=f y->x=y)->(l.map f).Nodup
 | [],_,_=>List.nodup_nil
 |a::l,hn,hi=>by
  rw [List.nodup_cons] at hn
  rw [List.map_cons,List.nodup_cons]
  refine ⟨λhm=> ?_,sA hn.2 λx hx y hy=>hi x (List.mem_cons_of_mem _ hx) y (List.mem_cons_of_mem _ hy)⟩
  obtain ⟨b,hb,e⟩:=List.mem_map.1 hm
  have:=hi a (List.mem_cons_self ..) b (List.mem_cons_of_mem _ hb) e.symm
  exact hn.1 (this▸hb)
theorem NI {p a:Nat} (h:Pr p) (ha:¬p∣a):a^(p-1)%p=1:=by
 have hp:=h.1
 have hn:(List.range' 1 (p-1)).Nodup:=List.nodup_range' ..
 have hm:((List.range' 1 (p-1)).map λx=>a*x%p).Nodup:=sA hn λx hx y hy e=>by
  rw [List.mem_range'_1] at hx hy
  exact arm h ha (by omega) (by omega) e
 have hperm:=HV (l2:=List.range' 1 (p-1)) hm (λy hy=>by
  obtain ⟨x,hx,rfl⟩:=List.mem_map.1 hy
  rw [List.mem_range'_1] at hx⊢
  have hlt:=Nat.mod_lt (a*x) h.pos
  have hne:a*x%p≠0:=λe=>by
   rcases h.ahn (Nat.dvd_of_mod_eq_zero e) with h1|h1
   ·exact ha h1
   ·exact pJ (by omega) (by omega) h1
  omega) (by rw [List.length_map];exact Nat.le_refl _)
 have e:=UK p a (List.range' 1 (p-1))
 rw [akU hperm,List.length_range'] at e
 have hnot:¬p∣we (List.range' 1 (p-1)):=UJ h _ λx hx=>by
  rw [List.mem_range'_1] at hx
  exact pJ (by omega) (by omega)
 have hmul:∀ z,z*we (List.range' 1 (p-1))%p=we (List.range' 1 (p-1))*(z%p)%p:=λz=>by
  rw [Nat.mul_comm,Nat.mul_mod_mod]
 rw [hmul] at e
 have e1:we (List.range' 1 (p-1))%p=we (List.range' 1 (p-1))*1%p:=by rw [Nat.mul_one]
 rw [e1] at e
 exact (arm h hnot (by omega) (Nat.mod_lt _ h.pos) e).symm
theorem IW:∀ (k n:Nat),2<=n->n<=k->∃ r,Pr r/\r∣n
 |0,n,h2,hk=>by omega
 |k+1,n,h2,hk=>by
  by_cases hp:Pr n
  ·exact ⟨n,hp,Nat.dvd_refl _⟩
  ·have:∃ d,d∣n/\d≠1/\d≠n:=by
    apply la
    intro hc
    refine hp ⟨h2,λd hd=> ?_⟩
    apply la
    intro hd2
    exact hc ⟨d,hd,λe=>hd2 (.inl e),λe=>hd2 (.inr e)⟩
   obtain ⟨d,hd,h1,h3⟩:=this
   have hle:=Nat.le_of_dvd (by omega) hd
   have h0:d≠0:=λe=>by subst e;have:=Nat.eq_zero_of_zero_dvd hd;omega
   obtain ⟨r,hr,hrd⟩:=IW k d (by omega) (by omega)
   exact ⟨r,hr,Nat.dvd_trans hrd hd⟩
theorem TS {n:Nat} (h2:2<=n) (hp:¬Pr n):∃ r,Pr r/\r∣n/\r*r<=n:=by
 have:∃ d,d∣n/\d≠1/\d≠n:=by
  apply la
  intro hc
  refine hp ⟨h2,λd hd=> ?_⟩
  apply la
  intro hd2
  exact hc ⟨d,hd,λe=>hd2 (.inl e),λe=>hd2 (.inr e)⟩
 obtain ⟨d,⟨e,rfl⟩,h1,h3⟩:=this
 have hd0:d≠0:=λe'=>by subst e';omega
 have he0:e≠0:=λe'=>by subst e';omega
 have he1:e≠1:=λe'=>by subst e';omega
 rcases Nat.le_total d e with hde|hde
 ·obtain ⟨r,hr,hrd⟩:=IW d d (by omega) (Nat.le_refl _)
  have hle:=Nat.le_of_dvd (by omega) hrd
  exact ⟨r,hr,Nat.dvd_trans hrd (Nat.dvd_mul_right ..),gC (Nat.mul_le_mul hle hle) (Nat.mul_le_mul_left d hde)⟩
 ·obtain ⟨r,hr,hrd⟩:=IW e e (by omega) (Nat.le_refl _)
  have hle:=Nat.le_of_dvd (by omega) hrd
  exact ⟨r,hr,Nat.dvd_trans hrd (Nat.dvd_mul_left ..),gC (Nat.mul_le_mul hle hle) (cf e hde)⟩
theorem aDy {r a:Nat} (hr:2<=r) (m k:Nat):a^m%r=1->a^k%r=1->a^Nat.gcd m k%r=1:=by
 induction m,k using Nat.gcd.induction with
 |H0 n=>intro _ h;rw [Nat.gcd_zero_left];exact h
 |H1 m n hm ih=>
  intro h1 h2
  rw [Nat.gcd_rec]
  refine ih ?_ h1
  have e:a^n%r=a^(n%m)%r:=by
   conv=>lhs;rw [<-Nat.div_add_mod n m,Nat.pow_add,Nat.pow_mul,Nat.mul_mod,Nat.pow_mod,h1,Nat.one_pow,bj (show 1<r by omega),Nat.one_mul,Nat.mod_mod]
  rw [<-e]
  exact h2
theorem axj {n q e a m:Nat} (hn2:2<=n) (hq:Pr q) (he:n-1=q^(e+1)*m) (h1:a^(n-1)%n=1) (h2:Nat.gcd (a^(q^e*m)%n+n-1) n=1)
 {r:Nat} (hr:Pr r) (hd:r∣n):q^(e+1)∣r-1:=by
 have hr2:=hr.1
 have ha1:a^(n-1)%r=1:=by
  have:=congrArg (· %r) h1
  simp only [Nat.mod_mod_of_dvd _ hd] at this
  rw [this,bj (by omega)]
 have hna:¬r∣a:=λh=>by
  have:r∣a^(n-1):=Nat.dvd_trans h (by
   have:=Nat.pow_dvd_pow a (show 1<=n-1 by omega)
   rwa [Nat.pow_one] at this)
  rw [Nat.mod_eq_zero_of_dvd this] at ha1
  omega
 have hg:=aDy hr2 _ _ ha1 (NI hr hna)
 obtain ⟨h,hh⟩:=Nat.gcd_dvd_left (n-1) (r-1)
 by_cases hqh:q∣h
 ·obtain ⟨k,rfl⟩:=hqh
  have hk:q^e*m=Nat.gcd (n-1) (r-1)*k:=by
   have:q*(q^e*m)=q*(Nat.gcd (n-1) (r-1)*k):=by
    rw [<-Nat.mul_assoc,<-Nat.pow_succ',<-he,Nat.mul_left_comm q,<-hh]
   exact Nat.eq_of_mul_eq_mul_left hq.pos this
  have hone:a^(q^e*m)%r=1:=by
   rw [hk,Nat.pow_mul,Nat.pow_mod,hg,Nat.one_pow,bj (by omega)]
  have hmn:a^(q^e*m)%n%r=1:=by rw [Nat.mod_mod_of_dvd _ hd,hone]
  have hdv:r∣a^(q^e*m)%n+n-1:=by
   obtain ⟨c,rfl⟩:=hd
   have:=Nat.div_add_mod (a^(q^e*m)%(r*c)) r
   refine ⟨a^(q^e*m)%(r*c)/r+c,?_⟩
   rw [Nat.mul_add]
   omega
  have:=Nat.dvd_gcd hdv hd
  rw [h2] at this
  have:=Nat.le_of_dvd (by decide) this
  omega
 ·have hc:Nat.Coprime (q^(e+1)) h:=Nat.Coprime.pow_left _ (hq.cop hqh)
  have hdg:q^(e+1)∣Nat.gcd (n-1) (r-1)*h:=by rw [<-hh,he];exact Nat.dvd_mul_right ..
  exact Nat.dvd_trans (hc.dvd_of_dvd_mul_right hdg) (Nat.gcd_dvd_right ..)
theorem axk {n F:Nat} (h2:2<=n) (hF:n<F*F) (h:∀ r,Pr r->r∣n->F∣r-1):Pr n:=by
 apply la
 intro hp
 obtain ⟨r,hr,hd,hle⟩:=TS h2 hp
 have h1:=hr.1
 have:=Nat.le_of_dvd (by omega) (h r hr hd)
 have:F*F<=r*r:=Nat.mul_le_mul (by omega) (by omega)
 omega
def Wy {α:Type} (n:Nat) (f:Nat->α):α:=match n with
 |0=>f 0
 |k+1=>f (k+1)
theorem Wx {α:Type} (n:Nat) (f:Nat->α):Wy n f=f n:=by cases n<;>rfl
def pw (n:Nat):Nat->Nat->Nat->Nat->Nat
 |0,o,_,_=>o
 |f+1,o,x,k=>Wy k λk=>cond (Nat.beq k 0) o (Wy (x*x%n) λy=>Wy (cond (Nat.beq (k%2) 1) (o*x%n) o) λo=>pw n f o y (k/2))
theorem aDq {p:Nat}:∀ (n o x k:Nat),k<2^n->o<p->pw p n o x k=o*x^k%p
 |0,o,x,k,hk,ho=>by
  have:k=0:=by omega
  subst this
  show o=_
  rw [Nat.pow_zero,Nat.mul_one,bj ho]
 |n+1,o,x,k,hk,ho=>by
  unfold pw
  simp only [Wx]
  rw [Nat.pow_succ] at hk
  cases h0:Nat.beq k 0
  ·simp only [bo]
   have hsq:(x*x%p)^(k/2)%p=x^(2*(k/2))%p:=by
    rw [<-Nat.pow_mod,Nat.pow_mul,Nat.pow_two]
   cases h1:Nat.beq (k%2) 1
   ·have h1':¬k%2=1:=λe=>by rw [e] at h1;cases h1
    simp only [bo]
    rw [aDq n _ _ _ (by omega) ho,Nat.mul_mod,hsq,<-Nat.mul_mod,show 2*(k/2)=k by omega]
   ·have h1:=aX h1
    simp only [aV]
    rw [aDq n _ _ _ (by omega) (Nat.mod_lt _ (by omega)),Nat.mul_mod,hsq,Nat.mod_mod,<-Nat.mul_mod,Nat.mul_assoc,<-Nat.pow_succ',show (2*(k/2)).succ=k by omega]
  ·have h0:=aX h0
   subst h0
   simp only [aV]
   rw [Nat.pow_zero,Nat.mul_one,bj ho]
def pwm (n a k:Nat):Nat:=pw n 256 1 (a%n) k
theorem af2 {n:Nat} (hn:2<=n) {a k:Nat} (hk:Nat.blt k (2^256)=true):pwm n a k=a^k%n:=by
 have hk':k<2^256:=Nat.le_of_ble_eq_true hk
 unfold pwm
 rw [aDq 256 1 _ _ hk' (by omega),Nat.one_mul,<-Nat.pow_mod]
def aFR (n q e a m:Nat):Bool:=Nat.beq (n-1) (q^(e+1)*m)&&(Nat.blt n (2^256)&&(Nat.beq (pwm n a (n-1)) 1&&Nat.beq (Nat.gcd (pwm n a (q^e*m)+n-1) n) 1))
theorem fU {n q e a m:Nat} (h2:2<=n) (hq:Pr q) (h:aFR n q e a m=true) {r:Nat} (hr:Pr r) (hd:r∣n):q^(e+1)∣r-1:=by
 simp only [aFR,av] at h
 obtain ⟨h1,h3,h4,h5⟩:=h
 have h1:=aX h1
 have h3:n<2^256:=Nat.le_of_ble_eq_true h3
 have hm:q^e*m<=n-1:=by
  rw [h1,Nat.pow_succ,Nat.mul_right_comm]
  exact Nat.le_mul_of_pos_right _ hq.pos
 rw [af2 h2 (lb (show n-1+1<=2^256 by omega))] at h4
 rw [af2 h2 (lb (show q^e*m+1<=2^256 by omega))] at h5
 exact axj h2 hq h1 (aX h4) (aX h5) hr hd
def aG3 (n:Nat):Nat->Nat->Bool
 |0,_=>false
 |f+1,d=>Wy d λd=>cond (Nat.blt n (d*d)) true (cond (Nat.beq (n%d) 0) false (aG3 n f (d+1)))
theorem aoz {n:Nat}:∀ (f d:Nat),aG3 n f d=true->0<d->(∀ x,1<x->x<d->¬x∣n)->∀ x,1<x->x*x<=n->¬x∣n
 |0,d,h,_,_=>by cases h
 |f+1,d,h,hd0,hb=>by
  unfold aG3 at h
  rw [Wx] at h
  cases h1:Nat.blt n (d*d)
  ·rw [h1] at h
   cases h2:Nat.beq (n%d) 0
   ·rw [h2] at h
    refine aoz f (d+1) h (by omega) λx hx hxd hdv=> ?_
    by_cases hxd2:x=d
    ·subst hxd2
     rw [Nat.mod_eq_zero_of_dvd hdv] at h2
     cases h2
    ·exact hb x hx (by omega) hdv
   ·rw [h2] at h;cases h
  ·have h1:n<d*d:=Nat.le_of_ble_eq_true h1
   intro x hx hxx
   refine hb x hx ?_
   apply la
   intro hc
   have:=Nat.mul_le_mul (show d<=x by omega) (show d<=x by omega)
   omega
theorem zW {n:Nat} (f:Nat) (h2:2<=n) (h:aG3 n f 2=true):Pr n:=by
 apply la
 intro hp
 obtain ⟨r,hr,hd,hle⟩:=TS h2 hp
 have:=hr.1
 exact aoz f 2 h (by decide) (λx a b=>by omega) r (by omega) hle hd
end
end Go.Proofs.YthnnknnbfhkomaaGreat
set_option maxRecDepth 100000
namespace Go.Proofs.YthnnknnbfhkomaaGreat
theorem xC:Pr 16513537:=zW 4065 (by decide) (by decide+kernel)
theorem xB:Pr 16521217:=zW 4066 (by decide) (by decide+kernel)
theorem apQ:Pr 772231:=zW 880 (by decide) (by decide+kernel)
theorem apR:Pr 413527:=zW 645 (by decide) (by decide+kernel)
theorem Aw:Pr 325086459374267:=axk (F:=319338368737) (by decide) (by decide+kernel) λr hr hd=>by
 have h0:772231∣r-1:=fU (n:=325086459374267) (q:=772231) (e:=0) (a:=2) (m:=420970486) (by decide) apQ (by decide+kernel) hr hd
 have h1:413527∣r-1:=fU (n:=325086459374267) (q:=413527) (e:=0) (a:=2) (m:=786131158) (by decide) apR (by decide+kernel) hr hd
 have k1:319338368737∣r-1:=Nat.Coprime.mul_dvd_of_dvd_of_dvd (m:=772231) (n:=413527) (show Nat.gcd 772231 413527=1 by decide+kernel) h0 h1
 exact k1
theorem akV:Pr 6942563:=zW 2636 (by decide) (by decide+kernel)
theorem aaR:Pr 41655379:=axk (F:=6942563) (by decide) (by decide+kernel) λr hr hd=>by
 have h0:6942563∣r-1:=fU (n:=41655379) (q:=6942563) (e:=0) (a:=2) (m:=6) (by decide) akV (by decide+kernel) hr hd
 exact h0
theorem LJ:Pr 22160661629:=axk (F:=41655379) (by decide) (by decide+kernel) λr hr hd=>by
 have h0:41655379∣r-1:=fU (n:=22160661629) (q:=41655379) (e:=0) (a:=2) (m:=532) (by decide) aaR (by decide+kernel) hr hd
 exact h0
theorem eF:Pr 8999194758858563409123804352480028797519453:=axk (F:=7204131026362786056900943) (by decide) (by decide+kernel) λr hr hd=>by
 have h0:325086459374267∣r-1:=fU (n:=8999194758858563409123804352480028797519453) (q:=325086459374267) (e:=0) (a:=2) (m:=27682465692912573825889481556) (by decide) Aw (by decide+kernel) hr hd
 have h1:22160661629∣r-1:=fU (n:=8999194758858563409123804352480028797519453) (q:=22160661629) (e:=0) (a:=2) (m:=406088721966766121824069856270988) (by decide) LJ (by decide+kernel) hr hd
 have k1:7204131026362786056900943∣r-1:=Nat.Coprime.mul_dvd_of_dvd_of_dvd (m:=325086459374267) (n:=22160661629) (show Nat.gcd 325086459374267 22160661629=1 by decide+kernel) h0 h1
 exact k1
theorem aN:Pr 28948022309329048855892746252171976963363056481941560715954676764349967630337:=axk (F:=8999194758858563409123804352480028797519453) (by decide) (by decide+kernel) λr hr hd=>by
 have h0:8999194758858563409123804352480028797519453∣r-1:=fU (n:=28948022309329048855892746252171976963363056481941560715954676764349967630337) (q:=8999194758858563409123804352480028797519453) (e:=0) (a:=2) (m:=3216734728497058061019394250637312) (by decide) eF (by decide+kernel) hr hd
 exact h0
theorem axg:Pr 31649:=zW 179 (by decide) (by decide+kernel)
theorem axh:Pr 12149:=zW 112 (by decide) (by decide+kernel)
theorem FE:Pr 5239247429827:=axk (F:=384503701) (by decide) (by decide+kernel) λr hr hd=>by
 have h0:31649∣r-1:=fU (n:=5239247429827) (q:=31649) (e:=0) (a:=2) (m:=165542274) (by decide) axg (by decide+kernel) hr hd
 have h1:12149∣r-1:=fU (n:=5239247429827) (q:=12149) (e:=0) (a:=2) (m:=431249274) (by decide) axh (by decide+kernel) hr hd
 have k1:384503701∣r-1:=Nat.Coprime.mul_dvd_of_dvd_of_dvd (m:=31649) (n:=12149) (show Nat.gcd 31649 12149=1 by decide+kernel) h0 h1
 exact k1
theorem akW:Pr 5701177:=zW 2389 (by decide) (by decide+kernel)
theorem UM:Pr 399082391:=axk (F:=5701177) (by decide) (by decide+kernel) λr hr hd=>by
 have h0:5701177∣r-1:=fU (n:=399082391) (q:=5701177) (e:=0) (a:=2) (m:=70) (by decide) akW (by decide+kernel) hr hd
 exact h0
theorem gM:Pr 10427374428728808478656897599072717:=axk (F:=2090891391335963876357) (by decide) (by decide+kernel) λr hr hd=>by
 have h0:5239247429827∣r-1:=fU (n:=10427374428728808478656897599072717) (q:=5239247429827) (e:=0) (a:=2) (m:=1990242791238649418308) (by decide) FE (by decide+kernel) hr hd
 have h1:399082391∣r-1:=fU (n:=10427374428728808478656897599072717) (q:=399082391) (e:=0) (a:=2) (m:=26128375152309860944621076) (by decide) UM (by decide+kernel) hr hd
 have k1:2090891391335963876357∣r-1:=Nat.Coprime.mul_dvd_of_dvd_of_dvd (m:=5239247429827) (n:=399082391) (show Nat.gcd 5239247429827 399082391=1 by decide+kernel) h0 h1
 exact k1
theorem aIu:Pr 2:=zW 3 (by decide) (by decide+kernel)
theorem aM:Pr 28948022309329048855892746252171976963363056481941647379679742748393362948097:=axk (F:=44785232154536915268878889192838239440863232) (by decide) (by decide+kernel) λr hr hd=>by
 have h0:10427374428728808478656897599072717∣r-1:=fU (n:=28948022309329048855892746252171976963363056481941647379679742748393362948097) (q:=10427374428728808478656897599072717) (e:=0) (a:=2) (m:=2776156405161148062854777934377771323097088) (by decide) gM (by decide+kernel) hr hd
 have h1:4294967296∣r-1:=fU (n:=28948022309329048855892746252171976963363056481941647379679742748393362948097) (q:=2) (e:=31) (a:=5) (m:=6739986666787659948666753771754907668419893943225417141728043264801) (by decide) aIu (by decide+kernel) hr hd
 have k1:44785232154536915268878889192838239440863232∣r-1:=Nat.Coprime.mul_dvd_of_dvd_of_dvd (m:=10427374428728808478656897599072717) (n:=4294967296) (show Nat.gcd 10427374428728808478656897599072717 4294967296=1 by decide+kernel) h0 h1
 exact k1
end Go.Proofs.YthnnknnbfhkomaaGreat
namespace Go.Proofs.YthnnknnbfhkomaaGreat
section
set_option maxRecDepth 100000
theorem dz (p:Int):p∣0:=Int.dvd_zero p
theorem dc {p a b:Int} (c:Int) (h:p∣a) (k:p∣b):p∣c*a+b:=Int.dvd_add (Int.dvd_trans h (Int.dvd_mul_left ..)) k
theorem dk {p a K:Int} (h:p∣a) (e:K=a):p∣K:=e▸h
theorem aFA {p y3 x3 b y1 y2 x1 x2 l:Int} (h0:p∣y3-(l*(x1-x3)-y1)) (h1:p∣x3-(l*l-x1-x2)) (h2:p∣l*(x1-x2)-(y1-y2)) (h3:p∣l*(y1+y2)-(x1*x1+x1*x2+x2*x2)) (h4:p∣y1*y1-x1*x1*x1-b):p∣(y3*y3-x3*x3*x3-b):=
 dk (dc (y3-x3*l+x1*l-y1) h0 (dc (-x3*x3+x3*x1+x3*x2-x1*l*l+x2*l*l-x1*x1-2*x1*x2-x2*x2+2*y1*l) h1 (dc (-l*l*l+2*x1*l+x2*l) h2 (dc (l*l-2*x1-x2) h3 (dc (1) h4 (dz p)))))) (by clear h0 h1 h2 h3 h4;grind)
theorem aCL {p y3 x3 y1 y2 x1 x2 l:Int} (h0:p∣y3-(l*(x1-x3)-y1)) (h1:p∣l*(x1-x2)-(y1-y2)):p∣(y3-(l*(x2-x3)-y2)):=
 dk (dc (1) h0 (dc (1) h1 (dz p))) (by clear h0 h1;grind)
theorem aGM {p y3 x3 y1 y2 x1 x2 l:Int} (h0:p∣y3-(l*(x1-x3)-y1)) (h1:p∣x3-(l*l-x1-x2)) (h2:p∣l*(x1-x2)-(y1-y2)) (h3:p∣l*(y1+y2)-(x1*x1+x1*x2+x2*x2)):p∣((-l)*((-y1)+y3)-(x1*x1+x1*x3+x3*x3)):=
 dk (dc (-l) h0 (dc (-x3+x2) h1 (dc (-l) h2 (dc (1) h3 (dz p))))) (by clear h0 h1 h2 h3;grind)
theorem ato {p b y1 y2 x1 x2 l:Int} (h0:p∣y1*y1-x1*x1*x1-b) (h1:p∣y2*y2-x2*x2*x2-b) (h2:p∣l*(x1-x2)-(y1-y2)):p∣(x1-x2)*(l*(y1+y2)-(x1*x1+x1*x2+x2*x2)):=
 dk (dc (1) h0 (dc (-1) h1 (dc (y1+y2) h2 (dz p)))) (by clear h0 h1 h2;grind)
theorem aGP {p x7 x5 yt xt ys xs y1 y3 L M l m x1 x3 y2 x2:Int} (h0:p∣l*(x1-x2)-(y1-y2)) (h1:p∣m*(x2-x3)-(y2-y3)) (h2:p∣xs-(l*l-x1-x2)) (h3:p∣ys-(l*(x1-xs)-y1)) (h4:p∣xt-(m*m-x2-x3)) (h5:p∣yt-(m*(x2-xt)-y2)) (h6:p∣x5-(L*L-xs-x3)) (h7:p∣x7-(M*M-x1-xt)) (h8:p∣l*(y1+y2)-(x1*x1+x1*x2+x2*x2)) (h9:p∣m*(y2+y3)-(x2*x2+x2*x3+x3*x3)) (h10:p∣L*(xs-x3)-(ys-y3)) (h11:p∣M*(x1-xt)-(y1-yt)):p∣((xs-x3)*(x1-xt))*(x5-x7):=
 dk (dc (-L*l*l-l*l*l-L*l*m-M*l*m-l*l*m-L*m*m+L*x1-M*x1+2*l*x1+2*m*x1+L*x3-M*x3+L*x2-M*x2+l*x2+m*x2) h0 (dc (-L*l*m-M*l*m-l*l*m-M*m*m-l*m*m-m*m*m-L*x1+m*x1-L*x3+l*x3+2*m*x3-L*x2+2*l*x2+3*m*x2-2*y2) h1 (dc (x7*xt-x7*x1-x5*xt+x5*x1+L*L*m*m-L*L*x1-L*l*x1-l*l*x1-L*m*x1-l*m*x1-m*m*x1-L*L*x3-m*m*x3-L*L*x2+L*l*x2+l*l*x2+L*m*x2+l*m*x2-m*m*x2+x1*x1+2*x1*x3+x3*x3-2*L*y2-2*l*y2+2*x1*x2+2*x3*x2+x2*x2) h2 (dc (-L*m*m+l*m*m+L*x1+m*x1+L*x3-l*x3+L*x2-2*l*x2-m*x2+2*y2) h3 (dc (x7*l*l-x7*x1-x7*x3-x7*x2-x5*l*l+x5*x1+x5*x3+x5*x2-M*M*l*l+M*M*x1+l*l*x1+M*M*x3+M*l*x3+l*l*x3+M*m*x3+l*m*x3+m*m*x3+M*M*x2-M*l*x2+l*l*x2-M*m*x2-l*m*x2-m*m*x2-x1*x1-2*x1*x3-x3*x3+2*M*y2+2*m*y2-2*x1*x2-2*x3*x2-x2*x2) h4 (dc (M*l*l-l*l*m-M*x1+m*x1-M*x3-l*x3-M*x2+l*x2+2*m*x2-2*y2) h5 (dc (-l*l*m*m+l*l*x1+m*m*x1+l*l*x3+m*m*x3+l*l*x2+m*m*x2-x1*x1-2*x1*x3-x3*x3-2*x1*x2-2*x3*x2-x2*x2) h6 (dc (l*l*m*m-l*l*x1-m*m*x1-l*l*x3-m*m*x3-l*l*x2-m*m*x2+x1*x1+2*x1*x3+x3*x3+2*x1*x2+2*x3*x2+x2*x2) h7 (dc (-L*l-M*l-l*l-L*m-M*m-m*m+2*x1+2*x3+2*x2) h8 (dc (L*l+M*l+l*l+L*m+M*m+m*m-2*x1-2*x3-2*x2) h9 (dc (-L*m*m+l*m*m+L*x1+m*x1+L*x3-l*x3+L*x2-2*l*x2-m*x2+2*y2) h10 (dc (-M*l*l+l*l*m+M*x1-m*x1+M*x3+l*x3+M*x2-l*x2-2*m*x2+2*y2) h11 (dz p))))))))))))) (by clear h0 h1 h2 h3 h4 h5 h6 h7 h8 h9 h10 h11;grind)
theorem aGO {p y7 x7 y5 x5 yt xt ys xs y1 y3 L M l m x1 x3 y2 x2:Int} (h0:p∣l*(x1-x2)-(y1-y2)) (h1:p∣m*(x2-x3)-(y2-y3)) (h2:p∣xs-(l*l-x1-x2)) (h3:p∣ys-(l*(x1-xs)-y1)) (h4:p∣xt-(m*m-x2-x3)) (h5:p∣yt-(m*(x2-xt)-y2)) (h6:p∣x5-(L*L-xs-x3)) (h7:p∣y5-(L*(xs-x5)-ys)) (h8:p∣x7-(M*M-x1-xt)) (h9:p∣y7-(M*(x1-x7)-y1)) (h10:p∣l*(y1+y2)-(x1*x1+x1*x2+x2*x2)) (h11:p∣m*(y2+y3)-(x2*x2+x2*x3+x3*x3)) (h12:p∣L*(xs-x3)-(ys-y3)) (h13:p∣M*(x1-xt)-(y1-yt)) (h14:p∣x5-x7):p∣((xs-x3)*(x1-xt))*(y5-y7):=
 dk (dc (-L*L*L*l+L*M*M*l-2*L*L*l*l-L*M*l*l+M*M*l*l-M*l*l*l+l*l*l*l-L*L*l*m-L*M*l*m+M*M*l*m-2*L*l*l*m-M*l*l*m-l*l*l*m+L*L*m*m-3*L*l*m*m+M*l*m*m-3*l*l*m*m-M*l*x1-2*l*l*x1+L*m*x1+l*m*x1+2*m*m*x1-L*L*x3+M*M*x3+2*L*l*x3-3*M*l*x3+3*l*l*x3-L*m*x3-2*M*m*x3+l*m*x3-m*m*x3-2*L*L*x2+2*M*M*x2+L*l*x2-2*M*l*x2+2*l*l*x2-M*m*x2-2*l*m*x2-4*m*m*x2+2*x1*x1+2*x3*x3+6*m*y2-x1*x2+5*x3*x2+x2*x2) h0 (dc (L*L*l*m-L*M*l*m-M*M*l*m-M*l*l*m-l*l*l*m-L*M*m*m-M*M*m*m-L*l*m*m-2*M*l*m*m-2*l*l*m*m-L*m*m*m-l*m*m*m+m*m*m*m+M*M*x1-2*L*l*x1-M*l*x1-2*L*m*x1-2*M*m*x1+3*l*m*x1+L*L*x3-L*l*x3-l*l*x3-L*m*x3-M*m*x3+2*L*L*x2-M*M*x2+M*l*x2-2*l*l*x2+3*x1*x3-2*L*y2-2*M*y2+2*m*y2+6*x1*x2+3*x2*x2) h1 (dc (y7*xt-y7*x1-y5*xt+y5*x1-L*L*L*m*m+L*M*M*x1-2*L*L*l*x1-L*M*l*x1+M*M*l*x1-M*l*l*x1+l*l*l*x1-L*L*m*x1-L*M*m*x1-2*L*l*m*x1-M*l*m*x1-l*l*m*x1-2*L*m*m*x1-3*l*m*m*x1+L*L*L*x3+2*L*m*m*x3+l*m*m*x3+2*L*L*L*x2-L*M*M*x2+2*L*L*l*x2+L*M*l*x2-M*M*l*x2+M*l*l*x2-l*l*l*x2+L*L*m*x2+L*M*m*x2+2*L*l*m*x2+M*l*m*x2+l*l*m*x2+3*L*m*m*x2+2*l*m*m*x2-2*L*x1*x1-l*x1*x1+3*l*x1*x3+m*x1*x3-2*L*x3*x3-l*x3*x3-2*L*L*y2-2*L*M*y2-2*M*l*y2+2*l*l*y2-4*L*m*y2+L*x1*x2+2*l*x1*x2-m*x1*x2-5*L*x3*x2-4*l*x3*x2-m*x3*x2-L*x2*x2-5*l*x2*x2-5*m*x2*x2+2*x1*y2+4*x3*y2+6*y2*x2) h2 (dc (L*L*m*m-L*l*m*m-M*M*x1+2*L*l*x1+M*l*x1-l*l*x1+L*m*x1+M*m*x1+l*m*x1+3*m*m*x1-L*L*x3+L*l*x3-m*m*x3-2*L*L*x2+M*M*x2-M*l*x2+l*l*x2-L*m*x2-M*m*x2-l*m*x2-2*m*m*x2+x1*x1-x1*x3+x3*x3+2*L*y2+2*M*y2+4*m*y2-4*x1*x2+2*x3*x2-2*x2*x2) h3 (dc (y7*l*l-y7*x1-y7*x3-y7*x2-y5*l*l+y5*x1+y5*x3+y5*x2+M*M*M*l*l-M*M*M*x1-M*l*l*x1-M*M*M*x3+L*M*l*x3+M*M*l*x3+M*l*l*x3+L*M*m*x3+M*M*m*x3+L*l*m*x3+2*M*l*m*x3+2*l*l*m*x3+L*m*m*x3+l*m*m*x3-m*m*m*x3-M*M*M*x2-L*M*l*x2-M*M*l*x2-3*M*l*l*x2-L*M*m*x2-M*M*m*x2-L*l*m*x2-2*M*l*m*x2-2*l*l*m*x2-L*m*m*x2-l*m*m*x2+m*m*m*x2+M*x1*x1-L*x1*x3+3*M*x1*x3-2*l*x1*x3+M*x3*x3+2*L*M*y2+2*M*M*y2-2*L*l*y2+6*M*l*y2-2*l*l*y2+2*L*m*y2+2*l*m*y2-2*m*m*y2+L*x1*x2+M*x1*x2+2*l*x1*x2+L*x3*x2+M*x3*x2+2*l*x3*x2+2*L*x2*x2-M*x2*x2+7*l*x2*x2+3*m*x2*x2-2*x1*y2-4*x3*y2-6*y2*x2) h4 (dc (-M*M*l*l+M*l*l*m+M*M*x1-M*m*x1+M*M*x3-L*l*x3-M*l*x3-2*l*l*x3-L*m*x3-2*M*m*x3-l*m*x3+m*m*x3+M*M*x2+L*l*x2+M*l*x2+2*l*l*x2+L*m*x2+l*m*x2-m*m*x2-x1*x3-2*L*y2-2*M*y2-6*l*y2+2*m*y2+x1*x2+x3*x2+2*x2*x2) h5 (dc (L*l*l*m*m-L*l*l*x1-L*m*m*x1-L*l*l*x3-L*m*m*x3-L*l*l*x2-L*m*m*x2+L*x1*x1+L*x1*x3-2*l*x1*x3-m*x1*x3+L*x3*x3-2*L*l*y2-2*l*l*y2-4*l*m*y2+3*L*x1*x2+2*l*x1*x2+m*x1*x2+3*L*x3*x2+2*l*x3*x2+m*x3*x2+3*L*x2*x2+7*l*x2*x2+5*m*x2*x2-2*x1*y2-4*x3*y2-6*y2*x2) h6 (dc (-l*l*m*m+l*l*x1+m*m*x1+l*l*x3+m*m*x3+l*l*x2+m*m*x2-x1*x1-2*x1*x3-x3*x3-2*x1*x2-2*x3*x2-x2*x2) h7 (dc (-M*l*l*m*m+M*l*l*x1+M*m*m*x1+M*l*l*x3+M*m*m*x3+M*l*l*x2+M*m*m*x2-M*x1*x1+L*x1*x3-2*M*x1*x3+2*l*x1*x3+m*x1*x3-M*x3*x3+2*L*l*y2+2*l*l*y2+4*l*m*y2-L*x1*x2-2*M*x1*x2-2*l*x1*x2-m*x1*x2-L*x3*x2-2*M*x3*x2-2*l*x3*x2-m*x3*x2-2*L*x2*x2-M*x2*x2-7*l*x2*x2-5*m*x2*x2+2*x1*y2+4*x3*y2+6*y2*x2) h8 (dc (l*l*m*m-l*l*x1-m*m*x1-l*l*x3-m*m*x3-l*l*x2-m*m*x2+x1*x1+2*x1*x3+x3*x3+2*x1*x2+2*x3*x2+x2*x2) h9 (dc (-L*L*L+L*M*M-2*L*L*l-L*M*l+2*M*M*l-M*l*l+l*l*l-L*L*m-L*M*m+M*M*m-2*L*l*m-2*M*l*m-l*l*m-2*L*m*m+M*m*m-4*l*m*m-2*L*x1-2*M*x1+2*L*x3-2*M*x3+6*l*x3+2*m*x3-2*M*x2-2*m*x2+6*y2) h10 (dc (-L*L*l+L*M*l+M*M*l+M*l*l+l*l*l-L*L*m+L*M*m+M*M*m+2*L*l*m+2*M*l*m+3*l*l*m+L*m*m+l*m*m-m*m*m+L*x1+M*x1-4*l*x1-4*m*x1+L*x3+M*x3+L*x2+M*x2+l*x2+m*x2-6*y2) h11 (dc (L*L*m*m-L*l*m*m-l*l*m*m-M*M*x1+2*L*l*x1+M*l*x1+L*m*x1+M*m*x1+l*m*x1+4*m*m*x1-L*L*x3+L*l*x3+l*l*x3-2*L*L*x2+M*M*x2-M*l*x2+2*l*l*x2-L*m*x2-M*m*x2-l*m*x2-m*m*x2-3*x1*x3+2*L*y2+2*M*y2+4*m*y2-6*x1*x2-3*x2*x2) h12 (dc (M*M*l*l-M*l*l*m-M*M*x1+M*m*x1-M*M*x3+L*l*x3+M*l*x3+2*l*l*x3+L*m*x3+2*M*m*x3+l*m*x3-m*m*x3-M*M*x2-L*l*x2-M*l*x2-2*l*l*x2-L*m*x2-l*m*x2+m*m*x2+x1*x3+2*L*y2+2*M*y2+6*l*y2-2*m*y2-x1*x2-x3*x2-2*x2*x2) h13 (dc (L*x1*x3+2*l*x1*x3+m*x1*x3+2*L*l*y2+2*l*l*y2+4*l*m*y2-L*x1*x2-2*l*x1*x2-m*x1*x2-L*x3*x2-2*l*x3*x2-m*x3*x2-2*L*x2*x2-7*l*x2*x2-5*m*x2*x2+2*x1*y2+4*x3*y2+6*y2*x2) h14 (dz p)))))))))))))))) (by clear h0 h1 h2 h3 h4 h5 h6 h7 h8 h9 h10 h11 h12 h13 h14;grind)
theorem aGR {p x7 x5 yt xt ys xs y1 y3 L M l m x1 x3 y2 x2:Int} (h0:p∣l*(x1-x2)-(y1-y2)) (h1:p∣m*(x2-x3)-(y2-y3)) (h2:p∣xs-(l*l-x1-x2)) (h3:p∣ys-(l*(x1-xs)-y1)) (h4:p∣xt-(m*m-x2-x3)) (h5:p∣yt-(m*(x2-xt)-y2)) (h6:p∣x5-(L*L-xs-x3)) (h7:p∣x7-(M*M-x1-xt)) (h8:p∣l*(y1+y2)-(x1*x1+x1*x2+x2*x2)) (h9:p∣m*(y2+y3)-(x2*x2+x2*x3+x3*x3)) (h10:p∣L*(xs-x3)-(ys-y3)) (h11:p∣L*(ys+y3)-(xs*xs+xs*x3+x3*x3)) (h12:p∣M*(x1-xt)-(y1-yt)) (h13:p∣xs-x3):p∣4*(y2*y3)*(x5-x7):=
 dk (dc (L*M*l*x3+M*M*l*x3-2*L*l*l*x3-2*M*l*l*x3+2*L*M*m*x3-L*l*m*x3-2*M*l*m*x3+2*l*l*m*x3-M*m*m*x3+l*m*m*x3+m*m*m*x3-L*M*l*x2-M*M*l*x2+2*L*l*l*x2+2*M*l*l*x2-2*L*M*m*x2+L*l*m*x2+2*M*l*m*x2-2*l*l*m*x2+M*m*m*x2-l*m*m*x2-m*m*m*x2+L*x1*x3+M*x1*x3+3*L*x3*x3-5*m*x3*x3-2*M*M*y2+2*L*l*y2-2*l*l*y2+2*L*m*y2+2*M*m*y2-2*l*m*y2-4*m*m*y2-L*x1*x2-M*x1*x2-L*x3*x2-M*x3*x2+4*m*x3*x2-2*L*x2*x2-2*M*x2*x2+4*m*x2*x2+4*x1*y2-4*x3*y2) h0 (dc (-4*x7*y2+4*x5*y2+2*L*M*l*x3+M*l*l*x3+L*M*m*x3+M*M*m*x3-M*l*m*x3+l*l*m*x3+L*m*m*x3-M*m*m*x3+l*m*m*x3-2*m*m*m*x3-2*L*M*l*x2-M*l*l*x2-L*M*m*x2-M*M*m*x2+M*l*m*x2-l*l*m*x2-L*m*m*x2+M*m*m*x2-l*m*m*x2+2*m*m*m*x2-L*x1*x3-M*x1*x3-2*L*x3*x3+M*x3*x3+3*m*x3*x3-4*L*L*y2+2*M*M*y2+2*L*l*y2+2*l*l*y2-4*l*m*y2-2*m*m*y2+L*x1*x2+M*x1*x2-L*x3*x2-M*x3*x2+3*L*x2*x2+3*M*x2*x2-6*m*x2*x2-4*x1*y2+2*x3*y2+2*y2*x2) h1 (dc (-xs*M*l*x3-xs*M*m*x3-xs*l*m*x3-xs*m*m*x3+xs*M*l*x2+xs*M*m*x2+xs*l*m*x2+xs*m*m*x2+2*xs*L*y2-2*xs*l*y2+L*M*x1*x3+M*M*x1*x3-2*L*l*x1*x3-M*l*x1*x3-L*m*x1*x3-2*M*m*x1*x3+3*l*m*x1*x3+m*m*x1*x3-L*M*x1*x2-M*M*x1*x2+2*L*l*x1*x2+M*l*x1*x2+L*m*x1*x2+2*M*m*x1*x2-3*l*m*x1*x2-m*m*x1*x2-L*M*x3*x2-M*M*x3*x2+2*L*l*x3*x2+2*M*l*x3*x2+L*m*x3*x2+3*M*m*x3*x2-2*l*m*x3*x2+L*M*x2*x2+M*M*x2*x2-2*L*l*x2*x2-2*M*l*x2*x2-L*m*x2*x2-3*M*m*x2*x2+2*l*m*x2*x2-4*m*x1*y2-4*L*x3*y2-4*M*x3*y2+4*m*x3*y2+2*L*y2*x2+4*M*y2*x2+2*l*y2*x2-4*y2*y2) h2 (dc (-M*l*l*x3+2*L*M*m*x3-l*l*m*x3-M*m*m*x3+m*m*m*x3+M*l*l*x2-2*L*M*m*x2+l*l*m*x2+M*m*m*x2-m*m*m*x2+L*x1*x3+M*x1*x3+2*L*x3*x3-M*x3*x3-3*m*x3*x3-2*M*M*y2+2*L*l*y2-2*l*l*y2+2*L*m*y2+2*M*m*y2+2*l*m*y2-4*m*m*y2-L*x1*x2-M*x1*x2+L*x3*x2+M*x3*x2-3*L*x2*x2-3*M*x2*x2+6*m*x2*x2+4*x1*y2-2*x3*y2-2*y2*x2) h3 (dc (-L*M*x3*x3-M*M*x3*x3-L*m*x3*x3+M*m*x3*x3+2*m*m*x3*x3+2*L*M*x3*x2+2*M*M*x3*x2+2*L*m*x3*x2-2*M*m*x3*x2-4*m*m*x3*x2-L*M*x2*x2-M*M*x2*x2-L*m*x2*x2+M*m*x2*x2+2*m*m*x2*x2+2*M*x3*y2+6*m*x3*y2-2*M*y2*x2-6*m*y2*x2+4*y2*y2) h4 (dc (L*x3*x3+M*x3*x3-2*m*x3*x3-2*L*x3*x2-2*M*x3*x2+4*m*x3*x2+L*x2*x2+M*x2*x2-2*m*x2*x2-2*x3*y2+2*y2*x2) h5 (dc (4*m*x3*y2-4*m*y2*x2+4*y2*y2) h6 (dc (-4*m*x3*y2+4*m*y2*x2-4*y2*y2) h7 (dc (L*M*x3+M*M*x3-2*L*l*x3-M*l*x3-L*m*x3-2*M*m*x3+3*l*m*x3+m*m*x3-L*M*x2-M*M*x2+2*L*l*x2+M*l*x2+L*m*x2+2*M*m*x2-3*l*m*x2-m*m*x2-4*m*y2) h8 (dc (-L*M*x3-M*M*x3+2*L*l*x3+M*l*x3+L*m*x3+2*M*m*x3-l*m*x3+m*m*x3+L*M*x2+M*M*x2-2*L*l*x2-M*l*x2-L*m*x2-2*M*m*x2+l*m*x2-m*m*x2-2*L*y2-2*M*y2+2*l*y2+6*m*y2) h9 (dc (-L*M*l*x3-M*l*l*x3+L*M*m*x3-L*l*m*x3-l*l*m*x3-L*m*m*x3-M*m*m*x3+m*m*m*x3+L*M*l*x2+M*l*l*x2-L*M*m*x2+L*l*m*x2+l*l*m*x2+L*m*m*x2+M*m*m*x2-m*m*m*x2+L*x1*x3+M*x1*x3+2*L*x3*x3-M*x3*x3-3*m*x3*x3+2*L*L*y2-2*M*M*y2-2*l*l*y2+2*L*m*y2+2*M*m*y2+2*l*m*y2-4*m*m*y2-L*x1*x2-M*x1*x2+L*x3*x2+M*x3*x2-3*L*x2*x2-3*M*x2*x2+6*m*x2*x2+4*x1*y2-2*x3*y2-2*y2*x2) h10 (dc (-M*l*x3-M*m*x3-l*m*x3-m*m*x3+M*l*x2+M*m*x2+l*m*x2+m*m*x2+2*L*y2-2*l*y2) h11 (dc (-L*x3*x3-M*x3*x3+2*m*x3*x3+2*L*x3*x2+2*M*x3*x2-4*m*x3*x2-L*x2*x2-M*x2*x2+2*m*x2*x2+2*x3*y2-2*y2*x2) h12 (dc (L*L*M*l*x3+L*M*l*l*x3-L*L*M*m*x3+L*L*l*m*x3-2*L*M*l*m*x3+L*l*l*m*x3-M*l*l*m*x3+L*L*m*m*x3+L*M*m*m*x3+M*l*m*m*x3-l*l*m*m*x3-L*m*m*m*x3-l*m*m*m*x3-L*L*M*l*x2-L*M*l*l*x2+L*L*M*m*x2-L*L*l*m*x2+2*L*M*l*m*x2-L*l*l*m*x2+M*l*l*m*x2-L*L*m*m*x2-L*M*m*m*x2-M*l*m*m*x2+l*l*m*m*x2+L*m*m*m*x2+l*m*m*m*x2-L*L*x1*x3-2*L*M*x1*x3-M*M*x1*x3+L*l*x1*x3+M*l*x1*x3+L*m*x1*x3+3*M*m*x1*x3-2*l*m*x1*x3-2*L*L*x3*x3+L*M*x3*x3-2*L*l*x3*x3+3*L*m*x3*x3-M*m*x3*x3+2*l*m*x3*x3-m*m*x3*x3-2*L*L*L*y2+2*L*M*M*y2+2*M*M*l*y2+2*L*l*l*y2-2*L*L*m*y2-2*L*M*m*y2-4*L*l*m*y2-2*M*l*m*y2-2*l*l*m*y2+4*L*m*m*y2+4*l*m*m*y2+L*L*x1*x2+2*L*M*x1*x2+M*M*x1*x2-L*l*x1*x2-M*l*x1*x2-L*m*x1*x2-3*M*m*x1*x2+2*l*m*x1*x2-L*L*x3*x2+M*M*x3*x2-3*L*l*x3*x2-M*l*x3*x2-L*m*x3*x2-M*m*x3*x2+4*l*m*x3*x2+2*m*m*x3*x2+3*L*L*x2*x2+2*L*M*x2*x2-M*M*x2*x2+5*L*l*x2*x2+4*M*l*x2*x2-5*L*m*x2*x2+2*M*m*x2*x2-9*l*m*x2*x2-m*m*x2*x2-6*L*x1*y2-2*l*x1*y2+4*m*x1*y2+8*L*x3*y2+4*M*x3*y2-8*m*x3*y2-2*L*y2*x2-4*M*y2*x2+2*l*y2*x2+4*m*y2*x2) h13 (dz p))))))))))))))) (by clear h0 h1 h2 h3 h4 h5 h6 h7 h8 h9 h10 h11 h12 h13;grind)
theorem aGQ {p y7 x7 y5 x5 yt xt ys xs y1 y3 L M l m x1 x3 y2 x2:Int} (h0:p∣l*(x1-x2)-(y1-y2)) (h1:p∣m*(x2-x3)-(y2-y3)) (h2:p∣xs-(l*l-x1-x2)) (h3:p∣ys-(l*(x1-xs)-y1)) (h4:p∣xt-(m*m-x2-x3)) (h5:p∣yt-(m*(x2-xt)-y2)) (h6:p∣y5-(L*(xs-x5)-ys)) (h7:p∣x7-(M*M-x1-xt)) (h8:p∣y7-(M*(x1-x7)-y1)) (h9:p∣l*(y1+y2)-(x1*x1+x1*x2+x2*x2)) (h10:p∣m*(y2+y3)-(x2*x2+x2*x3+x3*x3)) (h11:p∣L*(xs-x3)-(ys-y3)) (h12:p∣L*(ys+y3)-(xs*xs+xs*x3+x3*x3)) (h13:p∣M*(x1-xt)-(y1-yt)) (h14:p∣xs-x3) (h15:p∣x5-x7):p∣4*(y2*y3)*(y5-y7):=
 dk (dc (-M*M*M*l*x3+M*M*l*l*x3+2*L*M*l*m*x3+2*M*M*l*m*x3-4*L*l*l*m*x3-4*M*l*l*m*x3+4*L*M*m*m*x3-2*L*l*m*m*x3-2*M*l*m*m*x3+2*l*l*m*m*x3-2*M*m*m*m*x3+2*l*m*m*m*x3+2*m*m*m*m*x3+M*M*M*l*x2-M*M*l*l*x2-2*L*M*l*m*x2-2*M*M*l*m*x2+4*L*l*l*m*x2+4*M*l*l*m*x2-4*L*M*m*m*x2+2*L*l*m*m*x2+2*M*l*m*m*x2-2*l*l*m*m*x2+2*M*m*m*m*x2-2*l*m*m*m*x2-2*m*m*m*m*x2+2*L*m*x1*x3+2*M*m*x1*x3-M*M*x3*x3-2*M*l*x3*x3+2*l*l*x3*x3+6*L*m*x3*x3-8*m*m*x3*x3+2*M*M*M*y2+2*L*M*l*y2+4*L*l*l*y2+4*L*M*m*y2-2*M*M*m*y2+6*L*l*m*y2-2*M*l*m*y2-4*l*l*m*y2+8*L*m*m*y2-2*M*m*m*y2-6*l*m*m*y2-8*m*m*m*y2-2*L*m*x1*x2-2*M*m*x1*x2+2*M*M*x3*x2+M*l*x3*x2-l*l*x3*x2-2*L*m*x3*x2-2*M*m*x3*x2+4*m*m*x3*x2+2*M*M*x2*x2+4*M*l*x2*x2-l*l*x2*x2-4*L*m*x2*x2-4*M*m*x2*x2+3*l*m*x2*x2+4*m*m*x2*x2-2*x3*x3*x3-6*L*x1*y2-2*M*x1*y2+6*m*x1*y2-2*L*x3*y2+4*M*x3*y2+2*l*x3*y2-2*m*x3*y2+3*x3*x3*x2-4*L*y2*x2+4*M*y2*x2-2*l*y2*x2+8*m*y2*x2-3*x1*x2*x2+9*x3*x2*x2+2*x2*x2*x2-4*y2*y2) h0 (dc (-4*y7*y2+4*y5*y2-M*M*M*m*x3+4*L*M*l*m*x3+2*M*l*l*m*x3+2*L*M*m*m*x3+M*M*m*m*x3-2*M*l*m*m*x3+2*l*l*m*m*x3+2*L*m*m*m*x3+2*l*m*m*m*x3-2*m*m*m*m*x3+M*M*M*m*x2-4*L*M*l*m*x2-2*M*l*l*m*x2-2*L*M*m*m*x2-M*M*m*m*x2+2*M*l*m*m*x2-2*l*l*m*m*x2-2*L*m*m*m*x2-2*l*m*m*m*x2+2*m*m*m*m*x2-2*L*m*x1*x3-2*M*m*x1*x3-4*L*m*x3*x3+4*m*m*x3*x3+4*L*M*M*y2-2*M*M*M*y2+4*L*M*l*y2+2*M*M*l*y2+2*M*l*l*y2+2*L*M*m*y2+8*L*l*m*y2-2*M*l*m*y2+2*l*l*m*y2-2*L*m*m*y2+4*M*m*m*y2-8*l*m*m*y2+2*m*m*m*y2+2*L*m*x1*x2+2*M*m*x1*x2-2*L*m*x3*x2-M*m*x3*x2+m*m*x3*x2-3*M*M*x2*x2+6*L*m*x2*x2+10*M*m*x2*x2-2*m*m*x2*x2-2*L*x1*y2+2*M*x1*y2-4*l*x1*y2-4*m*x1*y2+8*L*x3*y2-2*M*x3*y2+2*l*x3*y2-12*m*x3*y2+6*L*y2*x2-6*M*y2*x2+2*l*y2*x2-2*m*y2*x2+3*x1*x2*x2-6*x3*x2*x2-6*x2*x2*x2) h1 (dc (-2*xs*M*l*m*x3-2*xs*M*m*m*x3-2*xs*l*m*m*x3-2*xs*m*m*m*x3+2*xs*M*l*m*x2+2*xs*M*m*m*x2+2*xs*l*m*m*x2+2*xs*m*m*m*x2-2*xs*M*M*y2-2*xs*M*l*y2-2*xs*M*m*y2-2*xs*l*m*y2+4*xs*x1*y2-2*xs*x3*y2-2*xs*y2*x2-M*M*M*x1*x3+M*M*l*x1*x3+2*L*M*m*x1*x3+2*M*M*m*x1*x3-4*L*l*m*x1*x3-2*M*l*m*x1*x3-2*L*m*m*x1*x3-2*M*m*m*x1*x3+4*l*m*m*x1*x3+2*m*m*m*x1*x3+M*M*M*x1*x2-M*M*l*x1*x2-2*L*M*m*x1*x2-2*M*M*m*x1*x2+4*L*l*m*x1*x2+2*M*l*m*x1*x2+2*L*m*m*x1*x2+2*M*m*m*x1*x2-4*l*m*m*x1*x2-2*m*m*m*x1*x2+M*M*M*x3*x2-M*M*l*x3*x2-2*L*M*m*x3*x2-2*M*M*m*x3*x2+4*L*l*m*x3*x2+4*M*l*m*x3*x2+2*L*m*m*x3*x2+4*M*m*m*x3*x2-2*l*m*m*x3*x2-M*M*M*x2*x2+M*M*l*x2*x2+2*L*M*m*x2*x2+2*M*M*m*x2*x2-4*L*l*m*x2*x2-4*M*l*m*x2*x2-2*L*m*m*x2*x2-4*M*m*m*x2*x2+2*l*m*m*x2*x2-2*M*x1*x3*x3+2*l*x1*x3*x3+2*L*M*x1*y2+2*M*M*x1*y2+4*L*l*x1*y2+2*M*l*x1*y2+6*L*m*x1*y2-2*M*m*x1*y2-2*l*m*x1*y2-8*m*m*x1*y2+2*M*M*x3*y2-8*L*m*x3*y2-8*M*m*x3*y2+4*m*m*x3*y2+M*x1*x3*x2-l*x1*x3*x2+2*M*x3*x3*x2-2*l*x3*x3*x2-2*L*M*y2*x2-2*M*M*y2*x2-4*L*l*y2*x2+2*L*m*y2*x2+12*M*m*y2*x2+4*l*m*y2*x2+4*m*m*y2*x2+4*M*x1*x2*x2-l*x1*x2*x2+3*m*x1*x2*x2-M*x3*x2*x2+l*x3*x2*x2-4*M*x2*x2*x2+l*x2*x2*x2-3*m*x2*x2*x2-4*x1*x1*y2+4*x1*x3*y2+4*x3*x3*y2+8*L*y2*y2-8*m*y2*y2-4*x3*y2*x2) h2 (dc (-2*M*l*l*m*x3+4*L*M*m*m*x3-2*l*l*m*m*x3-2*M*m*m*m*x3+2*m*m*m*m*x3+2*M*l*l*m*x2-4*L*M*m*m*x2+2*l*l*m*m*x2+2*M*m*m*m*x2-2*m*m*m*m*x2+2*L*m*x1*x3+2*M*m*x1*x3+4*L*m*x3*x3-2*M*m*x3*x3-6*m*m*x3*x3+2*M*M*M*y2-2*M*M*l*y2-2*M*l*l*y2+4*L*M*m*y2-2*M*M*m*y2-2*l*l*m*y2+8*L*m*m*y2-2*M*m*m*y2+2*l*m*m*y2-8*m*m*m*y2-2*L*m*x1*x2-2*M*m*x1*x2+2*L*m*x3*x2+2*M*m*x3*x2+3*M*M*x2*x2-6*L*m*x2*x2-6*M*m*x2*x2+6*m*m*x2*x2-6*L*x1*y2-2*M*x1*y2+4*l*x1*y2+6*m*x1*y2-4*L*x3*y2+2*M*x3*y2-2*l*x3*y2+4*m*x3*y2-2*L*y2*x2+6*M*y2*x2-2*l*y2*x2+2*m*y2*x2-3*x1*x2*x2+6*x3*x2*x2+6*x2*x2*x2-4*y2*y2) h3 (dc (M*M*M*x3*x3-2*L*M*m*x3*x3-M*M*m*x3*x3-2*L*m*m*x3*x3+2*m*m*m*x3*x3-2*M*M*M*x3*x2+4*L*M*m*x3*x2+2*M*M*m*x3*x2+4*L*m*m*x3*x2-4*m*m*m*x3*x2+M*M*M*x2*x2-2*L*M*m*x2*x2-M*M*m*x2*x2-2*L*m*m*x2*x2+2*m*m*m*x2*x2+2*M*x3*x3*x3+2*m*x3*x3*x3-2*L*M*x3*y2-2*M*M*x3*y2+2*L*m*x3*y2-4*M*m*x3*y2+2*m*m*x3*y2-3*M*x3*x3*x2-3*m*x3*x3*x2+2*L*M*y2*x2+2*M*M*y2*x2-2*L*m*y2*x2+4*M*m*y2*x2-2*m*m*y2*x2-3*M*x3*x2*x2-3*m*x3*x2*x2+4*M*x2*x2*x2+4*m*x2*x2*x2+4*L*y2*y2-8*M*y2*y2-4*m*y2*y2) h4 (dc (-M*M*x3*x3+2*L*m*x3*x3+2*M*m*x3*x3-2*m*m*x3*x3+2*M*M*x3*x2-4*L*m*x3*x2-4*M*m*x3*x2+4*m*m*x3*x2-M*M*x2*x2+2*L*m*x2*x2+2*M*m*x2*x2-2*m*m*x2*x2-2*x3*x3*x3+2*L*x3*y2+2*M*x3*y2-2*m*x3*y2+3*x3*x3*x2-2*L*y2*x2-2*M*y2*x2+2*m*y2*x2+3*x3*x2*x2-4*x2*x2*x2+4*y2*y2) h5 (dc (4*m*x3*y2-4*m*y2*x2+4*y2*y2) h6 (dc (-4*L*m*x3*y2+4*M*m*x3*y2+4*L*m*y2*x2-4*M*m*y2*x2-4*L*y2*y2+4*M*y2*y2) h7 (dc (-4*m*x3*y2+4*m*y2*x2-4*y2*y2) h8 (dc (-M*M*M*x3+M*M*l*x3+2*L*M*m*x3+2*M*M*m*x3-4*L*l*m*x3-2*M*l*m*x3-2*L*m*m*x3-2*M*m*m*x3+4*l*m*m*x3+2*m*m*m*x3+M*M*M*x2-M*M*l*x2-2*L*M*m*x2-2*M*M*m*x2+4*L*l*m*x2+2*M*l*m*x2+2*L*m*m*x2+2*M*m*m*x2-4*l*m*m*x2-2*m*m*m*x2-2*M*x3*x3+2*l*x3*x3+2*L*M*y2+2*M*M*y2+4*L*l*y2+2*M*l*y2+6*L*m*y2-2*M*m*y2-2*l*m*y2-8*m*m*y2+M*x3*x2-l*x3*x2+4*M*x2*x2-l*x2*x2+3*m*x2*x2-4*x1*y2+4*x3*y2) h9 (dc (M*M*M*x3-2*L*M*m*x3-M*M*m*x3+4*L*l*m*x3+2*M*l*m*x3+2*L*m*m*x3+2*M*m*m*x3-2*l*m*m*x3-M*M*M*x2+2*L*M*m*x2+M*M*m*x2-4*L*l*m*x2-2*M*l*m*x2-2*L*m*m*x2-2*M*m*m*x2+2*l*m*m*x2+2*M*x3*x3+2*m*x3*x3-2*L*M*y2+2*M*M*y2-4*L*l*y2+2*M*l*y2-6*L*m*y2-2*M*m*y2+6*l*m*y2+6*m*m*y2-M*x3*x2-m*x3*x2-4*M*x2*x2-4*m*x2*x2-2*x1*y2+4*x3*y2+4*y2*x2) h10 (dc (-2*L*M*l*m*x3-2*M*l*l*m*x3+2*L*M*m*m*x3-2*L*l*m*m*x3-2*l*l*m*m*x3-2*L*m*m*m*x3-2*M*m*m*m*x3+2*m*m*m*m*x3+2*L*M*l*m*x2+2*M*l*l*m*x2-2*L*M*m*m*x2+2*L*l*m*m*x2+2*l*l*m*m*x2+2*L*m*m*m*x2+2*M*m*m*m*x2-2*m*m*m*m*x2+2*L*m*x1*x3+2*M*m*x1*x3+4*L*m*x3*x3-2*M*m*x3*x3-6*m*m*x3*x3-2*L*M*M*y2+2*M*M*M*y2-2*L*M*l*y2-2*M*M*l*y2-2*M*l*l*y2+2*L*M*m*y2-2*M*M*m*y2-2*L*l*m*y2-2*l*l*m*y2+8*L*m*m*y2-2*M*m*m*y2+2*l*m*m*y2-8*m*m*m*y2-2*L*m*x1*x2-2*M*m*x1*x2+2*L*m*x3*x2+2*M*m*x3*x2+3*M*M*x2*x2-6*L*m*x2*x2-6*M*m*x2*x2+6*m*m*x2*x2-2*L*x1*y2-2*M*x1*y2+4*l*x1*y2+6*m*x1*y2-6*L*x3*y2+2*M*x3*y2-2*l*x3*y2+8*m*x3*y2-4*L*y2*x2+6*M*y2*x2-2*l*y2*x2-2*m*y2*x2-3*x1*x2*x2+6*x3*x2*x2+6*x2*x2*x2) h11 (dc (-2*M*l*m*x3-2*M*m*m*x3-2*l*m*m*x3-2*m*m*m*x3+2*M*l*m*x2+2*M*m*m*x2+2*l*m*m*x2+2*m*m*m*x2-2*M*M*y2-2*M*l*y2-2*M*m*y2-2*l*m*y2+4*x1*y2-2*x3*y2-2*y2*x2) h12 (dc (M*M*x3*x3-2*L*m*x3*x3-2*M*m*x3*x3+2*m*m*x3*x3-2*M*M*x3*x2+4*L*m*x3*x2+4*M*m*x3*x2-4*m*m*x3*x2+M*M*x2*x2-2*L*m*x2*x2-2*M*m*x2*x2+2*m*m*x2*x2+2*x3*x3*x3-2*L*x3*y2-2*M*x3*y2+2*m*x3*y2-3*x3*x3*x2+2*L*y2*x2+2*M*y2*x2-2*m*y2*x2-3*x3*x2*x2+4*x2*x2*x2-4*y2*y2) h13 (dc (2*L*L*M*l*m*x3+2*L*M*l*l*m*x3-2*L*L*M*m*m*x3+2*L*L*l*m*m*x3-4*L*M*l*m*m*x3+2*L*l*l*m*m*x3-2*M*l*l*m*m*x3+2*L*L*m*m*m*x3+2*L*M*m*m*m*x3+2*M*l*m*m*m*x3-2*l*l*m*m*m*x3-2*L*m*m*m*m*x3-2*l*m*m*m*m*x3-2*L*L*M*l*m*x2-2*L*M*l*l*m*x2+2*L*L*M*m*m*x2-2*L*L*l*m*m*x2+4*L*M*l*m*m*x2-2*L*l*l*m*m*x2+2*M*l*l*m*m*x2-2*L*L*m*m*m*x2-2*L*M*m*m*m*x2-2*M*l*m*m*m*x2+2*l*l*m*m*m*x2+2*L*m*m*m*m*x2+2*l*m*m*m*m*x2+M*M*M*x1*x3-M*M*l*x1*x3-2*L*L*m*x1*x3-4*L*M*m*x1*x3-2*M*M*m*x1*x3+2*L*l*m*x1*x3+2*M*l*m*x1*x3+2*L*m*m*x1*x3+4*M*m*m*x1*x3-2*l*m*m*x1*x3-4*L*L*m*x3*x3+2*L*M*m*x3*x3-4*L*l*m*x3*x3+6*L*m*m*x3*x3-2*M*m*m*x3*x3+4*l*m*m*x3*x3-2*m*m*m*x3*x3+2*L*L*M*M*y2-2*L*M*M*M*y2+2*L*L*M*l*y2+2*L*M*M*l*y2-2*M*M*M*l*y2+2*L*M*l*l*y2-2*L*L*M*m*y2+2*L*M*M*m*y2+2*L*L*l*m*y2-4*L*M*l*m*y2+2*M*M*l*m*y2+2*L*l*l*m*y2-2*M*l*l*m*y2-8*L*L*m*m*y2+2*L*M*m*m*y2-10*L*l*m*m*y2+2*M*l*m*m*y2-2*l*l*m*m*y2+8*L*m*m*m*y2+8*l*m*m*m*y2-M*M*M*x1*x2+M*M*l*x1*x2+2*L*L*m*x1*x2+4*L*M*m*x1*x2+2*M*M*m*x1*x2-2*L*l*m*x1*x2-2*M*l*m*x1*x2-2*L*m*m*x1*x2-4*M*m*m*x1*x2+2*l*m*m*x1*x2-M*M*M*x3*x2+M*M*l*x3*x2-2*L*L*m*x3*x2+2*M*M*m*x3*x2-6*L*l*m*x3*x2-2*M*l*m*x3*x2-2*L*m*m*x3*x2+6*l*m*m*x3*x2+4*m*m*m*x3*x2-3*L*M*M*x2*x2+M*M*M*x2*x2-4*M*M*l*x2*x2+6*L*L*m*x2*x2+4*L*M*m*x2*x2-2*M*M*m*x2*x2+10*L*l*m*x2*x2+8*M*l*m*x2*x2-4*L*m*m*x2*x2+2*M*m*m*x2*x2-10*l*m*m*x2*x2-2*m*m*m*x2*x2+2*M*x1*x3*x3-2*l*x1*x3*x3+2*L*L*x1*y2-2*L*l*x1*y2+2*M*l*x1*y2-12*L*m*x1*y2+4*M*m*x1*y2-2*l*m*x1*y2+8*m*m*x1*y2+6*L*L*x3*y2-2*L*M*x3*y2-4*M*M*x3*y2+6*L*l*x3*y2-4*M*l*x3*y2+4*L*m*x3*y2+6*M*m*x3*y2-6*l*m*x3*y2-4*m*m*x3*y2-M*x1*x3*x2+l*x1*x3*x2-2*M*x3*x3*x2+2*l*x3*x3*x2+4*L*L*y2*x2-4*L*M*y2*x2+4*M*M*y2*x2+8*L*l*y2*x2-4*M*l*y2*x2-4*L*m*y2*x2-10*M*m*y2*x2-4*l*m*y2*x2-4*m*m*y2*x2+3*L*x1*x2*x2-4*M*x1*x2*x2+4*l*x1*x2*x2-3*m*x1*x2*x2-6*L*x3*x2*x2+M*x3*x2*x2-7*l*x3*x2*x2-6*L*x2*x2*x2+4*M*x2*x2*x2-7*l*x2*x2*x2+3*m*x2*x2*x2+2*x1*x3*y2-6*x3*x3*y2-4*L*y2*y2+4*l*y2*y2+8*m*y2*y2-2*x1*y2*x2+4*x3*y2*x2+2*y2*x2*x2) h14 (dc (-4*L*m*x3*y2+4*L*m*y2*x2-4*L*y2*y2) h15 (dz p))))))))))))))))) (by clear h0 h1 h2 h3 h4 h5 h6 h7 h8 h9 h10 h11 h12 h13 h14 h15;grind)
end
section
theorem Pr.ec {p:Nat} (h:Pr p) {a b:Int} (hd:(p:Int)∣a*b):(p:Int)∣a\/(p:Int)∣b:=by
 rw [Int.ofNat_dvd_left,Int.natAbs_mul] at hd
 rcases h.ahn hd with h1|h1
 ·exact .inl (Int.ofNat_dvd_left.2 h1)
 ·exact .inr (Int.ofNat_dvd_left.2 h1)
def nm (p:Nat) (z:Int):Nat:=(z%(p:Int)).toNat
theorem aql {p:Nat} (hp:0<p) (z:Int):((nm p z:Nat):Int)=z%(p:Int):=by
 unfold nm
 have:=Int.emod_nonneg z (show (p:Int)≠0 by omega)
 omega
theorem rl {p:Nat} (hp:0<p) (z:Int):(p:Int)∣((nm p z:Nat):Int)-z:=by
 rw [aql hp]
 have:=Int.emod_add_mul_ediv z p
 exact ⟨-(z/p),by grind⟩
theorem Ih {p:Nat} (hp:0<p) (z:Int):nm p z<p:=by
 have h:=aql hp z
 have:=Int.emod_lt_of_pos z (show (0:Int)<p by omega)
 omega
theorem fP {p a b:Nat} (ha:a<p) (hb:b<p) (h:(p:Int)∣(a:Int)-(b:Int)):a=b:=by
 obtain ⟨k,hk⟩:=h
 have hpk:(p:Int)*k<p*1/\(p:Int)*(-1)<p*k:=by constructor<;>omega
 have h1:=Int.lt_of_mul_lt_mul_left hpk.1 (by omega)
 have h2:=Int.lt_of_mul_lt_mul_left hpk.2 (by omega)
 have:k=0:=by omega
 subst this
 omega
theorem aqk {p a:Nat} {z:Int} (ha:a<p) (h:(p:Int)∣(a:Int)-z):nm p z=a:=by
 have hp:0<p:=by omega
 refine fP (Ih hp z) ha ?_
 obtain ⟨k,hk⟩:=h
 obtain ⟨k2,h2⟩:=rl hp z
 exact ⟨k2-k,by grind⟩
def aFi (p:Nat) (a:Int):Int:=((nm p a^(p-2):Nat):Int)
theorem arj {p:Nat} (h:Pr p) {a:Int} (ha:¬(p:Int)∣a):(p:Int)∣a*aFi p a-1:=by
 have hp:=h.pos
 have h2:=h.1
 obtain ⟨k,hk⟩:=rl hp a
 have hn:¬p∣nm p a:=λhd=>by
  obtain ⟨c,hc⟩:=Int.natCast_dvd_natCast.2 hd
  exact ha ⟨c-k,by grind⟩
 have hf:=NI h hn
 have e:nm p a^(p-1)=nm p a*nm p a^(p-2):=by
  rw [show p-1=(p-2)+1 by omega,Nat.pow_succ,Nat.mul_comm]
 rw [e] at hf
 have hd:=Nat.div_add_mod (nm p a*nm p a^(p-2)) p
 rw [hf] at hd
 unfold aFi
 generalize nm p a^(p-2)=i at*
 have hd2:((p:Nat):Int)*((nm p a*i/p:Nat):Int)+1=(nm p a:Int)*(i:Int):=by
  have:=congrArg (λn:Nat=>(n:Int)) hd
  simp only [Int.natCast_add,Int.natCast_mul] at this
  exact this
 exact ⟨((nm p a*i/p:Nat):Int)-k*i,by grind⟩
structure Cur (p b:Nat):Prop where
 pr:Pr p
 big:5<=p
 n2:∀ x:Int,¬(p:Int)∣x*x*x+b
theorem Cur.pos {p b:Nat} (c:Cur p b):0<p:=c.pr.pos
theorem Cur.no2 {p b:Nat} (c:Cur p b):¬(p:Int)∣2:=λh=>by
 have:=Int.le_of_dvd (by decide) h
 have:=c.big
 omega
theorem Cur.no4 {p b:Nat} (c:Cur p b):¬(p:Int)∣4:=λh=>by
 have:=Int.le_of_dvd (by decide) h
 have:=c.big
 omega
abbrev Cv (p b:Nat) (x y:Int):Prop:=(p:Int)∣y*y-x*x*x-b
theorem Cur.yne {p b:Nat} (c:Cur p b) {x y:Int} (h:Cv p b x y):¬(p:Int)∣y:=λhy=>by
 obtain ⟨k,hk⟩:=h
 obtain ⟨m,hm⟩:=hy
 exact c.n2 x ⟨m*y-k,by grind⟩
abbrev PtQ:Type:=Option (Nat×Nat)
def OnQ (p b:Nat):PtQ->Prop
 |none=>True
 |some P=>P.1<p/\P.2<p/\Cv p b P.1 P.2
structure Lin (p:Nat) (x1 y1 x2 y2 l:Int):Prop where
 a:(p:Int)∣l*(x1-x2)-(y1-y2)
 b:(p:Int)∣l*(y1+y2)-(x1*x1+x1*x2+x2*x2)
structure Thd (p:Nat) (x1 y1 x2 l x3 y3:Int):Prop where
 x:(p:Int)∣x3-(l*l-x1-x2)
 y:(p:Int)∣y3-(l*(x1-x3)-y1)
def rk (p:Nat) (P R:Nat×Nat):Int:=if P.1=R.1 then 3*P.1*P.1*aFi p (P.2+P.2) else ((R.2:Int)-P.2)*aFi p ((R.1:Int)-P.1)
def wj (p:Nat) (P R:Nat×Nat) (l:Int):Nat×Nat:=(nm p (l*l-P.1-R.1),nm p (l*(P.1-nm p (l*l-P.1-R.1))-P.2))
def dB (p:Nat):PtQ->PtQ->PtQ
 |none,R=>R
 |some P,none=>some P
 |some P,some R=>if P.1=R.1/\P.2≠R.2 then none else some (wj p P R (rk p P R))
def agk (p:Nat):PtQ->PtQ
 |none=>none
 |some P=>some (P.1,nm p (-P.2))
variable {p b:Nat}
theorem TW (c:Cur p b) {P R:Nat×Nat} (hP:OnQ p b (some P)) (hR:OnQ p b (some R)) (h:¬(P.1=R.1/\P.2≠R.2)):Lin p P.1 P.2 R.1 R.2 (rk p P R):=by
 obtain ⟨x1,y1⟩:=P
 obtain ⟨x2,y2⟩:=R
 obtain ⟨hx1,hy1,hc1⟩:=hP
 obtain ⟨hx2,hy2,hc2⟩:=hR
 dsimp only at*
 unfold rk
 dsimp only
 by_cases e:x1=x2
 ·have e2:y1=y2:=la λh2=>h ⟨e,h2⟩
  subst e e2
  rw [if_pos rfl]
  have hn:¬(p:Int)∣(y1:Int)+y1:=λhd=>by
   rw [<-Int.two_mul] at hd
   rcases c.pr.ec hd with h1|h1
   ·exact c.no2 h1
   ·exact c.yne hc1 h1
  obtain ⟨k,hk⟩:=arj c.pr hn
  generalize aFi p ((y1:Int)+y1)=i at*
  exact ⟨⟨0,by grind⟩,⟨3*x1*x1*k,by grind⟩⟩
 ·rw [if_neg e]
  have hn:¬(p:Int)∣(x2:Int)-x1:=λhd=>e (fP hx2 hx1 hd).symm
  have hn':¬(p:Int)∣(x1:Int)-x2:=λ⟨k,hk⟩=>hn ⟨-k,by grind⟩
  obtain ⟨k,hk⟩:=arj c.pr hn
  generalize aFi p ((x2:Int)-x1)=i at*
  have ha:(p:Int)∣((y2:Int)-y1)*i*((x1:Int)-x2)-(y1-y2):=⟨(y1-y2)*k,by grind⟩
  refine ⟨ha,?_⟩
  have hc1':(p:Int)∣(y1:Int)*y1-x1*x1*x1-b:=hc1
  have hc2':(p:Int)∣(y2:Int)*y2-x2*x2*x2-b:=hc2
  rcases c.pr.ec (ato hc1' hc2' ha) with h1|h1
  ·exact absurd h1 hn'
  ·exact h1
theorem axT (c:Cur p b) {x1 y1 x2 y2 l m:Int} (hy:¬(p:Int)∣y1) (h1:Lin p x1 y1 x2 y2 l) (h2:Lin p x1 y1 x2 y2 m):(p:Int)∣l-m:=by
 obtain ⟨k1,e1⟩:=h1.a
 obtain ⟨k2,e2⟩:=h2.a
 obtain ⟨k3,e3⟩:=h1.b
 obtain ⟨k4,e4⟩:=h2.b
 rcases c.pr.ec (a:=l-m) (b:=x1-x2) ⟨k1-k2,by grind⟩ with h|h
 ·exact h
 ·rcases c.pr.ec (a:=l-m) (b:=y1+y2) ⟨k3-k4,by grind⟩ with h'|h'
  ·exact h'
  ·obtain ⟨m1,f1⟩:=h
   obtain ⟨m2,f2⟩:=h'
   rcases c.pr.ec (a:=2) (b:=y1) ⟨l*m1-k1+m2,by grind⟩ with h3|h3
   ·exact absurd h3 c.no2
   ·exact absurd h3 hy
theorem afI (c:Cur p b) {P R S:Nat×Nat} {l:Int} (hP:OnQ p b (some P)) (hR:OnQ p b (some R)) (hl:Lin p P.1 P.2 R.1 R.2 l) (hS1:S.1<p) (hS2:S.2<p)
 (ht:Thd p P.1 P.2 R.1 l S.1 S.2):dB p (some P) (some R)=some S:=by
 have hn:¬(P.1=R.1/\P.2≠R.2):=λ⟨e1,e2⟩=>by
  obtain ⟨k,hk⟩:=hl.a
  rw [e1] at hk
  exact e2 (fP hP.2.1 hR.2.1 ⟨-k,by grind⟩)
 have hs:=TW c hP hR hn
 obtain ⟨k,hk⟩:=axT c (c.yne hP.2.2) hs hl
 have:dB p (some P) (some R)=some (wj p P R (rk p P R)):=if_neg hn
 rw [this]
 congr 1
 generalize rk p P R=s at*
 obtain ⟨k1,h1⟩:=ht.x
 obtain ⟨k2,h2⟩:=ht.y
 have ex:nm p (s*s-P.1-R.1)=S.1:=aqk hS1 ⟨k1-k*(s+l),by grind⟩
 unfold wj
 rw [ex]
 have ey:nm p (s*((P.1:Int)-S.1)-P.2)=S.2:=aqk hS2 ⟨k2-k*(P.1-S.1),by grind⟩
 rw [ey]
theorem ni (c:Cur p b) {P R S:Nat×Nat} (hP:OnQ p b (some P)) (hR:OnQ p b (some R)) (h:dB p (some P) (some R)=some S):
 S.1<p/\S.2<p/\∃ l,Lin p P.1 P.2 R.1 R.2 l/\Thd p P.1 P.2 R.1 l S.1 S.2:=by
 by_cases hn:P.1=R.1/\P.2≠R.2
 ·have:dB p (some P) (some R)=none:=if_pos hn
  rw [this] at h
  cases h
 ·have hs:=TW c hP hR hn
  have:dB p (some P) (some R)=some (wj p P R (rk p P R)):=if_neg hn
  rw [this] at h
  cases h
  exact ⟨Ih c.pos _,Ih c.pos _,_,hs,rl c.pos _,rl c.pos _⟩
theorem EO (c:Cur p b) {P:PtQ} (h:OnQ p b P):OnQ p b (agk p P):=by
 cases P with
 |none=>trivial
 |some P=>
  obtain ⟨k,hk⟩:=rl c.pos (-(P.2:Int))
  obtain ⟨m,hm⟩:=h.2.2
  exact ⟨h.1,Ih c.pos _,⟨m+k*((nm p (-(P.2:Int)):Int)-P.2),by show ((nm p (-(P.2:Int)):Nat):Int)*(nm p (-(P.2:Int)):Nat)-(P.1:Int)*P.1*P.1-b=_;grind⟩⟩
theorem iV (c:Cur p b) {P R:PtQ} (hP:OnQ p b P) (hR:OnQ p b R):OnQ p b (dB p P R):=by
 cases P with
 |none=>exact hR
 |some P=>
  cases R with
  |none=>exact hP
  |some R=>
   cases h:dB p (some P) (some R) with
   |none=>trivial
   |some S=>
    obtain ⟨h1,h2,l,hl,ht⟩:=ni c hP hR h
    exact ⟨h1,h2,aFA ht.y ht.x hl.a hl.b hP.2.2⟩
theorem aqc (c:Cur p b) {P R:Nat×Nat} (hP:OnQ p b (some P)) (hR:OnQ p b (some R)) (h:P.1=R.1/\P.2≠R.2):some R=agk p (some P):=by
 obtain ⟨x1,y1⟩:=P
 obtain ⟨x2,y2⟩:=R
 obtain ⟨hx1,hy1,hc1⟩:=hP
 obtain ⟨hx2,hy2,hc2⟩:=hR
 dsimp only at*
 obtain ⟨rfl,hne⟩:=h
 obtain ⟨k1,e1⟩:=hc1
 obtain ⟨k2,e2⟩:=hc2
 rcases c.pr.ec (a:=(y1:Int)-y2) (b:=(y1:Int)+y2) ⟨k1-k2,by grind⟩ with h|h
 ·exact absurd (fP hy1 hy2 h) hne
 ·obtain ⟨k,hk⟩:=h
  have:nm p (-(y1:Int))=y2:=aqk hy2 ⟨k,by grind⟩
  show _=some (x1,nm p (-(y1:Int)))
  rw [this]
theorem ck (P:PtQ):dB p P none=P:=by cases P<;>rfl
theorem agj (P:PtQ):dB p none P=P:=rfl
theorem add_neg (c:Cur p b) {P:PtQ} (hP:OnQ p b P):dB p P (agk p P)=none:=by
 cases P with
 |none=>rfl
 |some P=>
  refine if_pos ⟨rfl,λe=> ?_⟩
  have e:P.2=nm p (-(P.2:Int)):=e
  obtain ⟨k,hk⟩:=rl c.pos (-(P.2:Int))
  rw [<-e] at hk
  rcases c.pr.ec (a:=2) (b:=(P.2:Int)) ⟨k,by grind⟩ with h|h
  ·exact c.no2 h
  ·exact c.yne hP.2.2 h
theorem neg_neg (c:Cur p b) {P:PtQ} (hP:OnQ p b P):agk p (agk p P)=P:=by
 cases P with
 |none=>rfl
 |some P=>
  obtain ⟨k,hk⟩:=rl c.pos (-(P.2:Int))
  have:nm p (-((nm p (-(P.2:Int)):Nat):Int))=P.2:=aqk hP.2.1 ⟨k,by grind⟩
  show some (P.1,nm p (-((nm p (-(P.2:Int)):Nat):Int)))=_
  rw [this]
theorem add_comm (c:Cur p b) {P R:PtQ} (hP:OnQ p b P) (hR:OnQ p b R):dB p P R=dB p R P:=by
 cases P with
 |none=>exact (ck R).symm
 |some P=>
  cases R with
  |none=>rfl
  |some R=>
   cases h:dB p (some P) (some R) with
   |none=>
    by_cases hn:P.1=R.1/\P.2≠R.2
    ·exact (if_pos ⟨hn.1.symm,λe=>hn.2 e.symm⟩).symm
    ·have:dB p (some P) (some R)=some (wj p P R (rk p P R)):=if_neg hn
     rw [this] at h
     cases h
   |some S=>
    obtain ⟨h1,h2,l,hl,ht⟩:=ni c hP hR h
    obtain ⟨k1,e1⟩:=hl.a
    obtain ⟨k2,e2⟩:=hl.b
    obtain ⟨k3,e3⟩:=ht.x
    exact (afI c hR hP (l:=l) ⟨⟨-k1,by grind⟩,⟨k2,by grind⟩⟩ h1 h2 ⟨⟨k3,by grind⟩,aCL ht.y hl.a⟩).symm
theorem aHL {p l x1 x2 y1 y2 z1 z2 k2 k5 k6:Int} (e2:l*(y1+y2)-(x1*x1+x1*x2+x2*x2)=p*k2) (e5:z1- -y1=p*k5) (e6:z2- -y2=p*k6):
 -l*(z1+z2)-(x1*x1+x1*x2+x2*x2)=p*(k2-l*(k5+k6)):=by grind
theorem aGL {p l x1 x3 y1 y3 z1 k2 k5:Int} (e2: -l*(-y1+y3)-(x1*x1+x1*x3+x3*x3)=p*k2) (e5:z1- -y1=p*k5):
 -l*(z1+y3)-(x1*x1+x1*x3+x3*x3)=p*(k2-l*k5):=by grind
theorem neg_add (c:Cur p b) {P R:PtQ} (hP:OnQ p b P) (hR:OnQ p b R):agk p (dB p P R)=dB p (agk p P) (agk p R):=by
 cases P with
 |none=>rfl
 |some P=>
  cases R with
  |none=>rfl
  |some R=>
   have hP':=EO c hP
   have hR':=EO c hR
   obtain ⟨k5,e5⟩:=rl c.pos (-(P.2:Int))
   obtain ⟨k6,e6⟩:=rl c.pos (-(R.2:Int))
   cases h:dB p (some P) (some R) with
   |none=>
    by_cases hn:P.1=R.1/\P.2≠R.2
    ·have:=aqc c hP hR hn
     rw [this,add_neg c hP']
     rfl
    ·have:dB p (some P) (some R)=some (wj p P R (rk p P R)):=if_neg hn
     rw [this] at h
     cases h
   |some S=>
    obtain ⟨h1,h2,l,hl,ht⟩:=ni c hP hR h
    obtain ⟨k1,e1⟩:=hl.a
    obtain ⟨k2,e2⟩:=hl.b
    obtain ⟨k3,e3⟩:=ht.x
    obtain ⟨k4,e4⟩:=ht.y
    obtain ⟨k7,e7⟩:=rl c.pos (-(S.2:Int))
    have g1:Lin p ((P.1:Nat):Int) ((nm p (-(P.2:Int)):Nat):Int) ((R.1:Nat):Int) ((nm p (-(R.2:Int)):Nat):Int) (-l):=
     ⟨⟨-k1-k5+k6,by grind⟩,⟨k2-l*(k5+k6),aHL e2 e5 e6⟩⟩
    have g2:Thd p ((P.1:Nat):Int) ((nm p (-(P.2:Int)):Nat):Int) ((R.1:Nat):Int) (-l) ((S.1:Nat):Int) ((nm p (-(S.2:Int)):Nat):Int):=
     ⟨⟨k3,by grind⟩,⟨-k4+k7+k5,by grind⟩⟩
    exact (afI c (P:=(P.1,nm p (-(P.2:Int)))) (R:=(R.1,nm p (-(R.2:Int)))) (S:=(S.1,nm p (-(S.2:Int)))) hP' hR' g1 h1 (Ih c.pos _) g2).symm
theorem cancel (c:Cur p b) {P R:PtQ} (hP:OnQ p b P) (hR:OnQ p b R):dB p (agk p P) (dB p P R)=R:=by
 cases P with
 |none=>rfl
 |some P=>
  have hP':=EO c hP
  cases R with
  |none=>
   rw [ck,add_comm c hP' hP,add_neg c hP]
  |some R=>
   cases h:dB p (some P) (some R) with
   |none=>
    by_cases hn:P.1=R.1/\P.2≠R.2
    ·rw [ck]
     exact (aqc c hP hR hn).symm
    ·have:dB p (some P) (some R)=some (wj p P R (rk p P R)):=if_neg hn
     rw [this] at h
     cases h
   |some S=>
    have hS:=iV c hP hR
    rw [h] at hS
    obtain ⟨h1,h2,l,hl,ht⟩:=ni c hP hR h
    obtain ⟨k1,e1⟩:=hl.a
    obtain ⟨k2,e2⟩:=aGM ht.y ht.x hl.a hl.b
    obtain ⟨k3,e3⟩:=ht.x
    obtain ⟨k4,e4⟩:=ht.y
    obtain ⟨k5,e5⟩:=rl c.pos (-(P.2:Int))
    have g1:Lin p ((P.1:Nat):Int) ((nm p (-(P.2:Int)):Nat):Int) ((S.1:Nat):Int) ((S.2:Nat):Int) (-l):=
     ⟨⟨k4-k5,by grind⟩,⟨k2-l*k5,aGL e2 e5⟩⟩
    have g2:Thd p ((P.1:Nat):Int) ((nm p (-(P.2:Int)):Nat):Int) ((S.1:Nat):Int) (-l) ((R.1:Nat):Int) ((R.2:Nat):Int):=
     ⟨⟨k3,by grind⟩,⟨k1+k5,by grind⟩⟩
    exact afI c (P:=(P.1,nm p (-(P.2:Int)))) hP' hS g1 hR.1 hR.2.1 g2
theorem Ig (c:Cur p b) {P R:PtQ} (hP:OnQ p b P) (hR:OnQ p b R) (h:dB p P R=none):R=agk p P:=by
 have:=cancel c hP hR
 rw [h,ck] at this
 exact this.symm
theorem P8 (c:Cur p b) {u v z:Int} (hu:¬(p:Int)∣u) (hv:¬(p:Int)∣v) (h:(p:Int)∣u*v*z):(p:Int)∣z:=by
 rcases c.pr.ec h with h|h
 ·rcases c.pr.ec h with h|h
  ·exact absurd h hu
  ·exact absurd h hv
 ·exact h
theorem agf (c:Cur p b) {z:Int} (h:(p:Int)∣4*z):(p:Int)∣z:=(c.pr.ec h).resolve_left c.no4
theorem agc {X Y:Nat×Nat} (h1:X.1=Y.1) (h2:X.2=Y.2):X=Y:=by
 obtain ⟨X1,X2⟩:=X
 obtain ⟨Y1,Y2⟩:=Y
 dsimp only at h1 h2
 rw [h1,h2]
theorem Of (c:Cur p b) {P1 P2 P3 S T X Y:Nat×Nat} (h1:OnQ p b (some P1)) (h2:OnQ p b (some P2)) (h3:OnQ p b (some P3)) (hS:dB p (some P1) (some P2)=some S) (hT:dB p (some P2) (some P3)=some T)
 (hX:dB p (some S) (some P3)=some X) (hY:dB p (some P1) (some T)=some Y) (d1:(p:Int)∣(S.1:Int)-P3.1):X=Y:=by
 have oS:=iV c h1 h2
 have oT:=iV c h2 h3
 rw [hS] at oS
 rw [hT] at oT
 obtain ⟨hS1,hS2,l,l1,l2⟩:=ni c h1 h2 hS
 obtain ⟨hT1,hT2,m,m1,m2⟩:=ni c h2 h3 hT
 obtain ⟨hX1,hX2,L,L1,L2⟩:=ni c oS h3 hX
 obtain ⟨hY1,hY2,M,M1,M2⟩:=ni c h1 oT hY
 have n2:=c.yne h2.2.2
 have n3:=c.yne h3.2.2
 have hx:=P8 c n2 n3 (agf c (by rw [<-Int.mul_assoc];exact aGR l1.a m1.a l2.x l2.y m2.x m2.y L2.x M2.x l1.b m1.b L1.a L1.b M1.a d1))
 have hy:=P8 c n2 n3 (agf c (by rw [<-Int.mul_assoc];exact aGQ l1.a m1.a l2.x l2.y m2.x m2.y L2.y M2.x M2.y l1.b m1.b L1.a L1.b M1.a d1 hx))
 exact agc (fP hX1 hY1 hx) (fP hX2 hY2 hy)
theorem add_assoc (c:Cur p b) {P R T:PtQ} (hP:OnQ p b P) (hR:OnQ p b R) (hT:OnQ p b T):dB p (dB p P R) T=dB p P (dB p R T):=by
 have hPR:=iV c hP hR
 have hRT:=iV c hR hT
 have nP:=EO c hP
 have nR:=EO c hR
 have nT:=EO c hT
 by_cases hA:dB p P R=none
 ·rw [hA,agj]
  have e:=Ig c hP hR hA
  have e2:P=agk p R:=by rw [e,neg_neg c hP]
  rw [e2,cancel c hR hT]
 by_cases hB:dB p R T=none
 ·rw [hB,ck]
  have e:=Ig c hR hT hB
  rw [e,add_comm c hPR nR,add_comm c hP hR,cancel c hR hP]
 by_cases hC:dB p (dB p P R) T=none
 ·rw [hC]
  have e:=Ig c hPR hT hC
  rw [e,neg_add c hP hR,add_comm c nP nR]
  have:=cancel c nR nP
  rw [neg_neg c hR] at this
  rw [this,add_neg c hP]
 by_cases hD:dB p P (dB p R T)=none
 ·rw [hD]
  have e:=Ig c hRT hP (by rw [add_comm c hRT hP];exact hD)
  rw [e,neg_add c hR hT]
  have h3:=cancel c nR nT
  rw [neg_neg c hR] at h3
  rw [add_comm c (iV c nR nT) hR,h3,add_comm c nT hT,add_neg c hT]
 cases P with
 |none=>rfl
 |some P1=>
 cases R with
 |none=>rw [ck,agj]
 |some P2=>
 cases T with
 |none=>rw [ck,ck]
 |some P3=>
 cases hS:dB p (some P1) (some P2) with
 |none=>exact absurd hS hA
 |some S=>
 cases hT':dB p (some P2) (some P3) with
 |none=>exact absurd hT' hB
 |some T=>
 rw [hS] at hPR hC
 rw [hT'] at hRT hD
 cases hX:dB p (some S) (some P3) with
 |none=>exact absurd hX hC
 |some X=>
 cases hY:dB p (some P1) (some T) with
 |none=>exact absurd hY hD
 |some Y=>
 obtain ⟨hS1,hS2,l,l1,l2⟩:=ni c hP hR hS
 obtain ⟨hT1,hT2,m,m1,m2⟩:=ni c hR hT hT'
 obtain ⟨hX1,hX2,L,L1,L2⟩:=ni c hPR hT hX
 obtain ⟨hY1,hY2,M,M1,M2⟩:=ni c hP hRT hY
 congr 1
 by_cases d1:(p:Int)∣(S.1:Int)-P3.1
 ·exact Of c hP hR hT hS hT' hX hY d1
 by_cases d2:(p:Int)∣(P1.1:Int)-T.1
 ·rw [add_comm c hR hT] at hT'
  rw [add_comm c hP hR] at hS
  rw [add_comm c hPR hT] at hX
  rw [add_comm c hP hRT] at hY
  exact (Of c hT hR hP hT' hS hY hX (by obtain ⟨k,hk⟩:=d2;exact ⟨-k,by rw [Int.mul_neg,<-hk];omega⟩)).symm
 ·have hx:=P8 c d1 d2 (aGP l1.a m1.a l2.x l2.y m2.x m2.y L2.x M2.x l1.b m1.b L1.a M1.a)
  have hy:=P8 c d1 d2 (aGO l1.a m1.a l2.x l2.y m2.x m2.y L2.x L2.y M2.x M2.y l1.b m1.b L1.a M1.a hx)
  exact agc (fP hX1 hY1 hx) (fP hX2 hY2 hy)
end
section
open Sx Go
abbrev Sm (p:Nat):Prop:=0<p/\p<57896044618658097711785492504343953926634992332820282019728792003956564819968
theorem aGv {p a b:Int} (h2:p∣a) (h1:p∣a-b):p∣b:=by
 obtain ⟨k,hk⟩:=h1
 obtain ⟨m,hm⟩:=h2
 exact ⟨m-k,by rw [Int.mul_sub];omega⟩
theorem avP {p:Nat} (n:Nat):(p:Int)∣((n%p:Nat):Int)-(n:Int):=by
 have:=Nat.div_add_mod n p
 refine ⟨-((n/p:Nat):Int),?_⟩
 have h:((p*(n/p)+n%p:Nat):Int)=(n:Int):=by rw [this]
 rw [Int.natCast_add,Int.natCast_mul] at h
 rw [Int.mul_neg]
 omega
variable {p:Nat}
theorem b8 (hp:Sm p) (a b:ab):(p:Int)∣((aQ p a b).nat:Int)-((a.nat:Int)*(b.nat:Int)):=by
 have e:(aQ p a b).nat=a.nat*b.nat%p:=cL hp
 rw [e]
 have:=avP (p:=p) (a.nat*b.nat)
 rwa [Int.natCast_mul] at this
theorem Yj (hp:Sm p) (a b:ab):(p:Int)∣((fp p a b).nat:Int)-((a.nat:Int)+(b.nat:Int)):=by
 have e:(fp p a b).nat=(a.nat+b.nat)%p:=cL hp
 rw [e]
 have:=avP (p:=p) (a.nat+b.nat)
 rwa [Int.natCast_add] at this
theorem aF3 (hp:Sm p) (a:ab):(p:Int)∣((n9 p a).nat:Int)- -(a.nat:Int):=by
 have e:(n9 p a).nat=(p-a.nat%p)%p:=cL hp
 rw [e]
 obtain ⟨k,hk⟩:=avP (p:=p) (p-a.nat%p)
 obtain ⟨m,hm⟩:=avP (p:=p) a.nat
 have hlt:=Nat.mod_lt a.nat hp.1
 have e2:((p-a.nat%p:Nat):Int)=(p:Int)-((a.nat%p:Nat):Int):=by omega
 rw [e2] at hk
 generalize (((p-a.nat%p)%p:Nat):Int)=u at*
 generalize ((a.nat%p:Nat):Int)=v at*
 exact ⟨k+1-m,by grind⟩
theorem lW (hp:Sm p) (a b:ab):(p:Int)∣((gZ p a b).nat:Int)-((a.nat:Int)-(b.nat:Int)):=by
 obtain ⟨k,hk⟩:=Yj hp a (n9 p b)
 obtain ⟨m,hm⟩:=aF3 hp b
 unfold gZ
 generalize ((fp p a (n9 p b)).nat:Int)=u at*
 exact ⟨k+m,by grind⟩
theorem jH (hp:Sm p) (a b:ab):(aQ p a b).nat<p:=by
 rw [show (aQ p a b).nat=a.nat*b.nat%p from cL hp]
 exact Nat.mod_lt _ hp.1
theorem Sr (hp:Sm p) (a b:ab):(fp p a b).nat<p:=by
 rw [show (fp p a b).nat=(a.nat+b.nat)%p from cL hp]
 exact Nat.mod_lt _ hp.1
theorem Pn (hp:Sm p) (a b:ab):(gZ p a b).nat<p:=Sr hp _ _
theorem ZK:(ab.mk 2 0 0 0).nat=2:=by decide
theorem ayE:(ab.mk 4 0 0 0).nat=4:=by decide
theorem asT:(ab.mk 8 0 0 0).nat=8:=by decide
theorem Qa:(ab.mk 1 0 0 0).nat=1:=by decide
theorem lL:(ab.mk 0 0 0 0).nat=0:=by decide
theorem Qd {p b m:Nat} (pr:Pr p) (h3:p=3*m+1) (hb0:0<b) (hb:b<p) (hm:Nat.blt m (2^256)=true) (hk:Nat.beq (pwm p (p-b) m) 1=false) (x:Int):¬(p:Int)∣x*x*x+b:=λhd=>by
 have h2:=pr.1
 rw [af2 h2 hm] at hk
 obtain ⟨k,hk1⟩:=hd
 obtain ⟨j,hj⟩:=rl pr.pos x
 have hn:p∣nm p x*nm p x*nm p x+b:=Int.natCast_dvd_natCast.1 (by
  rw [Int.natCast_add,Int.natCast_mul,Int.natCast_mul]
  generalize ((nm p x:Nat):Int)=n at*
  exact ⟨k+j*(n*n+n*x+x*x),by grind⟩)
 generalize nm p x=n at*
 have hpn:¬p∣n:=λhd=>by
  have h1:p∣n*n*n:=Nat.dvd_trans hd (Nat.dvd_mul_left ..)
  have:=(Nat.dvd_add_right h1).1 hn
  have:=Nat.le_of_dvd hb0 this
  omega
 have hf:=NI pr hpn
 have e:n^3%p=(p-b)%p:=by
  obtain ⟨c,hc⟩:=hn
  have hc0:c≠0:=λe=>by rw [e] at hc;omega
  obtain ⟨d,rfl⟩:∃ d,c=d+1:=⟨c-1,by omega⟩
  have:n^3=(p-b)+p*d:=by
   rw [show n^3=n*n*n by rw [Nat.pow_succ,Nat.pow_succ,Nat.pow_one]]
   rw [Nat.mul_succ] at hc
   omega
  rw [this,Nat.add_mul_mod_self_left]
 have:(p-b)^m%p=1:=by
  rw [Nat.pow_mod,<-e,<-Nat.pow_mod,<-Nat.pow_mul,show 3*m=p-1 by omega]
  exact hf
 rw [this] at hk
 cases hk
theorem be {s:Int} (h:ac s=true):Cur (pS s) (bS s).nat:=by
 rcases b6 h with rfl|rfl|rfl|rfl
 ·have e:pS 0=16513537:=by decide+kernel
  have e2:(bS 0).nat=23:=by decide+kernel
  rw [e,e2]
  exact ⟨xC,by decide,Qd (m:=5504512) xC (by decide) (by decide) (by decide) (by decide+kernel) (by decide+kernel)⟩
 ·have e:pS 1=16521217:=by decide+kernel
  have e2:(bS 1).nat=21:=by decide+kernel
  rw [e,e2]
  exact ⟨xB,by decide,Qd (m:=5507072) xB (by decide) (by decide) (by decide) (by decide+kernel) (by decide+kernel)⟩
 ·have e:pS 2=28948022309329048855892746252171976963363056481941560715954676764349967630337:=by decide+kernel
  have e2:(bS 2).nat=5:=by decide+kernel
  rw [e,e2]
  exact ⟨aN,by decide,Qd (m:=9649340769776349618630915417390658987787685493980520238651558921449989210112) aN (by decide) (by decide) (by decide) (by decide+kernel) (by decide+kernel)⟩
 ·have e:pS 3=28948022309329048855892746252171976963363056481941647379679742748393362948097:=by decide+kernel
  have e2:(bS 3).nat=5:=by decide+kernel
  rw [e,e2]
  exact ⟨aM,by decide,Qd (m:=9649340769776349618630915417390658987787685493980549126559914249464454316032) aM (by decide) (by decide) (by decide) (by decide+kernel) (by decide+kernel)⟩
end
section
open Sx Go
set_option maxRecDepth 100000
theorem im (a n p:Nat):(a%p)^n%p=a^n%p:=(Nat.pow_mod a n p).symm
theorem aHO {p a b c d:Nat} (h1:a%p=c%p) (h2:b%p=d%p):a*b%p=c*d%p:=by rw [Nat.mul_mod,h1,h2,<-Nat.mul_mod]
theorem aAm {p t:Nat} (pr:Pr p) (ht:t<p) (h:t*t%p=1):t=1\/t=p-1:=by
 have h2:=pr.1
 have hd:(p:Int)∣((t:Int)-1)*((t:Int)+1):=by
  have e:=Nat.div_add_mod (t*t) p
  rw [h] at e
  refine ⟨((t*t/p:Nat):Int),?_⟩
  have e:((p*(t*t/p)+1:Nat):Int)=((t*t:Nat):Int):=congrArg (λn:Nat=>(n:Int)) e
  rw [Int.natCast_add,Int.natCast_mul,Int.natCast_mul] at e
  have e2:((t:Int)-1)*((t:Int)+1)=(t:Int)*t-1:=by grind
  rw [e2,<-e]
  omega
 rcases pr.ec hd with h|h
 ·left
  exact fP ht (by omega) h
 ·right
  refine fP ht (by omega) ?_
  obtain ⟨k,hk⟩:=h
  have:((p-1:Nat):Int)=(p:Int)-1:=by omega
  rw [this]
  exact ⟨k-1,by rw [Int.mul_sub];omega⟩
theorem aF2 {p:Nat} (h2:2<=p):(p-1)*(p-1)%p=1:=by
 obtain ⟨q,rfl⟩:∃ q,p=q+2:=⟨p-2,by omega⟩
 have:(q+2-1)*(q+2-1)=1+(q+2)*q:=by
  rw [show q+2-1=q+1 by omega]
  grind
 rw [this,Nat.add_mul_mod_self_left]
 exact bj (by omega)
section
variable {p:Nat}
theorem AK (hp:Sm p) (a b:ab):(aQ p a b).nat=a.nat*b.nat%p:=cL hp
theorem kS (hp:Sm p) (h2:2<=p) (a k:ab):(lQ p a k).nat=a.nat^k.nat%p:=by
 rw [aEq (by omega)]
 exact cL hp
theorem aC8 (hp:Sm p) {b:ab} (hb:b.nat<p):∀ n,(sqN p b n).nat=b.nat^2^n%p
 |0=>by
  show b.nat=_
  rw [Nat.pow_zero,Nat.pow_one,bj hb]
 |n+1=>by
  show (aQ p (sqN p b n) (sqN p b n)).nat=_
  rw [AK hp,aC8 hp hb n,<-Nat.mul_mod,<-Nat.pow_add,<-Nat.two_mul,<-Nat.pow_succ']
theorem D0 (t:ab):eqE t j3=Nat.beq t.nat 1:=by rw [aEt];rfl
theorem xO {a b:Nat} (h:Nat.beq a b=false):a≠b:=λe=>by rw [e,Nat.beq_refl] at h;cases h
structure azR (p a i:Nat) (w:Ton):Prop where
 x:w.1.nat<p
 b:w.2.1.nat<p
 z:w.2.2.nat<p
 sq:w.1.nat*w.1.nat%p=a*w.2.1.nat%p
 one:w.2.1.nat^2^i%p=1
 neg:w.2.2.nat^2^i%p=p-1
theorem akX (b i:Nat):b^2^(i+1)=b^2^i*b^2^i:=by rw [<-Nat.pow_add,<-Nat.two_mul,<-Nat.pow_succ']
theorem ao7 (z i:Nat) (p:Nat):(z*z%p)^2^i%p=z^2^(i+1)%p:=by rw [im,<-Nat.pow_two,<-Nat.pow_mul,<-Nat.pow_succ']
theorem Wl (pr:Pr p) {b i:Nat} (h:b^2^(i+1)%p=1):b^2^i%p=1\/b^2^i%p=p-1:=by
 rw [akX,Nat.mul_mod] at h
 exact aAm pr (Nat.mod_lt _ pr.pos) h
theorem aoE (hp:Sm p) (pr:Pr p) {a i:Nat} {x b z u:ab} (hx:x.nat*x.nat%p=a*b.nat%p) (hb:b.nat^2^i%p=p-1) (hu:u.nat*u.nat%p=z.nat%p) (hz:z.nat^2^i%p=p-1):
 (aQ p x u).nat*(aQ p x u).nat%p=a*(aQ p b z).nat%p/\(aQ p b z).nat^2^i%p=1:=by
 constructor
 ·rw [AK hp,AK hp,<-Nat.mul_mod,Nat.mul_mod_mod,show x.nat*u.nat*(x.nat*u.nat)=x.nat*x.nat*(u.nat*u.nat) by ac_rfl,show a*(b.nat*z.nat)=a*b.nat*z.nat from (Nat.mul_assoc ..).symm]
  exact aHO hx hu
 ·rw [AK hp,im,Nat.mul_pow,Nat.mul_mod,hb,hz]
  exact aF2 pr.1
theorem akg (hp:Sm p) (pr:Pr p) {a m k:Nat} {w:Ton} (hk:k<m) (h:azR p a (m-k) w):azR p a (m-(k+1)) (Ph p m k w):=by
 obtain ⟨x,b,z⟩:=w
 have e:m-k=(m-(k+1))+1:=by omega
 rw [e] at h
 obtain ⟨hx,hb,hz,h1,h2,h3⟩:=h
 dsimp only at*
 have ht:=aC8 hp hb (m-(k+1))
 have hz2:(aQ p z z).nat^2^(m-(k+1))%p=p-1:=by rw [AK hp,ao7];exact h3
 unfold Ph
 dsimp only
 rw [show m-k-1=m-(k+1) by omega,D0]
 cases hq:Nat.beq (sqN p b (m-(k+1))).nat 1
 ·simp only [bo]
  have hn:=xO hq
  rw [ht] at hn
  have hb1:=(Wl pr h2).resolve_left hn
  obtain ⟨g1,g2⟩:=aoE hp pr (u:=z) h1 hb1 (by rw [AK hp,Nat.mod_mod]) hz2
  exact ⟨jH hp _ _,jH hp _ _,jH hp _ _,g1,g2,hz2⟩
 ·simp only [aV]
  have hb1:=aX hq
  rw [ht] at hb1
  exact ⟨hx,hb,jH hp _ _,h1,hb1,hz2⟩
theorem aCI (hp:Sm p) (pr:Pr p) {a m:Nat} {w:Ton} (h:azR p a m w):(aFb p m w).1.nat<p/\(aFb p m w).1.nat*(aFb p m w).1.nat%p=a%p:=by
 have key:∀ n,n<=m->azR p a (m-n) (upto (Ph p m) w n):=by
  intro n
  induction n with
  |zero=>intro _;exact h
  |succ n ih=>intro hn;exact akg hp pr (by omega) (ih (by omega))
 have hk:=key m (Nat.le_refl _)
 rw [Nat.sub_self] at hk
 obtain ⟨hx,hb,hz,h1,h2,h3⟩:=hk
 refine ⟨hx,?_⟩
 rw [Nat.pow_zero,Nat.pow_one,bj hb] at h2
 rw [h2,Nat.mul_one] at h1
 exact h1
end
def F5 (s:Int):ab:=jd (ka (numOf s.toNat).1 j3).1 (numOf s.toNat).2.1.toNat
def adS (s:Int):Nat:=(numOf s.toNat).2.1.toNat
structure aix (s:Int):Prop where
 od:(F5 s).nat*2^adS s=pS s-1
 up:2*(hJ (SJ (F5 s) j3).1).nat=(F5 s).nat+1
 hf:(hJ (ka (numOf s.toNat).1 j3).1).nat=(pS s-1)/2
 ad:1<=adS s
 ai:(numOf s.toNat).2.1=(adS s:Int)
 nr:pwm (pS s) 5 ((pS s-1)/2)=pS s-1
 pr:Pr (pS s)
 sm:Sm (pS s)
 o2:pS s%2=1
theorem TQ {s:Int} (hs:ac s=true):aix s:=by
 have pr:=(be hs).pr
 have sm:Sm (pS s):=gU hs
 rcases b6 hs with rfl|rfl|rfl|rfl<;>
  exact ⟨by decide+kernel,by decide+kernel,by decide+kernel,by decide+kernel,by decide+kernel,by decide+kernel,pr,sm,by decide+kernel⟩
section
variable {s:Int} (k:aix s)
include k
theorem apS (a:Nat):(a^(F5 s).nat)^2^(adS s-1)=a^((pS s-1)/2):=by
 rw [<-Nat.pow_mul]
 congr 1
 have h:=k.od
 have ha:=k.ad
 obtain ⟨n,hn⟩:∃ n,adS s=n+1:=⟨adS s-1,by omega⟩
 rw [hn] at h⊢
 rw [Nat.pow_succ,<-Nat.mul_assoc] at h
 rw [show n+1-1=n by omega]
 omega
theorem ahg:(5^(F5 s).nat)^2^(adS s-1)%pS s=pS s-1:=by
 rw [apS k]
 have h:=k.nr
 have hp:=k.sm
 rw [af2 k.pr.1 (lb (by have:=hp.2;omega))] at h
 exact h
omit k in
theorem ahh:(ab.mk 5 0 0 0).nat=5:=by decide
theorem apf {a:ab} (he:a.nat^((pS s-1)/2)%pS s=1):(LD s a).nat<pS s/\(LD s a).nat*(LD s a).nat%pS s=a.nat%pS s:=by
 have hp:=k.sm
 have pr:=k.pr
 have e:LD s a=(aFb (pS s) (adS s-1) (lQ (pS s) a (hJ (SJ (F5 s) j3).1),lQ (pS s) a (F5 s),lQ (pS s) ⟨5,0,0,0⟩ (F5 s))).1:=by
  show (aFb (pS s) ((numOf s.toNat).2.1-1).toNat _).1=_
  rw [k.ai,show ((adS s:Int)-1).toNat=adS s-1 by omega]
  rfl
 rw [e]
 refine aCI hp pr (a:=a.nat) ⟨?_,?_,?_,?_,?_,?_⟩
 ·rw [kS hp pr.1];exact Nat.mod_lt _ pr.pos
 ·rw [kS hp pr.1];exact Nat.mod_lt _ pr.pos
 ·rw [kS hp pr.1];exact Nat.mod_lt _ pr.pos
 ·show (lQ (pS s) a (hJ (SJ (F5 s) j3).1)).nat*(lQ (pS s) a (hJ (SJ (F5 s) j3).1)).nat%pS s=a.nat*(lQ (pS s) a (F5 s)).nat%pS s
  rw [kS hp pr.1,kS hp pr.1,<-Nat.mul_mod,Nat.mul_mod_mod,<-Nat.pow_add,<-Nat.two_mul,k.up,Nat.pow_succ,Nat.mul_comm]
 ·show (lQ (pS s) a (F5 s)).nat^_%pS s=1
  rw [kS hp pr.1,im,apS k]
  exact he
 ·show (lQ (pS s) ⟨5,0,0,0⟩ (F5 s)).nat^_%pS s=pS s-1
  rw [kS hp pr.1,im,ahh]
  exact ahg k
end
theorem adi {p:Nat} (hp:Sm p) (ho:p%2=1) {x:ab} (hx:x.nat<p):(yR p x).nat<p/\(yR p x).nat%2=0/\(yR p x).nat*(yR p x).nat%p=x.nat*x.nat%p:=by
 have hb:(x.w0%2==1)=Nat.beq (x.nat%2) 1:=by
  have e:x.nat%2=x.w0.toNat%2:=by unfold Sx.ab.nat;omega
  rw [e]
  have h2:(x.w0%2).toNat=x.w0.toNat%2:=by rw [UInt64.toNat_mod];rfl
  rw [<-h2]
  by_cases h:x.w0%2=1
  ·rw [h];rfl
  ·have hn:¬(x.w0%2).toNat=1:=λe=>h (UInt64.toNat_inj.1 e)
   have:Nat.beq (x.w0%2).toNat 1=false:=by
    cases hb:Nat.beq (x.w0%2).toNat 1
    ·rfl
    ·exact absurd (aX hb) hn
   rw [this]
   simpa using h
 unfold yR
 rw [hb]
 cases hq:Nat.beq (x.nat%2) 1
 ·simp only [bo]
  have:=xO hq
  exact ⟨hx,by omega,trivial⟩
 ·simp only [aV]
  have h1:=aX hq
  have e:(n9 p x).nat=p-x.nat:=by
   rw [show (n9 p x).nat=(p-x.nat%p)%p from cL hp,bj hx,bj (by omega)]
  rw [e]
  refine ⟨by omega,by omega,?_⟩
  obtain ⟨d,hd⟩:∃ d,p=x.nat+d:=⟨p-x.nat,by omega⟩
  have e2:p-x.nat=d:=by omega
  rw [e2]
  have e3:d*d+p*x.nat=x.nat*x.nat+p*d:=by rw [hd];grind
  have:=congrArg (· %p) e3
  simp only [Nat.add_mul_mod_self_left] at this
  exact this
theorem asO {p:Nat} (pr:Pr p) (ho:p%2=1) {x y:Nat} (hx:x<p) (hy:y<p) (ex:x%2=0) (ey:y%2=0) (h:x*x%p=y*y%p):x=y:=by
 have hd:(p:Int)∣((x:Int)-y)*((x:Int)+y):=by
  obtain ⟨a,ha⟩:=avP (p:=p) (x*x)
  obtain ⟨b,hb⟩:=avP (p:=p) (y*y)
  rw [h] at ha
  rw [Int.natCast_mul] at ha hb
  generalize (((y*y%p):Nat):Int)=r at*
  exact ⟨b-a,by grind⟩
 rcases pr.ec hd with h|h
 ·exact fP hx hy h
 ·have h:(p:Int)∣((x+y:Nat):Int):=by rw [Int.natCast_add];exact h
  have h:=Int.natCast_dvd_natCast.1 h
  obtain ⟨c,hc⟩:=h
  have hc2:c<2:=by
   apply la
   intro h2
   have:=Nat.mul_le_mul_left p (show 2<=c by omega)
   omega
  rcases (show c=0\/c=1 by omega) with rfl|rfl<;>omega
def kF (p:Nat):Nat->ab->Nat->Nat
 |0,_,k=>k
 |n+1,s,k=>cond (eqE s j3) k (kF p n (aQ p s s) (k+1))
def tsB (p m k:Nat) (w:Ton):ab:=sqN p w.2.2 (m-k-1)
def tsW (p m k:Nat) (w:Ton):Ton:=(aQ p w.1 (tsB p m k w),aQ p w.2.1 (aQ p (tsB p m k w) (tsB p m k w)),aQ p (tsB p m k w) (tsB p m k w))
def tsF (p:Nat):Nat->Nat->Ton->Option ab
 |0,_,_=>none
 |f+1,m,w=>cond (eqE w.2.1 j3) (some w.1) (cond (Nat.beq (kF p m w.2.1 0) m) none (tsF p f (kF p m w.2.1 0) (tsW p m (kF p m w.2.1 0) w)))
section
variable {p:Nat}
theorem abQ (hp:Sm p):∀ (n:Nat) (s:ab) (k:Nat),s.nat<p->k<=kF p n s k/\kF p n s k<=k+n/\(kF p n s k<k+n->s.nat^2^(kF p n s k-k)%p=1)/\∀ j,k<=j->j<kF p n s k->s.nat^2^(j-k)%p≠1
 |0,s,k,_=>⟨Nat.le_refl _,Nat.le_refl _,λh=>absurd h (Nat.lt_irrefl _),λj h1 h2=>absurd h2 (by show ¬j<k;omega)⟩
 |n+1,s,k,hs=>by
  unfold kF
  rw [D0]
  cases hq:Nat.beq s.nat 1
  ·simp only [bo]
   obtain ⟨h1,h2,h3,h4⟩:=abQ hp n (aQ p s s) (k+1) (jH hp _ _)
   have e:∀ j,(aQ p s s).nat^2^j%p=s.nat^2^(j+1)%p:=λj=>by rw [AK hp,ao7]
   refine ⟨by omega,by omega,λh=> ?_,λj hj1 hj2=> ?_⟩
   ·have:=h3 (by omega)
    rw [e] at this
    rw [show kF p n (aQ p s s) (k+1)-k=kF p n (aQ p s s) (k+1)-(k+1)+1 by omega]
    exact this
   ·by_cases hj:j=k
    ·subst hj
     rw [Nat.sub_self,Nat.pow_zero,Nat.pow_one,bj hs]
     exact xO hq
    ·have:=h4 j (by omega) hj2
     rw [e] at this
     rw [show j-k=j-(k+1)+1 by omega]
     exact this
  ·simp only [aV]
   have h1:=aX hq
   refine ⟨Nat.le_refl _,by omega,λ_=> ?_,λj hj1 hj2=>by omega⟩
   rw [Nat.sub_self,Nat.pow_zero,Nat.pow_one,bj hs]
   exact h1
structure aGU (p a m:Nat) (w:Ton):Prop where
 x:w.1.nat<p
 t:w.2.1.nat<p
 z:w.2.2.nat<p
 sq:w.1.nat*w.1.nat%p=a*w.2.1.nat%p
 m1:1<=m
 neg:w.2.2.nat^2^(m-1)%p=p-1
theorem aCF (hp:Sm p) (pr:Pr p) {a m k:Nat} {w:Ton} (h:aGU p a m w) (hk0:1<=k) (hk:k<m) (h1:w.2.1.nat^2^k%p=1) (h2:w.2.1.nat^2^(k-1)%p≠1):
 aGU p a k (tsW p m k w)/\(tsW p m k w).2.1.nat^2^(k-1)%p=1:=by
 have hb:=aC8 hp h.z (m-k-1)
 have hz':(aQ p (tsB p m k w) (tsB p m k w)).nat^2^(k-1)%p=p-1:=by
  rw [AK hp,ao7]
  show (sqN p w.2.2 (m-k-1)).nat^_%p=_
  rw [hb,im,<-Nat.pow_mul,<-Nat.pow_add,show m-k-1+(k-1+1)=m-1 by omega]
  exact h.neg
 have ht:w.2.1.nat^2^(k-1)%p=p-1:=by
  have e:k=(k-1)+1:=by omega
  rw [e] at h1
  exact (Wl pr h1).resolve_left h2
 obtain ⟨g1,g2⟩:=aoE hp pr (u:=tsB p m k w) (z:=aQ p (tsB p m k w) (tsB p m k w)) h.sq ht (by rw [AK hp,Nat.mod_mod]) hz'
 exact ⟨⟨jH hp _ _,jH hp _ _,jH hp _ _,g1,hk0,hz'⟩,g2⟩
theorem aoy (hp:Sm p) (pr:Pr p) {a:Nat}:∀ (f m:Nat) (w:Ton),m<f->aGU p a m w->w.2.1.nat^2^(m-1)%p=1->∃ x,tsF p f m w=some x/\x.nat<p/\x.nat*x.nat%p=a%p
 |0,m,w,h,_,_=>absurd h (Nat.not_lt_zero _)
 |f+1,m,w,hf,h,hr=>by
  unfold tsF
  rw [D0]
  cases hq:Nat.beq w.2.1.nat 1
  ·simp only [bo]
   obtain ⟨k1,k2,k3,k4⟩:=abQ hp m w.2.1 0 h.t
   have m1:=h.m1
   have hk:kF p m w.2.1 0<m:=by
    apply la
    intro hn
    exact k4 (m-1) (by omega) (by omega) hr
   have hk0:1<=kF p m w.2.1 0:=by
    apply la
    intro hn
    have e:kF p m w.2.1 0=0:=by omega
    have:=k3 (by omega)
    rw [e,Nat.sub_self,Nat.pow_zero,Nat.pow_one,bj h.t] at this
    exact xO hq this
   have e1:=k3 (by omega)
   have e2:=k4 (kF p m w.2.1 0-1) (by omega) (by omega)
   rw [Nat.sub_zero] at e1 e2
   have hb:Nat.beq (kF p m w.2.1 0) m=false:=by
    cases hb:Nat.beq (kF p m w.2.1 0) m
    ·rfl
    ·have:=aX hb;omega
   rw [hb]
   obtain ⟨g1,g2⟩:=aCF hp pr h hk0 hk e1 e2
   exact aoy hp pr f _ _ (by omega) g1 g2
  ·simp only [aV]
   have h1:=aX hq
   have:=h.sq
   rw [h1,Nat.mul_one] at this
   exact ⟨w.1,rfl,h.x,this⟩
theorem aCH (hp:Sm p) (pr:Pr p) (h3:3<=p) {a f m:Nat} {w:Ton} (h:aGU p a m w) (hr:w.2.1.nat^2^(m-1)%p=p-1):tsF p f m w=none:=by
 cases f with
 |zero=>rfl
 |succ f=>
  unfold tsF
  rw [D0]
  have m1:=h.m1
  have up:∀ j,j<=m-1->w.2.1.nat^2^j%p≠1:=λj hj e=>by
   have:w.2.1.nat^2^(m-1)%p=1:=by
    rw [show m-1=j+(m-1-j) by omega,Nat.pow_add,Nat.pow_mul,Nat.pow_mod,e,Nat.one_pow,bj (by omega)]
   omega
  have hq:Nat.beq w.2.1.nat 1=false:=by
   cases hq:Nat.beq w.2.1.nat 1
   ·rfl
   ·have:=up 0 (by omega)
    rw [Nat.pow_zero,Nat.pow_one,bj h.t] at this
    exact absurd (aX hq) this
  rw [hq]
  obtain ⟨k1,k2,k3,k4⟩:=abQ hp m w.2.1 0 h.t
  have e:kF p m w.2.1 0=m:=by
   apply la
   intro hn
   have:=k3 (by omega)
   rw [Nat.sub_zero] at this
   exact up _ (by omega) this
  rw [e,Nat.beq_refl]
  rfl
end
section
variable {s:Int} (k:aix s)
include k
def fO (s:Int) (a:ab):Ton:=(lQ (pS s) a (hJ (SJ (F5 s) j3).1),lQ (pS s) a (F5 s),lQ (pS s) ⟨5,0,0,0⟩ (F5 s))
theorem akc (a:ab):aGU (pS s) a.nat (adS s) (fO s a):=by
 have hp:=k.sm
 have pr:=k.pr
 refine ⟨?_,?_,?_,?_,k.ad,?_⟩
 ·show (lQ (pS s) a _).nat<_
  rw [kS hp pr.1];exact Nat.mod_lt _ pr.pos
 ·show (lQ (pS s) a _).nat<_
  rw [kS hp pr.1];exact Nat.mod_lt _ pr.pos
 ·show (lQ (pS s) _ _).nat<_
  rw [kS hp pr.1];exact Nat.mod_lt _ pr.pos
 ·show (lQ (pS s) a (hJ (SJ (F5 s) j3).1)).nat*(lQ (pS s) a (hJ (SJ (F5 s) j3).1)).nat%pS s=a.nat*(lQ (pS s) a (F5 s)).nat%pS s
  rw [kS hp pr.1,kS hp pr.1,<-Nat.mul_mod,Nat.mul_mod_mod,<-Nat.pow_add,<-Nat.two_mul,k.up,Nat.pow_succ,Nat.mul_comm]
 ·show (lQ (pS s) ⟨5,0,0,0⟩ (F5 s)).nat^_%pS s=pS s-1
  rw [kS hp pr.1,im,ahh]
  exact ahg k
theorem ZP (a:ab):(fO s a).2.1.nat^2^(adS s-1)%pS s=a.nat^((pS s-1)/2)%pS s:=by
 show (lQ (pS s) a (F5 s)).nat^_%pS s=_
 rw [kS k.sm k.pr.1,im,apS k]
theorem asP {a:Nat} (ha:¬pS s∣a):a^((pS s-1)/2)%pS s=1\/a^((pS s-1)/2)%pS s=pS s-1:=by
 have hf:=NI k.pr ha
 have ho:=k.o2
 have h2:=k.pr.1
 have e:pS s-1=(pS s-1)/2+(pS s-1)/2:=by omega
 rw [e,Nat.pow_add,Nat.mul_mod] at hf
 exact aAm k.pr (Nat.mod_lt _ k.pr.pos) hf
theorem aCG {a:ab} (ha:a.nat<pS s) (hz:bJ a=false):(tsF (pS s) (adS s+1) (adS s) (fO s a)).map (yR (pS s))=
 cond (eqE (lQ (pS s) a (hJ (ka (numOf s.toNat).1 j3).1)) j3) (some (yR (pS s) (LD s a))) none:=by
 have hp:=k.sm
 have pr:=k.pr
 have h2:=pr.1
 have ho:=k.o2
 have h0:=akc k a
 have hpw:=ZP k a
 rw [D0,kS hp h2,k.hf]
 have hn:¬pS s∣a.nat:=λhd=>by
  have:=Nat.eq_zero_of_dvd_of_lt hd ha
  rw [dM,this] at hz
  cases hz
 rcases asP k hn with h|h
 ·rw [h]
  obtain ⟨x,e1,e2,e3⟩:=aoy hp pr (adS s+1) (adS s) _ (by omega) h0 (by rw [hpw];exact h)
  rw [e1]
  obtain ⟨r1,r2⟩:=apf k h
  obtain ⟨v1,v2,v3⟩:=adi hp ho e2
  obtain ⟨w1,w2,w3⟩:=adi hp ho r1
  show some _=some _
  rw [iY (asO pr ho v1 w1 v2 w2 (by rw [v3,w3,e3,r2]))]
 ·have h3:3<=pS s:=by omega
  rw [aCH hp pr h3 h0 (by rw [hpw];exact h),h]
  have:Nat.beq (pS s-1) 1=false:=by
   cases hb:Nat.beq (pS s-1) 1
   ·rfl
   ·have:=aX hb;omega
  rw [this]
  rfl
end
theorem zero_eq {e:ab} (h:bJ e=true):e=⟨0,0,0,0⟩:=iY (by rw [dM] at h;rw [aX h];exact lL.symm)
def sqA (s:Int) (x:ab):ab:=ofP (pS s) (L5 (pS s) x (bS s))
def sqB (s:Int) (x:ab):Bool:=eqE (lQ (pS s) (sqA s x) (hJ (ka (numOf s.toNat).1 j3).1)) j3
def sqY (s:Int) (x:ab):ab:=yR (pS s) (LD s (sqA s x))
def ptD (s:Int) (x:ab) (odd:Bool):Pt:=(x,cond odd (n9 (pS s) (sqY s x)) (sqY s x),false)
theorem aHr {s:Int} (hs:ac s=true) (x:ab):(sqA s x).nat<pS s/\((pS s:Nat):Int)∣((sqA s x).nat:Int)-((x.nat:Int)*x.nat*x.nat+(bS s).nat):=by
 have hp:Sm (pS s):=gU hs
 have e:(sqA s x).nat=(L5 (pS s) x (bS s)).nat%pS s:=cL hp
 have hlt:(L5 (pS s) x (bS s)).nat<pS s:=Sr hp _ _
 rw [e,bj hlt]
 refine ⟨hlt,?_⟩
 have c2:=b8 hp x x
 have c3:=b8 hp (aQ (pS s) x x) x
 have c4:=Yj hp (aQ (pS s) (aQ (pS s) x x) x) (bS s)
 unfold L5
 generalize aQ (pS s) (aQ (pS s) x x) x=xxx at*
 generalize aQ (pS s) x x=xx at*
 generalize fp (pS s) xxx (bS s)=z at*
 have:(z.nat:Int)-((x.nat:Int)*x.nat*x.nat+(bS s).nat)=((z.nat:Int)-(xxx.nat+(bS s).nat))+(((xxx.nat:Int)-xx.nat*x.nat)+(((xx.nat:Int)-x.nat*x.nat)*x.nat)):=by grind
 rw [this]
 exact Int.dvd_add c4 (Int.dvd_add c3 (Int.dvd_trans c2 (Int.dvd_mul_right ..)))
theorem aC9 {s:Int} (hs:ac s=true) (x:ab):bJ (sqA s x)=false:=by
 have h:=(aHr hs x).2
 cases hz:bJ (sqA s x)
 ·rfl
 ·exfalso
  rw [dM] at hz
  rw [aX hz] at h
  obtain ⟨k,hk⟩:=h
  exact (be hs).n2 (x.nat:Int) ⟨-k,by rw [Int.mul_neg,<-hk];simp⟩
theorem awV {s:Int} (hs:ac s=true):sqB s ⟨0,0,0,0⟩=false:=by
 rcases b6 hs with rfl|rfl|rfl|rfl<;>decide+kernel
theorem aHq {s:Int} (hs:ac s=true) {x:ab} (h:sqB s x=true):(sqY s x).nat<pS s/\(sqY s x).nat%2=0/\(sqY s x).nat*(sqY s x).nat%pS s=(sqA s x).nat%pS s:=by
 have k:=TQ hs
 unfold sqB at h
 rw [D0,kS k.sm k.pr.1,k.hf] at h
 obtain ⟨r1,r2⟩:=apf k (aX h)
 obtain ⟨e1,e2,e3⟩:=adi k.sm k.o2 r1
 exact ⟨e1,e2,e3.trans r2⟩
section
variable {s:Int} (hs:ac s=true)
include hs
end
def td:af:=⟨Om,[],true,0,false⟩
abbrev Wr:Type:=Oj
def ayt:Shape:=⟨126,[dC,jy,BT,(12,fH),BZ,(16,BW),zt],auP,0,true⟩
abbrev bG:Type:=(Unit×K4)×ao×Mf×oO
def ays:Shape:=⟨126,[dC,jy,BT,(12,fH),BZ,(16,BW),zt,(18,aB),(19,Fs)],auN,0,true⟩
abbrev ct:Type:=(Unit×Unit×Unit×Unit×Unit×Unit×Int×Int×bQ)×auC
def ou:Shape:=⟨126,[dC,jy,BT,(12,fH),BZ,(16,BW),zt,(18,aB)],auP,0,true⟩
abbrev fA:Type:=(Unit×Yo)×ao×Mf×oO
def ayz (a17:Int) (a18:Int) (c0:ao) (c1_0:UInt64) (c1_1:UInt64) (c1_2:UInt64) (c1_3:UInt64) (c1_4:Int) (c1_5:UInt64) (c1_6:UInt64) (c1_7:UInt64) (c1_8:UInt64) (c1_9:UInt64) (c1_10:UInt64) (c2:ao) (c3:ao) (c4:ao) (c5:ao) (c6:ao):OT (Sum ct aT):=
 let z0:Nat:=List.length c6
 let z1:Bool:=decide (4<=z0)
 let z2:UInt64:=List.getD c6 0 0
 let z3:UInt64:=List.getD c6 1 0
 let z4:UInt64:=List.getD c6 2 0
 let z5:UInt64:=List.getD c6 3 0
 let z6:ab:= {w0:=c1_0,w1:=c1_1,w2:=c1_2,w3:=c1_3}
 let z7:ab:= {w0:=z2,w1:=z3,w2:=z4,w3:=z5}
 let z8:ab:=aQ (ab.nat z6) z7 z7
 let z9:ao:=List.set (List.set (List.set (List.set c6 0 z8.w0) 1 z8.w1) 2 z8.w2) 3 z8.w3
 (gd [z1,decide (4<=List.length c2)] (.br (!(z2==List.getD c2 0 0&&(z3==List.getD c2 1 0&&(z4==List.getD c2 2 0&&(z5==List.getD c2 3 0&&true)))))
 (.br (decide (a18<a17))
  (gd [z1,z1,gy (((z6,c1_4,c1_5,c1_6,{w0:=c1_7,w1:=c1_8,w2:=c1_9,w3:=c1_10}),z7,z7,()),()),decide ((4/1:Nat)+0<=z0),decide (4<=List.length z9),inR (a18+(1:Int))] (.ok (.inl (((),(),(),(),(),(),a17,a18+(1:Int),(),()),c0,(c1_0,c1_1,c1_2,c1_3,c1_4,c1_5,c1_6,c1_7,c1_8,c1_9,c1_10,()),c2,c3,c4,c5,[List.getD z9 0 0,List.getD z9 1 0,List.getD z9 2 0,List.getD z9 3 0],()))))
  (.ok (.inr ⟨(.exit 2,ou),(((),(),(),(),(),(),a17,a18,()),c0,(c1_0,c1_1,c1_2,c1_3,c1_4,c1_5,c1_6,c1_7,c1_8,c1_9,c1_10,()),c2,c3,c4,c5,())⟩)))
 (.ok (.inr ⟨(.exit 2,ou),(((),(),(),(),(),(),a17,a18,()),c0,(c1_0,c1_1,c1_2,c1_3,c1_4,c1_5,c1_6,c1_7,c1_8,c1_9,c1_10,()),c2,c3,c4,c5,())⟩))))
def Gm (s:ct):OT (Sum ct aT):=ayz s.1.2.2.2.2.2.2.1 s.1.2.2.2.2.2.2.2.1 s.2.1 s.2.2.1.1 s.2.2.1.2.1 s.2.2.1.2.2.1 s.2.2.1.2.2.2.1 s.2.2.1.2.2.2.2.1 s.2.2.1.2.2.2.2.2.1 s.2.2.1.2.2.2.2.2.2.1 s.2.2.1.2.2.2.2.2.2.2.1 s.2.2.1.2.2.2.2.2.2.2.2.1 s.2.2.1.2.2.2.2.2.2.2.2.2.1 s.2.2.1.2.2.2.2.2.2.2.2.2.2.1 s.2.2.2.1 s.2.2.2.2.1 s.2.2.2.2.2.1 s.2.2.2.2.2.2.1 s.2.2.2.2.2.2.2.1
def ag5 (g2_2:ct->fA) (s:ct):OT aT:=(.ok ⟨(.exit 2,ou),g2_2 s⟩)
def ayr:Shape:=⟨126,[dC,jy,BT,(12,fH),BZ,(16,BW),(18,aB),(20,Fs),(97,aB),(98,aB)],auN,0,true⟩
abbrev cr:Type:=(Unit×Unit×Unit×Unit×Unit×Unit×Int×Unit×jv)×auC
def vo:Shape:=⟨126,[dC,jy,BT,(12,fH),BZ,(16,BW),(18,aB),(20,Fs)],auN,0,true⟩
abbrev fy:Type:=(Unit×Unit×Unit×Unit×Unit×Unit×Int×bQ)×auC
def ayy (a18:Int) (a97:Int) (a98:Int) (c0:ao) (c1_0:UInt64) (c1_1:UInt64) (c1_2:UInt64) (c1_3:UInt64) (c1_4:Int) (c1_5:UInt64) (c1_6:UInt64) (c1_7:UInt64) (c1_8:UInt64) (c1_9:UInt64) (c1_10:UInt64) (c2:ao) (c3:ao) (c4:ao) (c5:ao) (c6:ao):OT (Sum cr aT):=
 let z0:Nat:=List.length c6
 let z1:Bool:=decide (4<=z0)
 let z2:ab:= {w0:=c1_0,w1:=c1_1,w2:=c1_2,w3:=c1_3}
 let z3:ab:= {w0:=List.getD c6 0 0,w1:=List.getD c6 1 0,w2:=List.getD c6 2 0,w3:=List.getD c6 3 0}
 let z4:ab:=aQ (ab.nat z2) z3 z3
 (.br (decide (a98<a97))
 (gd [z1,z1,gy (((z2,c1_4,c1_5,c1_6,{w0:=c1_7,w1:=c1_8,w2:=c1_9,w3:=c1_10}),z3,z3,()),()),decide ((4/1:Nat)+0<=z0),inR (a98+(1:Int))] (.ok (.inl (((),(),(),(),(),(),a18,(),a97,a98+(1:Int),()),c0,(c1_0,c1_1,c1_2,c1_3,c1_4,c1_5,c1_6,c1_7,c1_8,c1_9,c1_10,()),c2,c3,c4,c5,List.set (List.set (List.set (List.set c6 0 z4.w0) 1 z4.w1) 2 z4.w2) 3 z4.w3,()))))
 (.ok (.inr ⟨(.exit 4,vo),(((),(),(),(),(),(),a18,(),()),c0,(c1_0,c1_1,c1_2,c1_3,c1_4,c1_5,c1_6,c1_7,c1_8,c1_9,c1_10,()),c2,c3,c4,c5,c6,())⟩)))
def Gl (s:cr):OT (Sum cr aT):=ayy s.1.2.2.2.2.2.2.1 s.1.2.2.2.2.2.2.2.2.1 s.1.2.2.2.2.2.2.2.2.2.1 s.2.1 s.2.2.1.1 s.2.2.1.2.1 s.2.2.1.2.2.1 s.2.2.1.2.2.2.1 s.2.2.1.2.2.2.2.1 s.2.2.1.2.2.2.2.2.1 s.2.2.1.2.2.2.2.2.2.1 s.2.2.1.2.2.2.2.2.2.2.1 s.2.2.1.2.2.2.2.2.2.2.2.1 s.2.2.1.2.2.2.2.2.2.2.2.2.1 s.2.2.1.2.2.2.2.2.2.2.2.2.2.1 s.2.2.2.1 s.2.2.2.2.1 s.2.2.2.2.2.1 s.2.2.2.2.2.2.1 s.2.2.2.2.2.2.2.1
def ag4 (g4_4:cr->fy) (s:cr):OT aT:=(.ok ⟨(.exit 4,vo),g4_4 s⟩)
def lO:Shape:=⟨126,[dC,(5,aB)],[fV],0,true⟩
abbrev jN:Type:=oK×tY
def ov:Shape:=⟨126,[dC,jy,(16,fu)],[fV,(1,Oo),kW],0,true⟩
abbrev mo:Type:=nC×ao×Mf×tY
def Rg (ok2:ct->Bool) (g2_2:ct->fA) (ok4:cr->Bool) (g4_4:cr->fy) (a17:Int) (c0:ao) (c1_0:UInt64) (c1_1:UInt64) (c1_2:UInt64) (c1_3:UInt64) (c1_4:Int) (c1_5:UInt64) (c1_6:UInt64) (c1_7:UInt64) (c1_8:UInt64) (c1_9:UInt64) (c1_10:UInt64) (c2:ao) (c3:ao) (c4:ao) (c5:ao):OT (Sum bG aT):=
 let z0:Bool:=decide (4<=List.length c4)
 let z1:UInt64:=List.getD c4 0 0
 let z2:UInt64:=List.getD c4 1 0
 let z3:UInt64:=List.getD c4 2 0
 let z4:UInt64:=List.getD c4 3 0
 let z5:ct:=(((),(),(),(),(),(),a17,(0:Int),(),()),c0,(c1_0,c1_1,c1_2,c1_3,c1_4,c1_5,c1_6,c1_7,c1_8,c1_9,c1_10,()),c2,c3,c4,c5,[z1,z2,z3,z4],())
 let z6:fA:=g2_2 z5
 let z7:=z6.fst.snd.snd.snd.snd.snd.snd
 let z8:=z7.snd.fst
 let z9:=z7.fst
 let z10:=z6.snd
 let z11:=z10.fst
 let z12:=z10.snd
 let z13:=z12.snd
 let z14:=z13.snd
 let z15:=z14.fst
 let z16:Int:=z9-z8
 let z17:=z12.fst
 let z18:=z17.snd
 let z19:=z18.snd
 let z20:=z19.snd
 let z21:=z20.snd
 let z22:=z21.snd
 let z23:=z22.snd
 let z24:=z23.snd
 let z25:=z24.snd
 let z26:=z25.snd
 let z27:=z14.snd
 let z28:cr:=(((),(),(),(),(),(),z8,(),z16-(1:Int),(0:Int),()),z11,(z17.fst,z18.fst,z19.fst,z20.fst,z21.fst,z22.fst,z23.fst,z24.fst,z25.fst,z26.fst,z26.snd.fst,()),z13.fst,z15,z27.fst,z27.snd.fst,[List.getD z15 0 0,List.getD z15 1 0,List.getD z15 2 0,List.getD z15 3 0],())
 let z29:fy:=g4_4 z28
 let z30:=z29.snd
 let z31:=z30.snd
 let z32:=z31.snd
 let z33:=z32.snd
 let z34:=z33.snd
 let z35:=z34.snd
 let z36:=z35.snd.fst
 let z37:Bool:=decide (4<=List.length z36)
 let z38:=z31.fst
 let z39:=z38.fst
 let z40:=z38.snd
 let z41:=z40.fst
 let z42:=z40.snd
 let z43:=z42.fst
 let z44:=z42.snd
 let z45:=z44.fst
 let z46:ab:= {w0:=z39,w1:=z41,w2:=z43,w3:=z45}
 let z47:=z44.snd
 let z48:=z47.fst
 let z49:=z47.snd
 let z50:=z49.fst
 let z51:=z49.snd
 let z52:=z51.fst
 let z53:=z51.snd
 let z54:=z53.fst
 let z55:=z53.snd
 let z56:=z55.fst
 let z57:=z55.snd
 let z58:=z57.fst
 let z59:=z57.snd.fst
 let z60:iD:=(z46,z48,z50,z52,{w0:=z54,w1:=z56,w2:=z58,w3:=z59})
 let z61:ab:= {w0:=List.getD z36 0 0,w1:=List.getD z36 1 0,w2:=List.getD z36 2 0,w3:=List.getD z36 3 0}
 let z62:rq:=(z61,())
 let z63:=z33.fst
 let z64:=z34.fst
 let z65:Nat:=List.length z64
 let z66:Nat:=ab.nat z46
 let z67:ab:=aQ z66 z61 z61
 let z68:ao:=List.set (List.set (List.set (List.set z63 0 z67.w0) 1 z67.w1) 2 z67.w2) 3 z67.w3
 let z69:ab:= {w0:=List.getD z64 0 0,w1:=List.getD z64 1 0,w2:=List.getD z64 2 0,w3:=List.getD z64 3 0}
 let z70:ab:= {w0:=List.getD z68 0 0,w1:=List.getD z68 1 0,w2:=List.getD z68 2 0,w3:=List.getD z68 3 0}
 let z71:=z35.fst
 let z72:Nat:=List.length z71
 let z73:ab:= {w0:=List.getD z71 0 0,w1:=List.getD z71 1 0,w2:=List.getD z71 2 0,w3:=List.getD z71 3 0}
 let z74:ab:=aQ z66 z69 z70
 let z75:ab:=aQ z66 z73 z61
 (gd [z0,decide (4<=List.length c2)] (.br (!(z1==List.getD c2 0 0&&(z2==List.getD c2 1 0&&(z3==List.getD c2 2 0&&(z4==List.getD c2 3 0&&true)))))
 (gd [z0,ok2 z5] (.br (z8==z9)
  (gd [decide (4<=List.length z11)] (.ok (.inr ⟨(.ret,lO),(((),(22:Int),()),List.set (List.set (List.set (List.set z11 0 (0:UInt64)) 1 (0:UInt64)) 2 (0:UInt64)) 3 (0:UInt64),())⟩)))
  (gd [decide (4<=List.length z15),inR z16,inR (z16-(1:Int)),ok4 z28,z37,z37,gy ((z60,z61,z62),()),decide ((4/1:Nat)+0<=List.length z63),decide (4<=z65),decide (4<=List.length z68),gy ((z60,z69,z70,()),()),decide ((4/1:Nat)+0<=z65),decide (4<=z72),z37,gy ((z60,z73,z62),()),decide ((4/1:Nat)+0<=z72)] (.ok (.inl (((),(),(),(),(),(),z29.fst.snd.snd.snd.snd.snd.snd.fst,()),z30.fst,(z39,z41,z43,z45,z48,z50,z52,z54,z56,z58,z59,()),z32.fst,z68,List.set (List.set (List.set (List.set z64 0 z74.w0) 1 z74.w1) 2 z74.w2) 3 z74.w3,List.set (List.set (List.set (List.set z71 0 z75.w0) 1 z75.w1) 2 z75.w2) 3 z75.w3,()))))))
 (.ok (.inr ⟨(.exit 0,ov),(((),(),(),()),c0,(c1_0,c1_1,c1_2,c1_3,c1_4,c1_5,c1_6,c1_7,c1_8,c1_9,c1_10,()),c5,())⟩))))
def Be (ok2:ct->Bool) (g2_2:ct->fA) (ok4:cr->Bool) (g4_4:cr->fy) (s:bG):OT (Sum bG aT):=Rg ok2 g2_2 ok4 g4_4 s.1.2.2.2.2.2.2.1 s.2.1 s.2.2.1.1 s.2.2.1.2.1 s.2.2.1.2.2.1 s.2.2.1.2.2.2.1 s.2.2.1.2.2.2.2.1 s.2.2.1.2.2.2.2.2.1 s.2.2.1.2.2.2.2.2.2.1 s.2.2.1.2.2.2.2.2.2.2.1 s.2.2.1.2.2.2.2.2.2.2.2.1 s.2.2.1.2.2.2.2.2.2.2.2.2.1 s.2.2.1.2.2.2.2.2.2.2.2.2.2.1 s.2.2.2.1 s.2.2.2.2.1 s.2.2.2.2.2.1 s.2.2.2.2.2.2.1
def ag6 (g0_r:bG->jN) (c0_r:bG->Bool) (g0_0:bG->mo) (s:bG):OT aT:=(.br (c0_r s) (.ok ⟨(.ret,lO),g0_r s⟩) (.ok ⟨(.exit 0,ov),g0_0 s⟩))
def eK:aH:=⟨jz,[],false⟩
def JD (ok2:ct->Bool) (g2_2:ct->fA) (ok4:cr->Bool) (g4_4:cr->fy) (ok0:bG->Bool) (g0_r:bG->jN) (c0_r:bG->Bool) (g0_0:bG->mo) (a0:Int) (a1:ab):OT td.Y:=
 let z0:iD:=numOf (Int.toNat a0)
 let z1:=z0.fst
 let z2:ab:=ofN (ab.nat a1%ab.nat z1)
 let z3:ab:= {w0:=1,w1:=0,w2:=0,w3:=0}
 let z4:=(ka z1 z3).fst
 let z5:=z0.snd
 let z6:=z5.fst
 let z7:ab:= {w0:=5,w1:=0,w2:=0,w3:=0}
 let z8:ab:=jd z4 (Int.toNat z6)
 let z9:rq:=(z8,())
 let z10:ab:=hJ (SJ z8 z3).fst
 let z11:=z5.snd
 let z12:=z11.snd
 let z13:=z12.snd
 let z14:Nat:=pS a0
 let z15:ab:=lQ z14 z7 z8
 let z16:ab:=lQ z14 z2 z8
 let z17:ab:=lQ z14 z2 z10
 let z18:bG:=(((),(),(),(),(),(),z6,()),[(0:UInt64),(0:UInt64),(0:UInt64),(0:UInt64)],(z1.w0,z1.w1,z1.w2,z1.w3,z6,z11.fst,z12.fst,z13.w0,z13.w1,z13.w2,z13.w3,()),[(1:UInt64),(0:UInt64),(0:UInt64),(0:UInt64)],[z15.w0,z15.w1,z15.w2,z15.w3],[z16.w0,z16.w1,z16.w2,z16.w3],[z17.w0,z17.w1,z17.w2,z17.w3],())
 let z19:jN:=g0_r z18
 let z20:=z19.snd.fst
 let z21:=(g0_0 z18).snd
 let z22:=z21.snd
 let z23:=z22.snd.fst
 let z24:Nat:=List.length z23
 let z25:UInt64:=List.getD z23 0 0
 let z26:Bool:=decide (4<=z24)
 let z27:=z22.fst
 let z28:=z27.snd
 let z29:=z28.snd
 let z30:=z29.snd
 let z31:ab:= {w0:=z27.fst,w1:=z28.fst,w2:=z29.fst,w3:=z30.fst}
 let z32:=z30.snd
 let z33:=z32.snd
 let z34:=z33.snd
 let z35:=z34.snd
 let z36:=z35.snd
 let z37:=z36.snd
 let z38:ab:= {w0:=z25,w1:=List.getD z23 1 0,w2:=List.getD z23 2 0,w3:=List.getD z23 3 0}
 let z39:ab:=n9 (ab.nat z31) z38
 let z40:ao:=List.set (List.set (List.set (List.set z23 0 z39.w0) 1 z39.w1) 2 z39.w2) 3 z39.w3
 let z41:=z21.fst
 let z42:Nat:=List.length z41
 let z43:ao:=lay z41 z40 4 (0:UInt64)
 let z44:ao:=lay z41 z23 4 (0:UInt64)
 (.br (ac a0)
 (gd [gQ ((z0,a1,()),())] (.br (z2.w0==(0:UInt64)&&(z2.w1==(0:UInt64)&&(z2.w2==(0:UInt64)&&(z2.w3==(0:UInt64)&&true))))
  (.ok ⟨eK,((z2,(0:Int),()),())⟩)
  (gd [qw ((z4,z6,()),()),oA ((a0,z7,z9),()),oA ((a0,z2,z9),()),oA ((a0,z2,z10,()),()),ok0 z18] (.br (c0_r z18)
   (gd [decide (4<=List.length z20)] (.ok ⟨eK,(({w0:=List.getD z20 0 0,w1:=List.getD z20 1 0,w2:=List.getD z20 2 0,w3:=List.getD z20 3 0},z19.fst.snd.fst,()),())⟩))
   (gd [decide (0<z24)] (.br (z25&&&(1:UInt64)==(1:UInt64))
    (gd [z26,Bm (((z31,z32.fst,z33.fst,z34.fst,{w0:=z35.fst,w1:=z36.fst,w2:=z37.fst,w3:=z37.snd.fst}),z38,()),()),decide ((4/1:Nat)+0<=z24),decide (4<=List.length z40),decide ((4/1:Nat)+0<=z42),decide (4<=List.length z43)] (.ok ⟨eK,(({w0:=List.getD z43 0 0,w1:=List.getD z43 1 0,w2:=List.getD z43 2 0,w3:=List.getD z43 3 0},(0:Int),()),())⟩))
    (gd [z26,decide ((4/1:Nat)+0<=z42),decide (4<=List.length z44)] (.ok ⟨eK,(({w0:=List.getD z44 0 0,w1:=List.getD z44 1 0,w2:=List.getD z44 2 0,w3:=List.getD z44 3 0},(0:Int),()),())⟩))))))))
 (.ok ⟨eK,(({w0:=0,w1:=0,w2:=0,w3:=0},(20:Int),()),())⟩))
theorem amb (ok2:ct->Bool) (g2_2:ct->fA) (ok4:cr->Bool) (g4_4:cr->fy) (ok0:bG->Bool) (g0_r:bG->jN) (c0_r:bG->Bool) (g0_0:bG->mo) (h2:aY Gm ok2 (ag5 g2_2)) (h4:aY Gl ok4 (ag4 g4_4)) (h0:aY (Be ok2 g2_2 ok4 g4_4) ok0 (ag6 g0_r c0_r g0_0)) (pre:Wr->Bool) (F:Wr->OT td.Y) (hF:∀ (x:Wr) oy,pre x=true->(F x).run=some oy->(JD ok2 g2_2 ok4 g4_4 ok0 g0_r c0_r g0_0 x.1.1 x.1.2.1).run=some oy):aa ag 151 (td.aw pre F):=
 cC ul 151 Tryz.f151 td [eK] (js ul 0 ayt [(0,ov)] (some lO) none (Be ok2 g2_2 ok4 g4_4) (js ul 4 ayr [(4,vo)] none none Gl bw h4 (js ul 2 ays [(2,ou)] none none Gm bw h2 bw)) h0 bw) (λx=>JD ok2 g2_2 ok4 g4_4 ok0 g0_r c0_r g0_0 x.1.1 x.1.2.1) hF
abbrev C11:Type:=Mf
def oZ (c:C11):Mh:=(⟨c.1,c.2.1,c.2.2.1,c.2.2.2.1⟩,c.2.2.2.2.1,c.2.2.2.2.2.1,c.2.2.2.2.2.2.1,⟨c.2.2.2.2.2.2.2.1,c.2.2.2.2.2.2.2.2.1,c.2.2.2.2.2.2.2.2.2.1,c.2.2.2.2.2.2.2.2.2.2.1⟩)
def kv (s:ct):Bool:=kJ (oZ s.2.2.1)&&decide ((0<=s.1.2.2.2.2.2.2.1/\s.1.2.2.2.2.2.2.1<=1000)/\s.1.2.2.2.2.2.2.2.1=0/\s.2.2.2.1= [1,0,0,0]/\s.2.2.2.2.2.2.2.1.length=4)
def qs (s:ct):fA:=(((),(),(),(),(),(),s.1.2.2.2.2.2.2.1,(kF (oZ s.2.2.1).1.nat s.1.2.2.2.2.2.2.1.toNat (elemOf s.2.2.2.2.2.2.2.1) 0:Int),()),s.2.1,s.2.2.1,s.2.2.2.1,s.2.2.2.2.1,s.2.2.2.2.2.1,s.2.2.2.2.2.2.1,())
def aab (c0:ao) (C:C11) (z t x:ao) (m k:Int) (u:ab):ct:=(((),(),(),(),(),(),m,k,(),()),c0,C,lst j3,z,t,x,lst u,())
theorem afL (c0:ao) (C:C11) (z t x:ao) (m:Nat) (hC:kJ (oZ C)=true) (hm:m<=1000):∀ (n k:Nat) (u:ab),k+n=m->
 ∃ j,cx Gm j (aab c0 C z t x (m:Int) (k:Int) u)=some ⟨(.exit 2,ou),(((),(),(),(),(),(),(m:Int),(kF (oZ C).1.nat n u k:Int),()),c0,C,lst j3,z,t,x,())⟩
 |0,k,u,h=>by
  refine ⟨1,aO ?_⟩
  refine (ae rfl).trans ?_
  rcases (bX (eqE u j3)).symm with hq|hq
  ·exact (OT.ak (b:= !eqE u j3) (by rw [hq];rfl)).trans (OT.al (bn (by dsimp only [aab];omega)))
  ·exact OT.al (b:= !eqE u j3) (by rw [hq];rfl)
 |n+1,k,u,h=>by
  unfold kF
  rcases (bX (eqE u j3)).symm with hq|hq
  ·rw [hq]
   obtain ⟨j,hj⟩:=afL c0 C z t x m hC hm n (k+1) (aQ (oZ C).1.nat u u) (by omega)
   refine ⟨j+1,aS ?_ hj⟩
   refine (ae rfl).trans ((OT.ak (b:= !eqE u j3) (by rw [hq];rfl)).trans ((OT.ak (aj (by dsimp only [aab];omega))).trans ((ae ?_).trans rfl)))
   simp only [ax,aA,aC,av]
   exact ⟨rfl,rfl,hC,rfl,rfl,aL (by dsimp only [aab];omega)⟩
  ·rw [hq]
   refine ⟨1,aO ?_⟩
   exact (ae rfl).trans (OT.al (b:= !eqE u j3) (by rw [hq];rfl))
theorem ayw:aY Gm kv (ag5 qs):=by
 rintro ⟨⟨⟨⟩,⟨⟩,⟨⟩,⟨⟩,⟨⟩,⟨⟩,m,k,⟨⟩,⟨⟩⟩,⟨c0,C,one,z,t,x,u,⟨⟩⟩⟩ h
 simp only [kv,av,decide_eq_true_eq] at h
 obtain ⟨hC,⟨h0,h1⟩,rfl,rfl,hu⟩:=h
 obtain ⟨v,rfl⟩:∃ a,u=lst a:=⟨elemOf u,(bY hu).symm⟩
 obtain ⟨n,rfl⟩:∃ n:Nat,m=(n:Int):=⟨m.toNat,by omega⟩
 obtain ⟨j,hj⟩:=afL c0 C z t x n hC (by omega) n 0 v (by omega)
 exact ⟨j,_,hj,rfl⟩
def ku (s:cr):Bool:=kJ (oZ s.2.2.1)&&decide ((0<=s.1.2.2.2.2.2.2.2.2.1/\s.1.2.2.2.2.2.2.2.2.1<=1000)/\s.1.2.2.2.2.2.2.2.2.2.1=0/\s.2.2.2.2.2.2.2.1.length=4)
def qq (s:cr):fy:=(((),(),(),(),(),(),s.1.2.2.2.2.2.2.1,(),()),s.2.1,s.2.2.1,s.2.2.2.1,s.2.2.2.2.1,s.2.2.2.2.2.1,s.2.2.2.2.2.2.1,lst (sqN (oZ s.2.2.1).1.nat (elemOf s.2.2.2.2.2.2.2.1) s.1.2.2.2.2.2.2.2.2.1.toNat),())
theorem ayv:aY Gl ku (ag4 qq):=by
 rintro ⟨⟨⟨⟩,⟨⟩,⟨⟩,⟨⟩,⟨⟩,⟨⟩,k,⟨⟩,n,i,⟨⟩⟩,⟨c0,C,one,z,t,x,u,⟨⟩⟩⟩ h
 simp only [ku,av,decide_eq_true_eq] at h
 obtain ⟨hC,⟨h0,h1⟩,rfl,hu⟩:=h
 obtain ⟨v,rfl⟩:∃ a,u=lst a:=⟨elemOf u,(bY hu).symm⟩
 obtain ⟨d,rfl⟩:∃ d:Nat,n=(d:Int):=⟨n.toNat,by omega⟩
 have:=(aW (T:=Gl) (λi u=>((((),(),(),(),(),(),k,(),(d:Int),(i:Int),()),c0,C,one,z,t,x,lst u,()):cr)) (λ_ e=>aQ (oZ C).1.nat e e)
  (λu=>(⟨(.exit 4,vo),(((),(),(),(),(),(),k,(),()),c0,C,one,z,t,x,lst u,())⟩:aT)) d v (λ_ _=>True) trivial (λi u hi _=>⟨?_,trivial⟩) (λu _=> ?_)).1
 ·obtain ⟨m,hm⟩:=this
  exact ⟨m,_,hm,rfl⟩
 ·refine (OT.ak (aj (by dsimp only;omega))).trans ((ae ?_).trans rfl)
  simp only [ax,aA,aC,av]
  exact ⟨rfl,rfl,hC,rfl,aL (by omega)⟩
 ·exact OT.al (bn (by dsimp only;omega))
def aC7 (c0:ab) (C:C11) (m:Int) (w:Ton):bG:=(((),(),(),(),(),(),m,()),lst c0,C,lst j3,lst w.2.2,lst w.2.1,lst w.1,())
theorem aC6 {ok2:ct->Bool} {g2:ct->fA} {ok4:cr->Bool} {g4:cr->fy} {c0:ab} {C:C11} {m k:Nat} {w:Ton} {b:ab} (hC:kJ (oZ C)=true) (hm:m<=1000) (hq:eqE w.2.1 j3=false)
 (h2:ok2 (aab (lst c0) C (lst w.2.2) (lst w.2.1) (lst w.1) (m:Int) 0 w.2.1)=true)
 (e2:g2 (aab (lst c0) C (lst w.2.2) (lst w.2.1) (lst w.1) (m:Int) 0 w.2.1)=(((),(),(),(),(),(),(m:Int),(k:Int),()),lst c0,C,lst j3,lst w.2.2,lst w.2.1,lst w.1,())) (hk:k<=m)
 (h4:k<m->ok4 (((),(),(),(),(),(),(k:Int),(),(m:Int)-(k:Int)-1,0,()),lst c0,C,lst j3,lst w.2.2,lst w.2.1,lst w.1,lst w.2.2,())=true)
 (e4:g4 (((),(),(),(),(),(),(k:Int),(),(m:Int)-(k:Int)-1,0,()),lst c0,C,lst j3,lst w.2.2,lst w.2.1,lst w.1,lst w.2.2,())=(((),(),(),(),(),(),(k:Int),(),()),lst c0,C,lst j3,lst w.2.2,lst w.2.1,lst w.1,lst b,())):
 (Be ok2 g2 ok4 g4 (aC7 c0 C (m:Int) w)).run=cond (Nat.beq k m) (some (.inr ⟨(.ret,lO),(((),(22:Int),()),lst ⟨0,0,0,0⟩,())⟩))
  (some (.inl (aC7 c0 C (k:Int) (aQ (oZ C).1.nat w.1 b,aQ (oZ C).1.nat w.2.1 (aQ (oZ C).1.nat b b),aQ (oZ C).1.nat b b)))):=by
 obtain ⟨x,t,z⟩:=w
 unfold aab at h2 e2
 have hb:∀ e:ab,[List.getD (lst e) 0 0,List.getD (lst e) 1 0,List.getD (lst e) 2 0,List.getD (lst e) 3 0]=lst e:=λ_=>rfl
 have hpre:∀ a c:ab,gy ((oZ C,a,c,()),())=true:=λ_ _=>hC
 have e2':g2 (((),(),(),(),(),(),(m:Int),0,(),()),lst c0,(C.1,C.2.1,C.2.2.1,C.2.2.2.1,C.2.2.2.2.1,C.2.2.2.2.2.1,C.2.2.2.2.2.2.1,C.2.2.2.2.2.2.2.1,C.2.2.2.2.2.2.2.2.1,C.2.2.2.2.2.2.2.2.2.1,C.2.2.2.2.2.2.2.2.2.2.1,()),lst j3,lst z,lst t,lst x,lst t,())=(((),(),(),(),(),(),(m:Int),(k:Int),()),lst c0,C,lst j3,lst z,lst t,lst x,()):=e2
 have e4':g4 (((),(),(),(),(),(),(k:Int),(),(m:Int)-(k:Int)-1,0,()),lst c0,(C.1,C.2.1,C.2.2.1,C.2.2.2.1,C.2.2.2.2.1,C.2.2.2.2.2.1,C.2.2.2.2.2.2.1,C.2.2.2.2.2.2.2.1,C.2.2.2.2.2.2.2.2.1,C.2.2.2.2.2.2.2.2.2.1,C.2.2.2.2.2.2.2.2.2.2.1,()),lst j3,lst z,lst t,lst x,lst z,())=(((),(),(),(),(),(),(k:Int),(),()),lst c0,C,lst j3,lst z,lst t,lst x,lst b,()):=e4
 show (Rg ok2 g2 ok4 g4 (m:Int) (lst c0) C.1 C.2.1 C.2.2.1 C.2.2.2.1 C.2.2.2.2.1 C.2.2.2.2.2.1 C.2.2.2.2.2.2.1 C.2.2.2.2.2.2.2.1 C.2.2.2.2.2.2.2.2.1 C.2.2.2.2.2.2.2.2.2.1 C.2.2.2.2.2.2.2.2.2.2.1 (lst j3) (lst z) (lst t) (lst x)).run=_
 unfold Rg
 simp only [hb,e2',e4']
 refine (ae rfl).trans ((OT.ak (b:= !eqE t j3) (by rw [hq];rfl)).trans ((ae ?_).trans ?_))
 ·simp only [ax,aA,aC,av]
  exact ⟨rfl,h2⟩
 ·by_cases h:k=m
  ·subst h
   rw [Nat.beq_refl]
   refine (OT.ak (beq_self_eq_true _)).trans ((ae rfl).trans rfl)
  ·have hn:Nat.beq k m=false:=by
    cases hb:Nat.beq k m
    ·rfl
    ·exact absurd (aX hb) h
   rw [hn]
   refine (OT.al ?_).trans ((ae ?_).trans rfl)
   ·exact beq_false_of_ne (λe=>h (by omega))
   ·simp only [ax,aA,aC,av]
    exact ⟨rfl,aL (by omega),aL (by omega),h4 (by omega),rfl,rfl,hC,rfl,rfl,rfl,hC,rfl,rfl,rfl,hC,rfl⟩
def aFI (c0:ab) (C:C11):Option ab->aT
 |some x=>⟨(.exit 0,ov),(((),(),(),()),lst c0,C,lst x,())⟩
 |none=>⟨(.ret,lO),(((),(22:Int),()),lst ⟨0,0,0,0⟩,())⟩
theorem afM (c0:ab) (C:C11) (hC:kJ (oZ C)=true):∀ (f m:Nat) (w:Ton),m<f->m<=1000->
 ∃ j,cx (Be kv qs ku qq) j (aC7 c0 C (m:Int) w)=some (aFI c0 C (tsF (oZ C).1.nat f m w))
 |0,m,w,h,_=>absurd h (Nat.not_lt_zero _)
 |f+1,m,w,hf,hm=>by
  unfold tsF
  rcases (bX (eqE w.2.1 j3)).symm with hq|hq
  ·rw [hq]
   simp only [bo]
   have hk:kF (oZ C).1.nat m w.2.1 0<=m:=by
    have key:∀ (n:Nat) (s:ab) (k:Nat),kF (oZ C).1.nat n s k<=k+n:=by
     intro n
     induction n with
     |zero=>intro s k;exact Nat.le_refl _
     |succ n ih=>
      intro s k
      unfold kF
      cases eqE s j3
      ·have:=ih (aQ (oZ C).1.nat s s) (k+1)
       simp only [bo]
       omega
      ·simp only [aV]
       omega
    have:=key m w.2.1 0
    omega
   have hst:=aC6 (ok2:=kv) (g2:=qs) (ok4:=ku) (g4:=qq) (c0:=c0) (C:=C) (m:=m) (k:=kF (oZ C).1.nat m w.2.1 0) (w:=w) (b:=tsB (oZ C).1.nat m (kF (oZ C).1.nat m w.2.1 0) w) hC hm hq
    (by
     refine (av _ _).mpr ⟨hC,aj ⟨⟨?_,?_⟩,rfl,rfl,rfl⟩⟩
     ·show (0:Int)<=(m:Int);omega
     ·show (m:Int)<=1000;omega) rfl hk
    (λhlt=>by
     refine (av _ _).mpr ⟨hC,aj ⟨⟨?_,?_⟩,rfl,rfl⟩⟩
     ·show (0:Int)<=(m:Int)-(kF (oZ C).1.nat m w.2.1 0:Int)-1;omega
     ·show (m:Int)-(kF (oZ C).1.nat m w.2.1 0:Int)-1<=1000;omega)
    (by
     have e:((m:Int)-(kF (oZ C).1.nat m w.2.1 0:Int)-1).toNat=m-kF (oZ C).1.nat m w.2.1 0-1:=by omega
     show (((),(),(),(),(),(),(kF (oZ C).1.nat m w.2.1 0:Int),(),()),lst c0,C,lst j3,lst w.2.2,lst w.2.1,lst w.1,lst (sqN (oZ C).1.nat w.2.2 ((m:Int)-(kF (oZ C).1.nat m w.2.1 0:Int)-1).toNat),())=_
     rw [e]
     rfl)
   cases hb:Nat.beq (kF (oZ C).1.nat m w.2.1 0) m
   ·rw [hb] at hst
    have hne:=xO hb
    obtain ⟨j,hj⟩:=afM c0 C hC f (kF (oZ C).1.nat m w.2.1 0) (tsW (oZ C).1.nat m (kF (oZ C).1.nat m w.2.1 0) w) (by omega) (by omega)
    exact ⟨j+1,aS hst hj⟩
   ·rw [hb] at hst
    exact ⟨1,aO hst⟩
  ·rw [hq]
   simp only [aV]
   refine ⟨1,aO ?_⟩
   exact (ae rfl).trans (OT.al (b:= !eqE w.2.1 j3) (by rw [hq];rfl))
def tc (s:bG):Option ab:=tsF (oZ s.2.2.1).1.nat (s.1.2.2.2.2.2.2.1.toNat+1) s.1.2.2.2.2.2.2.1.toNat (elemOf s.2.2.2.2.2.2.1,elemOf s.2.2.2.2.2.1,elemOf s.2.2.2.2.1)
def ot (s:bG):Bool:=kJ (oZ s.2.2.1)&&decide ((0<=s.1.2.2.2.2.2.2.1/\s.1.2.2.2.2.2.2.1<=1000)/\s.2.1.length=4/\s.2.2.2.1= [1,0,0,0]/\s.2.2.2.2.1.length=4/\s.2.2.2.2.2.1.length=4/\s.2.2.2.2.2.2.1.length=4)
def Gk (s:bG):Bool:=(tc s).isNone
def Bc (_:bG):jN:=(((),(22:Int),()),lst ⟨0,0,0,0⟩,())
def Gj (s:bG):mo:=(((),(),(),()),s.2.1,s.2.2.1,lst ((tc s).getD ⟨0,0,0,0⟩),())
theorem ayx:aY (Be kv qs ku qq) ot (ag6 Bc Gk Gj):=by
 rintro ⟨⟨⟨⟩,⟨⟩,⟨⟩,⟨⟩,⟨⟩,⟨⟩,m,⟨⟩⟩,⟨c0,C,one,z,t,x,⟨⟩⟩⟩ h
 simp only [ot,av,decide_eq_true_eq] at h
 obtain ⟨hC,⟨h0,h1⟩,hc,rfl,hz,ht,hx⟩:=h
 obtain ⟨c,rfl⟩:∃ a,c0=lst a:=⟨elemOf c0,(bY hc).symm⟩
 obtain ⟨Z,rfl⟩:∃ a,z=lst a:=⟨elemOf z,(bY hz).symm⟩
 obtain ⟨T,rfl⟩:∃ a,t=lst a:=⟨elemOf t,(bY ht).symm⟩
 obtain ⟨X,rfl⟩:∃ a,x=lst a:=⟨elemOf x,(bY hx).symm⟩
 obtain ⟨n,rfl⟩:∃ n:Nat,m=(n:Int):=⟨m.toNat,by omega⟩
 obtain ⟨j,hj⟩:=afM c C hC (n+1) n (X,T,Z) (by omega) (by omega)
 refine ⟨j,_,hj,?_⟩
 show (OT.br (tsF (oZ C).1.nat (n+1) n (X,T,Z)).isNone (.ok ⟨(.ret,lO),_⟩) (.ok ⟨(.exit 0,ov),(((),(),(),()),lst c,C,lst ((tsF (oZ C).1.nat (n+1) n (X,T,Z)).getD ⟨0,0,0,0⟩),())⟩):OT aT).run=some (aFI c C (tsF (oZ C).1.nat (n+1) n (X,T,Z)))
 cases tsF (oZ C).1.nat (n+1) n (X,T,Z)<;>rfl
def Wq (_:Wr):Bool:=true
def arZ (x:Wr):OT td.Y:=.br (ac x.1.1) (.br (bJ (ofP (pS x.1.1) x.1.2.1)) (.ok ⟨eK,((⟨0,0,0,0⟩,(0:Int),()),())⟩)
 (.br (eqE (lQ (pS x.1.1) (ofP (pS x.1.1) x.1.2.1) (hJ (ka (numOf x.1.1.toNat).1 j3).1)) j3) (.ok ⟨eK,((yR (pS x.1.1) (LD x.1.1 (ofP (pS x.1.1) x.1.2.1)),(0:Int),()),())⟩) (.ok ⟨eK,((⟨0,0,0,0⟩,(22:Int),()),())⟩)))
 (.ok ⟨eK,((⟨0,0,0,0⟩,(20:Int),()),())⟩)
def aIk (n:Mh):C11:=(n.1.w0,n.1.w1,n.1.w2,n.1.w3,n.2.1,n.2.2.1,n.2.2.2.1,n.2.2.2.2.w0,n.2.2.2.2.w1,n.2.2.2.2.w2,n.2.2.2.2.w3,())
abbrev TR (n:Mh) (z t x:ab):bG:=(((),(),(),(),(),(),n.2.1,()),[0,0,0,0],(n.1.w0,n.1.w1,n.1.w2,n.1.w3,n.2.1,n.2.2.1,n.2.2.2.1,n.2.2.2.2.w0,n.2.2.2.2.w1,n.2.2.2.2.w2,n.2.2.2.2.w3,()),[1,0,0,0],[z.w0,z.w1,z.w2,z.w3],[t.w0,t.w1,t.w2,t.w3],[x.w0,x.w1,x.w2,x.w3],())
theorem amc {ok2:ct->Bool} {g2:ct->fA} {ok4:cr->Bool} {g4:cr->fy} {ok0:bG->Bool} {g0r:bG->jN} {c0:bG->Bool} {g0:bG->mo} {s:Int} {a A z t x X:ab} {c:Bool}
 (hs:ac s=true) (k:aix s) (hA:ofN (a.nat%(numOf s.toNat).1.nat)=A) (hz:bJ A=false) (ez:lQ (pS s) ⟨5,0,0,0⟩ (F5 s)=z) (et:lQ (pS s) A (F5 s)=t) (ex:lQ (pS s) A (hJ (SJ (F5 s) j3).1)=x)
 (h0:ok0 (TR (numOf s.toNat) z t x)=true) (hc:c0 (TR (numOf s.toNat) z t x)=c) (er:g0r (TR (numOf s.toNat) z t x)=(((),(22:Int),()),lst ⟨0,0,0,0⟩,()))
 (e0:g0 (TR (numOf s.toNat) z t x)=(((),(),(),()),lst ⟨0,0,0,0⟩,aIk (numOf s.toNat),lst X,())):
 (JD ok2 g2 ok4 g4 ok0 g0r c0 g0 s a).run=cond c (some ⟨eK,((⟨0,0,0,0⟩,(22:Int),()),())⟩) (some ⟨eK,((yR (pS s) X,(0:Int),()),())⟩):=by
 have ez':lQ (pS s) ⟨5,0,0,0⟩ (jd (ka (numOf s.toNat).1 ⟨1,0,0,0⟩).1 (numOf s.toNat).2.1.toNat)=z:=ez
 have et':lQ (pS s) A (jd (ka (numOf s.toNat).1 ⟨1,0,0,0⟩).1 (numOf s.toNat).2.1.toNat)=t:=et
 have ex':lQ (pS s) A (hJ (SJ (jd (ka (numOf s.toNat).1 ⟨1,0,0,0⟩).1 (numOf s.toNat).2.1.toNat) ⟨1,0,0,0⟩).1)=x:=ex
 have hp1:qw (((ka (numOf s.toNat).1 ⟨1,0,0,0⟩).1,(numOf s.toNat).2.1,()),())=true:=by
  refine aj ?_
  show 0<=(numOf s.toNat).2.1/\(numOf s.toNat).2.1<=1000000
  have h:=aBm hs
  omega
 unfold JD
 simp only [hA,ez',et',ex',er,e0,hc]
 refine (OT.ak hs).trans ((ae ?_).trans ((OT.al (b:=bJ A) hz).trans ((ae ?_).trans ?_)))
 ·simp only [ax,aA,aC]
  exact iW hs
 ·simp only [ax,aA,aC,av]
  exact ⟨hp1,hs,hs,hs,h0⟩
 ·cases c
  ·have hn:kJ (oZ (aIk (numOf s.toNat)))=true:=iW hs
   refine (OT.al rfl).trans ((ae rfl).trans ?_)
   have ho:=axu X
   unfold yR
   rcases (bX (X.w0%2==1)).symm with h|h
   ·rw [h] at ho⊢
    exact (OT.al ho).trans ((ae rfl).trans rfl)
   ·rw [h] at ho⊢
    refine (OT.ak ho).trans ((ae ?_).trans rfl)
    simp only [ax,aA,aC,av]
    exact ⟨rfl,hn,rfl,rfl,rfl,rfl⟩
  ·exact (OT.ak rfl).trans ((ae rfl).trans rfl)
theorem ayu:aa ag 151 (td.aw Wq arZ):=amb kv qs ku qq ot Bc Gk Gj ayw ayv ayx _ _ λx oy hp ho=>by
 rw [<-ho]
 clear ho
 obtain ⟨⟨s,a,⟨⟩⟩,⟨⟩⟩:=x
 show (JD kv qs ku qq ot Bc Gk Gj s a).run=(OT.br (ac s) (.br (bJ (ofP (pS s) a)) (.ok ⟨eK,((⟨0,0,0,0⟩,(0:Int),()),())⟩)
  (.br (eqE (lQ (pS s) (ofP (pS s) a) (hJ (ka (numOf s.toNat).1 j3).1)) j3) (.ok ⟨eK,((yR (pS s) (LD s (ofP (pS s) a)),(0:Int),()),())⟩) (.ok ⟨eK,((⟨0,0,0,0⟩,(22:Int),()),())⟩)))
  (.ok ⟨eK,((⟨0,0,0,0⟩,(20:Int),()),())⟩):OT td.Y).run
 rcases (bX (ac s)).symm with hs|hs
 ·exact (OT.al hs).trans (OT.al (b:=ac s) hs).symm
 ·have k:=TQ hs
  refine Eq.trans ?_ (OT.ak (b:=ac s) hs).symm
  have hA:ofN (a.nat%(numOf s.toNat).1.nat)=ofP (pS s) a:=rfl
  have hlt:(ofP (pS s) a).nat<pS s:=by
   rw [show (ofP (pS s) a).nat=a.nat%pS s from cL k.sm]
   exact Nat.mod_lt _ k.pr.pos
  generalize ofP (pS s) a=A at*
  rcases (bX (bJ A)).symm with hz|hz
  ·refine Eq.trans ?_ (OT.al (b:=bJ A) hz).symm
   have hsame:=aCG k hlt hz
   have hres:tc (TR (numOf s.toNat) (fO s A).2.2 (fO s A).2.1 (fO s A).1)=tsF (pS s) (adS s+1) (adS s) (fO s A):=rfl
   have hbd:=aBm hs
   have h0:ot (TR (numOf s.toNat) (fO s A).2.2 (fO s A).2.1 (fO s A).1)=true:=by
    refine (av _ _).mpr ⟨iW hs,aj ⟨⟨?_,?_⟩,rfl,rfl,rfl,rfl,rfl⟩⟩
    ·show 0<=(numOf s.toNat).2.1;omega
    ·show (numOf s.toNat).2.1<=1000;omega
   have main:=amc (ok2:=kv) (g2:=qs) (ok4:=ku) (g4:=qq) (ok0:=ot) (g0r:=Bc) (c0:=Gk) (g0:=Gj) (X:=(tc (TR (numOf s.toNat) (fO s A).2.2 (fO s A).2.1 (fO s A).1)).getD ⟨0,0,0,0⟩) hs k hA hz rfl rfl rfl h0 rfl rfl rfl
   refine main.trans ?_
   show cond (tc (TR (numOf s.toNat) (fO s A).2.2 (fO s A).2.1 (fO s A).1)).isNone _ _=_
   rw [hres]
   rcases (bX (eqE (lQ (pS s) A (hJ (ka (numOf s.toNat).1 j3).1)) j3)).symm with h|h
   ·rw [h] at hsame
    refine Eq.trans ?_ (OT.al h).symm
    cases ht:tsF (pS s) (adS s+1) (adS s) (fO s A) with
    |none=>rfl
    |some x=>rw [ht] at hsame;cases hsame
   ·rw [h] at hsame
    refine Eq.trans ?_ (OT.ak h).symm
    cases ht:tsF (pS s) (adS s+1) (adS s) (fO s A) with
    |none=>rw [ht] at hsame;cases hsame
    |some x=>
     rw [ht] at hsame
     have hsame:some (yR (pS s) x)=some (yR (pS s) (LD s A)):=hsame
     rw [<-Option.some.inj hsame]
     rfl
  ·refine Eq.trans ?_ (OT.ak (b:=bJ A) hz).symm
   rw [zero_eq hz] at hA
   refine (OT.ak hs).trans ((ae ?_).trans ?_)
   ·simp only [ax,aA,aC]
    exact iW hs
   ·rw [hA]
    rfl
def DG:bi:=(td.aw Wq arZ)
theorem acF:aa ag 151 DG:=ayu
theorem acE:au DG:=aq
def avm:Env:=ap 151 DG avy
theorem Lq:bI ag te avm:=aP follows ul acF acE
def kx:af:=⟨Om,[],true,0,false⟩
abbrev Bq:Type:=Oj
def amE:Shape:=⟨39,[rA,(7,mL),(21,aB),(22,aB)],[fV,nD],0,true⟩
abbrev dU:Type:=rv×ao×df
def ny:Shape:=⟨39,[(7,.own 0)],zA,0,true⟩
abbrev qy:Type:=bQ×df
def amH (a21:Int) (a22:Int) (c0:ao) (c1:aG):OT (Sum dU aT):=
 let z0:Int:=Int.tdiv a22 (8:Int)
 let z1:Int:=(8:Int)*Int.tmod a22 (8:Int)
 let z2:Nat:=List.length c1
 let z3:Nat:=Int.toNat a22
 (.br (decide (a22<a21))
 (gd [true&&inR z0,inB z0 4,decide (Int.toNat z0+0<List.length c0),inR z1,decide ((0:Int)<=z1),inB a22 z2,decide (z3<z2),inR (a22+(1:Int))] (.ok (.inl (((),(),a21,a22+(1:Int),()),c0,List.set c1 z3 (UInt64.toUInt8 (bA (List.getD c0 (Int.toNat z0+0) (0:UInt64)) z1)),()))))
 (.ok (.inr ⟨(.exit 0,ny),(((),()),c1,())⟩)))
def vz (s:dU):OT (Sum dU aT):=amH s.1.2.2.1 s.1.2.2.2.1 s.2.1 s.2.2.1
def NJ (g0_0:dU->qy) (s:dU):OT aT:=(.ok ⟨(.exit 0,ny),g0_0 s⟩)
def jR:aH:=⟨[.own 0],zA,false⟩
section
variable (ok0:dU->Bool) (g0_0:dU->qy)
def WT (a0:Int) (a1:ab):OT kx.Y:=
 let z0:iD:=numOf (Int.toNat a0)
 let z1:ab:=ofN (ab.nat a1%ab.nat z0.fst)
 let z2:dU:=(((),(),(32:Int),(0:Int),()),[z1.w0,z1.w1,z1.w2,z1.w3],List.replicate 32 (0:UInt8),())
 (.br (ac a0)
 (gd [gQ ((z0,a1,()),()),ok0 z2] (.ok ⟨jR,(((),()),(g0_0 z2).snd.fst,())⟩))
 (.ok ⟨jR,(((),()),[],())⟩))
theorem WS (h0:aY vz ok0 (NJ g0_0)) (pre:Bq->Bool) (F:Bq->OT kx.Y) (hF:∀ (x:Bq) oy,pre x=true->(F x).run=some oy->(WT ok0 g0_0 x.1.1 x.1.2.1).run=some oy):aa ag 135 (kx.aw pre F):=
 cC Lq 135 Tryz.f135 kx [jR] (js Lq 0 amE [(0,ny)] none none vz bw h0 bw) (λx=>WT ok0 g0_0 x.1.1 x.1.2.1) hF
end
def SM (e:ab):aG:=upto (λk o=>o.set k (UInt64.toUInt8 (bA ((lst e).getD (k/8) 0) (8*((k%8:Nat):Int))))) (List.replicate 32 0) 32
def yO (s:dU):Bool:=decide (s.1.2.2.1=32/\s.1.2.2.2.1=0/\s.2.1.length=4/\s.2.2.1=List.replicate 32 0)
def vy (s:dU):qy:=(((),()),SM (elemOf s.2.1),())
theorem amG:aY vz yO (NJ vy):=by
 rintro ⟨⟨⟨⟩,⟨⟩,n,i,⟨⟩⟩,⟨h,o,⟨⟩⟩⟩ hh
 have h':=bh hh
 dsimp only at h'
 obtain ⟨rfl,rfl,hl,rfl⟩:=h'
 obtain ⟨e,rfl⟩:∃ e,h=lst e:=⟨elemOf h,(bY hl).symm⟩
 have:=(aW (T:=vz) (λi o=>((((),(),(32:Int),(i:Int),()),lst e,o,()):dU)) (λk o=>o.set k (UInt64.toUInt8 (bA ((lst e).getD (k/8) 0) (8*((k%8:Nat):Int)))))
  (λo=>(⟨(.exit 0,ny),(((),()),o,())⟩:aT)) 32 (List.replicate 32 0) (λ_ o=>o.length=32) (by simp) (λi o hi ho=>⟨?_,by rw [dm];exact ho⟩) (λo ho=> ?_)).1
 ·obtain ⟨m,hm⟩:=this
  exact ⟨m,_,hm,rfl⟩
 ·have t1:Int.tdiv (i:Int) 8=((i/8:Nat):Int):=by rw [Int.tdiv_eq_ediv_of_nonneg (by omega)];omega
  have t2:Int.tmod (i:Int) 8=((i%8:Nat):Int):=by rw [Int.tmod_eq_emod_of_nonneg (by omega)];omega
  refine (OT.ak (aj (by dsimp only;omega))).trans ((ae ?_).trans ?_)
  ·simp only [t1,t2,oc,ho,bH,ax,aA,aC,av]
   exact ⟨⟨trivial,aL (by omega)⟩,aR (by omega),aj (by omega),aL (by omega),aj (by omega),aR (by omega),aj (by omega),aL (by omega)⟩
  ·simp only [OT.gb,t1,t2,bH,Nat.add_zero]
   rfl
 ·exact OT.al (bn (by dsimp only;omega))
theorem LX (e:ab):yO (((),(),32,0,()),lst e,List.replicate 32 0,())=true:=aj ⟨rfl,rfl,rfl,rfl⟩
theorem ac6 (z:ab):(OT.ok ⟨jR,(((),()),(vy (((),(),32,0,()),[z.w0,z.w1,z.w2,z.w3],List.replicate 32 0,())).2.1,())⟩:OT kx.Y)=.ok ⟨jR,(((),()),SM z,())⟩:=by
 have e:elemOf [z.w0,z.w1,z.w2,z.w3]=z:=rfl
 simp only [vy,e]
def JY (_:Bq):Bool:=true
def WU (x:Bq):OT kx.Y:=.br (ac x.1.1) (.ok ⟨jR,(((),()),SM (ofN (x.1.2.1.nat%(numOf x.1.1.toNat).1.nat)),())⟩) (.ok ⟨jR,(((),()),[],())⟩)
theorem amF:aa ag 135 (kx.aw JY WU):=WS yO vy amG _ _ λx oy hp ho=>by
 rw [<-ho]
 clear ho
 obtain ⟨⟨s,a,⟨⟩⟩,⟨⟩⟩:=x
 cases hs:ac s
 ·exact (OT.al hs).trans (OT.al (b:=ac s) hs).symm
 ·refine (OT.ak hs).trans ((ae ?_).trans ?_)
  ·simp only [ax,aA,aC,av]
   exact ⟨iW hs,LX _⟩
  ·refine Eq.trans ?_ (OT.ak (b:=ac s) hs).symm
   exact congrArg OT.run (ac6 (ofN (a.nat%(numOf s.toNat).1.nat)))
theorem qD (e:ab):(SM e).length=32:=by
 unfold SM
 have key:∀ n,(upto (λk (o:aG)=>o.set k (UInt64.toUInt8 (bA ((lst e).getD (k/8) 0) (8*((k%8:Nat):Int))))) (List.replicate 32 0) n).length=32:=by
  intro n
  induction n with
  |zero=>rfl
  |succ n ih=>exact (dm ..).trans ih
 exact key 32
def tB:bi:=(kx.aw JY WU)
theorem RA:aa ag 135 tB:=amF
theorem Rz:au tB:=aq
def Y7:Env:=ap 135 tB avm
theorem zF:bI ag te Y7:=aP follows Lq RA Rz
abbrev eJ:Pt:=(⟨0,0,0,0⟩,⟨0,0,0,0⟩,false)
def fE:af:=⟨[aB,iE],[],true,0,false⟩
abbrev qN:Type:=(Int×df)×Unit
def bp:aH:=⟨K8,[],false⟩
def BD (a0:Int) (a1:aG):OT fE.Y:=
 let z0:Bool:=ac a0
 let z1:Nat:=List.length a1
 let z2:ab:= {w0:=0,w1:=0,w2:=0,w3:=0}
 let z3:ab×Bool:=(z2,false)
 let z4:cM:=(z2,z3)
 let z5:Bool:=inB (31:Int) z1
 let z6:Bool:=decide (31<z1)
 let z7:UInt8:=List.getD a1 31 (0:UInt8)
 let z8:aG:=List.set a1 31 (z7&&&(127:UInt8))
 let z9:ab:=Vb z8
 let z10:Nat:=pS a0
 let z11:ab:=bS a0
 let z12:Bool:=tO ((a0,z9,z11,()),())
 let z13:ab:=ofP z10 (L5 z10 z9 z11)
 let z14:Bool:=bJ z13
 let z15:Bool:= !(0:UInt8)==z7>>>(7:UInt8)
 let z16:cM:=(z9,n9 z10 z2,false)
 let z17:cM:=(z9,z3)
 let z18:Bool:=eqE (lQ z10 z13 (hJ (ka (numOf (Int.toNat a0)).fst j3).fst)) j3
 let z19:ab:=yR z10 (LD a0 z13)
 let z20:Bool:= !UInt64.toUInt8 (z19.w0&&&(1:UInt64))==z7>>>(7:UInt8)
 let z21:cM:=(z9,n9 z10 z19,false)
 let z22:cM:=(z9,z19,false)
 (.br (z0)
 (.br (!(↑z1:Int)==(32:Int))
  (.ok ⟨bp,((z4,(41:Int),()),())⟩)
  (gd [fe ((a1,()),()),z5,z6,z5,z6,z5,z6] (.br (z0)
   (.br (nS z8)
    (.br (Nat.blt (ab.nat z9) z10)
     (.br (z9.w0==(0:UInt64)&&(z9.w1==(0:UInt64)&&(z9.w2==(0:UInt64)&&(z9.w3==(0:UInt64)&&true))))
      (.br (z7>>>(7:UInt8)==(0:UInt8))
       (.ok ⟨bp,(((z2,z2,true),(0:Int),()),())⟩)
       (gd [z12] (.br (z0)
        (.br (z14)
         (.br (z15)
          (.br (z0)
           (.ok ⟨bp,((z16,(0:Int),()),())⟩)
           (.ok ⟨bp,((z17,(0:Int),()),())⟩))
          (.ok ⟨bp,((z17,(0:Int),()),())⟩))
         (.br (z18)
          (.br (z20)
           (.br (z0)
            (.ok ⟨bp,((z21,(0:Int),()),())⟩)
            (.ok ⟨bp,((z17,(0:Int),()),())⟩))
           (.ok ⟨bp,((z22,(0:Int),()),())⟩))
          (.ok ⟨bp,((z4,(41:Int),()),())⟩)))
        (.ok ⟨bp,((z4,(41:Int),()),())⟩))))
      (gd [z12] (.br (z0)
       (.br (z14)
        (.br (z15)
         (.br (z0)
          (.ok ⟨bp,((z16,(0:Int),()),())⟩)
          (.ok ⟨bp,((z17,(0:Int),()),())⟩))
         (.ok ⟨bp,((z17,(0:Int),()),())⟩))
        (.br (z18)
         (.br (z20)
          (.br (z0)
           (.ok ⟨bp,((z21,(0:Int),()),())⟩)
           (.ok ⟨bp,((z17,(0:Int),()),())⟩))
          (.ok ⟨bp,((z22,(0:Int),()),())⟩))
         (.ok ⟨bp,((z4,(41:Int),()),())⟩)))
       (.ok ⟨bp,((z4,(41:Int),()),())⟩))))
     (.ok ⟨bp,((z4,(41:Int),()),())⟩))
    (.ok ⟨bp,((z4,(41:Int),()),())⟩))
   (.ok ⟨bp,((z4,(41:Int),()),())⟩))))
 (.ok ⟨bp,((z4,(40:Int),()),())⟩))
theorem Xx (pre:qN->Bool) (F:qN->OT fE.Y) (hF:∀ (x:qN) oy,pre x=true->(F x).run=some oy->(BD x.1.1 x.1.2.1).run=some oy):aa ag 115 (fE.aw pre F):=
 cC zF 115 Tryz.f115 fE [bp] bw (λx=>BD x.1.1 x.1.2.1) hF
def avM (b:aG):ab:=Vb (b.set 31 (b.getD 31 0&&&127))
def ali (b:aG):Bool:= !(b.getD 31 0>>>7==0)
theorem ayW {y:ab} (h:y.nat%2=0):UInt64.toUInt8 (y.w0&&&1)=0:=by
 have e:y.nat%2=y.w0.toNat%2:=by unfold Sx.ab.nat;omega
 have h2:(y.w0&&&1).toNat=y.w0.toNat%2:=by
  rw [UInt64.toNat_and]
  exact Nat.and_two_pow_sub_one_eq_mod y.w0.toNat 1
 have:y.w0&&&1=0:=UInt64.toNat_inj.1 (by rw [h2,<-e,h];rfl)
 rw [this]
 rfl
def adC (_:qN):Bool:=true
def aGx {S:af} (f:Pt->Int->OT S.Y) (s:Int) (b:aG):OT S.Y:=.br (ac s) (.br (nS b) (.br (Nat.blt (avM b).nat (pS s)) (.br (bJ (avM b)) (.br (ali b) (f eJ 41) (f aK 0)) (.br (sqB s (avM b)) (f (ptD s (avM b) (ali b)) 0) (f eJ 41))) (f eJ 41)) (f eJ 41)) (f eJ 40)
def ats (x:qN):OT fE.Y:=aGx (S:=fE) (λP e=>.ok ⟨bp,((P,e,()),())⟩) x.1.1 x.1.2.1
theorem Xy {s:Int} {b:List UInt8} {N:ab} (hN:avM b=N):(BD s b).run=(aGx (S:=fE) (λP e=>.ok ⟨bp,((P,e,()),())⟩) s b).run:=by
 have hN':Vb (List.set b 31 (List.getD b 31 0&&&127))=N:=hN
 unfold BD aGx
 rw [hN]
 simp only [hN']
 rcases (bX (ac s)).symm with hs|hs
 ·exact (OT.al hs).trans (OT.al (b:=ac s) hs).symm
 ·refine (OT.ak hs).trans (Eq.trans ?_ (OT.ak (b:=ac s) hs).symm)
  rcases (bX (nS b)).symm with hl|hl
  ·exact (OT.ak (b:= !nS b) (by rw [hl];rfl)).trans (OT.al (b:=nS b) hl).symm
  ·have hlen:=IV.1 hl
   have i1:inB 31 b.length=true:=aR (by omega)
   have i2:decide (31<b.length)=true:=aj (by omega)
   have i3:fe ((b,()),())=true:=aj (by show b.length<=_;omega)
   have i4:nS (List.set b 31 (List.getD b 31 0&&&127))=true:=IV.2 (by rw [dm];exact hlen)
   have hg:∀ z:ab,tO ((s,z,bS s,()),())=true:=λ_=>hs
   refine (OT.al (b:= !nS b) (by rw [hl];rfl)).trans (Eq.trans ((ae ?_).trans ((OT.ak hs).trans ((OT.ak i4).trans ?_))) (OT.ak (b:=nS b) hl).symm)
   ·simp only [i1,i2,i3,ax,aA,Bool.and_self]
   ·rcases (bX (Nat.blt N.nat (pS s))).symm with hb|hb
    ·exact (OT.al hb).trans (OT.al (b:=Nat.blt N.nat (pS s)) hb).symm
    ·refine (OT.ak hb).trans (Eq.trans ?_ (OT.ak (b:=Nat.blt N.nat (pS s)) hb).symm)
     have hA:=aC9 hs N
     have sg:(List.getD b 31 0>>>7==0)= !ali b:=by unfold ali;rw [Bool.not_not]
     rcases (bX (bJ N)).symm with hz|hz
     ·refine (OT.al (b:=bJ N) hz).trans (Eq.trans ?_ (OT.al (b:=bJ N) hz).symm)
      refine (ae (by rw [hg];rfl)).trans ((OT.ak hs).trans ((OT.al (b:=bJ (sqA s N)) hA).trans ?_))
      rcases (bX (sqB s N)).symm with hq|hq
      ·exact (OT.al (b:=sqB s N) hq).trans (OT.al (b:=sqB s N) hq).symm
      ·refine (OT.ak (b:=sqB s N) hq).trans (Eq.trans ?_ (OT.ak (b:=sqB s N) hq).symm)
       have hy:=ayW (aHq hs hq).2.1
       have hc:(!UInt64.toUInt8 ((sqY s N).w0&&&1)==List.getD b 31 0>>>7)=ali b:=by
        rw [hy]
        unfold ali
        rw [Bool.beq_comm]
       unfold ptD
       rcases (bX (ali b)).symm with ho|ho
       ·rw [ho] at hc⊢
        exact (OT.al hc).trans rfl
       ·rw [ho] at hc⊢
        exact (OT.ak hc).trans ((OT.ak hs).trans rfl)
     ·refine (OT.ak (b:=bJ N) hz).trans (Eq.trans ?_ (OT.ak (b:=bJ N) hz).symm)
      have hN0:=zero_eq hz
      rcases (bX (ali b)).symm with ho|ho
      ·exact (OT.ak (by rw [sg,ho];rfl)).trans (OT.al (b:=ali b) ho).symm
      ·refine (OT.al (by rw [sg,ho];rfl)).trans (Eq.trans ?_ (OT.ak (b:=ali b) ho).symm)
       have hq:sqB s N=false:=by rw [hN0];exact awV hs
       exact (ae (by rw [hg];rfl)).trans ((OT.ak hs).trans ((OT.al (b:=bJ (sqA s N)) hA).trans (OT.al (b:=sqB s N) hq)))
theorem anb:aa ag 115 (fE.aw adC ats):=Xx _ _ λx oy hp ho=>by
 rw [<-ho]
 clear ho
 obtain ⟨⟨s,b,⟨⟩⟩,⟨⟩⟩:=x
 exact Xy rfl
def gB:af:=⟨[aB,wH],[],true,0,false⟩
abbrev qK:Type:=(Int×rp)×Unit
def e9:aH:=⟨[.own 0],zA,false⟩
def BA (a0:Int) (a1:cM):OT gB.Y:=
 let z0:aG:=SM (ofN (ab.nat a1.fst%ab.nat (numOf (Int.toNat a0)).fst))
 let z1:Nat:=Int.toNat ((↑(List.length z0):Int)-(1:Int))
 (.br (!onB a0 a1)
 (.ok ⟨e9,(((),()),[],())⟩)
 (gd [ac a0] (.ok ⟨e9,(((),()),List.set z0 z1 (List.getD z0 z1 (0:UInt8)|||UInt64.toUInt8 (a1.snd.fst.w0&&&(1:UInt64))<<<(7:UInt8)),())⟩)))
theorem Xs (pre:qK->Bool) (F:qK->OT gB.Y) (hF:∀ (x:qK) oy,pre x=true->(F x).run=some oy->(BA x.1.1 x.1.2.1).run=some oy):aa ag 137 (gB.aw pre F):=
 cC zF 137 Tryz.f137 gB [e9] bw (λx=>BA x.1.1 x.1.2.1) hF
def aae (b:aG) (y:ab):aG:=b.set 31 (b.getD 31 0|||UInt64.toUInt8 (y.w0&&&1)<<<7)
def Gr (s:Int) (P:Pt):aG:=cond (onB s P) (aae (SM (ofP (pS s) P.1)) P.2.1) []
def adA (_:qK):Bool:=true
def atq (x:qK):OT gB.Y:=.br (onB x.1.1 x.1.2.1) (.ok ⟨e9,(((),()),aae (SM (ofP (pS x.1.1) x.1.2.1.1)) x.1.2.1.2.1,())⟩) (.ok ⟨e9,(((),()),[],())⟩)
theorem Xt {s:Int} {P:Pt} {B:List UInt8} (hB:SM (ofN (P.1.nat%(numOf s.toNat).1.nat))=B) (hl:B.length=32):(BA s P).run=(OT.br (onB s P) (.ok ⟨e9,(((),()),aae B P.2.1,())⟩) (.ok ⟨e9,(((),()),[],())⟩):OT gB.Y).run:=by
 unfold BA
 have e:Int.toNat ((B.length:Int)-1)=31:=by rw [hl];rfl
 simp only [hB,e]
 rcases (bX (onB s P)).symm with h|h
 ·exact (OT.ak (b:= !onB s P) (by rw [h];rfl)).trans (OT.al (b:=onB s P) h).symm
 ·refine (OT.al (b:= !onB s P) (by rw [h];rfl)).trans (Eq.trans ((ae ?_).trans rfl) (OT.ak (b:=onB s P) h).symm)
  simp only [ax,aA,aC]
  exact AF h
theorem am8:aa ag 137 (gB.aw adA atq):=Xs _ _ λx oy hp ho=>by
 rw [<-ho]
 clear ho
 obtain ⟨⟨s,P,⟨⟩⟩,⟨⟩⟩:=x
 exact Xt (B:=SM (ofP (pS s) P.1)) rfl (qD _)
abbrev EH:Type:=(aG×kU)×wg
abbrev LF:Type:=mH
section
variable (ok0:EH->Bool) (g0_0:EH->LF)
end
abbrev EJ:Type:=kU×ao×df
abbrev LH:Type:=bQ×df
section
variable (ok0:EJ->Bool) (g0_0:EJ->LH)
end
abbrev NZ:af:=fE
def aht (s:Int) (b:aG):Pt×Int:=cond (ac s) (cond (nS b) (cond (Nat.blt (avM b).nat (pS s)) (cond (bJ (avM b)) (cond (ali b) (eJ,41) (aK,0)) (cond (sqB s (avM b)) (ptD s (avM b) (ali b),0) (eJ,41))) (eJ,41)) (eJ,41)) (eJ,40)
theorem ay6 {S:af} (f:Pt->Int->OT S.Y) (s:Int) (b:aG):(aGx f s b).run=(f (aht s b).1 (aht s b).2).run:=by
 unfold aGx aht
 generalize avM b=N
 rcases (bX (ac s)).symm with h|h
 ·rw [h];rfl
 ·rcases (bX (nS b)).symm with h1|h1
  ·rw [h,h1];rfl
  ·rcases (bX (Nat.blt N.nat (pS s))).symm with h2|h2
   ·rw [h,h1,h2];rfl
   ·rcases (bX (bJ N)).symm with h3|h3
    ·rcases (bX (sqB s N)).symm with h4|h4
     ·rw [h,h1,h2,h3,h4];rfl
     ·rw [h,h1,h2,h3,h4];rfl
    ·rcases (bX (ali b)).symm with h4|h4
     ·rw [h,h1,h2,h3,h4];rfl
     ·rw [h,h1,h2,h3,h4];rfl
def Fe (_:qN):Bool:=true
def N0 (x:qN):OT fE.Y:=.ok ⟨bp,(((aht x.1.1 x.1.2.1).1,(aht x.1.1 x.1.2.1).2,()),())⟩
theorem adB:aa ag 115 (NZ.aw Fe N0):=cw (S:=fE) anb λx oy hp ho=>⟨rfl,(ay6 (S:=fE) (λP e=>.ok ⟨bp,((P,e,()),())⟩) x.1.1 x.1.2.1).trans ho⟩
def qM:bi:=(NZ.aw Fe N0)
theorem L9:aa ag 115 qM:=adB
theorem L8:au qM:=aq
def OM:Env:=ap 115 qM Y7
theorem Zd:bI ag te OM:=aP follows zF L9 L8
abbrev NX:af:=gB
def Fc (_:qK):Bool:=true
def NY (x:qK):OT gB.Y:=.ok ⟨e9,(((),()),Gr x.1.1 x.1.2.1,())⟩
theorem Xr (s:Int) (P:Pt):(OT.br (onB s P) (.ok ⟨e9,(((),()),aae (SM (ofP (pS s) P.1)) P.2.1,())⟩) (.ok ⟨e9,(((),()),[],())⟩):OT gB.Y).run=some ⟨e9,(((),()),Gr s P,())⟩:=by
 unfold Gr
 generalize aae (SM (ofP (pS s) P.1)) P.2.1=B
 rcases (bX (onB s P)).symm with h|h
 ·rw [h];rfl
 ·rw [h];rfl
theorem adz:aa ag 137 (NX.aw Fc NY):=cw (S:=gB) am8 λx oy hp ho=>⟨rfl,(Xr x.1.1 x.1.2.1).trans ho⟩
def qJ:bi:=(NX.aw Fc NY)
theorem L7:aa ag 137 qJ:=adz
theorem L6:au qJ:=aq
def OL:Env:=ap 137 qJ OM
theorem Fz:bI ag te OL:=aP follows Zd L7 L6
def EU:af:=⟨ic,[],true,0,false⟩
def Qt:aH:=⟨[.rI,aB],[],false⟩
def abq:aH:=⟨Ft,[aiu,(1,.row Cz)],false⟩
abbrev aqL:Type:=mG
def aqK (a0:Int):OT EU.Y:=
 (.br (decide (a0<(0:Int)))
 (.ok ⟨Qt,(((),(40:Int),()),())⟩)
 (.br (decide ((3:Int)<a0))
  (.ok ⟨Qt,(((),(40:Int),()),())⟩)
  (.ok ⟨abq,(((),(0:Int),()),(a0,(),()),[],())⟩)))
theorem aqJ (pre:aqL->Bool) (F:aqL->OT EU.Y) (hF:∀ (x:aqL) oy,pre x=true->(F x).run=some oy->(aqK x.1.1).run=some oy):aa ag 129 (EU.aw pre F):=
 cC Fz 129 Tryz.f129 EU [Qt,abq] bw (λx=>aqK x.1.1) hF
def agu (_:aqL):Bool:=true
def aAE (x:aqL):OT EU.Y:=.br (ac x.1.1) (.ok ⟨abq,(((),(0:Int),()),(x.1.1,(),()),[],())⟩) (.ok ⟨Qt,(((),(40:Int),()),())⟩)
theorem aDZ:aa ag 129 (EU.aw agu aAE):=aqJ _ _ λx oy _ ho=>by
 rw [<-ho]
 clear ho
 obtain ⟨⟨s,⟨⟩⟩,⟨⟩⟩:=x
 show (aqK s).run=(OT.br (ac s) _ _:OT EU.Y).run
 by_cases h0:s<0
 ·refine (OT.ak (aj h0)).trans (OT.al (b:=ac s) ?_).symm
  simp only [ac,bn (show ¬(0:Int)<=s by omega),Bool.false_and]
 ·refine (OT.al (bn h0)).trans ?_
  by_cases h3:3<s
  ·refine (OT.ak (aj h3)).trans (OT.al (b:=ac s) ?_).symm
   simp only [ac,bn (show ¬s<4 by omega),Bool.and_false]
  ·refine (OT.al (bn h3)).trans (OT.ak (b:=ac s) ?_).symm
   simp only [ac,aj (show (0:Int)<=s by omega),aj (show s<4 by omega),Bool.and_self]
def Ir:bi:=(EU.aw agu aAE)
theorem alz:aa ag 129 Ir:=aDZ
theorem aly:au Ir:=aq
def aBV:Env:=ap 129 Ir OL
theorem aiW:bI ag te aBV:=aP follows Fz alz aly
def aIm (w:Sh):CSh:=.cells [.val false .int,w]
def EY:af:=⟨[dW,dY,wH],[(0,aIm mL),(1,.row Cz)],false,1,true⟩
abbrev aqS:Type:=(Unit×ab×rp)×aii
def sI:aH:=⟨ic,[aiu,(1,ud)],false⟩
def aqR (a1:ab) (a2:cM) (c0_0:Int) (c1:cY):OT EY.Y:=
 let z0:Int:=bm c0_0 (1:Int)
 let z1:ab:= {w0:=0,w1:=0,w2:=0,w3:=0}
 (.br (!onB c0_0 a2)
 (.ok ⟨sI,(((41:Int),()),(c0_0,(),()),c1,())⟩)
 (.br (decide ((100000:Int)<=(↑(List.length c1):Int)))
  (.ok ⟨sI,(((50:Int),()),(c0_0,(),()),c1,())⟩)
  (.br (ac z0)
   (gd [decide ((List.length c1+1)*104<=140737488355328)] (.ok ⟨sI,(((0:Int),()),(c0_0,(),()),c1++ [(fp (pS z0) a1 z1,a2)],())⟩))
   (gd [decide ((List.length c1+1)*104<=140737488355328)] (.ok ⟨sI,(((0:Int),()),(c0_0,(),()),c1++ [(z1,a2)],())⟩)))))
theorem aqQ (pre:aqS->Bool) (F:aqS->OT EY.Y) (hF:∀ (x:aqS) oy,pre x=true->(F x).run=some oy->(aqR x.1.2.1 x.1.2.2.1 x.2.1.1 x.2.2.1).run=some oy):aa ag 130 (EY.aw pre F):=
 cC aiW 130 Tryz.f130 EY [sI] bw (λx=>aqR x.1.2.1 x.1.2.2.1 x.2.1.1 x.2.2.1) hF
abbrev Tm:Type:=Cz.T
def kK:Tm:=(⟨0,0,0,0⟩,⟨0,0,0,0⟩,⟨0,0,0,0⟩,false)
def Uc (l:List Tm):Bool:=decide (l.length<100000)
def agA (_:aqS):Bool:=true
def aAF (x:aqS):OT EY.Y:=.br (onB x.2.1.1 x.1.2.2.1) (.br (Uc x.2.2.1) (.ok ⟨sI,(((0:Int),()),(x.2.1.1,(),()),x.2.2.1++ [(FC x.2.1.1 x.1.2.1,x.1.2.2.1)],())⟩)
 (.ok ⟨sI,(((50:Int),()),(x.2.1.1,(),()),x.2.2.1,())⟩)) (.ok ⟨sI,(((41:Int),()),(x.2.1.1,(),()),x.2.2.1,())⟩)
theorem aD0:aa ag 130 (EY.aw agA aAF):=aqQ _ _ λx oy _ ho=>by
 rw [<-ho]
 clear ho
 obtain ⟨⟨⟨⟩,k,P,⟨⟩⟩,⟨⟨c,⟨⟩,⟨⟩⟩,l,⟨⟩⟩⟩:=x
 show (aqR k P c l).run=(OT.br (onB c P) (.br (Uc l) _ _) _:OT EY.Y).run
 rcases (bX (onB c P)).symm with h|h
 ·exact (OT.ak (b:= !onB c P) (by rw [h];rfl)).trans (OT.al (b:=onB c P) h).symm
 ·refine (OT.al (b:= !onB c P) (by rw [h];rfl)).trans (Eq.trans ?_ (OT.ak (b:=onB c P) h).symm)
  rcases (bX (Uc l)).symm with h2|h2
  ·have h3:=of_decide_eq_false h2
   exact (OT.ak (aj (by omega))).trans (OT.al (b:=Uc l) h2).symm
  ·have h3:=bh h2
   refine (OT.al (bn (by omega))).trans (Eq.trans ?_ (OT.ak (b:=Uc l) h2).symm)
   refine (OT.ak (dJ (AF h))).trans ((ae ?_).trans rfl)
   simp only [ax,aA,aC]
   exact aj (by omega)
def IJ:bi:=(EY.aw agA aAF)
theorem alI:aa ag 130 IJ:=aD0
theorem alH:au IJ:=aq
def aBW:Env:=ap 130 IJ aBV
theorem SC:bI ag te aBW:=aP follows aiW alI alH
def mi:af:=⟨[aB,.val false (.list Cz)],[],true,0,false⟩
abbrev AQ:Type:=Ym
def alt:Shape:=⟨26,[ig,dC,rB,(9,nH),(10,aB),(11,aB)],La,0,true⟩
abbrev dP:Type:=(Int×Unit×Unit×cY×jv)×tZ
def nj:Shape:=⟨26,[dC,rB],La,0,true⟩
abbrev pL:Type:=mK×tZ
def alw (a0:Int) (a9:cY) (a10:Int) (a11:Int) (c0_0:UInt64) (c0_1:UInt64) (c0_2:UInt64) (c0_3:UInt64) (c0_4:UInt64) (c0_5:UInt64) (c0_6:UInt64) (c0_7:UInt64) (c0_8:Bool) (c1_0:UInt64) (c1_1:UInt64) (c1_2:UInt64) (c1_3:UInt64) (c1_4:UInt64) (c1_5:UInt64) (c1_6:UInt64) (c1_7:UInt64) (c1_8:Bool):OT (Sum dP aT):=
 let z0:ab:= {w0:=0,w1:=0,w2:=0,w3:=0}
 let z1:Fm:=List.getD a9 (Int.toNat a11) (z0,z0,z0,false)
 let z2:cM:=fS a0 ({w0:=c1_0,w1:=c1_1,w2:=c1_2,w3:=c1_3},{w0:=c1_4,w1:=c1_5,w2:=c1_6,w3:=c1_7},c1_8) (sB a0 z1.fst z1.snd)
 let z3:=z2.fst
 let z4:=z2.snd
 let z5:=z4.fst
 (.br (decide (a11<a10))
 (gd [inB a11 (List.length a9),inR (a11+(1:Int))] (.ok (.inl ((a0,(),(),a9,a10,a11+(1:Int),()),(c0_0,c0_1,c0_2,c0_3,c0_4,c0_5,c0_6,c0_7,c0_8,()),(z3.w0,z3.w1,z3.w2,z3.w3,z5.w0,z5.w1,z5.w2,z5.w3,z4.snd,()),()))))
 (.ok (.inr ⟨(.exit 0,nj),(((),(),()),(c0_0,c0_1,c0_2,c0_3,c0_4,c0_5,c0_6,c0_7,c0_8,()),(c1_0,c1_1,c1_2,c1_3,c1_4,c1_5,c1_6,c1_7,c1_8,()),())⟩)))
def u6 (s:dP):OT (Sum dP aT):=alw s.1.1 s.1.2.2.2.1 s.1.2.2.2.2.1 s.1.2.2.2.2.2.1 s.2.1.1 s.2.1.2.1 s.2.1.2.2.1 s.2.1.2.2.2.1 s.2.1.2.2.2.2.1 s.2.1.2.2.2.2.2.1 s.2.1.2.2.2.2.2.2.1 s.2.1.2.2.2.2.2.2.2.1 s.2.1.2.2.2.2.2.2.2.2.1 s.2.2.1.1 s.2.2.1.2.1 s.2.2.1.2.2.1 s.2.2.1.2.2.2.1 s.2.2.1.2.2.2.2.1 s.2.2.1.2.2.2.2.2.1 s.2.2.1.2.2.2.2.2.2.1 s.2.2.1.2.2.2.2.2.2.2.1 s.2.2.1.2.2.2.2.2.2.2.2.1
def M4 (g0_0:dP->pL) (s:dP):OT aT:=(.ok ⟨(.exit 0,nj),g0_0 s⟩)
def De:aH:=⟨oP,[],false⟩
section
variable (ok0:dP->Bool) (g0_0:dP->pL)
def Vk (a0:Int) (a1:cY):OT mi.Y:=
 let z0:dP:=((a0,(),(),a1,(↑(List.length a1):Int),(0:Int),()),((0:UInt64),(0:UInt64),(0:UInt64),(0:UInt64),(0:UInt64),(0:UInt64),(0:UInt64),(0:UInt64),false,()),((0:UInt64),(0:UInt64),(0:UInt64),(0:UInt64),(0:UInt64),(0:UInt64),(0:UInt64),(0:UInt64),true,()),())
 let z1:=(g0_0 z0).snd.snd.fst
 let z2:=z1.snd
 let z3:=z2.snd
 let z4:=z3.snd
 let z5:=z4.snd
 let z6:=z5.snd
 let z7:=z6.snd
 let z8:=z7.snd
 (gd [ok0 z0] (.ok ⟨De,((({w0:=z1.fst,w1:=z2.fst,w2:=z3.fst,w3:=z4.fst},{w0:=z5.fst,w1:=z6.fst,w2:=z7.fst,w3:=z8.fst},z8.snd.fst),()),())⟩))
theorem Vj (h0:aY u6 ok0 (M4 g0_0)) (pre:AQ->Bool) (F:AQ->OT mi.Y) (hF:∀ (x:AQ) oy,pre x=true->(F x).run=some oy->(Vk ok0 g0_0 x.1.1 x.1.2.1).run=some oy):aa ag 180 (mi.aw pre F):=
 cC SC 180 Tryz.f180 mi [De] (js SC 0 alt [(0,nj)] none none u6 bw h0 bw) (λx=>Vk ok0 g0_0 x.1.1 x.1.2.1) hF
end
def fJ (c:Int) (l:List Tm) (k:Nat) (O:Pt):Pt:=fS c O (sB c (l.getD k kK).1 (l.getD k kK).2)
def po (c:Int) (l:List Tm):Pt:=upto (fJ c l) aK l.length
def Iq (s:dP):Bool:=decide (s.1.2.2.2.2.1=(s.1.2.2.2.1.length:Int)/\s.1.2.2.2.2.2.1=0/\Kn s.2.2.1=aK/\s.1.2.2.2.1.length<=140737488355328)
def M3 (s:dP):pL:=(((),(),()),s.2.1,bN (po s.1.1 s.1.2.2.2.1),())
theorem alv:aY u6 Iq (M4 M3):=by
 rintro ⟨⟨c,⟨⟩,⟨⟩,l,n,i,⟨⟩⟩,⟨c0,c1,⟨⟩⟩⟩ h
 have h':=bh h
 dsimp only at h'
 obtain ⟨rfl,rfl,hO,hl⟩:=h'
 have hO2:c1=bN aK:=by rw [<-hO];rfl
 subst hO2
 have:=(aW (T:=u6) (λi O=>(((c,(),(),l,(l.length:Int),(i:Int),()),c0,bN O,()):dP)) (fJ c l)
  (λO=>(⟨(.exit 0,nj),(((),(),()),c0,bN O,())⟩:aT)) l.length aK (λ_ _=>True) trivial (λk O hk _=>⟨?_,trivial⟩) (λO _=> ?_)).1
 ·obtain ⟨m,hm⟩:=this
  exact ⟨m,_,hm,rfl⟩
 ·refine (OT.ak (aj (by dsimp only;omega))).trans ((ae ?_).trans ?_)
  ·simp only [ax,aA,aC,av]
   exact ⟨aR (by omega),aL (by omega)⟩
  ·simp only [OT.gb,bH]
   rfl
 ·exact OT.al (bn (by dsimp only;omega))
def xT (x:AQ):Bool:=decide (x.1.2.1.length<=140737488355328)
def Vl (x:AQ):OT mi.Y:=.ok ⟨De,((po x.1.1 x.1.2.1,()),())⟩
theorem alu:aa ag 180 (mi.aw xT Vl):=Vj Iq M3 alv _ _ λx oy hp ho=>by
 rw [<-ho]
 clear ho
 obtain ⟨⟨c,l,⟨⟩⟩,⟨⟩⟩:=x
 have hl:l.length<=140737488355328:=bh hp
 refine (ae ?_).trans rfl
 simp only [ax,aA,aC]
 exact aj ⟨rfl,rfl,rfl,hl⟩
def sD:bi:=(mi.aw xT Vl)
theorem Qq:aa ag 180 sD:=alu
theorem Qp:au sD:=aq
def YQ:Env:=ap 180 sD aBW
theorem Lm:bI ag te YQ:=aP follows SC Qq Qp
def xR:af:=⟨[.val true Cz,dW],wF,false,1,true⟩
abbrev Vg:Type:=(Fm×bQ)×mG
def Qj:aH:=⟨mO,wF,false⟩
def aqw (a0:Fm) (c0_0:Int):OT xR.Y:=
 (.ok ⟨Qj,((rm a0.fst c0_0,()),(c0_0,()),())⟩)
theorem alo (pre:Vg->Bool) (F:Vg->OT xR.Y) (hF:∀ (x:Vg) oy,pre x=true->(F x).run=some oy->(aqw x.1.1 x.2.1.1).run=some oy):aa ag 196 (xR.aw pre F):=
 cC Lm 196 Tryz.f196 xR [Qj] bw (λx=>aqw x.1.1 x.2.1.1) hF
def Vf (_:Vg):Bool:=true
def aqx (x:Vg):OT xR.Y:=.ok ⟨Qj,((rm x.1.1.1 x.2.1.1,()),(x.2.1.1,()),())⟩
theorem axC:aa ag 196 (xR.aw Vf aqx):=alo _ _ λx oy hp ho=>by
 rw [<-ho]
 rfl
def C8:bi:=(xR.aw Vf aqx)
theorem abg:aa ag 196 C8:=axC
theorem abf:au C8:=aq
def au8:Env:=ap 196 C8 YQ
theorem Ll:bI ag te au8:=aP follows Lm abg abf
def kq:af:=⟨[.val false (.list Cz),.fn 196 [0]],wF,true,1,true⟩
abbrev AS:Type:=(cY×bQ)×mG
def alB:Shape:=⟨19,[(0,nH),(1,.fn 196 [0]),ry,(8,aB)],wF,1,true⟩
abbrev bV:Type:=(cY×Unit×jv)×mG
def nk:Shape:=⟨19,[(4,aB)],wF,1,true⟩
abbrev lk:Type:=eE×mG
def nl:Shape:=⟨19,[],wF,1,true⟩
abbrev pM:Type:=Unit×mG
def alE (a0:cY) (a7:Int) (a8:Int) (c0_0:Int):OT (Sum bV aT):=
 let z0:ab:= {w0:=0,w1:=0,w2:=0,w3:=0}
 (.br (decide (a8<a7))
 (gd [inB a8 (List.length a0)] (.br (rm (List.getD a0 (Int.toNat a8) (z0,z0,z0,false)).fst c0_0)
  (.ok (.inr ⟨(.ret,nk),((a8,()),(c0_0,()),())⟩))
  (gd [inR (a8+(1:Int))] (.ok (.inl ((a0,(),a7,a8+(1:Int),()),(c0_0,()),()))))))
 (.ok (.inr ⟨(.exit 0,nl),((),(c0_0,()),())⟩)))
def u7 (s:bV):OT (Sum bV aT):=alE s.1.1 s.1.2.2.1 s.1.2.2.2.1 s.2.1.1
def M6 (g0_r:bV->lk) (c0_r:bV->Bool) (g0_0:bV->pM) (s:bV):OT aT:=(.br (c0_r s) (.ok ⟨(.ret,nk),g0_r s⟩) (.ok ⟨(.exit 0,nl),g0_0 s⟩))
def jI:aH:=⟨ic,wF,false⟩
section
variable (ok0:bV->Bool) (g0_r:bV->lk) (c0_r:bV->Bool) (g0_0:bV->pM)
def Vn (a0:cY) (c0_0:Int):OT kq.Y:=
 let z0:bV:=((a0,(),(↑(List.length a0):Int),(0:Int),()),(c0_0,()),())
 let z1:lk:=g0_r z0
 (gd [ok0 z0] (.br (c0_r z0)
 (.ok ⟨jI,((z1.fst.fst,()),(z1.snd.fst.fst,()),())⟩)
 (.ok ⟨jI,(((-1:Int),()),((g0_0 z0).snd.fst.fst,()),())⟩)))
theorem Vm (h0:aY u7 ok0 (M6 g0_r c0_r g0_0)) (pre:AS->Bool) (F:AS->OT kq.Y) (hF:∀ (x:AS) oy,pre x=true->(F x).run=some oy->(Vn ok0 g0_r c0_r g0_0 x.1.1 x.2.1.1).run=some oy):aa ag 201 (kq.aw pre F):=
 cC Ll 201 Tryz.f201 kq [jI] (js Ll 0 alB [(0,nl)] (some nk) none u7 bw h0 bw) (λx=>Vn ok0 g0_r c0_r g0_0 x.1.1 x.2.1.1) hF
end
def ox (l:List Tm) (i:Int):Nat->Nat->Int
 |0,_=> -1
 |n+1,k=>cond (rm (l.getD k kK).1 i) (k:Int) (ox l i n (k+1))
def It (s:bV):Bool:=decide (s.1.2.2.1=(s.1.1.length:Int)/\s.1.2.2.2.1=0/\s.1.1.length<=140737488355328)
def jQ (l:List Tm) (i:Int):Int:=ox l i l.length 0
def Iu (s:bV):lk:=((jQ s.1.1 s.2.1.1,()),s.2)
def M7 (s:bV):Bool:=decide (0<=jQ s.1.1 s.2.1.1)
def M5 (s:bV):pM:=((),s.2)
def V5 (l:List Tm) (i k:Int):bV:=((l,(),(l.length:Int),k,()),(i,()),())
theorem WK (l:List Tm) (i:Int):∀ n k,ox l i n k= -1\/0<=ox l i n k
 |0,_=>.inl rfl
 |n+1,k=>by
  unfold ox
  cases rm (l.getD k kK).1 i
  ·exact WK l i n (k+1)
  ·right
   show (0:Int)<=(k:Int)
   omega
theorem agU (l:List Tm) (i:Int) (hl:l.length<=140737488355328):∀ n k:Nat,k+n=l.length->
 ∃ m,cx u7 m (V5 l i (k:Int))=some (cond (decide (0<=ox l i n k)) ⟨(.ret,nk),((ox l i n k,()),(i,()),())⟩ ⟨(.exit 0,nl),((),(i,()),())⟩)
 |0,k,h=>⟨1,aO (OT.al (bn (by dsimp only [V5];omega)))⟩
 |n+1,k,h=>by
  have hin:inB (k:Int) l.length=true:=aR (by omega)
  have hgd:∀ z:OT (Sum bV aT),(gd [inB (k:Int) l.length] z).run=z.run:=λz=>ae (by rw [hin];rfl)
  unfold ox
  rcases (bX (rm (l.getD k kK).1 i)).symm with hb|hb
  ·obtain ⟨m,hm⟩:=agU l i hl n (k+1) (by omega)
   rw [hb]
   refine ⟨m+1,aS ?_ hm⟩
   refine (OT.ak (aj (by dsimp only [V5];omega))).trans ((hgd _).trans ((OT.al hb).trans ((ae ?_).trans rfl)))
   simp only [ax,aA,aC]
   exact aL (by dsimp only [V5];omega)
  ·rw [hb]
   have e:decide ((0:Int)<=cond true (k:Int) (ox l i n (k+1)))=true:=aj (by show (0:Int)<=(k:Int);omega)
   rw [e]
   refine ⟨1,aO ?_⟩
   exact (OT.ak (aj (by dsimp only [V5];omega))).trans ((hgd _).trans ((OT.ak hb).trans rfl))
theorem alD:aY u7 It (M6 Iu M7 M5):=by
 rintro ⟨⟨l,⟨⟩,n,k,⟨⟩⟩,⟨⟨i,⟨⟩⟩,⟨⟩⟩⟩ h
 have h':=bh h
 dsimp only at h'
 obtain ⟨rfl,rfl,hl⟩:=h'
 obtain ⟨m,hm⟩:=agU l i hl l.length 0 (by omega)
 refine ⟨m,_,hm,?_⟩
 show (OT.br (decide (0<=jQ l i)) _ _:OT aT).run=some (cond (decide (0<=jQ l i)) _ _)
 cases decide (0<=jQ l i)<;>rfl
def xU (x:AS):Bool:=decide (x.1.1.length<=140737488355328)
def Vo (x:AS):OT kq.Y:=.ok ⟨jI,((jQ x.1.1 x.2.1.1,()),x.2)⟩
theorem alC:aa ag 201 (kq.aw xU Vo):=Vm It Iu M7 M5 alD _ _ λx oy hp ho=>by
 rw [<-ho]
 clear ho
 obtain ⟨⟨l,⟨⟩,⟨⟩⟩,⟨⟨i,⟨⟩⟩,⟨⟩⟩⟩:=x
 have hl:l.length<=140737488355328:=bh hp
 refine (ae ?_).trans ?_
 ·simp only [ax,aA,aC]
  exact aj ⟨rfl,rfl,hl⟩
 ·show (OT.br (decide (0<=jQ l i)) (.ok ⟨jI,((jQ l i,()),(i,()),())⟩) (.ok ⟨jI,(((-1:Int),()),(i,()),())⟩):OT kq.Y).run=some ⟨jI,((jQ l i,()),(i,()),())⟩
  rcases WK l i l.length 0 with h|h
  ·have h:jQ l i= -1:=h
   rw [h]
   rfl
  ·exact OT.ak (aj h)
def sE:bi:=(kq.aw xU Vo)
theorem Qv:aa ag 201 sE:=alC
theorem Qu:au sE:=aq
def YR:Env:=ap 201 sE au8
theorem Ln:bI ag te YR:=aP follows Ll Qv Qu
def pN:af:=⟨[.val false (.list Cz),.fn 196 [0]],wF,true,1,true⟩
abbrev Iw:Type:=(cY×bQ)×mG
def Iv:aH:=⟨mO,wF,false⟩
def agx (a0:cY) (c0_0:Int):OT pN.Y:=
 (gd [xU ((a0,(),()),(c0_0,()),())] (.ok ⟨Iv,((decide ((0:Int)<=jQ a0 c0_0),()),(c0_0,()),())⟩))
theorem abr (pre:Iw->Bool) (F:Iw->OT pN.Y) (hF:∀ (x:Iw) oy,pre x=true->(F x).run=some oy->(agx x.1.1 x.2.1.1).run=some oy):aa ag 195 (pN.aw pre F):=
 cC Ln 195 Tryz.f195 pN [Iv] bw (λx=>agx x.1.1 x.2.1.1) hF
def aFn (l:List Tm) (i:Int):Bool:=decide (0<=jQ l i)
def u9 (x:Iw):Bool:=decide (x.1.1.length<=140737488355328)
def agy (x:Iw):OT pN.Y:=.ok ⟨Iv,((aFn x.1.1 x.2.1.1,()),x.2)⟩
theorem aqP:aa ag 195 (pN.aw u9 agy):=abr _ _ λx oy hp ho=>by
 rw [<-ho]
 clear ho
 refine (ae ?_).trans rfl
 simp only [ax,aA,aC]
 exact hp
def xV:bi:=(pN.aw u9 agy)
theorem Vq:aa ag 195 xV:=aqP
theorem Vp:au xV:=aq
def aiX:Env:=ap 195 xV YR
theorem Er:bI ag te aiX:=aP follows Ln Vq Vp
def ET:af:=⟨[.val false (.list Cz)],[],true,0,false⟩
abbrev aqv:Type:=oM×Unit
def aDP:Shape:=⟨14,[(0,nH),rA],wF,0,true⟩
abbrev cO:Type:=(cY×bQ)×mG
def AL:Shape:=⟨14,[(2,aB)],[],0,true⟩
abbrev uV:Type:=mG
def AM:Shape:=⟨14,[],[],0,true⟩
abbrev uW:Type:=bQ
def aDS (a0:cY) (c0_0:Int):OT (Sum cO aT):=
 (.br (decide ((0:Int)<=c0_0))
 (gd [u9 ((a0,(),()),(c0_0,()),())] (.br (aFn a0 c0_0)
  (gd [inR (c0_0+(1:Int))] (.ok (.inr ⟨(.ret,AL),((c0_0+(1:Int),()),())⟩)))
  (gd [inR (c0_0-(1:Int))] (.ok (.inl ((a0,(),()),(c0_0-(1:Int),()),()))))))
 (.ok (.inr ⟨(.exit 0,AM),((),())⟩)))
def Qi (s:cO):OT (Sum cO aT):=aDS s.1.1 s.2.1.1
def aqt (g0_r:cO->uV) (c0_r:cO->Bool) (g0_0:cO->uW) (s:cO):OT aT:=(.br (c0_r s) (.ok ⟨(.ret,AL),g0_r s⟩) (.ok ⟨(.exit 0,AM),g0_0 s⟩))
def xQ:aH:=⟨ic,[],false⟩
def aAC (ok0:cO->Bool) (g0_r:cO->uV) (c0_r:cO->Bool) (g0_0:cO->uW) (a0:cY):OT ET.Y:=
 let z0:cO:=((a0,(),()),((255:Int),()),())
 (gd [ok0 z0] (.br (c0_r z0)
 (.ok ⟨xQ,(((g0_r z0).fst.fst,()),())⟩)
 (.ok ⟨xQ,(((0:Int),()),())⟩)))
theorem aqr (ok0:cO->Bool) (g0_r:cO->uV) (c0_r:cO->Bool) (g0_0:cO->uW) (h0:aY Qi ok0 (aqt g0_r c0_r g0_0)) (pre:aqv->Bool) (F:aqv->OT ET.Y) (hF:∀ (x:aqv) oy,pre x=true->(F x).run=some oy->(aAC ok0 g0_r c0_r g0_0 x.1.1).run=some oy):aa ag 181 (ET.aw pre F):=
 cC Er 181 Tryz.f181 ET [xQ] (js Er 0 aDP [(0,AM)] (some AL) none Qi bw h0 bw) (λx=>aAC ok0 g0_r c0_r g0_0 x.1.1) hF
def anG (l:List Tm):Nat->Nat
 |0=>0
 |n+1=>cond (aFn l (n:Int)) (n+1) (anG l n)
def Zh (l:List Tm):Nat:=anG l 256
def ago (s:cO):Bool:=decide (s.2.1.1=255/\s.1.1.length<=140737488355328)
def agp (s:cO):uV:=(((Zh s.1.1:Int),()),())
def aqu (s:cO):Bool:=decide ((0:Int)<(Zh s.1.1:Int))
def aqs (_:cO):uW:=((),())
def Mq (l:List Tm) (i:Int):cO:=((l,(),()),(i,()),())
theorem aeT (l:List Tm) (hl:l.length<=140737488355328):∀ n:Nat,n<=256->
 ∃ m,cx Qi m (Mq l ((n:Int)-1))=some (cond (decide ((0:Int)<(anG l n:Int))) ⟨(.ret,AL),(((anG l n:Int),()),())⟩ ⟨(.exit 0,AM),((),())⟩)
 |0,_=>⟨1,aO (OT.al (bn (by dsimp only [Mq];omega)))⟩
 |n+1,h=>by
  rw [show ((n+1:Nat):Int)-1=(n:Int) by omega]
  have hgd:∀ z:OT (Sum cO aT),(gd [u9 ((l,(),()),((n:Int),()),())] z).run=z.run:=λz=>ae (by
   simp only [ax,aA,aC]
   exact aj hl)
  unfold anG
  rcases (bX (aFn l (n:Int))).symm with hb|hb
  ·obtain ⟨m,hm⟩:=aeT l hl n (by omega)
   rw [hb]
   refine ⟨m+1,aS ?_ hm⟩
   refine (OT.ak (aj (by dsimp only [Mq];omega))).trans ((hgd _).trans ((OT.al hb).trans ((ae ?_).trans rfl)))
   simp only [ax,aA,aC]
   exact aL (by dsimp only [Mq];omega)
  ·rw [hb]
   simp only [aV]
   rw [aj (show (0:Int)<((n+1:Nat):Int) by omega)]
   refine ⟨1,aO ?_⟩
   refine (OT.ak (aj (by dsimp only [Mq];omega))).trans ((hgd _).trans ((OT.ak hb).trans ((ae ?_).trans rfl)))
   simp only [ax,aA,aC]
   exact aL (by dsimp only [Mq];omega)
theorem aDR:aY Qi ago (aqt agp aqu aqs):=by
 rintro ⟨⟨l,⟨⟩,⟨⟩⟩,⟨⟨i,⟨⟩⟩,⟨⟩⟩⟩ h
 have h':=bh h
 dsimp only at h'
 obtain ⟨rfl,hl⟩:=h'
 obtain ⟨m,hm⟩:=aeT l hl 256 (by omega)
 refine ⟨m,_,hm,?_⟩
 show (OT.br (decide ((0:Int)<(anG l 256:Int))) _ _:OT aT).run=some (cond (decide ((0:Int)<(anG l 256:Int))) _ _)
 cases decide ((0:Int)<(anG l 256:Int))<;>rfl
def Qh (x:aqv):Bool:=decide (x.1.1.length<=140737488355328)
def aAD (x:aqv):OT ET.Y:=.ok ⟨xQ,(((Zh x.1.1:Int),()),())⟩
theorem aDQ:aa ag 181 (ET.aw Qh aAD):=aqr ago agp aqu aqs aDR _ _ λx oy hp ho=>by
 rw [<-ho]
 clear ho
 obtain ⟨⟨l,⟨⟩⟩,⟨⟩⟩:=x
 have hl:l.length<=140737488355328:=bh hp
 refine (ae ?_).trans ?_
 ·simp only [ax,aA,aC]
  exact aj ⟨rfl,hl⟩
 ·show (OT.br (decide ((0:Int)<(Zh l:Int))) (.ok ⟨xQ,(((Zh l:Int),()),())⟩) (.ok ⟨xQ,(((0:Int),()),())⟩):OT ET.Y).run=some ⟨xQ,(((Zh l:Int),()),())⟩
  by_cases h:(0:Int)<(Zh l:Int)
  ·exact OT.ak (aj h)
  ·have e:Zh l=0:=by omega
   rw [e]
   rfl
def Ik:bi:=(ET.aw Qh aAD)
theorem aln:aa ag 181 Ik:=aDQ
theorem alm:au Ik:=aq
def aBT:Env:=ap 181 Ik aiX
theorem v9:bI ag te aBT:=aP follows Er aln alm
def jK:af:=⟨[aB,.val false (.list Cz),aB],[],true,0,false⟩
abbrev sG:Type:=(Int×cY×eE)×Unit
def abw:Shape:=⟨74,[ig,zr,(2,aB),jx,zq,(16,aB)],[kV,B0],0,true⟩
abbrev cb:Type:=(Int×cY×Int×kU)×jY×K1
def lq:Shape:=⟨74,[ig,zr,(2,aB),jx,zq],[kV,B0],0,true⟩
abbrev fL:Type:=(Int×cY×kC)×jY×K1
def abE (a0:Int) (a1:cY) (a2:Int) (a16:Int) (c0_0:UInt64) (c0_1:UInt64) (c0_2:UInt64) (c0_3:UInt64) (c0_4:UInt64) (c0_5:UInt64) (c0_6:UInt64) (c0_7:UInt64) (c0_8:Bool) (c1:cB):OT (Sum cb aT):=
 let z0:ab:= {w0:=0,w1:=0,w2:=0,w3:=0}
 (.br (decide (a16<(15:Int)))
 (gd [inB a16 15,decide (Int.toNat a16+0<List.length c1),inR (a16+(1:Int))] (.ok (.inl ((a0,a1,a2,(),(),a16+(1:Int),()),(c0_0,c0_1,c0_2,c0_3,c0_4,c0_5,c0_6,c0_7,c0_8,()),List.set c1 (Int.toNat a16+0) (z0,z0,true),()))))
 (.ok (.inr ⟨(.exit 0,lq),((a0,a1,a2,(),(),()),(c0_0,c0_1,c0_2,c0_3,c0_4,c0_5,c0_6,c0_7,c0_8,()),c1,())⟩)))
def pU (s:cb):OT (Sum cb aT):=abE s.1.1 s.1.2.1 s.1.2.2.1 s.1.2.2.2.2.2.1 s.2.1.1 s.2.1.2.1 s.2.1.2.2.1 s.2.1.2.2.2.1 s.2.1.2.2.2.2.1 s.2.1.2.2.2.2.2.1 s.2.1.2.2.2.2.2.2.1 s.2.1.2.2.2.2.2.2.2.1 s.2.1.2.2.2.2.2.2.2.2.1 s.2.2.1
def IE (g0_0:cb->fL) (s:cb):OT aT:=(.ok ⟨(.exit 0,lq),g0_0 s⟩)
def abv:Shape:=⟨74,[ig,(2,aB),jx,zq,(23,nH),(24,aB),(25,aB)],[kV,B0],0,true⟩
abbrev ca:Type:=(Int×Int×Unit×Unit×cY×jv)×jY×K1
def abu:Shape:=⟨74,[ig,(2,aB),jx,zq,(10,fu),(11,aB),(23,nH),(24,aB),(25,aB),(29,aB)],aBz,0,true⟩
abbrev bg:Type:=(Int×Int×Unit×Unit×Unit×Int×cY×Int×jv)×jY×cB×auG×Unit
def ln:Shape:=⟨74,[ig,(2,aB),jx,zq,(10,fu),(11,aB),(23,nH),(24,aB),(25,aB)],aBz,0,true⟩
abbrev dh:Type:=(Int×Int×Unit×Unit×Unit×Int×cY×jv)×jY×cB×auG×Unit
def abD (a0:Int) (a2:Int) (a11:Int) (a23:cY) (a24:Int) (a25:Int) (a29:Int) (c0_0:UInt64) (c0_1:UInt64) (c0_2:UInt64) (c0_3:UInt64) (c0_4:UInt64) (c0_5:UInt64) (c0_6:UInt64) (c0_7:UInt64) (c0_8:Bool) (c1:cB) (c2_0:UInt64) (c2_1:UInt64) (c2_2:UInt64) (c2_3:UInt64) (c2_4:UInt64) (c2_5:UInt64) (c2_6:UInt64) (c2_7:UInt64) (c2_8:UInt64) (c2_9:UInt64) (c2_10:UInt64) (c2_11:UInt64) (c2_12:Bool):OT (Sum bg aT):=
 let z0:Bool:=inR (a29+(1:Int))
 (.br (decide (a29<(4:Int)))
 (gd [inR (a2+a29)] (.br (rm {w0:=c2_0,w1:=c2_1,w2:=c2_2,w3:=c2_3} (a2+a29))
  (gd [decide ((0:Int)<=a29),z0] (.ok (.inl ((a0,a2,(),(),(),ior a11 (ab6 (1:Int) a29),a23,a24,a25,a29+(1:Int),()),(c0_0,c0_1,c0_2,c0_3,c0_4,c0_5,c0_6,c0_7,c0_8,()),c1,(c2_0,c2_1,c2_2,c2_3,c2_4,c2_5,c2_6,c2_7,c2_8,c2_9,c2_10,c2_11,c2_12,()),()))))
  (gd [z0] (.ok (.inl ((a0,a2,(),(),(),a11,a23,a24,a25,a29+(1:Int),()),(c0_0,c0_1,c0_2,c0_3,c0_4,c0_5,c0_6,c0_7,c0_8,()),c1,(c2_0,c2_1,c2_2,c2_3,c2_4,c2_5,c2_6,c2_7,c2_8,c2_9,c2_10,c2_11,c2_12,()),()))))))
 (.ok (.inr ⟨(.exit 4,ln),((a0,a2,(),(),(),a11,a23,a24,a25,()),(c0_0,c0_1,c0_2,c0_3,c0_4,c0_5,c0_6,c0_7,c0_8,()),c1,(c2_0,c2_1,c2_2,c2_3,c2_4,c2_5,c2_6,c2_7,c2_8,c2_9,c2_10,c2_11,c2_12,()),())⟩)))
def pT (s:bg):OT (Sum bg aT):=abD s.1.1 s.1.2.1 s.1.2.2.2.2.2.1 s.1.2.2.2.2.2.2.1 s.1.2.2.2.2.2.2.2.1 s.1.2.2.2.2.2.2.2.2.1 s.1.2.2.2.2.2.2.2.2.2.1 s.2.1.1 s.2.1.2.1 s.2.1.2.2.1 s.2.1.2.2.2.1 s.2.1.2.2.2.2.1 s.2.1.2.2.2.2.2.1 s.2.1.2.2.2.2.2.2.1 s.2.1.2.2.2.2.2.2.2.1 s.2.1.2.2.2.2.2.2.2.2.1 s.2.2.1 s.2.2.2.1.1 s.2.2.2.1.2.1 s.2.2.2.1.2.2.1 s.2.2.2.1.2.2.2.1 s.2.2.2.1.2.2.2.2.1 s.2.2.2.1.2.2.2.2.2.1 s.2.2.2.1.2.2.2.2.2.2.1 s.2.2.2.1.2.2.2.2.2.2.2.1 s.2.2.2.1.2.2.2.2.2.2.2.2.1 s.2.2.2.1.2.2.2.2.2.2.2.2.2.1 s.2.2.2.1.2.2.2.2.2.2.2.2.2.2.1 s.2.2.2.1.2.2.2.2.2.2.2.2.2.2.2.1 s.2.2.2.1.2.2.2.2.2.2.2.2.2.2.2.2.1
def IC (g4_4:bg->dh) (s:bg):OT aT:=(.ok ⟨(.exit 4,ln),g4_4 s⟩)
def lp:Shape:=⟨74,[ig,jx,zq],[kV,B0],0,true⟩
abbrev fK:Type:=kC×jY×K1
def IF (ok4:bg->Bool) (g4_4:bg->dh) (a0:Int) (a2:Int) (a23:cY) (a24:Int) (a25:Int) (c0_0:UInt64) (c0_1:UInt64) (c0_2:UInt64) (c0_3:UInt64) (c0_4:UInt64) (c0_5:UInt64) (c0_6:UInt64) (c0_7:UInt64) (c0_8:Bool) (c1:cB):OT (Sum ca aT):=
 let z0:ab:= {w0:=0,w1:=0,w2:=0,w3:=0}
 let z1:cM:=(z0,z0,false)
 let z2:Fm:=List.getD a23 (Int.toNat a25) (z0,z1)
 let z3:=z2.fst
 let z4:=z2.snd
 let z5:=z4.fst
 let z6:=z4.snd
 let z7:=z6.fst
 let z8:bg:=((a0,a2,(),(),(),(0:Int),a23,a24,a25,(0:Int),()),(c0_0,c0_1,c0_2,c0_3,c0_4,c0_5,c0_6,c0_7,c0_8,()),c1,(z3.w0,z3.w1,z3.w2,z3.w3,z5.w0,z5.w1,z5.w2,z5.w3,z7.w0,z7.w1,z7.w2,z7.w3,z6.snd,()),())
 let z9:dh:=g4_4 z8
 let z10:=z9.fst
 let z11:=z10.snd
 let z12:=z11.snd.snd.snd.snd
 let z13:=z12.fst
 let z14:Bool:=inR (z13-(1:Int))
 let z15:Bool:=inB (z13-(1:Int)) 15
 let z16:=z9.snd
 let z17:=z16.snd
 let z18:=z17.fst
 let z19:Bool:=decide (Int.toNat (z13-(1:Int))+0<List.length z18)
 let z20:=z12.snd
 let z21:=z20.snd
 let z22:Bool:=inR (z21.snd.fst+(1:Int))
 let z23:=z10.fst
 let z24:=z11.fst
 let z25:=z20.fst
 let z26:=z21.fst
 let z27:=z16.fst
 let z28:=z27.fst
 let z29:=z27.snd
 let z30:=z29.fst
 let z31:=z29.snd
 let z32:=z31.fst
 let z33:=z31.snd
 let z34:=z33.fst
 let z35:=z33.snd
 let z36:=z35.fst
 let z37:=z35.snd
 let z38:=z37.fst
 let z39:=z37.snd
 let z40:=z39.fst
 let z41:=z39.snd
 let z42:=z41.fst
 let z43:=z41.snd.fst
 let z44:=z17.snd.fst.snd.snd.snd.snd
 let z45:=z44.snd
 let z46:=z45.snd
 let z47:=z46.snd
 let z48:=z47.snd
 let z49:=z48.snd
 let z50:=z49.snd
 let z51:=z50.snd
 (.br (decide (a25<a24))
 (gd [inB a25 (List.length a23),ok4 z8] (.br (decide ((0:Int)<z13))
  (gd [z14,z14,z15,z19,z15,z19,z22] (.ok (.inl ((z23,z24,(),(),z25,z26,z21.snd.fst+(1:Int),()),(z28,z30,z32,z34,z36,z38,z40,z42,z43,()),List.set z18 (Int.toNat (z13-(1:Int))+0) (fS z23 (List.getD z18 (Int.toNat (z13-(1:Int))+0) z1) ({w0:=z44.fst,w1:=z45.fst,w2:=z46.fst,w3:=z47.fst},{w0:=z48.fst,w1:=z49.fst,w2:=z50.fst,w3:=z51.fst},z51.snd.fst)),()))))
  (gd [z22] (.ok (.inl ((z23,z24,(),(),z25,z26,z21.snd.fst+(1:Int),()),(z28,z30,z32,z34,z36,z38,z40,z42,z43,()),z18,()))))))
 (.ok (.inr ⟨(.exit 2,lp),((a0,(),(),()),(c0_0,c0_1,c0_2,c0_3,c0_4,c0_5,c0_6,c0_7,c0_8,()),c1,())⟩)))
def jJ (ok4:bg->Bool) (g4_4:bg->dh) (s:ca):OT (Sum ca aT):=IF ok4 g4_4 s.1.1 s.1.2.1 s.1.2.2.2.2.1 s.1.2.2.2.2.2.1 s.1.2.2.2.2.2.2.1 s.2.1.1 s.2.1.2.1 s.2.1.2.2.1 s.2.1.2.2.2.1 s.2.1.2.2.2.2.1 s.2.1.2.2.2.2.2.1 s.2.1.2.2.2.2.2.2.1 s.2.1.2.2.2.2.2.2.2.1 s.2.1.2.2.2.2.2.2.2.2.1 s.2.2.1
def ID (g2_2:ca->fK) (s:ca):OT aT:=(.ok ⟨(.exit 2,lp),g2_2 s⟩)
def abt:Shape:=⟨74,[ig,jx,zq,(13,fu),(14,fH),(15,aB)],[kV,B0,(2,Yw),(3,Yw)],0,true⟩
abbrev b9:Type:=(Int×BR)×jY×cB×tZ
def lm:Shape:=⟨74,[jx,(14,oV)],La,0,true⟩
abbrev hI:Type:=mK×tZ
def abC (a0:Int) (a15:Int) (c0_0:UInt64) (c0_1:UInt64) (c0_2:UInt64) (c0_3:UInt64) (c0_4:UInt64) (c0_5:UInt64) (c0_6:UInt64) (c0_7:UInt64) (c0_8:Bool) (c1:cB) (c2_0:UInt64) (c2_1:UInt64) (c2_2:UInt64) (c2_3:UInt64) (c2_4:UInt64) (c2_5:UInt64) (c2_6:UInt64) (c2_7:UInt64) (c2_8:Bool) (c3_0:UInt64) (c3_1:UInt64) (c3_2:UInt64) (c3_3:UInt64) (c3_4:UInt64) (c3_5:UInt64) (c3_6:UInt64) (c3_7:UInt64) (c3_8:Bool):OT (Sum b9 aT):=
 let z0:ab:= {w0:=0,w1:=0,w2:=0,w3:=0}
 let z1:cM:=fS a0 ({w0:=c2_0,w1:=c2_1,w2:=c2_2,w3:=c2_3},{w0:=c2_4,w1:=c2_5,w2:=c2_6,w3:=c2_7},c2_8) (List.getD c1 (Int.toNat a15+0) (z0,z0,false))
 let z2:=z1.fst
 let z3:=z1.snd
 let z4:=z3.fst
 let z5:cM:=fS a0 ({w0:=c3_0,w1:=c3_1,w2:=c3_2,w3:=c3_3},{w0:=c3_4,w1:=c3_5,w2:=c3_6,w3:=c3_7},c3_8) z1
 let z6:=z5.fst
 let z7:=z5.snd
 let z8:=z7.fst
 (.br (decide ((0:Int)<=a15))
 (gd [inB a15 15,decide (Int.toNat a15+0<List.length c1),inR (a15-(1:Int))] (.ok (.inl ((a0,(),(),(),(),a15-(1:Int),()),(c0_0,c0_1,c0_2,c0_3,c0_4,c0_5,c0_6,c0_7,c0_8,()),c1,(z2.w0,z2.w1,z2.w2,z2.w3,z4.w0,z4.w1,z4.w2,z4.w3,z3.snd,()),(z6.w0,z6.w1,z6.w2,z6.w3,z8.w0,z8.w1,z8.w2,z8.w3,z7.snd,()),()))))
 (.ok (.inr ⟨(.exit 6,lm),(((),(),()),(c0_0,c0_1,c0_2,c0_3,c0_4,c0_5,c0_6,c0_7,c0_8,()),(c3_0,c3_1,c3_2,c3_3,c3_4,c3_5,c3_6,c3_7,c3_8,()),())⟩)))
def pR (s:b9):OT (Sum b9 aT):=abC s.1.1 s.1.2.2.2.2.2.1 s.2.1.1 s.2.1.2.1 s.2.1.2.2.1 s.2.1.2.2.2.1 s.2.1.2.2.2.2.1 s.2.1.2.2.2.2.2.1 s.2.1.2.2.2.2.2.2.1 s.2.1.2.2.2.2.2.2.2.1 s.2.1.2.2.2.2.2.2.2.2.1 s.2.2.1 s.2.2.2.1.1 s.2.2.2.1.2.1 s.2.2.2.1.2.2.1 s.2.2.2.1.2.2.2.1 s.2.2.2.1.2.2.2.2.1 s.2.2.2.1.2.2.2.2.2.1 s.2.2.2.1.2.2.2.2.2.2.1 s.2.2.2.1.2.2.2.2.2.2.2.1 s.2.2.2.1.2.2.2.2.2.2.2.2.1 s.2.2.2.2.1.1 s.2.2.2.2.1.2.1 s.2.2.2.2.1.2.2.1 s.2.2.2.2.1.2.2.2.1 s.2.2.2.2.1.2.2.2.2.1 s.2.2.2.2.1.2.2.2.2.2.1 s.2.2.2.2.1.2.2.2.2.2.2.1 s.2.2.2.2.1.2.2.2.2.2.2.2.1 s.2.2.2.2.1.2.2.2.2.2.2.2.2.1
def IB (g6_6:b9->hI) (s:b9):OT aT:=(.ok ⟨(.exit 6,lm),g6_6 s⟩)
def pP:aH:=⟨oP,[],false⟩
def va (ok0:cb->Bool) (g0_0:cb->fL) (ok4:bg->Bool) (g4_4:bg->dh) (ok2:ca->Bool) (g2_2:ca->fK) (ok6:b9->Bool) (g6_6:b9->hI) (a0:Int) (a1:cY) (a2:Int):OT jK.Y:=
 let z0:ab:= {w0:=0,w1:=0,w2:=0,w3:=0}
 let z1:cM:=(z0,z0,false)
 let z2:cb:=((a0,a1,a2,(),(),(0:Int),()),((0:UInt64),(0:UInt64),(0:UInt64),(0:UInt64),(0:UInt64),(0:UInt64),(0:UInt64),(0:UInt64),false,()),[z1,z1,z1,z1,z1,z1,z1,z1,z1,z1,z1,z1,z1,z1,z1],())
 let z3:fL:=g0_0 z2
 let z4:=z3.fst
 let z5:=z4.snd
 let z6:=z5.fst
 let z7:=z3.snd
 let z8:=z7.fst
 let z9:=z8.snd
 let z10:=z9.snd
 let z11:=z10.snd
 let z12:=z11.snd
 let z13:=z12.snd
 let z14:=z13.snd
 let z15:=z14.snd
 let z16:ca:=((z4.fst,z5.snd.fst,(),(),z6,(↑(List.length z6):Int),(0:Int),()),(z8.fst,z9.fst,z10.fst,z11.fst,z12.fst,z13.fst,z14.fst,z15.fst,z15.snd.fst,()),z7.snd.fst,())
 let z17:fK:=g2_2 z16
 let z18:=z17.snd
 let z19:=z18.fst
 let z20:=z19.snd
 let z21:=z20.snd
 let z22:=z21.snd
 let z23:=z22.snd
 let z24:=z23.snd
 let z25:=z24.snd
 let z26:=z25.snd
 let z27:ais:=((0:UInt64),(0:UInt64),(0:UInt64),(0:UInt64),(0:UInt64),(0:UInt64),(0:UInt64),(0:UInt64),true,())
 let z28:b9:=((z17.fst.fst,(),(),(),(),(14:Int),()),(z19.fst,z20.fst,z21.fst,z22.fst,z23.fst,z24.fst,z25.fst,z26.fst,z26.snd.fst,()),z18.snd.fst,z27,z27,())
 let z29:=(g6_6 z28).snd.snd.fst
 let z30:=z29.snd
 let z31:=z30.snd
 let z32:=z31.snd
 let z33:=z32.snd
 let z34:=z33.snd
 let z35:=z34.snd
 let z36:=z35.snd
 (gd [ok0 z2,ok2 z16,ok6 z28] (.ok ⟨pP,((({w0:=z29.fst,w1:=z30.fst,w2:=z31.fst,w3:=z32.fst},{w0:=z33.fst,w1:=z34.fst,w2:=z35.fst,w3:=z36.fst},z36.snd.fst),()),())⟩))
theorem Qw (ok0:cb->Bool) (g0_0:cb->fL) (ok4:bg->Bool) (g4_4:bg->dh) (ok2:ca->Bool) (g2_2:ca->fK) (ok6:b9->Bool) (g6_6:b9->hI) (h0:aY pU ok0 (IE g0_0)) (h4:aY pT ok4 (IC g4_4)) (h2:aY (jJ ok4 g4_4) ok2 (ID g2_2)) (h6:aY pR ok6 (IB g6_6)) (pre:sG->Bool) (F:sG->OT jK.Y) (hF:∀ (x:sG) oy,pre x=true->(F x).run=some oy->(va ok0 g0_0 ok4 g4_4 ok2 g2_2 ok6 g6_6 x.1.1 x.1.2.1 x.1.2.2.1).run=some oy):aa ag 182 (jK.aw pre F):=
 cC v9 182 Tryz.f182 jK [pP] (js v9 6 abt [(6,lm)] none none pR bw h6 (js v9 2 abv [(2,lp)] none none (jJ ok4 g4_4) (js v9 4 abu [(4,ln)] none none pT bw h4 bw) h2 (js v9 0 abw [(0,lq)] none none pU bw h0 bw))) (λx=>va ok0 g0_0 ok4 g4_4 ok2 g2_2 ok6 g6_6 x.1.1 x.1.2.1 x.1.2.2.1) hF
abbrev C13:Type:=auG
def ahf (t:Tm):C13:=(t.1.w0,t.1.w1,t.1.w2,t.1.w3,t.2.1.w0,t.2.1.w1,t.2.1.w2,t.2.1.w3,t.2.2.1.w0,t.2.2.1.w1,t.2.2.1.w2,t.2.2.1.w3,t.2.2.2,())
theorem afO {α:Type} (x:α) (l:List α):∀ n,n<=l.length->upto (λk (o:List α)=>o.set k x) l n=List.replicate n x++l.drop n
 |0,_=>rfl
 |n+1,h=>by
  show (upto (λk (o:List α)=>o.set k x) l n).set n x=_
  rw [afO x l n (by omega),List.set_append_right _ _ (by rw [nI];omega),nI,Nat.sub_self,oW (by omega),List.set_cons_zero,List.replicate_succ',List.append_assoc]
  rfl
def EX (s:cb):Bool:=decide (s.1.2.2.2.2.2.1=0/\s.2.2.1.length=15)
def IA (s:cb):fL:=((s.1.1,s.1.2.1,s.1.2.2.1,(),(),()),s.2.1,List.replicate 15 aK,())
theorem abB:aY pU EX (IE IA):=by
 rintro ⟨⟨c,l,at',⟨⟩,⟨⟩,i,⟨⟩⟩,⟨c0,S,⟨⟩⟩⟩ h
 have h':=bh h
 dsimp only at h'
 obtain ⟨rfl,hS⟩:=h'
 have:=(aW (T:=pU) (λi o=>(((c,l,at',(),(),(i:Int),()),c0,o,()):cb)) (λk (o:List Pt)=>o.set k aK)
  (λo=>(⟨(.exit 0,lq),((c,l,at',(),(),()),c0,o,())⟩:aT)) 15 S (λ_ o=>o.length=15) hS (λk o hk ho=>⟨?_,(dm ..).trans ho⟩) (λo ho=> ?_)).1
 ·obtain ⟨m,hm⟩:=this
  rw [afO aK S 15 (by omega),List.drop_eq_nil_of_le (by omega),List.append_nil] at hm
  exact ⟨m,_,hm,rfl⟩
 ·refine (OT.ak (aj (by dsimp only;omega))).trans ((ae ?_).trans ?_)
  ·simp only [ho,bH,Nat.add_zero,ax,aA,aC,av]
   exact ⟨aR (by omega),aj (by omega),aL (by omega)⟩
  ·simp only [OT.gb,bH,Nat.add_zero]
   rfl
 ·exact OT.al (bn (by dsimp only;omega))
def tH (k:ab) (a:Int) (n:Nat) (d:Int):Int:=cond (rm k (a+(n:Int))) (ior d (ab6 1 (n:Int))) d
def W9 (k:ab) (a:Int):Int:=upto (tH k a) 0 4
def aBk (b:Bool):Int:=cond b 1 0
theorem asZ (k:ab) (a:Int):W9 k a=aBk (rm k a)+2*aBk (rm k (a+1))+4*aBk (rm k (a+2))+8*aBk (rm k (a+3)):=by
 have e0:a+((0:Nat):Int)=a:=by omega
 show tH k a 3 (tH k a 2 (tH k a 1 (tH k a 0 0)))=_
 unfold tH
 rw [e0,show a+((1:Nat):Int)=a+1 by omega,show a+((2:Nat):Int)=a+2 by omega,show a+((3:Nat):Int)=a+3 by omega]
 generalize rm k a=b0
 generalize rm k (a+1)=b1
 generalize rm k (a+2)=b2
 generalize rm k (a+3)=b3
 cases b0<;>cases b1<;>cases b2<;>cases b3<;>decide+kernel
theorem asY (k:ab) (a:Int):0<=W9 k a/\W9 k a<=15:=by
 rw [asZ]
 have h:∀ b,0<=aBk b/\aBk b<=1:=λb=>by cases b<;>decide
 have h0:=h (rm k a)
 have h1:=h (rm k (a+1))
 have h2:=h (rm k (a+2))
 have h3:=h (rm k (a+3))
 omega
def adO (c at' d:Int) (l:List Tm) (n i:Int) (b:Int) (c0:C9) (S:List Pt) (t:C13):bg:=((c,at',(),(),(),d,l,n,i,b,()),c0,S,t,())
def keyOf (t:C13):ab:=⟨t.1,t.2.1,t.2.2.1,t.2.2.2.1⟩
def np (s:bg):Bool:=decide (s.1.2.2.2.2.2.1=0/\s.1.2.2.2.2.2.2.2.2.2.1=0/\0<=s.1.2.1/\s.1.2.1<=1000)
def pQ (s:bg):dh:=((s.1.1,s.1.2.1,(),(),(),W9 (keyOf s.2.2.2.1) s.1.2.1,s.1.2.2.2.2.2.2.1,s.1.2.2.2.2.2.2.2.1,s.1.2.2.2.2.2.2.2.2.1,()),s.2)
theorem abz:aY pT np (IC pQ):=by
 rintro ⟨⟨c,at',⟨⟩,⟨⟩,⟨⟩,d,l,n,i,b,⟨⟩⟩,⟨c0,S,t,⟨⟩⟩⟩ h
 have h':=bh h
 dsimp only at h'
 obtain ⟨rfl,rfl,ha0,ha1⟩:=h'
 have:=(aW (T:=pT) (λb d=>(((c,at',(),(),(),d,l,n,i,(b:Int),()),c0,S,t,()):bg)) (tH (keyOf t) at')
  (λd=>(⟨(.exit 4,ln),((c,at',(),(),(),d,l,n,i,()),c0,S,t,())⟩:aT)) 4 0 (λ_ _=>True) trivial (λk d hk _=>⟨?_,trivial⟩) (λd _=> ?_)).1
 ·obtain ⟨m,hm⟩:=this
  exact ⟨m,_,hm,rfl⟩
 ·have hr:inR ((k:Int)+1)=true:=aL (by omega)
  have hgr:∀ z:OT (Sum bg aT),(gd [inR ((k:Int)+1)] z).run=z.run:=λz=>ae (by rw [hr];rfl)
  refine (OT.ak (aj (by dsimp only;omega))).trans ((ae ?_).trans ?_)
  ·simp only [ax,aA,aC]
   exact aL (by omega)
  ·unfold tH
   rcases (bX (rm (keyOf t) (at'+(k:Int)))).symm with hb|hb
   ·rw [hb]
    exact (OT.al hb).trans ((hgr _).trans rfl)
   ·rw [hb]
    refine (OT.ak hb).trans ((ae ?_).trans rfl)
    simp only [ax,aA,aC,av]
    exact ⟨aj (by omega),hr⟩
 ·exact OT.al (bn (by dsimp only;omega))
def eM (c a:Int) (l:List Tm) (k:Nat) (S:List Pt):List Pt:=cond (decide (0<W9 (l.getD k kK).1 a))
 (S.set (W9 (l.getD k kK).1 a-1).toNat (fS c (S.getD (W9 (l.getD k kK).1 a-1).toNat eJ) (l.getD k kK).2)) S
theorem mB (c a:Int) (l:List Tm) (k:Nat) (S:List Pt):(eM c a l k S).length=S.length:=by
 unfold eM
 cases decide (0<W9 (l.getD k kK).1 a)
 ·rfl
 ·exact dm ..
def aC3 (c a:Int) (l:List Tm) (S:List Pt):List Pt:=upto (eM c a l) S l.length
def EW (s:ca):Bool:=decide (s.1.2.2.2.2.2.1=(s.1.2.2.2.2.1.length:Int)/\s.1.2.2.2.2.2.2.1=0/\s.2.2.1.length=15/\(0<=s.1.2.1/\s.1.2.1<=1000)/\s.1.2.2.2.2.1.length<=140737488355328)
def Iz (s:ca):fK:=((s.1.1,(),(),()),s.2.1,aC3 s.1.1 s.1.2.1 s.1.2.2.2.2.1 s.2.2.1,())
theorem aES {ok4:bg->Bool} {g4:bg->dh} {c a:Int} {l:List Tm} {k:Nat} {c0:C9} {S:List Pt} {t:Tm} {d:Int} (ht:l.getD k kK=t) (hk:k<l.length) (hl:l.length<=140737488355328) (hS:S.length=15) (hd:0<=d/\d<=15)
 (h4:ok4 (adO c a 0 l (l.length:Int) (k:Int) 0 c0 S (ahf t))=true)
 (e4:g4 (adO c a 0 l (l.length:Int) (k:Int) 0 c0 S (ahf t))=((c,a,(),(),(),d,l,(l.length:Int),(k:Int),()),c0,S,ahf t,())):
 (jJ ok4 g4 ((c,a,(),(),l,(l.length:Int),(k:Int),()),c0,S,())).run=some (.inl ((c,a,(),(),l,(l.length:Int),((k+1:Nat):Int),()),c0,cond (decide (0<d)) (S.set (d-1).toNat (fS c (S.getD (d-1).toNat eJ) t.2)) S,())):=by
 have hr:inR ((k:Int)+1)=true:=aL (by omega)
 unfold adO at h4 e4
 unfold jJ IF
 have ht':List.getD l (Int.toNat (k:Int)) (⟨0,0,0,0⟩,⟨0,0,0,0⟩,⟨0,0,0,0⟩,false)=t:=by rw [bH];exact ht
 simp only [ht']
 refine (OT.ak (aj (by omega))).trans ((ae ?_).trans ?_)
 ·simp only [ax,aA,aC,av]
  exact ⟨aR (by omega),h4⟩
 ·have e4':g4 ((c,a,(),(),(),0,l,(l.length:Int),(k:Int),0,()),(c0.1,c0.2.1,c0.2.2.1,c0.2.2.2.1,c0.2.2.2.2.1,c0.2.2.2.2.2.1,c0.2.2.2.2.2.2.1,c0.2.2.2.2.2.2.2.1,c0.2.2.2.2.2.2.2.2.1,()),S,(t.1.w0,t.1.w1,t.1.w2,t.1.w3,t.2.1.w0,t.2.1.w1,t.2.1.w2,t.2.1.w3,t.2.2.1.w0,t.2.2.1.w1,t.2.2.1.w2,t.2.2.1.w3,t.2.2.2,()),())=((c,a,(),(),(),d,l,(l.length:Int),(k:Int),()),c0,S,ahf t,()):=e4
  simp only [e4']
  by_cases h0:0<d
  ·rw [aj h0]
   refine (OT.ak rfl).trans ((ae ?_).trans ?_)
   ·simp only [hS,Nat.add_zero,hr,ax,aA,aC,av]
    have i1:inR (d-1)=true:=aL (by omega)
    have i2:inB (d-1) 15=true:=aR (by omega)
    have i3:decide ((d-1).toNat<15)=true:=aj (by omega)
    exact ⟨i1,i1,i2,i3,i2,i3⟩
   ·rfl
  ·rw [bn h0]
   refine (OT.al rfl).trans ((ae ?_).trans rfl)
   simp only [hr,ax,aA,aC]
theorem abA:aY (jJ np pQ) EW (ID Iz):=by
 rintro ⟨⟨c,at',⟨⟩,⟨⟩,l,n,i,⟨⟩⟩,⟨c0,S,⟨⟩⟩⟩ h
 have h':=bh h
 dsimp only at h'
 obtain ⟨rfl,rfl,hS,⟨ha0,ha1⟩,hl⟩:=h'
 have:=(aW (T:=jJ np pQ) (λi o=>(((c,at',(),(),l,(l.length:Int),(i:Int),()),c0,o,()):ca)) (eM c at' l)
  (λo=>(⟨(.exit 2,lp),((c,(),(),()),c0,o,())⟩:aT)) l.length S (λ_ o=>o.length=15) hS (λk o hk ho=>⟨?_,(mB c at' l k o).trans ho⟩) (λo ho=> ?_)).1
 ·obtain ⟨m,hm⟩:=this
  exact ⟨m,_,hm,rfl⟩
 ·exact aES rfl hk hl ho (asY _ _) (aj ⟨rfl,rfl,ha0,ha1⟩) rfl
 ·exact OT.al (bn (by dsimp only;omega))
def gW (c:Int) (S:List Pt) (n:Nat) (w:Pt×Pt):Pt×Pt:=(fS c w.1 (S.getD (14-n) eJ),fS c w.2 (fS c w.1 (S.getD (14-n) eJ)))
def aG6 (c:Int) (S:List Pt):Pt×Pt:=upto (gW c S) (aK,aK) 15
def EV (s:b9):Bool:=decide (s.1.2.2.2.2.2.1=14/\s.2.2.1.length=15/\Kn s.2.2.2.1=aK/\Kn s.2.2.2.2.1=aK)
def Iy (s:b9):hI:=(((),(),()),s.2.1,bN (aG6 s.1.1 s.2.2.1).2,())
theorem aby:aY pR EV (IB Iy):=by
 rintro ⟨⟨c,⟨⟩,⟨⟩,⟨⟩,⟨⟩,i,⟨⟩⟩,⟨c0,S,r,a,⟨⟩⟩⟩ h
 have h':=bh h
 dsimp only at h'
 obtain ⟨rfl,hS,hr,ha⟩:=h'
 have hr2:r=bN aK:=by rw [<-hr];rfl
 have ha2:a=bN aK:=by rw [<-ha];rfl
 subst hr2 ha2
 have:=(aW (T:=pR) (λn w=>(((c,(),(),(),(),14-(n:Int),()),c0,S,bN w.1,bN w.2,()):b9)) (gW c S)
  (λw=>(⟨(.exit 6,lm),(((),(),()),c0,bN w.2,())⟩:aT)) 15 (aK,aK) (λ_ _=>True) trivial (λn w hn _=>⟨?_,trivial⟩) (λw _=> ?_)).1
 ·obtain ⟨m,hm⟩:=this
  exact ⟨m,_,hm,rfl⟩
 ·have e1:((14:Int)-(n:Int)).toNat=14-n:=by omega
  have e2:(14:Int)-(n:Int)-1=14-((n+1:Nat):Int):=by omega
  refine (OT.ak (aj (by dsimp only;omega))).trans ((ae ?_).trans ?_)
  ·simp only [e1,hS,Nat.add_zero,ax,aA,aC,av]
   exact ⟨aR (by omega),aj (by omega),aL (by omega)⟩
  ·rw [<-e2]
   simp only [OT.gb,e1,Nat.add_zero]
   rfl
 ·exact OT.al (bn (by dsimp only;omega))
def adP (c:Int) (l:List Tm) (a:Int):Pt:=(aG6 c (aC3 c a l (List.replicate 15 aK))).2
theorem Qx {ok4:bg->Bool} {g4:bg->dh} {ok0:cb->Bool} {g0:cb->fL} {ok2:ca->Bool} {g2:ca->fK} {ok6:b9->Bool} {g6:b9->hI} {c a:Int} {l:List Tm} {S0 S:List Pt} {R:Pt} {z:C9}
 (h0:ok0 ((c,l,a,(),(),0,()),bN eJ,List.replicate 15 eJ,())=true) (e0:g0 ((c,l,a,(),(),0,()),bN eJ,List.replicate 15 eJ,())=((c,l,a,(),(),()),bN eJ,S0,()))
 (h2:ok2 ((c,a,(),(),l,(l.length:Int),0,()),bN eJ,S0,())=true) (e2:g2 ((c,a,(),(),l,(l.length:Int),0,()),bN eJ,S0,())=((c,(),(),()),bN eJ,S,()))
 (h6:ok6 ((c,(),(),(),(),14,()),bN eJ,S,bN aK,bN aK,())=true) (e6:g6 ((c,(),(),(),(),14,()),bN eJ,S,bN aK,bN aK,())=(((),(),()),z,bN R,())):
 (va ok0 g0 ok4 g4 ok2 g2 ok6 g6 c l a).run=some ⟨pP,((R,()),())⟩:=by
 have e0':g0 ((c,l,a,(),(),0,()),(0,0,0,0,0,0,0,0,false,()),[((⟨0,0,0,0⟩,⟨0,0,0,0⟩,false):Pt),((⟨0,0,0,0⟩,⟨0,0,0,0⟩,false):Pt),((⟨0,0,0,0⟩,⟨0,0,0,0⟩,false):Pt),((⟨0,0,0,0⟩,⟨0,0,0,0⟩,false):Pt),((⟨0,0,0,0⟩,⟨0,0,0,0⟩,false):Pt),((⟨0,0,0,0⟩,⟨0,0,0,0⟩,false):Pt),((⟨0,0,0,0⟩,⟨0,0,0,0⟩,false):Pt),((⟨0,0,0,0⟩,⟨0,0,0,0⟩,false):Pt),((⟨0,0,0,0⟩,⟨0,0,0,0⟩,false):Pt),((⟨0,0,0,0⟩,⟨0,0,0,0⟩,false):Pt),((⟨0,0,0,0⟩,⟨0,0,0,0⟩,false):Pt),((⟨0,0,0,0⟩,⟨0,0,0,0⟩,false):Pt),((⟨0,0,0,0⟩,⟨0,0,0,0⟩,false):Pt),((⟨0,0,0,0⟩,⟨0,0,0,0⟩,false):Pt),((⟨0,0,0,0⟩,⟨0,0,0,0⟩,false):Pt)],())=((c,l,a,(),(),()),bN eJ,S0,()):=e0
 have e2':g2 ((c,a,(),(),l,(l.length:Int),0,()),((bN eJ).1,(bN eJ).2.1,(bN eJ).2.2.1,(bN eJ).2.2.2.1,(bN eJ).2.2.2.2.1,(bN eJ).2.2.2.2.2.1,(bN eJ).2.2.2.2.2.2.1,(bN eJ).2.2.2.2.2.2.2.1,(bN eJ).2.2.2.2.2.2.2.2.1,()),S0,())=((c,(),(),()),bN eJ,S,()):=e2
 have e6':g6 ((c,(),(),(),(),14,()),((bN eJ).1,(bN eJ).2.1,(bN eJ).2.2.1,(bN eJ).2.2.2.1,(bN eJ).2.2.2.2.1,(bN eJ).2.2.2.2.2.1,(bN eJ).2.2.2.2.2.2.1,(bN eJ).2.2.2.2.2.2.2.1,(bN eJ).2.2.2.2.2.2.2.2.1,()),S,(0,0,0,0,0,0,0,0,true,()),(0,0,0,0,0,0,0,0,true,()),())=(((),(),()),z,bN R,()):=e6
 unfold va
 simp only [e0',e2',e6']
 refine (ae ?_).trans rfl
 simp only [ax,aA,aC,av]
 exact ⟨h0,h2,h6⟩
theorem Ho (c a:Int) (l:List Tm) (S:List Pt):∀ n,(upto (eM c a l) S n).length=S.length
 |0=>rfl
 |n+1=>(mB c a l n _).trans (Ho c a l S n)
def sF (x:sG):Bool:=decide ((0<=x.1.2.2.1/\x.1.2.2.1<=1000)/\x.1.2.1.length<=140737488355328)
def M8 (x:sG):OT jK.Y:=.ok ⟨pP,((adP x.1.1 x.1.2.1 x.1.2.2.1,()),())⟩
theorem abx:aa ag 182 (jK.aw sF M8):=Qw EX IA np pQ EW Iz EV Iy abB abz abA aby _ _ λx oy hp ho=>by
 rw [<-ho]
 clear ho
 obtain ⟨⟨c,l,a,⟨⟩⟩,⟨⟩⟩:=x
 obtain ⟨ha,hl⟩:=bh hp
 exact Qx (S0:=List.replicate 15 aK) (S:=aC3 c a l (List.replicate 15 aK)) (R:=adP c l a) (z:=bN eJ) (aj ⟨rfl,rfl⟩) rfl
  (aj ⟨rfl,rfl,rfl,ha,hl⟩) rfl (aj ⟨rfl,Ho c a l _ l.length,rfl,rfl⟩) rfl
def pO:bi:=(jK.aw sF M8)
theorem LN:aa ag 182 pO:=abx
theorem LM:au pO:=aq
def Oz:Env:=ap 182 pO aBT
theorem nJ:bI ag te Oz:=aP follows v9 LN LM
def xS:af:=⟨[aB,.val false (.list Cz)],[],true,0,false⟩
abbrev Vi:Type:=Ym
def axG:Shape:=⟨39,[ig,zr,dC,rB,(6,aB)],La,0,true⟩
abbrev dv:Type:=ail
def axF:Shape:=⟨39,[ig,zr,dC,rB,(6,aB),(24,aB)],La,0,true⟩
abbrev cm:Type:=(Int×cY×rv)×tZ
def uZ:Shape:=⟨39,[ig,zr,dC,rB,(6,aB)],La,0,true⟩
abbrev gn:Type:=ail
def axK (a0:Int) (a1:cY) (a6:Int) (a24:Int) (c0_0:UInt64) (c0_1:UInt64) (c0_2:UInt64) (c0_3:UInt64) (c0_4:UInt64) (c0_5:UInt64) (c0_6:UInt64) (c0_7:UInt64) (c0_8:Bool) (c1_0:UInt64) (c1_1:UInt64) (c1_2:UInt64) (c1_3:UInt64) (c1_4:UInt64) (c1_5:UInt64) (c1_6:UInt64) (c1_7:UInt64) (c1_8:Bool):OT (Sum cm aT):=
 let z0:cM:=({w0:=c1_0,w1:=c1_1,w2:=c1_2,w3:=c1_3},{w0:=c1_4,w1:=c1_5,w2:=c1_6,w3:=c1_7},c1_8)
 let z1:cM:=fS a0 z0 z0
 let z2:=z1.fst
 let z3:=z1.snd
 let z4:=z3.fst
 (.br (decide (a24<(4:Int)))
 (gd [inR (a24+(1:Int))] (.ok (.inl ((a0,a1,(),(),a6,a24+(1:Int),()),(c0_0,c0_1,c0_2,c0_3,c0_4,c0_5,c0_6,c0_7,c0_8,()),(z2.w0,z2.w1,z2.w2,z2.w3,z4.w0,z4.w1,z4.w2,z4.w3,z3.snd,()),()))))
 (.ok (.inr ⟨(.exit 2,uZ),((a0,a1,(),(),a6,()),(c0_0,c0_1,c0_2,c0_3,c0_4,c0_5,c0_6,c0_7,c0_8,()),(c1_0,c1_1,c1_2,c1_3,c1_4,c1_5,c1_6,c1_7,c1_8,()),())⟩)))
def F9 (s:cm):OT (Sum cm aT):=axK s.1.1 s.1.2.1 s.1.2.2.2.2.1 s.1.2.2.2.2.2.1 s.2.1.1 s.2.1.2.1 s.2.1.2.2.1 s.2.1.2.2.2.1 s.2.1.2.2.2.2.1 s.2.1.2.2.2.2.2.1 s.2.1.2.2.2.2.2.2.1 s.2.1.2.2.2.2.2.2.2.1 s.2.1.2.2.2.2.2.2.2.2.1 s.2.2.1.1 s.2.2.1.2.1 s.2.2.1.2.2.1 s.2.2.1.2.2.2.1 s.2.2.1.2.2.2.2.1 s.2.2.1.2.2.2.2.2.1 s.2.2.1.2.2.2.2.2.2.1 s.2.2.1.2.2.2.2.2.2.2.1 s.2.2.1.2.2.2.2.2.2.2.2.1
def agq (g2_2:cm->gn) (s:cm):OT aT:=(.ok ⟨(.exit 2,uZ),g2_2 s⟩)
def u4:Shape:=⟨39,[dC,rB],La,0,true⟩
abbrev mh:Type:=mK×tZ
def ags (ok2:cm->Bool) (g2_2:cm->gn) (a0:Int) (a1:cY) (a6:Int) (c0_0:UInt64) (c0_1:UInt64) (c0_2:UInt64) (c0_3:UInt64) (c0_4:UInt64) (c0_5:UInt64) (c0_6:UInt64) (c0_7:UInt64) (c0_8:Bool) (c1_0:UInt64) (c1_1:UInt64) (c1_2:UInt64) (c1_3:UInt64) (c1_4:UInt64) (c1_5:UInt64) (c1_6:UInt64) (c1_7:UInt64) (c1_8:Bool):OT (Sum dv aT):=
 let z0:cm:=((a0,a1,(),(),a6,(0:Int),()),(c0_0,c0_1,c0_2,c0_3,c0_4,c0_5,c0_6,c0_7,c0_8,()),(c1_0,c1_1,c1_2,c1_3,c1_4,c1_5,c1_6,c1_7,c1_8,()),())
 let z1:dv:=g2_2 z0
 let z2:=z1.fst
 let z3:=z2.fst
 let z4:=z2.snd
 let z5:=z4.fst
 let z6:=z4.snd.snd.snd.fst
 let z7:=z1.snd
 let z8:=z7.fst
 let z9:=z8.snd
 let z10:=z9.snd
 let z11:=z10.snd
 let z12:=z11.snd
 let z13:=z12.snd
 let z14:=z13.snd
 let z15:=z14.snd
 let z16:=z7.snd.fst
 let z17:=z16.snd
 let z18:=z17.snd
 let z19:=z18.snd
 let z20:=z19.snd
 let z21:=z20.snd
 let z22:=z21.snd
 let z23:=z22.snd
 let z24:cM:=fS z3 ({w0:=z16.fst,w1:=z17.fst,w2:=z18.fst,w3:=z19.fst},{w0:=z20.fst,w1:=z21.fst,w2:=z22.fst,w3:=z23.fst},z23.snd.fst) (adP z3 z5 z6)
 let z25:=z24.fst
 let z26:=z24.snd
 let z27:=z26.fst
 (.br (decide ((0:Int)<=a6))
 (gd [ok2 z0,sF ((z3,z5,z6,()),()),inR (z6-(4:Int))] (.ok (.inl ((z3,z5,(),(),z6-(4:Int),()),(z8.fst,z9.fst,z10.fst,z11.fst,z12.fst,z13.fst,z14.fst,z15.fst,z15.snd.fst,()),(z25.w0,z25.w1,z25.w2,z25.w3,z27.w0,z27.w1,z27.w2,z27.w3,z26.snd,()),()))))
 (.ok (.inr ⟨(.exit 0,u4),(((),(),()),(c0_0,c0_1,c0_2,c0_3,c0_4,c0_5,c0_6,c0_7,c0_8,()),(c1_0,c1_1,c1_2,c1_3,c1_4,c1_5,c1_6,c1_7,c1_8,()),())⟩)))
def u5 (ok2:cm->Bool) (g2_2:cm->gn) (s:dv):OT (Sum dv aT):=ags ok2 g2_2 s.1.1 s.1.2.1 s.1.2.2.2.2.1 s.2.1.1 s.2.1.2.1 s.2.1.2.2.1 s.2.1.2.2.2.1 s.2.1.2.2.2.2.1 s.2.1.2.2.2.2.2.1 s.2.1.2.2.2.2.2.2.1 s.2.1.2.2.2.2.2.2.2.1 s.2.1.2.2.2.2.2.2.2.2.1 s.2.2.1.1 s.2.2.1.2.1 s.2.2.1.2.2.1 s.2.2.1.2.2.2.1 s.2.2.1.2.2.2.2.1 s.2.2.1.2.2.2.2.2.1 s.2.2.1.2.2.2.2.2.2.1 s.2.2.1.2.2.2.2.2.2.2.1 s.2.2.1.2.2.2.2.2.2.2.2.1
def agr (g0_0:dv->mh) (s:dv):OT aT:=(.ok ⟨(.exit 0,u4),g0_0 s⟩)
def uY:aH:=⟨oP,[],false⟩
def Ip (ok2:cm->Bool) (g2_2:cm->gn) (ok0:dv->Bool) (g0_0:dv->mh) (a0:Int) (a1:cY):OT xS.Y:=
 let z0:Int:=Int.tdiv ((↑(Zh a1):Int)+(4:Int)-(1:Int)) (4:Int)
 let z1:dv:=((a0,a1,(),(),z0*(4:Int),()),((0:UInt64),(0:UInt64),(0:UInt64),(0:UInt64),(0:UInt64),(0:UInt64),(0:UInt64),(0:UInt64),false,()),((0:UInt64),(0:UInt64),(0:UInt64),(0:UInt64),(0:UInt64),(0:UInt64),(0:UInt64),(0:UInt64),true,()),())
 let z2:=(g0_0 z1).snd.snd.fst
 let z3:=z2.snd
 let z4:=z3.snd
 let z5:=z4.snd
 let z6:=z5.snd
 let z7:=z6.snd
 let z8:=z7.snd
 let z9:=z8.snd
 (.br (decide ((↑(List.length a1):Int)<(24:Int)))
 (gd [xT ((a0,a1,()),())] (.ok ⟨uY,((po a0 a1,()),())⟩))
 (gd [Qh ((a1,()),()),inR ((↑(Zh a1):Int)+(4:Int)),inR ((↑(Zh a1):Int)+(4:Int)-(1:Int)),true&&inR z0,inR (z0*(4:Int)),ok0 z1] (.ok ⟨uY,((({w0:=z2.fst,w1:=z3.fst,w2:=z4.fst,w3:=z5.fst},{w0:=z6.fst,w1:=z7.fst,w2:=z8.fst,w3:=z9.fst},z9.snd.fst),()),())⟩)))
theorem alr (ok2:cm->Bool) (g2_2:cm->gn) (ok0:dv->Bool) (g0_0:dv->mh) (h2:aY F9 ok2 (agq g2_2)) (h0:aY (u5 ok2 g2_2) ok0 (agr g0_0)) (pre:Vi->Bool) (F:Vi->OT xS.Y) (hF:∀ (x:Vi) oy,pre x=true->(F x).run=some oy->(Ip ok2 g2_2 ok0 g0_0 x.1.1 x.1.2.1).run=some oy):aa ag 160 (xS.aw pre F):=
 cC nJ 160 Tryz.f160 xS [uY] (js nJ 0 axG [(0,u4)] none none (u5 ok2 g2_2) (js nJ 2 axF [(2,uZ)] none none F9 bw h2 bw) h0 bw) (λx=>Ip ok2 g2_2 ok0 g0_0 x.1.1 x.1.2.1) hF
theorem ZY (l:List Tm):∀ n,anG l n<=n
 |0=>Nat.le_refl _
 |n+1=>by
  unfold anG
  cases aFn l (n:Int)
  ·exact Nat.le_succ_of_le (ZY l n)
  ·exact Nat.le_refl _
def aGz (c:Int) (O:Pt):Pt:=upto (λ_ o=>fS c o o) O 4
def sC (s:cm):Bool:=decide (s.1.2.2.2.2.2.1=0)
def AP (s:cm):gn:=((s.1.1,s.1.2.1,(),(),s.1.2.2.2.2.1,()),s.2.1,bN (aGz s.1.1 (Kn s.2.2.1)),())
theorem axI:aY F9 sC (agq AP):=by
 rintro ⟨⟨c,l,⟨⟩,⟨⟩,a,i,⟨⟩⟩,⟨c0,c1,⟨⟩⟩⟩ h
 have h':=bh h
 dsimp only at h'
 subst h'
 have:=(aW (T:=F9) (λi O=>(((c,l,(),(),a,(i:Int),()),c0,bN O,()):cm)) (λ_ o=>fS c o o)
  (λO=>(⟨(.exit 2,uZ),((c,l,(),(),a,()),c0,bN O,())⟩:aT)) 4 (Kn c1) (λ_ _=>True) trivial (λk O hk _=>⟨?_,trivial⟩) (λO _=> ?_)).1
 ·obtain ⟨m,hm⟩:=this
  exact ⟨m,_,hm,rfl⟩
 ·refine (OT.ak (aj (by dsimp only;omega))).trans ((ae ?_).trans rfl)
  simp only [ax,aA,aC]
  exact aL (by omega)
 ·exact OT.al (bn (by dsimp only;omega))
def nK (c:Int) (l:List Tm) (W n:Nat) (O:Pt):Pt:=fS c (aGz c O) (adP c l (4*(W:Int)-4*(n:Int)))
def rj (l:List Tm):Nat:=(Zh l+3)/4
def aG1 (c:Int) (l:List Tm):Pt:=upto (nK c l (rj l)) aK (rj l+1)
def an1 (c:Int) (l:List Tm) (a:Int) (c0:C9) (O:Pt):cm:=((c,l,(),(),a,0,()),c0,bN O,())
theorem aFr {ok2:cm->Bool} {g2:cm->gn} {c a:Int} {l:List Tm} {c0:C9} {O D:Pt} (h0:0<=a) (h1:a<=1000) (hl:l.length<=140737488355328) (hok:ok2 (an1 c l a c0 O)=true)
 (e2:g2 (an1 c l a c0 O)=((c,l,(),(),a,()),c0,bN D,())):
 (u5 ok2 g2 ((c,l,(),(),a,()),c0,bN O,())).run=some (.inl ((c,l,(),(),a-4,()),c0,bN (fS c D (adP c l a)),())):=by
 unfold an1 at hok e2
 have e2':g2 ((c,l,(),(),a,0,()),(c0.1,c0.2.1,c0.2.2.1,c0.2.2.2.1,c0.2.2.2.2.1,c0.2.2.2.2.2.1,c0.2.2.2.2.2.2.1,c0.2.2.2.2.2.2.2.1,c0.2.2.2.2.2.2.2.2.1,()),((bN O).1,(bN O).2.1,(bN O).2.2.1,(bN O).2.2.2.1,(bN O).2.2.2.2.1,(bN O).2.2.2.2.2.1,(bN O).2.2.2.2.2.2.1,(bN O).2.2.2.2.2.2.2.1,(bN O).2.2.2.2.2.2.2.2.1,()),())=((c,l,(),(),a,()),c0,bN D,()):=e2
 unfold u5 ags
 simp only [e2']
 refine (OT.ak (aj h0)).trans ((ae ?_).trans rfl)
 simp only [ax,aA,aC,av]
 exact ⟨hok,aj ⟨⟨h0,h1⟩,hl⟩,aL (by omega)⟩
def Io (s:dv):Bool:=decide (s.1.2.2.2.2.1=4*(rj s.1.2.1:Int)/\Kn s.2.2.1=aK/\s.1.2.1.length<=140737488355328)
def Qo (s:dv):mh:=(((),(),()),s.2.1,bN (aG1 s.1.1 s.1.2.1),())
theorem axJ:aY (u5 sC AP) Io (agr Qo):=by
 rintro ⟨⟨c,l,⟨⟩,⟨⟩,a,⟨⟩⟩,⟨c0,c1,⟨⟩⟩⟩ h
 have h':=bh h
 dsimp only at h'
 obtain ⟨rfl,hO,hl⟩:=h'
 have hO2:c1=bN aK:=by rw [<-hO];rfl
 subst hO2
 have hW:rj l<=64:=by
  have:=ZY l 256
  unfold rj Zh
  omega
 have:=(aW (T:=u5 sC AP) (λn O=>(((c,l,(),(),4*(rj l:Int)-4*(n:Int),()),c0,bN O,()):dv)) (nK c l (rj l))
  (λO=>(⟨(.exit 0,u4),(((),(),()),c0,bN O,())⟩:aT)) (rj l+1) aK (λ_ _=>True) trivial (λn O hn _=>⟨?_,trivial⟩) (λO _=> ?_)).1
 ·obtain ⟨m,hm⟩:=this
  refine ⟨m,_,?_,rfl⟩
  have e:4*(rj l:Int)-4*((0:Nat):Int)=4*(rj l:Int):=by omega
  rw [e] at hm
  exact hm
 ·have e:4*(rj l:Int)-4*((n+1:Nat):Int)=4*(rj l:Int)-4*(n:Int)-4:=by omega
  rw [e]
  exact aFr (D:=aGz c O) (by omega) (by omega) hl (aj rfl) rfl
 ·exact OT.al (bn (by dsimp only;omega))
def aHg (l:List Tm):Bool:=decide ((l.length:Int)<24)
def wc (c:Int) (l:List Tm):Pt:=cond (aHg l) (po c l) (aG1 c l)
def AO (x:Vi):Bool:=decide (x.1.2.1.length<=140737488355328)
def aqG (x:Vi):OT xS.Y:=.ok ⟨uY,((wc x.1.1 x.1.2.1,()),())⟩
theorem als {ok2:cm->Bool} {g2:cm->gn} {ok0:dv->Bool} {g0:dv->mh} {c:Int} {l:List Tm} {R:Pt} (hl:l.length<=140737488355328) (hf:aHg l=false)
 (h0:ok0 ((c,l,(),(),4*(rj l:Int),()),bN eJ,bN aK,())=true) (e0:g0 ((c,l,(),(),4*(rj l:Int),()),bN eJ,bN aK,())=(((),(),()),bN eJ,bN R,())):
 (Ip ok2 g2 ok0 g0 c l).run=some ⟨uY,((R,()),())⟩:=by
 have ht:Int.tdiv ((Zh l:Int)+4-1) 4=(rj l:Int):=by
  unfold rj
  rw [Int.tdiv_eq_ediv_of_nonneg (by omega)]
  omega
 have hW:=ZY l 256
 have hW:Zh l<=256:=hW
 have hW2:rj l<=64:=by unfold rj;omega
 have e1:(rj l:Int)*4=4*(rj l:Int):=Int.mul_comm _ _
 unfold Ip
 have e0':g0 ((c,l,(),(),4*(rj l:Int),()),(0,0,0,0,0,0,0,0,false,()),(0,0,0,0,0,0,0,0,true,()),())=(((),(),()),bN eJ,bN R,()):=e0
 simp only [ht,e1,e0']
 refine (OT.al hf).trans ((ae ?_).trans rfl)
 simp only [ax,aA,aC,Bool.true_and,av]
 exact ⟨aj hl,aL (by omega),aL (by omega),aL (by omega),aL (by omega),h0⟩
theorem axH:aa ag 160 (xS.aw AO aqG):=alr sC AP Io Qo axI axJ _ _ λx oy hp ho=>by
 rw [<-ho]
 clear ho
 obtain ⟨⟨c,l,⟨⟩⟩,⟨⟩⟩:=x
 have hl:l.length<=140737488355328:=bh hp
 show (Ip sC AP Io Qo c l).run=some ⟨uY,((wc c l,()),())⟩
 rcases (bX (aHg l)).symm with hf|hf
 ·have e:wc c l=aG1 c l:=by unfold wc;rw [hf];rfl
  rw [e]
  exact als (R:=aG1 c l) hl hf (aj ⟨rfl,rfl,hl⟩) rfl
 ·have e:wc c l=po c l:=by unfold wc;rw [hf];rfl
  rw [e]
  refine (OT.ak hf).trans ((ae ?_).trans rfl)
  simp only [ax,aA,aC]
  exact hp
def Dd:bi:=(xS.aw AO aqG)
theorem abp:aa ag 160 Dd:=axH
theorem abo:au Dd:=aq
def avb:Env:=ap 160 Dd Oz
theorem YP:bI ag te avb:=aP follows nJ abp abo
def pK:af:=⟨oQ,[(0,aIm mL),(1,.row Cz)],false,2,true⟩
abbrev Ij:Type:=bQ×aii
def Ii:aH:=⟨oP,[aiu,(1,ud)],false⟩
def agl (c0_0:Int) (c1:cY):OT pK.Y:=
 (gd [AO ((c0_0,c1,()),())] (.ok ⟨Ii,((wc c0_0 c1,()),(c0_0,(),()),c1,())⟩))
theorem abe (pre:Ij->Bool) (F:Ij->OT pK.Y) (hF:∀ (x:Ij) oy,pre x=true->(F x).run=some oy->(agl x.2.1.1 x.2.2.1).run=some oy):aa ag 131 (pK.aw pre F):=
 cC YP 131 Tryz.f131 pK [Ii] bw (λx=>agl x.2.1.1 x.2.2.1) hF
def C7 (x:Ij):Bool:=AO ((x.2.1.1,x.2.2.1,()),())
def agm (x:Ij):OT pK.Y:=.ok ⟨Ii,((wc x.2.1.1 x.2.2.1,()),(x.2.1.1,(),()),x.2.2.1,())⟩
theorem aqo:aa ag 131 (pK.aw C7 agm):=abe _ _ λx oy hp ho=>by
 rw [<-ho]
 clear ho
 refine (ae ?_).trans rfl
 simp only [ax,aA,aC]
 exact hp
def xP:bi:=(pK.aw C7 agm)
theorem Ve:aa ag 131 xP:=aqo
theorem Vd:au xP:=aq
def aiU:Env:=ap 131 xP avb
theorem Ep:bI ag te aiU:=aP follows YP Ve Vd
end
end Go.Proofs.YthnnknnbfhkomaaGreat
